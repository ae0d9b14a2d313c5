/-
  MarkWitnesses holds for every input: of any made ship and route, one number changed, both accept the same witnesses; the statement's function returns true and never panics.
-/
import Derived.Test.YteajddicacjkhaaGreatGf
import Derived.Test.YteajddicacjkhaaGreatRows
import Derived.OpenShut
import Derived.ProofKit
import Derived.ShutString
import Derived.ChangeOld
namespace Go.Proofs.YteajddicacjkhaaGreat
open Go.MW Go.ChangeShapes Go.WideShapes Go.ChangeAt Go.RowKit
theorem s9{W:World}{v1:Value}{a1:Wit}{v0:Value}{a0:FT}(w0:∃vs v5 v4 vp vn vg,v0=a0.agg vs v5 v4 vp vn vg∧Cr (hp W) a0 vs v5 v4 vp vn vg)(_:I64 a0.m1∧I64 a0.m2)(w1:∃vh,v1= .agg #[I a1.leg,I a1.dense,I a1.nZ,vh]∧RT (hp W) vh a1.rows)(_:True):
  Cl Tryz.prog 5 [v0,v1] W fun v w'=>v= .bool true∧∃H',HLe (hp W) H'∧St H' w' []:=by
 obtain ⟨vs,v5,v4,vp,vn,vg,rfl,h⟩:=w0
 obtain ⟨vh,rfl,gh⟩:=w1
 exact oe (St.start W) h gh
set_option maxRecDepth 100000 in
theorem pL(os:Os)(started:os.Started)(H:Type)(enc:TypeId×Value→H):
  ReturnsInHanded {} Tryz.checked os 5 .any (Rows.markWitnessesSpec.pre6 enc Tryz.prog Tryz.f5 Rows.markWitnessesRow.domain false) (Rows.markWitnessesSpec.post enc Tryz.prog Tryz.f5 false true false false):=by
 refine returnsInHanded_of_change_sized (C:=Tryz.checked) Iv started aH Tryz.func5
  (ChangeSpec.witness6 (enc:=enc) (C:=Tryz.checked) false ⟨#[],#[.agg #[.slice none 0 0,.slice none 0 0,.slice none 0 0,.slice none 0 0,I 0,I 0,I 0,.slice none 0 0,.slice none 0 0,I 0,I 0,I 0,I 0,I 0],.agg #[I 0,I 0,I 0,.slice none 0 0]],[]⟩ 8 aH aH aH aH) ?_
 intro W base args ds gs before hval0 hW hcnd hsz _
 have hval:∀(j:Nat) t v,Tryz.f5.params[j]? =some t→args[j]? =some v→Value.okWide Tryz.prog W .any base t v:=hval0
 have hW':=hW
 obtain ⟨p,q,hA0,hV,rfl,hfz,hnd⟩:=hW
 have hA:DataW.TrodAll enc Tryz.prog W 0 (fun _=>true) true Tryz.f5.params.toList args.toList ds p:=hA0
 have hAk:=hA
 rw [Tryz.params5] at hA hval
 obtain ⟨v0,vs0,d0,ds0,p0,q0,hargs,rfl,rfl,h0,r0⟩:=trodAll_cons hA
 obtain ⟨v1,vs1,d1,ds1,p1,q1,rfl,rfl,rfl,h1,r1⟩:=trodAll_cons r0
 obtain ⟨rfl,rfl,rfl⟩:=trodAll_nil r1
 obtain rfl:args=#[v0,v1]:=by cases args;simp_all
 obtain ⟨rfl,rfl⟩:=trodVars_none hV
 have k0:Wt Tryz.prog 44 d0:=fun n hn=>(by have:=List.all_eq_true.1 hsz n (DataW.weights_mem_each (j:=0) rfl rfl n hn);simpa using this)
 obtain ⟨a0,w0,u0⟩:=Cg (hval 0 44 v0 rfl rfl) h0 k0
 have k1:Wt Tryz.prog 66 d1:=fun n hn=>(by have:=List.all_eq_true.1 hsz n (DataW.weights_mem_each (j:=1) rfl rfl n hn);simpa using this)
 obtain ⟨a1,w1,u1⟩:=zy (hval 1 66 v1 rfl rfl) h1 k1
 refine Calls.mono (s9 w0 u0 w1 u1) fun e W' ⟨v,he,hv,H',hle,hs⟩=>?_
 subst he;subst hv
 have kp:=St.kept hle hs
 exact ⟨_,rfl,_,_,_,[],_,[],hW',trodAll_mk1 (shut_bool Tryz.underlying4 _),Kept.trodAll D8 kp (by rw [Tryz.params5];intro t ht;simp only [List.mem_cons,List.not_mem_nil,or_false] at ht;rcases ht with rfl|rfl<;>exact ⟨by kernel_rfl,of_decide_eq_true aH⟩) hAk,rfl,kp.frame _,fun h=>by cases h⟩
theorem pP:joinedFacts Tryz.prog 5 Tryz.f5 Rows.markWitnessesSpec Rows.markWitnessesRow=true:=by
 unfold joinedFacts
 exact (qL (qL (qL (qL (qL (qL (qL (qL (qL (qL (qL (qL (qL (qL (qL (qL (qL (qL (qL (qL (qL (qL (qL (qL (qL (qL (qL (qL (qL (qL (qL aH D8) G4) aH) aH) aH) (Iz FG)) aH) (Iz FI)) aH) aH) aH) aH) aH) aH) aH) aH) aH) aH) aH) aH) aH) (Iz G6.symm)) aH) FJ) FK) (Iz FH.symm)) (Iz G5)) aH) aH) aH) aH)
theorem proved_MarkWitnesses:Rows.MarkWitnessesSaid:=
 OpenClaim.holds_of_wide 5 Tryz.f5 rfl rfl rfl rfl rfl rfl rfl ⟨rfl,rfl,rfl,rfl,rfl⟩ rfl rfl rfl rfl rfl aH Tryz.func5 pP
  (of_decide_eq_true aH) (by unfold Func.isWrapper;first|(rw [if_pos (by decide+kernel)];kernel_rfl)|(rw [if_neg (by decide+kernel)];exact ⟨rfl,rfl⟩))
  (fun os started H enc _=>pL os started H enc)
end Go.Proofs.YteajddicacjkhaaGreat
