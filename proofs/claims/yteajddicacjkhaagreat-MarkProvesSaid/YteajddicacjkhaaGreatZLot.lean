/-
  MarkProves holds for every input: of any made ship and route, one number changed, a proof is shown where the reference says so, and both accept the same proofs; the statement's function returns true and never panics.
-/
import Derived.Test.YteajddicacjkhaaGreatKf
import Derived.Test.YteajddicacjkhaaGreatRows
import Derived.OpenShut
import Derived.ProofKit
import Derived.ShutString
import Derived.ChangeOld
namespace Go.Proofs.YteajddicacjkhaaGreat
open Go.MW Go.ChangeShapes Go.WideShapes Go.ChangeAt Go.RowKit
theorem BW{W:World}{v1:Value}{a1:WX}{v0:Value}{a0:SG}(w0:∃vs v5 v4 vp vn vg,v0=a0.agg vs v5 v4 vp vn vg∧J7 (hp W) a0 vs v5 v4 vp vn vg)(_:I64 a0.m1∧I64 a0.m2)(w1:SH (hp W) v1 a1)(_:I64 a1.leg∧I64 a1.mass):
  Cl Tryz.prog 16 [v0,v1] W fun v w'=>v= .bool true∧∃H',HLe (hp W) H'∧St H' w' []:=by
 obtain ⟨vs,v5,v4,vp,vn,vg,rfl,h⟩:=w0;exact um (St.start W) h w1
set_option maxRecDepth 100000 in
theorem xF(os:Os)(started:os.Started)(H:Type)(enc:TypeId×Value→H):
  ReturnsInHanded {} Tryz.checked os 16 .any (Rows.markProvesSpec.pre6 enc Tryz.prog Tryz.f16 Rows.markProvesRow.domain false) (Rows.markProvesSpec.post enc Tryz.prog Tryz.f16 false true false false):=by
 refine returnsInHanded_of_change_sized (C:=Tryz.checked) Vw started aD Tryz.func16
  (ChangeSpec.witness6 (enc:=enc) (C:=Tryz.checked) false ⟨#[],#[.agg #[.slice none 0 0,.slice none 0 0,.slice none 0 0,.slice none 0 0,I 0,I 0,I 0,.slice none 0 0,.slice none 0 0,I 0,I 0,I 0,I 0,I 0],.agg #[I 0,I 0,.bool false,.slice none 0 0,I 0,.slice none 0 0]],[]⟩ 8 aD aD aD aD) ?_
 intro W base args ds gs before T5 hW hcnd ur _;have Ly:∀(j:Nat) t v,Tryz.f16.params[j]? =some t→args[j]? =some v→Value.okWide Tryz.prog W .any base t v:=T5;have Ek:=hW;obtain ⟨p,q,OZ,hV,rfl,hfz,yz⟩:=hW;have hA:DataW.TrodAll enc Tryz.prog W 0 (fun _=>true) true Tryz.f16.params.toList args.toList ds p:=OZ;have Zy:=hA;rw [Tryz.params16] at hA Ly;obtain ⟨v0,vs0,d0,ds0,p0,q0,abE,rfl,rfl,h0,r0⟩:=trodAll_cons hA;obtain ⟨v1,vs1,d1,ds1,p1,q1,rfl,rfl,rfl,h1,r1⟩:=trodAll_cons r0;obtain ⟨rfl,rfl,rfl⟩:=trodAll_nil r1;obtain rfl:args=#[v0,v1]:=by cases args;simp_all
 obtain ⟨rfl,rfl⟩:=trodVars_none hV;have k0:Wt Tryz.prog 44 d0:=fun n hn=>(by have:=List.all_eq_true.1 ur n (DataW.weights_mem_each (j:=0) rfl rfl n hn);simpa using this)
 obtain ⟨a0,w0,u0⟩:=Jw (Ly 0 44 v0 rfl rfl) h0 k0;have k1:Wt Tryz.prog 124 d1:=fun n hn=>(by have:=List.all_eq_true.1 ur n (DataW.weights_mem_each (j:=1) rfl rfl n hn);simpa using this)
 obtain ⟨a1,w1,u1⟩:=GJ (Ly 1 124 v1 rfl rfl) h1 k1;refine Calls.mono (BW w0 u0 w1 u1) fun e W' ⟨v,he,hv,H',hle,hs⟩=>?_
 subst he;subst hv;have kp:=St.kept hle hs;exact ⟨_,rfl,_,_,_,[],_,[],Ek,trodAll_mk1 (shut_bool Tryz.underlying4 _),Kept.trodAll MZ kp (by rw [Tryz.params16];intro t ht;simp only [List.mem_cons,List.not_mem_nil,or_false] at ht;rcases ht with rfl|rfl<;>exact ⟨by kernel_rfl,of_decide_eq_true aD⟩) Zy,rfl,kp.frame _,fun h=>by cases h⟩
theorem ya:joinedFacts Tryz.prog 16 Tryz.f16 Rows.markProvesSpec Rows.markProvesRow=true:=by
 unfold joinedFacts;exact (uG (uG (uG (uG (uG (uG (uG (uG (uG (uG (uG (uG (uG (uG (uG (uG (uG (uG (uG (uG (uG (uG (uG (uG (uG (uG (uG (uG (uG (uG (uG aD MZ) Su) aD) aD) aD) (VB O8)) aD) (VB Pa)) aD) aD) aD) aD) aD) aD) aD) aD) aD) aD) aD) aD) aD) (VB Sw.symm)) aD) Pb) Pc) (VB O9.symm)) (VB Sv)) aD) aD) aD) aD)
theorem proved_MarkProves:Rows.MarkProvesSaid:=
 OpenClaim.holds_of_wide 16 Tryz.f16 rfl rfl rfl rfl rfl rfl rfl ⟨rfl,rfl,rfl,rfl,rfl⟩ rfl rfl rfl rfl rfl aD Tryz.func16 ya
  (of_decide_eq_true aD) (by unfold Func.isWrapper;first|(rw [if_pos (by decide+kernel)];kernel_rfl)|(rw [if_neg (by decide+kernel)];exact ⟨rfl,rfl⟩))
  (fun os started H enc _=>xF os started H enc)
end Go.Proofs.YteajddicacjkhaaGreat
