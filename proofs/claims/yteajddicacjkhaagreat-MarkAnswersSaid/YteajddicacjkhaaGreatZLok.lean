/-
  MarkAnswers holds for every input: of any made ship and route, one number changed, both tell the same answers and the same greatest sure mass; the statement's function returns true and never panics.
-/
import Derived.Test.YteajddicacjkhaaGreatDf
import Derived.Test.YteajddicacjkhaaGreatRows
import Derived.OpenShut
import Derived.ProofKit
import Derived.ShutString
import Derived.ChangeOld
namespace Go.Proofs.YteajddicacjkhaaGreat
open Go.MW Go.ChangeShapes Go.WideShapes Go.ChangeAt Go.RowKit
theorem w7{W:World}{v0:Value}{a0:GO}(w0:∃vs v5 v4 vp vn vg,v0=a0.agg vs v5 v4 vp vn vg∧Dc (hp W) a0 vs v5 v4 vp vn vg)(_:I64 a0.m1∧I64 a0.m2):
  Cl Tryz.prog 4 [v0] W fun v w'=>v= .bool true∧∃H',HLe (hp W) H'∧St H' w' []:=by
 obtain ⟨vs,v5,v4,vp,vn,vg,rfl,h⟩:=w0
 exact qn (St.start W) h
set_option maxRecDepth 100000 in
theorem sy(os:Os)(started:os.Started)(H:Type)(enc:TypeId×Value→H):
  ReturnsInHanded {} Tryz.checked os 4 .any (Rows.markAnswersSpec.pre6 enc Tryz.prog Tryz.f4 Rows.markAnswersRow.domain false) (Rows.markAnswersSpec.post enc Tryz.prog Tryz.f4 false true false false):=by
 refine returnsInHanded_of_change_sized (C:=Tryz.checked) Jo started aD Tryz.func4
  (ChangeSpec.witness6 (enc:=enc) (C:=Tryz.checked) false ⟨#[],#[.agg #[.slice none 0 0,.slice none 0 0,.slice none 0 0,.slice none 0 0,I 0,I 0,I 0,.slice none 0 0,.slice none 0 0,I 0,I 0,I 0,I 0,I 0]],[]⟩ 8 aD aD aD aD) ?_
 intro W base args ds gs before hval0 hW hcnd hsz _
 have hval:∀(j:Nat) t v,Tryz.f4.params[j]? =some t→args[j]? =some v→Value.okWide Tryz.prog W .any base t v:=hval0
 have hW':=hW
 obtain ⟨p,q,hA0,hV,rfl,hfz,hnd⟩:=hW
 have hA:DataW.TrodAll enc Tryz.prog W 0 (fun _=>true) true Tryz.f4.params.toList args.toList ds p:=hA0
 have hAk:=hA
 rw [Tryz.params4] at hA hval
 obtain ⟨v0,vs0,d0,ds0,p0,q0,hargs,rfl,rfl,h0,r0⟩:=trodAll_cons hA
 obtain ⟨rfl,rfl,rfl⟩:=trodAll_nil r0
 obtain rfl:args=#[v0]:=by cases args;simp_all
 obtain ⟨rfl,rfl⟩:=trodVars_none hV
 have k0:Wt Tryz.prog 44 d0:=fun n hn=>(by have:=List.all_eq_true.1 hsz n (DataW.weights_mem_each (j:=0) rfl rfl n hn);simpa using this)
 obtain ⟨a0,w0,u0⟩:=CX (hval 0 44 v0 rfl rfl) h0 k0
 refine Calls.mono (w7 w0 u0) fun e W' ⟨v,he,hv,H',hle,hs⟩=>?_
 subst he;subst hv
 have kp:=St.kept hle hs
 exact ⟨_,rfl,_,_,_,[],_,[],hW',trodAll_mk1 (shut_bool Tryz.underlying4 _),Kept.trodAll EZ kp (by rw [Tryz.params4];intro t ht;simp only [List.mem_cons,List.not_mem_nil,or_false] at ht;rcases ht with rfl<;>exact ⟨by kernel_rfl,of_decide_eq_true aD⟩) hAk,rfl,kp.frame _,fun h=>by cases h⟩
theorem sL:joinedFacts Tryz.prog 4 Tryz.f4 Rows.markAnswersSpec Rows.markAnswersRow=true:=by
 unfold joinedFacts
 exact (rz (rz (rz (rz (rz (rz (rz (rz (rz (rz (rz (rz (rz (rz (rz (rz (rz (rz (rz (rz (rz (rz (rz (rz (rz (rz (rz (rz (rz (rz (rz aD EZ) Ic) aD) aD) aD) (Jq GC)) aD) (Jq GF)) aD) aD) aD) aD) aD) aD) aD) aD) aD) aD) aD) aD) aD) (Jq Ig.symm)) aD) GG) GH) (Jq GD.symm)) (Jq Ie)) aD) aD) aD) aD)
theorem proved_MarkAnswers:Rows.MarkAnswersSaid:=
 OpenClaim.holds_of_wide 4 Tryz.f4 rfl rfl rfl rfl rfl rfl rfl ⟨rfl,rfl,rfl,rfl,rfl⟩ rfl rfl rfl rfl rfl aD Tryz.func4 sL
  (of_decide_eq_true aD) (by unfold Func.isWrapper;first|(rw [if_pos (by decide+kernel)];kernel_rfl)|(rw [if_neg (by decide+kernel)];exact ⟨rfl,rfl⟩))
  (fun os started H enc _=>sy os started H enc)
end Go.Proofs.YteajddicacjkhaaGreat
