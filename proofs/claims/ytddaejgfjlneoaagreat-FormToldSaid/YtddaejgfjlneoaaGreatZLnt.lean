/-
  FormTold holds for every input: of any made survey and any further reading both tell the same values and the same survey with it; the statement's function returns true and never panics.
-/
import Derived.Test.YtddaejgfjlneoaaGreatDf
import Derived.Test.YtddaejgfjlneoaaGreatRows
import Derived.OpenShut
import Derived.ProofKit
import Derived.ShutString
import Derived.ChangeOld
namespace Go.Proofs.YtddaejgfjlneoaaGreat
open Go.MW Go.ChangeShapes Go.WideShapes Go.ChangeAt Go.RowKit
theorem xS{W:World}{v0 v1:Value}{a0:EE}{a1:Rdg}(w0:zo (hp W) v0 a0)(_:True)(w1:v1= .agg a1.c.toArray)(_:True):
  Cl Tryz.prog 9 [v0,v1] W fun v w'=>v= .bool true∧∃H',HLe (hp W) H'∧St H' w' []:=by
 subst w1
 exact rL (St.start W) w0
set_option maxRecDepth 100000 in
theorem uk(os:Os)(started:os.Started)(H:Type)(enc:TypeId×Value→H):
  ReturnsInHanded {} Tryz.checked os 9 .any (Rows.formToldSpec.pre6 enc Tryz.prog Tryz.f9 Rows.formToldRow.domain false) (Rows.formToldSpec.post enc Tryz.prog Tryz.f9 false true false false):=by
 refine returnsInHanded_of_change_sized (C:=Tryz.checked) Cq started aq Tryz.func9
  (ChangeSpec.witness6 (enc:=enc) (C:=Tryz.checked) false ⟨#[],#[.agg #[.slice none 0 0,.slice none 0 0,.slice none 0 0,.slice none 0 0,.int .i64 0,.int .i64 0,.int .i64 0],.agg #[.int .i64 0,.int .i64 0,.int .i64 0,.int .i64 0,.int .i64 0,.int .i64 0,.int .i64 0]],[]⟩ 8 aq aq aq aq) ?_
 intro W base args ds gs before hval0 hW hcnd hsz _
 have hval:∀(j:Nat) t v,Tryz.f9.params[j]? =some t→args[j]? =some v→Value.okWide Tryz.prog W .any base t v:=hval0
 have hW':=hW
 obtain ⟨p,q,hA0,hV,rfl,hfz,hnd⟩:=hW
 have hA:DataW.TrodAll enc Tryz.prog W 0 (fun _=>true) true Tryz.f9.params.toList args.toList ds p:=hA0
 have hAk:=hA
 rw [Tryz.params9] at hA hval
 obtain ⟨v0,vs0,d0,ds0,p0,q0,hargs,rfl,rfl,h0,r0⟩:=trodAll_cons hA
 obtain ⟨v1,vs1,d1,ds1,p1,q1,rfl,rfl,rfl,h1,r1⟩:=trodAll_cons r0
 obtain ⟨rfl,rfl,rfl⟩:=trodAll_nil r1
 obtain rfl:args=#[v0,v1]:=by cases args;simp_all
 obtain ⟨rfl,rfl⟩:=trodVars_none hV
 have k0:Wt Tryz.prog 27 d0:=fun n hn=>(by have:=List.all_eq_true.1 hsz n (DataW.weights_mem_each (j:=0) rfl rfl n hn);simpa using this)
 obtain ⟨a0,w0,u0⟩:=rE (hval 0 27 v0 rfl rfl) h0 k0
 have k1:Wt Tryz.prog 80 d1:=fun n hn=>(by have:=List.all_eq_true.1 hsz n (DataW.weights_mem_each (j:=1) rfl rfl n hn);simpa using this)
 obtain ⟨a1,w1,u1⟩:=xI (hval 1 80 v1 rfl rfl) h1 k1
 refine Calls.mono (xS w0 u0 w1 u1) fun e W' ⟨v,he,hv,H',hle,hs⟩=>?_
 subst he;subst hv
 have kp:=St.kept hle hs
 exact ⟨_,rfl,_,_,_,[],_,[],hW',trodAll_mk1 (shut_bool zt _),Kept.trodAll rW kp (by rw [Tryz.params9];intro t ht;simp only [List.mem_cons,List.not_mem_nil,or_false] at ht;rcases ht with rfl|rfl<;>exact ⟨by kernel_rfl,of_decide_eq_true aq⟩) hAk,rfl,kp.frame _,fun h=>by cases h⟩
theorem uC:joinedFacts Tryz.prog 9 Tryz.f9 Rows.formToldSpec Rows.formToldRow=true:=by
 unfold joinedFacts
 exact (fK (fK (fK (fK (fK (fK (fK (fK (fK (fK (fK (fK (fK (fK (fK (fK (fK (fK (fK (fK (fK (fK (fK (fK (fK (fK (fK (fK (fK (fK (fK aq rW) ze) aq) aq) aq) (zj wV)) aq) (zj wX)) aq) aq) aq) aq) aq) aq) aq) aq) aq) aq) aq) aq) aq) (zj zh.symm)) aq) wY) wZ) (zj wW.symm)) (zj zf)) aq) aq) aq) aq)
theorem proved_FormTold:Rows.FormToldSaid:=
 OpenClaim.holds_of_wide 9 Tryz.f9 rfl rfl rfl rfl rfl rfl rfl ⟨rfl,rfl,rfl,rfl,rfl⟩ rfl rfl rfl rfl rfl aq Tryz.func9 uC
  (of_decide_eq_true aq) (by unfold Func.isWrapper;first|(rw [if_pos (by decide+kernel)];kernel_rfl)|(rw [if_neg (by decide+kernel)];exact ⟨rfl,rfl⟩))
  (fun os started H enc _=>uk os started H enc)
end Go.Proofs.YtddaejgfjlneoaaGreat
