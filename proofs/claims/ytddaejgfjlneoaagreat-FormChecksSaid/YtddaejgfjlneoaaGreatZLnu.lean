/-
  FormChecks holds for every input: of any made survey both say the same of what is valid, of tape days, systems, sources and unknowns; the statement's function returns true and never panics.
-/
import Derived.Test.YtddaejgfjlneoaaGreatDf
import Derived.Test.YtddaejgfjlneoaaGreatRows
import Derived.OpenShut
import Derived.ProofKit
import Derived.ShutString
import Derived.ChangeOld
namespace Go.Proofs.YtddaejgfjlneoaaGreat
open Go.MW Go.ChangeShapes Go.WideShapes Go.ChangeAt Go.RowKit
theorem uZ{W:World}{v0 v1:Value}{a0:EE}{a1:Two}(w0:zo (hp W) v0 a0)(_:True)(w1:v1= .agg #[I a1.a,I a1.b])(_:I64 a1.a∧I64 a1.b):
  Cl Tryz.prog 11 [v0,v1] W fun v w'=>v= .bool true∧∃H',HLe (hp W) H'∧St H' w' []:=by
 subst w1
 exact pE (St.start W) w0
set_option maxRecDepth 100000 in
theorem rK(os:Os)(started:os.Started)(H:Type)(enc:TypeId×Value→H):
  ReturnsInHanded {} Tryz.checked os 11 .any (Rows.formChecksSpec.pre6 enc Tryz.prog Tryz.f11 Rows.formChecksRow.domain false) (Rows.formChecksSpec.post enc Tryz.prog Tryz.f11 false true false false):=by
 refine returnsInHanded_of_change_sized (C:=Tryz.checked) Cq started aq Tryz.func11
  (ChangeSpec.witness6 (enc:=enc) (C:=Tryz.checked) false ⟨#[],#[.agg #[.slice none 0 0,.slice none 0 0,.slice none 0 0,.slice none 0 0,.int .i64 0,.int .i64 0,.int .i64 0],.agg #[.int .i64 0,.int .i64 0]],[]⟩ 8 aq aq aq aq) ?_
 intro W base args ds gs before hval0 hW hcnd hsz _
 have hval:∀(j:Nat) t v,Tryz.f11.params[j]? =some t→args[j]? =some v→Value.okWide Tryz.prog W .any base t v:=hval0
 have hW':=hW
 obtain ⟨p,q,hA0,hV,rfl,hfz,hnd⟩:=hW
 have hA:DataW.TrodAll enc Tryz.prog W 0 (fun _=>true) true Tryz.f11.params.toList args.toList ds p:=hA0
 have hAk:=hA
 rw [Tryz.params11] at hA hval
 obtain ⟨v0,vs0,d0,ds0,p0,q0,hargs,rfl,rfl,h0,r0⟩:=trodAll_cons hA
 obtain ⟨v1,vs1,d1,ds1,p1,q1,rfl,rfl,rfl,h1,r1⟩:=trodAll_cons r0
 obtain ⟨rfl,rfl,rfl⟩:=trodAll_nil r1
 obtain rfl:args=#[v0,v1]:=by cases args;simp_all
 obtain ⟨rfl,rfl⟩:=trodVars_none hV
 have k0:Wt Tryz.prog 27 d0:=fun n hn=>(by have:=List.all_eq_true.1 hsz n (DataW.weights_mem_each (j:=0) rfl rfl n hn);simpa using this)
 obtain ⟨a0,w0,u0⟩:=rE (hval 0 27 v0 rfl rfl) h0 k0
 have k1:Wt Tryz.prog 90 d1:=fun n hn=>(by have:=List.all_eq_true.1 hsz n (DataW.weights_mem_each (j:=1) rfl rfl n hn);simpa using this)
 obtain ⟨a1,w1,u1⟩:=Dx (hval 1 90 v1 rfl rfl) h1 k1
 refine Calls.mono (uZ w0 u0 w1 u1) fun e W' ⟨v,he,hv,H',hle,hs⟩=>?_
 subst he;subst hv
 have kp:=St.kept hle hs
 exact ⟨_,rfl,_,_,_,[],_,[],hW',trodAll_mk1 (shut_bool zt _),Kept.trodAll rW kp (by rw [Tryz.params11];intro t ht;simp only [List.mem_cons,List.not_mem_nil,or_false] at ht;rcases ht with rfl|rfl<;>exact ⟨by kernel_rfl,of_decide_eq_true aq⟩) hAk,rfl,kp.frame _,fun h=>by cases h⟩
theorem rV:joinedFacts Tryz.prog 11 Tryz.f11 Rows.formChecksSpec Rows.formChecksRow=true:=by
 unfold joinedFacts
 exact (fK (fK (fK (fK (fK (fK (fK (fK (fK (fK (fK (fK (fK (fK (fK (fK (fK (fK (fK (fK (fK (fK (fK (fK (fK (fK (fK (fK (fK (fK (fK aq rW) ze) aq) aq) aq) (zj wV)) aq) (zj wX)) aq) aq) aq) aq) aq) aq) aq) aq) aq) aq) aq) aq) aq) (zj zh.symm)) aq) wY) wZ) (zj wW.symm)) (zj zf)) aq) aq) aq) aq)
theorem proved_FormChecks:Rows.FormChecksSaid:=
 OpenClaim.holds_of_wide 11 Tryz.f11 rfl rfl rfl rfl rfl rfl rfl ⟨rfl,rfl,rfl,rfl,rfl⟩ rfl rfl rfl rfl rfl aq Tryz.func11 rV
  (of_decide_eq_true aq) (by unfold Func.isWrapper;first|(rw [if_pos (by decide+kernel)];kernel_rfl)|(rw [if_neg (by decide+kernel)];exact ⟨rfl,rfl⟩))
  (fun os started H enc _=>rK os started H enc)
end Go.Proofs.YtddaejgfjlneoaaGreat
