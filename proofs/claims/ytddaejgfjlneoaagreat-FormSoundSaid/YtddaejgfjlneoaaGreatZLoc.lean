/-
  FormSound holds for every input: of any made survey a proof that the program accepts shows what it claims, also of the point by which the survey is made; the statement's function returns true and never panics.
-/
import Derived.Test.YtddaejgfjlneoaaGreatHe
import Derived.Test.YtddaejgfjlneoaaGreatRows
import Derived.OpenShut
import Derived.ProofKit
import Derived.ShutString
import Derived.ChangeOld
namespace Go.Proofs.YtddaejgfjlneoaaGreat
open Go.MW Go.ChangeShapes Go.WideShapes Go.ChangeAt Go.RowKit
theorem uH{W:World}{v0 v1:Value}{a0:Em}{a1:Ft}(w0:Bf (hp W) v0 a0)(_:True)(w1:Ef (hp W) v1 a1)(_:True):
  Cl Tryz.prog 20 [v0,v1] W fun v w'=>v= .bool true∧∃H',HLe (hp W) H'∧St H' w' []:=pj (St.start W) w0 w1
set_option maxRecDepth 100000 in
theorem qZ(os:Os)(started:os.Started)(H:Type)(enc:TypeId×Value→H):
  ReturnsInHanded {} Tryz.checked os 20 .any (Rows.formSoundSpec.pre6 enc Tryz.prog Tryz.f20 Rows.formSoundRow.domain false) (Rows.formSoundSpec.post enc Tryz.prog Tryz.f20 false true false false):=by
 refine returnsInHanded_of_change_sized (C:=Tryz.checked) Dc started an Tryz.func20
  (ChangeSpec.witness6 (enc:=enc) (C:=Tryz.checked) false ⟨#[],#[.agg #[.slice none 0 0,.slice none 0 0,.slice none 0 0,.slice none 0 0,.int .i64 0,.int .i64 0,.int .i64 0],.agg #[.int .i64 0,.int .i64 0,.int .i64 0,.bool false,.int .i64 0,.bool false,.slice none 0 0]],[]⟩ 8 an an an an) ?_
 intro W base args ds gs before hval0 hW hcnd hsz _
 have hval:∀(j:Nat) t v,Tryz.f20.params[j]? =some t→args[j]? =some v→Value.okWide Tryz.prog W .any base t v:=hval0
 have hW':=hW
 obtain ⟨p,q,hA0,hV,rfl,hfz,hnd⟩:=hW
 have hA:DataW.TrodAll enc Tryz.prog W 0 (fun _=>true) true Tryz.f20.params.toList args.toList ds p:=hA0
 have hAk:=hA
 rw [Tryz.params20] at hA hval
 obtain ⟨v0,vs0,d0,ds0,p0,q0,hargs,rfl,rfl,h0,r0⟩:=trodAll_cons hA
 obtain ⟨v1,vs1,d1,ds1,p1,q1,rfl,rfl,rfl,h1,r1⟩:=trodAll_cons r0
 obtain ⟨rfl,rfl,rfl⟩:=trodAll_nil r1
 obtain rfl:args=#[v0,v1]:=by cases args;simp_all
 obtain ⟨rfl,rfl⟩:=trodVars_none hV
 have k0:Wt Tryz.prog 27 d0:=fun n hn=>(by have:=List.all_eq_true.1 hsz n (DataW.weights_mem_each (j:=0) rfl rfl n hn);simpa using this)
 obtain ⟨a0,w0,u0⟩:=tD (hval 0 27 v0 rfl rfl) h0 k0
 have k1:Wt Tryz.prog 130 d1:=fun n hn=>(by have:=List.all_eq_true.1 hsz n (DataW.weights_mem_each (j:=1) rfl rfl n hn);simpa using this)
 obtain ⟨a1,w1,u1⟩:=Av (hval 1 130 v1 rfl rfl) h1 k1
 refine Calls.mono (uH w0 u0 w1 u1) fun e W' ⟨v,he,hv,H',hle,hs⟩=>?_
 subst he;subst hv
 have kp:=St.kept hle hs
 exact ⟨_,rfl,_,_,_,[],_,[],hW',trodAll_mk1 (shut_bool pR _),Kept.trodAll uX kp (by rw [Tryz.params20];intro t ht;simp only [List.mem_cons,List.not_mem_nil,or_false] at ht;rcases ht with rfl|rfl<;>exact ⟨by kernel_rfl,of_decide_eq_true an⟩) hAk,rfl,kp.frame _,fun h=>by cases h⟩
theorem q5:joinedFacts Tryz.prog 20 Tryz.f20 Rows.formSoundSpec Rows.formSoundRow=true:=by
 unfold joinedFacts
 exact (ig (ig (ig (ig (ig (ig (ig (ig (ig (ig (ig (ig (ig (ig (ig (ig (ig (ig (ig (ig (ig (ig (ig (ig (ig (ig (ig (ig (ig (ig (ig an uX) A6) an) an) an) (Bs yI)) an) (Bs yK)) an) an) an) an) an) an) an) an) an) an) an) an) an) (Bs A8.symm)) an) yL) yM) (Bs yJ.symm)) (Bs A7)) an) an) an) an)
theorem proved_FormSound:Rows.FormSoundSaid:=
 OpenClaim.holds_of_wide 20 Tryz.f20 rfl rfl rfl rfl rfl rfl rfl ⟨rfl,rfl,rfl,rfl,rfl⟩ rfl rfl rfl rfl rfl an Tryz.func20 q5
  (of_decide_eq_true an) (by unfold Func.isWrapper;first|(rw [if_pos (by decide+kernel)];kernel_rfl)|(rw [if_neg (by decide+kernel)];exact ⟨rfl,rfl⟩))
  (fun os started H enc _=>qZ os started H enc)
end Go.Proofs.YtddaejgfjlneoaaGreat
