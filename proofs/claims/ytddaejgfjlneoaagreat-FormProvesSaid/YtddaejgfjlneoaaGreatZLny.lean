/-
  FormProves holds for every input: the program's proof of an end of the range of any quantity of any made survey is one that the reference accepts, and both say the same of it when its numbers or the claim are changed; the statement's function returns true and never panics.
-/
import Derived.Test.YtddaejgfjlneoaaGreatFf
import Derived.Test.YtddaejgfjlneoaaGreatRows
import Derived.OpenShut
import Derived.ProofKit
import Derived.ShutString
import Derived.ChangeOld
namespace Go.Proofs.YtddaejgfjlneoaaGreat
open Go.MW Go.ChangeShapes Go.WideShapes Go.ChangeAt Go.RowKit
theorem uB{W:World}{v0 v1:Value}{a0:EM}{a1:FX}(w0:BQ (hp W) v0 a0)(_:True)(w1:EG (hp W) v1 a1)(_:True):
  Cl Tryz.prog 19 [v0,v1] W fun v w'=>v= .bool true∧∃H',HLe (hp W) H'∧St H' w' []:=pC (St.start W) w0 w1
set_option maxRecDepth 100000 in
theorem rD(os:Os)(started:os.Started)(H:Type)(enc:TypeId×Value→H):
  ReturnsInHanded {} Tryz.checked os 19 .any (Rows.formProvesSpec.pre6 enc Tryz.prog Tryz.f19 Rows.formProvesRow.domain false) (Rows.formProvesSpec.post enc Tryz.prog Tryz.f19 false true false false):=by
 refine returnsInHanded_of_change_sized (C:=Tryz.checked) DH started an Tryz.func19
  (ChangeSpec.witness6 (enc:=enc) (C:=Tryz.checked) false ⟨#[],#[.agg #[.slice none 0 0,.slice none 0 0,.slice none 0 0,.slice none 0 0,.int .i64 0,.int .i64 0,.int .i64 0],.agg #[.int .i64 0,.int .i64 0,.int .i64 0,.bool false,.int .i64 0,.bool false,.slice none 0 0]],[]⟩ 8 an an an an) ?_
 intro W base args ds gs before hval0 hW hcnd hsz _
 have hval:∀(j:Nat) t v,Tryz.f19.params[j]? =some t→args[j]? =some v→Value.okWide Tryz.prog W .any base t v:=hval0
 have hW':=hW
 obtain ⟨p,q,hA0,hV,rfl,hfz,hnd⟩:=hW
 have hA:DataW.TrodAll enc Tryz.prog W 0 (fun _=>true) true Tryz.f19.params.toList args.toList ds p:=hA0
 have hAk:=hA
 rw [Tryz.params19] at hA hval
 obtain ⟨v0,vs0,d0,ds0,p0,q0,hargs,rfl,rfl,h0,r0⟩:=trodAll_cons hA
 obtain ⟨v1,vs1,d1,ds1,p1,q1,rfl,rfl,rfl,h1,r1⟩:=trodAll_cons r0
 obtain ⟨rfl,rfl,rfl⟩:=trodAll_nil r1
 obtain rfl:args=#[v0,v1]:=by cases args;simp_all
 obtain ⟨rfl,rfl⟩:=trodVars_none hV
 have k0:Wt Tryz.prog 27 d0:=fun n hn=>(by have:=List.all_eq_true.1 hsz n (DataW.weights_mem_each (j:=0) rfl rfl n hn);simpa using this)
 obtain ⟨a0,w0,u0⟩:=u5 (hval 0 27 v0 rfl rfl) h0 k0
 have k1:Wt Tryz.prog 130 d1:=fun n hn=>(by have:=List.all_eq_true.1 hsz n (DataW.weights_mem_each (j:=1) rfl rfl n hn);simpa using this)
 obtain ⟨a1,w1,u1⟩:=A5 (hval 1 130 v1 rfl rfl) h1 k1
 refine Calls.mono (uB w0 u0 w1 u1) fun e W' ⟨v,he,hv,H',hle,hs⟩=>?_
 subst he;subst hv
 have kp:=St.kept hle hs
 exact ⟨_,rfl,_,_,_,[],_,[],hW',trodAll_mk1 (shut_bool lJ _),Kept.trodAll wC kp (by rw [Tryz.params19];intro t ht;simp only [List.mem_cons,List.not_mem_nil,or_false] at ht;rcases ht with rfl|rfl<;>exact ⟨by kernel_rfl,of_decide_eq_true an⟩) hAk,rfl,kp.frame _,fun h=>by cases h⟩
theorem rM:joinedFacts Tryz.prog 19 Tryz.f19 Rows.formProvesSpec Rows.formProvesRow=true:=by
 unfold joinedFacts
 exact (iW (iW (iW (iW (iW (iW (iW (iW (iW (iW (iW (iW (iW (iW (iW (iW (iW (iW (iW (iW (iW (iW (iW (iW (iW (iW (iW (iW (iW (iW (iW an wC) BG) an) an) an) (B5 zE)) an) (B5 zG)) an) an) an) an) an) an) an) an) an) an) an) an) an) (B5 BI.symm)) an) zH) zI) (B5 zF.symm)) (B5 BH)) an) an) an) an)
theorem proved_FormProves:Rows.FormProvesSaid:=
 OpenClaim.holds_of_wide 19 Tryz.f19 rfl rfl rfl rfl rfl rfl rfl ⟨rfl,rfl,rfl,rfl,rfl⟩ rfl rfl rfl rfl rfl an Tryz.func19 rM
  (of_decide_eq_true an) (by unfold Func.isWrapper;first|(rw [if_pos (by decide+kernel)];kernel_rfl)|(rw [if_neg (by decide+kernel)];exact ⟨rfl,rfl⟩))
  (fun os started H enc _=>rD os started H enc)
end Go.Proofs.YtddaejgfjlneoaaGreat
