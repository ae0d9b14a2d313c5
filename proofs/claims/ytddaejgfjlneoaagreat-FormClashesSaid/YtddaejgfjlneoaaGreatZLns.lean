/-
  FormClashes holds for every input: of any made survey both name the same sources that contradict each other; the statement's function returns true and never panics.
-/
import Derived.Test.YtddaejgfjlneoaaGreatCf
import Derived.Test.YtddaejgfjlneoaaGreatRows
import Derived.OpenShut
import Derived.ProofKit
import Derived.ShutString
import Derived.ChangeOld
namespace Go.Proofs.YtddaejgfjlneoaaGreat
open Go.MW Go.ChangeShapes Go.WideShapes Go.ChangeAt Go.RowKit
theorem s8{W:World}{v0:Value}{a0:Dp}(w0:yx (hp W) v0 a0)(_:True):
  Cl Tryz.prog 5 [v0] W fun v w'=>v= .bool true∧∃H',HLe (hp W) H'∧St H' w' []:=nX (St.start W) w0
set_option maxRecDepth 100000 in
theorem pR(os:Os)(started:os.Started)(H:Type)(enc:TypeId×Value→H):
  ReturnsInHanded {} Tryz.checked os 5 .any (Rows.formClashesSpec.pre6 enc Tryz.prog Tryz.f5 Rows.formClashesRow.domain false) (Rows.formClashesSpec.post enc Tryz.prog Tryz.f5 false true false false):=by
 refine returnsInHanded_of_change_sized (C:=Tryz.checked) Bs started (by kernel_rfl) Tryz.func5
  (ChangeSpec.witness6 (enc:=enc) (C:=Tryz.checked) false ⟨#[],#[.agg #[.slice none 0 0,.slice none 0 0,.slice none 0 0,.slice none 0 0,.int .i64 0,.int .i64 0,.int .i64 0]],[]⟩ 8 (by kernel_rfl) (by kernel_rfl) (by kernel_rfl) (by kernel_rfl)) ?_
 intro W base args ds gs before hval0 hW hcnd hsz _
 have hval:∀(j:Nat) t v,Tryz.f5.params[j]? =some t→args[j]? =some v→Value.okWide Tryz.prog W .any base t v:=hval0
 have hW':=hW
 obtain ⟨p,q,hA0,hV,rfl,hfz,hnd⟩:=hW
 have hA:DataW.TrodAll enc Tryz.prog W 0 (fun _=>true) true Tryz.f5.params.toList args.toList ds p:=hA0
 have hAk:=hA
 rw [Tryz.params5] at hA hval
 obtain ⟨v0,vs0,d0,ds0,p0,q0,hargs,rfl,rfl,h0,r0⟩:=trodAll_cons hA
 obtain ⟨rfl,rfl,rfl⟩:=trodAll_nil r0
 obtain rfl:args=#[v0]:=by cases args;simp_all
 obtain ⟨rfl,rfl⟩:=trodVars_none hV
 have k0:Wt Tryz.prog 27 d0:=fun n hn=>(by have:=List.all_eq_true.1 hsz n (DataW.weights_mem_each (j:=0) rfl rfl n hn);simpa using this)
 obtain ⟨a0,w0,u0⟩:=qE (hval 0 27 v0 rfl rfl) h0 k0
 refine Calls.mono (s8 w0 u0) fun e W' ⟨v,he,hv,H',hle,hs⟩=>?_
 subst he;subst hv
 have kp:=St.kept hle hs
 exact ⟨_,rfl,_,_,_,[],_,[],hW',trodAll_mk1 (shut_bool mD _),Kept.trodAll qS kp (by rw [Tryz.params5];intro t ht;simp only [List.mem_cons,List.not_mem_nil,or_false] at ht;rcases ht with rfl<;>exact ⟨by kernel_rfl,of_decide_eq_true (by kernel_rfl)⟩) hAk,rfl,kp.frame _,fun h=>by cases h⟩
theorem p4:joinedFacts Tryz.prog 5 Tryz.f5 Rows.formClashesSpec Rows.formClashesRow=true:=by
 unfold joinedFacts
 exact (fa (fa (fa (fa (fa (fa (fa (fa (fa (fa (fa (fa (fa (fa (fa (fa (fa (fa (fa (fa (fa (fa (fa (fa (fa (fa (fa (fa (fa (fa (fa (by kernel_rfl) qS) yp) (by kernel_rfl)) (by kernel_rfl)) (by kernel_rfl)) (yv vS)) (by kernel_rfl)) (yv vU)) (by kernel_rfl)) (by kernel_rfl)) (by kernel_rfl)) (by kernel_rfl)) (by kernel_rfl)) (by kernel_rfl)) (by kernel_rfl)) (by kernel_rfl)) (by kernel_rfl)) (by kernel_rfl)) (by kernel_rfl)) (by kernel_rfl)) (by kernel_rfl)) (yv yr.symm)) (by kernel_rfl)) vV) vW) (yv vT.symm)) (yv yq)) (by kernel_rfl)) (by kernel_rfl)) (by kernel_rfl)) (by kernel_rfl))
theorem proved_FormClashes:Rows.FormClashesSaid:=
 OpenClaim.holds_of_wide 5 Tryz.f5 rfl rfl rfl rfl rfl rfl rfl ⟨rfl,rfl,rfl,rfl,rfl⟩ rfl rfl rfl rfl rfl (by kernel_rfl) Tryz.func5 p4
  (of_decide_eq_true (by kernel_rfl)) (by unfold Func.isWrapper;first|(rw [if_pos (by decide+kernel)];kernel_rfl)|(rw [if_neg (by decide+kernel)];exact ⟨rfl,rfl⟩))
  (fun os started H enc _=>pR os started H enc)
end Go.Proofs.YtddaejgfjlneoaaGreat
