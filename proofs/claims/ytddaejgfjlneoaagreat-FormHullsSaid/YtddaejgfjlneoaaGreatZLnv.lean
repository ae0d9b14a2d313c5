/-
  FormHulls holds for every input: of any made survey and any hull both say the same of whether it is kept, and of its quantities; the statement's function returns true and never panics.
-/
import Derived.Test.YtddaejgfjlneoaaGreatDf
import Derived.Test.YtddaejgfjlneoaaGreatRows
import Derived.OpenShut
import Derived.ProofKit
import Derived.ShutString
import Derived.ChangeOld
namespace Go.Proofs.YtddaejgfjlneoaaGreat
open Go.MW Go.ChangeShapes Go.WideShapes Go.ChangeAt Go.RowKit
theorem wJ{W:World}{v0 v1 v2:Value}{a0:EE}{a1:List (List Int)}{a2:Six}(w0:zo (hp W) v0 a0)(_:True)(w1:∃vh,v1= .agg #[vh]∧RT (hp W) vh a1)(_:True)(w2:v2= .agg #[I a2.a,I a2.b,I a2.c,I a2.d,I a2.e,I a2.f])(_:True):
  Cl Tryz.prog 12 [v0,v1,v2] W fun v w'=>v= .bool true∧∃H',HLe (hp W) H'∧St H' w' []:=by
 obtain ⟨vh,rfl,h⟩:=w1
 subst w2
 exact qu (St.start W) w0 h
set_option maxRecDepth 100000 in
theorem sN(os:Os)(started:os.Started)(H:Type)(enc:TypeId×Value→H):
  ReturnsInHanded {} Tryz.checked os 12 .any (Rows.formHullsSpec.pre6 enc Tryz.prog Tryz.f12 Rows.formHullsRow.domain false) (Rows.formHullsSpec.post enc Tryz.prog Tryz.f12 false true false false):=by
 refine returnsInHanded_of_change_sized (C:=Tryz.checked) Cq started aq Tryz.func12
  (ChangeSpec.witness6 (enc:=enc) (C:=Tryz.checked) false ⟨#[],#[.agg #[.slice none 0 0,.slice none 0 0,.slice none 0 0,.slice none 0 0,.int .i64 0,.int .i64 0,.int .i64 0],.agg #[.slice none 0 0],.agg #[.int .i64 0,.int .i64 0,.int .i64 0,.int .i64 0,.int .i64 0,.int .i64 0]],[]⟩ 8 aq aq aq aq) ?_
 intro W base args ds gs before hval0 hW hcnd hsz _
 have hval:∀(j:Nat) t v,Tryz.f12.params[j]? =some t→args[j]? =some v→Value.okWide Tryz.prog W .any base t v:=hval0
 have hW':=hW
 obtain ⟨p,q,hA0,hV,rfl,hfz,hnd⟩:=hW
 have hA:DataW.TrodAll enc Tryz.prog W 0 (fun _=>true) true Tryz.f12.params.toList args.toList ds p:=hA0
 have hAk:=hA
 rw [Tryz.params12] at hA hval
 obtain ⟨v0,vs0,d0,ds0,p0,q0,hargs,rfl,rfl,h0,r0⟩:=trodAll_cons hA
 obtain ⟨v1,vs1,d1,ds1,p1,q1,rfl,rfl,rfl,h1,r1⟩:=trodAll_cons r0
 obtain ⟨v2,vs2,d2,ds2,p2,q2,rfl,rfl,rfl,h2,r2⟩:=trodAll_cons r1
 obtain ⟨rfl,rfl,rfl⟩:=trodAll_nil r2
 obtain rfl:args=#[v0,v1,v2]:=by cases args;simp_all
 obtain ⟨rfl,rfl⟩:=trodVars_none hV
 have k0:Wt Tryz.prog 27 d0:=fun n hn=>(by have:=List.all_eq_true.1 hsz n (DataW.weights_mem_each (j:=0) rfl rfl n hn);simpa using this)
 obtain ⟨a0,w0,u0⟩:=rE (hval 0 27 v0 rfl rfl) h0 k0
 have k1:Wt Tryz.prog 63 d1:=fun n hn=>(by have:=List.all_eq_true.1 hsz n (DataW.weights_mem_each (j:=1) rfl rfl n hn);simpa using this)
 obtain ⟨a1,w1,u1⟩:=BP (hval 1 63 v1 rfl rfl) h1 k1
 have k2:Wt Tryz.prog 94 d2:=fun n hn=>(by have:=List.all_eq_true.1 hsz n (DataW.weights_mem_each (j:=2) rfl rfl n hn);simpa using this)
 obtain ⟨a2,w2,u2⟩:=Dy (hval 2 94 v2 rfl rfl) h2 k2
 refine Calls.mono (wJ w0 u0 w1 u1 w2 u2) fun e W' ⟨v,he,hv,H',hle,hs⟩=>?_
 subst he;subst hv
 have kp:=St.kept hle hs
 exact ⟨_,rfl,_,_,_,[],_,[],hW',trodAll_mk1 (shut_bool zt _),Kept.trodAll rW kp (by rw [Tryz.params12];intro t ht;simp only [List.mem_cons,List.not_mem_nil,or_false] at ht;rcases ht with rfl|rfl|rfl<;>exact ⟨by kernel_rfl,of_decide_eq_true aq⟩) hAk,rfl,kp.frame _,fun h=>by cases h⟩
theorem sO:joinedFacts Tryz.prog 12 Tryz.f12 Rows.formHullsSpec Rows.formHullsRow=true:=by
 unfold joinedFacts
 exact (fK (fK (fK (fK (fK (fK (fK (fK (fK (fK (fK (fK (fK (fK (fK (fK (fK (fK (fK (fK (fK (fK (fK (fK (fK (fK (fK (fK (fK (fK (fK aq rW) ze) aq) aq) aq) (zj wV)) aq) (zj wX)) aq) aq) aq) aq) aq) aq) aq) aq) aq) aq) aq) aq) aq) (zj zh.symm)) aq) wY) wZ) (zj wW.symm)) (zj zf)) aq) aq) aq) aq)
theorem proved_FormHulls:Rows.FormHullsSaid:=
 OpenClaim.holds_of_wide 12 Tryz.f12 rfl rfl rfl rfl rfl rfl rfl ⟨rfl,rfl,rfl,rfl,rfl⟩ rfl rfl rfl rfl rfl aq Tryz.func12 sO
  (of_decide_eq_true aq) (by unfold Func.isWrapper;first|(rw [if_pos (by decide+kernel)];kernel_rfl)|(rw [if_neg (by decide+kernel)];exact ⟨rfl,rfl⟩))
  (fun os started H enc _=>sN os started H enc)
end Go.Proofs.YtddaejgfjlneoaaGreat
