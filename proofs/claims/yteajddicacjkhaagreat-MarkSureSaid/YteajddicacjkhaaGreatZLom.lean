/-
  MarkSure holds for every input: with the mass that is told, and with each lesser one, a departure is passed; with one more it is not; the statement's function returns true and never panics.
-/
import Derived.Test.YteajddicacjkhaaGreatEf
import Derived.Test.YteajddicacjkhaaGreatRows
import Derived.OpenShut
import Derived.ProofKit
import Derived.ShutString
import Derived.ChangeOld
namespace Go.Proofs.YteajddicacjkhaaGreat
open Go.MW Go.ChangeShapes Go.WideShapes Go.ChangeAt Go.RowKit
theorem yb{W:World}{a1:Int}{v0:Value}{a0:F1}(w0:∃vs v5 v4 vp vn vg,v0=a0.agg vs v5 v4 vp vn vg∧zS (hp W) a0 vs v5 v4 vp vn vg)(_:I64 a0.m1∧I64 a0.m2)(_:I64 a1):
  Cl Tryz.prog 6 [v0,I a1] W fun v w'=>v= .bool true∧∃H',HLe (hp W) H'∧St H' w' []:=by
 obtain ⟨vs,v5,v4,vp,vn,vg,rfl,h⟩:=w0
 exact rb (St.start W) h
set_option maxRecDepth 100000 in
theorem tG(os:Os)(started:os.Started)(H:Type)(enc:TypeId×Value→H):
  ReturnsInHanded {} Tryz.checked os 6 .any (Rows.markSureSpec.pre6 enc Tryz.prog Tryz.f6 Rows.markSureRow.domain false) (Rows.markSureSpec.post enc Tryz.prog Tryz.f6 false true false false):=by
 refine returnsInHanded_of_change_sized (C:=Tryz.checked) IC started aq Tryz.func6
  (ChangeSpec.witness6 (enc:=enc) (C:=Tryz.checked) false ⟨#[],#[.agg #[.slice none 0 0,.slice none 0 0,.slice none 0 0,.slice none 0 0,.int .i64 0,.int .i64 0,.int .i64 0,.slice none 0 0,.slice none 0 0,.int .i64 0,.int .i64 0,.int .i64 0,.int .i64 0,.int .i64 0],.int .i64 0],[]⟩ 8 aq aq aq aq) ?_
 intro W base args ds gs before hval0 hW hcnd hsz _
 have hval:∀(j:Nat) t v,Tryz.f6.params[j]? =some t→args[j]? =some v→Value.okWide Tryz.prog W .any base t v:=hval0
 have hW':=hW
 obtain ⟨p,q,hA0,hV,rfl,hfz,hnd⟩:=hW
 have hA:DataW.TrodAll enc Tryz.prog W 0 (fun _=>true) true Tryz.f6.params.toList args.toList ds p:=hA0
 have hAk:=hA
 rw [Tryz.params6] at hA hval
 obtain ⟨v0,vs0,d0,ds0,p0,q0,hargs,rfl,rfl,h0,r0⟩:=trodAll_cons hA
 obtain ⟨v1,vs1,d1,ds1,p1,q1,rfl,rfl,rfl,h1,r1⟩:=trodAll_cons r0
 obtain ⟨rfl,rfl,rfl⟩:=trodAll_nil r1
 obtain rfl:args=#[v0,v1]:=by cases args;simp_all
 obtain ⟨rfl,rfl⟩:=trodVars_none hV
 have k0:Wt Tryz.prog 44 d0:=fun n hn=>(by have:=List.all_eq_true.1 hsz n (DataW.weights_mem_each (j:=0) rfl rfl n hn);simpa using this)
 obtain ⟨a0,w0,u0⟩:=Be (hval 0 44 v0 rfl rfl) h0 k0
 have k1:Wt Tryz.prog 3 d1:=fun n hn=>(by have:=List.all_eq_true.1 hsz n (DataW.weights_mem_each (j:=1) rfl rfl n hn);simpa using this)
 obtain ⟨a1,w1,u1⟩:=HX (hval 1 3 v1 rfl rfl) h1
 subst w1
 refine Calls.mono (yb w0 u0 u1) fun e W' ⟨v,he,hv,H',hle,hs⟩=>?_
 subst he;subst hv
 have kp:=St.kept hle hs
 exact ⟨_,rfl,_,_,_,[],_,[],hW',trodAll_mk1 (shut_bool Tryz.underlying4 _),Kept.trodAll Df kp (by rw [Tryz.params6];intro t ht;simp only [List.mem_cons,List.not_mem_nil,or_false] at ht;rcases ht with rfl|rfl<;>exact ⟨by kernel_rfl,of_decide_eq_true aq⟩) hAk,rfl,kp.frame _,fun h=>by cases h⟩
theorem tQ:joinedFacts Tryz.prog 6 Tryz.f6 Rows.markSureSpec Rows.markSureRow=true:=by
 unfold joinedFacts
 exact (pj (pj (pj (pj (pj (pj (pj (pj (pj (pj (pj (pj (pj (pj (pj (pj (pj (pj (pj (pj (pj (pj (pj (pj (pj (pj (pj (pj (pj (pj (pj aq Df) GO) aq) aq) aq) (IF Fb)) aq) (IF Fe)) aq) aq) aq) aq) aq) aq) aq) aq) aq) aq) aq) aq) aq) (IF GQ.symm)) aq) Ff) Fg) (IF Fc.symm)) (IF GP)) aq) aq) aq) aq)
theorem proved_MarkSure:Rows.MarkSureSaid:=
 OpenClaim.holds_of_wide 6 Tryz.f6 rfl rfl rfl rfl rfl rfl rfl ⟨rfl,rfl,rfl,rfl,rfl⟩ rfl rfl rfl rfl rfl aq Tryz.func6 tQ
  (of_decide_eq_true aq) (by unfold Func.isWrapper;first|(rw [if_pos (by decide+kernel)];kernel_rfl)|(rw [if_neg (by decide+kernel)];exact ⟨rfl,rfl⟩))
  (fun os started H enc _=>tG os started H enc)
end Go.Proofs.YteajddicacjkhaaGreat
