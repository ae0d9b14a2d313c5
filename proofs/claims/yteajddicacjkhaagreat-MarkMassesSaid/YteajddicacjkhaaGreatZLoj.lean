/-
  MarkMasses holds for every input: of any route and mass both tell the same masses; the statement's function returns true and never panics.
-/
import Derived.Test.YteajddicacjkhaaGreatBe
import Derived.Test.YteajddicacjkhaaGreatRows
import Derived.OpenShut
import Derived.ProofKit
import Derived.ShutString
import Derived.ChangeOld
namespace Go.Proofs.YteajddicacjkhaaGreat
open Go.MW Go.ChangeShapes Go.WideShapes Go.ChangeAt Go.RowKit
theorem sd{W:World}{v0 v1:Value}{a0:List Lg}{a1:Rng}(w0:∃vl,v0= .agg #[vl]∧RLg (hp W) vl a0)(_:True)(w1:v1=rgA a1)(_:I64 a1.lo∧I64 a1.hi):
  Cl Tryz.prog 8 [v0,v1] W fun v w'=>v= .bool true∧∃H',HLe (hp W) H'∧St H' w' []:=by
 obtain ⟨vl,rfl,h⟩:=w0
 subst w1
 exact m6 (St.start W) h
set_option maxRecDepth 100000 in
theorem ph(os:Os)(started:os.Started)(H:Type)(enc:TypeId×Value→H):
  ReturnsInHanded {} Tryz.checked os 8 .any (Rows.markMassesSpec.pre6 enc Tryz.prog Tryz.f8 Rows.markMassesRow.domain false) (Rows.markMassesSpec.post enc Tryz.prog Tryz.f8 false true false false):=by
 refine returnsInHanded_of_change_sized (C:=Tryz.checked) C2 started an Tryz.func8
  (ChangeSpec.witness6 (enc:=enc) (C:=Tryz.checked) false ⟨#[],#[.agg #[.slice none 0 0],.agg #[.int .i64 0,.int .i64 0]],[]⟩ 8 an an an an) ?_
 intro W base args ds gs before hval0 hW hcnd hsz _
 have hval:∀(j:Nat) t v,Tryz.f8.params[j]? =some t→args[j]? =some v→Value.okWide Tryz.prog W .any base t v:=hval0
 have hW':=hW
 obtain ⟨p,q,hA0,hV,rfl,hfz,hnd⟩:=hW
 have hA:DataW.TrodAll enc Tryz.prog W 0 (fun _=>true) true Tryz.f8.params.toList args.toList ds p:=hA0
 have hAk:=hA
 rw [Tryz.params8] at hA hval
 obtain ⟨v0,vs0,d0,ds0,p0,q0,hargs,rfl,rfl,h0,r0⟩:=trodAll_cons hA
 obtain ⟨v1,vs1,d1,ds1,p1,q1,rfl,rfl,rfl,h1,r1⟩:=trodAll_cons r0
 obtain ⟨rfl,rfl,rfl⟩:=trodAll_nil r1
 obtain rfl:args=#[v0,v1]:=by cases args;simp_all
 obtain ⟨rfl,rfl⟩:=trodVars_none hV
 have k0:Wt Tryz.prog 28 d0:=fun n hn=>(by have:=List.all_eq_true.1 hsz n (DataW.weights_mem_each (j:=0) rfl rfl n hn);simpa using this)
 obtain ⟨a0,w0,u0⟩:=yW (hval 0 28 v0 rfl rfl) h0 k0
 have k1:Wt Tryz.prog 42 d1:=fun n hn=>(by have:=List.all_eq_true.1 hsz n (DataW.weights_mem_each (j:=1) rfl rfl n hn);simpa using this)
 obtain ⟨a1,w1,u1⟩:=wX (hval 1 42 v1 rfl rfl) h1 k1
 refine Calls.mono (sd w0 u0 w1 u1) fun e W' ⟨v,he,hv,H',hle,hs⟩=>?_
 subst he;subst hv
 have kp:=St.kept hle hs
 exact ⟨_,rfl,_,_,_,[],_,[],hW',trodAll_mk1 (shut_bool Tryz.underlying4 _),Kept.trodAll ub kp (by rw [Tryz.params8];intro t ht;simp only [List.mem_cons,List.not_mem_nil,or_false] at ht;rcases ht with rfl|rfl<;>exact ⟨by kernel_rfl,of_decide_eq_true an⟩) hAk,rfl,kp.frame _,fun h=>by cases h⟩
theorem pq:joinedFacts Tryz.prog 8 Tryz.f8 Rows.markMassesSpec Rows.markMassesRow=true:=by
 unfold joinedFacts
 exact (fI (fI (fI (fI (fI (fI (fI (fI (fI (fI (fI (fI (fI (fI (fI (fI (fI (fI (fI (fI (fI (fI (fI (fI (fI (fI (fI (fI (fI (fI (fI an ub) AY) an) an) an) (Bp yq)) an) (Bp yt)) an) an) an) an) an) an) an) an) an) an) an) an) an) (Bp A0.symm)) an) yu) yv) (Bp yr.symm)) (Bp AZ)) an) an) an) an)
theorem proved_MarkMasses:Rows.MarkMassesSaid:=
 OpenClaim.holds_of_wide 8 Tryz.f8 rfl rfl rfl rfl rfl rfl rfl ⟨rfl,rfl,rfl,rfl,rfl⟩ rfl rfl rfl rfl rfl an Tryz.func8 pq
  (of_decide_eq_true an) (by unfold Func.isWrapper;first|(rw [if_pos (by decide+kernel)];kernel_rfl)|(rw [if_neg (by decide+kernel)];exact ⟨rfl,rfl⟩))
  (fun os started H enc _=>ph os started H enc)
end Go.Proofs.YteajddicacjkhaaGreat
