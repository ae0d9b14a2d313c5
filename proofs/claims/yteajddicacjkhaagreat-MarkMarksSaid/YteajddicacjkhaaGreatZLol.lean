/-
  MarkMarks holds for every input: of any made ship and route, one number changed, both tell the same marks; the statement's function returns true and never panics.
-/
import Derived.Test.YteajddicacjkhaaGreatCe
import Derived.Test.YteajddicacjkhaaGreatRows
import Derived.OpenShut
import Derived.ProofKit
import Derived.ShutString
import Derived.ChangeOld
namespace Go.Proofs.YteajddicacjkhaaGreat
open Go.MW Go.ChangeShapes Go.WideShapes Go.ChangeAt Go.RowKit
theorem xu{W:World}{v1:Value}{a1:Two}{v0:Value}{a0:He}(w0:∃vs v5 v4 vp vn vg,v0=a0.agg vs v5 v4 vp vn vg∧BT (hp W) a0 vs v5 v4 vp vn vg)(_:I64 a0.m1∧I64 a0.m2)(w1:v1= .agg #[I a1.a,I a1.b])(_:I64 a1.a∧I64 a1.b):
  Cl Tryz.prog 9 [v0,v1] W fun v w'=>v= .bool true∧∃H',HLe (hp W) H'∧St H' w' []:=by
 obtain ⟨vs,v5,v4,vp,vn,vg,rfl,h⟩:=w0
 subst w1
 exact qO (St.start W) h
set_option maxRecDepth 100000 in
theorem tm(os:Os)(started:os.Started)(H:Type)(enc:TypeId×Value→H):
  ReturnsInHanded {} Tryz.checked os 9 .any (Rows.markMarksSpec.pre6 enc Tryz.prog Tryz.f9 Rows.markMarksRow.domain false) (Rows.markMarksSpec.post enc Tryz.prog Tryz.f9 false true false false):=by
 refine returnsInHanded_of_change_sized (C:=Tryz.checked) Iz started aq Tryz.func9
  (ChangeSpec.witness6 (enc:=enc) (C:=Tryz.checked) false ⟨#[],#[.agg #[.slice none 0 0,.slice none 0 0,.slice none 0 0,.slice none 0 0,.int .i64 0,.int .i64 0,.int .i64 0,.slice none 0 0,.slice none 0 0,.int .i64 0,.int .i64 0,.int .i64 0,.int .i64 0,.int .i64 0],.agg #[.int .i64 0,.int .i64 0]],[]⟩ 8 aq aq aq aq) ?_
 intro W base args ds gs before hval0 hW hcnd hsz _
 have hval:∀(j:Nat) t v,Tryz.f9.params[j]? =some t→args[j]? =some v→Value.okWide Tryz.prog W .any base t v:=hval0
 have hW':=hW
 obtain ⟨p,q,hA0,hV,rfl,hfz,hnd⟩:=hW
 have hA:DataW.TrodAll enc Tryz.prog W 0 (fun _=>true) true Tryz.f9.params.toList args.toList ds p:=hA0
 have hAk:=hA
 rw [Tryz.params9] at hA hval
 obtain ⟨v0,vs0,d0,ds0,p0,q0,hargs,rfl,rfl,h0,r0⟩:=trodAll_cons hA
 obtain ⟨v1,vs1,d1,ds1,p1,q1,rfl,rfl,rfl,h1,r1⟩:=trodAll_cons r0
 obtain ⟨rfl,rfl,rfl⟩:=trodAll_nil r1
 obtain rfl:args=#[v0,v1]:=by cases args;simp_all
 obtain ⟨rfl,rfl⟩:=trodVars_none hV
 have k0:Wt Tryz.prog 44 d0:=fun n hn=>(by have:=List.all_eq_true.1 hsz n (DataW.weights_mem_each (j:=0) rfl rfl n hn);simpa using this)
 obtain ⟨a0,w0,u0⟩:=BE (hval 0 44 v0 rfl rfl) h0 k0
 have k1:Wt Tryz.prog 76 d1:=fun n hn=>(by have:=List.all_eq_true.1 hsz n (DataW.weights_mem_each (j:=1) rfl rfl n hn);simpa using this)
 obtain ⟨a1,w1,u1⟩:=ER (hval 1 76 v1 rfl rfl) h1 k1
 refine Calls.mono (xu w0 u0 w1 u1) fun e W' ⟨v,he,hv,H',hle,hs⟩=>?_
 subst he;subst hv
 have kp:=St.kept hle hs
 exact ⟨_,rfl,_,_,_,[],_,[],hW',trodAll_mk1 (shut_bool Tryz.underlying4 _),Kept.trodAll DG kp (by rw [Tryz.params9];intro t ht;simp only [List.mem_cons,List.not_mem_nil,or_false] at ht;rcases ht with rfl|rfl<;>exact ⟨by kernel_rfl,of_decide_eq_true aq⟩) hAk,rfl,kp.frame _,fun h=>by cases h⟩
theorem tp:joinedFacts Tryz.prog 9 Tryz.f9 Rows.markMarksSpec Rows.markMarksRow=true:=by
 unfold joinedFacts
 exact (p9 (p9 (p9 (p9 (p9 (p9 (p9 (p9 (p9 (p9 (p9 (p9 (p9 (p9 (p9 (p9 (p9 (p9 (p9 (p9 (p9 (p9 (p9 (p9 (p9 (p9 (p9 (p9 (p9 (p9 (p9 aq DG) G0) aq) aq) aq) (IC Fv)) aq) (IC Fx)) aq) aq) aq) aq) aq) aq) aq) aq) aq) aq) aq) aq) aq) (IC G2.symm)) aq) Fy) Fz) (IC Fw.symm)) (IC G1)) aq) aq) aq) aq)
theorem proved_MarkMarks:Rows.MarkMarksSaid:=
 OpenClaim.holds_of_wide 9 Tryz.f9 rfl rfl rfl rfl rfl rfl rfl ⟨rfl,rfl,rfl,rfl,rfl⟩ rfl rfl rfl rfl rfl aq Tryz.func9 tp
  (of_decide_eq_true aq) (by unfold Func.isWrapper;first|(rw [if_pos (by decide+kernel)];kernel_rfl)|(rw [if_neg (by decide+kernel)];exact ⟨rfl,rfl⟩))
  (fun os started H enc _=>tm os started H enc)
end Go.Proofs.YteajddicacjkhaaGreat
