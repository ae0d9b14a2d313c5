/-
  FormLines holds for every input: of a flat hull of any made space the program names the litres, planes and sections that lines have; the statement's function returns true and never panics.
-/
import Derived.Test.YtddaejgfjlneoaaGreatJd
import Derived.Test.YtddaejgfjlneoaaGreatRows
import Derived.OpenShut
import Derived.ProofKit
import Derived.ShutString
import Derived.ChangeOld
namespace Go.Proofs.YtddaejgfjlneoaaGreat
open Go.MW Go.ChangeShapes Go.WideShapes Go.ChangeAt Go.RowKit
theorem qu{W:World}{v0:Value}{a0:List Int}{a1 a2:Int}(w0:RI (hp W) v0 a0)(_:Cu a0)(_:I64 a1)(_:I64 a2):
  Cl Tryz.prog 6 [v0,I a1,I a2] W fun v w'=>v= .bool true∧∃H',HLe (hp W) H'∧St H' w' []:=lE (St.start W) w0
set_option maxRecDepth 100000 in
theorem nq(os:Os)(started:os.Started)(H:Type)(enc:TypeId×Value→H):
  ReturnsInHanded {} Tryz.checked os 6 .any (Rows.formLinesSpec.pre6 enc Tryz.prog Tryz.f6 Rows.formLinesRow.domain false) (Rows.formLinesSpec.post enc Tryz.prog Tryz.f6 false true false false):=by
 refine returnsInHanded_of_change_sized (C:=Tryz.checked) Bs started ay Tryz.func6
  (ChangeSpec.witness6 (enc:=enc) (C:=Tryz.checked) false ⟨#[],#[.slice none 0 0,.int .i64 0,.int .i64 0],[]⟩ 8 ay ay ay ay) ?_
 intro W base args ds gs before hval0 hW hcnd hsz _
 have hval:∀(j:Nat) t v,Tryz.f6.params[j]? =some t→args[j]? =some v→Value.okWide Tryz.prog W .any base t v:=hval0
 have hW':=hW
 obtain ⟨p,q,hA0,hV,rfl,hfz,hnd⟩:=hW
 have hA:DataW.TrodAll enc Tryz.prog W 0 (fun _=>true) true Tryz.f6.params.toList args.toList ds p:=hA0
 have hAk:=hA
 rw [Tryz.params6] at hA hval
 obtain ⟨v0,vs0,d0,ds0,p0,q0,hargs,rfl,rfl,h0,r0⟩:=trodAll_cons hA
 obtain ⟨v1,vs1,d1,ds1,p1,q1,rfl,rfl,rfl,h1,r1⟩:=trodAll_cons r0
 obtain ⟨v2,vs2,d2,ds2,p2,q2,rfl,rfl,rfl,h2,r2⟩:=trodAll_cons r1
 obtain ⟨rfl,rfl,rfl⟩:=trodAll_nil r2
 obtain rfl:args=#[v0,v1,v2]:=by cases args;simp_all
 obtain ⟨rfl,rfl⟩:=trodVars_none hV
 have k0:Wt Tryz.prog 22 d0:=fun n hn=>(by have:=List.all_eq_true.1 hsz n (DataW.weights_mem_each (j:=0) rfl rfl n hn);simpa using this)
 obtain ⟨a0,w0,u0⟩:=open_ints (hval 0 22 v0 rfl rfl) h0 k0
 have k1:Wt Tryz.prog 3 d1:=fun n hn=>(by have:=List.all_eq_true.1 hsz n (DataW.weights_mem_each (j:=1) rfl rfl n hn);simpa using this)
 obtain ⟨a1,w1,u1⟩:=y8 (hval 1 3 v1 rfl rfl) h1
 subst w1
 have k2:Wt Tryz.prog 3 d2:=fun n hn=>(by have:=List.all_eq_true.1 hsz n (DataW.weights_mem_each (j:=2) rfl rfl n hn);simpa using this)
 obtain ⟨a2,w2,u2⟩:=y8 (hval 2 3 v2 rfl rfl) h2
 subst w2
 refine Calls.mono (qu w0 u0 u1 u2) fun e W' ⟨v,he,hv,H',hle,hs⟩=>?_
 subst he;subst hv
 have kp:=St.kept hle hs
 exact ⟨_,rfl,_,_,_,[],_,[],hW',trodAll_mk1 (shut_bool Tryz.underlying4 _),Kept.trodAll wN kp (by rw [Tryz.params6];intro t ht;simp only [List.mem_cons,List.not_mem_nil,or_false] at ht;rcases ht with rfl|rfl|rfl<;>exact ⟨by kernel_rfl,of_decide_eq_true ay⟩) hAk,rfl,kp.frame _,fun h=>by cases h⟩
theorem nu:joinedFacts Tryz.prog 6 Tryz.f6 Rows.formLinesSpec Rows.formLinesRow=true:=by
 unfold joinedFacts
 exact (kL (kL (kL (kL (kL (kL (kL (kL (kL (kL (kL (kL (kL (kL (kL (kL (kL (kL (kL (kL (kL (kL (kL (kL (kL (kL (kL (kL (kL (kL (kL ay wN) Ac) ay) ay) ay) (Bw yE)) ay) (Bw yG)) ay) ay) ay) ay) ay) ay) ay) ay) ay) ay) ay) ay) ay) (Bw Ae.symm)) ay) yH) yI) (Bw yF.symm)) (Bw Ad)) ay) ay) ay) ay)
theorem proved_FormLines:Rows.FormLinesSaid:=
 OpenClaim.holds_of_wide 6 Tryz.f6 rfl rfl rfl rfl rfl rfl rfl ⟨rfl,rfl,rfl,rfl,rfl⟩ rfl rfl rfl rfl rfl ay Tryz.func6 nu
  (of_decide_eq_true ay) (by unfold Func.isWrapper;first|(rw [if_pos (by decide+kernel)];kernel_rfl)|(rw [if_neg (by decide+kernel)];exact ⟨rfl,rfl⟩))
  (fun os started H enc _=>nq os started H enc)
end Go.Proofs.YtddaejgfjlneoaaGreat
