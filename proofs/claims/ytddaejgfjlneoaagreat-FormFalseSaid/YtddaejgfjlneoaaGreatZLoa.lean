/-
  FormFalse holds for every input: the sources that the program names as contradicting each other do so, and no longer when any one is left out; the statement's function returns true and never panics.
-/
import Derived.Test.YtddaejgfjlneoaaGreatGe
import Derived.Test.YtddaejgfjlneoaaGreatRows
import Derived.OpenShut
import Derived.ProofKit
import Derived.ShutString
import Derived.ChangeOld
namespace Go.Proofs.YtddaejgfjlneoaaGreat
open Go.MW Go.ChangeShapes Go.WideShapes Go.ChangeAt Go.RowKit
theorem vF{W:World}{v0:Value}{a0:Ez}{a1:Int}(w0:BG (hp W) v0 a0)(_:True)(_:I64 a1):
  Cl Tryz.prog 10 [v0,I a1] W fun v w'=>v= .bool true∧∃H',HLe (hp W) H'∧St H' w' []:=p6 (St.start W) w0
set_option maxRecDepth 100000 in
theorem rV(os:Os)(started:os.Started)(H:Type)(enc:TypeId×Value→H):
  ReturnsInHanded {} Tryz.checked os 10 .any (Rows.formFalseSpec.pre6 enc Tryz.prog Tryz.f10 Rows.formFalseRow.domain false) (Rows.formFalseSpec.post enc Tryz.prog Tryz.f10 false true false false):=by
 refine returnsInHanded_of_change_sized (C:=Tryz.checked) Dx started au Tryz.func10
  (ChangeSpec.witness6 (enc:=enc) (C:=Tryz.checked) false ⟨#[],#[.agg #[.slice none 0 0,.slice none 0 0,.slice none 0 0,.slice none 0 0,.int .i64 0,.int .i64 0,.int .i64 0],.int .i64 0],[]⟩ 8 au au au au) ?_
 intro W base args ds gs before hval0 hW hcnd hsz _
 have hval:∀(j:Nat) t v,Tryz.f10.params[j]? =some t→args[j]? =some v→Value.okWide Tryz.prog W .any base t v:=hval0
 have hW':=hW
 obtain ⟨p,q,hA0,hV,rfl,hfz,hnd⟩:=hW
 have hA:DataW.TrodAll enc Tryz.prog W 0 (fun _=>true) true Tryz.f10.params.toList args.toList ds p:=hA0
 have hAk:=hA
 rw [Tryz.params10] at hA hval
 obtain ⟨v0,vs0,d0,ds0,p0,q0,hargs,rfl,rfl,h0,r0⟩:=trodAll_cons hA
 obtain ⟨v1,vs1,d1,ds1,p1,q1,rfl,rfl,rfl,h1,r1⟩:=trodAll_cons r0
 obtain ⟨rfl,rfl,rfl⟩:=trodAll_nil r1
 obtain rfl:args=#[v0,v1]:=by cases args;simp_all
 obtain ⟨rfl,rfl⟩:=trodVars_none hV
 have k0:Wt Tryz.prog 27 d0:=fun n hn=>(by have:=List.all_eq_true.1 hsz n (DataW.weights_mem_each (j:=0) rfl rfl n hn);simpa using this)
 obtain ⟨a0,w0,u0⟩:=uF (hval 0 27 v0 rfl rfl) h0 k0
 have k1:Wt Tryz.prog 3 d1:=fun n hn=>(by have:=List.all_eq_true.1 hsz n (DataW.weights_mem_each (j:=1) rfl rfl n hn);simpa using this)
 obtain ⟨a1,w1,u1⟩:=E6 (hval 1 3 v1 rfl rfl) h1
 subst w1
 refine Calls.mono (vF w0 u0 u1) fun e W' ⟨v,he,hv,H',hle,hs⟩=>?_
 subst he;subst hv
 have kp:=St.kept hle hs
 exact ⟨_,rfl,_,_,_,[],_,[],hW',trodAll_mk1 (shut_bool yn _),Kept.trodAll vU kp (by rw [Tryz.params10];intro t ht;simp only [List.mem_cons,List.not_mem_nil,or_false] at ht;rcases ht with rfl|rfl<;>exact ⟨by kernel_rfl,of_decide_eq_true au⟩) hAk,rfl,kp.frame _,fun h=>by cases h⟩
theorem rW:joinedFacts Tryz.prog 10 Tryz.f10 Rows.formFalseSpec Rows.formFalseRow=true:=by
 unfold joinedFacts
 exact (iE (iE (iE (iE (iE (iE (iE (iE (iE (iE (iE (iE (iE (iE (iE (iE (iE (iE (iE (iE (iE (iE (iE (iE (iE (iE (iE (iE (iE (iE (iE au vU) Bw) au) au) au) (BU za)) au) (BU zc)) au) au) au) au) au) au) au) au) au) au) au) au) au) (BU By.symm)) au) zd) ze) (BU zb.symm)) (BU Bx)) au) au) au) au)
theorem proved_FormFalse:Rows.FormFalseSaid:=
 OpenClaim.holds_of_wide 10 Tryz.f10 rfl rfl rfl rfl rfl rfl rfl ⟨rfl,rfl,rfl,rfl,rfl⟩ rfl rfl rfl rfl rfl au Tryz.func10 rW
  (of_decide_eq_true au) (by unfold Func.isWrapper;first|(rw [if_pos (by decide+kernel)];kernel_rfl)|(rw [if_neg (by decide+kernel)];exact ⟨rfl,rfl⟩))
  (fun os started H enc _=>rV os started H enc)
end Go.Proofs.YtddaejgfjlneoaaGreat
