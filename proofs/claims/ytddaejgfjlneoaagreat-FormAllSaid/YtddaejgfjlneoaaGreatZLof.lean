/-
  FormAll holds for every input: of any made survey every whole number of a range is reached, on the way from a hull at its low end to one at its high end; the statement's function returns true and never panics.
-/
import Derived.Test.YtddaejgfjlneoaaGreatIe
import Derived.Test.YtddaejgfjlneoaaGreatRows
import Derived.OpenShut
import Derived.ProofKit
import Derived.ShutString
import Derived.ChangeOld
namespace Go.Proofs.YtddaejgfjlneoaaGreat
open Go.MW Go.ChangeShapes Go.WideShapes Go.ChangeAt Go.RowKit
theorem wV{W:World}{v0 v1:Value}{a0:CQ}{a1:Int×Int×Int}{a2:Int}(w0:xg (hp W) v0 a0)(_:True)(w1:v1= .agg #[I a1.1,I a1.2.1,I a1.2.2])(_:True)(_:I64 a2):
  Cl Tryz.prog 17 [v0,v1,I a2] W fun v w'=>v= .bool true∧∃H',HLe (hp W) H'∧St H' w' []:=by
 subst w1
 exact qG (St.start W) w0
set_option maxRecDepth 100000 in
theorem sB(os:Os)(started:os.Started)(H:Type)(enc:TypeId×Value→H):
  ReturnsInHanded {} Tryz.checked os 17 .any (Rows.formAllSpec.pre6 enc Tryz.prog Tryz.f17 Rows.formAllRow.domain false) (Rows.formAllSpec.post enc Tryz.prog Tryz.f17 false true false false):=by
 refine returnsInHanded_of_change_sized (C:=Tryz.checked) AK started au Tryz.func17
  (ChangeSpec.witness6 (enc:=enc) (C:=Tryz.checked) false ⟨#[],#[.agg #[.slice none 0 0,.slice none 0 0,.slice none 0 0,.slice none 0 0,.int .i64 0,.int .i64 0,.int .i64 0],.agg #[.int .i64 0,.int .i64 0,.int .i64 0],.int .i64 0],[]⟩ 8 au au au au) ?_
 intro W base args ds gs before hval0 hW hcnd hsz _
 have hval:∀(j:Nat) t v,Tryz.f17.params[j]? =some t→args[j]? =some v→Value.okWide Tryz.prog W .any base t v:=hval0
 have hW':=hW
 obtain ⟨p,q,hA0,hV,rfl,hfz,hnd⟩:=hW
 have hA:DataW.TrodAll enc Tryz.prog W 0 (fun _=>true) true Tryz.f17.params.toList args.toList ds p:=hA0
 have hAk:=hA
 rw [Tryz.params17] at hA hval
 obtain ⟨v0,vs0,d0,ds0,p0,q0,hargs,rfl,rfl,h0,r0⟩:=trodAll_cons hA
 obtain ⟨v1,vs1,d1,ds1,p1,q1,rfl,rfl,rfl,h1,r1⟩:=trodAll_cons r0
 obtain ⟨v2,vs2,d2,ds2,p2,q2,rfl,rfl,rfl,h2,r2⟩:=trodAll_cons r1
 obtain ⟨rfl,rfl,rfl⟩:=trodAll_nil r2
 obtain rfl:args=#[v0,v1,v2]:=by cases args;simp_all
 obtain ⟨rfl,rfl⟩:=trodVars_none hV
 have k0:Wt Tryz.prog 27 d0:=fun n hn=>(by have:=List.all_eq_true.1 hsz n (DataW.weights_mem_each (j:=0) rfl rfl n hn);simpa using this)
 obtain ⟨a0,w0,u0⟩:=pT (hval 0 27 v0 rfl rfl) h0 k0
 have k1:Wt Tryz.prog 25 d1:=fun n hn=>(by have:=List.all_eq_true.1 hsz n (DataW.weights_mem_each (j:=1) rfl rfl n hn);simpa using this)
 obtain ⟨a1,w1,u1⟩:=rN (hval 1 25 v1 rfl rfl) h1 k1
 have k2:Wt Tryz.prog 3 d2:=fun n hn=>(by have:=List.all_eq_true.1 hsz n (DataW.weights_mem_each (j:=2) rfl rfl n hn);simpa using this)
 obtain ⟨a2,w2,u2⟩:=Eu (hval 2 3 v2 rfl rfl) h2
 subst w2
 refine Calls.mono (wV w0 u0 w1 u1 u2) fun e W' ⟨v,he,hv,H',hle,hs⟩=>?_
 subst he;subst hv
 have kp:=St.kept hle hs
 exact ⟨_,rfl,_,_,_,[],_,[],hW',trodAll_mk1 (shut_bool xj _),Kept.trodAll qa kp (by rw [Tryz.params17];intro t ht;simp only [List.mem_cons,List.not_mem_nil,or_false] at ht;rcases ht with rfl|rfl|rfl<;>exact ⟨by kernel_rfl,of_decide_eq_true au⟩) hAk,rfl,kp.frame _,fun h=>by cases h⟩
theorem sE:joinedFacts Tryz.prog 17 Tryz.f17 Rows.formAllSpec Rows.formAllRow=true:=by
 unfold joinedFacts
 exact (eE (eE (eE (eE (eE (eE (eE (eE (eE (eE (eE (eE (eE (eE (eE (eE (eE (eE (eE (eE (eE (eE (eE (eE (eE (eE (eE (eE (eE (eE (eE au qa) xa) au) au) au) (xd uh)) au) (xd uj)) au) au) au) au) au) au) au) au) au) au) au) au) au) (xd xc.symm)) au) uk) um) (xd ui.symm)) (xd xb)) au) au) au) au)
theorem proved_FormAll:Rows.FormAllSaid:=
 OpenClaim.holds_of_wide 17 Tryz.f17 rfl rfl rfl rfl rfl rfl rfl ⟨rfl,rfl,rfl,rfl,rfl⟩ rfl rfl rfl rfl rfl au Tryz.func17 sE
  (of_decide_eq_true au) (by unfold Func.isWrapper;first|(rw [if_pos (by decide+kernel)];kernel_rfl)|(rw [if_neg (by decide+kernel)];exact ⟨rfl,rfl⟩))
  (fun os started H enc _=>sB os started H enc)
end Go.Proofs.YtddaejgfjlneoaaGreat
