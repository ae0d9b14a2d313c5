/-
  TopMark holds for every input: if a ship was passed as her hull was known on a day, the true hull sinks no mark on any leg, and she is passed later, too; where she is not passed a hull is shown that keeps all that is known and sinks; the statement's function returns true and never panics.
-/
import Derived.Test.YtlgfjghdgbhkhaaGreatTf
import Derived.Test.YtlgfjghdgbhkhaaGreatRows
import Derived.OpenShut
import Derived.ProofKit
import Derived.ShutString
import Derived.ChangeOld
namespace Go.Proofs.YtlgfjghdgbhkhaaGreat
open Go.MW Go.ChangeShapes Go.WideShapes Go.ChangeAt Go.RowKit
theorem FP{W:World}{v0:Value}{a0:Dep}(w0:aaz (hp W) v0 a0)(_:I64 a0.x.m1∧I64 a0.x.m2):
  Cl Tryz.prog 4 [v0] W fun v w'=>v= .bool true∧∃H',HLe (hp W) H'∧St H' w' []:=by
 obtain ⟨vs,v5,v4,vp,vn,vg,vd,rfl,h1,h2⟩:=w0;exact xw (St.start W) h1 h2
set_option maxRecDepth 100000 in
theorem AK(os:Os)(started:os.Started)(H:Type)(enc:TypeId×Value→H):
  ReturnsInHanded {} Tryz.checked os 4 .any (Rows.topMarkSpec.pre6 enc Tryz.prog Tryz.f4 Rows.topMarkRow.domain false) (Rows.topMarkSpec.post enc Tryz.prog Tryz.f4 false true false false):=by
 refine returnsInHanded_of_change_sized (C:=Tryz.checked) UD started au Tryz.func4
  (ChangeSpec.witness6 (enc:=enc) (C:=Tryz.checked) false ⟨#[],#[.agg #[.slice none 0 0,.slice none 0 0,.slice none 0 0,.slice none 0 0,I 0,I 0,I 0,.slice none 0 0,.slice none 0 0,I 0,I 0,I 0,I 0,I 0,.slice none 0 0,I 0,I 0,I 0,I 0,I 0]],[]⟩ 8 au au au au) ?_
 intro W base args ds gs before Tn hW hcnd ui _;have NI:∀(j:Nat) t v,Tryz.f4.params[j]? =some t→args[j]? =some v→Value.okWide Tryz.prog W .any base t v:=Tn;have Gb:=hW;obtain ⟨p,q,Ux,hV,rfl,hfz,xX⟩:=hW;have hA:DataW.TrodAll enc Tryz.prog W 0 (fun _=>true) true Tryz.f4.params.toList args.toList ds p:=Ux;have Rs:=hA;rw [Tryz.params4] at hA NI;obtain ⟨v0,vs0,d0,ds0,p0,q0,ZZ,rfl,rfl,h0,r0⟩:=trodAll_cons hA;obtain ⟨rfl,rfl,rfl⟩:=trodAll_nil r0;obtain rfl:args=#[v0]:=by cases args;simp_all
 obtain ⟨rfl,rfl⟩:=trodVars_none hV;have k0:Wt Tryz.prog 86 d0:=fun n hn=>(by have:=List.all_eq_true.1 ui n (DataW.weights_mem_each (j:=0) rfl rfl n hn);simpa using this)
 obtain ⟨a0,w0,u0⟩:=AF (NI 0 86 v0 rfl rfl) h0 k0;refine Calls.mono (FP w0 u0) fun e W' ⟨v,he,hv,H',hle,hs⟩=>?_
 subst he;subst hv;have kp:=St.kept hle hs;exact ⟨_,rfl,_,_,_,[],_,[],Gb,trodAll_mk1 (shut_bool Tryz.underlying4 _),Kept.trodAll LR kp (by rw [Tryz.params4];intro t ht;simp only [List.mem_cons,List.not_mem_nil,or_false] at ht;rcases ht with rfl<;>exact ⟨by kernel_rfl,of_decide_eq_true au⟩) Rs,rfl,kp.frame _,fun h=>by cases h⟩
theorem AZ:joinedFacts Tryz.prog 4 Tryz.f4 Rows.topMarkSpec Rows.topMarkRow=true:=by
 unfold joinedFacts;exact (tq (tq (tq (tq (tq (tq (tq (tq (tq (tq (tq (tq (tq (tq (tq (tq (tq (tq (tq (tq (tq (tq (tq (tq (tq (tq (tq (tq (tq (tq (tq au LR) RD) au) au) au) (UF Oq)) au) (UF Ou)) au) au) au) au) au) au) au) au) au) au) au) au) au) (UF RF.symm)) au) Ov) Ow) (UF Ot.symm)) (UF RE)) au) au) au) au)
theorem proved_TopMark:Rows.TopMarkSaid:=
 OpenClaim.holds_of_wide 4 Tryz.f4 rfl rfl rfl rfl rfl rfl rfl ⟨rfl,rfl,rfl,rfl,rfl⟩ rfl rfl rfl rfl rfl au Tryz.func4 AZ
  (of_decide_eq_true au) (by unfold Func.isWrapper;first|(rw [if_pos (by decide+kernel)];kernel_rfl)|(rw [if_neg (by decide+kernel)];exact ⟨rfl,rfl⟩))
  (fun os started H enc _=>AK os started H enc)
end Go.Proofs.YtlgfjghdgbhkhaaGreat
