/-
  MarkSharp holds for every input: both ends of the litres and of the displacement at a waterline are those of hulls that keep the survey; if the answer for a leg is not No, some such hull keeps its mark; the statement's function returns true and never panics.
-/
import Derived.Test.YteajddicacjkhaaGreatLe
import Derived.Test.YteajddicacjkhaaGreatRows
import Derived.OpenShut
import Derived.ProofKit
import Derived.ShutString
import Derived.ChangeOld
namespace Go.Proofs.YteajddicacjkhaaGreat
open Go.MW Go.ChangeShapes Go.WideShapes Go.ChangeAt Go.RowKit
theorem BM{W:World}{a1:Int}{v0:Value}{a0:GV}(w0:∃vs v5 v4 vp vn vg,v0=a0.agg vs v5 v4 vp vn vg∧zq (hp W) a0 vs v5 v4 vp vn vg)(_:I64 a0.m1∧I64 a0.m2)(_:I64 a1):
  Cl Tryz.prog 14 [v0,I a1] W fun v w'=>v= .bool true∧∃H',HLe (hp W) H'∧St H' w' []:=by
 obtain ⟨vs,v5,v4,vp,vn,vg,rfl,h⟩:=w0;exact tz (St.start W) h
set_option maxRecDepth 100000 in
theorem w5(os:Os)(started:os.Started)(H:Type)(enc:TypeId×Value→H):
  ReturnsInHanded {} Tryz.checked os 14 .any (Rows.markSharpSpec.pre6 enc Tryz.prog Tryz.f14 Rows.markSharpRow.domain false) (Rows.markSharpSpec.post enc Tryz.prog Tryz.f14 false true false false):=by
 refine returnsInHanded_of_change_sized (C:=Tryz.checked) KX started az Tryz.func14
  (ChangeSpec.witness6 (enc:=enc) (C:=Tryz.checked) false ⟨#[],#[.agg #[.slice none 0 0,.slice none 0 0,.slice none 0 0,.slice none 0 0,I 0,I 0,I 0,.slice none 0 0,.slice none 0 0,I 0,I 0,I 0,I 0,I 0],I 0],[]⟩ 8 az az az az) ?_
 intro W base args ds gs before Dj hW Sz nZ _;have tD:∀(j:Nat) t v,Tryz.f14.params[j]? =some t→args[j]? =some v→Value.okWide Tryz.prog W .any base t v:=Dj;have BT:=hW;obtain ⟨p,q,Kw,hV,rfl,Za,wu⟩:=hW;have hA:DataW.TrodAll enc Tryz.prog W 0 (fun _=>true) true Tryz.f14.params.toList args.toList ds p:=Kw;have Tn:=hA;rw [Tryz.params14] at hA tD;obtain ⟨v0,vs0,d0,ds0,p0,q0,Og,rfl,rfl,h0,r0⟩:=trodAll_cons hA;obtain ⟨v1,vs1,d1,ds1,p1,q1,rfl,rfl,rfl,h1,r1⟩:=trodAll_cons r0;obtain ⟨rfl,rfl,rfl⟩:=trodAll_nil r1;obtain rfl:args=#[v0,v1]:=by cases args;simp_all
 obtain ⟨rfl,rfl⟩:=trodVars_none hV;have k0:Wt Tryz.prog 44 d0:=fun n hn=>(by have:=List.all_eq_true.1 nZ n (DataW.weights_mem_each (j:=0) rfl rfl n hn);simpa using this)
 obtain ⟨a0,w0,u0⟩:=uY (tD 0 44 v0 rfl rfl) h0 k0;have k1:Wt Tryz.prog 3 d1:=fun n hn=>(by have:=List.all_eq_true.1 nZ n (DataW.weights_mem_each (j:=1) rfl rfl n hn);simpa using this)
 obtain ⟨a1,w1,u1⟩:=RM (tD 1 3 v1 rfl rfl) h1;subst w1;refine Calls.mono (BM w0 u0 u1) fun e W' ⟨v,he,hv,H',hle,hs⟩=>?_
 subst he;subst hv;have kp:=St.kept hle hs;exact ⟨_,rfl,_,_,_,[],_,[],BT,trodAll_mk1 (shut_bool Ir _),Kept.trodAll vM kp (by rw [Tryz.params14];intro t ht;simp only [List.mem_cons,List.not_mem_nil,or_false] at ht;rcases ht with rfl|rfl<;>exact ⟨by kernel_rfl,of_decide_eq_true az⟩) Tn,rfl,kp.frame _,fun h=>by cases h⟩
theorem xc:joinedFacts Tryz.prog 14 Tryz.f14 Rows.markSharpSpec Rows.markSharpRow=true:=by
 unfold joinedFacts;exact (fR (fR (fR (fR (fR (fR (fR (fR (fR (fR (fR (fR (fR (fR (fR (fR (fR (fR (fR (fR (fR (fR (fR (fR (fR (fR (fR (fR (fR (fR (fR az vM) Fp) az) az) az) (Fw B6)) az) (Fw B8)) az) az) az) az) az) az) az) az) az) az) az) az) az) (Fw Ft.symm)) az) B9) Ca) (Fw B7.symm)) (Fw Fq)) az) az) az) az)
theorem proved_MarkSharp:Rows.MarkSharpSaid:=
 OpenClaim.holds_of_wide 14 Tryz.f14 rfl rfl rfl rfl rfl rfl rfl ⟨rfl,rfl,rfl,rfl,rfl⟩ rfl rfl rfl rfl rfl az Tryz.func14 xc
  (of_decide_eq_true az) (by unfold Func.isWrapper;first|(rw [if_pos (by decide+kernel)];kernel_rfl)|(rw [if_neg (by decide+kernel)];exact ⟨rfl,rfl⟩))
  (fun os started H enc _=>w5 os started H enc)
end Go.Proofs.YteajddicacjkhaaGreat
