/-
  TopKnown holds for every input: at each day of knowledge the true hull keeps the survey that is known, its litres lie within what is told of the room, later the range is no wider, and the events that are known alone tell the same; the statement's function returns true and never panics.
-/
import Derived.Test.YtlgfjghdgbhkhaaGreatMe
import Derived.Test.YtlgfjghdgbhkhaaGreatRows
import Derived.OpenShut
import Derived.ProofKit
import Derived.ShutString
import Derived.ChangeOld
namespace Go.Proofs.YtlgfjghdgbhkhaaGreat
open Go.MW Go.ChangeShapes Go.WideShapes Go.ChangeAt Go.RowKit
theorem zf{W:World}{v0 v1 v2:Value}{a0:Sn}{a1:List Int}{a2:Two}(w0:Ot (hp W) v0 a0)(_:True)(w1:RI (hp W) v1 a1)(_:Sv a1)(w2:v2= .agg #[I a2.a,I a2.b])(_:I64 a2.a∧I64 a2.b):
  Cl Tryz.prog 3 [v0,v1,v2] W fun v w'=>v= .bool true∧∃H',HLe (hp W) H'∧St H' w' []:=by
 subst w2;obtain ⟨vs,v5,v4,vp,rfl,g1,g2,g3,g4⟩:=w0;exact rq (St.start W) g1 g2 g3 g4 w1
set_option maxRecDepth 100000 in
theorem tT(os:Os)(started:os.Started)(H:Type)(enc:TypeId×Value→H):
  ReturnsInHanded {} Tryz.checked os 3 .any (Rows.topKnownSpec.pre6 enc Tryz.prog Tryz.f3 Rows.topKnownRow.domain false) (Rows.topKnownSpec.post enc Tryz.prog Tryz.f3 false true false false):=by
 refine returnsInHanded_of_change_sized (C:=Tryz.checked) Oi started az Tryz.func3
  (ChangeSpec.witness6 (enc:=enc) (C:=Tryz.checked) false ⟨#[],#[.agg #[.slice none 0 0,.slice none 0 0,.slice none 0 0,.slice none 0 0,I 0,I 0,I 0],.slice none 0 0,.agg #[I 0,I 0]],[]⟩ 8 az az az az) ?_
 intro W base args ds gs before MV hW hcnd ru _;have CZ:∀(j:Nat) t v,Tryz.f3.params[j]? =some t→args[j]? =some v→Value.okWide Tryz.prog W .any base t v:=MV;have A7:=hW;obtain ⟨p,q,R0,hV,rfl,hfz,s7⟩:=hW;have hA:DataW.TrodAll enc Tryz.prog W 0 (fun _=>true) true Tryz.f3.params.toList args.toList ds p:=R0;have hAk:=hA;rw [Tryz.params3] at hA CZ;obtain ⟨v0,vs0,d0,ds0,p0,q0,Tm,rfl,rfl,h0,r0⟩:=trodAll_cons hA;obtain ⟨v1,vs1,d1,ds1,p1,q1,rfl,rfl,rfl,h1,r1⟩:=trodAll_cons r0;obtain ⟨v2,vs2,d2,ds2,p2,q2,rfl,rfl,rfl,h2,r2⟩:=trodAll_cons r1;obtain ⟨rfl,rfl,rfl⟩:=trodAll_nil r2;obtain rfl:args=#[v0,v1,v2]:=by cases args;simp_all
 obtain ⟨rfl,rfl⟩:=trodVars_none hV;have k0:Wt Tryz.prog 27 d0:=fun n hn=>(by have:=List.all_eq_true.1 ru n (DataW.weights_mem_each (j:=0) rfl rfl n hn);simpa using this)
 obtain ⟨a0,w0,u0⟩:=CS (CZ 0 27 v0 rfl rfl) h0 k0;have k1:Wt Tryz.prog 22 d1:=fun n hn=>(by have:=List.all_eq_true.1 ru n (DataW.weights_mem_each (j:=1) rfl rfl n hn);simpa using this)
 obtain ⟨a1,w1,u1⟩:=open_ints (CZ 1 22 v1 rfl rfl) h1 k1;have k2:Wt Tryz.prog 28 d2:=fun n hn=>(by have:=List.all_eq_true.1 ru n (DataW.weights_mem_each (j:=2) rfl rfl n hn);simpa using this)
 obtain ⟨a2,w2,u2⟩:=Hm (CZ 2 28 v2 rfl rfl) h2 k2;refine Calls.mono (zf w0 u0 w1 u1 w2 u2) fun e W' ⟨v,he,hv,H',hle,hs⟩=>?_
 subst he;subst hv;have kp:=St.kept hle hs;exact ⟨_,rfl,_,_,_,[],_,[],A7,trodAll_mk1 (shut_bool Tryz.underlying4 _),Kept.trodAll F7 kp (by rw [Tryz.params3];intro t ht;simp only [List.mem_cons,List.not_mem_nil,or_false] at ht;rcases ht with rfl|rfl|rfl<;>exact ⟨by kernel_rfl,of_decide_eq_true az⟩) hAk,rfl,kp.frame _,fun h=>by cases h⟩
theorem uC:joinedFacts Tryz.prog 3 Tryz.f3 Rows.topKnownSpec Rows.topKnownRow=true:=by
 unfold joinedFacts;exact (pj (pj (pj (pj (pj (pj (pj (pj (pj (pj (pj (pj (pj (pj (pj (pj (pj (pj (pj (pj (pj (pj (pj (pj (pj (pj (pj (pj (pj (pj (pj az F7) Lo) az) az) az) (Oj IH)) az) (Oj IK)) az) az) az) az) az) az) az) az) az) az) az) az) az) (Oj Lq.symm)) az) IL) IM) (Oj IJ.symm)) (Oj Lp)) az) az) az) az)
theorem proved_TopKnown:Rows.TopKnownSaid:=
 OpenClaim.holds_of_wide 3 Tryz.f3 rfl rfl rfl rfl rfl rfl rfl ⟨rfl,rfl,rfl,rfl,rfl⟩ rfl rfl rfl rfl rfl az Tryz.func3 uC
  (of_decide_eq_true az) (by unfold Func.isWrapper;first|(rw [if_pos (by decide+kernel)];kernel_rfl)|(rw [if_neg (by decide+kernel)];exact ⟨rfl,rfl⟩))
  (fun os started H enc _=>tT os started H enc)
end Go.Proofs.YtlgfjghdgbhkhaaGreat
