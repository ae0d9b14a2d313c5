/-
  TopLineage holds for every input: the events that a ship's figures rest on all count; an event is one of them just when her figures move, or cannot be told, without it; the statement's function returns true and never panics.
-/
import Derived.Test.YtfnfiekkdpphjaaGreatTf
import Derived.Test.YtfnfiekkdpphjaaGreatRows
import Derived.OpenShut
import Derived.ProofKit
import Derived.ShutString
import Derived.ChangeOld
import Derived.Conc.Holds
import Derived.Leaving
namespace Go.Proofs.YtfnfiekkdpphjaaGreat
open Go.MW Go.ChangeShapes Go.WideShapes Go.ChangeAt Go.RowKit
theorem zZ{W:World}{v0:Value}{a0:Trd}{a1 a2:Int}(w0:aap (hp W) v0 a0)(_:True)(_:I64 a1)(_:I64 a2):
  Cl Tryz.prog 3 [v0,I a1,I a2] W fun v w'=>v= .bool true∧∃H',HLe (hp W) H'∧St H' w' []:=by
 obtain ⟨vs,v5,v4,vp,vd,vr,rfl,⟨h1,h2,h3,h4⟩,h5,h6,h7⟩:=w0;exact rP (St.start W) h1 h2 h3 h4 h5 h6 h7
set_option maxRecDepth 100000 in
theorem uG(os:Os)(started:os.Started)(H:Type)(enc:TypeId×Value→H):
  ReturnsInHanded {} Tryz.checked os 3 .any (Rows.topLineageSpec.pre6 enc Tryz.prog Tryz.f3 Rows.topLineageRow.domain false) (Rows.topLineageSpec.post enc Tryz.prog Tryz.f3 false true false false):=by
 refine returnsInHanded_of_change_sized (C:=Tryz.checked) UE started aF Tryz.func3
  (ChangeSpec.witness6 (enc:=enc) (C:=Tryz.checked) false ⟨#[],#[.agg #[.slice none 0 0,.slice none 0 0,.slice none 0 0,.slice none 0 0,I 0,I 0,I 0,.slice none 0 0,.string .empty,.slice none 0 0,.slice none 0 0],I 0,I 0],[]⟩ 8 aF aF aF aF) ?_
 intro W base args ds gs before Tc hW hcnd rQ _;have M5:∀(j:Nat) t v,Tryz.f3.params[j]? =some t→args[j]? =some v→Value.okWide Tryz.prog W .any base t v:=Tc;have FK:=hW;obtain ⟨p,q,Uu,hV,rfl,hfz,tW⟩:=hW;have hA:DataW.TrodAll enc Tryz.prog W 0 (fun _=>true) true Tryz.f3.params.toList args.toList ds p:=Uu;have hAk:=hA;rw [Tryz.params3] at hA M5;obtain ⟨v0,vs0,d0,ds0,p0,q0,ZU,rfl,rfl,h0,r0⟩:=trodAll_cons hA;obtain ⟨v1,vs1,d1,ds1,p1,q1,rfl,rfl,rfl,h1,r1⟩:=trodAll_cons r0;obtain ⟨v2,vs2,d2,ds2,p2,q2,rfl,rfl,rfl,h2,r2⟩:=trodAll_cons r1;obtain ⟨rfl,rfl,rfl⟩:=trodAll_nil r2;obtain rfl:args=#[v0,v1,v2]:=by cases args;simp_all
 obtain ⟨rfl,rfl⟩:=trodVars_none hV;have k0:Wt Tryz.prog 33 d0:=fun n hn=>(by have:=List.all_eq_true.1 rQ n (DataW.weights_mem_each (j:=0) rfl rfl n hn);simpa using this)
 obtain ⟨a0,w0,u0⟩:=HI (M5 0 33 v0 rfl rfl) h0 k0;have k1:Wt Tryz.prog 3 d1:=fun n hn=>(by have:=List.all_eq_true.1 rQ n (DataW.weights_mem_each (j:=1) rfl rfl n hn);simpa using this)
 obtain ⟨a1,w1,u1⟩:=Ox (M5 1 3 v1 rfl rfl) h1;subst w1;have k2:Wt Tryz.prog 3 d2:=fun n hn=>(by have:=List.all_eq_true.1 rQ n (DataW.weights_mem_each (j:=2) rfl rfl n hn);simpa using this)
 obtain ⟨a2,w2,u2⟩:=Ox (M5 2 3 v2 rfl rfl) h2;subst w2;refine Calls.mono (zZ w0 u0 u1 u2) fun e W' ⟨v,he,hv,H',hle,hs⟩=>?_
 subst he;subst hv;have kp:=St.kept hle hs;exact ⟨_,rfl,_,_,_,[],_,[],FK,trodAll_mk1 (shut_bool Tryz.underlying4 _),Kept.trodAll Ld kp (by rw [Tryz.params3];intro t ht;simp only [List.mem_cons,List.not_mem_nil,or_false] at ht;rcases ht with rfl|rfl|rfl<;>exact ⟨by kernel_rfl,of_decide_eq_true aF⟩) hAk,rfl,kp.frame _,fun h=>by cases h⟩
theorem vk:joinedFacts Tryz.prog 3 Tryz.f3 Rows.topLineageSpec Rows.topLineageRow=true:=by
 unfold joinedFacts;exact (se (se (se (se (se (se (se (se (se (se (se (se (se (se (se (se (se (se (se (se (se (se (se (se (se (se (se (se (se (se (se aF Ld) Rn) aF) aF) aF) (UK NR)) aF) (UK NT)) aF) aF) aF) aF) aF) aF) aF) aF) aF) aF) aF) aF) aF) (UK Rp.symm)) aF) NU) NV) (UK NS.symm)) (UK Ro)) aF) aF) aF) aF)
theorem proved_TopLineage:Rows.TopLineageSaid:=
 OpenClaim.holds_of_wide_leaving 3 Tryz.f3 rfl rfl rfl rfl rfl rfl rfl ⟨rfl,rfl,rfl,rfl,rfl⟩ rfl rfl rfl rfl rfl aF Tryz.func3 vk
  (of_decide_eq_true aF) (by unfold Func.isWrapper;first|(rw [if_pos (by decide+kernel)];kernel_rfl)|(rw [if_neg (by decide+kernel)];exact ⟨rfl,rfl⟩))
  (fun os started H enc _ enter=>ReturnsInOpen.mono (fun _ _ _ x=>⟨x.2.1,onlyLeaving_of_quiet x.1,x.2.2⟩) (fun _ x=>x) (uG os started H enc enter))
end Go.Proofs.YtfnfiekkdpphjaaGreat
