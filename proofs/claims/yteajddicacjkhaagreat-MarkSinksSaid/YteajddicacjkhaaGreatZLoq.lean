/-
  MarkSinks holds for every input: of any made ship and route, one number changed, a witness is shown where the reference says so, of the leg that it says, and is accepted; the statement's function returns true and never panics.
-/
import Derived.Test.YteajddicacjkhaaGreatHf
import Derived.Test.YteajddicacjkhaaGreatRows
import Derived.OpenShut
import Derived.ProofKit
import Derived.ShutString
import Derived.ChangeOld
namespace Go.Proofs.YteajddicacjkhaaGreat
open Go.MW Go.ChangeShapes Go.WideShapes Go.ChangeAt Go.RowKit
theorem CO{W:World}{v0:Value}{a0:Of}(w0:∃vs v5 v4 vp vn vg,v0=a0.agg vs v5 v4 vp vn vg∧I8 (hp W) a0 vs v5 v4 vp vn vg)(_:I64 a0.m1∧I64 a0.m2):
  Cl Tryz.prog 13 [v0] W fun v w'=>v= .bool true∧∃H',HLe (hp W) H'∧St H' w' []:=by
 obtain ⟨vs,v5,v4,vp,vn,vg,rfl,h⟩:=w0;exact vi (St.start W) h
set_option maxRecDepth 100000 in
theorem yv(os:Os)(started:os.Started)(H:Type)(enc:TypeId×Value→H):
  ReturnsInHanded {} Tryz.checked os 13 .any (Rows.markSinksSpec.pre6 enc Tryz.prog Tryz.f13 Rows.markSinksRow.domain false) (Rows.markSinksSpec.post enc Tryz.prog Tryz.f13 false true false false):=by
 refine returnsInHanded_of_change_sized (C:=Tryz.checked) Uj started aA Tryz.func13
  (ChangeSpec.witness6 (enc:=enc) (C:=Tryz.checked) false ⟨#[],#[.agg #[.slice none 0 0,.slice none 0 0,.slice none 0 0,.slice none 0 0,I 0,I 0,I 0,.slice none 0 0,.slice none 0 0,I 0,I 0,I 0,I 0,I 0]],[]⟩ 8 aA aA aA aA) ?_
 intro W base args ds gs before SO hW hcnd wm _;have Nh:∀(j:Nat) t v,Tryz.f13.params[j]? =some t→args[j]? =some v→Value.okWide Tryz.prog W .any base t v:=SO;have Dx:=hW;obtain ⟨p,q,QT,hV,rfl,hfz,xH⟩:=hW;have hA:DataW.TrodAll enc Tryz.prog W 0 (fun _=>true) true Tryz.f13.params.toList args.toList ds p:=QT;have QS:=hA;rw [Tryz.params13] at hA Nh;obtain ⟨v0,vs0,d0,ds0,p0,q0,aaj,rfl,rfl,h0,r0⟩:=trodAll_cons hA;obtain ⟨rfl,rfl,rfl⟩:=trodAll_nil r0;obtain rfl:args=#[v0]:=by cases args;simp_all
 obtain ⟨rfl,rfl⟩:=trodVars_none hV;have k0:Wt Tryz.prog 44 d0:=fun n hn=>(by have:=List.all_eq_true.1 wm n (DataW.weights_mem_each (j:=0) rfl rfl n hn);simpa using this)
 obtain ⟨a0,w0,u0⟩:=Iu (Nh 0 44 v0 rfl rfl) h0 k0;refine Calls.mono (CO w0 u0) fun e W' ⟨v,he,hv,H',hle,hs⟩=>?_
 subst he;subst hv;have kp:=St.kept hle hs;exact ⟨_,rfl,_,_,_,[],_,[],Dx,trodAll_mk1 (shut_bool Tryz.underlying4 _),Kept.trodAll LN kp (by rw [Tryz.params13];intro t ht;simp only [List.mem_cons,List.not_mem_nil,or_false] at ht;rcases ht with rfl<;>exact ⟨by kernel_rfl,of_decide_eq_true aA⟩) QS,rfl,kp.frame _,fun h=>by cases h⟩
theorem yH:joinedFacts Tryz.prog 13 Tryz.f13 Rows.markSinksSpec Rows.markSinksRow=true:=by
 unfold joinedFacts;exact (ud (ud (ud (ud (ud (ud (ud (ud (ud (ud (ud (ud (ud (ud (ud (ud (ud (ud (ud (ud (ud (ud (ud (ud (ud (ud (ud (ud (ud (ud (ud aA LN) Q7) aA) aA) aA) (Ul N0)) aA) (Ul N2)) aA) aA) aA) aA) aA) aA) aA) aA) aA) aA) aA) aA) aA) (Ul Q9.symm)) aA) N3) N4) (Ul N1.symm)) (Ul Q8)) aA) aA) aA) aA)
theorem proved_MarkSinks:Rows.MarkSinksSaid:=
 OpenClaim.holds_of_wide 13 Tryz.f13 rfl rfl rfl rfl rfl rfl rfl ⟨rfl,rfl,rfl,rfl,rfl⟩ rfl rfl rfl rfl rfl aA Tryz.func13 yH
  (of_decide_eq_true aA) (by unfold Func.isWrapper;first|(rw [if_pos (by decide+kernel)];kernel_rfl)|(rw [if_neg (by decide+kernel)];exact ⟨rfl,rfl⟩))
  (fun os started H enc _=>yv os started H enc)
end Go.Proofs.YteajddicacjkhaaGreat
