/-
  MarkDraughts holds for every input: the first waterline at which the true hull floats a mass lies within the draught that is told; the statement's function returns true and never panics.
-/
import Derived.Test.YteajddicacjkhaaGreatFf
import Derived.Test.YteajddicacjkhaaGreatRows
import Derived.OpenShut
import Derived.ProofKit
import Derived.ShutString
import Derived.ChangeOld
namespace Go.Proofs.YteajddicacjkhaaGreat
open Go.MW Go.ChangeShapes Go.WideShapes Go.ChangeAt Go.RowKit
theorem uo{W:World}{v0 v1 v2:Value}{a0:Jh}{a1:JS}{a2:Two}(w0:HO (hp W) v0 a0)(_:True)(w1:v1= .agg #[I a1.wt,I a1.m.lo,I a1.m.hi,I a1.x,I a1.y])(_:True)(w2:v2= .agg #[I a2.a,I a2.b])(_:I64 a2.a∧I64 a2.b):
  Cl Tryz.prog 10 [v0,v1,v2] W fun v w'=>v= .bool true∧∃H',HLe (hp W) H'∧St H' w' []:=by
 subst w1 w2
 obtain ⟨vs,v5,v4,vp,rfl,g1,g2,g3,g4⟩:=w0
 exact oH (St.start W) g1 g2 g3 g4
set_option maxRecDepth 100000 in
theorem qH(os:Os)(started:os.Started)(H:Type)(enc:TypeId×Value→H):
  ReturnsInHanded {} Tryz.checked os 10 .any (Rows.markDraughtsSpec.pre6 enc Tryz.prog Tryz.f10 Rows.markDraughtsRow.domain false) (Rows.markDraughtsSpec.post enc Tryz.prog Tryz.f10 false true false false):=by
 refine returnsInHanded_of_change_sized (C:=Tryz.checked) GP started aD Tryz.func10
  (ChangeSpec.witness6 (enc:=enc) (C:=Tryz.checked) false ⟨#[],#[.agg #[.slice none 0 0,.slice none 0 0,.slice none 0 0,.slice none 0 0,I 0,I 0,I 0],.agg #[I 0,I 0,I 0,I 0,I 0],.agg #[I 0,I 0]],[]⟩ 8 aD aD aD aD) ?_
 intro W base args ds gs before hval0 hW hcnd hsz _
 have hval:∀(j:Nat) t v,Tryz.f10.params[j]? =some t→args[j]? =some v→Value.okWide Tryz.prog W .any base t v:=hval0
 have hW':=hW
 obtain ⟨p,q,hA0,hV,rfl,hfz,hnd⟩:=hW
 have hA:DataW.TrodAll enc Tryz.prog W 0 (fun _=>true) true Tryz.f10.params.toList args.toList ds p:=hA0
 have hAk:=hA
 rw [Tryz.params10] at hA hval
 obtain ⟨v0,vs0,d0,ds0,p0,q0,hargs,rfl,rfl,h0,r0⟩:=trodAll_cons hA
 obtain ⟨v1,vs1,d1,ds1,p1,q1,rfl,rfl,rfl,h1,r1⟩:=trodAll_cons r0
 obtain ⟨v2,vs2,d2,ds2,p2,q2,rfl,rfl,rfl,h2,r2⟩:=trodAll_cons r1
 obtain ⟨rfl,rfl,rfl⟩:=trodAll_nil r2
 obtain rfl:args=#[v0,v1,v2]:=by cases args;simp_all
 obtain ⟨rfl,rfl⟩:=trodVars_none hV
 have k0:Wt Tryz.prog 39 d0:=fun n hn=>(by have:=List.all_eq_true.1 hsz n (DataW.weights_mem_each (j:=0) rfl rfl n hn);simpa using this)
 obtain ⟨a0,w0,u0⟩:=xI (hval 0 39 v0 rfl rfl) h0 k0
 have k1:Wt Tryz.prog 90 d1:=fun n hn=>(by have:=List.all_eq_true.1 hsz n (DataW.weights_mem_each (j:=1) rfl rfl n hn);simpa using this)
 obtain ⟨a1,w1,u1⟩:=zP (hval 1 90 v1 rfl rfl) h1 k1
 have k2:Wt Tryz.prog 76 d2:=fun n hn=>(by have:=List.all_eq_true.1 hsz n (DataW.weights_mem_each (j:=2) rfl rfl n hn);simpa using this)
 obtain ⟨a2,w2,u2⟩:=FJ (hval 2 76 v2 rfl rfl) h2 k2
 refine Calls.mono (uo w0 u0 w1 u1 w2 u2) fun e W' ⟨v,he,hv,H',hle,hs⟩=>?_
 subst he;subst hv
 have kp:=St.kept hle hs
 exact ⟨_,rfl,_,_,_,[],_,[],hW',trodAll_mk1 (shut_bool Tryz.underlying4 _),Kept.trodAll yW kp (by rw [Tryz.params10];intro t ht;simp only [List.mem_cons,List.not_mem_nil,or_false] at ht;rcases ht with rfl|rfl|rfl<;>exact ⟨by kernel_rfl,of_decide_eq_true aD⟩) hAk,rfl,kp.frame _,fun h=>by cases h⟩
theorem qL:joinedFacts Tryz.prog 10 Tryz.f10 Rows.markDraughtsSpec Rows.markDraughtsRow=true:=by
 unfold joinedFacts
 exact (jm (jm (jm (jm (jm (jm (jm (jm (jm (jm (jm (jm (jm (jm (jm (jm (jm (jm (jm (jm (jm (jm (jm (jm (jm (jm (jm (jm (jm (jm (jm aD yW) Ez) aD) aD) aD) (EX B8)) aD) (EX Ca)) aD) aD) aD) aD) aD) aD) aD) aD) aD) aD) aD) aD) aD) (EX EB.symm)) aD) Cb) Cc) (EX B9.symm)) (EX EA)) aD) aD) aD) aD)
theorem proved_MarkDraughts:Rows.MarkDraughtsSaid:=
 OpenClaim.holds_of_wide 10 Tryz.f10 rfl rfl rfl rfl rfl rfl rfl ⟨rfl,rfl,rfl,rfl,rfl⟩ rfl rfl rfl rfl rfl aD Tryz.func10 qL
  (of_decide_eq_true aD) (by unfold Func.isWrapper;first|(rw [if_pos (by decide+kernel)];kernel_rfl)|(rw [if_neg (by decide+kernel)];exact ⟨rfl,rfl⟩))
  (fun os started H enc _=>qH os started H enc)
end Go.Proofs.YteajddicacjkhaaGreat
