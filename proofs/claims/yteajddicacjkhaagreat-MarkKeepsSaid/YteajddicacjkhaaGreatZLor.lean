/-
  MarkKeeps holds for every input: if a departure is passed, the true hull keeps the mark of each leg; if it is not, a witness is shown that is accepted; the statement's function returns true and never panics.
-/
import Derived.Test.YteajddicacjkhaaGreatIe
import Derived.Test.YteajddicacjkhaaGreatRows
import Derived.OpenShut
import Derived.ProofKit
import Derived.ShutString
import Derived.ChangeOld
namespace Go.Proofs.YteajddicacjkhaaGreat
open Go.MW Go.ChangeShapes Go.WideShapes Go.ChangeAt Go.RowKit
theorem wM{W:World}{v1:Value}{a1:Int×Int×Int}{v0:Value}{a0:Dl}(w0:∃vs v5 v4 vp vn vg,v0=a0.agg vs v5 v4 vp vn vg∧zA (hp W) a0 vs v5 v4 vp vn vg)(_:I64 a0.m1∧I64 a0.m2)(w1:v1= .agg #[I a1.1,I a1.2.1,I a1.2.2])(_:True):
  Cl Tryz.prog 15 [v0,v1] W fun v w'=>v= .bool true∧∃H',HLe (hp W) H'∧St H' w' []:=by
 obtain ⟨vs,v5,v4,vp,vn,vg,rfl,h⟩:=w0
 subst w1
 exact qn (St.start W) h
set_option maxRecDepth 100000 in
theorem sG(os:Os)(started:os.Started)(H:Type)(enc:TypeId×Value→H):
  ReturnsInHanded {} Tryz.checked os 15 .any (Rows.markKeepsSpec.pre6 enc Tryz.prog Tryz.f15 Rows.markKeepsRow.domain false) (Rows.markKeepsSpec.post enc Tryz.prog Tryz.f15 false true false false):=by
 refine returnsInHanded_of_change_sized (C:=Tryz.checked) HD started aE Tryz.func15
  (ChangeSpec.witness6 (enc:=enc) (C:=Tryz.checked) false ⟨#[],#[.agg #[.slice none 0 0,.slice none 0 0,.slice none 0 0,.slice none 0 0,I 0,I 0,I 0,.slice none 0 0,.slice none 0 0,I 0,I 0,I 0,I 0,I 0],.agg #[I 0,I 0,I 0]],[]⟩ 8 aE aE aE aE) ?_
 intro W base args ds gs before hval0 hW hcnd hsz _
 have hval:∀(j:Nat) t v,Tryz.f15.params[j]? =some t→args[j]? =some v→Value.okWide Tryz.prog W .any base t v:=hval0
 have hW':=hW
 obtain ⟨p,q,hA0,hV,rfl,hfz,hnd⟩:=hW
 have hA:DataW.TrodAll enc Tryz.prog W 0 (fun _=>true) true Tryz.f15.params.toList args.toList ds p:=hA0
 have hAk:=hA
 rw [Tryz.params15] at hA hval
 obtain ⟨v0,vs0,d0,ds0,p0,q0,hargs,rfl,rfl,h0,r0⟩:=trodAll_cons hA
 obtain ⟨v1,vs1,d1,ds1,p1,q1,rfl,rfl,rfl,h1,r1⟩:=trodAll_cons r0
 obtain ⟨rfl,rfl,rfl⟩:=trodAll_nil r1
 obtain rfl:args=#[v0,v1]:=by cases args;simp_all
 obtain ⟨rfl,rfl⟩:=trodVars_none hV
 have k0:Wt Tryz.prog 44 d0:=fun n hn=>(by have:=List.all_eq_true.1 hsz n (DataW.weights_mem_each (j:=0) rfl rfl n hn);simpa using this)
 obtain ⟨a0,w0,u0⟩:=AU (hval 0 44 v0 rfl rfl) h0 k0
 have k1:Wt Tryz.prog 37 d1:=fun n hn=>(by have:=List.all_eq_true.1 hsz n (DataW.weights_mem_each (j:=1) rfl rfl n hn);simpa using this)
 obtain ⟨a1,w1,u1⟩:=y7 (hval 1 37 v1 rfl rfl) h1 k1
 refine Calls.mono (wM w0 u0 w1 u1) fun e W' ⟨v,he,hv,H',hle,hs⟩=>?_
 subst he;subst hv
 have kp:=St.kept hle hs
 exact ⟨_,rfl,_,_,_,[],_,[],hW',trodAll_mk1 (shut_bool Tryz.underlying4 _),Kept.trodAll CX kp (by rw [Tryz.params15];intro t ht;simp only [List.mem_cons,List.not_mem_nil,or_false] at ht;rcases ht with rfl|rfl<;>exact ⟨by kernel_rfl,of_decide_eq_true aE⟩) hAk,rfl,kp.frame _,fun h=>by cases h⟩
theorem sH:joinedFacts Tryz.prog 15 Tryz.f15 Rows.markKeepsSpec Rows.markKeepsRow=true:=by
 unfold joinedFacts
 exact (pH (pH (pH (pH (pH (pH (pH (pH (pH (pH (pH (pH (pH (pH (pH (pH (pH (pH (pH (pH (pH (pH (pH (pH (pH (pH (pH (pH (pH (pH (pH aE CX) Gk) aE) aE) aE) (HG EH)) aE) (HG EJ)) aE) aE) aE) aE) aE) aE) aE) aE) aE) aE) aE) aE) aE) (HG Gm.symm)) aE) EK) EL) (HG EI.symm)) (HG Gl)) aE) aE) aE) aE)
theorem proved_MarkKeeps:Rows.MarkKeepsSaid:=
 OpenClaim.holds_of_wide 15 Tryz.f15 rfl rfl rfl rfl rfl rfl rfl ⟨rfl,rfl,rfl,rfl,rfl⟩ rfl rfl rfl rfl rfl aE Tryz.func15 sH
  (of_decide_eq_true aE) (by unfold Func.isWrapper;first|(rw [if_pos (by decide+kernel)];kernel_rfl)|(rw [if_neg (by decide+kernel)];exact ⟨rfl,rfl⟩))
  (fun os started H enc _=>sG os started H enc)
end Go.Proofs.YteajddicacjkhaaGreat
