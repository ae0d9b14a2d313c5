/-
  Texts of these claims, joined: On Op.
-/
import Derived.Test.YteajddicacjkhaaGreatAd
namespace Go.Proofs.YteajddicacjkhaaGreat
open Go.MW
variable{H:a8}{w:World}{σ:List Ent}
theorem cP{a0 a1 a2:Int}(hs:St H w σ):Cl Tryz.prog 74 [I a0,I a1,I a2] w fun v w'=>v= .bool (decide (a1≤a0∧a0≤a2))∧St H w' σ:=by
 refine Cl.o Tryz.func74 Tryz.ntmps74 ag3 ?_
 refine .ai (.z zg (.nil (.ai (.z zm (.z zm (.z sK (.z zm ?_)))))))
 refine .gW (t':=10) rfl (fun hb10=>?_) (fun hb10=>?_)
 ·refine .gT rfl rfl ?_
  refine .z zm ?_
  refine .gT rfl rfl ?_
  refine .z zm ?_
  refine .gT rfl rfl ?_
  refine .z px (.z zpT (.z zg (.nil ?_)))
  refine .ret (Fin.aU Tryz.results74 rfl ?_)
  exact ⟨by simp [*],hs.out⟩
 ·refine .gFs 3 3 true rfl rfl rfl ?_
  refine .z zpF (.z zg (.nil ?_))
  refine .ret (Fin.aU Tryz.results74 rfl ?_)
  exact ⟨by simp [*],hs.out⟩
theorem oD{x y:Int}(hs:St H w σ):Cl Tryz.prog 53 [.agg #[I x,I y]] w fun v w'=>v= .bool (decide (eU x y))∧St H w' σ:=by
 refine Cl.o Tryz.func53 Tryz.ntmps53 ag1 ?_
 refine .ai ?_
 refine .bx hs fun b1 w hs=>?_
 refine .z zg (.nil (.ai (.z (zfa a6) (.y hs (zld af) (.z sK (.z zm ?_))))))
 refine .gW (t':=6) rfl (fun hb6=>?_) (fun hb6=>?_)
 ·refine .gT rfl rfl ?_
  refine .z (zfa a6) ?_
  refine .gT rfl rfl ?_
  refine .y hs (zld af) ?_
  refine .gT rfl rfl ?_
  refine .z (zfa bD) ?_
  refine .gT rfl rfl ?_
  refine .y hs (zld af) ?_
  refine .gT rfl rfl ?_
  refine .z px (.z zpT (.z zm ?_))
  refine .gW (t':=13) rfl (fun hb13=>?_) (fun hb13=>?_)
  ·refine .gT rfl rfl ?_
   refine .z (zfa bD) ?_
   refine .gT rfl rfl ?_
   refine .y hs (zld af) ?_
   refine .gT rfl rfl ?_
   refine .z px (.z zpT (.z zg (.nil ?_)))
   refine .ret (Fin.aU Tryz.results53 rfl ?_)
   exact ⟨by unfold eU;simp [*],hs.out⟩
  ·refine .gFs 3 10 true rfl rfl rfl ?_
   refine .z zpF (.z zg (.nil ?_))
   refine .ret (Fin.aU Tryz.results53 rfl ?_)
   exact ⟨by unfold eU;simp [*],hs.out⟩
 ·refine .gFs 5 3 true rfl rfl rfl ?_
  refine .z zpF (.z zm ?_)
  refine .gFs 3 10 true rfl rfl rfl ?_
  refine .z zpF (.z zg (.nil ?_))
  refine .ret (Fin.aU Tryz.results53 rfl ?_)
  exact ⟨by unfold eU;simp [*],hs.out⟩
theorem nh{x y:Int}(hs:St H w σ):Cl Tryz.prog 124 [.agg #[I x,I y]] w fun v w'=>v= .bool (decide (eg x y))∧St H w' σ:=by
 refine Cl.o Tryz.func124 Tryz.ntmps124 ag1 ?_
 refine .ai ?_
 refine .bx hs fun b1 w hs=>?_
 refine .z zg (.nil (.ai (.z (zfa a6) (.y hs (zld af) (.z sK (.z zm ?_))))))
 refine .gW (t':=6) rfl (fun hb6=>?_) (fun hb6=>?_)
 ·refine .gT rfl rfl ?_
  refine .z (zfa a6) ?_
  refine .gT rfl rfl ?_
  refine .y hs (zld af) ?_
  refine .gT rfl rfl ?_
  refine .z (zfa bD) ?_
  refine .gT rfl rfl ?_
  refine .y hs (zld af) ?_
  refine .gT rfl rfl ?_
  refine .z px (.z zpT (.z zm ?_))
  refine .gW (t':=13) rfl (fun hb13=>?_) (fun hb13=>?_)
  ·refine .gT rfl rfl ?_
   refine .z (zfa bD) ?_
   refine .gT rfl rfl ?_
   refine .y hs (zld af) ?_
   refine .gT rfl rfl ?_
   refine .z px (.z zpT (.z zg (.nil ?_)))
   refine .ret (Fin.aU Tryz.results124 rfl ?_)
   exact ⟨by unfold eg;simp [*],hs.out⟩
  ·refine .gFs 3 10 true rfl rfl rfl ?_
   refine .z zpF (.z zg (.nil ?_))
   refine .ret (Fin.aU Tryz.results124 rfl ?_)
   exact ⟨by unfold eg;simp [*],hs.out⟩
 ·refine .gFs 5 3 true rfl rfl rfl ?_
  refine .z zpF (.z zm ?_)
  refine .gFs 3 10 true rfl rfl rfl ?_
  refine .z zpF (.z zg (.nil ?_))
  refine .ret (Fin.aU Tryz.results124 rfl ?_)
  exact ⟨by unfold eg;simp [*],hs.out⟩
theorem pF{x:Lg}(hs:St H w σ):
  Cl Tryz.prog 76 [.agg #[I x.zone,I x.fr,I x.to,I x.dlo,I x.dhi,I x.blo,I x.bhi]] w fun v w'=>∃b:Bool,v= .bool b∧(b=true↔yO x)∧St H w' σ:=by
 refine Cl.o Tryz.func76 Tryz.ntmps76 ag1 ?_
 refine .ai ?_
 refine .bx hs fun b1 w hs=>?_
 refine .z zg (.nil (.ai (.z (zfa kM) (.y hs (zld af) ?_))))
 refine .o (.call fZ rfl (cP hs) ?_);rintro _ w ⟨rfl,hs⟩
 refine .z zm ?_
 refine .bif (t':=6) rfl (fun hb6=>?_) (fun hb6=>?_)
 ·refine .gT rfl rfl ?_
  refine .z (zfa eR) ?_
  refine .gT rfl rfl ?_
  refine .y hs (zld af) ?_
  refine .gT rfl rfl ?_
  refine .z sK (.z zpT (.z zm ?_))
  refine .gW (t':=11) rfl (fun hb11=>?_) (fun hb11=>?_)
  ·refine .gT rfl rfl ?_
   refine .z (zfa eR) ?_
   refine .gT rfl rfl ?_
   refine .y hs (zld af) ?_
   refine .gT rfl rfl ?_
   refine .z (zfa eQ) ?_
   refine .gT rfl rfl ?_
   refine .y hs (zld af) ?_
   refine .gT rfl rfl ?_
   refine .z px (.z zpT (.z zm ?_))
   refine .gW (t':=18) rfl (fun hb18=>?_) (fun hb18=>?_)
   ·refine .gT rfl rfl ?_
    refine .z (zfa eQ) ?_
    refine .gT rfl rfl ?_
    refine .y hs (zld af) ?_
    refine .gT rfl rfl ?_
    refine .z px (.z zpT (.z zm ?_))
    refine .gW (t':=23) rfl (fun hb23=>?_) (fun hb23=>?_)
    ·refine .gT rfl rfl ?_
     refine .z (zfa fw) ?_
     refine .gT rfl rfl ?_
     refine .y hs (zls [_,_] aI ay) ?_
     refine .gT rfl rfl ?_
     refine .o (.call Tryz.call124 rfl (nh hs) ?_);rintro _ w ⟨rfl,hs⟩
     refine .z zpT (.z zm ?_)
     refine .bif (t':=28) rfl (fun hb28=>?_) (fun hb28=>?_)
     ·refine .gT rfl rfl ?_
      refine .z (zfa fu) ?_
      refine .gT rfl rfl ?_
      refine .y hs (zls [_,_] aI ay) ?_
      refine .gT rfl rfl ?_
      refine .o (.call Tryz.call53 rfl (oD hs) ?_);rintro _ w ⟨rfl,hs⟩
      refine .z zpT (.z zg (.nil ?_))
      refine .ret (Fin.aU rU rfl ?_)
      first
      |exact ⟨false,rfl,⟨fun h=>(by cases h),fun h=>(by obtain ⟨g1,g2,g3,g4,g5⟩:=h;first|omega|(simp_all;done)|(simp_all;omega))⟩,hs.out⟩
      |exact ⟨_,rfl,⟨fun h=>⟨by simp_all,by simp_all,by simp_all,by simp_all,by simpa using h⟩,fun h=>by simpa using h.burn⟩,hs.out⟩
     ·refine .gFs 3 25 true rfl rfl rfl ?_
      refine .z zpF (.z zg (.nil ?_))
      refine .ret (Fin.aU rU rfl ?_)
      first
      |exact ⟨false,rfl,⟨fun h=>(by cases h),fun h=>(by obtain ⟨g1,g2,g3,g4,g5⟩:=h;first|omega|(simp_all;done)|(simp_all;omega))⟩,hs.out⟩
      |exact ⟨_,rfl,⟨fun h=>⟨by simp_all,by simp_all,by simp_all,by simp_all,by simpa using h⟩,fun h=>by simpa using h.burn⟩,hs.out⟩
    ·refine .gFs 3 20 true rfl rfl rfl ?_
     refine .z zpF (.z zm ?_)
     refine .gFs 3 25 true rfl rfl rfl ?_
     refine .z zpF (.z zg (.nil ?_))
     refine .ret (Fin.aU rU rfl ?_)
     first
     |exact ⟨false,rfl,⟨fun h=>(by cases h),fun h=>(by obtain ⟨g1,g2,g3,g4,g5⟩:=h;first|omega|(simp_all;done)|(simp_all;omega))⟩,hs.out⟩
     |exact ⟨_,rfl,⟨fun h=>⟨by simp_all,by simp_all,by simp_all,by simp_all,by simpa using h⟩,fun h=>by simpa using h.burn⟩,hs.out⟩
   ·refine .gFs 3 15 true rfl rfl rfl ?_
    refine .z zpF (.z zm ?_)
    refine .gFs 3 20 true rfl rfl rfl ?_
    refine .z zpF (.z zm ?_)
    refine .gFs 3 25 true rfl rfl rfl ?_
    refine .z zpF (.z zg (.nil ?_))
    refine .ret (Fin.aU rU rfl ?_)
    first
    |exact ⟨false,rfl,⟨fun h=>(by cases h),fun h=>(by obtain ⟨g1,g2,g3,g4,g5⟩:=h;first|omega|(simp_all;done)|(simp_all;omega))⟩,hs.out⟩
    |exact ⟨_,rfl,⟨fun h=>⟨by simp_all,by simp_all,by simp_all,by simp_all,by simpa using h⟩,fun h=>by simpa using h.burn⟩,hs.out⟩
  ·refine .gFs 5 8 true rfl rfl rfl ?_
   refine .z zpF (.z zm ?_)
   refine .gFs 3 15 true rfl rfl rfl ?_
   refine .z zpF (.z zm ?_)
   refine .gFs 3 20 true rfl rfl rfl ?_
   refine .z zpF (.z zm ?_)
   refine .gFs 3 25 true rfl rfl rfl ?_
   refine .z zpF (.z zg (.nil ?_))
   refine .ret (Fin.aU rU rfl ?_)
   first
   |exact ⟨false,rfl,⟨fun h=>(by cases h),fun h=>(by obtain ⟨g1,g2,g3,g4,g5⟩:=h;first|omega|(simp_all;done)|(simp_all;omega))⟩,hs.out⟩
   |exact ⟨_,rfl,⟨fun h=>⟨by simp_all,by simp_all,by simp_all,by simp_all,by simpa using h⟩,fun h=>by simpa using h.burn⟩,hs.out⟩
 ·refine .gFs 3 3 true rfl rfl rfl ?_
  refine .z zpF (.z zm ?_)
  refine .gFs 5 8 true rfl rfl rfl ?_
  refine .z zpF (.z zm ?_)
  refine .gFs 3 15 true rfl rfl rfl ?_
  refine .z zpF (.z zm ?_)
  refine .gFs 3 20 true rfl rfl rfl ?_
  refine .z zpF (.z zm ?_)
  refine .gFs 3 25 true rfl rfl rfl ?_
  refine .z zpF (.z zg (.nil ?_))
  refine .ret (Fin.aU rU rfl ?_)
  first
  |exact ⟨false,rfl,⟨fun h=>(by cases h),fun h=>(by obtain ⟨g1,g2,g3,g4,g5⟩:=h;first|omega|(simp_all;done)|(simp_all;omega))⟩,hs.out⟩
  |exact ⟨_,rfl,⟨fun h=>⟨by simp_all,by simp_all,by simp_all,by simp_all,by simpa using h⟩,fun h=>by simpa using h.burn⟩,hs.out⟩
set_option maxHeartbeats 1000000 in
theorem kx{l:Lns}{vt vs:Value}(hs:St H w σ)(g:LnM H l vt vs):
  Cl Tryz.prog 20 [lnA l vt vs] w fun u w'=>∃e,u=I e∧E9 l e∧St H w' σ:=by
 obtain ⟨h1,h2⟩:=g
 obtain ⟨at_,ct,rfl⟩:=h1.shape
 obtain ⟨as_,cs,rfl⟩:=h2.shape
 refine Cl.o Tryz.func20 Tryz.ntmps20 ag1 ?_
 refine .ai ?_
 refine .bx hs fun b1 w hs=>?_
 refine .z zg (.nil (.seq (.ai (.z (zfa e9) (.y hs (zld af) ?_)))))
 refine .o (.call fZ rfl (cP hs) ?_);rintro _ w ⟨rfl,hs⟩
 refine .z eI (.z zm ?_)
 refine .bif (t':=11) rfl (fun hb11=>?_) (fun hb11=>?_)
 ·refine .gFs 4 4 false rfl rfl rfl ?_
  refine .z zpT (.z zm ?_)
  refine .gFs 5 10 false rfl rfl rfl ?_
  refine .z zpT (.z zm ?_)
  refine .gFs 4 17 false rfl rfl rfl ?_
  refine .z zpT (.nil ?_)
  refine (.cT ?_)
  refine .ai (.z zg (.nil ?_))
  refine .ret (rT (Fin.aU dC rfl ?_))
  exact ⟨_,rfl,.inr ⟨fun h=>by have:=h.length;simp_all,rfl⟩,hs.out⟩
 ·refine .gT rfl rfl ?_
  refine .z (zfa fX) ?_
  refine .gT rfl rfl ?_
  refine .y hs (zld af) ?_
  refine .gT rfl rfl ?_
  refine .o (.call fZ rfl (cP hs) ?_);rintro _ w ⟨rfl,hs⟩
  refine .gT rfl rfl ?_
  refine .z eI (.z zpF (.z zm ?_))
  refine .bif (t':=17) rfl (fun hb17=>?_) (fun hb17=>?_)
  ·refine .gFs 5 10 false rfl rfl rfl ?_
   refine .z zpT (.z zm ?_)
   refine .gFs 4 17 false rfl rfl rfl ?_
   refine .z zpT (.nil ?_)
   refine (.cT ?_)
   refine .ai (.z zg (.nil ?_))
   refine .ret (rT (Fin.aU dC rfl ?_))
   exact ⟨_,rfl,.inr ⟨fun h=>by have:=h.depth;simp_all,rfl⟩,hs.out⟩
  ·refine .gT rfl rfl ?_
   refine .z (zfa bP) ?_
   refine .gT rfl rfl ?_
   refine .y hs (zld dE) ?_
   refine .gT rfl rfl ?_
   refine .z (dj bh) ?_
   refine .gT rfl rfl ?_
   refine .o (.call fZ rfl (cP hs) ?_);rintro _ w ⟨rfl,hs⟩
   refine .gT rfl rfl ?_
   refine .z eI (.z zpF (.z zm ?_))
   refine .bif (t':=24) rfl (fun hb24=>?_) (fun hb24=>?_)
   ·refine .gFs 4 17 false rfl rfl rfl ?_
    refine .z zpT (.nil ?_)
    refine (.cT ?_)
    refine .ai (.z zg (.nil ?_))
    refine .ret (rT (Fin.aU dC rfl ?_))
    exact ⟨_,rfl,.inr ⟨fun h=>by have:=h.many;simp_all;omega,rfl⟩,hs.out⟩
   ·refine .gT rfl rfl ?_
    refine .z (zfa eC) ?_
    refine .gT rfl rfl ?_
    refine .y hs (zld yE) ?_
    refine .gT rfl rfl ?_
    refine .z (dj dq) ?_
    refine .gT rfl rfl ?_
    refine .z oa (.z zpF (.nil ?_))
    refine (.cz rfl (fun hc29=>?_) (fun hc29=>?_))
    ·refine .ai (.z zg (.nil ?_))
     refine .ret (rT (Fin.aU dC rfl ?_))
     exact ⟨_,rfl,.inr ⟨fun h=>by have:=h.most;simp_all;omega,rfl⟩,hs.out⟩
    ·refine .skip ?_
     refine nT ?_
     refine .seq (.ai (.z zg (.nil (.block ?_))))
     have hl20:1≤l.table.length∧l.table.length≤20:=by first|omega|(simp at hb24;omega)
     refine .loop (fun k:Nat=>⟨102,[],[(3,I (k:Int)),(1,.pointer (some ⟨b1,0,none⟩))]⟩)
      (fun k w=>k≤l.table.length∧(∀j<k,Cf l.table j)∧St H w (.blk b1 (lnC l (.slice at_ l.table.length ct) (.slice as_ l.seasons.length cs))::σ)) (fun k=>l.table.length - k) 0 cn
      ⟨Nat.zero_le _,fun j hj=>by omega,hs⟩ ?_
     rintro k w ⟨hk,hno,hs⟩
     refine .seq (.ai (.z zm (.z (zfa bP) (.y hs (zld dE) (.z (dj bh) (.z mT (.nil ?_)))))))
     refine (.cz rfl (fun hc34=>?_) (fun hc34=>?_))
     ·refine .skip ?_
      refine nT ?_
      refine .seq (.block (.ai (.z (zfa bP) (.y hs (zld dE) (.z zm ?_)))))
      have hkl:k<l.table.length:=by omega
      have hx:=mJ (l:=l.table) hkl
      have hx1:=mJ (l:=l.table) (i:=k - 1) ak
      refine .ixX (enc:=Fbd.c) hs h1 rfl rfl bh bC hx dn ?_;intro b40 o40 hc40
      refine .q hs (bL (vs:=(Fbd.c (fb0 l.table k))) rfl Tryz.isAgg134 bC hc40) ?_
      refine .o (.alloc hs fo rfl fun b4 w hs=>?_)
      refine .o (.aF (vs:=(fb0 l.table k).c) hs rfl rfl bC fun w hs=>?_)
      change St _ _ (.blk b4 [I (fb0 l.table k).len,I (fb0 l.table k).least]::_) at hs
      refine .nil ?_
      refine .seq (.draw mix rfl hs fun w hs=>?_)
      refine .z 0 rfl (zfa bH) ?_;refine .y 1 rfl hs af ?_
      refine .E 2 hs ?_
      refine .call fZ rfl (cP hs) ?_;rintro _ w ⟨rfl,hs⟩
      refine .go ?_
      refine .z 3 rfl eI ?_;refine .z 4 rfl zm ?_
      refine .bif (t':=46) rfl (fun hb46=>?_) (fun hb46=>?_)
      ·refine .qF (i:=5) rfl aq rfl rfl ?_
       refine .qF (i:=6) rfl aq rfl rfl ?_
       refine .qF (i:=7) rfl aq rfl rfl ?_
       refine .qF (i:=8) rfl aq rfl rfl ?_
       refine .z 9 rfl zpT ?_;refine .z 10 rfl zm ?_
       refine .qF (i:=11) rfl aq rfl rfl ?_
       refine .qF (i:=12) rfl aq rfl rfl ?_
       refine .qF (i:=13) rfl aq rfl rfl ?_
       refine .qF (i:=14) rfl aq rfl rfl ?_
       refine .qF (i:=15) rfl aq rfl rfl ?_
       refine .qF (i:=16) rfl aq rfl rfl ?_
       refine .qF (i:=17) rfl aq rfl rfl ?_
       refine .qF (i:=18) rfl aq rfl rfl ?_
       refine .qF (i:=19) rfl aq rfl rfl ?_
       refine .qF (i:=20) rfl aq rfl rfl ?_
       refine .qF (i:=21) rfl aq rfl rfl ?_
       refine .qF (i:=22) rfl aq rfl rfl ?_
       refine .qF (i:=23) rfl aq rfl rfl ?_
       refine .qF (i:=24) rfl aq rfl rfl ?_
       refine .z 25 rfl zpT ?_;refine .D hs ?_
       refine (.cT ?_)
       refine .ai (.z zg (.nil ?_))
       refine .ret (rB (rT (rT (rB (rT (Fin.aU dC rfl ?_))))))
       exact ⟨_,rfl,.inr ⟨fun h=>by have:=(h.table k hkl).len;simp_all,rfl⟩,hs.out⟩
      ·refine .z 5 rfl (zfa de) ?_;refine .y 6 rfl hs af ?_
       refine .E 7 hs ?_
       refine .call fZ rfl (cP hs) ?_;rintro _ w ⟨rfl,hs⟩
       refine .go ?_
       refine .z 8 rfl eI ?_;refine .z 9 rfl zpF ?_;refine .z 10 rfl zm ?_
       refine .bif (t':=52) rfl (fun hb52=>?_) (fun hb52=>?_)
       ·refine .qF (i:=11) rfl aq rfl rfl ?_
        refine .qF (i:=12) rfl aq rfl rfl ?_
        refine .qF (i:=13) rfl aq rfl rfl ?_
        refine .qF (i:=14) rfl aq rfl rfl ?_
        refine .qF (i:=15) rfl aq rfl rfl ?_
        refine .qF (i:=16) rfl aq rfl rfl ?_
        refine .qF (i:=17) rfl aq rfl rfl ?_
        refine .qF (i:=18) rfl aq rfl rfl ?_
        refine .qF (i:=19) rfl aq rfl rfl ?_
        refine .qF (i:=20) rfl aq rfl rfl ?_
        refine .qF (i:=21) rfl aq rfl rfl ?_
        refine .qF (i:=22) rfl aq rfl rfl ?_
        refine .qF (i:=23) rfl aq rfl rfl ?_
        refine .qF (i:=24) rfl aq rfl rfl ?_
        refine .z 25 rfl zpT ?_;refine .D hs ?_
        refine (.cT ?_)
        refine .ai (.z zg (.nil ?_))
        refine .ret (rB (rT (rT (rB (rT (Fin.aU dC rfl ?_))))))
        exact ⟨_,rfl,.inr ⟨fun h=>by have:=(h.table k hkl).least;simp_all,rfl⟩,hs.out⟩
       ·refine .z 11 rfl zm ?_;refine .z 12 rfl oa ?_;refine .z 13 rfl zm ?_
        refine .gW (t':=55) rfl (fun hb55=>?_) (fun hb55=>?_)
        ·refine .z 14 rfl (zfa bP) ?_;refine .y 15 rfl hs dE ?_;refine .z 16 rfl zm ?_;refine .z 17 rfl gC ?_
         refine .ixX (enc:=Fbd.c) (i:=18) hs rfl aq (.some rfl rfl) h1 rfl rfl bh bC hx1 ak ?_;intro b60 o60 hc60
         refine .z 19 rfl (zfa bH) ?_
         refine .r (i:=20) hs rfl aq (.some rfl rfl) (bj rfl af (hc60.get 0 rfl)) ?_
         refine .z 21 rfl (zfa bH) ?_;refine .y 22 rfl hs af ?_;refine .z 23 rfl sK ?_;refine .z 24 rfl zpT ?_;refine .z 25 rfl zpF ?_;refine .D hs ?_
         refine (.cz rfl (fun hc67=>?_) (fun hc67=>?_))
         ·refine .ai (.z zg (.nil ?_))
          refine .ret (rB (rT (rT (rB (rT (Fin.aU dC rfl ?_))))))
          exact ⟨_,rfl,.inr ⟨fun h=>by have:=(h.table k hkl).rise ak;omega,rfl⟩,hs.out⟩
         ·refine .skip ?_
          refine nB (nT ?_)
          refine .region (.z zm (.z eh (.z zg (.nil ?_))))
          refine nT ?_
          exact ⟨k+1,.fN rfl dm cn,⟨ak,fun j hj=>by
           by_cases e:j=k
           ·subst e;exact ⟨by simp_all,by simp_all,fun _=>by omega⟩
           ·exact hno j ak,hs.tail⟩,ak⟩
        ·refine .qF (i:=14) rfl aq rfl rfl ?_
         refine .qF (i:=15) rfl aq rfl rfl ?_
         refine .qF (i:=16) rfl aq rfl rfl ?_
         refine .qF (i:=17) rfl aq rfl rfl ?_
         refine .qF (i:=18) rfl aq rfl rfl ?_
         refine .qF (i:=19) rfl aq rfl rfl ?_
         refine .qF (i:=20) rfl aq rfl rfl ?_
         refine .qF (i:=21) rfl aq rfl rfl ?_
         refine .qF (i:=22) rfl aq rfl rfl ?_
         refine .qF (i:=23) rfl aq rfl rfl ?_
         refine .z 24 rfl zpF ?_;refine .z 25 rfl zpF ?_;refine .D hs ?_
         refine (.cF ?_)
         refine .skip ?_
         refine nB (nT ?_)
         refine .region (.z zm (.z eh (.z zg (.nil ?_))))
         refine nT ?_
         exact ⟨k+1,.fN rfl dm cn,⟨ak,fun j hj=>by
          by_cases e:j=k
          ·subst e;exact ⟨by simp_all,by simp_all,fun _=>by omega⟩
          ·exact hno j ak,hs.tail⟩,ak⟩
     ·refine .exit ?_
      refine xT (xT (xB (nT ?_)))
      refine .seq (.ai (.z zg (.nil (.block ?_))))
      obtain rfl:k=l.table.length:=by omega
      refine .loop (fun k:Nat=>⟨102,[],[(5,I (k:Int)),(1,.pointer (some ⟨b1,0,none⟩))]⟩)
       (fun k w=>k≤l.seasons.length∧(∀j<k,∀y,l.seasons[j]? =some y→yA y)∧St H w (.blk b1 (lnC l (.slice at_ l.table.length ct) (.slice as_ l.seasons.length cs))::σ)) (fun k=>l.seasons.length - k) 0 cn
       ⟨Nat.zero_le _,fun j hj=>by omega,hs⟩ ?_
      rintro i w ⟨hi,hnos,hs⟩
      refine .seq (.ai (.z zm (.z (zfa eC) (.y hs (zld yE) (.z (dj dq) (.z mT (.nil ?_)))))))
      refine (.cz rfl (fun hc72=>?_) (fun hc72=>?_))
      ·refine .skip ?_
       refine nT ?_
       refine .seq (.block (.ai (.z (zfa eC) (.y hs (zld yE) (.z zm ?_)))))
       obtain ⟨s,hx⟩:=nth (l:=l.seasons) (k:=i) ak
       refine .ixX (enc:=Ssn.c) hs h2 rfl rfl dq dY hx dn ?_;intro b78 o78 hc78
       refine .q hs (bL (vs:=(Ssn.c s)) rfl Tryz.isAgg104 dY hc78) ?_
       refine .o (.alloc hs tY rfl fun b6 w hs=>?_)
       refine .o (.aF (vs:=s.c) hs rfl rfl dY fun w hs=>?_)
       change St _ _ (.blk b6 [I s.zone,I s.fr,I s.to,I s.extra]::_) at hs
       refine .nil (.ai (.z (zfa iq) (.y hs (zld af) ?_)))
       refine .o (.call fZ rfl (cP hs) ?_);rintro _ w ⟨rfl,hs⟩
       refine .z eI (.z zm ?_)
       refine .bif (t':=84) rfl (fun hb84=>?_) (fun hb84=>?_)
       ·refine .gFs 4 4 false rfl rfl rfl ?_
        refine .z zpT (.z zm ?_)
        refine .gFs 4 10 false rfl rfl rfl ?_
        refine .z zpT (.z zm ?_)
        refine .gFs 4 16 false rfl rfl rfl ?_
        refine .z zpT (.nil ?_)
        refine (.cT ?_)
        refine .ai (.z zg (.nil ?_))
        refine .ret (rB (rT (rT (rB (rT (Fin.aU dC rfl ?_))))))
        exact ⟨_,rfl,.inr ⟨fun h=>by have:=(h.seasons s (List.mem_of_getElem? hx)).zone;simp_all,rfl⟩,hs.out⟩
       ·refine .gT rfl rfl ?_
        refine .z (zfa eP) ?_
        refine .gT rfl rfl ?_
        refine .y hs (zld af) ?_
        refine .gT rfl rfl ?_
        refine .o (.call fZ rfl (cP hs) ?_);rintro _ w ⟨rfl,hs⟩
        refine .gT rfl rfl ?_
        refine .z eI (.z zpF (.z zm ?_))
        refine .bif (t':=90) rfl (fun hb90=>?_) (fun hb90=>?_)
        ·refine .gFs 4 10 false rfl rfl rfl ?_
         refine .z zpT (.z zm ?_)
         refine .gFs 4 16 false rfl rfl rfl ?_
         refine .z zpT (.nil ?_)
         refine (.cT ?_)
         refine .ai (.z zg (.nil ?_))
         refine .ret (rB (rT (rT (rB (rT (Fin.aU dC rfl ?_))))))
         exact ⟨_,rfl,.inr ⟨fun h=>by have:=(h.seasons s (List.mem_of_getElem? hx)).fr;simp_all,rfl⟩,hs.out⟩
        ·refine .gT rfl rfl ?_
         refine .z (zfa eO) ?_
         refine .gT rfl rfl ?_
         refine .y hs (zld af) ?_
         refine .gT rfl rfl ?_
         refine .o (.call fZ rfl (cP hs) ?_);rintro _ w ⟨rfl,hs⟩
         refine .gT rfl rfl ?_
         refine .z eI (.z zpF (.z zm ?_))
         refine .bif (t':=96) rfl (fun hb96=>?_) (fun hb96=>?_)
         ·refine .gFs 4 16 false rfl rfl rfl ?_
          refine .z zpT (.nil ?_)
          refine (.cT ?_)
          refine .ai (.z zg (.nil ?_))
          refine .ret (rB (rT (rT (rB (rT (Fin.aU dC rfl ?_))))))
          exact ⟨_,rfl,.inr ⟨fun h=>by have:=(h.seasons s (List.mem_of_getElem? hx)).to;simp_all,rfl⟩,hs.out⟩
         ·refine .gT rfl rfl ?_
          refine .z (zfa im) ?_
          refine .gT rfl rfl ?_
          refine .y hs (zld af) ?_
          refine .gT rfl rfl ?_
          refine .o (.call fZ rfl (cP hs) ?_);rintro _ w ⟨rfl,hs⟩
          refine .gT rfl rfl ?_
          refine .z eI (.z zpF (.nil ?_))
          refine (.cond rfl (fun hc101=>?_) (fun hc101=>?_))
          ·refine .ai (.z zg (.nil ?_))
           refine .ret (rB (rT (rT (rB (rT (Fin.aU dC rfl ?_))))))
           exact ⟨_,rfl,.inr ⟨fun h=>by have:=(h.seasons s (List.mem_of_getElem? hx)).extra;simp_all,rfl⟩,hs.out⟩
          ·refine .skip ?_
           refine nB (nT ?_)
           refine .region (.z zm (.z eh (.z zg (.nil ?_))))
           refine nT ?_
           exact ⟨i+1,.fN rfl dm cn,⟨ak,eo hnos hx ⟨by simp_all,by simp_all,by simp_all,by simp_all⟩,hs.tail⟩,ak⟩
      ·refine .exit ?_
       refine xT (xT (xB (nT ?_)))
       refine .ai (.z zg (.nil ?_))
       refine .ret (Fin.aU dC rfl ?_)
       exact ⟨_,rfl,.inl ⟨⟨by simp_all,by simp_all,hl20,ak,hno,fun s hs=>by
        obtain ⟨j,hj⟩:=List.getElem?_of_mem hs
        have:=(List.getElem?_eq_some_iff.1 hj).1
        exact hnos j ak s hj⟩,rfl⟩,hs.out⟩
theorem kv{r:List Lg}{vr:Value}(hs:St H w σ)(h1:RLg H vr r):
  Cl Tryz.prog 22 [.agg #[vr]] w fun u w'=>∃e,u=I e∧E3 r e∧St H w' σ:=by
 obtain ⟨ar,cr,rfl⟩:=h1.shape
 refine Cl.o Tryz.func22 Tryz.ntmps22 ag1 ?_
 refine .ai ?_
 refine .bx hs fun b1 w hs=>?_
 refine .z zg (.nil (.seq (.ai (.z (zfa cE) (.y hs (zld di) (.z (dj aN) ?_))))))
 refine .o (.call fZ rfl (cP hs) ?_);rintro _ w ⟨rfl,hs⟩
 refine .z eI (.nil ?_)
 refine (.cond rfl (fun hc8=>?_) (fun hc8=>?_))
 ·refine .ai (.z zg (.nil ?_))
  refine .ret (rT (Fin.aU Tryz.results22 rfl ?_))
  exact ⟨_,rfl,.inr ⟨fun h=>by have:=h.many;simp_all;omega,rfl⟩,hs.out⟩
 ·refine .skip ?_
  refine nT ?_
  refine .seq (.ai (.z zg (.nil (.block ?_))))
  have hl20:1≤r.length∧r.length≤12:=by first|omega|(simp at hc8;omega)
  refine .loop (fun k:Nat=>⟨43,[],[(3,I (k:Int)),(1,.pointer (some ⟨b1,0,none⟩))]⟩)
   (fun k w=>k≤r.length∧(∀j<k,yO (lg0 r j)∧(0<j→(lg0 r (j - 1)).to≤(lg0 r j).fr))∧St H w (.blk b1 [.slice ar r.length cr]::σ)) (fun k=>r.length - k) 0 cn
   ⟨Nat.zero_le _,fun j hj=>by omega,hs⟩ ?_
  rintro k w ⟨hk,hno,hs⟩
  refine .seq (.ai (.z zm (.z (zfa cE) (.y hs (zld di) (.z (dj aN) (.z mT (.nil ?_)))))))
  refine (.cz rfl (fun hc13=>?_) (fun hc13=>?_))
  ·refine .skip ?_
   refine nT ?_
   refine .seq (.block ?_)
   refine .seq (.draw mix rfl hs fun w hs=>?_)
   have hkl:k<r.length:=by omega
   have hx:=jw (l:=r) hkl
   have hx1:=jw (l:=r) (i:=k - 1) ak
   refine .z 0 rfl (zfa cE) ?_;refine .y 1 rfl hs di ?_;refine .z 2 rfl zm ?_
   refine .ixX (enc:=Lg.c) (i:=3) hs rfl aq .none h1 rfl rfl aN aT hx rfl ?_;intro b19 o19 hc19
   refine .r (i:=4) hs rfl aq .none (bL (vs:=(lg0 r k).c) rfl gz aT hc19) ?_
   refine .E 5 hs ?_
   refine .call Tryz.call76 rfl (pF (x:=lg0 r k) hs) ?_;rintro _ w ⟨b21,rfl,hb21,hs⟩
   refine .go ?_
   refine .z 6 rfl eI ?_;refine .z 7 rfl zm ?_
   refine .bif (t':=23) rfl (fun hb23=>?_) (fun hb23=>?_)
   ·refine .qF (i:=8) rfl aq rfl rfl ?_
    refine .qF (i:=9) rfl aq rfl rfl ?_
    refine .qF (i:=10) rfl aq rfl rfl ?_
    refine .qF (i:=11) rfl aq rfl rfl ?_
    refine .qF (i:=12) rfl aq rfl rfl ?_
    refine .qF (i:=13) rfl aq rfl rfl ?_
    refine .qF (i:=14) rfl aq rfl rfl ?_
    refine .qF (i:=15) rfl aq rfl rfl ?_
    refine .qF (i:=16) rfl aq rfl rfl ?_
    refine .qF (i:=17) rfl aq rfl rfl ?_
    refine .qF (i:=18) rfl aq rfl rfl ?_
    refine .qF (i:=19) rfl aq rfl rfl ?_
    refine .qF (i:=20) rfl aq rfl rfl ?_
    refine .qF (i:=21) rfl aq rfl rfl ?_
    refine .qF (i:=22) rfl aq rfl rfl ?_
    refine .qF (i:=23) rfl aq rfl rfl ?_
    refine .qF (i:=24) rfl aq rfl rfl ?_
    refine .qF (i:=25) rfl aq rfl rfl ?_
    refine .z 26 rfl zpT ?_;refine .D hs ?_
    refine (.cT ?_)
    refine .ai (.z zg (.nil ?_))
    refine .ret (rB (rT (rT (rB (rT (Fin.aU Tryz.results22 rfl ?_))))))
    exact ⟨_,rfl,.inr ⟨fun h=>by have:=hb21.2 (h.leg k hkl).1;simp_all,rfl⟩,hs.out⟩
   ·refine .z 8 rfl zm ?_;refine .z 9 rfl oa ?_;refine .z 10 rfl zm ?_
    refine .gW (t':=26) rfl (fun hb26=>?_) (fun hb26=>?_)
    ·refine .z 11 rfl (zfa cE) ?_;refine .y 12 rfl hs di ?_;refine .z 13 rfl zm ?_
     refine .ixX (enc:=Lg.c) (i:=14) hs rfl aq (.some rfl rfl) h1 rfl rfl aN aT hx rfl ?_;intro b30 o30 hc30
     refine .z 15 rfl (zfa eR) ?_
     refine .r (i:=16) hs rfl aq (.some rfl rfl) (bj rfl af (hc30.get 1 rfl)) ?_
     refine .z 17 rfl (zfa cE) ?_;refine .y 18 rfl hs di ?_;refine .z 19 rfl zm ?_;refine .z 20 rfl gC ?_
     refine .ixX (enc:=Lg.c) (i:=21) hs rfl aq (.some rfl rfl) h1 rfl rfl aN aT hx1 ak ?_;intro b37 o37 hc37
     refine .z 22 rfl (zfa eQ) ?_
     refine .r (i:=23) hs rfl aq (.some rfl rfl) (bj rfl af (hc37.get 2 rfl)) ?_
     refine .z 24 rfl mT ?_;refine .z 25 rfl zpT ?_;refine .z 26 rfl zpF ?_;refine .D hs ?_
     refine (.cz rfl (fun hc42=>?_) (fun hc42=>?_))
     ·refine .ai (.z zg (.nil ?_))
      refine .ret (rB (rT (rT (rB (rT (Fin.aU Tryz.results22 rfl ?_))))))
      exact ⟨_,rfl,.inr ⟨fun h=>by have:=(h.leg k hkl).2 ak;omega,rfl⟩,hs.out⟩
     ·refine .skip ?_
      refine nB (nT ?_)
      refine .region (.z zm (.z eh (.z zg (.nil ?_))))
      refine nT ?_
      exact ⟨k+1,.fN rfl dm cn,⟨ak,fun j hj=>by
       by_cases e:j=k
       ·subst e;exact ⟨hb21.1 (by simp_all),fun _=>by omega⟩
       ·exact hno j ak,hs⟩,ak⟩
    ·refine .qF (i:=11) rfl aq rfl rfl ?_
     refine .qF (i:=12) rfl aq rfl rfl ?_
     refine .qF (i:=13) rfl aq rfl rfl ?_
     refine .qF (i:=14) rfl aq rfl rfl ?_
     refine .qF (i:=15) rfl aq rfl rfl ?_
     refine .qF (i:=16) rfl aq rfl rfl ?_
     refine .qF (i:=17) rfl aq rfl rfl ?_
     refine .qF (i:=18) rfl aq rfl rfl ?_
     refine .qF (i:=19) rfl aq rfl rfl ?_
     refine .qF (i:=20) rfl aq rfl rfl ?_
     refine .qF (i:=21) rfl aq rfl rfl ?_
     refine .qF (i:=22) rfl aq rfl rfl ?_
     refine .qF (i:=23) rfl aq rfl rfl ?_
     refine .qF (i:=24) rfl aq rfl rfl ?_
     refine .z 25 rfl zpF ?_;refine .z 26 rfl zpF ?_;refine .D hs ?_
     refine (.cF ?_)
     refine .skip ?_
     refine nB (nT ?_)
     refine .region (.z zm (.z eh (.z zg (.nil ?_))))
     refine nT ?_
     exact ⟨k+1,.fN rfl dm cn,⟨ak,fun j hj=>by
      by_cases e:j=k
      ·subst e;exact ⟨hb21.1 (by simp_all),fun _=>by omega⟩
      ·exact hno j ak,hs⟩,ak⟩
  ·refine .exit ?_
   refine xT (xT (xB (nT ?_)))
   refine .ai (.z zg (.nil ?_))
   refine .ret (Fin.aU Tryz.results22 rfl ?_)
   obtain rfl:k=r.length:=by omega
   exact ⟨_,rfl,.inl ⟨⟨hl20,hno⟩,rfl⟩,hs.out⟩
end Go.Proofs.YteajddicacjkhaaGreat
namespace Go.Proofs.YteajddicacjkhaaGreat
open Go.MW
theorem mH{W:World}{H:a8}{l:Lns}{r:List Lg}{vt vs vl:Value}(hs:St H W [])(gl:LnM H l vt vs)(gr_:RLg H vl r):
  Cl Tryz.prog 3 [lnA l vt vs,.agg #[vl]] W fun v w'=>v= .bool true∧∃H',HLe H H'∧St H' w' []:=by
 obtain ⟨at_,ct,rfl⟩:=gl.tb.shape
 obtain ⟨as_,cs,rfl⟩:=gl.sn.shape
 obtain ⟨ar,cr,rfl⟩:=gr_.shape
 refine Cl.o Tryz.func3 Tryz.ntmps3 ag2 ?_
 refine .ai ?_
 refine .bx hs fun b2 w hs=>?_
 refine .bx hs fun b3 w hs=>?_
 refine .z zg (.nil (.ai ?_))
 refine .o (.call Tryz.call18 rfl (qK hs) ?_);rintro _ w ⟨rfl,H1,hle1,hs⟩
 refine .z zg (.nil ?_)
 refine .seq (.draw mix rfl hs fun w hs=>?_)
 refine .z 0 rfl zm ?_;refine .z 1 rfl zm ?_;refine .ys 2 rfl hs [_,_,_,_] br aP ?_;refine .ys 4 rfl hs [_,_,_,_] br aP ?_
 refine .E 3 hs ?_
 refine .call Tryz.call19 rfl (dQ (l:=l) hs (gl.mono hle1).tb (gl.mono hle1).sn) ?_;rintro _ w ⟨e1,rfl,he1,hs⟩
 refine .go ?_
 refine .E 5 hs ?_
 refine .call Tryz.call20 rfl (kx (l:=l) hs (gl.mono hle1)) ?_;rintro _ w ⟨e2,rfl,he2,hs⟩
 obtain rfl:=he1.uniq he2
 refine .go ?_
 refine .z 6 rfl jH ?_
 rw [decide_eq_true rfl]
 refine .z 7 rfl zpT ?_;refine .z 8 rfl zm ?_;refine .ys 9 rfl hs [_] dV cu ?_;refine .ys 11 rfl hs [_] dV cu ?_
 refine .E 10 hs ?_
 refine .call Tryz.call21 rfl (gO (r:=r) hs (gr_.mono hle1)) ?_;rintro _ w ⟨e3,rfl,he3,hs⟩
 refine .go ?_
 refine .E 12 hs ?_
 refine .call Tryz.call22 rfl (kv (r:=r) hs (gr_.mono hle1)) ?_;rintro _ w ⟨e4,rfl,he4,hs⟩
 obtain rfl:=he3.uniq he4
 refine .go ?_
 refine .z 13 rfl jH ?_
 rw [decide_eq_true rfl]
 refine .z 14 rfl zpT ?_;refine .z 15 rfl zg ?_;refine .D hs ?_
 refine .ret (Fin.aU Tryz.results3 rfl ?_)
 exact ⟨rfl,H1,hle1,hs.out⟩
end Go.Proofs.YteajddicacjkhaaGreat
