/-
  Texts of these claims, joined: On Oq Or.
-/
import Derived.Test.YteajddicacjkhaaGreatBd
namespace Go.Proofs.YteajddicacjkhaaGreat
open Go.MW
variable{H:bp}{w:World}{σ:List Ent}
theorem cn{a0 a1 a2:Int}(hs:St H w σ):Cl Tryz.prog 74 [I a0,I a1,I a2] w fun v w'=>v= .bool (decide (a1≤a0∧a0≤a2))∧St H w' σ:=by
 refine Cl.o Tryz.func74 Tryz.ntmps74 ag3 ?_
 refine .ai (.z zg (.nil (.ai (.z zm (.z zm (.z sC (.z zm ?_)))))))
 refine .gM (t':=10) rfl (fun hb10=>?_) (fun hb10=>?_)
 ·refine .gT rfl rfl ?_
  refine .z zm ?_
  refine .gT rfl rfl ?_
  refine .z zm ?_
  refine .gT rfl rfl ?_
  refine .z oJ (.z zpT (.z zg (.nil ?_)))
  refine .ret (Fin.bg Tryz.results74 rfl ?_)
  exact ⟨by simp [*],hs.out⟩
 ·refine .gFs 3 3 true rfl rfl rfl ?_
  refine .z zpF (.z zg (.nil ?_))
  refine .ret (Fin.bg Tryz.results74 rfl ?_)
  exact ⟨by simp [*],hs.out⟩
theorem jz{x y:Int}(hs:St H w σ):Cl Tryz.prog 53 [.agg #[I x,I y]] w fun v w'=>v= .bool (decide (ed x y))∧St H w' σ:=by
 refine Cl.o Tryz.func53 Tryz.ntmps53 ag1 ?_
 refine .ai ?_
 refine .bx hs fun b1 w hs=>?_
 refine .z zg (.nil (.ai (.z (zfa a8) (.y hs (zld ae) (.z sC (.z zm ?_))))))
 refine .gM (t':=6) rfl (fun hb6=>?_) (fun hb6=>?_)
 ·refine .gT rfl rfl ?_
  refine .z (zfa a8) ?_
  refine .gT rfl rfl ?_
  refine .y hs (zld ae) ?_
  refine .gT rfl rfl ?_
  refine .z (zfa bw) ?_
  refine .gT rfl rfl ?_
  refine .y hs (zld ae) ?_
  refine .gT rfl rfl ?_
  refine .z oJ (.z zpT (.z zm ?_))
  refine .gM (t':=13) rfl (fun hb13=>?_) (fun hb13=>?_)
  ·refine .gT rfl rfl ?_
   refine .z (zfa bw) ?_
   refine .gT rfl rfl ?_
   refine .y hs (zld ae) ?_
   refine .gT rfl rfl ?_
   refine .z oJ (.z zpT (.z zg (.nil ?_)))
   refine .ret (Fin.bg Tryz.results53 rfl ?_)
   exact ⟨by unfold ed;simp [*],hs.out⟩
  ·refine .gFs 3 10 true rfl rfl rfl ?_
   refine .z zpF (.z zg (.nil ?_))
   refine .ret (Fin.bg Tryz.results53 rfl ?_)
   exact ⟨by unfold ed;simp [*],hs.out⟩
 ·refine .gFs 5 3 true rfl rfl rfl ?_
  refine .z zpF (.z zm ?_)
  refine .gFs 3 10 true rfl rfl rfl ?_
  refine .z zpF (.z zg (.nil ?_))
  refine .ret (Fin.bg Tryz.results53 rfl ?_)
  exact ⟨by unfold ed;simp [*],hs.out⟩
theorem nE{x y:Int}(hs:St H w σ):Cl Tryz.prog 124 [.agg #[I x,I y]] w fun v w'=>v= .bool (decide (ey x y))∧St H w' σ:=by
 refine Cl.o Tryz.func124 Tryz.ntmps124 ag1 ?_
 refine .ai ?_
 refine .bx hs fun b1 w hs=>?_
 refine .z zg (.nil (.ai (.z (zfa a8) (.y hs (zld ae) (.z sC (.z zm ?_))))))
 refine .gM (t':=6) rfl (fun hb6=>?_) (fun hb6=>?_)
 ·refine .gT rfl rfl ?_
  refine .z (zfa a8) ?_
  refine .gT rfl rfl ?_
  refine .y hs (zld ae) ?_
  refine .gT rfl rfl ?_
  refine .z (zfa bw) ?_
  refine .gT rfl rfl ?_
  refine .y hs (zld ae) ?_
  refine .gT rfl rfl ?_
  refine .z oJ (.z zpT (.z zm ?_))
  refine .gM (t':=13) rfl (fun hb13=>?_) (fun hb13=>?_)
  ·refine .gT rfl rfl ?_
   refine .z (zfa bw) ?_
   refine .gT rfl rfl ?_
   refine .y hs (zld ae) ?_
   refine .gT rfl rfl ?_
   refine .z oJ (.z zpT (.z zg (.nil ?_)))
   refine .ret (Fin.bg Tryz.results124 rfl ?_)
   exact ⟨by unfold ey;simp [*],hs.out⟩
  ·refine .gFs 3 10 true rfl rfl rfl ?_
   refine .z zpF (.z zg (.nil ?_))
   refine .ret (Fin.bg Tryz.results124 rfl ?_)
   exact ⟨by unfold ey;simp [*],hs.out⟩
 ·refine .gFs 5 3 true rfl rfl rfl ?_
  refine .z zpF (.z zm ?_)
  refine .gFs 3 10 true rfl rfl rfl ?_
  refine .z zpF (.z zg (.nil ?_))
  refine .ret (Fin.bg Tryz.results124 rfl ?_)
  exact ⟨by unfold ey;simp [*],hs.out⟩
theorem pZ{x:Lg}(hs:St H w σ):
  Cl Tryz.prog 76 [.agg #[I x.zone,I x.fr,I x.to,I x.dlo,I x.dhi,I x.blo,I x.bhi]] w fun v w'=>∃b:Bool,v= .bool b∧(b=true↔yB x)∧St H w' σ:=by
 refine Cl.o Tryz.func76 Tryz.ntmps76 ag1 ?_
 refine .ai ?_
 refine .bx hs fun b1 w hs=>?_
 refine .z zg (.nil (.ai (.z (zfa lj) (.y hs (zld ae) ?_))))
 refine .o (.call eh rfl (cn hs) ?_);rintro _ w ⟨rfl,hs⟩
 refine .z zm ?_
 refine .bif (t':=6) rfl (fun hb6=>?_) (fun hb6=>?_)
 ·refine .gT rfl rfl ?_
  refine .z (zfa eZ) ?_
  refine .gT rfl rfl ?_
  refine .y hs (zld ae) ?_
  refine .gT rfl rfl ?_
  refine .z sC (.z zpT (.z zm ?_))
  refine .gM (t':=11) rfl (fun hb11=>?_) (fun hb11=>?_)
  ·refine .gT rfl rfl ?_
   refine .z (zfa eZ) ?_
   refine .gT rfl rfl ?_
   refine .y hs (zld ae) ?_
   refine .gT rfl rfl ?_
   refine .z (zfa eY) ?_
   refine .gT rfl rfl ?_
   refine .y hs (zld ae) ?_
   refine .gT rfl rfl ?_
   refine .z oJ (.z zpT (.z zm ?_))
   refine .gM (t':=18) rfl (fun hb18=>?_) (fun hb18=>?_)
   ·refine .gT rfl rfl ?_
    refine .z (zfa eY) ?_
    refine .gT rfl rfl ?_
    refine .y hs (zld ae) ?_
    refine .gT rfl rfl ?_
    refine .z oJ (.z zpT (.z zm ?_))
    refine .gM (t':=23) rfl (fun hb23=>?_) (fun hb23=>?_)
    ·refine .gT rfl rfl ?_
     refine .z (zfa fH) ?_
     refine .gT rfl rfl ?_
     refine .y hs (zls [_,_] aB au) ?_
     refine .gT rfl rfl ?_
     refine .o (.call Tryz.call124 rfl (nE hs) ?_);rintro _ w ⟨rfl,hs⟩
     refine .z zpT (.z zm ?_)
     refine .bif (t':=28) rfl (fun hb28=>?_) (fun hb28=>?_)
     ·refine .gT rfl rfl ?_
      refine .z (zfa eX) ?_
      refine .gT rfl rfl ?_
      refine .y hs (zls [_,_] aB au) ?_
      refine .gT rfl rfl ?_
      refine .o (.call Tryz.call53 rfl (jz hs) ?_);rintro _ w ⟨rfl,hs⟩
      refine .z zpT (.z zg (.nil ?_))
      refine .ret (Fin.bg sB rfl ?_)
      first
      |exact ⟨false,rfl,⟨fun h=>(by cases h),fun h=>(by obtain ⟨g1,g2,g3,g4,g5⟩:=h;first|omega|(simp_all;done)|(simp_all;omega))⟩,hs.out⟩
      |exact ⟨_,rfl,⟨fun h=>⟨by simp_all,by simp_all,by simp_all,by simp_all,by simpa using h⟩,fun h=>by simpa using h.burn⟩,hs.out⟩
     ·refine .gFs 3 25 true rfl rfl rfl ?_
      refine .z zpF (.z zg (.nil ?_))
      refine .ret (Fin.bg sB rfl ?_)
      first
      |exact ⟨false,rfl,⟨fun h=>(by cases h),fun h=>(by obtain ⟨g1,g2,g3,g4,g5⟩:=h;first|omega|(simp_all;done)|(simp_all;omega))⟩,hs.out⟩
      |exact ⟨_,rfl,⟨fun h=>⟨by simp_all,by simp_all,by simp_all,by simp_all,by simpa using h⟩,fun h=>by simpa using h.burn⟩,hs.out⟩
    ·refine .gFs 3 20 true rfl rfl rfl ?_
     refine .z zpF (.z zm ?_)
     refine .gFs 3 25 true rfl rfl rfl ?_
     refine .z zpF (.z zg (.nil ?_))
     refine .ret (Fin.bg sB rfl ?_)
     first
     |exact ⟨false,rfl,⟨fun h=>(by cases h),fun h=>(by obtain ⟨g1,g2,g3,g4,g5⟩:=h;first|omega|(simp_all;done)|(simp_all;omega))⟩,hs.out⟩
     |exact ⟨_,rfl,⟨fun h=>⟨by simp_all,by simp_all,by simp_all,by simp_all,by simpa using h⟩,fun h=>by simpa using h.burn⟩,hs.out⟩
   ·refine .gFs 3 15 true rfl rfl rfl ?_
    refine .z zpF (.z zm ?_)
    refine .gFs 3 20 true rfl rfl rfl ?_
    refine .z zpF (.z zm ?_)
    refine .gFs 3 25 true rfl rfl rfl ?_
    refine .z zpF (.z zg (.nil ?_))
    refine .ret (Fin.bg sB rfl ?_)
    first
    |exact ⟨false,rfl,⟨fun h=>(by cases h),fun h=>(by obtain ⟨g1,g2,g3,g4,g5⟩:=h;first|omega|(simp_all;done)|(simp_all;omega))⟩,hs.out⟩
    |exact ⟨_,rfl,⟨fun h=>⟨by simp_all,by simp_all,by simp_all,by simp_all,by simpa using h⟩,fun h=>by simpa using h.burn⟩,hs.out⟩
  ·refine .gFs 5 8 true rfl rfl rfl ?_
   refine .z zpF (.z zm ?_)
   refine .gFs 3 15 true rfl rfl rfl ?_
   refine .z zpF (.z zm ?_)
   refine .gFs 3 20 true rfl rfl rfl ?_
   refine .z zpF (.z zm ?_)
   refine .gFs 3 25 true rfl rfl rfl ?_
   refine .z zpF (.z zg (.nil ?_))
   refine .ret (Fin.bg sB rfl ?_)
   first
   |exact ⟨false,rfl,⟨fun h=>(by cases h),fun h=>(by obtain ⟨g1,g2,g3,g4,g5⟩:=h;first|omega|(simp_all;done)|(simp_all;omega))⟩,hs.out⟩
   |exact ⟨_,rfl,⟨fun h=>⟨by simp_all,by simp_all,by simp_all,by simp_all,by simpa using h⟩,fun h=>by simpa using h.burn⟩,hs.out⟩
 ·refine .gFs 3 3 true rfl rfl rfl ?_
  refine .z zpF (.z zm ?_)
  refine .gFs 5 8 true rfl rfl rfl ?_
  refine .z zpF (.z zm ?_)
  refine .gFs 3 15 true rfl rfl rfl ?_
  refine .z zpF (.z zm ?_)
  refine .gFs 3 20 true rfl rfl rfl ?_
  refine .z zpF (.z zm ?_)
  refine .gFs 3 25 true rfl rfl rfl ?_
  refine .z zpF (.z zg (.nil ?_))
  refine .ret (Fin.bg sB rfl ?_)
  first
  |exact ⟨false,rfl,⟨fun h=>(by cases h),fun h=>(by obtain ⟨g1,g2,g3,g4,g5⟩:=h;first|omega|(simp_all;done)|(simp_all;omega))⟩,hs.out⟩
  |exact ⟨_,rfl,⟨fun h=>⟨by simp_all,by simp_all,by simp_all,by simp_all,by simpa using h⟩,fun h=>by simpa using h.burn⟩,hs.out⟩
set_option maxHeartbeats 1000000 in
theorem gG{l:Lns}{vt vs:Value}(hs:St H w σ)(g:LnM H l vt vs):
  Cl Tryz.prog 20 [lnA l vt vs] w fun u w'=>∃e,u=I e∧FE l e∧St H w' σ:=by
 obtain ⟨h1,h2⟩:=g
 obtain ⟨at_,ct,rfl⟩:=h1.shape
 obtain ⟨as_,cs,rfl⟩:=h2.shape
 refine Cl.o Tryz.func20 Tryz.ntmps20 ag1 ?_
 refine .ai ?_
 refine .bx hs fun b1 w hs=>?_
 refine .z zg (.nil (.seq (.ai (.z (zfa c9) (.y hs (zld ae) ?_)))))
 refine .o (.call eh rfl (cn hs) ?_);rintro _ w ⟨rfl,hs⟩
 refine .z eL (.z zm ?_)
 refine .bif (t':=11) rfl (fun hb11=>?_) (fun hb11=>?_)
 ·refine .gFs 4 4 false rfl rfl rfl ?_
  refine .z zpT (.z zm ?_)
  refine .gFs 5 10 false rfl rfl rfl ?_
  refine .z zpT (.z zm ?_)
  refine .gFs 4 17 false rfl rfl rfl ?_
  refine .z zpT (.nil ?_)
  refine (.cT ?_)
  refine .ai (.z zg (.nil ?_))
  refine .ret (rT (Fin.bg dL rfl ?_))
  exact ⟨_,rfl,.inr ⟨fun h=>by have:=h.length;simp_all,rfl⟩,hs.out⟩
 ·refine .gT rfl rfl ?_
  refine .z (zfa fj) ?_
  refine .gT rfl rfl ?_
  refine .y hs (zld ae) ?_
  refine .gT rfl rfl ?_
  refine .o (.call eh rfl (cn hs) ?_);rintro _ w ⟨rfl,hs⟩
  refine .gT rfl rfl ?_
  refine .z eL (.z zpF (.z zm ?_))
  refine .bif (t':=17) rfl (fun hb17=>?_) (fun hb17=>?_)
  ·refine .gFs 5 10 false rfl rfl rfl ?_
   refine .z zpT (.z zm ?_)
   refine .gFs 4 17 false rfl rfl rfl ?_
   refine .z zpT (.nil ?_)
   refine (.cT ?_)
   refine .ai (.z zg (.nil ?_))
   refine .ret (rT (Fin.bg dL rfl ?_))
   exact ⟨_,rfl,.inr ⟨fun h=>by have:=h.depth;simp_all,rfl⟩,hs.out⟩
  ·refine .gT rfl rfl ?_
   refine .z (zfa bO) ?_
   refine .gT rfl rfl ?_
   refine .y hs (zld dy) ?_
   refine .gT rfl rfl ?_
   refine .z (dp aD) ?_
   refine .gT rfl rfl ?_
   refine .o (.call eh rfl (cn hs) ?_);rintro _ w ⟨rfl,hs⟩
   refine .gT rfl rfl ?_
   refine .z eL (.z zpF (.z zm ?_))
   refine .bif (t':=24) rfl (fun hb24=>?_) (fun hb24=>?_)
   ·refine .gFs 4 17 false rfl rfl rfl ?_
    refine .z zpT (.nil ?_)
    refine (.cT ?_)
    refine .ai (.z zg (.nil ?_))
    refine .ret (rT (Fin.bg dL rfl ?_))
    exact ⟨_,rfl,.inr ⟨fun h=>by have:=h.many;simp_all;omega,rfl⟩,hs.out⟩
   ·refine .gT rfl rfl ?_
    refine .z (zfa c8) ?_
    refine .gT rfl rfl ?_
    refine .y hs (zld gP) ?_
    refine .gT rfl rfl ?_
    refine .z (dp bP) ?_
    refine .gT rfl rfl ?_
    refine .z nu (.z zpF (.nil ?_))
    refine (.cz rfl (fun hc29=>?_) (fun hc29=>?_))
    ·refine .ai (.z zg (.nil ?_))
     refine .ret (rT (Fin.bg dL rfl ?_))
     exact ⟨_,rfl,.inr ⟨fun h=>by have:=h.most;simp_all;omega,rfl⟩,hs.out⟩
    ·refine .skip ?_
     refine nT ?_
     refine .seq (.ai (.z zg (.nil (.block ?_))))
     have hl20:1≤l.table.length∧l.table.length≤20:=by first|omega|(simp at hb24;omega)
     refine .loop (fun k:Nat=>⟨102,[],[(3,I (k:Int)),(1,.pointer (some ⟨b1,0,none⟩))]⟩)
      (fun k w=>k≤l.table.length∧(∀j<k,CI l.table j)∧St H w (.blk b1 (lnC l (.slice at_ l.table.length ct) (.slice as_ l.seasons.length cs))::σ)) (fun k=>l.table.length - k) 0 bS
      ⟨Nat.zero_le _,fun j hj=>by omega,hs⟩ ?_
     rintro k w ⟨hk,hno,hs⟩
     refine .seq (.ai (.z zm (.z (zfa bO) (.y hs (zld dy) (.z (dp aD) (.z kM (.nil ?_)))))))
     refine (.cz rfl (fun hc34=>?_) (fun hc34=>?_))
     ·refine .skip ?_
      refine nT ?_
      refine .seq (.block (.ai (.z (zfa bO) (.y hs (zld dy) (.z zm ?_)))))
      have hkl:k<l.table.length:=by omega
      have hx:=jR (l:=l.table) hkl
      have hx1:=jR (l:=l.table) (i:=k - 1) ak
      refine .ixX (enc:=Fbd.c) hs h1 rfl rfl aD aQ hx cU ?_;intro b40 o40 hc40
      refine .q hs (bG (vs:=(Fbd.c (fb0 l.table k))) rfl Tryz.isAgg134 aQ hc40) ?_
      refine .o (.alloc hs fD rfl fun b4 w hs=>?_)
      refine .o (.aI (vs:=(fb0 l.table k).c) hs rfl rfl aQ fun w hs=>?_)
      change St _ _ (.blk b4 [I (fb0 l.table k).len,I (fb0 l.table k).least]::_) at hs
      refine .nil ?_
      refine .seq (.draw mix rfl hs fun w hs=>?_)
      refine .z 0 rfl (zfa aT) ?_;refine .y 1 rfl hs ae ?_
      refine .E 2 hs ?_
      refine .call eh rfl (cn hs) ?_;rintro _ w ⟨rfl,hs⟩
      refine .go ?_
      refine .z 3 rfl eL ?_;refine .z 4 rfl zm ?_
      refine .bif (t':=46) rfl (fun hb46=>?_) (fun hb46=>?_)
      ·refine .qF (i:=5) rfl an rfl rfl ?_
       refine .qF (i:=6) rfl an rfl rfl ?_
       refine .qF (i:=7) rfl an rfl rfl ?_
       refine .qF (i:=8) rfl an rfl rfl ?_
       refine .z 9 rfl zpT ?_;refine .z 10 rfl zm ?_
       refine .qF (i:=11) rfl an rfl rfl ?_
       refine .qF (i:=12) rfl an rfl rfl ?_
       refine .qF (i:=13) rfl an rfl rfl ?_
       refine .qF (i:=14) rfl an rfl rfl ?_
       refine .qF (i:=15) rfl an rfl rfl ?_
       refine .qF (i:=16) rfl an rfl rfl ?_
       refine .qF (i:=17) rfl an rfl rfl ?_
       refine .qF (i:=18) rfl an rfl rfl ?_
       refine .qF (i:=19) rfl an rfl rfl ?_
       refine .qF (i:=20) rfl an rfl rfl ?_
       refine .qF (i:=21) rfl an rfl rfl ?_
       refine .qF (i:=22) rfl an rfl rfl ?_
       refine .qF (i:=23) rfl an rfl rfl ?_
       refine .qF (i:=24) rfl an rfl rfl ?_
       refine .z 25 rfl zpT ?_;refine .D hs ?_
       refine (.cT ?_)
       refine .ai (.z zg (.nil ?_))
       refine .ret (rB (rT (rT (rB (rT (Fin.bg dL rfl ?_))))))
       exact ⟨_,rfl,.inr ⟨fun h=>by have:=(h.table k hkl).len;simp_all,rfl⟩,hs.out⟩
      ·refine .z 5 rfl (zfa cu) ?_;refine .y 6 rfl hs ae ?_
       refine .E 7 hs ?_
       refine .call eh rfl (cn hs) ?_;rintro _ w ⟨rfl,hs⟩
       refine .go ?_
       refine .z 8 rfl eL ?_;refine .z 9 rfl zpF ?_;refine .z 10 rfl zm ?_
       refine .bif (t':=52) rfl (fun hb52=>?_) (fun hb52=>?_)
       ·refine .qF (i:=11) rfl an rfl rfl ?_
        refine .qF (i:=12) rfl an rfl rfl ?_
        refine .qF (i:=13) rfl an rfl rfl ?_
        refine .qF (i:=14) rfl an rfl rfl ?_
        refine .qF (i:=15) rfl an rfl rfl ?_
        refine .qF (i:=16) rfl an rfl rfl ?_
        refine .qF (i:=17) rfl an rfl rfl ?_
        refine .qF (i:=18) rfl an rfl rfl ?_
        refine .qF (i:=19) rfl an rfl rfl ?_
        refine .qF (i:=20) rfl an rfl rfl ?_
        refine .qF (i:=21) rfl an rfl rfl ?_
        refine .qF (i:=22) rfl an rfl rfl ?_
        refine .qF (i:=23) rfl an rfl rfl ?_
        refine .qF (i:=24) rfl an rfl rfl ?_
        refine .z 25 rfl zpT ?_;refine .D hs ?_
        refine (.cT ?_)
        refine .ai (.z zg (.nil ?_))
        refine .ret (rB (rT (rT (rB (rT (Fin.bg dL rfl ?_))))))
        exact ⟨_,rfl,.inr ⟨fun h=>by have:=(h.table k hkl).least;simp_all,rfl⟩,hs.out⟩
       ·refine .z 11 rfl zm ?_;refine .z 12 rfl nu ?_;refine .z 13 rfl zm ?_
        refine .gM (t':=55) rfl (fun hb55=>?_) (fun hb55=>?_)
        ·refine .z 14 rfl (zfa bO) ?_;refine .y 15 rfl hs dy ?_;refine .z 16 rfl zm ?_;refine .z 17 rfl fu ?_
         refine .ixX (enc:=Fbd.c) (i:=18) hs rfl an (.some rfl rfl) h1 rfl rfl aD aQ hx1 ak ?_;intro b60 o60 hc60
         refine .z 19 rfl (zfa aT) ?_
         refine .r (i:=20) hs rfl an (.some rfl rfl) (a6 rfl ae (hc60.get 0 rfl)) ?_
         refine .z 21 rfl (zfa aT) ?_;refine .y 22 rfl hs ae ?_;refine .z 23 rfl sC ?_;refine .z 24 rfl zpT ?_;refine .z 25 rfl zpF ?_;refine .D hs ?_
         refine (.cz rfl (fun hc67=>?_) (fun hc67=>?_))
         ·refine .ai (.z zg (.nil ?_))
          refine .ret (rB (rT (rT (rB (rT (Fin.bg dL rfl ?_))))))
          exact ⟨_,rfl,.inr ⟨fun h=>by have:=(h.table k hkl).rise ak;omega,rfl⟩,hs.out⟩
         ·refine .skip ?_
          refine nB (nT ?_)
          refine .region (.z zm (.z dP (.z zg (.nil ?_))))
          refine nT ?_
          exact ⟨k+1,.eP rfl db bS,⟨ak,fun j hj=>by
           by_cases e:j=k
           ·subst e;exact ⟨by simp_all,by simp_all,fun _=>by omega⟩
           ·exact hno j ak,hs.tail⟩,ak⟩
        ·refine .qF (i:=14) rfl an rfl rfl ?_
         refine .qF (i:=15) rfl an rfl rfl ?_
         refine .qF (i:=16) rfl an rfl rfl ?_
         refine .qF (i:=17) rfl an rfl rfl ?_
         refine .qF (i:=18) rfl an rfl rfl ?_
         refine .qF (i:=19) rfl an rfl rfl ?_
         refine .qF (i:=20) rfl an rfl rfl ?_
         refine .qF (i:=21) rfl an rfl rfl ?_
         refine .qF (i:=22) rfl an rfl rfl ?_
         refine .qF (i:=23) rfl an rfl rfl ?_
         refine .z 24 rfl zpF ?_;refine .z 25 rfl zpF ?_;refine .D hs ?_
         refine (.cF ?_)
         refine .skip ?_
         refine nB (nT ?_)
         refine .region (.z zm (.z dP (.z zg (.nil ?_))))
         refine nT ?_
         exact ⟨k+1,.eP rfl db bS,⟨ak,fun j hj=>by
          by_cases e:j=k
          ·subst e;exact ⟨by simp_all,by simp_all,fun _=>by omega⟩
          ·exact hno j ak,hs.tail⟩,ak⟩
     ·refine .exit ?_
      refine xT (xT (xB (nT ?_)))
      refine .seq (.ai (.z zg (.nil (.block ?_))))
      obtain rfl:k=l.table.length:=by omega
      refine .loop (fun k:Nat=>⟨102,[],[(5,I (k:Int)),(1,.pointer (some ⟨b1,0,none⟩))]⟩)
       (fun k w=>k≤l.seasons.length∧(∀j<k,∀y,l.seasons[j]? =some y→zf y)∧St H w (.blk b1 (lnC l (.slice at_ l.table.length ct) (.slice as_ l.seasons.length cs))::σ)) (fun k=>l.seasons.length - k) 0 bS
       ⟨Nat.zero_le _,fun j hj=>by omega,hs⟩ ?_
      rintro i w ⟨hi,hnos,hs⟩
      refine .seq (.ai (.z zm (.z (zfa c8) (.y hs (zld gP) (.z (dp bP) (.z kM (.nil ?_)))))))
      refine (.cz rfl (fun hc72=>?_) (fun hc72=>?_))
      ·refine .skip ?_
       refine nT ?_
       refine .seq (.block (.ai (.z (zfa c8) (.y hs (zld gP) (.z zm ?_)))))
       obtain ⟨s,hx⟩:=nth (l:=l.seasons) (k:=i) ak
       refine .ixX (enc:=Ssn.c) hs h2 rfl rfl bP cO hx cU ?_;intro b78 o78 hc78
       refine .q hs (bG (vs:=(Ssn.c s)) rfl Er cO hc78) ?_
       refine .o (.alloc hs uJ rfl fun b6 w hs=>?_)
       refine .o (.aI (vs:=s.c) hs rfl rfl cO fun w hs=>?_)
       change St _ _ (.blk b6 [I s.zone,I s.fr,I s.to,I s.extra]::_) at hs
       refine .nil (.ai (.z (zfa fT) (.y hs (zld ae) ?_)))
       refine .o (.call eh rfl (cn hs) ?_);rintro _ w ⟨rfl,hs⟩
       refine .z eL (.z zm ?_)
       refine .bif (t':=84) rfl (fun hb84=>?_) (fun hb84=>?_)
       ·refine .gFs 4 4 false rfl rfl rfl ?_
        refine .z zpT (.z zm ?_)
        refine .gFs 4 10 false rfl rfl rfl ?_
        refine .z zpT (.z zm ?_)
        refine .gFs 4 16 false rfl rfl rfl ?_
        refine .z zpT (.nil ?_)
        refine (.cT ?_)
        refine .ai (.z zg (.nil ?_))
        refine .ret (rB (rT (rT (rB (rT (Fin.bg dL rfl ?_))))))
        exact ⟨_,rfl,.inr ⟨fun h=>by have:=(h.seasons s (List.mem_of_getElem? hx)).zone;simp_all,rfl⟩,hs.out⟩
       ·refine .gT rfl rfl ?_
        refine .z (zfa dn) ?_
        refine .gT rfl rfl ?_
        refine .y hs (zld ae) ?_
        refine .gT rfl rfl ?_
        refine .o (.call eh rfl (cn hs) ?_);rintro _ w ⟨rfl,hs⟩
        refine .gT rfl rfl ?_
        refine .z eL (.z zpF (.z zm ?_))
        refine .bif (t':=90) rfl (fun hb90=>?_) (fun hb90=>?_)
        ·refine .gFs 4 10 false rfl rfl rfl ?_
         refine .z zpT (.z zm ?_)
         refine .gFs 4 16 false rfl rfl rfl ?_
         refine .z zpT (.nil ?_)
         refine (.cT ?_)
         refine .ai (.z zg (.nil ?_))
         refine .ret (rB (rT (rT (rB (rT (Fin.bg dL rfl ?_))))))
         exact ⟨_,rfl,.inr ⟨fun h=>by have:=(h.seasons s (List.mem_of_getElem? hx)).fr;simp_all,rfl⟩,hs.out⟩
        ·refine .gT rfl rfl ?_
         refine .z (zfa dm) ?_
         refine .gT rfl rfl ?_
         refine .y hs (zld ae) ?_
         refine .gT rfl rfl ?_
         refine .o (.call eh rfl (cn hs) ?_);rintro _ w ⟨rfl,hs⟩
         refine .gT rfl rfl ?_
         refine .z eL (.z zpF (.z zm ?_))
         refine .bif (t':=96) rfl (fun hb96=>?_) (fun hb96=>?_)
         ·refine .gFs 4 16 false rfl rfl rfl ?_
          refine .z zpT (.nil ?_)
          refine (.cT ?_)
          refine .ai (.z zg (.nil ?_))
          refine .ret (rB (rT (rT (rB (rT (Fin.bg dL rfl ?_))))))
          exact ⟨_,rfl,.inr ⟨fun h=>by have:=(h.seasons s (List.mem_of_getElem? hx)).to;simp_all,rfl⟩,hs.out⟩
         ·refine .gT rfl rfl ?_
          refine .z (zfa fS) ?_
          refine .gT rfl rfl ?_
          refine .y hs (zld ae) ?_
          refine .gT rfl rfl ?_
          refine .o (.call eh rfl (cn hs) ?_);rintro _ w ⟨rfl,hs⟩
          refine .gT rfl rfl ?_
          refine .z eL (.z zpF (.nil ?_))
          refine (.cond rfl (fun hc101=>?_) (fun hc101=>?_))
          ·refine .ai (.z zg (.nil ?_))
           refine .ret (rB (rT (rT (rB (rT (Fin.bg dL rfl ?_))))))
           exact ⟨_,rfl,.inr ⟨fun h=>by have:=(h.seasons s (List.mem_of_getElem? hx)).extra;simp_all,rfl⟩,hs.out⟩
          ·refine .skip ?_
           refine nB (nT ?_)
           refine .region (.z zm (.z dP (.z zg (.nil ?_))))
           refine nT ?_
           exact ⟨i+1,.eP rfl db bS,⟨ak,eA hnos hx ⟨by simp_all,by simp_all,by simp_all,by simp_all⟩,hs.tail⟩,ak⟩
      ·refine .exit ?_
       refine xT (xT (xB (nT ?_)))
       refine .ai (.z zg (.nil ?_))
       refine .ret (Fin.bg dL rfl ?_)
       exact ⟨_,rfl,.inl ⟨⟨by simp_all,by simp_all,hl20,ak,hno,fun s hs=>by
        obtain ⟨j,hj⟩:=List.getElem?_of_mem hs
        have:=(List.getElem?_eq_some_iff.1 hj).1
        exact hnos j ak s hj⟩,rfl⟩,hs.out⟩
theorem kS{r:List Lg}{vr:Value}(hs:St H w σ)(h1:RLg H vr r):
  Cl Tryz.prog 22 [.agg #[vr]] w fun u w'=>∃e,u=I e∧Fx r e∧St H w' σ:=by
 obtain ⟨ar,cr,rfl⟩:=h1.shape
 refine Cl.o Tryz.func22 Tryz.ntmps22 ag1 ?_
 refine .ai ?_
 refine .bx hs fun b1 w hs=>?_
 refine .z zg (.nil (.seq (.ai (.z (zfa cg) (.y hs (zld cZ) (.z (dp aO) ?_))))))
 refine .o (.call eh rfl (cn hs) ?_);rintro _ w ⟨rfl,hs⟩
 refine .z eL (.nil ?_)
 refine (.cond rfl (fun hc8=>?_) (fun hc8=>?_))
 ·refine .ai (.z zg (.nil ?_))
  refine .ret (rT (Fin.bg Tryz.results22 rfl ?_))
  exact ⟨_,rfl,.inr ⟨fun h=>by have:=h.many;simp_all;omega,rfl⟩,hs.out⟩
 ·refine .skip ?_
  refine nT ?_
  refine .seq (.ai (.z zg (.nil (.block ?_))))
  have hl20:1≤r.length∧r.length≤12:=by first|omega|(simp at hc8;omega)
  refine .loop (fun k:Nat=>⟨43,[],[(3,I (k:Int)),(1,.pointer (some ⟨b1,0,none⟩))]⟩)
   (fun k w=>k≤r.length∧(∀j<k,yB (lg0 r j)∧(0<j→(lg0 r (j - 1)).to≤(lg0 r j).fr))∧St H w (.blk b1 [.slice ar r.length cr]::σ)) (fun k=>r.length - k) 0 bS
   ⟨Nat.zero_le _,fun j hj=>by omega,hs⟩ ?_
  rintro k w ⟨hk,hno,hs⟩
  refine .seq (.ai (.z zm (.z (zfa cg) (.y hs (zld cZ) (.z (dp aO) (.z kM (.nil ?_)))))))
  refine (.cz rfl (fun hc13=>?_) (fun hc13=>?_))
  ·refine .skip ?_
   refine nT ?_
   refine .seq (.block ?_)
   refine .seq (.draw mix rfl hs fun w hs=>?_)
   have hkl:k<r.length:=by omega
   have hx:=js (l:=r) hkl
   have hx1:=js (l:=r) (i:=k - 1) ak
   refine .z 0 rfl (zfa cg) ?_;refine .y 1 rfl hs cZ ?_;refine .z 2 rfl zm ?_
   refine .ixX (enc:=Lg.c) (i:=3) hs rfl an .none h1 rfl rfl aO aZ hx rfl ?_;intro b19 o19 hc19
   refine .r (i:=4) hs rfl an .none (bG (vs:=(lg0 r k).c) rfl gO aZ hc19) ?_
   refine .E 5 hs ?_
   refine .call Tryz.call76 rfl (pZ (x:=lg0 r k) hs) ?_;rintro _ w ⟨b21,rfl,hb21,hs⟩
   refine .go ?_
   refine .z 6 rfl eL ?_;refine .z 7 rfl zm ?_
   refine .bif (t':=23) rfl (fun hb23=>?_) (fun hb23=>?_)
   ·refine .qF (i:=8) rfl an rfl rfl ?_
    refine .qF (i:=9) rfl an rfl rfl ?_
    refine .qF (i:=10) rfl an rfl rfl ?_
    refine .qF (i:=11) rfl an rfl rfl ?_
    refine .qF (i:=12) rfl an rfl rfl ?_
    refine .qF (i:=13) rfl an rfl rfl ?_
    refine .qF (i:=14) rfl an rfl rfl ?_
    refine .qF (i:=15) rfl an rfl rfl ?_
    refine .qF (i:=16) rfl an rfl rfl ?_
    refine .qF (i:=17) rfl an rfl rfl ?_
    refine .qF (i:=18) rfl an rfl rfl ?_
    refine .qF (i:=19) rfl an rfl rfl ?_
    refine .qF (i:=20) rfl an rfl rfl ?_
    refine .qF (i:=21) rfl an rfl rfl ?_
    refine .qF (i:=22) rfl an rfl rfl ?_
    refine .qF (i:=23) rfl an rfl rfl ?_
    refine .qF (i:=24) rfl an rfl rfl ?_
    refine .qF (i:=25) rfl an rfl rfl ?_
    refine .z 26 rfl zpT ?_;refine .D hs ?_
    refine (.cT ?_)
    refine .ai (.z zg (.nil ?_))
    refine .ret (rB (rT (rT (rB (rT (Fin.bg Tryz.results22 rfl ?_))))))
    exact ⟨_,rfl,.inr ⟨fun h=>by have:=hb21.2 (h.leg k hkl).1;simp_all,rfl⟩,hs.out⟩
   ·refine .z 8 rfl zm ?_;refine .z 9 rfl nu ?_;refine .z 10 rfl zm ?_
    refine .gM (t':=26) rfl (fun hb26=>?_) (fun hb26=>?_)
    ·refine .z 11 rfl (zfa cg) ?_;refine .y 12 rfl hs cZ ?_;refine .z 13 rfl zm ?_
     refine .ixX (enc:=Lg.c) (i:=14) hs rfl an (.some rfl rfl) h1 rfl rfl aO aZ hx rfl ?_;intro b30 o30 hc30
     refine .z 15 rfl (zfa eZ) ?_
     refine .r (i:=16) hs rfl an (.some rfl rfl) (a6 rfl ae (hc30.get 1 rfl)) ?_
     refine .z 17 rfl (zfa cg) ?_;refine .y 18 rfl hs cZ ?_;refine .z 19 rfl zm ?_;refine .z 20 rfl fu ?_
     refine .ixX (enc:=Lg.c) (i:=21) hs rfl an (.some rfl rfl) h1 rfl rfl aO aZ hx1 ak ?_;intro b37 o37 hc37
     refine .z 22 rfl (zfa eY) ?_
     refine .r (i:=23) hs rfl an (.some rfl rfl) (a6 rfl ae (hc37.get 2 rfl)) ?_
     refine .z 24 rfl kM ?_;refine .z 25 rfl zpT ?_;refine .z 26 rfl zpF ?_;refine .D hs ?_
     refine (.cz rfl (fun hc42=>?_) (fun hc42=>?_))
     ·refine .ai (.z zg (.nil ?_))
      refine .ret (rB (rT (rT (rB (rT (Fin.bg Tryz.results22 rfl ?_))))))
      exact ⟨_,rfl,.inr ⟨fun h=>by have:=(h.leg k hkl).2 ak;omega,rfl⟩,hs.out⟩
     ·refine .skip ?_
      refine nB (nT ?_)
      refine .region (.z zm (.z dP (.z zg (.nil ?_))))
      refine nT ?_
      exact ⟨k+1,.eP rfl db bS,⟨ak,fun j hj=>by
       by_cases e:j=k
       ·subst e;exact ⟨hb21.1 (by simp_all),fun _=>by omega⟩
       ·exact hno j ak,hs⟩,ak⟩
    ·refine .qF (i:=11) rfl an rfl rfl ?_
     refine .qF (i:=12) rfl an rfl rfl ?_
     refine .qF (i:=13) rfl an rfl rfl ?_
     refine .qF (i:=14) rfl an rfl rfl ?_
     refine .qF (i:=15) rfl an rfl rfl ?_
     refine .qF (i:=16) rfl an rfl rfl ?_
     refine .qF (i:=17) rfl an rfl rfl ?_
     refine .qF (i:=18) rfl an rfl rfl ?_
     refine .qF (i:=19) rfl an rfl rfl ?_
     refine .qF (i:=20) rfl an rfl rfl ?_
     refine .qF (i:=21) rfl an rfl rfl ?_
     refine .qF (i:=22) rfl an rfl rfl ?_
     refine .qF (i:=23) rfl an rfl rfl ?_
     refine .qF (i:=24) rfl an rfl rfl ?_
     refine .z 25 rfl zpF ?_;refine .z 26 rfl zpF ?_;refine .D hs ?_
     refine (.cF ?_)
     refine .skip ?_
     refine nB (nT ?_)
     refine .region (.z zm (.z dP (.z zg (.nil ?_))))
     refine nT ?_
     exact ⟨k+1,.eP rfl db bS,⟨ak,fun j hj=>by
      by_cases e:j=k
      ·subst e;exact ⟨hb21.1 (by simp_all),fun _=>by omega⟩
      ·exact hno j ak,hs⟩,ak⟩
  ·refine .exit ?_
   refine xT (xT (xB (nT ?_)))
   refine .ai (.z zg (.nil ?_))
   refine .ret (Fin.bg Tryz.results22 rfl ?_)
   obtain rfl:k=r.length:=by omega
   exact ⟨_,rfl,.inl ⟨⟨hl20,hno⟩,rfl⟩,hs.out⟩
theorem ib{l:Lns}{vt vs:Value}(hs:St H w σ)(g:LnM H l vt vs)(hl:eQ l):
  Cl Tryz.prog 103 [lnA l vt vs] w fun u w'=>∃(n:Int) (b:Bool),u= .tuple #[I n,I (if b then 0 else 3)]∧rK l n b∧St H w' σ:=by
 have h1:=g.tb
 obtain ⟨at_,ct,rfl⟩:=h1.shape
 have hm:=hl.many
 refine Cl.o Tryz.func103 Tryz.ntmps103 ag1 ?_
 refine .ai ?_
 refine .bx hs fun b1 w hs=>?_
 refine .z zg (.z zg (.nil (.ai (.z (zfa bO) (.y hs (zld dy) (.z zg (.nil (.seq (.ai ?_)))))))))
 refine .z zg (.nil (.block ?_))
 refine .loop (fun k:Nat=>⟨101,[],[(5,I (k:Int)),(4,.slice at_ l.table.length ct),(1,.pointer (some ⟨b1,0,none⟩))]⟩)
  (fun k w=>k≤l.table.length∧(∀i<k,(fb0 l.table i).len≠l.length∧(0<i→¬((fb0 l.table (i - 1)).len<l.length∧l.length<(fb0 l.table i).len)))∧St H w (.blk b1 (lnC l (.slice at_ l.table.length ct) vs)::σ)) (fun k=>l.table.length - k) 0 bS
  ⟨Nat.zero_le _,fun i hi=>by omega,hs⟩ ?_
 rintro k w ⟨hk,hno,hs⟩
 refine .seq (.ai (.z zm (.z zm (.z (dp aD) (.z kM (.nil ?_))))))
 refine (.cz rfl (fun hc13=>?_) (fun hc13=>?_))
 ·refine .skip ?_
  refine nT ?_
  refine .seq (.block (.seq ?_))
  refine .seq (.draw mix rfl hs fun w hs=>?_)
  have hkl:k<l.table.length:=by omega
  have hx:=jR (l:=l.table) hkl
  have hx1:=jR (l:=l.table) (i:=k - 1) ak
  have hnx:(fb0 l.table k).len≠l.length→(0<k→¬((fb0 l.table (k - 1)).len<l.length∧l.length<(fb0 l.table k).len))→∀i<k+1,(fb0 l.table i).len≠l.length∧(0<i→¬((fb0 l.table (i - 1)).len<l.length∧l.length<(fb0 l.table i).len)):=fun g1 g2 i hi=>by
   by_cases e:i=k
   ·subst e;exact ⟨g1,g2⟩
   ·exact hno i ak
  have ha:=hl.table (k - 1) ak
  have hb:=hl.table k hkl
  have a1:=ha.len
  have a2:=ha.least
  have b1':=hb.len
  have b2:=hb.least
  have hL:=hl.length
  refine .z 0 rfl zm ?_;refine .z 1 rfl zm ?_
  refine .ixX (enc:=Fbd.c) (i:=2) hs rfl an .none h1 rfl rfl aD aQ hx cU ?_;intro b18 o18 hc18
  refine .z 3 rfl (zfa aT) ?_
  refine .r (i:=4) hs rfl an .none (a6 rfl ae (hc18.get 0 rfl)) ?_
  refine .z 5 rfl (zfa c9) ?_;refine .y 6 rfl hs ae ?_;refine .z 7 rfl iP ?_;refine .D hs ?_
  refine (.cz rfl (fun hc23=>?_) (fun hc23=>?_))
  ·refine .ai (.z zm (.z zm ?_))
   refine .ixX (enc:=Fbd.c) hs h1 rfl rfl aD aQ hx cU ?_;intro b26 o26 hc26
   refine .z (zfa cu) ?_
   refine .q hs (a6 rfl ae (hc26.get 1 rfl)) ?_
   refine .z zg (.z zg (.nil ?_))
   refine .ret (rT (rB (rT (rT (rB (rT (Fin.fY Tryz.results103 rfl rfl ?_)))))))
   exact ⟨_,true,rfl,.at_ hkl hc23,hs.out⟩
  ·refine .skip ?_
   refine nT ?_
   refine .seq (.draw mix rfl hs fun w hs=>?_)
   refine .z 0 rfl zm ?_;refine .z 1 rfl nu ?_;refine .z 2 rfl zm ?_
   refine .gM (t':=31) rfl (fun hb31=>?_) (fun hb31=>?_)
   ·refine .z 3 rfl zm ?_;refine .z 4 rfl zm ?_;refine .z 5 rfl fu ?_
    refine .ixX (enc:=Fbd.c) (i:=6) hs rfl an (.some rfl rfl) h1 rfl rfl aD aQ hx1 cU ?_;intro b35 o35 hc35
    refine .z 7 rfl (zfa aT) ?_
    refine .r (i:=8) hs rfl an (.some rfl rfl) (a6 rfl ae (hc35.get 0 rfl)) ?_
    refine .z 9 rfl (zfa c9) ?_;refine .y 10 rfl hs ae ?_;refine .z 11 rfl kM ?_;refine .z 12 rfl zpT ?_;refine .z 13 rfl zm ?_
    refine .gM (t':=42) rfl (fun hb42=>?_) (fun hb42=>?_)
    ·refine .z 14 rfl (zfa c9) ?_;refine .y 15 rfl hs ae ?_;refine .z 16 rfl zm ?_;refine .z 17 rfl zm ?_
     refine .ixX (enc:=Fbd.c) (i:=18) hs rfl an (.some rfl rfl) h1 rfl rfl aD aQ hx cU ?_;intro b47 o47 hc47
     refine .z 19 rfl (zfa aT) ?_
     refine .r (i:=20) hs rfl an (.some rfl rfl) (a6 rfl ae (hc47.get 0 rfl)) ?_
     refine .z 21 rfl kM ?_;refine .z 22 rfl zpT ?_;refine .D hs ?_
     refine (.cz rfl (fun hc51=>?_) (fun hc51=>?_))
     ·refine .seq (.draw mix rfl hs fun w hs=>?_)
      refine .z 0 rfl zm ?_;refine .z 1 rfl zm ?_;refine .z 2 rfl fu ?_
      have hX:=kU (a:=(fb0 l.table (k - 1)).least) (b:=(fb0 l.table k).len - l.length) (A:=5000) (B:=100000) ak ak
      have hY:=kU (a:=(fb0 l.table k).least) (b:=l.length - (fb0 l.table (k - 1)).len) (A:=5000) (B:=100000) ak ak
      have hX0:=Int.mul_nonneg a2.1 (show 0≤(fb0 l.table k).len - l.length by omega)
      have hY0:=Int.mul_nonneg b2.1 (show 0≤l.length - (fb0 l.table (k - 1)).len by omega)
      have hmid:=rK.mid hkl ak si si
      have hbd:=hmid.bd hl
      have hup:=Fb (a:=(fb0 l.table (k - 1)).least) (b:=(fb0 l.table k).least) (L:=l.length) (show (fb0 l.table (k - 1)).len<(fb0 l.table k).len by omega)
      rw [←Int.tdiv_eq_ediv_of_nonneg ak] at hup
      change _=vI l k at hup
      refine .ixX (enc:=Fbd.c) (i:=3) hs rfl an .none h1 rfl rfl aD aQ hx1 ak ?_;intro b55 o55 hc55
      refine .z 4 rfl (zfa cu) ?_
      refine .r (i:=5) hs rfl an .none (a6 rfl ae (hc55.get 1 rfl)) ?_
      refine .z 6 rfl zm ?_;refine .z 7 rfl zm ?_
      refine .ixX (enc:=Fbd.c) (i:=8) hs rfl an .none h1 rfl rfl aD aQ hx cU ?_;intro b60 o60 hc60
      refine .z 9 rfl (zfa aT) ?_
      refine .r (i:=10) hs rfl an .none (a6 rfl ae (hc60.get 0 rfl)) ?_
      refine .z 11 rfl (zfa c9) ?_;refine .y 12 rfl hs ae ?_;refine .z 13 rfl fu ?_;refine .z 14 rfl pR ?_;refine .z 15 rfl zm ?_;refine .z 16 rfl zm ?_
      refine .ixX (enc:=Fbd.c) (i:=17) hs rfl an .none h1 rfl rfl aD aQ hx cU ?_;intro b69 o69 hc69
      refine .z 18 rfl (zfa cu) ?_
      refine .r (i:=19) hs rfl an .none (a6 rfl ae (hc69.get 1 rfl)) ?_
      refine .z 20 rfl (zfa c9) ?_;refine .y 21 rfl hs ae ?_;refine .z 22 rfl zm ?_;refine .z 23 rfl zm ?_;refine .z 24 rfl fu ?_
      refine .ixX (enc:=Fbd.c) (i:=25) hs rfl an .none h1 rfl rfl aD aQ hx1 cU ?_;intro b77 o77 hc77
      refine .z 26 rfl (zfa aT) ?_
      refine .r (i:=27) hs rfl an .none (a6 rfl ae (hc77.get 0 rfl)) ?_
      refine .z 28 rfl fu ?_;refine .z 29 rfl pR ?_;refine .z 30 rfl dP ?_;refine .z 31 rfl zg ?_;refine .D hs ?_
      refine .seq (.draw mix rfl hs fun w hs=>?_)
      refine .z 0 rfl zm ?_;refine .z 1 rfl zm ?_
      refine .ixX (enc:=Fbd.c) (i:=2) hs rfl an .none h1 rfl rfl aD aQ hx cU ?_;intro b85 o85 hc85
      refine .z 3 rfl (zfa aT) ?_
      refine .r (i:=4) hs rfl an .none (a6 rfl ae (hc85.get 0 rfl)) ?_
      refine .z 5 rfl zm ?_;refine .z 6 rfl zm ?_;refine .z 7 rfl fu ?_
      refine .ixX (enc:=Fbd.c) (i:=8) hs rfl an .none h1 rfl rfl aD aQ hx1 cU ?_;intro b91 o91 hc91
      refine .z 9 rfl (zfa aT) ?_
      refine .r (i:=10) hs rfl an .none (a6 rfl ae (hc91.get 0 rfl)) ?_
      refine .z 11 rfl fu ?_;refine .z 12 rfl zg ?_;refine .D hs ?_
      refine .ai (.z zm (.z zm (.z dP (.z fu (.z zm ?_)))))
      refine .q hs (vg rfl rfl ak (by rw [hup];omega)) ?_
      rw [hup]
      refine .z zg (.z zg (.nil ?_))
      refine .ret (rB (rT (rT (rB (rT (Fin.fY Tryz.results103 rfl rfl ?_))))))
      exact ⟨_,true,rfl,hmid,hs.out⟩
     ·refine .skip ?_
      refine nB (nT ?_)
      refine .region (.z zm (.z dP (.z zg (.nil ?_))))
      refine nT ?_
      exact ⟨k+1,.eP rfl db bS,⟨ak,hnx hc23 (fun _=>by omega),hs⟩,ak⟩
    ·refine .qF (i:=14) rfl an rfl rfl ?_
     refine .qF (i:=15) rfl an rfl rfl ?_
     refine .qF (i:=16) rfl an rfl rfl ?_
     refine .qF (i:=17) rfl an rfl rfl ?_
     refine .qF (i:=18) rfl an rfl rfl ?_
     refine .qF (i:=19) rfl an rfl rfl ?_
     refine .qF (i:=20) rfl an rfl rfl ?_
     refine .qF (i:=21) rfl an rfl rfl ?_
     refine .z 22 rfl zpF ?_;refine .D hs ?_
     refine (.cF ?_)
     refine .skip ?_
     refine nB (nT ?_)
     refine .region (.z zm (.z dP (.z zg (.nil ?_))))
     refine nT ?_
     exact ⟨k+1,.eP rfl db bS,⟨ak,hnx hc23 (fun _=>by omega),hs⟩,ak⟩
   ·refine .qF (i:=3) rfl an rfl rfl ?_
    refine .qF (i:=4) rfl an rfl rfl ?_
    refine .qF (i:=5) rfl an rfl rfl ?_
    refine .qF (i:=6) rfl an rfl rfl ?_
    refine .qF (i:=7) rfl an rfl rfl ?_
    refine .qF (i:=8) rfl an rfl rfl ?_
    refine .qF (i:=9) rfl an rfl rfl ?_
    refine .qF (i:=10) rfl an rfl rfl ?_
    refine .qF (i:=11) rfl an rfl rfl ?_
    refine .z 12 rfl zpF ?_;refine .z 13 rfl zm ?_
    refine .qF (i:=14) rfl an rfl rfl ?_
    refine .qF (i:=15) rfl an rfl rfl ?_
    refine .qF (i:=16) rfl an rfl rfl ?_
    refine .qF (i:=17) rfl an rfl rfl ?_
    refine .qF (i:=18) rfl an rfl rfl ?_
    refine .qF (i:=19) rfl an rfl rfl ?_
    refine .qF (i:=20) rfl an rfl rfl ?_
    refine .qF (i:=21) rfl an rfl rfl ?_
    refine .z 22 rfl zpF ?_;refine .D hs ?_
    refine (.cF ?_)
    refine .skip ?_
    refine nB (nT ?_)
    refine .region (.z zm (.z dP (.z zg (.nil ?_))))
    refine nT ?_
    exact ⟨k+1,.eP rfl db bS,⟨ak,hnx hc23 (fun _=>by omega),hs⟩,ak⟩
 ·refine .exit ?_
  refine xT (xT (xB (nT ?_)))
  refine .ai (.z zg (.z zg (.nil ?_)))
  refine .ret (Fin.fY Tryz.results103 rfl rfl ?_)
  obtain rfl:k=l.table.length:=by omega
  exact ⟨_,false,rfl,.none (fun i hi=>(hno i hi).1) (fun i hi=>(hno i hi).2),hs.out⟩
theorem lS{l:Lns}{vt vs:Value}(hs:St H w σ)(g:LnM H l vt vs):
  Cl Tryz.prog 38 [lnA l vt vs] w fun u w'=>∃n e,u= .tuple #[I n,I e]∧uA l n e∧St H w' σ:=by
 refine Cl.o Tryz.func38 Tryz.ntmps38 ag1 ?_
 refine .ai ?_
 refine .bx hs fun b1 w hs=>?_
 refine .z zg (.z zg (.nil (.seq (.ai (.y hs (zls [_,_,_,_] aN aA) ?_)))))
 refine .o (.call Tryz.call20 rfl (gG hs g) ?_);rintro _ w ⟨e,rfl,he,hs⟩
 refine .z ia (.nil ?_)
 refine (.dU rfl (fun hc6=>?_) (fun hc6=>?_))
 ·refine .ai (.z zg (.z zg (.nil ?_)))
  refine .ret (rT (Fin.fY Tryz.results38 rfl rfl ?_))
  have h:=he.resolve_left fun h=>hc6 h.2
  exact ⟨_,_,rfl,.lines h.1,hs.out⟩
 ·refine .skip ?_
  refine nT ?_
  refine .ai (.y hs (zls [_,_,_,_] aN aA) ?_)
  have hok:eQ l:=(he.resolve_right fun h=>by omega).1
  refine .o (.call Tryz.call103 rfl (ib hs g hok) ?_);rintro _ w ⟨n,b,rfl,hF,hs⟩
  refine .z zex (.z zex (.z zg (.z zg (.nil ?_))))
  refine .ret (Fin.fY Tryz.results38 rfl rfl ?_)
  refine ⟨_,_,rfl,?_,hs.out⟩
  cases b with
  |true=>exact .ok hok hF
  |false=>rw [show n=0 by cases hF;rfl] at*;exact .none hok hF
theorem mS{s:Ssn}{d:Int}(hs:St H w σ)(hd:0≤d):Cl Tryz.prog 160 [.agg #[I s.zone,I s.fr,I s.to,I s.extra],I d] w fun v w'=>v= .bool (decide (qj s (1+d%365)))∧St H w' σ:=by
 have e:d.tmod 365=d%365:=Int.tmod_eq_emod_of_nonneg hd
 refine Cl.o Tryz.func160 Tryz.ntmps160 ag2 ?_
 refine .ai ?_
 refine .bx hs fun b2 w hs=>?_
 refine .z zg (.nil (.ai (.z zm (.z Es ?_))))
 rw [e]
 refine .z dP (.z zg (.nil (.seq (.ai (.z (zfa dn) (.y hs (zld ae) (.z (zfa dm) (.y hs (zld ae) (.z oJ ?_)))))))))
 refine .nil ?_
 refine (.cz rfl (fun hc13=>?_) (fun hc13=>?_))
 ·refine .ai (.z zm (.z (zfa dn) (.y hs (zld ae) (.z (zfa dm) (.y hs (zld ae) ?_)))))
  refine .o (.call eh rfl (cn hs) ?_);rintro _ w ⟨rfl,hs⟩
  refine .z zg (.nil ?_)
  refine .ret (rT (Fin.bg Tryz.results160 rfl ?_))
  refine ⟨?_,hs.out⟩
  congr 1
  simp only [qj,if_pos hc13]
 ·refine .skip ?_
  refine nT ?_
  refine .ai (.z zm (.z (zfa dn) (.y hs (zld ae) (.z sC (.z zm ?_)))))
  refine .gM (t':=24) rfl (fun hb24=>?_) (fun hb24=>?_)
  ·refine .gFs 4 4 false rfl rfl rfl ?_
   refine .z zpT (.z zg (.nil ?_))
   refine .ret (Fin.bg Tryz.results160 rfl ?_)
   refine ⟨?_,hs.out⟩
   congr 1
   simp only [qj,if_neg hc13]
   symm
   simp [*]
  ·refine .gT rfl rfl ?_
   refine .z zm ?_
   refine .gT rfl rfl ?_
   refine .z (zfa dm) ?_
   refine .gT rfl rfl ?_
   refine .y hs (zld ae) ?_
   refine .gT rfl rfl ?_
   refine .z oJ (.z zpF (.z zg (.nil ?_)))
   refine .ret (Fin.bg Tryz.results160 rfl ?_)
   refine ⟨?_,hs.out⟩
   congr 1
   simp only [qj,if_neg hc13]
   simp [*]
theorem j7{l:Lns}{vt vs:Value}{z d:Int}(hs:St H w σ)(g:LnM H l vt vs)(hl:eQ l)(hd:0≤d):
  Cl Tryz.prog 108 [lnA l vt vs,I z,I d] w fun v w'=>v=I (gg l.seasons z (1+d%365))∧St H w' σ:=by
 have h2:=g.sn
 obtain ⟨as_,cs,rfl⟩:=h2.shape
 have hm:=hl.most
 refine Cl.o Tryz.func108 Tryz.ntmps108 ag3 ?_
 refine .ai ?_
 refine .bx hs fun b3 w hs=>?_
 refine .z zg (.nil (.ai (.z zg (.nil (.seq (.ai (.z zg (.nil (.block ?_)))))))))
 refine .loop (fun k:Nat=>⟨42,[],[(8,I (k:Int)),(7,I (gg (l.seasons.take k) z (1+d%365))),(3,.pointer (some ⟨b3,0,none⟩)),(1,I z),(2,I d)]⟩)
  (fun k w=>k≤l.seasons.length∧St H w (.blk b3 (lnC l vt (.slice as_ l.seasons.length cs))::σ)) (fun k=>l.seasons.length - k) 0 bS
  ⟨Nat.zero_le _,hs⟩ ?_
 rintro k w ⟨hk,hs⟩
 refine .seq (.ai (.z zm (.z (zfa c8) (.y hs (zld gP) (.z (dp bP) (.z kM (.nil ?_)))))))
 refine (.cz rfl (fun hc13=>?_) (fun hc13=>?_))
 ·refine .skip ?_
  refine nT ?_
  refine .seq (.block (.ai ?_))
  obtain ⟨s,hx⟩:=nth (l:=l.seasons) (k:=k) ak
  have hE:=m8 (l.seasons.take k) s z (1+d%365)
  rw [←bU hx] at hE
  refine .z (zfa c8) (.y hs (zld gP) (.z zm ?_))
  refine .ixX (enc:=Ssn.c) hs h2 rfl rfl bP cO hx cU ?_;intro b19 o19 hc19
  refine .z (zfa fT) ?_
  refine .q hs (a6 rfl ae (hc19.get 0 rfl)) ?_
  refine .z zm (.z iP (.z zm ?_))
  refine .gM (t':=24) rfl (fun hb24=>?_) (fun hb24=>?_)
  ·refine .gT rfl rfl ?_
   refine .z (zfa c8) ?_
   refine .gT rfl rfl ?_
   refine .y hs (zld gP) ?_
   refine .gT rfl rfl ?_
   refine .z zm ?_
   refine .gT rfl rfl ?_
   refine .ixX (enc:=Ssn.c) hs h2 rfl rfl bP cO hx cU ?_;intro b28 o28 hc28
   refine .gT rfl rfl ?_
   refine .q hs (bG (vs:=(Ssn.c s)) rfl Er cO hc28) ?_
   refine .gT rfl rfl ?_
   refine .z zm ?_
   refine .gT rfl rfl ?_
   refine .o (.call Tryz.call160 rfl (mS (s:=s) hs hd) ?_);rintro _ w ⟨rfl,hs⟩
   refine .z zpT (.nil ?_)
   refine (.cond rfl (fun hc32=>?_) (fun hc32=>?_))
   ·refine .region (.z zm (.z (zfa c8) (.y hs (zld gP) (.z zm ?_))))
    refine .ixX (enc:=Ssn.c) hs h2 rfl rfl bP cO hx cU ?_;intro b37 o37 hc37
    refine .z (zfa fS) ?_
    refine .q hs (a6 rfl ae (hc37.get 3 rfl)) ?_
    refine .z zC (.z zg (.nil ?_))
    refine nB (nT ?_)
    refine .region (.z zm (.z dP (.z zg (.nil ?_))))
    refine nT ?_
    rw [if_pos ⟨by assumption,by simpa using hc32⟩] at hE
    exact ⟨k+1,.eP rfl db (by rw [hE];exact bS),⟨ak,hs⟩,ak⟩
   ·refine .skip ?_
    refine nB (nT ?_)
    refine .region (.z zm (.z dP (.z zg (.nil ?_))))
    refine nT ?_
    rw [if_neg (fun h=>of_decide_eq_false hc32 h.2)] at hE
    exact ⟨k+1,.eP rfl db (by rw [hE];exact bS),⟨ak,hs⟩,ak⟩
  ·refine .gFs 7 8 true rfl rfl rfl ?_
   refine .z zpF (.nil ?_)
   refine (.cF ?_)
   refine .skip ?_
   refine nB (nT ?_)
   refine .region (.z zm (.z dP (.z zg (.nil ?_))))
   refine nT ?_
   rw [if_neg (fun h=>by have:=h.1;contradiction)] at hE
   exact ⟨k+1,.eP rfl db (by rw [hE];exact bS),⟨ak,hs⟩,ak⟩
 ·refine .exit ?_
  refine xT (xT (xB (nT ?_)))
  refine .ai (.z zm (.z zg (.nil ?_)))
  refine .ret (Fin.bg Tryz.results108 rfl ?_)
  obtain rfl:k=l.seasons.length:=by omega
  exact ⟨by rw [List.take_length],hs.out⟩
theorem jc{l:Lns}{vt vs:Value}{z d:Int}(hs:St H w σ)(g:LnM H l vt vs):
  Cl Tryz.prog 107 [lnA l vt vs,I z,I d] w fun v w'=>∃e,v=I e∧wi l z d e∧St H w' σ:=by
 refine Cl.o Tryz.func107 Tryz.ntmps107 ag3 ?_
 refine .ai ?_
 refine .bx hs fun b3 w hs=>?_
 refine .z zg (.nil (.seq (.ai (.y hs (zls [_,_,_,_] aN aA) ?_))))
 refine .o (.call Tryz.call20 rfl (gG hs g) ?_);rintro _ w ⟨e,rfl,he,hs⟩
 refine .z ia (.nil ?_)
 refine (.dU rfl (fun hc9=>?_) (fun hc9=>?_))
 ·refine .ai (.z zg (.nil ?_))
  refine .ret (rT (Fin.bg Tryz.results107 rfl ?_))
  have h:=he.resolve_left fun h=>hc9 h.2
  exact ⟨_,rfl,.lines h.1,hs.out⟩
 ·refine .skip ?_
  refine nT ?_
  refine .seq (.ai ?_)
  have hok:eQ l:=(he.resolve_right fun h=>by omega).1
  refine .z zm ?_
  refine .o (.call eh rfl (cn hs) ?_);rintro _ w ⟨rfl,hs⟩
  refine .z eL (.nil ?_)
  refine (.cond rfl (fun hc12=>?_) (fun hc12=>?_))
  ·refine .ai (.z zg (.nil ?_))
   refine .ret (rT (Fin.bg Tryz.results107 rfl ?_))
   exact ⟨_,rfl,.zone hok (by simp at hc12;omega),hs.out⟩
  ·refine .skip ?_
   refine nT ?_
   refine .seq (.ai (.z zm ?_))
   refine .o (.call eh rfl (cn hs) ?_);rintro _ w ⟨rfl,hs⟩
   refine .z eL (.nil ?_)
   refine (.cond rfl (fun hc15=>?_) (fun hc15=>?_))
   ·refine .ai (.z zg (.nil ?_))
    refine .ret (rT (Fin.bg Tryz.results107 rfl ?_))
    exact ⟨_,rfl,.day hok (by simpa using hc12) (by simp at hc15;omega),hs.out⟩
   ·refine .skip ?_
    refine nT ?_
    refine .ai (.z zg (.nil ?_))
    refine .ret (Fin.bg Tryz.results107 rfl ?_)
    exact ⟨_,rfl,.ok hok (by simpa using hc12) (by simpa using hc15),hs.out⟩
theorem p4{l:Lns}{vt vs:Value}{z d:Int}(hs:St H w σ)(g:LnM H l vt vs):
  Cl Tryz.prog 40 [lnA l vt vs,I z,I d] w fun u w'=>∃n e,u= .tuple #[I n,I e]∧D9 l z d n e∧St H w' σ:=by
 refine Cl.o Tryz.func40 Tryz.ntmps40 ag3 ?_
 refine .ai ?_
 refine .bx hs fun b3 w hs=>?_
 refine .z zg (.z zg (.nil (.ai (.y hs (zls [_,_,_,_] aN aA) (.z zm (.z zm ?_))))))
 refine .o (.call Tryz.call107 rfl (jc hs g) ?_);rintro _ w ⟨e,rfl,he,hs⟩
 refine .z zg (.nil (.seq (.ai (.z zm (.z ia (.nil ?_))))))
 refine (.dU rfl (fun hc14=>?_) (fun hc14=>?_))
 ·refine .ai (.z zm (.z zg (.z zg (.nil ?_))))
  refine .ret (rT (Fin.fY Tryz.results40 rfl rfl ?_))
  exact ⟨_,_,rfl,.bad he hc14,hs.out⟩
 ·refine .skip ?_
  refine nT ?_
  refine .ai (.y hs (zls [_,_,_,_] aN aA) (.z zm (.z zm ?_)))
  obtain rfl:e=0:=by omega
  obtain ⟨hok,hz,hd⟩:=he.zero
  refine .o (.call Tryz.call108 rfl (j7 hs g hok hd.1) ?_);rintro _ w ⟨rfl,hs⟩
  refine .z zg (.z zg (.nil ?_))
  refine .ret (Fin.fY Tryz.results40 rfl rfl ?_)
  exact ⟨_,_,rfl,.ok he,hs.out⟩
theorem oW{l:Lns}{vt vs:Value}{z d:Int}(hs:St H w σ)(g:LnM H l vt vs):
  Cl Tryz.prog 42 [lnA l vt vs,I z,I d] w fun u w'=>∃n e,u= .tuple #[I n,I e]∧zx l z d n e∧St H w' σ:=by
 refine Cl.o Tryz.func42 Tryz.ntmps42 ag3 ?_
 refine .ai ?_
 refine .bx hs fun b3 w hs=>?_
 refine .z zg (.z zg (.nil (.ai (.y hs (zls [_,_,_,_] aN aA) (.z zm (.z zm ?_))))))
 refine .o (.call Tryz.call107 rfl (jc hs g) ?_);rintro _ w ⟨e,rfl,he,hs⟩
 refine .z zg (.nil (.seq (.ai (.z zm (.z ia (.nil ?_))))))
 refine (.dU rfl (fun hc16=>?_) (fun hc16=>?_))
 ·refine .ai (.z zm (.z zg (.z zg (.nil ?_))))
  refine .ret (rT (Fin.fY Tryz.results42 rfl rfl ?_))
  exact ⟨_,_,rfl,.bad he hc16,hs.out⟩
 ·refine .skip ?_
  refine nT ?_
  refine .ai (.y hs (zls [_,_,_,_] aN aA) ?_)
  obtain rfl:e=0:=by omega
  obtain ⟨hok,hz,hd⟩:=he.zero
  refine .o (.call Tryz.call103 rfl (ib hs g hok) ?_);rintro _ w ⟨n,b,rfl,hF,hs⟩
  refine .z zm (.z zex (.z zex (.z zg (.z zg (.nil (.seq (.ai (.z zm (.z ia ?_)))))))))
  refine .nil ?_
  refine (.dU rfl (fun hc24=>?_) (fun hc24=>?_))
  ·refine .ai (.z zm (.z zg (.z zg (.nil ?_))))
   refine .ret (rT (Fin.fY Tryz.results42 rfl rfl ?_))
   obtain rfl:b=false:=by cases b;rfl;exact (hc24 rfl).elim
   exact ⟨_,_,rfl,.none he hF,hs.out⟩
  ·refine .skip ?_
   refine nT ?_
   refine .seq (.draw mix rfl hs fun w hs=>?_)
   refine .z 0 rfl (zfa fj) ?_
   obtain rfl:b=true:=by cases b;simp at hc24;rfl
   have hn:=hF.bd hok
   have hdp:=hok.depth
   have hE:=rk hok.seasons z (1+d%365)
   refine .y 1 rfl hs ae ?_;refine .z 2 rfl zm ?_;refine .z 3 rfl fu ?_;refine .ys 4 rfl hs [_,_,_,_] aN aA ?_;refine .z 5 rfl zm ?_;refine .z 6 rfl zm ?_
   refine .E 7 hs ?_
   refine .call Tryz.call108 rfl (j7 hs g hok hd.1) ?_;rintro _ w ⟨rfl,hs⟩
   refine .go ?_
   refine .z 8 rfl fu ?_;refine .z 9 rfl zg ?_;refine .z 10 rfl zg ?_;refine .D hs ?_
   refine .ret (Fin.fY Tryz.results42 rfl rfl ?_)
   exact ⟨_,_,rfl,.ok he hF,hs.out⟩
theorem oU{r:List Lg}{vr:Value}{m:Rng}(hs:St H w σ)(h1:RLg H vr r)(hr:mb r)(hm:ed m.lo m.hi):
  Cl Tryz.prog 82 [.agg #[vr],.agg #[I m.lo,I m.hi]] w fun u w'=>∃H1,HLe H H1∧RRg H1 u (msL m r r.length)∧St H1 w' σ:=by
 obtain ⟨ar,cr,rfl⟩:=h1.shape
 have hn:=hr.many
 refine Cl.o Tryz.func82 Tryz.ntmps82 ag2 ?_
 refine .ai ?_
 refine .bx hs fun b2 w hs=>?_
 refine .bx hs fun b3 w hs=>?_
 refine .z zg (.nil (.ai (.y hs (zls [_,_] aB au) ?_)))
 refine .o (.buildSlice (cells:=m.c) hs eO rfl an fun b10 w hs=>?_)
 refine .z zg (.nil (.seq (.ai (.z zg (.nil (.block ?_))))))
 refine .loop (fun p:Nat×Value×Ent=>⟨45,[],[(6,I (p.1:Int)),(5,p.2.1),(2,.pointer (some ⟨b2,0,none⟩))]⟩)
  (fun p w=>p.1≤r.length∧cR 2 p.2.1 (rgc (msL m r p.1)).flatten p.2.2∧St H w (p.2.2:: .blk b2 [.slice ar r.length cr]::σ)) (fun p=>r.length - p.1) (0,_,.blk b10 m.c) bS
  ⟨Nat.zero_le _,.full rfl,hs.sb⟩ ?_
 rintro ⟨k,vo,en⟩ w ⟨hk,hO,hs⟩
 dsimp only at hk hO hs ⊢
 have hml:=iy m r k
 obtain ⟨b,co,sp,rfl,rfl,hco⟩:=hO.GX (wQ _) ak (by rw [gq];omega)
 rw [gq] at hO ⊢
 refine .seq (.ai (.z zm (.z (zfa cg) (.y hs (zld cZ) (.z (dp aO) (.z kM (.nil ?_)))))))
 refine (.cz rfl (fun hc15=>?_) (fun hc15=>?_))
 ·refine .skip ?_
  refine nT ?_
  refine .seq (.block (.ai ?_))
  have hkl:k<r.length:=by omega
  have hx:=js (l:=r) hkl
  have hb:=w6 hm (fun i hi=>(hr.leg i hi).1) (i:=k) ak
  have hb2:=(hr.leg k hkl).1.burn
  unfold ed at hb hb2
  refine .z (zfa cg) (.y hs (zld cZ) (.z zm ?_))
  refine .ixX (enc:=Lg.c) hs h1 rfl rfl aO aZ hx rfl ?_;intro b21 o21 hc21
  refine .z (zfa eX) ?_
  refine .q hs (bG (vs:=[I (lg0 r k).blo,I (lg0 r k).bhi]) rfl aB au (hc21.sub 5 _)) ?_
  refine .o (.alloc hs br rfl fun b7 w hs=>?_)
  refine .o (.aI (vs:=[I (lg0 r k).blo,I (lg0 r k).bhi]) hs rfl rfl au fun w hs=>?_)
  refine .nil (.ai (.z zm (.z zm (.z (zq bB au) ?_))))
  refine .q hs (iC (vs:=(je m r k).c) rfl aB au (hm:=by repeat (first|exact .here|refine .there ?_)) (hv:=CW (wQ _) (Dk (w5 m r (k:=k) (i:=k) (Nat.le_refl _))) sp)) ?_
  refine .o (.alloc hs br rfl fun b8 w hs=>?_)
  refine .o (.aI (vs:=(je m r k).c) hs rfl rfl au fun w hs=>?_)
  change St _ _ (.blk b8 [I (je m r k).lo,I (je m r k).hi]::_) at hs
  refine .nil (.region (.z zm (.z (zfa a8) (.y hs (zld ae) (.z (zfa bw) (.y hs (zld ae) (.z fu (.z zC (.z (zfa bw) ?_)))))))))
  refine .y hs (zld ae) (.z (zfa a8) (.y hs (zld ae) (.z fu (.z zC (.z (zbd [_,_] bu) ?_)))))
  refine .o (.buildSlice (cells:=[I (max 0 ((je m r k).lo - (lg0 r k).bhi)),I (max 0 ((je m r k).hi - (lg0 r k).blo))]) hs eO rfl an fun b42 w hs=>?_)
  rw [show [I (max 0 ((je m r k).lo - (lg0 r k).bhi)),I (max 0 ((je m r k).hi - (lg0 r k).blo))]=(je m r (k+1)).c by simp only [je,DU,Rng.c];rw [Int.max_comm 0,Int.max_comm 0]] at hs
  refine .o (.append (ys:=(je m r (k+1)).c) hs fa rfl rfl hO (.own .here rfl rfl) (by simp [Rng.c,Value.oneCell']) (fun l h=>by rw [fC _ (wQ _),gq] at h;omega) ?_);intro v43 en43 w hO2 hs
  rw [←xH,←xS] at hO2
  refine .z zg (.nil ?_)
  refine nB (nT ?_)
  refine .region (.z zm (.z dP (.z zg (.nil ?_))))
  refine nT ?_
  exact ⟨(k+1,v43,en43),.eP rfl db bS,⟨by dsimp only;omega,hO2,hs.sb⟩,by dsimp only;omega⟩
 ·refine .exit ?_
  refine xT (xT (xB (nT ?_)))
  refine .ai (.z zm (.z zg (.nil ?_)))
  refine .ret (Fin.bg Tryz.results82 rfl ?_)
  obtain rfl:k=r.length:=by omega
  obtain ⟨H1,hle1,hR,hs⟩:=cR.ck (m:=2) hO (wQ _) ak (by rw [gq,iy];omega) hs .here
  exact ⟨H1,hle1,hR,hs.out⟩
theorem oV{r:List Lg}{vr:Value}{m:Rng}(hs:St H w σ)(h1:RLg H vr r):
  Cl Tryz.prog 44 [.agg #[vr],.agg #[I m.lo,I m.hi]] w fun u w'=>∃H1 v l e,HLe H H1∧u= .tuple #[v,I e]∧RRg H1 v l∧MsR r m l e∧St H1 w' σ:=by
 refine Cl.o Tryz.func44 Tryz.ntmps44 ag2 ?_
 refine .ai ?_
 refine .bx hs fun b2 w hs=>?_
 refine .bx hs fun b3 w hs=>?_
 refine .z zg (.z zg (.nil (.seq (.ai (.y hs (zls [_] cW bJ) ?_)))))
 refine .o (.call Tryz.call22 rfl (kS hs h1) ?_);rintro _ w ⟨e,rfl,he,hs⟩
 refine .z ia (.nil ?_)
 refine (.dU rfl (fun hc8=>?_) (fun hc8=>?_))
 ·refine .ai (.z zg (.z zg (.nil ?_)))
  refine .ret (rT (Fin.fY Tryz.results44 rfl rfl ?_))
  have h:=he.resolve_left fun h=>hc8 h.2
  exact ⟨H,_,[],_,HLe.refl H,rfl,RS.nil H 2 none 0,.route h.1,hs.out⟩
 ·refine .skip ?_
  refine nT ?_
  refine .seq (.ai (.y hs (zls [_,_] aB au) ?_))
  have hok:mb r:=(he.resolve_right fun h=>by omega).1
  refine .o (.call Tryz.call53 rfl (jz hs) ?_);rintro _ w ⟨rfl,hs⟩
  refine .z eL (.nil ?_)
  refine (.cond rfl (fun hc11=>?_) (fun hc11=>?_))
  ·refine .ai (.z zg (.z zg (.nil ?_)))
   refine .ret (rT (Fin.fY Tryz.results44 rfl rfl ?_))
   exact ⟨H,_,[],_,HLe.refl H,rfl,RS.nil H 2 none 0,.mass hok (by simpa using hc11),hs.out⟩
  ·refine .skip ?_
   refine nT ?_
   refine .ai (.y hs (zls [_] cW bJ) (.y hs (zls [_,_] aB au) ?_))
   have hm:ed m.lo m.hi:=by simpa using hc11
   refine .o (.call Tryz.call82 rfl (oU hs h1 hok hm) ?_);rintro v14 w ⟨H1,hle1,hR,hs⟩
   refine .z zg (.z zg (.nil ?_))
   refine .ret (Fin.fY Tryz.results44 rfl rfl ?_)
   exact ⟨H1,_,_,_,hle1,rfl,hR,.ok hok hm,hs.out⟩
end Go.Proofs.YteajddicacjkhaaGreat
namespace Go.Proofs.YteajddicacjkhaaGreat
open Go.MW
theorem lW{W:World}{H:bp}{l:Lns}{vt vs:Value}{z d:Int}(hs:St H W [])(gl:LnM H l vt vs):
  Cl Tryz.prog 7 [lnA l vt vs,.agg #[I z,I d]] W fun v w'=>v= .bool true∧∃H',HLe H H'∧St H' w' []:=by
 obtain ⟨at_,ct,rfl⟩:=gl.tb.shape
 obtain ⟨as_,cs,rfl⟩:=gl.sn.shape
 refine Cl.o Tryz.func7 Tryz.ntmps7 ag2 ?_
 refine .ai ?_
 refine .bx hs fun b2 w hs=>?_
 refine .bx hs fun b3 w hs=>?_
 refine .z zg (.nil (.ai ?_))
 refine .o (.call Tryz.call18 rfl (kZ hs) ?_);rintro _ w ⟨rfl,H1,hle1,hs⟩
 have g:=gl.mono hle1
 refine .z zg (.nil (.ai (.y hs (zls [_,_,_,_] aN aA) ?_)))
 refine .o (.call Tryz.call37 rfl (iI (l:=l) hs g.tb g.sn) ?_);rintro _ w ⟨n1,e1,rfl,h1,hs⟩
 refine .z zm (.z zex (.z zex (.z zg (.z zg (.nil (.ai (.y hs (zls [_,_,_,_] aN aA) ?_)))))))
 refine .o (.call Tryz.call38 rfl (lS (l:=l) hs g) ?_);rintro _ w ⟨n2,e2,rfl,h2,hs⟩
 obtain ⟨rfl,rfl⟩:=h1.uniq h2
 refine .z zm (.z zex (.z zex (.z zg (.z zg (.nil (.ai (.y hs (zls [_,_,_,_] aN aA) ?_)))))))
 refine .z (zia 0 cI aj) ?_
 refine .y hs (zld ae) ?_
 refine .z (zia 1 cI aj) ?_
 refine .y hs (zld ae) ?_
 refine .o (.call Tryz.call39 rfl (q8 (l:=l) hs g.tb g.sn) ?_);rintro _ w ⟨n3,e3,rfl,h3,hs⟩
 refine .z zm (.z zex (.z zex (.z zg (.z zg (.nil (.ai (.y hs (zls [_,_,_,_] aN aA) ?_)))))))
 refine .z (zia 0 cI aj) ?_
 refine .y hs (zld ae) ?_
 refine .z (zia 1 cI aj) ?_
 refine .y hs (zld ae) ?_
 refine .o (.call Tryz.call40 rfl (p4 (l:=l) hs g) ?_);rintro _ w ⟨n4,e4,rfl,h4,hs⟩
 obtain ⟨rfl,rfl⟩:=h3.uniq h4
 refine .z zm (.z zex (.z zex (.z zg (.z zg (.nil (.ai (.y hs (zls [_,_,_,_] aN aA) ?_)))))))
 refine .z (zia 0 cI aj) ?_
 refine .y hs (zld ae) ?_
 refine .z (zia 1 cI aj) ?_
 refine .y hs (zld ae) ?_
 refine .o (.call Tryz.call41 rfl (j9 (l:=l) hs g.tb g.sn) ?_);rintro _ w ⟨n5,e5,rfl,h5,hs⟩
 refine .z zm (.z zex (.z zex (.z zg (.z zg (.nil (.ai (.y hs (zls [_,_,_,_] aN aA) ?_)))))))
 refine .z (zia 0 cI aj) ?_
 refine .y hs (zld ae) ?_
 refine .z (zia 1 cI aj) ?_
 refine .y hs (zld ae) ?_
 refine .o (.call Tryz.call42 rfl (oW (l:=l) hs g) ?_);rintro _ w ⟨n6,e6,rfl,h6,hs⟩
 obtain ⟨rfl,rfl⟩:=h5.uniq h6
 refine .z zm (.z zex (.z zex (.z zg (.z zg (.nil (.ai (.z zm (.z zm ?_))))))))
 refine .gT rfl rfl ?_
 refine .z zm ?_
 refine .gT rfl rfl ?_
 refine .z zm ?_
 refine .gT rfl rfl ?_
 refine .z iP ?_
 rw [decide_eq_true rfl]
 refine .z zpT (.z zm ?_)
 refine .gT rfl rfl ?_
 refine .z zm ?_
 refine .gT rfl rfl ?_
 refine .z zm ?_
 refine .gT rfl rfl ?_
 refine .z iP ?_
 rw [decide_eq_true rfl]
 refine .z zpT (.z zm ?_)
 refine .gT rfl rfl ?_
 refine .z zm ?_
 refine .gT rfl rfl ?_
 refine .z zm ?_
 refine .gT rfl rfl ?_
 refine .z iP ?_
 rw [decide_eq_true rfl]
 refine .z zpT (.z zm ?_)
 refine .gT rfl rfl ?_
 refine .z zm ?_
 refine .gT rfl rfl ?_
 refine .z zm ?_
 refine .gT rfl rfl ?_
 refine .z iP ?_
 rw [decide_eq_true rfl]
 refine .z zpT (.z zm ?_)
 refine .gT rfl rfl ?_
 refine .z zm ?_
 refine .gT rfl rfl ?_
 refine .z zm ?_
 refine .gT rfl rfl ?_
 refine .z iP ?_
 rw [decide_eq_true rfl]
 refine .z zpT (.z zm ?_)
 refine .gT rfl rfl ?_
 refine .z zm ?_
 refine .gT rfl rfl ?_
 refine .z zm ?_
 refine .gT rfl rfl ?_
 refine .z iP ?_
 rw [decide_eq_true rfl]
 refine .z zpT (.z zg (.nil ?_))
 refine .ret (Fin.bg Tryz.results7 rfl ?_)
 exact ⟨rfl,H1,hle1,hs.out⟩
theorem m6{W:World}{H:bp}{r:List Lg}{vl:Value}{m:Rng}(hs:St H W [])(gr_:RLg H vl r):
  Cl Tryz.prog 8 [.agg #[vl],rgA m] W fun v w'=>v= .bool true∧∃H',HLe H H'∧St H' w' []:=by
 obtain ⟨ar,cr,rfl⟩:=gr_.shape
 refine Cl.o Tryz.func8 Tryz.ntmps8 ag2 ?_
 refine .ai ?_
 refine .bx hs fun b2 w hs=>?_
 refine .bx hs fun b3 w hs=>?_
 refine .z zg (.nil (.ai ?_))
 refine .o (.call Tryz.call18 rfl (kZ hs) ?_);rintro _ w ⟨rfl,H1,hle1,hs⟩
 refine .z zg (.nil (.ai (.y hs (zls [_] cW bJ) (.y hs (zls [_,_] aB au) ?_))))
 refine .o (.call Tryz.call43 rfl (qb (r:=r) (m:=m) hs (gr_.mono hle1)) ?_);rintro _ w ⟨H2,v1,l1,e1,hle2,rfl,hR1,h1,hs⟩
 refine .z zm (.z zex (.z zex (.z zg (.z zg (.nil (.ai (.y hs (zls [_] cW bJ) (.y hs (zls [_,_] aB au) ?_))))))))
 refine .o (.call Tryz.call44 rfl (oV (r:=r) (m:=m) hs (gr_.mono (hle1.trans hle2))) ?_);rintro _ w ⟨H3,v2,l2,e2,hle3,rfl,hR2,h2,hs⟩
 obtain ⟨rfl,rfl⟩:=h1.uniq h2
 replace hR1:=hR1.mono hle3
 obtain ⟨a1,c1,rfl⟩:=hR1.shape
 obtain ⟨a2,c2,rfl⟩:=hR2.shape
 have hle03:=hle1.trans (hle2.trans hle3)
 have hl:=hR1.len
 refine .z zm (.z zex (.z zex (.z zg (.z zg (.nil (.ai (.z zm (.z (dp bB) (.z zm ?_)))))))))
 refine .z (dp bB) (.z iP ?_)
 rw [decide_eq_true rfl]
 refine .z zg (.nil (.seq (.ai (.z zg (.nil (.block ?_))))))
 refine .loop (fun k:Nat=>⟨57,[],[(11,I (k:Int)),(10,.bool true),(6,.slice a1 l1.length c1),(8,.slice a2 l1.length c2),(5,.bool true),(7,I e1),(9,I e1)]⟩)
  (fun k w=>k≤l1.length∧St H3 w []) (fun k=>l1.length - k) 0 bS
  ⟨Nat.zero_le _,hs.out⟩ ?_
 rintro k w ⟨hk,hs⟩
 refine .seq (.ai (.z zm (.z zm (.z (dp bB) (.z kM (.z zm ?_))))))
 refine .gM (t':=34) rfl (fun hb34=>?_) (fun hb34=>?_)
 ·refine .gT rfl rfl ?_
  refine .z zm (.z zpT (.nil ?_))
  refine (.cT ?_)
  refine .skip ?_
  refine nT ?_
  refine .seq (.block ?_)
  refine .draw mix rfl hs fun w hs=>?_
  have hkl:k<l1.length:=by omega
  obtain ⟨q,hx⟩:=nth hkl
  refine .z 0 rfl zm ?_;refine .z 1 rfl zm ?_
  refine .ixX (enc:=Rng.c) (i:=2) hs rfl an .none hR1 rfl rfl bB au hx rfl ?_;intro b41 o41 hc41
  refine .r (i:=3) hs rfl an .none (bG (vs:=q.c) rfl aB au hc41) ?_
  refine .z 4 rfl zm ?_;refine .z 5 rfl zm ?_
  refine .ixX (enc:=Rng.c) (i:=6) hs rfl an .none hR2 rfl rfl bB au hx rfl ?_;intro b45 o45 hc45
  refine .r (i:=7) hs rfl an .none (bG (vs:=q.c) rfl aB au hc45) ?_
  refine .z 8 rfl (xO sM sN pC (fun f hf=>by
   simp only [List.mem_cons,List.not_mem_nil,or_false] at hf
   rcases hf with rfl|rfl<;>exact ⟨by decide,aM,ae⟩) rfl rfl) ?_
  rw [decide_eq_true ⟨rfl,rfl⟩]
  refine .z 9 rfl zg ?_;refine .D hs ?_
  refine nB (nT ?_)
  refine .region (.z zm (.z dP (.z zg (.nil ?_))))
  refine nT ?_
  exact ⟨k+1,.eP rfl db bS,⟨ak,hs⟩,ak⟩
 ·refine .gFs 1 4 true rfl rfl rfl ?_
  refine .z zpF (.nil ?_)
  refine (.cF ?_)
  refine .exit ?_
  refine xT (xT (xB (nT ?_)))
  refine .ai (.z zm (.z zm ?_))
  refine .gT rfl rfl ?_
  refine .z zm (.z zpT (.z zm ?_))
  refine .gT rfl rfl ?_
  refine .z zm ?_
  refine .gT rfl rfl ?_
  refine .z zm ?_
  refine .gT rfl rfl ?_
  refine .z iP ?_
  rw [decide_eq_true rfl]
  refine .z zpT (.z zg (.nil ?_))
  refine .ret (Fin.bg Tryz.results8 rfl ?_)
  exact ⟨rfl,H3,hle03,hs.out⟩
end Go.Proofs.YteajddicacjkhaaGreat
