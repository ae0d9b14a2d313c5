/-
  Texts of these claims, joined: Oc Od Oe Of Og Oh Oi Oj Ok Ol Om Ov Oy.
-/
import Derived.Test.YteajddicacjkhaaGreatEe
namespace Go.Proofs.YteajddicacjkhaaGreat
open Go.MW
variable{H:bB}{w:World}{σ:List Ent}
theorem bG{a0 a1 a2:Int}(hs:St H w σ):Cl Tryz.prog 72 [I a0,I a1,I a2] w fun v w'=>v= .bool (decide (a1≤a0∧a0≤a2))∧St H w' σ:=by
 refine Cl.o Tryz.func72 Tryz.ntmps72 ag3 ?_
 refine .ai (.z zg (.nil (.ai (.z zm (.z zm (.z um (.z zm ?_)))))))
 refine .jM (t':=10) rfl (fun hb10=>?_) (fun hb10=>?_)
 ·refine .gT rfl rfl ?_
  refine .z zm ?_
  refine .gT rfl rfl ?_
  refine .z zm ?_
  refine .gT rfl rfl ?_
  refine .z um (.z zpT (.z zg (.nil ?_)))
  refine .ret (Fin.bw Tryz.results72 rfl ?_)
  exact ⟨by simp [*],hs.out⟩
 ·refine .gFs 3 3 true rfl rfl rfl ?_
  refine .z zpF (.z zg (.nil ?_))
  refine .ret (Fin.bw Tryz.results72 rfl ?_)
  exact ⟨by simp [*],hs.out⟩
theorem jt{a0:Int}(hs:St H w σ):Cl Tryz.prog 73 [I a0] w fun v w'=>v= .bool (decide (1≤a0∧a0≤20))∧St H w' σ:=by
 refine Cl.o Tryz.func73 Tryz.ntmps73 ag1 ?_
 refine .ai (.z zg (.nil (.ai (.z zm ?_))))
 refine .o (.call dF rfl (bG hs) ?_);rintro _ w ⟨rfl,hs⟩
 refine .z zg (.nil ?_)
 refine .ret (Fin.bw Tryz.results73 rfl ?_)
 exact ⟨rfl,hs⟩
theorem lV{x y a1 a2:Int}(hs:St H w σ):Cl Tryz.prog 161 [.agg #[I x,I y],I a1,I a2] w fun v w'=>v= .bool (decide (a1≤x∧x≤y∧y≤a2))∧St H w' σ:=by
 refine Cl.o Tryz.func161 Tryz.ntmps161 ag3 ?_
 refine .ai ?_
 refine .bx hs fun b3 w hs=>?_
 refine .z zg (.nil (.ai (.z zm (.z (zfa bR) (.y hs (zld af) (.z um (.z zm ?_)))))))
 refine .jM (t':=11) rfl (fun hb11=>?_) (fun hb11=>?_)
 ·refine .gT rfl rfl ?_
  refine .z (zfa bR) ?_
  refine .gT rfl rfl ?_
  refine .y hs (zld af) ?_
  refine .gT rfl rfl ?_
  refine .z (zfa dh) ?_
  refine .gT rfl rfl ?_
  refine .y hs (zld af) ?_
  refine .gT rfl rfl ?_
  refine .z um (.z zpT (.z zm ?_))
  refine .jM (t':=18) rfl (fun hb18=>?_) (fun hb18=>?_)
  ·refine .gT rfl rfl ?_
   refine .z (zfa dh) ?_
   refine .gT rfl rfl ?_
   refine .y hs (zld af) ?_
   refine .gT rfl rfl ?_
   refine .z zm ?_
   refine .gT rfl rfl ?_
   refine .z um (.z zpT (.z zg (.nil ?_)))
   refine .ret (Fin.bw Tryz.results161 rfl ?_)
   exact ⟨by simp [*],hs.out⟩
  ·refine .gFs 4 11 true rfl rfl rfl ?_
   refine .z zpF (.z zg (.nil ?_))
   refine .ret (Fin.bw Tryz.results161 rfl ?_)
   exact ⟨by simp [*],hs.out⟩
 ·refine .gFs 5 4 true rfl rfl rfl ?_
  refine .z zpF (.z zm ?_)
  refine .gFs 4 11 true rfl rfl rfl ?_
  refine .z zpF (.z zg (.nil ?_))
  refine .ret (Fin.bw Tryz.results161 rfl ?_)
  exact ⟨by simp [*],hs.out⟩
theorem lW{x y:Int}(hs:St H w σ):Cl Tryz.prog 109 [.agg #[I x,I y]] w fun v w'=>v= .bool (decide (eQ x y))∧St H w' σ:=by
 refine Cl.o Tryz.func109 Tryz.ntmps109 ag1 ?_
 refine .ai ?_
 refine .bx hs fun b1 w hs=>?_
 refine .z zg (.nil (.ai (.y hs (zls [_,_] bh az) ?_)))
 refine .o (.call Tryz.call161 rfl (lV hs) ?_);rintro _ w ⟨rfl,hs⟩
 refine .z zg (.nil ?_)
 refine .ret (Fin.bw Tryz.results109 rfl ?_)
 exact ⟨rfl,hs.out⟩
theorem ld{x y:Int}(hs:St H w σ):Cl Tryz.prog 118 [.agg #[I x,I y]] w fun v w'=>v= .bool (decide (gM x y))∧St H w' σ:=by
 refine Cl.o Tryz.func118 Tryz.ntmps118 ag1 ?_
 refine .ai ?_
 refine .bx hs fun b1 w hs=>?_
 refine .z zg (.nil (.ai (.y hs (zls [_,_] bh az) ?_)))
 refine .o (.call Tryz.call161 rfl (lV hs) ?_);rintro _ w ⟨rfl,hs⟩
 refine .z zg (.nil ?_)
 refine .ret (Fin.bw Tryz.results118 rfl ?_)
 exact ⟨rfl,hs.out⟩
theorem tB{x:Lg}(hs:St H w σ):
  Cl Tryz.prog 75 [.agg #[I x.zone,I x.fr,I x.to,I x.dlo,I x.dhi,I x.blo,I x.bhi]] w fun v w'=>∃b:Bool,v= .bool b∧(b=true↔AR x)∧St H w' σ:=by
 refine Cl.o Tryz.func75 Tryz.ntmps75 ag1 ?_
 refine .ai ?_
 refine .bx hs fun b1 w hs=>?_
 refine .z zg (.nil (.ai (.z (zfa rK) (.y hs (zld af) ?_))))
 refine .o (.call Tryz.call73 rfl (jt hs) ?_);rintro _ w ⟨rfl,hs⟩
 refine .z zm ?_
 refine .bif (t':=6) rfl (fun hb6=>?_) (fun hb6=>?_)
 ·refine .gT rfl rfl ?_
  refine .z (zfa ji) ?_
  refine .gT rfl rfl ?_
  refine .y hs (zld af) ?_
  refine .gT rfl rfl ?_
  refine .z (zfa iz) ?_
  refine .gT rfl rfl ?_
  refine .y hs (zld af) ?_
  refine .gT rfl rfl ?_
  refine .o (.call dF rfl (bG hs) ?_);rintro _ w ⟨rfl,hs⟩
  refine .z zpT (.z zm ?_)
  refine .bif (t':=13) rfl (fun hb13=>?_) (fun hb13=>?_)
  ·refine .gT rfl rfl ?_
   refine .z (zfa iz) ?_
   refine .gT rfl rfl ?_
   refine .y hs (zld af) ?_
   refine .gT rfl rfl ?_
   refine .o (.call dF rfl (bG hs) ?_);rintro _ w ⟨rfl,hs⟩
   refine .z zpT (.z zm ?_)
   refine .bif (t':=18) rfl (fun hb18=>?_) (fun hb18=>?_)
   ·refine .gT rfl rfl ?_
    refine .z (zfa iy) ?_
    refine .gT rfl rfl ?_
    refine .y hs (zls [_,_] bh az) ?_
    refine .gT rfl rfl ?_
    refine .o (.call Tryz.call118 rfl (ld hs) ?_);rintro _ w ⟨rfl,hs⟩
    refine .z zpT (.z zm ?_)
    refine .bif (t':=23) rfl (fun hb23=>?_) (fun hb23=>?_)
    ·refine .gT rfl rfl ?_
     refine .z (zfa iw) ?_
     refine .gT rfl rfl ?_
     refine .y hs (zls [_,_] bh az) ?_
     refine .gT rfl rfl ?_
     refine .o (.call Tryz.call109 rfl (lW hs) ?_);rintro _ w ⟨rfl,hs⟩
     refine .z zpT (.z zg (.nil ?_))
     refine .ret (Fin.bw Fy rfl ?_)
     first
     |exact ⟨false,rfl,⟨fun h=>(by cases h),fun h=>(by obtain ⟨g1,g2,g3,g4,g5⟩:=h;first|omega|(simp_all;done)|(simp_all;omega))⟩,hs.out⟩
     |exact ⟨_,rfl,⟨fun h=>⟨by simp_all,by simp_all,by simp_all,by simp_all,by simpa using h⟩,fun h=>by simpa using h.burn⟩,hs.out⟩
    ·refine .gFs 3 20 true rfl rfl rfl ?_
     refine .z zpF (.z zg (.nil ?_))
     refine .ret (Fin.bw Fy rfl ?_)
     first
     |exact ⟨false,rfl,⟨fun h=>(by cases h),fun h=>(by obtain ⟨g1,g2,g3,g4,g5⟩:=h;first|omega|(simp_all;done)|(simp_all;omega))⟩,hs.out⟩
     |exact ⟨_,rfl,⟨fun h=>⟨by simp_all,by simp_all,by simp_all,by simp_all,by simpa using h⟩,fun h=>by simpa using h.burn⟩,hs.out⟩
   ·refine .gFs 3 15 true rfl rfl rfl ?_
    refine .z zpF (.z zm ?_)
    refine .gFs 3 20 true rfl rfl rfl ?_
    refine .z zpF (.z zg (.nil ?_))
    refine .ret (Fin.bw Fy rfl ?_)
    first
    |exact ⟨false,rfl,⟨fun h=>(by cases h),fun h=>(by obtain ⟨g1,g2,g3,g4,g5⟩:=h;first|omega|(simp_all;done)|(simp_all;omega))⟩,hs.out⟩
    |exact ⟨_,rfl,⟨fun h=>⟨by simp_all,by simp_all,by simp_all,by simp_all,by simpa using h⟩,fun h=>by simpa using h.burn⟩,hs.out⟩
  ·refine .gFs 3 10 true rfl rfl rfl ?_
   refine .z zpF (.z zm ?_)
   refine .gFs 3 15 true rfl rfl rfl ?_
   refine .z zpF (.z zm ?_)
   refine .gFs 3 20 true rfl rfl rfl ?_
   refine .z zpF (.z zg (.nil ?_))
   refine .ret (Fin.bw Fy rfl ?_)
   first
   |exact ⟨false,rfl,⟨fun h=>(by cases h),fun h=>(by obtain ⟨g1,g2,g3,g4,g5⟩:=h;first|omega|(simp_all;done)|(simp_all;omega))⟩,hs.out⟩
   |exact ⟨_,rfl,⟨fun h=>⟨by simp_all,by simp_all,by simp_all,by simp_all,by simpa using h⟩,fun h=>by simpa using h.burn⟩,hs.out⟩
 ·refine .gFs 5 3 true rfl rfl rfl ?_
  refine .z zpF (.z zm ?_)
  refine .gFs 3 10 true rfl rfl rfl ?_
  refine .z zpF (.z zm ?_)
  refine .gFs 3 15 true rfl rfl rfl ?_
  refine .z zpF (.z zm ?_)
  refine .gFs 3 20 true rfl rfl rfl ?_
  refine .z zpF (.z zg (.nil ?_))
  refine .ret (Fin.bw Fy rfl ?_)
  first
  |exact ⟨false,rfl,⟨fun h=>(by cases h),fun h=>(by obtain ⟨g1,g2,g3,g4,g5⟩:=h;first|omega|(simp_all;done)|(simp_all;omega))⟩,hs.out⟩
  |exact ⟨_,rfl,⟨fun h=>⟨by simp_all,by simp_all,by simp_all,by simp_all,by simpa using h⟩,fun h=>by simpa using h.burn⟩,hs.out⟩
set_option maxHeartbeats 1000000 in
theorem gH{l:Lns}{vt vs:Value}(hs:St H w σ)(h1:RFb H vt l.table)(h2:RSn H vs l.seasons):
  Cl Tryz.prog 19 [.agg #[I l.length,I l.depth,vt,vs]] w fun u w'=>∃e,u=I e∧I7 l e∧St H w' σ:=by
 obtain ⟨at_,ct,rfl⟩:=h1.shape
 obtain ⟨as_,cs,rfl⟩:=h2.shape
 refine Cl.o Tryz.func19 Tryz.ntmps19 ag1 ?_
 refine .ai ?_
 refine .bx hs fun b1 w hs=>?_
 refine .z zg (.nil (.seq (.ai (.z (zfa iZ) (.y hs (zld af) ?_)))))
 refine .o (.call dF rfl (bG hs) ?_);rintro _ w ⟨rfl,hs⟩
 refine .z gy (.z zm ?_)
 refine .bif (t':=11) rfl (fun hb11=>?_) (fun hb11=>?_)
 ·refine .gFs 4 4 false rfl rfl rfl ?_
  refine .z zpT (.z zm ?_)
  refine .gFs 5 10 false rfl rfl rfl ?_
  refine .z zpT (.z zm ?_)
  refine .gFs 4 17 false rfl rfl rfl ?_
  refine .z zpT (.nil ?_)
  refine (.cT ?_)
  refine .ai (.z zg (.nil ?_))
  refine .ret (rT (Fin.bw eG rfl ?_))
  exact ⟨_,rfl,.inr ⟨fun h=>by have:=h.length;simp_all,rfl⟩,hs.out⟩
 ·refine .gT rfl rfl ?_
  refine .z (zfa kK) ?_
  refine .gT rfl rfl ?_
  refine .y hs (zld af) ?_
  refine .gT rfl rfl ?_
  refine .o (.call dF rfl (bG hs) ?_);rintro _ w ⟨rfl,hs⟩
  refine .gT rfl rfl ?_
  refine .z gy (.z zpF (.z zm ?_))
  refine .bif (t':=17) rfl (fun hb17=>?_) (fun hb17=>?_)
  ·refine .gFs 5 10 false rfl rfl rfl ?_
   refine .z zpT (.z zm ?_)
   refine .gFs 4 17 false rfl rfl rfl ?_
   refine .z zpT (.nil ?_)
   refine (.cT ?_)
   refine .ai (.z zg (.nil ?_))
   refine .ret (rT (Fin.bw eG rfl ?_))
   exact ⟨_,rfl,.inr ⟨fun h=>by have:=h.depth;simp_all,rfl⟩,hs.out⟩
  ·refine .gT rfl rfl ?_
   refine .z (zfa dt) ?_
   refine .gT rfl rfl ?_
   refine .y hs (zld jq) ?_
   refine .gT rfl rfl ?_
   refine .z (cZ cq) ?_
   refine .gT rfl rfl ?_
   refine .o (.call dF rfl (bG hs) ?_);rintro _ w ⟨rfl,hs⟩
   refine .gT rfl rfl ?_
   refine .z gy (.z zpF (.z zm ?_))
   refine .bif (t':=24) rfl (fun hb24=>?_) (fun hb24=>?_)
   ·refine .gFs 4 17 false rfl rfl rfl ?_
    refine .z zpT (.nil ?_)
    refine (.cT ?_)
    refine .ai (.z zg (.nil ?_))
    refine .ret (rT (Fin.bw eG rfl ?_))
    exact ⟨_,rfl,.inr ⟨fun h=>by have:=h.many;simp_all;omega,rfl⟩,hs.out⟩
   ·refine .gT rfl rfl ?_
    refine .z (zfa gO) ?_
    refine .gT rfl rfl ?_
    refine .y hs (zld Tryz.isAgg23) ?_
    refine .gT rfl rfl ?_
    refine .z (cZ fo) ?_
    refine .gT rfl rfl ?_
    refine .z qH (.z zpF (.nil ?_))
    refine (.bT rfl (fun hc29=>?_) (fun hc29=>?_))
    ·refine .ai (.z zg (.nil ?_))
     refine .ret (rT (Fin.bw eG rfl ?_))
     exact ⟨_,rfl,.inr ⟨fun h=>by have:=h.most;simp_all;omega,rfl⟩,hs.out⟩
    ·refine .skip ?_
     refine nT ?_
     refine .seq (.ai ?_)
     have hl20:1≤l.table.length∧l.table.length≤20:=by first|omega|(simp at hb24;omega)
     refine .z (zfa dt) (.y hs (zld jq) (.z (cZ cq) (.z zm (.nil ?_))))
     refine .for (N:=l.table.length) (J:=fun k fr w=>fr=[(31,.slice at_ l.table.length ct),(1,.pointer (some ⟨b1,0,none⟩))]∧(∀j<k,G8 l.table j)∧St H w (.blk b1 [I l.length,I l.depth,.slice at_ l.table.length ct,.slice as_ l.seasons.length cs]::σ)) ak ?_ ?_ ?_
     ·exact .mk ⟨rfl,fun j hj=>by omega,hs⟩
     ·rintro k fr w hk ⟨rfl,hno,hs⟩
      have hx:=tN (l:=l.table) hk
      have hx1:=tN (l:=l.table) (i:=k - 1) ak
      refine .block (.ai (.z zm ?_))
      refine .ixX (enc:=Fbd.c) hs h1 rfl rfl cq cQ hx dn ?_;intro b36 o36 hc36
      refine .q hs (bK (vs:=(Fbd.c (fb0 l.table k))) rfl Tryz.isAgg134 cQ hc36) ?_
      refine .o (.alloc hs ij rfl fun b4 w hs=>?_)
      refine .z zg ?_
      refine .o (.aI (vs:=(fb0 l.table k).c) hs rfl rfl cQ fun w hs=>?_)
      change St _ _ (.blk b4 [I (fb0 l.table k).len,I (fb0 l.table k).least]::_) at hs
      refine .nil ?_
      refine .seq (.draw mix rfl hs fun w hs=>?_)
      refine .z 0 rfl (zfa dm) ?_;refine .y 1 rfl hs af ?_
      refine .E 2 hs ?_
      refine .call dF rfl (bG hs) ?_;rintro _ w ⟨rfl,hs⟩
      refine .go ?_
      refine .z 3 rfl gy ?_;refine .z 4 rfl zm ?_
      refine .bif (t':=42) rfl (fun hb42=>?_) (fun hb42=>?_)
      ·refine .qF (i:=5) rfl aq rfl rfl ?_
       refine .qF (i:=6) rfl aq rfl rfl ?_
       refine .qF (i:=7) rfl aq rfl rfl ?_
       refine .qF (i:=8) rfl aq rfl rfl ?_
       refine .z 9 rfl zpT ?_;refine .z 10 rfl zm ?_
       refine .qF (i:=11) rfl aq rfl rfl ?_
       refine .qF (i:=12) rfl aq rfl rfl ?_
       refine .qF (i:=13) rfl aq rfl rfl ?_
       refine .qF (i:=14) rfl aq rfl rfl ?_
       refine .qF (i:=15) rfl aq rfl rfl ?_
       refine .qF (i:=16) rfl aq rfl rfl ?_
       refine .qF (i:=17) rfl aq rfl rfl ?_
       refine .qF (i:=18) rfl aq rfl rfl ?_
       refine .qF (i:=19) rfl aq rfl rfl ?_
       refine .qF (i:=20) rfl aq rfl rfl ?_
       refine .qF (i:=21) rfl aq rfl rfl ?_
       refine .qF (i:=22) rfl aq rfl rfl ?_
       refine .qF (i:=23) rfl aq rfl rfl ?_
       refine .qF (i:=24) rfl aq rfl rfl ?_
       refine .z 25 rfl zpT ?_;refine .D hs ?_
       refine (.cT ?_)
       refine .ai (.z zg (.nil ?_))
       refine .ret (rB (rT (rB (rT (Fin.bw eG rfl ?_)))))
       exact ⟨_,rfl,.inr ⟨fun h=>by have:=(h.table k hk).len;simp_all,rfl⟩,hs.out⟩
      ·refine .z 5 rfl (zfa eO) ?_;refine .y 6 rfl hs af ?_
       refine .E 7 hs ?_
       refine .call dF rfl (bG hs) ?_;rintro _ w ⟨rfl,hs⟩
       refine .go ?_
       refine .z 8 rfl gy ?_;refine .z 9 rfl zpF ?_;refine .z 10 rfl zm ?_
       refine .bif (t':=48) rfl (fun hb48=>?_) (fun hb48=>?_)
       ·refine .qF (i:=11) rfl aq rfl rfl ?_
        refine .qF (i:=12) rfl aq rfl rfl ?_
        refine .qF (i:=13) rfl aq rfl rfl ?_
        refine .qF (i:=14) rfl aq rfl rfl ?_
        refine .qF (i:=15) rfl aq rfl rfl ?_
        refine .qF (i:=16) rfl aq rfl rfl ?_
        refine .qF (i:=17) rfl aq rfl rfl ?_
        refine .qF (i:=18) rfl aq rfl rfl ?_
        refine .qF (i:=19) rfl aq rfl rfl ?_
        refine .qF (i:=20) rfl aq rfl rfl ?_
        refine .qF (i:=21) rfl aq rfl rfl ?_
        refine .qF (i:=22) rfl aq rfl rfl ?_
        refine .qF (i:=23) rfl aq rfl rfl ?_
        refine .qF (i:=24) rfl aq rfl rfl ?_
        refine .z 25 rfl zpT ?_;refine .D hs ?_
        refine (.cT ?_)
        refine .ai (.z zg (.nil ?_))
        refine .ret (rB (rT (rB (rT (Fin.bw eG rfl ?_)))))
        exact ⟨_,rfl,.inr ⟨fun h=>by have:=(h.table k hk).least;simp_all,rfl⟩,hs.out⟩
       ·refine .z 11 rfl zm ?_;refine .z 12 rfl qH ?_;refine .z 13 rfl zm ?_
        refine .jM (t':=51) rfl (fun hb51=>?_) (fun hb51=>?_)
        ·refine .z 14 rfl (zfa dt) ?_;refine .y 15 rfl hs jq ?_;refine .z 16 rfl zm ?_;refine .z 17 rfl gZ ?_
         refine .ixX (enc:=Fbd.c) (i:=18) hs rfl aq (.some rfl rfl) h1 rfl rfl cq cQ hx1 ak ?_;intro b56 o56 hc56
         refine .z 19 rfl (zfa dm) ?_
         refine .r (i:=20) hs rfl aq (.some rfl rfl) (aR rfl af (hc56.get 0 rfl)) ?_
         refine .z 21 rfl (zfa dm) ?_;refine .y 22 rfl hs af ?_;refine .z 23 rfl y7 ?_;refine .z 24 rfl zpT ?_;refine .z 25 rfl zpF ?_;refine .D hs ?_
         refine (.bT rfl (fun hc63=>?_) (fun hc63=>?_))
         ·refine .ai (.z zg (.nil ?_))
          refine .ret (rB (rT (rB (rT (Fin.bw eG rfl ?_)))))
          exact ⟨_,rfl,.inr ⟨fun h=>by have:=(h.table k hk).rise ak;omega,rfl⟩,hs.out⟩
         ·refine .skip ?_
          refine nB (nT ?_)
          first
          |exact .mk ⟨rfl,fun j hj=>by
            by_cases e:j=k
            ·subst e;exact ⟨by simp_all,by simp_all,fun _=>by omega⟩
            ·exact hno j ak,hs.tail⟩
        ·refine .qF (i:=14) rfl aq rfl rfl ?_
         refine .qF (i:=15) rfl aq rfl rfl ?_
         refine .qF (i:=16) rfl aq rfl rfl ?_
         refine .qF (i:=17) rfl aq rfl rfl ?_
         refine .qF (i:=18) rfl aq rfl rfl ?_
         refine .qF (i:=19) rfl aq rfl rfl ?_
         refine .qF (i:=20) rfl aq rfl rfl ?_
         refine .qF (i:=21) rfl aq rfl rfl ?_
         refine .qF (i:=22) rfl aq rfl rfl ?_
         refine .qF (i:=23) rfl aq rfl rfl ?_
         refine .z 24 rfl zpF ?_;refine .z 25 rfl zpF ?_;refine .D hs ?_
         refine (.cF ?_)
         refine .skip ?_
         refine nB (nT ?_)
         first
         |exact .mk ⟨rfl,fun j hj=>by
           by_cases e:j=k
           ·subst e;exact ⟨by simp_all,by simp_all,fun _=>by omega⟩
           ·exact hno j ak,hs.tail⟩
     ·rintro fr w ⟨rfl,htb,hs⟩
      refine nT ?_
      refine .seq (.ai (.z (zfa gO) (.y hs (zld Tryz.isAgg23) (.z (cZ fo) (.z zm (.nil ?_))))))
      refine .for (N:=l.seasons.length) (J:=fun k fr w=>fr=[(66,.slice as_ l.seasons.length cs),(1,.pointer (some ⟨b1,0,none⟩))]∧(∀j<k,∀y,l.seasons[j]? =some y→Bu y)∧St H w (.blk b1 [I l.length,I l.depth,.slice at_ l.table.length ct,.slice as_ l.seasons.length cs]::σ)) ak ?_ ?_ ?_
      ·exact .mk ⟨rfl,fun j hj=>by omega,hs⟩
      ·rintro k fr w hk ⟨rfl,hno,hs⟩
       obtain ⟨s,hx⟩:=nth hk
       refine .block (.ai ?_)
       refine .ixX (enc:=Ssn.c) hs h2 rfl rfl fo iS hx dn ?_;intro b70 o70 hc70
       refine .q hs (bK (vs:=(Ssn.c s)) rfl Tryz.isAgg104 iS hc70) ?_
       refine .o (.alloc hs xo rfl fun b6 w hs=>?_)
       refine .o (.aI (vs:=s.c) hs rfl rfl iS fun w hs=>?_)
       change St _ _ (.blk b6 [I s.zone,I s.fr,I s.to,I s.extra]::_) at hs
       refine .nil (.ai (.z (zfa nb) (.y hs (zld af) ?_)))
       refine .o (.call Tryz.call73 rfl (jt hs) ?_);rintro _ w ⟨rfl,hs⟩
       refine .z gy (.z zm ?_)
       refine .bif (t':=76) rfl (fun hb76=>?_) (fun hb76=>?_)
       ·refine .gFs 4 4 false rfl rfl rfl ?_
        refine .z zpT (.z zm ?_)
        refine .gFs 4 10 false rfl rfl rfl ?_
        refine .z zpT (.z zm ?_)
        refine .gFs 4 16 false rfl rfl rfl ?_
        refine .z zpT (.nil ?_)
        refine (.cT ?_)
        refine .ai (.z zg (.nil ?_))
        refine .ret (rB (rT (rB (rT (Fin.bw eG rfl ?_)))))
        exact ⟨_,rfl,.inr ⟨fun h=>by have:=(h.seasons s (List.mem_of_getElem? hx)).zone;simp_all,rfl⟩,hs.out⟩
       ·refine .gT rfl rfl ?_
        refine .z (zfa iH) ?_
        refine .gT rfl rfl ?_
        refine .y hs (zld af) ?_
        refine .gT rfl rfl ?_
        refine .o (.call dF rfl (bG hs) ?_);rintro _ w ⟨rfl,hs⟩
        refine .gT rfl rfl ?_
        refine .z gy (.z zpF (.z zm ?_))
        refine .bif (t':=82) rfl (fun hb82=>?_) (fun hb82=>?_)
        ·refine .gFs 4 10 false rfl rfl rfl ?_
         refine .z zpT (.z zm ?_)
         refine .gFs 4 16 false rfl rfl rfl ?_
         refine .z zpT (.nil ?_)
         refine (.cT ?_)
         refine .ai (.z zg (.nil ?_))
         refine .ret (rB (rT (rB (rT (Fin.bw eG rfl ?_)))))
         exact ⟨_,rfl,.inr ⟨fun h=>by have:=(h.seasons s (List.mem_of_getElem? hx)).fr;simp_all,rfl⟩,hs.out⟩
        ·refine .gT rfl rfl ?_
         refine .z (zfa iG) ?_
         refine .gT rfl rfl ?_
         refine .y hs (zld af) ?_
         refine .gT rfl rfl ?_
         refine .o (.call dF rfl (bG hs) ?_);rintro _ w ⟨rfl,hs⟩
         refine .gT rfl rfl ?_
         refine .z gy (.z zpF (.z zm ?_))
         refine .bif (t':=88) rfl (fun hb88=>?_) (fun hb88=>?_)
         ·refine .gFs 4 16 false rfl rfl rfl ?_
          refine .z zpT (.nil ?_)
          refine (.cT ?_)
          refine .ai (.z zg (.nil ?_))
          refine .ret (rB (rT (rB (rT (Fin.bw eG rfl ?_)))))
          exact ⟨_,rfl,.inr ⟨fun h=>by have:=(h.seasons s (List.mem_of_getElem? hx)).to;simp_all,rfl⟩,hs.out⟩
         ·refine .gT rfl rfl ?_
          refine .z (zfa na) ?_
          refine .gT rfl rfl ?_
          refine .y hs (zld af) ?_
          refine .gT rfl rfl ?_
          refine .o (.call dF rfl (bG hs) ?_);rintro _ w ⟨rfl,hs⟩
          refine .gT rfl rfl ?_
          refine .z gy (.z zpF (.nil ?_))
          refine (.cond rfl (fun hc93=>?_) (fun hc93=>?_))
          ·refine .ai (.z zg (.nil ?_))
           refine .ret (rB (rT (rB (rT (Fin.bw eG rfl ?_)))))
           exact ⟨_,rfl,.inr ⟨fun h=>by have:=(h.seasons s (List.mem_of_getElem? hx)).extra;simp_all,rfl⟩,hs.out⟩
          ·refine .skip ?_
           refine nB (nT ?_)
           exact .mk ⟨rfl,eK hno hx ⟨by simp_all,by simp_all,by simp_all,by simp_all⟩,hs.tail⟩
      ·rintro fr w ⟨rfl,hno,hs⟩
       refine nT ?_
       refine .ai (.z zg (.nil ?_))
       refine .ret (Fin.bw eG rfl ?_)
       exact ⟨_,rfl,.inl ⟨⟨by simp_all,by simp_all,hl20,ak,htb,fun s hs=>by
        obtain ⟨j,hj⟩:=List.getElem?_of_mem hs
        exact hno j (List.getElem?_eq_some_iff.1 hj).1 s hj⟩,rfl⟩,hs.out⟩
theorem nK{r:List Lg}{vr:Value}(hs:St H w σ)(h1:RLg H vr r):
  Cl Tryz.prog 21 [.agg #[vr]] w fun u w'=>∃e,u=I e∧I3 r e∧St H w' σ:=by
 obtain ⟨ar,cr,rfl⟩:=h1.shape
 refine Cl.o Tryz.func21 Tryz.ntmps21 ag1 ?_
 refine .ai ?_
 refine .bx hs fun b1 w hs=>?_
 refine .z zg (.nil (.seq (.ai (.z (zfa de) (.y hs (zld fj) (.z (cZ bn) ?_))))))
 refine .o (.call dF rfl (bG hs) ?_);rintro _ w ⟨rfl,hs⟩
 refine .z gy (.nil ?_)
 refine (.cond rfl (fun hc9=>?_) (fun hc9=>?_))
 ·refine .ai (.z zg (.nil ?_))
  refine .ret (rT (Fin.bw Tryz.results21 rfl ?_))
  exact ⟨_,rfl,.inr ⟨fun h=>by have:=h.many;simp_all;omega,rfl⟩,hs.out⟩
 ·refine .skip ?_
  refine nT ?_
  refine .seq (.ai ?_)
  have hl20:1≤r.length∧r.length≤12:=by first|omega|(simp at hc9;omega)
  refine .z (zfa de) (.y hs (zld fj) (.z (cZ bn) (.z zm (.nil ?_))))
  refine .for (N:=r.length) (J:=fun k fr w=>fr=[(11,.slice ar r.length cr),(1,.pointer (some ⟨b1,0,none⟩))]∧(∀j<k,AR (lg0 r j)∧(0<j→(lg0 r (j - 1)).to≤(lg0 r j).fr))∧St H w (.blk b1 [.slice ar r.length cr]::σ)) ak ?_ ?_ ?_
  ·exact .mk ⟨rfl,fun j hj=>by omega,hs⟩
  ·rintro k fr w hk ⟨rfl,hno,hs⟩
   have hx:=o9 (l:=r) hk
   have hx1:=o9 (l:=r) (i:=k - 1) ak
   refine .block (.ai (.z zm ?_))
   refine .ixX (enc:=Lg.c) hs h1 rfl rfl bn aZ hx dn ?_;intro b16 o16 hc16
   refine .q hs (bK (vs:=(Lg.c (lg0 r k))) rfl fQ aZ hc16) ?_
   refine .o (.alloc hs cB rfl fun b4 w hs=>?_)
   refine .z zg ?_
   refine .o (.aI (vs:=(lg0 r k).c) hs rfl rfl aZ fun w hs=>?_)
   change St _ _ (.blk b4 [I (lg0 r k).zone,I (lg0 r k).fr,I (lg0 r k).to,I (lg0 r k).dlo,I (lg0 r k).dhi,I (lg0 r k).blo,I (lg0 r k).bhi]::_) at hs
   refine .nil ?_
   refine .seq (.draw mix rfl hs fun w hs=>?_)
   refine .ys 0 rfl hs [_,_,_,_,_,_,_] fQ aZ ?_
   refine .E 1 hs ?_
   refine .call Tryz.call75 rfl (tB (x:=lg0 r k) hs) ?_;rintro _ w ⟨b19,rfl,hb19,hs⟩
   refine .go ?_
   refine .z 2 rfl gy ?_;refine .z 3 rfl zm ?_
   refine .bif (t':=21) rfl (fun hb21=>?_) (fun hb21=>?_)
   ·refine .qF (i:=4) rfl aq rfl rfl ?_
    refine .qF (i:=5) rfl aq rfl rfl ?_
    refine .qF (i:=6) rfl aq rfl rfl ?_
    refine .qF (i:=7) rfl aq rfl rfl ?_
    refine .qF (i:=8) rfl aq rfl rfl ?_
    refine .qF (i:=9) rfl aq rfl rfl ?_
    refine .qF (i:=10) rfl aq rfl rfl ?_
    refine .qF (i:=11) rfl aq rfl rfl ?_
    refine .qF (i:=12) rfl aq rfl rfl ?_
    refine .qF (i:=13) rfl aq rfl rfl ?_
    refine .qF (i:=14) rfl aq rfl rfl ?_
    refine .qF (i:=15) rfl aq rfl rfl ?_
    refine .qF (i:=16) rfl aq rfl rfl ?_
    refine .qF (i:=17) rfl aq rfl rfl ?_
    refine .z 18 rfl zpT ?_;refine .D hs ?_
    refine (.cT ?_)
    refine .ai (.z zg (.nil ?_))
    refine .ret (rB (rT (rB (rT (Fin.bw Tryz.results21 rfl ?_)))))
    exact ⟨_,rfl,.inr ⟨fun h=>by have:=hb19.2 (h.leg k hk).1;simp_all,rfl⟩,hs.out⟩
   ·refine .z 4 rfl zm ?_;refine .z 5 rfl qH ?_;refine .z 6 rfl zm ?_
    refine .jM (t':=24) rfl (fun hb24=>?_) (fun hb24=>?_)
    ·refine .z 7 rfl (zfa ji) ?_;refine .y 8 rfl hs af ?_;refine .z 9 rfl (zfa de) ?_;refine .y 10 rfl hs fj ?_;refine .z 11 rfl zm ?_;refine .z 12 rfl gZ ?_
     refine .ixX (enc:=Lg.c) (i:=13) hs rfl aq (.some rfl rfl) h1 rfl rfl bn aZ hx1 ak ?_;intro b31 o31 hc31
     refine .z 14 rfl (zfa iz) ?_
     refine .r (i:=15) hs rfl aq (.some rfl rfl) (aR rfl af (hc31.get 2 rfl)) ?_
     refine .z 16 rfl iM ?_;refine .z 17 rfl zpT ?_;refine .z 18 rfl zpF ?_;refine .D hs ?_
     refine (.bT rfl (fun hc36=>?_) (fun hc36=>?_))
     ·refine .ai (.z zg (.nil ?_))
      refine .ret (rB (rT (rB (rT (Fin.bw Tryz.results21 rfl ?_)))))
      exact ⟨_,rfl,.inr ⟨fun h=>by have:=(h.leg k hk).2 ak;omega,rfl⟩,hs.out⟩
     ·refine .skip ?_
      refine nB (nT ?_)
      first
      |exact .mk ⟨rfl,fun j hj=>by
        by_cases e:j=k
        ·subst e;exact ⟨hb19.1 (by simp_all),fun _=>by omega⟩
        ·exact hno j ak,hs.tail⟩
    ·refine .qF (i:=7) rfl aq rfl rfl ?_
     refine .qF (i:=8) rfl aq rfl rfl ?_
     refine .qF (i:=9) rfl aq rfl rfl ?_
     refine .qF (i:=10) rfl aq rfl rfl ?_
     refine .qF (i:=11) rfl aq rfl rfl ?_
     refine .qF (i:=12) rfl aq rfl rfl ?_
     refine .qF (i:=13) rfl aq rfl rfl ?_
     refine .qF (i:=14) rfl aq rfl rfl ?_
     refine .qF (i:=15) rfl aq rfl rfl ?_
     refine .qF (i:=16) rfl aq rfl rfl ?_
     refine .z 17 rfl zpF ?_;refine .z 18 rfl zpF ?_;refine .D hs ?_
     refine (.cF ?_)
     refine .skip ?_
     refine nB (nT ?_)
     first
     |exact .mk ⟨rfl,fun j hj=>by
       by_cases e:j=k
       ·subst e;exact ⟨hb19.1 (by simp_all),fun _=>by omega⟩
       ·exact hno j ak,hs.tail⟩
  ·rintro fr w ⟨rfl,hno,hs⟩
   refine nT ?_
   refine .ai (.z zg (.nil ?_))
   refine .ret (Fin.bw Tryz.results21 rfl ?_)
   exact ⟨_,rfl,.inl ⟨⟨hl20,hno⟩,rfl⟩,hs.out⟩
theorem HU{P:Program}{H:bB}{σ:List Ent}{s:FS}{t ty':TypeId}{x y:Operand}{p:Int}(hx:FS.ev s x=some (.int .u64 p))(hy:FS.ev s y=some (.int .u64 1)):QJ P H σ s (.binOp .shr t x y ty') (.int .u64 (p/2)):=by
 have h1:=zp (P:=P) (H:=H) (σ:=σ) (t:=t) (ty':=ty') hx hy ak
 have h2:p.fdiv (2 ^min (1:Int).toNat IntKind.u64.bits)=p/2:=by
  have:(2:Int) ^min (1:Int).toNat IntKind.u64.bits=2:=by decide
  rw [this,Int.fdiv_eq_ediv_of_nonneg _ ak]
 rw [h2] at h1
 exact h1
theorem lR{n g:Nat}{cap:List Value}{p:Nat→Prop}(hs:St H w σ)(hn:n≤1000000)(hc:∀args w,(callFunc g args).run Tryz.prog w= .ok (.enter g args) w)
  (hp:∀w i,i<n→St H w σ→Cl Tryz.prog g ([I (i:Int)]++cap) w fun u w'=>∃b,u= .bool b∧(b=true↔p i)∧St H w' σ):
  Cl Tryz.prog 157 [I (n:Int),.func (.func g) #[] cap.toArray] w fun u w'=>∃k:Nat,u=I (k:Int)∧k≤n∧(0<k→¬p (k - 1))∧(k<n→p k)∧St H w' σ:=by
 refine Cl.o Tryz.func157 Tryz.ntmps157 ag2 ?_
 refine .ai (.z zg (.nil (.ai (.z zm (.z zg (.z zg (.nil (.seq (.block ?_)))))))))
 refine .loop (fun q:Nat×Nat=>⟨26,[],[(6,I (q.2:Int)),(5,I (q.1:Int)),(1,.func (.func g) #[] cap.toArray)]⟩)
  (fun q w=>(q.1≤q.2∧q.2≤n)∧(0<q.1→¬p (q.1 - 1))∧(q.2<n→p q.2)∧St H w σ) (fun q=>q.2 - q.1) (0,n) bD
  ⟨⟨Nat.zero_le _,Nat.le_refl _⟩,fun h=>by omega,fun h=>by omega,hs⟩ ?_
 rintro ⟨i,j⟩ w ⟨⟨hij,hjn⟩,hlo,hhi,hs⟩
 dsimp only at hij hjn hlo hhi ⊢
 refine .seq (.ai (.z zm (.z zm (.z iM (.nil ?_)))))
 refine (.bT rfl (fun hc11=>?_) (fun hc11=>?_))
 ·refine .skip ?_
  refine nT ?_
  refine .block (.ai (.z zm (.z zm (.z cf ?_))))
  refine .q hs (wq rfl aS cW ⟨ak,ak⟩) ?_
  refine .q hs (HU rfl rfl) ?_
  rw [show ((i:Int)+(j:Int))/2=(((i+j)/2:Nat):Int) by omega]
  refine .q hs (wu rfl cW aS ⟨ak,ak⟩) ?_
  refine .z zg (.nil (.ai (.z zm (.z zm ?_))))
  refine .o (.nO (first:=[]) rfl rfl hc (hp _ ((i+j)/2) ak hs) ?_);rintro _ w ⟨b20,rfl,hb20,hs⟩
  refine .z gy (.nil ?_)
  refine (.cond rfl (fun hc21=>?_) (fun hc21=>?_))
  ·refine .region (.z zm (.z cf (.z zg (.nil ?_))))
   refine nB (nT ?_)
   exact ⟨((i+j)/2+1,j),.dA rfl bV bD,⟨⟨by dsimp only;omega,hjn⟩,fun _ h=>(by rw [hb20.2 (by simpa using h)] at hc21;cases hc21),hhi,hs⟩,by dsimp only;omega⟩
  ·refine .region (.z zm (.z zg (.nil ?_)))
   refine nB (nT ?_)
   exact ⟨(i,(i+j)/2),.dA rfl bV bD,⟨⟨by dsimp only;omega,by dsimp only;omega⟩,hlo,fun _=>hb20.1 (by simpa using hc21),hs⟩,by dsimp only;omega⟩
 ·refine .exit ?_
  refine xT (xT (xB (nT ?_)))
  refine .ai (.z zm (.z zg (.nil ?_)))
  refine .ret (Fin.bw Tryz.results157 rfl ?_)
  obtain rfl:i=j:=by omega
  exact ⟨i,rfl,hjn,hlo,hhi,hs⟩
theorem mK{l:Lns}{vt vs:Value}{b i:Nat}(hs:St H w (.blk b [I l.length,I l.depth,vt,vs]::σ))(h1:RFb H vt l.table)(hi:i<l.table.length):
  Cl Tryz.prog 158 [I (i:Int),.pointer (some ⟨b,0,none⟩)] w fun u w'=>∃bb:Bool,u= .bool bb∧(bb=true↔l.length≤(fb0 l.table i).len)∧St H w' (.blk b [I l.length,I l.depth,vt,vs]::σ):=by
 obtain ⟨at_,ct,rfl⟩:=h1.shape
 refine Cl.o Tryz.func158 Tryz.ntmps158 ag2 ?_
 refine .ai (.z zg (.nil ?_))
 refine .seq (.draw mix rfl hs fun w hs=>?_)
 refine .z 0 rfl (zfa dt) ?_;refine .y 1 rfl hs jq ?_;refine .z 2 rfl zm ?_
 refine .ixX (enc:=Fbd.c) (i:=3) hs rfl aq .none h1 rfl rfl cq cQ (tN hi) dn ?_;intro b7 o7 hc7
 refine .z 4 rfl (zfa dm) ?_
 refine .r (i:=5) hs rfl aq .none (aR rfl af (hc7.get 0 rfl)) ?_
 refine .z 6 rfl (zfa iZ) ?_;refine .y 7 rfl hs af ?_;refine .z 8 rfl y7 ?_;refine .z 9 rfl zg ?_;refine .D hs ?_
 refine .ret (Fin.bw Tryz.results158 rfl ?_)
 exact ⟨_,rfl,bV,hs⟩
theorem oe{a d:Int}(hs:St H w σ)(hd:1≤d)(ha: -4608000000000000000≤a∧a≤4608000000000000000):
  Cl Tryz.prog 140 [I a,I d] w fun v w'=>v=I (a/d)∧St H w' σ:=by
 have hq:=Jd hd ha
 have hfl:=sR (n:=a) (d:=d) ak
 refine Cl.o Tryz.func140 Tryz.ntmps140 ag2 ?_
 refine .ai (.z zg (.nil (.ai (.z zm (.z zm ?_)))))
 refine .q hs (xP rfl rfl ak ⟨ak,ak⟩) ?_
 refine .z zg (.nil (.seq (.ai (.z zm (.z zm (.z AU (.z iM (.nil ?_))))))))
 refine (.bT rfl (fun hc12=>?_) (fun hc12=>?_))
 ·refine .region (.z zm (.z gZ (.z zg (.nil ?_))))
  refine nT ?_
  refine .ai (.z zm (.z zg (.nil ?_)))
  refine .ret (Fin.bw Tryz.results140 rfl ?_)
  rw [if_pos hc12] at hfl
  exact ⟨by rw [hfl],hs⟩
 ·refine .skip ?_
  refine nT ?_
  refine .ai (.z zm (.z zg (.nil ?_)))
  refine .ret (Fin.bw Tryz.results140 rfl ?_)
  rw [if_neg hc12,Int.sub_zero] at hfl
  exact ⟨by rw [hfl],hs⟩
theorem ie{l:Lns}{vt vs:Value}(hs:St H w σ)(h1:RFb H vt l.table)(hl:gL l):
  Cl Tryz.prog 102 [.agg #[I l.length,I l.depth,vt,vs]] w fun u w'=>∃n b,u= .tuple #[I n,.bool b]∧uJ l n b∧St H w' σ:=by
 obtain ⟨at_,ct,rfl⟩:=h1.shape
 have hm:=hl.many
 have hr:=fun {j i:Nat}=>wQ hl.table (j:=j) (i:=i)
 refine Cl.o Tryz.func102 Tryz.ntmps102 ag1 ?_
 refine .ai ?_
 refine .bx hs fun b1 w hs=>?_
 refine .z zg (.z zg (.nil (.ai (.z (zfa dt) (.y hs (zld jq) (.z (cZ cq) ?_))))))
 refine .q hs (cJ (f:=[]) (c:=[_]) rfl rfl) ?_
 refine .o (.call Tryz.call157 rfl (lR (cap:=[.pointer (some ⟨b1,0,none⟩)]) (p:=fun i=>l.length≤(fb0 l.table i).len) hs ak Tryz.call158 (fun w i hi hs=>mK hs h1 hi)) ?_);rintro _ w ⟨k,rfl,hk,hlo,hhi,hs⟩
 have hbig:∀i<l.table.length,k≤i→l.length≤(fb0 l.table i).len:=fun i hi hki=>by
  by_cases e:i=k
  ·subst e;exact hhi hi
  ·have:=hr (show k<i by omega) hi
   have:=hhi ak
   omega
 have hsml:∀i<k,(fb0 l.table i).len<l.length:=fun i hi=>by
  by_cases e:i=k - 1
  ·subst e;have:=hlo ak;omega
  ·have:=hr (show i<k - 1 by omega) ak
   have:=hlo ak
   omega
 refine .z zg (.nil (.seq (.block (.ai (.z zm (.z (zfa dt) (.y hs (zld jq) (.z (cZ cq) (.z jU ?_)))))))))
 refine .z zg (.nil ?_)
 refine (.bT rfl (fun hc12=>?_) (fun hc12=>?_))
 ·refine .ai (.z zg (.z zg (.nil ?_)))
  refine .ret (rB (rT (Fin.kn Tryz.results102 rfl rfl ?_)))
  exact ⟨_,_,rfl,.none (fun i hi h=>by have:=hsml i ak;omega) (fun i hi h0 h=>by have:=hsml i ak;omega),hs.out⟩
 ·refine .seq (.draw mix rfl hs fun w hs=>?_)
  refine .z 0 rfl (zfa dt) ?_;refine .y 1 rfl hs jq ?_;refine .z 2 rfl zm ?_
  have hk':k<l.table.length:=by omega
  have hx:=tN hk'
  have hx1:=tN (l:=l.table) (i:=k - 1) ak
  refine .ixX (enc:=Fbd.c) (i:=3) hs rfl aq .none h1 rfl rfl cq cQ hx rfl ?_;intro b22 o22 hc22
  refine .z 4 rfl (zfa dm) ?_
  refine .r (i:=5) hs rfl aq .none (aR rfl af (hc22.get 0 rfl)) ?_
  refine .z 6 rfl (zfa iZ) ?_;refine .y 7 rfl hs af ?_;refine .z 8 rfl jU ?_;refine .z 9 rfl zg ?_;refine .D hs ?_
  refine (.bT rfl (fun hc18=>?_) (fun hc18=>?_))
  ·refine .ai (.z (zfa dt) (.y hs (zld jq) (.z zm ?_)))
   refine .ixX (enc:=Fbd.c) hs h1 rfl rfl cq cQ hx rfl ?_;intro b31 o31 hc31
   refine .z (zfa eO) ?_
   refine .q hs (aR rfl af (hc31.get 1 rfl)) ?_
   refine .z zg (.z zg (.nil ?_))
   refine .ret (rB (rT (Fin.kn Tryz.results102 rfl rfl ?_)))
   exact ⟨_,_,rfl,.at_ hk' hc18,hs.out⟩
  ·refine .ai (.z zm (.z jU (.z zg (.nil ?_))))
   refine (.bT rfl (fun hc34=>?_) (fun hc34=>?_))
   ·refine .ai (.z zg (.z zg (.nil ?_)))
    refine .ret (rB (rT (Fin.kn Tryz.results102 rfl rfl ?_)))
    obtain rfl:k=0:=by omega
    exact ⟨_,_,rfl,.none (fun i hi h=>by
     by_cases e:i=0
     ·subst e;exact hc18 h
     ·have:=hr (show 0<i by omega) hi;have:=hbig 0 hk' ak;omega) (fun i hi h0 h=>by have:=hbig (i - 1) ak ak;omega),hs.out⟩
   ·refine .skip ?_
    refine nB (nT ?_)
    refine .cut (fun fs w=>∃b5 b6,kQ fs ⟨69,[],[(6,.pointer (some ⟨b6,0,none⟩)),(5,.pointer (some ⟨b5,0,none⟩)),(1,.pointer (some ⟨b1,0,none⟩))]⟩∧St H w (.blk b6 (fb0 l.table k).c:: .blk b5 (fb0 l.table (k - 1)).c:: .blk b1 [I l.length,I l.depth,.slice at_ l.table.length ct,vs]::σ)) ?_ ?_
    ·refine .draw mix rfl hs fun w hs=>?_
     refine .z 0 rfl (zfa dt) ?_;refine .y 1 rfl hs jq ?_;refine .z 2 rfl zm ?_;refine .z 3 rfl gZ ?_
     refine .ixX (enc:=Fbd.c) (i:=4) hs rfl aq .none h1 rfl rfl cq cQ hx1 ak ?_;intro b41 o41 hc41
     refine .r (i:=5) hs rfl aq .none (bK (vs:=(fb0 l.table (k - 1)).c) rfl Tryz.isAgg134 cQ hc41) ?_
     refine .z 6 rfl (zfa dt) ?_;refine .y 7 rfl hs jq ?_;refine .z 8 rfl zm ?_
     refine .ixX (enc:=Fbd.c) (i:=9) hs rfl aq .none h1 rfl rfl cq cQ hx rfl ?_;intro b46 o46 hc46
     refine .r (i:=10) hs rfl aq .none (bK (vs:=(fb0 l.table k).c) rfl Tryz.isAgg134 cQ hc46) ?_
     refine .e2 (i:=11) (j:=12) aq rfl rfl rfl rfl .none .none hs ?_ ?_
     ·refine .alloc hs ij rfl ?_;intro b5 w hs
      refine .go ?_
      refine .E 12 hs ?_
      refine .alloc hs ij rfl ?_;intro b6 w hs
      refine .go ?_
      refine .E 13 hs ?_
      refine .aI (vs:=(fb0 l.table (k - 1)).c) hs rfl rfl cQ ?_;intro w hs
      refine .go ?_
      refine .E 14 hs ?_
      refine .aI (vs:=(fb0 l.table k).c) hs rfl rfl cQ ?_;intro w hs
      refine .go ?_
      refine .D hs ?_
      exact nT ⟨b5,b6,bD,hs.sb⟩
     ·refine .alloc hs ij rfl ?_;intro b6 w hs
      refine .go ?_
      refine .E 11 hs ?_
      refine .alloc hs ij rfl ?_;intro b5 w hs
      refine .go ?_
      refine .E 13 hs ?_
      refine .aI (vs:=(fb0 l.table (k - 1)).c) hs rfl rfl cQ ?_;intro w hs
      refine .go ?_
      refine .E 14 hs ?_
      refine .aI (vs:=(fb0 l.table k).c) hs rfl rfl cQ ?_;intro w hs
      refine .go ?_
      refine .D hs ?_
      exact nT ⟨b5,b6,bD,hs.sb⟩
    ·rintro fs w ⟨b5,b6,hfs,hs⟩
     refine WE.sub ?_ hfs
     clear hfs
     change St _ _ (.blk b6 [I (fb0 l.table k).len,I (fb0 l.table k).least]:: .blk b5 [I (fb0 l.table (k - 1)).len,I (fb0 l.table (k - 1)).least]::_) at hs
     have h3:=hsml (k - 1) ak
     have h4:l.length<(fb0 l.table k).len:=by have:=hbig k hk' (Nat.le_refl _);omega
     have hX:=CW hl hk' h3 h4
     have a1:=hl.table (k - 1) ak
     have a2:=a1.len
     have a3:=a1.least
     have b2:=(hl.table k hk').len
     have b3:=(hl.table k hk').least
     have hL:=hl.length
     refine .seq (.draw mix rfl hs fun w hs=>?_)
     refine .z 0 rfl (zfa eO) ?_;refine .y 1 rfl hs af ?_;refine .z 2 rfl (zfa eO) ?_;refine .y 3 rfl hs af ?_;refine .z 4 rfl gZ ?_;refine .z 5 rfl (zfa iZ) ?_;refine .y 6 rfl hs af ?_;refine .z 7 rfl (zfa dm) ?_;refine .y 8 rfl hs af ?_;refine .z 9 rfl gZ ?_
     refine .z 10 rfl kS ?_;refine .z 11 rfl (zfa dm) ?_;refine .y 12 rfl hs af ?_;refine .z 13 rfl (zfa dm) ?_;refine .y 14 rfl hs af ?_;refine .z 15 rfl gZ ?_;refine .z 18 rfl (zfa eO) ?_;refine .y 19 rfl hs af ?_
     refine .E 16 hs ?_
     refine .call Tryz.call140 rfl (oe hs ak ak) ?_;rintro _ w ⟨rfl,hs⟩
     refine .go ?_
     refine .z 17 rfl DS ?_;refine .z 20 rfl cf ?_;refine .z 21 rfl zg ?_;refine .z 22 rfl zg ?_;refine .D hs ?_
     refine .ret (Fin.kn Tryz.results102 rfl rfl ?_)
     have hmid:=uJ.mid hk' ak h3 h4
     unfold Az at hmid
     exact ⟨_,_,rfl,(by rw [show ∀a b:Int,-a+b=b - a from fun a b=>by omega];exact hmid),hs.out⟩
theorem oY{l:Lns}{vt vs:Value}(hs:St H w σ)(h1:RFb H vt l.table)(h2:RSn H vs l.seasons):
  Cl Tryz.prog 37 [.agg #[I l.length,I l.depth,vt,vs]] w fun u w'=>∃n e,u= .tuple #[I n,I e]∧yM l n e∧St H w' σ:=by
 refine Cl.o Tryz.func37 Tryz.ntmps37 ag1 ?_
 refine .ai ?_
 refine .bx hs fun b1 w hs=>?_
 refine .z zg (.z zg (.nil (.seq (.ai (.y hs (zls [_,_,_,_] bE aO) ?_)))))
 refine .o (.call Tryz.call19 rfl (gH hs h1 h2) ?_);rintro _ w ⟨e,rfl,he,hs⟩
 refine .z zg (.nil (.ai (.z zm (.z gE (.nil ?_)))))
 refine (.ep rfl (fun hc10=>?_) (fun hc10=>?_))
 ·refine .ai (.z zm (.z zg (.z zg (.nil ?_))))
  refine .ret (rT (Fin.kn Tryz.results37 rfl rfl ?_))
  have h:=he.resolve_left fun h=>hc10 h.2
  exact ⟨_,_,rfl,by rw [h.2];exact .lines h.1,hs.out⟩
 ·refine .skip ?_
  refine nT ?_
  refine .ai (.y hs (zls [_,_,_,_] bE aO) ?_)
  have hok:gL l:=(he.resolve_right fun h=>by omega).1
  refine .o (.call Tryz.call102 rfl (ie hs h1 hok) ?_);rintro _ w ⟨n,b,rfl,hF,hs⟩
  refine .z zm (.z zex (.z zex (.z zg (.z zg (.nil (.seq (.ai (.z zm (.z gy ?_)))))))))
  refine .nil ?_
  refine (.cond rfl (fun hc18=>?_) (fun hc18=>?_))
  ·refine .ai (.z zg (.z zg (.nil ?_)))
   refine .ret (rT (Fin.kn Tryz.results37 rfl rfl ?_))
   obtain rfl:b=false:=by simpa using hc18
   exact ⟨_,_,rfl,.none hok hF,hs.out⟩
  ·refine .skip ?_
   refine nT ?_
   refine .ai (.z zm (.z zg (.z zg (.nil ?_))))
   refine .ret (Fin.kn Tryz.results37 rfl rfl ?_)
   obtain rfl:b=true:=by simpa using hc18
   exact ⟨_,_,rfl,.ok hok hF,hs.out⟩
theorem mM{d:Int}(hs:St H w σ)(h:0≤d):Cl Tryz.prog 106 [I d] w fun v w'=>v=I (1+d%365)∧St H w' σ:=by
 have e:d.tmod 365=d%365:=Int.tmod_eq_emod_of_nonneg h
 refine Cl.o Tryz.func106 Tryz.ntmps106 ag1 ?_
 refine .ai (.z zg (.nil (.ai (.z zm (.z AU ?_)))))
 rw [e]
 refine .z cf (.z zg (.nil ?_))
 refine .ret (Fin.bw Tryz.results106 rfl ?_)
 exact ⟨rfl,hs⟩
theorem uB{s:Ssn}{d:Int}(hs:St H w σ):Cl Tryz.prog 159 [.agg #[I s.zone,I s.fr,I s.to,I s.extra],I d] w fun v w'=>v= .bool (decide (yJ s d))∧St H w' σ:=by
 refine Cl.o Tryz.func159 Tryz.ntmps159 ag2 ?_
 refine .ai ?_
 refine .bx hs fun b2 w hs=>?_
 refine .z zg (.nil (.seq (.ai (.z (zfa iH) (.y hs (zld af) (.z (zfa iG) (.y hs (zld af) (.z qH (.nil ?_)))))))))
 refine (.bT rfl (fun hc9=>?_) (fun hc9=>?_))
 ·refine .ai (.z zm (.z (zfa iH) (.y hs (zld af) (.z y7 (.z zm ?_)))))
  refine .jM (t':=14) rfl (fun hb14=>?_) (fun hb14=>?_)
  ·refine .gFs 4 4 false rfl rfl rfl ?_
   refine .z zpT (.z zg (.nil ?_))
   refine .ret (rT (Fin.bw Tryz.results159 rfl ?_))
   refine ⟨?_,hs.out⟩
   congr 1
   have e:¬s.fr≤s.to:=by omega
   simp only [yJ,if_neg e]
   symm
   simp [*]
  ·refine .gT rfl rfl ?_
   refine .z zm ?_
   refine .gT rfl rfl ?_
   refine .z (zfa iG) ?_
   refine .gT rfl rfl ?_
   refine .y hs (zld af) ?_
   refine .gT rfl rfl ?_
   refine .z um (.z zpF (.z zg (.nil ?_)))
   refine .ret (rT (Fin.bw Tryz.results159 rfl ?_))
   refine ⟨?_,hs.out⟩
   congr 1
   have e:¬s.fr≤s.to:=by omega
   simp only [yJ,if_neg e]
   simp [*]
 ·refine .skip ?_
  refine nT ?_
  refine .ai (.z zm (.z (zfa iH) (.y hs (zld af) (.z (zfa iG) (.y hs (zld af) ?_)))))
  refine .o (.call dF rfl (bG hs) ?_);rintro _ w ⟨rfl,hs⟩
  refine .z zg (.nil ?_)
  refine .ret (Fin.bw Tryz.results159 rfl ?_)
  refine ⟨?_,hs.out⟩
  congr 1
  have e:s.fr≤s.to:=by omega
  simp only [yJ,if_pos e]
theorem mL{l:Lns}{vt vs:Value}{z d:Int}(hs:St H w σ)(h2:RSn H vs l.seasons)(hl:gL l):
  Cl Tryz.prog 105 [.agg #[I l.length,I l.depth,vt,vs],I z,I d] w fun v w'=>v=I (jG l.seasons z d)∧St H w' σ:=by
 obtain ⟨as_,cs,rfl⟩:=h2.shape
 have hm:=hl.most
 refine Cl.o Tryz.func105 Tryz.ntmps105 ag3 ?_
 refine .ai ?_
 refine .bx hs fun b3 w hs=>?_
 refine .z zg (.nil (.ai (.z zg (.nil (.seq (.ai (.z (zfa gO) (.y hs (zld Tryz.isAgg23) (.z (cZ fo) ?_)))))))))
 refine .z zm (.nil ?_)
 refine .for (N:=l.seasons.length) (J:=fun k fr w=>fr=[(7,I (jG (l.seasons.take k) z d)),(11,.slice as_ l.seasons.length cs),(1,I z),(2,I d)]∧St H w σ) ak ?_ ?_ ?_
 ·exact .mk ⟨rfl,hs.out⟩
 ·rintro k fr w hk ⟨rfl,hs⟩
  obtain ⟨s,hx⟩:=nth hk
  have hE:=tO (l.seasons.take k) s z d
  rw [←cC hx] at hE
  refine .block (.ai ?_)
  refine .ixX (enc:=Ssn.c) hs h2 rfl rfl fo iS hx dn ?_;intro b15 o15 hc15
  refine .q hs (bK (vs:=(Ssn.c s)) rfl Tryz.isAgg104 iS hc15) ?_
  refine .o (.alloc hs xo rfl fun b9 w hs=>?_)
  refine .o (.aI (vs:=s.c) hs rfl rfl iS fun w hs=>?_)
  change St _ _ (.blk b9 [I s.zone,I s.fr,I s.to,I s.extra]::_) at hs
  refine .nil (.ai (.z (zfa nb) (.y hs (zld af) (.z zm (.z jU (.z zm ?_))))))
  refine .jM (t':=21) rfl (fun hb21=>?_) (fun hb21=>?_)
  ·refine .gT rfl rfl ?_
   refine .y hs (zls [_,_,_,_] Tryz.isAgg104 iS) ?_
   refine .gT rfl rfl ?_
   refine .z zm ?_
   refine .gT rfl rfl ?_
   refine .o (.call Tryz.call159 rfl (uB (s:=s) hs) ?_);rintro _ w ⟨rfl,hs⟩
   refine .z zpT (.nil ?_)
   refine (.cond rfl (fun hc25=>?_) (fun hc25=>?_))
   ·refine .region (.z zm (.z (zfa na) (.y hs (zld af) (.z DP (.z zg (.nil ?_))))))
    refine nB (nT ?_)
    rw [if_pos ⟨by assumption,by simpa using hc25⟩] at hE
    exact .mk ⟨by rw [hE],hs.out⟩
   ·refine .skip ?_
    refine nB (nT ?_)
    rw [if_neg (fun h=>of_decide_eq_false hc25 h.2)] at hE
    exact .mk ⟨by rw [hE],hs.out⟩
  ·refine .gFs 3 4 true rfl rfl rfl ?_
   refine .z zpF (.nil ?_)
   refine (.cF ?_)
   refine .skip ?_
   refine nB (nT ?_)
   rw [if_neg (fun h=>by have:=h.1;contradiction)] at hE
   exact .mk ⟨by rw [hE],hs.out⟩
 ·rintro fr w ⟨rfl,hs⟩
  rw [List.take_length]
  refine nT ?_
  refine .ai (.z zm (.z zg (.nil ?_)))
  refine .ret (Fin.bw Tryz.results105 rfl ?_)
  exact ⟨rfl,hs⟩
theorem p5{l:Lns}{vt vs:Value}{z d:Int}(hs:St H w σ)(h1:RFb H vt l.table)(h2:RSn H vs l.seasons):
  Cl Tryz.prog 104 [.agg #[I l.length,I l.depth,vt,vs],I z,I d] w fun v w'=>∃e,v=I e∧yY l z d e∧St H w' σ:=by
 refine Cl.o Tryz.func104 Tryz.ntmps104 ag3 ?_
 refine .ai ?_
 refine .bx hs fun b3 w hs=>?_
 refine .z zg (.nil (.seq (.ai (.y hs (zls [_,_,_,_] bE aO) ?_))))
 refine .o (.call Tryz.call19 rfl (gH hs h1 h2) ?_);rintro _ w ⟨e,rfl,he,hs⟩
 refine .z zg (.nil (.ai (.z zm (.z gE (.nil ?_)))))
 refine (.ep rfl (fun hc11=>?_) (fun hc11=>?_))
 ·refine .ai (.z zm (.z zg (.nil ?_)))
  refine .ret (rT (Fin.bw Tryz.results104 rfl ?_))
  have h:=he.resolve_left fun h=>hc11 h.2
  exact ⟨_,rfl,by rw [h.2];exact .lines h.1,hs.out⟩
 ·refine .skip ?_
  refine nT ?_
  refine .seq (.block (.ai ?_))
  have hok:gL l:=(he.resolve_right fun h=>by omega).1
  refine .z zm ?_
  refine .o (.call Tryz.call73 rfl (jt hs) ?_);rintro _ w ⟨rfl,hs⟩
  refine .z gy (.z zg (.nil ?_))
  refine (.cond rfl (fun hc13=>?_) (fun hc13=>?_))
  ·refine .ai (.z zg (.nil ?_))
   refine .ret (rB (rT (Fin.bw Tryz.results104 rfl ?_)))
   exact ⟨_,rfl,.zone hok (by simp at hc13;omega),hs.out⟩
  ·refine .ai (.z zm ?_)
   refine .o (.call dF rfl (bG hs) ?_);rintro _ w ⟨rfl,hs⟩
   refine .z gy (.z zg (.nil ?_))
   refine (.cond rfl (fun hc17=>?_) (fun hc17=>?_))
   ·refine .ai (.z zg (.nil ?_))
    refine .ret (rB (rT (Fin.bw Tryz.results104 rfl ?_)))
    exact ⟨_,rfl,.day hok (by simpa using hc13) (by simp at hc17;omega),hs.out⟩
   ·refine .skip ?_
    refine nB (nT ?_)
    refine .ai (.z zg (.nil ?_))
    refine .ret (Fin.bw Tryz.results104 rfl ?_)
    exact ⟨_,rfl,.ok hok (by simpa using hc13) (by simpa using hc17),hs.out⟩
theorem so{l:Lns}{vt vs:Value}{z d:Int}(hs:St H w σ)(h1:RFb H vt l.table)(h2:RSn H vs l.seasons):
  Cl Tryz.prog 41 [.agg #[I l.length,I l.depth,vt,vs],I z,I d] w fun u w'=>∃n e,u= .tuple #[I n,I e]∧Dz l z d n e∧St H w' σ:=by
 refine Cl.o Tryz.func41 Tryz.ntmps41 ag3 ?_
 refine .ai ?_
 refine .bx hs fun b3 w hs=>?_
 refine .z zg (.z zg (.nil (.seq (.ai (.y hs (zls [_,_,_,_] bE aO) (.z zm (.z zm ?_)))))))
 refine .o (.call Tryz.call104 rfl (p5 hs h1 h2) ?_);rintro _ w ⟨e,rfl,he,hs⟩
 refine .z zg (.nil (.ai (.z zm (.z gE (.nil ?_)))))
 refine (.ep rfl (fun hc16=>?_) (fun hc16=>?_))
 ·refine .ai (.z zm (.z zg (.z zg (.nil ?_))))
  refine .ret (rT (Fin.kn Tryz.results41 rfl rfl ?_))
  exact ⟨_,_,rfl,.bad he hc16,hs.out⟩
 ·refine .skip ?_
  refine nT ?_
  refine .ai (.y hs (zls [_,_,_,_] bE aO) ?_)
  obtain rfl:e=0:=by omega
  obtain ⟨hok,hz,hd⟩:=he.zero
  refine .o (.call Tryz.call102 rfl (ie hs h1 hok) ?_);rintro _ w ⟨n,b,rfl,hF,hs⟩
  refine .z zm (.z zex (.z zex (.z zg (.z zg (.nil (.seq (.ai (.z zm (.z gy ?_)))))))))
  refine .nil ?_
  refine (.cond rfl (fun hc24=>?_) (fun hc24=>?_))
  ·refine .ai (.z zg (.z zg (.nil ?_)))
   refine .ret (rT (Fin.kn Tryz.results41 rfl rfl ?_))
   obtain rfl:b=false:=by simpa using hc24
   exact ⟨_,_,rfl,.none he hF,hs.out⟩
  ·refine .skip ?_
   refine nT ?_
   refine .seq (.draw mix rfl hs fun w hs=>?_)
   obtain rfl:b=true:=by simpa using hc24
   have hn:=hF.bd hok
   have hdp:=hok.depth
   have hE:=yu hok.seasons z (1+d%365)
   refine .z 0 rfl (zfa kK) ?_;refine .y 1 rfl hs af ?_;refine .z 2 rfl zm ?_;refine .z 3 rfl gZ ?_;refine .ys 4 rfl hs [_,_,_,_] bE aO ?_;refine .z 5 rfl zm ?_;refine .z 6 rfl zm ?_
   refine .E 7 hs ?_
   refine .call Tryz.call106 rfl (mM hs hd.1) ?_;rintro _ w ⟨rfl,hs⟩
   refine .go ?_
   refine .E 8 hs ?_
   refine .call Tryz.call105 rfl (mL hs h2 hok) ?_;rintro _ w ⟨rfl,hs⟩
   refine .go ?_
   refine .z 9 rfl gZ ?_;refine .z 10 rfl zg ?_;refine .z 11 rfl zg ?_;refine .D hs ?_
   refine .ret (Fin.kn Tryz.results41 rfl rfl ?_)
   exact ⟨_,_,rfl,.ok he hF,hs.out⟩
theorem q5{s:Spc}{vst vwa:Value}{h:Int}{b c i:Nat}(hs:St H w (.blk c [I h]:: .blk b [I s.id,I s.src,vst,vwa,I s.al,I s.up]::σ))(h2:RI H vwa s.wa)(hi:i<s.wa.length)(hok:dP s):
  Cl Tryz.prog 166 [I (i:Int),.pointer (some ⟨b,0,none⟩),.pointer (some ⟨c,0,none⟩)] w fun u w'=>∃bb:Bool,u= .bool bb∧(bb=true↔h<gi s.wa i - gi s.wa 0)∧St H w' (.blk c [I h]:: .blk b [I s.id,I s.src,vst,vwa,I s.al,I s.up]::σ):=by
 obtain ⟨awa,cwa,rfl⟩:=RI.shape h2
 have b1:=hok.wa.bd hi
 have b2:=hok.wa.bd (i:=0) ak
 refine Cl.o Tryz.func166 Tryz.ntmps166 ag3 ?_
 refine .ai (.z zg (.nil ?_))
 refine .seq (.draw mix rfl hs fun w hs=>?_)
 refine .z 0 rfl (zfa a8) ?_;refine .y 1 rfl hs an ?_;refine .z 2 rfl zm ?_
 refine .ixX (enc:=fun x=>[I x]) (i:=3) hs rfl aq .none h2 rfl rfl ae aj (bF (l:=s.wa) (i:=i) ak) dn ?_;intro b8 o8 hc8;replace hc8:=bO.one hc8
 refine .r (i:=4) hs rfl aq .none (aR rfl af hc8) ?_
 refine .z 5 rfl (zfa a8) ?_;refine .y 6 rfl hs an ?_
 refine .ixX (enc:=fun x=>[I x]) (i:=7) hs rfl aq .none h2 rfl rfl ae aj (bF (l:=s.wa) (i:=0) ak) dn ?_;intro b12 o12 hc12;replace hc12:=bO.one hc12
 refine .r (i:=8) hs rfl aq .none (aR rfl af hc12) ?_
 refine .z 9 rfl gZ ?_;refine .y 10 rfl hs af ?_;refine .z 11 rfl qH ?_;refine .z 12 rfl zg ?_;refine .D hs ?_
 refine .ret (Fin.bw Tryz.results166 rfl ?_)
 exact ⟨_,rfl,bV,hs⟩
theorem tC{s:Spc}{vst vwa:Value}{h:Int}(hs:St H w σ)(h2:RI H vwa s.wa)(hok:dP s):
  Cl Tryz.prog 112 [.agg #[I s.id,I s.src,vst,vwa,I s.al,I s.up],I h] w fun u w'=>∃k,u=I k∧yZ s.wa h k∧St H w' σ:=by
 obtain ⟨awa,cwa,rfl⟩:=RI.shape h2
 have hm:=hok.wa.many
 have hr:=fun {i j:Nat}=>hok.wa.le (i:=i) (j:=j)
 refine Cl.o Tryz.func112 Tryz.ntmps112 ag2 ?_
 refine .ai ?_
 refine .bx hs fun b2 w hs=>?_
 refine .bx hs fun b3 w hs=>?_
 refine .z zg (.nil (.ai (.z (zfa a8) (.y hs (zld an) (.z (cZ ae) ?_)))))
 refine .q hs (cJ (f:=[]) (c:=[_,_]) rfl rfl) ?_
 refine .o (.call Tryz.call157 rfl (lR (cap:=[.pointer (some ⟨b2,0,none⟩),.pointer (some ⟨b3,0,none⟩)]) (p:=fun i=>h<gi s.wa i - gi s.wa 0) hs ak Tryz.call166 (fun w i hi hs=>q5 hs h2 hi hok)) ?_);rintro _ w ⟨k,rfl,hk,hlo,hhi,hs⟩
 refine .z gZ (.z zg (.nil ?_))
 refine .ret (Fin.bw Tryz.results112 rfl ?_)
 refine ⟨_,rfl,⟨ak,ak,fun i hi=>⟨fun g=>?_,fun g=>?_⟩⟩,hs.out⟩
 ·by_cases e:(i:Int)≤k - 1
  ·exact e
  ·have h3:=hhi ak
   have:=hr (show k≤i by omega) hi;omega
 ·have h3:=hlo ak
  have:=hr (show i≤k - 1 by omega) ak;omega
def uE(x:Lg):List (List Value):=(List.range (lH x)).map fun j=>[I (1+(x.fr+(j:Nat))%365)]
theorem nf(x:Lg):(uE x).length=lH x:=by simp [uE]
theorem yz{x:Lg}{j:Nat}(h:j<(uE x).length):(uE x)[j]=[I (1+(x.fr+j)%365)]:=by simp [uE]
theorem sm{H:bB}{b:Nat}{x:Lg}(hb:Row H b [I x.zone,I x.fr,I x.to,I x.dlo,I x.dhi,I x.blo,I x.bhi])(hx:AR x):
  Iter Tryz.prog 218 [.pointer (some ⟨b,0,none⟩)] H (uE x):=by
 intro ly II Ix hmI _ hy H0 σb0 σf w hle hI0 hs
 have g1:cellAt H0 b 1=some (I x.fr):=cellAt.mono (hb.at 1) hle
 have hd:=tP hx
 have hdn:(lH x:Int)=min x.to (x.fr+364) - x.fr+1:=by have:=hx.fr;unfold lH;omega
 have hf:=hx.fr
 have ht:=hx.to
 refine Cl.o Tryz.func218 Tryz.ntmps218 ag2 ?_
 refine .ai (.z (zfa ji) (.y hs (zld af) (.z zg (.nil (.block ?_)))))
 refine .loop (fun j:Nat=>⟨22,[],[(3,I (x.fr+(j:Int))),(0,.func (.yield ly) #[] #[]),(1,.pointer (some ⟨b,0,none⟩))]⟩)
  (fun j w=>j≤lH x∧∃H1 σb,HLe H H1∧HLe H0 H1∧II j H1 σb∧St H1 w (σb++σf)) (fun j=>lH x - j) 0 (.cons (by show some (I _)=some (I _);congr 2;omega) bD)
  ⟨Nat.zero_le _,H0,σb0,hle,HLe.refl _,hI0,hs⟩ ?_
 rintro j w ⟨hj,H1,σb,hle1,hle0,hI,hs⟩
 have h1:cellAt H1 b 1=some (I x.fr):=cellAt.mono (hb.at 1) hle1
 have h2:cellAt H1 b 2=some (I x.to):=cellAt.mono (hb.at 2) hle1
 refine .seq (.ai (.z zm (.z (zfa iz) (.y hs (zld af) (.z (zfa ji) (.y hs (zld af) (.z cf (.z gZ (.z BE ?_)))))))))
 refine .z um (.nil ?_)
 refine (.bT rfl (fun hc14=>?_) (fun hc14=>?_))
 ·refine .skip ?_
  refine nT ?_
  refine .seq (.block (.ai (.z zm (.z zm ?_))))
  refine .o (.call Tryz.call106 rfl (mM hs ak) ?_);rintro _ w ⟨rfl,hs⟩
  have hk':j<(uE x).length:=by rw [nf];omega
  have hyd:=hy j hk' H1 σb σf w hle1 hI hs
  rw [yz hk'] at hyd
  refine .o (.yield rfl rfl hyd ?_);rintro v20 w ⟨H5,σ5,g1,hs,g3'⟩
  obtain ⟨bb,rfl,gT,gF⟩:=mC g3'
  refine .z gy (.nil ?_)
  refine (.cond rfl (fun hc21=>?_) (fun hc21=>?_))
  ·refine .ret (rB (rT (rT (rB (Fin.Hg Tryz.results218 ?_)))))
   exact ⟨H5,σ5,hle0.trans g1,hs,.inr (gF (by simpa using hc21))⟩
  ·refine .skip ?_
   refine nB (nT ?_)
   refine .region (.z zm (.z cf (.z zg (.nil ?_))))
   refine nT ?_
   exact ⟨j+1,.cons (by show some (I _)=some (I _);congr 2;omega) bD,⟨ak,H5,σ5,hle1.trans g1,hle0.trans g1,gT (by simpa using hc21),hs⟩,ak⟩
 ·refine .exit ?_
  refine xT (xT (xB ?_))
  obtain rfl:j=lH x:=by omega
  exact Fin.yx Tryz.results218 ⟨H1,σb,hle0,hs,.inl (by rw [nf];exact hI)⟩
theorem uC{x:Lg}(hs:St H w σ)(hx:AR x):
  Cl Tryz.prog 169 [.agg #[I x.zone,I x.fr,I x.to,I x.dlo,I x.dhi,I x.blo,I x.bhi]] w fun u w'=>∃H1 b,HLe H H1∧u= .func (.func 218) #[] #[.pointer (some ⟨b,0,none⟩)]∧Iter Tryz.prog 218 [.pointer (some ⟨b,0,none⟩)] H1 (uE x)∧St H1 w' σ:=by
 refine Cl.o Tryz.func169 Tryz.ntmps169 ag1 ?_
 refine .ai ?_
 refine .bx hs fun b1 w hs=>?_
 refine .z zg (.nil (.ai ?_))
 refine .q hs (cJ (f:=[]) (c:=[_]) rfl rfl) ?_
 refine .z zg (.nil ?_)
 refine .ret (Fin.bw Tryz.results169 rfl ?_)
 obtain ⟨H1,g1,g2,hs⟩:=hs.cg .here
 exact ⟨H1,b1,g1,rfl,sm g2 hx,hs⟩
set_option maxHeartbeats 1000000 in
theorem sh{s:Spc}{l:Lns}{x:Lg}{vst vwa vt vs:Value}(hs:St H w σ)(g2:RI H vwa s.wa)(h1:RFb H vt l.table)(h2:RSn H vs l.seasons)(hsp:dP s)(hl:gL l)(hx:AR x):
  Cl Tryz.prog 115 [.agg #[I s.id,I s.src,vst,vwa,I s.al,I s.up],.agg #[I l.length,I l.depth,vt,vs],.agg #[I x.zone,I x.fr,I x.to,I x.dlo,I x.dhi,I x.blo,I x.bhi]] w fun u w'=>∃H1 k e,HLe H H1∧u= .tuple #[I k,I e]∧uI s.wa l x k e∧St H1 w' σ:=by
 refine Cl.o Tryz.func115 Tryz.ntmps115 ag3 ?_
 refine .ai ?_
 refine .bx hs fun b3 w hs=>?_
 refine .bx hs fun b4 w hs=>?_
 refine .bx hs fun b5 w hs=>?_
 refine .z zg (.z zg (.nil (.ai (.y hs (zls [_,_,_,_] bE aO) ?_))))
 refine .o (.call Tryz.call102 rfl (ie hs h1 hl) ?_);rintro _ w ⟨n,b,rfl,hF,hs⟩
 refine .z zm (.z zex (.z zex (.z zg (.z zg (.nil (.seq (.ai (.z zm (.z gy ?_)))))))))
 refine .nil ?_
 refine (.cond rfl (fun hc19=>?_) (fun hc19=>?_))
 ·refine .ai (.z zg (.z zg (.nil ?_)))
  refine .ret (rT (?_))
  obtain rfl:b=false:=by simpa using hc19
  exact Fin.kn Tryz.results115 rfl rfl ⟨H,_,_,HLe.refl H,rfl,.none hF,hs.out⟩
 ·refine .skip ?_
  refine nT ?_
  refine .ai ?_
  refine .o (.alloc hs bN rfl fun b10 w hs=>?_)
  refine .o (.store hs rfl rfl aj fun w hs=>?_)
  refine .nil (.seq (.ai (.y hs (zls [_,_,_,_,_,_,_] fQ aZ) ?_)))
  obtain rfl:b=true:=by simpa using hc19
  have hn:=hF.bd hl
  have hdp:=hl.depth
  refine .o (.call Tryz.call169 rfl (uC hs hx) ?_);rintro _ w ⟨H1,bd,hle1,rfl,hit,hs⟩
  refine .nil (.block ?_)
  refine .rangeFunc (gf:=218) (cap:=[.pointer (some ⟨bd,0,none⟩)]) (xs:=uE x) (σb:=[.blk b10 [I 0],.blk b5 [I x.zone,I x.fr,I x.to,I x.dlo,I x.dhi,I x.blo,I x.bhi],.blk b4 [I l.length,I l.depth,vt,vs],.blk b3 [I s.id,I s.src,vst,vwa,I s.al,I s.up]]) (σf:=σ) hs trivial rfl hit Tryz.call218 (fun y hy=>by
    simp only [uE,List.mem_map] at hy
    obtain ⟨j,_,rfl⟩:=hy;rfl) rfl
   (I:=fun p H' σb=>σb=[.blk b10 [I (mn l.seasons x.zone x.fr p)],.blk b5 [I x.zone,I x.fr,I x.to,I x.dlo,I x.dhi,I x.blo,I x.bhi],.blk b4 [I l.length,I l.depth,vt,vs],.blk b3 [I s.id,I s.src,vst,vwa,I s.al,I s.up]]) (Ix:=fun _ _ _=>False)
   (fun j _ _ σ g1 g2=>g2) (fun _ _ _ _ _ h=>h) rfl ?_ ?_ (fun D c H' σb w _ h _=>h.elim)
  ·rintro ly p hp H2 σb2 σf2 w hle2 rfl hs ⟨rr,hrr⟩
   rw [yz hp]
   refine .region (.z zg (.nil ?_))
   refine nT ?_
   refine ⟨H2,_,HLe.refl _,hs,?_⟩;rintro w σf4 - hs
   replace hs:St H2 w (.blk b10 [I (mn l.seasons x.zone x.fr p)]:: .blk b5 [I x.zone,I x.fr,I x.to,I x.dlo,I x.dhi,I x.blo,I x.bhi]:: .blk b4 [I l.length,I l.depth,vt,vs]:: .blk b3 [I s.id,I s.src,vst,vwa,I s.al,I s.up]::σf4):=hs
   refine .block ?_
   refine .draw mix rfl hs fun w hs=>?_
   refine .y 0 rfl hs af ?_;refine .ys 1 rfl hs [_,_,_,_] bE aO ?_;refine .z 2 rfl (zfa rK) ?_;refine .y 3 rfl hs af ?_;refine .z 4 rfl zm ?_
   refine .E 5 hs ?_
   refine .call Tryz.call105 rfl (mL hs (h2.mono (hle1.trans hle2)) hl) ?_;rintro _ w ⟨rfl,hs⟩
   refine .go ?_
   refine .z 6 rfl DP ?_
   refine .E 7 hs ?_
   refine .store hs rfl rfl aj ?_;intro w hs
   refine .go ?_
   refine .D hs ?_
   refine nB ?_
   exact ⟨H2,_,HLe.refl _,hs,rfl⟩
  ·rintro D H2 σb2 w hle2 rfl hs
   rw [nf] at hs
   have hle02:=hle1.trans hle2
   have hE:=An hl.seasons x.zone x.fr (lH x)
   replace hs:St H2 w (.obj D (.deferred (some [])):: .blk b10 [I (mn l.seasons x.zone x.fr (lH x))]:: .blk b5 [I x.zone,I x.fr,I x.to,I x.dlo,I x.dhi,I x.blo,I x.bhi]:: .blk b4 [I l.length,I l.depth,vt,vs]:: .blk b3 [I s.id,I s.src,vst,vwa,I s.al,I s.up]::σ):=hs
   refine nB (nT ?_)
   refine .seq (.ai (.y hs (zls [_,_,_,_,_,_] aT aF) (.z (zfa kK) (.y hs (zld af) (.z zm (.z gZ (.y hs (zld af) (.z gZ ?_))))))))
   refine .o (.call Tryz.call112 rfl (tC (s:=s) hs (g2.mono hle02) hsp) ?_);rintro _ w ⟨k,rfl,hB,hs⟩
   refine .z zg (.nil (.ai (.z zm (.z y7 (.nil ?_)))))
   refine (.bT rfl (fun hc39=>?_) (fun hc39=>?_))
   ·refine .ai (.z zm (.z zg (.z zg (.nil ?_))))
    refine .ret (rT (?_))
    exact Fin.ia [D] [] hs fun w hs=>⟨_,results2 Tryz.results115 rfl rfl,H2,_,_,hle02,rfl,.ok hF hB hc39,hs.out⟩
   ·refine .skip ?_
    refine nT ?_
    refine .ai (.z zg (.z zg (.nil ?_)))
    refine .ret ?_
    have hk:=hB.low
    obtain rfl:k= -1:=by omega
    exact Fin.ia [D] [] hs fun w hs=>⟨_,results2 Tryz.results115 rfl rfl,H2,_,_,hle02,rfl,.above hF hB,hs.out⟩
theorem tj{v:Value}{l:List Rng}(hs:St H w σ)(hr:RRg H v l):Cl Tryz.prog 162 [v] w fun u w'=>RRg H u l∧St H w' σ:=by
 obtain ⟨a,c,rfl⟩:=hr.shape
 have hc:=RS.clip hr
 refine Cl.o Tryz.func162 Tryz.ntmps162 ag1 ?_
 refine .ai (.z zg (.nil (.ai (.z zm (.z zm (.z (cZ eg) (.z zm (.z (cZ eg) ?_))))))))
 refine .q hs (Cg rfl rfl rfl eg az (Nat.le_refl _) hc.1) ?_
 refine .z zg (.nil ?_)
 refine .ret (Fin.bw Tryz.results162 rfl ?_)
 exact ⟨hc.2,hs⟩
theorem lU{r:List Lg}{vr:Value}{m:Rng}(hs:St H w σ)(h1:RLg H vr r)(hr:qw r)(hm:eQ m.lo m.hi):
  Cl Tryz.prog 110 [.agg #[vr],.agg #[I m.lo,I m.hi]] w fun u w'=>∃H1,HLe H H1∧RRg H1 u (msL m r r.length)∧St H1 w' σ:=by
 obtain ⟨ar,cr,rfl⟩:=h1.shape
 have hn:=hr.many
 refine Cl.o Tryz.func110 Tryz.ntmps110 ag2 ?_
 refine .ai ?_
 refine .bx hs fun b2 w hs=>?_
 refine .bx hs fun b3 w hs=>?_
 refine .z zg (.nil (.ai (.y hs (zls [_,_] bh az) ?_)))
 refine .o (.buildSlice (cells:=m.c) hs kE rfl aq fun b9 w hs=>?_)
 refine .z zg (.nil (.seq (.ai (.z (zfa de) (.y hs (zld fj) (.z (cZ bn) (.z zm (.nil ?_))))))))
 refine .for (N:=r.length) (J:=fun k fr w=>∃vo en,fr=[(5,vo),(11,.slice ar r.length cr),(3,.pointer (some ⟨b3,0,none⟩))]∧bU 2 vo (rgc (msL m r k)).flatten en∧St H w (en:: .blk b3 [I (mm m r k).lo,I (mm m r k).hi]::σ)) ak ?_ ?_ ?_
 ·exact .mk ⟨_,.blk b9 m.c,rfl,.full rfl,hs.sb⟩
 ·rintro k fr w hk ⟨vo,en,rfl,hO,hs⟩
  have hx:=o9 (l:=r) hk
  have hb:=CA hm (fun i hi=>(hr.leg i hi).1) (i:=k) ak
  have hb2:=(hr.leg k hk).1.burn
  unfold eQ at hb hb2
  have hml:=nx m r k
  obtain ⟨ao,co,rfl⟩:=hO.kX (Gl _) ak
  refine .block (.ai ?_)
  refine .ixX (enc:=Lg.c) hs h1 rfl rfl bn aZ hx dn ?_;intro b15 o15 hc15
  refine .q hs (bK (vs:=(Lg.c (lg0 r k))) rfl fQ aZ hc15) ?_
  refine .o (.alloc hs cB rfl fun b7 w hs=>?_)
  refine .o (.aI (vs:=(lg0 r k).c) hs rfl rfl aZ fun w hs=>?_)
  change St _ _ (.blk b7 [I (lg0 r k).zone,I (lg0 r k).fr,I (lg0 r k).to,I (lg0 r k).dlo,I (lg0 r k).dhi,I (lg0 r k).blo,I (lg0 r k).bhi]::_) at hs
  refine .nil (.ai (.z (zfa bR) (.y hs (zld af) (.z (zfa iw) (.z (zfa dh) (.y hs (zld af) (.z gZ (.z DP (.z (zfa dh) ?_)))))))))
  refine .y hs (zld af) (.z (zfa iw) (.z (zfa bR) (.y hs (zld af) (.z gZ (.z DP (.z (zbd [_,_] bA) ?_))))))
  refine .o (.aI (vs:=(mm m r (k+1)).c) hs rfl rfl az fun w hs=>?_)
  change St _ _ (.blk b7 _::en:: .blk b3 [I (mm m r (k+1)).lo,I (mm m r (k+1)).hi]::σ) at hs
  refine .nil (.region (.z zm (.y hs (zls [_,_] bh az) ?_)))
  refine .o (.buildSlice (cells:=(mm m r (k+1)).c) hs kE rfl aq fun b34 w hs=>?_)
  refine .o (.append (ys:=(mm m r (k+1)).c) hs kf rfl rfl hO (.own .here rfl rfl) (by simp [Rng.c,Value.oneCell']) (fun l h=>by rw [cK _ (Gl _),qS] at h;omega) ?_);intro v35 en35 w hO2 hs
  rw [←Eh,←EJ] at hO2
  refine .z zg (.nil ?_)
  refine nB (nT ?_)
  exact .mk ⟨_,_,rfl,hO2,hs.sb⟩
 ·rintro fr w ⟨vo,en,rfl,hO,hs⟩
  obtain ⟨H1,hle1,hR,hs⟩:=bU.cg (m:=2) hO (Gl _) ak (by rw [qS,nx];omega) hs .here
  refine nT ?_
  refine .ai (.z zm ?_)
  refine .o (.call Tryz.call162 rfl (tj (l:=msL m r r.length) hs hR) ?_);rintro v38 w ⟨hR2,hs⟩
  refine .z zg (.nil ?_)
  refine .ret (Fin.bw Tryz.results110 rfl ?_)
  exact ⟨H1,hle1,hR2,hs.out⟩
inductive MsR(r:List Lg)(m:Rng):List Rng→Int→Prop
 |route (h:¬qw r):MsR r m [] 61
 |uA (h:qw r) (h1:¬eQ m.lo m.hi):MsR r m [] 63
 |ok (h:qw r) (h1:eQ m.lo m.hi):MsR r m (msL m r r.length) 0
theorem MsR.uniq{r:List Lg}{m:Rng}{a b:List Rng}{e f:Int}(h:MsR r m a e)(g:MsR r m b f):a=b∧e=f:=by
 cases h<;>cases g<;>first|exact ⟨rfl,rfl⟩|contradiction
theorem De{v:Srv}{out:List Int}{e:Int}(h:ue v out e)(hv:cI v):(e=0∧0<out.length∧¬v.sys.Sound)∨(e=3∧v.sys.Sound):=by
 cases h with
 |bad h he=>exact (he (h.aP.2 hv)).elim
 |ok _ h=>
  by_cases e0:e=0
  ·subst e0
   obtain ⟨_,h1,_,h2⟩:=h.conf
   exact .inl ⟨rfl,(by cases out with|nil=>exact (h2 rfl).elim|cons=>simp),h1⟩
  ·cases h with
   |bad h=>exact (h (v.sys.aP.2 hv.sys)).elim
   |none _ h=>exact .inr ⟨rfl,h⟩
   |ok=>exact (e0 rfl).elim
theorem kx{k:Int}(hs:St H w σ):Cl Tryz.prog 98 [I k] w fun u w'=>u= .agg #[I 1,I 0,I k]∧St H w' σ:=by
 refine Cl.o Tryz.func98 Tryz.ntmps98 ag1 ?_
 refine .ai ?_
 refine .o (.alloc hs Tryz.zeroValue113 rfl fun b2 w hs=>?_)
 refine .nil (.ai (.z zm (.z (zbd [_,_,_] yD) ?_)))
 refine .o (.aI (vs:=[_,_,_]) hs rfl rfl iR fun w hs=>?_)
 refine .nil ?_
 refine .ret ?_
 exact Fin.ia [] [] hs fun w hs=>⟨_,results1 Tryz.results98 (di (vs:=[_,_,_]) hs rfl yU iR),rfl,hs.out⟩
theorem si{s:Srv}{k:Nat}{a b c d:Value}(hs:St H w σ)(g:SvM H s a b c d)(hok:cI s):
  Cl Tryz.prog 122 [svA s a b c d,I (k:Int)] w fun u w'=>∃H1 lo hi e,HLe H H1∧u= .tuple #[.agg #[I lo,I hi],I e]∧xl s k lo hi e∧St H1 w' σ:=by
 refine Cl.o Tryz.func122 Tryz.ntmps122 ag2 ?_
 refine .ai ?_
 refine .bx hs fun b2 w hs=>?_
 refine .o (.alloc hs bS rfl fun b4 w hs=>?_)
 refine .z zg (.nil (.seq (.ai (.z zm (.z qH (.nil ?_))))))
 refine (.bT rfl (fun hc9=>?_) (fun hc9=>?_))
 ·refine .seq (.draw mix rfl hs fun w hs=>?_)
  refine .ys 0 rfl hs [_,_,_,_,_,_,_,_] aJ aB ?_;refine .z 1 rfl zm ?_
  refine .E 2 hs ?_
  refine .call Tryz.call98 rfl (kx hs) ?_;rintro _ w ⟨rfl,hs⟩
  refine .go ?_
  refine .E 3 hs ?_
  refine .call Tryz.call174 rfl (pW (s:=s) (q:=⟨1,0,k⟩) hs g.st g.wa g.rd g.cm) ?_;rintro _ w ⟨H1,lo,hi,e,hle1,rfl,hQ,hs⟩
  refine .go ?_
  refine .z 4 rfl zex ?_;refine .z 5 rfl zex ?_
  refine .E 6 hs ?_
  refine .aI (vs:=[_,_]) hs rfl rfl az ?_;intro w hs
  refine .go ?_
  refine .z 7 rfl zg ?_;refine .D hs ?_
  refine .ret (rT (?_))
  exact Fin.ia [] [] hs fun w hs=>⟨_,results2 Tryz.results122 (di (vs:=[_,_]) hs rfl bh az) rfl,H1,_,_,_,hle1,rfl,.up ak hQ,hs.out⟩
 ·refine .skip ?_
  refine nT ?_
  refine .seq (.ai (.y hs (zls [_,_,_,_,_,_,_,_] aJ aB) ?_))
  obtain rfl:k=0:=by omega
  refine .o (.call Tryz.call175 rfl (pV (s:=s) hs g.st g.wa g.rd g.cm) ?_);rintro _ w ⟨H1,vx,out,e,hle1,rfl,hX,hC,hs⟩
  have hcl:=De hC hok
  obtain ⟨ax,cx,rfl⟩:=RI.shape hX
  refine .z zm (.z zex (.z zex (.z zg (.z zg (.nil (.ai (.z zm (.z jU (.z zm ?_)))))))))
  refine .jM (t':=23) rfl (fun hb23=>?_) (fun hb23=>?_)
  ·refine .gT rfl rfl ?_
   refine .z zm ?_
   refine .gT rfl rfl ?_
   refine .z (cZ ae) ?_
   refine .gT rfl rfl ?_
   refine .z qH (.z zpT (.nil ?_))
   refine (.bT rfl (fun hc27=>?_) (fun hc27=>?_))
   ·refine .ai (.z (zbd [_,_] bA) ?_)
    refine .o (.aI (vs:=[_,_]) hs rfl rfl az fun w hs=>?_)
    refine .z zg (.nil ?_)
    refine .ret (rT (?_))
    exact Fin.ia [] [] hs fun w hs=>⟨_,results2 Tryz.results122 (di (vs:=[_,_]) hs rfl bh az) rfl,H1,_,_,_,hle1,rfl,.fls rfl hok (by rcases hcl with h|h;exact h.2.2;omega),hs.out⟩
   ·refine .skip ?_
    refine nT ?_
    refine .ai (.z (zbd [_,_] bA) ?_)
    refine .o (.aI (vs:=[_,_]) hs rfl rfl az fun w hs=>?_)
    refine .z zg (.nil ?_)
    refine .ret ?_
    exact Fin.ia [] [] hs fun w hs=>⟨_,results2 Tryz.results122 (di (vs:=[_,_]) hs rfl bh az) rfl,H1,_,_,_,hle1,rfl,.zero rfl hok (by rcases hcl with h|h;omega;exact h.2),hs.out⟩
  ·refine .gFs 3 2 true rfl rfl rfl ?_
   refine .z zpF (.nil ?_)
   refine (.cF ?_)
   refine .skip ?_
   refine nT ?_
   refine .ai (.z (zbd [_,_] bA) ?_)
   refine .o (.aI (vs:=[_,_]) hs rfl rfl az fun w hs=>?_)
   refine .z zg (.nil ?_)
   refine .ret ?_
   exact Fin.ia [] [] hs fun w hs=>⟨_,results2 Tryz.results122 (di (vs:=[_,_]) hs rfl bh az) rfl,H1,_,_,_,hle1,rfl,.zero rfl hok (by rcases hcl with h|h;omega;exact h.2),hs.out⟩
theorem fF{n d:Int}(hs:St H w σ)(hn: -4000000000000≤n∧n≤4000000000000)(hd: -100000≤d∧d≤100000):Cl Tryz.prog 99 [I n,I d] w fun v w'=>v=I (lE n d)∧St H w' σ:=by
 have hm:=kv (a:=n) (b:=d) (A:=4000000000000) (B:=100000) ak ak
 refine Cl.o Tryz.func99 Tryz.ntmps99 ag2 ?_
 refine .ai (.z zg (.nil (.ai (.z zm (.z zm (.z kS ?_))))))
 refine .o (.call Tryz.call140 rfl (oe hs ak ak) ?_);rintro _ w ⟨rfl,hs⟩
 refine .z zg (.nil ?_)
 refine .ret (Fin.bw Tryz.results99 rfl ?_)
 exact ⟨rfl,hs⟩
theorem qZ{lo hi x y:Int}(hs:St H w σ)(h1: -200000000≤lo∧lo≤200000000)(h2: -200000000≤hi∧hi≤200000000)(hd:gM x y):
  Cl Tryz.prog 145 [.agg #[I lo,I hi],.agg #[I x,I y]] w fun v w'=>v= .agg #[I (xA lo x y),I (xC hi x y)]∧St H w' σ:=by
 unfold gM at hd
 refine Cl.o Tryz.func145 Tryz.ntmps145 ag2 ?_
 refine .ai ?_
 refine .bx hs fun b2 w hs=>?_
 refine .bx hs fun b3 w hs=>?_
 refine .o (.alloc hs bS rfl fun b4 w hs=>?_)
 refine .nil ?_
 refine .seq (.draw mix rfl hs fun w hs=>?_)
 refine .z 0 rfl (zfa bR) ?_;refine .y 1 rfl hs af ?_;refine .z 2 rfl (zfa bR) ?_;refine .y 3 rfl hs af ?_;refine .z 5 rfl (zfa bR) ?_;refine .y 6 rfl hs af ?_;refine .z 7 rfl (zfa dh) ?_;refine .y 8 rfl hs af ?_;refine .z 11 rfl (zfa dh) ?_;refine .y 12 rfl hs af ?_
 refine .z 13 rfl (zfa bR) ?_;refine .y 14 rfl hs af ?_;refine .z 16 rfl (zfa dh) ?_;refine .y 17 rfl hs af ?_;refine .z 18 rfl (zfa dh) ?_;refine .y 19 rfl hs af ?_
 refine .E 4 hs ?_
 refine .call Tryz.call99 rfl (fF hs ak ak) ?_;rintro _ w ⟨rfl,hs⟩
 refine .go ?_
 refine .E 9 hs ?_
 refine .call Tryz.call99 rfl (fF hs ak ak) ?_;rintro _ w ⟨rfl,hs⟩
 refine .go ?_
 refine .z 10 rfl BE ?_
 refine .E 15 hs ?_
 refine .call Tryz.call99 rfl (fF hs ak ak) ?_;rintro _ w ⟨rfl,hs⟩
 refine .go ?_
 refine .E 20 hs ?_
 refine .call Tryz.call99 rfl (fF hs ak ak) ?_;rintro _ w ⟨rfl,hs⟩
 refine .go ?_
 refine .z 21 rfl DP ?_;refine .z 22 rfl (zbd [_,_] bA) ?_
 refine .E 23 hs ?_
 refine .aI (vs:=[_,_]) hs rfl rfl az ?_;intro w hs
 refine .go ?_
 refine .D hs ?_
 refine .ret ?_
 exact Fin.ia [] [] hs fun w hs=>⟨_,results1 Tryz.results145 (di (vs:=[_,_]) hs rfl bh az),rfl,hs.out⟩
theorem dI{s:Srv}{k:Nat}{a b c d:Value}{x y:Int}(hs:St H w σ)(g:SvM H s a b c d)(hok:cI s)(hd:gM x y):
  Cl Tryz.prog 88 [svA s a b c d,I (k:Int),.agg #[I x,I y]] w fun u w'=>∃H1 lo hi e,HLe H H1∧u= .tuple #[.agg #[I lo,I hi],I e]∧kO s k x y lo hi e∧St H1 w' σ:=by
 refine Cl.o Tryz.func88 Tryz.ntmps88 ag3 ?_
 refine .ai ?_
 refine .bx hs fun b3 w hs=>?_
 refine .bx hs fun b5 w hs=>?_
 refine .o (.alloc hs bS rfl fun b6 w hs=>?_)
 refine .z zg (.nil (.ai (.y hs (zls [_,_,_,_,_,_,_,_] aJ aB) (.z zm ?_))))
 refine .o (.call Tryz.call122 rfl (si (s:=s) hs g hok) ?_);rintro _ w ⟨H1,lo,hi,e,hle1,rfl,hL,hs⟩
 have hb:=hL.bd
 refine .z zm (.z zex (.z zex ?_))
 refine .o (.alloc hs bS rfl fun b8 w hs=>?_)
 refine .o (.aI (vs:=[_,_]) hs rfl rfl az fun w hs=>?_)
 refine .z zg (.nil (.seq (.ai (.z zm (.z gE (.nil ?_))))))
 refine (.ep rfl (fun hc17=>?_) (fun hc17=>?_))
 ·refine .ai (.z (zbd [_,_] bA) (.z zm ?_))
  refine .o (.aI (vs:=[_,_]) hs rfl rfl az fun w hs=>?_)
  refine .z zg (.nil ?_)
  refine .ret (rT (?_))
  exact Fin.ia [] [] hs fun w hs=>⟨_,results2 Tryz.results88 (di (vs:=[_,_]) hs rfl bh az) rfl,H1,_,_,_,hle1,rfl,.fls hL hc17,hs.out⟩
 ·refine .skip ?_
  refine nT ?_
  refine .ai (.y hs (zls [_,_] bh az) (.y hs (zls [_,_] bh az) ?_))
  obtain rfl:e=0:=by omega
  refine .o (.call Tryz.call145 rfl (qZ hs ak ak hd) ?_);rintro _ w ⟨rfl,hs⟩
  refine .o (.aI (vs:=[_,_]) hs rfl rfl az fun w hs=>?_)
  refine .z zg (.nil ?_)
  refine .ret ?_
  exact Fin.ia [] [] hs fun w hs=>⟨_,results2 Tryz.results88 (di (vs:=[_,_]) hs rfl bh az) rfl,H1,_,_,_,hle1,rfl,.ok hL,hs.out⟩
theorem mq{s:Srv}{k:Int}{a b c d:Value}{x y:Int}(hs:St H w σ)(g:SvM H s a b c d):
  Cl Tryz.prog 58 [svA s a b c d,I k,.agg #[I x,I y]] w fun u w'=>∃H1 lo hi e,HLe H H1∧u= .tuple #[.agg #[I lo,I hi],I e]∧xg s k x y lo hi e∧St H1 w' σ:=by
 obtain ⟨aw,cw,rfl⟩:=RI.shape g.wa
 refine Cl.o Tryz.func58 Tryz.ntmps58 ag3 ?_
 refine .ai ?_
 refine .bx hs fun b3 w hs=>?_
 refine .bx hs fun b5 w hs=>?_
 refine .o (.alloc hs bS rfl fun b6 w hs=>?_)
 refine .z zg (.nil (.seq (.ai (.y hs (zls [_,_,_,_,_,_,_,_] aJ aB) ?_))))
 refine .o (.call JS rfl (eM (s:=s) hs g.st g.wa g.rd g.cm) ?_);rintro _ w ⟨H1,e,hle1,rfl,hC,hs⟩
 refine .z zg (.nil (.ai (.z zm (.z gE (.nil ?_)))))
 refine (.ep rfl (fun hc12=>?_) (fun hc12=>?_))
 ·refine .ai (.z (zbd [_,_] bA) (.z zm ?_))
  refine .o (.aI (vs:=[_,_]) hs rfl rfl az fun w hs=>?_)
  refine .z zg (.nil ?_)
  refine .ret (rT (?_))
  exact Fin.ia [] [] hs fun w hs=>⟨_,results2 Tryz.results58 (di (vs:=[_,_]) hs rfl bh az) rfl,H1,_,_,_,hle1,rfl,.bad hC hc12,hs.out⟩
 ·refine .skip ?_
  refine nT ?_
  refine .seq (.block (.ai ?_))
  have hok:cI s:=hC.aP.1 ak
  have hsm:=eL hok.early.1
  refine .z zm (.z (zfa bC) (.z (zfa a8) (.y hs (zld an) (.z (cZ ae) (.z gZ ?_)))))
  refine .o (.call dF rfl (bG hs) ?_);rintro _ w ⟨rfl,hs⟩
  refine .z gy (.z zg (.nil ?_))
  refine (.cond rfl (fun hc15=>?_) (fun hc15=>?_))
  ·refine .ai (.z (zbd [_,_] bA) ?_)
   refine .o (.aI (vs:=[_,_]) hs rfl rfl az fun w hs=>?_)
   refine .z zg (.nil ?_)
   refine .ret (rB (rT (?_)))
   exact Fin.ia [] [] hs fun w hs=>⟨_,results2 Tryz.results58 (di (vs:=[_,_]) hs rfl bh az) rfl,H1,_,_,_,hle1,rfl,.water hok (by simp at hc15;omega),hs.out⟩
  ·refine .ai (.y hs (zls [_,_] bh az) ?_)
   have hk:0≤k∧k≤(s.sp.wa.length:Int) - 1:=by simpa using hc15
   refine .o (.call Tryz.call118 rfl (ld hs) ?_);rintro _ w ⟨rfl,hs⟩
   refine .z gy (.z zg (.nil ?_))
   refine (.cond rfl (fun hc25=>?_) (fun hc25=>?_))
   ·refine .ai (.z (zbd [_,_] bA) ?_)
    refine .o (.aI (vs:=[_,_]) hs rfl rfl az fun w hs=>?_)
    refine .z zg (.nil ?_)
    refine .ret (rB (rT (?_)))
    exact Fin.ia [] [] hs fun w hs=>⟨_,results2 Tryz.results58 (di (vs:=[_,_]) hs rfl bh az) rfl,H1,_,_,_,hle1,rfl,.dense hok hk (by simpa using hc25),hs.out⟩
   ·refine .skip ?_
    refine nB (nT ?_)
    refine .ai (.y hs (zls [_,_,_,_,_,_,_,_] aJ aB) (.z zm (.y hs (zls [_,_] bh az) ?_)))
    have hdn:gM x y:=by simpa using hc25
    obtain ⟨j,rfl⟩:∃j:Nat,k=(j:Int):=⟨k.toNat,ak⟩
    refine .o (.call Tryz.call88 rfl (dI (s:=s) hs (g.mono hle1) hok hdn) ?_);rintro _ w ⟨H2,lo,hi,e,hle2,rfl,hS,hs⟩
    refine .z zex (.z zex ?_)
    refine .o (.aI (vs:=[_,_]) hs rfl rfl az fun w hs=>?_)
    refine .z zg (.nil ?_)
    refine .ret ?_
    exact Fin.ia [] [] hs fun w hs=>⟨_,results2 Tryz.results58 (di (vs:=[_,_]) hs rfl bh az) rfl,H2,_,_,_,hle1.trans hle2,rfl,.go hok hk hdn (by rw [Int.toNat_natCast];exact hS),hs.out⟩
set_option maxHeartbeats 2000000 in
theorem tD{s:Srv}{l:Lns}{r:List Lg}{m:Rng}{a b c d vt vs vlg:Value}(hs:St H w σ)(g:SvM H s a b c d)(gl:LnM H l vt vs)(gr_:RLg H vlg r):
  Cl Tryz.prog 79 [svA s a b c d,lnA l vt vs,.agg #[vlg],.agg #[I m.lo,I m.hi]] w fun u w'=>∃(H1:bB) (z:RtV) (ks:List Int) (e:Int),HLe H H1∧u= .tuple #[z.agg,I e]∧z.cs.all Value.oneCell'=true∧nC s l r m ks e∧(e=0→∃vms vmk,z=⟨s,l,a,b,c,d,vt,vs,vlg,vms,vmk⟩∧RRg H1 vms (msL m r r.length)∧RI H1 vmk ks)∧St H1 w' σ:=by
 obtain ⟨alg,clg,rfl⟩:=gr_.shape
 refine Cl.o Tryz.func79 Tryz.ntmps79 ag4 ?_
 refine .ai ?_
 refine .bx hs fun b4 w hs=>?_
 refine .bx hs fun b5 w hs=>?_
 refine .bx hs fun b6 w hs=>?_
 refine .bx hs fun b7 w hs=>?_
 refine .o (.alloc hs jS rfl fun b8 w hs=>?_)
 refine .z zg (.nil (.seq (.ai (.y hs (zls [_,_,_,_,_,_,_,_] aJ aB) ?_))))
 refine .o (.call JS rfl (eM (s:=s) hs g.st g.wa g.rd g.cm) ?_);rintro _ w ⟨H1,e,hle1,rfl,hC,hs⟩
 refine .z zg (.nil (.ai (.z zm (.z gE (.nil ?_)))))
 refine (.ep rfl (fun hc21=>?_) (fun hc21=>?_))
 ·refine .ai (.z (zbd RtV.zero.cs eX rfl aq) (.z zm ?_))
  refine .o (.aI (vs:=RtV.zero.cs) hs rfl rfl bZ fun w hs=>?_)
  refine .z zg (.nil ?_)
  refine .ret (rT (?_))
  exact Fin.ia [] [] hs fun w hs=>⟨_,results2 uQ (di (vs:=RtV.zero.cs) hs rfl lQ bZ) rfl,H1,RtV.zero,_,_,hle1,rfl,rfl,.bad hC hc21,fun h=>(hc21 h).elim,hs.out⟩
 ·refine .skip ?_
  refine nT ?_
  refine .seq (.ai (.y hs (zls [_,_,_,_] bE aO) ?_))
  have hok:cI s:=hC.aP.1 ak
  have hsp:=hok.early.1
  refine .o (.call Tryz.call19 rfl (gH hs (gl.tb.mono hle1) (gl.sn.mono hle1)) ?_);rintro _ w ⟨f,rfl,hL,hs⟩
  refine .z zg (.nil (.ai (.z zm (.z gE (.nil ?_)))))
  refine (.ep rfl (fun hc27=>?_) (fun hc27=>?_))
  ·refine .ai (.z (zbd RtV.zero.cs eX rfl aq) (.z zm ?_))
   have hl:=hL.resolve_left fun h=>hc27 h.2
   refine .o (.aI (vs:=RtV.zero.cs) hs rfl rfl bZ fun w hs=>?_)
   refine .z zg (.nil ?_)
   refine .ret (rT (?_))
   exact Fin.ia [] [] hs fun w hs=>⟨_,results2 uQ (di (vs:=RtV.zero.cs) hs rfl lQ bZ) rfl,H1,RtV.zero,_,_,hle1,rfl,rfl,by rw [hl.2];exact .lines hok hl.1,fun h=>(hc27 h).elim,hs.out⟩
  ·refine .skip ?_
   refine nT ?_
   refine .seq (.ai (.y hs (zls [_] bQ aU) ?_))
   have hl:gL l:=(hL.resolve_right fun h=>by omega).1
   refine .o (.call Tryz.call21 rfl (nK hs (gr_.mono hle1)) ?_);rintro _ w ⟨q,rfl,hR,hs⟩
   refine .z zg (.nil (.ai (.z zm (.z gE (.nil ?_)))))
   refine (.ep rfl (fun hc33=>?_) (fun hc33=>?_))
   ·refine .ai (.z (zbd RtV.zero.cs eX rfl aq) (.z zm ?_))
    have hrt:=hR.resolve_left fun h=>hc33 h.2
    refine .o (.aI (vs:=RtV.zero.cs) hs rfl rfl bZ fun w hs=>?_)
    refine .z zg (.nil ?_)
    refine .ret (rT (?_))
    exact Fin.ia [] [] hs fun w hs=>⟨_,results2 uQ (di (vs:=RtV.zero.cs) hs rfl lQ bZ) rfl,H1,RtV.zero,_,_,hle1,rfl,rfl,by rw [hrt.2];exact .route hok hl hrt.1,fun h=>(hc33 h).elim,hs.out⟩
   ·refine .skip ?_
    refine nT ?_
    refine .seq (.ai (.y hs (zls [_,_] bh az) ?_))
    have hrt:qw r:=(hR.resolve_right fun h=>by omega).1
    have hn:=hrt.many
    refine .o (.call Tryz.call109 rfl (lW hs) ?_);rintro _ w ⟨rfl,hs⟩
    refine .z gy (.nil ?_)
    refine (.cond rfl (fun hc38=>?_) (fun hc38=>?_))
    ·refine .ai (.z (zbd RtV.zero.cs eX rfl aq) ?_)
     refine .o (.aI (vs:=RtV.zero.cs) hs rfl rfl bZ fun w hs=>?_)
     refine .z zg (.nil ?_)
     refine .ret (rT (?_))
     exact Fin.ia [] [] hs fun w hs=>⟨_,results2 uQ (di (vs:=RtV.zero.cs) hs rfl lQ bZ) rfl,H1,RtV.zero,_,_,hle1,rfl,rfl,.uA hok hl hrt (by simpa using hc38),fun h=>by omega,hs.out⟩
    ·refine .skip ?_
     refine nT ?_
     refine .cut (fun fs w=>∃H2 vms b13,kQ fs ⟨76,[],[(13,.pointer (some ⟨b13,0,none⟩)),(8,.pointer (some ⟨b8,0,none⟩)),(5,.pointer (some ⟨b5,0,none⟩)),(6,.pointer (some ⟨b6,0,none⟩))]⟩∧HLe H1 H2∧RRg H2 vms (msL m r r.length)∧St H2 w (.blk b13 (RtV.cs ⟨s,l,a,b,c,d,vt,vs,.slice alg r.length clg,vms,.slice none 0 0⟩):: .blk b8 RtV.zero.cs:: .blk b6 [.slice alg r.length clg]:: .blk b5 (lnC l vt vs)::σ)) ?_ ?_
     ·refine .draw mix rfl hs fun w hs=>?_
      refine .ys 0 rfl hs [_,_,_,_,_,_,_,_] aJ aB ?_;refine .ys 1 rfl hs [_,_,_,_] bE aO ?_;refine .z 2 rfl (zfa de) ?_;refine .y 3 rfl hs fj ?_;refine .ys 4 rfl hs [_] bQ aU ?_;refine .ys 5 rfl hs [_,_] bh az ?_
      refine .e2 (i:=6) (j:=8) aq rfl rfl rfl rfl .none .none hs ?_ ?_
      ·refine .call Tryz.call110 rfl (lU hs (gr_.mono hle1) hrt (by simpa using hc38)) ?_;rintro vms w ⟨H2,hle2,hMs,hs⟩
       obtain ⟨ams,cms,rfl⟩:=hMs.shape
       refine .go ?_
       refine .z 7 rfl (zbd (vs:=[(0,svA s a b c d),(1,lnA l vt vs),(2,.slice alg r.length clg),(3,.slice ams (msL m r r.length).length cms)]) (RtV.cs ⟨s,l,a,b,c,d,vt,vs,.slice alg r.length clg,.slice ams (msL m r r.length).length cms,.slice none 0 0⟩) eX rfl aq) ?_
       refine .E 8 hs ?_
       refine .alloc hs jS rfl ?_;intro b13 w hs
       refine .go ?_
       refine .E 9 hs ?_
       refine .aI (vs:=RtV.cs ⟨s,l,a,b,c,d,vt,vs,.slice alg r.length clg,.slice ams (msL m r r.length).length cms,.slice none 0 0⟩) hs rfl rfl bZ ?_ (hv:=RtV.one g gl gr_ (RS.one hMs) rfl);intro w hs
       refine .go ?_
       refine .D hs ?_
       exact nT ⟨H2,_,b13,bD,hle2,hMs,hs.sb⟩
      ·refine .alloc hs jS rfl ?_;intro b13 w hs
       refine .go ?_
       refine .E 6 hs ?_
       refine .call Tryz.call110 rfl (lU hs (gr_.mono hle1) hrt (by simpa using hc38)) ?_;rintro vms w ⟨H2,hle2,hMs,hs⟩
       obtain ⟨ams,cms,rfl⟩:=hMs.shape
       refine .go ?_
       refine .z 7 rfl (zbd (vs:=[(0,svA s a b c d),(1,lnA l vt vs),(2,.slice alg r.length clg),(3,.slice ams (msL m r r.length).length cms)]) (RtV.cs ⟨s,l,a,b,c,d,vt,vs,.slice alg r.length clg,.slice ams (msL m r r.length).length cms,.slice none 0 0⟩) eX rfl aq) ?_
       refine .E 9 hs ?_
       refine .aI (vs:=RtV.cs ⟨s,l,a,b,c,d,vt,vs,.slice alg r.length clg,.slice ams (msL m r r.length).length cms,.slice none 0 0⟩) hs rfl rfl bZ ?_ (hv:=RtV.one g gl gr_ (RS.one hMs) rfl);intro w hs
       refine .go ?_
       refine .D hs ?_
       exact nT ⟨H2,_,b13,bD,hle2,hMs,hs.sb⟩
     ·rintro fs w ⟨H2,vms,b13,hfs,hle2,hMs,hs⟩
      refine WE.sub ?_ hfs
      clear hfs
      have hle02:=hle1.trans hle2
      have hm:eQ m.lo m.hi:=by simpa using hc38
      refine .seq (.ai (.z (zfa de) (.y hs (zld fj) (.z (cZ bn) (.z zm (.nil ?_))))))
      refine .for (N:=r.length) (J:=fun k fr w=>∃H3 ks vmk en,fr=[(49,.slice alg r.length clg),(13,.pointer (some ⟨b13,0,none⟩)),(8,.pointer (some ⟨b8,0,none⟩)),(5,.pointer (some ⟨b5,0,none⟩))]∧HLe H2 H3∧ks.length=k∧(∀i<k,uI s.sp.wa l (lg0 r i) (gi ks i) 0)∧bU 1 vmk (Is ks) en∧St H3 w (en:: .blk b13 (RtV.cs ⟨s,l,a,b,c,d,vt,vs,.slice alg r.length clg,vms,vmk⟩):: .blk b8 RtV.zero.cs:: .blk b6 [.slice alg r.length clg]:: .blk b5 (lnC l vt vs)::σ)) ak ?_ ?_ ?_
      ·exact .mk ⟨H2,[],_,.nul,rfl,HLe.refl _,rfl,fun i hi=>by omega,.nil 1 none,hs.nul⟩
      ·rintro k fr w hk ⟨H3,ks,vmk,en,rfl,hle3,hkl,hks,hO,hs⟩
       have hx:=o9 (l:=r) hk
       have hle03:=hle02.trans hle3
       obtain ⟨ao,lo',co,rfl,hlo⟩:=hO.shape
       refine .block (.ai ?_)
       refine .ixX (enc:=Lg.c) hs (gr_.mono hle03) rfl rfl bn aZ hx dn ?_;intro b53 o53 hc53
       refine .q hs (bK (vs:=(Lg.c (lg0 r k))) rfl fQ aZ hc53) ?_
       refine .o (.alloc hs cB rfl fun b15 w hs=>?_)
       refine .o (.aI (vs:=(lg0 r k).c) hs rfl rfl aZ fun w hs=>?_)
       change St _ _ (.blk b15 (lgC (lg0 r k))::_) at hs
       refine .nil (.ai (.z (zfa j9) (.z (zfa bC) (.y hs (zls [_,_,_,_,_,_] aT aF) (.y hs (zls [_,_,_,_] bE aO) (.y hs (zls [_,_,_,_,_,_,_] fQ aZ) ?_))))))
       refine .o (.call Tryz.call115 rfl (sh (s:=s.sp) (x:=lg0 r k) hs (g.wa.mono hle03) (gl.tb.mono hle03) (gl.sn.mono hle03) hsp hl (hrt.leg k hk).1) ?_);rintro _ w ⟨H4,n,e,hle4,rfl,hLw,hs⟩
       have hle04:=hle03.trans hle4
       refine .z zm (.z zex (.z zex (.z zg (.z zg (.nil (.seq (.ai (.z zm (.z gE ?_)))))))))
       refine .nil ?_
       refine (.ep rfl (fun hc65=>?_) (fun hc65=>?_))
       ·refine .ai (.z (zbd RtV.zero.cs eX rfl aq) (.z zm ?_))
        refine .o (.aI (vs:=RtV.zero.cs) hs rfl rfl bZ fun w hs=>?_)
        refine .z zg (.nil ?_)
        refine .ret (rT (rB (rT (rB (rT (?_))))))
        exact Fin.ia [] [] hs fun w hs=>⟨_,results2 uQ (di (vs:=RtV.zero.cs) hs rfl lQ bZ) rfl,H4,RtV.zero,_,_,hle04,rfl,rfl,.low hok hl hrt hm hk (fun j hj=>⟨_,hks j hj⟩) hLw hc65,fun h=>(hc65 h).elim,hs.out⟩
       ·refine .skip ?_
        refine nT ?_
        refine .region (.z (zfa gd) (.y hs (zld an) (.z zm ?_)))
        refine .o (.buildSlice (cells:=Is [n]) hs cA rfl aq fun b71 w hs=>?_)
        refine .o (.append (ys:=Is [n]) hs cn rfl rfl hO (.own .here rfl rfl) (iX _) (fun l h=>by simp [Is] at h;omega) ?_);intro v72 en72 w hO2 hs
        rw [←List.map_append] at hO2
        obtain ⟨a72,l72,c72,rfl,h72⟩:=hO2.shape
        refine .z (zfa gd) ?_
        refine .o (.store hs rfl rfl aA fun w hs=>?_)
        refine .nil ?_
        refine nB (nT ?_)
        obtain rfl:e=0:=by omega
        exact .mk ⟨H4,ks++[n],_,_,rfl,hle3.trans hle4,by simp [hkl],fun i hi=>by
         by_cases e:i=k
         ·subst e;rw [mS,if_neg ak,if_pos ak];exact hLw
         ·rw [mS,if_pos ak];exact hks i ak,hO2,hs.sb⟩
      ·rintro fr w ⟨H3,ks,vmk,en,rfl,hle3,hkl,hks,hO,hs⟩
       obtain ⟨H4,hle4,hRk,hs⟩:=hO.dM ak hs .here
       have hle04:=hle02.trans (hle3.trans hle4)
       refine nT ?_
       refine .ai (.y hs (zls [_,_,_,_,_,_,_,_,_,_,_,_,_,_,_] lQ bZ) ?_)
       refine .o (.aI (vs:=RtV.cs ⟨s,l,a,b,c,d,vt,vs,.slice alg r.length clg,vms,vmk⟩) hs rfl rfl bZ ?_ (hv:=RtV.one g gl gr_ (RS.one hMs) (RS.one hRk)));intro w hs
       refine .z zg (.nil ?_)
       refine .ret ?_
       exact Fin.ia [] [] hs fun w hs=>⟨_,results2 uQ (di (vs:=RtV.cs ⟨s,l,a,b,c,d,vt,vs,.slice alg r.length clg,vms,vmk⟩) hs rfl lQ bZ) rfl,H4,⟨s,l,a,b,c,d,vt,vs,.slice alg r.length clg,vms,vmk⟩,_,_,hle04,rfl,RtV.one g gl gr_ (RS.one hMs) (RS.one hRk),.ok hok hl hrt hm hkl hks,fun _=>⟨_,_,rfl,hMs.mono (hle3.trans hle4),hRk⟩,hs.out⟩
structure RtM(H:bB)(s:Srv)(l:Lns)(r:List Lg)(m:Rng)(ks:List Int)(z:RtV):Prop where
 es:z.s=s
 el:z.l=l
 sv:SvM H s z.a z.b z.c z.d
 ln:LnM H l z.t z.n
 lg:RLg H z.lg r
 ms:RRg H z.ms (msL m r r.length)
 mr:RI H z.mr ks
 one:z.cs.all Value.oneCell'=true
 beg:nC s l r m ks 0
set_option maxHeartbeats 1000000 in
theorem q6{s:Srv}{l:Lns}{r:List Lg}{m:Rng}{ks:List Int}{z:RtV}(hs:St H w σ)(h:RtM H s l r m ks z):
  Cl Tryz.prog 80 [z.agg] w fun u w'=>∃H1 v as_ e,HLe H H1∧u= .tuple #[v,I e]∧RI H1 v as_∧DR s l r m as_ e∧St H1 w' σ:=by
 obtain ⟨s',l',a,b,c,d,t,n,lg,ms,mr⟩:=z
 obtain ⟨rfl,rfl,g,gl,hr,hms,hmr,hone,hB⟩:=h
 dsimp only at g gl hr hms hmr hone
 obtain ⟨alg,clg,rfl⟩:=hr.shape
 obtain ⟨ams,cms,rfl⟩:=hms.shape
 obtain ⟨amr,cmr,rfl⟩:=RI.shape hmr
 obtain ⟨hok,hl,hrt,hm,hkl,hlow⟩:=hB.ok'
 have hn:=hrt.many
 have hml:=nx m r r.length
 refine Cl.o Tryz.func80 Tryz.ntmps80 ag1 ?_
 refine .ai ?_
 refine .bx hs fun b1 w hs=>?_
 refine .z zg (.z zg (.nil (.ai (.z zg (.nil (.seq (.ai (.z (zfa iE) (.y hs (zld fj) ?_)))))))))
 refine .z (cZ bn) (.z zm (.nil ?_))
 refine .for (N:=r.length) (J:=fun k fr w=>∃H1 vo as_ en,fr=[(4,vo),(11,.slice alg r.length clg),(1,.pointer (some ⟨b1,0,none⟩))]∧HLe H H1∧as_.length=k∧(∀i<k,∃lo hi,kO s' (gi ks i).toNat (lg0 r i).dlo (lg0 r i).dhi lo hi 0∧gi as_ i=xi (mm m r i) lo hi)∧(0<k→s'.sys.Sound)∧bU 1 vo (Is as_) en∧St H1 w (en:: .blk b1 (RtV.cs ⟨s',l',a,b,c,d,t,n,.slice alg r.length clg,.slice ams (msL m r r.length).length cms,.slice amr ks.length cmr⟩)::σ)) ak ?_ ?_ ?_
 ·exact .mk ⟨H,_,[],.nul,rfl,HLe.refl _,rfl,fun i hi=>by omega,fun h=>by omega,.nil 1 none,hs.nul⟩
 ·rintro k fr w hk ⟨H1,vo,as_,en,rfl,hle1,hal,has,hsd,hO,hs⟩
  have hx:=o9 (l:=r) hk
  have hxm:=Cz m r (k:=r.length) (i:=k) ak
  have hdn:=(hrt.leg k hk).1.dense
  obtain ⟨q,hq,hqw⟩:=hB.mark hk
  obtain ⟨ao,lo',co,rfl,hlo⟩:=hO.shape
  refine .block (.ai (.z zm ?_))
  refine .ixX (enc:=Lg.c) hs (hr.mono hle1) rfl rfl bn aZ hx dn ?_;intro b16 o16 hc16
  refine .q hs (bK (vs:=(Lg.c (lg0 r k))) rfl fQ aZ hc16) ?_
  refine .o (.alloc hs cB rfl fun b6 w hs=>?_)
  refine .z zg ?_
  refine .o (.aI (vs:=(lg0 r k).c) hs rfl rfl aZ fun w hs=>?_)
  change St _ _ (.blk b6 (lgC (lg0 r k))::_) at hs
  refine .nil ?_
  refine .cut (fun fs w=>∃H2 lo hi e b7,kQ fs ⟨60,[],[(8,I e),(7,.pointer (some ⟨b7,0,none⟩)),(6,.pointer (some ⟨b6,0,none⟩)),(5,I (k:Int)),(4,.slice ao lo' co),(1,.pointer (some ⟨b1,0,none⟩)),(11,.slice alg r.length clg),(13,I (k:Int)),(12,I (r.length:Int))]⟩∧HLe H1 H2∧kO s' q (lg0 r k).dlo (lg0 r k).dhi lo hi e∧St H2 w (.blk b7 [I lo,I hi]:: .blk b6 (lgC (lg0 r k))::en:: .blk b1 (RtV.cs ⟨s',l',a,b,c,d,t,n,.slice alg r.length clg,.slice ams (msL m r r.length).length cms,.slice amr ks.length cmr⟩)::σ)) ?_ ?_
  ·refine .draw mix rfl hs fun w hs=>?_
   refine .z 0 rfl (zfa j9) ?_;refine .ys 1 rfl hs [_,_,_,_,_,_,_,_] aJ aB ?_;refine .z 2 rfl (zfa gd) ?_;refine .y 3 rfl hs an ?_;refine .z 4 rfl zm ?_
   refine .ixX (enc:=fun x=>[I x]) (i:=5) hs rfl aq .none (hmr.mono hle1) rfl rfl ae aj (bF (l:=ks) (i:=k) ak) rfl ?_;intro b24 o24 hc24;replace hc24:=bO.one hc24
   refine .y 6 rfl hs af ?_;refine .z 7 rfl (zfa iy) ?_;refine .ys 8 rfl hs [_,_] bh az ?_
   refine .e2 (i:=9) (j:=13) aq rfl rfl rfl rfl .none .none hs ?_ ?_
   ·rw [hq]
    refine .call Tryz.call88 rfl (dI (s:=s') hs (g.mono hle1) hok hdn) ?_;rintro _ w ⟨H2,lo,hi,e,hle2,rfl,hS,hs⟩
    refine .go ?_
    refine .z 10 rfl zm ?_;refine .z 11 rfl zex ?_;refine .z 12 rfl zex ?_
    refine .E 13 hs ?_
    refine .alloc hs bS rfl ?_;intro b7 w hs
    refine .go ?_
    refine .E 14 hs ?_
    refine .aI (vs:=[_,_]) hs rfl rfl az ?_;intro w hs
    refine .go ?_
    refine .z 15 rfl zg ?_;refine .D hs ?_
    exact nT ⟨H2,lo,hi,e,b7,bD,hle2,hS,hs.sb⟩
   ·refine .alloc hs bS rfl ?_;intro b7 w hs
    refine .go ?_
    refine .E 9 hs ?_
    rw [hq]
    refine .call Tryz.call88 rfl (dI (s:=s') hs (g.mono hle1) hok hdn) ?_;rintro _ w ⟨H2,lo,hi,e,hle2,rfl,hS,hs⟩
    refine .go ?_
    refine .z 10 rfl zm ?_;refine .z 11 rfl zex ?_;refine .z 12 rfl zex ?_
    refine .E 14 hs ?_
    refine .aI (vs:=[_,_]) hs rfl rfl az ?_;intro w hs
    refine .go ?_
    refine .z 15 rfl zg ?_;refine .D hs ?_
    exact nT ⟨H2,lo,hi,e,b7,bD,hle2,hS,hs.sb⟩
  ·rintro fs w ⟨H2,lo,hi,e,b7,hfs,hle2,hS,hs⟩
   refine WE.sub ?_ hfs
   clear hfs
   have hle02:=hle1.trans hle2
   refine .seq (.ai (.z zm (.z gE (.nil ?_))))
   refine (.ep rfl (fun hc32=>?_) (fun hc32=>?_))
   ·refine .ai (.z zm (.z zg (.z zg (.nil ?_))))
    refine .ret (rT (rB (rT (rB (rT (Fin.kn Tryz.results80 rfl rfl ?_))))))
    exact ⟨H2,_,[],_,hle02,rfl,RS.nil H2 1 none 0,by rcases hS.err hok hqw with h|h;exact (hc32 h.1).elim;rw [h.1];exact .fls hB h.2.1,hs.out⟩
   ·refine .skip ?_
    refine nT ?_
    refine .ai (.z zg (.nil ?_))
    refine .cut (fun fs w=>∃x,kQ fs ⟨60,[],[(9,I x),(4,.slice ao lo' co),(1,.pointer (some ⟨b1,0,none⟩)),(11,.slice alg r.length clg),(13,I (k:Int)),(12,I (r.length:Int))]⟩∧x=xi (mm m r k) lo hi∧St H2 w (.blk b7 [I lo,I hi]:: .blk b6 (lgC (lg0 r k))::en:: .blk b1 (RtV.cs ⟨s',l',a,b,c,d,t,n,.slice alg r.length clg,.slice ams (msL m r r.length).length cms,.slice amr ks.length cmr⟩)::σ)) ?_ ?_
    ·refine .block ?_
     refine .seq (.draw mix rfl hs fun w hs=>?_)
     refine .z 0 rfl (zfa j8) ?_;refine .y 1 rfl hs Tryz.isAgg80 ?_;refine .z 2 rfl zm ?_
     refine .ixX (enc:=Rng.c) (i:=3) hs rfl aq .none (RS.mono hms hle02) rfl rfl eg az hxm rfl ?_;intro b38 o38 hc38
     refine .z 4 rfl (zfa dh) ?_
     refine .r (i:=5) hs rfl aq .none (aR rfl af (hc38.get 1 rfl)) ?_
     refine .z 6 rfl (zfa bR) ?_;refine .y 7 rfl hs af ?_;refine .z 8 rfl um ?_;refine .z 9 rfl zg ?_;refine .D hs ?_
     refine (.bT rfl (fun hc34=>?_) (fun hc34=>?_))
     ·refine .region (.z zg (.nil ?_))
      refine nB (nT ?_)
      exact ⟨_,bD,by unfold xi;simp [*],hs⟩
     ·refine .seq (.draw mix rfl hs fun w hs=>?_)
      refine .z 0 rfl (zfa j8) ?_;refine .y 1 rfl hs Tryz.isAgg80 ?_;refine .z 2 rfl zm ?_
      refine .ixX (enc:=Rng.c) (i:=3) hs rfl aq .none (RS.mono hms hle02) rfl rfl eg az hxm rfl ?_;intro b48 o48 hc48
      refine .z 4 rfl (zfa bR) ?_
      refine .r (i:=5) hs rfl aq .none (aR rfl af (hc48.get 0 rfl)) ?_
      refine .z 6 rfl (zfa dh) ?_;refine .y 7 rfl hs af ?_;refine .z 8 rfl qH ?_;refine .z 9 rfl zg ?_;refine .D hs ?_
      refine (.bT rfl (fun hc44=>?_) (fun hc44=>?_))
      ·refine .region (.z zg (.nil ?_))
       refine nB (nT ?_)
       exact ⟨_,bD,by unfold xi;simp [*],hs⟩
      ·refine .skip ?_
       refine nB (nT ?_)
       exact ⟨_,bD,by unfold xi;simp [*],hs⟩
    ·rintro fs w ⟨x,hfs,hx9,hs⟩
     refine WE.sub ?_ hfs
     clear hfs
     refine .region (.z zm (.z zm ?_))
     refine .o (.buildSlice (cells:=Is [x]) hs cA rfl aq fun b56 w hs=>?_)
     refine .o (.append (ys:=Is [x]) hs cn rfl rfl hO (.own .here rfl rfl) (iX _) (fun l h=>by simp [Is] at h;omega) ?_);intro v57 en57 w hO2 hs
     rw [←List.map_append] at hO2
     refine .z zg (.nil ?_)
     refine nB (nT ?_)
     obtain rfl:e=0:=by omega
     exact .mk ⟨H2,_,as_++[x],_,rfl,hle02,by simp [hal],fun i hi=>by
      by_cases e:i=k
      ·subst e;exact ⟨_,_,by rw [hq,Int.toNat_natCast];exact hS,by rw [mS,if_neg ak,if_pos ak];exact hx9⟩
      ·rw [mS,if_pos ak];exact has i ak,fun _=>(hS.err hok hqw).elim (fun h=>h.2) (fun h=>by omega),hO2,hs.sb⟩
 ·rintro fr w ⟨H1,vo,as_,en,rfl,hle1,hal,has,hsd,hO,hs⟩
  obtain ⟨H4,hle4,hRk,hs⟩:=hO.dM ak hs .here
  refine nT ?_
  refine .ai (.z zm (.z zg (.z zg (.nil ?_))))
  refine .ret (Fin.kn Tryz.results80 rfl rfl ?_)
  exact ⟨H4,_,_,_,hle1.trans hle4,rfl,hRk,.ok hB (hsd ak) hal has,hs.out⟩
theorem mN{s:Srv}{l:Lns}{r:List Lg}{m:Rng}{a b c d vt vs vlg:Value}(hs:St H w σ)(g:SvM H s a b c d)(gl:LnM H l vt vs)(gr_:RLg H vlg r):
  Cl Tryz.prog 79 [svA s a b c d,lnA l vt vs,.agg #[vlg],.agg #[I m.lo,I m.hi]] w fun u w'=>∃(H1:bB) (z:RtV) (ks:List Int) (e:Int),HLe H H1∧u= .tuple #[z.agg,I e]∧z.cs.all Value.oneCell'=true∧nC s l r m ks e∧(e=0→RtM H1 s l r m ks z)∧St H1 w' σ:=by
 refine (tD hs g gl gr_).mono ?_
 rintro u w' ⟨H1,z,ks,e,hle,hu,ho,hB,h0,hs⟩
 exact ⟨H1,z,ks,e,hle,hu,ho,hB,fun he=>by
  obtain ⟨vms,vmk,rfl,h1,h2⟩:=h0 he
  subst he
  exact ⟨rfl,rfl,g.mono hle,gl.mono hle,gr_.mono hle,h1,h2,ho,hB⟩,hs⟩
theorem q7{s:Srv}{l:Lns}{r:List Lg}{m:Rng}{a b c d vt vs vlg:Value}(hs:St H w σ)(g:SvM H s a b c d)(gl:LnM H l vt vs)(gr_:RLg H vlg r):
  Cl Tryz.prog 24 [svA s a b c d,lnA l vt vs,.agg #[vlg],.agg #[I m.lo,I m.hi]] w fun u w'=>∃H1 v as_ e,HLe H H1∧u= .tuple #[v,I e]∧RI H1 v as_∧DR s l r m as_ e∧St H1 w' σ:=by
 refine Cl.o Tryz.func24 Tryz.ntmps24 ag4 ?_
 refine .ai ?_
 refine .bx hs fun b4 w hs=>?_
 refine .bx hs fun b5 w hs=>?_
 refine .bx hs fun b6 w hs=>?_
 refine .bx hs fun b7 w hs=>?_
 refine .z zg (.z zg (.nil (.ai (.y hs (zls [_,_,_,_,_,_,_,_] aJ aB) (.y hs (zls [_,_,_,_] bE aO) (.y hs (zls [_] bQ aU) (.y hs (zls [_,_] bh az) ?_)))))))
 refine .o (.call Tryz.call79 rfl (mN (s:=s) (l:=l) (m:=m) hs g gl gr_) ?_);rintro _ w ⟨H1,z,ks,e,hle1,rfl,ho,hB,h0,hs⟩
 refine .z zm (.z zex (.z zex ?_))
 refine .o (.alloc hs jS rfl fun b10 w hs=>?_)
 refine .o (.aI (vs:=z.cs) hs rfl rfl bZ ?_ (hv:=ho));intro w hs
 refine .z zg (.nil (.seq (.ai (.z zm (.z gE (.nil ?_))))))
 refine (.ep rfl (fun hc21=>?_) (fun hc21=>?_))
 ·refine .ai (.z zm (.z zg (.z zg (.nil ?_))))
  refine .ret (rT (Fin.kn Tryz.results24 rfl rfl ?_))
  exact ⟨H1,_,[],_,hle1,rfl,RS.nil H1 1 none 0,.bad hB hc21,hs.out⟩
 ·refine .skip ?_
  refine nT ?_
  refine .ai (.y hs (zls [_,_,_,_,_,_,_,_,_,_,_,_,_,_,_] lQ bZ) ?_)
  obtain rfl:e=0:=by omega
  refine .o (.call Tryz.call80 rfl (q6 hs (h0 rfl)) ?_);rintro _ w ⟨H2,v,as_,e,hle2,rfl,hR,hA,hs⟩
  refine .z zex (.z zex (.z zg (.z zg (.nil ?_))))
  refine .ret (Fin.kn Tryz.results24 rfl rfl ?_)
  exact ⟨H2,_,_,_,hle1.trans hle2,rfl,hR,hA,hs.out⟩
theorem sj{v:Value}{as_:List Int}(hs:St H w σ)(hr:RI H v as_):Cl Tryz.prog 86 [v] w fun u w'=>u=I (wH as_)∧St H w' σ:=by
 obtain ⟨a,c,rfl⟩:=RI.shape hr
 have hl:=(RI.len hr).2.2
 refine Cl.o Tryz.func86 Tryz.ntmps86 ag1 ?_
 refine .ai (.z zg (.nil (.ai (.z zg (.nil (.seq (.ai (.z zm (.z (cZ ae) ?_)))))))))
 refine .z zm (.nil ?_)
 refine .for (N:=as_.length) (J:=fun k fr w=>fr=[(3,I (if (2:Int)∈as_.take k then 2 else 1)),(6,.slice a as_.length c)]∧(∀i<k,gi as_ i≠0)∧St H w σ) ak ?_ ?_ ?_
 ·exact .mk ⟨rfl,fun i hi=>by omega,hs⟩
 ·rintro k fr w hk ⟨rfl,hno,hs⟩
  have ht:=cC (bF hk)
  refine .block (.ai ?_)
  refine .ixY hs hr rfl rfl ae aj (bF (l:=as_) (i:=k) ak) dn ?_;intro b10 o10 hc10
  refine .q hs (aR rfl af hc10) ?_
  refine .z zg (.nil (.ai (.z zm (.nil (.block (.ai (.z jU (.z zg (.nil ?_)))))))))
  refine (.bT rfl (fun hc13=>?_) (fun hc13=>?_))
  ·refine .ai (.z zg (.nil ?_))
   refine .ret (rB (rB (rT (rB (rT (Fin.bw Tryz.results86 rfl ?_))))))
   exact ⟨by unfold wH;rw [if_pos (by rw [←hc13];exact List.mem_of_getElem? (bF hk))],hs⟩
  ·refine .ai (.z jU (.z zg (.nil ?_)))
   refine (.bT rfl (fun hc15=>?_) (fun hc15=>?_))
   ·refine .region (.z zg (.nil ?_))
    refine nB (nB (nT ?_))
    exact .mk ⟨by rw [ht,if_pos (List.mem_append.2 (.inr (by rw [hc15];exact .head _)))],fun i hi=>by
     by_cases e:i=k
     ·subst e;exact hc13
     ·exact hno i ak,hs⟩
   ·refine .skip ?_
    refine nB (nB (nT ?_))
    have e2:(if (2:Int)∈as_.take (k+1) then (2:Int) else 1)=if (2:Int)∈as_.take k then 2 else 1:=by
     have e:(2:Int)∈as_.take (k+1)↔(2:Int)∈as_.take k:=by
      rw [ht,List.mem_append]
      exact ⟨fun h=>h.elim id fun h=>by rw [List.mem_singleton] at h;exact (hc15 h.symm).elim,.inl⟩
     simp only [e]
    exact .mk ⟨by rw [e2],fun i hi=>by
     by_cases e:i=k
     ·subst e;exact hc13
     ·exact hno i ak,hs⟩
 ·rintro fr w ⟨rfl,hno,hs⟩
  rw [List.take_length]
  refine nT ?_
  refine .ai (.z zm (.z zg (.nil ?_)))
  refine .ret (Fin.bw Tryz.results86 rfl ?_)
  have h0:¬(0:Int)∈as_:=fun h=>by
   obtain ⟨i,hi⟩:=List.getElem?_of_mem h
   have hlt:=(List.getElem?_eq_some_iff.1 hi).1
   rw [bF hlt] at hi
   exact hno i hlt (Option.some.inj hi)
  exact ⟨by unfold wH;rw [if_neg h0],hs⟩
theorem fg{s:Srv}{l:Lns}{r:List Lg}{m:Rng}{a b c d vt vs vlg:Value}(hs:St H w σ)(g:SvM H s a b c d)(gl:LnM H l vt vs)(gr_:RLg H vlg r):
  Cl Tryz.prog 26 [svA s a b c d,lnA l vt vs,.agg #[vlg],.agg #[I m.lo,I m.hi]] w fun u w'=>∃H1 n e,HLe H H1∧u= .tuple #[I n,I e]∧Bw s l r m n e∧St H1 w' σ:=by
 refine Cl.o Tryz.func26 Tryz.ntmps26 ag4 ?_
 refine .ai ?_
 refine .bx hs fun b4 w hs=>?_
 refine .bx hs fun b5 w hs=>?_
 refine .bx hs fun b6 w hs=>?_
 refine .bx hs fun b7 w hs=>?_
 refine .z zg (.z zg (.nil (.ai (.y hs (zls [_,_,_,_,_,_,_,_] aJ aB) (.y hs (zls [_,_,_,_] bE aO) (.y hs (zls [_] bQ aU) (.y hs (zls [_,_] bh az) ?_)))))))
 refine .o (.call Tryz.call24 rfl (q7 (s:=s) (l:=l) (m:=m) hs g gl gr_) ?_);rintro _ w ⟨H1,v,as_,e,hle1,rfl,hR,hA,hs⟩
 refine .z zm (.z zex (.z zex (.z zg (.z zg (.nil (.seq (.ai (.z zm (.z gE ?_)))))))))
 refine .nil ?_
 refine (.ep rfl (fun hc21=>?_) (fun hc21=>?_))
 ·refine .ai (.z zm (.z zg (.z zg (.nil ?_))))
  refine .ret (rT (Fin.kn Tryz.results26 rfl rfl ?_))
  exact ⟨H1,_,_,hle1,rfl,.bad hA hc21,hs.out⟩
 ·refine .skip ?_
  refine nT ?_
  refine .ai (.z zm ?_)
  obtain rfl:e=0:=by omega
  refine .o (.call Tryz.call86 rfl (sj hs hR) ?_);rintro _ w ⟨rfl,hs⟩
  refine .z zg (.z zg (.nil ?_))
  refine .ret (Fin.kn Tryz.results26 rfl rfl ?_)
  exact ⟨H1,_,_,hle1,rfl,.ok hA,hs.out⟩
set_option maxHeartbeats 1000000 in
theorem og{s:Srv}{l:Lns}{r:List Lg}{a b c d vt vs vlg:Value}(hs:St H w σ)(g:SvM H s a b c d)(gl:LnM H l vt vs)(gr_:RLg H vlg r):
  Cl Tryz.prog 28 [svA s a b c d,lnA l vt vs,.agg #[vlg]] w fun u w'=>∃H1 n e,HLe H H1∧u= .tuple #[I n,I e]∧qv s l r n e∧St H1 w' σ:=by
 refine Cl.o Tryz.func28 Tryz.ntmps28 ag3 ?_
 refine .ai ?_
 refine .bx hs fun b3 w hs=>?_
 refine .bx hs fun b4 w hs=>?_
 refine .bx hs fun b5 w hs=>?_
 refine .z zg (.z zg (.nil (.ai (.y hs (zls [_,_,_,_,_,_,_,_] aJ aB) (.y hs (zls [_,_,_,_] bE aO) (.y hs (zls [_] bQ aU) (.z (zbd [I 0,I 0] bA) ?_)))))))
 refine .o (.call Tryz.call79 rfl (mN (s:=s) (l:=l) (m:=⟨0,0⟩) hs g gl gr_) ?_);rintro _ w ⟨H1,z,ks,e,hle1,rfl,ho,hB,h0,hs⟩
 refine .z zm (.z zex (.z zex ?_))
 refine .o (.alloc hs jS rfl fun b8 w hs=>?_)
 refine .o (.aI (vs:=z.cs) hs rfl rfl bZ ?_ (hv:=ho));intro w hs
 refine .z zg (.nil (.seq (.ai (.z zm (.z gE (.nil ?_))))))
 refine (.ep rfl (fun hc25=>?_) (fun hc25=>?_))
 ·refine .ai (.z zm (.z zg (.z zg (.nil ?_))))
  refine .ret (rT (Fin.kn Tryz.results28 rfl rfl ?_))
  exact ⟨H1,_,_,hle1,rfl,.bad hB hc25,hs.out⟩
 ·refine .skip ?_
  refine nT ?_
  refine .ai (.z zg (.z zg (.nil (.seq (.ai ?_)))))
  obtain rfl:e=0:=by omega
  obtain ⟨s',l',a',b',c',d',t',n',lg',ms',mr'⟩:=z
  obtain ⟨rfl,rfl,-,-,hr',hms,hmr,hone,-⟩:=h0 rfl
  dsimp only at hr' hms hmr
  obtain ⟨alg,clg,rfl⟩:=hr'.shape
  obtain ⟨amr,cmr,rfl⟩:=RI.shape hmr
  obtain ⟨hok,hl,hrt,hm,hkl,hlow⟩:=hB.ok'
  have hn:=hrt.many
  refine .z (zfa iE) (.y hs (zld fj) (.z (cZ bn) (.z zm (.nil ?_))))
  refine .for (N:=r.length) (J:=fun k fr w=>∃H2 dd best,fr=[(10,I best),(11,I (aM (fun i=>(lg0 r i).blo) k)),(28,.slice alg r.length clg),(8,.pointer (some ⟨b8,0,none⟩)),(3,.pointer (some ⟨b3,0,none⟩))]∧HLe H1 H2∧(∀i<k,∃hi,kO s' (gi ks i).toNat (lg0 r i).dlo (lg0 r i).dhi (dd i) hi 0)∧Ho dd (fun i=>(lg0 r i).blo) k best∧((-300000000≤best∧best≤1000000000000)∧0≤aM (fun i=>(lg0 r i).blo) k∧aM (fun i=>(lg0 r i).blo) k≤k*1000000000000)∧(0<k→s'.sys.Sound)∧St H2 w (.blk b8 (RtV.cs ⟨s',l',a',b',c',d',t',n',.slice alg r.length clg,ms',.slice amr ks.length cmr⟩):: .blk b3 (svC s' a b c d)::σ)) ak ?_ ?_ ?_
  ·exact .mk ⟨H1,fun _=>0,1000000000000,rfl,HLe.refl _,fun i hi=>by omega,.inl ⟨fun i hi=>by omega,rfl⟩,by simp [aM],fun h=>by omega,hs.sb⟩
  ·rintro k fr w hk ⟨H2,dd,best,rfl,hle2,hds,hSI,hbd,hsd,hs⟩
   have hx:=o9 (l:=r) hk
   have hdn:=(hrt.leg k hk).1.dense
   have hbn:=(hrt.leg k hk).1.burn
   unfold eQ at hbn
   obtain ⟨q,hq,hqw⟩:=hB.mark hk
   have hsS:aM (fun i=>(lg0 r i).blo) (k+1)=aM (fun i=>(lg0 r i).blo) k+(lg0 r k).blo:=rfl
   generalize hSe:aM (fun i=>(lg0 r i).blo) k=S at*
   refine .block (.ai (.z zm ?_))
   refine .ixX (enc:=Lg.c) hs (hr'.mono hle2) rfl rfl bn aZ hx dn ?_;intro b33 o33 hc33
   refine .q hs (bK (vs:=(Lg.c (lg0 r k))) rfl fQ aZ hc33) ?_
   refine .o (.alloc hs cB rfl fun b13 w hs=>?_)
   refine .z zg ?_
   refine .o (.aI (vs:=(lg0 r k).c) hs rfl rfl aZ fun w hs=>?_)
   change St _ _ (.blk b13 (lgC (lg0 r k))::_) at hs
   refine .nil ?_
   refine .cut (fun fs w=>∃H3 lo hi e b14,kQ fs ⟨68,[],[(15,I e),(14,.pointer (some ⟨b14,0,none⟩)),(13,.pointer (some ⟨b13,0,none⟩)),(10,I best),(11,I S),(28,.slice alg r.length clg),(8,.pointer (some ⟨b8,0,none⟩)),(3,.pointer (some ⟨b3,0,none⟩)),(30,I (k:Int)),(29,I (r.length:Int))]⟩∧HLe H2 H3∧kO s' q (lg0 r k).dlo (lg0 r k).dhi lo hi e∧St H3 w (.blk b14 [I lo,I hi]:: .blk b13 (lgC (lg0 r k)):: .blk b8 (RtV.cs ⟨s',l',a',b',c',d',t',n',.slice alg r.length clg,ms',.slice amr ks.length cmr⟩):: .blk b3 (svC s' a b c d)::σ)) ?_ ?_
   ·refine .draw mix rfl hs fun w hs=>?_
    refine .ys 0 rfl hs [_,_,_,_,_,_,_,_] aJ aB ?_;refine .z 1 rfl (zfa gd) ?_;refine .y 2 rfl hs an ?_;refine .z 3 rfl zm ?_
    refine .ixX (enc:=fun x=>[I x]) (i:=4) hs rfl aq .none (RS.mono hmr hle2) rfl rfl ae aj (bF (l:=ks) (i:=k) ak) rfl ?_;intro b40 o40 hc40;replace hc40:=bO.one hc40
    refine .y 5 rfl hs af ?_;refine .z 6 rfl (zfa iy) ?_;refine .ys 7 rfl hs [_,_] bh az ?_
    refine .e2 (i:=8) (j:=12) aq rfl rfl rfl rfl .none .none hs ?_ ?_
    ·rw [hq]
     refine .call Tryz.call88 rfl (dI (s:=s') hs (g.mono (hle1.trans hle2)) hok hdn) ?_;rintro _ w ⟨H3,lo,hi,e,hle3,rfl,hS,hs⟩
     refine .go ?_
     refine .z 9 rfl zm ?_;refine .z 10 rfl zex ?_;refine .z 11 rfl zex ?_
     refine .E 12 hs ?_
     refine .alloc hs bS rfl ?_;intro b14 w hs
     refine .go ?_
     refine .E 13 hs ?_
     refine .aI (vs:=[_,_]) hs rfl rfl az ?_;intro w hs
     refine .go ?_
     refine .z 14 rfl zg ?_;refine .D hs ?_
     exact nT ⟨H3,lo,hi,e,b14,bD,hle3,hS,hs.sb⟩
    ·refine .alloc hs bS rfl ?_;intro b14 w hs
     refine .go ?_
     refine .E 8 hs ?_
     rw [hq]
     refine .call Tryz.call88 rfl (dI (s:=s') hs (g.mono (hle1.trans hle2)) hok hdn) ?_;rintro _ w ⟨H3,lo,hi,e,hle3,rfl,hS,hs⟩
     refine .go ?_
     refine .z 9 rfl zm ?_;refine .z 10 rfl zex ?_;refine .z 11 rfl zex ?_
     refine .E 13 hs ?_
     refine .aI (vs:=[_,_]) hs rfl rfl az ?_;intro w hs
     refine .go ?_
     refine .z 14 rfl zg ?_;refine .D hs ?_
     exact nT ⟨H3,lo,hi,e,b14,bD,hle3,hS,hs.sb⟩
   ·rintro fs w ⟨H3,lo,hi,e,b14,hfs,hle3,hS,hs⟩
    refine WE.sub ?_ hfs
    clear hfs
    have hle03:=hle1.trans (hle2.trans hle3)
    have hSb:=hS.bd hdn
    refine .seq (.ai (.z zm (.z gE (.nil ?_))))
    refine (.ep rfl (fun hc48=>?_) (fun hc48=>?_))
    ·refine .ai (.z zm (.z zg (.z zg (.nil ?_))))
     refine .ret (rT (rB (rT (rB (rT (Fin.kn Tryz.results28 rfl rfl ?_))))))
     exact ⟨H3,_,_,hle03,rfl,by rcases hS.err hok hqw with h|h;exact (hc48 h.1).elim;rw [h.1];exact .fls hB h.2.1,hs.out⟩
    ·refine .skip ?_
     refine nT ?_
     refine .seq (.ai (.z (zfa bR) ?_))
     obtain rfl:e=0:=by omega
     have hnx:∀i<k+1,∃hi,kO s' (gi ks i).toNat (lg0 r i).dlo (lg0 r i).dhi (D2 dd k lo i) hi 0:=fun i hi=>by
      by_cases e:i=k
      ·subst e;rw [vV,hq,Int.toNat_natCast];exact ⟨_,hS⟩
      ·rw [vU _ _ ak];exact hds i ak
     have hsd':s'.sys.Sound:=(hS.err hok hqw).elim (fun h=>h.2) (fun h=>by omega)
     refine .y hs (zld af) (.z iM (.nil ?_))
     refine (.bT rfl (fun hc52=>?_) (fun hc52=>?_))
     ·refine .region (.z zg (.nil ?_))
      refine nT ?_
      refine .ai (.z zm (.z (zfa bR) (.y hs (zld af) (.z zm (.z cf (.z BE (.z zg (.nil (.region ?_)))))))))
      refine .z zm (.z (zfa iw) (.z (zfa bR) (.y hs (zld af) (.z cf (.z zg (.nil ?_))))))
      refine nB (nT ?_)
      exact .mk ⟨H3,D2 dd k lo,min (-1) (lo+S),by rw [hsS],hle2.trans hle3,hnx,.neg hc52,ak,fun _=>hsd',hs.sb⟩
     ·refine .skip ?_
      refine nT ?_
      refine .ai (.z zm (.z (zfa bR) (.y hs (zld af) (.z zm (.z cf (.z BE (.z zg (.nil (.region ?_)))))))))
      refine .z zm (.z (zfa iw) (.z (zfa bR) (.y hs (zld af) (.z cf (.z zg (.nil ?_))))))
      refine nB (nT ?_)
      exact .mk ⟨H3,D2 dd k lo,min best (lo+S),by rw [hsS],hle2.trans hle3,hnx,by rw [←hSe];exact hSI.pos ak,ak,fun _=>hsd',hs.sb⟩
  ·rintro fr w ⟨H2,dd,best,rfl,hle2,hds,hSI,hbd,hsd,hs⟩
   refine nT ?_
   refine .seq (.ai (.z zm (.z iM (.nil ?_))))
   refine (.bT rfl (fun hc66=>?_) (fun hc66=>?_))
   ·refine .ai (.z zg (.z zg (.nil ?_)))
    refine .ret (rT (Fin.kn Tryz.results28 rfl rfl ?_))
    rcases hSI with ⟨h1,h2⟩|⟨⟨i,h1,h3⟩,h2⟩
    ·exfalso
     have key:∀n,n≤r.length→0≤jr dd (fun i=>(lg0 r i).blo) n:=fun n=>by
      induction n with
      |zero=>intro _;simp [jr]
      |succ n ih=>
       intro hn
       have:=ih ak
       have:=h1 n ak
       have:0≤aM (fun i=>(lg0 r i).blo) n:=cz fun i hi=>(hrt.leg i ak).1.burn.1
       simp only [jr];omega
     have:=key _ (Nat.le_refl _)
     omega
    ·obtain ⟨hi,hS⟩:=hds i h1
     exact ⟨H2,_,_,hle1.trans hle2,rfl,.none hB (hsd ak) h1 hS h3,hs.out⟩
   ·refine .skip ?_
    refine nT ?_
    refine .ai (.z zm (.z zg (.z zg (.nil ?_))))
    refine .ret (Fin.kn Tryz.results28 rfl rfl ?_)
    rcases hSI with ⟨h1,h2⟩|⟨_,h2⟩
    ·rw [h2]
     exact ⟨H2,_,_,hle1.trans hle2,rfl,.ok hB (hsd ak) fun i hi=>⟨hds i hi,h1 i hi⟩,hs.out⟩
    ·omega
set_option maxHeartbeats 1000000 in
theorem nJ{s:Srv}{l:Lns}{r:List Lg}{m:Rng}{x:Wit}{a b c d vt vs vlg vh:Value}(hs:St H w σ)(g:SvM H s a b c d)(gl:LnM H l vt vs)(gr_:RLg H vlg r)(gh:RT H vh x.rows):
  Cl Tryz.prog 32 [svA s a b c d,lnA l vt vs,.agg #[vlg],.agg #[I m.lo,I m.hi],.agg #[I x.leg,I x.dense,I x.uA,vh]] w fun u w'=>∃H1 e,HLe H H1∧u=I e∧FY s l r m x e∧St H1 w' σ:=by
 refine Cl.o Tryz.func32 Tryz.ntmps32 ag5 ?_
 refine .ai ?_
 refine .bx hs fun b5 w hs=>?_
 refine .bx hs fun b6 w hs=>?_
 refine .bx hs fun b7 w hs=>?_
 refine .bx hs fun b8 w hs=>?_
 refine .bx hs fun b9 w hs=>?_
 refine .z zg (.nil (.ai (.y hs (zls [_,_,_,_,_,_,_,_] aJ aB) (.y hs (zls [_,_,_,_] bE aO) (.y hs (zls [_] bQ aU) (.y hs (zls [_,_] bh az) ?_))))))
 refine .o (.call Tryz.call79 rfl (mN (s:=s) (l:=l) (m:=m) hs g gl gr_) ?_);rintro _ w ⟨H1,z,ks,e,hle1,rfl,ho,hB,h0,hs⟩
 refine .z zm (.z zex (.z zex ?_))
 refine .o (.alloc hs jS rfl fun b11 w hs=>?_)
 refine .o (.aI (vs:=z.cs) hs rfl rfl bZ ?_ (hv:=ho));intro w hs
 refine .z zg (.nil (.seq (.ai (.z zm (.z gE (.nil ?_))))))
 refine (.ep rfl (fun hc26=>?_) (fun hc26=>?_))
 ·refine .ai (.z zm (.z zg (.nil ?_)))
  refine .ret (rT (Fin.bw nZ rfl ?_))
  exact ⟨H1,_,hle1,rfl,.bad hB hc26,hs.out⟩
 ·refine .skip ?_
  refine nT ?_
  refine .seq (.ai ?_)
  obtain rfl:e=0:=by omega
  obtain ⟨s',l',a',b',c',d',t',n',lg',ms',mr'⟩:=z
  obtain ⟨rfl,rfl,g',-,hr',hms,hmr,hone,-⟩:=h0 rfl
  dsimp only at g' hr' hms hmr
  obtain ⟨alg,clg,rfl⟩:=hr'.shape
  obtain ⟨ams,cms,rfl⟩:=hms.shape
  obtain ⟨amr,cmr,rfl⟩:=RI.shape hmr
  obtain ⟨hok,hl,hrt,hm,hkl,hlow⟩:=hB.ok'
  have hn:=hrt.many
  have hml:=nx m r r.length
  replace gh:=gh.mono hle1
  refine .z (zfa gS) (.y hs (zld af) (.z (zfa iE) (.y hs (zld fj) (.z (cZ bn) (.z gZ ?_)))))
  refine .o (.call dF rfl (bG hs) ?_);rintro _ w ⟨rfl,hs⟩
  refine .z gy (.z zm ?_)
  refine .bif (t':=36) rfl (fun hb36=>?_) (fun hb36=>?_)
  ·refine .gFs 5 8 false rfl rfl rfl ?_
   refine .z zpT (.nil ?_)
   refine (.cT ?_)
   refine .ai (.z zg (.nil ?_))
   refine .ret (rT (Fin.bw nZ rfl ?_))
   exact ⟨H1,_,hle1,rfl,.no hB (fun h=>by have:=h.leg;simp_all),hs.out⟩
  ·refine .gT rfl rfl ?_
   refine .y hs (zls [_,_,_,_,_,_,_,_] aJ aB) ?_
   refine .gT rfl rfl ?_
   refine .z (zfa lX) ?_
   refine .gT rfl rfl ?_
   refine .y hs (zls [_] Tryz.isAgg64 yR) ?_
   refine .gT rfl rfl ?_
   refine .o (.call Tryz.call65 rfl (ml (s:=s') (rows:=x.rows) hs (g.mono hle1).st (g.mono hle1).wa (g.mono hle1).rd (g.mono hle1).cm gh) ?_);rintro _ w ⟨H2,e,hle2,rfl,hCh,hs⟩
   have hle02:=hle1.trans hle2
   refine .gT rfl rfl ?_
   refine .z gE (.z zpF (.nil ?_))
   refine (.ep rfl (fun hc42=>?_) (fun hc42=>?_))
   ·refine .ai (.z zg (.nil ?_))
    refine .ret (rT (Fin.bw nZ rfl ?_))
    exact ⟨H2,_,hle02,rfl,.no hB (fun h=>hc42 (hCh.uniq h.hull)),hs.out⟩
   ·refine .skip ?_
    refine nT ?_
    refine .cut (fun fs w=>∃b13 b14,kQ fs ⟨101,[],[(14,.pointer (some ⟨b14,0,none⟩)),(13,.pointer (some ⟨b13,0,none⟩)),(11,.pointer (some ⟨b11,0,none⟩)),(9,.pointer (some ⟨b9,0,none⟩))]⟩∧St H2 w (.blk b14 (mm m r x.leg.toNat).c:: .blk b13 (lg0 r x.leg.toNat).c:: .blk b11 (RtV.cs ⟨s',l',a',b',c',d',t',n',.slice alg r.length clg,.slice ams (msL m r r.length).length cms,.slice amr ks.length cmr⟩):: .blk b9 [I x.leg,I x.dense,I x.uA,vh]::σ)) ?_ ?_
    ·refine .draw mix rfl hs fun w hs=>?_
     have hleg:0≤x.leg∧x.leg≤(r.length:Int) - 1:=by simpa using hb36
     obtain rfl:e=0:=by omega
     have hlt:x.leg.toNat<r.length:=by omega
     have hxl:=o9 (l:=r) hlt
     have hxm:=Cz m r (k:=r.length) (i:=x.leg.toNat) ak
     refine .z 0 rfl (zfa iE) ?_;refine .y 1 rfl hs fj ?_;refine .z 2 rfl (zfa gS) ?_;refine .y 3 rfl hs af ?_
     refine .ixX (enc:=Lg.c) (i:=4) hs rfl aq .none (RS.mono hr' hle2) rfl rfl bn aZ hxl ak ?_;intro b47 o47 hc47
     refine .r (i:=5) hs rfl aq .none (bK (vs:=(lg0 r x.leg.toNat).c) rfl fQ aZ hc47) ?_
     refine .z 6 rfl (zfa j8) ?_;refine .y 7 rfl hs Tryz.isAgg80 ?_;refine .z 8 rfl (zfa gS) ?_;refine .y 9 rfl hs af ?_
     refine .ixX (enc:=Rng.c) (i:=10) hs rfl aq .none (RS.mono hms hle2) rfl rfl eg az hxm ak ?_;intro b53 o53 hc53
     refine .r (i:=11) hs rfl aq .none (bK (vs:=(mm m r x.leg.toNat).c) rfl bh az hc53) ?_
     refine .e2 (i:=12) (j:=13) aq rfl rfl rfl rfl .none .none hs ?_ ?_
     ·refine .alloc hs cB rfl ?_;intro b13 w hs
      refine .go ?_
      refine .E 13 hs ?_
      refine .alloc hs bS rfl ?_;intro b14 w hs
      refine .go ?_
      refine .E 14 hs ?_
      refine .aI (vs:=(lg0 r x.leg.toNat).c) hs rfl rfl aZ ?_;intro w hs
      refine .go ?_
      refine .E 15 hs ?_
      refine .aI (vs:=(mm m r x.leg.toNat).c) hs rfl rfl az ?_;intro w hs
      refine .go ?_
      refine .D hs ?_
      exact nT ⟨b13,b14,bD,hs.sb⟩
     ·refine .alloc hs bS rfl ?_;intro b14 w hs
      refine .go ?_
      refine .E 12 hs ?_
      refine .alloc hs cB rfl ?_;intro b13 w hs
      refine .go ?_
      refine .E 14 hs ?_
      refine .aI (vs:=(lg0 r x.leg.toNat).c) hs rfl rfl aZ ?_;intro w hs
      refine .go ?_
      refine .E 15 hs ?_
      refine .aI (vs:=(mm m r x.leg.toNat).c) hs rfl rfl az ?_;intro w hs
      refine .go ?_
      refine .D hs ?_
      exact nT ⟨b13,b14,bD,hs.sb⟩
    ·rintro fs w ⟨b13,b14,hfs,hs⟩
     refine WE.sub ?_ hfs
     clear hfs
     have hleg:0≤x.leg∧x.leg≤(r.length:Int) - 1:=by simpa using hb36
     obtain rfl:e=0:=by omega
     have hlt:x.leg.toNat<r.length:=by omega
     obtain ⟨q,hq,hqw⟩:=hB.mark hlt
     have hdn:=(hrt.leg _ hlt).1.dense
     unfold gM at hdn
     change St _ _ (.blk b14 [I (mm m r x.leg.toNat).lo,I (mm m r x.leg.toNat).hi]:: .blk b13 (lgC (lg0 r x.leg.toNat))::_) at hs
     refine .seq (.ai (.z (zfa lZ) (.y hs (zld af) (.z (zfa iy) (.z (zfa bR) (.y hs (zld af) (.z (zfa iy) (.z (zfa dh) (.y hs (zld af) ?_)))))))))
     refine .o (.call dF rfl (bG hs) ?_);rintro _ w ⟨rfl,hs⟩
     refine .z gy (.z zm ?_)
     refine .bif (t':=65) rfl (fun hb65=>?_) (fun hb65=>?_)
     ·refine .gFs 8 10 false rfl rfl rfl ?_
      refine .z zpT (.nil ?_)
      refine (.cT ?_)
      refine .ai (.z zg (.nil ?_))
      refine .ret (rT (Fin.bw nZ rfl ?_))
      exact ⟨H2,_,hle02,rfl,.no hB (fun h=>by have:=h.dense;simp_all),hs.out⟩
     ·refine .gT rfl rfl ?_
      refine .z (zfa lY) ?_
      refine .gT rfl rfl ?_
      refine .y hs (zld af) ?_
      refine .gT rfl rfl ?_
      refine .z (zfa bR) ?_
      refine .gT rfl rfl ?_
      refine .y hs (zld af) ?_
      refine .gT rfl rfl ?_
      refine .z (zfa dh) ?_
      refine .gT rfl rfl ?_
      refine .y hs (zld af) ?_
      refine .gT rfl rfl ?_
      refine .o (.call dF rfl (bG hs) ?_);rintro _ w ⟨rfl,hs⟩
      refine .gT rfl rfl ?_
      refine .z gy (.z zpF (.nil ?_))
      refine (.cond rfl (fun hc74=>?_) (fun hc74=>?_))
      ·refine .ai (.z zg (.nil ?_))
       refine .ret (rT (Fin.bw nZ rfl ?_))
       exact ⟨H2,_,hle02,rfl,.no hB (fun h=>by have:=h.uA;simp_all),hs.out⟩
      ·refine .skip ?_
       refine nT ?_
       refine .ai (.z zg (.nil ?_))
       refine .cut (fun fs w=>∃n H3,kQ fs ⟨101,[],[(15,I n),(9,.pointer (some ⟨b9,0,none⟩))]⟩∧HLe H H3∧HlR s' x.rows q n∧(-7000000000≤n∧n≤7000000000)∧St H3 w (.blk b9 [I x.leg,I x.dense,I x.uA,vh]::σ)) ?_ ?_
       ·refine .ai (.z (zfa gd) (.y hs (zld an) (.z (zfa gS) (.y hs (zld af) ?_))))
        refine .ixX (enc:=fun x=>[I x]) hs (RS.mono hmr hle2) rfl rfl ae aj (bF (l:=ks) (i:=x.leg.toNat) ak) ak ?_;intro b79 o79 hc79;replace hc79:=bO.one hc79
        rw [hq] at hc79
        refine .y hs (zld af) (.z zg (.nil (.ai (.z zm (.z qH (.nil ?_))))))
        refine (.bT rfl (fun hc82=>?_) (fun hc82=>?_))
        ·refine .draw mix rfl hs fun w hs=>?_
         refine .z 0 rfl (zfa j9) ?_;refine .z 1 rfl (zfa bC) ?_;refine .ys 2 rfl hs [_,_,_,_,_,_] aT aF ?_;refine .z 3 rfl (zfa lX) ?_;refine .ys 4 rfl hs [_] Tryz.isAgg64 yR ?_;refine .z 5 rfl zm ?_
         refine .E 6 hs ?_
         refine .call Tryz.call98 rfl (kx hs) ?_;rintro _ w ⟨rfl,hs⟩
         refine .go ?_
         refine .E 7 hs ?_
         refine .call Tryz.call64 rfl (pU (s:=s'.sp) (rows:=x.rows) (q:=⟨1,0,q⟩) hs (g'.mono hle2).st (g'.mono hle2).wa (gh.mono hle2)) ?_;rintro _ w ⟨H3,n,f,hle3,rfl,hV,hs⟩
         refine .go ?_
         refine .z 8 rfl zm ?_;refine .z 9 rfl zex ?_;refine .z 10 rfl zex ?_;refine .z 11 rfl zg ?_;refine .D hs ?_
         refine nT ?_
         obtain rfl:f=0:=by
          have hhl:=hCh.Im
          cases hV with
          |space h=>exact (h hok.early.1).elim
          |hull _ h=>exact (h hhl).elim
          |what _ _ h=>exact (h (Cd (v:=s') ak hqw)).elim
          |ok=>rfl
         exact ⟨n,H3,bD,hle02.trans hle3,.up ak hV,hV.bd rfl,hs.sb⟩
        ·refine .skip ?_
         refine nT ?_
         exact ⟨0,H2,bD,hle02,.zero ak,ak,hs.sb⟩
       ·rintro fs w ⟨n,H3,hfs,hle03,hHl,hnb,hs⟩
        refine WE.sub ?_ hfs
        clear hfs
        have hdw:(lg0 r x.leg.toNat).dlo≤x.dense∧x.dense≤(lg0 r x.leg.toNat).dhi:=by simpa using hb65
        have hmw:(mm m r x.leg.toNat).lo≤x.uA∧x.uA≤(mm m r x.leg.toNat).hi:=by simpa using hc74
        refine .seq ?_
        refine .seq (.draw mix rfl hs fun w hs=>?_)
        refine .z 0 rfl (zfa lY) ?_;refine .y 1 rfl hs af ?_;refine .z 2 rfl zm ?_;refine .z 3 rfl (zfa lZ) ?_;refine .y 4 rfl hs af ?_
        refine .E 5 hs ?_
        refine .call Tryz.call99 rfl (fF hs ak ak) ?_;rintro _ w ⟨rfl,hs⟩
        refine .go ?_
        refine .z 6 rfl um ?_;refine .D hs ?_
        refine (.bT rfl (fun hc100=>?_) (fun hc100=>?_))
        ·refine .ai (.z zg (.nil ?_))
         refine .ret (rT (Fin.bw nZ rfl ?_))
         exact ⟨H3,_,hle03,rfl,.no hB (fun h=>by
          obtain ⟨n',g1,g2⟩:=h.sinks
          rw [hq,Int.toNat_natCast] at g1
          rw [←hHl.uniq g1] at g2;omega),hs.out⟩
        ·refine .skip ?_
         refine nT ?_
         refine .ai (.z zg (.nil ?_))
         refine .ret (Fin.bw nZ rfl ?_)
         exact ⟨H3,_,hle03,rfl,.ok hB ⟨hleg,hCh,hdw,hmw,n,by rw [hq,Int.toNat_natCast];exact hHl,ak⟩,hs.out⟩
theorem p8(hs:St H w σ):
  Cl Tryz.prog 71 [] w fun u w'=>∃H1 a b c d vt vs vlg,HLe H H1∧u= .tuple #[.agg #[I 1,I 1,a,b,I 100,I 200,c,d],.agg #[I 1000,I 1200,vt,vs],.agg #[vlg]]∧SvM H1 exV a b c d∧LnM H1 oo vt vs∧RLg H1 vlg lj∧St H1 w' σ:=by
 refine Cl.of Tryz.func71 rfl Tryz.ntmps71 bV (w7) ?_
 refine .ai ?_
 refine .o (.alloc hs ee rfl fun b0 w hs=>?_)
 refine .o (.alloc hs iP rfl fun b1 w hs=>?_)
 refine .o (.alloc hs kR rfl fun b2 w hs=>?_)
 refine .nil (.ai ?_)
 refine .o (.buildSlice (cells:=Is [0,1000]) hs jn rfl aq fun b8 w hs=>?_)
 refine .o (.buildSlice (cells:=Is [0,1000]) hs jn rfl aq fun b9 w hs=>?_)
 refine .z (zbd [_,_] rN) (.z (zbd [_,_,_,_,_,_] qq) ?_)
 refine .o (.alloc hs iO rfl fun b3 w hs=>?_)
 refine .o (.aI (vs:=[_,_,_,_,_,_]) hs rfl rfl aF fun w hs=>?_)
 refine .nil (.ai (.y hs (zls [_,_,_,_,_,_] aT aF) (.z (zbd [_,_,_,_,_,_,_] gv) (.z (zbd [_,_,_,_,_,_,_] gv) (.z (zbd [_,_,_,_,_,_,_] gv) (.z (zbd [_,_,_,_,_,_,_] gv) ?_))))))
 refine .o (.buildSlice (cells:=(rdc Hj).flatten) hs nR rfl aq fun b17 w hs=>?_)
 refine .z (zbd [_,_,_,_,_,_] ni) ?_
 refine .o (.buildSlice (cells:=(cmc exV.cs).flatten) hs jI rfl aq fun b19 w hs=>?_)
 refine .z (zbd (vs:=[(0,.agg #[I 1,I 1,.slice (some ⟨b8,0,none⟩) 2 2,.slice (some ⟨b9,0,none⟩) 2 2,I 100,I 200]),(1,.slice (some ⟨b17,0,none⟩) 4 4),(2,.slice (some ⟨b19,0,none⟩) 1 1)]) [I 1,I 1,.slice (some ⟨b8,0,none⟩) 2 2,.slice (some ⟨b9,0,none⟩) 2 2,I 100,I 200,.slice (some ⟨b17,0,none⟩) 4 4,.slice (some ⟨b19,0,none⟩) 1 1] ow rfl aq) ?_
 refine .o (.alloc hs ee rfl fun b4 w hs=>?_)
 refine .o (.aI (vs:=[_,_,_,_,_,_,_,_]) hs rfl rfl aB fun w hs=>?_)
 refine .nil (.ai (.z (zbd [_,_] fi) (.z (zbd [_,_] fi) ?_)))
 refine .o (.buildSlice (cells:=(fbc oo.table).flatten) hs mA rfl aq fun b23 w hs=>?_)
 refine .z (zbd [_,_,_,_] ox) ?_
 refine .o (.buildSlice (cells:=(snc oo.seasons).flatten) hs ka rfl aq fun b25 w hs=>?_)
 refine .z (zbd (vs:=[(0,I 1000),(1,I 1200),(2,.slice (some ⟨b23,0,none⟩) 2 2),(3,.slice (some ⟨b25,0,none⟩) 1 1)]) [I 1000,I 1200,.slice (some ⟨b23,0,none⟩) 2 2,.slice (some ⟨b25,0,none⟩) 1 1] qs rfl aq) ?_
 refine .o (.alloc hs iP rfl fun b5 w hs=>?_)
 refine .o (.aI (vs:=[_,_,_,_]) hs rfl rfl aO fun w hs=>?_)
 refine .nil (.ai (.z (zbd [_,_] bA) ?_))
 refine .o (.alloc hs bS rfl fun b6 w hs=>?_)
 refine .o (.aI (vs:=[_,_]) hs rfl rfl az fun w hs=>?_)
 refine .nil (.ai (.z (zbd [_,_] bA) ?_))
 refine .o (.alloc hs bS rfl fun b7 w hs=>?_)
 refine .o (.aI (vs:=[_,_]) hs rfl rfl az fun w hs=>?_)
 refine .nil ?_
 refine .cut (fun fs w=>∃b37,kQ fs ⟨39,[],[(2,.pointer (some ⟨b2,0,none⟩)),(1,.pointer (some ⟨b1,0,none⟩)),(0,.pointer (some ⟨b0,0,none⟩))]⟩∧St H w (.blk b2 [.slice (some ⟨b37,0,none⟩) 2 2]:: .blk b1 [I 1000,I 1200,.slice (some ⟨b23,0,none⟩) 2 2,.slice (some ⟨b25,0,none⟩) 1 1]:: .blk b0 [I 1,I 1,.slice (some ⟨b8,0,none⟩) 2 2,.slice (some ⟨b9,0,none⟩) 2 2,I 100,I 200,.slice (some ⟨b17,0,none⟩) 4 4,.slice (some ⟨b19,0,none⟩) 1 1]:: .blk b37 (lgc lj).flatten:: .blk b25 (snc oo.seasons).flatten:: .blk b23 (fbc oo.table).flatten:: .blk b19 (cmc exV.cs).flatten:: .blk b17 (rdc Hj).flatten:: .blk b9 (Is [0,1000]):: .blk b8 (Is [0,1000])::σ)) ?_ ?_
 ·refine .draw mix rfl hs fun w hs=>?_
  refine .ys 0 rfl hs [_,_,_,_,_,_,_,_] aJ aB ?_;refine .ys 1 rfl hs [_,_,_,_] bE aO ?_;refine .ys 2 rfl hs [_,_] bh az ?_;refine .ys 3 rfl hs [_,_] bh az ?_;refine .z 4 rfl (zbd (lg0 lj 0).c kb rfl aq) ?_;refine .ys 5 rfl hs [_,_] bh az ?_;refine .ys 6 rfl hs [_,_] bh az ?_;refine .z 7 rfl (zbd (lg0 lj 1).c kb rfl aq) ?_
  refine .e2 (i:=8) (j:=10) aq rfl rfl rfl rfl .none .none hs ?_ ?_
  ·refine .buildSlice (cells:=(lgc lj).flatten) hs jB rfl aq ?_;intro b37 w hs
   refine .go ?_
   refine .z 9 rfl (zbd [_] lM) ?_
   refine .E 10 hs ?_
   refine .aI (vs:=[_,_,_,_,_,_,_,_]) hs rfl rfl aB ?_;intro w hs
   refine .go ?_
   refine .E 11 hs ?_
   refine .aI (vs:=[_,_,_,_]) hs rfl rfl aO ?_;intro w hs
   refine .go ?_
   refine .E 12 hs ?_
   refine .aI (vs:=[_]) hs rfl rfl aU ?_;intro w hs
   refine .go ?_
   refine .D hs ?_
   exact nT ⟨b37,bD,hs.sb⟩
  ·refine .aI (vs:=[_,_,_,_,_,_,_,_]) hs rfl rfl aB ?_;intro w hs
   refine .go ?_
   refine .e2 (i:=8) (j:=11) aq rfl rfl rfl rfl .none .none hs ?_ ?_
   ·refine .buildSlice (cells:=(lgc lj).flatten) hs jB rfl aq ?_;intro b37 w hs
    refine .go ?_
    refine .z 9 rfl (zbd [_] lM) ?_
    refine .E 11 hs ?_
    refine .aI (vs:=[_,_,_,_]) hs rfl rfl aO ?_;intro w hs
    refine .go ?_
    refine .E 12 hs ?_
    refine .aI (vs:=[_]) hs rfl rfl aU ?_;intro w hs
    refine .go ?_
    refine .D hs ?_
    exact nT ⟨b37,bD,hs.sb⟩
   ·refine .aI (vs:=[_,_,_,_]) hs rfl rfl aO ?_;intro w hs
    refine .go ?_
    refine .E 8 hs ?_
    refine .buildSlice (cells:=(lgc lj).flatten) hs jB rfl aq ?_;intro b37 w hs
    refine .go ?_
    refine .z 9 rfl (zbd [_] lM) ?_
    refine .E 12 hs ?_
    refine .aI (vs:=[_]) hs rfl rfl aU ?_;intro w hs
    refine .go ?_
    refine .D hs ?_
    exact nT ⟨b37,bD,hs.sb⟩
 ·rintro fs w ⟨b37,hfs,hs⟩
  refine WE.sub ?_ hfs
  clear hfs
  refine .ret ?_
  obtain ⟨H1,g1,r1,hs⟩:=bU.dM (xs:=[0,1000]) (v:= .slice (some ⟨b8,0,none⟩) 2 2) (.full rfl) bV hs e7
  obtain ⟨H2,g2,r2,hs⟩:=bU.dM (xs:=[0,1000]) (v:= .slice (some ⟨b9,0,none⟩) 2 2) (.full rfl) bV hs e7
  obtain ⟨H3,g3,r3,hs⟩:=bU.cg (m:=7) (cs:=rdc Hj) (v:= .slice (some ⟨b17,0,none⟩) 4 4) (.full aq) (qV _) ak eW hs e7
  obtain ⟨H4,g4,r4,hs⟩:=bU.cg (m:=6) (cs:=cmc exV.cs) (v:= .slice (some ⟨b19,0,none⟩) 1 1) (.full aq) (Dd _) ak eW hs e7
  obtain ⟨H5,g5,r5,hs⟩:=bU.cg (m:=2) (cs:=fbc oo.table) (v:= .slice (some ⟨b23,0,none⟩) 2 2) (.full aq) (Ir _) ak eW hs e7
  obtain ⟨H6,g6,r6,hs⟩:=bU.cg (m:=4) (cs:=snc oo.seasons) (v:= .slice (some ⟨b25,0,none⟩) 1 1) (.full aq) (B2 _) ak eW hs e7
  obtain ⟨H7,g7,r7,hs⟩:=bU.cg (m:=7) (cs:=lgc lj) (v:= .slice (some ⟨b37,0,none⟩) 2 2) (.full aq) (CH _) ak eW hs e7
  have k6:=g6.trans g7
  have k5:=g5.trans k6
  have k4:=g4.trans k5
  have k3:=g3.trans k4
  have k2:=g2.trans k3
  exact Fin.ia [] [] hs fun w hs=>⟨_,results3 Tryz.results71 (di (vs:=[I 1,I 1,.slice (some ⟨b8,0,none⟩) 2 2,.slice (some ⟨b9,0,none⟩) 2 2,I 100,I 200,.slice (some ⟨b17,0,none⟩) 4 4,.slice (some ⟨b19,0,none⟩) 1 1]) hs rfl aJ aB) (di (vs:=[I 1000,I 1200,.slice (some ⟨b23,0,none⟩) 2 2,.slice (some ⟨b25,0,none⟩) 1 1]) hs rfl bE aO) (di (vs:=[.slice (some ⟨b37,0,none⟩) 2 2]) hs rfl bQ aU),H7,_,_,_,_,_,_,_,g1.trans k2,rfl,⟨r1.mono k2,r2.mono k3,r3.mono k4,r4.mono k5⟩,⟨r5.mono k6,r6.mono g7⟩,r7,hs.out⟩
set_option maxRecDepth 100000 in
theorem A4:Tryz.prog.stoodInHeld 42=false:=by kernel_rfl
set_option maxRecDepth 100000 in
theorem A5:Tryz.prog.eqGuardType Tryz.prog.depth 42=false:=by kernel_rfl
set_option maxHeartbeats 4000000 in
theorem tH(hs:St H w σ):
  Cl Tryz.prog 18 [] w fun u w'=>u= .bool true∧∃H1,HLe H H1∧St H1 w' σ:=by
 refine Cl.of Tryz.func18 rfl Tryz.ntmps18 bV (w7) ?_
 refine .ai (.z zg (.nil (.ai ?_)))
 refine .o (.call Tryz.call71 rfl (p8 hs) ?_);rintro _ w ⟨H1,a,b,c,d,vt,vs,vlg,hle1,rfl,g,gl,gr_,hs⟩
 obtain ⟨aa,ca,rfl⟩:=RI.shape g.st
 obtain ⟨ab,cb,rfl⟩:=RI.shape g.wa
 obtain ⟨ac,cc,rfl⟩:=RRd.shape g.rd
 obtain ⟨ad,cd,rfl⟩:=RCm.shape g.cm
 obtain ⟨at_,ct,rfl⟩:=gl.tb.shape
 obtain ⟨as_,cs,rfl⟩:=gl.sn.shape
 obtain ⟨ar,cr,rfl⟩:=gr_.shape
 refine .z zm (.z zex (.z zex (.z zex ?_)))
 refine .o (.alloc hs ee rfl fun b1 w hs=>?_)
 refine .o (.alloc hs iP rfl fun b2 w hs=>?_)
 refine .o (.alloc hs kR rfl fun b3 w hs=>?_)
 refine .o (.aI (vs:=[_,_,_,_,_,_,_,_]) hs rfl rfl aB fun w hs=>?_)
 refine .o (.aI (vs:=[_,_,_,_]) hs rfl rfl aO fun w hs=>?_)
 refine .o (.aI (vs:=[_]) hs rfl rfl aU fun w hs=>?_)
 refine .nil (.ai (.y hs (zls [_,_,_,_] bE aO) ?_))
 refine .o (.call Tryz.call37 rfl (oY (l:=oo) hs gl.tb gl.sn) ?_);rintro _ w ⟨n,e,rfl,hF,hs⟩
 obtain ⟨rfl,rfl⟩:=C5 hF
 refine .z zm (.z zex (.z zex (.z zg (.z zg (.nil (.ai (.y hs (zls [_,_,_,_] bE aO) ?_)))))))
 refine .o (.call Tryz.call41 rfl (so (l:=oo) hs gl.tb gl.sn) ?_);rintro _ w ⟨n,e,rfl,hF,hs⟩
 obtain ⟨rfl,rfl⟩:=zI hF
 refine .z zm (.z zex (.z zex (.z zg (.z zg (.nil (.ai (.y hs (zls [_,_,_,_,_,_,_,_] aJ aB) (.z (zbd [I 1000,I 1025] bA) ?_))))))))
 refine .o (.call Tryz.call58 rfl (mq (s:=exV) hs g) ?_);rintro _ w ⟨H2,lo,hi,e,hle2,rfl,hD,hs⟩
 obtain ⟨rfl,rfl,rfl,hL⟩:=C6 hD
 replace g:=g.mono hle2
 replace gl:=gl.mono hle2
 replace gr_:=gr_.mono hle2
 refine .z zm (.z zex (.z zex ?_))
 refine .o (.alloc hs bS rfl fun b8 w hs=>?_)
 refine .o (.aI (vs:=[_,_]) hs rfl rfl az fun w hs=>?_)
 refine .z zg (.nil (.ai (.y hs (zls [_,_,_,_,_,_,_,_] aJ aB) (.y hs (zls [_,_,_,_] bE aO) (.y hs (zls [_] bQ aU) (.z (zbd [I 150,I 160] bA) ?_))))))
 refine .o (.call Fz rfl (fg (s:=exV) (l:=oo) (r:=lj) (m:=⟨150,160⟩) hs g gl gr_) ?_);rintro _ w ⟨H3,n,e,hle3,rfl,hJ,hs⟩
 obtain ⟨rfl,rfl⟩:=vD hL eW hJ
 rw [show wH [xi (mm ⟨150,160⟩ lj 0) 190 404,xi (mm ⟨150,160⟩ lj 1) 190 404]=1 by decide]
 replace g:=g.mono hle3
 replace gl:=gl.mono hle3
 replace gr_:=gr_.mono hle3
 refine .z zm (.z zex (.z zex (.z zg (.z zg (.nil (.ai (.y hs (zls [_,_,_,_,_,_,_,_] aJ aB) (.y hs (zls [_,_,_,_] bE aO) (.y hs (zls [_] bQ aU) ?_)))))))))
 refine .z (zbd [I 180,I 200] bA) ?_
 refine .o (.call Fz rfl (fg (s:=exV) (l:=oo) (r:=lj) (m:=⟨180,200⟩) hs g gl gr_) ?_);rintro _ w ⟨H4,n,e,hle4,rfl,hJ,hs⟩
 obtain ⟨rfl,rfl⟩:=vD hL eW hJ
 rw [show wH [xi (mm ⟨180,200⟩ lj 0) 190 404,xi (mm ⟨180,200⟩ lj 1) 190 404]=2 by decide]
 replace g:=g.mono hle4
 replace gl:=gl.mono hle4
 replace gr_:=gr_.mono hle4
 refine .z zm (.z zex (.z zex (.z zg (.z zg (.nil (.ai (.y hs (zls [_,_,_,_,_,_,_,_] aJ aB) (.y hs (zls [_,_,_,_] bE aO) (.y hs (zls [_] bQ aU) ?_)))))))))
 refine .o (.call Tryz.call28 rfl (og (s:=exV) (l:=oo) (r:=lj) hs g gl gr_) ?_);rintro _ w ⟨H5,n,e,hle5,rfl,hS,hs⟩
 obtain ⟨rfl,rfl⟩:=C4 hL hS
 replace g:=g.mono hle5
 replace gl:=gl.mono hle5
 replace gr_:=gr_.mono hle5
 have hle05:=hle1.trans (hle2.trans (hle3.trans (hle4.trans hle5)))
 refine .z zm (.z zex (.z zex (.z zg (.z zg (.nil (.ai ?_))))))
 refine .o (.buildSlice (cells:=Is [75,175]) hs jn rfl aq fun b61 w hs=>?_)
 refine .o (.buildSlice (cells:=Is [0,130]) hs jn rfl aq fun b62 w hs=>?_)
 refine .o (.buildSlice (cells:=[.slice (some ⟨b61,0,none⟩) 2 2,.slice (some ⟨b62,0,none⟩) 2 2]) hs uG rfl aq fun b63 w hs=>?_)
 refine .z (zbd [_] yE) ?_
 obtain ⟨H6,g6,r6,hs⟩:=bU.dM (xs:=[75,175]) (v:= .slice (some ⟨b61,0,none⟩) 2 2) (.full rfl) bV hs e7
 obtain ⟨H7,g7,r7,hs⟩:=bU.dM (xs:=[0,130]) (v:= .slice (some ⟨b62,0,none⟩) 2 2) (.full rfl) bV hs e7
 have hRL:RLs H7 [.slice (some ⟨b61,0,none⟩) 2 2,.slice (some ⟨b62,0,none⟩) 2 2] Hk:=((RLs.nil H7).snoc (r6.mono g7)).snoc r7
 obtain ⟨H8,g8,hRT,hs⟩:=hRL.cg (v:= .slice (some ⟨b63,0,none⟩) 2 2) (en:= .blk b63 [.slice (some ⟨b61,0,none⟩) 2 2,.slice (some ⟨b62,0,none⟩) 2 2]) (.full rfl) bV hs e7
 have hle8:=g6.trans (g7.trans g8)
 replace g:=g.mono hle8
 replace gl:=gl.mono hle8
 replace gr_:=gr_.mono hle8
 refine .z (zbd [_,_,_,_] tV) ?_
 refine .o (.alloc hs Tryz.zeroValue66 rfl fun b16 w hs=>?_)
 refine .o (.aI (vs:=[_,_,_,_]) hs rfl rfl Tryz.sizeOf66 fun w hs=>?_)
 refine .nil (.ai (.z zm (.z jU (.z zm ?_))))
 refine .jM (t':=68) rfl (fun hb68=>?_) (fun hb68=>?_)
 ·refine .gT rfl rfl ?_
  refine .z zm ?_
  refine .gT rfl rfl ?_
  refine .z jU (.z zpT (.z zm ?_))
  refine .jM (t':=72) rfl (fun hb72=>?_) (fun hb72=>?_)
  ·refine .gT rfl rfl ?_
   refine .z zm ?_
   refine .gT rfl rfl ?_
   refine .z jU (.z zpT (.z zm ?_))
   refine .jM (t':=76) rfl (fun hb76=>?_) (fun hb76=>?_)
   ·refine .gT rfl rfl ?_
    refine .z zm ?_
    refine .gT rfl rfl ?_
    refine .z jU (.z zpT (.z zm ?_))
    refine .jM (t':=80) rfl (fun hb80=>?_) (fun hb80=>?_)
    ·refine .gT rfl rfl ?_
     refine .z zm ?_
     refine .gT rfl rfl ?_
     refine .z jU (.z zpT (.z zm ?_))
     refine .jM (t':=84) rfl (fun hb84=>?_) (fun hb84=>?_)
     ·refine .gT rfl rfl ?_
      refine .y hs (zls [_,_] bh az) ?_
      refine .gT rfl rfl ?_
      refine .z (zbd [_,_] bA) ?_
      refine .gT rfl rfl ?_
      refine .q hs (xR A4 A5 Fw (fun f hf=>by
       simp only [List.mem_cons,List.not_mem_nil,or_false] at hf
       rcases hf with rfl|rfl<;>exact ⟨by decide,aS,af⟩) rfl rfl) ?_
      refine .z zpT (.z zm ?_)
      refine .bif (t':=89) rfl (fun hb89=>?_) (fun hb89=>?_)
      ·refine .gT rfl rfl ?_
       refine .z zm ?_
       refine .gT rfl rfl ?_
       refine .z jU (.z zpT (.z zm ?_))
       refine .jM (t':=93) rfl (fun hb93=>?_) (fun hb93=>?_)
       ·refine .gT rfl rfl ?_
        refine .z zm ?_
        refine .gT rfl rfl ?_
        refine .z jU (.z zpT (.z zm ?_))
        refine .jM (t':=97) rfl (fun hb97=>?_) (fun hb97=>?_)
        ·refine .gT rfl rfl ?_
         refine .z zm ?_
         refine .gT rfl rfl ?_
         refine .z jU (.z zpT (.z zm ?_))
         refine .jM (t':=101) rfl (fun hb101=>?_) (fun hb101=>?_)
         ·refine .gT rfl rfl ?_
          refine .z zm ?_
          refine .gT rfl rfl ?_
          refine .z jU (.z zpT (.z zm ?_))
          refine .jM (t':=105) rfl (fun hb105=>?_) (fun hb105=>?_)
          ·refine .gT rfl rfl ?_
           refine .z zm ?_
           refine .gT rfl rfl ?_
           refine .z jU (.z zpT (.z zm ?_))
           refine .jM (t':=109) rfl (fun hb109=>?_) (fun hb109=>?_)
           ·refine .gT rfl rfl ?_
            refine .z zm ?_
            refine .gT rfl rfl ?_
            refine .z jU (.z zpT (.z zm ?_))
            refine .jM (t':=113) rfl (fun hb113=>?_) (fun hb113=>?_)
            ·refine .gT rfl rfl ?_
             refine .y hs (zls [_,_,_,_,_,_,_,_] aJ aB) ?_
             refine .gT rfl rfl ?_
             refine .y hs (zls [_,_,_,_] bE aO) ?_
             refine .gT rfl rfl ?_
             refine .y hs (zls [_] bQ aU) ?_
             refine .gT rfl rfl ?_
             refine .z (zbd [I 180,I 200] bA) ?_
             refine .gT rfl rfl ?_
             refine .y hs (zls [_,_,_,_] Tryz.isAgg66 Tryz.sizeOf66) ?_
             refine .gT rfl rfl ?_
             refine .o (.call Tryz.call32 rfl (nJ (s:=exV) (l:=oo) (r:=lj) (m:=⟨180,200⟩) (x:=⟨0,1000,200,Hk⟩) hs g gl gr_ hRT) ?_);rintro _ w ⟨H9,e,hle9,rfl,hW,hs⟩
             obtain rfl:=E9 hW
             have hleF:=(hle05.trans hle8).trans hle9
             refine .gT rfl rfl ?_
             refine .z jU (.z zpT (.z zg (.nil ?_)))
             refine .ret (Fin.bw dT rfl ?_)
             first
             |exact ⟨rfl,H9,hleF,hs.out⟩
             |contradiction
             |(exfalso;simp_all;done)
            ·refine .gFs 7 47 true rfl rfl rfl ?_
             refine .z zpF (.z zg (.nil ?_))
             refine .ret (Fin.bw dT rfl ?_)
             first
             |exact ⟨rfl,H9,hleF,hs.out⟩
             |contradiction
             |(exfalso;simp_all;done)
           ·refine .gFs 2 43 true rfl rfl rfl ?_
            refine .z zpF (.z zm ?_)
            refine .gFs 7 47 true rfl rfl rfl ?_
            refine .z zpF (.z zg (.nil ?_))
            refine .ret (Fin.bw dT rfl ?_)
            first
            |exact ⟨rfl,H9,hleF,hs.out⟩
            |contradiction
            |(exfalso;simp_all;done)
          ·refine .gFs 2 39 true rfl rfl rfl ?_
           refine .z zpF (.z zm ?_)
           refine .gFs 2 43 true rfl rfl rfl ?_
           refine .z zpF (.z zm ?_)
           refine .gFs 7 47 true rfl rfl rfl ?_
           refine .z zpF (.z zg (.nil ?_))
           refine .ret (Fin.bw dT rfl ?_)
           first
           |exact ⟨rfl,H9,hleF,hs.out⟩
           |contradiction
           |(exfalso;simp_all;done)
         ·refine .gFs 2 35 true rfl rfl rfl ?_
          refine .z zpF (.z zm ?_)
          refine .gFs 2 39 true rfl rfl rfl ?_
          refine .z zpF (.z zm ?_)
          refine .gFs 2 43 true rfl rfl rfl ?_
          refine .z zpF (.z zm ?_)
          refine .gFs 7 47 true rfl rfl rfl ?_
          refine .z zpF (.z zg (.nil ?_))
          refine .ret (Fin.bw dT rfl ?_)
          first
          |exact ⟨rfl,H9,hleF,hs.out⟩
          |contradiction
          |(exfalso;simp_all;done)
        ·refine .gFs 2 31 true rfl rfl rfl ?_
         refine .z zpF (.z zm ?_)
         refine .gFs 2 35 true rfl rfl rfl ?_
         refine .z zpF (.z zm ?_)
         refine .gFs 2 39 true rfl rfl rfl ?_
         refine .z zpF (.z zm ?_)
         refine .gFs 2 43 true rfl rfl rfl ?_
         refine .z zpF (.z zm ?_)
         refine .gFs 7 47 true rfl rfl rfl ?_
         refine .z zpF (.z zg (.nil ?_))
         refine .ret (Fin.bw dT rfl ?_)
         first
         |exact ⟨rfl,H9,hleF,hs.out⟩
         |contradiction
         |(exfalso;simp_all;done)
       ·refine .gFs 2 27 true rfl rfl rfl ?_
        refine .z zpF (.z zm ?_)
        refine .gFs 2 31 true rfl rfl rfl ?_
        refine .z zpF (.z zm ?_)
        refine .gFs 2 35 true rfl rfl rfl ?_
        refine .z zpF (.z zm ?_)
        refine .gFs 2 39 true rfl rfl rfl ?_
        refine .z zpF (.z zm ?_)
        refine .gFs 2 43 true rfl rfl rfl ?_
        refine .z zpF (.z zm ?_)
        refine .gFs 7 47 true rfl rfl rfl ?_
        refine .z zpF (.z zg (.nil ?_))
        refine .ret (Fin.bw dT rfl ?_)
        first
        |exact ⟨rfl,H9,hleF,hs.out⟩
        |contradiction
        |(exfalso;simp_all;done)
      ·refine .gFs 2 23 true rfl rfl rfl ?_
       refine .z zpF (.z zm ?_)
       refine .gFs 2 27 true rfl rfl rfl ?_
       refine .z zpF (.z zm ?_)
       refine .gFs 2 31 true rfl rfl rfl ?_
       refine .z zpF (.z zm ?_)
       refine .gFs 2 35 true rfl rfl rfl ?_
       refine .z zpF (.z zm ?_)
       refine .gFs 2 39 true rfl rfl rfl ?_
       refine .z zpF (.z zm ?_)
       refine .gFs 2 43 true rfl rfl rfl ?_
       refine .z zpF (.z zm ?_)
       refine .gFs 7 47 true rfl rfl rfl ?_
       refine .z zpF (.z zg (.nil ?_))
       refine .ret (Fin.bw dT rfl ?_)
       first
       |exact ⟨rfl,H9,hleF,hs.out⟩
       |contradiction
       |(exfalso;simp_all;done)
     ·refine .gFs 3 18 true rfl rfl rfl ?_
      refine .z zpF (.z zm ?_)
      refine .gFs 2 23 true rfl rfl rfl ?_
      refine .z zpF (.z zm ?_)
      refine .gFs 2 27 true rfl rfl rfl ?_
      refine .z zpF (.z zm ?_)
      refine .gFs 2 31 true rfl rfl rfl ?_
      refine .z zpF (.z zm ?_)
      refine .gFs 2 35 true rfl rfl rfl ?_
      refine .z zpF (.z zm ?_)
      refine .gFs 2 39 true rfl rfl rfl ?_
      refine .z zpF (.z zm ?_)
      refine .gFs 2 43 true rfl rfl rfl ?_
      refine .z zpF (.z zm ?_)
      refine .gFs 7 47 true rfl rfl rfl ?_
      refine .z zpF (.z zg (.nil ?_))
      refine .ret (Fin.bw dT rfl ?_)
      first
      |exact ⟨rfl,H9,hleF,hs.out⟩
      |contradiction
      |(exfalso;simp_all;done)
    ·refine .gFs 2 14 true rfl rfl rfl ?_
     refine .z zpF (.z zm ?_)
     refine .gFs 3 18 true rfl rfl rfl ?_
     refine .z zpF (.z zm ?_)
     refine .gFs 2 23 true rfl rfl rfl ?_
     refine .z zpF (.z zm ?_)
     refine .gFs 2 27 true rfl rfl rfl ?_
     refine .z zpF (.z zm ?_)
     refine .gFs 2 31 true rfl rfl rfl ?_
     refine .z zpF (.z zm ?_)
     refine .gFs 2 35 true rfl rfl rfl ?_
     refine .z zpF (.z zm ?_)
     refine .gFs 2 39 true rfl rfl rfl ?_
     refine .z zpF (.z zm ?_)
     refine .gFs 2 43 true rfl rfl rfl ?_
     refine .z zpF (.z zm ?_)
     refine .gFs 7 47 true rfl rfl rfl ?_
     refine .z zpF (.z zg (.nil ?_))
     refine .ret (Fin.bw dT rfl ?_)
     first
     |exact ⟨rfl,H9,hleF,hs.out⟩
     |contradiction
     |(exfalso;simp_all;done)
   ·refine .gFs 2 10 true rfl rfl rfl ?_
    refine .z zpF (.z zm ?_)
    refine .gFs 2 14 true rfl rfl rfl ?_
    refine .z zpF (.z zm ?_)
    refine .gFs 3 18 true rfl rfl rfl ?_
    refine .z zpF (.z zm ?_)
    refine .gFs 2 23 true rfl rfl rfl ?_
    refine .z zpF (.z zm ?_)
    refine .gFs 2 27 true rfl rfl rfl ?_
    refine .z zpF (.z zm ?_)
    refine .gFs 2 31 true rfl rfl rfl ?_
    refine .z zpF (.z zm ?_)
    refine .gFs 2 35 true rfl rfl rfl ?_
    refine .z zpF (.z zm ?_)
    refine .gFs 2 39 true rfl rfl rfl ?_
    refine .z zpF (.z zm ?_)
    refine .gFs 2 43 true rfl rfl rfl ?_
    refine .z zpF (.z zm ?_)
    refine .gFs 7 47 true rfl rfl rfl ?_
    refine .z zpF (.z zg (.nil ?_))
    refine .ret (Fin.bw dT rfl ?_)
    first
    |exact ⟨rfl,H9,hleF,hs.out⟩
    |contradiction
    |(exfalso;simp_all;done)
  ·refine .gFs 2 6 true rfl rfl rfl ?_
   refine .z zpF (.z zm ?_)
   refine .gFs 2 10 true rfl rfl rfl ?_
   refine .z zpF (.z zm ?_)
   refine .gFs 2 14 true rfl rfl rfl ?_
   refine .z zpF (.z zm ?_)
   refine .gFs 3 18 true rfl rfl rfl ?_
   refine .z zpF (.z zm ?_)
   refine .gFs 2 23 true rfl rfl rfl ?_
   refine .z zpF (.z zm ?_)
   refine .gFs 2 27 true rfl rfl rfl ?_
   refine .z zpF (.z zm ?_)
   refine .gFs 2 31 true rfl rfl rfl ?_
   refine .z zpF (.z zm ?_)
   refine .gFs 2 35 true rfl rfl rfl ?_
   refine .z zpF (.z zm ?_)
   refine .gFs 2 39 true rfl rfl rfl ?_
   refine .z zpF (.z zm ?_)
   refine .gFs 2 43 true rfl rfl rfl ?_
   refine .z zpF (.z zm ?_)
   refine .gFs 7 47 true rfl rfl rfl ?_
   refine .z zpF (.z zg (.nil ?_))
   refine .ret (Fin.bw dT rfl ?_)
   first
   |exact ⟨rfl,H9,hleF,hs.out⟩
   |contradiction
   |(exfalso;simp_all;done)
 ·refine .gFs 2 2 true rfl rfl rfl ?_
  refine .z zpF (.z zm ?_)
  refine .gFs 2 6 true rfl rfl rfl ?_
  refine .z zpF (.z zm ?_)
  refine .gFs 2 10 true rfl rfl rfl ?_
  refine .z zpF (.z zm ?_)
  refine .gFs 2 14 true rfl rfl rfl ?_
  refine .z zpF (.z zm ?_)
  refine .gFs 3 18 true rfl rfl rfl ?_
  refine .z zpF (.z zm ?_)
  refine .gFs 2 23 true rfl rfl rfl ?_
  refine .z zpF (.z zm ?_)
  refine .gFs 2 27 true rfl rfl rfl ?_
  refine .z zpF (.z zm ?_)
  refine .gFs 2 31 true rfl rfl rfl ?_
  refine .z zpF (.z zm ?_)
  refine .gFs 2 35 true rfl rfl rfl ?_
  refine .z zpF (.z zm ?_)
  refine .gFs 2 39 true rfl rfl rfl ?_
  refine .z zpF (.z zm ?_)
  refine .gFs 2 43 true rfl rfl rfl ?_
  refine .z zpF (.z zm ?_)
  refine .gFs 7 47 true rfl rfl rfl ?_
  refine .z zpF (.z zg (.nil ?_))
  refine .ret (Fin.bw dT rfl ?_)
  first
  |exact ⟨rfl,H9,hleF,hs.out⟩
  |contradiction
  |(exfalso;simp_all;done)
theorem cO{n m:Int}(hs:St H w σ)(hm:1≤m∧m≤4611686018427387904):Cl Tryz.prog 36 [I n,I m] w fun u w'=>u=I (rG n m)∧St H w' σ:=by
 have h1:=Int.tmod_lt_of_pos n (show 0<m by omega)
 have h2:=Int.lt_tmod_of_pos n (show 0<m by omega)
 refine Cl.o Tryz.func36 Tryz.ntmps36 ag2 ?_
 refine .ai (.z zg (.nil (.ai (.z zm (.z zm (.z AU (.z zm (.z cf (.z zm ?_)))))))))
 refine .z AU (.z zg (.nil ?_))
 refine .ret (Fin.bw Tryz.results36 rfl ?_)
 exact ⟨rfl,hs⟩
theorem da{v:Value}{l:List Int}{i n:Int}(hs:St H w σ)(hr:RI H v l)(hi:0≤i)(hn:1≤n∧n≤1000000):Cl Tryz.prog 141 [v,I i,I n] w fun u w'=>∃x,u=I x∧(0≤x∧x<n)∧St H w' σ:=by
 obtain ⟨a,c,rfl⟩:=RI.shape hr
 refine Cl.o Tryz.func141 Tryz.ntmps141 ag3 ?_
 refine .ai (.z zg (.nil (.seq (.ai (.z zm (.z (cZ ae) (.z jU (.nil ?_))))))))
 refine (.bT rfl (fun hc9=>?_) (fun hc9=>?_))
 ·refine .ai (.z zg (.nil ?_))
  refine .ret (rT (Fin.bw Tryz.results141 rfl ?_))
  exact ⟨0,rfl,ak,hs⟩
 ·refine .skip ?_
  refine nT ?_
  refine .ai (.z zm (.z zm (.z zm (.z (cZ ae) (.z AU ?_)))))
  have h1:=Int.tmod_lt_of_pos i (show 0<(l.length:Int) by omega)
  have h2:=Int.tmod_nonneg (l.length:Int) hi
  refine .ixX (enc:=fun x=>[I x]) hs hr rfl rfl ae aj (bF (l:=l) (i:=(i.tmod l.length).toNat) ak) ak ?_;intro b15 o15 hc15;replace hc15:=bO.one hc15
  refine .y hs (zld af) (.z zm ?_)
  refine .o (.call fU rfl (cO hs ak) ?_);rintro _ w ⟨rfl,hs⟩
  refine .z zg (.nil ?_)
  refine .ret (Fin.bw Tryz.results141 rfl ?_)
  exact ⟨_,rfl,lB _ hn.1,hs⟩
theorem iB{a b c d e f fr:Int}(hs:St H w σ)(hf:0≤fr∧fr≤1000000):Cl Tryz.prog 142 [.agg #[I a,I b,I c,I d,I e,I f],I fr] w fun u w'=>∃x,u=lgA x∧Dw x fr∧St H w' σ:=by
 have m1:=lB a (m:=3) ak
 have m2:=lB b (m:=40) ak
 have m3:=lB c (m:=60) ak
 have m4:=lB d (m:=100) ak
 have m5:=lB (IntKind.i64.wrap (d.tdiv 100)) (m:=40) ak
 have m6:=lB e (m:=500) ak
 have m7:=lB f (m:=200) ak
 refine Cl.o Tryz.func142 Tryz.ntmps142 ag2 ?_
 refine .ai ?_
 refine .bx hs fun b2 w hs=>?_
 refine .o (.alloc hs cB rfl fun b4 w hs=>?_)
 refine .nil ?_
 refine .cut (fun fs w=>∃b5,kQ fs ⟨50,[],[(5,.pointer (some ⟨b5,0,none⟩)),(4,.pointer (some ⟨b4,0,none⟩)),(2,.pointer (some ⟨b2,0,none⟩))]⟩∧St H w (.blk b5 [I (1+rG a 3),I (fr+rG b 40),I 0,I 0,I 0,I 0,I 0]:: .blk b4 [I 0,I 0,I 0,I 0,I 0,I 0,I 0]:: .blk b2 [I a,I b,I c,I d,I e,I f]::σ)) ?_ ?_
 ·refine .draw mix rfl hs fun w hs=>?_
  refine .z 0 rfl (zia 0 dE aj) ?_
  refine .y 1 rfl hs af ?_;refine .z 4 rfl zm ?_
  refine .z 5 rfl (zia 1 dE aj) ?_
  refine .y 6 rfl hs af ?_
  refine .e2 (i:=2) (j:=10) aq rfl rfl rfl rfl .none .none hs ?_ ?_
  ·refine .call fU rfl (cO hs ak) ?_;rintro _ w ⟨rfl,hs⟩
   refine .go ?_
   refine .z 3 rfl cf ?_
   refine .e2 (i:=7) (j:=10) aq rfl rfl rfl rfl .none .none hs ?_ ?_
   ·refine .call fU rfl (cO hs ak) ?_;rintro _ w ⟨rfl,hs⟩
    refine .go ?_
    refine .z 8 rfl cf ?_;refine .z 9 rfl (zbd [_,_,_,_,_,_,_] kb) ?_
    refine .E 10 hs ?_
    refine .alloc hs cB rfl ?_;intro b5 w hs
    refine .go ?_
    refine .E 11 hs ?_
    refine .aI (vs:=[_,_,_,_,_,_,_]) hs rfl rfl aZ ?_;intro w hs
    refine .go ?_
    refine .D hs ?_
    exact nT ⟨b5,bD,hs.sb⟩
   ·refine .alloc hs cB rfl ?_;intro b5 w hs
    refine .go ?_
    refine .E 7 hs ?_
    refine .call fU rfl (cO hs ak) ?_;rintro _ w ⟨rfl,hs⟩
    refine .go ?_
    refine .z 8 rfl cf ?_;refine .z 9 rfl (zbd [_,_,_,_,_,_,_] kb) ?_
    refine .E 11 hs ?_
    refine .aI (vs:=[_,_,_,_,_,_,_]) hs rfl rfl aZ ?_;intro w hs
    refine .go ?_
    refine .D hs ?_
    exact nT ⟨b5,bD,hs.sb⟩
  ·refine .alloc hs cB rfl ?_;intro b5 w hs
   refine .go ?_
   refine .E 2 hs ?_
   refine .call fU rfl (cO hs ak) ?_;rintro _ w ⟨rfl,hs⟩
   refine .go ?_
   refine .z 3 rfl cf ?_
   refine .E 7 hs ?_
   refine .call fU rfl (cO hs ak) ?_;rintro _ w ⟨rfl,hs⟩
   refine .go ?_
   refine .z 8 rfl cf ?_;refine .z 9 rfl (zbd [_,_,_,_,_,_,_] kb) ?_
   refine .E 11 hs ?_
   refine .aI (vs:=[_,_,_,_,_,_,_]) hs rfl rfl aZ ?_;intro w hs
   refine .go ?_
   refine .D hs ?_
   exact nT ⟨b5,bD,hs.sb⟩
 ·rintro fs w ⟨b5,hfs,hs⟩
  refine WE.sub ?_ hfs
  clear hfs
  refine .seq (.draw mix rfl hs fun w hs=>?_)
  refine .z 0 rfl (zfa ji) ?_;refine .y 1 rfl hs af ?_
  refine .z 2 rfl (zia 2 dE aj) ?_
  refine .y 3 rfl hs af ?_
  refine .E 4 hs ?_
  refine .call fU rfl (cO hs ak) ?_;rintro _ w ⟨rfl,hs⟩
  refine .go ?_
  refine .z 5 rfl cf ?_;refine .z 6 rfl (zfa iz) ?_
  refine .E 7 hs ?_
  refine .store hs rfl rfl aj ?_;intro w hs
  refine .go ?_
  refine .D hs ?_
  refine .ai ?_
  refine .z (zia 3 dE aj) ?_
  refine .y hs (zld af) ?_
  refine .o (.call fU rfl (cO hs ak) ?_);rintro _ w ⟨rfl,hs⟩
  refine .z cf (.z zg (.nil (.ai (.z zm (.z zm ?_)))))
  refine .z (zia 3 dE aj) ?_
  refine .y hs (zld af) (.z Hf ?_)
  refine .o (.call fU rfl (cO hs ak) ?_);rintro _ w ⟨rfl,hs⟩
  refine .z cf (.z (zbd [_,_] bA) (.z (zfa iy) ?_))
  refine .o (.aI (vs:=[_,_]) hs rfl rfl az fun w hs=>?_)
  refine .nil ?_
  refine .seq (.draw mix rfl hs fun w hs=>?_)
  refine .z 0 rfl (zia 4 dE aj) ?_
  refine .y 1 rfl hs af ?_
  refine .z 3 rfl (zia 4 dE aj) ?_
  refine .y 4 rfl hs af ?_
  refine .z 6 rfl (zia 5 dE aj) ?_
  refine .y 7 rfl hs af ?_
  refine .E 2 hs ?_
  refine .call fU rfl (cO hs ak) ?_;rintro _ w ⟨rfl,hs⟩
  refine .go ?_
  refine .E 5 hs ?_
  refine .call fU rfl (cO hs ak) ?_;rintro _ w ⟨rfl,hs⟩
  refine .go ?_
  refine .E 8 hs ?_
  refine .call fU rfl (cO hs ak) ?_;rintro _ w ⟨rfl,hs⟩
  refine .go ?_
  refine .z 9 rfl cf ?_;refine .z 10 rfl (zbd [_,_] bA) ?_;refine .z 11 rfl (zfa iw) ?_
  refine .E 12 hs ?_
  refine .aI (vs:=[_,_]) hs rfl rfl az ?_;intro w hs
  refine .go ?_
  refine .D hs ?_
  refine .ai (.y hs (zls [_,_,_,_,_,_,_] fQ aZ) ?_)
  refine .o (.aI (vs:=[_,_,_,_,_,_,_]) hs rfl rfl aZ fun w hs=>?_)
  refine .nil ?_
  refine .ret ?_
  exact Fin.ia [] [] hs fun w hs=>⟨_,results1 Tryz.results142 (di (vs:=lgC ⟨1+rG a 3,fr+rG b 40,fr+rG b 40+rG c 60,950+rG d 100,950+rG d 100+rG (IntKind.i64.wrap (d.tdiv 100)) 40,rG e 500,rG e 500+rG f 200⟩) hs rfl fQ aZ),⟨1+rG a 3,fr+rG b 40,fr+rG b 40+rG c 60,950+rG d 100,950+rG d 100+rG (IntKind.i64.wrap (d.tdiv 100)) 40,rG e 500,rG e 500+rG f 200⟩,rfl,⟨by dsimp only;omega,by dsimp only;omega,by dsimp only;omega,by dsimp only;omega,by dsimp only;omega,by dsimp only;omega,by dsimp only;omega⟩,hs.out⟩
theorem oS{v:Value}{ns:List Int}(hs:St H w σ)(hr:RI H v ns):
  Cl Tryz.prog 77 [v] w fun u w'=>∃l vt vs e1 e2,u=lnA l vt vs∧Dv l∧bU 2 vt (fbc l.table).flatten e1∧bU 4 vs (snc l.seasons).flatten e2∧St H w' (e2::e1::σ):=by
 refine Cl.o Tryz.func77 Tryz.ntmps77 ag1 ?_
 refine .ai ?_
 refine .o (.alloc hs iP rfl fun b2 w hs=>?_)
 refine .nil (.ai (.z zm ?_))
 refine .o (.call ik rfl (da hs hr ak ak) ?_);rintro _ w ⟨x6,rfl,g6,hs⟩
 refine .z cf (.z zm ?_)
 refine .o (.call ik rfl (da hs hr ak ak) ?_);rintro _ w ⟨x9,rfl,g9,hs⟩
 refine .z cf (.z (zbd [I (100+x6),I (200+x9),.slice none 0 0,.slice none 0 0] qs rfl aq) ?_)
 refine .o (.alloc hs iP rfl fun b3 w hs=>?_)
 refine .o (.aI (vs:=[_,_,_,_]) hs rfl rfl aO fun w hs=>?_)
 refine .nil (.ai (.z zm ?_))
 refine .o (.call ik rfl (da hs hr ak ak) ?_);rintro _ w ⟨x13,rfl,g13,hs⟩
 refine .z (zbd [_,_] fi) (.z zm ?_)
 refine .o (.call ik rfl (da hs hr ak ak) ?_);rintro _ w ⟨x16,rfl,g16,hs⟩
 refine .z cf (.z zm ?_)
 refine .o (.call ik rfl (da hs hr ak ak) ?_);rintro _ w ⟨x19,rfl,g19,hs⟩
 refine .z (zbd [_,_] fi) (.z zm ?_)
 refine .o (.call ik rfl (da hs hr ak ak) ?_);rintro _ w ⟨x22,rfl,g22,hs⟩
 refine .z (zbd [_,_] fi) ?_
 refine .o (.buildSlice (cells:=(fbc [⟨100,x13⟩,⟨400+x16,x19⟩,⟨1000,x22⟩]).flatten) hs mz rfl aq fun b24 w hs=>?_)
 refine .z (zfa dt) ?_
 refine .o (.store hs rfl rfl Tryz.sizeOf22 fun w hs=>?_)
 refine .nil (.seq (.ai (.z zg (.nil (.block ?_)))))
 replace hs:St H w (.blk b24 (fbc [⟨100,x13⟩,⟨400+x16,x19⟩,⟨1000,x22⟩]).flatten:: .blk b3 [I (100+x6),I (200+x9),.slice (some ⟨b24,0,none⟩) 3 3,.slice none 0 0]:: .blk b2 [I 0,I 0,.slice none 0 0,.slice none 0 0]::σ):=hs
 refine .loop (fun p:Nat×List Ssn×Value×Ent=>⟨62,[],[(4,I (p.1:Int)),(3,.pointer (some ⟨b3,0,none⟩)),(2,.pointer (some ⟨b2,0,none⟩)),(0,v)]⟩)
  (fun p w=>p.1≤4∧p.2.1.length=p.1∧(∀s∈p.2.1,Bu s)∧bU 4 p.2.2.1 (snc p.2.1).flatten p.2.2.2∧St H w (p.2.2.2:: .blk b24 (fbc [⟨100,x13⟩,⟨400+x16,x19⟩,⟨1000,x22⟩]).flatten:: .blk b3 [I (100+x6),I (200+x9),.slice (some ⟨b24,0,none⟩) 3 3,p.2.2.1]:: .blk b2 [I 0,I 0,.slice none 0 0,.slice none 0 0]::σ)) (fun p=>4 - p.1) (0,[],_,.nul) bD
  ⟨by dsimp only;omega,rfl,fun s hs=>(by cases hs),.nil 4 none,hs.nul⟩ ?_
 rintro ⟨k,ss,vo,en⟩ w ⟨hk,hkl,hss,hO,hs⟩
 dsimp only at hk hkl hss hO hs ⊢
 obtain ⟨ao,co,rfl⟩:=hO.kX (B2 _) ak
 rw [qO] at hO hs
 refine .seq (.ai (.z zm (.z zm ?_)))
 refine .o (.call ik rfl (da hs hr ak ak) ?_);rintro _ w ⟨x28,rfl,g28,hs⟩
 refine .z iM (.nil ?_)
 refine (.bT rfl (fun hc29=>?_) (fun hc29=>?_))
 ·refine .skip ?_
  refine nT ?_
  refine .seq (.block ?_)
  refine .draw mix rfl hs fun w hs=>?_
  refine .z 0 rfl (zfa gO) ?_;refine .y 1 rfl hs Tryz.isAgg23 ?_;refine .z 2 rfl zm ?_;refine .z 3 rfl zm ?_;refine .z 4 rfl kS ?_;refine .z 5 rfl cf ?_;refine .z 8 rfl zm ?_;refine .z 9 rfl zm ?_;refine .z 10 rfl kS ?_;refine .z 11 rfl cf ?_
  refine .z 14 rfl zm ?_;refine .z 15 rfl zm ?_;refine .z 16 rfl kS ?_;refine .z 17 rfl cf ?_;refine .z 20 rfl zm ?_;refine .z 21 rfl zm ?_;refine .z 22 rfl kS ?_;refine .z 23 rfl cf ?_
  refine .E 6 hs ?_
  refine .call ik rfl (da hs hr ak ak) ?_;rintro _ w ⟨x38,rfl,g38,hs⟩
  refine .go ?_
  refine .z 7 rfl cf ?_
  refine .E 12 hs ?_
  refine .call ik rfl (da hs hr ak ak) ?_;rintro _ w ⟨x44,rfl,g44,hs⟩
  refine .go ?_
  refine .z 13 rfl cf ?_
  refine .E 18 hs ?_
  refine .call ik rfl (da hs hr ak ak) ?_;rintro _ w ⟨x50,rfl,g50,hs⟩
  refine .go ?_
  refine .z 19 rfl cf ?_
  refine .E 24 hs ?_
  refine .call ik rfl (da hs hr ak ak) ?_;rintro _ w ⟨x56,rfl,g56,hs⟩
  refine .go ?_
  refine .z 25 rfl (zbd (Ssn.c ⟨1+x38,1+x44,1+x50,x56⟩) ox rfl aq) ?_
  refine .E 26 hs ?_
  refine .buildSlice (cells:=Ssn.c ⟨1+x38,1+x44,1+x50,x56⟩) hs ka rfl aq ?_;intro b58 w hs
  refine .go ?_
  refine .E 27 hs ?_
  refine .append (ys:=Ssn.c ⟨1+x38,1+x44,1+x50,x56⟩) hs jO rfl rfl hO (.own .here rfl rfl) (by simp [Ssn.c,Value.oneCell']) (fun l' h=>by rw [cK _ (B2 _),qO] at h;omega) ?_;intro v59 en59 w hO2 hs
  rw [←D9] at hO2
  obtain ⟨a59,c59,rfl⟩:=hO2.kX (B2 _) ak
  refine .go ?_
  refine .z 28 rfl (zfa gO) ?_
  refine .E 29 hs ?_
  refine .store hs rfl rfl Tryz.sizeOf23 ?_;intro w hs
  refine .go ?_
  refine .D hs ?_
  refine nB (nT ?_)
  refine .region (.z zm (.z cf (.z zg (.nil ?_))))
  refine nT ?_
  exact ⟨(k+1,ss++[⟨1+x38,1+x44,1+x50,x56⟩],_,en59),.dA rfl bV bD,⟨by dsimp only;omega,by simp [hkl],fun s hs=>by
   rcases List.mem_append.1 hs with h|h
   ·exact hss s h
   ·rw [List.mem_singleton] at h;subst h;exact ⟨by dsimp only;omega,by dsimp only;omega,by dsimp only;omega,by dsimp only;omega⟩,hO2,hs.sb⟩,by dsimp only;omega⟩
 ·refine .exit ?_
  refine xT (xT (xB (nT ?_)))
  refine .ai (.y hs (zls [_,_,_,_] bE aO) ?_)
  refine .o (.aI (vs:=[_,_,_,_]) hs rfl rfl aO fun w hs=>?_)
  refine .nil ?_
  refine .ret ?_
  exact Fin.ia [] [] hs fun w hs=>⟨_,results1 Tryz.results77 (di (vs:=[I (100+x6),I (200+x9),.slice (some ⟨b24,0,none⟩) 3 3,.slice ao ss.length co]) hs rfl bE aO),⟨100+x6,200+x9,[⟨100,x13⟩,⟨400+x16,x19⟩,⟨1000,x22⟩],ss⟩,_,_,.blk b24 (fbc [⟨100,x13⟩,⟨400+x16,x19⟩,⟨1000,x22⟩]).flatten,en,rfl,⟨⟨by dsimp only;omega,by dsimp only;omega,bV,by dsimp only;omega,fun i hi=>by
   have h:i=0∨i=1∨i=2:=by simp at hi;omega
   rcases h with rfl|rfl|rfl
   ·exact ⟨by simp [fb0],by simp [fb0];omega,bV⟩
   ·exact ⟨by simp [fb0];omega,by simp [fb0];omega,by simp [fb0];omega⟩
   ·exact ⟨by simp [fb0],by simp [fb0];omega,by simp [fb0];omega⟩,hss⟩,by dsimp only;omega,rfl,⟨rfl,rfl⟩,by dsimp only;omega⟩,.full rfl,hO,hs.sb⟩
set_option maxHeartbeats 1000000 in
theorem oQ{v:Value}{ns:List Sx}(hs:St H w σ)(hr:RS H 6 v (ns.map Sx.v)):
  Cl Tryz.prog 78 [v] w fun u w'=>∃r vr en,u= .agg #[vr]∧Du r∧bU 7 vr (lgc r).flatten en∧St H w' (en::σ):=by
 obtain ⟨a,c,rfl⟩:=hr.shape
 have hlr:=hr.len
 rw [List.length_map] at hr ⊢
 refine Cl.o Tryz.func78 Tryz.ntmps78 ag1 ?_
 refine .ai ?_
 refine .o (.alloc hs kR rfl fun b2 w hs=>?_)
 refine .nil (.ai ?_)
 refine .o (.alloc hs kR rfl fun b3 w hs=>?_)
 refine .nil (.ai (.z zg (.nil (.seq (.ai (.z zg (.nil (.block ?_))))))))
 refine .loop (fun p:Nat×Int×List Lg×Value×Ent=>⟨40,[],[(5,I (p.1:Int)),(4,I p.2.1),(3,.pointer (some ⟨b3,0,none⟩)),(2,.pointer (some ⟨b2,0,none⟩)),(0,.slice a ns.length c)]⟩)
  (fun p w=>(p.1≤4∧p.1≤ns.length)∧p.2.2.1.length=p.1∧(0≤p.2.1∧p.2.1≤p.1*100)∧(0<p.1→(lg0 p.2.2.1 (p.1 - 1)).to=p.2.1)∧(∀i<p.1,(AR (lg0 p.2.2.1 i)∧(0<i→(lg0 p.2.2.1 (i - 1)).to≤(lg0 p.2.2.1 i).fr))∧(lg0 p.2.2.1 i).bhi≤1000)∧bU 7 p.2.2.2.1 (lgc p.2.2.1).flatten p.2.2.2.2∧St H w (p.2.2.2.2:: .blk b3 [p.2.2.2.1]:: .blk b2 [.slice none 0 0]::σ)) (fun p=>4 - p.1) (0,0,[],_,.nul) bD
  ⟨by dsimp only;omega,rfl,by dsimp only;omega,fun h=>(by dsimp only at h;omega),fun i hi=>(by dsimp only at hi;omega),.nil 7 none,hs.nul⟩ ?_
 rintro ⟨k,fr,r,vo,en⟩ w ⟨hk,hkl,hfr,hto,hok,hO,hs⟩
 dsimp only at hk hkl hfr hto hok hO hs ⊢
 obtain ⟨ao,co,rfl⟩:=hO.kX (CH _) ak
 rw [ra] at hO hs
 refine .seq (.ai (.z zm (.z zm (.z (cZ Tryz.runUnderlying40) (.z iM (.z zm ?_))))))
 refine .jM (t':=11) rfl (fun hb11=>?_) (fun hb11=>?_)
 ·refine .gT rfl rfl ?_
  refine .z zm ?_
  refine .gT rfl rfl ?_
  refine .z iM (.z zpT (.nil ?_))
  refine (.bT rfl (fun hc14=>?_) (fun hc14=>?_))
  ·refine .skip ?_
   refine nT ?_
   refine .seq (.block (.ai ?_))
   obtain ⟨q,hx⟩:=nth (l:=ns) (k:=k) ak
   refine .z zm (.z zm ?_)
   refine .ixX (enc:=Sx.v) hs hr rfl rfl Tryz.runUnderlying40 Tryz.sizeOf96 hx rfl ?_;intro b19 o19 hc19
   refine .q hs (bK (vs:=q.v) rfl Tryz.isAgg96 Tryz.sizeOf96 hc19) ?_
   refine .z zm ?_
   refine .o (.call Tryz.call142 rfl (iB (a:=q.a) (b:=q.b) (c:=q.c) (d:=q.d) (e:=q.e) (f:=q.f) hs ak) ?_);rintro _ w ⟨x,rfl,hM,hs⟩
   have hMo:=hM.ok ak
   have hM2:=hM.fr
   have hM3:=hM.to
   have hM6:=hM.blo
   have hM7:=hM.bhi
   refine .o (.alloc hs cB rfl fun b6 w hs=>?_)
   refine .o (.aI (vs:=[_,_,_,_,_,_,_]) hs rfl rfl aZ fun w hs=>?_)
   refine .nil (.ai (.z (zfa iz) (.y hs (zld af) (.z zg (.nil (.region (.z (zfa de) (.y hs (zld fj) (.y hs (zls [_,_,_,_,_,_,_] fQ aZ) ?_)))))))))
   refine .o (.buildSlice (cells:=lgC x) hs jC rfl aq fun b28 w hs=>?_)
   refine .o (.append (ys:=x.c) hs mB rfl rfl hO (.own .here rfl rfl) (by simp [Lg.c,Value.oneCell']) (fun l' h=>by rw [cK _ (CH _),ra] at h;omega) ?_);intro v29 en29 w hO2 hs
   rw [←EV] at hO2
   obtain ⟨a29,c29,rfl⟩:=hO2.kX (CH _) ak
   refine .z (zfa de) ?_
   refine .o (.store hs rfl rfl qC fun w hs=>?_)
   refine .nil ?_
   refine nB (nT ?_)
   refine .region (.z zm (.z cf (.z zg (.nil ?_))))
   refine nT ?_
   exact ⟨(k+1,x.to,r++[x],_,en29),.dA rfl bV bD,⟨by dsimp only;omega,by simp [hkl],by dsimp only;omega,fun _=>by dsimp only;rw [p6,if_neg ak,if_pos ak],fun i hi=>by
    dsimp only at hi ⊢
    by_cases e:i=k
    ·subst e
     rw [p6,if_neg ak,if_pos ak,p6]
     refine ⟨⟨hMo,fun h=>?_⟩,ak⟩
     rw [if_pos ak]
     have:=hto h;omega
    ·rw [p6,if_pos ak,p6,if_pos ak]
     exact hok i ak,hO2,hs.sb⟩,by dsimp only;omega⟩
  ·refine .exit ?_
   refine xT (xT (xB (nT ?_)))
   refine .seq (.ai (.z (zfa de) (.y hs (zld fj) (.z (cZ bn) (.z jU (.nil ?_))))))
   refine (.bT rfl (fun hc34=>?_) (fun hc34=>?_))
   ·refine .region ?_
    obtain rfl:k=0:=by omega
    obtain rfl:r=[]:=List.length_eq_zero_iff.1 hkl
    refine .q hs (wv (vs:=[]) (cells:=[I 0,I 0,I 0,I 0,I 0,I 0]) Tryz.zeroValue96 rfl dE aj rfl) ?_
    refine .o (.call Tryz.call142 rfl (iB (a:=0) (b:=0) (c:=0) (d:=0) (e:=0) (f:=0) hs ak) ?_);rintro _ w ⟨x,rfl,hM,hs⟩
    have hM6:=hM.blo
    have hM7:=hM.bhi
    refine .o (.buildSlice (cells:=(lgc [x]).flatten) hs jC rfl aq fun b37 w hs=>?_)
    refine .z (zfa de) ?_
    refine .o (.store hs rfl rfl qC fun w hs=>?_)
    refine .nil ?_
    refine nT ?_
    refine .ai (.y hs (zls [_] bQ aU) ?_)
    refine .o (.aI (vs:=[_]) hs rfl rfl aU fun w hs=>?_)
    refine .nil ?_
    refine .ret ?_
    exact Fin.ia [] [] hs fun w hs=>⟨_,results1 Tryz.results78 (di (vs:=[.slice (some ⟨b37,0,none⟩) 1 1]) hs rfl bQ aU),[x],_,.blk b37 (lgc [x]).flatten,rfl,⟨⟨bV,fun i hi=>by
     obtain rfl:i=0:=by simp at hi;omega
     exact ⟨hM.ok ak,fun h=>by omega⟩⟩,bV,fun i hi=>by
     obtain rfl:i=0:=by simp at hi;omega
     show x.bhi≤1000;omega⟩,.full rfl,hs.sb⟩
   ·refine .skip ?_
    refine nT ?_
    refine .ai (.y hs (zls [_] bQ aU) ?_)
    refine .o (.aI (vs:=[_]) hs rfl rfl aU fun w hs=>?_)
    refine .nil ?_
    refine .ret ?_
    exact Fin.ia [] [] hs fun w hs=>⟨_,results1 Tryz.results78 (di (vs:=[.slice ao r.length co]) hs rfl bQ aU),r,_,en,rfl,⟨⟨ak,fun i hi=>(hok i ak).1⟩,ak,fun i hi=>(hok i ak).2⟩,hO,hs.sb⟩
 ·refine .gFs 2 4 true rfl rfl rfl ?_
  refine .z zpF (.nil ?_)
  refine (.cF ?_)
  refine .exit ?_
  refine xT (xT (xB (nT ?_)))
  refine .seq (.ai (.z (zfa de) (.y hs (zld fj) (.z (cZ bn) (.z jU (.nil ?_))))))
  refine (.bT rfl (fun hc34=>?_) (fun hc34=>?_))
  ·refine .region ?_
   obtain rfl:k=0:=by omega
   obtain rfl:r=[]:=List.length_eq_zero_iff.1 hkl
   refine .q hs (wv (vs:=[]) (cells:=[I 0,I 0,I 0,I 0,I 0,I 0]) Tryz.zeroValue96 rfl dE aj rfl) ?_
   refine .o (.call Tryz.call142 rfl (iB (a:=0) (b:=0) (c:=0) (d:=0) (e:=0) (f:=0) hs ak) ?_);rintro _ w ⟨x,rfl,hM,hs⟩
   have hM6:=hM.blo
   have hM7:=hM.bhi
   refine .o (.buildSlice (cells:=(lgc [x]).flatten) hs jC rfl aq fun b37 w hs=>?_)
   refine .z (zfa de) ?_
   refine .o (.store hs rfl rfl qC fun w hs=>?_)
   refine .nil ?_
   refine nT ?_
   refine .ai (.y hs (zls [_] bQ aU) ?_)
   refine .o (.aI (vs:=[_]) hs rfl rfl aU fun w hs=>?_)
   refine .nil ?_
   refine .ret ?_
   exact Fin.ia [] [] hs fun w hs=>⟨_,results1 Tryz.results78 (di (vs:=[.slice (some ⟨b37,0,none⟩) 1 1]) hs rfl bQ aU),[x],_,.blk b37 (lgc [x]).flatten,rfl,⟨⟨bV,fun i hi=>by
    obtain rfl:i=0:=by simp at hi;omega
    exact ⟨hM.ok ak,fun h=>by omega⟩⟩,bV,fun i hi=>by
    obtain rfl:i=0:=by simp at hi;omega
    show x.bhi≤1000;omega⟩,.full rfl,hs.sb⟩
  ·refine .skip ?_
   refine nT ?_
   refine .ai (.y hs (zls [_] bQ aU) ?_)
   refine .o (.aI (vs:=[_]) hs rfl rfl aU fun w hs=>?_)
   refine .nil ?_
   refine .ret ?_
   exact Fin.ia [] [] hs fun w hs=>⟨_,results1 Tryz.results78 (di (vs:=[.slice ao r.length co]) hs rfl bQ aU),r,_,en,rfl,⟨⟨ak,fun i hi=>(hok i ak).1⟩,ak,fun i hi=>(hok i ak).2⟩,hO,hs.sb⟩
theorem results4{P:Program}{s:FS}{w:World}{fn:Func}{r1 r2 r3 r4:ResultVar}{v1 v2 v3 v4:Value}(hr:fn.results=#[r1,r2,r3,r4])(h1:xk P s w r1 v1)(h2:xk P s w r2 v2)(h3:xk P s w r3 v3)(h4:xk P s w r4 v4):∀a,Sim s a→(results fn a.tmps).run P w= .ok (.tuple #[v1,v2,v3,v4]) w:=fun a ha=>by
 have e1:=h1.run ha
 have e2:=h2.run ha
 have e3:=h3.run ha
 have e4:=h4.run ha
 rw [kY,hr]
 simp only [Array.mapM_eq_mapM_toList,List.mapM_cons,List.mapM_nil,Sem.run_bind,e1,e2,e3,e4,Result.andThen,Sem.run_pure,map_eq_pure_bind]
 simp
theorem oR{v:Value}{ns:List Int}(hs:St H w σ)(hr:RI H v ns):
  Cl Tryz.prog 77 [v] w fun u w'=>∃H1 l a n b c,HLe H H1∧u=lnA l (.slice a l.table.length n) (.slice b l.seasons.length c)∧Dv l∧LnM H1 l (.slice a l.table.length n) (.slice b l.seasons.length c)∧St H1 w' σ:=by
 refine (oS hs hr).mono ?_
 rintro _ w ⟨l,vt,vn,e1,e2,rfl,hL,hO1,hO2,hs⟩
 have h1:=hL.tbl
 have h2:=hL.sns
 obtain ⟨H2,q2,p2,hs⟩:=bU.cg (m:=4) hO2 (B2 _) ak (by rw [qO];omega) hs .here
 obtain ⟨H3,q3,p3,hs⟩:=bU.cg (m:=2) hO1 (Ir _) ak (by rw [Bn];omega) hs .here
 have g:LnM H3 l vt vn:=⟨p3,RSn.mono p2 q3⟩
 obtain ⟨a,n,rfl⟩:=g.tb.shape
 obtain ⟨b,c,rfl⟩:=g.sn.shape
 exact ⟨H3,l,a,n,b,c,q2.trans q3,rfl,hL,g,hs.sb⟩
theorem oP{v:Value}{ns:List Sx}(hs:St H w σ)(hr:RS H 6 v (ns.map Sx.v)):
  Cl Tryz.prog 78 [v] w fun u w'=>∃H1 r a n,HLe H H1∧u= .agg #[.slice a r.length n]∧Du r∧RLg H1 (.slice a r.length n) r∧St H1 w' σ:=by
 refine (oQ hs hr).mono ?_
 rintro _ w ⟨r,vr,e1,rfl,hR,hO1,hs⟩
 have h1:=hR.many
 obtain ⟨H2,q2,p2,hs⟩:=bU.cg (m:=7) hO1 (CH _) ak (by rw [ra];omega) hs .here
 have g:RLg H2 vr r:=p2
 obtain ⟨a,n,rfl⟩:=g.shape
 exact ⟨H2,r,a,n,q2,rfl,hR,g,hs.sb⟩
theorem tl{x:F1}{vs v5 v4 vp vn vg:Value}(hs:St H w σ)(hx:zS H x vs v5 v4 vp vn vg):
  Cl Tryz.prog 35 [x.agg vs v5 v4 vp vn vg] w fun u w'=>∃H1 s y aa ca ab cb ac cc ad cd ay cy l at_ ct as_ cs r ar cr,HLe H H1∧u= .tuple #[svA s (.slice aa s.sp.st.length ca) (.slice ab s.sp.wa.length cb) (.slice ac s.rs.length cc) (.slice ad s.cs.length cd),.slice ay y.length cy,lnA l (.slice at_ l.table.length ct) (.slice as_ l.seasons.length cs),.agg #[.slice ar r.length cr]]∧
   Dt s∧qx s y∧SvM H1 s (.slice aa s.sp.st.length ca) (.slice ab s.sp.wa.length cb) (.slice ac s.rs.length cc) (.slice ad s.cs.length cd)∧RI H1 (.slice ay y.length cy) y∧Dv l∧LnM H1 l (.slice at_ l.table.length ct) (.slice as_ l.seasons.length cs)∧Du r∧RLg H1 (.slice ar r.length cr) r∧St H1 w' σ:=by
 obtain ⟨avs,cvs,rfl⟩:=RI.shape hx.sp
 obtain ⟨av5,cv5,rfl⟩:=hx.rs.shape
 obtain ⟨av4,cv4,rfl⟩:=hx.cs.shape
 obtain ⟨avp,cvp,rfl⟩:=RI.shape hx.pk
 obtain ⟨avn,cvn,rfl⟩:=RI.shape hx.ln
 obtain ⟨avg,cvg,rfl⟩:=hx.lg.shape
 rw [List.length_map] at hx ⊢
 refine Cl.o Tryz.func35 Tryz.ntmps35 ag1 ?_
 refine .ai ?_
 refine .bx hs fun b1 w hs=>?_
 refine .o (.alloc hs ee rfl fun b2 w hs=>?_)
 refine .z zg ?_
 refine .o (.alloc hs iP rfl fun b4 w hs=>?_)
 refine .o (.alloc hs kR rfl fun b5 w hs=>?_)
 refine .nil (.ai (.z (zfa mZ) (.y hs (zls [_,_,_,_,_,_,_] Tryz.isAgg39 Tryz.sizeOf39) ?_)))
 refine .o (.call Tryz.call31 rfl (uw hs hx.sp hx.rs hx.cs hx.pk) ?_);rintro _ w ⟨H1,s,y,a,b,c,d,vy,hle1,rfl,hM,hK,r1,r2,r3,r4,hY,hs⟩
 have hSv:SvM H1 s a b c d:=⟨r1,r2,r3,r4⟩
 obtain ⟨aa,ca,rfl⟩:=RI.shape r1
 obtain ⟨ab,cb,rfl⟩:=RI.shape r2
 obtain ⟨ac,cc,rfl⟩:=RRd.shape r3
 obtain ⟨ad,cd,rfl⟩:=RCm.shape r4
 obtain ⟨ay,cy,rfl⟩:=RI.shape hY
 replace hx:=hx.mono hle1
 refine .z zm (.z zex (.z zex ?_))
 refine .o (.alloc hs ee rfl fun b6 w hs=>?_)
 refine .o (.aI (vs:=[_,_,_,_,_,_,_,_]) hs rfl rfl aB fun w hs=>?_)
 refine .z zg (.nil ?_)
 refine .seq (.draw mix rfl hs fun w hs=>?_)
 refine .ys 0 rfl hs [_,_,_,_,_,_,_,_] aJ aB ?_;refine .z 1 rfl zm ?_;refine .z 2 rfl (zfa mY) ?_;refine .y 3 rfl hs an ?_;refine .z 5 rfl (zfa mX) ?_;refine .y 6 rfl hs Tryz.isAgg40 ?_
 refine .E 4 hs ?_
 refine .call Tryz.call77 rfl (oR hs hx.ln) ?_;rintro _ w ⟨H2,l,at_,ct,as_,cs,hle2,rfl,hL,gl,hs⟩
 replace hx:=hx.mono hle2
 refine .go ?_
 refine .E 7 hs ?_
 refine .call Tryz.call78 rfl (oP hs hx.lg) ?_;rintro _ w ⟨H3,r,ar,cr,hle3,rfl,hR,gr_,hs⟩
 refine .go ?_
 refine .E 8 hs ?_
 refine .aI (vs:=[_,_,_,_,_,_,_,_]) hs rfl rfl aB ?_;intro w hs
 refine .go ?_
 refine .z 9 rfl zg ?_
 refine .E 10 hs ?_
 refine .aI (vs:=[_,_,_,_]) hs rfl rfl aO ?_;intro w hs
 refine .go ?_
 refine .E 11 hs ?_
 refine .aI (vs:=[_]) hs rfl rfl aU ?_;intro w hs
 refine .go ?_
 refine .D hs ?_
 refine .ret ?_
 exact Fin.ia [] [] hs fun w hs=>⟨_,results4 Tryz.results35 (di (vs:=svC s (.slice aa s.sp.st.length ca) (.slice ab s.sp.wa.length cb) (.slice ac s.rs.length cc) (.slice ad s.cs.length cd)) hs rfl aJ aB) rfl (di (vs:=lnC l (.slice at_ l.table.length ct) (.slice as_ l.seasons.length cs)) hs rfl bE aO) (di (vs:=[.slice ar r.length cr]) hs rfl bQ aU),
  H3,s,y,aa,ca,ab,cb,ac,cc,ad,cd,ay,cy,l,at_,ct,as_,cs,r,ar,cr,hle1.trans (hle2.trans hle3),rfl,hM,hK,hSv.mono (hle2.trans hle3),RI.mono hY (hle2.trans hle3),hL,gl.mono hle3,hR,gr_,hs.out⟩
set_option maxHeartbeats 2000000 in
theorem rb{W:World}{H:bB}{x:F1}{vs v5 v4 vp vn vg:Value}{less:Int}(hs:St H W [])(hx:zS H x vs v5 v4 vp vn vg):
  Cl Tryz.prog 6 [x.agg vs v5 v4 vp vn vg,I less] W fun v w'=>v= .bool true∧∃H',HLe H H'∧St H' w' []:=by
 refine Cl.o Tryz.func6 Tryz.ntmps6 ag2 ?_
 refine .ai ?_
 refine .bx hs fun b2 w hs=>?_
 refine .z zg (.nil (.ai ?_))
 refine .o (.call Tryz.call18 rfl (tH hs) ?_);rintro _ w ⟨rfl,H1,hle1,hs⟩
 replace hx:=hx.mono hle1
 refine .z zg (.nil (.ai (.y hs (zls [_,_,_,_,_,_,_,_,_,_,_,_,_,_] Tryz.isAgg44 Tryz.sizeOf44) ?_)))
 refine .o (.call Tryz.call35 rfl (tl hs hx) ?_);rintro _ w ⟨H2,s,y,aa,ca,ab,cb,ac,cc,ad,cd,ay,cy,l,at_,ct,as_,cs,r,ar,cr,hle2,rfl,hM,hK,g,hY,hL,gl,hR,gr_,hs⟩
 have hle02:=hle1.trans hle2
 refine .z zm (.z zex (.z zex (.z zex (.z zex ?_))))
 refine .o (.alloc hs ee rfl fun b6 w hs=>?_)
 refine .o (.alloc hs iP rfl fun b8 w hs=>?_)
 refine .o (.alloc hs kR rfl fun b9 w hs=>?_)
 refine .o (.aI (vs:=[_,_,_,_,_,_,_,_]) hs rfl rfl aB fun w hs=>?_)
 refine .z zg ?_
 refine .o (.aI (vs:=[_,_,_,_]) hs rfl rfl aO fun w hs=>?_)
 refine .o (.aI (vs:=[_]) hs rfl rfl aU fun w hs=>?_)
 refine .nil (.ai (.y hs (zls [_,_,_,_,_,_,_,_] aJ aB) (.y hs (zls [_,_,_,_] bE aO) (.y hs (zls [_] bQ aU) ?_))))
 refine .o (.call Tryz.call28 rfl (og (s:=s) (l:=l) (r:=r) hs g gl gr_) ?_);rintro _ w ⟨H3,m,e,hle3,rfl,hSu,hs⟩
 replace g:=g.mono hle3
 replace gl:=gl.mono hle3
 replace gr_:=gr_.mono hle3
 refine .z zm (.z zex (.z zex (.z zg (.z zg (.nil (.ai (.y hs (zls [_,_,_,_,_,_,_,_] aJ aB) (.y hs (zls [_,_,_,_] bE aO) (.y hs (zls [_] bQ aU) ?_)))))))))
 refine .z (zbd [_,_] bA) ?_
 refine .o (.call Fz rfl (fg (s:=s) (l:=l) (r:=r) (m:=⟨0,0⟩) hs g gl gr_) ?_);rintro _ w ⟨H4,z,f,hle4,rfl,hJ0,hs⟩
 replace g:=g.mono hle4
 replace gl:=gl.mono hle4
 replace gr_:=gr_.mono hle4
 have hle04:=hle02.trans (hle3.trans hle4)
 refine .z zm (.z zex (.z zex (.z zg (.z zg (.nil (.seq (.ai (.z zm (.z gE ?_)))))))))
 refine .nil ?_
 refine (.ep rfl (fun hc45=>?_) (fun hc45=>?_))
 ·have hF:=qv.Jv hSu ea hJ0
  refine .ai (.z zm (.z zm ?_))
  refine .gT rfl rfl ?_
  refine .z zm ?_
  refine .gT rfl rfl ?_
  refine .z zm ?_
  refine .gT rfl rfl ?_
  refine .z jU ?_
  refine .gT rfl rfl ?_
  refine .z zm ?_
  refine .jM (t':=51) rfl (fun hb51=>?_) (fun hb51=>?_)
  ·refine .gFs 3 5 false rfl rfl rfl ?_
   refine .gFs 2 8 true rfl rfl rfl ?_
   refine .gFs 2 5 false rfl rfl rfl ?_
   refine .gFs 2 12 true rfl rfl rfl ?_
   refine .gFs 1 5 false rfl rfl rfl ?_
   refine .gT rfl rfl ?_
   refine .z zpT (.z zpT (.z zg (.nil ?_)))
   refine .ret (rT (Fin.bw yS rfl ?_))
   exact ⟨by first|rfl|(exfalso;omega)|(rcases hF with hF|⟨h1,h2,h3⟩<;>simp_all;done)|(simp_all;done),_,by assumption,hs.out⟩
  ·refine .gT rfl rfl ?_
   refine .z zm ?_
   refine .gT rfl rfl ?_
   refine .z jU ?_
   refine .gT rfl rfl ?_
   refine .z zm ?_
   refine .jM (t':=54) rfl (fun hb54=>?_) (fun hb54=>?_)
   ·refine .gT rfl rfl ?_
    refine .z zm ?_
    refine .gT rfl rfl ?_
    refine .z jU ?_
    refine .gT rfl rfl ?_
    refine .z zpT ?_
    refine .gT rfl rfl ?_
    refine .z zm ?_
    refine .jM (t':=58) rfl (fun hb58=>?_) (fun hb58=>?_)
    ·refine .gT rfl rfl ?_
     refine .z zm ?_
     refine .gT rfl rfl ?_
     refine .z gE ?_
     refine .gT rfl rfl ?_
     refine .z zpT ?_
     refine .gT rfl rfl ?_
     refine .z zpF (.z zpT (.z zg (.nil ?_)))
     refine .ret (rT (Fin.bw yS rfl ?_))
     exact ⟨by first|rfl|(exfalso;omega)|(rcases hF with hF|⟨h1,h2,h3⟩<;>simp_all;done)|(simp_all;done),_,by assumption,hs.out⟩
    ·refine .gFs 2 12 true rfl rfl rfl ?_
     refine .gT rfl rfl ?_
     refine .z zpF ?_
     refine .gT rfl rfl ?_
     refine .z zpF (.z zpT (.z zg (.nil ?_)))
     refine .ret (rT (Fin.bw yS rfl ?_))
     exact ⟨by first|rfl|(exfalso;omega)|(rcases hF with hF|⟨h1,h2,h3⟩<;>simp_all;done)|(simp_all;done),_,by assumption,hs.out⟩
   ·refine .gFs 2 8 true rfl rfl rfl ?_
    refine .gT rfl rfl ?_
    refine .z zpF ?_
    refine .gT rfl rfl ?_
    refine .z zm ?_
    refine .gFs 2 12 true rfl rfl rfl ?_
    refine .gT rfl rfl ?_
    refine .z zpF ?_
    refine .gT rfl rfl ?_
    refine .z zpF (.z zpT (.z zg (.nil ?_)))
    refine .ret (rT (Fin.bw yS rfl ?_))
    exact ⟨by first|rfl|(exfalso;omega)|(rcases hF with hF|⟨h1,h2,h3⟩<;>simp_all;done)|(simp_all;done),_,by assumption,hs.out⟩
 ·refine .skip ?_
  refine nT ?_
  obtain rfl:e=0:=by omega
  obtain ⟨hm,hsure⟩:=hSu.sure
  obtain ⟨rfl,hz⟩:=hsure (by unfold eQ;omega) hJ0
  obtain rfl:z=1:=hz.2 hm.1
  refine .ai (.y hs (zls [_,_,_,_,_,_,_,_] aJ aB) (.y hs (zls [_,_,_,_] bE aO) (.y hs (zls [_] bQ aU) (.z zm (.z zm (.z (zbd [_,_] bA) ?_))))))
  refine .o (.call Fz rfl (fg (s:=s) (l:=l) (r:=r) (m:=⟨m,m⟩) hs g gl gr_) ?_);rintro _ w ⟨H5,a,f5,hle5,rfl,hJ1,hs⟩
  replace g:=g.mono hle5
  replace gl:=gl.mono hle5
  replace gr_:=gr_.mono hle5
  have hle05:=hle04.trans hle5
  obtain ⟨rfl,ha⟩:=hsure (by unfold eQ;omega) hJ1
  obtain rfl:a=1:=ha.2 (Int.le_refl m)
  refine .z zm (.z zex (.z zex (.z zg (.z zg (.nil (.ai (.z zm (.z zm (.z cf ?_)))))))))
  refine .o (.call fU rfl (cO hs ak) ?_);rintro _ w ⟨rfl,hs⟩
  have hmd:=lB less (m:=m+1) ak
  generalize rG less (m+1)=k at*
  refine .z zg (.nil (.ai (.y hs (zls [_,_,_,_,_,_,_,_] aJ aB) (.y hs (zls [_,_,_,_] bE aO) (.y hs (zls [_] bQ aU) (.z zm (.z zm (.z (zbd [_,_] bA) ?_))))))))
  refine .o (.call Fz rfl (fg (s:=s) (l:=l) (r:=r) (m:=⟨k,m⟩) hs g gl gr_) ?_);rintro _ w ⟨H6,b,f6,hle6,rfl,hJ2,hs⟩
  replace g:=g.mono hle6
  replace gl:=gl.mono hle6
  replace gr_:=gr_.mono hle6
  have hle06:=hle05.trans hle6
  obtain ⟨rfl,hb⟩:=hsure (by unfold eQ;omega) hJ2
  obtain rfl:b=1:=hb.2 (Int.le_refl m)
  refine .z zm (.z zex (.z zex (.z zg (.z zg (.nil (.seq (.ai (.z zm (.z gy ?_)))))))))
  refine .z zm ?_
  refine .gT rfl rfl ?_
  refine .z zm ?_
  refine .gT rfl rfl ?_
  refine .z gE ?_
  rw [decide_eq_true rfl]
  refine .z zpF (.z zm ?_)
  refine .gT rfl rfl ?_
  refine .z zm ?_
  refine .gT rfl rfl ?_
  refine .z gE ?_
  rw [decide_eq_true rfl]
  refine .z zpF (.z zm ?_)
  refine .gT rfl rfl ?_
  refine .z zm ?_
  refine .gT rfl rfl ?_
  refine .z gE ?_
  rw [decide_eq_true rfl]
  refine .z zpF (.z zm ?_)
  refine .gT rfl rfl ?_
  refine .z zm ?_
  refine .gT rfl rfl ?_
  refine .z gE ?_
  rw [decide_eq_true rfl]
  refine .z zpF (.z zm ?_)
  refine .gT rfl rfl ?_
  refine .z zm ?_
  refine .gT rfl rfl ?_
  refine .z gE ?_
  rw [decide_eq_true rfl]
  refine .z zpF (.z zm ?_)
  refine .gT rfl rfl ?_
  refine .z zm ?_
  refine .gT rfl rfl ?_
  refine .z gE ?_
  rw [decide_eq_true rfl]
  refine .z zpF (.nil ?_)
  refine (.cF ?_)
  refine .skip ?_
  refine nT ?_
  refine .seq (.ai (.z zm (.z jU (.nil ?_))))
  refine (.bT rfl (fun hc115=>?_) (fun hc115=>?_))
  ·refine .ai (.z zg (.nil ?_))
   refine .ret (rT (Fin.bw yS rfl ?_))
   exact ⟨by first|rfl|(exfalso;omega)|(rcases hF with hF|⟨h1,h2,h3⟩<;>simp_all;done)|(simp_all;done),_,by assumption,hs.out⟩
  ·refine .skip ?_
   refine nT ?_
   refine .ai (.y hs (zls [_,_,_,_,_,_,_,_] aJ aB) (.y hs (zls [_,_,_,_] bE aO) (.y hs (zls [_] bQ aU) (.z zm (.z cf (.z zm (.z cf (.z (zbd [_,_] bA) ?_))))))))
   refine .o (.call Fz rfl (fg (s:=s) (l:=l) (r:=r) (m:=⟨m+1,m+1⟩) hs g gl gr_) ?_);rintro _ w ⟨H7,c,f7,hle7,rfl,hJ3,hs⟩
   obtain ⟨rfl,hc⟩:=hsure (by unfold eQ;omega) hJ3
   have hc1:c≠1:=fun h=>by have:=hc.1 h;omega
   have hle07:=hle06.trans hle7
   refine .z zm (.z zex (.z zex (.z zg (.z zg (.nil (.ai (.z zm (.z jU (.z zm ?_)))))))))
   refine .gT rfl rfl ?_
   refine .z zm ?_
   refine .gT rfl rfl ?_
   refine .z gE (.z zpT (.z zg (.nil ?_)))
   refine .ret (Fin.bw yS rfl ?_)
   exact ⟨by first|rfl|(exfalso;omega)|(rcases hF with hF|⟨h1,h2,h3⟩<;>simp_all;done)|(simp_all;done),_,by assumption,hs.out⟩
end Go.Proofs.YteajddicacjkhaaGreat
