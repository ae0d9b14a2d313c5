/-
  Texts of these claims, joined: Nb Nj Oc Od Oe Of Og Oh Oi Oj Ok Ol Om On Oq Os Ov Ow Ox.
-/
import Derived.Test.YteajddicacjkhaaGreatCd
namespace Go.Proofs.YteajddicacjkhaaGreat
open Go.MW
variable{H:bV}{w:World}{σ:List Ent}
structure Spl(s:Srv):Prop where
 st:2≤s.sp.st.length∧s.sp.st.length≤4
 wa:2≤s.sp.wa.length∧s.sp.wa.length≤3
 rs:s.rs.length≤15
 cs:s.cs.length≤5
theorem AN{b n cap k:Nat}{xs:List Int}{sp:List Value}(h:cI 1 (.slice (some ⟨b,0,none⟩) n cap) (Is xs) (.blk b (Is xs++sp)))(x:Int):
  cI 1 (.slice (some ⟨b,0,none⟩) n cap) (Is (xs.set k x)) (.blk b (Is (xs.set k x)++sp)):=by
 rcases h with ⟨a,_,_,h3⟩|⟨b',len,cap',sp',h1,h2,h3,h4,h5⟩
 ·cases h3
 ·simp only [Value.slice.injEq] at h1
  obtain ⟨-,rfl,rfl⟩:=h1
  simp only [Ent.blk.injEq] at h2
  rw [←h2.2] at h4
  exact .inr ⟨b,n,cap,sp,rfl,rfl,by simpa [Is] using h3,by simpa [Is] using h4,h5⟩
theorem kD{l:List Rdg}{k j:Nat}{r r':Rdg}(h:l[k]? =some r)(hj:j<7){v:Value}(hc:r.c.set j v=r'.c)(sp:List Value):((rdc l).flatten++sp).set (k*7+j) v=(rdc (l.set k r')).flatten++sp:=by
 have hk:=(List.getElem?_eq_some_iff.1 h).1
 rw [List.set_append_left _ _ (by rw [bT _ (jO _),dr];omega),qU (rdc l) k j v (jO l) (by rw [dr];exact hk) hj r.c (xf h),hc]
 unfold rdc
 rw [List.map_set]
theorem kE{b n cap k:Nat}{R:List Rdg}{r':Rdg}{sp:List Value}(h:cI 7 (.slice (some ⟨b,0,none⟩) n cap) (rdc R).flatten (.blk b ((rdc R).flatten++sp))):
  cI 7 (.slice (some ⟨b,0,none⟩) n cap) (rdc (R.set k r')).flatten (.blk b ((rdc (R.set k r')).flatten++sp)):=by
 have hl:(rdc (R.set k r')).flatten.length=(rdc R).flatten.length:=by
  rw [bT _ (jO _),bT _ (jO _),dr,dr,List.length_set]
 rcases h with ⟨a,_,_,h3⟩|⟨b',len,cap',sp',h1,h2,h3,h4,h5⟩
 ·cases h3
 ·simp only [Value.slice.injEq] at h1
  obtain ⟨-,rfl,rfl⟩:=h1
  simp only [Ent.blk.injEq] at h2
  rw [←h2.2] at h4
  exact .inr ⟨b,n,cap,sp,rfl,rfl,by rw [hl];exact h3,by rw [List.length_append,hl,←List.length_append];exact h4,h5⟩
theorem q5{l:List Cmp}{k j:Nat}{r r':Cmp}(h:l[k]? =some r)(hj:j<6){v:Value}(hc:r.c.set j v=r'.c)(sp:List Value):((cmc l).flatten++sp).set (k*6+j) v=(cmc (l.set k r')).flatten++sp:=by
 have hk:=(List.getElem?_eq_some_iff.1 h).1
 rw [List.set_append_left _ _ (by rw [bT _ (su _),fF];omega),qU (cmc l) k j v (su l) (by rw [fF];exact hk) hj r.c (GZ h),hc]
 unfold cmc
 rw [List.map_set]
theorem qz{b n cap k:Nat}{R:List Cmp}{r':Cmp}{sp:List Value}(h:cI 6 (.slice (some ⟨b,0,none⟩) n cap) (cmc R).flatten (.blk b ((cmc R).flatten++sp))):
  cI 6 (.slice (some ⟨b,0,none⟩) n cap) (cmc (R.set k r')).flatten (.blk b ((cmc (R.set k r')).flatten++sp)):=by
 have hl:(cmc (R.set k r')).flatten.length=(cmc R).flatten.length:=by
  rw [bT _ (su _),bT _ (su _),fF,fF,List.length_set]
 rcases h with ⟨a,_,_,h3⟩|⟨b',len,cap',sp',h1,h2,h3,h4,h5⟩
 ·cases h3
 ·simp only [Value.slice.injEq] at h1
  obtain ⟨-,rfl,rfl⟩:=h1
  simp only [Ent.blk.injEq] at h2
  rw [←h2.2] at h4
  exact .inr ⟨b,n,cap,sp,rfl,rfl,by rw [hl];exact h3,by rw [List.length_append,hl,←List.length_append];exact h4,h5⟩
set_option maxHeartbeats 2000000 in
theorem rZ{vs v5 v4 vp:Value}{sl pk:List Int}{fs5:List F5}{fs4:List F4}{z1 z2 z3:Int}(hs:St H w σ)(g1:RI H vs sl)(g2:RF5 H v5 fs5)(g3:RF4 H v4 fs4)(g4:RI H vp pk):
  Cl Tryz.prog 55 [.agg #[vs,v5,v4,vp,I z1,I z2,I z3]] w fun u w'=>∃H1 s vst vwa vr vc,HLe H H1∧u= .agg #[I s.sp.id,I s.sp.src,vst,vwa,I s.sp.al,I s.sp.up,vr,vc]∧RI H1 vst s.sp.st∧RI H1 vwa s.sp.wa∧RRd H1 vr s.rs∧RCm H1 vc s.cs∧Spl s∧St H1 w' σ:=by
 obtain ⟨avs,cvs,rfl⟩:=RI.shape g1
 obtain ⟨av5,cv5,rfl⟩:=g2.shape
 obtain ⟨av4,cv4,rfl⟩:=g3.shape
 obtain ⟨avp,cvp,rfl⟩:=RI.shape g4
 refine Cl.o Tryz.func55 Tryz.ntmps55 ag1 ?_
 refine .aj ?_
 refine .bx hs fun b1 w hs=>?_
 refine .o (.alloc hs eb rfl fun b2 w hs=>?_)
 refine .nil (.aj (.y hs (zls [_,_,_,_,_,_,_] Tryz.isAgg39 Tryz.sizeOf39) ?_))
 refine .o (.call Tryz.call31 rfl (vJ hs g1 g2 g3 g4) ?_);rintro _ w ⟨H1,s,y,vst,vwa,vr,vc,vy,e1,e2,e3,e4,e5,hle1,rfl,hM,⟨hO1,hO2,hO3,hO4⟩,hOy,-,hs⟩
 have hst2:=hM.ok.early.1.st.two
 have hwa2:=hM.ok.early.1.wa.two
 have hst4:=hM.st
 have hwa3:=hM.wa
 have hrs:=hM.rs
 have hcs:=hM.cs
 obtain ⟨bS,cS,spS,rfl,rfl,hcapS⟩:=hO1.some ak
 obtain ⟨bW,cW,spW,rfl,rfl,hcapW⟩:=hO2.some ak
 obtain ⟨ar,cr,rfl⟩:=hO3.iU (jO _) ak
 obtain ⟨ac,cc,rfl⟩:=hO4.iU (su _) ak
 rw [dr] at hO3 ⊢
 rw [fF] at hO4 ⊢
 obtain ⟨ay,ly,cy,rfl,-⟩:=hOy.shape
 refine .z zm (.z zex (.z zex ?_))
 refine .o (.alloc hs eb rfl fun b3 w hs=>?_)
 refine .o (.aP (vs:=[_,_,_,_,_,_,_,_]) hs rfl rfl aD fun w hs=>?_)
 refine .z zg (.nil (.aj (.z (zfa od) (.y hs (zls [_,_,_] Tryz.isAgg37 zE) ?_))))
 refine .o (.alloc hs Tryz.zeroValue37 rfl fun b5 w hs=>?_)
 refine .o (.aP (vs:=[_,_,_]) hs rfl rfl zE fun w hs=>?_)
 refine .nil (.aj ?_)
 refine .z (zia 0 az ai) ?_
 refine .y hs (zld ae) ?_
 refine .o (.call dR rfl (cn hs ak) ?_);rintro _ w ⟨k,gk,rfl,hs⟩
 refine .z zg (.nil ?_)
 refine .cut (fun fs w=>∃(sp':Spc) (f1 f2:Ent),kJ fs ⟨225,[],[(6,I (k:Int)),(5,.pointer (some ⟨b5,0,none⟩)),(3,.pointer (some ⟨b3,0,none⟩)),(2,.pointer (some ⟨b2,0,none⟩)),(1,.pointer (some ⟨b1,0,none⟩))]⟩∧sp'.st.length=s.sp.st.length∧sp'.wa.length=s.sp.wa.length∧cI 1 (.slice (some ⟨bS,0,none⟩) s.sp.st.length cS) (Is sp'.st) f1∧cI 1 (.slice (some ⟨bW,0,none⟩) s.sp.wa.length cW) (Is sp'.wa) f2∧St H1 w (f1::f2::e3::e4:: .blk b5 [I z1,I z2,I z3]:: .blk b3 [I sp'.id,I sp'.src,.slice (some ⟨bS,0,none⟩) s.sp.st.length cS,.slice (some ⟨bW,0,none⟩) s.sp.wa.length cW,I sp'.al,I sp'.up,.slice ar s.rs.length cr,.slice ac s.cs.length cc]:: .blk b2 [I 0,I 0,.slice none 0 0,.slice none 0 0,I 0,I 0,.slice none 0 0,.slice none 0 0]::σ)) ?_ ?_
 ·refine .aj (.z zm (.nil (.block (.aj (.z gj (.z zg (.nil ?_)))))))
  refine (.bH rfl (fun hc21=>?_) (fun hc21=>?_))
  ·refine .region ?_
   refine .z (zia 2 az ai) ?_
   refine .y hs (zld ae) (.z (zfa bh) (.z (zfa lU) ?_))
   refine .o (.store hs rfl rfl ai fun w hs=>?_)
   refine .nil ?_
   refine nB (nT ?_)
   exact ⟨{s.sp with id:=z3},_,_,bj,rfl,rfl,hO1,hO2,hs.sb⟩
  ·refine .aj (.z gj (.z zg (.nil ?_)))
   refine (.bH rfl (fun hc27=>?_) (fun hc27=>?_))
   ·refine .region ?_
    refine .z (zia 2 az ai) ?_
    refine .y hs (zld ae) (.z (zfa bh) (.z (zfa dM) ?_))
    refine .o (.store hs rfl rfl ai fun w hs=>?_)
    refine .nil ?_
    refine nB (nT ?_)
    exact ⟨{s.sp with src:=z3},_,_,bj,rfl,rfl,hO1,hO2,hs.sb⟩
   ·refine .aj (.z gj (.z zg (.nil ?_)))
    refine (.bH rfl (fun hc33=>?_) (fun hc33=>?_))
    ·refine .draw mix rfl hs fun w hs=>?_
     refine .z 0 rfl (zfa bh) ?_;refine .z 1 rfl (zfa bP) ?_;refine .y 2 rfl hs an ?_
     refine .z 3 rfl (zia 1 az ai) ?_
     refine .y 4 rfl hs ae ?_;refine .z 5 rfl (zfa bh) ?_;refine .z 6 rfl (zfa bP) ?_;refine .y 7 rfl hs an ?_;refine .z 8 rfl (dp af) ?_
     refine .z 10 rfl (zia 2 az ai) ?_
     refine .y 11 rfl hs ae ?_
     refine .E 9 hs ?_
     refine .call dR rfl (cn hs ak) ?_;rintro _ w ⟨k44,g44,rfl,hs⟩
     refine .go ?_
     first|(refine .ixv 12 rfl hs af ai ?_;intro b47 o47 hc47)|refine .z 12 rfl (zix af ai) ?_
     refine .E 13 hs ?_
     refine .store (c':=Is (s.sp.st.set k44 z3)++spS) hs rfl rfl ai ?_ dE (k8 ak spS) (jF ak spS _);intro w hs
     refine .go ?_
     refine .D hs ?_
     refine nB (nT ?_)
     exact ⟨{s.sp with st:=s.sp.st.set k44 z3},_,_,bj,cu,rfl,AN hO1 _,hO2,hs.sb⟩
    ·refine .aj (.z gj (.z zg (.nil ?_)))
     refine (.bH rfl (fun hc48=>?_) (fun hc48=>?_))
     ·refine .draw mix rfl hs fun w hs=>?_
      refine .z 0 rfl (zfa bh) ?_;refine .z 1 rfl (zfa a8) ?_;refine .y 2 rfl hs an ?_
      refine .z 3 rfl (zia 1 az ai) ?_
      refine .y 4 rfl hs ae ?_;refine .z 5 rfl (zfa bh) ?_;refine .z 6 rfl (zfa a8) ?_;refine .y 7 rfl hs an ?_;refine .z 8 rfl (dp af) ?_
      refine .z 10 rfl (zia 2 az ai) ?_
      refine .y 11 rfl hs ae ?_
      refine .E 9 hs ?_
      refine .call dR rfl (cn hs ak) ?_;rintro _ w ⟨k59,g59,rfl,hs⟩
      refine .go ?_
      first|(refine .ixv 12 rfl hs af ai ?_;intro b62 o62 hc62)|refine .z 12 rfl (zix af ai) ?_
      refine .E 13 hs ?_
      refine .store (c':=Is (s.sp.wa.set k59 z3)++spW) hs rfl rfl ai ?_ dE (k8 ak spW) (jF ak spW _);intro w hs
      refine .go ?_
      refine .D hs ?_
      refine nB (nT ?_)
      exact ⟨{s.sp with wa:=s.sp.wa.set k59 z3},_,_,bj,rfl,cu,hO1,AN hO2 _,hs.sb⟩
     ·refine .aj (.z gj (.z zg (.nil ?_)))
      refine (.bH rfl (fun hc63=>?_) (fun hc63=>?_))
      ·refine .region ?_
       refine .z (zia 2 az ai) ?_
       refine .y hs (zld ae) (.z (zfa bh) (.z (zfa dY) (.z (zfa jC) ?_)))
       refine .o (.store hs rfl rfl ai fun w hs=>?_)
       refine .nil ?_
       refine nB (nT ?_)
       exact ⟨{s.sp with al:=z3},_,_,bj,rfl,rfl,hO1,hO2,hs.sb⟩
      ·refine .aj (.z gj (.z zg (.nil ?_)))
       refine (.bH rfl (fun hc70=>?_) (fun hc70=>?_))
       ·refine .region ?_
        refine .z (zia 2 az ai) ?_
        refine .y hs (zld ae) (.z (zfa bh) (.z (zfa dY) (.z (zfa jB) ?_)))
        refine .o (.store hs rfl rfl ai fun w hs=>?_)
        refine .nil ?_
        refine nB (nT ?_)
        exact ⟨{s.sp with up:=z3},_,_,bj,rfl,rfl,hO1,hO2,hs.sb⟩
       ·refine .skip ?_
        refine nB (nT ?_)
        exact ⟨s.sp,_,_,bj,rfl,rfl,hO1,hO2,hs.sb⟩
 ·clear hs hO1 hO2
  rintro fs w ⟨sp',f1,f2,hfs,hl1,hl2,hO1,hO2,hs⟩
  refine WE.sub ?_ hfs
  clear hfs
  refine .cut (fun fs w=>∃(R:List Rdg) (f3:Ent) (ar':Option Addr) (cr':Nat),kJ fs ⟨225,[],[(6,I (k:Int)),(5,.pointer (some ⟨b5,0,none⟩)),(3,.pointer (some ⟨b3,0,none⟩)),(2,.pointer (some ⟨b2,0,none⟩))]⟩∧R.length≤15∧cI 7 (.slice ar' R.length cr') (rdc R).flatten f3∧St H1 w (f1::f2::f3::e4:: .blk b5 [I z1,I z2,I z3]:: .blk b3 [I sp'.id,I sp'.src,.slice (some ⟨bS,0,none⟩) s.sp.st.length cS,.slice (some ⟨bW,0,none⟩) s.sp.wa.length cW,I sp'.al,I sp'.up,.slice ar' R.length cr',.slice ac s.cs.length cc]:: .blk b2 [I 0,I 0,.slice none 0 0,.slice none 0 0,I 0,I 0,.slice none 0 0,.slice none 0 0]::σ)) ?_ ?_
  ·refine .aj (.z (zfa aQ) (.y hs (zld bJ) (.z (dp au) (.z mI (.nil ?_)))))
   refine (.bH rfl (fun hc80=>?_) (fun hc80=>?_))
   ·refine .aj ?_
    refine .z (zia 1 az ai) ?_
    refine .y hs (zld ae) (.z (zfa aQ) (.y hs (zld bJ) (.z (dp au) ?_)))
    obtain ⟨bR,cR,spR,hv,rfl,hcapR⟩:=hO3.Gf (jO _) ak (by rw [dr];omega)
    simp only [Value.slice.injEq] at hv
    obtain ⟨rfl,hv2,rfl⟩:=hv
    refine .o (.call dR rfl (cn hs ak) ?_);rintro _ w ⟨i,gi_,rfl,hs⟩
    obtain ⟨r,hr⟩:=nth (l:=s.rs) (k:=i) ak
    have hbR:∀j<7,Nat.blt (i*7+j) ((rdc s.rs).flatten++spR).length=true:=fun j hj=>Nat.ble_eq_true_of_le (by rw [List.length_append,bT _ (jO _),dr];omega)
    refine .z zg (.nil (.aj (.z zm (.nil (.block (.seq (.aj (.z gj (.z zg ?_)))))))))
    refine .nil ?_
    refine (.bH rfl (fun hc88=>?_) (fun hc88=>?_))
    ·refine .skip ?_
     refine nT ?_
     refine (.cT ?_)
     refine .region (.z (zfa aQ) (.y hs (zld bJ) (.z zm ?_)))
     refine .z (zia 2 az ai) ?_
     refine .y hs (zld ae) ?_
     first|(refine .ixw hs au aF ?_;intro b97 o97 hc97)|refine .z (lZ au aF) ?_
     refine .z (zfa dn) ?_
     refine .o (.store (c':=(rdc (s.rs.set i {r with val:=z3})).flatten++spR) hs rfl rfl ai ?_ dE (hbR 3 ak) (kD hr ak rfl spR));intro w hs
     refine .nil ?_
     refine nB (nT ?_)
     exact ⟨s.rs.set i {r with val:=z3},_,some ⟨bR,0,none⟩,cr,bj,by rw [List.length_set];omega,by rw [List.length_set];exact kE hO3,by rw [List.length_set];exact hs.sb⟩
    ·refine .aj (.z gj (.z zg (.nil ?_)))
     refine (.bH rfl (fun hc88=>?_) (fun hc88=>?_))
     ·refine .skip ?_
      refine nT ?_
      refine (.cT ?_)
      refine .region (.z (zfa aQ) (.y hs (zld bJ) (.z zm ?_)))
      refine .z (zia 2 az ai) ?_
      refine .y hs (zld ae) ?_
      first|(refine .ixw hs au aF ?_;intro b97 o97 hc97)|refine .z (lZ au aF) ?_
      refine .z (zfa dn) ?_
      refine .o (.store (c':=(rdc (s.rs.set i {r with val:=z3})).flatten++spR) hs rfl rfl ai ?_ dE (hbR 3 ak) (kD hr ak rfl spR));intro w hs
      refine .nil ?_
      refine nB (nT ?_)
      exact ⟨s.rs.set i {r with val:=z3},_,some ⟨bR,0,none⟩,cr,bj,by rw [List.length_set];omega,by rw [List.length_set];exact kE hO3,by rw [List.length_set];exact hs.sb⟩
     ·refine .region (.z gj (.z zg (.nil ?_)))
      refine nT ?_
      refine (.bH rfl (fun hc88=>?_) (fun hc88=>?_))
      ·refine .region (.z (zfa aQ) (.y hs (zld bJ) (.z zm ?_)))
       refine .z (zia 2 az ai) ?_
       refine .y hs (zld ae) ?_
       first|(refine .ixw hs au aF ?_;intro b97 o97 hc97)|refine .z (lZ au aF) ?_
       refine .z (zfa dn) ?_
       refine .o (.store (c':=(rdc (s.rs.set i {r with val:=z3})).flatten++spR) hs rfl rfl ai ?_ dE (hbR 3 ak) (kD hr ak rfl spR));intro w hs
       refine .nil ?_
       refine nB (nT ?_)
       exact ⟨s.rs.set i {r with val:=z3},_,some ⟨bR,0,none⟩,cr,bj,by rw [List.length_set];omega,by rw [List.length_set];exact kE hO3,by rw [List.length_set];exact hs.sb⟩
      ·refine .aj (.z gj (.z zg (.nil ?_)))
       refine (.bH rfl (fun hc99=>?_) (fun hc99=>?_))
       ·refine .region (.z (zfa aQ) (.y hs (zld bJ) (.z zm ?_)))
        refine .z (zia 2 az ai) ?_
        refine .y hs (zld ae) ?_
        first|(refine .ixw hs au aF ?_;intro b106 o106 hc106)|refine .z (lZ au aF) ?_
        refine .z (zfa da) ?_
        refine .o (.store (c':=(rdc (s.rs.set i {r with tol:=z3})).flatten++spR) hs rfl rfl ai ?_ dE (hbR 4 ak) (kD hr ak rfl spR));intro w hs
        refine .nil ?_
        refine nB (nT ?_)
        exact ⟨s.rs.set i {r with tol:=z3},_,some ⟨bR,0,none⟩,cr,bj,by rw [List.length_set];omega,by rw [List.length_set];exact kE hO3,by rw [List.length_set];exact hs.sb⟩
       ·refine .aj (.z gj (.z zg (.nil ?_)))
        refine (.bH rfl (fun hc108=>?_) (fun hc108=>?_))
        ·refine .region (.z (zfa aQ) (.y hs (zld bJ) (.z zm ?_)))
         refine .z (zia 2 az ai) ?_
         refine .y hs (zld ae) ?_
         first|(refine .ixw hs au aF ?_;intro b115 o115 hc115)|refine .z (lZ au aF) ?_
         refine .z (zfa eE) ?_
         refine .o (.store (c':=(rdc (s.rs.set i {r with tape:=z3})).flatten++spR) hs rfl rfl ai ?_ dE (hbR 5 ak) (kD hr ak rfl spR));intro w hs
         refine .nil ?_
         refine nB (nT ?_)
         exact ⟨s.rs.set i {r with tape:=z3},_,some ⟨bR,0,none⟩,cr,bj,by rw [List.length_set];omega,by rw [List.length_set];exact kE hO3,by rw [List.length_set];exact hs.sb⟩
        ·refine .aj (.z gj (.z zg (.nil ?_)))
         refine (.bH rfl (fun hc117=>?_) (fun hc117=>?_))
         ·refine .region (.z (zfa aQ) (.y hs (zld bJ) (.z zm ?_)))
          refine .z (zia 2 az ai) ?_
          refine .y hs (zld ae) ?_
          first|(refine .ixw hs au aF ?_;intro b124 o124 hc124)|refine .z (lZ au aF) ?_
          refine .z (zfa eD) ?_
          refine .o (.store (c':=(rdc (s.rs.set i {r with day:=z3})).flatten++spR) hs rfl rfl ai ?_ dE (hbR 6 ak) (kD hr ak rfl spR));intro w hs
          refine .nil ?_
          refine nB (nT ?_)
          exact ⟨s.rs.set i {r with day:=z3},_,some ⟨bR,0,none⟩,cr,bj,by rw [List.length_set];omega,by rw [List.length_set];exact kE hO3,by rw [List.length_set];exact hs.sb⟩
         ·refine .aj (.z gj (.z zg (.nil ?_)))
          refine (.bH rfl (fun hc126=>?_) (fun hc126=>?_))
          ·refine .region (.z (zfa aQ) (.y hs (zld bJ) (.z zm ?_)))
           refine .z (zia 2 az ai) ?_
           refine .y hs (zld ae) ?_
           first|(refine .ixw hs au aF ?_;intro b133 o133 hc133)|refine .z (lZ au aF) ?_
           refine .z (zfa fE) ?_
           refine .o (.store (c':=(rdc (s.rs.set i {r with st:=z3})).flatten++spR) hs rfl rfl ai ?_ dE (hbR 1 ak) (kD hr ak rfl spR));intro w hs
           refine .nil ?_
           refine nB (nT ?_)
           exact ⟨s.rs.set i {r with st:=z3},_,some ⟨bR,0,none⟩,cr,bj,by rw [List.length_set];omega,by rw [List.length_set];exact kE hO3,by rw [List.length_set];exact hs.sb⟩
          ·refine .aj (.z gj (.z zg (.nil ?_)))
           refine (.bH rfl (fun hc135=>?_) (fun hc135=>?_))
           ·refine .region (.z (zfa aQ) (.y hs (zld bJ) (.z zm ?_)))
            refine .z (zia 2 az ai) ?_
            refine .y hs (zld ae) ?_
            first|(refine .ixw hs au aF ?_;intro b142 o142 hc142)|refine .z (lZ au aF) ?_
            refine .z (zfa fD) ?_
            refine .o (.store (c':=(rdc (s.rs.set i {r with wa:=z3})).flatten++spR) hs rfl rfl ai ?_ dE (hbR 2 ak) (kD hr ak rfl spR));intro w hs
            refine .nil ?_
            refine nB (nT ?_)
            exact ⟨s.rs.set i {r with wa:=z3},_,some ⟨bR,0,none⟩,cr,bj,by rw [List.length_set];omega,by rw [List.length_set];exact kE hO3,by rw [List.length_set];exact hs.sb⟩
           ·refine .aj (.z gj (.z zg (.nil ?_)))
            refine (.bH rfl (fun hc144=>?_) (fun hc144=>?_))
            ·refine .region (.z (zfa aQ) (.y hs (zld bJ) (.z zm ?_)))
             refine .z (zia 2 az ai) ?_
             refine .y hs (zld ae) ?_
             first|(refine .ixw hs au aF ?_;intro b151 o151 hc151)|refine .z (lZ au aF) ?_
             refine .z (zfa eF) ?_
             refine .o (.store (c':=(rdc (s.rs.set i {r with src:=z3})).flatten++spR) hs rfl rfl ai ?_ dE (hbR 0 ak) (kD hr ak rfl spR));intro w hs
             refine .nil ?_
             refine nB (nT ?_)
             exact ⟨s.rs.set i {r with src:=z3},_,some ⟨bR,0,none⟩,cr,bj,by rw [List.length_set];omega,by rw [List.length_set];exact kE hO3,by rw [List.length_set];exact hs.sb⟩
            ·refine .seq (.aj (.z gj (.z zg (.nil ?_))))
             refine (.bH rfl (fun hc153=>?_) (fun hc153=>?_))
             ·refine .skip ?_
              refine nT ?_
              refine (.cT ?_)
              refine .aj (.z (zfa aQ) (.y hs (zld bJ) (.z zm ?_)))
              first|(refine .ixw hs au aF ?_;intro b159 o159 hc159)|refine .z (lZ au aF) ?_
              refine .y hs (zls r.c eG aF (hr:= .own (by repeat (first|exact .here|refine .there ?_)) (yK (jO _) (xf hr) spR))) ?_
              have hrOk:=hM.ok.early.2.2.2.1 r (List.mem_of_getElem? hr)
              have hrtol:=hrOk.tol
              refine .o (.alloc hs eQ rfl fun b8 w hs=>?_)
              refine .o (.aP (vs:=[_,_,_,_,_,_,_]) hs rfl rfl aF fun w hs=>?_)
              refine .nil (.aj (.z (zfa eF) ?_))
              refine .o (.store hs rfl rfl ai fun w hs=>?_)
              refine .nil (.aj ?_)
              refine .z (zia 2 az ai) ?_
              refine .y hs (zld ae) (.z (zfa da) (.y hs (zld ae) (.z gM (.z cP ?_))))
              refine .o (.call dR rfl (cn hs ak) ?_);rintro _ w ⟨k168,g168,rfl,hs⟩
              refine .z (zfa dn) ?_
              refine .o (.store hs rfl rfl ai fun w hs=>?_)
              refine .nil (.region (.z (zfa aQ) (.y hs (zld bJ) (.y hs (zls [_,_,_,_,_,_,_] eG aF) ?_))))
              refine .o (.buildSlice (cells:=Rdg.c ⟨50,r.st,r.wa,(k168:Int),r.tol,r.tape,r.day⟩) hs gd rfl aq fun b173 w hs=>?_)
              refine .o (.append (ys:=Rdg.c ⟨50,r.st,r.wa,(k168:Int),r.tol,r.tape,r.day⟩) hs dS rfl rfl hO3 (.own .here rfl rfl) (by simp [Rdg.c,Value.oneCell']) (fun l' h=>by rw [bT _ (jO _),dr] at h;omega) ?_);intro v174 en174 w hO5 hs
              rw [←tN] at hO5
              obtain ⟨a174,c174,rfl⟩:=hO5.iU (jO _) ak
              rw [dr] at hO5 ⊢
              refine .z (zfa aQ) ?_
              refine .o (.store hs rfl rfl rA fun w hs=>?_)
              refine .nil ?_
              refine nB (nT ?_)
              exact ⟨s.rs++[⟨50,r.st,r.wa,(k168:Int),r.tol,r.tape,r.day⟩],_,a174,c174,bj,by simp;omega,hO5,hs.sb⟩
             ·refine .region (.z gj (.z zg (.nil ?_)))
              refine nT ?_
              refine (.bH rfl (fun hc153=>?_) (fun hc153=>?_))
              ·refine .aj (.z (zfa aQ) (.y hs (zld bJ) (.z zm ?_)))
               first|(refine .ixw hs au aF ?_;intro b159 o159 hc159)|refine .z (lZ au aF) ?_
               refine .y hs (zls r.c eG aF (hr:= .own (by repeat (first|exact .here|refine .there ?_)) (yK (jO _) (xf hr) spR))) ?_
               have hrOk:=hM.ok.early.2.2.2.1 r (List.mem_of_getElem? hr)
               have hrtol:=hrOk.tol
               refine .o (.alloc hs eQ rfl fun b8 w hs=>?_)
               refine .o (.aP (vs:=[_,_,_,_,_,_,_]) hs rfl rfl aF fun w hs=>?_)
               refine .nil (.aj (.z (zfa eF) ?_))
               refine .o (.store hs rfl rfl ai fun w hs=>?_)
               refine .nil (.aj ?_)
               refine .z (zia 2 az ai) ?_
               refine .y hs (zld ae) (.z (zfa da) (.y hs (zld ae) (.z gM (.z cP ?_))))
               refine .o (.call dR rfl (cn hs ak) ?_);rintro _ w ⟨k168,g168,rfl,hs⟩
               refine .z (zfa dn) ?_
               refine .o (.store hs rfl rfl ai fun w hs=>?_)
               refine .nil (.region (.z (zfa aQ) (.y hs (zld bJ) (.y hs (zls [_,_,_,_,_,_,_] eG aF) ?_))))
               refine .o (.buildSlice (cells:=Rdg.c ⟨50,r.st,r.wa,(k168:Int),r.tol,r.tape,r.day⟩) hs gd rfl aq fun b173 w hs=>?_)
               refine .o (.append (ys:=Rdg.c ⟨50,r.st,r.wa,(k168:Int),r.tol,r.tape,r.day⟩) hs dS rfl rfl hO3 (.own .here rfl rfl) (by simp [Rdg.c,Value.oneCell']) (fun l' h=>by rw [bT _ (jO _),dr] at h;omega) ?_);intro v174 en174 w hO5 hs
               rw [←tN] at hO5
               obtain ⟨a174,c174,rfl⟩:=hO5.iU (jO _) ak
               rw [dr] at hO5 ⊢
               refine .z (zfa aQ) ?_
               refine .o (.store hs rfl rfl rA fun w hs=>?_)
               refine .nil ?_
               refine nB (nT ?_)
               exact ⟨s.rs++[⟨50,r.st,r.wa,(k168:Int),r.tol,r.tape,r.day⟩],_,a174,c174,bj,by simp;omega,hO5,hs.sb⟩
              ·refine .skip ?_
               refine nB (nT ?_)
               exact ⟨s.rs,_,some ⟨bR,0,none⟩,cr,bj,ak,hO3,hs.sb⟩
   ·refine .skip ?_
    refine nT ?_
    exact ⟨s.rs,_,ar,cr,bj,ak,hO3,hs.sb⟩
  ·clear hs hO3
   rintro fs w ⟨R,f3,ar',cr',hfs,hRl,hO3,hs⟩
   refine WE.sub ?_ hfs
   clear hfs
   refine .cut (fun fs w=>∃(C:List Cmp) (f4:Ent) (ac':Option Addr) (cc':Nat),kJ fs ⟨225,[],[(3,.pointer (some ⟨b3,0,none⟩)),(2,.pointer (some ⟨b2,0,none⟩))]⟩∧C.length≤5∧cI 6 (.slice ac' C.length cc') (cmc C).flatten f4∧St H1 w (f1::f2::f3::f4:: .blk b3 [I sp'.id,I sp'.src,.slice (some ⟨bS,0,none⟩) s.sp.st.length cS,.slice (some ⟨bW,0,none⟩) s.sp.wa.length cW,I sp'.al,I sp'.up,.slice ar' R.length cr',.slice ac' C.length cc']:: .blk b2 [I 0,I 0,.slice none 0 0,.slice none 0 0,I 0,I 0,.slice none 0 0,.slice none 0 0]::σ)) ?_ ?_
   ·refine .aj (.z (zfa cD) (.y hs (zld e8) (.z (dp bw) (.z mI (.nil ?_)))))
    refine (.bH rfl (fun hc179=>?_) (fun hc179=>?_))
    ·refine .aj ?_
     refine .z (zia 1 az ai) ?_
     refine .y hs (zld ae) (.z (zfa cD) (.y hs (zld e8) (.z (dp bw) ?_)))
     obtain ⟨bC,cC,spC,hv,rfl,hcapC⟩:=hO4.Gf (su _) ak (by rw [fF];omega)
     simp only [Value.slice.injEq] at hv
     obtain ⟨rfl,hv2,rfl⟩:=hv
     refine .o (.call dR rfl (cn hs ak) ?_);rintro _ w ⟨i,gi_,rfl,hs⟩
     obtain ⟨c,hc⟩:=nth (l:=s.cs) (k:=i) ak
     have hbC:∀j<6,Nat.blt (i*6+j) ((cmc s.cs).flatten++spC).length=true:=fun j hj=>Nat.ble_eq_true_of_le (by rw [List.length_append,bT _ (su _),fF];omega)
     refine .z zg (.nil (.aj (.z zm (.nil (.block (.seq (.aj (.z gj (.z zg ?_)))))))))
     refine .nil ?_
     refine (.bH rfl (fun hc187=>?_) (fun hc187=>?_))
     ·refine .skip ?_
      refine nT ?_
      refine (.cT ?_)
      refine .region (.z (zfa cD) (.y hs (zld e8) (.z zm ?_)))
      refine .z (zia 2 az ai) ?_
      refine .y hs (zld ae) ?_
      first|(refine .ixw hs bw cE ?_;intro b195 o195 hc195)|refine .z (lZ bw cE) ?_
      refine .z (zfa gX) ?_
      refine .o (.store (c':=(cmc (s.cs.set i {c with lo:=z3})).flatten++spC) hs rfl rfl ai ?_ dE (hbC 4 ak) (q5 hc ak rfl spC));intro w hs
      refine .nil ?_
      refine nB (nT ?_)
      exact ⟨s.cs.set i {c with lo:=z3},_,some ⟨bC,0,none⟩,cc,bj,by rw [List.length_set];omega,by rw [List.length_set];exact qz hO4,by rw [List.length_set];exact hs.sb⟩
     ·refine .region (.z gj (.z zg (.nil ?_)))
      refine nT ?_
      refine (.bH rfl (fun hc187=>?_) (fun hc187=>?_))
      ·refine .region (.z (zfa cD) (.y hs (zld e8) (.z zm ?_)))
       refine .z (zia 2 az ai) ?_
       refine .y hs (zld ae) ?_
       first|(refine .ixw hs bw cE ?_;intro b195 o195 hc195)|refine .z (lZ bw cE) ?_
       refine .z (zfa gX) ?_
       refine .o (.store (c':=(cmc (s.cs.set i {c with lo:=z3})).flatten++spC) hs rfl rfl ai ?_ dE (hbC 4 ak) (q5 hc ak rfl spC));intro w hs
       refine .nil ?_
       refine nB (nT ?_)
       exact ⟨s.cs.set i {c with lo:=z3},_,some ⟨bC,0,none⟩,cc,bj,by rw [List.length_set];omega,by rw [List.length_set];exact qz hO4,by rw [List.length_set];exact hs.sb⟩
      ·refine .aj (.z gj (.z zg (.nil ?_)))
       refine (.bH rfl (fun hc197=>?_) (fun hc197=>?_))
       ·refine .region (.z (zfa cD) (.y hs (zld e8) (.z zm ?_)))
        refine .z (zia 2 az ai) ?_
        refine .y hs (zld ae) ?_
        first|(refine .ixw hs bw cE ?_;intro b204 o204 hc204)|refine .z (lZ bw cE) ?_
        refine .z (zfa gW) ?_
        refine .o (.store (c':=(cmc (s.cs.set i {c with hi:=z3})).flatten++spC) hs rfl rfl ai ?_ dE (hbC 5 ak) (q5 hc ak rfl spC));intro w hs
        refine .nil ?_
        refine nB (nT ?_)
        exact ⟨s.cs.set i {c with hi:=z3},_,some ⟨bC,0,none⟩,cc,bj,by rw [List.length_set];omega,by rw [List.length_set];exact qz hO4,by rw [List.length_set];exact hs.sb⟩
       ·refine .aj (.z gj (.z zg (.nil ?_)))
        refine (.bH rfl (fun hc206=>?_) (fun hc206=>?_))
        ·refine .region (.z (zfa cD) (.y hs (zld e8) (.z zm ?_)))
         refine .z (zia 2 az ai) ?_
         refine .y hs (zld ae) ?_
         first|(refine .ixw hs bw cE ?_;intro b213 o213 hc213)|refine .z (lZ bw cE) ?_
         refine .z (zfa jc) ?_
         refine .o (.store (c':=(cmc (s.cs.set i {c with fr:=z3})).flatten++spC) hs rfl rfl ai ?_ dE (hbC 2 ak) (q5 hc ak rfl spC));intro w hs
         refine .nil ?_
         refine nB (nT ?_)
         exact ⟨s.cs.set i {c with fr:=z3},_,some ⟨bC,0,none⟩,cc,bj,by rw [List.length_set];omega,by rw [List.length_set];exact qz hO4,by rw [List.length_set];exact hs.sb⟩
        ·refine .aj (.z gj (.z zg (.nil ?_)))
         refine (.bH rfl (fun hc215=>?_) (fun hc215=>?_))
         ·refine .region (.z (zfa cD) (.y hs (zld e8) (.z zm ?_)))
          refine .z (zia 2 az ai) ?_
          refine .y hs (zld ae) ?_
          first|(refine .ixw hs bw cE ?_;intro b222 o222 hc222)|refine .z (lZ bw cE) ?_
          refine .z (zfa gY) ?_
          refine .o (.store (c':=(cmc (s.cs.set i {c with to:=z3})).flatten++spC) hs rfl rfl ai ?_ dE (hbC 3 ak) (q5 hc ak rfl spC));intro w hs
          refine .nil ?_
          refine nB (nT ?_)
          exact ⟨s.cs.set i {c with to:=z3},_,some ⟨bC,0,none⟩,cc,bj,by rw [List.length_set];omega,by rw [List.length_set];exact qz hO4,by rw [List.length_set];exact hs.sb⟩
         ·refine .skip ?_
          refine nB (nT ?_)
          exact ⟨s.cs,_,some ⟨bC,0,none⟩,cc,bj,ak,hO4,hs.sb⟩
    ·refine .skip ?_
     refine nT ?_
     exact ⟨s.cs,_,ac,cc,bj,ak,hO4,hs.sb⟩
   ·clear hs hO4
    rintro fs w ⟨C,f4,ac',cc',hfs,hCl,hO4,hs⟩
    refine WE.sub ?_ hfs
    clear hfs
    refine .aj (.y hs (zls [_,_,_,_,_,_,_,_] aZ aD) ?_)
    refine .o (.aP (vs:=[_,_,_,_,_,_,_,_]) hs rfl rfl aD fun w hs=>?_)
    refine .nil ?_
    refine .ret ?_
    have hV:Gi ⟨sp',R,C⟩ (.slice (some ⟨bS,0,none⟩) s.sp.st.length cS) (.slice (some ⟨bW,0,none⟩) s.sp.wa.length cW) (.slice ar' R.length cr') (.slice ac' C.length cc') f1 f2 f3 f4:=⟨hO1,hO2,hO3,hO4⟩
    obtain ⟨Ha,hla,ra,hs⟩:=hO1.eJ ak hs dE
    obtain ⟨Hb,hlb,rb,hs⟩:=hO2.eJ ak hs dE
    obtain ⟨Hc,hlc,rc,hs⟩:=cI.cV (m:=7) (cs:=rdc R) hO3 (jO _) ak (by rw [dr];omega) hs dE
    obtain ⟨Hd,hld,rd,hs⟩:=cI.cV (m:=6) (cs:=cmc C) hO4 (su _) ak (by rw [fF];omega) hs dE
    exact Fin.iZ [] [] hs fun w hs=>⟨_,results1 Tryz.results55 (dJ (vs:=[_,_,_,_,_,_,_,_]) hs rfl aZ aD),Hd,⟨sp',R,C⟩,_,_,_,_,hle1.trans (hla.trans (hlb.trans (hlc.trans hld))),rfl,ra.mono (hlb.trans (hlc.trans hld)),rb.mono (hlc.trans hld),RRd.mono rc hld,rd,⟨by show 2≤sp'.st.length∧sp'.st.length≤4;omega,by show 2≤sp'.wa.length∧sp'.wa.length≤3;omega,hRl,hCl⟩,hs.out⟩
set_option maxHeartbeats 4000000 in
theorem nj{s:Srv}{rows:List (List Int)}{vst vwa vr vc vh:Value}(hs:St H w σ)(h1:RI H vst s.sp.st)(h2:RI H vwa s.sp.wa)(h3:RRd H vr s.rs)(h4:RCm H vc s.cs)(hh:RT H vh rows):
  Cl Tryz.prog 65 [.agg #[I s.sp.id,I s.sp.src,vst,vwa,I s.sp.al,I s.sp.up,vr,vc],.agg #[vh]] w fun u w'=>∃H1 e,HLe H H1∧u=I e∧B8 s rows e∧St H1 w' σ:=by
 obtain ⟨ast,cst,rfl⟩:=RI.shape h1
 obtain ⟨awa,cwa,rfl⟩:=RI.shape h2
 obtain ⟨ar,cr,rfl⟩:=RRd.shape h3
 obtain ⟨ac,cc,rfl⟩:=RCm.shape h4
 obtain ⟨ah,ch,rfl⟩:=hh.shape
 refine Cl.o Tryz.func65 Tryz.ntmps65 ag2 ?_
 refine .aj ?_
 refine .bx hs fun b2 w hs=>?_
 refine .bx hs fun b3 w hs=>?_
 refine .z zg (.nil (.seq (.aj (.y hs (zls [_,_,_,_,_,_,_,_] aZ aD) ?_))))
 refine .o (.call JD rfl (fH (s:=s) hs h1 h2 h3 h4) ?_);rintro _ w ⟨H1,e,hle1,rfl,hC,hs⟩
 refine .z zg (.nil (.aj (.z zm (.z gS (.nil ?_)))))
 refine (.ek rfl (fun hc16=>?_) (fun hc16=>?_))
 ·refine .aj (.z zm (.z zg (.nil ?_)))
  refine .ret (rT (?_))
  exact Fin.bE Tryz.results65 rfl ⟨H1,_,hle1,rfl,.bad hC hc16,hs.out⟩
 ·refine .skip ?_
  refine nT ?_
  refine .seq (.aj (.z (zfa bh) (.y hs (zls [_,_,_,_,_,_] aV aH) (.y hs (zls [_] Tryz.isAgg64 zD) ?_))))
  have hok:dT s:=hC.dF.1 (by simpa using hc16)
  have hsm:=fG hok.early.1
  have hrl:=hok.early.2.1
  refine .o (.call Tryz.call129 rfl (kW (s:=s.sp) hs (h1.mono hle1) (h2.mono hle1) (hh.mono hle1)) ?_);rintro _ w ⟨H2,b21,hle2,rfl,hb21,hs⟩
  have hle02:=hle1.trans hle2
  refine .z fW (.nil ?_)
  refine (.cond rfl (fun hc22=>?_) (fun hc22=>?_))
  ·refine .aj (.z zg (.nil ?_))
   refine .ret (rT (?_))
   exact Fin.bE Tryz.results65 rfl ⟨H2,_,hle02,rfl,.hull hok (fun h=>by rw [hb21.2 h] at hc22;cases hc22),hs.out⟩
  ·refine .skip ?_
   refine nT ?_
   refine .aj (.y hs (zls [_,_,_,_,_,_,_,_] aZ aD) ?_)
   have hhull:kB s.sp rows:=hb21.1 (by simpa using hc22)
   have hll:=hok.cH
   have hmm:=hok.many
   refine .o (.call JC rfl (fo (s:=s) hs (h1.mono hle02) (h2.mono hle02) (h3.mono hle02) (h4.mono hle02) hok.early) ?_);rintro _ w ⟨H3,hle3,⟨ul,rfl,hL⟩,hs⟩
   obtain ⟨al,cl,rfl⟩:=RL.shape hL
   have hle03:=hle02.trans hle3
   have hbd:=fun b hb=>F7 (b:=b) hhull hb
   have hlim:=fun l hl=>hok.sys.lim l hl
   refine .o (.alloc hs eg rfl fun b6 w hs=>?_)
   refine .o (.aP (vs:=[_,_]) hs rfl rfl aN fun w hs=>?_)
   refine .nil (.aj ?_)
   refine .o (.buildSlice (cells:=[_]) hs dk rfl rfl fun b25 w hs=>?_)
   refine .o (.alloc hs fc rfl fun b7 w hs=>?_)
   refine .o (.store hs rfl rfl aC fun w hs=>?_)
   refine .nil (.seq (.aj (.z (zfa bh) (.y hs (zls [_,_,_,_,_,_] aV aH) ?_))))
   refine .o (.call B1 rfl (fC (s:=s.sp) hs (h1.mono hle03) (h2.mono hle03) ⟨ak,ak⟩) ?_);rintro _ w ⟨H4,ba,hle4,rfl,hit,hs⟩
   have hle04:=hle03.trans hle4
   refine .nil (.block ?_)
   refine .rangeFunc (gf:=188) (cap:=[.pointer (some ⟨ba,0,none⟩)]) (xs:=wQ s.sp) (σb:=[.blk b7 [.slice (some ⟨b25,0,none⟩) 1 1],.blk b25 (Is [0]),.blk b6 [I s.sys.many,.slice al s.cH.length cl],.blk b3 [.slice ah rows.length ch]]) (σf:=σ) (hs.sb) trivial rfl hit B0 (fun x hx=>by
     simp only [wQ,List.mem_map] at hx
     obtain ⟨j,_,rfl⟩:=hx;rfl) rfl
    (I:=fun p H' σb=>∃vo en,σb=[.blk b7 [vo],en,.blk b6 [I s.sys.many,.slice al s.cH.length cl],.blk b3 [.slice ah rows.length ch]]∧cI 1 vo (Is (xl1 s (gt rows) (p+1))) en) (Ix:=fun _ _ _=>False)
    (fun j _ _ σ g1 g2=>g2) (fun _ _ _ _ _ h=>h) ⟨_,_,rfl,.full rfl⟩ ?_ ?_ (fun D c H' σb w _ h _=>h.elim)
   ·rintro ly p hp H5 σb2 σf2 w hle5 ⟨vo,en,rfl,hO⟩ hs ⟨rr,hrr⟩
    have hpm:p<s.sp.many:=by rw [ez] at hp;exact hp
    have hin:p/s.sp.wa.length<s.sp.st.length:=Nat.div_lt_of_lt_mul (by rw [Nat.mul_comm];exact hpm)
    have hkm:=Nat.mod_lt p hsm.2.2.1
    have hval:hpt s.sp (gt rows) (p+1)=gi (gr rows (p/s.sp.wa.length)) (p%s.sp.wa.length):=rfl
    have hrow:=hhull.row _ hin
    have hrlen:=hhull.len
    have hr5:=hh.mono (hle04.trans hle5)
    rw [mE hp]
    obtain ⟨ao,lo,co,rfl,hlo⟩:=hO.shape
    have hxl:=l5 s (gt rows) (p+1)
    generalize p/s.sp.wa.length=i at*
    generalize p%s.sp.wa.length=k at*
    refine .region ?_
    refine .o (.alloc hs kN rfl fun b8 w hs=>?_)
    refine .o (.aP (vs:=[_,_,_]) hs rfl rfl oZ fun w hs=>?_)
    refine .nil ?_
    refine nT ?_
    refine ⟨H5,[.blk b8 [I (i:Int),I (k:Int),I ((p+1:Nat):Int)],.blk b7 [.slice ao lo co],en,.blk b6 [I s.sys.many,.slice al s.cH.length cl],.blk b3 [.slice ah rows.length ch]],HLe.refl _,hs,?_⟩;rintro w σf4 - hs
    refine .block ?_
    refine .draw mix rfl hs fun w hs=>?_
    refine .y 0 rfl hs an ?_;refine .z 1 rfl (zfa kF) ?_;refine .y 2 rfl hs vB ?_;refine .z 3 rfl (zfa dA) ?_;refine .y 4 rfl hs ae ?_
    refine .ixT (i:=5) hs rfl aq .none hr5 rfl rfl aE aC (show i<_ by omega) de ?_;intro b35 o35 a35 c35 hc35 hR35
    refine .r (i:=6) hs rfl aq .none (aW rfl an hc35) ?_
    refine .z 7 rfl (zfa dc) ?_;refine .y 8 rfl hs ae ?_
    refine .ixX (enc:=fun x=>[I x]) (i:=9) hs rfl aq .none hR35 rfl rfl af ai (bU (l:=(gr rows i)) (i:=k) ak) de ?_;intro b39 o39 hc39;replace hc39:=cg.one hc39
    refine .r (i:=10) hs rfl aq .none (aW rfl ae hc39) ?_
    refine .E 11 hs ?_
    refine .buildSlice (cells:=[_]) hs dk rfl rfl ?_;intro b41 w hs
    refine .go ?_
    refine .E 12 hs ?_
    refine .append (ys:=Is [gi (gr rows i) k]) hs df rfl rfl hO (.own (c:=Is [gi (gr rows i) k]) (by first|exact .here|exact .there .here) rfl rfl) (jR _) (fun l h=>by simp at h;omega) ?_;intro v42 en42 w hO2 hs
    rw [←List.map_append,←hval,←Ed] at hO2
    obtain ⟨a42,l42,c42,rfl,h42⟩:=hO2.shape
    refine .go ?_
    refine .E 13 hs ?_
    refine .store hs rfl rfl aC ?_;intro w hs
    refine .go ?_
    refine .D hs ?_
    refine nB ?_
    exact ⟨H5,[.blk b7 [.slice a42 l42 c42],en42,.blk b6 [I s.sys.many,.slice al s.cH.length cl],.blk b3 [.slice ah rows.length ch]],HLe.refl _,(hs.sb:St H5 w (.blk b7 _::en42:: .blk b6 _:: .blk b3 _::σf4)),_,_,rfl,hO2⟩
   ·rintro D H5 σb2 w hle5 ⟨vo,en,rfl,hO⟩ hs
    rw [ez] at hO
    replace hs:St H5 w (.obj D (.deferred (some [])):: .blk b7 [vo]::en:: .blk b6 [I s.sys.many,.slice al s.cH.length cl]:: .blk b3 [.slice ah rows.length ch]::σ):=hs
    obtain ⟨ao,lo,co,rfl,hlo⟩:=hO.shape
    have hxl:=l5 s (gt rows) (s.sp.many+1)
    have hlo':lo=s.sp.many+1:=by simp [Is] at hlo;omega
    subst hlo'
    have hL5:=hL.mono (hle4.trans hle5)
    have hleF:=hle04.trans hle5
    refine nB (nT ?_)
    refine .seq (.aj (.y hs (zld an) (.z (dp af) (.z zg (.nil (.block ?_))))))
    refine .loop (fun j:Nat=>⟨81,marks [D],[(9,I ((s.sp.many+1+j:Nat):Int)),(7,.pointer (some ⟨b7,0,none⟩)),(6,.pointer (some ⟨b6,0,none⟩))]⟩)
     (fun j w=>j≤s.bO.length∧∃ax cx en,cI 1 (.slice ax (s.sp.many+1+j) cx) (Is (xl1 s (gt rows) (s.sp.many+1)++xl2 s (gt rows) j)) en∧St H5 w (.obj D (.deferred (some [])):: .blk b7 [.slice ax (s.sp.many+1+j) cx]::en:: .blk b6 [I s.sys.many,.slice al s.cH.length cl]::σ)) (fun j=>s.bO.length - j) 0 bj
     ⟨Nat.zero_le _,_,_,_,by show cI 1 _ (Is (_++[])) _;rw [List.append_nil];exact hO,hs.sb⟩ ?_
    clear hs hO
    rintro j w ⟨hj,ax,cx,en,hO,hs⟩
    have hsys:s.sys.many=((s.sp.many+s.bO.length:Nat):Int):=rfl
    have hx2:=wc s (gt rows) j
    have hxall:(xl1 s (gt rows) (s.sp.many+1)++xl2 s (gt rows) j).length=s.sp.many+1+j:=by rw [List.length_append,hxl,hx2]
    refine .seq (.aj (.z zm (.z (zfa cA) (.y hs (zld ae) (.z oF (.nil ?_))))))
    refine (.bH rfl (fun hc48=>?_) (fun hc48=>?_))
    ·refine .skip ?_
     refine nT ?_
     refine .seq (.block (.aj (.z zg (.nil (.seq (.aj (.z (zfa cf) (.y hs (zld dj) (.z (dp aU) ?_)))))))))
     refine .z zm (.nil ?_)
     refine .for (N:=s.cH.length) (J:=fun k fr w=>fr=[(10,I (vD (hpt s.sp (gt rows)) (s.sp.many+1+j:Nat) (s.cH.take k))),(52,.slice al s.cH.length cl),(9,I ((s.sp.many+1+j:Nat):Int)),(7,.pointer (some ⟨b7,0,none⟩)),(6,.pointer (some ⟨b6,0,none⟩))]∧St H5 w (.obj D (.deferred (some [])):: .blk b7 [.slice ax (s.sp.many+1+j) cx]::en:: .blk b6 [I s.sys.many,.slice al s.cH.length cl]::σ)) ak ?_ ?_ ?_
     ·exact .mk ⟨rfl,hs⟩
     ·rintro k fr w hk ⟨rfl,hs⟩
      obtain ⟨l,hx⟩:=nth (l:=s.cH) hk
      have hlm:=List.mem_of_getElem? hx
      obtain ⟨⟨gA,gB⟩,hsd⟩:=nO hok.early hlm
      have hM:=(hlim l hlm).2.2.2.1
      obtain ⟨eB,hB⟩:∃b:Nat,l.B=b:=⟨_,(Int.toNat_of_nonneg gB).symm⟩
      have hB1:l.B.toNat=eB:=by rw [hB,Int.toNat_natCast]
      rw [hB1] at hsd
      have hbl:=Ac (hpt s.sp (gt rows)) (s.sp.many+1+j:Nat) (s.cH.take k)
      refine .block (.aj ?_)
      refine .ixX (enc:=Lim.c) hs hL5 rfl rfl aU bq hx rfl ?_;intro b56 o56 hc56
      refine .q hs (bY (vs:=l.c) rfl fu bq hc56) ?_
      refine .o (.alloc hs ef rfl fun b12 w hs=>?_)
      refine .o (.aP (vs:=l.c) hs rfl rfl bq fun w hs=>?_)
      refine .nil (.aj (.z (zfa eo) (.y hs (zld ae) (.z zm (.z gj (.nil ?_))))))
      refine (.bH rfl (fun hc61=>?_) (fun hc61=>?_))
      ·refine .draw mix rfl hs fun w hs=>?_
       have hbB:=hbd eB ak
       obtain ⟨bo,co',sp,hv,rfl,hcap⟩:=hO.blk (by rw [hxall];omega)
       simp only [Value.slice.injEq] at hv
       obtain ⟨rfl,-,rfl⟩:=hv
       have hgx:gi (xl1 s (gt rows) (s.sp.many+1)++xl2 s (gt rows) j) eB=hpt s.sp (gt rows) eB:=wV s _ _ ak
       refine .z 0 rfl zm ?_;refine .y 1 rfl hs an ?_;refine .z 2 rfl (zfa eO) ?_;refine .y 3 rfl hs ae ?_
       rw [hB]
       refine .z 4 rfl (zix (j:=eB) af ai) ?_
       refine .load (i:=5) hs rfl aq .none rfl ae ?_ (hv:=fM ak sp)
       rw [hgx]
       refine .z 6 rfl (zfa fP) ?_;refine .y 7 rfl hs ae ?_;refine .z 8 rfl gM ?_;refine .z 9 rfl Cb ?_;refine .z 10 rfl zg ?_;refine .D hs ?_
       refine nB (nT ?_)
       exact .mk ⟨by rw [dh hx,uO,if_pos ak,hB1],hs.sb⟩
      ·refine .skip ?_
       refine nB (nT ?_)
       exact .mk ⟨by rw [dh hx,uO,if_neg ak],hs.sb⟩
     ·rintro fr w ⟨rfl,hs⟩
      rw [List.take_length]
      refine nT ?_
      refine .region (.y hs (zld an) (.z zm ?_))
      refine .o (.buildSlice (cells:=[_]) hs dk rfl rfl fun b75 w hs=>?_)
      refine .o (.append (ys:=Is [vD (hpt s.sp (gt rows)) (s.sp.many+1+j:Nat) s.cH]) hs df rfl rfl hO (.own .here rfl rfl) (jR _) (fun l h=>by simp only [Is,List.length_map,hxall] at h;omega) ?_);intro v76 en76 w hO2 hs
      rw [←List.map_append,List.append_assoc,←Ec] at hO2
      obtain ⟨a76,c76,rfl⟩:=hO2.AD
      have hx3:(xl1 s (gt rows) (s.sp.many+1)++xl2 s (gt rows) (j+1)).length=s.sp.many+1+(j+1):=by rw [List.length_append,hxl,wc]
      rw [hx3] at hO2 ⊢
      refine .o (.store hs rfl rfl aC fun w hs=>?_)
      refine .nil ?_
      refine nB (nT ?_)
      refine .region (.z zm (.z cP (.z zg (.nil ?_))))
      refine nT ?_
      exact ⟨j+1,.dD rfl (by simp;omega) bj,⟨ak,_,_,_,hO2,hs.sb⟩,ak⟩
    ·refine .exit ?_
     refine xT (xT (xB (nT ?_)))
     refine .seq (.aj (.y hs (zls [_,_] bG aN) (.y hs (zld an) ?_)))
     obtain rfl:j=s.bO.length:=by omega
     obtain ⟨H6,hle6,hX,hs⟩:=cI.eJ hO (by rw [hxall];omega) hs dE
     refine .o (.call Tryz.call134 rfl (om (s:=s.sys) hs ⟨_,rfl,hL5.mono hle6⟩ hX) ?_);rintro _ w ⟨e79,rfl,hP,hs⟩
     have hn:=rL s
     have hkeep:DQ s.sys (xl1 s (gt rows) (s.sp.many+1)++xl2 s (gt rows) s.bO.length)↔∃f,Kp s (gt rows) f:=by
      rw [←Eb hok]
      refine ⟨fun h=>h.zK,fun h=>⟨by rw [hxall,hn];omega,by rw [wV s _ _ ak];rfl,fun b hb=>?_,h⟩⟩
      rw [hn] at hb
      by_cases e:b<s.sp.many+1
      ·rw [wV s _ _ e]
       have:=hbd b ak
       omega
      ·rw [show b=s.sp.many+1+(b - (s.sp.many+1)) by omega,AB s _ ak]
       have g1:=Ac (hpt s.sp (gt rows)) (s.sp.many+1+(b - (s.sp.many+1)):Nat) s.cH
       have g2:=E7 hok hhull (b - (s.sp.many+1))
       omega
     refine .z gS (.nil ?_)
     refine (.ek rfl (fun hc80=>?_) (fun hc80=>?_))
     ·refine .aj (.z zg (.nil ?_))
      refine .ret (rT (?_))
      refine Fin.iZ [D] [] hs fun w hs=>⟨_,results1 Tryz.results65 rfl,H6,_,hleF.trans hle6,rfl,.no hok hhull (fun h=>hc80 ?_),hs.out⟩
      cases hP with
      |bad h=>exact (h (s.sys.dF.2 hok.sys)).elim
      |off _ h1=>exact (h1 (hkeep.2 h)).elim
      |ok=>rfl
     ·refine .skip ?_
      refine nT ?_
      refine .aj (.z zg (.nil ?_))
      refine .ret ?_
      refine Fin.iZ [D] [] hs fun w hs=>⟨_,results1 Tryz.results65 rfl,H6,_,hleF.trans hle6,rfl,.ok hok hhull (hkeep.1 ?_),hs.out⟩
      cases hP with
      |bad h=>exact (h (s.sys.dF.2 hok.sys)).elim
      |off _ h1=>omega
      |ok _ h1=>exact h1
theorem bZ{a0 a1 a2:Int}(hs:St H w σ):Cl Tryz.prog 72 [I a0,I a1,I a2] w fun v w'=>v= .bool (decide (a1≤a0∧a0≤a2))∧St H w' σ:=by
 refine Cl.o Tryz.func72 Tryz.ntmps72 ag3 ?_
 refine .aj (.z zg (.nil (.aj (.z zm (.z zm (.z oF (.z zm ?_)))))))
 refine .iW (t':=10) rfl (fun hb10=>?_) (fun hb10=>?_)
 ·refine .gT rfl rfl ?_
  refine .z zm ?_
  refine .gT rfl rfl ?_
  refine .z zm ?_
  refine .gT rfl rfl ?_
  refine .z oF (.z zpT (.z zg (.nil ?_)))
  refine .ret (Fin.bE Tryz.results72 rfl ?_)
  exact ⟨by simp [*],hs.out⟩
 ·refine .gFs 3 3 true rfl rfl rfl ?_
  refine .z zpF (.z zg (.nil ?_))
  refine .ret (Fin.bE Tryz.results72 rfl ?_)
  exact ⟨by simp [*],hs.out⟩
theorem kg{a0:Int}(hs:St H w σ):Cl Tryz.prog 73 [I a0] w fun v w'=>v= .bool (decide (1≤a0∧a0≤20))∧St H w' σ:=by
 refine Cl.o Tryz.func73 Tryz.ntmps73 ag1 ?_
 refine .aj (.z zg (.nil (.aj (.z zm ?_))))
 refine .o (.call eC rfl (bZ hs) ?_);rintro _ w ⟨rfl,hs⟩
 refine .z zg (.nil ?_)
 refine .ret (Fin.bE Tryz.results73 rfl ?_)
 exact ⟨rfl,hs⟩
theorem mO{x y a1 a2:Int}(hs:St H w σ):Cl Tryz.prog 161 [.agg #[I x,I y],I a1,I a2] w fun v w'=>v= .bool (decide (a1≤x∧x≤y∧y≤a2))∧St H w' σ:=by
 refine Cl.o Tryz.func161 Tryz.ntmps161 ag3 ?_
 refine .aj ?_
 refine .bx hs fun b3 w hs=>?_
 refine .z zg (.nil (.aj (.z zm (.z (zfa bX) (.y hs (zld ae) (.z oF (.z zm ?_)))))))
 refine .iW (t':=11) rfl (fun hb11=>?_) (fun hb11=>?_)
 ·refine .gT rfl rfl ?_
  refine .z (zfa bX) ?_
  refine .gT rfl rfl ?_
  refine .y hs (zld ae) ?_
  refine .gT rfl rfl ?_
  refine .z (zfa cJ) ?_
  refine .gT rfl rfl ?_
  refine .y hs (zld ae) ?_
  refine .gT rfl rfl ?_
  refine .z oF (.z zpT (.z zm ?_))
  refine .iW (t':=18) rfl (fun hb18=>?_) (fun hb18=>?_)
  ·refine .gT rfl rfl ?_
   refine .z (zfa cJ) ?_
   refine .gT rfl rfl ?_
   refine .y hs (zld ae) ?_
   refine .gT rfl rfl ?_
   refine .z zm ?_
   refine .gT rfl rfl ?_
   refine .z oF (.z zpT (.z zg (.nil ?_)))
   refine .ret (Fin.bE Tryz.results161 rfl ?_)
   exact ⟨by simp [*],hs.out⟩
  ·refine .gFs 4 11 true rfl rfl rfl ?_
   refine .z zpF (.z zg (.nil ?_))
   refine .ret (Fin.bE Tryz.results161 rfl ?_)
   exact ⟨by simp [*],hs.out⟩
 ·refine .gFs 5 4 true rfl rfl rfl ?_
  refine .z zpF (.z zm ?_)
  refine .gFs 4 11 true rfl rfl rfl ?_
  refine .z zpF (.z zg (.nil ?_))
  refine .ret (Fin.bE Tryz.results161 rfl ?_)
  exact ⟨by simp [*],hs.out⟩
theorem mP{x y:Int}(hs:St H w σ):Cl Tryz.prog 109 [.agg #[I x,I y]] w fun v w'=>v= .bool (decide (iM x y))∧St H w' σ:=by
 refine Cl.o Tryz.func109 Tryz.ntmps109 ag1 ?_
 refine .aj ?_
 refine .bx hs fun b1 w hs=>?_
 refine .z zg (.nil (.aj (.y hs (zls [_,_] bD aA) ?_)))
 refine .o (.call Tryz.call161 rfl (mO hs) ?_);rintro _ w ⟨rfl,hs⟩
 refine .z zg (.nil ?_)
 refine .ret (Fin.bE Tryz.results109 rfl ?_)
 exact ⟨rfl,hs.out⟩
theorem me{x y:Int}(hs:St H w σ):Cl Tryz.prog 118 [.agg #[I x,I y]] w fun v w'=>v= .bool (decide (gH x y))∧St H w' σ:=by
 refine Cl.o Tryz.func118 Tryz.ntmps118 ag1 ?_
 refine .aj ?_
 refine .bx hs fun b1 w hs=>?_
 refine .z zg (.nil (.aj (.y hs (zls [_,_] bD aA) ?_)))
 refine .o (.call Tryz.call161 rfl (mO hs) ?_);rintro _ w ⟨rfl,hs⟩
 refine .z zg (.nil ?_)
 refine .ret (Fin.bE Tryz.results118 rfl ?_)
 exact ⟨rfl,hs.out⟩
theorem nH{x:Lg}(hs:St H w σ):
  Cl Tryz.prog 75 [.agg #[I x.zone,I x.fr,I x.to,I x.dlo,I x.dhi,I x.blo,I x.bhi]] w fun v w'=>∃b:Bool,v= .bool b∧(b=true↔yd x)∧St H w' σ:=by
 refine Cl.o Tryz.func75 Tryz.ntmps75 ag1 ?_
 refine .aj ?_
 refine .bx hs fun b1 w hs=>?_
 refine .z zg (.nil (.aj (.z (zfa j9) (.y hs (zld ae) ?_))))
 refine .o (.call Tryz.call73 rfl (kg hs) ?_);rintro _ w ⟨rfl,hs⟩
 refine .z zm ?_
 refine .bif (t':=6) rfl (fun hb6=>?_) (fun hb6=>?_)
 ·refine .gT rfl rfl ?_
  refine .z (zfa fi) ?_
  refine .gT rfl rfl ?_
  refine .y hs (zld ae) ?_
  refine .gT rfl rfl ?_
  refine .z (zfa fh) ?_
  refine .gT rfl rfl ?_
  refine .y hs (zld ae) ?_
  refine .gT rfl rfl ?_
  refine .o (.call eC rfl (bZ hs) ?_);rintro _ w ⟨rfl,hs⟩
  refine .z zpT (.z zm ?_)
  refine .bif (t':=13) rfl (fun hb13=>?_) (fun hb13=>?_)
  ·refine .gT rfl rfl ?_
   refine .z (zfa fh) ?_
   refine .gT rfl rfl ?_
   refine .y hs (zld ae) ?_
   refine .gT rfl rfl ?_
   refine .o (.call eC rfl (bZ hs) ?_);rintro _ w ⟨rfl,hs⟩
   refine .z zpT (.z zm ?_)
   refine .bif (t':=18) rfl (fun hb18=>?_) (fun hb18=>?_)
   ·refine .gT rfl rfl ?_
    refine .z (zfa fK) ?_
    refine .gT rfl rfl ?_
    refine .y hs (zls [_,_] bD aA) ?_
    refine .gT rfl rfl ?_
    refine .o (.call Tryz.call118 rfl (me hs) ?_);rintro _ w ⟨rfl,hs⟩
    refine .z zpT (.z zm ?_)
    refine .bif (t':=23) rfl (fun hb23=>?_) (fun hb23=>?_)
    ·refine .gT rfl rfl ?_
     refine .z (zfa fJ) ?_
     refine .gT rfl rfl ?_
     refine .y hs (zls [_,_] bD aA) ?_
     refine .gT rfl rfl ?_
     refine .o (.call Tryz.call109 rfl (mP hs) ?_);rintro _ w ⟨rfl,hs⟩
     refine .z zpT (.z zg (.nil ?_))
     refine .ret (Fin.bE FR rfl ?_)
     first
     |exact ⟨false,rfl,⟨fun h=>(by cases h),fun h=>(by obtain ⟨g1,g2,g3,g4,g5⟩:=h;first|omega|(simp_all;done)|(simp_all;omega))⟩,hs.out⟩
     |exact ⟨_,rfl,⟨fun h=>⟨by simp_all,by simp_all,by simp_all,by simp_all,by simpa using h⟩,fun h=>by simpa using h.burn⟩,hs.out⟩
    ·refine .gFs 3 20 true rfl rfl rfl ?_
     refine .z zpF (.z zg (.nil ?_))
     refine .ret (Fin.bE FR rfl ?_)
     first
     |exact ⟨false,rfl,⟨fun h=>(by cases h),fun h=>(by obtain ⟨g1,g2,g3,g4,g5⟩:=h;first|omega|(simp_all;done)|(simp_all;omega))⟩,hs.out⟩
     |exact ⟨_,rfl,⟨fun h=>⟨by simp_all,by simp_all,by simp_all,by simp_all,by simpa using h⟩,fun h=>by simpa using h.burn⟩,hs.out⟩
   ·refine .gFs 3 15 true rfl rfl rfl ?_
    refine .z zpF (.z zm ?_)
    refine .gFs 3 20 true rfl rfl rfl ?_
    refine .z zpF (.z zg (.nil ?_))
    refine .ret (Fin.bE FR rfl ?_)
    first
    |exact ⟨false,rfl,⟨fun h=>(by cases h),fun h=>(by obtain ⟨g1,g2,g3,g4,g5⟩:=h;first|omega|(simp_all;done)|(simp_all;omega))⟩,hs.out⟩
    |exact ⟨_,rfl,⟨fun h=>⟨by simp_all,by simp_all,by simp_all,by simp_all,by simpa using h⟩,fun h=>by simpa using h.burn⟩,hs.out⟩
  ·refine .gFs 3 10 true rfl rfl rfl ?_
   refine .z zpF (.z zm ?_)
   refine .gFs 3 15 true rfl rfl rfl ?_
   refine .z zpF (.z zm ?_)
   refine .gFs 3 20 true rfl rfl rfl ?_
   refine .z zpF (.z zg (.nil ?_))
   refine .ret (Fin.bE FR rfl ?_)
   first
   |exact ⟨false,rfl,⟨fun h=>(by cases h),fun h=>(by obtain ⟨g1,g2,g3,g4,g5⟩:=h;first|omega|(simp_all;done)|(simp_all;omega))⟩,hs.out⟩
   |exact ⟨_,rfl,⟨fun h=>⟨by simp_all,by simp_all,by simp_all,by simp_all,by simpa using h⟩,fun h=>by simpa using h.burn⟩,hs.out⟩
 ·refine .gFs 5 3 true rfl rfl rfl ?_
  refine .z zpF (.z zm ?_)
  refine .gFs 3 10 true rfl rfl rfl ?_
  refine .z zpF (.z zm ?_)
  refine .gFs 3 15 true rfl rfl rfl ?_
  refine .z zpF (.z zm ?_)
  refine .gFs 3 20 true rfl rfl rfl ?_
  refine .z zpF (.z zg (.nil ?_))
  refine .ret (Fin.bE FR rfl ?_)
  first
  |exact ⟨false,rfl,⟨fun h=>(by cases h),fun h=>(by obtain ⟨g1,g2,g3,g4,g5⟩:=h;first|omega|(simp_all;done)|(simp_all;omega))⟩,hs.out⟩
  |exact ⟨_,rfl,⟨fun h=>⟨by simp_all,by simp_all,by simp_all,by simp_all,by simpa using h⟩,fun h=>by simpa using h.burn⟩,hs.out⟩
set_option maxHeartbeats 1000000 in
theorem fZ{l:Lns}{vt vs:Value}(hs:St H w σ)(h1:RFb H vt l.table)(h2:RSn H vs l.seasons):
  Cl Tryz.prog 19 [.agg #[I l.length,I l.depth,vt,vs]] w fun u w'=>∃e,u=I e∧JK l e∧St H w' σ:=by
 obtain ⟨at_,ct,rfl⟩:=h1.shape
 obtain ⟨as_,cs,rfl⟩:=h2.shape
 refine Cl.o Tryz.func19 Tryz.ntmps19 ag1 ?_
 refine .aj ?_
 refine .bx hs fun b1 w hs=>?_
 refine .z zg (.nil (.seq (.aj (.z (zfa dZ) (.y hs (zld ae) ?_)))))
 refine .o (.call eC rfl (bZ hs) ?_);rintro _ w ⟨rfl,hs⟩
 refine .z fW (.z zm ?_)
 refine .bif (t':=11) rfl (fun hb11=>?_) (fun hb11=>?_)
 ·refine .gFs 4 4 false rfl rfl rfl ?_
  refine .z zpT (.z zm ?_)
  refine .gFs 5 10 false rfl rfl rfl ?_
  refine .z zpT (.z zm ?_)
  refine .gFs 4 17 false rfl rfl rfl ?_
  refine .z zpT (.nil ?_)
  refine (.cT ?_)
  refine .aj (.z zg (.nil ?_))
  refine .ret (rT (Fin.bE fA rfl ?_))
  exact ⟨_,rfl,.inr ⟨fun h=>by have:=h.length;simp_all,rfl⟩,hs.out⟩
 ·refine .gT rfl rfl ?_
  refine .z (zfa ia) ?_
  refine .gT rfl rfl ?_
  refine .y hs (zld ae) ?_
  refine .gT rfl rfl ?_
  refine .o (.call eC rfl (bZ hs) ?_);rintro _ w ⟨rfl,hs⟩
  refine .gT rfl rfl ?_
  refine .z fW (.z zpF (.z zm ?_))
  refine .bif (t':=17) rfl (fun hb17=>?_) (fun hb17=>?_)
  ·refine .gFs 5 10 false rfl rfl rfl ?_
   refine .z zpT (.z zm ?_)
   refine .gFs 4 17 false rfl rfl rfl ?_
   refine .z zpT (.nil ?_)
   refine (.cT ?_)
   refine .aj (.z zg (.nil ?_))
   refine .ret (rT (Fin.bE fA rfl ?_))
   exact ⟨_,rfl,.inr ⟨fun h=>by have:=h.depth;simp_all,rfl⟩,hs.out⟩
  ·refine .gT rfl rfl ?_
   refine .z (zfa cq) ?_
   refine .gT rfl rfl ?_
   refine .y hs (zld dV) ?_
   refine .gT rfl rfl ?_
   refine .z (dp aO) ?_
   refine .gT rfl rfl ?_
   refine .o (.call eC rfl (bZ hs) ?_);rintro _ w ⟨rfl,hs⟩
   refine .gT rfl rfl ?_
   refine .z fW (.z zpF (.z zm ?_))
   refine .bif (t':=24) rfl (fun hb24=>?_) (fun hb24=>?_)
   ·refine .gFs 4 17 false rfl rfl rfl ?_
    refine .z zpT (.nil ?_)
    refine (.cT ?_)
    refine .aj (.z zg (.nil ?_))
    refine .ret (rT (Fin.bE fA rfl ?_))
    exact ⟨_,rfl,.inr ⟨fun h=>by have:=h.many;simp_all;omega,rfl⟩,hs.out⟩
   ·refine .gT rfl rfl ?_
    refine .z (zfa cK) ?_
    refine .gT rfl rfl ?_
    refine .y hs (zld eh) ?_
    refine .gT rfl rfl ?_
    refine .z (dp bp) ?_
    refine .gT rfl rfl ?_
    refine .z mI (.z zpF (.nil ?_))
    refine (.bH rfl (fun hc29=>?_) (fun hc29=>?_))
    ·refine .aj (.z zg (.nil ?_))
     refine .ret (rT (Fin.bE fA rfl ?_))
     exact ⟨_,rfl,.inr ⟨fun h=>by have:=h.most;simp_all;omega,rfl⟩,hs.out⟩
    ·refine .skip ?_
     refine nT ?_
     refine .seq (.aj ?_)
     have hl20:1≤l.table.length∧l.table.length≤20:=by first|omega|(simp at hb24;omega)
     refine .z (zfa cq) (.y hs (zld dV) (.z (dp aO) (.z zm (.nil ?_))))
     refine .for (N:=l.table.length) (J:=fun k fr w=>fr=[(31,.slice at_ l.table.length ct),(1,.pointer (some ⟨b1,0,none⟩))]∧(∀j<k,FM l.table j)∧St H w (.blk b1 [I l.length,I l.depth,.slice at_ l.table.length ct,.slice as_ l.seasons.length cs]::σ)) ak ?_ ?_ ?_
     ·exact .mk ⟨rfl,fun j hj=>by omega,hs⟩
     ·rintro k fr w hk ⟨rfl,hno,hs⟩
      have hx:=lT (l:=l.table) hk
      have hx1:=lT (l:=l.table) (i:=k - 1) ak
      refine .block (.aj (.z zm ?_))
      refine .ixX (enc:=Fbd.c) hs h1 rfl rfl aO bu hx de ?_;intro b36 o36 hc36
      refine .q hs (bY (vs:=(Fbd.c (fb0 l.table k))) rfl Tryz.isAgg134 bu hc36) ?_
      refine .o (.alloc hs gR rfl fun b4 w hs=>?_)
      refine .z zg ?_
      refine .o (.aP (vs:=(fb0 l.table k).c) hs rfl rfl bu fun w hs=>?_)
      change St _ _ (.blk b4 [I (fb0 l.table k).len,I (fb0 l.table k).least]::_) at hs
      refine .nil ?_
      refine .seq (.draw mix rfl hs fun w hs=>?_)
      refine .z 0 rfl (zfa bK) ?_;refine .y 1 rfl hs ae ?_
      refine .E 2 hs ?_
      refine .call eC rfl (bZ hs) ?_;rintro _ w ⟨rfl,hs⟩
      refine .go ?_
      refine .z 3 rfl fW ?_;refine .z 4 rfl zm ?_
      refine .bif (t':=42) rfl (fun hb42=>?_) (fun hb42=>?_)
      ·refine .qF (i:=5) rfl aq rfl rfl ?_
       refine .qF (i:=6) rfl aq rfl rfl ?_
       refine .qF (i:=7) rfl aq rfl rfl ?_
       refine .qF (i:=8) rfl aq rfl rfl ?_
       refine .z 9 rfl zpT ?_;refine .z 10 rfl zm ?_
       refine .qF (i:=11) rfl aq rfl rfl ?_
       refine .qF (i:=12) rfl aq rfl rfl ?_
       refine .qF (i:=13) rfl aq rfl rfl ?_
       refine .qF (i:=14) rfl aq rfl rfl ?_
       refine .qF (i:=15) rfl aq rfl rfl ?_
       refine .qF (i:=16) rfl aq rfl rfl ?_
       refine .qF (i:=17) rfl aq rfl rfl ?_
       refine .qF (i:=18) rfl aq rfl rfl ?_
       refine .qF (i:=19) rfl aq rfl rfl ?_
       refine .qF (i:=20) rfl aq rfl rfl ?_
       refine .qF (i:=21) rfl aq rfl rfl ?_
       refine .qF (i:=22) rfl aq rfl rfl ?_
       refine .qF (i:=23) rfl aq rfl rfl ?_
       refine .qF (i:=24) rfl aq rfl rfl ?_
       refine .z 25 rfl zpT ?_;refine .D hs ?_
       refine (.cT ?_)
       refine .aj (.z zg (.nil ?_))
       refine .ret (rB (rT (rB (rT (Fin.bE fA rfl ?_)))))
       exact ⟨_,rfl,.inr ⟨fun h=>by have:=(h.table k hk).len;simp_all,rfl⟩,hs.out⟩
      ·refine .z 5 rfl (zfa dv) ?_;refine .y 6 rfl hs ae ?_
       refine .E 7 hs ?_
       refine .call eC rfl (bZ hs) ?_;rintro _ w ⟨rfl,hs⟩
       refine .go ?_
       refine .z 8 rfl fW ?_;refine .z 9 rfl zpF ?_;refine .z 10 rfl zm ?_
       refine .bif (t':=48) rfl (fun hb48=>?_) (fun hb48=>?_)
       ·refine .qF (i:=11) rfl aq rfl rfl ?_
        refine .qF (i:=12) rfl aq rfl rfl ?_
        refine .qF (i:=13) rfl aq rfl rfl ?_
        refine .qF (i:=14) rfl aq rfl rfl ?_
        refine .qF (i:=15) rfl aq rfl rfl ?_
        refine .qF (i:=16) rfl aq rfl rfl ?_
        refine .qF (i:=17) rfl aq rfl rfl ?_
        refine .qF (i:=18) rfl aq rfl rfl ?_
        refine .qF (i:=19) rfl aq rfl rfl ?_
        refine .qF (i:=20) rfl aq rfl rfl ?_
        refine .qF (i:=21) rfl aq rfl rfl ?_
        refine .qF (i:=22) rfl aq rfl rfl ?_
        refine .qF (i:=23) rfl aq rfl rfl ?_
        refine .qF (i:=24) rfl aq rfl rfl ?_
        refine .z 25 rfl zpT ?_;refine .D hs ?_
        refine (.cT ?_)
        refine .aj (.z zg (.nil ?_))
        refine .ret (rB (rT (rB (rT (Fin.bE fA rfl ?_)))))
        exact ⟨_,rfl,.inr ⟨fun h=>by have:=(h.table k hk).least;simp_all,rfl⟩,hs.out⟩
       ·refine .z 11 rfl zm ?_;refine .z 12 rfl mI ?_;refine .z 13 rfl zm ?_
        refine .iW (t':=51) rfl (fun hb51=>?_) (fun hb51=>?_)
        ·refine .z 14 rfl (zfa cq) ?_;refine .y 15 rfl hs dV ?_;refine .z 16 rfl zm ?_;refine .z 17 rfl gM ?_
         refine .ixX (enc:=Fbd.c) (i:=18) hs rfl aq (.some rfl rfl) h1 rfl rfl aO bu hx1 ak ?_;intro b56 o56 hc56
         refine .z 19 rfl (zfa bK) ?_
         refine .r (i:=20) hs rfl aq (.some rfl rfl) (aW rfl ae (hc56.get 0 rfl)) ?_
         refine .z 21 rfl (zfa bK) ?_;refine .y 22 rfl hs ae ?_;refine .z 23 rfl uc ?_;refine .z 24 rfl zpT ?_;refine .z 25 rfl zpF ?_;refine .D hs ?_
         refine (.bH rfl (fun hc63=>?_) (fun hc63=>?_))
         ·refine .aj (.z zg (.nil ?_))
          refine .ret (rB (rT (rB (rT (Fin.bE fA rfl ?_)))))
          exact ⟨_,rfl,.inr ⟨fun h=>by have:=(h.table k hk).rise ak;omega,rfl⟩,hs.out⟩
         ·refine .skip ?_
          refine nB (nT ?_)
          first
          |exact .mk ⟨rfl,fun j hj=>by
            by_cases e:j=k
            ·subst e;exact ⟨by simp_all,by simp_all,fun _=>by omega⟩
            ·exact hno j ak,hs.tail⟩
        ·refine .qF (i:=14) rfl aq rfl rfl ?_
         refine .qF (i:=15) rfl aq rfl rfl ?_
         refine .qF (i:=16) rfl aq rfl rfl ?_
         refine .qF (i:=17) rfl aq rfl rfl ?_
         refine .qF (i:=18) rfl aq rfl rfl ?_
         refine .qF (i:=19) rfl aq rfl rfl ?_
         refine .qF (i:=20) rfl aq rfl rfl ?_
         refine .qF (i:=21) rfl aq rfl rfl ?_
         refine .qF (i:=22) rfl aq rfl rfl ?_
         refine .qF (i:=23) rfl aq rfl rfl ?_
         refine .z 24 rfl zpF ?_;refine .z 25 rfl zpF ?_;refine .D hs ?_
         refine (.cF ?_)
         refine .skip ?_
         refine nB (nT ?_)
         first
         |exact .mk ⟨rfl,fun j hj=>by
           by_cases e:j=k
           ·subst e;exact ⟨by simp_all,by simp_all,fun _=>by omega⟩
           ·exact hno j ak,hs.tail⟩
     ·rintro fr w ⟨rfl,htb,hs⟩
      refine nT ?_
      refine .seq (.aj (.z (zfa cK) (.y hs (zld eh) (.z (dp bp) (.z zm (.nil ?_))))))
      refine .for (N:=l.seasons.length) (J:=fun k fr w=>fr=[(66,.slice as_ l.seasons.length cs),(1,.pointer (some ⟨b1,0,none⟩))]∧(∀j<k,∀y,l.seasons[j]? =some y→Au y)∧St H w (.blk b1 [I l.length,I l.depth,.slice at_ l.table.length ct,.slice as_ l.seasons.length cs]::σ)) ak ?_ ?_ ?_
      ·exact .mk ⟨rfl,fun j hj=>by omega,hs⟩
      ·rintro k fr w hk ⟨rfl,hno,hs⟩
       obtain ⟨s,hx⟩:=nth hk
       refine .block (.aj ?_)
       refine .ixX (enc:=Ssn.c) hs h2 rfl rfl bp ck hx de ?_;intro b70 o70 hc70
       refine .q hs (bY (vs:=(Ssn.c s)) rfl HB ck hc70) ?_
       refine .o (.alloc hs oX rfl fun b6 w hs=>?_)
       refine .o (.aP (vs:=s.c) hs rfl rfl ck fun w hs=>?_)
       change St _ _ (.blk b6 [I s.zone,I s.fr,I s.to,I s.extra]::_) at hs
       refine .nil (.aj (.z (zfa iE) (.y hs (zld ae) ?_)))
       refine .o (.call Tryz.call73 rfl (kg hs) ?_);rintro _ w ⟨rfl,hs⟩
       refine .z fW (.z zm ?_)
       refine .bif (t':=76) rfl (fun hb76=>?_) (fun hb76=>?_)
       ·refine .gFs 4 4 false rfl rfl rfl ?_
        refine .z zpT (.z zm ?_)
        refine .gFs 4 10 false rfl rfl rfl ?_
        refine .z zpT (.z zm ?_)
        refine .gFs 4 16 false rfl rfl rfl ?_
        refine .z zpT (.nil ?_)
        refine (.cT ?_)
        refine .aj (.z zg (.nil ?_))
        refine .ret (rB (rT (rB (rT (Fin.bE fA rfl ?_)))))
        exact ⟨_,rfl,.inr ⟨fun h=>by have:=(h.seasons s (List.mem_of_getElem? hx)).zone;simp_all,rfl⟩,hs.out⟩
       ·refine .gT rfl rfl ?_
        refine .z (zfa ew) ?_
        refine .gT rfl rfl ?_
        refine .y hs (zld ae) ?_
        refine .gT rfl rfl ?_
        refine .o (.call eC rfl (bZ hs) ?_);rintro _ w ⟨rfl,hs⟩
        refine .gT rfl rfl ?_
        refine .z fW (.z zpF (.z zm ?_))
        refine .bif (t':=82) rfl (fun hb82=>?_) (fun hb82=>?_)
        ·refine .gFs 4 10 false rfl rfl rfl ?_
         refine .z zpT (.z zm ?_)
         refine .gFs 4 16 false rfl rfl rfl ?_
         refine .z zpT (.nil ?_)
         refine (.cT ?_)
         refine .aj (.z zg (.nil ?_))
         refine .ret (rB (rT (rB (rT (Fin.bE fA rfl ?_)))))
         exact ⟨_,rfl,.inr ⟨fun h=>by have:=(h.seasons s (List.mem_of_getElem? hx)).fr;simp_all,rfl⟩,hs.out⟩
        ·refine .gT rfl rfl ?_
         refine .z (zfa eu) ?_
         refine .gT rfl rfl ?_
         refine .y hs (zld ae) ?_
         refine .gT rfl rfl ?_
         refine .o (.call eC rfl (bZ hs) ?_);rintro _ w ⟨rfl,hs⟩
         refine .gT rfl rfl ?_
         refine .z fW (.z zpF (.z zm ?_))
         refine .bif (t':=88) rfl (fun hb88=>?_) (fun hb88=>?_)
         ·refine .gFs 4 16 false rfl rfl rfl ?_
          refine .z zpT (.nil ?_)
          refine (.cT ?_)
          refine .aj (.z zg (.nil ?_))
          refine .ret (rB (rT (rB (rT (Fin.bE fA rfl ?_)))))
          exact ⟨_,rfl,.inr ⟨fun h=>by have:=(h.seasons s (List.mem_of_getElem? hx)).to;simp_all,rfl⟩,hs.out⟩
         ·refine .gT rfl rfl ?_
          refine .z (zfa iD) ?_
          refine .gT rfl rfl ?_
          refine .y hs (zld ae) ?_
          refine .gT rfl rfl ?_
          refine .o (.call eC rfl (bZ hs) ?_);rintro _ w ⟨rfl,hs⟩
          refine .gT rfl rfl ?_
          refine .z fW (.z zpF (.nil ?_))
          refine (.cond rfl (fun hc93=>?_) (fun hc93=>?_))
          ·refine .aj (.z zg (.nil ?_))
           refine .ret (rB (rT (rB (rT (Fin.bE fA rfl ?_)))))
           exact ⟨_,rfl,.inr ⟨fun h=>by have:=(h.seasons s (List.mem_of_getElem? hx)).extra;simp_all,rfl⟩,hs.out⟩
          ·refine .skip ?_
           refine nB (nT ?_)
           exact .mk ⟨rfl,fm hno hx ⟨by simp_all,by simp_all,by simp_all,by simp_all⟩,hs.tail⟩
      ·rintro fr w ⟨rfl,hno,hs⟩
       refine nT ?_
       refine .aj (.z zg (.nil ?_))
       refine .ret (Fin.bE fA rfl ?_)
       exact ⟨_,rfl,.inl ⟨⟨by simp_all,by simp_all,hl20,ak,htb,fun s hs=>by
        obtain ⟨j,hj⟩:=List.getElem?_of_mem hs
        exact hno j (List.getElem?_eq_some_iff.1 hj).1 s hj⟩,rfl⟩,hs.out⟩
theorem oO{r:List Lg}{vr:Value}(hs:St H w σ)(h1:RLg H vr r):
  Cl Tryz.prog 21 [.agg #[vr]] w fun u w'=>∃e,u=I e∧RteR r e∧St H w' σ:=by
 obtain ⟨ar,cr,rfl⟩:=h1.shape
 refine Cl.o Tryz.func21 Tryz.ntmps21 ag1 ?_
 refine .aj ?_
 refine .bx hs fun b1 w hs=>?_
 refine .z zg (.nil (.seq (.aj (.z (zfa bQ) (.y hs (zld cQ) (.z (dp aJ) ?_))))))
 refine .o (.call eC rfl (bZ hs) ?_);rintro _ w ⟨rfl,hs⟩
 refine .z fW (.nil ?_)
 refine (.cond rfl (fun hc9=>?_) (fun hc9=>?_))
 ·refine .aj (.z zg (.nil ?_))
  refine .ret (rT (Fin.bE Tryz.results21 rfl ?_))
  exact ⟨_,rfl,.inr ⟨fun h=>by have:=h.many;simp_all;omega,rfl⟩,hs.out⟩
 ·refine .skip ?_
  refine nT ?_
  refine .seq (.aj ?_)
  have hl20:1≤r.length∧r.length≤12:=by first|omega|(simp at hc9;omega)
  refine .z (zfa bQ) (.y hs (zld cQ) (.z (dp aJ) (.z zm (.nil ?_))))
  refine .for (N:=r.length) (J:=fun k fr w=>fr=[(11,.slice ar r.length cr),(1,.pointer (some ⟨b1,0,none⟩))]∧(∀j<k,yd (lg0 r j)∧(0<j→(lg0 r (j - 1)).to≤(lg0 r j).fr))∧St H w (.blk b1 [.slice ar r.length cr]::σ)) ak ?_ ?_ ?_
  ·exact .mk ⟨rfl,fun j hj=>by omega,hs⟩
  ·rintro k fr w hk ⟨rfl,hno,hs⟩
   have hx:=mu (l:=r) hk
   have hx1:=mu (l:=r) (i:=k - 1) ak
   refine .block (.aj (.z zm ?_))
   refine .ixX (enc:=Lg.c) hs h1 rfl rfl aJ aK hx de ?_;intro b16 o16 hc16
   refine .q hs (bY (vs:=(Lg.c (lg0 r k))) rfl dU aK hc16) ?_
   refine .o (.alloc hs dm rfl fun b4 w hs=>?_)
   refine .z zg ?_
   refine .o (.aP (vs:=(lg0 r k).c) hs rfl rfl aK fun w hs=>?_)
   change St _ _ (.blk b4 [I (lg0 r k).zone,I (lg0 r k).fr,I (lg0 r k).to,I (lg0 r k).dlo,I (lg0 r k).dhi,I (lg0 r k).blo,I (lg0 r k).bhi]::_) at hs
   refine .nil ?_
   refine .seq (.draw mix rfl hs fun w hs=>?_)
   refine .ys 0 rfl hs [_,_,_,_,_,_,_] dU aK ?_
   refine .E 1 hs ?_
   refine .call Tryz.call75 rfl (nH (x:=lg0 r k) hs) ?_;rintro _ w ⟨b19,rfl,hb19,hs⟩
   refine .go ?_
   refine .z 2 rfl fW ?_;refine .z 3 rfl zm ?_
   refine .bif (t':=21) rfl (fun hb21=>?_) (fun hb21=>?_)
   ·refine .qF (i:=4) rfl aq rfl rfl ?_
    refine .qF (i:=5) rfl aq rfl rfl ?_
    refine .qF (i:=6) rfl aq rfl rfl ?_
    refine .qF (i:=7) rfl aq rfl rfl ?_
    refine .qF (i:=8) rfl aq rfl rfl ?_
    refine .qF (i:=9) rfl aq rfl rfl ?_
    refine .qF (i:=10) rfl aq rfl rfl ?_
    refine .qF (i:=11) rfl aq rfl rfl ?_
    refine .qF (i:=12) rfl aq rfl rfl ?_
    refine .qF (i:=13) rfl aq rfl rfl ?_
    refine .qF (i:=14) rfl aq rfl rfl ?_
    refine .qF (i:=15) rfl aq rfl rfl ?_
    refine .qF (i:=16) rfl aq rfl rfl ?_
    refine .qF (i:=17) rfl aq rfl rfl ?_
    refine .z 18 rfl zpT ?_;refine .D hs ?_
    refine (.cT ?_)
    refine .aj (.z zg (.nil ?_))
    refine .ret (rB (rT (rB (rT (Fin.bE Tryz.results21 rfl ?_)))))
    exact ⟨_,rfl,.inr ⟨fun h=>by have:=hb19.2 (h.leg k hk).1;simp_all,rfl⟩,hs.out⟩
   ·refine .z 4 rfl zm ?_;refine .z 5 rfl mI ?_;refine .z 6 rfl zm ?_
    refine .iW (t':=24) rfl (fun hb24=>?_) (fun hb24=>?_)
    ·refine .z 7 rfl (zfa fi) ?_;refine .y 8 rfl hs ae ?_;refine .z 9 rfl (zfa bQ) ?_;refine .y 10 rfl hs cQ ?_;refine .z 11 rfl zm ?_;refine .z 12 rfl gM ?_
     refine .ixX (enc:=Lg.c) (i:=13) hs rfl aq (.some rfl rfl) h1 rfl rfl aJ aK hx1 ak ?_;intro b31 o31 hc31
     refine .z 14 rfl (zfa fh) ?_
     refine .r (i:=15) hs rfl aq (.some rfl rfl) (aW rfl ae (hc31.get 2 rfl)) ?_
     refine .z 16 rfl iK ?_;refine .z 17 rfl zpT ?_;refine .z 18 rfl zpF ?_;refine .D hs ?_
     refine (.bH rfl (fun hc36=>?_) (fun hc36=>?_))
     ·refine .aj (.z zg (.nil ?_))
      refine .ret (rB (rT (rB (rT (Fin.bE Tryz.results21 rfl ?_)))))
      exact ⟨_,rfl,.inr ⟨fun h=>by have:=(h.leg k hk).2 ak;omega,rfl⟩,hs.out⟩
     ·refine .skip ?_
      refine nB (nT ?_)
      first
      |exact .mk ⟨rfl,fun j hj=>by
        by_cases e:j=k
        ·subst e;exact ⟨hb19.1 (by simp_all),fun _=>by omega⟩
        ·exact hno j ak,hs.tail⟩
    ·refine .qF (i:=7) rfl aq rfl rfl ?_
     refine .qF (i:=8) rfl aq rfl rfl ?_
     refine .qF (i:=9) rfl aq rfl rfl ?_
     refine .qF (i:=10) rfl aq rfl rfl ?_
     refine .qF (i:=11) rfl aq rfl rfl ?_
     refine .qF (i:=12) rfl aq rfl rfl ?_
     refine .qF (i:=13) rfl aq rfl rfl ?_
     refine .qF (i:=14) rfl aq rfl rfl ?_
     refine .qF (i:=15) rfl aq rfl rfl ?_
     refine .qF (i:=16) rfl aq rfl rfl ?_
     refine .z 17 rfl zpF ?_;refine .z 18 rfl zpF ?_;refine .D hs ?_
     refine (.cF ?_)
     refine .skip ?_
     refine nB (nT ?_)
     first
     |exact .mk ⟨rfl,fun j hj=>by
       by_cases e:j=k
       ·subst e;exact ⟨hb19.1 (by simp_all),fun _=>by omega⟩
       ·exact hno j ak,hs.tail⟩
  ·rintro fr w ⟨rfl,hno,hs⟩
   refine nT ?_
   refine .aj (.z zg (.nil ?_))
   refine .ret (Fin.bE Tryz.results21 rfl ?_)
   exact ⟨_,rfl,.inl ⟨⟨hl20,hno⟩,rfl⟩,hs.out⟩
theorem HZ{P:Program}{H:bV}{σ:List Ent}{s:FS}{t ty':TypeId}{x y:Operand}{p:Int}(hx:FS.ev s x=some (.int .u64 p))(hy:FS.ev s y=some (.int .u64 1)):QJ P H σ s (.binOp .shr t x y ty') (.int .u64 (p/2)):=by
 have h1:=zZ (P:=P) (H:=H) (σ:=σ) (t:=t) (ty':=ty') hx hy ak
 have h2:p.fdiv (2 ^min (1:Int).toNat IntKind.u64.bits)=p/2:=by
  have:(2:Int) ^min (1:Int).toNat IntKind.u64.bits=2:=by decide
  rw [this,Int.fdiv_eq_ediv_of_nonneg _ ak]
 rw [h2] at h1
 exact h1
theorem mJ{n g:Nat}{cap:List Value}{p:Nat→Prop}(hs:St H w σ)(hn:n≤1000000)(hc:∀args w,(callFunc g args).run Tryz.prog w= .ok (.enter g args) w)
  (hp:∀w i,i<n→St H w σ→Cl Tryz.prog g ([I (i:Int)]++cap) w fun u w'=>∃b,u= .bool b∧(b=true↔p i)∧St H w' σ):
  Cl Tryz.prog 157 [I (n:Int),.func (.func g) #[] cap.toArray] w fun u w'=>∃k:Nat,u=I (k:Int)∧k≤n∧(0<k→¬p (k - 1))∧(k<n→p k)∧St H w' σ:=by
 refine Cl.o Tryz.func157 Tryz.ntmps157 ag2 ?_
 refine .aj (.z zg (.nil (.aj (.z zm (.z zg (.z zg (.nil (.seq (.block ?_)))))))))
 refine .loop (fun q:Nat×Nat=>⟨26,[],[(6,I (q.2:Int)),(5,I (q.1:Int)),(1,.func (.func g) #[] cap.toArray)]⟩)
  (fun q w=>(q.1≤q.2∧q.2≤n)∧(0<q.1→¬p (q.1 - 1))∧(q.2<n→p q.2)∧St H w σ) (fun q=>q.2 - q.1) (0,n) bj
  ⟨⟨Nat.zero_le _,Nat.le_refl _⟩,fun h=>by omega,fun h=>by omega,hs⟩ ?_
 rintro ⟨i,j⟩ w ⟨⟨hij,hjn⟩,hlo,hhi,hs⟩
 dsimp only at hij hjn hlo hhi ⊢
 refine .seq (.aj (.z zm (.z zm (.z iK (.nil ?_)))))
 refine (.bH rfl (fun hc11=>?_) (fun hc11=>?_))
 ·refine .skip ?_
  refine nT ?_
  refine .block (.aj (.z zm (.z zm (.z cP ?_))))
  refine .q hs (xh rfl bA dH ⟨ak,ak⟩) ?_
  refine .q hs (HZ rfl rfl) ?_
  rw [show ((i:Int)+(j:Int))/2=(((i+j)/2:Nat):Int) by omega]
  refine .q hs (xi rfl dH bA ⟨ak,ak⟩) ?_
  refine .z zg (.nil (.aj (.z zm (.z zm ?_))))
  refine .o (.oS (first:=[]) rfl rfl hc (hp _ ((i+j)/2) ak hs) ?_);rintro _ w ⟨b20,rfl,hb20,hs⟩
  refine .z fW (.nil ?_)
  refine (.cond rfl (fun hc21=>?_) (fun hc21=>?_))
  ·refine .region (.z zm (.z cP (.z zg (.nil ?_))))
   refine nB (nT ?_)
   exact ⟨((i+j)/2+1,j),.dD rfl cu bj,⟨⟨by dsimp only;omega,hjn⟩,fun _ h=>(by rw [hb20.2 (by simpa using h)] at hc21;cases hc21),hhi,hs⟩,by dsimp only;omega⟩
  ·refine .region (.z zm (.z zg (.nil ?_)))
   refine nB (nT ?_)
   exact ⟨(i,(i+j)/2),.dD rfl cu bj,⟨⟨by dsimp only;omega,by dsimp only;omega⟩,hlo,fun _=>hb20.1 (by simpa using hc21),hs⟩,by dsimp only;omega⟩
 ·refine .exit ?_
  refine xT (xT (xB (nT ?_)))
  refine .aj (.z zm (.z zg (.nil ?_)))
  refine .ret (Fin.bE Tryz.results157 rfl ?_)
  obtain rfl:i=j:=by omega
  exact ⟨i,rfl,hjn,hlo,hhi,hs⟩
theorem nI{l:Lns}{vt vs:Value}{b i:Nat}(hs:St H w (.blk b [I l.length,I l.depth,vt,vs]::σ))(h1:RFb H vt l.table)(hi:i<l.table.length):
  Cl Tryz.prog 158 [I (i:Int),.pointer (some ⟨b,0,none⟩)] w fun u w'=>∃bb:Bool,u= .bool bb∧(bb=true↔l.length≤(fb0 l.table i).len)∧St H w' (.blk b [I l.length,I l.depth,vt,vs]::σ):=by
 obtain ⟨at_,ct,rfl⟩:=h1.shape
 refine Cl.o Tryz.func158 Tryz.ntmps158 ag2 ?_
 refine .aj (.z zg (.nil ?_))
 refine .seq (.draw mix rfl hs fun w hs=>?_)
 refine .z 0 rfl (zfa cq) ?_;refine .y 1 rfl hs dV ?_;refine .z 2 rfl zm ?_
 refine .ixX (enc:=Fbd.c) (i:=3) hs rfl aq .none h1 rfl rfl aO bu (lT hi) de ?_;intro b7 o7 hc7
 refine .z 4 rfl (zfa bK) ?_
 refine .r (i:=5) hs rfl aq .none (aW rfl ae (hc7.get 0 rfl)) ?_
 refine .z 6 rfl (zfa dZ) ?_;refine .y 7 rfl hs ae ?_;refine .z 8 rfl uc ?_;refine .z 9 rfl zg ?_;refine .D hs ?_
 refine .ret (Fin.bE Tryz.results158 rfl ?_)
 exact ⟨_,rfl,cu,hs⟩
theorem pb{a d:Int}(hs:St H w σ)(hd:1≤d)(ha: -4608000000000000000≤a∧a≤4608000000000000000):
  Cl Tryz.prog 140 [I a,I d] w fun v w'=>v=I (a/d)∧St H w' σ:=by
 have hq:=I5 hd ha
 have hfl:=tS (n:=a) (d:=d) ak
 refine Cl.o Tryz.func140 Tryz.ntmps140 ag2 ?_
 refine .aj (.z zg (.nil (.aj (.z zm (.z zm ?_)))))
 refine .q hs (wx rfl rfl ak ⟨ak,ak⟩) ?_
 refine .z zg (.nil (.seq (.aj (.z zm (.z zm (.z AA (.z iK (.nil ?_))))))))
 refine (.bH rfl (fun hc12=>?_) (fun hc12=>?_))
 ·refine .region (.z zm (.z gM (.z zg (.nil ?_))))
  refine nT ?_
  refine .aj (.z zm (.z zg (.nil ?_)))
  refine .ret (Fin.bE Tryz.results140 rfl ?_)
  rw [if_pos hc12] at hfl
  exact ⟨by rw [hfl],hs⟩
 ·refine .skip ?_
  refine nT ?_
  refine .aj (.z zm (.z zg (.nil ?_)))
  refine .ret (Fin.bE Tryz.results140 rfl ?_)
  rw [if_neg hc12,Int.sub_zero] at hfl
  exact ⟨by rw [hfl],hs⟩
theorem jm{l:Lns}{vt vs:Value}(hs:St H w σ)(h1:RFb H vt l.table)(hl:gG l):
  Cl Tryz.prog 102 [.agg #[I l.length,I l.depth,vt,vs]] w fun u w'=>∃n b,u= .tuple #[I n,.bool b]∧ub l n b∧St H w' σ:=by
 obtain ⟨at_,ct,rfl⟩:=h1.shape
 have hm:=hl.many
 have hr:=fun {j i:Nat}=>xD hl.table (j:=j) (i:=i)
 refine Cl.o Tryz.func102 Tryz.ntmps102 ag1 ?_
 refine .aj ?_
 refine .bx hs fun b1 w hs=>?_
 refine .z zg (.z zg (.nil (.aj (.z (zfa cq) (.y hs (zld dV) (.z (dp aO) ?_))))))
 refine .q hs (dz (f:=[]) (c:=[_]) rfl rfl) ?_
 refine .o (.call Tryz.call157 rfl (mJ (cap:=[.pointer (some ⟨b1,0,none⟩)]) (p:=fun i=>l.length≤(fb0 l.table i).len) hs ak Tryz.call158 (fun w i hi hs=>nI hs h1 hi)) ?_);rintro _ w ⟨k,rfl,hk,hlo,hhi,hs⟩
 have hbig:∀i<l.table.length,k≤i→l.length≤(fb0 l.table i).len:=fun i hi hki=>by
  by_cases e:i=k
  ·subst e;exact hhi hi
  ·have:=hr (show k<i by omega) hi
   have:=hhi ak
   omega
 have hsml:∀i<k,(fb0 l.table i).len<l.length:=fun i hi=>by
  by_cases e:i=k - 1
  ·subst e;have:=hlo ak;omega
  ·have:=hr (show i<k - 1 by omega) ak
   have:=hlo ak
   omega
 refine .z zg (.nil (.seq (.block (.aj (.z zm (.z (zfa cq) (.y hs (zld dV) (.z (dp aO) (.z gj ?_)))))))))
 refine .z zg (.nil ?_)
 refine (.bH rfl (fun hc12=>?_) (fun hc12=>?_))
 ·refine .aj (.z zg (.z zg (.nil ?_)))
  refine .ret (rB (rT (Fin.iq Tryz.results102 rfl rfl ?_)))
  exact ⟨_,_,rfl,.none (fun i hi h=>by have:=hsml i ak;omega) (fun i hi h0 h=>by have:=hsml i ak;omega),hs.out⟩
 ·refine .seq (.draw mix rfl hs fun w hs=>?_)
  refine .z 0 rfl (zfa cq) ?_;refine .y 1 rfl hs dV ?_;refine .z 2 rfl zm ?_
  have hk':k<l.table.length:=by omega
  have hx:=lT hk'
  have hx1:=lT (l:=l.table) (i:=k - 1) ak
  refine .ixX (enc:=Fbd.c) (i:=3) hs rfl aq .none h1 rfl rfl aO bu hx rfl ?_;intro b22 o22 hc22
  refine .z 4 rfl (zfa bK) ?_
  refine .r (i:=5) hs rfl aq .none (aW rfl ae (hc22.get 0 rfl)) ?_
  refine .z 6 rfl (zfa dZ) ?_;refine .y 7 rfl hs ae ?_;refine .z 8 rfl gj ?_;refine .z 9 rfl zg ?_;refine .D hs ?_
  refine (.bH rfl (fun hc18=>?_) (fun hc18=>?_))
  ·refine .aj (.z (zfa cq) (.y hs (zld dV) (.z zm ?_)))
   refine .ixX (enc:=Fbd.c) hs h1 rfl rfl aO bu hx rfl ?_;intro b31 o31 hc31
   refine .z (zfa dv) ?_
   refine .q hs (aW rfl ae (hc31.get 1 rfl)) ?_
   refine .z zg (.z zg (.nil ?_))
   refine .ret (rB (rT (Fin.iq Tryz.results102 rfl rfl ?_)))
   exact ⟨_,_,rfl,.at_ hk' hc18,hs.out⟩
  ·refine .aj (.z zm (.z gj (.z zg (.nil ?_))))
   refine (.bH rfl (fun hc34=>?_) (fun hc34=>?_))
   ·refine .aj (.z zg (.z zg (.nil ?_)))
    refine .ret (rB (rT (Fin.iq Tryz.results102 rfl rfl ?_)))
    obtain rfl:k=0:=by omega
    exact ⟨_,_,rfl,.none (fun i hi h=>by
     by_cases e:i=0
     ·subst e;exact hc18 h
     ·have:=hr (show 0<i by omega) hi;have:=hbig 0 hk' ak;omega) (fun i hi h0 h=>by have:=hbig (i - 1) ak ak;omega),hs.out⟩
   ·refine .skip ?_
    refine nB (nT ?_)
    refine .cut (fun fs w=>∃b5 b6,kJ fs ⟨69,[],[(6,.pointer (some ⟨b6,0,none⟩)),(5,.pointer (some ⟨b5,0,none⟩)),(1,.pointer (some ⟨b1,0,none⟩))]⟩∧St H w (.blk b6 (fb0 l.table k).c:: .blk b5 (fb0 l.table (k - 1)).c:: .blk b1 [I l.length,I l.depth,.slice at_ l.table.length ct,vs]::σ)) ?_ ?_
    ·refine .draw mix rfl hs fun w hs=>?_
     refine .z 0 rfl (zfa cq) ?_;refine .y 1 rfl hs dV ?_;refine .z 2 rfl zm ?_;refine .z 3 rfl gM ?_
     refine .ixX (enc:=Fbd.c) (i:=4) hs rfl aq .none h1 rfl rfl aO bu hx1 ak ?_;intro b41 o41 hc41
     refine .r (i:=5) hs rfl aq .none (bY (vs:=(fb0 l.table (k - 1)).c) rfl Tryz.isAgg134 bu hc41) ?_
     refine .z 6 rfl (zfa cq) ?_;refine .y 7 rfl hs dV ?_;refine .z 8 rfl zm ?_
     refine .ixX (enc:=Fbd.c) (i:=9) hs rfl aq .none h1 rfl rfl aO bu hx rfl ?_;intro b46 o46 hc46
     refine .r (i:=10) hs rfl aq .none (bY (vs:=(fb0 l.table k).c) rfl Tryz.isAgg134 bu hc46) ?_
     refine .e2 (i:=11) (j:=12) aq rfl rfl rfl rfl .none .none hs ?_ ?_
     ·refine .alloc hs gR rfl ?_;intro b5 w hs
      refine .go ?_
      refine .E 12 hs ?_
      refine .alloc hs gR rfl ?_;intro b6 w hs
      refine .go ?_
      refine .E 13 hs ?_
      refine .aP (vs:=(fb0 l.table (k - 1)).c) hs rfl rfl bu ?_;intro w hs
      refine .go ?_
      refine .E 14 hs ?_
      refine .aP (vs:=(fb0 l.table k).c) hs rfl rfl bu ?_;intro w hs
      refine .go ?_
      refine .D hs ?_
      exact nT ⟨b5,b6,bj,hs.sb⟩
     ·refine .alloc hs gR rfl ?_;intro b6 w hs
      refine .go ?_
      refine .E 11 hs ?_
      refine .alloc hs gR rfl ?_;intro b5 w hs
      refine .go ?_
      refine .E 13 hs ?_
      refine .aP (vs:=(fb0 l.table (k - 1)).c) hs rfl rfl bu ?_;intro w hs
      refine .go ?_
      refine .E 14 hs ?_
      refine .aP (vs:=(fb0 l.table k).c) hs rfl rfl bu ?_;intro w hs
      refine .go ?_
      refine .D hs ?_
      exact nT ⟨b5,b6,bj,hs.sb⟩
    ·rintro fs w ⟨b5,b6,hfs,hs⟩
     refine WE.sub ?_ hfs
     clear hfs
     change St _ _ (.blk b6 [I (fb0 l.table k).len,I (fb0 l.table k).least]:: .blk b5 [I (fb0 l.table (k - 1)).len,I (fb0 l.table (k - 1)).least]::_) at hs
     have h3:=hsml (k - 1) ak
     have h4:l.length<(fb0 l.table k).len:=by have:=hbig k hk' (Nat.le_refl _);omega
     have hX:=Dk hl hk' h3 h4
     have a1:=hl.table (k - 1) ak
     have a2:=a1.len
     have a3:=a1.least
     have b2:=(hl.table k hk').len
     have b3:=(hl.table k hk').least
     have hL:=hl.length
     refine .seq (.draw mix rfl hs fun w hs=>?_)
     refine .z 0 rfl (zfa dv) ?_;refine .y 1 rfl hs ae ?_;refine .z 2 rfl (zfa dv) ?_;refine .y 3 rfl hs ae ?_;refine .z 4 rfl gM ?_;refine .z 5 rfl (zfa dZ) ?_;refine .y 6 rfl hs ae ?_;refine .z 7 rfl (zfa bK) ?_;refine .y 8 rfl hs ae ?_;refine .z 9 rfl gM ?_
     refine .z 10 rfl lz ?_;refine .z 11 rfl (zfa bK) ?_;refine .y 12 rfl hs ae ?_;refine .z 13 rfl (zfa bK) ?_;refine .y 14 rfl hs ae ?_;refine .z 15 rfl gM ?_;refine .z 18 rfl (zfa dv) ?_;refine .y 19 rfl hs ae ?_
     refine .E 16 hs ?_
     refine .call Tryz.call140 rfl (pb hs ak ak) ?_;rintro _ w ⟨rfl,hs⟩
     refine .go ?_
     refine .z 17 rfl Ea ?_;refine .z 20 rfl cP ?_;refine .z 21 rfl zg ?_;refine .z 22 rfl zg ?_;refine .D hs ?_
     refine .ret (Fin.iq Tryz.results102 rfl rfl ?_)
     have hmid:=ub.mid hk' ak h3 h4
     unfold y8 at hmid
     exact ⟨_,_,rfl,(by rw [show ∀a b:Int,-a+b=b - a from fun a b=>by omega];exact hmid),hs.out⟩
theorem pU{l:Lns}{vt vs:Value}(hs:St H w σ)(h1:RFb H vt l.table)(h2:RSn H vs l.seasons):
  Cl Tryz.prog 37 [.agg #[I l.length,I l.depth,vt,vs]] w fun u w'=>∃n e,u= .tuple #[I n,I e]∧xY l n e∧St H w' σ:=by
 refine Cl.o Tryz.func37 Tryz.ntmps37 ag1 ?_
 refine .aj ?_
 refine .bx hs fun b1 w hs=>?_
 refine .z zg (.z zg (.nil (.seq (.aj (.y hs (zls [_,_,_,_] bn aM) ?_)))))
 refine .o (.call Tryz.call19 rfl (fZ hs h1 h2) ?_);rintro _ w ⟨e,rfl,he,hs⟩
 refine .z zg (.nil (.aj (.z zm (.z gS (.nil ?_)))))
 refine (.ek rfl (fun hc10=>?_) (fun hc10=>?_))
 ·refine .aj (.z zm (.z zg (.z zg (.nil ?_))))
  refine .ret (rT (Fin.iq Tryz.results37 rfl rfl ?_))
  have h:=he.resolve_left fun h=>hc10 h.2
  exact ⟨_,_,rfl,by rw [h.2];exact .lines h.1,hs.out⟩
 ·refine .skip ?_
  refine nT ?_
  refine .aj (.y hs (zls [_,_,_,_] bn aM) ?_)
  have hok:gG l:=(he.resolve_right fun h=>by omega).1
  refine .o (.call Tryz.call102 rfl (jm hs h1 hok) ?_);rintro _ w ⟨n,b,rfl,hF,hs⟩
  refine .z zm (.z zex (.z zex (.z zg (.z zg (.nil (.seq (.aj (.z zm (.z fW ?_)))))))))
  refine .nil ?_
  refine (.cond rfl (fun hc18=>?_) (fun hc18=>?_))
  ·refine .aj (.z zg (.z zg (.nil ?_)))
   refine .ret (rT (Fin.iq Tryz.results37 rfl rfl ?_))
   obtain rfl:b=false:=by simpa using hc18
   exact ⟨_,_,rfl,.none hok hF,hs.out⟩
  ·refine .skip ?_
   refine nT ?_
   refine .aj (.z zm (.z zg (.z zg (.nil ?_))))
   refine .ret (Fin.iq Tryz.results37 rfl rfl ?_)
   obtain rfl:b=true:=by simpa using hc18
   exact ⟨_,_,rfl,.ok hok hF,hs.out⟩
theorem nK{d:Int}(hs:St H w σ)(h:0≤d):Cl Tryz.prog 106 [I d] w fun v w'=>v=I (1+d%365)∧St H w' σ:=by
 have e:d.tmod 365=d%365:=Int.tmod_eq_emod_of_nonneg h
 refine Cl.o Tryz.func106 Tryz.ntmps106 ag1 ?_
 refine .aj (.z zg (.nil (.aj (.z zm (.z AA ?_)))))
 rw [e]
 refine .z cP (.z zg (.nil ?_))
 refine .ret (Fin.bE Tryz.results106 rfl ?_)
 exact ⟨rfl,hs⟩
theorem vM{s:Ssn}{d:Int}(hs:St H w σ):Cl Tryz.prog 159 [.agg #[I s.zone,I s.fr,I s.to,I s.extra],I d] w fun v w'=>v= .bool (decide (tv s d))∧St H w' σ:=by
 refine Cl.o Tryz.func159 Tryz.ntmps159 ag2 ?_
 refine .aj ?_
 refine .bx hs fun b2 w hs=>?_
 refine .z zg (.nil (.seq (.aj (.z (zfa ew) (.y hs (zld ae) (.z (zfa eu) (.y hs (zld ae) (.z mI (.nil ?_)))))))))
 refine (.bH rfl (fun hc9=>?_) (fun hc9=>?_))
 ·refine .aj (.z zm (.z (zfa ew) (.y hs (zld ae) (.z uc (.z zm ?_)))))
  refine .iW (t':=14) rfl (fun hb14=>?_) (fun hb14=>?_)
  ·refine .gFs 4 4 false rfl rfl rfl ?_
   refine .z zpT (.z zg (.nil ?_))
   refine .ret (rT (Fin.bE Tryz.results159 rfl ?_))
   refine ⟨?_,hs.out⟩
   congr 1
   have e:¬s.fr≤s.to:=by omega
   simp only [tv,if_neg e]
   symm
   simp [*]
  ·refine .gT rfl rfl ?_
   refine .z zm ?_
   refine .gT rfl rfl ?_
   refine .z (zfa eu) ?_
   refine .gT rfl rfl ?_
   refine .y hs (zld ae) ?_
   refine .gT rfl rfl ?_
   refine .z oF (.z zpF (.z zg (.nil ?_)))
   refine .ret (rT (Fin.bE Tryz.results159 rfl ?_))
   refine ⟨?_,hs.out⟩
   congr 1
   have e:¬s.fr≤s.to:=by omega
   simp only [tv,if_neg e]
   simp [*]
 ·refine .skip ?_
  refine nT ?_
  refine .aj (.z zm (.z (zfa ew) (.y hs (zld ae) (.z (zfa eu) (.y hs (zld ae) ?_)))))
  refine .o (.call eC rfl (bZ hs) ?_);rintro _ w ⟨rfl,hs⟩
  refine .z zg (.nil ?_)
  refine .ret (Fin.bE Tryz.results159 rfl ?_)
  refine ⟨?_,hs.out⟩
  congr 1
  have e:s.fr≤s.to:=by omega
  simp only [tv,if_pos e]
theorem nJ{l:Lns}{vt vs:Value}{z d:Int}(hs:St H w σ)(h2:RSn H vs l.seasons)(hl:gG l):
  Cl Tryz.prog 105 [.agg #[I l.length,I l.depth,vt,vs],I z,I d] w fun v w'=>v=I (iL l.seasons z d)∧St H w' σ:=by
 obtain ⟨as_,cs,rfl⟩:=h2.shape
 have hm:=hl.most
 refine Cl.o Tryz.func105 Tryz.ntmps105 ag3 ?_
 refine .aj ?_
 refine .bx hs fun b3 w hs=>?_
 refine .z zg (.nil (.aj (.z zg (.nil (.seq (.aj (.z (zfa cK) (.y hs (zld eh) (.z (dp bp) ?_)))))))))
 refine .z zm (.nil ?_)
 refine .for (N:=l.seasons.length) (J:=fun k fr w=>fr=[(7,I (iL (l.seasons.take k) z d)),(11,.slice as_ l.seasons.length cs),(1,I z),(2,I d)]∧St H w σ) ak ?_ ?_ ?_
 ·exact .mk ⟨rfl,hs.out⟩
 ·rintro k fr w hk ⟨rfl,hs⟩
  obtain ⟨s,hx⟩:=nth hk
  have hE:=pZ (l.seasons.take k) s z d
  rw [←dh hx] at hE
  refine .block (.aj ?_)
  refine .ixX (enc:=Ssn.c) hs h2 rfl rfl bp ck hx de ?_;intro b15 o15 hc15
  refine .q hs (bY (vs:=(Ssn.c s)) rfl HB ck hc15) ?_
  refine .o (.alloc hs oX rfl fun b9 w hs=>?_)
  refine .o (.aP (vs:=s.c) hs rfl rfl ck fun w hs=>?_)
  change St _ _ (.blk b9 [I s.zone,I s.fr,I s.to,I s.extra]::_) at hs
  refine .nil (.aj (.z (zfa iE) (.y hs (zld ae) (.z zm (.z gj (.z zm ?_))))))
  refine .iW (t':=21) rfl (fun hb21=>?_) (fun hb21=>?_)
  ·refine .gT rfl rfl ?_
   refine .y hs (zls [_,_,_,_] HB ck) ?_
   refine .gT rfl rfl ?_
   refine .z zm ?_
   refine .gT rfl rfl ?_
   refine .o (.call Tryz.call159 rfl (vM (s:=s) hs) ?_);rintro _ w ⟨rfl,hs⟩
   refine .z zpT (.nil ?_)
   refine (.cond rfl (fun hc25=>?_) (fun hc25=>?_))
   ·refine .region (.z zm (.z (zfa iD) (.y hs (zld ae) (.z Cb (.z zg (.nil ?_))))))
    refine nB (nT ?_)
    rw [if_pos ⟨by assumption,by simpa using hc25⟩] at hE
    exact .mk ⟨by rw [hE],hs.out⟩
   ·refine .skip ?_
    refine nB (nT ?_)
    rw [if_neg (fun h=>of_decide_eq_false hc25 h.2)] at hE
    exact .mk ⟨by rw [hE],hs.out⟩
  ·refine .gFs 3 4 true rfl rfl rfl ?_
   refine .z zpF (.nil ?_)
   refine (.cF ?_)
   refine .skip ?_
   refine nB (nT ?_)
   rw [if_neg (fun h=>by have:=h.1;contradiction)] at hE
   exact .mk ⟨by rw [hE],hs.out⟩
 ·rintro fr w ⟨rfl,hs⟩
  rw [List.take_length]
  refine nT ?_
  refine .aj (.z zm (.z zg (.nil ?_)))
  refine .ret (Fin.bE Tryz.results105 rfl ?_)
  exact ⟨rfl,hs⟩
theorem qM{l:Lns}{vt vs:Value}{z d:Int}(hs:St H w σ)(h1:RFb H vt l.table)(h2:RSn H vs l.seasons):
  Cl Tryz.prog 104 [.agg #[I l.length,I l.depth,vt,vs],I z,I d] w fun v w'=>∃e,v=I e∧Ax l z d e∧St H w' σ:=by
 refine Cl.o Tryz.func104 Tryz.ntmps104 ag3 ?_
 refine .aj ?_
 refine .bx hs fun b3 w hs=>?_
 refine .z zg (.nil (.seq (.aj (.y hs (zls [_,_,_,_] bn aM) ?_))))
 refine .o (.call Tryz.call19 rfl (fZ hs h1 h2) ?_);rintro _ w ⟨e,rfl,he,hs⟩
 refine .z zg (.nil (.aj (.z zm (.z gS (.nil ?_)))))
 refine (.ek rfl (fun hc11=>?_) (fun hc11=>?_))
 ·refine .aj (.z zm (.z zg (.nil ?_)))
  refine .ret (rT (Fin.bE Tryz.results104 rfl ?_))
  have h:=he.resolve_left fun h=>hc11 h.2
  exact ⟨_,rfl,by rw [h.2];exact .lines h.1,hs.out⟩
 ·refine .skip ?_
  refine nT ?_
  refine .seq (.block (.aj ?_))
  have hok:gG l:=(he.resolve_right fun h=>by omega).1
  refine .z zm ?_
  refine .o (.call Tryz.call73 rfl (kg hs) ?_);rintro _ w ⟨rfl,hs⟩
  refine .z fW (.z zg (.nil ?_))
  refine (.cond rfl (fun hc13=>?_) (fun hc13=>?_))
  ·refine .aj (.z zg (.nil ?_))
   refine .ret (rB (rT (Fin.bE Tryz.results104 rfl ?_)))
   exact ⟨_,rfl,.zone hok (by simp at hc13;omega),hs.out⟩
  ·refine .aj (.z zm ?_)
   refine .o (.call eC rfl (bZ hs) ?_);rintro _ w ⟨rfl,hs⟩
   refine .z fW (.z zg (.nil ?_))
   refine (.cond rfl (fun hc17=>?_) (fun hc17=>?_))
   ·refine .aj (.z zg (.nil ?_))
    refine .ret (rB (rT (Fin.bE Tryz.results104 rfl ?_)))
    exact ⟨_,rfl,.day hok (by simpa using hc13) (by simp at hc17;omega),hs.out⟩
   ·refine .skip ?_
    refine nB (nT ?_)
    refine .aj (.z zg (.nil ?_))
    refine .ret (Fin.bE Tryz.results104 rfl ?_)
    exact ⟨_,rfl,.ok hok (by simpa using hc13) (by simpa using hc17),hs.out⟩
theorem mQ{l:Lns}{vt vs:Value}{z d:Int}(hs:St H w σ)(h1:RFb H vt l.table)(h2:RSn H vs l.seasons):
  Cl Tryz.prog 41 [.agg #[I l.length,I l.depth,vt,vs],I z,I d] w fun u w'=>∃n e,u= .tuple #[I n,I e]∧B7 l z d n e∧St H w' σ:=by
 refine Cl.o Tryz.func41 Tryz.ntmps41 ag3 ?_
 refine .aj ?_
 refine .bx hs fun b3 w hs=>?_
 refine .z zg (.z zg (.nil (.seq (.aj (.y hs (zls [_,_,_,_] bn aM) (.z zm (.z zm ?_)))))))
 refine .o (.call Tryz.call104 rfl (qM hs h1 h2) ?_);rintro _ w ⟨e,rfl,he,hs⟩
 refine .z zg (.nil (.aj (.z zm (.z gS (.nil ?_)))))
 refine (.ek rfl (fun hc16=>?_) (fun hc16=>?_))
 ·refine .aj (.z zm (.z zg (.z zg (.nil ?_))))
  refine .ret (rT (Fin.iq Tryz.results41 rfl rfl ?_))
  exact ⟨_,_,rfl,.bad he hc16,hs.out⟩
 ·refine .skip ?_
  refine nT ?_
  refine .aj (.y hs (zls [_,_,_,_] bn aM) ?_)
  obtain rfl:e=0:=by omega
  obtain ⟨hok,hz,hd⟩:=he.zero
  refine .o (.call Tryz.call102 rfl (jm hs h1 hok) ?_);rintro _ w ⟨n,b,rfl,hF,hs⟩
  refine .z zm (.z zex (.z zex (.z zg (.z zg (.nil (.seq (.aj (.z zm (.z fW ?_)))))))))
  refine .nil ?_
  refine (.cond rfl (fun hc24=>?_) (fun hc24=>?_))
  ·refine .aj (.z zg (.z zg (.nil ?_)))
   refine .ret (rT (Fin.iq Tryz.results41 rfl rfl ?_))
   obtain rfl:b=false:=by simpa using hc24
   exact ⟨_,_,rfl,.none he hF,hs.out⟩
  ·refine .skip ?_
   refine nT ?_
   refine .seq (.draw mix rfl hs fun w hs=>?_)
   obtain rfl:b=true:=by simpa using hc24
   have hn:=hF.bd hok
   have hdp:=hok.depth
   have hE:=qV hok.seasons z (1+d%365)
   refine .z 0 rfl (zfa ia) ?_;refine .y 1 rfl hs ae ?_;refine .z 2 rfl zm ?_;refine .z 3 rfl gM ?_;refine .ys 4 rfl hs [_,_,_,_] bn aM ?_;refine .z 5 rfl zm ?_;refine .z 6 rfl zm ?_
   refine .E 7 hs ?_
   refine .call Tryz.call106 rfl (nK hs hd.1) ?_;rintro _ w ⟨rfl,hs⟩
   refine .go ?_
   refine .E 8 hs ?_
   refine .call Tryz.call105 rfl (nJ hs h2 hok) ?_;rintro _ w ⟨rfl,hs⟩
   refine .go ?_
   refine .z 9 rfl gM ?_;refine .z 10 rfl zg ?_;refine .z 11 rfl zg ?_;refine .D hs ?_
   refine .ret (Fin.iq Tryz.results41 rfl rfl ?_)
   exact ⟨_,_,rfl,.ok he hF,hs.out⟩
theorem se{s:Spc}{vst vwa:Value}{h:Int}{b c i:Nat}(hs:St H w (.blk c [I h]:: .blk b [I s.id,I s.src,vst,vwa,I s.al,I s.up]::σ))(h2:RI H vwa s.wa)(hi:i<s.wa.length)(hok:eI s):
  Cl Tryz.prog 166 [I (i:Int),.pointer (some ⟨b,0,none⟩),.pointer (some ⟨c,0,none⟩)] w fun u w'=>∃bb:Bool,u= .bool bb∧(bb=true↔h<gi s.wa i - gi s.wa 0)∧St H w' (.blk c [I h]:: .blk b [I s.id,I s.src,vst,vwa,I s.al,I s.up]::σ):=by
 obtain ⟨awa,cwa,rfl⟩:=RI.shape h2
 have b1:=hok.wa.bd hi
 have b2:=hok.wa.bd (i:=0) ak
 refine Cl.o Tryz.func166 Tryz.ntmps166 ag3 ?_
 refine .aj (.z zg (.nil ?_))
 refine .seq (.draw mix rfl hs fun w hs=>?_)
 refine .z 0 rfl (zfa a8) ?_;refine .y 1 rfl hs an ?_;refine .z 2 rfl zm ?_
 refine .ixX (enc:=fun x=>[I x]) (i:=3) hs rfl aq .none h2 rfl rfl af ai (bU (l:=s.wa) (i:=i) ak) de ?_;intro b8 o8 hc8;replace hc8:=cg.one hc8
 refine .r (i:=4) hs rfl aq .none (aW rfl ae hc8) ?_
 refine .z 5 rfl (zfa a8) ?_;refine .y 6 rfl hs an ?_
 refine .ixX (enc:=fun x=>[I x]) (i:=7) hs rfl aq .none h2 rfl rfl af ai (bU (l:=s.wa) (i:=0) ak) de ?_;intro b12 o12 hc12;replace hc12:=cg.one hc12
 refine .r (i:=8) hs rfl aq .none (aW rfl ae hc12) ?_
 refine .z 9 rfl gM ?_;refine .y 10 rfl hs ae ?_;refine .z 11 rfl mI ?_;refine .z 12 rfl zg ?_;refine .D hs ?_
 refine .ret (Fin.bE Tryz.results166 rfl ?_)
 exact ⟨_,rfl,cu,hs⟩
theorem nL{s:Spc}{vst vwa:Value}{h:Int}(hs:St H w σ)(h2:RI H vwa s.wa)(hok:eI s):
  Cl Tryz.prog 112 [.agg #[I s.id,I s.src,vst,vwa,I s.al,I s.up],I h] w fun u w'=>∃k,u=I k∧vH s.wa h k∧St H w' σ:=by
 obtain ⟨awa,cwa,rfl⟩:=RI.shape h2
 have hm:=hok.wa.many
 have hr:=fun {i j:Nat}=>hok.wa.le (i:=i) (j:=j)
 refine Cl.o Tryz.func112 Tryz.ntmps112 ag2 ?_
 refine .aj ?_
 refine .bx hs fun b2 w hs=>?_
 refine .bx hs fun b3 w hs=>?_
 refine .z zg (.nil (.aj (.z (zfa a8) (.y hs (zld an) (.z (dp af) ?_)))))
 refine .q hs (dz (f:=[]) (c:=[_,_]) rfl rfl) ?_
 refine .o (.call Tryz.call157 rfl (mJ (cap:=[.pointer (some ⟨b2,0,none⟩),.pointer (some ⟨b3,0,none⟩)]) (p:=fun i=>h<gi s.wa i - gi s.wa 0) hs ak Tryz.call166 (fun w i hi hs=>se hs h2 hi hok)) ?_);rintro _ w ⟨k,rfl,hk,hlo,hhi,hs⟩
 refine .z gM (.z zg (.nil ?_))
 refine .ret (Fin.bE Tryz.results112 rfl ?_)
 refine ⟨_,rfl,⟨ak,ak,fun i hi=>⟨fun g=>?_,fun g=>?_⟩⟩,hs.out⟩
 ·by_cases e:(i:Int)≤k - 1
  ·exact e
  ·have h3:=hhi ak
   have:=hr (show k≤i by omega) hi;omega
 ·have h3:=hlo ak
  have:=hr (show i≤k - 1 by omega) ak;omega
theorem vP{s:Spc}{l:Lns}{vst vwa vt vs:Value}{z d:Int}(hs:St H w σ)(g1:RI H vst s.st)(g2:RI H vwa s.wa)(h1:RFb H vt l.table)(h2:RSn H vs l.seasons):
  Cl Tryz.prog 45 [.agg #[I s.id,I s.src,vst,vwa,I s.al,I s.up],.agg #[I l.length,I l.depth,vt,vs],I z,I d] w fun u w'=>∃H1 k e,HLe H H1∧u= .tuple #[I k,I e]∧u9 s l z d k e∧St H1 w' σ:=by
 refine Cl.o Tryz.func45 Tryz.ntmps45 ag4 ?_
 refine .aj ?_
 refine .bx hs fun b4 w hs=>?_
 refine .bx hs fun b5 w hs=>?_
 refine .z zg (.z zg (.nil (.seq (.aj (.y hs (zls [_,_,_,_,_,_] aV aH) ?_)))))
 refine .o (.call Tryz.call111 rfl (fa (s:=s) hs g1 g2) ?_);rintro _ w ⟨H1,e,hle1,rfl,he,hs⟩
 refine .z zg (.nil (.aj (.z zm (.z gS (.nil ?_)))))
 refine (.ek rfl (fun hc17=>?_) (fun hc17=>?_))
 ·refine .aj (.z zm (.z zg (.z zg (.nil ?_))))
  refine .ret (rT (Fin.iq Tryz.results45 rfl rfl ?_))
  have h:=he.resolve_left fun h=>hc17 h.2
  exact ⟨H1,_,_,hle1,rfl,by rw [h.2];exact .space h.1,hs.out⟩
 ·refine .skip ?_
  refine nT ?_
  refine .aj (.y hs (zls [_,_,_,_] bn aM) (.z zm (.z zm ?_)))
  have hok:eI s:=(he.resolve_right fun h=>by omega).1
  refine .o (.call Tryz.call41 rfl (mQ hs (h1.mono hle1) (h2.mono hle1)) ?_);rintro _ w ⟨h,f,rfl,hH,hs⟩
  refine .z zm (.z zex (.z zex (.z zg (.z zg (.nil (.seq (.aj (.z zm (.z gS ?_)))))))))
  refine .nil ?_
  refine (.ek rfl (fun hc27=>?_) (fun hc27=>?_))
  ·refine .aj (.z zm (.z zg (.z zg (.nil ?_))))
   refine .ret (rT (Fin.iq Tryz.results45 rfl rfl ?_))
   exact ⟨H1,_,_,hle1,rfl,.bad hok hH hc27,hs.out⟩
  ·refine .skip ?_
   refine nT ?_
   refine .seq (.aj (.y hs (zls [_,_,_,_,_,_] aV aH) (.z zm ?_)))
   obtain rfl:f=0:=by omega
   refine .o (.call Tryz.call112 rfl (nL (s:=s) hs (g2.mono hle1) hok) ?_);rintro _ w ⟨k,rfl,hB,hs⟩
   refine .z zg (.nil (.aj (.z zm (.z uc (.nil ?_)))))
   refine (.bH rfl (fun hc33=>?_) (fun hc33=>?_))
   ·refine .aj (.z zm (.z zg (.z zg (.nil ?_))))
    refine .ret (rT (Fin.iq Tryz.results45 rfl rfl ?_))
    exact ⟨H1,_,_,hle1,rfl,.ok hok hH hB hc33,hs.out⟩
   ·refine .skip ?_
    refine nT ?_
    refine .aj (.z zg (.z zg (.nil ?_)))
    refine .ret (Fin.iq Tryz.results45 rfl rfl ?_)
    have hk:=hB.low
    obtain rfl:k= -1:=by omega
    exact ⟨H1,_,_,hle1,rfl,.above hok hH hB,hs.out⟩
def vQ(x:Lg):List (List Value):=(List.range (kl x)).map fun j=>[I (1+(x.fr+(j:Nat))%365)]
theorem oh(x:Lg):(vQ x).length=kl x:=by simp [vQ]
theorem zi{x:Lg}{j:Nat}(h:j<(vQ x).length):(vQ x)[j]=[I (1+(x.fr+j)%365)]:=by simp [vQ]
theorem tj{H:bV}{b:Nat}{x:Lg}(hb:Row H b [I x.zone,I x.fr,I x.to,I x.dlo,I x.dhi,I x.blo,I x.bhi])(hx:yd x):
  Iter Tryz.prog 218 [.pointer (some ⟨b,0,none⟩)] H (vQ x):=by
 intro ly II Ix hmI _ hy H0 σb0 σf w hle hI0 hs
 have g1:cellAt H0 b 1=some (I x.fr):=cellAt.mono (hb.at 1) hle
 have hd:=qX hx
 have hdn:(kl x:Int)=min x.to (x.fr+364) - x.fr+1:=by have:=hx.fr;unfold kl;omega
 have hf:=hx.fr
 have ht:=hx.to
 refine Cl.o Tryz.func218 Tryz.ntmps218 ag2 ?_
 refine .aj (.z (zfa fi) (.y hs (zld ae) (.z zg (.nil (.block ?_)))))
 refine .loop (fun j:Nat=>⟨22,[],[(3,I (x.fr+(j:Int))),(0,.func (.yield ly) #[] #[]),(1,.pointer (some ⟨b,0,none⟩))]⟩)
  (fun j w=>j≤kl x∧∃H1 σb,HLe H H1∧HLe H0 H1∧II j H1 σb∧St H1 w (σb++σf)) (fun j=>kl x - j) 0 (.cons (by show some (I _)=some (I _);congr 2;omega) bj)
  ⟨Nat.zero_le _,H0,σb0,hle,HLe.refl _,hI0,hs⟩ ?_
 rintro j w ⟨hj,H1,σb,hle1,hle0,hI,hs⟩
 have h1:cellAt H1 b 1=some (I x.fr):=cellAt.mono (hb.at 1) hle1
 have h2:cellAt H1 b 2=some (I x.to):=cellAt.mono (hb.at 2) hle1
 refine .seq (.aj (.z zm (.z (zfa fh) (.y hs (zld ae) (.z (zfa fi) (.y hs (zld ae) (.z cP (.z gM (.z Bk ?_)))))))))
 refine .z oF (.nil ?_)
 refine (.bH rfl (fun hc14=>?_) (fun hc14=>?_))
 ·refine .skip ?_
  refine nT ?_
  refine .seq (.block (.aj (.z zm (.z zm ?_))))
  refine .o (.call Tryz.call106 rfl (nK hs ak) ?_);rintro _ w ⟨rfl,hs⟩
  have hk':j<(vQ x).length:=by rw [oh];omega
  have hyd:=hy j hk' H1 σb σf w hle1 hI hs
  rw [zi hk'] at hyd
  refine .o (.yield rfl rfl hyd ?_);rintro v20 w ⟨H5,σ5,g1,hs,g3'⟩
  obtain ⟨bb,rfl,gT,gF⟩:=nv g3'
  refine .z fW (.nil ?_)
  refine (.cond rfl (fun hc21=>?_) (fun hc21=>?_))
  ·refine .ret (rB (rT (rT (rB (Fin.Hn Tryz.results218 ?_)))))
   exact ⟨H5,σ5,hle0.trans g1,hs,.inr (gF (by simpa using hc21))⟩
  ·refine .skip ?_
   refine nB (nT ?_)
   refine .region (.z zm (.z cP (.z zg (.nil ?_))))
   refine nT ?_
   exact ⟨j+1,.cons (by show some (I _)=some (I _);congr 2;omega) bj,⟨ak,H5,σ5,hle1.trans g1,hle0.trans g1,gT (by simpa using hc21),hs⟩,ak⟩
 ·refine .exit ?_
  refine xT (xT (xB ?_))
  obtain rfl:j=kl x:=by omega
  exact Fin.zh Tryz.results218 ⟨H1,σb,hle0,hs,.inl (by rw [oh];exact hI)⟩
theorem vN{x:Lg}(hs:St H w σ)(hx:yd x):
  Cl Tryz.prog 169 [.agg #[I x.zone,I x.fr,I x.to,I x.dlo,I x.dhi,I x.blo,I x.bhi]] w fun u w'=>∃H1 b,HLe H H1∧u= .func (.func 218) #[] #[.pointer (some ⟨b,0,none⟩)]∧Iter Tryz.prog 218 [.pointer (some ⟨b,0,none⟩)] H1 (vQ x)∧St H1 w' σ:=by
 refine Cl.o Tryz.func169 Tryz.ntmps169 ag1 ?_
 refine .aj ?_
 refine .bx hs fun b1 w hs=>?_
 refine .z zg (.nil (.aj ?_))
 refine .q hs (dz (f:=[]) (c:=[_]) rfl rfl) ?_
 refine .z zg (.nil ?_)
 refine .ret (Fin.bE Tryz.results169 rfl ?_)
 obtain ⟨H1,g1,g2,hs⟩:=hs.cV .here
 exact ⟨H1,b1,g1,rfl,tj g2 hx,hs⟩
set_option maxHeartbeats 1000000 in
theorem mN{s:Spc}{l:Lns}{x:Lg}{vst vwa vt vs:Value}(hs:St H w σ)(g2:RI H vwa s.wa)(h1:RFb H vt l.table)(h2:RSn H vs l.seasons)(hsp:eI s)(hl:gG l)(hx:yd x):
  Cl Tryz.prog 115 [.agg #[I s.id,I s.src,vst,vwa,I s.al,I s.up],.agg #[I l.length,I l.depth,vt,vs],.agg #[I x.zone,I x.fr,I x.to,I x.dlo,I x.dhi,I x.blo,I x.bhi]] w fun u w'=>∃H1 k e,HLe H H1∧u= .tuple #[I k,I e]∧vG s.wa l x k e∧St H1 w' σ:=by
 refine Cl.o Tryz.func115 Tryz.ntmps115 ag3 ?_
 refine .aj ?_
 refine .bx hs fun b3 w hs=>?_
 refine .bx hs fun b4 w hs=>?_
 refine .bx hs fun b5 w hs=>?_
 refine .z zg (.z zg (.nil (.aj (.y hs (zls [_,_,_,_] bn aM) ?_))))
 refine .o (.call Tryz.call102 rfl (jm hs h1 hl) ?_);rintro _ w ⟨n,b,rfl,hF,hs⟩
 refine .z zm (.z zex (.z zex (.z zg (.z zg (.nil (.seq (.aj (.z zm (.z fW ?_)))))))))
 refine .nil ?_
 refine (.cond rfl (fun hc19=>?_) (fun hc19=>?_))
 ·refine .aj (.z zg (.z zg (.nil ?_)))
  refine .ret (rT (?_))
  obtain rfl:b=false:=by simpa using hc19
  exact Fin.iq Tryz.results115 rfl rfl ⟨H,_,_,HLe.refl H,rfl,.none hF,hs.out⟩
 ·refine .skip ?_
  refine nT ?_
  refine .aj ?_
  refine .o (.alloc hs cB rfl fun b10 w hs=>?_)
  refine .o (.store hs rfl rfl ai fun w hs=>?_)
  refine .nil (.seq (.aj (.y hs (zls [_,_,_,_,_,_,_] dU aK) ?_)))
  obtain rfl:b=true:=by simpa using hc19
  have hn:=hF.bd hl
  have hdp:=hl.depth
  refine .o (.call Tryz.call169 rfl (vN hs hx) ?_);rintro _ w ⟨H1,bd,hle1,rfl,hit,hs⟩
  refine .nil (.block ?_)
  refine .rangeFunc (gf:=218) (cap:=[.pointer (some ⟨bd,0,none⟩)]) (xs:=vQ x) (σb:=[.blk b10 [I 0],.blk b5 [I x.zone,I x.fr,I x.to,I x.dlo,I x.dhi,I x.blo,I x.bhi],.blk b4 [I l.length,I l.depth,vt,vs],.blk b3 [I s.id,I s.src,vst,vwa,I s.al,I s.up]]) (σf:=σ) hs trivial rfl hit Tryz.call218 (fun y hy=>by
    simp only [vQ,List.mem_map] at hy
    obtain ⟨j,_,rfl⟩:=hy;rfl) rfl
   (I:=fun p H' σb=>σb=[.blk b10 [I (lj l.seasons x.zone x.fr p)],.blk b5 [I x.zone,I x.fr,I x.to,I x.dlo,I x.dhi,I x.blo,I x.bhi],.blk b4 [I l.length,I l.depth,vt,vs],.blk b3 [I s.id,I s.src,vst,vwa,I s.al,I s.up]]) (Ix:=fun _ _ _=>False)
   (fun j _ _ σ g1 g2=>g2) (fun _ _ _ _ _ h=>h) rfl ?_ ?_ (fun D c H' σb w _ h _=>h.elim)
  ·rintro ly p hp H2 σb2 σf2 w hle2 rfl hs ⟨rr,hrr⟩
   rw [zi hp]
   refine .region (.z zg (.nil ?_))
   refine nT ?_
   refine ⟨H2,_,HLe.refl _,hs,?_⟩;rintro w σf4 - hs
   replace hs:St H2 w (.blk b10 [I (lj l.seasons x.zone x.fr p)]:: .blk b5 [I x.zone,I x.fr,I x.to,I x.dlo,I x.dhi,I x.blo,I x.bhi]:: .blk b4 [I l.length,I l.depth,vt,vs]:: .blk b3 [I s.id,I s.src,vst,vwa,I s.al,I s.up]::σf4):=hs
   refine .block ?_
   refine .draw mix rfl hs fun w hs=>?_
   refine .y 0 rfl hs ae ?_;refine .ys 1 rfl hs [_,_,_,_] bn aM ?_;refine .z 2 rfl (zfa j9) ?_;refine .y 3 rfl hs ae ?_;refine .z 4 rfl zm ?_
   refine .E 5 hs ?_
   refine .call Tryz.call105 rfl (nJ hs (h2.mono (hle1.trans hle2)) hl) ?_;rintro _ w ⟨rfl,hs⟩
   refine .go ?_
   refine .z 6 rfl Cb ?_
   refine .E 7 hs ?_
   refine .store hs rfl rfl ai ?_;intro w hs
   refine .go ?_
   refine .D hs ?_
   refine nB ?_
   exact ⟨H2,_,HLe.refl _,hs,rfl⟩
  ·rintro D H2 σb2 w hle2 rfl hs
   rw [oh] at hs
   have hle02:=hle1.trans hle2
   have hE:=AR hl.seasons x.zone x.fr (kl x)
   replace hs:St H2 w (.obj D (.deferred (some [])):: .blk b10 [I (lj l.seasons x.zone x.fr (kl x))]:: .blk b5 [I x.zone,I x.fr,I x.to,I x.dlo,I x.dhi,I x.blo,I x.bhi]:: .blk b4 [I l.length,I l.depth,vt,vs]:: .blk b3 [I s.id,I s.src,vst,vwa,I s.al,I s.up]::σ):=hs
   refine nB (nT ?_)
   refine .seq (.aj (.y hs (zls [_,_,_,_,_,_] aV aH) (.z (zfa ia) (.y hs (zld ae) (.z zm (.z gM (.y hs (zld ae) (.z gM ?_))))))))
   refine .o (.call Tryz.call112 rfl (nL (s:=s) hs (g2.mono hle02) hsp) ?_);rintro _ w ⟨k,rfl,hB,hs⟩
   refine .z zg (.nil (.aj (.z zm (.z uc (.nil ?_)))))
   refine (.bH rfl (fun hc39=>?_) (fun hc39=>?_))
   ·refine .aj (.z zm (.z zg (.z zg (.nil ?_))))
    refine .ret (rT (?_))
    exact Fin.iZ [D] [] hs fun w hs=>⟨_,results2 Tryz.results115 rfl rfl,H2,_,_,hle02,rfl,.ok hF hB hc39,hs.out⟩
   ·refine .skip ?_
    refine nT ?_
    refine .aj (.z zg (.z zg (.nil ?_)))
    refine .ret ?_
    have hk:=hB.low
    obtain rfl:k= -1:=by omega
    exact Fin.iZ [D] [] hs fun w hs=>⟨_,results2 Tryz.results115 rfl rfl,H2,_,_,hle02,rfl,.above hF hB,hs.out⟩
theorem tk{s:Spc}{l:Lns}{x:Lg}{vst vwa vt vs:Value}(hs:St H w σ)(g1:RI H vst s.st)(g2:RI H vwa s.wa)(h1:RFb H vt l.table)(h2:RSn H vs l.seasons):
  Cl Tryz.prog 47 [.agg #[I s.id,I s.src,vst,vwa,I s.al,I s.up],.agg #[I l.length,I l.depth,vt,vs],.agg #[I x.zone,I x.fr,I x.to,I x.dlo,I x.dhi,I x.blo,I x.bhi]] w fun u w'=>∃H1 k e,HLe H H1∧u= .tuple #[I k,I e]∧FJ s l x k e∧St H1 w' σ:=by
 refine Cl.o Tryz.func47 Tryz.ntmps47 ag3 ?_
 refine .aj ?_
 refine .bx hs fun b3 w hs=>?_
 refine .bx hs fun b4 w hs=>?_
 refine .bx hs fun b5 w hs=>?_
 refine .z zg (.z zg (.nil (.seq (.aj (.y hs (zls [_,_,_,_,_,_] aV aH) ?_)))))
 refine .o (.call Tryz.call111 rfl (fa (s:=s) hs g1 g2) ?_);rintro _ w ⟨H1,e,hle1,rfl,he,hs⟩
 refine .z zg (.nil (.aj (.z zm (.z gS (.nil ?_)))))
 refine (.ek rfl (fun hc13=>?_) (fun hc13=>?_))
 ·refine .aj (.z zm (.z zg (.z zg (.nil ?_))))
  refine .ret (rT (Fin.iq Tryz.results47 rfl rfl ?_))
  have h:=he.resolve_left fun h=>hc13 h.2
  exact ⟨H1,_,_,hle1,rfl,by rw [h.2];exact .space h.1,hs.out⟩
 ·refine .skip ?_
  refine nT ?_
  refine .seq (.aj (.y hs (zls [_,_,_,_] bn aM) ?_))
  have hok:eI s:=(he.resolve_right fun h=>by omega).1
  refine .o (.call Tryz.call19 rfl (fZ hs (h1.mono hle1) (h2.mono hle1)) ?_);rintro _ w ⟨e,rfl,he,hs⟩
  refine .z zg (.nil (.aj (.z zm (.z gS (.nil ?_)))))
  refine (.ek rfl (fun hc18=>?_) (fun hc18=>?_))
  ·refine .aj (.z zm (.z zg (.z zg (.nil ?_))))
   refine .ret (rT (Fin.iq Tryz.results47 rfl rfl ?_))
   have h:=he.resolve_left fun h=>hc18 h.2
   exact ⟨H1,_,_,hle1,rfl,by rw [h.2];exact .lines hok h.1,hs.out⟩
  ·refine .skip ?_
   refine nT ?_
   refine .seq (.aj (.y hs (zls [_,_,_,_,_,_,_] dU aK) ?_))
   have hl:gG l:=(he.resolve_right fun h=>by omega).1
   refine .o (.call Tryz.call75 rfl (nH (x:=x) hs) ?_);rintro _ w ⟨b,rfl,hb,hs⟩
   refine .z fW (.nil ?_)
   refine (.cond rfl (fun hc22=>?_) (fun hc22=>?_))
   ·refine .aj (.z zg (.z zg (.nil ?_)))
    refine .ret (rT (Fin.iq Tryz.results47 rfl rfl ?_))
    exact ⟨H1,_,_,hle1,rfl,.leg hok hl (fun h=>by rw [hb.2 h] at hc22;cases hc22),hs.out⟩
   ·refine .skip ?_
    refine nT ?_
    refine .aj (.y hs (zls [_,_,_,_,_,_] aV aH) (.y hs (zls [_,_,_,_] bn aM) (.y hs (zls [_,_,_,_,_,_,_] dU aK) ?_)))
    have hx:yd x:=hb.1 (by simpa using hc22)
    refine .o (.call Tryz.call115 rfl (mN (s:=s) (x:=x) hs (g2.mono hle1) (h1.mono hle1) (h2.mono hle1) hok hl hx) ?_);rintro _ w ⟨H2,k,e,hle2,rfl,hL,hs⟩
    refine .z zex (.z zex (.z zg (.z zg (.nil ?_))))
    refine .ret (Fin.iq Tryz.results47 rfl rfl ?_)
    exact ⟨H2,_,_,hle1.trans hle2,rfl,.go hok hl hx hL,hs.out⟩
theorem ux{v:Value}{l:List Rng}(hs:St H w σ)(hr:RRg H v l):Cl Tryz.prog 162 [v] w fun u w'=>RRg H u l∧St H w' σ:=by
 obtain ⟨a,c,rfl⟩:=hr.shape
 have hc:=RS.clip hr
 refine Cl.o Tryz.func162 Tryz.ntmps162 ag1 ?_
 refine .aj (.z zg (.nil (.aj (.z zm (.z zm (.z (dp ff) (.z zm (.z (dp ff) ?_))))))))
 refine .q hs (CH rfl rfl rfl ff aA (Nat.le_refl _) hc.1) ?_
 refine .z zg (.nil ?_)
 refine .ret (Fin.bE Tryz.results162 rfl ?_)
 exact ⟨hc.2,hs⟩
theorem mM{r:List Lg}{vr:Value}{m:Rng}(hs:St H w σ)(h1:RLg H vr r)(hr:u5 r)(hm:iM m.lo m.hi):
  Cl Tryz.prog 110 [.agg #[vr],.agg #[I m.lo,I m.hi]] w fun u w'=>∃H1,HLe H H1∧RRg H1 u (msL m r r.length)∧St H1 w' σ:=by
 obtain ⟨ar,cr,rfl⟩:=h1.shape
 have hn:=hr.many
 refine Cl.o Tryz.func110 Tryz.ntmps110 ag2 ?_
 refine .aj ?_
 refine .bx hs fun b2 w hs=>?_
 refine .bx hs fun b3 w hs=>?_
 refine .z zg (.nil (.aj (.y hs (zls [_,_] bD aA) ?_)))
 refine .o (.buildSlice (cells:=m.c) hs lN rfl aq fun b9 w hs=>?_)
 refine .z zg (.nil (.seq (.aj (.z (zfa bQ) (.y hs (zld cQ) (.z (dp aJ) (.z zm (.nil ?_))))))))
 refine .for (N:=r.length) (J:=fun k fr w=>∃vo en,fr=[(5,vo),(11,.slice ar r.length cr),(3,.pointer (some ⟨b3,0,none⟩))]∧cI 2 vo (rgc (msL m r k)).flatten en∧St H w (en:: .blk b3 [I (oM m r k).lo,I (oM m r k).hi]::σ)) ak ?_ ?_ ?_
 ·exact .mk ⟨_,.blk b9 m.c,rfl,.full rfl,hs.sb⟩
 ·rintro k fr w hk ⟨vo,en,rfl,hO,hs⟩
  have hx:=mu (l:=r) hk
  have hb:=C0 hm (fun i hi=>(hr.leg i hi).1) (i:=k) ak
  have hb2:=(hr.leg k hk).1.burn
  unfold iM at hb hb2
  have hml:=oB m r k
  obtain ⟨ao,co,rfl⟩:=hO.iU (Gz _) ak
  refine .block (.aj ?_)
  refine .ixX (enc:=Lg.c) hs h1 rfl rfl aJ aK hx de ?_;intro b15 o15 hc15
  refine .q hs (bY (vs:=(Lg.c (lg0 r k))) rfl dU aK hc15) ?_
  refine .o (.alloc hs dm rfl fun b7 w hs=>?_)
  refine .o (.aP (vs:=(lg0 r k).c) hs rfl rfl aK fun w hs=>?_)
  change St _ _ (.blk b7 [I (lg0 r k).zone,I (lg0 r k).fr,I (lg0 r k).to,I (lg0 r k).dlo,I (lg0 r k).dhi,I (lg0 r k).blo,I (lg0 r k).bhi]::_) at hs
  refine .nil (.aj (.z (zfa bX) (.y hs (zld ae) (.z (zfa fJ) (.z (zfa cJ) (.y hs (zld ae) (.z gM (.z Cb (.z (zfa cJ) ?_)))))))))
  refine .y hs (zld ae) (.z (zfa fJ) (.z (zfa bX) (.y hs (zld ae) (.z gM (.z Cb (.z (zbd [_,_] cz) ?_))))))
  refine .o (.aP (vs:=(oM m r (k+1)).c) hs rfl rfl aA fun w hs=>?_)
  change St _ _ (.blk b7 _::en:: .blk b3 [I (oM m r (k+1)).lo,I (oM m r (k+1)).hi]::σ) at hs
  refine .nil (.region (.z zm (.y hs (zls [_,_] bD aA) ?_)))
  refine .o (.buildSlice (cells:=(oM m r (k+1)).c) hs lN rfl aq fun b34 w hs=>?_)
  refine .o (.append (ys:=(oM m r (k+1)).c) hs lk rfl rfl hO (.own .here rfl rfl) (by simp [Rng.c,Value.oneCell']) (fun l h=>by rw [bT _ (Gz _),rP] at h;omega) ?_);intro v35 en35 w hO2 hs
  rw [←Ez,←E1] at hO2
  refine .z zg (.nil ?_)
  refine nB (nT ?_)
  exact .mk ⟨_,_,rfl,hO2,hs.sb⟩
 ·rintro fr w ⟨vo,en,rfl,hO,hs⟩
  obtain ⟨H1,hle1,hR,hs⟩:=cI.cV (m:=2) hO (Gz _) ak (by rw [rP,oB];omega) hs .here
  refine nT ?_
  refine .aj (.z zm ?_)
  refine .o (.call Tryz.call162 rfl (ux (l:=msL m r r.length) hs hR) ?_);rintro v38 w ⟨hR2,hs⟩
  refine .z zg (.nil ?_)
  refine .ret (Fin.bE Tryz.results110 rfl ?_)
  exact ⟨H1,hle1,hR2,hs.out⟩
theorem DF{v:Srv}{out:List Int}{e:Int}(h:Bh v out e)(hv:dT v):(e=0∧0<out.length∧¬v.sys.Sound)∨(e=3∧v.sys.Sound):=by
 cases h with
 |bad h he=>exact (he (h.dF.2 hv)).elim
 |ok _ h=>
  by_cases e0:e=0
  ·subst e0
   obtain ⟨_,h1,_,h2⟩:=h.conf
   exact .inl ⟨rfl,(by cases out with|nil=>exact (h2 rfl).elim|cons=>simp),h1⟩
  ·cases h with
   |bad h=>exact (h (v.sys.dF.2 hv.sys)).elim
   |none _ h=>exact .inr ⟨rfl,h⟩
   |ok=>exact (e0 rfl).elim
theorem lH{k:Int}(hs:St H w σ):Cl Tryz.prog 98 [I k] w fun u w'=>u= .agg #[I 1,I 0,I k]∧St H w' σ:=by
 refine Cl.o Tryz.func98 Tryz.ntmps98 ag1 ?_
 refine .aj ?_
 refine .o (.alloc hs Tryz.zeroValue113 rfl fun b2 w hs=>?_)
 refine .nil (.aj (.z zm (.z (zbd [_,_,_] zp) ?_)))
 refine .o (.aP (vs:=[_,_,_]) hs rfl rfl jL fun w hs=>?_)
 refine .nil ?_
 refine .ret ?_
 exact Fin.iZ [] [] hs fun w hs=>⟨_,results1 Tryz.results98 (dJ (vs:=[_,_,_]) hs rfl zG jL),rfl,hs.out⟩
theorem th{s:Srv}{k:Nat}{a b c d:Value}(hs:St H w σ)(g:SvM H s a b c d)(hok:dT s):
  Cl Tryz.prog 122 [svA s a b c d,I (k:Int)] w fun u w'=>∃H1 lo hi e,HLe H H1∧u= .tuple #[.agg #[I lo,I hi],I e]∧yc s k lo hi e∧St H1 w' σ:=by
 refine Cl.o Tryz.func122 Tryz.ntmps122 ag2 ?_
 refine .aj ?_
 refine .bx hs fun b2 w hs=>?_
 refine .o (.alloc hs cO rfl fun b4 w hs=>?_)
 refine .z zg (.nil (.seq (.aj (.z zm (.z mI (.nil ?_))))))
 refine (.bH rfl (fun hc9=>?_) (fun hc9=>?_))
 ·refine .seq (.draw mix rfl hs fun w hs=>?_)
  refine .ys 0 rfl hs [_,_,_,_,_,_,_,_] aZ aD ?_;refine .z 1 rfl zm ?_
  refine .E 2 hs ?_
  refine .call Tryz.call98 rfl (lH hs) ?_;rintro _ w ⟨rfl,hs⟩
  refine .go ?_
  refine .E 3 hs ?_
  refine .call Tryz.call174 rfl (qH (s:=s) (q:=⟨1,0,k⟩) hs g.st g.wa g.rd g.cm) ?_;rintro _ w ⟨H1,lo,hi,e,hle1,rfl,hQ,hs⟩
  refine .go ?_
  refine .z 4 rfl zex ?_;refine .z 5 rfl zex ?_
  refine .E 6 hs ?_
  refine .aP (vs:=[_,_]) hs rfl rfl aA ?_;intro w hs
  refine .go ?_
  refine .z 7 rfl zg ?_;refine .D hs ?_
  refine .ret (rT (?_))
  exact Fin.iZ [] [] hs fun w hs=>⟨_,results2 Tryz.results122 (dJ (vs:=[_,_]) hs rfl bD aA) rfl,H1,_,_,_,hle1,rfl,.up ak hQ,hs.out⟩
 ·refine .skip ?_
  refine nT ?_
  refine .seq (.aj (.y hs (zls [_,_,_,_,_,_,_,_] aZ aD) ?_))
  obtain rfl:k=0:=by omega
  refine .o (.call Tryz.call175 rfl (qG (s:=s) hs g.st g.wa g.rd g.cm) ?_);rintro _ w ⟨H1,vx,out,e,hle1,rfl,hX,hC,hs⟩
  have hcl:=DF hC hok
  obtain ⟨ax,cx,rfl⟩:=RI.shape hX
  refine .z zm (.z zex (.z zex (.z zg (.z zg (.nil (.aj (.z zm (.z gj (.z zm ?_)))))))))
  refine .iW (t':=23) rfl (fun hb23=>?_) (fun hb23=>?_)
  ·refine .gT rfl rfl ?_
   refine .z zm ?_
   refine .gT rfl rfl ?_
   refine .z (dp af) ?_
   refine .gT rfl rfl ?_
   refine .z mI (.z zpT (.nil ?_))
   refine (.bH rfl (fun hc27=>?_) (fun hc27=>?_))
   ·refine .aj (.z (zbd [_,_] cz) ?_)
    refine .o (.aP (vs:=[_,_]) hs rfl rfl aA fun w hs=>?_)
    refine .z zg (.nil ?_)
    refine .ret (rT (?_))
    exact Fin.iZ [] [] hs fun w hs=>⟨_,results2 Tryz.results122 (dJ (vs:=[_,_]) hs rfl bD aA) rfl,H1,_,_,_,hle1,rfl,.fls rfl hok (by rcases hcl with h|h;exact h.2.2;omega),hs.out⟩
   ·refine .skip ?_
    refine nT ?_
    refine .aj (.z (zbd [_,_] cz) ?_)
    refine .o (.aP (vs:=[_,_]) hs rfl rfl aA fun w hs=>?_)
    refine .z zg (.nil ?_)
    refine .ret ?_
    exact Fin.iZ [] [] hs fun w hs=>⟨_,results2 Tryz.results122 (dJ (vs:=[_,_]) hs rfl bD aA) rfl,H1,_,_,_,hle1,rfl,.zero rfl hok (by rcases hcl with h|h;omega;exact h.2),hs.out⟩
  ·refine .gFs 3 2 true rfl rfl rfl ?_
   refine .z zpF (.nil ?_)
   refine (.cF ?_)
   refine .skip ?_
   refine nT ?_
   refine .aj (.z (zbd [_,_] cz) ?_)
   refine .o (.aP (vs:=[_,_]) hs rfl rfl aA fun w hs=>?_)
   refine .z zg (.nil ?_)
   refine .ret ?_
   exact Fin.iZ [] [] hs fun w hs=>⟨_,results2 Tryz.results122 (dJ (vs:=[_,_]) hs rfl bD aA) rfl,H1,_,_,_,hle1,rfl,.zero rfl hok (by rcases hcl with h|h;omega;exact h.2),hs.out⟩
theorem gV{n d:Int}(hs:St H w σ)(hn: -4000000000000≤n∧n≤4000000000000)(hd: -100000≤d∧d≤100000):Cl Tryz.prog 99 [I n,I d] w fun v w'=>v=I (my n d)∧St H w' σ:=by
 have hm:=kz (a:=n) (b:=d) (A:=4000000000000) (B:=100000) ak ak
 refine Cl.o Tryz.func99 Tryz.ntmps99 ag2 ?_
 refine .aj (.z zg (.nil (.aj (.z zm (.z zm (.z lz ?_))))))
 refine .o (.call Tryz.call140 rfl (pb hs ak ak) ?_);rintro _ w ⟨rfl,hs⟩
 refine .z zg (.nil ?_)
 refine .ret (Fin.bE Tryz.results99 rfl ?_)
 exact ⟨rfl,hs⟩
theorem sd{lo hi x y:Int}(hs:St H w σ)(h1: -200000000≤lo∧lo≤200000000)(h2: -200000000≤hi∧hi≤200000000)(hd:gH x y):
  Cl Tryz.prog 145 [.agg #[I lo,I hi],.agg #[I x,I y]] w fun v w'=>v= .agg #[I (yt lo x y),I (yu hi x y)]∧St H w' σ:=by
 unfold gH at hd
 refine Cl.o Tryz.func145 Tryz.ntmps145 ag2 ?_
 refine .aj ?_
 refine .bx hs fun b2 w hs=>?_
 refine .bx hs fun b3 w hs=>?_
 refine .o (.alloc hs cO rfl fun b4 w hs=>?_)
 refine .nil ?_
 refine .seq (.draw mix rfl hs fun w hs=>?_)
 refine .z 0 rfl (zfa bX) ?_;refine .y 1 rfl hs ae ?_;refine .z 2 rfl (zfa bX) ?_;refine .y 3 rfl hs ae ?_;refine .z 5 rfl (zfa bX) ?_;refine .y 6 rfl hs ae ?_;refine .z 7 rfl (zfa cJ) ?_;refine .y 8 rfl hs ae ?_;refine .z 11 rfl (zfa cJ) ?_;refine .y 12 rfl hs ae ?_
 refine .z 13 rfl (zfa bX) ?_;refine .y 14 rfl hs ae ?_;refine .z 16 rfl (zfa cJ) ?_;refine .y 17 rfl hs ae ?_;refine .z 18 rfl (zfa cJ) ?_;refine .y 19 rfl hs ae ?_
 refine .E 4 hs ?_
 refine .call Tryz.call99 rfl (gV hs ak ak) ?_;rintro _ w ⟨rfl,hs⟩
 refine .go ?_
 refine .E 9 hs ?_
 refine .call Tryz.call99 rfl (gV hs ak ak) ?_;rintro _ w ⟨rfl,hs⟩
 refine .go ?_
 refine .z 10 rfl Bk ?_
 refine .E 15 hs ?_
 refine .call Tryz.call99 rfl (gV hs ak ak) ?_;rintro _ w ⟨rfl,hs⟩
 refine .go ?_
 refine .E 20 hs ?_
 refine .call Tryz.call99 rfl (gV hs ak ak) ?_;rintro _ w ⟨rfl,hs⟩
 refine .go ?_
 refine .z 21 rfl Cb ?_;refine .z 22 rfl (zbd [_,_] cz) ?_
 refine .E 23 hs ?_
 refine .aP (vs:=[_,_]) hs rfl rfl aA ?_;intro w hs
 refine .go ?_
 refine .D hs ?_
 refine .ret ?_
 exact Fin.iZ [] [] hs fun w hs=>⟨_,results1 Tryz.results145 (dJ (vs:=[_,_]) hs rfl bD aA),rfl,hs.out⟩
theorem eK{s:Srv}{k:Nat}{a b c d:Value}{x y:Int}(hs:St H w σ)(g:SvM H s a b c d)(hok:dT s)(hd:gH x y):
  Cl Tryz.prog 88 [svA s a b c d,I (k:Int),.agg #[I x,I y]] w fun u w'=>∃H1 lo hi e,HLe H H1∧u= .tuple #[.agg #[I lo,I hi],I e]∧mh s k x y lo hi e∧St H1 w' σ:=by
 refine Cl.o Tryz.func88 Tryz.ntmps88 ag3 ?_
 refine .aj ?_
 refine .bx hs fun b3 w hs=>?_
 refine .bx hs fun b5 w hs=>?_
 refine .o (.alloc hs cO rfl fun b6 w hs=>?_)
 refine .z zg (.nil (.aj (.y hs (zls [_,_,_,_,_,_,_,_] aZ aD) (.z zm ?_))))
 refine .o (.call Tryz.call122 rfl (th (s:=s) hs g hok) ?_);rintro _ w ⟨H1,lo,hi,e,hle1,rfl,hL,hs⟩
 have hb:=hL.bd
 refine .z zm (.z zex (.z zex ?_))
 refine .o (.alloc hs cO rfl fun b8 w hs=>?_)
 refine .o (.aP (vs:=[_,_]) hs rfl rfl aA fun w hs=>?_)
 refine .z zg (.nil (.seq (.aj (.z zm (.z gS (.nil ?_))))))
 refine (.ek rfl (fun hc17=>?_) (fun hc17=>?_))
 ·refine .aj (.z (zbd [_,_] cz) (.z zm ?_))
  refine .o (.aP (vs:=[_,_]) hs rfl rfl aA fun w hs=>?_)
  refine .z zg (.nil ?_)
  refine .ret (rT (?_))
  exact Fin.iZ [] [] hs fun w hs=>⟨_,results2 Tryz.results88 (dJ (vs:=[_,_]) hs rfl bD aA) rfl,H1,_,_,_,hle1,rfl,.fls hL hc17,hs.out⟩
 ·refine .skip ?_
  refine nT ?_
  refine .aj (.y hs (zls [_,_] bD aA) (.y hs (zls [_,_] bD aA) ?_))
  obtain rfl:e=0:=by omega
  refine .o (.call Tryz.call145 rfl (sd hs ak ak hd) ?_);rintro _ w ⟨rfl,hs⟩
  refine .o (.aP (vs:=[_,_]) hs rfl rfl aA fun w hs=>?_)
  refine .z zg (.nil ?_)
  refine .ret ?_
  exact Fin.iZ [] [] hs fun w hs=>⟨_,results2 Tryz.results88 (dJ (vs:=[_,_]) hs rfl bD aA) rfl,H1,_,_,_,hle1,rfl,.ok hL,hs.out⟩
theorem nk{s:Srv}{k:Int}{a b c d:Value}{x y:Int}(hs:St H w σ)(g:SvM H s a b c d):
  Cl Tryz.prog 58 [svA s a b c d,I k,.agg #[I x,I y]] w fun u w'=>∃H1 lo hi e,HLe H H1∧u= .tuple #[.agg #[I lo,I hi],I e]∧BV s k x y lo hi e∧St H1 w' σ:=by
 obtain ⟨aw,cw,rfl⟩:=RI.shape g.wa
 refine Cl.o Tryz.func58 Tryz.ntmps58 ag3 ?_
 refine .aj ?_
 refine .bx hs fun b3 w hs=>?_
 refine .bx hs fun b5 w hs=>?_
 refine .o (.alloc hs cO rfl fun b6 w hs=>?_)
 refine .z zg (.nil (.seq (.aj (.y hs (zls [_,_,_,_,_,_,_,_] aZ aD) ?_))))
 refine .o (.call JD rfl (fH (s:=s) hs g.st g.wa g.rd g.cm) ?_);rintro _ w ⟨H1,e,hle1,rfl,hC,hs⟩
 refine .z zg (.nil (.aj (.z zm (.z gS (.nil ?_)))))
 refine (.ek rfl (fun hc12=>?_) (fun hc12=>?_))
 ·refine .aj (.z (zbd [_,_] cz) (.z zm ?_))
  refine .o (.aP (vs:=[_,_]) hs rfl rfl aA fun w hs=>?_)
  refine .z zg (.nil ?_)
  refine .ret (rT (?_))
  exact Fin.iZ [] [] hs fun w hs=>⟨_,results2 Tryz.results58 (dJ (vs:=[_,_]) hs rfl bD aA) rfl,H1,_,_,_,hle1,rfl,.bad hC hc12,hs.out⟩
 ·refine .skip ?_
  refine nT ?_
  refine .seq (.block (.aj ?_))
  have hok:dT s:=hC.dF.1 ak
  have hsm:=fG hok.early.1
  refine .z zm (.z (zfa bh) (.z (zfa a8) (.y hs (zld an) (.z (dp af) (.z gM ?_)))))
  refine .o (.call eC rfl (bZ hs) ?_);rintro _ w ⟨rfl,hs⟩
  refine .z fW (.z zg (.nil ?_))
  refine (.cond rfl (fun hc15=>?_) (fun hc15=>?_))
  ·refine .aj (.z (zbd [_,_] cz) ?_)
   refine .o (.aP (vs:=[_,_]) hs rfl rfl aA fun w hs=>?_)
   refine .z zg (.nil ?_)
   refine .ret (rB (rT (?_)))
   exact Fin.iZ [] [] hs fun w hs=>⟨_,results2 Tryz.results58 (dJ (vs:=[_,_]) hs rfl bD aA) rfl,H1,_,_,_,hle1,rfl,.water hok (by simp at hc15;omega),hs.out⟩
  ·refine .aj (.y hs (zls [_,_] bD aA) ?_)
   have hk:0≤k∧k≤(s.sp.wa.length:Int) - 1:=by simpa using hc15
   refine .o (.call Tryz.call118 rfl (me hs) ?_);rintro _ w ⟨rfl,hs⟩
   refine .z fW (.z zg (.nil ?_))
   refine (.cond rfl (fun hc25=>?_) (fun hc25=>?_))
   ·refine .aj (.z (zbd [_,_] cz) ?_)
    refine .o (.aP (vs:=[_,_]) hs rfl rfl aA fun w hs=>?_)
    refine .z zg (.nil ?_)
    refine .ret (rB (rT (?_)))
    exact Fin.iZ [] [] hs fun w hs=>⟨_,results2 Tryz.results58 (dJ (vs:=[_,_]) hs rfl bD aA) rfl,H1,_,_,_,hle1,rfl,.dense hok hk (by simpa using hc25),hs.out⟩
   ·refine .skip ?_
    refine nB (nT ?_)
    refine .aj (.y hs (zls [_,_,_,_,_,_,_,_] aZ aD) (.z zm (.y hs (zls [_,_] bD aA) ?_)))
    have hdn:gH x y:=by simpa using hc25
    obtain ⟨j,rfl⟩:∃j:Nat,k=(j:Int):=⟨k.toNat,ak⟩
    refine .o (.call Tryz.call88 rfl (eK (s:=s) hs (g.mono hle1) hok hdn) ?_);rintro _ w ⟨H2,lo,hi,e,hle2,rfl,hS,hs⟩
    refine .z zex (.z zex ?_)
    refine .o (.aP (vs:=[_,_]) hs rfl rfl aA fun w hs=>?_)
    refine .z zg (.nil ?_)
    refine .ret ?_
    exact Fin.iZ [] [] hs fun w hs=>⟨_,results2 Tryz.results58 (dJ (vs:=[_,_]) hs rfl bD aA) rfl,H2,_,_,_,hle1.trans hle2,rfl,.go hok hk hdn (by rw [Int.toNat_natCast];exact hS),hs.out⟩
set_option maxHeartbeats 2000000 in
theorem uM{s:Srv}{l:Lns}{r:List Lg}{m:Rng}{a b c d vt vs vlg:Value}(hs:St H w σ)(g:SvM H s a b c d)(gl:LnM H l vt vs)(gr_:RLg H vlg r):
  Cl Tryz.prog 79 [svA s a b c d,lnA l vt vs,.agg #[vlg],.agg #[I m.lo,I m.hi]] w fun u w'=>∃(H1:bV) (z:RtV) (ks:List Int) (e:Int),HLe H H1∧u= .tuple #[z.agg,I e]∧z.cs.all Value.oneCell'=true∧sC s l r m ks e∧(e=0→∃vms vmk,z=⟨s,l,a,b,c,d,vt,vs,vlg,vms,vmk⟩∧RRg H1 vms (msL m r r.length)∧RI H1 vmk ks)∧St H1 w' σ:=by
 obtain ⟨alg,clg,rfl⟩:=gr_.shape
 refine Cl.o Tryz.func79 Tryz.ntmps79 ag4 ?_
 refine .aj ?_
 refine .bx hs fun b4 w hs=>?_
 refine .bx hs fun b5 w hs=>?_
 refine .bx hs fun b6 w hs=>?_
 refine .bx hs fun b7 w hs=>?_
 refine .o (.alloc hs kP rfl fun b8 w hs=>?_)
 refine .z zg (.nil (.seq (.aj (.y hs (zls [_,_,_,_,_,_,_,_] aZ aD) ?_))))
 refine .o (.call JD rfl (fH (s:=s) hs g.st g.wa g.rd g.cm) ?_);rintro _ w ⟨H1,e,hle1,rfl,hC,hs⟩
 refine .z zg (.nil (.aj (.z zm (.z gS (.nil ?_)))))
 refine (.ek rfl (fun hc21=>?_) (fun hc21=>?_))
 ·refine .aj (.z (zbd RtV.zero.cs fQ rfl aq) (.z zm ?_))
  refine .o (.aP (vs:=RtV.zero.cs) hs rfl rfl db fun w hs=>?_)
  refine .z zg (.nil ?_)
  refine .ret (rT (?_))
  exact Fin.iZ [] [] hs fun w hs=>⟨_,results2 vZ (dJ (vs:=RtV.zero.cs) hs rfl mH db) rfl,H1,RtV.zero,_,_,hle1,rfl,rfl,.bad hC hc21,fun h=>(hc21 h).elim,hs.out⟩
 ·refine .skip ?_
  refine nT ?_
  refine .seq (.aj (.y hs (zls [_,_,_,_] bn aM) ?_))
  have hok:dT s:=hC.dF.1 ak
  have hsp:=hok.early.1
  refine .o (.call Tryz.call19 rfl (fZ hs (gl.tb.mono hle1) (gl.sn.mono hle1)) ?_);rintro _ w ⟨f,rfl,hL,hs⟩
  refine .z zg (.nil (.aj (.z zm (.z gS (.nil ?_)))))
  refine (.ek rfl (fun hc27=>?_) (fun hc27=>?_))
  ·refine .aj (.z (zbd RtV.zero.cs fQ rfl aq) (.z zm ?_))
   have hl:=hL.resolve_left fun h=>hc27 h.2
   refine .o (.aP (vs:=RtV.zero.cs) hs rfl rfl db fun w hs=>?_)
   refine .z zg (.nil ?_)
   refine .ret (rT (?_))
   exact Fin.iZ [] [] hs fun w hs=>⟨_,results2 vZ (dJ (vs:=RtV.zero.cs) hs rfl mH db) rfl,H1,RtV.zero,_,_,hle1,rfl,rfl,by rw [hl.2];exact .lines hok hl.1,fun h=>(hc27 h).elim,hs.out⟩
  ·refine .skip ?_
   refine nT ?_
   refine .seq (.aj (.y hs (zls [_] dw bI) ?_))
   have hl:gG l:=(hL.resolve_right fun h=>by omega).1
   refine .o (.call Tryz.call21 rfl (oO hs (gr_.mono hle1)) ?_);rintro _ w ⟨q,rfl,hR,hs⟩
   refine .z zg (.nil (.aj (.z zm (.z gS (.nil ?_)))))
   refine (.ek rfl (fun hc33=>?_) (fun hc33=>?_))
   ·refine .aj (.z (zbd RtV.zero.cs fQ rfl aq) (.z zm ?_))
    have hrt:=hR.resolve_left fun h=>hc33 h.2
    refine .o (.aP (vs:=RtV.zero.cs) hs rfl rfl db fun w hs=>?_)
    refine .z zg (.nil ?_)
    refine .ret (rT (?_))
    exact Fin.iZ [] [] hs fun w hs=>⟨_,results2 vZ (dJ (vs:=RtV.zero.cs) hs rfl mH db) rfl,H1,RtV.zero,_,_,hle1,rfl,rfl,by rw [hrt.2];exact .route hok hl hrt.1,fun h=>(hc33 h).elim,hs.out⟩
   ·refine .skip ?_
    refine nT ?_
    refine .seq (.aj (.y hs (zls [_,_] bD aA) ?_))
    have hrt:u5 r:=(hR.resolve_right fun h=>by omega).1
    have hn:=hrt.many
    refine .o (.call Tryz.call109 rfl (mP hs) ?_);rintro _ w ⟨rfl,hs⟩
    refine .z fW (.nil ?_)
    refine (.cond rfl (fun hc38=>?_) (fun hc38=>?_))
    ·refine .aj (.z (zbd RtV.zero.cs fQ rfl aq) ?_)
     refine .o (.aP (vs:=RtV.zero.cs) hs rfl rfl db fun w hs=>?_)
     refine .z zg (.nil ?_)
     refine .ret (rT (?_))
     exact Fin.iZ [] [] hs fun w hs=>⟨_,results2 vZ (dJ (vs:=RtV.zero.cs) hs rfl mH db) rfl,H1,RtV.zero,_,_,hle1,rfl,rfl,.wD hok hl hrt (by simpa using hc38),fun h=>by omega,hs.out⟩
    ·refine .skip ?_
     refine nT ?_
     refine .cut (fun fs w=>∃H2 vms b13,kJ fs ⟨76,[],[(13,.pointer (some ⟨b13,0,none⟩)),(8,.pointer (some ⟨b8,0,none⟩)),(5,.pointer (some ⟨b5,0,none⟩)),(6,.pointer (some ⟨b6,0,none⟩))]⟩∧HLe H1 H2∧RRg H2 vms (msL m r r.length)∧St H2 w (.blk b13 (RtV.cs ⟨s,l,a,b,c,d,vt,vs,.slice alg r.length clg,vms,.slice none 0 0⟩):: .blk b8 RtV.zero.cs:: .blk b6 [.slice alg r.length clg]:: .blk b5 (lnC l vt vs)::σ)) ?_ ?_
     ·refine .draw mix rfl hs fun w hs=>?_
      refine .ys 0 rfl hs [_,_,_,_,_,_,_,_] aZ aD ?_;refine .ys 1 rfl hs [_,_,_,_] bn aM ?_;refine .z 2 rfl (zfa bQ) ?_;refine .y 3 rfl hs cQ ?_;refine .ys 4 rfl hs [_] dw bI ?_;refine .ys 5 rfl hs [_,_] bD aA ?_
      refine .e2 (i:=6) (j:=8) aq rfl rfl rfl rfl .none .none hs ?_ ?_
      ·refine .call Tryz.call110 rfl (mM hs (gr_.mono hle1) hrt (by simpa using hc38)) ?_;rintro vms w ⟨H2,hle2,hMs,hs⟩
       obtain ⟨ams,cms,rfl⟩:=hMs.shape
       refine .go ?_
       refine .z 7 rfl (zbd (vs:=[(0,svA s a b c d),(1,lnA l vt vs),(2,.slice alg r.length clg),(3,.slice ams (msL m r r.length).length cms)]) (RtV.cs ⟨s,l,a,b,c,d,vt,vs,.slice alg r.length clg,.slice ams (msL m r r.length).length cms,.slice none 0 0⟩) fQ rfl aq) ?_
       refine .E 8 hs ?_
       refine .alloc hs kP rfl ?_;intro b13 w hs
       refine .go ?_
       refine .E 9 hs ?_
       refine .aP (vs:=RtV.cs ⟨s,l,a,b,c,d,vt,vs,.slice alg r.length clg,.slice ams (msL m r r.length).length cms,.slice none 0 0⟩) hs rfl rfl db ?_ (hv:=RtV.one g gl gr_ (RS.one hMs) rfl);intro w hs
       refine .go ?_
       refine .D hs ?_
       exact nT ⟨H2,_,b13,bj,hle2,hMs,hs.sb⟩
      ·refine .alloc hs kP rfl ?_;intro b13 w hs
       refine .go ?_
       refine .E 6 hs ?_
       refine .call Tryz.call110 rfl (mM hs (gr_.mono hle1) hrt (by simpa using hc38)) ?_;rintro vms w ⟨H2,hle2,hMs,hs⟩
       obtain ⟨ams,cms,rfl⟩:=hMs.shape
       refine .go ?_
       refine .z 7 rfl (zbd (vs:=[(0,svA s a b c d),(1,lnA l vt vs),(2,.slice alg r.length clg),(3,.slice ams (msL m r r.length).length cms)]) (RtV.cs ⟨s,l,a,b,c,d,vt,vs,.slice alg r.length clg,.slice ams (msL m r r.length).length cms,.slice none 0 0⟩) fQ rfl aq) ?_
       refine .E 9 hs ?_
       refine .aP (vs:=RtV.cs ⟨s,l,a,b,c,d,vt,vs,.slice alg r.length clg,.slice ams (msL m r r.length).length cms,.slice none 0 0⟩) hs rfl rfl db ?_ (hv:=RtV.one g gl gr_ (RS.one hMs) rfl);intro w hs
       refine .go ?_
       refine .D hs ?_
       exact nT ⟨H2,_,b13,bj,hle2,hMs,hs.sb⟩
     ·rintro fs w ⟨H2,vms,b13,hfs,hle2,hMs,hs⟩
      refine WE.sub ?_ hfs
      clear hfs
      have hle02:=hle1.trans hle2
      have hm:iM m.lo m.hi:=by simpa using hc38
      refine .seq (.aj (.z (zfa bQ) (.y hs (zld cQ) (.z (dp aJ) (.z zm (.nil ?_))))))
      refine .for (N:=r.length) (J:=fun k fr w=>∃H3 ks vmk en,fr=[(49,.slice alg r.length clg),(13,.pointer (some ⟨b13,0,none⟩)),(8,.pointer (some ⟨b8,0,none⟩)),(5,.pointer (some ⟨b5,0,none⟩))]∧HLe H2 H3∧ks.length=k∧(∀i<k,vG s.sp.wa l (lg0 r i) (gi ks i) 0)∧cI 1 vmk (Is ks) en∧St H3 w (en:: .blk b13 (RtV.cs ⟨s,l,a,b,c,d,vt,vs,.slice alg r.length clg,vms,vmk⟩):: .blk b8 RtV.zero.cs:: .blk b6 [.slice alg r.length clg]:: .blk b5 (lnC l vt vs)::σ)) ak ?_ ?_ ?_
      ·exact .mk ⟨H2,[],_,.nul,rfl,HLe.refl _,rfl,fun i hi=>by omega,.nil 1 none,hs.nul⟩
      ·rintro k fr w hk ⟨H3,ks,vmk,en,rfl,hle3,hkl,hks,hO,hs⟩
       have hx:=mu (l:=r) hk
       have hle03:=hle02.trans hle3
       obtain ⟨ao,lo',co,rfl,hlo⟩:=hO.shape
       refine .block (.aj ?_)
       refine .ixX (enc:=Lg.c) hs (gr_.mono hle03) rfl rfl aJ aK hx de ?_;intro b53 o53 hc53
       refine .q hs (bY (vs:=(Lg.c (lg0 r k))) rfl dU aK hc53) ?_
       refine .o (.alloc hs dm rfl fun b15 w hs=>?_)
       refine .o (.aP (vs:=(lg0 r k).c) hs rfl rfl aK fun w hs=>?_)
       change St _ _ (.blk b15 (lgC (lg0 r k))::_) at hs
       refine .nil (.aj (.z (zfa k7) (.z (zfa bh) (.y hs (zls [_,_,_,_,_,_] aV aH) (.y hs (zls [_,_,_,_] bn aM) (.y hs (zls [_,_,_,_,_,_,_] dU aK) ?_))))))
       refine .o (.call Tryz.call115 rfl (mN (s:=s.sp) (x:=lg0 r k) hs (g.wa.mono hle03) (gl.tb.mono hle03) (gl.sn.mono hle03) hsp hl (hrt.leg k hk).1) ?_);rintro _ w ⟨H4,n,e,hle4,rfl,hLw,hs⟩
       have hle04:=hle03.trans hle4
       refine .z zm (.z zex (.z zex (.z zg (.z zg (.nil (.seq (.aj (.z zm (.z gS ?_)))))))))
       refine .nil ?_
       refine (.ek rfl (fun hc65=>?_) (fun hc65=>?_))
       ·refine .aj (.z (zbd RtV.zero.cs fQ rfl aq) (.z zm ?_))
        refine .o (.aP (vs:=RtV.zero.cs) hs rfl rfl db fun w hs=>?_)
        refine .z zg (.nil ?_)
        refine .ret (rT (rB (rT (rB (rT (?_))))))
        exact Fin.iZ [] [] hs fun w hs=>⟨_,results2 vZ (dJ (vs:=RtV.zero.cs) hs rfl mH db) rfl,H4,RtV.zero,_,_,hle04,rfl,rfl,.low hok hl hrt hm hk (fun j hj=>⟨_,hks j hj⟩) hLw hc65,fun h=>(hc65 h).elim,hs.out⟩
       ·refine .skip ?_
        refine nT ?_
        refine .region (.z (zfa iB) (.y hs (zld an) (.z zm ?_)))
        refine .o (.buildSlice (cells:=Is [n]) hs dk rfl aq fun b71 w hs=>?_)
        refine .o (.append (ys:=Is [n]) hs df rfl rfl hO (.own .here rfl rfl) (jR _) (fun l h=>by simp [Is] at h;omega) ?_);intro v72 en72 w hO2 hs
        rw [←List.map_append] at hO2
        obtain ⟨a72,l72,c72,rfl,h72⟩:=hO2.shape
        refine .z (zfa iB) ?_
        refine .o (.store hs rfl rfl aC fun w hs=>?_)
        refine .nil ?_
        refine nB (nT ?_)
        obtain rfl:e=0:=by omega
        exact .mk ⟨H4,ks++[n],_,_,rfl,hle3.trans hle4,by simp [hkl],fun i hi=>by
         by_cases e:i=k
         ·subst e;rw [nS,if_neg ak,if_pos ak];exact hLw
         ·rw [nS,if_pos ak];exact hks i ak,hO2,hs.sb⟩
      ·rintro fr w ⟨H3,ks,vmk,en,rfl,hle3,hkl,hks,hO,hs⟩
       obtain ⟨H4,hle4,hRk,hs⟩:=hO.eJ ak hs .here
       have hle04:=hle02.trans (hle3.trans hle4)
       refine nT ?_
       refine .aj (.y hs (zls [_,_,_,_,_,_,_,_,_,_,_,_,_,_,_] mH db) ?_)
       refine .o (.aP (vs:=RtV.cs ⟨s,l,a,b,c,d,vt,vs,.slice alg r.length clg,vms,vmk⟩) hs rfl rfl db ?_ (hv:=RtV.one g gl gr_ (RS.one hMs) (RS.one hRk)));intro w hs
       refine .z zg (.nil ?_)
       refine .ret ?_
       exact Fin.iZ [] [] hs fun w hs=>⟨_,results2 vZ (dJ (vs:=RtV.cs ⟨s,l,a,b,c,d,vt,vs,.slice alg r.length clg,vms,vmk⟩) hs rfl mH db) rfl,H4,⟨s,l,a,b,c,d,vt,vs,.slice alg r.length clg,vms,vmk⟩,_,_,hle04,rfl,RtV.one g gl gr_ (RS.one hMs) (RS.one hRk),.ok hok hl hrt hm hkl hks,fun _=>⟨_,_,rfl,hMs.mono (hle3.trans hle4),hRk⟩,hs.out⟩
structure RtM(H:bV)(s:Srv)(l:Lns)(r:List Lg)(m:Rng)(ks:List Int)(z:RtV):Prop where
 es:z.s=s
 el:z.l=l
 sv:SvM H s z.a z.b z.c z.d
 ln:LnM H l z.t z.n
 lg:RLg H z.lg r
 ms:RRg H z.ms (msL m r r.length)
 mr:RI H z.mr ks
 one:z.cs.all Value.oneCell'=true
 beg:sC s l r m ks 0
set_option maxHeartbeats 1000000 in
theorem sf{s:Srv}{l:Lns}{r:List Lg}{m:Rng}{ks:List Int}{z:RtV}(hs:St H w σ)(h:RtM H s l r m ks z):
  Cl Tryz.prog 80 [z.agg] w fun u w'=>∃H1 v as_ e,HLe H H1∧u= .tuple #[v,I e]∧RI H1 v as_∧D9 s l r m as_ e∧St H1 w' σ:=by
 obtain ⟨s',l',a,b,c,d,t,n,lg,ms,mr⟩:=z
 obtain ⟨rfl,rfl,g,gl,hr,hms,hmr,hone,hB⟩:=h
 dsimp only at g gl hr hms hmr hone
 obtain ⟨alg,clg,rfl⟩:=hr.shape
 obtain ⟨ams,cms,rfl⟩:=hms.shape
 obtain ⟨amr,cmr,rfl⟩:=RI.shape hmr
 obtain ⟨hok,hl,hrt,hm,hkl,hlow⟩:=hB.ok'
 have hn:=hrt.many
 have hml:=oB m r r.length
 refine Cl.o Tryz.func80 Tryz.ntmps80 ag1 ?_
 refine .aj ?_
 refine .bx hs fun b1 w hs=>?_
 refine .z zg (.z zg (.nil (.aj (.z zg (.nil (.seq (.aj (.z (zfa jz) (.y hs (zld cQ) ?_)))))))))
 refine .z (dp aJ) (.z zm (.nil ?_))
 refine .for (N:=r.length) (J:=fun k fr w=>∃H1 vo as_ en,fr=[(4,vo),(11,.slice alg r.length clg),(1,.pointer (some ⟨b1,0,none⟩))]∧HLe H H1∧as_.length=k∧(∀i<k,∃lo hi,mh s' (gi ks i).toNat (lg0 r i).dlo (lg0 r i).dhi lo hi 0∧gi as_ i=B4 (oM m r i) lo hi)∧(0<k→s'.sys.Sound)∧cI 1 vo (Is as_) en∧St H1 w (en:: .blk b1 (RtV.cs ⟨s',l',a,b,c,d,t,n,.slice alg r.length clg,.slice ams (msL m r r.length).length cms,.slice amr ks.length cmr⟩)::σ)) ak ?_ ?_ ?_
 ·exact .mk ⟨H,_,[],.nul,rfl,HLe.refl _,rfl,fun i hi=>by omega,fun h=>by omega,.nil 1 none,hs.nul⟩
 ·rintro k fr w hk ⟨H1,vo,as_,en,rfl,hle1,hal,has,hsd,hO,hs⟩
  have hx:=mu (l:=r) hk
  have hxm:=CZ m r (k:=r.length) (i:=k) ak
  have hdn:=(hrt.leg k hk).1.dense
  obtain ⟨q,hq,hqw⟩:=hB.mark hk
  obtain ⟨ao,lo',co,rfl,hlo⟩:=hO.shape
  refine .block (.aj (.z zm ?_))
  refine .ixX (enc:=Lg.c) hs (hr.mono hle1) rfl rfl aJ aK hx de ?_;intro b16 o16 hc16
  refine .q hs (bY (vs:=(Lg.c (lg0 r k))) rfl dU aK hc16) ?_
  refine .o (.alloc hs dm rfl fun b6 w hs=>?_)
  refine .z zg ?_
  refine .o (.aP (vs:=(lg0 r k).c) hs rfl rfl aK fun w hs=>?_)
  change St _ _ (.blk b6 (lgC (lg0 r k))::_) at hs
  refine .nil ?_
  refine .cut (fun fs w=>∃H2 lo hi e b7,kJ fs ⟨60,[],[(8,I e),(7,.pointer (some ⟨b7,0,none⟩)),(6,.pointer (some ⟨b6,0,none⟩)),(5,I (k:Int)),(4,.slice ao lo' co),(1,.pointer (some ⟨b1,0,none⟩)),(11,.slice alg r.length clg),(13,I (k:Int)),(12,I (r.length:Int))]⟩∧HLe H1 H2∧mh s' q (lg0 r k).dlo (lg0 r k).dhi lo hi e∧St H2 w (.blk b7 [I lo,I hi]:: .blk b6 (lgC (lg0 r k))::en:: .blk b1 (RtV.cs ⟨s',l',a,b,c,d,t,n,.slice alg r.length clg,.slice ams (msL m r r.length).length cms,.slice amr ks.length cmr⟩)::σ)) ?_ ?_
  ·refine .draw mix rfl hs fun w hs=>?_
   refine .z 0 rfl (zfa k7) ?_;refine .ys 1 rfl hs [_,_,_,_,_,_,_,_] aZ aD ?_;refine .z 2 rfl (zfa iB) ?_;refine .y 3 rfl hs an ?_;refine .z 4 rfl zm ?_
   refine .ixX (enc:=fun x=>[I x]) (i:=5) hs rfl aq .none (hmr.mono hle1) rfl rfl af ai (bU (l:=ks) (i:=k) ak) rfl ?_;intro b24 o24 hc24;replace hc24:=cg.one hc24
   refine .y 6 rfl hs ae ?_;refine .z 7 rfl (zfa fK) ?_;refine .ys 8 rfl hs [_,_] bD aA ?_
   refine .e2 (i:=9) (j:=13) aq rfl rfl rfl rfl .none .none hs ?_ ?_
   ·rw [hq]
    refine .call Tryz.call88 rfl (eK (s:=s') hs (g.mono hle1) hok hdn) ?_;rintro _ w ⟨H2,lo,hi,e,hle2,rfl,hS,hs⟩
    refine .go ?_
    refine .z 10 rfl zm ?_;refine .z 11 rfl zex ?_;refine .z 12 rfl zex ?_
    refine .E 13 hs ?_
    refine .alloc hs cO rfl ?_;intro b7 w hs
    refine .go ?_
    refine .E 14 hs ?_
    refine .aP (vs:=[_,_]) hs rfl rfl aA ?_;intro w hs
    refine .go ?_
    refine .z 15 rfl zg ?_;refine .D hs ?_
    exact nT ⟨H2,lo,hi,e,b7,bj,hle2,hS,hs.sb⟩
   ·refine .alloc hs cO rfl ?_;intro b7 w hs
    refine .go ?_
    refine .E 9 hs ?_
    rw [hq]
    refine .call Tryz.call88 rfl (eK (s:=s') hs (g.mono hle1) hok hdn) ?_;rintro _ w ⟨H2,lo,hi,e,hle2,rfl,hS,hs⟩
    refine .go ?_
    refine .z 10 rfl zm ?_;refine .z 11 rfl zex ?_;refine .z 12 rfl zex ?_
    refine .E 14 hs ?_
    refine .aP (vs:=[_,_]) hs rfl rfl aA ?_;intro w hs
    refine .go ?_
    refine .z 15 rfl zg ?_;refine .D hs ?_
    exact nT ⟨H2,lo,hi,e,b7,bj,hle2,hS,hs.sb⟩
  ·rintro fs w ⟨H2,lo,hi,e,b7,hfs,hle2,hS,hs⟩
   refine WE.sub ?_ hfs
   clear hfs
   have hle02:=hle1.trans hle2
   refine .seq (.aj (.z zm (.z gS (.nil ?_))))
   refine (.ek rfl (fun hc32=>?_) (fun hc32=>?_))
   ·refine .aj (.z zm (.z zg (.z zg (.nil ?_))))
    refine .ret (rT (rB (rT (rB (rT (Fin.iq Tryz.results80 rfl rfl ?_))))))
    exact ⟨H2,_,[],_,hle02,rfl,RS.nil H2 1 none 0,by rcases hS.err hok hqw with h|h;exact (hc32 h.1).elim;rw [h.1];exact .fls hB h.2.1,hs.out⟩
   ·refine .skip ?_
    refine nT ?_
    refine .aj (.z zg (.nil ?_))
    refine .cut (fun fs w=>∃x,kJ fs ⟨60,[],[(9,I x),(4,.slice ao lo' co),(1,.pointer (some ⟨b1,0,none⟩)),(11,.slice alg r.length clg),(13,I (k:Int)),(12,I (r.length:Int))]⟩∧x=B4 (oM m r k) lo hi∧St H2 w (.blk b7 [I lo,I hi]:: .blk b6 (lgC (lg0 r k))::en:: .blk b1 (RtV.cs ⟨s',l',a,b,c,d,t,n,.slice alg r.length clg,.slice ams (msL m r r.length).length cms,.slice amr ks.length cmr⟩)::σ)) ?_ ?_
    ·refine .block ?_
     refine .seq (.draw mix rfl hs fun w hs=>?_)
     refine .z 0 rfl (zfa kZ) ?_;refine .y 1 rfl hs Tryz.isAgg80 ?_;refine .z 2 rfl zm ?_
     refine .ixX (enc:=Rng.c) (i:=3) hs rfl aq .none (RS.mono hms hle02) rfl rfl ff aA hxm rfl ?_;intro b38 o38 hc38
     refine .z 4 rfl (zfa cJ) ?_
     refine .r (i:=5) hs rfl aq .none (aW rfl ae (hc38.get 1 rfl)) ?_
     refine .z 6 rfl (zfa bX) ?_;refine .y 7 rfl hs ae ?_;refine .z 8 rfl oF ?_;refine .z 9 rfl zg ?_;refine .D hs ?_
     refine (.bH rfl (fun hc34=>?_) (fun hc34=>?_))
     ·refine .region (.z zg (.nil ?_))
      refine nB (nT ?_)
      exact ⟨_,bj,by unfold B4;simp [*],hs⟩
     ·refine .seq (.draw mix rfl hs fun w hs=>?_)
      refine .z 0 rfl (zfa kZ) ?_;refine .y 1 rfl hs Tryz.isAgg80 ?_;refine .z 2 rfl zm ?_
      refine .ixX (enc:=Rng.c) (i:=3) hs rfl aq .none (RS.mono hms hle02) rfl rfl ff aA hxm rfl ?_;intro b48 o48 hc48
      refine .z 4 rfl (zfa bX) ?_
      refine .r (i:=5) hs rfl aq .none (aW rfl ae (hc48.get 0 rfl)) ?_
      refine .z 6 rfl (zfa cJ) ?_;refine .y 7 rfl hs ae ?_;refine .z 8 rfl mI ?_;refine .z 9 rfl zg ?_;refine .D hs ?_
      refine (.bH rfl (fun hc44=>?_) (fun hc44=>?_))
      ·refine .region (.z zg (.nil ?_))
       refine nB (nT ?_)
       exact ⟨_,bj,by unfold B4;simp [*],hs⟩
      ·refine .skip ?_
       refine nB (nT ?_)
       exact ⟨_,bj,by unfold B4;simp [*],hs⟩
    ·rintro fs w ⟨x,hfs,hx9,hs⟩
     refine WE.sub ?_ hfs
     clear hfs
     refine .region (.z zm (.z zm ?_))
     refine .o (.buildSlice (cells:=Is [x]) hs dk rfl aq fun b56 w hs=>?_)
     refine .o (.append (ys:=Is [x]) hs df rfl rfl hO (.own .here rfl rfl) (jR _) (fun l h=>by simp [Is] at h;omega) ?_);intro v57 en57 w hO2 hs
     rw [←List.map_append] at hO2
     refine .z zg (.nil ?_)
     refine nB (nT ?_)
     obtain rfl:e=0:=by omega
     exact .mk ⟨H2,_,as_++[x],_,rfl,hle02,by simp [hal],fun i hi=>by
      by_cases e:i=k
      ·subst e;exact ⟨_,_,by rw [hq,Int.toNat_natCast];exact hS,by rw [nS,if_neg ak,if_pos ak];exact hx9⟩
      ·rw [nS,if_pos ak];exact has i ak,fun _=>(hS.err hok hqw).elim (fun h=>h.2) (fun h=>by omega),hO2,hs.sb⟩
 ·rintro fr w ⟨H1,vo,as_,en,rfl,hle1,hal,has,hsd,hO,hs⟩
  obtain ⟨H4,hle4,hRk,hs⟩:=hO.eJ ak hs .here
  refine nT ?_
  refine .aj (.z zm (.z zg (.z zg (.nil ?_))))
  refine .ret (Fin.iq Tryz.results80 rfl rfl ?_)
  exact ⟨H4,_,_,_,hle1.trans hle4,rfl,hRk,.ok hB (hsd ak) hal has,hs.out⟩
theorem nM{s:Srv}{l:Lns}{r:List Lg}{m:Rng}{a b c d vt vs vlg:Value}(hs:St H w σ)(g:SvM H s a b c d)(gl:LnM H l vt vs)(gr_:RLg H vlg r):
  Cl Tryz.prog 79 [svA s a b c d,lnA l vt vs,.agg #[vlg],.agg #[I m.lo,I m.hi]] w fun u w'=>∃(H1:bV) (z:RtV) (ks:List Int) (e:Int),HLe H H1∧u= .tuple #[z.agg,I e]∧z.cs.all Value.oneCell'=true∧sC s l r m ks e∧(e=0→RtM H1 s l r m ks z)∧St H1 w' σ:=by
 refine (uM hs g gl gr_).mono ?_
 rintro u w' ⟨H1,z,ks,e,hle,hu,ho,hB,h0,hs⟩
 exact ⟨H1,z,ks,e,hle,hu,ho,hB,fun he=>by
  obtain ⟨vms,vmk,rfl,h1,h2⟩:=h0 he
  subst he
  exact ⟨rfl,rfl,g.mono hle,gl.mono hle,gr_.mono hle,h1,h2,ho,hB⟩,hs⟩
theorem sh{s:Srv}{l:Lns}{r:List Lg}{m:Rng}{a b c d vt vs vlg:Value}(hs:St H w σ)(g:SvM H s a b c d)(gl:LnM H l vt vs)(gr_:RLg H vlg r):
  Cl Tryz.prog 24 [svA s a b c d,lnA l vt vs,.agg #[vlg],.agg #[I m.lo,I m.hi]] w fun u w'=>∃H1 v as_ e,HLe H H1∧u= .tuple #[v,I e]∧RI H1 v as_∧D9 s l r m as_ e∧St H1 w' σ:=by
 refine Cl.o Tryz.func24 Tryz.ntmps24 ag4 ?_
 refine .aj ?_
 refine .bx hs fun b4 w hs=>?_
 refine .bx hs fun b5 w hs=>?_
 refine .bx hs fun b6 w hs=>?_
 refine .bx hs fun b7 w hs=>?_
 refine .z zg (.z zg (.nil (.aj (.y hs (zls [_,_,_,_,_,_,_,_] aZ aD) (.y hs (zls [_,_,_,_] bn aM) (.y hs (zls [_] dw bI) (.y hs (zls [_,_] bD aA) ?_)))))))
 refine .o (.call Tryz.call79 rfl (nM (s:=s) (l:=l) (m:=m) hs g gl gr_) ?_);rintro _ w ⟨H1,z,ks,e,hle1,rfl,ho,hB,h0,hs⟩
 refine .z zm (.z zex (.z zex ?_))
 refine .o (.alloc hs kP rfl fun b10 w hs=>?_)
 refine .o (.aP (vs:=z.cs) hs rfl rfl db ?_ (hv:=ho));intro w hs
 refine .z zg (.nil (.seq (.aj (.z zm (.z gS (.nil ?_))))))
 refine (.ek rfl (fun hc21=>?_) (fun hc21=>?_))
 ·refine .aj (.z zm (.z zg (.z zg (.nil ?_))))
  refine .ret (rT (Fin.iq Tryz.results24 rfl rfl ?_))
  exact ⟨H1,_,[],_,hle1,rfl,RS.nil H1 1 none 0,.bad hB hc21,hs.out⟩
 ·refine .skip ?_
  refine nT ?_
  refine .aj (.y hs (zls [_,_,_,_,_,_,_,_,_,_,_,_,_,_,_] mH db) ?_)
  obtain rfl:e=0:=by omega
  refine .o (.call Tryz.call80 rfl (sf hs (h0 rfl)) ?_);rintro _ w ⟨H2,v,as_,e,hle2,rfl,hR,hA,hs⟩
  refine .z zex (.z zex (.z zg (.z zg (.nil ?_))))
  refine .ret (Fin.iq Tryz.results24 rfl rfl ?_)
  exact ⟨H2,_,_,_,hle1.trans hle2,rfl,hR,hA,hs.out⟩
theorem ti{v:Value}{as_:List Int}(hs:St H w σ)(hr:RI H v as_):Cl Tryz.prog 86 [v] w fun u w'=>u=I (Ag as_)∧St H w' σ:=by
 obtain ⟨a,c,rfl⟩:=RI.shape hr
 have hl:=(RI.len hr).2.2
 refine Cl.o Tryz.func86 Tryz.ntmps86 ag1 ?_
 refine .aj (.z zg (.nil (.aj (.z zg (.nil (.seq (.aj (.z zm (.z (dp af) ?_)))))))))
 refine .z zm (.nil ?_)
 refine .for (N:=as_.length) (J:=fun k fr w=>fr=[(3,I (if (2:Int)∈as_.take k then 2 else 1)),(6,.slice a as_.length c)]∧(∀i<k,gi as_ i≠0)∧St H w σ) ak ?_ ?_ ?_
 ·exact .mk ⟨rfl,fun i hi=>by omega,hs⟩
 ·rintro k fr w hk ⟨rfl,hno,hs⟩
  have ht:=dh (bU hk)
  refine .block (.aj ?_)
  refine .ixY hs hr rfl rfl af ai (bU (l:=as_) (i:=k) ak) de ?_;intro b10 o10 hc10
  refine .q hs (aW rfl ae hc10) ?_
  refine .z zg (.nil (.aj (.z zm (.nil (.block (.aj (.z gj (.z zg (.nil ?_)))))))))
  refine (.bH rfl (fun hc13=>?_) (fun hc13=>?_))
  ·refine .aj (.z zg (.nil ?_))
   refine .ret (rB (rB (rT (rB (rT (Fin.bE Tryz.results86 rfl ?_))))))
   exact ⟨by unfold Ag;rw [if_pos (by rw [←hc13];exact List.mem_of_getElem? (bU hk))],hs⟩
  ·refine .aj (.z gj (.z zg (.nil ?_)))
   refine (.bH rfl (fun hc15=>?_) (fun hc15=>?_))
   ·refine .region (.z zg (.nil ?_))
    refine nB (nB (nT ?_))
    exact .mk ⟨by rw [ht,if_pos (List.mem_append.2 (.inr (by rw [hc15];exact .head _)))],fun i hi=>by
     by_cases e:i=k
     ·subst e;exact hc13
     ·exact hno i ak,hs⟩
   ·refine .skip ?_
    refine nB (nB (nT ?_))
    have e2:(if (2:Int)∈as_.take (k+1) then (2:Int) else 1)=if (2:Int)∈as_.take k then 2 else 1:=by
     have e:(2:Int)∈as_.take (k+1)↔(2:Int)∈as_.take k:=by
      rw [ht,List.mem_append]
      exact ⟨fun h=>h.elim id fun h=>by rw [List.mem_singleton] at h;exact (hc15 h.symm).elim,.inl⟩
     simp only [e]
    exact .mk ⟨by rw [e2],fun i hi=>by
     by_cases e:i=k
     ·subst e;exact hc13
     ·exact hno i ak,hs⟩
 ·rintro fr w ⟨rfl,hno,hs⟩
  rw [List.take_length]
  refine nT ?_
  refine .aj (.z zm (.z zg (.nil ?_)))
  refine .ret (Fin.bE Tryz.results86 rfl ?_)
  have h0:¬(0:Int)∈as_:=fun h=>by
   obtain ⟨i,hi⟩:=List.getElem?_of_mem h
   have hlt:=(List.getElem?_eq_some_iff.1 hi).1
   rw [bU hlt] at hi
   exact hno i hlt (Option.some.inj hi)
  exact ⟨by unfold Ag;rw [if_neg h0],hs⟩
theorem nN{s:Srv}{l:Lns}{r:List Lg}{m:Rng}{a b c d vt vs vlg:Value}(hs:St H w σ)(g:SvM H s a b c d)(gl:LnM H l vt vs)(gr_:RLg H vlg r):
  Cl Tryz.prog 26 [svA s a b c d,lnA l vt vs,.agg #[vlg],.agg #[I m.lo,I m.hi]] w fun u w'=>∃H1 n e,HLe H H1∧u= .tuple #[I n,I e]∧Hh s l r m n e∧St H1 w' σ:=by
 refine Cl.o Tryz.func26 Tryz.ntmps26 ag4 ?_
 refine .aj ?_
 refine .bx hs fun b4 w hs=>?_
 refine .bx hs fun b5 w hs=>?_
 refine .bx hs fun b6 w hs=>?_
 refine .bx hs fun b7 w hs=>?_
 refine .z zg (.z zg (.nil (.aj (.y hs (zls [_,_,_,_,_,_,_,_] aZ aD) (.y hs (zls [_,_,_,_] bn aM) (.y hs (zls [_] dw bI) (.y hs (zls [_,_] bD aA) ?_)))))))
 refine .o (.call Tryz.call24 rfl (sh (s:=s) (l:=l) (m:=m) hs g gl gr_) ?_);rintro _ w ⟨H1,v,as_,e,hle1,rfl,hR,hA,hs⟩
 refine .z zm (.z zex (.z zex (.z zg (.z zg (.nil (.seq (.aj (.z zm (.z gS ?_)))))))))
 refine .nil ?_
 refine (.ek rfl (fun hc21=>?_) (fun hc21=>?_))
 ·refine .aj (.z zm (.z zg (.z zg (.nil ?_))))
  refine .ret (rT (Fin.iq Tryz.results26 rfl rfl ?_))
  exact ⟨H1,_,_,hle1,rfl,.bad hA hc21,hs.out⟩
 ·refine .skip ?_
  refine nT ?_
  refine .aj (.z zm ?_)
  obtain rfl:e=0:=by omega
  refine .o (.call Tryz.call86 rfl (ti hs hR) ?_);rintro _ w ⟨rfl,hs⟩
  refine .z zg (.z zg (.nil ?_))
  refine .ret (Fin.iq Tryz.results26 rfl rfl ?_)
  exact ⟨H1,_,_,hle1,rfl,.ok hA,hs.out⟩
set_option maxHeartbeats 1000000 in
theorem vO{s:Srv}{l:Lns}{r:List Lg}{a b c d vt vs vlg:Value}(hs:St H w σ)(g:SvM H s a b c d)(gl:LnM H l vt vs)(gr_:RLg H vlg r):
  Cl Tryz.prog 28 [svA s a b c d,lnA l vt vs,.agg #[vlg]] w fun u w'=>∃H1 n e,HLe H H1∧u= .tuple #[I n,I e]∧xV s l r n e∧St H1 w' σ:=by
 refine Cl.o Tryz.func28 Tryz.ntmps28 ag3 ?_
 refine .aj ?_
 refine .bx hs fun b3 w hs=>?_
 refine .bx hs fun b4 w hs=>?_
 refine .bx hs fun b5 w hs=>?_
 refine .z zg (.z zg (.nil (.aj (.y hs (zls [_,_,_,_,_,_,_,_] aZ aD) (.y hs (zls [_,_,_,_] bn aM) (.y hs (zls [_] dw bI) (.z (zbd [I 0,I 0] cz) ?_)))))))
 refine .o (.call Tryz.call79 rfl (nM (s:=s) (l:=l) (m:=⟨0,0⟩) hs g gl gr_) ?_);rintro _ w ⟨H1,z,ks,e,hle1,rfl,ho,hB,h0,hs⟩
 refine .z zm (.z zex (.z zex ?_))
 refine .o (.alloc hs kP rfl fun b8 w hs=>?_)
 refine .o (.aP (vs:=z.cs) hs rfl rfl db ?_ (hv:=ho));intro w hs
 refine .z zg (.nil (.seq (.aj (.z zm (.z gS (.nil ?_))))))
 refine (.ek rfl (fun hc25=>?_) (fun hc25=>?_))
 ·refine .aj (.z zm (.z zg (.z zg (.nil ?_))))
  refine .ret (rT (Fin.iq Tryz.results28 rfl rfl ?_))
  exact ⟨H1,_,_,hle1,rfl,.bad hB hc25,hs.out⟩
 ·refine .skip ?_
  refine nT ?_
  refine .aj (.z zg (.z zg (.nil (.seq (.aj ?_)))))
  obtain rfl:e=0:=by omega
  obtain ⟨s',l',a',b',c',d',t',n',lg',ms',mr'⟩:=z
  obtain ⟨rfl,rfl,-,-,hr',hms,hmr,hone,-⟩:=h0 rfl
  dsimp only at hr' hms hmr
  obtain ⟨alg,clg,rfl⟩:=hr'.shape
  obtain ⟨amr,cmr,rfl⟩:=RI.shape hmr
  obtain ⟨hok,hl,hrt,hm,hkl,hlow⟩:=hB.ok'
  have hn:=hrt.many
  refine .z (zfa jz) (.y hs (zld cQ) (.z (dp aJ) (.z zm (.nil ?_))))
  refine .for (N:=r.length) (J:=fun k fr w=>∃H2 dd best,fr=[(10,I best),(11,I (bg (fun i=>(lg0 r i).blo) k)),(28,.slice alg r.length clg),(8,.pointer (some ⟨b8,0,none⟩)),(3,.pointer (some ⟨b3,0,none⟩))]∧HLe H1 H2∧(∀i<k,∃hi,mh s' (gi ks i).toNat (lg0 r i).dlo (lg0 r i).dhi (dd i) hi 0)∧Hs dd (fun i=>(lg0 r i).blo) k best∧((-300000000≤best∧best≤1000000000000)∧0≤bg (fun i=>(lg0 r i).blo) k∧bg (fun i=>(lg0 r i).blo) k≤k*1000000000000)∧(0<k→s'.sys.Sound)∧St H2 w (.blk b8 (RtV.cs ⟨s',l',a',b',c',d',t',n',.slice alg r.length clg,ms',.slice amr ks.length cmr⟩):: .blk b3 (svC s' a b c d)::σ)) ak ?_ ?_ ?_
  ·exact .mk ⟨H1,fun _=>0,1000000000000,rfl,HLe.refl _,fun i hi=>by omega,.inl ⟨fun i hi=>by omega,rfl⟩,by simp [bg],fun h=>by omega,hs.sb⟩
  ·rintro k fr w hk ⟨H2,dd,best,rfl,hle2,hds,hSI,hbd,hsd,hs⟩
   have hx:=mu (l:=r) hk
   have hdn:=(hrt.leg k hk).1.dense
   have hbn:=(hrt.leg k hk).1.burn
   unfold iM at hbn
   obtain ⟨q,hq,hqw⟩:=hB.mark hk
   have hsS:bg (fun i=>(lg0 r i).blo) (k+1)=bg (fun i=>(lg0 r i).blo) k+(lg0 r k).blo:=rfl
   generalize hSe:bg (fun i=>(lg0 r i).blo) k=S at*
   refine .block (.aj (.z zm ?_))
   refine .ixX (enc:=Lg.c) hs (hr'.mono hle2) rfl rfl aJ aK hx de ?_;intro b33 o33 hc33
   refine .q hs (bY (vs:=(Lg.c (lg0 r k))) rfl dU aK hc33) ?_
   refine .o (.alloc hs dm rfl fun b13 w hs=>?_)
   refine .z zg ?_
   refine .o (.aP (vs:=(lg0 r k).c) hs rfl rfl aK fun w hs=>?_)
   change St _ _ (.blk b13 (lgC (lg0 r k))::_) at hs
   refine .nil ?_
   refine .cut (fun fs w=>∃H3 lo hi e b14,kJ fs ⟨68,[],[(15,I e),(14,.pointer (some ⟨b14,0,none⟩)),(13,.pointer (some ⟨b13,0,none⟩)),(10,I best),(11,I S),(28,.slice alg r.length clg),(8,.pointer (some ⟨b8,0,none⟩)),(3,.pointer (some ⟨b3,0,none⟩)),(30,I (k:Int)),(29,I (r.length:Int))]⟩∧HLe H2 H3∧mh s' q (lg0 r k).dlo (lg0 r k).dhi lo hi e∧St H3 w (.blk b14 [I lo,I hi]:: .blk b13 (lgC (lg0 r k)):: .blk b8 (RtV.cs ⟨s',l',a',b',c',d',t',n',.slice alg r.length clg,ms',.slice amr ks.length cmr⟩):: .blk b3 (svC s' a b c d)::σ)) ?_ ?_
   ·refine .draw mix rfl hs fun w hs=>?_
    refine .ys 0 rfl hs [_,_,_,_,_,_,_,_] aZ aD ?_;refine .z 1 rfl (zfa iB) ?_;refine .y 2 rfl hs an ?_;refine .z 3 rfl zm ?_
    refine .ixX (enc:=fun x=>[I x]) (i:=4) hs rfl aq .none (RS.mono hmr hle2) rfl rfl af ai (bU (l:=ks) (i:=k) ak) rfl ?_;intro b40 o40 hc40;replace hc40:=cg.one hc40
    refine .y 5 rfl hs ae ?_;refine .z 6 rfl (zfa fK) ?_;refine .ys 7 rfl hs [_,_] bD aA ?_
    refine .e2 (i:=8) (j:=12) aq rfl rfl rfl rfl .none .none hs ?_ ?_
    ·rw [hq]
     refine .call Tryz.call88 rfl (eK (s:=s') hs (g.mono (hle1.trans hle2)) hok hdn) ?_;rintro _ w ⟨H3,lo,hi,e,hle3,rfl,hS,hs⟩
     refine .go ?_
     refine .z 9 rfl zm ?_;refine .z 10 rfl zex ?_;refine .z 11 rfl zex ?_
     refine .E 12 hs ?_
     refine .alloc hs cO rfl ?_;intro b14 w hs
     refine .go ?_
     refine .E 13 hs ?_
     refine .aP (vs:=[_,_]) hs rfl rfl aA ?_;intro w hs
     refine .go ?_
     refine .z 14 rfl zg ?_;refine .D hs ?_
     exact nT ⟨H3,lo,hi,e,b14,bj,hle3,hS,hs.sb⟩
    ·refine .alloc hs cO rfl ?_;intro b14 w hs
     refine .go ?_
     refine .E 8 hs ?_
     rw [hq]
     refine .call Tryz.call88 rfl (eK (s:=s') hs (g.mono (hle1.trans hle2)) hok hdn) ?_;rintro _ w ⟨H3,lo,hi,e,hle3,rfl,hS,hs⟩
     refine .go ?_
     refine .z 9 rfl zm ?_;refine .z 10 rfl zex ?_;refine .z 11 rfl zex ?_
     refine .E 13 hs ?_
     refine .aP (vs:=[_,_]) hs rfl rfl aA ?_;intro w hs
     refine .go ?_
     refine .z 14 rfl zg ?_;refine .D hs ?_
     exact nT ⟨H3,lo,hi,e,b14,bj,hle3,hS,hs.sb⟩
   ·rintro fs w ⟨H3,lo,hi,e,b14,hfs,hle3,hS,hs⟩
    refine WE.sub ?_ hfs
    clear hfs
    have hle03:=hle1.trans (hle2.trans hle3)
    have hSb:=hS.bd hdn
    refine .seq (.aj (.z zm (.z gS (.nil ?_))))
    refine (.ek rfl (fun hc48=>?_) (fun hc48=>?_))
    ·refine .aj (.z zm (.z zg (.z zg (.nil ?_))))
     refine .ret (rT (rB (rT (rB (rT (Fin.iq Tryz.results28 rfl rfl ?_))))))
     exact ⟨H3,_,_,hle03,rfl,by rcases hS.err hok hqw with h|h;exact (hc48 h.1).elim;rw [h.1];exact .fls hB h.2.1,hs.out⟩
    ·refine .skip ?_
     refine nT ?_
     refine .seq (.aj (.z (zfa bX) ?_))
     obtain rfl:e=0:=by omega
     have hnx:∀i<k+1,∃hi,mh s' (gi ks i).toNat (lg0 r i).dlo (lg0 r i).dhi (Ej dd k lo i) hi 0:=fun i hi=>by
      by_cases e:i=k
      ·subst e;rw [w5,hq,Int.toNat_natCast];exact ⟨_,hS⟩
      ·rw [wZ _ _ ak];exact hds i ak
     have hsd':s'.sys.Sound:=(hS.err hok hqw).elim (fun h=>h.2) (fun h=>by omega)
     refine .y hs (zld ae) (.z iK (.nil ?_))
     refine (.bH rfl (fun hc52=>?_) (fun hc52=>?_))
     ·refine .region (.z zg (.nil ?_))
      refine nT ?_
      refine .aj (.z zm (.z (zfa bX) (.y hs (zld ae) (.z zm (.z cP (.z Bk (.z zg (.nil (.region ?_)))))))))
      refine .z zm (.z (zfa fJ) (.z (zfa bX) (.y hs (zld ae) (.z cP (.z zg (.nil ?_))))))
      refine nB (nT ?_)
      exact .mk ⟨H3,Ej dd k lo,min (-1) (lo+S),by rw [hsS],hle2.trans hle3,hnx,.neg hc52,ak,fun _=>hsd',hs.sb⟩
     ·refine .skip ?_
      refine nT ?_
      refine .aj (.z zm (.z (zfa bX) (.y hs (zld ae) (.z zm (.z cP (.z Bk (.z zg (.nil (.region ?_)))))))))
      refine .z zm (.z (zfa fJ) (.z (zfa bX) (.y hs (zld ae) (.z cP (.z zg (.nil ?_))))))
      refine nB (nT ?_)
      exact .mk ⟨H3,Ej dd k lo,min best (lo+S),by rw [hsS],hle2.trans hle3,hnx,by rw [←hSe];exact hSI.pos ak,ak,fun _=>hsd',hs.sb⟩
  ·rintro fr w ⟨H2,dd,best,rfl,hle2,hds,hSI,hbd,hsd,hs⟩
   refine nT ?_
   refine .seq (.aj (.z zm (.z iK (.nil ?_))))
   refine (.bH rfl (fun hc66=>?_) (fun hc66=>?_))
   ·refine .aj (.z zg (.z zg (.nil ?_)))
    refine .ret (rT (Fin.iq Tryz.results28 rfl rfl ?_))
    rcases hSI with ⟨h1,h2⟩|⟨⟨i,h1,h3⟩,h2⟩
    ·exfalso
     have key:∀n,n≤r.length→0≤uj dd (fun i=>(lg0 r i).blo) n:=fun n=>by
      induction n with
      |zero=>intro _;simp [uj]
      |succ n ih=>
       intro hn
       have:=ih ak
       have:=h1 n ak
       have:0≤bg (fun i=>(lg0 r i).blo) n:=dx fun i hi=>(hrt.leg i ak).1.burn.1
       simp only [uj];omega
     have:=key _ (Nat.le_refl _)
     omega
    ·obtain ⟨hi,hS⟩:=hds i h1
     exact ⟨H2,_,_,hle1.trans hle2,rfl,.none hB (hsd ak) h1 hS h3,hs.out⟩
   ·refine .skip ?_
    refine nT ?_
    refine .aj (.z zm (.z zg (.z zg (.nil ?_))))
    refine .ret (Fin.iq Tryz.results28 rfl rfl ?_)
    rcases hSI with ⟨h1,h2⟩|⟨_,h2⟩
    ·rw [h2]
     exact ⟨H2,_,_,hle1.trans hle2,rfl,.ok hB (hsd ak) fun i hi=>⟨hds i hi,h1 i hi⟩,hs.out⟩
    ·omega
set_option maxHeartbeats 1000000 in
theorem oN{s:Srv}{l:Lns}{r:List Lg}{m:Rng}{x:Wit}{a b c d vt vs vlg vh:Value}(hs:St H w σ)(g:SvM H s a b c d)(gl:LnM H l vt vs)(gr_:RLg H vlg r)(gh:RT H vh x.rows):
  Cl Tryz.prog 32 [svA s a b c d,lnA l vt vs,.agg #[vlg],.agg #[I m.lo,I m.hi],.agg #[I x.leg,I x.dense,I x.wD,vh]] w fun u w'=>∃H1 e,HLe H H1∧u=I e∧Gh s l r m x e∧St H1 w' σ:=by
 refine Cl.o Tryz.func32 Tryz.ntmps32 ag5 ?_
 refine .aj ?_
 refine .bx hs fun b5 w hs=>?_
 refine .bx hs fun b6 w hs=>?_
 refine .bx hs fun b7 w hs=>?_
 refine .bx hs fun b8 w hs=>?_
 refine .bx hs fun b9 w hs=>?_
 refine .z zg (.nil (.aj (.y hs (zls [_,_,_,_,_,_,_,_] aZ aD) (.y hs (zls [_,_,_,_] bn aM) (.y hs (zls [_] dw bI) (.y hs (zls [_,_] bD aA) ?_))))))
 refine .o (.call Tryz.call79 rfl (nM (s:=s) (l:=l) (m:=m) hs g gl gr_) ?_);rintro _ w ⟨H1,z,ks,e,hle1,rfl,ho,hB,h0,hs⟩
 refine .z zm (.z zex (.z zex ?_))
 refine .o (.alloc hs kP rfl fun b11 w hs=>?_)
 refine .o (.aP (vs:=z.cs) hs rfl rfl db ?_ (hv:=ho));intro w hs
 refine .z zg (.nil (.seq (.aj (.z zm (.z gS (.nil ?_))))))
 refine (.ek rfl (fun hc26=>?_) (fun hc26=>?_))
 ·refine .aj (.z zm (.z zg (.nil ?_)))
  refine .ret (rT (Fin.bE o6 rfl ?_))
  exact ⟨H1,_,hle1,rfl,.bad hB hc26,hs.out⟩
 ·refine .skip ?_
  refine nT ?_
  refine .seq (.aj ?_)
  obtain rfl:e=0:=by omega
  obtain ⟨s',l',a',b',c',d',t',n',lg',ms',mr'⟩:=z
  obtain ⟨rfl,rfl,g',-,hr',hms,hmr,hone,-⟩:=h0 rfl
  dsimp only at g' hr' hms hmr
  obtain ⟨alg,clg,rfl⟩:=hr'.shape
  obtain ⟨ams,cms,rfl⟩:=hms.shape
  obtain ⟨amr,cmr,rfl⟩:=RI.shape hmr
  obtain ⟨hok,hl,hrt,hm,hkl,hlow⟩:=hB.ok'
  have hn:=hrt.many
  have hml:=oB m r r.length
  replace gh:=gh.mono hle1
  refine .z (zfa jb) (.y hs (zld ae) (.z (zfa jz) (.y hs (zld cQ) (.z (dp aJ) (.z gM ?_)))))
  refine .o (.call eC rfl (bZ hs) ?_);rintro _ w ⟨rfl,hs⟩
  refine .z fW (.z zm ?_)
  refine .bif (t':=36) rfl (fun hb36=>?_) (fun hb36=>?_)
  ·refine .gFs 5 8 false rfl rfl rfl ?_
   refine .z zpT (.nil ?_)
   refine (.cT ?_)
   refine .aj (.z zg (.nil ?_))
   refine .ret (rT (Fin.bE o6 rfl ?_))
   exact ⟨H1,_,hle1,rfl,.no hB (fun h=>by have:=h.leg;simp_all),hs.out⟩
  ·refine .gT rfl rfl ?_
   refine .y hs (zls [_,_,_,_,_,_,_,_] aZ aD) ?_
   refine .gT rfl rfl ?_
   refine .z (zfa mR) ?_
   refine .gT rfl rfl ?_
   refine .y hs (zls [_] Tryz.isAgg64 zD) ?_
   refine .gT rfl rfl ?_
   refine .o (.call Tryz.call65 rfl (nj (s:=s') (rows:=x.rows) hs (g.mono hle1).st (g.mono hle1).wa (g.mono hle1).rd (g.mono hle1).cm gh) ?_);rintro _ w ⟨H2,e,hle2,rfl,hCh,hs⟩
   have hle02:=hle1.trans hle2
   refine .gT rfl rfl ?_
   refine .z gS (.z zpF (.nil ?_))
   refine (.ek rfl (fun hc42=>?_) (fun hc42=>?_))
   ·refine .aj (.z zg (.nil ?_))
    refine .ret (rT (Fin.bE o6 rfl ?_))
    exact ⟨H2,_,hle02,rfl,.no hB (fun h=>hc42 (hCh.uniq h.hull)),hs.out⟩
   ·refine .skip ?_
    refine nT ?_
    refine .cut (fun fs w=>∃b13 b14,kJ fs ⟨101,[],[(14,.pointer (some ⟨b14,0,none⟩)),(13,.pointer (some ⟨b13,0,none⟩)),(11,.pointer (some ⟨b11,0,none⟩)),(9,.pointer (some ⟨b9,0,none⟩))]⟩∧St H2 w (.blk b14 (oM m r x.leg.toNat).c:: .blk b13 (lg0 r x.leg.toNat).c:: .blk b11 (RtV.cs ⟨s',l',a',b',c',d',t',n',.slice alg r.length clg,.slice ams (msL m r r.length).length cms,.slice amr ks.length cmr⟩):: .blk b9 [I x.leg,I x.dense,I x.wD,vh]::σ)) ?_ ?_
    ·refine .draw mix rfl hs fun w hs=>?_
     have hleg:0≤x.leg∧x.leg≤(r.length:Int) - 1:=by simpa using hb36
     obtain rfl:e=0:=by omega
     have hlt:x.leg.toNat<r.length:=by omega
     have hxl:=mu (l:=r) hlt
     have hxm:=CZ m r (k:=r.length) (i:=x.leg.toNat) ak
     refine .z 0 rfl (zfa jz) ?_;refine .y 1 rfl hs cQ ?_;refine .z 2 rfl (zfa jb) ?_;refine .y 3 rfl hs ae ?_
     refine .ixX (enc:=Lg.c) (i:=4) hs rfl aq .none (RS.mono hr' hle2) rfl rfl aJ aK hxl ak ?_;intro b47 o47 hc47
     refine .r (i:=5) hs rfl aq .none (bY (vs:=(lg0 r x.leg.toNat).c) rfl dU aK hc47) ?_
     refine .z 6 rfl (zfa kZ) ?_;refine .y 7 rfl hs Tryz.isAgg80 ?_;refine .z 8 rfl (zfa jb) ?_;refine .y 9 rfl hs ae ?_
     refine .ixX (enc:=Rng.c) (i:=10) hs rfl aq .none (RS.mono hms hle2) rfl rfl ff aA hxm ak ?_;intro b53 o53 hc53
     refine .r (i:=11) hs rfl aq .none (bY (vs:=(oM m r x.leg.toNat).c) rfl bD aA hc53) ?_
     refine .e2 (i:=12) (j:=13) aq rfl rfl rfl rfl .none .none hs ?_ ?_
     ·refine .alloc hs dm rfl ?_;intro b13 w hs
      refine .go ?_
      refine .E 13 hs ?_
      refine .alloc hs cO rfl ?_;intro b14 w hs
      refine .go ?_
      refine .E 14 hs ?_
      refine .aP (vs:=(lg0 r x.leg.toNat).c) hs rfl rfl aK ?_;intro w hs
      refine .go ?_
      refine .E 15 hs ?_
      refine .aP (vs:=(oM m r x.leg.toNat).c) hs rfl rfl aA ?_;intro w hs
      refine .go ?_
      refine .D hs ?_
      exact nT ⟨b13,b14,bj,hs.sb⟩
     ·refine .alloc hs cO rfl ?_;intro b14 w hs
      refine .go ?_
      refine .E 12 hs ?_
      refine .alloc hs dm rfl ?_;intro b13 w hs
      refine .go ?_
      refine .E 14 hs ?_
      refine .aP (vs:=(lg0 r x.leg.toNat).c) hs rfl rfl aK ?_;intro w hs
      refine .go ?_
      refine .E 15 hs ?_
      refine .aP (vs:=(oM m r x.leg.toNat).c) hs rfl rfl aA ?_;intro w hs
      refine .go ?_
      refine .D hs ?_
      exact nT ⟨b13,b14,bj,hs.sb⟩
    ·rintro fs w ⟨b13,b14,hfs,hs⟩
     refine WE.sub ?_ hfs
     clear hfs
     have hleg:0≤x.leg∧x.leg≤(r.length:Int) - 1:=by simpa using hb36
     obtain rfl:e=0:=by omega
     have hlt:x.leg.toNat<r.length:=by omega
     obtain ⟨q,hq,hqw⟩:=hB.mark hlt
     have hdn:=(hrt.leg _ hlt).1.dense
     unfold gH at hdn
     change St _ _ (.blk b14 [I (oM m r x.leg.toNat).lo,I (oM m r x.leg.toNat).hi]:: .blk b13 (lgC (lg0 r x.leg.toNat))::_) at hs
     refine .seq (.aj (.z (zfa mT) (.y hs (zld ae) (.z (zfa fK) (.z (zfa bX) (.y hs (zld ae) (.z (zfa fK) (.z (zfa cJ) (.y hs (zld ae) ?_)))))))))
     refine .o (.call eC rfl (bZ hs) ?_);rintro _ w ⟨rfl,hs⟩
     refine .z fW (.z zm ?_)
     refine .bif (t':=65) rfl (fun hb65=>?_) (fun hb65=>?_)
     ·refine .gFs 8 10 false rfl rfl rfl ?_
      refine .z zpT (.nil ?_)
      refine (.cT ?_)
      refine .aj (.z zg (.nil ?_))
      refine .ret (rT (Fin.bE o6 rfl ?_))
      exact ⟨H2,_,hle02,rfl,.no hB (fun h=>by have:=h.dense;simp_all),hs.out⟩
     ·refine .gT rfl rfl ?_
      refine .z (zfa mS) ?_
      refine .gT rfl rfl ?_
      refine .y hs (zld ae) ?_
      refine .gT rfl rfl ?_
      refine .z (zfa bX) ?_
      refine .gT rfl rfl ?_
      refine .y hs (zld ae) ?_
      refine .gT rfl rfl ?_
      refine .z (zfa cJ) ?_
      refine .gT rfl rfl ?_
      refine .y hs (zld ae) ?_
      refine .gT rfl rfl ?_
      refine .o (.call eC rfl (bZ hs) ?_);rintro _ w ⟨rfl,hs⟩
      refine .gT rfl rfl ?_
      refine .z fW (.z zpF (.nil ?_))
      refine (.cond rfl (fun hc74=>?_) (fun hc74=>?_))
      ·refine .aj (.z zg (.nil ?_))
       refine .ret (rT (Fin.bE o6 rfl ?_))
       exact ⟨H2,_,hle02,rfl,.no hB (fun h=>by have:=h.wD;simp_all),hs.out⟩
      ·refine .skip ?_
       refine nT ?_
       refine .aj (.z zg (.nil ?_))
       refine .cut (fun fs w=>∃n H3,kJ fs ⟨101,[],[(15,I n),(9,.pointer (some ⟨b9,0,none⟩))]⟩∧HLe H H3∧HlR s' x.rows q n∧(-7000000000≤n∧n≤7000000000)∧St H3 w (.blk b9 [I x.leg,I x.dense,I x.wD,vh]::σ)) ?_ ?_
       ·refine .aj (.z (zfa iB) (.y hs (zld an) (.z (zfa jb) (.y hs (zld ae) ?_))))
        refine .ixX (enc:=fun x=>[I x]) hs (RS.mono hmr hle2) rfl rfl af ai (bU (l:=ks) (i:=x.leg.toNat) ak) ak ?_;intro b79 o79 hc79;replace hc79:=cg.one hc79
        rw [hq] at hc79
        refine .y hs (zld ae) (.z zg (.nil (.aj (.z zm (.z mI (.nil ?_))))))
        refine (.bH rfl (fun hc82=>?_) (fun hc82=>?_))
        ·refine .draw mix rfl hs fun w hs=>?_
         refine .z 0 rfl (zfa k7) ?_;refine .z 1 rfl (zfa bh) ?_;refine .ys 2 rfl hs [_,_,_,_,_,_] aV aH ?_;refine .z 3 rfl (zfa mR) ?_;refine .ys 4 rfl hs [_] Tryz.isAgg64 zD ?_;refine .z 5 rfl zm ?_
         refine .E 6 hs ?_
         refine .call Tryz.call98 rfl (lH hs) ?_;rintro _ w ⟨rfl,hs⟩
         refine .go ?_
         refine .E 7 hs ?_
         refine .call Tryz.call64 rfl (qE (s:=s'.sp) (rows:=x.rows) (q:=⟨1,0,q⟩) hs (g'.mono hle2).st (g'.mono hle2).wa (gh.mono hle2)) ?_;rintro _ w ⟨H3,n,f,hle3,rfl,hV,hs⟩
         refine .go ?_
         refine .z 8 rfl zm ?_;refine .z 9 rfl zex ?_;refine .z 10 rfl zex ?_;refine .z 11 rfl zg ?_;refine .D hs ?_
         refine nT ?_
         obtain rfl:f=0:=by
          have hhl:=hCh.Iq
          cases hV with
          |space h=>exact (h hok.early.1).elim
          |hull _ h=>exact (h hhl).elim
          |what _ _ h=>exact (h (CE (v:=s') ak hqw)).elim
          |ok=>rfl
         exact ⟨n,H3,bj,hle02.trans hle3,.up ak hV,hV.bd rfl,hs.sb⟩
        ·refine .skip ?_
         refine nT ?_
         exact ⟨0,H2,bj,hle02,.zero ak,ak,hs.sb⟩
       ·rintro fs w ⟨n,H3,hfs,hle03,hHl,hnb,hs⟩
        refine WE.sub ?_ hfs
        clear hfs
        have hdw:(lg0 r x.leg.toNat).dlo≤x.dense∧x.dense≤(lg0 r x.leg.toNat).dhi:=by simpa using hb65
        have hmw:(oM m r x.leg.toNat).lo≤x.wD∧x.wD≤(oM m r x.leg.toNat).hi:=by simpa using hc74
        refine .seq ?_
        refine .seq (.draw mix rfl hs fun w hs=>?_)
        refine .z 0 rfl (zfa mS) ?_;refine .y 1 rfl hs ae ?_;refine .z 2 rfl zm ?_;refine .z 3 rfl (zfa mT) ?_;refine .y 4 rfl hs ae ?_
        refine .E 5 hs ?_
        refine .call Tryz.call99 rfl (gV hs ak ak) ?_;rintro _ w ⟨rfl,hs⟩
        refine .go ?_
        refine .z 6 rfl oF ?_;refine .D hs ?_
        refine (.bH rfl (fun hc100=>?_) (fun hc100=>?_))
        ·refine .aj (.z zg (.nil ?_))
         refine .ret (rT (Fin.bE o6 rfl ?_))
         exact ⟨H3,_,hle03,rfl,.no hB (fun h=>by
          obtain ⟨n',g1,g2⟩:=h.sinks
          rw [hq,Int.toNat_natCast] at g1
          rw [←hHl.uniq g1] at g2;omega),hs.out⟩
        ·refine .skip ?_
         refine nT ?_
         refine .aj (.z zg (.nil ?_))
         refine .ret (Fin.bE o6 rfl ?_)
         exact ⟨H3,_,hle03,rfl,.ok hB ⟨hleg,hCh,hdw,hmw,n,by rw [hq,Int.toNat_natCast];exact hHl,ak⟩,hs.out⟩
theorem qP(hs:St H w σ):
  Cl Tryz.prog 71 [] w fun u w'=>∃H1 a b c d vt vs vlg,HLe H H1∧u= .tuple #[.agg #[I 1,I 1,a,b,I 100,I 200,c,d],.agg #[I 1000,I 1200,vt,vs],.agg #[vlg]]∧SvM H1 exV a b c d∧LnM H1 pj vt vs∧RLg H1 vlg mg∧St H1 w' σ:=by
 refine Cl.of Tryz.func71 rfl Tryz.ntmps71 cu (xS) ?_
 refine .aj ?_
 refine .o (.alloc hs eb rfl fun b0 w hs=>?_)
 refine .o (.alloc hs iJ rfl fun b1 w hs=>?_)
 refine .o (.alloc hs jJ rfl fun b2 w hs=>?_)
 refine .nil (.aj ?_)
 refine .o (.buildSlice (cells:=Is [0,1000]) hs kd rfl aq fun b8 w hs=>?_)
 refine .o (.buildSlice (cells:=Is [0,1000]) hs kd rfl aq fun b9 w hs=>?_)
 refine .z (zbd [_,_] sR) (.z (zbd [_,_,_,_,_,_] rl) ?_)
 refine .o (.alloc hs jI rfl fun b3 w hs=>?_)
 refine .o (.aP (vs:=[_,_,_,_,_,_]) hs rfl rfl aH fun w hs=>?_)
 refine .nil (.aj (.y hs (zls [_,_,_,_,_,_] aV aH) (.z (zbd [_,_,_,_,_,_,_] iH) (.z (zbd [_,_,_,_,_,_,_] iH) (.z (zbd [_,_,_,_,_,_,_] iH) (.z (zbd [_,_,_,_,_,_,_] iH) ?_))))))
 refine .o (.buildSlice (cells:=(rdc Hp).flatten) hs oV rfl aq fun b17 w hs=>?_)
 refine .z (zbd [_,_,_,_,_,_] oo) ?_
 refine .o (.buildSlice (cells:=(cmc exV.cs).flatten) hs kA rfl aq fun b19 w hs=>?_)
 refine .z (zbd (vs:=[(0,.agg #[I 1,I 1,.slice (some ⟨b8,0,none⟩) 2 2,.slice (some ⟨b9,0,none⟩) 2 2,I 100,I 200]),(1,.slice (some ⟨b17,0,none⟩) 4 4),(2,.slice (some ⟨b19,0,none⟩) 1 1)]) [I 1,I 1,.slice (some ⟨b8,0,none⟩) 2 2,.slice (some ⟨b9,0,none⟩) 2 2,I 100,I 200,.slice (some ⟨b17,0,none⟩) 4 4,.slice (some ⟨b19,0,none⟩) 1 1] pq rfl aq) ?_
 refine .o (.alloc hs eb rfl fun b4 w hs=>?_)
 refine .o (.aP (vs:=[_,_,_,_,_,_,_,_]) hs rfl rfl aD fun w hs=>?_)
 refine .nil (.aj (.z (zbd [_,_] gD) (.z (zbd [_,_] gD) ?_)))
 refine .o (.buildSlice (cells:=(fbc pj.table).flatten) hs nt rfl aq fun b23 w hs=>?_)
 refine .z (zbd [_,_,_,_] pv) ?_
 refine .o (.buildSlice (cells:=(snc pj.seasons).flatten) hs k9 rfl aq fun b25 w hs=>?_)
 refine .z (zbd (vs:=[(0,I 1000),(1,I 1200),(2,.slice (some ⟨b23,0,none⟩) 2 2),(3,.slice (some ⟨b25,0,none⟩) 1 1)]) [I 1000,I 1200,.slice (some ⟨b23,0,none⟩) 2 2,.slice (some ⟨b25,0,none⟩) 1 1] rm rfl aq) ?_
 refine .o (.alloc hs iJ rfl fun b5 w hs=>?_)
 refine .o (.aP (vs:=[_,_,_,_]) hs rfl rfl aM fun w hs=>?_)
 refine .nil (.aj (.z (zbd [_,_] cz) ?_))
 refine .o (.alloc hs cO rfl fun b6 w hs=>?_)
 refine .o (.aP (vs:=[_,_]) hs rfl rfl aA fun w hs=>?_)
 refine .nil (.aj (.z (zbd [_,_] cz) ?_))
 refine .o (.alloc hs cO rfl fun b7 w hs=>?_)
 refine .o (.aP (vs:=[_,_]) hs rfl rfl aA fun w hs=>?_)
 refine .nil ?_
 refine .cut (fun fs w=>∃b37,kJ fs ⟨39,[],[(2,.pointer (some ⟨b2,0,none⟩)),(1,.pointer (some ⟨b1,0,none⟩)),(0,.pointer (some ⟨b0,0,none⟩))]⟩∧St H w (.blk b2 [.slice (some ⟨b37,0,none⟩) 2 2]:: .blk b1 [I 1000,I 1200,.slice (some ⟨b23,0,none⟩) 2 2,.slice (some ⟨b25,0,none⟩) 1 1]:: .blk b0 [I 1,I 1,.slice (some ⟨b8,0,none⟩) 2 2,.slice (some ⟨b9,0,none⟩) 2 2,I 100,I 200,.slice (some ⟨b17,0,none⟩) 4 4,.slice (some ⟨b19,0,none⟩) 1 1]:: .blk b37 (lgc mg).flatten:: .blk b25 (snc pj.seasons).flatten:: .blk b23 (fbc pj.table).flatten:: .blk b19 (cmc exV.cs).flatten:: .blk b17 (rdc Hp).flatten:: .blk b9 (Is [0,1000]):: .blk b8 (Is [0,1000])::σ)) ?_ ?_
 ·refine .draw mix rfl hs fun w hs=>?_
  refine .ys 0 rfl hs [_,_,_,_,_,_,_,_] aZ aD ?_;refine .ys 1 rfl hs [_,_,_,_] bn aM ?_;refine .ys 2 rfl hs [_,_] bD aA ?_;refine .ys 3 rfl hs [_,_] bD aA ?_;refine .z 4 rfl (zbd (lg0 mg 0).c la rfl aq) ?_;refine .ys 5 rfl hs [_,_] bD aA ?_;refine .ys 6 rfl hs [_,_] bD aA ?_;refine .z 7 rfl (zbd (lg0 mg 1).c la rfl aq) ?_
  refine .e2 (i:=8) (j:=10) aq rfl rfl rfl rfl .none .none hs ?_ ?_
  ·refine .buildSlice (cells:=(lgc mg).flatten) hs kq rfl aq ?_;intro b37 w hs
   refine .go ?_
   refine .z 9 rfl (zbd [_] mC) ?_
   refine .E 10 hs ?_
   refine .aP (vs:=[_,_,_,_,_,_,_,_]) hs rfl rfl aD ?_;intro w hs
   refine .go ?_
   refine .E 11 hs ?_
   refine .aP (vs:=[_,_,_,_]) hs rfl rfl aM ?_;intro w hs
   refine .go ?_
   refine .E 12 hs ?_
   refine .aP (vs:=[_]) hs rfl rfl bI ?_;intro w hs
   refine .go ?_
   refine .D hs ?_
   exact nT ⟨b37,bj,hs.sb⟩
  ·refine .aP (vs:=[_,_,_,_,_,_,_,_]) hs rfl rfl aD ?_;intro w hs
   refine .go ?_
   refine .e2 (i:=8) (j:=11) aq rfl rfl rfl rfl .none .none hs ?_ ?_
   ·refine .buildSlice (cells:=(lgc mg).flatten) hs kq rfl aq ?_;intro b37 w hs
    refine .go ?_
    refine .z 9 rfl (zbd [_] mC) ?_
    refine .E 11 hs ?_
    refine .aP (vs:=[_,_,_,_]) hs rfl rfl aM ?_;intro w hs
    refine .go ?_
    refine .E 12 hs ?_
    refine .aP (vs:=[_]) hs rfl rfl bI ?_;intro w hs
    refine .go ?_
    refine .D hs ?_
    exact nT ⟨b37,bj,hs.sb⟩
   ·refine .aP (vs:=[_,_,_,_]) hs rfl rfl aM ?_;intro w hs
    refine .go ?_
    refine .E 8 hs ?_
    refine .buildSlice (cells:=(lgc mg).flatten) hs kq rfl aq ?_;intro b37 w hs
    refine .go ?_
    refine .z 9 rfl (zbd [_] mC) ?_
    refine .E 12 hs ?_
    refine .aP (vs:=[_]) hs rfl rfl bI ?_;intro w hs
    refine .go ?_
    refine .D hs ?_
    exact nT ⟨b37,bj,hs.sb⟩
 ·rintro fs w ⟨b37,hfs,hs⟩
  refine WE.sub ?_ hfs
  clear hfs
  refine .ret ?_
  obtain ⟨H1,g1,r1,hs⟩:=cI.eJ (xs:=[0,1000]) (v:= .slice (some ⟨b8,0,none⟩) 2 2) (.full rfl) cu hs dE
  obtain ⟨H2,g2,r2,hs⟩:=cI.eJ (xs:=[0,1000]) (v:= .slice (some ⟨b9,0,none⟩) 2 2) (.full rfl) cu hs dE
  obtain ⟨H3,g3,r3,hs⟩:=cI.cV (m:=7) (cs:=rdc Hp) (v:= .slice (some ⟨b17,0,none⟩) 4 4) (.full aq) (jO _) ak dO hs dE
  obtain ⟨H4,g4,r4,hs⟩:=cI.cV (m:=6) (cs:=cmc exV.cs) (v:= .slice (some ⟨b19,0,none⟩) 1 1) (.full aq) (su _) ak dO hs dE
  obtain ⟨H5,g5,r5,hs⟩:=cI.cV (m:=2) (cs:=fbc pj.table) (v:= .slice (some ⟨b23,0,none⟩) 2 2) (.full aq) (Fs _) ak dO hs dE
  obtain ⟨H6,g6,r6,hs⟩:=cI.cV (m:=4) (cs:=snc pj.seasons) (v:= .slice (some ⟨b25,0,none⟩) 1 1) (.full aq) (yv _) ak dO hs dE
  obtain ⟨H7,g7,r7,hs⟩:=cI.cV (m:=7) (cs:=lgc mg) (v:= .slice (some ⟨b37,0,none⟩) 2 2) (.full aq) (Ad _) ak dO hs dE
  have k6:=g6.trans g7
  have k5:=g5.trans k6
  have k4:=g4.trans k5
  have k3:=g3.trans k4
  have k2:=g2.trans k3
  exact Fin.iZ [] [] hs fun w hs=>⟨_,results3 Tryz.results71 (dJ (vs:=[I 1,I 1,.slice (some ⟨b8,0,none⟩) 2 2,.slice (some ⟨b9,0,none⟩) 2 2,I 100,I 200,.slice (some ⟨b17,0,none⟩) 4 4,.slice (some ⟨b19,0,none⟩) 1 1]) hs rfl aZ aD) (dJ (vs:=[I 1000,I 1200,.slice (some ⟨b23,0,none⟩) 2 2,.slice (some ⟨b25,0,none⟩) 1 1]) hs rfl bn aM) (dJ (vs:=[.slice (some ⟨b37,0,none⟩) 2 2]) hs rfl dw bI),H7,_,_,_,_,_,_,_,g1.trans k2,rfl,⟨r1.mono k2,r2.mono k3,r3.mono k4,r4.mono k5⟩,⟨r5.mono k6,r6.mono g7⟩,r7,hs.out⟩
set_option maxRecDepth 100000 in
theorem Bt:Tryz.prog.stoodInHeld 42=false:=by kernel_rfl
set_option maxRecDepth 100000 in
theorem Bu:Tryz.prog.eqGuardType Tryz.prog.depth 42=false:=by kernel_rfl
set_option maxHeartbeats 4000000 in
theorem uP(hs:St H w σ):
  Cl Tryz.prog 18 [] w fun u w'=>u= .bool true∧∃H1,HLe H H1∧St H1 w' σ:=by
 refine Cl.of Tryz.func18 rfl Tryz.ntmps18 cu (xS) ?_
 refine .aj (.z zg (.nil (.aj ?_)))
 refine .o (.call Tryz.call71 rfl (qP hs) ?_);rintro _ w ⟨H1,a,b,c,d,vt,vs,vlg,hle1,rfl,g,gl,gr_,hs⟩
 obtain ⟨aa,ca,rfl⟩:=RI.shape g.st
 obtain ⟨ab,cb,rfl⟩:=RI.shape g.wa
 obtain ⟨ac,cc,rfl⟩:=RRd.shape g.rd
 obtain ⟨ad,cd,rfl⟩:=RCm.shape g.cm
 obtain ⟨at_,ct,rfl⟩:=gl.tb.shape
 obtain ⟨as_,cs,rfl⟩:=gl.sn.shape
 obtain ⟨ar,cr,rfl⟩:=gr_.shape
 refine .z zm (.z zex (.z zex (.z zex ?_)))
 refine .o (.alloc hs eb rfl fun b1 w hs=>?_)
 refine .o (.alloc hs iJ rfl fun b2 w hs=>?_)
 refine .o (.alloc hs jJ rfl fun b3 w hs=>?_)
 refine .o (.aP (vs:=[_,_,_,_,_,_,_,_]) hs rfl rfl aD fun w hs=>?_)
 refine .o (.aP (vs:=[_,_,_,_]) hs rfl rfl aM fun w hs=>?_)
 refine .o (.aP (vs:=[_]) hs rfl rfl bI fun w hs=>?_)
 refine .nil (.aj (.y hs (zls [_,_,_,_] bn aM) ?_))
 refine .o (.call Tryz.call37 rfl (pU (l:=pj) hs gl.tb gl.sn) ?_);rintro _ w ⟨n,e,rfl,hF,hs⟩
 obtain ⟨rfl,rfl⟩:=Dw hF
 refine .z zm (.z zex (.z zex (.z zg (.z zg (.nil (.aj (.y hs (zls [_,_,_,_] bn aM) ?_)))))))
 refine .o (.call Tryz.call41 rfl (mQ (l:=pj) hs gl.tb gl.sn) ?_);rintro _ w ⟨n,e,rfl,hF,hs⟩
 obtain ⟨rfl,rfl⟩:=Ao hF
 refine .z zm (.z zex (.z zex (.z zg (.z zg (.nil (.aj (.y hs (zls [_,_,_,_,_,_,_,_] aZ aD) (.z (zbd [I 1000,I 1025] cz) ?_))))))))
 refine .o (.call Tryz.call58 rfl (nk (s:=exV) hs g) ?_);rintro _ w ⟨H2,lo,hi,e,hle2,rfl,hD,hs⟩
 obtain ⟨rfl,rfl,rfl,hL⟩:=Dx hD
 replace g:=g.mono hle2
 replace gl:=gl.mono hle2
 replace gr_:=gr_.mono hle2
 refine .z zm (.z zex (.z zex ?_))
 refine .o (.alloc hs cO rfl fun b8 w hs=>?_)
 refine .o (.aP (vs:=[_,_]) hs rfl rfl aA fun w hs=>?_)
 refine .z zg (.nil (.aj (.y hs (zls [_,_,_,_,_,_,_,_] aZ aD) (.y hs (zls [_,_,_,_] bn aM) (.y hs (zls [_] dw bI) (.z (zbd [I 150,I 160] cz) ?_))))))
 refine .o (.call Tryz.call26 rfl (nN (s:=exV) (l:=pj) (r:=mg) (m:=⟨150,160⟩) hs g gl gr_) ?_);rintro _ w ⟨H3,n,e,hle3,rfl,hJ,hs⟩
 obtain ⟨rfl,rfl⟩:=wL hL dO hJ
 rw [show Ag [B4 (oM ⟨150,160⟩ mg 0) 190 404,B4 (oM ⟨150,160⟩ mg 1) 190 404]=1 by decide]
 replace g:=g.mono hle3
 replace gl:=gl.mono hle3
 replace gr_:=gr_.mono hle3
 refine .z zm (.z zex (.z zex (.z zg (.z zg (.nil (.aj (.y hs (zls [_,_,_,_,_,_,_,_] aZ aD) (.y hs (zls [_,_,_,_] bn aM) (.y hs (zls [_] dw bI) ?_)))))))))
 refine .z (zbd [I 180,I 200] cz) ?_
 refine .o (.call Tryz.call26 rfl (nN (s:=exV) (l:=pj) (r:=mg) (m:=⟨180,200⟩) hs g gl gr_) ?_);rintro _ w ⟨H4,n,e,hle4,rfl,hJ,hs⟩
 obtain ⟨rfl,rfl⟩:=wL hL dO hJ
 rw [show Ag [B4 (oM ⟨180,200⟩ mg 0) 190 404,B4 (oM ⟨180,200⟩ mg 1) 190 404]=2 by decide]
 replace g:=g.mono hle4
 replace gl:=gl.mono hle4
 replace gr_:=gr_.mono hle4
 refine .z zm (.z zex (.z zex (.z zg (.z zg (.nil (.aj (.y hs (zls [_,_,_,_,_,_,_,_] aZ aD) (.y hs (zls [_,_,_,_] bn aM) (.y hs (zls [_] dw bI) ?_)))))))))
 refine .o (.call Tryz.call28 rfl (vO (s:=exV) (l:=pj) (r:=mg) hs g gl gr_) ?_);rintro _ w ⟨H5,n,e,hle5,rfl,hS,hs⟩
 obtain ⟨rfl,rfl⟩:=Dv hL hS
 replace g:=g.mono hle5
 replace gl:=gl.mono hle5
 replace gr_:=gr_.mono hle5
 have hle05:=hle1.trans (hle2.trans (hle3.trans (hle4.trans hle5)))
 refine .z zm (.z zex (.z zex (.z zg (.z zg (.nil (.aj ?_))))))
 refine .o (.buildSlice (cells:=Is [75,175]) hs kd rfl aq fun b61 w hs=>?_)
 refine .o (.buildSlice (cells:=Is [0,130]) hs kd rfl aq fun b62 w hs=>?_)
 refine .o (.buildSlice (cells:=[.slice (some ⟨b61,0,none⟩) 2 2,.slice (some ⟨b62,0,none⟩) 2 2]) hs vS rfl aq fun b63 w hs=>?_)
 refine .z (zbd [_] zq) ?_
 obtain ⟨H6,g6,r6,hs⟩:=cI.eJ (xs:=[75,175]) (v:= .slice (some ⟨b61,0,none⟩) 2 2) (.full rfl) cu hs dE
 obtain ⟨H7,g7,r7,hs⟩:=cI.eJ (xs:=[0,130]) (v:= .slice (some ⟨b62,0,none⟩) 2 2) (.full rfl) cu hs dE
 have hRL:RLs H7 [.slice (some ⟨b61,0,none⟩) 2 2,.slice (some ⟨b62,0,none⟩) 2 2] Hq:=((RLs.nil H7).snoc (r6.mono g7)).snoc r7
 obtain ⟨H8,g8,hRT,hs⟩:=hRL.cV (v:= .slice (some ⟨b63,0,none⟩) 2 2) (en:= .blk b63 [.slice (some ⟨b61,0,none⟩) 2 2,.slice (some ⟨b62,0,none⟩) 2 2]) (.full rfl) cu hs dE
 have hle8:=g6.trans (g7.trans g8)
 replace g:=g.mono hle8
 replace gl:=gl.mono hle8
 replace gr_:=gr_.mono hle8
 refine .z (zbd [_,_,_,_] uY) ?_
 refine .o (.alloc hs Tryz.zeroValue66 rfl fun b16 w hs=>?_)
 refine .o (.aP (vs:=[_,_,_,_]) hs rfl rfl Tryz.sizeOf66 fun w hs=>?_)
 refine .nil (.aj (.z zm (.z gj (.z zm ?_))))
 refine .iW (t':=68) rfl (fun hb68=>?_) (fun hb68=>?_)
 ·refine .gT rfl rfl ?_
  refine .z zm ?_
  refine .gT rfl rfl ?_
  refine .z gj (.z zpT (.z zm ?_))
  refine .iW (t':=72) rfl (fun hb72=>?_) (fun hb72=>?_)
  ·refine .gT rfl rfl ?_
   refine .z zm ?_
   refine .gT rfl rfl ?_
   refine .z gj (.z zpT (.z zm ?_))
   refine .iW (t':=76) rfl (fun hb76=>?_) (fun hb76=>?_)
   ·refine .gT rfl rfl ?_
    refine .z zm ?_
    refine .gT rfl rfl ?_
    refine .z gj (.z zpT (.z zm ?_))
    refine .iW (t':=80) rfl (fun hb80=>?_) (fun hb80=>?_)
    ·refine .gT rfl rfl ?_
     refine .z zm ?_
     refine .gT rfl rfl ?_
     refine .z gj (.z zpT (.z zm ?_))
     refine .iW (t':=84) rfl (fun hb84=>?_) (fun hb84=>?_)
     ·refine .gT rfl rfl ?_
      refine .y hs (zls [_,_] bD aA) ?_
      refine .gT rfl rfl ?_
      refine .z (zbd [_,_] cz) ?_
      refine .gT rfl rfl ?_
      refine .q hs (yI Bt Bu FQ (fun f hf=>by
       simp only [List.mem_cons,List.not_mem_nil,or_false] at hf
       rcases hf with rfl|rfl<;>exact ⟨by decide,bA,ae⟩) rfl rfl) ?_
      refine .z zpT (.z zm ?_)
      refine .bif (t':=89) rfl (fun hb89=>?_) (fun hb89=>?_)
      ·refine .gT rfl rfl ?_
       refine .z zm ?_
       refine .gT rfl rfl ?_
       refine .z gj (.z zpT (.z zm ?_))
       refine .iW (t':=93) rfl (fun hb93=>?_) (fun hb93=>?_)
       ·refine .gT rfl rfl ?_
        refine .z zm ?_
        refine .gT rfl rfl ?_
        refine .z gj (.z zpT (.z zm ?_))
        refine .iW (t':=97) rfl (fun hb97=>?_) (fun hb97=>?_)
        ·refine .gT rfl rfl ?_
         refine .z zm ?_
         refine .gT rfl rfl ?_
         refine .z gj (.z zpT (.z zm ?_))
         refine .iW (t':=101) rfl (fun hb101=>?_) (fun hb101=>?_)
         ·refine .gT rfl rfl ?_
          refine .z zm ?_
          refine .gT rfl rfl ?_
          refine .z gj (.z zpT (.z zm ?_))
          refine .iW (t':=105) rfl (fun hb105=>?_) (fun hb105=>?_)
          ·refine .gT rfl rfl ?_
           refine .z zm ?_
           refine .gT rfl rfl ?_
           refine .z gj (.z zpT (.z zm ?_))
           refine .iW (t':=109) rfl (fun hb109=>?_) (fun hb109=>?_)
           ·refine .gT rfl rfl ?_
            refine .z zm ?_
            refine .gT rfl rfl ?_
            refine .z gj (.z zpT (.z zm ?_))
            refine .iW (t':=113) rfl (fun hb113=>?_) (fun hb113=>?_)
            ·refine .gT rfl rfl ?_
             refine .y hs (zls [_,_,_,_,_,_,_,_] aZ aD) ?_
             refine .gT rfl rfl ?_
             refine .y hs (zls [_,_,_,_] bn aM) ?_
             refine .gT rfl rfl ?_
             refine .y hs (zls [_] dw bI) ?_
             refine .gT rfl rfl ?_
             refine .z (zbd [I 180,I 200] cz) ?_
             refine .gT rfl rfl ?_
             refine .y hs (zls [_,_,_,_] Tryz.isAgg66 Tryz.sizeOf66) ?_
             refine .gT rfl rfl ?_
             refine .o (.call Tryz.call32 rfl (oN (s:=exV) (l:=pj) (r:=mg) (m:=⟨180,200⟩) (x:=⟨0,1000,200,Hq⟩) hs g gl gr_ hRT) ?_);rintro _ w ⟨H9,e,hle9,rfl,hW,hs⟩
             obtain rfl:=Ft hW
             have hleF:=(hle05.trans hle8).trans hle9
             refine .gT rfl rfl ?_
             refine .z gj (.z zpT (.z zg (.nil ?_)))
             refine .ret (Fin.bE eW rfl ?_)
             first
             |exact ⟨rfl,H9,hleF,hs.out⟩
             |contradiction
             |(exfalso;simp_all;done)
            ·refine .gFs 7 47 true rfl rfl rfl ?_
             refine .z zpF (.z zg (.nil ?_))
             refine .ret (Fin.bE eW rfl ?_)
             first
             |exact ⟨rfl,H9,hleF,hs.out⟩
             |contradiction
             |(exfalso;simp_all;done)
           ·refine .gFs 2 43 true rfl rfl rfl ?_
            refine .z zpF (.z zm ?_)
            refine .gFs 7 47 true rfl rfl rfl ?_
            refine .z zpF (.z zg (.nil ?_))
            refine .ret (Fin.bE eW rfl ?_)
            first
            |exact ⟨rfl,H9,hleF,hs.out⟩
            |contradiction
            |(exfalso;simp_all;done)
          ·refine .gFs 2 39 true rfl rfl rfl ?_
           refine .z zpF (.z zm ?_)
           refine .gFs 2 43 true rfl rfl rfl ?_
           refine .z zpF (.z zm ?_)
           refine .gFs 7 47 true rfl rfl rfl ?_
           refine .z zpF (.z zg (.nil ?_))
           refine .ret (Fin.bE eW rfl ?_)
           first
           |exact ⟨rfl,H9,hleF,hs.out⟩
           |contradiction
           |(exfalso;simp_all;done)
         ·refine .gFs 2 35 true rfl rfl rfl ?_
          refine .z zpF (.z zm ?_)
          refine .gFs 2 39 true rfl rfl rfl ?_
          refine .z zpF (.z zm ?_)
          refine .gFs 2 43 true rfl rfl rfl ?_
          refine .z zpF (.z zm ?_)
          refine .gFs 7 47 true rfl rfl rfl ?_
          refine .z zpF (.z zg (.nil ?_))
          refine .ret (Fin.bE eW rfl ?_)
          first
          |exact ⟨rfl,H9,hleF,hs.out⟩
          |contradiction
          |(exfalso;simp_all;done)
        ·refine .gFs 2 31 true rfl rfl rfl ?_
         refine .z zpF (.z zm ?_)
         refine .gFs 2 35 true rfl rfl rfl ?_
         refine .z zpF (.z zm ?_)
         refine .gFs 2 39 true rfl rfl rfl ?_
         refine .z zpF (.z zm ?_)
         refine .gFs 2 43 true rfl rfl rfl ?_
         refine .z zpF (.z zm ?_)
         refine .gFs 7 47 true rfl rfl rfl ?_
         refine .z zpF (.z zg (.nil ?_))
         refine .ret (Fin.bE eW rfl ?_)
         first
         |exact ⟨rfl,H9,hleF,hs.out⟩
         |contradiction
         |(exfalso;simp_all;done)
       ·refine .gFs 2 27 true rfl rfl rfl ?_
        refine .z zpF (.z zm ?_)
        refine .gFs 2 31 true rfl rfl rfl ?_
        refine .z zpF (.z zm ?_)
        refine .gFs 2 35 true rfl rfl rfl ?_
        refine .z zpF (.z zm ?_)
        refine .gFs 2 39 true rfl rfl rfl ?_
        refine .z zpF (.z zm ?_)
        refine .gFs 2 43 true rfl rfl rfl ?_
        refine .z zpF (.z zm ?_)
        refine .gFs 7 47 true rfl rfl rfl ?_
        refine .z zpF (.z zg (.nil ?_))
        refine .ret (Fin.bE eW rfl ?_)
        first
        |exact ⟨rfl,H9,hleF,hs.out⟩
        |contradiction
        |(exfalso;simp_all;done)
      ·refine .gFs 2 23 true rfl rfl rfl ?_
       refine .z zpF (.z zm ?_)
       refine .gFs 2 27 true rfl rfl rfl ?_
       refine .z zpF (.z zm ?_)
       refine .gFs 2 31 true rfl rfl rfl ?_
       refine .z zpF (.z zm ?_)
       refine .gFs 2 35 true rfl rfl rfl ?_
       refine .z zpF (.z zm ?_)
       refine .gFs 2 39 true rfl rfl rfl ?_
       refine .z zpF (.z zm ?_)
       refine .gFs 2 43 true rfl rfl rfl ?_
       refine .z zpF (.z zm ?_)
       refine .gFs 7 47 true rfl rfl rfl ?_
       refine .z zpF (.z zg (.nil ?_))
       refine .ret (Fin.bE eW rfl ?_)
       first
       |exact ⟨rfl,H9,hleF,hs.out⟩
       |contradiction
       |(exfalso;simp_all;done)
     ·refine .gFs 3 18 true rfl rfl rfl ?_
      refine .z zpF (.z zm ?_)
      refine .gFs 2 23 true rfl rfl rfl ?_
      refine .z zpF (.z zm ?_)
      refine .gFs 2 27 true rfl rfl rfl ?_
      refine .z zpF (.z zm ?_)
      refine .gFs 2 31 true rfl rfl rfl ?_
      refine .z zpF (.z zm ?_)
      refine .gFs 2 35 true rfl rfl rfl ?_
      refine .z zpF (.z zm ?_)
      refine .gFs 2 39 true rfl rfl rfl ?_
      refine .z zpF (.z zm ?_)
      refine .gFs 2 43 true rfl rfl rfl ?_
      refine .z zpF (.z zm ?_)
      refine .gFs 7 47 true rfl rfl rfl ?_
      refine .z zpF (.z zg (.nil ?_))
      refine .ret (Fin.bE eW rfl ?_)
      first
      |exact ⟨rfl,H9,hleF,hs.out⟩
      |contradiction
      |(exfalso;simp_all;done)
    ·refine .gFs 2 14 true rfl rfl rfl ?_
     refine .z zpF (.z zm ?_)
     refine .gFs 3 18 true rfl rfl rfl ?_
     refine .z zpF (.z zm ?_)
     refine .gFs 2 23 true rfl rfl rfl ?_
     refine .z zpF (.z zm ?_)
     refine .gFs 2 27 true rfl rfl rfl ?_
     refine .z zpF (.z zm ?_)
     refine .gFs 2 31 true rfl rfl rfl ?_
     refine .z zpF (.z zm ?_)
     refine .gFs 2 35 true rfl rfl rfl ?_
     refine .z zpF (.z zm ?_)
     refine .gFs 2 39 true rfl rfl rfl ?_
     refine .z zpF (.z zm ?_)
     refine .gFs 2 43 true rfl rfl rfl ?_
     refine .z zpF (.z zm ?_)
     refine .gFs 7 47 true rfl rfl rfl ?_
     refine .z zpF (.z zg (.nil ?_))
     refine .ret (Fin.bE eW rfl ?_)
     first
     |exact ⟨rfl,H9,hleF,hs.out⟩
     |contradiction
     |(exfalso;simp_all;done)
   ·refine .gFs 2 10 true rfl rfl rfl ?_
    refine .z zpF (.z zm ?_)
    refine .gFs 2 14 true rfl rfl rfl ?_
    refine .z zpF (.z zm ?_)
    refine .gFs 3 18 true rfl rfl rfl ?_
    refine .z zpF (.z zm ?_)
    refine .gFs 2 23 true rfl rfl rfl ?_
    refine .z zpF (.z zm ?_)
    refine .gFs 2 27 true rfl rfl rfl ?_
    refine .z zpF (.z zm ?_)
    refine .gFs 2 31 true rfl rfl rfl ?_
    refine .z zpF (.z zm ?_)
    refine .gFs 2 35 true rfl rfl rfl ?_
    refine .z zpF (.z zm ?_)
    refine .gFs 2 39 true rfl rfl rfl ?_
    refine .z zpF (.z zm ?_)
    refine .gFs 2 43 true rfl rfl rfl ?_
    refine .z zpF (.z zm ?_)
    refine .gFs 7 47 true rfl rfl rfl ?_
    refine .z zpF (.z zg (.nil ?_))
    refine .ret (Fin.bE eW rfl ?_)
    first
    |exact ⟨rfl,H9,hleF,hs.out⟩
    |contradiction
    |(exfalso;simp_all;done)
  ·refine .gFs 2 6 true rfl rfl rfl ?_
   refine .z zpF (.z zm ?_)
   refine .gFs 2 10 true rfl rfl rfl ?_
   refine .z zpF (.z zm ?_)
   refine .gFs 2 14 true rfl rfl rfl ?_
   refine .z zpF (.z zm ?_)
   refine .gFs 3 18 true rfl rfl rfl ?_
   refine .z zpF (.z zm ?_)
   refine .gFs 2 23 true rfl rfl rfl ?_
   refine .z zpF (.z zm ?_)
   refine .gFs 2 27 true rfl rfl rfl ?_
   refine .z zpF (.z zm ?_)
   refine .gFs 2 31 true rfl rfl rfl ?_
   refine .z zpF (.z zm ?_)
   refine .gFs 2 35 true rfl rfl rfl ?_
   refine .z zpF (.z zm ?_)
   refine .gFs 2 39 true rfl rfl rfl ?_
   refine .z zpF (.z zm ?_)
   refine .gFs 2 43 true rfl rfl rfl ?_
   refine .z zpF (.z zm ?_)
   refine .gFs 7 47 true rfl rfl rfl ?_
   refine .z zpF (.z zg (.nil ?_))
   refine .ret (Fin.bE eW rfl ?_)
   first
   |exact ⟨rfl,H9,hleF,hs.out⟩
   |contradiction
   |(exfalso;simp_all;done)
 ·refine .gFs 2 2 true rfl rfl rfl ?_
  refine .z zpF (.z zm ?_)
  refine .gFs 2 6 true rfl rfl rfl ?_
  refine .z zpF (.z zm ?_)
  refine .gFs 2 10 true rfl rfl rfl ?_
  refine .z zpF (.z zm ?_)
  refine .gFs 2 14 true rfl rfl rfl ?_
  refine .z zpF (.z zm ?_)
  refine .gFs 3 18 true rfl rfl rfl ?_
  refine .z zpF (.z zm ?_)
  refine .gFs 2 23 true rfl rfl rfl ?_
  refine .z zpF (.z zm ?_)
  refine .gFs 2 27 true rfl rfl rfl ?_
  refine .z zpF (.z zm ?_)
  refine .gFs 2 31 true rfl rfl rfl ?_
  refine .z zpF (.z zm ?_)
  refine .gFs 2 35 true rfl rfl rfl ?_
  refine .z zpF (.z zm ?_)
  refine .gFs 2 39 true rfl rfl rfl ?_
  refine .z zpF (.z zm ?_)
  refine .gFs 2 43 true rfl rfl rfl ?_
  refine .z zpF (.z zm ?_)
  refine .gFs 7 47 true rfl rfl rfl ?_
  refine .z zpF (.z zg (.nil ?_))
  refine .ret (Fin.bE eW rfl ?_)
  first
  |exact ⟨rfl,H9,hleF,hs.out⟩
  |contradiction
  |(exfalso;simp_all;done)
theorem dN{a0 a1 a2:Int}(hs:St H w σ):Cl Tryz.prog 74 [I a0,I a1,I a2] w fun v w'=>v= .bool (decide (a1≤a0∧a0≤a2))∧St H w' σ:=by
 refine Cl.o Tryz.func74 Tryz.ntmps74 ag3 ?_
 refine .aj (.z zg (.nil (.aj (.z zm (.z zm (.z uc (.z zm ?_)))))))
 refine .iW (t':=10) rfl (fun hb10=>?_) (fun hb10=>?_)
 ·refine .gT rfl rfl ?_
  refine .z zm ?_
  refine .gT rfl rfl ?_
  refine .z zm ?_
  refine .gT rfl rfl ?_
  refine .z oF (.z zpT (.z zg (.nil ?_)))
  refine .ret (Fin.bE Tryz.results74 rfl ?_)
  exact ⟨by simp [*],hs.out⟩
 ·refine .gFs 3 3 true rfl rfl rfl ?_
  refine .z zpF (.z zg (.nil ?_))
  refine .ret (Fin.bE Tryz.results74 rfl ?_)
  exact ⟨by simp [*],hs.out⟩
theorem rW{x y:Int}(hs:St H w σ):Cl Tryz.prog 53 [.agg #[I x,I y]] w fun v w'=>v= .bool (decide (iM x y))∧St H w' σ:=by
 refine Cl.o Tryz.func53 Tryz.ntmps53 ag1 ?_
 refine .aj ?_
 refine .bx hs fun b1 w hs=>?_
 refine .z zg (.nil (.aj (.z (zfa bX) (.y hs (zld ae) (.z uc (.z zm ?_))))))
 refine .iW (t':=6) rfl (fun hb6=>?_) (fun hb6=>?_)
 ·refine .gT rfl rfl ?_
  refine .z (zfa bX) ?_
  refine .gT rfl rfl ?_
  refine .y hs (zld ae) ?_
  refine .gT rfl rfl ?_
  refine .z (zfa cJ) ?_
  refine .gT rfl rfl ?_
  refine .y hs (zld ae) ?_
  refine .gT rfl rfl ?_
  refine .z oF (.z zpT (.z zm ?_))
  refine .iW (t':=13) rfl (fun hb13=>?_) (fun hb13=>?_)
  ·refine .gT rfl rfl ?_
   refine .z (zfa cJ) ?_
   refine .gT rfl rfl ?_
   refine .y hs (zld ae) ?_
   refine .gT rfl rfl ?_
   refine .z oF (.z zpT (.z zg (.nil ?_)))
   refine .ret (Fin.bE Tryz.results53 rfl ?_)
   exact ⟨by unfold iM;simp [*],hs.out⟩
  ·refine .gFs 3 10 true rfl rfl rfl ?_
   refine .z zpF (.z zg (.nil ?_))
   refine .ret (Fin.bE Tryz.results53 rfl ?_)
   exact ⟨by unfold iM;simp [*],hs.out⟩
 ·refine .gFs 5 3 true rfl rfl rfl ?_
  refine .z zpF (.z zm ?_)
  refine .gFs 3 10 true rfl rfl rfl ?_
  refine .z zpF (.z zg (.nil ?_))
  refine .ret (Fin.bE Tryz.results53 rfl ?_)
  exact ⟨by unfold iM;simp [*],hs.out⟩
theorem qu{x y:Int}(hs:St H w σ):Cl Tryz.prog 124 [.agg #[I x,I y]] w fun v w'=>v= .bool (decide (gH x y))∧St H w' σ:=by
 refine Cl.o Tryz.func124 Tryz.ntmps124 ag1 ?_
 refine .aj ?_
 refine .bx hs fun b1 w hs=>?_
 refine .z zg (.nil (.aj (.z (zfa bX) (.y hs (zld ae) (.z uc (.z zm ?_))))))
 refine .iW (t':=6) rfl (fun hb6=>?_) (fun hb6=>?_)
 ·refine .gT rfl rfl ?_
  refine .z (zfa bX) ?_
  refine .gT rfl rfl ?_
  refine .y hs (zld ae) ?_
  refine .gT rfl rfl ?_
  refine .z (zfa cJ) ?_
  refine .gT rfl rfl ?_
  refine .y hs (zld ae) ?_
  refine .gT rfl rfl ?_
  refine .z oF (.z zpT (.z zm ?_))
  refine .iW (t':=13) rfl (fun hb13=>?_) (fun hb13=>?_)
  ·refine .gT rfl rfl ?_
   refine .z (zfa cJ) ?_
   refine .gT rfl rfl ?_
   refine .y hs (zld ae) ?_
   refine .gT rfl rfl ?_
   refine .z oF (.z zpT (.z zg (.nil ?_)))
   refine .ret (Fin.bE Tryz.results124 rfl ?_)
   exact ⟨by unfold gH;simp [*],hs.out⟩
  ·refine .gFs 3 10 true rfl rfl rfl ?_
   refine .z zpF (.z zg (.nil ?_))
   refine .ret (Fin.bE Tryz.results124 rfl ?_)
   exact ⟨by unfold gH;simp [*],hs.out⟩
 ·refine .gFs 5 3 true rfl rfl rfl ?_
  refine .z zpF (.z zm ?_)
  refine .gFs 3 10 true rfl rfl rfl ?_
  refine .z zpF (.z zg (.nil ?_))
  refine .ret (Fin.bE Tryz.results124 rfl ?_)
  exact ⟨by unfold gH;simp [*],hs.out⟩
theorem s9{x:Lg}(hs:St H w σ):
  Cl Tryz.prog 76 [.agg #[I x.zone,I x.fr,I x.to,I x.dlo,I x.dhi,I x.blo,I x.bhi]] w fun v w'=>∃b:Bool,v= .bool b∧(b=true↔yd x)∧St H w' σ:=by
 refine Cl.o Tryz.func76 Tryz.ntmps76 ag1 ?_
 refine .aj ?_
 refine .bx hs fun b1 w hs=>?_
 refine .z zg (.nil (.aj (.z (zfa j9) (.y hs (zld ae) ?_))))
 refine .o (.call ik rfl (dN hs) ?_);rintro _ w ⟨rfl,hs⟩
 refine .z zm ?_
 refine .bif (t':=6) rfl (fun hb6=>?_) (fun hb6=>?_)
 ·refine .gT rfl rfl ?_
  refine .z (zfa fi) ?_
  refine .gT rfl rfl ?_
  refine .y hs (zld ae) ?_
  refine .gT rfl rfl ?_
  refine .z uc (.z zpT (.z zm ?_))
  refine .iW (t':=11) rfl (fun hb11=>?_) (fun hb11=>?_)
  ·refine .gT rfl rfl ?_
   refine .z (zfa fi) ?_
   refine .gT rfl rfl ?_
   refine .y hs (zld ae) ?_
   refine .gT rfl rfl ?_
   refine .z (zfa fh) ?_
   refine .gT rfl rfl ?_
   refine .y hs (zld ae) ?_
   refine .gT rfl rfl ?_
   refine .z oF (.z zpT (.z zm ?_))
   refine .iW (t':=18) rfl (fun hb18=>?_) (fun hb18=>?_)
   ·refine .gT rfl rfl ?_
    refine .z (zfa fh) ?_
    refine .gT rfl rfl ?_
    refine .y hs (zld ae) ?_
    refine .gT rfl rfl ?_
    refine .z oF (.z zpT (.z zm ?_))
    refine .iW (t':=23) rfl (fun hb23=>?_) (fun hb23=>?_)
    ·refine .gT rfl rfl ?_
     refine .z (zfa fK) ?_
     refine .gT rfl rfl ?_
     refine .y hs (zls [_,_] bD aA) ?_
     refine .gT rfl rfl ?_
     refine .o (.call Tryz.call124 rfl (qu hs) ?_);rintro _ w ⟨rfl,hs⟩
     refine .z zpT (.z zm ?_)
     refine .bif (t':=28) rfl (fun hb28=>?_) (fun hb28=>?_)
     ·refine .gT rfl rfl ?_
      refine .z (zfa fJ) ?_
      refine .gT rfl rfl ?_
      refine .y hs (zls [_,_] bD aA) ?_
      refine .gT rfl rfl ?_
      refine .o (.call Tryz.call53 rfl (rW hs) ?_);rintro _ w ⟨rfl,hs⟩
      refine .z zpT (.z zg (.nil ?_))
      refine .ret (Fin.bE wb rfl ?_)
      first
      |exact ⟨false,rfl,⟨fun h=>(by cases h),fun h=>(by obtain ⟨g1,g2,g3,g4,g5⟩:=h;first|omega|(simp_all;done)|(simp_all;omega))⟩,hs.out⟩
      |exact ⟨_,rfl,⟨fun h=>⟨by simp_all,by simp_all,by simp_all,by simp_all,by simpa using h⟩,fun h=>by simpa using h.burn⟩,hs.out⟩
     ·refine .gFs 3 25 true rfl rfl rfl ?_
      refine .z zpF (.z zg (.nil ?_))
      refine .ret (Fin.bE wb rfl ?_)
      first
      |exact ⟨false,rfl,⟨fun h=>(by cases h),fun h=>(by obtain ⟨g1,g2,g3,g4,g5⟩:=h;first|omega|(simp_all;done)|(simp_all;omega))⟩,hs.out⟩
      |exact ⟨_,rfl,⟨fun h=>⟨by simp_all,by simp_all,by simp_all,by simp_all,by simpa using h⟩,fun h=>by simpa using h.burn⟩,hs.out⟩
    ·refine .gFs 3 20 true rfl rfl rfl ?_
     refine .z zpF (.z zm ?_)
     refine .gFs 3 25 true rfl rfl rfl ?_
     refine .z zpF (.z zg (.nil ?_))
     refine .ret (Fin.bE wb rfl ?_)
     first
     |exact ⟨false,rfl,⟨fun h=>(by cases h),fun h=>(by obtain ⟨g1,g2,g3,g4,g5⟩:=h;first|omega|(simp_all;done)|(simp_all;omega))⟩,hs.out⟩
     |exact ⟨_,rfl,⟨fun h=>⟨by simp_all,by simp_all,by simp_all,by simp_all,by simpa using h⟩,fun h=>by simpa using h.burn⟩,hs.out⟩
   ·refine .gFs 3 15 true rfl rfl rfl ?_
    refine .z zpF (.z zm ?_)
    refine .gFs 3 20 true rfl rfl rfl ?_
    refine .z zpF (.z zm ?_)
    refine .gFs 3 25 true rfl rfl rfl ?_
    refine .z zpF (.z zg (.nil ?_))
    refine .ret (Fin.bE wb rfl ?_)
    first
    |exact ⟨false,rfl,⟨fun h=>(by cases h),fun h=>(by obtain ⟨g1,g2,g3,g4,g5⟩:=h;first|omega|(simp_all;done)|(simp_all;omega))⟩,hs.out⟩
    |exact ⟨_,rfl,⟨fun h=>⟨by simp_all,by simp_all,by simp_all,by simp_all,by simpa using h⟩,fun h=>by simpa using h.burn⟩,hs.out⟩
  ·refine .gFs 5 8 true rfl rfl rfl ?_
   refine .z zpF (.z zm ?_)
   refine .gFs 3 15 true rfl rfl rfl ?_
   refine .z zpF (.z zm ?_)
   refine .gFs 3 20 true rfl rfl rfl ?_
   refine .z zpF (.z zm ?_)
   refine .gFs 3 25 true rfl rfl rfl ?_
   refine .z zpF (.z zg (.nil ?_))
   refine .ret (Fin.bE wb rfl ?_)
   first
   |exact ⟨false,rfl,⟨fun h=>(by cases h),fun h=>(by obtain ⟨g1,g2,g3,g4,g5⟩:=h;first|omega|(simp_all;done)|(simp_all;omega))⟩,hs.out⟩
   |exact ⟨_,rfl,⟨fun h=>⟨by simp_all,by simp_all,by simp_all,by simp_all,by simpa using h⟩,fun h=>by simpa using h.burn⟩,hs.out⟩
 ·refine .gFs 3 3 true rfl rfl rfl ?_
  refine .z zpF (.z zm ?_)
  refine .gFs 5 8 true rfl rfl rfl ?_
  refine .z zpF (.z zm ?_)
  refine .gFs 3 15 true rfl rfl rfl ?_
  refine .z zpF (.z zm ?_)
  refine .gFs 3 20 true rfl rfl rfl ?_
  refine .z zpF (.z zm ?_)
  refine .gFs 3 25 true rfl rfl rfl ?_
  refine .z zpF (.z zg (.nil ?_))
  refine .ret (Fin.bE wb rfl ?_)
  first
  |exact ⟨false,rfl,⟨fun h=>(by cases h),fun h=>(by obtain ⟨g1,g2,g3,g4,g5⟩:=h;first|omega|(simp_all;done)|(simp_all;omega))⟩,hs.out⟩
  |exact ⟨_,rfl,⟨fun h=>⟨by simp_all,by simp_all,by simp_all,by simp_all,by simpa using h⟩,fun h=>by simpa using h.burn⟩,hs.out⟩
set_option maxHeartbeats 1000000 in
theorem ir{l:Lns}{vt vs:Value}(hs:St H w σ)(g:LnM H l vt vs):
  Cl Tryz.prog 20 [lnA l vt vs] w fun u w'=>∃e,u=I e∧JK l e∧St H w' σ:=by
 obtain ⟨h1,h2⟩:=g
 obtain ⟨at_,ct,rfl⟩:=h1.shape
 obtain ⟨as_,cs,rfl⟩:=h2.shape
 refine Cl.o Tryz.func20 Tryz.ntmps20 ag1 ?_
 refine .aj ?_
 refine .bx hs fun b1 w hs=>?_
 refine .z zg (.nil (.seq (.aj (.z (zfa dZ) (.y hs (zld ae) ?_)))))
 refine .o (.call ik rfl (dN hs) ?_);rintro _ w ⟨rfl,hs⟩
 refine .z fW (.z zm ?_)
 refine .bif (t':=11) rfl (fun hb11=>?_) (fun hb11=>?_)
 ·refine .gFs 4 4 false rfl rfl rfl ?_
  refine .z zpT (.z zm ?_)
  refine .gFs 5 10 false rfl rfl rfl ?_
  refine .z zpT (.z zm ?_)
  refine .gFs 4 17 false rfl rfl rfl ?_
  refine .z zpT (.nil ?_)
  refine (.cT ?_)
  refine .aj (.z zg (.nil ?_))
  refine .ret (rT (Fin.bE fw rfl ?_))
  exact ⟨_,rfl,.inr ⟨fun h=>by have:=h.length;simp_all,rfl⟩,hs.out⟩
 ·refine .gT rfl rfl ?_
  refine .z (zfa ia) ?_
  refine .gT rfl rfl ?_
  refine .y hs (zld ae) ?_
  refine .gT rfl rfl ?_
  refine .o (.call ik rfl (dN hs) ?_);rintro _ w ⟨rfl,hs⟩
  refine .gT rfl rfl ?_
  refine .z fW (.z zpF (.z zm ?_))
  refine .bif (t':=17) rfl (fun hb17=>?_) (fun hb17=>?_)
  ·refine .gFs 5 10 false rfl rfl rfl ?_
   refine .z zpT (.z zm ?_)
   refine .gFs 4 17 false rfl rfl rfl ?_
   refine .z zpT (.nil ?_)
   refine (.cT ?_)
   refine .aj (.z zg (.nil ?_))
   refine .ret (rT (Fin.bE fw rfl ?_))
   exact ⟨_,rfl,.inr ⟨fun h=>by have:=h.depth;simp_all,rfl⟩,hs.out⟩
  ·refine .gT rfl rfl ?_
   refine .z (zfa cq) ?_
   refine .gT rfl rfl ?_
   refine .y hs (zld dV) ?_
   refine .gT rfl rfl ?_
   refine .z (dp aO) ?_
   refine .gT rfl rfl ?_
   refine .o (.call ik rfl (dN hs) ?_);rintro _ w ⟨rfl,hs⟩
   refine .gT rfl rfl ?_
   refine .z fW (.z zpF (.z zm ?_))
   refine .bif (t':=24) rfl (fun hb24=>?_) (fun hb24=>?_)
   ·refine .gFs 4 17 false rfl rfl rfl ?_
    refine .z zpT (.nil ?_)
    refine (.cT ?_)
    refine .aj (.z zg (.nil ?_))
    refine .ret (rT (Fin.bE fw rfl ?_))
    exact ⟨_,rfl,.inr ⟨fun h=>by have:=h.many;simp_all;omega,rfl⟩,hs.out⟩
   ·refine .gT rfl rfl ?_
    refine .z (zfa cK) ?_
    refine .gT rfl rfl ?_
    refine .y hs (zld eh) ?_
    refine .gT rfl rfl ?_
    refine .z (dp bp) ?_
    refine .gT rfl rfl ?_
    refine .z mI (.z zpF (.nil ?_))
    refine (.bH rfl (fun hc29=>?_) (fun hc29=>?_))
    ·refine .aj (.z zg (.nil ?_))
     refine .ret (rT (Fin.bE fw rfl ?_))
     exact ⟨_,rfl,.inr ⟨fun h=>by have:=h.most;simp_all;omega,rfl⟩,hs.out⟩
    ·refine .skip ?_
     refine nT ?_
     refine .seq (.aj (.z zg (.nil (.block ?_))))
     have hl20:1≤l.table.length∧l.table.length≤20:=by first|omega|(simp at hb24;omega)
     refine .loop (fun k:Nat=>⟨102,[],[(3,I (k:Int)),(1,.pointer (some ⟨b1,0,none⟩))]⟩)
      (fun k w=>k≤l.table.length∧(∀j<k,FM l.table j)∧St H w (.blk b1 (lnC l (.slice at_ l.table.length ct) (.slice as_ l.seasons.length cs))::σ)) (fun k=>l.table.length - k) 0 bj
      ⟨Nat.zero_le _,fun j hj=>by omega,hs⟩ ?_
     rintro k w ⟨hk,hno,hs⟩
     refine .seq (.aj (.z zm (.z (zfa cq) (.y hs (zld dV) (.z (dp aO) (.z iK (.nil ?_)))))))
     refine (.bH rfl (fun hc34=>?_) (fun hc34=>?_))
     ·refine .skip ?_
      refine nT ?_
      refine .seq (.block (.aj (.z (zfa cq) (.y hs (zld dV) (.z zm ?_)))))
      have hkl:k<l.table.length:=by omega
      have hx:=lT (l:=l.table) hkl
      have hx1:=lT (l:=l.table) (i:=k - 1) ak
      refine .ixX (enc:=Fbd.c) hs h1 rfl rfl aO bu hx de ?_;intro b40 o40 hc40
      refine .q hs (bY (vs:=(Fbd.c (fb0 l.table k))) rfl Tryz.isAgg134 bu hc40) ?_
      refine .o (.alloc hs gR rfl fun b4 w hs=>?_)
      refine .o (.aP (vs:=(fb0 l.table k).c) hs rfl rfl bu fun w hs=>?_)
      change St _ _ (.blk b4 [I (fb0 l.table k).len,I (fb0 l.table k).least]::_) at hs
      refine .nil ?_
      refine .seq (.draw mix rfl hs fun w hs=>?_)
      refine .z 0 rfl (zfa bK) ?_;refine .y 1 rfl hs ae ?_
      refine .E 2 hs ?_
      refine .call ik rfl (dN hs) ?_;rintro _ w ⟨rfl,hs⟩
      refine .go ?_
      refine .z 3 rfl fW ?_;refine .z 4 rfl zm ?_
      refine .bif (t':=46) rfl (fun hb46=>?_) (fun hb46=>?_)
      ·refine .qF (i:=5) rfl aq rfl rfl ?_
       refine .qF (i:=6) rfl aq rfl rfl ?_
       refine .qF (i:=7) rfl aq rfl rfl ?_
       refine .qF (i:=8) rfl aq rfl rfl ?_
       refine .z 9 rfl zpT ?_;refine .z 10 rfl zm ?_
       refine .qF (i:=11) rfl aq rfl rfl ?_
       refine .qF (i:=12) rfl aq rfl rfl ?_
       refine .qF (i:=13) rfl aq rfl rfl ?_
       refine .qF (i:=14) rfl aq rfl rfl ?_
       refine .qF (i:=15) rfl aq rfl rfl ?_
       refine .qF (i:=16) rfl aq rfl rfl ?_
       refine .qF (i:=17) rfl aq rfl rfl ?_
       refine .qF (i:=18) rfl aq rfl rfl ?_
       refine .qF (i:=19) rfl aq rfl rfl ?_
       refine .qF (i:=20) rfl aq rfl rfl ?_
       refine .qF (i:=21) rfl aq rfl rfl ?_
       refine .qF (i:=22) rfl aq rfl rfl ?_
       refine .qF (i:=23) rfl aq rfl rfl ?_
       refine .qF (i:=24) rfl aq rfl rfl ?_
       refine .z 25 rfl zpT ?_;refine .D hs ?_
       refine (.cT ?_)
       refine .aj (.z zg (.nil ?_))
       refine .ret (rB (rT (rT (rB (rT (Fin.bE fw rfl ?_))))))
       exact ⟨_,rfl,.inr ⟨fun h=>by have:=(h.table k hkl).len;simp_all,rfl⟩,hs.out⟩
      ·refine .z 5 rfl (zfa dv) ?_;refine .y 6 rfl hs ae ?_
       refine .E 7 hs ?_
       refine .call ik rfl (dN hs) ?_;rintro _ w ⟨rfl,hs⟩
       refine .go ?_
       refine .z 8 rfl fW ?_;refine .z 9 rfl zpF ?_;refine .z 10 rfl zm ?_
       refine .bif (t':=52) rfl (fun hb52=>?_) (fun hb52=>?_)
       ·refine .qF (i:=11) rfl aq rfl rfl ?_
        refine .qF (i:=12) rfl aq rfl rfl ?_
        refine .qF (i:=13) rfl aq rfl rfl ?_
        refine .qF (i:=14) rfl aq rfl rfl ?_
        refine .qF (i:=15) rfl aq rfl rfl ?_
        refine .qF (i:=16) rfl aq rfl rfl ?_
        refine .qF (i:=17) rfl aq rfl rfl ?_
        refine .qF (i:=18) rfl aq rfl rfl ?_
        refine .qF (i:=19) rfl aq rfl rfl ?_
        refine .qF (i:=20) rfl aq rfl rfl ?_
        refine .qF (i:=21) rfl aq rfl rfl ?_
        refine .qF (i:=22) rfl aq rfl rfl ?_
        refine .qF (i:=23) rfl aq rfl rfl ?_
        refine .qF (i:=24) rfl aq rfl rfl ?_
        refine .z 25 rfl zpT ?_;refine .D hs ?_
        refine (.cT ?_)
        refine .aj (.z zg (.nil ?_))
        refine .ret (rB (rT (rT (rB (rT (Fin.bE fw rfl ?_))))))
        exact ⟨_,rfl,.inr ⟨fun h=>by have:=(h.table k hkl).least;simp_all,rfl⟩,hs.out⟩
       ·refine .z 11 rfl zm ?_;refine .z 12 rfl mI ?_;refine .z 13 rfl zm ?_
        refine .iW (t':=55) rfl (fun hb55=>?_) (fun hb55=>?_)
        ·refine .z 14 rfl (zfa cq) ?_;refine .y 15 rfl hs dV ?_;refine .z 16 rfl zm ?_;refine .z 17 rfl gM ?_
         refine .ixX (enc:=Fbd.c) (i:=18) hs rfl aq (.some rfl rfl) h1 rfl rfl aO bu hx1 ak ?_;intro b60 o60 hc60
         refine .z 19 rfl (zfa bK) ?_
         refine .r (i:=20) hs rfl aq (.some rfl rfl) (aW rfl ae (hc60.get 0 rfl)) ?_
         refine .z 21 rfl (zfa bK) ?_;refine .y 22 rfl hs ae ?_;refine .z 23 rfl uc ?_;refine .z 24 rfl zpT ?_;refine .z 25 rfl zpF ?_;refine .D hs ?_
         refine (.bH rfl (fun hc67=>?_) (fun hc67=>?_))
         ·refine .aj (.z zg (.nil ?_))
          refine .ret (rB (rT (rT (rB (rT (Fin.bE fw rfl ?_))))))
          exact ⟨_,rfl,.inr ⟨fun h=>by have:=(h.table k hkl).rise ak;omega,rfl⟩,hs.out⟩
         ·refine .skip ?_
          refine nB (nT ?_)
          refine .region (.z zm (.z cP (.z zg (.nil ?_))))
          refine nT ?_
          exact ⟨k+1,.dD rfl cu bj,⟨ak,fun j hj=>by
           by_cases e:j=k
           ·subst e;exact ⟨by simp_all,by simp_all,fun _=>by omega⟩
           ·exact hno j ak,hs.tail⟩,ak⟩
        ·refine .qF (i:=14) rfl aq rfl rfl ?_
         refine .qF (i:=15) rfl aq rfl rfl ?_
         refine .qF (i:=16) rfl aq rfl rfl ?_
         refine .qF (i:=17) rfl aq rfl rfl ?_
         refine .qF (i:=18) rfl aq rfl rfl ?_
         refine .qF (i:=19) rfl aq rfl rfl ?_
         refine .qF (i:=20) rfl aq rfl rfl ?_
         refine .qF (i:=21) rfl aq rfl rfl ?_
         refine .qF (i:=22) rfl aq rfl rfl ?_
         refine .qF (i:=23) rfl aq rfl rfl ?_
         refine .z 24 rfl zpF ?_;refine .z 25 rfl zpF ?_;refine .D hs ?_
         refine (.cF ?_)
         refine .skip ?_
         refine nB (nT ?_)
         refine .region (.z zm (.z cP (.z zg (.nil ?_))))
         refine nT ?_
         exact ⟨k+1,.dD rfl cu bj,⟨ak,fun j hj=>by
          by_cases e:j=k
          ·subst e;exact ⟨by simp_all,by simp_all,fun _=>by omega⟩
          ·exact hno j ak,hs.tail⟩,ak⟩
     ·refine .exit ?_
      refine xT (xT (xB (nT ?_)))
      refine .seq (.aj (.z zg (.nil (.block ?_))))
      obtain rfl:k=l.table.length:=by omega
      refine .loop (fun k:Nat=>⟨102,[],[(5,I (k:Int)),(1,.pointer (some ⟨b1,0,none⟩))]⟩)
       (fun k w=>k≤l.seasons.length∧(∀j<k,∀y,l.seasons[j]? =some y→Au y)∧St H w (.blk b1 (lnC l (.slice at_ l.table.length ct) (.slice as_ l.seasons.length cs))::σ)) (fun k=>l.seasons.length - k) 0 bj
       ⟨Nat.zero_le _,fun j hj=>by omega,hs⟩ ?_
      rintro i w ⟨hi,hnos,hs⟩
      refine .seq (.aj (.z zm (.z (zfa cK) (.y hs (zld eh) (.z (dp bp) (.z iK (.nil ?_)))))))
      refine (.bH rfl (fun hc72=>?_) (fun hc72=>?_))
      ·refine .skip ?_
       refine nT ?_
       refine .seq (.block (.aj (.z (zfa cK) (.y hs (zld eh) (.z zm ?_)))))
       obtain ⟨s,hx⟩:=nth (l:=l.seasons) (k:=i) ak
       refine .ixX (enc:=Ssn.c) hs h2 rfl rfl bp ck hx de ?_;intro b78 o78 hc78
       refine .q hs (bY (vs:=(Ssn.c s)) rfl HB ck hc78) ?_
       refine .o (.alloc hs oX rfl fun b6 w hs=>?_)
       refine .o (.aP (vs:=s.c) hs rfl rfl ck fun w hs=>?_)
       change St _ _ (.blk b6 [I s.zone,I s.fr,I s.to,I s.extra]::_) at hs
       refine .nil (.aj (.z (zfa iE) (.y hs (zld ae) ?_)))
       refine .o (.call ik rfl (dN hs) ?_);rintro _ w ⟨rfl,hs⟩
       refine .z fW (.z zm ?_)
       refine .bif (t':=84) rfl (fun hb84=>?_) (fun hb84=>?_)
       ·refine .gFs 4 4 false rfl rfl rfl ?_
        refine .z zpT (.z zm ?_)
        refine .gFs 4 10 false rfl rfl rfl ?_
        refine .z zpT (.z zm ?_)
        refine .gFs 4 16 false rfl rfl rfl ?_
        refine .z zpT (.nil ?_)
        refine (.cT ?_)
        refine .aj (.z zg (.nil ?_))
        refine .ret (rB (rT (rT (rB (rT (Fin.bE fw rfl ?_))))))
        exact ⟨_,rfl,.inr ⟨fun h=>by have:=(h.seasons s (List.mem_of_getElem? hx)).zone;simp_all,rfl⟩,hs.out⟩
       ·refine .gT rfl rfl ?_
        refine .z (zfa ew) ?_
        refine .gT rfl rfl ?_
        refine .y hs (zld ae) ?_
        refine .gT rfl rfl ?_
        refine .o (.call ik rfl (dN hs) ?_);rintro _ w ⟨rfl,hs⟩
        refine .gT rfl rfl ?_
        refine .z fW (.z zpF (.z zm ?_))
        refine .bif (t':=90) rfl (fun hb90=>?_) (fun hb90=>?_)
        ·refine .gFs 4 10 false rfl rfl rfl ?_
         refine .z zpT (.z zm ?_)
         refine .gFs 4 16 false rfl rfl rfl ?_
         refine .z zpT (.nil ?_)
         refine (.cT ?_)
         refine .aj (.z zg (.nil ?_))
         refine .ret (rB (rT (rT (rB (rT (Fin.bE fw rfl ?_))))))
         exact ⟨_,rfl,.inr ⟨fun h=>by have:=(h.seasons s (List.mem_of_getElem? hx)).fr;simp_all,rfl⟩,hs.out⟩
        ·refine .gT rfl rfl ?_
         refine .z (zfa eu) ?_
         refine .gT rfl rfl ?_
         refine .y hs (zld ae) ?_
         refine .gT rfl rfl ?_
         refine .o (.call ik rfl (dN hs) ?_);rintro _ w ⟨rfl,hs⟩
         refine .gT rfl rfl ?_
         refine .z fW (.z zpF (.z zm ?_))
         refine .bif (t':=96) rfl (fun hb96=>?_) (fun hb96=>?_)
         ·refine .gFs 4 16 false rfl rfl rfl ?_
          refine .z zpT (.nil ?_)
          refine (.cT ?_)
          refine .aj (.z zg (.nil ?_))
          refine .ret (rB (rT (rT (rB (rT (Fin.bE fw rfl ?_))))))
          exact ⟨_,rfl,.inr ⟨fun h=>by have:=(h.seasons s (List.mem_of_getElem? hx)).to;simp_all,rfl⟩,hs.out⟩
         ·refine .gT rfl rfl ?_
          refine .z (zfa iD) ?_
          refine .gT rfl rfl ?_
          refine .y hs (zld ae) ?_
          refine .gT rfl rfl ?_
          refine .o (.call ik rfl (dN hs) ?_);rintro _ w ⟨rfl,hs⟩
          refine .gT rfl rfl ?_
          refine .z fW (.z zpF (.nil ?_))
          refine (.cond rfl (fun hc101=>?_) (fun hc101=>?_))
          ·refine .aj (.z zg (.nil ?_))
           refine .ret (rB (rT (rT (rB (rT (Fin.bE fw rfl ?_))))))
           exact ⟨_,rfl,.inr ⟨fun h=>by have:=(h.seasons s (List.mem_of_getElem? hx)).extra;simp_all,rfl⟩,hs.out⟩
          ·refine .skip ?_
           refine nB (nT ?_)
           refine .region (.z zm (.z cP (.z zg (.nil ?_))))
           refine nT ?_
           exact ⟨i+1,.dD rfl cu bj,⟨ak,fm hnos hx ⟨by simp_all,by simp_all,by simp_all,by simp_all⟩,hs.tail⟩,ak⟩
      ·refine .exit ?_
       refine xT (xT (xB (nT ?_)))
       refine .aj (.z zg (.nil ?_))
       refine .ret (Fin.bE fw rfl ?_)
       exact ⟨_,rfl,.inl ⟨⟨by simp_all,by simp_all,hl20,ak,hno,fun s hs=>by
        obtain ⟨j,hj⟩:=List.getElem?_of_mem hs
        have:=(List.getElem?_eq_some_iff.1 hj).1
        exact hnos j ak s hj⟩,rfl⟩,hs.out⟩
theorem kv{l:Lns}{vt vs:Value}(hs:St H w σ)(g:LnM H l vt vs)(hl:gG l):
  Cl Tryz.prog 103 [lnA l vt vs] w fun u w'=>∃(n:Int) (b:Bool),u= .tuple #[I n,I (if b then 0 else 3)]∧ub l n b∧St H w' σ:=by
 have h1:=g.tb
 obtain ⟨at_,ct,rfl⟩:=h1.shape
 have hm:=hl.many
 refine Cl.o Tryz.func103 Tryz.ntmps103 ag1 ?_
 refine .aj ?_
 refine .bx hs fun b1 w hs=>?_
 refine .z zg (.z zg (.nil (.aj (.z (zfa cq) (.y hs (zld dV) (.z zg (.nil (.seq (.aj ?_)))))))))
 refine .z zg (.nil (.block ?_))
 refine .loop (fun k:Nat=>⟨101,[],[(5,I (k:Int)),(4,.slice at_ l.table.length ct),(1,.pointer (some ⟨b1,0,none⟩))]⟩)
  (fun k w=>k≤l.table.length∧(∀i<k,(fb0 l.table i).len≠l.length∧(0<i→¬((fb0 l.table (i - 1)).len<l.length∧l.length<(fb0 l.table i).len)))∧St H w (.blk b1 (lnC l (.slice at_ l.table.length ct) vs)::σ)) (fun k=>l.table.length - k) 0 bj
  ⟨Nat.zero_le _,fun i hi=>by omega,hs⟩ ?_
 rintro k w ⟨hk,hno,hs⟩
 refine .seq (.aj (.z zm (.z zm (.z (dp aO) (.z iK (.nil ?_))))))
 refine (.bH rfl (fun hc13=>?_) (fun hc13=>?_))
 ·refine .skip ?_
  refine nT ?_
  refine .seq (.block (.seq ?_))
  refine .seq (.draw mix rfl hs fun w hs=>?_)
  have hkl:k<l.table.length:=by omega
  have hx:=lT (l:=l.table) hkl
  have hx1:=lT (l:=l.table) (i:=k - 1) ak
  have hnx:(fb0 l.table k).len≠l.length→(0<k→¬((fb0 l.table (k - 1)).len<l.length∧l.length<(fb0 l.table k).len))→∀i<k+1,(fb0 l.table i).len≠l.length∧(0<i→¬((fb0 l.table (i - 1)).len<l.length∧l.length<(fb0 l.table i).len)):=fun g1 g2 i hi=>by
   by_cases e:i=k
   ·subst e;exact ⟨g1,g2⟩
   ·exact hno i ak
  have ha:=hl.table (k - 1) ak
  have hb:=hl.table k hkl
  have a1:=ha.len
  have a2:=ha.least
  have b1':=hb.len
  have b2:=hb.least
  have hL:=hl.length
  refine .z 0 rfl zm ?_;refine .z 1 rfl zm ?_
  refine .ixX (enc:=Fbd.c) (i:=2) hs rfl aq .none h1 rfl rfl aO bu hx de ?_;intro b18 o18 hc18
  refine .z 3 rfl (zfa bK) ?_
  refine .r (i:=4) hs rfl aq .none (aW rfl ae (hc18.get 0 rfl)) ?_
  refine .z 5 rfl (zfa dZ) ?_;refine .y 6 rfl hs ae ?_;refine .z 7 rfl gj ?_;refine .D hs ?_
  refine (.bH rfl (fun hc23=>?_) (fun hc23=>?_))
  ·refine .aj (.z zm (.z zm ?_))
   refine .ixX (enc:=Fbd.c) hs h1 rfl rfl aO bu hx de ?_;intro b26 o26 hc26
   refine .z (zfa dv) ?_
   refine .q hs (aW rfl ae (hc26.get 1 rfl)) ?_
   refine .z zg (.z zg (.nil ?_))
   refine .ret (rT (rB (rT (rT (rB (rT (Fin.iq Tryz.results103 rfl rfl ?_)))))))
   exact ⟨_,true,rfl,.at_ hkl hc23,hs.out⟩
  ·refine .skip ?_
   refine nT ?_
   refine .seq (.draw mix rfl hs fun w hs=>?_)
   refine .z 0 rfl zm ?_;refine .z 1 rfl mI ?_;refine .z 2 rfl zm ?_
   refine .iW (t':=31) rfl (fun hb31=>?_) (fun hb31=>?_)
   ·refine .z 3 rfl zm ?_;refine .z 4 rfl zm ?_;refine .z 5 rfl gM ?_
    refine .ixX (enc:=Fbd.c) (i:=6) hs rfl aq (.some rfl rfl) h1 rfl rfl aO bu hx1 de ?_;intro b35 o35 hc35
    refine .z 7 rfl (zfa bK) ?_
    refine .r (i:=8) hs rfl aq (.some rfl rfl) (aW rfl ae (hc35.get 0 rfl)) ?_
    refine .z 9 rfl (zfa dZ) ?_;refine .y 10 rfl hs ae ?_;refine .z 11 rfl iK ?_;refine .z 12 rfl zpT ?_;refine .z 13 rfl zm ?_
    refine .iW (t':=42) rfl (fun hb42=>?_) (fun hb42=>?_)
    ·refine .z 14 rfl (zfa dZ) ?_;refine .y 15 rfl hs ae ?_;refine .z 16 rfl zm ?_;refine .z 17 rfl zm ?_
     refine .ixX (enc:=Fbd.c) (i:=18) hs rfl aq (.some rfl rfl) h1 rfl rfl aO bu hx de ?_;intro b47 o47 hc47
     refine .z 19 rfl (zfa bK) ?_
     refine .r (i:=20) hs rfl aq (.some rfl rfl) (aW rfl ae (hc47.get 0 rfl)) ?_
     refine .z 21 rfl iK ?_;refine .z 22 rfl zpT ?_;refine .D hs ?_
     refine (.bH rfl (fun hc51=>?_) (fun hc51=>?_))
     ·refine .seq (.draw mix rfl hs fun w hs=>?_)
      refine .z 0 rfl zm ?_;refine .z 1 rfl zm ?_;refine .z 2 rfl gM ?_
      have hX:=kz (a:=(fb0 l.table (k - 1)).least) (b:=(fb0 l.table k).len - l.length) (A:=5000) (B:=100000) ak ak
      have hY:=kz (a:=(fb0 l.table k).least) (b:=l.length - (fb0 l.table (k - 1)).len) (A:=5000) (B:=100000) ak ak
      have hX0:=Int.mul_nonneg a2.1 (show 0≤(fb0 l.table k).len - l.length by omega)
      have hY0:=Int.mul_nonneg b2.1 (show 0≤l.length - (fb0 l.table (k - 1)).len by omega)
      have hmid:=ub.mid hkl ak eU eU
      have hbd:=hmid.bd hl
      have hup:=Ir (a:=(fb0 l.table (k - 1)).least) (b:=(fb0 l.table k).least) (L:=l.length) (show (fb0 l.table (k - 1)).len<(fb0 l.table k).len by omega)
      rw [←Int.tdiv_eq_ediv_of_nonneg ak] at hup
      change _=y8 l k at hup
      refine .ixX (enc:=Fbd.c) (i:=3) hs rfl aq .none h1 rfl rfl aO bu hx1 ak ?_;intro b55 o55 hc55
      refine .z 4 rfl (zfa dv) ?_
      refine .r (i:=5) hs rfl aq .none (aW rfl ae (hc55.get 1 rfl)) ?_
      refine .z 6 rfl zm ?_;refine .z 7 rfl zm ?_
      refine .ixX (enc:=Fbd.c) (i:=8) hs rfl aq .none h1 rfl rfl aO bu hx de ?_;intro b60 o60 hc60
      refine .z 9 rfl (zfa bK) ?_
      refine .r (i:=10) hs rfl aq .none (aW rfl ae (hc60.get 0 rfl)) ?_
      refine .z 11 rfl (zfa dZ) ?_;refine .y 12 rfl hs ae ?_;refine .z 13 rfl gM ?_;refine .z 14 rfl lz ?_;refine .z 15 rfl zm ?_;refine .z 16 rfl zm ?_
      refine .ixX (enc:=Fbd.c) (i:=17) hs rfl aq .none h1 rfl rfl aO bu hx de ?_;intro b69 o69 hc69
      refine .z 18 rfl (zfa dv) ?_
      refine .r (i:=19) hs rfl aq .none (aW rfl ae (hc69.get 1 rfl)) ?_
      refine .z 20 rfl (zfa dZ) ?_;refine .y 21 rfl hs ae ?_;refine .z 22 rfl zm ?_;refine .z 23 rfl zm ?_;refine .z 24 rfl gM ?_
      refine .ixX (enc:=Fbd.c) (i:=25) hs rfl aq .none h1 rfl rfl aO bu hx1 de ?_;intro b77 o77 hc77
      refine .z 26 rfl (zfa bK) ?_
      refine .r (i:=27) hs rfl aq .none (aW rfl ae (hc77.get 0 rfl)) ?_
      refine .z 28 rfl gM ?_;refine .z 29 rfl lz ?_;refine .z 30 rfl cP ?_;refine .z 31 rfl zg ?_;refine .D hs ?_
      refine .seq (.draw mix rfl hs fun w hs=>?_)
      refine .z 0 rfl zm ?_;refine .z 1 rfl zm ?_
      refine .ixX (enc:=Fbd.c) (i:=2) hs rfl aq .none h1 rfl rfl aO bu hx de ?_;intro b85 o85 hc85
      refine .z 3 rfl (zfa bK) ?_
      refine .r (i:=4) hs rfl aq .none (aW rfl ae (hc85.get 0 rfl)) ?_
      refine .z 5 rfl zm ?_;refine .z 6 rfl zm ?_;refine .z 7 rfl gM ?_
      refine .ixX (enc:=Fbd.c) (i:=8) hs rfl aq .none h1 rfl rfl aO bu hx1 de ?_;intro b91 o91 hc91
      refine .z 9 rfl (zfa bK) ?_
      refine .r (i:=10) hs rfl aq .none (aW rfl ae (hc91.get 0 rfl)) ?_
      refine .z 11 rfl gM ?_;refine .z 12 rfl zg ?_;refine .D hs ?_
      refine .aj (.z zm (.z zm (.z cP (.z gM (.z zm ?_)))))
      refine .q hs (wx rfl rfl ak (by rw [hup];omega)) ?_
      rw [hup]
      refine .z zg (.z zg (.nil ?_))
      refine .ret (rB (rT (rT (rB (rT (Fin.iq Tryz.results103 rfl rfl ?_))))))
      exact ⟨_,true,rfl,hmid,hs.out⟩
     ·refine .skip ?_
      refine nB (nT ?_)
      refine .region (.z zm (.z cP (.z zg (.nil ?_))))
      refine nT ?_
      exact ⟨k+1,.dD rfl cu bj,⟨ak,hnx hc23 (fun _=>by omega),hs⟩,ak⟩
    ·refine .qF (i:=14) rfl aq rfl rfl ?_
     refine .qF (i:=15) rfl aq rfl rfl ?_
     refine .qF (i:=16) rfl aq rfl rfl ?_
     refine .qF (i:=17) rfl aq rfl rfl ?_
     refine .qF (i:=18) rfl aq rfl rfl ?_
     refine .qF (i:=19) rfl aq rfl rfl ?_
     refine .qF (i:=20) rfl aq rfl rfl ?_
     refine .qF (i:=21) rfl aq rfl rfl ?_
     refine .z 22 rfl zpF ?_;refine .D hs ?_
     refine (.cF ?_)
     refine .skip ?_
     refine nB (nT ?_)
     refine .region (.z zm (.z cP (.z zg (.nil ?_))))
     refine nT ?_
     exact ⟨k+1,.dD rfl cu bj,⟨ak,hnx hc23 (fun _=>by omega),hs⟩,ak⟩
   ·refine .qF (i:=3) rfl aq rfl rfl ?_
    refine .qF (i:=4) rfl aq rfl rfl ?_
    refine .qF (i:=5) rfl aq rfl rfl ?_
    refine .qF (i:=6) rfl aq rfl rfl ?_
    refine .qF (i:=7) rfl aq rfl rfl ?_
    refine .qF (i:=8) rfl aq rfl rfl ?_
    refine .qF (i:=9) rfl aq rfl rfl ?_
    refine .qF (i:=10) rfl aq rfl rfl ?_
    refine .qF (i:=11) rfl aq rfl rfl ?_
    refine .z 12 rfl zpF ?_;refine .z 13 rfl zm ?_
    refine .qF (i:=14) rfl aq rfl rfl ?_
    refine .qF (i:=15) rfl aq rfl rfl ?_
    refine .qF (i:=16) rfl aq rfl rfl ?_
    refine .qF (i:=17) rfl aq rfl rfl ?_
    refine .qF (i:=18) rfl aq rfl rfl ?_
    refine .qF (i:=19) rfl aq rfl rfl ?_
    refine .qF (i:=20) rfl aq rfl rfl ?_
    refine .qF (i:=21) rfl aq rfl rfl ?_
    refine .z 22 rfl zpF ?_;refine .D hs ?_
    refine (.cF ?_)
    refine .skip ?_
    refine nB (nT ?_)
    refine .region (.z zm (.z cP (.z zg (.nil ?_))))
    refine nT ?_
    exact ⟨k+1,.dD rfl cu bj,⟨ak,hnx hc23 (fun _=>by omega),hs⟩,ak⟩
 ·refine .exit ?_
  refine xT (xT (xB (nT ?_)))
  refine .aj (.z zg (.z zg (.nil ?_)))
  refine .ret (Fin.iq Tryz.results103 rfl rfl ?_)
  obtain rfl:k=l.table.length:=by omega
  exact ⟨_,false,rfl,.none (fun i hi=>(hno i hi).1) (fun i hi=>(hno i hi).2),hs.out⟩
theorem zJ{l:Lns}{vt vs:Value}(hs:St H w σ)(g:LnM H l vt vs):
  Cl Tryz.prog 38 [lnA l vt vs] w fun u w'=>∃n e,u= .tuple #[I n,I e]∧xY l n e∧St H w' σ:=by
 refine Cl.o Tryz.func38 Tryz.ntmps38 ag1 ?_
 refine .aj ?_
 refine .bx hs fun b1 w hs=>?_
 refine .z zg (.z zg (.nil (.seq (.aj (.y hs (zls [_,_,_,_] bn aM) ?_)))))
 refine .o (.call Tryz.call20 rfl (ir hs g) ?_);rintro _ w ⟨e,rfl,he,hs⟩
 refine .z gS (.nil ?_)
 refine (.ek rfl (fun hc6=>?_) (fun hc6=>?_))
 ·refine .aj (.z zg (.z zg (.nil ?_)))
  refine .ret (rT (Fin.iq Tryz.results38 rfl rfl ?_))
  have h:=he.resolve_left fun h=>hc6 h.2
  exact ⟨_,_,rfl,.lines h.1,hs.out⟩
 ·refine .skip ?_
  refine nT ?_
  refine .aj (.y hs (zls [_,_,_,_] bn aM) ?_)
  have hok:gG l:=(he.resolve_right fun h=>by omega).1
  refine .o (.call Tryz.call103 rfl (kv hs g hok) ?_);rintro _ w ⟨n,b,rfl,hF,hs⟩
  refine .z zex (.z zex (.z zg (.z zg (.nil ?_))))
  refine .ret (Fin.iq Tryz.results38 rfl rfl ?_)
  refine ⟨_,_,rfl,?_,hs.out⟩
  cases b with
  |true=>exact .ok hok hF
  |false=>rw [show n=0 by cases hF;rfl] at*;exact .none hok hF
theorem pM{s:Ssn}{d:Int}(hs:St H w σ)(hd:0≤d):Cl Tryz.prog 160 [.agg #[I s.zone,I s.fr,I s.to,I s.extra],I d] w fun v w'=>v= .bool (decide (tv s (1+d%365)))∧St H w' σ:=by
 have e:d.tmod 365=d%365:=Int.tmod_eq_emod_of_nonneg hd
 refine Cl.o Tryz.func160 Tryz.ntmps160 ag2 ?_
 refine .aj ?_
 refine .bx hs fun b2 w hs=>?_
 refine .z zg (.nil (.aj (.z zm (.z AA ?_))))
 rw [e]
 refine .z cP (.z zg (.nil (.seq (.aj (.z (zfa ew) (.y hs (zld ae) (.z (zfa eu) (.y hs (zld ae) (.z oF ?_)))))))))
 refine .nil ?_
 refine (.bH rfl (fun hc13=>?_) (fun hc13=>?_))
 ·refine .aj (.z zm (.z (zfa ew) (.y hs (zld ae) (.z (zfa eu) (.y hs (zld ae) ?_)))))
  refine .o (.call ik rfl (dN hs) ?_);rintro _ w ⟨rfl,hs⟩
  refine .z zg (.nil ?_)
  refine .ret (rT (Fin.bE Tryz.results160 rfl ?_))
  refine ⟨?_,hs.out⟩
  congr 1
  simp only [tv,if_pos hc13]
 ·refine .skip ?_
  refine nT ?_
  refine .aj (.z zm (.z (zfa ew) (.y hs (zld ae) (.z uc (.z zm ?_)))))
  refine .iW (t':=24) rfl (fun hb24=>?_) (fun hb24=>?_)
  ·refine .gFs 4 4 false rfl rfl rfl ?_
   refine .z zpT (.z zg (.nil ?_))
   refine .ret (Fin.bE Tryz.results160 rfl ?_)
   refine ⟨?_,hs.out⟩
   congr 1
   simp only [tv,if_neg hc13]
   symm
   simp [*]
  ·refine .gT rfl rfl ?_
   refine .z zm ?_
   refine .gT rfl rfl ?_
   refine .z (zfa eu) ?_
   refine .gT rfl rfl ?_
   refine .y hs (zld ae) ?_
   refine .gT rfl rfl ?_
   refine .z oF (.z zpF (.z zg (.nil ?_)))
   refine .ret (Fin.bE Tryz.results160 rfl ?_)
   refine ⟨?_,hs.out⟩
   congr 1
   simp only [tv,if_neg hc13]
   simp [*]
theorem s7{l:Lns}{vt vs:Value}{z d:Int}(hs:St H w σ)(g:LnM H l vt vs)(hl:gG l)(hd:0≤d):
  Cl Tryz.prog 108 [lnA l vt vs,I z,I d] w fun v w'=>v=I (iL l.seasons z (1+d%365))∧St H w' σ:=by
 have h2:=g.sn
 obtain ⟨as_,cs,rfl⟩:=h2.shape
 have hm:=hl.most
 refine Cl.o Tryz.func108 Tryz.ntmps108 ag3 ?_
 refine .aj ?_
 refine .bx hs fun b3 w hs=>?_
 refine .z zg (.nil (.aj (.z zg (.nil (.seq (.aj (.z zg (.nil (.block ?_)))))))))
 refine .loop (fun k:Nat=>⟨42,[],[(8,I (k:Int)),(7,I (iL (l.seasons.take k) z (1+d%365))),(3,.pointer (some ⟨b3,0,none⟩)),(1,I z),(2,I d)]⟩)
  (fun k w=>k≤l.seasons.length∧St H w (.blk b3 (lnC l vt (.slice as_ l.seasons.length cs))::σ)) (fun k=>l.seasons.length - k) 0 bj
  ⟨Nat.zero_le _,hs⟩ ?_
 rintro k w ⟨hk,hs⟩
 refine .seq (.aj (.z zm (.z (zfa cK) (.y hs (zld eh) (.z (dp bp) (.z iK (.nil ?_)))))))
 refine (.bH rfl (fun hc13=>?_) (fun hc13=>?_))
 ·refine .skip ?_
  refine nT ?_
  refine .seq (.block (.aj ?_))
  obtain ⟨s,hx⟩:=nth (l:=l.seasons) (k:=k) ak
  have hE:=pZ (l.seasons.take k) s z (1+d%365)
  rw [←dh hx] at hE
  refine .z (zfa cK) (.y hs (zld eh) (.z zm ?_))
  refine .ixX (enc:=Ssn.c) hs h2 rfl rfl bp ck hx de ?_;intro b19 o19 hc19
  refine .z (zfa iE) ?_
  refine .q hs (aW rfl ae (hc19.get 0 rfl)) ?_
  refine .z zm (.z gj (.z zm ?_))
  refine .iW (t':=24) rfl (fun hb24=>?_) (fun hb24=>?_)
  ·refine .gT rfl rfl ?_
   refine .z (zfa cK) ?_
   refine .gT rfl rfl ?_
   refine .y hs (zld eh) ?_
   refine .gT rfl rfl ?_
   refine .z zm ?_
   refine .gT rfl rfl ?_
   refine .ixX (enc:=Ssn.c) hs h2 rfl rfl bp ck hx de ?_;intro b28 o28 hc28
   refine .gT rfl rfl ?_
   refine .q hs (bY (vs:=(Ssn.c s)) rfl HB ck hc28) ?_
   refine .gT rfl rfl ?_
   refine .z zm ?_
   refine .gT rfl rfl ?_
   refine .o (.call Tryz.call160 rfl (pM (s:=s) hs hd) ?_);rintro _ w ⟨rfl,hs⟩
   refine .z zpT (.nil ?_)
   refine (.cond rfl (fun hc32=>?_) (fun hc32=>?_))
   ·refine .region (.z zm (.z (zfa cK) (.y hs (zld eh) (.z zm ?_))))
    refine .ixX (enc:=Ssn.c) hs h2 rfl rfl bp ck hx de ?_;intro b37 o37 hc37
    refine .z (zfa iD) ?_
    refine .q hs (aW rfl ae (hc37.get 3 rfl)) ?_
    refine .z Cb (.z zg (.nil ?_))
    refine nB (nT ?_)
    refine .region (.z zm (.z cP (.z zg (.nil ?_))))
    refine nT ?_
    rw [if_pos ⟨by assumption,by simpa using hc32⟩] at hE
    exact ⟨k+1,.dD rfl cu (by rw [hE];exact bj),⟨ak,hs⟩,ak⟩
   ·refine .skip ?_
    refine nB (nT ?_)
    refine .region (.z zm (.z cP (.z zg (.nil ?_))))
    refine nT ?_
    rw [if_neg (fun h=>of_decide_eq_false hc32 h.2)] at hE
    exact ⟨k+1,.dD rfl cu (by rw [hE];exact bj),⟨ak,hs⟩,ak⟩
  ·refine .gFs 7 8 true rfl rfl rfl ?_
   refine .z zpF (.nil ?_)
   refine (.cF ?_)
   refine .skip ?_
   refine nB (nT ?_)
   refine .region (.z zm (.z cP (.z zg (.nil ?_))))
   refine nT ?_
   rw [if_neg (fun h=>by have:=h.1;contradiction)] at hE
   exact ⟨k+1,.dD rfl cu (by rw [hE];exact bj),⟨ak,hs⟩,ak⟩
 ·refine .exit ?_
  refine xT (xT (xB (nT ?_)))
  refine .aj (.z zm (.z zg (.nil ?_)))
  refine .ret (Fin.bE Tryz.results108 rfl ?_)
  obtain rfl:k=l.seasons.length:=by omega
  exact ⟨by rw [List.take_length],hs.out⟩
theorem qt{l:Lns}{vt vs:Value}{z d:Int}(hs:St H w σ)(g:LnM H l vt vs):
  Cl Tryz.prog 107 [lnA l vt vs,I z,I d] w fun v w'=>∃e,v=I e∧Ax l z d e∧St H w' σ:=by
 refine Cl.o Tryz.func107 Tryz.ntmps107 ag3 ?_
 refine .aj ?_
 refine .bx hs fun b3 w hs=>?_
 refine .z zg (.nil (.seq (.aj (.y hs (zls [_,_,_,_] bn aM) ?_))))
 refine .o (.call Tryz.call20 rfl (ir hs g) ?_);rintro _ w ⟨e,rfl,he,hs⟩
 refine .z gS (.nil ?_)
 refine (.ek rfl (fun hc9=>?_) (fun hc9=>?_))
 ·refine .aj (.z zg (.nil ?_))
  refine .ret (rT (Fin.bE Tryz.results107 rfl ?_))
  have h:=he.resolve_left fun h=>hc9 h.2
  exact ⟨_,rfl,.lines h.1,hs.out⟩
 ·refine .skip ?_
  refine nT ?_
  refine .seq (.aj ?_)
  have hok:gG l:=(he.resolve_right fun h=>by omega).1
  refine .z zm ?_
  refine .o (.call ik rfl (dN hs) ?_);rintro _ w ⟨rfl,hs⟩
  refine .z fW (.nil ?_)
  refine (.cond rfl (fun hc12=>?_) (fun hc12=>?_))
  ·refine .aj (.z zg (.nil ?_))
   refine .ret (rT (Fin.bE Tryz.results107 rfl ?_))
   exact ⟨_,rfl,.zone hok (by simp at hc12;omega),hs.out⟩
  ·refine .skip ?_
   refine nT ?_
   refine .seq (.aj (.z zm ?_))
   refine .o (.call ik rfl (dN hs) ?_);rintro _ w ⟨rfl,hs⟩
   refine .z fW (.nil ?_)
   refine (.cond rfl (fun hc15=>?_) (fun hc15=>?_))
   ·refine .aj (.z zg (.nil ?_))
    refine .ret (rT (Fin.bE Tryz.results107 rfl ?_))
    exact ⟨_,rfl,.day hok (by simpa using hc12) (by simp at hc15;omega),hs.out⟩
   ·refine .skip ?_
    refine nT ?_
    refine .aj (.z zg (.nil ?_))
    refine .ret (Fin.bE Tryz.results107 rfl ?_)
    exact ⟨_,rfl,.ok hok (by simpa using hc12) (by simpa using hc15),hs.out⟩
theorem rX{l:Lns}{vt vs:Value}{z d:Int}(hs:St H w σ)(g:LnM H l vt vs):
  Cl Tryz.prog 42 [lnA l vt vs,I z,I d] w fun u w'=>∃n e,u= .tuple #[I n,I e]∧B7 l z d n e∧St H w' σ:=by
 refine Cl.o Tryz.func42 Tryz.ntmps42 ag3 ?_
 refine .aj ?_
 refine .bx hs fun b3 w hs=>?_
 refine .z zg (.z zg (.nil (.aj (.y hs (zls [_,_,_,_] bn aM) (.z zm (.z zm ?_))))))
 refine .o (.call Tryz.call107 rfl (qt hs g) ?_);rintro _ w ⟨e,rfl,he,hs⟩
 refine .z zg (.nil (.seq (.aj (.z zm (.z gS (.nil ?_))))))
 refine (.ek rfl (fun hc16=>?_) (fun hc16=>?_))
 ·refine .aj (.z zm (.z zg (.z zg (.nil ?_))))
  refine .ret (rT (Fin.iq Tryz.results42 rfl rfl ?_))
  exact ⟨_,_,rfl,.bad he hc16,hs.out⟩
 ·refine .skip ?_
  refine nT ?_
  refine .aj (.y hs (zls [_,_,_,_] bn aM) ?_)
  obtain rfl:e=0:=by omega
  obtain ⟨hok,hz,hd⟩:=he.zero
  refine .o (.call Tryz.call103 rfl (kv hs g hok) ?_);rintro _ w ⟨n,b,rfl,hF,hs⟩
  refine .z zm (.z zex (.z zex (.z zg (.z zg (.nil (.seq (.aj (.z zm (.z gS ?_)))))))))
  refine .nil ?_
  refine (.ek rfl (fun hc24=>?_) (fun hc24=>?_))
  ·refine .aj (.z zm (.z zg (.z zg (.nil ?_))))
   refine .ret (rT (Fin.iq Tryz.results42 rfl rfl ?_))
   obtain rfl:b=false:=by cases b;rfl;exact (hc24 rfl).elim
   exact ⟨_,_,rfl,.none he hF,hs.out⟩
  ·refine .skip ?_
   refine nT ?_
   refine .seq (.draw mix rfl hs fun w hs=>?_)
   refine .z 0 rfl (zfa ia) ?_
   obtain rfl:b=true:=by cases b;simp at hc24;rfl
   have hn:=hF.bd hok
   have hdp:=hok.depth
   have hE:=qV hok.seasons z (1+d%365)
   refine .y 1 rfl hs ae ?_;refine .z 2 rfl zm ?_;refine .z 3 rfl gM ?_;refine .ys 4 rfl hs [_,_,_,_] bn aM ?_;refine .z 5 rfl zm ?_;refine .z 6 rfl zm ?_
   refine .E 7 hs ?_
   refine .call Tryz.call108 rfl (s7 hs g hok hd.1) ?_;rintro _ w ⟨rfl,hs⟩
   refine .go ?_
   refine .z 8 rfl gM ?_;refine .z 9 rfl zg ?_;refine .z 10 rfl zg ?_;refine .D hs ?_
   refine .ret (Fin.iq Tryz.results42 rfl rfl ?_)
   exact ⟨_,_,rfl,.ok he hF,hs.out⟩
theorem s8{s:Spc}{vst vwa:Value}{h:Int}(hs:St H w σ)(h2:RI H vwa s.wa)(hok:eI s):
  Cl Tryz.prog 114 [spA s vst vwa,I h] w fun u w'=>∃k,u=I k∧vH s.wa h k∧St H w' σ:=by
 obtain ⟨awa,cwa,rfl⟩:=RI.shape h2
 have hm:=hok.wa.many
 have hr:=fun {i j:Nat}=>hok.wa.le (i:=i) (j:=j)
 refine Cl.o Tryz.func114 Tryz.ntmps114 ag2 ?_
 refine .aj ?_
 refine .bx hs fun b2 w hs=>?_
 refine .z zg (.nil (.aj (.z zg (.nil (.seq (.aj (.z zg (.nil (.block ?_)))))))))
 refine .loop (fun p:Nat×Int=>⟨28,[],[(6,I (p.1:Int)),(5,I p.2),(2,.pointer (some ⟨b2,0,none⟩)),(1,I h)]⟩)
  (fun p w=>(p.1≤s.wa.length∧-1≤p.2∧p.2<p.1)∧(∀i<p.1,gi s.wa i - gi s.wa 0≤h↔(i:Int)≤p.2)∧St H w (.blk b2 (spC s vst (.slice awa s.wa.length cwa))::σ)) (fun p=>s.wa.length - p.1) (0,-1) bj
  ⟨by dsimp only;omega,fun i hi=>by dsimp only at hi;omega,hs⟩ ?_
 rintro ⟨k,q⟩ w ⟨hk,hall,hs⟩
 dsimp only at hk hall ⊢
 refine .seq (.aj (.z zm (.z (zfa a8) (.y hs (zld an) (.z (dp af) (.z iK (.nil ?_)))))))
 refine (.bH rfl (fun hc11=>?_) (fun hc11=>?_))
 ·refine .skip ?_
  refine nT ?_
  refine .seq (.block ?_)
  refine .seq (.draw mix rfl hs fun w hs=>?_)
  have hkl:k<s.wa.length:=by omega
  have c1:=hok.wa.bd hkl
  have c2:=hok.wa.bd (i:=0) ak
  refine .z 0 rfl (zfa a8) ?_;refine .y 1 rfl hs an ?_;refine .z 2 rfl zm ?_
  refine .ixX (enc:=fun x=>[I x]) (i:=3) hs rfl aq .none h2 rfl rfl af ai (bU (l:=s.wa) (i:=k) ak) de ?_;intro b17 o17 hc17;replace hc17:=cg.one hc17
  refine .r (i:=4) hs rfl aq .none (aW rfl ae hc17) ?_
  refine .z 5 rfl (zfa a8) ?_;refine .y 6 rfl hs an ?_
  refine .ixX (enc:=fun x=>[I x]) (i:=7) hs rfl aq .none h2 rfl rfl af ai (bU (l:=s.wa) (i:=0) ak) de ?_;intro b21 o21 hc21;replace hc21:=cg.one hc21
  refine .r (i:=8) hs rfl aq .none (aW rfl ae hc21) ?_
  refine .z 9 rfl gM ?_;refine .z 10 rfl zm ?_;refine .z 11 rfl oF ?_;refine .D hs ?_
  refine (.bH rfl (fun hc25=>?_) (fun hc25=>?_))
  ·refine .region (.z zm (.z zg (.nil ?_)))
   refine nB (nT ?_)
   refine .region (.z zm (.z cP (.z zg (.nil ?_))))
   refine nT ?_
   exact ⟨(k+1,(k:Int)),.dD rfl cu bj,⟨by dsimp only;omega,fun i hi=>by
    dsimp only at hi ⊢
    have:=hr (show i≤k by omega) hkl
    omega,hs⟩,by dsimp only;omega⟩
  ·refine .skip ?_
   refine nB (nT ?_)
   refine .region (.z zm (.z cP (.z zg (.nil ?_))))
   refine nT ?_
   exact ⟨(k+1,q),.dD rfl cu bj,⟨by dsimp only;omega,fun i hi=>by
    dsimp only at hi ⊢
    by_cases e:i=k
    ·subst e;omega
    ·exact hall i ak,hs⟩,by dsimp only;omega⟩
 ·refine .exit ?_
  refine xT (xT (xB (nT ?_)))
  refine .aj (.z zm (.z zg (.nil ?_)))
  refine .ret (Fin.bE Tryz.results114 rfl ?_)
  obtain rfl:k=s.wa.length:=by omega
  exact ⟨_,rfl,⟨ak,ak,hall⟩,hs.out⟩
theorem nD{s:Spc}{l:Lns}{vst vwa vt vs:Value}{z d:Int}(hs:St H w σ)(g1:RI H vst s.st)(g2:RI H vwa s.wa)(g:LnM H l vt vs):
  Cl Tryz.prog 46 [spA s vst vwa,lnA l vt vs,I z,I d] w fun u w'=>∃k e,u= .tuple #[I k,I e]∧u9 s l z d k e∧St H w' σ:=by
 refine Cl.o Tryz.func46 Tryz.ntmps46 ag4 ?_
 refine .aj ?_
 refine .bx hs fun b4 w hs=>?_
 refine .bx hs fun b5 w hs=>?_
 refine .z zg (.z zg (.nil (.seq (.aj (.y hs (zls [_,_,_,_,_,_] aV aH) ?_)))))
 refine .o (.call Tryz.call113 rfl (jY (s:=s) hs g1 g2) ?_);rintro _ w ⟨e,rfl,he,hs⟩
 refine .z gS (.nil ?_)
 refine (.ek rfl (fun hc15=>?_) (fun hc15=>?_))
 ·refine .aj (.z zg (.z zg (.nil ?_)))
  refine .ret (rT (Fin.iq Tryz.results46 rfl rfl ?_))
  have h:=he.resolve_left fun h=>hc15 h.2
  exact ⟨_,_,rfl,.space h.1,hs.out⟩
 ·refine .skip ?_
  refine nT ?_
  refine .aj (.y hs (zls [_,_,_,_] bn aM) (.z zm (.z zm ?_)))
  have hok:eI s:=(he.resolve_right fun h=>by omega).1
  refine .o (.call Tryz.call42 rfl (rX hs g) ?_);rintro _ w ⟨h,f,rfl,hH,hs⟩
  refine .z zm (.z zex (.z zex (.z zg (.z zg (.nil (.seq (.aj (.z zm (.z gS ?_)))))))))
  refine .nil ?_
  refine (.ek rfl (fun hc24=>?_) (fun hc24=>?_))
  ·refine .aj (.z zm (.z zg (.z zg (.nil ?_))))
   refine .ret (rT (Fin.iq Tryz.results46 rfl rfl ?_))
   exact ⟨_,_,rfl,.bad hok hH hc24,hs.out⟩
  ·refine .skip ?_
   refine nT ?_
   refine .aj (.y hs (zls [_,_,_,_,_,_] aV aH) (.z zm ?_))
   obtain rfl:f=0:=by omega
   refine .o (.call Tryz.call114 rfl (s8 (s:=s) hs g2 hok) ?_);rintro _ w ⟨k,rfl,hB,hs⟩
   refine .z zg (.nil (.seq (.aj (.z zm (.z iK (.nil ?_))))))
   refine (.bH rfl (fun hc30=>?_) (fun hc30=>?_))
   ·refine .aj (.z zg (.z zg (.nil ?_)))
    refine .ret (rT (Fin.iq Tryz.results46 rfl rfl ?_))
    have hk:=hB.low
    obtain rfl:k= -1:=by omega
    exact ⟨_,_,rfl,.above hok hH hB,hs.out⟩
   ·refine .skip ?_
    refine nT ?_
    refine .aj (.z zm (.z zg (.z zg (.nil ?_))))
    refine .ret (Fin.iq Tryz.results46 rfl rfl ?_)
    exact ⟨_,_,rfl,.ok hok hH hB ak,hs.out⟩
theorem rR{s:Spc}{l:Lns}{x:Lg}{vst vwa vt vs:Value}(hs:St H w σ)(g1:RI H vst s.st)(g2:RI H vwa s.wa)(g:LnM H l vt vs)(hsp:eI s)(hl:gG l)(hx:yd x):
  Cl Tryz.prog 116 [spA s vst vwa,lnA l vt vs,lgA x] w fun u w'=>∃k e,u= .tuple #[I k,I e]∧vG s.wa l x k e∧St H w' σ:=by
 obtain ⟨awa,cwa,rfl⟩:=RI.shape g2
 have hd:=qX hx
 have hdn:(kl x:Int)=min x.to (x.fr+364) - x.fr+1:=by have:=hx.fr;unfold kl;omega
 have hf:=hx.fr
 have ht:=hx.to
 refine Cl.o Tryz.func116 Tryz.ntmps116 ag3 ?_
 refine .aj ?_
 refine .bx hs fun b3 w hs=>?_
 refine .bx hs fun b4 w hs=>?_
 refine .bx hs fun b5 w hs=>?_
 refine .z zg (.z zg (.nil (.aj (.z (zfa a8) (.y hs (zld an) (.z (dp af) (.z zg (.nil (.seq ?_)))))))))
 refine .aj (.z (zfa fi) (.y hs (zld ae) (.z zg (.nil (.block ?_)))))
 refine .loop (fun p:Nat×Int=>⟨46,[],[(9,I (x.fr+(p.1:Int))),(8,I p.2),(5,.pointer (some ⟨b5,0,none⟩)),(4,.pointer (some ⟨b4,0,none⟩)),(3,.pointer (some ⟨b3,0,none⟩))]⟩)
  (fun p w=>p.1≤kl x∧Hu s.wa l x p.1 p.2∧St H w (.blk b5 (lgC x):: .blk b4 (lnC l vt vs):: .blk b3 (spC s vst (.slice awa s.wa.length cwa))::σ)) (fun p=>kl x - p.1) (0,(s.wa.length:Int)) (.cons (by show some (I _)=some (I _);congr 2;omega) bj)
  ⟨Nat.zero_le _,.inl ⟨rfl,rfl⟩,hs⟩ ?_
 rintro ⟨j,best⟩ w ⟨hj,hI,hs⟩
 dsimp only at hj hI ⊢
 refine .seq (.aj (.z zm (.z (zfa fh) (.y hs (zld ae) (.z oF (.z zm ?_))))))
 refine .iW (t':=21) rfl (fun hb21=>?_) (fun hb21=>?_)
 ·refine .gT rfl rfl ?_
  refine .z zm ?_
  refine .gT rfl rfl ?_
  refine .z (zfa fi) ?_
  refine .gT rfl rfl ?_
  refine .y hs (zld ae) ?_
  refine .gT rfl rfl ?_
  refine .z cP ?_
  refine .gT rfl rfl ?_
  refine .z iK (.z zpT (.nil ?_))
  refine (.bH rfl (fun hc27=>?_) (fun hc27=>?_))
  ·refine .skip ?_
   refine nT ?_
   refine .seq (.block (.aj (.y hs (zls [_,_,_,_,_,_] aV aH) (.y hs (zls [_,_,_,_] bn aM) (.z (zfa j9) (.y hs (zld ae) (.z zm ?_)))))))
   refine .o (.call Tryz.call46 rfl (nD (s:=s) hs g1 g2 g) ?_);rintro _ w ⟨k,e,rfl,hM,hs⟩
   have hM':=hM.day hsp hl hx ak
   refine .z zm (.z zex (.z zex (.z zg (.z zg (.nil (.seq (.aj (.z zm (.z gS ?_)))))))))
   refine .nil ?_
   refine (.ek rfl (fun hc40=>?_) (fun hc40=>?_))
   ·refine .aj (.z zm (.z zg (.z zg (.nil ?_))))
    refine .ret (rT (rB (rT (rT (rB (rT (Fin.iq Tryz.results116 rfl rfl ?_)))))))
    exact ⟨_,_,rfl,(hM'.resolve_right fun h=>hc40 h.1).2,hs.out⟩
   ·refine .skip ?_
    refine nT ?_
    refine .region (.z zm (.z zm (.z Bk (.z zg (.nil ?_)))))
    refine nB (nT ?_)
    refine .region (.z zm (.z cP (.z zg (.nil ?_))))
    refine nT ?_
    obtain ⟨_,hk0,n,h1,h2⟩:=hM'.resolve_left fun h=>h.1 ak
    exact ⟨(j+1,min best k),.cons (by show some (I _)=some (I _);congr 2;omega) bj,⟨by dsimp only;omega,hI.step hl h1 h2 hk0,hs⟩,by dsimp only;omega⟩
  ·refine .exit ?_
   refine xT (xT (xB (nT ?_)))
   refine .aj (.z zm (.z zg (.z zg (.nil ?_))))
   refine .ret (Fin.iq Tryz.results116 rfl rfl ?_)
   obtain rfl:j=kl x:=by omega
   exact ⟨_,_,rfl,hI.done hx,hs.out⟩
 ·refine .gFs 5 4 true rfl rfl rfl ?_
  refine .z zpF (.nil ?_)
  refine (.cF ?_)
  refine .exit ?_
  refine xT (xT (xB (nT ?_)))
  refine .aj (.z zm (.z zg (.z zg (.nil ?_))))
  refine .ret (Fin.iq Tryz.results116 rfl rfl ?_)
  obtain rfl:j=kl x:=by omega
  exact ⟨_,_,rfl,hI.done hx,hs.out⟩
theorem rV{s:Spc}{l:Lns}{x:Lg}{vst vwa vt vs:Value}(hs:St H w σ)(g1:RI H vst s.st)(g2:RI H vwa s.wa)(g:LnM H l vt vs):
  Cl Tryz.prog 48 [spA s vst vwa,lnA l vt vs,lgA x] w fun u w'=>∃k e,u= .tuple #[I k,I e]∧FJ s l x k e∧St H w' σ:=by
 refine Cl.o Tryz.func48 Tryz.ntmps48 ag3 ?_
 refine .aj ?_
 refine .bx hs fun b3 w hs=>?_
 refine .bx hs fun b4 w hs=>?_
 refine .bx hs fun b5 w hs=>?_
 refine .z zg (.z zg (.nil (.seq (.aj (.y hs (zls [_,_,_,_,_,_] aV aH) ?_)))))
 refine .o (.call Tryz.call113 rfl (jY (s:=s) hs g1 g2) ?_);rintro _ w ⟨e,rfl,he,hs⟩
 refine .z gS (.nil ?_)
 refine (.ek rfl (fun hc10=>?_) (fun hc10=>?_))
 ·refine .aj (.z zg (.z zg (.nil ?_)))
  refine .ret (rT (Fin.iq Tryz.results48 rfl rfl ?_))
  have h:=he.resolve_left fun h=>hc10 h.2
  exact ⟨_,_,rfl,.space h.1,hs.out⟩
 ·refine .skip ?_
  refine nT ?_
  refine .seq (.aj (.y hs (zls [_,_,_,_] bn aM) ?_))
  have hok:eI s:=(he.resolve_right fun h=>by omega).1
  refine .o (.call Tryz.call20 rfl (ir hs g) ?_);rintro _ w ⟨e,rfl,he,hs⟩
  refine .z gS (.nil ?_)
  refine (.ek rfl (fun hc13=>?_) (fun hc13=>?_))
  ·refine .aj (.z zg (.z zg (.nil ?_)))
   refine .ret (rT (Fin.iq Tryz.results48 rfl rfl ?_))
   have h:=he.resolve_left fun h=>hc13 h.2
   exact ⟨_,_,rfl,.lines hok h.1,hs.out⟩
  ·refine .skip ?_
   refine nT ?_
   refine .seq (.aj (.y hs (zls [_,_,_,_,_,_,_] dU aK) ?_))
   have hl:gG l:=(he.resolve_right fun h=>by omega).1
   refine .o (.call Tryz.call76 rfl (s9 (x:=x) hs) ?_);rintro _ w ⟨b,rfl,hb,hs⟩
   refine .z fW (.nil ?_)
   refine (.cond rfl (fun hc16=>?_) (fun hc16=>?_))
   ·refine .aj (.z zg (.z zg (.nil ?_)))
    refine .ret (rT (Fin.iq Tryz.results48 rfl rfl ?_))
    exact ⟨_,_,rfl,.leg hok hl (fun h=>by rw [hb.2 h] at hc16;cases hc16),hs.out⟩
   ·refine .skip ?_
    refine nT ?_
    refine .aj (.y hs (zls [_,_,_,_,_,_] aV aH) (.y hs (zls [_,_,_,_] bn aM) (.y hs (zls [_,_,_,_,_,_,_] dU aK) ?_)))
    have hx:yd x:=hb.1 (by simpa using hc16)
    refine .o (.call Tryz.call116 rfl (rR (s:=s) (x:=x) hs g1 g2 g hok hl hx) ?_);rintro _ w ⟨k,e,rfl,hL,hs⟩
    refine .z zex (.z zex (.z zg (.z zg (.nil ?_))))
    refine .ret (Fin.iq Tryz.results48 rfl rfl ?_)
    exact ⟨_,_,rfl,.go hok hl hx hL,hs.out⟩
theorem cN{n m:Int}(hs:St H w σ)(hm:1≤m∧m≤4611686018427387904):Cl Tryz.prog 36 [I n,I m] w fun u w'=>u=I (rz n m)∧St H w' σ:=by
 have h1:=Int.tmod_lt_of_pos n (show 0<m by omega)
 have h2:=Int.lt_tmod_of_pos n (show 0<m by omega)
 refine Cl.o Tryz.func36 Tryz.ntmps36 ag2 ?_
 refine .aj (.z zg (.nil (.aj (.z zm (.z zm (.z AA (.z zm (.z cP (.z zm ?_)))))))))
 refine .z AA (.z zg (.nil ?_))
 refine .ret (Fin.bE Tryz.results36 rfl ?_)
 exact ⟨rfl,hs⟩
theorem dI{v:Value}{l:List Int}{i n:Int}(hs:St H w σ)(hr:RI H v l)(hi:0≤i)(hn:1≤n∧n≤1000000):Cl Tryz.prog 141 [v,I i,I n] w fun u w'=>∃x,u=I x∧(0≤x∧x<n)∧St H w' σ:=by
 obtain ⟨a,c,rfl⟩:=RI.shape hr
 refine Cl.o Tryz.func141 Tryz.ntmps141 ag3 ?_
 refine .aj (.z zg (.nil (.seq (.aj (.z zm (.z (dp af) (.z gj (.nil ?_))))))))
 refine (.bH rfl (fun hc9=>?_) (fun hc9=>?_))
 ·refine .aj (.z zg (.nil ?_))
  refine .ret (rT (Fin.bE Tryz.results141 rfl ?_))
  exact ⟨0,rfl,ak,hs⟩
 ·refine .skip ?_
  refine nT ?_
  refine .aj (.z zm (.z zm (.z zm (.z (dp af) (.z AA ?_)))))
  have h1:=Int.tmod_lt_of_pos i (show 0<(l.length:Int) by omega)
  have h2:=Int.tmod_nonneg (l.length:Int) hi
  refine .ixX (enc:=fun x=>[I x]) hs hr rfl rfl af ai (bU (l:=l) (i:=(i.tmod l.length).toNat) ak) ak ?_;intro b15 o15 hc15;replace hc15:=cg.one hc15
  refine .y hs (zld ae) (.z zm ?_)
  refine .o (.call eR rfl (cN hs ak) ?_);rintro _ w ⟨rfl,hs⟩
  refine .z zg (.nil ?_)
  refine .ret (Fin.bE Tryz.results141 rfl ?_)
  exact ⟨_,rfl,kX _ hn.1,hs⟩
theorem jx{a b c d e f fr:Int}(hs:St H w σ)(hf:0≤fr∧fr≤1000000):Cl Tryz.prog 142 [.agg #[I a,I b,I c,I d,I e,I f],I fr] w fun u w'=>∃x,u=lgA x∧DP x fr∧St H w' σ:=by
 have m1:=kX a (m:=3) ak
 have m2:=kX b (m:=40) ak
 have m3:=kX c (m:=60) ak
 have m4:=kX d (m:=100) ak
 have m5:=kX (IntKind.i64.wrap (d.tdiv 100)) (m:=40) ak
 have m6:=kX e (m:=500) ak
 have m7:=kX f (m:=200) ak
 refine Cl.o Tryz.func142 Tryz.ntmps142 ag2 ?_
 refine .aj ?_
 refine .bx hs fun b2 w hs=>?_
 refine .o (.alloc hs dm rfl fun b4 w hs=>?_)
 refine .nil ?_
 refine .cut (fun fs w=>∃b5,kJ fs ⟨50,[],[(5,.pointer (some ⟨b5,0,none⟩)),(4,.pointer (some ⟨b4,0,none⟩)),(2,.pointer (some ⟨b2,0,none⟩))]⟩∧St H w (.blk b5 [I (1+rz a 3),I (fr+rz b 40),I 0,I 0,I 0,I 0,I 0]:: .blk b4 [I 0,I 0,I 0,I 0,I 0,I 0,I 0]:: .blk b2 [I a,I b,I c,I d,I e,I f]::σ)) ?_ ?_
 ·refine .draw mix rfl hs fun w hs=>?_
  refine .z 0 rfl (zia 0 eA ai) ?_
  refine .y 1 rfl hs ae ?_;refine .z 4 rfl zm ?_
  refine .z 5 rfl (zia 1 eA ai) ?_
  refine .y 6 rfl hs ae ?_
  refine .e2 (i:=2) (j:=10) aq rfl rfl rfl rfl .none .none hs ?_ ?_
  ·refine .call eR rfl (cN hs ak) ?_;rintro _ w ⟨rfl,hs⟩
   refine .go ?_
   refine .z 3 rfl cP ?_
   refine .e2 (i:=7) (j:=10) aq rfl rfl rfl rfl .none .none hs ?_ ?_
   ·refine .call eR rfl (cN hs ak) ?_;rintro _ w ⟨rfl,hs⟩
    refine .go ?_
    refine .z 8 rfl cP ?_;refine .z 9 rfl (zbd [_,_,_,_,_,_,_] la) ?_
    refine .E 10 hs ?_
    refine .alloc hs dm rfl ?_;intro b5 w hs
    refine .go ?_
    refine .E 11 hs ?_
    refine .aP (vs:=[_,_,_,_,_,_,_]) hs rfl rfl aK ?_;intro w hs
    refine .go ?_
    refine .D hs ?_
    exact nT ⟨b5,bj,hs.sb⟩
   ·refine .alloc hs dm rfl ?_;intro b5 w hs
    refine .go ?_
    refine .E 7 hs ?_
    refine .call eR rfl (cN hs ak) ?_;rintro _ w ⟨rfl,hs⟩
    refine .go ?_
    refine .z 8 rfl cP ?_;refine .z 9 rfl (zbd [_,_,_,_,_,_,_] la) ?_
    refine .E 11 hs ?_
    refine .aP (vs:=[_,_,_,_,_,_,_]) hs rfl rfl aK ?_;intro w hs
    refine .go ?_
    refine .D hs ?_
    exact nT ⟨b5,bj,hs.sb⟩
  ·refine .alloc hs dm rfl ?_;intro b5 w hs
   refine .go ?_
   refine .E 2 hs ?_
   refine .call eR rfl (cN hs ak) ?_;rintro _ w ⟨rfl,hs⟩
   refine .go ?_
   refine .z 3 rfl cP ?_
   refine .E 7 hs ?_
   refine .call eR rfl (cN hs ak) ?_;rintro _ w ⟨rfl,hs⟩
   refine .go ?_
   refine .z 8 rfl cP ?_;refine .z 9 rfl (zbd [_,_,_,_,_,_,_] la) ?_
   refine .E 11 hs ?_
   refine .aP (vs:=[_,_,_,_,_,_,_]) hs rfl rfl aK ?_;intro w hs
   refine .go ?_
   refine .D hs ?_
   exact nT ⟨b5,bj,hs.sb⟩
 ·rintro fs w ⟨b5,hfs,hs⟩
  refine WE.sub ?_ hfs
  clear hfs
  refine .seq (.draw mix rfl hs fun w hs=>?_)
  refine .z 0 rfl (zfa fi) ?_;refine .y 1 rfl hs ae ?_
  refine .z 2 rfl (zia 2 eA ai) ?_
  refine .y 3 rfl hs ae ?_
  refine .E 4 hs ?_
  refine .call eR rfl (cN hs ak) ?_;rintro _ w ⟨rfl,hs⟩
  refine .go ?_
  refine .z 5 rfl cP ?_;refine .z 6 rfl (zfa fh) ?_
  refine .E 7 hs ?_
  refine .store hs rfl rfl ai ?_;intro w hs
  refine .go ?_
  refine .D hs ?_
  refine .aj ?_
  refine .z (zia 3 eA ai) ?_
  refine .y hs (zld ae) ?_
  refine .o (.call eR rfl (cN hs ak) ?_);rintro _ w ⟨rfl,hs⟩
  refine .z cP (.z zg (.nil (.aj (.z zm (.z zm ?_)))))
  refine .z (zia 3 eA ai) ?_
  refine .y hs (zld ae) (.z Hm ?_)
  refine .o (.call eR rfl (cN hs ak) ?_);rintro _ w ⟨rfl,hs⟩
  refine .z cP (.z (zbd [_,_] cz) (.z (zfa fK) ?_))
  refine .o (.aP (vs:=[_,_]) hs rfl rfl aA fun w hs=>?_)
  refine .nil ?_
  refine .seq (.draw mix rfl hs fun w hs=>?_)
  refine .z 0 rfl (zia 4 eA ai) ?_
  refine .y 1 rfl hs ae ?_
  refine .z 3 rfl (zia 4 eA ai) ?_
  refine .y 4 rfl hs ae ?_
  refine .z 6 rfl (zia 5 eA ai) ?_
  refine .y 7 rfl hs ae ?_
  refine .E 2 hs ?_
  refine .call eR rfl (cN hs ak) ?_;rintro _ w ⟨rfl,hs⟩
  refine .go ?_
  refine .E 5 hs ?_
  refine .call eR rfl (cN hs ak) ?_;rintro _ w ⟨rfl,hs⟩
  refine .go ?_
  refine .E 8 hs ?_
  refine .call eR rfl (cN hs ak) ?_;rintro _ w ⟨rfl,hs⟩
  refine .go ?_
  refine .z 9 rfl cP ?_;refine .z 10 rfl (zbd [_,_] cz) ?_;refine .z 11 rfl (zfa fJ) ?_
  refine .E 12 hs ?_
  refine .aP (vs:=[_,_]) hs rfl rfl aA ?_;intro w hs
  refine .go ?_
  refine .D hs ?_
  refine .aj (.y hs (zls [_,_,_,_,_,_,_] dU aK) ?_)
  refine .o (.aP (vs:=[_,_,_,_,_,_,_]) hs rfl rfl aK fun w hs=>?_)
  refine .nil ?_
  refine .ret ?_
  exact Fin.iZ [] [] hs fun w hs=>⟨_,results1 Tryz.results142 (dJ (vs:=lgC ⟨1+rz a 3,fr+rz b 40,fr+rz b 40+rz c 60,950+rz d 100,950+rz d 100+rz (IntKind.i64.wrap (d.tdiv 100)) 40,rz e 500,rz e 500+rz f 200⟩) hs rfl dU aK),⟨1+rz a 3,fr+rz b 40,fr+rz b 40+rz c 60,950+rz d 100,950+rz d 100+rz (IntKind.i64.wrap (d.tdiv 100)) 40,rz e 500,rz e 500+rz f 200⟩,rfl,⟨by dsimp only;omega,by dsimp only;omega,by dsimp only;omega,by dsimp only;omega,by dsimp only;omega,by dsimp only;omega,by dsimp only;omega⟩,hs.out⟩
theorem pO{v:Value}{ns:List Int}(hs:St H w σ)(hr:RI H v ns):
  Cl Tryz.prog 77 [v] w fun u w'=>∃l vt vs e1 e2,u=lnA l vt vs∧IN l∧cI 2 vt (fbc l.table).flatten e1∧cI 4 vs (snc l.seasons).flatten e2∧St H w' (e2::e1::σ):=by
 refine Cl.o Tryz.func77 Tryz.ntmps77 ag1 ?_
 refine .aj ?_
 refine .o (.alloc hs iJ rfl fun b2 w hs=>?_)
 refine .nil (.aj (.z zm ?_))
 refine .o (.call jr rfl (dI hs hr ak ak) ?_);rintro _ w ⟨x6,rfl,g6,hs⟩
 refine .z cP (.z zm ?_)
 refine .o (.call jr rfl (dI hs hr ak ak) ?_);rintro _ w ⟨x9,rfl,g9,hs⟩
 refine .z cP (.z (zbd [I (100+x6),I (200+x9),.slice none 0 0,.slice none 0 0] rm rfl aq) ?_)
 refine .o (.alloc hs iJ rfl fun b3 w hs=>?_)
 refine .o (.aP (vs:=[_,_,_,_]) hs rfl rfl aM fun w hs=>?_)
 refine .nil (.aj (.z zm ?_))
 refine .o (.call jr rfl (dI hs hr ak ak) ?_);rintro _ w ⟨x13,rfl,g13,hs⟩
 refine .z (zbd [_,_] gD) (.z zm ?_)
 refine .o (.call jr rfl (dI hs hr ak ak) ?_);rintro _ w ⟨x16,rfl,g16,hs⟩
 refine .z cP (.z zm ?_)
 refine .o (.call jr rfl (dI hs hr ak ak) ?_);rintro _ w ⟨x19,rfl,g19,hs⟩
 refine .z (zbd [_,_] gD) (.z zm ?_)
 refine .o (.call jr rfl (dI hs hr ak ak) ?_);rintro _ w ⟨x22,rfl,g22,hs⟩
 refine .z (zbd [_,_] gD) ?_
 refine .o (.buildSlice (cells:=(fbc [⟨100,x13⟩,⟨400+x16,x19⟩,⟨1000,x22⟩]).flatten) hs nr rfl aq fun b24 w hs=>?_)
 refine .z (zfa cq) ?_
 refine .o (.store hs rfl rfl Tryz.sizeOf22 fun w hs=>?_)
 refine .nil (.seq (.aj (.z zg (.nil (.block ?_)))))
 replace hs:St H w (.blk b24 (fbc [⟨100,x13⟩,⟨400+x16,x19⟩,⟨1000,x22⟩]).flatten:: .blk b3 [I (100+x6),I (200+x9),.slice (some ⟨b24,0,none⟩) 3 3,.slice none 0 0]:: .blk b2 [I 0,I 0,.slice none 0 0,.slice none 0 0]::σ):=hs
 refine .loop (fun p:Nat×List Ssn×Value×Ent=>⟨62,[],[(4,I (p.1:Int)),(3,.pointer (some ⟨b3,0,none⟩)),(2,.pointer (some ⟨b2,0,none⟩)),(0,v)]⟩)
  (fun p w=>p.1≤4∧p.2.1.length=p.1∧(∀s∈p.2.1,Au s)∧cI 4 p.2.2.1 (snc p.2.1).flatten p.2.2.2∧St H w (p.2.2.2:: .blk b24 (fbc [⟨100,x13⟩,⟨400+x16,x19⟩,⟨1000,x22⟩]).flatten:: .blk b3 [I (100+x6),I (200+x9),.slice (some ⟨b24,0,none⟩) 3 3,p.2.2.1]:: .blk b2 [I 0,I 0,.slice none 0 0,.slice none 0 0]::σ)) (fun p=>4 - p.1) (0,[],_,.nul) bj
  ⟨by dsimp only;omega,rfl,fun s hs=>(by cases hs),.nil 4 none,hs.nul⟩ ?_
 rintro ⟨k,ss,vo,en⟩ w ⟨hk,hkl,hss,hO,hs⟩
 dsimp only at hk hkl hss hO hs ⊢
 obtain ⟨ao,co,rfl⟩:=hO.iU (yv _) ak
 rw [kK] at hO hs
 refine .seq (.aj (.z zm (.z zm ?_)))
 refine .o (.call jr rfl (dI hs hr ak ak) ?_);rintro _ w ⟨x28,rfl,g28,hs⟩
 refine .z iK (.nil ?_)
 refine (.bH rfl (fun hc29=>?_) (fun hc29=>?_))
 ·refine .skip ?_
  refine nT ?_
  refine .seq (.block ?_)
  refine .draw mix rfl hs fun w hs=>?_
  refine .z 0 rfl (zfa cK) ?_;refine .y 1 rfl hs eh ?_;refine .z 2 rfl zm ?_;refine .z 3 rfl zm ?_;refine .z 4 rfl lz ?_;refine .z 5 rfl cP ?_;refine .z 8 rfl zm ?_;refine .z 9 rfl zm ?_;refine .z 10 rfl lz ?_;refine .z 11 rfl cP ?_
  refine .z 14 rfl zm ?_;refine .z 15 rfl zm ?_;refine .z 16 rfl lz ?_;refine .z 17 rfl cP ?_;refine .z 20 rfl zm ?_;refine .z 21 rfl zm ?_;refine .z 22 rfl lz ?_;refine .z 23 rfl cP ?_
  refine .E 6 hs ?_
  refine .call jr rfl (dI hs hr ak ak) ?_;rintro _ w ⟨x38,rfl,g38,hs⟩
  refine .go ?_
  refine .z 7 rfl cP ?_
  refine .E 12 hs ?_
  refine .call jr rfl (dI hs hr ak ak) ?_;rintro _ w ⟨x44,rfl,g44,hs⟩
  refine .go ?_
  refine .z 13 rfl cP ?_
  refine .E 18 hs ?_
  refine .call jr rfl (dI hs hr ak ak) ?_;rintro _ w ⟨x50,rfl,g50,hs⟩
  refine .go ?_
  refine .z 19 rfl cP ?_
  refine .E 24 hs ?_
  refine .call jr rfl (dI hs hr ak ak) ?_;rintro _ w ⟨x56,rfl,g56,hs⟩
  refine .go ?_
  refine .z 25 rfl (zbd (Ssn.c ⟨1+x38,1+x44,1+x50,x56⟩) pv rfl aq) ?_
  refine .E 26 hs ?_
  refine .buildSlice (cells:=Ssn.c ⟨1+x38,1+x44,1+x50,x56⟩) hs k9 rfl aq ?_;intro b58 w hs
  refine .go ?_
  refine .E 27 hs ?_
  refine .append (ys:=Ssn.c ⟨1+x38,1+x44,1+x50,x56⟩) hs kH rfl rfl hO (.own .here rfl rfl) (by simp [Ssn.c,Value.oneCell']) (fun l' h=>by rw [bT _ (yv _),kK] at h;omega) ?_;intro v59 en59 w hO2 hs
  rw [←Er] at hO2
  obtain ⟨a59,c59,rfl⟩:=hO2.iU (yv _) ak
  refine .go ?_
  refine .z 28 rfl (zfa cK) ?_
  refine .E 29 hs ?_
  refine .store hs rfl rfl Tryz.sizeOf23 ?_;intro w hs
  refine .go ?_
  refine .D hs ?_
  refine nB (nT ?_)
  refine .region (.z zm (.z cP (.z zg (.nil ?_))))
  refine nT ?_
  exact ⟨(k+1,ss++[⟨1+x38,1+x44,1+x50,x56⟩],_,en59),.dD rfl cu bj,⟨by dsimp only;omega,by simp [hkl],fun s hs=>by
   rcases List.mem_append.1 hs with h|h
   ·exact hss s h
   ·rw [List.mem_singleton] at h;subst h;exact ⟨by dsimp only;omega,by dsimp only;omega,by dsimp only;omega,by dsimp only;omega⟩,hO2,hs.sb⟩,by dsimp only;omega⟩
 ·refine .exit ?_
  refine xT (xT (xB (nT ?_)))
  refine .aj (.y hs (zls [_,_,_,_] bn aM) ?_)
  refine .o (.aP (vs:=[_,_,_,_]) hs rfl rfl aM fun w hs=>?_)
  refine .nil ?_
  refine .ret ?_
  exact Fin.iZ [] [] hs fun w hs=>⟨_,results1 Tryz.results77 (dJ (vs:=[I (100+x6),I (200+x9),.slice (some ⟨b24,0,none⟩) 3 3,.slice ao ss.length co]) hs rfl bn aM),⟨100+x6,200+x9,[⟨100,x13⟩,⟨400+x16,x19⟩,⟨1000,x22⟩],ss⟩,_,_,.blk b24 (fbc [⟨100,x13⟩,⟨400+x16,x19⟩,⟨1000,x22⟩]).flatten,en,rfl,⟨⟨by dsimp only;omega,by dsimp only;omega,cu,by dsimp only;omega,fun i hi=>by
   have h:i=0∨i=1∨i=2:=by simp at hi;omega
   rcases h with rfl|rfl|rfl
   ·exact ⟨by simp [fb0],by simp [fb0];omega,cu⟩
   ·exact ⟨by simp [fb0];omega,by simp [fb0];omega,by simp [fb0];omega⟩
   ·exact ⟨by simp [fb0],by simp [fb0];omega,by simp [fb0];omega⟩,hss⟩,by dsimp only;omega,rfl,⟨rfl,rfl⟩,by dsimp only;omega⟩,.full rfl,hO,hs.sb⟩
set_option maxHeartbeats 1000000 in
theorem pN{v:Value}{ns:List Sx}(hs:St H w σ)(hr:RS H 6 v (ns.map Sx.v)):
  Cl Tryz.prog 78 [v] w fun u w'=>∃r vr en,u= .agg #[vr]∧IM r∧cI 7 vr (lgc r).flatten en∧St H w' (en::σ):=by
 obtain ⟨a,c,rfl⟩:=hr.shape
 have hlr:=hr.len
 rw [List.length_map] at hr ⊢
 refine Cl.o Tryz.func78 Tryz.ntmps78 ag1 ?_
 refine .aj ?_
 refine .o (.alloc hs jJ rfl fun b2 w hs=>?_)
 refine .nil (.aj ?_)
 refine .o (.alloc hs jJ rfl fun b3 w hs=>?_)
 refine .nil (.aj (.z zg (.nil (.seq (.aj (.z zg (.nil (.block ?_))))))))
 refine .loop (fun p:Nat×Int×List Lg×Value×Ent=>⟨40,[],[(5,I (p.1:Int)),(4,I p.2.1),(3,.pointer (some ⟨b3,0,none⟩)),(2,.pointer (some ⟨b2,0,none⟩)),(0,.slice a ns.length c)]⟩)
  (fun p w=>(p.1≤4∧p.1≤ns.length)∧p.2.2.1.length=p.1∧(0≤p.2.1∧p.2.1≤p.1*100)∧(0<p.1→(lg0 p.2.2.1 (p.1 - 1)).to=p.2.1)∧(∀i<p.1,(yd (lg0 p.2.2.1 i)∧(0<i→(lg0 p.2.2.1 (i - 1)).to≤(lg0 p.2.2.1 i).fr))∧(lg0 p.2.2.1 i).bhi≤1000)∧cI 7 p.2.2.2.1 (lgc p.2.2.1).flatten p.2.2.2.2∧St H w (p.2.2.2.2:: .blk b3 [p.2.2.2.1]:: .blk b2 [.slice none 0 0]::σ)) (fun p=>4 - p.1) (0,0,[],_,.nul) bj
  ⟨by dsimp only;omega,rfl,by dsimp only;omega,fun h=>(by dsimp only at h;omega),fun i hi=>(by dsimp only at hi;omega),.nil 7 none,hs.nul⟩ ?_
 rintro ⟨k,fr,r,vo,en⟩ w ⟨hk,hkl,hfr,hto,hok,hO,hs⟩
 dsimp only at hk hkl hfr hto hok hO hs ⊢
 obtain ⟨ao,co,rfl⟩:=hO.iU (Ad _) ak
 rw [kL] at hO hs
 refine .seq (.aj (.z zm (.z zm (.z (dp Tryz.runUnderlying40) (.z iK (.z zm ?_))))))
 refine .iW (t':=11) rfl (fun hb11=>?_) (fun hb11=>?_)
 ·refine .gT rfl rfl ?_
  refine .z zm ?_
  refine .gT rfl rfl ?_
  refine .z iK (.z zpT (.nil ?_))
  refine (.bH rfl (fun hc14=>?_) (fun hc14=>?_))
  ·refine .skip ?_
   refine nT ?_
   refine .seq (.block (.aj ?_))
   obtain ⟨q,hx⟩:=nth (l:=ns) (k:=k) ak
   refine .z zm (.z zm ?_)
   refine .ixX (enc:=Sx.v) hs hr rfl rfl Tryz.runUnderlying40 Tryz.sizeOf96 hx rfl ?_;intro b19 o19 hc19
   refine .q hs (bY (vs:=q.v) rfl Tryz.isAgg96 Tryz.sizeOf96 hc19) ?_
   refine .z zm ?_
   refine .o (.call Tryz.call142 rfl (jx (a:=q.a) (b:=q.b) (c:=q.c) (d:=q.d) (e:=q.e) (f:=q.f) hs ak) ?_);rintro _ w ⟨x,rfl,hM,hs⟩
   have hMo:=hM.ok ak
   have hM2:=hM.fr
   have hM3:=hM.to
   have hM6:=hM.blo
   have hM7:=hM.bhi
   refine .o (.alloc hs dm rfl fun b6 w hs=>?_)
   refine .o (.aP (vs:=[_,_,_,_,_,_,_]) hs rfl rfl aK fun w hs=>?_)
   refine .nil (.aj (.z (zfa fh) (.y hs (zld ae) (.z zg (.nil (.region (.z (zfa bQ) (.y hs (zld cQ) (.y hs (zls [_,_,_,_,_,_,_] dU aK) ?_)))))))))
   refine .o (.buildSlice (cells:=lgC x) hs kr rfl aq fun b28 w hs=>?_)
   refine .o (.append (ys:=x.c) hs nu rfl rfl hO (.own .here rfl rfl) (by simp [Lg.c,Value.oneCell']) (fun l' h=>by rw [bT _ (Ad _),kL] at h;omega) ?_);intro v29 en29 w hO2 hs
   rw [←Fb] at hO2
   obtain ⟨a29,c29,rfl⟩:=hO2.iU (Ad _) ak
   refine .z (zfa bQ) ?_
   refine .o (.store hs rfl rfl mG fun w hs=>?_)
   refine .nil ?_
   refine nB (nT ?_)
   refine .region (.z zm (.z cP (.z zg (.nil ?_))))
   refine nT ?_
   exact ⟨(k+1,x.to,r++[x],_,en29),.dD rfl cu bj,⟨by dsimp only;omega,by simp [hkl],by dsimp only;omega,fun _=>by dsimp only;rw [qN,if_neg ak,if_pos ak],fun i hi=>by
    dsimp only at hi ⊢
    by_cases e:i=k
    ·subst e
     rw [qN,if_neg ak,if_pos ak,qN]
     refine ⟨⟨hMo,fun h=>?_⟩,ak⟩
     rw [if_pos ak]
     have:=hto h;omega
    ·rw [qN,if_pos ak,qN,if_pos ak]
     exact hok i ak,hO2,hs.sb⟩,by dsimp only;omega⟩
  ·refine .exit ?_
   refine xT (xT (xB (nT ?_)))
   refine .seq (.aj (.z (zfa bQ) (.y hs (zld cQ) (.z (dp aJ) (.z gj (.nil ?_))))))
   refine (.bH rfl (fun hc34=>?_) (fun hc34=>?_))
   ·refine .region ?_
    obtain rfl:k=0:=by omega
    obtain rfl:r=[]:=List.length_eq_zero_iff.1 hkl
    refine .q hs (xj (vs:=[]) (cells:=[I 0,I 0,I 0,I 0,I 0,I 0]) Tryz.zeroValue96 rfl eA ai rfl) ?_
    refine .o (.call Tryz.call142 rfl (jx (a:=0) (b:=0) (c:=0) (d:=0) (e:=0) (f:=0) hs ak) ?_);rintro _ w ⟨x,rfl,hM,hs⟩
    have hM6:=hM.blo
    have hM7:=hM.bhi
    refine .o (.buildSlice (cells:=(lgc [x]).flatten) hs kr rfl aq fun b37 w hs=>?_)
    refine .z (zfa bQ) ?_
    refine .o (.store hs rfl rfl mG fun w hs=>?_)
    refine .nil ?_
    refine nT ?_
    refine .aj (.y hs (zls [_] dw bI) ?_)
    refine .o (.aP (vs:=[_]) hs rfl rfl bI fun w hs=>?_)
    refine .nil ?_
    refine .ret ?_
    exact Fin.iZ [] [] hs fun w hs=>⟨_,results1 Tryz.results78 (dJ (vs:=[.slice (some ⟨b37,0,none⟩) 1 1]) hs rfl dw bI),[x],_,.blk b37 (lgc [x]).flatten,rfl,⟨⟨cu,fun i hi=>by
     obtain rfl:i=0:=by simp at hi;omega
     exact ⟨hM.ok ak,fun h=>by omega⟩⟩,cu,fun i hi=>by
     obtain rfl:i=0:=by simp at hi;omega
     show x.bhi≤1000;omega⟩,.full rfl,hs.sb⟩
   ·refine .skip ?_
    refine nT ?_
    refine .aj (.y hs (zls [_] dw bI) ?_)
    refine .o (.aP (vs:=[_]) hs rfl rfl bI fun w hs=>?_)
    refine .nil ?_
    refine .ret ?_
    exact Fin.iZ [] [] hs fun w hs=>⟨_,results1 Tryz.results78 (dJ (vs:=[.slice ao r.length co]) hs rfl dw bI),r,_,en,rfl,⟨⟨ak,fun i hi=>(hok i ak).1⟩,ak,fun i hi=>(hok i ak).2⟩,hO,hs.sb⟩
 ·refine .gFs 2 4 true rfl rfl rfl ?_
  refine .z zpF (.nil ?_)
  refine (.cF ?_)
  refine .exit ?_
  refine xT (xT (xB (nT ?_)))
  refine .seq (.aj (.z (zfa bQ) (.y hs (zld cQ) (.z (dp aJ) (.z gj (.nil ?_))))))
  refine (.bH rfl (fun hc34=>?_) (fun hc34=>?_))
  ·refine .region ?_
   obtain rfl:k=0:=by omega
   obtain rfl:r=[]:=List.length_eq_zero_iff.1 hkl
   refine .q hs (xj (vs:=[]) (cells:=[I 0,I 0,I 0,I 0,I 0,I 0]) Tryz.zeroValue96 rfl eA ai rfl) ?_
   refine .o (.call Tryz.call142 rfl (jx (a:=0) (b:=0) (c:=0) (d:=0) (e:=0) (f:=0) hs ak) ?_);rintro _ w ⟨x,rfl,hM,hs⟩
   have hM6:=hM.blo
   have hM7:=hM.bhi
   refine .o (.buildSlice (cells:=(lgc [x]).flatten) hs kr rfl aq fun b37 w hs=>?_)
   refine .z (zfa bQ) ?_
   refine .o (.store hs rfl rfl mG fun w hs=>?_)
   refine .nil ?_
   refine nT ?_
   refine .aj (.y hs (zls [_] dw bI) ?_)
   refine .o (.aP (vs:=[_]) hs rfl rfl bI fun w hs=>?_)
   refine .nil ?_
   refine .ret ?_
   exact Fin.iZ [] [] hs fun w hs=>⟨_,results1 Tryz.results78 (dJ (vs:=[.slice (some ⟨b37,0,none⟩) 1 1]) hs rfl dw bI),[x],_,.blk b37 (lgc [x]).flatten,rfl,⟨⟨cu,fun i hi=>by
    obtain rfl:i=0:=by simp at hi;omega
    exact ⟨hM.ok ak,fun h=>by omega⟩⟩,cu,fun i hi=>by
    obtain rfl:i=0:=by simp at hi;omega
    show x.bhi≤1000;omega⟩,.full rfl,hs.sb⟩
  ·refine .skip ?_
   refine nT ?_
   refine .aj (.y hs (zls [_] dw bI) ?_)
   refine .o (.aP (vs:=[_]) hs rfl rfl bI fun w hs=>?_)
   refine .nil ?_
   refine .ret ?_
   exact Fin.iZ [] [] hs fun w hs=>⟨_,results1 Tryz.results78 (dJ (vs:=[.slice ao r.length co]) hs rfl dw bI),r,_,en,rfl,⟨⟨ak,fun i hi=>(hok i ak).1⟩,ak,fun i hi=>(hok i ak).2⟩,hO,hs.sb⟩
set_option maxHeartbeats 4000000 in
theorem rU{vs v5 v4 vp vn vg:Value}{sl pk ns:List Int}{fs5:List F5}{fs4:List F4}{sx:List Sx}{y1 y2 y3 m1 m2 z1 z2 z3:Int}(hs:St H w σ)(g1:RI H vs sl)(g2:RF5 H v5 fs5)(g3:RF4 H v4 fs4)(g4:RI H vp pk)(g5:RI H vn ns)(g6:RS H 6 vg (sx.map Sx.v)):
  Cl Tryz.prog 23 [.agg #[vs,v5,v4,vp,I y1,I y2,I y3,vn,vg,I m1,I m2,I z1,I z2,I z3]] w fun u w'=>∃H1 s a b c d l vt vs r vl,HLe H H1∧u= .tuple #[svA s a b c d,lnA l vt vs,.agg #[vl]]∧SvM H1 s a b c d∧LnM H1 l vt vs∧RLg H1 vl r∧Spl s∧St H1 w' σ:=by
 obtain ⟨avs,cvs,rfl⟩:=RI.shape g1
 obtain ⟨av5,cv5,rfl⟩:=g2.shape
 obtain ⟨av4,cv4,rfl⟩:=g3.shape
 obtain ⟨avp,cvp,rfl⟩:=RI.shape g4
 obtain ⟨avn,cvn,rfl⟩:=RI.shape g5
 obtain ⟨avg,cvg,rfl⟩:=g6.shape
 refine Cl.o Tryz.func23 Tryz.ntmps23 ag1 ?_
 refine .aj ?_
 refine .bx hs fun b1 w hs=>?_
 refine .o (.alloc hs eb rfl fun b2 w hs=>?_)
 refine .o (.alloc hs iJ rfl fun b3 w hs=>?_)
 refine .o (.alloc hs jJ rfl fun b4 w hs=>?_)
 refine .nil (.aj (.z (zfa ob) (.y hs (zls [_,_,_,_,_,_,_] Tryz.isAgg39 Tryz.sizeOf39) ?_)))
 refine .o (.call Tryz.call55 rfl (rZ hs g1 g2 g3 g4) ?_);rintro _ w ⟨H1,s,a,b,c,d,hle1,rfl,r1,r2,r3,r4,hSpl,hs⟩
 have hSv:SvM H1 s a b c d:=⟨r1,r2,r3,r4⟩
 obtain ⟨aa,ca,rfl⟩:=RI.shape r1
 obtain ⟨ab,cb,rfl⟩:=RI.shape r2
 obtain ⟨ac,cc,rfl⟩:=RRd.shape r3
 obtain ⟨ad,cd,rfl⟩:=RCm.shape r4
 refine .o (.alloc hs eb rfl fun b5 w hs=>?_)
 refine .o (.aP (vs:=[_,_,_,_,_,_,_,_]) hs rfl rfl aD fun w hs=>?_)
 refine .nil (.aj (.z (zfa oa) (.y hs (zld an) ?_)))
 refine .o (.call Tryz.call77 rfl (pO hs (g5.mono hle1)) ?_);rintro _ w ⟨l,vt,vsn,e1,e2,rfl,hL,hO1,hO2,hs⟩
 obtain ⟨bt,ct,spT,rfl,rfl,hct⟩:=hO1.Gf (Fs _) ak (by rw [oE,hL.tbl];omega)
 obtain ⟨asn,csn,rfl⟩:=hO2.iU (yv _) ak
 rw [oE] at hO1 ⊢
 rw [kK] at hO2 ⊢
 have hLt:=hL.tbl
 refine .o (.alloc hs iJ rfl fun b6 w hs=>?_)
 refine .o (.aP (vs:=[_,_,_,_]) hs rfl rfl aM fun w hs=>?_)
 refine .nil (.aj (.z (zfa nZ) (.y hs (zld Tryz.isAgg40) ?_)))
 refine .o (.call Tryz.call78 rfl (pN hs (RS.mono g6 hle1)) ?_);rintro _ w ⟨r,vr,e3,rfl,hR,hO3,hs⟩
 have hRm:=hR.ok.many
 have hR4:=hR.many
 obtain ⟨br,cr,spR,rfl,rfl,hcr⟩:=hO3.Gf (Ad _) ak (by rw [kL];omega)
 rw [kL] at hO3 ⊢
 refine .o (.alloc hs jJ rfl fun b7 w hs=>?_)
 refine .o (.aP (vs:=[_]) hs rfl rfl bI fun w hs=>?_)
 refine .nil (.aj (.z (zfa nY) (.y hs (zls [_,_,_] Tryz.isAgg37 zE) ?_)))
 refine .o (.alloc hs Tryz.zeroValue37 rfl fun b8 w hs=>?_)
 refine .o (.aP (vs:=[_,_,_]) hs rfl rfl zE fun w hs=>?_)
 refine .nil (.aj ?_)
 refine .z (zia 1 az ai) ?_
 refine .y hs (zld ae) (.z (zfa bQ) (.y hs (zld cQ) (.z (dp aJ) ?_)))
 have hbi:=kX z2 (m:=(r.length:Int)) ak
 refine .o (.call eR rfl (cN hs ak) ?_);rintro _ w ⟨rfl,hs⟩
 generalize rz z2 (r.length:Int)=ii at*
 obtain ⟨i,rfl⟩:∃i:Nat,ii=(i:Int):=⟨ii.toNat,ak⟩
 refine .z zg (.nil (.aj ?_))
 refine .z (zia 1 az ai) ?_
 refine .y hs (zld ae) (.z (zfa cq) (.y hs (zld dV) (.z (dp aO) ?_)))
 have hbk:=kX z2 (m:=(l.table.length:Int)) ak
 refine .o (.call eR rfl (cN hs ak) ?_);rintro _ w ⟨rfl,hs⟩
 generalize rz z2 (l.table.length:Int)=kk at*
 obtain ⟨k,rfl⟩:∃k:Nat,kk=(k:Int):=⟨kk.toNat,ak⟩
 have hxT:=lT (l:=l.table) (i:=k) ak
 have hxR:=mu (l:=r) (i:=i) ak
 generalize fb0 l.table k=fT at*
 generalize lg0 r i=fR at*
 refine .z zg (.nil ?_)
 refine .cut (fun fs w=>∃(x1 x2:Int) (T:List Fbd) (R:List Lg) (f1 f2:Ent) (vt vr:Value),kJ fs ⟨191,[],[(8,.pointer (some ⟨b8,0,none⟩)),(7,.pointer (some ⟨b7,0,none⟩)),(6,.pointer (some ⟨b6,0,none⟩)),(5,.pointer (some ⟨b5,0,none⟩)),(4,.pointer (some ⟨b4,0,none⟩)),(3,.pointer (some ⟨b3,0,none⟩)),(2,.pointer (some ⟨b2,0,none⟩))]⟩∧T.length≤3∧R.length≤4∧cI 2 vt (fbc T).flatten f1∧cI 7 vr (lgc R).flatten f2∧St H1 w (f2::f1::e2:: .blk b8 [I z1,I z2,I z3]:: .blk b7 [vr]:: .blk b6 [I x1,I x2,vt,.slice asn l.seasons.length csn]:: .blk b5 (svC s (.slice aa s.sp.st.length ca) (.slice ab s.sp.wa.length cb) (.slice ac s.rs.length cc) (.slice ad s.cs.length cd)):: .blk b4 [.slice none 0 0]:: .blk b3 [I 0,I 0,.slice none 0 0,.slice none 0 0]:: .blk b2 [I 0,I 0,.slice none 0 0,.slice none 0 0,I 0,I 0,.slice none 0 0,.slice none 0 0]::σ)) ?_ ?_
 ·refine .aj ?_
  refine .z (zia 0 az ai) ?_
  refine .y hs (zld ae) ?_
  refine .o (.call eR rfl (cN hs ak) ?_);rintro _ w ⟨rfl,hs⟩
  refine .nil (.block (.aj (.z gj (.z zg (.nil ?_)))))
  refine (.bH rfl (fun hc38=>?_) (fun hc38=>?_))
  ·refine .region ?_
   refine .z (zia 2 az ai) ?_
   refine .y hs (zld ae) (.z (zfa dZ) ?_)
   refine .o (.store hs rfl rfl ai fun w hs=>?_)
   refine .nil ?_
   refine nB (nT ?_)
   exact ⟨z3,l.depth,l.table,r,_,_,_,_,bj,ak,hR4,hO1,hO3,hs.sb⟩
  ·refine .aj (.z gj (.z zg (.nil ?_)))
   refine (.bH rfl (fun hc43=>?_) (fun hc43=>?_))
   ·refine .region ?_
    refine .z (zia 2 az ai) ?_
    refine .y hs (zld ae) (.z (zfa ia) ?_)
    refine .o (.store hs rfl rfl ai fun w hs=>?_)
    refine .nil ?_
    refine nB (nT ?_)
    exact ⟨l.length,z3,l.table,r,_,_,_,_,bj,ak,hR4,hO1,hO3,hs.sb⟩
   ·refine .aj (.z gj (.z zg (.nil ?_)))
    refine (.bH rfl (fun hc48=>?_) (fun hc48=>?_))
    ·refine .region (.z (zfa cq) (.y hs (zld dV) (.z zm ?_)))
     refine .z (zia 2 az ai) ?_
     refine .y hs (zld ae) ?_
     first|(refine .ixw hs aO bu ?_;intro b55 o55 hc55)|refine .z (lZ aO bu) ?_
     refine .z (zfa bK) ?_
     refine .o (.store (c':=((l.table.set k {fT with len:=z3}).map Fbd.c).flatten++spT) hs rfl rfl ai ?_ dE (gC (enc:=Fbd.c) (fun _=>rfl) ak dO spT) (gw (enc:=Fbd.c) (fun _=>rfl) hxT dO rfl spT));intro w hs
     refine .nil ?_
     refine nB (nT ?_)
     exact ⟨l.length,l.depth,l.table.set k {fT with len:=z3},r,_,_,_,_,bj,by rw [List.length_set];omega,hR4,gx (enc:=Fbd.c) (fun _=>rfl) hO1,hO3,hs.sb⟩
    ·refine .aj (.z gj (.z zg (.nil ?_)))
     refine (.bH rfl (fun hc57=>?_) (fun hc57=>?_))
     ·refine .region (.z (zfa cq) (.y hs (zld dV) (.z zm ?_)))
      refine .z (zia 2 az ai) ?_
      refine .y hs (zld ae) ?_
      first|(refine .ixw hs aO bu ?_;intro b64 o64 hc64)|refine .z (lZ aO bu) ?_
      refine .z (zfa dv) ?_
      refine .o (.store (c':=((l.table.set k {fT with least:=z3}).map Fbd.c).flatten++spT) hs rfl rfl ai ?_ dE (gC (enc:=Fbd.c) (fun _=>rfl) ak dO spT) (gw (enc:=Fbd.c) (fun _=>rfl) hxT dO rfl spT));intro w hs
      refine .nil ?_
      refine nB (nT ?_)
      exact ⟨l.length,l.depth,l.table.set k {fT with least:=z3},r,_,_,_,_,bj,by rw [List.length_set];omega,hR4,gx (enc:=Fbd.c) (fun _=>rfl) hO1,hO3,hs.sb⟩
     ·refine .aj (.z gj (.z zg (.nil ?_)))
      refine (.bH rfl (fun hc66=>?_) (fun hc66=>?_))
      ·refine .region (.z (zfa bQ) (.y hs (zld cQ) (.z zm ?_)))
       refine .z (zia 2 az ai) ?_
       refine .y hs (zld ae) ?_
       first|(refine .ixw hs aJ aK ?_;intro b73 o73 hc73)|refine .z (lZ aJ aK) ?_
       refine .z (zfa j9) ?_
       refine .o (.store (c':=((r.set i {fR with zone:=z3}).map Lg.c).flatten++spR) hs rfl rfl ai ?_ dE (gC (enc:=Lg.c) (fun _=>rfl) ak dO spR) (gw (enc:=Lg.c) (fun _=>rfl) hxR dO rfl spR));intro w hs
       refine .nil ?_
       refine nB (nT ?_)
       exact ⟨l.length,l.depth,l.table,r.set i {fR with zone:=z3},_,_,_,_,bj,ak,by rw [List.length_set];exact hR4,hO1,gx (enc:=Lg.c) (fun _=>rfl) hO3,hs.sb⟩
      ·refine .aj (.z gj (.z zg (.nil ?_)))
       refine (.bH rfl (fun hc75=>?_) (fun hc75=>?_))
       ·refine .region (.z (zfa bQ) (.y hs (zld cQ) (.z zm ?_)))
        refine .z (zia 2 az ai) ?_
        refine .y hs (zld ae) ?_
        first|(refine .ixw hs aJ aK ?_;intro b82 o82 hc82)|refine .z (lZ aJ aK) ?_
        refine .z (zfa fi) ?_
        refine .o (.store (c':=((r.set i {fR with fr:=z3}).map Lg.c).flatten++spR) hs rfl rfl ai ?_ dE (gC (enc:=Lg.c) (fun _=>rfl) ak dO spR) (gw (enc:=Lg.c) (fun _=>rfl) hxR dO rfl spR));intro w hs
        refine .nil ?_
        refine nB (nT ?_)
        exact ⟨l.length,l.depth,l.table,r.set i {fR with fr:=z3},_,_,_,_,bj,ak,by rw [List.length_set];exact hR4,hO1,gx (enc:=Lg.c) (fun _=>rfl) hO3,hs.sb⟩
       ·refine .aj (.z gj (.z zg (.nil ?_)))
        refine (.bH rfl (fun hc84=>?_) (fun hc84=>?_))
        ·refine .region (.z (zfa bQ) (.y hs (zld cQ) (.z zm ?_)))
         refine .z (zia 2 az ai) ?_
         refine .y hs (zld ae) ?_
         first|(refine .ixw hs aJ aK ?_;intro b91 o91 hc91)|refine .z (lZ aJ aK) ?_
         refine .z (zfa fh) ?_
         refine .o (.store (c':=((r.set i {fR with to:=z3}).map Lg.c).flatten++spR) hs rfl rfl ai ?_ dE (gC (enc:=Lg.c) (fun _=>rfl) ak dO spR) (gw (enc:=Lg.c) (fun _=>rfl) hxR dO rfl spR));intro w hs
         refine .nil ?_
         refine nB (nT ?_)
         exact ⟨l.length,l.depth,l.table,r.set i {fR with to:=z3},_,_,_,_,bj,ak,by rw [List.length_set];exact hR4,hO1,gx (enc:=Lg.c) (fun _=>rfl) hO3,hs.sb⟩
        ·refine .aj (.z gj (.z zg (.nil ?_)))
         refine (.bH rfl (fun hc93=>?_) (fun hc93=>?_))
         ·refine .region (.z (zfa bQ) (.y hs (zld cQ) (.z zm ?_)))
          refine .z (zia 2 az ai) ?_
          refine .y hs (zld ae) ?_
          first|(refine .ixw hs aJ aK ?_;intro b100 o100 hc100)|refine .z (lZ aJ aK) ?_
          refine .z (zfa fK) (.z (zfa bX) ?_)
          refine .o (.store (c':=((r.set i {fR with dlo:=z3}).map Lg.c).flatten++spR) hs rfl rfl ai ?_ dE (gC (enc:=Lg.c) (fun _=>rfl) ak dO spR) (gw (enc:=Lg.c) (fun _=>rfl) hxR dO rfl spR));intro w hs
          refine .nil ?_
          refine nB (nT ?_)
          exact ⟨l.length,l.depth,l.table,r.set i {fR with dlo:=z3},_,_,_,_,bj,ak,by rw [List.length_set];exact hR4,hO1,gx (enc:=Lg.c) (fun _=>rfl) hO3,hs.sb⟩
         ·refine .aj (.z gj (.z zg (.nil ?_)))
          refine (.bH rfl (fun hc103=>?_) (fun hc103=>?_))
          ·refine .region (.z (zfa bQ) (.y hs (zld cQ) (.z zm ?_)))
           refine .z (zia 2 az ai) ?_
           refine .y hs (zld ae) ?_
           first|(refine .ixw hs aJ aK ?_;intro b110 o110 hc110)|refine .z (lZ aJ aK) ?_
           refine .z (zfa fK) (.z (zfa cJ) ?_)
           refine .o (.store (c':=((r.set i {fR with dhi:=z3}).map Lg.c).flatten++spR) hs rfl rfl ai ?_ dE (gC (enc:=Lg.c) (m:=7) (k:=i) (j:=4) (fun _=>rfl) ak dO spR) (gw (enc:=Lg.c) (m:=7) (k:=i) (j:=4) (x':={fR with dhi:=z3}) (v:=I z3) (fun _=>rfl) hxR dO rfl spR));intro w hs
           refine .nil ?_
           refine nB (nT ?_)
           exact ⟨l.length,l.depth,l.table,r.set i {fR with dhi:=z3},_,_,_,_,bj,ak,by rw [List.length_set];exact hR4,hO1,gx (enc:=Lg.c) (fun _=>rfl) hO3,hs.sb⟩
          ·refine .aj (.z gj (.z zg (.nil ?_)))
           refine (.bH rfl (fun hc113=>?_) (fun hc113=>?_))
           ·refine .region (.z (zfa bQ) (.y hs (zld cQ) (.z zm ?_)))
            refine .z (zia 2 az ai) ?_
            refine .y hs (zld ae) ?_
            first|(refine .ixw hs aJ aK ?_;intro b120 o120 hc120)|refine .z (lZ aJ aK) ?_
            refine .z (zfa fJ) (.z (zfa bX) ?_)
            refine .o (.store (c':=((r.set i {fR with blo:=z3}).map Lg.c).flatten++spR) hs rfl rfl ai ?_ dE (gC (enc:=Lg.c) (fun _=>rfl) ak dO spR) (gw (enc:=Lg.c) (fun _=>rfl) hxR dO rfl spR));intro w hs
            refine .nil ?_
            refine nB (nT ?_)
            exact ⟨l.length,l.depth,l.table,r.set i {fR with blo:=z3},_,_,_,_,bj,ak,by rw [List.length_set];exact hR4,hO1,gx (enc:=Lg.c) (fun _=>rfl) hO3,hs.sb⟩
           ·refine .aj (.z gj (.z zg (.nil ?_)))
            refine (.bH rfl (fun hc123=>?_) (fun hc123=>?_))
            ·refine .region (.z (zfa bQ) (.y hs (zld cQ) (.z zm ?_)))
             refine .z (zia 2 az ai) ?_
             refine .y hs (zld ae) ?_
             first|(refine .ixw hs aJ aK ?_;intro b130 o130 hc130)|refine .z (lZ aJ aK) ?_
             refine .z (zfa fJ) (.z (zfa cJ) ?_)
             refine .o (.store (c':=((r.set i {fR with bhi:=z3}).map Lg.c).flatten++spR) hs rfl rfl ai ?_ dE (gC (enc:=Lg.c) (m:=7) (k:=i) (j:=6) (fun _=>rfl) ak dO spR) (gw (enc:=Lg.c) (m:=7) (k:=i) (j:=6) (x':={fR with bhi:=z3}) (v:=I z3) (fun _=>rfl) hxR dO rfl spR));intro w hs
             refine .nil ?_
             refine nB (nT ?_)
             exact ⟨l.length,l.depth,l.table,r.set i {fR with bhi:=z3},_,_,_,_,bj,ak,by rw [List.length_set];exact hR4,hO1,gx (enc:=Lg.c) (fun _=>rfl) hO3,hs.sb⟩
            ·refine .aj (.z gj (.z zg (.nil ?_)))
             refine (.bH rfl (fun hc133=>?_) (fun hc133=>?_))
             ·refine .region (.z (zfa bQ) ?_)
              refine .o (.store hs rfl rfl mG fun w hs=>?_)
              refine .nil ?_
              refine nB (nT ?_)
              exact ⟨l.length,l.depth,l.table,[],_,.nul,_,_,bj,ak,cu,hO1,.nil 7 none,hs.nul.sb⟩
             ·refine .aj (.z gj (.z zg (.nil ?_)))
              refine (.bH rfl (fun hc136=>?_) (fun hc136=>?_))
              ·refine .region (.z (zfa cq) ?_)
               refine .o (.store hs rfl rfl Tryz.sizeOf22 fun w hs=>?_)
               refine .nil ?_
               refine nB (nT ?_)
               exact ⟨l.length,l.depth,[],r,.nul,_,_,_,bj,cu,hR4,.nil 2 none,hO3,hs.nul.sb⟩
              ·refine .skip ?_
               refine nB (nT ?_)
               exact ⟨l.length,l.depth,l.table,r,_,_,_,_,bj,ak,hR4,hO1,hO3,hs.sb⟩
 ·clear hs hO1 hO3
  rintro fs w ⟨x1,x2,T,R,f1,f2,vt,vr,hfs,hT3,hR4',hO1,hO3,hs⟩
  refine WE.sub ?_ hfs
  clear hfs
  obtain ⟨aT,cT,rfl⟩:=hO1.iU (Fs _) ak
  obtain ⟨aR,cR,rfl⟩:=hO3.iU (Ad _) ak
  rw [oE] at hO1 hs
  rw [kL] at hO3 hs
  refine .cut (fun fs w=>∃(S:List Ssn) (f3:Ent) (vq:Value),kJ fs ⟨191,[],[(7,.pointer (some ⟨b7,0,none⟩)),(6,.pointer (some ⟨b6,0,none⟩)),(5,.pointer (some ⟨b5,0,none⟩)),(4,.pointer (some ⟨b4,0,none⟩)),(3,.pointer (some ⟨b3,0,none⟩)),(2,.pointer (some ⟨b2,0,none⟩))]⟩∧S.length≤4∧cI 4 vq (snc S).flatten f3∧St H1 w (f2::f1::f3:: .blk b7 [.slice aR R.length cR]:: .blk b6 [I x1,I x2,.slice aT T.length cT,vq]:: .blk b5 (svC s (.slice aa s.sp.st.length ca) (.slice ab s.sp.wa.length cb) (.slice ac s.rs.length cc) (.slice ad s.cs.length cd)):: .blk b4 [.slice none 0 0]:: .blk b3 [I 0,I 0,.slice none 0 0,.slice none 0 0]:: .blk b2 [I 0,I 0,.slice none 0 0,.slice none 0 0,I 0,I 0,.slice none 0 0,.slice none 0 0]::σ)) ?_ ?_
  ·refine .aj (.z (zfa cK) (.y hs (zld eh) (.z (dp bp) (.z mI (.nil ?_)))))
   refine (.bH rfl (fun hc142=>?_) (fun hc142=>?_))
   ·refine .aj ?_
    refine .z (zia 1 az ai) ?_
    refine .y hs (zld ae) (.z (zfa cK) (.y hs (zld eh) (.z (dp bp) ?_)))
    have hL4:=hL.sns
    obtain ⟨bS,cS,spS,hv,rfl,hcS⟩:=hO2.Gf (yv _) ak (by rw [kK];omega)
    simp only [Value.slice.injEq] at hv
    obtain ⟨rfl,hv2,rfl⟩:=hv
    have hbj:=kX z2 (m:=(l.seasons.length:Int)) ak
    refine .o (.call eR rfl (cN hs ak) ?_);rintro _ w ⟨rfl,hs⟩
    generalize rz z2 (l.seasons.length:Int)=jj at*
    obtain ⟨j,rfl⟩:∃j:Nat,jj=(j:Int):=⟨jj.toNat,ak⟩
    obtain ⟨fS,hxS⟩:=nth (l:=l.seasons) (k:=j) ak
    refine .z zg (.nil (.aj ?_))
    refine .z (zia 0 az ai) ?_
    refine .y hs (zld ae) ?_
    refine .o (.call eR rfl (cN hs ak) ?_);rintro _ w ⟨rfl,hs⟩
    refine .nil (.block (.aj (.z gj (.z zg (.nil ?_)))))
    refine (.bH rfl (fun hc152=>?_) (fun hc152=>?_))
    ·refine .region (.z (zfa cK) (.y hs (zld eh) (.z zm ?_)))
     refine .z (zia 2 az ai) ?_
     refine .y hs (zld ae) ?_
     first|(refine .ixw hs bp ck ?_;intro b159 o159 hc159)|refine .z (lZ bp ck) ?_
     refine .z (zfa iE) ?_
     refine .o (.store (c':=((l.seasons.set j {fS with zone:=z3}).map Ssn.c).flatten++spS) hs rfl rfl ai ?_ dE (gC (enc:=Ssn.c) (fun _=>rfl) ak dO spS) (gw (enc:=Ssn.c) (fun _=>rfl) hxS dO rfl spS));intro w hs
     refine .nil ?_
     refine nB (nT ?_)
     exact ⟨l.seasons.set j {fS with zone:=z3},_,_,bj,by rw [List.length_set];omega,gx (enc:=Ssn.c) (fun _=>rfl) hO2,hs.sb⟩
    ·refine .aj (.z gj (.z zg (.nil ?_)))
     refine (.bH rfl (fun hc161=>?_) (fun hc161=>?_))
     ·refine .region (.z (zfa cK) (.y hs (zld eh) (.z zm ?_)))
      refine .z (zia 2 az ai) ?_
      refine .y hs (zld ae) ?_
      first|(refine .ixw hs bp ck ?_;intro b168 o168 hc168)|refine .z (lZ bp ck) ?_
      refine .z (zfa ew) ?_
      refine .o (.store (c':=((l.seasons.set j {fS with fr:=z3}).map Ssn.c).flatten++spS) hs rfl rfl ai ?_ dE (gC (enc:=Ssn.c) (fun _=>rfl) ak dO spS) (gw (enc:=Ssn.c) (fun _=>rfl) hxS dO rfl spS));intro w hs
      refine .nil ?_
      refine nB (nT ?_)
      exact ⟨l.seasons.set j {fS with fr:=z3},_,_,bj,by rw [List.length_set];omega,gx (enc:=Ssn.c) (fun _=>rfl) hO2,hs.sb⟩
     ·refine .aj (.z gj (.z zg (.nil ?_)))
      refine (.bH rfl (fun hc170=>?_) (fun hc170=>?_))
      ·refine .region (.z (zfa cK) (.y hs (zld eh) (.z zm ?_)))
       refine .z (zia 2 az ai) ?_
       refine .y hs (zld ae) ?_
       first|(refine .ixw hs bp ck ?_;intro b177 o177 hc177)|refine .z (lZ bp ck) ?_
       refine .z (zfa eu) ?_
       refine .o (.store (c':=((l.seasons.set j {fS with to:=z3}).map Ssn.c).flatten++spS) hs rfl rfl ai ?_ dE (gC (enc:=Ssn.c) (fun _=>rfl) ak dO spS) (gw (enc:=Ssn.c) (fun _=>rfl) hxS dO rfl spS));intro w hs
       refine .nil ?_
       refine nB (nT ?_)
       exact ⟨l.seasons.set j {fS with to:=z3},_,_,bj,by rw [List.length_set];omega,gx (enc:=Ssn.c) (fun _=>rfl) hO2,hs.sb⟩
      ·refine .aj (.z gj (.z zg (.nil ?_)))
       refine (.bH rfl (fun hc179=>?_) (fun hc179=>?_))
       ·refine .region (.z (zfa cK) (.y hs (zld eh) (.z zm ?_)))
        refine .z (zia 2 az ai) ?_
        refine .y hs (zld ae) ?_
        first|(refine .ixw hs bp ck ?_;intro b186 o186 hc186)|refine .z (lZ bp ck) ?_
        refine .z (zfa iD) ?_
        refine .o (.store (c':=((l.seasons.set j {fS with extra:=z3}).map Ssn.c).flatten++spS) hs rfl rfl ai ?_ dE (gC (enc:=Ssn.c) (fun _=>rfl) ak dO spS) (gw (enc:=Ssn.c) (fun _=>rfl) hxS dO rfl spS));intro w hs
        refine .nil ?_
        refine nB (nT ?_)
        exact ⟨l.seasons.set j {fS with extra:=z3},_,_,bj,by rw [List.length_set];omega,gx (enc:=Ssn.c) (fun _=>rfl) hO2,hs.sb⟩
       ·refine .skip ?_
        refine nB (nT ?_)
        exact ⟨l.seasons,_,_,bj,ak,hO2,hs.sb⟩
   ·refine .skip ?_
    refine nT ?_
    exact ⟨l.seasons,_,_,bj,ak,hO2,hs.sb⟩
  ·have hL4:=hL.sns
   clear hs hO2
   rintro fs w ⟨S,f3,vq,hfs,hS4,hO2,hs⟩
   refine WE.sub ?_ hfs
   clear hfs
   obtain ⟨aS,cS,rfl⟩:=hO2.iU (yv _) ak
   rw [kK] at hO2 hs
   refine .cut (fun fs w=>kJ fs ⟨191,[],[(4,.pointer (some ⟨b4,0,none⟩)),(3,.pointer (some ⟨b3,0,none⟩)),(2,.pointer (some ⟨b2,0,none⟩))]⟩∧St H1 w (f2::f1::f3:: .blk b4 [.slice aR R.length cR]:: .blk b3 [I x1,I x2,.slice aT T.length cT,.slice aS S.length cS]:: .blk b2 (svC s (.slice aa s.sp.st.length ca) (.slice ab s.sp.wa.length cb) (.slice ac s.rs.length cc) (.slice ad s.cs.length cd))::σ)) ?_ ?_
   ·refine .draw mix rfl hs fun w hs=>?_
    refine .ys 0 rfl hs [_,_,_,_,_,_,_,_] aZ aD ?_;refine .ys 1 rfl hs [_,_,_,_] bn aM ?_;refine .ys 2 rfl hs [_] dw bI ?_
    refine .E 3 hs ?_
    refine .aP (vs:=[_,_,_,_,_,_,_,_]) hs rfl rfl aD ?_;intro w hs
    refine .go ?_
    refine .E 4 hs ?_
    refine .aP (vs:=[_,_,_,_]) hs rfl rfl aM ?_;intro w hs
    refine .go ?_
    refine .E 5 hs ?_
    refine .aP (vs:=[_]) hs rfl rfl bI ?_;intro w hs
    refine .go ?_
    refine .D hs ?_
    exact nT ⟨bj,hs.sb⟩
   ·rintro fs w ⟨hfs,hs⟩
    refine WE.sub ?_ hfs
    clear hfs
    refine .ret ?_
    obtain ⟨H2,q2,p2,hs⟩:=cI.cV (m:=7) hO3 (Ad _) ak (by rw [kL];omega) hs .here
    obtain ⟨H3,q3,p3,hs⟩:=cI.cV (m:=2) hO1 (Fs _) ak (by rw [oE];omega) hs .here
    obtain ⟨H4,q4,p4,hs⟩:=cI.cV (m:=4) hO2 (yv _) ak (by rw [kK];omega) hs .here
    have k3:=q3.trans q4
    have k2:=q2.trans k3
    exact Fin.iZ [] [] hs fun w hs=>⟨_,results3 Tryz.results23 (dJ (vs:=svC s (.slice aa s.sp.st.length ca) (.slice ab s.sp.wa.length cb) (.slice ac s.rs.length cc) (.slice ad s.cs.length cd)) hs rfl aZ aD) (dJ (vs:=[I x1,I x2,.slice aT T.length cT,.slice aS S.length cS]) hs rfl bn aM) (dJ (vs:=[.slice aR R.length cR]) hs rfl dw bI),H4,s,_,_,_,_,⟨x1,x2,T,S⟩,_,_,R,_,hle1.trans k2,rfl,hSv.mono k2,⟨RFb.mono p3 q4,p4⟩,RLg.mono p2 k3,hSpl,hs.out⟩
end Go.Proofs.YteajddicacjkhaaGreat
namespace Go.Proofs.YteajddicacjkhaaGreat
open Go.MW
theorem qO{W:World}{H:bV}{x:He}{vs v5 v4 vp vn vg:Value}{z dy:Int}(hs:St H W [])(hx:BT H x vs v5 v4 vp vn vg):
  Cl Tryz.prog 9 [x.agg vs v5 v4 vp vn vg,.agg #[I z,I dy]] W fun v w'=>v= .bool true∧∃H',HLe H H'∧St H' w' []:=by
 refine Cl.o Tryz.func9 Tryz.ntmps9 ag2 ?_
 refine .aj ?_
 refine .bx hs fun b2 w hs=>?_
 refine .bx hs fun b3 w hs=>?_
 refine .z zg (.nil (.aj ?_))
 refine .o (.call Tryz.call18 rfl (uP hs) ?_);rintro _ w ⟨rfl,H1,hle1,hs⟩
 replace hx:=hx.mono hle1
 refine .z zg (.nil (.aj (.y hs (zls [_,_,_,_,_,_,_,_,_,_,_,_,_,_] Tryz.isAgg44 Tryz.sizeOf44) ?_)))
 refine .o (.call Tryz.call23 rfl (rU hs hx.sp hx.rs hx.cs hx.pk hx.ln hx.lg) ?_);rintro _ w ⟨H2,s,a,b,c,d,l,vt,vsn,r,vl,hle2,rfl,g,gl,gr_,-,hs⟩
 have hle02:=hle1.trans hle2
 obtain ⟨aa,ca,rfl⟩:=RI.shape g.st
 obtain ⟨ab,cb,rfl⟩:=RI.shape g.wa
 obtain ⟨ac,cc,rfl⟩:=RRd.shape g.rd
 obtain ⟨ad,cd,rfl⟩:=RCm.shape g.cm
 obtain ⟨at_,ct,rfl⟩:=gl.tb.shape
 obtain ⟨as_,cs,rfl⟩:=gl.sn.shape
 obtain ⟨ar,cr,rfl⟩:=gr_.shape
 have hlr:=(RS.len gr_).2.2
 refine .z zm (.z zex (.z zex (.z zex ?_)))
 refine .o (.alloc hs eb rfl fun b6 w hs=>?_)
 refine .o (.alloc hs iJ rfl fun b7 w hs=>?_)
 refine .o (.alloc hs jJ rfl fun b8 w hs=>?_)
 refine .o (.aP (vs:=[_,_,_,_,_,_,_,_]) hs rfl rfl aD fun w hs=>?_)
 refine .o (.aP (vs:=[_,_,_,_]) hs rfl rfl aM fun w hs=>?_)
 refine .o (.aP (vs:=[_]) hs rfl rfl bI fun w hs=>?_)
 refine .nil (.aj (.z (zfa bh) (.y hs (zls [_,_,_,_,_,_] aV aH) (.y hs (zls [_,_,_,_] bn aM) ?_))))
 refine .z (zia 0 jo ai) ?_
 refine .y hs (zld ae) ?_
 refine .z (zia 1 jo ai) ?_
 refine .y hs (zld ae) ?_
 refine .o (.call Tryz.call45 rfl (vP (s:=s.sp) (l:=l) hs g.st g.wa gl.tb gl.sn) ?_);rintro _ w ⟨H3,n3,e3,hle3,rfl,h3,hs⟩
 replace g:=g.mono hle3
 replace gl:=gl.mono hle3
 replace gr_:=gr_.mono hle3
 have hle03:=hle02.trans hle3
 refine .z zm (.z zex (.z zex (.z zg (.z zg (.nil (.aj (.z (zfa bh) (.y hs (zls [_,_,_,_,_,_] aV aH) (.y hs (zls [_,_,_,_] bn aM) ?_)))))))))
 refine .z (zia 0 jo ai) ?_
 refine .y hs (zld ae) ?_
 refine .z (zia 1 jo ai) ?_
 refine .y hs (zld ae) ?_
 refine .o (.call Tryz.call46 rfl (nD (s:=s.sp) (l:=l) hs g.st g.wa gl) ?_);rintro _ w ⟨n4,e4,rfl,h4,hs⟩
 obtain ⟨rfl,rfl⟩:=h3.uniq h4
 refine .z zm (.z zex (.z zex (.z zg (.z zg (.nil (.seq (.aj (.z zm (.z fW ?_)))))))))
 refine .z zm ?_
 refine .gT rfl rfl ?_
 refine .z zm ?_
 refine .gT rfl rfl ?_
 refine .z zm ?_
 refine .gT rfl rfl ?_
 refine .z gS ?_
 rw [decide_eq_true rfl]
 refine .z zpF (.z zm ?_)
 refine .gT rfl rfl ?_
 refine .z zm ?_
 refine .gT rfl rfl ?_
 refine .z zm ?_
 refine .gT rfl rfl ?_
 refine .z gS ?_
 rw [decide_eq_true rfl]
 refine .z zpF (.nil ?_)
 refine (.cF ?_)
 refine .skip ?_
 refine nT ?_
 refine .seq (.aj (.z zg (.nil (.block ?_))))
 refine .loop (fun p:Nat×bV=>⟨98,[],[(13,I (p.1:Int)),(8,.pointer (some ⟨b8,0,none⟩)),(7,.pointer (some ⟨b7,0,none⟩)),(6,.pointer (some ⟨b6,0,none⟩))]⟩)
  (fun p w=>p.1≤r.length∧HLe H3 p.2∧St p.2 w [.blk b8 [.slice ar r.length cr],.blk b7 (lnC l (.slice at_ l.table.length ct) (.slice as_ l.seasons.length cs)),.blk b6 (svC s (.slice aa s.sp.st.length ca) (.slice ab s.sp.wa.length cb) (.slice ac s.rs.length cc) (.slice ad s.cs.length cd))]) (fun p=>r.length - p.1) (0,H3) bj
  ⟨Nat.zero_le _,HLe.refl _,hs.sb⟩ ?_
 rintro ⟨k,H4⟩ w ⟨hk,hle4,hs⟩
 dsimp only at hk hle4 hs ⊢
 refine .seq (.aj (.z zm (.z (zfa bQ) (.y hs (zld cQ) (.z (dp aJ) (.z iK (.nil ?_)))))))
 refine (.bH rfl (fun hc63=>?_) (fun hc63=>?_))
 ·refine .skip ?_
  refine nT ?_
  refine .seq (.block ?_)
  have hkl:k<r.length:=by omega
  have hxk:=mu (l:=r) hkl
  refine .seq (.draw mix rfl hs fun w hs=>?_)
  refine .z 0 rfl (zfa bh) ?_;refine .ys 1 rfl hs [_,_,_,_,_,_] aV aH ?_;refine .ys 2 rfl hs [_,_,_,_] bn aM ?_;refine .z 3 rfl (zfa bQ) ?_;refine .y 4 rfl hs cQ ?_;refine .z 5 rfl zm ?_
  refine .ixX (enc:=Lg.c) (i:=6) hs rfl aq .none (gr_.mono hle4) rfl rfl aJ aK hxk rfl ?_;intro b73 o73 hc73
  refine .r (i:=7) hs rfl aq .none (bY (vs:=lgC (lg0 r k)) rfl dU aK hc73) ?_
  refine .E 8 hs ?_
  refine .call Tryz.call47 rfl (tk (s:=s.sp) (l:=l) (x:=lg0 r k) hs (g.mono hle4).st (g.mono hle4).wa (gl.mono hle4).tb (gl.mono hle4).sn) ?_;rintro _ w ⟨H5,n5,e5,hle5,rfl,h5,hs⟩
  have hle35:=hle4.trans hle5
  refine .go ?_
  refine .z 9 rfl zm ?_;refine .z 10 rfl zex ?_;refine .z 11 rfl zex ?_;refine .z 12 rfl zg ?_;refine .z 13 rfl zg ?_;refine .D hs ?_
  refine .seq (.draw mix rfl hs fun w hs=>?_)
  refine .z 0 rfl (zfa bh) ?_;refine .ys 1 rfl hs [_,_,_,_,_,_] aV aH ?_;refine .ys 2 rfl hs [_,_,_,_] bn aM ?_;refine .z 3 rfl (zfa bQ) ?_;refine .y 4 rfl hs cQ ?_;refine .z 5 rfl zm ?_
  refine .ixX (enc:=Lg.c) (i:=6) hs rfl aq .none (gr_.mono hle35) rfl rfl aJ aK hxk rfl ?_;intro b85 o85 hc85
  refine .r (i:=7) hs rfl aq .none (bY (vs:=lgC (lg0 r k)) rfl dU aK hc85) ?_
  refine .E 8 hs ?_
  refine .call Tryz.call48 rfl (rV (s:=s.sp) (l:=l) (x:=lg0 r k) hs (g.mono hle35).st (g.mono hle35).wa (gl.mono hle35)) ?_;rintro _ w ⟨n6,e6,rfl,h6,hs⟩
  obtain ⟨rfl,rfl⟩:=h5.uniq h6
  refine .go ?_
  refine .z 9 rfl zm ?_;refine .z 10 rfl zex ?_;refine .z 11 rfl zex ?_;refine .z 12 rfl zg ?_;refine .z 13 rfl zg ?_;refine .D hs ?_
  refine .aj (.z zm (.z zm (.z gS ?_)))
  rw [decide_eq_true rfl]
  refine .z zm ?_
  refine .gT rfl rfl ?_
  refine .z zm ?_
  refine .gT rfl rfl ?_
  refine .z zm ?_
  refine .gT rfl rfl ?_
  refine .z gS ?_
  rw [decide_eq_true rfl]
  refine .z zpF (.nil ?_)
  refine (.cF ?_)
  refine .skip ?_
  refine nB (nT ?_)
  refine .region (.z zm (.z cP (.z zg (.nil ?_))))
  refine nT ?_
  exact ⟨(k+1,H5),.dD rfl cu bj,⟨by dsimp only;omega,hle35,hs⟩,by dsimp only;omega⟩
 ·refine .exit ?_
  refine xT (xT (xB (nT ?_)))
  refine .aj (.z zg (.nil ?_))
  refine .ret (Fin.bE Tryz.results9 rfl ?_)
  exact ⟨rfl,H4,hle03.trans hle4,hs.out⟩
end Go.Proofs.YteajddicacjkhaaGreat
