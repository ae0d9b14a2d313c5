/-
  Texts of these claims, joined: Nb Nh Ni Nj Nv Oc Od Oe Of Og Oh Oi Oj Ok Ol Om On Oq Os Ot Ov Ow.
-/
import Derived.Test.YteajddicacjkhaaGreatGd
namespace Go.Proofs.YteajddicacjkhaaGreat
open Go.MW
variable{H:bV}{w:World}{σ:List Ent}
structure Spl(s:Srv):Prop where
 st:2≤s.sp.st.length∧s.sp.st.length≤4
 wa:2≤s.sp.wa.length∧s.sp.wa.length≤3
 rs:s.rs.length≤15
 cs:s.cs.length≤5
theorem Bo{b n cap k:Nat}{xs:List Int}{sp:List Value}(h:cN 1 (.slice (some ⟨b,0,none⟩) n cap) (Is xs) (.blk b (Is xs++sp)))(x:Int):
  cN 1 (.slice (some ⟨b,0,none⟩) n cap) (Is (xs.set k x)) (.blk b (Is (xs.set k x)++sp)):=by
 rcases h with ⟨a,_,_,h3⟩|⟨b',len,cap',sp',h1,h2,h3,h4,h5⟩
 ·cases h3
 ·simp only [Value.slice.injEq] at h1
  obtain ⟨-,rfl,rfl⟩:=h1
  simp only [Ent.blk.injEq] at h2
  rw [←h2.2] at h4
  exact .inr ⟨b,n,cap,sp,rfl,rfl,by simpa [Is] using h3,by simpa [Is] using h4,h5⟩
theorem lk{l:List Rdg}{k j:Nat}{r r':Rdg}(h:l[k]? =some r)(hj:j<7){v:Value}(hc:r.c.set j v=r'.c)(sp:List Value):((rdc l).flatten++sp).set (k*7+j) v=(rdc (l.set k r')).flatten++sp:=by
 have hk:=(List.getElem?_eq_some_iff.1 h).1
 rw [List.set_append_left _ _ (by rw [bU _ (kc _),dw];omega),rN (rdc l) k j v (kc l) (by rw [dw];exact hk) hj r.c (yd h),hc]
 unfold rdc
 rw [List.map_set]
theorem lq{b n cap k:Nat}{R:List Rdg}{r':Rdg}{sp:List Value}(h:cN 7 (.slice (some ⟨b,0,none⟩) n cap) (rdc R).flatten (.blk b ((rdc R).flatten++sp))):
  cN 7 (.slice (some ⟨b,0,none⟩) n cap) (rdc (R.set k r')).flatten (.blk b ((rdc (R.set k r')).flatten++sp)):=by
 have hl:(rdc (R.set k r')).flatten.length=(rdc R).flatten.length:=by
  rw [bU _ (kc _),bU _ (kc _),dw,dw,List.length_set]
 rcases h with ⟨a,_,_,h3⟩|⟨b',len,cap',sp',h1,h2,h3,h4,h5⟩
 ·cases h3
 ·simp only [Value.slice.injEq] at h1
  obtain ⟨-,rfl,rfl⟩:=h1
  simp only [Ent.blk.injEq] at h2
  rw [←h2.2] at h4
  exact .inr ⟨b,n,cap,sp,rfl,rfl,by rw [hl];exact h3,by rw [List.length_append,hl,←List.length_append];exact h4,h5⟩
theorem rU{l:List Cmp}{k j:Nat}{r r':Cmp}(h:l[k]? =some r)(hj:j<6){v:Value}(hc:r.c.set j v=r'.c)(sp:List Value):((cmc l).flatten++sp).set (k*6+j) v=(cmc (l.set k r')).flatten++sp:=by
 have hk:=(List.getElem?_eq_some_iff.1 h).1
 rw [List.set_append_left _ _ (by rw [bU _ (ti _),gq];omega),rN (cmc l) k j v (ti l) (by rw [gq];exact hk) hj r.c (G3 h),hc]
 unfold cmc
 rw [List.map_set]
theorem rl{b n cap k:Nat}{R:List Cmp}{r':Cmp}{sp:List Value}(h:cN 6 (.slice (some ⟨b,0,none⟩) n cap) (cmc R).flatten (.blk b ((cmc R).flatten++sp))):
  cN 6 (.slice (some ⟨b,0,none⟩) n cap) (cmc (R.set k r')).flatten (.blk b ((cmc (R.set k r')).flatten++sp)):=by
 have hl:(cmc (R.set k r')).flatten.length=(cmc R).flatten.length:=by
  rw [bU _ (ti _),bU _ (ti _),gq,gq,List.length_set]
 rcases h with ⟨a,_,_,h3⟩|⟨b',len,cap',sp',h1,h2,h3,h4,h5⟩
 ·cases h3
 ·simp only [Value.slice.injEq] at h1
  obtain ⟨-,rfl,rfl⟩:=h1
  simp only [Ent.blk.injEq] at h2
  rw [←h2.2] at h4
  exact .inr ⟨b,n,cap,sp,rfl,rfl,by rw [hl];exact h3,by rw [List.length_append,hl,←List.length_append];exact h4,h5⟩
set_option maxHeartbeats 2000000 in
theorem sS{vs v5 v4 vp:Value}{sl pk:List Int}{fs5:List F5}{fs4:List F4}{z1 z2 z3:Int}(hs:St H w σ)(g1:RI H vs sl)(g2:RF5 H v5 fs5)(g3:RF4 H v4 fs4)(g4:RI H vp pk):
  Cl Tryz.prog 55 [.agg #[vs,v5,v4,vp,I z1,I z2,I z3]] w fun u w'=>∃H1 s vst vwa vr vc,HLe H H1∧u= .agg #[I s.sp.id,I s.sp.src,vst,vwa,I s.sp.al,I s.sp.up,vr,vc]∧RI H1 vst s.sp.st∧RI H1 vwa s.sp.wa∧RRd H1 vr s.rs∧RCm H1 vc s.cs∧Spl s∧St H1 w' σ:=by
 obtain ⟨avs,cvs,rfl⟩:=RI.shape g1
 obtain ⟨av5,cv5,rfl⟩:=g2.shape
 obtain ⟨av4,cv4,rfl⟩:=g3.shape
 obtain ⟨avp,cvp,rfl⟩:=RI.shape g4
 refine Cl.o Tryz.func55 Tryz.ntmps55 ag1 ?_
 refine .aj (.bx hs fun b1 w hs=>?_)
 refine .o (.alloc hs dS rfl fun b2 w hs=>?_)
 refine .nil (.aj (.y hs (zls [_,_,_,_,_,_,_] Tryz.isAgg39 Tryz.sizeOf39) (.o (.call Tryz.call31 rfl (qa hs g1 g2 g3 g4) ?_))));rintro _ w ⟨H1,s,y,vst,vwa,vr,vc,vy,e1,e2,e3,e4,e5,hle1,rfl,hM,⟨hO1,hO2,hO3,hO4⟩,hOy,-,hs⟩
 have hst2:=hM.ok.early.1.st.two
 have hwa2:=hM.ok.early.1.wa.two
 have hst4:=hM.st
 have hwa3:=hM.wa
 have hrs:=hM.rs
 have hcs:=hM.cs
 obtain ⟨bS,cS,spS,rfl,rfl,hcapS⟩:=hO1.some ak
 obtain ⟨bW,cW,spW,rfl,rfl,hcapW⟩:=hO2.some ak
 obtain ⟨ar,cr,rfl⟩:=hO3.je (kc _) ak
 obtain ⟨ac,cc,rfl⟩:=hO4.je (ti _) ak
 rw [dw] at hO3 ⊢
 rw [gq] at hO4 ⊢
 obtain ⟨ay,ly,cy,rfl,-⟩:=hOy.shape
 refine .z zm (.z zex (.z zex (.o (.alloc hs dS rfl fun b3 w hs=>?_))))
 refine .o (.aU (vs:=[_,_,_,_,_,_,_,_]) hs rfl rfl aC fun w hs=>?_)
 refine .zn zg (.aj (.z (zfa o5) (.y hs (zls [_,_,_] Tryz.isAgg37 Ae) (.o (.alloc hs Tryz.zeroValue37 rfl fun b5 w hs=>?_)))))
 refine .o (.aU (vs:=[_,_,_]) hs rfl rfl Ae fun w hs=>?_)
 refine .nil (.aj (.z (zia 0 aD ai) (.y hs (zld ae) (.o (.call dW rfl (cJ hs ak) ?_)))));rintro _ w ⟨k,gk,rfl,hs⟩
 refine .zn zg (.cut (fun fs w=>∃(sp':Spc) (f1 f2:Ent),lF fs ⟨225,[],[(6,I (k:Int)),(5,Pt b5),(3,Pt b3),(2,Pt b2),(1,Pt b1)]⟩∧sp'.st.length=s.sp.st.length∧sp'.wa.length=s.sp.wa.length∧cN 1 (.slice (some ⟨bS,0,none⟩) s.sp.st.length cS) (Is sp'.st) f1∧cN 1 (.slice (some ⟨bW,0,none⟩) s.sp.wa.length cW) (Is sp'.wa) f2∧St H1 w (f1::f2::e3::e4:: .blk b5 [I z1,I z2,I z3]:: .blk b3 [I sp'.id,I sp'.src,.slice (some ⟨bS,0,none⟩) s.sp.st.length cS,.slice (some ⟨bW,0,none⟩) s.sp.wa.length cW,I sp'.al,I sp'.up,.slice ar s.rs.length cr,.slice ac s.cs.length cc]:: .blk b2 [I 0,I 0,.slice none 0 0,.slice none 0 0,I 0,I 0,.slice none 0 0,.slice none 0 0]::σ)) ?_ ?_)
 ·refine .aj (.zn zm (.block (.aj (.z fF (.zn zg (.bn rfl (fun hc21=>?_) (fun hc21=>?_)))))))
  ·refine .region (.z (zia 2 aD ai) (.y hs (zld ae) (.z (zfa bj) (.z (zfa mG) (.o (.store hs rfl rfl ai fun w hs=>?_))))))
   refine .nil (nB (nT ?_))
   exact ⟨{s.sp with id:=z3},_,_,a6,rfl,rfl,hO1,hO2,hs.sb⟩
  ·refine .aj (.z fF (.zn zg (.bn rfl (fun hc27=>?_) (fun hc27=>?_))))
   ·refine .region (.z (zia 2 aD ai) (.y hs (zld ae) (.z (zfa bj) (.z (zfa dR) (.o (.store hs rfl rfl ai fun w hs=>?_))))))
    refine .nil (nB (nT ?_))
    exact ⟨{s.sp with src:=z3},_,_,a6,rfl,rfl,hO1,hO2,hs.sb⟩
   ·refine .aj (.z fF (.zn zg (.bn rfl (fun hc33=>?_) (fun hc33=>?_))))
    ·refine .draw mix rfl hs fun w hs=>?_
     refine .zw 0 rfl (zfa bj) ?_;refine .z 1 rfl (zfa bI) ?_;refine .y 2 rfl hs an ?_
     refine .zw 3 rfl (zia 1 aD ai) (.y 4 rfl hs ae ?_);refine .z 5 rfl (zfa bj) ?_;refine .z 6 rfl (zfa bI) ?_;refine .y 7 rfl hs an ?_;refine .z 8 rfl (da af) ?_
     refine .zw 10 rfl (zia 2 aD ai) (.zv 11 rfl hs (od ae) (.E 9 hs ?_))
     refine .call dW rfl (cJ hs ak) ?_;rintro _ w ⟨k44,g44,rfl,hs⟩
     refine .go ?_
     first|(refine .ixv 12 rfl hs af ai ?_;intro b47 o47 hc47)|refine .z 12 rfl (zix af ai) ?_
     refine .E 13 hs ?_
     refine .store (c':=Is (s.sp.st.set k44 z3)++spS) hs rfl rfl ai ?_ dz (lU ak spS) (jY ak spS _);intro w hs
     refine .go (.D hs (nB (nT ?_)))
     exact ⟨{s.sp with st:=s.sp.st.set k44 z3},_,_,a6,bT,rfl,Bo hO1 _,hO2,hs.sb⟩
    ·refine .aj (.z fF (.zn zg (.bn rfl (fun hc48=>?_) (fun hc48=>?_))))
     ·refine .draw mix rfl hs fun w hs=>?_
      refine .zw 0 rfl (zfa bj) ?_;refine .z 1 rfl (zfa a8) ?_;refine .y 2 rfl hs an ?_
      refine .zw 3 rfl (zia 1 aD ai) (.y 4 rfl hs ae ?_);refine .z 5 rfl (zfa bj) ?_;refine .z 6 rfl (zfa a8) ?_;refine .y 7 rfl hs an ?_;refine .z 8 rfl (da af) ?_
      refine .zw 10 rfl (zia 2 aD ai) (.zv 11 rfl hs (od ae) (.E 9 hs ?_))
      refine .call dW rfl (cJ hs ak) ?_;rintro _ w ⟨k59,g59,rfl,hs⟩
      refine .go ?_
      first|(refine .ixv 12 rfl hs af ai ?_;intro b62 o62 hc62)|refine .z 12 rfl (zix af ai) ?_
      refine .E 13 hs ?_
      refine .store (c':=Is (s.sp.wa.set k59 z3)++spW) hs rfl rfl ai ?_ dz (lU ak spW) (jY ak spW _);intro w hs
      refine .go (.D hs (nB (nT ?_)))
      exact ⟨{s.sp with wa:=s.sp.wa.set k59 z3},_,_,a6,rfl,bT,hO1,Bo hO2 _,hs.sb⟩
     ·refine .aj (.z fF (.zn zg (.bn rfl (fun hc63=>?_) (fun hc63=>?_))))
      ·refine .region (.z (zia 2 aD ai) (.y hs (zld ae) (.z (zfa bj) (.z (zfa ef) (.z (zfa jW) (.o (.store hs rfl rfl ai fun w hs=>?_)))))))
       refine .nil (nB (nT ?_))
       exact ⟨{s.sp with al:=z3},_,_,a6,rfl,rfl,hO1,hO2,hs.sb⟩
      ·refine .aj (.z fF (.zn zg (.bn rfl (fun hc70=>?_) (fun hc70=>?_))))
       ·refine .region (.z (zia 2 aD ai) (.y hs (zld ae) (.z (zfa bj) (.z (zfa ef) (.z (zfa jV) (.o (.store hs rfl rfl ai fun w hs=>?_)))))))
        refine .nil (nB (nT ?_))
        exact ⟨{s.sp with up:=z3},_,_,a6,rfl,rfl,hO1,hO2,hs.sb⟩
       ·refine .skip (nB (nT ?_))
        exact ⟨s.sp,_,_,a6,rfl,rfl,hO1,hO2,hs.sb⟩
 ·clear hs hO1 hO2
  rintro fs w ⟨sp',f1,f2,hfs,hl1,hl2,hO1,hO2,hs⟩
  refine WE.sub ?_ hfs
  clear hfs
  refine .cut (fun fs w=>∃(R:List Rdg) (f3:Ent) (ar':Option Addr) (cr':Nat),lF fs ⟨225,[],[(6,I (k:Int)),(5,Pt b5),(3,Pt b3),(2,Pt b2)]⟩∧R.length≤15∧cN 7 (.slice ar' R.length cr') (rdc R).flatten f3∧St H1 w (f1::f2::f3::e4:: .blk b5 [I z1,I z2,I z3]:: .blk b3 [I sp'.id,I sp'.src,.slice (some ⟨bS,0,none⟩) s.sp.st.length cS,.slice (some ⟨bW,0,none⟩) s.sp.wa.length cW,I sp'.al,I sp'.up,.slice ar' R.length cr',.slice ac s.cs.length cc]:: .blk b2 [I 0,I 0,.slice none 0 0,.slice none 0 0,I 0,I 0,.slice none 0 0,.slice none 0 0]::σ)) ?_ ?_
  ·refine .aj (.z (zfa aO) (.y hs (zld bG) (.z (da au) (.zn k7 (.bn rfl (fun hc80=>?_) (fun hc80=>?_))))))
   ·refine .aj (.z (zia 1 aD ai) (.y hs (zld ae) (.z (zfa aO) (.y hs (zld bG) (.z (da au) ?_)))))
    obtain ⟨bR,cR,spR,hv,rfl,hcapR⟩:=hO3.FO (kc _) ak (by rw [dw];omega)
    simp only [Value.slice.injEq] at hv
    obtain ⟨rfl,hv2,rfl⟩:=hv
    refine .o (.call dW rfl (cJ hs ak) ?_);rintro _ w ⟨i,gi_,rfl,hs⟩
    obtain ⟨r,hr⟩:=nth (l:=s.rs) (k:=i) ak
    have hbR:∀j<7,Nat.blt (i*7+j) ((rdc s.rs).flatten++spR).length=true:=fun j hj=>Nat.ble_eq_true_of_le (by rw [List.length_append,bU _ (kc _),dw];omega)
    refine .zn zg (.aj (.zn zm (.block (.seq (.aj (.z fF (.zn zg (.bn rfl (fun hc88=>?_) (fun hc88=>?_)))))))))
    ·refine .skip (nT (.cT (.region (.z (zfa aO) (.y hs (zld bG) (.z zm (.z (zia 2 aD ai) (.y hs (zld ae) ?_))))))))
     first|(refine .ixw hs au aI ?_;intro b97 o97 hc97)|refine .z (mw au aI) ?_
     refine .z (zfa du) (.o (.store (c':=(rdc (s.rs.set i {r with val:=z3})).flatten++spR) hs rfl rfl ai ?_ dz (hbR 3 ak) (lk hr ak rfl spR)));intro w hs
     refine .nil (nB (nT ?_))
     exact ⟨s.rs.set i {r with val:=z3},_,some ⟨bR,0,none⟩,cr,a6,by rw [List.length_set];omega,by rw [List.length_set];exact lq hO3,by rw [List.length_set];exact hs.sb⟩
    ·refine .aj (.z fF (.zn zg (.bn rfl (fun hc88=>?_) (fun hc88=>?_))))
     ·refine .skip (nT (.cT (.region (.z (zfa aO) (.y hs (zld bG) (.z zm (.z (zia 2 aD ai) (.y hs (zld ae) ?_))))))))
      first|(refine .ixw hs au aI ?_;intro b97 o97 hc97)|refine .z (mw au aI) ?_
      refine .z (zfa du) (.o (.store (c':=(rdc (s.rs.set i {r with val:=z3})).flatten++spR) hs rfl rfl ai ?_ dz (hbR 3 ak) (lk hr ak rfl spR)));intro w hs
      refine .nil (nB (nT ?_))
      exact ⟨s.rs.set i {r with val:=z3},_,some ⟨bR,0,none⟩,cr,a6,by rw [List.length_set];omega,by rw [List.length_set];exact lq hO3,by rw [List.length_set];exact hs.sb⟩
     ·refine .region (.z fF (.zn zg (nT (.bn rfl (fun hc88=>?_) (fun hc88=>?_)))))
      ·refine .region (.z (zfa aO) (.y hs (zld bG) (.z zm (.z (zia 2 aD ai) (.y hs (zld ae) ?_)))))
       first|(refine .ixw hs au aI ?_;intro b97 o97 hc97)|refine .z (mw au aI) ?_
       refine .z (zfa du) (.o (.store (c':=(rdc (s.rs.set i {r with val:=z3})).flatten++spR) hs rfl rfl ai ?_ dz (hbR 3 ak) (lk hr ak rfl spR)));intro w hs
       refine .nil (nB (nT ?_))
       exact ⟨s.rs.set i {r with val:=z3},_,some ⟨bR,0,none⟩,cr,a6,by rw [List.length_set];omega,by rw [List.length_set];exact lq hO3,by rw [List.length_set];exact hs.sb⟩
      ·refine .aj (.z fF (.zn zg (.bn rfl (fun hc99=>?_) (fun hc99=>?_))))
       ·refine .region (.z (zfa aO) (.y hs (zld bG) (.z zm (.z (zia 2 aD ai) (.y hs (zld ae) ?_)))))
        first|(refine .ixw hs au aI ?_;intro b106 o106 hc106)|refine .z (mw au aI) ?_
        refine .z (zfa di) (.o (.store (c':=(rdc (s.rs.set i {r with tol:=z3})).flatten++spR) hs rfl rfl ai ?_ dz (hbR 4 ak) (lk hr ak rfl spR)));intro w hs
        refine .nil (nB (nT ?_))
        exact ⟨s.rs.set i {r with tol:=z3},_,some ⟨bR,0,none⟩,cr,a6,by rw [List.length_set];omega,by rw [List.length_set];exact lq hO3,by rw [List.length_set];exact hs.sb⟩
       ·refine .aj (.z fF (.zn zg (.bn rfl (fun hc108=>?_) (fun hc108=>?_))))
        ·refine .region (.z (zfa aO) (.y hs (zld bG) (.z zm (.z (zia 2 aD ai) (.y hs (zld ae) ?_)))))
         first|(refine .ixw hs au aI ?_;intro b115 o115 hc115)|refine .z (mw au aI) ?_
         refine .z (zfa eP) (.o (.store (c':=(rdc (s.rs.set i {r with tape:=z3})).flatten++spR) hs rfl rfl ai ?_ dz (hbR 5 ak) (lk hr ak rfl spR)));intro w hs
         refine .nil (nB (nT ?_))
         exact ⟨s.rs.set i {r with tape:=z3},_,some ⟨bR,0,none⟩,cr,a6,by rw [List.length_set];omega,by rw [List.length_set];exact lq hO3,by rw [List.length_set];exact hs.sb⟩
        ·refine .aj (.z fF (.zn zg (.bn rfl (fun hc117=>?_) (fun hc117=>?_))))
         ·refine .region (.z (zfa aO) (.y hs (zld bG) (.z zm (.z (zia 2 aD ai) (.y hs (zld ae) ?_)))))
          first|(refine .ixw hs au aI ?_;intro b124 o124 hc124)|refine .z (mw au aI) ?_
          refine .z (zfa eO) (.o (.store (c':=(rdc (s.rs.set i {r with day:=z3})).flatten++spR) hs rfl rfl ai ?_ dz (hbR 6 ak) (lk hr ak rfl spR)));intro w hs
          refine .nil (nB (nT ?_))
          exact ⟨s.rs.set i {r with day:=z3},_,some ⟨bR,0,none⟩,cr,a6,by rw [List.length_set];omega,by rw [List.length_set];exact lq hO3,by rw [List.length_set];exact hs.sb⟩
         ·refine .aj (.z fF (.zn zg (.bn rfl (fun hc126=>?_) (fun hc126=>?_))))
          ·refine .region (.z (zfa aO) (.y hs (zld bG) (.z zm (.z (zia 2 aD ai) (.y hs (zld ae) ?_)))))
           first|(refine .ixw hs au aI ?_;intro b133 o133 hc133)|refine .z (mw au aI) ?_
           refine .z (zfa gg) (.o (.store (c':=(rdc (s.rs.set i {r with st:=z3})).flatten++spR) hs rfl rfl ai ?_ dz (hbR 1 ak) (lk hr ak rfl spR)));intro w hs
           refine .nil (nB (nT ?_))
           exact ⟨s.rs.set i {r with st:=z3},_,some ⟨bR,0,none⟩,cr,a6,by rw [List.length_set];omega,by rw [List.length_set];exact lq hO3,by rw [List.length_set];exact hs.sb⟩
          ·refine .aj (.z fF (.zn zg (.bn rfl (fun hc135=>?_) (fun hc135=>?_))))
           ·refine .region (.z (zfa aO) (.y hs (zld bG) (.z zm (.z (zia 2 aD ai) (.y hs (zld ae) ?_)))))
            first|(refine .ixw hs au aI ?_;intro b142 o142 hc142)|refine .z (mw au aI) ?_
            refine .z (zfa gd) (.o (.store (c':=(rdc (s.rs.set i {r with wa:=z3})).flatten++spR) hs rfl rfl ai ?_ dz (hbR 2 ak) (lk hr ak rfl spR)));intro w hs
            refine .nil (nB (nT ?_))
            exact ⟨s.rs.set i {r with wa:=z3},_,some ⟨bR,0,none⟩,cr,a6,by rw [List.length_set];omega,by rw [List.length_set];exact lq hO3,by rw [List.length_set];exact hs.sb⟩
           ·refine .aj (.z fF (.zn zg (.bn rfl (fun hc144=>?_) (fun hc144=>?_))))
            ·refine .region (.z (zfa aO) (.y hs (zld bG) (.z zm (.z (zia 2 aD ai) (.y hs (zld ae) ?_)))))
             first|(refine .ixw hs au aI ?_;intro b151 o151 hc151)|refine .z (mw au aI) ?_
             refine .z (zfa eQ) (.o (.store (c':=(rdc (s.rs.set i {r with src:=z3})).flatten++spR) hs rfl rfl ai ?_ dz (hbR 0 ak) (lk hr ak rfl spR)));intro w hs
             refine .nil (nB (nT ?_))
             exact ⟨s.rs.set i {r with src:=z3},_,some ⟨bR,0,none⟩,cr,a6,by rw [List.length_set];omega,by rw [List.length_set];exact lq hO3,by rw [List.length_set];exact hs.sb⟩
            ·refine .seq (.aj (.z fF (.zn zg (.bn rfl (fun hc153=>?_) (fun hc153=>?_)))))
             ·refine .skip (nT (.cT (.aj (.z (zfa aO) (.y hs (zld bG) (.z zm ?_))))))
              first|(refine .ixw hs au aI ?_;intro b159 o159 hc159)|refine .z (mw au aI) ?_
              refine .y hs (zls r.c ew aI (hr:= .own (by repeat (first|exact .here|refine .there ?_)) (xo (kc _) (yd hr) spR))) ?_
              have hrOk:=hM.ok.early.2.2.2.1 r (List.mem_of_getElem? hr)
              have hrtol:=hrOk.tol
              refine .o (.alloc hs ff rfl fun b8 w hs=>?_)
              refine .o (.aU (vs:=[_,_,_,_,_,_,_]) hs rfl rfl aI fun w hs=>?_)
              refine .nil (.aj (.z (zfa eQ) (.o (.store hs rfl rfl ai fun w hs=>?_))))
              refine .nil (.aj (.z (zia 2 aD ai) (.y hs (zld ae) (.z (zfa di) (.y hs (zld ae) (.z fM (.z cu (.o (.call dW rfl (cJ hs ak) ?_)))))))));rintro _ w ⟨k168,g168,rfl,hs⟩
              refine .z (zfa du) (.o (.store hs rfl rfl ai fun w hs=>?_))
              refine .nil (.region (.z (zfa aO) (.y hs (zld bG) (.y hs (zls [_,_,_,_,_,_,_] ew aI) (.o (.buildSlice (cells:=Rdg.c ⟨50,r.st,r.wa,(k168:Int),r.tol,r.tape,r.day⟩) hs gJ rfl aH fun b173 w hs=>?_))))))
              refine .o (.append (ys:=Rdg.c ⟨50,r.st,r.wa,(k168:Int),r.tol,r.tape,r.day⟩) hs dY rfl rfl hO3 (.own .here rfl rfl) (by simp [Rdg.c,Value.oneCell']) (fun l' h=>by rw [bU _ (kc _),dw] at h;omega) ?_);intro v174 en174 w hO5 hs
              rw [←uL] at hO5
              obtain ⟨a174,c174,rfl⟩:=hO5.je (kc _) ak
              rw [dw] at hO5 ⊢
              refine .z (zfa aO) (.o (.store hs rfl rfl su fun w hs=>?_))
              refine .nil (nB (nT ?_))
              exact ⟨s.rs++[⟨50,r.st,r.wa,(k168:Int),r.tol,r.tape,r.day⟩],_,a174,c174,a6,by simp;omega,hO5,hs.sb⟩
             ·refine .region (.z fF (.zn zg (nT (.bn rfl (fun hc153=>?_) (fun hc153=>?_)))))
              ·refine .aj (.z (zfa aO) (.y hs (zld bG) (.z zm ?_)))
               first|(refine .ixw hs au aI ?_;intro b159 o159 hc159)|refine .z (mw au aI) ?_
               refine .y hs (zls r.c ew aI (hr:= .own (by repeat (first|exact .here|refine .there ?_)) (xo (kc _) (yd hr) spR))) ?_
               have hrOk:=hM.ok.early.2.2.2.1 r (List.mem_of_getElem? hr)
               have hrtol:=hrOk.tol
               refine .o (.alloc hs ff rfl fun b8 w hs=>?_)
               refine .o (.aU (vs:=[_,_,_,_,_,_,_]) hs rfl rfl aI fun w hs=>?_)
               refine .nil (.aj (.z (zfa eQ) (.o (.store hs rfl rfl ai fun w hs=>?_))))
               refine .nil (.aj (.z (zia 2 aD ai) (.y hs (zld ae) (.z (zfa di) (.y hs (zld ae) (.z fM (.z cu (.o (.call dW rfl (cJ hs ak) ?_)))))))));rintro _ w ⟨k168,g168,rfl,hs⟩
               refine .z (zfa du) (.o (.store hs rfl rfl ai fun w hs=>?_))
               refine .nil (.region (.z (zfa aO) (.y hs (zld bG) (.y hs (zls [_,_,_,_,_,_,_] ew aI) (.o (.buildSlice (cells:=Rdg.c ⟨50,r.st,r.wa,(k168:Int),r.tol,r.tape,r.day⟩) hs gJ rfl aH fun b173 w hs=>?_))))))
               refine .o (.append (ys:=Rdg.c ⟨50,r.st,r.wa,(k168:Int),r.tol,r.tape,r.day⟩) hs dY rfl rfl hO3 (.own .here rfl rfl) (by simp [Rdg.c,Value.oneCell']) (fun l' h=>by rw [bU _ (kc _),dw] at h;omega) ?_);intro v174 en174 w hO5 hs
               rw [←uL] at hO5
               obtain ⟨a174,c174,rfl⟩:=hO5.je (kc _) ak
               rw [dw] at hO5 ⊢
               refine .z (zfa aO) (.o (.store hs rfl rfl su fun w hs=>?_))
               refine .nil (nB (nT ?_))
               exact ⟨s.rs++[⟨50,r.st,r.wa,(k168:Int),r.tol,r.tape,r.day⟩],_,a174,c174,a6,by simp;omega,hO5,hs.sb⟩
              ·refine .skip (nB (nT ?_))
               exact ⟨s.rs,_,some ⟨bR,0,none⟩,cr,a6,ak,hO3,hs.sb⟩
   ·refine .skip (nT ?_)
    exact ⟨s.rs,_,ar,cr,a6,ak,hO3,hs.sb⟩
  ·clear hs hO3
   rintro fs w ⟨R,f3,ar',cr',hfs,hRl,hO3,hs⟩
   refine WE.sub ?_ hfs
   clear hfs
   refine .cut (fun fs w=>∃(C:List Cmp) (f4:Ent) (ac':Option Addr) (cc':Nat),lF fs ⟨225,[],[(3,Pt b3),(2,Pt b2)]⟩∧C.length≤5∧cN 6 (.slice ac' C.length cc') (cmc C).flatten f4∧St H1 w (f1::f2::f3::f4:: .blk b3 [I sp'.id,I sp'.src,.slice (some ⟨bS,0,none⟩) s.sp.st.length cS,.slice (some ⟨bW,0,none⟩) s.sp.wa.length cW,I sp'.al,I sp'.up,.slice ar' R.length cr',.slice ac' C.length cc']:: .blk b2 [I 0,I 0,.slice none 0 0,.slice none 0 0,I 0,I 0,.slice none 0 0,.slice none 0 0]::σ)) ?_ ?_
   ·refine .aj (.z (zfa ck) (.y hs (zld ea) (.z (da bk) (.zn k7 (.bn rfl (fun hc179=>?_) (fun hc179=>?_))))))
    ·refine .aj (.z (zia 1 aD ai) (.y hs (zld ae) (.z (zfa ck) (.y hs (zld ea) (.z (da bk) ?_)))))
     obtain ⟨bC,cC,spC,hv,rfl,hcapC⟩:=hO4.FO (ti _) ak (by rw [gq];omega)
     simp only [Value.slice.injEq] at hv
     obtain ⟨rfl,hv2,rfl⟩:=hv
     refine .o (.call dW rfl (cJ hs ak) ?_);rintro _ w ⟨i,gi_,rfl,hs⟩
     obtain ⟨c,hc⟩:=nth (l:=s.cs) (k:=i) ak
     have hbC:∀j<6,Nat.blt (i*6+j) ((cmc s.cs).flatten++spC).length=true:=fun j hj=>Nat.ble_eq_true_of_le (by rw [List.length_append,bU _ (ti _),gq];omega)
     refine .zn zg (.aj (.zn zm (.block (.seq (.aj (.z fF (.zn zg (.bn rfl (fun hc187=>?_) (fun hc187=>?_)))))))))
     ·refine .skip (nT (.cT (.region (.z (zfa ck) (.y hs (zld ea) (.z zm (.z (zia 2 aD ai) (.y hs (zld ae) ?_))))))))
      first|(refine .ixw hs bk cD ?_;intro b195 o195 hc195)|refine .z (mw bk cD) ?_
      refine .z (zfa fB) (.o (.store (c':=(cmc (s.cs.set i {c with lo:=z3})).flatten++spC) hs rfl rfl ai ?_ dz (hbC 4 ak) (rU hc ak rfl spC)));intro w hs
      refine .nil (nB (nT ?_))
      exact ⟨s.cs.set i {c with lo:=z3},_,some ⟨bC,0,none⟩,cc,a6,by rw [List.length_set];omega,by rw [List.length_set];exact rl hO4,by rw [List.length_set];exact hs.sb⟩
     ·refine .region (.z fF (.zn zg (nT (.bn rfl (fun hc187=>?_) (fun hc187=>?_)))))
      ·refine .region (.z (zfa ck) (.y hs (zld ea) (.z zm (.z (zia 2 aD ai) (.y hs (zld ae) ?_)))))
       first|(refine .ixw hs bk cD ?_;intro b195 o195 hc195)|refine .z (mw bk cD) ?_
       refine .z (zfa fB) (.o (.store (c':=(cmc (s.cs.set i {c with lo:=z3})).flatten++spC) hs rfl rfl ai ?_ dz (hbC 4 ak) (rU hc ak rfl spC)));intro w hs
       refine .nil (nB (nT ?_))
       exact ⟨s.cs.set i {c with lo:=z3},_,some ⟨bC,0,none⟩,cc,a6,by rw [List.length_set];omega,by rw [List.length_set];exact rl hO4,by rw [List.length_set];exact hs.sb⟩
      ·refine .aj (.z fF (.zn zg (.bn rfl (fun hc197=>?_) (fun hc197=>?_))))
       ·refine .region (.z (zfa ck) (.y hs (zld ea) (.z zm (.z (zia 2 aD ai) (.y hs (zld ae) ?_)))))
        first|(refine .ixw hs bk cD ?_;intro b204 o204 hc204)|refine .z (mw bk cD) ?_
        refine .z (zfa fA) (.o (.store (c':=(cmc (s.cs.set i {c with hi:=z3})).flatten++spC) hs rfl rfl ai ?_ dz (hbC 5 ak) (rU hc ak rfl spC)));intro w hs
        refine .nil (nB (nT ?_))
        exact ⟨s.cs.set i {c with hi:=z3},_,some ⟨bC,0,none⟩,cc,a6,by rw [List.length_set];omega,by rw [List.length_set];exact rl hO4,by rw [List.length_set];exact hs.sb⟩
       ·refine .aj (.z fF (.zn zg (.bn rfl (fun hc206=>?_) (fun hc206=>?_))))
        ·refine .region (.z (zfa ck) (.y hs (zld ea) (.z zm (.z (zia 2 aD ai) (.y hs (zld ae) ?_)))))
         first|(refine .ixw hs bk cD ?_;intro b213 o213 hc213)|refine .z (mw bk cD) ?_
         refine .z (zfa gj) (.o (.store (c':=(cmc (s.cs.set i {c with fr:=z3})).flatten++spC) hs rfl rfl ai ?_ dz (hbC 2 ak) (rU hc ak rfl spC)));intro w hs
         refine .nil (nB (nT ?_))
         exact ⟨s.cs.set i {c with fr:=z3},_,some ⟨bC,0,none⟩,cc,a6,by rw [List.length_set];omega,by rw [List.length_set];exact rl hO4,by rw [List.length_set];exact hs.sb⟩
        ·refine .aj (.z fF (.zn zg (.bn rfl (fun hc215=>?_) (fun hc215=>?_))))
         ·refine .region (.z (zfa ck) (.y hs (zld ea) (.z zm (.z (zia 2 aD ai) (.y hs (zld ae) ?_)))))
          first|(refine .ixw hs bk cD ?_;intro b222 o222 hc222)|refine .z (mw bk cD) ?_
          refine .z (zfa fC) (.o (.store (c':=(cmc (s.cs.set i {c with to:=z3})).flatten++spC) hs rfl rfl ai ?_ dz (hbC 3 ak) (rU hc ak rfl spC)));intro w hs
          refine .nil (nB (nT ?_))
          exact ⟨s.cs.set i {c with to:=z3},_,some ⟨bC,0,none⟩,cc,a6,by rw [List.length_set];omega,by rw [List.length_set];exact rl hO4,by rw [List.length_set];exact hs.sb⟩
         ·refine .skip (nB (nT ?_))
          exact ⟨s.cs,_,some ⟨bC,0,none⟩,cc,a6,ak,hO4,hs.sb⟩
    ·refine .skip (nT ?_)
     exact ⟨s.cs,_,ac,cc,a6,ak,hO4,hs.sb⟩
   ·clear hs hO4
    rintro fs w ⟨C,f4,ac',cc',hfs,hCl,hO4,hs⟩
    refine WE.sub ?_ hfs
    clear hfs
    refine .aj (.y hs (zls [_,_,_,_,_,_,_,_] aQ aC) (.o (.aU (vs:=[_,_,_,_,_,_,_,_]) hs rfl rfl aC fun w hs=>?_)))
    refine .nil (.ret ?_)
    have hV:FU ⟨sp',R,C⟩ (.slice (some ⟨bS,0,none⟩) s.sp.st.length cS) (.slice (some ⟨bW,0,none⟩) s.sp.wa.length cW) (.slice ar' R.length cr') (.slice ac' C.length cc') f1 f2 f3 f4:=⟨hO1,hO2,hO3,hO4⟩
    obtain ⟨Ha,hla,ra,hs⟩:=hO1.dM ak hs dz
    obtain ⟨Hb,hlb,rb,hs⟩:=hO2.dM ak hs dz
    obtain ⟨Hc,hlc,rc,hs⟩:=cN.cQ (m:=7) (cs:=rdc R) hO3 (kc _) ak (by rw [dw];omega) hs dz
    obtain ⟨Hd,hld,rd,hs⟩:=cN.cQ (m:=6) (cs:=cmc C) hO4 (ti _) ak (by rw [gq];omega) hs dz
    exact Fin.jt [] [] hs fun w hs=>⟨_,results1 Tryz.results55 (dK (vs:=[_,_,_,_,_,_,_,_]) hs rfl aQ aC),Hd,⟨sp',R,C⟩,_,_,_,_,hle1.trans (hla.trans (hlb.trans (hlc.trans hld))),rfl,ra.mono (hlb.trans (hlc.trans hld)),rb.mono (hlc.trans hld),RRd.mono rc hld,rd,⟨by show 2≤sp'.st.length∧sp'.st.length≤4;omega,by show 2≤sp'.wa.length∧sp'.wa.length≤3;omega,hRl,hCl⟩,hs.out⟩
theorem mS{s:Spc}{vst vwa vh:Value}{rows:List (List Int)}(hs:St H w σ)(h1:RI H vst s.st)(h2:RI H vwa s.wa)(hr:RT H vh rows):
  Cl Tryz.prog 151 [.agg #[I s.id,I s.src,vst,vwa,I s.al,I s.up],.agg #[vh]] w fun u w'=>∃b:Bool,u= .bool b∧(b=true↔jM s rows)∧St H w' σ:=by
 obtain ⟨ast,cst,rfl⟩:=RI.shape h1
 obtain ⟨awa,cwa,rfl⟩:=RI.shape h2
 obtain ⟨ah,ch,rfl⟩:=hr.shape
 have hrl:=(hr.len).2.2
 have hwl:=(RI.len h2).2.2
 refine Cl.o Tryz.func151 Tryz.ntmps151 ag2 ?_
 refine .aj (.bx hs fun b2 w hs=>?_)
 refine .bx hs fun b3 w hs=>?_
 refine .zn zg (.seq (.aj (.z (zfa eo) (.y hs (zld fY) (.z (da az) (.z (zfa bI) (.y hs (zld an) (.z (da af) (.zn hZ (.dZ rfl (fun hc13=>?_) (fun hc13=>?_)))))))))))
 ·refine .aj (.zn zg (.ret (rT (Fin.bq Tryz.results151 rfl ?_))))
  exact ⟨false,rfl,⟨fun h=>(by cases h),fun h=>by have:=h.len;simp_all⟩,hs.out⟩
 ·refine .skip (nT (.seq (.aj (.zn zg (.block ?_)))))
  have hrows:rows.length=s.st.length:=by omega
  refine .loop (fun i:Nat=>⟨51,[],[(5,I (i:Int)),(3,Pt b3),(2,Pt b2)]⟩)
   (fun i w=>i≤rows.length∧(∀j<i,(gr rows j).length=s.wa.length∧∀k<s.wa.length,0≤gt rows j k∧gt rows j k≤20000)∧St H w (.blk b3 [.slice ah rows.length ch]:: .blk b2 [I s.id,I s.src,.slice ast s.st.length cst,.slice awa s.wa.length cwa,I s.al,I s.up]::σ)) (fun i=>rows.length - i) 0 a6
   ⟨Nat.zero_le _,fun j hj=>by omega,hs⟩ ?_
  clear hs
  rintro i w ⟨hi,hall,hs⟩
  refine .seq (.aj (.z zm (.z (zfa eo) (.y hs (zld fY) (.z (da az) (.zn fV (.bn rfl (fun hc18=>?_) (fun hc18=>?_))))))))
  ·refine .skip (nT (.seq (.block (.seq (.seq (.draw mix rfl hs fun w hs=>?_))))))
   refine .zw 0 rfl (zfa eo) ?_;refine .y 1 rfl hs fY ?_;refine .z 2 rfl zm ?_
   refine .ixT (i:=3) hs rfl aH .none hr rfl rfl az aB (show i<_ by omega) cz ?_;intro b24 o24 a24 c24 hc24 hR24
   refine .r (i:=4) hs rfl aH .none (aP rfl an hc24) ?_
   refine .zw 5 rfl (da af) ?_;refine .z 6 rfl (zfa a8) ?_;refine .y 7 rfl hs an ?_;refine .z 8 rfl (da af) ?_;refine .z 9 rfl hZ ?_;refine .D hs ?_
   refine (.dZ rfl (fun hc30=>?_) (fun hc30=>?_))
   ·refine .aj (.zn zg (.ret (rT (rB (rT (rT (rB (rT (Fin.bq Tryz.results151 rfl ?_)))))))))
    exact ⟨false,rfl,⟨fun h=>(by cases h),fun h=>by have:=h.row i ak;simp_all⟩,hs.out⟩
   ·refine .skip (nT (.aj (.zn zg (.block ?_))))
    have hrow:(gr rows i).length=s.wa.length:=by simp_all;omega
    refine .loop (fun k:Nat=>⟨51,[],[(6,I (k:Int)),(5,I (i:Int)),(3,Pt b3),(2,Pt b2)]⟩)
     (fun k w=>k≤s.wa.length∧(∀j<k,0≤gt rows i j∧gt rows i j≤20000)∧St H w (.blk b3 [.slice ah rows.length ch]:: .blk b2 [I s.id,I s.src,.slice ast s.st.length cst,.slice awa s.wa.length cwa,I s.al,I s.up]::σ)) (fun k=>s.wa.length - k) 0 a6
     ⟨Nat.zero_le _,fun j hj=>by omega,hs⟩ ?_
    clear hs
    rintro k w ⟨hk,hin,hs⟩
    refine .seq (.aj (.z zm (.z (zfa eo) (.y hs (zld fY) (.z zm (.ixT hs hr rfl rfl az aB (show i<_ by omega) cz ?_))))));intro b35 o35 a35 c35 hc35 hR35
    refine .q hs (aP rfl an hc35) (.z (da af) (.zn fV (.bn rfl (fun hc38=>?_) (fun hc38=>?_))))
    ·refine .skip (nT (.seq (.block (.aj (.z (zfa eo) (.y hs (zld fY) (.z zm (.ixT hs hr rfl rfl az aB (show i<_ by omega) cz ?_))))))));intro b44 o44 a44 c44 hc44 hR44
     refine .q hs (aP rfl an hc44) (.z zm (.ixY hs hR44 rfl rfl af ai (bJ (l:=(gr rows i)) (i:=k) ak) cz ?_));intro b47 o47 hc47
     refine .q hs (aP rfl ae hc47) (.o (.call eV rfl (dt hs) ?_));rintro _ w ⟨rfl,hs⟩
     refine .zn fI (.cond rfl (fun hc50=>?_) (fun hc50=>?_))
     ·refine .aj (.zn zg (.ret (rB (rT (rT (rB (rB (rT (rT (rB (rT (Fin.bq Tryz.results151 rfl ?_))))))))))))
      exact ⟨false,rfl,⟨fun h=>(by cases h),fun h=>by
       have:=h.num i ak k ak
       unfold gt at this
       simp_all⟩,hs.out⟩
     ·refine .skip (nB (nT (.region (.z zm (.z cu (.zn zg (nT ?_)))))))
      exact ⟨k+1,.cP rfl bT a6,⟨ak,fun j hj=>by
       by_cases e:j=k
       ·subst e
        have:0≤gi (gr rows i) j∧gi (gr rows i) j≤20000:=by simp_all
        exact this
       ·exact hin j ak,hs⟩,ak⟩
    ·refine .exit (xT (xT (xB (nB (nT (.region (.z zm (.z cu (.zn zg (nT ?_))))))))))
     exact ⟨i+1,.cP rfl bT a6,⟨ak,fun j hj=>by
      by_cases e:j=i
      ·subst e;exact ⟨hrow,fun k' hk'=>hin k' ak⟩
      ·exact hall j ak,hs⟩,ak⟩
  ·refine .exit (xT (xT (xB (nT (.aj (.zn zg (.ret (Fin.bq Tryz.results151 rfl ?_))))))))
   exact ⟨true,rfl,⟨fun _=>⟨hrows,fun j hj=>(hall j ak).1,fun j hj=>(hall j ak).2⟩,fun _=>rfl⟩,hs.out⟩
theorem gN{s:Spc}{vst vwa vh:Value}{rows:List (List Int)}{b:Nat}(hs:St H w σ)(h2:RI H vwa s.wa)(hr:RT H vh rows)(hh:jM s rows)(hb:b≤s.many)(hbd:s.many≤1000000):
  Cl Tryz.prog 154 [.agg #[I s.id,I s.src,vst,vwa,I s.al,I s.up],.agg #[vh],I (b:Int)] w fun u w'=>u=I (hpt s (gt rows) b)∧St H w' σ:=by
 obtain ⟨awa,cwa,rfl⟩:=RI.shape h2
 obtain ⟨ah,ch,rfl⟩:=hr.shape
 have hrl:=hh.len
 by_cases hb0:b=0
 ·subst hb0
  refine Cl.o Tryz.func154 Tryz.ntmps154 ag3 ?_
  refine .aj (.bx hs fun b3 w hs=>?_)
  refine .bx hs fun b4 w hs=>?_
  refine .zn zg (.seq (.aj (.z zm (.zn fF (.bn rfl (fun hc8=>?_) (fun hc8=>?_))))))
  ·refine .aj (.zn zg (.ret (rT (Fin.bq Tryz.results154 rfl ?_))))
   exact ⟨rfl,hs.out⟩
  ·exact absurd hc8 bT
 have hm:b - 1<s.st.length*s.wa.length:=by unfold Spc.many at hb;omega
 have hw:0<s.wa.length:=by
  rcases Nat.eq_zero_or_pos s.wa.length with e|e
  ·rw [e,Nat.mul_zero] at hm;omega
  ·exact e
 have e0:(b:Int) - 1=((b - 1:Nat):Int):=by omega
 have e1:((b:Int) - 1).tdiv (s.wa.length:Int)=(((b - 1)/s.wa.length:Nat):Int):=by rw [e0];exact (Int.ofNat_tdiv _ _).symm
 have e2:((b:Int) - 1).tmod (s.wa.length:Int)=(((b - 1)%s.wa.length:Nat):Int):=by rw [e0];exact (Int.ofNat_tmod _ _).symm
 have hi:(b - 1)/s.wa.length<s.st.length:=Nat.div_lt_of_lt_mul (by rw [Nat.mul_comm];exact hm)
 have hk:=Nat.mod_lt (b - 1) hw
 have hrow:=hh.row _ hi
 have hpt':hpt s (gt rows) b=gi (gr rows ((b - 1)/s.wa.length)) ((b - 1)%s.wa.length):=by unfold hpt;rw [if_neg hb0];rfl
 have hd1:(b - 1)/s.wa.length≤1000000:=Nat.le_trans (Nat.div_le_self _ _) ak
 generalize (b - 1)/s.wa.length=i at*
 generalize (b - 1)%s.wa.length=k at*
 refine Cl.o Tryz.func154 Tryz.ntmps154 ag3 ?_
 refine .aj (.bx hs fun b3 w hs=>?_)
 refine .bx hs fun b4 w hs=>?_
 refine .zn zg (.seq (.aj (.z zm (.zn fF (.bn rfl (fun hc8=>?_) (fun hc8=>?_))))))
 ·refine .aj (.zn zg (.ret (rT (Fin.bq Tryz.results154 rfl ?_))))
  exact absurd hc8 ak
 ·refine .skip (nT (.seq (.draw mix rfl hs fun w hs=>?_)))
  refine .zw 0 rfl (zfa eo) ?_;refine .y 1 rfl hs fY ?_;refine .z 2 rfl zm ?_;refine .z 3 rfl fM ?_;refine .z 4 rfl (zfa a8) ?_;refine .y 5 rfl hs an ?_;refine .z 6 rfl (da af) ?_
  refine .zw 7 rfl (rh rfl rfl ak (by rw [e1];exact ⟨ak,ak⟩)) ?_
  rw [e1]
  refine .ixT (i:=8) hs rfl aH .none hr rfl rfl az aB (show i<_ by omega) cz ?_;intro b17 o17 a17 c17 hc17 hR17
  refine .r (i:=9) hs rfl aH .none (aP rfl an hc17) ?_
  refine .zw 10 rfl zm ?_;refine .z 11 rfl fM ?_;refine .z 12 rfl (zfa a8) ?_;refine .y 13 rfl hs an ?_;refine .z 14 rfl (da af) ?_;refine .z 15 rfl Ag ?_
  rw [e2]
  refine .ixX (enc:=fun x=>[I x]) (i:=16) hs rfl aH .none hR17 rfl rfl af ai (bJ (l:=(gr rows i)) (i:=k) ak) cz ?_;intro b25 o25 hc25;replace hc25:=bL.one hc25
  refine .r (i:=17) hs rfl aH .none (aP rfl ae hc25) ?_
  refine .zw 18 rfl zg ?_;refine .D hs ?_
  refine .ret (Fin.bq Tryz.results154 rfl ?_)
  exact ⟨by rw [hpt'],hs.out⟩
theorem vM{s:Spc}{vst vwa vh:Value}{rows:List (List Int)}{l:Lim}(hs:St H w σ)(h1:RI H vst s.st)(h2:RI H vwa s.wa)(hr:RT H vh rows)(hok:eY s)(hh:jM s rows)(hA:0≤l.A)(hB:0≤l.B):
  Cl Tryz.prog 153 [.agg #[I s.id,I s.src,vst,vwa,I s.al,I s.up],.agg #[vh],.agg #[I l.A,I l.B,I l.M,I l.S]] w fun u w'=>∃b:Bool,u= .bool b∧(b=true↔(l.A.toNat≤s.many→l.B.toNat≤s.many→hpt s (gt rows) l.B.toNat≤hpt s (gt rows) l.A.toNat+l.M))∧St H w' σ:=by
 obtain ⟨ast,cst,rfl⟩:=RI.shape h1
 obtain ⟨awa,cwa,rfl⟩:=RI.shape h2
 have hsm:=ez hok
 have hmm:s.many≤1000000:=by
  have:s.st.length*s.wa.length≤1000*1000:=Nat.mul_le_mul ak ak
  unfold Spc.many;omega
 have hbd:=fun b hb=>zK (b:=b) hh hb
 obtain ⟨a,ha⟩:∃a:Nat,l.A=a:=⟨_,(Int.toNat_of_nonneg hA).symm⟩
 obtain ⟨b,hb⟩:∃b:Nat,l.B=b:=⟨_,(Int.toNat_of_nonneg hB).symm⟩
 rw [ha,hb,Int.toNat_natCast,Int.toNat_natCast]
 refine Cl.o Tryz.func153 Tryz.ntmps153 ag3 ?_
 refine .aj (.bx hs fun b3 w hs=>?_)
 refine .bx hs fun b4 w hs=>?_
 refine .bx hs fun b5 w hs=>?_
 refine .zn zg (.aj (.y hs (zls [_,_,_,_,_,_] aK aA) (.o (.call tx rfl (dX (s:=s) hs h1 h2 ⟨ak,ak⟩) ?_))));rintro _ w ⟨rfl,hs⟩
 refine .zn zg (.seq (.aj (.z (zfa dA) (.y hs (zld ae) (.z zm (.z k7 (.z zm (.ie (t':=14) rfl (fun hb14=>?_) (fun hb14=>?_)))))))))
 ·refine .Fs 4 4 false (.zn zpT (.cT (.aj (.zn zg (.ret (rT (Fin.bq Tryz.results153 rfl ?_)))))))
  exact ⟨true,rfl,⟨fun _ g1 g2=>by omega,fun _=>rfl⟩,hs.out⟩
 ·refine .T (.z (zfa dH) (.T (.y hs (zld ae) (.T (.z zm (.T (.z k7 (.zn zpF (.bn rfl (fun hc19=>?_) (fun hc19=>?_))))))))))
  ·refine .aj (.zn zg (.ret (rT (Fin.bq Tryz.results153 rfl ?_))))
   exact ⟨true,rfl,⟨fun _ g1 g2=>by omega,fun _=>rfl⟩,hs.out⟩
  ·refine .skip (nT (.seq (.draw mix rfl hs fun w hs=>?_)))
   refine .ys 0 rfl hs [_,_,_,_,_,_] aK aA ?_;refine .ys 1 rfl hs [_] eU dq ?_;refine .z 2 rfl (zfa dH) ?_;refine .y 3 rfl hs ae ?_;refine .ys 5 rfl hs [_,_,_,_,_,_] aK aA ?_;refine .ys 6 rfl hs [_] eU dq ?_;refine .z 7 rfl (zfa dA) ?_;refine .y 8 rfl hs ae ?_;refine .z 11 rfl (zfa eG) ?_;refine .y 12 rfl hs ae ?_
   refine .E 4 hs ?_
   have hb1:=hbd b ak
   have ha1:=hbd a ak
   refine .call Ju rfl (gN (s:=s) (b:=b) hs h2 hr hh ak hmm) ?_;rintro _ w ⟨rfl,hs⟩
   refine .go (.E 9 hs ?_)
   refine .call Ju rfl (gN (s:=s) (b:=a) hs h2 hr hh ak hmm) ?_;rintro _ w ⟨rfl,hs⟩
   refine .go (.zw 10 rfl fM ?_);refine .z 13 rfl nb ?_;refine .z 14 rfl zg ?_;refine .D hs ?_
   refine .ret (Fin.bq Tryz.results153 rfl ?_)
   exact ⟨_,rfl,by rw [decide_eq_true_eq];exact ⟨fun g _ _=>by omega,fun g=>by have:=g ak ak;omega⟩,hs.out⟩
set_option maxHeartbeats 1000000 in
theorem tZ{s:Spc}{q:Wht}{vst vwa vh:Value}{rows:List (List Int)}(hs:St H w σ)(h1:RI H vst s.st)(h2:RI H vwa s.wa)(hr:RT H vh rows):
  Cl Tryz.prog 101 [.agg #[I s.id,I s.src,vst,vwa,I s.al,I s.up],.agg #[vh],.agg #[I q.kind,I q.st,I q.wa]] w fun u w'=>∃H1 n e,HLe H H1∧u= .tuple #[I n,I e]∧tp s rows q n e∧St H1 w' σ:=by
 obtain ⟨ast,cst,rfl⟩:=RI.shape h1
 obtain ⟨awa,cwa,rfl⟩:=RI.shape h2
 obtain ⟨ah,ch,rfl⟩:=hr.shape
 refine Cl.o Tryz.func101 Tryz.ntmps101 ag3 ?_
 refine .aj (.bx hs fun b3 w hs=>?_)
 refine .bx hs fun b4 w hs=>?_
 refine .bx hs fun b5 w hs=>?_
 refine .z zg (.zn zg (.seq (.aj (.y hs (zls [_,_,_,_,_,_] aK aA) (.o (.call Tryz.call113 rfl (iN (s:=s) hs h1 h2) ?_))))));rintro _ w ⟨e,rfl,he,hs⟩
 refine .zn hZ (.dZ rfl (fun hc14=>?_) (fun hc14=>?_))
 ·refine .aj (.z zg (.zn zg (.ret (rT (Fin.ij Tryz.results101 rfl rfl ?_)))))
  have hq:¬eY s∧e=30:=he.resolve_left fun h=>hc14 h.2
  exact ⟨H,_,_,HLe.refl H,rfl,.space hq.1,hs.out⟩
 ·refine .skip (nT (.seq (.aj (.y hs (zls [_,_,_,_,_,_] aK aA) (.y hs (zls [_] eU dq) ?_)))))
  have hok:eY s:=(he.resolve_right fun h=>by omega).1
  have hsm:=ez hok
  refine .o (.call Tryz.call151 rfl (mS (s:=s) hs h1 h2 hr) ?_);rintro _ w ⟨b17,rfl,hb17,hs⟩
  refine .zn fI (.cond rfl (fun hc18=>?_) (fun hc18=>?_))
  ·refine .aj (.z zg (.zn zg (.ret (rT (Fin.ij Tryz.results101 rfl rfl ?_)))))
   exact ⟨H,_,_,HLe.refl H,rfl,.hull hok (fun h=>by rw [hb17.2 h] at hc18;cases hc18),hs.out⟩
  ·refine .skip (nT (.seq (.aj (.y hs (zls [_,_,_,_,_,_] aK aA) (.y hs (zls [_,_,_] ny gW) ?_)))))
   have hh:jM s rows:=hb17.1 (by simpa using hc18)
   refine .o (.call Tryz.call155 rfl (sR (s:=s) (q:=q) hs h1 h2) ?_);rintro _ w ⟨b21,rfl,hb21,hs⟩
   refine .zn fI (.cond rfl (fun hc22=>?_) (fun hc22=>?_))
   ·refine .aj (.z zg (.zn zg (.ret (rT (Fin.ij Tryz.results101 rfl rfl ?_)))))
    exact ⟨H,_,_,HLe.refl H,rfl,.what hok hh (fun h=>by rw [hb21.2 h] at hc22;cases hc22),hs.out⟩
   ·refine .skip (nT (.aj (.y hs (zls [_,_,_,_,_,_] aK aA) (.y hs (zls [_,_,_] ny gW) ?_))))
    have hq:ib s q:=hb21.1 (by simpa using hc22)
    have hmm:s.many≤1000000:=by
     have:s.st.length*s.wa.length≤1000*1000:=Nat.mul_le_mul ak ak
     unfold Spc.many;omega
    have hwl:=gz s q
    have hwz:=mM hok hq
    refine .o (.call Tryz.call156 rfl (sP (s:=s) (q:=q) hs h1 h2 hok hq) ?_);rintro _ w ⟨H1,vl,en,hle1,rfl,hO,hs⟩
    obtain ⟨H2,hle2,hW,hs⟩:=cN.dM hO ak hs dz
    obtain ⟨aw,cw,rfl⟩:=RI.shape hW
    have hle02:=hle1.trans hle2
    replace h1:=h1.mono hle02
    replace h2:=h2.mono hle02
    replace hr:=hr.mono hle02
    refine .z zm (.z zex (.z zex (.z zg (.zn zg (.aj (.zn zg (.seq (.aj (.zn zg (.block ?_))))))))))
    refine .loop (fun p:Nat=>⟨49,[],[(11,I ((p+1:Nat):Int)),(10,I (iR s q rows p)),(9,I (pa q)),(8,.slice aw (lA s q).length cw),(4,Pt b4),(3,Pt b3)]⟩)
     (fun p w=>p≤s.many∧St H2 w (.blk b5 [I q.kind,I q.st,I q.wa]:: .blk b4 [.slice ah rows.length ch]:: .blk b3 [I s.id,I s.src,.slice ast s.st.length cst,.slice awa s.wa.length cwa,I s.al,I s.up]::σ)) (fun p=>s.many - p) 0 a6
     ⟨Nat.zero_le _,hs⟩ ?_
    clear hs hO
    rintro p w ⟨hp,hs⟩
    refine .seq (.aj (.z zm (.z zm (.z (da af) (.zn fV (.bn rfl (fun hc32=>?_) (fun hc32=>?_)))))))
    ·refine .skip (nT (.seq (.block (.draw mix rfl hs fun w hs=>?_))))
     refine .zw 0 rfl zm ?_;refine .z 1 rfl zm ?_;refine .z 2 rfl zm ?_
     have hpm:p<s.many:=by omega
     have hsucc:iR s q rows (p+1)=iR s q rows p+gi (lA s q) (p+1)*hpt s (gt rows) (p+1):=rfl
     have hb0:=jL hok hq hh p ak
     have hb1:=jL hok hq hh (p+1) ak
     have hwz2:=kj (lA s q) (v:=p+1) (n:=s.many+1) ak
     have hnum:=zK (b:=p+1) hh ak
     have hprd:=jK (a:=gi (lA s q) (p+1)) (b:=hpt s (gt rows) (p+1)) (A:=3456000000000) (B:=20000) ak ak
     refine .ixX (enc:=fun x=>[I x]) (i:=3) hs rfl aH .none hW rfl rfl af ai (bJ (l:=(lA s q)) (i:=(p+1)) ak) cz ?_;intro b38 o38 hc38;replace hc38:=bL.one hc38
     refine .r (i:=4) hs rfl aH .none (aP rfl ae hc38) ?_
     refine .ys 5 rfl hs [_,_,_,_,_,_] aK aA ?_;refine .ys 6 rfl hs [_] eU dq ?_;refine .z 7 rfl zm ?_
     refine .E 8 hs ?_
     refine .call Ju rfl (gN (s:=s) (b:=p+1) hs h2 hr hh ak hmm) ?_;rintro _ w ⟨rfl,hs⟩
     refine .go (.zw 9 rfl jN ?_);refine .z 10 rfl cu ?_;refine .z 11 rfl zg ?_;refine .D hs ?_
     refine nB (nT (.region (.z zm (.z cu (.zn zg (nT ?_))))))
     exact ⟨p+1,.cP rfl bT (.cP rfl (by rw [hsucc]) a6),⟨ak,hs⟩,ak⟩
    ·refine .exit (xT (xT (xB (nT (.aj (.z zm (.z zm ?_)))))))
     obtain rfl:p=s.many:=by omega
     have hbd:=jL hok hq hh s.many ak
     have hdp:=yF q
     refine .o (.call Tryz.call119 rfl (oH hs ak ak) ?_);rintro _ w ⟨rfl,hs⟩
     refine .z zg (.zn zg (.ret (Fin.ij Tryz.results101 rfl rfl ?_)))
     exact ⟨H2,_,_,hle02,rfl,.ok hok hh hq,hs.out⟩
set_option maxHeartbeats 1000000 in
theorem wN{s:Spc}{vst vwa vx:Value}{x:List Int}(hs:St H w σ)(h1:RI H vst s.st)(h2:RI H vwa s.wa)(hx:RI H vx x)(hb1:s.st.length≤1000)(hb2:s.wa.length≤1000)(hxl:s.many+1≤x.length):
  Cl Tryz.prog 34 [.agg #[I s.id,I s.src,vst,vwa,I s.al,I s.up],vx] w fun u w'=>∃va us en ens,u= .agg #[va]∧cN 1 va us en∧uw us (tT s x s.st.length) ens∧St H w' (en::(ens++σ)):=by
 obtain ⟨ast,cst,rfl⟩:=RI.shape h1
 obtain ⟨awa,cwa,rfl⟩:=RI.shape h2
 obtain ⟨ax,cx,rfl⟩:=RI.shape hx
 refine Cl.o Tryz.func34 Tryz.ntmps34 ag2 ?_
 refine .aj (.bx hs fun b2 w hs=>?_)
 refine .o (.alloc hs Tryz.zeroValue64 rfl fun b4 w hs=>?_)
 refine .nil (.aj (.o (.alloc hs Tryz.zeroValue64 rfl fun b5 w hs=>?_)))
 refine .nil (.seq (.aj (.zn zg (.block ?_))))
 refine .loop (fun i:Nat=>⟨40,[],[(6,I (i:Int)),(1,.slice ax x.length cx),(5,Pt b5),(4,Pt b4),(2,Pt b2)]⟩)
  (fun i w=>i≤s.st.length∧∃va us en ens,cN 1 va us en∧uw us (tT s x i) ens∧St H w (.blk b5 [va]::en:: .blk b4 [.slice none 0 0]:: .blk b2 [I s.id,I s.src,.slice ast s.st.length cst,.slice awa s.wa.length cwa,I s.al,I s.up]::(ens++σ))) (fun i=>s.st.length - i) 0 a6
  ⟨Nat.zero_le _,_,[],.nul,[],.nil 1 none,.nil,hs.nul.sb⟩ ?_
 clear hs
 rintro i w ⟨hi,va,us,en,ens,hO,hR,hs⟩
 have hul:=hR.length
 rw [oC] at hul
 obtain ⟨aa,la,ca,rfl,hla⟩:=hO.shape
 refine .seq (.aj (.z zm (.z (zfa bI) (.y hs (zld an) (.z (da af) (.zn fV (.bn rfl (fun hc13=>?_) (fun hc13=>?_))))))))
 ·refine .skip (nT (.seq (.block (.aj (.zn zg (.seq (.aj (.zn zg (.block ?_)))))))))
  refine .loop (fun p:Nat×Value=>⟨40,[],[(8,I (p.1:Int)),(7,p.2),(6,I (i:Int)),(1,.slice ax x.length cx),(5,Pt b5),(4,Pt b4),(2,Pt b2)]⟩)
   (fun p w=>p.1≤s.wa.length∧∃er,cN 1 p.2 (Is (vG s x i p.1)) er∧St H w (er:: .blk b5 [.slice aa la ca]::en:: .blk b4 [.slice none 0 0]:: .blk b2 [I s.id,I s.src,.slice ast s.st.length cst,.slice awa s.wa.length cwa,I s.al,I s.up]::(ens++σ))) (fun p=>s.wa.length - p.1) (0,.slice none 0 0) a6
   ⟨Nat.zero_le _,.nul,.nil 1 none,hs.nul⟩ ?_
  clear hs
  rintro ⟨k,vr⟩ w ⟨hk,er,hOr,hs⟩
  dsimp only at hk hOr hs ⊢
  have hrl:=tC s x i k
  refine .seq (.aj (.z zm (.z (zfa a8) (.y hs (zld an) (.z (da af) (.zn fV (.bn rfl (fun hc20=>?_) (fun hc20=>?_))))))))
  ·refine .skip (nT (.seq (.block (.region (.z zm (.z zm (.y hs (zls [_,_,_,_,_,_] aK aA) (.z zm (.z zm ?_)))))))))
   have hub:=uH (s:=s) (i:=i) (k:=k) ak ak
   refine .o (.call jI rfl (df (s:=s) hs h2 ak ⟨ak,ak⟩ ⟨ak,ak⟩) ?_);rintro _ w ⟨rfl,hs⟩
   rw [show 1+(i:Int)*(s.wa.length:Int)+(k:Int)=((s.u i k:Nat):Int) by unfold Spc.u;push_cast;rfl]
   refine .ixY hs hx rfl rfl af ai (bJ (l:=x) (i:=(s.u i k)) ak) cz ?_;intro b29 o29 hc29
   refine .q hs (aP rfl ae hc29) (.o (.buildSlice (cells:=[_]) hs dc rfl rfl fun b31 w hs=>?_))
   refine .o (.append (ys:=Is [gi x (s.u i k)]) hs cV rfl rfl hOr (.own .here rfl rfl) (js _) (fun l h=>by simp at h;omega) ?_);intro v32 en32 w hO2 hs
   rw [←List.map_append,←B4] at hO2
   refine .zn zg (nB (nT (.region (.z zm (.z cu (.zn zg (nT ?_)))))))
   exact ⟨(k+1,v32),.cP rfl bT a6,⟨by dsimp only;omega,_,hO2,hs.sb⟩,by dsimp only;omega⟩
  ·refine .exit (xT (xT (xB (nT (.region (.z (zfa eo) (.y hs (zld fY) (.z zm ?_))))))))
   obtain rfl:k=s.wa.length:=by omega
   obtain ⟨ar,cr,rfl⟩:=hOr.zi
   refine .o (.buildSlice (cells:=[.slice ar (vG s x i s.wa.length).length cr]) hs qe rfl rfl fun b36 w hs=>?_)
   refine .o (.append (ys:=[.slice ar (vG s x i s.wa.length).length cr]) hs lX rfl rfl hO (.own .here rfl rfl) (by simp [Value.oneCell']) (fun l h=>by omega) fun v37 en37 w hO3 hs=>?_)
   obtain ⟨a37,l37,c37,rfl,h37⟩:=hO3.shape
   refine .z (zfa eo) (.o (.store hs rfl rfl Tryz.sizeOf62 fun w hs=>?_))
   refine .nil (nB (nT (.region (.z zm (.z cu (.zn zg (nT (⟨i+1,.cP rfl bT a6,⟨ak,_,_,en37,ens++[er],hO3,by rw [B3];exact hR.snoc hOr,?_⟩,ak⟩))))))))
   replace hs:St H w (.blk b5 [.slice a37 l37 c37]::en37:: .blk b4 [.slice none 0 0]:: .blk b2 [I s.id,I s.src,.slice ast s.st.length cst,.slice awa s.wa.length cwa,I s.al,I s.up]::er::(ens++σ)):=hs.sb
   rw [List.append_assoc]
   exact hs.perm (.cons _ (.cons _ (.cons _ (.cons _ List.perm_middle.symm))))
 ·refine .exit (xT (xT (xB (nT (.aj (.y hs (zls [_] eU dq) (.o (.aU (vs:=[_]) hs rfl rfl dq fun w hs=>?_))))))))
  refine .nil (.ret ?_)
  obtain rfl:i=s.st.length:=by omega
  exact Fin.jt [] [] hs fun w hs=>⟨_,results1 Tryz.results34 (dK (vs:=[_]) hs rfl eU dq),_,us,en,ens,rfl,hO,hR,hs.sb⟩
set_option maxHeartbeats 4000000 in
theorem pH{s:Srv}{rows:List (List Int)}{vst vwa vr vc vh:Value}(hs:St H w σ)(h1:RI H vst s.sp.st)(h2:RI H vwa s.sp.wa)(h3:RRd H vr s.rs)(h4:RCm H vc s.cs)(hh:RT H vh rows):
  Cl Tryz.prog 100 [.agg #[I s.sp.id,I s.sp.src,vst,vwa,I s.sp.al,I s.sp.up,vr,vc],.agg #[vh]] w fun u w'=>∃H1 e,HLe H H1∧u=I e∧CH s rows e∧St H1 w' σ:=by
 obtain ⟨ast,cst,rfl⟩:=RI.shape h1
 obtain ⟨awa,cwa,rfl⟩:=RI.shape h2
 obtain ⟨ar,cr,rfl⟩:=RRd.shape h3
 obtain ⟨ac,cc,rfl⟩:=RCm.shape h4
 obtain ⟨ah,ch,rfl⟩:=hh.shape
 refine Cl.o Tryz.func100 Tryz.ntmps100 ag2 ?_
 refine .aj (.bx hs fun b2 w hs=>?_)
 refine .bx hs fun b3 w hs=>?_
 refine .zn zg (.aj (.y hs (zls [_,_,_,_,_,_,_,_] aQ aC) (.o (.call Tryz.call123 rfl (nC (s:=s) hs h1 h2 h3 h4) ?_))));rintro _ w ⟨H1,e,hle1,rfl,hC,hs⟩
 refine .zn zg (.seq (.aj (.z zm (.zn hZ (.dZ rfl (fun hc17=>?_) (fun hc17=>?_))))))
 ·refine .aj (.z zm (.zn zg (.ret (rT (Fin.bq CK rfl ?_)))))
  exact ⟨H1,_,hle1,rfl,.bad hC hc17,hs.out⟩
 ·refine .skip (nT (.aj (.z (zfa bj) (.y hs (zls [_,_,_,_,_,_] aK aA) (.o (.alloc hs jc rfl fun b6 w hs=>?_))))))
  refine .o (.aU (vs:=[_,_,_,_,_,_]) hs rfl rfl aA fun w hs=>?_)
  refine .nil (.seq (.aj (.y hs (zls [_,_,_,_,_,_] aK aA) (.y hs (zls [_] eU dq) ?_))))
  have hok:fD s:=hC.dT.1 (by simpa using hc17)
  have hsm:=ez hok.early.1
  have hrl:=hok.early.2.1
  refine .o (.call Tryz.call151 rfl (mS (s:=s.sp) hs (h1.mono hle1) (h2.mono hle1) (hh.mono hle1)) ?_);rintro _ w ⟨b23,rfl,hb23,hs⟩
  refine .zn fI (.cond rfl (fun hc24=>?_) (fun hc24=>?_))
  ·refine .aj (.zn zg (.ret (rT (Fin.bq CK rfl ?_))))
   exact ⟨H1,_,hle1,rfl,.hull hok (fun h=>by rw [hb23.2 h] at hc24;cases hc24),hs.out⟩
  ·refine .skip (nT (.aj (.y hs (zls [_,_,_,_,_,_,_,_] aQ aC) ?_)))
   have hhull:jM s.sp rows:=hb23.1 (by simpa using hc24)
   have hll:=hok.cO
   have hmm:s.sp.many≤64:=by have:=hok.many;omega
   refine .o (.call Tryz.call152 rfl (kM (s:=s) hs (h1.mono hle1) (h2.mono hle1) (h3.mono hle1) (h4.mono hle1) hok.early) ?_);rintro v26 w ⟨H2,en,hle2,hO,hs⟩
   obtain ⟨H3,hle3,hL,hs⟩:=cN.cQ (m:=4) (cs:=s.cO.map Lim.c) hO (fun c hc=>by simp only [List.mem_map] at hc;obtain ⟨x,_,rfl⟩:=hc;rfl) ak (by rw [List.length_map];omega) hs .here
   replace hL:RL H3 v26 s.cO:=hL
   obtain ⟨al,cl,rfl⟩:=RL.shape hL
   have hle03:=hle1.trans (hle2.trans hle3)
   replace h1:=h1.mono hle03
   replace h2:=h2.mono hle03
   replace h3:=h3.mono hle03
   replace h4:=h4.mono hle03
   replace hh:=hh.mono hle03
   have hbd:=fun b hb=>zK (b:=b) hhull hb
   have hlim:=fun l hl=>hok.sys.lim l hl
   refine .zn zg (.aj (.y hs (zls [_,_,_,_,_,_] aK aA) (.o (.call tx rfl (dX (s:=s.sp) hs h1 h2 ⟨ak,ak⟩) ?_))));rintro _ w ⟨rfl,hs⟩
   refine .zn zg (.seq (.aj (.zn zg (.block ?_))))
   refine .loop (fun k:Nat=>⟨112,[],[(9,I (k:Int)),(8,I (s.sp.many:Int)),(7,.slice al s.cO.length cl),(6,Pt b6),(3,Pt b3),(2,Pt b2)]⟩)
    (fun k w=>k≤s.cO.length∧(∀l∈s.cO.take k,l.A.toNat≤s.sp.many→l.B.toNat≤s.sp.many→hpt s.sp (gt rows) l.B.toNat≤hpt s.sp (gt rows) l.A.toNat+l.M)∧St H3 w (.blk b6 [I s.sp.id,I s.sp.src,.slice ast s.sp.st.length cst,.slice awa s.sp.wa.length cwa,I s.sp.al,I s.sp.up]:: .blk b3 [.slice ah rows.length ch]:: .blk b2 [I s.sp.id,I s.sp.src,.slice ast s.sp.st.length cst,.slice awa s.sp.wa.length cwa,I s.sp.al,I s.sp.up,.slice ar s.rs.length cr,.slice ac s.cs.length cc]::σ)) (fun k=>s.cO.length - k) 0 a6
    ⟨Nat.zero_le _,bT,hs⟩ ?_
   clear hs hO
   rintro k w ⟨hk,hin,hs⟩
   refine .seq (.aj (.z zm (.z zm (.z (da aJ) (.zn fV (.bn rfl (fun hc32=>?_) (fun hc32=>?_)))))))
   ·refine .skip (nT (.seq (.block (.seq (.draw mix rfl hs fun w hs=>?_)))))
    refine .ys 0 rfl hs [_,_,_,_,_,_] aK aA ?_;refine .ys 1 rfl hs [_] eU dq ?_;refine .z 2 rfl zm ?_;refine .z 3 rfl zm ?_
    obtain ⟨l,hx⟩:=nth (l:=s.cO) (k:=k) ak
    have hlm:=List.mem_of_getElem? hx
    obtain ⟨⟨gA,gB⟩,hsd⟩:=ky hok.early hlm
    refine .ixX (enc:=Lim.c) (i:=4) hs rfl aH .none hL rfl rfl aJ bg hx cz ?_;intro b39 o39 hc39
    refine .r (i:=5) hs rfl aH .none (bQ (vs:=l.c) rfl fw bg hc39) ?_
    refine .E 6 hs ?_
    refine .call Tryz.call153 rfl (vM (s:=s.sp) (l:=l) hs h1 h2 hh hok.early.1 hhull gA gB) ?_;rintro _ w ⟨b41,rfl,hb41,hs⟩
    refine .go (.zw 7 rfl fI ?_);refine .D hs ?_
    refine (.cond rfl (fun hc42=>?_) (fun hc42=>?_))
    ·refine .aj (.zn zg (.ret (rB (rT (rT (rB (rT (Fin.bq CK rfl ?_))))))))
     exact ⟨H3,_,hle03,rfl,.no hok hhull (fun h=>by
      rw [hb41.2 (((rJ hok.early).1 h).1 l hlm)] at hc42;cases hc42),hs.out⟩
    ·refine .skip (nB (nT (.region (.z zm (.z cu (.zn zg (nT ?_)))))))
     exact ⟨k+1,.cP rfl bT a6,⟨ak,fun y hy=>by
      rw [dj hx] at hy
      simp only [List.mem_append,List.mem_singleton] at hy
      rcases hy with hy|rfl
      ·exact hin y hy
      ·exact hb41.1 (by simpa using hc42),hs⟩,ak⟩
   ·refine .exit (xT (xT (xB (nT (.seq (.aj (.zn zg (.block ?_))))))))
    obtain rfl:k=s.cO.length:=by omega
    rw [List.take_length] at hin
    have hInner:Cu s (hpt s.sp (gt rows)):=hin
    refine .loop (fun j:Nat=>⟨112,[],[(10,I (j:Int)),(8,I (s.sp.many:Int)),(7,.slice al s.cO.length cl),(6,Pt b6),(3,Pt b3),(2,Pt b2)]⟩)
     (fun j w=>j≤s.cI.length∧(∀i<j,tE (hpt s.sp (gt rows)) (s.sp.many+1+i:Nat) s.cO≤oS (hpt s.sp (gt rows)) (s.sp.many+1+i:Nat) s.cO)∧St H3 w (.blk b6 [I s.sp.id,I s.sp.src,.slice ast s.sp.st.length cst,.slice awa s.sp.wa.length cwa,I s.sp.al,I s.sp.up]:: .blk b3 [.slice ah rows.length ch]:: .blk b2 [I s.sp.id,I s.sp.src,.slice ast s.sp.st.length cst,.slice awa s.sp.wa.length cwa,I s.sp.al,I s.sp.up,.slice ar s.rs.length cr,.slice ac s.cs.length cc]::σ)) (fun j=>s.cI.length - j) 0 a6
     ⟨Nat.zero_le _,fun i hi=>by omega,hs⟩ ?_
    clear hs hin
    rintro j w ⟨hj,hlow,hs⟩
    refine .seq (.aj (.z zm (.z (zfa aO) (.y hs (zld bG) (.o (.call y9 rfl (oE hs h3 ak) ?_))))));rintro v46 w ⟨en46,hO46,hs⟩
    replace hO46:cN 2 v46 (tdc s.cI).flatten en46:=hO46
    obtain ⟨a46,c46,rfl⟩:=hO46.je (pD _) ak
    rw [eK]
    have htl:=hok.many
    refine .z (da bD) (.zn fV (.bn rfl (fun hc48=>?_) (fun hc48=>?_)))
    ·refine .skip (nT (.seq (.block (.aj (.zn zg (.aj (.zn zg (.seq (.aj (.zn zg (.block ?_)))))))))))
     refine .loop (fun p:Nat×Int×Int=>⟨112,[],[(13,I (p.1:Int)),(12,I p.2.2),(11,I p.2.1),(10,I (j:Int)),(8,I (s.sp.many:Int)),(7,.slice al s.cO.length cl),(6,Pt b6),(3,Pt b3),(2,Pt b2)]⟩)
      (fun p w=>p.1≤s.cO.length∧p.2.1=tE (hpt s.sp (gt rows)) (s.sp.many+1+j:Nat) (s.cO.take p.1)∧p.2.2=oS (hpt s.sp (gt rows)) (s.sp.many+1+j:Nat) (s.cO.take p.1)∧St H3 w (.blk b6 [I s.sp.id,I s.sp.src,.slice ast s.sp.st.length cst,.slice awa s.sp.wa.length cwa,I s.sp.al,I s.sp.up]:: .blk b3 [.slice ah rows.length ch]:: .blk b2 [I s.sp.id,I s.sp.src,.slice ast s.sp.st.length cst,.slice awa s.sp.wa.length cwa,I s.sp.al,I s.sp.up,.slice ar s.rs.length cr,.slice ac s.cs.length cc]::σ)) (fun p=>s.cO.length - p.1) (0,-1000,1000) a6
      ⟨Nat.zero_le _,rfl,rfl,hs.sb⟩ ?_
     clear hs hO46
     rintro ⟨k,lo,hi⟩ w ⟨hk,hlo0,hhi0,hs⟩
     dsimp only at hk hlo0 hhi0 hs ⊢
     subst hlo0;subst hhi0
     refine .seq (.aj (.z zm (.z zm (.z (da aJ) (.zn fV (.bn rfl (fun hc54=>?_) (fun hc54=>?_)))))))
     ·refine .skip (nT (.seq (.block (.cut (fun fs w=>∃hi',lF fs ⟨112,[],[(13,I (k:Int)),(12,I hi'),(11,I (tE (hpt s.sp (gt rows)) (s.sp.many+1+j:Nat) (s.cO.take k))),(10,I (j:Int)),(8,I (s.sp.many:Int)),(7,.slice al s.cO.length cl),(6,Pt b6),(3,Pt b3),(2,Pt b2)]⟩∧hi'=oS (hpt s.sp (gt rows)) (s.sp.many+1+j:Nat) (s.cO.take (k+1))∧St H3 w (.blk b6 [I s.sp.id,I s.sp.src,.slice ast s.sp.st.length cst,.slice awa s.sp.wa.length cwa,I s.sp.al,I s.sp.up]:: .blk b3 [.slice ah rows.length ch]:: .blk b2 [I s.sp.id,I s.sp.src,.slice ast s.sp.st.length cst,.slice awa s.sp.wa.length cwa,I s.sp.al,I s.sp.up,.slice ar s.rs.length cr,.slice ac s.cs.length cc]::σ)) ?_ ?_))))
      ·refine .aj (.z zm (.z zm ?_))
       obtain ⟨l,hx⟩:=nth (l:=s.cO) (k:=k) ak
       have hlm:=List.mem_of_getElem? hx
       obtain ⟨⟨gA,gB⟩,hsd⟩:=ky hok.early hlm
       have hM:=(hlim l hlm).2.2.2.1
       obtain ⟨eA,hA⟩:∃a:Nat,l.A=a:=⟨_,(Int.toNat_of_nonneg gA).symm⟩
       obtain ⟨eB,hB⟩:∃b:Nat,l.B=b:=⟨_,(Int.toNat_of_nonneg gB).symm⟩
       have hA1:l.A.toNat=eA:=by rw [hA,Int.toNat_natCast]
       have hB1:l.B.toNat=eB:=by rw [hB,Int.toNat_natCast]
       rw [hA1,hB1] at hsd
       refine .ixX (enc:=Lim.c) hs hL rfl rfl aJ bg hx cz ?_;intro b59 o59 hc59
       refine .z (zfa dH) (.q hs (aP rfl ae (hc59.get 1 rfl)) (.z zm (.z cu (.z zm (.z cu (.zn fF (.bn rfl (fun hc66=>?_) (fun hc66=>?_))))))))
       ·refine .draw mix rfl hs fun w hs=>?_
        refine .zw 0 rfl zm ?_;refine .ys 1 rfl hs [_,_,_,_,_,_] aK aA ?_;refine .ys 2 rfl hs [_] eU dq ?_;refine .z 3 rfl zm ?_;refine .z 4 rfl zm ?_
        refine .ixX (enc:=Lim.c) (i:=5) hs rfl aH .none hL rfl rfl aJ bg hx cz ?_;intro b72 o72 hc72
        have q72:=hc72.get 0 rfl
        refine .zw 6 rfl (zfa dA) ?_;refine .y 7 rfl hs ae ?_;refine .z 9 rfl zm ?_;refine .z 10 rfl zm ?_
        refine .ixX (enc:=Lim.c) (i:=11) hs rfl aH .none hL rfl rfl aJ bg hx cz ?_;intro b78 o78 hc78
        have q78:=hc78.get 2 rfl
        refine .zw 12 rfl (zfa eG) ?_;refine .y 13 rfl hs ae ?_
        refine .E 8 hs ?_
        have hbA:=hbd eA ak
        rw [hA]
        refine .call Ju rfl (gN (s:=s.sp) (b:=eA) hs h2 hh hhull ak ak) ?_;rintro _ w ⟨rfl,hs⟩
        refine .go (.zw 14 rfl cu ?_);refine .z 15 rfl Al ?_;refine .z 16 rfl zg ?_;refine .D hs ?_
        refine nT ?_
        exact ⟨_,a6,by rw [dj hx,ta,if_pos ak,hA1],hs⟩
       ·refine .skip (nT ?_)
        exact ⟨_,a6,by rw [dj hx,ta,if_neg ak],hs⟩
      ·clear hs
       rintro fs w ⟨hi',hfs,hhi,hs⟩
       refine WE.sub ?_ hfs
       clear hfs
       obtain ⟨l,hx⟩:=nth (l:=s.cO) (k:=k) ak
       have hlm:=List.mem_of_getElem? hx
       obtain ⟨⟨gA,gB⟩,hsd⟩:=ky hok.early hlm
       have hM:=(hlim l hlm).2.2.2.1
       obtain ⟨eA,hA⟩:∃a:Nat,l.A=a:=⟨_,(Int.toNat_of_nonneg gA).symm⟩
       obtain ⟨eB,hB⟩:∃b:Nat,l.B=b:=⟨_,(Int.toNat_of_nonneg gB).symm⟩
       have hA1:l.A.toNat=eA:=by rw [hA,Int.toNat_natCast]
       have hB1:l.B.toNat=eB:=by rw [hB,Int.toNat_natCast]
       rw [hA1,hB1] at hsd
       refine .aj (.z zm (.z zm (.ixX (enc:=Lim.c) hs hL rfl rfl aJ bg hx cz ?_)));intro b85 o85 hc85
       refine .z (zfa dA) (.q hs (aP rfl ae (hc85.get 0 rfl)) (.z zm (.z cu (.z zm (.z cu (.zn fF (.bn rfl (fun hc92=>?_) (fun hc92=>?_))))))))
       ·refine .draw mix rfl hs fun w hs=>?_
        refine .zw 0 rfl zm ?_;refine .ys 1 rfl hs [_,_,_,_,_,_] aK aA ?_;refine .ys 2 rfl hs [_] eU dq ?_;refine .z 3 rfl zm ?_;refine .z 4 rfl zm ?_
        refine .ixX (enc:=Lim.c) (i:=5) hs rfl aH .none hL rfl rfl aJ bg hx cz ?_;intro b98 o98 hc98
        have q98:=hc98.get 1 rfl
        refine .zw 6 rfl (zfa dH) ?_;refine .y 7 rfl hs ae ?_;refine .z 9 rfl zm ?_;refine .z 10 rfl zm ?_
        refine .ixX (enc:=Lim.c) (i:=11) hs rfl aH .none hL rfl rfl aJ bg hx cz ?_;intro b104 o104 hc104
        have q104:=hc104.get 2 rfl
        refine .zw 12 rfl (zfa eG) ?_;refine .y 13 rfl hs ae ?_
        refine .E 8 hs ?_
        have hbB:=hbd eB ak
        rw [hB]
        refine .call Ju rfl (gN (s:=s.sp) (b:=eB) hs h2 hh hhull ak ak) ?_;rintro _ w ⟨rfl,hs⟩
        refine .go (.zw 14 rfl fM ?_);refine .z 15 rfl Bb ?_;refine .z 16 rfl zg ?_;refine .D hs ?_
        refine nB (nT (.region (.z zm (.z cu (.zn zg (nT ?_))))))
        exact ⟨(k+1,_,hi'),.cP rfl bT a6,⟨by dsimp only;omega,by dsimp only;rw [dj hx,oP,if_pos ak,hB1],hhi,hs⟩,by dsimp only;omega⟩
       ·refine .skip (nB (nT (.region (.z zm (.z cu (.zn zg (nT ?_)))))))
        exact ⟨(k+1,tE (hpt s.sp (gt rows)) (s.sp.many+1+j:Nat) (s.cO.take k),hi'),.cP rfl bT a6,⟨by dsimp only;omega,by dsimp only;rw [dj hx,oP,if_neg ak],hhi,hs⟩,by dsimp only;omega⟩
     ·refine .exit (xT (xT (xB (nT (.aj (.z zm (.z zm (.zn k7 (.bn rfl (fun hc111=>?_) (fun hc111=>?_))))))))))
      ·refine .aj (.zn zg (.ret (rB (rT (rT (rB (rT (Fin.bq CK rfl ?_))))))))
       obtain rfl:k=s.cO.length:=by omega
       rw [List.take_length] at hc111
       exact ⟨H3,_,hle03,rfl,.no hok hhull (fun h=>by
        have:=((rJ hok.early).1 h).2 j ak
        omega),hs.out⟩
      ·refine .skip (nB (nT (.region (.z zm (.z cu (.zn zg (nT ?_)))))))
       obtain rfl:k=s.cO.length:=by omega
       rw [List.take_length] at hc111
       exact ⟨j+1,.cP rfl bT a6,⟨ak,fun i hi=>by
        by_cases e:i=j
        ·subst e;exact Int.not_lt.1 hc111
        ·exact hlow i ak,hs⟩,ak⟩
    ·refine .exit (xT (xT (xB (nT (.aj (.zn zg (.ret (Fin.bq CK rfl ?_))))))))
     exact ⟨H3,_,hle03,rfl,.ok hok hhull ((rJ hok.early).2 ⟨hInner,fun i hi=>hlow i ak⟩),hs.out⟩
set_option maxHeartbeats 4000000 in
theorem nY{s:Srv}{rows:List (List Int)}{vst vwa vr vc vh:Value}(hs:St H w σ)(h1:RI H vst s.sp.st)(h2:RI H vwa s.sp.wa)(h3:RRd H vr s.rs)(h4:RCm H vc s.cs)(hh:RT H vh rows):
  Cl Tryz.prog 65 [.agg #[I s.sp.id,I s.sp.src,vst,vwa,I s.sp.al,I s.sp.up,vr,vc],.agg #[vh]] w fun u w'=>∃H1 e,HLe H H1∧u=I e∧CH s rows e∧St H1 w' σ:=by
 obtain ⟨ast,cst,rfl⟩:=RI.shape h1
 obtain ⟨awa,cwa,rfl⟩:=RI.shape h2
 obtain ⟨ar,cr,rfl⟩:=RRd.shape h3
 obtain ⟨ac,cc,rfl⟩:=RCm.shape h4
 obtain ⟨ah,ch,rfl⟩:=hh.shape
 refine Cl.o Tryz.func65 Tryz.ntmps65 ag2 ?_
 refine .aj (.bx hs fun b2 w hs=>?_)
 refine .bx hs fun b3 w hs=>?_
 refine .zn zg (.seq (.aj (.y hs (zls [_,_,_,_,_,_,_,_] aQ aC) (.o (.call Jw rfl (gu (s:=s) hs h1 h2 h3 h4) ?_)))));rintro _ w ⟨H1,e,hle1,rfl,hC,hs⟩
 refine .zn zg (.aj (.z zm (.zn hZ (.dZ rfl (fun hc16=>?_) (fun hc16=>?_)))))
 ·refine .aj (.z zm (.zn zg (.ret (rT (?_)))))
  exact Fin.bq Tryz.results65 rfl ⟨H1,_,hle1,rfl,.bad hC hc16,hs.out⟩
 ·refine .skip (nT (.seq (.aj (.z (zfa bj) (.y hs (zls [_,_,_,_,_,_] aK aA) (.y hs (zls [_] eU dq) ?_))))))
  have hok:fD s:=hC.dT.1 (by simpa using hc16)
  have hsm:=ez hok.early.1
  have hrl:=hok.early.2.1
  refine .o (.call Tryz.call129 rfl (lO (s:=s.sp) hs (h1.mono hle1) (h2.mono hle1) (hh.mono hle1)) ?_);rintro _ w ⟨H2,b21,hle2,rfl,hb21,hs⟩
  have hle02:=hle1.trans hle2
  refine .zn fI (.cond rfl (fun hc22=>?_) (fun hc22=>?_))
  ·refine .aj (.zn zg (.ret (rT (?_))))
   exact Fin.bq Tryz.results65 rfl ⟨H2,_,hle02,rfl,.hull hok (fun h=>by rw [hb21.2 h] at hc22;cases hc22),hs.out⟩
  ·refine .skip (nT (.aj (.y hs (zls [_,_,_,_,_,_,_,_] aQ aC) ?_)))
   have hhull:jM s.sp rows:=hb21.1 (by simpa using hc22)
   have hll:=hok.cO
   have hmm:=hok.many
   refine .o (.call Jv rfl (fN (s:=s) hs (h1.mono hle02) (h2.mono hle02) (h3.mono hle02) (h4.mono hle02) hok.early) ?_);rintro _ w ⟨H3,hle3,⟨ul,rfl,hL⟩,hs⟩
   obtain ⟨al,cl,rfl⟩:=RL.shape hL
   have hle03:=hle02.trans hle3
   have hbd:=fun b hb=>zK (b:=b) hhull hb
   have hlim:=fun l hl=>hok.sys.lim l hl
   refine .o (.alloc hs eE rfl fun b6 w hs=>?_)
   refine .o (.aU (vs:=[_,_]) hs rfl rfl aV fun w hs=>?_)
   refine .nil (.aj (.o (.buildSlice (cells:=[_]) hs dc rfl rfl fun b25 w hs=>?_)))
   refine .o (.alloc hs ep rfl fun b7 w hs=>?_)
   refine .o (.store hs rfl rfl aB fun w hs=>?_)
   refine .nil (.seq (.aj (.z (zfa bj) (.y hs (zls [_,_,_,_,_,_] aK aA) (.o (.call CB rfl (fZ (s:=s.sp) hs (h1.mono hle03) (h2.mono hle03) ⟨ak,ak⟩) ?_))))));rintro _ w ⟨H4,ba,hle4,rfl,hit,hs⟩
   have hle04:=hle03.trans hle4
   refine .nil (.block ?_)
   refine .rangeFunc (gf:=188) (cap:=[Pt ba]) (xs:=xF s.sp) (σb:=[.blk b7 [.slice (some ⟨b25,0,none⟩) 1 1],.blk b25 (Is [0]),.blk b6 [I s.sys.many,.slice al s.cO.length cl],.blk b3 [.slice ah rows.length ch]]) (σf:=σ) (hs.sb) trivial rfl hit CA (fun x hx=>by
     simp only [xF,List.mem_map] at hx
     obtain ⟨j,_,rfl⟩:=hx;rfl) rfl
    (I:=fun p H' σb=>∃vo en,σb=[.blk b7 [vo],en,.blk b6 [I s.sys.many,.slice al s.cO.length cl],.blk b3 [.slice ah rows.length ch]]∧cN 1 vo (Is (xl1 s (gt rows) (p+1))) en) (Ix:=fun _ _ _=>False)
    (fun j _ _ σ g1 g2=>g2) (fun _ _ _ _ _ h=>h) ⟨_,_,rfl,.full rfl⟩ ?_ ?_ (fun D c H' σb w _ h _=>h.elim)
   ·rintro ly p hp H5 σb2 σf2 w hle5 ⟨vo,en,rfl,hO⟩ hs ⟨rr,hrr⟩
    have hpm:p<s.sp.many:=by rw [eJ] at hp;exact hp
    have hin:p/s.sp.wa.length<s.sp.st.length:=Nat.div_lt_of_lt_mul (by rw [Nat.mul_comm];exact hpm)
    have hkm:=Nat.mod_lt p hsm.2.2.1
    have hval:hpt s.sp (gt rows) (p+1)=gi (gr rows (p/s.sp.wa.length)) (p%s.sp.wa.length):=rfl
    have hrow:=hhull.row _ hin
    have hrlen:=hhull.len
    have hr5:=hh.mono (hle04.trans hle5)
    rw [nt hp]
    obtain ⟨ao,lo,co,rfl,hlo⟩:=hO.shape
    have hxl:=mL s (gt rows) (p+1)
    generalize p/s.sp.wa.length=i at*
    generalize p%s.sp.wa.length=k at*
    refine .region (.o (.alloc hs lG rfl fun b8 w hs=>?_))
    refine .o (.aU (vs:=[_,_,_]) hs rfl rfl pZ fun w hs=>?_)
    refine .nil (nT (⟨H5,[.blk b8 [I (i:Int),I (k:Int),I ((p+1:Nat):Int)],.blk b7 [.slice ao lo co],en,.blk b6 [I s.sys.many,.slice al s.cO.length cl],.blk b3 [.slice ah rows.length ch]],HLe.refl _,hs,?_⟩));rintro w σf4 - hs
    refine .block (.draw mix rfl hs fun w hs=>?_)
    refine .y 0 rfl hs an ?_;refine .z 1 rfl (zfa eo) ?_;refine .y 2 rfl hs fY ?_;refine .z 3 rfl (zfa dE) ?_;refine .y 4 rfl hs ae ?_
    refine .ixT (i:=5) hs rfl aH .none hr5 rfl rfl az aB (show i<_ by omega) cz ?_;intro b35 o35 a35 c35 hc35 hR35
    refine .r (i:=6) hs rfl aH .none (aP rfl an hc35) ?_
    refine .zw 7 rfl (zfa dn) ?_;refine .y 8 rfl hs ae ?_
    refine .ixX (enc:=fun x=>[I x]) (i:=9) hs rfl aH .none hR35 rfl rfl af ai (bJ (l:=(gr rows i)) (i:=k) ak) cz ?_;intro b39 o39 hc39;replace hc39:=bL.one hc39
    refine .r (i:=10) hs rfl aH .none (aP rfl ae hc39) ?_
    refine .E 11 hs ?_
    refine .buildSlice (cells:=[_]) hs dc rfl rfl ?_;intro b41 w hs
    refine .go (.E 12 hs ?_)
    refine .append (ys:=Is [gi (gr rows i) k]) hs cV rfl rfl hO (.own (c:=Is [gi (gr rows i) k]) (by first|exact .here|exact .there .here) rfl rfl) (js _) (fun l h=>by simp at h;omega) ?_;intro v42 en42 w hO2 hs
    rw [←List.map_append,←hval,←Ey] at hO2
    obtain ⟨a42,l42,c42,rfl,h42⟩:=hO2.shape
    refine .go (.E 13 hs ?_)
    refine .store hs rfl rfl aB ?_;intro w hs
    refine .go (.D hs (nB ?_))
    exact ⟨H5,[.blk b7 [.slice a42 l42 c42],en42,.blk b6 [I s.sys.many,.slice al s.cO.length cl],.blk b3 [.slice ah rows.length ch]],HLe.refl _,(hs.sb:St H5 w (.blk b7 _::en42:: .blk b6 _:: .blk b3 _::σf4)),_,_,rfl,hO2⟩
   ·rintro D H5 σb2 w hle5 ⟨vo,en,rfl,hO⟩ hs
    rw [eJ] at hO
    replace hs:St H5 w (.obj D (.deferred (some [])):: .blk b7 [vo]::en:: .blk b6 [I s.sys.many,.slice al s.cO.length cl]:: .blk b3 [.slice ah rows.length ch]::σ):=hs
    obtain ⟨ao,lo,co,rfl,hlo⟩:=hO.shape
    have hxl:=mL s (gt rows) (s.sp.many+1)
    have hlo':lo=s.sp.many+1:=by simp [Is] at hlo;omega
    subst hlo'
    have hL5:=hL.mono (hle4.trans hle5)
    have hleF:=hle04.trans hle5
    refine nB (nT (.seq (.aj (.y hs (zld an) (.z (da af) (.zn zg (.block ?_)))))))
    refine .loop (fun j:Nat=>⟨81,marks [D],[(9,I ((s.sp.many+1+j:Nat):Int)),(7,Pt b7),(6,Pt b6)]⟩)
     (fun j w=>j≤s.cI.length∧∃ax cx en,cN 1 (.slice ax (s.sp.many+1+j) cx) (Is (xl1 s (gt rows) (s.sp.many+1)++xl2 s (gt rows) j)) en∧St H5 w (.obj D (.deferred (some [])):: .blk b7 [.slice ax (s.sp.many+1+j) cx]::en:: .blk b6 [I s.sys.many,.slice al s.cO.length cl]::σ)) (fun j=>s.cI.length - j) 0 a6
     ⟨Nat.zero_le _,_,_,_,by show cN 1 _ (Is (_++[])) _;rw [List.append_nil];exact hO,hs.sb⟩ ?_
    clear hs hO
    rintro j w ⟨hj,ax,cx,en,hO,hs⟩
    have hsys:s.sys.many=((s.sp.many+s.cI.length:Nat):Int):=rfl
    have hx2:=xc s (gt rows) j
    have hxall:(xl1 s (gt rows) (s.sp.many+1)++xl2 s (gt rows) j).length=s.sp.many+1+j:=by rw [List.length_append,hxl,hx2]
    refine .seq (.aj (.z zm (.z (zfa cM) (.y hs (zld ae) (.zn nb (.bn rfl (fun hc48=>?_) (fun hc48=>?_)))))))
    ·refine .skip (nT (.seq (.block (.aj (.zn zg (.seq (.aj (.z (zfa cA) (.y hs (zld dr) (.z (da aJ) (.zn zm (.for (N:=s.cO.length) (J:=fun k fr w=>fr=[(10,I (tE (hpt s.sp (gt rows)) (s.sp.many+1+j:Nat) (s.cO.take k))),(52,.slice al s.cO.length cl),(9,I ((s.sp.many+1+j:Nat):Int)),(7,Pt b7),(6,Pt b6)]∧St H5 w (.obj D (.deferred (some [])):: .blk b7 [.slice ax (s.sp.many+1+j) cx]::en:: .blk b6 [I s.sys.many,.slice al s.cO.length cl]::σ)) ak ?_ ?_ ?_))))))))))))
     ·exact .mk ⟨rfl,hs⟩
     ·rintro k fr w hk ⟨rfl,hs⟩
      obtain ⟨l,hx⟩:=nth (l:=s.cO) hk
      have hlm:=List.mem_of_getElem? hx
      obtain ⟨⟨gA,gB⟩,hsd⟩:=ky hok.early hlm
      have hM:=(hlim l hlm).2.2.2.1
      obtain ⟨eB,hB⟩:∃b:Nat,l.B=b:=⟨_,(Int.toNat_of_nonneg gB).symm⟩
      have hB1:l.B.toNat=eB:=by rw [hB,Int.toNat_natCast]
      rw [hB1] at hsd
      have hbl:=AL (hpt s.sp (gt rows)) (s.sp.many+1+j:Nat) (s.cO.take k)
      refine .block (.aj (.ixX (enc:=Lim.c) hs hL5 rfl rfl aJ bg hx rfl ?_));intro b56 o56 hc56
      refine .q hs (bQ (vs:=l.c) rfl fw bg hc56) (.o (.alloc hs eD rfl fun b12 w hs=>?_))
      refine .o (.aU (vs:=l.c) hs rfl rfl bg fun w hs=>?_)
      refine .nil (.aj (.z (zfa dA) (.y hs (zld ae) (.z zm (.zn fF (.bn rfl (fun hc61=>?_) (fun hc61=>?_)))))))
      ·refine .draw mix rfl hs fun w hs=>?_
       have hbB:=hbd eB ak
       obtain ⟨bo,co',sp,hv,rfl,hcap⟩:=hO.blk (by rw [hxall];omega)
       simp only [Value.slice.injEq] at hv
       obtain ⟨rfl,-,rfl⟩:=hv
       have hgx:gi (xl1 s (gt rows) (s.sp.many+1)++xl2 s (gt rows) j) eB=hpt s.sp (gt rows) eB:=xK s _ _ ak
       refine .zw 0 rfl zm ?_;refine .y 1 rfl hs an ?_;refine .z 2 rfl (zfa dH) ?_;refine .y 3 rfl hs ae ?_
       rw [hB]
       refine .zw 4 rfl (zix (j:=eB) af ai) (.load (i:=5) hs rfl aH .none rfl ae ?_ (hv:=gy ak sp))
       rw [hgx]
       refine .zw 6 rfl (zfa eG) ?_;refine .y 7 rfl hs ae ?_;refine .z 8 rfl fM ?_;refine .z 9 rfl Bb ?_;refine .z 10 rfl zg ?_;refine .D hs ?_
       refine nB (nT ?_)
       exact .mk ⟨by rw [dj hx,oP,if_pos ak,hB1],hs.sb⟩
      ·refine .skip (nB (nT ?_))
       exact .mk ⟨by rw [dj hx,oP,if_neg ak],hs.sb⟩
     ·rintro fr w ⟨rfl,hs⟩
      rw [List.take_length]
      refine nT (.region (.y hs (zld an) (.z zm (.o (.buildSlice (cells:=[_]) hs dc rfl rfl fun b75 w hs=>?_)))))
      refine .o (.append (ys:=Is [tE (hpt s.sp (gt rows)) (s.sp.many+1+j:Nat) s.cO]) hs cV rfl rfl hO (.own .here rfl rfl) (js _) (fun l h=>by simp only [Is,List.length_map,hxall] at h;omega) ?_);intro v76 en76 w hO2 hs
      rw [←List.map_append,List.append_assoc,←Ex] at hO2
      obtain ⟨a76,c76,rfl⟩:=hO2.zi
      have hx3:(xl1 s (gt rows) (s.sp.many+1)++xl2 s (gt rows) (j+1)).length=s.sp.many+1+(j+1):=by rw [List.length_append,hxl,xc]
      rw [hx3] at hO2 ⊢
      refine .o (.store hs rfl rfl aB fun w hs=>?_)
      refine .nil (nB (nT (.region (.z zm (.z cu (.zn zg (nT ?_)))))))
      exact ⟨j+1,.cP rfl (by simp;omega) a6,⟨ak,_,_,_,hO2,hs.sb⟩,ak⟩
    ·refine .exit (xT (xT (xB (nT (.seq (.aj (.y hs (zls [_,_] bM aV) (.y hs (zld an) ?_))))))))
     obtain rfl:j=s.cI.length:=by omega
     obtain ⟨H6,hle6,hX,hs⟩:=cN.dM hO (by rw [hxall];omega) hs dz
     refine .o (.call Tryz.call134 rfl (pc (s:=s.sys) hs ⟨_,rfl,hL5.mono hle6⟩ hX) ?_);rintro _ w ⟨e79,rfl,hP,hs⟩
     have hn:=xZ s
     have hkeep:Eh s.sys (xl1 s (gt rows) (s.sp.many+1)++xl2 s (gt rows) s.cI.length)↔∃f,Kp s (gt rows) f:=by
      rw [←Ew hok]
      refine ⟨fun h=>h.AU,fun h=>⟨by rw [hxall,hn];omega,by rw [xK s _ _ ak];rfl,fun b hb=>?_,h⟩⟩
      rw [hn] at hb
      by_cases e:b<s.sp.many+1
      ·rw [xK s _ _ e]
       have:=hbd b ak
       omega
      ·rw [show b=s.sp.many+1+(b - (s.sp.many+1)) by omega,Bc s _ ak]
       have g1:=AL (hpt s.sp (gt rows)) (s.sp.many+1+(b - (s.sp.many+1)):Nat) s.cO
       have g2:=Fl hok hhull (b - (s.sp.many+1))
       omega
     refine .zn hZ (.dZ rfl (fun hc80=>?_) (fun hc80=>?_))
     ·refine .aj (.zn zg (.ret (rT ((Fin.jt [D] [] hs fun w hs=>⟨_,results1 Tryz.results65 rfl,H6,_,hleF.trans hle6,rfl,.no hok hhull (fun h=>hc80 ?_),hs.out⟩)))))
      cases hP with
      |bad h=>exact (h (s.sys.dT.2 hok.sys)).elim
      |off _ h1=>exact (h1 (hkeep.2 h)).elim
      |ok=>rfl
     ·refine .skip (nT (.aj (.zn zg (.ret (Fin.jt [D] [] hs fun w hs=>⟨_,results1 Tryz.results65 rfl,H6,_,hleF.trans hle6,rfl,.ok hok hhull (hkeep.1 ?_),hs.out⟩)))))
      cases hP with
      |bad h=>exact (h (s.sys.dT.2 hok.sys)).elim
      |off _ h1=>omega
      |ok _ h1=>exact h1
theorem wO{vs v5 v4 vp:Value}{sl pk:List Int}{fs5:List F5}{fs4:List F4}{z1 z2 z3:Int}(hs:St H w σ)(g1:RI H vs sl)(g2:RF5 H v5 fs5)(g3:RF4 H v4 fs4)(g4:RI H vp pk):
  Cl Tryz.prog 31 [.agg #[vs,v5,v4,vp,I z1,I z2,I z3]] w fun u w'=>∃H1 s y vst vwa vr vc vy,HLe H H1∧u= .tuple #[.agg #[I s.sp.id,I s.sp.src,vst,vwa,I s.sp.al,I s.sp.up,vr,vc],vy]∧ID s∧xJ s y∧RI H1 vst s.sp.st∧RI H1 vwa s.sp.wa∧RRd H1 vr s.rs∧RCm H1 vc s.cs∧RI H1 vy y∧St H1 w' σ:=by
 refine (qa hs g1 g2 g3 g4).mono ?_
 rintro _ w ⟨H3,m,y,ust,uwa,ur,uc,uy,e1,e2,e3,e4,e5,hle3,rfl,hM,hOV,hOy,hK,hs⟩
 have hst4:=hM.st
 have hwa3:=hM.wa
 have hmr:=hM.rs
 have hmc:=hM.cs
 obtain ⟨H4,hle4,r1,r2,r3,r4,hs,-⟩:=FU.AO hOV ak ak ak ak hs
 obtain ⟨hyl,-,hyb⟩:=hK.bd
 have hmt:=hM.ok.many
 obtain ⟨H5,hle5,hY,hs⟩:=cN.dM hOy ak hs .here
 exact ⟨H5,m,y,_,_,_,_,_,hle3.trans (hle4.trans hle5),rfl,hM,hK,r1.mono hle5,r2.mono hle5,r3.mono hle5,r4.mono hle5,hY,hs⟩
theorem wM{s:Spc}{vst vwa vx:Value}{x:List Int}(hs:St H w σ)(h1:RI H vst s.st)(h2:RI H vwa s.wa)(hx:RI H vx x)(hb1:s.st.length≤1000)(hb2:s.wa.length≤1000)(hxl:s.many+1≤x.length):
  Cl Tryz.prog 34 [.agg #[I s.id,I s.src,vst,vwa,I s.al,I s.up],vx] w fun u w'=>∃H1 va,HLe H H1∧u= .agg #[va]∧RT H1 va (tT s x s.st.length)∧St H1 w' σ:=by
 refine (wN hs h1 h2 hx hb1 hb2 hxl).mono ?_
 rintro _ w ⟨va,us,en,ens,rfl,hO,hR,hs⟩
 have hul:=hR.length
 rw [oC] at hul
 replace hs:St H w (ens++(en::σ)):=hs.perm List.perm_middle.symm
 obtain ⟨H6,hle6,hRL,hs⟩:=hR.cQ (fun r hr=>by
  obtain ⟨j,hj⟩:=List.getElem?_of_mem hr
  have hjl:=(List.getElem?_eq_some_iff.1 hj).1
  rw [oC] at hjl
  rw [C3 hjl] at hj
  obtain rfl:=Option.some.inj hj
  rw [tC];omega) hs
 obtain ⟨H7,hle7,hRT,hs⟩:=hRL.cQ hO ak hs .here
 exact ⟨H7,_,hle6.trans hle7,rfl,hRT,hs⟩
theorem cn{a0 a1 a2:Int}(hs:St H w σ):Cl Tryz.prog 72 [I a0,I a1,I a2] w fun v w'=>v= .bool (decide (a1≤a0∧a0≤a2))∧St H w' σ:=by
 refine Cl.o Tryz.func72 Tryz.ntmps72 ag3 ?_
 refine .aj (.zn zg (.aj (.z zm (.z zm (.z nb (.z zm (.ie (t':=10) rfl (fun hb10=>?_) (fun hb10=>?_))))))))
 ·refine .T (.z zm (.T (.z zm (.T (.z nb (.z zpT (.zn zg (.ret (Fin.bq Tryz.results72 rfl ?_)))))))))
  exact ⟨by simp [*],hs.out⟩
 ·refine .Fs 3 3 true (.z zpF (.zn zg (.ret (Fin.bq Tryz.results72 rfl ?_))))
  exact ⟨by simp [*],hs.out⟩
theorem kP{a0:Int}(hs:St H w σ):Cl Tryz.prog 73 [I a0] w fun v w'=>v= .bool (decide (1≤a0∧a0≤20))∧St H w' σ:=by
 refine Cl.o Tryz.func73 Tryz.ntmps73 ag1 ?_
 refine .aj (.zn zg (.aj (.z zm (.o (.call eM rfl (cn hs) ?_)))));rintro _ w ⟨rfl,hs⟩
 refine .zn zg (.ret (Fin.bq Tryz.results73 rfl ?_))
 exact ⟨rfl,hs⟩
theorem nG{x y a1 a2:Int}(hs:St H w σ):Cl Tryz.prog 161 [.agg #[I x,I y],I a1,I a2] w fun v w'=>v= .bool (decide (a1≤x∧x≤y∧y≤a2))∧St H w' σ:=by
 refine Cl.o Tryz.func161 Tryz.ntmps161 ag3 ?_
 refine .aj (.bx hs fun b3 w hs=>?_)
 refine .zn zg (.aj (.z zm (.z (zfa bN) (.y hs (zld ae) (.z nb (.z zm (.ie (t':=11) rfl (fun hb11=>?_) (fun hb11=>?_))))))))
 ·refine .T (.z (zfa bN) (.T (.y hs (zld ae) (.T (.z (zfa cj) (.T (.y hs (zld ae) (.T (.z nb (.z zpT (.z zm (.ie (t':=18) rfl (fun hb18=>?_) (fun hb18=>?_)))))))))))))
  ·refine .T (.z (zfa cj) (.T (.y hs (zld ae) (.T (.z zm (.T (.z nb (.z zpT (.zn zg (.ret (Fin.bq Tryz.results161 rfl ?_)))))))))))
   exact ⟨by simp [*],hs.out⟩
  ·refine .Fs 4 11 true (.z zpF (.zn zg (.ret (Fin.bq Tryz.results161 rfl ?_))))
   exact ⟨by simp [*],hs.out⟩
 ·refine .Fs 5 4 true (.z zpF (.z zm (.Fs 4 11 true (.z zpF (.zn zg (.ret (Fin.bq Tryz.results161 rfl ?_)))))))
  exact ⟨by simp [*],hs.out⟩
theorem nH{x y:Int}(hs:St H w σ):Cl Tryz.prog 109 [.agg #[I x,I y]] w fun v w'=>v= .bool (decide (iy x y))∧St H w' σ:=by
 refine Cl.o Tryz.func109 Tryz.ntmps109 ag1 ?_
 refine .aj (.bx hs fun b1 w hs=>?_)
 refine .zn zg (.aj (.y hs (zls [_,_] bh aq) (.o (.call Tryz.call161 rfl (nG hs) ?_))));rintro _ w ⟨rfl,hs⟩
 refine .zn zg (.ret (Fin.bq Tryz.results109 rfl ?_))
 exact ⟨rfl,hs.out⟩
theorem mX{x y:Int}(hs:St H w σ):Cl Tryz.prog 118 [.agg #[I x,I y]] w fun v w'=>v= .bool (decide (gH x y))∧St H w' σ:=by
 refine Cl.o Tryz.func118 Tryz.ntmps118 ag1 ?_
 refine .aj (.bx hs fun b1 w hs=>?_)
 refine .zn zg (.aj (.y hs (zls [_,_] bh aq) (.o (.call Tryz.call161 rfl (nG hs) ?_))));rintro _ w ⟨rfl,hs⟩
 refine .zn zg (.ret (Fin.bq Tryz.results118 rfl ?_))
 exact ⟨rfl,hs.out⟩
theorem vW{x:Lg}(hs:St H w σ):
  Cl Tryz.prog 75 [.agg #[I x.zone,I x.fr,I x.to,I x.dlo,I x.dhi,I x.blo,I x.bhi]] w fun v w'=>∃b:Bool,v= .bool b∧(b=true↔A5 x)∧St H w' σ:=by
 refine Cl.o Tryz.func75 Tryz.ntmps75 ag1 ?_
 refine .aj (.bx hs fun b1 w hs=>?_)
 refine .zn zg (.aj (.z (zfa kF) (.y hs (zld ae) (.o (.call Tryz.call73 rfl (kP hs) ?_)))));rintro _ w ⟨rfl,hs⟩
 refine .z zm (.bif (t':=6) rfl (fun hb6=>?_) (fun hb6=>?_))
 ·refine .T (.z (zfa fl) (.T (.y hs (zld ae) (.T (.z (zfa fk) (.T (.y hs (zld ae) (.T (.o (.call eM rfl (cn hs) ?_))))))))));rintro _ w ⟨rfl,hs⟩
  refine .z zpT (.z zm (.bif (t':=13) rfl (fun hb13=>?_) (fun hb13=>?_)))
  ·refine .T (.z (zfa fk) (.T (.y hs (zld ae) (.T (.o (.call eM rfl (cn hs) ?_))))));rintro _ w ⟨rfl,hs⟩
   refine .z zpT (.z zm (.bif (t':=18) rfl (fun hb18=>?_) (fun hb18=>?_)))
   ·refine .T (.z (zfa fj) (.T (.y hs (zls [_,_] bh aq) (.T (.o (.call Tryz.call118 rfl (mX hs) ?_))))));rintro _ w ⟨rfl,hs⟩
    refine .z zpT (.z zm (.bif (t':=23) rfl (fun hb23=>?_) (fun hb23=>?_)))
    ·refine .T (.z (zfa fH) (.T (.y hs (zls [_,_] bh aq) (.T (.o (.call Tryz.call109 rfl (nH hs) ?_))))));rintro _ w ⟨rfl,hs⟩
     refine .z zpT (.zn zg (.ret (Fin.bq F2 rfl ?_)))
     first
     |exact ⟨false,rfl,⟨fun h=>(by cases h),fun h=>(by obtain ⟨g1,g2,g3,g4,g5⟩:=h;first|omega|(simp_all;done)|(simp_all;omega))⟩,hs.out⟩
     |exact ⟨_,rfl,⟨fun h=>⟨by simp_all,by simp_all,by simp_all,by simp_all,by simpa using h⟩,fun h=>by simpa using h.burn⟩,hs.out⟩
    ·refine .Fs 3 20 true (.z zpF (.zn zg (.ret (Fin.bq F2 rfl ?_))))
     first
     |exact ⟨false,rfl,⟨fun h=>(by cases h),fun h=>(by obtain ⟨g1,g2,g3,g4,g5⟩:=h;first|omega|(simp_all;done)|(simp_all;omega))⟩,hs.out⟩
     |exact ⟨_,rfl,⟨fun h=>⟨by simp_all,by simp_all,by simp_all,by simp_all,by simpa using h⟩,fun h=>by simpa using h.burn⟩,hs.out⟩
   ·refine .Fs 3 15 true (.z zpF (.z zm (.Fs 3 20 true (.z zpF (.zn zg (.ret (Fin.bq F2 rfl ?_)))))))
    first
    |exact ⟨false,rfl,⟨fun h=>(by cases h),fun h=>(by obtain ⟨g1,g2,g3,g4,g5⟩:=h;first|omega|(simp_all;done)|(simp_all;omega))⟩,hs.out⟩
    |exact ⟨_,rfl,⟨fun h=>⟨by simp_all,by simp_all,by simp_all,by simp_all,by simpa using h⟩,fun h=>by simpa using h.burn⟩,hs.out⟩
  ·refine .Fs 3 10 true (.z zpF (.z zm (.Fs 3 15 true (.z zpF (.z zm (.Fs 3 20 true (.z zpF (.zn zg (.ret (Fin.bq F2 rfl ?_))))))))))
   first
   |exact ⟨false,rfl,⟨fun h=>(by cases h),fun h=>(by obtain ⟨g1,g2,g3,g4,g5⟩:=h;first|omega|(simp_all;done)|(simp_all;omega))⟩,hs.out⟩
   |exact ⟨_,rfl,⟨fun h=>⟨by simp_all,by simp_all,by simp_all,by simp_all,by simpa using h⟩,fun h=>by simpa using h.burn⟩,hs.out⟩
 ·refine .Fs 5 3 true (.z zpF (.z zm (.Fs 3 10 true (.z zpF (.z zm (.Fs 3 15 true (.z zpF (.z zm (.Fs 3 20 true (.z zpF (.zn zg (.ret (Fin.bq F2 rfl ?_)))))))))))))
  first
  |exact ⟨false,rfl,⟨fun h=>(by cases h),fun h=>(by obtain ⟨g1,g2,g3,g4,g5⟩:=h;first|omega|(simp_all;done)|(simp_all;omega))⟩,hs.out⟩
  |exact ⟨_,rfl,⟨fun h=>⟨by simp_all,by simp_all,by simp_all,by simp_all,by simpa using h⟩,fun h=>by simpa using h.burn⟩,hs.out⟩
set_option maxHeartbeats 1000000 in
theorem jo{l:Lns}{vt vs:Value}(hs:St H w σ)(h1:RFb H vt l.table)(h2:RSn H vs l.seasons):
  Cl Tryz.prog 19 [.agg #[I l.length,I l.depth,vt,vs]] w fun u w'=>∃e,u=I e∧JC l e∧St H w' σ:=by
 obtain ⟨at_,ct,rfl⟩:=h1.shape
 obtain ⟨as_,cs,rfl⟩:=h2.shape
 refine Cl.o Tryz.func19 Tryz.ntmps19 ag1 ?_
 refine .aj (.bx hs fun b1 w hs=>?_)
 refine .zn zg (.seq (.aj (.z (zfa eg) (.y hs (zld ae) (.o (.call eM rfl (cn hs) ?_))))));rintro _ w ⟨rfl,hs⟩
 refine .z fI (.z zm (.bif (t':=11) rfl (fun hb11=>?_) (fun hb11=>?_)))
 ·refine .Fs 4 4 false (.z zpT (.z zm (.Fs 5 10 false (.z zpT (.z zm (.Fs 4 17 false (.zn zpT (.cT (.aj (.zn zg (.ret (rT (Fin.bq fX rfl ?_)))))))))))))
  exact ⟨_,rfl,.inr ⟨fun h=>by have:=h.length;simp_all,rfl⟩,hs.out⟩
 ·refine .T (.z (zfa iC) (.T (.y hs (zld ae) (.T (.o (.call eM rfl (cn hs) ?_))))));rintro _ w ⟨rfl,hs⟩
  refine .T (.z fI (.z zpF (.z zm (.bif (t':=17) rfl (fun hb17=>?_) (fun hb17=>?_)))))
  ·refine .Fs 5 10 false (.z zpT (.z zm (.Fs 4 17 false (.zn zpT (.cT (.aj (.zn zg (.ret (rT (Fin.bq fX rfl ?_))))))))))
   exact ⟨_,rfl,.inr ⟨fun h=>by have:=h.depth;simp_all,rfl⟩,hs.out⟩
  ·refine .T (.z (zfa cK) (.T (.y hs (zld eb) (.T (.z (da aZ) (.T (.o (.call eM rfl (cn hs) ?_))))))));rintro _ w ⟨rfl,hs⟩
   refine .T (.z fI (.z zpF (.z zm (.bif (t':=24) rfl (fun hb24=>?_) (fun hb24=>?_)))))
   ·refine .Fs 4 17 false (.zn zpT (.cT (.aj (.zn zg (.ret (rT (Fin.bq fX rfl ?_)))))))
    exact ⟨_,rfl,.inr ⟨fun h=>by have:=h.many;simp_all;omega,rfl⟩,hs.out⟩
   ·refine .T (.z (zfa cU) (.T (.y hs (zld eF) (.T (.z (da bu) (.T (.z k7 (.zn zpF (.bn rfl (fun hc29=>?_) (fun hc29=>?_))))))))))
    ·refine .aj (.zn zg (.ret (rT (Fin.bq fX rfl ?_))))
     exact ⟨_,rfl,.inr ⟨fun h=>by have:=h.most;simp_all;omega,rfl⟩,hs.out⟩
    ·refine .skip (nT (.seq (.aj ?_)))
     have hl20:1≤l.table.length∧l.table.length≤20:=by first|omega|(simp at hb24;omega)
     refine .z (zfa cK) (.y hs (zld eb) (.z (da aZ) (.zn zm (.for (N:=l.table.length) (J:=fun k fr w=>fr=[(31,.slice at_ l.table.length ct),(1,Pt b1)]∧(∀j<k,FZ l.table j)∧St H w (.blk b1 [I l.length,I l.depth,.slice at_ l.table.length ct,.slice as_ l.seasons.length cs]::σ)) ak ?_ ?_ ?_))))
     ·exact .mk ⟨rfl,fun j hj=>by omega,hs⟩
     ·rintro k fr w hk ⟨rfl,hno,hs⟩
      have hx:=mF (l:=l.table) hk
      have hx1:=mF (l:=l.table) (i:=k - 1) ak
      refine .block (.aj (.z zm (.ixX (enc:=Fbd.c) hs h1 rfl rfl aZ bE hx cz ?_)));intro b36 o36 hc36
      refine .q hs (bQ (vs:=(Fbd.c (fb0 l.table k))) rfl Tryz.isAgg134 bE hc36) (.o (.alloc hs ig rfl fun b4 w hs=>?_))
      refine .z zg (.o (.aU (vs:=(fb0 l.table k).c) hs rfl rfl bE fun w hs=>?_))
      change St _ _ (.blk b4 [I (fb0 l.table k).len,I (fb0 l.table k).least]::_) at hs
      refine .nil (.seq (.draw mix rfl hs fun w hs=>?_))
      refine .zw 0 rfl (zfa bO) ?_;refine .y 1 rfl hs ae ?_
      refine .E 2 hs ?_
      refine .call eM rfl (cn hs) ?_;rintro _ w ⟨rfl,hs⟩
      refine .go (.zw 3 rfl fI ?_);refine .z 4 rfl zm ?_
      refine .bif (t':=42) rfl (fun hb42=>?_) (fun hb42=>?_)
      ·refine .F 5 rfl (.F 6 rfl (.F 7 rfl (.F 8 rfl (.zw 9 rfl zpT ?_))));refine .z 10 rfl zm ?_
       refine .F 11 rfl (.F 12 rfl ?_)
       refine .F 13 rfl (.F 14 rfl (.F 15 rfl (.F 16 rfl (.F 17 rfl (.F 18 rfl (.F 19 rfl (.F 20 rfl (.F 21 rfl (.F 22 rfl (.F 23 rfl (.F 24 rfl (.zw 25 rfl zpT ?_))))))))))));refine .D hs ?_
       refine (.cT (.aj (.zn zg (.ret (rB (rT (rB (rT (Fin.bq fX rfl ?_)))))))))
       exact ⟨_,rfl,.inr ⟨fun h=>by have:=(h.table k hk).len;simp_all,rfl⟩,hs.out⟩
      ·refine .zw 5 rfl (zfa dB) ?_;refine .y 6 rfl hs ae ?_
       refine .E 7 hs ?_
       refine .call eM rfl (cn hs) ?_;rintro _ w ⟨rfl,hs⟩
       refine .go (.zw 8 rfl fI ?_);refine .z 9 rfl zpF ?_;refine .z 10 rfl zm ?_
       refine .bif (t':=48) rfl (fun hb48=>?_) (fun hb48=>?_)
       ·refine .F 11 rfl (.F 12 rfl ?_)
        refine .F 13 rfl (.F 14 rfl (.F 15 rfl (.F 16 rfl (.F 17 rfl (.F 18 rfl (.F 19 rfl (.F 20 rfl (.F 21 rfl (.F 22 rfl (.F 23 rfl (.F 24 rfl (.zw 25 rfl zpT ?_))))))))))));refine .D hs ?_
        refine (.cT (.aj (.zn zg (.ret (rB (rT (rB (rT (Fin.bq fX rfl ?_)))))))))
        exact ⟨_,rfl,.inr ⟨fun h=>by have:=(h.table k hk).least;simp_all,rfl⟩,hs.out⟩
       ·refine .zw 11 rfl zm ?_;refine .z 12 rfl k7 ?_;refine .z 13 rfl zm ?_
        refine .ie (t':=51) rfl (fun hb51=>?_) (fun hb51=>?_)
        ·refine .zw 14 rfl (zfa cK) ?_;refine .y 15 rfl hs eb ?_;refine .z 16 rfl zm ?_;refine .z 17 rfl fM ?_
         refine .ixX (enc:=Fbd.c) (i:=18) hs rfl aH (.some rfl rfl) h1 rfl rfl aZ bE hx1 ak ?_;intro b56 o56 hc56
         refine .zw 19 rfl (zfa bO) (.r (i:=20) hs rfl aH (.some rfl rfl) (aP rfl ae (hc56.get 0 rfl)) ?_)
         refine .zw 21 rfl (zfa bO) ?_;refine .y 22 rfl hs ae ?_;refine .z 23 rfl uF ?_;refine .z 24 rfl zpT ?_;refine .z 25 rfl zpF ?_;refine .D hs ?_
         refine (.bn rfl (fun hc63=>?_) (fun hc63=>?_))
         ·refine .aj (.zn zg (.ret (rB (rT (rB (rT (Fin.bq fX rfl ?_)))))))
          exact ⟨_,rfl,.inr ⟨fun h=>by have:=(h.table k hk).rise ak;omega,rfl⟩,hs.out⟩
         ·refine .skip (nB (nT ?_))
          first
          |exact .mk ⟨rfl,fun j hj=>by
            by_cases e:j=k
            ·subst e;exact ⟨by simp_all,by simp_all,fun _=>by omega⟩
            ·exact hno j ak,hs.tail⟩
        ·refine .F 14 rfl (.F 15 rfl (.F 16 rfl (.F 17 rfl (.F 18 rfl (.F 19 rfl (.F 20 rfl (.F 21 rfl (.F 22 rfl (.F 23 rfl (.zw 24 rfl zpF ?_))))))))));refine .z 25 rfl zpF ?_;refine .D hs ?_
         refine (.cF (.skip (nB (nT ?_))))
         first
         |exact .mk ⟨rfl,fun j hj=>by
           by_cases e:j=k
           ·subst e;exact ⟨by simp_all,by simp_all,fun _=>by omega⟩
           ·exact hno j ak,hs.tail⟩
     ·rintro fr w ⟨rfl,htb,hs⟩
      refine nT (.seq (.aj (.z (zfa cU) (.y hs (zld eF) (.z (da bu) (.zn zm (.for (N:=l.seasons.length) (J:=fun k fr w=>fr=[(66,.slice as_ l.seasons.length cs),(1,Pt b1)]∧(∀j<k,∀y,l.seasons[j]? =some y→A3 y)∧St H w (.blk b1 [I l.length,I l.depth,.slice at_ l.table.length ct,.slice as_ l.seasons.length cs]::σ)) ak ?_ ?_ ?_)))))))
      ·exact .mk ⟨rfl,fun j hj=>by omega,hs⟩
      ·rintro k fr w hk ⟨rfl,hno,hs⟩
       obtain ⟨s,hx⟩:=nth hk
       refine .block (.aj (.ixX (enc:=Ssn.c) hs h2 rfl rfl bu cE hx cz ?_));intro b70 o70 hc70
       refine .q hs (bQ (vs:=(Ssn.c s)) rfl HF cE hc70) (.o (.alloc hs pV rfl fun b6 w hs=>?_))
       refine .o (.aU (vs:=s.c) hs rfl rfl cE fun w hs=>?_)
       change St _ _ (.blk b6 [I s.zone,I s.fr,I s.to,I s.extra]::_) at hs
       refine .nil (.aj (.z (zfa iW) (.y hs (zld ae) (.o (.call Tryz.call73 rfl (kP hs) ?_)))));rintro _ w ⟨rfl,hs⟩
       refine .z fI (.z zm (.bif (t':=76) rfl (fun hb76=>?_) (fun hb76=>?_)))
       ·refine .Fs 4 4 false (.z zpT (.z zm (.Fs 4 10 false (.z zpT (.z zm (.Fs 4 16 false (.zn zpT (.cT (.aj (.zn zg (.ret (rB (rT (rB (rT (Fin.bq fX rfl ?_))))))))))))))))
        exact ⟨_,rfl,.inr ⟨fun h=>by have:=(h.seasons s (List.mem_of_getElem? hx)).zone;simp_all,rfl⟩,hs.out⟩
       ·refine .T (.z (zfa eI) (.T (.y hs (zld ae) (.T (.o (.call eM rfl (cn hs) ?_))))));rintro _ w ⟨rfl,hs⟩
        refine .T (.z fI (.z zpF (.z zm (.bif (t':=82) rfl (fun hb82=>?_) (fun hb82=>?_)))))
        ·refine .Fs 4 10 false (.z zpT (.z zm (.Fs 4 16 false (.zn zpT (.cT (.aj (.zn zg (.ret (rB (rT (rB (rT (Fin.bq fX rfl ?_)))))))))))))
         exact ⟨_,rfl,.inr ⟨fun h=>by have:=(h.seasons s (List.mem_of_getElem? hx)).fr;simp_all,rfl⟩,hs.out⟩
        ·refine .T (.z (zfa eH) (.T (.y hs (zld ae) (.T (.o (.call eM rfl (cn hs) ?_))))));rintro _ w ⟨rfl,hs⟩
         refine .T (.z fI (.z zpF (.z zm (.bif (t':=88) rfl (fun hb88=>?_) (fun hb88=>?_)))))
         ·refine .Fs 4 16 false (.zn zpT (.cT (.aj (.zn zg (.ret (rB (rT (rB (rT (Fin.bq fX rfl ?_))))))))))
          exact ⟨_,rfl,.inr ⟨fun h=>by have:=(h.seasons s (List.mem_of_getElem? hx)).to;simp_all,rfl⟩,hs.out⟩
         ·refine .T (.z (zfa iV) (.T (.y hs (zld ae) (.T (.o (.call eM rfl (cn hs) ?_))))));rintro _ w ⟨rfl,hs⟩
          refine .T (.z fI (.zn zpF (.cond rfl (fun hc93=>?_) (fun hc93=>?_))))
          ·refine .aj (.zn zg (.ret (rB (rT (rB (rT (Fin.bq fX rfl ?_)))))))
           exact ⟨_,rfl,.inr ⟨fun h=>by have:=(h.seasons s (List.mem_of_getElem? hx)).extra;simp_all,rfl⟩,hs.out⟩
          ·refine .skip (nB (nT ?_))
           exact .mk ⟨rfl,fi hno hx ⟨by simp_all,by simp_all,by simp_all,by simp_all⟩,hs.tail⟩
      ·rintro fr w ⟨rfl,hno,hs⟩
       refine nT (.aj (.zn zg (.ret (Fin.bq fX rfl ?_))))
       exact ⟨_,rfl,.inl ⟨⟨by simp_all,by simp_all,hl20,ak,htb,fun s hs=>by
        obtain ⟨j,hj⟩:=List.getElem?_of_mem hs
        exact hno j (List.getElem?_eq_some_iff.1 hj).1 s hj⟩,rfl⟩,hs.out⟩
theorem pK{r:List Lg}{vr:Value}(hs:St H w σ)(h1:RLg H vr r):
  Cl Tryz.prog 21 [.agg #[vr]] w fun u w'=>∃e,u=I e∧JA r e∧St H w' σ:=by
 obtain ⟨ar,cr,rfl⟩:=h1.shape
 refine Cl.o Tryz.func21 Tryz.ntmps21 ag1 ?_
 refine .aj (.bx hs fun b1 w hs=>?_)
 refine .zn zg (.seq (.aj (.z (zfa bH) (.y hs (zld bY) (.z (da aF) (.o (.call eM rfl (cn hs) ?_)))))));rintro _ w ⟨rfl,hs⟩
 refine .zn fI (.cond rfl (fun hc9=>?_) (fun hc9=>?_))
 ·refine .aj (.zn zg (.ret (rT (Fin.bq Tryz.results21 rfl ?_))))
  exact ⟨_,rfl,.inr ⟨fun h=>by have:=h.many;simp_all;omega,rfl⟩,hs.out⟩
 ·refine .skip (nT (.seq (.aj ?_)))
  have hl20:1≤r.length∧r.length≤12:=by first|omega|(simp at hc9;omega)
  refine .z (zfa bH) (.y hs (zld bY) (.z (da aF) (.zn zm (.for (N:=r.length) (J:=fun k fr w=>fr=[(11,.slice ar r.length cr),(1,Pt b1)]∧(∀j<k,A5 (lg0 r j)∧(0<j→(lg0 r (j - 1)).to≤(lg0 r j).fr))∧St H w (.blk b1 [.slice ar r.length cr]::σ)) ak ?_ ?_ ?_))))
  ·exact .mk ⟨rfl,fun j hj=>by omega,hs⟩
  ·rintro k fr w hk ⟨rfl,hno,hs⟩
   have hx:=kf (l:=r) hk
   have hx1:=kf (l:=r) (i:=k - 1) ak
   refine .block (.aj (.z zm (.ixX (enc:=Lg.c) hs h1 rfl rfl aF aN hx cz ?_)));intro b16 o16 hc16
   refine .q hs (bQ (vs:=(Lg.c (lg0 r k))) rfl fE aN hc16) (.o (.alloc hs de rfl fun b4 w hs=>?_))
   refine .z zg (.o (.aU (vs:=(lg0 r k).c) hs rfl rfl aN fun w hs=>?_))
   change St _ _ (.blk b4 [I (lg0 r k).zone,I (lg0 r k).fr,I (lg0 r k).to,I (lg0 r k).dlo,I (lg0 r k).dhi,I (lg0 r k).blo,I (lg0 r k).bhi]::_) at hs
   refine .nil (.seq (.draw mix rfl hs fun w hs=>?_))
   refine .zv 0 rfl hs (Bu [_,_,_,_,_,_,_] fE aN) (.E 1 hs ?_)
   refine .call Tryz.call75 rfl (vW (x:=lg0 r k) hs) ?_;rintro _ w ⟨b19,rfl,hb19,hs⟩
   refine .go (.zw 2 rfl fI ?_);refine .z 3 rfl zm ?_
   refine .bif (t':=21) rfl (fun hb21=>?_) (fun hb21=>?_)
   ·refine .F 4 rfl (.F 5 rfl ?_)
    refine .F 6 rfl (.F 7 rfl (.F 8 rfl (.F 9 rfl (.F 10 rfl (.F 11 rfl (.F 12 rfl (.F 13 rfl (.F 14 rfl (.F 15 rfl (.F 16 rfl (.F 17 rfl (.zw 18 rfl zpT ?_))))))))))));refine .D hs ?_
    refine (.cT (.aj (.zn zg (.ret (rB (rT (rB (rT (Fin.bq Tryz.results21 rfl ?_)))))))))
    exact ⟨_,rfl,.inr ⟨fun h=>by have:=hb19.2 (h.leg k hk).1;simp_all,rfl⟩,hs.out⟩
   ·refine .zw 4 rfl zm ?_;refine .z 5 rfl k7 ?_;refine .z 6 rfl zm ?_
    refine .ie (t':=24) rfl (fun hb24=>?_) (fun hb24=>?_)
    ·refine .zw 7 rfl (zfa fl) ?_;refine .y 8 rfl hs ae ?_;refine .z 9 rfl (zfa bH) ?_;refine .y 10 rfl hs bY ?_;refine .z 11 rfl zm ?_;refine .z 12 rfl fM ?_
     refine .ixX (enc:=Lg.c) (i:=13) hs rfl aH (.some rfl rfl) h1 rfl rfl aF aN hx1 ak ?_;intro b31 o31 hc31
     refine .zw 14 rfl (zfa fk) (.r (i:=15) hs rfl aH (.some rfl rfl) (aP rfl ae (hc31.get 2 rfl)) ?_)
     refine .zw 16 rfl fV ?_;refine .z 17 rfl zpT ?_;refine .z 18 rfl zpF ?_;refine .D hs ?_
     refine (.bn rfl (fun hc36=>?_) (fun hc36=>?_))
     ·refine .aj (.zn zg (.ret (rB (rT (rB (rT (Fin.bq Tryz.results21 rfl ?_)))))))
      exact ⟨_,rfl,.inr ⟨fun h=>by have:=(h.leg k hk).2 ak;omega,rfl⟩,hs.out⟩
     ·refine .skip (nB (nT ?_))
      first
      |exact .mk ⟨rfl,fun j hj=>by
        by_cases e:j=k
        ·subst e;exact ⟨hb19.1 (by simp_all),fun _=>by omega⟩
        ·exact hno j ak,hs.tail⟩
    ·refine .F 7 rfl (.F 8 rfl (.F 9 rfl (.F 10 rfl (.F 11 rfl (.F 12 rfl (.F 13 rfl (.F 14 rfl (.F 15 rfl (.F 16 rfl (.zw 17 rfl zpF ?_))))))))));refine .z 18 rfl zpF ?_;refine .D hs ?_
     refine (.cF (.skip (nB (nT ?_))))
     first
     |exact .mk ⟨rfl,fun j hj=>by
       by_cases e:j=k
       ·subst e;exact ⟨hb19.1 (by simp_all),fun _=>by omega⟩
       ·exact hno j ak,hs.tail⟩
  ·rintro fr w ⟨rfl,hno,hs⟩
   refine nT (.aj (.zn zg (.ret (Fin.bq Tryz.results21 rfl ?_))))
   exact ⟨_,rfl,.inl ⟨⟨hl20,hno⟩,rfl⟩,hs.out⟩
theorem Ia{P:Program}{H:bV}{σ:List Ent}{s:FS}{t ty':TypeId}{x y:Operand}{p:Int}(hx:FS.ev s x=some (.int .u64 p))(hy:FS.ev s y=some (.int .u64 1)):QJ P H σ s (.binOp .shr t x y ty') (.int .u64 (p/2)):=by
 have h1:=AE (P:=P) (H:=H) (σ:=σ) (t:=t) (ty':=ty') hx hy ak
 have h2:p.fdiv (2 ^min (1:Int).toNat IntKind.u64.bits)=p/2:=by
  have:(2:Int) ^min (1:Int).toNat IntKind.u64.bits=2:=by decide
  rw [this,Int.fdiv_eq_ediv_of_nonneg _ ak]
 rw [h2] at h1
 exact h1
theorem nz{n g:Nat}{cap:List Value}{p:Nat→Prop}(hs:St H w σ)(hn:n≤1000000)(hc:∀args w,(callFunc g args).run Tryz.prog w= .ok (.enter g args) w)
  (hp:∀w i,i<n→St H w σ→Cl Tryz.prog g ([I (i:Int)]++cap) w fun u w'=>∃b,u= .bool b∧(b=true↔p i)∧St H w' σ):
  Cl Tryz.prog 157 [I (n:Int),.func (.func g) #[] cap.toArray] w fun u w'=>∃k:Nat,u=I (k:Int)∧k≤n∧(0<k→¬p (k - 1))∧(k<n→p k)∧St H w' σ:=by
 refine Cl.o Tryz.func157 Tryz.ntmps157 ag2 ?_
 refine .aj (.zn zg (.aj (.z zm (.z zg (.zn zg (.seq (.block ?_)))))))
 refine .loop (fun q:Nat×Nat=>⟨26,[],[(6,I (q.2:Int)),(5,I (q.1:Int)),(1,.func (.func g) #[] cap.toArray)]⟩)
  (fun q w=>(q.1≤q.2∧q.2≤n)∧(0<q.1→¬p (q.1 - 1))∧(q.2<n→p q.2)∧St H w σ) (fun q=>q.2 - q.1) (0,n) a6
  ⟨⟨Nat.zero_le _,Nat.le_refl _⟩,fun h=>by omega,fun h=>by omega,hs⟩ ?_
 rintro ⟨i,j⟩ w ⟨⟨hij,hjn⟩,hlo,hhi,hs⟩
 dsimp only at hij hjn hlo hhi ⊢
 refine .seq (.aj (.z zm (.z zm (.zn fV (.bn rfl (fun hc11=>?_) (fun hc11=>?_))))))
 ·refine .skip (nT (.block (.aj (.z zm (.z zm (.z cu (.q hs (yf rfl bF dN ⟨ak,ak⟩) (.q hs (Ia rfl rfl) ?_))))))))
  rw [show ((i:Int)+(j:Int))/2=(((i+j)/2:Nat):Int) by omega]
  refine .q hs (yg rfl dN bF ⟨ak,ak⟩) (.zn zg (.aj (.z zm (.z zm (.o (.pQ (first:=[]) rfl rfl hc (hp _ ((i+j)/2) ak hs) ?_))))));rintro _ w ⟨b20,rfl,hb20,hs⟩
  refine .zn fI (.cond rfl (fun hc21=>?_) (fun hc21=>?_))
  ·refine .region (.z zm (.z cu (.zn zg (nB (nT ?_)))))
   exact ⟨((i+j)/2+1,j),.cP rfl bT a6,⟨⟨by dsimp only;omega,hjn⟩,fun _ h=>(by rw [hb20.2 (by simpa using h)] at hc21;cases hc21),hhi,hs⟩,by dsimp only;omega⟩
  ·refine .region (.z zm (.zn zg (nB (nT ?_))))
   exact ⟨(i,(i+j)/2),.cP rfl bT a6,⟨⟨by dsimp only;omega,by dsimp only;omega⟩,hlo,fun _=>hb20.1 (by simpa using hc21),hs⟩,by dsimp only;omega⟩
 ·refine .exit (xT (xT (xB (nT (.aj (.z zm (.zn zg (.ret (Fin.bq Tryz.results157 rfl ?_)))))))))
  obtain rfl:i=j:=by omega
  exact ⟨i,rfl,hjn,hlo,hhi,hs⟩
theorem oK{l:Lns}{vt vs:Value}{b i:Nat}(hs:St H w (.blk b [I l.length,I l.depth,vt,vs]::σ))(h1:RFb H vt l.table)(hi:i<l.table.length):
  Cl Tryz.prog 158 [I (i:Int),Pt b] w fun u w'=>∃bb:Bool,u= .bool bb∧(bb=true↔l.length≤(fb0 l.table i).len)∧St H w' (.blk b [I l.length,I l.depth,vt,vs]::σ):=by
 obtain ⟨at_,ct,rfl⟩:=h1.shape
 refine Cl.o Tryz.func158 Tryz.ntmps158 ag2 ?_
 refine .aj (.zn zg (.seq (.draw mix rfl hs fun w hs=>?_)))
 refine .zw 0 rfl (zfa cK) ?_;refine .y 1 rfl hs eb ?_;refine .z 2 rfl zm ?_
 refine .ixX (enc:=Fbd.c) (i:=3) hs rfl aH .none h1 rfl rfl aZ bE (mF hi) cz ?_;intro b7 o7 hc7
 refine .zw 4 rfl (zfa bO) (.r (i:=5) hs rfl aH .none (aP rfl ae (hc7.get 0 rfl)) ?_)
 refine .zw 6 rfl (zfa eg) ?_;refine .y 7 rfl hs ae ?_;refine .z 8 rfl uF ?_;refine .z 9 rfl zg ?_;refine .D hs ?_
 refine .ret (Fin.bq Tryz.results158 rfl ?_)
 exact ⟨_,rfl,bT,hs⟩
theorem qb{a d:Int}(hs:St H w σ)(hd:1≤d)(ha: -4608000000000000000≤a∧a≤4608000000000000000):
  Cl Tryz.prog 140 [I a,I d] w fun v w'=>v=I (a/d)∧St H w' σ:=by
 have hq:=IZ hd ha
 have hfl:=pz (n:=a) (d:=d) ak
 refine Cl.o Tryz.func140 Tryz.ntmps140 ag2 ?_
 refine .aj (.zn zg (.aj (.z zm (.z zm (.q hs (rh rfl rfl ak ⟨ak,ak⟩) (.zn zg (.seq (.aj (.z zm (.z zm (.z Ag (.zn fV (.bn rfl (fun hc12=>?_) (fun hc12=>?_))))))))))))))
 ·refine .region (.z zm (.z fM (.zn zg (nT (.aj (.z zm (.zn zg (.ret (Fin.bq Tryz.results140 rfl ?_)))))))))
  rw [if_pos hc12] at hfl
  exact ⟨by rw [hfl],hs⟩
 ·refine .skip (nT (.aj (.z zm (.zn zg (.ret (Fin.bq Tryz.results140 rfl ?_))))))
  rw [if_neg hc12,Int.sub_zero] at hfl
  exact ⟨by rw [hfl],hs⟩
theorem jH{l:Lns}{vt vs:Value}(hs:St H w σ)(h1:RFb H vt l.table)(hl:iE l):
  Cl Tryz.prog 102 [.agg #[I l.length,I l.depth,vt,vs]] w fun u w'=>∃n b,u= .tuple #[I n,.bool b]∧uX l n b∧St H w' σ:=by
 obtain ⟨at_,ct,rfl⟩:=h1.shape
 have hm:=hl.many
 have hr:=fun {j i:Nat}=>yB hl.table (j:=j) (i:=i)
 refine Cl.o Tryz.func102 Tryz.ntmps102 ag1 ?_
 refine .aj (.bx hs fun b1 w hs=>?_)
 refine .z zg (.zn zg (.aj (.z (zfa cK) (.y hs (zld eb) (.z (da aZ) (.q hs (dD (f:=[]) (c:=[_]) rfl rfl) (.o (.call Tryz.call157 rfl (nz (cap:=[Pt b1]) (p:=fun i=>l.length≤(fb0 l.table i).len) hs ak Tryz.call158 (fun w i hi hs=>oK hs h1 hi)) ?_))))))));rintro _ w ⟨k,rfl,hk,hlo,hhi,hs⟩
 have hbig:∀i<l.table.length,k≤i→l.length≤(fb0 l.table i).len:=fun i hi hki=>by
  by_cases e:i=k
  ·subst e;exact hhi hi
  ·have:=hr (show k<i by omega) hi
   have:=hhi ak
   omega
 have hsml:∀i<k,(fb0 l.table i).len<l.length:=fun i hi=>by
  by_cases e:i=k - 1
  ·subst e;have:=hlo ak;omega
  ·have:=hr (show i<k - 1 by omega) ak
   have:=hlo ak
   omega
 refine .zn zg (.seq (.block (.aj (.z zm (.z (zfa cK) (.y hs (zld eb) (.z (da aZ) (.z fF (.zn zg (.bn rfl (fun hc12=>?_) (fun hc12=>?_)))))))))))
 ·refine .aj (.z zg (.zn zg (.ret (rB (rT (Fin.ij Tryz.results102 rfl rfl ?_))))))
  exact ⟨_,_,rfl,.none (fun i hi h=>by have:=hsml i ak;omega) (fun i hi h0 h=>by have:=hsml i ak;omega),hs.out⟩
 ·refine .seq (.draw mix rfl hs fun w hs=>?_)
  refine .zw 0 rfl (zfa cK) ?_;refine .y 1 rfl hs eb ?_;refine .z 2 rfl zm ?_
  have hk':k<l.table.length:=by omega
  have hx:=mF hk'
  have hx1:=mF (l:=l.table) (i:=k - 1) ak
  refine .ixX (enc:=Fbd.c) (i:=3) hs rfl aH .none h1 rfl rfl aZ bE hx rfl ?_;intro b22 o22 hc22
  refine .zw 4 rfl (zfa bO) (.r (i:=5) hs rfl aH .none (aP rfl ae (hc22.get 0 rfl)) ?_)
  refine .zw 6 rfl (zfa eg) ?_;refine .y 7 rfl hs ae ?_;refine .z 8 rfl fF ?_;refine .z 9 rfl zg ?_;refine .D hs ?_
  refine (.bn rfl (fun hc18=>?_) (fun hc18=>?_))
  ·refine .aj (.z (zfa cK) (.y hs (zld eb) (.z zm (.ixX (enc:=Fbd.c) hs h1 rfl rfl aZ bE hx rfl ?_))));intro b31 o31 hc31
   refine .z (zfa dB) (.q hs (aP rfl ae (hc31.get 1 rfl)) (.z zg (.zn zg (.ret (rB (rT (Fin.ij Tryz.results102 rfl rfl ?_)))))))
   exact ⟨_,_,rfl,.at_ hk' hc18,hs.out⟩
  ·refine .aj (.z zm (.z fF (.zn zg (.bn rfl (fun hc34=>?_) (fun hc34=>?_)))))
   ·refine .aj (.z zg (.zn zg (.ret (rB (rT (Fin.ij Tryz.results102 rfl rfl ?_))))))
    obtain rfl:k=0:=by omega
    exact ⟨_,_,rfl,.none (fun i hi h=>by
     by_cases e:i=0
     ·subst e;exact hc18 h
     ·have:=hr (show 0<i by omega) hi;have:=hbig 0 hk' ak;omega) (fun i hi h0 h=>by have:=hbig (i - 1) ak ak;omega),hs.out⟩
   ·refine .skip (nB (nT (.cut (fun fs w=>∃b5 b6,lF fs ⟨69,[],[(6,Pt b6),(5,Pt b5),(1,Pt b1)]⟩∧St H w (.blk b6 (fb0 l.table k).c:: .blk b5 (fb0 l.table (k - 1)).c:: .blk b1 [I l.length,I l.depth,.slice at_ l.table.length ct,vs]::σ)) ?_ ?_)))
    ·refine .draw mix rfl hs fun w hs=>?_
     refine .zw 0 rfl (zfa cK) ?_;refine .y 1 rfl hs eb ?_;refine .z 2 rfl zm ?_;refine .z 3 rfl fM ?_
     refine .ixX (enc:=Fbd.c) (i:=4) hs rfl aH .none h1 rfl rfl aZ bE hx1 ak ?_;intro b41 o41 hc41
     refine .r (i:=5) hs rfl aH .none (bQ (vs:=(fb0 l.table (k - 1)).c) rfl Tryz.isAgg134 bE hc41) ?_
     refine .zw 6 rfl (zfa cK) ?_;refine .y 7 rfl hs eb ?_;refine .z 8 rfl zm ?_
     refine .ixX (enc:=Fbd.c) (i:=9) hs rfl aH .none h1 rfl rfl aZ bE hx rfl ?_;intro b46 o46 hc46
     refine .r (i:=10) hs rfl aH .none (bQ (vs:=(fb0 l.table k).c) rfl Tryz.isAgg134 bE hc46) ?_
     refine .e2 (i:=11) (j:=12) aH rfl rfl rfl rfl .none .none hs ?_ ?_
     ·refine .alloc hs ig rfl ?_;intro b5 w hs
      refine .go (.E 12 hs ?_)
      refine .alloc hs ig rfl ?_;intro b6 w hs
      refine .go (.E 13 hs ?_)
      refine .aU (vs:=(fb0 l.table (k - 1)).c) hs rfl rfl bE ?_;intro w hs
      refine .go (.E 14 hs ?_)
      refine .aU (vs:=(fb0 l.table k).c) hs rfl rfl bE ?_;intro w hs
      refine .go (.D hs ?_)
      exact nT ⟨b5,b6,a6,hs.sb⟩
     ·refine .alloc hs ig rfl ?_;intro b6 w hs
      refine .go (.E 11 hs ?_)
      refine .alloc hs ig rfl ?_;intro b5 w hs
      refine .go (.E 13 hs ?_)
      refine .aU (vs:=(fb0 l.table (k - 1)).c) hs rfl rfl bE ?_;intro w hs
      refine .go (.E 14 hs ?_)
      refine .aU (vs:=(fb0 l.table k).c) hs rfl rfl bE ?_;intro w hs
      refine .go (.D hs ?_)
      exact nT ⟨b5,b6,a6,hs.sb⟩
    ·rintro fs w ⟨b5,b6,hfs,hs⟩
     refine WE.sub ?_ hfs
     clear hfs
     change St _ _ (.blk b6 [I (fb0 l.table k).len,I (fb0 l.table k).least]:: .blk b5 [I (fb0 l.table (k - 1)).len,I (fb0 l.table (k - 1)).least]::_) at hs
     have h3:=hsml (k - 1) ak
     have h4:l.length<(fb0 l.table k).len:=by have:=hbig k hk' (Nat.le_refl _);omega
     have hX:=DM hl hk' h3 h4
     have a1:=hl.table (k - 1) ak
     have a2:=a1.len
     have a3:=a1.least
     have b2:=(hl.table k hk').len
     have b3:=(hl.table k hk').least
     have hL:=hl.length
     refine .seq (.draw mix rfl hs fun w hs=>?_)
     refine .zw 0 rfl (zfa dB) ?_;refine .y 1 rfl hs ae ?_;refine .z 2 rfl (zfa dB) ?_;refine .y 3 rfl hs ae ?_;refine .z 4 rfl fM ?_;refine .z 5 rfl (zfa eg) ?_;refine .y 6 rfl hs ae ?_;refine .z 7 rfl (zfa bO) ?_;refine .y 8 rfl hs ae ?_;refine .z 9 rfl fM ?_
     refine .zw 10 rfl jN ?_;refine .z 11 rfl (zfa bO) ?_;refine .y 12 rfl hs ae ?_;refine .z 13 rfl (zfa bO) ?_;refine .y 14 rfl hs ae ?_;refine .z 15 rfl fM ?_;refine .z 18 rfl (zfa dB) ?_;refine .y 19 rfl hs ae ?_
     refine .E 16 hs ?_
     refine .call Tryz.call140 rfl (qb hs ak ak) ?_;rintro _ w ⟨rfl,hs⟩
     refine .go (.zw 17 rfl Ev ?_);refine .z 20 rfl cu ?_;refine .z 21 rfl zg ?_;refine .z 22 rfl zg ?_;refine .D hs ?_
     refine .ret (Fin.ij Tryz.results102 rfl rfl ?_)
     have hmid:=uX.mid hk' ak h3 h4
     unfold zM at hmid
     exact ⟨_,_,rfl,(by rw [show ∀a b:Int,-a+b=b - a from fun a b=>by omega];exact hmid),hs.out⟩
theorem qB{l:Lns}{vt vs:Value}(hs:St H w σ)(h1:RFb H vt l.table)(h2:RSn H vs l.seasons):
  Cl Tryz.prog 37 [.agg #[I l.length,I l.depth,vt,vs]] w fun u w'=>∃n e,u= .tuple #[I n,I e]∧yT l n e∧St H w' σ:=by
 refine Cl.o Tryz.func37 Tryz.ntmps37 ag1 ?_
 refine .aj (.bx hs fun b1 w hs=>?_)
 refine .z zg (.zn zg (.seq (.aj (.y hs (zls [_,_,_,_] bB aW) (.o (.call Tryz.call19 rfl (jo hs h1 h2) ?_))))));rintro _ w ⟨e,rfl,he,hs⟩
 refine .zn zg (.aj (.z zm (.zn hZ (.dZ rfl (fun hc10=>?_) (fun hc10=>?_)))))
 ·refine .aj (.z zm (.z zg (.zn zg (.ret (rT (Fin.ij Tryz.results37 rfl rfl ?_))))))
  have h:=he.resolve_left fun h=>hc10 h.2
  exact ⟨_,_,rfl,by rw [h.2];exact .lines h.1,hs.out⟩
 ·refine .skip (nT (.aj (.y hs (zls [_,_,_,_] bB aW) ?_)))
  have hok:iE l:=(he.resolve_right fun h=>by omega).1
  refine .o (.call Tryz.call102 rfl (jH hs h1 hok) ?_);rintro _ w ⟨n,b,rfl,hF,hs⟩
  refine .z zm (.z zex (.z zex (.z zg (.zn zg (.seq (.aj (.z zm (.zn fI (.cond rfl (fun hc18=>?_) (fun hc18=>?_))))))))))
  ·refine .aj (.z zg (.zn zg (.ret (rT (Fin.ij Tryz.results37 rfl rfl ?_)))))
   obtain rfl:b=false:=by simpa using hc18
   exact ⟨_,_,rfl,.none hok hF,hs.out⟩
  ·refine .skip (nT (.aj (.z zm (.z zg (.zn zg (.ret (Fin.ij Tryz.results37 rfl rfl ?_)))))))
   obtain rfl:b=true:=by simpa using hc18
   exact ⟨_,_,rfl,.ok hok hF,hs.out⟩
theorem oM{d:Int}(hs:St H w σ)(h:0≤d):Cl Tryz.prog 106 [I d] w fun v w'=>v=I (1+d%365)∧St H w' σ:=by
 have e:d.tmod 365=d%365:=Int.tmod_eq_emod_of_nonneg h
 refine Cl.o Tryz.func106 Tryz.ntmps106 ag1 ?_
 refine .aj (.zn zg (.aj (.z zm (.z Ag ?_))))
 rw [e]
 refine .z cu (.zn zg (.ret (Fin.bq Tryz.results106 rfl ?_)))
 exact ⟨rfl,hs⟩
theorem wQ{s:Ssn}{d:Int}(hs:St H w σ):Cl Tryz.prog 159 [.agg #[I s.zone,I s.fr,I s.to,I s.extra],I d] w fun v w'=>v= .bool (decide (uv s d))∧St H w' σ:=by
 refine Cl.o Tryz.func159 Tryz.ntmps159 ag2 ?_
 refine .aj (.bx hs fun b2 w hs=>?_)
 refine .zn zg (.seq (.aj (.z (zfa eI) (.y hs (zld ae) (.z (zfa eH) (.y hs (zld ae) (.zn k7 (.bn rfl (fun hc9=>?_) (fun hc9=>?_)))))))))
 ·refine .aj (.z zm (.z (zfa eI) (.y hs (zld ae) (.z uF (.z zm (.ie (t':=14) rfl (fun hb14=>?_) (fun hb14=>?_)))))))
  ·refine .Fs 4 4 false (.z zpT (.zn zg (.ret (rT (Fin.bq Tryz.results159 rfl (⟨?_,hs.out⟩))))))
   congr 1
   have e:¬s.fr≤s.to:=by omega
   simp only [uv,if_neg e]
   symm
   simp [*]
  ·refine .T (.z zm (.T (.z (zfa eH) (.T (.y hs (zld ae) (.T (.z nb (.z zpF (.zn zg (.ret (rT (Fin.bq Tryz.results159 rfl (⟨?_,hs.out⟩)))))))))))))
   congr 1
   have e:¬s.fr≤s.to:=by omega
   simp only [uv,if_neg e]
   simp [*]
 ·refine .skip (nT (.aj (.z zm (.z (zfa eI) (.y hs (zld ae) (.z (zfa eH) (.y hs (zld ae) (.o (.call eM rfl (cn hs) ?_)))))))));rintro _ w ⟨rfl,hs⟩
  refine .zn zg (.ret (Fin.bq Tryz.results159 rfl (⟨?_,hs.out⟩)))
  congr 1
  have e:s.fr≤s.to:=by omega
  simp only [uv,if_pos e]
theorem oL{l:Lns}{vt vs:Value}{z d:Int}(hs:St H w σ)(h2:RSn H vs l.seasons)(hl:iE l):
  Cl Tryz.prog 105 [.agg #[I l.length,I l.depth,vt,vs],I z,I d] w fun v w'=>v=I (jf l.seasons z d)∧St H w' σ:=by
 obtain ⟨as_,cs,rfl⟩:=h2.shape
 have hm:=hl.most
 refine Cl.o Tryz.func105 Tryz.ntmps105 ag3 ?_
 refine .aj (.bx hs fun b3 w hs=>?_)
 refine .zn zg (.aj (.zn zg (.seq (.aj (.z (zfa cU) (.y hs (zld eF) (.z (da bu) (.zn zm (.for (N:=l.seasons.length) (J:=fun k fr w=>fr=[(7,I (jf (l.seasons.take k) z d)),(11,.slice as_ l.seasons.length cs),(1,I z),(2,I d)]∧St H w σ) ak ?_ ?_ ?_)))))))))
 ·exact .mk ⟨rfl,hs.out⟩
 ·rintro k fr w hk ⟨rfl,hs⟩
  obtain ⟨s,hx⟩:=nth hk
  have hE:=qH (l.seasons.take k) s z d
  rw [←dj hx] at hE
  refine .block (.aj (.ixX (enc:=Ssn.c) hs h2 rfl rfl bu cE hx cz ?_));intro b15 o15 hc15
  refine .q hs (bQ (vs:=(Ssn.c s)) rfl HF cE hc15) (.o (.alloc hs pV rfl fun b9 w hs=>?_))
  refine .o (.aU (vs:=s.c) hs rfl rfl cE fun w hs=>?_)
  change St _ _ (.blk b9 [I s.zone,I s.fr,I s.to,I s.extra]::_) at hs
  refine .nil (.aj (.z (zfa iW) (.y hs (zld ae) (.z zm (.z fF (.z zm (.ie (t':=21) rfl (fun hb21=>?_) (fun hb21=>?_))))))))
  ·refine .T (.y hs (zls [_,_,_,_] HF cE) (.T (.z zm (.T (.o (.call Tryz.call159 rfl (wQ (s:=s) hs) ?_))))));rintro _ w ⟨rfl,hs⟩
   refine .zn zpT (.cond rfl (fun hc25=>?_) (fun hc25=>?_))
   ·refine .region (.z zm (.z (zfa iV) (.y hs (zld ae) (.z Bb (.zn zg (nB (nT ?_)))))))
    rw [if_pos ⟨by assumption,by simpa using hc25⟩] at hE
    exact .mk ⟨by rw [hE],hs.out⟩
   ·refine .skip (nB (nT ?_))
    rw [if_neg (fun h=>of_decide_eq_false hc25 h.2)] at hE
    exact .mk ⟨by rw [hE],hs.out⟩
  ·refine .Fs 3 4 true (.zn zpF (.cF (.skip (nB (nT ?_)))))
   rw [if_neg (fun h=>by have:=h.1;contradiction)] at hE
   exact .mk ⟨by rw [hE],hs.out⟩
 ·rintro fr w ⟨rfl,hs⟩
  rw [List.take_length]
  refine nT (.aj (.z zm (.zn zg (.ret (Fin.bq Tryz.results105 rfl ?_)))))
  exact ⟨rfl,hs⟩
theorem rG{l:Lns}{vt vs:Value}{z d:Int}(hs:St H w σ)(h1:RFb H vt l.table)(h2:RSn H vs l.seasons):
  Cl Tryz.prog 104 [.agg #[I l.length,I l.depth,vt,vs],I z,I d] w fun v w'=>∃e,v=I e∧A8 l z d e∧St H w' σ:=by
 refine Cl.o Tryz.func104 Tryz.ntmps104 ag3 ?_
 refine .aj (.bx hs fun b3 w hs=>?_)
 refine .zn zg (.seq (.aj (.y hs (zls [_,_,_,_] bB aW) (.o (.call Tryz.call19 rfl (jo hs h1 h2) ?_)))));rintro _ w ⟨e,rfl,he,hs⟩
 refine .zn zg (.aj (.z zm (.zn hZ (.dZ rfl (fun hc11=>?_) (fun hc11=>?_)))))
 ·refine .aj (.z zm (.zn zg (.ret (rT (Fin.bq Tryz.results104 rfl ?_)))))
  have h:=he.resolve_left fun h=>hc11 h.2
  exact ⟨_,rfl,by rw [h.2];exact .lines h.1,hs.out⟩
 ·refine .skip (nT (.seq (.block (.aj ?_))))
  have hok:iE l:=(he.resolve_right fun h=>by omega).1
  refine .z zm (.o (.call Tryz.call73 rfl (kP hs) ?_));rintro _ w ⟨rfl,hs⟩
  refine .z fI (.zn zg (.cond rfl (fun hc13=>?_) (fun hc13=>?_)))
  ·refine .aj (.zn zg (.ret (rB (rT (Fin.bq Tryz.results104 rfl ?_)))))
   exact ⟨_,rfl,.zone hok (by simp at hc13;omega),hs.out⟩
  ·refine .aj (.z zm (.o (.call eM rfl (cn hs) ?_)));rintro _ w ⟨rfl,hs⟩
   refine .z fI (.zn zg (.cond rfl (fun hc17=>?_) (fun hc17=>?_)))
   ·refine .aj (.zn zg (.ret (rB (rT (Fin.bq Tryz.results104 rfl ?_)))))
    exact ⟨_,rfl,.day hok (by simpa using hc13) (by simp at hc17;omega),hs.out⟩
   ·refine .skip (nB (nT (.aj (.zn zg (.ret (Fin.bq Tryz.results104 rfl ?_))))))
    exact ⟨_,rfl,.ok hok (by simpa using hc13) (by simpa using hc17),hs.out⟩
theorem uj{l:Lns}{vt vs:Value}{z d:Int}(hs:St H w σ)(h1:RFb H vt l.table)(h2:RSn H vs l.seasons):
  Cl Tryz.prog 41 [.agg #[I l.length,I l.depth,vt,vs],I z,I d] w fun u w'=>∃n e,u= .tuple #[I n,I e]∧CG l z d n e∧St H w' σ:=by
 refine Cl.o Tryz.func41 Tryz.ntmps41 ag3 ?_
 refine .aj (.bx hs fun b3 w hs=>?_)
 refine .z zg (.zn zg (.seq (.aj (.y hs (zls [_,_,_,_] bB aW) (.z zm (.z zm (.o (.call Tryz.call104 rfl (rG hs h1 h2) ?_))))))));rintro _ w ⟨e,rfl,he,hs⟩
 refine .zn zg (.aj (.z zm (.zn hZ (.dZ rfl (fun hc16=>?_) (fun hc16=>?_)))))
 ·refine .aj (.z zm (.z zg (.zn zg (.ret (rT (Fin.ij Tryz.results41 rfl rfl ?_))))))
  exact ⟨_,_,rfl,.bad he hc16,hs.out⟩
 ·refine .skip (nT (.aj (.y hs (zls [_,_,_,_] bB aW) ?_)))
  obtain rfl:e=0:=by omega
  obtain ⟨hok,hz,hd⟩:=he.zero
  refine .o (.call Tryz.call102 rfl (jH hs h1 hok) ?_);rintro _ w ⟨n,b,rfl,hF,hs⟩
  refine .z zm (.z zex (.z zex (.z zg (.zn zg (.seq (.aj (.z zm (.zn fI (.cond rfl (fun hc24=>?_) (fun hc24=>?_))))))))))
  ·refine .aj (.z zg (.zn zg (.ret (rT (Fin.ij Tryz.results41 rfl rfl ?_)))))
   obtain rfl:b=false:=by simpa using hc24
   exact ⟨_,_,rfl,.none he hF,hs.out⟩
  ·refine .skip (nT (.seq (.draw mix rfl hs fun w hs=>?_)))
   obtain rfl:b=true:=by simpa using hc24
   have hn:=hF.bd hok
   have hdp:=hok.depth
   have hE:=rO hok.seasons z (1+d%365)
   refine .zw 0 rfl (zfa iC) ?_;refine .y 1 rfl hs ae ?_;refine .z 2 rfl zm ?_;refine .z 3 rfl fM ?_;refine .ys 4 rfl hs [_,_,_,_] bB aW ?_;refine .z 5 rfl zm ?_;refine .z 6 rfl zm ?_
   refine .E 7 hs ?_
   refine .call Tryz.call106 rfl (oM hs hd.1) ?_;rintro _ w ⟨rfl,hs⟩
   refine .go (.E 8 hs ?_)
   refine .call Tryz.call105 rfl (oL hs h2 hok) ?_;rintro _ w ⟨rfl,hs⟩
   refine .go (.zw 9 rfl fM ?_);refine .z 10 rfl zg ?_;refine .z 11 rfl zg ?_;refine .D hs ?_
   refine .ret (Fin.ij Tryz.results41 rfl rfl ?_)
   exact ⟨_,_,rfl,.ok he hF,hs.out⟩
theorem s4{s:Spc}{vst vwa:Value}{h:Int}{b c i:Nat}(hs:St H w (.blk c [I h]:: .blk b [I s.id,I s.src,vst,vwa,I s.al,I s.up]::σ))(h2:RI H vwa s.wa)(hi:i<s.wa.length)(hok:eY s):
  Cl Tryz.prog 166 [I (i:Int),Pt b,Pt c] w fun u w'=>∃bb:Bool,u= .bool bb∧(bb=true↔h<gi s.wa i - gi s.wa 0)∧St H w' (.blk c [I h]:: .blk b [I s.id,I s.src,vst,vwa,I s.al,I s.up]::σ):=by
 obtain ⟨awa,cwa,rfl⟩:=RI.shape h2
 have b1:=hok.wa.bd hi
 have b2:=hok.wa.bd (i:=0) ak
 refine Cl.o Tryz.func166 Tryz.ntmps166 ag3 ?_
 refine .aj (.zn zg (.seq (.draw mix rfl hs fun w hs=>?_)))
 refine .zw 0 rfl (zfa a8) ?_;refine .y 1 rfl hs an ?_;refine .z 2 rfl zm ?_
 refine .ixX (enc:=fun x=>[I x]) (i:=3) hs rfl aH .none h2 rfl rfl af ai (bJ (l:=s.wa) (i:=i) ak) cz ?_;intro b8 o8 hc8;replace hc8:=bL.one hc8
 refine .r (i:=4) hs rfl aH .none (aP rfl ae hc8) ?_
 refine .zw 5 rfl (zfa a8) ?_;refine .y 6 rfl hs an ?_
 refine .ixX (enc:=fun x=>[I x]) (i:=7) hs rfl aH .none h2 rfl rfl af ai (bJ (l:=s.wa) (i:=0) ak) cz ?_;intro b12 o12 hc12;replace hc12:=bL.one hc12
 refine .r (i:=8) hs rfl aH .none (aP rfl ae hc12) ?_
 refine .zw 9 rfl fM ?_;refine .y 10 rfl hs ae ?_;refine .z 11 rfl k7 ?_;refine .z 12 rfl zg ?_;refine .D hs ?_
 refine .ret (Fin.bq Tryz.results166 rfl ?_)
 exact ⟨_,rfl,bT,hs⟩
theorem vX{s:Spc}{vst vwa:Value}{h:Int}(hs:St H w σ)(h2:RI H vwa s.wa)(hok:eY s):
  Cl Tryz.prog 112 [.agg #[I s.id,I s.src,vst,vwa,I s.al,I s.up],I h] w fun u w'=>∃k,u=I k∧wK s.wa h k∧St H w' σ:=by
 obtain ⟨awa,cwa,rfl⟩:=RI.shape h2
 have hm:=hok.wa.many
 have hr:=fun {i j:Nat}=>hok.wa.le (i:=i) (j:=j)
 refine Cl.o Tryz.func112 Tryz.ntmps112 ag2 ?_
 refine .aj (.bx hs fun b2 w hs=>?_)
 refine .bx hs fun b3 w hs=>?_
 refine .zn zg (.aj (.z (zfa a8) (.y hs (zld an) (.z (da af) (.q hs (dD (f:=[]) (c:=[_,_]) rfl rfl) (.o (.call Tryz.call157 rfl (nz (cap:=[Pt b2,Pt b3]) (p:=fun i=>h<gi s.wa i - gi s.wa 0) hs ak Tryz.call166 (fun w i hi hs=>s4 hs h2 hi hok)) ?_)))))));rintro _ w ⟨k,rfl,hk,hlo,hhi,hs⟩
 refine .z fM (.zn zg (.ret (Fin.bq Tryz.results112 rfl (⟨_,rfl,⟨ak,ak,fun i hi=>⟨fun g=>?_,fun g=>?_⟩⟩,hs.out⟩))))
 ·by_cases e:(i:Int)≤k - 1
  ·exact e
  ·have h3:=hhi ak
   have:=hr (show k≤i by omega) hi;omega
 ·have h3:=hlo ak
  have:=hr (show i≤k - 1 by omega) ak;omega
def wV(x:Lg):List (List Value):=(List.range (kS x)).map fun j=>[I (1+(x.fr+(j:Nat))%365)]
theorem pb(x:Lg):(wV x).length=kS x:=by simp [wV]
theorem zW{x:Lg}{j:Nat}(h:j<(wV x).length):(wV x)[j]=[I (1+(x.fr+j)%365)]:=by simp [wV]
theorem ui{H:bV}{b:Nat}{x:Lg}(hb:Row H b [I x.zone,I x.fr,I x.to,I x.dlo,I x.dhi,I x.blo,I x.bhi])(hx:A5 x):
  Iter Tryz.prog 218 [Pt b] H (wV x):=by
 intro ly II Ix hmI _ hy H0 σb0 σf w hle hI0 hs
 have g1:cellAt H0 b 1=some (I x.fr):=cellAt.mono (hb.at 1) hle
 have hd:=rQ hx
 have hdn:(kS x:Int)=min x.to (x.fr+364) - x.fr+1:=by have:=hx.fr;unfold kS;omega
 have hf:=hx.fr
 have ht:=hx.to
 refine Cl.o Tryz.func218 Tryz.ntmps218 ag2 ?_
 refine .aj (.z (zfa fl) (.y hs (zld ae) (.zn zg (.block ?_))))
 refine .loop (fun j:Nat=>⟨22,[],[(3,I (x.fr+(j:Int))),(0,.func (.yield ly) #[] #[]),(1,Pt b)]⟩)
  (fun j w=>j≤kS x∧∃H1 σb,HLe H H1∧HLe H0 H1∧II j H1 σb∧St H1 w (σb++σf)) (fun j=>kS x - j) 0 (.cons (by show some (I _)=some (I _);congr 2;omega) a6)
  ⟨Nat.zero_le _,H0,σb0,hle,HLe.refl _,hI0,hs⟩ ?_
 rintro j w ⟨hj,H1,σb,hle1,hle0,hI,hs⟩
 have h1:cellAt H1 b 1=some (I x.fr):=cellAt.mono (hb.at 1) hle1
 have h2:cellAt H1 b 2=some (I x.to):=cellAt.mono (hb.at 2) hle1
 refine .seq (.aj (.z zm (.z (zfa fk) (.y hs (zld ae) (.z (zfa fl) (.y hs (zld ae) (.z cu (.z fM (.z Al (.zn nb (.bn rfl (fun hc14=>?_) (fun hc14=>?_))))))))))))
 ·refine .skip (nT (.seq (.block (.aj (.z zm (.z zm (.o (.call Tryz.call106 rfl (oM hs ak) ?_))))))));rintro _ w ⟨rfl,hs⟩
  have hk':j<(wV x).length:=by rw [pb];omega
  have hyd:=hy j hk' H1 σb σf w hle1 hI hs
  rw [zW hk'] at hyd
  refine .o (.yield rfl rfl hyd ?_);rintro v20 w ⟨H5,σ5,g1,hs,g3'⟩
  obtain ⟨bb,rfl,gT,gF⟩:=ot g3'
  refine .zn fI (.cond rfl (fun hc21=>?_) (fun hc21=>?_))
  ·refine .ret (rB (rT (rT (rB (Fin.Ho Tryz.results218 ?_)))))
   exact ⟨H5,σ5,hle0.trans g1,hs,.inr (gF (by simpa using hc21))⟩
  ·refine .skip (nB (nT (.region (.z zm (.z cu (.zn zg (nT ?_)))))))
   exact ⟨j+1,.cons (by show some (I _)=some (I _);congr 2;omega) a6,⟨ak,H5,σ5,hle1.trans g1,hle0.trans g1,gT (by simpa using hc21),hs⟩,ak⟩
 ·refine .exit (xT (xT (xB ?_)))
  obtain rfl:j=kS x:=by omega
  exact Fin.zV Tryz.results218 ⟨H1,σb,hle0,hs,.inl (by rw [pb];exact hI)⟩
theorem wR{x:Lg}(hs:St H w σ)(hx:A5 x):
  Cl Tryz.prog 169 [.agg #[I x.zone,I x.fr,I x.to,I x.dlo,I x.dhi,I x.blo,I x.bhi]] w fun u w'=>∃H1 b,HLe H H1∧u= .func (.func 218) #[] #[Pt b]∧Iter Tryz.prog 218 [Pt b] H1 (wV x)∧St H1 w' σ:=by
 refine Cl.o Tryz.func169 Tryz.ntmps169 ag1 ?_
 refine .aj (.bx hs fun b1 w hs=>?_)
 refine .zn zg (.aj (.q hs (dD (f:=[]) (c:=[_]) rfl rfl) (.zn zg (.ret (Fin.bq Tryz.results169 rfl ?_)))))
 obtain ⟨H1,g1,g2,hs⟩:=hs.cQ .here
 exact ⟨H1,b1,g1,rfl,ui g2 hx,hs⟩
set_option maxHeartbeats 1000000 in
theorem uf{s:Spc}{l:Lns}{x:Lg}{vst vwa vt vs:Value}(hs:St H w σ)(g2:RI H vwa s.wa)(h1:RFb H vt l.table)(h2:RSn H vs l.seasons)(hsp:eY s)(hl:iE l)(hx:A5 x):
  Cl Tryz.prog 115 [.agg #[I s.id,I s.src,vst,vwa,I s.al,I s.up],.agg #[I l.length,I l.depth,vt,vs],.agg #[I x.zone,I x.fr,I x.to,I x.dlo,I x.dhi,I x.blo,I x.bhi]] w fun u w'=>∃H1 k e,HLe H H1∧u= .tuple #[I k,I e]∧w5 s.wa l x k e∧St H1 w' σ:=by
 refine Cl.o Tryz.func115 Tryz.ntmps115 ag3 ?_
 refine .aj (.bx hs fun b3 w hs=>?_)
 refine .bx hs fun b4 w hs=>?_
 refine .bx hs fun b5 w hs=>?_
 refine .z zg (.zn zg (.aj (.y hs (zls [_,_,_,_] bB aW) (.o (.call Tryz.call102 rfl (jH hs h1 hl) ?_)))));rintro _ w ⟨n,b,rfl,hF,hs⟩
 refine .z zm (.z zex (.z zex (.z zg (.zn zg (.seq (.aj (.z zm (.zn fI (.cond rfl (fun hc19=>?_) (fun hc19=>?_))))))))))
 ·refine .aj (.z zg (.zn zg (.ret (rT (?_)))))
  obtain rfl:b=false:=by simpa using hc19
  exact Fin.ij Tryz.results115 rfl rfl ⟨H,_,_,HLe.refl H,rfl,.none hF,hs.out⟩
 ·refine .skip (nT (.aj (.o (.alloc hs cq rfl fun b10 w hs=>?_))))
  refine .o (.store hs rfl rfl ai fun w hs=>?_)
  refine .nil (.seq (.aj (.y hs (zls [_,_,_,_,_,_,_] fE aN) ?_)))
  obtain rfl:b=true:=by simpa using hc19
  have hn:=hF.bd hl
  have hdp:=hl.depth
  refine .o (.call Tryz.call169 rfl (wR hs hx) ?_);rintro _ w ⟨H1,bd,hle1,rfl,hit,hs⟩
  refine .nil (.block ?_)
  refine .rangeFunc (gf:=218) (cap:=[Pt bd]) (xs:=wV x) (σb:=[.blk b10 [I 0],.blk b5 [I x.zone,I x.fr,I x.to,I x.dlo,I x.dhi,I x.blo,I x.bhi],.blk b4 [I l.length,I l.depth,vt,vs],.blk b3 [I s.id,I s.src,vst,vwa,I s.al,I s.up]]) (σf:=σ) hs trivial rfl hit Tryz.call218 (fun y hy=>by
    simp only [wV,List.mem_map] at hy
    obtain ⟨j,_,rfl⟩:=hy;rfl) rfl
   (I:=fun p H' σb=>σb=[.blk b10 [I (l6 l.seasons x.zone x.fr p)],.blk b5 [I x.zone,I x.fr,I x.to,I x.dlo,I x.dhi,I x.blo,I x.bhi],.blk b4 [I l.length,I l.depth,vt,vs],.blk b3 [I s.id,I s.src,vst,vwa,I s.al,I s.up]]) (Ix:=fun _ _ _=>False)
   (fun j _ _ σ g1 g2=>g2) (fun _ _ _ _ _ h=>h) rfl ?_ ?_ (fun D c H' σb w _ h _=>h.elim)
  ·rintro ly p hp H2 σb2 σf2 w hle2 rfl hs ⟨rr,hrr⟩
   rw [zW hp]
   refine .region (.zn zg (nT (⟨H2,_,HLe.refl _,hs,?_⟩)));rintro w σf4 - hs
   replace hs:St H2 w (.blk b10 [I (l6 l.seasons x.zone x.fr p)]:: .blk b5 [I x.zone,I x.fr,I x.to,I x.dlo,I x.dhi,I x.blo,I x.bhi]:: .blk b4 [I l.length,I l.depth,vt,vs]:: .blk b3 [I s.id,I s.src,vst,vwa,I s.al,I s.up]::σf4):=hs
   refine .block (.draw mix rfl hs fun w hs=>?_)
   refine .y 0 rfl hs ae ?_;refine .ys 1 rfl hs [_,_,_,_] bB aW ?_;refine .z 2 rfl (zfa kF) ?_;refine .y 3 rfl hs ae ?_;refine .z 4 rfl zm ?_
   refine .E 5 hs ?_
   refine .call Tryz.call105 rfl (oL hs (h2.mono (hle1.trans hle2)) hl) ?_;rintro _ w ⟨rfl,hs⟩
   refine .go (.zw 6 rfl Bb (.E 7 hs ?_))
   refine .store hs rfl rfl ai ?_;intro w hs
   refine .go (.D hs (nB ?_))
   exact ⟨H2,_,HLe.refl _,hs,rfl⟩
  ·rintro D H2 σb2 w hle2 rfl hs
   rw [pb] at hs
   have hle02:=hle1.trans hle2
   have hE:=Bt hl.seasons x.zone x.fr (kS x)
   replace hs:St H2 w (.obj D (.deferred (some [])):: .blk b10 [I (l6 l.seasons x.zone x.fr (kS x))]:: .blk b5 [I x.zone,I x.fr,I x.to,I x.dlo,I x.dhi,I x.blo,I x.bhi]:: .blk b4 [I l.length,I l.depth,vt,vs]:: .blk b3 [I s.id,I s.src,vst,vwa,I s.al,I s.up]::σ):=hs
   refine nB (nT (.seq (.aj (.y hs (zls [_,_,_,_,_,_] aK aA) (.z (zfa iC) (.y hs (zld ae) (.z zm (.z fM (.y hs (zld ae) (.z fM (.o (.call Tryz.call112 rfl (vX (s:=s) hs (g2.mono hle02) hsp) ?_))))))))))));rintro _ w ⟨k,rfl,hB,hs⟩
   refine .zn zg (.aj (.z zm (.zn uF (.bn rfl (fun hc39=>?_) (fun hc39=>?_)))))
   ·refine .aj (.z zm (.z zg (.zn zg (.ret (rT (?_))))))
    exact Fin.jt [D] [] hs fun w hs=>⟨_,results2 Tryz.results115 rfl rfl,H2,_,_,hle02,rfl,.ok hF hB hc39,hs.out⟩
   ·refine .skip (nT (.aj (.z zg (.zn zg (.ret ?_)))))
    have hk:=hB.low
    obtain rfl:k= -1:=by omega
    exact Fin.jt [D] [] hs fun w hs=>⟨_,results2 Tryz.results115 rfl rfl,H2,_,_,hle02,rfl,.above hF hB,hs.out⟩
theorem vE{v:Value}{l:List Rng}(hs:St H w σ)(hr:RRg H v l):Cl Tryz.prog 162 [v] w fun u w'=>RRg H u l∧St H w' σ:=by
 obtain ⟨a,c,rfl⟩:=hr.shape
 have hc:=RS.clip hr
 refine Cl.o Tryz.func162 Tryz.ntmps162 ag1 ?_
 refine .aj (.zn zg (.aj (.z zm (.z zm (.z (da dI) (.z zm (.z (da dI) (.q hs (Dc rfl rfl rfl dI aq (Nat.le_refl _) hc.1) (.zn zg (.ret (Fin.bq Tryz.results162 rfl ?_)))))))))))
 exact ⟨hc.2,hs⟩
theorem nF{r:List Lg}{vr:Value}{m:Rng}(hs:St H w σ)(h1:RLg H vr r)(hr:tn r)(hm:iy m.lo m.hi):
  Cl Tryz.prog 110 [.agg #[vr],.agg #[I m.lo,I m.hi]] w fun u w'=>∃H1,HLe H H1∧RRg H1 u (msL m r r.length)∧St H1 w' σ:=by
 obtain ⟨ar,cr,rfl⟩:=h1.shape
 have hn:=hr.many
 refine Cl.o Tryz.func110 Tryz.ntmps110 ag2 ?_
 refine .aj (.bx hs fun b2 w hs=>?_)
 refine .bx hs fun b3 w hs=>?_
 refine .zn zg (.aj (.y hs (zls [_,_] bh aq) (.o (.buildSlice (cells:=m.c) hs iH rfl aH fun b9 w hs=>?_))))
 refine .zn zg (.seq (.aj (.z (zfa bH) (.y hs (zld bY) (.z (da aF) (.zn zm (.for (N:=r.length) (J:=fun k fr w=>∃vo en,fr=[(5,vo),(11,.slice ar r.length cr),(3,Pt b3)]∧cN 2 vo (rgc (msL m r k)).flatten en∧St H w (en:: .blk b3 [I (kl m r k).lo,I (kl m r k).hi]::σ)) ak ?_ ?_ ?_)))))))
 ·exact .mk ⟨_,.blk b9 m.c,rfl,.full rfl,hs.sb⟩
 ·rintro k fr w hk ⟨vo,en,rfl,hO,hs⟩
  have hx:=kf (l:=r) hk
  have hb:=AI hm (fun i hi=>(hr.leg i hi).1) (i:=k) ak
  have hb2:=(hr.leg k hk).1.burn
  unfold iy at hb hb2
  have hml:=ke m r k
  obtain ⟨ao,co,rfl⟩:=hO.je (Ay _) ak
  refine .block (.aj (.ixX (enc:=Lg.c) hs h1 rfl rfl aF aN hx cz ?_));intro b15 o15 hc15
  refine .q hs (bQ (vs:=(Lg.c (lg0 r k))) rfl fE aN hc15) (.o (.alloc hs de rfl fun b7 w hs=>?_))
  refine .o (.aU (vs:=(lg0 r k).c) hs rfl rfl aN fun w hs=>?_)
  change St _ _ (.blk b7 [I (lg0 r k).zone,I (lg0 r k).fr,I (lg0 r k).to,I (lg0 r k).dlo,I (lg0 r k).dhi,I (lg0 r k).blo,I (lg0 r k).bhi]::_) at hs
  refine .nil (.aj (.z (zfa bN) (.y hs (zld ae) (.z (zfa fH) (.z (zfa cj) (.y hs (zld ae) (.z fM (.z Bb (.z (zfa cj) (.y hs (zld ae) (.z (zfa fH) (.z (zfa bN) (.y hs (zld ae) (.z fM (.z Bb (.z (zbd [_,_] cB) (.o (.aU (vs:=(kl m r (k+1)).c) hs rfl rfl aq fun w hs=>?_))))))))))))))))))
  change St _ _ (.blk b7 _::en:: .blk b3 [I (kl m r (k+1)).lo,I (kl m r (k+1)).hi]::σ) at hs
  refine .nil (.region (.z zm (.y hs (zls [_,_] bh aq) (.o (.buildSlice (cells:=(kl m r (k+1)).c) hs iH rfl aH fun b34 w hs=>?_)))))
  refine .o (.append (ys:=(kl m r (k+1)).c) hs jg rfl rfl hO (.own .here rfl rfl) (by simp [Rng.c,Value.oneCell']) (fun l h=>by rw [bU _ (Ay _),j9] at h;omega) ?_);intro v35 en35 w hO2 hs
  rw [←Bg,←Br] at hO2
  refine .zn zg (nB (nT ?_))
  exact .mk ⟨_,_,rfl,hO2,hs.sb⟩
 ·rintro fr w ⟨vo,en,rfl,hO,hs⟩
  obtain ⟨H1,hle1,hR,hs⟩:=cN.cQ (m:=2) hO (Ay _) ak (by rw [j9,ke];omega) hs .here
  refine nT (.aj (.z zm (.o (.call Tryz.call162 rfl (vE (l:=msL m r r.length) hs hR) ?_))));rintro v38 w ⟨hR2,hs⟩
  refine .zn zg (.ret (Fin.bq Tryz.results110 rfl ?_))
  exact ⟨H1,hle1,hR2,hs.out⟩
theorem D7{v:Srv}{out:List Int}{e:Int}(h:BV v out e)(hv:fD v):(e=0∧0<out.length∧¬v.sys.Sound)∨(e=3∧v.sys.Sound):=by
 cases h with
 |bad h he=>exact (he (h.dT.2 hv)).elim
 |ok _ h=>
  by_cases e0:e=0
  ·subst e0
   obtain ⟨_,h1,_,h2⟩:=h.conf
   exact .inl ⟨rfl,(by cases out with|nil=>exact (h2 rfl).elim|cons=>simp),h1⟩
  ·cases h with
   |bad h=>exact (h (v.sys.dT.2 hv.sys)).elim
   |none _ h=>exact .inr ⟨rfl,h⟩
   |ok=>exact (e0 rfl).elim
theorem mj{k:Int}(hs:St H w σ):Cl Tryz.prog 98 [I k] w fun u w'=>u= .agg #[I 1,I 0,I k]∧St H w' σ:=by
 refine Cl.o Tryz.func98 Tryz.ntmps98 ag1 ?_
 refine .aj (.o (.alloc hs Tryz.zeroValue113 rfl fun b2 w hs=>?_))
 refine .nil (.aj (.z zm (.z (zbd [_,_,_] tJ) (.o (.aU (vs:=[_,_,_]) hs rfl rfl gW fun w hs=>?_)))))
 refine .nil (.ret ?_)
 exact Fin.jt [] [] hs fun w hs=>⟨_,results1 Tryz.results98 (dK (vs:=[_,_,_]) hs rfl ny gW),rfl,hs.out⟩
theorem ug{s:Srv}{k:Nat}{a b c d:Value}(hs:St H w σ)(g:SvM H s a b c d)(hok:fD s):
  Cl Tryz.prog 122 [svA s a b c d,I (k:Int)] w fun u w'=>∃H1 lo hi e,HLe H H1∧u= .tuple #[.agg #[I lo,I hi],I e]∧yZ s k lo hi e∧St H1 w' σ:=by
 refine Cl.o Tryz.func122 Tryz.ntmps122 ag2 ?_
 refine .aj (.bx hs fun b2 w hs=>?_)
 refine .o (.alloc hs cf rfl fun b4 w hs=>?_)
 refine .zn zg (.seq (.aj (.z zm (.zn k7 (.bn rfl (fun hc9=>?_) (fun hc9=>?_))))))
 ·refine .seq (.draw mix rfl hs fun w hs=>?_)
  refine .ys 0 rfl hs [_,_,_,_,_,_,_,_] aQ aC ?_;refine .z 1 rfl zm ?_
  refine .E 2 hs ?_
  refine .call Tryz.call98 rfl (mj hs) ?_;rintro _ w ⟨rfl,hs⟩
  refine .go (.E 3 hs ?_)
  refine .call Tryz.call174 rfl (rA (s:=s) (q:=⟨1,0,k⟩) hs g.st g.wa g.rd g.cm) ?_;rintro _ w ⟨H1,lo,hi,e,hle1,rfl,hQ,hs⟩
  refine .go (.zw 4 rfl zex ?_);refine .z 5 rfl zex ?_
  refine .E 6 hs ?_
  refine .aU (vs:=[_,_]) hs rfl rfl aq ?_;intro w hs
  refine .go (.zw 7 rfl zg ?_);refine .D hs ?_
  refine .ret (rT (?_))
  exact Fin.jt [] [] hs fun w hs=>⟨_,results2 Tryz.results122 (dK (vs:=[_,_]) hs rfl bh aq) rfl,H1,_,_,_,hle1,rfl,.up ak hQ,hs.out⟩
 ·refine .skip (nT (.seq (.aj (.y hs (zls [_,_,_,_,_,_,_,_] aQ aC) ?_))))
  obtain rfl:k=0:=by omega
  refine .o (.call Tryz.call175 rfl (rz (s:=s) hs g.st g.wa g.rd g.cm) ?_);rintro _ w ⟨H1,vx,out,e,hle1,rfl,hX,hC,hs⟩
  have hcl:=D7 hC hok
  obtain ⟨ax,cx,rfl⟩:=RI.shape hX
  refine .z zm (.z zex (.z zex (.z zg (.zn zg (.aj (.z zm (.z fF (.z zm (.ie (t':=23) rfl (fun hb23=>?_) (fun hb23=>?_))))))))))
  ·refine .T (.z zm (.T (.z (da af) (.T (.z k7 (.zn zpT (.bn rfl (fun hc27=>?_) (fun hc27=>?_))))))))
   ·refine .aj (.z (zbd [_,_] cB) (.o (.aU (vs:=[_,_]) hs rfl rfl aq fun w hs=>?_)))
    refine .zn zg (.ret (rT (?_)))
    exact Fin.jt [] [] hs fun w hs=>⟨_,results2 Tryz.results122 (dK (vs:=[_,_]) hs rfl bh aq) rfl,H1,_,_,_,hle1,rfl,.fls rfl hok (by rcases hcl with h|h;exact h.2.2;omega),hs.out⟩
   ·refine .skip (nT (.aj (.z (zbd [_,_] cB) (.o (.aU (vs:=[_,_]) hs rfl rfl aq fun w hs=>?_)))))
    refine .zn zg (.ret ?_)
    exact Fin.jt [] [] hs fun w hs=>⟨_,results2 Tryz.results122 (dK (vs:=[_,_]) hs rfl bh aq) rfl,H1,_,_,_,hle1,rfl,.zero rfl hok (by rcases hcl with h|h;omega;exact h.2),hs.out⟩
  ·refine .Fs 3 2 true (.zn zpF (.cF (.skip (nT (.aj (.z (zbd [_,_] cB) (.o (.aU (vs:=[_,_]) hs rfl rfl aq fun w hs=>?_))))))))
   refine .zn zg (.ret ?_)
   exact Fin.jt [] [] hs fun w hs=>⟨_,results2 Tryz.results122 (dK (vs:=[_,_]) hs rfl bh aq) rfl,H1,_,_,_,hle1,rfl,.zero rfl hok (by rcases hcl with h|h;omega;exact h.2),hs.out⟩
theorem im{n d:Int}(hs:St H w σ)(hn: -4000000000000≤n∧n≤4000000000000)(hd: -100000≤d∧d≤100000):Cl Tryz.prog 99 [I n,I d] w fun v w'=>v=I (mE n d)∧St H w' σ:=by
 have hm:=jK (a:=n) (b:=d) (A:=4000000000000) (B:=100000) ak ak
 refine Cl.o Tryz.func99 Tryz.ntmps99 ag2 ?_
 refine .aj (.zn zg (.aj (.z zm (.z zm (.z jN (.o (.call Tryz.call140 rfl (qb hs ak ak) ?_)))))));rintro _ w ⟨rfl,hs⟩
 refine .zn zg (.ret (Fin.bq Tryz.results99 rfl ?_))
 exact ⟨rfl,hs⟩
theorem sZ{lo hi x y:Int}(hs:St H w σ)(h1: -200000000≤lo∧lo≤200000000)(h2: -200000000≤hi∧hi≤200000000)(hd:gH x y):
  Cl Tryz.prog 145 [.agg #[I lo,I hi],.agg #[I x,I y]] w fun v w'=>v= .agg #[I (ze lo x y),I (zf hi x y)]∧St H w' σ:=by
 unfold gH at hd
 refine Cl.o Tryz.func145 Tryz.ntmps145 ag2 ?_
 refine .aj (.bx hs fun b2 w hs=>?_)
 refine .bx hs fun b3 w hs=>?_
 refine .o (.alloc hs cf rfl fun b4 w hs=>?_)
 refine .nil (.seq (.draw mix rfl hs fun w hs=>?_))
 refine .zw 0 rfl (zfa bN) ?_;refine .y 1 rfl hs ae ?_;refine .z 2 rfl (zfa bN) ?_;refine .y 3 rfl hs ae ?_;refine .z 5 rfl (zfa bN) ?_;refine .y 6 rfl hs ae ?_;refine .z 7 rfl (zfa cj) ?_;refine .y 8 rfl hs ae ?_;refine .z 11 rfl (zfa cj) ?_;refine .y 12 rfl hs ae ?_
 refine .zw 13 rfl (zfa bN) ?_;refine .y 14 rfl hs ae ?_;refine .z 16 rfl (zfa cj) ?_;refine .y 17 rfl hs ae ?_;refine .z 18 rfl (zfa cj) ?_;refine .y 19 rfl hs ae ?_
 refine .E 4 hs ?_
 refine .call Tryz.call99 rfl (im hs ak ak) ?_;rintro _ w ⟨rfl,hs⟩
 refine .go (.E 9 hs ?_)
 refine .call Tryz.call99 rfl (im hs ak ak) ?_;rintro _ w ⟨rfl,hs⟩
 refine .go (.zw 10 rfl Al (.E 15 hs ?_))
 refine .call Tryz.call99 rfl (im hs ak ak) ?_;rintro _ w ⟨rfl,hs⟩
 refine .go (.E 20 hs ?_)
 refine .call Tryz.call99 rfl (im hs ak ak) ?_;rintro _ w ⟨rfl,hs⟩
 refine .go (.zw 21 rfl Bb ?_);refine .z 22 rfl (zbd [_,_] cB) ?_
 refine .E 23 hs ?_
 refine .aU (vs:=[_,_]) hs rfl rfl aq ?_;intro w hs
 refine .go (.D hs (.ret ?_))
 exact Fin.jt [] [] hs fun w hs=>⟨_,results1 Tryz.results145 (dK (vs:=[_,_]) hs rfl bh aq),rfl,hs.out⟩
theorem eS{s:Srv}{k:Nat}{a b c d:Value}{x y:Int}(hs:St H w σ)(g:SvM H s a b c d)(hok:fD s)(hd:gH x y):
  Cl Tryz.prog 88 [svA s a b c d,I (k:Int),.agg #[I x,I y]] w fun u w'=>∃H1 lo hi e,HLe H H1∧u= .tuple #[.agg #[I lo,I hi],I e]∧m9 s k x y lo hi e∧St H1 w' σ:=by
 refine Cl.o Tryz.func88 Tryz.ntmps88 ag3 ?_
 refine .aj (.bx hs fun b3 w hs=>?_)
 refine .bx hs fun b5 w hs=>?_
 refine .o (.alloc hs cf rfl fun b6 w hs=>?_)
 refine .zn zg (.aj (.y hs (zls [_,_,_,_,_,_,_,_] aQ aC) (.z zm (.o (.call Tryz.call122 rfl (ug (s:=s) hs g hok) ?_)))));rintro _ w ⟨H1,lo,hi,e,hle1,rfl,hL,hs⟩
 have hb:=hL.bd
 refine .z zm (.z zex (.z zex (.o (.alloc hs cf rfl fun b8 w hs=>?_))))
 refine .o (.aU (vs:=[_,_]) hs rfl rfl aq fun w hs=>?_)
 refine .zn zg (.seq (.aj (.z zm (.zn hZ (.dZ rfl (fun hc17=>?_) (fun hc17=>?_))))))
 ·refine .aj (.z (zbd [_,_] cB) (.z zm (.o (.aU (vs:=[_,_]) hs rfl rfl aq fun w hs=>?_))))
  refine .zn zg (.ret (rT (?_)))
  exact Fin.jt [] [] hs fun w hs=>⟨_,results2 Tryz.results88 (dK (vs:=[_,_]) hs rfl bh aq) rfl,H1,_,_,_,hle1,rfl,.fls hL hc17,hs.out⟩
 ·refine .skip (nT (.aj (.y hs (zls [_,_] bh aq) (.y hs (zls [_,_] bh aq) ?_))))
  obtain rfl:e=0:=by omega
  refine .o (.call Tryz.call145 rfl (sZ hs ak ak hd) ?_);rintro _ w ⟨rfl,hs⟩
  refine .o (.aU (vs:=[_,_]) hs rfl rfl aq fun w hs=>?_)
  refine .zn zg (.ret ?_)
  exact Fin.jt [] [] hs fun w hs=>⟨_,results2 Tryz.results88 (dK (vs:=[_,_]) hs rfl bh aq) rfl,H1,_,_,_,hle1,rfl,.ok hL,hs.out⟩
theorem oa{s:Srv}{k:Int}{a b c d:Value}{x y:Int}(hs:St H w σ)(g:SvM H s a b c d):
  Cl Tryz.prog 58 [svA s a b c d,I k,.agg #[I x,I y]] w fun u w'=>∃H1 lo hi e,HLe H H1∧u= .tuple #[.agg #[I lo,I hi],I e]∧Cv s k x y lo hi e∧St H1 w' σ:=by
 obtain ⟨aw,cw,rfl⟩:=RI.shape g.wa
 refine Cl.o Tryz.func58 Tryz.ntmps58 ag3 ?_
 refine .aj (.bx hs fun b3 w hs=>?_)
 refine .bx hs fun b5 w hs=>?_
 refine .o (.alloc hs cf rfl fun b6 w hs=>?_)
 refine .zn zg (.seq (.aj (.y hs (zls [_,_,_,_,_,_,_,_] aQ aC) (.o (.call Jw rfl (gu (s:=s) hs g.st g.wa g.rd g.cm) ?_)))));rintro _ w ⟨H1,e,hle1,rfl,hC,hs⟩
 refine .zn zg (.aj (.z zm (.zn hZ (.dZ rfl (fun hc12=>?_) (fun hc12=>?_)))))
 ·refine .aj (.z (zbd [_,_] cB) (.z zm (.o (.aU (vs:=[_,_]) hs rfl rfl aq fun w hs=>?_))))
  refine .zn zg (.ret (rT (?_)))
  exact Fin.jt [] [] hs fun w hs=>⟨_,results2 Tryz.results58 (dK (vs:=[_,_]) hs rfl bh aq) rfl,H1,_,_,_,hle1,rfl,.bad hC hc12,hs.out⟩
 ·refine .skip (nT (.seq (.block (.aj ?_))))
  have hok:fD s:=hC.dT.1 ak
  have hsm:=ez hok.early.1
  refine .z zm (.z (zfa bj) (.z (zfa a8) (.y hs (zld an) (.z (da af) (.z fM (.o (.call eM rfl (cn hs) ?_)))))));rintro _ w ⟨rfl,hs⟩
  refine .z fI (.zn zg (.cond rfl (fun hc15=>?_) (fun hc15=>?_)))
  ·refine .aj (.z (zbd [_,_] cB) (.o (.aU (vs:=[_,_]) hs rfl rfl aq fun w hs=>?_)))
   refine .zn zg (.ret (rB (rT (?_))))
   exact Fin.jt [] [] hs fun w hs=>⟨_,results2 Tryz.results58 (dK (vs:=[_,_]) hs rfl bh aq) rfl,H1,_,_,_,hle1,rfl,.water hok (by simp at hc15;omega),hs.out⟩
  ·refine .aj (.y hs (zls [_,_] bh aq) ?_)
   have hk:0≤k∧k≤(s.sp.wa.length:Int) - 1:=by simpa using hc15
   refine .o (.call Tryz.call118 rfl (mX hs) ?_);rintro _ w ⟨rfl,hs⟩
   refine .z fI (.zn zg (.cond rfl (fun hc25=>?_) (fun hc25=>?_)))
   ·refine .aj (.z (zbd [_,_] cB) (.o (.aU (vs:=[_,_]) hs rfl rfl aq fun w hs=>?_)))
    refine .zn zg (.ret (rB (rT (?_))))
    exact Fin.jt [] [] hs fun w hs=>⟨_,results2 Tryz.results58 (dK (vs:=[_,_]) hs rfl bh aq) rfl,H1,_,_,_,hle1,rfl,.dense hok hk (by simpa using hc25),hs.out⟩
   ·refine .skip (nB (nT (.aj (.y hs (zls [_,_,_,_,_,_,_,_] aQ aC) (.z zm (.y hs (zls [_,_] bh aq) ?_))))))
    have hdn:gH x y:=by simpa using hc25
    obtain ⟨j,rfl⟩:∃j:Nat,k=(j:Int):=⟨k.toNat,ak⟩
    refine .o (.call Tryz.call88 rfl (eS (s:=s) hs (g.mono hle1) hok hdn) ?_);rintro _ w ⟨H2,lo,hi,e,hle2,rfl,hS,hs⟩
    refine .z zex (.z zex (.o (.aU (vs:=[_,_]) hs rfl rfl aq fun w hs=>?_)))
    refine .zn zg (.ret ?_)
    exact Fin.jt [] [] hs fun w hs=>⟨_,results2 Tryz.results58 (dK (vs:=[_,_]) hs rfl bh aq) rfl,H2,_,_,_,hle1.trans hle2,rfl,.go hok hk hdn (by rw [Int.toNat_natCast];exact hS),hs.out⟩
set_option maxHeartbeats 2000000 in
theorem vY{s:Srv}{l:Lns}{r:List Lg}{m:Rng}{a b c d vt vs vlg:Value}(hs:St H w σ)(g:SvM H s a b c d)(gl:LnM H l vt vs)(gr_:RLg H vlg r):
  Cl Tryz.prog 79 [svA s a b c d,lnA l vt vs,.agg #[vlg],.agg #[I m.lo,I m.hi]] w fun u w'=>∃(H1:bV) (z:RtV) (ks:List Int) (e:Int),HLe H H1∧u= .tuple #[z.agg,I e]∧z.cs.all Value.oneCell'=true∧sr s l r m ks e∧(e=0→∃vms vmk,z=⟨s,l,a,b,c,d,vt,vs,vlg,vms,vmk⟩∧RRg H1 vms (msL m r r.length)∧RI H1 vmk ks)∧St H1 w' σ:=by
 obtain ⟨alg,clg,rfl⟩:=gr_.shape
 refine Cl.o Tryz.func79 Tryz.ntmps79 ag4 ?_
 refine .aj (.bx hs fun b4 w hs=>?_)
 refine .bx hs fun b5 w hs=>?_
 refine .bx hs fun b6 w hs=>?_
 refine .bx hs fun b7 w hs=>?_
 refine .o (.alloc hs lI rfl fun b8 w hs=>?_)
 refine .zn zg (.seq (.aj (.y hs (zls [_,_,_,_,_,_,_,_] aQ aC) (.o (.call Jw rfl (gu (s:=s) hs g.st g.wa g.rd g.cm) ?_)))));rintro _ w ⟨H1,e,hle1,rfl,hC,hs⟩
 refine .zn zg (.aj (.z zm (.zn hZ (.dZ rfl (fun hc21=>?_) (fun hc21=>?_)))))
 ·refine .aj (.z (zbd RtV.zero.cs gG rfl aH) (.z zm (.o (.aU (vs:=RtV.zero.cs) hs rfl rfl dm fun w hs=>?_))))
  refine .zn zg (.ret (rT (?_)))
  exact Fin.jt [] [] hs fun w hs=>⟨_,results2 xa (dK (vs:=RtV.zero.cs) hs rfl nx dm) rfl,H1,RtV.zero,_,_,hle1,rfl,rfl,.bad hC hc21,fun h=>(hc21 h).elim,hs.out⟩
 ·refine .skip (nT (.seq (.aj (.y hs (zls [_,_,_,_] bB aW) ?_))))
  have hok:fD s:=hC.dT.1 ak
  have hsp:=hok.early.1
  refine .o (.call Tryz.call19 rfl (jo hs (gl.tb.mono hle1) (gl.sn.mono hle1)) ?_);rintro _ w ⟨f,rfl,hL,hs⟩
  refine .zn zg (.aj (.z zm (.zn hZ (.dZ rfl (fun hc27=>?_) (fun hc27=>?_)))))
  ·refine .aj (.z (zbd RtV.zero.cs gG rfl aH) (.z zm ?_))
   have hl:=hL.resolve_left fun h=>hc27 h.2
   refine .o (.aU (vs:=RtV.zero.cs) hs rfl rfl dm fun w hs=>?_)
   refine .zn zg (.ret (rT (?_)))
   exact Fin.jt [] [] hs fun w hs=>⟨_,results2 xa (dK (vs:=RtV.zero.cs) hs rfl nx dm) rfl,H1,RtV.zero,_,_,hle1,rfl,rfl,by rw [hl.2];exact .lines hok hl.1,fun h=>(hc27 h).elim,hs.out⟩
  ·refine .skip (nT (.seq (.aj (.y hs (zls [_] cH bA) ?_))))
   have hl:iE l:=(hL.resolve_right fun h=>by omega).1
   refine .o (.call Tryz.call21 rfl (pK hs (gr_.mono hle1)) ?_);rintro _ w ⟨q,rfl,hR,hs⟩
   refine .zn zg (.aj (.z zm (.zn hZ (.dZ rfl (fun hc33=>?_) (fun hc33=>?_)))))
   ·refine .aj (.z (zbd RtV.zero.cs gG rfl aH) (.z zm ?_))
    have hrt:=hR.resolve_left fun h=>hc33 h.2
    refine .o (.aU (vs:=RtV.zero.cs) hs rfl rfl dm fun w hs=>?_)
    refine .zn zg (.ret (rT (?_)))
    exact Fin.jt [] [] hs fun w hs=>⟨_,results2 xa (dK (vs:=RtV.zero.cs) hs rfl nx dm) rfl,H1,RtV.zero,_,_,hle1,rfl,rfl,by rw [hrt.2];exact .route hok hl hrt.1,fun h=>(hc33 h).elim,hs.out⟩
   ·refine .skip (nT (.seq (.aj (.y hs (zls [_,_] bh aq) ?_))))
    have hrt:tn r:=(hR.resolve_right fun h=>by omega).1
    have hn:=hrt.many
    refine .o (.call Tryz.call109 rfl (nH hs) ?_);rintro _ w ⟨rfl,hs⟩
    refine .zn fI (.cond rfl (fun hc38=>?_) (fun hc38=>?_))
    ·refine .aj (.z (zbd RtV.zero.cs gG rfl aH) (.o (.aU (vs:=RtV.zero.cs) hs rfl rfl dm fun w hs=>?_)))
     refine .zn zg (.ret (rT (?_)))
     exact Fin.jt [] [] hs fun w hs=>⟨_,results2 xa (dK (vs:=RtV.zero.cs) hs rfl nx dm) rfl,H1,RtV.zero,_,_,hle1,rfl,rfl,.nZ hok hl hrt (by simpa using hc38),fun h=>by omega,hs.out⟩
    ·refine .skip (nT (.cut (fun fs w=>∃H2 vms b13,lF fs ⟨76,[],[(13,Pt b13),(8,Pt b8),(5,Pt b5),(6,Pt b6)]⟩∧HLe H1 H2∧RRg H2 vms (msL m r r.length)∧St H2 w (.blk b13 (RtV.cs ⟨s,l,a,b,c,d,vt,vs,.slice alg r.length clg,vms,.slice none 0 0⟩):: .blk b8 RtV.zero.cs:: .blk b6 [.slice alg r.length clg]:: .blk b5 (lnC l vt vs)::σ)) ?_ ?_))
     ·refine .draw mix rfl hs fun w hs=>?_
      refine .ys 0 rfl hs [_,_,_,_,_,_,_,_] aQ aC ?_;refine .ys 1 rfl hs [_,_,_,_] bB aW ?_;refine .z 2 rfl (zfa bH) ?_;refine .y 3 rfl hs bY ?_;refine .ys 4 rfl hs [_] cH bA ?_;refine .ys 5 rfl hs [_,_] bh aq ?_
      refine .e2 (i:=6) (j:=8) aH rfl rfl rfl rfl .none .none hs ?_ ?_
      ·refine .call Tryz.call110 rfl (nF hs (gr_.mono hle1) hrt (by simpa using hc38)) ?_;rintro vms w ⟨H2,hle2,hMs,hs⟩
       obtain ⟨ams,cms,rfl⟩:=hMs.shape
       refine .go (.zw 7 rfl (zbd (vs:=[(0,svA s a b c d),(1,lnA l vt vs),(2,.slice alg r.length clg),(3,.slice ams (msL m r r.length).length cms)]) (RtV.cs ⟨s,l,a,b,c,d,vt,vs,.slice alg r.length clg,.slice ams (msL m r r.length).length cms,.slice none 0 0⟩) gG rfl aH) (.E 8 hs ?_))
       refine .alloc hs lI rfl ?_;intro b13 w hs
       refine .go (.E 9 hs ?_)
       refine .aU (vs:=RtV.cs ⟨s,l,a,b,c,d,vt,vs,.slice alg r.length clg,.slice ams (msL m r r.length).length cms,.slice none 0 0⟩) hs rfl rfl dm ?_ (hv:=RtV.one g gl gr_ (RS.one hMs) rfl);intro w hs
       refine .go (.D hs ?_)
       exact nT ⟨H2,_,b13,a6,hle2,hMs,hs.sb⟩
      ·refine .alloc hs lI rfl ?_;intro b13 w hs
       refine .go (.E 6 hs ?_)
       refine .call Tryz.call110 rfl (nF hs (gr_.mono hle1) hrt (by simpa using hc38)) ?_;rintro vms w ⟨H2,hle2,hMs,hs⟩
       obtain ⟨ams,cms,rfl⟩:=hMs.shape
       refine .go (.zw 7 rfl (zbd (vs:=[(0,svA s a b c d),(1,lnA l vt vs),(2,.slice alg r.length clg),(3,.slice ams (msL m r r.length).length cms)]) (RtV.cs ⟨s,l,a,b,c,d,vt,vs,.slice alg r.length clg,.slice ams (msL m r r.length).length cms,.slice none 0 0⟩) gG rfl aH) (.E 9 hs ?_))
       refine .aU (vs:=RtV.cs ⟨s,l,a,b,c,d,vt,vs,.slice alg r.length clg,.slice ams (msL m r r.length).length cms,.slice none 0 0⟩) hs rfl rfl dm ?_ (hv:=RtV.one g gl gr_ (RS.one hMs) rfl);intro w hs
       refine .go (.D hs ?_)
       exact nT ⟨H2,_,b13,a6,hle2,hMs,hs.sb⟩
     ·rintro fs w ⟨H2,vms,b13,hfs,hle2,hMs,hs⟩
      refine WE.sub ?_ hfs
      clear hfs
      have hle02:=hle1.trans hle2
      have hm:iy m.lo m.hi:=by simpa using hc38
      refine .seq (.aj (.z (zfa bH) (.y hs (zld bY) (.z (da aF) (.zn zm (.for (N:=r.length) (J:=fun k fr w=>∃H3 ks vmk en,fr=[(49,.slice alg r.length clg),(13,Pt b13),(8,Pt b8),(5,Pt b5)]∧HLe H2 H3∧ks.length=k∧(∀i<k,w5 s.sp.wa l (lg0 r i) (gi ks i) 0)∧cN 1 vmk (Is ks) en∧St H3 w (en:: .blk b13 (RtV.cs ⟨s,l,a,b,c,d,vt,vs,.slice alg r.length clg,vms,vmk⟩):: .blk b8 RtV.zero.cs:: .blk b6 [.slice alg r.length clg]:: .blk b5 (lnC l vt vs)::σ)) ak ?_ ?_ ?_))))))
      ·exact .mk ⟨H2,[],_,.nul,rfl,HLe.refl _,rfl,fun i hi=>by omega,.nil 1 none,hs.nul⟩
      ·rintro k fr w hk ⟨H3,ks,vmk,en,rfl,hle3,hkl,hks,hO,hs⟩
       have hx:=kf (l:=r) hk
       have hle03:=hle02.trans hle3
       obtain ⟨ao,lo',co,rfl,hlo⟩:=hO.shape
       refine .block (.aj (.ixX (enc:=Lg.c) hs (gr_.mono hle03) rfl rfl aF aN hx cz ?_));intro b53 o53 hc53
       refine .q hs (bQ (vs:=(Lg.c (lg0 r k))) rfl fE aN hc53) (.o (.alloc hs de rfl fun b15 w hs=>?_))
       refine .o (.aU (vs:=(lg0 r k).c) hs rfl rfl aN fun w hs=>?_)
       change St _ _ (.blk b15 (lgC (lg0 r k))::_) at hs
       refine .nil (.aj (.z (zfa lS) (.z (zfa bj) (.y hs (zls [_,_,_,_,_,_] aK aA) (.y hs (zls [_,_,_,_] bB aW) (.y hs (zls [_,_,_,_,_,_,_] fE aN) (.o (.call Tryz.call115 rfl (uf (s:=s.sp) (x:=lg0 r k) hs (g.wa.mono hle03) (gl.tb.mono hle03) (gl.sn.mono hle03) hsp hl (hrt.leg k hk).1) ?_))))))));rintro _ w ⟨H4,n,e,hle4,rfl,hLw,hs⟩
       have hle04:=hle03.trans hle4
       refine .z zm (.z zex (.z zex (.z zg (.zn zg (.seq (.aj (.z zm (.zn hZ (.dZ rfl (fun hc65=>?_) (fun hc65=>?_))))))))))
       ·refine .aj (.z (zbd RtV.zero.cs gG rfl aH) (.z zm (.o (.aU (vs:=RtV.zero.cs) hs rfl rfl dm fun w hs=>?_))))
        refine .zn zg (.ret (rT (rB (rT (rB (rT (?_)))))))
        exact Fin.jt [] [] hs fun w hs=>⟨_,results2 xa (dK (vs:=RtV.zero.cs) hs rfl nx dm) rfl,H4,RtV.zero,_,_,hle04,rfl,rfl,.low hok hl hrt hm hk (fun j hj=>⟨_,hks j hj⟩) hLw hc65,fun h=>(hc65 h).elim,hs.out⟩
       ·refine .skip (nT (.region (.z (zfa iT) (.y hs (zld an) (.z zm (.o (.buildSlice (cells:=Is [n]) hs dc rfl aH fun b71 w hs=>?_)))))))
        refine .o (.append (ys:=Is [n]) hs cV rfl rfl hO (.own .here rfl rfl) (js _) (fun l h=>by simp [Is] at h;omega) ?_);intro v72 en72 w hO2 hs
        rw [←List.map_append] at hO2
        obtain ⟨a72,l72,c72,rfl,h72⟩:=hO2.shape
        refine .z (zfa iT) (.o (.store hs rfl rfl aB fun w hs=>?_))
        refine .nil (nB (nT ?_))
        obtain rfl:e=0:=by omega
        exact .mk ⟨H4,ks++[n],_,_,rfl,hle3.trans hle4,by simp [hkl],fun i hi=>by
         by_cases e:i=k
         ·subst e;rw [mD,if_neg ak,if_pos ak];exact hLw
         ·rw [mD,if_pos ak];exact hks i ak,hO2,hs.sb⟩
      ·rintro fr w ⟨H3,ks,vmk,en,rfl,hle3,hkl,hks,hO,hs⟩
       obtain ⟨H4,hle4,hRk,hs⟩:=hO.dM ak hs .here
       have hle04:=hle02.trans (hle3.trans hle4)
       refine nT (.aj (.y hs (zls [_,_,_,_,_,_,_,_,_,_,_,_,_,_,_] nx dm) (.o (.aU (vs:=RtV.cs ⟨s,l,a,b,c,d,vt,vs,.slice alg r.length clg,vms,vmk⟩) hs rfl rfl dm ?_ (hv:=RtV.one g gl gr_ (RS.one hMs) (RS.one hRk))))));intro w hs
       refine .zn zg (.ret ?_)
       exact Fin.jt [] [] hs fun w hs=>⟨_,results2 xa (dK (vs:=RtV.cs ⟨s,l,a,b,c,d,vt,vs,.slice alg r.length clg,vms,vmk⟩) hs rfl nx dm) rfl,H4,⟨s,l,a,b,c,d,vt,vs,.slice alg r.length clg,vms,vmk⟩,_,_,hle04,rfl,RtV.one g gl gr_ (RS.one hMs) (RS.one hRk),.ok hok hl hrt hm hkl hks,fun _=>⟨_,_,rfl,hMs.mono (hle3.trans hle4),hRk⟩,hs.out⟩
structure RtM(H:bV)(s:Srv)(l:Lns)(r:List Lg)(m:Rng)(ks:List Int)(z:RtV):Prop where
 es:z.s=s
 el:z.l=l
 sv:SvM H s z.a z.b z.c z.d
 ln:LnM H l z.t z.n
 lg:RLg H z.lg r
 ms:RRg H z.ms (msL m r r.length)
 mr:RI H z.mr ks
 one:z.cs.all Value.oneCell'=true
 beg:sr s l r m ks 0
set_option maxHeartbeats 1000000 in
theorem s5{s:Srv}{l:Lns}{r:List Lg}{m:Rng}{ks:List Int}{z:RtV}(hs:St H w σ)(h:RtM H s l r m ks z):
  Cl Tryz.prog 80 [z.agg] w fun u w'=>∃H1 v as_ e,HLe H H1∧u= .tuple #[v,I e]∧RI H1 v as_∧Eu s l r m as_ e∧St H1 w' σ:=by
 obtain ⟨s',l',a,b,c,d,t,n,lg,ms,mr⟩:=z
 obtain ⟨rfl,rfl,g,gl,hr,hms,hmr,hone,hB⟩:=h
 dsimp only at g gl hr hms hmr hone
 obtain ⟨alg,clg,rfl⟩:=hr.shape
 obtain ⟨ams,cms,rfl⟩:=hms.shape
 obtain ⟨amr,cmr,rfl⟩:=RI.shape hmr
 obtain ⟨hok,hl,hrt,hm,hkl,hlow⟩:=hB.ok'
 have hn:=hrt.many
 have hml:=ke m r r.length
 refine Cl.o Tryz.func80 Tryz.ntmps80 ag1 ?_
 refine .aj (.bx hs fun b1 w hs=>?_)
 refine .z zg (.zn zg (.aj (.zn zg (.seq (.aj (.z (zfa jU) (.y hs (zld bY) (.z (da aF) (.zn zm (.for (N:=r.length) (J:=fun k fr w=>∃H1 vo as_ en,fr=[(4,vo),(11,.slice alg r.length clg),(1,Pt b1)]∧HLe H H1∧as_.length=k∧(∀i<k,∃lo hi,m9 s' (gi ks i).toNat (lg0 r i).dlo (lg0 r i).dhi lo hi 0∧gi as_ i=CF (kl m r i) lo hi)∧(0<k→s'.sys.Sound)∧cN 1 vo (Is as_) en∧St H1 w (en:: .blk b1 (RtV.cs ⟨s',l',a,b,c,d,t,n,.slice alg r.length clg,.slice ams (msL m r r.length).length cms,.slice amr ks.length cmr⟩)::σ)) ak ?_ ?_ ?_))))))))))
 ·exact .mk ⟨H,_,[],.nul,rfl,HLe.refl _,rfl,fun i hi=>by omega,fun h=>by omega,.nil 1 none,hs.nul⟩
 ·rintro k fr w hk ⟨H1,vo,as_,en,rfl,hle1,hal,has,hsd,hO,hs⟩
  have hx:=kf (l:=r) hk
  have hxm:=yp m r (k:=r.length) (i:=k) ak
  have hdn:=(hrt.leg k hk).1.dense
  obtain ⟨q,hq,hqw⟩:=hB.mark hk
  obtain ⟨ao,lo',co,rfl,hlo⟩:=hO.shape
  refine .block (.aj (.z zm (.ixX (enc:=Lg.c) hs (hr.mono hle1) rfl rfl aF aN hx cz ?_)));intro b16 o16 hc16
  refine .q hs (bQ (vs:=(Lg.c (lg0 r k))) rfl fE aN hc16) (.o (.alloc hs de rfl fun b6 w hs=>?_))
  refine .z zg (.o (.aU (vs:=(lg0 r k).c) hs rfl rfl aN fun w hs=>?_))
  change St _ _ (.blk b6 (lgC (lg0 r k))::_) at hs
  refine .nil (.cut (fun fs w=>∃H2 lo hi e b7,lF fs ⟨60,[],[(8,I e),(7,Pt b7),(6,Pt b6),(5,I (k:Int)),(4,.slice ao lo' co),(1,Pt b1),(11,.slice alg r.length clg),(13,I (k:Int)),(12,I (r.length:Int))]⟩∧HLe H1 H2∧m9 s' q (lg0 r k).dlo (lg0 r k).dhi lo hi e∧St H2 w (.blk b7 [I lo,I hi]:: .blk b6 (lgC (lg0 r k))::en:: .blk b1 (RtV.cs ⟨s',l',a,b,c,d,t,n,.slice alg r.length clg,.slice ams (msL m r r.length).length cms,.slice amr ks.length cmr⟩)::σ)) ?_ ?_)
  ·refine .draw mix rfl hs fun w hs=>?_
   refine .zw 0 rfl (zfa lS) ?_;refine .ys 1 rfl hs [_,_,_,_,_,_,_,_] aQ aC ?_;refine .z 2 rfl (zfa iT) ?_;refine .y 3 rfl hs an ?_;refine .z 4 rfl zm ?_
   refine .ixX (enc:=fun x=>[I x]) (i:=5) hs rfl aH .none (hmr.mono hle1) rfl rfl af ai (bJ (l:=ks) (i:=k) ak) rfl ?_;intro b24 o24 hc24;replace hc24:=bL.one hc24
   refine .y 6 rfl hs ae ?_;refine .z 7 rfl (zfa fj) ?_;refine .ys 8 rfl hs [_,_] bh aq ?_
   refine .e2 (i:=9) (j:=13) aH rfl rfl rfl rfl .none .none hs ?_ ?_
   ·rw [hq]
    refine .call Tryz.call88 rfl (eS (s:=s') hs (g.mono hle1) hok hdn) ?_;rintro _ w ⟨H2,lo,hi,e,hle2,rfl,hS,hs⟩
    refine .go (.zw 10 rfl zm ?_);refine .z 11 rfl zex ?_;refine .z 12 rfl zex ?_
    refine .E 13 hs ?_
    refine .alloc hs cf rfl ?_;intro b7 w hs
    refine .go (.E 14 hs ?_)
    refine .aU (vs:=[_,_]) hs rfl rfl aq ?_;intro w hs
    refine .go (.zw 15 rfl zg ?_);refine .D hs ?_
    exact nT ⟨H2,lo,hi,e,b7,a6,hle2,hS,hs.sb⟩
   ·refine .alloc hs cf rfl ?_;intro b7 w hs
    refine .go (.E 9 hs ?_)
    rw [hq]
    refine .call Tryz.call88 rfl (eS (s:=s') hs (g.mono hle1) hok hdn) ?_;rintro _ w ⟨H2,lo,hi,e,hle2,rfl,hS,hs⟩
    refine .go (.zw 10 rfl zm ?_);refine .z 11 rfl zex ?_;refine .z 12 rfl zex ?_
    refine .E 14 hs ?_
    refine .aU (vs:=[_,_]) hs rfl rfl aq ?_;intro w hs
    refine .go (.zw 15 rfl zg ?_);refine .D hs ?_
    exact nT ⟨H2,lo,hi,e,b7,a6,hle2,hS,hs.sb⟩
  ·rintro fs w ⟨H2,lo,hi,e,b7,hfs,hle2,hS,hs⟩
   refine WE.sub ?_ hfs
   clear hfs
   have hle02:=hle1.trans hle2
   refine .seq (.aj (.z zm (.zn hZ (.dZ rfl (fun hc32=>?_) (fun hc32=>?_)))))
   ·refine .aj (.z zm (.z zg (.zn zg (.ret (rT (rB (rT (rB (rT (Fin.ij Tryz.results80 rfl rfl ?_))))))))))
    exact ⟨H2,_,[],_,hle02,rfl,RS.nil H2 1 none 0,by rcases hS.err hok hqw with h|h;exact (hc32 h.1).elim;rw [h.1];exact .fls hB h.2.1,hs.out⟩
   ·refine .skip (nT (.aj (.zn zg (.cut (fun fs w=>∃x,lF fs ⟨60,[],[(9,I x),(4,.slice ao lo' co),(1,Pt b1),(11,.slice alg r.length clg),(13,I (k:Int)),(12,I (r.length:Int))]⟩∧x=CF (kl m r k) lo hi∧St H2 w (.blk b7 [I lo,I hi]:: .blk b6 (lgC (lg0 r k))::en:: .blk b1 (RtV.cs ⟨s',l',a,b,c,d,t,n,.slice alg r.length clg,.slice ams (msL m r r.length).length cms,.slice amr ks.length cmr⟩)::σ)) ?_ ?_))))
    ·refine .block (.seq (.draw mix rfl hs fun w hs=>?_))
     refine .zw 0 rfl (zfa lR) ?_;refine .y 1 rfl hs Tryz.isAgg80 ?_;refine .z 2 rfl zm ?_
     refine .ixX (enc:=Rng.c) (i:=3) hs rfl aH .none (RS.mono hms hle02) rfl rfl dI aq hxm rfl ?_;intro b38 o38 hc38
     refine .zw 4 rfl (zfa cj) (.r (i:=5) hs rfl aH .none (aP rfl ae (hc38.get 1 rfl)) ?_)
     refine .zw 6 rfl (zfa bN) ?_;refine .y 7 rfl hs ae ?_;refine .z 8 rfl nb ?_;refine .z 9 rfl zg ?_;refine .D hs ?_
     refine (.bn rfl (fun hc34=>?_) (fun hc34=>?_))
     ·refine .region (.zn zg (nB (nT ?_)))
      exact ⟨_,a6,by unfold CF;simp [*],hs⟩
     ·refine .seq (.draw mix rfl hs fun w hs=>?_)
      refine .zw 0 rfl (zfa lR) ?_;refine .y 1 rfl hs Tryz.isAgg80 ?_;refine .z 2 rfl zm ?_
      refine .ixX (enc:=Rng.c) (i:=3) hs rfl aH .none (RS.mono hms hle02) rfl rfl dI aq hxm rfl ?_;intro b48 o48 hc48
      refine .zw 4 rfl (zfa bN) (.r (i:=5) hs rfl aH .none (aP rfl ae (hc48.get 0 rfl)) ?_)
      refine .zw 6 rfl (zfa cj) ?_;refine .y 7 rfl hs ae ?_;refine .z 8 rfl k7 ?_;refine .z 9 rfl zg ?_;refine .D hs ?_
      refine (.bn rfl (fun hc44=>?_) (fun hc44=>?_))
      ·refine .region (.zn zg (nB (nT ?_)))
       exact ⟨_,a6,by unfold CF;simp [*],hs⟩
      ·refine .skip (nB (nT ?_))
       exact ⟨_,a6,by unfold CF;simp [*],hs⟩
    ·rintro fs w ⟨x,hfs,hx9,hs⟩
     refine WE.sub ?_ hfs
     clear hfs
     refine .region (.z zm (.z zm (.o (.buildSlice (cells:=Is [x]) hs dc rfl aH fun b56 w hs=>?_))))
     refine .o (.append (ys:=Is [x]) hs cV rfl rfl hO (.own .here rfl rfl) (js _) (fun l h=>by simp [Is] at h;omega) ?_);intro v57 en57 w hO2 hs
     rw [←List.map_append] at hO2
     refine .zn zg (nB (nT ?_))
     obtain rfl:e=0:=by omega
     exact .mk ⟨H2,_,as_++[x],_,rfl,hle02,by simp [hal],fun i hi=>by
      by_cases e:i=k
      ·subst e;exact ⟨_,_,by rw [hq,Int.toNat_natCast];exact hS,by rw [mD,if_neg ak,if_pos ak];exact hx9⟩
      ·rw [mD,if_pos ak];exact has i ak,fun _=>(hS.err hok hqw).elim (fun h=>h.2) (fun h=>by omega),hO2,hs.sb⟩
 ·rintro fr w ⟨H1,vo,as_,en,rfl,hle1,hal,has,hsd,hO,hs⟩
  obtain ⟨H4,hle4,hRk,hs⟩:=hO.dM ak hs .here
  refine nT (.aj (.z zm (.z zg (.zn zg (.ret (Fin.ij Tryz.results80 rfl rfl ?_))))))
  exact ⟨H4,_,_,_,hle1.trans hle4,rfl,hRk,.ok hB (hsd ak) hal has,hs.out⟩
theorem oN{s:Srv}{l:Lns}{r:List Lg}{m:Rng}{a b c d vt vs vlg:Value}(hs:St H w σ)(g:SvM H s a b c d)(gl:LnM H l vt vs)(gr_:RLg H vlg r):
  Cl Tryz.prog 79 [svA s a b c d,lnA l vt vs,.agg #[vlg],.agg #[I m.lo,I m.hi]] w fun u w'=>∃(H1:bV) (z:RtV) (ks:List Int) (e:Int),HLe H H1∧u= .tuple #[z.agg,I e]∧z.cs.all Value.oneCell'=true∧sr s l r m ks e∧(e=0→RtM H1 s l r m ks z)∧St H1 w' σ:=by
 refine (vY hs g gl gr_).mono ?_
 rintro u w' ⟨H1,z,ks,e,hle,hu,ho,hB,h0,hs⟩
 exact ⟨H1,z,ks,e,hle,hu,ho,hB,fun he=>by
  obtain ⟨vms,vmk,rfl,h1,h2⟩:=h0 he
  subst he
  exact ⟨rfl,rfl,g.mono hle,gl.mono hle,gr_.mono hle,h1,h2,ho,hB⟩,hs⟩
theorem s6{s:Srv}{l:Lns}{r:List Lg}{m:Rng}{a b c d vt vs vlg:Value}(hs:St H w σ)(g:SvM H s a b c d)(gl:LnM H l vt vs)(gr_:RLg H vlg r):
  Cl Tryz.prog 24 [svA s a b c d,lnA l vt vs,.agg #[vlg],.agg #[I m.lo,I m.hi]] w fun u w'=>∃H1 v as_ e,HLe H H1∧u= .tuple #[v,I e]∧RI H1 v as_∧Eu s l r m as_ e∧St H1 w' σ:=by
 refine Cl.o Tryz.func24 Tryz.ntmps24 ag4 ?_
 refine .aj (.bx hs fun b4 w hs=>?_)
 refine .bx hs fun b5 w hs=>?_
 refine .bx hs fun b6 w hs=>?_
 refine .bx hs fun b7 w hs=>?_
 refine .z zg (.zn zg (.aj (.y hs (zls [_,_,_,_,_,_,_,_] aQ aC) (.y hs (zls [_,_,_,_] bB aW) (.y hs (zls [_] cH bA) (.y hs (zls [_,_] bh aq) (.o (.call Tryz.call79 rfl (oN (s:=s) (l:=l) (m:=m) hs g gl gr_) ?_))))))));rintro _ w ⟨H1,z,ks,e,hle1,rfl,ho,hB,h0,hs⟩
 refine .z zm (.z zex (.z zex (.o (.alloc hs lI rfl fun b10 w hs=>?_))))
 refine .o (.aU (vs:=z.cs) hs rfl rfl dm ?_ (hv:=ho));intro w hs
 refine .zn zg (.seq (.aj (.z zm (.zn hZ (.dZ rfl (fun hc21=>?_) (fun hc21=>?_))))))
 ·refine .aj (.z zm (.z zg (.zn zg (.ret (rT (Fin.ij Tryz.results24 rfl rfl ?_))))))
  exact ⟨H1,_,[],_,hle1,rfl,RS.nil H1 1 none 0,.bad hB hc21,hs.out⟩
 ·refine .skip (nT (.aj (.y hs (zls [_,_,_,_,_,_,_,_,_,_,_,_,_,_,_] nx dm) ?_)))
  obtain rfl:e=0:=by omega
  refine .o (.call Tryz.call80 rfl (s5 hs (h0 rfl)) ?_);rintro _ w ⟨H2,v,as_,e,hle2,rfl,hR,hA,hs⟩
  refine .z zex (.z zex (.z zg (.zn zg (.ret (Fin.ij Tryz.results24 rfl rfl ?_)))))
  exact ⟨H2,_,_,_,hle1.trans hle2,rfl,hR,hA,hs.out⟩
theorem uh{v:Value}{as_:List Int}(hs:St H w σ)(hr:RI H v as_):Cl Tryz.prog 86 [v] w fun u w'=>u=I (AQ as_)∧St H w' σ:=by
 obtain ⟨a,c,rfl⟩:=RI.shape hr
 have hl:=(RI.len hr).2.2
 refine Cl.o Tryz.func86 Tryz.ntmps86 ag1 ?_
 refine .aj (.zn zg (.aj (.zn zg (.seq (.aj (.z zm (.z (da af) (.zn zm (.for (N:=as_.length) (J:=fun k fr w=>fr=[(3,I (if (2:Int)∈as_.take k then 2 else 1)),(6,.slice a as_.length c)]∧(∀i<k,gi as_ i≠0)∧St H w σ) ak ?_ ?_ ?_)))))))))
 ·exact .mk ⟨rfl,fun i hi=>by omega,hs⟩
 ·rintro k fr w hk ⟨rfl,hno,hs⟩
  have ht:=dj (bJ hk)
  refine .block (.aj (.ixY hs hr rfl rfl af ai (bJ (l:=as_) (i:=k) ak) cz ?_));intro b10 o10 hc10
  refine .q hs (aP rfl ae hc10) (.zn zg (.aj (.zn zm (.block (.aj (.z fF (.zn zg (.bn rfl (fun hc13=>?_) (fun hc13=>?_)))))))))
  ·refine .aj (.zn zg (.ret (rB (rB (rT (rB (rT (Fin.bq Tryz.results86 rfl ?_))))))))
   exact ⟨by unfold AQ;rw [if_pos (by rw [←hc13];exact List.mem_of_getElem? (bJ hk))],hs⟩
  ·refine .aj (.z fF (.zn zg (.bn rfl (fun hc15=>?_) (fun hc15=>?_))))
   ·refine .region (.zn zg (nB (nB (nT ?_))))
    exact .mk ⟨by rw [ht,if_pos (List.mem_append.2 (.inr (by rw [hc15];exact .head _)))],fun i hi=>by
     by_cases e:i=k
     ·subst e;exact hc13
     ·exact hno i ak,hs⟩
   ·refine .skip (nB (nB (nT ?_)))
    have e2:(if (2:Int)∈as_.take (k+1) then (2:Int) else 1)=if (2:Int)∈as_.take k then 2 else 1:=by
     have e:(2:Int)∈as_.take (k+1)↔(2:Int)∈as_.take k:=by
      rw [ht,List.mem_append]
      exact ⟨fun h=>h.elim id fun h=>by rw [List.mem_singleton] at h;exact (hc15 h.symm).elim,.inl⟩
     simp only [e]
    exact .mk ⟨by rw [e2],fun i hi=>by
     by_cases e:i=k
     ·subst e;exact hc13
     ·exact hno i ak,hs⟩
 ·rintro fr w ⟨rfl,hno,hs⟩
  rw [List.take_length]
  refine nT (.aj (.z zm (.zn zg (.ret (Fin.bq Tryz.results86 rfl ?_)))))
  have h0:¬(0:Int)∈as_:=fun h=>by
   obtain ⟨i,hi⟩:=List.getElem?_of_mem h
   have hlt:=(List.getElem?_eq_some_iff.1 hi).1
   rw [bJ hlt] at hi
   exact hno i hlt (Option.some.inj hi)
  exact ⟨by unfold AQ;rw [if_neg h0],hs⟩
theorem oO{s:Srv}{l:Lns}{r:List Lg}{m:Rng}{a b c d vt vs vlg:Value}(hs:St H w σ)(g:SvM H s a b c d)(gl:LnM H l vt vs)(gr_:RLg H vlg r):
  Cl Tryz.prog 26 [svA s a b c d,lnA l vt vs,.agg #[vlg],.agg #[I m.lo,I m.hi]] w fun u w'=>∃H1 n e,HLe H H1∧u= .tuple #[I n,I e]∧Hj s l r m n e∧St H1 w' σ:=by
 refine Cl.o Tryz.func26 Tryz.ntmps26 ag4 ?_
 refine .aj (.bx hs fun b4 w hs=>?_)
 refine .bx hs fun b5 w hs=>?_
 refine .bx hs fun b6 w hs=>?_
 refine .bx hs fun b7 w hs=>?_
 refine .z zg (.zn zg (.aj (.y hs (zls [_,_,_,_,_,_,_,_] aQ aC) (.y hs (zls [_,_,_,_] bB aW) (.y hs (zls [_] cH bA) (.y hs (zls [_,_] bh aq) (.o (.call Tryz.call24 rfl (s6 (s:=s) (l:=l) (m:=m) hs g gl gr_) ?_))))))));rintro _ w ⟨H1,v,as_,e,hle1,rfl,hR,hA,hs⟩
 refine .z zm (.z zex (.z zex (.z zg (.zn zg (.seq (.aj (.z zm (.zn hZ (.dZ rfl (fun hc21=>?_) (fun hc21=>?_))))))))))
 ·refine .aj (.z zm (.z zg (.zn zg (.ret (rT (Fin.ij Tryz.results26 rfl rfl ?_))))))
  exact ⟨H1,_,_,hle1,rfl,.bad hA hc21,hs.out⟩
 ·refine .skip (nT (.aj (.z zm ?_)))
  obtain rfl:e=0:=by omega
  refine .o (.call Tryz.call86 rfl (uh hs hR) ?_);rintro _ w ⟨rfl,hs⟩
  refine .z zg (.zn zg (.ret (Fin.ij Tryz.results26 rfl rfl ?_)))
  exact ⟨H1,_,_,hle1,rfl,.ok hA,hs.out⟩
set_option maxHeartbeats 1000000 in
theorem wS{s:Srv}{l:Lns}{r:List Lg}{a b c d vt vs vlg:Value}(hs:St H w σ)(g:SvM H s a b c d)(gl:LnM H l vt vs)(gr_:RLg H vlg r):
  Cl Tryz.prog 28 [svA s a b c d,lnA l vt vs,.agg #[vlg]] w fun u w'=>∃H1 n e,HLe H H1∧u= .tuple #[I n,I e]∧yO s l r n e∧St H1 w' σ:=by
 refine Cl.o Tryz.func28 Tryz.ntmps28 ag3 ?_
 refine .aj (.bx hs fun b3 w hs=>?_)
 refine .bx hs fun b4 w hs=>?_
 refine .bx hs fun b5 w hs=>?_
 refine .z zg (.zn zg (.aj (.y hs (zls [_,_,_,_,_,_,_,_] aQ aC) (.y hs (zls [_,_,_,_] bB aW) (.y hs (zls [_] cH bA) (.z (zbd [I 0,I 0] cB) (.o (.call Tryz.call79 rfl (oN (s:=s) (l:=l) (m:=⟨0,0⟩) hs g gl gr_) ?_))))))));rintro _ w ⟨H1,z,ks,e,hle1,rfl,ho,hB,h0,hs⟩
 refine .z zm (.z zex (.z zex (.o (.alloc hs lI rfl fun b8 w hs=>?_))))
 refine .o (.aU (vs:=z.cs) hs rfl rfl dm ?_ (hv:=ho));intro w hs
 refine .zn zg (.seq (.aj (.z zm (.zn hZ (.dZ rfl (fun hc25=>?_) (fun hc25=>?_))))))
 ·refine .aj (.z zm (.z zg (.zn zg (.ret (rT (Fin.ij Tryz.results28 rfl rfl ?_))))))
  exact ⟨H1,_,_,hle1,rfl,.bad hB hc25,hs.out⟩
 ·refine .skip (nT (.aj (.z zg (.zn zg (.seq (.aj ?_))))))
  obtain rfl:e=0:=by omega
  obtain ⟨s',l',a',b',c',d',t',n',lg',ms',mr'⟩:=z
  obtain ⟨rfl,rfl,-,-,hr',hms,hmr,hone,-⟩:=h0 rfl
  dsimp only at hr' hms hmr
  obtain ⟨alg,clg,rfl⟩:=hr'.shape
  obtain ⟨amr,cmr,rfl⟩:=RI.shape hmr
  obtain ⟨hok,hl,hrt,hm,hkl,hlow⟩:=hB.ok'
  have hn:=hrt.many
  refine .z (zfa jU) (.y hs (zld bY) (.z (da aF) (.zn zm (.for (N:=r.length) (J:=fun k fr w=>∃H2 dd best,fr=[(10,I best),(11,I (bp (fun i=>(lg0 r i).blo) k)),(28,.slice alg r.length clg),(8,Pt b8),(3,Pt b3)]∧HLe H1 H2∧(∀i<k,∃hi,m9 s' (gi ks i).toNat (lg0 r i).dlo (lg0 r i).dhi (dd i) hi 0)∧Hu dd (fun i=>(lg0 r i).blo) k best∧((-300000000≤best∧best≤1000000000000)∧0≤bp (fun i=>(lg0 r i).blo) k∧bp (fun i=>(lg0 r i).blo) k≤k*1000000000000)∧(0<k→s'.sys.Sound)∧St H2 w (.blk b8 (RtV.cs ⟨s',l',a',b',c',d',t',n',.slice alg r.length clg,ms',.slice amr ks.length cmr⟩):: .blk b3 (svC s' a b c d)::σ)) ak ?_ ?_ ?_))))
  ·exact .mk ⟨H1,fun _=>0,1000000000000,rfl,HLe.refl _,fun i hi=>by omega,.inl ⟨fun i hi=>by omega,rfl⟩,by simp [bp],fun h=>by omega,hs.sb⟩
  ·rintro k fr w hk ⟨H2,dd,best,rfl,hle2,hds,hSI,hbd,hsd,hs⟩
   have hx:=kf (l:=r) hk
   have hdn:=(hrt.leg k hk).1.dense
   have hbn:=(hrt.leg k hk).1.burn
   unfold iy at hbn
   obtain ⟨q,hq,hqw⟩:=hB.mark hk
   have hsS:bp (fun i=>(lg0 r i).blo) (k+1)=bp (fun i=>(lg0 r i).blo) k+(lg0 r k).blo:=rfl
   generalize hSe:bp (fun i=>(lg0 r i).blo) k=S at*
   refine .block (.aj (.z zm (.ixX (enc:=Lg.c) hs (hr'.mono hle2) rfl rfl aF aN hx cz ?_)));intro b33 o33 hc33
   refine .q hs (bQ (vs:=(Lg.c (lg0 r k))) rfl fE aN hc33) (.o (.alloc hs de rfl fun b13 w hs=>?_))
   refine .z zg (.o (.aU (vs:=(lg0 r k).c) hs rfl rfl aN fun w hs=>?_))
   change St _ _ (.blk b13 (lgC (lg0 r k))::_) at hs
   refine .nil (.cut (fun fs w=>∃H3 lo hi e b14,lF fs ⟨68,[],[(15,I e),(14,Pt b14),(13,Pt b13),(10,I best),(11,I S),(28,.slice alg r.length clg),(8,Pt b8),(3,Pt b3),(30,I (k:Int)),(29,I (r.length:Int))]⟩∧HLe H2 H3∧m9 s' q (lg0 r k).dlo (lg0 r k).dhi lo hi e∧St H3 w (.blk b14 [I lo,I hi]:: .blk b13 (lgC (lg0 r k)):: .blk b8 (RtV.cs ⟨s',l',a',b',c',d',t',n',.slice alg r.length clg,ms',.slice amr ks.length cmr⟩):: .blk b3 (svC s' a b c d)::σ)) ?_ ?_)
   ·refine .draw mix rfl hs fun w hs=>?_
    refine .ys 0 rfl hs [_,_,_,_,_,_,_,_] aQ aC ?_;refine .z 1 rfl (zfa iT) ?_;refine .y 2 rfl hs an ?_;refine .z 3 rfl zm ?_
    refine .ixX (enc:=fun x=>[I x]) (i:=4) hs rfl aH .none (RS.mono hmr hle2) rfl rfl af ai (bJ (l:=ks) (i:=k) ak) rfl ?_;intro b40 o40 hc40;replace hc40:=bL.one hc40
    refine .y 5 rfl hs ae ?_;refine .z 6 rfl (zfa fj) ?_;refine .ys 7 rfl hs [_,_] bh aq ?_
    refine .e2 (i:=8) (j:=12) aH rfl rfl rfl rfl .none .none hs ?_ ?_
    ·rw [hq]
     refine .call Tryz.call88 rfl (eS (s:=s') hs (g.mono (hle1.trans hle2)) hok hdn) ?_;rintro _ w ⟨H3,lo,hi,e,hle3,rfl,hS,hs⟩
     refine .go (.zw 9 rfl zm ?_);refine .z 10 rfl zex ?_;refine .z 11 rfl zex ?_
     refine .E 12 hs ?_
     refine .alloc hs cf rfl ?_;intro b14 w hs
     refine .go (.E 13 hs ?_)
     refine .aU (vs:=[_,_]) hs rfl rfl aq ?_;intro w hs
     refine .go (.zw 14 rfl zg ?_);refine .D hs ?_
     exact nT ⟨H3,lo,hi,e,b14,a6,hle3,hS,hs.sb⟩
    ·refine .alloc hs cf rfl ?_;intro b14 w hs
     refine .go (.E 8 hs ?_)
     rw [hq]
     refine .call Tryz.call88 rfl (eS (s:=s') hs (g.mono (hle1.trans hle2)) hok hdn) ?_;rintro _ w ⟨H3,lo,hi,e,hle3,rfl,hS,hs⟩
     refine .go (.zw 9 rfl zm ?_);refine .z 10 rfl zex ?_;refine .z 11 rfl zex ?_
     refine .E 13 hs ?_
     refine .aU (vs:=[_,_]) hs rfl rfl aq ?_;intro w hs
     refine .go (.zw 14 rfl zg ?_);refine .D hs ?_
     exact nT ⟨H3,lo,hi,e,b14,a6,hle3,hS,hs.sb⟩
   ·rintro fs w ⟨H3,lo,hi,e,b14,hfs,hle3,hS,hs⟩
    refine WE.sub ?_ hfs
    clear hfs
    have hle03:=hle1.trans (hle2.trans hle3)
    have hSb:=hS.bd hdn
    refine .seq (.aj (.z zm (.zn hZ (.dZ rfl (fun hc48=>?_) (fun hc48=>?_)))))
    ·refine .aj (.z zm (.z zg (.zn zg (.ret (rT (rB (rT (rB (rT (Fin.ij Tryz.results28 rfl rfl ?_))))))))))
     exact ⟨H3,_,_,hle03,rfl,by rcases hS.err hok hqw with h|h;exact (hc48 h.1).elim;rw [h.1];exact .fls hB h.2.1,hs.out⟩
    ·refine .skip (nT (.seq (.aj (.z (zfa bN) ?_))))
     obtain rfl:e=0:=by omega
     have hnx:∀i<k+1,∃hi,m9 s' (gi ks i).toNat (lg0 r i).dlo (lg0 r i).dhi (EE dd k lo i) hi 0:=fun i hi=>by
      by_cases e:i=k
      ·subst e;rw [xR,hq,Int.toNat_natCast];exact ⟨_,hS⟩
      ·rw [xQ _ _ ak];exact hds i ak
     have hsd':s'.sys.Sound:=(hS.err hok hqw).elim (fun h=>h.2) (fun h=>by omega)
     refine .y hs (zld ae) (.zn fV (.bn rfl (fun hc52=>?_) (fun hc52=>?_)))
     ·refine .region (.zn zg (nT (.aj (.z zm (.z (zfa bN) (.y hs (zld ae) (.z zm (.z cu (.z Al (.zn zg (.region (.z zm (.z (zfa fH) (.z (zfa bN) (.y hs (zld ae) (.z cu (.zn zg (nB (nT ?_)))))))))))))))))))
      exact .mk ⟨H3,EE dd k lo,min (-1) (lo+S),by rw [hsS],hle2.trans hle3,hnx,.neg hc52,ak,fun _=>hsd',hs.sb⟩
     ·refine .skip (nT (.aj (.z zm (.z (zfa bN) (.y hs (zld ae) (.z zm (.z cu (.z Al (.zn zg (.region (.z zm (.z (zfa fH) (.z (zfa bN) (.y hs (zld ae) (.z cu (.zn zg (nB (nT ?_))))))))))))))))))
      exact .mk ⟨H3,EE dd k lo,min best (lo+S),by rw [hsS],hle2.trans hle3,hnx,by rw [←hSe];exact hSI.pos ak,ak,fun _=>hsd',hs.sb⟩
  ·rintro fr w ⟨H2,dd,best,rfl,hle2,hds,hSI,hbd,hsd,hs⟩
   refine nT (.seq (.aj (.z zm (.zn fV (.bn rfl (fun hc66=>?_) (fun hc66=>?_))))))
   ·refine .aj (.z zg (.zn zg (.ret (rT (Fin.ij Tryz.results28 rfl rfl ?_)))))
    rcases hSI with ⟨h1,h2⟩|⟨⟨i,h1,h3⟩,h2⟩
    ·exfalso
     have key:∀n,n≤r.length→0≤vj dd (fun i=>(lg0 r i).blo) n:=fun n=>by
      induction n with
      |zero=>intro _;simp [vj]
      |succ n ih=>
       intro hn
       have:=ih ak
       have:=h1 n ak
       have:0≤bp (fun i=>(lg0 r i).blo) n:=dC fun i hi=>(hrt.leg i ak).1.burn.1
       simp only [vj];omega
     have:=key _ (Nat.le_refl _)
     omega
    ·obtain ⟨hi,hS⟩:=hds i h1
     exact ⟨H2,_,_,hle1.trans hle2,rfl,.none hB (hsd ak) h1 hS h3,hs.out⟩
   ·refine .skip (nT (.aj (.z zm (.z zg (.zn zg (.ret (Fin.ij Tryz.results28 rfl rfl ?_)))))))
    rcases hSI with ⟨h1,h2⟩|⟨_,h2⟩
    ·rw [h2]
     exact ⟨H2,_,_,hle1.trans hle2,rfl,.ok hB (hsd ak) fun i hi=>⟨hds i hi,h1 i hi⟩,hs.out⟩
    ·omega
set_option maxHeartbeats 1000000 in
theorem jn{s:Srv}{l:Lns}{r:List Lg}{m:Rng}{x:Wit}{a b c d vt vs vlg vh:Value}(hs:St H w σ)(g:SvM H s a b c d)(gl:LnM H l vt vs)(gr_:RLg H vlg r)(gh:RT H vh x.rows):
  Cl Tryz.prog 32 [svA s a b c d,lnA l vt vs,.agg #[vlg],.agg #[I m.lo,I m.hi],.agg #[I x.leg,I x.dense,I x.nZ,vh]] w fun u w'=>∃H1 e,HLe H H1∧u=I e∧FR s l r m x e∧St H1 w' σ:=by
 refine Cl.o Tryz.func32 Tryz.ntmps32 ag5 ?_
 refine .aj (.bx hs fun b5 w hs=>?_)
 refine .bx hs fun b6 w hs=>?_
 refine .bx hs fun b7 w hs=>?_
 refine .bx hs fun b8 w hs=>?_
 refine .bx hs fun b9 w hs=>?_
 refine .zn zg (.aj (.y hs (zls [_,_,_,_,_,_,_,_] aQ aC) (.y hs (zls [_,_,_,_] bB aW) (.y hs (zls [_] cH bA) (.y hs (zls [_,_] bh aq) (.o (.call Tryz.call79 rfl (oN (s:=s) (l:=l) (m:=m) hs g gl gr_) ?_)))))));rintro _ w ⟨H1,z,ks,e,hle1,rfl,ho,hB,h0,hs⟩
 refine .z zm (.z zex (.z zex (.o (.alloc hs lI rfl fun b11 w hs=>?_))))
 refine .o (.aU (vs:=z.cs) hs rfl rfl dm ?_ (hv:=ho));intro w hs
 refine .zn zg (.seq (.aj (.z zm (.zn hZ (.dZ rfl (fun hc26=>?_) (fun hc26=>?_))))))
 ·refine .aj (.z zm (.zn zg (.ret (rT (Fin.bq p8 rfl ?_)))))
  exact ⟨H1,_,hle1,rfl,.bad hB hc26,hs.out⟩
 ·refine .skip (nT (.seq (.aj ?_)))
  obtain rfl:e=0:=by omega
  obtain ⟨s',l',a',b',c',d',t',n',lg',ms',mr'⟩:=z
  obtain ⟨rfl,rfl,g',-,hr',hms,hmr,hone,-⟩:=h0 rfl
  dsimp only at g' hr' hms hmr
  obtain ⟨alg,clg,rfl⟩:=hr'.shape
  obtain ⟨ams,cms,rfl⟩:=hms.shape
  obtain ⟨amr,cmr,rfl⟩:=RI.shape hmr
  obtain ⟨hok,hl,hrt,hm,hkl,hlow⟩:=hB.ok'
  have hn:=hrt.many
  have hml:=ke m r r.length
  replace gh:=gh.mono hle1
  refine .z (zfa ek) (.y hs (zld ae) (.z (zfa jU) (.y hs (zld bY) (.z (da aF) (.z fM (.o (.call eM rfl (cn hs) ?_)))))));rintro _ w ⟨rfl,hs⟩
  refine .z fI (.z zm (.bif (t':=36) rfl (fun hb36=>?_) (fun hb36=>?_)))
  ·refine .Fs 5 8 false (.zn zpT (.cT (.aj (.zn zg (.ret (rT (Fin.bq p8 rfl ?_)))))))
   exact ⟨H1,_,hle1,rfl,.no hB (fun h=>by have:=h.leg;simp_all),hs.out⟩
  ·refine .T (.y hs (zls [_,_,_,_,_,_,_,_] aQ aC) (.T (.z (zfa iq) (.T (.y hs (zls [_] eU dq) (.T (.o (.call Tryz.call65 rfl (nY (s:=s') (rows:=x.rows) hs (g.mono hle1).st (g.mono hle1).wa (g.mono hle1).rd (g.mono hle1).cm gh) ?_))))))));rintro _ w ⟨H2,e,hle2,rfl,hCh,hs⟩
   have hle02:=hle1.trans hle2
   refine .T (.z hZ (.zn zpF (.dZ rfl (fun hc42=>?_) (fun hc42=>?_))))
   ·refine .aj (.zn zg (.ret (rT (Fin.bq p8 rfl ?_))))
    exact ⟨H2,_,hle02,rfl,.no hB (fun h=>hc42 (hCh.uniq h.hull)),hs.out⟩
   ·refine .skip (nT (.cut (fun fs w=>∃b13 b14,lF fs ⟨101,[],[(14,Pt b14),(13,Pt b13),(11,Pt b11),(9,Pt b9)]⟩∧St H2 w (.blk b14 (kl m r x.leg.toNat).c:: .blk b13 (lg0 r x.leg.toNat).c:: .blk b11 (RtV.cs ⟨s',l',a',b',c',d',t',n',.slice alg r.length clg,.slice ams (msL m r r.length).length cms,.slice amr ks.length cmr⟩):: .blk b9 [I x.leg,I x.dense,I x.nZ,vh]::σ)) ?_ ?_))
    ·refine .draw mix rfl hs fun w hs=>?_
     have hleg:0≤x.leg∧x.leg≤(r.length:Int) - 1:=by simpa using hb36
     obtain rfl:e=0:=by omega
     have hlt:x.leg.toNat<r.length:=by omega
     have hxl:=kf (l:=r) hlt
     have hxm:=yp m r (k:=r.length) (i:=x.leg.toNat) ak
     refine .zw 0 rfl (zfa jU) ?_;refine .y 1 rfl hs bY ?_;refine .z 2 rfl (zfa ek) ?_;refine .y 3 rfl hs ae ?_
     refine .ixX (enc:=Lg.c) (i:=4) hs rfl aH .none (RS.mono hr' hle2) rfl rfl aF aN hxl ak ?_;intro b47 o47 hc47
     refine .r (i:=5) hs rfl aH .none (bQ (vs:=(lg0 r x.leg.toNat).c) rfl fE aN hc47) ?_
     refine .zw 6 rfl (zfa lR) ?_;refine .y 7 rfl hs Tryz.isAgg80 ?_;refine .z 8 rfl (zfa ek) ?_;refine .y 9 rfl hs ae ?_
     refine .ixX (enc:=Rng.c) (i:=10) hs rfl aH .none (RS.mono hms hle2) rfl rfl dI aq hxm ak ?_;intro b53 o53 hc53
     refine .r (i:=11) hs rfl aH .none (bQ (vs:=(kl m r x.leg.toNat).c) rfl bh aq hc53) ?_
     refine .e2 (i:=12) (j:=13) aH rfl rfl rfl rfl .none .none hs ?_ ?_
     ·refine .alloc hs de rfl ?_;intro b13 w hs
      refine .go (.E 13 hs ?_)
      refine .alloc hs cf rfl ?_;intro b14 w hs
      refine .go (.E 14 hs ?_)
      refine .aU (vs:=(lg0 r x.leg.toNat).c) hs rfl rfl aN ?_;intro w hs
      refine .go (.E 15 hs ?_)
      refine .aU (vs:=(kl m r x.leg.toNat).c) hs rfl rfl aq ?_;intro w hs
      refine .go (.D hs ?_)
      exact nT ⟨b13,b14,a6,hs.sb⟩
     ·refine .alloc hs cf rfl ?_;intro b14 w hs
      refine .go (.E 12 hs ?_)
      refine .alloc hs de rfl ?_;intro b13 w hs
      refine .go (.E 14 hs ?_)
      refine .aU (vs:=(lg0 r x.leg.toNat).c) hs rfl rfl aN ?_;intro w hs
      refine .go (.E 15 hs ?_)
      refine .aU (vs:=(kl m r x.leg.toNat).c) hs rfl rfl aq ?_;intro w hs
      refine .go (.D hs ?_)
      exact nT ⟨b13,b14,a6,hs.sb⟩
    ·rintro fs w ⟨b13,b14,hfs,hs⟩
     refine WE.sub ?_ hfs
     clear hfs
     have hleg:0≤x.leg∧x.leg≤(r.length:Int) - 1:=by simpa using hb36
     obtain rfl:e=0:=by omega
     have hlt:x.leg.toNat<r.length:=by omega
     obtain ⟨q,hq,hqw⟩:=hB.mark hlt
     have hdn:=(hrt.leg _ hlt).1.dense
     unfold gH at hdn
     change St _ _ (.blk b14 [I (kl m r x.leg.toNat).lo,I (kl m r x.leg.toNat).hi]:: .blk b13 (lgC (lg0 r x.leg.toNat))::_) at hs
     refine .seq (.aj (.z (zfa jA) (.y hs (zld ae) (.z (zfa fj) (.z (zfa bN) (.y hs (zld ae) (.z (zfa fj) (.z (zfa cj) (.y hs (zld ae) (.o (.call eM rfl (cn hs) ?_)))))))))));rintro _ w ⟨rfl,hs⟩
     refine .z fI (.z zm (.bif (t':=65) rfl (fun hb65=>?_) (fun hb65=>?_)))
     ·refine .Fs 8 10 false (.zn zpT (.cT (.aj (.zn zg (.ret (rT (Fin.bq p8 rfl ?_)))))))
      exact ⟨H2,_,hle02,rfl,.no hB (fun h=>by have:=h.dense;simp_all),hs.out⟩
     ·refine .T ?_
      refine .z (zfa jz) (.T (.y hs (zld ae) (.T (.z (zfa bN) (.T (.y hs (zld ae) (.T (.z (zfa cj) (.T (.y hs (zld ae) (.T (.o (.call eM rfl (cn hs) ?_)))))))))))));rintro _ w ⟨rfl,hs⟩
      refine .T (.z fI (.zn zpF (.cond rfl (fun hc74=>?_) (fun hc74=>?_))))
      ·refine .aj (.zn zg (.ret (rT (Fin.bq p8 rfl ?_))))
       exact ⟨H2,_,hle02,rfl,.no hB (fun h=>by have:=h.nZ;simp_all),hs.out⟩
      ·refine .skip (nT (.aj (.zn zg (.cut (fun fs w=>∃n H3,lF fs ⟨101,[],[(15,I n),(9,Pt b9)]⟩∧HLe H H3∧HlR s' x.rows q n∧(-7000000000≤n∧n≤7000000000)∧St H3 w (.blk b9 [I x.leg,I x.dense,I x.nZ,vh]::σ)) ?_ ?_))))
       ·refine .aj (.z (zfa iT) (.y hs (zld an) (.z (zfa ek) (.y hs (zld ae) (.ixX (enc:=fun x=>[I x]) hs (RS.mono hmr hle2) rfl rfl af ai (bJ (l:=ks) (i:=x.leg.toNat) ak) ak ?_)))));intro b79 o79 hc79;replace hc79:=bL.one hc79
        rw [hq] at hc79
        refine .y hs (zld ae) (.zn zg (.aj (.z zm (.zn k7 (.bn rfl (fun hc82=>?_) (fun hc82=>?_))))))
        ·refine .draw mix rfl hs fun w hs=>?_
         refine .zw 0 rfl (zfa lS) ?_;refine .z 1 rfl (zfa bj) ?_;refine .ys 2 rfl hs [_,_,_,_,_,_] aK aA ?_;refine .z 3 rfl (zfa iq) ?_;refine .ys 4 rfl hs [_] eU dq ?_;refine .z 5 rfl zm ?_
         refine .E 6 hs ?_
         refine .call Tryz.call98 rfl (mj hs) ?_;rintro _ w ⟨rfl,hs⟩
         refine .go (.E 7 hs ?_)
         refine .call Tryz.call64 rfl (ru (s:=s'.sp) (rows:=x.rows) (q:=⟨1,0,q⟩) hs (g'.mono hle2).st (g'.mono hle2).wa (gh.mono hle2)) ?_;rintro _ w ⟨H3,n,f,hle3,rfl,hV,hs⟩
         refine .go (.zw 8 rfl zm ?_);refine .z 9 rfl zex ?_;refine .z 10 rfl zex ?_;refine .z 11 rfl zg ?_;refine .D hs ?_
         refine nT ?_
         obtain rfl:f=0:=by
          have hhl:=hCh.Gf
          cases hV with
          |space h=>exact (h hok.early.1).elim
          |hull _ h=>exact (h hhl).elim
          |what _ _ h=>exact (h (AD (v:=s') ak hqw)).elim
          |ok=>rfl
         exact ⟨n,H3,a6,hle02.trans hle3,.up ak hV,hV.bd rfl,hs.sb⟩
        ·refine .skip (nT ?_)
         exact ⟨0,H2,a6,hle02,.zero ak,ak,hs.sb⟩
       ·rintro fs w ⟨n,H3,hfs,hle03,hHl,hnb,hs⟩
        refine WE.sub ?_ hfs
        clear hfs
        have hdw:(lg0 r x.leg.toNat).dlo≤x.dense∧x.dense≤(lg0 r x.leg.toNat).dhi:=by simpa using hb65
        have hmw:(kl m r x.leg.toNat).lo≤x.nZ∧x.nZ≤(kl m r x.leg.toNat).hi:=by simpa using hc74
        refine .seq (.seq (.draw mix rfl hs fun w hs=>?_))
        refine .zw 0 rfl (zfa jz) ?_;refine .y 1 rfl hs ae ?_;refine .z 2 rfl zm ?_;refine .z 3 rfl (zfa jA) ?_;refine .y 4 rfl hs ae ?_
        refine .E 5 hs ?_
        refine .call Tryz.call99 rfl (im hs ak ak) ?_;rintro _ w ⟨rfl,hs⟩
        refine .go (.zw 6 rfl nb ?_);refine .D hs ?_
        refine (.bn rfl (fun hc100=>?_) (fun hc100=>?_))
        ·refine .aj (.zn zg (.ret (rT (Fin.bq p8 rfl ?_))))
         exact ⟨H3,_,hle03,rfl,.no hB (fun h=>by
          obtain ⟨n',g1,g2⟩:=h.sinks
          rw [hq,Int.toNat_natCast] at g1
          rw [←hHl.uniq g1] at g2;omega),hs.out⟩
        ·refine .skip (nT (.aj (.zn zg (.ret (Fin.bq p8 rfl ?_)))))
         exact ⟨H3,_,hle03,rfl,.ok hB ⟨hleg,hCh,hdw,hmw,n,by rw [hq,Int.toNat_natCast];exact hHl,ak⟩,hs.out⟩
theorem rI(hs:St H w σ):
  Cl Tryz.prog 71 [] w fun u w'=>∃H1 a b c d vt vs vlg,HLe H H1∧u= .tuple #[.agg #[I 1,I 1,a,b,I 100,I 200,c,d],.agg #[I 1000,I 1200,vt,vs],.agg #[vlg]]∧SvM H1 exV a b c d∧LnM H1 qd vt vs∧RLg H1 vlg m8∧St H1 w' σ:=by
 refine Cl.of Tryz.func71 rfl Tryz.ntmps71 bT (yM) (.aj (.o (.alloc hs dS rfl fun b0 w hs=>?_)))
 refine .o (.alloc hs jd rfl fun b1 w hs=>?_)
 refine .o (.alloc hs j5 rfl fun b2 w hs=>?_)
 refine .nil (.aj (.o (.buildSlice (cells:=Is [0,1000]) hs kI rfl aH fun b8 w hs=>?_)))
 refine .o (.buildSlice (cells:=Is [0,1000]) hs kI rfl aH fun b9 w hs=>?_)
 refine .z (zbd [_,_] tK) (.z (zbd [_,_,_,_,_,_] sc) (.o (.alloc hs jc rfl fun b3 w hs=>?_)))
 refine .o (.aU (vs:=[_,_,_,_,_,_]) hs rfl rfl aA fun w hs=>?_)
 refine .nil (.aj (.y hs (zls [_,_,_,_,_,_] aK aA) (.z (zbd [_,_,_,_,_,_,_] iZ) (.z (zbd [_,_,_,_,_,_,_] iZ) (.z (zbd [_,_,_,_,_,_,_] iZ) (.z (zbd [_,_,_,_,_,_,_] iZ) (.o (.buildSlice (cells:=(rdc Hr).flatten) hs pT rfl aH fun b17 w hs=>?_))))))))
 refine .z (zbd [_,_,_,_,_,_] ph) (.o (.buildSlice (cells:=(cmc exV.cs).flatten) hs lh rfl aH fun b19 w hs=>?_))
 refine .z (zbd (vs:=[(0,.agg #[I 1,I 1,.slice (some ⟨b8,0,none⟩) 2 2,.slice (some ⟨b9,0,none⟩) 2 2,I 100,I 200]),(1,.slice (some ⟨b17,0,none⟩) 4 4),(2,.slice (some ⟨b19,0,none⟩) 1 1)]) [I 1,I 1,.slice (some ⟨b8,0,none⟩) 2 2,.slice (some ⟨b9,0,none⟩) 2 2,I 100,I 200,.slice (some ⟨b17,0,none⟩) 4 4,.slice (some ⟨b19,0,none⟩) 1 1] qh rfl aH) (.o (.alloc hs dS rfl fun b4 w hs=>?_))
 refine .o (.aU (vs:=[_,_,_,_,_,_,_,_]) hs rfl rfl aC fun w hs=>?_)
 refine .nil (.aj (.z (zbd [_,_] gS) (.z (zbd [_,_] gS) (.o (.buildSlice (cells:=(fbc qd.table).flatten) hs oo rfl aH fun b23 w hs=>?_)))))
 refine .z (zbd [_,_,_,_] qi) (.o (.buildSlice (cells:=(snc qd.seasons).flatten) hs lV rfl aH fun b25 w hs=>?_))
 refine .z (zbd (vs:=[(0,I 1000),(1,I 1200),(2,.slice (some ⟨b23,0,none⟩) 2 2),(3,.slice (some ⟨b25,0,none⟩) 1 1)]) [I 1000,I 1200,.slice (some ⟨b23,0,none⟩) 2 2,.slice (some ⟨b25,0,none⟩) 1 1] sd rfl aH) (.o (.alloc hs jd rfl fun b5 w hs=>?_))
 refine .o (.aU (vs:=[_,_,_,_]) hs rfl rfl aW fun w hs=>?_)
 refine .nil (.aj (.z (zbd [_,_] cB) (.o (.alloc hs cf rfl fun b6 w hs=>?_))))
 refine .o (.aU (vs:=[_,_]) hs rfl rfl aq fun w hs=>?_)
 refine .nil (.aj (.z (zbd [_,_] cB) (.o (.alloc hs cf rfl fun b7 w hs=>?_))))
 refine .o (.aU (vs:=[_,_]) hs rfl rfl aq fun w hs=>?_)
 refine .nil (.cut (fun fs w=>∃b37,lF fs ⟨39,[],[(2,Pt b2),(1,Pt b1),(0,Pt b0)]⟩∧St H w (.blk b2 [.slice (some ⟨b37,0,none⟩) 2 2]:: .blk b1 [I 1000,I 1200,.slice (some ⟨b23,0,none⟩) 2 2,.slice (some ⟨b25,0,none⟩) 1 1]:: .blk b0 [I 1,I 1,.slice (some ⟨b8,0,none⟩) 2 2,.slice (some ⟨b9,0,none⟩) 2 2,I 100,I 200,.slice (some ⟨b17,0,none⟩) 4 4,.slice (some ⟨b19,0,none⟩) 1 1]:: .blk b37 (lgc m8).flatten:: .blk b25 (snc qd.seasons).flatten:: .blk b23 (fbc qd.table).flatten:: .blk b19 (cmc exV.cs).flatten:: .blk b17 (rdc Hr).flatten:: .blk b9 (Is [0,1000]):: .blk b8 (Is [0,1000])::σ)) ?_ ?_)
 ·refine .draw mix rfl hs fun w hs=>?_
  refine .ys 0 rfl hs [_,_,_,_,_,_,_,_] aQ aC ?_;refine .ys 1 rfl hs [_,_,_,_] bB aW ?_;refine .ys 2 rfl hs [_,_] bh aq ?_;refine .ys 3 rfl hs [_,_] bh aq ?_;refine .z 4 rfl (zbd (lg0 m8 0).c lW rfl aH) ?_;refine .ys 5 rfl hs [_,_] bh aq ?_;refine .ys 6 rfl hs [_,_] bh aq ?_;refine .z 7 rfl (zbd (lg0 m8 1).c lW rfl aH) ?_
  refine .e2 (i:=8) (j:=10) aH rfl rfl rfl rfl .none .none hs ?_ ?_
  ·refine .buildSlice (cells:=(lgc m8).flatten) hs kV rfl aH ?_;intro b37 w hs
   refine .go (.zw 9 rfl (zbd [_] nr) (.E 10 hs ?_))
   refine .aU (vs:=[_,_,_,_,_,_,_,_]) hs rfl rfl aC ?_;intro w hs
   refine .go (.E 11 hs ?_)
   refine .aU (vs:=[_,_,_,_]) hs rfl rfl aW ?_;intro w hs
   refine .go (.E 12 hs ?_)
   refine .aU (vs:=[_]) hs rfl rfl bA ?_;intro w hs
   refine .go (.D hs ?_)
   exact nT ⟨b37,a6,hs.sb⟩
  ·refine .aU (vs:=[_,_,_,_,_,_,_,_]) hs rfl rfl aC ?_;intro w hs
   refine .go (.e2 (i:=8) (j:=11) aH rfl rfl rfl rfl .none .none hs ?_ ?_)
   ·refine .buildSlice (cells:=(lgc m8).flatten) hs kV rfl aH ?_;intro b37 w hs
    refine .go (.zw 9 rfl (zbd [_] nr) (.E 11 hs ?_))
    refine .aU (vs:=[_,_,_,_]) hs rfl rfl aW ?_;intro w hs
    refine .go (.E 12 hs ?_)
    refine .aU (vs:=[_]) hs rfl rfl bA ?_;intro w hs
    refine .go (.D hs ?_)
    exact nT ⟨b37,a6,hs.sb⟩
   ·refine .aU (vs:=[_,_,_,_]) hs rfl rfl aW ?_;intro w hs
    refine .go (.E 8 hs ?_)
    refine .buildSlice (cells:=(lgc m8).flatten) hs kV rfl aH ?_;intro b37 w hs
    refine .go (.zw 9 rfl (zbd [_] nr) (.E 12 hs ?_))
    refine .aU (vs:=[_]) hs rfl rfl bA ?_;intro w hs
    refine .go (.D hs ?_)
    exact nT ⟨b37,a6,hs.sb⟩
 ·rintro fs w ⟨b37,hfs,hs⟩
  refine WE.sub ?_ hfs
  clear hfs
  refine .ret ?_
  obtain ⟨H1,g1,r1,hs⟩:=cN.dM (xs:=[0,1000]) (v:= .slice (some ⟨b8,0,none⟩) 2 2) (.full rfl) bT hs dz
  obtain ⟨H2,g2,r2,hs⟩:=cN.dM (xs:=[0,1000]) (v:= .slice (some ⟨b9,0,none⟩) 2 2) (.full rfl) bT hs dz
  obtain ⟨H3,g3,r3,hs⟩:=cN.cQ (m:=7) (cs:=rdc Hr) (v:= .slice (some ⟨b17,0,none⟩) 4 4) (.full aH) (kc _) ak dL hs dz
  obtain ⟨H4,g4,r4,hs⟩:=cN.cQ (m:=6) (cs:=cmc exV.cs) (v:= .slice (some ⟨b19,0,none⟩) 1 1) (.full aH) (ti _) ak dL hs dz
  obtain ⟨H5,g5,r5,hs⟩:=cN.cQ (m:=2) (cs:=fbc qd.table) (v:= .slice (some ⟨b23,0,none⟩) 2 2) (.full aH) (FB _) ak dL hs dz
  obtain ⟨H6,g6,r6,hs⟩:=cN.cQ (m:=4) (cs:=snc qd.seasons) (v:= .slice (some ⟨b25,0,none⟩) 1 1) (.full aH) (zh _) ak dL hs dz
  obtain ⟨H7,g7,r7,hs⟩:=cN.cQ (m:=7) (cs:=lgc m8) (v:= .slice (some ⟨b37,0,none⟩) 2 2) (.full aH) (AM _) ak dL hs dz
  have k6:=g6.trans g7
  have k5:=g5.trans k6
  have k4:=g4.trans k5
  have k3:=g3.trans k4
  have k2:=g2.trans k3
  exact Fin.jt [] [] hs fun w hs=>⟨_,results3 Tryz.results71 (dK (vs:=[I 1,I 1,.slice (some ⟨b8,0,none⟩) 2 2,.slice (some ⟨b9,0,none⟩) 2 2,I 100,I 200,.slice (some ⟨b17,0,none⟩) 4 4,.slice (some ⟨b19,0,none⟩) 1 1]) hs rfl aQ aC) (dK (vs:=[I 1000,I 1200,.slice (some ⟨b23,0,none⟩) 2 2,.slice (some ⟨b25,0,none⟩) 1 1]) hs rfl bB aW) (dK (vs:=[.slice (some ⟨b37,0,none⟩) 2 2]) hs rfl cH bA),H7,_,_,_,_,_,_,_,g1.trans k2,rfl,⟨r1.mono k2,r2.mono k3,r3.mono k4,r4.mono k5⟩,⟨r5.mono k6,r6.mono g7⟩,r7,hs.out⟩
set_option maxRecDepth 100000 in
theorem B5:Tryz.prog.stoodInHeld 42=false:=by kernel_rfl
set_option maxRecDepth 100000 in
theorem B6:Tryz.prog.eqGuardType Tryz.prog.depth 42=false:=by kernel_rfl
set_option maxHeartbeats 4000000 in
theorem wb(hs:St H w σ):
  Cl Tryz.prog 18 [] w fun u w'=>u= .bool true∧∃H1,HLe H H1∧St H1 w' σ:=by
 refine Cl.of Tryz.func18 rfl Tryz.ntmps18 bT (yM) (.aj (.zn zg (.aj (.o (.call Tryz.call71 rfl (rI hs) ?_)))));rintro _ w ⟨H1,a,b,c,d,vt,vs,vlg,hle1,rfl,g,gl,gr_,hs⟩
 obtain ⟨aa,ca,rfl⟩:=RI.shape g.st
 obtain ⟨ab,cb,rfl⟩:=RI.shape g.wa
 obtain ⟨ac,cc,rfl⟩:=RRd.shape g.rd
 obtain ⟨ad,cd,rfl⟩:=RCm.shape g.cm
 obtain ⟨at_,ct,rfl⟩:=gl.tb.shape
 obtain ⟨as_,cs,rfl⟩:=gl.sn.shape
 obtain ⟨ar,cr,rfl⟩:=gr_.shape
 refine .z zm (.z zex (.z zex (.z zex (.o (.alloc hs dS rfl fun b1 w hs=>?_)))))
 refine .o (.alloc hs jd rfl fun b2 w hs=>?_)
 refine .o (.alloc hs j5 rfl fun b3 w hs=>?_)
 refine .o (.aU (vs:=[_,_,_,_,_,_,_,_]) hs rfl rfl aC fun w hs=>?_)
 refine .o (.aU (vs:=[_,_,_,_]) hs rfl rfl aW fun w hs=>?_)
 refine .o (.aU (vs:=[_]) hs rfl rfl bA fun w hs=>?_)
 refine .nil (.aj (.y hs (zls [_,_,_,_] bB aW) (.o (.call Tryz.call37 rfl (qB (l:=qd) hs gl.tb gl.sn) ?_))));rintro _ w ⟨n,e,rfl,hF,hs⟩
 obtain ⟨rfl,rfl⟩:=DY hF
 refine .z zm (.z zex (.z zex (.z zg (.zn zg (.aj (.y hs (zls [_,_,_,_] bB aW) (.o (.call Tryz.call41 rfl (uj (l:=qd) hs gl.tb gl.sn) ?_))))))));rintro _ w ⟨n,e,rfl,hF,hs⟩
 obtain ⟨rfl,rfl⟩:=AZ hF
 refine .z zm (.z zex (.z zex (.z zg (.zn zg (.aj (.y hs (zls [_,_,_,_,_,_,_,_] aQ aC) (.z (zbd [I 1000,I 1025] cB) (.o (.call Tryz.call58 rfl (oa (s:=exV) hs g) ?_)))))))));rintro _ w ⟨H2,lo,hi,e,hle2,rfl,hD,hs⟩
 obtain ⟨rfl,rfl,rfl,hL⟩:=DZ hD
 replace g:=g.mono hle2
 replace gl:=gl.mono hle2
 replace gr_:=gr_.mono hle2
 refine .z zm (.z zex (.z zex (.o (.alloc hs cf rfl fun b8 w hs=>?_))))
 refine .o (.aU (vs:=[_,_]) hs rfl rfl aq fun w hs=>?_)
 refine .zn zg (.aj (.y hs (zls [_,_,_,_,_,_,_,_] aQ aC) (.y hs (zls [_,_,_,_] bB aW) (.y hs (zls [_] cH bA) (.z (zbd [I 150,I 160] cB) (.o (.call Tryz.call26 rfl (oO (s:=exV) (l:=qd) (r:=m8) (m:=⟨150,160⟩) hs g gl gr_) ?_)))))));rintro _ w ⟨H3,n,e,hle3,rfl,hJ,hs⟩
 obtain ⟨rfl,rfl⟩:=xz hL dL hJ
 rw [show AQ [CF (kl ⟨150,160⟩ m8 0) 190 404,CF (kl ⟨150,160⟩ m8 1) 190 404]=1 by decide]
 replace g:=g.mono hle3
 replace gl:=gl.mono hle3
 replace gr_:=gr_.mono hle3
 refine .z zm (.z zex (.z zex (.z zg (.zn zg (.aj (.y hs (zls [_,_,_,_,_,_,_,_] aQ aC) (.y hs (zls [_,_,_,_] bB aW) (.y hs (zls [_] cH bA) (.z (zbd [I 180,I 200] cB) (.o (.call Tryz.call26 rfl (oO (s:=exV) (l:=qd) (r:=m8) (m:=⟨180,200⟩) hs g gl gr_) ?_)))))))))));rintro _ w ⟨H4,n,e,hle4,rfl,hJ,hs⟩
 obtain ⟨rfl,rfl⟩:=xz hL dL hJ
 rw [show AQ [CF (kl ⟨180,200⟩ m8 0) 190 404,CF (kl ⟨180,200⟩ m8 1) 190 404]=2 by decide]
 replace g:=g.mono hle4
 replace gl:=gl.mono hle4
 replace gr_:=gr_.mono hle4
 refine .z zm (.z zex (.z zex (.z zg (.zn zg (.aj (.y hs (zls [_,_,_,_,_,_,_,_] aQ aC) (.y hs (zls [_,_,_,_] bB aW) (.y hs (zls [_] cH bA) (.o (.call Tryz.call28 rfl (wS (s:=exV) (l:=qd) (r:=m8) hs g gl gr_) ?_))))))))));rintro _ w ⟨H5,n,e,hle5,rfl,hS,hs⟩
 obtain ⟨rfl,rfl⟩:=DX hL hS
 replace g:=g.mono hle5
 replace gl:=gl.mono hle5
 replace gr_:=gr_.mono hle5
 have hle05:=hle1.trans (hle2.trans (hle3.trans (hle4.trans hle5)))
 refine .z zm (.z zex (.z zex (.z zg (.zn zg (.aj (.o (.buildSlice (cells:=Is [75,175]) hs kI rfl aH fun b61 w hs=>?_)))))))
 refine .o (.buildSlice (cells:=Is [0,130]) hs kI rfl aH fun b62 w hs=>?_)
 refine .o (.buildSlice (cells:=[.slice (some ⟨b61,0,none⟩) 2 2,.slice (some ⟨b62,0,none⟩) 2 2]) hs wY rfl aH fun b63 w hs=>?_)
 refine .z (zbd [_] zZ) ?_
 obtain ⟨H6,g6,r6,hs⟩:=cN.dM (xs:=[75,175]) (v:= .slice (some ⟨b61,0,none⟩) 2 2) (.full rfl) bT hs dz
 obtain ⟨H7,g7,r7,hs⟩:=cN.dM (xs:=[0,130]) (v:= .slice (some ⟨b62,0,none⟩) 2 2) (.full rfl) bT hs dz
 have hRL:RLs H7 [.slice (some ⟨b61,0,none⟩) 2 2,.slice (some ⟨b62,0,none⟩) 2 2] Hs:=((RLs.nil H7).snoc (r6.mono g7)).snoc r7
 obtain ⟨H8,g8,hRT,hs⟩:=hRL.cQ (v:= .slice (some ⟨b63,0,none⟩) 2 2) (en:= .blk b63 [.slice (some ⟨b61,0,none⟩) 2 2,.slice (some ⟨b62,0,none⟩) 2 2]) (.full rfl) bT hs dz
 have hle8:=g6.trans (g7.trans g8)
 replace g:=g.mono hle8
 replace gl:=gl.mono hle8
 replace gr_:=gr_.mono hle8
 refine .z (zbd [_,_,_,_] wv) (.o (.alloc hs Tryz.zeroValue66 rfl fun b16 w hs=>?_))
 refine .o (.aU (vs:=[_,_,_,_]) hs rfl rfl Ad fun w hs=>?_)
 refine .nil (.aj (.z zm (.z fF (.z zm (.ie (t':=68) rfl (fun hb68=>?_) (fun hb68=>?_))))))
 ·refine .T (.z zm (.T (.z fF (.z zpT (.z zm (.ie (t':=72) rfl (fun hb72=>?_) (fun hb72=>?_)))))))
  ·refine .T (.z zm (.T (.z fF (.z zpT (.z zm (.ie (t':=76) rfl (fun hb76=>?_) (fun hb76=>?_)))))))
   ·refine .T (.z zm (.T (.z fF (.z zpT (.z zm (.ie (t':=80) rfl (fun hb80=>?_) (fun hb80=>?_)))))))
    ·refine .T (.z zm (.T (.z fF (.z zpT (.z zm (.ie (t':=84) rfl (fun hb84=>?_) (fun hb84=>?_)))))))
     ·refine .T (.y hs (zls [_,_] bh aq) (.T (.z (zbd [_,_] cB) (.T ?_))))
      refine .q hs (zu B5 B6 F1 (fun f hf=>by
       simp only [List.mem_cons,List.not_mem_nil,or_false] at hf
       rcases hf with rfl|rfl<;>exact ⟨by decide,bF,ae⟩) rfl rfl) ?_
      refine .z zpT (.z zm (.bif (t':=89) rfl (fun hb89=>?_) (fun hb89=>?_)))
      ·refine .T (.z zm (.T (.z fF (.z zpT (.z zm (.ie (t':=93) rfl (fun hb93=>?_) (fun hb93=>?_)))))))
       ·refine .T (.z zm (.T (.z fF (.z zpT (.z zm (.ie (t':=97) rfl (fun hb97=>?_) (fun hb97=>?_)))))))
        ·refine .T (.z zm (.T (.z fF (.z zpT (.z zm (.ie (t':=101) rfl (fun hb101=>?_) (fun hb101=>?_)))))))
         ·refine .T (.z zm (.T (.z fF (.z zpT (.z zm (.ie (t':=105) rfl (fun hb105=>?_) (fun hb105=>?_)))))))
          ·refine .T (.z zm (.T (.z fF (.z zpT (.z zm (.ie (t':=109) rfl (fun hb109=>?_) (fun hb109=>?_)))))))
           ·refine .T (.z zm (.T (.z fF (.z zpT (.z zm (.ie (t':=113) rfl (fun hb113=>?_) (fun hb113=>?_)))))))
            ·refine .T (.y hs (zls [_,_,_,_,_,_,_,_] aQ aC) (.T (.y hs (zls [_,_,_,_] bB aW) (.T (.y hs (zls [_] cH bA) (.T (.z (zbd [I 180,I 200] cB) (.T (.y hs (zls [_,_,_,_] Jt Ad) (.T (.o (.call Tryz.call32 rfl (jn (s:=exV) (l:=qd) (r:=m8) (m:=⟨180,200⟩) (x:=⟨0,1000,200,Hs⟩) hs g gl gr_ hRT) ?_))))))))))));rintro _ w ⟨H9,e,hle9,rfl,hW,hs⟩
             obtain rfl:=FC hW
             have hleF:=(hle05.trans hle8).trans hle9
             refine .T (.z fF (.z zpT (.zn zg (.ret (Fin.bq fu rfl ?_)))))
             first
             |exact ⟨rfl,H9,hleF,hs.out⟩
             |contradiction
             |(exfalso;simp_all;done)
            ·refine .Fs 7 47 true (.z zpF (.zn zg (.ret (Fin.bq fu rfl ?_))))
             first
             |exact ⟨rfl,H9,hleF,hs.out⟩
             |contradiction
             |(exfalso;simp_all;done)
           ·refine .Fs 2 43 true (.z zpF (.z zm (.Fs 7 47 true (.z zpF (.zn zg (.ret (Fin.bq fu rfl ?_)))))))
            first
            |exact ⟨rfl,H9,hleF,hs.out⟩
            |contradiction
            |(exfalso;simp_all;done)
          ·refine .Fs 2 39 true (.z zpF (.z zm (.Fs 2 43 true (.z zpF (.z zm (.Fs 7 47 true (.z zpF (.zn zg (.ret (Fin.bq fu rfl ?_))))))))))
           first
           |exact ⟨rfl,H9,hleF,hs.out⟩
           |contradiction
           |(exfalso;simp_all;done)
         ·refine .Fs 2 35 true (.z zpF (.z zm (.Fs 2 39 true (.z zpF (.z zm (.Fs 2 43 true (.z zpF (.z zm (.Fs 7 47 true (.z zpF (.zn zg (.ret (Fin.bq fu rfl ?_)))))))))))))
          first
          |exact ⟨rfl,H9,hleF,hs.out⟩
          |contradiction
          |(exfalso;simp_all;done)
        ·refine .Fs 2 31 true (.z zpF (.z zm (.Fs 2 35 true (.z zpF (.z zm (.Fs 2 39 true (.z zpF (.z zm (.Fs 2 43 true (.z zpF (.z zm (.Fs 7 47 true (.z zpF (.zn zg (.ret (Fin.bq fu rfl ?_))))))))))))))))
         first
         |exact ⟨rfl,H9,hleF,hs.out⟩
         |contradiction
         |(exfalso;simp_all;done)
       ·refine .Fs 2 27 true (.z zpF (.z zm (.Fs 2 31 true (.z zpF (.z zm (.Fs 2 35 true (.z zpF (.z zm (.Fs 2 39 true (.z zpF (.z zm (.Fs 2 43 true (.z zpF (.z zm (.Fs 7 47 true (.z zpF (.zn zg (.ret (Fin.bq fu rfl ?_)))))))))))))))))))
        first
        |exact ⟨rfl,H9,hleF,hs.out⟩
        |contradiction
        |(exfalso;simp_all;done)
      ·refine .Fs 2 23 true (.z zpF (.z zm ?_))
       refine .Fs 2 27 true (.z zpF (.z zm (.Fs 2 31 true (.z zpF (.z zm (.Fs 2 35 true (.z zpF (.z zm (.Fs 2 39 true (.z zpF (.z zm (.Fs 2 43 true (.z zpF (.z zm (.Fs 7 47 true (.z zpF (.zn zg (.ret (Fin.bq fu rfl ?_)))))))))))))))))))
       first
       |exact ⟨rfl,H9,hleF,hs.out⟩
       |contradiction
       |(exfalso;simp_all;done)
     ·refine .Fs 3 18 true (.z zpF (.z zm (.Fs 2 23 true (.z zpF (.z zm ?_)))))
      refine .Fs 2 27 true (.z zpF (.z zm (.Fs 2 31 true (.z zpF (.z zm (.Fs 2 35 true (.z zpF (.z zm (.Fs 2 39 true (.z zpF (.z zm (.Fs 2 43 true (.z zpF (.z zm (.Fs 7 47 true (.z zpF (.zn zg (.ret (Fin.bq fu rfl ?_)))))))))))))))))))
      first
      |exact ⟨rfl,H9,hleF,hs.out⟩
      |contradiction
      |(exfalso;simp_all;done)
    ·refine .Fs 2 14 true (.z zpF (.z zm (.Fs 3 18 true (.z zpF (.z zm (.Fs 2 23 true (.z zpF (.z zm ?_))))))))
     refine .Fs 2 27 true (.z zpF (.z zm (.Fs 2 31 true (.z zpF (.z zm (.Fs 2 35 true (.z zpF (.z zm (.Fs 2 39 true (.z zpF (.z zm (.Fs 2 43 true (.z zpF (.z zm (.Fs 7 47 true (.z zpF (.zn zg (.ret (Fin.bq fu rfl ?_)))))))))))))))))))
     first
     |exact ⟨rfl,H9,hleF,hs.out⟩
     |contradiction
     |(exfalso;simp_all;done)
   ·refine .Fs 2 10 true (.z zpF (.z zm (.Fs 2 14 true (.z zpF (.z zm (.Fs 3 18 true (.z zpF (.z zm (.Fs 2 23 true (.z zpF (.z zm ?_)))))))))))
    refine .Fs 2 27 true (.z zpF (.z zm (.Fs 2 31 true (.z zpF (.z zm (.Fs 2 35 true (.z zpF (.z zm (.Fs 2 39 true (.z zpF (.z zm (.Fs 2 43 true (.z zpF (.z zm (.Fs 7 47 true (.z zpF (.zn zg (.ret (Fin.bq fu rfl ?_)))))))))))))))))))
    first
    |exact ⟨rfl,H9,hleF,hs.out⟩
    |contradiction
    |(exfalso;simp_all;done)
  ·refine .Fs 2 6 true (.z zpF (.z zm (.Fs 2 10 true (.z zpF (.z zm (.Fs 2 14 true (.z zpF (.z zm (.Fs 3 18 true (.z zpF (.z zm (.Fs 2 23 true (.z zpF (.z zm ?_))))))))))))))
   refine .Fs 2 27 true (.z zpF (.z zm (.Fs 2 31 true (.z zpF (.z zm (.Fs 2 35 true (.z zpF (.z zm (.Fs 2 39 true (.z zpF (.z zm (.Fs 2 43 true (.z zpF (.z zm (.Fs 7 47 true (.z zpF (.zn zg (.ret (Fin.bq fu rfl ?_)))))))))))))))))))
   first
   |exact ⟨rfl,H9,hleF,hs.out⟩
   |contradiction
   |(exfalso;simp_all;done)
 ·refine .Fs 2 2 true (.z zpF (.z zm (.Fs 2 6 true (.z zpF (.z zm (.Fs 2 10 true (.z zpF (.z zm (.Fs 2 14 true (.z zpF (.z zm (.Fs 3 18 true (.z zpF (.z zm (.Fs 2 23 true (.z zpF (.z zm ?_)))))))))))))))))
  refine .Fs 2 27 true (.z zpF (.z zm (.Fs 2 31 true (.z zpF (.z zm (.Fs 2 35 true (.z zpF (.z zm (.Fs 2 39 true (.z zpF (.z zm (.Fs 2 43 true (.z zpF (.z zm (.Fs 7 47 true (.z zpF (.zn zg (.ret (Fin.bq fu rfl ?_)))))))))))))))))))
  first
  |exact ⟨rfl,H9,hleF,hs.out⟩
  |contradiction
  |(exfalso;simp_all;done)
theorem dk{a0 a1 a2:Int}(hs:St H w σ):Cl Tryz.prog 74 [I a0,I a1,I a2] w fun v w'=>v= .bool (decide (a1≤a0∧a0≤a2))∧St H w' σ:=by
 refine Cl.o Tryz.func74 Tryz.ntmps74 ag3 ?_
 refine .aj (.zn zg (.aj (.z zm (.z zm (.z uF (.z zm (.ie (t':=10) rfl (fun hb10=>?_) (fun hb10=>?_))))))))
 ·refine .T (.z zm (.T (.z zm (.T (.z nb (.z zpT (.zn zg (.ret (Fin.bq Tryz.results74 rfl ?_)))))))))
  exact ⟨by simp [*],hs.out⟩
 ·refine .Fs 3 3 true (.z zpF (.zn zg (.ret (Fin.bq Tryz.results74 rfl ?_))))
  exact ⟨by simp [*],hs.out⟩
theorem mQ{x y:Int}(hs:St H w σ):Cl Tryz.prog 53 [.agg #[I x,I y]] w fun v w'=>v= .bool (decide (iy x y))∧St H w' σ:=by
 refine Cl.o Tryz.func53 Tryz.ntmps53 ag1 ?_
 refine .aj (.bx hs fun b1 w hs=>?_)
 refine .zn zg (.aj (.z (zfa bN) (.y hs (zld ae) (.z uF (.z zm (.ie (t':=6) rfl (fun hb6=>?_) (fun hb6=>?_)))))))
 ·refine .T (.z (zfa bN) (.T (.y hs (zld ae) (.T (.z (zfa cj) (.T (.y hs (zld ae) (.T (.z nb (.z zpT (.z zm (.ie (t':=13) rfl (fun hb13=>?_) (fun hb13=>?_)))))))))))))
  ·refine .T (.z (zfa cj) (.T (.y hs (zld ae) (.T (.z nb (.z zpT (.zn zg (.ret (Fin.bq Tryz.results53 rfl ?_)))))))))
   exact ⟨by unfold iy;simp [*],hs.out⟩
  ·refine .Fs 3 10 true (.z zpF (.zn zg (.ret (Fin.bq Tryz.results53 rfl ?_))))
   exact ⟨by unfold iy;simp [*],hs.out⟩
 ·refine .Fs 5 3 true (.z zpF (.z zm (.Fs 3 10 true (.z zpF (.zn zg (.ret (Fin.bq Tryz.results53 rfl ?_)))))))
  exact ⟨by unfold iy;simp [*],hs.out⟩
theorem q9{x y:Int}(hs:St H w σ):Cl Tryz.prog 124 [.agg #[I x,I y]] w fun v w'=>v= .bool (decide (gH x y))∧St H w' σ:=by
 refine Cl.o Tryz.func124 Tryz.ntmps124 ag1 ?_
 refine .aj (.bx hs fun b1 w hs=>?_)
 refine .zn zg (.aj (.z (zfa bN) (.y hs (zld ae) (.z uF (.z zm (.ie (t':=6) rfl (fun hb6=>?_) (fun hb6=>?_)))))))
 ·refine .T (.z (zfa bN) (.T (.y hs (zld ae) (.T (.z (zfa cj) (.T (.y hs (zld ae) (.T (.z nb (.z zpT (.z zm (.ie (t':=13) rfl (fun hb13=>?_) (fun hb13=>?_)))))))))))))
  ·refine .T (.z (zfa cj) (.T (.y hs (zld ae) (.T (.z nb (.z zpT (.zn zg (.ret (Fin.bq Tryz.results124 rfl ?_)))))))))
   exact ⟨by unfold gH;simp [*],hs.out⟩
  ·refine .Fs 3 10 true (.z zpF (.zn zg (.ret (Fin.bq Tryz.results124 rfl ?_))))
   exact ⟨by unfold gH;simp [*],hs.out⟩
 ·refine .Fs 5 3 true (.z zpF (.z zm (.Fs 3 10 true (.z zpF (.zn zg (.ret (Fin.bq Tryz.results124 rfl ?_)))))))
  exact ⟨by unfold gH;simp [*],hs.out⟩
theorem tX{x:Lg}(hs:St H w σ):
  Cl Tryz.prog 76 [.agg #[I x.zone,I x.fr,I x.to,I x.dlo,I x.dhi,I x.blo,I x.bhi]] w fun v w'=>∃b:Bool,v= .bool b∧(b=true↔A5 x)∧St H w' σ:=by
 refine Cl.o Tryz.func76 Tryz.ntmps76 ag1 ?_
 refine .aj (.bx hs fun b1 w hs=>?_)
 refine .zn zg (.aj (.z (zfa kF) (.y hs (zld ae) (.o (.call fg rfl (dk hs) ?_)))));rintro _ w ⟨rfl,hs⟩
 refine .z zm (.bif (t':=6) rfl (fun hb6=>?_) (fun hb6=>?_))
 ·refine .T (.z (zfa fl) (.T (.y hs (zld ae) (.T (.z uF (.z zpT (.z zm (.ie (t':=11) rfl (fun hb11=>?_) (fun hb11=>?_)))))))))
  ·refine .T (.z (zfa fl) (.T (.y hs (zld ae) (.T (.z (zfa fk) (.T (.y hs (zld ae) (.T (.z nb (.z zpT (.z zm (.ie (t':=18) rfl (fun hb18=>?_) (fun hb18=>?_)))))))))))))
   ·refine .T (.z (zfa fk) (.T (.y hs (zld ae) (.T (.z nb (.z zpT (.z zm (.ie (t':=23) rfl (fun hb23=>?_) (fun hb23=>?_)))))))))
    ·refine .T (.z (zfa fj) (.T (.y hs (zls [_,_] bh aq) (.T (.o (.call Tryz.call124 rfl (q9 hs) ?_))))));rintro _ w ⟨rfl,hs⟩
     refine .z zpT (.z zm (.bif (t':=28) rfl (fun hb28=>?_) (fun hb28=>?_)))
     ·refine .T (.z (zfa fH) (.T (.y hs (zls [_,_] bh aq) (.T (.o (.call Tryz.call53 rfl (mQ hs) ?_))))));rintro _ w ⟨rfl,hs⟩
      refine .z zpT (.zn zg (.ret (Fin.bq xb rfl ?_)))
      first
      |exact ⟨false,rfl,⟨fun h=>(by cases h),fun h=>(by obtain ⟨g1,g2,g3,g4,g5⟩:=h;first|omega|(simp_all;done)|(simp_all;omega))⟩,hs.out⟩
      |exact ⟨_,rfl,⟨fun h=>⟨by simp_all,by simp_all,by simp_all,by simp_all,by simpa using h⟩,fun h=>by simpa using h.burn⟩,hs.out⟩
     ·refine .Fs 3 25 true (.z zpF (.zn zg (.ret (Fin.bq xb rfl ?_))))
      first
      |exact ⟨false,rfl,⟨fun h=>(by cases h),fun h=>(by obtain ⟨g1,g2,g3,g4,g5⟩:=h;first|omega|(simp_all;done)|(simp_all;omega))⟩,hs.out⟩
      |exact ⟨_,rfl,⟨fun h=>⟨by simp_all,by simp_all,by simp_all,by simp_all,by simpa using h⟩,fun h=>by simpa using h.burn⟩,hs.out⟩
    ·refine .Fs 3 20 true (.z zpF (.z zm (.Fs 3 25 true (.z zpF (.zn zg (.ret (Fin.bq xb rfl ?_)))))))
     first
     |exact ⟨false,rfl,⟨fun h=>(by cases h),fun h=>(by obtain ⟨g1,g2,g3,g4,g5⟩:=h;first|omega|(simp_all;done)|(simp_all;omega))⟩,hs.out⟩
     |exact ⟨_,rfl,⟨fun h=>⟨by simp_all,by simp_all,by simp_all,by simp_all,by simpa using h⟩,fun h=>by simpa using h.burn⟩,hs.out⟩
   ·refine .Fs 3 15 true (.z zpF (.z zm (.Fs 3 20 true (.z zpF (.z zm (.Fs 3 25 true (.z zpF (.zn zg (.ret (Fin.bq xb rfl ?_))))))))))
    first
    |exact ⟨false,rfl,⟨fun h=>(by cases h),fun h=>(by obtain ⟨g1,g2,g3,g4,g5⟩:=h;first|omega|(simp_all;done)|(simp_all;omega))⟩,hs.out⟩
    |exact ⟨_,rfl,⟨fun h=>⟨by simp_all,by simp_all,by simp_all,by simp_all,by simpa using h⟩,fun h=>by simpa using h.burn⟩,hs.out⟩
  ·refine .Fs 5 8 true (.z zpF (.z zm (.Fs 3 15 true (.z zpF (.z zm (.Fs 3 20 true (.z zpF (.z zm (.Fs 3 25 true (.z zpF (.zn zg (.ret (Fin.bq xb rfl ?_)))))))))))))
   first
   |exact ⟨false,rfl,⟨fun h=>(by cases h),fun h=>(by obtain ⟨g1,g2,g3,g4,g5⟩:=h;first|omega|(simp_all;done)|(simp_all;omega))⟩,hs.out⟩
   |exact ⟨_,rfl,⟨fun h=>⟨by simp_all,by simp_all,by simp_all,by simp_all,by simpa using h⟩,fun h=>by simpa using h.burn⟩,hs.out⟩
 ·refine .Fs 3 3 true (.z zpF (.z zm (.Fs 5 8 true (.z zpF (.z zm (.Fs 3 15 true (.z zpF (.z zm (.Fs 3 20 true (.z zpF (.z zm (.Fs 3 25 true (.z zpF (.zn zg (.ret (Fin.bq xb rfl ?_))))))))))))))))
  first
  |exact ⟨false,rfl,⟨fun h=>(by cases h),fun h=>(by obtain ⟨g1,g2,g3,g4,g5⟩:=h;first|omega|(simp_all;done)|(simp_all;omega))⟩,hs.out⟩
  |exact ⟨_,rfl,⟨fun h=>⟨by simp_all,by simp_all,by simp_all,by simp_all,by simpa using h⟩,fun h=>by simpa using h.burn⟩,hs.out⟩
set_option maxHeartbeats 1000000 in
theorem iM{l:Lns}{vt vs:Value}(hs:St H w σ)(g:LnM H l vt vs):
  Cl Tryz.prog 20 [lnA l vt vs] w fun u w'=>∃e,u=I e∧JC l e∧St H w' σ:=by
 obtain ⟨h1,h2⟩:=g
 obtain ⟨at_,ct,rfl⟩:=h1.shape
 obtain ⟨as_,cs,rfl⟩:=h2.shape
 refine Cl.o Tryz.func20 Tryz.ntmps20 ag1 ?_
 refine .aj (.bx hs fun b1 w hs=>?_)
 refine .zn zg (.seq (.aj (.z (zfa eg) (.y hs (zld ae) (.o (.call fg rfl (dk hs) ?_))))));rintro _ w ⟨rfl,hs⟩
 refine .z fI (.z zm (.bif (t':=11) rfl (fun hb11=>?_) (fun hb11=>?_)))
 ·refine .Fs 4 4 false (.z zpT (.z zm (.Fs 5 10 false (.z zpT (.z zm (.Fs 4 17 false (.zn zpT (.cT (.aj (.zn zg (.ret (rT (Fin.bq fW rfl ?_)))))))))))))
  exact ⟨_,rfl,.inr ⟨fun h=>by have:=h.length;simp_all,rfl⟩,hs.out⟩
 ·refine .T (.z (zfa iC) (.T (.y hs (zld ae) (.T (.o (.call fg rfl (dk hs) ?_))))));rintro _ w ⟨rfl,hs⟩
  refine .T (.z fI (.z zpF (.z zm (.bif (t':=17) rfl (fun hb17=>?_) (fun hb17=>?_)))))
  ·refine .Fs 5 10 false (.z zpT (.z zm (.Fs 4 17 false (.zn zpT (.cT (.aj (.zn zg (.ret (rT (Fin.bq fW rfl ?_))))))))))
   exact ⟨_,rfl,.inr ⟨fun h=>by have:=h.depth;simp_all,rfl⟩,hs.out⟩
  ·refine .T (.z (zfa cK) (.T (.y hs (zld eb) (.T (.z (da aZ) (.T (.o (.call fg rfl (dk hs) ?_))))))));rintro _ w ⟨rfl,hs⟩
   refine .T (.z fI (.z zpF (.z zm (.bif (t':=24) rfl (fun hb24=>?_) (fun hb24=>?_)))))
   ·refine .Fs 4 17 false (.zn zpT (.cT (.aj (.zn zg (.ret (rT (Fin.bq fW rfl ?_)))))))
    exact ⟨_,rfl,.inr ⟨fun h=>by have:=h.many;simp_all;omega,rfl⟩,hs.out⟩
   ·refine .T (.z (zfa cU) (.T (.y hs (zld eF) (.T (.z (da bu) (.T (.z k7 (.zn zpF (.bn rfl (fun hc29=>?_) (fun hc29=>?_))))))))))
    ·refine .aj (.zn zg (.ret (rT (Fin.bq fW rfl ?_))))
     exact ⟨_,rfl,.inr ⟨fun h=>by have:=h.most;simp_all;omega,rfl⟩,hs.out⟩
    ·refine .skip (nT (.seq (.aj (.zn zg (.block ?_)))))
     have hl20:1≤l.table.length∧l.table.length≤20:=by first|omega|(simp at hb24;omega)
     refine .loop (fun k:Nat=>⟨102,[],[(3,I (k:Int)),(1,Pt b1)]⟩)
      (fun k w=>k≤l.table.length∧(∀j<k,FZ l.table j)∧St H w (.blk b1 (lnC l (.slice at_ l.table.length ct) (.slice as_ l.seasons.length cs))::σ)) (fun k=>l.table.length - k) 0 a6
      ⟨Nat.zero_le _,fun j hj=>by omega,hs⟩ ?_
     rintro k w ⟨hk,hno,hs⟩
     refine .seq (.aj (.z zm (.z (zfa cK) (.y hs (zld eb) (.z (da aZ) (.zn fV (.bn rfl (fun hc34=>?_) (fun hc34=>?_))))))))
     ·refine .skip (nT (.seq (.block (.aj (.z (zfa cK) (.y hs (zld eb) (.z zm ?_)))))))
      have hkl:k<l.table.length:=by omega
      have hx:=mF (l:=l.table) hkl
      have hx1:=mF (l:=l.table) (i:=k - 1) ak
      refine .ixX (enc:=Fbd.c) hs h1 rfl rfl aZ bE hx cz ?_;intro b40 o40 hc40
      refine .q hs (bQ (vs:=(Fbd.c (fb0 l.table k))) rfl Tryz.isAgg134 bE hc40) (.o (.alloc hs ig rfl fun b4 w hs=>?_))
      refine .o (.aU (vs:=(fb0 l.table k).c) hs rfl rfl bE fun w hs=>?_)
      change St _ _ (.blk b4 [I (fb0 l.table k).len,I (fb0 l.table k).least]::_) at hs
      refine .nil (.seq (.draw mix rfl hs fun w hs=>?_))
      refine .zw 0 rfl (zfa bO) ?_;refine .y 1 rfl hs ae ?_
      refine .E 2 hs ?_
      refine .call fg rfl (dk hs) ?_;rintro _ w ⟨rfl,hs⟩
      refine .go (.zw 3 rfl fI ?_);refine .z 4 rfl zm ?_
      refine .bif (t':=46) rfl (fun hb46=>?_) (fun hb46=>?_)
      ·refine .F 5 rfl (.F 6 rfl (.F 7 rfl (.F 8 rfl (.zw 9 rfl zpT ?_))));refine .z 10 rfl zm ?_
       refine .F 11 rfl (.F 12 rfl ?_)
       refine .F 13 rfl (.F 14 rfl (.F 15 rfl (.F 16 rfl (.F 17 rfl (.F 18 rfl (.F 19 rfl (.F 20 rfl (.F 21 rfl (.F 22 rfl (.F 23 rfl (.F 24 rfl (.zw 25 rfl zpT ?_))))))))))));refine .D hs ?_
       refine (.cT (.aj (.zn zg (.ret (rB (rT (rT (rB (rT (Fin.bq fW rfl ?_))))))))))
       exact ⟨_,rfl,.inr ⟨fun h=>by have:=(h.table k hkl).len;simp_all,rfl⟩,hs.out⟩
      ·refine .zw 5 rfl (zfa dB) ?_;refine .y 6 rfl hs ae ?_
       refine .E 7 hs ?_
       refine .call fg rfl (dk hs) ?_;rintro _ w ⟨rfl,hs⟩
       refine .go (.zw 8 rfl fI ?_);refine .z 9 rfl zpF ?_;refine .z 10 rfl zm ?_
       refine .bif (t':=52) rfl (fun hb52=>?_) (fun hb52=>?_)
       ·refine .F 11 rfl (.F 12 rfl ?_)
        refine .F 13 rfl (.F 14 rfl (.F 15 rfl (.F 16 rfl (.F 17 rfl (.F 18 rfl (.F 19 rfl (.F 20 rfl (.F 21 rfl (.F 22 rfl (.F 23 rfl (.F 24 rfl (.zw 25 rfl zpT ?_))))))))))));refine .D hs ?_
        refine (.cT (.aj (.zn zg (.ret (rB (rT (rT (rB (rT (Fin.bq fW rfl ?_))))))))))
        exact ⟨_,rfl,.inr ⟨fun h=>by have:=(h.table k hkl).least;simp_all,rfl⟩,hs.out⟩
       ·refine .zw 11 rfl zm ?_;refine .z 12 rfl k7 ?_;refine .z 13 rfl zm ?_
        refine .ie (t':=55) rfl (fun hb55=>?_) (fun hb55=>?_)
        ·refine .zw 14 rfl (zfa cK) ?_;refine .y 15 rfl hs eb ?_;refine .z 16 rfl zm ?_;refine .z 17 rfl fM ?_
         refine .ixX (enc:=Fbd.c) (i:=18) hs rfl aH (.some rfl rfl) h1 rfl rfl aZ bE hx1 ak ?_;intro b60 o60 hc60
         refine .zw 19 rfl (zfa bO) (.r (i:=20) hs rfl aH (.some rfl rfl) (aP rfl ae (hc60.get 0 rfl)) ?_)
         refine .zw 21 rfl (zfa bO) ?_;refine .y 22 rfl hs ae ?_;refine .z 23 rfl uF ?_;refine .z 24 rfl zpT ?_;refine .z 25 rfl zpF ?_;refine .D hs ?_
         refine (.bn rfl (fun hc67=>?_) (fun hc67=>?_))
         ·refine .aj (.zn zg (.ret (rB (rT (rT (rB (rT (Fin.bq fW rfl ?_))))))))
          exact ⟨_,rfl,.inr ⟨fun h=>by have:=(h.table k hkl).rise ak;omega,rfl⟩,hs.out⟩
         ·refine .skip (nB (nT (.region (.z zm (.z cu (.zn zg (nT ?_)))))))
          exact ⟨k+1,.cP rfl bT a6,⟨ak,fun j hj=>by
           by_cases e:j=k
           ·subst e;exact ⟨by simp_all,by simp_all,fun _=>by omega⟩
           ·exact hno j ak,hs.tail⟩,ak⟩
        ·refine .F 14 rfl (.F 15 rfl (.F 16 rfl (.F 17 rfl (.F 18 rfl (.F 19 rfl (.F 20 rfl (.F 21 rfl (.F 22 rfl (.F 23 rfl (.zw 24 rfl zpF ?_))))))))));refine .z 25 rfl zpF ?_;refine .D hs ?_
         refine (.cF (.skip (nB (nT (.region (.z zm (.z cu (.zn zg (nT ?_)))))))))
         exact ⟨k+1,.cP rfl bT a6,⟨ak,fun j hj=>by
          by_cases e:j=k
          ·subst e;exact ⟨by simp_all,by simp_all,fun _=>by omega⟩
          ·exact hno j ak,hs.tail⟩,ak⟩
     ·refine .exit (xT (xT (xB (nT (.seq (.aj (.zn zg (.block ?_))))))))
      obtain rfl:k=l.table.length:=by omega
      refine .loop (fun k:Nat=>⟨102,[],[(5,I (k:Int)),(1,Pt b1)]⟩)
       (fun k w=>k≤l.seasons.length∧(∀j<k,∀y,l.seasons[j]? =some y→A3 y)∧St H w (.blk b1 (lnC l (.slice at_ l.table.length ct) (.slice as_ l.seasons.length cs))::σ)) (fun k=>l.seasons.length - k) 0 a6
       ⟨Nat.zero_le _,fun j hj=>by omega,hs⟩ ?_
      rintro i w ⟨hi,hnos,hs⟩
      refine .seq (.aj (.z zm (.z (zfa cU) (.y hs (zld eF) (.z (da bu) (.zn fV (.bn rfl (fun hc72=>?_) (fun hc72=>?_))))))))
      ·refine .skip (nT (.seq (.block (.aj (.z (zfa cU) (.y hs (zld eF) (.z zm ?_)))))))
       obtain ⟨s,hx⟩:=nth (l:=l.seasons) (k:=i) ak
       refine .ixX (enc:=Ssn.c) hs h2 rfl rfl bu cE hx cz ?_;intro b78 o78 hc78
       refine .q hs (bQ (vs:=(Ssn.c s)) rfl HF cE hc78) (.o (.alloc hs pV rfl fun b6 w hs=>?_))
       refine .o (.aU (vs:=s.c) hs rfl rfl cE fun w hs=>?_)
       change St _ _ (.blk b6 [I s.zone,I s.fr,I s.to,I s.extra]::_) at hs
       refine .nil (.aj (.z (zfa iW) (.y hs (zld ae) (.o (.call fg rfl (dk hs) ?_)))));rintro _ w ⟨rfl,hs⟩
       refine .z fI (.z zm (.bif (t':=84) rfl (fun hb84=>?_) (fun hb84=>?_)))
       ·refine .Fs 4 4 false (.z zpT (.z zm (.Fs 4 10 false (.z zpT (.z zm (.Fs 4 16 false (.zn zpT (.cT (.aj (.zn zg (.ret (rB (rT (rT (rB (rT (Fin.bq fW rfl ?_)))))))))))))))))
        exact ⟨_,rfl,.inr ⟨fun h=>by have:=(h.seasons s (List.mem_of_getElem? hx)).zone;simp_all,rfl⟩,hs.out⟩
       ·refine .T (.z (zfa eI) (.T (.y hs (zld ae) (.T (.o (.call fg rfl (dk hs) ?_))))));rintro _ w ⟨rfl,hs⟩
        refine .T (.z fI (.z zpF (.z zm (.bif (t':=90) rfl (fun hb90=>?_) (fun hb90=>?_)))))
        ·refine .Fs 4 10 false (.z zpT (.z zm (.Fs 4 16 false (.zn zpT (.cT (.aj (.zn zg (.ret (rB (rT (rT (rB (rT (Fin.bq fW rfl ?_))))))))))))))
         exact ⟨_,rfl,.inr ⟨fun h=>by have:=(h.seasons s (List.mem_of_getElem? hx)).fr;simp_all,rfl⟩,hs.out⟩
        ·refine .T (.z (zfa eH) (.T (.y hs (zld ae) (.T (.o (.call fg rfl (dk hs) ?_))))));rintro _ w ⟨rfl,hs⟩
         refine .T (.z fI (.z zpF (.z zm (.bif (t':=96) rfl (fun hb96=>?_) (fun hb96=>?_)))))
         ·refine .Fs 4 16 false (.zn zpT (.cT (.aj (.zn zg (.ret (rB (rT (rT (rB (rT (Fin.bq fW rfl ?_)))))))))))
          exact ⟨_,rfl,.inr ⟨fun h=>by have:=(h.seasons s (List.mem_of_getElem? hx)).to;simp_all,rfl⟩,hs.out⟩
         ·refine .T (.z (zfa iV) (.T (.y hs (zld ae) (.T (.o (.call fg rfl (dk hs) ?_))))));rintro _ w ⟨rfl,hs⟩
          refine .T (.z fI (.zn zpF (.cond rfl (fun hc101=>?_) (fun hc101=>?_))))
          ·refine .aj (.zn zg (.ret (rB (rT (rT (rB (rT (Fin.bq fW rfl ?_))))))))
           exact ⟨_,rfl,.inr ⟨fun h=>by have:=(h.seasons s (List.mem_of_getElem? hx)).extra;simp_all,rfl⟩,hs.out⟩
          ·refine .skip (nB (nT (.region (.z zm (.z cu (.zn zg (nT ?_)))))))
           exact ⟨i+1,.cP rfl bT a6,⟨ak,fi hnos hx ⟨by simp_all,by simp_all,by simp_all,by simp_all⟩,hs.tail⟩,ak⟩
      ·refine .exit (xT (xT (xB (nT (.aj (.zn zg (.ret (Fin.bq fW rfl ?_))))))))
       exact ⟨_,rfl,.inl ⟨⟨by simp_all,by simp_all,hl20,ak,hno,fun s hs=>by
        obtain ⟨j,hj⟩:=List.getElem?_of_mem hs
        have:=(List.getElem?_eq_some_iff.1 hj).1
        exact hnos j ak s hj⟩,rfl⟩,hs.out⟩
theorem oD{r:List Lg}{vr:Value}(hs:St H w σ)(h1:RLg H vr r):
  Cl Tryz.prog 22 [.agg #[vr]] w fun u w'=>∃e,u=I e∧JA r e∧St H w' σ:=by
 obtain ⟨ar,cr,rfl⟩:=h1.shape
 refine Cl.o Tryz.func22 Tryz.ntmps22 ag1 ?_
 refine .aj (.bx hs fun b1 w hs=>?_)
 refine .zn zg (.seq (.aj (.z (zfa bH) (.y hs (zld bY) (.z (da aF) (.o (.call fg rfl (dk hs) ?_)))))));rintro _ w ⟨rfl,hs⟩
 refine .zn fI (.cond rfl (fun hc8=>?_) (fun hc8=>?_))
 ·refine .aj (.zn zg (.ret (rT (Fin.bq Tryz.results22 rfl ?_))))
  exact ⟨_,rfl,.inr ⟨fun h=>by have:=h.many;simp_all;omega,rfl⟩,hs.out⟩
 ·refine .skip (nT (.seq (.aj (.zn zg (.block ?_)))))
  have hl20:1≤r.length∧r.length≤12:=by first|omega|(simp at hc8;omega)
  refine .loop (fun k:Nat=>⟨43,[],[(3,I (k:Int)),(1,Pt b1)]⟩)
   (fun k w=>k≤r.length∧(∀j<k,A5 (lg0 r j)∧(0<j→(lg0 r (j - 1)).to≤(lg0 r j).fr))∧St H w (.blk b1 [.slice ar r.length cr]::σ)) (fun k=>r.length - k) 0 a6
   ⟨Nat.zero_le _,fun j hj=>by omega,hs⟩ ?_
  rintro k w ⟨hk,hno,hs⟩
  refine .seq (.aj (.z zm (.z (zfa bH) (.y hs (zld bY) (.z (da aF) (.zn fV (.bn rfl (fun hc13=>?_) (fun hc13=>?_))))))))
  ·refine .skip (nT (.seq (.block (.seq (.draw mix rfl hs fun w hs=>?_)))))
   have hkl:k<r.length:=by omega
   have hx:=kf (l:=r) hkl
   have hx1:=kf (l:=r) (i:=k - 1) ak
   refine .zw 0 rfl (zfa bH) ?_;refine .y 1 rfl hs bY ?_;refine .z 2 rfl zm ?_
   refine .ixX (enc:=Lg.c) (i:=3) hs rfl aH .none h1 rfl rfl aF aN hx rfl ?_;intro b19 o19 hc19
   refine .r (i:=4) hs rfl aH .none (bQ (vs:=(lg0 r k).c) rfl fE aN hc19) ?_
   refine .E 5 hs ?_
   refine .call Tryz.call76 rfl (tX (x:=lg0 r k) hs) ?_;rintro _ w ⟨b21,rfl,hb21,hs⟩
   refine .go (.zw 6 rfl fI ?_);refine .z 7 rfl zm ?_
   refine .bif (t':=23) rfl (fun hb23=>?_) (fun hb23=>?_)
   ·refine .F 8 rfl (.F 9 rfl (.F 10 rfl (.F 11 rfl (.F 12 rfl (.F 13 rfl ?_)))))
    refine .F 14 rfl (.F 15 rfl (.F 16 rfl (.F 17 rfl (.F 18 rfl (.F 19 rfl (.F 20 rfl (.F 21 rfl (.F 22 rfl (.F 23 rfl (.F 24 rfl (.F 25 rfl (.zw 26 rfl zpT ?_))))))))))));refine .D hs ?_
    refine (.cT (.aj (.zn zg (.ret (rB (rT (rT (rB (rT (Fin.bq Tryz.results22 rfl ?_))))))))))
    exact ⟨_,rfl,.inr ⟨fun h=>by have:=hb21.2 (h.leg k hkl).1;simp_all,rfl⟩,hs.out⟩
   ·refine .zw 8 rfl zm ?_;refine .z 9 rfl k7 ?_;refine .z 10 rfl zm ?_
    refine .ie (t':=26) rfl (fun hb26=>?_) (fun hb26=>?_)
    ·refine .zw 11 rfl (zfa bH) ?_;refine .y 12 rfl hs bY ?_;refine .z 13 rfl zm ?_
     refine .ixX (enc:=Lg.c) (i:=14) hs rfl aH (.some rfl rfl) h1 rfl rfl aF aN hx rfl ?_;intro b30 o30 hc30
     refine .zw 15 rfl (zfa fl) (.r (i:=16) hs rfl aH (.some rfl rfl) (aP rfl ae (hc30.get 1 rfl)) ?_)
     refine .zw 17 rfl (zfa bH) ?_;refine .y 18 rfl hs bY ?_;refine .z 19 rfl zm ?_;refine .z 20 rfl fM ?_
     refine .ixX (enc:=Lg.c) (i:=21) hs rfl aH (.some rfl rfl) h1 rfl rfl aF aN hx1 ak ?_;intro b37 o37 hc37
     refine .zw 22 rfl (zfa fk) (.r (i:=23) hs rfl aH (.some rfl rfl) (aP rfl ae (hc37.get 2 rfl)) ?_)
     refine .zw 24 rfl fV ?_;refine .z 25 rfl zpT ?_;refine .z 26 rfl zpF ?_;refine .D hs ?_
     refine (.bn rfl (fun hc42=>?_) (fun hc42=>?_))
     ·refine .aj (.zn zg (.ret (rB (rT (rT (rB (rT (Fin.bq Tryz.results22 rfl ?_))))))))
      exact ⟨_,rfl,.inr ⟨fun h=>by have:=(h.leg k hkl).2 ak;omega,rfl⟩,hs.out⟩
     ·refine .skip (nB (nT (.region (.z zm (.z cu (.zn zg (nT ?_)))))))
      exact ⟨k+1,.cP rfl bT a6,⟨ak,fun j hj=>by
       by_cases e:j=k
       ·subst e;exact ⟨hb21.1 (by simp_all),fun _=>by omega⟩
       ·exact hno j ak,hs⟩,ak⟩
    ·refine .F 11 rfl (.F 12 rfl ?_)
     refine .F 13 rfl (.F 14 rfl (.F 15 rfl (.F 16 rfl (.F 17 rfl (.F 18 rfl (.F 19 rfl (.F 20 rfl (.F 21 rfl (.F 22 rfl (.F 23 rfl (.F 24 rfl (.zw 25 rfl zpF ?_))))))))))));refine .z 26 rfl zpF ?_;refine .D hs ?_
     refine (.cF (.skip (nB (nT (.region (.z zm (.z cu (.zn zg (nT ?_)))))))))
     exact ⟨k+1,.cP rfl bT a6,⟨ak,fun j hj=>by
      by_cases e:j=k
      ·subst e;exact ⟨hb21.1 (by simp_all),fun _=>by omega⟩
      ·exact hno j ak,hs⟩,ak⟩
  ·refine .exit (xT (xT (xB (nT (.aj (.zn zg (.ret (Fin.bq Tryz.results22 rfl ?_))))))))
   obtain rfl:k=r.length:=by omega
   exact ⟨_,rfl,.inl ⟨⟨hl20,hno⟩,rfl⟩,hs.out⟩
theorem k8{l:Lns}{vt vs:Value}(hs:St H w σ)(g:LnM H l vt vs)(hl:iE l):
  Cl Tryz.prog 103 [lnA l vt vs] w fun u w'=>∃(n:Int) (b:Bool),u= .tuple #[I n,I (if b then 0 else 3)]∧uX l n b∧St H w' σ:=by
 have h1:=g.tb
 obtain ⟨at_,ct,rfl⟩:=h1.shape
 have hm:=hl.many
 refine Cl.o Tryz.func103 Tryz.ntmps103 ag1 ?_
 refine .aj (.bx hs fun b1 w hs=>?_)
 refine .z zg (.zn zg (.aj (.z (zfa cK) (.y hs (zld eb) (.zn zg (.seq (.aj (.zn zg (.block ?_)))))))))
 refine .loop (fun k:Nat=>⟨101,[],[(5,I (k:Int)),(4,.slice at_ l.table.length ct),(1,Pt b1)]⟩)
  (fun k w=>k≤l.table.length∧(∀i<k,(fb0 l.table i).len≠l.length∧(0<i→¬((fb0 l.table (i - 1)).len<l.length∧l.length<(fb0 l.table i).len)))∧St H w (.blk b1 (lnC l (.slice at_ l.table.length ct) vs)::σ)) (fun k=>l.table.length - k) 0 a6
  ⟨Nat.zero_le _,fun i hi=>by omega,hs⟩ ?_
 rintro k w ⟨hk,hno,hs⟩
 refine .seq (.aj (.z zm (.z zm (.z (da aZ) (.zn fV (.bn rfl (fun hc13=>?_) (fun hc13=>?_)))))))
 ·refine .skip (nT (.seq (.block (.seq (.seq (.draw mix rfl hs fun w hs=>?_))))))
  have hkl:k<l.table.length:=by omega
  have hx:=mF (l:=l.table) hkl
  have hx1:=mF (l:=l.table) (i:=k - 1) ak
  have hnx:(fb0 l.table k).len≠l.length→(0<k→¬((fb0 l.table (k - 1)).len<l.length∧l.length<(fb0 l.table k).len))→∀i<k+1,(fb0 l.table i).len≠l.length∧(0<i→¬((fb0 l.table (i - 1)).len<l.length∧l.length<(fb0 l.table i).len)):=fun g1 g2 i hi=>by
   by_cases e:i=k
   ·subst e;exact ⟨g1,g2⟩
   ·exact hno i ak
  have ha:=hl.table (k - 1) ak
  have hb:=hl.table k hkl
  have a1:=ha.len
  have a2:=ha.least
  have b1':=hb.len
  have b2:=hb.least
  have hL:=hl.length
  refine .zw 0 rfl zm ?_;refine .z 1 rfl zm ?_
  refine .ixX (enc:=Fbd.c) (i:=2) hs rfl aH .none h1 rfl rfl aZ bE hx cz ?_;intro b18 o18 hc18
  refine .zw 3 rfl (zfa bO) (.r (i:=4) hs rfl aH .none (aP rfl ae (hc18.get 0 rfl)) ?_)
  refine .zw 5 rfl (zfa eg) ?_;refine .y 6 rfl hs ae ?_;refine .z 7 rfl fF ?_;refine .D hs ?_
  refine (.bn rfl (fun hc23=>?_) (fun hc23=>?_))
  ·refine .aj (.z zm (.z zm (.ixX (enc:=Fbd.c) hs h1 rfl rfl aZ bE hx cz ?_)));intro b26 o26 hc26
   refine .z (zfa dB) (.q hs (aP rfl ae (hc26.get 1 rfl)) (.z zg (.zn zg (.ret (rT (rB (rT (rT (rB (rT (Fin.ij Tryz.results103 rfl rfl ?_)))))))))))
   exact ⟨_,true,rfl,.at_ hkl hc23,hs.out⟩
  ·refine .skip (nT (.seq (.draw mix rfl hs fun w hs=>?_)))
   refine .zw 0 rfl zm ?_;refine .z 1 rfl k7 ?_;refine .z 2 rfl zm ?_
   refine .ie (t':=31) rfl (fun hb31=>?_) (fun hb31=>?_)
   ·refine .zw 3 rfl zm ?_;refine .z 4 rfl zm ?_;refine .z 5 rfl fM ?_
    refine .ixX (enc:=Fbd.c) (i:=6) hs rfl aH (.some rfl rfl) h1 rfl rfl aZ bE hx1 cz ?_;intro b35 o35 hc35
    refine .zw 7 rfl (zfa bO) (.r (i:=8) hs rfl aH (.some rfl rfl) (aP rfl ae (hc35.get 0 rfl)) ?_)
    refine .zw 9 rfl (zfa eg) ?_;refine .y 10 rfl hs ae ?_;refine .z 11 rfl fV ?_;refine .z 12 rfl zpT ?_;refine .z 13 rfl zm ?_
    refine .ie (t':=42) rfl (fun hb42=>?_) (fun hb42=>?_)
    ·refine .zw 14 rfl (zfa eg) ?_;refine .y 15 rfl hs ae ?_;refine .z 16 rfl zm ?_;refine .z 17 rfl zm ?_
     refine .ixX (enc:=Fbd.c) (i:=18) hs rfl aH (.some rfl rfl) h1 rfl rfl aZ bE hx cz ?_;intro b47 o47 hc47
     refine .zw 19 rfl (zfa bO) (.r (i:=20) hs rfl aH (.some rfl rfl) (aP rfl ae (hc47.get 0 rfl)) ?_)
     refine .zw 21 rfl fV ?_;refine .z 22 rfl zpT ?_;refine .D hs ?_
     refine (.bn rfl (fun hc51=>?_) (fun hc51=>?_))
     ·refine .seq (.draw mix rfl hs fun w hs=>?_)
      refine .zw 0 rfl zm ?_;refine .z 1 rfl zm ?_;refine .z 2 rfl fM ?_
      have hX:=jK (a:=(fb0 l.table (k - 1)).least) (b:=(fb0 l.table k).len - l.length) (A:=5000) (B:=100000) ak ak
      have hY:=jK (a:=(fb0 l.table k).least) (b:=l.length - (fb0 l.table (k - 1)).len) (A:=5000) (B:=100000) ak ak
      have hX0:=Int.mul_nonneg a2.1 (show 0≤(fb0 l.table k).len - l.length by omega)
      have hY0:=Int.mul_nonneg b2.1 (show 0≤l.length - (fb0 l.table (k - 1)).len by omega)
      have hmid:=uX.mid hkl ak fp fp
      have hbd:=hmid.bd hl
      have hup:=Io (a:=(fb0 l.table (k - 1)).least) (b:=(fb0 l.table k).least) (L:=l.length) (show (fb0 l.table (k - 1)).len<(fb0 l.table k).len by omega)
      rw [←Int.tdiv_eq_ediv_of_nonneg ak] at hup
      change _=zM l k at hup
      refine .ixX (enc:=Fbd.c) (i:=3) hs rfl aH .none h1 rfl rfl aZ bE hx1 ak ?_;intro b55 o55 hc55
      refine .zw 4 rfl (zfa dB) (.r (i:=5) hs rfl aH .none (aP rfl ae (hc55.get 1 rfl)) ?_)
      refine .zw 6 rfl zm ?_;refine .z 7 rfl zm ?_
      refine .ixX (enc:=Fbd.c) (i:=8) hs rfl aH .none h1 rfl rfl aZ bE hx cz ?_;intro b60 o60 hc60
      refine .zw 9 rfl (zfa bO) (.r (i:=10) hs rfl aH .none (aP rfl ae (hc60.get 0 rfl)) ?_)
      refine .zw 11 rfl (zfa eg) ?_;refine .y 12 rfl hs ae ?_;refine .z 13 rfl fM ?_;refine .z 14 rfl jN ?_;refine .z 15 rfl zm ?_;refine .z 16 rfl zm ?_
      refine .ixX (enc:=Fbd.c) (i:=17) hs rfl aH .none h1 rfl rfl aZ bE hx cz ?_;intro b69 o69 hc69
      refine .zw 18 rfl (zfa dB) (.r (i:=19) hs rfl aH .none (aP rfl ae (hc69.get 1 rfl)) ?_)
      refine .zw 20 rfl (zfa eg) ?_;refine .y 21 rfl hs ae ?_;refine .z 22 rfl zm ?_;refine .z 23 rfl zm ?_;refine .z 24 rfl fM ?_
      refine .ixX (enc:=Fbd.c) (i:=25) hs rfl aH .none h1 rfl rfl aZ bE hx1 cz ?_;intro b77 o77 hc77
      refine .zw 26 rfl (zfa bO) (.r (i:=27) hs rfl aH .none (aP rfl ae (hc77.get 0 rfl)) ?_)
      refine .zw 28 rfl fM ?_;refine .z 29 rfl jN ?_;refine .z 30 rfl cu ?_;refine .z 31 rfl zg ?_;refine .D hs ?_
      refine .seq (.draw mix rfl hs fun w hs=>?_)
      refine .zw 0 rfl zm ?_;refine .z 1 rfl zm ?_
      refine .ixX (enc:=Fbd.c) (i:=2) hs rfl aH .none h1 rfl rfl aZ bE hx cz ?_;intro b85 o85 hc85
      refine .zw 3 rfl (zfa bO) (.r (i:=4) hs rfl aH .none (aP rfl ae (hc85.get 0 rfl)) ?_)
      refine .zw 5 rfl zm ?_;refine .z 6 rfl zm ?_;refine .z 7 rfl fM ?_
      refine .ixX (enc:=Fbd.c) (i:=8) hs rfl aH .none h1 rfl rfl aZ bE hx1 cz ?_;intro b91 o91 hc91
      refine .zw 9 rfl (zfa bO) (.r (i:=10) hs rfl aH .none (aP rfl ae (hc91.get 0 rfl)) ?_)
      refine .zw 11 rfl fM ?_;refine .z 12 rfl zg ?_;refine .D hs ?_
      refine .aj (.z zm (.z zm (.z cu (.z fM (.z zm (.q hs (rh rfl rfl ak (by rw [hup];omega)) ?_))))))
      rw [hup]
      refine .z zg (.zn zg (.ret (rB (rT (rT (rB (rT (Fin.ij Tryz.results103 rfl rfl ?_))))))))
      exact ⟨_,true,rfl,hmid,hs.out⟩
     ·refine .skip (nB (nT (.region (.z zm (.z cu (.zn zg (nT ?_)))))))
      exact ⟨k+1,.cP rfl bT a6,⟨ak,hnx hc23 (fun _=>by omega),hs⟩,ak⟩
    ·refine .F 14 rfl (.F 15 rfl (.F 16 rfl (.F 17 rfl (.F 18 rfl (.F 19 rfl (.F 20 rfl (.F 21 rfl (.zw 22 rfl zpF ?_))))))));refine .D hs ?_
     refine (.cF (.skip (nB (nT (.region (.z zm (.z cu (.zn zg (nT ?_)))))))))
     exact ⟨k+1,.cP rfl bT a6,⟨ak,hnx hc23 (fun _=>by omega),hs⟩,ak⟩
   ·refine .F 3 rfl (.F 4 rfl (.F 5 rfl (.F 6 rfl (.F 7 rfl (.F 8 rfl (.F 9 rfl (.F 10 rfl (.F 11 rfl (.zw 12 rfl zpF ?_)))))))));refine .z 13 rfl zm ?_
    refine .F 14 rfl (.F 15 rfl (.F 16 rfl (.F 17 rfl (.F 18 rfl (.F 19 rfl (.F 20 rfl (.F 21 rfl (.zw 22 rfl zpF ?_))))))));refine .D hs ?_
    refine (.cF (.skip (nB (nT (.region (.z zm (.z cu (.zn zg (nT ?_)))))))))
    exact ⟨k+1,.cP rfl bT a6,⟨ak,hnx hc23 (fun _=>by omega),hs⟩,ak⟩
 ·refine .exit (xT (xT (xB (nT (.aj (.z zg (.zn zg (.ret (Fin.ij Tryz.results103 rfl rfl ?_)))))))))
  obtain rfl:k=l.table.length:=by omega
  exact ⟨_,false,rfl,.none (fun i hi=>(hno i hi).1) (fun i hi=>(hno i hi).2),hs.out⟩
theorem Ai{l:Lns}{vt vs:Value}(hs:St H w σ)(g:LnM H l vt vs):
  Cl Tryz.prog 38 [lnA l vt vs] w fun u w'=>∃n e,u= .tuple #[I n,I e]∧yT l n e∧St H w' σ:=by
 refine Cl.o Tryz.func38 Tryz.ntmps38 ag1 ?_
 refine .aj (.bx hs fun b1 w hs=>?_)
 refine .z zg (.zn zg (.seq (.aj (.y hs (zls [_,_,_,_] bB aW) (.o (.call Tryz.call20 rfl (iM hs g) ?_))))));rintro _ w ⟨e,rfl,he,hs⟩
 refine .zn hZ (.dZ rfl (fun hc6=>?_) (fun hc6=>?_))
 ·refine .aj (.z zg (.zn zg (.ret (rT (Fin.ij Tryz.results38 rfl rfl ?_)))))
  have h:=he.resolve_left fun h=>hc6 h.2
  exact ⟨_,_,rfl,.lines h.1,hs.out⟩
 ·refine .skip (nT (.aj (.y hs (zls [_,_,_,_] bB aW) ?_)))
  have hok:iE l:=(he.resolve_right fun h=>by omega).1
  refine .o (.call Tryz.call103 rfl (k8 hs g hok) ?_);rintro _ w ⟨n,b,rfl,hF,hs⟩
  refine .z zex (.z zex (.z zg (.zn zg (.ret (Fin.ij Tryz.results38 rfl rfl (⟨_,_,rfl,?_,hs.out⟩))))))
  cases b with
  |true=>exact .ok hok hF
  |false=>rw [show n=0 by cases hF;rfl] at*;exact .none hok hF
theorem qt{s:Ssn}{d:Int}(hs:St H w σ)(hd:0≤d):Cl Tryz.prog 160 [.agg #[I s.zone,I s.fr,I s.to,I s.extra],I d] w fun v w'=>v= .bool (decide (uv s (1+d%365)))∧St H w' σ:=by
 have e:d.tmod 365=d%365:=Int.tmod_eq_emod_of_nonneg hd
 refine Cl.o Tryz.func160 Tryz.ntmps160 ag2 ?_
 refine .aj (.bx hs fun b2 w hs=>?_)
 refine .zn zg (.aj (.z zm (.z Ag ?_)))
 rw [e]
 refine .z cu (.zn zg (.seq (.aj (.z (zfa eI) (.y hs (zld ae) (.z (zfa eH) (.y hs (zld ae) (.zn nb (.bn rfl (fun hc13=>?_) (fun hc13=>?_))))))))))
 ·refine .aj (.z zm (.z (zfa eI) (.y hs (zld ae) (.z (zfa eH) (.y hs (zld ae) (.o (.call fg rfl (dk hs) ?_)))))));rintro _ w ⟨rfl,hs⟩
  refine .zn zg (.ret (rT (Fin.bq Tryz.results160 rfl (⟨?_,hs.out⟩))))
  congr 1
  simp only [uv,if_pos hc13]
 ·refine .skip (nT (.aj (.z zm (.z (zfa eI) (.y hs (zld ae) (.z uF (.z zm (.ie (t':=24) rfl (fun hb24=>?_) (fun hb24=>?_)))))))))
  ·refine .Fs 4 4 false (.z zpT (.zn zg (.ret (Fin.bq Tryz.results160 rfl (⟨?_,hs.out⟩)))))
   congr 1
   simp only [uv,if_neg hc13]
   symm
   simp [*]
  ·refine .T (.z zm (.T (.z (zfa eH) (.T (.y hs (zld ae) (.T (.z nb (.z zpF (.zn zg (.ret (Fin.bq Tryz.results160 rfl (⟨?_,hs.out⟩))))))))))))
   congr 1
   simp only [uv,if_neg hc13]
   simp [*]
theorem tV{l:Lns}{vt vs:Value}{z d:Int}(hs:St H w σ)(g:LnM H l vt vs)(hl:iE l)(hd:0≤d):
  Cl Tryz.prog 108 [lnA l vt vs,I z,I d] w fun v w'=>v=I (jf l.seasons z (1+d%365))∧St H w' σ:=by
 have h2:=g.sn
 obtain ⟨as_,cs,rfl⟩:=h2.shape
 have hm:=hl.most
 refine Cl.o Tryz.func108 Tryz.ntmps108 ag3 ?_
 refine .aj (.bx hs fun b3 w hs=>?_)
 refine .zn zg (.aj (.zn zg (.seq (.aj (.zn zg (.block ?_))))))
 refine .loop (fun k:Nat=>⟨42,[],[(8,I (k:Int)),(7,I (jf (l.seasons.take k) z (1+d%365))),(3,Pt b3),(1,I z),(2,I d)]⟩)
  (fun k w=>k≤l.seasons.length∧St H w (.blk b3 (lnC l vt (.slice as_ l.seasons.length cs))::σ)) (fun k=>l.seasons.length - k) 0 a6
  ⟨Nat.zero_le _,hs⟩ ?_
 rintro k w ⟨hk,hs⟩
 refine .seq (.aj (.z zm (.z (zfa cU) (.y hs (zld eF) (.z (da bu) (.zn fV (.bn rfl (fun hc13=>?_) (fun hc13=>?_))))))))
 ·refine .skip (nT (.seq (.block (.aj ?_))))
  obtain ⟨s,hx⟩:=nth (l:=l.seasons) (k:=k) ak
  have hE:=qH (l.seasons.take k) s z (1+d%365)
  rw [←dj hx] at hE
  refine .z (zfa cU) (.y hs (zld eF) (.z zm (.ixX (enc:=Ssn.c) hs h2 rfl rfl bu cE hx cz ?_)));intro b19 o19 hc19
  refine .z (zfa iW) (.q hs (aP rfl ae (hc19.get 0 rfl)) (.z zm (.z fF (.z zm (.ie (t':=24) rfl (fun hb24=>?_) (fun hb24=>?_))))))
  ·refine .T (.z (zfa cU) (.T (.y hs (zld eF) (.T (.z zm (.T (.ixX (enc:=Ssn.c) hs h2 rfl rfl bu cE hx cz ?_)))))));intro b28 o28 hc28
   refine .T (.q hs (bQ (vs:=(Ssn.c s)) rfl HF cE hc28) (.T (.z zm (.T (.o (.call Tryz.call160 rfl (qt (s:=s) hs hd) ?_))))));rintro _ w ⟨rfl,hs⟩
   refine .zn zpT (.cond rfl (fun hc32=>?_) (fun hc32=>?_))
   ·refine .region (.z zm (.z (zfa cU) (.y hs (zld eF) (.z zm (.ixX (enc:=Ssn.c) hs h2 rfl rfl bu cE hx cz ?_)))));intro b37 o37 hc37
    refine .z (zfa iV) (.q hs (aP rfl ae (hc37.get 3 rfl)) (.z Bb (.zn zg (nB (nT (.region (.z zm (.z cu (.zn zg (nT ?_))))))))))
    rw [if_pos ⟨by assumption,by simpa using hc32⟩] at hE
    exact ⟨k+1,.cP rfl bT (by rw [hE];exact a6),⟨ak,hs⟩,ak⟩
   ·refine .skip (nB (nT (.region (.z zm (.z cu (.zn zg (nT ?_)))))))
    rw [if_neg (fun h=>of_decide_eq_false hc32 h.2)] at hE
    exact ⟨k+1,.cP rfl bT (by rw [hE];exact a6),⟨ak,hs⟩,ak⟩
  ·refine .Fs 7 8 true (.zn zpF (.cF (.skip (nB (nT (.region (.z zm (.z cu (.zn zg (nT ?_))))))))))
   rw [if_neg (fun h=>by have:=h.1;contradiction)] at hE
   exact ⟨k+1,.cP rfl bT (by rw [hE];exact a6),⟨ak,hs⟩,ak⟩
 ·refine .exit (xT (xT (xB (nT (.aj (.z zm (.zn zg (.ret (Fin.bq Tryz.results108 rfl ?_)))))))))
  obtain rfl:k=l.seasons.length:=by omega
  exact ⟨by rw [List.take_length],hs.out⟩
theorem q8{l:Lns}{vt vs:Value}{z d:Int}(hs:St H w σ)(g:LnM H l vt vs):
  Cl Tryz.prog 107 [lnA l vt vs,I z,I d] w fun v w'=>∃e,v=I e∧A8 l z d e∧St H w' σ:=by
 refine Cl.o Tryz.func107 Tryz.ntmps107 ag3 ?_
 refine .aj (.bx hs fun b3 w hs=>?_)
 refine .zn zg (.seq (.aj (.y hs (zls [_,_,_,_] bB aW) (.o (.call Tryz.call20 rfl (iM hs g) ?_)))));rintro _ w ⟨e,rfl,he,hs⟩
 refine .zn hZ (.dZ rfl (fun hc9=>?_) (fun hc9=>?_))
 ·refine .aj (.zn zg (.ret (rT (Fin.bq Tryz.results107 rfl ?_))))
  have h:=he.resolve_left fun h=>hc9 h.2
  exact ⟨_,rfl,.lines h.1,hs.out⟩
 ·refine .skip (nT (.seq (.aj ?_)))
  have hok:iE l:=(he.resolve_right fun h=>by omega).1
  refine .z zm (.o (.call fg rfl (dk hs) ?_));rintro _ w ⟨rfl,hs⟩
  refine .zn fI (.cond rfl (fun hc12=>?_) (fun hc12=>?_))
  ·refine .aj (.zn zg (.ret (rT (Fin.bq Tryz.results107 rfl ?_))))
   exact ⟨_,rfl,.zone hok (by simp at hc12;omega),hs.out⟩
  ·refine .skip (nT (.seq (.aj (.z zm (.o (.call fg rfl (dk hs) ?_))))));rintro _ w ⟨rfl,hs⟩
   refine .zn fI (.cond rfl (fun hc15=>?_) (fun hc15=>?_))
   ·refine .aj (.zn zg (.ret (rT (Fin.bq Tryz.results107 rfl ?_))))
    exact ⟨_,rfl,.day hok (by simpa using hc12) (by simp at hc15;omega),hs.out⟩
   ·refine .skip (nT (.aj (.zn zg (.ret (Fin.bq Tryz.results107 rfl ?_)))))
    exact ⟨_,rfl,.ok hok (by simpa using hc12) (by simpa using hc15),hs.out⟩
theorem sN{l:Lns}{vt vs:Value}{z d:Int}(hs:St H w σ)(g:LnM H l vt vs):
  Cl Tryz.prog 42 [lnA l vt vs,I z,I d] w fun u w'=>∃n e,u= .tuple #[I n,I e]∧CG l z d n e∧St H w' σ:=by
 refine Cl.o Tryz.func42 Tryz.ntmps42 ag3 ?_
 refine .aj (.bx hs fun b3 w hs=>?_)
 refine .z zg (.zn zg (.aj (.y hs (zls [_,_,_,_] bB aW) (.z zm (.z zm (.o (.call Tryz.call107 rfl (q8 hs g) ?_)))))));rintro _ w ⟨e,rfl,he,hs⟩
 refine .zn zg (.seq (.aj (.z zm (.zn hZ (.dZ rfl (fun hc16=>?_) (fun hc16=>?_))))))
 ·refine .aj (.z zm (.z zg (.zn zg (.ret (rT (Fin.ij Tryz.results42 rfl rfl ?_))))))
  exact ⟨_,_,rfl,.bad he hc16,hs.out⟩
 ·refine .skip (nT (.aj (.y hs (zls [_,_,_,_] bB aW) ?_)))
  obtain rfl:e=0:=by omega
  obtain ⟨hok,hz,hd⟩:=he.zero
  refine .o (.call Tryz.call103 rfl (k8 hs g hok) ?_);rintro _ w ⟨n,b,rfl,hF,hs⟩
  refine .z zm (.z zex (.z zex (.z zg (.zn zg (.seq (.aj (.z zm (.zn hZ (.dZ rfl (fun hc24=>?_) (fun hc24=>?_))))))))))
  ·refine .aj (.z zm (.z zg (.zn zg (.ret (rT (Fin.ij Tryz.results42 rfl rfl ?_))))))
   obtain rfl:b=false:=by cases b;rfl;exact (hc24 rfl).elim
   exact ⟨_,_,rfl,.none he hF,hs.out⟩
  ·refine .skip (nT (.seq (.draw mix rfl hs fun w hs=>?_)))
   refine .zw 0 rfl (zfa iC) ?_
   obtain rfl:b=true:=by cases b;simp at hc24;rfl
   have hn:=hF.bd hok
   have hdp:=hok.depth
   have hE:=rO hok.seasons z (1+d%365)
   refine .y 1 rfl hs ae ?_;refine .z 2 rfl zm ?_;refine .z 3 rfl fM ?_;refine .ys 4 rfl hs [_,_,_,_] bB aW ?_;refine .z 5 rfl zm ?_;refine .z 6 rfl zm ?_
   refine .E 7 hs ?_
   refine .call Tryz.call108 rfl (tV hs g hok hd.1) ?_;rintro _ w ⟨rfl,hs⟩
   refine .go (.zw 8 rfl fM ?_);refine .z 9 rfl zg ?_;refine .z 10 rfl zg ?_;refine .D hs ?_
   refine .ret (Fin.ij Tryz.results42 rfl rfl ?_)
   exact ⟨_,_,rfl,.ok he hF,hs.out⟩
theorem mP{r:List Lg}{vr:Value}{m:Rng}(hs:St H w σ)(h1:RLg H vr r)(hr:tn r)(hm:iy m.lo m.hi):
  Cl Tryz.prog 82 [.agg #[vr],.agg #[I m.lo,I m.hi]] w fun u w'=>∃H1,HLe H H1∧RRg H1 u (msL m r r.length)∧St H1 w' σ:=by
 obtain ⟨ar,cr,rfl⟩:=h1.shape
 have hn:=hr.many
 refine Cl.o Tryz.func82 Tryz.ntmps82 ag2 ?_
 refine .aj (.bx hs fun b2 w hs=>?_)
 refine .bx hs fun b3 w hs=>?_
 refine .zn zg (.aj (.y hs (zls [_,_] bh aq) (.o (.buildSlice (cells:=m.c) hs iH rfl aH fun b10 w hs=>?_))))
 refine .zn zg (.seq (.aj (.zn zg (.block ?_))))
 refine .loop (fun p:Nat×Value×Ent=>⟨45,[],[(6,I (p.1:Int)),(5,p.2.1),(2,Pt b2)]⟩)
  (fun p w=>p.1≤r.length∧cN 2 p.2.1 (rgc (msL m r p.1)).flatten p.2.2∧St H w (p.2.2:: .blk b2 [.slice ar r.length cr]::σ)) (fun p=>r.length - p.1) (0,_,.blk b10 m.c) a6
  ⟨Nat.zero_le _,.full rfl,hs.sb⟩ ?_
 rintro ⟨k,vo,en⟩ w ⟨hk,hO,hs⟩
 dsimp only at hk hO hs ⊢
 have hml:=ke m r k
 obtain ⟨b,co,sp,rfl,rfl,hco⟩:=hO.FO (Ay _) ak (by rw [j9];omega)
 rw [j9] at hO ⊢
 refine .seq (.aj (.z zm (.z (zfa bH) (.y hs (zld bY) (.z (da aF) (.zn fV (.bn rfl (fun hc15=>?_) (fun hc15=>?_))))))))
 ·refine .skip (nT (.seq (.block (.aj ?_))))
  have hkl:k<r.length:=by omega
  have hx:=kf (l:=r) hkl
  have hb:=AI hm (fun i hi=>(hr.leg i hi).1) (i:=k) ak
  have hb2:=(hr.leg k hkl).1.burn
  unfold iy at hb hb2
  refine .z (zfa bH) (.y hs (zld bY) (.z zm (.ixX (enc:=Lg.c) hs h1 rfl rfl aF aN hx rfl ?_)));intro b21 o21 hc21
  refine .z (zfa fH) (.q hs (bQ (vs:=[I (lg0 r k).blo,I (lg0 r k).bhi]) rfl bh aq (hc21.sub 5 _)) (.o (.alloc hs cf rfl fun b7 w hs=>?_)))
  refine .o (.aU (vs:=[I (lg0 r k).blo,I (lg0 r k).bhi]) hs rfl rfl aq fun w hs=>?_)
  refine .nil (.aj (.z zm (.z zm (.z (mw dI aq) (.q hs (kO (vs:=(kl m r k).c) rfl bh aq (hm:=by repeat (first|exact .here|refine .there ?_)) (hv:=xo (Ay _) (GA (yp m r (k:=k) (i:=k) (Nat.le_refl _))) sp)) ?_)))))
  refine .o (.alloc hs cf rfl fun b8 w hs=>?_)
  refine .o (.aU (vs:=(kl m r k).c) hs rfl rfl aq fun w hs=>?_)
  change St _ _ (.blk b8 [I (kl m r k).lo,I (kl m r k).hi]::_) at hs
  refine .nil (.region (.z zm (.z (zfa bN) (.y hs (zld ae) (.z (zfa cj) (.y hs (zld ae) (.z fM (.z Bb (.z (zfa cj) (.y hs (zld ae) (.z (zfa bN) (.y hs (zld ae) (.z fM (.z Bb (.z (zbd [_,_] cB) (.o (.buildSlice (cells:=[I (max 0 ((kl m r k).lo - (lg0 r k).bhi)),I (max 0 ((kl m r k).hi - (lg0 r k).blo))]) hs iH rfl aH fun b42 w hs=>?_)))))))))))))))))
  rw [show [I (max 0 ((kl m r k).lo - (lg0 r k).bhi)),I (max 0 ((kl m r k).hi - (lg0 r k).blo))]=(kl m r (k+1)).c by simp only [kl,G8,Rng.c];rw [Int.max_comm 0,Int.max_comm 0]] at hs
  refine .o (.append (ys:=(kl m r (k+1)).c) hs jg rfl rfl hO (.own .here rfl rfl) (by simp [Rng.c,Value.oneCell']) (fun l h=>by rw [bU _ (Ay _),j9] at h;omega) ?_);intro v43 en43 w hO2 hs
  rw [←Bg,←Br] at hO2
  refine .zn zg (nB (nT (.region (.z zm (.z cu (.zn zg (nT ?_)))))))
  exact ⟨(k+1,v43,en43),.cP rfl bT a6,⟨by dsimp only;omega,hO2,hs.sb⟩,by dsimp only;omega⟩
 ·refine .exit (xT (xT (xB (nT (.aj (.z zm (.zn zg (.ret (Fin.bq Tryz.results82 rfl ?_)))))))))
  obtain rfl:k=r.length:=by omega
  obtain ⟨H1,hle1,hR,hs⟩:=cN.cQ (m:=2) hO (Ay _) ak (by rw [j9,ke];omega) hs .here
  exact ⟨H1,hle1,hR,hs.out⟩
theorem tW{s:Spc}{vst vwa:Value}{h:Int}(hs:St H w σ)(h2:RI H vwa s.wa)(hok:eY s):
  Cl Tryz.prog 114 [spA s vst vwa,I h] w fun u w'=>∃k,u=I k∧wK s.wa h k∧St H w' σ:=by
 obtain ⟨awa,cwa,rfl⟩:=RI.shape h2
 have hm:=hok.wa.many
 have hr:=fun {i j:Nat}=>hok.wa.le (i:=i) (j:=j)
 refine Cl.o Tryz.func114 Tryz.ntmps114 ag2 ?_
 refine .aj (.bx hs fun b2 w hs=>?_)
 refine .zn zg (.aj (.zn zg (.seq (.aj (.zn zg (.block ?_))))))
 refine .loop (fun p:Nat×Int=>⟨28,[],[(6,I (p.1:Int)),(5,I p.2),(2,Pt b2),(1,I h)]⟩)
  (fun p w=>(p.1≤s.wa.length∧-1≤p.2∧p.2<p.1)∧(∀i<p.1,gi s.wa i - gi s.wa 0≤h↔(i:Int)≤p.2)∧St H w (.blk b2 (spC s vst (.slice awa s.wa.length cwa))::σ)) (fun p=>s.wa.length - p.1) (0,-1) a6
  ⟨by dsimp only;omega,fun i hi=>by dsimp only at hi;omega,hs⟩ ?_
 rintro ⟨k,q⟩ w ⟨hk,hall,hs⟩
 dsimp only at hk hall ⊢
 refine .seq (.aj (.z zm (.z (zfa a8) (.y hs (zld an) (.z (da af) (.zn fV (.bn rfl (fun hc11=>?_) (fun hc11=>?_))))))))
 ·refine .skip (nT (.seq (.block (.seq (.draw mix rfl hs fun w hs=>?_)))))
  have hkl:k<s.wa.length:=by omega
  have c1:=hok.wa.bd hkl
  have c2:=hok.wa.bd (i:=0) ak
  refine .zw 0 rfl (zfa a8) ?_;refine .y 1 rfl hs an ?_;refine .z 2 rfl zm ?_
  refine .ixX (enc:=fun x=>[I x]) (i:=3) hs rfl aH .none h2 rfl rfl af ai (bJ (l:=s.wa) (i:=k) ak) cz ?_;intro b17 o17 hc17;replace hc17:=bL.one hc17
  refine .r (i:=4) hs rfl aH .none (aP rfl ae hc17) ?_
  refine .zw 5 rfl (zfa a8) ?_;refine .y 6 rfl hs an ?_
  refine .ixX (enc:=fun x=>[I x]) (i:=7) hs rfl aH .none h2 rfl rfl af ai (bJ (l:=s.wa) (i:=0) ak) cz ?_;intro b21 o21 hc21;replace hc21:=bL.one hc21
  refine .r (i:=8) hs rfl aH .none (aP rfl ae hc21) ?_
  refine .zw 9 rfl fM ?_;refine .z 10 rfl zm ?_;refine .z 11 rfl nb ?_;refine .D hs ?_
  refine (.bn rfl (fun hc25=>?_) (fun hc25=>?_))
  ·refine .region (.z zm (.zn zg (nB (nT (.region (.z zm (.z cu (.zn zg (nT ?_)))))))))
   exact ⟨(k+1,(k:Int)),.cP rfl bT a6,⟨by dsimp only;omega,fun i hi=>by
    dsimp only at hi ⊢
    have:=hr (show i≤k by omega) hkl
    omega,hs⟩,by dsimp only;omega⟩
  ·refine .skip (nB (nT (.region (.z zm (.z cu (.zn zg (nT ?_)))))))
   exact ⟨(k+1,q),.cP rfl bT a6,⟨by dsimp only;omega,fun i hi=>by
    dsimp only at hi ⊢
    by_cases e:i=k
    ·subst e;omega
    ·exact hall i ak,hs⟩,by dsimp only;omega⟩
 ·refine .exit (xT (xT (xB (nT (.aj (.z zm (.zn zg (.ret (Fin.bq Tryz.results114 rfl ?_)))))))))
  obtain rfl:k=s.wa.length:=by omega
  exact ⟨_,rfl,⟨ak,ak,hall⟩,hs.out⟩
theorem vH{s:Spc}{l:Lns}{vst vwa vt vs:Value}{z d:Int}(hs:St H w σ)(g1:RI H vst s.st)(g2:RI H vwa s.wa)(g:LnM H l vt vs):
  Cl Tryz.prog 46 [spA s vst vwa,lnA l vt vs,I z,I d] w fun u w'=>∃k e,u= .tuple #[I k,I e]∧A4 s l z d k e∧St H w' σ:=by
 refine Cl.o Tryz.func46 Tryz.ntmps46 ag4 ?_
 refine .aj (.bx hs fun b4 w hs=>?_)
 refine .bx hs fun b5 w hs=>?_
 refine .z zg (.zn zg (.seq (.aj (.y hs (zls [_,_,_,_,_,_] aK aA) (.o (.call Tryz.call113 rfl (iN (s:=s) hs g1 g2) ?_))))));rintro _ w ⟨e,rfl,he,hs⟩
 refine .zn hZ (.dZ rfl (fun hc15=>?_) (fun hc15=>?_))
 ·refine .aj (.z zg (.zn zg (.ret (rT (Fin.ij Tryz.results46 rfl rfl ?_)))))
  have h:=he.resolve_left fun h=>hc15 h.2
  exact ⟨_,_,rfl,.space h.1,hs.out⟩
 ·refine .skip (nT (.aj (.y hs (zls [_,_,_,_] bB aW) (.z zm (.z zm ?_)))))
  have hok:eY s:=(he.resolve_right fun h=>by omega).1
  refine .o (.call Tryz.call42 rfl (sN hs g) ?_);rintro _ w ⟨h,f,rfl,hH,hs⟩
  refine .z zm (.z zex (.z zex (.z zg (.zn zg (.seq (.aj (.z zm (.zn hZ (.dZ rfl (fun hc24=>?_) (fun hc24=>?_))))))))))
  ·refine .aj (.z zm (.z zg (.zn zg (.ret (rT (Fin.ij Tryz.results46 rfl rfl ?_))))))
   exact ⟨_,_,rfl,.bad hok hH hc24,hs.out⟩
  ·refine .skip (nT (.aj (.y hs (zls [_,_,_,_,_,_] aK aA) (.z zm ?_))))
   obtain rfl:f=0:=by omega
   refine .o (.call Tryz.call114 rfl (tW (s:=s) hs g2 hok) ?_);rintro _ w ⟨k,rfl,hB,hs⟩
   refine .zn zg (.seq (.aj (.z zm (.zn fV (.bn rfl (fun hc30=>?_) (fun hc30=>?_))))))
   ·refine .aj (.z zg (.zn zg (.ret (rT (Fin.ij Tryz.results46 rfl rfl ?_)))))
    have hk:=hB.low
    obtain rfl:k= -1:=by omega
    exact ⟨_,_,rfl,.above hok hH hB,hs.out⟩
   ·refine .skip (nT (.aj (.z zm (.z zg (.zn zg (.ret (Fin.ij Tryz.results46 rfl rfl ?_)))))))
    exact ⟨_,_,rfl,.ok hok hH hB ak,hs.out⟩
theorem sL{s:Spc}{l:Lns}{x:Lg}{vst vwa vt vs:Value}(hs:St H w σ)(g1:RI H vst s.st)(g2:RI H vwa s.wa)(g:LnM H l vt vs)(hsp:eY s)(hl:iE l)(hx:A5 x):
  Cl Tryz.prog 116 [spA s vst vwa,lnA l vt vs,lgA x] w fun u w'=>∃k e,u= .tuple #[I k,I e]∧w5 s.wa l x k e∧St H w' σ:=by
 obtain ⟨awa,cwa,rfl⟩:=RI.shape g2
 have hd:=rQ hx
 have hdn:(kS x:Int)=min x.to (x.fr+364) - x.fr+1:=by have:=hx.fr;unfold kS;omega
 have hf:=hx.fr
 have ht:=hx.to
 refine Cl.o Tryz.func116 Tryz.ntmps116 ag3 ?_
 refine .aj (.bx hs fun b3 w hs=>?_)
 refine .bx hs fun b4 w hs=>?_
 refine .bx hs fun b5 w hs=>?_
 refine .z zg (.zn zg (.aj (.z (zfa a8) (.y hs (zld an) (.z (da af) (.zn zg (.seq (.aj (.z (zfa fl) (.y hs (zld ae) (.zn zg (.block ?_))))))))))))
 refine .loop (fun p:Nat×Int=>⟨46,[],[(9,I (x.fr+(p.1:Int))),(8,I p.2),(5,Pt b5),(4,Pt b4),(3,Pt b3)]⟩)
  (fun p w=>p.1≤kS x∧HA s.wa l x p.1 p.2∧St H w (.blk b5 (lgC x):: .blk b4 (lnC l vt vs):: .blk b3 (spC s vst (.slice awa s.wa.length cwa))::σ)) (fun p=>kS x - p.1) (0,(s.wa.length:Int)) (.cons (by show some (I _)=some (I _);congr 2;omega) a6)
  ⟨Nat.zero_le _,.inl ⟨rfl,rfl⟩,hs⟩ ?_
 rintro ⟨j,best⟩ w ⟨hj,hI,hs⟩
 dsimp only at hj hI ⊢
 refine .seq (.aj (.z zm (.z (zfa fk) (.y hs (zld ae) (.z nb (.z zm (.ie (t':=21) rfl (fun hb21=>?_) (fun hb21=>?_))))))))
 ·refine .T (.z zm (.T (.z (zfa fl) (.T (.y hs (zld ae) (.T (.z cu (.T (.z fV (.zn zpT (.bn rfl (fun hc27=>?_) (fun hc27=>?_))))))))))))
  ·refine .skip (nT (.seq (.block (.aj (.y hs (zls [_,_,_,_,_,_] aK aA) (.y hs (zls [_,_,_,_] bB aW) (.z (zfa kF) (.y hs (zld ae) (.z zm (.o (.call Tryz.call46 rfl (vH (s:=s) hs g1 g2 g) ?_)))))))))));rintro _ w ⟨k,e,rfl,hM,hs⟩
   have hM':=hM.day hsp hl hx ak
   refine .z zm (.z zex (.z zex (.z zg (.zn zg (.seq (.aj (.z zm (.zn hZ (.dZ rfl (fun hc40=>?_) (fun hc40=>?_))))))))))
   ·refine .aj (.z zm (.z zg (.zn zg (.ret (rT (rB (rT (rT (rB (rT (Fin.ij Tryz.results116 rfl rfl ?_)))))))))))
    exact ⟨_,_,rfl,(hM'.resolve_right fun h=>hc40 h.1).2,hs.out⟩
   ·refine .skip (nT (.region (.z zm (.z zm (.z Al (.zn zg (nB (nT (.region (.z zm (.z cu (.zn zg (nT ?_)))))))))))))
    obtain ⟨_,hk0,n,h1,h2⟩:=hM'.resolve_left fun h=>h.1 ak
    exact ⟨(j+1,min best k),.cons (by show some (I _)=some (I _);congr 2;omega) a6,⟨by dsimp only;omega,hI.step hl h1 h2 hk0,hs⟩,by dsimp only;omega⟩
  ·refine .exit (xT (xT (xB (nT (.aj (.z zm (.z zg (.zn zg (.ret (Fin.ij Tryz.results116 rfl rfl ?_))))))))))
   obtain rfl:j=kS x:=by omega
   exact ⟨_,_,rfl,hI.done hx,hs.out⟩
 ·refine .Fs 5 4 true (.zn zpF (.cF (.exit (xT (xT (xB (nT (.aj (.z zm (.z zg (.zn zg (.ret (Fin.ij Tryz.results116 rfl rfl ?_)))))))))))))
  obtain rfl:j=kS x:=by omega
  exact ⟨_,_,rfl,hI.done hx,hs.out⟩
theorem sO{n d:Int}(hs:St H w σ)(hn: -4000000000000≤n∧n≤4000000000000)(hd: -100000≤d∧d≤100000):Cl Tryz.prog 52 [I n,I d] w fun v w'=>v=I (mE n d)∧St H w' σ:=by
 have hm:=jK (a:=n) (b:=d) (A:=4000000000000) (B:=100000) ak ak
 refine Cl.o Tryz.func52 Tryz.ntmps52 ag2 ?_
 refine .aj (.zn zg (.aj (.z zm (.z zm (.z jN (.o (.call Tryz.call119 rfl (oH hs ak ak) ?_)))))));rintro _ w ⟨rfl,hs⟩
 refine .zn zg (.ret (Fin.bq Tryz.results52 rfl ?_))
 exact ⟨rfl,hs⟩
theorem tU{s:Srv}{l:Lns}{r:List Lg}{m:Rng}{a b c d vt vs vlg:Value}(hs:St H w σ)(g:SvM H s a b c d)(gl:LnM H l vt vs)(gr_:RLg H vlg r):
  Cl Tryz.prog 81 [svA s a b c d,lnA l vt vs,.agg #[vlg],.agg #[I m.lo,I m.hi]] w fun u w'=>∃H1 v ks e,HLe H H1∧u= .tuple #[v,I e]∧RI H1 v ks∧sr s l r m ks e∧St H1 w' σ:=by
 obtain ⟨alg,clg,rfl⟩:=gr_.shape
 refine Cl.o Tryz.func81 Tryz.ntmps81 ag4 ?_
 refine .aj (.bx hs fun b4 w hs=>?_)
 refine .bx hs fun b5 w hs=>?_
 refine .bx hs fun b6 w hs=>?_
 refine .bx hs fun b7 w hs=>?_
 refine .z zg (.zn zg (.aj (.y hs (zls [_,_,_,_,_,_,_,_] aQ aC) (.o (.call Tryz.call123 rfl (nC (s:=s) hs g.st g.wa g.rd g.cm) ?_)))));rintro _ w ⟨H1,e,hle1,rfl,hC,hs⟩
 refine .zn zg (.seq (.aj (.z zm (.zn hZ (.dZ rfl (fun hc18=>?_) (fun hc18=>?_))))))
 ·refine .aj (.z zm (.z zg (.zn zg (.ret (rT (Fin.ij w9 rfl rfl ?_))))))
  exact ⟨H1,_,[],_,hle1,rfl,RS.nil H1 1 none 0,.bad hC hc18,hs.out⟩
 ·refine .skip (nT (.seq (.aj (.y hs (zls [_,_,_,_] bB aW) ?_))))
  have hok:fD s:=hC.dT.1 ak
  have hsp:=hok.early.1
  refine .o (.call Tryz.call20 rfl (iM hs (gl.mono hle1)) ?_);rintro _ w ⟨f,rfl,hL,hs⟩
  refine .zn hZ (.dZ rfl (fun hc22=>?_) (fun hc22=>?_))
  ·refine .aj (.z zg (.zn zg (.ret (rT (Fin.ij w9 rfl rfl ?_)))))
   have hl:=hL.resolve_left fun h=>hc22 h.2
   exact ⟨H1,_,[],_,hle1,rfl,RS.nil H1 1 none 0,.lines hok hl.1,hs.out⟩
  ·refine .skip (nT (.seq (.aj (.y hs (zls [_] cH bA) ?_))))
   have hl:iE l:=(hL.resolve_right fun h=>by omega).1
   refine .o (.call Tryz.call22 rfl (oD hs (gr_.mono hle1)) ?_);rintro _ w ⟨q,rfl,hR,hs⟩
   refine .zn hZ (.dZ rfl (fun hc25=>?_) (fun hc25=>?_))
   ·refine .aj (.z zg (.zn zg (.ret (rT (Fin.ij w9 rfl rfl ?_)))))
    have hrt:=hR.resolve_left fun h=>hc25 h.2
    exact ⟨H1,_,[],_,hle1,rfl,RS.nil H1 1 none 0,.route hok hl hrt.1,hs.out⟩
   ·refine .skip (nT (.seq (.aj (.y hs (zls [_,_] bh aq) ?_))))
    have hrt:tn r:=(hR.resolve_right fun h=>by omega).1
    have hn:=hrt.many
    refine .o (.call Tryz.call53 rfl (mQ hs) ?_);rintro _ w ⟨rfl,hs⟩
    refine .zn fI (.cond rfl (fun hc28=>?_) (fun hc28=>?_))
    ·refine .aj (.z zg (.zn zg (.ret (rT (Fin.ij w9 rfl rfl ?_)))))
     exact ⟨H1,_,[],_,hle1,rfl,RS.nil H1 1 none 0,.nZ hok hl hrt (by simpa using hc28),hs.out⟩
    ·refine .skip (nT (.aj (.zn zg (.seq (.aj (.zn zg (.block ?_)))))))
     have hm:iy m.lo m.hi:=by simpa using hc28
     refine .loop (fun p:Nat×List Int×Value×Ent=>⟨56,[],[(12,I (p.1:Int)),(11,p.2.2.1),(6,Pt b6),(5,Pt b5),(4,Pt b4)]⟩)
      (fun p w=>p.1≤r.length∧p.2.1.length=p.1∧(∀i<p.1,w5 s.sp.wa l (lg0 r i) (gi p.2.1 i) 0)∧cN 1 p.2.2.1 (Is p.2.1) p.2.2.2∧St H1 w (p.2.2.2:: .blk b6 [.slice alg r.length clg]:: .blk b5 (lnC l vt vs):: .blk b4 (svC s a b c d)::σ)) (fun p=>r.length - p.1) (0,[],_,.nul) a6
      ⟨Nat.zero_le _,rfl,fun i hi=>by dsimp only at hi;omega,.nil 1 none,hs.nul.sb⟩ ?_
     rintro ⟨k,ks,vo,en⟩ w ⟨hk,hkl,hks,hO,hs⟩
     dsimp only at hk hkl hks hO hs ⊢
     obtain ⟨ao,lo',co,rfl,hlo⟩:=hO.shape
     refine .seq (.aj (.z zm (.z (zfa bH) (.y hs (zld bY) (.z (da aF) (.zn fV (.bn rfl (fun hc33=>?_) (fun hc33=>?_))))))))
     ·refine .skip (nT (.seq (.block (.seq (.draw mix rfl hs fun w hs=>?_)))))
      have hklt:k<r.length:=by omega
      have hx:=kf (l:=r) hklt
      refine .zw 0 rfl (zfa bj) ?_;refine .ys 1 rfl hs [_,_,_,_,_,_] aK aA ?_;refine .ys 2 rfl hs [_,_,_,_] bB aW ?_;refine .z 3 rfl (zfa bH) ?_;refine .y 4 rfl hs bY ?_;refine .z 5 rfl zm ?_
      refine .ixX (enc:=Lg.c) (i:=6) hs rfl aH .none (gr_.mono hle1) rfl rfl aF aN hx rfl ?_;intro b43 o43 hc43
      refine .r (i:=7) hs rfl aH .none (bQ (vs:=lgC (lg0 r k)) rfl fE aN hc43) ?_
      refine .E 8 hs ?_
      refine .call Tryz.call116 rfl (sL (s:=s.sp) (x:=lg0 r k) hs (g.mono hle1).st (g.mono hle1).wa (gl.mono hle1) hsp hl (hrt.leg k hklt).1) ?_;rintro _ w ⟨n,e,rfl,hLw,hs⟩
      refine .go (.zw 9 rfl zm ?_);refine .z 10 rfl zex ?_;refine .z 11 rfl zex ?_;refine .z 12 rfl zg ?_;refine .z 13 rfl zg ?_;refine .D hs ?_
      refine .seq (.aj (.z zm (.zn hZ (.dZ rfl (fun hc49=>?_) (fun hc49=>?_)))))
      ·refine .aj (.z zm (.z zg (.zn zg (.ret (rT (rB (rT (rT (rB (rT (Fin.ij w9 rfl rfl ?_)))))))))))
       exact ⟨H1,_,[],_,hle1,rfl,RS.nil H1 1 none 0,.low hok hl hrt hm hklt (fun j hj=>⟨_,hks j hj⟩) hLw hc49,hs.out⟩
      ·refine .skip (nT (.region (.z zm (.z zm (.o (.buildSlice (cells:=Is [n]) hs dc rfl aH fun b53 w hs=>?_))))))
       refine .o (.append (ys:=Is [n]) hs cV rfl rfl hO (.own .here rfl rfl) (js _) (fun l h=>by simp [Is] at h;omega) ?_);intro v54 en54 w hO2 hs
       rw [←List.map_append] at hO2
       refine .zn zg (nB (nT (.region (.z zm (.z cu (.zn zg (nT ?_)))))))
       obtain rfl:e=0:=by omega
       exact ⟨(k+1,ks++[n],v54,en54),.cP rfl bT a6,⟨by dsimp only;omega,by simp [hkl],fun i hi=>by
        dsimp only at hi ⊢
        by_cases e:i=k
        ·subst e;rw [mD,if_neg ak,if_pos ak];exact hLw
        ·rw [mD,if_pos ak];exact hks i ak,hO2,hs.sb⟩,by dsimp only;omega⟩
     ·refine .exit (xT (xT (xB (nT (.aj (.z zm (.z zg (.zn zg (.ret (Fin.ij w9 rfl rfl ?_))))))))))
      obtain rfl:k=r.length:=by omega
      obtain ⟨H2,hle2,hRk,hs⟩:=hO.dM ak hs .here
      exact ⟨H2,_,ks,_,hle1.trans hle2,rfl,hRk,.ok hok hl hrt hm hkl hks,hs.out⟩
theorem db{n m:Int}(hs:St H w σ)(hm:1≤m∧m≤4611686018427387904):Cl Tryz.prog 36 [I n,I m] w fun u w'=>u=I (so n m)∧St H w' σ:=by
 have h1:=Int.tmod_lt_of_pos n (show 0<m by omega)
 have h2:=Int.lt_tmod_of_pos n (show 0<m by omega)
 refine Cl.o Tryz.func36 Tryz.ntmps36 ag2 ?_
 refine .aj (.zn zg (.aj (.z zm (.z zm (.z Ag (.z zm (.z cu (.z zm (.z Ag (.zn zg (.ret (Fin.bq Tryz.results36 rfl ?_))))))))))))
 exact ⟨rfl,hs⟩
theorem dO{v:Value}{l:List Int}{i n:Int}(hs:St H w σ)(hr:RI H v l)(hi:0≤i)(hn:1≤n∧n≤1000000):Cl Tryz.prog 141 [v,I i,I n] w fun u w'=>∃x,u=I x∧(0≤x∧x<n)∧St H w' σ:=by
 obtain ⟨a,c,rfl⟩:=RI.shape hr
 refine Cl.o Tryz.func141 Tryz.ntmps141 ag3 ?_
 refine .aj (.zn zg (.seq (.aj (.z zm (.z (da af) (.zn fF (.bn rfl (fun hc9=>?_) (fun hc9=>?_))))))))
 ·refine .aj (.zn zg (.ret (rT (Fin.bq Tryz.results141 rfl ?_))))
  exact ⟨0,rfl,ak,hs⟩
 ·refine .skip (nT (.aj (.z zm (.z zm (.z zm (.z (da af) (.z Ag ?_)))))))
  have h1:=Int.tmod_lt_of_pos i (show 0<(l.length:Int) by omega)
  have h2:=Int.tmod_nonneg (l.length:Int) hi
  refine .ixX (enc:=fun x=>[I x]) hs hr rfl rfl af ai (bJ (l:=l) (i:=(i.tmod l.length).toNat) ak) ak ?_;intro b15 o15 hc15;replace hc15:=bL.one hc15
  refine .y hs (zld ae) (.z zm (.o (.call fh rfl (db hs ak) ?_)));rintro _ w ⟨rfl,hs⟩
  refine .zn zg (.ret (Fin.bq Tryz.results141 rfl ?_))
  exact ⟨_,rfl,lP _ hn.1,hs⟩
theorem jP{a b c d e f fr:Int}(hs:St H w σ)(hf:0≤fr∧fr≤1000000):Cl Tryz.prog 142 [.agg #[I a,I b,I c,I d,I e,I f],I fr] w fun u w'=>∃x,u=lgA x∧Eg x fr∧St H w' σ:=by
 have m1:=lP a (m:=3) ak
 have m2:=lP b (m:=40) ak
 have m3:=lP c (m:=60) ak
 have m4:=lP d (m:=100) ak
 have m5:=lP (IntKind.i64.wrap (d.tdiv 100)) (m:=40) ak
 have m6:=lP e (m:=500) ak
 have m7:=lP f (m:=200) ak
 refine Cl.o Tryz.func142 Tryz.ntmps142 ag2 ?_
 refine .aj (.bx hs fun b2 w hs=>?_)
 refine .o (.alloc hs de rfl fun b4 w hs=>?_)
 refine .nil (.cut (fun fs w=>∃b5,lF fs ⟨50,[],[(5,Pt b5),(4,Pt b4),(2,Pt b2)]⟩∧St H w (.blk b5 [I (1+so a 3),I (fr+so b 40),I 0,I 0,I 0,I 0,I 0]:: .blk b4 [I 0,I 0,I 0,I 0,I 0,I 0,I 0]:: .blk b2 [I a,I b,I c,I d,I e,I f]::σ)) ?_ ?_)
 ·refine .draw mix rfl hs fun w hs=>?_
  refine .zw 0 rfl (zia 0 eL ai) (.y 1 rfl hs ae ?_);refine .z 4 rfl zm ?_
  refine .zw 5 rfl (zia 1 eL ai) (.zv 6 rfl hs (od ae) (.e2 (i:=2) (j:=10) aH rfl rfl rfl rfl .none .none hs ?_ ?_))
  ·refine .call fh rfl (db hs ak) ?_;rintro _ w ⟨rfl,hs⟩
   refine .go (.zw 3 rfl cu (.e2 (i:=7) (j:=10) aH rfl rfl rfl rfl .none .none hs ?_ ?_))
   ·refine .call fh rfl (db hs ak) ?_;rintro _ w ⟨rfl,hs⟩
    refine .go (.zw 8 rfl cu ?_);refine .z 9 rfl (zbd [_,_,_,_,_,_,_] lW) ?_
    refine .E 10 hs ?_
    refine .alloc hs de rfl ?_;intro b5 w hs
    refine .go (.E 11 hs ?_)
    refine .aU (vs:=[_,_,_,_,_,_,_]) hs rfl rfl aN ?_;intro w hs
    refine .go (.D hs ?_)
    exact nT ⟨b5,a6,hs.sb⟩
   ·refine .alloc hs de rfl ?_;intro b5 w hs
    refine .go (.E 7 hs ?_)
    refine .call fh rfl (db hs ak) ?_;rintro _ w ⟨rfl,hs⟩
    refine .go (.zw 8 rfl cu ?_);refine .z 9 rfl (zbd [_,_,_,_,_,_,_] lW) ?_
    refine .E 11 hs ?_
    refine .aU (vs:=[_,_,_,_,_,_,_]) hs rfl rfl aN ?_;intro w hs
    refine .go (.D hs ?_)
    exact nT ⟨b5,a6,hs.sb⟩
  ·refine .alloc hs de rfl ?_;intro b5 w hs
   refine .go (.E 2 hs ?_)
   refine .call fh rfl (db hs ak) ?_;rintro _ w ⟨rfl,hs⟩
   refine .go (.zw 3 rfl cu (.E 7 hs ?_))
   refine .call fh rfl (db hs ak) ?_;rintro _ w ⟨rfl,hs⟩
   refine .go (.zw 8 rfl cu ?_);refine .z 9 rfl (zbd [_,_,_,_,_,_,_] lW) ?_
   refine .E 11 hs ?_
   refine .aU (vs:=[_,_,_,_,_,_,_]) hs rfl rfl aN ?_;intro w hs
   refine .go (.D hs ?_)
   exact nT ⟨b5,a6,hs.sb⟩
 ·rintro fs w ⟨b5,hfs,hs⟩
  refine WE.sub ?_ hfs
  clear hfs
  refine .seq (.draw mix rfl hs fun w hs=>?_)
  refine .zw 0 rfl (zfa fl) ?_;refine .y 1 rfl hs ae ?_
  refine .zw 2 rfl (zia 2 eL ai) (.zv 3 rfl hs (od ae) (.E 4 hs ?_))
  refine .call fh rfl (db hs ak) ?_;rintro _ w ⟨rfl,hs⟩
  refine .go (.zw 5 rfl cu ?_);refine .z 6 rfl (zfa fk) ?_
  refine .E 7 hs ?_
  refine .store hs rfl rfl ai ?_;intro w hs
  refine .go (.D hs (.aj (.z (zia 3 eL ai) (.y hs (zld ae) (.o (.call fh rfl (db hs ak) ?_))))));rintro _ w ⟨rfl,hs⟩
  refine .z cu (.zn zg (.aj (.z zm (.z zm (.z (zia 3 eL ai) (.y hs (zld ae) (.z Hn (.o (.call fh rfl (db hs ak) ?_)))))))));rintro _ w ⟨rfl,hs⟩
  refine .z cu (.z (zbd [_,_] cB) (.z (zfa fj) (.o (.aU (vs:=[_,_]) hs rfl rfl aq fun w hs=>?_))))
  refine .nil (.seq (.draw mix rfl hs fun w hs=>?_))
  refine .zw 0 rfl (zia 4 eL ai) (.zv 1 rfl hs (od ae) (.zw 3 rfl (zia 4 eL ai) (.zv 4 rfl hs (od ae) (.zw 6 rfl (zia 5 eL ai) (.zv 7 rfl hs (od ae) (.E 2 hs ?_))))))
  refine .call fh rfl (db hs ak) ?_;rintro _ w ⟨rfl,hs⟩
  refine .go (.E 5 hs ?_)
  refine .call fh rfl (db hs ak) ?_;rintro _ w ⟨rfl,hs⟩
  refine .go (.E 8 hs ?_)
  refine .call fh rfl (db hs ak) ?_;rintro _ w ⟨rfl,hs⟩
  refine .go (.zw 9 rfl cu ?_);refine .z 10 rfl (zbd [_,_] cB) ?_;refine .z 11 rfl (zfa fH) ?_
  refine .E 12 hs ?_
  refine .aU (vs:=[_,_]) hs rfl rfl aq ?_;intro w hs
  refine .go (.D hs (.aj (.y hs (zls [_,_,_,_,_,_,_] fE aN) (.o (.aU (vs:=[_,_,_,_,_,_,_]) hs rfl rfl aN fun w hs=>?_)))))
  refine .nil (.ret ?_)
  exact Fin.jt [] [] hs fun w hs=>⟨_,results1 Tryz.results142 (dK (vs:=lgC ⟨1+so a 3,fr+so b 40,fr+so b 40+so c 60,950+so d 100,950+so d 100+so (IntKind.i64.wrap (d.tdiv 100)) 40,so e 500,so e 500+so f 200⟩) hs rfl fE aN),⟨1+so a 3,fr+so b 40,fr+so b 40+so c 60,950+so d 100,950+so d 100+so (IntKind.i64.wrap (d.tdiv 100)) 40,so e 500,so e 500+so f 200⟩,rfl,⟨by dsimp only;omega,by dsimp only;omega,by dsimp only;omega,by dsimp only;omega,by dsimp only;omega,by dsimp only;omega,by dsimp only;omega⟩,hs.out⟩
theorem qv{v:Value}{ns:List Int}(hs:St H w σ)(hr:RI H v ns):
  Cl Tryz.prog 77 [v] w fun u w'=>∃l vt vs e1 e2,u=lnA l vt vs∧IG l∧cN 2 vt (fbc l.table).flatten e1∧cN 4 vs (snc l.seasons).flatten e2∧St H w' (e2::e1::σ):=by
 refine Cl.o Tryz.func77 Tryz.ntmps77 ag1 ?_
 refine .aj (.o (.alloc hs jd rfl fun b2 w hs=>?_))
 refine .nil (.aj (.z zm (.o (.call jJ rfl (dO hs hr ak ak) ?_))));rintro _ w ⟨x6,rfl,g6,hs⟩
 refine .z cu (.z zm (.o (.call jJ rfl (dO hs hr ak ak) ?_)));rintro _ w ⟨x9,rfl,g9,hs⟩
 refine .z cu (.z (zbd [I (100+x6),I (200+x9),.slice none 0 0,.slice none 0 0] sd rfl aH) (.o (.alloc hs jd rfl fun b3 w hs=>?_)))
 refine .o (.aU (vs:=[_,_,_,_]) hs rfl rfl aW fun w hs=>?_)
 refine .nil (.aj (.z zm (.o (.call jJ rfl (dO hs hr ak ak) ?_))));rintro _ w ⟨x13,rfl,g13,hs⟩
 refine .z (zbd [_,_] gS) (.z zm (.o (.call jJ rfl (dO hs hr ak ak) ?_)));rintro _ w ⟨x16,rfl,g16,hs⟩
 refine .z cu (.z zm (.o (.call jJ rfl (dO hs hr ak ak) ?_)));rintro _ w ⟨x19,rfl,g19,hs⟩
 refine .z (zbd [_,_] gS) (.z zm (.o (.call jJ rfl (dO hs hr ak ak) ?_)));rintro _ w ⟨x22,rfl,g22,hs⟩
 refine .z (zbd [_,_] gS) (.o (.buildSlice (cells:=(fbc [⟨100,x13⟩,⟨400+x16,x19⟩,⟨1000,x22⟩]).flatten) hs om rfl aH fun b24 w hs=>?_))
 refine .z (zfa cK) (.o (.store hs rfl rfl Tryz.sizeOf22 fun w hs=>?_))
 refine .nil (.seq (.aj (.zn zg (.block ?_))))
 replace hs:St H w (.blk b24 (fbc [⟨100,x13⟩,⟨400+x16,x19⟩,⟨1000,x22⟩]).flatten:: .blk b3 [I (100+x6),I (200+x9),.slice (some ⟨b24,0,none⟩) 3 3,.slice none 0 0]:: .blk b2 [I 0,I 0,.slice none 0 0,.slice none 0 0]::σ):=hs
 refine .loop (fun p:Nat×List Ssn×Value×Ent=>⟨62,[],[(4,I (p.1:Int)),(3,Pt b3),(2,Pt b2),(0,v)]⟩)
  (fun p w=>p.1≤4∧p.2.1.length=p.1∧(∀s∈p.2.1,A3 s)∧cN 4 p.2.2.1 (snc p.2.1).flatten p.2.2.2∧St H w (p.2.2.2:: .blk b24 (fbc [⟨100,x13⟩,⟨400+x16,x19⟩,⟨1000,x22⟩]).flatten:: .blk b3 [I (100+x6),I (200+x9),.slice (some ⟨b24,0,none⟩) 3 3,p.2.2.1]:: .blk b2 [I 0,I 0,.slice none 0 0,.slice none 0 0]::σ)) (fun p=>4 - p.1) (0,[],_,.nul) a6
  ⟨by dsimp only;omega,rfl,fun s hs=>(by cases hs),.nil 4 none,hs.nul⟩ ?_
 rintro ⟨k,ss,vo,en⟩ w ⟨hk,hkl,hss,hO,hs⟩
 dsimp only at hk hkl hss hO hs ⊢
 obtain ⟨ao,co,rfl⟩:=hO.je (zh _) ak
 rw [lB] at hO hs
 refine .seq (.aj (.z zm (.z zm (.o (.call jJ rfl (dO hs hr ak ak) ?_)))));rintro _ w ⟨x28,rfl,g28,hs⟩
 refine .zn fV (.bn rfl (fun hc29=>?_) (fun hc29=>?_))
 ·refine .skip (nT (.seq (.block (.draw mix rfl hs fun w hs=>?_))))
  refine .zw 0 rfl (zfa cU) ?_;refine .y 1 rfl hs eF ?_;refine .z 2 rfl zm ?_;refine .z 3 rfl zm ?_;refine .z 4 rfl jN ?_;refine .z 5 rfl cu ?_;refine .z 8 rfl zm ?_;refine .z 9 rfl zm ?_;refine .z 10 rfl jN ?_;refine .z 11 rfl cu ?_
  refine .zw 14 rfl zm ?_;refine .z 15 rfl zm ?_;refine .z 16 rfl jN ?_;refine .z 17 rfl cu ?_;refine .z 20 rfl zm ?_;refine .z 21 rfl zm ?_;refine .z 22 rfl jN ?_;refine .z 23 rfl cu ?_
  refine .E 6 hs ?_
  refine .call jJ rfl (dO hs hr ak ak) ?_;rintro _ w ⟨x38,rfl,g38,hs⟩
  refine .go (.zw 7 rfl cu (.E 12 hs ?_))
  refine .call jJ rfl (dO hs hr ak ak) ?_;rintro _ w ⟨x44,rfl,g44,hs⟩
  refine .go (.zw 13 rfl cu (.E 18 hs ?_))
  refine .call jJ rfl (dO hs hr ak ak) ?_;rintro _ w ⟨x50,rfl,g50,hs⟩
  refine .go (.zw 19 rfl cu (.E 24 hs ?_))
  refine .call jJ rfl (dO hs hr ak ak) ?_;rintro _ w ⟨x56,rfl,g56,hs⟩
  refine .go (.zw 25 rfl (zbd (Ssn.c ⟨1+x38,1+x44,1+x50,x56⟩) qi rfl aH) (.E 26 hs ?_))
  refine .buildSlice (cells:=Ssn.c ⟨1+x38,1+x44,1+x50,x56⟩) hs lV rfl aH ?_;intro b58 w hs
  refine .go (.E 27 hs ?_)
  refine .append (ys:=Ssn.c ⟨1+x38,1+x44,1+x50,x56⟩) hs lx rfl rfl hO (.own .here rfl rfl) (by simp [Ssn.c,Value.oneCell']) (fun l' h=>by rw [bU _ (zh _),lB] at h;omega) ?_;intro v59 en59 w hO2 hs
  rw [←EJ] at hO2
  obtain ⟨a59,c59,rfl⟩:=hO2.je (zh _) ak
  refine .go (.zw 28 rfl (zfa cU) (.E 29 hs ?_))
  refine .store hs rfl rfl Tryz.sizeOf23 ?_;intro w hs
  refine .go (.D hs (nB (nT (.region (.z zm (.z cu (.zn zg (nT ?_))))))))
  exact ⟨(k+1,ss++[⟨1+x38,1+x44,1+x50,x56⟩],_,en59),.cP rfl bT a6,⟨by dsimp only;omega,by simp [hkl],fun s hs=>by
   rcases List.mem_append.1 hs with h|h
   ·exact hss s h
   ·rw [List.mem_singleton] at h;subst h;exact ⟨by dsimp only;omega,by dsimp only;omega,by dsimp only;omega,by dsimp only;omega⟩,hO2,hs.sb⟩,by dsimp only;omega⟩
 ·refine .exit (xT (xT (xB (nT (.aj (.y hs (zls [_,_,_,_] bB aW) (.o (.aU (vs:=[_,_,_,_]) hs rfl rfl aW fun w hs=>?_))))))))
  refine .nil (.ret ?_)
  exact Fin.jt [] [] hs fun w hs=>⟨_,results1 Tryz.results77 (dK (vs:=[I (100+x6),I (200+x9),.slice (some ⟨b24,0,none⟩) 3 3,.slice ao ss.length co]) hs rfl bB aW),⟨100+x6,200+x9,[⟨100,x13⟩,⟨400+x16,x19⟩,⟨1000,x22⟩],ss⟩,_,_,.blk b24 (fbc [⟨100,x13⟩,⟨400+x16,x19⟩,⟨1000,x22⟩]).flatten,en,rfl,⟨⟨by dsimp only;omega,by dsimp only;omega,bT,by dsimp only;omega,fun i hi=>by
   have h:i=0∨i=1∨i=2:=by simp at hi;omega
   rcases h with rfl|rfl|rfl
   ·exact ⟨by simp [fb0],by simp [fb0];omega,bT⟩
   ·exact ⟨by simp [fb0];omega,by simp [fb0];omega,by simp [fb0];omega⟩
   ·exact ⟨by simp [fb0],by simp [fb0];omega,by simp [fb0];omega⟩,hss⟩,by dsimp only;omega,rfl,⟨rfl,rfl⟩,by dsimp only;omega⟩,.full rfl,hO,hs.sb⟩
set_option maxHeartbeats 1000000 in
theorem qu{v:Value}{ns:List Sx}(hs:St H w σ)(hr:RS H 6 v (ns.map Sx.v)):
  Cl Tryz.prog 78 [v] w fun u w'=>∃r vr en,u= .agg #[vr]∧IF r∧cN 7 vr (lgc r).flatten en∧St H w' (en::σ):=by
 obtain ⟨a,c,rfl⟩:=hr.shape
 have hlr:=hr.len
 rw [List.length_map] at hr ⊢
 refine Cl.o Tryz.func78 Tryz.ntmps78 ag1 ?_
 refine .aj (.o (.alloc hs j5 rfl fun b2 w hs=>?_))
 refine .nil (.aj (.o (.alloc hs j5 rfl fun b3 w hs=>?_)))
 refine .nil (.aj (.zn zg (.seq (.aj (.zn zg (.block ?_))))))
 refine .loop (fun p:Nat×Int×List Lg×Value×Ent=>⟨40,[],[(5,I (p.1:Int)),(4,I p.2.1),(3,Pt b3),(2,Pt b2),(0,.slice a ns.length c)]⟩)
  (fun p w=>(p.1≤4∧p.1≤ns.length)∧p.2.2.1.length=p.1∧(0≤p.2.1∧p.2.1≤p.1*100)∧(0<p.1→(lg0 p.2.2.1 (p.1 - 1)).to=p.2.1)∧(∀i<p.1,(A5 (lg0 p.2.2.1 i)∧(0<i→(lg0 p.2.2.1 (i - 1)).to≤(lg0 p.2.2.1 i).fr))∧(lg0 p.2.2.1 i).bhi≤1000)∧cN 7 p.2.2.2.1 (lgc p.2.2.1).flatten p.2.2.2.2∧St H w (p.2.2.2.2:: .blk b3 [p.2.2.2.1]:: .blk b2 [.slice none 0 0]::σ)) (fun p=>4 - p.1) (0,0,[],_,.nul) a6
  ⟨by dsimp only;omega,rfl,by dsimp only;omega,fun h=>(by dsimp only at h;omega),fun i hi=>(by dsimp only at hi;omega),.nil 7 none,hs.nul⟩ ?_
 rintro ⟨k,fr,r,vo,en⟩ w ⟨hk,hkl,hfr,hto,hok,hO,hs⟩
 dsimp only at hk hkl hfr hto hok hO hs ⊢
 obtain ⟨ao,co,rfl⟩:=hO.je (AM _) ak
 rw [lC] at hO hs
 refine .seq (.aj (.z zm (.z zm (.z (da Tryz.runUnderlying40) (.z fV (.z zm (.ie (t':=11) rfl (fun hb11=>?_) (fun hb11=>?_))))))))
 ·refine .T (.z zm (.T (.z fV (.zn zpT (.bn rfl (fun hc14=>?_) (fun hc14=>?_))))))
  ·refine .skip (nT (.seq (.block (.aj ?_))))
   obtain ⟨q,hx⟩:=nth (l:=ns) (k:=k) ak
   refine .z zm (.z zm (.ixX (enc:=Sx.v) hs hr rfl rfl Tryz.runUnderlying40 Tryz.sizeOf96 hx rfl ?_));intro b19 o19 hc19
   refine .q hs (bQ (vs:=q.v) rfl Tryz.isAgg96 Tryz.sizeOf96 hc19) (.z zm (.o (.call Tryz.call142 rfl (jP (a:=q.a) (b:=q.b) (c:=q.c) (d:=q.d) (e:=q.e) (f:=q.f) hs ak) ?_)));rintro _ w ⟨x,rfl,hM,hs⟩
   have hMo:=hM.ok ak
   have hM2:=hM.fr
   have hM3:=hM.to
   have hM6:=hM.blo
   have hM7:=hM.bhi
   refine .o (.alloc hs de rfl fun b6 w hs=>?_)
   refine .o (.aU (vs:=[_,_,_,_,_,_,_]) hs rfl rfl aN fun w hs=>?_)
   refine .nil (.aj (.z (zfa fk) (.y hs (zld ae) (.zn zg (.region (.z (zfa bH) (.y hs (zld bY) (.y hs (zls [_,_,_,_,_,_,_] fE aN) (.o (.buildSlice (cells:=lgC x) hs kW rfl aH fun b28 w hs=>?_))))))))))
   refine .o (.append (ys:=x.c) hs oq rfl rfl hO (.own .here rfl rfl) (by simp [Lg.c,Value.oneCell']) (fun l' h=>by rw [bU _ (AM _),lC] at h;omega) ?_);intro v29 en29 w hO2 hs
   rw [←Fq] at hO2
   obtain ⟨a29,c29,rfl⟩:=hO2.je (AM _) ak
   refine .z (zfa bH) (.o (.store hs rfl rfl nv fun w hs=>?_))
   refine .nil (nB (nT (.region (.z zm (.z cu (.zn zg (nT ?_)))))))
   exact ⟨(k+1,x.to,r++[x],_,en29),.cP rfl bT a6,⟨by dsimp only;omega,by simp [hkl],by dsimp only;omega,fun _=>by dsimp only;rw [rH,if_neg ak,if_pos ak],fun i hi=>by
    dsimp only at hi ⊢
    by_cases e:i=k
    ·subst e
     rw [rH,if_neg ak,if_pos ak,rH]
     refine ⟨⟨hMo,fun h=>?_⟩,ak⟩
     rw [if_pos ak]
     have:=hto h;omega
    ·rw [rH,if_pos ak,rH,if_pos ak]
     exact hok i ak,hO2,hs.sb⟩,by dsimp only;omega⟩
  ·refine .exit (xT (xT (xB (nT (.seq (.aj (.z (zfa bH) (.y hs (zld bY) (.z (da aF) (.zn fF (.bn rfl (fun hc34=>?_) (fun hc34=>?_))))))))))))
   ·refine .region ?_
    obtain rfl:k=0:=by omega
    obtain rfl:r=[]:=List.length_eq_zero_iff.1 hkl
    refine .q hs (yi (vs:=[]) (cells:=[I 0,I 0,I 0,I 0,I 0,I 0]) Tryz.zeroValue96 rfl eL ai rfl) (.o (.call Tryz.call142 rfl (jP (a:=0) (b:=0) (c:=0) (d:=0) (e:=0) (f:=0) hs ak) ?_));rintro _ w ⟨x,rfl,hM,hs⟩
    have hM6:=hM.blo
    have hM7:=hM.bhi
    refine .o (.buildSlice (cells:=(lgc [x]).flatten) hs kW rfl aH fun b37 w hs=>?_)
    refine .z (zfa bH) (.o (.store hs rfl rfl nv fun w hs=>?_))
    refine .nil (nT (.aj (.y hs (zls [_] cH bA) (.o (.aU (vs:=[_]) hs rfl rfl bA fun w hs=>?_)))))
    refine .nil (.ret ?_)
    exact Fin.jt [] [] hs fun w hs=>⟨_,results1 Tryz.results78 (dK (vs:=[.slice (some ⟨b37,0,none⟩) 1 1]) hs rfl cH bA),[x],_,.blk b37 (lgc [x]).flatten,rfl,⟨⟨bT,fun i hi=>by
     obtain rfl:i=0:=by simp at hi;omega
     exact ⟨hM.ok ak,fun h=>by omega⟩⟩,bT,fun i hi=>by
     obtain rfl:i=0:=by simp at hi;omega
     show x.bhi≤1000;omega⟩,.full rfl,hs.sb⟩
   ·refine .skip (nT (.aj (.y hs (zls [_] cH bA) (.o (.aU (vs:=[_]) hs rfl rfl bA fun w hs=>?_)))))
    refine .nil (.ret ?_)
    exact Fin.jt [] [] hs fun w hs=>⟨_,results1 Tryz.results78 (dK (vs:=[.slice ao r.length co]) hs rfl cH bA),r,_,en,rfl,⟨⟨ak,fun i hi=>(hok i ak).1⟩,ak,fun i hi=>(hok i ak).2⟩,hO,hs.sb⟩
 ·refine .Fs 2 4 true (.zn zpF (.cF (.exit (xT (xT (xB (nT (.seq (.aj (.z (zfa bH) (.y hs (zld bY) (.z (da aF) (.zn fF (.bn rfl (fun hc34=>?_) (fun hc34=>?_)))))))))))))))
  ·refine .region ?_
   obtain rfl:k=0:=by omega
   obtain rfl:r=[]:=List.length_eq_zero_iff.1 hkl
   refine .q hs (yi (vs:=[]) (cells:=[I 0,I 0,I 0,I 0,I 0,I 0]) Tryz.zeroValue96 rfl eL ai rfl) (.o (.call Tryz.call142 rfl (jP (a:=0) (b:=0) (c:=0) (d:=0) (e:=0) (f:=0) hs ak) ?_));rintro _ w ⟨x,rfl,hM,hs⟩
   have hM6:=hM.blo
   have hM7:=hM.bhi
   refine .o (.buildSlice (cells:=(lgc [x]).flatten) hs kW rfl aH fun b37 w hs=>?_)
   refine .z (zfa bH) (.o (.store hs rfl rfl nv fun w hs=>?_))
   refine .nil (nT (.aj (.y hs (zls [_] cH bA) (.o (.aU (vs:=[_]) hs rfl rfl bA fun w hs=>?_)))))
   refine .nil (.ret ?_)
   exact Fin.jt [] [] hs fun w hs=>⟨_,results1 Tryz.results78 (dK (vs:=[.slice (some ⟨b37,0,none⟩) 1 1]) hs rfl cH bA),[x],_,.blk b37 (lgc [x]).flatten,rfl,⟨⟨bT,fun i hi=>by
    obtain rfl:i=0:=by simp at hi;omega
    exact ⟨hM.ok ak,fun h=>by omega⟩⟩,bT,fun i hi=>by
    obtain rfl:i=0:=by simp at hi;omega
    show x.bhi≤1000;omega⟩,.full rfl,hs.sb⟩
  ·refine .skip (nT (.aj (.y hs (zls [_] cH bA) (.o (.aU (vs:=[_]) hs rfl rfl bA fun w hs=>?_)))))
   refine .nil (.ret ?_)
   exact Fin.jt [] [] hs fun w hs=>⟨_,results1 Tryz.results78 (dK (vs:=[.slice ao r.length co]) hs rfl cH bA),r,_,en,rfl,⟨⟨ak,fun i hi=>(hok i ak).1⟩,ak,fun i hi=>(hok i ak).2⟩,hO,hs.sb⟩
set_option maxHeartbeats 4000000 in
theorem sM{vs v5 v4 vp vn vg:Value}{sl pk ns:List Int}{fs5:List F5}{fs4:List F4}{sx:List Sx}{y1 y2 y3 m1 m2 z1 z2 z3:Int}(hs:St H w σ)(g1:RI H vs sl)(g2:RF5 H v5 fs5)(g3:RF4 H v4 fs4)(g4:RI H vp pk)(g5:RI H vn ns)(g6:RS H 6 vg (sx.map Sx.v)):
  Cl Tryz.prog 23 [.agg #[vs,v5,v4,vp,I y1,I y2,I y3,vn,vg,I m1,I m2,I z1,I z2,I z3]] w fun u w'=>∃H1 s a b c d l vt vs r vl,HLe H H1∧u= .tuple #[svA s a b c d,lnA l vt vs,.agg #[vl]]∧SvM H1 s a b c d∧LnM H1 l vt vs∧RLg H1 vl r∧Spl s∧St H1 w' σ:=by
 obtain ⟨avs,cvs,rfl⟩:=RI.shape g1
 obtain ⟨av5,cv5,rfl⟩:=g2.shape
 obtain ⟨av4,cv4,rfl⟩:=g3.shape
 obtain ⟨avp,cvp,rfl⟩:=RI.shape g4
 obtain ⟨avn,cvn,rfl⟩:=RI.shape g5
 obtain ⟨avg,cvg,rfl⟩:=g6.shape
 refine Cl.o Tryz.func23 Tryz.ntmps23 ag1 ?_
 refine .aj (.bx hs fun b1 w hs=>?_)
 refine .o (.alloc hs dS rfl fun b2 w hs=>?_)
 refine .o (.alloc hs jd rfl fun b3 w hs=>?_)
 refine .o (.alloc hs j5 rfl fun b4 w hs=>?_)
 refine .nil (.aj (.z (zfa kD) (.y hs (zls [_,_,_,_,_,_,_] Tryz.isAgg39 Tryz.sizeOf39) (.o (.call Tryz.call55 rfl (sS hs g1 g2 g3 g4) ?_)))));rintro _ w ⟨H1,s,a,b,c,d,hle1,rfl,r1,r2,r3,r4,hSpl,hs⟩
 have hSv:SvM H1 s a b c d:=⟨r1,r2,r3,r4⟩
 obtain ⟨aa,ca,rfl⟩:=RI.shape r1
 obtain ⟨ab,cb,rfl⟩:=RI.shape r2
 obtain ⟨ac,cc,rfl⟩:=RRd.shape r3
 obtain ⟨ad,cd,rfl⟩:=RCm.shape r4
 refine .o (.alloc hs dS rfl fun b5 w hs=>?_)
 refine .o (.aU (vs:=[_,_,_,_,_,_,_,_]) hs rfl rfl aC fun w hs=>?_)
 refine .nil (.aj (.z (zfa oZ) (.y hs (zld an) (.o (.call Tryz.call77 rfl (qv hs (g5.mono hle1)) ?_)))));rintro _ w ⟨l,vt,vsn,e1,e2,rfl,hL,hO1,hO2,hs⟩
 obtain ⟨bt,ct,spT,rfl,rfl,hct⟩:=hO1.FO (FB _) ak (by rw [pA,hL.tbl];omega)
 obtain ⟨asn,csn,rfl⟩:=hO2.je (zh _) ak
 rw [pA] at hO1 ⊢
 rw [lB] at hO2 ⊢
 have hLt:=hL.tbl
 refine .o (.alloc hs jd rfl fun b6 w hs=>?_)
 refine .o (.aU (vs:=[_,_,_,_]) hs rfl rfl aW fun w hs=>?_)
 refine .nil (.aj (.z (zfa oY) (.y hs (zld Tryz.isAgg40) (.o (.call Tryz.call78 rfl (qu hs (RS.mono g6 hle1)) ?_)))));rintro _ w ⟨r,vr,e3,rfl,hR,hO3,hs⟩
 have hRm:=hR.ok.many
 have hR4:=hR.many
 obtain ⟨br,cr,spR,rfl,rfl,hcr⟩:=hO3.FO (AM _) ak (by rw [lC];omega)
 rw [lC] at hO3 ⊢
 refine .o (.alloc hs j5 rfl fun b7 w hs=>?_)
 refine .o (.aU (vs:=[_]) hs rfl rfl bA fun w hs=>?_)
 refine .nil (.aj (.z (zfa oX) (.y hs (zls [_,_,_] Tryz.isAgg37 Ae) (.o (.alloc hs Tryz.zeroValue37 rfl fun b8 w hs=>?_)))))
 refine .o (.aU (vs:=[_,_,_]) hs rfl rfl Ae fun w hs=>?_)
 refine .nil (.aj (.z (zia 1 aD ai) (.y hs (zld ae) (.z (zfa bH) (.y hs (zld bY) (.z (da aF) ?_))))))
 have hbi:=lP z2 (m:=(r.length:Int)) ak
 refine .o (.call fh rfl (db hs ak) ?_);rintro _ w ⟨rfl,hs⟩
 generalize so z2 (r.length:Int)=ii at*
 obtain ⟨i,rfl⟩:∃i:Nat,ii=(i:Int):=⟨ii.toNat,ak⟩
 refine .zn zg (.aj (.z (zia 1 aD ai) (.y hs (zld ae) (.z (zfa cK) (.y hs (zld eb) (.z (da aZ) ?_))))))
 have hbk:=lP z2 (m:=(l.table.length:Int)) ak
 refine .o (.call fh rfl (db hs ak) ?_);rintro _ w ⟨rfl,hs⟩
 generalize so z2 (l.table.length:Int)=kk at*
 obtain ⟨k,rfl⟩:∃k:Nat,kk=(k:Int):=⟨kk.toNat,ak⟩
 have hxT:=mF (l:=l.table) (i:=k) ak
 have hxR:=kf (l:=r) (i:=i) ak
 generalize fb0 l.table k=fT at*
 generalize lg0 r i=fR at*
 refine .zn zg (.cut (fun fs w=>∃(x1 x2:Int) (T:List Fbd) (R:List Lg) (f1 f2:Ent) (vt vr:Value),lF fs ⟨191,[],[(8,Pt b8),(7,Pt b7),(6,Pt b6),(5,Pt b5),(4,Pt b4),(3,Pt b3),(2,Pt b2)]⟩∧T.length≤3∧R.length≤4∧cN 2 vt (fbc T).flatten f1∧cN 7 vr (lgc R).flatten f2∧St H1 w (f2::f1::e2:: .blk b8 [I z1,I z2,I z3]:: .blk b7 [vr]:: .blk b6 [I x1,I x2,vt,.slice asn l.seasons.length csn]:: .blk b5 (svC s (.slice aa s.sp.st.length ca) (.slice ab s.sp.wa.length cb) (.slice ac s.rs.length cc) (.slice ad s.cs.length cd)):: .blk b4 [.slice none 0 0]:: .blk b3 [I 0,I 0,.slice none 0 0,.slice none 0 0]:: .blk b2 [I 0,I 0,.slice none 0 0,.slice none 0 0,I 0,I 0,.slice none 0 0,.slice none 0 0]::σ)) ?_ ?_)
 ·refine .aj (.z (zia 0 aD ai) (.y hs (zld ae) (.o (.call fh rfl (db hs ak) ?_))));rintro _ w ⟨rfl,hs⟩
  refine .nil (.block (.aj (.z fF (.zn zg (.bn rfl (fun hc38=>?_) (fun hc38=>?_))))))
  ·refine .region (.z (zia 2 aD ai) (.y hs (zld ae) (.z (zfa eg) (.o (.store hs rfl rfl ai fun w hs=>?_)))))
   refine .nil (nB (nT ?_))
   exact ⟨z3,l.depth,l.table,r,_,_,_,_,a6,ak,hR4,hO1,hO3,hs.sb⟩
  ·refine .aj (.z fF (.zn zg (.bn rfl (fun hc43=>?_) (fun hc43=>?_))))
   ·refine .region (.z (zia 2 aD ai) (.y hs (zld ae) (.z (zfa iC) (.o (.store hs rfl rfl ai fun w hs=>?_)))))
    refine .nil (nB (nT ?_))
    exact ⟨l.length,z3,l.table,r,_,_,_,_,a6,ak,hR4,hO1,hO3,hs.sb⟩
   ·refine .aj (.z fF (.zn zg (.bn rfl (fun hc48=>?_) (fun hc48=>?_))))
    ·refine .region (.z (zfa cK) (.y hs (zld eb) (.z zm (.z (zia 2 aD ai) (.y hs (zld ae) ?_)))))
     first|(refine .ixw hs aZ bE ?_;intro b55 o55 hc55)|refine .z (mw aZ bE) ?_
     refine .z (zfa bO) (.o (.store (c':=((l.table.set k {fT with len:=z3}).map Fbd.c).flatten++spT) hs rfl rfl ai ?_ dz (gR (enc:=Fbd.c) (fun _=>rfl) ak dL spT) (gM (enc:=Fbd.c) (fun _=>rfl) hxT dL rfl spT)));intro w hs
     refine .nil (nB (nT ?_))
     exact ⟨l.length,l.depth,l.table.set k {fT with len:=z3},r,_,_,_,_,a6,by rw [List.length_set];omega,hR4,gO (enc:=Fbd.c) (fun _=>rfl) hO1,hO3,hs.sb⟩
    ·refine .aj (.z fF (.zn zg (.bn rfl (fun hc57=>?_) (fun hc57=>?_))))
     ·refine .region (.z (zfa cK) (.y hs (zld eb) (.z zm (.z (zia 2 aD ai) (.y hs (zld ae) ?_)))))
      first|(refine .ixw hs aZ bE ?_;intro b64 o64 hc64)|refine .z (mw aZ bE) ?_
      refine .z (zfa dB) (.o (.store (c':=((l.table.set k {fT with least:=z3}).map Fbd.c).flatten++spT) hs rfl rfl ai ?_ dz (gR (enc:=Fbd.c) (fun _=>rfl) ak dL spT) (gM (enc:=Fbd.c) (fun _=>rfl) hxT dL rfl spT)));intro w hs
      refine .nil (nB (nT ?_))
      exact ⟨l.length,l.depth,l.table.set k {fT with least:=z3},r,_,_,_,_,a6,by rw [List.length_set];omega,hR4,gO (enc:=Fbd.c) (fun _=>rfl) hO1,hO3,hs.sb⟩
     ·refine .aj (.z fF (.zn zg (.bn rfl (fun hc66=>?_) (fun hc66=>?_))))
      ·refine .region (.z (zfa bH) (.y hs (zld bY) (.z zm (.z (zia 2 aD ai) (.y hs (zld ae) ?_)))))
       first|(refine .ixw hs aF aN ?_;intro b73 o73 hc73)|refine .z (mw aF aN) ?_
       refine .z (zfa kF) (.o (.store (c':=((r.set i {fR with zone:=z3}).map Lg.c).flatten++spR) hs rfl rfl ai ?_ dz (gR (enc:=Lg.c) (fun _=>rfl) ak dL spR) (gM (enc:=Lg.c) (fun _=>rfl) hxR dL rfl spR)));intro w hs
       refine .nil (nB (nT ?_))
       exact ⟨l.length,l.depth,l.table,r.set i {fR with zone:=z3},_,_,_,_,a6,ak,by rw [List.length_set];exact hR4,hO1,gO (enc:=Lg.c) (fun _=>rfl) hO3,hs.sb⟩
      ·refine .aj (.z fF (.zn zg (.bn rfl (fun hc75=>?_) (fun hc75=>?_))))
       ·refine .region (.z (zfa bH) (.y hs (zld bY) (.z zm (.z (zia 2 aD ai) (.y hs (zld ae) ?_)))))
        first|(refine .ixw hs aF aN ?_;intro b82 o82 hc82)|refine .z (mw aF aN) ?_
        refine .z (zfa fl) (.o (.store (c':=((r.set i {fR with fr:=z3}).map Lg.c).flatten++spR) hs rfl rfl ai ?_ dz (gR (enc:=Lg.c) (fun _=>rfl) ak dL spR) (gM (enc:=Lg.c) (fun _=>rfl) hxR dL rfl spR)));intro w hs
        refine .nil (nB (nT ?_))
        exact ⟨l.length,l.depth,l.table,r.set i {fR with fr:=z3},_,_,_,_,a6,ak,by rw [List.length_set];exact hR4,hO1,gO (enc:=Lg.c) (fun _=>rfl) hO3,hs.sb⟩
       ·refine .aj (.z fF (.zn zg (.bn rfl (fun hc84=>?_) (fun hc84=>?_))))
        ·refine .region (.z (zfa bH) (.y hs (zld bY) (.z zm (.z (zia 2 aD ai) (.y hs (zld ae) ?_)))))
         first|(refine .ixw hs aF aN ?_;intro b91 o91 hc91)|refine .z (mw aF aN) ?_
         refine .z (zfa fk) (.o (.store (c':=((r.set i {fR with to:=z3}).map Lg.c).flatten++spR) hs rfl rfl ai ?_ dz (gR (enc:=Lg.c) (fun _=>rfl) ak dL spR) (gM (enc:=Lg.c) (fun _=>rfl) hxR dL rfl spR)));intro w hs
         refine .nil (nB (nT ?_))
         exact ⟨l.length,l.depth,l.table,r.set i {fR with to:=z3},_,_,_,_,a6,ak,by rw [List.length_set];exact hR4,hO1,gO (enc:=Lg.c) (fun _=>rfl) hO3,hs.sb⟩
        ·refine .aj (.z fF (.zn zg (.bn rfl (fun hc93=>?_) (fun hc93=>?_))))
         ·refine .region (.z (zfa bH) (.y hs (zld bY) (.z zm (.z (zia 2 aD ai) (.y hs (zld ae) ?_)))))
          first|(refine .ixw hs aF aN ?_;intro b100 o100 hc100)|refine .z (mw aF aN) ?_
          refine .z (zfa fj) (.z (zfa bN) (.o (.store (c':=((r.set i {fR with dlo:=z3}).map Lg.c).flatten++spR) hs rfl rfl ai ?_ dz (gR (enc:=Lg.c) (fun _=>rfl) ak dL spR) (gM (enc:=Lg.c) (fun _=>rfl) hxR dL rfl spR))));intro w hs
          refine .nil (nB (nT ?_))
          exact ⟨l.length,l.depth,l.table,r.set i {fR with dlo:=z3},_,_,_,_,a6,ak,by rw [List.length_set];exact hR4,hO1,gO (enc:=Lg.c) (fun _=>rfl) hO3,hs.sb⟩
         ·refine .aj (.z fF (.zn zg (.bn rfl (fun hc103=>?_) (fun hc103=>?_))))
          ·refine .region (.z (zfa bH) (.y hs (zld bY) (.z zm (.z (zia 2 aD ai) (.y hs (zld ae) ?_)))))
           first|(refine .ixw hs aF aN ?_;intro b110 o110 hc110)|refine .z (mw aF aN) ?_
           refine .z (zfa fj) (.z (zfa cj) (.o (.store (c':=((r.set i {fR with dhi:=z3}).map Lg.c).flatten++spR) hs rfl rfl ai ?_ dz (gR (enc:=Lg.c) (m:=7) (k:=i) (j:=4) (fun _=>rfl) ak dL spR) (gM (enc:=Lg.c) (m:=7) (k:=i) (j:=4) (x':={fR with dhi:=z3}) (v:=I z3) (fun _=>rfl) hxR dL rfl spR))));intro w hs
           refine .nil (nB (nT ?_))
           exact ⟨l.length,l.depth,l.table,r.set i {fR with dhi:=z3},_,_,_,_,a6,ak,by rw [List.length_set];exact hR4,hO1,gO (enc:=Lg.c) (fun _=>rfl) hO3,hs.sb⟩
          ·refine .aj (.z fF (.zn zg (.bn rfl (fun hc113=>?_) (fun hc113=>?_))))
           ·refine .region (.z (zfa bH) (.y hs (zld bY) (.z zm (.z (zia 2 aD ai) (.y hs (zld ae) ?_)))))
            first|(refine .ixw hs aF aN ?_;intro b120 o120 hc120)|refine .z (mw aF aN) ?_
            refine .z (zfa fH) (.z (zfa bN) (.o (.store (c':=((r.set i {fR with blo:=z3}).map Lg.c).flatten++spR) hs rfl rfl ai ?_ dz (gR (enc:=Lg.c) (fun _=>rfl) ak dL spR) (gM (enc:=Lg.c) (fun _=>rfl) hxR dL rfl spR))));intro w hs
            refine .nil (nB (nT ?_))
            exact ⟨l.length,l.depth,l.table,r.set i {fR with blo:=z3},_,_,_,_,a6,ak,by rw [List.length_set];exact hR4,hO1,gO (enc:=Lg.c) (fun _=>rfl) hO3,hs.sb⟩
           ·refine .aj (.z fF (.zn zg (.bn rfl (fun hc123=>?_) (fun hc123=>?_))))
            ·refine .region (.z (zfa bH) (.y hs (zld bY) (.z zm (.z (zia 2 aD ai) (.y hs (zld ae) ?_)))))
             first|(refine .ixw hs aF aN ?_;intro b130 o130 hc130)|refine .z (mw aF aN) ?_
             refine .z (zfa fH) (.z (zfa cj) (.o (.store (c':=((r.set i {fR with bhi:=z3}).map Lg.c).flatten++spR) hs rfl rfl ai ?_ dz (gR (enc:=Lg.c) (m:=7) (k:=i) (j:=6) (fun _=>rfl) ak dL spR) (gM (enc:=Lg.c) (m:=7) (k:=i) (j:=6) (x':={fR with bhi:=z3}) (v:=I z3) (fun _=>rfl) hxR dL rfl spR))));intro w hs
             refine .nil (nB (nT ?_))
             exact ⟨l.length,l.depth,l.table,r.set i {fR with bhi:=z3},_,_,_,_,a6,ak,by rw [List.length_set];exact hR4,hO1,gO (enc:=Lg.c) (fun _=>rfl) hO3,hs.sb⟩
            ·refine .aj (.z fF (.zn zg (.bn rfl (fun hc133=>?_) (fun hc133=>?_))))
             ·refine .region (.z (zfa bH) (.o (.store hs rfl rfl nv fun w hs=>?_)))
              refine .nil (nB (nT ?_))
              exact ⟨l.length,l.depth,l.table,[],_,.nul,_,_,a6,ak,bT,hO1,.nil 7 none,hs.nul.sb⟩
             ·refine .aj (.z fF (.zn zg (.bn rfl (fun hc136=>?_) (fun hc136=>?_))))
              ·refine .region (.z (zfa cK) (.o (.store hs rfl rfl Tryz.sizeOf22 fun w hs=>?_)))
               refine .nil (nB (nT ?_))
               exact ⟨l.length,l.depth,[],r,.nul,_,_,_,a6,bT,hR4,.nil 2 none,hO3,hs.nul.sb⟩
              ·refine .skip (nB (nT ?_))
               exact ⟨l.length,l.depth,l.table,r,_,_,_,_,a6,ak,hR4,hO1,hO3,hs.sb⟩
 ·clear hs hO1 hO3
  rintro fs w ⟨x1,x2,T,R,f1,f2,vt,vr,hfs,hT3,hR4',hO1,hO3,hs⟩
  refine WE.sub ?_ hfs
  clear hfs
  obtain ⟨aT,cT,rfl⟩:=hO1.je (FB _) ak
  obtain ⟨aR,cR,rfl⟩:=hO3.je (AM _) ak
  rw [pA] at hO1 hs
  rw [lC] at hO3 hs
  refine .cut (fun fs w=>∃(S:List Ssn) (f3:Ent) (vq:Value),lF fs ⟨191,[],[(7,Pt b7),(6,Pt b6),(5,Pt b5),(4,Pt b4),(3,Pt b3),(2,Pt b2)]⟩∧S.length≤4∧cN 4 vq (snc S).flatten f3∧St H1 w (f2::f1::f3:: .blk b7 [.slice aR R.length cR]:: .blk b6 [I x1,I x2,.slice aT T.length cT,vq]:: .blk b5 (svC s (.slice aa s.sp.st.length ca) (.slice ab s.sp.wa.length cb) (.slice ac s.rs.length cc) (.slice ad s.cs.length cd)):: .blk b4 [.slice none 0 0]:: .blk b3 [I 0,I 0,.slice none 0 0,.slice none 0 0]:: .blk b2 [I 0,I 0,.slice none 0 0,.slice none 0 0,I 0,I 0,.slice none 0 0,.slice none 0 0]::σ)) ?_ ?_
  ·refine .aj (.z (zfa cU) (.y hs (zld eF) (.z (da bu) (.zn k7 (.bn rfl (fun hc142=>?_) (fun hc142=>?_))))))
   ·refine .aj (.z (zia 1 aD ai) (.y hs (zld ae) (.z (zfa cU) (.y hs (zld eF) (.z (da bu) ?_)))))
    have hL4:=hL.sns
    obtain ⟨bS,cS,spS,hv,rfl,hcS⟩:=hO2.FO (zh _) ak (by rw [lB];omega)
    simp only [Value.slice.injEq] at hv
    obtain ⟨rfl,hv2,rfl⟩:=hv
    have hbj:=lP z2 (m:=(l.seasons.length:Int)) ak
    refine .o (.call fh rfl (db hs ak) ?_);rintro _ w ⟨rfl,hs⟩
    generalize so z2 (l.seasons.length:Int)=jj at*
    obtain ⟨j,rfl⟩:∃j:Nat,jj=(j:Int):=⟨jj.toNat,ak⟩
    obtain ⟨fS,hxS⟩:=nth (l:=l.seasons) (k:=j) ak
    refine .zn zg (.aj (.z (zia 0 aD ai) (.y hs (zld ae) (.o (.call fh rfl (db hs ak) ?_)))));rintro _ w ⟨rfl,hs⟩
    refine .nil (.block (.aj (.z fF (.zn zg (.bn rfl (fun hc152=>?_) (fun hc152=>?_))))))
    ·refine .region (.z (zfa cU) (.y hs (zld eF) (.z zm (.z (zia 2 aD ai) (.y hs (zld ae) ?_)))))
     first|(refine .ixw hs bu cE ?_;intro b159 o159 hc159)|refine .z (mw bu cE) ?_
     refine .z (zfa iW) (.o (.store (c':=((l.seasons.set j {fS with zone:=z3}).map Ssn.c).flatten++spS) hs rfl rfl ai ?_ dz (gR (enc:=Ssn.c) (fun _=>rfl) ak dL spS) (gM (enc:=Ssn.c) (fun _=>rfl) hxS dL rfl spS)));intro w hs
     refine .nil (nB (nT ?_))
     exact ⟨l.seasons.set j {fS with zone:=z3},_,_,a6,by rw [List.length_set];omega,gO (enc:=Ssn.c) (fun _=>rfl) hO2,hs.sb⟩
    ·refine .aj (.z fF (.zn zg (.bn rfl (fun hc161=>?_) (fun hc161=>?_))))
     ·refine .region (.z (zfa cU) (.y hs (zld eF) (.z zm (.z (zia 2 aD ai) (.y hs (zld ae) ?_)))))
      first|(refine .ixw hs bu cE ?_;intro b168 o168 hc168)|refine .z (mw bu cE) ?_
      refine .z (zfa eI) (.o (.store (c':=((l.seasons.set j {fS with fr:=z3}).map Ssn.c).flatten++spS) hs rfl rfl ai ?_ dz (gR (enc:=Ssn.c) (fun _=>rfl) ak dL spS) (gM (enc:=Ssn.c) (fun _=>rfl) hxS dL rfl spS)));intro w hs
      refine .nil (nB (nT ?_))
      exact ⟨l.seasons.set j {fS with fr:=z3},_,_,a6,by rw [List.length_set];omega,gO (enc:=Ssn.c) (fun _=>rfl) hO2,hs.sb⟩
     ·refine .aj (.z fF (.zn zg (.bn rfl (fun hc170=>?_) (fun hc170=>?_))))
      ·refine .region (.z (zfa cU) (.y hs (zld eF) (.z zm (.z (zia 2 aD ai) (.y hs (zld ae) ?_)))))
       first|(refine .ixw hs bu cE ?_;intro b177 o177 hc177)|refine .z (mw bu cE) ?_
       refine .z (zfa eH) (.o (.store (c':=((l.seasons.set j {fS with to:=z3}).map Ssn.c).flatten++spS) hs rfl rfl ai ?_ dz (gR (enc:=Ssn.c) (fun _=>rfl) ak dL spS) (gM (enc:=Ssn.c) (fun _=>rfl) hxS dL rfl spS)));intro w hs
       refine .nil (nB (nT ?_))
       exact ⟨l.seasons.set j {fS with to:=z3},_,_,a6,by rw [List.length_set];omega,gO (enc:=Ssn.c) (fun _=>rfl) hO2,hs.sb⟩
      ·refine .aj (.z fF (.zn zg (.bn rfl (fun hc179=>?_) (fun hc179=>?_))))
       ·refine .region (.z (zfa cU) (.y hs (zld eF) (.z zm (.z (zia 2 aD ai) (.y hs (zld ae) ?_)))))
        first|(refine .ixw hs bu cE ?_;intro b186 o186 hc186)|refine .z (mw bu cE) ?_
        refine .z (zfa iV) (.o (.store (c':=((l.seasons.set j {fS with extra:=z3}).map Ssn.c).flatten++spS) hs rfl rfl ai ?_ dz (gR (enc:=Ssn.c) (fun _=>rfl) ak dL spS) (gM (enc:=Ssn.c) (fun _=>rfl) hxS dL rfl spS)));intro w hs
        refine .nil (nB (nT ?_))
        exact ⟨l.seasons.set j {fS with extra:=z3},_,_,a6,by rw [List.length_set];omega,gO (enc:=Ssn.c) (fun _=>rfl) hO2,hs.sb⟩
       ·refine .skip (nB (nT ?_))
        exact ⟨l.seasons,_,_,a6,ak,hO2,hs.sb⟩
   ·refine .skip (nT ?_)
    exact ⟨l.seasons,_,_,a6,ak,hO2,hs.sb⟩
  ·have hL4:=hL.sns
   clear hs hO2
   rintro fs w ⟨S,f3,vq,hfs,hS4,hO2,hs⟩
   refine WE.sub ?_ hfs
   clear hfs
   obtain ⟨aS,cS,rfl⟩:=hO2.je (zh _) ak
   rw [lB] at hO2 hs
   refine .cut (fun fs w=>lF fs ⟨191,[],[(4,Pt b4),(3,Pt b3),(2,Pt b2)]⟩∧St H1 w (f2::f1::f3:: .blk b4 [.slice aR R.length cR]:: .blk b3 [I x1,I x2,.slice aT T.length cT,.slice aS S.length cS]:: .blk b2 (svC s (.slice aa s.sp.st.length ca) (.slice ab s.sp.wa.length cb) (.slice ac s.rs.length cc) (.slice ad s.cs.length cd))::σ)) ?_ ?_
   ·refine .draw mix rfl hs fun w hs=>?_
    refine .ys 0 rfl hs [_,_,_,_,_,_,_,_] aQ aC ?_;refine .ys 1 rfl hs [_,_,_,_] bB aW ?_;refine .ys 2 rfl hs [_] cH bA ?_
    refine .E 3 hs ?_
    refine .aU (vs:=[_,_,_,_,_,_,_,_]) hs rfl rfl aC ?_;intro w hs
    refine .go (.E 4 hs ?_)
    refine .aU (vs:=[_,_,_,_]) hs rfl rfl aW ?_;intro w hs
    refine .go (.E 5 hs ?_)
    refine .aU (vs:=[_]) hs rfl rfl bA ?_;intro w hs
    refine .go (.D hs ?_)
    exact nT ⟨a6,hs.sb⟩
   ·rintro fs w ⟨hfs,hs⟩
    refine WE.sub ?_ hfs
    clear hfs
    refine .ret ?_
    obtain ⟨H2,q2,p2,hs⟩:=cN.cQ (m:=7) hO3 (AM _) ak (by rw [lC];omega) hs .here
    obtain ⟨H3,q3,p3,hs⟩:=cN.cQ (m:=2) hO1 (FB _) ak (by rw [pA];omega) hs .here
    obtain ⟨H4,q4,p4,hs⟩:=cN.cQ (m:=4) hO2 (zh _) ak (by rw [lB];omega) hs .here
    have k3:=q3.trans q4
    have k2:=q2.trans k3
    exact Fin.jt [] [] hs fun w hs=>⟨_,results3 Tryz.results23 (dK (vs:=svC s (.slice aa s.sp.st.length ca) (.slice ab s.sp.wa.length cb) (.slice ac s.rs.length cc) (.slice ad s.cs.length cd)) hs rfl aQ aC) (dK (vs:=[I x1,I x2,.slice aT T.length cT,.slice aS S.length cS]) hs rfl bB aW) (dK (vs:=[.slice aR R.length cR]) hs rfl cH bA),H4,s,_,_,_,_,⟨x1,x2,T,S⟩,_,_,R,_,hle1.trans k2,rfl,hSv.mono k2,⟨RFb.mono p3 q4,p4⟩,RLg.mono p2 k3,hSpl,hs.out⟩
end Go.Proofs.YteajddicacjkhaaGreat
