/-
  Texts of these claims, joined: Nb Nc Nd.
-/
import Derived.Test.YtddaejgfjlneoaaGreatCe
namespace Go.Proofs.YtddaejgfjlneoaaGreat
open Go.MW
structure Spl(s:Srv):Prop where
 st:2≤s.sp.st.length∧s.sp.st.length≤4
 wa:2≤s.sp.wa.length∧s.sp.wa.length≤3
 rs:s.rs.length≤15
 cs:s.cs.length≤5
theorem yT{b n cap k:Nat}{xs:List Int}{sp:List Value}(h:cu 1 (.slice (some ⟨b,0,none⟩) n cap) (Is xs) (.blk b (Is xs++sp)))(x:Int):
  cu 1 (.slice (some ⟨b,0,none⟩) n cap) (Is (xs.set k x)) (.blk b (Is (xs.set k x)++sp)):=by
 rcases h with ⟨a,_,_,h3⟩|⟨b',len,cap',sp',h1,h2,h3,h4,h5⟩
 ·cases h3
 ·simp only [Value.slice.injEq] at h1
  obtain ⟨-,rfl,rfl⟩:=h1
  simp only [Ent.blk.injEq] at h2
  rw [←h2.2] at h4
  exact .inr ⟨b,n,cap,sp,rfl,rfl,by simpa [Is] using h3,by simpa [Is] using h4,h5⟩
theorem j9{l:List Rdg}{k j:Nat}{r r':Rdg}(h:l[k]? =some r)(hj:j<7){v:Value}(hc:r.c.set j v=r'.c)(sp:List Value):((rdc l).flatten++sp).set (k*7+j) v=(rdc (l.set k r')).flatten++sp:=by
 have hk:=(List.getElem?_eq_some_iff.1 h).1
 rw [List.set_append_left _ _ (by rw [bZ _ (iH _),db];omega),sm (rdc l) k j v (iH l) (by rw [db];exact hk) hj r.c (vu h),hc]
 unfold rdc
 rw [List.map_set]
theorem kb{b n cap k:Nat}{R:List Rdg}{r':Rdg}{sp:List Value}(h:cu 7 (.slice (some ⟨b,0,none⟩) n cap) (rdc R).flatten (.blk b ((rdc R).flatten++sp))):
  cu 7 (.slice (some ⟨b,0,none⟩) n cap) (rdc (R.set k r')).flatten (.blk b ((rdc (R.set k r')).flatten++sp)):=by
 have hl:(rdc (R.set k r')).flatten.length=(rdc R).flatten.length:=by
  rw [bZ _ (iH _),bZ _ (iH _),db,db,List.length_set]
 rcases h with ⟨a,_,_,h3⟩|⟨b',len,cap',sp',h1,h2,h3,h4,h5⟩
 ·cases h3
 ·simp only [Value.slice.injEq] at h1
  obtain ⟨-,rfl,rfl⟩:=h1
  simp only [Ent.blk.injEq] at h2
  rw [←h2.2] at h4
  exact .inr ⟨b,n,cap,sp,rfl,rfl,by rw [hl];exact h3,by rw [List.length_append,hl,←List.length_append];exact h4,h5⟩
theorem pZ{l:List Cmp}{k j:Nat}{r r':Cmp}(h:l[k]? =some r)(hj:j<6){v:Value}(hc:r.c.set j v=r'.c)(sp:List Value):((cmc l).flatten++sp).set (k*6+j) v=(cmc (l.set k r')).flatten++sp:=by
 have hk:=(List.getElem?_eq_some_iff.1 h).1
 rw [List.set_append_left _ _ (by rw [bZ _ (qQ _),ff];omega),sm (cmc l) k j v (qQ l) (by rw [ff];exact hk) hj r.c (Ec h),hc]
 unfold cmc
 rw [List.map_set]
theorem pI{b n cap k:Nat}{R:List Cmp}{r':Cmp}{sp:List Value}(h:cu 6 (.slice (some ⟨b,0,none⟩) n cap) (cmc R).flatten (.blk b ((cmc R).flatten++sp))):
  cu 6 (.slice (some ⟨b,0,none⟩) n cap) (cmc (R.set k r')).flatten (.blk b ((cmc (R.set k r')).flatten++sp)):=by
 have hl:(cmc (R.set k r')).flatten.length=(cmc R).flatten.length:=by
  rw [bZ _ (qQ _),bZ _ (qQ _),ff,ff,List.length_set]
 rcases h with ⟨a,_,_,h3⟩|⟨b',len,cap',sp',h1,h2,h3,h4,h5⟩
 ·cases h3
 ·simp only [Value.slice.injEq] at h1
  obtain ⟨-,rfl,rfl⟩:=h1
  simp only [Ent.blk.injEq] at h2
  rw [←h2.2] at h4
  exact .inr ⟨b,n,cap,sp,rfl,rfl,by rw [hl];exact h3,by rw [List.length_append,hl,←List.length_append];exact h4,h5⟩
set_option maxHeartbeats 2000000 in
theorem jn{H:bn}{w:World}{σ:List Ent}{vs v5 v4 vp:Value}{sl pk:List Int}{fs5:List F5}{fs4:List F4}{z1 z2 z3:Int}(hs:St H w σ)(g1:RI H vs sl)(g2:RF5 H v5 fs5)(g3:RF4 H v4 fs4)(g4:RI H vp pk):
  Cl Tryz.prog 23 [.agg #[vs,v5,v4,vp,I z1,I z2,I z3]] w fun u w'=>∃H1 s vst vwa vr vc,HLe H H1∧u= .agg #[I s.sp.id,I s.sp.src,vst,vwa,I s.sp.al,I s.sp.up,vr,vc]∧RI H1 vst s.sp.st∧RI H1 vwa s.sp.wa∧RRd H1 vr s.rs∧RCm H1 vc s.cs∧Spl s∧St H1 w' σ:=by
 obtain ⟨avs,cvs,rfl⟩:=RI.shape g1
 obtain ⟨av5,cv5,rfl⟩:=g2.shape
 obtain ⟨av4,cv4,rfl⟩:=g3.shape
 obtain ⟨avp,cvp,rfl⟩:=RI.shape g4
 refine Cl.of Tryz.func23 rfl Tryz.ntmps23 (by simp) (aj (k:=0) rfl (bh)) ?_
 refine .ai ?_
 refine .o (.box hs rfl rfl ?_);intro b1 w hs
 refine .o (.alloc hs dy rfl ?_);intro b2 w hs
 refine .nil (.ai (.y hs (zls [_,_,_,_,_,_,_] Aa xF) ?_))
 refine .o (.call Tryz.call60 rfl (ud hs g1 g2 g3 g4) ?_);rintro _ w ⟨H1,s,y,vst,vwa,vr,vc,vy,e1,e2,e3,e4,e5,hle1,rfl,hM,⟨hO1,hO2,hO3,hO4⟩,hOy,-,hs⟩
 have hst2:=hM.ok.early.1.st.two
 have hwa2:=hM.ok.early.1.wa.two
 have hst4:=hM.st
 have hwa3:=hM.wa
 have hrs:=hM.rs
 have hcs:=hM.cs
 obtain ⟨bS,cS,spS,rfl,rfl,hcapS⟩:=hO1.some (by omega)
 obtain ⟨bW,cW,spW,rfl,rfl,hcapW⟩:=hO2.some (by omega)
 obtain ⟨ar,cr,rfl⟩:=hO3.kj (iH _) (by omega)
 obtain ⟨ac,cc,rfl⟩:=hO4.kj (qQ _) (by omega)
 rw [db] at hO3 ⊢
 rw [ff] at hO4 ⊢
 obtain ⟨ay,ly,cy,rfl,-⟩:=hOy.shape
 refine .z zm (.z zex (.z zex ?_))
 refine .o (.alloc hs dy rfl ?_);intro b3 w hs
 refine .o (.aS (vs:=[_,_,_,_,_,_,_,_]) hs rfl rfl aD ?_);intro w hs
 refine .z zg (.nil (.ai (.z (zfa nr) (.y hs (zls [_,_,_] Tryz.isAgg25 xG) ?_))))
 refine .o (.alloc hs Tryz.zeroValue25 rfl ?_);intro b5 w hs
 refine .o (.aS (vs:=[_,_,_]) hs rfl rfl xG ?_);intro w hs
 refine .nil (.ai ?_)
 first|refine .q hs (dI (k:=0) rfl rfl aq ae rfl (by decide)) ?_|refine .q hs (fb (k:=0) rfl rfl aq ae rfl (by decide)) ?_
 refine .y hs (zld af) ?_
 refine .o (.call cf rfl (bO hs (by omega)) ?_);rintro _ w ⟨k,gk,rfl,hs⟩
 refine .z zg (.nil ?_)
 refine .cut (fun fs w=>∃(sp':Spc) (f1 f2:Ent),kJ fs ⟨225,[],[(6,I (k:Int)),(5,.pointer (some ⟨b5,0,none⟩)),(3,.pointer (some ⟨b3,0,none⟩)),(2,.pointer (some ⟨b2,0,none⟩)),(1,.pointer (some ⟨b1,0,none⟩))]⟩∧sp'.st.length=s.sp.st.length∧sp'.wa.length=s.sp.wa.length∧cu 1 (.slice (some ⟨bS,0,none⟩) s.sp.st.length cS) (Is sp'.st) f1∧cu 1 (.slice (some ⟨bW,0,none⟩) s.sp.wa.length cW) (Is sp'.wa) f2∧St H1 w (f1::f2::e3::e4:: .blk b5 [I z1,I z2,I z3]:: .blk b3 [I sp'.id,I sp'.src,.slice (some ⟨bS,0,none⟩) s.sp.st.length cS,.slice (some ⟨bW,0,none⟩) s.sp.wa.length cW,I sp'.al,I sp'.up,.slice ar s.rs.length cr,.slice ac s.cs.length cc]:: .blk b2 [I 0,I 0,.slice none 0 0,.slice none 0 0,I 0,I 0,.slice none 0 0,.slice none 0 0]::σ)) ?_ ?_
 ·refine .ai (.z zm (.nil (.block (.ai (.z fA (.z zg (.nil ?_)))))))
  refine (.bJ rfl (fun hc21=>?_) (fun hc21=>?_))
  ·refine .region ?_
   first|refine .q hs (dI (k:=2) rfl rfl aq ae rfl (by decide)) ?_|refine .q hs (fb (k:=2) rfl rfl aq ae rfl (by decide)) ?_
   refine .y hs (zld af) (.z (zfa aR) (.z (zfa lh) ?_))
   refine .o (.store hs rfl rfl ae ?_);intro w hs
   refine .nil ?_
   refine nB (nT ?_)
   exact ⟨{s.sp with id:=z3},_,_,by repeat (first|exact .nil rfl rfl|refine .cons rfl ?_),rfl,rfl,hO1,hO2,hs.sub (by repeat (first|exact Sub.refl _|constructor|apply Sub.weaken))⟩
  ·refine .ai (.z fA (.z zg (.nil ?_)))
   refine (.bJ rfl (fun hc27=>?_) (fun hc27=>?_))
   ·refine .region ?_
    first|refine .q hs (dI (k:=2) rfl rfl aq ae rfl (by decide)) ?_|refine .q hs (fb (k:=2) rfl rfl aq ae rfl (by decide)) ?_
    refine .y hs (zld af) (.z (zfa aR) (.z (zfa dm) ?_))
    refine .o (.store hs rfl rfl ae ?_);intro w hs
    refine .nil ?_
    refine nB (nT ?_)
    exact ⟨{s.sp with src:=z3},_,_,by repeat (first|exact .nil rfl rfl|refine .cons rfl ?_),rfl,rfl,hO1,hO2,hs.sub (by repeat (first|exact Sub.refl _|constructor|apply Sub.weaken))⟩
   ·refine .ai (.z fA (.z zg (.nil ?_)))
    refine (.bJ rfl (fun hc33=>?_) (fun hc33=>?_))
    ·refine .draw mix rfl hs ?_;intro w hs
     refine .z 0 rfl (zfa aR) ?_;refine .z 1 rfl (zfa bA) ?_;refine .y 2 rfl hs ak ?_
     first|refine .p (i:=3) rfl (by kernel_rfl) .none (dI (k:=1) rfl rfl aq ae rfl (by decide)) ?_|refine .p (i:=3) rfl (by kernel_rfl) .none (fb (k:=1) rfl rfl aq ae rfl (by decide)) ?_
     refine .y 4 rfl hs af ?_;refine .z 5 rfl (zfa aR) ?_;refine .z 6 rfl (zfa bA) ?_;refine .y 7 rfl hs ak ?_;refine .z 8 rfl (cM aa) ?_
     first|refine .p (i:=10) rfl (by kernel_rfl) .none (dI (k:=2) rfl rfl aq ae rfl (by decide)) ?_|refine .p (i:=10) rfl (by kernel_rfl) .none (fb (k:=2) rfl rfl aq ae rfl (by decide)) ?_
     refine .y 11 rfl hs af ?_
     refine .e1 (i:=9) (by kernel_rfl) rfl rfl .none hs ?_
     refine .call cf rfl (bO hs (by omega)) ?_;rintro _ w ⟨k44,g44,rfl,hs⟩
     refine .go ?_
     first|(refine .ixv 12 rfl hs aa ae ?_;intro b47 o47 hc47)|refine .z 12 rfl (zix aa ae) ?_
     refine .e1 (i:=13) (by kernel_rfl) rfl rfl .none hs ?_
     refine .store (c':=Is (s.sp.st.set k44 z3)++spS) hs rfl rfl ae ?_ (by repeat constructor) (kz (by omega) spS) (gY (by omega) spS _);intro w hs
     refine .go ?_
     refine .done (by kernel_rfl) hs ?_
     refine nB (nT ?_)
     exact ⟨{s.sp with st:=s.sp.st.set k44 z3},_,_,by repeat (first|exact .nil rfl rfl|refine .cons rfl ?_),by simp,rfl,yT hO1 _,hO2,hs.sub (by repeat (first|exact Sub.refl _|constructor|apply Sub.weaken))⟩
    ·refine .ai (.z fA (.z zg (.nil ?_)))
     refine (.bJ rfl (fun hc48=>?_) (fun hc48=>?_))
     ·refine .draw mix rfl hs ?_;intro w hs
      refine .z 0 rfl (zfa aR) ?_;refine .z 1 rfl (zfa bg) ?_;refine .y 2 rfl hs ak ?_
      first|refine .p (i:=3) rfl (by kernel_rfl) .none (dI (k:=1) rfl rfl aq ae rfl (by decide)) ?_|refine .p (i:=3) rfl (by kernel_rfl) .none (fb (k:=1) rfl rfl aq ae rfl (by decide)) ?_
      refine .y 4 rfl hs af ?_;refine .z 5 rfl (zfa aR) ?_;refine .z 6 rfl (zfa bg) ?_;refine .y 7 rfl hs ak ?_;refine .z 8 rfl (cM aa) ?_
      first|refine .p (i:=10) rfl (by kernel_rfl) .none (dI (k:=2) rfl rfl aq ae rfl (by decide)) ?_|refine .p (i:=10) rfl (by kernel_rfl) .none (fb (k:=2) rfl rfl aq ae rfl (by decide)) ?_
      refine .y 11 rfl hs af ?_
      refine .e1 (i:=9) (by kernel_rfl) rfl rfl .none hs ?_
      refine .call cf rfl (bO hs (by omega)) ?_;rintro _ w ⟨k59,g59,rfl,hs⟩
      refine .go ?_
      first|(refine .ixv 12 rfl hs aa ae ?_;intro b62 o62 hc62)|refine .z 12 rfl (zix aa ae) ?_
      refine .e1 (i:=13) (by kernel_rfl) rfl rfl .none hs ?_
      refine .store (c':=Is (s.sp.wa.set k59 z3)++spW) hs rfl rfl ae ?_ (by repeat constructor) (kz (by omega) spW) (gY (by omega) spW _);intro w hs
      refine .go ?_
      refine .done (by kernel_rfl) hs ?_
      refine nB (nT ?_)
      exact ⟨{s.sp with wa:=s.sp.wa.set k59 z3},_,_,by repeat (first|exact .nil rfl rfl|refine .cons rfl ?_),rfl,by simp,hO1,yT hO2 _,hs.sub (by repeat (first|exact Sub.refl _|constructor|apply Sub.weaken))⟩
     ·refine .ai (.z fA (.z zg (.nil ?_)))
      refine (.bJ rfl (fun hc63=>?_) (fun hc63=>?_))
      ·refine .region ?_
       first|refine .q hs (dI (k:=2) rfl rfl aq ae rfl (by decide)) ?_|refine .q hs (fb (k:=2) rfl rfl aq ae rfl (by decide)) ?_
       refine .y hs (zld af) (.z (zfa aR) (.z (zfa dO) (.z (zfa iV) ?_)))
       refine .o (.store hs rfl rfl ae ?_);intro w hs
       refine .nil ?_
       refine nB (nT ?_)
       exact ⟨{s.sp with al:=z3},_,_,by repeat (first|exact .nil rfl rfl|refine .cons rfl ?_),rfl,rfl,hO1,hO2,hs.sub (by repeat (first|exact Sub.refl _|constructor|apply Sub.weaken))⟩
      ·refine .ai (.z fA (.z zg (.nil ?_)))
       refine (.bJ rfl (fun hc70=>?_) (fun hc70=>?_))
       ·refine .region ?_
        first|refine .q hs (dI (k:=2) rfl rfl aq ae rfl (by decide)) ?_|refine .q hs (fb (k:=2) rfl rfl aq ae rfl (by decide)) ?_
        refine .y hs (zld af) (.z (zfa aR) (.z (zfa dO) (.z (zfa iU) ?_)))
        refine .o (.store hs rfl rfl ae ?_);intro w hs
        refine .nil ?_
        refine nB (nT ?_)
        exact ⟨{s.sp with up:=z3},_,_,by repeat (first|exact .nil rfl rfl|refine .cons rfl ?_),rfl,rfl,hO1,hO2,hs.sub (by repeat (first|exact Sub.refl _|constructor|apply Sub.weaken))⟩
       ·refine .skip ?_
        refine nB (nT ?_)
        exact ⟨s.sp,_,_,by repeat (first|exact .nil rfl rfl|refine .cons rfl ?_),rfl,rfl,hO1,hO2,hs.sub (by repeat (first|exact Sub.refl _|constructor|apply Sub.weaken))⟩
 ·clear hs hO1 hO2
  rintro fs w ⟨sp',f1,f2,hfs,hl1,hl2,hO1,hO2,hs⟩
  refine WE.sub ?_ hfs
  clear hfs
  refine .cut (fun fs w=>∃(R:List Rdg) (f3:Ent) (ar':Option Addr) (cr':Nat),kJ fs ⟨225,[],[(6,I (k:Int)),(5,.pointer (some ⟨b5,0,none⟩)),(3,.pointer (some ⟨b3,0,none⟩)),(2,.pointer (some ⟨b2,0,none⟩))]⟩∧R.length≤15∧cu 7 (.slice ar' R.length cr') (rdc R).flatten f3∧St H1 w (f1::f2::f3::e4:: .blk b5 [I z1,I z2,I z3]:: .blk b3 [I sp'.id,I sp'.src,.slice (some ⟨bS,0,none⟩) s.sp.st.length cS,.slice (some ⟨bW,0,none⟩) s.sp.wa.length cW,I sp'.al,I sp'.up,.slice ar' R.length cr',.slice ac s.cs.length cc]:: .blk b2 [I 0,I 0,.slice none 0 0,.slice none 0 0,I 0,I 0,.slice none 0 0,.slice none 0 0]::σ)) ?_ ?_
  ·refine .ai (.z (zfa aJ) (.y hs (zld bp) (.z (cM au) (.z lk (.nil ?_)))))
   refine (.bJ rfl (fun hc80=>?_) (fun hc80=>?_))
   ·refine .ai ?_
    first|refine .q hs (dI (k:=1) rfl rfl aq ae rfl (by decide)) ?_|refine .q hs (fb (k:=1) rfl rfl aq ae rfl (by decide)) ?_
    refine .y hs (zld af) (.z (zfa aJ) (.y hs (zld bp) (.z (cM au) ?_)))
    obtain ⟨bR,cR,spR,hv,rfl,hcapR⟩:=hO3.Eo (iH _) (by omega) (by rw [db];omega)
    simp only [Value.slice.injEq] at hv
    obtain ⟨rfl,hv2,rfl⟩:=hv
    refine .o (.call cf rfl (bO hs (by omega)) ?_);rintro _ w ⟨i,gi_,rfl,hs⟩
    obtain ⟨r,hr⟩:=nth (l:=s.rs) (k:=i) (by omega)
    have hbR:∀j<7,Nat.blt (i*7+j) ((rdc s.rs).flatten++spR).length=true:=fun j hj=>Nat.ble_eq_true_of_le (by rw [List.length_append,bZ _ (iH _),db];omega)
    refine .z zg (.nil (.ai (.z zm (.nil (.block (.seq (.ai (.z fA (.z zg ?_)))))))))
    refine .nil ?_
    refine (.bJ rfl (fun hc88=>?_) (fun hc88=>?_))
    ·refine .skip ?_
     refine nT ?_
     refine (.fj rfl (by first|rfl|exact decide_eq_true (by assumption)) ?_)
     refine .region (.z (zfa aJ) (.y hs (zld bp) (.z zm ?_)))
     first|refine .q hs (dI (k:=2) rfl rfl aq ae rfl (by decide)) ?_|refine .q hs (fb (k:=2) rfl rfl aq ae rfl (by decide)) ?_
     refine .y hs (zld af) ?_
     first|(refine .ixw hs au aE ?_;intro b97 o97 hc97)|refine .z (nR au aE) ?_
     refine .z (zfa cK) ?_
     refine .o (.store (c':=(rdc (s.rs.set i {r with val:=z3})).flatten++spR) hs rfl rfl ae ?_ (by repeat constructor) (hbR 3 (by omega)) (j9 hr (by omega) rfl spR));intro w hs
     refine .nil ?_
     refine nB (nT ?_)
     exact ⟨s.rs.set i {r with val:=z3},_,some ⟨bR,0,none⟩,cr,by repeat (first|exact .nil rfl rfl|refine .cons rfl ?_),by rw [List.length_set];omega,by rw [List.length_set];exact kb hO3,by rw [List.length_set];exact hs.sub (by repeat (first|exact Sub.refl _|constructor|apply Sub.weaken))⟩
    ·refine .ai (.z fA (.z zg (.nil ?_)))
     refine (.bJ rfl (fun hc88=>?_) (fun hc88=>?_))
     ·refine .skip ?_
      refine nT ?_
      refine (.fj rfl (by first|rfl|exact decide_eq_true (by assumption)) ?_)
      refine .region (.z (zfa aJ) (.y hs (zld bp) (.z zm ?_)))
      first|refine .q hs (dI (k:=2) rfl rfl aq ae rfl (by decide)) ?_|refine .q hs (fb (k:=2) rfl rfl aq ae rfl (by decide)) ?_
      refine .y hs (zld af) ?_
      first|(refine .ixw hs au aE ?_;intro b97 o97 hc97)|refine .z (nR au aE) ?_
      refine .z (zfa cK) ?_
      refine .o (.store (c':=(rdc (s.rs.set i {r with val:=z3})).flatten++spR) hs rfl rfl ae ?_ (by repeat constructor) (hbR 3 (by omega)) (j9 hr (by omega) rfl spR));intro w hs
      refine .nil ?_
      refine nB (nT ?_)
      exact ⟨s.rs.set i {r with val:=z3},_,some ⟨bR,0,none⟩,cr,by repeat (first|exact .nil rfl rfl|refine .cons rfl ?_),by rw [List.length_set];omega,by rw [List.length_set];exact kb hO3,by rw [List.length_set];exact hs.sub (by repeat (first|exact Sub.refl _|constructor|apply Sub.weaken))⟩
     ·refine .region (.z fA (.z zg (.nil ?_)))
      refine nT ?_
      refine (.bJ rfl (fun hc88=>?_) (fun hc88=>?_))
      ·refine .region (.z (zfa aJ) (.y hs (zld bp) (.z zm ?_)))
       first|refine .q hs (dI (k:=2) rfl rfl aq ae rfl (by decide)) ?_|refine .q hs (fb (k:=2) rfl rfl aq ae rfl (by decide)) ?_
       refine .y hs (zld af) ?_
       first|(refine .ixw hs au aE ?_;intro b97 o97 hc97)|refine .z (nR au aE) ?_
       refine .z (zfa cK) ?_
       refine .o (.store (c':=(rdc (s.rs.set i {r with val:=z3})).flatten++spR) hs rfl rfl ae ?_ (by repeat constructor) (hbR 3 (by omega)) (j9 hr (by omega) rfl spR));intro w hs
       refine .nil ?_
       refine nB (nT ?_)
       exact ⟨s.rs.set i {r with val:=z3},_,some ⟨bR,0,none⟩,cr,by repeat (first|exact .nil rfl rfl|refine .cons rfl ?_),by rw [List.length_set];omega,by rw [List.length_set];exact kb hO3,by rw [List.length_set];exact hs.sub (by repeat (first|exact Sub.refl _|constructor|apply Sub.weaken))⟩
      ·refine .ai (.z fA (.z zg (.nil ?_)))
       refine (.bJ rfl (fun hc99=>?_) (fun hc99=>?_))
       ·refine .region (.z (zfa aJ) (.y hs (zld bp) (.z zm ?_)))
        first|refine .q hs (dI (k:=2) rfl rfl aq ae rfl (by decide)) ?_|refine .q hs (fb (k:=2) rfl rfl aq ae rfl (by decide)) ?_
        refine .y hs (zld af) ?_
        first|(refine .ixw hs au aE ?_;intro b106 o106 hc106)|refine .z (nR au aE) ?_
        refine .z (zfa ck) ?_
        refine .o (.store (c':=(rdc (s.rs.set i {r with tol:=z3})).flatten++spR) hs rfl rfl ae ?_ (by repeat constructor) (hbR 4 (by omega)) (j9 hr (by omega) rfl spR));intro w hs
        refine .nil ?_
        refine nB (nT ?_)
        exact ⟨s.rs.set i {r with tol:=z3},_,some ⟨bR,0,none⟩,cr,by repeat (first|exact .nil rfl rfl|refine .cons rfl ?_),by rw [List.length_set];omega,by rw [List.length_set];exact kb hO3,by rw [List.length_set];exact hs.sub (by repeat (first|exact Sub.refl _|constructor|apply Sub.weaken))⟩
       ·refine .ai (.z fA (.z zg (.nil ?_)))
        refine (.bJ rfl (fun hc108=>?_) (fun hc108=>?_))
        ·refine .region (.z (zfa aJ) (.y hs (zld bp) (.z zm ?_)))
         first|refine .q hs (dI (k:=2) rfl rfl aq ae rfl (by decide)) ?_|refine .q hs (fb (k:=2) rfl rfl aq ae rfl (by decide)) ?_
         refine .y hs (zld af) ?_
         first|(refine .ixw hs au aE ?_;intro b115 o115 hc115)|refine .z (nR au aE) ?_
         refine .z (zfa dW) ?_
         refine .o (.store (c':=(rdc (s.rs.set i {r with tape:=z3})).flatten++spR) hs rfl rfl ae ?_ (by repeat constructor) (hbR 5 (by omega)) (j9 hr (by omega) rfl spR));intro w hs
         refine .nil ?_
         refine nB (nT ?_)
         exact ⟨s.rs.set i {r with tape:=z3},_,some ⟨bR,0,none⟩,cr,by repeat (first|exact .nil rfl rfl|refine .cons rfl ?_),by rw [List.length_set];omega,by rw [List.length_set];exact kb hO3,by rw [List.length_set];exact hs.sub (by repeat (first|exact Sub.refl _|constructor|apply Sub.weaken))⟩
        ·refine .ai (.z fA (.z zg (.nil ?_)))
         refine (.bJ rfl (fun hc117=>?_) (fun hc117=>?_))
         ·refine .region (.z (zfa aJ) (.y hs (zld bp) (.z zm ?_)))
          first|refine .q hs (dI (k:=2) rfl rfl aq ae rfl (by decide)) ?_|refine .q hs (fb (k:=2) rfl rfl aq ae rfl (by decide)) ?_
          refine .y hs (zld af) ?_
          first|(refine .ixw hs au aE ?_;intro b124 o124 hc124)|refine .z (nR au aE) ?_
          refine .z (zfa dV) ?_
          refine .o (.store (c':=(rdc (s.rs.set i {r with day:=z3})).flatten++spR) hs rfl rfl ae ?_ (by repeat constructor) (hbR 6 (by omega)) (j9 hr (by omega) rfl spR));intro w hs
          refine .nil ?_
          refine nB (nT ?_)
          exact ⟨s.rs.set i {r with day:=z3},_,some ⟨bR,0,none⟩,cr,by repeat (first|exact .nil rfl rfl|refine .cons rfl ?_),by rw [List.length_set];omega,by rw [List.length_set];exact kb hO3,by rw [List.length_set];exact hs.sub (by repeat (first|exact Sub.refl _|constructor|apply Sub.weaken))⟩
         ·refine .ai (.z fA (.z zg (.nil ?_)))
          refine (.bJ rfl (fun hc126=>?_) (fun hc126=>?_))
          ·refine .region (.z (zfa aJ) (.y hs (zld bp) (.z zm ?_)))
           first|refine .q hs (dI (k:=2) rfl rfl aq ae rfl (by decide)) ?_|refine .q hs (fb (k:=2) rfl rfl aq ae rfl (by decide)) ?_
           refine .y hs (zld af) ?_
           first|(refine .ixw hs au aE ?_;intro b133 o133 hc133)|refine .z (nR au aE) ?_
           refine .z (zfa eD) ?_
           refine .o (.store (c':=(rdc (s.rs.set i {r with st:=z3})).flatten++spR) hs rfl rfl ae ?_ (by repeat constructor) (hbR 1 (by omega)) (j9 hr (by omega) rfl spR));intro w hs
           refine .nil ?_
           refine nB (nT ?_)
           exact ⟨s.rs.set i {r with st:=z3},_,some ⟨bR,0,none⟩,cr,by repeat (first|exact .nil rfl rfl|refine .cons rfl ?_),by rw [List.length_set];omega,by rw [List.length_set];exact kb hO3,by rw [List.length_set];exact hs.sub (by repeat (first|exact Sub.refl _|constructor|apply Sub.weaken))⟩
          ·refine .ai (.z fA (.z zg (.nil ?_)))
           refine (.bJ rfl (fun hc135=>?_) (fun hc135=>?_))
           ·refine .region (.z (zfa aJ) (.y hs (zld bp) (.z zm ?_)))
            first|refine .q hs (dI (k:=2) rfl rfl aq ae rfl (by decide)) ?_|refine .q hs (fb (k:=2) rfl rfl aq ae rfl (by decide)) ?_
            refine .y hs (zld af) ?_
            first|(refine .ixw hs au aE ?_;intro b142 o142 hc142)|refine .z (nR au aE) ?_
            refine .z (zfa eC) ?_
            refine .o (.store (c':=(rdc (s.rs.set i {r with wa:=z3})).flatten++spR) hs rfl rfl ae ?_ (by repeat constructor) (hbR 2 (by omega)) (j9 hr (by omega) rfl spR));intro w hs
            refine .nil ?_
            refine nB (nT ?_)
            exact ⟨s.rs.set i {r with wa:=z3},_,some ⟨bR,0,none⟩,cr,by repeat (first|exact .nil rfl rfl|refine .cons rfl ?_),by rw [List.length_set];omega,by rw [List.length_set];exact kb hO3,by rw [List.length_set];exact hs.sub (by repeat (first|exact Sub.refl _|constructor|apply Sub.weaken))⟩
           ·refine .ai (.z fA (.z zg (.nil ?_)))
            refine (.bJ rfl (fun hc144=>?_) (fun hc144=>?_))
            ·refine .region (.z (zfa aJ) (.y hs (zld bp) (.z zm ?_)))
             first|refine .q hs (dI (k:=2) rfl rfl aq ae rfl (by decide)) ?_|refine .q hs (fb (k:=2) rfl rfl aq ae rfl (by decide)) ?_
             refine .y hs (zld af) ?_
             first|(refine .ixw hs au aE ?_;intro b151 o151 hc151)|refine .z (nR au aE) ?_
             refine .z (zfa dX) ?_
             refine .o (.store (c':=(rdc (s.rs.set i {r with src:=z3})).flatten++spR) hs rfl rfl ae ?_ (by repeat constructor) (hbR 0 (by omega)) (j9 hr (by omega) rfl spR));intro w hs
             refine .nil ?_
             refine nB (nT ?_)
             exact ⟨s.rs.set i {r with src:=z3},_,some ⟨bR,0,none⟩,cr,by repeat (first|exact .nil rfl rfl|refine .cons rfl ?_),by rw [List.length_set];omega,by rw [List.length_set];exact kb hO3,by rw [List.length_set];exact hs.sub (by repeat (first|exact Sub.refl _|constructor|apply Sub.weaken))⟩
            ·refine .seq (.ai (.z fA (.z zg (.nil ?_))))
             refine (.bJ rfl (fun hc153=>?_) (fun hc153=>?_))
             ·refine .skip ?_
              refine nT ?_
              refine (.fj rfl (by first|rfl|exact decide_eq_true (by assumption)) ?_)
              refine .ai (.z (zfa aJ) (.y hs (zld bp) (.z zm ?_)))
              first|(refine .ixw hs au aE ?_;intro b159 o159 hc159)|refine .z (nR au aE) ?_
              refine .y hs (zls r.c du aE (hr:= .own (by repeat (first|exact .here|refine .there ?_)) (uI (iH _) (vu hr) spR))) ?_
              have hrOk:=hM.ok.early.2.2.2.1 r (List.mem_of_getElem? hr)
              have hrtol:=hrOk.tol
              refine .o (.alloc hs dS rfl ?_);intro b8 w hs
              refine .o (.aS (vs:=[_,_,_,_,_,_,_]) hs rfl rfl aE ?_);intro w hs
              refine .nil (.ai (.z (zfa dX) ?_))
              refine .o (.store hs rfl rfl ae ?_);intro w hs
              refine .nil (.ai ?_)
              first|refine .q hs (dI (k:=2) rfl rfl aq ae rfl (by decide)) ?_|refine .q hs (fb (k:=2) rfl rfl aq ae rfl (by decide)) ?_
              refine .y hs (zld af) (.z (zfa ck) (.y hs (zld af) (.z gM (.z cA ?_))))
              refine .o (.call cf rfl (bO hs (by omega)) ?_);rintro _ w ⟨k168,g168,rfl,hs⟩
              refine .z (zfa cK) ?_
              refine .o (.store hs rfl rfl ae ?_);intro w hs
              refine .nil (.region (.z (zfa aJ) (.y hs (zld bp) (.y hs (zls [_,_,_,_,_,_,_] du aE) ?_))))
              refine .o (.buildSlice (cells:=Rdg.c ⟨50,r.st,r.wa,(k168:Int),r.tol,r.tape,r.day⟩) hs eL rfl (by kernel_rfl) ?_);intro b173 w hs
              refine .o (.append (ys:=Rdg.c ⟨50,r.st,r.wa,(k168:Int),r.tol,r.tape,r.day⟩) hs cE rfl rfl hO3 (.own .here rfl rfl) (by simp [Rdg.c,Value.oneCell']) (fun l' h=>by rw [bZ _ (iH _),db] at h;omega) ?_);intro v174 en174 w hO5 hs
              rw [←pF] at hO5
              obtain ⟨a174,c174,rfl⟩:=hO5.kj (iH _) (by omega)
              rw [db] at hO5 ⊢
              refine .z (zfa aJ) ?_
              refine .o (.store hs rfl rfl ji ?_);intro w hs
              refine .nil ?_
              refine nB (nT ?_)
              exact ⟨s.rs++[⟨50,r.st,r.wa,(k168:Int),r.tol,r.tape,r.day⟩],_,a174,c174,by repeat (first|exact .nil rfl rfl|refine .cons rfl ?_),by simp;omega,hO5,hs.sub (by repeat (first|exact Sub.refl _|constructor|apply Sub.weaken))⟩
             ·refine .region (.z fA (.z zg (.nil ?_)))
              refine nT ?_
              refine (.bJ rfl (fun hc153=>?_) (fun hc153=>?_))
              ·refine .ai (.z (zfa aJ) (.y hs (zld bp) (.z zm ?_)))
               first|(refine .ixw hs au aE ?_;intro b159 o159 hc159)|refine .z (nR au aE) ?_
               refine .y hs (zls r.c du aE (hr:= .own (by repeat (first|exact .here|refine .there ?_)) (uI (iH _) (vu hr) spR))) ?_
               have hrOk:=hM.ok.early.2.2.2.1 r (List.mem_of_getElem? hr)
               have hrtol:=hrOk.tol
               refine .o (.alloc hs dS rfl ?_);intro b8 w hs
               refine .o (.aS (vs:=[_,_,_,_,_,_,_]) hs rfl rfl aE ?_);intro w hs
               refine .nil (.ai (.z (zfa dX) ?_))
               refine .o (.store hs rfl rfl ae ?_);intro w hs
               refine .nil (.ai ?_)
               first|refine .q hs (dI (k:=2) rfl rfl aq ae rfl (by decide)) ?_|refine .q hs (fb (k:=2) rfl rfl aq ae rfl (by decide)) ?_
               refine .y hs (zld af) (.z (zfa ck) (.y hs (zld af) (.z gM (.z cA ?_))))
               refine .o (.call cf rfl (bO hs (by omega)) ?_);rintro _ w ⟨k168,g168,rfl,hs⟩
               refine .z (zfa cK) ?_
               refine .o (.store hs rfl rfl ae ?_);intro w hs
               refine .nil (.region (.z (zfa aJ) (.y hs (zld bp) (.y hs (zls [_,_,_,_,_,_,_] du aE) ?_))))
               refine .o (.buildSlice (cells:=Rdg.c ⟨50,r.st,r.wa,(k168:Int),r.tol,r.tape,r.day⟩) hs eL rfl (by kernel_rfl) ?_);intro b173 w hs
               refine .o (.append (ys:=Rdg.c ⟨50,r.st,r.wa,(k168:Int),r.tol,r.tape,r.day⟩) hs cE rfl rfl hO3 (.own .here rfl rfl) (by simp [Rdg.c,Value.oneCell']) (fun l' h=>by rw [bZ _ (iH _),db] at h;omega) ?_);intro v174 en174 w hO5 hs
               rw [←pF] at hO5
               obtain ⟨a174,c174,rfl⟩:=hO5.kj (iH _) (by omega)
               rw [db] at hO5 ⊢
               refine .z (zfa aJ) ?_
               refine .o (.store hs rfl rfl ji ?_);intro w hs
               refine .nil ?_
               refine nB (nT ?_)
               exact ⟨s.rs++[⟨50,r.st,r.wa,(k168:Int),r.tol,r.tape,r.day⟩],_,a174,c174,by repeat (first|exact .nil rfl rfl|refine .cons rfl ?_),by simp;omega,hO5,hs.sub (by repeat (first|exact Sub.refl _|constructor|apply Sub.weaken))⟩
              ·refine .skip ?_
               refine nB (nT ?_)
               exact ⟨s.rs,_,some ⟨bR,0,none⟩,cr,by repeat (first|exact .nil rfl rfl|refine .cons rfl ?_),by omega,hO3,hs.sub (by repeat (first|exact Sub.refl _|constructor|apply Sub.weaken))⟩
   ·refine .skip ?_
    refine nT ?_
    exact ⟨s.rs,_,ar,cr,by repeat (first|exact .nil rfl rfl|refine .cons rfl ?_),by omega,hO3,hs.sub (by repeat (first|exact Sub.refl _|constructor|apply Sub.weaken))⟩
  ·clear hs hO3
   rintro fs w ⟨R,f3,ar',cr',hfs,hRl,hO3,hs⟩
   refine WE.sub ?_ hfs
   clear hfs
   refine .cut (fun fs w=>∃(C:List Cmp) (f4:Ent) (ac':Option Addr) (cc':Nat),kJ fs ⟨225,[],[(3,.pointer (some ⟨b3,0,none⟩)),(2,.pointer (some ⟨b2,0,none⟩))]⟩∧C.length≤5∧cu 6 (.slice ac' C.length cc') (cmc C).flatten f4∧St H1 w (f1::f2::f3::f4:: .blk b3 [I sp'.id,I sp'.src,.slice (some ⟨bS,0,none⟩) s.sp.st.length cS,.slice (some ⟨bW,0,none⟩) s.sp.wa.length cW,I sp'.al,I sp'.up,.slice ar' R.length cr',.slice ac' C.length cc']:: .blk b2 [I 0,I 0,.slice none 0 0,.slice none 0 0,I 0,I 0,.slice none 0 0,.slice none 0 0]::σ)) ?_ ?_
   ·refine .ai (.z (zfa bT) (.y hs (zld dD) (.z (cM aV) (.z lk (.nil ?_)))))
    refine (.bJ rfl (fun hc179=>?_) (fun hc179=>?_))
    ·refine .ai ?_
     first|refine .q hs (dI (k:=1) rfl rfl aq ae rfl (by decide)) ?_|refine .q hs (fb (k:=1) rfl rfl aq ae rfl (by decide)) ?_
     refine .y hs (zld af) (.z (zfa bT) (.y hs (zld dD) (.z (cM aV) ?_)))
     obtain ⟨bC,cC,spC,hv,rfl,hcapC⟩:=hO4.Eo (qQ _) (by omega) (by rw [ff];omega)
     simp only [Value.slice.injEq] at hv
     obtain ⟨rfl,hv2,rfl⟩:=hv
     refine .o (.call cf rfl (bO hs (by omega)) ?_);rintro _ w ⟨i,gi_,rfl,hs⟩
     obtain ⟨c,hc⟩:=nth (l:=s.cs) (k:=i) (by omega)
     have hbC:∀j<6,Nat.blt (i*6+j) ((cmc s.cs).flatten++spC).length=true:=fun j hj=>Nat.ble_eq_true_of_le (by rw [List.length_append,bZ _ (qQ _),ff];omega)
     refine .z zg (.nil (.ai (.z zm (.nil (.block (.seq (.ai (.z fA (.z zg ?_)))))))))
     refine .nil ?_
     refine (.bJ rfl (fun hc187=>?_) (fun hc187=>?_))
     ·refine .skip ?_
      refine nT ?_
      refine (.fj rfl (by first|rfl|exact decide_eq_true (by assumption)) ?_)
      refine .region (.z (zfa bT) (.y hs (zld dD) (.z zm ?_)))
      first|refine .q hs (dI (k:=2) rfl rfl aq ae rfl (by decide)) ?_|refine .q hs (fb (k:=2) rfl rfl aq ae rfl (by decide)) ?_
      refine .y hs (zld af) ?_
      first|(refine .ixw hs aV bX ?_;intro b195 o195 hc195)|refine .z (nR aV bX) ?_
      refine .z (zfa eF) ?_
      refine .o (.store (c':=(cmc (s.cs.set i {c with lo:=z3})).flatten++spC) hs rfl rfl ae ?_ (by repeat constructor) (hbC 4 (by omega)) (pZ hc (by omega) rfl spC));intro w hs
      refine .nil ?_
      refine nB (nT ?_)
      exact ⟨s.cs.set i {c with lo:=z3},_,some ⟨bC,0,none⟩,cc,by repeat (first|exact .nil rfl rfl|refine .cons rfl ?_),by rw [List.length_set];omega,by rw [List.length_set];exact pI hO4,by rw [List.length_set];exact hs.sub (by repeat (first|exact Sub.refl _|constructor|apply Sub.weaken))⟩
     ·refine .region (.z fA (.z zg (.nil ?_)))
      refine nT ?_
      refine (.bJ rfl (fun hc187=>?_) (fun hc187=>?_))
      ·refine .region (.z (zfa bT) (.y hs (zld dD) (.z zm ?_)))
       first|refine .q hs (dI (k:=2) rfl rfl aq ae rfl (by decide)) ?_|refine .q hs (fb (k:=2) rfl rfl aq ae rfl (by decide)) ?_
       refine .y hs (zld af) ?_
       first|(refine .ixw hs aV bX ?_;intro b195 o195 hc195)|refine .z (nR aV bX) ?_
       refine .z (zfa eF) ?_
       refine .o (.store (c':=(cmc (s.cs.set i {c with lo:=z3})).flatten++spC) hs rfl rfl ae ?_ (by repeat constructor) (hbC 4 (by omega)) (pZ hc (by omega) rfl spC));intro w hs
       refine .nil ?_
       refine nB (nT ?_)
       exact ⟨s.cs.set i {c with lo:=z3},_,some ⟨bC,0,none⟩,cc,by repeat (first|exact .nil rfl rfl|refine .cons rfl ?_),by rw [List.length_set];omega,by rw [List.length_set];exact pI hO4,by rw [List.length_set];exact hs.sub (by repeat (first|exact Sub.refl _|constructor|apply Sub.weaken))⟩
      ·refine .ai (.z fA (.z zg (.nil ?_)))
       refine (.bJ rfl (fun hc197=>?_) (fun hc197=>?_))
       ·refine .region (.z (zfa bT) (.y hs (zld dD) (.z zm ?_)))
        first|refine .q hs (dI (k:=2) rfl rfl aq ae rfl (by decide)) ?_|refine .q hs (fb (k:=2) rfl rfl aq ae rfl (by decide)) ?_
        refine .y hs (zld af) ?_
        first|(refine .ixw hs aV bX ?_;intro b204 o204 hc204)|refine .z (nR aV bX) ?_
        refine .z (zfa eE) ?_
        refine .o (.store (c':=(cmc (s.cs.set i {c with hi:=z3})).flatten++spC) hs rfl rfl ae ?_ (by repeat constructor) (hbC 5 (by omega)) (pZ hc (by omega) rfl spC));intro w hs
        refine .nil ?_
        refine nB (nT ?_)
        exact ⟨s.cs.set i {c with hi:=z3},_,some ⟨bC,0,none⟩,cc,by repeat (first|exact .nil rfl rfl|refine .cons rfl ?_),by rw [List.length_set];omega,by rw [List.length_set];exact pI hO4,by rw [List.length_set];exact hs.sub (by repeat (first|exact Sub.refl _|constructor|apply Sub.weaken))⟩
       ·refine .ai (.z fA (.z zg (.nil ?_)))
        refine (.bJ rfl (fun hc206=>?_) (fun hc206=>?_))
        ·refine .region (.z (zfa bT) (.y hs (zld dD) (.z zm ?_)))
         first|refine .q hs (dI (k:=2) rfl rfl aq ae rfl (by decide)) ?_|refine .q hs (fb (k:=2) rfl rfl aq ae rfl (by decide)) ?_
         refine .y hs (zld af) ?_
         first|(refine .ixw hs aV bX ?_;intro b213 o213 hc213)|refine .z (nR aV bX) ?_
         refine .z (zfa fc) ?_
         refine .o (.store (c':=(cmc (s.cs.set i {c with fr:=z3})).flatten++spC) hs rfl rfl ae ?_ (by repeat constructor) (hbC 2 (by omega)) (pZ hc (by omega) rfl spC));intro w hs
         refine .nil ?_
         refine nB (nT ?_)
         exact ⟨s.cs.set i {c with fr:=z3},_,some ⟨bC,0,none⟩,cc,by repeat (first|exact .nil rfl rfl|refine .cons rfl ?_),by rw [List.length_set];omega,by rw [List.length_set];exact pI hO4,by rw [List.length_set];exact hs.sub (by repeat (first|exact Sub.refl _|constructor|apply Sub.weaken))⟩
        ·refine .ai (.z fA (.z zg (.nil ?_)))
         refine (.bJ rfl (fun hc215=>?_) (fun hc215=>?_))
         ·refine .region (.z (zfa bT) (.y hs (zld dD) (.z zm ?_)))
          first|refine .q hs (dI (k:=2) rfl rfl aq ae rfl (by decide)) ?_|refine .q hs (fb (k:=2) rfl rfl aq ae rfl (by decide)) ?_
          refine .y hs (zld af) ?_
          first|(refine .ixw hs aV bX ?_;intro b222 o222 hc222)|refine .z (nR aV bX) ?_
          refine .z (zfa eG) ?_
          refine .o (.store (c':=(cmc (s.cs.set i {c with to:=z3})).flatten++spC) hs rfl rfl ae ?_ (by repeat constructor) (hbC 3 (by omega)) (pZ hc (by omega) rfl spC));intro w hs
          refine .nil ?_
          refine nB (nT ?_)
          exact ⟨s.cs.set i {c with to:=z3},_,some ⟨bC,0,none⟩,cc,by repeat (first|exact .nil rfl rfl|refine .cons rfl ?_),by rw [List.length_set];omega,by rw [List.length_set];exact pI hO4,by rw [List.length_set];exact hs.sub (by repeat (first|exact Sub.refl _|constructor|apply Sub.weaken))⟩
         ·refine .skip ?_
          refine nB (nT ?_)
          exact ⟨s.cs,_,some ⟨bC,0,none⟩,cc,by repeat (first|exact .nil rfl rfl|refine .cons rfl ?_),by omega,hO4,hs.sub (by repeat (first|exact Sub.refl _|constructor|apply Sub.weaken))⟩
    ·refine .skip ?_
     refine nT ?_
     exact ⟨s.cs,_,ac,cc,by repeat (first|exact .nil rfl rfl|refine .cons rfl ?_),by omega,hO4,hs.sub (by repeat (first|exact Sub.refl _|constructor|apply Sub.weaken))⟩
   ·clear hs hO4
    rintro fs w ⟨C,f4,ac',cc',hfs,hCl,hO4,hs⟩
    refine WE.sub ?_ hfs
    clear hfs
    refine .ai (.y hs (zls [_,_,_,_,_,_,_,_] aN aD) ?_)
    refine .o (.aS (vs:=[_,_,_,_,_,_,_,_]) hs rfl rfl aD ?_);intro w hs
    refine .nil ?_
    refine .ret ?_
    have hV:Dr ⟨sp',R,C⟩ (.slice (some ⟨bS,0,none⟩) s.sp.st.length cS) (.slice (some ⟨bW,0,none⟩) s.sp.wa.length cW) (.slice ar' R.length cr') (.slice ac' C.length cc') f1 f2 f3 f4:=⟨hO1,hO2,hO3,hO4⟩
    obtain ⟨Ha,hla,ra,hs⟩:=hO1.df (by omega) hs (by repeat constructor)
    obtain ⟨Hb,hlb,rb,hs⟩:=hO2.df (by omega) hs (by repeat constructor)
    obtain ⟨Hc,hlc,rc,hs⟩:=cu.cP (m:=7) (cs:=rdc R) hO3 (iH _) (by omega) (by rw [db];omega) hs (by repeat constructor)
    obtain ⟨Hd,hld,rd,hs⟩:=cu.cP (m:=6) (cs:=cmc C) hO4 (qQ _) (by omega) (by rw [ff];omega) hs (by repeat constructor)
    exact Fin.iG [] [] hs fun w hs=>⟨_,results1 Tryz.results23 (dH (vs:=[_,_,_,_,_,_,_,_]) hs rfl aN aD),Hd,⟨sp',R,C⟩,_,_,_,_,hle1.trans (hla.trans (hlb.trans (hlc.trans hld))),rfl,ra.mono (hlb.trans (hlc.trans hld)),rb.mono (hlc.trans hld),RRd.mono rc hld,rd,⟨by show 2≤sp'.st.length∧sp'.st.length≤4;omega,by show 2≤sp'.wa.length∧sp'.wa.length≤3;omega,hRl,hCl⟩,hs.out⟩
theorem fT:Tryz.prog.stoodInHeld 44=false:=by kernel_rfl
theorem fU:Tryz.prog.eqGuardType Tryz.prog.depth 44=false:=by kernel_rfl
set_option maxHeartbeats 2000000 in
theorem oU{H:bn}{w:World}{σ:List Ent}{v:Value}{g:Dp}{a b c:Int}{q:Wht}(hs:St H w σ)(hg:yx H v g):
  Cl Tryz.prog 3 [v,.agg #[I a,I b,I c],.agg #[I q.kind,I q.st,I q.wa]] w fun v w'=>v= .bool true∧∃H',HLe H H'∧St H' w' σ:=by
 obtain ⟨vs,v5,v4,vp,rfl,g1,g2,g3,g4⟩:=hg
 refine Cl.of Tryz.func3 rfl Tryz.ntmps3 (by simp) (aj (k:=0) rfl (aj (k:=1) rfl (aj (k:=2) rfl (bh)))) ?_
 refine .ai ?_
 refine .o (.box hs rfl rfl ?_);intro b3 w hs
 refine .o (.box hs rfl rfl ?_);intro b4 w hs
 refine .o (.box hs rfl rfl ?_);intro b5 w hs
 refine .z zg (.nil (.ai ?_))
 refine .o (.call Tryz.call22 rfl (kv hs) ?_);rintro _ w ⟨rfl,H1,hle1,hs⟩
 refine .z zg (.nil (.ai (.y hs (zls [_,_,_,_,_,_,_] Aa xF) ?_)))
 refine .o (.call Tryz.call23 rfl (jn hs (g1.mono hle1) (g2.mono hle1) (g3.mono hle1) (g4.mono hle1)) ?_);rintro _ w ⟨H2,s,vst,vwa,vr,vc,hle2,rfl,h1,h2,h3,h4,hSpl,hs⟩
 obtain ⟨ast,cst,rfl⟩:=RI.shape h1
 obtain ⟨awa,cwa,rfl⟩:=RI.shape h2
 obtain ⟨ar,cr,rfl⟩:=RRd.shape h3
 obtain ⟨ac,cc,rfl⟩:=RCm.shape h4
 have hle02:=hle1.trans hle2
 refine .o (.alloc hs dy rfl ?_);intro b8 w hs
 refine .o (.aS (vs:=[_,_,_,_,_,_,_,_]) hs rfl rfl aD ?_);intro w hs
 refine .nil (.ai (.z (zbd [_,_,_] kY) ?_))
 refine .o (.alloc hs r9 rfl ?_);intro b9 w hs
 refine .o (.aS (vs:=[_,_,_]) hs rfl rfl bK ?_);intro w hs
 refine .nil ?_
 refine .cut (fun fs w=>∃q1:Wht,kJ fs ⟨75,[],[(9,.pointer (some ⟨b9,0,none⟩)),(8,.pointer (some ⟨b8,0,none⟩)),(7,.bool true),(5,.pointer (some ⟨b5,0,none⟩))]⟩∧St H2 w (.blk b9 [I q1.kind,I q1.st,I q1.wa]:: .blk b8 [I s.sp.id,I s.sp.src,.slice ast s.sp.st.length cst,.slice awa s.sp.wa.length cwa,I s.sp.al,I s.sp.up,.slice ar s.rs.length cr,.slice ac s.cs.length cc]:: .blk b5 [I q.kind,I q.st,I q.wa]::σ)) ?_ ?_
 ·refine .ai (.z (zfa aR) (.y hs (zls [_,_,_,_,_,_] aT aH) ?_))
  refine .o (.call Tryz.call24 rfl (jA (s:=s.sp) hs h1 h2) ?_);rintro _ w ⟨e24,rfl,hcase,hs⟩
  refine .z fA (.nil ?_)
  refine (.bJ rfl (fun hc25=>?_) (fun hc25=>?_))
  ·refine .region (.z (zfa aR) (.y hs (zls [_,_,_,_,_,_] aT aH) (.y hs (zls [_,_,_] Tryz.isAgg25 xG) ?_)))
   have hok:fB s.sp:=by
    rcases hcase with ⟨h,_⟩|⟨_,h⟩
    ·exact h
    ·omega
   refine .o (.call Tryz.call25 rfl (oI (s:=s.sp) hs h1 h2 hok) ?_);rintro _ w ⟨q1,rfl,hq1,hs⟩
   refine .o (.aS (vs:=[_,_,_]) hs rfl rfl bK ?_);intro w hs
   refine .nil ?_
   refine nT ?_
   exact ⟨q1,by repeat (first|exact .nil rfl rfl|refine .cons rfl ?_),hs.sub (by repeat (first|exact Sub.refl _|constructor|apply Sub.weaken))⟩
  ·refine .skip ?_
   refine nT ?_
   exact ⟨⟨1,0,0⟩,by repeat (first|exact .nil rfl rfl|refine .cons rfl ?_),hs.sub (by repeat (first|exact Sub.refl _|constructor|apply Sub.weaken))⟩
 ·clear hs
  rintro fs w ⟨q1,hfs,hs⟩
  refine WE.sub ?_ hfs
  clear hfs
  refine .ai (.y hs (zls [_,_,_,_,_,_,_,_] aN aD) (.y hs (zls [_,_,_] dd bK) ?_))
  refine .o (.call Tryz.call26 rfl (iR (s:=s) (q:=q1) hs h1 h2 h3 h4) ?_);rintro _ w ⟨H3,lo1,hi1,e1,hle3,rfl,hA,hs⟩
  replace h1:=h1.mono hle3
  replace h2:=h2.mono hle3
  replace h3:=h3.mono hle3
  replace h4:=h4.mono hle3
  refine .z zm (.z zex (.z zex ?_))
  refine .o (.alloc hs bq rfl ?_);intro b10 w hs
  refine .o (.aS (vs:=[_,_]) hs rfl rfl az ?_);intro w hs
  refine .z zg (.nil (.ai (.y hs (zls [_,_,_,_,_,_,_,_] aN aD) (.y hs (zls [_,_,_] dd bK) ?_))))
  refine .o (.call Tryz.call27 rfl (mv (s:=s) (q:=q1) hs h1 h2 h3 h4) ?_);rintro _ w ⟨H4,lo2,hi2,e2,hle4,rfl,hB,hs⟩
  obtain ⟨rfl,rfl,rfl⟩:=hA.uniq hB
  replace h1:=h1.mono hle4
  replace h2:=h2.mono hle4
  replace h3:=h3.mono hle4
  replace h4:=h4.mono hle4
  refine .z zm (.z zex (.z zex ?_))
  refine .o (.alloc hs bq rfl ?_);intro b12 w hs
  refine .o (.aS (vs:=[_,_]) hs rfl rfl az ?_);intro w hs
  refine .z zg (.nil (.ai (.y hs (zls [_,_,_,_,_,_,_,_] aN aD) (.y hs (zls [_,_,_] dd bK) ?_))))
  refine .o (.call Tryz.call26 rfl (iR (s:=s) (q:=q) hs h1 h2 h3 h4) ?_);rintro _ w ⟨H5,lo3,hi3,e3,hle5,rfl,hC,hs⟩
  replace h1:=h1.mono hle5
  replace h2:=h2.mono hle5
  replace h3:=h3.mono hle5
  replace h4:=h4.mono hle5
  refine .z zm (.z zex (.z zex ?_))
  refine .o (.alloc hs bq rfl ?_);intro b14 w hs
  refine .o (.aS (vs:=[_,_]) hs rfl rfl az ?_);intro w hs
  refine .z zg (.nil (.ai (.y hs (zls [_,_,_,_,_,_,_,_] aN aD) (.y hs (zls [_,_,_] dd bK) ?_))))
  refine .o (.call Tryz.call27 rfl (mv (s:=s) (q:=q) hs h1 h2 h3 h4) ?_);rintro _ w ⟨H6,lo4,hi4,e4,hle6,rfl,hD,hs⟩
  obtain ⟨rfl,rfl,rfl⟩:=hC.uniq hD
  have hleF:=hle02.trans (hle3.trans (hle4.trans (hle5.trans hle6)))
  refine .z zm (.z zex (.z zex ?_))
  refine .o (.alloc hs bq rfl ?_);intro b16 w hs
  refine .o (.aS (vs:=[_,_]) hs rfl rfl az ?_);intro w hs
  refine .z zg (.nil (.ai (.z zm (.z zm ?_))))
  refine .bif (t':=55) rfl (fun hb55=>?_) (fun hb55=>?_)
  ·refine .gT rfl rfl ?_
   refine .y hs (zls [_,_] aW az) ?_
   refine .gT rfl rfl ?_
   refine .y hs (zls [_,_] aW az) ?_
   refine .gT rfl rfl ?_
   refine .q hs (iN fT fU bL (fun f hf=>by
    simp only [List.mem_cons,List.not_mem_nil,or_false] at hf
    rcases hf with rfl|rfl<;>exact ⟨by decide,aK,af⟩) rfl rfl) ?_
   refine .z zpT (.z zm ?_)
   refine .bif (t':=60) rfl (fun hb60=>?_) (fun hb60=>?_)
   ·refine .gT rfl rfl ?_
    refine .z zm ?_
    refine .gT rfl rfl ?_
    refine .z zm ?_
    refine .gT rfl rfl ?_
    refine .z fA (.z zpT (.z zm ?_))
    refine .iE (t':=65) rfl (fun hb65=>?_) (fun hb65=>?_)
    ·refine .gT rfl rfl ?_
     refine .y hs (zls [_,_] aW az) ?_
     refine .gT rfl rfl ?_
     refine .y hs (zls [_,_] aW az) ?_
     refine .gT rfl rfl ?_
     refine .q hs (iN fT fU bL (fun f hf=>by
      simp only [List.mem_cons,List.not_mem_nil,or_false] at hf
      rcases hf with rfl|rfl<;>exact ⟨by decide,aK,af⟩) rfl rfl) ?_
     refine .z zpT (.z zm ?_)
     refine .bif (t':=70) rfl (fun hb70=>?_) (fun hb70=>?_)
     ·refine .gT rfl rfl ?_
      refine .z zm ?_
      refine .gT rfl rfl ?_
      refine .z zm ?_
      refine .gT rfl rfl ?_
      refine .z fA (.z zpT (.z zg (.nil ?_)))
      refine .ret (Fin.bI rm rfl ?_)
      exact ⟨by simp,H6,hleF,hs.out⟩
     ·refine .gFs 3 16 true rfl rfl rfl ?_
      refine .z zpF (.z zg (.nil ?_))
      refine .ret (Fin.bI rm rfl ?_)
      first|exact (hb70 rfl).elim|(simp at hb70;done)
    ·refine .gFs 3 11 true rfl rfl rfl ?_
     refine .z zpF (.z zm ?_)
     refine .gFs 3 16 true rfl rfl rfl ?_
     refine .z zpF (.z zg (.nil ?_))
     refine .ret (Fin.bI rm rfl ?_)
     first|exact (hb65 rfl).elim|(simp at hb65;done)
   ·refine .gFs 3 6 true rfl rfl rfl ?_
    refine .z zpF (.z zm ?_)
    refine .gFs 3 11 true rfl rfl rfl ?_
    refine .z zpF (.z zm ?_)
    refine .gFs 3 16 true rfl rfl rfl ?_
    refine .z zpF (.z zg (.nil ?_))
    refine .ret (Fin.bI rm rfl ?_)
    first|exact (hb60 rfl).elim|(simp at hb60;done)
  ·refine .gFs 3 1 true rfl rfl rfl ?_
   refine .z zpF (.z zm ?_)
   refine .gFs 3 6 true rfl rfl rfl ?_
   refine .z zpF (.z zm ?_)
   refine .gFs 3 11 true rfl rfl rfl ?_
   refine .z zpF (.z zm ?_)
   refine .gFs 3 16 true rfl rfl rfl ?_
   refine .z zpF (.z zg (.nil ?_))
   refine .ret (Fin.bI rm rfl ?_)
   first|cases hb55|(simp at hb55;done)
theorem eO{H:bn}{w:World}{σ:List Ent}{n m:Int}(hs:St H w σ)(hm:1≤m∧m≤4611686018427387904):
  Cl Tryz.prog 31 [I n,I m] w fun u w'=>u=I (n%m)∧St H w' σ:=by
 have h1:=Int.tmod_lt_of_pos n (show 0<m by omega)
 have h2:=Int.lt_tmod_of_pos n (show 0<m by omega)
 have e:(n.tmod m+m).tmod m=n%m:=by
  rw [Int.tmod_eq_emod_of_nonneg (by omega),Int.add_emod_right]
  rw [Int.tmod_def,Int.sub_mul_emod_self_left]
 refine Cl.of Tryz.func31 rfl Tryz.ntmps31 (by simp) (aj (k:=0) rfl (aj (k:=1) rfl (bh))) ?_
 refine .ai (.z zg (.nil (.ai (.z zm (.z zm (.z Af (.z zm (.z cA (.z zm ?_)))))))))
 refine .z Af (.z zg (.nil ?_))
 refine .ret (Fin.bI Tryz.results31 rfl ?_)
 exact ⟨by rw [e],hs⟩
theorem rI{H:bn}{w:World}{σ:List Ent}{s:Srv}{vst vwa vr vc:Value}(hs:St H w σ)(h1:RI H vst s.sp.st)(h2:RI H vwa s.sp.wa)(h3:RRd H vr s.rs)(h4:RCm H vc s.cs):
  Cl Tryz.prog 30 [.agg #[I s.sp.id,I s.sp.src,vst,vwa,I s.sp.al,I s.sp.up,vr,vc]] w fun u w'=>∃H1 vt ts e,HLe H H1∧u= .tuple #[vt,I e]∧RTd H1 vt ts∧uS s e∧ts.length≤60∧(ts=if e=0 then s.bu else [])∧St H1 w' σ:=by
 refine Cl.of Tryz.func30 rfl Tryz.ntmps30 (by simp) (aj (k:=0) rfl (bh)) ?_
 refine .ai ?_
 refine .o (.box hs rfl rfl ?_);intro b1 w hs
 refine .z zg (.z zg (.nil (.ai (.y hs (zls [_,_,_,_,_,_,_,_] aN aD) ?_))))
 refine .o (.call BW rfl (ib (s:=s) hs h1 h2 h3 h4) ?_);rintro _ w ⟨H1,e,hle1,rfl,hC,hs⟩
 refine .z zg (.nil (.seq (.ai (.z zm (.z iA (.nil ?_))))))
 refine (.e9 rfl (fun hc8=>?_) (fun hc8=>?_))
 ·refine .ai (.z zm (.z zg (.z zg (.nil ?_))))
  refine .ret (rT (Fin.lg Tryz.results30 rfl rfl ?_))
  exact ⟨H1,_,[],_,hle1,rfl,RS.nil H1 2 none 0,hC,by simp,by rw [if_neg hc8],hs.out⟩
 ·refine .skip ?_
  refine nT ?_
  refine .ai (.z (zfa aJ) (.y hs (zld bp) ?_))
  have hok:eM s:=hC.dn.1 (by simpa using hc8)
  have hrl:=hok.early.2.1
  refine .o (.call lz rfl (eA hs (h3.mono hle1) (by omega)) ?_);rintro v12 w ⟨H2,hle2,hT,hs⟩
  refine .z zg (.z zg (.nil ?_))
  refine .ret (Fin.lg Tryz.results30 rfl rfl ?_)
  exact ⟨H2,_,s.bu,_,hle1.trans hle2,rfl,hT,hC.dn.2 hok▸hC,by have:=cF s.rs;unfold Srv.bu;omega,by rw [if_pos rfl],hs.out⟩
theorem rl.uniq{v:Srv}{A B:List Int}{e f:Int}(h:rl v A e)(g:rl v B f):A=B∧e=f:=by
 cases h with
 |bad h he h1=>
  cases g with
  |bad g _ g1=>exact ⟨by rw [h1,g1],h.uniq g⟩
  |ok g _=>exact (he (h.dn.2 g)).elim
 |ok h h1=>
  cases g with
  |bad g ge _=>exact (ge (g.dn.2 h)).elim
  |ok _ g1=>exact h1.uniq g1
set_option maxHeartbeats 2000000 in
theorem nX{H:bn}{w:World}{σ:List Ent}{v:Value}{g:Dp}(hs:St H w σ)(hg:yx H v g):
  Cl Tryz.prog 5 [v] w fun v w'=>v= .bool true∧∃H',HLe H H'∧St H' w' σ:=by
 obtain ⟨vs,v5,v4,vp,rfl,g1,g2,g3,g4⟩:=hg
 refine Cl.of Tryz.func5 rfl Tryz.ntmps5 (by simp) (aj (k:=0) rfl (bh)) ?_
 refine .ai ?_
 refine .o (.box hs rfl rfl ?_);intro b1 w hs
 refine .z zg (.nil (.ai ?_))
 refine .o (.call Tryz.call22 rfl (kv hs) ?_);rintro _ w ⟨rfl,H1,hle1,hs⟩
 refine .z zg (.nil (.ai (.y hs (zls [_,_,_,_,_,_,_] Aa xF) ?_)))
 refine .o (.call Tryz.call23 rfl (jn hs (g1.mono hle1) (g2.mono hle1) (g3.mono hle1) (g4.mono hle1)) ?_);rintro _ w ⟨H2,s,vst,vwa,vr,vc,hle2,rfl,h1,h2,h3,h4,hSpl,hs⟩
 obtain ⟨ast,cst,rfl⟩:=RI.shape h1
 obtain ⟨awa,cwa,rfl⟩:=RI.shape h2
 obtain ⟨ar,cr,rfl⟩:=RRd.shape h3
 obtain ⟨ac,cc,rfl⟩:=RCm.shape h4
 have hle02:=hle1.trans hle2
 refine .o (.alloc hs dy rfl ?_);intro b4 w hs
 refine .o (.aS (vs:=[_,_,_,_,_,_,_,_]) hs rfl rfl aD ?_);intro w hs
 refine .nil (.ai (.y hs (zls [_,_,_,_,_,_,_,_] aN aD) ?_))
 refine .o (.call Tryz.call32 rfl (kQ (s:=s) hs h1 h2 h3 h4) ?_);rintro _ w ⟨H3,va,A,e,hle3,rfl,hA,hcA,hs⟩
 replace h1:=h1.mono hle3
 replace h2:=h2.mono hle3
 replace h3:=h3.mono hle3
 replace h4:=h4.mono hle3
 refine .z zm (.z zex (.z zex (.z zg (.z zg (.nil (.ai (.y hs (zls [_,_,_,_,_,_,_,_] aN aD) ?_)))))))
 refine .o (.call Tryz.call33 rfl (rJ (s:=s) hs h1 h2 h3 h4) ?_);rintro _ w ⟨H4,vb,B,f,hle4,rfl,hB,hcB,hs⟩
 obtain ⟨rfl,rfl⟩:=hcA.uniq hcB
 refine .z zm (.z zex (.z zex (.z zg (.z zg (.nil (.ai (.z zm (.z zm ?_))))))))
 refine .o (.call Tryz.call34 rfl (km hs (hA.mono hle4) hB) ?_);rintro _ w ⟨rfl,hs⟩
 rw [decide_eq_true rfl]
 refine .z zg (.nil (.ai (.z zm (.z zm ?_))))
 refine .gT rfl rfl ?_
 refine .z zm (.z zpT (.z zm ?_))
 refine .gT rfl rfl ?_
 refine .z zm ?_
 refine .gT rfl rfl ?_
 refine .z zm ?_
 refine .gT rfl rfl ?_
 refine .z fA (.z zpT (.z zg (.nil ?_)))
 refine .ret (Fin.bI Tryz.results5 rfl ?_)
 exact ⟨by simp,H4,hle02.trans (hle3.trans hle4),hs.out⟩
set_option maxHeartbeats 4000000 in
theorem pS{H:bn}{w:World}{σ:List Ent}{v:Value}{g:Dp}{t:TD}{n:Int}(hs:St H w σ)(hg:yx H v g):
  Cl Tryz.prog 4 [v,.agg #[I t.tape,I t.day],I n] w fun v w'=>v= .bool true∧∃H',HLe H H'∧St H' w' σ:=by
 obtain ⟨vs,v5,v4,vp,rfl,g1,g2,g3,g4⟩:=hg
 refine Cl.of Tryz.func4 rfl Tryz.ntmps4 (by simp) (aj (k:=0) rfl (aj (k:=1) rfl (aj (k:=2) rfl (bh)))) ?_
 refine .ai ?_
 refine .o (.box hs rfl rfl ?_);intro b3 w hs
 refine .o (.box hs rfl rfl ?_);intro b4 w hs
 refine .z zg (.nil (.ai ?_))
 refine .o (.call Tryz.call22 rfl (kv hs) ?_);rintro _ w ⟨rfl,H1,hle1,hs⟩
 refine .z zg (.nil (.ai (.y hs (zls [_,_,_,_,_,_,_] Aa xF) ?_)))
 refine .o (.call Tryz.call23 rfl (jn hs (g1.mono hle1) (g2.mono hle1) (g3.mono hle1) (g4.mono hle1)) ?_);rintro _ w ⟨H2,s,vst,vwa,vr,vc,hle2,rfl,h1,h2,h3,h4,hSpl,hs⟩
 obtain ⟨ast,cst,rfl⟩:=RI.shape h1
 obtain ⟨awa,cwa,rfl⟩:=RI.shape h2
 obtain ⟨ar,cr,rfl⟩:=RRd.shape h3
 obtain ⟨ac,cc,rfl⟩:=RCm.shape h4
 have hle02:=hle1.trans hle2
 refine .o (.alloc hs dy rfl ?_);intro b8 w hs
 refine .o (.aS (vs:=[_,_,_,_,_,_,_,_]) hs rfl rfl aD ?_);intro w hs
 refine .nil (.ai (.y hs (zls [_,_,_,_,_,_,_,_] aN aD) (.y hs (zls [_,_] bV aP) ?_)))
 refine .o (.call wG rfl (fG (s:=s) (t:=t) hs h1 h2 h3 h4) ?_);rintro _ w ⟨H3,lo1,hi1,e1,hle3,rfl,hA,hs⟩
 replace h1:=h1.mono hle3
 replace h2:=h2.mono hle3
 replace h3:=h3.mono hle3
 replace h4:=h4.mono hle3
 refine .z zm (.z zex (.z zex ?_))
 refine .o (.alloc hs bq rfl ?_);intro b9 w hs
 refine .o (.aS (vs:=[_,_]) hs rfl rfl az ?_);intro w hs
 refine .z zg (.nil (.ai (.y hs (zls [_,_,_,_,_,_,_,_] aN aD) (.y hs (zls [_,_] bV aP) ?_))))
 refine .o (.call je rfl (dL (s:=s) (t:=t) hs h1 h2 h3 h4) ?_);rintro _ w ⟨H4,lo2,hi2,e2,hle4,rfl,hB,hs⟩
 obtain ⟨rfl,rfl,rfl⟩:=hA.uniq hB
 replace h1:=h1.mono hle4
 replace h2:=h2.mono hle4
 replace h3:=h3.mono hle4
 replace h4:=h4.mono hle4
 refine .z zm (.z zex (.z zex ?_))
 refine .o (.alloc hs bq rfl ?_);intro b11 w hs
 refine .o (.aS (vs:=[_,_]) hs rfl rfl az ?_);intro w hs
 refine .z zg (.nil (.ai (.y hs (zls [_,_,_,_,_,_,_,_] aN aD) ?_)))
 refine .o (.call Tryz.call30 rfl (rI (s:=s) hs h1 h2 h3 h4) ?_);rintro _ w ⟨H5,vt,ts,e3,hle5,rfl,hT,hC,htl,-,hs⟩
 obtain ⟨at_,ct,rfl⟩:=RTd.shape hT
 replace h1:=h1.mono hle5
 replace h2:=h2.mono hle5
 replace h3:=h3.mono hle5
 replace h4:=h4.mono hle5
 have hle05:=hle02.trans (hle3.trans (hle4.trans hle5))
 refine .z zm (.z zex (.z zex (.z zg (.z zg (.nil (.seq (.ai (.z zm (.z iI ?_)))))))))
 refine .z zm ?_
 refine .gT rfl rfl ?_
 refine .y hs (zls [_,_] aW az) ?_
 refine .gT rfl rfl ?_
 refine .y hs (zls [_,_] aW az) ?_
 refine .gT rfl rfl ?_
 refine .q hs (q_neS2 rfl rfl bL fT fU (fun f hf=>by simp only [List.mem_cons,List.not_mem_nil,or_false] at hf;rcases hf with rfl|rfl<;>exact ⟨by decide,aK,af⟩)) ?_
 rw [decide_eq_true ⟨rfl,rfl⟩]
 refine .z zpF (.z zm ?_)
 refine .gT rfl rfl ?_
 refine .z zm ?_
 refine .gT rfl rfl ?_
 refine .z zm ?_
 refine .gT rfl rfl ?_
 refine .z iA ?_;rw [decide_eq_true rfl]
 refine .z zpF (.nil ?_)
 refine (.mj rfl (by first|rfl|exact decide_eq_false (by assumption)) ?_)
 refine .skip ?_
 refine nT ?_
 refine .seq (.ai (.z zm (.z (cM aF) (.z fA (.nil ?_)))))
 refine (.bJ rfl (fun hc53=>?_) (fun hc53=>?_))
 ·refine .ai (.z zg (.nil ?_))
  refine .ret (rT (Fin.bI gj rfl ?_))
  exact ⟨rfl,H5,hle05,hs.out⟩
 ·refine .skip ?_
  refine nT ?_
  refine .seq (.draw mix rfl hs ?_);intro w hs
  refine .ys 0 rfl hs [_,_,_,_,_,_,_,_] aN aD ?_;refine .z 1 rfl zm ?_;refine .z 2 rfl zm ?_;refine .z 3 rfl zm ?_;refine .z 4 rfl (cM aF) ?_
  refine .e2 (i:=5) (j:=12) (by kernel_rfl) rfl rfl rfl rfl .none .none hs ?_ ?_
  ·refine .call cf rfl (eO hs (by omega)) ?_;rintro _ w ⟨rfl,hs⟩
   have hk1:=Int.emod_nonneg n (show (ts.length:Int)≠0 by omega)
   have hk2:=Int.emod_lt_of_pos n (show 0<(ts.length:Int) by omega)
   obtain ⟨k,hk⟩:∃k:Nat,n%(ts.length:Int)=k:=⟨_,(Int.toNat_of_nonneg hk1).symm⟩
   rw [hk] at hk2 ⊢
   obtain ⟨x,hx⟩:=nth (l:=ts) (k:=k) (by omega)
   refine .go ?_
   refine .ixX (enc:=TD.c) (i:=6) hs rfl (by kernel_rfl) .none hT rfl rfl aF aP hx (by first|rfl|assumption|omega) ?_;intro b61 o61 hc61
   refine .r (i:=7) hs rfl (by kernel_rfl) .none (cj (vs:=x.c) rfl bV aP hc61) ?_
   refine .e2 (i:=8) (j:=12) (by kernel_rfl) rfl rfl rfl rfl .none .none hs ?_ ?_
   ·refine .call wG rfl (fG (s:=s) (t:=x) hs h1 h2 h3 h4) ?_;rintro _ w ⟨H6,lo3,hi3,e4,hle6,rfl,hD,hs⟩
    refine .go ?_
    refine .z 9 rfl zm ?_;refine .z 10 rfl zex ?_;refine .z 11 rfl zex ?_
    refine .e1 (i:=12) (by kernel_rfl) rfl rfl .none hs ?_
    refine .alloc hs bq rfl ?_;intro b15 w hs
    refine .go ?_
    refine .e1 (i:=13) (by kernel_rfl) rfl rfl .none hs ?_
    refine .aS (vs:=[_,_]) hs rfl rfl az ?_;intro w hs
    refine .go ?_
    refine .z 14 rfl zg ?_;refine .done (by kernel_rfl) hs ?_
    refine .seq (.draw mix rfl hs ?_);intro w hs
    refine .ys 0 rfl hs [_,_,_,_,_,_,_,_] aN aD ?_;refine .z 1 rfl zm ?_;refine .z 2 rfl zm ?_;refine .z 3 rfl zm ?_;refine .z 4 rfl (cM aF) ?_
    refine .e2 (i:=5) (j:=12) (by kernel_rfl) rfl rfl rfl rfl .none .none hs ?_ ?_
    ·refine .call cf rfl (eO hs (by omega)) ?_;rintro _ w ⟨rfl,hs⟩
     rw [hk]
     refine .go ?_
     refine .ixX (enc:=TD.c) (i:=6) hs rfl (by kernel_rfl) .none (hT.mono hle6) rfl rfl aF aP hx (by first|rfl|assumption|omega) ?_;intro b73 o73 hc73
     refine .r (i:=7) hs rfl (by kernel_rfl) .none (cj (vs:=x.c) rfl bV aP hc73) ?_
     refine .e2 (i:=8) (j:=12) (by kernel_rfl) rfl rfl rfl rfl .none .none hs ?_ ?_
     ·refine .call je rfl (dL (s:=s) (t:=x) hs (h1.mono hle6) (h2.mono hle6) (h3.mono hle6) (h4.mono hle6)) ?_;rintro _ w ⟨H7,lo4,hi4,e5,hle7,rfl,hE,hs⟩
      obtain ⟨rfl,rfl,rfl⟩:=hD.uniq hE
      have hleF:=hle05.trans (hle6.trans hle7)
      refine .go ?_
      refine .z 9 rfl zm ?_;refine .z 10 rfl zex ?_;refine .z 11 rfl zex ?_
      refine .e1 (i:=12) (by kernel_rfl) rfl rfl .none hs ?_
      refine .alloc hs bq rfl ?_;intro b17 w hs
      refine .go ?_
      refine .e1 (i:=13) (by kernel_rfl) rfl rfl .none hs ?_
      refine .aS (vs:=[_,_]) hs rfl rfl az ?_;intro w hs
      refine .go ?_
      refine .z 14 rfl zg ?_;refine .done (by kernel_rfl) hs ?_
      refine .ai (.y hs (zls [_,_] aW az) (.y hs (zls [_,_] aW az) ?_))
      refine .q hs (iN fT fU bL (fun f hf=>by
       simp only [List.mem_cons,List.not_mem_nil,or_false] at hf
       rcases hf with rfl|rfl<;>exact ⟨by decide,aK,af⟩) rfl rfl) ?_
      rw [decide_eq_true ⟨rfl,rfl⟩]
      refine .z zm ?_
      refine .gT rfl rfl ?_
      refine .z zm ?_
      refine .gT rfl rfl ?_
      refine .z zm ?_
      refine .gT rfl rfl ?_
      refine .z fA (.z zpT (.z zg (.nil ?_)))
      refine .ret (Fin.bI gj rfl ?_)
      exact ⟨by simp,H7,hleF,hs.out⟩
     ·refine .alloc hs bq rfl ?_;intro b17 w hs
      refine .go ?_
      refine .e1 (i:=8) (by kernel_rfl) rfl rfl .none hs ?_
      refine .call je rfl (dL (s:=s) (t:=x) hs (h1.mono hle6) (h2.mono hle6) (h3.mono hle6) (h4.mono hle6)) ?_;rintro _ w ⟨H7,lo4,hi4,e5,hle7,rfl,hE,hs⟩
      obtain ⟨rfl,rfl,rfl⟩:=hD.uniq hE
      have hleF:=hle05.trans (hle6.trans hle7)
      refine .go ?_
      refine .z 9 rfl zm ?_;refine .z 10 rfl zex ?_;refine .z 11 rfl zex ?_
      refine .e1 (i:=13) (by kernel_rfl) rfl rfl .none hs ?_
      refine .aS (vs:=[_,_]) hs rfl rfl az ?_;intro w hs
      refine .go ?_
      refine .z 14 rfl zg ?_;refine .done (by kernel_rfl) hs ?_
      refine .ai (.y hs (zls [_,_] aW az) (.y hs (zls [_,_] aW az) ?_))
      refine .q hs (iN fT fU bL (fun f hf=>by
       simp only [List.mem_cons,List.not_mem_nil,or_false] at hf
       rcases hf with rfl|rfl<;>exact ⟨by decide,aK,af⟩) rfl rfl) ?_
      rw [decide_eq_true ⟨rfl,rfl⟩]
      refine .z zm ?_
      refine .gT rfl rfl ?_
      refine .z zm ?_
      refine .gT rfl rfl ?_
      refine .z zm ?_
      refine .gT rfl rfl ?_
      refine .z fA (.z zpT (.z zg (.nil ?_)))
      refine .ret (Fin.bI gj rfl ?_)
      exact ⟨by simp,H7,hleF,hs.out⟩
    ·refine .alloc hs bq rfl ?_;intro b17 w hs
     refine .go ?_
     refine .e1 (i:=5) (by kernel_rfl) rfl rfl .none hs ?_
     refine .call cf rfl (eO hs (by omega)) ?_;rintro _ w ⟨rfl,hs⟩
     rw [hk]
     refine .go ?_
     refine .ixX (enc:=TD.c) (i:=6) hs rfl (by kernel_rfl) .none (hT.mono hle6) rfl rfl aF aP hx (by first|rfl|assumption|omega) ?_;intro b73 o73 hc73
     refine .r (i:=7) hs rfl (by kernel_rfl) .none (cj (vs:=x.c) rfl bV aP hc73) ?_
     refine .e1 (i:=8) (by kernel_rfl) rfl rfl .none hs ?_
     refine .call je rfl (dL (s:=s) (t:=x) hs (h1.mono hle6) (h2.mono hle6) (h3.mono hle6) (h4.mono hle6)) ?_;rintro _ w ⟨H7,lo4,hi4,e5,hle7,rfl,hE,hs⟩
     obtain ⟨rfl,rfl,rfl⟩:=hD.uniq hE
     have hleF:=hle05.trans (hle6.trans hle7)
     refine .go ?_
     refine .z 9 rfl zm ?_;refine .z 10 rfl zex ?_;refine .z 11 rfl zex ?_
     refine .e1 (i:=13) (by kernel_rfl) rfl rfl .none hs ?_
     refine .aS (vs:=[_,_]) hs rfl rfl az ?_;intro w hs
     refine .go ?_
     refine .z 14 rfl zg ?_;refine .done (by kernel_rfl) hs ?_
     refine .ai (.y hs (zls [_,_] aW az) (.y hs (zls [_,_] aW az) ?_))
     refine .q hs (iN fT fU bL (fun f hf=>by
      simp only [List.mem_cons,List.not_mem_nil,or_false] at hf
      rcases hf with rfl|rfl<;>exact ⟨by decide,aK,af⟩) rfl rfl) ?_
     rw [decide_eq_true ⟨rfl,rfl⟩]
     refine .z zm ?_
     refine .gT rfl rfl ?_
     refine .z zm ?_
     refine .gT rfl rfl ?_
     refine .z zm ?_
     refine .gT rfl rfl ?_
     refine .z fA (.z zpT (.z zg (.nil ?_)))
     refine .ret (Fin.bI gj rfl ?_)
     exact ⟨by simp,H7,hleF,hs.out⟩
   ·refine .alloc hs bq rfl ?_;intro b15 w hs
    refine .go ?_
    refine .e1 (i:=8) (by kernel_rfl) rfl rfl .none hs ?_
    refine .call wG rfl (fG (s:=s) (t:=x) hs h1 h2 h3 h4) ?_;rintro _ w ⟨H6,lo3,hi3,e4,hle6,rfl,hD,hs⟩
    refine .go ?_
    refine .z 9 rfl zm ?_;refine .z 10 rfl zex ?_;refine .z 11 rfl zex ?_
    refine .e1 (i:=13) (by kernel_rfl) rfl rfl .none hs ?_
    refine .aS (vs:=[_,_]) hs rfl rfl az ?_;intro w hs
    refine .go ?_
    refine .z 14 rfl zg ?_;refine .done (by kernel_rfl) hs ?_
    refine .seq (.draw mix rfl hs ?_);intro w hs
    refine .ys 0 rfl hs [_,_,_,_,_,_,_,_] aN aD ?_;refine .z 1 rfl zm ?_;refine .z 2 rfl zm ?_;refine .z 3 rfl zm ?_;refine .z 4 rfl (cM aF) ?_
    refine .e2 (i:=5) (j:=12) (by kernel_rfl) rfl rfl rfl rfl .none .none hs ?_ ?_
    ·refine .call cf rfl (eO hs (by omega)) ?_;rintro _ w ⟨rfl,hs⟩
     rw [hk]
     refine .go ?_
     refine .ixX (enc:=TD.c) (i:=6) hs rfl (by kernel_rfl) .none (hT.mono hle6) rfl rfl aF aP hx (by first|rfl|assumption|omega) ?_;intro b73 o73 hc73
     refine .r (i:=7) hs rfl (by kernel_rfl) .none (cj (vs:=x.c) rfl bV aP hc73) ?_
     refine .e2 (i:=8) (j:=12) (by kernel_rfl) rfl rfl rfl rfl .none .none hs ?_ ?_
     ·refine .call je rfl (dL (s:=s) (t:=x) hs (h1.mono hle6) (h2.mono hle6) (h3.mono hle6) (h4.mono hle6)) ?_;rintro _ w ⟨H7,lo4,hi4,e5,hle7,rfl,hE,hs⟩
      obtain ⟨rfl,rfl,rfl⟩:=hD.uniq hE
      have hleF:=hle05.trans (hle6.trans hle7)
      refine .go ?_
      refine .z 9 rfl zm ?_;refine .z 10 rfl zex ?_;refine .z 11 rfl zex ?_
      refine .e1 (i:=12) (by kernel_rfl) rfl rfl .none hs ?_
      refine .alloc hs bq rfl ?_;intro b17 w hs
      refine .go ?_
      refine .e1 (i:=13) (by kernel_rfl) rfl rfl .none hs ?_
      refine .aS (vs:=[_,_]) hs rfl rfl az ?_;intro w hs
      refine .go ?_
      refine .z 14 rfl zg ?_;refine .done (by kernel_rfl) hs ?_
      refine .ai (.y hs (zls [_,_] aW az) (.y hs (zls [_,_] aW az) ?_))
      refine .q hs (iN fT fU bL (fun f hf=>by
       simp only [List.mem_cons,List.not_mem_nil,or_false] at hf
       rcases hf with rfl|rfl<;>exact ⟨by decide,aK,af⟩) rfl rfl) ?_
      rw [decide_eq_true ⟨rfl,rfl⟩]
      refine .z zm ?_
      refine .gT rfl rfl ?_
      refine .z zm ?_
      refine .gT rfl rfl ?_
      refine .z zm ?_
      refine .gT rfl rfl ?_
      refine .z fA (.z zpT (.z zg (.nil ?_)))
      refine .ret (Fin.bI gj rfl ?_)
      exact ⟨by simp,H7,hleF,hs.out⟩
     ·refine .alloc hs bq rfl ?_;intro b17 w hs
      refine .go ?_
      refine .e1 (i:=8) (by kernel_rfl) rfl rfl .none hs ?_
      refine .call je rfl (dL (s:=s) (t:=x) hs (h1.mono hle6) (h2.mono hle6) (h3.mono hle6) (h4.mono hle6)) ?_;rintro _ w ⟨H7,lo4,hi4,e5,hle7,rfl,hE,hs⟩
      obtain ⟨rfl,rfl,rfl⟩:=hD.uniq hE
      have hleF:=hle05.trans (hle6.trans hle7)
      refine .go ?_
      refine .z 9 rfl zm ?_;refine .z 10 rfl zex ?_;refine .z 11 rfl zex ?_
      refine .e1 (i:=13) (by kernel_rfl) rfl rfl .none hs ?_
      refine .aS (vs:=[_,_]) hs rfl rfl az ?_;intro w hs
      refine .go ?_
      refine .z 14 rfl zg ?_;refine .done (by kernel_rfl) hs ?_
      refine .ai (.y hs (zls [_,_] aW az) (.y hs (zls [_,_] aW az) ?_))
      refine .q hs (iN fT fU bL (fun f hf=>by
       simp only [List.mem_cons,List.not_mem_nil,or_false] at hf
       rcases hf with rfl|rfl<;>exact ⟨by decide,aK,af⟩) rfl rfl) ?_
      rw [decide_eq_true ⟨rfl,rfl⟩]
      refine .z zm ?_
      refine .gT rfl rfl ?_
      refine .z zm ?_
      refine .gT rfl rfl ?_
      refine .z zm ?_
      refine .gT rfl rfl ?_
      refine .z fA (.z zpT (.z zg (.nil ?_)))
      refine .ret (Fin.bI gj rfl ?_)
      exact ⟨by simp,H7,hleF,hs.out⟩
    ·refine .alloc hs bq rfl ?_;intro b17 w hs
     refine .go ?_
     refine .e1 (i:=5) (by kernel_rfl) rfl rfl .none hs ?_
     refine .call cf rfl (eO hs (by omega)) ?_;rintro _ w ⟨rfl,hs⟩
     rw [hk]
     refine .go ?_
     refine .ixX (enc:=TD.c) (i:=6) hs rfl (by kernel_rfl) .none (hT.mono hle6) rfl rfl aF aP hx (by first|rfl|assumption|omega) ?_;intro b73 o73 hc73
     refine .r (i:=7) hs rfl (by kernel_rfl) .none (cj (vs:=x.c) rfl bV aP hc73) ?_
     refine .e1 (i:=8) (by kernel_rfl) rfl rfl .none hs ?_
     refine .call je rfl (dL (s:=s) (t:=x) hs (h1.mono hle6) (h2.mono hle6) (h3.mono hle6) (h4.mono hle6)) ?_;rintro _ w ⟨H7,lo4,hi4,e5,hle7,rfl,hE,hs⟩
     obtain ⟨rfl,rfl,rfl⟩:=hD.uniq hE
     have hleF:=hle05.trans (hle6.trans hle7)
     refine .go ?_
     refine .z 9 rfl zm ?_;refine .z 10 rfl zex ?_;refine .z 11 rfl zex ?_
     refine .e1 (i:=13) (by kernel_rfl) rfl rfl .none hs ?_
     refine .aS (vs:=[_,_]) hs rfl rfl az ?_;intro w hs
     refine .go ?_
     refine .z 14 rfl zg ?_;refine .done (by kernel_rfl) hs ?_
     refine .ai (.y hs (zls [_,_] aW az) (.y hs (zls [_,_] aW az) ?_))
     refine .q hs (iN fT fU bL (fun f hf=>by
      simp only [List.mem_cons,List.not_mem_nil,or_false] at hf
      rcases hf with rfl|rfl<;>exact ⟨by decide,aK,af⟩) rfl rfl) ?_
     rw [decide_eq_true ⟨rfl,rfl⟩]
     refine .z zm ?_
     refine .gT rfl rfl ?_
     refine .z zm ?_
     refine .gT rfl rfl ?_
     refine .z zm ?_
     refine .gT rfl rfl ?_
     refine .z fA (.z zpT (.z zg (.nil ?_)))
     refine .ret (Fin.bI gj rfl ?_)
     exact ⟨by simp,H7,hleF,hs.out⟩
  ·refine .alloc hs bq rfl ?_;intro b15 w hs
   refine .go ?_
   refine .e1 (i:=5) (by kernel_rfl) rfl rfl .none hs ?_
   refine .call cf rfl (eO hs (by omega)) ?_;rintro _ w ⟨rfl,hs⟩
   have hk1:=Int.emod_nonneg n (show (ts.length:Int)≠0 by omega)
   have hk2:=Int.emod_lt_of_pos n (show 0<(ts.length:Int) by omega)
   obtain ⟨k,hk⟩:∃k:Nat,n%(ts.length:Int)=k:=⟨_,(Int.toNat_of_nonneg hk1).symm⟩
   rw [hk] at hk2 ⊢
   obtain ⟨x,hx⟩:=nth (l:=ts) (k:=k) (by omega)
   refine .go ?_
   refine .ixX (enc:=TD.c) (i:=6) hs rfl (by kernel_rfl) .none hT rfl rfl aF aP hx (by first|rfl|assumption|omega) ?_;intro b61 o61 hc61
   refine .r (i:=7) hs rfl (by kernel_rfl) .none (cj (vs:=x.c) rfl bV aP hc61) ?_
   refine .e1 (i:=8) (by kernel_rfl) rfl rfl .none hs ?_
   refine .call wG rfl (fG (s:=s) (t:=x) hs h1 h2 h3 h4) ?_;rintro _ w ⟨H6,lo3,hi3,e4,hle6,rfl,hD,hs⟩
   refine .go ?_
   refine .z 9 rfl zm ?_;refine .z 10 rfl zex ?_;refine .z 11 rfl zex ?_
   refine .e1 (i:=13) (by kernel_rfl) rfl rfl .none hs ?_
   refine .aS (vs:=[_,_]) hs rfl rfl az ?_;intro w hs
   refine .go ?_
   refine .z 14 rfl zg ?_;refine .done (by kernel_rfl) hs ?_
   refine .seq (.draw mix rfl hs ?_);intro w hs
   refine .ys 0 rfl hs [_,_,_,_,_,_,_,_] aN aD ?_;refine .z 1 rfl zm ?_;refine .z 2 rfl zm ?_;refine .z 3 rfl zm ?_;refine .z 4 rfl (cM aF) ?_
   refine .e2 (i:=5) (j:=12) (by kernel_rfl) rfl rfl rfl rfl .none .none hs ?_ ?_
   ·refine .call cf rfl (eO hs (by omega)) ?_;rintro _ w ⟨rfl,hs⟩
    rw [hk]
    refine .go ?_
    refine .ixX (enc:=TD.c) (i:=6) hs rfl (by kernel_rfl) .none (hT.mono hle6) rfl rfl aF aP hx (by first|rfl|assumption|omega) ?_;intro b73 o73 hc73
    refine .r (i:=7) hs rfl (by kernel_rfl) .none (cj (vs:=x.c) rfl bV aP hc73) ?_
    refine .e2 (i:=8) (j:=12) (by kernel_rfl) rfl rfl rfl rfl .none .none hs ?_ ?_
    ·refine .call je rfl (dL (s:=s) (t:=x) hs (h1.mono hle6) (h2.mono hle6) (h3.mono hle6) (h4.mono hle6)) ?_;rintro _ w ⟨H7,lo4,hi4,e5,hle7,rfl,hE,hs⟩
     obtain ⟨rfl,rfl,rfl⟩:=hD.uniq hE
     have hleF:=hle05.trans (hle6.trans hle7)
     refine .go ?_
     refine .z 9 rfl zm ?_;refine .z 10 rfl zex ?_;refine .z 11 rfl zex ?_
     refine .e1 (i:=12) (by kernel_rfl) rfl rfl .none hs ?_
     refine .alloc hs bq rfl ?_;intro b17 w hs
     refine .go ?_
     refine .e1 (i:=13) (by kernel_rfl) rfl rfl .none hs ?_
     refine .aS (vs:=[_,_]) hs rfl rfl az ?_;intro w hs
     refine .go ?_
     refine .z 14 rfl zg ?_;refine .done (by kernel_rfl) hs ?_
     refine .ai (.y hs (zls [_,_] aW az) (.y hs (zls [_,_] aW az) ?_))
     refine .q hs (iN fT fU bL (fun f hf=>by
      simp only [List.mem_cons,List.not_mem_nil,or_false] at hf
      rcases hf with rfl|rfl<;>exact ⟨by decide,aK,af⟩) rfl rfl) ?_
     rw [decide_eq_true ⟨rfl,rfl⟩]
     refine .z zm ?_
     refine .gT rfl rfl ?_
     refine .z zm ?_
     refine .gT rfl rfl ?_
     refine .z zm ?_
     refine .gT rfl rfl ?_
     refine .z fA (.z zpT (.z zg (.nil ?_)))
     refine .ret (Fin.bI gj rfl ?_)
     exact ⟨by simp,H7,hleF,hs.out⟩
    ·refine .alloc hs bq rfl ?_;intro b17 w hs
     refine .go ?_
     refine .e1 (i:=8) (by kernel_rfl) rfl rfl .none hs ?_
     refine .call je rfl (dL (s:=s) (t:=x) hs (h1.mono hle6) (h2.mono hle6) (h3.mono hle6) (h4.mono hle6)) ?_;rintro _ w ⟨H7,lo4,hi4,e5,hle7,rfl,hE,hs⟩
     obtain ⟨rfl,rfl,rfl⟩:=hD.uniq hE
     have hleF:=hle05.trans (hle6.trans hle7)
     refine .go ?_
     refine .z 9 rfl zm ?_;refine .z 10 rfl zex ?_;refine .z 11 rfl zex ?_
     refine .e1 (i:=13) (by kernel_rfl) rfl rfl .none hs ?_
     refine .aS (vs:=[_,_]) hs rfl rfl az ?_;intro w hs
     refine .go ?_
     refine .z 14 rfl zg ?_;refine .done (by kernel_rfl) hs ?_
     refine .ai (.y hs (zls [_,_] aW az) (.y hs (zls [_,_] aW az) ?_))
     refine .q hs (iN fT fU bL (fun f hf=>by
      simp only [List.mem_cons,List.not_mem_nil,or_false] at hf
      rcases hf with rfl|rfl<;>exact ⟨by decide,aK,af⟩) rfl rfl) ?_
     rw [decide_eq_true ⟨rfl,rfl⟩]
     refine .z zm ?_
     refine .gT rfl rfl ?_
     refine .z zm ?_
     refine .gT rfl rfl ?_
     refine .z zm ?_
     refine .gT rfl rfl ?_
     refine .z fA (.z zpT (.z zg (.nil ?_)))
     refine .ret (Fin.bI gj rfl ?_)
     exact ⟨by simp,H7,hleF,hs.out⟩
   ·refine .alloc hs bq rfl ?_;intro b17 w hs
    refine .go ?_
    refine .e1 (i:=5) (by kernel_rfl) rfl rfl .none hs ?_
    refine .call cf rfl (eO hs (by omega)) ?_;rintro _ w ⟨rfl,hs⟩
    rw [hk]
    refine .go ?_
    refine .ixX (enc:=TD.c) (i:=6) hs rfl (by kernel_rfl) .none (hT.mono hle6) rfl rfl aF aP hx (by first|rfl|assumption|omega) ?_;intro b73 o73 hc73
    refine .r (i:=7) hs rfl (by kernel_rfl) .none (cj (vs:=x.c) rfl bV aP hc73) ?_
    refine .e1 (i:=8) (by kernel_rfl) rfl rfl .none hs ?_
    refine .call je rfl (dL (s:=s) (t:=x) hs (h1.mono hle6) (h2.mono hle6) (h3.mono hle6) (h4.mono hle6)) ?_;rintro _ w ⟨H7,lo4,hi4,e5,hle7,rfl,hE,hs⟩
    obtain ⟨rfl,rfl,rfl⟩:=hD.uniq hE
    have hleF:=hle05.trans (hle6.trans hle7)
    refine .go ?_
    refine .z 9 rfl zm ?_;refine .z 10 rfl zex ?_;refine .z 11 rfl zex ?_
    refine .e1 (i:=13) (by kernel_rfl) rfl rfl .none hs ?_
    refine .aS (vs:=[_,_]) hs rfl rfl az ?_;intro w hs
    refine .go ?_
    refine .z 14 rfl zg ?_;refine .done (by kernel_rfl) hs ?_
    refine .ai (.y hs (zls [_,_] aW az) (.y hs (zls [_,_] aW az) ?_))
    refine .q hs (iN fT fU bL (fun f hf=>by
     simp only [List.mem_cons,List.not_mem_nil,or_false] at hf
     rcases hf with rfl|rfl<;>exact ⟨by decide,aK,af⟩) rfl rfl) ?_
    rw [decide_eq_true ⟨rfl,rfl⟩]
    refine .z zm ?_
    refine .gT rfl rfl ?_
    refine .z zm ?_
    refine .gT rfl rfl ?_
    refine .z zm ?_
    refine .gT rfl rfl ?_
    refine .z fA (.z zpT (.z zg (.nil ?_)))
    refine .ret (Fin.bI gj rfl ?_)
    exact ⟨by simp,H7,hleF,hs.out⟩
end Go.Proofs.YtddaejgfjlneoaaGreat
