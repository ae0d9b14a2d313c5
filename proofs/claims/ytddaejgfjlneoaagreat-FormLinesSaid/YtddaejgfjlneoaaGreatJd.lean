/-
  Texts of these claims, joined: Zh Zi Zl Zm Zn Zo Zp Zq Zr Zs Zt Zu Zv Zx Zy Nd Ni No Nq Nv Ob.
-/
import Derived.Test.YtddaejgfjlneoaaGreatJc
namespace Go.Proofs.YtddaejgfjlneoaaGreat
open Go.MW
variable{H:a8}{w:World}{σ:List Ent}
theorem iZ{s:Srv}{ts:List TD}{vst vwa vr vc vt vl:Value}{en:Ent}{bm:Nat}{ls:List Lim}(hs:St H w (.blk bm [I s.sp.id,I s.sp.src,vst,vwa,I s.sp.al,I s.sp.up,vr,vc,vt,vl]::en::σ))(hk:MkK H s ts vst vwa vr vc vt)(hO:bX 4 vl (gd ls) en)(hl:ls.length≤10000)(hok:dj s.sp)(htl:ts.length≤100)(hcl:s.cs.length≤20)(hc:∀c∈s.cs,so c):
  Cl Tryz.prog 178 [.pointer (some ⟨bm,0,none⟩)] w fun _ w'=>∃H1 vl' en',HLe H H1∧bX 4 vl' (gd (ls++oC s.sp ts s.cs 0 s.cs.length)) en'∧St H1 w' (.blk bm [I s.sp.id,I s.sp.src,vst,vwa,I s.sp.al,I s.sp.up,vr,vc,vt,vl']::en'::σ):=by
 refine Cl.o Tryz.func178 Tryz.ntmps178 ag1 ?_
 refine .region (.z zm ?_)
 refine .o (.call Tryz.call117 rfl (fV (s:=s) (ts:=ts) (j0:=0) hs hk hO hl hok htl hcl hc aj) ?_);rintro _ w hs
 refine .nil ?_
 exact Fin.sy Tryz.results178 hs
set_option maxHeartbeats 1000000 in
theorem kD{s:Srv}{ts:List TD}{vst vwa vr vc vt vl:Value}{en:Ent}{bm:Nat}{ls:List Lim}(hs:St H w (.blk bm [I s.sp.id,I s.sp.src,vst,vwa,I s.sp.al,I s.sp.up,vr,vc,vt,vl]::en::σ))(hk:MkK H s ts vst vwa vr vc vt)(hO:bX 4 vl (gd ls) en)(hl:ls.length≤10000)(hok:dj s.sp)(htl:ts.length≤100)(hrl:s.rs.length≤60)(hr:∀r∈s.rs,fQ s.sp r)(hmem:∀r∈s.rs,r.td∈ts):
  Cl Tryz.prog 179 [.pointer (some ⟨bm,0,none⟩)] w fun _ w'=>∃H1 vl' en',HLe H H1∧bX 4 vl' (gd (ls++tB s.sp ts s.rs s.rs.length)) en'∧St H1 w' (.blk bm [I s.sp.id,I s.sp.src,vst,vwa,I s.sp.al,I s.sp.up,vr,vc,vt,vl']::en'::σ):=by
 have hsm:=dM hok
 obtain ⟨at_,ct,rfl⟩:=RTd.shape hk.ts
 obtain ⟨ar,cr,rfl⟩:=RRd.shape hk.rs
 refine Cl.o Tryz.func179 Tryz.ntmps179 ag1 ?_
 refine .ai (.z zm (.z znc (.z (zfa bL) (.z (zfa dv) (.y hs (zld CE) (.z (df bI) (.z zm (.nil ?_))))))))
 refine .for (N:=s.rs.length) (J:=fun i fr w=>fr=[(9,.slice ar s.rs.length cr),(0,.pointer (some ⟨bm,0,none⟩))]∧∃vl en,bX 4 vl (gd (ls++tB s.sp ts s.rs i)) en∧St H w (.blk bm [I s.sp.id,I s.sp.src,vst,vwa,I s.sp.al,I s.sp.up,.slice ar s.rs.length cr,vc,.slice at_ ts.length ct,vl]::en::σ)) aj ?_ ?_ ?_
 ·exact .mk ⟨rfl,vl,en,by show bX 4 vl (gd (ls++[])) en;rw [List.append_nil];exact hO,hs⟩
 ·rintro i fr w hi ⟨rfl,vl,en,hO,hs⟩
  obtain ⟨r,hx⟩:=nth hi
  obtain ⟨g1,g2,g3,g4,g5,g6,g7⟩:=hr r (List.mem_of_getElem? hx)
  obtain ⟨k,k1,k2,k3⟩:=dL (hmem r (List.mem_of_getElem? hx))
  have hrl1:=e9 s.sp ts s.rs i
  obtain ⟨al,ll,cl,rfl,hll⟩:=hO.shape
  refine .block (.ai ?_)
  refine .ixX (enc:=Rdg.c) hs hk.rs rfl rfl bI bu hx dm ?_;intro b13 o13 hc13
  refine .q hs (dc (vs:=(Rdg.c r)) rfl fw bu hc13) ?_
  refine .o (.alloc hs eW rfl fun b3 w hs=>?_)
  refine .o (.aP (vs:=r.c) hs rfl rfl bu fun w hs=>?_)
  change St _ _ (.blk b3 [I r.src,I r.st,I r.wa,I r.val,I r.tol,I r.tape,I r.day]::_) at hs
  refine .nil ?_
  refine .seq (.draw mix rfl hs fun w hs=>?_)
  refine .z 0 rfl zm ?_;refine .z 1 rfl znc ?_;refine .z 2 rfl (zfa dd) ?_;refine .y 3 rfl hs CD ?_;refine .ys 4 rfl hs [_,_,_,_,_,_,_] fw bu ?_
  refine .E 5 hs ?_
  refine .call CI rfl (cS hs) ?_;rintro _ w ⟨rfl,hs⟩
  refine .go ?_
  refine .E 6 hs ?_
  refine .call Tryz.call89 rfl (jg (t:=r.td) hs hk.ts aj) ?_;rintro _ w ⟨rfl,hs⟩
  refine .go ?_
  refine .z 7 rfl zg ?_;refine .D hs ?_
  refine .draw mix rfl hs fun w hs=>?_
  refine .z 0 rfl zm ?_;refine .z 1 rfl zm ?_;refine .z 2 rfl zm ?_;refine .z 4 rfl zm ?_;refine .z 5 rfl znc ?_;refine .z 6 rfl (zfa bL) ?_;refine .z 7 rfl (zfa aS) ?_;refine .ys 8 rfl hs [_,_,_,_,_,_] aK az ?_;refine .z 9 rfl (zfa fB) ?_;refine .y 10 rfl hs af ?_
  refine .z 11 rfl (zfa fA) ?_;refine .y 12 rfl hs af ?_;refine .z 14 rfl (zfa eu) ?_;refine .y 15 rfl hs af ?_;refine .z 16 rfl (zfa cI) ?_;refine .y 17 rfl hs af ?_;refine .z 18 rfl cR ?_;refine .z 19 rfl (zfa cI) ?_;refine .y 20 rfl hs af ?_;refine .z 21 rfl (zfa eu) ?_
  refine .y 22 rfl hs af ?_;refine .z 23 rfl iR ?_;refine .z 24 rfl (zfa iK) ?_;refine .y 25 rfl hs af ?_
  refine .E 3 hs ?_
  refine .call Tryz.call116 rfl (eN (s:=s.sp) hs (.there .here) hk.st hk.wa ⟨aj,aj⟩ ⟨aj,aj⟩) ?_;rintro _ w ⟨rfl,hs⟩
  refine .go ?_
  refine .E 13 hs ?_
  refine .call Tryz.call118 rfl (fJ (s:=s.sp) hs hk.wa aj ⟨aj,aj⟩ ⟨aj,aj⟩) ?_;rintro _ w ⟨rfl,hs⟩
  refine .go ?_
  refine .E 26 hs ?_
  refine .call oV rfl (dh (ls:=ls++tB s.sp ts s.rs i) (hs.sb:St H w (.blk bm _::en:: .blk b3 _::σ)) hO (by rw [List.length_append];omega)) ?_;rintro _ w ⟨vl3,en3,hO3,hs⟩
  refine .go ?_
  refine .D hs ?_
  refine nB (nT ?_)
  rw [List.append_assoc,show tB s.sp ts s.rs i++two ((s.sp.many:Int)+1+iw ts r.td) (1+r.st*s.sp.wa.length+r.wa) (r.val+r.tol) (r.tol - r.val) r.src=tB s.sp ts s.rs (i+1) by rw [←zD hx];rfl] at hO3
  exact .mk ⟨rfl,vl3,en3,hO3,hs.sb⟩
 ·rintro fr w ⟨rfl,vl,en,hO,hs⟩
  exact Fin.sy Tryz.results179 ⟨H,vl,en,HLe.refl _,hO,hs⟩
def fnK:Nat→Nat
 |0=>174
 |1=>175
 |2=>176
 |3=>177
 |4=>178
 |_=>179
theorem yx{k:Nat}(hk:k<6):∀args w,(callFunc (fnK k) args).run Tryz.prog w= .ok (.enter (fnK k) args) w:=by
 have h:k=0∨k=1∨k=2∨k=3∨k=4∨k=5:=by omega
 rcases h with rfl|rfl|rfl|rfl|rfl|rfl
 ·exact Tryz.call174
 ·exact Tryz.call175
 ·exact Tryz.call176
 ·exact Tryz.call177
 ·exact Tryz.call178
 ·exact Tryz.call179
theorem wb{s:Srv}{vst vwa vr vc vt vl:Value}{en:Ent}{bm k:Nat}(hs:St H w (.blk bm [I s.sp.id,I s.sp.src,vst,vwa,I s.sp.al,I s.sp.up,vr,vc,vt,vl]::en::σ))(hk:MkK H s s.aI vst vwa vr vc vt)(hO:bX 4 vl (gd (s.parts k)) en)(he:s.early)(hk6:k<6):
  Cl Tryz.prog (fnK k) [.pointer (some ⟨bm,0,none⟩)] w fun _ w'=>∃H1 vl' en',HLe H H1∧bX 4 vl' (gd (s.parts (k+1))) en'∧St H1 w' (.blk bm [I s.sp.id,I s.sp.src,vst,vwa,I s.sp.al,I s.sp.up,vr,vc,vt,vl']::en'::σ):=by
 have hl:=ji he k aj
 obtain ⟨hok,h1,h2,h3,h4⟩:=he
 have htl:s.aI.length≤100:=by have:=cP s.rs;unfold Srv.aI;omega
 have h:k=0∨k=1∨k=2∨k=3∨k=4∨k=5:=by omega
 rcases h with rfl|rfl|rfl|rfl|rfl|rfl
 ·exact kE hs hk hO (Nat.le_trans hl ed) hok
 ·exact np hs hk hO (Nat.le_trans hl ed) hok
 ·exact qt hs hk hO (Nat.le_trans hl ed) hok
 ·exact mF hs hk hO (Nat.le_trans hl ed) hok htl
 ·exact iZ hs hk hO (Nat.le_trans hl ed) hok htl h2 h4
 ·exact kD hs hk hO (Nat.le_trans hl ed) hok htl h1 h3 fun r hr=>dY.2 ⟨r,hr,rfl⟩
def fnV(b:Nat)(k:Nat):Value:= .func (.func (fnK k)) #[.pointer (some ⟨b,0,none⟩)] #[]
theorem zT(b:Nat){k:Nat}(hk:k<6):[fnV b 0,fnV b 1,fnV b 2,fnV b 3,fnV b 4,fnV b 5][k]? =some (fnV b k):=by
 have h:k=0∨k=1∨k=2∨k=3∨k=4∨k=5:=by omega
 rcases h with rfl|rfl|rfl|rfl|rfl|rfl<;>rfl
set_option maxHeartbeats 1000000 in
theorem gG{s:Srv}{vst vwa vr vc:Value}(hs:St H w σ)(h1:RI H vst s.sp.st)(h2:RI H vwa s.sp.wa)(h3:RRd H vr s.rs)(h4:RCm H vc s.cs)(he:s.early):
  Cl Tryz.prog 92 [.agg #[I s.sp.id,I s.sp.src,vst,vwa,I s.sp.al,I s.sp.up,vr,vc]] w fun u w'=>∃H1 vl en,HLe H H1∧u= .agg #[I s.sys.many,vl]∧bX 4 vl (gd s.bn) en∧St H1 w' (en::σ):=by
 have hsm:=dM he.1
 have htl:s.aI.length≤60:=by have:=cP s.rs;have:=he.2.1;unfold Srv.aI;omega
 refine Cl.o Tryz.func92 Tryz.ntmps92 ag1 ?_
 refine .ai ?_
 refine .bx hs fun b1 w hs=>?_
 refine .o (.alloc hs ec rfl fun b2 w hs=>?_)
 refine .nil ?_
 refine .seq (.draw mix rfl hs fun w hs=>?_)
 refine .ys 0 rfl hs [_,_,_,_,_,_,_,_] bg aM ?_;refine .ys 1 rfl hs [_,_,_,_,_,_,_,_] bg aM ?_
 refine .E 2 hs ?_
 refine .call Tryz.call90 rfl (eL hs h3 (by have:=he.2.1;omega)) ?_;rintro v8 w ⟨H1,hle1,hT,hs⟩
 obtain ⟨at_,ct,rfl⟩:=RTd.shape hT
 have hk0:MkK H1 s s.aI vst vwa vr vc (.slice at_ s.aI.length ct):=⟨h1.mono hle1,h2.mono hle1,h3.mono hle1,h4.mono hle1,hT⟩
 refine .go ?_
 refine .z 3 rfl (zbd (vs:=[(0,.agg #[I s.sp.id,I s.sp.src,vst,vwa,I s.sp.al,I s.sp.up,vr,vc]),(1,.slice at_ s.aI.length ct)]) [I s.sp.id,I s.sp.src,vst,vwa,I s.sp.al,I s.sp.up,vr,vc,.slice at_ s.aI.length ct,.slice none 0 0] ig rfl ay) ?_
 refine .E 4 hs ?_
 refine .box hs rfl rfl ?_;intro b10 w hs
 refine .go ?_
 refine .z 5 rfl zg ?_;refine .D hs ?_
 refine .seq (.ai (.z zm ?_))
 refine .q hs (bO (f:=[_]) (c:=[]) rfl rfl) ?_
 refine .z zm ?_
 refine .q hs (bO (f:=[_]) (c:=[]) rfl rfl) ?_
 refine .z zm ?_
 refine .q hs (bO (f:=[_]) (c:=[]) rfl rfl) ?_
 refine .z zm ?_
 refine .q hs (bO (f:=[_]) (c:=[]) rfl rfl) ?_
 refine .z zm ?_
 refine .q hs (bO (f:=[_]) (c:=[]) rfl rfl) ?_
 refine .z zm ?_
 refine .q hs (bO (f:=[_]) (c:=[]) rfl rfl) ?_
 refine .o (.buildSlice (cells:=[fnV b10 0,fnV b10 1,fnV b10 2,fnV b10 3,fnV b10 4,fnV b10 5]) hs qO rfl ay fun b23 w hs=>?_)
 refine .z (df Tryz.runUnderlying223) ?_
 refine .z zm (.nil ?_)
 refine .for (N:=6) (J:=fun k fr w=>fr=[(23,.slice (some ⟨b23,0,none⟩) 6 6),(3,.pointer (some ⟨b10,0,none⟩)),(2,.pointer (some ⟨b2,0,none⟩)),(1,.pointer (some ⟨b1,0,none⟩))]∧∃H2 vl en,HLe H1 H2∧bX 4 vl (gd (s.parts k)) en∧St H2 w (.blk b10 [I s.sp.id,I s.sp.src,vst,vwa,I s.sp.al,I s.sp.up,vr,vc,.slice at_ s.aI.length ct,vl]::en:: .blk b23 [fnV b10 0,fnV b10 1,fnV b10 2,fnV b10 3,fnV b10 4,fnV b10 5]:: .blk b2 [I 0,.slice none 0 0]:: .blk b1 [I s.sp.id,I s.sp.src,vst,vwa,I s.sp.al,I s.sp.up,vr,vc]::σ)) aj ?_ ?_ ?_
 ·exact .mk ⟨rfl,H1,.slice none 0 0,.nul,HLe.refl _,.nil 4 none,hs.nul.sb⟩
 ·rintro k fr w hk ⟨rfl,H2,vl,en,hle2,hO,hs⟩
  refine .block (.ai ?_)
  refine .z (zix Tryz.runUnderlying223 Tryz.sizeOf1) ?_
  refine .q hs (fT rfl Tryz.isAgg1 (hv:=zT b10 hk)) ?_
  refine .z zg (.nil (.region (.z zm ?_)))
  refine .o (.lP (first:=[.pointer (some ⟨b10,0,none⟩)]) (cap:=[]) rfl rfl (yx hk) (wb hs (hk0.mono hle2) hO he hk) ?_);rintro _ w ⟨H3,vl3,en3,hle3,hO3,hs⟩
  refine .nil ?_
  refine nB (nT ?_)
  exact .mk ⟨rfl,H3,vl3,en3,hle2.trans hle3,hO3,hs⟩
 ·rintro fr w ⟨rfl,H2,vl,en,hle2,hO,hs⟩
  rw [s.sS] at hO
  obtain ⟨al,ll,cl,rfl,hll⟩:=hO.shape
  refine nT ?_
  refine .seq (.draw mix rfl hs fun w hs=>?_)
  refine .z 0 rfl (zfa aS) ?_;refine .ys 1 rfl hs [_,_,_,_,_,_] aK az ?_;refine .z 3 rfl zm ?_;refine .z 4 rfl znc ?_;refine .z 5 rfl (zfa dd) ?_;refine .y 6 rfl hs CD ?_;refine .z 7 rfl (df aW) ?_;refine .z 9 rfl zm ?_;refine .z 10 rfl znc ?_;refine .z 11 rfl (zfa dT) ?_
  refine .y 12 rfl hs cK ?_
  refine .E 2 hs ?_
  refine .call Tryz.call91 rfl (dq (s:=s.sp) hs (h1.mono (hle1.trans hle2)) (h2.mono (hle1.trans hle2)) ⟨aj,aj⟩) ?_;rintro _ w ⟨rfl,hs⟩
  refine .go ?_
  refine .z 8 rfl cR ?_;refine .z 13 rfl (zbd [_,_] jY) ?_
  refine .E 14 hs ?_
  refine .aP (vs:=[_,_]) hs rfl rfl aA ?_;intro w hs
  refine .go ?_
  refine .D hs ?_
  refine .ret ?_
  replace hs:St H2 w (.blk b2 [I ((s.sp.many:Int)+(s.aI.length:Int)),.slice al ll cl]::en::σ):=hs.sb
  exact Fin.gR [] [] hs fun w hs=>⟨_,results1 Tryz.results92 (dF (vs:=[_,_]) hs rfl aV aA),H2,_,en,hle1.trans hle2,by show _=Value.agg #[I ((s.sp.many+s.aI.length:Nat):Int),_];rw [Int.natCast_add],hO,hs.tail⟩
theorem cU{s:Srv}{vst vwa vr vc:Value}(hs:St H w σ)(h1:RI H vst s.sp.st)(h2:RI H vwa s.sp.wa)(h3:RRd H vr s.rs)(h4:RCm H vc s.cs)(he:s.early):
  Cl Tryz.prog 92 [.agg #[I s.sp.id,I s.sp.src,vst,vwa,I s.sp.al,I s.sp.up,vr,vc]] w fun u w'=>∃H1,HLe H H1∧RSy H1 u s.sys∧St H1 w' σ:=by
 refine (gG hs h1 h2 h3 h4 he).mono ?_
 rintro u w' ⟨H1,vl,en,hle,rfl,hO,hs⟩
 have hl:=ji he 6 aj
 rw [s.sS] at hl
 obtain ⟨H2,hle2,hR,hs⟩:=bX.bK (m:=4) (cs:=s.bn.map Lim.c) hO (fun c hc=>by simp only [List.mem_map] at hc;obtain ⟨x,_,rfl⟩:=hc;rfl) aj (by rw [List.length_map];omega) hs .here
 exact ⟨H2,hle.trans hle2,⟨vl,rfl,hR⟩,hs⟩
set_option maxHeartbeats 1000000 in
theorem dS{s:Srv}{vst vwa vr vc:Value}(hs:St H w σ)(h1:RI H vst s.sp.st)(h2:RI H vwa s.sp.wa)(h3:RRd H vr s.rs)(h4:RCm H vc s.cs):
  Cl Tryz.prog 42 [.agg #[I s.sp.id,I s.sp.src,vst,vwa,I s.sp.al,I s.sp.up,vr,vc]] w fun u w'=>∃H1 e,HLe H H1∧u=I e∧nN s e∧St H1 w' σ:=by
 obtain ⟨ast,cst,rfl⟩:=RI.shape h1
 obtain ⟨awa,cwa,rfl⟩:=RI.shape h2
 obtain ⟨ar,cr,rfl⟩:=RRd.shape h3
 obtain ⟨ac,cc,rfl⟩:=RCm.shape h4
 refine Cl.o Tryz.func42 Tryz.ntmps42 ag1 ?_
 refine .ai ?_
 refine .bx hs fun b1 w hs=>?_
 refine .z zg (.nil (.seq (.ai (.z (zfa aS) (.y hs (zls [_,_,_,_,_,_] aK az) ?_)))))
 refine .o (.call Tryz.call41 rfl (eM (s:=s.sp) hs h1 h2) ?_);rintro _ w ⟨H1,e,hle1,rfl,he,hs⟩
 refine .z zg (.nil (.ai (.z zm (.z m9 (.nil ?_)))))
 refine (.ie rfl (fun hc13=>?_) (fun hc13=>?_))
 ·refine .ai (.z zm (.z zg (.nil ?_)))
  refine .ret (rT (Fin.bF gz rfl ?_))
  have hq:¬dj s.sp∧e=30:=he.resolve_left fun h=>hc13 h.2
  exact ⟨H1,_,hle1,rfl,by rw [hq.2];exact .space hq.1,hs.out⟩
 ·refine .skip ?_
  refine nT ?_
  refine .seq (.ai (.z (zfa dv) ?_))
  have hok:dj s.sp:=(he.resolve_right fun h=>by omega).1
  refine .y hs (zld CE) (.z (df bI) (.z qZ (.z zm ?_)))
  refine .mM (t':=19) rfl (fun hb19=>?_) (fun hb19=>?_)
  ·refine .gFs 4 4 false rfl rfl rfl ?_
   refine .z zpT (.nil ?_)
   refine (.cT ?_)
   refine .ai (.z zg (.nil ?_))
   refine .ret (rT (Fin.bF gz rfl ?_))
   exact ⟨H1,_,hle1,rfl,.long hok aj,hs.out⟩
  ·refine .gT rfl rfl ?_
   refine .z (zfa fW) ?_
   refine .gT rfl rfl ?_
   refine .y hs (zld Tryz.isAgg36) ?_
   refine .gT rfl rfl ?_
   refine .z (df gx) ?_
   refine .gT rfl rfl ?_
   refine .z qZ (.z zpF (.nil ?_))
   refine (.cW rfl (fun hc24=>?_) (fun hc24=>?_))
   ·refine .ai (.z zg (.nil ?_))
    refine .ret (rT (Fin.bF gz rfl ?_))
    exact ⟨H1,_,hle1,rfl,.long hok aj,hs.out⟩
   ·refine .skip ?_
    refine nT ?_
    refine .seq (.ai (.z (zfa dv) (.y hs (zld CE) (.z (df bI) (.z zm (.nil ?_))))))
    refine .for (N:=s.rs.length) (J:=fun k fr w=>fr=[(26,.slice ar s.rs.length cr),(1,.pointer (some ⟨b1,0,none⟩))]∧(∀j<k,∀y,s.rs[j]? =some y→fQ s.sp y)∧St H1 w (.blk b1 [I s.sp.id,I s.sp.src,.slice ast s.sp.st.length cst,.slice awa s.sp.wa.length cwa,I s.sp.al,I s.sp.up,.slice ar s.rs.length cr,.slice ac s.cs.length cc]::σ)) aj ?_ ?_ ?_
    ·exact .mk ⟨rfl,fun j hj=>by omega,hs⟩
    ·rintro k fr w hk ⟨rfl,hno,hs⟩
     obtain ⟨r,hx⟩:=nth hk
     refine .block (.ai ?_)
     refine .ixX (enc:=Rdg.c) hs (h3.mono hle1) rfl rfl bI bu hx dm ?_;intro b30 o30 hc30
     refine .q hs (dc (vs:=(Rdg.c r)) rfl fw bu hc30) ?_
     refine .o (.alloc hs eW rfl fun b5 w hs=>?_)
     refine .o (.aP (vs:=r.c) hs rfl rfl bu fun w hs=>?_)
     change St _ _ (.blk b5 [I r.src,I r.st,I r.wa,I r.val,I r.tol,I r.tape,I r.day]::_) at hs
     refine .nil (.ai (.z (zfa aS) (.y hs (zls [_,_,_,_,_,_] aK az) (.y hs (zls [_,_,_,_,_,_,_] fw bu) ?_))))
     refine .o (.call Tryz.call107 rfl (eY (s:=s.sp) (r:=r) hs (h1.mono hle1) (h2.mono hle1)) ?_);rintro _ w ⟨b35,rfl,hb35,hs⟩
     refine .z jb (.nil ?_)
     refine (.cond rfl (fun hc36=>?_) (fun hc36=>?_))
     ·refine .ai (.z zg (.nil ?_))
      refine .ret (rB (rT (rB (rT (Fin.bF gz rfl ?_)))))
      exact ⟨H1,_,hle1,rfl,.rdg hok aj (fun h=>by rw [hb35.2 (h r (List.mem_of_getElem? hx))] at hc36;cases hc36),hs.out⟩
     ·refine .skip ?_
      refine nB (nT ?_)
      exact .mk ⟨rfl,ek hno hx (hb35.1 (by simpa using hc36)),hs.tail⟩
    ·rintro fr w ⟨rfl,hno,hs⟩
     have hrs:∀r∈s.rs,fQ s.sp r:=fun r hr=>by
      obtain ⟨j,hj⟩:=List.getElem?_of_mem hr
      exact hno j (List.getElem?_eq_some_iff.1 hj).1 r hj
     clear hno
     refine nT ?_
     refine .seq (.ai (.z (zfa fW) (.y hs (zld Tryz.isAgg36) (.z (df gx) (.z zm (.nil ?_))))))
     refine .for (N:=s.cs.length) (J:=fun k fr w=>fr=[(39,.slice ac s.cs.length cc),(1,.pointer (some ⟨b1,0,none⟩))]∧(∀j<k,∀y,s.cs[j]? =some y→so y)∧St H1 w (.blk b1 [I s.sp.id,I s.sp.src,.slice ast s.sp.st.length cst,.slice awa s.sp.wa.length cwa,I s.sp.al,I s.sp.up,.slice ar s.rs.length cr,.slice ac s.cs.length cc]::σ)) aj ?_ ?_ ?_
     ·exact .mk ⟨rfl,fun j hj=>by omega,hs⟩
     ·rintro k fr w hk ⟨rfl,hno,hs⟩
      obtain ⟨c,hx⟩:=nth hk
      refine .block (.ai ?_)
      refine .ixX (enc:=Cmp.c) hs (h4.mono hle1) rfl rfl gx gq hx dm ?_;intro b43 o43 hc43
      refine .q hs (dc (vs:=(Cmp.c c)) rfl Tryz.isAgg108 gq hc43) ?_
      refine .o (.alloc hs CB rfl fun b7 w hs=>?_)
      refine .o (.aP (vs:=c.c) hs rfl rfl gq fun w hs=>?_)
      change St _ _ (.blk b7 [I c.src,I c.tape,I c.fr,I c.to,I c.lo,I c.hi]::_) at hs
      refine .nil (.ai (.y hs (zls [_,_,_,_,_,_] Tryz.isAgg108 gq) ?_))
      refine .o (.call Tryz.call108 rfl (iY (c:=c) hs) ?_);rintro _ w ⟨b46,rfl,hb46,hs⟩
      refine .z jb (.nil ?_)
      refine (.cond rfl (fun hc47=>?_) (fun hc47=>?_))
      ·refine .ai (.z zg (.nil ?_))
       refine .ret (rB (rT (rB (rT (Fin.bF gz rfl ?_)))))
       exact ⟨H1,_,hle1,rfl,.cmp hok aj hrs (fun h=>by rw [hb46.2 (h c (List.mem_of_getElem? hx))] at hc47;cases hc47),hs.out⟩
      ·refine .skip ?_
       refine nB (nT ?_)
       exact .mk ⟨rfl,ek hno hx (hb46.1 (by simpa using hc47)),hs.tail⟩
     ·rintro fr w ⟨rfl,hno,hs⟩
      have hcs:∀c∈s.cs,so c:=fun c hc=>by
       obtain ⟨j,hj⟩:=List.getElem?_of_mem hc
       exact hno j (List.getElem?_eq_some_iff.1 hj).1 c hj
      have hea:s.early:=⟨hok,aj,aj,hrs,hcs⟩
      have hsm:=dM hok
      have htl:s.aI.length≤60:=by have:=cP s.rs;have:=hea.2.1;unfold Srv.aI;omega
      have hll:=ji hea 6 aj
      rw [s.sS] at hll
      have hsm2:s.sys.many=((s.sp.many+s.aI.length:Nat):Int):=rfl
      refine nT ?_
      refine .seq (.ai (.y hs (zls [_,_,_,_,_,_,_,_] bg aM) ?_))
      refine .o (.call yT rfl (cU (s:=s) hs (h1.mono hle1) (h2.mono hle1) (h3.mono hle1) (h4.mono hle1) hea) ?_);rintro _ w ⟨H2,hle2,⟨ul,rfl,hL⟩,hs⟩
      obtain ⟨al,cl,rfl⟩:=RL.shape hL
      have hsl:s.sys.bn.length=s.bn.length:=rfl
      refine .o (.alloc hs ec rfl fun b8 w hs=>?_)
      refine .o (.aP (vs:=[_,_]) hs rfl rfl aA fun w hs=>?_)
      refine .nil (.ai (.z (zfa aZ) (.y hs (zld af) (.z qZ (.z zm ?_)))))
      refine .mM (t':=54) rfl (fun hb54=>?_) (fun hb54=>?_)
      ·refine .gFs 4 3 false rfl rfl rfl ?_
       refine .z zpT (.nil ?_)
       refine (.cT ?_)
       refine .ai (.z zg (.nil ?_))
       refine .ret (rT (Fin.bF gz rfl ?_))
       exact ⟨H2,_,hle1.trans hle2,rfl,.big hea aj,hs.out⟩
      ·refine .gT rfl rfl ?_
       refine .z (zfa bp) ?_
       refine .gT rfl rfl ?_
       refine .y hs (zld cK) ?_
       refine .gT rfl rfl ?_
       refine .z (df aN) ?_
       refine .gT rfl rfl ?_
       refine .z qZ (.z zpF (.nil ?_))
       refine (.cW rfl (fun hc59=>?_) (fun hc59=>?_))
       ·refine .ai (.z zg (.nil ?_))
        refine .ret (rT (Fin.bF gz rfl ?_))
        exact ⟨H2,_,hle1.trans hle2,rfl,.big hea aj,hs.out⟩
       ·refine .skip ?_
        refine nT ?_
        refine .ai (.z zg (.nil ?_))
        refine .ret (Fin.bF gz rfl ?_)
        exact ⟨H2,_,hle1.trans hle2,rfl,.ok hea ⟨aj,aj⟩,hs.out⟩
theorem zB{s:Spc}(h:dj s):eb 9 100000 s.wa:=⟨h.wa.two,by have:=h.wa.many;omega,h.wa.low,by have:=h.wa.high;omega,h.wa.rise⟩
theorem lj{s:Spc}{vst vwa:Value}(hs:St H w σ)(h1:RI H vst s.st)(h2:RI H vwa s.wa)(hb:s.st.length≤1000∧s.wa.length≤1000):
  Cl Tryz.prog 97 [.agg #[I s.id,I s.src,vst,vwa,I s.al,I s.up]] w fun v w'=>v=I (s.many:Int)∧St H w' σ:=by
 obtain ⟨ast,cst,rfl⟩:=RI.shape h1
 obtain ⟨awa,cwa,rfl⟩:=RI.shape h2
 have hm:=gI (a:=(s.st.length:Int)) (b:=(s.wa.length:Int)) (A:=1000) (B:=1000) aj aj
 refine Cl.o Tryz.func97 Tryz.ntmps97 ag1 ?_
 refine .ai ?_
 refine .bx hs fun b1 w hs=>?_
 refine .z zg (.nil (.ai (.z (zfa aU) (.y hs (zld ak) (.z (df ad) (.z (zfa aO) (.y hs (zld ak) (.z (df ad) (.z iq ?_)))))))))
 refine .z zg (.nil ?_)
 refine .ret (Fin.bF Tryz.results97 rfl ?_)
 exact ⟨by unfold Spc.many;rw [Int.natCast_mul],hs.out⟩
theorem mB{s:Spc}{vst vwa:Value}{a b:Int}(hs:St H w σ)(h2:RI H vwa s.wa)(hb:s.wa.length≤1000)(ha: -1000≤a∧a≤1000)(hb': -1000≤b∧b≤1000):
  Cl Tryz.prog 121 [.agg #[I s.id,I s.src,vst,vwa,I s.al,I s.up],I a,I b] w fun v w'=>v=I (1+a*s.wa.length+b)∧St H w' σ:=by
 obtain ⟨awa,cwa,rfl⟩:=RI.shape h2
 have hm:=gI (a:=a) (b:=(s.wa.length:Int)) (A:=1000) (B:=1000) aj aj
 refine Cl.o Tryz.func121 Tryz.ntmps121 ag3 ?_
 refine .ai ?_
 refine .bx hs fun b3 w hs=>?_
 refine .z zg (.nil (.ai (.z zm (.z (zfa aO) (.y hs (zld ak) (.z (df ad) (.z iq (.z cR (.z zm ?_)))))))))
 refine .z cR (.z zg (.nil ?_))
 refine .ret (Fin.bF Tryz.results121 rfl ?_)
 exact ⟨rfl,hs.out⟩
theorem eZ{s:Spc}{q:Wht}{vst vwa:Value}(hs:St H w σ)(h2:RI H vwa s.wa):
  Cl Tryz.prog 238 [.agg #[I q.kind,I q.st,I q.wa,I s.id,I s.src,vst,vwa,I s.al,I s.up]] w fun v w'=>v= .bool (decide (0≤q.wa∧q.wa≤(s.wa.length:Int) - 1))∧St H w' σ:=by
 obtain ⟨awa,cwa,rfl⟩:=RI.shape h2
 have l2:=(RI.len h2).2.2
 refine Cl.o Tryz.func238 Tryz.ntmps238 ag1 ?_
 refine .ai ?_
 refine .bx hs fun b1 w hs=>?_
 refine .z zg (.nil (.ai (.z (zfa bo) (.z (zfa dK) (.y hs (zld af) (.z (zfa cQ) (.z (zfa aO) (.y hs (zld ak) (.z (df ad) ?_)))))))))
 refine .z iR ?_
 refine .o (.call bN rfl (aF hs) ?_);rintro _ w ⟨rfl,hs⟩
 refine .z zg (.nil ?_)
 refine .ret (Fin.bF Tryz.results238 rfl ?_)
 exact ⟨rfl,hs.out⟩
theorem fR{s:Spc}{q:Wht}{vst vwa:Value}(hs:St H w σ)(h1:RI H vst s.st):
  Cl Tryz.prog 243 [.agg #[I q.kind,I q.st,I q.wa,I s.id,I s.src,vst,vwa,I s.al,I s.up]] w fun v w'=>v= .bool (decide (0≤q.st∧q.st≤(s.st.length:Int) - 1))∧St H w' σ:=by
 obtain ⟨ast,cst,rfl⟩:=RI.shape h1
 have l1:=(RI.len h1).2.2
 refine Cl.o Tryz.func243 Tryz.ntmps243 ag1 ?_
 refine .ai ?_
 refine .bx hs fun b1 w hs=>?_
 refine .z zg (.nil (.ai (.z (zfa bo) (.z (zfa eP) (.y hs (zld af) (.z (zfa cQ) (.z (zfa aU) (.y hs (zld ak) (.z (df ad) ?_)))))))))
 refine .z iR ?_
 refine .o (.call bN rfl (aF hs) ?_);rintro _ w ⟨rfl,hs⟩
 refine .z zg (.nil ?_)
 refine .ret (Fin.bF Tryz.results243 rfl ?_)
 exact ⟨rfl,hs.out⟩
theorem mg{s:Spc}{q:Wht}:dn s q↔(q.kind=1∧q.st=0∧s.isW q∧0<q.wa)∨(q.kind=2∧q.st=0∧s.isW q)∨(q.kind=3∧q.wa=0∧s.isS q)∨(q.kind=4∧s.isS q∧s.isW q):=by
 constructor
 ·intro h
  cases h with
  |litres a b c d=>exact .inl ⟨a,b,c,d⟩
  |plane a b c=>exact .inr (.inl ⟨a,b,c⟩)
  |section_ a b c=>exact .inr (.inr (.inl ⟨a,b,c⟩))
  |offset a b c=>exact .inr (.inr (.inr ⟨a,b,c⟩))
 ·rintro (⟨a,b,c,d⟩|⟨a,b,c⟩|⟨a,b,c⟩|⟨a,b,c⟩)
  ·exact .litres a b c d
  ·exact .plane a b c
  ·exact .section_ a b c
  ·exact .offset a b c
theorem rO{s:Spc}{q:Wht}{vst vwa:Value}(hs:St H w σ)(h2:RI H vwa s.wa)(hk:q.kind=1):
  Cl Tryz.prog 237 [.agg #[I q.kind,I q.st,I q.wa,I s.id,I s.src,vst,vwa,I s.al,I s.up]] w fun v w'=>∃b:Bool,v= .bool b∧(b=true↔dn s q)∧St H w' σ:=by
 have hi:=mg (s:=s) (q:=q)
 simp only [Spc.isW,Spc.isS] at hi
 refine Cl.o Tryz.func237 Tryz.ntmps237 ag1 ?_
 refine .ai ?_
 refine .bx hs fun b1 w hs=>?_
 refine .z zg (.nil (.ai (.y hs (zls [_,_,_,_,_,_,_,_,_] mc gp) ?_)))
 refine .o (.call Tryz.call238 rfl (eZ hs h2) ?_);rintro _ w ⟨rfl,hs⟩
 refine .z zm ?_
 refine .bif (t':=5) rfl (fun hb5=>?_) (fun hb5=>?_)
 ·refine .gT rfl rfl ?_
  refine .z (zfa bo) ?_
  refine .gT rfl rfl ?_
  refine .z (zfa dK) ?_
  refine .gT rfl rfl ?_
  refine .y hs (zld af) ?_
  refine .gT rfl rfl ?_
  refine .z qZ (.z zpT (.z zm ?_))
  refine .mM (t':=11) rfl (fun hb11=>?_) (fun hb11=>?_)
  ·refine .gT rfl rfl ?_
   refine .z (zfa bo) ?_
   refine .gT rfl rfl ?_
   refine .z (zfa eP) ?_
   refine .gT rfl rfl ?_
   refine .y hs (zld af) ?_
   refine .gT rfl rfl ?_
   refine .z j9 (.z zpT (.z zg (.nil ?_)))
   refine .ret (Fin.bF Tryz.results237 rfl ?_)
   exact ⟨_,rfl,by rw [hi];simp_all<;>omega,hs.out⟩
  ·refine .gFs 4 8 true rfl rfl rfl ?_
   refine .z zpF (.z zg (.nil ?_))
   refine .ret (Fin.bF Tryz.results237 rfl ?_)
   exact ⟨_,rfl,by rw [hi];simp_all<;>omega,hs.out⟩
 ·refine .gFs 4 2 true rfl rfl rfl ?_
  refine .z zpF (.z zm ?_)
  refine .gFs 4 8 true rfl rfl rfl ?_
  refine .z zpF (.z zg (.nil ?_))
  refine .ret (Fin.bF Tryz.results237 rfl ?_)
  exact ⟨_,rfl,by rw [hi];simp_all<;>omega,hs.out⟩
theorem rN{s:Spc}{q:Wht}{vst vwa:Value}(hs:St H w σ)(h2:RI H vwa s.wa)(hk:q.kind=2):
  Cl Tryz.prog 240 [.agg #[I q.kind,I q.st,I q.wa,I s.id,I s.src,vst,vwa,I s.al,I s.up]] w fun v w'=>∃b:Bool,v= .bool b∧(b=true↔dn s q)∧St H w' σ:=by
 have hi:=mg (s:=s) (q:=q)
 simp only [Spc.isW,Spc.isS] at hi
 refine Cl.o Tryz.func240 Tryz.ntmps240 ag1 ?_
 refine .ai ?_
 refine .bx hs fun b1 w hs=>?_
 refine .z zg (.nil (.ai (.y hs (zls [_,_,_,_,_,_,_,_,_] mc gp) ?_)))
 refine .o (.call Tryz.call238 rfl (eZ hs h2) ?_);rintro _ w ⟨rfl,hs⟩
 refine .z zm ?_
 refine .bif (t':=5) rfl (fun hb5=>?_) (fun hb5=>?_)
 ·refine .gT rfl rfl ?_
  refine .z (zfa bo) ?_
  refine .gT rfl rfl ?_
  refine .z (zfa eP) ?_
  refine .gT rfl rfl ?_
  refine .y hs (zld af) ?_
  refine .gT rfl rfl ?_
  refine .z j9 (.z zpT (.z zg (.nil ?_)))
  refine .ret (Fin.bF Tryz.results240 rfl ?_)
  exact ⟨_,rfl,by rw [hi];simp_all<;>omega,hs.out⟩
 ·refine .gFs 4 2 true rfl rfl rfl ?_
  refine .z zpF (.z zg (.nil ?_))
  refine .ret (Fin.bF Tryz.results240 rfl ?_)
  exact ⟨_,rfl,by rw [hi];simp_all<;>omega,hs.out⟩
theorem rM{s:Spc}{q:Wht}{vst vwa:Value}(hs:St H w σ)(h1:RI H vst s.st)(hk:q.kind=3):
  Cl Tryz.prog 242 [.agg #[I q.kind,I q.st,I q.wa,I s.id,I s.src,vst,vwa,I s.al,I s.up]] w fun v w'=>∃b:Bool,v= .bool b∧(b=true↔dn s q)∧St H w' σ:=by
 have hi:=mg (s:=s) (q:=q)
 simp only [Spc.isW,Spc.isS] at hi
 refine Cl.o Tryz.func242 Tryz.ntmps242 ag1 ?_
 refine .ai ?_
 refine .bx hs fun b1 w hs=>?_
 refine .z zg (.nil (.ai (.y hs (zls [_,_,_,_,_,_,_,_,_] mc gp) ?_)))
 refine .o (.call Tryz.call243 rfl (fR hs h1) ?_);rintro _ w ⟨rfl,hs⟩
 refine .z zm ?_
 refine .bif (t':=5) rfl (fun hb5=>?_) (fun hb5=>?_)
 ·refine .gT rfl rfl ?_
  refine .z (zfa bo) ?_
  refine .gT rfl rfl ?_
  refine .z (zfa dK) ?_
  refine .gT rfl rfl ?_
  refine .y hs (zld af) ?_
  refine .gT rfl rfl ?_
  refine .z j9 (.z zpT (.z zg (.nil ?_)))
  refine .ret (Fin.bF Tryz.results242 rfl ?_)
  exact ⟨_,rfl,by rw [hi];simp_all<;>omega,hs.out⟩
 ·refine .gFs 4 2 true rfl rfl rfl ?_
  refine .z zpF (.z zg (.nil ?_))
  refine .ret (Fin.bF Tryz.results242 rfl ?_)
  exact ⟨_,rfl,by rw [hi];simp_all<;>omega,hs.out⟩
theorem rL{s:Spc}{q:Wht}{vst vwa:Value}(hs:St H w σ)(h1:RI H vst s.st)(h2:RI H vwa s.wa)(hk:q.kind=4):
  Cl Tryz.prog 245 [.agg #[I q.kind,I q.st,I q.wa,I s.id,I s.src,vst,vwa,I s.al,I s.up]] w fun v w'=>∃b:Bool,v= .bool b∧(b=true↔dn s q)∧St H w' σ:=by
 have hi:=mg (s:=s) (q:=q)
 simp only [Spc.isW,Spc.isS] at hi
 refine Cl.o Tryz.func245 Tryz.ntmps245 ag1 ?_
 refine .ai ?_
 refine .bx hs fun b1 w hs=>?_
 refine .z zg (.nil (.ai (.y hs (zls [_,_,_,_,_,_,_,_,_] mc gp) ?_)))
 refine .o (.call Tryz.call243 rfl (fR hs h1) ?_);rintro _ w ⟨rfl,hs⟩
 refine .z zm ?_
 refine .bif (t':=5) rfl (fun hb5=>?_) (fun hb5=>?_)
 ·refine .gT rfl rfl ?_
  refine .y hs (zls [_,_,_,_,_,_,_,_,_] mc gp) ?_
  refine .gT rfl rfl ?_
  refine .o (.call Tryz.call238 rfl (eZ hs h2) ?_);rintro _ w ⟨rfl,hs⟩
  refine .z zpT (.z zg (.nil ?_))
  refine .ret (Fin.bF Tryz.results245 rfl ?_)
  exact ⟨_,rfl,by rw [hi];simp_all<;>omega,hs.out⟩
 ·refine .gFs 2 2 true rfl rfl rfl ?_
  refine .z zpF (.z zg (.nil ?_))
  refine .ret (Fin.bF Tryz.results245 rfl ?_)
  exact ⟨_,rfl,by rw [hi];simp_all<;>omega,hs.out⟩
theorem nb{s:Spc}{q:Wht}{vst vwa:Value}{i k:Nat}{u:Int}(hs:St H w σ)(h1:RI H vst s.st)(h2:RI H vwa s.wa)(hok:dj s)(hq:dn s q)(hk1:q.kind=1)(hi:i<s.st.length):
  Cl Tryz.prog 239 [.agg #[I q.kind,I q.st,I q.wa,I s.id,I s.src,vst,vwa,I s.al,I s.up],.agg #[I (i:Int),I (k:Int),I u]] w fun v w'=>∃H1,HLe H H1∧v=I (gg s q i k)∧St H1 w' σ:=by
 obtain ⟨ast,cst,rfl⟩:=RI.shape h1
 obtain ⟨awa,cwa,rfl⟩:=RI.shape h2
 have hn:=hok.wa.many
 have hcap:=(RI.len h2).2.1
 obtain ⟨_,hw1,hw2,hw3⟩:q.st=0∧0<q.wa∧0≤q.wa∧q.wa≤(s.wa.length:Int) - 1:=by
  rcases mg.1 hq with h|h|h|h
  ·exact ⟨h.2.1,h.2.2.2,h.2.2.1.1,h.2.2.1.2⟩
  all_goals omega
 obtain ⟨m,hm⟩:∃m:Nat,q.wa=m:=⟨q.wa.toNat,aj⟩
 have hW:gg s q i k=if (k:Int)≤q.wa then gi (wts s.st) i*gi (wts (s.wa.take (q.wa.toNat+1))) k else 0:=by unfold gg;rw [if_pos hk1]
 have hmt:q.wa.toNat=m:=by omega
 rw [hmt] at hW
 refine Cl.o Tryz.func239 Tryz.ntmps239 ag2 ?_
 refine .ai ?_
 refine .bx hs fun b2 w hs=>?_
 refine .bx hs fun b3 w hs=>?_
 refine .z zg (.nil (.seq (.ai (.z (zfa bE) (.y hs (zld af) (.z (zfa bo) (.z (zfa dK) (.y hs (zld af) (.z qZ ?_)))))))))
 refine .nil ?_
 refine (.cW rfl (fun hc12=>?_) (fun hc12=>?_))
 ·refine .ai (.z zg (.nil ?_))
  refine .ret (rT (Fin.bF Tryz.results239 rfl ?_))
  exact ⟨H,HLe.refl H,by rw [hW,if_neg aj],hs.out⟩
 ·refine .skip ?_
  refine nT ?_
  refine .seq (.draw mix rfl hs fun w hs=>?_)
  refine .z 0 rfl (zfa cQ) ?_;refine .z 1 rfl (zfa aU) ?_;refine .y 2 rfl hs ak ?_;refine .z 3 rfl (zfa cQ) ?_;refine .z 4 rfl (zfa aO) ?_;refine .y 5 rfl hs ak ?_;refine .z 6 rfl (zfa bo) ?_;refine .z 7 rfl (zfa dK) ?_;refine .y 8 rfl hs af ?_;refine .z 9 rfl cR ?_
  refine .z 10 rfl (vP (k:=m+1) rfl rfl ad ae aj aj) ?_
  refine .E 11 hs ?_
  have hP:eb 7 15000 (s.wa.take (m+1)):=hok.wa.take aj aj
  refine .call Tryz.call104 rfl (je hs h1 (h2.head (k:=m+1) aj)) ?_;rintro _ w ⟨H1,vo,e,hle1,rfl,hGx,-,hs⟩
  obtain ⟨rfl,hG⟩:=hGx ⟨hok.st,hP⟩
  have hgl:=jk (wts s.st) (wts (s.wa.take (m+1))) s.st.length
  have hyl:(wts (s.wa.take (m+1))).length=m+1:=by rw [eD,List.length_take];omega
  have hgr:=tP (X:=wts s.st) (Y:=wts (s.wa.take (m+1))) (n:=s.st.length) hi
  have hgt:=yv (X:=wts s.st) (Y:=wts (s.wa.take (m+1))) (n:=s.st.length) (k:=k) hi aj
  have hrl:=kr (wts s.st) (wts (s.wa.take (m+1))) i
  rw [←hgr] at hrl
  generalize lH (wts s.st) (wts (s.wa.take (m+1))) s.st.length=G at*
  obtain ⟨aG,cG,rfl⟩:=hG.shape
  refine .go ?_
  refine .z 12 rfl zm ?_;refine .z 13 rfl zex ?_;refine .z 14 rfl zex ?_;refine .z 15 rfl zg ?_;refine .z 16 rfl zg ?_;refine .D hs ?_
  refine .seq (.draw mix rfl hs fun w hs=>?_)
  refine .z 0 rfl zm ?_;refine .z 1 rfl (zfa bM) ?_;refine .y 2 rfl hs af ?_
  refine .ixT (i:=3) hs rfl ay .none hG rfl rfl bH aE (show i<_ by omega) dm ?_;intro b31 o31 a31 c31 hc31 hR31
  refine .r (i:=4) hs rfl ay .none (bj rfl ak hc31) ?_
  refine .z 5 rfl (zfa bE) ?_;refine .y 6 rfl hs af ?_
  refine .ixX (enc:=fun x=>[I x]) (i:=7) hs rfl ay .none hR31 rfl rfl ad ae (bB (l:=(gr G i)) (i:=k) aj) dm ?_;intro b35 o35 hc35;replace hc35:=br.one hc35
  refine .r (i:=8) hs rfl ay .none (bj rfl af hc35) ?_
  refine .z 9 rfl zg ?_;refine .D hs ?_
  refine .ret (Fin.bF Tryz.results239 rfl ?_)
  exact ⟨H1,hle1,by rw [hW,if_pos aj,←hgt];rfl,hs.out⟩
theorem nP{s:Spc}{q:Wht}{vst vwa:Value}{i k:Nat}{u:Int}(hs:St H w σ)(h1:RI H vst s.st)(hok:dj s)(hk1:q.kind=2)(hi:i<s.st.length):
  Cl Tryz.prog 241 [.agg #[I q.kind,I q.st,I q.wa,I s.id,I s.src,vst,vwa,I s.al,I s.up],.agg #[I (i:Int),I (k:Int),I u]] w fun v w'=>∃H1,HLe H H1∧v=I (gg s q i k)∧St H1 w' σ:=by
 have hW:gg s q i k=if (k:Int)=q.wa then gi (wts s.st) i else 0:=by unfold gg;rw [if_neg aj,if_pos hk1]
 have hl:=eD s.st
 refine Cl.o Tryz.func241 Tryz.ntmps241 ag2 ?_
 refine .ai ?_
 refine .bx hs fun b2 w hs=>?_
 refine .bx hs fun b3 w hs=>?_
 refine .z zg (.nil (.seq (.ai (.z (zfa bE) (.y hs (zld af) (.z (zfa bo) (.z (zfa dK) (.y hs (zld af) (.z m9 ?_)))))))))
 refine .nil ?_
 refine (.ie rfl (fun hc12=>?_) (fun hc12=>?_))
 ·refine .ai (.z zg (.nil ?_))
  refine .ret (rT (Fin.bF Tryz.results241 rfl ?_))
  exact ⟨H,HLe.refl H,by rw [hW,if_neg aj],hs.out⟩
 ·refine .skip ?_
  refine nT ?_
  refine .ai (.z (zfa cQ) (.z (zfa aU) (.y hs (zld ak) ?_)))
  refine .o (.call Tryz.call273 rfl (gA hs h1) ?_);rintro _ w ⟨H1,vo,e,hle1,rfl,hGx,hs⟩
  obtain ⟨rfl,hG⟩:=hGx hok.st
  obtain ⟨aG,cG,rfl⟩:=RI.shape hG
  refine .z zm (.z zex (.z zex (.z zg (.z zg (.nil (.ai (.z zm (.z (zfa bM) (.y hs (zld af) ?_)))))))))
  refine .ixY hs hG rfl rfl ad ae (bB (l:=(wts s.st)) (i:=i) aj) dm ?_;intro b23 o23 hc23
  refine .q hs (bj rfl af hc23) ?_
  refine .z zg (.nil ?_)
  refine .ret (Fin.bF Tryz.results241 rfl ?_)
  exact ⟨H1,hle1,by rw [hW,if_pos aj],hs.out⟩
theorem mi{s:Spc}{q:Wht}{vst vwa:Value}{i k:Nat}{u:Int}(hs:St H w σ)(h2:RI H vwa s.wa)(hok:dj s)(hk1:q.kind=3)(hk:k<s.wa.length):
  Cl Tryz.prog 244 [.agg #[I q.kind,I q.st,I q.wa,I s.id,I s.src,vst,vwa,I s.al,I s.up],.agg #[I (i:Int),I (k:Int),I u]] w fun v w'=>∃H1,HLe H H1∧v=I (gg s q i k)∧St H1 w' σ:=by
 have hW:gg s q i k=if (i:Int)=q.st then gi (wts s.wa) k else 0:=by unfold gg;rw [if_neg aj,if_neg aj,if_pos hk1]
 have hl:=eD s.wa
 refine Cl.o Tryz.func244 Tryz.ntmps244 ag2 ?_
 refine .ai ?_
 refine .bx hs fun b2 w hs=>?_
 refine .bx hs fun b3 w hs=>?_
 refine .z zg (.nil (.seq (.ai (.z (zfa bM) (.y hs (zld af) (.z (zfa bo) (.z (zfa eP) (.y hs (zld af) (.z m9 ?_)))))))))
 refine .nil ?_
 refine (.ie rfl (fun hc12=>?_) (fun hc12=>?_))
 ·refine .ai (.z zg (.nil ?_))
  refine .ret (rT (Fin.bF Tryz.results244 rfl ?_))
  exact ⟨H,HLe.refl H,by rw [hW,if_neg aj],hs.out⟩
 ·refine .skip ?_
  refine nT ?_
  refine .ai (.z (zfa cQ) (.z (zfa aO) (.y hs (zld ak) ?_)))
  refine .o (.call Tryz.call273 rfl (gA hs h2) ?_);rintro _ w ⟨H1,vo,e,hle1,rfl,hGx,hs⟩
  obtain ⟨rfl,hG⟩:=hGx (zB hok)
  obtain ⟨aG,cG,rfl⟩:=RI.shape hG
  refine .z zm (.z zex (.z zex (.z zg (.z zg (.nil (.ai (.z zm (.z (zfa bE) (.y hs (zld af) ?_)))))))))
  refine .ixY hs hG rfl rfl ad ae (bB (l:=(wts s.wa)) (i:=k) aj) dm ?_;intro b23 o23 hc23
  refine .q hs (bj rfl af hc23) ?_
  refine .z zg (.nil ?_)
  refine .ret (Fin.bF Tryz.results244 rfl ?_)
  exact ⟨H1,hle1,by rw [hW,if_pos aj],hs.out⟩
theorem na{s:Spc}{q:Wht}{vst vwa:Value}{i k:Nat}{u:Int}(hs:St H w σ)(hk1:q.kind=4):
  Cl Tryz.prog 246 [.agg #[I q.kind,I q.st,I q.wa,I s.id,I s.src,vst,vwa,I s.al,I s.up],.agg #[I (i:Int),I (k:Int),I u]] w fun v w'=>∃H1,HLe H H1∧v=I (gg s q i k)∧St H1 w' σ:=by
 have hW:gg s q i k=if (i:Int)=q.st∧(k:Int)=q.wa then 1 else 0:=by unfold gg;rw [if_neg aj,if_neg aj,if_neg aj]
 refine Cl.o Tryz.func246 Tryz.ntmps246 ag2 ?_
 refine .ai ?_
 refine .bx hs fun b2 w hs=>?_
 refine .bx hs fun b3 w hs=>?_
 refine .z zg (.nil (.seq (.ai (.z (zfa bM) (.y hs (zld af) (.z (zfa bo) (.z (zfa eP) (.y hs (zld af) (.z m9 ?_)))))))))
 refine .z zm ?_
 refine .Bv (t':=11) rfl (fun hb11=>?_) (fun hb11=>?_)
 ·refine .gFs 6 6 false rfl rfl rfl ?_
  refine .z zpT (.nil ?_)
  refine (.cT ?_)
  refine .ai (.z zg (.nil ?_))
  refine .ret (rT (Fin.bF Tryz.results246 rfl ?_))
  first
  |exact ⟨H,HLe.refl H,by rw [hW,if_neg aj],hs.out⟩
  |exact ⟨H,HLe.refl H,by rw [hW,if_pos aj],hs.out⟩
 ·refine .gT rfl rfl ?_
  refine .z (zfa bE) ?_
  refine .gT rfl rfl ?_
  refine .y hs (zld af) ?_
  refine .gT rfl rfl ?_
  refine .z (zfa bo) ?_
  refine .gT rfl rfl ?_
  refine .z (zfa dK) ?_
  refine .gT rfl rfl ?_
  refine .y hs (zld af) ?_
  refine .gT rfl rfl ?_
  refine .z m9 (.z zpF (.nil ?_))
  refine (.ie rfl (fun hc18=>?_) (fun hc18=>?_))
  ·refine .ai (.z zg (.nil ?_))
   refine .ret (rT (Fin.bF Tryz.results246 rfl ?_))
   first
   |exact ⟨H,HLe.refl H,by rw [hW,if_neg aj],hs.out⟩
   |exact ⟨H,HLe.refl H,by rw [hW,if_pos aj],hs.out⟩
  ·refine .skip ?_
   refine nT ?_
   refine .ai (.z zg (.nil ?_))
   refine .ret (Fin.bF Tryz.results246 rfl ?_)
   first
   |exact ⟨H,HLe.refl H,by rw [hW,if_neg aj],hs.out⟩
   |exact ⟨H,HLe.refl H,by rw [hW,if_pos aj],hs.out⟩
def ux(k:Int):Nat:=if k=1 then 237 else if k=2 then 240 else if k=3 then 242 else 245
def uk(k:Int):Nat:=if k=1 then 239 else if k=2 then 241 else if k=3 then 244 else 246
def tN(k:Int):Value:= .agg #[.func (.func (ux k)) #[] #[],.func (.func (uk k)) #[] #[],I (l9 ⟨k,0,0⟩)]
def Au:List MapEntry:=[{key:=I 1,val:=tN 1,born:=0},{key:=I 2,val:=tN 2,born:=1},{key:=I 3,val:=tN 3,born:=2},{key:=I 4,val:=tN 4,born:=3}]
theorem gH(hs:St H w σ):
  Cl Tryz.prog 189 [] w fun v w'=>∃b,v= .map (some b)∧St H w' (.obj b (.map Au.toArray 4)::σ):=by
 refine Cl.of Tryz.func189 rfl Tryz.ntmps189 cN (qR) ?_
 refine .ai (.z zg (.nil (.ai ?_)))
 refine .o (.makeMap hs fun b1 w hs=>?_)
 refine .z (zbd [_,_,_] ew) ?_
 refine .o (.insert (es:=[]) hs rfl rfl rfl cB aC rfl fun w hs=>?_)
 refine .z (zbd [_,_,_] ew) ?_
 refine .o (.insert (es:=[{key:=I 1,val:=tN 1,born:=0}]) hs rfl rfl rfl cB aC rfl fun w hs=>?_)
 refine .z (zbd [_,_,_] ew) ?_
 refine .o (.insert (es:=[{key:=I 1,val:=tN 1,born:=0},{key:=I 2,val:=tN 2,born:=1}]) hs rfl rfl rfl cB aC rfl fun w hs=>?_)
 refine .z (zbd [_,_,_] ew) ?_
 refine .o (.insert (es:=[{key:=I 1,val:=tN 1,born:=0},{key:=I 2,val:=tN 2,born:=1},{key:=I 3,val:=tN 3,born:=2}]) hs rfl rfl rfl cB aC rfl fun w hs=>?_)
 refine .z zm (.z zg (.nil ?_))
 refine .ret (Fin.bF Tryz.results189 rfl ?_)
 exact ⟨b1,rfl,hs⟩
def lF1(k:Int):Value:=if 1≤k∧k≤4 then .func (.func (ux k)) #[] #[] else .nilFunc
def lF2(k:Int):Value:=if 1≤k∧k≤4 then .func (.func (uk k)) #[] #[] else .nilFunc
def lD(k:Int):Int:=if 1≤k∧k≤4 then l9 ⟨k,0,0⟩ else 0
theorem tM(k:Int):[lF1 k,lF2 k,I (lD k)].all Value.oneCell'=true:=by
 unfold lF1 lF2;split<;>rfl
theorem vT{H:a8}{s:FS}{x y:Operand}{b:Nat}(k:Int)(hx:FS.ev s x=some (.map (some b)))(hy:FS.ev s y=some (I k)):
  QJ Tryz.prog H [.obj b (.map Au.toArray 4)] s (.lookup 233 x y true) (.tuple #[.agg #[lF1 k,lF2 k,I (lD k)],.bool (decide (1≤k∧k≤4))]):=by
 by_cases h:1≤k∧k≤4
 ·rw [decide_eq_true h]
  have h4:k=1∨k=2∨k=3∨k=4:=by omega
  rcases h4 with rfl|rfl|rfl|rfl
  ·exact tD (v:=tN 1) (j:=0) hx hy cB aC rfl .here
  ·exact tD (v:=tN 2) (j:=1) hx hy cB aC rfl .here
  ·exact tD (v:=tN 3) (j:=2) hx hy cB aC rfl .here
  ·exact tD (v:=tN 4) (j:=3) hx hy cB aC rfl .here
 ·rw [decide_eq_false h]
  have e1:lF1 k= .nilFunc:=if_neg h
  have e2:lF2 k= .nilFunc:=if_neg h
  have e3:lD k=0:=if_neg h
  rw [e1,e2,e3]
  refine zJ (es:=Au) (c:=4) hx hy cB aC CA ?_ .here
  have n1:(k==1)=false:=by simp only [beq_eq_false_iff_ne];omega
  have n2:(k==2)=false:=by simp only [beq_eq_false_iff_ne];omega
  have n3:(k==3)=false:=by simp only [beq_eq_false_iff_ne];omega
  have n4:(k==4)=false:=by simp only [beq_eq_false_iff_ne];omega
  simp [Instr.findNow,Instr.sameNow,Au,n1,n2,n3,n4]
theorem xD(k:Int):∀args w,(callFunc (ux k) args).run Tryz.prog w= .ok (.enter (ux k) args) w:=by
 unfold ux
 split
 ·exact Tryz.call237
 ·split
  ·exact Tryz.call240
  ·split
   ·exact Tryz.call242
   ·exact Tryz.call245
theorem xn(k:Int):∀args w,(callFunc (uk k) args).run Tryz.prog w= .ok (.enter (uk k) args) w:=by
 unfold uk
 split
 ·exact Tryz.call239
 ·split
  ·exact Tryz.call241
  ·split
   ·exact Tryz.call244
   ·exact Tryz.call246
theorem xC{s:Spc}{q:Wht}{vst vwa:Value}(hs:St H w σ)(h1:RI H vst s.st)(h2:RI H vwa s.wa)(hk:1≤q.kind∧q.kind≤4):
  Cl Tryz.prog (ux q.kind) [.agg #[I q.kind,I q.st,I q.wa,I s.id,I s.src,vst,vwa,I s.al,I s.up]] w fun v w'=>∃b:Bool,v= .bool b∧(b=true↔dn s q)∧St H w' σ:=by
 unfold ux
 split
 ·exact rO hs h2 r9
 ·split
  ·exact rN hs h2 r9
  ·split
   ·exact rM hs h1 r9
   ·exact rL hs h1 h2 aj
theorem xm{s:Spc}{q:Wht}{vst vwa:Value}{i k:Nat}{u:Int}(hs:St H w σ)(h1:RI H vst s.st)(h2:RI H vwa s.wa)(hok:dj s)(hq:dn s q)(hk:1≤q.kind∧q.kind≤4)(hi:i<s.st.length)(hkw:k<s.wa.length):
  Cl Tryz.prog (uk q.kind) [.agg #[I q.kind,I q.st,I q.wa,I s.id,I s.src,vst,vwa,I s.al,I s.up],.agg #[I (i:Int),I (k:Int),I u]] w fun v w'=>∃H1,HLe H H1∧v=I (gg s q i k)∧St H1 w' σ:=by
 unfold uk
 split
 ·exact nb hs h1 h2 hok hq r9 hi
 ·split
  ·exact nP hs h1 hok r9 hi
  ·split
   ·exact mi hs h2 hok r9 hkw
   ·exact na hs aj
theorem Bc{q:Wht}(h:1≤q.kind∧q.kind≤4):lD q.kind=l9 q:=by
 unfold lD;rw [if_pos h];rfl
theorem xl{s:Spc}{q:Wht}(h:dn s q):1≤q.kind∧q.kind≤4:=by
 rcases mg.1 h with h|h|h|h<;>omega
set_option maxHeartbeats 1000000 in
theorem fI{s:Spc}{q:Wht}{vst vwa:Value}(hs:St H w σ)(h1:RI H vst s.st)(h2:RI H vwa s.wa)(hok:dj s):
  Cl Tryz.prog 102 [.agg #[I s.id,I s.src,vst,vwa,I s.al,I s.up],.agg #[I q.kind,I q.st,I q.wa]] w fun u w'=>∃H1 vl L d b en,HLe H H1∧u= .tuple #[vl,I d,.bool b]∧bX 1 vl (Is L) en∧((b=true∧dn s q∧L=kd s q∧d=l9 q)∨(b=false∧¬dn s q∧L=[]∧d=0))∧St H1 w' (en::σ):=by
 have hsm:=dM hok
 obtain ⟨ast,cst,rfl⟩:=RI.shape h1
 obtain ⟨awa,cwa,rfl⟩:=RI.shape h2
 refine Cl.o Tryz.func102 Tryz.ntmps102 ag2 ?_
 refine .ai ?_
 refine .bx hs fun b2 w hs=>?_
 refine .bx hs fun b3 w hs=>?_
 refine .z zg (.z zg (.z zg (.nil ?_)))
 refine .cut (fun fs w=>∃b7,kT fs ⟨46,[],[(8,.bool (decide (1≤q.kind∧q.kind≤4))),(7,.pointer (some ⟨b7,0,none⟩)),(2,.pointer (some ⟨b2,0,none⟩)),(3,.pointer (some ⟨b3,0,none⟩))]⟩∧St H w (.blk b7 [lF1 q.kind,lF2 q.kind,I (lD q.kind)]:: .blk b3 [I q.kind,I q.st,I q.wa]:: .blk b2 [I s.id,I s.src,(.slice ast s.st.length cst),(.slice awa s.wa.length cwa),I s.al,I s.up]::σ)) ?_ ?_
 ·refine .draw mix rfl hs fun w hs=>?_
  refine .z 1 rfl (zfa qE) ?_;refine .y 2 rfl hs af ?_
  refine .e2 (i:=0) (j:=7) ay rfl rfl rfl rfl .none .none hs ?_ ?_
  ·refine .call Tryz.call189 rfl (gH hs) ?_;rintro _ w ⟨b13,rfl,hs⟩
   refine .go ?_
   refine .q (i:=3) [.obj b13 (.map Au.toArray 4)] rfl ay .none (vT (H:= .bot) q.kind rfl rfl) ?_
   refine .z 4 rfl zm ?_;refine .z 5 rfl zex ?_;refine .z 6 rfl zex ?_
   refine .E 7 hs ?_
   refine .alloc hs CA rfl ?_;intro b7 w hs
   refine .go ?_
   refine .E 8 hs ?_
   refine .aP (vs:=[lF1 q.kind,lF2 q.kind,I (lD q.kind)]) hs rfl rfl Tryz.sizeOf231 ?_ (hv:=tM _);intro w hs
   refine .go ?_
   refine .z 9 rfl zg ?_;refine .D hs ?_
   exact nT ⟨b7,cC,hs.sb⟩
  ·refine .alloc hs CA rfl ?_;intro b7 w hs
   refine .go ?_
   refine .E 0 hs ?_
   refine .call Tryz.call189 rfl (gH hs) ?_;rintro _ w ⟨b13,rfl,hs⟩
   refine .go ?_
   refine .q (i:=3) [.obj b13 (.map Au.toArray 4)] rfl ay .none (vT (H:= .bot) q.kind rfl rfl) ?_
   refine .z 4 rfl zm ?_;refine .z 5 rfl zex ?_;refine .z 6 rfl zex ?_
   refine .E 8 hs ?_
   refine .aP (vs:=[lF1 q.kind,lF2 q.kind,I (lD q.kind)]) hs rfl rfl Tryz.sizeOf231 ?_ (hv:=tM _);intro w hs
   refine .go ?_
   refine .z 9 rfl zg ?_;refine .D hs ?_
   exact nT ⟨b7,cC,hs.sb⟩
 ·rintro fs w ⟨b7,hfs,hs⟩
  refine WE.sub ?_ hfs
  refine .ai (.y hs (zls [_,_,_] CF mb) (.y hs (zls [_,_,_,_,_,_] aK az) (.z (zbd (vs:=[(0,.agg #[I q.kind,I q.st,I q.wa]),(1,.agg #[I s.id,I s.src,(.slice ast s.st.length cst),(.slice awa s.wa.length cwa),I s.al,I s.up])]) [I q.kind,I q.st,I q.wa,I s.id,I s.src,(.slice ast s.st.length cst),(.slice awa s.wa.length cwa),I s.al,I s.up] ny rfl ay) ?_)))
  refine .o (.alloc hs Tryz.zeroValue236 rfl fun b9 w hs=>?_)
  refine .o (.aP (vs:=[_,_,_,_,_,_,_,_,_]) hs rfl rfl gp fun w hs=>?_)
  refine .nil (.seq (.ai (.z zm (.z jb (.z zm ?_)))))
  refine .bif (t':=24) rfl (fun hb24=>?_) (fun hb24=>?_)
  ·refine .gFs 5 2 false rfl rfl rfl ?_
   refine .z zpT (.nil ?_)
   refine (.cT ?_)
   refine .ai (.z zg (.z zg (.z zg (.nil ?_))))
   refine .ret (rT (?_))
   have hn:¬dn s q:=fun h=>by have:=xl h;simp [this] at hb24
   exact Fin.gR [] [] hs fun w hs=>⟨_,results3 Tryz.results102 rfl rfl rfl,H,_,[],_,_,.nul,HLe.refl H,rfl,.nil 1 none,.inr ⟨rfl,hn,rfl,rfl⟩,hs.out.nul⟩
  ·refine .gT rfl rfl ?_
   have hk:1≤q.kind∧q.kind≤4:=by simpa using hb24
   rw [show lF1 q.kind= .func (.func (ux q.kind)) #[] #[] from if_pos hk,show lF2 q.kind= .func (.func (uk q.kind)) #[] #[] from if_pos hk,Bc hk] at hs
   refine .z (zfa mJ) ?_
   refine .gT rfl rfl ?_
   refine .y hs (zld Tryz.isAgg228) ?_
   refine .gT rfl rfl ?_
   refine .y hs (zls [_,_,_,_,_,_,_,_,_] mc gp) ?_
   refine .gT rfl rfl ?_
   refine .o (.lP (first:=[]) (cap:=[]) rfl rfl (xD q.kind) (xC (s:=s) hs h1 h2 hk) ?_);rintro _ w ⟨b28,rfl,hb28,hs⟩
   refine .gT rfl rfl ?_
   refine .z jb (.z zpF (.nil ?_))
   refine (.cond rfl (fun hc30=>?_) (fun hc30=>?_))
   ·refine .ai (.z zg (.z zg (.z zg (.nil ?_))))
    refine .ret (rT (?_))
    have hn:¬dn s q:=fun h=>by rw [hb28.2 h] at hc30;cases hc30
    exact Fin.gR [] [] hs fun w hs=>⟨_,results3 Tryz.results102 rfl rfl rfl,H,_,[],_,_,.nul,HLe.refl H,rfl,.nil 1 none,.inr ⟨rfl,hn,rfl,rfl⟩,hs.out.nul⟩
   ·refine .skip ?_
    refine nT ?_
    refine .ai ?_
    refine .o (.buildSlice (cells:=[_]) hs cz rfl rfl fun b31 w hs=>?_)
    refine .o (.alloc hs cO rfl fun b10 w hs=>?_)
    refine .o (.store hs rfl rfl aE fun w hs=>?_)
    refine .nil (.seq (.ai (.y hs (zls [_,_,_,_,_,_] aK az) ?_)))
    have hq:dn s q:=hb28.1 (by simpa using hc30)
    refine .o (.call CJ rfl (dN (s:=s) hs h1 h2 ⟨aj,aj⟩) ?_);rintro _ w ⟨H1,ba,hle1,rfl,hit,hs⟩
    have hwl:=ez s q
    refine .nil (.block ?_)
    refine .rangeFunc (gf:=190) (cap:=[.pointer (some ⟨ba,0,none⟩)]) (xs:=q7 s) (σb:=[.blk b10 [.slice (some ⟨b31,0,none⟩) 1 1],.blk b31 (Is [0]),.blk b7 [.func (.func (ux q.kind)) #[] #[],.func (.func (uk q.kind)) #[] #[],I (l9 q)],.blk b9 [I q.kind,I q.st,I q.wa,I s.id,I s.src,(.slice ast s.st.length cst),(.slice awa s.wa.length cwa),I s.al,I s.up]]) (σf:=σ) (hs.sb) trivial rfl hit CG (fun x hx=>by
      simp only [q7,List.mem_map] at hx
      obtain ⟨j,_,rfl⟩:=hx;rfl) rfl
     (I:=fun p H' σb=>∃vo en,σb=[.blk b10 [vo],en,.blk b7 [.func (.func (ux q.kind)) #[] #[],.func (.func (uk q.kind)) #[] #[],I (l9 q)],.blk b9 [I q.kind,I q.st,I q.wa,I s.id,I s.src,(.slice ast s.st.length cst),(.slice awa s.wa.length cwa),I s.al,I s.up]]∧bX 1 vo (Is ((kd s q).take (p+1))) en) (Ix:=fun _ _ _=>False)
     (fun j _ _ σ g1 g2=>g2) (fun _ _ _ _ _ h=>h) ⟨_,_,rfl,.full rfl⟩ ?_ ?_ (fun D c H' σb w _ h _=>h.elim)
    ·rintro ly p hp H2 σb2 σf2 w hle2 ⟨vo,en,rfl,hO⟩ hs ⟨rr,hrr⟩
     have hpm:p<s.many:=by rw [cJ] at hp;exact hp
     have hin:p/s.wa.length<s.st.length:=Nat.div_lt_of_lt_mul (by rw [Nat.mul_comm];exact hpm)
     have hkm:=Nat.mod_lt p hsm.2.2.1
     have hws:=nO s q hpm
     have hget:(kd s q)[p+1]? =some (gg s q (p/s.wa.length) (p%s.wa.length)):=by rw [←hws];exact bB aj
     rw [jB hp]
     obtain ⟨al,ll,cl,rfl,hll⟩:=hO.shape
     generalize p/s.wa.length=i at*
     generalize p%s.wa.length=k at*
     refine .region ?_
     refine .o (.alloc hs jR rfl fun b11 w hs=>?_)
     refine .o (.aP (vs:=[_,_,_]) hs rfl rfl pq fun w hs=>?_)
     refine .nil ?_
     refine nT ?_
     refine ⟨H2,[.blk b11 [I (i:Int),I (k:Int),I ((p+1:Nat):Int)],.blk b10 [Value.slice al ll cl],en,.blk b7 [.func (.func (ux q.kind)) #[] #[],.func (.func (uk q.kind)) #[] #[],I (l9 q)],.blk b9 [I q.kind,I q.st,I q.wa,I s.id,I s.src,(.slice ast s.st.length cst),(.slice awa s.wa.length cwa),I s.al,I s.up]],HLe.refl _,hs,?_⟩;rintro w σf4 - hs
     refine .block ?_
     refine .draw mix rfl hs fun w hs=>?_
     refine .y 0 rfl hs ak ?_;refine .z 1 rfl (zfa mI) ?_
     refine .y 2 rfl hs Tryz.isAgg229 ?_
     refine .ys 3 rfl hs [_,_,_,_,_,_,_,_,_] mc gp ?_;refine .ys 4 rfl hs [_,_,_] Tryz.isAgg158 pq ?_
     refine .E 5 hs ?_
     refine .lP (first:=[]) (cap:=[]) rfl rfl (xn q.kind) (xm (s:=s) (q:=q) (i:=i) (k:=k) hs (h1.mono (hle1.trans hle2)) (h2.mono (hle1.trans hle2)) hok hq hk hin hkm) ?_;rintro _ w ⟨H3,hle3,rfl,hs⟩
     refine .go ?_
     refine .E 6 hs ?_
     refine .buildSlice (cells:=[_]) hs cz rfl rfl ?_;intro b41 w hs
     refine .go ?_
     refine .E 7 hs ?_
     refine .append (ys:=Is [gg s q i k]) hs cy rfl rfl hO (.own .here rfl rfl) (kS _) (fun l h=>by simp at h;omega) ?_;intro v42 en42 w hO2 hs
     rw [show Is ((kd s q).take (p+1))++Is [gg s q i k]=Is ((kd s q).take (p+1+1)) by rw [bZ hget];simp [Is]] at hO2
     obtain ⟨a42,l42,c42,rfl,h42⟩:=hO2.shape
     refine .go ?_
     refine .E 8 hs ?_
     refine .store hs rfl rfl aE ?_;intro w hs
     refine .go ?_
     refine .D hs ?_
     refine nB ?_
     exact ⟨H3,[.blk b10 [.slice a42 l42 c42],en42,.blk b7 [.func (.func (ux q.kind)) #[] #[],.func (.func (uk q.kind)) #[] #[],I (l9 q)],.blk b9 [I q.kind,I q.st,I q.wa,I s.id,I s.src,(.slice ast s.st.length cst),(.slice awa s.wa.length cwa),I s.al,I s.up]],hle3,(hs.sb:St H3 w (.blk b10 _::en42:: .blk b7 _:: .blk b9 _::σf4)),_,_,rfl,hO2⟩
    ·rintro D H2 σb2 w hle2 ⟨vo,en,rfl,hO⟩ hs
     rw [cJ,←hwl,List.take_length] at hO
     replace hs:St H2 w (.obj D (.deferred (some [])):: .blk b10 [vo]::en:: .blk b7 [.func (.func (ux q.kind)) #[] #[],.func (.func (uk q.kind)) #[] #[],I (l9 q)]:: .blk b9 [I q.kind,I q.st,I q.wa,I s.id,I s.src,(.slice ast s.st.length cst),(.slice awa s.wa.length cwa),I s.al,I s.up]::σ):=hs
     obtain ⟨al,ll,cl,rfl,hll⟩:=hO.shape
     refine nB (nT ?_)
     refine .seq (.draw mix rfl hs fun w hs=>?_)
     refine .y 0 rfl hs ak ?_;refine .z 1 rfl (zfa mH) ?_;refine .y 2 rfl hs af ?_;refine .z 3 rfl zg ?_;refine .z 4 rfl zg ?_;refine .z 5 rfl zg ?_;refine .D hs ?_
     refine .ret ?_
     exact Fin.gR [D] [] hs fun w hs=>⟨_,results3 Tryz.results102 rfl rfl rfl,H2,_,_,_,_,en,hle1.trans hle2,rfl,hO,.inl ⟨rfl,hq,rfl,rfl⟩,hs.sb⟩
theorem fa{a d:Int}(hs:St H w σ)(hd:1≤d)(ha: -4608000000000000000≤a∧a≤4608000000000000000):
  Cl Tryz.prog 86 [I a,I d] w fun v w'=>v=I (a/d)∧St H w' σ:=by
 have hq: -4608000000000000000≤a.tdiv d∧a.tdiv d≤4608000000000000000:=by
  have h1:=tR (n:=a) (d:=d) aj
  have h2:a/d≤4608000000000000000:=Int.ediv_le_of_le_mul aj (by
   have:=Int.mul_le_mul_of_nonneg_left hd (show (0:Int)≤4608000000000000000 by omega);omega)
  have h3: -4608000000000000000≤a/d:=Int.le_ediv_of_mul_le aj (by
   have:=Int.mul_le_mul_of_nonneg_left hd (show (0:Int)≤4608000000000000000 by omega);omega)
  by_cases h0:0≤a
  ·rw [Int.tdiv_eq_ediv_of_nonneg h0];omega
  ·split at h1
   ·have:a/d<0:=Int.ediv_neg_of_neg_of_pos aj aj
    omega
   ·omega
 have hfl:=tR (n:=a) (d:=d) aj
 refine Cl.o Tryz.func86 Tryz.ntmps86 ag2 ?_
 refine .ai (.z zg (.nil (.ai (.z zm (.z zm ?_)))))
 refine .q hs (vQ rfl rfl aj ⟨aj,aj⟩) ?_
 refine .z zg (.nil (.seq (.ai (.z zm (.z zm (.z AB (.z kX (.nil ?_))))))))
 refine (.cW rfl (fun hc12=>?_) (fun hc12=>?_))
 ·refine .region (.z zm (.z iR (.z zg (.nil ?_))))
  refine nT ?_
  refine .ai (.z zm (.z zg (.nil ?_)))
  refine .ret (Fin.bF Tryz.results86 rfl ?_)
  rw [if_pos hc12] at hfl
  exact ⟨by rw [hfl],hs⟩
 ·refine .skip ?_
  refine nT ?_
  refine .ai (.z zm (.z zg (.nil ?_)))
  refine .ret (Fin.bF Tryz.results86 rfl ?_)
  rw [if_neg hc12,Int.sub_zero] at hfl
  exact ⟨by rw [hfl],hs⟩
theorem ky{s:Srv}{vst vwa vr vc:Value}(hs:St H w σ)(h1:RI H vst s.sp.st)(h2:RI H vwa s.sp.wa)(h3:RRd H vr s.rs)(h4:RCm H vc s.cs)(hok:bY s):
  Cl Tryz.prog 169 [.agg #[I s.sp.id,I s.sp.src,vst,vwa,I s.sp.al,I s.sp.up,vr,vc]] w fun u w'=>∃H1,∃b:Bool,HLe H H1∧u= .bool b∧(b=true↔s.sys.Sound)∧St H1 w' σ:=by
 refine Cl.o Tryz.func169 Tryz.ntmps169 ag1 ?_
 refine .ai ?_
 refine .bx hs fun b1 w hs=>?_
 refine .z zg (.nil (.ai (.y hs (zls [_,_,_,_,_,_,_,_] bg aM) ?_)))
 refine .o (.call yT rfl (cU (s:=s) hs h1 h2 h3 h4 hok.early) ?_);rintro v7 w ⟨H1,hle1,hS,hs⟩
 refine .o (.call Tryz.call51 rfl (nv (s:=s.sys) hs hS) ?_);rintro _ w ⟨H2,vx,xs,e,hle2,rfl,rx,hC,hs⟩
 obtain ⟨ax,cx,rfl⟩:=RI.shape rx
 have hchk:s.sys.check=0:=s.sys.aH.2 hok.sys
 obtain rfl:e=0:=by
  cases hC with
  |bad h=>exact (h hchk).elim
  |sound=>rfl
  |chain=>rfl
 have hiff:=hC.vE
 refine .z zm (.z zex (.z zex (.z zg (.z zg (.nil (.ai (.z zm (.z j9 (.z zm ?_)))))))))
 refine .mM (t':=13) rfl (fun hb13=>?_) (fun hb13=>?_)
 ·refine .gT rfl rfl ?_
  refine .z zm ?_
  refine .gT rfl rfl ?_
  refine .z (df ad) ?_
  refine .gT rfl rfl ?_
  refine .z j9 (.z zpT (.z zg (.nil ?_)))
  refine .ret (Fin.bF Tryz.results169 rfl ?_)
  first
  |exact ⟨H2,_,hle1.trans hle2,rfl,by rw [←hiff,decide_eq_true_eq];exact ⟨fun h=>List.length_eq_zero_iff.1 aj,fun h=>by rw [h];rfl⟩,hs.out⟩
  |exact (hb13 rfl).elim
 ·refine .gFs 3 2 true rfl rfl rfl ?_
  refine .z zpF (.z zg (.nil ?_))
  refine .ret (Fin.bF Tryz.results169 rfl ?_)
  first
  |exact ⟨H2,_,hle1.trans hle2,rfl,by rw [←hiff,decide_eq_true_eq];exact ⟨fun h=>List.length_eq_zero_iff.1 aj,fun h=>by rw [h];rfl⟩,hs.out⟩
  |exact (hb13 rfl).elim
theorem yL(L:List Int)(j:Nat):L++List.replicate j 0++[0]=L++List.replicate (j+1) 0:=by
 rw [List.append_assoc,←List.replicate_succ']
set_option maxHeartbeats 1000000 in
theorem nm{s:Srv}{q:Wht}{vst vwa vr vc:Value}(hs:St H w σ)(h1:RI H vst s.sp.st)(h2:RI H vwa s.sp.wa)(h3:RRd H vr s.rs)(h4:RCm H vc s.cs)(hok:bY s):
  Cl Tryz.prog 155 [.agg #[I s.sp.id,I s.sp.src,vst,vwa,I s.sp.al,I s.sp.up,vr,vc],.agg #[I q.kind,I q.st,I q.wa]] w fun u w'=>∃H1 ul vw L d b,HLe H H1∧u= .tuple #[.agg #[I s.sys.many,ul,vw,I d],.bool b]∧RL H1 ul s.bn∧RI H1 vw L∧L.length=s.sys.n∧((b=true∧dn s.sp q∧L=s.w q∧d=l9 q)∨(b=false∧¬dn s.sp q))∧St H1 w' σ:=by
 have hn:=nh s
 have hm:=hok.many
 have hsm:s.sys.many+1=(s.sys.n:Int):=by rw [hn];show ((s.sp.many+s.aI.length:Nat):Int)+1=_;omega
 refine Cl.o Tryz.func155 Tryz.ntmps155 ag2 ?_
 refine .ai ?_
 refine .bx hs fun b2 w hs=>?_
 refine .bx hs fun b3 w hs=>?_
 refine .o (.alloc hs q9 rfl fun b4 w hs=>?_)
 refine .z zg (.nil (.ai (.y hs (zls [_,_,_,_,_,_,_,_] bg aM) ?_)))
 refine .o (.call yT rfl (cU (s:=s) hs h1 h2 h3 h4 hok.early) ?_);rintro _ w ⟨H1,hle1,⟨ul,rfl,hL⟩,hs⟩
 obtain ⟨al,cl,rfl⟩:=RL.shape hL
 refine .o (.alloc hs ec rfl fun b6 w hs=>?_)
 refine .o (.aP (vs:=[_,_]) hs rfl rfl aA fun w hs=>?_)
 refine .nil (.ai (.z (zfa aS) (.y hs (zls [_,_,_,_,_,_] aK az) (.y hs (zls [_,_,_] CF mb) ?_))))
 refine .o (.call Tryz.call102 rfl (fI (s:=s.sp) (q:=q) hs (h1.mono hle1) (h2.mono hle1) hok.early.1) ?_);rintro _ w ⟨H2,vl,L0,d,b,en,hle2,rfl,hO,hcase,hs⟩
 have hL0:L0.length≤s.sys.n:=by
  rcases hcase with ⟨_,_,rfl,_⟩|⟨_,_,rfl,_⟩
  ·rw [ez,hn];omega
  ·simp
 have hle02:=hle1.trans hle2
 refine .z zm (.z zex (.z zex (.z zex (.z zg (.z zg (.z zg (.nil (.seq (.block ?_)))))))))
 refine .loop (fun p:Nat×Value=>⟨34,[],[(7,p.2),(8,I d),(9,.bool b),(6,.pointer (some ⟨b6,0,none⟩)),(4,.pointer (some ⟨b4,0,none⟩))]⟩)
  (fun p w=>L0.length+p.1≤s.sys.n∧∃en,bX 1 p.2 (Is (L0++List.replicate p.1 0)) en∧St H2 w (en:: .blk b6 [I s.sys.many,.slice al s.bn.length cl]:: .blk b4 [I 0,.slice none 0 0,.slice none 0 0,I 0]::σ)) (fun p=>s.sys.n - (L0.length+p.1)) (0,vl) cC
  ⟨by simpa using hL0,en,by simpa using hO,hs.sb⟩ ?_
 clear hO hs
 rintro ⟨j,vo⟩ w ⟨hj,en,hO,hs⟩
 dsimp only at hj hO ⊢
 obtain ⟨ao,lo,co,rfl,hlo⟩:=hO.shape
 have hlo':lo=L0.length+j:=by simp [Is] at hlo;omega
 refine .seq (.ai (.z zm (.z (df ad) (.z (zfa aZ) (.y hs (zld af) (.z cR (.z kX (.nil ?_))))))))
 refine (.cW rfl (fun hc25=>?_) (fun hc25=>?_))
 ·refine .skip ?_
  refine nT ?_
  refine .block (.region (.z zm ?_))
  refine .o (.buildSlice (cells:=[_]) hs cz rfl rfl fun b27 w hs=>?_)
  refine .o (.append (ys:=Is [0]) hs cy rfl rfl hO (.own .here rfl rfl) (kS _) (fun l' h=>by simp [Is] at h;omega) ?_);intro v28 en28 w hO2 hs
  rw [show Is (L0++List.replicate j 0)++Is [0]=Is (L0++List.replicate (j+1) 0) by rw [←yL];simp [Is]] at hO2
  refine .z zg (.nil ?_)
  refine nB (nT ?_)
  exact ⟨(j+1,v28),cC,⟨by dsimp only;omega,_,hO2,hs.sb⟩,by dsimp only;omega⟩
 ·refine .exit ?_
  refine xT (xT (xB (nT ?_)))
  refine .ai (.y hs (zls [_,_] aV aA) (.z zm (.z zm (.z (zbd [_,_,_,_] dp) (.z zm ?_)))))
  refine .o (.aP (vs:=[_,_,_,_]) hs rfl rfl cD fun w hs=>?_)
  refine .z zg (.nil ?_)
  refine .ret ?_
  have hjn:L0.length+j=s.sys.n:=by omega
  obtain ⟨H3,hle3,hR,hs⟩:=bX.cn hO (by simp;omega) hs c9
  exact Fin.gR [] [] hs fun w hs=>⟨_,results2 Tryz.results155 (dF (vs:=[_,_,_,_]) hs rfl sw cD) rfl,H3,_,_,_,d,b,hle02.trans hle3,rfl,hL.mono (hle2.trans hle3),hR,by simp;omega,by
   rcases hcase with ⟨g1,g2,rfl,g3⟩|⟨g1,g2,_,_⟩
   ·refine .inl ⟨g1,g2,?_,g3⟩
    rw [ez,hn] at hjn
    unfold Srv.w;rw [show j=s.aI.length by omega]
   ·exact .inr ⟨g1,g2⟩,hs.out⟩
inductive nC(v:Srv)(q:Wht):Int→Prop
 |bad {e:Int} (h:nN v e) (he:e≠0):nC v q e
 |what (h:bY v) (h1:¬dn v.sp q):nC v q 33
 |fls (h:bY v) (h1:dn v.sp q) (h2:¬v.sys.Sound):nC v q 35
 |ok (h:bY v) (h1:dn v.sp q) (h2:v.sys.Sound):nC v q 0
theorem nC.zero{v:Srv}{q:Wht}(h:nC v q 0):bY v∧dn v.sp q∧v.sys.Sound:=by
 generalize hz:(0:Int)=z at h
 cases h with
 |bad h he=>exact (he hz.symm).elim
 |what=>omega
 |fls=>omega
 |ok h h1 h2=>exact ⟨h,h1,h2⟩
theorem nC.qty{v:Srv}{q:Wht}{e:Int}(h:nC v q e)(he:e≠0):q8 v q 0 0 e:=by
 cases h with
 |bad h he=>exact .bad h he
 |what h h1=>exact .what h h1
 |fls h h1 h2=>exact .fls h h1 h2
 |ok=>exact (he rfl).elim
set_option maxHeartbeats 1000000 in
theorem lq{s:Srv}{q:Wht}{vst vwa vr vc:Value}(hs:St H w σ)(h1:RI H vst s.sp.st)(h2:RI H vwa s.sp.wa)(h3:RRd H vr s.rs)(h4:RCm H vc s.cs):
  Cl Tryz.prog 85 [.agg #[I s.sp.id,I s.sp.src,vst,vwa,I s.sp.al,I s.sp.up,vr,vc],.agg #[I q.kind,I q.st,I q.wa]] w fun u w'=>∃H1 m ul vw d e,HLe H H1∧u= .tuple #[.agg #[I m,ul,vw,I d],I e]∧(∃a l c,ul= .slice a l c)∧(∃a l c,vw= .slice a l c)∧nC s q e∧(e=0→m=s.sys.many∧RL H1 ul s.bn∧RI H1 vw (s.w q)∧d=l9 q)∧St H1 w' σ:=by
 refine Cl.o Tryz.func85 Tryz.ntmps85 ag2 ?_
 refine .ai ?_
 refine .bx hs fun b2 w hs=>?_
 refine .bx hs fun b3 w hs=>?_
 refine .o (.alloc hs q9 rfl fun b4 w hs=>?_)
 refine .z zg (.nil (.seq (.ai (.y hs (zls [_,_,_,_,_,_,_,_] bg aM) ?_))))
 refine .o (.call Tryz.call42 rfl (dS (s:=s) hs h1 h2 h3 h4) ?_);rintro _ w ⟨H1,e,hle1,rfl,hC,hs⟩
 refine .z zg (.nil (.ai (.z zm (.z m9 (.nil ?_)))))
 refine (.ie rfl (fun hc12=>?_) (fun hc12=>?_))
 ·refine .ai (.z (zbd [_,_,_,_] dp) (.z zm ?_))
  refine .o (.aP (vs:=[_,_,_,_]) hs rfl rfl cD fun w hs=>?_)
  refine .z zg (.nil ?_)
  refine .ret (rT (?_))
  exact Fin.gR [] [] hs fun w hs=>⟨_,results2 Tryz.results85 (dF (vs:=[_,_,_,_]) hs rfl sw cD) rfl,H1,_,_,_,_,e,hle1,rfl,⟨_,_,_,rfl⟩,⟨_,_,_,rfl⟩,.bad hC hc12,fun h=>(hc12 h).elim,hs.out⟩
 ·refine .skip ?_
  refine nT ?_
  refine .ai (.y hs (zls [_,_,_,_,_,_,_,_] bg aM) (.y hs (zls [_,_,_] CF mb) ?_))
  have hok:bY s:=hC.aH.1 (by simpa using hc12)
  refine .o (.call Tryz.call155 rfl (nm (s:=s) (q:=q) hs (h1.mono hle1) (h2.mono hle1) (h3.mono hle1) (h4.mono hle1) hok) ?_);rintro _ w ⟨H2,ul,vw,L,d,b,hle2,rfl,hL,hR,hLl,hcase,hs⟩
  have hle02:=hle1.trans hle2
  obtain ⟨al,cl,rfl⟩:=RL.shape hL
  obtain ⟨aw,cw,rfl⟩:=RI.shape hR
  refine .z zm (.z zex (.z zex ?_))
  refine .o (.alloc hs q9 rfl fun b7 w hs=>?_)
  refine .o (.aP (vs:=[_,_,_,_]) hs rfl rfl cD fun w hs=>?_)
  refine .z zg (.nil (.seq (.block (.ai (.z zm (.z jb (.z zg (.nil ?_))))))))
  refine (.cond rfl (fun hc21=>?_) (fun hc21=>?_))
  ·refine .ai (.z (zbd [_,_,_,_] dp) ?_)
   refine .o (.aP (vs:=[_,_,_,_]) hs rfl rfl cD fun w hs=>?_)
   refine .z zg (.nil ?_)
   refine .ret (rB (rT (?_)))
   have hq:¬dn s.sp q:=by
    rcases hcase with ⟨g,_⟩|⟨_,g⟩
    ·subst g;cases hc21
    ·exact g
   exact Fin.gR [] [] hs fun w hs=>⟨_,results2 Tryz.results85 (dF (vs:=[_,_,_,_]) hs rfl sw cD) rfl,H2,_,_,_,_,_,hle02,rfl,⟨_,_,_,rfl⟩,⟨_,_,_,rfl⟩,.what hok hq,fun h=>by omega,hs.out⟩
  ·refine .ai (.y hs (zls [_,_,_,_,_,_,_,_] bg aM) ?_)
   obtain ⟨rfl,hq,rfl,rfl⟩:b=true∧dn s.sp q∧L=s.w q∧d=l9 q:=hcase.resolve_right fun h=>by rw [h.1] at hc21;cases hc21
   refine .o (.call Tryz.call169 rfl (ky (s:=s) hs (h1.mono hle02) (h2.mono hle02) (h3.mono hle02) (h4.mono hle02) hok) ?_);rintro _ w ⟨H3,b27,hle3,rfl,hb27,hs⟩
   refine .z jb (.z zg (.nil ?_))
   refine (.cond rfl (fun hc25=>?_) (fun hc25=>?_))
   ·refine .ai (.z (zbd [_,_,_,_] dp) ?_)
    refine .o (.aP (vs:=[_,_,_,_]) hs rfl rfl cD fun w hs=>?_)
    refine .z zg (.nil ?_)
    refine .ret (rB (rT (?_)))
    exact Fin.gR [] [] hs fun w hs=>⟨_,results2 Tryz.results85 (dF (vs:=[_,_,_,_]) hs rfl sw cD) rfl,H3,_,_,_,_,_,hle02.trans hle3,rfl,⟨_,_,_,rfl⟩,⟨_,_,_,rfl⟩,.fls hok hq (fun h=>by rw [hb27.2 h] at hc25;cases hc25),fun h=>by omega,hs.out⟩
   ·refine .skip ?_
    refine nB (nT ?_)
    refine .ai (.y hs (zls [_,_,_,_] sw cD) ?_)
    refine .o (.aP (vs:=[_,_,_,_]) hs rfl rfl cD fun w hs=>?_)
    refine .z zg (.nil ?_)
    refine .ret ?_
    exact Fin.gR [] [] hs fun w hs=>⟨_,results2 Tryz.results85 (dF (vs:=[_,_,_,_]) hs rfl sw cD) rfl,H3,_,_,_,_,_,hle02.trans hle3,rfl,⟨_,_,_,rfl⟩,⟨_,_,_,rfl⟩,.ok hok hq (hb27.1 (by simpa using hc25)),fun _=>⟨rfl,hL.mono hle3,hR.mono hle3,rfl⟩,hs.out⟩
set_option maxHeartbeats 1000000 in
theorem lz{s:Srv}{q:Wht}{vst vwa vr vc:Value}(hs:St H w σ)(h1:RI H vst s.sp.st)(h2:RI H vwa s.sp.wa)(h3:RRd H vr s.rs)(h4:RCm H vc s.cs):
  Cl Tryz.prog 26 [.agg #[I s.sp.id,I s.sp.src,vst,vwa,I s.sp.al,I s.sp.up,vr,vc],.agg #[I q.kind,I q.st,I q.wa]] w fun u w'=>∃H1 lo hi e,HLe H H1∧u= .tuple #[.agg #[I lo,I hi],I e]∧q8 s q lo hi e∧St H1 w' σ:=by
 refine Cl.o Tryz.func26 Tryz.ntmps26 ag2 ?_
 refine .ai ?_
 refine .bx hs fun b2 w hs=>?_
 refine .bx hs fun b3 w hs=>?_
 refine .o (.alloc hs eX rfl fun b4 w hs=>?_)
 refine .z zg (.nil (.ai (.y hs (zls [_,_,_,_,_,_,_,_] bg aM) (.y hs (zls [_,_,_] CF mb) ?_))))
 refine .o (.call Tryz.call85 rfl (lq (s:=s) (q:=q) hs h1 h2 h3 h4) ?_);rintro _ w ⟨H1,m,ul,vw,d,e,hle1,rfl,⟨al,ll,cl,rfl⟩,⟨aw,lw,cw,rfl⟩,hA,hA0,hs⟩
 refine .z zm (.z zex (.z zex ?_))
 refine .o (.alloc hs q9 rfl fun b6 w hs=>?_)
 refine .o (.aP (vs:=[_,_,_,_]) hs rfl rfl cD fun w hs=>?_)
 refine .z zg (.nil (.seq (.ai (.z zm (.z m9 (.nil ?_))))))
 refine (.ie rfl (fun hc17=>?_) (fun hc17=>?_))
 ·refine .ai (.z (zbd [_,_] bq) (.z zm ?_))
  refine .o (.aP (vs:=[_,_]) hs rfl rfl aD fun w hs=>?_)
  refine .z zg (.nil ?_)
  refine .ret (rT (?_))
  exact Fin.gR [] [] hs fun w hs=>⟨_,results2 Tryz.results26 (dF (vs:=[_,_]) hs rfl cg aD) rfl,H1,_,_,_,hle1,rfl,hA.qty hc17,hs.out⟩
 ·refine .skip ?_
  refine nT ?_
  refine .ai (.z (zfa jn) (.y hs (zls [_,_] aV aA) (.z (zfa jm) (.y hs (zld ak) ?_))))
  obtain rfl:e=0:=by simpa using hc17
  obtain ⟨rfl,hL,hR,rfl⟩:=hA0 rfl
  obtain ⟨hok,hq,hsd⟩:=hA.zero
  refine .o (.call Tryz.call74 rfl (fF (s:=s.sys) hs ⟨_,rfl,hL⟩ hR) ?_);rintro _ w ⟨H2,lo,hi,f,hle2,rfl,hRg,hs⟩
  obtain rfl:=iC (hok.ask hq) hsd (fun b=>s.both) hRg
  have hbd:=hRg.bd
  have hdp:=qI q
  refine .z zm (.z zex (.z zex (.z zex (.z zg (.z zg (.z zg (.nil (.seq (.ai ?_)))))))))
  refine .z zm (.z m9 (.nil ?_))
  refine (.ie rfl (fun hc30=>?_) (fun hc30=>?_))
  ·refine .ai (.z (zbd [_,_] bq) (.z zm ?_))
   refine .o (.aP (vs:=[_,_]) hs rfl rfl aD fun w hs=>?_)
   refine .z zg (.nil ?_)
   refine .ret (rT (?_))
   exact (hc30 rfl).elim
  ·refine .skip ?_
   refine nT ?_
   refine .seq (.draw mix rfl hs fun w hs=>?_)
   refine .z 0 rfl zm ?_;refine .z 1 rfl (zfa fo) ?_;refine .y 2 rfl hs af ?_;refine .z 4 rfl zm ?_;refine .z 5 rfl (zfa fo) ?_;refine .y 6 rfl hs af ?_
   refine .E 3 hs ?_
   refine .call Tryz.call86 rfl (fa hs aj aj) ?_;rintro _ w ⟨rfl,hs⟩
   refine .go ?_
   refine .E 7 hs ?_
   refine .call Tryz.call86 rfl (fa hs aj aj) ?_;rintro _ w ⟨rfl,hs⟩
   refine .go ?_
   refine .z 8 rfl (zbd [_,_] bq) ?_
   refine .E 9 hs ?_
   refine .aP (vs:=[_,_]) hs rfl rfl aD ?_;intro w hs
   refine .go ?_
   refine .z 10 rfl zg ?_;refine .D hs ?_
   refine .ret ?_
   exact Fin.gR [] [] hs fun w hs=>⟨_,results2 Tryz.results26 (dF (vs:=[_,_]) hs rfl cg aD) rfl,H2,_,_,_,hle1.trans hle2,rfl,.ok hok hq hsd hRg,hs.out⟩
inductive oM(v:Srv)(out:List Int):Int→Prop
 |bad {e:Int} (h:nN v e) (he:e≠0) (h1:out=[]):oM v out e
 |ok {e:Int} (h:bY v) (h1:qY v.sys out e):oM v out e
theorem lx{s:Srv}{vst vwa vr vc:Value}(hs:St H w σ)(h1:RI H vst s.sp.st)(h2:RI H vwa s.sp.wa)(h3:RRd H vr s.rs)(h4:RCm H vc s.cs):
  Cl Tryz.prog 32 [.agg #[I s.sp.id,I s.sp.src,vst,vwa,I s.sp.al,I s.sp.up,vr,vc]] w fun u w'=>∃H1 vx out e,HLe H H1∧u= .tuple #[vx,I e]∧RI H1 vx out∧oM s out e∧St H1 w' σ:=by
 refine Cl.o Tryz.func32 Tryz.ntmps32 ag1 ?_
 refine .ai ?_
 refine .bx hs fun b1 w hs=>?_
 refine .z zg (.z zg (.nil (.seq (.ai (.y hs (zls [_,_,_,_,_,_,_,_] bg aM) ?_)))))
 refine .o (.call Tryz.call42 rfl (dS (s:=s) hs h1 h2 h3 h4) ?_);rintro _ w ⟨H1,e,hle1,rfl,hC,hs⟩
 refine .z zg (.nil (.ai (.z zm (.z m9 (.nil ?_)))))
 refine (.ie rfl (fun hc10=>?_) (fun hc10=>?_))
 ·refine .ai (.z zm (.z zg (.z zg (.nil ?_))))
  refine .ret (rT (Fin.q5 Tryz.results32 rfl rfl ?_))
  exact ⟨H1,_,[],_,hle1,rfl,RS.nil H1 1 none 0,.bad hC hc10 rfl,hs.out⟩
 ·refine .skip ?_
  refine nT ?_
  refine .ai (.y hs (zls [_,_,_,_,_,_,_,_] bg aM) ?_)
  have hok:bY s:=hC.aH.1 (by simpa using hc10)
  refine .o (.call yT rfl (cU (s:=s) hs (h1.mono hle1) (h2.mono hle1) (h3.mono hle1) (h4.mono hle1) hok.early) ?_);rintro v14 w ⟨H2,hle2,hS,hs⟩
  refine .o (.call Tryz.call98 rfl (kI (s:=s.sys) hs hS) ?_);rintro _ w ⟨H3,vx,out,f,hle3,rfl,hR,hCf,hs⟩
  refine .z zm (.z zex (.z zex (.z zg (.z zg (.nil (.ai (.z zm (.z zm (.z zg ?_)))))))))
  refine .z zg (.nil ?_)
  refine .ret (Fin.q5 Tryz.results32 rfl rfl ?_)
  exact ⟨H3,_,out,_,hle1.trans (hle2.trans hle3),rfl,hR,.ok hok hCf,hs.out⟩
set_option maxHeartbeats 1000000 in
theorem mD{s:Srv}{t:TD}{vst vwa vr vc:Value}(hs:St H w σ)(h1:RI H vst s.sp.st)(h2:RI H vwa s.sp.wa)(h3:RRd H vr s.rs)(h4:RCm H vc s.cs):
  Cl Tryz.prog 28 [.agg #[I s.sp.id,I s.sp.src,vst,vwa,I s.sp.al,I s.sp.up,vr,vc],.agg #[I t.tape,I t.day]] w fun u w'=>∃H1 lo hi e,HLe H H1∧u= .tuple #[.agg #[I lo,I hi],I e]∧qS s t lo hi e∧St H1 w' σ:=by
 refine Cl.o Tryz.func28 Tryz.ntmps28 ag2 ?_
 refine .ai ?_
 refine .bx hs fun b2 w hs=>?_
 refine .bx hs fun b3 w hs=>?_
 refine .o (.alloc hs eX rfl fun b4 w hs=>?_)
 refine .z zg (.nil (.seq (.ai (.y hs (zls [_,_,_,_,_,_,_,_] bg aM) ?_))))
 refine .o (.call Tryz.call42 rfl (dS (s:=s) hs h1 h2 h3 h4) ?_);rintro _ w ⟨H1,e,hle1,rfl,hC,hs⟩
 refine .z zg (.nil (.ai (.z zm (.z m9 (.nil ?_)))))
 refine (.ie rfl (fun hc15=>?_) (fun hc15=>?_))
 ·refine .ai (.z (zbd [_,_] bq) (.z zm ?_))
  refine .o (.aP (vs:=[_,_]) hs rfl rfl aD fun w hs=>?_)
  refine .z zg (.nil ?_)
  refine .ret (rT (?_))
  exact Fin.gR [] [] hs fun w hs=>⟨_,results2 Tryz.results28 (dF (vs:=[_,_]) hs rfl cg aD) rfl,H1,_,_,_,hle1,rfl,.bad hC hc15,hs.out⟩
 ·refine .skip ?_
  refine nT ?_
  refine .seq (.draw mix rfl hs fun w hs=>?_)
  refine .ys 0 rfl hs [_,_,_,_,_,_,_,_] bg aM ?_;refine .ys 2 rfl hs [_,_] gZ bP ?_
  refine .E 1 hs ?_
  have hok:bY s:=hC.aH.1 (by simpa using hc15)
  have hsm:=dM hok.early.1
  have hrl:=hok.early.2.1
  have hn:=nh s
  have htl:s.aI.length≤60:=by have:=cP s.rs;unfold Srv.aI;omega
  refine .call Tryz.call90 rfl (eL (s:=s) hs (h3.mono hle1) aj) ?_;rintro v19 w ⟨H2,hle2,hT,hs⟩
  have hle02:=hle1.trans hle2
  refine .go ?_
  refine .E 3 hs ?_
  refine .call Tryz.call89 rfl (jg (t:=t) hs hT aj) ?_;rintro _ w ⟨rfl,hs⟩
  have hnn:=mP (l:=s.aI) (t:=t)
  refine .go ?_
  refine .z 4 rfl zg ?_;refine .D hs ?_
  refine .seq (.ai (.z zm (.z kX (.nil ?_))))
  refine (.cW rfl (fun hc23=>?_) (fun hc23=>?_))
  ·refine .ai (.z (zbd [_,_] bq) ?_)
   refine .o (.aP (vs:=[_,_]) hs rfl rfl aD fun w hs=>?_)
   refine .z zg (.nil ?_)
   refine .ret (rT (?_))
   exact Fin.gR [] [] hs fun w hs=>⟨_,results2 Tryz.results28 (dF (vs:=[_,_]) hs rfl cg aD) rfl,H2,_,_,_,hle02,rfl,.none hok (fun h=>by have:=hnn.2 h;omega),hs.out⟩
  ·refine .skip ?_
   refine nT ?_
   refine .seq (.draw mix rfl hs fun w hs=>?_)
   refine .z 0 rfl (zfa aS) ?_;refine .ys 1 rfl hs [_,_,_,_,_,_] aK az ?_;refine .ys 4 rfl hs [_,_,_,_,_,_,_,_] bg aM ?_
   refine .E 2 hs ?_
   have hmem:t∈s.aI:=hnn.1 aj
   obtain ⟨k,k1,k2,k3⟩:=dL hmem
   have hlt:=bY.zw hmem
   rw [k1,Int.toNat_natCast] at hlt
   rw [k1] at hc23 ⊢
   refine .call Tryz.call91 rfl (dq (s:=s.sp) hs (h1.mono hle02) (h2.mono hle02) ⟨aj,aj⟩) ?_;rintro _ w ⟨rfl,hs⟩
   refine .go ?_
   refine .z 3 rfl cR ?_
   refine .E 5 hs ?_
   refine .call Tryz.call90 rfl (eL (s:=s) hs (h3.mono hle02) aj) ?_;rintro v30 w ⟨H3,hle3,hT2,hs⟩
   have hle03:=hle02.trans hle3
   obtain ⟨at_,ct,rfl⟩:=RTd.shape hT2
   refine .go ?_
   refine .z 6 rfl (df aW) ?_;refine .z 7 rfl cR ?_
   refine .E 8 hs ?_
   refine .o7 s.sys.n hs (by show some (I _)=some (I _);congr 2;rw [hn];show _=((s.sp.many+s.aI.length+1:Nat):Int);omega) (by show some (I _)=some (I _);congr 2;rw [hn];show _=((s.sp.many+s.aI.length+1:Nat):Int);omega) ad dB rfl ae aR aj ?_;intro b33 w hs
   refine .go ?_
   refine .z 9 rfl zg ?_;refine .D hs ?_
   refine .ai (.z zm (.z (zfa aS) (.y hs (zls [_,_,_,_,_,_] aK az) ?_)))
   refine .o (.call Tryz.call91 rfl (dq (s:=s.sp) hs (h1.mono hle03) (h2.mono hle03) ⟨aj,aj⟩) ?_);rintro _ w ⟨rfl,hs⟩
   refine .z cR (.z zm (.z cR ?_))
   refine .q hs (gh (k:=s.sp.many+1+k) rfl rfl ad ae aj aj) ?_
   refine .o (.store (c':=Is (jD s.sys.n (s.sp.many+1+k) 1)) hs rfl rfl ae ?_ c9 (by simp [Is];omega) (pY _ _ _));intro w hs
   refine .nil (.ai (.y hs (zls [_,_,_,_,_,_,_,_] bg aM) ?_))
   obtain ⟨H4,hle4,hW,hs⟩:=bX.cn (xs:=jD s.sys.n (s.sp.many+1+k) 1) (v:= .slice (some ⟨b33,0,none⟩) s.sys.n s.sys.n) (.full (by simp [Is,dD])) (by rw [dD];omega) hs c9
   have hle04:=hle03.trans hle4
   refine .o (.call yT rfl (cU (s:=s) hs (h1.mono hle04) (h2.mono hle04) (h3.mono hle04) (h4.mono hle04) hok.early) ?_);rintro v44 w ⟨H5,hle5,hS,hs⟩
   refine .z zm ?_
   refine .o (.call Tryz.call74 rfl (fF (s:=s.sys) hs hS (hW.mono hle5)) ?_);rintro _ w ⟨H6,lo,hi,f,hle6,rfl,hRg,hs⟩
   have hbd:=hRg.bd
   have hleF:=hle04.trans (hle5.trans hle6)
   have hA:=hok.xp hlt (x:=1) aj
   refine .z zm (.z zex (.z zex (.z zex (.z zg (.z zg (.z zg (.nil (.seq (.ai ?_)))))))))
   refine .z zm (.z m9 (.nil ?_))
   refine (.ie rfl (fun hc51=>?_) (fun hc51=>?_))
   ·refine .ai (.z (zbd [_,_] bq) ?_)
    refine .o (.aP (vs:=[_,_]) hs rfl rfl aD fun w hs=>?_)
    refine .z zg (.nil ?_)
    refine .ret (rT (?_))
    have hns:¬s.sys.Sound:=fun h=>hc51 (iC hA h (fun b=>s.both) hRg)
    exact Fin.gR [] [] hs fun w hs=>⟨_,results2 Tryz.results28 (dF (vs:=[_,_]) hs rfl cg aD) rfl,H6,_,_,_,hleF,rfl,.fls hok hmem hns,hs.out⟩
   ·refine .skip ?_
    refine nT ?_
    refine .ai (.z zm (.z xh (.z zm (.z xh (.z (zbd [_,_] bq) ?_)))))
    refine .o (.aP (vs:=[_,_]) hs rfl rfl aD fun w hs=>?_)
    refine .z zg (.nil ?_)
    refine .ret ?_
    obtain rfl:f=0:=by simpa using hc51
    have hsd:s.sys.Sound:=Classical.byContradiction fun h=>by have:=tf hA h hRg;omega
    exact Fin.gR [] [] hs fun w hs=>⟨_,results2 Tryz.results28 (dF (vs:=[_,_]) hs rfl cg aD) rfl,H6,_,_,_,hleF,rfl,.ok hok hmem hsd (by rw [k1,Int.toNat_natCast];exact hRg),hs.out⟩
theorem jh{v:Value}{rs:List (List Int)}{g:Nat}{cap:List Value}(q:List Int→Prop)(hs:St H w σ)(hR:RT H v rs)(hl:rs.length≤9223372036854775807)(hc:∀args w,(callFunc g args).run Tryz.prog w= .ok (.enter g args) w)
  (hp:∀H' w σ r u,HLe H H'→RI H' u r→St H' w σ→Cl Tryz.prog g ([u]++cap) w fun z w'=>∃H1 b,HLe H' H1∧z= .bool b∧(b=true↔q r)∧St H1 w' σ):
  Cl Tryz.prog 236 [v,.func (.func g) #[] cap.toArray] w fun u w'=>∃H1 i,HLe H H1∧u=I i∧(0≤i↔∃x∈rs,q x)∧St H1 w' σ:=by
 obtain ⟨a,c,rfl⟩:=hR.shape
 refine Cl.o Tryz.func236 Tryz.ntmps236 ag2 ?_
 refine .ai (.z zg (.nil (.seq (.ai (.z zm (.z (df bH) (.z zm (.nil ?_))))))))
 refine .for (N:=rs.length) (J:=fun k fr w=>fr=[(1,.func (.func g) #[] cap.toArray),(0,.slice a rs.length c)]∧∃H1,HLe H H1∧(∀j<k,∀y,rs[j]? =some y→¬q y)∧St H1 w σ) aj ?_ ?_ ?_
 ·exact .mk ⟨rfl,H,HLe.refl H,fun j hj=>by omega,hs⟩
 ·rintro k fr w hk ⟨rfl,H1,hle1,hno,hs⟩
  have hx:=ox (rs:=rs) hk
  refine .block (.ai (.z zm (.z zg (.nil (.ai (.z zm (.z zm (.z zm ?_))))))))
  refine .ixT hs (hR.mono hle1) rfl rfl bH aE (show k<_ by omega) dm ?_;intro b14 o14 a14 c14 hc14 hR14
  refine .q hs (bj rfl ak hc14) ?_
  refine .o (.lP (first:=[]) (cap:=cap) rfl rfl hc (hp _ _ _ (gr rs k) _ hle1 hR14 hs) ?_);rintro _ w ⟨H2,b16,hle2,rfl,hb16,hs⟩
  refine .nil ?_
  refine (.cond rfl (fun hc16=>?_) (fun hc16=>?_))
  ·refine .ai (.z zm (.z zg (.nil ?_)))
   refine .ret (rB (rT (rB (rT (Fin.bF Tryz.results236 rfl ?_)))))
   exact ⟨H2,_,hle1.trans hle2,rfl,⟨fun _=>⟨_,List.mem_of_getElem? hx,hb16.1 hc16⟩,fun _=>by omega⟩,hs⟩
  ·refine .skip ?_
   refine nB (nT ?_)
   exact .mk ⟨rfl,H2,hle1.trans hle2,ek hno hx (fun h=>by rw [hb16.2 h] at hc16;cases hc16),hs⟩
 ·rintro fr w ⟨rfl,H1,hle1,hno,hs⟩
  refine nT ?_
  refine .ai (.z zg (.nil ?_))
  refine .ret (Fin.bF Tryz.results236 rfl ?_)
  exact ⟨H1,_,hle1,rfl,⟨fun h=>by omega,fun ⟨x,h1,h2⟩=>by
   obtain ⟨j,hj⟩:=List.getElem?_of_mem h1
   exact (hno j (List.getElem?_eq_some_iff.1 hj).1 x hj h2).elim⟩,hs⟩
theorem hZ{v:Value}{rs:List (List Int)}{g:Nat}{cap:List Value}(q:List Int→Prop)(hs:St H w σ)(hR:RT H v rs)(hl:rs.length≤9223372036854775807)(hc:∀args w,(callFunc g args).run Tryz.prog w= .ok (.enter g args) w)
  (hp:∀H' w σ r u,HLe H H'→RI H' u r→St H' w σ→Cl Tryz.prog g ([u]++cap) w fun z w'=>∃H1 b,HLe H' H1∧z= .bool b∧(b=true↔q r)∧St H1 w' σ):
  Cl Tryz.prog 186 [v,.func (.func g) #[] cap.toArray] w fun u w'=>∃H1 b,HLe H H1∧u= .bool b∧(b=true↔∃x∈rs,q x)∧St H1 w' σ:=by
 refine Cl.o Tryz.func186 Tryz.ntmps186 ag2 ?_
 refine .ai (.z zg (.nil (.ai (.z zm (.z zm ?_)))))
 refine .o (.call Tryz.call236 rfl (jh q hs hR hl hc hp) ?_);rintro _ w ⟨H1,i,hle1,rfl,hi,hs⟩
 refine .z xi (.z zg (.nil ?_))
 refine .ret (Fin.bF Tryz.results186 rfl ?_)
 exact ⟨H1,_,hle1,rfl,by simp only [decide_eq_true_eq];exact hi,hs⟩
theorem ou{n:Int}(hs:St H w σ):
  Cl Tryz.prog 188 [I n] w fun u w'=>u= .bool (!decide (0≤n∧n≤20000))∧St H w' σ:=by
 refine Cl.o Tryz.func188 Tryz.ntmps188 ag1 ?_
 refine .ai (.z zg (.nil (.ai (.z zm ?_))))
 refine .o (.call bN rfl (aF hs) ?_);rintro _ w ⟨rfl,hs⟩
 refine .z jb (.z zg (.nil ?_))
 refine .ret (Fin.bF Tryz.results188 rfl ?_)
 exact ⟨rfl,hs⟩
theorem qv{s:Spc}{v vst vwa:Value}{r:List Int}{b:Nat}(hs:St H w σ)(hb:Row H b [I s.id,I s.src,vst,vwa,I s.al,I s.up])(h2:RI H vwa s.wa)(hr:RI H v r):
  Cl Tryz.prog 187 [v,.pointer (some ⟨b,0,none⟩)] w fun u w'=>∃H1 bb,HLe H H1∧u= .bool bb∧(bb=true↔¬(r.length=s.wa.length∧∀x∈r,0≤x∧x≤20000))∧St H1 w' σ:=by
 obtain ⟨a,c,rfl⟩:=RI.shape hr
 obtain ⟨awa,cwa,rfl⟩:=RI.shape h2
 have hb3:=hb.at 3
 refine Cl.o Tryz.func187 Tryz.ntmps187 ag2 ?_
 refine .ai (.z zg (.nil (.ai (.z zm (.z (df ad) (.z (zfa aO) (.y hs (zld ak) (.z (df ad) (.z m9 ?_)))))))))
 refine .z zm ?_
 refine .Bv (t':=10) rfl (fun hb10=>?_) (fun hb10=>?_)
 ·refine .gFs 2 6 false rfl rfl rfl ?_
  refine .z zpT (.z zg (.nil ?_))
  refine .ret (Fin.bF Tryz.results187 rfl ?_)
  exact ⟨H,true,HLe.refl H,rfl,⟨fun _ h=>by have:=h.1;simp_all,fun _=>rfl⟩,hs⟩
 ·refine .gT rfl rfl ?_
  refine .z zm ?_
  refine .gT rfl rfl ?_
  refine .o (.call Tryz.call134 rfl (gP (g:=188) (cap:=[]) (fun n=>¬(0≤n∧n≤20000)) hs hr Tryz.call188 (fun H' w σ n _ _ hs=>(ou hs).mono fun u w' ⟨g1,g2⟩=>⟨H',_,HLe.refl _,g1,by simp;omega,g2⟩)) ?_);rintro _ w ⟨H1,b12,hle1,rfl,hb12,hs⟩
  refine .z zpF (.z zg (.nil ?_))
  refine .ret (Fin.bF Tryz.results187 rfl ?_)
  have hlen:r.length=s.wa.length:=by simp_all;omega
  exact ⟨H1,_,hle1,rfl,by
   rw [hb12]
   constructor
   ·rintro ⟨x,h1,h2⟩ h;exact h2 (h.2 x h1)
   ·intro h
    refine Classical.byContradiction fun hn=>h ⟨hlen,fun x hx=>Classical.byContradiction fun hx'=>hn ⟨x,hx,hx'⟩⟩,hs⟩
theorem yp{s:Spc}{rows:List (List Int)}:im s rows↔rows.length=s.st.length∧∀r∈rows,r.length=s.wa.length∧∀x∈r,0≤x∧x≤20000:=by
 constructor
 ·rintro ⟨h1,h2,h3⟩
  refine ⟨h1,fun r hr=>?_⟩
  obtain ⟨i,hi⟩:=List.getElem?_of_mem hr
  have hil:=(List.getElem?_eq_some_iff.1 hi).1
  have hg:=ox hil
  rw [hi] at hg
  obtain rfl:=Option.some.inj hg
  have hl:=h2 i aj
  refine ⟨hl,fun x hx=>?_⟩
  obtain ⟨k,hk⟩:=List.getElem?_of_mem hx
  have hkl:=(List.getElem?_eq_some_iff.1 hk).1
  have hgk:=bB hkl
  rw [hk] at hgk
  obtain rfl:=Option.some.inj hgk
  exact h3 i aj k aj
 ·rintro ⟨h1,h2⟩
  have hm:∀i<s.st.length,gr rows i∈rows:=fun i hi=>List.mem_of_getElem? (ox aj)
  refine ⟨h1,fun i hi=>(h2 _ (hm i hi)).1,fun i hi k hk=>?_⟩
  have hl:=(h2 _ (hm i hi)).1
  exact (h2 _ (hm i hi)).2 _ (List.mem_of_getElem? (bB aj))
theorem kz{s:Spc}{vst vwa vh:Value}{rows:List (List Int)}(hs:St H w σ)(h1:RI H vst s.st)(h2:RI H vwa s.wa)(hr:RT H vh rows):
  Cl Tryz.prog 101 [.agg #[I s.id,I s.src,vst,vwa,I s.al,I s.up],.agg #[vh]] w fun u w'=>∃H1 b,HLe H H1∧u= .bool b∧(b=true↔im s rows)∧St H1 w' σ:=by
 obtain ⟨ast,cst,rfl⟩:=RI.shape h1
 obtain ⟨awa,cwa,rfl⟩:=RI.shape h2
 obtain ⟨ah,ch,rfl⟩:=hr.shape
 have hrl:=(hr.len).2.2
 refine Cl.o Tryz.func101 Tryz.ntmps101 ag2 ?_
 refine .ai ?_
 refine .bx hs fun b2 w hs=>?_
 refine .bx hs fun b3 w hs=>?_
 refine .z zg (.nil (.ai (.z (zfa eQ) (.y hs (zld oU) (.z (df bH) (.z (zfa aU) (.y hs (zld ak) (.z (df ad) (.z j9 ?_)))))))))
 refine .z zm ?_
 refine .mM (t':=12) rfl (fun hb12=>?_) (fun hb12=>?_)
 ·refine .gT rfl rfl ?_
  refine .z (zfa eQ) ?_
  refine .gT rfl rfl ?_
  refine .y hs (zld oU) ?_
  refine .gT rfl rfl ?_
  refine .q hs (bO (f:=[]) (c:=[_]) rfl rfl) ?_
  refine .gT rfl rfl ?_
  obtain ⟨H0,hle0,hb2,hs⟩:=hs.bK (b:=b2) c9
  refine .o (.call Tryz.call186 rfl (hZ (g:=187) (cap:=[.pointer (some ⟨b2,0,none⟩)]) (fun r=>¬(r.length=s.wa.length∧∀x∈r,0≤x∧x≤20000)) hs (hr.mono hle0) hrl Tryz.call187 (fun H' w σ r u hle hu hs=>qv (s:=s) hs (hb2.mono hle) (h2.mono (hle0.trans hle)) hu)) ?_);rintro _ w ⟨H1,b16,hle1,rfl,hb16,hs⟩
  refine .gT rfl rfl ?_
  refine .z jb (.z zpT (.z zg (.nil ?_)))
  refine .ret (Fin.bF Tryz.results101 rfl ?_)
  exact ⟨H1,_,hle0.trans hle1,rfl,by
   rw [yp]
   have hlen:rows.length=s.st.length:=by omega
   cases hbb:b16 with
   |true=>
    obtain ⟨x,hx,hn⟩:=hb16.1 hbb
    exact ⟨fun h=>(by cases h),fun h=>(hn (h.2 x hx)).elim⟩
   |false=>exact ⟨fun _=>⟨hlen,fun r hr=>Classical.byContradiction fun hn=>by rw [hb16.2 ⟨r,hr,hn⟩] at hbb;cases hbb⟩,fun _=>rfl⟩,hs.out⟩
 ·refine .gFs 5 7 true rfl rfl rfl ?_
  refine .z zpF (.z zg (.nil ?_))
  refine .ret (Fin.bF Tryz.results101 rfl ?_)
  exact ⟨H,_,HLe.refl H,rfl,⟨fun h=>(by cases h),fun h=>by have:=h.len;omega⟩,hs.out⟩
set_option maxHeartbeats 1000000 in
theorem dR{s:Spc}{q:Wht}{vst vwa vh:Value}{rows:List (List Int)}(hs:St H w σ)(h1:RI H vst s.st)(h2:RI H vwa s.wa)(hr:RT H vh rows):
  Cl Tryz.prog 37 [.agg #[I s.id,I s.src,vst,vwa,I s.al,I s.up],.agg #[vh],.agg #[I q.kind,I q.st,I q.wa]] w fun u w'=>∃H1 n e,HLe H H1∧u= .tuple #[I n,I e]∧qU s rows q n e∧St H1 w' σ:=by
 obtain ⟨ah,ch,rfl⟩:=hr.shape
 refine Cl.o Tryz.func37 Tryz.ntmps37 ag3 ?_
 refine .ai ?_
 refine .bx hs fun b3 w hs=>?_
 refine .bx hs fun b4 w hs=>?_
 refine .bx hs fun b5 w hs=>?_
 refine .z zg (.z zg (.nil (.seq (.ai (.y hs (zls [_,_,_,_,_,_] aK az) ?_)))))
 refine .o (.call Tryz.call41 rfl (eM (s:=s) hs h1 h2) ?_);rintro _ w ⟨H1,e,hle1,rfl,he,hs⟩
 refine .z zg (.nil (.ai (.z zm (.z m9 (.nil ?_)))))
 refine (.ie rfl (fun hc17=>?_) (fun hc17=>?_))
 ·refine .ai (.z zm (.z zg (.z zg (.nil ?_))))
  refine .ret (rT (?_))
  have hq:¬dj s∧e=30:=he.resolve_left fun h=>hc17 h.2
  exact Fin.gR [] [] hs fun w hs=>⟨_,results2 Tryz.results37 rfl rfl,H1,_,_,hle1,rfl,by rw [hq.2];exact .space hq.1,hs.out⟩
 ·refine .skip ?_
  refine nT ?_
  refine .seq (.ai (.y hs (zls [_,_,_,_,_,_] aK az) (.y hs (zls [_] oT eI) ?_)))
  have hok:dj s:=(he.resolve_right fun h=>by omega).1
  have hsm:=dM hok
  refine .o (.call Tryz.call101 rfl (kz (s:=s) hs (h1.mono hle1) (h2.mono hle1) (hr.mono hle1)) ?_);rintro _ w ⟨H2,b21,hle2,rfl,hb21,hs⟩
  have hle02:=hle1.trans hle2
  refine .z jb (.nil ?_)
  refine (.cond rfl (fun hc22=>?_) (fun hc22=>?_))
  ·refine .ai (.z zg (.z zg (.nil ?_)))
   refine .ret (rT (?_))
   exact Fin.gR [] [] hs fun w hs=>⟨_,results2 Tryz.results37 rfl rfl,H2,_,_,hle02,rfl,.hull hok (fun h=>by rw [hb21.2 h] at hc22;cases hc22),hs.out⟩
  ·refine .skip ?_
   refine nT ?_
   refine .ai (.y hs (zls [_,_,_,_,_,_] aK az) (.y hs (zls [_,_,_] CF mb) ?_))
   have hh:im s rows:=hb21.1 (by simpa using hc22)
   refine .o (.call Tryz.call102 rfl (fI (s:=s) (q:=q) hs (h1.mono hle02) (h2.mono hle02) hok) ?_);rintro _ w ⟨H3,vl,L,d,b,en,hle3,rfl,hO,hcase,hs⟩
   have hle03:=hle02.trans hle3
   obtain ⟨al,cl,rfl⟩:=hO.tx
   refine .z zm (.z zex (.z zex (.z zex ?_)))
   refine .o (.alloc hs cO rfl fun b9 w hs=>?_)
   refine .o (.store hs rfl rfl aE fun w hs=>?_)
   refine .z zg (.z zg (.nil (.seq (.ai (.z zm (.z jb (.nil ?_)))))))
   refine (.cond rfl (fun hc31=>?_) (fun hc31=>?_))
   ·refine .ai (.z zg (.z zg (.nil ?_)))
    refine .ret (rT (?_))
    have hq:¬dn s q:=by
     rcases hcase with ⟨g,_⟩|⟨_,g,_⟩
     ·subst g;cases hc31
     ·exact g
    exact Fin.gR [] [] hs fun w hs=>⟨_,results2 Tryz.results37 rfl rfl,H3,_,_,hle03,rfl,.what hok hh hq,hs.out⟩
   ·refine .skip ?_
    refine nT ?_
    refine .ai ?_
    refine .o (.alloc hs aR rfl fun b12 w hs=>?_)
    refine .o (.store hs rfl rfl ae fun w hs=>?_)
    refine .nil (.seq (.ai (.y hs (zls [_,_,_,_,_,_] aK az) ?_)))
    obtain ⟨rfl,hq,rfl,rfl⟩:b=true∧dn s q∧L=kd s q∧d=l9 q:=hcase.resolve_right fun h=>by rw [h.1] at hc31;cases hc31
    have hwl:=ez s q
    obtain ⟨H4,hle4,hW,hs⟩:=bX.cn hO aj hs c9
    have hle04:=hle03.trans hle4
    refine .o (.call CJ rfl (dN (s:=s) hs (h1.mono hle04) (h2.mono hle04) ⟨aj,aj⟩) ?_);rintro _ w ⟨H5,ba,hle5,rfl,hit,hs⟩
    have hle05:=hle04.trans hle5
    replace hW:=hW.mono hle5
    have hr5:=hr.mono hle05
    refine .nil (.block ?_)
    refine .rangeFunc (gf:=190) (cap:=[.pointer (some ⟨ba,0,none⟩)]) (xs:=q7 s) (σb:=[.blk b12 [I (dt s q rows 0)],.blk b9 [.slice al (kd s q).length cl],.blk b4 [.slice ah rows.length ch]]) (σf:=σ) (hs.sb) trivial rfl hit CG (fun x hx=>by
      simp only [q7,List.mem_map] at hx
      obtain ⟨j,_,rfl⟩:=hx;rfl) rfl
     (I:=fun p H' σb=>σb=[.blk b12 [I (dt s q rows p)],.blk b9 [.slice al (kd s q).length cl],.blk b4 [.slice ah rows.length ch]]) (Ix:=fun _ _ _=>False)
     (fun j _ _ σ g1 g2=>g2) (fun _ _ _ _ _ h=>h) rfl ?_ ?_ (fun D c H' σb w _ h _=>h.elim)
    ·rintro ly p hp H6 σb2 σf2 w hle6 rfl hs ⟨rr,hrr⟩
     have hpm:p<s.many:=by rw [cJ] at hp;exact hp
     have hin:p/s.wa.length<s.st.length:=Nat.div_lt_of_lt_mul (by rw [Nat.mul_comm];exact hpm)
     have hkm:=Nat.mod_lt p hsm.2.2.1
     have hsucc:dt s q rows (p+1)=dt s q rows p+gi (kd s q) (p+1)*gt rows (p/s.wa.length) (p%s.wa.length):=rfl
     have hb0:=jA hok hq hh p aj
     have hb1:=jA hok hq hh (p+1) aj
     have hwz:=mh hok hq
     have hwz2:=jv (kd s q) (v:=p+1) (n:=s.many+1) aj
     have hnum:=hh.num _ hin _ hkm
     have hrow:=hh.row _ hin
     have hrlen:=hh.len
     have hprd:=gI (a:=gi (kd s q) (p+1)) (b:=gt rows (p/s.wa.length) (p%s.wa.length)) (A:=3456000000000) (B:=20000) aj aj
     have hgt:gt rows (p/s.wa.length) (p%s.wa.length)=gi (gr rows (p/s.wa.length)) (p%s.wa.length):=rfl
     rw [jB hp]
     generalize p/s.wa.length=i at*
     generalize p%s.wa.length=k at*
     rw [hgt] at hsucc hprd hnum
     refine .region ?_
     refine .o (.alloc hs jR rfl fun b13 w hs=>?_)
     refine .o (.aP (vs:=[_,_,_]) hs rfl rfl pq fun w hs=>?_)
     refine .nil ?_
     refine nT ?_
     refine ⟨H6,[.blk b13 [I (i:Int),I (k:Int),I ((p+1:Nat):Int)],.blk b12 [I (dt s q rows p)],.blk b9 [.slice al (kd s q).length cl],.blk b4 [.slice ah rows.length ch]],HLe.refl _,hs,?_⟩;rintro w σf4 - hs
     refine .block ?_
     refine .draw mix rfl hs fun w hs=>?_
     refine .y 0 rfl hs af ?_;refine .y 1 rfl hs ak ?_;refine .z 2 rfl (zfa cu) ?_;refine .y 3 rfl hs af ?_
     refine .ixX (enc:=fun x=>[I x]) (i:=4) hs rfl ay .none (hW.mono hle6) rfl rfl ad ae (bB (l:=(kd s q)) (i:=(p+1)) aj) dm ?_;intro b39 o39 hc39;replace hc39:=br.one hc39
     refine .r (i:=5) hs rfl ay .none (bj rfl af hc39) ?_
     refine .z 6 rfl (zfa eQ) ?_;refine .y 7 rfl hs oU ?_;refine .z 8 rfl (zfa bM) ?_;refine .y 9 rfl hs af ?_
     refine .ixT (i:=10) hs rfl ay .none (hr5.mono hle6) rfl rfl bH aE (show i<_ by omega) dm ?_;intro b45 o45 a45 c45 hc45 hR45
     refine .r (i:=11) hs rfl ay .none (bj rfl ak hc45) ?_
     refine .z 12 rfl (zfa bE) ?_;refine .y 13 rfl hs af ?_
     refine .ixX (enc:=fun x=>[I x]) (i:=14) hs rfl ay .none hR45 rfl rfl ad ae (bB (l:=(gr rows i)) (i:=k) aj) dm ?_;intro b49 o49 hc49;replace hc49:=br.one hc49
     refine .r (i:=15) hs rfl ay .none (bj rfl af hc49) ?_
     refine .z 16 rfl iq ?_;refine .z 17 rfl cR ?_
     refine .E 18 hs ?_
     refine .store hs rfl rfl ae ?_;intro w hs
     refine .go ?_
     refine .D hs ?_
     refine nB ?_
     exact ⟨H6,[.blk b12 [I (dt s q rows (p+1))],.blk b9 [.slice al (kd s q).length cl],.blk b4 [.slice ah rows.length ch]],HLe.refl _,by rw [hsucc];exact (hs.sb:St H6 w (.blk b12 _:: .blk b9 _:: .blk b4 _::σf4)),rfl⟩
    ·rintro D H6 σb2 w hle6 rfl hs
     rw [cJ] at hs
     replace hs:St H6 w (.obj D (.deferred (some [])):: .blk b12 [I (dt s q rows s.many)]:: .blk b9 [.slice al (kd s q).length cl]:: .blk b4 [.slice ah rows.length ch]::σ):=hs
     have hbd:=jA hok hq hh s.many aj
     have hdp:=qI q
     refine nB (nT ?_)
     refine .ai (.y hs (zld af) (.z zm ?_))
     refine .o (.call Tryz.call86 rfl (fa hs aj aj) ?_);rintro _ w ⟨rfl,hs⟩
     refine .z zg (.z zg (.nil ?_))
     refine .ret ?_
     exact Fin.gR [D] [] hs fun w hs=>⟨_,results2 Tryz.results37 rfl rfl,H6,_,_,hle05.trans hle6,rfl,.ok hok hh hq,hs.out⟩
set_option maxHeartbeats 4000000 in
theorem mC{s:Srv}{r:Rdg}{vst vwa vr vc:Value}{z:Int}(hs:St H w σ)(h1:RI H vst s.sp.st)(h2:RI H vwa s.sp.wa)(h3:RRd H vr s.rs)(h4:RCm H vc s.cs)(hr0:r.val=0):
  Cl Tryz.prog 46 [.agg #[I s.sp.id,I s.sp.src,vst,vwa,I s.sp.al,I s.sp.up,vr,vc],.agg #[I r.src,I r.st,I r.wa,I z,I r.tol,I r.tape,I r.day]] w fun u w'=>∃H1 lo hi e,HLe H H1∧u= .tuple #[.agg #[I lo,I hi],I e]∧mO s r lo hi e∧St H1 w' σ:=by
 obtain ⟨ast,cst,rfl⟩:=RI.shape h1
 obtain ⟨awa,cwa,rfl⟩:=RI.shape h2
 obtain ⟨ar,cr,rfl⟩:=RRd.shape h3
 obtain ⟨ac,cc,rfl⟩:=RCm.shape h4
 refine Cl.o Tryz.func46 Tryz.ntmps46 ag2 ?_
 refine .ai ?_
 refine .bx hs fun b2 w hs=>?_
 refine .bx hs fun b3 w hs=>?_
 refine .o (.alloc hs eX rfl fun b4 w hs=>?_)
 refine .z zg (.nil (.seq (.ai (.y hs (zls [_,_,_,_,_,_,_,_] bg aM) ?_))))
 refine .o (.call Tryz.call42 rfl (dS (s:=s) hs h1 h2 h3 h4) ?_);rintro _ w ⟨H1,e,hle1,rfl,hC,hs⟩
 refine .z zg (.nil (.ai (.z zm (.z m9 (.nil ?_)))))
 refine (.ie rfl (fun hc19=>?_) (fun hc19=>?_))
 ·refine .ai (.z (zbd [_,_] bq) (.z zm ?_))
  refine .o (.aP (vs:=[_,_]) hs rfl rfl aD fun w hs=>?_)
  refine .z zg (.nil ?_)
  refine .ret (rT (?_))
  exact Fin.gR [] [] hs fun w hs=>⟨_,results2 jS (dF (vs:=[_,_]) hs rfl cg aD) rfl,H1,_,_,_,hle1,rfl,.bad hC hc19,hs.out⟩
 ·refine .skip ?_
  refine nT ?_
  refine .ai (.z (zfa eu) ?_)
  refine .o (.store hs rfl rfl ae fun w hs=>?_)
  refine .nil (.seq (.ai (.z (zfa aS) (.y hs (zls [_,_,_,_,_,_] aK az) (.y hs (zls [_,_,_,_,_,_,_] fw bu) ?_)))))
  have hok:bY s:=hC.aH.1 (by simpa using hc19)
  have hsm:=dM hok.early.1
  have hrl:=hok.early.2.1
  have hcl:=hok.early.2.2.1
  have hmm:=hok.many
  have hll:=hok.bn
  have hn:=nh s
  have htl:s.aI.length≤60:=by have:=cP s.rs;unfold Srv.aI;omega
  change St _ _ (.blk b4 _:: .blk b3 [I r.src,I r.st,I r.wa,I 0,I r.tol,I r.tape,I r.day]::_) at hs
  refine .o (.call Tryz.call107 rfl (eY (s:=s.sp) (r:=⟨r.src,r.st,r.wa,0,r.tol,r.tape,r.day⟩) hs (h1.mono hle1) (h2.mono hle1)) ?_);rintro _ w ⟨b26,rfl,hb26,hs⟩
  rw [show (⟨r.src,r.st,r.wa,0,r.tol,r.tape,r.day⟩:Rdg)=r by rw [←hr0]] at hb26
  refine .z jb (.nil ?_)
  refine (.cond rfl (fun hc27=>?_) (fun hc27=>?_))
  ·refine .ai (.z (zbd [_,_] bq) ?_)
   refine .o (.aP (vs:=[_,_]) hs rfl rfl aD fun w hs=>?_)
   refine .z zg (.nil ?_)
   refine .ret (rT (?_))
   exact Fin.gR [] [] hs fun w hs=>⟨_,results2 jS (dF (vs:=[_,_]) hs rfl cg aD) rfl,H1,_,_,_,hle1,rfl,.rdg hok (fun h=>by rw [hb26.2 h] at hc27;cases hc27),hs.out⟩
  ·refine .skip ?_
   refine nT ?_
   refine .ai (.y hs (zls [_,_,_,_,_,_,_,_] bg aM) ?_)
   have hr:fQ s.sp r:=hb26.1 (by simpa using hc27)
   obtain ⟨g1,g2,g3,g4,g5,g6,g7⟩:=id hr
   refine .o (.call yT rfl (gG (s:=s) hs (h1.mono hle1) (h2.mono hle1) (h3.mono hle1) (h4.mono hle1) hok.early) ?_);rintro _ w ⟨H2,vl,enL,hle2,rfl,hOL,hs⟩
   have hle02:=hle1.trans hle2
   obtain ⟨al,ll,cl,rfl,hlL⟩:=hOL.shape
   rw [fc] at hlL
   refine .o (.alloc hs ec rfl fun b7 w hs=>?_)
   refine .o (.aP (vs:=[_,_]) hs rfl rfl aA fun w hs=>?_)
   refine .nil (.ai (.y hs (zls [_,_,_,_,_,_,_,_] bg aM) ?_))
   refine .o (.call Tryz.call90 rfl (ia (s:=s) hs (h3.mono hle02) aj) ?_);rintro v32 w ⟨H3,enT,hle3,hOT,hs⟩
   have hle03:=hle02.trans hle3
   obtain ⟨at_,ct,rfl⟩:=hOT.rl (ng _) aj
   rw [db] at hOT ⊢
   refine .z zg (.nil (.ai (.z zm (.y hs (zls [_,_,_,_,_,_,_] fw bu) ?_))))
   refine .o (.call CI rfl (cS (r:=⟨r.src,r.st,r.wa,0,r.tol,r.tape,r.day⟩) hs) ?_);rintro _ w ⟨rfl,hs⟩
   refine .o (.call Tryz.call89 rfl (lg (t:=r.td) hs hOT aj) ?_);rintro _ w ⟨rfl,hs⟩
   have hnn:=mP (l:=s.aI) (t:=r.td)
   have hcap2:s.sys.many=((s.sp.many+s.aI.length:Nat):Int):=rfl
   refine .z zg (.nil ?_)
   refine .cut (fun fs w=>∃H4 al ll cl enL,kT fs ⟨134,[],[(9,I (s.tJ r.td:Int)),(7,.pointer (some ⟨b7,0,none⟩)),(4,.pointer (some ⟨b4,0,none⟩)),(3,.pointer (some ⟨b3,0,none⟩)),(2,.pointer (some ⟨b2,0,none⟩))]⟩∧HLe H3 H4∧bX 4 (.slice al ll cl) (gd (s.e8 r.td).bn) enL∧St H4 w (.blk b7 [I (s.e8 r.td).many,.slice al ll cl]::enL:: .blk b4 [I 0,I 0]:: .blk b3 [I r.src,I r.st,I r.wa,I 0,I r.tol,I r.tape,I r.day]:: .blk b2 [I s.sp.id,I s.sp.src,.slice ast s.sp.st.length cst,.slice awa s.sp.wa.length cwa,I s.sp.al,I s.sp.up,.slice ar s.rs.length cr,.slice ac s.cs.length cc]::σ)) ?_ ?_
   ·refine .ai (.z zm (.z kX (.nil ?_)))
    refine (.cW rfl (fun hc38=>?_) (fun hc38=>?_))
    ·refine .ai (.z zm (.z (df aW) (.z zg (.nil ?_))))
     refine .seq (.draw mix rfl hs fun w hs=>?_)
     refine .ys 0 rfl hs [_,_,_,_,_,_,_,_] bg aM ?_;refine .z 1 rfl zm ?_;refine .ys 2 rfl hs [_,_,_,_,_,_,_] fw bu ?_
     refine .E 3 hs ?_
     refine .call CI rfl (cS (r:=⟨r.src,r.st,r.wa,0,r.tol,r.tape,r.day⟩) hs) ?_;rintro _ w ⟨rfl,hs⟩
     refine .go ?_
     refine .E 4 hs ?_
     refine .buildSlice (cells:=[_,_]) hs fK rfl rfl ?_;intro b45 w hs
     refine .go ?_
     refine .E 5 hs ?_
     refine .append (ys:=r.td.c) hs dH rfl rfl hOT (.own .here rfl rfl) (by simp [TD.c,Value.oneCell']) (fun l h=>by rw [eB _ (ng _),db] at h;omega) ?_;intro v46 en46 w hO46 hs
     rw [←tv] at hO46
     obtain ⟨H4,hle4,hT4,hs⟩:=bX.bK (m:=2) (cs:=tdc (s.aI++[r.td])) hO46 (ng _) aj (by rw [db];simp;omega) hs c9
     replace hT4:RTd H4 v46 (s.aI++[r.td]):=hT4
     obtain ⟨a46,c46,rfl⟩:=RTd.shape hT4
     have hle04:=hle03.trans hle4
     have hk4:MkK H4 s (s.aI++[r.td]) (.slice ast s.sp.st.length cst) (.slice awa s.sp.wa.length cwa) (.slice ar s.rs.length cr) (.slice ac s.cs.length cc) (.slice a46 (s.aI++[r.td]).length c46):=⟨h1.mono hle04,h2.mono hle04,h3.mono hle04,h4.mono hle04,hT4⟩
     refine .go ?_
     refine .z 6 rfl (zbd (vs:=[(0,.agg #[I s.sp.id,I s.sp.src,.slice ast s.sp.st.length cst,.slice awa s.sp.wa.length cwa,I s.sp.al,I s.sp.up,.slice ar s.rs.length cr,.slice ac s.cs.length cc]),(1,.slice a46 (s.aI++[r.td]).length c46)]) [I s.sp.id,I s.sp.src,.slice ast s.sp.st.length cst,.slice awa s.sp.wa.length cwa,I s.sp.al,I s.sp.up,.slice ar s.rs.length cr,.slice ac s.cs.length cc,.slice a46 (s.aI++[r.td]).length c46,.slice none 0 0] ig rfl ay) ?_
     refine .E 7 hs ?_
     refine .box hs rfl rfl ?_;intro b48 w hs
     refine .go ?_
     refine .z 8 rfl zg ?_;refine .D hs ?_
     refine .seq (.draw mix rfl hs fun w hs=>?_)
     refine .z 0 rfl zm ?_;refine .z 1 rfl zm ?_;refine .z 2 rfl zm ?_;refine .z 4 rfl (zfa aS) ?_;refine .z 5 rfl (zfa dO) ?_;refine .y 6 rfl hs af ?_
     refine .E 3 hs ?_
     refine .call Tryz.call116 rfl (eN (s:=s.sp) hs .here hk4.st hk4.wa ⟨aj,aj⟩ ⟨aj,aj⟩) ?_;rintro _ w ⟨rfl,hs⟩
     refine .go ?_
     refine .E 7 hs ?_
     refine .call oV rfl (dh (ls:=[]) (hs.nul.sb:St H4 w (.blk b48 _:: .nul:: .blk b7 [I s.sys.many,.slice al ll cl]::enL:: .blk b4 [I 0,I 0]:: .blk b3 [I r.src,I r.st,I r.wa,I 0,I r.tol,I r.tape,I r.day]:: .blk b2 [I s.sp.id,I s.sp.src,.slice ast s.sp.st.length cst,.slice awa s.sp.wa.length cwa,I s.sp.al,I s.sp.up,.slice ar s.rs.length cr,.slice ac s.cs.length cc]::σ)) (.nil 4 none) cN) ?_;rintro _ w ⟨vl5,en5,hO5,hs⟩
     rw [List.nil_append] at hO5
     refine .go ?_
     refine .D hs ?_
     refine .ai (.z zm (.z zm ?_))
     refine .o (.call Tryz.call117 rfl (fV (s:=s) (ts:=s.aI++[r.td]) (j0:=s.aI.length) hs hk4 hO5 (by simp [two]) hok.early.1 (by simp;omega) hcl hok.early.2.2.2.2 cN) ?_);rintro _ w ⟨H5,vl6,en6,hle5,hO6,hs⟩
     obtain ⟨a6,l6,c6,rfl,hl6⟩:=hO6.shape
     have hnot:r.td∉s.aI:=fun h=>by have:=hnn.2 h;omega
     have hsys:s.e8 r.td=⟨s.sys.many+1,s.bn++(two 0 ((s.sp.many:Int)+1+(s.aI.length:Int)) 1000 1000 s.sp.src++oC s.sp (s.aI++[r.td]) s.cs s.aI.length s.cs.length)⟩:=if_neg hnot
     have hlen6:=xt hok r.td
     rw [hsys,List.length_append] at hlen6
     rw [fc] at hl6
     refine .nil ?_
     refine .draw mix rfl hs fun w hs=>?_
     refine .z 0 rfl (zfa aZ) ?_;refine .y 1 rfl hs af ?_;refine .z 2 rfl cR ?_;refine .z 3 rfl (zfa bp) ?_;refine .y 4 rfl hs cK ?_;refine .z 5 rfl zm ?_;refine .z 6 rfl znc ?_;refine .z 7 rfl (zfa dT) ?_;refine .y 8 rfl hs cK ?_;refine .z 10 rfl (zfa aZ) ?_
     refine .E 9 hs ?_
     refine .append (ys:=gd (two 0 ((s.sp.many:Int)+1+(s.aI.length:Int)) 1000 1000 s.sp.src++oC s.sp (s.aI++[r.td]) s.cs s.aI.length s.cs.length)) hs da rfl rfl hOL (Src.Cc hO6 (.there .here)) (sn _) (fun l h=>by rw [fc] at h;omega) ?_;intro v69 en69 w hO69 hs
     rw [←kR] at hO69
     obtain ⟨a69,l69,c69,rfl,h69⟩:=hO69.shape
     refine .go ?_
     refine .E 11 hs ?_
     refine .store hs rfl rfl ae ?_;intro w hs
     refine .go ?_
     refine .z 12 rfl (zfa bp) ?_
     refine .E 13 hs ?_
     refine .store hs rfl rfl ma ?_;intro w hs
     refine .go ?_
     refine .D hs ?_
     refine nT ?_
     refine ⟨H5,a69,l69,c69,en69,?_,hle4.trans hle5,by rw [hsys];exact hO69,by rw [hsys];exact hs.sb⟩
     refine .eU rfl ?_ cC
     unfold Srv.tJ;rw [if_neg hnot]
    ·refine .skip ?_
     refine nT ?_
     have hmem:r.td∈s.aI:=hnn.1 aj
     have hsys:s.e8 r.td=s.sys:=if_pos hmem
     obtain ⟨k,k1,_,_⟩:=dL hmem
     refine ⟨H3,al,ll,cl,enL,?_,HLe.refl _,by rw [hsys];exact hOL,by rw [hsys];exact hs.sb⟩
     refine .eU rfl ?_ cC
     unfold Srv.tJ;rw [if_pos hmem,k1];rfl
   ·clear hOL hOT hlL hnn
    rintro fs w ⟨H4,al,ll,cl,enL,hfs,hle4,hOL,hs⟩
    refine WE.sub ?_ hfs
    have hle04:=hle03.trans hle4
    obtain ⟨_,_,_,e0,hlL⟩:=hOL.shape
    cases e0
    rw [fc] at hlL
    have htn:=vA s r.td
    have hjlt:=zx s r.td
    have hmany:(s.e8 r.td).many+1=((s.e8 r.td).n:Int):=by
     unfold Srv.e8
     split
     ·simp only [aQ.n,Srv.sys];omega
     ·simp only [aQ.n,Srv.sys];omega
    have hn70:(s.e8 r.td).n≤200:=by rw [htn];split<;>omega
    have hll6:ll=(s.e8 r.td).bn.length:=by omega
    refine .seq (.ai (.z (zfa aZ) (.y hs (zld af) (.z qZ (.z zm ?_)))))
    refine .mM (t':=75) rfl (fun hb75=>?_) (fun hb75=>?_)
    ·refine .gFs 4 3 false rfl rfl rfl ?_
     refine .z zpT (.nil ?_)
     refine (.cT ?_)
     refine .ai (.z (zbd [_,_] bq) ?_)
     refine .o (.aP (vs:=[_,_]) hs rfl rfl aD fun w hs=>?_)
     refine .z zg (.nil ?_)
     refine .ret (rT (?_))
     exact Fin.gR [] [] hs fun w hs=>⟨_,results2 jS (dF (vs:=[_,_]) hs rfl cg aD) rfl,H4,_,_,_,hle04,rfl,.long hok hr aj,hs.out⟩
    ·refine .gT rfl rfl ?_
     refine .z (zfa bp) ?_
     refine .gT rfl rfl ?_
     refine .y hs (zld cK) ?_
     refine .gT rfl rfl ?_
     refine .z (df aN) ?_
     refine .gT rfl rfl ?_
     refine .z qZ (.z zpF (.nil ?_))
     refine (.cW rfl (fun hc80=>?_) (fun hc80=>?_))
     ·refine .ai (.z (zbd [_,_] bq) ?_)
      refine .o (.aP (vs:=[_,_]) hs rfl rfl aD fun w hs=>?_)
      refine .z zg (.nil ?_)
      refine .ret (rT (?_))
      exact Fin.gR [] [] hs fun w hs=>⟨_,results2 jS (dF (vs:=[_,_]) hs rfl cg aD) rfl,H4,_,_,_,hle04,rfl,.long hok hr aj,hs.out⟩
     ·refine .skip ?_
      refine nT ?_
      refine .ai (.z (zfa aZ) (.y hs (zld af) (.z cR ?_)))
      have hfit:(s.e8 r.td).many≤64∧(s.e8 r.td).bn.length≤400:=by omega
      refine .o (.o7 (s.e8 r.td).n hs (by show some (I _)=some (I _);rw [←hmany]) (by show some (I _)=some (I _);rw [←hmany]) ad dB rfl ae aR aj ?_);intro b85 w hs
      obtain ⟨u1,u2,u3⟩:=sO hr
      have hub:=pA u1 u2
      refine .z zg (.nil (.ai (.z zm (.z (zfa aS) (.y hs (zls [_,_,_,_,_,_] aK az) (.z (zfa fB) (.y hs (zld af) (.z (zfa fA) (.y hs (zld af) ?_)))))))))
      refine .o (.call Tryz.call118 rfl (fJ (s:=s.sp) hs (h2.mono hle04) aj ⟨aj,aj⟩ ⟨aj,aj⟩) ?_);rintro _ w ⟨rfl,hs⟩
      rw [u3]
      refine .q hs (gh (k:=s.sp.u r.st.toNat r.wa.toNat) rfl rfl ad ae rfl aj) ?_
      refine .o (.store (c':=Is (jD (s.e8 r.td).n (s.sp.u r.st.toNat r.wa.toNat) 1)) hs rfl rfl ae ?_ c9 (by simp [Is];omega) (pY _ _ _));intro w hs
      refine .nil (.ai (.z zm (.z (zfa aS) (.y hs (zls [_,_,_,_,_,_] aK az) ?_))))
      refine .o (.call Tryz.call91 rfl (dq (s:=s.sp) hs (h1.mono hle04) (h2.mono hle04) ⟨aj,aj⟩) ?_);rintro _ w ⟨rfl,hs⟩
      refine .z cR (.z zm (.z cR ?_))
      refine .q hs (gh (k:=s.sp.many+1+s.tJ r.td) rfl rfl ad ae aj aj) ?_
      refine .o (.store (c':=Is (s.tW r)) hs rfl rfl ae ?_ c9 (by simp [Is,dD];omega) (pY _ _ _));intro w hs
      refine .nil (.ai (.y hs (zls [_,_] aV aA) (.z zm ?_)))
      have hwl:(s.tW r).length=(s.e8 r.td).n:=by simp [Srv.tW,dD]
      obtain ⟨H5,hle5,hW,hs⟩:=bX.cn (xs:=s.tW r) (v:= .slice (some ⟨b85,0,none⟩) (s.e8 r.td).n (s.e8 r.td).n) (.full (by simp [Is,hwl])) aj hs c9
      obtain ⟨H6,hle6,hL6,hs⟩:=bX.bK (m:=4) (cs:=(s.e8 r.td).bn.map Lim.c) hOL (fun c hc=>by simp only [List.mem_map] at hc;obtain ⟨x,_,rfl⟩:=hc;rfl) aj (by rw [List.length_map];omega) hs c9
      refine .o (.call Tryz.call74 rfl (fF (s:=s.e8 r.td) hs ⟨_,rfl,hL6⟩ (hW.mono hle6)) ?_);rintro _ w ⟨H7,a,b,f,hle7,rfl,hRg,hs⟩
      have hbd:=hRg.bd
      have hleF:=hle04.trans (hle5.trans (hle6.trans hle7))
      refine .z zm (.z zex (.z zex (.z zex (.z zg (.z zg (.z zg (.nil (.seq (.ai ?_)))))))))
      refine .z zm (.z m9 (.nil ?_))
      refine (.ie rfl (fun hc111=>?_) (fun hc111=>?_))
      ·refine .ai (.z (zbd [_,_] bq) ?_)
       refine .o (.aP (vs:=[_,_]) hs rfl rfl aD fun w hs=>?_)
       refine .z zg (.nil ?_)
       refine .ret (rT (?_))
       exact Fin.gR [] [] hs fun w hs=>⟨_,results2 jS (dF (vs:=[_,_]) hs rfl cg aD) rfl,H7,_,_,_,hleF,rfl,.fls hok hr hfit hRg hc111,hs.out⟩
      ·refine .skip ?_
       refine nT ?_
       refine .ai ?_
       obtain rfl:f=0:=by simpa using hc111
       refine .z zm (.z (zfa cI) (.y hs (zld af) (.z iR (.z BX (.z zm (.z (zfa cI) (.y hs (zld af) (.z cR (.z (zfa cI) ?_)))))))))
       refine .y hs (zld af) (.z iR (.z AE (.z (zbd [_,_] bq) ?_)))
       refine .o (.alloc hs eX rfl fun b15 w hs=>?_)
       refine .o (.aP (vs:=[_,_]) hs rfl rfl aD fun w hs=>?_)
       refine .nil (.seq (.ai (.z (zfa pa) (.y hs (zld af) (.z (zfa o9) (.y hs (zld af) (.z qZ (.nil ?_))))))))
       refine (.cW rfl (fun hc131=>?_) (fun hc131=>?_))
       ·refine .ai (.z (zbd [_,_] bq) ?_)
        refine .o (.aP (vs:=[_,_]) hs rfl rfl aD fun w hs=>?_)
        refine .z zg (.nil ?_)
        refine .ret (rT (?_))
        exact Fin.gR [] [] hs fun w hs=>⟨_,results2 jS (dF (vs:=[_,_]) hs rfl cg aD) rfl,H7,_,_,_,hleF,rfl,.none hok hr hfit hRg aj,hs.out⟩
       ·refine .skip ?_
        refine nT ?_
        refine .ai (.y hs (zls [_,_] cg aD) ?_)
        refine .o (.aP (vs:=[_,_]) hs rfl rfl aD fun w hs=>?_)
        refine .z zg (.nil ?_)
        refine .ret ?_
        exact Fin.gR [] [] hs fun w hs=>⟨_,results2 jS (dF (vs:=[_,_]) hs rfl cg aD) rfl,H7,_,_,_,hleF,rfl,.ok hok hr hfit hRg aj,hs.out⟩
set_option maxRecDepth 100000 in
theorem my:Tryz.prog.stoodInHeld 44=false:=by kernel_rfl
set_option maxRecDepth 100000 in
theorem mz:Tryz.prog.eqGuardType Tryz.prog.depth 44=false:=by kernel_rfl
theorem ks{v1 v2:Value}{as_ bs:List Int}(hs:St H w σ)(h1:RI H v1 as_)(h2:RI H v2 bs):
  Cl Tryz.prog 34 [v1,v2] w fun u w'=>u= .bool (decide (as_=bs))∧St H w' σ:=by
 obtain ⟨a1,c1,rfl⟩:=RI.shape h1
 obtain ⟨a2,c2,rfl⟩:=RI.shape h2
 have l1:=(RI.len h1).2.2
 refine Cl.o Tryz.func34 Tryz.ntmps34 ag2 ?_
 refine .ai (.z zg (.nil (.ai (.z zm (.z (df ad) (.z zm (.z (df ad) (.z j9 (.z zg ?_)))))))))
 refine .nil (.seq (.ai (.z zg (.nil (.block ?_)))))
 refine .loop (fun p:Nat×Bool=>⟨31,[],[(6,I (p.1:Int)),(5,.bool p.2),(0,.slice a1 as_.length c1),(1,.slice a2 bs.length c2)]⟩)
  (fun p w=>p.1≤as_.length∧(p.2=true↔as_.length=bs.length∧∀j<p.1,gi as_ j=gi bs j)∧St H w σ) (fun p=>as_.length - p.1) (0,decide ((as_.length:Int)=bs.length)) cC
  ⟨Nat.zero_le _,by dsimp only;rw [decide_eq_true_eq];exact ⟨fun h=>⟨aj,fun j hj=>by omega⟩,fun h=>by omega⟩,hs⟩ ?_
 rintro ⟨k,b⟩ w ⟨hk,hb,hs⟩
 dsimp only at hk hb ⊢
 refine .seq (.ai (.z zm (.z zm (.z (df ad) (.z kX (.z zm ?_))))))
 refine .mM (t':=16) rfl (fun hb16=>?_) (fun hb16=>?_)
 ·refine .gT rfl rfl ?_
  refine .z zm (.z zpT (.nil ?_))
  refine (.cond rfl (fun hc18=>?_) (fun hc18=>?_))
  ·refine .skip ?_
   refine nT ?_
   refine .seq (.block ?_)
   refine .draw mix rfl hs fun w hs=>?_
   refine .z 0 rfl zm ?_;refine .z 1 rfl zm ?_
   obtain rfl:b=true:=by assumption
   obtain ⟨hlen,hall⟩:=hb.1 rfl
   refine .ixX (enc:=fun x=>[I x]) (i:=2) hs rfl ay .none h1 rfl rfl ad ae (bB (l:=as_) (i:=k) aj) dm ?_;intro b23 o23 hc23;replace hc23:=br.one hc23
   refine .r (i:=3) hs rfl ay .none (bj rfl af hc23) ?_
   refine .z 4 rfl zm ?_;refine .z 5 rfl zm ?_
   refine .ixX (enc:=fun x=>[I x]) (i:=6) hs rfl ay .none h2 rfl rfl ad ae (bB (l:=bs) (i:=k) aj) dm ?_;intro b27 o27 hc27;replace hc27:=br.one hc27
   refine .r (i:=7) hs rfl ay .none (bj rfl af hc27) ?_
   refine .z 8 rfl j9 ?_;refine .z 9 rfl zg ?_;refine .D hs ?_
   refine nB (nT ?_)
   refine .region (.z zm (.z cR (.z zg (.nil ?_))))
   refine nT ?_
   exact ⟨(k+1,decide (gi as_ k=gi bs k)),.eU rfl cN cC,⟨by dsimp only;omega,by
    dsimp only
    rw [decide_eq_true_eq]
    exact ⟨fun h=>⟨hlen,fun j hj=>by
     by_cases e:j=k
     ·subst e;exact h
     ·exact hall j aj⟩,fun h=>h.2 k aj⟩,hs⟩,by dsimp only;omega⟩
  ·refine .exit ?_
   refine xT (xT (xB (nT ?_)))
   refine .ai (.z zm (.z zg (.nil ?_)))
   refine .ret (Fin.bF Tryz.results34 rfl ?_)
   have hf:b=false:=by simpa using hc18
   exact ⟨by rw [hf,decide_eq_false (fun h=>by subst h;rw [hb.2 ⟨rfl,fun j _=>rfl⟩] at hf;cases hf)],hs⟩
 ·refine .gFs 1 4 true rfl rfl rfl ?_
  refine .z zpF (.nil ?_)
  refine (.cF ?_)
  refine .exit ?_
  refine xT (xT (xB (nT ?_)))
  refine .ai (.z zm (.z zg (.nil ?_)))
  refine .ret (Fin.bF Tryz.results34 rfl ?_)
  refine ⟨?_,hs⟩
  congr 1
  cases hbb:b with
  |true=>
   obtain ⟨hl,ha⟩:=hb.1 hbb
   rw [decide_eq_true (wD hl fun j hj=>ha j aj)]
  |false=>rw [decide_eq_false (fun h=>by subst h;rw [hb.2 ⟨rfl,fun j _=>rfl⟩] at hbb;cases hbb)]
theorem lF(hs:St H w σ):
  Cl Tryz.prog 82 [] w fun u w'=>∃H1 vst vwa vr vc,HLe H H1∧u= .agg #[I 1,I 1,vst,vwa,I 100,I 200,vr,vc]∧RI H1 vst exV.sp.st∧RI H1 vwa exV.sp.wa∧RRd H1 vr exV.rs∧RCm H1 vc exV.cs∧St H1 w' σ:=by
 refine Cl.of Tryz.func82 rfl Tryz.ntmps82 cN (qR) ?_
 refine .ai ?_
 refine .o (.alloc hs Tryz.zeroValue38 rfl fun b0 w hs=>?_)
 refine .nil (.ai ?_)
 refine .o (.buildSlice (cells:=Is [0,1000]) hs eG rfl ay fun b2 w hs=>?_)
 refine .o (.buildSlice (cells:=Is [0,1000]) hs eG rfl ay fun b3 w hs=>?_)
 refine .z (zbd [_,_] mY) (.z (zbd [_,_,_,_,_,_] lX) ?_)
 refine .o (.alloc hs gY rfl fun b1 w hs=>?_)
 refine .o (.aP (vs:=[_,_,_,_,_,_]) hs rfl rfl az fun w hs=>?_)
 refine .nil (.ai (.y hs (zls [_,_,_,_,_,_] aK az) (.z (zbd [_,_,_,_,_,_,_] dx) (.z (zbd [_,_,_,_,_,_,_] dx) (.z (zbd [_,_,_,_,_,_,_] dx) (.z (zbd [_,_,_,_,_,_,_] dx) ?_))))))
 refine .o (.buildSlice (cells:=(rdc xe).flatten) hs jL rfl ay fun b11 w hs=>?_)
 refine .z (zbd [_,_,_,_,_,_] oH) ?_
 refine .o (.buildSlice (cells:=(cmc exV.cs).flatten) hs jO rfl ay fun b13 w hs=>?_)
 refine .z (zbd (vs:=[(0,.agg #[I 1,I 1,.slice (some ⟨b2,0,none⟩) 2 2,.slice (some ⟨b3,0,none⟩) 2 2,I 100,I 200]),(1,.slice (some ⟨b11,0,none⟩) 4 4),(2,.slice (some ⟨b13,0,none⟩) 1 1)]) [I 1,I 1,.slice (some ⟨b2,0,none⟩) 2 2,.slice (some ⟨b3,0,none⟩) 2 2,I 100,I 200,.slice (some ⟨b11,0,none⟩) 4 4,.slice (some ⟨b13,0,none⟩) 1 1] pj rfl ay) ?_
 refine .o (.aP (vs:=[_,_,_,_,_,_,_,_]) hs rfl rfl aM fun w hs=>?_)
 refine .nil ?_
 refine .ret ?_
 obtain ⟨H1,g1,r1,hs⟩:=bX.cn (xs:=[0,1000]) (v:= .slice (some ⟨b2,0,none⟩) 2 2) (.full rfl) cN hs c9
 obtain ⟨H2,g2,r2,hs⟩:=bX.cn (xs:=[0,1000]) (v:= .slice (some ⟨b3,0,none⟩) 2 2) (.full rfl) cN hs c9
 obtain ⟨H3,g3,r3,hs⟩:=bX.bK (m:=7) (cs:=rdc xe) (v:= .slice (some ⟨b11,0,none⟩) 4 4) (.full ay) (xL _) aj ed hs c9
 obtain ⟨H4,g4,r4,hs⟩:=bX.bK (m:=6) (cs:=cmc exV.cs) (v:= .slice (some ⟨b13,0,none⟩) 1 1) (.full ay) (Cg _) aj ed hs c9
 exact Fin.gR [] [] hs fun w hs=>⟨_,results1 Tryz.results82 (dF (vs:=[_,_,_,_,_,_,_,_]) hs rfl bg aM),H4,_,_,_,_,g1.trans (g2.trans (g3.trans g4)),rfl,r1.mono (g2.trans (g3.trans g4)),r2.mono (g3.trans g4),r3.mono g4,r4,hs.out⟩
theorem yD{out:List Int}{e:Int}(h:oM exW out e):out=[11,15]∧e=0:=by
 cases h with
 |bad h he=>exact (he (h.aH.2 Bl)).elim
 |ok _ h=>rw [zX] at h;exact wF h
set_option maxHeartbeats 4000000 in
theorem oq(hs:St H w σ):
  Cl Tryz.prog 22 [] w fun u w'=>u= .bool true∧∃H1,HLe H H1∧St H1 w' σ:=by
 refine Cl.of Tryz.func22 rfl Tryz.ntmps22 cN (qR) ?_
 refine .ai (.z zg (.nil (.ai ?_)))
 refine .o (.call Tryz.call82 rfl (lF hs) ?_);rintro _ w ⟨H1,vst,vwa,vr,vc,hle1,rfl,h1,h2,h3,h4,hs⟩
 obtain ⟨ast,cst,rfl⟩:=RI.shape h1
 obtain ⟨awa,cwa,rfl⟩:=RI.shape h2
 obtain ⟨ar,cr,rfl⟩:=RRd.shape h3
 obtain ⟨ac,cc,rfl⟩:=RCm.shape h4
 refine .o (.alloc hs Tryz.zeroValue38 rfl fun b1 w hs=>?_)
 refine .o (.aP (vs:=[_,_,_,_,_,_,_,_]) hs rfl rfl aM fun w hs=>?_)
 refine .nil (.ai (.y hs (zls [_,_,_,_,_,_,_,_] bg aM) (.z (zbd [_,_,_] ft) ?_)))
 refine .o (.call Tryz.call26 rfl (lz (s:=exV) (q:=⟨1,0,1⟩) hs h1 h2 h3 h4) ?_);rintro _ w ⟨H2,lo,hi,e,hle2,rfl,hQ,hs⟩
 obtain ⟨rfl,rfl,rfl⟩:=wE hQ
 have hle02:=hle1.trans hle2
 replace h1:=h1.mono hle2
 replace h2:=h2.mono hle2
 replace h3:=h3.mono hle2
 replace h4:=h4.mono hle2
 refine .z zm (.z zex (.z zex ?_))
 refine .o (.alloc hs eX rfl fun b2 w hs=>?_)
 refine .o (.aP (vs:=[_,_]) hs rfl rfl aD fun w hs=>?_)
 refine .z zg (.nil (.ai (.y hs (zls [_,_,_,_,_,_,_,_] bg aM) (.z (zbd [_,_] jr) ?_))))
 refine .o (.call Tryz.call28 rfl (mD (s:=exV) (t:=⟨2,5⟩) hs h1 h2 h3 h4) ?_);rintro _ w ⟨H3,lo,hi,e,hle3,rfl,hQ,hs⟩
 obtain ⟨rfl,rfl,rfl⟩:=zW hQ
 have hle03:=hle02.trans hle3
 replace h1:=h1.mono hle3
 replace h2:=h2.mono hle3
 replace h3:=h3.mono hle3
 replace h4:=h4.mono hle3
 refine .z zm (.z zex (.z zex ?_))
 refine .o (.alloc hs eX rfl fun b4 w hs=>?_)
 refine .o (.aP (vs:=[_,_]) hs rfl rfl aD fun w hs=>?_)
 refine .z zg (.nil (.ai (.z (zfa aS) (.y hs (zls [_,_,_,_,_,_] aK az) ?_))))
 refine .o (.buildSlice (cells:=Is [100,200]) hs eG rfl ay fun b30 w hs=>?_)
 refine .o (.buildSlice (cells:=Is [150,300]) hs eG rfl ay fun b31 w hs=>?_)
 refine .o (.buildSlice (cells:=[.slice (some ⟨b30,0,none⟩) 2 2,.slice (some ⟨b31,0,none⟩) 2 2]) hs pc rfl ay fun b32 w hs=>?_)
 refine .z (zbd [_] se) (.z (zbd [_,_,_] ft) ?_)
 obtain ⟨H4,g1,r1,hs⟩:=bX.cn (xs:=[100,200]) (v:= .slice (some ⟨b30,0,none⟩) 2 2) (.full rfl) cN hs c9
 obtain ⟨H5,g2,r2,hs⟩:=bX.cn (xs:=[150,300]) (v:= .slice (some ⟨b31,0,none⟩) 2 2) (.full rfl) cN hs c9
 have hRL:RLs H5 [.slice (some ⟨b30,0,none⟩) 2 2,.slice (some ⟨b31,0,none⟩) 2 2] tV:=((RLs.nil H5).snoc (r1.mono g2)).snoc r2
 obtain ⟨H6,g3,hRT,hs⟩:=hRL.bK (v:= .slice (some ⟨b32,0,none⟩) 2 2) (en:= .blk b32 [.slice (some ⟨b30,0,none⟩) 2 2,.slice (some ⟨b31,0,none⟩) 2 2]) (.full rfl) cN hs c9
 have hle4:=g1.trans (g2.trans g3)
 have hle06:=hle03.trans hle4
 replace h1:=h1.mono hle4
 replace h2:=h2.mono hle4
 replace h3:=h3.mono hle4
 replace h4:=h4.mono hle4
 refine .o (.call Tryz.call37 rfl (dR (s:=uN) (q:=⟨1,0,1⟩) hs h1 h2 hRT) ?_);rintro _ w ⟨H7,n,e,hle7,rfl,hQ,hs⟩
 obtain ⟨rfl,rfl⟩:=yz hQ
 have hle07:=hle06.trans hle7
 replace h1:=h1.mono hle7
 replace h2:=h2.mono hle7
 replace h3:=h3.mono hle7
 replace h4:=h4.mono hle7
 refine .z zm (.z zex (.z zex (.z zg (.z zg (.nil (.ai (.y hs (zls [_,_,_,_,_,_,_,_] bg aM) (.z (zbd [_,_,_,_,_,_,_] dx) ?_))))))))
 refine .o (.call Tryz.call46 rfl (mC (s:=exV) (r:=⟨30,1,0,0,5,1,5⟩) hs h1 h2 h3 h4 rfl) ?_);rintro _ w ⟨H8,lo,hi,e,hle8,rfl,hQ,hs⟩
 obtain ⟨rfl,rfl,rfl⟩:=zV hQ
 have hle08:=hle07.trans hle8
 replace h1:=h1.mono hle8
 replace h2:=h2.mono hle8
 replace h3:=h3.mono hle8
 replace h4:=h4.mono hle8
 refine .z zm (.z zex (.z zex ?_))
 refine .o (.alloc hs eX rfl fun b8 w hs=>?_)
 refine .o (.aP (vs:=[_,_]) hs rfl rfl aD fun w hs=>?_)
 refine .z zg (.nil (.ai (.y hs (zls [_,_,_,_,_,_,_,_] bg aM) ?_)))
 refine .o (.alloc hs Tryz.zeroValue38 rfl fun b10 w hs=>?_)
 refine .o (.aP (vs:=[_,_,_,_,_,_,_,_]) hs rfl rfl aM fun w hs=>?_)
 refine .nil (.ai ?_)
 refine .o (.buildSlice (cells:=[]) hs jN rfl rfl fun b45 w hs=>?_)
 refine .z (zfa dv) (.y hs (zld CE) ?_)
 refine .o (.append (xs:=[]) (ys:=(rdc xe).flatten) hs dI rfl rfl (.full (b:=b45) (len:=0) rfl) (.rs h3) ed (fun l' h=>by have hl:l'=0:=(by simp at h;omega);subst hl;decide) ?_);intro v48 en48 w hO48 hs
 rw [List.nil_append] at hO48
 obtain ⟨a48,c48,rfl⟩:=hO48.rl (xL xe) aj
 refine .z (zbd [_,_,_,_,_,_,_] dx) ?_
 refine .o (.buildSlice (cells:=Rdg.c ⟨15,0,0,300,10,1,5⟩) hs jM rfl ay fun b50 w hs=>?_)
 refine .o (.append (ys:=Rdg.c ⟨15,0,0,300,10,1,5⟩) hs dI rfl rfl hO48 (.own .here rfl rfl) ed (fun l' h=>by rw [eB _ (xL _)] at h;simp [rdc,xe] at h;omega) ?_);intro v51 en51 w hO51 hs
 rw [←xK] at hO51
 obtain ⟨H9,hle9,h3w,hs⟩:=bX.bK (m:=7) (cs:=rdc (xe++[⟨15,0,0,300,10,1,5⟩])) hO51 (xL _) aj ed hs c9
 replace h3w:RRd H9 v51 exW.rs:=h3w
 obtain ⟨a51,c51,rfl⟩:=RRd.shape h3w
 have hle09:=hle08.trans hle9
 replace h1:=h1.mono hle9
 replace h2:=h2.mono hle9
 replace h4:=h4.mono hle9
 refine .z (zfa dv) ?_
 refine .o (.store hs rfl rfl Tryz.sizeOf35 fun w hs=>?_)
 refine .nil (.ai (.y hs (zls [_,_,_,_,_,_,_,_] bg aM) ?_))
 refine .o (.call Tryz.call32 rfl (lx (s:=exW) hs h1 h2 h3w h4) ?_);rintro _ w ⟨H10,vx,out,e,hle10,rfl,hR,hQ,hs⟩
 obtain ⟨rfl,rfl⟩:=yD hQ
 have hle010:=hle09.trans hle10
 refine .z zm (.z zex (.z zex (.z zg (.z zg (.nil (.ai (.z zm ?_)))))))
 refine .o (.buildSlice (cells:=Is [11,15]) hs eG rfl ay fun b59 w hs=>?_)
 obtain ⟨H11,hle11,r59,hs⟩:=bX.cn (xs:=[11,15]) (v:= .slice (some ⟨b59,0,none⟩) 2 2) (.full rfl) cN hs c9
 have hleF:=hle010.trans hle11
 refine .o (.call Tryz.call34 rfl (ks hs (hR.mono hle11) r59) ?_);rintro _ w ⟨rfl,hs⟩
 refine .z zg (.nil (.ai (.z zm (.z j9 (.z zm ?_)))))
 refine .mM (t':=63) rfl (fun hb63=>?_) (fun hb63=>?_)
 ·refine .gT rfl rfl ?_
  refine .y hs (zls [_,_] cg aD) ?_
  refine .gT rfl rfl ?_
  refine .z (zbd [_,_] bq) ?_
  refine .gT rfl rfl ?_
  refine .q hs (pJ my mz gw (fun f hf=>by
   simp only [List.mem_cons,List.not_mem_nil,or_false] at hf
   rcases hf with rfl|rfl<;>exact ⟨by decide,aC,af⟩) rfl rfl) ?_
  refine .z zpT (.z zm ?_)
  refine .bif (t':=68) rfl (fun hb68=>?_) (fun hb68=>?_)
  ·refine .gT rfl rfl ?_
   refine .z zm ?_
   refine .gT rfl rfl ?_
   refine .z j9 (.z zpT (.z zm ?_))
   refine .mM (t':=72) rfl (fun hb72=>?_) (fun hb72=>?_)
   ·refine .gT rfl rfl ?_
    refine .y hs (zls [_,_] cg aD) ?_
    refine .gT rfl rfl ?_
    refine .z (zbd [_,_] bq) ?_
    refine .gT rfl rfl ?_
    refine .q hs (pJ my mz gw (fun f hf=>by
     simp only [List.mem_cons,List.not_mem_nil,or_false] at hf
     rcases hf with rfl|rfl<;>exact ⟨by decide,aC,af⟩) rfl rfl) ?_
    refine .z zpT (.z zm ?_)
    refine .bif (t':=77) rfl (fun hb77=>?_) (fun hb77=>?_)
    ·refine .gT rfl rfl ?_
     refine .z zm ?_
     refine .gT rfl rfl ?_
     refine .z j9 (.z zpT (.z zm ?_))
     refine .mM (t':=81) rfl (fun hb81=>?_) (fun hb81=>?_)
     ·refine .gT rfl rfl ?_
      refine .z zm ?_
      refine .gT rfl rfl ?_
      refine .z j9 (.z zpT (.z zm ?_))
      refine .mM (t':=85) rfl (fun hb85=>?_) (fun hb85=>?_)
      ·refine .gT rfl rfl ?_
       refine .z zm ?_
       refine .gT rfl rfl ?_
       refine .z j9 (.z zpT (.z zm ?_))
       refine .mM (t':=89) rfl (fun hb89=>?_) (fun hb89=>?_)
       ·refine .gT rfl rfl ?_
        refine .y hs (zls [_,_] cg aD) ?_
        refine .gT rfl rfl ?_
        refine .z (zbd [_,_] bq) ?_
        refine .gT rfl rfl ?_
        refine .q hs (pJ my mz gw (fun f hf=>by
         simp only [List.mem_cons,List.not_mem_nil,or_false] at hf
         rcases hf with rfl|rfl<;>exact ⟨by decide,aC,af⟩) rfl rfl) ?_
        refine .z zpT (.z zm ?_)
        refine .bif (t':=94) rfl (fun hb94=>?_) (fun hb94=>?_)
        ·refine .gT rfl rfl ?_
         refine .z zm ?_
         refine .gT rfl rfl ?_
         refine .z j9 (.z zpT (.z zm ?_))
         refine .mM (t':=98) rfl (fun hb98=>?_) (fun hb98=>?_)
         ·refine .gT rfl rfl ?_
          refine .z zm (.z zpT (.z zg (.nil ?_)))
          refine .ret (Fin.bF ee rfl ?_)
          first
          |exact ⟨rfl,H11,hleF,hs.out⟩
          |contradiction
          |(exfalso;simp_all;done)
         ·refine .gFs 1 37 true rfl rfl rfl ?_
          refine .z zpF (.z zg (.nil ?_))
          refine .ret (Fin.bF ee rfl ?_)
          first
          |exact ⟨rfl,H11,hleF,hs.out⟩
          |contradiction
          |(exfalso;simp_all;done)
        ·refine .gFs 2 33 true rfl rfl rfl ?_
         refine .z zpF (.z zm ?_)
         refine .gFs 1 37 true rfl rfl rfl ?_
         refine .z zpF (.z zg (.nil ?_))
         refine .ret (Fin.bF ee rfl ?_)
         first
         |exact ⟨rfl,H11,hleF,hs.out⟩
         |contradiction
         |(exfalso;simp_all;done)
       ·refine .gFs 3 28 true rfl rfl rfl ?_
        refine .z zpF (.z zm ?_)
        refine .gFs 2 33 true rfl rfl rfl ?_
        refine .z zpF (.z zm ?_)
        refine .gFs 1 37 true rfl rfl rfl ?_
        refine .z zpF (.z zg (.nil ?_))
        refine .ret (Fin.bF ee rfl ?_)
        first
        |exact ⟨rfl,H11,hleF,hs.out⟩
        |contradiction
        |(exfalso;simp_all;done)
      ·refine .gFs 2 24 true rfl rfl rfl ?_
       refine .z zpF (.z zm ?_)
       refine .gFs 3 28 true rfl rfl rfl ?_
       refine .z zpF (.z zm ?_)
       refine .gFs 2 33 true rfl rfl rfl ?_
       refine .z zpF (.z zm ?_)
       refine .gFs 1 37 true rfl rfl rfl ?_
       refine .z zpF (.z zg (.nil ?_))
       refine .ret (Fin.bF ee rfl ?_)
       first
       |exact ⟨rfl,H11,hleF,hs.out⟩
       |contradiction
       |(exfalso;simp_all;done)
     ·refine .gFs 2 20 true rfl rfl rfl ?_
      refine .z zpF (.z zm ?_)
      refine .gFs 2 24 true rfl rfl rfl ?_
      refine .z zpF (.z zm ?_)
      refine .gFs 3 28 true rfl rfl rfl ?_
      refine .z zpF (.z zm ?_)
      refine .gFs 2 33 true rfl rfl rfl ?_
      refine .z zpF (.z zm ?_)
      refine .gFs 1 37 true rfl rfl rfl ?_
      refine .z zpF (.z zg (.nil ?_))
      refine .ret (Fin.bF ee rfl ?_)
      first
      |exact ⟨rfl,H11,hleF,hs.out⟩
      |contradiction
      |(exfalso;simp_all;done)
    ·refine .gFs 2 16 true rfl rfl rfl ?_
     refine .z zpF (.z zm ?_)
     refine .gFs 2 20 true rfl rfl rfl ?_
     refine .z zpF (.z zm ?_)
     refine .gFs 2 24 true rfl rfl rfl ?_
     refine .z zpF (.z zm ?_)
     refine .gFs 3 28 true rfl rfl rfl ?_
     refine .z zpF (.z zm ?_)
     refine .gFs 2 33 true rfl rfl rfl ?_
     refine .z zpF (.z zm ?_)
     refine .gFs 1 37 true rfl rfl rfl ?_
     refine .z zpF (.z zg (.nil ?_))
     refine .ret (Fin.bF ee rfl ?_)
     first
     |exact ⟨rfl,H11,hleF,hs.out⟩
     |contradiction
     |(exfalso;simp_all;done)
   ·refine .gFs 3 11 true rfl rfl rfl ?_
    refine .z zpF (.z zm ?_)
    refine .gFs 2 16 true rfl rfl rfl ?_
    refine .z zpF (.z zm ?_)
    refine .gFs 2 20 true rfl rfl rfl ?_
    refine .z zpF (.z zm ?_)
    refine .gFs 2 24 true rfl rfl rfl ?_
    refine .z zpF (.z zm ?_)
    refine .gFs 3 28 true rfl rfl rfl ?_
    refine .z zpF (.z zm ?_)
    refine .gFs 2 33 true rfl rfl rfl ?_
    refine .z zpF (.z zm ?_)
    refine .gFs 1 37 true rfl rfl rfl ?_
    refine .z zpF (.z zg (.nil ?_))
    refine .ret (Fin.bF ee rfl ?_)
    first
    |exact ⟨rfl,H11,hleF,hs.out⟩
    |contradiction
    |(exfalso;simp_all;done)
  ·refine .gFs 2 7 true rfl rfl rfl ?_
   refine .z zpF (.z zm ?_)
   refine .gFs 3 11 true rfl rfl rfl ?_
   refine .z zpF (.z zm ?_)
   refine .gFs 2 16 true rfl rfl rfl ?_
   refine .z zpF (.z zm ?_)
   refine .gFs 2 20 true rfl rfl rfl ?_
   refine .z zpF (.z zm ?_)
   refine .gFs 2 24 true rfl rfl rfl ?_
   refine .z zpF (.z zm ?_)
   refine .gFs 3 28 true rfl rfl rfl ?_
   refine .z zpF (.z zm ?_)
   refine .gFs 2 33 true rfl rfl rfl ?_
   refine .z zpF (.z zm ?_)
   refine .gFs 1 37 true rfl rfl rfl ?_
   refine .z zpF (.z zg (.nil ?_))
   refine .ret (Fin.bF ee rfl ?_)
   first
   |exact ⟨rfl,H11,hleF,hs.out⟩
   |contradiction
   |(exfalso;simp_all;done)
 ·refine .gFs 3 2 true rfl rfl rfl ?_
  refine .z zpF (.z zm ?_)
  refine .gFs 2 7 true rfl rfl rfl ?_
  refine .z zpF (.z zm ?_)
  refine .gFs 3 11 true rfl rfl rfl ?_
  refine .z zpF (.z zm ?_)
  refine .gFs 2 16 true rfl rfl rfl ?_
  refine .z zpF (.z zm ?_)
  refine .gFs 2 20 true rfl rfl rfl ?_
  refine .z zpF (.z zm ?_)
  refine .gFs 2 24 true rfl rfl rfl ?_
  refine .z zpF (.z zm ?_)
  refine .gFs 3 28 true rfl rfl rfl ?_
  refine .z zpF (.z zm ?_)
  refine .gFs 2 33 true rfl rfl rfl ?_
  refine .z zpF (.z zm ?_)
  refine .gFs 1 37 true rfl rfl rfl ?_
  refine .z zpF (.z zg (.nil ?_))
  refine .ret (Fin.bF ee rfl ?_)
  first
  |exact ⟨rfl,H11,hleF,hs.out⟩
  |contradiction
  |(exfalso;simp_all;done)
end Go.Proofs.YtddaejgfjlneoaaGreat
namespace Go.Proofs.YtddaejgfjlneoaaGreat
open Go.MW
def Cm(v:Srv)(s:aQ)(e:Int):Prop:=nN v e∧(e=0→s=v.sys)∧(e≠0→s=⟨0,[]⟩)
theorem Cm.uniq{v:Srv}{s t:aQ}{e f:Int}(h:Cm v s e)(g:Cm v t f):s=t∧e=f:=by
 obtain rfl:=h.1.uniq g.1
 by_cases h0:e=0
 ·exact ⟨(h.2.1 h0).trans (g.2.1 h0).symm,rfl⟩
 ·exact ⟨(h.2.2 h0).trans (g.2.2 h0).symm,rfl⟩
structure WI(s:Spc)(L:List Int)(f:Nat→Nat→Int):Prop where
 len:L.length=s.many+1
 zero:gi L 0=0
 at_:∀i k,i<s.st.length→k<s.wa.length→gi L (s.u i k)=f i k
theorem WI.start(s:Spc):WI s (List.replicate (s.many+1) 0) fun _ _=>0:=
 ⟨cN,bw _ _ aj,fun i k hi hk=>by have:=pA hi hk;exact bw _ _ aj⟩
theorem WI.set{s:Spc}{L:List Int}{f:Nat→Nat→Int}(h:WI s L f){i k:Nat}(hi:i<s.st.length)(hk:k<s.wa.length)(x:Int):WI s (L.set (s.u i k) x) fun i' k'=>if i'=i∧k'=k then x else f i' k':=by
 have hb:=pA hi hk
 refine ⟨by rw [List.length_set];exact h.len,by rw [wA aj];exact h.zero,fun i' k' hi' hk'=>?_⟩
 have hb':=pA hi' hk'
 rw [dk (by rw [h.len];omega)]
 by_cases e:i'=i∧k'=k
 ·obtain ⟨rfl,rfl⟩:=e
  rw [if_pos rfl,if_pos ⟨rfl,rfl⟩]
 ·rw [if_neg e,if_neg,h.at_ i' k' hi' hk']
  intro e2
  obtain ⟨d1,d2⟩:=zq (nw:=s.wa.length) (i:=i) hk
  obtain ⟨d3,d4⟩:=zq (nw:=s.wa.length) (i:=i') hk'
  have e3:i'*s.wa.length+k'=i*s.wa.length+k:=by unfold Spc.u at e2;omega
  rw [e3] at d3 d4
  exact e ⟨d3.symm.trans d1,d4.symm.trans d2⟩
theorem WI.congr{s:Spc}{L:List Int}{f g:Nat→Nat→Int}(h:WI s L f)(e:∀i k,i<s.st.length→k<s.wa.length→f i k=g i k):WI s L g:=
 ⟨h.len,h.zero,fun i k hi hk=>(h.at_ i k hi hk).trans (e i k hi hk)⟩
inductive Aw(s:Spc)(q:Wht):List Int→Int→Int→Prop
 |space (h:¬dj s):Aw s q [] 0 30
 |what (h:dj s) (h1:¬dn s q):Aw s q [] 0 33
 |ok (h:dj s) (h1:dn s q):Aw s q (kd s q) (l9 q) 0
theorem Aw.uniq{s:Spc}{q:Wht}{a b:List Int}{d f e g:Int}(h:Aw s q a d e)(k:Aw s q b f g):a=b∧d=f∧e=g:=by
 cases h<;>cases k<;>first|exact ⟨rfl,rfl,rfl⟩|contradiction
inductive tq(v:Srv)(q:Wht):Int→Prop
 |bad {e:Int} (h:nN v e) (he:e≠0):tq v q e
 |what (h:bY v) (h1:¬dn v.sp q):tq v q 33
 |ok (h:bY v) (h1:dn v.sp q):tq v q 0
theorem tq.zero{v:Srv}{q:Wht}(h:tq v q 0):bY v∧dn v.sp q:=by
 generalize hz:(0:Int)=z at h
 cases h with
 |bad h he=>exact (he hz.symm).elim
 |what=>omega
 |ok h h1=>exact ⟨h,h1⟩
theorem tq.qty{v:Srv}{q:Wht}{e:Int}(h:tq v q e)(he:e≠0):q8 v q 0 0 e:=by
 cases h with
 |bad h he=>exact .bad h he
 |what h h1=>exact .what h h1
 |ok=>exact (he rfl).elim
def Bm(w:List Int)(high:Bool):List Int:=if high then w else q6 w
end Go.Proofs.YtddaejgfjlneoaaGreat
namespace Go.Proofs.YtddaejgfjlneoaaGreat
open Go.MW
variable{H:a8}{w:World}{σ:List Ent}
theorem ff{n m:Int}(hs:St H w σ)(hm:1≤m∧m≤4611686018427387904):
  Cl Tryz.prog 31 [I n,I m] w fun u w'=>∃k:Nat,(k:Int)<m∧u=I (k:Int)∧St H w' σ:=by
 have h1:=Int.tmod_lt_of_pos n (show 0<m by omega)
 have h2:=Int.lt_tmod_of_pos n (show 0<m by omega)
 have h3:=Int.tmod_lt_of_pos (n.tmod m+m) (show 0<m by omega)
 have h4:=Int.tmod_nonneg m (show 0≤n.tmod m+m by omega)
 refine Cl.o Tryz.func31 Tryz.ntmps31 ag2 ?_
 refine .ai (.z zg (.nil (.ai (.z zm (.z zm (.z AB (.z zm (.z cR (.z zm ?_)))))))))
 refine .z AB (.z zg (.nil ?_))
 refine .ret (Fin.bF Tryz.results31 rfl ?_)
 exact ⟨((n.tmod m+m).tmod m).toNat,aj,by rw [show (((n.tmod m+m).tmod m).toNat:Int)=(n.tmod m+m).tmod m by omega],hs⟩
theorem bA{v:Value}{l:List Int}{i n:Int}(hs:St H w σ)(hr:RI H v l)(hi:0≤i)(hn:1≤n∧n≤4611686018427387904):
  Cl Tryz.prog 100 [v,I i,I n] w fun u w'=>∃k:Nat,(k:Int)<n∧u=I (k:Int)∧St H w' σ:=by
 obtain ⟨a,c,rfl⟩:=RI.shape hr
 refine Cl.o Tryz.func100 Tryz.ntmps100 ag3 ?_
 refine .ai (.z zg (.nil (.seq (.ai (.z zm (.z (df ad) (.z j9 (.nil ?_))))))))
 refine (.cW rfl (fun hc9=>?_) (fun hc9=>?_))
 ·refine .ai (.z zg (.nil ?_))
  refine .ret (rT (Fin.bF Tryz.results100 rfl ?_))
  exact ⟨0,aj,rfl,hs⟩
 ·refine .skip ?_
  refine nT ?_
  refine .ai (.z zm (.z zm (.z zm (.z (df ad) (.z AB ?_)))))
  have g1:=Int.tmod_lt_of_pos i (show 0<(l.length:Int) by omega)
  have g2:=Int.tmod_nonneg (l.length:Int) hi
  refine .ixY hs hr rfl rfl ad ae (bB (l:=l) (i:=(i.tmod l.length).toNat) aj) aj ?_;intro b15 o15 hc15
  refine .q hs (bj rfl af hc15) ?_
  refine .z zm ?_
  refine .o (.call Tryz.call31 rfl (ff hs hn) ?_);rintro _ w ⟨k,hk,rfl,hs⟩
  refine .z zg (.nil ?_)
  refine .ret (Fin.bF Tryz.results100 rfl ?_)
  exact ⟨k,hk,rfl,hs⟩
structure Grow(d D:Int)(L:List Int)(x:Int):Prop where
 low:d≤x
 high:x≤d+D*L.length
 all:∀i<L.length,d≤gi L i∧gi L i<x
 rise:∀i,i+1<L.length→gi L i<gi L (i+1)
theorem Grow.start(d D:Int):Grow d D [] d:=⟨aj,cN,fun i h=>by simp at h,fun i h=>by simp at h⟩
theorem Grow.snoc{d D x y:Int}{L:List Int}(h:Grow d D L x)(h1:x<y)(h2:y≤x+D):Grow d D (L++[x]) y:=by
 obtain ⟨g1,g2,g3,g4⟩:=h
 refine ⟨aj,?_,fun i hi=>?_,fun i hi=>?_⟩
 ·rw [List.length_append,List.length_singleton,Int.natCast_add,Int.mul_add];omega
 ·rw [List.length_append,List.length_singleton] at hi
  rw [qB]
  split
  ·have:=g3 i r9;omega
  ·rw [if_pos aj];omega
 ·rw [List.length_append,List.length_singleton] at hi
  rw [qB,qB,if_pos aj]
  split
  ·exact g4 i r9
  ·rw [if_pos aj];exact (g3 i aj).2
theorem Grow.plc{d D x most:Int}{many:Nat}{L:List Int}(h:Grow d D L x)(hd:0≤d)(h2:2≤L.length)(hm:L.length≤many)(hx:d+D*L.length≤most):eb many most L:=
 ⟨h2,hm,by have:=(h.all 0 aj).1;omega,by have:=(h.all (L.length - 1) aj).2;have:=h.high;omega,h.rise⟩
structure BH(s:Spc):Prop where
 ok:dj s
 st:s.st.length≤4
 wa:s.wa.length≤3
set_option maxHeartbeats 1000000 in
theorem ku{v:Value}{l:List Int}(hs:St H w σ)(hr:RI H v l):
  Cl Tryz.prog 35 [v] w fun u w'=>∃s vst vwa e1 e2,u= .agg #[I s.id,I s.src,vst,vwa,I s.al,I s.up]∧BH s∧bX 1 vst (Is s.st) e1∧bX 1 vwa (Is s.wa) e2∧St H w' (e1::e2::σ):=by
 obtain ⟨av,cv,rfl⟩:=RI.shape hr
 refine Cl.o Tryz.func35 Tryz.ntmps35 ag1 ?_
 refine .ai ?_
 refine .o (.alloc hs gY rfl fun b2 w hs=>?_)
 refine .nil (.ai (.z zm ?_))
 refine .o (.call dz rfl (bA hs hr aj aj) ?_);rintro _ w ⟨k11,g11,rfl,hs⟩
 refine .z cR (.z zm ?_)
 refine .o (.call dz rfl (bA hs hr aj aj) ?_);rintro _ w ⟨k14,g14,rfl,hs⟩
 refine .z cR (.z (zbd [_,_,_,_,_,_] lX) ?_)
 refine .o (.alloc hs gY rfl fun b3 w hs=>?_)
 refine .o (.aP (vs:=[_,_,_,_,_,_]) hs rfl rfl az fun w hs=>?_)
 refine .nil (.ai (.z zm ?_))
 refine .o (.call dz rfl (bA hs hr aj aj) ?_);rintro _ w ⟨k18,g18,rfl,hs⟩
 refine .z cR (.z iq (.z zg (.nil (.ai (.z zg (.nil (.seq (.ai (.z zg ?_)))))))))
 refine .nil (.block ?_)
 refine .loop (fun p:List Int×Int×Value=>⟨90,[],[(6,I (p.1.length:Int)),(5,I p.2.1),(4,I (100*(1+(k18:Int)))),(0,.slice av l.length cv),(3,.pointer (some ⟨b3,0,none⟩)),(2,.pointer (some ⟨b2,0,none⟩))]⟩)
  (fun p w=>p.1.length≤4∧Grow 0 2707 p.1 p.2.1∧∃en,bX 1 p.2.2 (Is p.1) en∧St H w (en:: .blk b3 [I (1+(k11:Int)),I (1+(k14:Int)),p.2.2,.slice none 0 0,I 0,I 0]:: .blk b2 [I 0,I 0,.slice none 0 0,.slice none 0 0,I 0,I 0]::σ)) (fun p=>4 - p.1.length) ([],0,.slice none 0 0) cC
  ⟨cN,.start _ _,_,.nil 1 none,hs.nul⟩ ?_
 clear hs
 rintro ⟨L,x,vo⟩ w ⟨hL4,hG,en,hO,hs⟩
 dsimp only at hL4 hG hO hs ⊢
 obtain ⟨ao,lo,co,rfl,-⟩:=hO.shape
 have hx0:=hG.low
 have hx1:=hG.high
 refine .seq (.ai (.z zm (.z zm ?_)))
 refine .o (.call dz rfl (bA hs hr aj aj) ?_);rintro _ w ⟨k23,g23,rfl,hs⟩
 refine .z cR (.z kX (.nil ?_))
 refine (.cW rfl (fun hc25=>?_) (fun hc25=>?_))
 ·refine .skip ?_
  refine nT ?_
  refine .seq (.block (.ai (.z (zfa aU) (.y hs (zld ak) (.z zm ?_)))))
  refine .o (.buildSlice (cells:=[_]) hs cz rfl rfl fun b31 w hs=>?_)
  refine .o (.append (ys:=Is [x]) hs cy rfl rfl hO (.own .here rfl rfl) (kS _) (fun l' h=>by simp at h;omega) ?_);intro v32 en32 w hO2 hs
  rw [←List.map_append] at hO2
  obtain ⟨a32,l32,c32,rfl,-⟩:=hO2.shape
  refine .z (zfa aU) ?_
  refine .o (.store hs rfl rfl aE fun w hs=>?_)
  refine .nil (.region (.z zm (.z zm (.z zm (.z zm (.z cR ?_))))))
  refine .o (.call dz rfl (bA hs hr aj aj) ?_);rintro _ w ⟨k39,g39,rfl,hs⟩
  have m41:=gI (a:=100*(1+(k18:Int))) (b:=1+(k39:Int)) (A:=900) (B:=3) aj aj
  have m41':100≤100*(1+(k18:Int))*(1+(k39:Int)):=by
   have:=Int.mul_le_mul (a:=100) (c:=100*(1+(k18:Int))) (b:=1) (d:=1+(k39:Int)) aj aj aj aj
   omega
  refine .z cR (.z iq (.z cR (.z zm ?_)))
  refine .o (.call dz rfl (bA hs hr aj aj) ?_);rintro _ w ⟨k44,g44,rfl,hs⟩
  refine .z zm (.z zm (.z cR ?_))
  refine .o (.call dz rfl (bA hs hr aj aj) ?_);rintro _ w ⟨k48,g48,rfl,hs⟩
  have m49:0≤(k44:Int)*(k48:Int)∧(k44:Int)*(k48:Int)≤1:=by
   have e1:k44=0∨k44=1:=by omega
   rcases e1 with rfl|rfl<;>simp<;>omega
  refine .z iq (.z iq (.z cR (.z zg (.nil ?_))))
  refine nB (nT ?_)
  refine .region (.z zm (.z cR (.z zg (.nil ?_))))
  refine nT ?_
  exact ⟨(L++[x],_,.slice a32 l32 c32),.eU rfl cN cC,⟨by simp;omega,hG.snoc (by dsimp only;omega) (by dsimp only;omega),_,hO2,hs.sb⟩,by simp;omega⟩
 ·refine .exit ?_
  refine xT (xT (xB (nT ?_)))
  refine .ai (.z zm ?_)
  have hL2:2≤L.length:=by omega
  refine .o (.call dz rfl (bA hs hr aj aj) ?_);rintro _ w ⟨k53,g53,rfl,hs⟩
  refine .z cR (.z iq (.z zg (.nil (.ai (.z zm ?_)))))
  refine .o (.call dz rfl (bA hs hr aj aj) ?_);rintro _ w ⟨k57,g57,rfl,hs⟩
  refine .z iq (.z zg (.nil (.seq (.ai (.z zg (.nil (.block ?_)))))))
  refine .loop (fun p:List Int×Int×Value=>⟨90,[],[(9,I (p.1.length:Int)),(8,I p.2.1),(7,I (50*(1+(k53:Int)))),(0,.slice av l.length cv),(3,.pointer (some ⟨b3,0,none⟩)),(2,.pointer (some ⟨b2,0,none⟩))]⟩)
   (fun p w=>p.1.length≤3∧Grow (10*(k57:Int)) 1350 p.1 p.2.1∧∃en2,bX 1 p.2.2 (Is p.1) en2∧St H w (en2:: .blk b3 [I (1+(k11:Int)),I (1+(k14:Int)),.slice ao lo co,p.2.2,I 0,I 0]:: .blk b2 [I 0,I 0,.slice none 0 0,.slice none 0 0,I 0,I 0]::en::σ)) (fun p=>3 - p.1.length) ([],10*(k57:Int),.slice none 0 0) cC
   ⟨cN,.start _ _,_,.nil 1 none,(hs.sb).nul⟩ ?_
  clear hs
  rintro ⟨L2,y,vo2⟩ w ⟨hM4,hG2,en2,hO2,hs⟩
  dsimp only at hM4 hG2 hO2 hs ⊢
  obtain ⟨ap,lp,cp,rfl,-⟩:=hO2.shape
  have hy0:=hG2.low
  have hy1:=hG2.high
  refine .seq (.ai (.z zm (.z zm ?_)))
  refine .o (.call dz rfl (bA hs hr aj aj) ?_);rintro _ w ⟨k61,g61,rfl,hs⟩
  refine .z cR (.z kX (.nil ?_))
  refine (.cW rfl (fun hc63=>?_) (fun hc63=>?_))
  ·refine .skip ?_
   refine nT ?_
   refine .seq (.block (.ai (.z (zfa aO) (.y hs (zld ak) (.z zm ?_)))))
   refine .o (.buildSlice (cells:=[_]) hs cz rfl rfl fun b69 w hs=>?_)
   refine .o (.append (ys:=Is [y]) hs cy rfl rfl hO2 (.own .here rfl rfl) (kS _) (fun l' h=>by simp at h;omega) ?_);intro v70 en70 w hO3 hs
   rw [←List.map_append] at hO3
   obtain ⟨a70,l70,c70,rfl,-⟩:=hO3.shape
   refine .z (zfa aO) ?_
   refine .o (.store hs rfl rfl aE fun w hs=>?_)
   refine .nil (.region (.z zm (.z zm (.z zm (.z zm (.z cR ?_))))))
   refine .o (.call dz rfl (bA hs hr aj aj) ?_);rintro _ w ⟨k77,g77,rfl,hs⟩
   have m79:=gI (a:=50*(1+(k53:Int))) (b:=1+(k77:Int)) (A:=450) (B:=3) aj aj
   have m79':50≤50*(1+(k53:Int))*(1+(k77:Int)):=by
    have:=Int.mul_le_mul (a:=50) (c:=50*(1+(k53:Int))) (b:=1) (d:=1+(k77:Int)) aj aj aj aj
    omega
   refine .z cR (.z iq (.z cR (.z zg (.nil ?_))))
   refine nB (nT ?_)
   refine .region (.z zm (.z cR (.z zg (.nil ?_))))
   refine nT ?_
   exact ⟨(L2++[y],_,.slice a70 l70 c70),.eU rfl cN cC,⟨by simp;omega,hG2.snoc (by dsimp only;omega) (by dsimp only;omega),_,hO3,hs.sb⟩,by simp;omega⟩
  ·refine .exit ?_
   refine xT (xT (xB (nT ?_)))
   refine .ai (.z zm ?_)
   refine .o (.call dz rfl (bA hs hr aj aj) ?_);rintro _ w ⟨k83,g83,rfl,hs⟩
   refine .z iq (.z zm ?_)
   refine .o (.call dz rfl (bA hs hr aj aj) ?_);rintro _ w ⟨k86,g86,rfl,hs⟩
   refine .z iq (.z (zbd [_,_] mY) (.z (zfa eo) ?_))
   refine .o (.aP (vs:=[_,_]) hs rfl rfl Tryz.sizeOf32 fun w hs=>?_)
   refine .nil (.ai (.y hs (zls [_,_,_,_,_,_] aK az) ?_))
   refine .o (.aP (vs:=[_,_,_,_,_,_]) hs rfl rfl az fun w hs=>?_)
   refine .nil ?_
   refine .ret ?_
   exact Fin.gR [] [] hs fun w hs=>⟨_,results1 Tryz.results35 (dF (vs:=[_,_,_,_,_,_]) hs rfl aK az),⟨1+(k11:Int),1+(k14:Int),L,L2,100*(k83:Int),100*(k86:Int)⟩,.slice ao lo co,.slice ap lp cp,en,en2,rfl,
    ⟨⟨hG.plc aj hL2 aj aj,hG2.plc aj aj aj aj,by dsimp only;omega,by dsimp only;omega,by dsimp only;omega,by dsimp only;omega⟩,hL4,hM4⟩,hO,hO2,hs.sb⟩
end Go.Proofs.YtddaejgfjlneoaaGreat
namespace Go.Proofs.YtddaejgfjlneoaaGreat
open Go.MW
theorem oM.uniq{v:Srv}{A B:List Int}{e f:Int}(h:oM v A e)(g:oM v B f):A=B∧e=f:=by
 cases h with
 |bad h he h1=>
  cases g with
  |bad g _ g1=>exact ⟨by rw [h1,g1],h.uniq g⟩
  |ok g _=>exact (he (h.aH.2 g)).elim
 |ok h h1=>
  cases g with
  |bad g ge _=>exact (ge (g.aH.2 h)).elim
  |ok _ g1=>exact h1.uniq g1
end Go.Proofs.YtddaejgfjlneoaaGreat
namespace Go.Proofs.YtddaejgfjlneoaaGreat
open Go.MW
variable{H:a8}{w:World}{σ:List Ent}
set_option maxHeartbeats 1000000 in
theorem o5{s:Spc}{vst vwa vx:Value}{x:List Int}(hs:St H w σ)(h1:RI H vst s.st)(h2:RI H vwa s.wa)(hx:RI H vx x)(hb1:s.st.length≤1000)(hb2:s.wa.length≤1000)(hxl:s.many+1≤x.length):
  Cl Tryz.prog 61 [.agg #[I s.id,I s.src,vst,vwa,I s.al,I s.up],vx] w fun u w'=>∃va us en ens,u= .agg #[va]∧bX 1 va us en∧kP us (fM s x s.st.length) ens∧St H w' (en::(ens++σ)):=by
 obtain ⟨ast,cst,rfl⟩:=RI.shape h1
 obtain ⟨awa,cwa,rfl⟩:=RI.shape h2
 obtain ⟨ax,cx,rfl⟩:=RI.shape hx
 refine Cl.o Tryz.func61 Tryz.ntmps61 ag2 ?_
 refine .ai ?_
 refine .bx hs fun b2 w hs=>?_
 refine .o (.alloc hs tr rfl fun b4 w hs=>?_)
 refine .nil (.ai ?_)
 refine .o (.alloc hs tr rfl fun b5 w hs=>?_)
 refine .nil (.seq (.ai (.z zg (.nil (.block ?_)))))
 refine .loop (fun i:Nat=>⟨40,[],[(6,I (i:Int)),(1,.slice ax x.length cx),(5,.pointer (some ⟨b5,0,none⟩)),(4,.pointer (some ⟨b4,0,none⟩)),(2,.pointer (some ⟨b2,0,none⟩))]⟩)
  (fun i w=>i≤s.st.length∧∃va us en ens,bX 1 va us en∧kP us (fM s x i) ens∧St H w (.blk b5 [va]::en:: .blk b4 [.slice none 0 0]:: .blk b2 [I s.id,I s.src,.slice ast s.st.length cst,.slice awa s.wa.length cwa,I s.al,I s.up]::(ens++σ))) (fun i=>s.st.length - i) 0 cC
  ⟨Nat.zero_le _,_,[],.nul,[],.nil 1 none,.nil,hs.nul.sb⟩ ?_
 clear hs
 rintro i w ⟨hi,va,us,en,ens,hO,hR,hs⟩
 have hul:=hR.length
 rw [fl] at hul
 obtain ⟨aa,la,ca,rfl,hla⟩:=hO.shape
 refine .seq (.ai (.z zm (.z (zfa aU) (.y hs (zld ak) (.z (df ad) (.z kX (.nil ?_)))))))
 refine (.cW rfl (fun hc13=>?_) (fun hc13=>?_))
 ·refine .skip ?_
  refine nT ?_
  refine .seq (.block (.ai (.z zg (.nil (.seq (.ai (.z zg (.nil (.block ?_)))))))))
  refine .loop (fun p:Nat×Value=>⟨40,[],[(8,I (p.1:Int)),(7,p.2),(6,I (i:Int)),(1,.slice ax x.length cx),(5,.pointer (some ⟨b5,0,none⟩)),(4,.pointer (some ⟨b4,0,none⟩)),(2,.pointer (some ⟨b2,0,none⟩))]⟩)
   (fun p w=>p.1≤s.wa.length∧∃er,bX 1 p.2 (Is (mx s x i p.1)) er∧St H w (er:: .blk b5 [.slice aa la ca]::en:: .blk b4 [.slice none 0 0]:: .blk b2 [I s.id,I s.src,.slice ast s.st.length cst,.slice awa s.wa.length cwa,I s.al,I s.up]::(ens++σ))) (fun p=>s.wa.length - p.1) (0,.slice none 0 0) cC
   ⟨Nat.zero_le _,.nul,.nil 1 none,hs.nul⟩ ?_
  clear hs
  rintro ⟨k,vr⟩ w ⟨hk,er,hOr,hs⟩
  dsimp only at hk hOr hs ⊢
  have hrl:=gE s x i k
  refine .seq (.ai (.z zm (.z (zfa aO) (.y hs (zld ak) (.z (df ad) (.z kX (.nil ?_)))))))
  refine (.cW rfl (fun hc20=>?_) (fun hc20=>?_))
  ·refine .skip ?_
   refine nT ?_
   refine .seq (.block (.region (.z zm (.z zm (.y hs (zls [_,_,_,_,_,_] aK az) (.z zm (.z zm ?_)))))))
   have hub:=pA (s:=s) (i:=i) (k:=k) aj aj
   refine .o (.call Tryz.call121 rfl (mB (s:=s) hs h2 aj ⟨aj,aj⟩ ⟨aj,aj⟩) ?_);rintro _ w ⟨rfl,hs⟩
   rw [show 1+(i:Int)*(s.wa.length:Int)+(k:Int)=((s.u i k:Nat):Int) by unfold Spc.u;push_cast;rfl]
   refine .ixY hs hx rfl rfl ad ae (bB (l:=x) (i:=(s.u i k)) aj) dm ?_;intro b29 o29 hc29
   refine .q hs (bj rfl af hc29) ?_
   refine .o (.buildSlice (cells:=[_]) hs cz rfl rfl fun b31 w hs=>?_)
   refine .o (.append (ys:=Is [gi x (s.u i k)]) hs cy rfl rfl hOr (.own .here rfl rfl) (kS _) (fun l h=>by simp at h;omega) ?_);intro v32 en32 w hO2 hs
   rw [←List.map_append,←uv] at hO2
   refine .z zg (.nil ?_)
   refine nB (nT ?_)
   refine .region (.z zm (.z cR (.z zg (.nil ?_))))
   refine nT ?_
   exact ⟨(k+1,v32),.eU rfl cN cC,⟨by dsimp only;omega,_,hO2,hs.sb⟩,by dsimp only;omega⟩
  ·refine .exit ?_
   refine xT (xT (xB (nT ?_)))
   refine .region (.z (zfa eQ) (.y hs (zld oU) (.z zm ?_)))
   obtain rfl:k=s.wa.length:=by omega
   obtain ⟨ar,cr,rfl⟩:=hOr.tx
   refine .o (.buildSlice (cells:=[.slice ar (mx s x i s.wa.length).length cr]) hs ph rfl rfl fun b36 w hs=>?_)
   refine .o (.append (ys:=[.slice ar (mx s x i s.wa.length).length cr]) hs kM rfl rfl hO (.own .here rfl rfl) (by simp [Value.oneCell']) (fun l h=>by omega) fun v37 en37 w hO3 hs=>?_)
   obtain ⟨a37,l37,c37,rfl,h37⟩:=hO3.shape
   refine .z (zfa eQ) ?_
   refine .o (.store hs rfl rfl Tryz.sizeOf61 fun w hs=>?_)
   refine .nil ?_
   refine nB (nT ?_)
   refine .region (.z zm (.z cR (.z zg (.nil ?_))))
   refine nT ?_
   refine ⟨i+1,.eU rfl cN cC,⟨aj,_,_,en37,ens++[er],hO3,by rw [uu];exact hR.snoc hOr,?_⟩,aj⟩
   replace hs:St H w (.blk b5 [.slice a37 l37 c37]::en37:: .blk b4 [.slice none 0 0]:: .blk b2 [I s.id,I s.src,.slice ast s.st.length cst,.slice awa s.wa.length cwa,I s.al,I s.up]::er::(ens++σ)):=hs.sb
   rw [List.append_assoc]
   exact hs.perm (.cons _ (.cons _ (.cons _ (.cons _ List.perm_middle.symm))))
 ·refine .exit ?_
  refine xT (xT (xB (nT ?_)))
  refine .ai (.y hs (zls [_] oT eI) ?_)
  refine .o (.aP (vs:=[_]) hs rfl rfl eI fun w hs=>?_)
  refine .nil ?_
  refine .ret ?_
  obtain rfl:i=s.st.length:=by omega
  exact Fin.gR [] [] hs fun w hs=>⟨_,results1 Tryz.results61 (dF (vs:=[_]) hs rfl oT eI),_,us,en,ens,rfl,hO,hR,hs.sb⟩
end Go.Proofs.YtddaejgfjlneoaaGreat
namespace Go.Proofs.YtddaejgfjlneoaaGreat
open Go.MW
def w6(q:Wht)(high:Bool)(n m:Int):Prop:=if high=true then m/l9 q≤n else n≤-m/l9 q
inductive sq(v:Srv)(q:Wht)(high:Bool)(n m:Int)(us:List Use):Int→Prop
 |bad {e:Int} (h:nN v e) (he:e≠0):sq v q high n m us e
 |what (h:bY v) (h1:¬dn v.sp q):sq v q high n m us 33
 |prf (h:bY v) (h1:dn v.sp q) (h2:¬kQ v.sys (Bm (v.w q) high) m us):sq v q high n m us 24
 |off (h:bY v) (h1:dn v.sp q) (h2:kQ v.sys (Bm (v.w q) high) m us) (h3:¬w6 q high n m):sq v q high n m us 36
 |ok (h:bY v) (h1:dn v.sp q) (h2:kQ v.sys (Bm (v.w q) high) m us) (h3:w6 q high n m):sq v q high n m us 0
theorem sq.uniq{v:Srv}{q:Wht}{high:Bool}{n m:Int}{us:List Use}{e f:Int}(h:sq v q high n m us e)(g:sq v q high n m us f):e=f:=by
 cases h with
 |bad h he=>
  cases g with
  |bad g _=>exact h.uniq g
  |what g _=>exact (he (h.aH.2 g)).elim
  |prf g _ _=>exact (he (h.aH.2 g)).elim
  |off g _ _ _=>exact (he (h.aH.2 g)).elim
  |ok g _ _ _=>exact (he (h.aH.2 g)).elim
 |what h h1=>cases g with|bad g ge=>exact (ge (g.aH.2 h)).elim|_=>first|rfl|contradiction
 |prf h h1 h2=>cases g with|bad g ge=>exact (ge (g.aH.2 h)).elim|_=>first|rfl|contradiction
 |off h h1 h2 h3=>cases g with|bad g ge=>exact (ge (g.aH.2 h)).elim|_=>first|rfl|contradiction
 |ok h h1 h2 h3=>cases g with|bad g ge=>exact (ge (g.aH.2 h)).elim|_=>first|rfl|contradiction
theorem xW{v:Srv}(h:bY v){ws:List Int}{m:Int}{us:List Use}(hp:kQ v.sys ws m us): -4608000000000000000≤m∧m≤4608000000000000000:=by
 have h1:=yJ h.sys hp.use
 have h2:=hp.tot
 have h3:=hp.bound
 omega
def ze(s:Srv)(q:Wht)(high:Bool)(n:Int)(us:List Use):Prop:=kQ s.sys (Bm (s.w q) high) n us∧jQ s.sys (Bm (s.w q) high) n 0
theorem nC.same{v:Srv}{q:Wht}{lo hi e f:Int}(h:nC v q e)(g:q8 v q lo hi f):e=f:=by
 by_cases e0:e=0
 ·subst e0
  obtain ⟨h1,h2,h3⟩:=h.zero
  cases g with
  |bad g ge=>exact (ge (g.aH.2 h1)).elim
  |what _ g=>exact (g h2).elim
  |fls _ _ g=>exact (g h3).elim
  |ok=>rfl
 ·exact ((h.qty e0).uniq g).2.2
theorem ze.bd{v:Srv}{q:Wht}{high:Bool}{n e:Int}{us:List Use}(h0:e≠0→n=0∧us=[])(hA:nC v q e)(h:e=0→ze v q high n us):us.length≤400∧-5000000000000000000≤n∧n≤5000000000000000000:=by
 by_cases e0:e=0
 ·subst e0
  have h1:=xW hA.zero.1 (h rfl).1
  exact ⟨(h rfl).1.len,aj⟩
 ·obtain ⟨rfl,rfl⟩:=h0 e0
  exact ⟨cN,aj⟩
end Go.Proofs.YtddaejgfjlneoaaGreat
namespace Go.Proofs.YtddaejgfjlneoaaGreat
open Go.MW
variable{H:a8}{w:World}{σ:List Ent}
theorem oZ{s:Spc}{vst vwa vx:Value}{x:List Int}(hs:St H w σ)(h1:RI H vst s.st)(h2:RI H vwa s.wa)(hx:RI H vx x)(hb1:s.st.length≤1000)(hb2:s.wa.length≤1000)(hxl:s.many+1≤x.length):
  Cl Tryz.prog 61 [.agg #[I s.id,I s.src,vst,vwa,I s.al,I s.up],vx] w fun u w'=>∃H1 va,HLe H H1∧u= .agg #[va]∧RT H1 va (fM s x s.st.length)∧St H1 w' σ:=by
 refine (o5 hs h1 h2 hx hb1 hb2 hxl).mono ?_
 rintro _ w ⟨va,us,en,ens,rfl,hO,hR,hs⟩
 have hul:=hR.length
 rw [fl] at hul
 replace hs:St H w (ens++(en::σ)):=hs.perm List.perm_middle.symm
 obtain ⟨H6,hle6,hRL,hs⟩:=hR.bK (fun r hr=>by
  obtain ⟨j,hj⟩:=List.getElem?_of_mem hr
  have hjl:=(List.getElem?_eq_some_iff.1 hj).1
  rw [fl] at hjl
  rw [rn hjl] at hj
  obtain rfl:=Option.some.inj hj
  rw [gE];omega) hs
 obtain ⟨H7,hle7,hRT,hs⟩:=hRL.bK hO aj hs .here
 exact ⟨H7,_,hle6.trans hle7,rfl,hRT,hs⟩
set_option maxHeartbeats 1000000 in
theorem od{s:Spc}{vst vwa:Value}{b:Int}(hs:St H w σ)(h1:RI H vst s.st)(h2:RI H vwa s.wa)(hb1:s.st.length≤4)(hb2:s.wa.length≤3):
  Cl Tryz.prog 36 [.agg #[I s.id,I s.src,vst,vwa,I s.al,I s.up],I b] w fun u w'=>∃H1 va,HLe H H1∧u= .agg #[va]∧RT H1 va (fM s (flat s b) s.st.length)∧St H1 w' σ:=by
 have hmm:s.many≤12:=Nat.mul_le_mul hb1 hb2
 obtain ⟨ast,cst,rfl⟩:=RI.shape h1
 obtain ⟨awa,cwa,rfl⟩:=RI.shape h2
 refine Cl.o Tryz.func36 Tryz.ntmps36 ag2 ?_
 refine .ai ?_
 refine .bx hs fun b2 w hs=>?_
 refine .o (.alloc hs tr rfl fun b4 w hs=>?_)
 refine .nil (.ai (.y hs (zls [_,_,_,_,_,_] aK az) ?_))
 refine .o (.call Tryz.call97 rfl (lj hs h1 h2 ⟨aj,aj⟩) ?_);rintro _ w ⟨rfl,hs⟩
 refine .z cR ?_
 rw [show (s.many:Int)+1=((s.many+1:Nat):Int) by push_cast;rfl]
 refine .o (.o7 (s.many+1) hs rfl rfl ad dB rfl ae aR aj fun b10 w hs=>?_)
 refine .z zg (.nil (.seq (.ai (.z zg (.nil (.block ?_))))))
 refine .loop (fun i:Nat=>⟨24,[],[(6,I (i:Int)),(5,.slice (some ⟨b10,0,none⟩) (s.many+1) (s.many+1)),(4,.pointer (some ⟨b4,0,none⟩)),(2,.pointer (some ⟨b2,0,none⟩)),(1,I b)]⟩)
  (fun i w=>i≤s.many+1∧∃L,L.length=s.many+1∧(∀v<i,gi L v=b)∧St H w (.blk b10 (Is L):: .blk b4 [.slice none 0 0]:: .blk b2 [I s.id,I s.src,.slice ast s.st.length cst,.slice awa s.wa.length cwa,I s.al,I s.up]::σ)) (fun i=>s.many+1 - i) 0 cC
  ⟨Nat.zero_le _,List.replicate (s.many+1) 0,cN,fun v hv=>by omega,hs.sb⟩ ?_
 clear hs
 rintro i w ⟨hi,L,hL,hg,hs⟩
 refine .seq (.ai (.z zm (.z zm (.z (df ad) (.z kX (.nil ?_))))))
 refine (.cW rfl (fun hc14=>?_) (fun hc14=>?_))
 ·refine .skip ?_
  refine nT ?_
  refine .seq (.block (.region (.z zm (.z zm (.z zm ?_)))))
  refine .q hs (gh (k:=i) rfl rfl ad ae rfl aj) ?_
  refine .o (.store (c':=Is (L.set i b)) hs rfl rfl ae ?_ c9 (by simp [Is];omega) (pY _ _ _));intro w hs
  refine .nil ?_
  refine nB (nT ?_)
  refine .region (.z zm (.z cR (.z zg (.nil ?_))))
  refine nT ?_
  exact ⟨i+1,.eU rfl cN cC,⟨aj,L.set i b,by rw [List.length_set];exact hL,fun v hv=>by
   rw [dk aj]
   by_cases e:v=i
   ·rw [if_pos e]
   ·rw [if_neg e];exact hg v aj,hs.sb⟩,aj⟩
 ·refine .exit ?_
  refine xT (xT (xB (nT ?_)))
  refine .ai (.y hs (zls [_,_,_,_,_,_] aK az) (.z zm ?_))
  obtain rfl:i=s.many+1:=by omega
  obtain rfl:L=flat s b:=List.eq_replicate_iff.2 ⟨hL,fun x hx=>by
   obtain ⟨j,hj⟩:=List.getElem?_of_mem hx
   have hjl:=(List.getElem?_eq_some_iff.1 hj).1
   have e:=bB hjl
   rw [hj] at e
   rw [←hg j aj];exact Option.some.inj e⟩
  obtain ⟨H1,hle1,hX,hs⟩:=bX.cn (xs:=flat s b) (v:= .slice (some ⟨b10,0,none⟩) (s.many+1) (s.many+1)) (.full (by simp [Is,hL])) aj hs c9
  refine .o (.call Tryz.call61 rfl (oZ (s:=s) hs (h1.mono hle1) (h2.mono hle1) hX aj aj aj) ?_);rintro _ w ⟨H2,va,hle2,rfl,hT,hs⟩
  obtain ⟨aT,cT,rfl⟩:=hT.shape
  refine .o (.aP (vs:=[_]) hs rfl rfl eI fun w hs=>?_)
  refine .nil ?_
  refine .ret ?_
  exact Fin.gR [] [] hs fun w hs=>⟨_,results1 Tryz.results36 (dF (vs:=[_]) hs rfl oT eI),H2,_,hle1.trans hle2,rfl,hT,hs.out⟩
set_option maxHeartbeats 4000000 in
theorem lE{v:Value}{l:List Int}{x1 x2:Int}(hs:St H w σ)(hr:RI H v l):
  Cl Tryz.prog 6 [v,I x1,I x2] w fun v w'=>v= .bool true∧∃H',HLe H H'∧St H' w' σ:=by
 obtain ⟨av,cv,rfl⟩:=RI.shape hr
 refine Cl.o Tryz.func6 Tryz.ntmps6 ag3 ?_
 refine .ai (.z zg (.nil (.ai ?_)))
 refine .o (.call Tryz.call22 rfl (oq hs) ?_);rintro _ w ⟨rfl,H1,hle1,hs⟩
 refine .z zg (.nil (.ai (.z zm ?_)))
 refine .o (.call Tryz.call35 rfl (ku hs (hr.mono hle1)) ?_);rintro _ w ⟨s,vst,vwa,e1,e2,rfl,hM,hO1,hO2,hs⟩
 have hst4:=hM.st
 have hwa3:=hM.wa
 have hsp:=hM.ok
 have hst2:=hsp.st.two
 have hwa2:=hsp.wa.two
 obtain ⟨H2,hle2,h1,hs⟩:=hO1.cn aj hs .here
 obtain ⟨H3,hle3,h2,hs⟩:=hO2.cn aj hs .here
 replace h1:=h1.mono hle3
 obtain ⟨ast,cst,rfl⟩:=RI.shape h1
 obtain ⟨awa,cwa,rfl⟩:=RI.shape h2
 have hle03:=hle1.trans (hle2.trans hle3)
 refine .o (.alloc hs gY rfl fun b8 w hs=>?_)
 refine .o (.aP (vs:=[_,_,_,_,_,_]) hs rfl rfl az fun w hs=>?_)
 refine .nil (.ai (.z zm ?_))
 refine .o (.call Tryz.call31 rfl (ff hs aj) ?_);rintro _ w ⟨b,gb,rfl,hs⟩
 refine .z zg (.nil (.ai (.z zm (.z (zfa aO) (.y hs (zld ak) (.z (df ad) (.z iR ?_)))))))
 refine .o (.call Tryz.call31 rfl (ff hs aj) ?_);rintro _ w ⟨m,gm,rfl,hs⟩
 refine .z cR ?_
 rw [show 1+(m:Int)=((m+1:Nat):Int) by push_cast;omega]
 have hk:1≤m+1∧m+1<s.wa.length:=by omega
 generalize m+1=k at*
 refine .z zg (.nil (.ai (.y hs (zls [_,_,_,_,_,_] aK az) (.z zm ?_))))
 refine .o (.call Tryz.call36 rfl (od (s:=s) (b:=b) hs h1 h2 aj aj) ?_);rintro _ w ⟨H4,va,hle4,rfl,hT,hs⟩
 obtain ⟨aT,cT,rfl⟩:=hT.shape
 replace h1:=h1.mono hle4
 replace h2:=h2.mono hle4
 have hle04:=hle03.trans hle4
 have p1:=hsp.st.bd (i:=0) aj
 have p2:=hsp.st.bd (i:=s.st.length - 1) aj
 have p3:=hsp.st.le (i:=0) (j:=s.st.length - 1) aj aj
 have p4:=hsp.wa.bd (i:=0) aj
 have p5:=hsp.wa.bd (i:=s.wa.length - 1) aj
 have p6:=hsp.wa.le (i:=0) (j:=s.wa.length - 1) aj aj
 have p7:=hsp.wa.bd (i:=k) aj
 have p8:=hsp.wa.le (i:=0) (j:=k) aj aj
 have hH:=zU (s:=s) (b:=(b:Int)) ⟨aj,aj⟩
 refine .o (.alloc hs tr rfl fun b10 w hs=>?_)
 refine .o (.aP (vs:=[_]) hs rfl rfl eI fun w hs=>?_)
 refine .nil ?_
 refine .seq (.draw mix rfl hs fun w hs=>?_)
 refine .z 0 rfl (zfa aU) ?_;refine .y 1 rfl hs ak ?_;refine .z 2 rfl (zfa aU) ?_;refine .y 3 rfl hs ak ?_;refine .z 4 rfl (df ad) ?_;refine .z 5 rfl iR ?_
 refine .ixX (enc:=fun x=>[I x]) (i:=6) hs rfl ay .none h1 rfl rfl ad ae (bB (l:=s.st) (i:=(s.st.length - 1)) aj) dm ?_;intro b41 o41 hc41;replace hc41:=br.one hc41
 refine .r (i:=7) hs rfl ay .none (bj rfl af hc41) ?_
 refine .z 8 rfl (zfa aU) ?_;refine .y 9 rfl hs ak ?_
 refine .ixX (enc:=fun x=>[I x]) (i:=10) hs rfl ay .none h1 rfl rfl ad ae (bB (l:=s.st) (i:=0) aj) dm ?_;intro b45 o45 hc45;replace hc45:=br.one hc45
 refine .r (i:=11) hs rfl ay .none (bj rfl af hc45) ?_
 refine .z 12 rfl iR ?_;refine .z 13 rfl zg ?_;refine .D hs ?_
 refine .seq (.draw mix rfl hs fun w hs=>?_)
 refine .z 0 rfl (zfa aO) ?_;refine .y 1 rfl hs ak ?_;refine .z 2 rfl zm ?_
 refine .ixX (enc:=fun x=>[I x]) (i:=3) hs rfl ay .none h2 rfl rfl ad ae (bB (l:=s.wa) (i:=k) aj) dm ?_;intro b51 o51 hc51;replace hc51:=br.one hc51
 refine .r (i:=4) hs rfl ay .none (bj rfl af hc51) ?_
 refine .z 5 rfl (zfa aO) ?_;refine .y 6 rfl hs ak ?_
 refine .ixX (enc:=fun x=>[I x]) (i:=7) hs rfl ay .none h2 rfl rfl ad ae (bB (l:=s.wa) (i:=0) aj) dm ?_;intro b55 o55 hc55;replace hc55:=br.one hc55
 refine .r (i:=8) hs rfl ay .none (bj rfl af hc55) ?_
 refine .z 9 rfl iR ?_;refine .z 10 rfl zg ?_;refine .D hs ?_
 refine .seq (.draw mix rfl hs fun w hs=>?_)
 refine .z 0 rfl (zfa aO) ?_;refine .y 1 rfl hs ak ?_;refine .z 2 rfl (zfa aO) ?_;refine .y 3 rfl hs ak ?_;refine .z 4 rfl (df ad) ?_;refine .z 5 rfl iR ?_
 refine .ixX (enc:=fun x=>[I x]) (i:=6) hs rfl ay .none h2 rfl rfl ad ae (bB (l:=s.wa) (i:=(s.wa.length - 1)) aj) dm ?_;intro b64 o64 hc64;replace hc64:=br.one hc64
 refine .r (i:=7) hs rfl ay .none (bj rfl af hc64) ?_
 refine .z 8 rfl (zfa aO) ?_;refine .y 9 rfl hs ak ?_
 refine .ixX (enc:=fun x=>[I x]) (i:=10) hs rfl ay .none h2 rfl rfl ad ae (bB (l:=s.wa) (i:=0) aj) dm ?_;intro b68 o68 hc68;replace hc68:=br.one hc68
 refine .r (i:=11) hs rfl ay .none (bj rfl af hc68) ?_
 refine .z 12 rfl iR ?_;refine .z 13 rfl zg ?_;refine .D hs ?_
 refine .ai (.y hs (zls [_,_,_,_,_,_] aK az) (.y hs (zls [_] oT eI) (.z zm (.z (zbd [_,_,_] ft) ?_))))
 refine .o (.call Tryz.call37 rfl (dR (s:=s) (q:=⟨1,0,k⟩) hs h1 h2 hT) ?_);rintro _ w ⟨H5,v1,e5,hle5,rfl,hQ,hs⟩
 obtain ⟨rfl,rfl⟩:=hQ.uniq (.ok hsp hH (.litres rfl rfl ⟨by show (0:Int)≤(k:Int);omega,by show (k:Int)≤_;omega⟩ (by show (0:Int)<(k:Int);omega)))
 rw [s8 hsp hk]
 replace h1:=h1.mono hle5
 replace h2:=h2.mono hle5
 replace hT:=hT.mono hle5
 refine .z zm (.z zex (.z zex (.z zg (.z zg (.nil (.ai (.y hs (zls [_,_,_,_,_,_] aK az) (.y hs (zls [_] oT eI) (.z zm ?_)))))))))
 refine .z (zbd [_,_,_] ft) ?_
 refine .o (.call Tryz.call37 rfl (dR (s:=s) (q:=⟨2,0,k⟩) hs h1 h2 hT) ?_);rintro _ w ⟨H6,v2,e6,hle6,rfl,hQ6,hs⟩
 obtain ⟨rfl,rfl⟩:=hQ6.uniq (.ok hsp hH (.plane rfl rfl ⟨by show (0:Int)≤(k:Int);omega,by show (k:Int)≤_;omega⟩))
 rw [uK hsp hk.2]
 replace h1:=h1.mono hle6
 replace h2:=h2.mono hle6
 replace hT:=hT.mono hle6
 refine .z zm (.z zex (.z zex (.z zg (.z zg (.nil ?_)))))
 refine .seq (.draw mix rfl hs fun w hs=>?_)
 refine .ys 0 rfl hs [_,_,_,_,_,_] aK az ?_;refine .ys 1 rfl hs [_] oT eI ?_;refine .z 2 rfl zm ?_;refine .z 3 rfl (zfa aU) ?_;refine .y 4 rfl hs ak ?_;refine .z 5 rfl (df ad) ?_
 refine .E 6 hs ?_
 refine .call Tryz.call31 rfl (ff hs aj) ?_;rintro _ w ⟨j,gj,rfl,hs⟩
 refine .go ?_
 refine .z 7 rfl (zbd [_,_,_] ft) ?_
 refine .E 8 hs ?_
 refine .call Tryz.call37 rfl (dR (s:=s) (q:=⟨3,j,0⟩) hs h1 h2 hT) ?_;rintro _ w ⟨H7,v3,e7,hle7,rfl,hQ7,hs⟩
 obtain ⟨rfl,rfl⟩:=hQ7.uniq (.ok hsp hH (.section_ rfl rfl ⟨by show (0:Int)≤(j:Int);omega,by show (j:Int)≤_;omega⟩))
 rw [rW hsp aj]
 have hle07:=hle04.trans (hle5.trans (hle6.trans hle7))
 refine .go ?_
 refine .z 9 rfl zm ?_;refine .z 10 rfl zex ?_;refine .z 11 rfl zex ?_;refine .z 12 rfl zg ?_;refine .z 13 rfl zg ?_;refine .D hs ?_
 refine .ai ?_
 have hA:0≤gi s.st (s.st.length - 1) - gi s.st 0∧gi s.st (s.st.length - 1) - gi s.st 0≤100000:=by omega
 have hB:0≤gi s.wa k - gi s.wa 0∧gi s.wa k - gi s.wa 0≤15000:=by omega
 have hC:0≤gi s.wa (s.wa.length - 1) - gi s.wa 0∧gi s.wa (s.wa.length - 1) - gi s.wa 0≤15000:=by omega
 generalize gi s.st (s.st.length - 1) - gi s.st 0=A at*
 generalize gi s.wa k - gi s.wa 0=B at*
 generalize gi s.wa (s.wa.length - 1) - gi s.wa 0=C at*
 have m1:=gI (a:=2*(b:Int)) (b:=A) (A:=40000) (B:=100000) aj aj
 have m2:=gI (a:=2*(b:Int)*A) (b:=B) (A:=4000000000) (B:=15000) aj aj
 have m3:=gI (a:=2*(b:Int)) (b:=C) (A:=40000) (B:=15000) aj aj
 have n1:0≤2*(b:Int)*A:=Int.mul_nonneg aj aj
 have n2:0≤2*(b:Int)*A*B:=Int.mul_nonneg n1 aj
 have n3:0≤2*(b:Int)*C:=Int.mul_nonneg aj aj
 have q1:=Int.tdiv_eq_ediv_of_nonneg (b:=1000000) n2
 have q2:=Int.tdiv_eq_ediv_of_nonneg (b:=10000) n1
 have q3:=Int.tdiv_eq_ediv_of_nonneg (b:=10000) n3
 have w1:IntKind.i64.wrap ((2*(b:Int)*A*B).tdiv 1000000)=2*(b:Int)*A*B/1000000:=by rw [q1];exact eO aj
 have w2:IntKind.i64.wrap ((2*(b:Int)*A).tdiv 10000)=2*(b:Int)*A/10000:=by rw [q2];exact eO aj
 have w3:IntKind.i64.wrap ((2*(b:Int)*C).tdiv 10000)=2*(b:Int)*C/10000:=by rw [q3];exact eO aj
 refine .z zm (.z zm ?_)
 refine .gT rfl rfl ?_
 refine .z zm ?_
 refine .gT rfl rfl ?_
 refine .z j9 ?_
 rw [decide_eq_true rfl]
 refine .z zpT (.z zm ?_)
 refine .gT rfl rfl ?_
 refine .z zm ?_
 refine .gT rfl rfl ?_
 refine .z j9 ?_
 rw [decide_eq_true rfl]
 refine .z zpT (.z zm ?_)
 refine .gT rfl rfl ?_
 refine .z zm ?_
 refine .gT rfl rfl ?_
 refine .z j9 ?_
 rw [decide_eq_true rfl]
 refine .z zpT (.z zm ?_)
 refine .gT rfl rfl ?_
 refine .z zm ?_
 refine .gT rfl rfl ?_
 refine .z zm ?_
 refine .gT rfl rfl ?_
 refine .z iq ?_
 refine .gT rfl rfl ?_
 refine .z zm ?_
 refine .gT rfl rfl ?_
 refine .z iq ?_
 refine .gT rfl rfl ?_
 refine .z zm ?_
 refine .gT rfl rfl ?_
 refine .z iq ?_
 refine .gT rfl rfl ?_
 refine .z AD ?_
 refine .gT rfl rfl ?_
 refine .z j9 ?_
 rw [w1,decide_eq_true rfl]
 refine .z zpT (.z zm ?_)
 refine .gT rfl rfl ?_
 refine .z zm ?_
 refine .gT rfl rfl ?_
 refine .z zm ?_
 refine .gT rfl rfl ?_
 refine .z iq ?_
 refine .gT rfl rfl ?_
 refine .z zm ?_
 refine .gT rfl rfl ?_
 refine .z iq ?_
 refine .gT rfl rfl ?_
 refine .z AD ?_
 refine .gT rfl rfl ?_
 refine .z j9 ?_
 rw [w2,decide_eq_true rfl]
 refine .z zpT (.z zm ?_)
 refine .gT rfl rfl ?_
 refine .z zm ?_
 refine .gT rfl rfl ?_
 refine .z zm ?_
 refine .gT rfl rfl ?_
 refine .z iq ?_
 refine .gT rfl rfl ?_
 refine .z zm ?_
 refine .gT rfl rfl ?_
 refine .z iq ?_
 refine .gT rfl rfl ?_
 refine .z AD ?_
 refine .gT rfl rfl ?_
 refine .z j9 ?_
 rw [w3,decide_eq_true rfl]
 refine .z zpT (.z zg (.nil ?_))
 refine .ret (Fin.bF Tryz.results6 rfl ?_)
 exact ⟨rfl,H7,hle07,hs.out⟩
end Go.Proofs.YtddaejgfjlneoaaGreat
