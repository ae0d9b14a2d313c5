/-
  Texts of these claims, joined: Zb Ze Zf Zg Zh Zi Zj Zk Zl Zm Zn Zo Zp Zq Zr Zv Zx Zy.
-/
import Derived.Test.YtddaejgfjlneoaaGreatHc
namespace Go.Proofs.YtddaejgfjlneoaaGreat
open Go.MW
variable{H:bJ}{w:World}{σ:List Ent}
def za(X Y:List Int)(i:Nat):List Int:=(List.range Y.length).map fun k=>gi X i*gi Y k
def py(X Y:List Int)(i:Nat):List (List Int):=(List.range i).map (za X Y)
theorem ob(X Y:List Int)(i:Nat):(za X Y i).length=Y.length:=by simp [za]
theorem my(X Y:List Int)(i:Nat):(py X Y i).length=i:=by simp [py]
theorem zt(X Y:List Int)(i:Nat):py X Y (i+1)=py X Y i++[za X Y i]:=by simp [py,List.range_succ]
theorem Ad{X Y:List Int}{i k:Nat}(hk:k<Y.length):(za X Y i).take (k+1)=(za X Y i).take k++[gi X i*gi Y k]:=by
 rw [cU (by simp [za,hk]:(za X Y i)[k]? =some (gi X i*gi Y k))]
theorem yt{X Y:List Int}{n i:Nat}(h:i<n):gr (py X Y n) i=za X Y i:=by simp [gr,List.getD,py,h]
theorem Cy{X Y:List Int}{n i k:Nat}(h:i<n)(hk:k<Y.length):gt (py X Y n) i k=gi X i*gi Y k:=by
 unfold gt;rw [yt h];simp [gi,List.getD,za,hk]
inductive GrS(X Y:List Int)(b:Nat)(i k:Nat)(H:bJ)(σ:List Ent):Prop
 |go (us:List Value) (v:Value) (en:Ent) (h:i<X.length) (h1:RLs H us (py X Y i)) (h2:bQ 1 v (Is ((za X Y i).take k)) en) (h3:σ=[.blk b (us++v::List.replicate (X.length - i - 1) (.slice none 0 0)),en])
 |fin (us:List Value) (h:i=X.length) (h1:RLs H us (py X Y i)) (h3:σ=[.blk b us])
theorem GrS.mono{X Y:List Int}{b i k:Nat}{H H':bJ}{σ:List Ent}(h:GrS X Y b i k H σ)(hl:HLe H H'):GrS X Y b i k H' σ:=by
 cases h with
 |go us v en h h1 h2 h3=>exact .go us v en h (h1.mono hl) h2 h3
 |fin us h h1 h3=>exact .fin us h (h1.mono hl) h3
theorem kf{v:Value}{l:List Int}(hs:St H w σ)(hr:RI H v l):
  Cl Tryz.prog 273 [v] w fun u w'=>∃H1 vo e,HLe H H1∧u= .tuple #[vo,I e]∧(gx 9 100000 l→e=0∧RI H1 vo (wts l))∧St H1 w' σ:=by
 obtain ⟨a,c,rfl⟩:=RI.shape hr
 refine Cl.o Tryz.func273 Tryz.ntmps273 ag1 ?_
 refine .ai (.z zg (.z zg (.nil (.seq (.ai (.z zm ?_))))))
 refine .o (.call Tryz.call294 rfl (lR hs hr) ?_);rintro _ w ⟨e,rfl,he,hs⟩
 refine .z zg (.nil (.ai (.z zm (.z fP (.nil ?_)))))
 refine (.ep rfl (fun hc8=>?_) (fun hc8=>?_))
 ·refine .ai (.z zm (.z zg (.z zg (.nil ?_))))
  refine .ret (rT (Fin.oH Tryz.results273 rfl rfl ?_))
  exact ⟨H,_,_,HLe.refl H,rfl,fun h=>by rcases he with ⟨_,h2⟩|⟨h1,_⟩;exact (hc8 h2).elim;exact (h1 h).elim,hs⟩
 ·refine .skip ?_
  refine nT ?_
  refine .ai (.z zm ?_)
  have hp:gx 9 100000 l:=by rcases he with ⟨h,_⟩|⟨_,h2⟩;exact h;exact (h2 (by simpa using hc8)).elim
  refine .o (.call Tryz.call248 rfl (im hs hr hp) ?_);rintro v11 w ⟨H1,hle1,hR,hs⟩
  refine .z zg (.z zg (.nil ?_))
  refine .ret (Fin.oH Tryz.results273 rfl rfl ?_)
  exact ⟨H1,_,_,hle1,rfl,fun _=>⟨rfl,hR⟩,hs⟩
theorem pY{v1 v2:Value}{a b:List Int}(hs:St H w σ)(h1:RI H v1 a)(h2:RI H v2 b):
  Cl Tryz.prog 191 [v1,v2] w fun u w'=>∃bb:Bool,u= .bool bb∧(bb=true↔gx 9 100000 a∧gx 7 15000 b)∧St H w' σ:=by
 refine Cl.o Tryz.func191 Tryz.ntmps191 ag2 ?_
 refine .ai (.z zg (.nil (.ai (.z zm ?_))))
 refine .o (.call Tryz.call247 rfl (gG (many:=9) (most:=100000) hs h1) ?_);rintro _ w ⟨b6,rfl,hb6,hs⟩
 refine .z zm ?_
 refine .bif (t':=7) rfl (fun hb7=>?_) (fun hb7=>?_)
 ·refine .gT rfl rfl ?_
  refine .z zm ?_
  refine .gT rfl rfl ?_
  refine .o (.call Tryz.call247 rfl (gG (many:=7) (most:=15000) hs h2) ?_);rintro _ w ⟨b9,rfl,hb9,hs⟩
  refine .z zpT (.z zg (.nil ?_))
  refine .ret (Fin.bD Tryz.results191 rfl ?_)
  exact ⟨_,rfl,by rw [hb9];exact ⟨fun h=>⟨hb6.1 hb7,h⟩,fun h=>h.2⟩,hs⟩
 ·refine .gFs 2 2 true rfl rfl rfl ?_
  refine .z zpF (.z zg (.nil ?_))
  refine .ret (Fin.bD Tryz.results191 rfl ?_)
  exact ⟨_,rfl,⟨fun h=>(by cases h),fun h=>by rw [hb6.2 h.1] at hb7;cases hb7⟩,hs⟩
theorem ng{bx by_:Nat}{x y:Int}(hs:St H w σ)(hx:Row H bx [I x])(hy:Row H by_ [I y]):
  Cl Tryz.prog 279 [.pointer (some ⟨bx,0,none⟩),.pointer (some ⟨by_,0,none⟩)] w fun u w'=>u= .tuple #[I x,I y]∧St H w' σ:=by
 have hx0:=hx.at 0
 have hy0:=hy.at 0
 refine Cl.o Tryz.func279 Tryz.ntmps279 ag2 ?_
 refine .ai (.z zg (.z zg (.nil ?_)))
 refine .seq (.draw mix rfl hs fun w hs=>?_)
 refine .y 0 rfl hs ae ?_;refine .y 1 rfl hs ae ?_;refine .z 2 rfl zg ?_;refine .z 3 rfl zg ?_;refine .D hs ?_
 refine .ret (Fin.oH Tryz.results279 rfl rfl ?_)
 exact ⟨rfl,hs⟩
def PrE(X Y:List Int)(p:Nat)(H:bJ)(z:List Value):Prop:=
 ∃bx by_,z=[.agg #[I ((p/Y.length:Nat):Int),I ((p%Y.length:Nat):Int)],.func (.func 279) #[] #[.pointer (some ⟨bx,0,none⟩),.pointer (some ⟨by_,0,none⟩)]]∧Row H bx [I (gi X (p/Y.length))]∧Row H by_ [I (gi Y (p%Y.length))]
theorem oN{H:bJ}{b1 b2:Nat}{v1 v2:Value}{X Y:List Int}(hb1:Row H b1 [v1])(hb2:Row H b2 [v2])(hX:RI H v1 X)(hY:RI H v2 Y)(hXl:X.length≤1000)(hYl:Y.length≤1000):
  CM Tryz.prog 278 [.pointer (some ⟨b1,0,none⟩),.pointer (some ⟨b2,0,none⟩)] H (X.length*Y.length) (PrE X Y):=by
 intro ly II Ix hmI _ hy H0 σb0 σf w hle hI0 hs
 obtain ⟨a1,c1,rfl⟩:=RI.shape hX
 obtain ⟨a2,c2,rfl⟩:=RI.shape hY
 have h01:cellAt H0 b1 0=some (.slice a1 X.length c1):=cellAt.mono (hb1.at 0) hle
 have h02:cellAt H0 b2 0=some (.slice a2 Y.length c2):=cellAt.mono (hb2.at 0) hle
 refine Cl.o Tryz.func278 Tryz.ntmps278 ag3 ?_
 refine .ai (.y hs (zld ak) (.z (cS ad) (.z zm (.nil ?_))))
 refine .for (N:=X.length) (J:=fun i fr w=>fr=[(8,.slice a1 X.length c1),(0,.func (.yield ly) #[] #[]),(1,.pointer (some ⟨b1,0,none⟩)),(2,.pointer (some ⟨b2,0,none⟩))]∧∃H1 σb,HLe H H1∧HLe H0 H1∧II (i*Y.length) H1 σb∧St H1 w (σb++σf)) aj ?_ ?_ ?_
 ·exact .mk ⟨rfl,H0,σb0,hle,HLe.refl _,by rw [Nat.zero_mul];exact hI0,hs⟩
 ·rintro i fr w hi ⟨rfl,H1,σb,hle1,hle0,hI,hs⟩
  refine .block (.ai (.z zm ?_))
  refine .ixY hs (hX.mono hle1) rfl rfl ad af (bL (l:=X) (i:=i) aj) dK ?_;intro b13 o13 hc13
  refine .q hs (aZ rfl ae hc13) ?_
  refine .o (.alloc hs bE rfl fun b5 w hs=>?_)
  refine .z zg ?_
  refine .o (.store hs rfl rfl af fun w hs=>?_)
  refine .nil (.ai ?_)
  obtain ⟨H2,hle2,r5,hs⟩:=hs.bX (b:=b5) .here
  have h22:=cellAt.mono h02 (hle0.trans hle2)
  refine .y hs (zld ak) (.z (cS ad) (.z zm (.nil ?_)))
  refine .for (N:=Y.length) (J:=fun k fr w=>fr=[(15,.slice a2 Y.length c2),(4,I (i:Int)),(10,I (i:Int)),(9,I (X.length:Int)),(5,.pointer (some ⟨b5,0,none⟩)),(8,.slice a1 X.length c1),(0,.func (.yield ly) #[] #[]),(1,.pointer (some ⟨b1,0,none⟩)),(2,.pointer (some ⟨b2,0,none⟩))]∧∃H3 σb,HLe H2 H3∧II (i*Y.length+k) H3 σb∧St H3 w (σb++σf)) aj ?_ ?_ ?_
  ·exact .mk ⟨rfl,H2,σb,HLe.refl _,hmI _ _ _ _ hle2 hI,hs⟩
  ·rintro k fr w hk ⟨rfl,H3,σb3,hle3,hI3,hs⟩
   have hle03:=hle0.trans (hle2.trans hle3)
   have hle13:=hle1.trans (hle2.trans hle3)
   refine .block (.ai (.z zm ?_))
   refine .ixY hs (hY.mono hle13) rfl rfl ad af (bL (l:=Y) (i:=k) aj) dK ?_;intro b20 o20 hc20
   refine .q hs (aZ rfl ae hc20) ?_
   refine .o (.alloc hs bE rfl fun b7 w hs=>?_)
   refine .z zg ?_
   refine .o (.store hs rfl rfl af fun w hs=>?_)
   refine .nil (.ai (.z zm (.z zm (.z zm ?_))))
   refine .q hs (B4 (vs:=[(0,I (i:Int)),(1,I (k:Int))]) (cells:=[I (i:Int),I (k:Int)]) Tryz.zeroValue90 rfl Tryz.runUnderlying90 af rfl) ?_
   refine .q hs (da (f:=[]) (c:=[_,_]) rfl rfl) ?_
   obtain ⟨H4,hle4,r7,hs⟩:=hs.bX (b:=b7) .here
   obtain ⟨d1,d2⟩:=Eu (nw:=Y.length) (i:=i) (k:=k) hk
   have hlt:i*Y.length+k<X.length*Y.length:=by
    have:=Nat.mul_le_mul_right Y.length (show i+1≤X.length by omega)
    rw [Nat.add_mul,Nat.one_mul] at this;omega
   have hyd:=hy (i*Y.length+k) hlt [.agg #[I (i:Int),I (k:Int)],.func (.func 279) #[] #[.pointer (some ⟨b5,0,none⟩),.pointer (some ⟨b7,0,none⟩)]] H4 σb3 σf w (hle13.trans hle4) ⟨b5,b7,by rw [d1,d2],by rw [d1];exact r5.mono (hle3.trans hle4),by rw [d2];exact r7⟩ (hmI _ _ _ _ hle4 hI3) hs
   refine .o (.yield rfl rfl hyd ?_);rintro v27 w ⟨H5,σ5,g1,hs,g3⟩
   obtain ⟨bb,rfl,gT,gF⟩:=nR g3
   refine .z iU (.nil ?_)
   refine (.cond rfl (fun hc28=>?_) (fun hc28=>?_))
   ·refine .ret (rB (rT (rB (rB (rT (rB (Fin.Ez Tryz.results278 ?_)))))))
    exact ⟨H5,σ5,hle03.trans (hle4.trans g1),hs,.inr (gF (by simpa using hc28))⟩
   ·refine .skip ?_
    refine nB (nT ?_)
    exact .mk ⟨rfl,H5,σ5,hle3.trans (hle4.trans g1),gT (by simpa using hc28),hs⟩
  ·rintro fr w ⟨rfl,H3,σb3,hle3,hI3,hs⟩
   refine nB (nT ?_)
   exact .mk ⟨rfl,H3,σb3,hle1.trans (hle2.trans hle3),hle0.trans (hle2.trans hle3),by rw [Nat.add_mul,Nat.one_mul];exact hI3,hs⟩
 ·rintro fr w ⟨rfl,H1,σb,hle1,hle0,hI,hs⟩
  exact Fin.wW Tryz.results278 ⟨H1,σb,hle0,hs,.inl hI⟩
theorem qQ{v1 v2:Value}{X Y:List Int}(hs:St H w σ)(hX:RI H v1 X)(hY:RI H v2 Y)(hXl:X.length≤1000)(hYl:Y.length≤1000):
  Cl Tryz.prog 249 [v1,v2] w fun u w'=>∃H1 b1 b2,HLe H H1∧u= .func (.func 278) #[] #[.pointer (some ⟨b1,0,none⟩),.pointer (some ⟨b2,0,none⟩)]∧CM Tryz.prog 278 [.pointer (some ⟨b1,0,none⟩),.pointer (some ⟨b2,0,none⟩)] H1 (X.length*Y.length) (PrE X Y)∧St H1 w' σ:=by
 obtain ⟨a1,c1,rfl⟩:=RI.shape hX
 obtain ⟨a2,c2,rfl⟩:=RI.shape hY
 refine Cl.o Tryz.func249 Tryz.ntmps249 ag2 ?_
 refine .ai ?_
 refine .bx hs fun b2 w hs=>?_
 refine .bx hs fun b3 w hs=>?_
 refine .z zg (.nil (.ai ?_))
 refine .q hs (da (f:=[]) (c:=[_,_]) rfl rfl) ?_
 refine .z zg (.nil ?_)
 refine .ret (Fin.bD Tryz.results249 rfl ?_)
 obtain ⟨H1,g1,r1,hs⟩:=hs.bX (b:=b2) dJ
 obtain ⟨H2,g2,r2,hs⟩:=hs.bX (b:=b3) dJ
 exact ⟨H2,b2,b3,g1.trans g2,rfl,oN (r1.mono g2) r2 (hX.mono (g1.trans g2)) (hY.mono (g1.trans g2)) hXl hYl,hs⟩
set_option maxHeartbeats 1000000 in
theorem rN{v1 v2:Value}{l1 l2:List Int}(hs:St H w σ)(hr1:RI H v1 l1)(hr2:RI H v2 l2)(hp1:gx 9 100000 l1)(hp2:gx 7 15000 l2):
  Cl Tryz.prog 192 [v1,v2] w fun u w'=>∃H1,HLe H H1∧RT H1 u (py (wts l1) (wts l2) l1.length)∧St H1 w' σ:=by
 obtain ⟨a1,c1,rfl⟩:=RI.shape hr1
 obtain ⟨a2,c2,rfl⟩:=RI.shape hr2
 have hn1:=hp1.many
 have hn2:=hp2.many
 have htw1:=hp1.two
 have htw2:=hp2.two
 have hp2':gx 9 100000 l2:=⟨hp2.two,aj,hp2.low,by have:=hp2.high;omega,hp2.rise⟩
 have hXl:=hZ l1
 have hYl:=hZ l2
 have hXb:=CT hp1
 have hYb:=CT hp2
 refine Cl.o Tryz.func192 Tryz.ntmps192 ag2 ?_
 refine .ai (.z zg (.nil (.ai (.z zm ?_))))
 refine .o (.call Tryz.call248 rfl (im hs hr1 hp1) ?_);rintro v13 w ⟨H1,hle1,hX,hs⟩
 refine .z zm ?_
 refine .o (.call Tryz.call248 rfl (im hs (hr2.mono hle1) hp2') ?_);rintro v15 w ⟨H2,hle2,hY,hs⟩
 replace hX:=hX.mono hle2
 generalize wts l1=X at*
 generalize wts l2=Y at*
 obtain ⟨aX,cX,rfl⟩:=RI.shape hX
 obtain ⟨aY,cY,rfl⟩:=RI.shape hY
 refine .z zg (.z zg (.nil (.ai (.z zm (.z (cS ad) ?_)))))
 refine .o (.EY l1.length hs rfl rfl aq Tryz.typeInfo22 rfl aC dD aj fun b18 w hs=>?_)
 refine .o (.alloc hs Tryz.zeroValue61 rfl fun b7 w hs=>?_)
 refine .o (.store hs rfl rfl Ep fun w hs=>?_)
 refine .nil (.seq (.ai (.z zm (.z zm ?_))))
 refine .o (.call Tryz.call249 rfl (qQ hs hX hY aj aj) ?_);rintro _ w ⟨H3,bp1,bp2,hle3,rfl,hit,hs⟩
 have hle03:=hle1.trans (hle2.trans hle3)
 have h0:GrS X Y b18 0 0 H3 [.blk b18 (List.replicate l1.length (.slice none 0 0)),.nul]:=by
  refine .go [] (.slice none 0 0) .nul aj (RLs.nil _) (.nil 1 none) ?_
  rw [hXl]
  obtain ⟨m,hm⟩:∃m,l1.length=m+1:=⟨l1.length - 1,aj⟩
  rw [hm]
  rfl
 refine .nil (.block ?_)
 refine .C0 (gf:=278) (cap:=[.pointer (some ⟨bp1,0,none⟩),.pointer (some ⟨bp2,0,none⟩)]) (N:=X.length*Y.length) (E:=PrE X Y) (σb:= .blk b7 [.slice (some ⟨b18,0,none⟩) l1.length l1.length]::[.blk b18 (List.replicate l1.length (.slice none 0 0)),.nul]) (σf:=σ) (hs.nul.sb) trivial rfl hit Tryz.call278 (fun k H' z ⟨_,_,hz,_⟩=>by rw [hz];rfl) rfl
  (I:=fun p H' σb=>∃σ1,σb= .blk b7 [.slice (some ⟨b18,0,none⟩) l1.length l1.length]::σ1∧GrS X Y b18 (p/Y.length) (p%Y.length) H' σ1) (Ix:=fun _ _ _=>False)
  (fun j _ _ σ g1 ⟨σ1,g2,g3⟩=>⟨σ1,g2,g3.mono g1⟩) (fun _ _ _ _ _ h=>h) ⟨_,rfl,by rw [Nat.zero_div,Nat.zero_mod];exact h0⟩ ?_ ?_ (fun D c H' σb w _ h _=>h.elim)
 ·rintro ly p hp z H4 σb2 σf2 w hle4 ⟨bx,by_,rfl,rx,ry⟩ ⟨σ1,rfl,hG⟩ hs ⟨rr,hrr⟩
  have hnext:=yi (p:=p) (m:=Y.length) aj
  have hkm:=Nat.mod_lt p (show 0<Y.length by omega)
  have hin:p/Y.length<X.length:=Nat.div_lt_of_lt_mul (by rw [Nat.mul_comm];exact hp)
  generalize hi:p/Y.length=i at*
  generalize hk:p%Y.length=k at*
  cases hG with
  |fin us h=>omega
  |go us v en h h1 h2 h3=>
  subst h3
  obtain ⟨av,lv,cv,rfl,hlv⟩:=h2.shape
  have husl:us.length=i:=by rw [h1.1,my]
  have hb1:=hXb i
  have hb2:=hYb k
  have hpr:=Dg (gi X i) (gi Y k)
  have hprb: -3456000000000≤gi X i*gi Y k∧gi X i*gi Y k≤3456000000000:=mu (A:=4800000) (B:=720000) (by unfold ab at hb1;omega) (by unfold ab at hb2;omega)
  refine .ai ?_
  refine .o (.alloc hs Tryz.zeroValue90 rfl fun b8 w hs=>?_)
  refine .o (.aQ (vs:=[_,_]) hs rfl rfl Tryz.sizeOf90 fun w hs=>?_)
  refine .nil (.region (.z zg (.nil ?_)))
  refine nT ?_
  refine ⟨H4,[.blk b8 [I (i:Int),I (k:Int)],.blk b7 [.slice (some ⟨b18,0,none⟩) l1.length l1.length],.blk b18 (us++Value.slice av lv cv::List.replicate (X.length - i - 1) (Value.slice none 0 0)),en],HLe.refl _,hs,?_⟩;rintro w σf4 - hs
  refine .block (.ai (.z zm ?_))
  refine .o (.ns (first:=[]) (cap:=[.pointer (some ⟨bx,0,none⟩),.pointer (some ⟨by_,0,none⟩)]) rfl rfl Tryz.call279 (ng hs rx ry) ?_);rintro _ w ⟨rfl,hs⟩
  refine .z zm (.z zex (.z zex (.z zg (.z zg (.nil ?_)))))
  refine .draw mix rfl hs fun w hs=>?_
  refine .y 0 rfl hs gZ ?_
  refine .z 1 rfl (zia 0 Tryz.runUnderlying90 af) ?_
  refine .y 2 rfl hs ae ?_;refine .y 3 rfl hs gZ ?_
  refine .z 4 rfl (zia 0 Tryz.runUnderlying90 af) ?_
  refine .y 5 rfl hs ae ?_
  refine .z 6 rfl (ij (k:=i) rfl rfl aq aC rfl aj) ?_
  refine .load (i:=7) hs rfl an .none rfl ak ?_ (hv:=by rw [List.getElem?_append_right aj,husl,Nat.sub_self];rfl)
  refine .z 8 rfl zm ?_;refine .z 9 rfl zm ?_;refine .z 10 rfl lG ?_
  refine .E 11 hs ?_
  refine .buildSlice (cells:=[_]) hs bP rfl rfl ?_;intro b40 w hs
  refine .go ?_
  refine .E 12 hs ?_
  refine .append (ys:=Is [gi X i*gi Y k]) hs bH rfl rfl h2 (.own .here rfl rfl) (fN _) (fun l' h=>by simp at h;omega) ?_;intro v41 en41 w hO hs
  rw [show Is ((za X Y i).take k)++Is [gi X i*gi Y k]=Is ((za X Y i).take (k+1)) by rw [Ad hkm];simp [Is]] at hO
  obtain ⟨a41,l41,c41,rfl,hl41⟩:=hO.shape
  refine .go ?_
  refine .z 13 rfl (ij (k:=i) rfl rfl aq aC rfl aj) ?_
  refine .E 14 hs ?_
  refine .store (c':=us++ .slice a41 l41 c41::List.replicate (X.length - i - 1) (.slice none 0 0)) hs rfl rfl aC ?_ dJ (by simp;omega) (by rw [List.set_append_right _ _ aj,husl,Nat.sub_self];rfl);intro w hs
  refine .go ?_
  refine .D hs ?_
  refine nB ?_
  rcases hnext with ⟨g1,g2,g3⟩|⟨g1,g2,g3⟩
  ·exact ⟨H4,[.blk b7 [.slice (some ⟨b18,0,none⟩) l1.length l1.length],.blk b18 (us++ .slice a41 l41 c41::List.replicate (X.length - i - 1) (.slice none 0 0)),en41],HLe.refl _,(hs.sb:St H4 w (.blk b7 _:: .blk b18 _::en41::σf4)),_,rfl,by rw [g2,g3];exact .go us _ en41 h h1 hO rfl⟩
  ·obtain ⟨H5,hle5,hR,hs⟩:=bQ.dj hO (by rw [List.length_take,ob];omega) hs dJ
   rw [List.take_of_length_le (by rw [ob];omega)] at hR
   have h1':RLs H5 (us++[.slice a41 l41 c41]) (py X Y (i+1)):=by rw [zt];exact (h1.mono hle5).snoc hR
   by_cases e:i+1<X.length
   ·refine ⟨H5,[.blk b7 [.slice (some ⟨b18,0,none⟩) l1.length l1.length],.blk b18 (us++ .slice a41 l41 c41::List.replicate (X.length - i - 1) (.slice none 0 0)),.nul],hle5,(hs.nul.sb:St H5 w (.blk b7 _:: .blk b18 _:: .nul::σf4)),_,rfl,?_⟩
    rw [g2,g3]
    refine .go (us++[.slice a41 l41 c41]) (.slice none 0 0) .nul e h1' (.nil 1 none) ?_
    obtain ⟨m,hm⟩:∃m,X.length - i - 1=m+1:=⟨X.length - i - 2,aj⟩
    rw [hm,show X.length - (i+1) - 1=m by omega,List.append_assoc]
    rfl
   ·refine ⟨H5,[.blk b7 [.slice (some ⟨b18,0,none⟩) l1.length l1.length],.blk b18 (us++ .slice a41 l41 c41::List.replicate (X.length - i - 1) (.slice none 0 0))],hle5,(hs.sb:St H5 w (.blk b7 _:: .blk b18 _::σf4)),_,rfl,?_⟩
    rw [g2,g3]
    refine .fin (us++[.slice a41 l41 c41]) aj h1' ?_
    rw [show X.length - i - 1=0 by omega]
    rfl
 ·rintro D H4 σb2 w hle4 ⟨σ1,rfl,hG⟩ hs
  rw [Nat.mul_div_cancel _ aj,Nat.mul_mod_left] at hG
  cases hG with
  |go us v en h=>omega
  |fin us h h1 h3=>
  subst h3
  replace hs:St H4 w (.obj D (.deferred (some [])):: .blk b7 [.slice (some ⟨b18,0,none⟩) l1.length l1.length]:: .blk b18 us::σ):=hs
  have husl:us.length=l1.length:=by rw [h1.1,my,hXl]
  refine nB (nT ?_)
  refine .ai (.y hs (zld gZ) (.z zg (.nil ?_)))
  refine .ret ?_
  obtain ⟨H5,hle5,hR,hs⟩:=h1.bX (v:= .slice (some ⟨b18,0,none⟩) l1.length l1.length) (en:= .blk b18 us) (.full (by simp [husl])) aj hs dJ
  rw [hXl] at hR
  exact Fin.gV [D] [] hs fun w hs=>⟨_,results1 Tryz.results192 rfl,H5,hle03.trans (hle4.trans hle5),hR,hs.out⟩
theorem mc{v1 v2:Value}{l1 l2:List Int}(hs:St H w σ)(hr1:RI H v1 l1)(hr2:RI H v2 l2):
  Cl Tryz.prog 104 [v1,v2] w fun u w'=>∃H1 vo e,HLe H H1∧u= .tuple #[vo,I e]∧(gx 9 100000 l1∧gx 7 15000 l2→e=0∧RT H1 vo (py (wts l1) (wts l2) l1.length))∧(e=0→gx 9 100000 l1∧gx 7 15000 l2)∧St H1 w' σ:=by
 refine Cl.o Tryz.func104 Tryz.ntmps104 ag2 ?_
 refine .ai (.z zg (.z zg (.nil (.seq (.ai (.z zm (.z zm ?_)))))))
 refine .o (.call Tryz.call191 rfl (pY hs hr1 hr2) ?_);rintro _ w ⟨b8,rfl,hb8,hs⟩
 refine .z iU (.nil ?_)
 refine (.cond rfl (fun hc9=>?_) (fun hc9=>?_))
 ·refine .ai (.z zg (.z zg (.nil ?_)))
  refine .ret (rT (Fin.oH Tryz.results104 rfl rfl ?_))
  exact ⟨H,_,_,HLe.refl H,rfl,fun h=>(by rw [hb8.2 h] at hc9;cases hc9),fun h=>aj,hs⟩
 ·refine .skip ?_
  refine nT ?_
  refine .ai (.z zm (.z zm ?_))
  have hp:=hb8.1 (by simpa using hc9)
  refine .o (.call Tryz.call192 rfl (rN hs hr1 hr2 hp.1 hp.2) ?_);rintro v12 w ⟨H1,hle1,hR,hs⟩
  refine .z zg (.z zg (.nil ?_))
  refine .ret (Fin.oH Tryz.results104 rfl rfl ?_)
  exact ⟨H1,_,_,hle1,rfl,fun _=>⟨rfl,hR⟩,fun _=>hp,hs⟩
theorem bq{a0 a1 a2:Int}(hs:St H w σ):Cl Tryz.prog 105 [I a0,I a1,I a2] w fun v w'=>v= .bool (decide (a1≤a0∧a0≤a2))∧St H w' σ:=by
 refine Cl.o Tryz.func105 Tryz.ntmps105 ag3 ?_
 refine .ai (.z zg (.nil (.ai (.z zm (.z zm (.z vA (.z zm ?_)))))))
 refine .j7 (t':=10) rfl (fun hb10=>?_) (fun hb10=>?_)
 ·refine .gT rfl rfl ?_
  refine .z zm ?_
  refine .gT rfl rfl ?_
  refine .z zm ?_
  refine .gT rfl rfl ?_
  refine .z vA (.z zpT (.z zg (.nil ?_)))
  refine .ret (Fin.bD Tryz.results105 rfl ?_)
  exact ⟨by simp [*],hs.out⟩
 ·refine .gFs 3 3 true rfl rfl rfl ?_
  refine .z zpF (.z zg (.nil ?_))
  refine .ret (Fin.bD Tryz.results105 rfl ?_)
  exact ⟨by simp [*],hs.out⟩
theorem gn{a0:Int}(hs:St H w σ):Cl Tryz.prog 106 [I a0] w fun v w'=>v= .bool (decide (1≤a0∧a0≤99999))∧St H w' σ:=by
 refine Cl.o Tryz.func106 Tryz.ntmps106 ag1 ?_
 refine .ai (.z zg (.nil (.ai (.z zm ?_))))
 refine .o (.call cZ rfl (bq hs) ?_);rintro _ w ⟨rfl,hs⟩
 refine .z zg (.nil ?_)
 refine .ret (Fin.bD Tryz.results106 rfl ?_)
 exact ⟨rfl,hs⟩
theorem ir{s:Spc}{vst vwa:Value}(hs:St H w σ)(h1:RI H vst s.st)(h2:RI H vwa s.wa):
  Cl Tryz.prog 41 [.agg #[I s.id,I s.src,vst,vwa,I s.al,I s.up]] w fun v w'=>∃H1 e,HLe H H1∧v=I e∧((fW s∧e=0)∨(¬fW s∧e=30))∧St H1 w' σ:=by
 obtain ⟨ast,cst,rfl⟩:=RI.shape h1
 obtain ⟨awa,cwa,rfl⟩:=RI.shape h2
 refine Cl.o Tryz.func41 Tryz.ntmps41 ag1 ?_
 refine .ai ?_
 refine .bx hs fun b1 w hs=>?_
 refine .z zg (.nil (.seq (.ai (.z (zfa bB) (.y hs (zld ak) (.z (zfa br) (.y hs (zld ak) ?_)))))))
 refine .o (.call Tryz.call104 rfl (mc hs h1 h2) ?_);rintro _ w ⟨H1,vo,e,hle1,rfl,hG,hG',hs⟩
 refine .z zm (.z zex (.z zex (.z zg (.z zg (.nil (.ai (.z zm (.z fP (.z zm ?_)))))))))
 refine .Ba (t':=15) rfl (fun hb15=>?_) (fun hb15=>?_)
 ·refine .gFs 4 2 false rfl rfl rfl ?_
  refine .z zpT (.z zm ?_)
  refine .gFs 4 8 false rfl rfl rfl ?_
  refine .z zpT (.z zm ?_)
  refine .gFs 5 14 false rfl rfl rfl ?_
  refine .z zpT (.z zm ?_)
  refine .gFs 5 21 false rfl rfl rfl ?_
  refine .z zpT (.nil ?_)
  refine (.cT ?_)
  refine .ai (.z zg (.nil ?_))
  refine .ret (rT (Fin.bD th rfl ?_))
  exact ⟨H1,_,hle1,rfl,.inr ⟨fun h=>by have:=(hG ⟨h.st,h.wa⟩).1;simp_all,rfl⟩,hs.out⟩
 ·refine .gT rfl rfl ?_
  refine .z (zfa s7) ?_
  refine .gT rfl rfl ?_
  refine .y hs (zld ae) ?_
  refine .gT rfl rfl ?_
  refine .o (.call cZ rfl (bq hs) ?_);rintro _ w ⟨rfl,hs⟩
  refine .gT rfl rfl ?_
  refine .z iU (.z zpF (.z zm ?_))
  refine .bif (t':=21) rfl (fun hb21=>?_) (fun hb21=>?_)
  ·refine .gFs 4 8 false rfl rfl rfl ?_
   refine .z zpT (.z zm ?_)
   refine .gFs 5 14 false rfl rfl rfl ?_
   refine .z zpT (.z zm ?_)
   refine .gFs 5 21 false rfl rfl rfl ?_
   refine .z zpT (.nil ?_)
   refine (.cT ?_)
   refine .ai (.z zg (.nil ?_))
   refine .ret (rT (Fin.bD th rfl ?_))
   exact ⟨H1,_,hle1,rfl,.inr ⟨fun h=>by have:=h.id;simp_all,rfl⟩,hs.out⟩
  ·refine .gT rfl rfl ?_
   refine .z (zfa c8) ?_
   refine .gT rfl rfl ?_
   refine .y hs (zld ae) ?_
   refine .gT rfl rfl ?_
   refine .o (.call Tryz.call106 rfl (gn hs) ?_);rintro _ w ⟨rfl,hs⟩
   refine .gT rfl rfl ?_
   refine .z iU (.z zpF (.z zm ?_))
   refine .bif (t':=27) rfl (fun hb27=>?_) (fun hb27=>?_)
   ·refine .gFs 5 14 false rfl rfl rfl ?_
    refine .z zpT (.z zm ?_)
    refine .gFs 5 21 false rfl rfl rfl ?_
    refine .z zpT (.nil ?_)
    refine (.cT ?_)
    refine .ai (.z zg (.nil ?_))
    refine .ret (rT (Fin.bD th rfl ?_))
    exact ⟨H1,_,hle1,rfl,.inr ⟨fun h=>by have:=h.src;simp_all,rfl⟩,hs.out⟩
   ·refine .gT rfl rfl ?_
    refine .z (zfa fa) ?_
    refine .gT rfl rfl ?_
    refine .z (zfa lB) ?_
    refine .gT rfl rfl ?_
    refine .y hs (zld ae) ?_
    refine .gT rfl rfl ?_
    refine .o (.call cZ rfl (bq hs) ?_);rintro _ w ⟨rfl,hs⟩
    refine .gT rfl rfl ?_
    refine .z iU (.z zpF (.z zm ?_))
    refine .bif (t':=34) rfl (fun hb34=>?_) (fun hb34=>?_)
    ·refine .gFs 5 21 false rfl rfl rfl ?_
     refine .z zpT (.nil ?_)
     refine (.cT ?_)
     refine .ai (.z zg (.nil ?_))
     refine .ret (rT (Fin.bD th rfl ?_))
     exact ⟨H1,_,hle1,rfl,.inr ⟨fun h=>by have:=h.al;simp_all,rfl⟩,hs.out⟩
    ·refine .gT rfl rfl ?_
     refine .z (zfa fa) ?_
     refine .gT rfl rfl ?_
     refine .z (zfa lA) ?_
     refine .gT rfl rfl ?_
     refine .y hs (zld ae) ?_
     refine .gT rfl rfl ?_
     refine .o (.call cZ rfl (bq hs) ?_);rintro _ w ⟨rfl,hs⟩
     refine .gT rfl rfl ?_
     refine .z iU (.z zpF (.nil ?_))
     refine (.cond rfl (fun hc40=>?_) (fun hc40=>?_))
     ·refine .ai (.z zg (.nil ?_))
      refine .ret (rT (Fin.bD th rfl ?_))
      exact ⟨H1,_,hle1,rfl,.inr ⟨fun h=>by have:=h.up;simp_all,rfl⟩,hs.out⟩
     ·refine .skip ?_
      refine nT ?_
      refine .ai (.z zg (.nil ?_))
      refine .ret (Fin.bD th rfl ?_)
      have hg:=hG' (by simp_all)
      exact ⟨H1,_,hle1,rfl,.inl ⟨⟨hg.1,hg.2,by simp_all,by simp_all,by simp_all,by simp_all⟩,rfl⟩,hs.out⟩
theorem iI{s:Spc}{r:Rdg}{vst vwa:Value}(hs:St H w σ)(h1:RI H vst s.st)(h2:RI H vwa s.wa):
  Cl Tryz.prog 107 [.agg #[I s.id,I s.src,vst,vwa,I s.al,I s.up],.agg #[I r.src,I r.st,I r.wa,I r.val,I r.tol,I r.tape,I r.day]] w fun v w'=>∃b:Bool,v= .bool b∧(b=true↔jC s r)∧St H w' σ:=by
 obtain ⟨ast,cst,rfl⟩:=RI.shape h1
 obtain ⟨awa,cwa,rfl⟩:=RI.shape h2
 have l1:=(RI.len h1).2.2
 have l2:=(RI.len h2).2.2
 refine Cl.o Tryz.func107 Tryz.ntmps107 ag2 ?_
 refine .ai ?_
 refine .bx hs fun b2 w hs=>?_
 refine .bx hs fun b3 w hs=>?_
 refine .z zg (.nil (.ai (.z (zfa eR) (.y hs (zld ae) ?_))))
 refine .o (.call Tryz.call106 rfl (gn hs) ?_);rintro _ w ⟨rfl,hs⟩
 refine .z zm ?_
 refine .bif (t':=8) rfl (fun hb8=>?_) (fun hb8=>?_)
 ·refine .gT rfl rfl ?_
  refine .z (zfa eQ) ?_
  refine .gT rfl rfl ?_
  refine .y hs (zld ae) ?_
  refine .gT rfl rfl ?_
  refine .z (zfa bB) ?_
  refine .gT rfl rfl ?_
  refine .y hs (zld ak) ?_
  refine .gT rfl rfl ?_
  refine .z (cS ad) ?_
  refine .gT rfl rfl ?_
  refine .z iK ?_
  refine .gT rfl rfl ?_
  refine .o (.call cZ rfl (bq hs) ?_);rintro _ w ⟨rfl,hs⟩
  refine .z zpT (.z zm ?_)
  refine .bif (t':=17) rfl (fun hb17=>?_) (fun hb17=>?_)
  ·refine .gT rfl rfl ?_
   refine .z (zfa eP) ?_
   refine .gT rfl rfl ?_
   refine .y hs (zld ae) ?_
   refine .gT rfl rfl ?_
   refine .z (zfa br) ?_
   refine .gT rfl rfl ?_
   refine .y hs (zld ak) ?_
   refine .gT rfl rfl ?_
   refine .z (cS ad) ?_
   refine .gT rfl rfl ?_
   refine .z iK ?_
   refine .gT rfl rfl ?_
   refine .o (.call cZ rfl (bq hs) ?_);rintro _ w ⟨rfl,hs⟩
   refine .z zpT (.z zm ?_)
   refine .bif (t':=26) rfl (fun hb26=>?_) (fun hb26=>?_)
   ·refine .gT rfl rfl ?_
    refine .z (zfa cm) ?_
    refine .gT rfl rfl ?_
    refine .y hs (zld ae) ?_
    refine .gT rfl rfl ?_
    refine .o (.call cZ rfl (bq hs) ?_);rintro _ w ⟨rfl,hs⟩
    refine .z zpT (.z zm ?_)
    refine .bif (t':=31) rfl (fun hb31=>?_) (fun hb31=>?_)
    ·refine .gT rfl rfl ?_
     refine .z (zfa dM) ?_
     refine .gT rfl rfl ?_
     refine .y hs (zld ae) ?_
     refine .gT rfl rfl ?_
     refine .z (zfa cm) ?_
     refine .gT rfl rfl ?_
     refine .y hs (zld ae) ?_
     refine .gT rfl rfl ?_
     have ht:0≤r.tol∧r.tol≤1000:=by simp_all
     refine .z iK ?_
     refine .gT rfl rfl ?_
     refine .o (.call cZ rfl (bq hs) ?_);rintro _ w ⟨rfl,hs⟩
     refine .z zpT (.z zm ?_)
     refine .bif (t':=39) rfl (fun hb39=>?_) (fun hb39=>?_)
     ·refine .gT rfl rfl ?_
      refine .z (zfa eg) ?_
      refine .gT rfl rfl ?_
      refine .y hs (zld ae) ?_
      refine .gT rfl rfl ?_
      refine .o (.call cZ rfl (bq hs) ?_);rintro _ w ⟨rfl,hs⟩
      refine .z zpT (.z zm ?_)
      refine .bif (t':=44) rfl (fun hb44=>?_) (fun hb44=>?_)
      ·refine .gT rfl rfl ?_
       refine .z (zfa ef) ?_
       refine .gT rfl rfl ?_
       refine .y hs (zld ae) ?_
       refine .gT rfl rfl ?_
       refine .o (.call cZ rfl (bq hs) ?_);rintro _ w ⟨rfl,hs⟩
       refine .z zpT (.z zg (.nil ?_))
       refine .ret (Fin.bD lQ rfl ?_)
       first
       |exact ⟨false,rfl,⟨fun h=>(by cases h),fun h=>(by obtain ⟨g1,g2,g3,g4,g5,g6,g7⟩:=h;simp_all;done)⟩,hs.out⟩
       |exact ⟨_,rfl,⟨fun h=>⟨by simp_all,by simp_all,by simp_all,by simp_all,by simp_all,by simp_all,by simpa using h⟩,fun h=>by simpa using h.day⟩,hs.out⟩
      ·refine .gFs 3 39 true rfl rfl rfl ?_
       refine .z zpF (.z zg (.nil ?_))
       refine .ret (Fin.bD lQ rfl ?_)
       first
       |exact ⟨false,rfl,⟨fun h=>(by cases h),fun h=>(by obtain ⟨g1,g2,g3,g4,g5,g6,g7⟩:=h;simp_all;done)⟩,hs.out⟩
       |exact ⟨_,rfl,⟨fun h=>⟨by simp_all,by simp_all,by simp_all,by simp_all,by simp_all,by simp_all,by simpa using h⟩,fun h=>by simpa using h.day⟩,hs.out⟩
     ·refine .gFs 3 34 true rfl rfl rfl ?_
      refine .z zpF (.z zm ?_)
      refine .gFs 3 39 true rfl rfl rfl ?_
      refine .z zpF (.z zg (.nil ?_))
      refine .ret (Fin.bD lQ rfl ?_)
      first
      |exact ⟨false,rfl,⟨fun h=>(by cases h),fun h=>(by obtain ⟨g1,g2,g3,g4,g5,g6,g7⟩:=h;simp_all;done)⟩,hs.out⟩
      |exact ⟨_,rfl,⟨fun h=>⟨by simp_all,by simp_all,by simp_all,by simp_all,by simp_all,by simp_all,by simpa using h⟩,fun h=>by simpa using h.day⟩,hs.out⟩
    ·refine .gFs 6 26 true rfl rfl rfl ?_
     refine .z zpF (.z zm ?_)
     refine .gFs 3 34 true rfl rfl rfl ?_
     refine .z zpF (.z zm ?_)
     refine .gFs 3 39 true rfl rfl rfl ?_
     refine .z zpF (.z zg (.nil ?_))
     refine .ret (Fin.bD lQ rfl ?_)
     first
     |exact ⟨false,rfl,⟨fun h=>(by cases h),fun h=>(by obtain ⟨g1,g2,g3,g4,g5,g6,g7⟩:=h;simp_all;done)⟩,hs.out⟩
     |exact ⟨_,rfl,⟨fun h=>⟨by simp_all,by simp_all,by simp_all,by simp_all,by simp_all,by simp_all,by simpa using h⟩,fun h=>by simpa using h.day⟩,hs.out⟩
   ·refine .gFs 3 21 true rfl rfl rfl ?_
    refine .z zpF (.z zm ?_)
    refine .gFs 6 26 true rfl rfl rfl ?_
    refine .z zpF (.z zm ?_)
    refine .gFs 3 34 true rfl rfl rfl ?_
    refine .z zpF (.z zm ?_)
    refine .gFs 3 39 true rfl rfl rfl ?_
    refine .z zpF (.z zg (.nil ?_))
    refine .ret (Fin.bD lQ rfl ?_)
    first
    |exact ⟨false,rfl,⟨fun h=>(by cases h),fun h=>(by obtain ⟨g1,g2,g3,g4,g5,g6,g7⟩:=h;simp_all;done)⟩,hs.out⟩
    |exact ⟨_,rfl,⟨fun h=>⟨by simp_all,by simp_all,by simp_all,by simp_all,by simp_all,by simp_all,by simpa using h⟩,fun h=>by simpa using h.day⟩,hs.out⟩
  ·refine .gFs 7 12 true rfl rfl rfl ?_
   refine .z zpF (.z zm ?_)
   refine .gFs 3 21 true rfl rfl rfl ?_
   refine .z zpF (.z zm ?_)
   refine .gFs 6 26 true rfl rfl rfl ?_
   refine .z zpF (.z zm ?_)
   refine .gFs 3 34 true rfl rfl rfl ?_
   refine .z zpF (.z zm ?_)
   refine .gFs 3 39 true rfl rfl rfl ?_
   refine .z zpF (.z zg (.nil ?_))
   refine .ret (Fin.bD lQ rfl ?_)
   first
   |exact ⟨false,rfl,⟨fun h=>(by cases h),fun h=>(by obtain ⟨g1,g2,g3,g4,g5,g6,g7⟩:=h;simp_all;done)⟩,hs.out⟩
   |exact ⟨_,rfl,⟨fun h=>⟨by simp_all,by simp_all,by simp_all,by simp_all,by simp_all,by simp_all,by simpa using h⟩,fun h=>by simpa using h.day⟩,hs.out⟩
 ·refine .gFs 7 3 true rfl rfl rfl ?_
  refine .z zpF (.z zm ?_)
  refine .gFs 7 12 true rfl rfl rfl ?_
  refine .z zpF (.z zm ?_)
  refine .gFs 3 21 true rfl rfl rfl ?_
  refine .z zpF (.z zm ?_)
  refine .gFs 6 26 true rfl rfl rfl ?_
  refine .z zpF (.z zm ?_)
  refine .gFs 3 34 true rfl rfl rfl ?_
  refine .z zpF (.z zm ?_)
  refine .gFs 3 39 true rfl rfl rfl ?_
  refine .z zpF (.z zg (.nil ?_))
  refine .ret (Fin.bD lQ rfl ?_)
  first
  |exact ⟨false,rfl,⟨fun h=>(by cases h),fun h=>(by obtain ⟨g1,g2,g3,g4,g5,g6,g7⟩:=h;simp_all;done)⟩,hs.out⟩
  |exact ⟨_,rfl,⟨fun h=>⟨by simp_all,by simp_all,by simp_all,by simp_all,by simp_all,by simp_all,by simpa using h⟩,fun h=>by simpa using h.day⟩,hs.out⟩
theorem lY{c:Cmp}(hs:St H w σ):
  Cl Tryz.prog 108 [.agg #[I c.src,I c.tape,I c.fr,I c.to,I c.lo,I c.hi]] w fun v w'=>∃b:Bool,v= .bool b∧(b=true↔rj c)∧St H w' σ:=by
 refine Cl.o Tryz.func108 Tryz.ntmps108 ag1 ?_
 refine .ai ?_
 refine .bx hs fun b1 w hs=>?_
 refine .z zg (.nil (.ai (.z (zfa fK) (.y hs (zld ae) ?_))))
 refine .o (.call Tryz.call106 rfl (gn hs) ?_);rintro _ w ⟨rfl,hs⟩
 refine .z zm ?_
 refine .bif (t':=6) rfl (fun hb6=>?_) (fun hb6=>?_)
 ·refine .gT rfl rfl ?_
  refine .z (zfa jx) ?_
  refine .gT rfl rfl ?_
  refine .y hs (zld ae) ?_
  refine .gT rfl rfl ?_
  refine .o (.call cZ rfl (bq hs) ?_);rintro _ w ⟨rfl,hs⟩
  refine .z zpT (.z zm ?_)
  refine .bif (t':=11) rfl (fun hb11=>?_) (fun hb11=>?_)
  ·refine .gT rfl rfl ?_
   refine .z (zfa jw) ?_
   refine .gT rfl rfl ?_
   refine .y hs (zld ae) ?_
   refine .gT rfl rfl ?_
   refine .z (zfa gP) ?_
   refine .gT rfl rfl ?_
   refine .y hs (zld ae) ?_
   refine .gT rfl rfl ?_
   refine .o (.call cZ rfl (bq hs) ?_);rintro _ w ⟨rfl,hs⟩
   refine .z zpT (.z zm ?_)
   refine .bif (t':=18) rfl (fun hb18=>?_) (fun hb18=>?_)
   ·refine .gT rfl rfl ?_
    refine .z (zfa gP) ?_
    refine .gT rfl rfl ?_
    refine .y hs (zld ae) ?_
    refine .gT rfl rfl ?_
    refine .o (.call cZ rfl (bq hs) ?_);rintro _ w ⟨rfl,hs⟩
    refine .z zpT (.z zm ?_)
    refine .bif (t':=23) rfl (fun hb23=>?_) (fun hb23=>?_)
    ·refine .gT rfl rfl ?_
     refine .z (zfa jv) ?_
     refine .gT rfl rfl ?_
     refine .y hs (zld ae) ?_
     refine .gT rfl rfl ?_
     refine .z (zfa gO) ?_
     refine .gT rfl rfl ?_
     refine .y hs (zld ae) ?_
     refine .gT rfl rfl ?_
     refine .o (.call cZ rfl (bq hs) ?_);rintro _ w ⟨rfl,hs⟩
     refine .z zpT (.z zm ?_)
     refine .bif (t':=30) rfl (fun hb30=>?_) (fun hb30=>?_)
     ·refine .gT rfl rfl ?_
      refine .z (zfa gO) ?_
      refine .gT rfl rfl ?_
      refine .y hs (zld ae) ?_
      refine .gT rfl rfl ?_
      refine .o (.call cZ rfl (bq hs) ?_);rintro _ w ⟨rfl,hs⟩
      refine .z zpT (.z zg (.nil ?_))
      refine .ret (Fin.bD rn rfl ?_)
      first
      |exact ⟨false,rfl,⟨fun h=>(by cases h),fun h=>(by obtain ⟨g1,g2,g3,g4,g5,g6⟩:=h;simp_all;omega)⟩,hs.out⟩
      |exact ⟨false,rfl,⟨fun h=>(by cases h),fun h=>(by obtain ⟨g1,g2,g3,g4,g5,g6⟩:=h;simp_all;done)⟩,hs.out⟩
      |exact ⟨_,rfl,⟨fun h=>⟨by simp_all,by simp_all,by simp_all,by simp_all,by simp_all,(by simpa using h:_∧_).2⟩,fun h=>by have:=h.lo;have:=h.hi;simp;omega⟩,hs.out⟩
     ·refine .gFs 3 27 true rfl rfl rfl ?_
      refine .z zpF (.z zg (.nil ?_))
      refine .ret (Fin.bD rn rfl ?_)
      first
      |exact ⟨false,rfl,⟨fun h=>(by cases h),fun h=>(by obtain ⟨g1,g2,g3,g4,g5,g6⟩:=h;simp_all;omega)⟩,hs.out⟩
      |exact ⟨false,rfl,⟨fun h=>(by cases h),fun h=>(by obtain ⟨g1,g2,g3,g4,g5,g6⟩:=h;simp_all;done)⟩,hs.out⟩
      |exact ⟨_,rfl,⟨fun h=>⟨by simp_all,by simp_all,by simp_all,by simp_all,by simp_all,(by simpa using h:_∧_).2⟩,fun h=>by have:=h.lo;have:=h.hi;simp;omega⟩,hs.out⟩
    ·refine .gFs 5 20 true rfl rfl rfl ?_
     refine .z zpF (.z zm ?_)
     refine .gFs 3 27 true rfl rfl rfl ?_
     refine .z zpF (.z zg (.nil ?_))
     refine .ret (Fin.bD rn rfl ?_)
     first
     |exact ⟨false,rfl,⟨fun h=>(by cases h),fun h=>(by obtain ⟨g1,g2,g3,g4,g5,g6⟩:=h;simp_all;omega)⟩,hs.out⟩
     |exact ⟨false,rfl,⟨fun h=>(by cases h),fun h=>(by obtain ⟨g1,g2,g3,g4,g5,g6⟩:=h;simp_all;done)⟩,hs.out⟩
     |exact ⟨_,rfl,⟨fun h=>⟨by simp_all,by simp_all,by simp_all,by simp_all,by simp_all,(by simpa using h:_∧_).2⟩,fun h=>by have:=h.lo;have:=h.hi;simp;omega⟩,hs.out⟩
   ·refine .gFs 3 15 true rfl rfl rfl ?_
    refine .z zpF (.z zm ?_)
    refine .gFs 5 20 true rfl rfl rfl ?_
    refine .z zpF (.z zm ?_)
    refine .gFs 3 27 true rfl rfl rfl ?_
    refine .z zpF (.z zg (.nil ?_))
    refine .ret (Fin.bD rn rfl ?_)
    first
    |exact ⟨false,rfl,⟨fun h=>(by cases h),fun h=>(by obtain ⟨g1,g2,g3,g4,g5,g6⟩:=h;simp_all;omega)⟩,hs.out⟩
    |exact ⟨false,rfl,⟨fun h=>(by cases h),fun h=>(by obtain ⟨g1,g2,g3,g4,g5,g6⟩:=h;simp_all;done)⟩,hs.out⟩
    |exact ⟨_,rfl,⟨fun h=>⟨by simp_all,by simp_all,by simp_all,by simp_all,by simp_all,(by simpa using h:_∧_).2⟩,fun h=>by have:=h.lo;have:=h.hi;simp;omega⟩,hs.out⟩
  ·refine .gFs 5 8 true rfl rfl rfl ?_
   refine .z zpF (.z zm ?_)
   refine .gFs 3 15 true rfl rfl rfl ?_
   refine .z zpF (.z zm ?_)
   refine .gFs 5 20 true rfl rfl rfl ?_
   refine .z zpF (.z zm ?_)
   refine .gFs 3 27 true rfl rfl rfl ?_
   refine .z zpF (.z zg (.nil ?_))
   refine .ret (Fin.bD rn rfl ?_)
   first
   |exact ⟨false,rfl,⟨fun h=>(by cases h),fun h=>(by obtain ⟨g1,g2,g3,g4,g5,g6⟩:=h;simp_all;omega)⟩,hs.out⟩
   |exact ⟨false,rfl,⟨fun h=>(by cases h),fun h=>(by obtain ⟨g1,g2,g3,g4,g5,g6⟩:=h;simp_all;done)⟩,hs.out⟩
   |exact ⟨_,rfl,⟨fun h=>⟨by simp_all,by simp_all,by simp_all,by simp_all,by simp_all,(by simpa using h:_∧_).2⟩,fun h=>by have:=h.lo;have:=h.hi;simp;omega⟩,hs.out⟩
 ·refine .gFs 3 3 true rfl rfl rfl ?_
  refine .z zpF (.z zm ?_)
  refine .gFs 5 8 true rfl rfl rfl ?_
  refine .z zpF (.z zm ?_)
  refine .gFs 3 15 true rfl rfl rfl ?_
  refine .z zpF (.z zm ?_)
  refine .gFs 5 20 true rfl rfl rfl ?_
  refine .z zpF (.z zm ?_)
  refine .gFs 3 27 true rfl rfl rfl ?_
  refine .z zpF (.z zg (.nil ?_))
  refine .ret (Fin.bD rn rfl ?_)
  first
  |exact ⟨false,rfl,⟨fun h=>(by cases h),fun h=>(by obtain ⟨g1,g2,g3,g4,g5,g6⟩:=h;simp_all;omega)⟩,hs.out⟩
  |exact ⟨false,rfl,⟨fun h=>(by cases h),fun h=>(by obtain ⟨g1,g2,g3,g4,g5,g6⟩:=h;simp_all;done)⟩,hs.out⟩
  |exact ⟨_,rfl,⟨fun h=>⟨by simp_all,by simp_all,by simp_all,by simp_all,by simp_all,(by simpa using h:_∧_).2⟩,fun h=>by have:=h.lo;have:=h.hi;simp;omega⟩,hs.out⟩
theorem fj{s:Spc}{vst vwa:Value}(hs:St H w σ)(h1:RI H vst s.st)(h2:RI H vwa s.wa)(hb:s.st.length≤1000∧s.wa.length≤1000):
  Cl Tryz.prog 91 [.agg #[I s.id,I s.src,vst,vwa,I s.al,I s.up]] w fun v w'=>v=I (s.many:Int)∧St H w' σ:=by
 obtain ⟨ast,cst,rfl⟩:=RI.shape h1
 obtain ⟨awa,cwa,rfl⟩:=RI.shape h2
 have hm:=mu (a:=(s.st.length:Int)) (b:=(s.wa.length:Int)) (A:=1000) (B:=1000) aj aj
 refine Cl.o Tryz.func91 Tryz.ntmps91 ag1 ?_
 refine .ai ?_
 refine .bx hs fun b1 w hs=>?_
 refine .z zg (.nil (.ai (.z (zfa bB) (.y hs (zld ak) (.z (cS ad) (.z (zfa br) (.y hs (zld ak) (.z (cS ad) (.z lG ?_)))))))))
 refine .z zg (.nil ?_)
 refine .ret (Fin.bD Tryz.results91 rfl ?_)
 exact ⟨by unfold Spc.many;rw [Int.natCast_mul],hs.out⟩
theorem jF{s:Spc}{vst vwa:Value}{a b:Int}(hs:St H w σ)(h2:RI H vwa s.wa)(hb:s.wa.length≤1000)(ha: -1000≤a∧a≤1000)(hb': -1000≤b∧b≤1000):
  Cl Tryz.prog 118 [.agg #[I s.id,I s.src,vst,vwa,I s.al,I s.up],I a,I b] w fun v w'=>v=I (1+a*s.wa.length+b)∧St H w' σ:=by
 obtain ⟨awa,cwa,rfl⟩:=RI.shape h2
 have hm:=mu (a:=a) (b:=(s.wa.length:Int)) (A:=1000) (B:=1000) aj aj
 refine Cl.o Tryz.func118 Tryz.ntmps118 ag3 ?_
 refine .ai ?_
 refine .bx hs fun b3 w hs=>?_
 refine .z zg (.nil (.ai (.z zm (.z (zfa br) (.y hs (zld ak) (.z (cS ad) (.z lG (.z cC (.z zm ?_)))))))))
 refine .z cC (.z zg (.nil ?_))
 refine .ret (Fin.bD Tryz.results118 rfl ?_)
 exact ⟨rfl,hs.out⟩
theorem eF{r:Rdg}(hs:St H w σ):
  Cl Tryz.prog 114 [.agg #[I r.src,I r.st,I r.wa,I r.val,I r.tol,I r.tape,I r.day]] w fun v w'=>v= .agg #[I r.tape,I r.day]∧St H w' σ:=by
 refine Cl.o Tryz.func114 Tryz.ntmps114 ag1 ?_
 refine .ai ?_
 refine .bx hs fun b1 w hs=>?_
 refine .o (.alloc hs kK rfl fun b2 w hs=>?_)
 refine .nil (.ai (.z (zfa eg) (.y hs (zld ae) (.z (zfa ef) (.y hs (zld ae) (.z (zbd [_,_] fm) ?_))))))
 refine .o (.aQ (vs:=[_,_]) hs rfl rfl bk fun w hs=>?_)
 refine .nil ?_
 refine .ret ?_
 exact Fin.gV [] [] hs fun w hs=>⟨_,results1 Tryz.results114 (di (vs:=[_,_]) hs rfl cP bk),rfl,hs.out⟩
theorem kS{a b:Int}(hs:St H w σ)(ha:0≤a∧a≤100000)(hb:0≤b∧b≤100000):
  Cl Tryz.prog 230 [I a,I b] w fun v w'=>v=I (jt a b)∧St H w' σ:=by
 have hm:=mu (a:=a) (b:=b) (A:=100000) (B:=100000) aj aj
 have h0:=Int.mul_nonneg ha.1 hb.1
 have hq0:0≤(a*b+999).tdiv 1000:=Int.tdiv_nonneg aj aj
 have hq1:(a*b+999).tdiv 1000≤a*b+999:=by rw [Int.tdiv_eq_ediv_of_nonneg aj];omega
 refine Cl.o Tryz.func230 Tryz.ntmps230 ag2 ?_
 refine .ai (.z zg (.nil (.ai (.z zm (.z zm (.z lG (.z cC ?_)))))))
 refine .q hs (xZ rfl rfl aj aj) ?_
 refine .z Bv (.z zg (.nil ?_))
 refine .ret (Fin.bD Tryz.results230 rfl ?_)
 exact ⟨rfl,hs⟩
def sX(s:Spc):List (List Value):=(List.range s.many).map fun p=>[Value.agg #[I ((p/s.wa.length:Nat):Int),I ((p%s.wa.length:Nat):Int),I ((p+1:Nat):Int)]]
theorem dd(s:Spc):(sX s).length=s.many:=by simp [sX]
theorem kv{s:Spc}{p:Nat}(h:p<(sX s).length):(sX s)[p]=[Value.agg #[I ((p/s.wa.length:Nat):Int),I ((p%s.wa.length:Nat):Int),I ((p+1:Nat):Int)]]:=by simp [sX]
theorem o6{H:bJ}{b:Nat}{s:Spc}{vst vwa:Value}(hb:Row H b [I s.id,I s.src,vst,vwa,I s.al,I s.up])(h1:RI H vst s.st)(h2:RI H vwa s.wa)(hbd:s.st.length≤1000∧s.wa.length≤1000):
  Iter Tryz.prog 190 [.pointer (some ⟨b,0,none⟩)] H (sX s):=by
 intro ly II Ix hmI _ hy H0 σb0 σf w hle hI0 hs
 obtain ⟨ast,cst,rfl⟩:=RI.shape h1
 obtain ⟨awa,cwa,rfl⟩:=RI.shape h2
 have g2:cellAt H0 b 2=some (.slice ast s.st.length cst):=cellAt.mono (hb.at 2) hle
 have g3:cellAt H0 b 3=some (.slice awa s.wa.length cwa):=cellAt.mono (hb.at 3) hle
 have hm:s.many≤1000000:=Nat.mul_le_mul hbd.1 hbd.2
 refine Cl.o Tryz.func190 Tryz.ntmps190 ag2 ?_
 refine .ai (.z zg (.nil (.ai (.z (zfa bB) (.y hs (zld ak) (.z (cS ad) (.z zm (.nil ?_))))))))
 refine .for (N:=s.st.length) (J:=fun i fr w=>fr=[(3,I ((i*s.wa.length:Nat):Int)),(0,.func (.yield ly) #[] #[]),(1,.pointer (some ⟨b,0,none⟩))]∧∃H1 σb,HLe H H1∧HLe H0 H1∧II (i*s.wa.length) H1 σb∧St H1 w (σb++σf)) aj ?_ ?_ ?_
 ·exact .mk ⟨by rw [Nat.zero_mul],H0,σb0,hle,HLe.refl _,by rw [Nat.zero_mul];exact hI0,hs⟩
 ·rintro i fr w hi ⟨rfl,H1,σb,hle1,hle0,hI,hs⟩
  have h23:=cellAt.mono g3 hle0
  refine .block (.ai (.z zm (.z zg (.nil (.ai (.z (zfa br) (.y hs (zld ak) (.z (cS ad) (.z zm ?_)))))))))
  refine .nil ?_
  refine .for (N:=s.wa.length) (J:=fun k fr w=>fr=[(3,I ((i*s.wa.length+k:Nat):Int)),(4,I (i:Int)),(9,I (i:Int)),(8,I (s.st.length:Int)),(0,.func (.yield ly) #[] #[]),(1,.pointer (some ⟨b,0,none⟩))]∧∃H3 σb,HLe H1 H3∧II (i*s.wa.length+k) H3 σb∧St H3 w (σb++σf)) aj ?_ ?_ ?_
  ·exact .mk ⟨rfl,H1,σb,HLe.refl _,hI,hs⟩
  ·rintro k fr w hk ⟨rfl,H3,σb3,hle3,hI3,hs⟩
   obtain ⟨d1,d2⟩:=Eu (nw:=s.wa.length) (i:=i) (k:=k) hk
   have hlt:=F9 hi hk
   refine .block (.ai (.z zm (.z zg (.nil (.ai (.z zm (.z cC (.z zg (.nil ?_)))))))))
   refine .ai (.z zm (.z zm (.z zm (.z zm (.z (zbd [_,_,_] pL) ?_)))))
   have hk':i*s.wa.length+k<(sX s).length:=by rw [dd];exact hlt
   have hyd:=hy (i*s.wa.length+k) hk' H3 σb3 σf w (hle1.trans hle3) hI3 hs
   rw [kv hk',d1,d2,show ((i*s.wa.length+k+1:Nat):Int)=((i*s.wa.length+k:Nat):Int)+1 by omega] at hyd
   refine .o (.yield rfl rfl hyd ?_);rintro v25 w ⟨H5,σ5,g1,hs,g3'⟩
   obtain ⟨bb,rfl,gT,gF⟩:=nR g3'
   refine .z iU (.nil ?_)
   refine (.cond rfl (fun hc26=>?_) (fun hc26=>?_))
   ·refine .ret (rB (rT (rB (rB (rT (rB (Fin.Ez Tryz.results190 ?_)))))))
    exact ⟨H5,σ5,hle0.trans (hle3.trans g1),hs,.inr (gF (by simpa using hc26))⟩
   ·refine .skip ?_
    refine nB (nT ?_)
    exact .mk ⟨rfl,H5,σ5,hle3.trans g1,gT (by simpa using hc26),hs⟩
  ·rintro fr w ⟨rfl,H3,σb3,hle3,hI3,hs⟩
   have e:i*s.wa.length+s.wa.length=(i+1)*s.wa.length:=by rw [Nat.add_mul,Nat.one_mul]
   rw [e] at hI3 ⊢
   refine nB (nT ?_)
   exact .mk ⟨rfl,H3,σb3,hle1.trans hle3,hle0.trans hle3,hI3,hs⟩
 ·rintro fr w ⟨rfl,H1,σb,hle1,hle0,hI,hs⟩
  exact Fin.wW Tryz.results190 ⟨H1,σb,hle0,hs,.inl (by rw [dd];exact hI)⟩
theorem ed{s:Spc}{vst vwa:Value}(hs:St H w σ)(h1:RI H vst s.st)(h2:RI H vwa s.wa)(hbd:s.st.length≤1000∧s.wa.length≤1000):
  Cl Tryz.prog 103 [.agg #[I s.id,I s.src,vst,vwa,I s.al,I s.up]] w fun u w'=>∃H1 b,HLe H H1∧u= .func (.func 190) #[] #[.pointer (some ⟨b,0,none⟩)]∧Iter Tryz.prog 190 [.pointer (some ⟨b,0,none⟩)] H1 (sX s)∧St H1 w' σ:=by
 obtain ⟨ast,cst,rfl⟩:=RI.shape h1
 obtain ⟨awa,cwa,rfl⟩:=RI.shape h2
 refine Cl.o Tryz.func103 Tryz.ntmps103 ag1 ?_
 refine .ai ?_
 refine .bx hs fun b1 w hs=>?_
 refine .z zg (.nil (.ai ?_))
 refine .q hs (da (f:=[]) (c:=[_]) rfl rfl) ?_
 refine .z zg (.nil ?_)
 refine .ret (Fin.bD Tryz.results103 rfl ?_)
 obtain ⟨H1,g1,g2,hs⟩:=hs.bX .here
 exact ⟨H1,b1,g1,rfl,o6 g2 (h1.mono g1) (h2.mono g1) hbd,hs⟩
set_option maxRecDepth 100000 in
theorem oR:Tryz.prog.stoodInHeld 49=false:=by kernel_rfl
set_option maxRecDepth 100000 in
theorem oS:Tryz.prog.eqGuardType Tryz.prog.depth 49=false:=by kernel_rfl
theorem nZ{v:Value}{en:Ent}{xs:List TD}{g:Nat}{cap:List Value}(q:TD→Bool)(hs:St H w (en::σ))(hO:bQ 2 v (tdc xs).flatten en)(hl:xs.length≤1000000)(hc:∀args w,(callFunc g args).run Tryz.prog w= .ok (.enter g args) w)
  (hp:∀w (t:TD),St H w (en::σ)→Cl Tryz.prog g ([.agg #[I t.tape,I t.day]]++cap) w fun u w'=>u= .bool (q t)∧St H w' (en::σ)):
  Cl Tryz.prog 229 [v,.func (.func g) #[] cap.toArray] w fun u w'=>∃i:Int,u=I i∧(0≤i↔∃x∈xs,q x=true)∧St H w' (en::σ):=by
 obtain ⟨a,c,rfl⟩:=hO.ja (kB xs) aj
 rw [cN] at hO ⊢
 refine Cl.o Tryz.func229 Tryz.ntmps229 ag2 ?_
 refine .ai (.z zg (.nil (.seq (.ai (.z zm (.z (cS aO) (.z zm (.nil ?_))))))))
 refine .for (N:=xs.length) (J:=fun k fr w=>fr=[(1,.func (.func g) #[] cap.toArray),(0,.slice a xs.length c)]∧(∀j<k,∀y,xs[j]? =some y→¬q y=true)∧St H w (en::σ)) aj ?_ ?_ ?_
 ·exact .mk ⟨rfl,fun j hj=>by omega,hs⟩
 ·rintro k fr w hk ⟨rfl,hno,hs⟩
  obtain ⟨x,hx⟩:=nth hk
  obtain ⟨b,c',sp,hv,rfl,_⟩:=hO.Fa (kB xs) aj (by rw [cN];omega)
  rw [cN] at hv
  cases hv
  refine .block (.ai (.z zm (.z zg (.nil (.ai (.z zm (.z zm (.z zm (.z (wS aO bk) ?_)))))))))
  refine .q hs (jT (vs:=x.c) rfl cP bk .here (yf (kB xs) (w8 hx) sp)) ?_
  refine .o (.ns (first:=[]) (cap:=cap) rfl rfl hc (hp _ x hs) ?_);rintro _ w ⟨rfl,hs⟩
  refine .nil ?_
  refine (.cond rfl (fun hc16=>?_) (fun hc16=>?_))
  ·refine .ai (.z zm (.z zg (.nil ?_)))
   refine .ret (rB (rT (rB (rT (Fin.bD Tryz.results229 rfl ?_)))))
   exact ⟨_,rfl,⟨fun _=>⟨x,List.mem_of_getElem? hx,hc16⟩,fun _=>by omega⟩,hs⟩
  ·refine .skip ?_
   refine nB (nT ?_)
   exact .mk ⟨rfl,eS hno hx (by simpa using hc16),hs⟩
 ·rintro fr w ⟨rfl,hno,hs⟩
  refine nT ?_
  refine .ai (.z zg (.nil ?_))
  refine .ret (Fin.bD Tryz.results229 rfl ?_)
  exact ⟨_,rfl,⟨fun h=>by omega,fun ⟨x,h1,h2⟩=>by
   obtain ⟨j,hj⟩:=List.getElem?_of_mem h1
   exact (hno j (List.getElem?_eq_some_iff.1 hj).1 x hj h2).elim⟩,hs⟩
theorem lW{v:Value}{en:Ent}{xs:List TD}{g:Nat}{cap:List Value}(q:TD→Bool)(hs:St H w (en::σ))(hO:bQ 2 v (tdc xs).flatten en)(hl:xs.length≤1000000)(hc:∀args w,(callFunc g args).run Tryz.prog w= .ok (.enter g args) w)
  (hp:∀w (t:TD),St H w (en::σ)→Cl Tryz.prog g ([.agg #[I t.tape,I t.day]]++cap) w fun u w'=>u= .bool (q t)∧St H w' (en::σ)):
  Cl Tryz.prog 172 [v,.func (.func g) #[] cap.toArray] w fun u w'=>∃b:Bool,u= .bool b∧(b=true↔∃x∈xs,q x=true)∧St H w' (en::σ):=by
 refine Cl.o Tryz.func172 Tryz.ntmps172 ag2 ?_
 refine .ai (.z zg (.nil (.ai (.z zm (.z zm ?_)))))
 refine .o (.call Tryz.call229 rfl (nZ q hs hO hl hc hp) ?_);rintro _ w ⟨i,rfl,hi,hs⟩
 refine .z xQ (.z zg (.nil ?_))
 refine .ret (Fin.bD Tryz.results172 rfl ?_)
 exact ⟨_,rfl,by simp only [decide_eq_true_eq];exact hi,hs⟩
theorem mj{v:Value}{xs:List TD}{t:TD}(hs:St H w σ)(hr:RTd H v xs)(hl:xs.length≤1000000):
  Cl Tryz.prog 89 [v,.agg #[I t.tape,I t.day]] w fun u w'=>u=I (gH xs t)∧St H w' σ:=by
 obtain ⟨a,c,rfl⟩:=RTd.shape hr
 refine Cl.o Tryz.func89 Tryz.ntmps89 ag2 ?_
 refine .ai ?_
 refine .bx hs fun b3 w hs=>?_
 refine .z zg (.nil (.seq (.ai (.z zm (.z (cS aO) (.z zm (.nil ?_)))))))
 refine .for (N:=xs.length) (J:=fun k fr w=>fr=[(0,.slice a xs.length c),(3,.pointer (some ⟨b3,0,none⟩))]∧(∀j<k,∀y,xs[j]? =some y→¬y=t)∧St H w (.blk b3 [I t.tape,I t.day]::σ)) aj ?_ ?_ ?_
 ·exact .mk ⟨rfl,fun j hj=>by omega,hs⟩
 ·rintro k fr w hk ⟨rfl,hno,hs⟩
  obtain ⟨x,hx⟩:=nth hk
  refine .block (.ai (.z zm (.z zg (.nil ?_))))
  refine .seq (.draw mix rfl hs fun w hs=>?_)
  refine .ys 0 rfl hs [_,_] cP bk ?_;refine .z 1 rfl zm ?_;refine .z 2 rfl zm ?_
  refine .ixX (enc:=TD.c) (i:=3) hs rfl an .none hr rfl rfl aO bk hx dK ?_;intro b14 o14 hc14
  refine .r (i:=4) hs rfl an .none (bY (vs:=x.c) rfl cP bk hc14) ?_
  refine .z 5 rfl (qC oR oS fq (fun f hf=>by
   simp only [List.mem_cons,List.not_mem_nil,or_false] at hf
   rcases hf with rfl|rfl<;>exact ⟨by decide,aV,ae⟩) rfl rfl) ?_
  refine .D hs ?_
  refine (.cond rfl (fun hc16=>?_) (fun hc16=>?_))
  ·refine .ai (.z zm (.z zg (.nil ?_)))
   refine .ret (rB (rT (rB (rT (Fin.bD Tryz.results89 rfl ?_)))))
   have e:x=t:=zV.1 (by have:=of_decide_eq_true hc16;exact ⟨this.1.symm,this.2.symm⟩)
   subst e
   exact ⟨by rw [me hx fun j hj h=>hno j hj _ h rfl],hs.tail⟩
  ·refine .skip ?_
   refine nB (nT ?_)
   exact .mk ⟨rfl,eS hno hx (fun e=>by subst e;simp at hc16),hs⟩
 ·rintro fr w ⟨rfl,hno,hs⟩
  refine nT ?_
  refine .ai (.z zg (.nil ?_))
  refine .ret (Fin.bD Tryz.results89 rfl ?_)
  exact ⟨by rw [rA hno],hs.tail⟩
theorem nm{t:TD}{r:Rdg}{b:Nat}(hs:St H w σ)(hb:Row H b r.c):
  Cl Tryz.prog 173 [.agg #[I t.tape,I t.day],.pointer (some ⟨b,0,none⟩)] w fun u w'=>u= .bool (decide (t=r.td))∧St H w' σ:=by
 have hb0:bM H b 0 r.c:=hb.cells 0 r.c
 refine Cl.o Tryz.func173 Tryz.ntmps173 ag2 ?_
 refine .ai ?_
 refine .bx hs fun b2 w hs=>?_
 refine .z zg (.nil ?_)
 refine .seq (.draw mix rfl hs fun w hs=>?_)
 refine .ys 0 rfl hs [_,_] cP bk ?_;refine .ys 1 rfl hs [_,_,_,_,_,_,_] eh aW ?_
 refine .E 2 hs ?_
 refine .call F8 rfl (eF hs) ?_;rintro _ w ⟨rfl,hs⟩
 refine .go ?_
 refine .z 3 rfl (qC oR oS fq (fun f hf=>by
  simp only [List.mem_cons,List.not_mem_nil,or_false] at hf
  rcases hf with rfl|rfl<;>exact ⟨by decide,aV,ae⟩) rfl rfl) ?_
 refine .z 4 rfl zg ?_;refine .D hs ?_
 refine .ret (Fin.bD Tryz.results173 rfl ?_)
 exact ⟨by congr 1;rw [decide_eq_decide];exact zV (t:=t) (u:=r.td),hs.tail⟩
set_option maxHeartbeats 1000000 in
theorem kR{s:Srv}{vst vwa vr vc:Value}(hs:St H w σ)(hr:RRd H vr s.rs)(hl:s.rs.length≤1000000):
  Cl Tryz.prog 90 [.agg #[I s.sp.id,I s.sp.src,vst,vwa,I s.sp.al,I s.sp.up,vr,vc]] w fun u w'=>∃H1 en,HLe H H1∧bQ 2 u (tdc s.bh).flatten en∧St H1 w' (en::σ):=by
 obtain ⟨ar,cr,rfl⟩:=RRd.shape hr
 refine Cl.o Tryz.func90 Tryz.ntmps90 ag1 ?_
 refine .ai ?_
 refine .bx hs fun b1 w hs=>?_
 refine .z zg (.nil (.ai (.z zg (.nil (.seq (.ai (.z (zfa bn) (.y hs (zld cz) (.z (cS aK) ?_)))))))))
 refine .z zm (.nil ?_)
 refine .for (N:=s.rs.length) (J:=fun k fr w=>∃vo en H1,fr=[(7,.slice ar s.rs.length cr),(3,vo)]∧HLe H H1∧bQ 2 vo (tdc (aU (s.rs.take k))).flatten en∧St H1 w (en::σ)) aj ?_ ?_ ?_
 ·exact .mk ⟨_,.nul,H,rfl,HLe.refl _,.nil 2 none,hs.tail.nul⟩
 ·rintro k fr w hk ⟨vo,en,H1,rfl,hle1,hO,hs⟩
  obtain ⟨r,hx⟩:=nth hk
  have htk:=ib hx
  have htl:=jN s.rs k aj
  obtain ⟨ao,co,rfl⟩:=hO.ja (kB _) aj
  rw [cN] at hO ⊢
  refine .block (.ai ?_)
  refine .ixX (enc:=Rdg.c) hs (hr.mono hle1) rfl rfl aK aW hx dK ?_;intro b11 o11 hc11
  refine .q hs (bY (vs:=(Rdg.c r)) rfl eh aW hc11) ?_
  refine .o (.alloc hs ew rfl fun b5 w hs=>?_)
  refine .o (.aQ (vs:=r.c) hs rfl rfl aW fun w hs=>?_)
  obtain ⟨H2,hle2,r5,hs⟩:=hs.bX (b:=b5) (c:=r.c) .here
  have c5:bM H2 b5 0 r.c:=r5.cells 0 r.c
  refine .nil (.ai (.z zm ?_))
  refine .q hs (da (f:=[]) (c:=[_]) rfl rfl) ?_
  refine .o (.call Tryz.call172 rfl (lW (g:=173) (cap:=[.pointer (some ⟨b5,0,none⟩)]) (fun t=>decide (t=r.td)) hs hO aj Tryz.call173 (fun w t hs=>nm hs r5)) ?_);rintro _ w ⟨b15,rfl,hb15,hs⟩
  refine .z iU (.nil ?_)
  refine (.cond rfl (fun hc16=>?_) (fun hc16=>?_))
  ·refine .region (.z zm ?_)
   refine .q hs (bY (vs:=r.c) rfl eh aW c5) ?_
   refine .o (.call F8 rfl (eF (r:=r) hs) ?_);rintro _ w ⟨rfl,hs⟩
   refine .o (.buildSlice (cells:=[_,_]) hs fg rfl rfl fun b20 w hs=>?_)
   refine .o (.append (ys:=r.td.c) hs dm rfl rfl hO (.own .here rfl rfl) (by simp [TD.c,Value.oneCell']) (fun l h=>by rw [bO _ (kB _),cN] at h;omega) ?_);intro v21 en21 w hO2 hs
   refine .z zg (.nil ?_)
   refine nB (nT ?_)
   have hn:r.td∉aU (s.rs.take k):=fun hm=>by
    rw [hb15.2 ⟨_,hm,bR⟩] at hc16;cases hc16
   rw [←rz,show aU (s.rs.take k)++[r.td]=aU (s.rs.take (k+1)) by rw [htk];unfold nx;rw [if_neg hn]] at hO2
   exact .mk ⟨_,_,H2,rfl,hle1.trans hle2,hO2,hs.sb⟩
  ·refine .skip ?_
   refine nB (nT ?_)
   have hm:r.td∈aU (s.rs.take k):=by
    obtain ⟨x,h1,h2⟩:=hb15.1 (by simpa using hc16)
    rw [←of_decide_eq_true h2];exact h1
   exact .mk ⟨_,_,H2,rfl,hle1.trans hle2,by rw [htk];unfold nx;rw [if_pos hm];exact hO,hs⟩
 ·rintro fr w ⟨vo,en,H1,rfl,hle1,hO,hs⟩
  rw [List.take_length] at hO
  refine nT ?_
  refine .ai (.z zm (.z zg (.nil ?_)))
  refine .ret (Fin.bD Tryz.results90 rfl ?_)
  exact ⟨H1,en,hle1,hO,hs⟩
theorem fR{s:Srv}{vst vwa vr vc:Value}(hs:St H w σ)(hr:RRd H vr s.rs)(hl:s.rs.length≤1000000):
  Cl Tryz.prog 90 [.agg #[I s.sp.id,I s.sp.src,vst,vwa,I s.sp.al,I s.sp.up,vr,vc]] w fun u w'=>∃H1,HLe H H1∧RTd H1 u s.bh∧St H1 w' σ:=by
 refine (kR hs hr hl).mono ?_
 rintro u w' ⟨H1,en,hle1,hO,hs⟩
 have htl:=cI s.rs
 have htl':s.bh.length≤1000000:=by unfold Srv.bh;omega
 obtain ⟨H2,hle2,hR,hs⟩:=bQ.bX (m:=2) hO (kB _) aj (by rw [cN];omega) hs .here
 exact ⟨H2,hle1.trans hle2,hR,hs⟩
theorem oV{v:Value}{en:Ent}{xs:List TD}{t:TD}(hs:St H w (en::σ))(hO:bQ 2 v (tdc xs).flatten en)(hl:xs.length≤1000000):
  Cl Tryz.prog 89 [v,.agg #[I t.tape,I t.day]] w fun u w'=>u=I (gH xs t)∧St H w' (en::σ):=by
 obtain ⟨a,c,rfl⟩:=hO.ja (kB xs) aj
 rw [cN] at hO ⊢
 refine Cl.o Tryz.func89 Tryz.ntmps89 ag2 ?_
 refine .ai ?_
 refine .bx hs fun b3 w hs=>?_
 refine .z zg (.nil (.seq (.ai (.z zm (.z (cS aO) (.z zm (.nil ?_)))))))
 refine .for (N:=xs.length) (J:=fun k fr w=>fr=[(0,.slice a xs.length c),(3,.pointer (some ⟨b3,0,none⟩))]∧(∀j<k,∀y,xs[j]? =some y→¬y=t)∧St H w (.blk b3 [I t.tape,I t.day]::en::σ)) aj ?_ ?_ ?_
 ·exact .mk ⟨rfl,fun j hj=>by omega,hs⟩
 ·rintro k fr w hk ⟨rfl,hno,hs⟩
  obtain ⟨x,hx⟩:=nth hk
  obtain ⟨b,c',sp,hv,rfl,_⟩:=hO.Fa (kB xs) aj (by rw [cN];omega)
  rw [cN] at hv
  cases hv
  refine .block (.ai (.z zm (.z zg (.nil ?_))))
  refine .seq (.draw mix rfl hs fun w hs=>?_)
  refine .ys 0 rfl hs [_,_] cP bk ?_;refine .z 1 rfl zm ?_;refine .z 2 rfl zm ?_;refine .z 3 rfl (wS aO bk) ?_
  refine .xn (i:=4) (vs:=x.c) hs rfl an .none rfl cP bk ?_ (hv:=yf (kB xs) (w8 hx) sp)
  refine .z 5 rfl (qC oR oS fq (fun f hf=>by
   simp only [List.mem_cons,List.not_mem_nil,or_false] at hf
   rcases hf with rfl|rfl<;>exact ⟨by decide,aV,ae⟩) rfl rfl) ?_
  refine .D hs ?_
  refine (.cond rfl (fun hc16=>?_) (fun hc16=>?_))
  ·refine .ai (.z zm (.z zg (.nil ?_)))
   refine .ret (rB (rT (rB (rT (Fin.bD Tryz.results89 rfl ?_)))))
   have e:x=t:=zV.1 (by have:=of_decide_eq_true hc16;exact ⟨this.1.symm,this.2.symm⟩)
   subst e
   exact ⟨by rw [me hx fun j hj h=>hno j hj _ h rfl],hs.tail⟩
  ·refine .skip ?_
   refine nB (nT ?_)
   exact .mk ⟨rfl,eS hno hx (fun e=>by subst e;simp at hc16),hs⟩
 ·rintro fr w ⟨rfl,hno,hs⟩
  refine nT ?_
  refine .ai (.z zg (.nil ?_))
  refine .ret (Fin.bD Tryz.results89 rfl ?_)
  exact ⟨by rw [rA hno],hs.tail⟩
theorem eZ{x0 x1 x2 x3 x4 x5 x6 x7 x8 vl:Value}{en:Ent}{bm:Nat}{ls:List Lim}{a b hi lo by_:Int}(hs:St H w (.blk bm [x0,x1,x2,x3,x4,x5,x6,x7,x8,vl]::en::σ))(hO:bQ 4 vl (fF ls) en)(hl:ls.length≤100000):
  Cl Tryz.prog 115 [.pointer (some ⟨bm,0,none⟩),I a,I b,I hi,I lo,I by_] w fun _ w'=>∃vl' en',bQ 4 vl' (fF (ls++two a b hi lo by_)) en'∧St H w' (.blk bm [x0,x1,x2,x3,x4,x5,x6,x7,x8,vl']::en'::σ):=by
 obtain ⟨al,ll,cl,rfl,h⟩:=hO.shape
 refine Cl.of Tryz.func115 rfl Tryz.ntmps115 bR (dv (k:=0) rfl (dv (k:=1) rfl (dv (k:=2) rfl (dv (k:=3) rfl (dv (k:=4) rfl (dv (k:=5) rfl (ve))))))) ?_
 refine .region (.z zm (.z zm (.z znc (.z (zfa fT) (.y hs (zld bU) (.z zm (.z zm (.z zm (.z zm ?_)))))))))
 refine .z (zbd [_,_,_,_] dU) (.z zm (.z zm (.z zm (.z zm (.z (zbd [_,_,_,_] dU) ?_)))))
 refine .o (.buildSlice (cells:=fF (two a b hi lo by_)) hs eW rfl an fun b27 w hs=>?_)
 refine .o (.append (ys:=fF (two a b hi lo by_)) hs bI rfl rfl hO (.own .here rfl rfl) (jq _) (fun l h=>by rw [de] at h;omega) ?_);intro v28 en28 w hO2 hs
 rw [←fE] at hO2
 obtain ⟨a28,l28,c28,rfl,h28⟩:=hO2.shape
 refine .z znc (.z (zfa fT) ?_)
 refine .o (.store hs rfl rfl lF fun w hs=>?_)
 refine .nil ?_
 exact Fin.wW Tryz.results115 ⟨_,_,hO2,hs.sb⟩
theorem iz{s:Spc}{vst vwa x6 x7 x8 vl:Value}{bm:Nat}{j:Int}(hs:St H w σ)(hm:Mem σ (.blk bm [I s.id,I s.src,vst,vwa,I s.al,I s.up,x6,x7,x8,vl]))(h1:RI H vst s.st)(h2:RI H vwa s.wa)(hb:s.st.length≤1000∧s.wa.length≤1000)(hj: -1≤j∧j≤1000):
  Cl Tryz.prog 116 [.pointer (some ⟨bm,0,none⟩),I j] w fun u w'=>u=I ((s.many:Int)+1+j)∧St H w' σ:=by
 have hmm:s.many≤1000000:=Nat.mul_le_mul hb.1 hb.2
 refine Cl.o Tryz.func116 Tryz.ntmps116 ag2 ?_
 refine .ai (.z zg (.nil (.ai (.z zm (.z znc (.z (zfa cQ) (.z (zfa aN) ?_)))))))
 refine .q hs (jT (vs:=[I s.id,I s.src,vst,vwa,I s.al,I s.up]) rfl aM aE hm) ?_
 refine .o (.call Tryz.call91 rfl (fj (s:=s) hs h1 h2 hb) ?_);rintro _ w ⟨rfl,hs⟩
 refine .z cC (.z zm (.z cC (.z zg (.nil ?_))))
 refine .ret (Fin.bD Tryz.results116 rfl ?_)
 exact ⟨rfl,hs⟩
theorem eo{s:Spc}(h:fW s):s.st.length≤1000∧s.wa.length≤1000∧0<s.wa.length∧s.many≤63:=by
 have h1:=h.st.many;have h2:=h.wa.many;have h3:=h.wa.two
 have:s.many≤9*7:=Nat.mul_le_mul h1 h2
 omega
theorem ox{s:Srv}{ts:List TD}{vst vwa vr vc vt vl:Value}{en:Ent}{bm:Nat}{ls:List Lim}(hs:St H w (.blk bm [I s.sp.id,I s.sp.src,vst,vwa,I s.sp.al,I s.sp.up,vr,vc,vt,vl]::en::σ))(hk:MkK H s ts vst vwa vr vc vt)(hO:bQ 4 vl (fF ls) en)(hl:ls.length≤10000)(hok:fW s.sp):
  Cl Tryz.prog 174 [.pointer (some ⟨bm,0,none⟩)] w fun _ w'=>∃H1 vl' en',HLe H H1∧bQ 4 vl' (fF (ls++dR (pS s.sp) s.sp.wa.length s.sp.st.length)) en'∧St H1 w' (.blk bm [I s.sp.id,I s.sp.src,vst,vwa,I s.sp.al,I s.sp.up,vr,vc,vt,vl']::en'::σ):=by
 have hsm:=eo hok
 refine Cl.o Tryz.func174 Tryz.ntmps174 ag1 ?_
 refine .ai ?_
 refine .bx hs fun b1 w hs=>?_
 refine .nil (.ai (.y hs (zld pV) (.z znc (.z (zfa cQ) (.z (zfa aN) (.y hs (zls [_,_,_,_,_,_] aM aE) ?_))))))
 refine .o (.call sS rfl (ed (s:=s.sp) hs hk.st hk.wa ⟨aj,aj⟩) ?_);rintro _ w ⟨H1,ba,hle1,rfl,hit,hs⟩
 refine .nil (.block ?_)
 refine .rangeFunc (gf:=190) (cap:=[.pointer (some ⟨ba,0,none⟩)]) (xs:=sX s.sp) (σb:=[.blk bm [I s.sp.id,I s.sp.src,vst,vwa,I s.sp.al,I s.sp.up,vr,vc,vt,vl],en,.blk b1 [.pointer (some ⟨bm,0,none⟩)]]) (σf:=σ) (hs.sb) trivial rfl hit sQ (fun x hx=>by
   simp only [sX,List.mem_map] at hx
   obtain ⟨j,_,rfl⟩:=hx;rfl) rfl
  (I:=fun p H' σb=>∃vl en,σb=[.blk bm [I s.sp.id,I s.sp.src,vst,vwa,I s.sp.al,I s.sp.up,vr,vc,vt,vl],en,.blk b1 [.pointer (some ⟨bm,0,none⟩)]]∧bQ 4 vl (fF (ls++pb (pS s.sp) s.sp.wa.length p)) en) (Ix:=fun _ _ _=>False)
  (fun j _ _ σ g1 g2=>g2) (fun _ _ _ _ _ h=>h) ⟨vl,en,rfl,by rw [mY,List.append_nil];exact hO⟩ ?_ ?_ (fun D c H' σb w _ h _=>h.elim)
 ·rintro ly p hp H2 σb2 σf2 w hle2 ⟨vl,en,rfl,hO⟩ hs ⟨rr,hrr⟩
  have hpm:p<s.sp.many:=by rw [dd] at hp;exact hp
  have hsucc:=mZ (pS s.sp) (p:=p) hsm.2.2.1
  have hpl:=jf (nb s.sp) hsm.2.2.1 p
  have hin:p/s.sp.wa.length<s.sp.st.length:=Nat.div_lt_of_lt_mul (by rw [Nat.mul_comm];exact hpm)
  have hkm:=Nat.mod_lt p hsm.2.2.1
  have hdm:=Nat.div_add_mod p s.sp.wa.length
  rw [Nat.mul_comm] at hdm
  have hu:(s.sp.u (p/s.sp.wa.length) (p%s.sp.wa.length):Int)=(p:Int)+1:=by unfold Spc.u;omega
  rw [kv hp]
  obtain ⟨al,ll,cl,rfl,hll⟩:=hO.shape
  generalize p/s.sp.wa.length=i at*
  generalize p%s.sp.wa.length=k at*
  have hk2:=hk.mono (hle1.trans hle2)
  refine .region ?_
  refine .o (.alloc hs gX rfl fun b2 w hs=>?_)
  refine .o (.aQ (vs:=[_,_,_]) hs rfl rfl kb fun w hs=>?_)
  refine .nil ?_
  refine nT ?_
  refine ⟨H2,[.blk b2 [I (i:Int),I (k:Int),I ((p+1:Nat):Int)],.blk bm [I s.sp.id,I s.sp.src,vst,vwa,I s.sp.al,I s.sp.up,vr,vc,vt,.slice al ll cl],en,.blk b1 [.pointer (some ⟨bm,0,none⟩)]],HLe.refl _,hs,?_⟩;rintro w σf4 - hs
  refine .block ?_
  refine .draw mix rfl hs fun w hs=>?_
  refine .y 0 rfl hs pV ?_;refine .z 1 rfl (zfa dA) ?_;refine .y 2 rfl hs ae ?_;refine .y 3 rfl hs pV ?_;refine .z 4 rfl znc ?_;refine .z 5 rfl (zfa cQ) ?_;refine .z 6 rfl (zfa aN) ?_;refine .z 7 rfl (zfa c8) ?_;refine .y 8 rfl hs ae ?_
  refine .E 9 hs ?_
  refine .call sR rfl (eZ (ls:=ls++pb (pS s.sp) s.sp.wa.length p) (hs.sb:St H2 w (.blk bm _::en:: .blk b1 _::σf4)) hO (by rw [List.length_append];omega)) ?_;rintro _ w ⟨vl3,en3,hO3,hs⟩
  rw [show two 0 ((p+1:Nat):Int) 20000 0 s.sp.src=pS s.sp i k by unfold pS;rw [hu];rfl,List.append_assoc,←hsucc] at hO3
  refine .go ?_
  refine .D hs ?_
  refine nB ?_
  exact ⟨H2,_,HLe.refl _,hs,_,_,rfl,hO3⟩
 ·rintro D H2 σb2 w hle2 ⟨vl,en,rfl,hO⟩ hs
  rw [dd,show s.sp.many=s.sp.st.length*s.sp.wa.length from rfl,pa _ hsm.2.2.1] at hO
  refine nB ?_
  exact Fin.Fo [D] [] hs fun w hs=>⟨_,results0 Tryz.results174,H2,vl,en,hle1.trans hle2,hO,(hs.sb:St H2 w (.blk bm _::en::σ))⟩
theorem qY{s:Srv}{ts:List TD}{vst vwa vr vc vt vl:Value}{en:Ent}{bm:Nat}{ls:List Lim}(hs:St H w (.blk bm [I s.sp.id,I s.sp.src,vst,vwa,I s.sp.al,I s.sp.up,vr,vc,vt,vl]::en::σ))(hk:MkK H s ts vst vwa vr vc vt)(hO:bQ 4 vl (fF ls) en)(hl:ls.length≤10000)(hok:fW s.sp):
  Cl Tryz.prog 175 [.pointer (some ⟨bm,0,none⟩)] w fun _ w'=>∃H1 vl' en',HLe H H1∧bQ 4 vl' (fF (ls++dR (alL s.sp) s.sp.wa.length s.sp.st.length)) en'∧St H1 w' (.blk bm [I s.sp.id,I s.sp.src,vst,vwa,I s.sp.al,I s.sp.up,vr,vc,vt,vl']::en'::σ):=by
 have hsm:=eo hok
 obtain ⟨ast,cst,rfl⟩:=RI.shape hk.st
 obtain ⟨awa,cwa,rfl⟩:=RI.shape hk.wa
 refine Cl.o Tryz.func175 Tryz.ntmps175 ag1 ?_
 refine .ai ?_
 refine .bx hs fun b1 w hs=>?_
 refine .nil (.ai (.y hs (zld pV) (.z znc (.z (zfa cQ) (.z (zfa aN) (.y hs (zls [_,_,_,_,_,_] aM aE) ?_))))))
 refine .o (.alloc hs iH rfl fun b2 w hs=>?_)
 refine .o (.aQ (vs:=[_,_,_,_,_,_]) hs rfl rfl aE fun w hs=>?_)
 refine .nil (.ai (.y hs (zls [_,_,_,_,_,_] aM aE) ?_))
 refine .o (.call sS rfl (ed (s:=s.sp) hs hk.st hk.wa ⟨aj,aj⟩) ?_);rintro _ w ⟨H1,ba,hle1,rfl,hit,hs⟩
 refine .nil (.block ?_)
 refine .rangeFunc (gf:=190) (cap:=[.pointer (some ⟨ba,0,none⟩)]) (xs:=sX s.sp) (σb:=[.blk bm [I s.sp.id,I s.sp.src,.slice ast s.sp.st.length cst,.slice awa s.sp.wa.length cwa,I s.sp.al,I s.sp.up,vr,vc,vt,vl],en,.blk b1 [.pointer (some ⟨bm,0,none⟩)],.blk b2 [I s.sp.id,I s.sp.src,.slice ast s.sp.st.length cst,.slice awa s.sp.wa.length cwa,I s.sp.al,I s.sp.up]]) (σf:=σ) (hs.sb) trivial rfl hit sQ (fun x hx=>by
   simp only [sX,List.mem_map] at hx
   obtain ⟨j,_,rfl⟩:=hx;rfl) rfl
  (I:=fun p H' σb=>∃vl en,σb=[.blk bm [I s.sp.id,I s.sp.src,.slice ast s.sp.st.length cst,.slice awa s.sp.wa.length cwa,I s.sp.al,I s.sp.up,vr,vc,vt,vl],en,.blk b1 [.pointer (some ⟨bm,0,none⟩)],.blk b2 [I s.sp.id,I s.sp.src,.slice ast s.sp.st.length cst,.slice awa s.sp.wa.length cwa,I s.sp.al,I s.sp.up]]∧bQ 4 vl (fF (ls++pb (alL s.sp) s.sp.wa.length p)) en) (Ix:=fun _ _ _=>False)
  (fun j _ _ σ g1 g2=>g2) (fun _ _ _ _ _ h=>h) ⟨vl,en,rfl,by rw [mY,List.append_nil];exact hO⟩ ?_ ?_ (fun D c H' σb w _ h _=>h.elim)
 ·rintro ly p hp H2 σb2 σf2 w hle2 ⟨vl,en,rfl,hO⟩ hs ⟨rr,hrr⟩
  have hpm:p<s.sp.many:=by rw [dd] at hp;exact hp
  have hsucc:=mZ (alL s.sp) (p:=p) hsm.2.2.1
  have hpl:=jf (qy s.sp) hsm.2.2.1 p
  have hin:p/s.sp.wa.length<s.sp.st.length:=Nat.div_lt_of_lt_mul (by rw [Nat.mul_comm];exact hpm)
  have hkm:=Nat.mod_lt p hsm.2.2.1
  have hdm:=Nat.div_add_mod p s.sp.wa.length
  rw [Nat.mul_comm] at hdm
  have hu:(s.sp.u (p/s.sp.wa.length) (p%s.sp.wa.length):Int)=(p:Int)+1:=by unfold Spc.u;omega
  rw [kv hp]
  obtain ⟨al,ll,cl,rfl,hll⟩:=hO.shape
  generalize p/s.sp.wa.length=i at*
  generalize p%s.sp.wa.length=k at*
  have hk2:=hk.mono (hle1.trans hle2)
  refine .region ?_
  refine .o (.alloc hs gX rfl fun b3 w hs=>?_)
  refine .o (.aQ (vs:=[_,_,_]) hs rfl rfl kb fun w hs=>?_)
  refine .nil ?_
  refine nT ?_
  refine ⟨H2,[.blk b3 [I (i:Int),I (k:Int),I ((p+1:Nat):Int)],.blk bm [I s.sp.id,I s.sp.src,.slice ast s.sp.st.length cst,.slice awa s.sp.wa.length cwa,I s.sp.al,I s.sp.up,vr,vc,vt,.slice al ll cl],en,.blk b1 [.pointer (some ⟨bm,0,none⟩)],.blk b2 [I s.sp.id,I s.sp.src,.slice ast s.sp.st.length cst,.slice awa s.sp.wa.length cwa,I s.sp.al,I s.sp.up]],HLe.refl _,hs,?_⟩;rintro w σf4 - hs
  refine .block (.ai (.z (zfa cd) (.y hs (zld ae) (.z cC (.z (zfa bB) (.y hs (zld ak) (.z (cS ad) (.z ik (.nil ?_)))))))))
  refine (.cg rfl (fun hc19=>?_) (fun hc19=>?_))
  ·refine .seq (.draw mix rfl hs fun w hs=>?_)
   refine .z 0 rfl (zfa fa) ?_;refine .z 1 rfl (zfa lB) ?_;refine .y 2 rfl hs ae ?_;refine .z 3 rfl (zfa bB) ?_;refine .y 4 rfl hs ak ?_;refine .z 5 rfl (zfa cd) ?_;refine .y 6 rfl hs ae ?_;refine .z 7 rfl cC ?_
   have hris:=hok.st.rise i aj
   have hq0:=hok.st.bd (i:=i) aj
   have hq1:=hok.st.bd (i:=i+1) aj
   have hal:=hok.al
   refine .ixX (enc:=fun x=>[I x]) (i:=8) hs rfl an .none hk2.st rfl rfl ad af (bL (l:=s.sp.st) (i:=(i+1)) aj) dK ?_;intro b28 o28 hc28;replace hc28:=bM.one hc28
   refine .r (i:=9) hs rfl an .none (aZ rfl ae hc28) ?_
   refine .z 10 rfl (zfa bB) ?_;refine .y 11 rfl hs ak ?_;refine .z 12 rfl (zfa cd) ?_;refine .y 13 rfl hs ae ?_
   refine .ixX (enc:=fun x=>[I x]) (i:=14) hs rfl an .none hk2.st rfl rfl ad af (bL (l:=s.sp.st) (i:=i) aj) dK ?_;intro b34 o34 hc34;replace hc34:=bM.one hc34
   refine .r (i:=15) hs rfl an .none (aZ rfl ae hc34) ?_
   refine .z 16 rfl iK ?_
   refine .E 17 hs ?_
   refine .call Tryz.call230 rfl (kS hs aj aj) ?_;rintro _ w ⟨rfl,hs⟩
   refine .go ?_
   refine .z 18 rfl zg ?_;refine .D hs ?_
   refine .region (.y hs (zld pV) (.z (zfa dA) (.y hs (zld ae) (.z (zfa dA) (.y hs (zld ae) (.z (zfa br) (.y hs (zld ak) (.z (cS ad) (.z cC ?_)))))))))
   refine .z zm (.z zm (.z (zfa c8) (.y hs (zld ae) ?_)))
   refine .o (.call sR rfl (eZ (ls:=ls++pb (alL s.sp) s.sp.wa.length p) (hs.sb:St H2 w (.blk bm _::en:: .blk b1 _:: .blk b2 _::σf4)) hO (by rw [List.length_append];omega)) ?_);rintro _ w ⟨vl3,en3,hO3,hs⟩
   have hu2:(s.sp.u (i+1) k:Int)=((p+1:Nat):Int)+(s.sp.wa.length:Int):=by unfold Spc.u at hu ⊢;rw [Nat.add_mul];omega
   rw [show two ((p+1:Nat):Int) (((p+1:Nat):Int)+(s.sp.wa.length:Int)) (jt s.sp.al (gi s.sp.st (i+1) - gi s.sp.st i)) (jt s.sp.al (gi s.sp.st (i+1) - gi s.sp.st i)) s.sp.src=alL s.sp i k by unfold alL;rw [if_pos aj,hu,hu2];rfl,List.append_assoc,←hsucc] at hO3
   refine .nil ?_
   refine nB ?_
   exact ⟨H2,_,HLe.refl _,hs,_,_,rfl,hO3⟩
  ·refine .skip ?_
   refine nB ?_
   rw [show alL s.sp i k=[] by unfold alL;rw [if_neg aj],List.append_nil] at hsucc
   exact ⟨H2,_,HLe.refl _,(hs.sb:St H2 w (.blk bm _::en:: .blk b1 _:: .blk b2 _::σf4)),_,_,rfl,by rw [hsucc];exact hO⟩
 ·rintro D H2 σb2 w hle2 ⟨vl,en,rfl,hO⟩ hs
  rw [dd,show s.sp.many=s.sp.st.length*s.sp.wa.length from rfl,pa _ hsm.2.2.1] at hO
  refine nB ?_
  exact Fin.Fo [D] [] hs fun w hs=>⟨_,results0 Tryz.results175,H2,vl,en,hle1.trans hle2,hO,(hs.sb:St H2 w (.blk bm _::en::σ))⟩
theorem uF{s:Srv}{ts:List TD}{vst vwa vr vc vt vl:Value}{en:Ent}{bm:Nat}{ls:List Lim}(hs:St H w (.blk bm [I s.sp.id,I s.sp.src,vst,vwa,I s.sp.al,I s.sp.up,vr,vc,vt,vl]::en::σ))(hk:MkK H s ts vst vwa vr vc vt)(hO:bQ 4 vl (fF ls) en)(hl:ls.length≤10000)(hok:fW s.sp):
  Cl Tryz.prog 176 [.pointer (some ⟨bm,0,none⟩)] w fun _ w'=>∃H1 vl' en',HLe H H1∧bQ 4 vl' (fF (ls++dR (upL s.sp) s.sp.wa.length s.sp.st.length)) en'∧St H1 w' (.blk bm [I s.sp.id,I s.sp.src,vst,vwa,I s.sp.al,I s.sp.up,vr,vc,vt,vl']::en'::σ):=by
 have hsm:=eo hok
 obtain ⟨ast,cst,rfl⟩:=RI.shape hk.st
 obtain ⟨awa,cwa,rfl⟩:=RI.shape hk.wa
 refine Cl.o Tryz.func176 Tryz.ntmps176 ag1 ?_
 refine .ai ?_
 refine .bx hs fun b1 w hs=>?_
 refine .nil (.ai (.y hs (zld pV) (.z znc (.z (zfa cQ) (.z (zfa aN) (.y hs (zls [_,_,_,_,_,_] aM aE) ?_))))))
 refine .o (.alloc hs iH rfl fun b2 w hs=>?_)
 refine .o (.aQ (vs:=[_,_,_,_,_,_]) hs rfl rfl aE fun w hs=>?_)
 refine .nil (.ai (.y hs (zls [_,_,_,_,_,_] aM aE) ?_))
 refine .o (.call sS rfl (ed (s:=s.sp) hs hk.st hk.wa ⟨aj,aj⟩) ?_);rintro _ w ⟨H1,ba,hle1,rfl,hit,hs⟩
 refine .nil (.block ?_)
 refine .rangeFunc (gf:=190) (cap:=[.pointer (some ⟨ba,0,none⟩)]) (xs:=sX s.sp) (σb:=[.blk bm [I s.sp.id,I s.sp.src,.slice ast s.sp.st.length cst,.slice awa s.sp.wa.length cwa,I s.sp.al,I s.sp.up,vr,vc,vt,vl],en,.blk b1 [.pointer (some ⟨bm,0,none⟩)],.blk b2 [I s.sp.id,I s.sp.src,.slice ast s.sp.st.length cst,.slice awa s.sp.wa.length cwa,I s.sp.al,I s.sp.up]]) (σf:=σ) (hs.sb) trivial rfl hit sQ (fun x hx=>by
   simp only [sX,List.mem_map] at hx
   obtain ⟨j,_,rfl⟩:=hx;rfl) rfl
  (I:=fun p H' σb=>∃vl en,σb=[.blk bm [I s.sp.id,I s.sp.src,.slice ast s.sp.st.length cst,.slice awa s.sp.wa.length cwa,I s.sp.al,I s.sp.up,vr,vc,vt,vl],en,.blk b1 [.pointer (some ⟨bm,0,none⟩)],.blk b2 [I s.sp.id,I s.sp.src,.slice ast s.sp.st.length cst,.slice awa s.sp.wa.length cwa,I s.sp.al,I s.sp.up]]∧bQ 4 vl (fF (ls++pb (upL s.sp) s.sp.wa.length p)) en) (Ix:=fun _ _ _=>False)
  (fun j _ _ σ g1 g2=>g2) (fun _ _ _ _ _ h=>h) ⟨vl,en,rfl,by rw [mY,List.append_nil];exact hO⟩ ?_ ?_ (fun D c H' σb w _ h _=>h.elim)
 ·rintro ly p hp H2 σb2 σf2 w hle2 ⟨vl,en,rfl,hO⟩ hs ⟨rr,hrr⟩
  have hpm:p<s.sp.many:=by rw [dd] at hp;exact hp
  have hsucc:=mZ (upL s.sp) (p:=p) hsm.2.2.1
  have hpl:=jf (p4 s.sp) hsm.2.2.1 p
  have hin:p/s.sp.wa.length<s.sp.st.length:=Nat.div_lt_of_lt_mul (by rw [Nat.mul_comm];exact hpm)
  have hkm:=Nat.mod_lt p hsm.2.2.1
  have hdm:=Nat.div_add_mod p s.sp.wa.length
  rw [Nat.mul_comm] at hdm
  have hu:(s.sp.u (p/s.sp.wa.length) (p%s.sp.wa.length):Int)=(p:Int)+1:=by unfold Spc.u;omega
  rw [kv hp]
  obtain ⟨al,ll,cl,rfl,hll⟩:=hO.shape
  generalize p/s.sp.wa.length=i at*
  generalize p%s.sp.wa.length=k at*
  have hk2:=hk.mono (hle1.trans hle2)
  refine .region ?_
  refine .o (.alloc hs gX rfl fun b3 w hs=>?_)
  refine .o (.aQ (vs:=[_,_,_]) hs rfl rfl kb fun w hs=>?_)
  refine .nil ?_
  refine nT ?_
  refine ⟨H2,[.blk b3 [I (i:Int),I (k:Int),I ((p+1:Nat):Int)],.blk bm [I s.sp.id,I s.sp.src,.slice ast s.sp.st.length cst,.slice awa s.sp.wa.length cwa,I s.sp.al,I s.sp.up,vr,vc,vt,.slice al ll cl],en,.blk b1 [.pointer (some ⟨bm,0,none⟩)],.blk b2 [I s.sp.id,I s.sp.src,.slice ast s.sp.st.length cst,.slice awa s.sp.wa.length cwa,I s.sp.al,I s.sp.up]],HLe.refl _,hs,?_⟩;rintro w σf4 - hs
  refine .block (.ai (.z (zfa bZ) (.y hs (zld ae) (.z cC (.z (zfa br) (.y hs (zld ak) (.z (cS ad) (.z ik (.nil ?_)))))))))
  refine (.cg rfl (fun hc19=>?_) (fun hc19=>?_))
  ·refine .seq (.draw mix rfl hs fun w hs=>?_)
   refine .z 0 rfl (zfa fa) ?_;refine .z 1 rfl (zfa lA) ?_;refine .y 2 rfl hs ae ?_;refine .z 3 rfl (zfa br) ?_;refine .y 4 rfl hs ak ?_;refine .z 5 rfl (zfa bZ) ?_;refine .y 6 rfl hs ae ?_;refine .z 7 rfl cC ?_
   have hris:=hok.wa.rise k aj
   have hq0:=hok.wa.bd (i:=k) aj
   have hq1:=hok.wa.bd (i:=k+1) aj
   have hal:=hok.up
   refine .ixX (enc:=fun x=>[I x]) (i:=8) hs rfl an .none hk2.wa rfl rfl ad af (bL (l:=s.sp.wa) (i:=(k+1)) aj) dK ?_;intro b28 o28 hc28;replace hc28:=bM.one hc28
   refine .r (i:=9) hs rfl an .none (aZ rfl ae hc28) ?_
   refine .z 10 rfl (zfa br) ?_;refine .y 11 rfl hs ak ?_;refine .z 12 rfl (zfa bZ) ?_;refine .y 13 rfl hs ae ?_
   refine .ixX (enc:=fun x=>[I x]) (i:=14) hs rfl an .none hk2.wa rfl rfl ad af (bL (l:=s.sp.wa) (i:=k) aj) dK ?_;intro b34 o34 hc34;replace hc34:=bM.one hc34
   refine .r (i:=15) hs rfl an .none (aZ rfl ae hc34) ?_
   refine .z 16 rfl iK ?_
   refine .E 17 hs ?_
   refine .call Tryz.call230 rfl (kS hs aj aj) ?_;rintro _ w ⟨rfl,hs⟩
   refine .go ?_
   refine .z 18 rfl zg ?_;refine .D hs ?_
   refine .region (.y hs (zld pV) (.z (zfa dA) (.y hs (zld ae) (.z (zfa dA) (.y hs (zld ae) (.z cC (.z zm (.z zm (.z (zfa c8) ?_)))))))))
   refine .y hs (zld ae) ?_
   refine .o (.call sR rfl (eZ (ls:=ls++pb (upL s.sp) s.sp.wa.length p) (hs.sb:St H2 w (.blk bm _::en:: .blk b1 _:: .blk b2 _::σf4)) hO (by rw [List.length_append];omega)) ?_);rintro _ w ⟨vl3,en3,hO3,hs⟩
   have hu2:(s.sp.u i (k+1):Int)=((p+1:Nat):Int)+1:=by unfold Spc.u at hu ⊢;omega
   rw [show two ((p+1:Nat):Int) (((p+1:Nat):Int)+1) (jt s.sp.up (gi s.sp.wa (k+1) - gi s.sp.wa k)) (jt s.sp.up (gi s.sp.wa (k+1) - gi s.sp.wa k)) s.sp.src=upL s.sp i k by unfold upL;rw [if_pos aj,hu,hu2];rfl,List.append_assoc,←hsucc] at hO3
   refine .nil ?_
   refine nB ?_
   exact ⟨H2,_,HLe.refl _,hs,_,_,rfl,hO3⟩
  ·refine .skip ?_
   refine nB ?_
   rw [show upL s.sp i k=[] by unfold upL;rw [if_neg aj],List.append_nil] at hsucc
   exact ⟨H2,_,HLe.refl _,(hs.sb:St H2 w (.blk bm _::en:: .blk b1 _:: .blk b2 _::σf4)),_,_,rfl,by rw [hsucc];exact hO⟩
 ·rintro D H2 σb2 w hle2 ⟨vl,en,rfl,hO⟩ hs
  rw [dd,show s.sp.many=s.sp.st.length*s.sp.wa.length from rfl,pa _ hsm.2.2.1] at hO
  refine nB ?_
  exact Fin.Fo [D] [] hs fun w hs=>⟨_,results0 Tryz.results176,H2,vl,en,hle1.trans hle2,hO,(hs.sb:St H2 w (.blk bm _::en::σ))⟩
theorem qk{s:Srv}{ts:List TD}{vst vwa vr vc vt vl:Value}{en:Ent}{bm:Nat}{ls:List Lim}(hs:St H w (.blk bm [I s.sp.id,I s.sp.src,vst,vwa,I s.sp.al,I s.sp.up,vr,vc,vt,vl]::en::σ))(hk:MkK H s ts vst vwa vr vc vt)(hO:bQ 4 vl (fF ls) en)(hl:ls.length≤10000)(hok:fW s.sp)(htl:ts.length≤100):
  Cl Tryz.prog 177 [.pointer (some ⟨bm,0,none⟩)] w fun _ w'=>∃H1 vl' en',HLe H H1∧bQ 4 vl' (fF (ls++uU s.sp ts.length)) en'∧St H1 w' (.blk bm [I s.sp.id,I s.sp.src,vst,vwa,I s.sp.al,I s.sp.up,vr,vc,vt,vl']::en'::σ):=by
 have hsm:=eo hok
 obtain ⟨at_,ct,rfl⟩:=RTd.shape hk.ts
 refine Cl.o Tryz.func177 Tryz.ntmps177 ag1 ?_
 refine .ai (.z zm (.z znc (.z (zfa eV) (.y hs (zld F3) (.z (cS aO) (.z zm (.nil ?_)))))))
 refine .for (N:=ts.length) (J:=fun j fr w=>fr=[(0,.pointer (some ⟨bm,0,none⟩))]∧∃vl en,bQ 4 vl (fF (ls++uU s.sp j)) en∧St H w (.blk bm [I s.sp.id,I s.sp.src,vst,vwa,I s.sp.al,I s.sp.up,vr,vc,.slice at_ ts.length ct,vl]::en::σ)) aj ?_ ?_ ?_
 ·exact .mk ⟨rfl,vl,en,by show bQ 4 vl (fF (ls++[])) en;rw [List.append_nil];exact hO,hs⟩
 ·rintro j fr w hj ⟨rfl,vl,en,hO,hs⟩
  have hel:=iS s.sp j
  obtain ⟨al,ll,cl,rfl,hll⟩:=hO.shape
  refine .block (.ai (.z zm (.z zg (.nil ?_))))
  refine .draw mix rfl hs fun w hs=>?_
  refine .z 0 rfl zm ?_;refine .z 1 rfl zm ?_;refine .z 2 rfl zm ?_;refine .z 4 rfl zm ?_;refine .z 5 rfl znc ?_;refine .z 6 rfl (zfa cQ) ?_;refine .z 7 rfl (zfa aN) ?_;refine .z 8 rfl (zfa c8) ?_;refine .y 9 rfl hs ae ?_
  refine .E 3 hs ?_
  refine .call Tryz.call116 rfl (iz (s:=s.sp) hs .here hk.st hk.wa ⟨aj,aj⟩ ⟨aj,aj⟩) ?_;rintro _ w ⟨rfl,hs⟩
  refine .go ?_
  refine .E 10 hs ?_
  refine .call sR rfl (eZ (ls:=ls++uU s.sp j) hs hO (by rw [List.length_append];omega)) ?_;rintro _ w ⟨vl3,en3,hO3,hs⟩
  rw [show (s.sp.many:Int)+1+(j:Int)=((s.sp.many+1+j:Nat):Int) by omega,List.append_assoc] at hO3
  refine .go ?_
  refine .D hs ?_
  refine nB (nT ?_)
  exact .mk ⟨rfl,vl3,en3,hO3,hs⟩
 ·rintro fr w ⟨rfl,vl,en,hO,hs⟩
  exact Fin.wW Tryz.results177 ⟨H,vl,en,HLe.refl _,hO,hs⟩
set_option maxHeartbeats 1000000 in
theorem jV{s:Srv}{ts:List TD}{vst vwa vr vc vt vl:Value}{en:Ent}{bm:Nat}{ls:List Lim}(hs:St H w (.blk bm [I s.sp.id,I s.sp.src,vst,vwa,I s.sp.al,I s.sp.up,vr,vc,vt,vl]::en::σ))(hk:MkK H s ts vst vwa vr vc vt)(hO:bQ 4 vl (fF ls) en)(hl:ls.length≤10000)(hok:fW s.sp)(htl:ts.length≤100)(hcl:s.cs.length≤20)(hc:∀c∈s.cs,rj c){j0:Nat}(hj0:j0≤ts.length):
  Cl Tryz.prog 117 [.pointer (some ⟨bm,0,none⟩),I (j0:Int)] w fun _ w'=>∃H1 vl' en',HLe H H1∧bQ 4 vl' (fF (ls++qu s.sp ts s.cs j0 s.cs.length)) en'∧St H1 w' (.blk bm [I s.sp.id,I s.sp.src,vst,vwa,I s.sp.al,I s.sp.up,vr,vc,vt,vl']::en'::σ):=by
 have hsm:=eo hok
 obtain ⟨at_,ct,rfl⟩:=RTd.shape hk.ts
 obtain ⟨ac,cc,rfl⟩:=RCm.shape hk.cs
 refine Cl.o Tryz.func117 Tryz.ntmps117 ag2 ?_
 refine .ai (.z zm (.z znc (.z (zfa cQ) (.z (zfa cV) (.y hs (zld kL) (.z (cS cf) (.z zm (.nil ?_))))))))
 refine .for (N:=s.cs.length) (J:=fun i fr w=>fr=[(12,.slice ac s.cs.length cc),(0,.pointer (some ⟨bm,0,none⟩)),(1,I (j0:Int))]∧∃vl en,bQ 4 vl (fF (ls++qu s.sp ts s.cs j0 i)) en∧St H w (.blk bm [I s.sp.id,I s.sp.src,vst,vwa,I s.sp.al,I s.sp.up,vr,.slice ac s.cs.length cc,.slice at_ ts.length ct,vl]::en::σ)) aj ?_ ?_ ?_
 ·exact .mk ⟨rfl,vl,en,by show bQ 4 vl (fF (ls++[])) en;rw [List.append_nil];exact hO,hs⟩
 ·rintro i fr w hi ⟨rfl,vl,en,hO,hs⟩
  obtain ⟨c,hx⟩:=nth hi
  obtain ⟨g1,g2,g3,g4,g5,g6⟩:=hc c (List.mem_of_getElem? hx)
  have hcl1:=gW s.sp ts s.cs j0 i
  have hcl2:i*(2*(ts.length - j0))≤20*(2*100):=Nat.mul_le_mul aj aj
  refine .block (.ai ?_)
  refine .ixX (enc:=Cmp.c) hs hk.cs rfl rfl cf dx hx dK ?_;intro b16 o16 hc16
  refine .q hs (bY (vs:=(Cmp.c c)) rfl Er dx hc16) ?_
  refine .o (.alloc hs ny rfl fun b5 w hs=>?_)
  refine .o (.aQ (vs:=c.c) hs rfl rfl dx fun w hs=>?_)
  replace hs:St H w (.blk bm [I s.sp.id,I s.sp.src,vst,vwa,I s.sp.al,I s.sp.up,vr,.slice ac s.cs.length cc,.slice at_ ts.length ct,vl]::en:: .blk b5 [I c.src,I c.tape,I c.fr,I c.to,I c.lo,I c.hi]::σ):=hs.sb
  refine .nil (.ai (.z zm (.z zg (.nil (.block ?_)))))
  refine .loop (fun j:Nat=>⟨62,[],[(6,I ((j0+j:Nat):Int)),(5,.pointer (some ⟨b5,0,none⟩)),(14,I (i:Int)),(13,I (s.cs.length:Int)),(12,.slice ac s.cs.length cc),(0,.pointer (some ⟨bm,0,none⟩)),(1,I (j0:Int))]⟩)
   (fun j w=>j0+j≤ts.length∧∃vl en,bQ 4 vl (fF (ls++qu s.sp ts s.cs j0 i++jW s.sp ts c j0 j)) en∧St H w (.blk bm [I s.sp.id,I s.sp.src,vst,vwa,I s.sp.al,I s.sp.up,vr,.slice ac s.cs.length cc,.slice at_ ts.length ct,vl]::en:: .blk b5 [I c.src,I c.tape,I c.fr,I c.to,I c.lo,I c.hi]::σ)) (fun j=>ts.length - (j0+j)) 0 bA
   ⟨aj,vl,en,by show bQ 4 vl (fF (_++[])) en;rw [List.append_nil];exact hO,hs⟩ ?_
  clear hO hs
  rintro j w ⟨hj,vl,en,hO,hs⟩
  have hl1:=kr s.sp ts c j0 j
  obtain ⟨al,ll,cl,rfl,hll⟩:=hO.shape
  refine .seq (.ai (.z zm (.z zm (.z znc (.z (zfa eV) (.y hs (zld F3) (.z (cS aO) (.z ik (.nil ?_)))))))))
  refine (.cg rfl (fun hc25=>?_) (fun hc25=>?_))
  ·refine .skip ?_
   refine nT ?_
   refine .seq (.block (.ai (.z zm (.z znc (.z (zfa eV) (.y hs (zld F3) (.z zm ?_)))))))
   obtain ⟨t,ht⟩:=nth (l:=ts) (k:=j0+j) aj
   have ht0:=CX ht
   refine .ixX (enc:=TD.c) hs hk.ts rfl rfl aO bk ht dK ?_;intro b33 o33 hc33
   refine .q hs (bY (vs:=(TD.c t)) rfl cP bk hc33) ?_
   refine .o (.alloc hs kK rfl fun b7 w hs=>?_)
   refine .o (.aQ (vs:=t.c) hs rfl rfl bk fun w hs=>?_)
   change St _ _ (.blk b7 [I t.tape,I t.day]::_) at hs
   refine .nil (.ai (.z (zfa lM) (.y hs (zld ae) (.z (zfa jx) (.y hs (zld ae) (.z j6 (.z zm ?_)))))))
   refine .j7 (t':=40) rfl (fun hb40=>?_) (fun hb40=>?_)
   ·refine .gT rfl rfl ?_
    refine .z (zfa ju) ?_
    refine .gT rfl rfl ?_
    refine .y hs (zld ae) ?_
    refine .gT rfl rfl ?_
    refine .z (zfa jw) ?_
    refine .gT rfl rfl ?_
    refine .y hs (zld ae) ?_
    refine .gT rfl rfl ?_
    refine .z (zfa gP) ?_
    refine .gT rfl rfl ?_
    refine .y hs (zld ae) ?_
    refine .gT rfl rfl ?_
    refine .o (.call cZ rfl (bq hs) ?_);rintro _ w ⟨rfl,hs⟩
    refine .z zpT (.nil ?_)
    refine (.cond rfl (fun hc48=>?_) (fun hc48=>?_))
    ·refine .draw mix rfl hs fun w hs=>?_
     refine .z 0 rfl zm ?_;refine .z 1 rfl zm ?_;refine .z 2 rfl zm ?_;refine .z 4 rfl (zfa jv) ?_;refine .y 5 rfl hs ae ?_;refine .z 6 rfl xP ?_;refine .z 7 rfl (zfa gO) ?_;refine .y 8 rfl hs ae ?_;refine .z 9 rfl (zfa fK) ?_;refine .y 10 rfl hs ae ?_
     refine .E 3 hs ?_
     refine .call Tryz.call116 rfl (iz (s:=s.sp) hs (.there .here) hk.st hk.wa ⟨aj,aj⟩ ⟨aj,aj⟩) ?_;rintro _ w ⟨rfl,hs⟩
     refine .go ?_
     refine .E 11 hs ?_
     refine .call sR rfl (eZ (ls:=ls++qu s.sp ts s.cs j0 i++jW s.sp ts c j0 j) (hs.tail:St H w (.blk bm _::en:: .blk b5 _::σ)) hO (by rw [List.length_append,List.length_append];omega)) ?_;rintro _ w ⟨vl3,en3,hO3,hs⟩
     refine .go ?_
     refine .D hs ?_
     refine nB (nT ?_)
     refine .region (.z zm (.z cC (.z zg (.nil ?_))))
     refine nT ?_
     have e:jW s.sp ts c j0 (j+1)=jW s.sp ts c j0 j++two 0 ((s.sp.many:Int)+1+((j0+j:Nat):Int)) (-c.lo) c.hi c.src:=by
      show _++kA c (td0 ts (j0+j)) _=_
      rw [ht0];unfold kA;rw [if_pos (by simp at hc48;omega)]
      rw [show ((s.sp.many+1+(j0+j):Nat):Int)=(s.sp.many:Int)+1+((j0+j:Nat):Int) by omega]
     rw [List.append_assoc _ (jW _ _ _ _ _),←e] at hO3
     exact ⟨j+1,.cR rfl (by simp;omega) bA,⟨aj,vl3,en3,hO3,hs⟩,aj⟩
    ·refine .skip ?_
     refine nB (nT ?_)
     refine .region (.z zm (.z cC (.z zg (.nil ?_))))
     refine nT ?_
     have e:jW s.sp ts c j0 (j+1)=jW s.sp ts c j0 j:=by
      show _++kA c (td0 ts (j0+j)) _=_
      rw [ht0];unfold kA;rw [if_neg (by simp at hc48;omega),List.append_nil]
     exact ⟨j+1,.cR rfl (by simp;omega) bA,⟨aj,_,en,by rw [e];exact hO,hs.tail⟩,aj⟩
   ·refine .gFs 7 5 true rfl rfl rfl ?_
    refine .z zpF (.nil ?_)
    refine (.cF ?_)
    refine .skip ?_
    refine nB (nT ?_)
    refine .region (.z zm (.z cC (.z zg (.nil ?_))))
    refine nT ?_
    have e:jW s.sp ts c j0 (j+1)=jW s.sp ts c j0 j:=by
     show _++kA c (td0 ts (j0+j)) _=_
     rw [ht0];unfold kA;rw [if_neg aj,List.append_nil]
    exact ⟨j+1,.cR rfl (by simp;omega) bA,⟨aj,_,en,by rw [e];exact hO,hs.tail⟩,aj⟩
  ·refine .exit ?_
   refine xT (xT (xB (nB (nT ?_))))
   obtain rfl:j=ts.length - j0:=by omega
   rw [List.append_assoc,show qu s.sp ts s.cs j0 i++jW s.sp ts c j0 (ts.length - j0)=qu s.sp ts s.cs j0 (i+1) by rw [←A4 hx];rfl] at hO
   exact .mk ⟨rfl,_,en,hO,hs.sb⟩
 ·rintro fr w ⟨rfl,vl,en,hO,hs⟩
  exact Fin.wW Tryz.results117 ⟨H,vl,en,HLe.refl _,hO,hs⟩
theorem lZ{s:Srv}{ts:List TD}{vst vwa vr vc vt vl:Value}{en:Ent}{bm:Nat}{ls:List Lim}(hs:St H w (.blk bm [I s.sp.id,I s.sp.src,vst,vwa,I s.sp.al,I s.sp.up,vr,vc,vt,vl]::en::σ))(hk:MkK H s ts vst vwa vr vc vt)(hO:bQ 4 vl (fF ls) en)(hl:ls.length≤10000)(hok:fW s.sp)(htl:ts.length≤100)(hcl:s.cs.length≤20)(hc:∀c∈s.cs,rj c):
  Cl Tryz.prog 178 [.pointer (some ⟨bm,0,none⟩)] w fun _ w'=>∃H1 vl' en',HLe H H1∧bQ 4 vl' (fF (ls++qu s.sp ts s.cs 0 s.cs.length)) en'∧St H1 w' (.blk bm [I s.sp.id,I s.sp.src,vst,vwa,I s.sp.al,I s.sp.up,vr,vc,vt,vl']::en'::σ):=by
 refine Cl.o Tryz.func178 Tryz.ntmps178 ag1 ?_
 refine .region (.z zm ?_)
 refine .o (.call Tryz.call117 rfl (jV (s:=s) (ts:=ts) (j0:=0) hs hk hO hl hok htl hcl hc aj) ?_);rintro _ w hs
 refine .nil ?_
 exact Fin.wW Tryz.results178 hs
set_option maxHeartbeats 1000000 in
theorem ow{s:Srv}{ts:List TD}{vst vwa vr vc vt vl:Value}{en:Ent}{bm:Nat}{ls:List Lim}(hs:St H w (.blk bm [I s.sp.id,I s.sp.src,vst,vwa,I s.sp.al,I s.sp.up,vr,vc,vt,vl]::en::σ))(hk:MkK H s ts vst vwa vr vc vt)(hO:bQ 4 vl (fF ls) en)(hl:ls.length≤10000)(hok:fW s.sp)(htl:ts.length≤100)(hrl:s.rs.length≤60)(hr:∀r∈s.rs,jC s.sp r)(hmem:∀r∈s.rs,r.td∈ts):
  Cl Tryz.prog 179 [.pointer (some ⟨bm,0,none⟩)] w fun _ w'=>∃H1 vl' en',HLe H H1∧bQ 4 vl' (fF (ls++sU s.sp ts s.rs s.rs.length)) en'∧St H1 w' (.blk bm [I s.sp.id,I s.sp.src,vst,vwa,I s.sp.al,I s.sp.up,vr,vc,vt,vl']::en'::σ):=by
 have hsm:=eo hok
 obtain ⟨at_,ct,rfl⟩:=RTd.shape hk.ts
 obtain ⟨ar,cr,rfl⟩:=RRd.shape hk.rs
 refine Cl.o Tryz.func179 Tryz.ntmps179 ag1 ?_
 refine .ai (.z zm (.z znc (.z (zfa cQ) (.z (zfa bn) (.y hs (zld cz) (.z (cS aK) (.z zm (.nil ?_))))))))
 refine .for (N:=s.rs.length) (J:=fun i fr w=>fr=[(9,.slice ar s.rs.length cr),(0,.pointer (some ⟨bm,0,none⟩))]∧∃vl en,bQ 4 vl (fF (ls++sU s.sp ts s.rs i)) en∧St H w (.blk bm [I s.sp.id,I s.sp.src,vst,vwa,I s.sp.al,I s.sp.up,.slice ar s.rs.length cr,vc,.slice at_ ts.length ct,vl]::en::σ)) aj ?_ ?_ ?_
 ·exact .mk ⟨rfl,vl,en,by show bQ 4 vl (fF (ls++[])) en;rw [List.append_nil];exact hO,hs⟩
 ·rintro i fr w hi ⟨rfl,vl,en,hO,hs⟩
  obtain ⟨r,hx⟩:=nth hi
  obtain ⟨g1,g2,g3,g4,g5,g6,g7⟩:=hr r (List.mem_of_getElem? hx)
  obtain ⟨k,k1,k2,k3⟩:=ek (hmem r (List.mem_of_getElem? hx))
  have hrl1:=iO s.sp ts s.rs i
  obtain ⟨al,ll,cl,rfl,hll⟩:=hO.shape
  refine .block (.ai ?_)
  refine .ixX (enc:=Rdg.c) hs hk.rs rfl rfl aK aW hx dK ?_;intro b13 o13 hc13
  refine .q hs (bY (vs:=(Rdg.c r)) rfl eh aW hc13) ?_
  refine .o (.alloc hs ew rfl fun b3 w hs=>?_)
  refine .o (.aQ (vs:=r.c) hs rfl rfl aW fun w hs=>?_)
  change St _ _ (.blk b3 [I r.src,I r.st,I r.wa,I r.val,I r.tol,I r.tape,I r.day]::_) at hs
  refine .nil ?_
  refine .seq (.draw mix rfl hs fun w hs=>?_)
  refine .z 0 rfl zm ?_;refine .z 1 rfl znc ?_;refine .z 2 rfl (zfa eV) ?_;refine .y 3 rfl hs F3 ?_;refine .ys 4 rfl hs [_,_,_,_,_,_,_] eh aW ?_
  refine .E 5 hs ?_
  refine .call F8 rfl (eF hs) ?_;rintro _ w ⟨rfl,hs⟩
  refine .go ?_
  refine .E 6 hs ?_
  refine .call Tryz.call89 rfl (mj (t:=r.td) hs hk.ts aj) ?_;rintro _ w ⟨rfl,hs⟩
  refine .go ?_
  refine .z 7 rfl zg ?_;refine .D hs ?_
  refine .draw mix rfl hs fun w hs=>?_
  refine .z 0 rfl zm ?_;refine .z 1 rfl zm ?_;refine .z 2 rfl zm ?_;refine .z 4 rfl zm ?_;refine .z 5 rfl znc ?_;refine .z 6 rfl (zfa cQ) ?_;refine .z 7 rfl (zfa aN) ?_;refine .ys 8 rfl hs [_,_,_,_,_,_] aM aE ?_;refine .z 9 rfl (zfa eQ) ?_;refine .y 10 rfl hs ae ?_
  refine .z 11 rfl (zfa eP) ?_;refine .y 12 rfl hs ae ?_;refine .z 14 rfl (zfa dM) ?_;refine .y 15 rfl hs ae ?_;refine .z 16 rfl (zfa cm) ?_;refine .y 17 rfl hs ae ?_;refine .z 18 rfl cC ?_;refine .z 19 rfl (zfa cm) ?_;refine .y 20 rfl hs ae ?_;refine .z 21 rfl (zfa dM) ?_
  refine .y 22 rfl hs ae ?_;refine .z 23 rfl iK ?_;refine .z 24 rfl (zfa eR) ?_;refine .y 25 rfl hs ae ?_
  refine .E 3 hs ?_
  refine .call Tryz.call116 rfl (iz (s:=s.sp) hs (.there .here) hk.st hk.wa ⟨aj,aj⟩ ⟨aj,aj⟩) ?_;rintro _ w ⟨rfl,hs⟩
  refine .go ?_
  refine .E 13 hs ?_
  refine .call Tryz.call118 rfl (jF (s:=s.sp) hs hk.wa aj ⟨aj,aj⟩ ⟨aj,aj⟩) ?_;rintro _ w ⟨rfl,hs⟩
  refine .go ?_
  refine .E 26 hs ?_
  refine .call sR rfl (eZ (ls:=ls++sU s.sp ts s.rs i) (hs.sb:St H w (.blk bm _::en:: .blk b3 _::σ)) hO (by rw [List.length_append];omega)) ?_;rintro _ w ⟨vl3,en3,hO3,hs⟩
  refine .go ?_
  refine .D hs ?_
  refine nB (nT ?_)
  rw [List.append_assoc,show sU s.sp ts s.rs i++two ((s.sp.many:Int)+1+gH ts r.td) (1+r.st*s.sp.wa.length+r.wa) (r.val+r.tol) (r.tol - r.val) r.src=sU s.sp ts s.rs (i+1) by rw [←Ag hx];rfl] at hO3
  exact .mk ⟨rfl,vl3,en3,hO3,hs.sb⟩
 ·rintro fr w ⟨rfl,vl,en,hO,hs⟩
  exact Fin.wW Tryz.results179 ⟨H,vl,en,HLe.refl _,hO,hs⟩
def fnK:Nat→Nat
 |0=>174
 |1=>175
 |2=>176
 |3=>177
 |4=>178
 |_=>179
theorem CA{k:Nat}(hk:k<6):∀args w,(callFunc (fnK k) args).run Tryz.prog w= .ok (.enter (fnK k) args) w:=by
 have h:k=0∨k=1∨k=2∨k=3∨k=4∨k=5:=by omega
 rcases h with rfl|rfl|rfl|rfl|rfl|rfl
 ·exact Tryz.call174
 ·exact Tryz.call175
 ·exact Tryz.call176
 ·exact Tryz.call177
 ·exact Tryz.call178
 ·exact Tryz.call179
theorem Au{s:Srv}{vst vwa vr vc vt vl:Value}{en:Ent}{bm k:Nat}(hs:St H w (.blk bm [I s.sp.id,I s.sp.src,vst,vwa,I s.sp.al,I s.sp.up,vr,vc,vt,vl]::en::σ))(hk:MkK H s s.bh vst vwa vr vc vt)(hO:bQ 4 vl (fF (s.parts k)) en)(he:s.early)(hk6:k<6):
  Cl Tryz.prog (fnK k) [.pointer (some ⟨bm,0,none⟩)] w fun _ w'=>∃H1 vl' en',HLe H H1∧bQ 4 vl' (fF (s.parts (k+1))) en'∧St H1 w' (.blk bm [I s.sp.id,I s.sp.src,vst,vwa,I s.sp.al,I s.sp.up,vr,vc,vt,vl']::en'::σ):=by
 have hl:=kl he k aj
 obtain ⟨hok,h1,h2,h3,h4⟩:=he
 have htl:s.bh.length≤100:=by have:=cI s.rs;unfold Srv.bh;omega
 have h:k=0∨k=1∨k=2∨k=3∨k=4∨k=5:=by omega
 rcases h with rfl|rfl|rfl|rfl|rfl|rfl
 ·exact ox hs hk hO (Nat.le_trans hl fD) hok
 ·exact qY hs hk hO (Nat.le_trans hl fD) hok
 ·exact uF hs hk hO (Nat.le_trans hl fD) hok
 ·exact qk hs hk hO (Nat.le_trans hl fD) hok htl
 ·exact lZ hs hk hO (Nat.le_trans hl fD) hok htl h2 h4
 ·exact ow hs hk hO (Nat.le_trans hl fD) hok htl h1 h3 fun r hr=>fB.2 ⟨r,hr,rfl⟩
def fnV(b:Nat)(k:Nat):Value:= .func (.func (fnK k)) #[.pointer (some ⟨b,0,none⟩)] #[]
theorem DP(b:Nat){k:Nat}(hk:k<6):[fnV b 0,fnV b 1,fnV b 2,fnV b 3,fnV b 4,fnV b 5][k]? =some (fnV b k):=by
 have h:k=0∨k=1∨k=2∨k=3∨k=4∨k=5:=by omega
 rcases h with rfl|rfl|rfl|rfl|rfl|rfl<;>rfl
set_option maxHeartbeats 1000000 in
theorem km{s:Srv}{vst vwa vr vc:Value}(hs:St H w σ)(h1:RI H vst s.sp.st)(h2:RI H vwa s.sp.wa)(h3:RRd H vr s.rs)(h4:RCm H vc s.cs)(he:s.early):
  Cl Tryz.prog 92 [.agg #[I s.sp.id,I s.sp.src,vst,vwa,I s.sp.al,I s.sp.up,vr,vc]] w fun u w'=>∃H1 vl en,HLe H H1∧u= .agg #[I s.sys.many,vl]∧bQ 4 vl (fF s.bK) en∧St H1 w' (en::σ):=by
 have hsm:=eo he.1
 have htl:s.bh.length≤60:=by have:=cI s.rs;have:=he.2.1;unfold Srv.bh;omega
 refine Cl.o Tryz.func92 Tryz.ntmps92 ag1 ?_
 refine .ai ?_
 refine .bx hs fun b1 w hs=>?_
 refine .o (.alloc hs dC rfl fun b2 w hs=>?_)
 refine .nil ?_
 refine .seq (.draw mix rfl hs fun w hs=>?_)
 refine .ys 0 rfl hs [_,_,_,_,_,_,_,_] aJ aD ?_;refine .ys 1 rfl hs [_,_,_,_,_,_,_,_] aJ aD ?_
 refine .E 2 hs ?_
 refine .call Tryz.call90 rfl (fR hs h3 (by have:=he.2.1;omega)) ?_;rintro v8 w ⟨H1,hle1,hT,hs⟩
 obtain ⟨at_,ct,rfl⟩:=RTd.shape hT
 have hk0:MkK H1 s s.bh vst vwa vr vc (.slice at_ s.bh.length ct):=⟨h1.mono hle1,h2.mono hle1,h3.mono hle1,h4.mono hle1,hT⟩
 refine .go ?_
 refine .z 3 rfl (zbd (vs:=[(0,.agg #[I s.sp.id,I s.sp.src,vst,vwa,I s.sp.al,I s.sp.up,vr,vc]),(1,.slice at_ s.bh.length ct)]) [I s.sp.id,I s.sp.src,vst,vwa,I s.sp.al,I s.sp.up,vr,vc,.slice at_ s.bh.length ct,.slice none 0 0] kX rfl an) ?_
 refine .E 4 hs ?_
 refine .box hs rfl rfl ?_;intro b10 w hs
 refine .go ?_
 refine .z 5 rfl zg ?_;refine .D hs ?_
 refine .seq (.ai (.z zm ?_))
 refine .q hs (da (f:=[_]) (c:=[]) rfl rfl) ?_
 refine .z zm ?_
 refine .q hs (da (f:=[_]) (c:=[]) rfl rfl) ?_
 refine .z zm ?_
 refine .q hs (da (f:=[_]) (c:=[]) rfl rfl) ?_
 refine .z zm ?_
 refine .q hs (da (f:=[_]) (c:=[]) rfl rfl) ?_
 refine .z zm ?_
 refine .q hs (da (f:=[_]) (c:=[]) rfl rfl) ?_
 refine .z zm ?_
 refine .q hs (da (f:=[_]) (c:=[]) rfl rfl) ?_
 refine .o (.buildSlice (cells:=[fnV b10 0,fnV b10 1,fnV b10 2,fnV b10 3,fnV b10 4,fnV b10 5]) hs u4 rfl an fun b23 w hs=>?_)
 refine .z (cS Tryz.runUnderlying223) ?_
 refine .z zm (.nil ?_)
 refine .for (N:=6) (J:=fun k fr w=>fr=[(23,.slice (some ⟨b23,0,none⟩) 6 6),(3,.pointer (some ⟨b10,0,none⟩)),(2,.pointer (some ⟨b2,0,none⟩)),(1,.pointer (some ⟨b1,0,none⟩))]∧∃H2 vl en,HLe H1 H2∧bQ 4 vl (fF (s.parts k)) en∧St H2 w (.blk b10 [I s.sp.id,I s.sp.src,vst,vwa,I s.sp.al,I s.sp.up,vr,vc,.slice at_ s.bh.length ct,vl]::en:: .blk b23 [fnV b10 0,fnV b10 1,fnV b10 2,fnV b10 3,fnV b10 4,fnV b10 5]:: .blk b2 [I 0,.slice none 0 0]:: .blk b1 [I s.sp.id,I s.sp.src,vst,vwa,I s.sp.al,I s.sp.up,vr,vc]::σ)) aj ?_ ?_ ?_
 ·exact .mk ⟨rfl,H1,.slice none 0 0,.nul,HLe.refl _,.nil 4 none,hs.nul.sb⟩
 ·rintro k fr w hk ⟨rfl,H2,vl,en,hle2,hO,hs⟩
  refine .block (.ai ?_)
  refine .z (zix Tryz.runUnderlying223 Tryz.sizeOf1) ?_
  refine .q hs (gh rfl Tryz.isAgg1 (hv:=DP b10 hk)) ?_
  refine .z zg (.nil (.region (.z zm ?_)))
  refine .o (.ns (first:=[.pointer (some ⟨b10,0,none⟩)]) (cap:=[]) rfl rfl (CA hk) (Au hs (hk0.mono hle2) hO he hk) ?_);rintro _ w ⟨H3,vl3,en3,hle3,hO3,hs⟩
  refine .nil ?_
  refine nB (nT ?_)
  exact .mk ⟨rfl,H3,vl3,en3,hle2.trans hle3,hO3,hs⟩
 ·rintro fr w ⟨rfl,H2,vl,en,hle2,hO,hs⟩
  rw [s.ux] at hO
  obtain ⟨al,ll,cl,rfl,hll⟩:=hO.shape
  refine nT ?_
  refine .seq (.draw mix rfl hs fun w hs=>?_)
  refine .z 0 rfl (zfa aN) ?_;refine .ys 1 rfl hs [_,_,_,_,_,_] aM aE ?_;refine .z 3 rfl zm ?_;refine .z 4 rfl znc ?_;refine .z 5 rfl (zfa eV) ?_;refine .y 6 rfl hs F3 ?_;refine .z 7 rfl (cS aO) ?_;refine .z 9 rfl zm ?_;refine .z 10 rfl znc ?_;refine .z 11 rfl (zfa fT) ?_
  refine .y 12 rfl hs bU ?_
  refine .E 2 hs ?_
  refine .call Tryz.call91 rfl (fj (s:=s.sp) hs (h1.mono (hle1.trans hle2)) (h2.mono (hle1.trans hle2)) ⟨aj,aj⟩) ?_;rintro _ w ⟨rfl,hs⟩
  refine .go ?_
  refine .z 8 rfl cC ?_;refine .z 13 rfl (zbd [_,_] kH) ?_
  refine .E 14 hs ?_
  refine .aQ (vs:=[_,_]) hs rfl rfl aH ?_;intro w hs
  refine .go ?_
  refine .D hs ?_
  refine .ret ?_
  replace hs:St H2 w (.blk b2 [I ((s.sp.many:Int)+(s.bh.length:Int)),.slice al ll cl]::en::σ):=hs.sb
  exact Fin.gV [] [] hs fun w hs=>⟨_,results1 Tryz.results92 (di (vs:=[_,_]) hs rfl a8 aH),H2,_,en,hle1.trans hle2,by show _=Value.agg #[I ((s.sp.many+s.bh.length:Nat):Int),_];rw [Int.natCast_add],hO,hs.tail⟩
theorem dO{s:Srv}{vst vwa vr vc:Value}(hs:St H w σ)(h1:RI H vst s.sp.st)(h2:RI H vwa s.sp.wa)(h3:RRd H vr s.rs)(h4:RCm H vc s.cs)(he:s.early):
  Cl Tryz.prog 92 [.agg #[I s.sp.id,I s.sp.src,vst,vwa,I s.sp.al,I s.sp.up,vr,vc]] w fun u w'=>∃H1,HLe H H1∧RSy H1 u s.sys∧St H1 w' σ:=by
 refine (km hs h1 h2 h3 h4 he).mono ?_
 rintro u w' ⟨H1,vl,en,hle,rfl,hO,hs⟩
 have hl:=kl he 6 aj
 rw [s.ux] at hl
 obtain ⟨H2,hle2,hR,hs⟩:=bQ.bX (m:=4) (cs:=s.bK.map Lim.c) hO (fun c hc=>by simp only [List.mem_map] at hc;obtain ⟨x,_,rfl⟩:=hc;rfl) aj (by rw [List.length_map];omega) hs .here
 exact ⟨H2,hle.trans hle2,⟨vl,rfl,hR⟩,hs⟩
set_option maxHeartbeats 1000000 in
theorem dk{s:Srv}{vst vwa vr vc:Value}(hs:St H w σ)(h1:RI H vst s.sp.st)(h2:RI H vwa s.sp.wa)(h3:RRd H vr s.rs)(h4:RCm H vc s.cs):
  Cl Tryz.prog 42 [.agg #[I s.sp.id,I s.sp.src,vst,vwa,I s.sp.al,I s.sp.up,vr,vc]] w fun u w'=>∃H1 e,HLe H H1∧u=I e∧tc s e∧St H1 w' σ:=by
 obtain ⟨ast,cst,rfl⟩:=RI.shape h1
 obtain ⟨awa,cwa,rfl⟩:=RI.shape h2
 obtain ⟨ar,cr,rfl⟩:=RRd.shape h3
 obtain ⟨ac,cc,rfl⟩:=RCm.shape h4
 refine Cl.o Tryz.func42 Tryz.ntmps42 ag1 ?_
 refine .ai ?_
 refine .bx hs fun b1 w hs=>?_
 refine .z zg (.nil (.seq (.ai (.z (zfa aN) (.y hs (zls [_,_,_,_,_,_] aM aE) ?_)))))
 refine .o (.call Tryz.call41 rfl (ir (s:=s.sp) hs h1 h2) ?_);rintro _ w ⟨H1,e,hle1,rfl,he,hs⟩
 refine .z zg (.nil (.ai (.z zm (.z fP (.nil ?_)))))
 refine (.ep rfl (fun hc13=>?_) (fun hc13=>?_))
 ·refine .ai (.z zm (.z zg (.nil ?_)))
  refine .ret (rT (Fin.bD ke rfl ?_))
  have hq:¬fW s.sp∧e=30:=he.resolve_left fun h=>hc13 h.2
  exact ⟨H1,_,hle1,rfl,by rw [hq.2];exact .space hq.1,hs.out⟩
 ·refine .skip ?_
  refine nT ?_
  refine .seq (.ai (.z (zfa bn) ?_))
  have hok:fW s.sp:=(he.resolve_right fun h=>by omega).1
  refine .y hs (zld cz) (.z (cS aK) (.z qN (.z zm ?_)))
  refine .j7 (t':=19) rfl (fun hb19=>?_) (fun hb19=>?_)
  ·refine .gFs 4 4 false rfl rfl rfl ?_
   refine .z zpT (.nil ?_)
   refine (.cT ?_)
   refine .ai (.z zg (.nil ?_))
   refine .ret (rT (Fin.bD ke rfl ?_))
   exact ⟨H1,_,hle1,rfl,.long hok aj,hs.out⟩
  ·refine .gT rfl rfl ?_
   refine .z (zfa cV) ?_
   refine .gT rfl rfl ?_
   refine .y hs (zld kL) ?_
   refine .gT rfl rfl ?_
   refine .z (cS cf) ?_
   refine .gT rfl rfl ?_
   refine .z qN (.z zpF (.nil ?_))
   refine (.cg rfl (fun hc24=>?_) (fun hc24=>?_))
   ·refine .ai (.z zg (.nil ?_))
    refine .ret (rT (Fin.bD ke rfl ?_))
    exact ⟨H1,_,hle1,rfl,.long hok aj,hs.out⟩
   ·refine .skip ?_
    refine nT ?_
    refine .seq (.ai (.z (zfa bn) (.y hs (zld cz) (.z (cS aK) (.z zm (.nil ?_))))))
    refine .for (N:=s.rs.length) (J:=fun k fr w=>fr=[(26,.slice ar s.rs.length cr),(1,.pointer (some ⟨b1,0,none⟩))]∧(∀j<k,∀y,s.rs[j]? =some y→jC s.sp y)∧St H1 w (.blk b1 [I s.sp.id,I s.sp.src,.slice ast s.sp.st.length cst,.slice awa s.sp.wa.length cwa,I s.sp.al,I s.sp.up,.slice ar s.rs.length cr,.slice ac s.cs.length cc]::σ)) aj ?_ ?_ ?_
    ·exact .mk ⟨rfl,fun j hj=>by omega,hs⟩
    ·rintro k fr w hk ⟨rfl,hno,hs⟩
     obtain ⟨r,hx⟩:=nth hk
     refine .block (.ai ?_)
     refine .ixX (enc:=Rdg.c) hs (h3.mono hle1) rfl rfl aK aW hx dK ?_;intro b30 o30 hc30
     refine .q hs (bY (vs:=(Rdg.c r)) rfl eh aW hc30) ?_
     refine .o (.alloc hs ew rfl fun b5 w hs=>?_)
     refine .o (.aQ (vs:=r.c) hs rfl rfl aW fun w hs=>?_)
     change St _ _ (.blk b5 [I r.src,I r.st,I r.wa,I r.val,I r.tol,I r.tape,I r.day]::_) at hs
     refine .nil (.ai (.z (zfa aN) (.y hs (zls [_,_,_,_,_,_] aM aE) (.y hs (zls [_,_,_,_,_,_,_] eh aW) ?_))))
     refine .o (.call Tryz.call107 rfl (iI (s:=s.sp) (r:=r) hs (h1.mono hle1) (h2.mono hle1)) ?_);rintro _ w ⟨b35,rfl,hb35,hs⟩
     refine .z iU (.nil ?_)
     refine (.cond rfl (fun hc36=>?_) (fun hc36=>?_))
     ·refine .ai (.z zg (.nil ?_))
      refine .ret (rB (rT (rB (rT (Fin.bD ke rfl ?_)))))
      exact ⟨H1,_,hle1,rfl,.rdg hok aj (fun h=>by rw [hb35.2 (h r (List.mem_of_getElem? hx))] at hc36;cases hc36),hs.out⟩
     ·refine .skip ?_
      refine nB (nT ?_)
      exact .mk ⟨rfl,eS hno hx (hb35.1 (by simpa using hc36)),hs.tail⟩
    ·rintro fr w ⟨rfl,hno,hs⟩
     have hrs:∀r∈s.rs,jC s.sp r:=fun r hr=>by
      obtain ⟨j,hj⟩:=List.getElem?_of_mem hr
      exact hno j (List.getElem?_eq_some_iff.1 hj).1 r hj
     clear hno
     refine nT ?_
     refine .seq (.ai (.z (zfa cV) (.y hs (zld kL) (.z (cS cf) (.z zm (.nil ?_))))))
     refine .for (N:=s.cs.length) (J:=fun k fr w=>fr=[(39,.slice ac s.cs.length cc),(1,.pointer (some ⟨b1,0,none⟩))]∧(∀j<k,∀y,s.cs[j]? =some y→rj y)∧St H1 w (.blk b1 [I s.sp.id,I s.sp.src,.slice ast s.sp.st.length cst,.slice awa s.sp.wa.length cwa,I s.sp.al,I s.sp.up,.slice ar s.rs.length cr,.slice ac s.cs.length cc]::σ)) aj ?_ ?_ ?_
     ·exact .mk ⟨rfl,fun j hj=>by omega,hs⟩
     ·rintro k fr w hk ⟨rfl,hno,hs⟩
      obtain ⟨c,hx⟩:=nth hk
      refine .block (.ai ?_)
      refine .ixX (enc:=Cmp.c) hs (h4.mono hle1) rfl rfl cf dx hx dK ?_;intro b43 o43 hc43
      refine .q hs (bY (vs:=(Cmp.c c)) rfl Er dx hc43) ?_
      refine .o (.alloc hs ny rfl fun b7 w hs=>?_)
      refine .o (.aQ (vs:=c.c) hs rfl rfl dx fun w hs=>?_)
      change St _ _ (.blk b7 [I c.src,I c.tape,I c.fr,I c.to,I c.lo,I c.hi]::_) at hs
      refine .nil (.ai (.y hs (zls [_,_,_,_,_,_] Er dx) ?_))
      refine .o (.call Tryz.call108 rfl (lY (c:=c) hs) ?_);rintro _ w ⟨b46,rfl,hb46,hs⟩
      refine .z iU (.nil ?_)
      refine (.cond rfl (fun hc47=>?_) (fun hc47=>?_))
      ·refine .ai (.z zg (.nil ?_))
       refine .ret (rB (rT (rB (rT (Fin.bD ke rfl ?_)))))
       exact ⟨H1,_,hle1,rfl,.cmp hok aj hrs (fun h=>by rw [hb46.2 (h c (List.mem_of_getElem? hx))] at hc47;cases hc47),hs.out⟩
      ·refine .skip ?_
       refine nB (nT ?_)
       exact .mk ⟨rfl,eS hno hx (hb46.1 (by simpa using hc47)),hs.tail⟩
     ·rintro fr w ⟨rfl,hno,hs⟩
      have hcs:∀c∈s.cs,rj c:=fun c hc=>by
       obtain ⟨j,hj⟩:=List.getElem?_of_mem hc
       exact hno j (List.getElem?_eq_some_iff.1 hj).1 c hj
      have hea:s.early:=⟨hok,aj,aj,hrs,hcs⟩
      have hsm:=eo hok
      have htl:s.bh.length≤60:=by have:=cI s.rs;have:=hea.2.1;unfold Srv.bh;omega
      have hll:=kl hea 6 aj
      rw [s.ux] at hll
      have hsm2:s.sys.many=((s.sp.many+s.bh.length:Nat):Int):=rfl
      refine nT ?_
      refine .seq (.ai (.y hs (zls [_,_,_,_,_,_,_,_] aJ aD) ?_))
      refine .o (.call vG rfl (dO (s:=s) hs (h1.mono hle1) (h2.mono hle1) (h3.mono hle1) (h4.mono hle1) hea) ?_);rintro _ w ⟨H2,hle2,⟨ul,rfl,hL⟩,hs⟩
      obtain ⟨al,cl,rfl⟩:=RL.shape hL
      have hsl:s.sys.bK.length=s.bK.length:=rfl
      refine .o (.alloc hs dC rfl fun b8 w hs=>?_)
      refine .o (.aQ (vs:=[_,_]) hs rfl rfl aH fun w hs=>?_)
      refine .nil (.ai (.z (zfa bw) (.y hs (zld ae) (.z qN (.z zm ?_)))))
      refine .j7 (t':=54) rfl (fun hb54=>?_) (fun hb54=>?_)
      ·refine .gFs 4 3 false rfl rfl rfl ?_
       refine .z zpT (.nil ?_)
       refine (.cT ?_)
       refine .ai (.z zg (.nil ?_))
       refine .ret (rT (Fin.bD ke rfl ?_))
       exact ⟨H2,_,hle1.trans hle2,rfl,.big hea aj,hs.out⟩
      ·refine .gT rfl rfl ?_
       refine .z (zfa bu) ?_
       refine .gT rfl rfl ?_
       refine .y hs (zld bU) ?_
       refine .gT rfl rfl ?_
       refine .z (cS aI) ?_
       refine .gT rfl rfl ?_
       refine .z qN (.z zpF (.nil ?_))
       refine (.cg rfl (fun hc59=>?_) (fun hc59=>?_))
       ·refine .ai (.z zg (.nil ?_))
        refine .ret (rT (Fin.bD ke rfl ?_))
        exact ⟨H2,_,hle1.trans hle2,rfl,.big hea aj,hs.out⟩
       ·refine .skip ?_
        refine nT ?_
        refine .ai (.z zg (.nil ?_))
        refine .ret (Fin.bD ke rfl ?_)
        exact ⟨H2,_,hle1.trans hle2,rfl,.ok hea ⟨aj,aj⟩,hs.out⟩
theorem fA{a0 a1 a2:Int}(hs:St H w σ):Cl Tryz.prog 83 [I a0,I a1,I a2] w fun v w'=>v= .bool (decide (a1≤a0∧a0≤a2))∧St H w' σ:=by
 refine Cl.o Tryz.func83 Tryz.ntmps83 ag3 ?_
 refine .ai (.z zg (.nil (.ai (.z zm (.z zm (.z xQ (.z zm ?_)))))))
 refine .j7 (t':=10) rfl (fun hb10=>?_) (fun hb10=>?_)
 ·refine .gT rfl rfl ?_
  refine .z zm ?_
  refine .gT rfl rfl ?_
  refine .z zm ?_
  refine .gT rfl rfl ?_
  refine .z vA (.z zpT (.z zg (.nil ?_)))
  refine .ret (Fin.bD Tryz.results83 rfl ?_)
  exact ⟨by simp [*],hs.out⟩
 ·refine .gFs 3 3 true rfl rfl rfl ?_
  refine .z zpF (.z zg (.nil ?_))
  refine .ret (Fin.bD Tryz.results83 rfl ?_)
  exact ⟨by simp [*],hs.out⟩
theorem Dy{s:Spc}(h:fW s):gx 9 100000 s.wa:=⟨h.wa.two,by have:=h.wa.many;omega,h.wa.low,by have:=h.wa.high;omega,h.wa.rise⟩
theorem lk{s:Spc}{r:Rdg}{vst vwa:Value}(hs:St H w σ)(h1:RI H vst s.st)(h2:RI H vwa s.wa):
  Cl Tryz.prog 109 [.agg #[I s.id,I s.src,vst,vwa,I s.al,I s.up],.agg #[I r.src,I r.st,I r.wa,I r.val,I r.tol,I r.tape,I r.day]] w fun v w'=>∃b:Bool,v= .bool b∧(b=true↔jC s r)∧St H w' σ:=by
 obtain ⟨ast,cst,rfl⟩:=RI.shape h1
 obtain ⟨awa,cwa,rfl⟩:=RI.shape h2
 have l1:=(RI.len h1).2.2
 have l2:=(RI.len h2).2.2
 refine Cl.o Tryz.func109 Tryz.ntmps109 ag2 ?_
 refine .ai ?_
 refine .bx hs fun b2 w hs=>?_
 refine .bx hs fun b3 w hs=>?_
 refine .z zg (.nil (.ai (.z (zfa eR) (.y hs (zld ae) ?_))))
 refine .o (.call vH rfl (fA hs) ?_);rintro _ w ⟨rfl,hs⟩
 refine .z zm ?_
 refine .bif (t':=8) rfl (fun hb8=>?_) (fun hb8=>?_)
 ·refine .gT rfl rfl ?_
  refine .z (zfa eQ) ?_
  refine .gT rfl rfl ?_
  refine .y hs (zld ae) ?_
  refine .gT rfl rfl ?_
  refine .z (zfa bB) ?_
  refine .gT rfl rfl ?_
  refine .y hs (zld ak) ?_
  refine .gT rfl rfl ?_
  refine .z (cS ad) ?_
  refine .gT rfl rfl ?_
  refine .z iK ?_
  refine .gT rfl rfl ?_
  refine .o (.call vH rfl (fA hs) ?_);rintro _ w ⟨rfl,hs⟩
  refine .z zpT (.z zm ?_)
  refine .bif (t':=17) rfl (fun hb17=>?_) (fun hb17=>?_)
  ·refine .gT rfl rfl ?_
   refine .z (zfa eP) ?_
   refine .gT rfl rfl ?_
   refine .y hs (zld ae) ?_
   refine .gT rfl rfl ?_
   refine .z (zfa br) ?_
   refine .gT rfl rfl ?_
   refine .y hs (zld ak) ?_
   refine .gT rfl rfl ?_
   refine .z (cS ad) ?_
   refine .gT rfl rfl ?_
   refine .z iK ?_
   refine .gT rfl rfl ?_
   refine .o (.call vH rfl (fA hs) ?_);rintro _ w ⟨rfl,hs⟩
   refine .z zpT (.z zm ?_)
   refine .bif (t':=26) rfl (fun hb26=>?_) (fun hb26=>?_)
   ·refine .gT rfl rfl ?_
    refine .z (zfa cm) ?_
    refine .gT rfl rfl ?_
    refine .y hs (zld ae) ?_
    refine .gT rfl rfl ?_
    refine .o (.call vH rfl (fA hs) ?_);rintro _ w ⟨rfl,hs⟩
    refine .z zpT (.z zm ?_)
    refine .bif (t':=31) rfl (fun hb31=>?_) (fun hb31=>?_)
    ·refine .gT rfl rfl ?_
     refine .z (zfa dM) ?_
     refine .gT rfl rfl ?_
     refine .y hs (zld ae) ?_
     refine .gT rfl rfl ?_
     refine .z (zfa cm) ?_
     refine .gT rfl rfl ?_
     refine .y hs (zld ae) ?_
     refine .gT rfl rfl ?_
     have ht:0≤r.tol∧r.tol≤1000:=by simp_all
     refine .z iK ?_
     refine .gT rfl rfl ?_
     refine .o (.call vH rfl (fA hs) ?_);rintro _ w ⟨rfl,hs⟩
     refine .z zpT (.z zm ?_)
     refine .bif (t':=39) rfl (fun hb39=>?_) (fun hb39=>?_)
     ·refine .gT rfl rfl ?_
      refine .z (zfa eg) ?_
      refine .gT rfl rfl ?_
      refine .y hs (zld ae) ?_
      refine .gT rfl rfl ?_
      refine .o (.call vH rfl (fA hs) ?_);rintro _ w ⟨rfl,hs⟩
      refine .z zpT (.z zm ?_)
      refine .bif (t':=44) rfl (fun hb44=>?_) (fun hb44=>?_)
      ·refine .gT rfl rfl ?_
       refine .z (zfa ef) ?_
       refine .gT rfl rfl ?_
       refine .y hs (zld ae) ?_
       refine .gT rfl rfl ?_
       refine .o (.call vH rfl (fA hs) ?_);rintro _ w ⟨rfl,hs⟩
       refine .z zpT (.z zg (.nil ?_))
       refine .ret (Fin.bD lP rfl ?_)
       first
       |exact ⟨false,rfl,⟨fun h=>(by cases h),fun h=>(by obtain ⟨g1,g2,g3,g4,g5,g6,g7⟩:=h;simp_all;done)⟩,hs.out⟩
       |exact ⟨_,rfl,⟨fun h=>⟨by simp_all,by simp_all,by simp_all,by simp_all,by simp_all,by simp_all,by simpa using h⟩,fun h=>by simpa using h.day⟩,hs.out⟩
      ·refine .gFs 3 39 true rfl rfl rfl ?_
       refine .z zpF (.z zg (.nil ?_))
       refine .ret (Fin.bD lP rfl ?_)
       first
       |exact ⟨false,rfl,⟨fun h=>(by cases h),fun h=>(by obtain ⟨g1,g2,g3,g4,g5,g6,g7⟩:=h;simp_all;done)⟩,hs.out⟩
       |exact ⟨_,rfl,⟨fun h=>⟨by simp_all,by simp_all,by simp_all,by simp_all,by simp_all,by simp_all,by simpa using h⟩,fun h=>by simpa using h.day⟩,hs.out⟩
     ·refine .gFs 3 34 true rfl rfl rfl ?_
      refine .z zpF (.z zm ?_)
      refine .gFs 3 39 true rfl rfl rfl ?_
      refine .z zpF (.z zg (.nil ?_))
      refine .ret (Fin.bD lP rfl ?_)
      first
      |exact ⟨false,rfl,⟨fun h=>(by cases h),fun h=>(by obtain ⟨g1,g2,g3,g4,g5,g6,g7⟩:=h;simp_all;done)⟩,hs.out⟩
      |exact ⟨_,rfl,⟨fun h=>⟨by simp_all,by simp_all,by simp_all,by simp_all,by simp_all,by simp_all,by simpa using h⟩,fun h=>by simpa using h.day⟩,hs.out⟩
    ·refine .gFs 6 26 true rfl rfl rfl ?_
     refine .z zpF (.z zm ?_)
     refine .gFs 3 34 true rfl rfl rfl ?_
     refine .z zpF (.z zm ?_)
     refine .gFs 3 39 true rfl rfl rfl ?_
     refine .z zpF (.z zg (.nil ?_))
     refine .ret (Fin.bD lP rfl ?_)
     first
     |exact ⟨false,rfl,⟨fun h=>(by cases h),fun h=>(by obtain ⟨g1,g2,g3,g4,g5,g6,g7⟩:=h;simp_all;done)⟩,hs.out⟩
     |exact ⟨_,rfl,⟨fun h=>⟨by simp_all,by simp_all,by simp_all,by simp_all,by simp_all,by simp_all,by simpa using h⟩,fun h=>by simpa using h.day⟩,hs.out⟩
   ·refine .gFs 3 21 true rfl rfl rfl ?_
    refine .z zpF (.z zm ?_)
    refine .gFs 6 26 true rfl rfl rfl ?_
    refine .z zpF (.z zm ?_)
    refine .gFs 3 34 true rfl rfl rfl ?_
    refine .z zpF (.z zm ?_)
    refine .gFs 3 39 true rfl rfl rfl ?_
    refine .z zpF (.z zg (.nil ?_))
    refine .ret (Fin.bD lP rfl ?_)
    first
    |exact ⟨false,rfl,⟨fun h=>(by cases h),fun h=>(by obtain ⟨g1,g2,g3,g4,g5,g6,g7⟩:=h;simp_all;done)⟩,hs.out⟩
    |exact ⟨_,rfl,⟨fun h=>⟨by simp_all,by simp_all,by simp_all,by simp_all,by simp_all,by simp_all,by simpa using h⟩,fun h=>by simpa using h.day⟩,hs.out⟩
  ·refine .gFs 7 12 true rfl rfl rfl ?_
   refine .z zpF (.z zm ?_)
   refine .gFs 3 21 true rfl rfl rfl ?_
   refine .z zpF (.z zm ?_)
   refine .gFs 6 26 true rfl rfl rfl ?_
   refine .z zpF (.z zm ?_)
   refine .gFs 3 34 true rfl rfl rfl ?_
   refine .z zpF (.z zm ?_)
   refine .gFs 3 39 true rfl rfl rfl ?_
   refine .z zpF (.z zg (.nil ?_))
   refine .ret (Fin.bD lP rfl ?_)
   first
   |exact ⟨false,rfl,⟨fun h=>(by cases h),fun h=>(by obtain ⟨g1,g2,g3,g4,g5,g6,g7⟩:=h;simp_all;done)⟩,hs.out⟩
   |exact ⟨_,rfl,⟨fun h=>⟨by simp_all,by simp_all,by simp_all,by simp_all,by simp_all,by simp_all,by simpa using h⟩,fun h=>by simpa using h.day⟩,hs.out⟩
 ·refine .gFs 7 3 true rfl rfl rfl ?_
  refine .z zpF (.z zm ?_)
  refine .gFs 7 12 true rfl rfl rfl ?_
  refine .z zpF (.z zm ?_)
  refine .gFs 3 21 true rfl rfl rfl ?_
  refine .z zpF (.z zm ?_)
  refine .gFs 6 26 true rfl rfl rfl ?_
  refine .z zpF (.z zm ?_)
  refine .gFs 3 34 true rfl rfl rfl ?_
  refine .z zpF (.z zm ?_)
  refine .gFs 3 39 true rfl rfl rfl ?_
  refine .z zpF (.z zg (.nil ?_))
  refine .ret (Fin.bD lP rfl ?_)
  first
  |exact ⟨false,rfl,⟨fun h=>(by cases h),fun h=>(by obtain ⟨g1,g2,g3,g4,g5,g6,g7⟩:=h;simp_all;done)⟩,hs.out⟩
  |exact ⟨_,rfl,⟨fun h=>⟨by simp_all,by simp_all,by simp_all,by simp_all,by simp_all,by simp_all,by simpa using h⟩,fun h=>by simpa using h.day⟩,hs.out⟩
theorem fQ{s:Spc}{vst vwa:Value}(hs:St H w σ)(h1:RI H vst s.st)(h2:RI H vwa s.wa)(hb:s.st.length≤1000∧s.wa.length≤1000):
  Cl Tryz.prog 97 [.agg #[I s.id,I s.src,vst,vwa,I s.al,I s.up]] w fun v w'=>v=I (s.many:Int)∧St H w' σ:=by
 obtain ⟨ast,cst,rfl⟩:=RI.shape h1
 obtain ⟨awa,cwa,rfl⟩:=RI.shape h2
 have hm:=mu (a:=(s.st.length:Int)) (b:=(s.wa.length:Int)) (A:=1000) (B:=1000) aj aj
 refine Cl.o Tryz.func97 Tryz.ntmps97 ag1 ?_
 refine .ai ?_
 refine .bx hs fun b1 w hs=>?_
 refine .z zg (.nil (.ai (.z (zfa bB) (.y hs (zld ak) (.z (cS ad) (.z (zfa br) (.y hs (zld ak) (.z (cS ad) (.z lG ?_)))))))))
 refine .z zg (.nil ?_)
 refine .ret (Fin.bD Tryz.results97 rfl ?_)
 exact ⟨by unfold Spc.many;rw [Int.natCast_mul],hs.out⟩
theorem dE{s:Spc}{vst vwa:Value}{a b:Int}(hs:St H w σ)(h2:RI H vwa s.wa)(hb:s.wa.length≤1000)(ha: -1000≤a∧a≤1000)(hb': -1000≤b∧b≤1000):
  Cl Tryz.prog 121 [.agg #[I s.id,I s.src,vst,vwa,I s.al,I s.up],I a,I b] w fun v w'=>v=I (1+a*s.wa.length+b)∧St H w' σ:=by
 obtain ⟨awa,cwa,rfl⟩:=RI.shape h2
 have hm:=mu (a:=a) (b:=(s.wa.length:Int)) (A:=1000) (B:=1000) aj aj
 refine Cl.o Tryz.func121 Tryz.ntmps121 ag3 ?_
 refine .ai ?_
 refine .bx hs fun b3 w hs=>?_
 refine .z zg (.nil (.ai (.z zm (.z (zfa br) (.y hs (zld ak) (.z (cS ad) (.z lG (.z cC (.z zm ?_)))))))))
 refine .z cC (.z zg (.nil ?_))
 refine .ret (Fin.bD Tryz.results121 rfl ?_)
 exact ⟨rfl,hs.out⟩
theorem kQ{a b:Int}(hs:St H w σ)(ha:0≤a∧a≤100000)(hb:0≤b∧b≤100000):
  Cl Tryz.prog 193 [I a,I b] w fun v w'=>v=I (jt a b)∧St H w' σ:=by
 have hm:=mu (a:=a) (b:=b) (A:=100000) (B:=100000) aj aj
 have h0:=Int.mul_nonneg ha.1 hb.1
 have hq0:0≤(a*b+999).tdiv 1000:=Int.tdiv_nonneg aj aj
 have hq1:(a*b+999).tdiv 1000≤a*b+999:=by rw [Int.tdiv_eq_ediv_of_nonneg aj];omega
 refine Cl.o Tryz.func193 Tryz.ntmps193 ag2 ?_
 refine .ai (.z zg (.nil (.ai (.z zm (.z zm (.z lG (.z cC ?_)))))))
 refine .q hs (xZ rfl rfl aj aj) ?_
 refine .z Bv (.z zg (.nil ?_))
 refine .ret (Fin.bD Tryz.results193 rfl ?_)
 exact ⟨rfl,hs⟩
theorem jR{a b m s:Int}(hs:St H w σ):
  Cl Tryz.prog 119 [I a,I b,I m,I s] w fun v w'=>∃b0,v= .slice (some ⟨b0,0,none⟩) 2 2∧St H w' (.blk b0 (fF (two a b m m s))::σ):=by
 refine Cl.o Tryz.func119 Tryz.ntmps119 ag4 ?_
 refine .ai (.z zg (.nil (.ai (.z zm (.z zm (.z zm (.z zm (.z (zbd [_,_,_,_] dU) (.z zm ?_)))))))))
 refine .z zm (.z zm (.z zm (.z (zbd [_,_,_,_] dU) ?_)))
 refine .o (.buildSlice (cells:=fF (two a b m m s)) hs eW rfl an fun b19 w hs=>?_)
 refine .z zg (.nil ?_)
 refine .ret (Fin.bD Tryz.results119 rfl ?_)
 exact ⟨b19,rfl,hs⟩
theorem rZ{c:Cmp}{t:TD}{f:Int}(hs:St H w σ)(hlo: -1000000≤c.lo∧c.lo≤1000000):
  Cl Tryz.prog 194 [.agg #[I c.src,I c.tape,I c.fr,I c.to,I c.lo,I c.hi],.agg #[I t.tape,I t.day],I f] w fun v w'=>∃en,bQ 4 v (fF (kA c t f)) en∧St H w' (en::σ):=by
 refine Cl.o Tryz.func194 Tryz.ntmps194 ag3 ?_
 refine .ai ?_
 refine .bx hs fun b3 w hs=>?_
 refine .bx hs fun b4 w hs=>?_
 refine .z zg (.nil (.seq (.ai (.z (zfa jx) (.y hs (zld ae) (.z (zfa lM) (.y hs (zld ae) (.z fP (.z zm ?_)))))))))
 refine .Ba (t':=12) rfl (fun hb12=>?_) (fun hb12=>?_)
 ·refine .gFs 5 5 false rfl rfl rfl ?_
  refine .z zpT (.z zm ?_)
  refine .gFs 5 12 false rfl rfl rfl ?_
  refine .z zpT (.nil ?_)
  refine (.cT ?_)
  refine .ai (.z zg (.nil ?_))
  refine .ret (rT (Fin.bD Tryz.results194 rfl ?_))
  exact ⟨.nul,by unfold kA;rw [if_neg aj];exact .nil 4 none,hs.tail.tail.nul⟩
 ·refine .gT rfl rfl ?_
  refine .z (zfa ju) ?_
  refine .gT rfl rfl ?_
  refine .y hs (zld ae) ?_
  refine .gT rfl rfl ?_
  refine .z (zfa jw) ?_
  refine .gT rfl rfl ?_
  refine .y hs (zld ae) ?_
  refine .gT rfl rfl ?_
  refine .z ik (.z zpF (.z zm ?_))
  refine .j7 (t':=19) rfl (fun hb19=>?_) (fun hb19=>?_)
  ·refine .gFs 5 12 false rfl rfl rfl ?_
   refine .z zpT (.nil ?_)
   refine (.cT ?_)
   refine .ai (.z zg (.nil ?_))
   refine .ret (rT (Fin.bD Tryz.results194 rfl ?_))
   exact ⟨.nul,by unfold kA;rw [if_neg aj];exact .nil 4 none,hs.tail.tail.nul⟩
  ·refine .gT rfl rfl ?_
   refine .z (zfa ju) ?_
   refine .gT rfl rfl ?_
   refine .y hs (zld ae) ?_
   refine .gT rfl rfl ?_
   refine .z (zfa gP) ?_
   refine .gT rfl rfl ?_
   refine .y hs (zld ae) ?_
   refine .gT rfl rfl ?_
   refine .z qN (.z zpF (.nil ?_))
   refine (.cg rfl (fun hc25=>?_) (fun hc25=>?_))
   ·refine .ai (.z zg (.nil ?_))
    refine .ret (rT (Fin.bD Tryz.results194 rfl ?_))
    exact ⟨.nul,by unfold kA;rw [if_neg aj];exact .nil 4 none,hs.tail.tail.nul⟩
   ·refine .skip ?_
    refine nT ?_
    refine .ai (.z zm (.z (zfa jv) (.y hs (zld ae) (.z xP (.z (zfa fK) (.y hs (zld ae) (.z (zbd [_,_,_,_] dU) (.z zm (.z (zfa gO) ?_)))))))))
    refine .y hs (zld ae) (.z (zfa fK) (.y hs (zld ae) (.z (zbd [_,_,_,_] dU) ?_)))
    refine .o (.buildSlice (cells:=fF (two 0 f (-c.lo) c.hi c.src)) hs eW rfl an fun b39 w hs=>?_)
    refine .z zg (.nil ?_)
    refine .ret (Fin.bD Tryz.results194 rfl ?_)
    exact ⟨_,by unfold kA;rw [if_pos aj];exact .full (by simp [two,de]),hs.sb⟩
theorem js{v:Value}{xs:List TD}{t:TD}(hs:St H w σ)(hr:RTd H v xs)(hl:xs.length≤1000000):
  Cl Tryz.prog 93 [v,.agg #[I t.tape,I t.day]] w fun u w'=>u=I (gH xs t)∧St H w' σ:=by
 obtain ⟨a,c,rfl⟩:=RTd.shape hr
 refine Cl.o Tryz.func93 Tryz.ntmps93 ag2 ?_
 refine .ai ?_
 refine .bx hs fun b3 w hs=>?_
 refine .z zg (.nil (.seq (.ai (.z zg (.nil (.block ?_))))))
 refine .loop (fun k:Nat=>⟨19,[],[(5,I (k:Int)),(3,.pointer (some ⟨b3,0,none⟩)),(0,.slice a xs.length c)]⟩)
  (fun k w=>k≤xs.length∧(∀j<k,∀y,xs[j]? =some y→¬y=t)∧St H w (.blk b3 [I t.tape,I t.day]::σ)) (fun k=>xs.length - k) 0 (.cR rfl bR bA)
  ⟨Nat.zero_le _,fun j hj=>by omega,hs⟩ ?_
 rintro k w ⟨hk,hno,hs⟩
 refine .seq (.ai (.z zm (.z zm (.z (cS aO) (.z ik (.nil ?_))))))
 refine (.cg rfl (fun hc9=>?_) (fun hc9=>?_))
 ·refine .skip ?_
  refine nT ?_
  refine .seq (.block ?_)
  refine .seq (.draw mix rfl hs fun w hs=>?_)
  refine .z 0 rfl zm ?_;refine .z 1 rfl zm ?_
  obtain ⟨x,hx⟩:=nth (l:=xs) (k:=k) aj
  refine .ixX (enc:=TD.c) (i:=2) hs rfl an .none hr rfl rfl aO bk hx dK ?_;intro b14 o14 hc14
  refine .r (i:=3) hs rfl an .none (bY (vs:=x.c) rfl cP bk hc14) ?_
  refine .ys 4 rfl hs [_,_] cP bk ?_
  refine .z 5 rfl (qC oR oS fq (fun f hf=>by
   simp only [List.mem_cons,List.not_mem_nil,or_false] at hf
   rcases hf with rfl|rfl<;>exact ⟨by decide,aV,ae⟩) rfl rfl) ?_
  refine .D hs ?_
  refine (.cond rfl (fun hc17=>?_) (fun hc17=>?_))
  ·refine .ai (.z zm (.z zg (.nil ?_)))
   refine .ret (rB (rT (rT (rB (rT (Fin.bD Tryz.results93 rfl ?_))))))
   have e:x=t:=zV.1 (of_decide_eq_true hc17)
   subst e
   exact ⟨by rw [me hx fun j hj h=>hno j hj _ h rfl],hs.tail⟩
  ·refine .skip ?_
   refine nB (nT ?_)
   refine .region (.z zm (.z cC (.z zg (.nil ?_))))
   refine nT ?_
   exact ⟨k+1,.cR rfl bR bA,⟨aj,eS hno hx (fun e=>by subst e;simp at hc17),hs⟩,aj⟩
 ·refine .exit ?_
  refine xT (xT (xB (nT ?_)))
  refine .ai (.z zg (.nil ?_))
  refine .ret (Fin.bD Tryz.results93 rfl ?_)
  obtain rfl:k=xs.length:=by omega
  exact ⟨by rw [rA hno],hs.tail⟩
theorem mm{v:Value}{en:Ent}{xs:List TD}{t:TD}(hs:St H w (en::σ))(hO:bQ 2 v (tdc xs).flatten en)(hl:xs.length≤1000000):
  Cl Tryz.prog 93 [v,.agg #[I t.tape,I t.day]] w fun u w'=>u=I (gH xs t)∧St H w' (en::σ):=by
 obtain ⟨a,c,rfl⟩:=hO.ja (kB xs) aj
 rw [cN] at hO ⊢
 refine Cl.o Tryz.func93 Tryz.ntmps93 ag2 ?_
 refine .ai ?_
 refine .bx hs fun b3 w hs=>?_
 refine .z zg (.nil (.seq (.ai (.z zg (.nil (.block ?_))))))
 refine .loop (fun k:Nat=>⟨19,[],[(5,I (k:Int)),(3,.pointer (some ⟨b3,0,none⟩)),(0,.slice a xs.length c)]⟩)
  (fun k w=>k≤xs.length∧(∀j<k,∀y,xs[j]? =some y→¬y=t)∧St H w (.blk b3 [I t.tape,I t.day]::en::σ)) (fun k=>xs.length - k) 0 (.cR rfl bR bA)
  ⟨Nat.zero_le _,fun j hj=>by omega,hs⟩ ?_
 rintro k w ⟨hk,hno,hs⟩
 refine .seq (.ai (.z zm (.z zm (.z (cS aO) (.z ik (.nil ?_))))))
 refine (.cg rfl (fun hc9=>?_) (fun hc9=>?_))
 ·refine .skip ?_
  refine nT ?_
  refine .seq (.block ?_)
  refine .seq (.draw mix rfl hs fun w hs=>?_)
  refine .z 0 rfl zm ?_;refine .z 1 rfl zm ?_
  obtain ⟨x,hx⟩:=nth (l:=xs) (k:=k) aj
  obtain ⟨b,c',sp,hv,rfl,_⟩:=hO.Fa (kB xs) aj (by rw [cN];omega)
  rw [cN] at hv
  cases hv
  refine .z 2 rfl (wS aO bk) ?_
  refine .xn (i:=3) (vs:=x.c) hs rfl an .none rfl cP bk ?_ (hv:=yf (kB xs) (w8 hx) sp)
  refine .ys 4 rfl hs [_,_] cP bk ?_
  refine .z 5 rfl (qC oR oS fq (fun f hf=>by
   simp only [List.mem_cons,List.not_mem_nil,or_false] at hf
   rcases hf with rfl|rfl<;>exact ⟨by decide,aV,ae⟩) rfl rfl) ?_
  refine .D hs ?_
  refine (.cond rfl (fun hc17=>?_) (fun hc17=>?_))
  ·refine .ai (.z zm (.z zg (.nil ?_)))
   refine .ret (rB (rT (rT (rB (rT (Fin.bD Tryz.results93 rfl ?_))))))
   have e:x=t:=zV.1 (of_decide_eq_true hc17)
   subst e
   exact ⟨by rw [me hx fun j hj h=>hno j hj _ h rfl],hs.tail⟩
  ·refine .skip ?_
   refine nB (nT ?_)
   refine .region (.z zm (.z cC (.z zg (.nil ?_))))
   refine nT ?_
   exact ⟨k+1,.cR rfl bR bA,⟨aj,eS hno hx (fun e=>by subst e;simp at hc17),hs⟩,aj⟩
 ·refine .exit ?_
  refine xT (xT (xB (nT ?_)))
  refine .ai (.z zg (.nil ?_))
  refine .ret (Fin.bD Tryz.results93 rfl ?_)
  obtain rfl:k=xs.length:=by omega
  exact ⟨by rw [rA hno],hs.tail⟩
set_option maxHeartbeats 1000000 in
theorem gN{vr:Value}{rs:List Rdg}(hs:St H w σ)(hr:RRd H vr rs)(hl:rs.length≤1000000):
  Cl Tryz.prog 94 [vr] w fun u w'=>∃H1,HLe H H1∧RTd H1 u (aU rs)∧St H1 w' σ:=by
 obtain ⟨ar,cr,rfl⟩:=RRd.shape hr
 refine Cl.o Tryz.func94 Tryz.ntmps94 ag1 ?_
 refine .ai (.z zg (.nil (.ai (.z zg (.nil (.seq (.ai (.z zg (.nil ?_)))))))))
 refine .block ?_
 refine .loop (fun p:Nat×Value=>⟨32,[],[(4,I (p.1:Int)),(3,p.2),(0,.slice ar rs.length cr)]⟩)
  (fun p w=>p.1≤rs.length∧∃en,bQ 2 p.2 (tdc (aU (rs.take p.1))).flatten en∧St H w (en::σ)) (fun p=>rs.length - p.1) (0,.slice none 0 0) bA
  ⟨Nat.zero_le _,_,.nil 2 none,hs.nul⟩ ?_
 rintro ⟨k,vo⟩ w ⟨hk,en,hO,hs⟩
 dsimp only at hk hO ⊢
 have htl:=jN rs k aj
 obtain ⟨ao,co,rfl⟩:=hO.ja (kB _) aj
 rw [cN] at hO ⊢
 refine .seq (.ai (.z zm (.z zm (.z (cS aK) (.z ik (.nil ?_))))))
 refine (.cg rfl (fun hc9=>?_) (fun hc9=>?_))
 ·refine .skip ?_
  refine nT ?_
  refine .seq (.block ?_)
  refine .seq (.draw mix rfl hs fun w hs=>?_)
  refine .z 0 rfl zm ?_;refine .z 1 rfl zm ?_
  obtain ⟨r,hx⟩:=nth (l:=rs) (k:=k) aj
  have htk:=ib hx
  refine .ixX (enc:=Rdg.c) (i:=2) hs rfl an .none hr rfl rfl aK aW hx dK ?_;intro b14 o14 hc14
  have d14:cellAt H b14 (o14+5)=some (I r.tape):=hc14 5 _ rfl
  refine .z 3 rfl (zfa eg) ?_;refine .y 4 rfl hs ae ?_;refine .z 5 rfl zm ?_;refine .z 6 rfl zm ?_
  refine .ixX (enc:=Rdg.c) (i:=7) hs rfl an .none hr rfl rfl aK aW hx dK ?_;intro b19 o19 hc19
  have d19:cellAt H b19 (o19+6)=some (I r.day):=hc19 6 _ rfl
  refine .z 8 rfl (zfa ef) ?_;refine .y 9 rfl hs ae ?_;refine .z 10 rfl (zbd [_,_] fm) ?_
  refine .E 11 hs ?_
  refine .alloc hs kK rfl ?_;intro b5 w hs
  refine .go ?_
  refine .E 12 hs ?_
  refine .aQ (vs:=[_,_]) hs rfl rfl bk ?_;intro w hs
  refine .go ?_
  refine .D hs ?_
  refine .ai (.z zm (.y hs (zls [_,_] cP bk) ?_))
  refine .o (.call Tryz.call93 rfl (mm (t:=r.td) (hs.sb:St H w (en:: .blk b5 [I r.tape,I r.day]::σ)) hO aj) ?_);rintro _ w ⟨rfl,hs⟩
  have hnn:=kg (l:=aU (rs.take k)) (t:=r.td)
  refine .z ik (.nil ?_)
  refine (.cg rfl (fun hc26=>?_) (fun hc26=>?_))
  ·refine .region (.z zm (.y hs (zls [_,_] cP bk) ?_))
   refine .o (.buildSlice (cells:=[_,_]) hs fg rfl rfl fun b29 w hs=>?_)
   refine .o (.append (ys:=r.td.c) hs dm rfl rfl hO (.own .here rfl rfl) (by simp [TD.c,Value.oneCell']) (fun l h=>by rw [bO _ (kB _),cN] at h;omega) ?_);intro v30 en30 w hO2 hs
   refine .z zg (.nil ?_)
   refine nB (nT ?_)
   refine .region (.z zm (.z cC (.z zg (.nil ?_))))
   refine nT ?_
   have hn:r.td∉aU (rs.take k):=fun hm=>by have:=hnn.2 hm;omega
   rw [←rz,show aU (rs.take k)++[r.td]=aU (rs.take (k+1)) by rw [htk];unfold nx;rw [if_neg hn]] at hO2
   exact ⟨(k+1,v30),.cR rfl bR bA,⟨by dsimp only;omega,_,hO2,hs.sb⟩,by dsimp only;omega⟩
  ·refine .skip ?_
   refine nB (nT ?_)
   refine .region (.z zm (.z cC (.z zg (.nil ?_))))
   refine nT ?_
   have hm:r.td∈aU (rs.take k):=hnn.1 aj
   exact ⟨(k+1,_),.cR rfl bR bA,⟨by dsimp only;omega,en,by dsimp only;rw [htk];unfold nx;rw [if_pos hm];exact hO,hs.sb⟩,by dsimp only;omega⟩
 ·refine .exit ?_
  refine xT (xT (xB (nT ?_)))
  refine .ai (.z zm (.z zg (.nil ?_)))
  refine .ret (Fin.bD Tryz.results94 rfl ?_)
  obtain rfl:k=rs.length:=by omega
  rw [List.take_length] at hO
  have htl:=cI rs
  obtain ⟨H2,hle2,hR,hs⟩:=bQ.bX (m:=2) (cs:=tdc (aU rs)) hO (kB _) aj (by rw [cN];omega) hs .here
  rw [List.take_length]
  exact ⟨H2,hle2,hR,hs⟩
theorem zP(s:Spc)(i k:Nat):1+(i:Int)*(s.wa.length:Int)+(k:Int)=(s.u i k:Int):=by
 unfold Spc.u;rw [Int.natCast_add,Int.natCast_add,Int.natCast_mul];rfl
theorem Ew(s:Spc)(i k:Nat):1+((i:Int)+1)*(s.wa.length:Int)+(k:Int)=(s.u (i+1) k:Int):=by
 rw [←zP];rfl
theorem Ev(s:Spc)(i k:Nat):1+(i:Int)*(s.wa.length:Int)+((k:Int)+1)=(s.u i (k+1):Int):=by
 rw [←zP];rfl
theorem kq{f:Nat→Nat→List Lim}(hf:∀i k,(f i k).length≤2)(i:Nat):∀k,(kU f i k).length≤2*k
 |0=>by simp [kU]
 |k+1=>by have:=kq hf i k;have:=hf i k;simp only [kU,List.length_append];omega
theorem kT{f:Nat→Nat→List Lim}(hf:∀i k,(f i k).length≤2){m n:Nat}(hm:m≤7)(hn:n≤9)(h0:0<m):(dR f m n).length≤126:=by
 have h1:=gp hf (n:=n) h0
 have:n*m≤9*7:=Nat.mul_le_mul hn hm
 omega
theorem D9{s:Spc}(h0:0<s.st.length):dR (alL s) s.wa.length s.st.length=dR (alL s) s.wa.length (s.st.length - 1):=by
 obtain ⟨n,hn⟩:∃n,s.st.length=n+1:=⟨s.st.length - 1,aj⟩
 have key:∀k,kU (alL s) n k=[]:=by
  intro k
  induction k with
  |zero=>rfl
  |succ k ih=>simp only [kU];rw [ih];unfold alL;rw [if_neg aj];rfl
 rw [hn,Nat.add_sub_cancel]
 simp only [dR]
 rw [key,List.append_nil]
theorem Dr{s:Spc}(i:Nat)(h0:0<s.wa.length):kU (upL s) i s.wa.length=kU (upL s) i (s.wa.length - 1):=by
 obtain ⟨n,hn⟩:∃n,s.wa.length=n+1:=⟨s.wa.length - 1,aj⟩
 have e:upL s i n=[]:=by unfold upL;rw [if_neg aj]
 rw [hn,Nat.add_sub_cancel]
 simp only [kU]
 rw [e,List.append_nil]
set_option maxHeartbeats 4000000 in
theorem qV{s:Srv}{vst vwa vr vc:Value}(hs:St H w σ)(h1:RI H vst s.sp.st)(h2:RI H vwa s.sp.wa)(h3:RRd H vr s.rs)(h4:RCm H vc s.cs)(he:s.early):
  Cl Tryz.prog 111 [.agg #[I s.sp.id,I s.sp.src,vst,vwa,I s.sp.al,I s.sp.up,vr,vc]] w fun u w'=>∃H1 en,HLe H H1∧bQ 4 u (fF s.bK) en∧St H1 w' (en::σ):=by
 obtain ⟨ast,cst,rfl⟩:=RI.shape h1
 obtain ⟨awa,cwa,rfl⟩:=RI.shape h2
 obtain ⟨ar,cr,rfl⟩:=RRd.shape h3
 obtain ⟨ac,cc,rfl⟩:=RCm.shape h4
 obtain ⟨hok,hrl,hcl,hrs,hcs⟩:=he
 have hsm:=eo hok
 have hn1:=hok.st.many
 have hn2:=hok.wa.many
 have hn3:=hok.st.two
 have hn4:=hok.wa.two
 have ha:=kT (nb s.sp) (m:=s.sp.wa.length) (n:=s.sp.st.length) aj aj aj
 have hb:=kT (qy s.sp) (m:=s.sp.wa.length) (n:=s.sp.st.length) aj aj aj
 have hc:=kT (p4 s.sp) (m:=s.sp.wa.length) (n:=s.sp.st.length) aj aj aj
 have hal:=hok.al
 have hup:=hok.up
 refine Cl.o Tryz.func111 Tryz.ntmps111 ag1 ?_
 refine .ai ?_
 refine .bx hs fun b1 w hs=>?_
 refine .z zg (.nil (.ai (.z (zfa aN) (.y hs (zls [_,_,_,_,_,_] aM aE) ?_))))
 refine .o (.alloc hs iH rfl fun b3 w hs=>?_)
 refine .o (.aQ (vs:=[_,_,_,_,_,_]) hs rfl rfl aE fun w hs=>?_)
 refine .nil (.ai (.z zg (.nil (.seq (.ai (.z zg (.nil (.block ?_))))))))
 refine .loop (fun p:Nat×Value=>⟨243,[],[(5,I (p.1:Int)),(4,p.2),(3,.pointer (some ⟨b3,0,none⟩)),(1,.pointer (some ⟨b1,0,none⟩))]⟩)
  (fun p w=>p.1≤s.sp.st.length∧∃en,bQ 4 p.2 (fF (dR (pS s.sp) s.sp.wa.length p.1)) en∧St H w (en:: .blk b3 [I s.sp.id,I s.sp.src,.slice ast s.sp.st.length cst,.slice awa s.sp.wa.length cwa,I s.sp.al,I s.sp.up]:: .blk b1 [I s.sp.id,I s.sp.src,.slice ast s.sp.st.length cst,.slice awa s.sp.wa.length cwa,I s.sp.al,I s.sp.up,.slice ar s.rs.length cr,.slice ac s.cs.length cc]::σ)) (fun p=>s.sp.st.length - p.1) (0,.slice none 0 0) bA
  ⟨by first|omega|exact Nat.zero_le _,_,.nil 4 none,hs.nul⟩ ?_
 rintro ⟨i,vo⟩ w ⟨hi,en,hO,hs⟩
 dsimp only at hi hO ⊢
 refine .seq (.ai (.z zm (.z (zfa bB) (.y hs (zld ak) (.z (cS ad) (.z ik (.nil ?_)))))))
 refine (.cg rfl (fun hc27=>?_) (fun hc27=>?_))
 ·refine .skip ?_
  refine nT ?_
  refine .seq (.block (.ai (.z zg (.nil (.block ?_)))))
  refine .loop (fun p:Nat×Value=>⟨243,[],[(6,I (p.1:Int)),(4,p.2),(5,I (i:Int)),(3,.pointer (some ⟨b3,0,none⟩)),(1,.pointer (some ⟨b1,0,none⟩))]⟩)
   (fun p w=>p.1≤s.sp.wa.length∧∃en,bQ 4 p.2 (fF (dR (pS s.sp) s.sp.wa.length i++kU (pS s.sp) i p.1)) en∧St H w (en:: .blk b3 [I s.sp.id,I s.sp.src,.slice ast s.sp.st.length cst,.slice awa s.sp.wa.length cwa,I s.sp.al,I s.sp.up]:: .blk b1 [I s.sp.id,I s.sp.src,.slice ast s.sp.st.length cst,.slice awa s.sp.wa.length cwa,I s.sp.al,I s.sp.up,.slice ar s.rs.length cr,.slice ac s.cs.length cc]::σ)) (fun p=>s.sp.wa.length - p.1) (0,vo) bA
   ⟨by first|omega|exact Nat.zero_le _,en,by show bQ 4 vo (fF (_++[])) en;rw [List.append_nil];exact hO,hs⟩ ?_
  clear hO hs
  rintro ⟨k,vo⟩ w ⟨hk,en,hO,hs⟩
  dsimp only at hk hO ⊢
  have hl1:=kT (nb s.sp) (m:=s.sp.wa.length) (n:=i) aj aj aj
  have hl2:=kq (nb s.sp) i k
  refine .seq (.ai (.z zm (.z (zfa br) (.y hs (zld ak) (.z (cS ad) (.z ik (.nil ?_)))))))
  refine (.cg rfl (fun hc34=>?_) (fun hc34=>?_))
  ·refine .skip ?_
   refine nT ?_
   refine .seq (.block (.ai (.y hs (zls [_,_,_,_,_,_] aM aE) (.z zm (.z zm ?_)))))
   refine .o (.call nE rfl (dE (s:=s.sp) hs h2 aj ⟨aj,aj⟩ ⟨aj,aj⟩) ?_);rintro _ w ⟨rfl,hs⟩
   rw [zP]
   refine .z zg (.nil (.region (.z zm (.z zm (.z (zfa c8) (.y hs (zld ae) (.z (zbd [_,_,_,_] dU) (.z zm (.z (zfa c8) ?_)))))))))
   refine .y hs (zld ae) (.z (zbd [_,_,_,_] dU) ?_)
   refine .o (.buildSlice (cells:=fF (pS s.sp i k)) hs eW rfl an fun b50 w hs=>?_)
   refine .o (.append (ys:=fF (pS s.sp i k)) hs bI rfl rfl hO (.own .here rfl rfl) (jq _) (fun l h=>by rw [de,List.length_append] at h;omega) ?_);intro v51 en51 w hO2 hs
   rw [←fE,List.append_assoc] at hO2
   refine .z zg (.nil ?_)
   refine nB (nT ?_)
   refine .region (.z zm (.z cC (.z zg (.nil ?_))))
   refine nT ?_
   exact ⟨(k+1,v51),.cR rfl bR bA,⟨by dsimp only;omega,_,hO2,hs.sb⟩,by dsimp only;omega⟩
  ·refine .exit ?_
   refine xT (xT (xB (nB (nT ?_))))
   refine .region (.z zm (.z cC (.z zg (.nil ?_))))
   refine nT ?_
   obtain rfl:k=s.sp.wa.length:=by omega
   exact ⟨(i+1,_),.cR rfl bR bA,⟨by dsimp only;omega,en,hO,hs⟩,by dsimp only;omega⟩
 ·refine .exit ?_
  refine xT (xT (xB (nT ?_)))
  refine .seq (.ai (.z zg (.nil (.block ?_))))
  refine .loop (fun p:Nat×Value=>⟨243,[],[(8,I (p.1:Int)),(4,p.2),(3,.pointer (some ⟨b3,0,none⟩)),(1,.pointer (some ⟨b1,0,none⟩))]⟩)
   (fun p w=>p.1+1≤s.sp.st.length∧∃en,bQ 4 p.2 (fF (dR (pS s.sp) s.sp.wa.length s.sp.st.length++dR (alL s.sp) s.sp.wa.length p.1)) en∧St H w (en:: .blk b3 [I s.sp.id,I s.sp.src,.slice ast s.sp.st.length cst,.slice awa s.sp.wa.length cwa,I s.sp.al,I s.sp.up]:: .blk b1 [I s.sp.id,I s.sp.src,.slice ast s.sp.st.length cst,.slice awa s.sp.wa.length cwa,I s.sp.al,I s.sp.up,.slice ar s.rs.length cr,.slice ac s.cs.length cc]::σ)) (fun p=>s.sp.st.length - p.1) (0,vo) bA
   ⟨by first|omega|exact Nat.zero_le _,en,by show bQ 4 vo (fF (_++[])) en;rw [List.append_nil,←show i=s.sp.st.length by omega];exact hO,hs⟩ ?_
  clear hO hs
  rintro ⟨i,vo⟩ w ⟨hi,en,hO,hs⟩
  dsimp only at hi hO ⊢
  refine .seq (.ai (.z zm (.z cC (.z (zfa bB) (.y hs (zld ak) (.z (cS ad) (.z ik (.nil ?_))))))))
  refine (.cg rfl (fun hc57=>?_) (fun hc57=>?_))
  ·refine .skip ?_
   refine nT ?_
   refine .seq (.block (.ai (.z zg (.nil (.block ?_)))))
   refine .loop (fun p:Nat×Value=>⟨243,[],[(9,I (p.1:Int)),(4,p.2),(8,I (i:Int)),(3,.pointer (some ⟨b3,0,none⟩)),(1,.pointer (some ⟨b1,0,none⟩))]⟩)
    (fun p w=>p.1≤s.sp.wa.length∧∃en,bQ 4 p.2 (fF (dR (pS s.sp) s.sp.wa.length s.sp.st.length++dR (alL s.sp) s.sp.wa.length i++kU (alL s.sp) i p.1)) en∧St H w (en:: .blk b3 [I s.sp.id,I s.sp.src,.slice ast s.sp.st.length cst,.slice awa s.sp.wa.length cwa,I s.sp.al,I s.sp.up]:: .blk b1 [I s.sp.id,I s.sp.src,.slice ast s.sp.st.length cst,.slice awa s.sp.wa.length cwa,I s.sp.al,I s.sp.up,.slice ar s.rs.length cr,.slice ac s.cs.length cc]::σ)) (fun p=>s.sp.wa.length - p.1) (0,vo) bA
    ⟨by first|omega|exact Nat.zero_le _,en,by show bQ 4 vo (fF (_++[])) en;rw [List.append_nil];exact hO,hs⟩ ?_
   clear hO hs
   rintro ⟨k,vo⟩ w ⟨hk,en,hO,hs⟩
   dsimp only at hk hO ⊢
   have hl1:=kT (qy s.sp) (m:=s.sp.wa.length) (n:=i) aj aj aj
   have hl2:=kq (qy s.sp) i k
   refine .seq (.ai (.z zm (.z (zfa br) (.y hs (zld ak) (.z (cS ad) (.z ik (.nil ?_)))))))
   refine (.cg rfl (fun hc64=>?_) (fun hc64=>?_))
   ·refine .skip ?_
    refine nT ?_
    refine .seq (.block ?_)
    refine .draw mix rfl hs fun w hs=>?_
    refine .z 0 rfl zm ?_;refine .ys 1 rfl hs [_,_,_,_,_,_] aM aE ?_;refine .z 2 rfl zm ?_;refine .z 3 rfl zm ?_;refine .ys 5 rfl hs [_,_,_,_,_,_] aM aE ?_;refine .z 6 rfl zm ?_;refine .z 7 rfl cC ?_;refine .z 8 rfl zm ?_;refine .z 10 rfl (zfa fa) ?_;refine .z 11 rfl (zfa lB) ?_
    refine .y 12 rfl hs ae ?_;refine .z 13 rfl (zfa bB) ?_;refine .y 14 rfl hs ak ?_;refine .z 15 rfl zm ?_;refine .z 16 rfl cC ?_
    have hris:=hok.st.rise i aj
    have hq0:=hok.st.bd (i:=i) aj
    have hq1:=hok.st.bd (i:=i+1) aj
    refine .ixX (enc:=fun x=>[I x]) (i:=17) hs rfl an .none h1 rfl rfl ad af (bL (l:=s.sp.st) (i:=(i+1)) aj) dK ?_;intro b84 o84 hc84;replace hc84:=bM.one hc84
    refine .r (i:=18) hs rfl an .none (aZ rfl ae hc84) ?_
    refine .z 19 rfl (zfa bB) ?_;refine .y 20 rfl hs ak ?_;refine .z 21 rfl zm ?_
    refine .ixX (enc:=fun x=>[I x]) (i:=22) hs rfl an .none h1 rfl rfl ad af (bL (l:=s.sp.st) (i:=i) aj) dK ?_;intro b89 o89 hc89;replace hc89:=bM.one hc89
    refine .r (i:=23) hs rfl an .none (aZ rfl ae hc89) ?_
    refine .z 24 rfl iK ?_;refine .z 26 rfl (zfa c8) ?_;refine .y 27 rfl hs ae ?_
    refine .E 4 hs ?_
    refine .call nE rfl (dE (s:=s.sp) hs h2 aj ⟨aj,aj⟩ ⟨aj,aj⟩) ?_;rintro _ w ⟨rfl,hs⟩
    rw [zP]
    refine .go ?_
    refine .E 9 hs ?_
    refine .call nE rfl (dE (s:=s.sp) hs h2 aj ⟨aj,aj⟩ ⟨aj,aj⟩) ?_;rintro _ w ⟨rfl,hs⟩
    rw [Ew]
    refine .go ?_
    refine .E 25 hs ?_
    refine .call Tryz.call193 rfl (kQ hs aj aj) ?_;rintro _ w ⟨rfl,hs⟩
    refine .go ?_
    refine .E 28 hs ?_
    refine .call Tryz.call119 rfl (jR hs) ?_;rintro _ w ⟨b95,rfl,hs⟩
    rw [show two (s.sp.u i k:Int) _ _ _ _=alL s.sp i k by unfold alL;rw [if_pos aj]] at hs
    refine .go ?_
    refine .E 29 hs ?_
    refine .append (ys:=fF (alL s.sp i k)) hs bI rfl rfl hO (.own .here bR (by rw [de];unfold alL;rw [if_pos aj];rfl)) (jq _) (fun l h=>by rw [de] at h;simp only [List.length_append] at h;omega) ?_;intro v96 en96 w hO2 hs
    rw [←fE,List.append_assoc _ (kU _ _ _)] at hO2
    refine .go ?_
    refine .z 30 rfl zg ?_;refine .D hs ?_
    refine nB (nT ?_)
    refine .region (.z zm (.z cC (.z zg (.nil ?_))))
    refine nT ?_
    exact ⟨(k+1,v96),.cR rfl bR bA,⟨by dsimp only;omega,_,hO2,hs.sb⟩,by dsimp only;omega⟩
   ·refine .exit ?_
    refine xT (xT (xB (nB (nT ?_))))
    refine .region (.z zm (.z cC (.z zg (.nil ?_))))
    refine nT ?_
    obtain rfl:k=s.sp.wa.length:=by omega
    rw [List.append_assoc] at hO
    exact ⟨(i+1,_),.cR rfl bR bA,⟨by dsimp only;omega,en,hO,hs⟩,by dsimp only;omega⟩
  ·refine .exit ?_
   refine xT (xT (xB (nT ?_)))
   refine .seq (.ai (.z zg (.nil (.block ?_))))
   refine .loop (fun p:Nat×Value=>⟨243,[],[(10,I (p.1:Int)),(4,p.2),(3,.pointer (some ⟨b3,0,none⟩)),(1,.pointer (some ⟨b1,0,none⟩))]⟩)
    (fun p w=>p.1≤s.sp.st.length∧∃en,bQ 4 p.2 (fF (dR (pS s.sp) s.sp.wa.length s.sp.st.length++dR (alL s.sp) s.sp.wa.length s.sp.st.length++dR (upL s.sp) s.sp.wa.length p.1)) en∧St H w (en:: .blk b3 [I s.sp.id,I s.sp.src,.slice ast s.sp.st.length cst,.slice awa s.sp.wa.length cwa,I s.sp.al,I s.sp.up]:: .blk b1 [I s.sp.id,I s.sp.src,.slice ast s.sp.st.length cst,.slice awa s.sp.wa.length cwa,I s.sp.al,I s.sp.up,.slice ar s.rs.length cr,.slice ac s.cs.length cc]::σ)) (fun p=>s.sp.st.length - p.1) (0,vo) bA
    ⟨by first|omega|exact Nat.zero_le _,en,by show bQ 4 vo (fF (_++[])) en;rw [List.append_nil,D9 aj,←show i=s.sp.st.length - 1 by omega];exact hO,hs⟩ ?_
   clear hO hs
   rintro ⟨i,vo⟩ w ⟨hi,en,hO,hs⟩
   dsimp only at hi hO ⊢
   refine .seq (.ai (.z zm (.z (zfa bB) (.y hs (zld ak) (.z (cS ad) (.z ik (.nil ?_)))))))
   refine (.cg rfl (fun hc101=>?_) (fun hc101=>?_))
   ·refine .skip ?_
    refine nT ?_
    refine .seq (.block (.ai (.z zg (.nil (.block ?_)))))
    refine .loop (fun p:Nat×Value=>⟨243,[],[(11,I (p.1:Int)),(4,p.2),(10,I (i:Int)),(3,.pointer (some ⟨b3,0,none⟩)),(1,.pointer (some ⟨b1,0,none⟩))]⟩)
     (fun p w=>p.1+1≤s.sp.wa.length∧∃en,bQ 4 p.2 (fF (dR (pS s.sp) s.sp.wa.length s.sp.st.length++dR (alL s.sp) s.sp.wa.length s.sp.st.length++dR (upL s.sp) s.sp.wa.length i++kU (upL s.sp) i p.1)) en∧St H w (en:: .blk b3 [I s.sp.id,I s.sp.src,.slice ast s.sp.st.length cst,.slice awa s.sp.wa.length cwa,I s.sp.al,I s.sp.up]:: .blk b1 [I s.sp.id,I s.sp.src,.slice ast s.sp.st.length cst,.slice awa s.sp.wa.length cwa,I s.sp.al,I s.sp.up,.slice ar s.rs.length cr,.slice ac s.cs.length cc]::σ)) (fun p=>s.sp.wa.length - p.1) (0,vo) bA
     ⟨by first|omega|exact Nat.zero_le _,en,by show bQ 4 vo (fF (_++[])) en;rw [List.append_nil];exact hO,hs⟩ ?_
    clear hO hs
    rintro ⟨k,vo⟩ w ⟨hk,en,hO,hs⟩
    dsimp only at hk hO ⊢
    have hl1:=kT (p4 s.sp) (m:=s.sp.wa.length) (n:=i) aj aj aj
    have hl2:=kq (p4 s.sp) i k
    refine .seq (.ai (.z zm (.z cC (.z (zfa br) (.y hs (zld ak) (.z (cS ad) (.z ik (.nil ?_))))))))
    refine (.cg rfl (fun hc109=>?_) (fun hc109=>?_))
    ·refine .skip ?_
     refine nT ?_
     refine .seq (.block ?_)
     refine .draw mix rfl hs fun w hs=>?_
     refine .z 0 rfl zm ?_;refine .ys 1 rfl hs [_,_,_,_,_,_] aM aE ?_;refine .z 2 rfl zm ?_;refine .z 3 rfl zm ?_;refine .ys 5 rfl hs [_,_,_,_,_,_] aM aE ?_;refine .z 6 rfl zm ?_;refine .z 7 rfl zm ?_;refine .z 8 rfl cC ?_;refine .z 10 rfl (zfa fa) ?_;refine .z 11 rfl (zfa lA) ?_
     refine .y 12 rfl hs ae ?_;refine .z 13 rfl (zfa br) ?_;refine .y 14 rfl hs ak ?_;refine .z 15 rfl zm ?_;refine .z 16 rfl cC ?_
     have hris:=hok.wa.rise k aj
     have hq0:=hok.wa.bd (i:=k) aj
     have hq1:=hok.wa.bd (i:=k+1) aj
     refine .ixX (enc:=fun x=>[I x]) (i:=17) hs rfl an .none h2 rfl rfl ad af (bL (l:=s.sp.wa) (i:=(k+1)) aj) dK ?_;intro b129 o129 hc129;replace hc129:=bM.one hc129
     refine .r (i:=18) hs rfl an .none (aZ rfl ae hc129) ?_
     refine .z 19 rfl (zfa br) ?_;refine .y 20 rfl hs ak ?_;refine .z 21 rfl zm ?_
     refine .ixX (enc:=fun x=>[I x]) (i:=22) hs rfl an .none h2 rfl rfl ad af (bL (l:=s.sp.wa) (i:=k) aj) dK ?_;intro b134 o134 hc134;replace hc134:=bM.one hc134
     refine .r (i:=23) hs rfl an .none (aZ rfl ae hc134) ?_
     refine .z 24 rfl iK ?_;refine .z 26 rfl (zfa c8) ?_;refine .y 27 rfl hs ae ?_
     refine .E 4 hs ?_
     refine .call nE rfl (dE (s:=s.sp) hs h2 aj ⟨aj,aj⟩ ⟨aj,aj⟩) ?_;rintro _ w ⟨rfl,hs⟩
     rw [zP]
     refine .go ?_
     refine .E 9 hs ?_
     refine .call nE rfl (dE (s:=s.sp) hs h2 aj ⟨aj,aj⟩ ⟨aj,aj⟩) ?_;rintro _ w ⟨rfl,hs⟩
     rw [Ev]
     refine .go ?_
     refine .E 25 hs ?_
     refine .call Tryz.call193 rfl (kQ hs aj aj) ?_;rintro _ w ⟨rfl,hs⟩
     refine .go ?_
     refine .E 28 hs ?_
     refine .call Tryz.call119 rfl (jR hs) ?_;rintro _ w ⟨b140,rfl,hs⟩
     rw [show two (s.sp.u i k:Int) _ _ _ _=upL s.sp i k by unfold upL;rw [if_pos aj]] at hs
     refine .go ?_
     refine .E 29 hs ?_
     refine .append (ys:=fF (upL s.sp i k)) hs bI rfl rfl hO (.own .here bR (by rw [de];unfold upL;rw [if_pos aj];rfl)) (jq _) (fun l h=>by rw [de] at h;simp only [List.length_append] at h;omega) ?_;intro v141 en141 w hO2 hs
     rw [←fE,List.append_assoc _ (kU _ _ _)] at hO2
     refine .go ?_
     refine .z 30 rfl zg ?_;refine .D hs ?_
     refine nB (nT ?_)
     refine .region (.z zm (.z cC (.z zg (.nil ?_))))
     refine nT ?_
     exact ⟨(k+1,v141),.cR rfl bR bA,⟨by dsimp only;omega,_,hO2,hs.sb⟩,by dsimp only;omega⟩
    ·refine .exit ?_
     refine xT (xT (xB (nB (nT ?_))))
     refine .region (.z zm (.z cC (.z zg (.nil ?_))))
     refine nT ?_
     obtain rfl:k=s.sp.wa.length - 1:=by omega
     rw [List.append_assoc,←Dr i aj] at hO
     exact ⟨(i+1,_),.cR rfl bR bA,⟨by dsimp only;omega,en,hO,hs⟩,by dsimp only;omega⟩
   ·refine .exit ?_
    refine xT (xT (xB (nT ?_)))
    refine .ai (.z (zfa bn) (.y hs (zld cz) ?_))
    obtain rfl:i=s.sp.st.length:=by omega
    refine .o (.call Tryz.call94 rfl (gN hs h3 aj) ?_);rintro v144 w ⟨H1,hle1,hT,hs⟩
    replace hT:RTd H1 v144 s.bh:=hT
    have htl:s.bh.length≤60:=by have:=cI s.rs;unfold Srv.bh;omega
    have hmem:∀r∈s.rs,r.td∈s.bh:=fun r hr=>fB.2 ⟨r,hr,rfl⟩
    have hlims:s.bK=dR (pS s.sp) s.sp.wa.length s.sp.st.length++dR (alL s.sp) s.sp.wa.length s.sp.st.length++dR (upL s.sp) s.sp.wa.length s.sp.st.length++uU s.sp s.bh.length++qu s.sp s.bh s.cs 0 s.cs.length++sU s.sp s.bh s.rs s.rs.length:=rfl
    generalize s.bh=ts at*
    obtain ⟨at_,ct,rfl⟩:=RTd.shape hT
    refine .z zg (.nil (.ai (.y hs (zls [_,_,_,_,_,_] aM aE) ?_)))
    refine .o (.call Tryz.call97 rfl (fQ (s:=s.sp) hs (h1.mono hle1) (h2.mono hle1) ⟨aj,aj⟩) ?_);rintro _ w ⟨rfl,hs⟩
    refine .z zg (.nil (.seq (.ai (.z zg (.nil (.block ?_))))))
    refine .loop (fun p:Nat×Value=>⟨243,[],[(14,I (p.1:Int)),(4,p.2),(12,.slice at_ ts.length ct),(13,I (s.sp.many:Int)),(3,.pointer (some ⟨b3,0,none⟩)),(1,.pointer (some ⟨b1,0,none⟩))]⟩)
     (fun p w=>p.1≤ts.length∧∃en,bQ 4 p.2 (fF (dR (pS s.sp) s.sp.wa.length s.sp.st.length++dR (alL s.sp) s.sp.wa.length s.sp.st.length++dR (upL s.sp) s.sp.wa.length s.sp.st.length++uU s.sp p.1)) en∧St H1 w (en:: .blk b3 [I s.sp.id,I s.sp.src,.slice ast s.sp.st.length cst,.slice awa s.sp.wa.length cwa,I s.sp.al,I s.sp.up]:: .blk b1 [I s.sp.id,I s.sp.src,.slice ast s.sp.st.length cst,.slice awa s.sp.wa.length cwa,I s.sp.al,I s.sp.up,.slice ar s.rs.length cr,.slice ac s.cs.length cc]::σ)) (fun p=>ts.length - p.1) (0,vo) bA
     ⟨by first|omega|exact Nat.zero_le _,en,by show bQ 4 vo (fF (_++[])) en;rw [List.append_nil];exact hO,hs⟩ ?_
    clear hO hs
    rintro ⟨j,vo⟩ w ⟨hj,en,hO,hs⟩
    dsimp only at hj hO ⊢
    have hel:=iS s.sp j
    refine .seq (.ai (.z zm (.z zm (.z (cS aO) (.z ik (.nil ?_))))))
    refine (.cg rfl (fun hc150=>?_) (fun hc150=>?_))
    ·refine .skip ?_
     refine nT ?_
     refine .seq (.block (.region (.z zm (.z zm (.z cC (.z zm (.z cC (.z (zfa c8) (.y hs (zld ae) ?_)))))))))
     refine .o (.call Tryz.call119 rfl (jR hs) ?_);rintro _ w ⟨b160,rfl,hs⟩
     refine .o (.append (ys:=fF (two 0 ((s.sp.many:Int)+1+(j:Int)) 1000 1000 s.sp.src)) hs bI rfl rfl hO (.own .here rfl rfl) (jq _) (fun l h=>by rw [de] at h;simp only [List.length_append] at h;omega) ?_);intro v161 en161 w hO2 hs
     rw [←fE,List.append_assoc _ (uU _ _),show (s.sp.many:Int)+1+(j:Int)=((s.sp.many+1+j:Nat):Int) by omega] at hO2
     refine .z zg (.nil ?_)
     refine nB (nT ?_)
     refine .region (.z zm (.z cC (.z zg (.nil ?_))))
     refine nT ?_
     exact ⟨(j+1,v161),.cR rfl bR bA,⟨by dsimp only;omega,_,hO2,hs.sb⟩,by dsimp only;omega⟩
    ·refine .exit ?_
     refine xT (xT (xB (nT ?_)))
     refine .seq (.ai (.z zg (.nil (.block ?_))))
     refine .loop (fun p:Nat×Value=>⟨243,[],[(15,I (p.1:Int)),(4,p.2),(12,.slice at_ ts.length ct),(13,I (s.sp.many:Int)),(3,.pointer (some ⟨b3,0,none⟩)),(1,.pointer (some ⟨b1,0,none⟩))]⟩)
      (fun p w=>p.1≤s.cs.length∧∃en,bQ 4 p.2 (fF (dR (pS s.sp) s.sp.wa.length s.sp.st.length++dR (alL s.sp) s.sp.wa.length s.sp.st.length++dR (upL s.sp) s.sp.wa.length s.sp.st.length++uU s.sp ts.length++qu s.sp ts s.cs 0 p.1)) en∧St H1 w (en:: .blk b3 [I s.sp.id,I s.sp.src,.slice ast s.sp.st.length cst,.slice awa s.sp.wa.length cwa,I s.sp.al,I s.sp.up]:: .blk b1 [I s.sp.id,I s.sp.src,.slice ast s.sp.st.length cst,.slice awa s.sp.wa.length cwa,I s.sp.al,I s.sp.up,.slice ar s.rs.length cr,.slice ac s.cs.length cc]::σ)) (fun p=>s.cs.length - p.1) (0,vo) bA
      ⟨by first|omega|exact Nat.zero_le _,en,by show bQ 4 vo (fF (_++[])) en;rw [List.append_nil,←show j=ts.length by omega];exact hO,hs⟩ ?_
     clear hO hs
     rintro ⟨i,vo⟩ w ⟨hi,en,hO,hs⟩
     dsimp only at hi hO ⊢
     have hel:=iS s.sp ts.length
     have hcl1:=gW s.sp ts s.cs 0 i
     have hcl2:i*(2*(ts.length - 0))≤20*(2*60):=Nat.mul_le_mul aj aj
     refine .seq (.ai (.z zm (.z (zfa cV) (.y hs (zld kL) (.z (cS cf) (.z ik (.nil ?_)))))))
     refine (.cg rfl (fun hc166=>?_) (fun hc166=>?_))
     ·refine .skip ?_
      refine nT ?_
      refine .seq (.block (.ai (.z zg (.nil (.block ?_)))))
      refine .loop (fun p:Nat×Value=>⟨243,[],[(16,I (p.1:Int)),(4,p.2),(15,I (i:Int)),(12,.slice at_ ts.length ct),(13,I (s.sp.many:Int)),(3,.pointer (some ⟨b3,0,none⟩)),(1,.pointer (some ⟨b1,0,none⟩))]⟩)
       (fun p w=>p.1≤ts.length∧∃en,bQ 4 p.2 (fF (dR (pS s.sp) s.sp.wa.length s.sp.st.length++dR (alL s.sp) s.sp.wa.length s.sp.st.length++dR (upL s.sp) s.sp.wa.length s.sp.st.length++uU s.sp ts.length++qu s.sp ts s.cs 0 i++jW s.sp ts (xy s.cs i) 0 p.1)) en∧St H1 w (en:: .blk b3 [I s.sp.id,I s.sp.src,.slice ast s.sp.st.length cst,.slice awa s.sp.wa.length cwa,I s.sp.al,I s.sp.up]:: .blk b1 [I s.sp.id,I s.sp.src,.slice ast s.sp.st.length cst,.slice awa s.sp.wa.length cwa,I s.sp.al,I s.sp.up,.slice ar s.rs.length cr,.slice ac s.cs.length cc]::σ)) (fun p=>ts.length - p.1) (0,vo) bA
       ⟨by first|omega|exact Nat.zero_le _,en,by show bQ 4 vo (fF (_++[])) en;rw [List.append_nil];exact hO,hs⟩ ?_
      clear hO hs
      rintro ⟨j,vo⟩ w ⟨hj,en,hO,hs⟩
      dsimp only at hj hO ⊢
      have hl1:=kr s.sp ts (xy s.cs i) 0 j
      refine .seq (.ai (.z zm (.z zm (.z (cS aO) (.z ik (.nil ?_))))))
      refine (.cg rfl (fun hc172=>?_) (fun hc172=>?_))
      ·refine .skip ?_
       refine nT ?_
       refine .seq (.block ?_)
       refine .draw mix rfl hs fun w hs=>?_
       refine .z 0 rfl zm ?_;refine .z 1 rfl (zfa cV) ?_;refine .y 2 rfl hs kL ?_;refine .z 3 rfl zm ?_
       obtain ⟨c,hx⟩:=nth (l:=s.cs) (k:=i) aj
       obtain ⟨t,ht⟩:=nth (l:=ts) (k:=j) aj
       obtain ⟨g1,g2,g3,g4,g5,g6⟩:=hcs c (List.mem_of_getElem? hx)
       have ec:=A4 hx
       have et:=CX ht
       refine .ixX (enc:=Cmp.c) (i:=4) hs rfl an .none (h4.mono hle1) rfl rfl cf dx hx dK ?_;intro b179 o179 hc179
       refine .r (i:=5) hs rfl an .none (bY (vs:=c.c) rfl Er dx hc179) ?_
       refine .z 6 rfl zm ?_;refine .z 7 rfl zm ?_
       refine .ixX (enc:=TD.c) (i:=8) hs rfl an .none hT rfl rfl aO bk ht dK ?_;intro b183 o183 hc183
       refine .r (i:=9) hs rfl an .none (bY (vs:=t.c) rfl cP bk hc183) ?_
       refine .z 10 rfl zm ?_;refine .z 11 rfl cC ?_;refine .z 12 rfl zm ?_;refine .z 13 rfl cC ?_
       refine .E 14 hs ?_
       refine .call Tryz.call194 rfl (rZ (c:=c) (t:=t) hs ⟨aj,aj⟩) ?_;rintro v189 w ⟨en189,hO189,hs⟩
       obtain ⟨a189,l189,c189,rfl,h189⟩:=hO189.shape
       refine .go ?_
       refine .E 15 hs ?_
       refine .append (ys:=fF (kA c t ((s.sp.many:Int)+1+(j:Int)))) hs bI rfl rfl hO (Src.EU hO189 .here) (jq _) (fun l h=>by rw [de] at h;simp only [List.length_append] at h;have:=vK c t ((s.sp.many:Int)+1+(j:Int));rw [de] at h189;omega) ?_;intro v190 en190 w hO2 hs
       rw [←fE,List.append_assoc _ (jW _ _ _ _ _),show jW s.sp ts (xy s.cs i) 0 j++kA c t ((s.sp.many:Int)+1+(j:Int))=jW s.sp ts (xy s.cs i) 0 (j+1) by
        show _=_++kA (xy s.cs i) (td0 ts (0+j)) ((s.sp.many+1+(0+j):Nat):Int)
        rw [Nat.zero_add,ec,et,show ((s.sp.many+1+j:Nat):Int)=(s.sp.many:Int)+1+(j:Int) by omega]] at hO2
       refine .go ?_
       refine .z 16 rfl zg ?_;refine .D hs ?_
       refine nB (nT ?_)
       refine .region (.z zm (.z cC (.z zg (.nil ?_))))
       refine nT ?_
       exact ⟨(j+1,v190),.cR rfl bR bA,⟨by dsimp only;omega,_,hO2,hs.sb⟩,by dsimp only;omega⟩
      ·refine .exit ?_
       refine xT (xT (xB (nB (nT ?_))))
       refine .region (.z zm (.z cC (.z zg (.nil ?_))))
       refine nT ?_
       obtain rfl:j=ts.length:=by omega
       rw [List.append_assoc _ (qu _ _ _ _ _)] at hO
       exact ⟨(i+1,_),.cR rfl bR bA,⟨by dsimp only;omega,en,hO,hs⟩,by dsimp only;omega⟩
     ·refine .exit ?_
      refine xT (xT (xB (nT ?_)))
      refine .seq (.ai (.z zg (.nil (.block ?_))))
      refine .loop (fun p:Nat×Value=>⟨243,[],[(17,I (p.1:Int)),(4,p.2),(12,.slice at_ ts.length ct),(13,I (s.sp.many:Int)),(3,.pointer (some ⟨b3,0,none⟩)),(1,.pointer (some ⟨b1,0,none⟩))]⟩)
       (fun p w=>p.1≤s.rs.length∧∃en,bQ 4 p.2 (fF (dR (pS s.sp) s.sp.wa.length s.sp.st.length++dR (alL s.sp) s.sp.wa.length s.sp.st.length++dR (upL s.sp) s.sp.wa.length s.sp.st.length++uU s.sp ts.length++qu s.sp ts s.cs 0 s.cs.length++sU s.sp ts s.rs p.1)) en∧St H1 w (en:: .blk b3 [I s.sp.id,I s.sp.src,.slice ast s.sp.st.length cst,.slice awa s.sp.wa.length cwa,I s.sp.al,I s.sp.up]:: .blk b1 [I s.sp.id,I s.sp.src,.slice ast s.sp.st.length cst,.slice awa s.sp.wa.length cwa,I s.sp.al,I s.sp.up,.slice ar s.rs.length cr,.slice ac s.cs.length cc]::σ)) (fun p=>s.rs.length - p.1) (0,vo) bA
       ⟨by first|omega|exact Nat.zero_le _,en,by show bQ 4 vo (fF (_++[])) en;rw [List.append_nil,←show i=s.cs.length by omega];exact hO,hs⟩ ?_
      clear hO hs
      rintro ⟨q,vo⟩ w ⟨hq,en,hO,hs⟩
      dsimp only at hq hO ⊢
      have hrl1:=iO s.sp ts s.rs q
      have hcl3:=gW s.sp ts s.cs 0 s.cs.length
      have hcl4:s.cs.length*(2*(ts.length - 0))≤20*(2*60):=Nat.mul_le_mul aj aj
      refine .seq (.ai (.z zm (.z (zfa bn) (.y hs (zld cz) (.z (cS aK) (.z ik (.nil ?_)))))))
      refine (.cg rfl (fun hc195=>?_) (fun hc195=>?_))
      ·refine .skip ?_
       refine nT ?_
       refine .seq (.block (.ai (.z (zfa bn) (.y hs (zld cz) (.z zm ?_)))))
       obtain ⟨r,hx⟩:=nth (l:=s.rs) (k:=q) aj
       obtain ⟨g1,g2,g3,g4,g5,g6,g7⟩:=hrs r (List.mem_of_getElem? hx)
       obtain ⟨m,k1,k2,k3⟩:=ek (hmem r (List.mem_of_getElem? hx))
       refine .ixX (enc:=Rdg.c) hs (h3.mono hle1) rfl rfl aK aW hx dK ?_;intro b201 o201 hc201
       refine .q hs (bY (vs:=(Rdg.c r)) rfl eh aW hc201) ?_
       refine .o (.alloc hs ew rfl fun b18 w hs=>?_)
       refine .o (.aQ (vs:=r.c) hs rfl rfl aW fun w hs=>?_)
       change St _ _ (.blk b18 [I r.src,I r.st,I r.wa,I r.val,I r.tol,I r.tape,I r.day]::_) at hs
       refine .nil (.ai (.y hs (zls [_,_,_,_,_,_] aM aE) (.z (zfa eQ) (.y hs (zld ae) (.z (zfa eP) (.y hs (zld ae) ?_))))))
       refine .o (.call nE rfl (dE (s:=s.sp) hs (h2.mono hle1) aj ⟨aj,aj⟩ ⟨aj,aj⟩) ?_);rintro _ w ⟨rfl,hs⟩
       refine .z zg (.nil (.ai (.z zm (.z cC (.z zm (.z (zfa eg) (.y hs (zld ae) (.z (zfa ef) (.y hs (zld ae) ?_)))))))))
       refine .z (zbd [_,_] fm) ?_
       refine .o (.call Tryz.call93 rfl (js (t:=r.td) hs hT aj) ?_);rintro _ w ⟨rfl,hs⟩
       refine .z cC (.z zg (.nil (.region (.z zm (.z zm (.z zm (.z (zfa dM) (.y hs (zld ae) (.z (zfa cm) ?_)))))))))
       refine .y hs (zld ae) (.z cC (.z (zfa eR) (.y hs (zld ae) (.z (zbd [_,_,_,_] dU) (.z zm (.z zm (.z (zfa cm) (.y hs (zld ae) (.z (zfa dM) ?_)))))))))
       refine .y hs (zld ae) (.z iK (.z (zfa eR) (.y hs (zld ae) (.z (zbd [_,_,_,_] dU) ?_))))
       refine .o (.buildSlice (cells:=fF (qf s.sp ts r)) hs eW rfl an fun b240 w hs=>?_)
       refine .o (.append (ys:=fF (qf s.sp ts r)) hs bI rfl rfl hO (.own .here rfl rfl) (jq _) (fun l h=>by rw [de] at h;simp only [List.length_append] at h;omega) ?_);intro v241 en241 w hO2 hs
       rw [←fE,List.append_assoc _ (sU _ _ _ _),show sU s.sp ts s.rs q++qf s.sp ts r=sU s.sp ts s.rs (q+1) by rw [←Ag hx];rfl] at hO2
       refine .z zg (.nil ?_)
       refine nB (nT ?_)
       refine .region (.z zm (.z cC (.z zg (.nil ?_))))
       refine nT ?_
       exact ⟨(q+1,v241),.cR rfl bR bA,⟨by dsimp only;omega,_,hO2,hs.sb⟩,by dsimp only;omega⟩
      ·refine .exit ?_
       refine xT (xT (xB (nT ?_)))
       refine .ai (.z zm (.z zg (.nil ?_)))
       refine .ret (Fin.bD Tryz.results111 rfl ?_)
       obtain rfl:q=s.rs.length:=by omega
       exact ⟨H1,en,hle1,by rw [hlims];exact hO,hs.sb⟩
theorem qU{s:Srv}{vst vwa vr vc:Value}(hs:St H w σ)(h1:RI H vst s.sp.st)(h2:RI H vwa s.sp.wa)(h3:RRd H vr s.rs)(h4:RCm H vc s.cs)(he:s.early):
  Cl Tryz.prog 95 [.agg #[I s.sp.id,I s.sp.src,vst,vwa,I s.sp.al,I s.sp.up,vr,vc]] w fun u w'=>∃H1 vl en,HLe H H1∧u= .agg #[I s.sys.many,vl]∧bQ 4 vl (fF s.bK) en∧St H1 w' (en::σ):=by
 have hsm:=eo he.1
 have hrl:=he.2.1
 have htl:s.bh.length≤60:=by have:=cI s.rs;unfold Srv.bh;omega
 refine Cl.o Tryz.func95 Tryz.ntmps95 ag1 ?_
 refine .ai ?_
 refine .bx hs fun b1 w hs=>?_
 refine .o (.alloc hs dC rfl fun b2 w hs=>?_)
 refine .nil ?_
 refine .seq (.draw mix rfl hs fun w hs=>?_)
 refine .z 0 rfl (zfa aN) ?_;refine .ys 1 rfl hs [_,_,_,_,_,_] aM aE ?_;refine .z 3 rfl (zfa bn) ?_;refine .y 4 rfl hs cz ?_;refine .ys 8 rfl hs [_,_,_,_,_,_,_,_] aJ aD ?_
 refine .E 2 hs ?_
 refine .call Tryz.call97 rfl (fQ (s:=s.sp) hs h1 h2 ⟨aj,aj⟩) ?_;rintro _ w ⟨rfl,hs⟩
 refine .go ?_
 refine .E 5 hs ?_
 refine .call Tryz.call94 rfl (gN hs h3 aj) ?_;rintro v8 w ⟨H1,hle1,hT,hs⟩
 replace hT:RTd H1 v8 s.bh:=hT
 obtain ⟨at_,ct,rfl⟩:=RTd.shape hT
 refine .go ?_
 refine .z 6 rfl (cS aO) ?_;refine .z 7 rfl cC ?_
 refine .E 9 hs ?_
 refine .call Tryz.call111 rfl (qV (s:=s) hs (h1.mono hle1) (h2.mono hle1) (h3.mono hle1) (h4.mono hle1) he) ?_;rintro v12 w ⟨H2,en,hle2,hO,hs⟩
 obtain ⟨al,ll,cl,rfl,hll⟩:=hO.shape
 refine .go ?_
 refine .z 10 rfl (zbd [_,_] kH) ?_
 refine .E 11 hs ?_
 refine .aQ (vs:=[_,_]) hs rfl rfl aH ?_;intro w hs
 refine .go ?_
 refine .D hs ?_
 refine .ret ?_
 replace hs:St H2 w (.blk b2 [I ((s.sp.many:Int)+(s.bh.length:Int)),.slice al ll cl]::en::σ):=hs.sb
 exact Fin.gV [] [] hs fun w hs=>⟨_,results1 Tryz.results95 (di (vs:=[_,_]) hs rfl a8 aH),H2,_,en,hle1.trans hle2,by show _=Value.agg #[I ((s.sp.many+s.bh.length:Nat):Int),_];rw [Int.natCast_add],hO,hs.tail⟩
theorem qe{s:Srv}{vst vwa vr vc:Value}(hs:St H w σ)(h1:RI H vst s.sp.st)(h2:RI H vwa s.sp.wa)(h3:RRd H vr s.rs)(h4:RCm H vc s.cs)(he:s.early):
  Cl Tryz.prog 95 [.agg #[I s.sp.id,I s.sp.src,vst,vwa,I s.sp.al,I s.sp.up,vr,vc]] w fun u w'=>∃H1,HLe H H1∧RSy H1 u s.sys∧St H1 w' σ:=by
 refine (qU hs h1 h2 h3 h4 he).mono ?_
 rintro u w' ⟨H1,vl,en,hle,rfl,hO,hs⟩
 have hl:=kl he 6 aj
 rw [s.ux] at hl
 obtain ⟨H2,hle2,hR,hs⟩:=bQ.bX (m:=4) (cs:=s.bK.map Lim.c) hO (fun c hc=>by simp only [List.mem_map] at hc;obtain ⟨x,_,rfl⟩:=hc;rfl) aj (by rw [List.length_map];omega) hs .here
 exact ⟨H2,hle.trans hle2,⟨vl,rfl,hR⟩,hs⟩
theorem iL{s:Spc}{q:Wht}{vst vwa:Value}(hs:St H w σ)(h2:RI H vwa s.wa):
  Cl Tryz.prog 238 [.agg #[I q.kind,I q.st,I q.wa,I s.id,I s.src,vst,vwa,I s.al,I s.up]] w fun v w'=>v= .bool (decide (0≤q.wa∧q.wa≤(s.wa.length:Int) - 1))∧St H w' σ:=by
 obtain ⟨awa,cwa,rfl⟩:=RI.shape h2
 have l2:=(RI.len h2).2.2
 refine Cl.o Tryz.func238 Tryz.ntmps238 ag1 ?_
 refine .ai ?_
 refine .bx hs fun b1 w hs=>?_
 refine .z zg (.nil (.ai (.z (zfa ck) (.z (zfa dS) (.y hs (zld ae) (.z (zfa eE) (.z (zfa br) (.y hs (zld ak) (.z (cS ad) ?_)))))))))
 refine .z iK ?_
 refine .o (.call cZ rfl (bq hs) ?_);rintro _ w ⟨rfl,hs⟩
 refine .z zg (.nil ?_)
 refine .ret (Fin.bD Tryz.results238 rfl ?_)
 exact ⟨rfl,hs.out⟩
theorem jM{s:Spc}{q:Wht}{vst vwa:Value}(hs:St H w σ)(h1:RI H vst s.st):
  Cl Tryz.prog 243 [.agg #[I q.kind,I q.st,I q.wa,I s.id,I s.src,vst,vwa,I s.al,I s.up]] w fun v w'=>v= .bool (decide (0≤q.st∧q.st≤(s.st.length:Int) - 1))∧St H w' σ:=by
 obtain ⟨ast,cst,rfl⟩:=RI.shape h1
 have l1:=(RI.len h1).2.2
 refine Cl.o Tryz.func243 Tryz.ntmps243 ag1 ?_
 refine .ai ?_
 refine .bx hs fun b1 w hs=>?_
 refine .z zg (.nil (.ai (.z (zfa ck) (.z (zfa fC) (.y hs (zld ae) (.z (zfa eE) (.z (zfa bB) (.y hs (zld ak) (.z (cS ad) ?_)))))))))
 refine .z iK ?_
 refine .o (.call cZ rfl (bq hs) ?_);rintro _ w ⟨rfl,hs⟩
 refine .z zg (.nil ?_)
 refine .ret (Fin.bD Tryz.results243 rfl ?_)
 exact ⟨rfl,hs.out⟩
theorem pW{s:Spc}{q:Wht}:eL s q↔(q.kind=1∧q.st=0∧s.isW q∧0<q.wa)∨(q.kind=2∧q.st=0∧s.isW q)∨(q.kind=3∧q.wa=0∧s.isS q)∨(q.kind=4∧s.isS q∧s.isW q):=by
 constructor
 ·intro h
  cases h with
  |litres a b c d=>exact .inl ⟨a,b,c,d⟩
  |plane a b c=>exact .inr (.inl ⟨a,b,c⟩)
  |section_ a b c=>exact .inr (.inr (.inl ⟨a,b,c⟩))
  |offset a b c=>exact .inr (.inr (.inr ⟨a,b,c⟩))
 ·rintro (⟨a,b,c,d⟩|⟨a,b,c⟩|⟨a,b,c⟩|⟨a,b,c⟩)
  ·exact .litres a b c d
  ·exact .plane a b c
  ·exact .section_ a b c
  ·exact .offset a b c
theorem wk{s:Spc}{q:Wht}{vst vwa:Value}(hs:St H w σ)(h2:RI H vwa s.wa)(hk:q.kind=1):
  Cl Tryz.prog 237 [.agg #[I q.kind,I q.st,I q.wa,I s.id,I s.src,vst,vwa,I s.al,I s.up]] w fun v w'=>∃b:Bool,v= .bool b∧(b=true↔eL s q)∧St H w' σ:=by
 have hi:=pW (s:=s) (q:=q)
 simp only [Spc.isW,Spc.isS] at hi
 refine Cl.o Tryz.func237 Tryz.ntmps237 ag1 ?_
 refine .ai ?_
 refine .bx hs fun b1 w hs=>?_
 refine .z zg (.nil (.ai (.y hs (zls [_,_,_,_,_,_,_,_,_] pT ka) ?_)))
 refine .o (.call Tryz.call238 rfl (iL hs h2) ?_);rintro _ w ⟨rfl,hs⟩
 refine .z zm ?_
 refine .bif (t':=5) rfl (fun hb5=>?_) (fun hb5=>?_)
 ·refine .gT rfl rfl ?_
  refine .z (zfa ck) ?_
  refine .gT rfl rfl ?_
  refine .z (zfa dS) ?_
  refine .gT rfl rfl ?_
  refine .y hs (zld ae) ?_
  refine .gT rfl rfl ?_
  refine .z qN (.z zpT (.z zm ?_))
  refine .j7 (t':=11) rfl (fun hb11=>?_) (fun hb11=>?_)
  ·refine .gT rfl rfl ?_
   refine .z (zfa ck) ?_
   refine .gT rfl rfl ?_
   refine .z (zfa fC) ?_
   refine .gT rfl rfl ?_
   refine .y hs (zld ae) ?_
   refine .gT rfl rfl ?_
   refine .z j6 (.z zpT (.z zg (.nil ?_)))
   refine .ret (Fin.bD Tryz.results237 rfl ?_)
   exact ⟨_,rfl,by rw [hi];simp_all<;>omega,hs.out⟩
  ·refine .gFs 4 8 true rfl rfl rfl ?_
   refine .z zpF (.z zg (.nil ?_))
   refine .ret (Fin.bD Tryz.results237 rfl ?_)
   exact ⟨_,rfl,by rw [hi];simp_all<;>omega,hs.out⟩
 ·refine .gFs 4 2 true rfl rfl rfl ?_
  refine .z zpF (.z zm ?_)
  refine .gFs 4 8 true rfl rfl rfl ?_
  refine .z zpF (.z zg (.nil ?_))
  refine .ret (Fin.bD Tryz.results237 rfl ?_)
  exact ⟨_,rfl,by rw [hi];simp_all<;>omega,hs.out⟩
theorem wj{s:Spc}{q:Wht}{vst vwa:Value}(hs:St H w σ)(h2:RI H vwa s.wa)(hk:q.kind=2):
  Cl Tryz.prog 240 [.agg #[I q.kind,I q.st,I q.wa,I s.id,I s.src,vst,vwa,I s.al,I s.up]] w fun v w'=>∃b:Bool,v= .bool b∧(b=true↔eL s q)∧St H w' σ:=by
 have hi:=pW (s:=s) (q:=q)
 simp only [Spc.isW,Spc.isS] at hi
 refine Cl.o Tryz.func240 Tryz.ntmps240 ag1 ?_
 refine .ai ?_
 refine .bx hs fun b1 w hs=>?_
 refine .z zg (.nil (.ai (.y hs (zls [_,_,_,_,_,_,_,_,_] pT ka) ?_)))
 refine .o (.call Tryz.call238 rfl (iL hs h2) ?_);rintro _ w ⟨rfl,hs⟩
 refine .z zm ?_
 refine .bif (t':=5) rfl (fun hb5=>?_) (fun hb5=>?_)
 ·refine .gT rfl rfl ?_
  refine .z (zfa ck) ?_
  refine .gT rfl rfl ?_
  refine .z (zfa fC) ?_
  refine .gT rfl rfl ?_
  refine .y hs (zld ae) ?_
  refine .gT rfl rfl ?_
  refine .z j6 (.z zpT (.z zg (.nil ?_)))
  refine .ret (Fin.bD Tryz.results240 rfl ?_)
  exact ⟨_,rfl,by rw [hi];simp_all<;>omega,hs.out⟩
 ·refine .gFs 4 2 true rfl rfl rfl ?_
  refine .z zpF (.z zg (.nil ?_))
  refine .ret (Fin.bD Tryz.results240 rfl ?_)
  exact ⟨_,rfl,by rw [hi];simp_all<;>omega,hs.out⟩
theorem wi{s:Spc}{q:Wht}{vst vwa:Value}(hs:St H w σ)(h1:RI H vst s.st)(hk:q.kind=3):
  Cl Tryz.prog 242 [.agg #[I q.kind,I q.st,I q.wa,I s.id,I s.src,vst,vwa,I s.al,I s.up]] w fun v w'=>∃b:Bool,v= .bool b∧(b=true↔eL s q)∧St H w' σ:=by
 have hi:=pW (s:=s) (q:=q)
 simp only [Spc.isW,Spc.isS] at hi
 refine Cl.o Tryz.func242 Tryz.ntmps242 ag1 ?_
 refine .ai ?_
 refine .bx hs fun b1 w hs=>?_
 refine .z zg (.nil (.ai (.y hs (zls [_,_,_,_,_,_,_,_,_] pT ka) ?_)))
 refine .o (.call Tryz.call243 rfl (jM hs h1) ?_);rintro _ w ⟨rfl,hs⟩
 refine .z zm ?_
 refine .bif (t':=5) rfl (fun hb5=>?_) (fun hb5=>?_)
 ·refine .gT rfl rfl ?_
  refine .z (zfa ck) ?_
  refine .gT rfl rfl ?_
  refine .z (zfa dS) ?_
  refine .gT rfl rfl ?_
  refine .y hs (zld ae) ?_
  refine .gT rfl rfl ?_
  refine .z j6 (.z zpT (.z zg (.nil ?_)))
  refine .ret (Fin.bD Tryz.results242 rfl ?_)
  exact ⟨_,rfl,by rw [hi];simp_all<;>omega,hs.out⟩
 ·refine .gFs 4 2 true rfl rfl rfl ?_
  refine .z zpF (.z zg (.nil ?_))
  refine .ret (Fin.bD Tryz.results242 rfl ?_)
  exact ⟨_,rfl,by rw [hi];simp_all<;>omega,hs.out⟩
theorem wh{s:Spc}{q:Wht}{vst vwa:Value}(hs:St H w σ)(h1:RI H vst s.st)(h2:RI H vwa s.wa)(hk:q.kind=4):
  Cl Tryz.prog 245 [.agg #[I q.kind,I q.st,I q.wa,I s.id,I s.src,vst,vwa,I s.al,I s.up]] w fun v w'=>∃b:Bool,v= .bool b∧(b=true↔eL s q)∧St H w' σ:=by
 have hi:=pW (s:=s) (q:=q)
 simp only [Spc.isW,Spc.isS] at hi
 refine Cl.o Tryz.func245 Tryz.ntmps245 ag1 ?_
 refine .ai ?_
 refine .bx hs fun b1 w hs=>?_
 refine .z zg (.nil (.ai (.y hs (zls [_,_,_,_,_,_,_,_,_] pT ka) ?_)))
 refine .o (.call Tryz.call243 rfl (jM hs h1) ?_);rintro _ w ⟨rfl,hs⟩
 refine .z zm ?_
 refine .bif (t':=5) rfl (fun hb5=>?_) (fun hb5=>?_)
 ·refine .gT rfl rfl ?_
  refine .y hs (zls [_,_,_,_,_,_,_,_,_] pT ka) ?_
  refine .gT rfl rfl ?_
  refine .o (.call Tryz.call238 rfl (iL hs h2) ?_);rintro _ w ⟨rfl,hs⟩
  refine .z zpT (.z zg (.nil ?_))
  refine .ret (Fin.bD Tryz.results245 rfl ?_)
  exact ⟨_,rfl,by rw [hi];simp_all<;>omega,hs.out⟩
 ·refine .gFs 2 2 true rfl rfl rfl ?_
  refine .z zpF (.z zg (.nil ?_))
  refine .ret (Fin.bD Tryz.results245 rfl ?_)
  exact ⟨_,rfl,by rw [hi];simp_all<;>omega,hs.out⟩
theorem qP{s:Spc}{q:Wht}{vst vwa:Value}{i k:Nat}{u:Int}(hs:St H w σ)(h1:RI H vst s.st)(h2:RI H vwa s.wa)(hok:fW s)(hq:eL s q)(hk1:q.kind=1)(hi:i<s.st.length):
  Cl Tryz.prog 239 [.agg #[I q.kind,I q.st,I q.wa,I s.id,I s.src,vst,vwa,I s.al,I s.up],.agg #[I (i:Int),I (k:Int),I u]] w fun v w'=>∃H1,HLe H H1∧v=I (nF s q i k)∧St H1 w' σ:=by
 obtain ⟨ast,cst,rfl⟩:=RI.shape h1
 obtain ⟨awa,cwa,rfl⟩:=RI.shape h2
 have hn:=hok.wa.many
 have hcap:=(RI.len h2).2.1
 obtain ⟨_,hw1,hw2,hw3⟩:q.st=0∧0<q.wa∧0≤q.wa∧q.wa≤(s.wa.length:Int) - 1:=by
  rcases pW.1 hq with h|h|h|h
  ·exact ⟨h.2.1,h.2.2.2,h.2.2.1.1,h.2.2.1.2⟩
  all_goals omega
 obtain ⟨m,hm⟩:∃m:Nat,q.wa=m:=⟨q.wa.toNat,aj⟩
 have hW:nF s q i k=if (k:Int)≤q.wa then gi (wts s.st) i*gi (wts (s.wa.take (q.wa.toNat+1))) k else 0:=by unfold nF;rw [if_pos hk1]
 have hmt:q.wa.toNat=m:=by omega
 rw [hmt] at hW
 refine Cl.o Tryz.func239 Tryz.ntmps239 ag2 ?_
 refine .ai ?_
 refine .bx hs fun b2 w hs=>?_
 refine .bx hs fun b3 w hs=>?_
 refine .z zg (.nil (.seq (.ai (.z (zfa bZ) (.y hs (zld ae) (.z (zfa ck) (.z (zfa dS) (.y hs (zld ae) (.z qN ?_)))))))))
 refine .nil ?_
 refine (.cg rfl (fun hc12=>?_) (fun hc12=>?_))
 ·refine .ai (.z zg (.nil ?_))
  refine .ret (rT (Fin.bD Tryz.results239 rfl ?_))
  exact ⟨H,HLe.refl H,by rw [hW,if_neg aj],hs.out⟩
 ·refine .skip ?_
  refine nT ?_
  refine .seq (.draw mix rfl hs fun w hs=>?_)
  refine .z 0 rfl (zfa eE) ?_;refine .z 1 rfl (zfa bB) ?_;refine .y 2 rfl hs ak ?_;refine .z 3 rfl (zfa eE) ?_;refine .z 4 rfl (zfa br) ?_;refine .y 5 rfl hs ak ?_;refine .z 6 rfl (zfa ck) ?_;refine .z 7 rfl (zfa dS) ?_;refine .y 8 rfl hs ae ?_;refine .z 9 rfl cC ?_
  refine .z 10 rfl (mr (k:=m+1) rfl rfl ad af aj aj) ?_
  refine .E 11 hs ?_
  have hP:gx 7 15000 (s.wa.take (m+1)):=hok.wa.take aj aj
  refine .call Tryz.call104 rfl (mc hs h1 (h2.head (k:=m+1) aj)) ?_;rintro _ w ⟨H1,vo,e,hle1,rfl,hGx,-,hs⟩
  obtain ⟨rfl,hG⟩:=hGx ⟨hok.st,hP⟩
  have hgl:=my (wts s.st) (wts (s.wa.take (m+1))) s.st.length
  have hyl:(wts (s.wa.take (m+1))).length=m+1:=by rw [hZ,List.length_take];omega
  have hgr:=yt (X:=wts s.st) (Y:=wts (s.wa.take (m+1))) (n:=s.st.length) hi
  have hgt:=Cy (X:=wts s.st) (Y:=wts (s.wa.take (m+1))) (n:=s.st.length) (k:=k) hi aj
  have hrl:=ob (wts s.st) (wts (s.wa.take (m+1))) i
  rw [←hgr] at hrl
  generalize py (wts s.st) (wts (s.wa.take (m+1))) s.st.length=G at*
  obtain ⟨aG,cG,rfl⟩:=hG.shape
  refine .go ?_
  refine .z 12 rfl zm ?_;refine .z 13 rfl zex ?_;refine .z 14 rfl zex ?_;refine .z 15 rfl zg ?_;refine .z 16 rfl zg ?_;refine .D hs ?_
  refine .seq (.draw mix rfl hs fun w hs=>?_)
  refine .z 0 rfl zm ?_;refine .z 1 rfl (zfa cd) ?_;refine .y 2 rfl hs ae ?_
  refine .ixT (i:=3) hs rfl an .none hG rfl rfl aq aC (show i<_ by omega) dK ?_;intro b31 o31 a31 c31 hc31 hR31
  refine .r (i:=4) hs rfl an .none (aZ rfl ak hc31) ?_
  refine .z 5 rfl (zfa bZ) ?_;refine .y 6 rfl hs ae ?_
  refine .ixX (enc:=fun x=>[I x]) (i:=7) hs rfl an .none hR31 rfl rfl ad af (bL (l:=(gr G i)) (i:=k) aj) dK ?_;intro b35 o35 hc35;replace hc35:=bM.one hc35
  refine .r (i:=8) hs rfl an .none (aZ rfl ae hc35) ?_
  refine .z 9 rfl zg ?_;refine .D hs ?_
  refine .ret (Fin.bD Tryz.results239 rfl ?_)
  exact ⟨H1,hle1,by rw [hW,if_pos aj,←hgt];rfl,hs.out⟩
theorem rM{s:Spc}{q:Wht}{vst vwa:Value}{i k:Nat}{u:Int}(hs:St H w σ)(h1:RI H vst s.st)(hok:fW s)(hk1:q.kind=2)(hi:i<s.st.length):
  Cl Tryz.prog 241 [.agg #[I q.kind,I q.st,I q.wa,I s.id,I s.src,vst,vwa,I s.al,I s.up],.agg #[I (i:Int),I (k:Int),I u]] w fun v w'=>∃H1,HLe H H1∧v=I (nF s q i k)∧St H1 w' σ:=by
 have hW:nF s q i k=if (k:Int)=q.wa then gi (wts s.st) i else 0:=by unfold nF;rw [if_neg aj,if_pos hk1]
 have hl:=hZ s.st
 refine Cl.o Tryz.func241 Tryz.ntmps241 ag2 ?_
 refine .ai ?_
 refine .bx hs fun b2 w hs=>?_
 refine .bx hs fun b3 w hs=>?_
 refine .z zg (.nil (.seq (.ai (.z (zfa bZ) (.y hs (zld ae) (.z (zfa ck) (.z (zfa dS) (.y hs (zld ae) (.z fP ?_)))))))))
 refine .nil ?_
 refine (.ep rfl (fun hc12=>?_) (fun hc12=>?_))
 ·refine .ai (.z zg (.nil ?_))
  refine .ret (rT (Fin.bD Tryz.results241 rfl ?_))
  exact ⟨H,HLe.refl H,by rw [hW,if_neg aj],hs.out⟩
 ·refine .skip ?_
  refine nT ?_
  refine .ai (.z (zfa eE) (.z (zfa bB) (.y hs (zld ak) ?_)))
  refine .o (.call Tryz.call273 rfl (kf hs h1) ?_);rintro _ w ⟨H1,vo,e,hle1,rfl,hGx,hs⟩
  obtain ⟨rfl,hG⟩:=hGx hok.st
  obtain ⟨aG,cG,rfl⟩:=RI.shape hG
  refine .z zm (.z zex (.z zex (.z zg (.z zg (.nil (.ai (.z zm (.z (zfa cd) (.y hs (zld ae) ?_)))))))))
  refine .ixY hs hG rfl rfl ad af (bL (l:=(wts s.st)) (i:=i) aj) dK ?_;intro b23 o23 hc23
  refine .q hs (aZ rfl ae hc23) ?_
  refine .z zg (.nil ?_)
  refine .ret (Fin.bD Tryz.results241 rfl ?_)
  exact ⟨H1,hle1,by rw [hW,if_pos aj],hs.out⟩
theorem pX{s:Spc}{q:Wht}{vst vwa:Value}{i k:Nat}{u:Int}(hs:St H w σ)(h2:RI H vwa s.wa)(hok:fW s)(hk1:q.kind=3)(hk:k<s.wa.length):
  Cl Tryz.prog 244 [.agg #[I q.kind,I q.st,I q.wa,I s.id,I s.src,vst,vwa,I s.al,I s.up],.agg #[I (i:Int),I (k:Int),I u]] w fun v w'=>∃H1,HLe H H1∧v=I (nF s q i k)∧St H1 w' σ:=by
 have hW:nF s q i k=if (i:Int)=q.st then gi (wts s.wa) k else 0:=by unfold nF;rw [if_neg aj,if_neg aj,if_pos hk1]
 have hl:=hZ s.wa
 refine Cl.o Tryz.func244 Tryz.ntmps244 ag2 ?_
 refine .ai ?_
 refine .bx hs fun b2 w hs=>?_
 refine .bx hs fun b3 w hs=>?_
 refine .z zg (.nil (.seq (.ai (.z (zfa cd) (.y hs (zld ae) (.z (zfa ck) (.z (zfa fC) (.y hs (zld ae) (.z fP ?_)))))))))
 refine .nil ?_
 refine (.ep rfl (fun hc12=>?_) (fun hc12=>?_))
 ·refine .ai (.z zg (.nil ?_))
  refine .ret (rT (Fin.bD Tryz.results244 rfl ?_))
  exact ⟨H,HLe.refl H,by rw [hW,if_neg aj],hs.out⟩
 ·refine .skip ?_
  refine nT ?_
  refine .ai (.z (zfa eE) (.z (zfa br) (.y hs (zld ak) ?_)))
  refine .o (.call Tryz.call273 rfl (kf hs h2) ?_);rintro _ w ⟨H1,vo,e,hle1,rfl,hGx,hs⟩
  obtain ⟨rfl,hG⟩:=hGx (Dy hok)
  obtain ⟨aG,cG,rfl⟩:=RI.shape hG
  refine .z zm (.z zex (.z zex (.z zg (.z zg (.nil (.ai (.z zm (.z (zfa bZ) (.y hs (zld ae) ?_)))))))))
  refine .ixY hs hG rfl rfl ad af (bL (l:=(wts s.wa)) (i:=k) aj) dK ?_;intro b23 o23 hc23
  refine .q hs (aZ rfl ae hc23) ?_
  refine .z zg (.nil ?_)
  refine .ret (Fin.bD Tryz.results244 rfl ?_)
  exact ⟨H1,hle1,by rw [hW,if_pos aj],hs.out⟩
theorem qO{s:Spc}{q:Wht}{vst vwa:Value}{i k:Nat}{u:Int}(hs:St H w σ)(hk1:q.kind=4):
  Cl Tryz.prog 246 [.agg #[I q.kind,I q.st,I q.wa,I s.id,I s.src,vst,vwa,I s.al,I s.up],.agg #[I (i:Int),I (k:Int),I u]] w fun v w'=>∃H1,HLe H H1∧v=I (nF s q i k)∧St H1 w' σ:=by
 have hW:nF s q i k=if (i:Int)=q.st∧(k:Int)=q.wa then 1 else 0:=by unfold nF;rw [if_neg aj,if_neg aj,if_neg aj]
 refine Cl.o Tryz.func246 Tryz.ntmps246 ag2 ?_
 refine .ai ?_
 refine .bx hs fun b2 w hs=>?_
 refine .bx hs fun b3 w hs=>?_
 refine .z zg (.nil (.seq (.ai (.z (zfa cd) (.y hs (zld ae) (.z (zfa ck) (.z (zfa fC) (.y hs (zld ae) (.z fP ?_)))))))))
 refine .z zm ?_
 refine .Ba (t':=11) rfl (fun hb11=>?_) (fun hb11=>?_)
 ·refine .gFs 6 6 false rfl rfl rfl ?_
  refine .z zpT (.nil ?_)
  refine (.cT ?_)
  refine .ai (.z zg (.nil ?_))
  refine .ret (rT (Fin.bD Tryz.results246 rfl ?_))
  first
  |exact ⟨H,HLe.refl H,by rw [hW,if_neg aj],hs.out⟩
  |exact ⟨H,HLe.refl H,by rw [hW,if_pos aj],hs.out⟩
 ·refine .gT rfl rfl ?_
  refine .z (zfa bZ) ?_
  refine .gT rfl rfl ?_
  refine .y hs (zld ae) ?_
  refine .gT rfl rfl ?_
  refine .z (zfa ck) ?_
  refine .gT rfl rfl ?_
  refine .z (zfa dS) ?_
  refine .gT rfl rfl ?_
  refine .y hs (zld ae) ?_
  refine .gT rfl rfl ?_
  refine .z fP (.z zpF (.nil ?_))
  refine (.ep rfl (fun hc18=>?_) (fun hc18=>?_))
  ·refine .ai (.z zg (.nil ?_))
   refine .ret (rT (Fin.bD Tryz.results246 rfl ?_))
   first
   |exact ⟨H,HLe.refl H,by rw [hW,if_neg aj],hs.out⟩
   |exact ⟨H,HLe.refl H,by rw [hW,if_pos aj],hs.out⟩
  ·refine .skip ?_
   refine nT ?_
   refine .ai (.z zg (.nil ?_))
   refine .ret (Fin.bD Tryz.results246 rfl ?_)
   first
   |exact ⟨H,HLe.refl H,by rw [hW,if_neg aj],hs.out⟩
   |exact ⟨H,HLe.refl H,by rw [hW,if_pos aj],hs.out⟩
def zb(k:Int):Nat:=if k=1 then 237 else if k=2 then 240 else if k=3 then 242 else 245
def yY(k:Int):Nat:=if k=1 then 239 else if k=2 then 241 else if k=3 then 244 else 246
def yn(k:Int):Value:= .agg #[.func (.func (zb k)) #[] #[],.func (.func (yY k)) #[] #[],I (oI ⟨k,0,0⟩)]
def Ek:List MapEntry:=[{key:=I 1,val:=yn 1,born:=0},{key:=I 2,val:=yn 2,born:=1},{key:=I 3,val:=yn 3,born:=2},{key:=I 4,val:=yn 4,born:=3}]
theorem kn(hs:St H w σ):
  Cl Tryz.prog 189 [] w fun v w'=>∃b,v= .map (some b)∧St H w' (.obj b (.map Ek.toArray 4)::σ):=by
 refine Cl.of Tryz.func189 rfl Tryz.ntmps189 bR (ve) ?_
 refine .ai (.z zg (.nil (.ai ?_)))
 refine .o (.makeMap hs fun b1 w hs=>?_)
 refine .z (zbd [_,_,_] gS) ?_
 refine .o (.insert (es:=[]) hs rfl rfl rfl dZ aV rfl fun w hs=>?_)
 refine .z (zbd [_,_,_] gS) ?_
 refine .o (.insert (es:=[{key:=I 1,val:=yn 1,born:=0}]) hs rfl rfl rfl dZ aV rfl fun w hs=>?_)
 refine .z (zbd [_,_,_] gS) ?_
 refine .o (.insert (es:=[{key:=I 1,val:=yn 1,born:=0},{key:=I 2,val:=yn 2,born:=1}]) hs rfl rfl rfl dZ aV rfl fun w hs=>?_)
 refine .z (zbd [_,_,_] gS) ?_
 refine .o (.insert (es:=[{key:=I 1,val:=yn 1,born:=0},{key:=I 2,val:=yn 2,born:=1},{key:=I 3,val:=yn 3,born:=2}]) hs rfl rfl rfl dZ aV rfl fun w hs=>?_)
 refine .z zm (.z zg (.nil ?_))
 refine .ret (Fin.bD Tryz.results189 rfl ?_)
 exact ⟨b1,rfl,hs⟩
def lF1(k:Int):Value:=if 1≤k∧k≤4 then .func (.func (zb k)) #[] #[] else .nilFunc
def lF2(k:Int):Value:=if 1≤k∧k≤4 then .func (.func (yY k)) #[] #[] else .nilFunc
def lD(k:Int):Int:=if 1≤k∧k≤4 then oI ⟨k,0,0⟩ else 0
theorem ym(k:Int):[lF1 k,lF2 k,I (lD k)].all Value.oneCell'=true:=by
 unfold lF1 lF2;split<;>rfl
theorem Al{H:bJ}{s:FS}{x y:Operand}{b:Nat}(k:Int)(hx:FS.ev s x=some (.map (some b)))(hy:FS.ev s y=some (I k)):
  QJ Tryz.prog H [.obj b (.map Ek.toArray 4)] s (.lookup 233 x y true) (.tuple #[.agg #[lF1 k,lF2 k,I (lD k)],.bool (decide (1≤k∧k≤4))]):=by
 by_cases h:1≤k∧k≤4
 ·rw [decide_eq_true h]
  have h4:k=1∨k=2∨k=3∨k=4:=by omega
  rcases h4 with rfl|rfl|rfl|rfl
  ·exact x9 (v:=yn 1) (j:=0) hx hy dZ aV rfl .here
  ·exact x9 (v:=yn 2) (j:=1) hx hy dZ aV rfl .here
  ·exact x9 (v:=yn 3) (j:=2) hx hy dZ aV rfl .here
  ·exact x9 (v:=yn 4) (j:=3) hx hy dZ aV rfl .here
 ·rw [decide_eq_false h]
  have e1:lF1 k= .nilFunc:=if_neg h
  have e2:lF2 k= .nilFunc:=if_neg h
  have e3:lD k=0:=if_neg h
  rw [e1,e2,e3]
  refine DH (es:=Ek) (c:=4) hx hy dZ aV F2 ?_ .here
  have n1:(k==1)=false:=by simp only [beq_eq_false_iff_ne];omega
  have n2:(k==2)=false:=by simp only [beq_eq_false_iff_ne];omega
  have n3:(k==3)=false:=by simp only [beq_eq_false_iff_ne];omega
  have n4:(k==4)=false:=by simp only [beq_eq_false_iff_ne];omega
  simp [Instr.findNow,Instr.sameNow,Ek,n1,n2,n3,n4]
theorem BT(k:Int):∀args w,(callFunc (zb k) args).run Tryz.prog w= .ok (.enter (zb k) args) w:=by
 unfold zb
 split
 ·exact Tryz.call237
 ·split
  ·exact Tryz.call240
  ·split
   ·exact Tryz.call242
   ·exact Tryz.call245
theorem BE(k:Int):∀args w,(callFunc (yY k) args).run Tryz.prog w= .ok (.enter (yY k) args) w:=by
 unfold yY
 split
 ·exact Tryz.call239
 ·split
  ·exact Tryz.call241
  ·split
   ·exact Tryz.call244
   ·exact Tryz.call246
theorem BR{s:Spc}{q:Wht}{vst vwa:Value}(hs:St H w σ)(h1:RI H vst s.st)(h2:RI H vwa s.wa)(hk:1≤q.kind∧q.kind≤4):
  Cl Tryz.prog (zb q.kind) [.agg #[I q.kind,I q.st,I q.wa,I s.id,I s.src,vst,vwa,I s.al,I s.up]] w fun v w'=>∃b:Bool,v= .bool b∧(b=true↔eL s q)∧St H w' σ:=by
 unfold zb
 split
 ·exact wk hs h2 dB
 ·split
  ·exact wj hs h2 dB
  ·split
   ·exact wi hs h1 dB
   ·exact wh hs h1 h2 aj
theorem BD{s:Spc}{q:Wht}{vst vwa:Value}{i k:Nat}{u:Int}(hs:St H w σ)(h1:RI H vst s.st)(h2:RI H vwa s.wa)(hok:fW s)(hq:eL s q)(hk:1≤q.kind∧q.kind≤4)(hi:i<s.st.length)(hkw:k<s.wa.length):
  Cl Tryz.prog (yY q.kind) [.agg #[I q.kind,I q.st,I q.wa,I s.id,I s.src,vst,vwa,I s.al,I s.up],.agg #[I (i:Int),I (k:Int),I u]] w fun v w'=>∃H1,HLe H H1∧v=I (nF s q i k)∧St H1 w' σ:=by
 unfold yY
 split
 ·exact qP hs h1 h2 hok hq dB hi
 ·split
  ·exact rM hs h1 hok dB hi
  ·split
   ·exact pX hs h2 hok dB hkw
   ·exact qO hs aj
theorem EZ{q:Wht}(h:1≤q.kind∧q.kind≤4):lD q.kind=oI q:=by
 unfold lD;rw [if_pos h];rfl
theorem BC{s:Spc}{q:Wht}(h:eL s q):1≤q.kind∧q.kind≤4:=by
 rcases pW.1 h with h|h|h|h<;>omega
set_option maxHeartbeats 1000000 in
theorem jE{s:Spc}{q:Wht}{vst vwa:Value}(hs:St H w σ)(h1:RI H vst s.st)(h2:RI H vwa s.wa)(hok:fW s):
  Cl Tryz.prog 102 [.agg #[I s.id,I s.src,vst,vwa,I s.al,I s.up],.agg #[I q.kind,I q.st,I q.wa]] w fun u w'=>∃H1 vl L d b en,HLe H H1∧u= .tuple #[vl,I d,.bool b]∧bQ 1 vl (Is L) en∧((b=true∧eL s q∧L=nf s q∧d=oI q)∨(b=false∧¬eL s q∧L=[]∧d=0))∧St H1 w' (en::σ):=by
 have hsm:=eo hok
 obtain ⟨ast,cst,rfl⟩:=RI.shape h1
 obtain ⟨awa,cwa,rfl⟩:=RI.shape h2
 refine Cl.o Tryz.func102 Tryz.ntmps102 ag2 ?_
 refine .ai ?_
 refine .bx hs fun b2 w hs=>?_
 refine .bx hs fun b3 w hs=>?_
 refine .z zg (.z zg (.z zg (.nil ?_)))
 refine .cut (fun fs w=>∃b7,mT fs ⟨46,[],[(8,.bool (decide (1≤q.kind∧q.kind≤4))),(7,.pointer (some ⟨b7,0,none⟩)),(2,.pointer (some ⟨b2,0,none⟩)),(3,.pointer (some ⟨b3,0,none⟩))]⟩∧St H w (.blk b7 [lF1 q.kind,lF2 q.kind,I (lD q.kind)]:: .blk b3 [I q.kind,I q.st,I q.wa]:: .blk b2 [I s.id,I s.src,(.slice ast s.st.length cst),(.slice awa s.wa.length cwa),I s.al,I s.up]::σ)) ?_ ?_
 ·refine .draw mix rfl hs fun w hs=>?_
  refine .z 1 rfl (zfa pz) ?_;refine .y 2 rfl hs ae ?_
  refine .e2 (i:=0) (j:=7) an rfl rfl rfl rfl .none .none hs ?_ ?_
  ·refine .call Tryz.call189 rfl (kn hs) ?_;rintro _ w ⟨b13,rfl,hs⟩
   refine .go ?_
   refine .q (i:=3) [.obj b13 (.map Ek.toArray 4)] rfl an .none (Al (H:= .bot) q.kind rfl rfl) ?_
   refine .z 4 rfl zm ?_;refine .z 5 rfl zex ?_;refine .z 6 rfl zex ?_
   refine .E 7 hs ?_
   refine .alloc hs F2 rfl ?_;intro b7 w hs
   refine .go ?_
   refine .E 8 hs ?_
   refine .aQ (vs:=[lF1 q.kind,lF2 q.kind,I (lD q.kind)]) hs rfl rfl Tryz.sizeOf231 ?_ (hv:=ym _);intro w hs
   refine .go ?_
   refine .z 9 rfl zg ?_;refine .D hs ?_
   exact nT ⟨b7,bA,hs.sb⟩
  ·refine .alloc hs F2 rfl ?_;intro b7 w hs
   refine .go ?_
   refine .E 0 hs ?_
   refine .call Tryz.call189 rfl (kn hs) ?_;rintro _ w ⟨b13,rfl,hs⟩
   refine .go ?_
   refine .q (i:=3) [.obj b13 (.map Ek.toArray 4)] rfl an .none (Al (H:= .bot) q.kind rfl rfl) ?_
   refine .z 4 rfl zm ?_;refine .z 5 rfl zex ?_;refine .z 6 rfl zex ?_
   refine .E 8 hs ?_
   refine .aQ (vs:=[lF1 q.kind,lF2 q.kind,I (lD q.kind)]) hs rfl rfl Tryz.sizeOf231 ?_ (hv:=ym _);intro w hs
   refine .go ?_
   refine .z 9 rfl zg ?_;refine .D hs ?_
   exact nT ⟨b7,bA,hs.sb⟩
 ·rintro fs w ⟨b7,hfs,hs⟩
  refine WE.sub ?_ hfs
  refine .ai (.y hs (zls [_,_,_] bS bj) (.y hs (zls [_,_,_,_,_,_] aM aE) (.z (zbd (vs:=[(0,.agg #[I q.kind,I q.st,I q.wa]),(1,.agg #[I s.id,I s.src,(.slice ast s.st.length cst),(.slice awa s.wa.length cwa),I s.al,I s.up])]) [I q.kind,I q.st,I q.wa,I s.id,I s.src,(.slice ast s.st.length cst),(.slice awa s.wa.length cwa),I s.al,I s.up] ra rfl an) ?_)))
  refine .o (.alloc hs Tryz.zeroValue236 rfl fun b9 w hs=>?_)
  refine .o (.aQ (vs:=[_,_,_,_,_,_,_,_,_]) hs rfl rfl ka fun w hs=>?_)
  refine .nil (.seq (.ai (.z zm (.z iU (.z zm ?_)))))
  refine .bif (t':=24) rfl (fun hb24=>?_) (fun hb24=>?_)
  ·refine .gFs 5 2 false rfl rfl rfl ?_
   refine .z zpT (.nil ?_)
   refine (.cT ?_)
   refine .ai (.z zg (.z zg (.z zg (.nil ?_))))
   refine .ret (rT (?_))
   have hn:¬eL s q:=fun h=>by have:=BC h;simp [this] at hb24
   exact Fin.gV [] [] hs fun w hs=>⟨_,results3 Tryz.results102 rfl rfl rfl,H,_,[],_,_,.nul,HLe.refl H,rfl,.nil 1 none,.inr ⟨rfl,hn,rfl,rfl⟩,hs.out.nul⟩
  ·refine .gT rfl rfl ?_
   have hk:1≤q.kind∧q.kind≤4:=by simpa using hb24
   rw [show lF1 q.kind= .func (.func (zb q.kind)) #[] #[] from if_pos hk,show lF2 q.kind= .func (.func (yY q.kind)) #[] #[] from if_pos hk,EZ hk] at hs
   refine .z (zfa qt) ?_
   refine .gT rfl rfl ?_
   refine .y hs (zld Tryz.isAgg228) ?_
   refine .gT rfl rfl ?_
   refine .y hs (zls [_,_,_,_,_,_,_,_,_] pT ka) ?_
   refine .gT rfl rfl ?_
   refine .o (.ns (first:=[]) (cap:=[]) rfl rfl (BT q.kind) (BR (s:=s) hs h1 h2 hk) ?_);rintro _ w ⟨b28,rfl,hb28,hs⟩
   refine .gT rfl rfl ?_
   refine .z iU (.z zpF (.nil ?_))
   refine (.cond rfl (fun hc30=>?_) (fun hc30=>?_))
   ·refine .ai (.z zg (.z zg (.z zg (.nil ?_))))
    refine .ret (rT (?_))
    have hn:¬eL s q:=fun h=>by rw [hb28.2 h] at hc30;cases hc30
    exact Fin.gV [] [] hs fun w hs=>⟨_,results3 Tryz.results102 rfl rfl rfl,H,_,[],_,_,.nul,HLe.refl H,rfl,.nil 1 none,.inr ⟨rfl,hn,rfl,rfl⟩,hs.out.nul⟩
   ·refine .skip ?_
    refine nT ?_
    refine .ai ?_
    refine .o (.buildSlice (cells:=[_]) hs bP rfl rfl fun b31 w hs=>?_)
    refine .o (.alloc hs dD rfl fun b10 w hs=>?_)
    refine .o (.store hs rfl rfl aC fun w hs=>?_)
    refine .nil (.seq (.ai (.y hs (zls [_,_,_,_,_,_] aM aE) ?_)))
    have hq:eL s q:=hb28.1 (by simpa using hc30)
    refine .o (.call sS rfl (ed (s:=s) hs h1 h2 ⟨aj,aj⟩) ?_);rintro _ w ⟨H1,ba,hle1,rfl,hit,hs⟩
    have hwl:=gd s q
    refine .nil (.block ?_)
    refine .rangeFunc (gf:=190) (cap:=[.pointer (some ⟨ba,0,none⟩)]) (xs:=sX s) (σb:=[.blk b10 [.slice (some ⟨b31,0,none⟩) 1 1],.blk b31 (Is [0]),.blk b7 [.func (.func (zb q.kind)) #[] #[],.func (.func (yY q.kind)) #[] #[],I (oI q)],.blk b9 [I q.kind,I q.st,I q.wa,I s.id,I s.src,(.slice ast s.st.length cst),(.slice awa s.wa.length cwa),I s.al,I s.up]]) (σf:=σ) (hs.sb) trivial rfl hit sQ (fun x hx=>by
      simp only [sX,List.mem_map] at hx
      obtain ⟨j,_,rfl⟩:=hx;rfl) rfl
     (I:=fun p H' σb=>∃vo en,σb=[.blk b10 [vo],en,.blk b7 [.func (.func (zb q.kind)) #[] #[],.func (.func (yY q.kind)) #[] #[],I (oI q)],.blk b9 [I q.kind,I q.st,I q.wa,I s.id,I s.src,(.slice ast s.st.length cst),(.slice awa s.wa.length cwa),I s.al,I s.up]]∧bQ 1 vo (Is ((nf s q).take (p+1))) en) (Ix:=fun _ _ _=>False)
     (fun j _ _ σ g1 g2=>g2) (fun _ _ _ _ _ h=>h) ⟨_,_,rfl,.full rfl⟩ ?_ ?_ (fun D c H' σb w _ h _=>h.elim)
    ·rintro ly p hp H2 σb2 σf2 w hle2 ⟨vo,en,rfl,hO⟩ hs ⟨rr,hrr⟩
     have hpm:p<s.many:=by rw [dd] at hp;exact hp
     have hin:p/s.wa.length<s.st.length:=Nat.div_lt_of_lt_mul (by rw [Nat.mul_comm];exact hpm)
     have hkm:=Nat.mod_lt p hsm.2.2.1
     have hws:=vJ s q hpm
     have hget:(nf s q)[p+1]? =some (nF s q (p/s.wa.length) (p%s.wa.length)):=by rw [←hws];exact bL aj
     rw [kv hp]
     obtain ⟨al,ll,cl,rfl,hll⟩:=hO.shape
     generalize p/s.wa.length=i at*
     generalize p%s.wa.length=k at*
     refine .region ?_
     refine .o (.alloc hs gX rfl fun b11 w hs=>?_)
     refine .o (.aQ (vs:=[_,_,_]) hs rfl rfl kb fun w hs=>?_)
     refine .nil ?_
     refine nT ?_
     refine ⟨H2,[.blk b11 [I (i:Int),I (k:Int),I ((p+1:Nat):Int)],.blk b10 [Value.slice al ll cl],en,.blk b7 [.func (.func (zb q.kind)) #[] #[],.func (.func (yY q.kind)) #[] #[],I (oI q)],.blk b9 [I q.kind,I q.st,I q.wa,I s.id,I s.src,(.slice ast s.st.length cst),(.slice awa s.wa.length cwa),I s.al,I s.up]],HLe.refl _,hs,?_⟩;rintro w σf4 - hs
     refine .block ?_
     refine .draw mix rfl hs fun w hs=>?_
     refine .y 0 rfl hs ak ?_;refine .z 1 rfl (zfa qs) ?_
     refine .y 2 rfl hs Tryz.isAgg229 ?_
     refine .ys 3 rfl hs [_,_,_,_,_,_,_,_,_] pT ka ?_;refine .ys 4 rfl hs [_,_,_] Tryz.isAgg158 kb ?_
     refine .E 5 hs ?_
     refine .ns (first:=[]) (cap:=[]) rfl rfl (BE q.kind) (BD (s:=s) (q:=q) (i:=i) (k:=k) hs (h1.mono (hle1.trans hle2)) (h2.mono (hle1.trans hle2)) hok hq hk hin hkm) ?_;rintro _ w ⟨H3,hle3,rfl,hs⟩
     refine .go ?_
     refine .E 6 hs ?_
     refine .buildSlice (cells:=[_]) hs bP rfl rfl ?_;intro b41 w hs
     refine .go ?_
     refine .E 7 hs ?_
     refine .append (ys:=Is [nF s q i k]) hs bH rfl rfl hO (.own .here rfl rfl) (fN _) (fun l h=>by simp at h;omega) ?_;intro v42 en42 w hO2 hs
     rw [show Is ((nf s q).take (p+1))++Is [nF s q i k]=Is ((nf s q).take (p+1+1)) by rw [cU hget];simp [Is]] at hO2
     obtain ⟨a42,l42,c42,rfl,h42⟩:=hO2.shape
     refine .go ?_
     refine .E 8 hs ?_
     refine .store hs rfl rfl aC ?_;intro w hs
     refine .go ?_
     refine .D hs ?_
     refine nB ?_
     exact ⟨H3,[.blk b10 [.slice a42 l42 c42],en42,.blk b7 [.func (.func (zb q.kind)) #[] #[],.func (.func (yY q.kind)) #[] #[],I (oI q)],.blk b9 [I q.kind,I q.st,I q.wa,I s.id,I s.src,(.slice ast s.st.length cst),(.slice awa s.wa.length cwa),I s.al,I s.up]],hle3,(hs.sb:St H3 w (.blk b10 _::en42:: .blk b7 _:: .blk b9 _::σf4)),_,_,rfl,hO2⟩
    ·rintro D H2 σb2 w hle2 ⟨vo,en,rfl,hO⟩ hs
     rw [dd,←hwl,List.take_length] at hO
     replace hs:St H2 w (.obj D (.deferred (some [])):: .blk b10 [vo]::en:: .blk b7 [.func (.func (zb q.kind)) #[] #[],.func (.func (yY q.kind)) #[] #[],I (oI q)]:: .blk b9 [I q.kind,I q.st,I q.wa,I s.id,I s.src,(.slice ast s.st.length cst),(.slice awa s.wa.length cwa),I s.al,I s.up]::σ):=hs
     obtain ⟨al,ll,cl,rfl,hll⟩:=hO.shape
     refine nB (nT ?_)
     refine .seq (.draw mix rfl hs fun w hs=>?_)
     refine .y 0 rfl hs ak ?_;refine .z 1 rfl (zfa qq) ?_;refine .y 2 rfl hs ae ?_;refine .z 3 rfl zg ?_;refine .z 4 rfl zg ?_;refine .z 5 rfl zg ?_;refine .D hs ?_
     refine .ret ?_
     exact Fin.gV [D] [] hs fun w hs=>⟨_,results3 Tryz.results102 rfl rfl rfl,H2,_,_,_,_,en,hle1.trans hle2,rfl,hO,.inl ⟨rfl,hq,rfl,rfl⟩,hs.sb⟩
theorem eD{a d:Int}(hs:St H w σ)(hd:1≤d)(ha: -4608000000000000000≤a∧a≤4608000000000000000):
  Cl Tryz.prog 86 [I a,I d] w fun v w'=>v=I (a/d)∧St H w' σ:=by
 have hq: -4608000000000000000≤a.tdiv d∧a.tdiv d≤4608000000000000000:=by
  have h1:=yA (n:=a) (d:=d) aj
  have h2:a/d≤4608000000000000000:=Int.ediv_le_of_le_mul aj (by
   have:=Int.mul_le_mul_of_nonneg_left hd (show (0:Int)≤4608000000000000000 by omega);omega)
  have h3: -4608000000000000000≤a/d:=Int.le_ediv_of_mul_le aj (by
   have:=Int.mul_le_mul_of_nonneg_left hd (show (0:Int)≤4608000000000000000 by omega);omega)
  by_cases h0:0≤a
  ·rw [Int.tdiv_eq_ediv_of_nonneg h0];omega
  ·split at h1
   ·have:a/d<0:=Int.ediv_neg_of_neg_of_pos aj aj
    omega
   ·omega
 have hfl:=yA (n:=a) (d:=d) aj
 refine Cl.o Tryz.func86 Tryz.ntmps86 ag2 ?_
 refine .ai (.z zg (.nil (.ai (.z zm (.z zm ?_)))))
 refine .q hs (xZ rfl rfl aj ⟨aj,aj⟩) ?_
 refine .z zg (.nil (.seq (.ai (.z zm (.z zm (.z CS (.z ik (.nil ?_))))))))
 refine (.cg rfl (fun hc12=>?_) (fun hc12=>?_))
 ·refine .region (.z zm (.z iK (.z zg (.nil ?_))))
  refine nT ?_
  refine .ai (.z zm (.z zg (.nil ?_)))
  refine .ret (Fin.bD Tryz.results86 rfl ?_)
  rw [if_pos hc12] at hfl
  exact ⟨by rw [hfl],hs⟩
 ·refine .skip ?_
  refine nT ?_
  refine .ai (.z zm (.z zg (.nil ?_)))
  refine .ret (Fin.bD Tryz.results86 rfl ?_)
  rw [if_neg hc12,Int.sub_zero] at hfl
  exact ⟨by rw [hfl],hs⟩
theorem oo{s:Srv}{vst vwa vr vc:Value}(hs:St H w σ)(h1:RI H vst s.sp.st)(h2:RI H vwa s.sp.wa)(h3:RRd H vr s.rs)(h4:RCm H vc s.cs)(hok:c9 s):
  Cl Tryz.prog 169 [.agg #[I s.sp.id,I s.sp.src,vst,vwa,I s.sp.al,I s.sp.up,vr,vc]] w fun u w'=>∃H1,∃b:Bool,HLe H H1∧u= .bool b∧(b=true↔s.sys.Sound)∧St H1 w' σ:=by
 refine Cl.o Tryz.func169 Tryz.ntmps169 ag1 ?_
 refine .ai ?_
 refine .bx hs fun b1 w hs=>?_
 refine .z zg (.nil (.ai (.y hs (zls [_,_,_,_,_,_,_,_] aJ aD) ?_)))
 refine .o (.call vG rfl (dO (s:=s) hs h1 h2 h3 h4 hok.early) ?_);rintro v7 w ⟨H1,hle1,hS,hs⟩
 refine .o (.call Tryz.call51 rfl (q7 (s:=s.sys) hs hS) ?_);rintro _ w ⟨H2,vx,xs,e,hle2,rfl,rx,hC,hs⟩
 obtain ⟨ax,cx,rfl⟩:=RI.shape rx
 have hchk:s.sys.check=0:=s.sys.bT.2 hok.sys
 obtain rfl:e=0:=by
  cases hC with
  |bad h=>exact (h hchk).elim
  |sound=>rfl
  |chain=>rfl
 have hiff:=hC.z6
 refine .z zm (.z zex (.z zex (.z zg (.z zg (.nil (.ai (.z zm (.z j6 (.z zm ?_)))))))))
 refine .j7 (t':=13) rfl (fun hb13=>?_) (fun hb13=>?_)
 ·refine .gT rfl rfl ?_
  refine .z zm ?_
  refine .gT rfl rfl ?_
  refine .z (cS ad) ?_
  refine .gT rfl rfl ?_
  refine .z j6 (.z zpT (.z zg (.nil ?_)))
  refine .ret (Fin.bD Tryz.results169 rfl ?_)
  first
  |exact ⟨H2,_,hle1.trans hle2,rfl,by rw [←hiff,decide_eq_true_eq];exact ⟨fun h=>List.length_eq_zero_iff.1 aj,fun h=>by rw [h];rfl⟩,hs.out⟩
  |exact (hb13 rfl).elim
 ·refine .gFs 3 2 true rfl rfl rfl ?_
  refine .z zpF (.z zg (.nil ?_))
  refine .ret (Fin.bD Tryz.results169 rfl ?_)
  first
  |exact ⟨H2,_,hle1.trans hle2,rfl,by rw [←hiff,decide_eq_true_eq];exact ⟨fun h=>List.length_eq_zero_iff.1 aj,fun h=>by rw [h];rfl⟩,hs.out⟩
  |exact (hb13 rfl).elim
theorem CK(L:List Int)(j:Nat):L++List.replicate j 0++[0]=L++List.replicate (j+1) 0:=by
 rw [List.append_assoc,←List.replicate_succ']
set_option maxHeartbeats 1000000 in
theorem lK{s:Srv}{q:Wht}{vst vwa vr vc:Value}(hs:St H w σ)(h1:RI H vst s.sp.st)(h2:RI H vwa s.sp.wa)(h3:RRd H vr s.rs)(h4:RCm H vc s.cs)(hok:c9 s):
  Cl Tryz.prog 155 [.agg #[I s.sp.id,I s.sp.src,vst,vwa,I s.sp.al,I s.sp.up,vr,vc],.agg #[I q.kind,I q.st,I q.wa]] w fun u w'=>∃H1 ul vw L d b,HLe H H1∧u= .tuple #[.agg #[I s.sys.many,ul,vw,I d],.bool b]∧RL H1 ul s.bK∧RI H1 vw L∧L.length=s.sys.n∧((b=true∧eL s.sp q∧L=s.w q∧d=oI q)∨(b=false∧¬eL s.sp q))∧St H1 w' σ:=by
 have hn:=nh s
 have hm:=hok.many
 have hsm:s.sys.many+1=(s.sys.n:Int):=by rw [hn];show ((s.sp.many+s.bh.length:Nat):Int)+1=_;omega
 refine Cl.o Tryz.func155 Tryz.ntmps155 ag2 ?_
 refine .ai ?_
 refine .bx hs fun b2 w hs=>?_
 refine .bx hs fun b3 w hs=>?_
 refine .o (.alloc hs gY rfl fun b4 w hs=>?_)
 refine .z zg (.nil (.ai (.y hs (zls [_,_,_,_,_,_,_,_] aJ aD) ?_)))
 refine .o (.call vG rfl (dO (s:=s) hs h1 h2 h3 h4 hok.early) ?_);rintro _ w ⟨H1,hle1,⟨ul,rfl,hL⟩,hs⟩
 obtain ⟨al,cl,rfl⟩:=RL.shape hL
 refine .o (.alloc hs dC rfl fun b6 w hs=>?_)
 refine .o (.aQ (vs:=[_,_]) hs rfl rfl aH fun w hs=>?_)
 refine .nil (.ai (.z (zfa aN) (.y hs (zls [_,_,_,_,_,_] aM aE) (.y hs (zls [_,_,_] bS bj) ?_))))
 refine .o (.call Tryz.call102 rfl (jE (s:=s.sp) (q:=q) hs (h1.mono hle1) (h2.mono hle1) hok.early.1) ?_);rintro _ w ⟨H2,vl,L0,d,b,en,hle2,rfl,hO,hcase,hs⟩
 have hL0:L0.length≤s.sys.n:=by
  rcases hcase with ⟨_,_,rfl,_⟩|⟨_,_,rfl,_⟩
  ·rw [gd,hn];omega
  ·simp
 have hle02:=hle1.trans hle2
 refine .z zm (.z zex (.z zex (.z zex (.z zg (.z zg (.z zg (.nil (.seq (.block ?_)))))))))
 refine .loop (fun p:Nat×Value=>⟨34,[],[(7,p.2),(8,I d),(9,.bool b),(6,.pointer (some ⟨b6,0,none⟩)),(4,.pointer (some ⟨b4,0,none⟩))]⟩)
  (fun p w=>L0.length+p.1≤s.sys.n∧∃en,bQ 1 p.2 (Is (L0++List.replicate p.1 0)) en∧St H2 w (en:: .blk b6 [I s.sys.many,.slice al s.bK.length cl]:: .blk b4 [I 0,.slice none 0 0,.slice none 0 0,I 0]::σ)) (fun p=>s.sys.n - (L0.length+p.1)) (0,vl) bA
  ⟨by simpa using hL0,en,by simpa using hO,hs.sb⟩ ?_
 clear hO hs
 rintro ⟨j,vo⟩ w ⟨hj,en,hO,hs⟩
 dsimp only at hj hO ⊢
 obtain ⟨ao,lo,co,rfl,hlo⟩:=hO.shape
 have hlo':lo=L0.length+j:=by simp [Is] at hlo;omega
 refine .seq (.ai (.z zm (.z (cS ad) (.z (zfa bw) (.y hs (zld ae) (.z cC (.z ik (.nil ?_))))))))
 refine (.cg rfl (fun hc25=>?_) (fun hc25=>?_))
 ·refine .skip ?_
  refine nT ?_
  refine .block (.region (.z zm ?_))
  refine .o (.buildSlice (cells:=[_]) hs bP rfl rfl fun b27 w hs=>?_)
  refine .o (.append (ys:=Is [0]) hs bH rfl rfl hO (.own .here rfl rfl) (fN _) (fun l' h=>by simp [Is] at h;omega) ?_);intro v28 en28 w hO2 hs
  rw [show Is (L0++List.replicate j 0)++Is [0]=Is (L0++List.replicate (j+1) 0) by rw [←CK];simp [Is]] at hO2
  refine .z zg (.nil ?_)
  refine nB (nT ?_)
  exact ⟨(j+1,v28),bA,⟨by dsimp only;omega,_,hO2,hs.sb⟩,by dsimp only;omega⟩
 ·refine .exit ?_
  refine xT (xT (xB (nT ?_)))
  refine .ai (.y hs (zls [_,_] a8 aH) (.z zm (.z zm (.z (zbd [_,_,_,_] fh) (.z zm ?_)))))
  refine .o (.aQ (vs:=[_,_,_,_]) hs rfl rfl cq fun w hs=>?_)
  refine .z zg (.nil ?_)
  refine .ret ?_
  have hjn:L0.length+j=s.sys.n:=by omega
  obtain ⟨H3,hle3,hR,hs⟩:=bQ.dj hO (by simp;omega) hs dJ
  exact Fin.gV [] [] hs fun w hs=>⟨_,results2 Tryz.results155 (di (vs:=[_,_,_,_]) hs rfl jJ cq) rfl,H3,_,_,_,d,b,hle02.trans hle3,rfl,hL.mono (hle2.trans hle3),hR,by simp;omega,by
   rcases hcase with ⟨g1,g2,rfl,g3⟩|⟨g1,g2,_,_⟩
   ·refine .inl ⟨g1,g2,?_,g3⟩
    rw [gd,hn] at hjn
    unfold Srv.w;rw [show j=s.bh.length by omega]
   ·exact .inr ⟨g1,g2⟩,hs.out⟩
inductive pP(v:Srv)(q:Wht):Int→Prop
 |bad {e:Int} (h:tc v e) (he:e≠0):pP v q e
 |what (h:c9 v) (h1:¬eL v.sp q):pP v q 33
 |fls (h:c9 v) (h1:eL v.sp q) (h2:¬v.sys.Sound):pP v q 35
 |ok (h:c9 v) (h1:eL v.sp q) (h2:v.sys.Sound):pP v q 0
theorem pP.zero{v:Srv}{q:Wht}(h:pP v q 0):c9 v∧eL v.sp q∧v.sys.Sound:=by
 generalize hz:(0:Int)=z at h
 cases h with
 |bad h he=>exact (he hz.symm).elim
 |what=>omega
 |fls=>omega
 |ok h h1 h2=>exact ⟨h,h1,h2⟩
theorem pP.qty{v:Srv}{q:Wht}{e:Int}(h:pP v q e)(he:e≠0):vD v q 0 0 e:=by
 cases h with
 |bad h he=>exact .bad h he
 |what h h1=>exact .what h h1
 |fls h h1 h2=>exact .fls h h1 h2
 |ok=>exact (he rfl).elim
set_option maxHeartbeats 1000000 in
theorem iq{s:Srv}{q:Wht}{vst vwa vr vc:Value}(hs:St H w σ)(h1:RI H vst s.sp.st)(h2:RI H vwa s.sp.wa)(h3:RRd H vr s.rs)(h4:RCm H vc s.cs):
  Cl Tryz.prog 85 [.agg #[I s.sp.id,I s.sp.src,vst,vwa,I s.sp.al,I s.sp.up,vr,vc],.agg #[I q.kind,I q.st,I q.wa]] w fun u w'=>∃H1 m ul vw d e,HLe H H1∧u= .tuple #[.agg #[I m,ul,vw,I d],I e]∧(∃a l c,ul= .slice a l c)∧(∃a l c,vw= .slice a l c)∧pP s q e∧(e=0→m=s.sys.many∧RL H1 ul s.bK∧RI H1 vw (s.w q)∧d=oI q)∧St H1 w' σ:=by
 refine Cl.o Tryz.func85 Tryz.ntmps85 ag2 ?_
 refine .ai ?_
 refine .bx hs fun b2 w hs=>?_
 refine .bx hs fun b3 w hs=>?_
 refine .o (.alloc hs gY rfl fun b4 w hs=>?_)
 refine .z zg (.nil (.seq (.ai (.y hs (zls [_,_,_,_,_,_,_,_] aJ aD) ?_))))
 refine .o (.call qz rfl (dk (s:=s) hs h1 h2 h3 h4) ?_);rintro _ w ⟨H1,e,hle1,rfl,hC,hs⟩
 refine .z zg (.nil (.ai (.z zm (.z fP (.nil ?_)))))
 refine (.ep rfl (fun hc12=>?_) (fun hc12=>?_))
 ·refine .ai (.z (zbd [_,_,_,_] fh) (.z zm ?_))
  refine .o (.aQ (vs:=[_,_,_,_]) hs rfl rfl cq fun w hs=>?_)
  refine .z zg (.nil ?_)
  refine .ret (rT (?_))
  exact Fin.gV [] [] hs fun w hs=>⟨_,results2 Tryz.results85 (di (vs:=[_,_,_,_]) hs rfl jJ cq) rfl,H1,_,_,_,_,e,hle1,rfl,⟨_,_,_,rfl⟩,⟨_,_,_,rfl⟩,.bad hC hc12,fun h=>(hc12 h).elim,hs.out⟩
 ·refine .skip ?_
  refine nT ?_
  refine .ai (.y hs (zls [_,_,_,_,_,_,_,_] aJ aD) (.y hs (zls [_,_,_] bS bj) ?_))
  have hok:c9 s:=hC.bT.1 (by simpa using hc12)
  refine .o (.call Tryz.call155 rfl (lK (s:=s) (q:=q) hs (h1.mono hle1) (h2.mono hle1) (h3.mono hle1) (h4.mono hle1) hok) ?_);rintro _ w ⟨H2,ul,vw,L,d,b,hle2,rfl,hL,hR,hLl,hcase,hs⟩
  have hle02:=hle1.trans hle2
  obtain ⟨al,cl,rfl⟩:=RL.shape hL
  obtain ⟨aw,cw,rfl⟩:=RI.shape hR
  refine .z zm (.z zex (.z zex ?_))
  refine .o (.alloc hs gY rfl fun b7 w hs=>?_)
  refine .o (.aQ (vs:=[_,_,_,_]) hs rfl rfl cq fun w hs=>?_)
  refine .z zg (.nil (.seq (.block (.ai (.z zm (.z iU (.z zg (.nil ?_))))))))
  refine (.cond rfl (fun hc21=>?_) (fun hc21=>?_))
  ·refine .ai (.z (zbd [_,_,_,_] fh) ?_)
   refine .o (.aQ (vs:=[_,_,_,_]) hs rfl rfl cq fun w hs=>?_)
   refine .z zg (.nil ?_)
   refine .ret (rB (rT (?_)))
   have hq:¬eL s.sp q:=by
    rcases hcase with ⟨g,_⟩|⟨_,g⟩
    ·subst g;cases hc21
    ·exact g
   exact Fin.gV [] [] hs fun w hs=>⟨_,results2 Tryz.results85 (di (vs:=[_,_,_,_]) hs rfl jJ cq) rfl,H2,_,_,_,_,_,hle02,rfl,⟨_,_,_,rfl⟩,⟨_,_,_,rfl⟩,.what hok hq,fun h=>by omega,hs.out⟩
  ·refine .ai (.y hs (zls [_,_,_,_,_,_,_,_] aJ aD) ?_)
   obtain ⟨rfl,hq,rfl,rfl⟩:b=true∧eL s.sp q∧L=s.w q∧d=oI q:=hcase.resolve_right fun h=>by rw [h.1] at hc21;cases hc21
   refine .o (.call Tryz.call169 rfl (oo (s:=s) hs (h1.mono hle02) (h2.mono hle02) (h3.mono hle02) (h4.mono hle02) hok) ?_);rintro _ w ⟨H3,b27,hle3,rfl,hb27,hs⟩
   refine .z iU (.z zg (.nil ?_))
   refine (.cond rfl (fun hc25=>?_) (fun hc25=>?_))
   ·refine .ai (.z (zbd [_,_,_,_] fh) ?_)
    refine .o (.aQ (vs:=[_,_,_,_]) hs rfl rfl cq fun w hs=>?_)
    refine .z zg (.nil ?_)
    refine .ret (rB (rT (?_)))
    exact Fin.gV [] [] hs fun w hs=>⟨_,results2 Tryz.results85 (di (vs:=[_,_,_,_]) hs rfl jJ cq) rfl,H3,_,_,_,_,_,hle02.trans hle3,rfl,⟨_,_,_,rfl⟩,⟨_,_,_,rfl⟩,.fls hok hq (fun h=>by rw [hb27.2 h] at hc25;cases hc25),fun h=>by omega,hs.out⟩
   ·refine .skip ?_
    refine nB (nT ?_)
    refine .ai (.y hs (zls [_,_,_,_] jJ cq) ?_)
    refine .o (.aQ (vs:=[_,_,_,_]) hs rfl rfl cq fun w hs=>?_)
    refine .z zg (.nil ?_)
    refine .ret ?_
    exact Fin.gV [] [] hs fun w hs=>⟨_,results2 Tryz.results85 (di (vs:=[_,_,_,_]) hs rfl jJ cq) rfl,H3,_,_,_,_,_,hle02.trans hle3,rfl,⟨_,_,_,rfl⟩,⟨_,_,_,rfl⟩,.ok hok hq (hb27.1 (by simpa using hc25)),fun _=>⟨rfl,hL.mono hle3,hR.mono hle3,rfl⟩,hs.out⟩
set_option maxHeartbeats 1000000 in
theorem iy{s:Srv}{q:Wht}{vst vwa vr vc:Value}(hs:St H w σ)(h1:RI H vst s.sp.st)(h2:RI H vwa s.sp.wa)(h3:RRd H vr s.rs)(h4:RCm H vc s.cs):
  Cl Tryz.prog 26 [.agg #[I s.sp.id,I s.sp.src,vst,vwa,I s.sp.al,I s.sp.up,vr,vc],.agg #[I q.kind,I q.st,I q.wa]] w fun u w'=>∃H1 lo hi e,HLe H H1∧u= .tuple #[.agg #[I lo,I hi],I e]∧vD s q lo hi e∧St H1 w' σ:=by
 refine Cl.o Tryz.func26 Tryz.ntmps26 ag2 ?_
 refine .ai ?_
 refine .bx hs fun b2 w hs=>?_
 refine .bx hs fun b3 w hs=>?_
 refine .o (.alloc hs dN rfl fun b4 w hs=>?_)
 refine .z zg (.nil (.ai (.y hs (zls [_,_,_,_,_,_,_,_] aJ aD) (.y hs (zls [_,_,_] bS bj) ?_))))
 refine .o (.call Tryz.call85 rfl (iq (s:=s) (q:=q) hs h1 h2 h3 h4) ?_);rintro _ w ⟨H1,m,ul,vw,d,e,hle1,rfl,⟨al,ll,cl,rfl⟩,⟨aw,lw,cw,rfl⟩,hA,hA0,hs⟩
 refine .z zm (.z zex (.z zex ?_))
 refine .o (.alloc hs gY rfl fun b6 w hs=>?_)
 refine .o (.aQ (vs:=[_,_,_,_]) hs rfl rfl cq fun w hs=>?_)
 refine .z zg (.nil (.seq (.ai (.z zm (.z fP (.nil ?_))))))
 refine (.ep rfl (fun hc17=>?_) (fun hc17=>?_))
 ·refine .ai (.z (zbd [_,_] cn) (.z zm ?_))
  refine .o (.aQ (vs:=[_,_]) hs rfl rfl aS fun w hs=>?_)
  refine .z zg (.nil ?_)
  refine .ret (rT (?_))
  exact Fin.gV [] [] hs fun w hs=>⟨_,results2 Tryz.results26 (di (vs:=[_,_]) hs rfl cW aS) rfl,H1,_,_,_,hle1,rfl,hA.qty hc17,hs.out⟩
 ·refine .skip ?_
  refine nT ?_
  refine .ai (.z (zfa eU) (.y hs (zls [_,_] a8 aH) (.z (zfa jj) (.y hs (zld ak) ?_))))
  obtain rfl:e=0:=by simpa using hc17
  obtain ⟨rfl,hL,hR,rfl⟩:=hA0 rfl
  obtain ⟨hok,hq,hsd⟩:=hA.zero
  refine .o (.call Tryz.call74 rfl (jA (s:=s.sys) hs ⟨_,rfl,hL⟩ hR) ?_);rintro _ w ⟨H2,lo,hi,f,hle2,rfl,hRg,hs⟩
  obtain rfl:=pD (hok.ask hq) hsd (fun b=>s.both) hRg
  have hbd:=hRg.bd
  have hdp:=m9 q
  refine .z zm (.z zex (.z zex (.z zex (.z zg (.z zg (.z zg (.nil (.seq (.ai ?_)))))))))
  refine .z zm (.z fP (.nil ?_))
  refine (.ep rfl (fun hc30=>?_) (fun hc30=>?_))
  ·refine .ai (.z (zbd [_,_] cn) (.z zm ?_))
   refine .o (.aQ (vs:=[_,_]) hs rfl rfl aS fun w hs=>?_)
   refine .z zg (.nil ?_)
   refine .ret (rT (?_))
   exact (hc30 rfl).elim
  ·refine .skip ?_
   refine nT ?_
   refine .seq (.draw mix rfl hs fun w hs=>?_)
   refine .z 0 rfl zm ?_;refine .z 1 rfl (zfa dW) ?_;refine .y 2 rfl hs ae ?_;refine .z 4 rfl zm ?_;refine .z 5 rfl (zfa dW) ?_;refine .y 6 rfl hs ae ?_
   refine .E 3 hs ?_
   refine .call CR rfl (eD hs aj aj) ?_;rintro _ w ⟨rfl,hs⟩
   refine .go ?_
   refine .E 7 hs ?_
   refine .call CR rfl (eD hs aj aj) ?_;rintro _ w ⟨rfl,hs⟩
   refine .go ?_
   refine .z 8 rfl (zbd [_,_] cn) ?_
   refine .E 9 hs ?_
   refine .aQ (vs:=[_,_]) hs rfl rfl aS ?_;intro w hs
   refine .go ?_
   refine .z 10 rfl zg ?_;refine .D hs ?_
   refine .ret ?_
   exact Fin.gV [] [] hs fun w hs=>⟨_,results2 Tryz.results26 (di (vs:=[_,_]) hs rfl cW aS) rfl,H2,_,_,_,hle1.trans hle2,rfl,.ok hok hq hsd hRg,hs.out⟩
inductive yU(v:Srv)(out:List Int):Int→Prop
 |bad {e:Int} (h:tc v e) (he:e≠0) (h1:out=[]):yU v out e
 |ok {e:Int} (h:c9 v) (h1:vq v.sys out e):yU v out e
theorem o9{s:Srv}{vst vwa vr vc:Value}(hs:St H w σ)(h1:RI H vst s.sp.st)(h2:RI H vwa s.sp.wa)(h3:RRd H vr s.rs)(h4:RCm H vc s.cs):
  Cl Tryz.prog 32 [.agg #[I s.sp.id,I s.sp.src,vst,vwa,I s.sp.al,I s.sp.up,vr,vc]] w fun u w'=>∃H1 vx out e,HLe H H1∧u= .tuple #[vx,I e]∧RI H1 vx out∧yU s out e∧St H1 w' σ:=by
 refine Cl.o Tryz.func32 Tryz.ntmps32 ag1 ?_
 refine .ai ?_
 refine .bx hs fun b1 w hs=>?_
 refine .z zg (.z zg (.nil (.seq (.ai (.y hs (zls [_,_,_,_,_,_,_,_] aJ aD) ?_)))))
 refine .o (.call qz rfl (dk (s:=s) hs h1 h2 h3 h4) ?_);rintro _ w ⟨H1,e,hle1,rfl,hC,hs⟩
 refine .z zg (.nil (.ai (.z zm (.z fP (.nil ?_)))))
 refine (.ep rfl (fun hc10=>?_) (fun hc10=>?_))
 ·refine .ai (.z zm (.z zg (.z zg (.nil ?_))))
  refine .ret (rT (Fin.oH Tryz.results32 rfl rfl ?_))
  exact ⟨H1,_,[],_,hle1,rfl,RS.nil H1 1 none 0,.bad hC hc10 rfl,hs.out⟩
 ·refine .skip ?_
  refine nT ?_
  refine .ai (.y hs (zls [_,_,_,_,_,_,_,_] aJ aD) ?_)
  have hok:c9 s:=hC.bT.1 (by simpa using hc10)
  refine .o (.call vG rfl (dO (s:=s) hs (h1.mono hle1) (h2.mono hle1) (h3.mono hle1) (h4.mono hle1) hok.early) ?_);rintro v14 w ⟨H2,hle2,hS,hs⟩
  refine .o (.call Tryz.call98 rfl (oB (s:=s.sys) hs hS) ?_);rintro _ w ⟨H3,vx,out,f,hle3,rfl,hR,hCf,hs⟩
  refine .z zm (.z zex (.z zex (.z zg (.z zg (.nil (.ai (.z zm (.z zm (.z zg ?_)))))))))
  refine .z zg (.nil ?_)
  refine .ret (Fin.oH Tryz.results32 rfl rfl ?_)
  exact ⟨H3,_,out,_,hle1.trans (hle2.trans hle3),rfl,hR,.ok hok hCf,hs.out⟩
set_option maxHeartbeats 1000000 in
theorem iQ{s:Srv}{t:TD}{vst vwa vr vc:Value}(hs:St H w σ)(h1:RI H vst s.sp.st)(h2:RI H vwa s.sp.wa)(h3:RRd H vr s.rs)(h4:RCm H vc s.cs):
  Cl Tryz.prog 28 [.agg #[I s.sp.id,I s.sp.src,vst,vwa,I s.sp.al,I s.sp.up,vr,vc],.agg #[I t.tape,I t.day]] w fun u w'=>∃H1 lo hi e,HLe H H1∧u= .tuple #[.agg #[I lo,I hi],I e]∧sM s t lo hi e∧St H1 w' σ:=by
 refine Cl.o Tryz.func28 Tryz.ntmps28 ag2 ?_
 refine .ai ?_
 refine .bx hs fun b2 w hs=>?_
 refine .bx hs fun b3 w hs=>?_
 refine .o (.alloc hs dN rfl fun b4 w hs=>?_)
 refine .z zg (.nil (.seq (.ai (.y hs (zls [_,_,_,_,_,_,_,_] aJ aD) ?_))))
 refine .o (.call qz rfl (dk (s:=s) hs h1 h2 h3 h4) ?_);rintro _ w ⟨H1,e,hle1,rfl,hC,hs⟩
 refine .z zg (.nil (.ai (.z zm (.z fP (.nil ?_)))))
 refine (.ep rfl (fun hc15=>?_) (fun hc15=>?_))
 ·refine .ai (.z (zbd [_,_] cn) (.z zm ?_))
  refine .o (.aQ (vs:=[_,_]) hs rfl rfl aS fun w hs=>?_)
  refine .z zg (.nil ?_)
  refine .ret (rT (?_))
  exact Fin.gV [] [] hs fun w hs=>⟨_,results2 Tryz.results28 (di (vs:=[_,_]) hs rfl cW aS) rfl,H1,_,_,_,hle1,rfl,.bad hC hc15,hs.out⟩
 ·refine .skip ?_
  refine nT ?_
  refine .seq (.draw mix rfl hs fun w hs=>?_)
  refine .ys 0 rfl hs [_,_,_,_,_,_,_,_] aJ aD ?_;refine .ys 2 rfl hs [_,_] cP bk ?_
  refine .E 1 hs ?_
  have hok:c9 s:=hC.bT.1 (by simpa using hc15)
  have hsm:=eo hok.early.1
  have hrl:=hok.early.2.1
  have hn:=nh s
  have htl:s.bh.length≤60:=by have:=cI s.rs;unfold Srv.bh;omega
  refine .call Tryz.call90 rfl (fR (s:=s) hs (h3.mono hle1) aj) ?_;rintro v19 w ⟨H2,hle2,hT,hs⟩
  have hle02:=hle1.trans hle2
  refine .go ?_
  refine .E 3 hs ?_
  refine .call Tryz.call89 rfl (mj (t:=t) hs hT aj) ?_;rintro _ w ⟨rfl,hs⟩
  have hnn:=kg (l:=s.bh) (t:=t)
  refine .go ?_
  refine .z 4 rfl zg ?_;refine .D hs ?_
  refine .seq (.ai (.z zm (.z ik (.nil ?_))))
  refine (.cg rfl (fun hc23=>?_) (fun hc23=>?_))
  ·refine .ai (.z (zbd [_,_] cn) ?_)
   refine .o (.aQ (vs:=[_,_]) hs rfl rfl aS fun w hs=>?_)
   refine .z zg (.nil ?_)
   refine .ret (rT (?_))
   exact Fin.gV [] [] hs fun w hs=>⟨_,results2 Tryz.results28 (di (vs:=[_,_]) hs rfl cW aS) rfl,H2,_,_,_,hle02,rfl,.none hok (fun h=>by have:=hnn.2 h;omega),hs.out⟩
  ·refine .skip ?_
   refine nT ?_
   refine .seq (.draw mix rfl hs fun w hs=>?_)
   refine .z 0 rfl (zfa aN) ?_;refine .ys 1 rfl hs [_,_,_,_,_,_] aM aE ?_;refine .ys 4 rfl hs [_,_,_,_,_,_,_,_] aJ aD ?_
   refine .E 2 hs ?_
   have hmem:t∈s.bh:=hnn.1 aj
   obtain ⟨k,k1,k2,k3⟩:=ek hmem
   have hlt:=c9.zX hmem
   rw [k1,Int.toNat_natCast] at hlt
   rw [k1] at hc23 ⊢
   refine .call Tryz.call91 rfl (fj (s:=s.sp) hs (h1.mono hle02) (h2.mono hle02) ⟨aj,aj⟩) ?_;rintro _ w ⟨rfl,hs⟩
   refine .go ?_
   refine .z 3 rfl cC ?_
   refine .E 5 hs ?_
   refine .call Tryz.call90 rfl (fR (s:=s) hs (h3.mono hle02) aj) ?_;rintro v30 w ⟨H3,hle3,hT2,hs⟩
   have hle03:=hle02.trans hle3
   obtain ⟨at_,ct,rfl⟩:=RTd.shape hT2
   refine .go ?_
   refine .z 6 rfl (cS aO) ?_;refine .z 7 rfl cC ?_
   refine .E 8 hs ?_
   refine .so s.sys.n hs (by show some (I _)=some (I _);congr 2;rw [hn];show _=((s.sp.many+s.bh.length+1:Nat):Int);omega) (by show some (I _)=some (I _);congr 2;rw [hn];show _=((s.sp.many+s.bh.length+1:Nat):Int);omega) ad eM rfl af bE aj ?_;intro b33 w hs
   refine .go ?_
   refine .z 9 rfl zg ?_;refine .D hs ?_
   refine .ai (.z zm (.z (zfa aN) (.y hs (zls [_,_,_,_,_,_] aM aE) ?_)))
   refine .o (.call Tryz.call91 rfl (fj (s:=s.sp) hs (h1.mono hle03) (h2.mono hle03) ⟨aj,aj⟩) ?_);rintro _ w ⟨rfl,hs⟩
   refine .z cC (.z zm (.z cC ?_))
   refine .q hs (ij (k:=s.sp.many+1+k) rfl rfl ad af aj aj) ?_
   refine .o (.store (c':=Is (oP s.sys.n (s.sp.many+1+k) 1)) hs rfl rfl af ?_ dJ (by simp [Is];omega) (qM _ _ _));intro w hs
   refine .nil (.ai (.y hs (zls [_,_,_,_,_,_,_,_] aJ aD) ?_))
   obtain ⟨H4,hle4,hW,hs⟩:=bQ.dj (xs:=oP s.sys.n (s.sp.many+1+k) 1) (v:= .slice (some ⟨b33,0,none⟩) s.sys.n s.sys.n) (.full (by simp [Is,ia])) (by rw [ia];omega) hs dJ
   have hle04:=hle03.trans hle4
   refine .o (.call vG rfl (dO (s:=s) hs (h1.mono hle04) (h2.mono hle04) (h3.mono hle04) (h4.mono hle04) hok.early) ?_);rintro v44 w ⟨H5,hle5,hS,hs⟩
   refine .z zm ?_
   refine .o (.call Tryz.call74 rfl (jA (s:=s.sys) hs hS (hW.mono hle5)) ?_);rintro _ w ⟨H6,lo,hi,f,hle6,rfl,hRg,hs⟩
   have hbd:=hRg.bd
   have hleF:=hle04.trans (hle5.trans hle6)
   have hA:=hok.BG hlt (x:=1) aj
   refine .z zm (.z zex (.z zex (.z zex (.z zg (.z zg (.z zg (.nil (.seq (.ai ?_)))))))))
   refine .z zm (.z fP (.nil ?_))
   refine (.ep rfl (fun hc51=>?_) (fun hc51=>?_))
   ·refine .ai (.z (zbd [_,_] cn) ?_)
    refine .o (.aQ (vs:=[_,_]) hs rfl rfl aS fun w hs=>?_)
    refine .z zg (.nil ?_)
    refine .ret (rT (?_))
    have hns:¬s.sys.Sound:=fun h=>hc51 (pD hA h (fun b=>s.both) hRg)
    exact Fin.gV [] [] hs fun w hs=>⟨_,results2 Tryz.results28 (di (vs:=[_,_]) hs rfl cW aS) rfl,H6,_,_,_,hleF,rfl,.fls hok hmem hns,hs.out⟩
   ·refine .skip ?_
    refine nT ?_
    refine .ai (.z zm (.z xP (.z zm (.z xP (.z (zbd [_,_] cn) ?_)))))
    refine .o (.aQ (vs:=[_,_]) hs rfl rfl aS fun w hs=>?_)
    refine .z zg (.nil ?_)
    refine .ret ?_
    obtain rfl:f=0:=by simpa using hc51
    have hsd:s.sys.Sound:=Classical.byContradiction fun h=>by have:=xz hA h hRg;omega
    exact Fin.gV [] [] hs fun w hs=>⟨_,results2 Tryz.results28 (di (vs:=[_,_]) hs rfl cW aS) rfl,H6,_,_,_,hleF,rfl,.ok hok hmem hsd (by rw [k1,Int.toNat_natCast];exact hRg),hs.out⟩
theorem ml{v:Value}{rs:List (List Int)}{g:Nat}{cap:List Value}(q:List Int→Prop)(hs:St H w σ)(hR:RT H v rs)(hl:rs.length≤9223372036854775807)(hc:∀args w,(callFunc g args).run Tryz.prog w= .ok (.enter g args) w)
  (hp:∀H' w σ r u,HLe H H'→RI H' u r→St H' w σ→Cl Tryz.prog g ([u]++cap) w fun z w'=>∃H1 b,HLe H' H1∧z= .bool b∧(b=true↔q r)∧St H1 w' σ):
  Cl Tryz.prog 236 [v,.func (.func g) #[] cap.toArray] w fun u w'=>∃H1 i,HLe H H1∧u=I i∧(0≤i↔∃x∈rs,q x)∧St H1 w' σ:=by
 obtain ⟨a,c,rfl⟩:=hR.shape
 refine Cl.o Tryz.func236 Tryz.ntmps236 ag2 ?_
 refine .ai (.z zg (.nil (.seq (.ai (.z zm (.z (cS aq) (.z zm (.nil ?_))))))))
 refine .for (N:=rs.length) (J:=fun k fr w=>fr=[(1,.func (.func g) #[] cap.toArray),(0,.slice a rs.length c)]∧∃H1,HLe H H1∧(∀j<k,∀y,rs[j]? =some y→¬q y)∧St H1 w σ) aj ?_ ?_ ?_
 ·exact .mk ⟨rfl,H,HLe.refl H,fun j hj=>by omega,hs⟩
 ·rintro k fr w hk ⟨rfl,H1,hle1,hno,hs⟩
  have hx:=qH (rs:=rs) hk
  refine .block (.ai (.z zm (.z zg (.nil (.ai (.z zm (.z zm (.z zm ?_))))))))
  refine .ixT hs (hR.mono hle1) rfl rfl aq aC (show k<_ by omega) dK ?_;intro b14 o14 a14 c14 hc14 hR14
  refine .q hs (aZ rfl ak hc14) ?_
  refine .o (.ns (first:=[]) (cap:=cap) rfl rfl hc (hp _ _ _ (gr rs k) _ hle1 hR14 hs) ?_);rintro _ w ⟨H2,b16,hle2,rfl,hb16,hs⟩
  refine .nil ?_
  refine (.cond rfl (fun hc16=>?_) (fun hc16=>?_))
  ·refine .ai (.z zm (.z zg (.nil ?_)))
   refine .ret (rB (rT (rB (rT (Fin.bD Tryz.results236 rfl ?_)))))
   exact ⟨H2,_,hle1.trans hle2,rfl,⟨fun _=>⟨_,List.mem_of_getElem? hx,hb16.1 hc16⟩,fun _=>by omega⟩,hs⟩
  ·refine .skip ?_
   refine nB (nT ?_)
   exact .mk ⟨rfl,H2,hle1.trans hle2,eS hno hx (fun h=>by rw [hb16.2 h] at hc16;cases hc16),hs⟩
 ·rintro fr w ⟨rfl,H1,hle1,hno,hs⟩
  refine nT ?_
  refine .ai (.z zg (.nil ?_))
  refine .ret (Fin.bD Tryz.results236 rfl ?_)
  exact ⟨H1,_,hle1,rfl,⟨fun h=>by omega,fun ⟨x,h1,h2⟩=>by
   obtain ⟨j,hj⟩:=List.getElem?_of_mem h1
   exact (hno j (List.getElem?_eq_some_iff.1 hj).1 x hj h2).elim⟩,hs⟩
theorem kP{v:Value}{rs:List (List Int)}{g:Nat}{cap:List Value}(q:List Int→Prop)(hs:St H w σ)(hR:RT H v rs)(hl:rs.length≤9223372036854775807)(hc:∀args w,(callFunc g args).run Tryz.prog w= .ok (.enter g args) w)
  (hp:∀H' w σ r u,HLe H H'→RI H' u r→St H' w σ→Cl Tryz.prog g ([u]++cap) w fun z w'=>∃H1 b,HLe H' H1∧z= .bool b∧(b=true↔q r)∧St H1 w' σ):
  Cl Tryz.prog 186 [v,.func (.func g) #[] cap.toArray] w fun u w'=>∃H1 b,HLe H H1∧u= .bool b∧(b=true↔∃x∈rs,q x)∧St H1 w' σ:=by
 refine Cl.o Tryz.func186 Tryz.ntmps186 ag2 ?_
 refine .ai (.z zg (.nil (.ai (.z zm (.z zm ?_)))))
 refine .o (.call Tryz.call236 rfl (ml q hs hR hl hc hp) ?_);rintro _ w ⟨H1,i,hle1,rfl,hi,hs⟩
 refine .z xQ (.z zg (.nil ?_))
 refine .ret (Fin.bD Tryz.results186 rfl ?_)
 exact ⟨H1,_,hle1,rfl,by simp only [decide_eq_true_eq];exact hi,hs⟩
theorem sv{n:Int}(hs:St H w σ):
  Cl Tryz.prog 188 [I n] w fun u w'=>u= .bool (!decide (0≤n∧n≤20000))∧St H w' σ:=by
 refine Cl.o Tryz.func188 Tryz.ntmps188 ag1 ?_
 refine .ai (.z zg (.nil (.ai (.z zm ?_))))
 refine .o (.call cZ rfl (bq hs) ?_);rintro _ w ⟨rfl,hs⟩
 refine .z iU (.z zg (.nil ?_))
 refine .ret (Fin.bD Tryz.results188 rfl ?_)
 exact ⟨rfl,hs⟩
theorem uI{s:Spc}{v vst vwa:Value}{r:List Int}{b:Nat}(hs:St H w σ)(hb:Row H b [I s.id,I s.src,vst,vwa,I s.al,I s.up])(h2:RI H vwa s.wa)(hr:RI H v r):
  Cl Tryz.prog 187 [v,.pointer (some ⟨b,0,none⟩)] w fun u w'=>∃H1 bb,HLe H H1∧u= .bool bb∧(bb=true↔¬(r.length=s.wa.length∧∀x∈r,0≤x∧x≤20000))∧St H1 w' σ:=by
 obtain ⟨a,c,rfl⟩:=RI.shape hr
 obtain ⟨awa,cwa,rfl⟩:=RI.shape h2
 have hb3:=hb.at 3
 refine Cl.o Tryz.func187 Tryz.ntmps187 ag2 ?_
 refine .ai (.z zg (.nil (.ai (.z zm (.z (cS ad) (.z (zfa br) (.y hs (zld ak) (.z (cS ad) (.z fP ?_)))))))))
 refine .z zm ?_
 refine .Ba (t':=10) rfl (fun hb10=>?_) (fun hb10=>?_)
 ·refine .gFs 2 6 false rfl rfl rfl ?_
  refine .z zpT (.z zg (.nil ?_))
  refine .ret (Fin.bD Tryz.results187 rfl ?_)
  exact ⟨H,true,HLe.refl H,rfl,⟨fun _ h=>by have:=h.1;simp_all,fun _=>rfl⟩,hs⟩
 ·refine .gT rfl rfl ?_
  refine .z zm ?_
  refine .gT rfl rfl ?_
  refine .o (.call Tryz.call134 rfl (kD (g:=188) (cap:=[]) (fun n=>¬(0≤n∧n≤20000)) hs hr Tryz.call188 (fun H' w σ n _ _ hs=>(sv hs).mono fun u w' ⟨g1,g2⟩=>⟨H',_,HLe.refl _,g1,by simp;omega,g2⟩)) ?_);rintro _ w ⟨H1,b12,hle1,rfl,hb12,hs⟩
  refine .z zpF (.z zg (.nil ?_))
  refine .ret (Fin.bD Tryz.results187 rfl ?_)
  have hlen:r.length=s.wa.length:=by simp_all;omega
  exact ⟨H1,_,hle1,rfl,by
   rw [hb12]
   constructor
   ·rintro ⟨x,h1,h2⟩ h;exact h2 (h.2 x h1)
   ·intro h
    refine Classical.byContradiction fun hn=>h ⟨hlen,fun x hx=>Classical.byContradiction fun hx'=>hn ⟨x,hx,hx'⟩⟩,hs⟩
theorem Ct{s:Spc}{rows:List (List Int)}:jI s rows↔rows.length=s.st.length∧∀r∈rows,r.length=s.wa.length∧∀x∈r,0≤x∧x≤20000:=by
 constructor
 ·rintro ⟨h1,h2,h3⟩
  refine ⟨h1,fun r hr=>?_⟩
  obtain ⟨i,hi⟩:=List.getElem?_of_mem hr
  have hil:=(List.getElem?_eq_some_iff.1 hi).1
  have hg:=qH hil
  rw [hi] at hg
  obtain rfl:=Option.some.inj hg
  have hl:=h2 i aj
  refine ⟨hl,fun x hx=>?_⟩
  obtain ⟨k,hk⟩:=List.getElem?_of_mem hx
  have hkl:=(List.getElem?_eq_some_iff.1 hk).1
  have hgk:=bL hkl
  rw [hk] at hgk
  obtain rfl:=Option.some.inj hgk
  exact h3 i aj k aj
 ·rintro ⟨h1,h2⟩
  have hm:∀i<s.st.length,gr rows i∈rows:=fun i hi=>List.mem_of_getElem? (qH aj)
  refine ⟨h1,fun i hi=>(h2 _ (hm i hi)).1,fun i hi k hk=>?_⟩
  have hl:=(h2 _ (hm i hi)).1
  exact (h2 _ (hm i hi)).2 _ (List.mem_of_getElem? (bL aj))
theorem jU{s:Spc}{vst vwa vh:Value}{rows:List (List Int)}(hs:St H w σ)(h1:RI H vst s.st)(h2:RI H vwa s.wa)(hr:RT H vh rows):
  Cl Tryz.prog 101 [.agg #[I s.id,I s.src,vst,vwa,I s.al,I s.up],.agg #[vh]] w fun u w'=>∃H1 b,HLe H H1∧u= .bool b∧(b=true↔jI s rows)∧St H1 w' σ:=by
 obtain ⟨ast,cst,rfl⟩:=RI.shape h1
 obtain ⟨awa,cwa,rfl⟩:=RI.shape h2
 obtain ⟨ah,ch,rfl⟩:=hr.shape
 have hrl:=(hr.len).2.2
 refine Cl.o Tryz.func101 Tryz.ntmps101 ag2 ?_
 refine .ai ?_
 refine .bx hs fun b2 w hs=>?_
 refine .bx hs fun b3 w hs=>?_
 refine .z zg (.nil (.ai (.z (zfa dT) (.y hs (zld gZ) (.z (cS aq) (.z (zfa bB) (.y hs (zld ak) (.z (cS ad) (.z j6 ?_)))))))))
 refine .z zm ?_
 refine .j7 (t':=12) rfl (fun hb12=>?_) (fun hb12=>?_)
 ·refine .gT rfl rfl ?_
  refine .z (zfa dT) ?_
  refine .gT rfl rfl ?_
  refine .y hs (zld gZ) ?_
  refine .gT rfl rfl ?_
  refine .q hs (da (f:=[]) (c:=[_]) rfl rfl) ?_
  refine .gT rfl rfl ?_
  obtain ⟨H0,hle0,hb2,hs⟩:=hs.bX (b:=b2) dJ
  refine .o (.call Tryz.call186 rfl (kP (g:=187) (cap:=[.pointer (some ⟨b2,0,none⟩)]) (fun r=>¬(r.length=s.wa.length∧∀x∈r,0≤x∧x≤20000)) hs (hr.mono hle0) hrl Tryz.call187 (fun H' w σ r u hle hu hs=>uI (s:=s) hs (hb2.mono hle) (h2.mono (hle0.trans hle)) hu)) ?_);rintro _ w ⟨H1,b16,hle1,rfl,hb16,hs⟩
  refine .gT rfl rfl ?_
  refine .z iU (.z zpT (.z zg (.nil ?_)))
  refine .ret (Fin.bD Tryz.results101 rfl ?_)
  exact ⟨H1,_,hle0.trans hle1,rfl,by
   rw [Ct]
   have hlen:rows.length=s.st.length:=by omega
   cases hbb:b16 with
   |true=>
    obtain ⟨x,hx,hn⟩:=hb16.1 hbb
    exact ⟨fun h=>(by cases h),fun h=>(hn (h.2 x hx)).elim⟩
   |false=>exact ⟨fun _=>⟨hlen,fun r hr=>Classical.byContradiction fun hn=>by rw [hb16.2 ⟨r,hr,hn⟩] at hbb;cases hbb⟩,fun _=>rfl⟩,hs.out⟩
 ·refine .gFs 5 7 true rfl rfl rfl ?_
  refine .z zpF (.z zg (.nil ?_))
  refine .ret (Fin.bD Tryz.results101 rfl ?_)
  exact ⟨H,_,HLe.refl H,rfl,⟨fun h=>(by cases h),fun h=>by have:=h.len;omega⟩,hs.out⟩
set_option maxHeartbeats 1000000 in
theorem fS{s:Spc}{q:Wht}{vst vwa vh:Value}{rows:List (List Int)}(hs:St H w σ)(h1:RI H vst s.st)(h2:RI H vwa s.wa)(hr:RT H vh rows):
  Cl Tryz.prog 37 [.agg #[I s.id,I s.src,vst,vwa,I s.al,I s.up],.agg #[vh],.agg #[I q.kind,I q.st,I q.wa]] w fun u w'=>∃H1 n e,HLe H H1∧u= .tuple #[I n,I e]∧rb s rows q n e∧St H1 w' σ:=by
 obtain ⟨ah,ch,rfl⟩:=hr.shape
 refine Cl.o Tryz.func37 Tryz.ntmps37 ag3 ?_
 refine .ai ?_
 refine .bx hs fun b3 w hs=>?_
 refine .bx hs fun b4 w hs=>?_
 refine .bx hs fun b5 w hs=>?_
 refine .z zg (.z zg (.nil (.seq (.ai (.y hs (zls [_,_,_,_,_,_] aM aE) ?_)))))
 refine .o (.call Tryz.call41 rfl (ir (s:=s) hs h1 h2) ?_);rintro _ w ⟨H1,e,hle1,rfl,he,hs⟩
 refine .z zg (.nil (.ai (.z zm (.z fP (.nil ?_)))))
 refine (.ep rfl (fun hc17=>?_) (fun hc17=>?_))
 ·refine .ai (.z zm (.z zg (.z zg (.nil ?_))))
  refine .ret (rT (?_))
  have hq:¬fW s∧e=30:=he.resolve_left fun h=>hc17 h.2
  exact Fin.gV [] [] hs fun w hs=>⟨_,results2 Tryz.results37 rfl rfl,H1,_,_,hle1,rfl,by rw [hq.2];exact .space hq.1,hs.out⟩
 ·refine .skip ?_
  refine nT ?_
  refine .seq (.ai (.y hs (zls [_,_,_,_,_,_] aM aE) (.y hs (zls [_] fX cK) ?_)))
  have hok:fW s:=(he.resolve_right fun h=>by omega).1
  have hsm:=eo hok
  refine .o (.call Tryz.call101 rfl (jU (s:=s) hs (h1.mono hle1) (h2.mono hle1) (hr.mono hle1)) ?_);rintro _ w ⟨H2,b21,hle2,rfl,hb21,hs⟩
  have hle02:=hle1.trans hle2
  refine .z iU (.nil ?_)
  refine (.cond rfl (fun hc22=>?_) (fun hc22=>?_))
  ·refine .ai (.z zg (.z zg (.nil ?_)))
   refine .ret (rT (?_))
   exact Fin.gV [] [] hs fun w hs=>⟨_,results2 Tryz.results37 rfl rfl,H2,_,_,hle02,rfl,.hull hok (fun h=>by rw [hb21.2 h] at hc22;cases hc22),hs.out⟩
  ·refine .skip ?_
   refine nT ?_
   refine .ai (.y hs (zls [_,_,_,_,_,_] aM aE) (.y hs (zls [_,_,_] bS bj) ?_))
   have hh:jI s rows:=hb21.1 (by simpa using hc22)
   refine .o (.call Tryz.call102 rfl (jE (s:=s) (q:=q) hs (h1.mono hle02) (h2.mono hle02) hok) ?_);rintro _ w ⟨H3,vl,L,d,b,en,hle3,rfl,hO,hcase,hs⟩
   have hle03:=hle02.trans hle3
   obtain ⟨al,cl,rfl⟩:=hO.oW
   refine .z zm (.z zex (.z zex (.z zex ?_)))
   refine .o (.alloc hs dD rfl fun b9 w hs=>?_)
   refine .o (.store hs rfl rfl aC fun w hs=>?_)
   refine .z zg (.z zg (.nil (.seq (.ai (.z zm (.z iU (.nil ?_)))))))
   refine (.cond rfl (fun hc31=>?_) (fun hc31=>?_))
   ·refine .ai (.z zg (.z zg (.nil ?_)))
    refine .ret (rT (?_))
    have hq:¬eL s q:=by
     rcases hcase with ⟨g,_⟩|⟨_,g,_⟩
     ·subst g;cases hc31
     ·exact g
    exact Fin.gV [] [] hs fun w hs=>⟨_,results2 Tryz.results37 rfl rfl,H3,_,_,hle03,rfl,.what hok hh hq,hs.out⟩
   ·refine .skip ?_
    refine nT ?_
    refine .ai ?_
    refine .o (.alloc hs bE rfl fun b12 w hs=>?_)
    refine .o (.store hs rfl rfl af fun w hs=>?_)
    refine .nil (.seq (.ai (.y hs (zls [_,_,_,_,_,_] aM aE) ?_)))
    obtain ⟨rfl,hq,rfl,rfl⟩:b=true∧eL s q∧L=nf s q∧d=oI q:=hcase.resolve_right fun h=>by rw [h.1] at hc31;cases hc31
    have hwl:=gd s q
    obtain ⟨H4,hle4,hW,hs⟩:=bQ.dj hO aj hs dJ
    have hle04:=hle03.trans hle4
    refine .o (.call sS rfl (ed (s:=s) hs (h1.mono hle04) (h2.mono hle04) ⟨aj,aj⟩) ?_);rintro _ w ⟨H5,ba,hle5,rfl,hit,hs⟩
    have hle05:=hle04.trans hle5
    replace hW:=hW.mono hle5
    have hr5:=hr.mono hle05
    refine .nil (.block ?_)
    refine .rangeFunc (gf:=190) (cap:=[.pointer (some ⟨ba,0,none⟩)]) (xs:=sX s) (σb:=[.blk b12 [I (eN s q rows 0)],.blk b9 [.slice al (nf s q).length cl],.blk b4 [.slice ah rows.length ch]]) (σf:=σ) (hs.sb) trivial rfl hit sQ (fun x hx=>by
      simp only [sX,List.mem_map] at hx
      obtain ⟨j,_,rfl⟩:=hx;rfl) rfl
     (I:=fun p H' σb=>σb=[.blk b12 [I (eN s q rows p)],.blk b9 [.slice al (nf s q).length cl],.blk b4 [.slice ah rows.length ch]]) (Ix:=fun _ _ _=>False)
     (fun j _ _ σ g1 g2=>g2) (fun _ _ _ _ _ h=>h) rfl ?_ ?_ (fun D c H' σb w _ h _=>h.elim)
    ·rintro ly p hp H6 σb2 σf2 w hle6 rfl hs ⟨rr,hrr⟩
     have hpm:p<s.many:=by rw [dd] at hp;exact hp
     have hin:p/s.wa.length<s.st.length:=Nat.div_lt_of_lt_mul (by rw [Nat.mul_comm];exact hpm)
     have hkm:=Nat.mod_lt p hsm.2.2.1
     have hsucc:eN s q rows (p+1)=eN s q rows p+gi (nf s q) (p+1)*gt rows (p/s.wa.length) (p%s.wa.length):=rfl
     have hb0:=m8 hok hq hh p aj
     have hb1:=m8 hok hq hh (p+1) aj
     have hwz:=mV hok hq
     have hwz2:=lj (nf s q) (v:=p+1) (n:=s.many+1) aj
     have hnum:=hh.num _ hin _ hkm
     have hrow:=hh.row _ hin
     have hrlen:=hh.len
     have hprd:=mu (a:=gi (nf s q) (p+1)) (b:=gt rows (p/s.wa.length) (p%s.wa.length)) (A:=3456000000000) (B:=20000) aj aj
     have hgt:gt rows (p/s.wa.length) (p%s.wa.length)=gi (gr rows (p/s.wa.length)) (p%s.wa.length):=rfl
     rw [kv hp]
     generalize p/s.wa.length=i at*
     generalize p%s.wa.length=k at*
     rw [hgt] at hsucc hprd hnum
     refine .region ?_
     refine .o (.alloc hs gX rfl fun b13 w hs=>?_)
     refine .o (.aQ (vs:=[_,_,_]) hs rfl rfl kb fun w hs=>?_)
     refine .nil ?_
     refine nT ?_
     refine ⟨H6,[.blk b13 [I (i:Int),I (k:Int),I ((p+1:Nat):Int)],.blk b12 [I (eN s q rows p)],.blk b9 [.slice al (nf s q).length cl],.blk b4 [.slice ah rows.length ch]],HLe.refl _,hs,?_⟩;rintro w σf4 - hs
     refine .block ?_
     refine .draw mix rfl hs fun w hs=>?_
     refine .y 0 rfl hs ae ?_;refine .y 1 rfl hs ak ?_;refine .z 2 rfl (zfa dA) ?_;refine .y 3 rfl hs ae ?_
     refine .ixX (enc:=fun x=>[I x]) (i:=4) hs rfl an .none (hW.mono hle6) rfl rfl ad af (bL (l:=(nf s q)) (i:=(p+1)) aj) dK ?_;intro b39 o39 hc39;replace hc39:=bM.one hc39
     refine .r (i:=5) hs rfl an .none (aZ rfl ae hc39) ?_
     refine .z 6 rfl (zfa dT) ?_;refine .y 7 rfl hs gZ ?_;refine .z 8 rfl (zfa cd) ?_;refine .y 9 rfl hs ae ?_
     refine .ixT (i:=10) hs rfl an .none (hr5.mono hle6) rfl rfl aq aC (show i<_ by omega) dK ?_;intro b45 o45 a45 c45 hc45 hR45
     refine .r (i:=11) hs rfl an .none (aZ rfl ak hc45) ?_
     refine .z 12 rfl (zfa bZ) ?_;refine .y 13 rfl hs ae ?_
     refine .ixX (enc:=fun x=>[I x]) (i:=14) hs rfl an .none hR45 rfl rfl ad af (bL (l:=(gr rows i)) (i:=k) aj) dK ?_;intro b49 o49 hc49;replace hc49:=bM.one hc49
     refine .r (i:=15) hs rfl an .none (aZ rfl ae hc49) ?_
     refine .z 16 rfl lG ?_;refine .z 17 rfl cC ?_
     refine .E 18 hs ?_
     refine .store hs rfl rfl af ?_;intro w hs
     refine .go ?_
     refine .D hs ?_
     refine nB ?_
     exact ⟨H6,[.blk b12 [I (eN s q rows (p+1))],.blk b9 [.slice al (nf s q).length cl],.blk b4 [.slice ah rows.length ch]],HLe.refl _,by rw [hsucc];exact (hs.sb:St H6 w (.blk b12 _:: .blk b9 _:: .blk b4 _::σf4)),rfl⟩
    ·rintro D H6 σb2 w hle6 rfl hs
     rw [dd] at hs
     replace hs:St H6 w (.obj D (.deferred (some [])):: .blk b12 [I (eN s q rows s.many)]:: .blk b9 [.slice al (nf s q).length cl]:: .blk b4 [.slice ah rows.length ch]::σ):=hs
     have hbd:=m8 hok hq hh s.many aj
     have hdp:=m9 q
     refine nB (nT ?_)
     refine .ai (.y hs (zld ae) (.z zm ?_))
     refine .o (.call CR rfl (eD hs aj aj) ?_);rintro _ w ⟨rfl,hs⟩
     refine .z zg (.z zg (.nil ?_))
     refine .ret ?_
     exact Fin.gV [D] [] hs fun w hs=>⟨_,results2 Tryz.results37 rfl rfl,H6,_,_,hle05.trans hle6,rfl,.ok hok hh hq,hs.out⟩
set_option maxHeartbeats 4000000 in
theorem qi{s:Srv}{r:Rdg}{vst vwa vr vc:Value}{z:Int}(hs:St H w σ)(h1:RI H vst s.sp.st)(h2:RI H vwa s.sp.wa)(h3:RRd H vr s.rs)(h4:RCm H vc s.cs)(hr0:r.val=0):
  Cl Tryz.prog 46 [.agg #[I s.sp.id,I s.sp.src,vst,vwa,I s.sp.al,I s.sp.up,vr,vc],.agg #[I r.src,I r.st,I r.wa,I z,I r.tol,I r.tape,I r.day]] w fun u w'=>∃H1 lo hi e,HLe H H1∧u= .tuple #[.agg #[I lo,I hi],I e]∧sL s r lo hi e∧St H1 w' σ:=by
 obtain ⟨ast,cst,rfl⟩:=RI.shape h1
 obtain ⟨awa,cwa,rfl⟩:=RI.shape h2
 obtain ⟨ar,cr,rfl⟩:=RRd.shape h3
 obtain ⟨ac,cc,rfl⟩:=RCm.shape h4
 refine Cl.o Tryz.func46 Tryz.ntmps46 ag2 ?_
 refine .ai ?_
 refine .bx hs fun b2 w hs=>?_
 refine .bx hs fun b3 w hs=>?_
 refine .o (.alloc hs dN rfl fun b4 w hs=>?_)
 refine .z zg (.nil (.seq (.ai (.y hs (zls [_,_,_,_,_,_,_,_] aJ aD) ?_))))
 refine .o (.call qz rfl (dk (s:=s) hs h1 h2 h3 h4) ?_);rintro _ w ⟨H1,e,hle1,rfl,hC,hs⟩
 refine .z zg (.nil (.ai (.z zm (.z fP (.nil ?_)))))
 refine (.ep rfl (fun hc19=>?_) (fun hc19=>?_))
 ·refine .ai (.z (zbd [_,_] cn) (.z zm ?_))
  refine .o (.aQ (vs:=[_,_]) hs rfl rfl aS fun w hs=>?_)
  refine .z zg (.nil ?_)
  refine .ret (rT (?_))
  exact Fin.gV [] [] hs fun w hs=>⟨_,results2 nA (di (vs:=[_,_]) hs rfl cW aS) rfl,H1,_,_,_,hle1,rfl,.bad hC hc19,hs.out⟩
 ·refine .skip ?_
  refine nT ?_
  refine .ai (.z (zfa dM) ?_)
  refine .o (.store hs rfl rfl af fun w hs=>?_)
  refine .nil (.seq (.ai (.z (zfa aN) (.y hs (zls [_,_,_,_,_,_] aM aE) (.y hs (zls [_,_,_,_,_,_,_] eh aW) ?_)))))
  have hok:c9 s:=hC.bT.1 (by simpa using hc19)
  have hsm:=eo hok.early.1
  have hrl:=hok.early.2.1
  have hcl:=hok.early.2.2.1
  have hmm:=hok.many
  have hll:=hok.bK
  have hn:=nh s
  have htl:s.bh.length≤60:=by have:=cI s.rs;unfold Srv.bh;omega
  change St _ _ (.blk b4 _:: .blk b3 [I r.src,I r.st,I r.wa,I 0,I r.tol,I r.tape,I r.day]::_) at hs
  refine .o (.call Tryz.call107 rfl (iI (s:=s.sp) (r:=⟨r.src,r.st,r.wa,0,r.tol,r.tape,r.day⟩) hs (h1.mono hle1) (h2.mono hle1)) ?_);rintro _ w ⟨b26,rfl,hb26,hs⟩
  rw [show (⟨r.src,r.st,r.wa,0,r.tol,r.tape,r.day⟩:Rdg)=r by rw [←hr0]] at hb26
  refine .z iU (.nil ?_)
  refine (.cond rfl (fun hc27=>?_) (fun hc27=>?_))
  ·refine .ai (.z (zbd [_,_] cn) ?_)
   refine .o (.aQ (vs:=[_,_]) hs rfl rfl aS fun w hs=>?_)
   refine .z zg (.nil ?_)
   refine .ret (rT (?_))
   exact Fin.gV [] [] hs fun w hs=>⟨_,results2 nA (di (vs:=[_,_]) hs rfl cW aS) rfl,H1,_,_,_,hle1,rfl,.rdg hok (fun h=>by rw [hb26.2 h] at hc27;cases hc27),hs.out⟩
  ·refine .skip ?_
   refine nT ?_
   refine .ai (.y hs (zls [_,_,_,_,_,_,_,_] aJ aD) ?_)
   have hr:jC s.sp r:=hb26.1 (by simpa using hc27)
   obtain ⟨g1,g2,g3,g4,g5,g6,g7⟩:=id hr
   refine .o (.call vG rfl (km (s:=s) hs (h1.mono hle1) (h2.mono hle1) (h3.mono hle1) (h4.mono hle1) hok.early) ?_);rintro _ w ⟨H2,vl,enL,hle2,rfl,hOL,hs⟩
   have hle02:=hle1.trans hle2
   obtain ⟨al,ll,cl,rfl,hlL⟩:=hOL.shape
   rw [de] at hlL
   refine .o (.alloc hs dC rfl fun b7 w hs=>?_)
   refine .o (.aQ (vs:=[_,_]) hs rfl rfl aH fun w hs=>?_)
   refine .nil (.ai (.y hs (zls [_,_,_,_,_,_,_,_] aJ aD) ?_))
   refine .o (.call Tryz.call90 rfl (kR (s:=s) hs (h3.mono hle02) aj) ?_);rintro v32 w ⟨H3,enT,hle3,hOT,hs⟩
   have hle03:=hle02.trans hle3
   obtain ⟨at_,ct,rfl⟩:=hOT.ja (kB _) aj
   rw [cN] at hOT ⊢
   refine .z zg (.nil (.ai (.z zm (.y hs (zls [_,_,_,_,_,_,_] eh aW) ?_))))
   refine .o (.call F8 rfl (eF (r:=⟨r.src,r.st,r.wa,0,r.tol,r.tape,r.day⟩) hs) ?_);rintro _ w ⟨rfl,hs⟩
   refine .o (.call Tryz.call89 rfl (oV (t:=r.td) hs hOT aj) ?_);rintro _ w ⟨rfl,hs⟩
   have hnn:=kg (l:=s.bh) (t:=r.td)
   have hcap2:s.sys.many=((s.sp.many+s.bh.length:Nat):Int):=rfl
   refine .z zg (.nil ?_)
   refine .cut (fun fs w=>∃H4 al ll cl enL,mT fs ⟨134,[],[(9,I (s.tJ r.td:Int)),(7,.pointer (some ⟨b7,0,none⟩)),(4,.pointer (some ⟨b4,0,none⟩)),(3,.pointer (some ⟨b3,0,none⟩)),(2,.pointer (some ⟨b2,0,none⟩))]⟩∧HLe H3 H4∧bQ 4 (.slice al ll cl) (fF (s.lT r.td).bK) enL∧St H4 w (.blk b7 [I (s.lT r.td).many,.slice al ll cl]::enL:: .blk b4 [I 0,I 0]:: .blk b3 [I r.src,I r.st,I r.wa,I 0,I r.tol,I r.tape,I r.day]:: .blk b2 [I s.sp.id,I s.sp.src,.slice ast s.sp.st.length cst,.slice awa s.sp.wa.length cwa,I s.sp.al,I s.sp.up,.slice ar s.rs.length cr,.slice ac s.cs.length cc]::σ)) ?_ ?_
   ·refine .ai (.z zm (.z ik (.nil ?_)))
    refine (.cg rfl (fun hc38=>?_) (fun hc38=>?_))
    ·refine .ai (.z zm (.z (cS aO) (.z zg (.nil ?_))))
     refine .seq (.draw mix rfl hs fun w hs=>?_)
     refine .ys 0 rfl hs [_,_,_,_,_,_,_,_] aJ aD ?_;refine .z 1 rfl zm ?_;refine .ys 2 rfl hs [_,_,_,_,_,_,_] eh aW ?_
     refine .E 3 hs ?_
     refine .call F8 rfl (eF (r:=⟨r.src,r.st,r.wa,0,r.tol,r.tape,r.day⟩) hs) ?_;rintro _ w ⟨rfl,hs⟩
     refine .go ?_
     refine .E 4 hs ?_
     refine .buildSlice (cells:=[_,_]) hs fg rfl rfl ?_;intro b45 w hs
     refine .go ?_
     refine .E 5 hs ?_
     refine .append (ys:=r.td.c) hs dm rfl rfl hOT (.own .here rfl rfl) (by simp [TD.c,Value.oneCell']) (fun l h=>by rw [bO _ (kB _),cN] at h;omega) ?_;intro v46 en46 w hO46 hs
     rw [←rz] at hO46
     obtain ⟨H4,hle4,hT4,hs⟩:=bQ.bX (m:=2) (cs:=tdc (s.bh++[r.td])) hO46 (kB _) aj (by rw [cN];simp;omega) hs dJ
     replace hT4:RTd H4 v46 (s.bh++[r.td]):=hT4
     obtain ⟨a46,c46,rfl⟩:=RTd.shape hT4
     have hle04:=hle03.trans hle4
     have hk4:MkK H4 s (s.bh++[r.td]) (.slice ast s.sp.st.length cst) (.slice awa s.sp.wa.length cwa) (.slice ar s.rs.length cr) (.slice ac s.cs.length cc) (.slice a46 (s.bh++[r.td]).length c46):=⟨h1.mono hle04,h2.mono hle04,h3.mono hle04,h4.mono hle04,hT4⟩
     refine .go ?_
     refine .z 6 rfl (zbd (vs:=[(0,.agg #[I s.sp.id,I s.sp.src,.slice ast s.sp.st.length cst,.slice awa s.sp.wa.length cwa,I s.sp.al,I s.sp.up,.slice ar s.rs.length cr,.slice ac s.cs.length cc]),(1,.slice a46 (s.bh++[r.td]).length c46)]) [I s.sp.id,I s.sp.src,.slice ast s.sp.st.length cst,.slice awa s.sp.wa.length cwa,I s.sp.al,I s.sp.up,.slice ar s.rs.length cr,.slice ac s.cs.length cc,.slice a46 (s.bh++[r.td]).length c46,.slice none 0 0] kX rfl an) ?_
     refine .E 7 hs ?_
     refine .box hs rfl rfl ?_;intro b48 w hs
     refine .go ?_
     refine .z 8 rfl zg ?_;refine .D hs ?_
     refine .seq (.draw mix rfl hs fun w hs=>?_)
     refine .z 0 rfl zm ?_;refine .z 1 rfl zm ?_;refine .z 2 rfl zm ?_;refine .z 4 rfl (zfa aN) ?_;refine .z 5 rfl (zfa c8) ?_;refine .y 6 rfl hs ae ?_
     refine .E 3 hs ?_
     refine .call Tryz.call116 rfl (iz (s:=s.sp) hs .here hk4.st hk4.wa ⟨aj,aj⟩ ⟨aj,aj⟩) ?_;rintro _ w ⟨rfl,hs⟩
     refine .go ?_
     refine .E 7 hs ?_
     refine .call sR rfl (eZ (ls:=[]) (hs.nul.sb:St H4 w (.blk b48 _:: .nul:: .blk b7 [I s.sys.many,.slice al ll cl]::enL:: .blk b4 [I 0,I 0]:: .blk b3 [I r.src,I r.st,I r.wa,I 0,I r.tol,I r.tape,I r.day]:: .blk b2 [I s.sp.id,I s.sp.src,.slice ast s.sp.st.length cst,.slice awa s.sp.wa.length cwa,I s.sp.al,I s.sp.up,.slice ar s.rs.length cr,.slice ac s.cs.length cc]::σ)) (.nil 4 none) bR) ?_;rintro _ w ⟨vl5,en5,hO5,hs⟩
     rw [List.nil_append] at hO5
     refine .go ?_
     refine .D hs ?_
     refine .ai (.z zm (.z zm ?_))
     refine .o (.call Tryz.call117 rfl (jV (s:=s) (ts:=s.bh++[r.td]) (j0:=s.bh.length) hs hk4 hO5 (by simp [two]) hok.early.1 (by simp;omega) hcl hok.early.2.2.2.2 bR) ?_);rintro _ w ⟨H5,vl6,en6,hle5,hO6,hs⟩
     obtain ⟨a6,l6,c6,rfl,hl6⟩:=hO6.shape
     have hnot:r.td∉s.bh:=fun h=>by have:=hnn.2 h;omega
     have hsys:s.lT r.td=⟨s.sys.many+1,s.bK++(two 0 ((s.sp.many:Int)+1+(s.bh.length:Int)) 1000 1000 s.sp.src++qu s.sp (s.bh++[r.td]) s.cs s.bh.length s.cs.length)⟩:=if_neg hnot
     have hlen6:=BI hok r.td
     rw [hsys,List.length_append] at hlen6
     rw [de] at hl6
     refine .nil ?_
     refine .draw mix rfl hs fun w hs=>?_
     refine .z 0 rfl (zfa bw) ?_;refine .y 1 rfl hs ae ?_;refine .z 2 rfl cC ?_;refine .z 3 rfl (zfa bu) ?_;refine .y 4 rfl hs bU ?_;refine .z 5 rfl zm ?_;refine .z 6 rfl znc ?_;refine .z 7 rfl (zfa fT) ?_;refine .y 8 rfl hs bU ?_;refine .z 10 rfl (zfa bw) ?_
     refine .E 9 hs ?_
     refine .append (ys:=fF (two 0 ((s.sp.many:Int)+1+(s.bh.length:Int)) 1000 1000 s.sp.src++qu s.sp (s.bh++[r.td]) s.cs s.bh.length s.cs.length)) hs bI rfl rfl hOL (Src.EU hO6 (.there .here)) (jq _) (fun l h=>by rw [de] at h;omega) ?_;intro v69 en69 w hO69 hs
     rw [←fE] at hO69
     obtain ⟨a69,l69,c69,rfl,h69⟩:=hO69.shape
     refine .go ?_
     refine .E 11 hs ?_
     refine .store hs rfl rfl af ?_;intro w hs
     refine .go ?_
     refine .z 12 rfl (zfa bu) ?_
     refine .E 13 hs ?_
     refine .store hs rfl rfl lF ?_;intro w hs
     refine .go ?_
     refine .D hs ?_
     refine nT ?_
     refine ⟨H5,a69,l69,c69,en69,?_,hle4.trans hle5,by rw [hsys];exact hO69,by rw [hsys];exact hs.sb⟩
     refine .cR rfl ?_ bA
     unfold Srv.tJ;rw [if_neg hnot]
    ·refine .skip ?_
     refine nT ?_
     have hmem:r.td∈s.bh:=hnn.1 aj
     have hsys:s.lT r.td=s.sys:=if_pos hmem
     obtain ⟨k,k1,_,_⟩:=ek hmem
     refine ⟨H3,al,ll,cl,enL,?_,HLe.refl _,by rw [hsys];exact hOL,by rw [hsys];exact hs.sb⟩
     refine .cR rfl ?_ bA
     unfold Srv.tJ;rw [if_pos hmem,k1];rfl
   ·clear hOL hOT hlL hnn
    rintro fs w ⟨H4,al,ll,cl,enL,hfs,hle4,hOL,hs⟩
    refine WE.sub ?_ hfs
    have hle04:=hle03.trans hle4
    obtain ⟨_,_,_,e0,hlL⟩:=hOL.shape
    cases e0
    rw [de] at hlL
    have htn:=CY s r.td
    have hjlt:=Fx s r.td
    have hmany:(s.lT r.td).many+1=((s.lT r.td).n:Int):=by
     unfold Srv.lT
     split
     ·simp only [bV.n,Srv.sys];omega
     ·simp only [bV.n,Srv.sys];omega
    have hn70:(s.lT r.td).n≤200:=by rw [htn];split<;>omega
    have hll6:ll=(s.lT r.td).bK.length:=by omega
    refine .seq (.ai (.z (zfa bw) (.y hs (zld ae) (.z qN (.z zm ?_)))))
    refine .j7 (t':=75) rfl (fun hb75=>?_) (fun hb75=>?_)
    ·refine .gFs 4 3 false rfl rfl rfl ?_
     refine .z zpT (.nil ?_)
     refine (.cT ?_)
     refine .ai (.z (zbd [_,_] cn) ?_)
     refine .o (.aQ (vs:=[_,_]) hs rfl rfl aS fun w hs=>?_)
     refine .z zg (.nil ?_)
     refine .ret (rT (?_))
     exact Fin.gV [] [] hs fun w hs=>⟨_,results2 nA (di (vs:=[_,_]) hs rfl cW aS) rfl,H4,_,_,_,hle04,rfl,.long hok hr aj,hs.out⟩
    ·refine .gT rfl rfl ?_
     refine .z (zfa bu) ?_
     refine .gT rfl rfl ?_
     refine .y hs (zld bU) ?_
     refine .gT rfl rfl ?_
     refine .z (cS aI) ?_
     refine .gT rfl rfl ?_
     refine .z qN (.z zpF (.nil ?_))
     refine (.cg rfl (fun hc80=>?_) (fun hc80=>?_))
     ·refine .ai (.z (zbd [_,_] cn) ?_)
      refine .o (.aQ (vs:=[_,_]) hs rfl rfl aS fun w hs=>?_)
      refine .z zg (.nil ?_)
      refine .ret (rT (?_))
      exact Fin.gV [] [] hs fun w hs=>⟨_,results2 nA (di (vs:=[_,_]) hs rfl cW aS) rfl,H4,_,_,_,hle04,rfl,.long hok hr aj,hs.out⟩
     ·refine .skip ?_
      refine nT ?_
      refine .ai (.z (zfa bw) (.y hs (zld ae) (.z cC ?_)))
      have hfit:(s.lT r.td).many≤64∧(s.lT r.td).bK.length≤400:=by omega
      refine .o (.so (s.lT r.td).n hs (by show some (I _)=some (I _);rw [←hmany]) (by show some (I _)=some (I _);rw [←hmany]) ad eM rfl af bE aj ?_);intro b85 w hs
      obtain ⟨u1,u2,u3⟩:=zd hr
      have hub:=ud u1 u2
      refine .z zg (.nil (.ai (.z zm (.z (zfa aN) (.y hs (zls [_,_,_,_,_,_] aM aE) (.z (zfa eQ) (.y hs (zld ae) (.z (zfa eP) (.y hs (zld ae) ?_)))))))))
      refine .o (.call Tryz.call118 rfl (jF (s:=s.sp) hs (h2.mono hle04) aj ⟨aj,aj⟩ ⟨aj,aj⟩) ?_);rintro _ w ⟨rfl,hs⟩
      rw [u3]
      refine .q hs (ij (k:=s.sp.u r.st.toNat r.wa.toNat) rfl rfl ad af rfl aj) ?_
      refine .o (.store (c':=Is (oP (s.lT r.td).n (s.sp.u r.st.toNat r.wa.toNat) 1)) hs rfl rfl af ?_ dJ (by simp [Is];omega) (qM _ _ _));intro w hs
      refine .nil (.ai (.z zm (.z (zfa aN) (.y hs (zls [_,_,_,_,_,_] aM aE) ?_))))
      refine .o (.call Tryz.call91 rfl (fj (s:=s.sp) hs (h1.mono hle04) (h2.mono hle04) ⟨aj,aj⟩) ?_);rintro _ w ⟨rfl,hs⟩
      refine .z cC (.z zm (.z cC ?_))
      refine .q hs (ij (k:=s.sp.many+1+s.tJ r.td) rfl rfl ad af aj aj) ?_
      refine .o (.store (c':=Is (s.tW r)) hs rfl rfl af ?_ dJ (by simp [Is,ia];omega) (qM _ _ _));intro w hs
      refine .nil (.ai (.y hs (zls [_,_] a8 aH) (.z zm ?_)))
      have hwl:(s.tW r).length=(s.lT r.td).n:=by simp [Srv.tW,ia]
      obtain ⟨H5,hle5,hW,hs⟩:=bQ.dj (xs:=s.tW r) (v:= .slice (some ⟨b85,0,none⟩) (s.lT r.td).n (s.lT r.td).n) (.full (by simp [Is,hwl])) aj hs dJ
      obtain ⟨H6,hle6,hL6,hs⟩:=bQ.bX (m:=4) (cs:=(s.lT r.td).bK.map Lim.c) hOL (fun c hc=>by simp only [List.mem_map] at hc;obtain ⟨x,_,rfl⟩:=hc;rfl) aj (by rw [List.length_map];omega) hs dJ
      refine .o (.call Tryz.call74 rfl (jA (s:=s.lT r.td) hs ⟨_,rfl,hL6⟩ (hW.mono hle6)) ?_);rintro _ w ⟨H7,a,b,f,hle7,rfl,hRg,hs⟩
      have hbd:=hRg.bd
      have hleF:=hle04.trans (hle5.trans (hle6.trans hle7))
      refine .z zm (.z zex (.z zex (.z zex (.z zg (.z zg (.z zg (.nil (.seq (.ai ?_)))))))))
      refine .z zm (.z fP (.nil ?_))
      refine (.ep rfl (fun hc111=>?_) (fun hc111=>?_))
      ·refine .ai (.z (zbd [_,_] cn) ?_)
       refine .o (.aQ (vs:=[_,_]) hs rfl rfl aS fun w hs=>?_)
       refine .z zg (.nil ?_)
       refine .ret (rT (?_))
       exact Fin.gV [] [] hs fun w hs=>⟨_,results2 nA (di (vs:=[_,_]) hs rfl cW aS) rfl,H7,_,_,_,hleF,rfl,.fls hok hr hfit hRg hc111,hs.out⟩
      ·refine .skip ?_
       refine nT ?_
       refine .ai ?_
       obtain rfl:f=0:=by simpa using hc111
       refine .z zm (.z (zfa cm) (.y hs (zld ae) (.z iK (.z Di (.z zm (.z (zfa cm) (.y hs (zld ae) (.z cC (.z (zfa cm) ?_)))))))))
       refine .y hs (zld ae) (.z iK (.z Bv (.z (zbd [_,_] cn) ?_)))
       refine .o (.alloc hs dN rfl fun b15 w hs=>?_)
       refine .o (.aQ (vs:=[_,_]) hs rfl rfl aS fun w hs=>?_)
       refine .nil (.seq (.ai (.z (zfa gL) (.y hs (zld ae) (.z (zfa fL) (.y hs (zld ae) (.z qN (.nil ?_))))))))
       refine (.cg rfl (fun hc131=>?_) (fun hc131=>?_))
       ·refine .ai (.z (zbd [_,_] cn) ?_)
        refine .o (.aQ (vs:=[_,_]) hs rfl rfl aS fun w hs=>?_)
        refine .z zg (.nil ?_)
        refine .ret (rT (?_))
        exact Fin.gV [] [] hs fun w hs=>⟨_,results2 nA (di (vs:=[_,_]) hs rfl cW aS) rfl,H7,_,_,_,hleF,rfl,.none hok hr hfit hRg aj,hs.out⟩
       ·refine .skip ?_
        refine nT ?_
        refine .ai (.y hs (zls [_,_] cW aS) ?_)
        refine .o (.aQ (vs:=[_,_]) hs rfl rfl aS fun w hs=>?_)
        refine .z zg (.nil ?_)
        refine .ret ?_
        exact Fin.gV [] [] hs fun w hs=>⟨_,results2 nA (di (vs:=[_,_]) hs rfl cW aS) rfl,H7,_,_,_,hleF,rfl,.ok hok hr hfit hRg aj,hs.out⟩
set_option maxRecDepth 100000 in
theorem qb:Tryz.prog.stoodInHeld 44=false:=by kernel_rfl
set_option maxRecDepth 100000 in
theorem qc:Tryz.prog.eqGuardType Tryz.prog.depth 44=false:=by kernel_rfl
theorem od{v1 v2:Value}{as_ bs:List Int}(hs:St H w σ)(h1:RI H v1 as_)(h2:RI H v2 bs):
  Cl Tryz.prog 34 [v1,v2] w fun u w'=>u= .bool (decide (as_=bs))∧St H w' σ:=by
 obtain ⟨a1,c1,rfl⟩:=RI.shape h1
 obtain ⟨a2,c2,rfl⟩:=RI.shape h2
 have l1:=(RI.len h1).2.2
 refine Cl.o Tryz.func34 Tryz.ntmps34 ag2 ?_
 refine .ai (.z zg (.nil (.ai (.z zm (.z (cS ad) (.z zm (.z (cS ad) (.z j6 (.z zg ?_)))))))))
 refine .nil (.seq (.ai (.z zg (.nil (.block ?_)))))
 refine .loop (fun p:Nat×Bool=>⟨31,[],[(6,I (p.1:Int)),(5,.bool p.2),(0,.slice a1 as_.length c1),(1,.slice a2 bs.length c2)]⟩)
  (fun p w=>p.1≤as_.length∧(p.2=true↔as_.length=bs.length∧∀j<p.1,gi as_ j=gi bs j)∧St H w σ) (fun p=>as_.length - p.1) (0,decide ((as_.length:Int)=bs.length)) bA
  ⟨Nat.zero_le _,by dsimp only;rw [decide_eq_true_eq];exact ⟨fun h=>⟨aj,fun j hj=>by omega⟩,fun h=>by omega⟩,hs⟩ ?_
 rintro ⟨k,b⟩ w ⟨hk,hb,hs⟩
 dsimp only at hk hb ⊢
 refine .seq (.ai (.z zm (.z zm (.z (cS ad) (.z ik (.z zm ?_))))))
 refine .j7 (t':=16) rfl (fun hb16=>?_) (fun hb16=>?_)
 ·refine .gT rfl rfl ?_
  refine .z zm (.z zpT (.nil ?_))
  refine (.cond rfl (fun hc18=>?_) (fun hc18=>?_))
  ·refine .skip ?_
   refine nT ?_
   refine .seq (.block ?_)
   refine .draw mix rfl hs fun w hs=>?_
   refine .z 0 rfl zm ?_;refine .z 1 rfl zm ?_
   obtain rfl:b=true:=by assumption
   obtain ⟨hlen,hall⟩:=hb.1 rfl
   refine .ixX (enc:=fun x=>[I x]) (i:=2) hs rfl an .none h1 rfl rfl ad af (bL (l:=as_) (i:=k) aj) dK ?_;intro b23 o23 hc23;replace hc23:=bM.one hc23
   refine .r (i:=3) hs rfl an .none (aZ rfl ae hc23) ?_
   refine .z 4 rfl zm ?_;refine .z 5 rfl zm ?_
   refine .ixX (enc:=fun x=>[I x]) (i:=6) hs rfl an .none h2 rfl rfl ad af (bL (l:=bs) (i:=k) aj) dK ?_;intro b27 o27 hc27;replace hc27:=bM.one hc27
   refine .r (i:=7) hs rfl an .none (aZ rfl ae hc27) ?_
   refine .z 8 rfl j6 ?_;refine .z 9 rfl zg ?_;refine .D hs ?_
   refine nB (nT ?_)
   refine .region (.z zm (.z cC (.z zg (.nil ?_))))
   refine nT ?_
   exact ⟨(k+1,decide (gi as_ k=gi bs k)),.cR rfl bR bA,⟨by dsimp only;omega,by
    dsimp only
    rw [decide_eq_true_eq]
    exact ⟨fun h=>⟨hlen,fun j hj=>by
     by_cases e:j=k
     ·subst e;exact h
     ·exact hall j aj⟩,fun h=>h.2 k aj⟩,hs⟩,by dsimp only;omega⟩
  ·refine .exit ?_
   refine xT (xT (xB (nT ?_)))
   refine .ai (.z zm (.z zg (.nil ?_)))
   refine .ret (Fin.bD Tryz.results34 rfl ?_)
   have hf:b=false:=by simpa using hc18
   exact ⟨by rw [hf,decide_eq_false (fun h=>by subst h;rw [hb.2 ⟨rfl,fun j _=>rfl⟩] at hf;cases hf)],hs⟩
 ·refine .gFs 1 4 true rfl rfl rfl ?_
  refine .z zpF (.nil ?_)
  refine (.cF ?_)
  refine .exit ?_
  refine xT (xT (xB (nT ?_)))
  refine .ai (.z zm (.z zg (.nil ?_)))
  refine .ret (Fin.bD Tryz.results34 rfl ?_)
  refine ⟨?_,hs⟩
  congr 1
  cases hbb:b with
  |true=>
   obtain ⟨hl,ha⟩:=hb.1 hbb
   rw [decide_eq_true (AT hl fun j hj=>ha j aj)]
  |false=>rw [decide_eq_false (fun h=>by subst h;rw [hb.2 ⟨rfl,fun j _=>rfl⟩] at hbb;cases hbb)]
theorem pn(hs:St H w σ):
  Cl Tryz.prog 82 [] w fun u w'=>∃H1 vst vwa vr vc,HLe H H1∧u= .agg #[I 1,I 1,vst,vwa,I 100,I 200,vr,vc]∧RI H1 vst exV.sp.st∧RI H1 vwa exV.sp.wa∧RRd H1 vr exV.rs∧RCm H1 vc exV.cs∧St H1 w' σ:=by
 refine Cl.of Tryz.func82 rfl Tryz.ntmps82 bR (ve) ?_
 refine .ai ?_
 refine .o (.alloc hs fc rfl fun b0 w hs=>?_)
 refine .nil (.ai ?_)
 refine .o (.buildSlice (cells:=Is [0,1000]) hs ie rfl an fun b2 w hs=>?_)
 refine .o (.buildSlice (cells:=Is [0,1000]) hs ie rfl an fun b3 w hs=>?_)
 refine .z (zbd [_,_] qK) (.z (zbd [_,_,_,_,_,_] pM) ?_)
 refine .o (.alloc hs iH rfl fun b1 w hs=>?_)
 refine .o (.aQ (vs:=[_,_,_,_,_,_]) hs rfl rfl aE fun w hs=>?_)
 refine .nil (.ai (.y hs (zls [_,_,_,_,_,_] aM aE) (.z (zbd [_,_,_,_,_,_,_] eI) (.z (zbd [_,_,_,_,_,_,_] eI) (.z (zbd [_,_,_,_,_,_,_] eI) (.z (zbd [_,_,_,_,_,_,_] eI) ?_))))))
 refine .o (.buildSlice (cells:=(rdc Br).flatten) hs nu rfl an fun b11 w hs=>?_)
 refine .z (zbd [_,_,_,_,_,_] mP) ?_
 refine .o (.buildSlice (cells:=(cmc exV.cs).flatten) hs jH rfl an fun b13 w hs=>?_)
 refine .z (zbd (vs:=[(0,.agg #[I 1,I 1,.slice (some ⟨b2,0,none⟩) 2 2,.slice (some ⟨b3,0,none⟩) 2 2,I 100,I 200]),(1,.slice (some ⟨b11,0,none⟩) 4 4),(2,.slice (some ⟨b13,0,none⟩) 1 1)]) [I 1,I 1,.slice (some ⟨b2,0,none⟩) 2 2,.slice (some ⟨b3,0,none⟩) 2 2,I 100,I 200,.slice (some ⟨b11,0,none⟩) 4 4,.slice (some ⟨b13,0,none⟩) 1 1] nO rfl an) ?_
 refine .o (.aQ (vs:=[_,_,_,_,_,_,_,_]) hs rfl rfl aD fun w hs=>?_)
 refine .nil ?_
 refine .ret ?_
 obtain ⟨H1,g1,r1,hs⟩:=bQ.dj (xs:=[0,1000]) (v:= .slice (some ⟨b2,0,none⟩) 2 2) (.full rfl) bR hs dJ
 obtain ⟨H2,g2,r2,hs⟩:=bQ.dj (xs:=[0,1000]) (v:= .slice (some ⟨b3,0,none⟩) 2 2) (.full rfl) bR hs dJ
 obtain ⟨H3,g3,r3,hs⟩:=bQ.bX (m:=7) (cs:=rdc Br) (v:= .slice (some ⟨b11,0,none⟩) 4 4) (.full an) (nk _) aj fD hs dJ
 obtain ⟨H4,g4,r4,hs⟩:=bQ.bX (m:=6) (cs:=cmc exV.cs) (v:= .slice (some ⟨b13,0,none⟩) 1 1) (.full an) (A5 _) aj fD hs dJ
 exact Fin.gV [] [] hs fun w hs=>⟨_,results1 Tryz.results82 (di (vs:=[_,_,_,_,_,_,_,_]) hs rfl aJ aD),H4,_,_,_,_,g1.trans (g2.trans (g3.trans g4)),rfl,r1.mono (g2.trans (g3.trans g4)),r2.mono (g3.trans g4),r3.mono g4,r4,hs.out⟩
theorem CG{out:List Int}{e:Int}(h:yU exW out e):out=[11,15]∧e=0:=by
 cases h with
 |bad h he=>exact (he (h.bT.2 E4)).elim
 |ok _ h=>rw [DU] at h;exact AV h
set_option maxHeartbeats 4000000 in
theorem mw(hs:St H w σ):
  Cl Tryz.prog 22 [] w fun u w'=>u= .bool true∧∃H1,HLe H H1∧St H1 w' σ:=by
 refine Cl.of Tryz.func22 rfl Tryz.ntmps22 bR (ve) ?_
 refine .ai (.z zg (.nil (.ai ?_)))
 refine .o (.call Tryz.call82 rfl (pn hs) ?_);rintro _ w ⟨H1,vst,vwa,vr,vc,hle1,rfl,h1,h2,h3,h4,hs⟩
 obtain ⟨ast,cst,rfl⟩:=RI.shape h1
 obtain ⟨awa,cwa,rfl⟩:=RI.shape h2
 obtain ⟨ar,cr,rfl⟩:=RRd.shape h3
 obtain ⟨ac,cc,rfl⟩:=RCm.shape h4
 refine .o (.alloc hs fc rfl fun b1 w hs=>?_)
 refine .o (.aQ (vs:=[_,_,_,_,_,_,_,_]) hs rfl rfl aD fun w hs=>?_)
 refine .nil (.ai (.y hs (zls [_,_,_,_,_,_,_,_] aJ aD) (.z (zbd [_,_,_] mN) ?_)))
 refine .o (.call Tryz.call26 rfl (iy (s:=exV) (q:=⟨1,0,1⟩) hs h1 h2 h3 h4) ?_);rintro _ w ⟨H2,lo,hi,e,hle2,rfl,hQ,hs⟩
 obtain ⟨rfl,rfl,rfl⟩:=AU hQ
 have hle02:=hle1.trans hle2
 replace h1:=h1.mono hle2
 replace h2:=h2.mono hle2
 replace h3:=h3.mono hle2
 replace h4:=h4.mono hle2
 refine .z zm (.z zex (.z zex ?_))
 refine .o (.alloc hs dN rfl fun b2 w hs=>?_)
 refine .o (.aQ (vs:=[_,_]) hs rfl rfl aS fun w hs=>?_)
 refine .z zg (.nil (.ai (.y hs (zls [_,_,_,_,_,_,_,_] aJ aD) (.z (zbd [_,_] fm) ?_))))
 refine .o (.call Tryz.call28 rfl (iQ (s:=exV) (t:=⟨2,5⟩) hs h1 h2 h3 h4) ?_);rintro _ w ⟨H3,lo,hi,e,hle3,rfl,hQ,hs⟩
 obtain ⟨rfl,rfl,rfl⟩:=DS hQ
 have hle03:=hle02.trans hle3
 replace h1:=h1.mono hle3
 replace h2:=h2.mono hle3
 replace h3:=h3.mono hle3
 replace h4:=h4.mono hle3
 refine .z zm (.z zex (.z zex ?_))
 refine .o (.alloc hs dN rfl fun b4 w hs=>?_)
 refine .o (.aQ (vs:=[_,_]) hs rfl rfl aS fun w hs=>?_)
 refine .z zg (.nil (.ai (.z (zfa aN) (.y hs (zls [_,_,_,_,_,_] aM aE) ?_))))
 refine .o (.buildSlice (cells:=Is [100,200]) hs ie rfl an fun b30 w hs=>?_)
 refine .o (.buildSlice (cells:=Is [150,300]) hs ie rfl an fun b31 w hs=>?_)
 refine .o (.buildSlice (cells:=[.slice (some ⟨b30,0,none⟩) 2 2,.slice (some ⟨b31,0,none⟩) 2 2]) hs s9 rfl an fun b32 w hs=>?_)
 refine .z (zbd [_] mO) (.z (zbd [_,_,_] mN) ?_)
 obtain ⟨H4,g1,r1,hs⟩:=bQ.dj (xs:=[100,200]) (v:= .slice (some ⟨b30,0,none⟩) 2 2) (.full rfl) bR hs dJ
 obtain ⟨H5,g2,r2,hs⟩:=bQ.dj (xs:=[150,300]) (v:= .slice (some ⟨b31,0,none⟩) 2 2) (.full rfl) bR hs dJ
 have hRL:RLs H5 [.slice (some ⟨b30,0,none⟩) 2 2,.slice (some ⟨b31,0,none⟩) 2 2] yD:=((RLs.nil H5).snoc (r1.mono g2)).snoc r2
 obtain ⟨H6,g3,hRT,hs⟩:=hRL.bX (v:= .slice (some ⟨b32,0,none⟩) 2 2) (en:= .blk b32 [.slice (some ⟨b30,0,none⟩) 2 2,.slice (some ⟨b31,0,none⟩) 2 2]) (.full rfl) bR hs dJ
 have hle4:=g1.trans (g2.trans g3)
 have hle06:=hle03.trans hle4
 replace h1:=h1.mono hle4
 replace h2:=h2.mono hle4
 replace h3:=h3.mono hle4
 replace h4:=h4.mono hle4
 refine .o (.call Tryz.call37 rfl (fS (s:=zy) (q:=⟨1,0,1⟩) hs h1 h2 hRT) ?_);rintro _ w ⟨H7,n,e,hle7,rfl,hQ,hs⟩
 obtain ⟨rfl,rfl⟩:=CB hQ
 have hle07:=hle06.trans hle7
 replace h1:=h1.mono hle7
 replace h2:=h2.mono hle7
 replace h3:=h3.mono hle7
 replace h4:=h4.mono hle7
 refine .z zm (.z zex (.z zex (.z zg (.z zg (.nil (.ai (.y hs (zls [_,_,_,_,_,_,_,_] aJ aD) (.z (zbd [_,_,_,_,_,_,_] eI) ?_))))))))
 refine .o (.call Tryz.call46 rfl (qi (s:=exV) (r:=⟨30,1,0,0,5,1,5⟩) hs h1 h2 h3 h4 rfl) ?_);rintro _ w ⟨H8,lo,hi,e,hle8,rfl,hQ,hs⟩
 obtain ⟨rfl,rfl,rfl⟩:=DR hQ
 have hle08:=hle07.trans hle8
 replace h1:=h1.mono hle8
 replace h2:=h2.mono hle8
 replace h3:=h3.mono hle8
 replace h4:=h4.mono hle8
 refine .z zm (.z zex (.z zex ?_))
 refine .o (.alloc hs dN rfl fun b8 w hs=>?_)
 refine .o (.aQ (vs:=[_,_]) hs rfl rfl aS fun w hs=>?_)
 refine .z zg (.nil (.ai (.y hs (zls [_,_,_,_,_,_,_,_] aJ aD) ?_)))
 refine .o (.alloc hs fc rfl fun b10 w hs=>?_)
 refine .o (.aQ (vs:=[_,_,_,_,_,_,_,_]) hs rfl rfl aD fun w hs=>?_)
 refine .nil (.ai ?_)
 refine .o (.buildSlice (cells:=[]) hs nv rfl rfl fun b45 w hs=>?_)
 refine .z (zfa bn) (.y hs (zld cz) ?_)
 refine .o (.append (xs:=[]) (ys:=(rdc Br).flatten) hs dn rfl rfl (.full (b:=b45) (len:=0) rfl) (.rs h3) fD (fun l' h=>by have hl:l'=0:=(by simp at h;omega);subst hl;decide) ?_);intro v48 en48 w hO48 hs
 rw [List.nil_append] at hO48
 obtain ⟨a48,c48,rfl⟩:=hO48.ja (nk Br) aj
 refine .z (zbd [_,_,_,_,_,_,_] eI) ?_
 refine .o (.buildSlice (cells:=Rdg.c ⟨15,0,0,300,10,1,5⟩) hs gJ rfl an fun b50 w hs=>?_)
 refine .o (.append (ys:=Rdg.c ⟨15,0,0,300,10,1,5⟩) hs dn rfl rfl hO48 (.own .here rfl rfl) fD (fun l' h=>by rw [bO _ (nk _)] at h;simp [rdc,Br] at h;omega) ?_);intro v51 en51 w hO51 hs
 rw [←uo] at hO51
 obtain ⟨H9,hle9,h3w,hs⟩:=bQ.bX (m:=7) (cs:=rdc (Br++[⟨15,0,0,300,10,1,5⟩])) hO51 (nk _) aj fD hs dJ
 replace h3w:RRd H9 v51 exW.rs:=h3w
 obtain ⟨a51,c51,rfl⟩:=RRd.shape h3w
 have hle09:=hle08.trans hle9
 replace h1:=h1.mono hle9
 replace h2:=h2.mono hle9
 replace h4:=h4.mono hle9
 refine .z (zfa bn) ?_
 refine .o (.store hs rfl rfl wQ fun w hs=>?_)
 refine .nil (.ai (.y hs (zls [_,_,_,_,_,_,_,_] aJ aD) ?_))
 refine .o (.call Tryz.call32 rfl (o9 (s:=exW) hs h1 h2 h3w h4) ?_);rintro _ w ⟨H10,vx,out,e,hle10,rfl,hR,hQ,hs⟩
 obtain ⟨rfl,rfl⟩:=CG hQ
 have hle010:=hle09.trans hle10
 refine .z zm (.z zex (.z zex (.z zg (.z zg (.nil (.ai (.z zm ?_)))))))
 refine .o (.buildSlice (cells:=Is [11,15]) hs ie rfl an fun b59 w hs=>?_)
 obtain ⟨H11,hle11,r59,hs⟩:=bQ.dj (xs:=[11,15]) (v:= .slice (some ⟨b59,0,none⟩) 2 2) (.full rfl) bR hs dJ
 have hleF:=hle010.trans hle11
 refine .o (.call Tryz.call34 rfl (od hs (hR.mono hle11) r59) ?_);rintro _ w ⟨rfl,hs⟩
 refine .z zg (.nil (.ai (.z zm (.z j6 (.z zm ?_)))))
 refine .j7 (t':=63) rfl (fun hb63=>?_) (fun hb63=>?_)
 ·refine .gT rfl rfl ?_
  refine .y hs (zls [_,_] cW aS) ?_
  refine .gT rfl rfl ?_
  refine .z (zbd [_,_] cn) ?_
  refine .gT rfl rfl ?_
  refine .q hs (qC qb qc kc (fun f hf=>by
   simp only [List.mem_cons,List.not_mem_nil,or_false] at hf
   rcases hf with rfl|rfl<;>exact ⟨by decide,aV,ae⟩) rfl rfl) ?_
  refine .z zpT (.z zm ?_)
  refine .bif (t':=68) rfl (fun hb68=>?_) (fun hb68=>?_)
  ·refine .gT rfl rfl ?_
   refine .z zm ?_
   refine .gT rfl rfl ?_
   refine .z j6 (.z zpT (.z zm ?_))
   refine .j7 (t':=72) rfl (fun hb72=>?_) (fun hb72=>?_)
   ·refine .gT rfl rfl ?_
    refine .y hs (zls [_,_] cW aS) ?_
    refine .gT rfl rfl ?_
    refine .z (zbd [_,_] cn) ?_
    refine .gT rfl rfl ?_
    refine .q hs (qC qb qc kc (fun f hf=>by
     simp only [List.mem_cons,List.not_mem_nil,or_false] at hf
     rcases hf with rfl|rfl<;>exact ⟨by decide,aV,ae⟩) rfl rfl) ?_
    refine .z zpT (.z zm ?_)
    refine .bif (t':=77) rfl (fun hb77=>?_) (fun hb77=>?_)
    ·refine .gT rfl rfl ?_
     refine .z zm ?_
     refine .gT rfl rfl ?_
     refine .z j6 (.z zpT (.z zm ?_))
     refine .j7 (t':=81) rfl (fun hb81=>?_) (fun hb81=>?_)
     ·refine .gT rfl rfl ?_
      refine .z zm ?_
      refine .gT rfl rfl ?_
      refine .z j6 (.z zpT (.z zm ?_))
      refine .j7 (t':=85) rfl (fun hb85=>?_) (fun hb85=>?_)
      ·refine .gT rfl rfl ?_
       refine .z zm ?_
       refine .gT rfl rfl ?_
       refine .z j6 (.z zpT (.z zm ?_))
       refine .j7 (t':=89) rfl (fun hb89=>?_) (fun hb89=>?_)
       ·refine .gT rfl rfl ?_
        refine .y hs (zls [_,_] cW aS) ?_
        refine .gT rfl rfl ?_
        refine .z (zbd [_,_] cn) ?_
        refine .gT rfl rfl ?_
        refine .q hs (qC qb qc kc (fun f hf=>by
         simp only [List.mem_cons,List.not_mem_nil,or_false] at hf
         rcases hf with rfl|rfl<;>exact ⟨by decide,aV,ae⟩) rfl rfl) ?_
        refine .z zpT (.z zm ?_)
        refine .bif (t':=94) rfl (fun hb94=>?_) (fun hb94=>?_)
        ·refine .gT rfl rfl ?_
         refine .z zm ?_
         refine .gT rfl rfl ?_
         refine .z j6 (.z zpT (.z zm ?_))
         refine .j7 (t':=98) rfl (fun hb98=>?_) (fun hb98=>?_)
         ·refine .gT rfl rfl ?_
          refine .z zm (.z zpT (.z zg (.nil ?_)))
          refine .ret (Fin.bD gC rfl ?_)
          first
          |exact ⟨rfl,H11,hleF,hs.out⟩
          |contradiction
          |(exfalso;simp_all;done)
         ·refine .gFs 1 37 true rfl rfl rfl ?_
          refine .z zpF (.z zg (.nil ?_))
          refine .ret (Fin.bD gC rfl ?_)
          first
          |exact ⟨rfl,H11,hleF,hs.out⟩
          |contradiction
          |(exfalso;simp_all;done)
        ·refine .gFs 2 33 true rfl rfl rfl ?_
         refine .z zpF (.z zm ?_)
         refine .gFs 1 37 true rfl rfl rfl ?_
         refine .z zpF (.z zg (.nil ?_))
         refine .ret (Fin.bD gC rfl ?_)
         first
         |exact ⟨rfl,H11,hleF,hs.out⟩
         |contradiction
         |(exfalso;simp_all;done)
       ·refine .gFs 3 28 true rfl rfl rfl ?_
        refine .z zpF (.z zm ?_)
        refine .gFs 2 33 true rfl rfl rfl ?_
        refine .z zpF (.z zm ?_)
        refine .gFs 1 37 true rfl rfl rfl ?_
        refine .z zpF (.z zg (.nil ?_))
        refine .ret (Fin.bD gC rfl ?_)
        first
        |exact ⟨rfl,H11,hleF,hs.out⟩
        |contradiction
        |(exfalso;simp_all;done)
      ·refine .gFs 2 24 true rfl rfl rfl ?_
       refine .z zpF (.z zm ?_)
       refine .gFs 3 28 true rfl rfl rfl ?_
       refine .z zpF (.z zm ?_)
       refine .gFs 2 33 true rfl rfl rfl ?_
       refine .z zpF (.z zm ?_)
       refine .gFs 1 37 true rfl rfl rfl ?_
       refine .z zpF (.z zg (.nil ?_))
       refine .ret (Fin.bD gC rfl ?_)
       first
       |exact ⟨rfl,H11,hleF,hs.out⟩
       |contradiction
       |(exfalso;simp_all;done)
     ·refine .gFs 2 20 true rfl rfl rfl ?_
      refine .z zpF (.z zm ?_)
      refine .gFs 2 24 true rfl rfl rfl ?_
      refine .z zpF (.z zm ?_)
      refine .gFs 3 28 true rfl rfl rfl ?_
      refine .z zpF (.z zm ?_)
      refine .gFs 2 33 true rfl rfl rfl ?_
      refine .z zpF (.z zm ?_)
      refine .gFs 1 37 true rfl rfl rfl ?_
      refine .z zpF (.z zg (.nil ?_))
      refine .ret (Fin.bD gC rfl ?_)
      first
      |exact ⟨rfl,H11,hleF,hs.out⟩
      |contradiction
      |(exfalso;simp_all;done)
    ·refine .gFs 2 16 true rfl rfl rfl ?_
     refine .z zpF (.z zm ?_)
     refine .gFs 2 20 true rfl rfl rfl ?_
     refine .z zpF (.z zm ?_)
     refine .gFs 2 24 true rfl rfl rfl ?_
     refine .z zpF (.z zm ?_)
     refine .gFs 3 28 true rfl rfl rfl ?_
     refine .z zpF (.z zm ?_)
     refine .gFs 2 33 true rfl rfl rfl ?_
     refine .z zpF (.z zm ?_)
     refine .gFs 1 37 true rfl rfl rfl ?_
     refine .z zpF (.z zg (.nil ?_))
     refine .ret (Fin.bD gC rfl ?_)
     first
     |exact ⟨rfl,H11,hleF,hs.out⟩
     |contradiction
     |(exfalso;simp_all;done)
   ·refine .gFs 3 11 true rfl rfl rfl ?_
    refine .z zpF (.z zm ?_)
    refine .gFs 2 16 true rfl rfl rfl ?_
    refine .z zpF (.z zm ?_)
    refine .gFs 2 20 true rfl rfl rfl ?_
    refine .z zpF (.z zm ?_)
    refine .gFs 2 24 true rfl rfl rfl ?_
    refine .z zpF (.z zm ?_)
    refine .gFs 3 28 true rfl rfl rfl ?_
    refine .z zpF (.z zm ?_)
    refine .gFs 2 33 true rfl rfl rfl ?_
    refine .z zpF (.z zm ?_)
    refine .gFs 1 37 true rfl rfl rfl ?_
    refine .z zpF (.z zg (.nil ?_))
    refine .ret (Fin.bD gC rfl ?_)
    first
    |exact ⟨rfl,H11,hleF,hs.out⟩
    |contradiction
    |(exfalso;simp_all;done)
  ·refine .gFs 2 7 true rfl rfl rfl ?_
   refine .z zpF (.z zm ?_)
   refine .gFs 3 11 true rfl rfl rfl ?_
   refine .z zpF (.z zm ?_)
   refine .gFs 2 16 true rfl rfl rfl ?_
   refine .z zpF (.z zm ?_)
   refine .gFs 2 20 true rfl rfl rfl ?_
   refine .z zpF (.z zm ?_)
   refine .gFs 2 24 true rfl rfl rfl ?_
   refine .z zpF (.z zm ?_)
   refine .gFs 3 28 true rfl rfl rfl ?_
   refine .z zpF (.z zm ?_)
   refine .gFs 2 33 true rfl rfl rfl ?_
   refine .z zpF (.z zm ?_)
   refine .gFs 1 37 true rfl rfl rfl ?_
   refine .z zpF (.z zg (.nil ?_))
   refine .ret (Fin.bD gC rfl ?_)
   first
   |exact ⟨rfl,H11,hleF,hs.out⟩
   |contradiction
   |(exfalso;simp_all;done)
 ·refine .gFs 3 2 true rfl rfl rfl ?_
  refine .z zpF (.z zm ?_)
  refine .gFs 2 7 true rfl rfl rfl ?_
  refine .z zpF (.z zm ?_)
  refine .gFs 3 11 true rfl rfl rfl ?_
  refine .z zpF (.z zm ?_)
  refine .gFs 2 16 true rfl rfl rfl ?_
  refine .z zpF (.z zm ?_)
  refine .gFs 2 20 true rfl rfl rfl ?_
  refine .z zpF (.z zm ?_)
  refine .gFs 2 24 true rfl rfl rfl ?_
  refine .z zpF (.z zm ?_)
  refine .gFs 3 28 true rfl rfl rfl ?_
  refine .z zpF (.z zm ?_)
  refine .gFs 2 33 true rfl rfl rfl ?_
  refine .z zpF (.z zm ?_)
  refine .gFs 1 37 true rfl rfl rfl ?_
  refine .z zpF (.z zg (.nil ?_))
  refine .ret (Fin.bD gC rfl ?_)
  first
  |exact ⟨rfl,H11,hleF,hs.out⟩
  |contradiction
  |(exfalso;simp_all;done)
end Go.Proofs.YtddaejgfjlneoaaGreat
namespace Go.Proofs.YtddaejgfjlneoaaGreat
open Go.MW
theorem ui{v:Srv}(h:c9 v){q:Wht}(hq:eL v.sp q)(i:Nat): -3456000000000≤gi (v.w q) i∧gi (v.w q) i≤3456000000000:=by
 unfold Srv.w
 rw [jh]
 by_cases hi:i<v.sp.many+1
 ·have h1:=mV h.early.1 hq
  have h2:=lj (nf v.sp q) hi
  omega
 ·have:gi (nf v.sp q) i=0:=by simp [gi,List.getD,List.getElem?_eq_none (show (nf v.sp q).length≤i by rw [gd];omega)]
  rw [this];omega
def sC(w:List Int)(high:Bool):List Int:=if high then w else sV w
end Go.Proofs.YtddaejgfjlneoaaGreat
namespace Go.Proofs.YtddaejgfjlneoaaGreat
open Go.MW
variable{H:bJ}{w:World}{σ:List Ent}
theorem bG{n m:Int}(hs:St H w σ)(hm:1≤m∧m≤4611686018427387904):
  Cl Tryz.prog 31 [I n,I m] w fun u w'=>∃k:Nat,(k:Int)<m∧u=I (k:Int)∧St H w' σ:=by
 have h1:=Int.tmod_lt_of_pos n (show 0<m by omega)
 have h2:=Int.lt_tmod_of_pos n (show 0<m by omega)
 have h3:=Int.tmod_lt_of_pos (n.tmod m+m) (show 0<m by omega)
 have h4:=Int.tmod_nonneg m (show 0≤n.tmod m+m by omega)
 refine Cl.o Tryz.func31 Tryz.ntmps31 ag2 ?_
 refine .ai (.z zg (.nil (.ai (.z zm (.z zm (.z CS (.z zm (.z cC (.z zm ?_)))))))))
 refine .z CS (.z zg (.nil ?_))
 refine .ret (Fin.bD Tryz.results31 rfl ?_)
 exact ⟨((n.tmod m+m).tmod m).toNat,aj,by rw [show (((n.tmod m+m).tmod m).toNat:Int)=(n.tmod m+m).tmod m by omega],hs⟩
theorem cD{v:Value}{l:List Int}{i n:Int}(hs:St H w σ)(hr:RI H v l)(hi:0≤i)(hn:1≤n∧n≤4611686018427387904):
  Cl Tryz.prog 100 [v,I i,I n] w fun u w'=>∃k:Nat,(k:Int)<n∧u=I (k:Int)∧St H w' σ:=by
 obtain ⟨a,c,rfl⟩:=RI.shape hr
 refine Cl.o Tryz.func100 Tryz.ntmps100 ag3 ?_
 refine .ai (.z zg (.nil (.seq (.ai (.z zm (.z (cS ad) (.z j6 (.nil ?_))))))))
 refine (.cg rfl (fun hc9=>?_) (fun hc9=>?_))
 ·refine .ai (.z zg (.nil ?_))
  refine .ret (rT (Fin.bD Tryz.results100 rfl ?_))
  exact ⟨0,aj,rfl,hs⟩
 ·refine .skip ?_
  refine nT ?_
  refine .ai (.z zm (.z zm (.z zm (.z (cS ad) (.z CS ?_)))))
  have g1:=Int.tmod_lt_of_pos i (show 0<(l.length:Int) by omega)
  have g2:=Int.tmod_nonneg (l.length:Int) hi
  refine .ixY hs hr rfl rfl ad af (bL (l:=l) (i:=(i.tmod l.length).toNat) aj) aj ?_;intro b15 o15 hc15
  refine .q hs (aZ rfl ae hc15) ?_
  refine .z zm ?_
  refine .o (.call dh rfl (bG hs hn) ?_);rintro _ w ⟨k,hk,rfl,hs⟩
  refine .z zg (.nil ?_)
  refine .ret (Fin.bD Tryz.results100 rfl ?_)
  exact ⟨k,hk,rfl,hs⟩
theorem sc{v vp:Value}{s:bV}{jb:List Int}(hs:St H w σ)(hr:RSy H v s)(hp:RI H vp jb)(hgood:s.Ok∧s.Sound):
  Cl Tryz.prog 212 [v,vp] w fun u w'=>∃H1 vx x en,HLe H H1∧u= .tuple #[vx,I 0]∧bQ 1 vx (Is x) en∧tT s jb x∧St H1 w' (en::σ):=by
 obtain ⟨ul,rfl,hl⟩:=hr
 obtain ⟨al,cl,rfl⟩:=RL.shape hl
 obtain ⟨ap,cp,rfl⟩:=RI.shape hp
 refine Cl.o Tryz.func212 Tryz.ntmps212 ag2 ?_
 refine .ai ?_
 refine .bx hs fun b2 w hs=>?_
 refine .z zg (.z zg (.nil (.ai (.y hs (zls [_,_] a8 aH) ?_))))
 refine .o (.call Tryz.call210 rfl (lJ (s:=s) hs ⟨_,rfl,hl⟩) ?_);rintro _ w ⟨H1,vt,e,hle1,rfl,hcase,hs⟩
 refine .z zm (.z zex (.z zex (.z zg (.z zg (.nil (.seq (.ai (.z zm (.z fP ?_)))))))))
 refine .nil ?_
 refine (.ep rfl (fun hc20=>?_) (fun hc20=>?_))
 ·refine .ai (.z zm (.z zg (.z zg (.nil ?_))))
  refine .ret (rT (Fin.oH Tryz.results212 rfl rfl ?_))
  rcases hcase with ⟨h1,rfl,rfl⟩|⟨h1,h2,rfl,rfl⟩|⟨_,_,rfl,_⟩
  ·exact (h1 (s.bT.2 hgood.1)).elim
  ·exact (h2 hgood.2).elim
  ·exact (hc20 rfl).elim
 ·refine .skip ?_
  refine nT ?_
  refine .ai ?_
  subst hc20
  obtain ⟨hok,hsd,rs,hRT,hSq,hWT⟩:s.Ok∧s.Sound∧∃rs,RT H1 vt rs∧Sq s.n rs∧j9 s.n s.cj (gt rs):=by
   rcases hcase with ⟨h1,h2,_⟩|⟨_,_,h2,_⟩|⟨h1,h2,_,h3⟩
   ·exact (h1 h2.symm).elim
   ·omega
   ·exact ⟨h1,h2,h3⟩
  obtain ⟨at',ct,rfl⟩:=hRT.shape
  have hTS:=hok.Fj hsd hWT
  have hrl:=hSq.1
  have hm0:=hok.m0
  have hm1:=hok.m1
  have hnn:(s.n:Int)=s.many+1:=by simp only [bV.n];omega
  refine .o (.buildSlice (cells:=[_]) hs bP rfl rfl fun b22 w hs=>?_)
  refine .z zg (.nil (.seq (.ai (.z zg (.nil (.block ?_))))))
  refine .loop (fun p:List Int×Value=>⟨109,[],[(9,I (p.1.length:Int)),(8,p.2),(6,.slice at' rs.length ct),(2,.pointer (some ⟨b2,0,none⟩)),(1,.slice ap jb.length cp)]⟩)
   (fun p w=>Eg (gt rs) (o5 jb) p.1∧p.1.length≤s.n∧∃en,bQ 1 p.2 (Is p.1) en∧St H1 w (en:: .blk b2 [I s.many,.slice al s.bK.length cl]::σ))
   (fun p=>s.n - p.1.length) ([0],.slice (some ⟨b22,0,none⟩) 1 1) bA
   ⟨.start,s.uB,_,.full (len:=1) rfl,hs⟩ ?_
  rintro ⟨X,v8⟩ w ⟨hP,hXn,en,hO,hs⟩
  dsimp only at hP hXn hO ⊢
  have hI:=hP.inv (fun i n hn=>uw jb i hn) hTS hXn
  have hX0:=hI.l0
  have hO1:=hO
  obtain ⟨b,cap,sp,rfl,rfl,hcap⟩:=hO.some hX0
  refine .seq (.ai (.z zm (.z (zfa bw) (.y hs (zld ae) (.z vA (.nil ?_))))))
  refine (.cg rfl (fun hc26=>?_) (fun hc26=>?_))
  ·refine .skip ?_
   refine nT ?_
   refine .seq (.block (.ai (.z zg (.nil ?_))))
   have hXl:X.length<s.n:=by omega
   refine .ai (.z zg (.nil (.seq (.ai (.z zm (.z (cS ad) (.z zm (.nil ?_))))))))
   refine .for (N:=X.length) (J:=fun k fr w=>∃lo hi,fr=[(10,I lo),(11,I hi),(9,I (X.length:Int)),(8,.slice (some ⟨b,0,none⟩) X.length cap),(6,.slice at' rs.length ct),(2,.pointer (some ⟨b2,0,none⟩)),(1,.slice ap jb.length cp)]∧LoI (gt rs) X X.length k lo∧HiI (gt rs) X X.length k hi∧St H1 w (.blk b (Is X++sp):: .blk b2 [I s.many,.slice al s.bK.length cl]::σ)) aj ?_ ?_ ?_
   ·exact .mk ⟨_,_,rfl,.start _ _ _,.start _ _ _,hs⟩
   ·rintro k fr w hk ⟨lo,hi,rfl,hLo,hHi,hs⟩
    have hXk:=hI.bd k hk
    have hr1:(gr rs X.length).length=s.n:=hSq.2 _ hXl
    have hr2:(gr rs k).length=s.n:=hSq.2 _ aj
    have hb1:gi (gr rs X.length) k≠1000000000→-1400000≤gi (gr rs X.length) k∧gi (gr rs X.length) k≤1400000:=fun h=>hTS.bd X.length k hXl aj h
    have hb2:gi (gr rs k) X.length≠1000000000→-1400000≤gi (gr rs k) X.length∧gi (gr rs k) X.length≤1400000:=fun h=>hTS.bd k X.length aj hXl h
    refine .block (.ai (.z zm (.z zg (.nil ?_))))
    refine .cut (fun fs w=>∃lo',mT fs ⟨109,[],[(10,I lo'),(12,I (k:Int)),(31,I (k:Int)),(30,I (X.length:Int)),(11,I hi),(9,I (X.length:Int)),(8,.slice (some ⟨b,0,none⟩) X.length cap),(6,.slice at' rs.length ct),(2,.pointer (some ⟨b2,0,none⟩)),(1,.slice ap jb.length cp)]⟩∧LoI (gt rs) X X.length (k+1) lo'∧St H1 w (.blk b (Is X++sp):: .blk b2 [I s.many,.slice al s.bK.length cl]::σ)) ?_ ?_
    ·refine .ai (.z zm (.z zm ?_))
     refine .ixT hs hRT rfl rfl aq aC (show X.length<rs.length by omega) rfl ?_;intro b36 o36 a36 c36 hc36 hR36
     refine .q hs (aZ rfl ak hc36) ?_
     refine .z zm ?_
     refine .ixY hs hR36 rfl rfl ad af (bL (l:=gr rs X.length) (i:=k) aj) rfl ?_;intro b39 o39 hc39
     refine .q hs (aZ rfl ae hc39) ?_
     refine .z fP (.nil ?_)
     refine (.ep rfl (fun hc41=>?_) (fun hc41=>?_))
     ·refine .draw mix rfl hs fun w hs=>?_
      refine .z 0 rfl zm ?_;refine .z 1 rfl zm ?_;refine .z 2 rfl zm ?_;refine .z 3 rfl (zix ad af) ?_
      refine .load (i:=4) hs rfl an .none rfl ae ?_ (hv:=eX hk sp)
      refine .z 5 rfl zm ?_;refine .z 6 rfl zm ?_
      refine .ixT (i:=7) hs rfl an .none hRT rfl rfl aq aC (show X.length<rs.length by omega) rfl ?_;intro b49 o49 a49 c49 hc49 hR49
      refine .r (i:=8) hs rfl an .none (aZ rfl ak hc49) ?_
      refine .z 9 rfl zm ?_
      refine .ixX (enc:=fun x=>[I x]) (i:=10) hs rfl an .none hR49 rfl rfl ad af (bL (l:=gr rs X.length) (i:=k) aj) rfl ?_;intro b52 o52 hc52;replace hc52:=bM.one hc52
      refine .r (i:=11) hs rfl an .none (aZ rfl ae hc52) ?_
      refine .z 12 rfl iK ?_;refine .z 13 rfl Di ?_;refine .z 14 rfl zg ?_;refine .D hs ?_
      refine nT ?_
      exact ⟨_,bA,hLo.put hc41 (by have:=hb1 hc41;have:=hXk;have:=hTS.n65;show -1000000000≤gi X k - gi (gr rs X.length) k;omega),hs⟩
     ·refine .skip ?_
      refine nT ?_
      exact ⟨_,bA,hLo.skip hc41,hs⟩
    ·rintro fs w ⟨lo',hfs,hLo',hs⟩
     refine WE.sub ?_ hfs
     refine .ai (.z zm (.z zm ?_))
     refine .ixT hs hRT rfl rfl aq aC (show k<rs.length by omega) rfl ?_;intro b58 o58 a58 c58 hc58 hR58
     refine .q hs (aZ rfl ak hc58) ?_
     refine .z zm ?_
     refine .ixY hs hR58 rfl rfl ad af (bL (l:=gr rs k) (i:=X.length) aj) rfl ?_;intro b61 o61 hc61
     refine .q hs (aZ rfl ae hc61) ?_
     refine .z fP (.nil ?_)
     refine (.ep rfl (fun hc63=>?_) (fun hc63=>?_))
     ·refine .draw mix rfl hs fun w hs=>?_
      refine .z 0 rfl zm ?_;refine .z 1 rfl zm ?_;refine .z 2 rfl zm ?_;refine .z 3 rfl (zix ad af) ?_
      refine .load (i:=4) hs rfl an .none rfl ae ?_ (hv:=eX hk sp)
      refine .z 5 rfl zm ?_;refine .z 6 rfl zm ?_
      refine .ixT (i:=7) hs rfl an .none hRT rfl rfl aq aC (show k<rs.length by omega) rfl ?_;intro b71 o71 a71 c71 hc71 hR71
      refine .r (i:=8) hs rfl an .none (aZ rfl ak hc71) ?_
      refine .z 9 rfl zm ?_
      refine .ixX (enc:=fun x=>[I x]) (i:=10) hs rfl an .none hR71 rfl rfl ad af (bL (l:=gr rs k) (i:=X.length) aj) rfl ?_;intro b74 o74 hc74;replace hc74:=bM.one hc74
      refine .r (i:=11) hs rfl an .none (aZ rfl ae hc74) ?_
      refine .z 12 rfl cC ?_;refine .z 13 rfl Bv ?_;refine .z 14 rfl zg ?_;refine .D hs ?_
      refine nB (nT ?_)
      exact .mk ⟨lo',_,rfl,hLo',hHi.put hc63 (by have:=hb2 hc63;have:=hXk;have:=hTS.n65;show gi X k+gi (gr rs k) X.length≤1000000000;omega),hs⟩
     ·refine .skip ?_
      refine nB (nT ?_)
      exact .mk ⟨lo',_,rfl,hLo',hHi.skip hc63,hs⟩
   ·rintro fr w ⟨lo,hi,rfl,hLo,hHi,hs⟩
    have hlb:=hLo.bd hI hTS hXl (Nat.le_refl _)
    have hhb:=hHi.bd hI hTS hXl (Nat.le_refl _)
    have hle:=hI.le hTS hXl rfl hLo hHi
    simp only [free] at hlb hhb hle
    have hpk:=uw jb ((X.length:Int) - 1) (n:=hi - lo+1)
    refine nT ?_
    refine .ai (.z zg (.nil ?_))
    refine .cut (fun fs w=>mT fs ⟨109,[],[(13,I (jy lo hi (o5 jb ((X.length:Int) - 1) (hi - lo+1)))),(9,I (X.length:Int)),(8,.slice (some ⟨b,0,none⟩) X.length cap),(6,.slice at' rs.length ct),(2,.pointer (some ⟨b2,0,none⟩)),(1,.slice ap jb.length cp)]⟩∧St H1 w (.blk b (Is X++sp):: .blk b2 [I s.many,.slice al s.bK.length cl]::σ)) ?_ ?_
    ·refine .block (.ai (.z zm (.z fP (.z zm ?_))))
     refine .Ba (t':=82) rfl (fun hb82=>?_) (fun hb82=>?_)
     ·refine .gT rfl rfl ?_
      refine .z zm ?_
      refine .gT rfl rfl ?_
      refine .z fP (.z zpT (.z zg (.nil ?_)))
      refine (.ep rfl (fun hc79=>?_) (fun hc79=>?_))
      ·refine .region (.z zm (.z zm (.z zm (.z iK (.z zm (.z zm (.z iK (.z cC ?_))))))))
       refine .o (.call Tryz.call264 rfl (sd hs (hp.mono hle1) aj aj) ?_);rintro _ w ⟨rfl,hs⟩
       have hq1:hi≠1000000000:=by simpa using hc79
       have hq2:=hle (by simpa using hb82) hq1
       have hq3:=hpk aj
       refine .z cC (.z zg (.nil ?_))
       refine nB (nT ?_)
       refine ⟨.cR rfl ?_ bA,hs⟩
       unfold jy
       simp only [free] at*
       split<;>(try split)<;>first|rfl|omega|(simp_all;done)|(exfalso;simp_all;omega)
      ·refine .ai (.z zm (.z fP (.z zg (.nil ?_))))
       refine (.ep rfl (fun hc96=>?_) (fun hc96=>?_))
       ·refine .region (.z zm (.z zg (.nil ?_)))
        refine nB (nT ?_)
        refine ⟨.cR rfl ?_ bA,hs⟩
        unfold jy
        simp only [free] at*
        split<;>(try split)<;>first|rfl|omega|(simp_all;done)|(exfalso;simp_all;omega)
       ·refine .ai (.z zm (.z fP (.z zg (.nil ?_))))
        refine (.ep rfl (fun hc100=>?_) (fun hc100=>?_))
        ·refine .region (.z zm (.z zg (.nil ?_)))
         refine nB (nT ?_)
         refine ⟨.cR rfl ?_ bA,hs⟩
         unfold jy
         simp only [free] at*
         split<;>(try split)<;>first|rfl|omega|(simp_all;done)|(exfalso;simp_all;omega)
        ·refine .skip ?_
         refine nB (nT ?_)
         refine ⟨.cR rfl ?_ bA,hs⟩
         unfold jy
         simp only [free] at*
         split<;>(try split)<;>first|rfl|omega|(simp_all;done)|(exfalso;simp_all;omega)
     ·refine .gFs 2 2 true rfl rfl rfl ?_
      refine .z zpF (.z zg (.nil ?_))
      refine (.cF ?_)
      refine .ai (.z zm (.z fP (.z zg (.nil ?_))))
      refine (.ep rfl (fun hc96=>?_) (fun hc96=>?_))
      ·refine .region (.z zm (.z zg (.nil ?_)))
       refine nB (nT ?_)
       refine ⟨.cR rfl ?_ bA,hs⟩
       unfold jy
       simp only [free] at*
       split<;>(try split)<;>first|rfl|omega|(simp_all;done)|(exfalso;simp_all;omega)
      ·refine .ai (.z zm (.z fP (.z zg (.nil ?_))))
       refine (.ep rfl (fun hc100=>?_) (fun hc100=>?_))
       ·refine .region (.z zm (.z zg (.nil ?_)))
        refine nB (nT ?_)
        refine ⟨.cR rfl ?_ bA,hs⟩
        unfold jy
        simp only [free] at*
        split<;>(try split)<;>first|rfl|omega|(simp_all;done)|(exfalso;simp_all;omega)
       ·refine .skip ?_
        refine nB (nT ?_)
        refine ⟨.cR rfl ?_ bA,hs⟩
        unfold jy
        simp only [free] at*
        split<;>(try split)<;>first|rfl|omega|(simp_all;done)|(exfalso;simp_all;omega)
    ·rintro fs w ⟨hfs,hs⟩
     refine WE.sub ?_ hfs
     refine .region (.z zm (.z zm ?_))
     refine .o (.buildSlice (cells:=[_]) hs bP rfl rfl fun b106 w hs=>?_)
     refine .o (.append (ys:=Is [jy lo hi (o5 jb ((X.length:Int) - 1) (hi - lo+1))]) hs bH rfl rfl hO1 (.own .here rfl rfl) (fN _) (fun l' h=>by simp at h;have:=hTS.n65;omega) ?_);intro v107 en107 w hO2 hs
     rw [←List.map_append] at hO2
     refine .z zg (.nil ?_)
     refine nB (nT ?_)
     refine .region (.z zm (.z cC (.z zg (.nil ?_))))
     refine nT ?_
     exact ⟨(X++[jy lo hi (o5 jb ((X.length:Int) - 1) (hi - lo+1))],v107),.cR rfl bR bA,⟨hP.snoc hLo hHi,by simp;omega,_,hO2,hs.sb⟩,by simp;omega⟩
  ·refine .exit ?_
   refine xT (xT (xB (nT ?_)))
   refine .ai (.z zm (.z zg (.z zg (.nil ?_))))
   refine .ret (Fin.oH Tryz.results212 rfl rfl ?_)
   exact ⟨H1,_,X,_,hle1,rfl,hO1,⟨gt rs,hWT,hP,aj⟩,hs.sb⟩
theorem mn{s:Srv}{vst vwa vr vc:Value}(hs:St H w σ)(h1:RI H vst s.sp.st)(h2:RI H vwa s.sp.wa)(h3:RRd H vr s.rs)(h4:RCm H vc s.cs)(he:s.early):
  Cl Tryz.prog 211 [.agg #[I s.sp.id,I s.sp.src,vst,vwa,I s.sp.al,I s.sp.up,vr,vc]] w fun u w'=>∃H1,HLe H H1∧RSy H1 u s.nq∧St H1 w' σ:=by
 obtain ⟨ar,cr,rfl⟩:=RRd.shape h3
 have hfl:=yz s
 have hrl:=he.2.1
 refine Cl.o Tryz.func211 Tryz.ntmps211 ag1 ?_
 refine .ai ?_
 refine .bx hs fun b1 w hs=>?_
 refine .o (.alloc hs dC rfl fun b2 w hs=>?_)
 refine .nil (.ai (.y hs (zls [_,_,_,_,_,_,_,_] aJ aD) ?_))
 refine .o (.call Tryz.call95 rfl (qe (s:=s) hs h1 h2 h3 h4 he) ?_);rintro _ w ⟨H1,hle1,⟨ul,rfl,hL⟩,hs⟩
 have hL:RL H1 ul s.bK:=hL
 obtain ⟨al,cl,rfl⟩:=RL.shape hL
 have hln:=RS.len hL
 rw [List.length_map] at hln
 refine .o (.alloc hs dC rfl fun b3 w hs=>?_)
 refine .o (.aQ (vs:=[_,_]) hs rfl rfl aH fun w hs=>?_)
 refine .nil (.ai (.z (zfa bu) (.y hs (zld bU) (.z (zfa bu) (.y hs (zld bU) (.z (cS aI) (.z (zfa bn) (.y hs (zld cz) (.z (cS aK) ?_)))))))))
 refine .z lG (.z iK ?_)
 refine .q hs (mr (k:=s.mz.length) rfl rfl aI aR aj aj) ?_
 have hT:=RS.head hL (k:=s.mz.length) aj
 rw [←List.map_take,wx] at hT
 refine .z (zfa bu) ?_
 refine .o (.store hs rfl rfl lF fun w hs=>?_)
 refine .nil (.ai (.y hs (zls [_,_] a8 aH) ?_))
 refine .o (.aQ (vs:=[_,_]) hs rfl rfl aH fun w hs=>?_)
 refine .nil ?_
 refine .ret ?_
 exact Fin.gV [] [] hs fun w hs=>⟨_,results1 Tryz.results211 (di (vs:=[_,_]) hs rfl a8 aH),H1,hle1,⟨_,rfl,hT⟩,hs.out⟩
theorem r9{s:Srv}{vst vwa vr vc:Value}(hs:St H w σ)(h1:RI H vst s.sp.st)(h2:RI H vwa s.sp.wa)(h3:RRd H vr s.rs)(h4:RCm H vc s.cs)(he:s.early)(hok:s.nq.Ok):
  Cl Tryz.prog 142 [.agg #[I s.sp.id,I s.sp.src,vst,vwa,I s.sp.al,I s.sp.up,vr,vc]] w fun u w'=>∃H1,∃b:Bool,HLe H H1∧u= .bool b∧(b=false→s.nq.Sound)∧St H1 w' σ:=by
 refine Cl.o Tryz.func142 Tryz.ntmps142 ag1 ?_
 refine .ai ?_
 refine .bx hs fun b1 w hs=>?_
 refine .z zg (.nil (.ai (.y hs (zls [_,_,_,_,_,_,_,_] aJ aD) ?_)))
 refine .o (.call Tryz.call211 rfl (mn (s:=s) hs h1 h2 h3 h4 he) ?_);rintro _ w ⟨H1,hle1,hS,hs⟩
 refine .o (.call Tryz.call210 rfl (lJ (s:=s.nq) hs hS) ?_);rintro _ w ⟨H2,vt,e,hle2,rfl,hcase,hs⟩
 refine .z zm (.z zex (.z zex (.z zg (.z zg (.nil (.ai (.z zm (.z fP (.z zg ?_)))))))))
 refine .nil ?_
 refine .ret (Fin.bD Tryz.results142 rfl ?_)
 exact ⟨H2,_,hle1.trans hle2,rfl,fun h=>by
  rcases hcase with ⟨k1,_,_⟩|⟨_,_,k3,_⟩|⟨_,k2,_,_⟩
  ·exact (k1 (s.nq.bT.2 hok)).elim
  ·subst k3;simp at h
  ·exact k2,hs.out⟩
theorem r8{s:Srv}{vst vwa vr vc vp:Value}{jb:List Int}(hs:St H w σ)(h1:RI H vst s.sp.st)(h2:RI H vwa s.sp.wa)(h3:RRd H vr s.rs)(h4:RCm H vc s.cs)(hp:RI H vp jb)(he:s.early)(hok:s.nq.Ok∧s.nq.Sound):
  Cl Tryz.prog 143 [.agg #[I s.sp.id,I s.sp.src,vst,vwa,I s.sp.al,I s.sp.up,vr,vc],vp] w fun u w'=>∃H1 x en,HLe H H1∧bQ 1 u (Is x) en∧tT s.nq jb x∧St H1 w' (en::σ):=by
 obtain ⟨ap,cp,rfl⟩:=RI.shape hp
 refine Cl.o Tryz.func143 Tryz.ntmps143 ag2 ?_
 refine .ai ?_
 refine .bx hs fun b2 w hs=>?_
 refine .z zg (.nil (.ai (.y hs (zls [_,_,_,_,_,_,_,_] aJ aD) ?_)))
 refine .o (.call Tryz.call211 rfl (mn (s:=s) hs h1 h2 h3 h4 he) ?_);rintro _ w ⟨H1,hle1,hS,hs⟩
 refine .z zm ?_
 refine .o (.call Tryz.call212 rfl (sc (s:=s.nq) hs hS (hp.mono hle1) hok) ?_);rintro _ w ⟨H2,vx,x,en,hle2,rfl,hO,hP,hs⟩
 refine .z zm (.z zex (.z zex (.z zg (.z zg (.nil (.ai (.z zm (.z zg (.nil ?_)))))))))
 refine .ret (Fin.bD Tryz.results143 rfl ?_)
 exact ⟨H2,x,en,hle1.trans hle2,hO,hP,hs.sb⟩
set_option maxHeartbeats 1000000 in
theorem jS{s:Spc}{vst vwa:Value}{a b c:Int}(hs:St H w σ)(h1:RI H vst s.st)(h2:RI H vwa s.wa)(hk:fW s):
  Cl Tryz.prog 25 [.agg #[I s.id,I s.src,vst,vwa,I s.al,I s.up],.agg #[I a,I b,I c]] w fun u w'=>∃q:Wht,u= .agg #[I q.kind,I q.st,I q.wa]∧eL s q∧St H w' σ:=by
 obtain ⟨ast,cst,rfl⟩:=RI.shape h1
 obtain ⟨awa,cwa,rfl⟩:=RI.shape h2
 have hl1:=hk.st.two
 have hl2:=hk.wa.two
 have hl3:=hk.st.many
 have hl4:=hk.wa.many
 refine Cl.o Tryz.func25 Tryz.ntmps25 ag2 ?_
 refine .ai ?_
 refine .bx hs fun b2 w hs=>?_
 refine .bx hs fun b3 w hs=>?_
 refine .o (.alloc hs xL rfl fun b4 w hs=>?_)
 refine .nil (.ai ?_)
 refine .z (zia 0 ft af) ?_
 refine .y hs (zld ae) ?_
 refine .o (.call dh rfl (bG hs aj) ?_);rintro _ w ⟨k,hk4,rfl,hs⟩
 refine .z cC (.z (zbd [_,_,_] mN) ?_)
 refine .o (.alloc hs xL rfl fun b5 w hs=>?_)
 refine .o (.aQ (vs:=[_,_,_]) hs rfl rfl bj fun w hs=>?_)
 refine .nil (.ai ?_)
 refine .z (zia 1 ft af) ?_
 refine .y hs (zld ae) (.z (zfa bB) (.y hs (zld ak) (.z (cS ad) ?_)))
 refine .o (.call dh rfl (bG hs aj) ?_);rintro _ w ⟨i,hi,rfl,hs⟩
 refine .z zg (.nil (.ai ?_))
 refine .z (zia 2 ft af) ?_
 refine .y hs (zld ae) (.z (zfa br) (.y hs (zld ak) (.z (cS ad) ?_)))
 refine .o (.call dh rfl (bG hs aj) ?_);rintro _ w ⟨j,hj,rfl,hs⟩
 refine .z zg (.nil (.seq (.ai (.z (zfa pz) (.y hs (zld ae) (.nil (.block (.ai (.z j6 ?_)))))))))
 refine .z zg (.nil ?_)
 refine (.cg rfl (fun hc27=>?_) (fun hc27=>?_))
 ·refine .region (.z zm (.z Di (.z (zfa dS) ?_)))
  refine .o (.store hs rfl rfl af fun w hs=>?_)
  refine .nil ?_
  refine nB (nT ?_)
  refine .ai (.y hs (zls [_,_,_] bS bj) ?_)
  refine .o (.aQ (vs:=[_,_,_]) hs rfl rfl bj fun w hs=>?_)
  refine .nil ?_
  refine .ret ?_
  exact Fin.gV [] [] hs fun w hs=>⟨_,results1 Tryz.results25 (di (vs:=[_,_,_]) hs rfl bS bj),⟨1+(k:Int),0,max 1 (j:Int)⟩,rfl,.litres (by show (1:Int)+k=1;omega) rfl ⟨by dsimp only;omega,by dsimp only;omega⟩ (by dsimp only;omega),hs.out⟩
 ·refine .ai (.z j6 (.z zg (.nil ?_)))
  refine (.cg rfl (fun hc32=>?_) (fun hc32=>?_))
  ·refine .region (.z zm (.z (zfa dS) ?_))
   refine .o (.store hs rfl rfl af fun w hs=>?_)
   refine .nil ?_
   refine nB (nT ?_)
   refine .ai (.y hs (zls [_,_,_] bS bj) ?_)
   refine .o (.aQ (vs:=[_,_,_]) hs rfl rfl bj fun w hs=>?_)
   refine .nil ?_
   refine .ret ?_
   exact Fin.gV [] [] hs fun w hs=>⟨_,results1 Tryz.results25 (di (vs:=[_,_,_]) hs rfl bS bj),⟨1+(k:Int),0,(j:Int)⟩,rfl,.plane (by show (1:Int)+k=2;omega) rfl ⟨by dsimp only;omega,by dsimp only;omega⟩,hs.out⟩
  ·refine .ai (.z j6 (.z zg (.nil ?_)))
   refine (.cg rfl (fun hc36=>?_) (fun hc36=>?_))
   ·refine .region (.z zm (.z (zfa fC) ?_))
    refine .o (.store hs rfl rfl af fun w hs=>?_)
    refine .nil ?_
    refine nB (nT ?_)
    refine .ai (.y hs (zls [_,_,_] bS bj) ?_)
    refine .o (.aQ (vs:=[_,_,_]) hs rfl rfl bj fun w hs=>?_)
    refine .nil ?_
    refine .ret ?_
    exact Fin.gV [] [] hs fun w hs=>⟨_,results1 Tryz.results25 (di (vs:=[_,_,_]) hs rfl bS bj),⟨1+(k:Int),(i:Int),0⟩,rfl,.section_ (by show (1:Int)+k=3;omega) rfl ⟨by dsimp only;omega,by dsimp only;omega⟩,hs.out⟩
   ·refine .ai (.z j6 (.z zg (.nil ?_)))
    refine (.cg rfl (fun hc40=>?_) (fun hc40=>?_))
    ·refine .ai (.z zm (.z (zfa fC) ?_))
     refine .o (.store hs rfl rfl af fun w hs=>?_)
     refine .nil (.region (.z zm (.z (zfa dS) ?_)))
     refine .o (.store hs rfl rfl af fun w hs=>?_)
     refine .nil ?_
     refine nB (nT ?_)
     refine .ai (.y hs (zls [_,_,_] bS bj) ?_)
     refine .o (.aQ (vs:=[_,_,_]) hs rfl rfl bj fun w hs=>?_)
     refine .nil ?_
     refine .ret ?_
     exact Fin.gV [] [] hs fun w hs=>⟨_,results1 Tryz.results25 (di (vs:=[_,_,_]) hs rfl bS bj),⟨1+(k:Int),(i:Int),(j:Int)⟩,rfl,.offset (by show (1:Int)+k=4;omega) ⟨by dsimp only;omega,by dsimp only;omega⟩ ⟨by dsimp only;omega,by dsimp only;omega⟩,hs.out⟩
    ·refine .skip ?_
     refine nB (nT ?_)
     refine .ai (.y hs (zls [_,_,_] bS bj) ?_)
     refine .o (.aQ (vs:=[_,_,_]) hs rfl rfl bj fun w hs=>?_)
     refine .nil ?_
     refine .ret ?_
     omega
structure Grow(d D:Int)(L:List Int)(x:Int):Prop where
 low:d≤x
 high:x≤d+D*L.length
 all:∀i<L.length,d≤gi L i∧gi L i<x
 rise:∀i,i+1<L.length→gi L i<gi L (i+1)
theorem Grow.start(d D:Int):Grow d D [] d:=⟨aj,bR,fun i h=>by simp at h,fun i h=>by simp at h⟩
theorem Grow.snoc{d D x y:Int}{L:List Int}(h:Grow d D L x)(h1:x<y)(h2:y≤x+D):Grow d D (L++[x]) y:=by
 obtain ⟨g1,g2,g3,g4⟩:=h
 refine ⟨aj,?_,fun i hi=>?_,fun i hi=>?_⟩
 ·rw [List.length_append,List.length_singleton,Int.natCast_add,Int.mul_add];omega
 ·rw [List.length_append,List.length_singleton] at hi
  rw [uO]
  split
  ·have:=g3 i dB;omega
  ·rw [if_pos aj];omega
 ·rw [List.length_append,List.length_singleton] at hi
  rw [uO,uO,if_pos aj]
  split
  ·exact g4 i dB
  ·rw [if_pos aj];exact (g3 i aj).2
theorem Grow.plc{d D x most:Int}{many:Nat}{L:List Int}(h:Grow d D L x)(hd:0≤d)(h2:2≤L.length)(hm:L.length≤many)(hx:d+D*L.length≤most):gx many most L:=
 ⟨h2,hm,by have:=(h.all 0 aj).1;omega,by have:=(h.all (L.length - 1) aj).2;have:=h.high;omega,h.rise⟩
structure Fg(s:Spc):Prop where
 ok:fW s
 st:s.st.length≤4
 wa:s.wa.length≤3
set_option maxHeartbeats 1000000 in
theorem oe{v:Value}{l:List Int}(hs:St H w σ)(hr:RI H v l):
  Cl Tryz.prog 35 [v] w fun u w'=>∃s vst vwa e1 e2,u= .agg #[I s.id,I s.src,vst,vwa,I s.al,I s.up]∧Fg s∧bQ 1 vst (Is s.st) e1∧bQ 1 vwa (Is s.wa) e2∧St H w' (e1::e2::σ):=by
 obtain ⟨av,cv,rfl⟩:=RI.shape hr
 refine Cl.o Tryz.func35 Tryz.ntmps35 ag1 ?_
 refine .ai ?_
 refine .o (.alloc hs iH rfl fun b2 w hs=>?_)
 refine .nil (.ai (.z zm ?_))
 refine .o (.call fo rfl (cD hs hr aj aj) ?_);rintro _ w ⟨k11,g11,rfl,hs⟩
 refine .z cC (.z zm ?_)
 refine .o (.call fo rfl (cD hs hr aj aj) ?_);rintro _ w ⟨k14,g14,rfl,hs⟩
 refine .z cC (.z (zbd [_,_,_,_,_,_] pM) ?_)
 refine .o (.alloc hs iH rfl fun b3 w hs=>?_)
 refine .o (.aQ (vs:=[_,_,_,_,_,_]) hs rfl rfl aE fun w hs=>?_)
 refine .nil (.ai (.z zm ?_))
 refine .o (.call fo rfl (cD hs hr aj aj) ?_);rintro _ w ⟨k18,g18,rfl,hs⟩
 refine .z cC (.z lG (.z zg (.nil (.ai (.z zg (.nil (.seq (.ai (.z zg ?_)))))))))
 refine .nil (.block ?_)
 refine .loop (fun p:List Int×Int×Value=>⟨90,[],[(6,I (p.1.length:Int)),(5,I p.2.1),(4,I (100*(1+(k18:Int)))),(0,.slice av l.length cv),(3,.pointer (some ⟨b3,0,none⟩)),(2,.pointer (some ⟨b2,0,none⟩))]⟩)
  (fun p w=>p.1.length≤4∧Grow 0 2707 p.1 p.2.1∧∃en,bQ 1 p.2.2 (Is p.1) en∧St H w (en:: .blk b3 [I (1+(k11:Int)),I (1+(k14:Int)),p.2.2,.slice none 0 0,I 0,I 0]:: .blk b2 [I 0,I 0,.slice none 0 0,.slice none 0 0,I 0,I 0]::σ)) (fun p=>4 - p.1.length) ([],0,.slice none 0 0) bA
  ⟨bR,.start _ _,_,.nil 1 none,hs.nul⟩ ?_
 clear hs
 rintro ⟨L,x,vo⟩ w ⟨hL4,hG,en,hO,hs⟩
 dsimp only at hL4 hG hO hs ⊢
 obtain ⟨ao,lo,co,rfl,-⟩:=hO.shape
 have hx0:=hG.low
 have hx1:=hG.high
 refine .seq (.ai (.z zm (.z zm ?_)))
 refine .o (.call fo rfl (cD hs hr aj aj) ?_);rintro _ w ⟨k23,g23,rfl,hs⟩
 refine .z cC (.z ik (.nil ?_))
 refine (.cg rfl (fun hc25=>?_) (fun hc25=>?_))
 ·refine .skip ?_
  refine nT ?_
  refine .seq (.block (.ai (.z (zfa bB) (.y hs (zld ak) (.z zm ?_)))))
  refine .o (.buildSlice (cells:=[_]) hs bP rfl rfl fun b31 w hs=>?_)
  refine .o (.append (ys:=Is [x]) hs bH rfl rfl hO (.own .here rfl rfl) (fN _) (fun l' h=>by simp at h;omega) ?_);intro v32 en32 w hO2 hs
  rw [←List.map_append] at hO2
  obtain ⟨a32,l32,c32,rfl,-⟩:=hO2.shape
  refine .z (zfa bB) ?_
  refine .o (.store hs rfl rfl aC fun w hs=>?_)
  refine .nil (.region (.z zm (.z zm (.z zm (.z zm (.z cC ?_))))))
  refine .o (.call fo rfl (cD hs hr aj aj) ?_);rintro _ w ⟨k39,g39,rfl,hs⟩
  have m41:=mu (a:=100*(1+(k18:Int))) (b:=1+(k39:Int)) (A:=900) (B:=3) aj aj
  have m41':100≤100*(1+(k18:Int))*(1+(k39:Int)):=by
   have:=Int.mul_le_mul (a:=100) (c:=100*(1+(k18:Int))) (b:=1) (d:=1+(k39:Int)) aj aj aj aj
   omega
  refine .z cC (.z lG (.z cC (.z zm ?_)))
  refine .o (.call fo rfl (cD hs hr aj aj) ?_);rintro _ w ⟨k44,g44,rfl,hs⟩
  refine .z zm (.z zm (.z cC ?_))
  refine .o (.call fo rfl (cD hs hr aj aj) ?_);rintro _ w ⟨k48,g48,rfl,hs⟩
  have m49:0≤(k44:Int)*(k48:Int)∧(k44:Int)*(k48:Int)≤1:=by
   have e1:k44=0∨k44=1:=by omega
   rcases e1 with rfl|rfl<;>simp<;>omega
  refine .z lG (.z lG (.z cC (.z zg (.nil ?_))))
  refine nB (nT ?_)
  refine .region (.z zm (.z cC (.z zg (.nil ?_))))
  refine nT ?_
  exact ⟨(L++[x],_,.slice a32 l32 c32),.cR rfl bR bA,⟨by simp;omega,hG.snoc (by dsimp only;omega) (by dsimp only;omega),_,hO2,hs.sb⟩,by simp;omega⟩
 ·refine .exit ?_
  refine xT (xT (xB (nT ?_)))
  refine .ai (.z zm ?_)
  have hL2:2≤L.length:=by omega
  refine .o (.call fo rfl (cD hs hr aj aj) ?_);rintro _ w ⟨k53,g53,rfl,hs⟩
  refine .z cC (.z lG (.z zg (.nil (.ai (.z zm ?_)))))
  refine .o (.call fo rfl (cD hs hr aj aj) ?_);rintro _ w ⟨k57,g57,rfl,hs⟩
  refine .z lG (.z zg (.nil (.seq (.ai (.z zg (.nil (.block ?_)))))))
  refine .loop (fun p:List Int×Int×Value=>⟨90,[],[(9,I (p.1.length:Int)),(8,I p.2.1),(7,I (50*(1+(k53:Int)))),(0,.slice av l.length cv),(3,.pointer (some ⟨b3,0,none⟩)),(2,.pointer (some ⟨b2,0,none⟩))]⟩)
   (fun p w=>p.1.length≤3∧Grow (10*(k57:Int)) 1350 p.1 p.2.1∧∃en2,bQ 1 p.2.2 (Is p.1) en2∧St H w (en2:: .blk b3 [I (1+(k11:Int)),I (1+(k14:Int)),.slice ao lo co,p.2.2,I 0,I 0]:: .blk b2 [I 0,I 0,.slice none 0 0,.slice none 0 0,I 0,I 0]::en::σ)) (fun p=>3 - p.1.length) ([],10*(k57:Int),.slice none 0 0) bA
   ⟨bR,.start _ _,_,.nil 1 none,(hs.sb).nul⟩ ?_
  clear hs
  rintro ⟨L2,y,vo2⟩ w ⟨hM4,hG2,en2,hO2,hs⟩
  dsimp only at hM4 hG2 hO2 hs ⊢
  obtain ⟨ap,lp,cp,rfl,-⟩:=hO2.shape
  have hy0:=hG2.low
  have hy1:=hG2.high
  refine .seq (.ai (.z zm (.z zm ?_)))
  refine .o (.call fo rfl (cD hs hr aj aj) ?_);rintro _ w ⟨k61,g61,rfl,hs⟩
  refine .z cC (.z ik (.nil ?_))
  refine (.cg rfl (fun hc63=>?_) (fun hc63=>?_))
  ·refine .skip ?_
   refine nT ?_
   refine .seq (.block (.ai (.z (zfa br) (.y hs (zld ak) (.z zm ?_)))))
   refine .o (.buildSlice (cells:=[_]) hs bP rfl rfl fun b69 w hs=>?_)
   refine .o (.append (ys:=Is [y]) hs bH rfl rfl hO2 (.own .here rfl rfl) (fN _) (fun l' h=>by simp at h;omega) ?_);intro v70 en70 w hO3 hs
   rw [←List.map_append] at hO3
   obtain ⟨a70,l70,c70,rfl,-⟩:=hO3.shape
   refine .z (zfa br) ?_
   refine .o (.store hs rfl rfl aC fun w hs=>?_)
   refine .nil (.region (.z zm (.z zm (.z zm (.z zm (.z cC ?_))))))
   refine .o (.call fo rfl (cD hs hr aj aj) ?_);rintro _ w ⟨k77,g77,rfl,hs⟩
   have m79:=mu (a:=50*(1+(k53:Int))) (b:=1+(k77:Int)) (A:=450) (B:=3) aj aj
   have m79':50≤50*(1+(k53:Int))*(1+(k77:Int)):=by
    have:=Int.mul_le_mul (a:=50) (c:=50*(1+(k53:Int))) (b:=1) (d:=1+(k77:Int)) aj aj aj aj
    omega
   refine .z cC (.z lG (.z cC (.z zg (.nil ?_))))
   refine nB (nT ?_)
   refine .region (.z zm (.z cC (.z zg (.nil ?_))))
   refine nT ?_
   exact ⟨(L2++[y],_,.slice a70 l70 c70),.cR rfl bR bA,⟨by simp;omega,hG2.snoc (by dsimp only;omega) (by dsimp only;omega),_,hO3,hs.sb⟩,by simp;omega⟩
  ·refine .exit ?_
   refine xT (xT (xB (nT ?_)))
   refine .ai (.z zm ?_)
   refine .o (.call fo rfl (cD hs hr aj aj) ?_);rintro _ w ⟨k83,g83,rfl,hs⟩
   refine .z lG (.z zm ?_)
   refine .o (.call fo rfl (cD hs hr aj aj) ?_);rintro _ w ⟨k86,g86,rfl,hs⟩
   refine .z lG (.z (zbd [_,_] qK) (.z (zfa fa) ?_))
   refine .o (.aQ (vs:=[_,_]) hs rfl rfl Tryz.sizeOf32 fun w hs=>?_)
   refine .nil (.ai (.y hs (zls [_,_,_,_,_,_] aM aE) ?_))
   refine .o (.aQ (vs:=[_,_,_,_,_,_]) hs rfl rfl aE fun w hs=>?_)
   refine .nil ?_
   refine .ret ?_
   exact Fin.gV [] [] hs fun w hs=>⟨_,results1 Tryz.results35 (di (vs:=[_,_,_,_,_,_]) hs rfl aM aE),⟨1+(k11:Int),1+(k14:Int),L,L2,100*(k83:Int),100*(k86:Int)⟩,.slice ao lo co,.slice ap lp cp,en,en2,rfl,
    ⟨⟨hG.plc aj hL2 aj aj,hG2.plc aj aj aj aj,by dsimp only;omega,by dsimp only;omega,by dsimp only;omega,by dsimp only;omega⟩,hL4,hM4⟩,hO,hO2,hs.sb⟩
end Go.Proofs.YtddaejgfjlneoaaGreat
