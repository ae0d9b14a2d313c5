/-
  Texts of these claims, joined: Zg Zh Zi Zl Zm Zn Zo Zp Zs Zt Zu Zv Zy Nd Nj No Nq Oc Od Oe Of Og Oh Oi Oj Ok Ol Om.
-/
import Derived.Test.YteajddicacjkhaaGreatBc
namespace Go.Proofs.YteajddicacjkhaaGreat
open Go.MW
variable{H:bp}{w:World}{σ:List Ent}
theorem eI{x0 x1 x2 x3 x4 x5 x6 x7 x8 vl:Value}{en:Ent}{bm:Nat}{ls:List Lim}{a b hi lo by_:Int}(hs:St H w (.blk bm [x0,x1,x2,x3,x4,x5,x6,x7,x8,vl]::en::σ))(hO:cR 4 vl (jn ls) en)(hl:ls.length≤100000):
  Cl Tryz.prog 242 [.pointer (some ⟨bm,0,none⟩),I a,I b,I hi,I lo,I by_] w fun _ w'=>∃vl' en',cR 4 vl' (jn (ls++two a b hi lo by_)) en'∧St H w' (.blk bm [x0,x1,x2,x3,x4,x5,x6,x7,x8,vl']::en'::σ):=by
 obtain ⟨al,ll,cl,rfl,h⟩:=hO.shape
 refine Cl.of Tryz.func242 rfl Tryz.ntmps242 db (cN (k:=0) rfl (cN (k:=1) rfl (cN (k:=2) rfl (cN (k:=3) rfl (cN (k:=4) rfl (cN (k:=5) rfl (uo))))))) ?_
 refine .region (.z zm (.z zm (.z znc (.z (zfa fO) (.y hs (zld dw) (.z zm (.z zm (.z zm (.z zm ?_)))))))))
 refine .z (zbd [_,_,_,_] oy) (.z zm (.z zm (.z zm (.z zm (.z (zbd [_,_,_,_] oy) ?_)))))
 refine .o (.buildSlice (cells:=jn (two a b hi lo by_)) hs ou rfl an fun b27 w hs=>?_)
 refine .o (.append (ys:=jn (two a b hi lo by_)) hs fb rfl rfl hO (.own .here rfl rfl) (A9 _) (fun l h=>by rw [rH] at h;omega) ?_);intro v28 en28 w hO2 hs
 rw [←rI] at hO2
 obtain ⟨a28,l28,c28,rfl,h28⟩:=hO2.shape
 refine .z znc (.z (zfa fO) ?_)
 refine .o (.store hs rfl rfl sz fun w hs=>?_)
 refine .nil ?_
 exact Fin.vR Tryz.results242 ⟨_,_,hO2,hs.sb⟩
theorem iJ{s:Spc}{vst vwa x6 x7 x8 vl:Value}{bm:Nat}{j:Int}(hs:St H w σ)(hm:Mem σ (.blk bm [I s.id,I s.src,vst,vwa,I s.al,I s.up,x6,x7,x8,vl]))(h1:RI H vst s.st)(h2:RI H vwa s.wa)(hb:s.st.length≤1000∧s.wa.length≤1000)(hj: -1≤j∧j≤1000):
  Cl Tryz.prog 244 [.pointer (some ⟨bm,0,none⟩),I j] w fun u w'=>u=I ((s.many:Int)+1+j)∧St H w' σ:=by
 have hmm:s.many≤1000000:=Nat.mul_le_mul hb.1 hb.2
 refine Cl.o Tryz.func244 Tryz.ntmps244 ag2 ?_
 refine .ai (.z zg (.nil (.ai (.z zm (.z znc (.z (zfa cq) (.z (zfa bC) ?_)))))))
 refine .q hs (iC (vs:=[I s.id,I s.src,vst,vwa,I s.al,I s.up]) rfl bI aV hm) ?_
 refine .o (.call Tryz.call196 rfl (jA (s:=s) hs h1 h2 hb) ?_);rintro _ w ⟨rfl,hs⟩
 refine .z dP (.z zm (.z dP (.z zg (.nil ?_))))
 refine .ret (Fin.bg Tryz.results244 rfl ?_)
 exact ⟨rfl,hs⟩
theorem eD{s:Spc}(h:dr s):s.st.length≤1000∧s.wa.length≤1000∧0<s.wa.length∧s.many≤63:=by
 have h1:=h.st.many;have h2:=h.wa.many;have h3:=h.wa.two
 have:s.many≤9*7:=Nat.mul_le_mul h1 h2
 omega
theorem mZ{s:Srv}{ts:List TD}{vst vwa vr vc vt vl:Value}{en:Ent}{bm:Nat}{ls:List Lim}(hs:St H w (.blk bm [I s.sp.id,I s.sp.src,vst,vwa,I s.sp.al,I s.sp.up,vr,vc,vt,vl]::en::σ))(hk:MkK H s ts vst vwa vr vc vt)(hO:cR 4 vl (jn ls) en)(hl:ls.length≤10000)(hok:dr s.sp):
  Cl Tryz.prog 190 [.pointer (some ⟨bm,0,none⟩)] w fun _ w'=>∃H1 vl' en',HLe H H1∧cR 4 vl' (jn (ls++jC (zb s.sp) s.sp.wa.length s.sp.st.length)) en'∧St H1 w' (.blk bm [I s.sp.id,I s.sp.src,vst,vwa,I s.sp.al,I s.sp.up,vr,vc,vt,vl']::en'::σ):=by
 have hsm:=eD hok
 refine Cl.o Tryz.func190 Tryz.ntmps190 ag1 ?_
 refine .ai ?_
 refine .bx hs fun b1 w hs=>?_
 refine .nil (.ai (.y hs (zld oF) (.z znc (.z (zfa cq) (.z (zfa bC) (.y hs (zls [_,_,_,_,_,_] bI aV) ?_))))))
 refine .o (.call zp rfl (dO (s:=s.sp) hs hk.st hk.wa ⟨ak,ak⟩) ?_);rintro _ w ⟨H1,ba,hle1,rfl,hit,hs⟩
 refine .nil (.block ?_)
 refine .rangeFunc (gf:=188) (cap:=[.pointer (some ⟨ba,0,none⟩)]) (xs:=s9 s.sp) (σb:=[.blk bm [I s.sp.id,I s.sp.src,vst,vwa,I s.sp.al,I s.sp.up,vr,vc,vt,vl],en,.blk b1 [.pointer (some ⟨bm,0,none⟩)]]) (σf:=σ) (hs.sb) trivial rfl hit zo (fun x hx=>by
   simp only [s9,List.mem_map] at hx
   obtain ⟨j,_,rfl⟩:=hx;rfl) rfl
  (I:=fun p H' σb=>∃vl en,σb=[.blk bm [I s.sp.id,I s.sp.src,vst,vwa,I s.sp.al,I s.sp.up,vr,vc,vt,vl],en,.blk b1 [.pointer (some ⟨bm,0,none⟩)]]∧cR 4 vl (jn (ls++nO (zb s.sp) s.sp.wa.length p)) en) (Ix:=fun _ _ _=>False)
  (fun j _ _ σ g1 g2=>g2) (fun _ _ _ _ _ h=>h) ⟨vl,en,rfl,by rw [lI,List.append_nil];exact hO⟩ ?_ ?_ (fun D c H' σb w _ h _=>h.elim)
 ·rintro ly p hp H2 σb2 σf2 w hle2 ⟨vl,en,rfl,hO⟩ hs ⟨rr,hrr⟩
  have hpm:p<s.sp.many:=by rw [dc] at hp;exact hp
  have hsucc:=lJ (zb s.sp) (p:=p) hsm.2.2.1
  have hpl:=gH (uf s.sp) hsm.2.2.1 p
  have hin:p/s.sp.wa.length<s.sp.st.length:=Nat.div_lt_of_lt_mul (by rw [Nat.mul_comm];exact hpm)
  have hkm:=Nat.mod_lt p hsm.2.2.1
  have hdm:=Nat.div_add_mod p s.sp.wa.length
  rw [Nat.mul_comm] at hdm
  have hu:(s.sp.u (p/s.sp.wa.length) (p%s.sp.wa.length):Int)=(p:Int)+1:=by unfold Spc.u;omega
  rw [jX hp]
  obtain ⟨al,ll,cl,rfl,hll⟩:=hO.shape
  generalize p/s.sp.wa.length=i at*
  generalize p%s.sp.wa.length=k at*
  have hk2:=hk.mono (hle1.trans hle2)
  refine .region ?_
  refine .o (.alloc hs iz rfl fun b2 w hs=>?_)
  refine .o (.aI (vs:=[_,_,_]) hs rfl rfl mg fun w hs=>?_)
  refine .nil ?_
  refine nT ?_
  refine ⟨H2,[.blk b2 [I (i:Int),I (k:Int),I ((p+1:Nat):Int)],.blk bm [I s.sp.id,I s.sp.src,vst,vwa,I s.sp.al,I s.sp.up,vr,vc,vt,.slice al ll cl],en,.blk b1 [.pointer (some ⟨bm,0,none⟩)]],HLe.refl _,hs,?_⟩;rintro w σf4 - hs
  refine .block ?_
  refine .draw mix rfl hs fun w hs=>?_
  refine .y 0 rfl hs oF ?_;refine .z 1 rfl (zfa dk) ?_;refine .y 2 rfl hs ae ?_;refine .y 3 rfl hs oF ?_;refine .z 4 rfl znc ?_;refine .z 5 rfl (zfa cq) ?_;refine .z 6 rfl (zfa bC) ?_;refine .z 7 rfl (zfa fi) ?_;refine .y 8 rfl hs ae ?_
  refine .E 9 hs ?_
  refine .call zk rfl (eI (ls:=ls++nO (zb s.sp) s.sp.wa.length p) (hs.sb:St H2 w (.blk bm _::en:: .blk b1 _::σf4)) hO (by rw [List.length_append];omega)) ?_;rintro _ w ⟨vl3,en3,hO3,hs⟩
  rw [show two 0 ((p+1:Nat):Int) 20000 0 s.sp.src=zb s.sp i k by unfold zb;rw [hu];rfl,List.append_assoc,←hsucc] at hO3
  refine .go ?_
  refine .D hs ?_
  refine nB ?_
  exact ⟨H2,_,HLe.refl _,hs,_,_,rfl,hO3⟩
 ·rintro D H2 σb2 w hle2 ⟨vl,en,rfl,hO⟩ hs
  rw [dc,show s.sp.many=s.sp.st.length*s.sp.wa.length from rfl,nN _ hsm.2.2.1] at hO
  refine nB ?_
  exact Fin.FM [D] [] hs fun w hs=>⟨_,results0 Tryz.results190,H2,vl,en,hle1.trans hle2,hO,(hs.sb:St H2 w (.blk bm _::en::σ))⟩
theorem qc{s:Srv}{ts:List TD}{vst vwa vr vc vt vl:Value}{en:Ent}{bm:Nat}{ls:List Lim}(hs:St H w (.blk bm [I s.sp.id,I s.sp.src,vst,vwa,I s.sp.al,I s.sp.up,vr,vc,vt,vl]::en::σ))(hk:MkK H s ts vst vwa vr vc vt)(hO:cR 4 vl (jn ls) en)(hl:ls.length≤10000)(hok:dr s.sp):
  Cl Tryz.prog 191 [.pointer (some ⟨bm,0,none⟩)] w fun _ w'=>∃H1 vl' en',HLe H H1∧cR 4 vl' (jn (ls++jC (alL s.sp) s.sp.wa.length s.sp.st.length)) en'∧St H1 w' (.blk bm [I s.sp.id,I s.sp.src,vst,vwa,I s.sp.al,I s.sp.up,vr,vc,vt,vl']::en'::σ):=by
 have hsm:=eD hok
 obtain ⟨ast,cst,rfl⟩:=RI.shape hk.st
 obtain ⟨awa,cwa,rfl⟩:=RI.shape hk.wa
 refine Cl.o Tryz.func191 Tryz.ntmps191 ag1 ?_
 refine .ai ?_
 refine .bx hs fun b1 w hs=>?_
 refine .nil (.ai (.y hs (zld oF) (.z znc (.z (zfa cq) (.z (zfa bC) (.y hs (zls [_,_,_,_,_,_] bI aV) ?_))))))
 refine .o (.alloc hs Tryz.zeroValue48 rfl fun b2 w hs=>?_)
 refine .o (.aI (vs:=[_,_,_,_,_,_]) hs rfl rfl aV fun w hs=>?_)
 refine .nil (.ai (.y hs (zls [_,_,_,_,_,_] bI aV) ?_))
 refine .o (.call zp rfl (dO (s:=s.sp) hs hk.st hk.wa ⟨ak,ak⟩) ?_);rintro _ w ⟨H1,ba,hle1,rfl,hit,hs⟩
 refine .nil (.block ?_)
 refine .rangeFunc (gf:=188) (cap:=[.pointer (some ⟨ba,0,none⟩)]) (xs:=s9 s.sp) (σb:=[.blk bm [I s.sp.id,I s.sp.src,.slice ast s.sp.st.length cst,.slice awa s.sp.wa.length cwa,I s.sp.al,I s.sp.up,vr,vc,vt,vl],en,.blk b1 [.pointer (some ⟨bm,0,none⟩)],.blk b2 [I s.sp.id,I s.sp.src,.slice ast s.sp.st.length cst,.slice awa s.sp.wa.length cwa,I s.sp.al,I s.sp.up]]) (σf:=σ) (hs.sb) trivial rfl hit zo (fun x hx=>by
   simp only [s9,List.mem_map] at hx
   obtain ⟨j,_,rfl⟩:=hx;rfl) rfl
  (I:=fun p H' σb=>∃vl en,σb=[.blk bm [I s.sp.id,I s.sp.src,.slice ast s.sp.st.length cst,.slice awa s.sp.wa.length cwa,I s.sp.al,I s.sp.up,vr,vc,vt,vl],en,.blk b1 [.pointer (some ⟨bm,0,none⟩)],.blk b2 [I s.sp.id,I s.sp.src,.slice ast s.sp.st.length cst,.slice awa s.sp.wa.length cwa,I s.sp.al,I s.sp.up]]∧cR 4 vl (jn (ls++nO (alL s.sp) s.sp.wa.length p)) en) (Ix:=fun _ _ _=>False)
  (fun j _ _ σ g1 g2=>g2) (fun _ _ _ _ _ h=>h) ⟨vl,en,rfl,by rw [lI,List.append_nil];exact hO⟩ ?_ ?_ (fun D c H' σb w _ h _=>h.elim)
 ·rintro ly p hp H2 σb2 σf2 w hle2 ⟨vl,en,rfl,hO⟩ hs ⟨rr,hrr⟩
  have hpm:p<s.sp.many:=by rw [dc] at hp;exact hp
  have hsucc:=lJ (alL s.sp) (p:=p) hsm.2.2.1
  have hpl:=gH (xr s.sp) hsm.2.2.1 p
  have hin:p/s.sp.wa.length<s.sp.st.length:=Nat.div_lt_of_lt_mul (by rw [Nat.mul_comm];exact hpm)
  have hkm:=Nat.mod_lt p hsm.2.2.1
  have hdm:=Nat.div_add_mod p s.sp.wa.length
  rw [Nat.mul_comm] at hdm
  have hu:(s.sp.u (p/s.sp.wa.length) (p%s.sp.wa.length):Int)=(p:Int)+1:=by unfold Spc.u;omega
  rw [jX hp]
  obtain ⟨al,ll,cl,rfl,hll⟩:=hO.shape
  generalize p/s.sp.wa.length=i at*
  generalize p%s.sp.wa.length=k at*
  have hk2:=hk.mono (hle1.trans hle2)
  refine .region ?_
  refine .o (.alloc hs iz rfl fun b3 w hs=>?_)
  refine .o (.aI (vs:=[_,_,_]) hs rfl rfl mg fun w hs=>?_)
  refine .nil ?_
  refine nT ?_
  refine ⟨H2,[.blk b3 [I (i:Int),I (k:Int),I ((p+1:Nat):Int)],.blk bm [I s.sp.id,I s.sp.src,.slice ast s.sp.st.length cst,.slice awa s.sp.wa.length cwa,I s.sp.al,I s.sp.up,vr,vc,vt,.slice al ll cl],en,.blk b1 [.pointer (some ⟨bm,0,none⟩)],.blk b2 [I s.sp.id,I s.sp.src,.slice ast s.sp.st.length cst,.slice awa s.sp.wa.length cwa,I s.sp.al,I s.sp.up]],HLe.refl _,hs,?_⟩;rintro w σf4 - hs
  refine .block (.ai (.z (zfa bY) (.y hs (zld ae) (.z dP (.z (zfa cM) (.y hs (zld aq) (.z (dp af) (.z kM (.nil ?_)))))))))
  refine (.cz rfl (fun hc19=>?_) (fun hc19=>?_))
  ·refine .seq (.draw mix rfl hs fun w hs=>?_)
   refine .z 0 rfl (zfa gz) ?_;refine .z 1 rfl (zfa nY) ?_;refine .y 2 rfl hs ae ?_;refine .z 3 rfl (zfa cM) ?_;refine .y 4 rfl hs aq ?_;refine .z 5 rfl (zfa bY) ?_;refine .y 6 rfl hs ae ?_;refine .z 7 rfl dP ?_
   have hris:=hok.st.rise i ak
   have hq0:=hok.st.bd (i:=i) ak
   have hq1:=hok.st.bd (i:=i+1) ak
   have hal:=hok.al
   refine .ixX (enc:=fun x=>[I x]) (i:=8) hs rfl an .none hk2.st rfl rfl af aj (bE (l:=s.sp.st) (i:=(i+1)) ak) cU ?_;intro b28 o28 hc28;replace hc28:=bH.one hc28
   refine .r (i:=9) hs rfl an .none (a6 rfl ae hc28) ?_
   refine .z 10 rfl (zfa cM) ?_;refine .y 11 rfl hs aq ?_;refine .z 12 rfl (zfa bY) ?_;refine .y 13 rfl hs ae ?_
   refine .ixX (enc:=fun x=>[I x]) (i:=14) hs rfl an .none hk2.st rfl rfl af aj (bE (l:=s.sp.st) (i:=i) ak) cU ?_;intro b34 o34 hc34;replace hc34:=bH.one hc34
   refine .r (i:=15) hs rfl an .none (a6 rfl ae hc34) ?_
   refine .z 16 rfl fu ?_
   refine .E 17 hs ?_
   refine .call Tryz.call243 rfl (jB hs ak ak) ?_;rintro _ w ⟨rfl,hs⟩
   refine .go ?_
   refine .z 18 rfl zg ?_;refine .D hs ?_
   refine .region (.y hs (zld oF) (.z (zfa dk) (.y hs (zld ae) (.z (zfa dk) (.y hs (zld ae) (.z (zfa bF) (.y hs (zld aq) (.z (dp af) (.z dP ?_)))))))))
   refine .z zm (.z zm (.z (zfa fi) (.y hs (zld ae) ?_)))
   refine .o (.call zk rfl (eI (ls:=ls++nO (alL s.sp) s.sp.wa.length p) (hs.sb:St H2 w (.blk bm _::en:: .blk b1 _:: .blk b2 _::σf4)) hO (by rw [List.length_append];omega)) ?_);rintro _ w ⟨vl3,en3,hO3,hs⟩
   have hu2:(s.sp.u (i+1) k:Int)=((p+1:Nat):Int)+(s.sp.wa.length:Int):=by unfold Spc.u at hu ⊢;rw [Nat.add_mul];omega
   rw [show two ((p+1:Nat):Int) (((p+1:Nat):Int)+(s.sp.wa.length:Int)) (im s.sp.al (gi s.sp.st (i+1) - gi s.sp.st i)) (im s.sp.al (gi s.sp.st (i+1) - gi s.sp.st i)) s.sp.src=alL s.sp i k by unfold alL;rw [if_pos ak,hu,hu2];rfl,List.append_assoc,←hsucc] at hO3
   refine .nil ?_
   refine nB ?_
   exact ⟨H2,_,HLe.refl _,hs,_,_,rfl,hO3⟩
  ·refine .skip ?_
   refine nB ?_
   rw [show alL s.sp i k=[] by unfold alL;rw [if_neg ak],List.append_nil] at hsucc
   exact ⟨H2,_,HLe.refl _,(hs.sb:St H2 w (.blk bm _::en:: .blk b1 _:: .blk b2 _::σf4)),_,_,rfl,by rw [hsucc];exact hO⟩
 ·rintro D H2 σb2 w hle2 ⟨vl,en,rfl,hO⟩ hs
  rw [dc,show s.sp.many=s.sp.st.length*s.sp.wa.length from rfl,nN _ hsm.2.2.1] at hO
  refine nB ?_
  exact Fin.FM [D] [] hs fun w hs=>⟨_,results0 Tryz.results191,H2,vl,en,hle1.trans hle2,hO,(hs.sb:St H2 w (.blk bm _::en::σ))⟩
theorem tK{s:Srv}{ts:List TD}{vst vwa vr vc vt vl:Value}{en:Ent}{bm:Nat}{ls:List Lim}(hs:St H w (.blk bm [I s.sp.id,I s.sp.src,vst,vwa,I s.sp.al,I s.sp.up,vr,vc,vt,vl]::en::σ))(hk:MkK H s ts vst vwa vr vc vt)(hO:cR 4 vl (jn ls) en)(hl:ls.length≤10000)(hok:dr s.sp):
  Cl Tryz.prog 192 [.pointer (some ⟨bm,0,none⟩)] w fun _ w'=>∃H1 vl' en',HLe H H1∧cR 4 vl' (jn (ls++jC (upL s.sp) s.sp.wa.length s.sp.st.length)) en'∧St H1 w' (.blk bm [I s.sp.id,I s.sp.src,vst,vwa,I s.sp.al,I s.sp.up,vr,vc,vt,vl']::en'::σ):=by
 have hsm:=eD hok
 obtain ⟨ast,cst,rfl⟩:=RI.shape hk.st
 obtain ⟨awa,cwa,rfl⟩:=RI.shape hk.wa
 refine Cl.o Tryz.func192 Tryz.ntmps192 ag1 ?_
 refine .ai ?_
 refine .bx hs fun b1 w hs=>?_
 refine .nil (.ai (.y hs (zld oF) (.z znc (.z (zfa cq) (.z (zfa bC) (.y hs (zls [_,_,_,_,_,_] bI aV) ?_))))))
 refine .o (.alloc hs Tryz.zeroValue48 rfl fun b2 w hs=>?_)
 refine .o (.aI (vs:=[_,_,_,_,_,_]) hs rfl rfl aV fun w hs=>?_)
 refine .nil (.ai (.y hs (zls [_,_,_,_,_,_] bI aV) ?_))
 refine .o (.call zp rfl (dO (s:=s.sp) hs hk.st hk.wa ⟨ak,ak⟩) ?_);rintro _ w ⟨H1,ba,hle1,rfl,hit,hs⟩
 refine .nil (.block ?_)
 refine .rangeFunc (gf:=188) (cap:=[.pointer (some ⟨ba,0,none⟩)]) (xs:=s9 s.sp) (σb:=[.blk bm [I s.sp.id,I s.sp.src,.slice ast s.sp.st.length cst,.slice awa s.sp.wa.length cwa,I s.sp.al,I s.sp.up,vr,vc,vt,vl],en,.blk b1 [.pointer (some ⟨bm,0,none⟩)],.blk b2 [I s.sp.id,I s.sp.src,.slice ast s.sp.st.length cst,.slice awa s.sp.wa.length cwa,I s.sp.al,I s.sp.up]]) (σf:=σ) (hs.sb) trivial rfl hit zo (fun x hx=>by
   simp only [s9,List.mem_map] at hx
   obtain ⟨j,_,rfl⟩:=hx;rfl) rfl
  (I:=fun p H' σb=>∃vl en,σb=[.blk bm [I s.sp.id,I s.sp.src,.slice ast s.sp.st.length cst,.slice awa s.sp.wa.length cwa,I s.sp.al,I s.sp.up,vr,vc,vt,vl],en,.blk b1 [.pointer (some ⟨bm,0,none⟩)],.blk b2 [I s.sp.id,I s.sp.src,.slice ast s.sp.st.length cst,.slice awa s.sp.wa.length cwa,I s.sp.al,I s.sp.up]]∧cR 4 vl (jn (ls++nO (upL s.sp) s.sp.wa.length p)) en) (Ix:=fun _ _ _=>False)
  (fun j _ _ σ g1 g2=>g2) (fun _ _ _ _ _ h=>h) ⟨vl,en,rfl,by rw [lI,List.append_nil];exact hO⟩ ?_ ?_ (fun D c H' σb w _ h _=>h.elim)
 ·rintro ly p hp H2 σb2 σf2 w hle2 ⟨vl,en,rfl,hO⟩ hs ⟨rr,hrr⟩
  have hpm:p<s.sp.many:=by rw [dc] at hp;exact hp
  have hsucc:=lJ (upL s.sp) (p:=p) hsm.2.2.1
  have hpl:=gH (wI s.sp) hsm.2.2.1 p
  have hin:p/s.sp.wa.length<s.sp.st.length:=Nat.div_lt_of_lt_mul (by rw [Nat.mul_comm];exact hpm)
  have hkm:=Nat.mod_lt p hsm.2.2.1
  have hdm:=Nat.div_add_mod p s.sp.wa.length
  rw [Nat.mul_comm] at hdm
  have hu:(s.sp.u (p/s.sp.wa.length) (p%s.sp.wa.length):Int)=(p:Int)+1:=by unfold Spc.u;omega
  rw [jX hp]
  obtain ⟨al,ll,cl,rfl,hll⟩:=hO.shape
  generalize p/s.sp.wa.length=i at*
  generalize p%s.sp.wa.length=k at*
  have hk2:=hk.mono (hle1.trans hle2)
  refine .region ?_
  refine .o (.alloc hs iz rfl fun b3 w hs=>?_)
  refine .o (.aI (vs:=[_,_,_]) hs rfl rfl mg fun w hs=>?_)
  refine .nil ?_
  refine nT ?_
  refine ⟨H2,[.blk b3 [I (i:Int),I (k:Int),I ((p+1:Nat):Int)],.blk bm [I s.sp.id,I s.sp.src,.slice ast s.sp.st.length cst,.slice awa s.sp.wa.length cwa,I s.sp.al,I s.sp.up,vr,vc,vt,.slice al ll cl],en,.blk b1 [.pointer (some ⟨bm,0,none⟩)],.blk b2 [I s.sp.id,I s.sp.src,.slice ast s.sp.st.length cst,.slice awa s.sp.wa.length cwa,I s.sp.al,I s.sp.up]],HLe.refl _,hs,?_⟩;rintro w σf4 - hs
  refine .block (.ai (.z (zfa bN) (.y hs (zld ae) (.z dP (.z (zfa bF) (.y hs (zld aq) (.z (dp af) (.z kM (.nil ?_)))))))))
  refine (.cz rfl (fun hc19=>?_) (fun hc19=>?_))
  ·refine .seq (.draw mix rfl hs fun w hs=>?_)
   refine .z 0 rfl (zfa gz) ?_;refine .z 1 rfl (zfa nX) ?_;refine .y 2 rfl hs ae ?_;refine .z 3 rfl (zfa bF) ?_;refine .y 4 rfl hs aq ?_;refine .z 5 rfl (zfa bN) ?_;refine .y 6 rfl hs ae ?_;refine .z 7 rfl dP ?_
   have hris:=hok.wa.rise k ak
   have hq0:=hok.wa.bd (i:=k) ak
   have hq1:=hok.wa.bd (i:=k+1) ak
   have hal:=hok.up
   refine .ixX (enc:=fun x=>[I x]) (i:=8) hs rfl an .none hk2.wa rfl rfl af aj (bE (l:=s.sp.wa) (i:=(k+1)) ak) cU ?_;intro b28 o28 hc28;replace hc28:=bH.one hc28
   refine .r (i:=9) hs rfl an .none (a6 rfl ae hc28) ?_
   refine .z 10 rfl (zfa bF) ?_;refine .y 11 rfl hs aq ?_;refine .z 12 rfl (zfa bN) ?_;refine .y 13 rfl hs ae ?_
   refine .ixX (enc:=fun x=>[I x]) (i:=14) hs rfl an .none hk2.wa rfl rfl af aj (bE (l:=s.sp.wa) (i:=k) ak) cU ?_;intro b34 o34 hc34;replace hc34:=bH.one hc34
   refine .r (i:=15) hs rfl an .none (a6 rfl ae hc34) ?_
   refine .z 16 rfl fu ?_
   refine .E 17 hs ?_
   refine .call Tryz.call243 rfl (jB hs ak ak) ?_;rintro _ w ⟨rfl,hs⟩
   refine .go ?_
   refine .z 18 rfl zg ?_;refine .D hs ?_
   refine .region (.y hs (zld oF) (.z (zfa dk) (.y hs (zld ae) (.z (zfa dk) (.y hs (zld ae) (.z dP (.z zm (.z zm (.z (zfa fi) ?_)))))))))
   refine .y hs (zld ae) ?_
   refine .o (.call zk rfl (eI (ls:=ls++nO (upL s.sp) s.sp.wa.length p) (hs.sb:St H2 w (.blk bm _::en:: .blk b1 _:: .blk b2 _::σf4)) hO (by rw [List.length_append];omega)) ?_);rintro _ w ⟨vl3,en3,hO3,hs⟩
   have hu2:(s.sp.u i (k+1):Int)=((p+1:Nat):Int)+1:=by unfold Spc.u at hu ⊢;omega
   rw [show two ((p+1:Nat):Int) (((p+1:Nat):Int)+1) (im s.sp.up (gi s.sp.wa (k+1) - gi s.sp.wa k)) (im s.sp.up (gi s.sp.wa (k+1) - gi s.sp.wa k)) s.sp.src=upL s.sp i k by unfold upL;rw [if_pos ak,hu,hu2];rfl,List.append_assoc,←hsucc] at hO3
   refine .nil ?_
   refine nB ?_
   exact ⟨H2,_,HLe.refl _,hs,_,_,rfl,hO3⟩
  ·refine .skip ?_
   refine nB ?_
   rw [show upL s.sp i k=[] by unfold upL;rw [if_neg ak],List.append_nil] at hsucc
   exact ⟨H2,_,HLe.refl _,(hs.sb:St H2 w (.blk bm _::en:: .blk b1 _:: .blk b2 _::σf4)),_,_,rfl,by rw [hsucc];exact hO⟩
 ·rintro D H2 σb2 w hle2 ⟨vl,en,rfl,hO⟩ hs
  rw [dc,show s.sp.many=s.sp.st.length*s.sp.wa.length from rfl,nN _ hsm.2.2.1] at hO
  refine nB ?_
  exact Fin.FM [D] [] hs fun w hs=>⟨_,results0 Tryz.results192,H2,vl,en,hle1.trans hle2,hO,(hs.sb:St H2 w (.blk bm _::en::σ))⟩
theorem pb{s:Srv}{ts:List TD}{vst vwa vr vc vt vl:Value}{en:Ent}{bm:Nat}{ls:List Lim}(hs:St H w (.blk bm [I s.sp.id,I s.sp.src,vst,vwa,I s.sp.al,I s.sp.up,vr,vc,vt,vl]::en::σ))(hk:MkK H s ts vst vwa vr vc vt)(hO:cR 4 vl (jn ls) en)(hl:ls.length≤10000)(hok:dr s.sp)(htl:ts.length≤100):
  Cl Tryz.prog 193 [.pointer (some ⟨bm,0,none⟩)] w fun _ w'=>∃H1 vl' en',HLe H H1∧cR 4 vl' (jn (ls++zt s.sp ts.length)) en'∧St H1 w' (.blk bm [I s.sp.id,I s.sp.src,vst,vwa,I s.sp.al,I s.sp.up,vr,vc,vt,vl']::en'::σ):=by
 have hsm:=eD hok
 obtain ⟨at_,ct,rfl⟩:=RTd.shape hk.ts
 refine Cl.o Tryz.func193 Tryz.ntmps193 ag1 ?_
 refine .ai (.z zm (.z znc (.z (zfa dR) (.y hs (zld Ep) (.z (dp cB) (.z zm (.nil ?_)))))))
 refine .for (N:=ts.length) (J:=fun j fr w=>fr=[(0,.pointer (some ⟨bm,0,none⟩))]∧∃vl en,cR 4 vl (jn (ls++zt s.sp j)) en∧St H w (.blk bm [I s.sp.id,I s.sp.src,vst,vwa,I s.sp.al,I s.sp.up,vr,vc,.slice at_ ts.length ct,vl]::en::σ)) ak ?_ ?_ ?_
 ·exact .mk ⟨rfl,vl,en,by show cR 4 vl (jn (ls++[])) en;rw [List.append_nil];exact hO,hs⟩
 ·rintro j fr w hj ⟨rfl,vl,en,hO,hs⟩
  have hel:=gx s.sp j
  obtain ⟨al,ll,cl,rfl,hll⟩:=hO.shape
  refine .block (.ai (.z zm (.z zg (.nil ?_))))
  refine .draw mix rfl hs fun w hs=>?_
  refine .z 0 rfl zm ?_;refine .z 1 rfl zm ?_;refine .z 2 rfl zm ?_;refine .z 4 rfl zm ?_;refine .z 5 rfl znc ?_;refine .z 6 rfl (zfa cq) ?_;refine .z 7 rfl (zfa bC) ?_;refine .z 8 rfl (zfa fi) ?_;refine .y 9 rfl hs ae ?_
  refine .E 3 hs ?_
  refine .call Tryz.call244 rfl (iJ (s:=s.sp) hs .here hk.st hk.wa ⟨ak,ak⟩ ⟨ak,ak⟩) ?_;rintro _ w ⟨rfl,hs⟩
  refine .go ?_
  refine .E 10 hs ?_
  refine .call zk rfl (eI (ls:=ls++zt s.sp j) hs hO (by rw [List.length_append];omega)) ?_;rintro _ w ⟨vl3,en3,hO3,hs⟩
  rw [show (s.sp.many:Int)+1+(j:Int)=((s.sp.many+1+j:Nat):Int) by omega,List.append_assoc] at hO3
  refine .go ?_
  refine .D hs ?_
  refine nB (nT ?_)
  exact .mk ⟨rfl,vl3,en3,hO3,hs⟩
 ·rintro fr w ⟨rfl,vl,en,hO,hs⟩
  exact Fin.vR Tryz.results193 ⟨H,vl,en,HLe.refl _,hO,hs⟩
set_option maxHeartbeats 1000000 in
theorem mY{s:Srv}{ts:List TD}{vst vwa vr vc vt vl:Value}{en:Ent}{bm:Nat}{ls:List Lim}(hs:St H w (.blk bm [I s.sp.id,I s.sp.src,vst,vwa,I s.sp.al,I s.sp.up,vr,vc,vt,vl]::en::σ))(hk:MkK H s ts vst vwa vr vc vt)(hO:cR 4 vl (jn ls) en)(hl:ls.length≤10000)(hok:dr s.sp)(htl:ts.length≤100)(hcl:s.cs.length≤20)(hc:∀c∈s.cs,wj c){j0:Nat}(hj0:j0≤ts.length):
  Cl Tryz.prog 245 [.pointer (some ⟨bm,0,none⟩),I (j0:Int)] w fun _ w'=>∃H1 vl' en',HLe H H1∧cR 4 vl' (jn (ls++sh s.sp ts s.cs j0 s.cs.length)) en'∧St H1 w' (.blk bm [I s.sp.id,I s.sp.src,vst,vwa,I s.sp.al,I s.sp.up,vr,vc,vt,vl']::en'::σ):=by
 have hsm:=eD hok
 obtain ⟨at_,ct,rfl⟩:=RTd.shape hk.ts
 obtain ⟨ac,cc,rfl⟩:=RCm.shape hk.cs
 refine Cl.o Tryz.func245 Tryz.ntmps245 ag2 ?_
 refine .ai (.z zm (.z znc (.z (zfa cq) (.z (zfa iN) (.y hs (zld Tryz.isAgg50) (.z (dp iW) (.z zm (.nil ?_))))))))
 refine .for (N:=s.cs.length) (J:=fun i fr w=>fr=[(12,.slice ac s.cs.length cc),(0,.pointer (some ⟨bm,0,none⟩)),(1,I (j0:Int))]∧∃vl en,cR 4 vl (jn (ls++sh s.sp ts s.cs j0 i)) en∧St H w (.blk bm [I s.sp.id,I s.sp.src,vst,vwa,I s.sp.al,I s.sp.up,vr,.slice ac s.cs.length cc,.slice at_ ts.length ct,vl]::en::σ)) ak ?_ ?_ ?_
 ·exact .mk ⟨rfl,vl,en,by show cR 4 vl (jn (ls++[])) en;rw [List.append_nil];exact hO,hs⟩
 ·rintro i fr w hi ⟨rfl,vl,en,hO,hs⟩
  obtain ⟨c,hx⟩:=nth hi
  obtain ⟨g1,g2,g3,g4,g5,g6⟩:=hc c (List.mem_of_getElem? hx)
  have hcl1:=jT s.sp ts s.cs j0 i
  have hcl2:i*(2*(ts.length - j0))≤20*(2*100):=Nat.mul_le_mul ak ak
  refine .block (.ai ?_)
  refine .ixX (enc:=Cmp.c) hs hk.cs rfl rfl iW iU hx cU ?_;intro b16 o16 hc16
  refine .q hs (bG (vs:=(Cmp.c c)) rfl Tryz.isAgg153 iU hc16) ?_
  refine .o (.alloc hs GN rfl fun b5 w hs=>?_)
  refine .o (.aI (vs:=c.c) hs rfl rfl iU fun w hs=>?_)
  replace hs:St H w (.blk bm [I s.sp.id,I s.sp.src,vst,vwa,I s.sp.al,I s.sp.up,vr,.slice ac s.cs.length cc,.slice at_ ts.length ct,vl]::en:: .blk b5 [I c.src,I c.tape,I c.fr,I c.to,I c.lo,I c.hi]::σ):=hs.sb
  refine .nil (.ai (.z zm (.z zg (.nil (.block ?_)))))
  refine .loop (fun j:Nat=>⟨62,[],[(6,I ((j0+j:Nat):Int)),(5,.pointer (some ⟨b5,0,none⟩)),(14,I (i:Int)),(13,I (s.cs.length:Int)),(12,.slice ac s.cs.length cc),(0,.pointer (some ⟨bm,0,none⟩)),(1,I (j0:Int))]⟩)
   (fun j w=>j0+j≤ts.length∧∃vl en,cR 4 vl (jn (ls++sh s.sp ts s.cs j0 i++iQ s.sp ts c j0 j)) en∧St H w (.blk bm [I s.sp.id,I s.sp.src,vst,vwa,I s.sp.al,I s.sp.up,vr,.slice ac s.cs.length cc,.slice at_ ts.length ct,vl]::en:: .blk b5 [I c.src,I c.tape,I c.fr,I c.to,I c.lo,I c.hi]::σ)) (fun j=>ts.length - (j0+j)) 0 bS
   ⟨ak,vl,en,by show cR 4 vl (jn (_++[])) en;rw [List.append_nil];exact hO,hs⟩ ?_
  clear hO hs
  rintro j w ⟨hj,vl,en,hO,hs⟩
  have hl1:=lq s.sp ts c j0 j
  obtain ⟨al,ll,cl,rfl,hll⟩:=hO.shape
  refine .seq (.ai (.z zm (.z zm (.z znc (.z (zfa dR) (.y hs (zld Ep) (.z (dp cB) (.z kM (.nil ?_)))))))))
  refine (.cz rfl (fun hc25=>?_) (fun hc25=>?_))
  ·refine .skip ?_
   refine nT ?_
   refine .seq (.block (.ai (.z zm (.z znc (.z (zfa dR) (.y hs (zld Ep) (.z zm ?_)))))))
   obtain ⟨t,ht⟩:=nth (l:=ts) (k:=j0+j) ak
   have ht0:=Ex ht
   refine .ixX (enc:=TD.c) hs hk.ts rfl rfl cB du ht cU ?_;intro b33 o33 hc33
   refine .q hs (bG (vs:=(TD.c t)) rfl wy du hc33) ?_
   refine .o (.alloc hs uI rfl fun b7 w hs=>?_)
   refine .o (.aI (vs:=t.c) hs rfl rfl du fun w hs=>?_)
   change St _ _ (.blk b7 [I t.tape,I t.day]::_) at hs
   refine .nil (.ai (.z (zfa qe) (.y hs (zld ae) (.z (zfa kl) (.y hs (zld ae) (.z iP (.z zm ?_)))))))
   refine .gM (t':=40) rfl (fun hb40=>?_) (fun hb40=>?_)
   ·refine .gT rfl rfl ?_
    refine .z (zfa qd) ?_
    refine .gT rfl rfl ?_
    refine .y hs (zld ae) ?_
    refine .gT rfl rfl ?_
    refine .z (zfa kj) ?_
    refine .gT rfl rfl ?_
    refine .y hs (zld ae) ?_
    refine .gT rfl rfl ?_
    refine .z (zfa gX) ?_
    refine .gT rfl rfl ?_
    refine .y hs (zld ae) ?_
    refine .gT rfl rfl ?_
    refine .o (.call cD rfl (aP hs) ?_);rintro _ w ⟨rfl,hs⟩
    refine .z zpT (.nil ?_)
    refine (.cond rfl (fun hc48=>?_) (fun hc48=>?_))
    ·refine .draw mix rfl hs fun w hs=>?_
     refine .z 0 rfl zm ?_;refine .z 1 rfl zm ?_;refine .z 2 rfl zm ?_;refine .z 4 rfl (zfa ki) ?_;refine .y 5 rfl hs ae ?_;refine .z 6 rfl CL ?_;refine .z 7 rfl (zfa gW) ?_;refine .y 8 rfl hs ae ?_;refine .z 9 rfl (zfa km) ?_;refine .y 10 rfl hs ae ?_
     refine .E 3 hs ?_
     refine .call Tryz.call244 rfl (iJ (s:=s.sp) hs (.there .here) hk.st hk.wa ⟨ak,ak⟩ ⟨ak,ak⟩) ?_;rintro _ w ⟨rfl,hs⟩
     refine .go ?_
     refine .E 11 hs ?_
     refine .call zk rfl (eI (ls:=ls++sh s.sp ts s.cs j0 i++iQ s.sp ts c j0 j) (hs.tail:St H w (.blk bm _::en:: .blk b5 _::σ)) hO (by rw [List.length_append,List.length_append];omega)) ?_;rintro _ w ⟨vl3,en3,hO3,hs⟩
     refine .go ?_
     refine .D hs ?_
     refine nB (nT ?_)
     refine .region (.z zm (.z dP (.z zg (.nil ?_))))
     refine nT ?_
     have e:iQ s.sp ts c j0 (j+1)=iQ s.sp ts c j0 j++two 0 ((s.sp.many:Int)+1+((j0+j:Nat):Int)) (-c.lo) c.hi c.src:=by
      show _++mH c (td0 ts (j0+j)) _=_
      rw [ht0];unfold mH;rw [if_pos (by simp at hc48;omega)]
      rw [show ((s.sp.many+1+(j0+j):Nat):Int)=(s.sp.many:Int)+1+((j0+j:Nat):Int) by omega]
     rw [List.append_assoc _ (iQ _ _ _ _ _),←e] at hO3
     exact ⟨j+1,.eP rfl (by simp;omega) bS,⟨ak,vl3,en3,hO3,hs⟩,ak⟩
    ·refine .skip ?_
     refine nB (nT ?_)
     refine .region (.z zm (.z dP (.z zg (.nil ?_))))
     refine nT ?_
     have e:iQ s.sp ts c j0 (j+1)=iQ s.sp ts c j0 j:=by
      show _++mH c (td0 ts (j0+j)) _=_
      rw [ht0];unfold mH;rw [if_neg (by simp at hc48;omega),List.append_nil]
     exact ⟨j+1,.eP rfl (by simp;omega) bS,⟨ak,_,en,by rw [e];exact hO,hs.tail⟩,ak⟩
   ·refine .gFs 7 5 true rfl rfl rfl ?_
    refine .z zpF (.nil ?_)
    refine (.cF ?_)
    refine .skip ?_
    refine nB (nT ?_)
    refine .region (.z zm (.z dP (.z zg (.nil ?_))))
    refine nT ?_
    have e:iQ s.sp ts c j0 (j+1)=iQ s.sp ts c j0 j:=by
     show _++mH c (td0 ts (j0+j)) _=_
     rw [ht0];unfold mH;rw [if_neg ak,List.append_nil]
    exact ⟨j+1,.eP rfl (by simp;omega) bS,⟨ak,_,en,by rw [e];exact hO,hs.tail⟩,ak⟩
  ·refine .exit ?_
   refine xT (xT (xB (nB (nT ?_))))
   obtain rfl:j=ts.length - j0:=by omega
   rw [List.append_assoc,show sh s.sp ts s.cs j0 i++iQ s.sp ts c j0 (ts.length - j0)=sh s.sp ts s.cs j0 (i+1) by rw [←DN hx];rfl] at hO
   exact .mk ⟨rfl,_,en,hO,hs.sb⟩
 ·rintro fr w ⟨rfl,vl,en,hO,hs⟩
  exact Fin.vR Tryz.results245 ⟨H,vl,en,HLe.refl _,hO,hs⟩
theorem kJ{s:Srv}{ts:List TD}{vst vwa vr vc vt vl:Value}{en:Ent}{bm:Nat}{ls:List Lim}(hs:St H w (.blk bm [I s.sp.id,I s.sp.src,vst,vwa,I s.sp.al,I s.sp.up,vr,vc,vt,vl]::en::σ))(hk:MkK H s ts vst vwa vr vc vt)(hO:cR 4 vl (jn ls) en)(hl:ls.length≤10000)(hok:dr s.sp)(htl:ts.length≤100)(hcl:s.cs.length≤20)(hc:∀c∈s.cs,wj c):
  Cl Tryz.prog 194 [.pointer (some ⟨bm,0,none⟩)] w fun _ w'=>∃H1 vl' en',HLe H H1∧cR 4 vl' (jn (ls++sh s.sp ts s.cs 0 s.cs.length)) en'∧St H1 w' (.blk bm [I s.sp.id,I s.sp.src,vst,vwa,I s.sp.al,I s.sp.up,vr,vc,vt,vl']::en'::σ):=by
 refine Cl.o Tryz.func194 Tryz.ntmps194 ag1 ?_
 refine .region (.z zm ?_)
 refine .o (.call Tryz.call245 rfl (mY (s:=s) (ts:=ts) (j0:=0) hs hk hO hl hok htl hcl hc ak) ?_);rintro _ w hs
 refine .nil ?_
 exact Fin.vR Tryz.results194 hs
set_option maxHeartbeats 1000000 in
theorem mX{s:Srv}{ts:List TD}{vst vwa vr vc vt vl:Value}{en:Ent}{bm:Nat}{ls:List Lim}(hs:St H w (.blk bm [I s.sp.id,I s.sp.src,vst,vwa,I s.sp.al,I s.sp.up,vr,vc,vt,vl]::en::σ))(hk:MkK H s ts vst vwa vr vc vt)(hO:cR 4 vl (jn ls) en)(hl:ls.length≤10000)(hok:dr s.sp)(htl:ts.length≤100)(hrl:s.rs.length≤60)(hr:∀r∈s.rs,iR s.sp r)(hmem:∀r∈s.rs,r.td∈ts):
  Cl Tryz.prog 195 [.pointer (some ⟨bm,0,none⟩)] w fun _ w'=>∃H1 vl' en',HLe H H1∧cR 4 vl' (jn (ls++xJ s.sp ts s.rs s.rs.length)) en'∧St H1 w' (.blk bm [I s.sp.id,I s.sp.src,vst,vwa,I s.sp.al,I s.sp.up,vr,vc,vt,vl']::en'::σ):=by
 have hsm:=eD hok
 obtain ⟨at_,ct,rfl⟩:=RTd.shape hk.ts
 obtain ⟨ar,cr,rfl⟩:=RRd.shape hk.rs
 refine Cl.o Tryz.func195 Tryz.ntmps195 ag1 ?_
 refine .ai (.z zm (.z znc (.z (zfa cq) (.z (zfa fR) (.y hs (zld Tryz.isAgg49) (.z (dp eg) (.z zm (.nil ?_))))))))
 refine .for (N:=s.rs.length) (J:=fun i fr w=>fr=[(9,.slice ar s.rs.length cr),(0,.pointer (some ⟨bm,0,none⟩))]∧∃vl en,cR 4 vl (jn (ls++xJ s.sp ts s.rs i)) en∧St H w (.blk bm [I s.sp.id,I s.sp.src,vst,vwa,I s.sp.al,I s.sp.up,.slice ar s.rs.length cr,vc,.slice at_ ts.length ct,vl]::en::σ)) ak ?_ ?_ ?_
 ·exact .mk ⟨rfl,vl,en,by show cR 4 vl (jn (ls++[])) en;rw [List.append_nil];exact hO,hs⟩
 ·rintro i fr w hi ⟨rfl,vl,en,hO,hs⟩
  obtain ⟨r,hx⟩:=nth hi
  obtain ⟨g1,g2,g3,g4,g5,g6,g7⟩:=hr r (List.mem_of_getElem? hx)
  obtain ⟨k,k1,k2,k3⟩:=fM (hmem r (List.mem_of_getElem? hx))
  have hrl1:=gv s.sp ts s.rs i
  obtain ⟨al,ll,cl,rfl,hll⟩:=hO.shape
  refine .block (.ai ?_)
  refine .ixX (enc:=Rdg.c) hs hk.rs rfl rfl eg df hx cU ?_;intro b13 o13 hc13
  refine .q hs (bG (vs:=(Rdg.c r)) rfl oI df hc13) ?_
  refine .o (.alloc hs uK rfl fun b3 w hs=>?_)
  refine .o (.aI (vs:=r.c) hs rfl rfl df fun w hs=>?_)
  change St _ _ (.blk b3 [I r.src,I r.st,I r.wa,I r.val,I r.tol,I r.tape,I r.day]::_) at hs
  refine .nil ?_
  refine .seq (.draw mix rfl hs fun w hs=>?_)
  refine .z 0 rfl zm ?_;refine .z 1 rfl znc ?_;refine .z 2 rfl (zfa dR) ?_;refine .y 3 rfl hs Ep ?_;refine .ys 4 rfl hs [_,_,_,_,_,_,_] oI df ?_
  refine .E 5 hs ?_
  refine .call Tryz.call241 rfl (fA hs) ?_;rintro _ w ⟨rfl,hs⟩
  refine .go ?_
  refine .E 6 hs ?_
  refine .call Tryz.call246 rfl (qU (t:=r.td) hs hk.ts ak) ?_;rintro _ w ⟨rfl,hs⟩
  refine .go ?_
  refine .z 7 rfl zg ?_;refine .D hs ?_
  refine .draw mix rfl hs fun w hs=>?_
  refine .z 0 rfl zm ?_;refine .z 1 rfl zm ?_;refine .z 2 rfl zm ?_;refine .z 4 rfl zm ?_;refine .z 5 rfl znc ?_;refine .z 6 rfl (zfa cq) ?_;refine .z 7 rfl (zfa bC) ?_;refine .ys 8 rfl hs [_,_,_,_,_,_] bI aV ?_;refine .z 9 rfl (zfa kg) ?_;refine .y 10 rfl hs ae ?_
  refine .z 11 rfl (zfa kf) ?_;refine .y 12 rfl hs ae ?_;refine .z 14 rfl (zfa gV) ?_;refine .y 15 rfl hs ae ?_;refine .z 16 rfl (zfa fp) ?_;refine .y 17 rfl hs ae ?_;refine .z 18 rfl dP ?_;refine .z 19 rfl (zfa fp) ?_;refine .y 20 rfl hs ae ?_;refine .z 21 rfl (zfa gV) ?_
  refine .y 22 rfl hs ae ?_;refine .z 23 rfl fu ?_;refine .z 24 rfl (zfa kh) ?_;refine .y 25 rfl hs ae ?_
  refine .E 3 hs ?_
  refine .call Tryz.call244 rfl (iJ (s:=s.sp) hs (.there .here) hk.st hk.wa ⟨ak,ak⟩ ⟨ak,ak⟩) ?_;rintro _ w ⟨rfl,hs⟩
  refine .go ?_
  refine .E 13 hs ?_
  refine .call Tryz.call247 rfl (lT (s:=s.sp) hs hk.wa ak ⟨ak,ak⟩ ⟨ak,ak⟩) ?_;rintro _ w ⟨rfl,hs⟩
  refine .go ?_
  refine .E 26 hs ?_
  refine .call zk rfl (eI (ls:=ls++xJ s.sp ts s.rs i) (hs.sb:St H w (.blk bm _::en:: .blk b3 _::σ)) hO (by rw [List.length_append];omega)) ?_;rintro _ w ⟨vl3,en3,hO3,hs⟩
  refine .go ?_
  refine .D hs ?_
  refine nB (nT ?_)
  rw [List.append_assoc,show xJ s.sp ts s.rs i++two ((s.sp.many:Int)+1+mJ ts r.td) (1+r.st*s.sp.wa.length+r.wa) (r.val+r.tol) (r.tol - r.val) r.src=xJ s.sp ts s.rs (i+1) by rw [←Dl hx];rfl] at hO3
  exact .mk ⟨rfl,vl3,en3,hO3,hs.sb⟩
 ·rintro fr w ⟨rfl,vl,en,hO,hs⟩
  exact Fin.vR Tryz.results195 ⟨H,vl,en,HLe.refl _,hO,hs⟩
def fnK:Nat→Nat
 |0=>190
 |1=>191
 |2=>192
 |3=>193
 |4=>194
 |_=>195
theorem Cy{k:Nat}(hk:k<6):∀args w,(callFunc (fnK k) args).run Tryz.prog w= .ok (.enter (fnK k) args) w:=by
 have h:k=0∨k=1∨k=2∨k=3∨k=4∨k=5:=by omega
 rcases h with rfl|rfl|rfl|rfl|rfl|rfl
 ·exact Tryz.call190
 ·exact Tryz.call191
 ·exact Tryz.call192
 ·exact Tryz.call193
 ·exact Tryz.call194
 ·exact Tryz.call195
theorem Am{s:Srv}{vst vwa vr vc vt vl:Value}{en:Ent}{bm k:Nat}(hs:St H w (.blk bm [I s.sp.id,I s.sp.src,vst,vwa,I s.sp.al,I s.sp.up,vr,vc,vt,vl]::en::σ))(hk:MkK H s s.bn vst vwa vr vc vt)(hO:cR 4 vl (jn (s.parts k)) en)(he:s.early)(hk6:k<6):
  Cl Tryz.prog (fnK k) [.pointer (some ⟨bm,0,none⟩)] w fun _ w'=>∃H1 vl' en',HLe H H1∧cR 4 vl' (jn (s.parts (k+1))) en'∧St H1 w' (.blk bm [I s.sp.id,I s.sp.src,vst,vwa,I s.sp.al,I s.sp.up,vr,vc,vt,vl']::en'::σ):=by
 have hl:=kT he k ak
 obtain ⟨hok,h1,h2,h3,h4⟩:=he
 have htl:s.bn.length≤100:=by have:=eH s.rs;unfold Srv.bn;omega
 have h:k=0∨k=1∨k=2∨k=3∨k=4∨k=5:=by omega
 rcases h with rfl|rfl|rfl|rfl|rfl|rfl
 ·exact mZ hs hk hO (Nat.le_trans hl ef) hok
 ·exact qc hs hk hO (Nat.le_trans hl ef) hok
 ·exact tK hs hk hO (Nat.le_trans hl ef) hok
 ·exact pb hs hk hO (Nat.le_trans hl ef) hok htl
 ·exact kJ hs hk hO (Nat.le_trans hl ef) hok htl h2 h4
 ·exact mX hs hk hO (Nat.le_trans hl ef) hok htl h1 h3 fun r hr=>eU.2 ⟨r,hr,rfl⟩
def fnV(b:Nat)(k:Nat):Value:= .func (.func (fnK k)) #[.pointer (some ⟨b,0,none⟩)] #[]
theorem DD(b:Nat){k:Nat}(hk:k<6):[fnV b 0,fnV b 1,fnV b 2,fnV b 3,fnV b 4,fnV b 5][k]? =some (fnV b k):=by
 have h:k=0∨k=1∨k=2∨k=3∨k=4∨k=5:=by omega
 rcases h with rfl|rfl|rfl|rfl|rfl|rfl<;>rfl
set_option maxHeartbeats 1000000 in
theorem nH{s:Srv}{vst vwa vr vc:Value}(hs:St H w σ)(h1:RI H vst s.sp.st)(h2:RI H vwa s.sp.wa)(h3:RRd H vr s.rs)(h4:RCm H vc s.cs)(he:s.early):
  Cl Tryz.prog 133 [.agg #[I s.sp.id,I s.sp.src,vst,vwa,I s.sp.al,I s.sp.up,vr,vc]] w fun u w'=>∃H1 vl en,HLe H H1∧u= .agg #[I s.sys.many,vl]∧cR 4 vl (jn s.bD) en∧St H1 w' (en::σ):=by
 have hsm:=eD he.1
 have htl:s.bn.length≤60:=by have:=eH s.rs;have:=he.2.1;unfold Srv.bn;omega
 refine Cl.o Tryz.func133 Tryz.ntmps133 ag1 ?_
 refine .ai ?_
 refine .bx hs fun b1 w hs=>?_
 refine .o (.alloc hs ez rfl fun b2 w hs=>?_)
 refine .nil ?_
 refine .seq (.draw mix rfl hs fun w hs=>?_)
 refine .ys 0 rfl hs [_,_,_,_,_,_,_,_] aS aF ?_;refine .ys 1 rfl hs [_,_,_,_,_,_,_,_] aS aF ?_
 refine .E 2 hs ?_
 refine .call Tryz.call189 rfl (nG hs h3 (by have:=he.2.1;omega)) ?_;rintro v8 w ⟨H1,hle1,hT,hs⟩
 obtain ⟨at_,ct,rfl⟩:=RTd.shape hT
 have hk0:MkK H1 s s.bn vst vwa vr vc (.slice at_ s.bn.length ct):=⟨h1.mono hle1,h2.mono hle1,h3.mono hle1,h4.mono hle1,hT⟩
 refine .go ?_
 refine .z 3 rfl (zbd (vs:=[(0,.agg #[I s.sp.id,I s.sp.src,vst,vwa,I s.sp.al,I s.sp.up,vr,vc]),(1,.slice at_ s.bn.length ct)]) [I s.sp.id,I s.sp.src,vst,vwa,I s.sp.al,I s.sp.up,vr,vc,.slice at_ s.bn.length ct,.slice none 0 0] px rfl an) ?_
 refine .E 4 hs ?_
 refine .box hs rfl rfl ?_;intro b10 w hs
 refine .go ?_
 refine .z 5 rfl zg ?_;refine .D hs ?_
 refine .seq (.ai (.z zm ?_))
 refine .q hs (bX (f:=[_]) (c:=[]) rfl rfl) ?_
 refine .z zm ?_
 refine .q hs (bX (f:=[_]) (c:=[]) rfl rfl) ?_
 refine .z zm ?_
 refine .q hs (bX (f:=[_]) (c:=[]) rfl rfl) ?_
 refine .z zm ?_
 refine .q hs (bX (f:=[_]) (c:=[]) rfl rfl) ?_
 refine .z zm ?_
 refine .q hs (bX (f:=[_]) (c:=[]) rfl rfl) ?_
 refine .z zm ?_
 refine .q hs (bX (f:=[_]) (c:=[]) rfl rfl) ?_
 refine .o (.buildSlice (cells:=[fnV b10 0,fnV b10 1,fnV b10 2,fnV b10 3,fnV b10 4,fnV b10 5]) hs uh rfl an fun b23 w hs=>?_)
 refine .z (dp Tryz.runUnderlying247) ?_
 refine .z zm (.nil ?_)
 refine .for (N:=6) (J:=fun k fr w=>fr=[(23,.slice (some ⟨b23,0,none⟩) 6 6),(3,.pointer (some ⟨b10,0,none⟩)),(2,.pointer (some ⟨b2,0,none⟩)),(1,.pointer (some ⟨b1,0,none⟩))]∧∃H2 vl en,HLe H1 H2∧cR 4 vl (jn (s.parts k)) en∧St H2 w (.blk b10 [I s.sp.id,I s.sp.src,vst,vwa,I s.sp.al,I s.sp.up,vr,vc,.slice at_ s.bn.length ct,vl]::en:: .blk b23 [fnV b10 0,fnV b10 1,fnV b10 2,fnV b10 3,fnV b10 4,fnV b10 5]:: .blk b2 [I 0,.slice none 0 0]:: .blk b1 [I s.sp.id,I s.sp.src,vst,vwa,I s.sp.al,I s.sp.up,vr,vc]::σ)) ak ?_ ?_ ?_
 ·exact .mk ⟨rfl,H1,.slice none 0 0,.nul,HLe.refl _,.nil 4 none,hs.nul.sb⟩
 ·rintro k fr w hk ⟨rfl,H2,vl,en,hle2,hO,hs⟩
  refine .block (.ai ?_)
  refine .z (zix Tryz.runUnderlying247 Tryz.sizeOf1) ?_
  refine .q hs (iD rfl Tryz.isAgg1 (hv:=DD b10 hk)) ?_
  refine .z zg (.nil (.region (.z zm ?_)))
  refine .o (.lZ (first:=[.pointer (some ⟨b10,0,none⟩)]) (cap:=[]) rfl rfl (Cy hk) (Am hs (hk0.mono hle2) hO he hk) ?_);rintro _ w ⟨H3,vl3,en3,hle3,hO3,hs⟩
  refine .nil ?_
  refine nB (nT ?_)
  exact .mk ⟨rfl,H3,vl3,en3,hle2.trans hle3,hO3,hs⟩
 ·rintro fr w ⟨rfl,H2,vl,en,hle2,hO,hs⟩
  rw [s.wV] at hO
  obtain ⟨al,ll,cl,rfl,hll⟩:=hO.shape
  refine nT ?_
  refine .seq (.draw mix rfl hs fun w hs=>?_)
  refine .z 0 rfl (zfa bC) ?_;refine .ys 1 rfl hs [_,_,_,_,_,_] bI aV ?_;refine .z 3 rfl zm ?_;refine .z 4 rfl znc ?_;refine .z 5 rfl (zfa dR) ?_;refine .y 6 rfl hs Ep ?_;refine .z 7 rfl (dp cB) ?_;refine .z 9 rfl zm ?_;refine .z 10 rfl znc ?_;refine .z 11 rfl (zfa fO) ?_
  refine .y 12 rfl hs dw ?_
  refine .E 2 hs ?_
  refine .call Tryz.call196 rfl (jA (s:=s.sp) hs (h1.mono (hle1.trans hle2)) (h2.mono (hle1.trans hle2)) ⟨ak,ak⟩) ?_;rintro _ w ⟨rfl,hs⟩
  refine .go ?_
  refine .z 8 rfl dP ?_;refine .z 13 rfl (zbd [_,_] my) ?_
  refine .E 14 hs ?_
  refine .aI (vs:=[_,_]) hs rfl rfl aC ?_;intro w hs
  refine .go ?_
  refine .D hs ?_
  refine .ret ?_
  replace hs:St H2 w (.blk b2 [I ((s.sp.many:Int)+(s.bn.length:Int)),.slice al ll cl]::en::σ):=hs.sb
  exact Fin.gQ [] [] hs fun w hs=>⟨_,results1 Tryz.results133 (dB (vs:=[_,_]) hs rfl bh aC),H2,_,en,hle1.trans hle2,by show _=Value.agg #[I ((s.sp.many+s.bn.length:Nat):Int),_];rw [Int.natCast_add],hO,hs.tail⟩
theorem dE{s:Srv}{vst vwa vr vc:Value}(hs:St H w σ)(h1:RI H vst s.sp.st)(h2:RI H vwa s.sp.wa)(h3:RRd H vr s.rs)(h4:RCm H vc s.cs)(he:s.early):
  Cl Tryz.prog 133 [.agg #[I s.sp.id,I s.sp.src,vst,vwa,I s.sp.al,I s.sp.up,vr,vc]] w fun u w'=>∃H1,HLe H H1∧RSy H1 u s.sys∧St H1 w' σ:=by
 refine (nH hs h1 h2 h3 h4 he).mono ?_
 rintro u w' ⟨H1,vl,en,hle,rfl,hO,hs⟩
 have hl:=kT he 6 ak
 rw [s.wV] at hl
 obtain ⟨H2,hle2,hR,hs⟩:=cR.ck (m:=4) (cs:=s.bD.map Lim.c) hO (fun c hc=>by simp only [List.mem_map] at hc;obtain ⟨x,_,rfl⟩:=hc;rfl) ak (by rw [List.length_map];omega) hs .here
 exact ⟨H2,hle.trans hle2,⟨vl,rfl,hR⟩,hs⟩
set_option maxHeartbeats 1000000 in
theorem dQ{s:Srv}{vst vwa vr vc:Value}(hs:St H w σ)(h1:RI H vst s.sp.st)(h2:RI H vwa s.sp.wa)(h3:RRd H vr s.rs)(h4:RCm H vc s.cs):
  Cl Tryz.prog 117 [.agg #[I s.sp.id,I s.sp.src,vst,vwa,I s.sp.al,I s.sp.up,vr,vc]] w fun u w'=>∃H1 e,HLe H H1∧u=I e∧pO s e∧St H1 w' σ:=by
 obtain ⟨ast,cst,rfl⟩:=RI.shape h1
 obtain ⟨awa,cwa,rfl⟩:=RI.shape h2
 obtain ⟨ar,cr,rfl⟩:=RRd.shape h3
 obtain ⟨ac,cc,rfl⟩:=RCm.shape h4
 refine Cl.o Tryz.func117 Tryz.ntmps117 ag1 ?_
 refine .ai ?_
 refine .bx hs fun b1 w hs=>?_
 refine .z zg (.nil (.seq (.ai (.z (zfa bC) (.y hs (zls [_,_,_,_,_,_] bI aV) ?_)))))
 refine .o (.call Tryz.call111 rfl (fN (s:=s.sp) hs h1 h2) ?_);rintro _ w ⟨H1,e,hle1,rfl,he,hs⟩
 refine .z zg (.nil (.ai (.z zm (.z ia (.nil ?_)))))
 refine (.dU rfl (fun hc13=>?_) (fun hc13=>?_))
 ·refine .ai (.z zm (.z zg (.nil ?_)))
  refine .ret (rT (Fin.bg hZ rfl ?_))
  have hq:¬dr s.sp∧e=30:=he.resolve_left fun h=>hc13 h.2
  exact ⟨H1,_,hle1,rfl,by rw [hq.2];exact .space hq.1,hs.out⟩
 ·refine .skip ?_
  refine nT ?_
  refine .seq (.ai (.z (zfa fR) ?_))
  have hok:dr s.sp:=(he.resolve_right fun h=>by omega).1
  refine .y hs (zld Tryz.isAgg49) (.z (dp eg) (.z nu (.z zm ?_)))
  refine .gM (t':=19) rfl (fun hb19=>?_) (fun hb19=>?_)
  ·refine .gFs 4 4 false rfl rfl rfl ?_
   refine .z zpT (.nil ?_)
   refine (.cT ?_)
   refine .ai (.z zg (.nil ?_))
   refine .ret (rT (Fin.bg hZ rfl ?_))
   exact ⟨H1,_,hle1,rfl,.long hok ak,hs.out⟩
  ·refine .gT rfl rfl ?_
   refine .z (zfa iN) ?_
   refine .gT rfl rfl ?_
   refine .y hs (zld Tryz.isAgg50) ?_
   refine .gT rfl rfl ?_
   refine .z (dp iW) ?_
   refine .gT rfl rfl ?_
   refine .z nu (.z zpF (.nil ?_))
   refine (.cz rfl (fun hc24=>?_) (fun hc24=>?_))
   ·refine .ai (.z zg (.nil ?_))
    refine .ret (rT (Fin.bg hZ rfl ?_))
    exact ⟨H1,_,hle1,rfl,.long hok ak,hs.out⟩
   ·refine .skip ?_
    refine nT ?_
    refine .seq (.ai (.z (zfa fR) (.y hs (zld Tryz.isAgg49) (.z (dp eg) (.z zm (.nil ?_))))))
    refine .for (N:=s.rs.length) (J:=fun k fr w=>fr=[(26,.slice ar s.rs.length cr),(1,.pointer (some ⟨b1,0,none⟩))]∧(∀j<k,∀y,s.rs[j]? =some y→iR s.sp y)∧St H1 w (.blk b1 [I s.sp.id,I s.sp.src,.slice ast s.sp.st.length cst,.slice awa s.sp.wa.length cwa,I s.sp.al,I s.sp.up,.slice ar s.rs.length cr,.slice ac s.cs.length cc]::σ)) ak ?_ ?_ ?_
    ·exact .mk ⟨rfl,fun j hj=>by omega,hs⟩
    ·rintro k fr w hk ⟨rfl,hno,hs⟩
     obtain ⟨r,hx⟩:=nth hk
     refine .block (.ai ?_)
     refine .ixX (enc:=Rdg.c) hs (h3.mono hle1) rfl rfl eg df hx cU ?_;intro b30 o30 hc30
     refine .q hs (bG (vs:=(Rdg.c r)) rfl oI df hc30) ?_
     refine .o (.alloc hs uK rfl fun b5 w hs=>?_)
     refine .o (.aI (vs:=r.c) hs rfl rfl df fun w hs=>?_)
     change St _ _ (.blk b5 [I r.src,I r.st,I r.wa,I r.val,I r.tol,I r.tape,I r.day]::_) at hs
     refine .nil (.ai (.z (zfa bC) (.y hs (zls [_,_,_,_,_,_] bI aV) (.y hs (zls [_,_,_,_,_,_,_] oI df) ?_))))
     refine .o (.call Tryz.call120 rfl (kE (s:=s.sp) (r:=r) hs (h1.mono hle1) (h2.mono hle1)) ?_);rintro _ w ⟨b35,rfl,hb35,hs⟩
     refine .z eL (.nil ?_)
     refine (.cond rfl (fun hc36=>?_) (fun hc36=>?_))
     ·refine .ai (.z zg (.nil ?_))
      refine .ret (rB (rT (rB (rT (Fin.bg hZ rfl ?_)))))
      exact ⟨H1,_,hle1,rfl,.rdg hok ak (fun h=>by rw [hb35.2 (h r (List.mem_of_getElem? hx))] at hc36;cases hc36),hs.out⟩
     ·refine .skip ?_
      refine nB (nT ?_)
      exact .mk ⟨rfl,eA hno hx (hb35.1 (by simpa using hc36)),hs.tail⟩
    ·rintro fr w ⟨rfl,hno,hs⟩
     have hrs:∀r∈s.rs,iR s.sp r:=fun r hr=>by
      obtain ⟨j,hj⟩:=List.getElem?_of_mem hr
      exact hno j (List.getElem?_eq_some_iff.1 hj).1 r hj
     clear hno
     refine nT ?_
     refine .seq (.ai (.z (zfa iN) (.y hs (zld Tryz.isAgg50) (.z (dp iW) (.z zm (.nil ?_))))))
     refine .for (N:=s.cs.length) (J:=fun k fr w=>fr=[(39,.slice ac s.cs.length cc),(1,.pointer (some ⟨b1,0,none⟩))]∧(∀j<k,∀y,s.cs[j]? =some y→wj y)∧St H1 w (.blk b1 [I s.sp.id,I s.sp.src,.slice ast s.sp.st.length cst,.slice awa s.sp.wa.length cwa,I s.sp.al,I s.sp.up,.slice ar s.rs.length cr,.slice ac s.cs.length cc]::σ)) ak ?_ ?_ ?_
     ·exact .mk ⟨rfl,fun j hj=>by omega,hs⟩
     ·rintro k fr w hk ⟨rfl,hno,hs⟩
      obtain ⟨c,hx⟩:=nth hk
      refine .block (.ai ?_)
      refine .ixX (enc:=Cmp.c) hs (h4.mono hle1) rfl rfl iW iU hx cU ?_;intro b43 o43 hc43
      refine .q hs (bG (vs:=(Cmp.c c)) rfl Tryz.isAgg153 iU hc43) ?_
      refine .o (.alloc hs GN rfl fun b7 w hs=>?_)
      refine .o (.aI (vs:=c.c) hs rfl rfl iU fun w hs=>?_)
      change St _ _ (.blk b7 [I c.src,I c.tape,I c.fr,I c.to,I c.lo,I c.hi]::_) at hs
      refine .nil (.ai (.y hs (zls [_,_,_,_,_,_] Tryz.isAgg153 iU) ?_))
      refine .o (.call Tryz.call170 rfl (kF (c:=c) hs) ?_);rintro _ w ⟨b46,rfl,hb46,hs⟩
      refine .z eL (.nil ?_)
      refine (.cond rfl (fun hc47=>?_) (fun hc47=>?_))
      ·refine .ai (.z zg (.nil ?_))
       refine .ret (rB (rT (rB (rT (Fin.bg hZ rfl ?_)))))
       exact ⟨H1,_,hle1,rfl,.cmp hok ak hrs (fun h=>by rw [hb46.2 (h c (List.mem_of_getElem? hx))] at hc47;cases hc47),hs.out⟩
      ·refine .skip ?_
       refine nB (nT ?_)
       exact .mk ⟨rfl,eA hno hx (hb46.1 (by simpa using hc47)),hs.tail⟩
     ·rintro fr w ⟨rfl,hno,hs⟩
      have hcs:∀c∈s.cs,wj c:=fun c hc=>by
       obtain ⟨j,hj⟩:=List.getElem?_of_mem hc
       exact hno j (List.getElem?_eq_some_iff.1 hj).1 c hj
      have hea:s.early:=⟨hok,ak,ak,hrs,hcs⟩
      have hsm:=eD hok
      have htl:s.bn.length≤60:=by have:=eH s.rs;have:=hea.2.1;unfold Srv.bn;omega
      have hll:=kT hea 6 ak
      rw [s.wV] at hll
      have hsm2:s.sys.many=((s.sp.many+s.bn.length:Nat):Int):=rfl
      refine nT ?_
      refine .seq (.ai (.y hs (zls [_,_,_,_,_,_,_,_] aS aF) ?_))
      refine .o (.call GO rfl (dE (s:=s) hs (h1.mono hle1) (h2.mono hle1) (h3.mono hle1) (h4.mono hle1) hea) ?_);rintro _ w ⟨H2,hle2,⟨ul,rfl,hL⟩,hs⟩
      obtain ⟨al,cl,rfl⟩:=RL.shape hL
      have hsl:s.sys.bD.length=s.bD.length:=rfl
      refine .o (.alloc hs ez rfl fun b8 w hs=>?_)
      refine .o (.aI (vs:=[_,_]) hs rfl rfl aC fun w hs=>?_)
      refine .nil (.ai (.z (zfa bL) (.y hs (zld ae) (.z nu (.z zm ?_)))))
      refine .gM (t':=54) rfl (fun hb54=>?_) (fun hb54=>?_)
      ·refine .gFs 4 3 false rfl rfl rfl ?_
       refine .z zpT (.nil ?_)
       refine (.cT ?_)
       refine .ai (.z zg (.nil ?_))
       refine .ret (rT (Fin.bg hZ rfl ?_))
       exact ⟨H2,_,hle1.trans hle2,rfl,.big hea ak,hs.out⟩
      ·refine .gT rfl rfl ?_
       refine .z (zfa bR) ?_
       refine .gT rfl rfl ?_
       refine .y hs (zld dw) ?_
       refine .gT rfl rfl ?_
       refine .z (dp aK) ?_
       refine .gT rfl rfl ?_
       refine .z nu (.z zpF (.nil ?_))
       refine (.cz rfl (fun hc59=>?_) (fun hc59=>?_))
       ·refine .ai (.z zg (.nil ?_))
        refine .ret (rT (Fin.bg hZ rfl ?_))
        exact ⟨H2,_,hle1.trans hle2,rfl,.big hea ak,hs.out⟩
       ·refine .skip ?_
        refine nT ?_
        refine .ai (.z zg (.nil ?_))
        refine .ret (Fin.bg hZ rfl ?_)
        exact ⟨H2,_,hle1.trans hle2,rfl,.ok hea ⟨ak,ak⟩,hs.out⟩
end Go.Proofs.YteajddicacjkhaaGreat
namespace Go.Proofs.YteajddicacjkhaaGreat
open Go.MW
theorem Dh{s:Spc}(h:dr s):e9 9 100000 s.wa:=⟨h.wa.two,by have:=h.wa.many;omega,h.wa.low,by have:=h.wa.high;omega,h.wa.rise⟩
end Go.Proofs.YteajddicacjkhaaGreat
namespace Go.Proofs.YteajddicacjkhaaGreat
open Go.MW
variable{H:bp}{w:World}{σ:List Ent}
theorem gj{s:Spc}{q:Wht}{vst vwa:Value}(hs:St H w σ)(h2:RI H vwa s.wa):
  Cl Tryz.prog 230 [.agg #[I q.kind,I q.st,I q.wa,I s.id,I s.src,vst,vwa,I s.al,I s.up]] w fun v w'=>v= .bool (decide (0≤q.wa∧q.wa≤(s.wa.length:Int) - 1))∧St H w' σ:=by
 obtain ⟨awa,cwa,rfl⟩:=RI.shape h2
 have l2:=(RI.len h2).2.2
 refine Cl.o Tryz.func230 Tryz.ntmps230 ag1 ?_
 refine .ai ?_
 refine .bx hs fun b1 w hs=>?_
 refine .z zg (.nil (.ai (.z (zfa bK) (.z (zfa eu) (.y hs (zld ae) (.z (zfa dC) (.z (zfa bF) (.y hs (zld aq) (.z (dp af) ?_)))))))))
 refine .z fu ?_
 refine .o (.call cD rfl (aP hs) ?_);rintro _ w ⟨rfl,hs⟩
 refine .z zg (.nil ?_)
 refine .ret (Fin.bg Tryz.results230 rfl ?_)
 exact ⟨rfl,hs.out⟩
theorem iB{s:Spc}{q:Wht}{vst vwa:Value}(hs:St H w σ)(h1:RI H vst s.st):
  Cl Tryz.prog 235 [.agg #[I q.kind,I q.st,I q.wa,I s.id,I s.src,vst,vwa,I s.al,I s.up]] w fun v w'=>v= .bool (decide (0≤q.st∧q.st≤(s.st.length:Int) - 1))∧St H w' σ:=by
 obtain ⟨ast,cst,rfl⟩:=RI.shape h1
 have l1:=(RI.len h1).2.2
 refine Cl.o Tryz.func235 Tryz.ntmps235 ag1 ?_
 refine .ai ?_
 refine .bx hs fun b1 w hs=>?_
 refine .z zg (.nil (.ai (.z (zfa bK) (.z (zfa fQ) (.y hs (zld ae) (.z (zfa dC) (.z (zfa cM) (.y hs (zld aq) (.z (dp af) ?_)))))))))
 refine .z fu ?_
 refine .o (.call cD rfl (aP hs) ?_);rintro _ w ⟨rfl,hs⟩
 refine .z zg (.nil ?_)
 refine .ret (Fin.bg Tryz.results235 rfl ?_)
 exact ⟨rfl,hs.out⟩
theorem oK{s:Spc}{q:Wht}:dN s q↔(q.kind=1∧q.st=0∧s.isW q∧0<q.wa)∨(q.kind=2∧q.st=0∧s.isW q)∨(q.kind=3∧q.wa=0∧s.isS q)∨(q.kind=4∧s.isS q∧s.isW q):=by
 constructor
 ·intro h
  cases h with
  |litres a b c d=>exact .inl ⟨a,b,c,d⟩
  |plane a b c=>exact .inr (.inl ⟨a,b,c⟩)
  |section_ a b c=>exact .inr (.inr (.inl ⟨a,b,c⟩))
  |offset a b c=>exact .inr (.inr (.inr ⟨a,b,c⟩))
 ·rintro (⟨a,b,c,d⟩|⟨a,b,c⟩|⟨a,b,c⟩|⟨a,b,c⟩)
  ·exact .litres a b c d
  ·exact .plane a b c
  ·exact .section_ a b c
  ·exact .offset a b c
theorem vD{s:Spc}{q:Wht}{vst vwa:Value}(hs:St H w σ)(h2:RI H vwa s.wa)(hk:q.kind=1):
  Cl Tryz.prog 229 [.agg #[I q.kind,I q.st,I q.wa,I s.id,I s.src,vst,vwa,I s.al,I s.up]] w fun v w'=>∃b:Bool,v= .bool b∧(b=true↔dN s q)∧St H w' σ:=by
 have hi:=oK (s:=s) (q:=q)
 simp only [Spc.isW,Spc.isS] at hi
 refine Cl.o Tryz.func229 Tryz.ntmps229 ag1 ?_
 refine .ai ?_
 refine .bx hs fun b1 w hs=>?_
 refine .z zg (.nil (.ai (.y hs (zls [_,_,_,_,_,_,_,_,_] oG iT) ?_)))
 refine .o (.call Tryz.call230 rfl (gj hs h2) ?_);rintro _ w ⟨rfl,hs⟩
 refine .z zm ?_
 refine .bif (t':=5) rfl (fun hb5=>?_) (fun hb5=>?_)
 ·refine .gT rfl rfl ?_
  refine .z (zfa bK) ?_
  refine .gT rfl rfl ?_
  refine .z (zfa eu) ?_
  refine .gT rfl rfl ?_
  refine .y hs (zld ae) ?_
  refine .gT rfl rfl ?_
  refine .z nu (.z zpT (.z zm ?_))
  refine .gM (t':=11) rfl (fun hb11=>?_) (fun hb11=>?_)
  ·refine .gT rfl rfl ?_
   refine .z (zfa bK) ?_
   refine .gT rfl rfl ?_
   refine .z (zfa fQ) ?_
   refine .gT rfl rfl ?_
   refine .y hs (zld ae) ?_
   refine .gT rfl rfl ?_
   refine .z iP (.z zpT (.z zg (.nil ?_)))
   refine .ret (Fin.bg Tryz.results229 rfl ?_)
   exact ⟨_,rfl,by rw [hi];simp_all<;>omega,hs.out⟩
  ·refine .gFs 4 8 true rfl rfl rfl ?_
   refine .z zpF (.z zg (.nil ?_))
   refine .ret (Fin.bg Tryz.results229 rfl ?_)
   exact ⟨_,rfl,by rw [hi];simp_all<;>omega,hs.out⟩
 ·refine .gFs 4 2 true rfl rfl rfl ?_
  refine .z zpF (.z zm ?_)
  refine .gFs 4 8 true rfl rfl rfl ?_
  refine .z zpF (.z zg (.nil ?_))
  refine .ret (Fin.bg Tryz.results229 rfl ?_)
  exact ⟨_,rfl,by rw [hi];simp_all<;>omega,hs.out⟩
theorem vC{s:Spc}{q:Wht}{vst vwa:Value}(hs:St H w σ)(h2:RI H vwa s.wa)(hk:q.kind=2):
  Cl Tryz.prog 232 [.agg #[I q.kind,I q.st,I q.wa,I s.id,I s.src,vst,vwa,I s.al,I s.up]] w fun v w'=>∃b:Bool,v= .bool b∧(b=true↔dN s q)∧St H w' σ:=by
 have hi:=oK (s:=s) (q:=q)
 simp only [Spc.isW,Spc.isS] at hi
 refine Cl.o Tryz.func232 Tryz.ntmps232 ag1 ?_
 refine .ai ?_
 refine .bx hs fun b1 w hs=>?_
 refine .z zg (.nil (.ai (.y hs (zls [_,_,_,_,_,_,_,_,_] oG iT) ?_)))
 refine .o (.call Tryz.call230 rfl (gj hs h2) ?_);rintro _ w ⟨rfl,hs⟩
 refine .z zm ?_
 refine .bif (t':=5) rfl (fun hb5=>?_) (fun hb5=>?_)
 ·refine .gT rfl rfl ?_
  refine .z (zfa bK) ?_
  refine .gT rfl rfl ?_
  refine .z (zfa fQ) ?_
  refine .gT rfl rfl ?_
  refine .y hs (zld ae) ?_
  refine .gT rfl rfl ?_
  refine .z iP (.z zpT (.z zg (.nil ?_)))
  refine .ret (Fin.bg Tryz.results232 rfl ?_)
  exact ⟨_,rfl,by rw [hi];simp_all<;>omega,hs.out⟩
 ·refine .gFs 4 2 true rfl rfl rfl ?_
  refine .z zpF (.z zg (.nil ?_))
  refine .ret (Fin.bg Tryz.results232 rfl ?_)
  exact ⟨_,rfl,by rw [hi];simp_all<;>omega,hs.out⟩
theorem vB{s:Spc}{q:Wht}{vst vwa:Value}(hs:St H w σ)(h1:RI H vst s.st)(hk:q.kind=3):
  Cl Tryz.prog 234 [.agg #[I q.kind,I q.st,I q.wa,I s.id,I s.src,vst,vwa,I s.al,I s.up]] w fun v w'=>∃b:Bool,v= .bool b∧(b=true↔dN s q)∧St H w' σ:=by
 have hi:=oK (s:=s) (q:=q)
 simp only [Spc.isW,Spc.isS] at hi
 refine Cl.o Tryz.func234 Tryz.ntmps234 ag1 ?_
 refine .ai ?_
 refine .bx hs fun b1 w hs=>?_
 refine .z zg (.nil (.ai (.y hs (zls [_,_,_,_,_,_,_,_,_] oG iT) ?_)))
 refine .o (.call Tryz.call235 rfl (iB hs h1) ?_);rintro _ w ⟨rfl,hs⟩
 refine .z zm ?_
 refine .bif (t':=5) rfl (fun hb5=>?_) (fun hb5=>?_)
 ·refine .gT rfl rfl ?_
  refine .z (zfa bK) ?_
  refine .gT rfl rfl ?_
  refine .z (zfa eu) ?_
  refine .gT rfl rfl ?_
  refine .y hs (zld ae) ?_
  refine .gT rfl rfl ?_
  refine .z iP (.z zpT (.z zg (.nil ?_)))
  refine .ret (Fin.bg Tryz.results234 rfl ?_)
  exact ⟨_,rfl,by rw [hi];simp_all<;>omega,hs.out⟩
 ·refine .gFs 4 2 true rfl rfl rfl ?_
  refine .z zpF (.z zg (.nil ?_))
  refine .ret (Fin.bg Tryz.results234 rfl ?_)
  exact ⟨_,rfl,by rw [hi];simp_all<;>omega,hs.out⟩
theorem vA{s:Spc}{q:Wht}{vst vwa:Value}(hs:St H w σ)(h1:RI H vst s.st)(h2:RI H vwa s.wa)(hk:q.kind=4):
  Cl Tryz.prog 237 [.agg #[I q.kind,I q.st,I q.wa,I s.id,I s.src,vst,vwa,I s.al,I s.up]] w fun v w'=>∃b:Bool,v= .bool b∧(b=true↔dN s q)∧St H w' σ:=by
 have hi:=oK (s:=s) (q:=q)
 simp only [Spc.isW,Spc.isS] at hi
 refine Cl.o Tryz.func237 Tryz.ntmps237 ag1 ?_
 refine .ai ?_
 refine .bx hs fun b1 w hs=>?_
 refine .z zg (.nil (.ai (.y hs (zls [_,_,_,_,_,_,_,_,_] oG iT) ?_)))
 refine .o (.call Tryz.call235 rfl (iB hs h1) ?_);rintro _ w ⟨rfl,hs⟩
 refine .z zm ?_
 refine .bif (t':=5) rfl (fun hb5=>?_) (fun hb5=>?_)
 ·refine .gT rfl rfl ?_
  refine .y hs (zls [_,_,_,_,_,_,_,_,_] oG iT) ?_
  refine .gT rfl rfl ?_
  refine .o (.call Tryz.call230 rfl (gj hs h2) ?_);rintro _ w ⟨rfl,hs⟩
  refine .z zpT (.z zg (.nil ?_))
  refine .ret (Fin.bg Tryz.results237 rfl ?_)
  exact ⟨_,rfl,by rw [hi];simp_all<;>omega,hs.out⟩
 ·refine .gFs 2 2 true rfl rfl rfl ?_
  refine .z zpF (.z zg (.nil ?_))
  refine .ret (Fin.bg Tryz.results237 rfl ?_)
  exact ⟨_,rfl,by rw [hi];simp_all<;>omega,hs.out⟩
theorem pT{s:Spc}{q:Wht}{vst vwa:Value}{i k:Nat}{u:Int}(hs:St H w σ)(h1:RI H vst s.st)(h2:RI H vwa s.wa)(hok:dr s)(hq:dN s q)(hk1:q.kind=1)(hi:i<s.st.length):
  Cl Tryz.prog 231 [.agg #[I q.kind,I q.st,I q.wa,I s.id,I s.src,vst,vwa,I s.al,I s.up],.agg #[I (i:Int),I (k:Int),I u]] w fun v w'=>∃H1,HLe H H1∧v=I (mi s q i k)∧St H1 w' σ:=by
 obtain ⟨ast,cst,rfl⟩:=RI.shape h1
 obtain ⟨awa,cwa,rfl⟩:=RI.shape h2
 have hn:=hok.wa.many
 have hcap:=(RI.len h2).2.1
 obtain ⟨_,hw1,hw2,hw3⟩:q.st=0∧0<q.wa∧0≤q.wa∧q.wa≤(s.wa.length:Int) - 1:=by
  rcases oK.1 hq with h|h|h|h
  ·exact ⟨h.2.1,h.2.2.2,h.2.2.1.1,h.2.2.1.2⟩
  all_goals omega
 obtain ⟨m,hm⟩:∃m:Nat,q.wa=m:=⟨q.wa.toNat,ak⟩
 have hW:mi s q i k=if (k:Int)≤q.wa then gi (wts s.st) i*gi (wts (s.wa.take (q.wa.toNat+1))) k else 0:=by unfold mi;rw [if_pos hk1]
 have hmt:q.wa.toNat=m:=by omega
 rw [hmt] at hW
 refine Cl.o Tryz.func231 Tryz.ntmps231 ag2 ?_
 refine .ai ?_
 refine .bx hs fun b2 w hs=>?_
 refine .bx hs fun b3 w hs=>?_
 refine .z zg (.nil (.seq (.ai (.z (zfa bN) (.y hs (zld ae) (.z (zfa bK) (.z (zfa eu) (.y hs (zld ae) (.z nu ?_)))))))))
 refine .nil ?_
 refine (.cz rfl (fun hc12=>?_) (fun hc12=>?_))
 ·refine .ai (.z zg (.nil ?_))
  refine .ret (rT (Fin.bg Tryz.results231 rfl ?_))
  exact ⟨H,HLe.refl H,by rw [hW,if_neg ak],hs.out⟩
 ·refine .skip ?_
  refine nT ?_
  refine .seq (.draw mix rfl hs fun w hs=>?_)
  refine .z 0 rfl (zfa dC) ?_;refine .z 1 rfl (zfa cM) ?_;refine .y 2 rfl hs aq ?_;refine .z 3 rfl (zfa dC) ?_;refine .z 4 rfl (zfa bF) ?_;refine .y 5 rfl hs aq ?_;refine .z 6 rfl (zfa bK) ?_;refine .z 7 rfl (zfa eu) ?_;refine .y 8 rfl hs ae ?_;refine .z 9 rfl dP ?_
  refine .z 10 rfl (Aa (k:=m+1) rfl rfl af aj ak ak) ?_
  refine .E 11 hs ?_
  have hP:e9 7 15000 (s.wa.take (m+1)):=hok.wa.take ak ak
  refine .call Tryz.call163 rfl (kQ hs h1 (h2.head (k:=m+1) ak)) ?_;rintro _ w ⟨H1,vo,e,hle1,rfl,hGx,-,hs⟩
  obtain ⟨rfl,hG⟩:=hGx ⟨hok.st,hP⟩
  have hgl:=la (wts s.st) (wts (s.wa.take (m+1))) s.st.length
  have hyl:(wts (s.wa.take (m+1))).length=m+1:=by rw [fE,List.length_take];omega
  have hgr:=yc (X:=wts s.st) (Y:=wts (s.wa.take (m+1))) (n:=s.st.length) hi
  have hgt:=Cw (X:=wts s.st) (Y:=wts (s.wa.take (m+1))) (n:=s.st.length) (k:=k) hi ak
  have hrl:=mR (wts s.st) (wts (s.wa.take (m+1))) i
  rw [←hgr] at hrl
  generalize nW (wts s.st) (wts (s.wa.take (m+1))) s.st.length=G at*
  obtain ⟨aG,cG,rfl⟩:=hG.shape
  refine .go ?_
  refine .z 12 rfl zm ?_;refine .z 13 rfl zex ?_;refine .z 14 rfl zex ?_;refine .z 15 rfl zg ?_;refine .z 16 rfl zg ?_;refine .D hs ?_
  refine .seq (.draw mix rfl hs fun w hs=>?_)
  refine .z 0 rfl zm ?_;refine .z 1 rfl (zfa bY) ?_;refine .y 2 rfl hs ae ?_
  refine .ixT (i:=3) hs rfl an .none hG rfl rfl dh aJ (show i<_ by omega) cU ?_;intro b31 o31 a31 c31 hc31 hR31
  refine .r (i:=4) hs rfl an .none (a6 rfl aq hc31) ?_
  refine .z 5 rfl (zfa bN) ?_;refine .y 6 rfl hs ae ?_
  refine .ixX (enc:=fun x=>[I x]) (i:=7) hs rfl an .none hR31 rfl rfl af aj (bE (l:=(gr G i)) (i:=k) ak) cU ?_;intro b35 o35 hc35;replace hc35:=bH.one hc35
  refine .r (i:=8) hs rfl an .none (a6 rfl ae hc35) ?_
  refine .z 9 rfl zg ?_;refine .D hs ?_
  refine .ret (Fin.bg Tryz.results231 rfl ?_)
  exact ⟨H1,hle1,by rw [hW,if_pos ak,←hgt];rfl,hs.out⟩
theorem qG{s:Spc}{q:Wht}{vst vwa:Value}{i k:Nat}{u:Int}(hs:St H w σ)(h1:RI H vst s.st)(hok:dr s)(hk1:q.kind=2)(hi:i<s.st.length):
  Cl Tryz.prog 233 [.agg #[I q.kind,I q.st,I q.wa,I s.id,I s.src,vst,vwa,I s.al,I s.up],.agg #[I (i:Int),I (k:Int),I u]] w fun v w'=>∃H1,HLe H H1∧v=I (mi s q i k)∧St H1 w' σ:=by
 have hW:mi s q i k=if (k:Int)=q.wa then gi (wts s.st) i else 0:=by unfold mi;rw [if_neg ak,if_pos hk1]
 have hl:=fE s.st
 refine Cl.o Tryz.func233 Tryz.ntmps233 ag2 ?_
 refine .ai ?_
 refine .bx hs fun b2 w hs=>?_
 refine .bx hs fun b3 w hs=>?_
 refine .z zg (.nil (.seq (.ai (.z (zfa bN) (.y hs (zld ae) (.z (zfa bK) (.z (zfa eu) (.y hs (zld ae) (.z ia ?_)))))))))
 refine .nil ?_
 refine (.dU rfl (fun hc12=>?_) (fun hc12=>?_))
 ·refine .ai (.z zg (.nil ?_))
  refine .ret (rT (Fin.bg Tryz.results233 rfl ?_))
  exact ⟨H,HLe.refl H,by rw [hW,if_neg ak],hs.out⟩
 ·refine .skip ?_
  refine nT ?_
  refine .ai (.z (zfa dC) (.z (zfa cM) (.y hs (zld aq) ?_)))
  refine .o (.call Tryz.call275 rfl (iY hs h1) ?_);rintro _ w ⟨H1,vo,e,hle1,rfl,hGx,hs⟩
  obtain ⟨rfl,hG⟩:=hGx hok.st
  obtain ⟨aG,cG,rfl⟩:=RI.shape hG
  refine .z zm (.z zex (.z zex (.z zg (.z zg (.nil (.ai (.z zm (.z (zfa bY) (.y hs (zld ae) ?_)))))))))
  refine .ixY hs hG rfl rfl af aj (bE (l:=(wts s.st)) (i:=i) ak) cU ?_;intro b23 o23 hc23
  refine .q hs (a6 rfl ae hc23) ?_
  refine .z zg (.nil ?_)
  refine .ret (Fin.bg Tryz.results233 rfl ?_)
  exact ⟨H1,hle1,by rw [hW,if_pos ak],hs.out⟩
theorem oL{s:Spc}{q:Wht}{vst vwa:Value}{i k:Nat}{u:Int}(hs:St H w σ)(h2:RI H vwa s.wa)(hok:dr s)(hk1:q.kind=3)(hk:k<s.wa.length):
  Cl Tryz.prog 236 [.agg #[I q.kind,I q.st,I q.wa,I s.id,I s.src,vst,vwa,I s.al,I s.up],.agg #[I (i:Int),I (k:Int),I u]] w fun v w'=>∃H1,HLe H H1∧v=I (mi s q i k)∧St H1 w' σ:=by
 have hW:mi s q i k=if (i:Int)=q.st then gi (wts s.wa) k else 0:=by unfold mi;rw [if_neg ak,if_neg ak,if_pos hk1]
 have hl:=fE s.wa
 refine Cl.o Tryz.func236 Tryz.ntmps236 ag2 ?_
 refine .ai ?_
 refine .bx hs fun b2 w hs=>?_
 refine .bx hs fun b3 w hs=>?_
 refine .z zg (.nil (.seq (.ai (.z (zfa bY) (.y hs (zld ae) (.z (zfa bK) (.z (zfa fQ) (.y hs (zld ae) (.z ia ?_)))))))))
 refine .nil ?_
 refine (.dU rfl (fun hc12=>?_) (fun hc12=>?_))
 ·refine .ai (.z zg (.nil ?_))
  refine .ret (rT (Fin.bg Tryz.results236 rfl ?_))
  exact ⟨H,HLe.refl H,by rw [hW,if_neg ak],hs.out⟩
 ·refine .skip ?_
  refine nT ?_
  refine .ai (.z (zfa dC) (.z (zfa bF) (.y hs (zld aq) ?_)))
  refine .o (.call Tryz.call275 rfl (iY hs h2) ?_);rintro _ w ⟨H1,vo,e,hle1,rfl,hGx,hs⟩
  obtain ⟨rfl,hG⟩:=hGx (Dh hok)
  obtain ⟨aG,cG,rfl⟩:=RI.shape hG
  refine .z zm (.z zex (.z zex (.z zg (.z zg (.nil (.ai (.z zm (.z (zfa bN) (.y hs (zld ae) ?_)))))))))
  refine .ixY hs hG rfl rfl af aj (bE (l:=(wts s.wa)) (i:=k) ak) cU ?_;intro b23 o23 hc23
  refine .q hs (a6 rfl ae hc23) ?_
  refine .z zg (.nil ?_)
  refine .ret (Fin.bg Tryz.results236 rfl ?_)
  exact ⟨H1,hle1,by rw [hW,if_pos ak],hs.out⟩
theorem pS{s:Spc}{q:Wht}{vst vwa:Value}{i k:Nat}{u:Int}(hs:St H w σ)(hk1:q.kind=4):
  Cl Tryz.prog 238 [.agg #[I q.kind,I q.st,I q.wa,I s.id,I s.src,vst,vwa,I s.al,I s.up],.agg #[I (i:Int),I (k:Int),I u]] w fun v w'=>∃H1,HLe H H1∧v=I (mi s q i k)∧St H1 w' σ:=by
 have hW:mi s q i k=if (i:Int)=q.st∧(k:Int)=q.wa then 1 else 0:=by unfold mi;rw [if_neg ak,if_neg ak,if_neg ak]
 refine Cl.o Tryz.func238 Tryz.ntmps238 ag2 ?_
 refine .ai ?_
 refine .bx hs fun b2 w hs=>?_
 refine .bx hs fun b3 w hs=>?_
 refine .z zg (.nil (.seq (.ai (.z (zfa bY) (.y hs (zld ae) (.z (zfa bK) (.z (zfa fQ) (.y hs (zld ae) (.z ia ?_)))))))))
 refine .z zm ?_
 refine .DV (t':=11) rfl (fun hb11=>?_) (fun hb11=>?_)
 ·refine .gFs 6 6 false rfl rfl rfl ?_
  refine .z zpT (.nil ?_)
  refine (.cT ?_)
  refine .ai (.z zg (.nil ?_))
  refine .ret (rT (Fin.bg Tryz.results238 rfl ?_))
  first
  |exact ⟨H,HLe.refl H,by rw [hW,if_neg ak],hs.out⟩
  |exact ⟨H,HLe.refl H,by rw [hW,if_pos ak],hs.out⟩
 ·refine .gT rfl rfl ?_
  refine .z (zfa bN) ?_
  refine .gT rfl rfl ?_
  refine .y hs (zld ae) ?_
  refine .gT rfl rfl ?_
  refine .z (zfa bK) ?_
  refine .gT rfl rfl ?_
  refine .z (zfa eu) ?_
  refine .gT rfl rfl ?_
  refine .y hs (zld ae) ?_
  refine .gT rfl rfl ?_
  refine .z ia (.z zpF (.nil ?_))
  refine (.dU rfl (fun hc18=>?_) (fun hc18=>?_))
  ·refine .ai (.z zg (.nil ?_))
   refine .ret (rT (Fin.bg Tryz.results238 rfl ?_))
   first
   |exact ⟨H,HLe.refl H,by rw [hW,if_neg ak],hs.out⟩
   |exact ⟨H,HLe.refl H,by rw [hW,if_pos ak],hs.out⟩
  ·refine .skip ?_
   refine nT ?_
   refine .ai (.z zg (.nil ?_))
   refine .ret (Fin.bg Tryz.results238 rfl ?_)
   first
   |exact ⟨H,HLe.refl H,by rw [hW,if_neg ak],hs.out⟩
   |exact ⟨H,HLe.refl H,by rw [hW,if_pos ak],hs.out⟩
def yO(k:Int):Nat:=if k=1 then 229 else if k=2 then 232 else if k=3 then 234 else 237
def yG(k:Int):Nat:=if k=1 then 231 else if k=2 then 233 else if k=3 then 236 else 238
def xZ(k:Int):Value:= .agg #[.func (.func (yO k)) #[] #[],.func (.func (yG k)) #[] #[],I (oE ⟨k,0,0⟩)]
def Eg:List MapEntry:=[{key:=I 1,val:=xZ 1,born:=0},{key:=I 2,val:=xZ 2,born:=1},{key:=I 3,val:=xZ 3,born:=2},{key:=I 4,val:=xZ 4,born:=3}]
theorem jd(hs:St H w σ):
  Cl Tryz.prog 187 [] w fun v w'=>∃b,v= .map (some b)∧St H w' (.obj b (.map Eg.toArray 4)::σ):=by
 refine Cl.of Tryz.func187 rfl Tryz.ntmps187 db (uo) ?_
 refine .ai (.z zg (.nil (.ai ?_)))
 refine .o (.makeMap hs fun b1 w hs=>?_)
 refine .z (zbd [_,_,_] ft) ?_
 refine .o (.insert (es:=[]) hs rfl rfl rfl dq aM rfl fun w hs=>?_)
 refine .z (zbd [_,_,_] ft) ?_
 refine .o (.insert (es:=[{key:=I 1,val:=xZ 1,born:=0}]) hs rfl rfl rfl dq aM rfl fun w hs=>?_)
 refine .z (zbd [_,_,_] ft) ?_
 refine .o (.insert (es:=[{key:=I 1,val:=xZ 1,born:=0},{key:=I 2,val:=xZ 2,born:=1}]) hs rfl rfl rfl dq aM rfl fun w hs=>?_)
 refine .z (zbd [_,_,_] ft) ?_
 refine .o (.insert (es:=[{key:=I 1,val:=xZ 1,born:=0},{key:=I 2,val:=xZ 2,born:=1},{key:=I 3,val:=xZ 3,born:=2}]) hs rfl rfl rfl dq aM rfl fun w hs=>?_)
 refine .z zm (.z zg (.nil ?_))
 refine .ret (Fin.bg Tryz.results187 rfl ?_)
 exact ⟨b1,rfl,hs⟩
def lF1(k:Int):Value:=if 1≤k∧k≤4 then .func (.func (yO k)) #[] #[] else .nilFunc
def lF2(k:Int):Value:=if 1≤k∧k≤4 then .func (.func (yG k)) #[] #[] else .nilFunc
def lD(k:Int):Int:=if 1≤k∧k≤4 then oE ⟨k,0,0⟩ else 0
theorem xY(k:Int):[lF1 k,lF2 k,I (lD k)].all Value.oneCell'=true:=by
 unfold lF1 lF2;split<;>rfl
theorem Ae{H:bp}{s:FS}{x y:Operand}{b:Nat}(k:Int)(hx:FS.ev s x=some (.map (some b)))(hy:FS.ev s y=some (I k)):
  QJ Tryz.prog H [.obj b (.map Eg.toArray 4)] s (.lookup 238 x y true) (.tuple #[.agg #[lF1 k,lF2 k,I (lD k)],.bool (decide (1≤k∧k≤4))]):=by
 by_cases h:1≤k∧k≤4
 ·rw [decide_eq_true h]
  have h4:k=1∨k=2∨k=3∨k=4:=by omega
  rcases h4 with rfl|rfl|rfl|rfl
  ·exact xM (v:=xZ 1) (j:=0) hx hy dq aM rfl .here
  ·exact xM (v:=xZ 2) (j:=1) hx hy dq aM rfl .here
  ·exact xM (v:=xZ 3) (j:=2) hx hy dq aM rfl .here
  ·exact xM (v:=xZ 4) (j:=3) hx hy dq aM rfl .here
 ·rw [decide_eq_false h]
  have e1:lF1 k= .nilFunc:=if_neg h
  have e2:lF2 k= .nilFunc:=if_neg h
  have e3:lD k=0:=if_neg h
  rw [e1,e2,e3]
  refine Du (es:=Eg) (c:=4) hx hy dq aM GM ?_ .here
  have n1:(k==1)=false:=by simp only [beq_eq_false_iff_ne];omega
  have n2:(k==2)=false:=by simp only [beq_eq_false_iff_ne];omega
  have n3:(k==3)=false:=by simp only [beq_eq_false_iff_ne];omega
  have n4:(k==4)=false:=by simp only [beq_eq_false_iff_ne];omega
  simp [Instr.findNow,Instr.sameNow,Eg,n1,n2,n3,n4]
theorem BP(k:Int):∀args w,(callFunc (yO k) args).run Tryz.prog w= .ok (.enter (yO k) args) w:=by
 unfold yO
 split
 ·exact Tryz.call229
 ·split
  ·exact Tryz.call232
  ·split
   ·exact Tryz.call234
   ·exact Tryz.call237
theorem Bz(k:Int):∀args w,(callFunc (yG k) args).run Tryz.prog w= .ok (.enter (yG k) args) w:=by
 unfold yG
 split
 ·exact Tryz.call231
 ·split
  ·exact Tryz.call233
  ·split
   ·exact Tryz.call236
   ·exact Tryz.call238
theorem BO{s:Spc}{q:Wht}{vst vwa:Value}(hs:St H w σ)(h1:RI H vst s.st)(h2:RI H vwa s.wa)(hk:1≤q.kind∧q.kind≤4):
  Cl Tryz.prog (yO q.kind) [.agg #[I q.kind,I q.st,I q.wa,I s.id,I s.src,vst,vwa,I s.al,I s.up]] w fun v w'=>∃b:Bool,v= .bool b∧(b=true↔dN s q)∧St H w' σ:=by
 unfold yO
 split
 ·exact vD hs h2 si
 ·split
  ·exact vC hs h2 si
  ·split
   ·exact vB hs h1 si
   ·exact vA hs h1 h2 ak
theorem By{s:Spc}{q:Wht}{vst vwa:Value}{i k:Nat}{u:Int}(hs:St H w σ)(h1:RI H vst s.st)(h2:RI H vwa s.wa)(hok:dr s)(hq:dN s q)(hk:1≤q.kind∧q.kind≤4)(hi:i<s.st.length)(hkw:k<s.wa.length):
  Cl Tryz.prog (yG q.kind) [.agg #[I q.kind,I q.st,I q.wa,I s.id,I s.src,vst,vwa,I s.al,I s.up],.agg #[I (i:Int),I (k:Int),I u]] w fun v w'=>∃H1,HLe H H1∧v=I (mi s q i k)∧St H1 w' σ:=by
 unfold yG
 split
 ·exact pT hs h1 h2 hok hq si hi
 ·split
  ·exact qG hs h1 hok si hi
  ·split
   ·exact oL hs h2 hok si hkw
   ·exact pS hs ak
theorem E3{q:Wht}(h:1≤q.kind∧q.kind≤4):lD q.kind=oE q:=by
 unfold lD;rw [if_pos h];rfl
theorem Bx{s:Spc}{q:Wht}(h:dN s q):1≤q.kind∧q.kind≤4:=by
 rcases oK.1 h with h|h|h|h<;>omega
set_option maxHeartbeats 1000000 in
theorem ie{s:Spc}{q:Wht}{vst vwa:Value}(hs:St H w σ)(h1:RI H vst s.st)(h2:RI H vwa s.wa)(hok:dr s):
  Cl Tryz.prog 130 [.agg #[I s.id,I s.src,vst,vwa,I s.al,I s.up],.agg #[I q.kind,I q.st,I q.wa]] w fun u w'=>∃H1 vl L d b en,HLe H H1∧u= .tuple #[vl,I d,.bool b]∧cR 1 vl (Is L) en∧((b=true∧dN s q∧L=jJ s q∧d=oE q)∨(b=false∧¬dN s q∧L=[]∧d=0))∧St H1 w' (en::σ):=by
 have hsm:=eD hok
 obtain ⟨ast,cst,rfl⟩:=RI.shape h1
 obtain ⟨awa,cwa,rfl⟩:=RI.shape h2
 refine Cl.o Tryz.func130 Tryz.ntmps130 ag2 ?_
 refine .ai ?_
 refine .bx hs fun b2 w hs=>?_
 refine .bx hs fun b3 w hs=>?_
 refine .z zg (.z zg (.z zg (.nil ?_)))
 refine .cut (fun fs w=>∃b7,kq fs ⟨46,[],[(8,.bool (decide (1≤q.kind∧q.kind≤4))),(7,.pointer (some ⟨b7,0,none⟩)),(2,.pointer (some ⟨b2,0,none⟩)),(3,.pointer (some ⟨b3,0,none⟩))]⟩∧St H w (.blk b7 [lF1 q.kind,lF2 q.kind,I (lD q.kind)]:: .blk b3 [I q.kind,I q.st,I q.wa]:: .blk b2 [I s.id,I s.src,(.slice ast s.st.length cst),(.slice awa s.wa.length cwa),I s.al,I s.up]::σ)) ?_ ?_
 ·refine .draw mix rfl hs fun w hs=>?_
  refine .z 1 rfl (zfa tT) ?_;refine .y 2 rfl hs ae ?_
  refine .e2 (i:=0) (j:=7) an rfl rfl rfl rfl .none .none hs ?_ ?_
  ·refine .call Tryz.call187 rfl (jd hs) ?_;rintro _ w ⟨b13,rfl,hs⟩
   refine .go ?_
   refine .q (i:=3) [.obj b13 (.map Eg.toArray 4)] rfl an .none (Ae (H:= .bot) q.kind rfl rfl) ?_
   refine .z 4 rfl zm ?_;refine .z 5 rfl zex ?_;refine .z 6 rfl zex ?_
   refine .E 7 hs ?_
   refine .alloc hs GM rfl ?_;intro b7 w hs
   refine .go ?_
   refine .E 8 hs ?_
   refine .aI (vs:=[lF1 q.kind,lF2 q.kind,I (lD q.kind)]) hs rfl rfl Tryz.sizeOf236 ?_ (hv:=xY _);intro w hs
   refine .go ?_
   refine .z 9 rfl zg ?_;refine .D hs ?_
   exact nT ⟨b7,bS,hs.sb⟩
  ·refine .alloc hs GM rfl ?_;intro b7 w hs
   refine .go ?_
   refine .E 0 hs ?_
   refine .call Tryz.call187 rfl (jd hs) ?_;rintro _ w ⟨b13,rfl,hs⟩
   refine .go ?_
   refine .q (i:=3) [.obj b13 (.map Eg.toArray 4)] rfl an .none (Ae (H:= .bot) q.kind rfl rfl) ?_
   refine .z 4 rfl zm ?_;refine .z 5 rfl zex ?_;refine .z 6 rfl zex ?_
   refine .E 8 hs ?_
   refine .aI (vs:=[lF1 q.kind,lF2 q.kind,I (lD q.kind)]) hs rfl rfl Tryz.sizeOf236 ?_ (hv:=xY _);intro w hs
   refine .go ?_
   refine .z 9 rfl zg ?_;refine .D hs ?_
   exact nT ⟨b7,bS,hs.sb⟩
 ·rintro fs w ⟨b7,hfs,hs⟩
  refine WE.sub ?_ hfs
  refine .ai (.y hs (zls [_,_,_] wz gd) (.y hs (zls [_,_,_,_,_,_] bI aV) (.z (zbd (vs:=[(0,.agg #[I q.kind,I q.st,I q.wa]),(1,.agg #[I s.id,I s.src,(.slice ast s.st.length cst),(.slice awa s.wa.length cwa),I s.al,I s.up])]) [I q.kind,I q.st,I q.wa,I s.id,I s.src,(.slice ast s.st.length cst),(.slice awa s.wa.length cwa),I s.al,I s.up] qi rfl an) ?_)))
  refine .o (.alloc hs Tryz.zeroValue241 rfl fun b9 w hs=>?_)
  refine .o (.aI (vs:=[_,_,_,_,_,_,_,_,_]) hs rfl rfl iT fun w hs=>?_)
  refine .nil (.seq (.ai (.z zm (.z eL (.z zm ?_)))))
  refine .bif (t':=24) rfl (fun hb24=>?_) (fun hb24=>?_)
  ·refine .gFs 5 2 false rfl rfl rfl ?_
   refine .z zpT (.nil ?_)
   refine (.cT ?_)
   refine .ai (.z zg (.z zg (.z zg (.nil ?_))))
   refine .ret (rT (?_))
   have hn:¬dN s q:=fun h=>by have:=Bx h;simp [this] at hb24
   exact Fin.gQ [] [] hs fun w hs=>⟨_,results3 Tryz.results130 rfl rfl rfl,H,_,[],_,_,.nul,HLe.refl H,rfl,.nil 1 none,.inr ⟨rfl,hn,rfl,rfl⟩,hs.out.nul⟩
  ·refine .gT rfl rfl ?_
   have hk:1≤q.kind∧q.kind≤4:=by simpa using hb24
   rw [show lF1 q.kind= .func (.func (yO q.kind)) #[] #[] from if_pos hk,show lF2 q.kind= .func (.func (yG q.kind)) #[] #[] from if_pos hk,E3 hk] at hs
   refine .z (zfa po) ?_
   refine .gT rfl rfl ?_
   refine .y hs (zld Tryz.isAgg233) ?_
   refine .gT rfl rfl ?_
   refine .y hs (zls [_,_,_,_,_,_,_,_,_] oG iT) ?_
   refine .gT rfl rfl ?_
   refine .o (.lZ (first:=[]) (cap:=[]) rfl rfl (BP q.kind) (BO (s:=s) hs h1 h2 hk) ?_);rintro _ w ⟨b28,rfl,hb28,hs⟩
   refine .gT rfl rfl ?_
   refine .z eL (.z zpF (.nil ?_))
   refine (.cond rfl (fun hc30=>?_) (fun hc30=>?_))
   ·refine .ai (.z zg (.z zg (.z zg (.nil ?_))))
    refine .ret (rT (?_))
    have hn:¬dN s q:=fun h=>by rw [hb28.2 h] at hc30;cases hc30
    exact Fin.gQ [] [] hs fun w hs=>⟨_,results3 Tryz.results130 rfl rfl rfl,H,_,[],_,_,.nul,HLe.refl H,rfl,.nil 1 none,.inr ⟨rfl,hn,rfl,rfl⟩,hs.out.nul⟩
   ·refine .skip ?_
    refine nT ?_
    refine .ai ?_
    refine .o (.buildSlice (cells:=[_]) hs cP rfl rfl fun b31 w hs=>?_)
    refine .o (.alloc hs dY rfl fun b10 w hs=>?_)
    refine .o (.store hs rfl rfl aJ fun w hs=>?_)
    refine .nil (.seq (.ai (.y hs (zls [_,_,_,_,_,_] bI aV) ?_)))
    have hq:dN s q:=hb28.1 (by simpa using hc30)
    refine .o (.call zp rfl (dO (s:=s) hs h1 h2 ⟨ak,ak⟩) ?_);rintro _ w ⟨H1,ba,hle1,rfl,hit,hs⟩
    have hwl:=fw s q
    refine .nil (.block ?_)
    refine .rangeFunc (gf:=188) (cap:=[.pointer (some ⟨ba,0,none⟩)]) (xs:=s9 s) (σb:=[.blk b10 [.slice (some ⟨b31,0,none⟩) 1 1],.blk b31 (Is [0]),.blk b7 [.func (.func (yO q.kind)) #[] #[],.func (.func (yG q.kind)) #[] #[],I (oE q)],.blk b9 [I q.kind,I q.st,I q.wa,I s.id,I s.src,(.slice ast s.st.length cst),(.slice awa s.wa.length cwa),I s.al,I s.up]]) (σf:=σ) (hs.sb) trivial rfl hit zo (fun x hx=>by
      simp only [s9,List.mem_map] at hx
      obtain ⟨j,_,rfl⟩:=hx;rfl) rfl
     (I:=fun p H' σb=>∃vo en,σb=[.blk b10 [vo],en,.blk b7 [.func (.func (yO q.kind)) #[] #[],.func (.func (yG q.kind)) #[] #[],I (oE q)],.blk b9 [I q.kind,I q.st,I q.wa,I s.id,I s.src,(.slice ast s.st.length cst),(.slice awa s.wa.length cwa),I s.al,I s.up]]∧cR 1 vo (Is ((jJ s q).take (p+1))) en) (Ix:=fun _ _ _=>False)
     (fun j _ _ σ g1 g2=>g2) (fun _ _ _ _ _ h=>h) ⟨_,_,rfl,.full rfl⟩ ?_ ?_ (fun D c H' σb w _ h _=>h.elim)
    ·rintro ly p hp H2 σb2 σf2 w hle2 ⟨vo,en,rfl,hO⟩ hs ⟨rr,hrr⟩
     have hpm:p<s.many:=by rw [dc] at hp;exact hp
     have hin:p/s.wa.length<s.st.length:=Nat.div_lt_of_lt_mul (by rw [Nat.mul_comm];exact hpm)
     have hkm:=Nat.mod_lt p hsm.2.2.1
     have hws:=uM s q hpm
     have hget:(jJ s q)[p+1]? =some (mi s q (p/s.wa.length) (p%s.wa.length)):=by rw [←hws];exact bE ak
     rw [jX hp]
     obtain ⟨al,ll,cl,rfl,hll⟩:=hO.shape
     generalize p/s.wa.length=i at*
     generalize p%s.wa.length=k at*
     refine .region ?_
     refine .o (.alloc hs iz rfl fun b11 w hs=>?_)
     refine .o (.aI (vs:=[_,_,_]) hs rfl rfl mg fun w hs=>?_)
     refine .nil ?_
     refine nT ?_
     refine ⟨H2,[.blk b11 [I (i:Int),I (k:Int),I ((p+1:Nat):Int)],.blk b10 [Value.slice al ll cl],en,.blk b7 [.func (.func (yO q.kind)) #[] #[],.func (.func (yG q.kind)) #[] #[],I (oE q)],.blk b9 [I q.kind,I q.st,I q.wa,I s.id,I s.src,(.slice ast s.st.length cst),(.slice awa s.wa.length cwa),I s.al,I s.up]],HLe.refl _,hs,?_⟩;rintro w σf4 - hs
     refine .block ?_
     refine .draw mix rfl hs fun w hs=>?_
     refine .y 0 rfl hs aq ?_;refine .z 1 rfl (zfa pn) ?_
     refine .y 2 rfl hs Tryz.isAgg234 ?_
     refine .ys 3 rfl hs [_,_,_,_,_,_,_,_,_] oG iT ?_;refine .ys 4 rfl hs [_,_,_] Tryz.isAgg190 mg ?_
     refine .E 5 hs ?_
     refine .lZ (first:=[]) (cap:=[]) rfl rfl (Bz q.kind) (By (s:=s) (q:=q) (i:=i) (k:=k) hs (h1.mono (hle1.trans hle2)) (h2.mono (hle1.trans hle2)) hok hq hk hin hkm) ?_;rintro _ w ⟨H3,hle3,rfl,hs⟩
     refine .go ?_
     refine .E 6 hs ?_
     refine .buildSlice (cells:=[_]) hs cP rfl rfl ?_;intro b41 w hs
     refine .go ?_
     refine .E 7 hs ?_
     refine .append (ys:=Is [mi s q i k]) hs da rfl rfl hO (.own .here rfl rfl) (lC _) (fun l h=>by simp at h;omega) ?_;intro v42 en42 w hO2 hs
     rw [show Is ((jJ s q).take (p+1))++Is [mi s q i k]=Is ((jJ s q).take (p+1+1)) by rw [bU hget];simp [Is]] at hO2
     obtain ⟨a42,l42,c42,rfl,h42⟩:=hO2.shape
     refine .go ?_
     refine .E 8 hs ?_
     refine .store hs rfl rfl aJ ?_;intro w hs
     refine .go ?_
     refine .D hs ?_
     refine nB ?_
     exact ⟨H3,[.blk b10 [.slice a42 l42 c42],en42,.blk b7 [.func (.func (yO q.kind)) #[] #[],.func (.func (yG q.kind)) #[] #[],I (oE q)],.blk b9 [I q.kind,I q.st,I q.wa,I s.id,I s.src,(.slice ast s.st.length cst),(.slice awa s.wa.length cwa),I s.al,I s.up]],hle3,(hs.sb:St H3 w (.blk b10 _::en42:: .blk b7 _:: .blk b9 _::σf4)),_,_,rfl,hO2⟩
    ·rintro D H2 σb2 w hle2 ⟨vo,en,rfl,hO⟩ hs
     rw [dc,←hwl,List.take_length] at hO
     replace hs:St H2 w (.obj D (.deferred (some [])):: .blk b10 [vo]::en:: .blk b7 [.func (.func (yO q.kind)) #[] #[],.func (.func (yG q.kind)) #[] #[],I (oE q)]:: .blk b9 [I q.kind,I q.st,I q.wa,I s.id,I s.src,(.slice ast s.st.length cst),(.slice awa s.wa.length cwa),I s.al,I s.up]::σ):=hs
     obtain ⟨al,ll,cl,rfl,hll⟩:=hO.shape
     refine nB (nT ?_)
     refine .seq (.draw mix rfl hs fun w hs=>?_)
     refine .y 0 rfl hs aq ?_;refine .z 1 rfl (zfa pk) ?_;refine .y 2 rfl hs ae ?_;refine .z 3 rfl zg ?_;refine .z 4 rfl zg ?_;refine .z 5 rfl zg ?_;refine .D hs ?_
     refine .ret ?_
     exact Fin.gQ [D] [] hs fun w hs=>⟨_,results3 Tryz.results130 rfl rfl rfl,H2,_,_,_,_,en,hle1.trans hle2,rfl,hO,.inl ⟨rfl,hq,rfl,rfl⟩,hs.sb⟩
theorem gw{a d:Int}(hs:St H w σ)(hd:1≤d)(ha: -4608000000000000000≤a∧a≤4608000000000000000):
  Cl Tryz.prog 132 [I a,I d] w fun v w'=>v=I (a/d)∧St H w' σ:=by
 have hq: -4608000000000000000≤a.tdiv d∧a.tdiv d≤4608000000000000000:=by
  have h1:=qz (n:=a) (d:=d) ak
  have h2:a/d≤4608000000000000000:=Int.ediv_le_of_le_mul ak (by
   have:=Int.mul_le_mul_of_nonneg_left hd (show (0:Int)≤4608000000000000000 by omega);omega)
  have h3: -4608000000000000000≤a/d:=Int.le_ediv_of_mul_le ak (by
   have:=Int.mul_le_mul_of_nonneg_left hd (show (0:Int)≤4608000000000000000 by omega);omega)
  by_cases h0:0≤a
  ·rw [Int.tdiv_eq_ediv_of_nonneg h0];omega
  ·split at h1
   ·have:a/d<0:=Int.ediv_neg_of_neg_of_pos ak ak
    omega
   ·omega
 have hfl:=qz (n:=a) (d:=d) ak
 refine Cl.o Tryz.func132 Tryz.ntmps132 ag2 ?_
 refine .ai (.z zg (.nil (.ai (.z zm (.z zm ?_)))))
 refine .q hs (vg rfl rfl ak ⟨ak,ak⟩) ?_
 refine .z zg (.nil (.seq (.ai (.z zm (.z zm (.z Es (.z kM (.nil ?_))))))))
 refine (.cz rfl (fun hc12=>?_) (fun hc12=>?_))
 ·refine .region (.z zm (.z fu (.z zg (.nil ?_))))
  refine nT ?_
  refine .ai (.z zm (.z zg (.nil ?_)))
  refine .ret (Fin.bg Tryz.results132 rfl ?_)
  rw [if_pos hc12] at hfl
  exact ⟨by rw [hfl],hs⟩
 ·refine .skip ?_
  refine nT ?_
  refine .ai (.z zm (.z zg (.nil ?_)))
  refine .ret (Fin.bg Tryz.results132 rfl ?_)
  rw [if_neg hc12,Int.sub_zero] at hfl
  exact ⟨by rw [hfl],hs⟩
theorem mV{s:Srv}{vst vwa vr vc:Value}(hs:St H w σ)(h1:RI H vst s.sp.st)(h2:RI H vwa s.sp.wa)(h3:RRd H vr s.rs)(h4:RCm H vc s.cs)(hok:cf s):
  Cl Tryz.prog 178 [.agg #[I s.sp.id,I s.sp.src,vst,vwa,I s.sp.al,I s.sp.up,vr,vc]] w fun u w'=>∃H1,∃b:Bool,HLe H H1∧u= .bool b∧(b=true↔s.sys.Sound)∧St H1 w' σ:=by
 refine Cl.o Tryz.func178 Tryz.ntmps178 ag1 ?_
 refine .ai ?_
 refine .bx hs fun b1 w hs=>?_
 refine .z zg (.nil (.ai (.y hs (zls [_,_,_,_,_,_,_,_] aS aF) ?_)))
 refine .o (.call GO rfl (dE (s:=s) hs h1 h2 h3 h4 hok.early) ?_);rintro v7 w ⟨H1,hle1,hS,hs⟩
 refine .o (.call Tryz.call221 rfl (qg (s:=s.sys) hs hS) ?_);rintro _ w ⟨H2,vx,xs,e,hle2,rfl,rx,hC,hs⟩
 obtain ⟨ax,cx,rfl⟩:=RI.shape rx
 have hchk:s.sys.check=0:=s.sys.aH.2 hok.sys
 obtain rfl:e=0:=by
  cases hC with
  |bad h=>exact (h hchk).elim
  |sound=>rfl
  |chain=>rfl
 have hiff:=hC.zP
 refine .z zm (.z zex (.z zex (.z zg (.z zg (.nil (.ai (.z zm (.z iP (.z zm ?_)))))))))
 refine .gM (t':=13) rfl (fun hb13=>?_) (fun hb13=>?_)
 ·refine .gT rfl rfl ?_
  refine .z zm ?_
  refine .gT rfl rfl ?_
  refine .z (dp af) ?_
  refine .gT rfl rfl ?_
  refine .z iP (.z zpT (.z zg (.nil ?_)))
  refine .ret (Fin.bg Tryz.results178 rfl ?_)
  first
  |exact ⟨H2,_,hle1.trans hle2,rfl,by rw [←hiff,decide_eq_true_eq];exact ⟨fun h=>List.length_eq_zero_iff.1 ak,fun h=>by rw [h];rfl⟩,hs.out⟩
  |exact (hb13 rfl).elim
 ·refine .gFs 3 2 true rfl rfl rfl ?_
  refine .z zpF (.z zg (.nil ?_))
  refine .ret (Fin.bg Tryz.results178 rfl ?_)
  first
  |exact ⟨H2,_,hle1.trans hle2,rfl,by rw [←hiff,decide_eq_true_eq];exact ⟨fun h=>List.length_eq_zero_iff.1 ak,fun h=>by rw [h];rfl⟩,hs.out⟩
  |exact (hb13 rfl).elim
theorem CE(L:List Int)(j:Nat):L++List.replicate j 0++[0]=L++List.replicate (j+1) 0:=by
 rw [List.append_assoc,←List.replicate_succ']
set_option maxHeartbeats 1000000 in
theorem p5{s:Srv}{q:Wht}{vst vwa vr vc:Value}(hs:St H w σ)(h1:RI H vst s.sp.st)(h2:RI H vwa s.sp.wa)(h3:RRd H vr s.rs)(h4:RCm H vc s.cs)(hok:cf s):
  Cl Tryz.prog 177 [.agg #[I s.sp.id,I s.sp.src,vst,vwa,I s.sp.al,I s.sp.up,vr,vc],.agg #[I q.kind,I q.st,I q.wa]] w fun u w'=>∃H1 ul vw L d b,HLe H H1∧u= .tuple #[.agg #[I s.sys.many,ul,vw,I d],.bool b]∧RL H1 ul s.bD∧RI H1 vw L∧L.length=s.sys.n∧((b=true∧dN s.sp q∧L=s.w q∧d=oE q)∨(b=false∧¬dN s.sp q))∧St H1 w' σ:=by
 have hn:=rZ s
 have hm:=hok.many
 have hsm:s.sys.many+1=(s.sys.n:Int):=by rw [hn];show ((s.sp.many+s.bn.length:Nat):Int)+1=_;omega
 refine Cl.o Tryz.func177 Tryz.ntmps177 ag2 ?_
 refine .ai ?_
 refine .bx hs fun b2 w hs=>?_
 refine .bx hs fun b3 w hs=>?_
 refine .o (.alloc hs uH rfl fun b4 w hs=>?_)
 refine .z zg (.nil (.ai (.y hs (zls [_,_,_,_,_,_,_,_] aS aF) ?_)))
 refine .o (.call GO rfl (dE (s:=s) hs h1 h2 h3 h4 hok.early) ?_);rintro _ w ⟨H1,hle1,⟨ul,rfl,hL⟩,hs⟩
 obtain ⟨al,cl,rfl⟩:=RL.shape hL
 refine .o (.alloc hs ez rfl fun b6 w hs=>?_)
 refine .o (.aI (vs:=[_,_]) hs rfl rfl aC fun w hs=>?_)
 refine .nil (.ai (.z (zfa bC) (.y hs (zls [_,_,_,_,_,_] bI aV) (.y hs (zls [_,_,_] wz gd) ?_))))
 refine .o (.call Tryz.call130 rfl (ie (s:=s.sp) (q:=q) hs (h1.mono hle1) (h2.mono hle1) hok.early.1) ?_);rintro _ w ⟨H2,vl,L0,d,b,en,hle2,rfl,hO,hcase,hs⟩
 have hL0:L0.length≤s.sys.n:=by
  rcases hcase with ⟨_,_,rfl,_⟩|⟨_,_,rfl,_⟩
  ·rw [fw,hn];omega
  ·simp
 have hle02:=hle1.trans hle2
 refine .z zm (.z zex (.z zex (.z zex (.z zg (.z zg (.z zg (.nil (.seq (.block ?_)))))))))
 refine .loop (fun p:Nat×Value=>⟨34,[],[(7,p.2),(8,I d),(9,.bool b),(6,.pointer (some ⟨b6,0,none⟩)),(4,.pointer (some ⟨b4,0,none⟩))]⟩)
  (fun p w=>L0.length+p.1≤s.sys.n∧∃en,cR 1 p.2 (Is (L0++List.replicate p.1 0)) en∧St H2 w (en:: .blk b6 [I s.sys.many,.slice al s.bD.length cl]:: .blk b4 [I 0,.slice none 0 0,.slice none 0 0,I 0]::σ)) (fun p=>s.sys.n - (L0.length+p.1)) (0,vl) bS
  ⟨by simpa using hL0,en,by simpa using hO,hs.sb⟩ ?_
 clear hO hs
 rintro ⟨j,vo⟩ w ⟨hj,en,hO,hs⟩
 dsimp only at hj hO ⊢
 obtain ⟨ao,lo,co,rfl,hlo⟩:=hO.shape
 have hlo':lo=L0.length+j:=by simp [Is] at hlo;omega
 refine .seq (.ai (.z zm (.z (dp af) (.z (zfa bL) (.y hs (zld ae) (.z dP (.z kM (.nil ?_))))))))
 refine (.cz rfl (fun hc25=>?_) (fun hc25=>?_))
 ·refine .skip ?_
  refine nT ?_
  refine .block (.region (.z zm ?_))
  refine .o (.buildSlice (cells:=[_]) hs cP rfl rfl fun b27 w hs=>?_)
  refine .o (.append (ys:=Is [0]) hs da rfl rfl hO (.own .here rfl rfl) (lC _) (fun l' h=>by simp [Is] at h;omega) ?_);intro v28 en28 w hO2 hs
  rw [show Is (L0++List.replicate j 0)++Is [0]=Is (L0++List.replicate (j+1) 0) by rw [←CE];simp [Is]] at hO2
  refine .z zg (.nil ?_)
  refine nB (nT ?_)
  exact ⟨(j+1,v28),bS,⟨by dsimp only;omega,_,hO2,hs.sb⟩,by dsimp only;omega⟩
 ·refine .exit ?_
  refine xT (xT (xB (nT ?_)))
  refine .ai (.y hs (zls [_,_] bh aC) (.z zm (.z zm (.z (zbd [_,_,_,_] dZ) (.z zm ?_)))))
  refine .o (.aI (vs:=[_,_,_,_]) hs rfl rfl dt fun w hs=>?_)
  refine .z zg (.nil ?_)
  refine .ret ?_
  have hjn:L0.length+j=s.sys.n:=by omega
  obtain ⟨H3,hle3,hR,hs⟩:=cR.dH hO (by simp;omega) hs eF
  exact Fin.gQ [] [] hs fun w hs=>⟨_,results2 Tryz.results177 (dB (vs:=[_,_,_,_]) hs rfl wx dt) rfl,H3,_,_,_,d,b,hle02.trans hle3,rfl,hL.mono (hle2.trans hle3),hR,by simp;omega,by
   rcases hcase with ⟨g1,g2,rfl,g3⟩|⟨g1,g2,_,_⟩
   ·refine .inl ⟨g1,g2,?_,g3⟩
    rw [fw,hn] at hjn
    unfold Srv.w;rw [show j=s.bn.length by omega]
   ·exact .inr ⟨g1,g2⟩,hs.out⟩
inductive qo(v:Srv)(q:Wht):Int→Prop
 |bad {e:Int} (h:pO v e) (he:e≠0):qo v q e
 |what (h:cf v) (h1:¬dN v.sp q):qo v q 33
 |fls (h:cf v) (h1:dN v.sp q) (h2:¬v.sys.Sound):qo v q 35
 |ok (h:cf v) (h1:dN v.sp q) (h2:v.sys.Sound):qo v q 0
theorem qo.zero{v:Srv}{q:Wht}(h:qo v q 0):cf v∧dN v.sp q∧v.sys.Sound:=by
 generalize hz:(0:Int)=z at h
 cases h with
 |bad h he=>exact (he hz.symm).elim
 |what=>omega
 |fls=>omega
 |ok h h1 h2=>exact ⟨h,h1,h2⟩
theorem qo.qty{v:Srv}{q:Wht}{e:Int}(h:qo v q e)(he:e≠0):uv v q 0 0 e:=by
 cases h with
 |bad h he=>exact .bad h he
 |what h h1=>exact .what h h1
 |fls h h1 h2=>exact .fls h h1 h2
 |ok=>exact (he rfl).elim
set_option maxHeartbeats 1000000 in
theorem nI{s:Srv}{q:Wht}{vst vwa vr vc:Value}(hs:St H w σ)(h1:RI H vst s.sp.st)(h2:RI H vwa s.sp.wa)(h3:RRd H vr s.rs)(h4:RCm H vc s.cs):
  Cl Tryz.prog 125 [.agg #[I s.sp.id,I s.sp.src,vst,vwa,I s.sp.al,I s.sp.up,vr,vc],.agg #[I q.kind,I q.st,I q.wa]] w fun u w'=>∃H1 m ul vw d e,HLe H H1∧u= .tuple #[.agg #[I m,ul,vw,I d],I e]∧(∃a l c,ul= .slice a l c)∧(∃a l c,vw= .slice a l c)∧qo s q e∧(e=0→m=s.sys.many∧RL H1 ul s.bD∧RI H1 vw (s.w q)∧d=oE q)∧St H1 w' σ:=by
 refine Cl.o Tryz.func125 Tryz.ntmps125 ag2 ?_
 refine .ai ?_
 refine .bx hs fun b2 w hs=>?_
 refine .bx hs fun b3 w hs=>?_
 refine .o (.alloc hs uH rfl fun b4 w hs=>?_)
 refine .z zg (.nil (.seq (.ai (.y hs (zls [_,_,_,_,_,_,_,_] aS aF) ?_))))
 refine .o (.call GP rfl (dQ (s:=s) hs h1 h2 h3 h4) ?_);rintro _ w ⟨H1,e,hle1,rfl,hC,hs⟩
 refine .z zg (.nil (.ai (.z zm (.z ia (.nil ?_)))))
 refine (.dU rfl (fun hc12=>?_) (fun hc12=>?_))
 ·refine .ai (.z (zbd [_,_,_,_] dZ) (.z zm ?_))
  refine .o (.aI (vs:=[_,_,_,_]) hs rfl rfl dt fun w hs=>?_)
  refine .z zg (.nil ?_)
  refine .ret (rT (?_))
  exact Fin.gQ [] [] hs fun w hs=>⟨_,results2 Tryz.results125 (dB (vs:=[_,_,_,_]) hs rfl wx dt) rfl,H1,_,_,_,_,e,hle1,rfl,⟨_,_,_,rfl⟩,⟨_,_,_,rfl⟩,.bad hC hc12,fun h=>(hc12 h).elim,hs.out⟩
 ·refine .skip ?_
  refine nT ?_
  refine .ai (.y hs (zls [_,_,_,_,_,_,_,_] aS aF) (.y hs (zls [_,_,_] wz gd) ?_))
  have hok:cf s:=hC.aH.1 (by simpa using hc12)
  refine .o (.call Tryz.call177 rfl (p5 (s:=s) (q:=q) hs (h1.mono hle1) (h2.mono hle1) (h3.mono hle1) (h4.mono hle1) hok) ?_);rintro _ w ⟨H2,ul,vw,L,d,b,hle2,rfl,hL,hR,hLl,hcase,hs⟩
  have hle02:=hle1.trans hle2
  obtain ⟨al,cl,rfl⟩:=RL.shape hL
  obtain ⟨aw,cw,rfl⟩:=RI.shape hR
  refine .z zm (.z zex (.z zex ?_))
  refine .o (.alloc hs uH rfl fun b7 w hs=>?_)
  refine .o (.aI (vs:=[_,_,_,_]) hs rfl rfl dt fun w hs=>?_)
  refine .z zg (.nil (.seq (.block (.ai (.z zm (.z eL (.z zg (.nil ?_))))))))
  refine (.cond rfl (fun hc21=>?_) (fun hc21=>?_))
  ·refine .ai (.z (zbd [_,_,_,_] dZ) ?_)
   refine .o (.aI (vs:=[_,_,_,_]) hs rfl rfl dt fun w hs=>?_)
   refine .z zg (.nil ?_)
   refine .ret (rB (rT (?_)))
   have hq:¬dN s.sp q:=by
    rcases hcase with ⟨g,_⟩|⟨_,g⟩
    ·subst g;cases hc21
    ·exact g
   exact Fin.gQ [] [] hs fun w hs=>⟨_,results2 Tryz.results125 (dB (vs:=[_,_,_,_]) hs rfl wx dt) rfl,H2,_,_,_,_,_,hle02,rfl,⟨_,_,_,rfl⟩,⟨_,_,_,rfl⟩,.what hok hq,fun h=>by omega,hs.out⟩
  ·refine .ai (.y hs (zls [_,_,_,_,_,_,_,_] aS aF) ?_)
   obtain ⟨rfl,hq,rfl,rfl⟩:b=true∧dN s.sp q∧L=s.w q∧d=oE q:=hcase.resolve_right fun h=>by rw [h.1] at hc21;cases hc21
   refine .o (.call Tryz.call178 rfl (mV (s:=s) hs (h1.mono hle02) (h2.mono hle02) (h3.mono hle02) (h4.mono hle02) hok) ?_);rintro _ w ⟨H3,b27,hle3,rfl,hb27,hs⟩
   refine .z eL (.z zg (.nil ?_))
   refine (.cond rfl (fun hc25=>?_) (fun hc25=>?_))
   ·refine .ai (.z (zbd [_,_,_,_] dZ) ?_)
    refine .o (.aI (vs:=[_,_,_,_]) hs rfl rfl dt fun w hs=>?_)
    refine .z zg (.nil ?_)
    refine .ret (rB (rT (?_)))
    exact Fin.gQ [] [] hs fun w hs=>⟨_,results2 Tryz.results125 (dB (vs:=[_,_,_,_]) hs rfl wx dt) rfl,H3,_,_,_,_,_,hle02.trans hle3,rfl,⟨_,_,_,rfl⟩,⟨_,_,_,rfl⟩,.fls hok hq (fun h=>by rw [hb27.2 h] at hc25;cases hc25),fun h=>by omega,hs.out⟩
   ·refine .skip ?_
    refine nB (nT ?_)
    refine .ai (.y hs (zls [_,_,_,_] wx dt) ?_)
    refine .o (.aI (vs:=[_,_,_,_]) hs rfl rfl dt fun w hs=>?_)
    refine .z zg (.nil ?_)
    refine .ret ?_
    exact Fin.gQ [] [] hs fun w hs=>⟨_,results2 Tryz.results125 (dB (vs:=[_,_,_,_]) hs rfl wx dt) rfl,H3,_,_,_,_,_,hle02.trans hle3,rfl,⟨_,_,_,rfl⟩,⟨_,_,_,rfl⟩,.ok hok hq (hb27.1 (by simpa using hc25)),fun _=>⟨rfl,hL.mono hle3,hR.mono hle3,rfl⟩,hs.out⟩
set_option maxHeartbeats 1000000 in
theorem nM{s:Srv}{q:Wht}{vst vwa vr vc:Value}(hs:St H w σ)(h1:RI H vst s.sp.st)(h2:RI H vwa s.sp.wa)(h3:RRd H vr s.rs)(h4:RCm H vc s.cs):
  Cl Tryz.prog 174 [.agg #[I s.sp.id,I s.sp.src,vst,vwa,I s.sp.al,I s.sp.up,vr,vc],.agg #[I q.kind,I q.st,I q.wa]] w fun u w'=>∃H1 lo hi e,HLe H H1∧u= .tuple #[.agg #[I lo,I hi],I e]∧uv s q lo hi e∧St H1 w' σ:=by
 refine Cl.o Tryz.func174 Tryz.ntmps174 ag2 ?_
 refine .ai ?_
 refine .bx hs fun b2 w hs=>?_
 refine .bx hs fun b3 w hs=>?_
 refine .o (.alloc hs br rfl fun b4 w hs=>?_)
 refine .z zg (.nil (.ai (.y hs (zls [_,_,_,_,_,_,_,_] aS aF) (.y hs (zls [_,_,_] wz gd) ?_))))
 refine .o (.call Tryz.call125 rfl (nI (s:=s) (q:=q) hs h1 h2 h3 h4) ?_);rintro _ w ⟨H1,m,ul,vw,d,e,hle1,rfl,⟨al,ll,cl,rfl⟩,⟨aw,lw,cw,rfl⟩,hA,hA0,hs⟩
 refine .z zm (.z zex (.z zex ?_))
 refine .o (.alloc hs uH rfl fun b6 w hs=>?_)
 refine .o (.aI (vs:=[_,_,_,_]) hs rfl rfl dt fun w hs=>?_)
 refine .z zg (.nil (.seq (.ai (.z zm (.z ia (.nil ?_))))))
 refine (.dU rfl (fun hc17=>?_) (fun hc17=>?_))
 ·refine .ai (.z (zbd [_,_] bu) (.z zm ?_))
  refine .o (.aI (vs:=[_,_]) hs rfl rfl au fun w hs=>?_)
  refine .z zg (.nil ?_)
  refine .ret (rT (?_))
  exact Fin.gQ [] [] hs fun w hs=>⟨_,results2 Tryz.results174 (dB (vs:=[_,_]) hs rfl aB au) rfl,H1,_,_,_,hle1,rfl,hA.qty hc17,hs.out⟩
 ·refine .skip ?_
  refine nT ?_
  refine .ai (.z (zfa lh) (.y hs (zls [_,_] bh aC) (.z (zfa ld) (.y hs (zld aq) ?_))))
  obtain rfl:e=0:=by simpa using hc17
  obtain ⟨rfl,hL,hR,rfl⟩:=hA0 rfl
  obtain ⟨hok,hq,hsd⟩:=hA.zero
  refine .o (.call Tryz.call219 rfl (qf (s:=s.sys) hs ⟨_,rfl,hL⟩ hR) ?_);rintro _ w ⟨H2,lo,hi,f,hle2,rfl,hRg,hs⟩
  obtain rfl:=oe (hok.ask hq) hsd (fun b=>s.both) hRg
  have hbd:=hRg.bd
  have hdp:=tX q
  refine .z zm (.z zex (.z zex (.z zex (.z zg (.z zg (.z zg (.nil (.seq (.ai ?_)))))))))
  refine .z zm (.z ia (.nil ?_))
  refine (.dU rfl (fun hc30=>?_) (fun hc30=>?_))
  ·refine .ai (.z (zbd [_,_] bu) (.z zm ?_))
   refine .o (.aI (vs:=[_,_]) hs rfl rfl au fun w hs=>?_)
   refine .z zg (.nil ?_)
   refine .ret (rT (?_))
   exact (hc30 rfl).elim
  ·refine .skip ?_
   refine nT ?_
   refine .seq (.draw mix rfl hs fun w hs=>?_)
   refine .z 0 rfl zm ?_;refine .z 1 rfl (zfa gI) ?_;refine .y 2 rfl hs ae ?_;refine .z 4 rfl zm ?_;refine .z 5 rfl (zfa gI) ?_;refine .y 6 rfl hs ae ?_
   refine .E 3 hs ?_
   refine .call Tryz.call132 rfl (gw hs ak ak) ?_;rintro _ w ⟨rfl,hs⟩
   refine .go ?_
   refine .E 7 hs ?_
   refine .call Tryz.call132 rfl (gw hs ak ak) ?_;rintro _ w ⟨rfl,hs⟩
   refine .go ?_
   refine .z 8 rfl (zbd [_,_] bu) ?_
   refine .E 9 hs ?_
   refine .aI (vs:=[_,_]) hs rfl rfl au ?_;intro w hs
   refine .go ?_
   refine .z 10 rfl zg ?_;refine .D hs ?_
   refine .ret ?_
   exact Fin.gQ [] [] hs fun w hs=>⟨_,results2 Tryz.results174 (dB (vs:=[_,_]) hs rfl aB au) rfl,H2,_,_,_,hle1.trans hle2,rfl,.ok hok hq hsd hRg,hs.out⟩
inductive rM(v:Srv)(out:List Int):Int→Prop
 |bad {e:Int} (h:pO v e) (he:e≠0) (h1:out=[]):rM v out e
 |ok {e:Int} (h:cf v) (h1:sx v.sys out e):rM v out e
theorem nL{s:Srv}{vst vwa vr vc:Value}(hs:St H w σ)(h1:RI H vst s.sp.st)(h2:RI H vwa s.sp.wa)(h3:RRd H vr s.rs)(h4:RCm H vc s.cs):
  Cl Tryz.prog 175 [.agg #[I s.sp.id,I s.sp.src,vst,vwa,I s.sp.al,I s.sp.up,vr,vc]] w fun u w'=>∃H1 vx out e,HLe H H1∧u= .tuple #[vx,I e]∧RI H1 vx out∧rM s out e∧St H1 w' σ:=by
 refine Cl.o Tryz.func175 Tryz.ntmps175 ag1 ?_
 refine .ai ?_
 refine .bx hs fun b1 w hs=>?_
 refine .z zg (.z zg (.nil (.seq (.ai (.y hs (zls [_,_,_,_,_,_,_,_] aS aF) ?_)))))
 refine .o (.call GP rfl (dQ (s:=s) hs h1 h2 h3 h4) ?_);rintro _ w ⟨H1,e,hle1,rfl,hC,hs⟩
 refine .z zg (.nil (.ai (.z zm (.z ia (.nil ?_)))))
 refine (.dU rfl (fun hc10=>?_) (fun hc10=>?_))
 ·refine .ai (.z zm (.z zg (.z zg (.nil ?_))))
  refine .ret (rT (Fin.fY Tryz.results175 rfl rfl ?_))
  exact ⟨H1,_,[],_,hle1,rfl,RS.nil H1 1 none 0,.bad hC hc10 rfl,hs.out⟩
 ·refine .skip ?_
  refine nT ?_
  refine .ai (.y hs (zls [_,_,_,_,_,_,_,_] aS aF) ?_)
  have hok:cf s:=hC.aH.1 (by simpa using hc10)
  refine .o (.call GO rfl (dE (s:=s) hs (h1.mono hle1) (h2.mono hle1) (h3.mono hle1) (h4.mono hle1) hok.early) ?_);rintro v14 w ⟨H2,hle2,hS,hs⟩
  refine .o (.call Tryz.call220 rfl (na (s:=s.sys) hs hS) ?_);rintro _ w ⟨H3,vx,out,f,hle3,rfl,hR,hCf,hs⟩
  refine .z zm (.z zex (.z zex (.z zg (.z zg (.nil (.ai (.z zm (.z zm (.z zg ?_)))))))))
  refine .z zg (.nil ?_)
  refine .ret (Fin.fY Tryz.results175 rfl rfl ?_)
  exact ⟨H3,_,out,_,hle1.trans (hle2.trans hle3),rfl,hR,.ok hok hCf,hs.out⟩
theorem kR{v:Value}{rs:List (List Int)}{g:Nat}{cap:List Value}(q:List Int→Prop)(hs:St H w σ)(hR:RT H v rs)(hl:rs.length≤9223372036854775807)(hc:∀args w,(callFunc g args).run Tryz.prog w= .ok (.enter g args) w)
  (hp:∀H' w σ r u,HLe H H'→RI H' u r→St H' w σ→Cl Tryz.prog g ([u]++cap) w fun z w'=>∃H1 b,HLe H' H1∧z= .bool b∧(b=true↔q r)∧St H1 w' σ):
  Cl Tryz.prog 227 [v,.func (.func g) #[] cap.toArray] w fun u w'=>∃H1 i,HLe H H1∧u=I i∧(0≤i↔∃x∈rs,q x)∧St H1 w' σ:=by
 obtain ⟨a,c,rfl⟩:=hR.shape
 refine Cl.o Tryz.func227 Tryz.ntmps227 ag2 ?_
 refine .ai (.z zg (.nil (.seq (.ai (.z zm (.z (dp dh) (.z zm (.nil ?_))))))))
 refine .for (N:=rs.length) (J:=fun k fr w=>fr=[(1,.func (.func g) #[] cap.toArray),(0,.slice a rs.length c)]∧∃H1,HLe H H1∧(∀j<k,∀y,rs[j]? =some y→¬q y)∧St H1 w σ) ak ?_ ?_ ?_
 ·exact .mk ⟨rfl,H,HLe.refl H,fun j hj=>by omega,hs⟩
 ·rintro k fr w hk ⟨rfl,H1,hle1,hno,hs⟩
  have hx:=rf (rs:=rs) hk
  refine .block (.ai (.z zm (.z zg (.nil (.ai (.z zm (.z zm (.z zm ?_))))))))
  refine .ixT hs (hR.mono hle1) rfl rfl dh aJ (show k<_ by omega) cU ?_;intro b14 o14 a14 c14 hc14 hR14
  refine .q hs (a6 rfl aq hc14) ?_
  refine .o (.lZ (first:=[]) (cap:=cap) rfl rfl hc (hp _ _ _ (gr rs k) _ hle1 hR14 hs) ?_);rintro _ w ⟨H2,b16,hle2,rfl,hb16,hs⟩
  refine .nil ?_
  refine (.cond rfl (fun hc16=>?_) (fun hc16=>?_))
  ·refine .ai (.z zm (.z zg (.nil ?_)))
   refine .ret (rB (rT (rB (rT (Fin.bg Tryz.results227 rfl ?_)))))
   exact ⟨H2,_,hle1.trans hle2,rfl,⟨fun _=>⟨_,List.mem_of_getElem? hx,hb16.1 hc16⟩,fun _=>by omega⟩,hs⟩
  ·refine .skip ?_
   refine nB (nT ?_)
   exact .mk ⟨rfl,H2,hle1.trans hle2,eA hno hx (fun h=>by rw [hb16.2 h] at hc16;cases hc16),hs⟩
 ·rintro fr w ⟨rfl,H1,hle1,hno,hs⟩
  refine nT ?_
  refine .ai (.z zg (.nil ?_))
  refine .ret (Fin.bg Tryz.results227 rfl ?_)
  exact ⟨H1,_,hle1,rfl,⟨fun h=>by omega,fun ⟨x,h1,h2⟩=>by
   obtain ⟨j,hj⟩:=List.getElem?_of_mem h1
   exact (hno j (List.getElem?_eq_some_iff.1 hj).1 x hj h2).elim⟩,hs⟩
theorem jy{v:Value}{rs:List (List Int)}{g:Nat}{cap:List Value}(q:List Int→Prop)(hs:St H w σ)(hR:RT H v rs)(hl:rs.length≤9223372036854775807)(hc:∀args w,(callFunc g args).run Tryz.prog w= .ok (.enter g args) w)
  (hp:∀H' w σ r u,HLe H H'→RI H' u r→St H' w σ→Cl Tryz.prog g ([u]++cap) w fun z w'=>∃H1 b,HLe H' H1∧z= .bool b∧(b=true↔q r)∧St H1 w' σ):
  Cl Tryz.prog 183 [v,.func (.func g) #[] cap.toArray] w fun u w'=>∃H1 b,HLe H H1∧u= .bool b∧(b=true↔∃x∈rs,q x)∧St H1 w' σ:=by
 refine Cl.o Tryz.func183 Tryz.ntmps183 ag2 ?_
 refine .ai (.z zg (.nil (.ai (.z zm (.z zm ?_)))))
 refine .o (.call Tryz.call227 rfl (kR q hs hR hl hc hp) ?_);rintro _ w ⟨H1,i,hle1,rfl,hi,hs⟩
 refine .z sC (.z zg (.nil ?_))
 refine .ret (Fin.bg Tryz.results183 rfl ?_)
 exact ⟨H1,_,hle1,rfl,by simp only [decide_eq_true_eq];exact hi,hs⟩
theorem re{n:Int}(hs:St H w σ):
  Cl Tryz.prog 186 [I n] w fun u w'=>u= .bool (!decide (0≤n∧n≤20000))∧St H w' σ:=by
 refine Cl.o Tryz.func186 Tryz.ntmps186 ag1 ?_
 refine .ai (.z zg (.nil (.ai (.z zm ?_))))
 refine .o (.call cD rfl (aP hs) ?_);rintro _ w ⟨rfl,hs⟩
 refine .z eL (.z zg (.nil ?_))
 refine .ret (Fin.bg Tryz.results186 rfl ?_)
 exact ⟨rfl,hs⟩
theorem tL{s:Spc}{v vst vwa:Value}{r:List Int}{b:Nat}(hs:St H w σ)(hb:Row H b [I s.id,I s.src,vst,vwa,I s.al,I s.up])(h2:RI H vwa s.wa)(hr:RI H v r):
  Cl Tryz.prog 184 [v,.pointer (some ⟨b,0,none⟩)] w fun u w'=>∃H1 bb,HLe H H1∧u= .bool bb∧(bb=true↔¬(r.length=s.wa.length∧∀x∈r,0≤x∧x≤20000))∧St H1 w' σ:=by
 obtain ⟨a,c,rfl⟩:=RI.shape hr
 obtain ⟨awa,cwa,rfl⟩:=RI.shape h2
 have hb3:=hb.at 3
 refine Cl.o Tryz.func184 Tryz.ntmps184 ag2 ?_
 refine .ai (.z zg (.nil (.ai (.z zm (.z (dp af) (.z (zfa bF) (.y hs (zld aq) (.z (dp af) (.z ia ?_)))))))))
 refine .z zm ?_
 refine .DV (t':=10) rfl (fun hb10=>?_) (fun hb10=>?_)
 ·refine .gFs 2 6 false rfl rfl rfl ?_
  refine .z zpT (.z zg (.nil ?_))
  refine .ret (Fin.bg Tryz.results184 rfl ?_)
  exact ⟨H,true,HLe.refl H,rfl,⟨fun _ h=>by have:=h.1;simp_all,fun _=>rfl⟩,hs⟩
 ·refine .gT rfl rfl ?_
  refine .z zm ?_
  refine .gT rfl rfl ?_
  refine .o (.call Tryz.call185 rfl (jo (g:=186) (cap:=[]) (fun n=>¬(0≤n∧n≤20000)) hs hr Tryz.call186 (fun H' w σ n _ _ hs=>(re hs).mono fun u w' ⟨g1,g2⟩=>⟨H',_,HLe.refl _,g1,by simp;omega,g2⟩)) ?_);rintro _ w ⟨H1,b12,hle1,rfl,hb12,hs⟩
  refine .z zpF (.z zg (.nil ?_))
  refine .ret (Fin.bg Tryz.results184 rfl ?_)
  have hlen:r.length=s.wa.length:=by simp_all;omega
  exact ⟨H1,_,hle1,rfl,by
   rw [hb12]
   constructor
   ·rintro ⟨x,h1,h2⟩ h;exact h2 (h.2 x h1)
   ·intro h
    refine Classical.byContradiction fun hn=>h ⟨hlen,fun x hx=>Classical.byContradiction fun hx'=>hn ⟨x,hx,hx'⟩⟩,hs⟩
theorem Cr{s:Spc}{rows:List (List Int)}:ij s rows↔rows.length=s.st.length∧∀r∈rows,r.length=s.wa.length∧∀x∈r,0≤x∧x≤20000:=by
 constructor
 ·rintro ⟨h1,h2,h3⟩
  refine ⟨h1,fun r hr=>?_⟩
  obtain ⟨i,hi⟩:=List.getElem?_of_mem hr
  have hil:=(List.getElem?_eq_some_iff.1 hi).1
  have hg:=rf hil
  rw [hi] at hg
  obtain rfl:=Option.some.inj hg
  have hl:=h2 i ak
  refine ⟨hl,fun x hx=>?_⟩
  obtain ⟨k,hk⟩:=List.getElem?_of_mem hx
  have hkl:=(List.getElem?_eq_some_iff.1 hk).1
  have hgk:=bE hkl
  rw [hk] at hgk
  obtain rfl:=Option.some.inj hgk
  exact h3 i ak k ak
 ·rintro ⟨h1,h2⟩
  have hm:∀i<s.st.length,gr rows i∈rows:=fun i hi=>List.mem_of_getElem? (rf ak)
  refine ⟨h1,fun i hi=>(h2 _ (hm i hi)).1,fun i hi k hk=>?_⟩
  have hl:=(h2 _ (hm i hi)).1
  exact (h2 _ (hm i hi)).2 _ (List.mem_of_getElem? (bE ak))
theorem iE{s:Spc}{vst vwa vh:Value}{rows:List (List Int)}(hs:St H w σ)(h1:RI H vst s.st)(h2:RI H vwa s.wa)(hr:RT H vh rows):
  Cl Tryz.prog 129 [.agg #[I s.id,I s.src,vst,vwa,I s.al,I s.up],.agg #[vh]] w fun u w'=>∃H1 b,HLe H H1∧u= .bool b∧(b=true↔ij s rows)∧St H1 w' σ:=by
 obtain ⟨ast,cst,rfl⟩:=RI.shape h1
 obtain ⟨awa,cwa,rfl⟩:=RI.shape h2
 obtain ⟨ah,ch,rfl⟩:=hr.shape
 have hrl:=(hr.len).2.2
 refine Cl.o Tryz.func129 Tryz.ntmps129 ag2 ?_
 refine .ai ?_
 refine .bx hs fun b2 w hs=>?_
 refine .bx hs fun b3 w hs=>?_
 refine .z zg (.nil (.ai (.z (zfa iq) (.y hs (zld rU) (.z (dp dh) (.z (zfa cM) (.y hs (zld aq) (.z (dp af) (.z iP ?_)))))))))
 refine .z zm ?_
 refine .gM (t':=12) rfl (fun hb12=>?_) (fun hb12=>?_)
 ·refine .gT rfl rfl ?_
  refine .z (zfa iq) ?_
  refine .gT rfl rfl ?_
  refine .y hs (zld rU) ?_
  refine .gT rfl rfl ?_
  refine .q hs (bX (f:=[]) (c:=[_]) rfl rfl) ?_
  refine .gT rfl rfl ?_
  obtain ⟨H0,hle0,hb2,hs⟩:=hs.ck (b:=b2) eF
  refine .o (.call Tryz.call183 rfl (jy (g:=184) (cap:=[.pointer (some ⟨b2,0,none⟩)]) (fun r=>¬(r.length=s.wa.length∧∀x∈r,0≤x∧x≤20000)) hs (hr.mono hle0) hrl Tryz.call184 (fun H' w σ r u hle hu hs=>tL (s:=s) hs (hb2.mono hle) (h2.mono (hle0.trans hle)) hu)) ?_);rintro _ w ⟨H1,b16,hle1,rfl,hb16,hs⟩
  refine .gT rfl rfl ?_
  refine .z eL (.z zpT (.z zg (.nil ?_)))
  refine .ret (Fin.bg Tryz.results129 rfl ?_)
  exact ⟨H1,_,hle0.trans hle1,rfl,by
   rw [Cr]
   have hlen:rows.length=s.st.length:=by omega
   cases hbb:b16 with
   |true=>
    obtain ⟨x,hx,hn⟩:=hb16.1 hbb
    exact ⟨fun h=>(by cases h),fun h=>(hn (h.2 x hx)).elim⟩
   |false=>exact ⟨fun _=>⟨hlen,fun r hr=>Classical.byContradiction fun hn=>by rw [hb16.2 ⟨r,hr,hn⟩] at hbb;cases hbb⟩,fun _=>rfl⟩,hs.out⟩
 ·refine .gFs 5 7 true rfl rfl rfl ?_
  refine .z zpF (.z zg (.nil ?_))
  refine .ret (Fin.bg Tryz.results129 rfl ?_)
  exact ⟨H,_,HLe.refl H,rfl,⟨fun h=>(by cases h),fun h=>by have:=h.len;omega⟩,hs.out⟩
set_option maxHeartbeats 1000000 in
theorem nK{s:Spc}{q:Wht}{vst vwa vh:Value}{rows:List (List Int)}(hs:St H w σ)(h1:RI H vst s.st)(h2:RI H vwa s.wa)(hr:RT H vh rows):
  Cl Tryz.prog 64 [.agg #[I s.id,I s.src,vst,vwa,I s.al,I s.up],.agg #[vh],.agg #[I q.kind,I q.st,I q.wa]] w fun u w'=>∃H1 n e,HLe H H1∧u= .tuple #[I n,I e]∧qk s rows q n e∧St H1 w' σ:=by
 obtain ⟨ah,ch,rfl⟩:=hr.shape
 refine Cl.o Tryz.func64 Tryz.ntmps64 ag3 ?_
 refine .ai ?_
 refine .bx hs fun b3 w hs=>?_
 refine .bx hs fun b4 w hs=>?_
 refine .bx hs fun b5 w hs=>?_
 refine .z zg (.z zg (.nil (.seq (.ai (.y hs (zls [_,_,_,_,_,_] bI aV) ?_)))))
 refine .o (.call Tryz.call111 rfl (fN (s:=s) hs h1 h2) ?_);rintro _ w ⟨H1,e,hle1,rfl,he,hs⟩
 refine .z zg (.nil (.ai (.z zm (.z ia (.nil ?_)))))
 refine (.dU rfl (fun hc17=>?_) (fun hc17=>?_))
 ·refine .ai (.z zm (.z zg (.z zg (.nil ?_))))
  refine .ret (rT (?_))
  have hq:¬dr s∧e=30:=he.resolve_left fun h=>hc17 h.2
  exact Fin.gQ [] [] hs fun w hs=>⟨_,results2 Tryz.results64 rfl rfl,H1,_,_,hle1,rfl,by rw [hq.2];exact .space hq.1,hs.out⟩
 ·refine .skip ?_
  refine nT ?_
  refine .seq (.ai (.y hs (zls [_,_,_,_,_,_] bI aV) (.y hs (zls [_] Tryz.isAgg64 wv) ?_)))
  have hok:dr s:=(he.resolve_right fun h=>by omega).1
  have hsm:=eD hok
  refine .o (.call Tryz.call129 rfl (iE (s:=s) hs (h1.mono hle1) (h2.mono hle1) (hr.mono hle1)) ?_);rintro _ w ⟨H2,b21,hle2,rfl,hb21,hs⟩
  have hle02:=hle1.trans hle2
  refine .z eL (.nil ?_)
  refine (.cond rfl (fun hc22=>?_) (fun hc22=>?_))
  ·refine .ai (.z zg (.z zg (.nil ?_)))
   refine .ret (rT (?_))
   exact Fin.gQ [] [] hs fun w hs=>⟨_,results2 Tryz.results64 rfl rfl,H2,_,_,hle02,rfl,.hull hok (fun h=>by rw [hb21.2 h] at hc22;cases hc22),hs.out⟩
  ·refine .skip ?_
   refine nT ?_
   refine .ai (.y hs (zls [_,_,_,_,_,_] bI aV) (.y hs (zls [_,_,_] wz gd) ?_))
   have hh:ij s rows:=hb21.1 (by simpa using hc22)
   refine .o (.call Tryz.call130 rfl (ie (s:=s) (q:=q) hs (h1.mono hle02) (h2.mono hle02) hok) ?_);rintro _ w ⟨H3,vl,L,d,b,en,hle3,rfl,hO,hcase,hs⟩
   have hle03:=hle02.trans hle3
   obtain ⟨al,cl,rfl⟩:=hO.xF
   refine .z zm (.z zex (.z zex (.z zex ?_)))
   refine .o (.alloc hs dY rfl fun b9 w hs=>?_)
   refine .o (.store hs rfl rfl aJ fun w hs=>?_)
   refine .z zg (.z zg (.nil (.seq (.ai (.z zm (.z eL (.nil ?_)))))))
   refine (.cond rfl (fun hc31=>?_) (fun hc31=>?_))
   ·refine .ai (.z zg (.z zg (.nil ?_)))
    refine .ret (rT (?_))
    have hq:¬dN s q:=by
     rcases hcase with ⟨g,_⟩|⟨_,g,_⟩
     ·subst g;cases hc31
     ·exact g
    exact Fin.gQ [] [] hs fun w hs=>⟨_,results2 Tryz.results64 rfl rfl,H3,_,_,hle03,rfl,.what hok hh hq,hs.out⟩
   ·refine .skip ?_
    refine nT ?_
    refine .ai ?_
    refine .o (.alloc hs bA rfl fun b12 w hs=>?_)
    refine .o (.store hs rfl rfl aj fun w hs=>?_)
    refine .nil (.seq (.ai (.y hs (zls [_,_,_,_,_,_] bI aV) ?_)))
    obtain ⟨rfl,hq,rfl,rfl⟩:b=true∧dN s q∧L=jJ s q∧d=oE q:=hcase.resolve_right fun h=>by rw [h.1] at hc31;cases hc31
    have hwl:=fw s q
    obtain ⟨H4,hle4,hW,hs⟩:=cR.dH hO ak hs eF
    have hle04:=hle03.trans hle4
    refine .o (.call zp rfl (dO (s:=s) hs (h1.mono hle04) (h2.mono hle04) ⟨ak,ak⟩) ?_);rintro _ w ⟨H5,ba,hle5,rfl,hit,hs⟩
    have hle05:=hle04.trans hle5
    replace hW:=hW.mono hle5
    have hr5:=hr.mono hle05
    refine .nil (.block ?_)
    refine .rangeFunc (gf:=188) (cap:=[.pointer (some ⟨ba,0,none⟩)]) (xs:=s9 s) (σb:=[.blk b12 [I (fh s q rows 0)],.blk b9 [.slice al (jJ s q).length cl],.blk b4 [.slice ah rows.length ch]]) (σf:=σ) (hs.sb) trivial rfl hit zo (fun x hx=>by
      simp only [s9,List.mem_map] at hx
      obtain ⟨j,_,rfl⟩:=hx;rfl) rfl
     (I:=fun p H' σb=>σb=[.blk b12 [I (fh s q rows p)],.blk b9 [.slice al (jJ s q).length cl],.blk b4 [.slice ah rows.length ch]]) (Ix:=fun _ _ _=>False)
     (fun j _ _ σ g1 g2=>g2) (fun _ _ _ _ _ h=>h) rfl ?_ ?_ (fun D c H' σb w _ h _=>h.elim)
    ·rintro ly p hp H6 σb2 σf2 w hle6 rfl hs ⟨rr,hrr⟩
     have hpm:p<s.many:=by rw [dc] at hp;exact hp
     have hin:p/s.wa.length<s.st.length:=Nat.div_lt_of_lt_mul (by rw [Nat.mul_comm];exact hpm)
     have hkm:=Nat.mod_lt p hsm.2.2.1
     have hsucc:fh s q rows (p+1)=fh s q rows p+gi (jJ s q) (p+1)*gt rows (p/s.wa.length) (p%s.wa.length):=rfl
     have hb0:=jE hok hq hh p ak
     have hb1:=jE hok hq hh (p+1) ak
     have hwz:=lF hok hq
     have hwz2:=lG (jJ s q) (v:=p+1) (n:=s.many+1) ak
     have hnum:=hh.num _ hin _ hkm
     have hrow:=hh.row _ hin
     have hrlen:=hh.len
     have hprd:=kU (a:=gi (jJ s q) (p+1)) (b:=gt rows (p/s.wa.length) (p%s.wa.length)) (A:=3456000000000) (B:=20000) ak ak
     have hgt:gt rows (p/s.wa.length) (p%s.wa.length)=gi (gr rows (p/s.wa.length)) (p%s.wa.length):=rfl
     rw [jX hp]
     generalize p/s.wa.length=i at*
     generalize p%s.wa.length=k at*
     rw [hgt] at hsucc hprd hnum
     refine .region ?_
     refine .o (.alloc hs iz rfl fun b13 w hs=>?_)
     refine .o (.aI (vs:=[_,_,_]) hs rfl rfl mg fun w hs=>?_)
     refine .nil ?_
     refine nT ?_
     refine ⟨H6,[.blk b13 [I (i:Int),I (k:Int),I ((p+1:Nat):Int)],.blk b12 [I (fh s q rows p)],.blk b9 [.slice al (jJ s q).length cl],.blk b4 [.slice ah rows.length ch]],HLe.refl _,hs,?_⟩;rintro w σf4 - hs
     refine .block ?_
     refine .draw mix rfl hs fun w hs=>?_
     refine .y 0 rfl hs ae ?_;refine .y 1 rfl hs aq ?_;refine .z 2 rfl (zfa dk) ?_;refine .y 3 rfl hs ae ?_
     refine .ixX (enc:=fun x=>[I x]) (i:=4) hs rfl an .none (hW.mono hle6) rfl rfl af aj (bE (l:=(jJ s q)) (i:=(p+1)) ak) cU ?_;intro b39 o39 hc39;replace hc39:=bH.one hc39
     refine .r (i:=5) hs rfl an .none (a6 rfl ae hc39) ?_
     refine .z 6 rfl (zfa iq) ?_;refine .y 7 rfl hs rU ?_;refine .z 8 rfl (zfa bY) ?_;refine .y 9 rfl hs ae ?_
     refine .ixT (i:=10) hs rfl an .none (hr5.mono hle6) rfl rfl dh aJ (show i<_ by omega) cU ?_;intro b45 o45 a45 c45 hc45 hR45
     refine .r (i:=11) hs rfl an .none (a6 rfl aq hc45) ?_
     refine .z 12 rfl (zfa bN) ?_;refine .y 13 rfl hs ae ?_
     refine .ixX (enc:=fun x=>[I x]) (i:=14) hs rfl an .none hR45 rfl rfl af aj (bE (l:=(gr rows i)) (i:=k) ak) cU ?_;intro b49 o49 hc49;replace hc49:=bH.one hc49
     refine .r (i:=15) hs rfl an .none (a6 rfl ae hc49) ?_
     refine .z 16 rfl pR ?_;refine .z 17 rfl dP ?_
     refine .E 18 hs ?_
     refine .store hs rfl rfl aj ?_;intro w hs
     refine .go ?_
     refine .D hs ?_
     refine nB ?_
     exact ⟨H6,[.blk b12 [I (fh s q rows (p+1))],.blk b9 [.slice al (jJ s q).length cl],.blk b4 [.slice ah rows.length ch]],HLe.refl _,by rw [hsucc];exact (hs.sb:St H6 w (.blk b12 _:: .blk b9 _:: .blk b4 _::σf4)),rfl⟩
    ·rintro D H6 σb2 w hle6 rfl hs
     rw [dc] at hs
     replace hs:St H6 w (.obj D (.deferred (some [])):: .blk b12 [I (fh s q rows s.many)]:: .blk b9 [.slice al (jJ s q).length cl]:: .blk b4 [.slice ah rows.length ch]::σ):=hs
     have hbd:=jE hok hq hh s.many ak
     have hdp:=tX q
     refine nB (nT ?_)
     refine .ai (.y hs (zld ae) (.z zm ?_))
     refine .o (.call Tryz.call132 rfl (gw hs ak ak) ?_);rintro _ w ⟨rfl,hs⟩
     refine .z zg (.z zg (.nil ?_))
     refine .ret ?_
     exact Fin.gQ [D] [] hs fun w hs=>⟨_,results2 Tryz.results64 rfl rfl,H6,_,_,hle05.trans hle6,rfl,.ok hok hh hq,hs.out⟩
end Go.Proofs.YteajddicacjkhaaGreat
namespace Go.Proofs.YteajddicacjkhaaGreat
open Go.MW
def Gy(v:Srv)(s:bq)(e:Int):Prop:=pO v e∧(e=0→s=v.sys)∧(e≠0→s=⟨0,[]⟩)
theorem Gy.uniq{v:Srv}{s t:bq}{e f:Int}(h:Gy v s e)(g:Gy v t f):s=t∧e=f:=by
 obtain rfl:=h.1.uniq g.1
 by_cases h0:e=0
 ·exact ⟨(h.2.1 h0).trans (g.2.1 h0).symm,rfl⟩
 ·exact ⟨(h.2.2 h0).trans (g.2.2 h0).symm,rfl⟩
structure WI(s:Spc)(L:List Int)(f:Nat→Nat→Int):Prop where
 len:L.length=s.many+1
 zero:gi L 0=0
 at_:∀i k,i<s.st.length→k<s.wa.length→gi L (s.u i k)=f i k
theorem WI.start(s:Spc):WI s (List.replicate (s.many+1) 0) fun _ _=>0:=
 ⟨db,cC _ _ ak,fun i k hi hk=>by have:=qI hi hk;exact cC _ _ ak⟩
theorem WI.set{s:Spc}{L:List Int}{f:Nat→Nat→Int}(h:WI s L f){i k:Nat}(hi:i<s.st.length)(hk:k<s.wa.length)(x:Int):WI s (L.set (s.u i k) x) fun i' k'=>if i'=i∧k'=k then x else f i' k':=by
 have hb:=qI hi hk
 refine ⟨by rw [List.length_set];exact h.len,by rw [AF ak];exact h.zero,fun i' k' hi' hk'=>?_⟩
 have hb':=qI hi' hk'
 rw [ep (by rw [h.len];omega)]
 by_cases e:i'=i∧k'=k
 ·obtain ⟨rfl,rfl⟩:=e
  rw [if_pos rfl,if_pos ⟨rfl,rfl⟩]
 ·rw [if_neg e,if_neg,h.at_ i' k' hi' hk']
  intro e2
  obtain ⟨d1,d2⟩:=Dd (nw:=s.wa.length) (i:=i) hk
  obtain ⟨d3,d4⟩:=Dd (nw:=s.wa.length) (i:=i') hk'
  have e3:i'*s.wa.length+k'=i*s.wa.length+k:=by unfold Spc.u at e2;omega
  rw [e3] at d3 d4
  exact e ⟨d3.symm.trans d1,d4.symm.trans d2⟩
theorem WI.congr{s:Spc}{L:List Int}{f g:Nat→Nat→Int}(h:WI s L f)(e:∀i k,i<s.st.length→k<s.wa.length→f i k=g i k):WI s L g:=
 ⟨h.len,h.zero,fun i k hi hk=>(h.at_ i k hi hk).trans (e i k hi hk)⟩
inductive Ek(s:Spc)(q:Wht):List Int→Int→Int→Prop
 |space (h:¬dr s):Ek s q [] 0 30
 |what (h:dr s) (h1:¬dN s q):Ek s q [] 0 33
 |ok (h:dr s) (h1:dN s q):Ek s q (jJ s q) (oE q) 0
theorem Ek.uniq{s:Spc}{q:Wht}{a b:List Int}{d f e g:Int}(h:Ek s q a d e)(k:Ek s q b f g):a=b∧d=f∧e=g:=by
 cases h<;>cases k<;>first|exact ⟨rfl,rfl,rfl⟩|contradiction
inductive xz(v:Srv)(q:Wht):Int→Prop
 |bad {e:Int} (h:pO v e) (he:e≠0):xz v q e
 |what (h:cf v) (h1:¬dN v.sp q):xz v q 33
 |ok (h:cf v) (h1:dN v.sp q):xz v q 0
theorem xz.zero{v:Srv}{q:Wht}(h:xz v q 0):cf v∧dN v.sp q:=by
 generalize hz:(0:Int)=z at h
 cases h with
 |bad h he=>exact (he hz.symm).elim
 |what=>omega
 |ok h h1=>exact ⟨h,h1⟩
theorem xz.qty{v:Srv}{q:Wht}{e:Int}(h:xz v q e)(he:e≠0):uv v q 0 0 e:=by
 cases h with
 |bad h he=>exact .bad h he
 |what h h1=>exact .what h h1
 |ok=>exact (he rfl).elim
def Fg(w:List Int)(high:Bool):List Int:=if high then w else uD w
structure Grow(d D:Int)(L:List Int)(x:Int):Prop where
 low:d≤x
 high:x≤d+D*L.length
 all:∀i<L.length,d≤gi L i∧gi L i<x
 rise:∀i,i+1<L.length→gi L i<gi L (i+1)
theorem Grow.start(d D:Int):Grow d D [] d:=⟨ak,db,fun i h=>by simp at h,fun i h=>by simp at h⟩
theorem Grow.snoc{d D x y:Int}{L:List Int}(h:Grow d D L x)(h1:x<y)(h2:y≤x+D):Grow d D (L++[x]) y:=by
 obtain ⟨g1,g2,g3,g4⟩:=h
 refine ⟨ak,?_,fun i hi=>?_,fun i hi=>?_⟩
 ·rw [List.length_append,List.length_singleton,Int.natCast_add,Int.mul_add];omega
 ·rw [List.length_append,List.length_singleton] at hi
  rw [tP]
  split
  ·have:=g3 i si;omega
  ·rw [if_pos ak];omega
 ·rw [List.length_append,List.length_singleton] at hi
  rw [tP,tP,if_pos ak]
  split
  ·exact g4 i si
  ·rw [if_pos ak];exact (g3 i ak).2
theorem rM.uniq{v:Srv}{A B:List Int}{e f:Int}(h:rM v A e)(g:rM v B f):A=B∧e=f:=by
 cases h with
 |bad h he h1=>
  cases g with
  |bad g _ g1=>exact ⟨by rw [h1,g1],h.uniq g⟩
  |ok g _=>exact (he (h.aH.2 g)).elim
 |ok h h1=>
  cases g with
  |bad g ge _=>exact (ge (g.aH.2 h)).elim
  |ok _ g1=>exact h1.uniq g1
end Go.Proofs.YteajddicacjkhaaGreat
namespace Go.Proofs.YteajddicacjkhaaGreat
open Go.MW
variable{H:bp}{w:World}{σ:List Ent}
set_option maxHeartbeats 4000000 in
theorem kG{s:Srv}{rows:List (List Int)}{vst vwa vr vc vh:Value}(hs:St H w σ)(h1:RI H vst s.sp.st)(h2:RI H vwa s.sp.wa)(h3:RRd H vr s.rs)(h4:RCm H vc s.cs)(hh:RT H vh rows):
  Cl Tryz.prog 65 [.agg #[I s.sp.id,I s.sp.src,vst,vwa,I s.sp.al,I s.sp.up,vr,vc],.agg #[vh]] w fun u w'=>∃H1 e,HLe H H1∧u=I e∧zy s rows e∧St H1 w' σ:=by
 obtain ⟨ast,cst,rfl⟩:=RI.shape h1
 obtain ⟨awa,cwa,rfl⟩:=RI.shape h2
 obtain ⟨ar,cr,rfl⟩:=RRd.shape h3
 obtain ⟨ac,cc,rfl⟩:=RCm.shape h4
 obtain ⟨ah,ch,rfl⟩:=hh.shape
 refine Cl.o Tryz.func65 Tryz.ntmps65 ag2 ?_
 refine .ai ?_
 refine .bx hs fun b2 w hs=>?_
 refine .bx hs fun b3 w hs=>?_
 refine .z zg (.nil (.seq (.ai (.y hs (zls [_,_,_,_,_,_,_,_] aS aF) ?_))))
 refine .o (.call GP rfl (dQ (s:=s) hs h1 h2 h3 h4) ?_);rintro _ w ⟨H1,e,hle1,rfl,hC,hs⟩
 refine .z zg (.nil (.ai (.z zm (.z ia (.nil ?_)))))
 refine (.dU rfl (fun hc16=>?_) (fun hc16=>?_))
 ·refine .ai (.z zm (.z zg (.nil ?_)))
  refine .ret (rT (?_))
  exact Fin.bg Tryz.results65 rfl ⟨H1,_,hle1,rfl,.bad hC hc16,hs.out⟩
 ·refine .skip ?_
  refine nT ?_
  refine .seq (.ai (.z (zfa bC) (.y hs (zls [_,_,_,_,_,_] bI aV) (.y hs (zls [_] Tryz.isAgg64 wv) ?_))))
  have hok:cf s:=hC.aH.1 (by simpa using hc16)
  have hsm:=eD hok.early.1
  have hrl:=hok.early.2.1
  refine .o (.call Tryz.call129 rfl (iE (s:=s.sp) hs (h1.mono hle1) (h2.mono hle1) (hh.mono hle1)) ?_);rintro _ w ⟨H2,b21,hle2,rfl,hb21,hs⟩
  have hle02:=hle1.trans hle2
  refine .z eL (.nil ?_)
  refine (.cond rfl (fun hc22=>?_) (fun hc22=>?_))
  ·refine .ai (.z zg (.nil ?_))
   refine .ret (rT (?_))
   exact Fin.bg Tryz.results65 rfl ⟨H2,_,hle02,rfl,.hull hok (fun h=>by rw [hb21.2 h] at hc22;cases hc22),hs.out⟩
  ·refine .skip ?_
   refine nT ?_
   refine .ai (.y hs (zls [_,_,_,_,_,_,_,_] aS aF) ?_)
   have hhull:ij s.sp rows:=hb21.1 (by simpa using hc22)
   have hll:=hok.bD
   have hmm:=hok.many
   refine .o (.call GO rfl (dE (s:=s) hs (h1.mono hle02) (h2.mono hle02) (h3.mono hle02) (h4.mono hle02) hok.early) ?_);rintro _ w ⟨H3,hle3,⟨ul,rfl,hL⟩,hs⟩
   obtain ⟨al,cl,rfl⟩:=RL.shape hL
   have hle03:=hle02.trans hle3
   have hbd:=fun b hb=>CX (b:=b) hhull hb
   have hlim:=fun l hl=>hok.sys.lim l hl
   refine .o (.alloc hs ez rfl fun b6 w hs=>?_)
   refine .o (.aI (vs:=[_,_]) hs rfl rfl aC fun w hs=>?_)
   refine .nil (.ai ?_)
   refine .o (.buildSlice (cells:=[_]) hs cP rfl rfl fun b25 w hs=>?_)
   refine .o (.alloc hs dY rfl fun b7 w hs=>?_)
   refine .o (.store hs rfl rfl aJ fun w hs=>?_)
   refine .nil (.seq (.ai (.z (zfa bC) (.y hs (zls [_,_,_,_,_,_] bI aV) ?_))))
   refine .o (.call zp rfl (dO (s:=s.sp) hs (h1.mono hle03) (h2.mono hle03) ⟨ak,ak⟩) ?_);rintro _ w ⟨H4,ba,hle4,rfl,hit,hs⟩
   have hle04:=hle03.trans hle4
   refine .nil (.block ?_)
   refine .rangeFunc (gf:=188) (cap:=[.pointer (some ⟨ba,0,none⟩)]) (xs:=s9 s.sp) (σb:=[.blk b7 [.slice (some ⟨b25,0,none⟩) 1 1],.blk b25 (Is [0]),.blk b6 [I s.sys.many,.slice al s.bD.length cl],.blk b3 [.slice ah rows.length ch]]) (σf:=σ) (hs.sb) trivial rfl hit zo (fun x hx=>by
     simp only [s9,List.mem_map] at hx
     obtain ⟨j,_,rfl⟩:=hx;rfl) rfl
    (I:=fun p H' σb=>∃vo en,σb=[.blk b7 [vo],en,.blk b6 [I s.sys.many,.slice al s.bD.length cl],.blk b3 [.slice ah rows.length ch]]∧cR 1 vo (Is (xl1 s (gt rows) (p+1))) en) (Ix:=fun _ _ _=>False)
    (fun j _ _ σ g1 g2=>g2) (fun _ _ _ _ _ h=>h) ⟨_,_,rfl,.full rfl⟩ ?_ ?_ (fun D c H' σb w _ h _=>h.elim)
   ·rintro ly p hp H5 σb2 σf2 w hle5 ⟨vo,en,rfl,hO⟩ hs ⟨rr,hrr⟩
    have hpm:p<s.sp.many:=by rw [dc] at hp;exact hp
    have hin:p/s.sp.wa.length<s.sp.st.length:=Nat.div_lt_of_lt_mul (by rw [Nat.mul_comm];exact hpm)
    have hkm:=Nat.mod_lt p hsm.2.2.1
    have hval:hpt s.sp (gt rows) (p+1)=gi (gr rows (p/s.sp.wa.length)) (p%s.sp.wa.length):=rfl
    have hrow:=hhull.row _ hin
    have hrlen:=hhull.len
    have hr5:=hh.mono (hle04.trans hle5)
    rw [jX hp]
    obtain ⟨ao,lo,co,rfl,hlo⟩:=hO.shape
    have hxl:=jv s (gt rows) (p+1)
    generalize p/s.sp.wa.length=i at*
    generalize p%s.sp.wa.length=k at*
    refine .region ?_
    refine .o (.alloc hs iz rfl fun b8 w hs=>?_)
    refine .o (.aI (vs:=[_,_,_]) hs rfl rfl mg fun w hs=>?_)
    refine .nil ?_
    refine nT ?_
    refine ⟨H5,[.blk b8 [I (i:Int),I (k:Int),I ((p+1:Nat):Int)],.blk b7 [.slice ao lo co],en,.blk b6 [I s.sys.many,.slice al s.bD.length cl],.blk b3 [.slice ah rows.length ch]],HLe.refl _,hs,?_⟩;rintro w σf4 - hs
    refine .block ?_
    refine .draw mix rfl hs fun w hs=>?_
    refine .y 0 rfl hs aq ?_;refine .z 1 rfl (zfa iq) ?_;refine .y 2 rfl hs rU ?_;refine .z 3 rfl (zfa bY) ?_;refine .y 4 rfl hs ae ?_
    refine .ixT (i:=5) hs rfl an .none hr5 rfl rfl dh aJ (show i<_ by omega) cU ?_;intro b35 o35 a35 c35 hc35 hR35
    refine .r (i:=6) hs rfl an .none (a6 rfl aq hc35) ?_
    refine .z 7 rfl (zfa bN) ?_;refine .y 8 rfl hs ae ?_
    refine .ixX (enc:=fun x=>[I x]) (i:=9) hs rfl an .none hR35 rfl rfl af aj (bE (l:=(gr rows i)) (i:=k) ak) cU ?_;intro b39 o39 hc39;replace hc39:=bH.one hc39
    refine .r (i:=10) hs rfl an .none (a6 rfl ae hc39) ?_
    refine .E 11 hs ?_
    refine .buildSlice (cells:=[_]) hs cP rfl rfl ?_;intro b41 w hs
    refine .go ?_
    refine .E 12 hs ?_
    refine .append (ys:=Is [gi (gr rows i) k]) hs da rfl rfl hO (.own (c:=Is [gi (gr rows i) k]) (by first|exact .here|exact .there .here) rfl rfl) (lC _) (fun l h=>by simp at h;omega) ?_;intro v42 en42 w hO2 hs
    rw [←List.map_append,←hval,←Bu] at hO2
    obtain ⟨a42,l42,c42,rfl,h42⟩:=hO2.shape
    refine .go ?_
    refine .E 13 hs ?_
    refine .store hs rfl rfl aJ ?_;intro w hs
    refine .go ?_
    refine .D hs ?_
    refine nB ?_
    exact ⟨H5,[.blk b7 [.slice a42 l42 c42],en42,.blk b6 [I s.sys.many,.slice al s.bD.length cl],.blk b3 [.slice ah rows.length ch]],HLe.refl _,(hs.sb:St H5 w (.blk b7 _::en42:: .blk b6 _:: .blk b3 _::σf4)),_,_,rfl,hO2⟩
   ·rintro D H5 σb2 w hle5 ⟨vo,en,rfl,hO⟩ hs
    rw [dc] at hO
    replace hs:St H5 w (.obj D (.deferred (some [])):: .blk b7 [vo]::en:: .blk b6 [I s.sys.many,.slice al s.bD.length cl]:: .blk b3 [.slice ah rows.length ch]::σ):=hs
    obtain ⟨ao,lo,co,rfl,hlo⟩:=hO.shape
    have hxl:=jv s (gt rows) (s.sp.many+1)
    have hlo':lo=s.sp.many+1:=by simp [Is] at hlo;omega
    subst hlo'
    have hL5:=hL.mono (hle4.trans hle5)
    have hleF:=hle04.trans hle5
    refine nB (nT ?_)
    refine .seq (.ai (.y hs (zld aq) (.z (dp af) (.z zg (.nil (.block ?_))))))
    refine .loop (fun j:Nat=>⟨81,marks [D],[(9,I ((s.sp.many+1+j:Nat):Int)),(7,.pointer (some ⟨b7,0,none⟩)),(6,.pointer (some ⟨b6,0,none⟩))]⟩)
     (fun j w=>j≤s.bn.length∧∃ax cx en,cR 1 (.slice ax (s.sp.many+1+j) cx) (Is (xl1 s (gt rows) (s.sp.many+1)++xl2 s (gt rows) j)) en∧St H5 w (.obj D (.deferred (some [])):: .blk b7 [.slice ax (s.sp.many+1+j) cx]::en:: .blk b6 [I s.sys.many,.slice al s.bD.length cl]::σ)) (fun j=>s.bn.length - j) 0 bS
     ⟨Nat.zero_le _,_,_,_,by show cR 1 _ (Is (_++[])) _;rw [List.append_nil];exact hO,hs.sb⟩ ?_
    clear hs hO
    rintro j w ⟨hj,ax,cx,en,hO,hs⟩
    have hsys:s.sys.many=((s.sp.many+s.bn.length:Nat):Int):=rfl
    have hx2:=sD s (gt rows) j
    have hxall:(xl1 s (gt rows) (s.sp.many+1)++xl2 s (gt rows) j).length=s.sp.many+1+j:=by rw [List.length_append,hxl,hx2]
    refine .seq (.ai (.z zm (.z (zfa bL) (.y hs (zld ae) (.z oJ (.nil ?_))))))
    refine (.cz rfl (fun hc48=>?_) (fun hc48=>?_))
    ·refine .skip ?_
     refine nT ?_
     refine .seq (.block (.ai (.z zg (.nil (.seq (.ai (.z (zfa bR) (.y hs (zld dw) (.z (dp aK) ?_)))))))))
     refine .z zm (.nil ?_)
     refine .for (N:=s.bD.length) (J:=fun k fr w=>fr=[(10,I (rV (hpt s.sp (gt rows)) (s.sp.many+1+j:Nat) (s.bD.take k))),(52,.slice al s.bD.length cl),(9,I ((s.sp.many+1+j:Nat):Int)),(7,.pointer (some ⟨b7,0,none⟩)),(6,.pointer (some ⟨b6,0,none⟩))]∧St H5 w (.obj D (.deferred (some [])):: .blk b7 [.slice ax (s.sp.many+1+j) cx]::en:: .blk b6 [I s.sys.many,.slice al s.bD.length cl]::σ)) ak ?_ ?_ ?_
     ·exact .mk ⟨rfl,hs⟩
     ·rintro k fr w hk ⟨rfl,hs⟩
      obtain ⟨l,hx⟩:=nth (l:=s.bD) hk
      have hlm:=List.mem_of_getElem? hx
      obtain ⟨⟨gA,gB⟩,hsd⟩:=kY hok.early hlm
      have hM:=(hlim l hlm).2.2.2.1
      obtain ⟨eB,hB⟩:∃b:Nat,l.B=b:=⟨_,(Int.toNat_of_nonneg gB).symm⟩
      have hB1:l.B.toNat=eB:=by rw [hB,Int.toNat_natCast]
      rw [hB1] at hsd
      have hbl:=xa (hpt s.sp (gt rows)) (s.sp.many+1+j:Nat) (s.bD.take k)
      refine .block (.ai ?_)
      refine .ixX (enc:=Lim.c) hs hL5 rfl rfl aK aW hx rfl ?_;intro b56 o56 hc56
      refine .q hs (bG (vs:=l.c) rfl fJ aW hc56) ?_
      refine .o (.alloc hs dK rfl fun b12 w hs=>?_)
      refine .o (.aI (vs:=l.c) hs rfl rfl aW fun w hs=>?_)
      refine .nil (.ai (.z (zfa eJ) (.y hs (zld ae) (.z zm (.z iP (.nil ?_))))))
      refine (.cz rfl (fun hc61=>?_) (fun hc61=>?_))
      ·refine .draw mix rfl hs fun w hs=>?_
       have hbB:=hbd eB ak
       obtain ⟨bo,co',sp,hv,rfl,hcap⟩:=hO.blk (by rw [hxall];omega)
       simp only [Value.slice.injEq] at hv
       obtain ⟨rfl,-,rfl⟩:=hv
       have hgx:gi (xl1 s (gt rows) (s.sp.many+1)++xl2 s (gt rows) j) eB=hpt s.sp (gt rows) eB:=ti s _ _ ak
       refine .z 0 rfl zm ?_;refine .y 1 rfl hs aq ?_;refine .z 2 rfl (zfa fl) ?_;refine .y 3 rfl hs ae ?_
       rw [hB]
       refine .z 4 rfl (zix (j:=eB) af aj) ?_
       refine .load (i:=5) hs rfl an .none rfl ae ?_ (hv:=ew ak sp)
       rw [hgx]
       refine .z 6 rfl (zfa fk) ?_;refine .y 7 rfl hs ae ?_;refine .z 8 rfl fu ?_;refine .z 9 rfl zC ?_;refine .z 10 rfl zg ?_;refine .D hs ?_
       refine nB (nT ?_)
       exact .mk ⟨by rw [bU hx,ra,if_pos ak,hB1],hs.sb⟩
      ·refine .skip ?_
       refine nB (nT ?_)
       exact .mk ⟨by rw [bU hx,ra,if_neg ak],hs.sb⟩
     ·rintro fr w ⟨rfl,hs⟩
      rw [List.take_length]
      refine nT ?_
      refine .region (.y hs (zld aq) (.z zm ?_))
      refine .o (.buildSlice (cells:=[_]) hs cP rfl rfl fun b75 w hs=>?_)
      refine .o (.append (ys:=Is [rV (hpt s.sp (gt rows)) (s.sp.many+1+j:Nat) s.bD]) hs da rfl rfl hO (.own .here rfl rfl) (lC _) (fun l h=>by simp only [Is,List.length_map,hxall] at h;omega) ?_);intro v76 en76 w hO2 hs
      rw [←List.map_append,List.append_assoc,←Bt] at hO2
      obtain ⟨a76,c76,rfl⟩:=hO2.xF
      have hx3:(xl1 s (gt rows) (s.sp.many+1)++xl2 s (gt rows) (j+1)).length=s.sp.many+1+(j+1):=by rw [List.length_append,hxl,sD]
      rw [hx3] at hO2 ⊢
      refine .o (.store hs rfl rfl aJ fun w hs=>?_)
      refine .nil ?_
      refine nB (nT ?_)
      refine .region (.z zm (.z dP (.z zg (.nil ?_))))
      refine nT ?_
      exact ⟨j+1,.eP rfl (by simp;omega) bS,⟨ak,_,_,_,hO2,hs.sb⟩,ak⟩
    ·refine .exit ?_
     refine xT (xT (xB (nT ?_)))
     refine .seq (.ai (.y hs (zls [_,_] bh aC) (.y hs (zld aq) ?_)))
     obtain rfl:j=s.bn.length:=by omega
     obtain ⟨H6,hle6,hX,hs⟩:=cR.dH hO (by rw [hxall];omega) hs eF
     refine .o (.call Tryz.call134 rfl (lr (s:=s.sys) hs ⟨_,rfl,hL5.mono hle6⟩ hX) ?_);rintro _ w ⟨e79,rfl,hP,hs⟩
     have hn:=rZ s
     have hkeep:lB s.sys (xl1 s (gt rows) (s.sp.many+1)++xl2 s (gt rows) s.bn.length)↔∃f,Kp s (gt rows) f:=by
      rw [←Bs hok]
      refine ⟨fun h=>h.uE,fun h=>⟨by rw [hxall,hn];omega,by rw [ti s _ _ ak];rfl,fun b hb=>?_,h⟩⟩
      rw [hn] at hb
      by_cases e:b<s.sp.many+1
      ·rw [ti s _ _ e]
       have:=hbd b ak
       omega
      ·rw [show b=s.sp.many+1+(b - (s.sp.many+1)) by omega,xC s _ ak]
       have g1:=xa (hpt s.sp (gt rows)) (s.sp.many+1+(b - (s.sp.many+1)):Nat) s.bD
       have g2:=Cj hok hhull (b - (s.sp.many+1))
       omega
     refine .z ia (.nil ?_)
     refine (.dU rfl (fun hc80=>?_) (fun hc80=>?_))
     ·refine .ai (.z zg (.nil ?_))
      refine .ret (rT (?_))
      refine Fin.gQ [D] [] hs fun w hs=>⟨_,results1 Tryz.results65 rfl,H6,_,hleF.trans hle6,rfl,.no hok hhull (fun h=>hc80 ?_),hs.out⟩
      cases hP with
      |bad h=>exact (h (s.sys.aH.2 hok.sys)).elim
      |off _ h1=>exact (h1 (hkeep.2 h)).elim
      |ok=>rfl
     ·refine .skip ?_
      refine nT ?_
      refine .ai (.z zg (.nil ?_))
      refine .ret ?_
      refine Fin.gQ [D] [] hs fun w hs=>⟨_,results1 Tryz.results65 rfl,H6,_,hleF.trans hle6,rfl,.ok hok hhull (hkeep.1 ?_),hs.out⟩
      cases hP with
      |bad h=>exact (h (s.sys.aH.2 hok.sys)).elim
      |off _ h1=>omega
      |ok _ h1=>exact h1
end Go.Proofs.YteajddicacjkhaaGreat
namespace Go.Proofs.YteajddicacjkhaaGreat
open Go.MW
def Bf(q:Wht)(high:Bool)(n m:Int):Prop:=if high=true then m/oE q≤n else n≤-m/oE q
inductive wk(v:Srv)(q:Wht)(high:Bool)(n m:Int)(us:List Use):Int→Prop
 |bad {e:Int} (h:pO v e) (he:e≠0):wk v q high n m us e
 |what (h:cf v) (h1:¬dN v.sp q):wk v q high n m us 33
 |prf (h:cf v) (h1:dN v.sp q) (h2:¬ni v.sys (Fg (v.w q) high) m us):wk v q high n m us 24
 |off (h:cf v) (h1:dN v.sp q) (h2:ni v.sys (Fg (v.w q) high) m us) (h3:¬Bf q high n m):wk v q high n m us 36
 |ok (h:cf v) (h1:dN v.sp q) (h2:ni v.sys (Fg (v.w q) high) m us) (h3:Bf q high n m):wk v q high n m us 0
theorem wk.uniq{v:Srv}{q:Wht}{high:Bool}{n m:Int}{us:List Use}{e f:Int}(h:wk v q high n m us e)(g:wk v q high n m us f):e=f:=by
 cases h with
 |bad h he=>
  cases g with
  |bad g _=>exact h.uniq g
  |what g _=>exact (he (h.aH.2 g)).elim
  |prf g _ _=>exact (he (h.aH.2 g)).elim
  |off g _ _ _=>exact (he (h.aH.2 g)).elim
  |ok g _ _ _=>exact (he (h.aH.2 g)).elim
 |what h h1=>cases g with|bad g ge=>exact (ge (g.aH.2 h)).elim|_=>first|rfl|contradiction
 |prf h h1 h2=>cases g with|bad g ge=>exact (ge (g.aH.2 h)).elim|_=>first|rfl|contradiction
 |off h h1 h2 h3=>cases g with|bad g ge=>exact (ge (g.aH.2 h)).elim|_=>first|rfl|contradiction
 |ok h h1 h2 h3=>cases g with|bad g ge=>exact (ge (g.aH.2 h)).elim|_=>first|rfl|contradiction
theorem B4{v:Srv}(h:cf v){ws:List Int}{m:Int}{us:List Use}(hp:ni v.sys ws m us): -4608000000000000000≤m∧m≤4608000000000000000:=by
 have h1:=CC h.sys hp.use
 have h2:=hp.tot
 have h3:=hp.bound
 omega
def C6(s:Srv)(q:Wht)(high:Bool)(n:Int)(us:List Use):Prop:=ni s.sys (Fg (s.w q) high) n us∧nj s.sys (Fg (s.w q) high) n 0
theorem qo.same{v:Srv}{q:Wht}{lo hi e f:Int}(h:qo v q e)(g:uv v q lo hi f):e=f:=by
 by_cases e0:e=0
 ·subst e0
  obtain ⟨h1,h2,h3⟩:=h.zero
  cases g with
  |bad g ge=>exact (ge (g.aH.2 h1)).elim
  |what _ g=>exact (g h2).elim
  |fls _ _ g=>exact (g h3).elim
  |ok=>rfl
 ·exact ((h.qty e0).uniq g).2.2
theorem C6.bd{v:Srv}{q:Wht}{high:Bool}{n e:Int}{us:List Use}(h0:e≠0→n=0∧us=[])(hA:qo v q e)(h:e=0→C6 v q high n us):us.length≤400∧-5000000000000000000≤n∧n≤5000000000000000000:=by
 by_cases e0:e=0
 ·subst e0
  have h1:=B4 hA.zero.1 (h rfl).1
  exact ⟨(h rfl).1.len,ak⟩
 ·obtain ⟨rfl,rfl⟩:=h0 e0
  exact ⟨db,ak⟩
end Go.Proofs.YteajddicacjkhaaGreat
namespace Go.Proofs.YteajddicacjkhaaGreat
open Go.MW
variable{H:bp}{w:World}{σ:List Ent}
theorem bj{a0 a1 a2:Int}(hs:St H w σ):Cl Tryz.prog 72 [I a0,I a1,I a2] w fun v w'=>v= .bool (decide (a1≤a0∧a0≤a2))∧St H w' σ:=by
 refine Cl.o Tryz.func72 Tryz.ntmps72 ag3 ?_
 refine .ai (.z zg (.nil (.ai (.z zm (.z zm (.z oJ (.z zm ?_)))))))
 refine .gM (t':=10) rfl (fun hb10=>?_) (fun hb10=>?_)
 ·refine .gT rfl rfl ?_
  refine .z zm ?_
  refine .gT rfl rfl ?_
  refine .z zm ?_
  refine .gT rfl rfl ?_
  refine .z oJ (.z zpT (.z zg (.nil ?_)))
  refine .ret (Fin.bg Tryz.results72 rfl ?_)
  exact ⟨by simp [*],hs.out⟩
 ·refine .gFs 3 3 true rfl rfl rfl ?_
  refine .z zpF (.z zg (.nil ?_))
  refine .ret (Fin.bg Tryz.results72 rfl ?_)
  exact ⟨by simp [*],hs.out⟩
theorem gS{a0:Int}(hs:St H w σ):Cl Tryz.prog 73 [I a0] w fun v w'=>v= .bool (decide (1≤a0∧a0≤20))∧St H w' σ:=by
 refine Cl.o Tryz.func73 Tryz.ntmps73 ag1 ?_
 refine .ai (.z zg (.nil (.ai (.z zm ?_))))
 refine .o (.call di rfl (bj hs) ?_);rintro _ w ⟨rfl,hs⟩
 refine .z zg (.nil ?_)
 refine .ret (Fin.bg Tryz.results73 rfl ?_)
 exact ⟨rfl,hs⟩
theorem j8{x y a1 a2:Int}(hs:St H w σ):Cl Tryz.prog 161 [.agg #[I x,I y],I a1,I a2] w fun v w'=>v= .bool (decide (a1≤x∧x≤y∧y≤a2))∧St H w' σ:=by
 refine Cl.o Tryz.func161 Tryz.ntmps161 ag3 ?_
 refine .ai ?_
 refine .bx hs fun b3 w hs=>?_
 refine .z zg (.nil (.ai (.z zm (.z (zfa a8) (.y hs (zld ae) (.z oJ (.z zm ?_)))))))
 refine .gM (t':=11) rfl (fun hb11=>?_) (fun hb11=>?_)
 ·refine .gT rfl rfl ?_
  refine .z (zfa a8) ?_
  refine .gT rfl rfl ?_
  refine .y hs (zld ae) ?_
  refine .gT rfl rfl ?_
  refine .z (zfa bw) ?_
  refine .gT rfl rfl ?_
  refine .y hs (zld ae) ?_
  refine .gT rfl rfl ?_
  refine .z oJ (.z zpT (.z zm ?_))
  refine .gM (t':=18) rfl (fun hb18=>?_) (fun hb18=>?_)
  ·refine .gT rfl rfl ?_
   refine .z (zfa bw) ?_
   refine .gT rfl rfl ?_
   refine .y hs (zld ae) ?_
   refine .gT rfl rfl ?_
   refine .z zm ?_
   refine .gT rfl rfl ?_
   refine .z oJ (.z zpT (.z zg (.nil ?_)))
   refine .ret (Fin.bg Tryz.results161 rfl ?_)
   exact ⟨by simp [*],hs.out⟩
  ·refine .gFs 4 11 true rfl rfl rfl ?_
   refine .z zpF (.z zg (.nil ?_))
   refine .ret (Fin.bg Tryz.results161 rfl ?_)
   exact ⟨by simp [*],hs.out⟩
 ·refine .gFs 5 4 true rfl rfl rfl ?_
  refine .z zpF (.z zm ?_)
  refine .gFs 4 11 true rfl rfl rfl ?_
  refine .z zpF (.z zg (.nil ?_))
  refine .ret (Fin.bg Tryz.results161 rfl ?_)
  exact ⟨by simp [*],hs.out⟩
theorem gU{x y:Int}(hs:St H w σ):Cl Tryz.prog 109 [.agg #[I x,I y]] w fun v w'=>v= .bool (decide (ed x y))∧St H w' σ:=by
 refine Cl.o Tryz.func109 Tryz.ntmps109 ag1 ?_
 refine .ai ?_
 refine .bx hs fun b1 w hs=>?_
 refine .z zg (.nil (.ai (.y hs (zls [_,_] aB au) ?_)))
 refine .o (.call Tryz.call161 rfl (j8 hs) ?_);rintro _ w ⟨rfl,hs⟩
 refine .z zg (.nil ?_)
 refine .ret (Fin.bg Tryz.results109 rfl ?_)
 exact ⟨rfl,hs.out⟩
theorem jD{x y:Int}(hs:St H w σ):Cl Tryz.prog 118 [.agg #[I x,I y]] w fun v w'=>v= .bool (decide (ey x y))∧St H w' σ:=by
 refine Cl.o Tryz.func118 Tryz.ntmps118 ag1 ?_
 refine .ai ?_
 refine .bx hs fun b1 w hs=>?_
 refine .z zg (.nil (.ai (.y hs (zls [_,_] aB au) ?_)))
 refine .o (.call Tryz.call161 rfl (j8 hs) ?_);rintro _ w ⟨rfl,hs⟩
 refine .z zg (.nil ?_)
 refine .ret (Fin.bg Tryz.results118 rfl ?_)
 exact ⟨rfl,hs.out⟩
theorem q5{x:Lg}(hs:St H w σ):
  Cl Tryz.prog 75 [.agg #[I x.zone,I x.fr,I x.to,I x.dlo,I x.dhi,I x.blo,I x.bhi]] w fun v w'=>∃b:Bool,v= .bool b∧(b=true↔yB x)∧St H w' σ:=by
 refine Cl.o Tryz.func75 Tryz.ntmps75 ag1 ?_
 refine .ai ?_
 refine .bx hs fun b1 w hs=>?_
 refine .z zg (.nil (.ai (.z (zfa lj) (.y hs (zld ae) ?_))))
 refine .o (.call Tryz.call73 rfl (gS hs) ?_);rintro _ w ⟨rfl,hs⟩
 refine .z zm ?_
 refine .bif (t':=6) rfl (fun hb6=>?_) (fun hb6=>?_)
 ·refine .gT rfl rfl ?_
  refine .z (zfa eZ) ?_
  refine .gT rfl rfl ?_
  refine .y hs (zld ae) ?_
  refine .gT rfl rfl ?_
  refine .z (zfa eY) ?_
  refine .gT rfl rfl ?_
  refine .y hs (zld ae) ?_
  refine .gT rfl rfl ?_
  refine .o (.call di rfl (bj hs) ?_);rintro _ w ⟨rfl,hs⟩
  refine .z zpT (.z zm ?_)
  refine .bif (t':=13) rfl (fun hb13=>?_) (fun hb13=>?_)
  ·refine .gT rfl rfl ?_
   refine .z (zfa eY) ?_
   refine .gT rfl rfl ?_
   refine .y hs (zld ae) ?_
   refine .gT rfl rfl ?_
   refine .o (.call di rfl (bj hs) ?_);rintro _ w ⟨rfl,hs⟩
   refine .z zpT (.z zm ?_)
   refine .bif (t':=18) rfl (fun hb18=>?_) (fun hb18=>?_)
   ·refine .gT rfl rfl ?_
    refine .z (zfa fH) ?_
    refine .gT rfl rfl ?_
    refine .y hs (zls [_,_] aB au) ?_
    refine .gT rfl rfl ?_
    refine .o (.call Tryz.call118 rfl (jD hs) ?_);rintro _ w ⟨rfl,hs⟩
    refine .z zpT (.z zm ?_)
    refine .bif (t':=23) rfl (fun hb23=>?_) (fun hb23=>?_)
    ·refine .gT rfl rfl ?_
     refine .z (zfa eX) ?_
     refine .gT rfl rfl ?_
     refine .y hs (zls [_,_] aB au) ?_
     refine .gT rfl rfl ?_
     refine .o (.call Tryz.call109 rfl (gU hs) ?_);rintro _ w ⟨rfl,hs⟩
     refine .z zpT (.z zg (.nil ?_))
     refine .ret (Fin.bg CK rfl ?_)
     first
     |exact ⟨false,rfl,⟨fun h=>(by cases h),fun h=>(by obtain ⟨g1,g2,g3,g4,g5⟩:=h;first|omega|(simp_all;done)|(simp_all;omega))⟩,hs.out⟩
     |exact ⟨_,rfl,⟨fun h=>⟨by simp_all,by simp_all,by simp_all,by simp_all,by simpa using h⟩,fun h=>by simpa using h.burn⟩,hs.out⟩
    ·refine .gFs 3 20 true rfl rfl rfl ?_
     refine .z zpF (.z zg (.nil ?_))
     refine .ret (Fin.bg CK rfl ?_)
     first
     |exact ⟨false,rfl,⟨fun h=>(by cases h),fun h=>(by obtain ⟨g1,g2,g3,g4,g5⟩:=h;first|omega|(simp_all;done)|(simp_all;omega))⟩,hs.out⟩
     |exact ⟨_,rfl,⟨fun h=>⟨by simp_all,by simp_all,by simp_all,by simp_all,by simpa using h⟩,fun h=>by simpa using h.burn⟩,hs.out⟩
   ·refine .gFs 3 15 true rfl rfl rfl ?_
    refine .z zpF (.z zm ?_)
    refine .gFs 3 20 true rfl rfl rfl ?_
    refine .z zpF (.z zg (.nil ?_))
    refine .ret (Fin.bg CK rfl ?_)
    first
    |exact ⟨false,rfl,⟨fun h=>(by cases h),fun h=>(by obtain ⟨g1,g2,g3,g4,g5⟩:=h;first|omega|(simp_all;done)|(simp_all;omega))⟩,hs.out⟩
    |exact ⟨_,rfl,⟨fun h=>⟨by simp_all,by simp_all,by simp_all,by simp_all,by simpa using h⟩,fun h=>by simpa using h.burn⟩,hs.out⟩
  ·refine .gFs 3 10 true rfl rfl rfl ?_
   refine .z zpF (.z zm ?_)
   refine .gFs 3 15 true rfl rfl rfl ?_
   refine .z zpF (.z zm ?_)
   refine .gFs 3 20 true rfl rfl rfl ?_
   refine .z zpF (.z zg (.nil ?_))
   refine .ret (Fin.bg CK rfl ?_)
   first
   |exact ⟨false,rfl,⟨fun h=>(by cases h),fun h=>(by obtain ⟨g1,g2,g3,g4,g5⟩:=h;first|omega|(simp_all;done)|(simp_all;omega))⟩,hs.out⟩
   |exact ⟨_,rfl,⟨fun h=>⟨by simp_all,by simp_all,by simp_all,by simp_all,by simpa using h⟩,fun h=>by simpa using h.burn⟩,hs.out⟩
 ·refine .gFs 5 3 true rfl rfl rfl ?_
  refine .z zpF (.z zm ?_)
  refine .gFs 3 10 true rfl rfl rfl ?_
  refine .z zpF (.z zm ?_)
  refine .gFs 3 15 true rfl rfl rfl ?_
  refine .z zpF (.z zm ?_)
  refine .gFs 3 20 true rfl rfl rfl ?_
  refine .z zpF (.z zg (.nil ?_))
  refine .ret (Fin.bg CK rfl ?_)
  first
  |exact ⟨false,rfl,⟨fun h=>(by cases h),fun h=>(by obtain ⟨g1,g2,g3,g4,g5⟩:=h;first|omega|(simp_all;done)|(simp_all;omega))⟩,hs.out⟩
  |exact ⟨_,rfl,⟨fun h=>⟨by simp_all,by simp_all,by simp_all,by simp_all,by simpa using h⟩,fun h=>by simpa using h.burn⟩,hs.out⟩
set_option maxHeartbeats 1000000 in
theorem fg{l:Lns}{vt vs:Value}(hs:St H w σ)(h1:RFb H vt l.table)(h2:RSn H vs l.seasons):
  Cl Tryz.prog 19 [.agg #[I l.length,I l.depth,vt,vs]] w fun u w'=>∃e,u=I e∧FE l e∧St H w' σ:=by
 obtain ⟨at_,ct,rfl⟩:=h1.shape
 obtain ⟨as_,cs,rfl⟩:=h2.shape
 refine Cl.o Tryz.func19 Tryz.ntmps19 ag1 ?_
 refine .ai ?_
 refine .bx hs fun b1 w hs=>?_
 refine .z zg (.nil (.seq (.ai (.z (zfa c9) (.y hs (zld ae) ?_)))))
 refine .o (.call di rfl (bj hs) ?_);rintro _ w ⟨rfl,hs⟩
 refine .z eL (.z zm ?_)
 refine .bif (t':=11) rfl (fun hb11=>?_) (fun hb11=>?_)
 ·refine .gFs 4 4 false rfl rfl rfl ?_
  refine .z zpT (.z zm ?_)
  refine .gFs 5 10 false rfl rfl rfl ?_
  refine .z zpT (.z zm ?_)
  refine .gFs 4 17 false rfl rfl rfl ?_
  refine .z zpT (.nil ?_)
  refine (.cT ?_)
  refine .ai (.z zg (.nil ?_))
  refine .ret (rT (Fin.bg dM rfl ?_))
  exact ⟨_,rfl,.inr ⟨fun h=>by have:=h.length;simp_all,rfl⟩,hs.out⟩
 ·refine .gT rfl rfl ?_
  refine .z (zfa fj) ?_
  refine .gT rfl rfl ?_
  refine .y hs (zld ae) ?_
  refine .gT rfl rfl ?_
  refine .o (.call di rfl (bj hs) ?_);rintro _ w ⟨rfl,hs⟩
  refine .gT rfl rfl ?_
  refine .z eL (.z zpF (.z zm ?_))
  refine .bif (t':=17) rfl (fun hb17=>?_) (fun hb17=>?_)
  ·refine .gFs 5 10 false rfl rfl rfl ?_
   refine .z zpT (.z zm ?_)
   refine .gFs 4 17 false rfl rfl rfl ?_
   refine .z zpT (.nil ?_)
   refine (.cT ?_)
   refine .ai (.z zg (.nil ?_))
   refine .ret (rT (Fin.bg dM rfl ?_))
   exact ⟨_,rfl,.inr ⟨fun h=>by have:=h.depth;simp_all,rfl⟩,hs.out⟩
  ·refine .gT rfl rfl ?_
   refine .z (zfa bO) ?_
   refine .gT rfl rfl ?_
   refine .y hs (zld dy) ?_
   refine .gT rfl rfl ?_
   refine .z (dp aD) ?_
   refine .gT rfl rfl ?_
   refine .o (.call di rfl (bj hs) ?_);rintro _ w ⟨rfl,hs⟩
   refine .gT rfl rfl ?_
   refine .z eL (.z zpF (.z zm ?_))
   refine .bif (t':=24) rfl (fun hb24=>?_) (fun hb24=>?_)
   ·refine .gFs 4 17 false rfl rfl rfl ?_
    refine .z zpT (.nil ?_)
    refine (.cT ?_)
    refine .ai (.z zg (.nil ?_))
    refine .ret (rT (Fin.bg dM rfl ?_))
    exact ⟨_,rfl,.inr ⟨fun h=>by have:=h.many;simp_all;omega,rfl⟩,hs.out⟩
   ·refine .gT rfl rfl ?_
    refine .z (zfa c8) ?_
    refine .gT rfl rfl ?_
    refine .y hs (zld gP) ?_
    refine .gT rfl rfl ?_
    refine .z (dp bP) ?_
    refine .gT rfl rfl ?_
    refine .z nu (.z zpF (.nil ?_))
    refine (.cz rfl (fun hc29=>?_) (fun hc29=>?_))
    ·refine .ai (.z zg (.nil ?_))
     refine .ret (rT (Fin.bg dM rfl ?_))
     exact ⟨_,rfl,.inr ⟨fun h=>by have:=h.most;simp_all;omega,rfl⟩,hs.out⟩
    ·refine .skip ?_
     refine nT ?_
     refine .seq (.ai ?_)
     have hl20:1≤l.table.length∧l.table.length≤20:=by first|omega|(simp at hb24;omega)
     refine .z (zfa bO) (.y hs (zld dy) (.z (dp aD) (.z zm (.nil ?_))))
     refine .for (N:=l.table.length) (J:=fun k fr w=>fr=[(31,.slice at_ l.table.length ct),(1,.pointer (some ⟨b1,0,none⟩))]∧(∀j<k,CI l.table j)∧St H w (.blk b1 [I l.length,I l.depth,.slice at_ l.table.length ct,.slice as_ l.seasons.length cs]::σ)) ak ?_ ?_ ?_
     ·exact .mk ⟨rfl,fun j hj=>by omega,hs⟩
     ·rintro k fr w hk ⟨rfl,hno,hs⟩
      have hx:=jR (l:=l.table) hk
      have hx1:=jR (l:=l.table) (i:=k - 1) ak
      refine .block (.ai (.z zm ?_))
      refine .ixX (enc:=Fbd.c) hs h1 rfl rfl aD aQ hx cU ?_;intro b36 o36 hc36
      refine .q hs (bG (vs:=(Fbd.c (fb0 l.table k))) rfl Tryz.isAgg134 aQ hc36) ?_
      refine .o (.alloc hs fD rfl fun b4 w hs=>?_)
      refine .z zg ?_
      refine .o (.aI (vs:=(fb0 l.table k).c) hs rfl rfl aQ fun w hs=>?_)
      change St _ _ (.blk b4 [I (fb0 l.table k).len,I (fb0 l.table k).least]::_) at hs
      refine .nil ?_
      refine .seq (.draw mix rfl hs fun w hs=>?_)
      refine .z 0 rfl (zfa aT) ?_;refine .y 1 rfl hs ae ?_
      refine .E 2 hs ?_
      refine .call di rfl (bj hs) ?_;rintro _ w ⟨rfl,hs⟩
      refine .go ?_
      refine .z 3 rfl eL ?_;refine .z 4 rfl zm ?_
      refine .bif (t':=42) rfl (fun hb42=>?_) (fun hb42=>?_)
      ·refine .qF (i:=5) rfl an rfl rfl ?_
       refine .qF (i:=6) rfl an rfl rfl ?_
       refine .qF (i:=7) rfl an rfl rfl ?_
       refine .qF (i:=8) rfl an rfl rfl ?_
       refine .z 9 rfl zpT ?_;refine .z 10 rfl zm ?_
       refine .qF (i:=11) rfl an rfl rfl ?_
       refine .qF (i:=12) rfl an rfl rfl ?_
       refine .qF (i:=13) rfl an rfl rfl ?_
       refine .qF (i:=14) rfl an rfl rfl ?_
       refine .qF (i:=15) rfl an rfl rfl ?_
       refine .qF (i:=16) rfl an rfl rfl ?_
       refine .qF (i:=17) rfl an rfl rfl ?_
       refine .qF (i:=18) rfl an rfl rfl ?_
       refine .qF (i:=19) rfl an rfl rfl ?_
       refine .qF (i:=20) rfl an rfl rfl ?_
       refine .qF (i:=21) rfl an rfl rfl ?_
       refine .qF (i:=22) rfl an rfl rfl ?_
       refine .qF (i:=23) rfl an rfl rfl ?_
       refine .qF (i:=24) rfl an rfl rfl ?_
       refine .z 25 rfl zpT ?_;refine .D hs ?_
       refine (.cT ?_)
       refine .ai (.z zg (.nil ?_))
       refine .ret (rB (rT (rB (rT (Fin.bg dM rfl ?_)))))
       exact ⟨_,rfl,.inr ⟨fun h=>by have:=(h.table k hk).len;simp_all,rfl⟩,hs.out⟩
      ·refine .z 5 rfl (zfa cu) ?_;refine .y 6 rfl hs ae ?_
       refine .E 7 hs ?_
       refine .call di rfl (bj hs) ?_;rintro _ w ⟨rfl,hs⟩
       refine .go ?_
       refine .z 8 rfl eL ?_;refine .z 9 rfl zpF ?_;refine .z 10 rfl zm ?_
       refine .bif (t':=48) rfl (fun hb48=>?_) (fun hb48=>?_)
       ·refine .qF (i:=11) rfl an rfl rfl ?_
        refine .qF (i:=12) rfl an rfl rfl ?_
        refine .qF (i:=13) rfl an rfl rfl ?_
        refine .qF (i:=14) rfl an rfl rfl ?_
        refine .qF (i:=15) rfl an rfl rfl ?_
        refine .qF (i:=16) rfl an rfl rfl ?_
        refine .qF (i:=17) rfl an rfl rfl ?_
        refine .qF (i:=18) rfl an rfl rfl ?_
        refine .qF (i:=19) rfl an rfl rfl ?_
        refine .qF (i:=20) rfl an rfl rfl ?_
        refine .qF (i:=21) rfl an rfl rfl ?_
        refine .qF (i:=22) rfl an rfl rfl ?_
        refine .qF (i:=23) rfl an rfl rfl ?_
        refine .qF (i:=24) rfl an rfl rfl ?_
        refine .z 25 rfl zpT ?_;refine .D hs ?_
        refine (.cT ?_)
        refine .ai (.z zg (.nil ?_))
        refine .ret (rB (rT (rB (rT (Fin.bg dM rfl ?_)))))
        exact ⟨_,rfl,.inr ⟨fun h=>by have:=(h.table k hk).least;simp_all,rfl⟩,hs.out⟩
       ·refine .z 11 rfl zm ?_;refine .z 12 rfl nu ?_;refine .z 13 rfl zm ?_
        refine .gM (t':=51) rfl (fun hb51=>?_) (fun hb51=>?_)
        ·refine .z 14 rfl (zfa bO) ?_;refine .y 15 rfl hs dy ?_;refine .z 16 rfl zm ?_;refine .z 17 rfl fu ?_
         refine .ixX (enc:=Fbd.c) (i:=18) hs rfl an (.some rfl rfl) h1 rfl rfl aD aQ hx1 ak ?_;intro b56 o56 hc56
         refine .z 19 rfl (zfa aT) ?_
         refine .r (i:=20) hs rfl an (.some rfl rfl) (a6 rfl ae (hc56.get 0 rfl)) ?_
         refine .z 21 rfl (zfa aT) ?_;refine .y 22 rfl hs ae ?_;refine .z 23 rfl sC ?_;refine .z 24 rfl zpT ?_;refine .z 25 rfl zpF ?_;refine .D hs ?_
         refine (.cz rfl (fun hc63=>?_) (fun hc63=>?_))
         ·refine .ai (.z zg (.nil ?_))
          refine .ret (rB (rT (rB (rT (Fin.bg dM rfl ?_)))))
          exact ⟨_,rfl,.inr ⟨fun h=>by have:=(h.table k hk).rise ak;omega,rfl⟩,hs.out⟩
         ·refine .skip ?_
          refine nB (nT ?_)
          first
          |exact .mk ⟨rfl,fun j hj=>by
            by_cases e:j=k
            ·subst e;exact ⟨by simp_all,by simp_all,fun _=>by omega⟩
            ·exact hno j ak,hs.tail⟩
        ·refine .qF (i:=14) rfl an rfl rfl ?_
         refine .qF (i:=15) rfl an rfl rfl ?_
         refine .qF (i:=16) rfl an rfl rfl ?_
         refine .qF (i:=17) rfl an rfl rfl ?_
         refine .qF (i:=18) rfl an rfl rfl ?_
         refine .qF (i:=19) rfl an rfl rfl ?_
         refine .qF (i:=20) rfl an rfl rfl ?_
         refine .qF (i:=21) rfl an rfl rfl ?_
         refine .qF (i:=22) rfl an rfl rfl ?_
         refine .qF (i:=23) rfl an rfl rfl ?_
         refine .z 24 rfl zpF ?_;refine .z 25 rfl zpF ?_;refine .D hs ?_
         refine (.cF ?_)
         refine .skip ?_
         refine nB (nT ?_)
         first
         |exact .mk ⟨rfl,fun j hj=>by
           by_cases e:j=k
           ·subst e;exact ⟨by simp_all,by simp_all,fun _=>by omega⟩
           ·exact hno j ak,hs.tail⟩
     ·rintro fr w ⟨rfl,htb,hs⟩
      refine nT ?_
      refine .seq (.ai (.z (zfa c8) (.y hs (zld gP) (.z (dp bP) (.z zm (.nil ?_))))))
      refine .for (N:=l.seasons.length) (J:=fun k fr w=>fr=[(66,.slice as_ l.seasons.length cs),(1,.pointer (some ⟨b1,0,none⟩))]∧(∀j<k,∀y,l.seasons[j]? =some y→zf y)∧St H w (.blk b1 [I l.length,I l.depth,.slice at_ l.table.length ct,.slice as_ l.seasons.length cs]::σ)) ak ?_ ?_ ?_
      ·exact .mk ⟨rfl,fun j hj=>by omega,hs⟩
      ·rintro k fr w hk ⟨rfl,hno,hs⟩
       obtain ⟨s,hx⟩:=nth hk
       refine .block (.ai ?_)
       refine .ixX (enc:=Ssn.c) hs h2 rfl rfl bP cO hx cU ?_;intro b70 o70 hc70
       refine .q hs (bG (vs:=(Ssn.c s)) rfl Er cO hc70) ?_
       refine .o (.alloc hs uJ rfl fun b6 w hs=>?_)
       refine .o (.aI (vs:=s.c) hs rfl rfl cO fun w hs=>?_)
       change St _ _ (.blk b6 [I s.zone,I s.fr,I s.to,I s.extra]::_) at hs
       refine .nil (.ai (.z (zfa fT) (.y hs (zld ae) ?_)))
       refine .o (.call Tryz.call73 rfl (gS hs) ?_);rintro _ w ⟨rfl,hs⟩
       refine .z eL (.z zm ?_)
       refine .bif (t':=76) rfl (fun hb76=>?_) (fun hb76=>?_)
       ·refine .gFs 4 4 false rfl rfl rfl ?_
        refine .z zpT (.z zm ?_)
        refine .gFs 4 10 false rfl rfl rfl ?_
        refine .z zpT (.z zm ?_)
        refine .gFs 4 16 false rfl rfl rfl ?_
        refine .z zpT (.nil ?_)
        refine (.cT ?_)
        refine .ai (.z zg (.nil ?_))
        refine .ret (rB (rT (rB (rT (Fin.bg dM rfl ?_)))))
        exact ⟨_,rfl,.inr ⟨fun h=>by have:=(h.seasons s (List.mem_of_getElem? hx)).zone;simp_all,rfl⟩,hs.out⟩
       ·refine .gT rfl rfl ?_
        refine .z (zfa dn) ?_
        refine .gT rfl rfl ?_
        refine .y hs (zld ae) ?_
        refine .gT rfl rfl ?_
        refine .o (.call di rfl (bj hs) ?_);rintro _ w ⟨rfl,hs⟩
        refine .gT rfl rfl ?_
        refine .z eL (.z zpF (.z zm ?_))
        refine .bif (t':=82) rfl (fun hb82=>?_) (fun hb82=>?_)
        ·refine .gFs 4 10 false rfl rfl rfl ?_
         refine .z zpT (.z zm ?_)
         refine .gFs 4 16 false rfl rfl rfl ?_
         refine .z zpT (.nil ?_)
         refine (.cT ?_)
         refine .ai (.z zg (.nil ?_))
         refine .ret (rB (rT (rB (rT (Fin.bg dM rfl ?_)))))
         exact ⟨_,rfl,.inr ⟨fun h=>by have:=(h.seasons s (List.mem_of_getElem? hx)).fr;simp_all,rfl⟩,hs.out⟩
        ·refine .gT rfl rfl ?_
         refine .z (zfa dm) ?_
         refine .gT rfl rfl ?_
         refine .y hs (zld ae) ?_
         refine .gT rfl rfl ?_
         refine .o (.call di rfl (bj hs) ?_);rintro _ w ⟨rfl,hs⟩
         refine .gT rfl rfl ?_
         refine .z eL (.z zpF (.z zm ?_))
         refine .bif (t':=88) rfl (fun hb88=>?_) (fun hb88=>?_)
         ·refine .gFs 4 16 false rfl rfl rfl ?_
          refine .z zpT (.nil ?_)
          refine (.cT ?_)
          refine .ai (.z zg (.nil ?_))
          refine .ret (rB (rT (rB (rT (Fin.bg dM rfl ?_)))))
          exact ⟨_,rfl,.inr ⟨fun h=>by have:=(h.seasons s (List.mem_of_getElem? hx)).to;simp_all,rfl⟩,hs.out⟩
         ·refine .gT rfl rfl ?_
          refine .z (zfa fS) ?_
          refine .gT rfl rfl ?_
          refine .y hs (zld ae) ?_
          refine .gT rfl rfl ?_
          refine .o (.call di rfl (bj hs) ?_);rintro _ w ⟨rfl,hs⟩
          refine .gT rfl rfl ?_
          refine .z eL (.z zpF (.nil ?_))
          refine (.cond rfl (fun hc93=>?_) (fun hc93=>?_))
          ·refine .ai (.z zg (.nil ?_))
           refine .ret (rB (rT (rB (rT (Fin.bg dM rfl ?_)))))
           exact ⟨_,rfl,.inr ⟨fun h=>by have:=(h.seasons s (List.mem_of_getElem? hx)).extra;simp_all,rfl⟩,hs.out⟩
          ·refine .skip ?_
           refine nB (nT ?_)
           exact .mk ⟨rfl,eA hno hx ⟨by simp_all,by simp_all,by simp_all,by simp_all⟩,hs.tail⟩
      ·rintro fr w ⟨rfl,hno,hs⟩
       refine nT ?_
       refine .ai (.z zg (.nil ?_))
       refine .ret (Fin.bg dM rfl ?_)
       exact ⟨_,rfl,.inl ⟨⟨by simp_all,by simp_all,hl20,ak,htb,fun s hs=>by
        obtain ⟨j,hj⟩:=List.getElem?_of_mem hs
        exact hno j (List.getElem?_eq_some_iff.1 hj).1 s hj⟩,rfl⟩,hs.out⟩
theorem ig{r:List Lg}{vr:Value}(hs:St H w σ)(h1:RLg H vr r):
  Cl Tryz.prog 21 [.agg #[vr]] w fun u w'=>∃e,u=I e∧Fx r e∧St H w' σ:=by
 obtain ⟨ar,cr,rfl⟩:=h1.shape
 refine Cl.o Tryz.func21 Tryz.ntmps21 ag1 ?_
 refine .ai ?_
 refine .bx hs fun b1 w hs=>?_
 refine .z zg (.nil (.seq (.ai (.z (zfa cg) (.y hs (zld cZ) (.z (dp aO) ?_))))))
 refine .o (.call di rfl (bj hs) ?_);rintro _ w ⟨rfl,hs⟩
 refine .z eL (.nil ?_)
 refine (.cond rfl (fun hc9=>?_) (fun hc9=>?_))
 ·refine .ai (.z zg (.nil ?_))
  refine .ret (rT (Fin.bg Tryz.results21 rfl ?_))
  exact ⟨_,rfl,.inr ⟨fun h=>by have:=h.many;simp_all;omega,rfl⟩,hs.out⟩
 ·refine .skip ?_
  refine nT ?_
  refine .seq (.ai ?_)
  have hl20:1≤r.length∧r.length≤12:=by first|omega|(simp at hc9;omega)
  refine .z (zfa cg) (.y hs (zld cZ) (.z (dp aO) (.z zm (.nil ?_))))
  refine .for (N:=r.length) (J:=fun k fr w=>fr=[(11,.slice ar r.length cr),(1,.pointer (some ⟨b1,0,none⟩))]∧(∀j<k,yB (lg0 r j)∧(0<j→(lg0 r (j - 1)).to≤(lg0 r j).fr))∧St H w (.blk b1 [.slice ar r.length cr]::σ)) ak ?_ ?_ ?_
  ·exact .mk ⟨rfl,fun j hj=>by omega,hs⟩
  ·rintro k fr w hk ⟨rfl,hno,hs⟩
   have hx:=js (l:=r) hk
   have hx1:=js (l:=r) (i:=k - 1) ak
   refine .block (.ai (.z zm ?_))
   refine .ixX (enc:=Lg.c) hs h1 rfl rfl aO aZ hx cU ?_;intro b16 o16 hc16
   refine .q hs (bG (vs:=(Lg.c (lg0 r k))) rfl gO aZ hc16) ?_
   refine .o (.alloc hs e8 rfl fun b4 w hs=>?_)
   refine .z zg ?_
   refine .o (.aI (vs:=(lg0 r k).c) hs rfl rfl aZ fun w hs=>?_)
   change St _ _ (.blk b4 [I (lg0 r k).zone,I (lg0 r k).fr,I (lg0 r k).to,I (lg0 r k).dlo,I (lg0 r k).dhi,I (lg0 r k).blo,I (lg0 r k).bhi]::_) at hs
   refine .nil ?_
   refine .seq (.draw mix rfl hs fun w hs=>?_)
   refine .ys 0 rfl hs [_,_,_,_,_,_,_] gO aZ ?_
   refine .E 1 hs ?_
   refine .call Tryz.call75 rfl (q5 (x:=lg0 r k) hs) ?_;rintro _ w ⟨b19,rfl,hb19,hs⟩
   refine .go ?_
   refine .z 2 rfl eL ?_;refine .z 3 rfl zm ?_
   refine .bif (t':=21) rfl (fun hb21=>?_) (fun hb21=>?_)
   ·refine .qF (i:=4) rfl an rfl rfl ?_
    refine .qF (i:=5) rfl an rfl rfl ?_
    refine .qF (i:=6) rfl an rfl rfl ?_
    refine .qF (i:=7) rfl an rfl rfl ?_
    refine .qF (i:=8) rfl an rfl rfl ?_
    refine .qF (i:=9) rfl an rfl rfl ?_
    refine .qF (i:=10) rfl an rfl rfl ?_
    refine .qF (i:=11) rfl an rfl rfl ?_
    refine .qF (i:=12) rfl an rfl rfl ?_
    refine .qF (i:=13) rfl an rfl rfl ?_
    refine .qF (i:=14) rfl an rfl rfl ?_
    refine .qF (i:=15) rfl an rfl rfl ?_
    refine .qF (i:=16) rfl an rfl rfl ?_
    refine .qF (i:=17) rfl an rfl rfl ?_
    refine .z 18 rfl zpT ?_;refine .D hs ?_
    refine (.cT ?_)
    refine .ai (.z zg (.nil ?_))
    refine .ret (rB (rT (rB (rT (Fin.bg Tryz.results21 rfl ?_)))))
    exact ⟨_,rfl,.inr ⟨fun h=>by have:=hb19.2 (h.leg k hk).1;simp_all,rfl⟩,hs.out⟩
   ·refine .z 4 rfl zm ?_;refine .z 5 rfl nu ?_;refine .z 6 rfl zm ?_
    refine .gM (t':=24) rfl (fun hb24=>?_) (fun hb24=>?_)
    ·refine .z 7 rfl (zfa eZ) ?_;refine .y 8 rfl hs ae ?_;refine .z 9 rfl (zfa cg) ?_;refine .y 10 rfl hs cZ ?_;refine .z 11 rfl zm ?_;refine .z 12 rfl fu ?_
     refine .ixX (enc:=Lg.c) (i:=13) hs rfl an (.some rfl rfl) h1 rfl rfl aO aZ hx1 ak ?_;intro b31 o31 hc31
     refine .z 14 rfl (zfa eY) ?_
     refine .r (i:=15) hs rfl an (.some rfl rfl) (a6 rfl ae (hc31.get 2 rfl)) ?_
     refine .z 16 rfl kM ?_;refine .z 17 rfl zpT ?_;refine .z 18 rfl zpF ?_;refine .D hs ?_
     refine (.cz rfl (fun hc36=>?_) (fun hc36=>?_))
     ·refine .ai (.z zg (.nil ?_))
      refine .ret (rB (rT (rB (rT (Fin.bg Tryz.results21 rfl ?_)))))
      exact ⟨_,rfl,.inr ⟨fun h=>by have:=(h.leg k hk).2 ak;omega,rfl⟩,hs.out⟩
     ·refine .skip ?_
      refine nB (nT ?_)
      first
      |exact .mk ⟨rfl,fun j hj=>by
        by_cases e:j=k
        ·subst e;exact ⟨hb19.1 (by simp_all),fun _=>by omega⟩
        ·exact hno j ak,hs.tail⟩
    ·refine .qF (i:=7) rfl an rfl rfl ?_
     refine .qF (i:=8) rfl an rfl rfl ?_
     refine .qF (i:=9) rfl an rfl rfl ?_
     refine .qF (i:=10) rfl an rfl rfl ?_
     refine .qF (i:=11) rfl an rfl rfl ?_
     refine .qF (i:=12) rfl an rfl rfl ?_
     refine .qF (i:=13) rfl an rfl rfl ?_
     refine .qF (i:=14) rfl an rfl rfl ?_
     refine .qF (i:=15) rfl an rfl rfl ?_
     refine .qF (i:=16) rfl an rfl rfl ?_
     refine .z 17 rfl zpF ?_;refine .z 18 rfl zpF ?_;refine .D hs ?_
     refine (.cF ?_)
     refine .skip ?_
     refine nB (nT ?_)
     first
     |exact .mk ⟨rfl,fun j hj=>by
       by_cases e:j=k
       ·subst e;exact ⟨hb19.1 (by simp_all),fun _=>by omega⟩
       ·exact hno j ak,hs.tail⟩
  ·rintro fr w ⟨rfl,hno,hs⟩
   refine nT ?_
   refine .ai (.z zg (.nil ?_))
   refine .ret (Fin.bg Tryz.results21 rfl ?_)
   exact ⟨_,rfl,.inl ⟨⟨hl20,hno⟩,rfl⟩,hs.out⟩
theorem ER{P:Program}{H:bp}{σ:List Ent}{s:FS}{t ty':TypeId}{x y:Operand}{p:Int}(hx:FS.ev s x=some (.int .u64 p))(hy:FS.ev s y=some (.int .u64 1)):QJ P H σ s (.binOp .shr t x y ty') (.int .u64 (p/2)):=by
 have h1:=wT (P:=P) (H:=H) (σ:=σ) (t:=t) (ty':=ty') hx hy ak
 have h2:p.fdiv (2 ^min (1:Int).toNat IntKind.u64.bits)=p/2:=by
  have:(2:Int) ^min (1:Int).toNat IntKind.u64.bits=2:=by decide
  rw [this,Int.fdiv_eq_ediv_of_nonneg _ ak]
 rw [h2] at h1
 exact h1
theorem j5{n g:Nat}{cap:List Value}{p:Nat→Prop}(hs:St H w σ)(hn:n≤1000000)(hc:∀args w,(callFunc g args).run Tryz.prog w= .ok (.enter g args) w)
  (hp:∀w i,i<n→St H w σ→Cl Tryz.prog g ([I (i:Int)]++cap) w fun u w'=>∃b,u= .bool b∧(b=true↔p i)∧St H w' σ):
  Cl Tryz.prog 157 [I (n:Int),.func (.func g) #[] cap.toArray] w fun u w'=>∃k:Nat,u=I (k:Int)∧k≤n∧(0<k→¬p (k - 1))∧(k<n→p k)∧St H w' σ:=by
 refine Cl.o Tryz.func157 Tryz.ntmps157 ag2 ?_
 refine .ai (.z zg (.nil (.ai (.z zm (.z zg (.z zg (.nil (.seq (.block ?_)))))))))
 refine .loop (fun q:Nat×Nat=>⟨26,[],[(6,I (q.2:Int)),(5,I (q.1:Int)),(1,.func (.func g) #[] cap.toArray)]⟩)
  (fun q w=>(q.1≤q.2∧q.2≤n)∧(0<q.1→¬p (q.1 - 1))∧(q.2<n→p q.2)∧St H w σ) (fun q=>q.2 - q.1) (0,n) bS
  ⟨⟨Nat.zero_le _,Nat.le_refl _⟩,fun h=>by omega,fun h=>by omega,hs⟩ ?_
 rintro ⟨i,j⟩ w ⟨⟨hij,hjn⟩,hlo,hhi,hs⟩
 dsimp only at hij hjn hlo hhi ⊢
 refine .seq (.ai (.z zm (.z zm (.z kM (.nil ?_)))))
 refine (.cz rfl (fun hc11=>?_) (fun hc11=>?_))
 ·refine .skip ?_
  refine nT ?_
  refine .block (.ai (.z zm (.z zm (.z dP ?_))))
  refine .q hs (tz rfl aM cA ⟨ak,ak⟩) ?_
  refine .q hs (ER rfl rfl) ?_
  rw [show ((i:Int)+(j:Int))/2=(((i+j)/2:Nat):Int) by omega]
  refine .q hs (tA rfl cA aM ⟨ak,ak⟩) ?_
  refine .z zg (.nil (.ai (.z zm (.z zm ?_))))
  refine .o (.lZ (first:=[]) rfl rfl hc (hp _ ((i+j)/2) ak hs) ?_);rintro _ w ⟨b20,rfl,hb20,hs⟩
  refine .z eL (.nil ?_)
  refine (.cond rfl (fun hc21=>?_) (fun hc21=>?_))
  ·refine .region (.z zm (.z dP (.z zg (.nil ?_))))
   refine nB (nT ?_)
   exact ⟨((i+j)/2+1,j),.eP rfl db bS,⟨⟨by dsimp only;omega,hjn⟩,fun _ h=>(by rw [hb20.2 (by simpa using h)] at hc21;cases hc21),hhi,hs⟩,by dsimp only;omega⟩
  ·refine .region (.z zm (.z zg (.nil ?_)))
   refine nB (nT ?_)
   exact ⟨(i,(i+j)/2),.eP rfl db bS,⟨⟨by dsimp only;omega,by dsimp only;omega⟩,hlo,fun _=>hb20.1 (by simpa using hc21),hs⟩,by dsimp only;omega⟩
 ·refine .exit ?_
  refine xT (xT (xB (nT ?_)))
  refine .ai (.z zm (.z zg (.nil ?_)))
  refine .ret (Fin.bg Tryz.results157 rfl ?_)
  obtain rfl:i=j:=by omega
  exact ⟨i,rfl,hjn,hlo,hhi,hs⟩
theorem kV{l:Lns}{vt vs:Value}{b i:Nat}(hs:St H w (.blk b [I l.length,I l.depth,vt,vs]::σ))(h1:RFb H vt l.table)(hi:i<l.table.length):
  Cl Tryz.prog 158 [I (i:Int),.pointer (some ⟨b,0,none⟩)] w fun u w'=>∃bb:Bool,u= .bool bb∧(bb=true↔l.length≤(fb0 l.table i).len)∧St H w' (.blk b [I l.length,I l.depth,vt,vs]::σ):=by
 obtain ⟨at_,ct,rfl⟩:=h1.shape
 refine Cl.o Tryz.func158 Tryz.ntmps158 ag2 ?_
 refine .ai (.z zg (.nil ?_))
 refine .seq (.draw mix rfl hs fun w hs=>?_)
 refine .z 0 rfl (zfa bO) ?_;refine .y 1 rfl hs dy ?_;refine .z 2 rfl zm ?_
 refine .ixX (enc:=Fbd.c) (i:=3) hs rfl an .none h1 rfl rfl aD aQ (jR hi) cU ?_;intro b7 o7 hc7
 refine .z 4 rfl (zfa aT) ?_
 refine .r (i:=5) hs rfl an .none (a6 rfl ae (hc7.get 0 rfl)) ?_
 refine .z 6 rfl (zfa c9) ?_;refine .y 7 rfl hs ae ?_;refine .z 8 rfl sC ?_;refine .z 9 rfl zg ?_;refine .D hs ?_
 refine .ret (Fin.bg Tryz.results158 rfl ?_)
 exact ⟨_,rfl,db,hs⟩
theorem ml{a d:Int}(hs:St H w σ)(hd:1≤d)(ha: -4608000000000000000≤a∧a≤4608000000000000000):
  Cl Tryz.prog 140 [I a,I d] w fun v w'=>v=I (a/d)∧St H w' σ:=by
 have hq:=FY hd ha
 have hfl:=qz (n:=a) (d:=d) ak
 refine Cl.o Tryz.func140 Tryz.ntmps140 ag2 ?_
 refine .ai (.z zg (.nil (.ai (.z zm (.z zm ?_)))))
 refine .q hs (vg rfl rfl ak ⟨ak,ak⟩) ?_
 refine .z zg (.nil (.seq (.ai (.z zm (.z zm (.z Es (.z kM (.nil ?_))))))))
 refine (.cz rfl (fun hc12=>?_) (fun hc12=>?_))
 ·refine .region (.z zm (.z fu (.z zg (.nil ?_))))
  refine nT ?_
  refine .ai (.z zm (.z zg (.nil ?_)))
  refine .ret (Fin.bg Tryz.results140 rfl ?_)
  rw [if_pos hc12] at hfl
  exact ⟨by rw [hfl],hs⟩
 ·refine .skip ?_
  refine nT ?_
  refine .ai (.z zm (.z zg (.nil ?_)))
  refine .ret (Fin.bg Tryz.results140 rfl ?_)
  rw [if_neg hc12,Int.sub_zero] at hfl
  exact ⟨by rw [hfl],hs⟩
theorem fB{l:Lns}{vt vs:Value}(hs:St H w σ)(h1:RFb H vt l.table)(hl:eQ l):
  Cl Tryz.prog 102 [.agg #[I l.length,I l.depth,vt,vs]] w fun u w'=>∃n b,u= .tuple #[I n,.bool b]∧rK l n b∧St H w' σ:=by
 obtain ⟨at_,ct,rfl⟩:=h1.shape
 have hm:=hl.many
 have hr:=fun {j i:Nat}=>tS hl.table (j:=j) (i:=i)
 refine Cl.o Tryz.func102 Tryz.ntmps102 ag1 ?_
 refine .ai ?_
 refine .bx hs fun b1 w hs=>?_
 refine .z zg (.z zg (.nil (.ai (.z (zfa bO) (.y hs (zld dy) (.z (dp aD) ?_))))))
 refine .q hs (bX (f:=[]) (c:=[_]) rfl rfl) ?_
 refine .o (.call Tryz.call157 rfl (j5 (cap:=[.pointer (some ⟨b1,0,none⟩)]) (p:=fun i=>l.length≤(fb0 l.table i).len) hs ak Tryz.call158 (fun w i hi hs=>kV hs h1 hi)) ?_);rintro _ w ⟨k,rfl,hk,hlo,hhi,hs⟩
 have hbig:∀i<l.table.length,k≤i→l.length≤(fb0 l.table i).len:=fun i hi hki=>by
  by_cases e:i=k
  ·subst e;exact hhi hi
  ·have:=hr (show k<i by omega) hi
   have:=hhi ak
   omega
 have hsml:∀i<k,(fb0 l.table i).len<l.length:=fun i hi=>by
  by_cases e:i=k - 1
  ·subst e;have:=hlo ak;omega
  ·have:=hr (show i<k - 1 by omega) ak
   have:=hlo ak
   omega
 refine .z zg (.nil (.seq (.block (.ai (.z zm (.z (zfa bO) (.y hs (zld dy) (.z (dp aD) (.z iP ?_)))))))))
 refine .z zg (.nil ?_)
 refine (.cz rfl (fun hc12=>?_) (fun hc12=>?_))
 ·refine .ai (.z zg (.z zg (.nil ?_)))
  refine .ret (rB (rT (Fin.fY Tryz.results102 rfl rfl ?_)))
  exact ⟨_,_,rfl,.none (fun i hi h=>by have:=hsml i ak;omega) (fun i hi h0 h=>by have:=hsml i ak;omega),hs.out⟩
 ·refine .seq (.draw mix rfl hs fun w hs=>?_)
  refine .z 0 rfl (zfa bO) ?_;refine .y 1 rfl hs dy ?_;refine .z 2 rfl zm ?_
  have hk':k<l.table.length:=by omega
  have hx:=jR hk'
  have hx1:=jR (l:=l.table) (i:=k - 1) ak
  refine .ixX (enc:=Fbd.c) (i:=3) hs rfl an .none h1 rfl rfl aD aQ hx rfl ?_;intro b22 o22 hc22
  refine .z 4 rfl (zfa aT) ?_
  refine .r (i:=5) hs rfl an .none (a6 rfl ae (hc22.get 0 rfl)) ?_
  refine .z 6 rfl (zfa c9) ?_;refine .y 7 rfl hs ae ?_;refine .z 8 rfl iP ?_;refine .z 9 rfl zg ?_;refine .D hs ?_
  refine (.cz rfl (fun hc18=>?_) (fun hc18=>?_))
  ·refine .ai (.z (zfa bO) (.y hs (zld dy) (.z zm ?_)))
   refine .ixX (enc:=Fbd.c) hs h1 rfl rfl aD aQ hx rfl ?_;intro b31 o31 hc31
   refine .z (zfa cu) ?_
   refine .q hs (a6 rfl ae (hc31.get 1 rfl)) ?_
   refine .z zg (.z zg (.nil ?_))
   refine .ret (rB (rT (Fin.fY Tryz.results102 rfl rfl ?_)))
   exact ⟨_,_,rfl,.at_ hk' hc18,hs.out⟩
  ·refine .ai (.z zm (.z iP (.z zg (.nil ?_))))
   refine (.cz rfl (fun hc34=>?_) (fun hc34=>?_))
   ·refine .ai (.z zg (.z zg (.nil ?_)))
    refine .ret (rB (rT (Fin.fY Tryz.results102 rfl rfl ?_)))
    obtain rfl:k=0:=by omega
    exact ⟨_,_,rfl,.none (fun i hi h=>by
     by_cases e:i=0
     ·subst e;exact hc18 h
     ·have:=hr (show 0<i by omega) hi;have:=hbig 0 hk' ak;omega) (fun i hi h0 h=>by have:=hbig (i - 1) ak ak;omega),hs.out⟩
   ·refine .skip ?_
    refine nB (nT ?_)
    refine .cut (fun fs w=>∃b5 b6,kq fs ⟨69,[],[(6,.pointer (some ⟨b6,0,none⟩)),(5,.pointer (some ⟨b5,0,none⟩)),(1,.pointer (some ⟨b1,0,none⟩))]⟩∧St H w (.blk b6 (fb0 l.table k).c:: .blk b5 (fb0 l.table (k - 1)).c:: .blk b1 [I l.length,I l.depth,.slice at_ l.table.length ct,vs]::σ)) ?_ ?_
    ·refine .draw mix rfl hs fun w hs=>?_
     refine .z 0 rfl (zfa bO) ?_;refine .y 1 rfl hs dy ?_;refine .z 2 rfl zm ?_;refine .z 3 rfl fu ?_
     refine .ixX (enc:=Fbd.c) (i:=4) hs rfl an .none h1 rfl rfl aD aQ hx1 ak ?_;intro b41 o41 hc41
     refine .r (i:=5) hs rfl an .none (bG (vs:=(fb0 l.table (k - 1)).c) rfl Tryz.isAgg134 aQ hc41) ?_
     refine .z 6 rfl (zfa bO) ?_;refine .y 7 rfl hs dy ?_;refine .z 8 rfl zm ?_
     refine .ixX (enc:=Fbd.c) (i:=9) hs rfl an .none h1 rfl rfl aD aQ hx rfl ?_;intro b46 o46 hc46
     refine .r (i:=10) hs rfl an .none (bG (vs:=(fb0 l.table k).c) rfl Tryz.isAgg134 aQ hc46) ?_
     refine .e2 (i:=11) (j:=12) an rfl rfl rfl rfl .none .none hs ?_ ?_
     ·refine .alloc hs fD rfl ?_;intro b5 w hs
      refine .go ?_
      refine .E 12 hs ?_
      refine .alloc hs fD rfl ?_;intro b6 w hs
      refine .go ?_
      refine .E 13 hs ?_
      refine .aI (vs:=(fb0 l.table (k - 1)).c) hs rfl rfl aQ ?_;intro w hs
      refine .go ?_
      refine .E 14 hs ?_
      refine .aI (vs:=(fb0 l.table k).c) hs rfl rfl aQ ?_;intro w hs
      refine .go ?_
      refine .D hs ?_
      exact nT ⟨b5,b6,bS,hs.sb⟩
     ·refine .alloc hs fD rfl ?_;intro b6 w hs
      refine .go ?_
      refine .E 11 hs ?_
      refine .alloc hs fD rfl ?_;intro b5 w hs
      refine .go ?_
      refine .E 13 hs ?_
      refine .aI (vs:=(fb0 l.table (k - 1)).c) hs rfl rfl aQ ?_;intro w hs
      refine .go ?_
      refine .E 14 hs ?_
      refine .aI (vs:=(fb0 l.table k).c) hs rfl rfl aQ ?_;intro w hs
      refine .go ?_
      refine .D hs ?_
      exact nT ⟨b5,b6,bS,hs.sb⟩
    ·rintro fs w ⟨b5,b6,hfs,hs⟩
     refine WE.sub ?_ hfs
     clear hfs
     change St _ _ (.blk b6 [I (fb0 l.table k).len,I (fb0 l.table k).least]:: .blk b5 [I (fb0 l.table (k - 1)).len,I (fb0 l.table (k - 1)).least]::_) at hs
     have h3:=hsml (k - 1) ak
     have h4:l.length<(fb0 l.table k).len:=by have:=hbig k hk' (Nat.le_refl _);omega
     have hX:=AH hl hk' h3 h4
     have a1:=hl.table (k - 1) ak
     have a2:=a1.len
     have a3:=a1.least
     have b2:=(hl.table k hk').len
     have b3:=(hl.table k hk').least
     have hL:=hl.length
     refine .seq (.draw mix rfl hs fun w hs=>?_)
     refine .z 0 rfl (zfa cu) ?_;refine .y 1 rfl hs ae ?_;refine .z 2 rfl (zfa cu) ?_;refine .y 3 rfl hs ae ?_;refine .z 4 rfl fu ?_;refine .z 5 rfl (zfa c9) ?_;refine .y 6 rfl hs ae ?_;refine .z 7 rfl (zfa aT) ?_;refine .y 8 rfl hs ae ?_;refine .z 9 rfl fu ?_
     refine .z 10 rfl pR ?_;refine .z 11 rfl (zfa aT) ?_;refine .y 12 rfl hs ae ?_;refine .z 13 rfl (zfa aT) ?_;refine .y 14 rfl hs ae ?_;refine .z 15 rfl fu ?_;refine .z 18 rfl (zfa cu) ?_;refine .y 19 rfl hs ae ?_
     refine .E 16 hs ?_
     refine .call Tryz.call140 rfl (ml hs ak ak) ?_;rintro _ w ⟨rfl,hs⟩
     refine .go ?_
     refine .z 17 rfl CL ?_;refine .z 20 rfl dP ?_;refine .z 21 rfl zg ?_;refine .z 22 rfl zg ?_;refine .D hs ?_
     refine .ret (Fin.fY Tryz.results102 rfl rfl ?_)
     have hmid:=rK.mid hk' ak h3 h4
     unfold vI at hmid
     exact ⟨_,_,rfl,(by rw [show ∀a b:Int,-a+b=b - a from fun a b=>by omega];exact hmid),hs.out⟩
theorem iI{l:Lns}{vt vs:Value}(hs:St H w σ)(h1:RFb H vt l.table)(h2:RSn H vs l.seasons):
  Cl Tryz.prog 37 [.agg #[I l.length,I l.depth,vt,vs]] w fun u w'=>∃n e,u= .tuple #[I n,I e]∧uA l n e∧St H w' σ:=by
 refine Cl.o Tryz.func37 Tryz.ntmps37 ag1 ?_
 refine .ai ?_
 refine .bx hs fun b1 w hs=>?_
 refine .z zg (.z zg (.nil (.seq (.ai (.y hs (zls [_,_,_,_] aN aA) ?_)))))
 refine .o (.call Tryz.call19 rfl (fg hs h1 h2) ?_);rintro _ w ⟨e,rfl,he,hs⟩
 refine .z zg (.nil (.ai (.z zm (.z ia (.nil ?_)))))
 refine (.dU rfl (fun hc10=>?_) (fun hc10=>?_))
 ·refine .ai (.z zm (.z zg (.z zg (.nil ?_))))
  refine .ret (rT (Fin.fY Tryz.results37 rfl rfl ?_))
  have h:=he.resolve_left fun h=>hc10 h.2
  exact ⟨_,_,rfl,by rw [h.2];exact .lines h.1,hs.out⟩
 ·refine .skip ?_
  refine nT ?_
  refine .ai (.y hs (zls [_,_,_,_] aN aA) ?_)
  have hok:eQ l:=(he.resolve_right fun h=>by omega).1
  refine .o (.call Tryz.call102 rfl (fB hs h1 hok) ?_);rintro _ w ⟨n,b,rfl,hF,hs⟩
  refine .z zm (.z zex (.z zex (.z zg (.z zg (.nil (.seq (.ai (.z zm (.z eL ?_)))))))))
  refine .nil ?_
  refine (.cond rfl (fun hc18=>?_) (fun hc18=>?_))
  ·refine .ai (.z zg (.z zg (.nil ?_)))
   refine .ret (rT (Fin.fY Tryz.results37 rfl rfl ?_))
   obtain rfl:b=false:=by simpa using hc18
   exact ⟨_,_,rfl,.none hok hF,hs.out⟩
  ·refine .skip ?_
   refine nT ?_
   refine .ai (.z zm (.z zg (.z zg (.nil ?_))))
   refine .ret (Fin.fY Tryz.results37 rfl rfl ?_)
   obtain rfl:b=true:=by simpa using hc18
   exact ⟨_,_,rfl,.ok hok hF,hs.out⟩
theorem iH{d:Int}(hs:St H w σ)(h:0≤d):Cl Tryz.prog 106 [I d] w fun v w'=>v=I (1+d%365)∧St H w' σ:=by
 have e:d.tmod 365=d%365:=Int.tmod_eq_emod_of_nonneg h
 refine Cl.o Tryz.func106 Tryz.ntmps106 ag1 ?_
 refine .ai (.z zg (.nil (.ai (.z zm (.z Es ?_)))))
 rw [e]
 refine .z dP (.z zg (.nil ?_))
 refine .ret (Fin.bg Tryz.results106 rfl ?_)
 exact ⟨rfl,hs⟩
theorem r9{s:Ssn}{d:Int}(hs:St H w σ):Cl Tryz.prog 159 [.agg #[I s.zone,I s.fr,I s.to,I s.extra],I d] w fun v w'=>v= .bool (decide (qj s d))∧St H w' σ:=by
 refine Cl.o Tryz.func159 Tryz.ntmps159 ag2 ?_
 refine .ai ?_
 refine .bx hs fun b2 w hs=>?_
 refine .z zg (.nil (.seq (.ai (.z (zfa dn) (.y hs (zld ae) (.z (zfa dm) (.y hs (zld ae) (.z nu (.nil ?_)))))))))
 refine (.cz rfl (fun hc9=>?_) (fun hc9=>?_))
 ·refine .ai (.z zm (.z (zfa dn) (.y hs (zld ae) (.z sC (.z zm ?_)))))
  refine .gM (t':=14) rfl (fun hb14=>?_) (fun hb14=>?_)
  ·refine .gFs 4 4 false rfl rfl rfl ?_
   refine .z zpT (.z zg (.nil ?_))
   refine .ret (rT (Fin.bg Tryz.results159 rfl ?_))
   refine ⟨?_,hs.out⟩
   congr 1
   have e:¬s.fr≤s.to:=by omega
   simp only [qj,if_neg e]
   symm
   simp [*]
  ·refine .gT rfl rfl ?_
   refine .z zm ?_
   refine .gT rfl rfl ?_
   refine .z (zfa dm) ?_
   refine .gT rfl rfl ?_
   refine .y hs (zld ae) ?_
   refine .gT rfl rfl ?_
   refine .z oJ (.z zpF (.z zg (.nil ?_)))
   refine .ret (rT (Fin.bg Tryz.results159 rfl ?_))
   refine ⟨?_,hs.out⟩
   congr 1
   have e:¬s.fr≤s.to:=by omega
   simp only [qj,if_neg e]
   simp [*]
 ·refine .skip ?_
  refine nT ?_
  refine .ai (.z zm (.z (zfa dn) (.y hs (zld ae) (.z (zfa dm) (.y hs (zld ae) ?_)))))
  refine .o (.call di rfl (bj hs) ?_);rintro _ w ⟨rfl,hs⟩
  refine .z zg (.nil ?_)
  refine .ret (Fin.bg Tryz.results159 rfl ?_)
  refine ⟨?_,hs.out⟩
  congr 1
  have e:s.fr≤s.to:=by omega
  simp only [qj,if_pos e]
theorem iG{l:Lns}{vt vs:Value}{z d:Int}(hs:St H w σ)(h2:RSn H vs l.seasons)(hl:eQ l):
  Cl Tryz.prog 105 [.agg #[I l.length,I l.depth,vt,vs],I z,I d] w fun v w'=>v=I (gg l.seasons z d)∧St H w' σ:=by
 obtain ⟨as_,cs,rfl⟩:=h2.shape
 have hm:=hl.most
 refine Cl.o Tryz.func105 Tryz.ntmps105 ag3 ?_
 refine .ai ?_
 refine .bx hs fun b3 w hs=>?_
 refine .z zg (.nil (.ai (.z zg (.nil (.seq (.ai (.z (zfa c8) (.y hs (zld gP) (.z (dp bP) ?_)))))))))
 refine .z zm (.nil ?_)
 refine .for (N:=l.seasons.length) (J:=fun k fr w=>fr=[(7,I (gg (l.seasons.take k) z d)),(11,.slice as_ l.seasons.length cs),(1,I z),(2,I d)]∧St H w σ) ak ?_ ?_ ?_
 ·exact .mk ⟨rfl,hs.out⟩
 ·rintro k fr w hk ⟨rfl,hs⟩
  obtain ⟨s,hx⟩:=nth hk
  have hE:=m8 (l.seasons.take k) s z d
  rw [←bU hx] at hE
  refine .block (.ai ?_)
  refine .ixX (enc:=Ssn.c) hs h2 rfl rfl bP cO hx cU ?_;intro b15 o15 hc15
  refine .q hs (bG (vs:=(Ssn.c s)) rfl Er cO hc15) ?_
  refine .o (.alloc hs uJ rfl fun b9 w hs=>?_)
  refine .o (.aI (vs:=s.c) hs rfl rfl cO fun w hs=>?_)
  change St _ _ (.blk b9 [I s.zone,I s.fr,I s.to,I s.extra]::_) at hs
  refine .nil (.ai (.z (zfa fT) (.y hs (zld ae) (.z zm (.z iP (.z zm ?_))))))
  refine .gM (t':=21) rfl (fun hb21=>?_) (fun hb21=>?_)
  ·refine .gT rfl rfl ?_
   refine .y hs (zls [_,_,_,_] Er cO) ?_
   refine .gT rfl rfl ?_
   refine .z zm ?_
   refine .gT rfl rfl ?_
   refine .o (.call Tryz.call159 rfl (r9 (s:=s) hs) ?_);rintro _ w ⟨rfl,hs⟩
   refine .z zpT (.nil ?_)
   refine (.cond rfl (fun hc25=>?_) (fun hc25=>?_))
   ·refine .region (.z zm (.z (zfa fS) (.y hs (zld ae) (.z zC (.z zg (.nil ?_))))))
    refine nB (nT ?_)
    rw [if_pos ⟨by assumption,by simpa using hc25⟩] at hE
    exact .mk ⟨by rw [hE],hs.out⟩
   ·refine .skip ?_
    refine nB (nT ?_)
    rw [if_neg (fun h=>of_decide_eq_false hc25 h.2)] at hE
    exact .mk ⟨by rw [hE],hs.out⟩
  ·refine .gFs 3 4 true rfl rfl rfl ?_
   refine .z zpF (.nil ?_)
   refine (.cF ?_)
   refine .skip ?_
   refine nB (nT ?_)
   rw [if_neg (fun h=>by have:=h.1;contradiction)] at hE
   exact .mk ⟨by rw [hE],hs.out⟩
 ·rintro fr w ⟨rfl,hs⟩
  rw [List.take_length]
  refine nT ?_
  refine .ai (.z zm (.z zg (.nil ?_)))
  refine .ret (Fin.bg Tryz.results105 rfl ?_)
  exact ⟨rfl,hs⟩
theorem jg{l:Lns}{vt vs:Value}{z d:Int}(hs:St H w σ)(h1:RFb H vt l.table)(h2:RSn H vs l.seasons):
  Cl Tryz.prog 104 [.agg #[I l.length,I l.depth,vt,vs],I z,I d] w fun v w'=>∃e,v=I e∧wi l z d e∧St H w' σ:=by
 refine Cl.o Tryz.func104 Tryz.ntmps104 ag3 ?_
 refine .ai ?_
 refine .bx hs fun b3 w hs=>?_
 refine .z zg (.nil (.seq (.ai (.y hs (zls [_,_,_,_] aN aA) ?_))))
 refine .o (.call Tryz.call19 rfl (fg hs h1 h2) ?_);rintro _ w ⟨e,rfl,he,hs⟩
 refine .z zg (.nil (.ai (.z zm (.z ia (.nil ?_)))))
 refine (.dU rfl (fun hc11=>?_) (fun hc11=>?_))
 ·refine .ai (.z zm (.z zg (.nil ?_)))
  refine .ret (rT (Fin.bg Tryz.results104 rfl ?_))
  have h:=he.resolve_left fun h=>hc11 h.2
  exact ⟨_,rfl,by rw [h.2];exact .lines h.1,hs.out⟩
 ·refine .skip ?_
  refine nT ?_
  refine .seq (.block (.ai ?_))
  have hok:eQ l:=(he.resolve_right fun h=>by omega).1
  refine .z zm ?_
  refine .o (.call Tryz.call73 rfl (gS hs) ?_);rintro _ w ⟨rfl,hs⟩
  refine .z eL (.z zg (.nil ?_))
  refine (.cond rfl (fun hc13=>?_) (fun hc13=>?_))
  ·refine .ai (.z zg (.nil ?_))
   refine .ret (rB (rT (Fin.bg Tryz.results104 rfl ?_)))
   exact ⟨_,rfl,.zone hok (by simp at hc13;omega),hs.out⟩
  ·refine .ai (.z zm ?_)
   refine .o (.call di rfl (bj hs) ?_);rintro _ w ⟨rfl,hs⟩
   refine .z eL (.z zg (.nil ?_))
   refine (.cond rfl (fun hc17=>?_) (fun hc17=>?_))
   ·refine .ai (.z zg (.nil ?_))
    refine .ret (rB (rT (Fin.bg Tryz.results104 rfl ?_)))
    exact ⟨_,rfl,.day hok (by simpa using hc13) (by simp at hc17;omega),hs.out⟩
   ·refine .skip ?_
    refine nB (nT ?_)
    refine .ai (.z zg (.nil ?_))
    refine .ret (Fin.bg Tryz.results104 rfl ?_)
    exact ⟨_,rfl,.ok hok (by simpa using hc13) (by simpa using hc17),hs.out⟩
theorem q8{l:Lns}{vt vs:Value}{z d:Int}(hs:St H w σ)(h1:RFb H vt l.table)(h2:RSn H vs l.seasons):
  Cl Tryz.prog 39 [.agg #[I l.length,I l.depth,vt,vs],I z,I d] w fun u w'=>∃n e,u= .tuple #[I n,I e]∧D9 l z d n e∧St H w' σ:=by
 refine Cl.o Tryz.func39 Tryz.ntmps39 ag3 ?_
 refine .ai ?_
 refine .bx hs fun b3 w hs=>?_
 refine .z zg (.z zg (.nil (.seq (.ai (.y hs (zls [_,_,_,_] aN aA) (.z zm (.z zm ?_)))))))
 refine .o (.call Tryz.call104 rfl (jg hs h1 h2) ?_);rintro _ w ⟨e,rfl,he,hs⟩
 refine .z zg (.nil (.ai (.z zm (.z ia (.nil ?_)))))
 refine (.dU rfl (fun hc14=>?_) (fun hc14=>?_))
 ·refine .ai (.z zm (.z zg (.z zg (.nil ?_))))
  refine .ret (rT (Fin.fY Tryz.results39 rfl rfl ?_))
  exact ⟨_,_,rfl,.bad he hc14,hs.out⟩
 ·refine .skip ?_
  refine nT ?_
  refine .seq (.draw mix rfl hs fun w hs=>?_)
  refine .ys 0 rfl hs [_,_,_,_] aN aA ?_;refine .z 1 rfl zm ?_;refine .z 2 rfl zm ?_
  refine .E 3 hs ?_
  obtain rfl:e=0:=by omega
  obtain ⟨hok,hz,hd⟩:=he.zero
  refine .call Tryz.call106 rfl (iH hs hd.1) ?_;rintro _ w ⟨rfl,hs⟩
  refine .go ?_
  refine .E 4 hs ?_
  refine .call Tryz.call105 rfl (iG hs h2 hok) ?_;rintro _ w ⟨rfl,hs⟩
  refine .go ?_
  refine .z 5 rfl zg ?_;refine .z 6 rfl zg ?_;refine .D hs ?_
  refine .ret (Fin.fY Tryz.results39 rfl rfl ?_)
  exact ⟨_,_,rfl,.ok he,hs.out⟩
theorem j9{l:Lns}{vt vs:Value}{z d:Int}(hs:St H w σ)(h1:RFb H vt l.table)(h2:RSn H vs l.seasons):
  Cl Tryz.prog 41 [.agg #[I l.length,I l.depth,vt,vs],I z,I d] w fun u w'=>∃n e,u= .tuple #[I n,I e]∧zx l z d n e∧St H w' σ:=by
 refine Cl.o Tryz.func41 Tryz.ntmps41 ag3 ?_
 refine .ai ?_
 refine .bx hs fun b3 w hs=>?_
 refine .z zg (.z zg (.nil (.seq (.ai (.y hs (zls [_,_,_,_] aN aA) (.z zm (.z zm ?_)))))))
 refine .o (.call Tryz.call104 rfl (jg hs h1 h2) ?_);rintro _ w ⟨e,rfl,he,hs⟩
 refine .z zg (.nil (.ai (.z zm (.z ia (.nil ?_)))))
 refine (.dU rfl (fun hc16=>?_) (fun hc16=>?_))
 ·refine .ai (.z zm (.z zg (.z zg (.nil ?_))))
  refine .ret (rT (Fin.fY Tryz.results41 rfl rfl ?_))
  exact ⟨_,_,rfl,.bad he hc16,hs.out⟩
 ·refine .skip ?_
  refine nT ?_
  refine .ai (.y hs (zls [_,_,_,_] aN aA) ?_)
  obtain rfl:e=0:=by omega
  obtain ⟨hok,hz,hd⟩:=he.zero
  refine .o (.call Tryz.call102 rfl (fB hs h1 hok) ?_);rintro _ w ⟨n,b,rfl,hF,hs⟩
  refine .z zm (.z zex (.z zex (.z zg (.z zg (.nil (.seq (.ai (.z zm (.z eL ?_)))))))))
  refine .nil ?_
  refine (.cond rfl (fun hc24=>?_) (fun hc24=>?_))
  ·refine .ai (.z zg (.z zg (.nil ?_)))
   refine .ret (rT (Fin.fY Tryz.results41 rfl rfl ?_))
   obtain rfl:b=false:=by simpa using hc24
   exact ⟨_,_,rfl,.none he hF,hs.out⟩
  ·refine .skip ?_
   refine nT ?_
   refine .seq (.draw mix rfl hs fun w hs=>?_)
   obtain rfl:b=true:=by simpa using hc24
   have hn:=hF.bd hok
   have hdp:=hok.depth
   have hE:=rk hok.seasons z (1+d%365)
   refine .z 0 rfl (zfa fj) ?_;refine .y 1 rfl hs ae ?_;refine .z 2 rfl zm ?_;refine .z 3 rfl fu ?_;refine .ys 4 rfl hs [_,_,_,_] aN aA ?_;refine .z 5 rfl zm ?_;refine .z 6 rfl zm ?_
   refine .E 7 hs ?_
   refine .call Tryz.call106 rfl (iH hs hd.1) ?_;rintro _ w ⟨rfl,hs⟩
   refine .go ?_
   refine .E 8 hs ?_
   refine .call Tryz.call105 rfl (iG hs h2 hok) ?_;rintro _ w ⟨rfl,hs⟩
   refine .go ?_
   refine .z 9 rfl fu ?_;refine .z 10 rfl zg ?_;refine .z 11 rfl zg ?_;refine .D hs ?_
   refine .ret (Fin.fY Tryz.results41 rfl rfl ?_)
   exact ⟨_,_,rfl,.ok he hF,hs.out⟩
theorem o6{s:Spc}{vst vwa:Value}{h:Int}{b c i:Nat}(hs:St H w (.blk c [I h]:: .blk b [I s.id,I s.src,vst,vwa,I s.al,I s.up]::σ))(h2:RI H vwa s.wa)(hi:i<s.wa.length)(hok:dr s):
  Cl Tryz.prog 166 [I (i:Int),.pointer (some ⟨b,0,none⟩),.pointer (some ⟨c,0,none⟩)] w fun u w'=>∃bb:Bool,u= .bool bb∧(bb=true↔h<gi s.wa i - gi s.wa 0)∧St H w' (.blk c [I h]:: .blk b [I s.id,I s.src,vst,vwa,I s.al,I s.up]::σ):=by
 obtain ⟨awa,cwa,rfl⟩:=RI.shape h2
 have b1:=hok.wa.bd hi
 have b2:=hok.wa.bd (i:=0) ak
 refine Cl.o Tryz.func166 Tryz.ntmps166 ag3 ?_
 refine .ai (.z zg (.nil ?_))
 refine .seq (.draw mix rfl hs fun w hs=>?_)
 refine .z 0 rfl (zfa bF) ?_;refine .y 1 rfl hs aq ?_;refine .z 2 rfl zm ?_
 refine .ixX (enc:=fun x=>[I x]) (i:=3) hs rfl an .none h2 rfl rfl af aj (bE (l:=s.wa) (i:=i) ak) cU ?_;intro b8 o8 hc8;replace hc8:=bH.one hc8
 refine .r (i:=4) hs rfl an .none (a6 rfl ae hc8) ?_
 refine .z 5 rfl (zfa bF) ?_;refine .y 6 rfl hs aq ?_
 refine .ixX (enc:=fun x=>[I x]) (i:=7) hs rfl an .none h2 rfl rfl af aj (bE (l:=s.wa) (i:=0) ak) cU ?_;intro b12 o12 hc12;replace hc12:=bH.one hc12
 refine .r (i:=8) hs rfl an .none (a6 rfl ae hc12) ?_
 refine .z 9 rfl fu ?_;refine .y 10 rfl hs ae ?_;refine .z 11 rfl nu ?_;refine .z 12 rfl zg ?_;refine .D hs ?_
 refine .ret (Fin.bg Tryz.results166 rfl ?_)
 exact ⟨_,rfl,db,hs⟩
theorem q6{s:Spc}{vst vwa:Value}{h:Int}(hs:St H w σ)(h2:RI H vwa s.wa)(hok:dr s):
  Cl Tryz.prog 112 [.agg #[I s.id,I s.src,vst,vwa,I s.al,I s.up],I h] w fun u w'=>∃k,u=I k∧wD s.wa h k∧St H w' σ:=by
 obtain ⟨awa,cwa,rfl⟩:=RI.shape h2
 have hm:=hok.wa.many
 have hr:=fun {i j:Nat}=>hok.wa.le (i:=i) (j:=j)
 refine Cl.o Tryz.func112 Tryz.ntmps112 ag2 ?_
 refine .ai ?_
 refine .bx hs fun b2 w hs=>?_
 refine .bx hs fun b3 w hs=>?_
 refine .z zg (.nil (.ai (.z (zfa bF) (.y hs (zld aq) (.z (dp af) ?_)))))
 refine .q hs (bX (f:=[]) (c:=[_,_]) rfl rfl) ?_
 refine .o (.call Tryz.call157 rfl (j5 (cap:=[.pointer (some ⟨b2,0,none⟩),.pointer (some ⟨b3,0,none⟩)]) (p:=fun i=>h<gi s.wa i - gi s.wa 0) hs ak Tryz.call166 (fun w i hi hs=>o6 hs h2 hi hok)) ?_);rintro _ w ⟨k,rfl,hk,hlo,hhi,hs⟩
 refine .z fu (.z zg (.nil ?_))
 refine .ret (Fin.bg Tryz.results112 rfl ?_)
 refine ⟨_,rfl,⟨ak,ak,fun i hi=>⟨fun g=>?_,fun g=>?_⟩⟩,hs.out⟩
 ·by_cases e:(i:Int)≤k - 1
  ·exact e
  ·have h3:=hhi ak
   have:=hr (show k≤i by omega) hi;omega
 ·have h3:=hlo ak
  have:=hr (show i≤k - 1 by omega) ak;omega
def sf(x:Lg):List (List Value):=(List.range (jS x)).map fun j=>[I (1+(x.fr+(j:Nat))%365)]
theorem lk(x:Lg):(sf x).length=jS x:=by simp [sf]
theorem vS{x:Lg}{j:Nat}(h:j<(sf x).length):(sf x)[j]=[I (1+(x.fr+j)%365)]:=by simp [sf]
theorem qa{H:bp}{b:Nat}{x:Lg}(hb:Row H b [I x.zone,I x.fr,I x.to,I x.dlo,I x.dhi,I x.blo,I x.bhi])(hx:yB x):
  Iter Tryz.prog 218 [.pointer (some ⟨b,0,none⟩)] H (sf x):=by
 intro ly II Ix hmI _ hy H0 σb0 σf w hle hI0 hs
 have g1:cellAt H0 b 1=some (I x.fr):=cellAt.mono (hb.at 1) hle
 have hd:=rl hx
 have hdn:(jS x:Int)=min x.to (x.fr+364) - x.fr+1:=by have:=hx.fr;unfold jS;omega
 have hf:=hx.fr
 have ht:=hx.to
 refine Cl.o Tryz.func218 Tryz.ntmps218 ag2 ?_
 refine .ai (.z (zfa eZ) (.y hs (zld ae) (.z zg (.nil (.block ?_)))))
 refine .loop (fun j:Nat=>⟨22,[],[(3,I (x.fr+(j:Int))),(0,.func (.yield ly) #[] #[]),(1,.pointer (some ⟨b,0,none⟩))]⟩)
  (fun j w=>j≤jS x∧∃H1 σb,HLe H H1∧HLe H0 H1∧II j H1 σb∧St H1 w (σb++σf)) (fun j=>jS x - j) 0 (.cons (by show some (I _)=some (I _);congr 2;omega) bS)
  ⟨Nat.zero_le _,H0,σb0,hle,HLe.refl _,hI0,hs⟩ ?_
 rintro j w ⟨hj,H1,σb,hle1,hle0,hI,hs⟩
 have h1:cellAt H1 b 1=some (I x.fr):=cellAt.mono (hb.at 1) hle1
 have h2:cellAt H1 b 2=some (I x.to):=cellAt.mono (hb.at 2) hle1
 refine .seq (.ai (.z zm (.z (zfa eY) (.y hs (zld ae) (.z (zfa eZ) (.y hs (zld ae) (.z dP (.z fu (.z CM ?_)))))))))
 refine .z oJ (.nil ?_)
 refine (.cz rfl (fun hc14=>?_) (fun hc14=>?_))
 ·refine .skip ?_
  refine nT ?_
  refine .seq (.block (.ai (.z zm (.z zm ?_))))
  refine .o (.call Tryz.call106 rfl (iH hs ak) ?_);rintro _ w ⟨rfl,hs⟩
  have hk':j<(sf x).length:=by rw [lk];omega
  have hyd:=hy j hk' H1 σb σf w hle1 hI hs
  rw [vS hk'] at hyd
  refine .o (.yield rfl rfl hyd ?_);rintro v20 w ⟨H5,σ5,g1,hs,g3'⟩
  obtain ⟨bb,rfl,gT,gF⟩:=kN g3'
  refine .z eL (.nil ?_)
  refine (.cond rfl (fun hc21=>?_) (fun hc21=>?_))
  ·refine .ret (rB (rT (rT (rB (Fin.Ee Tryz.results218 ?_)))))
   exact ⟨H5,σ5,hle0.trans g1,hs,.inr (gF (by simpa using hc21))⟩
  ·refine .skip ?_
   refine nB (nT ?_)
   refine .region (.z zm (.z dP (.z zg (.nil ?_))))
   refine nT ?_
   exact ⟨j+1,.cons (by show some (I _)=some (I _);congr 2;omega) bS,⟨ak,H5,σ5,hle1.trans g1,hle0.trans g1,gT (by simpa using hc21),hs⟩,ak⟩
 ·refine .exit ?_
  refine xT (xT (xB ?_))
  obtain rfl:j=jS x:=by omega
  exact Fin.vR Tryz.results218 ⟨H1,σb,hle0,hs,.inl (by rw [lk];exact hI)⟩
theorem sa{x:Lg}(hs:St H w σ)(hx:yB x):
  Cl Tryz.prog 169 [.agg #[I x.zone,I x.fr,I x.to,I x.dlo,I x.dhi,I x.blo,I x.bhi]] w fun u w'=>∃H1 b,HLe H H1∧u= .func (.func 218) #[] #[.pointer (some ⟨b,0,none⟩)]∧Iter Tryz.prog 218 [.pointer (some ⟨b,0,none⟩)] H1 (sf x)∧St H1 w' σ:=by
 refine Cl.o Tryz.func169 Tryz.ntmps169 ag1 ?_
 refine .ai ?_
 refine .bx hs fun b1 w hs=>?_
 refine .z zg (.nil (.ai ?_))
 refine .q hs (bX (f:=[]) (c:=[_]) rfl rfl) ?_
 refine .z zg (.nil ?_)
 refine .ret (Fin.bg Tryz.results169 rfl ?_)
 obtain ⟨H1,g1,g2,hs⟩:=hs.ck .here
 exact ⟨H1,b1,g1,rfl,qa g2 hx,hs⟩
set_option maxHeartbeats 1000000 in
theorem p6{s:Spc}{l:Lns}{x:Lg}{vst vwa vt vs:Value}(hs:St H w σ)(g2:RI H vwa s.wa)(h1:RFb H vt l.table)(h2:RSn H vs l.seasons)(hsp:dr s)(hl:eQ l)(hx:yB x):
  Cl Tryz.prog 115 [.agg #[I s.id,I s.src,vst,vwa,I s.al,I s.up],.agg #[I l.length,I l.depth,vt,vs],.agg #[I x.zone,I x.fr,I x.to,I x.dlo,I x.dhi,I x.blo,I x.bhi]] w fun u w'=>∃H1 k e,HLe H H1∧u= .tuple #[I k,I e]∧su s.wa l x k e∧St H1 w' σ:=by
 refine Cl.o Tryz.func115 Tryz.ntmps115 ag3 ?_
 refine .ai ?_
 refine .bx hs fun b3 w hs=>?_
 refine .bx hs fun b4 w hs=>?_
 refine .bx hs fun b5 w hs=>?_
 refine .z zg (.z zg (.nil (.ai (.y hs (zls [_,_,_,_] aN aA) ?_))))
 refine .o (.call Tryz.call102 rfl (fB hs h1 hl) ?_);rintro _ w ⟨n,b,rfl,hF,hs⟩
 refine .z zm (.z zex (.z zex (.z zg (.z zg (.nil (.seq (.ai (.z zm (.z eL ?_)))))))))
 refine .nil ?_
 refine (.cond rfl (fun hc19=>?_) (fun hc19=>?_))
 ·refine .ai (.z zg (.z zg (.nil ?_)))
  refine .ret (rT (?_))
  obtain rfl:b=false:=by simpa using hc19
  exact Fin.fY Tryz.results115 rfl rfl ⟨H,_,_,HLe.refl H,rfl,.none hF,hs.out⟩
 ·refine .skip ?_
  refine nT ?_
  refine .ai ?_
  refine .o (.alloc hs bA rfl fun b10 w hs=>?_)
  refine .o (.store hs rfl rfl aj fun w hs=>?_)
  refine .nil (.seq (.ai (.y hs (zls [_,_,_,_,_,_,_] gO aZ) ?_)))
  obtain rfl:b=true:=by simpa using hc19
  have hn:=hF.bd hl
  have hdp:=hl.depth
  refine .o (.call Tryz.call169 rfl (sa hs hx) ?_);rintro _ w ⟨H1,bd,hle1,rfl,hit,hs⟩
  refine .nil (.block ?_)
  refine .rangeFunc (gf:=218) (cap:=[.pointer (some ⟨bd,0,none⟩)]) (xs:=sf x) (σb:=[.blk b10 [I 0],.blk b5 [I x.zone,I x.fr,I x.to,I x.dlo,I x.dhi,I x.blo,I x.bhi],.blk b4 [I l.length,I l.depth,vt,vs],.blk b3 [I s.id,I s.src,vst,vwa,I s.al,I s.up]]) (σf:=σ) hs trivial rfl hit Tryz.call218 (fun y hy=>by
    simp only [sf,List.mem_map] at hy
    obtain ⟨j,_,rfl⟩:=hy;rfl) rfl
   (I:=fun p H' σb=>σb=[.blk b10 [I (kH l.seasons x.zone x.fr p)],.blk b5 [I x.zone,I x.fr,I x.to,I x.dlo,I x.dhi,I x.blo,I x.bhi],.blk b4 [I l.length,I l.depth,vt,vs],.blk b3 [I s.id,I s.src,vst,vwa,I s.al,I s.up]]) (Ix:=fun _ _ _=>False)
   (fun j _ _ σ g1 g2=>g2) (fun _ _ _ _ _ h=>h) rfl ?_ ?_ (fun D c H' σb w _ h _=>h.elim)
  ·rintro ly p hp H2 σb2 σf2 w hle2 rfl hs ⟨rr,hrr⟩
   rw [vS hp]
   refine .region (.z zg (.nil ?_))
   refine nT ?_
   refine ⟨H2,_,HLe.refl _,hs,?_⟩;rintro w σf4 - hs
   replace hs:St H2 w (.blk b10 [I (kH l.seasons x.zone x.fr p)]:: .blk b5 [I x.zone,I x.fr,I x.to,I x.dlo,I x.dhi,I x.blo,I x.bhi]:: .blk b4 [I l.length,I l.depth,vt,vs]:: .blk b3 [I s.id,I s.src,vst,vwa,I s.al,I s.up]::σf4):=hs
   refine .block ?_
   refine .draw mix rfl hs fun w hs=>?_
   refine .y 0 rfl hs ae ?_;refine .ys 1 rfl hs [_,_,_,_] aN aA ?_;refine .z 2 rfl (zfa lj) ?_;refine .y 3 rfl hs ae ?_;refine .z 4 rfl zm ?_
   refine .E 5 hs ?_
   refine .call Tryz.call105 rfl (iG hs (h2.mono (hle1.trans hle2)) hl) ?_;rintro _ w ⟨rfl,hs⟩
   refine .go ?_
   refine .z 6 rfl zC ?_
   refine .E 7 hs ?_
   refine .store hs rfl rfl aj ?_;intro w hs
   refine .go ?_
   refine .D hs ?_
   refine nB ?_
   exact ⟨H2,_,HLe.refl _,hs,rfl⟩
  ·rintro D H2 σb2 w hle2 rfl hs
   rw [lk] at hs
   have hle02:=hle1.trans hle2
   have hE:=xW hl.seasons x.zone x.fr (jS x)
   replace hs:St H2 w (.obj D (.deferred (some [])):: .blk b10 [I (kH l.seasons x.zone x.fr (jS x))]:: .blk b5 [I x.zone,I x.fr,I x.to,I x.dlo,I x.dhi,I x.blo,I x.bhi]:: .blk b4 [I l.length,I l.depth,vt,vs]:: .blk b3 [I s.id,I s.src,vst,vwa,I s.al,I s.up]::σ):=hs
   refine nB (nT ?_)
   refine .seq (.ai (.y hs (zls [_,_,_,_,_,_] bI aV) (.z (zfa fj) (.y hs (zld ae) (.z zm (.z fu (.y hs (zld ae) (.z fu ?_))))))))
   refine .o (.call Tryz.call112 rfl (q6 (s:=s) hs (g2.mono hle02) hsp) ?_);rintro _ w ⟨k,rfl,hB,hs⟩
   refine .z zg (.nil (.ai (.z zm (.z sC (.nil ?_)))))
   refine (.cz rfl (fun hc39=>?_) (fun hc39=>?_))
   ·refine .ai (.z zm (.z zg (.z zg (.nil ?_))))
    refine .ret (rT (?_))
    exact Fin.gQ [D] [] hs fun w hs=>⟨_,results2 Tryz.results115 rfl rfl,H2,_,_,hle02,rfl,.ok hF hB hc39,hs.out⟩
   ·refine .skip ?_
    refine nT ?_
    refine .ai (.z zg (.z zg (.nil ?_)))
    refine .ret ?_
    have hk:=hB.low
    obtain rfl:k= -1:=by omega
    exact Fin.gQ [D] [] hs fun w hs=>⟨_,results2 Tryz.results115 rfl rfl,H2,_,_,hle02,rfl,.above hF hB,hs.out⟩
theorem qV{v:Value}{l:List Rng}(hs:St H w σ)(hr:RRg H v l):Cl Tryz.prog 162 [v] w fun u w'=>RRg H u l∧St H w' σ:=by
 obtain ⟨a,c,rfl⟩:=hr.shape
 have hc:=RS.clip hr
 refine Cl.o Tryz.func162 Tryz.ntmps162 ag1 ?_
 refine .ai (.z zg (.nil (.ai (.z zm (.z zm (.z (dp bB) (.z zm (.z (dp bB) ?_))))))))
 refine .q hs (Ab rfl rfl rfl bB au (Nat.le_refl _) hc.1) ?_
 refine .z zg (.nil ?_)
 refine .ret (Fin.bg Tryz.results162 rfl ?_)
 exact ⟨hc.2,hs⟩
theorem gR{r:List Lg}{vr:Value}{m:Rng}(hs:St H w σ)(h1:RLg H vr r)(hr:mb r)(hm:ed m.lo m.hi):
  Cl Tryz.prog 110 [.agg #[vr],.agg #[I m.lo,I m.hi]] w fun u w'=>∃H1,HLe H H1∧RRg H1 u (msL m r r.length)∧St H1 w' σ:=by
 obtain ⟨ar,cr,rfl⟩:=h1.shape
 have hn:=hr.many
 refine Cl.o Tryz.func110 Tryz.ntmps110 ag2 ?_
 refine .ai ?_
 refine .bx hs fun b2 w hs=>?_
 refine .bx hs fun b3 w hs=>?_
 refine .z zg (.nil (.ai (.y hs (zls [_,_] aB au) ?_)))
 refine .o (.buildSlice (cells:=m.c) hs eO rfl an fun b9 w hs=>?_)
 refine .z zg (.nil (.seq (.ai (.z (zfa cg) (.y hs (zld cZ) (.z (dp aO) (.z zm (.nil ?_))))))))
 refine .for (N:=r.length) (J:=fun k fr w=>∃vo en,fr=[(5,vo),(11,.slice ar r.length cr),(3,.pointer (some ⟨b3,0,none⟩))]∧cR 2 vo (rgc (msL m r k)).flatten en∧St H w (en:: .blk b3 [I (je m r k).lo,I (je m r k).hi]::σ)) ak ?_ ?_ ?_
 ·exact .mk ⟨_,.blk b9 m.c,rfl,.full rfl,hs.sb⟩
 ·rintro k fr w hk ⟨vo,en,rfl,hO,hs⟩
  have hx:=js (l:=r) hk
  have hb:=w6 hm (fun i hi=>(hr.leg i hi).1) (i:=k) ak
  have hb2:=(hr.leg k hk).1.burn
  unfold ed at hb hb2
  have hml:=iy m r k
  obtain ⟨ao,co,rfl⟩:=hO.zT (wQ _) ak
  refine .block (.ai ?_)
  refine .ixX (enc:=Lg.c) hs h1 rfl rfl aO aZ hx cU ?_;intro b15 o15 hc15
  refine .q hs (bG (vs:=(Lg.c (lg0 r k))) rfl gO aZ hc15) ?_
  refine .o (.alloc hs e8 rfl fun b7 w hs=>?_)
  refine .o (.aI (vs:=(lg0 r k).c) hs rfl rfl aZ fun w hs=>?_)
  change St _ _ (.blk b7 [I (lg0 r k).zone,I (lg0 r k).fr,I (lg0 r k).to,I (lg0 r k).dlo,I (lg0 r k).dhi,I (lg0 r k).blo,I (lg0 r k).bhi]::_) at hs
  refine .nil (.ai (.z (zfa a8) (.y hs (zld ae) (.z (zfa eX) (.z (zfa bw) (.y hs (zld ae) (.z fu (.z zC (.z (zfa bw) ?_)))))))))
  refine .y hs (zld ae) (.z (zfa eX) (.z (zfa a8) (.y hs (zld ae) (.z fu (.z zC (.z (zbd [_,_] bu) ?_))))))
  refine .o (.aI (vs:=(je m r (k+1)).c) hs rfl rfl au fun w hs=>?_)
  change St _ _ (.blk b7 _::en:: .blk b3 [I (je m r (k+1)).lo,I (je m r (k+1)).hi]::σ) at hs
  refine .nil (.region (.z zm (.y hs (zls [_,_] aB au) ?_)))
  refine .o (.buildSlice (cells:=(je m r (k+1)).c) hs eO rfl an fun b34 w hs=>?_)
  refine .o (.append (ys:=(je m r (k+1)).c) hs fa rfl rfl hO (.own .here rfl rfl) (by simp [Rng.c,Value.oneCell']) (fun l h=>by rw [fC _ (wQ _),gq] at h;omega) ?_);intro v35 en35 w hO2 hs
  rw [←xH,←xS] at hO2
  refine .z zg (.nil ?_)
  refine nB (nT ?_)
  exact .mk ⟨_,_,rfl,hO2,hs.sb⟩
 ·rintro fr w ⟨vo,en,rfl,hO,hs⟩
  obtain ⟨H1,hle1,hR,hs⟩:=cR.ck (m:=2) hO (wQ _) ak (by rw [gq,iy];omega) hs .here
  refine nT ?_
  refine .ai (.z zm ?_)
  refine .o (.call Tryz.call162 rfl (qV (l:=msL m r r.length) hs hR) ?_);rintro v38 w ⟨hR2,hs⟩
  refine .z zg (.nil ?_)
  refine .ret (Fin.bg Tryz.results110 rfl ?_)
  exact ⟨H1,hle1,hR2,hs.out⟩
inductive MsR(r:List Lg)(m:Rng):List Rng→Int→Prop
 |route (h:¬mb r):MsR r m [] 61
 |mass (h:mb r) (h1:¬ed m.lo m.hi):MsR r m [] 63
 |ok (h:mb r) (h1:ed m.lo m.hi):MsR r m (msL m r r.length) 0
theorem MsR.uniq{r:List Lg}{m:Rng}{a b:List Rng}{e f:Int}(h:MsR r m a e)(g:MsR r m b f):a=b∧e=f:=by
 cases h<;>cases g<;>first|exact ⟨rfl,rfl⟩|contradiction
theorem qb{r:List Lg}{vr:Value}{m:Rng}(hs:St H w σ)(h1:RLg H vr r):
  Cl Tryz.prog 43 [.agg #[vr],.agg #[I m.lo,I m.hi]] w fun u w'=>∃H1 v l e,HLe H H1∧u= .tuple #[v,I e]∧RRg H1 v l∧MsR r m l e∧St H1 w' σ:=by
 refine Cl.o Tryz.func43 Tryz.ntmps43 ag2 ?_
 refine .ai ?_
 refine .bx hs fun b2 w hs=>?_
 refine .bx hs fun b3 w hs=>?_
 refine .z zg (.z zg (.nil (.seq (.ai (.y hs (zls [_] cW bJ) ?_)))))
 refine .o (.call Tryz.call21 rfl (ig hs h1) ?_);rintro _ w ⟨e,rfl,he,hs⟩
 refine .z zg (.nil (.ai (.z zm (.z ia (.nil ?_)))))
 refine (.dU rfl (fun hc10=>?_) (fun hc10=>?_))
 ·refine .ai (.z zm (.z zg (.z zg (.nil ?_))))
  refine .ret (rT (Fin.fY Tryz.results43 rfl rfl ?_))
  have h:=he.resolve_left fun h=>hc10 h.2
  exact ⟨H,_,[],_,HLe.refl H,rfl,RS.nil H 2 none 0,by rw [h.2];exact .route h.1,hs.out⟩
 ·refine .skip ?_
  refine nT ?_
  refine .seq (.ai (.y hs (zls [_,_] aB au) ?_))
  have hok:mb r:=(he.resolve_right fun h=>by omega).1
  refine .o (.call Tryz.call109 rfl (gU hs) ?_);rintro _ w ⟨rfl,hs⟩
  refine .z eL (.nil ?_)
  refine (.cond rfl (fun hc14=>?_) (fun hc14=>?_))
  ·refine .ai (.z zg (.z zg (.nil ?_)))
   refine .ret (rT (Fin.fY Tryz.results43 rfl rfl ?_))
   exact ⟨H,_,[],_,HLe.refl H,rfl,RS.nil H 2 none 0,.mass hok (by simpa using hc14),hs.out⟩
  ·refine .skip ?_
   refine nT ?_
   refine .ai (.y hs (zls [_] cW bJ) (.y hs (zls [_,_] aB au) ?_))
   have hm:ed m.lo m.hi:=by simpa using hc14
   refine .o (.call Tryz.call110 rfl (gR hs h1 hok hm) ?_);rintro v17 w ⟨H1,hle1,hR,hs⟩
   refine .z zg (.z zg (.nil ?_))
   refine .ret (Fin.fY Tryz.results43 rfl rfl ?_)
   exact ⟨H1,_,_,_,hle1,rfl,hR,.ok hok hm,hs.out⟩
theorem AX{v:Srv}{out:List Int}{e:Int}(h:rM v out e)(hv:cf v):(e=0∧0<out.length∧¬v.sys.Sound)∨(e=3∧v.sys.Sound):=by
 cases h with
 |bad h he=>exact (he (h.aH.2 hv)).elim
 |ok _ h=>
  by_cases e0:e=0
  ·subst e0
   obtain ⟨_,h1,_,h2⟩:=h.conf
   exact .inl ⟨rfl,(by cases out with|nil=>exact (h2 rfl).elim|cons=>simp),h1⟩
  ·cases h with
   |bad h=>exact (h (v.sys.aH.2 hv.sys)).elim
   |none _ h=>exact .inr ⟨rfl,h⟩
   |ok=>exact (e0 rfl).elim
theorem jf{k:Int}(hs:St H w σ):Cl Tryz.prog 98 [I k] w fun u w'=>u= .agg #[I 1,I 0,I k]∧St H w' σ:=by
 refine Cl.o Tryz.func98 Tryz.ntmps98 ag1 ?_
 refine .ai ?_
 refine .o (.alloc hs Tryz.zeroValue113 rfl fun b2 w hs=>?_)
 refine .nil (.ai (.z zm (.z (zbd [_,_,_] vX) ?_)))
 refine .o (.aI (vs:=[_,_,_]) hs rfl rfl gd fun w hs=>?_)
 refine .nil ?_
 refine .ret ?_
 exact Fin.gQ [] [] hs fun w hs=>⟨_,results1 Tryz.results98 (dB (vs:=[_,_,_]) hs rfl wz gd),rfl,hs.out⟩
theorem p8{s:Srv}{k:Nat}{a b c d:Value}(hs:St H w σ)(g:SvM H s a b c d)(hok:cf s):
  Cl Tryz.prog 122 [svA s a b c d,I (k:Int)] w fun u w'=>∃H1 lo hi e,HLe H H1∧u= .tuple #[.agg #[I lo,I hi],I e]∧uF s k lo hi e∧St H1 w' σ:=by
 refine Cl.o Tryz.func122 Tryz.ntmps122 ag2 ?_
 refine .ai ?_
 refine .bx hs fun b2 w hs=>?_
 refine .o (.alloc hs br rfl fun b4 w hs=>?_)
 refine .z zg (.nil (.seq (.ai (.z zm (.z nu (.nil ?_))))))
 refine (.cz rfl (fun hc9=>?_) (fun hc9=>?_))
 ·refine .seq (.draw mix rfl hs fun w hs=>?_)
  refine .ys 0 rfl hs [_,_,_,_,_,_,_,_] aS aF ?_;refine .z 1 rfl zm ?_
  refine .E 2 hs ?_
  refine .call Tryz.call98 rfl (jf hs) ?_;rintro _ w ⟨rfl,hs⟩
  refine .go ?_
  refine .E 3 hs ?_
  refine .call Tryz.call174 rfl (nM (s:=s) (q:=⟨1,0,k⟩) hs g.st g.wa g.rd g.cm) ?_;rintro _ w ⟨H1,lo,hi,e,hle1,rfl,hQ,hs⟩
  refine .go ?_
  refine .z 4 rfl zex ?_;refine .z 5 rfl zex ?_
  refine .E 6 hs ?_
  refine .aI (vs:=[_,_]) hs rfl rfl au ?_;intro w hs
  refine .go ?_
  refine .z 7 rfl zg ?_;refine .D hs ?_
  refine .ret (rT (?_))
  exact Fin.gQ [] [] hs fun w hs=>⟨_,results2 Tryz.results122 (dB (vs:=[_,_]) hs rfl aB au) rfl,H1,_,_,_,hle1,rfl,.up ak hQ,hs.out⟩
 ·refine .skip ?_
  refine nT ?_
  refine .seq (.ai (.y hs (zls [_,_,_,_,_,_,_,_] aS aF) ?_))
  obtain rfl:k=0:=by omega
  refine .o (.call Tryz.call175 rfl (nL (s:=s) hs g.st g.wa g.rd g.cm) ?_);rintro _ w ⟨H1,vx,out,e,hle1,rfl,hX,hC,hs⟩
  have hcl:=AX hC hok
  obtain ⟨ax,cx,rfl⟩:=RI.shape hX
  refine .z zm (.z zex (.z zex (.z zg (.z zg (.nil (.ai (.z zm (.z iP (.z zm ?_)))))))))
  refine .gM (t':=23) rfl (fun hb23=>?_) (fun hb23=>?_)
  ·refine .gT rfl rfl ?_
   refine .z zm ?_
   refine .gT rfl rfl ?_
   refine .z (dp af) ?_
   refine .gT rfl rfl ?_
   refine .z nu (.z zpT (.nil ?_))
   refine (.cz rfl (fun hc27=>?_) (fun hc27=>?_))
   ·refine .ai (.z (zbd [_,_] bu) ?_)
    refine .o (.aI (vs:=[_,_]) hs rfl rfl au fun w hs=>?_)
    refine .z zg (.nil ?_)
    refine .ret (rT (?_))
    exact Fin.gQ [] [] hs fun w hs=>⟨_,results2 Tryz.results122 (dB (vs:=[_,_]) hs rfl aB au) rfl,H1,_,_,_,hle1,rfl,.fls rfl hok (by rcases hcl with h|h;exact h.2.2;omega),hs.out⟩
   ·refine .skip ?_
    refine nT ?_
    refine .ai (.z (zbd [_,_] bu) ?_)
    refine .o (.aI (vs:=[_,_]) hs rfl rfl au fun w hs=>?_)
    refine .z zg (.nil ?_)
    refine .ret ?_
    exact Fin.gQ [] [] hs fun w hs=>⟨_,results2 Tryz.results122 (dB (vs:=[_,_]) hs rfl aB au) rfl,H1,_,_,_,hle1,rfl,.zero rfl hok (by rcases hcl with h|h;omega;exact h.2),hs.out⟩
  ·refine .gFs 3 2 true rfl rfl rfl ?_
   refine .z zpF (.nil ?_)
   refine (.cF ?_)
   refine .skip ?_
   refine nT ?_
   refine .ai (.z (zbd [_,_] bu) ?_)
   refine .o (.aI (vs:=[_,_]) hs rfl rfl au fun w hs=>?_)
   refine .z zg (.nil ?_)
   refine .ret ?_
   exact Fin.gQ [] [] hs fun w hs=>⟨_,results2 Tryz.results122 (dB (vs:=[_,_]) hs rfl aB au) rfl,H1,_,_,_,hle1,rfl,.zero rfl hok (by rcases hcl with h|h;omega;exact h.2),hs.out⟩
theorem eE{n d:Int}(hs:St H w σ)(hn: -4000000000000≤n∧n≤4000000000000)(hd: -100000≤d∧d≤100000):Cl Tryz.prog 99 [I n,I d] w fun v w'=>v=I (jQ n d)∧St H w' σ:=by
 have hm:=kU (a:=n) (b:=d) (A:=4000000000000) (B:=100000) ak ak
 refine Cl.o Tryz.func99 Tryz.ntmps99 ag2 ?_
 refine .ai (.z zg (.nil (.ai (.z zm (.z zm (.z pR ?_))))))
 refine .o (.call Tryz.call140 rfl (ml hs ak ak) ?_);rintro _ w ⟨rfl,hs⟩
 refine .z zg (.nil ?_)
 refine .ret (Fin.bg Tryz.results99 rfl ?_)
 exact ⟨rfl,hs⟩
theorem o5{lo hi x y:Int}(hs:St H w σ)(h1: -200000000≤lo∧lo≤200000000)(h2: -200000000≤hi∧hi≤200000000)(hd:ey x y):
  Cl Tryz.prog 145 [.agg #[I lo,I hi],.agg #[I x,I y]] w fun v w'=>v= .agg #[I (uT lo x y),I (uU hi x y)]∧St H w' σ:=by
 unfold ey at hd
 refine Cl.o Tryz.func145 Tryz.ntmps145 ag2 ?_
 refine .ai ?_
 refine .bx hs fun b2 w hs=>?_
 refine .bx hs fun b3 w hs=>?_
 refine .o (.alloc hs br rfl fun b4 w hs=>?_)
 refine .nil ?_
 refine .seq (.draw mix rfl hs fun w hs=>?_)
 refine .z 0 rfl (zfa a8) ?_;refine .y 1 rfl hs ae ?_;refine .z 2 rfl (zfa a8) ?_;refine .y 3 rfl hs ae ?_;refine .z 5 rfl (zfa a8) ?_;refine .y 6 rfl hs ae ?_;refine .z 7 rfl (zfa bw) ?_;refine .y 8 rfl hs ae ?_;refine .z 11 rfl (zfa bw) ?_;refine .y 12 rfl hs ae ?_
 refine .z 13 rfl (zfa a8) ?_;refine .y 14 rfl hs ae ?_;refine .z 16 rfl (zfa bw) ?_;refine .y 17 rfl hs ae ?_;refine .z 18 rfl (zfa bw) ?_;refine .y 19 rfl hs ae ?_
 refine .E 4 hs ?_
 refine .call Tryz.call99 rfl (eE hs ak ak) ?_;rintro _ w ⟨rfl,hs⟩
 refine .go ?_
 refine .E 9 hs ?_
 refine .call Tryz.call99 rfl (eE hs ak ak) ?_;rintro _ w ⟨rfl,hs⟩
 refine .go ?_
 refine .z 10 rfl CM ?_
 refine .E 15 hs ?_
 refine .call Tryz.call99 rfl (eE hs ak ak) ?_;rintro _ w ⟨rfl,hs⟩
 refine .go ?_
 refine .E 20 hs ?_
 refine .call Tryz.call99 rfl (eE hs ak ak) ?_;rintro _ w ⟨rfl,hs⟩
 refine .go ?_
 refine .z 21 rfl zC ?_;refine .z 22 rfl (zbd [_,_] bu) ?_
 refine .E 23 hs ?_
 refine .aI (vs:=[_,_]) hs rfl rfl au ?_;intro w hs
 refine .go ?_
 refine .D hs ?_
 refine .ret ?_
 exact Fin.gQ [] [] hs fun w hs=>⟨_,results1 Tryz.results145 (dB (vs:=[_,_]) hs rfl aB au),rfl,hs.out⟩
theorem dj{s:Srv}{k:Nat}{a b c d:Value}{x y:Int}(hs:St H w σ)(g:SvM H s a b c d)(hok:cf s)(hd:ey x y):
  Cl Tryz.prog 88 [svA s a b c d,I (k:Int),.agg #[I x,I y]] w fun u w'=>∃H1 lo hi e,HLe H H1∧u= .tuple #[.agg #[I lo,I hi],I e]∧jI s k x y lo hi e∧St H1 w' σ:=by
 refine Cl.o Tryz.func88 Tryz.ntmps88 ag3 ?_
 refine .ai ?_
 refine .bx hs fun b3 w hs=>?_
 refine .bx hs fun b5 w hs=>?_
 refine .o (.alloc hs br rfl fun b6 w hs=>?_)
 refine .z zg (.nil (.ai (.y hs (zls [_,_,_,_,_,_,_,_] aS aF) (.z zm ?_))))
 refine .o (.call Tryz.call122 rfl (p8 (s:=s) hs g hok) ?_);rintro _ w ⟨H1,lo,hi,e,hle1,rfl,hL,hs⟩
 have hb:=hL.bd
 refine .z zm (.z zex (.z zex ?_))
 refine .o (.alloc hs br rfl fun b8 w hs=>?_)
 refine .o (.aI (vs:=[_,_]) hs rfl rfl au fun w hs=>?_)
 refine .z zg (.nil (.seq (.ai (.z zm (.z ia (.nil ?_))))))
 refine (.dU rfl (fun hc17=>?_) (fun hc17=>?_))
 ·refine .ai (.z (zbd [_,_] bu) (.z zm ?_))
  refine .o (.aI (vs:=[_,_]) hs rfl rfl au fun w hs=>?_)
  refine .z zg (.nil ?_)
  refine .ret (rT (?_))
  exact Fin.gQ [] [] hs fun w hs=>⟨_,results2 Tryz.results88 (dB (vs:=[_,_]) hs rfl aB au) rfl,H1,_,_,_,hle1,rfl,.fls hL hc17,hs.out⟩
 ·refine .skip ?_
  refine nT ?_
  refine .ai (.y hs (zls [_,_] aB au) (.y hs (zls [_,_] aB au) ?_))
  obtain rfl:e=0:=by omega
  refine .o (.call Tryz.call145 rfl (o5 hs ak ak hd) ?_);rintro _ w ⟨rfl,hs⟩
  refine .o (.aI (vs:=[_,_]) hs rfl rfl au fun w hs=>?_)
  refine .z zg (.nil ?_)
  refine .ret ?_
  exact Fin.gQ [] [] hs fun w hs=>⟨_,results2 Tryz.results88 (dB (vs:=[_,_]) hs rfl aB au) rfl,H1,_,_,_,hle1,rfl,.ok hL,hs.out⟩
theorem kI{s:Srv}{k:Int}{a b c d:Value}{x y:Int}(hs:St H w σ)(g:SvM H s a b c d):
  Cl Tryz.prog 58 [svA s a b c d,I k,.agg #[I x,I y]] w fun u w'=>∃H1 lo hi e,HLe H H1∧u= .tuple #[.agg #[I lo,I hi],I e]∧uC s k x y lo hi e∧St H1 w' σ:=by
 obtain ⟨aw,cw,rfl⟩:=RI.shape g.wa
 refine Cl.o Tryz.func58 Tryz.ntmps58 ag3 ?_
 refine .ai ?_
 refine .bx hs fun b3 w hs=>?_
 refine .bx hs fun b5 w hs=>?_
 refine .o (.alloc hs br rfl fun b6 w hs=>?_)
 refine .z zg (.nil (.seq (.ai (.y hs (zls [_,_,_,_,_,_,_,_] aS aF) ?_))))
 refine .o (.call GP rfl (dQ (s:=s) hs g.st g.wa g.rd g.cm) ?_);rintro _ w ⟨H1,e,hle1,rfl,hC,hs⟩
 refine .z zg (.nil (.ai (.z zm (.z ia (.nil ?_)))))
 refine (.dU rfl (fun hc12=>?_) (fun hc12=>?_))
 ·refine .ai (.z (zbd [_,_] bu) (.z zm ?_))
  refine .o (.aI (vs:=[_,_]) hs rfl rfl au fun w hs=>?_)
  refine .z zg (.nil ?_)
  refine .ret (rT (?_))
  exact Fin.gQ [] [] hs fun w hs=>⟨_,results2 Tryz.results58 (dB (vs:=[_,_]) hs rfl aB au) rfl,H1,_,_,_,hle1,rfl,.bad hC hc12,hs.out⟩
 ·refine .skip ?_
  refine nT ?_
  refine .seq (.block (.ai ?_))
  have hok:cf s:=hC.aH.1 ak
  have hsm:=eD hok.early.1
  refine .z zm (.z (zfa bC) (.z (zfa bF) (.y hs (zld aq) (.z (dp af) (.z fu ?_)))))
  refine .o (.call di rfl (bj hs) ?_);rintro _ w ⟨rfl,hs⟩
  refine .z eL (.z zg (.nil ?_))
  refine (.cond rfl (fun hc15=>?_) (fun hc15=>?_))
  ·refine .ai (.z (zbd [_,_] bu) ?_)
   refine .o (.aI (vs:=[_,_]) hs rfl rfl au fun w hs=>?_)
   refine .z zg (.nil ?_)
   refine .ret (rB (rT (?_)))
   exact Fin.gQ [] [] hs fun w hs=>⟨_,results2 Tryz.results58 (dB (vs:=[_,_]) hs rfl aB au) rfl,H1,_,_,_,hle1,rfl,.water hok (by simp at hc15;omega),hs.out⟩
  ·refine .ai (.y hs (zls [_,_] aB au) ?_)
   have hk:0≤k∧k≤(s.sp.wa.length:Int) - 1:=by simpa using hc15
   refine .o (.call Tryz.call118 rfl (jD hs) ?_);rintro _ w ⟨rfl,hs⟩
   refine .z eL (.z zg (.nil ?_))
   refine (.cond rfl (fun hc25=>?_) (fun hc25=>?_))
   ·refine .ai (.z (zbd [_,_] bu) ?_)
    refine .o (.aI (vs:=[_,_]) hs rfl rfl au fun w hs=>?_)
    refine .z zg (.nil ?_)
    refine .ret (rB (rT (?_)))
    exact Fin.gQ [] [] hs fun w hs=>⟨_,results2 Tryz.results58 (dB (vs:=[_,_]) hs rfl aB au) rfl,H1,_,_,_,hle1,rfl,.dense hok hk (by simpa using hc25),hs.out⟩
   ·refine .skip ?_
    refine nB (nT ?_)
    refine .ai (.y hs (zls [_,_,_,_,_,_,_,_] aS aF) (.z zm (.y hs (zls [_,_] aB au) ?_)))
    have hdn:ey x y:=by simpa using hc25
    obtain ⟨j,rfl⟩:∃j:Nat,k=(j:Int):=⟨k.toNat,ak⟩
    refine .o (.call Tryz.call88 rfl (dj (s:=s) hs (g.mono hle1) hok hdn) ?_);rintro _ w ⟨H2,lo,hi,e,hle2,rfl,hS,hs⟩
    refine .z zex (.z zex ?_)
    refine .o (.aI (vs:=[_,_]) hs rfl rfl au fun w hs=>?_)
    refine .z zg (.nil ?_)
    refine .ret ?_
    exact Fin.gQ [] [] hs fun w hs=>⟨_,results2 Tryz.results58 (dB (vs:=[_,_]) hs rfl aB au) rfl,H2,_,_,_,hle1.trans hle2,rfl,.go hok hk hdn (by rw [Int.toNat_natCast];exact hS),hs.out⟩
set_option maxHeartbeats 2000000 in
theorem q7{s:Srv}{l:Lns}{r:List Lg}{m:Rng}{a b c d vt vs vlg:Value}(hs:St H w σ)(g:SvM H s a b c d)(gl:LnM H l vt vs)(gr_:RLg H vlg r):
  Cl Tryz.prog 79 [svA s a b c d,lnA l vt vs,.agg #[vlg],.agg #[I m.lo,I m.hi]] w fun u w'=>∃(H1:bp) (z:RtV) (ks:List Int) (e:Int),HLe H H1∧u= .tuple #[z.agg,I e]∧z.cs.all Value.oneCell'=true∧pA s l r m ks e∧(e=0→∃vms vmk,z=⟨s,l,a,b,c,d,vt,vs,vlg,vms,vmk⟩∧RRg H1 vms (msL m r r.length)∧RI H1 vmk ks)∧St H1 w' σ:=by
 obtain ⟨alg,clg,rfl⟩:=gr_.shape
 refine Cl.o Tryz.func79 Tryz.ntmps79 ag4 ?_
 refine .ai ?_
 refine .bx hs fun b4 w hs=>?_
 refine .bx hs fun b5 w hs=>?_
 refine .bx hs fun b6 w hs=>?_
 refine .bx hs fun b7 w hs=>?_
 refine .o (.alloc hs iA rfl fun b8 w hs=>?_)
 refine .z zg (.nil (.seq (.ai (.y hs (zls [_,_,_,_,_,_,_,_] aS aF) ?_))))
 refine .o (.call GP rfl (dQ (s:=s) hs g.st g.wa g.rd g.cm) ?_);rintro _ w ⟨H1,e,hle1,rfl,hC,hs⟩
 refine .z zg (.nil (.ai (.z zm (.z ia (.nil ?_)))))
 refine (.dU rfl (fun hc21=>?_) (fun hc21=>?_))
 ·refine .ai (.z (zbd RtV.zero.cs dV rfl an) (.z zm ?_))
  refine .o (.aI (vs:=RtV.zero.cs) hs rfl rfl bM fun w hs=>?_)
  refine .z zg (.nil ?_)
  refine .ret (rT (?_))
  exact Fin.gQ [] [] hs fun w hs=>⟨_,results2 sA (dB (vs:=RtV.zero.cs) hs rfl jZ bM) rfl,H1,RtV.zero,_,_,hle1,rfl,rfl,.bad hC hc21,fun h=>(hc21 h).elim,hs.out⟩
 ·refine .skip ?_
  refine nT ?_
  refine .seq (.ai (.y hs (zls [_,_,_,_] aN aA) ?_))
  have hok:cf s:=hC.aH.1 ak
  have hsp:=hok.early.1
  refine .o (.call Tryz.call19 rfl (fg hs (gl.tb.mono hle1) (gl.sn.mono hle1)) ?_);rintro _ w ⟨f,rfl,hL,hs⟩
  refine .z zg (.nil (.ai (.z zm (.z ia (.nil ?_)))))
  refine (.dU rfl (fun hc27=>?_) (fun hc27=>?_))
  ·refine .ai (.z (zbd RtV.zero.cs dV rfl an) (.z zm ?_))
   have hl:=hL.resolve_left fun h=>hc27 h.2
   refine .o (.aI (vs:=RtV.zero.cs) hs rfl rfl bM fun w hs=>?_)
   refine .z zg (.nil ?_)
   refine .ret (rT (?_))
   exact Fin.gQ [] [] hs fun w hs=>⟨_,results2 sA (dB (vs:=RtV.zero.cs) hs rfl jZ bM) rfl,H1,RtV.zero,_,_,hle1,rfl,rfl,by rw [hl.2];exact .lines hok hl.1,fun h=>(hc27 h).elim,hs.out⟩
  ·refine .skip ?_
   refine nT ?_
   refine .seq (.ai (.y hs (zls [_] cW bJ) ?_))
   have hl:eQ l:=(hL.resolve_right fun h=>by omega).1
   refine .o (.call Tryz.call21 rfl (ig hs (gr_.mono hle1)) ?_);rintro _ w ⟨q,rfl,hR,hs⟩
   refine .z zg (.nil (.ai (.z zm (.z ia (.nil ?_)))))
   refine (.dU rfl (fun hc33=>?_) (fun hc33=>?_))
   ·refine .ai (.z (zbd RtV.zero.cs dV rfl an) (.z zm ?_))
    have hrt:=hR.resolve_left fun h=>hc33 h.2
    refine .o (.aI (vs:=RtV.zero.cs) hs rfl rfl bM fun w hs=>?_)
    refine .z zg (.nil ?_)
    refine .ret (rT (?_))
    exact Fin.gQ [] [] hs fun w hs=>⟨_,results2 sA (dB (vs:=RtV.zero.cs) hs rfl jZ bM) rfl,H1,RtV.zero,_,_,hle1,rfl,rfl,by rw [hrt.2];exact .route hok hl hrt.1,fun h=>(hc33 h).elim,hs.out⟩
   ·refine .skip ?_
    refine nT ?_
    refine .seq (.ai (.y hs (zls [_,_] aB au) ?_))
    have hrt:mb r:=(hR.resolve_right fun h=>by omega).1
    have hn:=hrt.many
    refine .o (.call Tryz.call109 rfl (gU hs) ?_);rintro _ w ⟨rfl,hs⟩
    refine .z eL (.nil ?_)
    refine (.cond rfl (fun hc38=>?_) (fun hc38=>?_))
    ·refine .ai (.z (zbd RtV.zero.cs dV rfl an) ?_)
     refine .o (.aI (vs:=RtV.zero.cs) hs rfl rfl bM fun w hs=>?_)
     refine .z zg (.nil ?_)
     refine .ret (rT (?_))
     exact Fin.gQ [] [] hs fun w hs=>⟨_,results2 sA (dB (vs:=RtV.zero.cs) hs rfl jZ bM) rfl,H1,RtV.zero,_,_,hle1,rfl,rfl,.mass hok hl hrt (by simpa using hc38),fun h=>by omega,hs.out⟩
    ·refine .skip ?_
     refine nT ?_
     refine .cut (fun fs w=>∃H2 vms b13,kq fs ⟨76,[],[(13,.pointer (some ⟨b13,0,none⟩)),(8,.pointer (some ⟨b8,0,none⟩)),(5,.pointer (some ⟨b5,0,none⟩)),(6,.pointer (some ⟨b6,0,none⟩))]⟩∧HLe H1 H2∧RRg H2 vms (msL m r r.length)∧St H2 w (.blk b13 (RtV.cs ⟨s,l,a,b,c,d,vt,vs,.slice alg r.length clg,vms,.slice none 0 0⟩):: .blk b8 RtV.zero.cs:: .blk b6 [.slice alg r.length clg]:: .blk b5 (lnC l vt vs)::σ)) ?_ ?_
     ·refine .draw mix rfl hs fun w hs=>?_
      refine .ys 0 rfl hs [_,_,_,_,_,_,_,_] aS aF ?_;refine .ys 1 rfl hs [_,_,_,_] aN aA ?_;refine .z 2 rfl (zfa cg) ?_;refine .y 3 rfl hs cZ ?_;refine .ys 4 rfl hs [_] cW bJ ?_;refine .ys 5 rfl hs [_,_] aB au ?_
      refine .e2 (i:=6) (j:=8) an rfl rfl rfl rfl .none .none hs ?_ ?_
      ·refine .call Tryz.call110 rfl (gR hs (gr_.mono hle1) hrt (by simpa using hc38)) ?_;rintro vms w ⟨H2,hle2,hMs,hs⟩
       obtain ⟨ams,cms,rfl⟩:=hMs.shape
       refine .go ?_
       refine .z 7 rfl (zbd (vs:=[(0,svA s a b c d),(1,lnA l vt vs),(2,.slice alg r.length clg),(3,.slice ams (msL m r r.length).length cms)]) (RtV.cs ⟨s,l,a,b,c,d,vt,vs,.slice alg r.length clg,.slice ams (msL m r r.length).length cms,.slice none 0 0⟩) dV rfl an) ?_
       refine .E 8 hs ?_
       refine .alloc hs iA rfl ?_;intro b13 w hs
       refine .go ?_
       refine .E 9 hs ?_
       refine .aI (vs:=RtV.cs ⟨s,l,a,b,c,d,vt,vs,.slice alg r.length clg,.slice ams (msL m r r.length).length cms,.slice none 0 0⟩) hs rfl rfl bM ?_ (hv:=RtV.one g gl gr_ (RS.one hMs) rfl);intro w hs
       refine .go ?_
       refine .D hs ?_
       exact nT ⟨H2,_,b13,bS,hle2,hMs,hs.sb⟩
      ·refine .alloc hs iA rfl ?_;intro b13 w hs
       refine .go ?_
       refine .E 6 hs ?_
       refine .call Tryz.call110 rfl (gR hs (gr_.mono hle1) hrt (by simpa using hc38)) ?_;rintro vms w ⟨H2,hle2,hMs,hs⟩
       obtain ⟨ams,cms,rfl⟩:=hMs.shape
       refine .go ?_
       refine .z 7 rfl (zbd (vs:=[(0,svA s a b c d),(1,lnA l vt vs),(2,.slice alg r.length clg),(3,.slice ams (msL m r r.length).length cms)]) (RtV.cs ⟨s,l,a,b,c,d,vt,vs,.slice alg r.length clg,.slice ams (msL m r r.length).length cms,.slice none 0 0⟩) dV rfl an) ?_
       refine .E 9 hs ?_
       refine .aI (vs:=RtV.cs ⟨s,l,a,b,c,d,vt,vs,.slice alg r.length clg,.slice ams (msL m r r.length).length cms,.slice none 0 0⟩) hs rfl rfl bM ?_ (hv:=RtV.one g gl gr_ (RS.one hMs) rfl);intro w hs
       refine .go ?_
       refine .D hs ?_
       exact nT ⟨H2,_,b13,bS,hle2,hMs,hs.sb⟩
     ·rintro fs w ⟨H2,vms,b13,hfs,hle2,hMs,hs⟩
      refine WE.sub ?_ hfs
      clear hfs
      have hle02:=hle1.trans hle2
      have hm:ed m.lo m.hi:=by simpa using hc38
      refine .seq (.ai (.z (zfa cg) (.y hs (zld cZ) (.z (dp aO) (.z zm (.nil ?_))))))
      refine .for (N:=r.length) (J:=fun k fr w=>∃H3 ks vmk en,fr=[(49,.slice alg r.length clg),(13,.pointer (some ⟨b13,0,none⟩)),(8,.pointer (some ⟨b8,0,none⟩)),(5,.pointer (some ⟨b5,0,none⟩))]∧HLe H2 H3∧ks.length=k∧(∀i<k,su s.sp.wa l (lg0 r i) (gi ks i) 0)∧cR 1 vmk (Is ks) en∧St H3 w (en:: .blk b13 (RtV.cs ⟨s,l,a,b,c,d,vt,vs,.slice alg r.length clg,vms,vmk⟩):: .blk b8 RtV.zero.cs:: .blk b6 [.slice alg r.length clg]:: .blk b5 (lnC l vt vs)::σ)) ak ?_ ?_ ?_
      ·exact .mk ⟨H2,[],_,.nul,rfl,HLe.refl _,rfl,fun i hi=>by omega,.nil 1 none,hs.nul⟩
      ·rintro k fr w hk ⟨H3,ks,vmk,en,rfl,hle3,hkl,hks,hO,hs⟩
       have hx:=js (l:=r) hk
       have hle03:=hle02.trans hle3
       obtain ⟨ao,lo',co,rfl,hlo⟩:=hO.shape
       refine .block (.ai ?_)
       refine .ixX (enc:=Lg.c) hs (gr_.mono hle03) rfl rfl aO aZ hx cU ?_;intro b53 o53 hc53
       refine .q hs (bG (vs:=(Lg.c (lg0 r k))) rfl gO aZ hc53) ?_
       refine .o (.alloc hs e8 rfl fun b15 w hs=>?_)
       refine .o (.aI (vs:=(lg0 r k).c) hs rfl rfl aZ fun w hs=>?_)
       change St _ _ (.blk b15 (lgC (lg0 r k))::_) at hs
       refine .nil (.ai (.z (zfa iM) (.z (zfa bC) (.y hs (zls [_,_,_,_,_,_] bI aV) (.y hs (zls [_,_,_,_] aN aA) (.y hs (zls [_,_,_,_,_,_,_] gO aZ) ?_))))))
       refine .o (.call Tryz.call115 rfl (p6 (s:=s.sp) (x:=lg0 r k) hs (g.wa.mono hle03) (gl.tb.mono hle03) (gl.sn.mono hle03) hsp hl (hrt.leg k hk).1) ?_);rintro _ w ⟨H4,n,e,hle4,rfl,hLw,hs⟩
       have hle04:=hle03.trans hle4
       refine .z zm (.z zex (.z zex (.z zg (.z zg (.nil (.seq (.ai (.z zm (.z ia ?_)))))))))
       refine .nil ?_
       refine (.dU rfl (fun hc65=>?_) (fun hc65=>?_))
       ·refine .ai (.z (zbd RtV.zero.cs dV rfl an) (.z zm ?_))
        refine .o (.aI (vs:=RtV.zero.cs) hs rfl rfl bM fun w hs=>?_)
        refine .z zg (.nil ?_)
        refine .ret (rT (rB (rT (rB (rT (?_))))))
        exact Fin.gQ [] [] hs fun w hs=>⟨_,results2 sA (dB (vs:=RtV.zero.cs) hs rfl jZ bM) rfl,H4,RtV.zero,_,_,hle04,rfl,rfl,.low hok hl hrt hm hk (fun j hj=>⟨_,hks j hj⟩) hLw hc65,fun h=>(hc65 h).elim,hs.out⟩
       ·refine .skip ?_
        refine nT ?_
        refine .region (.z (zfa eV) (.y hs (zld aq) (.z zm ?_)))
        refine .o (.buildSlice (cells:=Is [n]) hs cP rfl an fun b71 w hs=>?_)
        refine .o (.append (ys:=Is [n]) hs da rfl rfl hO (.own .here rfl rfl) (lC _) (fun l h=>by simp [Is] at h;omega) ?_);intro v72 en72 w hO2 hs
        rw [←List.map_append] at hO2
        obtain ⟨a72,l72,c72,rfl,h72⟩:=hO2.shape
        refine .z (zfa eV) ?_
        refine .o (.store hs rfl rfl aJ fun w hs=>?_)
        refine .nil ?_
        refine nB (nT ?_)
        obtain rfl:e=0:=by omega
        exact .mk ⟨H4,ks++[n],_,_,rfl,hle3.trans hle4,by simp [hkl],fun i hi=>by
         by_cases e:i=k
         ·subst e;rw [jP,if_neg ak,if_pos ak];exact hLw
         ·rw [jP,if_pos ak];exact hks i ak,hO2,hs.sb⟩
      ·rintro fr w ⟨H3,ks,vmk,en,rfl,hle3,hkl,hks,hO,hs⟩
       obtain ⟨H4,hle4,hRk,hs⟩:=hO.dH ak hs .here
       have hle04:=hle02.trans (hle3.trans hle4)
       refine nT ?_
       refine .ai (.y hs (zls [_,_,_,_,_,_,_,_,_,_,_,_,_,_,_] jZ bM) ?_)
       refine .o (.aI (vs:=RtV.cs ⟨s,l,a,b,c,d,vt,vs,.slice alg r.length clg,vms,vmk⟩) hs rfl rfl bM ?_ (hv:=RtV.one g gl gr_ (RS.one hMs) (RS.one hRk)));intro w hs
       refine .z zg (.nil ?_)
       refine .ret ?_
       exact Fin.gQ [] [] hs fun w hs=>⟨_,results2 sA (dB (vs:=RtV.cs ⟨s,l,a,b,c,d,vt,vs,.slice alg r.length clg,vms,vmk⟩) hs rfl jZ bM) rfl,H4,⟨s,l,a,b,c,d,vt,vs,.slice alg r.length clg,vms,vmk⟩,_,_,hle04,rfl,RtV.one g gl gr_ (RS.one hMs) (RS.one hRk),.ok hok hl hrt hm hkl hks,fun _=>⟨_,_,rfl,hMs.mono (hle3.trans hle4),hRk⟩,hs.out⟩
structure RtM(H:bp)(s:Srv)(l:Lns)(r:List Lg)(m:Rng)(ks:List Int)(z:RtV):Prop where
 es:z.s=s
 el:z.l=l
 sv:SvM H s z.a z.b z.c z.d
 ln:LnM H l z.t z.n
 lg:RLg H z.lg r
 ms:RRg H z.ms (msL m r r.length)
 mr:RI H z.mr ks
 one:z.cs.all Value.oneCell'=true
 beg:pA s l r m ks 0
set_option maxHeartbeats 1000000 in
theorem o9{s:Srv}{l:Lns}{r:List Lg}{m:Rng}{ks:List Int}{z:RtV}(hs:St H w σ)(h:RtM H s l r m ks z):
  Cl Tryz.prog 80 [z.agg] w fun u w'=>∃H1 v as_ e,HLe H H1∧u= .tuple #[v,I e]∧RI H1 v as_∧Br s l r m as_ e∧St H1 w' σ:=by
 obtain ⟨s',l',a,b,c,d,t,n,lg,ms,mr⟩:=z
 obtain ⟨rfl,rfl,g,gl,hr,hms,hmr,hone,hB⟩:=h
 dsimp only at g gl hr hms hmr hone
 obtain ⟨alg,clg,rfl⟩:=hr.shape
 obtain ⟨ams,cms,rfl⟩:=hms.shape
 obtain ⟨amr,cmr,rfl⟩:=RI.shape hmr
 obtain ⟨hok,hl,hrt,hm,hkl,hlow⟩:=hB.ok'
 have hn:=hrt.many
 have hml:=iy m r r.length
 refine Cl.o Tryz.func80 Tryz.ntmps80 ag1 ?_
 refine .ai ?_
 refine .bx hs fun b1 w hs=>?_
 refine .z zg (.z zg (.nil (.ai (.z zg (.nil (.seq (.ai (.z (zfa fP) (.y hs (zld cZ) ?_)))))))))
 refine .z (dp aO) (.z zm (.nil ?_))
 refine .for (N:=r.length) (J:=fun k fr w=>∃H1 vo as_ en,fr=[(4,vo),(11,.slice alg r.length clg),(1,.pointer (some ⟨b1,0,none⟩))]∧HLe H H1∧as_.length=k∧(∀i<k,∃lo hi,jI s' (gi ks i).toNat (lg0 r i).dlo (lg0 r i).dhi lo hi 0∧gi as_ i=zu (je m r i) lo hi)∧(0<k→s'.sys.Sound)∧cR 1 vo (Is as_) en∧St H1 w (en:: .blk b1 (RtV.cs ⟨s',l',a,b,c,d,t,n,.slice alg r.length clg,.slice ams (msL m r r.length).length cms,.slice amr ks.length cmr⟩)::σ)) ak ?_ ?_ ?_
 ·exact .mk ⟨H,_,[],.nul,rfl,HLe.refl _,rfl,fun i hi=>by omega,fun h=>by omega,.nil 1 none,hs.nul⟩
 ·rintro k fr w hk ⟨H1,vo,as_,en,rfl,hle1,hal,has,hsd,hO,hs⟩
  have hx:=js (l:=r) hk
  have hxm:=w5 m r (k:=r.length) (i:=k) ak
  have hdn:=(hrt.leg k hk).1.dense
  obtain ⟨q,hq,hqw⟩:=hB.mark hk
  obtain ⟨ao,lo',co,rfl,hlo⟩:=hO.shape
  refine .block (.ai (.z zm ?_))
  refine .ixX (enc:=Lg.c) hs (hr.mono hle1) rfl rfl aO aZ hx cU ?_;intro b16 o16 hc16
  refine .q hs (bG (vs:=(Lg.c (lg0 r k))) rfl gO aZ hc16) ?_
  refine .o (.alloc hs e8 rfl fun b6 w hs=>?_)
  refine .z zg ?_
  refine .o (.aI (vs:=(lg0 r k).c) hs rfl rfl aZ fun w hs=>?_)
  change St _ _ (.blk b6 (lgC (lg0 r k))::_) at hs
  refine .nil ?_
  refine .cut (fun fs w=>∃H2 lo hi e b7,kq fs ⟨60,[],[(8,I e),(7,.pointer (some ⟨b7,0,none⟩)),(6,.pointer (some ⟨b6,0,none⟩)),(5,I (k:Int)),(4,.slice ao lo' co),(1,.pointer (some ⟨b1,0,none⟩)),(11,.slice alg r.length clg),(13,I (k:Int)),(12,I (r.length:Int))]⟩∧HLe H1 H2∧jI s' q (lg0 r k).dlo (lg0 r k).dhi lo hi e∧St H2 w (.blk b7 [I lo,I hi]:: .blk b6 (lgC (lg0 r k))::en:: .blk b1 (RtV.cs ⟨s',l',a,b,c,d,t,n,.slice alg r.length clg,.slice ams (msL m r r.length).length cms,.slice amr ks.length cmr⟩)::σ)) ?_ ?_
  ·refine .draw mix rfl hs fun w hs=>?_
   refine .z 0 rfl (zfa iM) ?_;refine .ys 1 rfl hs [_,_,_,_,_,_,_,_] aS aF ?_;refine .z 2 rfl (zfa eV) ?_;refine .y 3 rfl hs aq ?_;refine .z 4 rfl zm ?_
   refine .ixX (enc:=fun x=>[I x]) (i:=5) hs rfl an .none (hmr.mono hle1) rfl rfl af aj (bE (l:=ks) (i:=k) ak) rfl ?_;intro b24 o24 hc24;replace hc24:=bH.one hc24
   refine .y 6 rfl hs ae ?_;refine .z 7 rfl (zfa fH) ?_;refine .ys 8 rfl hs [_,_] aB au ?_
   refine .e2 (i:=9) (j:=13) an rfl rfl rfl rfl .none .none hs ?_ ?_
   ·rw [hq]
    refine .call Tryz.call88 rfl (dj (s:=s') hs (g.mono hle1) hok hdn) ?_;rintro _ w ⟨H2,lo,hi,e,hle2,rfl,hS,hs⟩
    refine .go ?_
    refine .z 10 rfl zm ?_;refine .z 11 rfl zex ?_;refine .z 12 rfl zex ?_
    refine .E 13 hs ?_
    refine .alloc hs br rfl ?_;intro b7 w hs
    refine .go ?_
    refine .E 14 hs ?_
    refine .aI (vs:=[_,_]) hs rfl rfl au ?_;intro w hs
    refine .go ?_
    refine .z 15 rfl zg ?_;refine .D hs ?_
    exact nT ⟨H2,lo,hi,e,b7,bS,hle2,hS,hs.sb⟩
   ·refine .alloc hs br rfl ?_;intro b7 w hs
    refine .go ?_
    refine .E 9 hs ?_
    rw [hq]
    refine .call Tryz.call88 rfl (dj (s:=s') hs (g.mono hle1) hok hdn) ?_;rintro _ w ⟨H2,lo,hi,e,hle2,rfl,hS,hs⟩
    refine .go ?_
    refine .z 10 rfl zm ?_;refine .z 11 rfl zex ?_;refine .z 12 rfl zex ?_
    refine .E 14 hs ?_
    refine .aI (vs:=[_,_]) hs rfl rfl au ?_;intro w hs
    refine .go ?_
    refine .z 15 rfl zg ?_;refine .D hs ?_
    exact nT ⟨H2,lo,hi,e,b7,bS,hle2,hS,hs.sb⟩
  ·rintro fs w ⟨H2,lo,hi,e,b7,hfs,hle2,hS,hs⟩
   refine WE.sub ?_ hfs
   clear hfs
   have hle02:=hle1.trans hle2
   refine .seq (.ai (.z zm (.z ia (.nil ?_))))
   refine (.dU rfl (fun hc32=>?_) (fun hc32=>?_))
   ·refine .ai (.z zm (.z zg (.z zg (.nil ?_))))
    refine .ret (rT (rB (rT (rB (rT (Fin.fY Tryz.results80 rfl rfl ?_))))))
    exact ⟨H2,_,[],_,hle02,rfl,RS.nil H2 1 none 0,by rcases hS.err hok hqw with h|h;exact (hc32 h.1).elim;rw [h.1];exact .fls hB h.2.1,hs.out⟩
   ·refine .skip ?_
    refine nT ?_
    refine .ai (.z zg (.nil ?_))
    refine .cut (fun fs w=>∃x,kq fs ⟨60,[],[(9,I x),(4,.slice ao lo' co),(1,.pointer (some ⟨b1,0,none⟩)),(11,.slice alg r.length clg),(13,I (k:Int)),(12,I (r.length:Int))]⟩∧x=zu (je m r k) lo hi∧St H2 w (.blk b7 [I lo,I hi]:: .blk b6 (lgC (lg0 r k))::en:: .blk b1 (RtV.cs ⟨s',l',a,b,c,d,t,n,.slice alg r.length clg,.slice ams (msL m r r.length).length cms,.slice amr ks.length cmr⟩)::σ)) ?_ ?_
    ·refine .block ?_
     refine .seq (.draw mix rfl hs fun w hs=>?_)
     refine .z 0 rfl (zfa iL) ?_;refine .y 1 rfl hs Tryz.isAgg80 ?_;refine .z 2 rfl zm ?_
     refine .ixX (enc:=Rng.c) (i:=3) hs rfl an .none (RS.mono hms hle02) rfl rfl bB au hxm rfl ?_;intro b38 o38 hc38
     refine .z 4 rfl (zfa bw) ?_
     refine .r (i:=5) hs rfl an .none (a6 rfl ae (hc38.get 1 rfl)) ?_
     refine .z 6 rfl (zfa a8) ?_;refine .y 7 rfl hs ae ?_;refine .z 8 rfl oJ ?_;refine .z 9 rfl zg ?_;refine .D hs ?_
     refine (.cz rfl (fun hc34=>?_) (fun hc34=>?_))
     ·refine .region (.z zg (.nil ?_))
      refine nB (nT ?_)
      exact ⟨_,bS,by unfold zu;simp [*],hs⟩
     ·refine .seq (.draw mix rfl hs fun w hs=>?_)
      refine .z 0 rfl (zfa iL) ?_;refine .y 1 rfl hs Tryz.isAgg80 ?_;refine .z 2 rfl zm ?_
      refine .ixX (enc:=Rng.c) (i:=3) hs rfl an .none (RS.mono hms hle02) rfl rfl bB au hxm rfl ?_;intro b48 o48 hc48
      refine .z 4 rfl (zfa a8) ?_
      refine .r (i:=5) hs rfl an .none (a6 rfl ae (hc48.get 0 rfl)) ?_
      refine .z 6 rfl (zfa bw) ?_;refine .y 7 rfl hs ae ?_;refine .z 8 rfl nu ?_;refine .z 9 rfl zg ?_;refine .D hs ?_
      refine (.cz rfl (fun hc44=>?_) (fun hc44=>?_))
      ·refine .region (.z zg (.nil ?_))
       refine nB (nT ?_)
       exact ⟨_,bS,by unfold zu;simp [*],hs⟩
      ·refine .skip ?_
       refine nB (nT ?_)
       exact ⟨_,bS,by unfold zu;simp [*],hs⟩
    ·rintro fs w ⟨x,hfs,hx9,hs⟩
     refine WE.sub ?_ hfs
     clear hfs
     refine .region (.z zm (.z zm ?_))
     refine .o (.buildSlice (cells:=Is [x]) hs cP rfl an fun b56 w hs=>?_)
     refine .o (.append (ys:=Is [x]) hs da rfl rfl hO (.own .here rfl rfl) (lC _) (fun l h=>by simp [Is] at h;omega) ?_);intro v57 en57 w hO2 hs
     rw [←List.map_append] at hO2
     refine .z zg (.nil ?_)
     refine nB (nT ?_)
     obtain rfl:e=0:=by omega
     exact .mk ⟨H2,_,as_++[x],_,rfl,hle02,by simp [hal],fun i hi=>by
      by_cases e:i=k
      ·subst e;exact ⟨_,_,by rw [hq,Int.toNat_natCast];exact hS,by rw [jP,if_neg ak,if_pos ak];exact hx9⟩
      ·rw [jP,if_pos ak];exact has i ak,fun _=>(hS.err hok hqw).elim (fun h=>h.2) (fun h=>by omega),hO2,hs.sb⟩
 ·rintro fr w ⟨H1,vo,as_,en,rfl,hle1,hal,has,hsd,hO,hs⟩
  obtain ⟨H4,hle4,hRk,hs⟩:=hO.dH ak hs .here
  refine nT ?_
  refine .ai (.z zm (.z zg (.z zg (.nil ?_))))
  refine .ret (Fin.fY Tryz.results80 rfl rfl ?_)
  exact ⟨H4,_,_,_,hle1.trans hle4,rfl,hRk,.ok hB (hsd ak) hal has,hs.out⟩
theorem kW{s:Srv}{l:Lns}{r:List Lg}{m:Rng}{a b c d vt vs vlg:Value}(hs:St H w σ)(g:SvM H s a b c d)(gl:LnM H l vt vs)(gr_:RLg H vlg r):
  Cl Tryz.prog 79 [svA s a b c d,lnA l vt vs,.agg #[vlg],.agg #[I m.lo,I m.hi]] w fun u w'=>∃(H1:bp) (z:RtV) (ks:List Int) (e:Int),HLe H H1∧u= .tuple #[z.agg,I e]∧z.cs.all Value.oneCell'=true∧pA s l r m ks e∧(e=0→RtM H1 s l r m ks z)∧St H1 w' σ:=by
 refine (q7 hs g gl gr_).mono ?_
 rintro u w' ⟨H1,z,ks,e,hle,hu,ho,hB,h0,hs⟩
 exact ⟨H1,z,ks,e,hle,hu,ho,hB,fun he=>by
  obtain ⟨vms,vmk,rfl,h1,h2⟩:=h0 he
  subst he
  exact ⟨rfl,rfl,g.mono hle,gl.mono hle,gr_.mono hle,h1,h2,ho,hB⟩,hs⟩
theorem pa{s:Srv}{l:Lns}{r:List Lg}{m:Rng}{a b c d vt vs vlg:Value}(hs:St H w σ)(g:SvM H s a b c d)(gl:LnM H l vt vs)(gr_:RLg H vlg r):
  Cl Tryz.prog 24 [svA s a b c d,lnA l vt vs,.agg #[vlg],.agg #[I m.lo,I m.hi]] w fun u w'=>∃H1 v as_ e,HLe H H1∧u= .tuple #[v,I e]∧RI H1 v as_∧Br s l r m as_ e∧St H1 w' σ:=by
 refine Cl.o Tryz.func24 Tryz.ntmps24 ag4 ?_
 refine .ai ?_
 refine .bx hs fun b4 w hs=>?_
 refine .bx hs fun b5 w hs=>?_
 refine .bx hs fun b6 w hs=>?_
 refine .bx hs fun b7 w hs=>?_
 refine .z zg (.z zg (.nil (.ai (.y hs (zls [_,_,_,_,_,_,_,_] aS aF) (.y hs (zls [_,_,_,_] aN aA) (.y hs (zls [_] cW bJ) (.y hs (zls [_,_] aB au) ?_)))))))
 refine .o (.call Tryz.call79 rfl (kW (s:=s) (l:=l) (m:=m) hs g gl gr_) ?_);rintro _ w ⟨H1,z,ks,e,hle1,rfl,ho,hB,h0,hs⟩
 refine .z zm (.z zex (.z zex ?_))
 refine .o (.alloc hs iA rfl fun b10 w hs=>?_)
 refine .o (.aI (vs:=z.cs) hs rfl rfl bM ?_ (hv:=ho));intro w hs
 refine .z zg (.nil (.seq (.ai (.z zm (.z ia (.nil ?_))))))
 refine (.dU rfl (fun hc21=>?_) (fun hc21=>?_))
 ·refine .ai (.z zm (.z zg (.z zg (.nil ?_))))
  refine .ret (rT (Fin.fY Tryz.results24 rfl rfl ?_))
  exact ⟨H1,_,[],_,hle1,rfl,RS.nil H1 1 none 0,.bad hB hc21,hs.out⟩
 ·refine .skip ?_
  refine nT ?_
  refine .ai (.y hs (zls [_,_,_,_,_,_,_,_,_,_,_,_,_,_,_] jZ bM) ?_)
  obtain rfl:e=0:=by omega
  refine .o (.call Tryz.call80 rfl (o9 hs (h0 rfl)) ?_);rintro _ w ⟨H2,v,as_,e,hle2,rfl,hR,hA,hs⟩
  refine .z zex (.z zex (.z zg (.z zg (.nil ?_))))
  refine .ret (Fin.fY Tryz.results24 rfl rfl ?_)
  exact ⟨H2,_,_,_,hle1.trans hle2,rfl,hR,hA,hs.out⟩
theorem p9{v:Value}{as_:List Int}(hs:St H w σ)(hr:RI H v as_):Cl Tryz.prog 86 [v] w fun u w'=>u=I (xe as_)∧St H w' σ:=by
 obtain ⟨a,c,rfl⟩:=RI.shape hr
 have hl:=(RI.len hr).2.2
 refine Cl.o Tryz.func86 Tryz.ntmps86 ag1 ?_
 refine .ai (.z zg (.nil (.ai (.z zg (.nil (.seq (.ai (.z zm (.z (dp af) ?_)))))))))
 refine .z zm (.nil ?_)
 refine .for (N:=as_.length) (J:=fun k fr w=>fr=[(3,I (if (2:Int)∈as_.take k then 2 else 1)),(6,.slice a as_.length c)]∧(∀i<k,gi as_ i≠0)∧St H w σ) ak ?_ ?_ ?_
 ·exact .mk ⟨rfl,fun i hi=>by omega,hs⟩
 ·rintro k fr w hk ⟨rfl,hno,hs⟩
  have ht:=bU (bE hk)
  refine .block (.ai ?_)
  refine .ixY hs hr rfl rfl af aj (bE (l:=as_) (i:=k) ak) cU ?_;intro b10 o10 hc10
  refine .q hs (a6 rfl ae hc10) ?_
  refine .z zg (.nil (.ai (.z zm (.nil (.block (.ai (.z iP (.z zg (.nil ?_)))))))))
  refine (.cz rfl (fun hc13=>?_) (fun hc13=>?_))
  ·refine .ai (.z zg (.nil ?_))
   refine .ret (rB (rB (rT (rB (rT (Fin.bg Tryz.results86 rfl ?_))))))
   exact ⟨by unfold xe;rw [if_pos (by rw [←hc13];exact List.mem_of_getElem? (bE hk))],hs⟩
  ·refine .ai (.z iP (.z zg (.nil ?_)))
   refine (.cz rfl (fun hc15=>?_) (fun hc15=>?_))
   ·refine .region (.z zg (.nil ?_))
    refine nB (nB (nT ?_))
    exact .mk ⟨by rw [ht,if_pos (List.mem_append.2 (.inr (by rw [hc15];exact .head _)))],fun i hi=>by
     by_cases e:i=k
     ·subst e;exact hc13
     ·exact hno i ak,hs⟩
   ·refine .skip ?_
    refine nB (nB (nT ?_))
    have e2:(if (2:Int)∈as_.take (k+1) then (2:Int) else 1)=if (2:Int)∈as_.take k then 2 else 1:=by
     have e:(2:Int)∈as_.take (k+1)↔(2:Int)∈as_.take k:=by
      rw [ht,List.mem_append]
      exact ⟨fun h=>h.elim id fun h=>by rw [List.mem_singleton] at h;exact (hc15 h.symm).elim,.inl⟩
     simp only [e]
    exact .mk ⟨by rw [e2],fun i hi=>by
     by_cases e:i=k
     ·subst e;exact hc13
     ·exact hno i ak,hs⟩
 ·rintro fr w ⟨rfl,hno,hs⟩
  rw [List.take_length]
  refine nT ?_
  refine .ai (.z zm (.z zg (.nil ?_)))
  refine .ret (Fin.bg Tryz.results86 rfl ?_)
  have h0:¬(0:Int)∈as_:=fun h=>by
   obtain ⟨i,hi⟩:=List.getElem?_of_mem h
   have hlt:=(List.getElem?_eq_some_iff.1 hi).1
   rw [bE hlt] at hi
   exact hno i hlt (Option.some.inj hi)
  exact ⟨by unfold xe;rw [if_neg h0],hs⟩
theorem kX{s:Srv}{l:Lns}{r:List Lg}{m:Rng}{a b c d vt vs vlg:Value}(hs:St H w σ)(g:SvM H s a b c d)(gl:LnM H l vt vs)(gr_:RLg H vlg r):
  Cl Tryz.prog 26 [svA s a b c d,lnA l vt vs,.agg #[vlg],.agg #[I m.lo,I m.hi]] w fun u w'=>∃H1 n e,HLe H H1∧u= .tuple #[I n,I e]∧D5 s l r m n e∧St H1 w' σ:=by
 refine Cl.o Tryz.func26 Tryz.ntmps26 ag4 ?_
 refine .ai ?_
 refine .bx hs fun b4 w hs=>?_
 refine .bx hs fun b5 w hs=>?_
 refine .bx hs fun b6 w hs=>?_
 refine .bx hs fun b7 w hs=>?_
 refine .z zg (.z zg (.nil (.ai (.y hs (zls [_,_,_,_,_,_,_,_] aS aF) (.y hs (zls [_,_,_,_] aN aA) (.y hs (zls [_] cW bJ) (.y hs (zls [_,_] aB au) ?_)))))))
 refine .o (.call Tryz.call24 rfl (pa (s:=s) (l:=l) (m:=m) hs g gl gr_) ?_);rintro _ w ⟨H1,v,as_,e,hle1,rfl,hR,hA,hs⟩
 refine .z zm (.z zex (.z zex (.z zg (.z zg (.nil (.seq (.ai (.z zm (.z ia ?_)))))))))
 refine .nil ?_
 refine (.dU rfl (fun hc21=>?_) (fun hc21=>?_))
 ·refine .ai (.z zm (.z zg (.z zg (.nil ?_))))
  refine .ret (rT (Fin.fY Tryz.results26 rfl rfl ?_))
  exact ⟨H1,_,_,hle1,rfl,.bad hA hc21,hs.out⟩
 ·refine .skip ?_
  refine nT ?_
  refine .ai (.z zm ?_)
  obtain rfl:e=0:=by omega
  refine .o (.call Tryz.call86 rfl (p9 hs hR) ?_);rintro _ w ⟨rfl,hs⟩
  refine .z zg (.z zg (.nil ?_))
  refine .ret (Fin.fY Tryz.results26 rfl rfl ?_)
  exact ⟨H1,_,_,hle1,rfl,.ok hA,hs.out⟩
set_option maxHeartbeats 1000000 in
theorem sc{s:Srv}{l:Lns}{r:List Lg}{a b c d vt vs vlg:Value}(hs:St H w σ)(g:SvM H s a b c d)(gl:LnM H l vt vs)(gr_:RLg H vlg r):
  Cl Tryz.prog 28 [svA s a b c d,lnA l vt vs,.agg #[vlg]] w fun u w'=>∃H1 n e,HLe H H1∧u= .tuple #[I n,I e]∧ur s l r n e∧St H1 w' σ:=by
 refine Cl.o Tryz.func28 Tryz.ntmps28 ag3 ?_
 refine .ai ?_
 refine .bx hs fun b3 w hs=>?_
 refine .bx hs fun b4 w hs=>?_
 refine .bx hs fun b5 w hs=>?_
 refine .z zg (.z zg (.nil (.ai (.y hs (zls [_,_,_,_,_,_,_,_] aS aF) (.y hs (zls [_,_,_,_] aN aA) (.y hs (zls [_] cW bJ) (.z (zbd [I 0,I 0] bu) ?_)))))))
 refine .o (.call Tryz.call79 rfl (kW (s:=s) (l:=l) (m:=⟨0,0⟩) hs g gl gr_) ?_);rintro _ w ⟨H1,z,ks,e,hle1,rfl,ho,hB,h0,hs⟩
 refine .z zm (.z zex (.z zex ?_))
 refine .o (.alloc hs iA rfl fun b8 w hs=>?_)
 refine .o (.aI (vs:=z.cs) hs rfl rfl bM ?_ (hv:=ho));intro w hs
 refine .z zg (.nil (.seq (.ai (.z zm (.z ia (.nil ?_))))))
 refine (.dU rfl (fun hc25=>?_) (fun hc25=>?_))
 ·refine .ai (.z zm (.z zg (.z zg (.nil ?_))))
  refine .ret (rT (Fin.fY Tryz.results28 rfl rfl ?_))
  exact ⟨H1,_,_,hle1,rfl,.bad hB hc25,hs.out⟩
 ·refine .skip ?_
  refine nT ?_
  refine .ai (.z zg (.z zg (.nil (.seq (.ai ?_)))))
  obtain rfl:e=0:=by omega
  obtain ⟨s',l',a',b',c',d',t',n',lg',ms',mr'⟩:=z
  obtain ⟨rfl,rfl,-,-,hr',hms,hmr,hone,-⟩:=h0 rfl
  dsimp only at hr' hms hmr
  obtain ⟨alg,clg,rfl⟩:=hr'.shape
  obtain ⟨amr,cmr,rfl⟩:=RI.shape hmr
  obtain ⟨hok,hl,hrt,hm,hkl,hlow⟩:=hB.ok'
  have hn:=hrt.many
  refine .z (zfa fP) (.y hs (zld cZ) (.z (dp aO) (.z zm (.nil ?_))))
  refine .for (N:=r.length) (J:=fun k fr w=>∃H2 dd best,fr=[(10,I best),(11,I (aE (fun i=>(lg0 r i).blo) k)),(28,.slice alg r.length clg),(8,.pointer (some ⟨b8,0,none⟩)),(3,.pointer (some ⟨b3,0,none⟩))]∧HLe H1 H2∧(∀i<k,∃hi,jI s' (gi ks i).toNat (lg0 r i).dlo (lg0 r i).dhi (dd i) hi 0)∧Em dd (fun i=>(lg0 r i).blo) k best∧((-300000000≤best∧best≤1000000000000)∧0≤aE (fun i=>(lg0 r i).blo) k∧aE (fun i=>(lg0 r i).blo) k≤k*1000000000000)∧(0<k→s'.sys.Sound)∧St H2 w (.blk b8 (RtV.cs ⟨s',l',a',b',c',d',t',n',.slice alg r.length clg,ms',.slice amr ks.length cmr⟩):: .blk b3 (svC s' a b c d)::σ)) ak ?_ ?_ ?_
  ·exact .mk ⟨H1,fun _=>0,1000000000000,rfl,HLe.refl _,fun i hi=>by omega,.inl ⟨fun i hi=>by omega,rfl⟩,by simp [aE],fun h=>by omega,hs.sb⟩
  ·rintro k fr w hk ⟨H2,dd,best,rfl,hle2,hds,hSI,hbd,hsd,hs⟩
   have hx:=js (l:=r) hk
   have hdn:=(hrt.leg k hk).1.dense
   have hbn:=(hrt.leg k hk).1.burn
   unfold ed at hbn
   obtain ⟨q,hq,hqw⟩:=hB.mark hk
   have hsS:aE (fun i=>(lg0 r i).blo) (k+1)=aE (fun i=>(lg0 r i).blo) k+(lg0 r k).blo:=rfl
   generalize hSe:aE (fun i=>(lg0 r i).blo) k=S at*
   refine .block (.ai (.z zm ?_))
   refine .ixX (enc:=Lg.c) hs (hr'.mono hle2) rfl rfl aO aZ hx cU ?_;intro b33 o33 hc33
   refine .q hs (bG (vs:=(Lg.c (lg0 r k))) rfl gO aZ hc33) ?_
   refine .o (.alloc hs e8 rfl fun b13 w hs=>?_)
   refine .z zg ?_
   refine .o (.aI (vs:=(lg0 r k).c) hs rfl rfl aZ fun w hs=>?_)
   change St _ _ (.blk b13 (lgC (lg0 r k))::_) at hs
   refine .nil ?_
   refine .cut (fun fs w=>∃H3 lo hi e b14,kq fs ⟨68,[],[(15,I e),(14,.pointer (some ⟨b14,0,none⟩)),(13,.pointer (some ⟨b13,0,none⟩)),(10,I best),(11,I S),(28,.slice alg r.length clg),(8,.pointer (some ⟨b8,0,none⟩)),(3,.pointer (some ⟨b3,0,none⟩)),(30,I (k:Int)),(29,I (r.length:Int))]⟩∧HLe H2 H3∧jI s' q (lg0 r k).dlo (lg0 r k).dhi lo hi e∧St H3 w (.blk b14 [I lo,I hi]:: .blk b13 (lgC (lg0 r k)):: .blk b8 (RtV.cs ⟨s',l',a',b',c',d',t',n',.slice alg r.length clg,ms',.slice amr ks.length cmr⟩):: .blk b3 (svC s' a b c d)::σ)) ?_ ?_
   ·refine .draw mix rfl hs fun w hs=>?_
    refine .ys 0 rfl hs [_,_,_,_,_,_,_,_] aS aF ?_;refine .z 1 rfl (zfa eV) ?_;refine .y 2 rfl hs aq ?_;refine .z 3 rfl zm ?_
    refine .ixX (enc:=fun x=>[I x]) (i:=4) hs rfl an .none (RS.mono hmr hle2) rfl rfl af aj (bE (l:=ks) (i:=k) ak) rfl ?_;intro b40 o40 hc40;replace hc40:=bH.one hc40
    refine .y 5 rfl hs ae ?_;refine .z 6 rfl (zfa fH) ?_;refine .ys 7 rfl hs [_,_] aB au ?_
    refine .e2 (i:=8) (j:=12) an rfl rfl rfl rfl .none .none hs ?_ ?_
    ·rw [hq]
     refine .call Tryz.call88 rfl (dj (s:=s') hs (g.mono (hle1.trans hle2)) hok hdn) ?_;rintro _ w ⟨H3,lo,hi,e,hle3,rfl,hS,hs⟩
     refine .go ?_
     refine .z 9 rfl zm ?_;refine .z 10 rfl zex ?_;refine .z 11 rfl zex ?_
     refine .E 12 hs ?_
     refine .alloc hs br rfl ?_;intro b14 w hs
     refine .go ?_
     refine .E 13 hs ?_
     refine .aI (vs:=[_,_]) hs rfl rfl au ?_;intro w hs
     refine .go ?_
     refine .z 14 rfl zg ?_;refine .D hs ?_
     exact nT ⟨H3,lo,hi,e,b14,bS,hle3,hS,hs.sb⟩
    ·refine .alloc hs br rfl ?_;intro b14 w hs
     refine .go ?_
     refine .E 8 hs ?_
     rw [hq]
     refine .call Tryz.call88 rfl (dj (s:=s') hs (g.mono (hle1.trans hle2)) hok hdn) ?_;rintro _ w ⟨H3,lo,hi,e,hle3,rfl,hS,hs⟩
     refine .go ?_
     refine .z 9 rfl zm ?_;refine .z 10 rfl zex ?_;refine .z 11 rfl zex ?_
     refine .E 13 hs ?_
     refine .aI (vs:=[_,_]) hs rfl rfl au ?_;intro w hs
     refine .go ?_
     refine .z 14 rfl zg ?_;refine .D hs ?_
     exact nT ⟨H3,lo,hi,e,b14,bS,hle3,hS,hs.sb⟩
   ·rintro fs w ⟨H3,lo,hi,e,b14,hfs,hle3,hS,hs⟩
    refine WE.sub ?_ hfs
    clear hfs
    have hle03:=hle1.trans (hle2.trans hle3)
    have hSb:=hS.bd hdn
    refine .seq (.ai (.z zm (.z ia (.nil ?_))))
    refine (.dU rfl (fun hc48=>?_) (fun hc48=>?_))
    ·refine .ai (.z zm (.z zg (.z zg (.nil ?_))))
     refine .ret (rT (rB (rT (rB (rT (Fin.fY Tryz.results28 rfl rfl ?_))))))
     exact ⟨H3,_,_,hle03,rfl,by rcases hS.err hok hqw with h|h;exact (hc48 h.1).elim;rw [h.1];exact .fls hB h.2.1,hs.out⟩
    ·refine .skip ?_
     refine nT ?_
     refine .seq (.ai (.z (zfa a8) ?_))
     obtain rfl:e=0:=by omega
     have hnx:∀i<k+1,∃hi,jI s' (gi ks i).toNat (lg0 r i).dlo (lg0 r i).dhi (BA dd k lo i) hi 0:=fun i hi=>by
      by_cases e:i=k
      ·subst e;rw [tm,hq,Int.toNat_natCast];exact ⟨_,hS⟩
      ·rw [tl _ _ ak];exact hds i ak
     have hsd':s'.sys.Sound:=(hS.err hok hqw).elim (fun h=>h.2) (fun h=>by omega)
     refine .y hs (zld ae) (.z kM (.nil ?_))
     refine (.cz rfl (fun hc52=>?_) (fun hc52=>?_))
     ·refine .region (.z zg (.nil ?_))
      refine nT ?_
      refine .ai (.z zm (.z (zfa a8) (.y hs (zld ae) (.z zm (.z dP (.z CM (.z zg (.nil (.region ?_)))))))))
      refine .z zm (.z (zfa eX) (.z (zfa a8) (.y hs (zld ae) (.z dP (.z zg (.nil ?_))))))
      refine nB (nT ?_)
      exact .mk ⟨H3,BA dd k lo,min (-1) (lo+S),by rw [hsS],hle2.trans hle3,hnx,.neg hc52,ak,fun _=>hsd',hs.sb⟩
     ·refine .skip ?_
      refine nT ?_
      refine .ai (.z zm (.z (zfa a8) (.y hs (zld ae) (.z zm (.z dP (.z CM (.z zg (.nil (.region ?_)))))))))
      refine .z zm (.z (zfa eX) (.z (zfa a8) (.y hs (zld ae) (.z dP (.z zg (.nil ?_))))))
      refine nB (nT ?_)
      exact .mk ⟨H3,BA dd k lo,min best (lo+S),by rw [hsS],hle2.trans hle3,hnx,by rw [←hSe];exact hSI.pos ak,ak,fun _=>hsd',hs.sb⟩
  ·rintro fr w ⟨H2,dd,best,rfl,hle2,hds,hSI,hbd,hsd,hs⟩
   refine nT ?_
   refine .seq (.ai (.z zm (.z kM (.nil ?_))))
   refine (.cz rfl (fun hc66=>?_) (fun hc66=>?_))
   ·refine .ai (.z zg (.z zg (.nil ?_)))
    refine .ret (rT (Fin.fY Tryz.results28 rfl rfl ?_))
    rcases hSI with ⟨h1,h2⟩|⟨⟨i,h1,h3⟩,h2⟩
    ·exfalso
     have key:∀n,n≤r.length→0≤qN dd (fun i=>(lg0 r i).blo) n:=fun n=>by
      induction n with
      |zero=>intro _;simp [qN]
      |succ n ih=>
       intro hn
       have:=ih ak
       have:=h1 n ak
       have:0≤aE (fun i=>(lg0 r i).blo) n:=bV fun i hi=>(hrt.leg i ak).1.burn.1
       simp only [qN];omega
     have:=key _ (Nat.le_refl _)
     omega
    ·obtain ⟨hi,hS⟩:=hds i h1
     exact ⟨H2,_,_,hle1.trans hle2,rfl,.none hB (hsd ak) h1 hS h3,hs.out⟩
   ·refine .skip ?_
    refine nT ?_
    refine .ai (.z zm (.z zg (.z zg (.nil ?_))))
    refine .ret (Fin.fY Tryz.results28 rfl rfl ?_)
    rcases hSI with ⟨h1,h2⟩|⟨_,h2⟩
    ·rw [h2]
     exact ⟨H2,_,_,hle1.trans hle2,rfl,.ok hB (hsd ak) fun i hi=>⟨hds i hi,h1 i hi⟩,hs.out⟩
    ·omega
set_option maxHeartbeats 1000000 in
theorem lV{s:Srv}{l:Lns}{r:List Lg}{m:Rng}{x:Wit}{a b c d vt vs vlg vh:Value}(hs:St H w σ)(g:SvM H s a b c d)(gl:LnM H l vt vs)(gr_:RLg H vlg r)(gh:RT H vh x.rows):
  Cl Tryz.prog 32 [svA s a b c d,lnA l vt vs,.agg #[vlg],.agg #[I m.lo,I m.hi],.agg #[I x.leg,I x.dense,I x.mass,vh]] w fun u w'=>∃H1 e,HLe H H1∧u=I e∧C4 s l r m x e∧St H1 w' σ:=by
 refine Cl.o Tryz.func32 Tryz.ntmps32 ag5 ?_
 refine .ai ?_
 refine .bx hs fun b5 w hs=>?_
 refine .bx hs fun b6 w hs=>?_
 refine .bx hs fun b7 w hs=>?_
 refine .bx hs fun b8 w hs=>?_
 refine .bx hs fun b9 w hs=>?_
 refine .z zg (.nil (.ai (.y hs (zls [_,_,_,_,_,_,_,_] aS aF) (.y hs (zls [_,_,_,_] aN aA) (.y hs (zls [_] cW bJ) (.y hs (zls [_,_] aB au) ?_))))))
 refine .o (.call Tryz.call79 rfl (kW (s:=s) (l:=l) (m:=m) hs g gl gr_) ?_);rintro _ w ⟨H1,z,ks,e,hle1,rfl,ho,hB,h0,hs⟩
 refine .z zm (.z zex (.z zex ?_))
 refine .o (.alloc hs iA rfl fun b11 w hs=>?_)
 refine .o (.aI (vs:=z.cs) hs rfl rfl bM ?_ (hv:=ho));intro w hs
 refine .z zg (.nil (.seq (.ai (.z zm (.z ia (.nil ?_))))))
 refine (.dU rfl (fun hc26=>?_) (fun hc26=>?_))
 ·refine .ai (.z zm (.z zg (.nil ?_)))
  refine .ret (rT (Fin.bg mh rfl ?_))
  exact ⟨H1,_,hle1,rfl,.bad hB hc26,hs.out⟩
 ·refine .skip ?_
  refine nT ?_
  refine .seq (.ai ?_)
  obtain rfl:e=0:=by omega
  obtain ⟨s',l',a',b',c',d',t',n',lg',ms',mr'⟩:=z
  obtain ⟨rfl,rfl,g',-,hr',hms,hmr,hone,-⟩:=h0 rfl
  dsimp only at g' hr' hms hmr
  obtain ⟨alg,clg,rfl⟩:=hr'.shape
  obtain ⟨ams,cms,rfl⟩:=hms.shape
  obtain ⟨amr,cmr,rfl⟩:=RI.shape hmr
  obtain ⟨hok,hl,hrt,hm,hkl,hlow⟩:=hB.ok'
  have hn:=hrt.many
  have hml:=iy m r r.length
  replace gh:=gh.mono hle1
  refine .z (zfa fo) (.y hs (zld ae) (.z (zfa fP) (.y hs (zld cZ) (.z (dp aO) (.z fu ?_)))))
  refine .o (.call di rfl (bj hs) ?_);rintro _ w ⟨rfl,hs⟩
  refine .z eL (.z zm ?_)
  refine .bif (t':=36) rfl (fun hb36=>?_) (fun hb36=>?_)
  ·refine .gFs 5 8 false rfl rfl rfl ?_
   refine .z zpT (.nil ?_)
   refine (.cT ?_)
   refine .ai (.z zg (.nil ?_))
   refine .ret (rT (Fin.bg mh rfl ?_))
   exact ⟨H1,_,hle1,rfl,.no hB (fun h=>by have:=h.leg;simp_all),hs.out⟩
  ·refine .gT rfl rfl ?_
   refine .y hs (zls [_,_,_,_,_,_,_,_] aS aF) ?_
   refine .gT rfl rfl ?_
   refine .z (zfa ka) ?_
   refine .gT rfl rfl ?_
   refine .y hs (zls [_] Tryz.isAgg64 wv) ?_
   refine .gT rfl rfl ?_
   refine .o (.call Tryz.call65 rfl (kG (s:=s') (rows:=x.rows) hs (g.mono hle1).st (g.mono hle1).wa (g.mono hle1).rd (g.mono hle1).cm gh) ?_);rintro _ w ⟨H2,e,hle2,rfl,hCh,hs⟩
   have hle02:=hle1.trans hle2
   refine .gT rfl rfl ?_
   refine .z ia (.z zpF (.nil ?_))
   refine (.dU rfl (fun hc42=>?_) (fun hc42=>?_))
   ·refine .ai (.z zg (.nil ?_))
    refine .ret (rT (Fin.bg mh rfl ?_))
    exact ⟨H2,_,hle02,rfl,.no hB (fun h=>hc42 (hCh.uniq h.hull)),hs.out⟩
   ·refine .skip ?_
    refine nT ?_
    refine .cut (fun fs w=>∃b13 b14,kq fs ⟨101,[],[(14,.pointer (some ⟨b14,0,none⟩)),(13,.pointer (some ⟨b13,0,none⟩)),(11,.pointer (some ⟨b11,0,none⟩)),(9,.pointer (some ⟨b9,0,none⟩))]⟩∧St H2 w (.blk b14 (je m r x.leg.toNat).c:: .blk b13 (lg0 r x.leg.toNat).c:: .blk b11 (RtV.cs ⟨s',l',a',b',c',d',t',n',.slice alg r.length clg,.slice ams (msL m r r.length).length cms,.slice amr ks.length cmr⟩):: .blk b9 [I x.leg,I x.dense,I x.mass,vh]::σ)) ?_ ?_
    ·refine .draw mix rfl hs fun w hs=>?_
     have hleg:0≤x.leg∧x.leg≤(r.length:Int) - 1:=by simpa using hb36
     obtain rfl:e=0:=by omega
     have hlt:x.leg.toNat<r.length:=by omega
     have hxl:=js (l:=r) hlt
     have hxm:=w5 m r (k:=r.length) (i:=x.leg.toNat) ak
     refine .z 0 rfl (zfa fP) ?_;refine .y 1 rfl hs cZ ?_;refine .z 2 rfl (zfa fo) ?_;refine .y 3 rfl hs ae ?_
     refine .ixX (enc:=Lg.c) (i:=4) hs rfl an .none (RS.mono hr' hle2) rfl rfl aO aZ hxl ak ?_;intro b47 o47 hc47
     refine .r (i:=5) hs rfl an .none (bG (vs:=(lg0 r x.leg.toNat).c) rfl gO aZ hc47) ?_
     refine .z 6 rfl (zfa iL) ?_;refine .y 7 rfl hs Tryz.isAgg80 ?_;refine .z 8 rfl (zfa fo) ?_;refine .y 9 rfl hs ae ?_
     refine .ixX (enc:=Rng.c) (i:=10) hs rfl an .none (RS.mono hms hle2) rfl rfl bB au hxm ak ?_;intro b53 o53 hc53
     refine .r (i:=11) hs rfl an .none (bG (vs:=(je m r x.leg.toNat).c) rfl aB au hc53) ?_
     refine .e2 (i:=12) (j:=13) an rfl rfl rfl rfl .none .none hs ?_ ?_
     ·refine .alloc hs e8 rfl ?_;intro b13 w hs
      refine .go ?_
      refine .E 13 hs ?_
      refine .alloc hs br rfl ?_;intro b14 w hs
      refine .go ?_
      refine .E 14 hs ?_
      refine .aI (vs:=(lg0 r x.leg.toNat).c) hs rfl rfl aZ ?_;intro w hs
      refine .go ?_
      refine .E 15 hs ?_
      refine .aI (vs:=(je m r x.leg.toNat).c) hs rfl rfl au ?_;intro w hs
      refine .go ?_
      refine .D hs ?_
      exact nT ⟨b13,b14,bS,hs.sb⟩
     ·refine .alloc hs br rfl ?_;intro b14 w hs
      refine .go ?_
      refine .E 12 hs ?_
      refine .alloc hs e8 rfl ?_;intro b13 w hs
      refine .go ?_
      refine .E 14 hs ?_
      refine .aI (vs:=(lg0 r x.leg.toNat).c) hs rfl rfl aZ ?_;intro w hs
      refine .go ?_
      refine .E 15 hs ?_
      refine .aI (vs:=(je m r x.leg.toNat).c) hs rfl rfl au ?_;intro w hs
      refine .go ?_
      refine .D hs ?_
      exact nT ⟨b13,b14,bS,hs.sb⟩
    ·rintro fs w ⟨b13,b14,hfs,hs⟩
     refine WE.sub ?_ hfs
     clear hfs
     have hleg:0≤x.leg∧x.leg≤(r.length:Int) - 1:=by simpa using hb36
     obtain rfl:e=0:=by omega
     have hlt:x.leg.toNat<r.length:=by omega
     obtain ⟨q,hq,hqw⟩:=hB.mark hlt
     have hdn:=(hrt.leg _ hlt).1.dense
     unfold ey at hdn
     change St _ _ (.blk b14 [I (je m r x.leg.toNat).lo,I (je m r x.leg.toNat).hi]:: .blk b13 (lgC (lg0 r x.leg.toNat))::_) at hs
     refine .seq (.ai (.z (zfa kc) (.y hs (zld ae) (.z (zfa fH) (.z (zfa a8) (.y hs (zld ae) (.z (zfa fH) (.z (zfa bw) (.y hs (zld ae) ?_)))))))))
     refine .o (.call di rfl (bj hs) ?_);rintro _ w ⟨rfl,hs⟩
     refine .z eL (.z zm ?_)
     refine .bif (t':=65) rfl (fun hb65=>?_) (fun hb65=>?_)
     ·refine .gFs 8 10 false rfl rfl rfl ?_
      refine .z zpT (.nil ?_)
      refine (.cT ?_)
      refine .ai (.z zg (.nil ?_))
      refine .ret (rT (Fin.bg mh rfl ?_))
      exact ⟨H2,_,hle02,rfl,.no hB (fun h=>by have:=h.dense;simp_all),hs.out⟩
     ·refine .gT rfl rfl ?_
      refine .z (zfa kb) ?_
      refine .gT rfl rfl ?_
      refine .y hs (zld ae) ?_
      refine .gT rfl rfl ?_
      refine .z (zfa a8) ?_
      refine .gT rfl rfl ?_
      refine .y hs (zld ae) ?_
      refine .gT rfl rfl ?_
      refine .z (zfa bw) ?_
      refine .gT rfl rfl ?_
      refine .y hs (zld ae) ?_
      refine .gT rfl rfl ?_
      refine .o (.call di rfl (bj hs) ?_);rintro _ w ⟨rfl,hs⟩
      refine .gT rfl rfl ?_
      refine .z eL (.z zpF (.nil ?_))
      refine (.cond rfl (fun hc74=>?_) (fun hc74=>?_))
      ·refine .ai (.z zg (.nil ?_))
       refine .ret (rT (Fin.bg mh rfl ?_))
       exact ⟨H2,_,hle02,rfl,.no hB (fun h=>by have:=h.mass;simp_all),hs.out⟩
      ·refine .skip ?_
       refine nT ?_
       refine .ai (.z zg (.nil ?_))
       refine .cut (fun fs w=>∃n H3,kq fs ⟨101,[],[(15,I n),(9,.pointer (some ⟨b9,0,none⟩))]⟩∧HLe H H3∧HlR s' x.rows q n∧(-7000000000≤n∧n≤7000000000)∧St H3 w (.blk b9 [I x.leg,I x.dense,I x.mass,vh]::σ)) ?_ ?_
       ·refine .ai (.z (zfa eV) (.y hs (zld aq) (.z (zfa fo) (.y hs (zld ae) ?_))))
        refine .ixX (enc:=fun x=>[I x]) hs (RS.mono hmr hle2) rfl rfl af aj (bE (l:=ks) (i:=x.leg.toNat) ak) ak ?_;intro b79 o79 hc79;replace hc79:=bH.one hc79
        rw [hq] at hc79
        refine .y hs (zld ae) (.z zg (.nil (.ai (.z zm (.z nu (.nil ?_))))))
        refine (.cz rfl (fun hc82=>?_) (fun hc82=>?_))
        ·refine .draw mix rfl hs fun w hs=>?_
         refine .z 0 rfl (zfa iM) ?_;refine .z 1 rfl (zfa bC) ?_;refine .ys 2 rfl hs [_,_,_,_,_,_] bI aV ?_;refine .z 3 rfl (zfa ka) ?_;refine .ys 4 rfl hs [_] Tryz.isAgg64 wv ?_;refine .z 5 rfl zm ?_
         refine .E 6 hs ?_
         refine .call Tryz.call98 rfl (jf hs) ?_;rintro _ w ⟨rfl,hs⟩
         refine .go ?_
         refine .E 7 hs ?_
         refine .call Tryz.call64 rfl (nK (s:=s'.sp) (rows:=x.rows) (q:=⟨1,0,q⟩) hs (g'.mono hle2).st (g'.mono hle2).wa (gh.mono hle2)) ?_;rintro _ w ⟨H3,n,f,hle3,rfl,hV,hs⟩
         refine .go ?_
         refine .z 8 rfl zm ?_;refine .z 9 rfl zex ?_;refine .z 10 rfl zex ?_;refine .z 11 rfl zg ?_;refine .D hs ?_
         refine nT ?_
         obtain rfl:f=0:=by
          have hhl:=hCh.E6
          cases hV with
          |space h=>exact (h hok.early.1).elim
          |hull _ h=>exact (h hhl).elim
          |what _ _ h=>exact (h (z6 (v:=s') ak hqw)).elim
          |ok=>rfl
         exact ⟨n,H3,bS,hle02.trans hle3,.up ak hV,hV.bd rfl,hs.sb⟩
        ·refine .skip ?_
         refine nT ?_
         exact ⟨0,H2,bS,hle02,.zero ak,ak,hs.sb⟩
       ·rintro fs w ⟨n,H3,hfs,hle03,hHl,hnb,hs⟩
        refine WE.sub ?_ hfs
        clear hfs
        have hdw:(lg0 r x.leg.toNat).dlo≤x.dense∧x.dense≤(lg0 r x.leg.toNat).dhi:=by simpa using hb65
        have hmw:(je m r x.leg.toNat).lo≤x.mass∧x.mass≤(je m r x.leg.toNat).hi:=by simpa using hc74
        refine .seq ?_
        refine .seq (.draw mix rfl hs fun w hs=>?_)
        refine .z 0 rfl (zfa kb) ?_;refine .y 1 rfl hs ae ?_;refine .z 2 rfl zm ?_;refine .z 3 rfl (zfa kc) ?_;refine .y 4 rfl hs ae ?_
        refine .E 5 hs ?_
        refine .call Tryz.call99 rfl (eE hs ak ak) ?_;rintro _ w ⟨rfl,hs⟩
        refine .go ?_
        refine .z 6 rfl oJ ?_;refine .D hs ?_
        refine (.cz rfl (fun hc100=>?_) (fun hc100=>?_))
        ·refine .ai (.z zg (.nil ?_))
         refine .ret (rT (Fin.bg mh rfl ?_))
         exact ⟨H3,_,hle03,rfl,.no hB (fun h=>by
          obtain ⟨n',g1,g2⟩:=h.sinks
          rw [hq,Int.toNat_natCast] at g1
          rw [←hHl.uniq g1] at g2;omega),hs.out⟩
        ·refine .skip ?_
         refine nT ?_
         refine .ai (.z zg (.nil ?_))
         refine .ret (Fin.bg mh rfl ?_)
         exact ⟨H3,_,hle03,rfl,.ok hB ⟨hleg,hCh,hdw,hmw,n,by rw [hq,Int.toNat_natCast];exact hHl,ak⟩,hs.out⟩
def fbc(l:List Fbd):List (List Value):=l.map Fbd.c
def snc(l:List Ssn):List (List Value):=l.map Ssn.c
def lgc(l:List Lg):List (List Value):=l.map Lg.c
theorem Gs(l:List Fbd):∀c∈fbc l,c.length=2:=fun c hc=>by simp only [fbc,List.mem_map] at hc;obtain ⟨x,_,rfl⟩:=hc;rfl
theorem F1(l:List Ssn):∀c∈snc l,c.length=4:=fun c hc=>by simp only [snc,List.mem_map] at hc;obtain ⟨x,_,rfl⟩:=hc;rfl
theorem Gn(l:List Lg):∀c∈lgc l,c.length=7:=fun c hc=>by simp only [lgc,List.mem_map] at hc;obtain ⟨x,_,rfl⟩:=hc;rfl
theorem nR(hs:St H w σ):
  Cl Tryz.prog 71 [] w fun u w'=>∃H1 a b c d vt vs vlg,HLe H H1∧u= .tuple #[.agg #[I 1,I 1,a,b,I 100,I 200,c,d],.agg #[I 1000,I 1200,vt,vs],.agg #[vlg]]∧SvM H1 exV a b c d∧LnM H1 mq vt vs∧RLg H1 vlg jF∧St H1 w' σ:=by
 refine Cl.of Tryz.func71 rfl Tryz.ntmps71 db (uo) ?_
 refine .ai ?_
 refine .o (.alloc hs Tryz.zeroValue52 rfl fun b0 w hs=>?_)
 refine .o (.alloc hs Tryz.zeroValue25 rfl fun b1 w hs=>?_)
 refine .o (.alloc hs Tryz.zeroValue28 rfl fun b2 w hs=>?_)
 refine .nil (.ai ?_)
 refine .o (.buildSlice (cells:=Is [0,1000]) hs gL rfl an fun b8 w hs=>?_)
 refine .o (.buildSlice (cells:=Is [0,1000]) hs gL rfl an fun b9 w hs=>?_)
 refine .z (zbd [_,_] vZ) (.z (zbd [_,_,_,_,_,_] uj) ?_)
 refine .o (.alloc hs Tryz.zeroValue48 rfl fun b3 w hs=>?_)
 refine .o (.aI (vs:=[_,_,_,_,_,_]) hs rfl rfl aV fun w hs=>?_)
 refine .nil (.ai (.y hs (zls [_,_,_,_,_,_] bI aV) (.z (zbd [_,_,_,_,_,_,_] fV) (.z (zbd [_,_,_,_,_,_,_] fV) (.z (zbd [_,_,_,_,_,_,_] fV) (.z (zbd [_,_,_,_,_,_,_] fV) ?_))))))
 refine .o (.buildSlice (cells:=(rdc Eh).flatten) hs l8 rfl an fun b17 w hs=>?_)
 refine .z (zbd [_,_,_,_,_,_] rC) ?_
 refine .o (.buildSlice (cells:=(cmc exV.cs).flatten) hs l9 rfl an fun b19 w hs=>?_)
 refine .z (zbd (vs:=[(0,.agg #[I 1,I 1,.slice (some ⟨b8,0,none⟩) 2 2,.slice (some ⟨b9,0,none⟩) 2 2,I 100,I 200]),(1,.slice (some ⟨b17,0,none⟩) 4 4),(2,.slice (some ⟨b19,0,none⟩) 1 1)]) [I 1,I 1,.slice (some ⟨b8,0,none⟩) 2 2,.slice (some ⟨b9,0,none⟩) 2 2,I 100,I 200,.slice (some ⟨b17,0,none⟩) 4 4,.slice (some ⟨b19,0,none⟩) 1 1] so rfl an) ?_
 refine .o (.alloc hs Tryz.zeroValue52 rfl fun b4 w hs=>?_)
 refine .o (.aI (vs:=[_,_,_,_,_,_,_,_]) hs rfl rfl aF fun w hs=>?_)
 refine .nil (.ai (.z (zbd [_,_] jG) (.z (zbd [_,_] jG) ?_)))
 refine .o (.buildSlice (cells:=(fbc mq.table).flatten) hs kL rfl an fun b23 w hs=>?_)
 refine .z (zbd [_,_,_,_] sq) ?_
 refine .o (.buildSlice (cells:=(snc mq.seasons).flatten) hs nf rfl an fun b25 w hs=>?_)
 refine .z (zbd (vs:=[(0,I 1000),(1,I 1200),(2,.slice (some ⟨b23,0,none⟩) 2 2),(3,.slice (some ⟨b25,0,none⟩) 1 1)]) [I 1000,I 1200,.slice (some ⟨b23,0,none⟩) 2 2,.slice (some ⟨b25,0,none⟩) 1 1] uk rfl an) ?_
 refine .o (.alloc hs Tryz.zeroValue25 rfl fun b5 w hs=>?_)
 refine .o (.aI (vs:=[_,_,_,_]) hs rfl rfl aA fun w hs=>?_)
 refine .nil (.ai (.z (zbd [_,_] bu) ?_))
 refine .o (.alloc hs br rfl fun b6 w hs=>?_)
 refine .o (.aI (vs:=[_,_]) hs rfl rfl au fun w hs=>?_)
 refine .nil (.ai (.z (zbd [_,_] bu) ?_))
 refine .o (.alloc hs br rfl fun b7 w hs=>?_)
 refine .o (.aI (vs:=[_,_]) hs rfl rfl au fun w hs=>?_)
 refine .nil ?_
 refine .cut (fun fs w=>∃b37,kq fs ⟨39,[],[(2,.pointer (some ⟨b2,0,none⟩)),(1,.pointer (some ⟨b1,0,none⟩)),(0,.pointer (some ⟨b0,0,none⟩))]⟩∧St H w (.blk b2 [.slice (some ⟨b37,0,none⟩) 2 2]:: .blk b1 [I 1000,I 1200,.slice (some ⟨b23,0,none⟩) 2 2,.slice (some ⟨b25,0,none⟩) 1 1]:: .blk b0 [I 1,I 1,.slice (some ⟨b8,0,none⟩) 2 2,.slice (some ⟨b9,0,none⟩) 2 2,I 100,I 200,.slice (some ⟨b17,0,none⟩) 4 4,.slice (some ⟨b19,0,none⟩) 1 1]:: .blk b37 (lgc jF).flatten:: .blk b25 (snc mq.seasons).flatten:: .blk b23 (fbc mq.table).flatten:: .blk b19 (cmc exV.cs).flatten:: .blk b17 (rdc Eh).flatten:: .blk b9 (Is [0,1000]):: .blk b8 (Is [0,1000])::σ)) ?_ ?_
 ·refine .draw mix rfl hs fun w hs=>?_
  refine .ys 0 rfl hs [_,_,_,_,_,_,_,_] aS aF ?_;refine .ys 1 rfl hs [_,_,_,_] aN aA ?_;refine .ys 2 rfl hs [_,_] aB au ?_;refine .ys 3 rfl hs [_,_] aB au ?_;refine .z 4 rfl (zbd (lg0 jF 0).c rA rfl an) ?_;refine .ys 5 rfl hs [_,_] aB au ?_;refine .ys 6 rfl hs [_,_] aB au ?_;refine .z 7 rfl (zbd (lg0 jF 1).c rA rfl an) ?_
  refine .e2 (i:=8) (j:=10) an rfl rfl rfl rfl .none .none hs ?_ ?_
  ·refine .buildSlice (cells:=(lgc jF).flatten) hs gZ rfl an ?_;intro b37 w hs
   refine .go ?_
   refine .z 9 rfl (zbd [_] jV) ?_
   refine .E 10 hs ?_
   refine .aI (vs:=[_,_,_,_,_,_,_,_]) hs rfl rfl aF ?_;intro w hs
   refine .go ?_
   refine .E 11 hs ?_
   refine .aI (vs:=[_,_,_,_]) hs rfl rfl aA ?_;intro w hs
   refine .go ?_
   refine .E 12 hs ?_
   refine .aI (vs:=[_]) hs rfl rfl bJ ?_;intro w hs
   refine .go ?_
   refine .D hs ?_
   exact nT ⟨b37,bS,hs.sb⟩
  ·refine .aI (vs:=[_,_,_,_,_,_,_,_]) hs rfl rfl aF ?_;intro w hs
   refine .go ?_
   refine .e2 (i:=8) (j:=11) an rfl rfl rfl rfl .none .none hs ?_ ?_
   ·refine .buildSlice (cells:=(lgc jF).flatten) hs gZ rfl an ?_;intro b37 w hs
    refine .go ?_
    refine .z 9 rfl (zbd [_] jV) ?_
    refine .E 11 hs ?_
    refine .aI (vs:=[_,_,_,_]) hs rfl rfl aA ?_;intro w hs
    refine .go ?_
    refine .E 12 hs ?_
    refine .aI (vs:=[_]) hs rfl rfl bJ ?_;intro w hs
    refine .go ?_
    refine .D hs ?_
    exact nT ⟨b37,bS,hs.sb⟩
   ·refine .aI (vs:=[_,_,_,_]) hs rfl rfl aA ?_;intro w hs
    refine .go ?_
    refine .E 8 hs ?_
    refine .buildSlice (cells:=(lgc jF).flatten) hs gZ rfl an ?_;intro b37 w hs
    refine .go ?_
    refine .z 9 rfl (zbd [_] jV) ?_
    refine .E 12 hs ?_
    refine .aI (vs:=[_]) hs rfl rfl bJ ?_;intro w hs
    refine .go ?_
    refine .D hs ?_
    exact nT ⟨b37,bS,hs.sb⟩
 ·rintro fs w ⟨b37,hfs,hs⟩
  refine WE.sub ?_ hfs
  clear hfs
  refine .ret ?_
  obtain ⟨H1,g1,r1,hs⟩:=cR.dH (xs:=[0,1000]) (v:= .slice (some ⟨b8,0,none⟩) 2 2) (.full rfl) db hs eF
  obtain ⟨H2,g2,r2,hs⟩:=cR.dH (xs:=[0,1000]) (v:= .slice (some ⟨b9,0,none⟩) 2 2) (.full rfl) db hs eF
  obtain ⟨H3,g3,r3,hs⟩:=cR.ck (m:=7) (cs:=rdc Eh) (v:= .slice (some ⟨b17,0,none⟩) 4 4) (.full an) (F6 _) ak ef hs eF
  obtain ⟨H4,g4,r4,hs⟩:=cR.ck (m:=6) (cs:=cmc exV.cs) (v:= .slice (some ⟨b19,0,none⟩) 1 1) (.full an) (Gt _) ak ef hs eF
  obtain ⟨H5,g5,r5,hs⟩:=cR.ck (m:=2) (cs:=fbc mq.table) (v:= .slice (some ⟨b23,0,none⟩) 2 2) (.full an) (Gs _) ak ef hs eF
  obtain ⟨H6,g6,r6,hs⟩:=cR.ck (m:=4) (cs:=snc mq.seasons) (v:= .slice (some ⟨b25,0,none⟩) 1 1) (.full an) (F1 _) ak ef hs eF
  obtain ⟨H7,g7,r7,hs⟩:=cR.ck (m:=7) (cs:=lgc jF) (v:= .slice (some ⟨b37,0,none⟩) 2 2) (.full an) (Gn _) ak ef hs eF
  have k6:=g6.trans g7
  have k5:=g5.trans k6
  have k4:=g4.trans k5
  have k3:=g3.trans k4
  have k2:=g2.trans k3
  exact Fin.gQ [] [] hs fun w hs=>⟨_,results3 Tryz.results71 (dB (vs:=[I 1,I 1,.slice (some ⟨b8,0,none⟩) 2 2,.slice (some ⟨b9,0,none⟩) 2 2,I 100,I 200,.slice (some ⟨b17,0,none⟩) 4 4,.slice (some ⟨b19,0,none⟩) 1 1]) hs rfl aS aF) (dB (vs:=[I 1000,I 1200,.slice (some ⟨b23,0,none⟩) 2 2,.slice (some ⟨b25,0,none⟩) 1 1]) hs rfl aN aA) (dB (vs:=[.slice (some ⟨b37,0,none⟩) 2 2]) hs rfl cW bJ),H7,_,_,_,_,_,_,_,g1.trans k2,rfl,⟨r1.mono k2,r2.mono k3,r3.mono k4,r4.mono k5⟩,⟨r5.mono k6,r6.mono g7⟩,r7,hs.out⟩
set_option maxRecDepth 100000 in
theorem sM:Tryz.prog.stoodInHeld 42=false:=by kernel_rfl
set_option maxRecDepth 100000 in
theorem sN:Tryz.prog.eqGuardType Tryz.prog.depth 42=false:=by kernel_rfl
set_option maxHeartbeats 4000000 in
theorem kZ(hs:St H w σ):
  Cl Tryz.prog 18 [] w fun u w'=>u= .bool true∧∃H1,HLe H H1∧St H1 w' σ:=by
 refine Cl.of Tryz.func18 rfl Tryz.ntmps18 db (uo) ?_
 refine .ai (.z zg (.nil (.ai ?_)))
 refine .o (.call Tryz.call71 rfl (nR hs) ?_);rintro _ w ⟨H1,a,b,c,d,vt,vs,vlg,hle1,rfl,g,gl,gr_,hs⟩
 obtain ⟨aa,ca,rfl⟩:=RI.shape g.st
 obtain ⟨ab,cb,rfl⟩:=RI.shape g.wa
 obtain ⟨ac,cc,rfl⟩:=RRd.shape g.rd
 obtain ⟨ad,cd,rfl⟩:=RCm.shape g.cm
 obtain ⟨at_,ct,rfl⟩:=gl.tb.shape
 obtain ⟨as_,cs,rfl⟩:=gl.sn.shape
 obtain ⟨ar,cr,rfl⟩:=gr_.shape
 refine .z zm (.z zex (.z zex (.z zex ?_)))
 refine .o (.alloc hs Tryz.zeroValue52 rfl fun b1 w hs=>?_)
 refine .o (.alloc hs Tryz.zeroValue25 rfl fun b2 w hs=>?_)
 refine .o (.alloc hs Tryz.zeroValue28 rfl fun b3 w hs=>?_)
 refine .o (.aI (vs:=[_,_,_,_,_,_,_,_]) hs rfl rfl aF fun w hs=>?_)
 refine .o (.aI (vs:=[_,_,_,_]) hs rfl rfl aA fun w hs=>?_)
 refine .o (.aI (vs:=[_]) hs rfl rfl bJ fun w hs=>?_)
 refine .nil (.ai (.y hs (zls [_,_,_,_] aN aA) ?_))
 refine .o (.call Tryz.call37 rfl (iI (l:=mq) hs gl.tb gl.sn) ?_);rintro _ w ⟨n,e,rfl,hF,hs⟩
 obtain ⟨rfl,rfl⟩:=AP hF
 refine .z zm (.z zex (.z zex (.z zg (.z zg (.nil (.ai (.y hs (zls [_,_,_,_] aN aA) ?_)))))))
 refine .o (.call Tryz.call41 rfl (j9 (l:=mq) hs gl.tb gl.sn) ?_);rintro _ w ⟨n,e,rfl,hF,hs⟩
 obtain ⟨rfl,rfl⟩:=xl hF
 refine .z zm (.z zex (.z zex (.z zg (.z zg (.nil (.ai (.y hs (zls [_,_,_,_,_,_,_,_] aS aF) (.z (zbd [I 1000,I 1025] bu) ?_))))))))
 refine .o (.call Tryz.call58 rfl (kI (s:=exV) hs g) ?_);rintro _ w ⟨H2,lo,hi,e,hle2,rfl,hD,hs⟩
 obtain ⟨rfl,rfl,rfl,hL⟩:=AQ hD
 replace g:=g.mono hle2
 replace gl:=gl.mono hle2
 replace gr_:=gr_.mono hle2
 refine .z zm (.z zex (.z zex ?_))
 refine .o (.alloc hs br rfl fun b8 w hs=>?_)
 refine .o (.aI (vs:=[_,_]) hs rfl rfl au fun w hs=>?_)
 refine .z zg (.nil (.ai (.y hs (zls [_,_,_,_,_,_,_,_] aS aF) (.y hs (zls [_,_,_,_] aN aA) (.y hs (zls [_] cW bJ) (.z (zbd [I 150,I 160] bu) ?_))))))
 refine .o (.call Tryz.call26 rfl (kX (s:=exV) (l:=mq) (r:=jF) (m:=⟨150,160⟩) hs g gl gr_) ?_);rintro _ w ⟨H3,n,e,hle3,rfl,hJ,hs⟩
 obtain ⟨rfl,rfl⟩:=s5 hL ef hJ
 rw [show xe [zu (je ⟨150,160⟩ jF 0) 190 404,zu (je ⟨150,160⟩ jF 1) 190 404]=1 by decide]
 replace g:=g.mono hle3
 replace gl:=gl.mono hle3
 replace gr_:=gr_.mono hle3
 refine .z zm (.z zex (.z zex (.z zg (.z zg (.nil (.ai (.y hs (zls [_,_,_,_,_,_,_,_] aS aF) (.y hs (zls [_,_,_,_] aN aA) (.y hs (zls [_] cW bJ) ?_)))))))))
 refine .z (zbd [I 180,I 200] bu) ?_
 refine .o (.call Tryz.call26 rfl (kX (s:=exV) (l:=mq) (r:=jF) (m:=⟨180,200⟩) hs g gl gr_) ?_);rintro _ w ⟨H4,n,e,hle4,rfl,hJ,hs⟩
 obtain ⟨rfl,rfl⟩:=s5 hL ef hJ
 rw [show xe [zu (je ⟨180,200⟩ jF 0) 190 404,zu (je ⟨180,200⟩ jF 1) 190 404]=2 by decide]
 replace g:=g.mono hle4
 replace gl:=gl.mono hle4
 replace gr_:=gr_.mono hle4
 refine .z zm (.z zex (.z zex (.z zg (.z zg (.nil (.ai (.y hs (zls [_,_,_,_,_,_,_,_] aS aF) (.y hs (zls [_,_,_,_] aN aA) (.y hs (zls [_] cW bJ) ?_)))))))))
 refine .o (.call Tryz.call28 rfl (sc (s:=exV) (l:=mq) (r:=jF) hs g gl gr_) ?_);rintro _ w ⟨H5,n,e,hle5,rfl,hS,hs⟩
 obtain ⟨rfl,rfl⟩:=AO hL hS
 replace g:=g.mono hle5
 replace gl:=gl.mono hle5
 replace gr_:=gr_.mono hle5
 have hle05:=hle1.trans (hle2.trans (hle3.trans (hle4.trans hle5)))
 refine .z zm (.z zex (.z zex (.z zg (.z zg (.nil (.ai ?_))))))
 refine .o (.buildSlice (cells:=Is [75,175]) hs gL rfl an fun b61 w hs=>?_)
 refine .o (.buildSlice (cells:=Is [0,130]) hs gL rfl an fun b62 w hs=>?_)
 refine .o (.buildSlice (cells:=[.slice (some ⟨b61,0,none⟩) 2 2,.slice (some ⟨b62,0,none⟩) 2 2]) hs sm rfl an fun b63 w hs=>?_)
 refine .z (zbd [_] vY) ?_
 obtain ⟨H6,g6,r6,hs⟩:=cR.dH (xs:=[75,175]) (v:= .slice (some ⟨b61,0,none⟩) 2 2) (.full rfl) db hs eF
 obtain ⟨H7,g7,r7,hs⟩:=cR.dH (xs:=[0,130]) (v:= .slice (some ⟨b62,0,none⟩) 2 2) (.full rfl) db hs eF
 have hRL:RLs H7 [.slice (some ⟨b61,0,none⟩) 2 2,.slice (some ⟨b62,0,none⟩) 2 2] Ei:=((RLs.nil H7).snoc (r6.mono g7)).snoc r7
 obtain ⟨H8,g8,hRT,hs⟩:=hRL.ck (v:= .slice (some ⟨b63,0,none⟩) 2 2) (en:= .blk b63 [.slice (some ⟨b61,0,none⟩) 2 2,.slice (some ⟨b62,0,none⟩) 2 2]) (.full rfl) db hs eF
 have hle8:=g6.trans (g7.trans g8)
 replace g:=g.mono hle8
 replace gl:=gl.mono hle8
 replace gr_:=gr_.mono hle8
 refine .z (zbd [_,_,_,_] ru) ?_
 refine .o (.alloc hs Tryz.zeroValue66 rfl fun b16 w hs=>?_)
 refine .o (.aI (vs:=[_,_,_,_]) hs rfl rfl Tryz.sizeOf66 fun w hs=>?_)
 refine .nil (.ai (.z zm (.z iP (.z zm ?_))))
 refine .gM (t':=68) rfl (fun hb68=>?_) (fun hb68=>?_)
 ·refine .gT rfl rfl ?_
  refine .z zm ?_
  refine .gT rfl rfl ?_
  refine .z iP (.z zpT (.z zm ?_))
  refine .gM (t':=72) rfl (fun hb72=>?_) (fun hb72=>?_)
  ·refine .gT rfl rfl ?_
   refine .z zm ?_
   refine .gT rfl rfl ?_
   refine .z iP (.z zpT (.z zm ?_))
   refine .gM (t':=76) rfl (fun hb76=>?_) (fun hb76=>?_)
   ·refine .gT rfl rfl ?_
    refine .z zm ?_
    refine .gT rfl rfl ?_
    refine .z iP (.z zpT (.z zm ?_))
    refine .gM (t':=80) rfl (fun hb80=>?_) (fun hb80=>?_)
    ·refine .gT rfl rfl ?_
     refine .z zm ?_
     refine .gT rfl rfl ?_
     refine .z iP (.z zpT (.z zm ?_))
     refine .gM (t':=84) rfl (fun hb84=>?_) (fun hb84=>?_)
     ·refine .gT rfl rfl ?_
      refine .y hs (zls [_,_] aB au) ?_
      refine .gT rfl rfl ?_
      refine .z (zbd [_,_] bu) ?_
      refine .gT rfl rfl ?_
      refine .q hs (xO sM sN pC (fun f hf=>by
       simp only [List.mem_cons,List.not_mem_nil,or_false] at hf
       rcases hf with rfl|rfl<;>exact ⟨by decide,aM,ae⟩) rfl rfl) ?_
      refine .z zpT (.z zm ?_)
      refine .bif (t':=89) rfl (fun hb89=>?_) (fun hb89=>?_)
      ·refine .gT rfl rfl ?_
       refine .z zm ?_
       refine .gT rfl rfl ?_
       refine .z iP (.z zpT (.z zm ?_))
       refine .gM (t':=93) rfl (fun hb93=>?_) (fun hb93=>?_)
       ·refine .gT rfl rfl ?_
        refine .z zm ?_
        refine .gT rfl rfl ?_
        refine .z iP (.z zpT (.z zm ?_))
        refine .gM (t':=97) rfl (fun hb97=>?_) (fun hb97=>?_)
        ·refine .gT rfl rfl ?_
         refine .z zm ?_
         refine .gT rfl rfl ?_
         refine .z iP (.z zpT (.z zm ?_))
         refine .gM (t':=101) rfl (fun hb101=>?_) (fun hb101=>?_)
         ·refine .gT rfl rfl ?_
          refine .z zm ?_
          refine .gT rfl rfl ?_
          refine .z iP (.z zpT (.z zm ?_))
          refine .gM (t':=105) rfl (fun hb105=>?_) (fun hb105=>?_)
          ·refine .gT rfl rfl ?_
           refine .z zm ?_
           refine .gT rfl rfl ?_
           refine .z iP (.z zpT (.z zm ?_))
           refine .gM (t':=109) rfl (fun hb109=>?_) (fun hb109=>?_)
           ·refine .gT rfl rfl ?_
            refine .z zm ?_
            refine .gT rfl rfl ?_
            refine .z iP (.z zpT (.z zm ?_))
            refine .gM (t':=113) rfl (fun hb113=>?_) (fun hb113=>?_)
            ·refine .gT rfl rfl ?_
             refine .y hs (zls [_,_,_,_,_,_,_,_] aS aF) ?_
             refine .gT rfl rfl ?_
             refine .y hs (zls [_,_,_,_] aN aA) ?_
             refine .gT rfl rfl ?_
             refine .y hs (zls [_] cW bJ) ?_
             refine .gT rfl rfl ?_
             refine .z (zbd [I 180,I 200] bu) ?_
             refine .gT rfl rfl ?_
             refine .y hs (zls [_,_,_,_] Tryz.isAgg66 Tryz.sizeOf66) ?_
             refine .gT rfl rfl ?_
             refine .o (.call Tryz.call32 rfl (lV (s:=exV) (l:=mq) (r:=jF) (m:=⟨180,200⟩) (x:=⟨0,1000,200,Ei⟩) hs g gl gr_ hRT) ?_);rintro _ w ⟨H9,e,hle9,rfl,hW,hs⟩
             obtain rfl:=Cz hW
             have hleF:=(hle05.trans hle8).trans hle9
             refine .gT rfl rfl ?_
             refine .z iP (.z zpT (.z zg (.nil ?_)))
             refine .ret (Fin.bg dv rfl ?_)
             first
             |exact ⟨rfl,H9,hleF,hs.out⟩
             |contradiction
             |(exfalso;simp_all;done)
            ·refine .gFs 7 47 true rfl rfl rfl ?_
             refine .z zpF (.z zg (.nil ?_))
             refine .ret (Fin.bg dv rfl ?_)
             first
             |exact ⟨rfl,H9,hleF,hs.out⟩
             |contradiction
             |(exfalso;simp_all;done)
           ·refine .gFs 2 43 true rfl rfl rfl ?_
            refine .z zpF (.z zm ?_)
            refine .gFs 7 47 true rfl rfl rfl ?_
            refine .z zpF (.z zg (.nil ?_))
            refine .ret (Fin.bg dv rfl ?_)
            first
            |exact ⟨rfl,H9,hleF,hs.out⟩
            |contradiction
            |(exfalso;simp_all;done)
          ·refine .gFs 2 39 true rfl rfl rfl ?_
           refine .z zpF (.z zm ?_)
           refine .gFs 2 43 true rfl rfl rfl ?_
           refine .z zpF (.z zm ?_)
           refine .gFs 7 47 true rfl rfl rfl ?_
           refine .z zpF (.z zg (.nil ?_))
           refine .ret (Fin.bg dv rfl ?_)
           first
           |exact ⟨rfl,H9,hleF,hs.out⟩
           |contradiction
           |(exfalso;simp_all;done)
         ·refine .gFs 2 35 true rfl rfl rfl ?_
          refine .z zpF (.z zm ?_)
          refine .gFs 2 39 true rfl rfl rfl ?_
          refine .z zpF (.z zm ?_)
          refine .gFs 2 43 true rfl rfl rfl ?_
          refine .z zpF (.z zm ?_)
          refine .gFs 7 47 true rfl rfl rfl ?_
          refine .z zpF (.z zg (.nil ?_))
          refine .ret (Fin.bg dv rfl ?_)
          first
          |exact ⟨rfl,H9,hleF,hs.out⟩
          |contradiction
          |(exfalso;simp_all;done)
        ·refine .gFs 2 31 true rfl rfl rfl ?_
         refine .z zpF (.z zm ?_)
         refine .gFs 2 35 true rfl rfl rfl ?_
         refine .z zpF (.z zm ?_)
         refine .gFs 2 39 true rfl rfl rfl ?_
         refine .z zpF (.z zm ?_)
         refine .gFs 2 43 true rfl rfl rfl ?_
         refine .z zpF (.z zm ?_)
         refine .gFs 7 47 true rfl rfl rfl ?_
         refine .z zpF (.z zg (.nil ?_))
         refine .ret (Fin.bg dv rfl ?_)
         first
         |exact ⟨rfl,H9,hleF,hs.out⟩
         |contradiction
         |(exfalso;simp_all;done)
       ·refine .gFs 2 27 true rfl rfl rfl ?_
        refine .z zpF (.z zm ?_)
        refine .gFs 2 31 true rfl rfl rfl ?_
        refine .z zpF (.z zm ?_)
        refine .gFs 2 35 true rfl rfl rfl ?_
        refine .z zpF (.z zm ?_)
        refine .gFs 2 39 true rfl rfl rfl ?_
        refine .z zpF (.z zm ?_)
        refine .gFs 2 43 true rfl rfl rfl ?_
        refine .z zpF (.z zm ?_)
        refine .gFs 7 47 true rfl rfl rfl ?_
        refine .z zpF (.z zg (.nil ?_))
        refine .ret (Fin.bg dv rfl ?_)
        first
        |exact ⟨rfl,H9,hleF,hs.out⟩
        |contradiction
        |(exfalso;simp_all;done)
      ·refine .gFs 2 23 true rfl rfl rfl ?_
       refine .z zpF (.z zm ?_)
       refine .gFs 2 27 true rfl rfl rfl ?_
       refine .z zpF (.z zm ?_)
       refine .gFs 2 31 true rfl rfl rfl ?_
       refine .z zpF (.z zm ?_)
       refine .gFs 2 35 true rfl rfl rfl ?_
       refine .z zpF (.z zm ?_)
       refine .gFs 2 39 true rfl rfl rfl ?_
       refine .z zpF (.z zm ?_)
       refine .gFs 2 43 true rfl rfl rfl ?_
       refine .z zpF (.z zm ?_)
       refine .gFs 7 47 true rfl rfl rfl ?_
       refine .z zpF (.z zg (.nil ?_))
       refine .ret (Fin.bg dv rfl ?_)
       first
       |exact ⟨rfl,H9,hleF,hs.out⟩
       |contradiction
       |(exfalso;simp_all;done)
     ·refine .gFs 3 18 true rfl rfl rfl ?_
      refine .z zpF (.z zm ?_)
      refine .gFs 2 23 true rfl rfl rfl ?_
      refine .z zpF (.z zm ?_)
      refine .gFs 2 27 true rfl rfl rfl ?_
      refine .z zpF (.z zm ?_)
      refine .gFs 2 31 true rfl rfl rfl ?_
      refine .z zpF (.z zm ?_)
      refine .gFs 2 35 true rfl rfl rfl ?_
      refine .z zpF (.z zm ?_)
      refine .gFs 2 39 true rfl rfl rfl ?_
      refine .z zpF (.z zm ?_)
      refine .gFs 2 43 true rfl rfl rfl ?_
      refine .z zpF (.z zm ?_)
      refine .gFs 7 47 true rfl rfl rfl ?_
      refine .z zpF (.z zg (.nil ?_))
      refine .ret (Fin.bg dv rfl ?_)
      first
      |exact ⟨rfl,H9,hleF,hs.out⟩
      |contradiction
      |(exfalso;simp_all;done)
    ·refine .gFs 2 14 true rfl rfl rfl ?_
     refine .z zpF (.z zm ?_)
     refine .gFs 3 18 true rfl rfl rfl ?_
     refine .z zpF (.z zm ?_)
     refine .gFs 2 23 true rfl rfl rfl ?_
     refine .z zpF (.z zm ?_)
     refine .gFs 2 27 true rfl rfl rfl ?_
     refine .z zpF (.z zm ?_)
     refine .gFs 2 31 true rfl rfl rfl ?_
     refine .z zpF (.z zm ?_)
     refine .gFs 2 35 true rfl rfl rfl ?_
     refine .z zpF (.z zm ?_)
     refine .gFs 2 39 true rfl rfl rfl ?_
     refine .z zpF (.z zm ?_)
     refine .gFs 2 43 true rfl rfl rfl ?_
     refine .z zpF (.z zm ?_)
     refine .gFs 7 47 true rfl rfl rfl ?_
     refine .z zpF (.z zg (.nil ?_))
     refine .ret (Fin.bg dv rfl ?_)
     first
     |exact ⟨rfl,H9,hleF,hs.out⟩
     |contradiction
     |(exfalso;simp_all;done)
   ·refine .gFs 2 10 true rfl rfl rfl ?_
    refine .z zpF (.z zm ?_)
    refine .gFs 2 14 true rfl rfl rfl ?_
    refine .z zpF (.z zm ?_)
    refine .gFs 3 18 true rfl rfl rfl ?_
    refine .z zpF (.z zm ?_)
    refine .gFs 2 23 true rfl rfl rfl ?_
    refine .z zpF (.z zm ?_)
    refine .gFs 2 27 true rfl rfl rfl ?_
    refine .z zpF (.z zm ?_)
    refine .gFs 2 31 true rfl rfl rfl ?_
    refine .z zpF (.z zm ?_)
    refine .gFs 2 35 true rfl rfl rfl ?_
    refine .z zpF (.z zm ?_)
    refine .gFs 2 39 true rfl rfl rfl ?_
    refine .z zpF (.z zm ?_)
    refine .gFs 2 43 true rfl rfl rfl ?_
    refine .z zpF (.z zm ?_)
    refine .gFs 7 47 true rfl rfl rfl ?_
    refine .z zpF (.z zg (.nil ?_))
    refine .ret (Fin.bg dv rfl ?_)
    first
    |exact ⟨rfl,H9,hleF,hs.out⟩
    |contradiction
    |(exfalso;simp_all;done)
  ·refine .gFs 2 6 true rfl rfl rfl ?_
   refine .z zpF (.z zm ?_)
   refine .gFs 2 10 true rfl rfl rfl ?_
   refine .z zpF (.z zm ?_)
   refine .gFs 2 14 true rfl rfl rfl ?_
   refine .z zpF (.z zm ?_)
   refine .gFs 3 18 true rfl rfl rfl ?_
   refine .z zpF (.z zm ?_)
   refine .gFs 2 23 true rfl rfl rfl ?_
   refine .z zpF (.z zm ?_)
   refine .gFs 2 27 true rfl rfl rfl ?_
   refine .z zpF (.z zm ?_)
   refine .gFs 2 31 true rfl rfl rfl ?_
   refine .z zpF (.z zm ?_)
   refine .gFs 2 35 true rfl rfl rfl ?_
   refine .z zpF (.z zm ?_)
   refine .gFs 2 39 true rfl rfl rfl ?_
   refine .z zpF (.z zm ?_)
   refine .gFs 2 43 true rfl rfl rfl ?_
   refine .z zpF (.z zm ?_)
   refine .gFs 7 47 true rfl rfl rfl ?_
   refine .z zpF (.z zg (.nil ?_))
   refine .ret (Fin.bg dv rfl ?_)
   first
   |exact ⟨rfl,H9,hleF,hs.out⟩
   |contradiction
   |(exfalso;simp_all;done)
 ·refine .gFs 2 2 true rfl rfl rfl ?_
  refine .z zpF (.z zm ?_)
  refine .gFs 2 6 true rfl rfl rfl ?_
  refine .z zpF (.z zm ?_)
  refine .gFs 2 10 true rfl rfl rfl ?_
  refine .z zpF (.z zm ?_)
  refine .gFs 2 14 true rfl rfl rfl ?_
  refine .z zpF (.z zm ?_)
  refine .gFs 3 18 true rfl rfl rfl ?_
  refine .z zpF (.z zm ?_)
  refine .gFs 2 23 true rfl rfl rfl ?_
  refine .z zpF (.z zm ?_)
  refine .gFs 2 27 true rfl rfl rfl ?_
  refine .z zpF (.z zm ?_)
  refine .gFs 2 31 true rfl rfl rfl ?_
  refine .z zpF (.z zm ?_)
  refine .gFs 2 35 true rfl rfl rfl ?_
  refine .z zpF (.z zm ?_)
  refine .gFs 2 39 true rfl rfl rfl ?_
  refine .z zpF (.z zm ?_)
  refine .gFs 2 43 true rfl rfl rfl ?_
  refine .z zpF (.z zm ?_)
  refine .gFs 7 47 true rfl rfl rfl ?_
  refine .z zpF (.z zg (.nil ?_))
  refine .ret (Fin.bg dv rfl ?_)
  first
  |exact ⟨rfl,H9,hleF,hs.out⟩
  |contradiction
  |(exfalso;simp_all;done)
end Go.Proofs.YteajddicacjkhaaGreat
