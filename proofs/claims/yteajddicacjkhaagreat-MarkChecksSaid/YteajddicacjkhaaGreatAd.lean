/-
  Texts of these claims, joined: Zg Zh Zi Zl Zm Zn Zo Zp Zs Zt Zu Zv Zy Nd Nj No Nq Oc Od Oe Of Og Oh Oi Oj Ok Ol Om.
-/
import Derived.Test.YteajddicacjkhaaGreatAc
namespace Go.Proofs.YteajddicacjkhaaGreat
open Go.MW
variable{H:a8}{w:World}{σ:List Ent}
theorem eA{x0 x1 x2 x3 x4 x5 x6 x7 x8 vl:Value}{en:Ent}{bm:Nat}{ls:List Lim}{a b hi lo by_:Int}(hs:St H w (.blk bm [x0,x1,x2,x3,x4,x5,x6,x7,x8,vl]::en::σ))(hO:cM 4 vl (iT ls) en)(hl:ls.length≤100000):
  Cl Tryz.prog 242 [.pointer (some ⟨bm,0,none⟩),I a,I b,I hi,I lo,I by_] w fun _ w'=>∃vl' en',cM 4 vl' (iT (ls++two a b hi lo by_)) en'∧St H w' (.blk bm [x0,x1,x2,x3,x4,x5,x6,x7,x8,vl']::en'::σ):=by
 obtain ⟨al,ll,cl,rfl,h⟩:=hO.shape
 refine Cl.of Tryz.func242 rfl Tryz.ntmps242 dm (cH (k:=0) rfl (cH (k:=1) rfl (cH (k:=2) rfl (cH (k:=3) rfl (cH (k:=4) rfl (cH (k:=5) rfl (tF))))))) ?_
 refine .region (.z zm (.z zm (.z znc (.z (zfa fF) (.y hs (zld dc) (.z zm (.z zm (.z zm (.z zm ?_)))))))))
 refine .z (zbd [_,_,_,_] nU) (.z zm (.z zm (.z zm (.z zm (.z (zbd [_,_,_,_] nU) ?_)))))
 refine .o (.buildSlice (cells:=iT (two a b hi lo by_)) hs nQ rfl aq fun b27 w hs=>?_)
 refine .o (.append (ys:=iT (two a b hi lo by_)) hs eX rfl rfl hO (.own .here rfl rfl) (AB _) (fun l h=>by rw [q7] at h;omega) ?_);intro v28 en28 w hO2 hs
 rw [←q8] at hO2
 obtain ⟨a28,l28,c28,rfl,h28⟩:=hO2.shape
 refine .z znc (.z (zfa fF) ?_)
 refine .o (.store hs rfl rfl rQ fun w hs=>?_)
 refine .nil ?_
 exact Fin.uY Tryz.results242 ⟨_,_,hO2,hs.sb⟩
theorem ic{s:Spc}{vst vwa x6 x7 x8 vl:Value}{bm:Nat}{j:Int}(hs:St H w σ)(hm:Mem σ (.blk bm [I s.id,I s.src,vst,vwa,I s.al,I s.up,x6,x7,x8,vl]))(h1:RI H vst s.st)(h2:RI H vwa s.wa)(hb:s.st.length≤1000∧s.wa.length≤1000)(hj: -1≤j∧j≤1000):
  Cl Tryz.prog 244 [.pointer (some ⟨bm,0,none⟩),I j] w fun u w'=>u=I ((s.many:Int)+1+j)∧St H w' σ:=by
 have hmm:s.many≤1000000:=Nat.mul_le_mul hb.1 hb.2
 refine Cl.o Tryz.func244 Tryz.ntmps244 ag2 ?_
 refine .ai (.z zg (.nil (.ai (.z zm (.z znc (.z (zfa bX) (.z (zfa bq) ?_)))))))
 refine .q hs (iW (vs:=[I s.id,I s.src,vst,vwa,I s.al,I s.up]) rfl bE aR hm) ?_
 refine .o (.call Tryz.call196 rfl (jf (s:=s) hs h1 h2 hb) ?_);rintro _ w ⟨rfl,hs⟩
 refine .z eh (.z zm (.z eh (.z zg (.nil ?_))))
 refine .ret (Fin.aU Tryz.results244 rfl ?_)
 exact ⟨rfl,hs⟩
theorem er{s:Spc}(h:dh s):s.st.length≤1000∧s.wa.length≤1000∧0<s.wa.length∧s.many≤63:=by
 have h1:=h.st.many;have h2:=h.wa.many;have h3:=h.wa.two
 have:s.many≤9*7:=Nat.mul_le_mul h1 h2
 omega
theorem mG{s:Srv}{ts:List TD}{vst vwa vr vc vt vl:Value}{en:Ent}{bm:Nat}{ls:List Lim}(hs:St H w (.blk bm [I s.sp.id,I s.sp.src,vst,vwa,I s.sp.al,I s.sp.up,vr,vc,vt,vl]::en::σ))(hk:MkK H s ts vst vwa vr vc vt)(hO:cM 4 vl (iT ls) en)(hl:ls.length≤10000)(hok:dh s.sp):
  Cl Tryz.prog 190 [.pointer (some ⟨bm,0,none⟩)] w fun _ w'=>∃H1 vl' en',HLe H H1∧cM 4 vl' (iT (ls++jh (yv s.sp) s.sp.wa.length s.sp.st.length)) en'∧St H1 w' (.blk bm [I s.sp.id,I s.sp.src,vst,vwa,I s.sp.al,I s.sp.up,vr,vc,vt,vl']::en'::σ):=by
 have hsm:=er hok
 refine Cl.o Tryz.func190 Tryz.ntmps190 ag1 ?_
 refine .ai ?_
 refine .bx hs fun b1 w hs=>?_
 refine .nil (.ai (.y hs (zld od) (.z znc (.z (zfa bX) (.z (zfa bq) (.y hs (zls [_,_,_,_,_,_] bE aR) ?_))))))
 refine .o (.call yI rfl (dG (s:=s.sp) hs hk.st hk.wa ⟨ak,ak⟩) ?_);rintro _ w ⟨H1,ba,hle1,rfl,hit,hs⟩
 refine .nil (.block ?_)
 refine .rangeFunc (gf:=188) (cap:=[.pointer (some ⟨ba,0,none⟩)]) (xs:=sD s.sp) (σb:=[.blk bm [I s.sp.id,I s.sp.src,vst,vwa,I s.sp.al,I s.sp.up,vr,vc,vt,vl],en,.blk b1 [.pointer (some ⟨bm,0,none⟩)]]) (σf:=σ) (hs.sb) trivial rfl hit yH (fun x hx=>by
   simp only [sD,List.mem_map] at hx
   obtain ⟨j,_,rfl⟩:=hx;rfl) rfl
  (I:=fun p H' σb=>∃vl en,σb=[.blk bm [I s.sp.id,I s.sp.src,vst,vwa,I s.sp.al,I s.sp.up,vr,vc,vt,vl],en,.blk b1 [.pointer (some ⟨bm,0,none⟩)]]∧cM 4 vl (iT (ls++nu (yv s.sp) s.sp.wa.length p)) en) (Ix:=fun _ _ _=>False)
  (fun j _ _ σ g1 g2=>g2) (fun _ _ _ _ _ h=>h) ⟨vl,en,rfl,by rw [k8,List.append_nil];exact hO⟩ ?_ ?_ (fun D c H' σb w _ h _=>h.elim)
 ·rintro ly p hp H2 σb2 σf2 w hle2 ⟨vl,en,rfl,hO⟩ hs ⟨rr,hrr⟩
  have hpm:p<s.sp.many:=by rw [cQ] at hp;exact hp
  have hsucc:=k9 (yv s.sp) (p:=p) hsm.2.2.1
  have hpl:=gj (tx s.sp) hsm.2.2.1 p
  have hin:p/s.sp.wa.length<s.sp.st.length:=Nat.div_lt_of_lt_mul (by rw [Nat.mul_comm];exact hpm)
  have hkm:=Nat.mod_lt p hsm.2.2.1
  have hdm:=Nat.div_add_mod p s.sp.wa.length
  rw [Nat.mul_comm] at hdm
  have hu:(s.sp.u (p/s.sp.wa.length) (p%s.sp.wa.length):Int)=(p:Int)+1:=by unfold Spc.u;omega
  rw [jE hp]
  obtain ⟨al,ll,cl,rfl,hll⟩:=hO.shape
  generalize p/s.sp.wa.length=i at*
  generalize p%s.sp.wa.length=k at*
  have hk2:=hk.mono (hle1.trans hle2)
  refine .region ?_
  refine .o (.alloc hs gX rfl fun b2 w hs=>?_)
  refine .o (.aF (vs:=[_,_,_]) hs rfl rfl lR fun w hs=>?_)
  refine .nil ?_
  refine nT ?_
  refine ⟨H2,[.blk b2 [I (i:Int),I (k:Int),I ((p+1:Nat):Int)],.blk bm [I s.sp.id,I s.sp.src,vst,vwa,I s.sp.al,I s.sp.up,vr,vc,vt,.slice al ll cl],en,.blk b1 [.pointer (some ⟨bm,0,none⟩)]],HLe.refl _,hs,?_⟩;rintro w σf4 - hs
  refine .block ?_
  refine .draw mix rfl hs fun w hs=>?_
  refine .y 0 rfl hs od ?_;refine .z 1 rfl (zfa cZ) ?_;refine .y 2 rfl hs af ?_;refine .y 3 rfl hs od ?_;refine .z 4 rfl znc ?_;refine .z 5 rfl (zfa bX) ?_;refine .z 6 rfl (zfa bq) ?_;refine .z 7 rfl (zfa e8) ?_;refine .y 8 rfl hs af ?_
  refine .E 9 hs ?_
  refine .call yF rfl (eA (ls:=ls++nu (yv s.sp) s.sp.wa.length p) (hs.sb:St H2 w (.blk bm _::en:: .blk b1 _::σf4)) hO (by rw [List.length_append];omega)) ?_;rintro _ w ⟨vl3,en3,hO3,hs⟩
  rw [show two 0 ((p+1:Nat):Int) 20000 0 s.sp.src=yv s.sp i k by unfold yv;rw [hu];rfl,List.append_assoc,←hsucc] at hO3
  refine .go ?_
  refine .D hs ?_
  refine nB ?_
  exact ⟨H2,_,HLe.refl _,hs,_,_,rfl,hO3⟩
 ·rintro D H2 σb2 w hle2 ⟨vl,en,rfl,hO⟩ hs
  rw [cQ,show s.sp.many=s.sp.st.length*s.sp.wa.length from rfl,nt _ hsm.2.2.1] at hO
  refine nB ?_
  exact Fin.Fj [D] [] hs fun w hs=>⟨_,results0 Tryz.results190,H2,vl,en,hle1.trans hle2,hO,(hs.sb:St H2 w (.blk bm _::en::σ))⟩
theorem pN{s:Srv}{ts:List TD}{vst vwa vr vc vt vl:Value}{en:Ent}{bm:Nat}{ls:List Lim}(hs:St H w (.blk bm [I s.sp.id,I s.sp.src,vst,vwa,I s.sp.al,I s.sp.up,vr,vc,vt,vl]::en::σ))(hk:MkK H s ts vst vwa vr vc vt)(hO:cM 4 vl (iT ls) en)(hl:ls.length≤10000)(hok:dh s.sp):
  Cl Tryz.prog 191 [.pointer (some ⟨bm,0,none⟩)] w fun _ w'=>∃H1 vl' en',HLe H H1∧cM 4 vl' (iT (ls++jh (alL s.sp) s.sp.wa.length s.sp.st.length)) en'∧St H1 w' (.blk bm [I s.sp.id,I s.sp.src,vst,vwa,I s.sp.al,I s.sp.up,vr,vc,vt,vl']::en'::σ):=by
 have hsm:=er hok
 obtain ⟨ast,cst,rfl⟩:=RI.shape hk.st
 obtain ⟨awa,cwa,rfl⟩:=RI.shape hk.wa
 refine Cl.o Tryz.func191 Tryz.ntmps191 ag1 ?_
 refine .ai ?_
 refine .bx hs fun b1 w hs=>?_
 refine .nil (.ai (.y hs (zld od) (.z znc (.z (zfa bX) (.z (zfa bq) (.y hs (zls [_,_,_,_,_,_] bE aR) ?_))))))
 refine .o (.alloc hs Tryz.zeroValue48 rfl fun b2 w hs=>?_)
 refine .o (.aF (vs:=[_,_,_,_,_,_]) hs rfl rfl aR fun w hs=>?_)
 refine .nil (.ai (.y hs (zls [_,_,_,_,_,_] bE aR) ?_))
 refine .o (.call yI rfl (dG (s:=s.sp) hs hk.st hk.wa ⟨ak,ak⟩) ?_);rintro _ w ⟨H1,ba,hle1,rfl,hit,hs⟩
 refine .nil (.block ?_)
 refine .rangeFunc (gf:=188) (cap:=[.pointer (some ⟨ba,0,none⟩)]) (xs:=sD s.sp) (σb:=[.blk bm [I s.sp.id,I s.sp.src,.slice ast s.sp.st.length cst,.slice awa s.sp.wa.length cwa,I s.sp.al,I s.sp.up,vr,vc,vt,vl],en,.blk b1 [.pointer (some ⟨bm,0,none⟩)],.blk b2 [I s.sp.id,I s.sp.src,.slice ast s.sp.st.length cst,.slice awa s.sp.wa.length cwa,I s.sp.al,I s.sp.up]]) (σf:=σ) (hs.sb) trivial rfl hit yH (fun x hx=>by
   simp only [sD,List.mem_map] at hx
   obtain ⟨j,_,rfl⟩:=hx;rfl) rfl
  (I:=fun p H' σb=>∃vl en,σb=[.blk bm [I s.sp.id,I s.sp.src,.slice ast s.sp.st.length cst,.slice awa s.sp.wa.length cwa,I s.sp.al,I s.sp.up,vr,vc,vt,vl],en,.blk b1 [.pointer (some ⟨bm,0,none⟩)],.blk b2 [I s.sp.id,I s.sp.src,.slice ast s.sp.st.length cst,.slice awa s.sp.wa.length cwa,I s.sp.al,I s.sp.up]]∧cM 4 vl (iT (ls++nu (alL s.sp) s.sp.wa.length p)) en) (Ix:=fun _ _ _=>False)
  (fun j _ _ σ g1 g2=>g2) (fun _ _ _ _ _ h=>h) ⟨vl,en,rfl,by rw [k8,List.append_nil];exact hO⟩ ?_ ?_ (fun D c H' σb w _ h _=>h.elim)
 ·rintro ly p hp H2 σb2 σf2 w hle2 ⟨vl,en,rfl,hO⟩ hs ⟨rr,hrr⟩
  have hpm:p<s.sp.many:=by rw [cQ] at hp;exact hp
  have hsucc:=k9 (alL s.sp) (p:=p) hsm.2.2.1
  have hpl:=gj (wO s.sp) hsm.2.2.1 p
  have hin:p/s.sp.wa.length<s.sp.st.length:=Nat.div_lt_of_lt_mul (by rw [Nat.mul_comm];exact hpm)
  have hkm:=Nat.mod_lt p hsm.2.2.1
  have hdm:=Nat.div_add_mod p s.sp.wa.length
  rw [Nat.mul_comm] at hdm
  have hu:(s.sp.u (p/s.sp.wa.length) (p%s.sp.wa.length):Int)=(p:Int)+1:=by unfold Spc.u;omega
  rw [jE hp]
  obtain ⟨al,ll,cl,rfl,hll⟩:=hO.shape
  generalize p/s.sp.wa.length=i at*
  generalize p%s.sp.wa.length=k at*
  have hk2:=hk.mono (hle1.trans hle2)
  refine .region ?_
  refine .o (.alloc hs gX rfl fun b3 w hs=>?_)
  refine .o (.aF (vs:=[_,_,_]) hs rfl rfl lR fun w hs=>?_)
  refine .nil ?_
  refine nT ?_
  refine ⟨H2,[.blk b3 [I (i:Int),I (k:Int),I ((p+1:Nat):Int)],.blk bm [I s.sp.id,I s.sp.src,.slice ast s.sp.st.length cst,.slice awa s.sp.wa.length cwa,I s.sp.al,I s.sp.up,vr,vc,vt,.slice al ll cl],en,.blk b1 [.pointer (some ⟨bm,0,none⟩)],.blk b2 [I s.sp.id,I s.sp.src,.slice ast s.sp.st.length cst,.slice awa s.sp.wa.length cwa,I s.sp.al,I s.sp.up]],HLe.refl _,hs,?_⟩;rintro w σf4 - hs
  refine .block (.ai (.z (zfa bS) (.y hs (zld af) (.z eh (.z (zfa cD) (.y hs (zld an) (.z (dj ae) (.z mT (.nil ?_)))))))))
  refine (.cz rfl (fun hc19=>?_) (fun hc19=>?_))
  ·refine .seq (.draw mix rfl hs fun w hs=>?_)
   refine .z 0 rfl (zfa fW) ?_;refine .z 1 rfl (zfa nG) ?_;refine .y 2 rfl hs af ?_;refine .z 3 rfl (zfa cD) ?_;refine .y 4 rfl hs an ?_;refine .z 5 rfl (zfa bS) ?_;refine .y 6 rfl hs af ?_;refine .z 7 rfl eh ?_
   have hris:=hok.st.rise i ak
   have hq0:=hok.st.bd (i:=i) ak
   have hq1:=hok.st.bd (i:=i+1) ak
   have hal:=hok.al
   refine .ixX (enc:=fun x=>[I x]) (i:=8) hs rfl aq .none hk2.st rfl rfl ae aj (bw (l:=s.sp.st) (i:=(i+1)) ak) dn ?_;intro b28 o28 hc28;replace hc28:=bI.one hc28
   refine .r (i:=9) hs rfl aq .none (bj rfl af hc28) ?_
   refine .z 10 rfl (zfa cD) ?_;refine .y 11 rfl hs an ?_;refine .z 12 rfl (zfa bS) ?_;refine .y 13 rfl hs af ?_
   refine .ixX (enc:=fun x=>[I x]) (i:=14) hs rfl aq .none hk2.st rfl rfl ae aj (bw (l:=s.sp.st) (i:=i) ak) dn ?_;intro b34 o34 hc34;replace hc34:=bI.one hc34
   refine .r (i:=15) hs rfl aq .none (bj rfl af hc34) ?_
   refine .z 16 rfl gC ?_
   refine .E 17 hs ?_
   refine .call Tryz.call243 rfl (jg hs ak ak) ?_;rintro _ w ⟨rfl,hs⟩
   refine .go ?_
   refine .z 18 rfl zg ?_;refine .D hs ?_
   refine .region (.y hs (zld od) (.z (zfa cZ) (.y hs (zld af) (.z (zfa cZ) (.y hs (zld af) (.z (zfa bA) (.y hs (zld an) (.z (dj ae) (.z eh ?_)))))))))
   refine .z zm (.z zm (.z (zfa e8) (.y hs (zld af) ?_)))
   refine .o (.call yF rfl (eA (ls:=ls++nu (alL s.sp) s.sp.wa.length p) (hs.sb:St H2 w (.blk bm _::en:: .blk b1 _:: .blk b2 _::σf4)) hO (by rw [List.length_append];omega)) ?_);rintro _ w ⟨vl3,en3,hO3,hs⟩
   have hu2:(s.sp.u (i+1) k:Int)=((p+1:Nat):Int)+(s.sp.wa.length:Int):=by unfold Spc.u at hu ⊢;rw [Nat.add_mul];omega
   rw [show two ((p+1:Nat):Int) (((p+1:Nat):Int)+(s.sp.wa.length:Int)) (gR s.sp.al (gi s.sp.st (i+1) - gi s.sp.st i)) (gR s.sp.al (gi s.sp.st (i+1) - gi s.sp.st i)) s.sp.src=alL s.sp i k by unfold alL;rw [if_pos ak,hu,hu2];rfl,List.append_assoc,←hsucc] at hO3
   refine .nil ?_
   refine nB ?_
   exact ⟨H2,_,HLe.refl _,hs,_,_,rfl,hO3⟩
  ·refine .skip ?_
   refine nB ?_
   rw [show alL s.sp i k=[] by unfold alL;rw [if_neg ak],List.append_nil] at hsucc
   exact ⟨H2,_,HLe.refl _,(hs.sb:St H2 w (.blk bm _::en:: .blk b1 _:: .blk b2 _::σf4)),_,_,rfl,by rw [hsucc];exact hO⟩
 ·rintro D H2 σb2 w hle2 ⟨vl,en,rfl,hO⟩ hs
  rw [cQ,show s.sp.many=s.sp.st.length*s.sp.wa.length from rfl,nt _ hsm.2.2.1] at hO
  refine nB ?_
  exact Fin.Fj [D] [] hs fun w hs=>⟨_,results0 Tryz.results191,H2,vl,en,hle1.trans hle2,hO,(hs.sb:St H2 w (.blk bm _::en::σ))⟩
theorem te{s:Srv}{ts:List TD}{vst vwa vr vc vt vl:Value}{en:Ent}{bm:Nat}{ls:List Lim}(hs:St H w (.blk bm [I s.sp.id,I s.sp.src,vst,vwa,I s.sp.al,I s.sp.up,vr,vc,vt,vl]::en::σ))(hk:MkK H s ts vst vwa vr vc vt)(hO:cM 4 vl (iT ls) en)(hl:ls.length≤10000)(hok:dh s.sp):
  Cl Tryz.prog 192 [.pointer (some ⟨bm,0,none⟩)] w fun _ w'=>∃H1 vl' en',HLe H H1∧cM 4 vl' (iT (ls++jh (upL s.sp) s.sp.wa.length s.sp.st.length)) en'∧St H1 w' (.blk bm [I s.sp.id,I s.sp.src,vst,vwa,I s.sp.al,I s.sp.up,vr,vc,vt,vl']::en'::σ):=by
 have hsm:=er hok
 obtain ⟨ast,cst,rfl⟩:=RI.shape hk.st
 obtain ⟨awa,cwa,rfl⟩:=RI.shape hk.wa
 refine Cl.o Tryz.func192 Tryz.ntmps192 ag1 ?_
 refine .ai ?_
 refine .bx hs fun b1 w hs=>?_
 refine .nil (.ai (.y hs (zld od) (.z znc (.z (zfa bX) (.z (zfa bq) (.y hs (zls [_,_,_,_,_,_] bE aR) ?_))))))
 refine .o (.alloc hs Tryz.zeroValue48 rfl fun b2 w hs=>?_)
 refine .o (.aF (vs:=[_,_,_,_,_,_]) hs rfl rfl aR fun w hs=>?_)
 refine .nil (.ai (.y hs (zls [_,_,_,_,_,_] bE aR) ?_))
 refine .o (.call yI rfl (dG (s:=s.sp) hs hk.st hk.wa ⟨ak,ak⟩) ?_);rintro _ w ⟨H1,ba,hle1,rfl,hit,hs⟩
 refine .nil (.block ?_)
 refine .rangeFunc (gf:=188) (cap:=[.pointer (some ⟨ba,0,none⟩)]) (xs:=sD s.sp) (σb:=[.blk bm [I s.sp.id,I s.sp.src,.slice ast s.sp.st.length cst,.slice awa s.sp.wa.length cwa,I s.sp.al,I s.sp.up,vr,vc,vt,vl],en,.blk b1 [.pointer (some ⟨bm,0,none⟩)],.blk b2 [I s.sp.id,I s.sp.src,.slice ast s.sp.st.length cst,.slice awa s.sp.wa.length cwa,I s.sp.al,I s.sp.up]]) (σf:=σ) (hs.sb) trivial rfl hit yH (fun x hx=>by
   simp only [sD,List.mem_map] at hx
   obtain ⟨j,_,rfl⟩:=hx;rfl) rfl
  (I:=fun p H' σb=>∃vl en,σb=[.blk bm [I s.sp.id,I s.sp.src,.slice ast s.sp.st.length cst,.slice awa s.sp.wa.length cwa,I s.sp.al,I s.sp.up,vr,vc,vt,vl],en,.blk b1 [.pointer (some ⟨bm,0,none⟩)],.blk b2 [I s.sp.id,I s.sp.src,.slice ast s.sp.st.length cst,.slice awa s.sp.wa.length cwa,I s.sp.al,I s.sp.up]]∧cM 4 vl (iT (ls++nu (upL s.sp) s.sp.wa.length p)) en) (Ix:=fun _ _ _=>False)
  (fun j _ _ σ g1 g2=>g2) (fun _ _ _ _ _ h=>h) ⟨vl,en,rfl,by rw [k8,List.append_nil];exact hO⟩ ?_ ?_ (fun D c H' σb w _ h _=>h.elim)
 ·rintro ly p hp H2 σb2 σf2 w hle2 ⟨vl,en,rfl,hO⟩ hs ⟨rr,hrr⟩
  have hpm:p<s.sp.many:=by rw [cQ] at hp;exact hp
  have hsucc:=k9 (upL s.sp) (p:=p) hsm.2.2.1
  have hpl:=gj (vT s.sp) hsm.2.2.1 p
  have hin:p/s.sp.wa.length<s.sp.st.length:=Nat.div_lt_of_lt_mul (by rw [Nat.mul_comm];exact hpm)
  have hkm:=Nat.mod_lt p hsm.2.2.1
  have hdm:=Nat.div_add_mod p s.sp.wa.length
  rw [Nat.mul_comm] at hdm
  have hu:(s.sp.u (p/s.sp.wa.length) (p%s.sp.wa.length):Int)=(p:Int)+1:=by unfold Spc.u;omega
  rw [jE hp]
  obtain ⟨al,ll,cl,rfl,hll⟩:=hO.shape
  generalize p/s.sp.wa.length=i at*
  generalize p%s.sp.wa.length=k at*
  have hk2:=hk.mono (hle1.trans hle2)
  refine .region ?_
  refine .o (.alloc hs gX rfl fun b3 w hs=>?_)
  refine .o (.aF (vs:=[_,_,_]) hs rfl rfl lR fun w hs=>?_)
  refine .nil ?_
  refine nT ?_
  refine ⟨H2,[.blk b3 [I (i:Int),I (k:Int),I ((p+1:Nat):Int)],.blk bm [I s.sp.id,I s.sp.src,.slice ast s.sp.st.length cst,.slice awa s.sp.wa.length cwa,I s.sp.al,I s.sp.up,vr,vc,vt,.slice al ll cl],en,.blk b1 [.pointer (some ⟨bm,0,none⟩)],.blk b2 [I s.sp.id,I s.sp.src,.slice ast s.sp.st.length cst,.slice awa s.sp.wa.length cwa,I s.sp.al,I s.sp.up]],HLe.refl _,hs,?_⟩;rintro w σf4 - hs
  refine .block (.ai (.z (zfa bK) (.y hs (zld af) (.z eh (.z (zfa bA) (.y hs (zld an) (.z (dj ae) (.z mT (.nil ?_)))))))))
  refine (.cz rfl (fun hc19=>?_) (fun hc19=>?_))
  ·refine .seq (.draw mix rfl hs fun w hs=>?_)
   refine .z 0 rfl (zfa fW) ?_;refine .z 1 rfl (zfa nF) ?_;refine .y 2 rfl hs af ?_;refine .z 3 rfl (zfa bA) ?_;refine .y 4 rfl hs an ?_;refine .z 5 rfl (zfa bK) ?_;refine .y 6 rfl hs af ?_;refine .z 7 rfl eh ?_
   have hris:=hok.wa.rise k ak
   have hq0:=hok.wa.bd (i:=k) ak
   have hq1:=hok.wa.bd (i:=k+1) ak
   have hal:=hok.up
   refine .ixX (enc:=fun x=>[I x]) (i:=8) hs rfl aq .none hk2.wa rfl rfl ae aj (bw (l:=s.sp.wa) (i:=(k+1)) ak) dn ?_;intro b28 o28 hc28;replace hc28:=bI.one hc28
   refine .r (i:=9) hs rfl aq .none (bj rfl af hc28) ?_
   refine .z 10 rfl (zfa bA) ?_;refine .y 11 rfl hs an ?_;refine .z 12 rfl (zfa bK) ?_;refine .y 13 rfl hs af ?_
   refine .ixX (enc:=fun x=>[I x]) (i:=14) hs rfl aq .none hk2.wa rfl rfl ae aj (bw (l:=s.sp.wa) (i:=k) ak) dn ?_;intro b34 o34 hc34;replace hc34:=bI.one hc34
   refine .r (i:=15) hs rfl aq .none (bj rfl af hc34) ?_
   refine .z 16 rfl gC ?_
   refine .E 17 hs ?_
   refine .call Tryz.call243 rfl (jg hs ak ak) ?_;rintro _ w ⟨rfl,hs⟩
   refine .go ?_
   refine .z 18 rfl zg ?_;refine .D hs ?_
   refine .region (.y hs (zld od) (.z (zfa cZ) (.y hs (zld af) (.z (zfa cZ) (.y hs (zld af) (.z eh (.z zm (.z zm (.z (zfa e8) ?_)))))))))
   refine .y hs (zld af) ?_
   refine .o (.call yF rfl (eA (ls:=ls++nu (upL s.sp) s.sp.wa.length p) (hs.sb:St H2 w (.blk bm _::en:: .blk b1 _:: .blk b2 _::σf4)) hO (by rw [List.length_append];omega)) ?_);rintro _ w ⟨vl3,en3,hO3,hs⟩
   have hu2:(s.sp.u i (k+1):Int)=((p+1:Nat):Int)+1:=by unfold Spc.u at hu ⊢;omega
   rw [show two ((p+1:Nat):Int) (((p+1:Nat):Int)+1) (gR s.sp.up (gi s.sp.wa (k+1) - gi s.sp.wa k)) (gR s.sp.up (gi s.sp.wa (k+1) - gi s.sp.wa k)) s.sp.src=upL s.sp i k by unfold upL;rw [if_pos ak,hu,hu2];rfl,List.append_assoc,←hsucc] at hO3
   refine .nil ?_
   refine nB ?_
   exact ⟨H2,_,HLe.refl _,hs,_,_,rfl,hO3⟩
  ·refine .skip ?_
   refine nB ?_
   rw [show upL s.sp i k=[] by unfold upL;rw [if_neg ak],List.append_nil] at hsucc
   exact ⟨H2,_,HLe.refl _,(hs.sb:St H2 w (.blk bm _::en:: .blk b1 _:: .blk b2 _::σf4)),_,_,rfl,by rw [hsucc];exact hO⟩
 ·rintro D H2 σb2 w hle2 ⟨vl,en,rfl,hO⟩ hs
  rw [cQ,show s.sp.many=s.sp.st.length*s.sp.wa.length from rfl,nt _ hsm.2.2.1] at hO
  refine nB ?_
  exact Fin.Fj [D] [] hs fun w hs=>⟨_,results0 Tryz.results192,H2,vl,en,hle1.trans hle2,hO,(hs.sb:St H2 w (.blk bm _::en::σ))⟩
theorem oL{s:Srv}{ts:List TD}{vst vwa vr vc vt vl:Value}{en:Ent}{bm:Nat}{ls:List Lim}(hs:St H w (.blk bm [I s.sp.id,I s.sp.src,vst,vwa,I s.sp.al,I s.sp.up,vr,vc,vt,vl]::en::σ))(hk:MkK H s ts vst vwa vr vc vt)(hO:cM 4 vl (iT ls) en)(hl:ls.length≤10000)(hok:dh s.sp)(htl:ts.length≤100):
  Cl Tryz.prog 193 [.pointer (some ⟨bm,0,none⟩)] w fun _ w'=>∃H1 vl' en',HLe H H1∧cM 4 vl' (iT (ls++yK s.sp ts.length)) en'∧St H1 w' (.blk bm [I s.sp.id,I s.sp.src,vst,vwa,I s.sp.al,I s.sp.up,vr,vc,vt,vl']::en'::σ):=by
 have hsm:=er hok
 obtain ⟨at_,ct,rfl⟩:=RTd.shape hk.ts
 refine Cl.o Tryz.func193 Tryz.ntmps193 ag1 ?_
 refine .ai (.z zm (.z znc (.z (zfa dI) (.y hs (zld DW) (.z (dj cg) (.z zm (.nil ?_)))))))
 refine .for (N:=ts.length) (J:=fun j fr w=>fr=[(0,.pointer (some ⟨bm,0,none⟩))]∧∃vl en,cM 4 vl (iT (ls++yK s.sp j)) en∧St H w (.blk bm [I s.sp.id,I s.sp.src,vst,vwa,I s.sp.al,I s.sp.up,vr,vc,.slice at_ ts.length ct,vl]::en::σ)) ak ?_ ?_ ?_
 ·exact .mk ⟨rfl,vl,en,by show cM 4 vl (iT (ls++[])) en;rw [List.append_nil];exact hO,hs⟩
 ·rintro j fr w hj ⟨rfl,vl,en,hO,hs⟩
  have hel:=fU s.sp j
  obtain ⟨al,ll,cl,rfl,hll⟩:=hO.shape
  refine .block (.ai (.z zm (.z zg (.nil ?_))))
  refine .draw mix rfl hs fun w hs=>?_
  refine .z 0 rfl zm ?_;refine .z 1 rfl zm ?_;refine .z 2 rfl zm ?_;refine .z 4 rfl zm ?_;refine .z 5 rfl znc ?_;refine .z 6 rfl (zfa bX) ?_;refine .z 7 rfl (zfa bq) ?_;refine .z 8 rfl (zfa e8) ?_;refine .y 9 rfl hs af ?_
  refine .E 3 hs ?_
  refine .call Tryz.call244 rfl (ic (s:=s.sp) hs .here hk.st hk.wa ⟨ak,ak⟩ ⟨ak,ak⟩) ?_;rintro _ w ⟨rfl,hs⟩
  refine .go ?_
  refine .E 10 hs ?_
  refine .call yF rfl (eA (ls:=ls++yK s.sp j) hs hO (by rw [List.length_append];omega)) ?_;rintro _ w ⟨vl3,en3,hO3,hs⟩
  rw [show (s.sp.many:Int)+1+(j:Int)=((s.sp.many+1+j:Nat):Int) by omega,List.append_assoc] at hO3
  refine .go ?_
  refine .D hs ?_
  refine nB (nT ?_)
  exact .mk ⟨rfl,vl3,en3,hO3,hs⟩
 ·rintro fr w ⟨rfl,vl,en,hO,hs⟩
  exact Fin.uY Tryz.results193 ⟨H,vl,en,HLe.refl _,hO,hs⟩
set_option maxHeartbeats 1000000 in
theorem mF{s:Srv}{ts:List TD}{vst vwa vr vc vt vl:Value}{en:Ent}{bm:Nat}{ls:List Lim}(hs:St H w (.blk bm [I s.sp.id,I s.sp.src,vst,vwa,I s.sp.al,I s.sp.up,vr,vc,vt,vl]::en::σ))(hk:MkK H s ts vst vwa vr vc vt)(hO:cM 4 vl (iT ls) en)(hl:ls.length≤10000)(hok:dh s.sp)(htl:ts.length≤100)(hcl:s.cs.length≤20)(hc:∀c∈s.cs,vC c){j0:Nat}(hj0:j0≤ts.length):
  Cl Tryz.prog 245 [.pointer (some ⟨bm,0,none⟩),I (j0:Int)] w fun _ w'=>∃H1 vl' en',HLe H H1∧cM 4 vl' (iT (ls++rH s.sp ts s.cs j0 s.cs.length)) en'∧St H1 w' (.blk bm [I s.sp.id,I s.sp.src,vst,vwa,I s.sp.al,I s.sp.up,vr,vc,vt,vl']::en'::σ):=by
 have hsm:=er hok
 obtain ⟨at_,ct,rfl⟩:=RTd.shape hk.ts
 obtain ⟨ac,cc,rfl⟩:=RCm.shape hk.cs
 refine Cl.o Tryz.func245 Tryz.ntmps245 ag2 ?_
 refine .ai (.z zm (.z znc (.z (zfa bX) (.z (zfa ik) (.y hs (zld Tryz.isAgg50) (.z (dj iE) (.z zm (.nil ?_))))))))
 refine .for (N:=s.cs.length) (J:=fun i fr w=>fr=[(12,.slice ac s.cs.length cc),(0,.pointer (some ⟨bm,0,none⟩)),(1,I (j0:Int))]∧∃vl en,cM 4 vl (iT (ls++rH s.sp ts s.cs j0 i)) en∧St H w (.blk bm [I s.sp.id,I s.sp.src,vst,vwa,I s.sp.al,I s.sp.up,vr,.slice ac s.cs.length cc,.slice at_ ts.length ct,vl]::en::σ)) ak ?_ ?_ ?_
 ·exact .mk ⟨rfl,vl,en,by show cM 4 vl (iT (ls++[])) en;rw [List.append_nil];exact hO,hs⟩
 ·rintro i fr w hi ⟨rfl,vl,en,hO,hs⟩
  obtain ⟨c,hx⟩:=nth hi
  obtain ⟨g1,g2,g3,g4,g5,g6⟩:=hc c (List.mem_of_getElem? hx)
  have hcl1:=jA s.sp ts s.cs j0 i
  have hcl2:i*(2*(ts.length - j0))≤20*(2*100):=Nat.mul_le_mul ak ak
  refine .block (.ai ?_)
  refine .ixX (enc:=Cmp.c) hs hk.cs rfl rfl iE iC hx dn ?_;intro b16 o16 hc16
  refine .q hs (bL (vs:=(Cmp.c c)) rfl Tryz.isAgg153 iC hc16) ?_
  refine .o (.alloc hs Gl rfl fun b5 w hs=>?_)
  refine .o (.aF (vs:=c.c) hs rfl rfl iC fun w hs=>?_)
  replace hs:St H w (.blk bm [I s.sp.id,I s.sp.src,vst,vwa,I s.sp.al,I s.sp.up,vr,.slice ac s.cs.length cc,.slice at_ ts.length ct,vl]::en:: .blk b5 [I c.src,I c.tape,I c.fr,I c.to,I c.lo,I c.hi]::σ):=hs.sb
  refine .nil (.ai (.z zm (.z zg (.nil (.block ?_)))))
  refine .loop (fun j:Nat=>⟨62,[],[(6,I ((j0+j:Nat):Int)),(5,.pointer (some ⟨b5,0,none⟩)),(14,I (i:Int)),(13,I (s.cs.length:Int)),(12,.slice ac s.cs.length cc),(0,.pointer (some ⟨bm,0,none⟩)),(1,I (j0:Int))]⟩)
   (fun j w=>j0+j≤ts.length∧∃vl en,cM 4 vl (iT (ls++rH s.sp ts s.cs j0 i++iw s.sp ts c j0 j)) en∧St H w (.blk bm [I s.sp.id,I s.sp.src,vst,vwa,I s.sp.al,I s.sp.up,vr,.slice ac s.cs.length cc,.slice at_ ts.length ct,vl]::en:: .blk b5 [I c.src,I c.tape,I c.fr,I c.to,I c.lo,I c.hi]::σ)) (fun j=>ts.length - (j0+j)) 0 cn
   ⟨ak,vl,en,by show cM 4 vl (iT (_++[])) en;rw [List.append_nil];exact hO,hs⟩ ?_
  clear hO hs
  rintro j w ⟨hj,vl,en,hO,hs⟩
  have hl1:=kP s.sp ts c j0 j
  obtain ⟨al,ll,cl,rfl,hll⟩:=hO.shape
  refine .seq (.ai (.z zm (.z zm (.z znc (.z (zfa dI) (.y hs (zld DW) (.z (dj cg) (.z mT (.nil ?_)))))))))
  refine (.cz rfl (fun hc25=>?_) (fun hc25=>?_))
  ·refine .skip ?_
   refine nT ?_
   refine .seq (.block (.ai (.z zm (.z znc (.z (zfa dI) (.y hs (zld DW) (.z zm ?_)))))))
   obtain ⟨t,ht⟩:=nth (l:=ts) (k:=j0+j) ak
   have ht0:=D1 ht
   refine .ixX (enc:=TD.c) hs hk.ts rfl rfl cg da ht dn ?_;intro b33 o33 hc33
   refine .q hs (bL (vs:=(TD.c t)) rfl vJ da hc33) ?_
   refine .o (.alloc hs tX rfl fun b7 w hs=>?_)
   refine .o (.aF (vs:=t.c) hs rfl rfl da fun w hs=>?_)
   change St _ _ (.blk b7 [I t.tape,I t.day]::_) at hs
   refine .nil (.ai (.z (zfa pP) (.y hs (zld af) (.z (zfa jX) (.y hs (zld af) (.z jH (.z zm ?_)))))))
   refine .gW (t':=40) rfl (fun hb40=>?_) (fun hb40=>?_)
   ·refine .gT rfl rfl ?_
    refine .z (zfa pO) ?_
    refine .gT rfl rfl ?_
    refine .y hs (zld af) ?_
    refine .gT rfl rfl ?_
    refine .z (zfa jW) ?_
    refine .gT rfl rfl ?_
    refine .y hs (zld af) ?_
    refine .gT rfl rfl ?_
    refine .z (zfa gI) ?_
    refine .gT rfl rfl ?_
    refine .y hs (zld af) ?_
    refine .gT rfl rfl ?_
    refine .o (.call cq rfl (aK hs) ?_);rintro _ w ⟨rfl,hs⟩
    refine .z zpT (.nil ?_)
    refine (.cond rfl (fun hc48=>?_) (fun hc48=>?_))
    ·refine .draw mix rfl hs fun w hs=>?_
     refine .z 0 rfl zm ?_;refine .z 1 rfl zm ?_;refine .z 2 rfl zm ?_;refine .z 4 rfl (zfa jV) ?_;refine .y 5 rfl hs af ?_;refine .z 6 rfl Cj ?_;refine .z 7 rfl (zfa gH) ?_;refine .y 8 rfl hs af ?_;refine .z 9 rfl (zfa jY) ?_;refine .y 10 rfl hs af ?_
     refine .E 3 hs ?_
     refine .call Tryz.call244 rfl (ic (s:=s.sp) hs (.there .here) hk.st hk.wa ⟨ak,ak⟩ ⟨ak,ak⟩) ?_;rintro _ w ⟨rfl,hs⟩
     refine .go ?_
     refine .E 11 hs ?_
     refine .call yF rfl (eA (ls:=ls++rH s.sp ts s.cs j0 i++iw s.sp ts c j0 j) (hs.tail:St H w (.blk bm _::en:: .blk b5 _::σ)) hO (by rw [List.length_append,List.length_append];omega)) ?_;rintro _ w ⟨vl3,en3,hO3,hs⟩
     refine .go ?_
     refine .D hs ?_
     refine nB (nT ?_)
     refine .region (.z zm (.z eh (.z zg (.nil ?_))))
     refine nT ?_
     have e:iw s.sp ts c j0 (j+1)=iw s.sp ts c j0 j++two 0 ((s.sp.many:Int)+1+((j0+j:Nat):Int)) (-c.lo) c.hi c.src:=by
      show _++mg c (td0 ts (j0+j)) _=_
      rw [ht0];unfold mg;rw [if_pos (by simp at hc48;omega)]
      rw [show ((s.sp.many+1+(j0+j):Nat):Int)=(s.sp.many:Int)+1+((j0+j:Nat):Int) by omega]
     rw [List.append_assoc _ (iw _ _ _ _ _),←e] at hO3
     exact ⟨j+1,.fN rfl (by simp;omega) cn,⟨ak,vl3,en3,hO3,hs⟩,ak⟩
    ·refine .skip ?_
     refine nB (nT ?_)
     refine .region (.z zm (.z eh (.z zg (.nil ?_))))
     refine nT ?_
     have e:iw s.sp ts c j0 (j+1)=iw s.sp ts c j0 j:=by
      show _++mg c (td0 ts (j0+j)) _=_
      rw [ht0];unfold mg;rw [if_neg (by simp at hc48;omega),List.append_nil]
     exact ⟨j+1,.fN rfl (by simp;omega) cn,⟨ak,_,en,by rw [e];exact hO,hs.tail⟩,ak⟩
   ·refine .gFs 7 5 true rfl rfl rfl ?_
    refine .z zpF (.nil ?_)
    refine (.cF ?_)
    refine .skip ?_
    refine nB (nT ?_)
    refine .region (.z zm (.z eh (.z zg (.nil ?_))))
    refine nT ?_
    have e:iw s.sp ts c j0 (j+1)=iw s.sp ts c j0 j:=by
     show _++mg c (td0 ts (j0+j)) _=_
     rw [ht0];unfold mg;rw [if_neg ak,List.append_nil]
    exact ⟨j+1,.fN rfl (by simp;omega) cn,⟨ak,_,en,by rw [e];exact hO,hs.tail⟩,ak⟩
  ·refine .exit ?_
   refine xT (xT (xB (nB (nT ?_))))
   obtain rfl:j=ts.length - j0:=by omega
   rw [List.append_assoc,show rH s.sp ts s.cs j0 i++iw s.sp ts c j0 (ts.length - j0)=rH s.sp ts s.cs j0 (i+1) by rw [←Dh hx];rfl] at hO
   exact .mk ⟨rfl,_,en,hO,hs.sb⟩
 ·rintro fr w ⟨rfl,vl,en,hO,hs⟩
  exact Fin.uY Tryz.results245 ⟨H,vl,en,HLe.refl _,hO,hs⟩
theorem ki{s:Srv}{ts:List TD}{vst vwa vr vc vt vl:Value}{en:Ent}{bm:Nat}{ls:List Lim}(hs:St H w (.blk bm [I s.sp.id,I s.sp.src,vst,vwa,I s.sp.al,I s.sp.up,vr,vc,vt,vl]::en::σ))(hk:MkK H s ts vst vwa vr vc vt)(hO:cM 4 vl (iT ls) en)(hl:ls.length≤10000)(hok:dh s.sp)(htl:ts.length≤100)(hcl:s.cs.length≤20)(hc:∀c∈s.cs,vC c):
  Cl Tryz.prog 194 [.pointer (some ⟨bm,0,none⟩)] w fun _ w'=>∃H1 vl' en',HLe H H1∧cM 4 vl' (iT (ls++rH s.sp ts s.cs 0 s.cs.length)) en'∧St H1 w' (.blk bm [I s.sp.id,I s.sp.src,vst,vwa,I s.sp.al,I s.sp.up,vr,vc,vt,vl']::en'::σ):=by
 refine Cl.o Tryz.func194 Tryz.ntmps194 ag1 ?_
 refine .region (.z zm ?_)
 refine .o (.call Tryz.call245 rfl (mF (s:=s) (ts:=ts) (j0:=0) hs hk hO hl hok htl hcl hc ak) ?_);rintro _ w hs
 refine .nil ?_
 exact Fin.uY Tryz.results194 hs
set_option maxHeartbeats 1000000 in
theorem mE{s:Srv}{ts:List TD}{vst vwa vr vc vt vl:Value}{en:Ent}{bm:Nat}{ls:List Lim}(hs:St H w (.blk bm [I s.sp.id,I s.sp.src,vst,vwa,I s.sp.al,I s.sp.up,vr,vc,vt,vl]::en::σ))(hk:MkK H s ts vst vwa vr vc vt)(hO:cM 4 vl (iT ls) en)(hl:ls.length≤10000)(hok:dh s.sp)(htl:ts.length≤100)(hrl:s.rs.length≤60)(hr:∀r∈s.rs,iz s.sp r)(hmem:∀r∈s.rs,r.td∈ts):
  Cl Tryz.prog 195 [.pointer (some ⟨bm,0,none⟩)] w fun _ w'=>∃H1 vl' en',HLe H H1∧cM 4 vl' (iT (ls++xa s.sp ts s.rs s.rs.length)) en'∧St H1 w' (.blk bm [I s.sp.id,I s.sp.src,vst,vwa,I s.sp.al,I s.sp.up,vr,vc,vt,vl']::en'::σ):=by
 have hsm:=er hok
 obtain ⟨at_,ct,rfl⟩:=RTd.shape hk.ts
 obtain ⟨ar,cr,rfl⟩:=RRd.shape hk.rs
 refine Cl.o Tryz.func195 Tryz.ntmps195 ag1 ?_
 refine .ai (.z zm (.z znc (.z (zfa bX) (.z (zfa fI) (.y hs (zld Tryz.isAgg49) (.z (dj dZ) (.z zm (.nil ?_))))))))
 refine .for (N:=s.rs.length) (J:=fun i fr w=>fr=[(9,.slice ar s.rs.length cr),(0,.pointer (some ⟨bm,0,none⟩))]∧∃vl en,cM 4 vl (iT (ls++xa s.sp ts s.rs i)) en∧St H w (.blk bm [I s.sp.id,I s.sp.src,vst,vwa,I s.sp.al,I s.sp.up,.slice ar s.rs.length cr,vc,.slice at_ ts.length ct,vl]::en::σ)) ak ?_ ?_ ?_
 ·exact .mk ⟨rfl,vl,en,by show cM 4 vl (iT (ls++[])) en;rw [List.append_nil];exact hO,hs⟩
 ·rintro i fr w hi ⟨rfl,vl,en,hO,hs⟩
  obtain ⟨r,hx⟩:=nth hi
  obtain ⟨g1,g2,g3,g4,g5,g6,g7⟩:=hr r (List.mem_of_getElem? hx)
  obtain ⟨k,k1,k2,k3⟩:=fD (hmem r (List.mem_of_getElem? hx))
  have hrl1:=fR s.sp ts s.rs i
  obtain ⟨al,ll,cl,rfl,hll⟩:=hO.shape
  refine .block (.ai ?_)
  refine .ixX (enc:=Rdg.c) hs hk.rs rfl rfl dZ cS hx dn ?_;intro b13 o13 hc13
  refine .q hs (bL (vs:=(Rdg.c r)) rfl oh cS hc13) ?_
  refine .o (.alloc hs tZ rfl fun b3 w hs=>?_)
  refine .o (.aF (vs:=r.c) hs rfl rfl cS fun w hs=>?_)
  change St _ _ (.blk b3 [I r.src,I r.st,I r.wa,I r.val,I r.tol,I r.tape,I r.day]::_) at hs
  refine .nil ?_
  refine .seq (.draw mix rfl hs fun w hs=>?_)
  refine .z 0 rfl zm ?_;refine .z 1 rfl znc ?_;refine .z 2 rfl (zfa dI) ?_;refine .y 3 rfl hs DW ?_;refine .ys 4 rfl hs [_,_,_,_,_,_,_] oh cS ?_
  refine .E 5 hs ?_
  refine .call Tryz.call241 rfl (fk hs) ?_;rintro _ w ⟨rfl,hs⟩
  refine .go ?_
  refine .E 6 hs ?_
  refine .call Tryz.call246 rfl (qy (t:=r.td) hs hk.ts ak) ?_;rintro _ w ⟨rfl,hs⟩
  refine .go ?_
  refine .z 7 rfl zg ?_;refine .D hs ?_
  refine .draw mix rfl hs fun w hs=>?_
  refine .z 0 rfl zm ?_;refine .z 1 rfl zm ?_;refine .z 2 rfl zm ?_;refine .z 4 rfl zm ?_;refine .z 5 rfl znc ?_;refine .z 6 rfl (zfa bX) ?_;refine .z 7 rfl (zfa bq) ?_;refine .ys 8 rfl hs [_,_,_,_,_,_] bE aR ?_;refine .z 9 rfl (zfa jT) ?_;refine .y 10 rfl hs af ?_
  refine .z 11 rfl (zfa jS) ?_;refine .y 12 rfl hs af ?_;refine .z 14 rfl (zfa gG) ?_;refine .y 15 rfl hs af ?_;refine .z 16 rfl (zfa fg) ?_;refine .y 17 rfl hs af ?_;refine .z 18 rfl eh ?_;refine .z 19 rfl (zfa fg) ?_;refine .y 20 rfl hs af ?_;refine .z 21 rfl (zfa gG) ?_
  refine .y 22 rfl hs af ?_;refine .z 23 rfl gC ?_;refine .z 24 rfl (zfa jU) ?_;refine .y 25 rfl hs af ?_
  refine .E 3 hs ?_
  refine .call Tryz.call244 rfl (ic (s:=s.sp) hs (.there .here) hk.st hk.wa ⟨ak,ak⟩ ⟨ak,ak⟩) ?_;rintro _ w ⟨rfl,hs⟩
  refine .go ?_
  refine .E 13 hs ?_
  refine .call Tryz.call247 rfl (lz (s:=s.sp) hs hk.wa ak ⟨ak,ak⟩ ⟨ak,ak⟩) ?_;rintro _ w ⟨rfl,hs⟩
  refine .go ?_
  refine .E 26 hs ?_
  refine .call yF rfl (eA (ls:=ls++xa s.sp ts s.rs i) (hs.sb:St H w (.blk bm _::en:: .blk b3 _::σ)) hO (by rw [List.length_append];omega)) ?_;rintro _ w ⟨vl3,en3,hO3,hs⟩
  refine .go ?_
  refine .D hs ?_
  refine nB (nT ?_)
  rw [List.append_assoc,show xa s.sp ts s.rs i++two ((s.sp.many:Int)+1+mi ts r.td) (1+r.st*s.sp.wa.length+r.wa) (r.val+r.tol) (r.tol - r.val) r.src=xa s.sp ts s.rs (i+1) by rw [←CT hx];rfl] at hO3
  exact .mk ⟨rfl,vl3,en3,hO3,hs.sb⟩
 ·rintro fr w ⟨rfl,vl,en,hO,hs⟩
  exact Fin.uY Tryz.results195 ⟨H,vl,en,HLe.refl _,hO,hs⟩
def fnK:Nat→Nat
 |0=>190
 |1=>191
 |2=>192
 |3=>193
 |4=>194
 |_=>195
theorem B0{k:Nat}(hk:k<6):∀args w,(callFunc (fnK k) args).run Tryz.prog w= .ok (.enter (fnK k) args) w:=by
 have h:k=0∨k=1∨k=2∨k=3∨k=4∨k=5:=by omega
 rcases h with rfl|rfl|rfl|rfl|rfl|rfl
 ·exact Tryz.call190
 ·exact Tryz.call191
 ·exact Tryz.call192
 ·exact Tryz.call193
 ·exact Tryz.call194
 ·exact Tryz.call195
theorem zH{s:Srv}{vst vwa vr vc vt vl:Value}{en:Ent}{bm k:Nat}(hs:St H w (.blk bm [I s.sp.id,I s.sp.src,vst,vwa,I s.sp.al,I s.sp.up,vr,vc,vt,vl]::en::σ))(hk:MkK H s s.aZ vst vwa vr vc vt)(hO:cM 4 vl (iT (s.parts k)) en)(he:s.early)(hk6:k<6):
  Cl Tryz.prog (fnK k) [.pointer (some ⟨bm,0,none⟩)] w fun _ w'=>∃H1 vl' en',HLe H H1∧cM 4 vl' (iT (s.parts (k+1))) en'∧St H1 w' (.blk bm [I s.sp.id,I s.sp.src,vst,vwa,I s.sp.al,I s.sp.up,vr,vc,vt,vl']::en'::σ):=by
 have hl:=ky he k ak
 obtain ⟨hok,h1,h2,h3,h4⟩:=he
 have htl:s.aZ.length≤100:=by have:=ez s.rs;unfold Srv.aZ;omega
 have h:k=0∨k=1∨k=2∨k=3∨k=4∨k=5:=by omega
 rcases h with rfl|rfl|rfl|rfl|rfl|rfl
 ·exact mG hs hk hO (Nat.le_trans hl dX) hok
 ·exact pN hs hk hO (Nat.le_trans hl dX) hok
 ·exact te hs hk hO (Nat.le_trans hl dX) hok
 ·exact oL hs hk hO (Nat.le_trans hl dX) hok htl
 ·exact ki hs hk hO (Nat.le_trans hl dX) hok htl h2 h4
 ·exact mE hs hk hO (Nat.le_trans hl dX) hok htl h1 h3 fun r hr=>eL.2 ⟨r,hr,rfl⟩
def fnV(b:Nat)(k:Nat):Value:= .func (.func (fnK k)) #[.pointer (some ⟨b,0,none⟩)] #[]
theorem C8(b:Nat){k:Nat}(hk:k<6):[fnV b 0,fnV b 1,fnV b 2,fnV b 3,fnV b 4,fnV b 5][k]? =some (fnV b k):=by
 have h:k=0∨k=1∨k=2∨k=3∨k=4∨k=5:=by omega
 rcases h with rfl|rfl|rfl|rfl|rfl|rfl<;>rfl
set_option maxHeartbeats 1000000 in
theorem nk{s:Srv}{vst vwa vr vc:Value}(hs:St H w σ)(h1:RI H vst s.sp.st)(h2:RI H vwa s.sp.wa)(h3:RRd H vr s.rs)(h4:RCm H vc s.cs)(he:s.early):
  Cl Tryz.prog 133 [.agg #[I s.sp.id,I s.sp.src,vst,vwa,I s.sp.al,I s.sp.up,vr,vc]] w fun u w'=>∃H1 vl en,HLe H H1∧u= .agg #[I s.sys.many,vl]∧cM 4 vl (iT s.bu) en∧St H1 w' (en::σ):=by
 have hsm:=er he.1
 have htl:s.aZ.length≤60:=by have:=ez s.rs;have:=he.2.1;unfold Srv.aZ;omega
 refine Cl.o Tryz.func133 Tryz.ntmps133 ag1 ?_
 refine .ai ?_
 refine .bx hs fun b1 w hs=>?_
 refine .o (.alloc hs ek rfl fun b2 w hs=>?_)
 refine .nil ?_
 refine .seq (.draw mix rfl hs fun w hs=>?_)
 refine .ys 0 rfl hs [_,_,_,_,_,_,_,_] aO aC ?_;refine .ys 1 rfl hs [_,_,_,_,_,_,_,_] aO aC ?_
 refine .E 2 hs ?_
 refine .call Tryz.call189 rfl (nj hs h3 (by have:=he.2.1;omega)) ?_;rintro v8 w ⟨H1,hle1,hT,hs⟩
 obtain ⟨at_,ct,rfl⟩:=RTd.shape hT
 have hk0:MkK H1 s s.aZ vst vwa vr vc (.slice at_ s.aZ.length ct):=⟨h1.mono hle1,h2.mono hle1,h3.mono hle1,h4.mono hle1,hT⟩
 refine .go ?_
 refine .z 3 rfl (zbd (vs:=[(0,.agg #[I s.sp.id,I s.sp.src,vst,vwa,I s.sp.al,I s.sp.up,vr,vc]),(1,.slice at_ s.aZ.length ct)]) [I s.sp.id,I s.sp.src,vst,vwa,I s.sp.al,I s.sp.up,vr,vc,.slice at_ s.aZ.length ct,.slice none 0 0] oV rfl aq) ?_
 refine .E 4 hs ?_
 refine .box hs rfl rfl ?_;intro b10 w hs
 refine .go ?_
 refine .z 5 rfl zg ?_;refine .D hs ?_
 refine .seq (.ai (.z zm ?_))
 refine .q hs (bR (f:=[_]) (c:=[]) rfl rfl) ?_
 refine .z zm ?_
 refine .q hs (bR (f:=[_]) (c:=[]) rfl rfl) ?_
 refine .z zm ?_
 refine .q hs (bR (f:=[_]) (c:=[]) rfl rfl) ?_
 refine .z zm ?_
 refine .q hs (bR (f:=[_]) (c:=[]) rfl rfl) ?_
 refine .z zm ?_
 refine .q hs (bR (f:=[_]) (c:=[]) rfl rfl) ?_
 refine .z zm ?_
 refine .q hs (bR (f:=[_]) (c:=[]) rfl rfl) ?_
 refine .o (.buildSlice (cells:=[fnV b10 0,fnV b10 1,fnV b10 2,fnV b10 3,fnV b10 4,fnV b10 5]) hs tA rfl aq fun b23 w hs=>?_)
 refine .z (dj Tryz.runUnderlying247) ?_
 refine .z zm (.nil ?_)
 refine .for (N:=6) (J:=fun k fr w=>fr=[(23,.slice (some ⟨b23,0,none⟩) 6 6),(3,.pointer (some ⟨b10,0,none⟩)),(2,.pointer (some ⟨b2,0,none⟩)),(1,.pointer (some ⟨b1,0,none⟩))]∧∃H2 vl en,HLe H1 H2∧cM 4 vl (iT (s.parts k)) en∧St H2 w (.blk b10 [I s.sp.id,I s.sp.src,vst,vwa,I s.sp.al,I s.sp.up,vr,vc,.slice at_ s.aZ.length ct,vl]::en:: .blk b23 [fnV b10 0,fnV b10 1,fnV b10 2,fnV b10 3,fnV b10 4,fnV b10 5]:: .blk b2 [I 0,.slice none 0 0]:: .blk b1 [I s.sp.id,I s.sp.src,vst,vwa,I s.sp.al,I s.sp.up,vr,vc]::σ)) ak ?_ ?_ ?_
 ·exact .mk ⟨rfl,H1,.slice none 0 0,.nul,HLe.refl _,.nil 4 none,hs.nul.sb⟩
 ·rintro k fr w hk ⟨rfl,H2,vl,en,hle2,hO,hs⟩
  refine .block (.ai ?_)
  refine .z (zix Tryz.runUnderlying247 Tryz.sizeOf1) ?_
  refine .q hs (hZ rfl Tryz.isAgg1 (hv:=C8 b10 hk)) ?_
  refine .z zg (.nil (.region (.z zm ?_)))
  refine .o (.lG (first:=[.pointer (some ⟨b10,0,none⟩)]) (cap:=[]) rfl rfl (B0 hk) (zH hs (hk0.mono hle2) hO he hk) ?_);rintro _ w ⟨H3,vl3,en3,hle3,hO3,hs⟩
  refine .nil ?_
  refine nB (nT ?_)
  exact .mk ⟨rfl,H3,vl3,en3,hle2.trans hle3,hO3,hs⟩
 ·rintro fr w ⟨rfl,H2,vl,en,hle2,hO,hs⟩
  rw [s.wi] at hO
  obtain ⟨al,ll,cl,rfl,hll⟩:=hO.shape
  refine nT ?_
  refine .seq (.draw mix rfl hs fun w hs=>?_)
  refine .z 0 rfl (zfa bq) ?_;refine .ys 1 rfl hs [_,_,_,_,_,_] bE aR ?_;refine .z 3 rfl zm ?_;refine .z 4 rfl znc ?_;refine .z 5 rfl (zfa dI) ?_;refine .y 6 rfl hs DW ?_;refine .z 7 rfl (dj cg) ?_;refine .z 9 rfl zm ?_;refine .z 10 rfl znc ?_;refine .z 11 rfl (zfa fF) ?_
  refine .y 12 rfl hs dc ?_
  refine .E 2 hs ?_
  refine .call Tryz.call196 rfl (jf (s:=s.sp) hs (h1.mono (hle1.trans hle2)) (h2.mono (hle1.trans hle2)) ⟨ak,ak⟩) ?_;rintro _ w ⟨rfl,hs⟩
  refine .go ?_
  refine .z 8 rfl eh ?_;refine .z 13 rfl (zbd [_,_] l6) ?_
  refine .E 14 hs ?_
  refine .aF (vs:=[_,_]) hs rfl rfl aA ?_;intro w hs
  refine .go ?_
  refine .D hs ?_
  refine .ret ?_
  replace hs:St H2 w (.blk b2 [I ((s.sp.many:Int)+(s.aZ.length:Int)),.slice al ll cl]::en::σ):=hs.sb
  exact Fin.gD [] [] hs fun w hs=>⟨_,results1 Tryz.results133 (dr (vs:=[_,_]) hs rfl aV aA),H2,_,en,hle1.trans hle2,by show _=Value.agg #[I ((s.sp.many+s.aZ.length:Nat):Int),_];rw [Int.natCast_add],hO,hs.tail⟩
theorem dv{s:Srv}{vst vwa vr vc:Value}(hs:St H w σ)(h1:RI H vst s.sp.st)(h2:RI H vwa s.sp.wa)(h3:RRd H vr s.rs)(h4:RCm H vc s.cs)(he:s.early):
  Cl Tryz.prog 133 [.agg #[I s.sp.id,I s.sp.src,vst,vwa,I s.sp.al,I s.sp.up,vr,vc]] w fun u w'=>∃H1,HLe H H1∧RSy H1 u s.sys∧St H1 w' σ:=by
 refine (nk hs h1 h2 h3 h4 he).mono ?_
 rintro u w' ⟨H1,vl,en,hle,rfl,hO,hs⟩
 have hl:=ky he 6 ak
 rw [s.wi] at hl
 obtain ⟨H2,hle2,hR,hs⟩:=cM.bY (m:=4) (cs:=s.bu.map Lim.c) hO (fun c hc=>by simp only [List.mem_map] at hc;obtain ⟨x,_,rfl⟩:=hc;rfl) ak (by rw [List.length_map];omega) hs .here
 exact ⟨H2,hle.trans hle2,⟨vl,rfl,hR⟩,hs⟩
set_option maxHeartbeats 1000000 in
theorem dH{s:Srv}{vst vwa vr vc:Value}(hs:St H w σ)(h1:RI H vst s.sp.st)(h2:RI H vwa s.sp.wa)(h3:RRd H vr s.rs)(h4:RCm H vc s.cs):
  Cl Tryz.prog 117 [.agg #[I s.sp.id,I s.sp.src,vst,vwa,I s.sp.al,I s.sp.up,vr,vc]] w fun u w'=>∃H1 e,HLe H H1∧u=I e∧pq s e∧St H1 w' σ:=by
 obtain ⟨ast,cst,rfl⟩:=RI.shape h1
 obtain ⟨awa,cwa,rfl⟩:=RI.shape h2
 obtain ⟨ar,cr,rfl⟩:=RRd.shape h3
 obtain ⟨ac,cc,rfl⟩:=RCm.shape h4
 refine Cl.o Tryz.func117 Tryz.ntmps117 ag1 ?_
 refine .ai ?_
 refine .bx hs fun b1 w hs=>?_
 refine .z zg (.nil (.seq (.ai (.z (zfa bq) (.y hs (zls [_,_,_,_,_,_] bE aR) ?_)))))
 refine .o (.call Tryz.call111 rfl (fE (s:=s.sp) hs h1 h2) ?_);rintro _ w ⟨H1,e,hle1,rfl,he,hs⟩
 refine .z zg (.nil (.ai (.z zm (.z ja (.nil ?_)))))
 refine (.eS rfl (fun hc13=>?_) (fun hc13=>?_))
 ·refine .ai (.z zm (.z zg (.nil ?_)))
  refine .ret (rT (Fin.aU gL rfl ?_))
  have hq:¬dh s.sp∧e=30:=he.resolve_left fun h=>hc13 h.2
  exact ⟨H1,_,hle1,rfl,by rw [hq.2];exact .space hq.1,hs.out⟩
 ·refine .skip ?_
  refine nT ?_
  refine .seq (.ai (.z (zfa fI) ?_))
  have hok:dh s.sp:=(he.resolve_right fun h=>by omega).1
  refine .y hs (zld Tryz.isAgg49) (.z (dj dZ) (.z oa (.z zm ?_)))
  refine .gW (t':=19) rfl (fun hb19=>?_) (fun hb19=>?_)
  ·refine .gFs 4 4 false rfl rfl rfl ?_
   refine .z zpT (.nil ?_)
   refine (.cT ?_)
   refine .ai (.z zg (.nil ?_))
   refine .ret (rT (Fin.aU gL rfl ?_))
   exact ⟨H1,_,hle1,rfl,.long hok ak,hs.out⟩
  ·refine .gT rfl rfl ?_
   refine .z (zfa ik) ?_
   refine .gT rfl rfl ?_
   refine .y hs (zld Tryz.isAgg50) ?_
   refine .gT rfl rfl ?_
   refine .z (dj iE) ?_
   refine .gT rfl rfl ?_
   refine .z oa (.z zpF (.nil ?_))
   refine (.cz rfl (fun hc24=>?_) (fun hc24=>?_))
   ·refine .ai (.z zg (.nil ?_))
    refine .ret (rT (Fin.aU gL rfl ?_))
    exact ⟨H1,_,hle1,rfl,.long hok ak,hs.out⟩
   ·refine .skip ?_
    refine nT ?_
    refine .seq (.ai (.z (zfa fI) (.y hs (zld Tryz.isAgg49) (.z (dj dZ) (.z zm (.nil ?_))))))
    refine .for (N:=s.rs.length) (J:=fun k fr w=>fr=[(26,.slice ar s.rs.length cr),(1,.pointer (some ⟨b1,0,none⟩))]∧(∀j<k,∀y,s.rs[j]? =some y→iz s.sp y)∧St H1 w (.blk b1 [I s.sp.id,I s.sp.src,.slice ast s.sp.st.length cst,.slice awa s.sp.wa.length cwa,I s.sp.al,I s.sp.up,.slice ar s.rs.length cr,.slice ac s.cs.length cc]::σ)) ak ?_ ?_ ?_
    ·exact .mk ⟨rfl,fun j hj=>by omega,hs⟩
    ·rintro k fr w hk ⟨rfl,hno,hs⟩
     obtain ⟨r,hx⟩:=nth hk
     refine .block (.ai ?_)
     refine .ixX (enc:=Rdg.c) hs (h3.mono hle1) rfl rfl dZ cS hx dn ?_;intro b30 o30 hc30
     refine .q hs (bL (vs:=(Rdg.c r)) rfl oh cS hc30) ?_
     refine .o (.alloc hs tZ rfl fun b5 w hs=>?_)
     refine .o (.aF (vs:=r.c) hs rfl rfl cS fun w hs=>?_)
     change St _ _ (.blk b5 [I r.src,I r.st,I r.wa,I r.val,I r.tol,I r.tape,I r.day]::_) at hs
     refine .nil (.ai (.z (zfa bq) (.y hs (zls [_,_,_,_,_,_] bE aR) (.y hs (zls [_,_,_,_,_,_,_] oh cS) ?_))))
     refine .o (.call Tryz.call120 rfl (ke (s:=s.sp) (r:=r) hs (h1.mono hle1) (h2.mono hle1)) ?_);rintro _ w ⟨b35,rfl,hb35,hs⟩
     refine .z eI (.nil ?_)
     refine (.cond rfl (fun hc36=>?_) (fun hc36=>?_))
     ·refine .ai (.z zg (.nil ?_))
      refine .ret (rB (rT (rB (rT (Fin.aU gL rfl ?_)))))
      exact ⟨H1,_,hle1,rfl,.rdg hok ak (fun h=>by rw [hb35.2 (h r (List.mem_of_getElem? hx))] at hc36;cases hc36),hs.out⟩
     ·refine .skip ?_
      refine nB (nT ?_)
      exact .mk ⟨rfl,eo hno hx (hb35.1 (by simpa using hc36)),hs.tail⟩
    ·rintro fr w ⟨rfl,hno,hs⟩
     have hrs:∀r∈s.rs,iz s.sp r:=fun r hr=>by
      obtain ⟨j,hj⟩:=List.getElem?_of_mem hr
      exact hno j (List.getElem?_eq_some_iff.1 hj).1 r hj
     clear hno
     refine nT ?_
     refine .seq (.ai (.z (zfa ik) (.y hs (zld Tryz.isAgg50) (.z (dj iE) (.z zm (.nil ?_))))))
     refine .for (N:=s.cs.length) (J:=fun k fr w=>fr=[(39,.slice ac s.cs.length cc),(1,.pointer (some ⟨b1,0,none⟩))]∧(∀j<k,∀y,s.cs[j]? =some y→vC y)∧St H1 w (.blk b1 [I s.sp.id,I s.sp.src,.slice ast s.sp.st.length cst,.slice awa s.sp.wa.length cwa,I s.sp.al,I s.sp.up,.slice ar s.rs.length cr,.slice ac s.cs.length cc]::σ)) ak ?_ ?_ ?_
     ·exact .mk ⟨rfl,fun j hj=>by omega,hs⟩
     ·rintro k fr w hk ⟨rfl,hno,hs⟩
      obtain ⟨c,hx⟩:=nth hk
      refine .block (.ai ?_)
      refine .ixX (enc:=Cmp.c) hs (h4.mono hle1) rfl rfl iE iC hx dn ?_;intro b43 o43 hc43
      refine .q hs (bL (vs:=(Cmp.c c)) rfl Tryz.isAgg153 iC hc43) ?_
      refine .o (.alloc hs Gl rfl fun b7 w hs=>?_)
      refine .o (.aF (vs:=c.c) hs rfl rfl iC fun w hs=>?_)
      change St _ _ (.blk b7 [I c.src,I c.tape,I c.fr,I c.to,I c.lo,I c.hi]::_) at hs
      refine .nil (.ai (.y hs (zls [_,_,_,_,_,_] Tryz.isAgg153 iC) ?_))
      refine .o (.call Tryz.call170 rfl (kf (c:=c) hs) ?_);rintro _ w ⟨b46,rfl,hb46,hs⟩
      refine .z eI (.nil ?_)
      refine (.cond rfl (fun hc47=>?_) (fun hc47=>?_))
      ·refine .ai (.z zg (.nil ?_))
       refine .ret (rB (rT (rB (rT (Fin.aU gL rfl ?_)))))
       exact ⟨H1,_,hle1,rfl,.cmp hok ak hrs (fun h=>by rw [hb46.2 (h c (List.mem_of_getElem? hx))] at hc47;cases hc47),hs.out⟩
      ·refine .skip ?_
       refine nB (nT ?_)
       exact .mk ⟨rfl,eo hno hx (hb46.1 (by simpa using hc47)),hs.tail⟩
     ·rintro fr w ⟨rfl,hno,hs⟩
      have hcs:∀c∈s.cs,vC c:=fun c hc=>by
       obtain ⟨j,hj⟩:=List.getElem?_of_mem hc
       exact hno j (List.getElem?_eq_some_iff.1 hj).1 c hj
      have hea:s.early:=⟨hok,ak,ak,hrs,hcs⟩
      have hsm:=er hok
      have htl:s.aZ.length≤60:=by have:=ez s.rs;have:=hea.2.1;unfold Srv.aZ;omega
      have hll:=ky hea 6 ak
      rw [s.wi] at hll
      have hsm2:s.sys.many=((s.sp.many+s.aZ.length:Nat):Int):=rfl
      refine nT ?_
      refine .seq (.ai (.y hs (zls [_,_,_,_,_,_,_,_] aO aC) ?_))
      refine .o (.call Gm rfl (dv (s:=s) hs (h1.mono hle1) (h2.mono hle1) (h3.mono hle1) (h4.mono hle1) hea) ?_);rintro _ w ⟨H2,hle2,⟨ul,rfl,hL⟩,hs⟩
      obtain ⟨al,cl,rfl⟩:=RL.shape hL
      have hsl:s.sys.bu.length=s.bu.length:=rfl
      refine .o (.alloc hs ek rfl fun b8 w hs=>?_)
      refine .o (.aF (vs:=[_,_]) hs rfl rfl aA fun w hs=>?_)
      refine .nil (.ai (.z (zfa bG) (.y hs (zld af) (.z oa (.z zm ?_)))))
      refine .gW (t':=54) rfl (fun hb54=>?_) (fun hb54=>?_)
      ·refine .gFs 4 3 false rfl rfl rfl ?_
       refine .z zpT (.nil ?_)
       refine (.cT ?_)
       refine .ai (.z zg (.nil ?_))
       refine .ret (rT (Fin.aU gL rfl ?_))
       exact ⟨H2,_,hle1.trans hle2,rfl,.big hea ak,hs.out⟩
      ·refine .gT rfl rfl ?_
       refine .z (zfa bN) ?_
       refine .gT rfl rfl ?_
       refine .y hs (zld dc) ?_
       refine .gT rfl rfl ?_
       refine .z (dj aH) ?_
       refine .gT rfl rfl ?_
       refine .z oa (.z zpF (.nil ?_))
       refine (.cz rfl (fun hc59=>?_) (fun hc59=>?_))
       ·refine .ai (.z zg (.nil ?_))
        refine .ret (rT (Fin.aU gL rfl ?_))
        exact ⟨H2,_,hle1.trans hle2,rfl,.big hea ak,hs.out⟩
       ·refine .skip ?_
        refine nT ?_
        refine .ai (.z zg (.nil ?_))
        refine .ret (Fin.aU gL rfl ?_)
        exact ⟨H2,_,hle1.trans hle2,rfl,.ok hea ⟨ak,ak⟩,hs.out⟩
end Go.Proofs.YteajddicacjkhaaGreat
namespace Go.Proofs.YteajddicacjkhaaGreat
open Go.MW
theorem CP{s:Spc}(h:dh s):eW 9 100000 s.wa:=⟨h.wa.two,by have:=h.wa.many;omega,h.wa.low,by have:=h.wa.high;omega,h.wa.rise⟩
end Go.Proofs.YteajddicacjkhaaGreat
namespace Go.Proofs.YteajddicacjkhaaGreat
open Go.MW
variable{H:a8}{w:World}{σ:List Ent}
theorem fQ{s:Spc}{q:Wht}{vst vwa:Value}(hs:St H w σ)(h2:RI H vwa s.wa):
  Cl Tryz.prog 230 [.agg #[I q.kind,I q.st,I q.wa,I s.id,I s.src,vst,vwa,I s.al,I s.up]] w fun v w'=>v= .bool (decide (0≤q.wa∧q.wa≤(s.wa.length:Int) - 1))∧St H w' σ:=by
 obtain ⟨awa,cwa,rfl⟩:=RI.shape h2
 have l2:=(RI.len h2).2.2
 refine Cl.o Tryz.func230 Tryz.ntmps230 ag1 ?_
 refine .ai ?_
 refine .bx hs fun b1 w hs=>?_
 refine .z zg (.nil (.ai (.z (zfa bF) (.z (zfa ee) (.y hs (zld af) (.z (zfa dt) (.z (zfa bA) (.y hs (zld an) (.z (dj ae) ?_)))))))))
 refine .z gC ?_
 refine .o (.call cq rfl (aK hs) ?_);rintro _ w ⟨rfl,hs⟩
 refine .z zg (.nil ?_)
 refine .ret (Fin.aU Tryz.results230 rfl ?_)
 exact ⟨rfl,hs.out⟩
theorem gZ{s:Spc}{q:Wht}{vst vwa:Value}(hs:St H w σ)(h1:RI H vst s.st):
  Cl Tryz.prog 235 [.agg #[I q.kind,I q.st,I q.wa,I s.id,I s.src,vst,vwa,I s.al,I s.up]] w fun v w'=>v= .bool (decide (0≤q.st∧q.st≤(s.st.length:Int) - 1))∧St H w' σ:=by
 obtain ⟨ast,cst,rfl⟩:=RI.shape h1
 have l1:=(RI.len h1).2.2
 refine Cl.o Tryz.func235 Tryz.ntmps235 ag1 ?_
 refine .ai ?_
 refine .bx hs fun b1 w hs=>?_
 refine .z zg (.nil (.ai (.z (zfa bF) (.z (zfa fH) (.y hs (zld af) (.z (zfa dt) (.z (zfa cD) (.y hs (zld an) (.z (dj ae) ?_)))))))))
 refine .z gC ?_
 refine .o (.call cq rfl (aK hs) ?_);rintro _ w ⟨rfl,hs⟩
 refine .z zg (.nil ?_)
 refine .ret (Fin.aU Tryz.results235 rfl ?_)
 exact ⟨rfl,hs.out⟩
theorem om{s:Spc}{q:Wht}:dF s q↔(q.kind=1∧q.st=0∧s.isW q∧0<q.wa)∨(q.kind=2∧q.st=0∧s.isW q)∨(q.kind=3∧q.wa=0∧s.isS q)∨(q.kind=4∧s.isS q∧s.isW q):=by
 constructor
 ·intro h
  cases h with
  |litres a b c d=>exact .inl ⟨a,b,c,d⟩
  |plane a b c=>exact .inr (.inl ⟨a,b,c⟩)
  |section_ a b c=>exact .inr (.inr (.inl ⟨a,b,c⟩))
  |offset a b c=>exact .inr (.inr (.inr ⟨a,b,c⟩))
 ·rintro (⟨a,b,c,d⟩|⟨a,b,c⟩|⟨a,b,c⟩|⟨a,b,c⟩)
  ·exact .litres a b c d
  ·exact .plane a b c
  ·exact .section_ a b c
  ·exact .offset a b c
theorem uL{s:Spc}{q:Wht}{vst vwa:Value}(hs:St H w σ)(h2:RI H vwa s.wa)(hk:q.kind=1):
  Cl Tryz.prog 229 [.agg #[I q.kind,I q.st,I q.wa,I s.id,I s.src,vst,vwa,I s.al,I s.up]] w fun v w'=>∃b:Bool,v= .bool b∧(b=true↔dF s q)∧St H w' σ:=by
 have hi:=om (s:=s) (q:=q)
 simp only [Spc.isW,Spc.isS] at hi
 refine Cl.o Tryz.func229 Tryz.ntmps229 ag1 ?_
 refine .ai ?_
 refine .bx hs fun b1 w hs=>?_
 refine .z zg (.nil (.ai (.y hs (zls [_,_,_,_,_,_,_,_,_] oe iB) ?_)))
 refine .o (.call Tryz.call230 rfl (fQ hs h2) ?_);rintro _ w ⟨rfl,hs⟩
 refine .z zm ?_
 refine .bif (t':=5) rfl (fun hb5=>?_) (fun hb5=>?_)
 ·refine .gT rfl rfl ?_
  refine .z (zfa bF) ?_
  refine .gT rfl rfl ?_
  refine .z (zfa ee) ?_
  refine .gT rfl rfl ?_
  refine .y hs (zld af) ?_
  refine .gT rfl rfl ?_
  refine .z oa (.z zpT (.z zm ?_))
  refine .gW (t':=11) rfl (fun hb11=>?_) (fun hb11=>?_)
  ·refine .gT rfl rfl ?_
   refine .z (zfa bF) ?_
   refine .gT rfl rfl ?_
   refine .z (zfa fH) ?_
   refine .gT rfl rfl ?_
   refine .y hs (zld af) ?_
   refine .gT rfl rfl ?_
   refine .z jH (.z zpT (.z zg (.nil ?_)))
   refine .ret (Fin.aU Tryz.results229 rfl ?_)
   exact ⟨_,rfl,by rw [hi];simp_all<;>omega,hs.out⟩
  ·refine .gFs 4 8 true rfl rfl rfl ?_
   refine .z zpF (.z zg (.nil ?_))
   refine .ret (Fin.aU Tryz.results229 rfl ?_)
   exact ⟨_,rfl,by rw [hi];simp_all<;>omega,hs.out⟩
 ·refine .gFs 4 2 true rfl rfl rfl ?_
  refine .z zpF (.z zm ?_)
  refine .gFs 4 8 true rfl rfl rfl ?_
  refine .z zpF (.z zg (.nil ?_))
  refine .ret (Fin.aU Tryz.results229 rfl ?_)
  exact ⟨_,rfl,by rw [hi];simp_all<;>omega,hs.out⟩
theorem uK{s:Spc}{q:Wht}{vst vwa:Value}(hs:St H w σ)(h2:RI H vwa s.wa)(hk:q.kind=2):
  Cl Tryz.prog 232 [.agg #[I q.kind,I q.st,I q.wa,I s.id,I s.src,vst,vwa,I s.al,I s.up]] w fun v w'=>∃b:Bool,v= .bool b∧(b=true↔dF s q)∧St H w' σ:=by
 have hi:=om (s:=s) (q:=q)
 simp only [Spc.isW,Spc.isS] at hi
 refine Cl.o Tryz.func232 Tryz.ntmps232 ag1 ?_
 refine .ai ?_
 refine .bx hs fun b1 w hs=>?_
 refine .z zg (.nil (.ai (.y hs (zls [_,_,_,_,_,_,_,_,_] oe iB) ?_)))
 refine .o (.call Tryz.call230 rfl (fQ hs h2) ?_);rintro _ w ⟨rfl,hs⟩
 refine .z zm ?_
 refine .bif (t':=5) rfl (fun hb5=>?_) (fun hb5=>?_)
 ·refine .gT rfl rfl ?_
  refine .z (zfa bF) ?_
  refine .gT rfl rfl ?_
  refine .z (zfa fH) ?_
  refine .gT rfl rfl ?_
  refine .y hs (zld af) ?_
  refine .gT rfl rfl ?_
  refine .z jH (.z zpT (.z zg (.nil ?_)))
  refine .ret (Fin.aU Tryz.results232 rfl ?_)
  exact ⟨_,rfl,by rw [hi];simp_all<;>omega,hs.out⟩
 ·refine .gFs 4 2 true rfl rfl rfl ?_
  refine .z zpF (.z zg (.nil ?_))
  refine .ret (Fin.aU Tryz.results232 rfl ?_)
  exact ⟨_,rfl,by rw [hi];simp_all<;>omega,hs.out⟩
theorem uJ{s:Spc}{q:Wht}{vst vwa:Value}(hs:St H w σ)(h1:RI H vst s.st)(hk:q.kind=3):
  Cl Tryz.prog 234 [.agg #[I q.kind,I q.st,I q.wa,I s.id,I s.src,vst,vwa,I s.al,I s.up]] w fun v w'=>∃b:Bool,v= .bool b∧(b=true↔dF s q)∧St H w' σ:=by
 have hi:=om (s:=s) (q:=q)
 simp only [Spc.isW,Spc.isS] at hi
 refine Cl.o Tryz.func234 Tryz.ntmps234 ag1 ?_
 refine .ai ?_
 refine .bx hs fun b1 w hs=>?_
 refine .z zg (.nil (.ai (.y hs (zls [_,_,_,_,_,_,_,_,_] oe iB) ?_)))
 refine .o (.call Tryz.call235 rfl (gZ hs h1) ?_);rintro _ w ⟨rfl,hs⟩
 refine .z zm ?_
 refine .bif (t':=5) rfl (fun hb5=>?_) (fun hb5=>?_)
 ·refine .gT rfl rfl ?_
  refine .z (zfa bF) ?_
  refine .gT rfl rfl ?_
  refine .z (zfa ee) ?_
  refine .gT rfl rfl ?_
  refine .y hs (zld af) ?_
  refine .gT rfl rfl ?_
  refine .z jH (.z zpT (.z zg (.nil ?_)))
  refine .ret (Fin.aU Tryz.results234 rfl ?_)
  exact ⟨_,rfl,by rw [hi];simp_all<;>omega,hs.out⟩
 ·refine .gFs 4 2 true rfl rfl rfl ?_
  refine .z zpF (.z zg (.nil ?_))
  refine .ret (Fin.aU Tryz.results234 rfl ?_)
  exact ⟨_,rfl,by rw [hi];simp_all<;>omega,hs.out⟩
theorem uI{s:Spc}{q:Wht}{vst vwa:Value}(hs:St H w σ)(h1:RI H vst s.st)(h2:RI H vwa s.wa)(hk:q.kind=4):
  Cl Tryz.prog 237 [.agg #[I q.kind,I q.st,I q.wa,I s.id,I s.src,vst,vwa,I s.al,I s.up]] w fun v w'=>∃b:Bool,v= .bool b∧(b=true↔dF s q)∧St H w' σ:=by
 have hi:=om (s:=s) (q:=q)
 simp only [Spc.isW,Spc.isS] at hi
 refine Cl.o Tryz.func237 Tryz.ntmps237 ag1 ?_
 refine .ai ?_
 refine .bx hs fun b1 w hs=>?_
 refine .z zg (.nil (.ai (.y hs (zls [_,_,_,_,_,_,_,_,_] oe iB) ?_)))
 refine .o (.call Tryz.call235 rfl (gZ hs h1) ?_);rintro _ w ⟨rfl,hs⟩
 refine .z zm ?_
 refine .bif (t':=5) rfl (fun hb5=>?_) (fun hb5=>?_)
 ·refine .gT rfl rfl ?_
  refine .y hs (zls [_,_,_,_,_,_,_,_,_] oe iB) ?_
  refine .gT rfl rfl ?_
  refine .o (.call Tryz.call230 rfl (fQ hs h2) ?_);rintro _ w ⟨rfl,hs⟩
  refine .z zpT (.z zg (.nil ?_))
  refine .ret (Fin.aU Tryz.results237 rfl ?_)
  exact ⟨_,rfl,by rw [hi];simp_all<;>omega,hs.out⟩
 ·refine .gFs 2 2 true rfl rfl rfl ?_
  refine .z zpF (.z zg (.nil ?_))
  refine .ret (Fin.aU Tryz.results237 rfl ?_)
  exact ⟨_,rfl,by rw [hi];simp_all<;>omega,hs.out⟩
theorem pz{s:Spc}{q:Wht}{vst vwa:Value}{i k:Nat}{u:Int}(hs:St H w σ)(h1:RI H vst s.st)(h2:RI H vwa s.wa)(hok:dh s)(hq:dF s q)(hk1:q.kind=1)(hi:i<s.st.length):
  Cl Tryz.prog 231 [.agg #[I q.kind,I q.st,I q.wa,I s.id,I s.src,vst,vwa,I s.al,I s.up],.agg #[I (i:Int),I (k:Int),I u]] w fun v w'=>∃H1,HLe H H1∧v=I (lT s q i k)∧St H1 w' σ:=by
 obtain ⟨ast,cst,rfl⟩:=RI.shape h1
 obtain ⟨awa,cwa,rfl⟩:=RI.shape h2
 have hn:=hok.wa.many
 have hcap:=(RI.len h2).2.1
 obtain ⟨_,hw1,hw2,hw3⟩:q.st=0∧0<q.wa∧0≤q.wa∧q.wa≤(s.wa.length:Int) - 1:=by
  rcases om.1 hq with h|h|h|h
  ·exact ⟨h.2.1,h.2.2.2,h.2.2.1.1,h.2.2.1.2⟩
  all_goals omega
 obtain ⟨m,hm⟩:∃m:Nat,q.wa=m:=⟨q.wa.toNat,ak⟩
 have hW:lT s q i k=if (k:Int)≤q.wa then gi (wts s.st) i*gi (wts (s.wa.take (q.wa.toNat+1))) k else 0:=by unfold lT;rw [if_pos hk1]
 have hmt:q.wa.toNat=m:=by omega
 rw [hmt] at hW
 refine Cl.o Tryz.func231 Tryz.ntmps231 ag2 ?_
 refine .ai ?_
 refine .bx hs fun b2 w hs=>?_
 refine .bx hs fun b3 w hs=>?_
 refine .z zg (.nil (.seq (.ai (.z (zfa bK) (.y hs (zld af) (.z (zfa bF) (.z (zfa ee) (.y hs (zld af) (.z oa ?_)))))))))
 refine .nil ?_
 refine (.cz rfl (fun hc12=>?_) (fun hc12=>?_))
 ·refine .ai (.z zg (.nil ?_))
  refine .ret (rT (Fin.aU Tryz.results231 rfl ?_))
  exact ⟨H,HLe.refl H,by rw [hW,if_neg ak],hs.out⟩
 ·refine .skip ?_
  refine nT ?_
  refine .seq (.draw mix rfl hs fun w hs=>?_)
  refine .z 0 rfl (zfa dt) ?_;refine .z 1 rfl (zfa cD) ?_;refine .y 2 rfl hs an ?_;refine .z 3 rfl (zfa dt) ?_;refine .z 4 rfl (zfa bA) ?_;refine .y 5 rfl hs an ?_;refine .z 6 rfl (zfa bF) ?_;refine .z 7 rfl (zfa ee) ?_;refine .y 8 rfl hs af ?_;refine .z 9 rfl eh ?_
  refine .z 10 rfl (zt (k:=m+1) rfl rfl ae aj ak ak) ?_
  refine .E 11 hs ?_
  have hP:eW 7 15000 (s.wa.take (m+1)):=hok.wa.take ak ak
  refine .call Tryz.call163 rfl (kr hs h1 (h2.head (k:=m+1) ak)) ?_;rintro _ w ⟨H1,vo,e,hle1,rfl,hGx,-,hs⟩
  obtain ⟨rfl,hG⟩:=hGx ⟨hok.st,hP⟩
  have hgl:=kJ (wts s.st) (wts (s.wa.take (m+1))) s.st.length
  have hyl:(wts (s.wa.take (m+1))).length=m+1:=by rw [fp,List.length_take];omega
  have hgr:=xt (X:=wts s.st) (Y:=wts (s.wa.take (m+1))) (n:=s.st.length) hi
  have hgt:=BY (X:=wts s.st) (Y:=wts (s.wa.take (m+1))) (n:=s.st.length) (k:=k) hi ak
  have hrl:=my (wts s.st) (wts (s.wa.take (m+1))) i
  rw [←hgr] at hrl
  generalize nE (wts s.st) (wts (s.wa.take (m+1))) s.st.length=G at*
  obtain ⟨aG,cG,rfl⟩:=hG.shape
  refine .go ?_
  refine .z 12 rfl zm ?_;refine .z 13 rfl zex ?_;refine .z 14 rfl zex ?_;refine .z 15 rfl zg ?_;refine .z 16 rfl zg ?_;refine .D hs ?_
  refine .seq (.draw mix rfl hs fun w hs=>?_)
  refine .z 0 rfl zm ?_;refine .z 1 rfl (zfa bS) ?_;refine .y 2 rfl hs af ?_
  refine .ixT (i:=3) hs rfl aq .none hG rfl rfl cU aE (show i<_ by omega) dn ?_;intro b31 o31 a31 c31 hc31 hR31
  refine .r (i:=4) hs rfl aq .none (bj rfl an hc31) ?_
  refine .z 5 rfl (zfa bK) ?_;refine .y 6 rfl hs af ?_
  refine .ixX (enc:=fun x=>[I x]) (i:=7) hs rfl aq .none hR31 rfl rfl ae aj (bw (l:=(gr G i)) (i:=k) ak) dn ?_;intro b35 o35 hc35;replace hc35:=bI.one hc35
  refine .r (i:=8) hs rfl aq .none (bj rfl af hc35) ?_
  refine .z 9 rfl zg ?_;refine .D hs ?_
  refine .ret (Fin.aU Tryz.results231 rfl ?_)
  exact ⟨H1,hle1,by rw [hW,if_pos ak,←hgt];rfl,hs.out⟩
theorem qk{s:Spc}{q:Wht}{vst vwa:Value}{i k:Nat}{u:Int}(hs:St H w σ)(h1:RI H vst s.st)(hok:dh s)(hk1:q.kind=2)(hi:i<s.st.length):
  Cl Tryz.prog 233 [.agg #[I q.kind,I q.st,I q.wa,I s.id,I s.src,vst,vwa,I s.al,I s.up],.agg #[I (i:Int),I (k:Int),I u]] w fun v w'=>∃H1,HLe H H1∧v=I (lT s q i k)∧St H1 w' σ:=by
 have hW:lT s q i k=if (k:Int)=q.wa then gi (wts s.st) i else 0:=by unfold lT;rw [if_neg ak,if_pos hk1]
 have hl:=fp s.st
 refine Cl.o Tryz.func233 Tryz.ntmps233 ag2 ?_
 refine .ai ?_
 refine .bx hs fun b2 w hs=>?_
 refine .bx hs fun b3 w hs=>?_
 refine .z zg (.nil (.seq (.ai (.z (zfa bK) (.y hs (zld af) (.z (zfa bF) (.z (zfa ee) (.y hs (zld af) (.z ja ?_)))))))))
 refine .nil ?_
 refine (.eS rfl (fun hc12=>?_) (fun hc12=>?_))
 ·refine .ai (.z zg (.nil ?_))
  refine .ret (rT (Fin.aU Tryz.results233 rfl ?_))
  exact ⟨H,HLe.refl H,by rw [hW,if_neg ak],hs.out⟩
 ·refine .skip ?_
  refine nT ?_
  refine .ai (.z (zfa dt) (.z (zfa cD) (.y hs (zld an) ?_)))
  refine .o (.call Tryz.call275 rfl (iG hs h1) ?_);rintro _ w ⟨H1,vo,e,hle1,rfl,hGx,hs⟩
  obtain ⟨rfl,hG⟩:=hGx hok.st
  obtain ⟨aG,cG,rfl⟩:=RI.shape hG
  refine .z zm (.z zex (.z zex (.z zg (.z zg (.nil (.ai (.z zm (.z (zfa bS) (.y hs (zld af) ?_)))))))))
  refine .ixY hs hG rfl rfl ae aj (bw (l:=(wts s.st)) (i:=i) ak) dn ?_;intro b23 o23 hc23
  refine .q hs (bj rfl af hc23) ?_
  refine .z zg (.nil ?_)
  refine .ret (Fin.aU Tryz.results233 rfl ?_)
  exact ⟨H1,hle1,by rw [hW,if_pos ak],hs.out⟩
theorem oo{s:Spc}{q:Wht}{vst vwa:Value}{i k:Nat}{u:Int}(hs:St H w σ)(h2:RI H vwa s.wa)(hok:dh s)(hk1:q.kind=3)(hk:k<s.wa.length):
  Cl Tryz.prog 236 [.agg #[I q.kind,I q.st,I q.wa,I s.id,I s.src,vst,vwa,I s.al,I s.up],.agg #[I (i:Int),I (k:Int),I u]] w fun v w'=>∃H1,HLe H H1∧v=I (lT s q i k)∧St H1 w' σ:=by
 have hW:lT s q i k=if (i:Int)=q.st then gi (wts s.wa) k else 0:=by unfold lT;rw [if_neg ak,if_neg ak,if_pos hk1]
 have hl:=fp s.wa
 refine Cl.o Tryz.func236 Tryz.ntmps236 ag2 ?_
 refine .ai ?_
 refine .bx hs fun b2 w hs=>?_
 refine .bx hs fun b3 w hs=>?_
 refine .z zg (.nil (.seq (.ai (.z (zfa bS) (.y hs (zld af) (.z (zfa bF) (.z (zfa fH) (.y hs (zld af) (.z ja ?_)))))))))
 refine .nil ?_
 refine (.eS rfl (fun hc12=>?_) (fun hc12=>?_))
 ·refine .ai (.z zg (.nil ?_))
  refine .ret (rT (Fin.aU Tryz.results236 rfl ?_))
  exact ⟨H,HLe.refl H,by rw [hW,if_neg ak],hs.out⟩
 ·refine .skip ?_
  refine nT ?_
  refine .ai (.z (zfa dt) (.z (zfa bA) (.y hs (zld an) ?_)))
  refine .o (.call Tryz.call275 rfl (iG hs h2) ?_);rintro _ w ⟨H1,vo,e,hle1,rfl,hGx,hs⟩
  obtain ⟨rfl,hG⟩:=hGx (CP hok)
  obtain ⟨aG,cG,rfl⟩:=RI.shape hG
  refine .z zm (.z zex (.z zex (.z zg (.z zg (.nil (.ai (.z zm (.z (zfa bK) (.y hs (zld af) ?_)))))))))
  refine .ixY hs hG rfl rfl ae aj (bw (l:=(wts s.wa)) (i:=k) ak) dn ?_;intro b23 o23 hc23
  refine .q hs (bj rfl af hc23) ?_
  refine .z zg (.nil ?_)
  refine .ret (Fin.aU Tryz.results236 rfl ?_)
  exact ⟨H1,hle1,by rw [hW,if_pos ak],hs.out⟩
theorem py{s:Spc}{q:Wht}{vst vwa:Value}{i k:Nat}{u:Int}(hs:St H w σ)(hk1:q.kind=4):
  Cl Tryz.prog 238 [.agg #[I q.kind,I q.st,I q.wa,I s.id,I s.src,vst,vwa,I s.al,I s.up],.agg #[I (i:Int),I (k:Int),I u]] w fun v w'=>∃H1,HLe H H1∧v=I (lT s q i k)∧St H1 w' σ:=by
 have hW:lT s q i k=if (i:Int)=q.st∧(k:Int)=q.wa then 1 else 0:=by unfold lT;rw [if_neg ak,if_neg ak,if_neg ak]
 refine Cl.o Tryz.func238 Tryz.ntmps238 ag2 ?_
 refine .ai ?_
 refine .bx hs fun b2 w hs=>?_
 refine .bx hs fun b3 w hs=>?_
 refine .z zg (.nil (.seq (.ai (.z (zfa bS) (.y hs (zld af) (.z (zfa bF) (.z (zfa fH) (.y hs (zld af) (.z ja ?_)))))))))
 refine .z zm ?_
 refine .Dr (t':=11) rfl (fun hb11=>?_) (fun hb11=>?_)
 ·refine .gFs 6 6 false rfl rfl rfl ?_
  refine .z zpT (.nil ?_)
  refine (.cT ?_)
  refine .ai (.z zg (.nil ?_))
  refine .ret (rT (Fin.aU Tryz.results238 rfl ?_))
  first
  |exact ⟨H,HLe.refl H,by rw [hW,if_neg ak],hs.out⟩
  |exact ⟨H,HLe.refl H,by rw [hW,if_pos ak],hs.out⟩
 ·refine .gT rfl rfl ?_
  refine .z (zfa bK) ?_
  refine .gT rfl rfl ?_
  refine .y hs (zld af) ?_
  refine .gT rfl rfl ?_
  refine .z (zfa bF) ?_
  refine .gT rfl rfl ?_
  refine .z (zfa ee) ?_
  refine .gT rfl rfl ?_
  refine .y hs (zld af) ?_
  refine .gT rfl rfl ?_
  refine .z ja (.z zpF (.nil ?_))
  refine (.eS rfl (fun hc18=>?_) (fun hc18=>?_))
  ·refine .ai (.z zg (.nil ?_))
   refine .ret (rT (Fin.aU Tryz.results238 rfl ?_))
   first
   |exact ⟨H,HLe.refl H,by rw [hW,if_neg ak],hs.out⟩
   |exact ⟨H,HLe.refl H,by rw [hW,if_pos ak],hs.out⟩
  ·refine .skip ?_
   refine nT ?_
   refine .ai (.z zg (.nil ?_))
   refine .ret (Fin.aU Tryz.results238 rfl ?_)
   first
   |exact ⟨H,HLe.refl H,by rw [hW,if_neg ak],hs.out⟩
   |exact ⟨H,HLe.refl H,by rw [hW,if_pos ak],hs.out⟩
def ya(k:Int):Nat:=if k=1 then 229 else if k=2 then 232 else if k=3 then 234 else 237
def xQ(k:Int):Nat:=if k=1 then 231 else if k=2 then 233 else if k=3 then 236 else 238
def xo(k:Int):Value:= .agg #[.func (.func (ya k)) #[] #[],.func (.func (xQ k)) #[] #[],I (ob ⟨k,0,0⟩)]
def DL:List MapEntry:=[{key:=I 1,val:=xo 1,born:=0},{key:=I 2,val:=xo 2,born:=1},{key:=I 3,val:=xo 3,born:=2},{key:=I 4,val:=xo 4,born:=3}]
theorem iK(hs:St H w σ):
  Cl Tryz.prog 187 [] w fun v w'=>∃b,v= .map (some b)∧St H w' (.obj b (.map DL.toArray 4)::σ):=by
 refine Cl.of Tryz.func187 rfl Tryz.ntmps187 dm (tF) ?_
 refine .ai (.z zg (.nil (.ai ?_)))
 refine .o (.makeMap hs fun b1 w hs=>?_)
 refine .z (zbd [_,_,_] fi) ?_
 refine .o (.insert (es:=[]) hs rfl rfl rfl c8 aJ rfl fun w hs=>?_)
 refine .z (zbd [_,_,_] fi) ?_
 refine .o (.insert (es:=[{key:=I 1,val:=xo 1,born:=0}]) hs rfl rfl rfl c8 aJ rfl fun w hs=>?_)
 refine .z (zbd [_,_,_] fi) ?_
 refine .o (.insert (es:=[{key:=I 1,val:=xo 1,born:=0},{key:=I 2,val:=xo 2,born:=1}]) hs rfl rfl rfl c8 aJ rfl fun w hs=>?_)
 refine .z (zbd [_,_,_] fi) ?_
 refine .o (.insert (es:=[{key:=I 1,val:=xo 1,born:=0},{key:=I 2,val:=xo 2,born:=1},{key:=I 3,val:=xo 3,born:=2}]) hs rfl rfl rfl c8 aJ rfl fun w hs=>?_)
 refine .z zm (.z zg (.nil ?_))
 refine .ret (Fin.aU Tryz.results187 rfl ?_)
 exact ⟨b1,rfl,hs⟩
def lF1(k:Int):Value:=if 1≤k∧k≤4 then .func (.func (ya k)) #[] #[] else .nilFunc
def lF2(k:Int):Value:=if 1≤k∧k≤4 then .func (.func (xQ k)) #[] #[] else .nilFunc
def lD(k:Int):Int:=if 1≤k∧k≤4 then ob ⟨k,0,0⟩ else 0
theorem xn(k:Int):[lF1 k,lF2 k,I (lD k)].all Value.oneCell'=true:=by
 unfold lF1 lF2;split<;>rfl
theorem zx{H:a8}{s:FS}{x y:Operand}{b:Nat}(k:Int)(hx:FS.ev s x=some (.map (some b)))(hy:FS.ev s y=some (I k)):
  QJ Tryz.prog H [.obj b (.map DL.toArray 4)] s (.lookup 238 x y true) (.tuple #[.agg #[lF1 k,lF2 k,I (lD k)],.bool (decide (1≤k∧k≤4))]):=by
 by_cases h:1≤k∧k≤4
 ·rw [decide_eq_true h]
  have h4:k=1∨k=2∨k=3∨k=4:=by omega
  rcases h4 with rfl|rfl|rfl|rfl
  ·exact xe (v:=xo 1) (j:=0) hx hy c8 aJ rfl .here
  ·exact xe (v:=xo 2) (j:=1) hx hy c8 aJ rfl .here
  ·exact xe (v:=xo 3) (j:=2) hx hy c8 aJ rfl .here
  ·exact xe (v:=xo 4) (j:=3) hx hy c8 aJ rfl .here
 ·rw [decide_eq_false h]
  have e1:lF1 k= .nilFunc:=if_neg h
  have e2:lF2 k= .nilFunc:=if_neg h
  have e3:lD k=0:=if_neg h
  rw [e1,e2,e3]
  refine CZ (es:=DL) (c:=4) hx hy c8 aJ Gk ?_ .here
  have n1:(k==1)=false:=by simp only [beq_eq_false_iff_ne];omega
  have n2:(k==2)=false:=by simp only [beq_eq_false_iff_ne];omega
  have n3:(k==3)=false:=by simp only [beq_eq_false_iff_ne];omega
  have n4:(k==4)=false:=by simp only [beq_eq_false_iff_ne];omega
  simp [Instr.findNow,Instr.sameNow,DL,n1,n2,n3,n4]
theorem Bh(k:Int):∀args w,(callFunc (ya k) args).run Tryz.prog w= .ok (.enter (ya k) args) w:=by
 unfold ya
 split
 ·exact Tryz.call229
 ·split
  ·exact Tryz.call232
  ·split
   ·exact Tryz.call234
   ·exact Tryz.call237
theorem A3(k:Int):∀args w,(callFunc (xQ k) args).run Tryz.prog w= .ok (.enter (xQ k) args) w:=by
 unfold xQ
 split
 ·exact Tryz.call231
 ·split
  ·exact Tryz.call233
  ·split
   ·exact Tryz.call236
   ·exact Tryz.call238
theorem Bg{s:Spc}{q:Wht}{vst vwa:Value}(hs:St H w σ)(h1:RI H vst s.st)(h2:RI H vwa s.wa)(hk:1≤q.kind∧q.kind≤4):
  Cl Tryz.prog (ya q.kind) [.agg #[I q.kind,I q.st,I q.wa,I s.id,I s.src,vst,vwa,I s.al,I s.up]] w fun v w'=>∃b:Bool,v= .bool b∧(b=true↔dF s q)∧St H w' σ:=by
 unfold ya
 split
 ·exact uL hs h2 u6
 ·split
  ·exact uK hs h2 u6
  ·split
   ·exact uJ hs h1 u6
   ·exact uI hs h1 h2 ak
theorem A2{s:Spc}{q:Wht}{vst vwa:Value}{i k:Nat}{u:Int}(hs:St H w σ)(h1:RI H vst s.st)(h2:RI H vwa s.wa)(hok:dh s)(hq:dF s q)(hk:1≤q.kind∧q.kind≤4)(hi:i<s.st.length)(hkw:k<s.wa.length):
  Cl Tryz.prog (xQ q.kind) [.agg #[I q.kind,I q.st,I q.wa,I s.id,I s.src,vst,vwa,I s.al,I s.up],.agg #[I (i:Int),I (k:Int),I u]] w fun v w'=>∃H1,HLe H H1∧v=I (lT s q i k)∧St H1 w' σ:=by
 unfold xQ
 split
 ·exact pz hs h1 h2 hok hq u6 hi
 ·split
  ·exact qk hs h1 hok u6 hi
  ·split
   ·exact oo hs h2 hok u6 hkw
   ·exact py hs ak
theorem Ey{q:Wht}(h:1≤q.kind∧q.kind≤4):lD q.kind=ob q:=by
 unfold lD;rw [if_pos h];rfl
theorem A1{s:Spc}{q:Wht}(h:dF s q):1≤q.kind∧q.kind≤4:=by
 rcases om.1 h with h|h|h|h<;>omega
set_option maxHeartbeats 1000000 in
theorem gN{s:Spc}{q:Wht}{vst vwa:Value}(hs:St H w σ)(h1:RI H vst s.st)(h2:RI H vwa s.wa)(hok:dh s):
  Cl Tryz.prog 130 [.agg #[I s.id,I s.src,vst,vwa,I s.al,I s.up],.agg #[I q.kind,I q.st,I q.wa]] w fun u w'=>∃H1 vl L d b en,HLe H H1∧u= .tuple #[vl,I d,.bool b]∧cM 1 vl (Is L) en∧((b=true∧dF s q∧L=jq s q∧d=ob q)∨(b=false∧¬dF s q∧L=[]∧d=0))∧St H1 w' (en::σ):=by
 have hsm:=er hok
 obtain ⟨ast,cst,rfl⟩:=RI.shape h1
 obtain ⟨awa,cwa,rfl⟩:=RI.shape h2
 refine Cl.o Tryz.func130 Tryz.ntmps130 ag2 ?_
 refine .ai ?_
 refine .bx hs fun b2 w hs=>?_
 refine .bx hs fun b3 w hs=>?_
 refine .z zg (.z zg (.z zg (.nil ?_)))
 refine .cut (fun fs w=>∃b7,j5 fs ⟨46,[],[(8,.bool (decide (1≤q.kind∧q.kind≤4))),(7,.pointer (some ⟨b7,0,none⟩)),(2,.pointer (some ⟨b2,0,none⟩)),(3,.pointer (some ⟨b3,0,none⟩))]⟩∧St H w (.blk b7 [lF1 q.kind,lF2 q.kind,I (lD q.kind)]:: .blk b3 [I q.kind,I q.st,I q.wa]:: .blk b2 [I s.id,I s.src,(.slice ast s.st.length cst),(.slice awa s.wa.length cwa),I s.al,I s.up]::σ)) ?_ ?_
 ·refine .draw mix rfl hs fun w hs=>?_
  refine .z 1 rfl (zfa tn) ?_;refine .y 2 rfl hs af ?_
  refine .e2 (i:=0) (j:=7) aq rfl rfl rfl rfl .none .none hs ?_ ?_
  ·refine .call Tryz.call187 rfl (iK hs) ?_;rintro _ w ⟨b13,rfl,hs⟩
   refine .go ?_
   refine .q (i:=3) [.obj b13 (.map DL.toArray 4)] rfl aq .none (zx (H:= .bot) q.kind rfl rfl) ?_
   refine .z 4 rfl zm ?_;refine .z 5 rfl zex ?_;refine .z 6 rfl zex ?_
   refine .E 7 hs ?_
   refine .alloc hs Gk rfl ?_;intro b7 w hs
   refine .go ?_
   refine .E 8 hs ?_
   refine .aF (vs:=[lF1 q.kind,lF2 q.kind,I (lD q.kind)]) hs rfl rfl Tryz.sizeOf236 ?_ (hv:=xn _);intro w hs
   refine .go ?_
   refine .z 9 rfl zg ?_;refine .D hs ?_
   exact nT ⟨b7,cn,hs.sb⟩
  ·refine .alloc hs Gk rfl ?_;intro b7 w hs
   refine .go ?_
   refine .E 0 hs ?_
   refine .call Tryz.call187 rfl (iK hs) ?_;rintro _ w ⟨b13,rfl,hs⟩
   refine .go ?_
   refine .q (i:=3) [.obj b13 (.map DL.toArray 4)] rfl aq .none (zx (H:= .bot) q.kind rfl rfl) ?_
   refine .z 4 rfl zm ?_;refine .z 5 rfl zex ?_;refine .z 6 rfl zex ?_
   refine .E 8 hs ?_
   refine .aF (vs:=[lF1 q.kind,lF2 q.kind,I (lD q.kind)]) hs rfl rfl Tryz.sizeOf236 ?_ (hv:=xn _);intro w hs
   refine .go ?_
   refine .z 9 rfl zg ?_;refine .D hs ?_
   exact nT ⟨b7,cn,hs.sb⟩
 ·rintro fs w ⟨b7,hfs,hs⟩
  refine WE.sub ?_ hfs
  refine .ai (.y hs (zls [_,_,_] vK fP) (.y hs (zls [_,_,_,_,_,_] bE aR) (.z (zbd (vs:=[(0,.agg #[I q.kind,I q.st,I q.wa]),(1,.agg #[I s.id,I s.src,(.slice ast s.st.length cst),(.slice awa s.wa.length cwa),I s.al,I s.up])]) [I q.kind,I q.st,I q.wa,I s.id,I s.src,(.slice ast s.st.length cst),(.slice awa s.wa.length cwa),I s.al,I s.up] pT rfl aq) ?_)))
  refine .o (.alloc hs Tryz.zeroValue241 rfl fun b9 w hs=>?_)
  refine .o (.aF (vs:=[_,_,_,_,_,_,_,_,_]) hs rfl rfl iB fun w hs=>?_)
  refine .nil (.seq (.ai (.z zm (.z eI (.z zm ?_)))))
  refine .bif (t':=24) rfl (fun hb24=>?_) (fun hb24=>?_)
  ·refine .gFs 5 2 false rfl rfl rfl ?_
   refine .z zpT (.nil ?_)
   refine (.cT ?_)
   refine .ai (.z zg (.z zg (.z zg (.nil ?_))))
   refine .ret (rT (?_))
   have hn:¬dF s q:=fun h=>by have:=A1 h;simp [this] at hb24
   exact Fin.gD [] [] hs fun w hs=>⟨_,results3 Tryz.results130 rfl rfl rfl,H,_,[],_,_,.nul,HLe.refl H,rfl,.nil 1 none,.inr ⟨rfl,hn,rfl,rfl⟩,hs.out.nul⟩
  ·refine .gT rfl rfl ?_
   have hk:1≤q.kind∧q.kind≤4:=by simpa using hb24
   rw [show lF1 q.kind= .func (.func (ya q.kind)) #[] #[] from if_pos hk,show lF2 q.kind= .func (.func (xQ q.kind)) #[] #[] from if_pos hk,Ey hk] at hs
   refine .z (zfa oR) ?_
   refine .gT rfl rfl ?_
   refine .y hs (zld Tryz.isAgg233) ?_
   refine .gT rfl rfl ?_
   refine .y hs (zls [_,_,_,_,_,_,_,_,_] oe iB) ?_
   refine .gT rfl rfl ?_
   refine .o (.lG (first:=[]) (cap:=[]) rfl rfl (Bh q.kind) (Bg (s:=s) hs h1 h2 hk) ?_);rintro _ w ⟨b28,rfl,hb28,hs⟩
   refine .gT rfl rfl ?_
   refine .z eI (.z zpF (.nil ?_))
   refine (.cond rfl (fun hc30=>?_) (fun hc30=>?_))
   ·refine .ai (.z zg (.z zg (.z zg (.nil ?_))))
    refine .ret (rT (?_))
    have hn:¬dF s q:=fun h=>by rw [hb28.2 h] at hc30;cases hc30
    exact Fin.gD [] [] hs fun w hs=>⟨_,results3 Tryz.results130 rfl rfl rfl,H,_,[],_,_,.nul,HLe.refl H,rfl,.nil 1 none,.inr ⟨rfl,hn,rfl,rfl⟩,hs.out.nul⟩
   ·refine .skip ?_
    refine nT ?_
    refine .ai ?_
    refine .o (.buildSlice (cells:=[_]) hs cI rfl rfl fun b31 w hs=>?_)
    refine .o (.alloc hs dO rfl fun b10 w hs=>?_)
    refine .o (.store hs rfl rfl aE fun w hs=>?_)
    refine .nil (.seq (.ai (.y hs (zls [_,_,_,_,_,_] bE aR) ?_)))
    have hq:dF s q:=hb28.1 (by simpa using hc30)
    refine .o (.call yI rfl (dG (s:=s) hs h1 h2 ⟨ak,ak⟩) ?_);rintro _ w ⟨H1,ba,hle1,rfl,hit,hs⟩
    have hwl:=fj s q
    refine .nil (.block ?_)
    refine .rangeFunc (gf:=188) (cap:=[.pointer (some ⟨ba,0,none⟩)]) (xs:=sD s) (σb:=[.blk b10 [.slice (some ⟨b31,0,none⟩) 1 1],.blk b31 (Is [0]),.blk b7 [.func (.func (ya q.kind)) #[] #[],.func (.func (xQ q.kind)) #[] #[],I (ob q)],.blk b9 [I q.kind,I q.st,I q.wa,I s.id,I s.src,(.slice ast s.st.length cst),(.slice awa s.wa.length cwa),I s.al,I s.up]]) (σf:=σ) (hs.sb) trivial rfl hit yH (fun x hx=>by
      simp only [sD,List.mem_map] at hx
      obtain ⟨j,_,rfl⟩:=hx;rfl) rfl
     (I:=fun p H' σb=>∃vo en,σb=[.blk b10 [vo],en,.blk b7 [.func (.func (ya q.kind)) #[] #[],.func (.func (xQ q.kind)) #[] #[],I (ob q)],.blk b9 [I q.kind,I q.st,I q.wa,I s.id,I s.src,(.slice ast s.st.length cst),(.slice awa s.wa.length cwa),I s.al,I s.up]]∧cM 1 vo (Is ((jq s q).take (p+1))) en) (Ix:=fun _ _ _=>False)
     (fun j _ _ σ g1 g2=>g2) (fun _ _ _ _ _ h=>h) ⟨_,_,rfl,.full rfl⟩ ?_ ?_ (fun D c H' σb w _ h _=>h.elim)
    ·rintro ly p hp H2 σb2 σf2 w hle2 ⟨vo,en,rfl,hO⟩ hs ⟨rr,hrr⟩
     have hpm:p<s.many:=by rw [cQ] at hp;exact hp
     have hin:p/s.wa.length<s.st.length:=Nat.div_lt_of_lt_mul (by rw [Nat.mul_comm];exact hpm)
     have hkm:=Nat.mod_lt p hsm.2.2.1
     have hws:=uc s q hpm
     have hget:(jq s q)[p+1]? =some (lT s q (p/s.wa.length) (p%s.wa.length)):=by rw [←hws];exact bw ak
     rw [jE hp]
     obtain ⟨al,ll,cl,rfl,hll⟩:=hO.shape
     generalize p/s.wa.length=i at*
     generalize p%s.wa.length=k at*
     refine .region ?_
     refine .o (.alloc hs gX rfl fun b11 w hs=>?_)
     refine .o (.aF (vs:=[_,_,_]) hs rfl rfl lR fun w hs=>?_)
     refine .nil ?_
     refine nT ?_
     refine ⟨H2,[.blk b11 [I (i:Int),I (k:Int),I ((p+1:Nat):Int)],.blk b10 [Value.slice al ll cl],en,.blk b7 [.func (.func (ya q.kind)) #[] #[],.func (.func (xQ q.kind)) #[] #[],I (ob q)],.blk b9 [I q.kind,I q.st,I q.wa,I s.id,I s.src,(.slice ast s.st.length cst),(.slice awa s.wa.length cwa),I s.al,I s.up]],HLe.refl _,hs,?_⟩;rintro w σf4 - hs
     refine .block ?_
     refine .draw mix rfl hs fun w hs=>?_
     refine .y 0 rfl hs an ?_;refine .z 1 rfl (zfa oQ) ?_
     refine .y 2 rfl hs Tryz.isAgg234 ?_
     refine .ys 3 rfl hs [_,_,_,_,_,_,_,_,_] oe iB ?_;refine .ys 4 rfl hs [_,_,_] Tryz.isAgg190 lR ?_
     refine .E 5 hs ?_
     refine .lG (first:=[]) (cap:=[]) rfl rfl (A3 q.kind) (A2 (s:=s) (q:=q) (i:=i) (k:=k) hs (h1.mono (hle1.trans hle2)) (h2.mono (hle1.trans hle2)) hok hq hk hin hkm) ?_;rintro _ w ⟨H3,hle3,rfl,hs⟩
     refine .go ?_
     refine .E 6 hs ?_
     refine .buildSlice (cells:=[_]) hs cI rfl rfl ?_;intro b41 w hs
     refine .go ?_
     refine .E 7 hs ?_
     refine .append (ys:=Is [lT s q i k]) hs cO rfl rfl hO (.own .here rfl rfl) (kV _) (fun l h=>by simp at h;omega) ?_;intro v42 en42 w hO2 hs
     rw [show Is ((jq s q).take (p+1))++Is [lT s q i k]=Is ((jq s q).take (p+1+1)) by rw [bT hget];simp [Is]] at hO2
     obtain ⟨a42,l42,c42,rfl,h42⟩:=hO2.shape
     refine .go ?_
     refine .E 8 hs ?_
     refine .store hs rfl rfl aE ?_;intro w hs
     refine .go ?_
     refine .D hs ?_
     refine nB ?_
     exact ⟨H3,[.blk b10 [.slice a42 l42 c42],en42,.blk b7 [.func (.func (ya q.kind)) #[] #[],.func (.func (xQ q.kind)) #[] #[],I (ob q)],.blk b9 [I q.kind,I q.st,I q.wa,I s.id,I s.src,(.slice ast s.st.length cst),(.slice awa s.wa.length cwa),I s.al,I s.up]],hle3,(hs.sb:St H3 w (.blk b10 _::en42:: .blk b7 _:: .blk b9 _::σf4)),_,_,rfl,hO2⟩
    ·rintro D H2 σb2 w hle2 ⟨vo,en,rfl,hO⟩ hs
     rw [cQ,←hwl,List.take_length] at hO
     replace hs:St H2 w (.obj D (.deferred (some [])):: .blk b10 [vo]::en:: .blk b7 [.func (.func (ya q.kind)) #[] #[],.func (.func (xQ q.kind)) #[] #[],I (ob q)]:: .blk b9 [I q.kind,I q.st,I q.wa,I s.id,I s.src,(.slice ast s.st.length cst),(.slice awa s.wa.length cwa),I s.al,I s.up]::σ):=hs
     obtain ⟨al,ll,cl,rfl,hll⟩:=hO.shape
     refine nB (nT ?_)
     refine .seq (.draw mix rfl hs fun w hs=>?_)
     refine .y 0 rfl hs an ?_;refine .z 1 rfl (zfa oP) ?_;refine .y 2 rfl hs af ?_;refine .z 3 rfl zg ?_;refine .z 4 rfl zg ?_;refine .z 5 rfl zg ?_;refine .D hs ?_
     refine .ret ?_
     exact Fin.gD [D] [] hs fun w hs=>⟨_,results3 Tryz.results130 rfl rfl rfl,H2,_,_,_,_,en,hle1.trans hle2,rfl,hO,.inl ⟨rfl,hq,rfl,rfl⟩,hs.sb⟩
theorem fS{a d:Int}(hs:St H w σ)(hd:1≤d)(ha: -4608000000000000000≤a∧a≤4608000000000000000):
  Cl Tryz.prog 132 [I a,I d] w fun v w'=>v=I (a/d)∧St H w' σ:=by
 have hq: -4608000000000000000≤a.tdiv d∧a.tdiv d≤4608000000000000000:=by
  have h1:=qd (n:=a) (d:=d) ak
  have h2:a/d≤4608000000000000000:=Int.ediv_le_of_le_mul ak (by
   have:=Int.mul_le_mul_of_nonneg_left hd (show (0:Int)≤4608000000000000000 by omega);omega)
  have h3: -4608000000000000000≤a/d:=Int.le_ediv_of_mul_le ak (by
   have:=Int.mul_le_mul_of_nonneg_left hd (show (0:Int)≤4608000000000000000 by omega);omega)
  by_cases h0:0≤a
  ·rw [Int.tdiv_eq_ediv_of_nonneg h0];omega
  ·split at h1
   ·have:a/d<0:=Int.ediv_neg_of_neg_of_pos ak ak
    omega
   ·omega
 have hfl:=qd (n:=a) (d:=d) ak
 refine Cl.o Tryz.func132 Tryz.ntmps132 ag2 ?_
 refine .ai (.z zg (.nil (.ai (.z zm (.z zm ?_)))))
 refine .q hs (xd rfl rfl ak ⟨ak,ak⟩) ?_
 refine .z zg (.nil (.seq (.ai (.z zm (.z zm (.z Ff (.z mT (.nil ?_))))))))
 refine (.cz rfl (fun hc12=>?_) (fun hc12=>?_))
 ·refine .region (.z zm (.z gC (.z zg (.nil ?_))))
  refine nT ?_
  refine .ai (.z zm (.z zg (.nil ?_)))
  refine .ret (Fin.aU Tryz.results132 rfl ?_)
  rw [if_pos hc12] at hfl
  exact ⟨by rw [hfl],hs⟩
 ·refine .skip ?_
  refine nT ?_
  refine .ai (.z zm (.z zg (.nil ?_)))
  refine .ret (Fin.aU Tryz.results132 rfl ?_)
  rw [if_neg hc12,Int.sub_zero] at hfl
  exact ⟨by rw [hfl],hs⟩
theorem mB{s:Srv}{vst vwa vr vc:Value}(hs:St H w σ)(h1:RI H vst s.sp.st)(h2:RI H vwa s.sp.wa)(h3:RRd H vr s.rs)(h4:RCm H vc s.cs)(hok:bV s):
  Cl Tryz.prog 178 [.agg #[I s.sp.id,I s.sp.src,vst,vwa,I s.sp.al,I s.sp.up,vr,vc]] w fun u w'=>∃H1,∃b:Bool,HLe H H1∧u= .bool b∧(b=true↔s.sys.Sound)∧St H1 w' σ:=by
 refine Cl.o Tryz.func178 Tryz.ntmps178 ag1 ?_
 refine .ai ?_
 refine .bx hs fun b1 w hs=>?_
 refine .z zg (.nil (.ai (.y hs (zls [_,_,_,_,_,_,_,_] aO aC) ?_)))
 refine .o (.call Gm rfl (dv (s:=s) hs h1 h2 h3 h4 hok.early) ?_);rintro v7 w ⟨H1,hle1,hS,hs⟩
 refine .o (.call Tryz.call221 rfl (pR (s:=s.sys) hs hS) ?_);rintro _ w ⟨H2,vx,xs,e,hle2,rfl,rx,hC,hs⟩
 obtain ⟨ax,cx,rfl⟩:=RI.shape rx
 have hchk:s.sys.check=0:=s.sys.aD.2 hok.sys
 obtain rfl:e=0:=by
  cases hC with
  |bad h=>exact (h hchk).elim
  |sound=>rfl
  |chain=>rfl
 have hiff:=hC.zb
 refine .z zm (.z zex (.z zex (.z zg (.z zg (.nil (.ai (.z zm (.z jH (.z zm ?_)))))))))
 refine .gW (t':=13) rfl (fun hb13=>?_) (fun hb13=>?_)
 ·refine .gT rfl rfl ?_
  refine .z zm ?_
  refine .gT rfl rfl ?_
  refine .z (dj ae) ?_
  refine .gT rfl rfl ?_
  refine .z jH (.z zpT (.z zg (.nil ?_)))
  refine .ret (Fin.aU Tryz.results178 rfl ?_)
  first
  |exact ⟨H2,_,hle1.trans hle2,rfl,by rw [←hiff,decide_eq_true_eq];exact ⟨fun h=>List.length_eq_zero_iff.1 ak,fun h=>by rw [h];rfl⟩,hs.out⟩
  |exact (hb13 rfl).elim
 ·refine .gFs 3 2 true rfl rfl rfl ?_
  refine .z zpF (.z zg (.nil ?_))
  refine .ret (Fin.aU Tryz.results178 rfl ?_)
  first
  |exact ⟨H2,_,hle1.trans hle2,rfl,by rw [←hiff,decide_eq_true_eq];exact ⟨fun h=>List.length_eq_zero_iff.1 ak,fun h=>by rw [h];rfl⟩,hs.out⟩
  |exact (hb13 rfl).elim
theorem Cb(L:List Int)(j:Nat):L++List.replicate j 0++[0]=L++List.replicate (j+1) 0:=by
 rw [List.append_assoc,←List.replicate_succ']
set_option maxHeartbeats 1000000 in
theorem pG{s:Srv}{q:Wht}{vst vwa vr vc:Value}(hs:St H w σ)(h1:RI H vst s.sp.st)(h2:RI H vwa s.sp.wa)(h3:RRd H vr s.rs)(h4:RCm H vc s.cs)(hok:bV s):
  Cl Tryz.prog 177 [.agg #[I s.sp.id,I s.sp.src,vst,vwa,I s.sp.al,I s.sp.up,vr,vc],.agg #[I q.kind,I q.st,I q.wa]] w fun u w'=>∃H1 ul vw L d b,HLe H H1∧u= .tuple #[.agg #[I s.sys.many,ul,vw,I d],.bool b]∧RL H1 ul s.bu∧RI H1 vw L∧L.length=s.sys.n∧((b=true∧dF s.sp q∧L=s.w q∧d=ob q)∨(b=false∧¬dF s.sp q))∧St H1 w' σ:=by
 have hn:=ru s
 have hm:=hok.many
 have hsm:s.sys.many+1=(s.sys.n:Int):=by rw [hn];show ((s.sp.many+s.aZ.length:Nat):Int)+1=_;omega
 refine Cl.o Tryz.func177 Tryz.ntmps177 ag2 ?_
 refine .ai ?_
 refine .bx hs fun b2 w hs=>?_
 refine .bx hs fun b3 w hs=>?_
 refine .o (.alloc hs tV rfl fun b4 w hs=>?_)
 refine .z zg (.nil (.ai (.y hs (zls [_,_,_,_,_,_,_,_] aO aC) ?_)))
 refine .o (.call Gm rfl (dv (s:=s) hs h1 h2 h3 h4 hok.early) ?_);rintro _ w ⟨H1,hle1,⟨ul,rfl,hL⟩,hs⟩
 obtain ⟨al,cl,rfl⟩:=RL.shape hL
 refine .o (.alloc hs ek rfl fun b6 w hs=>?_)
 refine .o (.aF (vs:=[_,_]) hs rfl rfl aA fun w hs=>?_)
 refine .nil (.ai (.z (zfa bq) (.y hs (zls [_,_,_,_,_,_] bE aR) (.y hs (zls [_,_,_] vK fP) ?_))))
 refine .o (.call Tryz.call130 rfl (gN (s:=s.sp) (q:=q) hs (h1.mono hle1) (h2.mono hle1) hok.early.1) ?_);rintro _ w ⟨H2,vl,L0,d,b,en,hle2,rfl,hO,hcase,hs⟩
 have hL0:L0.length≤s.sys.n:=by
  rcases hcase with ⟨_,_,rfl,_⟩|⟨_,_,rfl,_⟩
  ·rw [fj,hn];omega
  ·simp
 have hle02:=hle1.trans hle2
 refine .z zm (.z zex (.z zex (.z zex (.z zg (.z zg (.z zg (.nil (.seq (.block ?_)))))))))
 refine .loop (fun p:Nat×Value=>⟨34,[],[(7,p.2),(8,I d),(9,.bool b),(6,.pointer (some ⟨b6,0,none⟩)),(4,.pointer (some ⟨b4,0,none⟩))]⟩)
  (fun p w=>L0.length+p.1≤s.sys.n∧∃en,cM 1 p.2 (Is (L0++List.replicate p.1 0)) en∧St H2 w (en:: .blk b6 [I s.sys.many,.slice al s.bu.length cl]:: .blk b4 [I 0,.slice none 0 0,.slice none 0 0,I 0]::σ)) (fun p=>s.sys.n - (L0.length+p.1)) (0,vl) cn
  ⟨by simpa using hL0,en,by simpa using hO,hs.sb⟩ ?_
 clear hO hs
 rintro ⟨j,vo⟩ w ⟨hj,en,hO,hs⟩
 dsimp only at hj hO ⊢
 obtain ⟨ao,lo,co,rfl,hlo⟩:=hO.shape
 have hlo':lo=L0.length+j:=by simp [Is] at hlo;omega
 refine .seq (.ai (.z zm (.z (dj ae) (.z (zfa bG) (.y hs (zld af) (.z eh (.z mT (.nil ?_))))))))
 refine (.cz rfl (fun hc25=>?_) (fun hc25=>?_))
 ·refine .skip ?_
  refine nT ?_
  refine .block (.region (.z zm ?_))
  refine .o (.buildSlice (cells:=[_]) hs cI rfl rfl fun b27 w hs=>?_)
  refine .o (.append (ys:=Is [0]) hs cO rfl rfl hO (.own .here rfl rfl) (kV _) (fun l' h=>by simp [Is] at h;omega) ?_);intro v28 en28 w hO2 hs
  rw [show Is (L0++List.replicate j 0)++Is [0]=Is (L0++List.replicate (j+1) 0) by rw [←Cb];simp [Is]] at hO2
  refine .z zg (.nil ?_)
  refine nB (nT ?_)
  exact ⟨(j+1,v28),cn,⟨by dsimp only;omega,_,hO2,hs.sb⟩,by dsimp only;omega⟩
 ·refine .exit ?_
  refine xT (xT (xB (nT ?_)))
  refine .ai (.y hs (zls [_,_] aV aA) (.z zm (.z zm (.z (zbd [_,_,_,_] dR) (.z zm ?_)))))
  refine .o (.aF (vs:=[_,_,_,_]) hs rfl rfl c9 fun w hs=>?_)
  refine .z zg (.nil ?_)
  refine .ret ?_
  have hjn:L0.length+j=s.sys.n:=by omega
  obtain ⟨H3,hle3,hR,hs⟩:=cM.dy hO (by simp;omega) hs ew
  exact Fin.gD [] [] hs fun w hs=>⟨_,results2 Tryz.results177 (dr (vs:=[_,_,_,_]) hs rfl vI c9) rfl,H3,_,_,_,d,b,hle02.trans hle3,rfl,hL.mono (hle2.trans hle3),hR,by simp;omega,by
   rcases hcase with ⟨g1,g2,rfl,g3⟩|⟨g1,g2,_,_⟩
   ·refine .inl ⟨g1,g2,?_,g3⟩
    rw [fj,hn] at hjn
    unfold Srv.w;rw [show j=s.aZ.length by omega]
   ·exact .inr ⟨g1,g2⟩,hs.out⟩
inductive pY(v:Srv)(q:Wht):Int→Prop
 |bad {e:Int} (h:pq v e) (he:e≠0):pY v q e
 |what (h:bV v) (h1:¬dF v.sp q):pY v q 33
 |fls (h:bV v) (h1:dF v.sp q) (h2:¬v.sys.Sound):pY v q 35
 |ok (h:bV v) (h1:dF v.sp q) (h2:v.sys.Sound):pY v q 0
theorem pY.zero{v:Srv}{q:Wht}(h:pY v q 0):bV v∧dF v.sp q∧v.sys.Sound:=by
 generalize hz:(0:Int)=z at h
 cases h with
 |bad h he=>exact (he hz.symm).elim
 |what=>omega
 |fls=>omega
 |ok h h1 h2=>exact ⟨h,h1,h2⟩
theorem pY.qty{v:Srv}{q:Wht}{e:Int}(h:pY v q e)(he:e≠0):tI v q 0 0 e:=by
 cases h with
 |bad h he=>exact .bad h he
 |what h h1=>exact .what h h1
 |fls h h1 h2=>exact .fls h h1 h2
 |ok=>exact (he rfl).elim
set_option maxHeartbeats 1000000 in
theorem nm{s:Srv}{q:Wht}{vst vwa vr vc:Value}(hs:St H w σ)(h1:RI H vst s.sp.st)(h2:RI H vwa s.sp.wa)(h3:RRd H vr s.rs)(h4:RCm H vc s.cs):
  Cl Tryz.prog 125 [.agg #[I s.sp.id,I s.sp.src,vst,vwa,I s.sp.al,I s.sp.up,vr,vc],.agg #[I q.kind,I q.st,I q.wa]] w fun u w'=>∃H1 m ul vw d e,HLe H H1∧u= .tuple #[.agg #[I m,ul,vw,I d],I e]∧(∃a l c,ul= .slice a l c)∧(∃a l c,vw= .slice a l c)∧pY s q e∧(e=0→m=s.sys.many∧RL H1 ul s.bu∧RI H1 vw (s.w q)∧d=ob q)∧St H1 w' σ:=by
 refine Cl.o Tryz.func125 Tryz.ntmps125 ag2 ?_
 refine .ai ?_
 refine .bx hs fun b2 w hs=>?_
 refine .bx hs fun b3 w hs=>?_
 refine .o (.alloc hs tV rfl fun b4 w hs=>?_)
 refine .z zg (.nil (.seq (.ai (.y hs (zls [_,_,_,_,_,_,_,_] aO aC) ?_))))
 refine .o (.call Gn rfl (dH (s:=s) hs h1 h2 h3 h4) ?_);rintro _ w ⟨H1,e,hle1,rfl,hC,hs⟩
 refine .z zg (.nil (.ai (.z zm (.z ja (.nil ?_)))))
 refine (.eS rfl (fun hc12=>?_) (fun hc12=>?_))
 ·refine .ai (.z (zbd [_,_,_,_] dR) (.z zm ?_))
  refine .o (.aF (vs:=[_,_,_,_]) hs rfl rfl c9 fun w hs=>?_)
  refine .z zg (.nil ?_)
  refine .ret (rT (?_))
  exact Fin.gD [] [] hs fun w hs=>⟨_,results2 Tryz.results125 (dr (vs:=[_,_,_,_]) hs rfl vI c9) rfl,H1,_,_,_,_,e,hle1,rfl,⟨_,_,_,rfl⟩,⟨_,_,_,rfl⟩,.bad hC hc12,fun h=>(hc12 h).elim,hs.out⟩
 ·refine .skip ?_
  refine nT ?_
  refine .ai (.y hs (zls [_,_,_,_,_,_,_,_] aO aC) (.y hs (zls [_,_,_] vK fP) ?_))
  have hok:bV s:=hC.aD.1 (by simpa using hc12)
  refine .o (.call Tryz.call177 rfl (pG (s:=s) (q:=q) hs (h1.mono hle1) (h2.mono hle1) (h3.mono hle1) (h4.mono hle1) hok) ?_);rintro _ w ⟨H2,ul,vw,L,d,b,hle2,rfl,hL,hR,hLl,hcase,hs⟩
  have hle02:=hle1.trans hle2
  obtain ⟨al,cl,rfl⟩:=RL.shape hL
  obtain ⟨aw,cw,rfl⟩:=RI.shape hR
  refine .z zm (.z zex (.z zex ?_))
  refine .o (.alloc hs tV rfl fun b7 w hs=>?_)
  refine .o (.aF (vs:=[_,_,_,_]) hs rfl rfl c9 fun w hs=>?_)
  refine .z zg (.nil (.seq (.block (.ai (.z zm (.z eI (.z zg (.nil ?_))))))))
  refine (.cond rfl (fun hc21=>?_) (fun hc21=>?_))
  ·refine .ai (.z (zbd [_,_,_,_] dR) ?_)
   refine .o (.aF (vs:=[_,_,_,_]) hs rfl rfl c9 fun w hs=>?_)
   refine .z zg (.nil ?_)
   refine .ret (rB (rT (?_)))
   have hq:¬dF s.sp q:=by
    rcases hcase with ⟨g,_⟩|⟨_,g⟩
    ·subst g;cases hc21
    ·exact g
   exact Fin.gD [] [] hs fun w hs=>⟨_,results2 Tryz.results125 (dr (vs:=[_,_,_,_]) hs rfl vI c9) rfl,H2,_,_,_,_,_,hle02,rfl,⟨_,_,_,rfl⟩,⟨_,_,_,rfl⟩,.what hok hq,fun h=>by omega,hs.out⟩
  ·refine .ai (.y hs (zls [_,_,_,_,_,_,_,_] aO aC) ?_)
   obtain ⟨rfl,hq,rfl,rfl⟩:b=true∧dF s.sp q∧L=s.w q∧d=ob q:=hcase.resolve_right fun h=>by rw [h.1] at hc21;cases hc21
   refine .o (.call Tryz.call178 rfl (mB (s:=s) hs (h1.mono hle02) (h2.mono hle02) (h3.mono hle02) (h4.mono hle02) hok) ?_);rintro _ w ⟨H3,b27,hle3,rfl,hb27,hs⟩
   refine .z eI (.z zg (.nil ?_))
   refine (.cond rfl (fun hc25=>?_) (fun hc25=>?_))
   ·refine .ai (.z (zbd [_,_,_,_] dR) ?_)
    refine .o (.aF (vs:=[_,_,_,_]) hs rfl rfl c9 fun w hs=>?_)
    refine .z zg (.nil ?_)
    refine .ret (rB (rT (?_)))
    exact Fin.gD [] [] hs fun w hs=>⟨_,results2 Tryz.results125 (dr (vs:=[_,_,_,_]) hs rfl vI c9) rfl,H3,_,_,_,_,_,hle02.trans hle3,rfl,⟨_,_,_,rfl⟩,⟨_,_,_,rfl⟩,.fls hok hq (fun h=>by rw [hb27.2 h] at hc25;cases hc25),fun h=>by omega,hs.out⟩
   ·refine .skip ?_
    refine nB (nT ?_)
    refine .ai (.y hs (zls [_,_,_,_] vI c9) ?_)
    refine .o (.aF (vs:=[_,_,_,_]) hs rfl rfl c9 fun w hs=>?_)
    refine .z zg (.nil ?_)
    refine .ret ?_
    exact Fin.gD [] [] hs fun w hs=>⟨_,results2 Tryz.results125 (dr (vs:=[_,_,_,_]) hs rfl vI c9) rfl,H3,_,_,_,_,_,hle02.trans hle3,rfl,⟨_,_,_,rfl⟩,⟨_,_,_,rfl⟩,.ok hok hq (hb27.1 (by simpa using hc25)),fun _=>⟨rfl,hL.mono hle3,hR.mono hle3,rfl⟩,hs.out⟩
set_option maxHeartbeats 1000000 in
theorem ns{s:Srv}{q:Wht}{vst vwa vr vc:Value}(hs:St H w σ)(h1:RI H vst s.sp.st)(h2:RI H vwa s.sp.wa)(h3:RRd H vr s.rs)(h4:RCm H vc s.cs):
  Cl Tryz.prog 174 [.agg #[I s.sp.id,I s.sp.src,vst,vwa,I s.sp.al,I s.sp.up,vr,vc],.agg #[I q.kind,I q.st,I q.wa]] w fun u w'=>∃H1 lo hi e,HLe H H1∧u= .tuple #[.agg #[I lo,I hi],I e]∧tI s q lo hi e∧St H1 w' σ:=by
 refine Cl.o Tryz.func174 Tryz.ntmps174 ag2 ?_
 refine .ai ?_
 refine .bx hs fun b2 w hs=>?_
 refine .bx hs fun b3 w hs=>?_
 refine .o (.alloc hs bB rfl fun b4 w hs=>?_)
 refine .z zg (.nil (.ai (.y hs (zls [_,_,_,_,_,_,_,_] aO aC) (.y hs (zls [_,_,_] vK fP) ?_))))
 refine .o (.call Tryz.call125 rfl (nm (s:=s) (q:=q) hs h1 h2 h3 h4) ?_);rintro _ w ⟨H1,m,ul,vw,d,e,hle1,rfl,⟨al,ll,cl,rfl⟩,⟨aw,lw,cw,rfl⟩,hA,hA0,hs⟩
 refine .z zm (.z zex (.z zex ?_))
 refine .o (.alloc hs tV rfl fun b6 w hs=>?_)
 refine .o (.aF (vs:=[_,_,_,_]) hs rfl rfl c9 fun w hs=>?_)
 refine .z zg (.nil (.seq (.ai (.z zm (.z ja (.nil ?_))))))
 refine (.eS rfl (fun hc17=>?_) (fun hc17=>?_))
 ·refine .ai (.z (zbd [_,_] bn) (.z zm ?_))
  refine .o (.aF (vs:=[_,_]) hs rfl rfl ay fun w hs=>?_)
  refine .z zg (.nil ?_)
  refine .ret (rT (?_))
  exact Fin.gD [] [] hs fun w hs=>⟨_,results2 Tryz.results174 (dr (vs:=[_,_]) hs rfl aI ay) rfl,H1,_,_,_,hle1,rfl,hA.qty hc17,hs.out⟩
 ·refine .skip ?_
  refine nT ?_
  refine .ai (.z (zfa kL) (.y hs (zls [_,_] aV aA) (.z (zfa kK) (.y hs (zld an) ?_))))
  obtain rfl:e=0:=by simpa using hc17
  obtain ⟨rfl,hL,hR,rfl⟩:=hA0 rfl
  obtain ⟨hok,hq,hsd⟩:=hA.zero
  refine .o (.call Tryz.call219 rfl (pQ (s:=s.sys) hs ⟨_,rfl,hL⟩ hR) ?_);rintro _ w ⟨H2,lo,hi,f,hle2,rfl,hRg,hs⟩
  obtain rfl:=nK (hok.ask hq) hsd (fun b=>s.both) hRg
  have hbd:=hRg.bd
  have hdp:=tr q
  refine .z zm (.z zex (.z zex (.z zex (.z zg (.z zg (.z zg (.nil (.seq (.ai ?_)))))))))
  refine .z zm (.z ja (.nil ?_))
  refine (.eS rfl (fun hc30=>?_) (fun hc30=>?_))
  ·refine .ai (.z (zbd [_,_] bn) (.z zm ?_))
   refine .o (.aF (vs:=[_,_]) hs rfl rfl ay fun w hs=>?_)
   refine .z zg (.nil ?_)
   refine .ret (rT (?_))
   exact (hc30 rfl).elim
  ·refine .skip ?_
   refine nT ?_
   refine .seq (.draw mix rfl hs fun w hs=>?_)
   refine .z 0 rfl zm ?_;refine .z 1 rfl (zfa gq) ?_;refine .y 2 rfl hs af ?_;refine .z 4 rfl zm ?_;refine .z 5 rfl (zfa gq) ?_;refine .y 6 rfl hs af ?_
   refine .E 3 hs ?_
   refine .call Tryz.call132 rfl (fS hs ak ak) ?_;rintro _ w ⟨rfl,hs⟩
   refine .go ?_
   refine .E 7 hs ?_
   refine .call Tryz.call132 rfl (fS hs ak ak) ?_;rintro _ w ⟨rfl,hs⟩
   refine .go ?_
   refine .z 8 rfl (zbd [_,_] bn) ?_
   refine .E 9 hs ?_
   refine .aF (vs:=[_,_]) hs rfl rfl ay ?_;intro w hs
   refine .go ?_
   refine .z 10 rfl zg ?_;refine .D hs ?_
   refine .ret ?_
   exact Fin.gD [] [] hs fun w hs=>⟨_,results2 Tryz.results174 (dr (vs:=[_,_]) hs rfl aI ay) rfl,H2,_,_,_,hle1.trans hle2,rfl,.ok hok hq hsd hRg,hs.out⟩
inductive rb(v:Srv)(out:List Int):Int→Prop
 |bad {e:Int} (h:pq v e) (he:e≠0) (h1:out=[]):rb v out e
 |ok {e:Int} (h:bV v) (h1:rO v.sys out e):rb v out e
theorem nr{s:Srv}{vst vwa vr vc:Value}(hs:St H w σ)(h1:RI H vst s.sp.st)(h2:RI H vwa s.sp.wa)(h3:RRd H vr s.rs)(h4:RCm H vc s.cs):
  Cl Tryz.prog 175 [.agg #[I s.sp.id,I s.sp.src,vst,vwa,I s.sp.al,I s.sp.up,vr,vc]] w fun u w'=>∃H1 vx out e,HLe H H1∧u= .tuple #[vx,I e]∧RI H1 vx out∧rb s out e∧St H1 w' σ:=by
 refine Cl.o Tryz.func175 Tryz.ntmps175 ag1 ?_
 refine .ai ?_
 refine .bx hs fun b1 w hs=>?_
 refine .z zg (.z zg (.nil (.seq (.ai (.y hs (zls [_,_,_,_,_,_,_,_] aO aC) ?_)))))
 refine .o (.call Gn rfl (dH (s:=s) hs h1 h2 h3 h4) ?_);rintro _ w ⟨H1,e,hle1,rfl,hC,hs⟩
 refine .z zg (.nil (.ai (.z zm (.z ja (.nil ?_)))))
 refine (.eS rfl (fun hc10=>?_) (fun hc10=>?_))
 ·refine .ai (.z zm (.z zg (.z zg (.nil ?_))))
  refine .ret (rT (Fin.jr Tryz.results175 rfl rfl ?_))
  exact ⟨H1,_,[],_,hle1,rfl,RS.nil H1 1 none 0,.bad hC hc10 rfl,hs.out⟩
 ·refine .skip ?_
  refine nT ?_
  refine .ai (.y hs (zls [_,_,_,_,_,_,_,_] aO aC) ?_)
  have hok:bV s:=hC.aD.1 (by simpa using hc10)
  refine .o (.call Gm rfl (dv (s:=s) hs (h1.mono hle1) (h2.mono hle1) (h3.mono hle1) (h4.mono hle1) hok.early) ?_);rintro v14 w ⟨H2,hle2,hS,hs⟩
  refine .o (.call Tryz.call220 rfl (mL (s:=s.sys) hs hS) ?_);rintro _ w ⟨H3,vx,out,f,hle3,rfl,hR,hCf,hs⟩
  refine .z zm (.z zex (.z zex (.z zg (.z zg (.nil (.ai (.z zm (.z zm (.z zg ?_)))))))))
  refine .z zg (.nil ?_)
  refine .ret (Fin.jr Tryz.results175 rfl rfl ?_)
  exact ⟨H3,_,out,_,hle1.trans (hle2.trans hle3),rfl,hR,.ok hok hCf,hs.out⟩
theorem ku{v:Value}{rs:List (List Int)}{g:Nat}{cap:List Value}(q:List Int→Prop)(hs:St H w σ)(hR:RT H v rs)(hl:rs.length≤9223372036854775807)(hc:∀args w,(callFunc g args).run Tryz.prog w= .ok (.enter g args) w)
  (hp:∀H' w σ r u,HLe H H'→RI H' u r→St H' w σ→Cl Tryz.prog g ([u]++cap) w fun z w'=>∃H1 b,HLe H' H1∧z= .bool b∧(b=true↔q r)∧St H1 w' σ):
  Cl Tryz.prog 227 [v,.func (.func g) #[] cap.toArray] w fun u w'=>∃H1 i,HLe H H1∧u=I i∧(0≤i↔∃x∈rs,q x)∧St H1 w' σ:=by
 obtain ⟨a,c,rfl⟩:=hR.shape
 refine Cl.o Tryz.func227 Tryz.ntmps227 ag2 ?_
 refine .ai (.z zg (.nil (.seq (.ai (.z zm (.z (dj cU) (.z zm (.nil ?_))))))))
 refine .for (N:=rs.length) (J:=fun k fr w=>fr=[(1,.func (.func g) #[] cap.toArray),(0,.slice a rs.length c)]∧∃H1,HLe H H1∧(∀j<k,∀y,rs[j]? =some y→¬q y)∧St H1 w σ) ak ?_ ?_ ?_
 ·exact .mk ⟨rfl,H,HLe.refl H,fun j hj=>by omega,hs⟩
 ·rintro k fr w hk ⟨rfl,H1,hle1,hno,hs⟩
  have hx:=qM (rs:=rs) hk
  refine .block (.ai (.z zm (.z zg (.nil (.ai (.z zm (.z zm (.z zm ?_))))))))
  refine .ixT hs (hR.mono hle1) rfl rfl cU aE (show k<_ by omega) dn ?_;intro b14 o14 a14 c14 hc14 hR14
  refine .q hs (bj rfl an hc14) ?_
  refine .o (.lG (first:=[]) (cap:=cap) rfl rfl hc (hp _ _ _ (gr rs k) _ hle1 hR14 hs) ?_);rintro _ w ⟨H2,b16,hle2,rfl,hb16,hs⟩
  refine .nil ?_
  refine (.cond rfl (fun hc16=>?_) (fun hc16=>?_))
  ·refine .ai (.z zm (.z zg (.nil ?_)))
   refine .ret (rB (rT (rB (rT (Fin.aU Tryz.results227 rfl ?_)))))
   exact ⟨H2,_,hle1.trans hle2,rfl,⟨fun _=>⟨_,List.mem_of_getElem? hx,hb16.1 hc16⟩,fun _=>by omega⟩,hs⟩
  ·refine .skip ?_
   refine nB (nT ?_)
   exact .mk ⟨rfl,H2,hle1.trans hle2,eo hno hx (fun h=>by rw [hb16.2 h] at hc16;cases hc16),hs⟩
 ·rintro fr w ⟨rfl,H1,hle1,hno,hs⟩
  refine nT ?_
  refine .ai (.z zg (.nil ?_))
  refine .ret (Fin.aU Tryz.results227 rfl ?_)
  exact ⟨H1,_,hle1,rfl,⟨fun h=>by omega,fun ⟨x,h1,h2⟩=>by
   obtain ⟨j,hj⟩:=List.getElem?_of_mem h1
   exact (hno j (List.getElem?_eq_some_iff.1 hj).1 x hj h2).elim⟩,hs⟩
theorem je{v:Value}{rs:List (List Int)}{g:Nat}{cap:List Value}(q:List Int→Prop)(hs:St H w σ)(hR:RT H v rs)(hl:rs.length≤9223372036854775807)(hc:∀args w,(callFunc g args).run Tryz.prog w= .ok (.enter g args) w)
  (hp:∀H' w σ r u,HLe H H'→RI H' u r→St H' w σ→Cl Tryz.prog g ([u]++cap) w fun z w'=>∃H1 b,HLe H' H1∧z= .bool b∧(b=true↔q r)∧St H1 w' σ):
  Cl Tryz.prog 183 [v,.func (.func g) #[] cap.toArray] w fun u w'=>∃H1 b,HLe H H1∧u= .bool b∧(b=true↔∃x∈rs,q x)∧St H1 w' σ:=by
 refine Cl.o Tryz.func183 Tryz.ntmps183 ag2 ?_
 refine .ai (.z zg (.nil (.ai (.z zm (.z zm ?_)))))
 refine .o (.call Tryz.call227 rfl (ku q hs hR hl hc hp) ?_);rintro _ w ⟨H1,i,hle1,rfl,hi,hs⟩
 refine .z sK (.z zg (.nil ?_))
 refine .ret (Fin.aU Tryz.results183 rfl ?_)
 exact ⟨H1,_,hle1,rfl,by simp only [decide_eq_true_eq];exact hi,hs⟩
theorem qL{n:Int}(hs:St H w σ):
  Cl Tryz.prog 186 [I n] w fun u w'=>u= .bool (!decide (0≤n∧n≤20000))∧St H w' σ:=by
 refine Cl.o Tryz.func186 Tryz.ntmps186 ag1 ?_
 refine .ai (.z zg (.nil (.ai (.z zm ?_))))
 refine .o (.call cq rfl (aK hs) ?_);rintro _ w ⟨rfl,hs⟩
 refine .z eI (.z zg (.nil ?_))
 refine .ret (Fin.aU Tryz.results186 rfl ?_)
 exact ⟨rfl,hs⟩
theorem tf{s:Spc}{v vst vwa:Value}{r:List Int}{b:Nat}(hs:St H w σ)(hb:Row H b [I s.id,I s.src,vst,vwa,I s.al,I s.up])(h2:RI H vwa s.wa)(hr:RI H v r):
  Cl Tryz.prog 184 [v,.pointer (some ⟨b,0,none⟩)] w fun u w'=>∃H1 bb,HLe H H1∧u= .bool bb∧(bb=true↔¬(r.length=s.wa.length∧∀x∈r,0≤x∧x≤20000))∧St H1 w' σ:=by
 obtain ⟨a,c,rfl⟩:=RI.shape hr
 obtain ⟨awa,cwa,rfl⟩:=RI.shape h2
 have hb3:=hb.at 3
 refine Cl.o Tryz.func184 Tryz.ntmps184 ag2 ?_
 refine .ai (.z zg (.nil (.ai (.z zm (.z (dj ae) (.z (zfa bA) (.y hs (zld an) (.z (dj ae) (.z ja ?_)))))))))
 refine .z zm ?_
 refine .Dr (t':=10) rfl (fun hb10=>?_) (fun hb10=>?_)
 ·refine .gFs 2 6 false rfl rfl rfl ?_
  refine .z zpT (.z zg (.nil ?_))
  refine .ret (Fin.aU Tryz.results184 rfl ?_)
  exact ⟨H,true,HLe.refl H,rfl,⟨fun _ h=>by have:=h.1;simp_all,fun _=>rfl⟩,hs⟩
 ·refine .gT rfl rfl ?_
  refine .z zm ?_
  refine .gT rfl rfl ?_
  refine .o (.call Tryz.call185 rfl (iU (g:=186) (cap:=[]) (fun n=>¬(0≤n∧n≤20000)) hs hr Tryz.call186 (fun H' w σ n _ _ hs=>(qL hs).mono fun u w' ⟨g1,g2⟩=>⟨H',_,HLe.refl _,g1,by simp;omega,g2⟩)) ?_);rintro _ w ⟨H1,b12,hle1,rfl,hb12,hs⟩
  refine .z zpF (.z zg (.nil ?_))
  refine .ret (Fin.aU Tryz.results184 rfl ?_)
  have hlen:r.length=s.wa.length:=by simp_all;omega
  exact ⟨H1,_,hle1,rfl,by
   rw [hb12]
   constructor
   ·rintro ⟨x,h1,h2⟩ h;exact h2 (h.2 x h1)
   ·intro h
    refine Classical.byContradiction fun hn=>h ⟨hlen,fun x hx=>Classical.byContradiction fun hx'=>hn ⟨x,hx,hx'⟩⟩,hs⟩
theorem BT{s:Spc}{rows:List (List Int)}:gP s rows↔rows.length=s.st.length∧∀r∈rows,r.length=s.wa.length∧∀x∈r,0≤x∧x≤20000:=by
 constructor
 ·rintro ⟨h1,h2,h3⟩
  refine ⟨h1,fun r hr=>?_⟩
  obtain ⟨i,hi⟩:=List.getElem?_of_mem hr
  have hil:=(List.getElem?_eq_some_iff.1 hi).1
  have hg:=qM hil
  rw [hi] at hg
  obtain rfl:=Option.some.inj hg
  have hl:=h2 i ak
  refine ⟨hl,fun x hx=>?_⟩
  obtain ⟨k,hk⟩:=List.getElem?_of_mem hx
  have hkl:=(List.getElem?_eq_some_iff.1 hk).1
  have hgk:=bw hkl
  rw [hk] at hgk
  obtain rfl:=Option.some.inj hgk
  exact h3 i ak k ak
 ·rintro ⟨h1,h2⟩
  have hm:∀i<s.st.length,gr rows i∈rows:=fun i hi=>List.mem_of_getElem? (qM ak)
  refine ⟨h1,fun i hi=>(h2 _ (hm i hi)).1,fun i hi k hk=>?_⟩
  have hl:=(h2 _ (hm i hi)).1
  exact (h2 _ (hm i hi)).2 _ (List.mem_of_getElem? (bw ak))
theorem ia{s:Spc}{vst vwa vh:Value}{rows:List (List Int)}(hs:St H w σ)(h1:RI H vst s.st)(h2:RI H vwa s.wa)(hr:RT H vh rows):
  Cl Tryz.prog 129 [.agg #[I s.id,I s.src,vst,vwa,I s.al,I s.up],.agg #[vh]] w fun u w'=>∃H1 b,HLe H H1∧u= .bool b∧(b=true↔gP s rows)∧St H1 w' σ:=by
 obtain ⟨ast,cst,rfl⟩:=RI.shape h1
 obtain ⟨awa,cwa,rfl⟩:=RI.shape h2
 obtain ⟨ah,ch,rfl⟩:=hr.shape
 have hrl:=(hr.len).2.2
 refine Cl.o Tryz.func129 Tryz.ntmps129 ag2 ?_
 refine .ai ?_
 refine .bx hs fun b2 w hs=>?_
 refine .bx hs fun b3 w hs=>?_
 refine .z zg (.nil (.ai (.z (zfa gS) (.y hs (zld rl) (.z (dj cU) (.z (zfa cD) (.y hs (zld an) (.z (dj ae) (.z jH ?_)))))))))
 refine .z zm ?_
 refine .gW (t':=12) rfl (fun hb12=>?_) (fun hb12=>?_)
 ·refine .gT rfl rfl ?_
  refine .z (zfa gS) ?_
  refine .gT rfl rfl ?_
  refine .y hs (zld rl) ?_
  refine .gT rfl rfl ?_
  refine .q hs (bR (f:=[]) (c:=[_]) rfl rfl) ?_
  refine .gT rfl rfl ?_
  obtain ⟨H0,hle0,hb2,hs⟩:=hs.bY (b:=b2) ew
  refine .o (.call Tryz.call183 rfl (je (g:=184) (cap:=[.pointer (some ⟨b2,0,none⟩)]) (fun r=>¬(r.length=s.wa.length∧∀x∈r,0≤x∧x≤20000)) hs (hr.mono hle0) hrl Tryz.call184 (fun H' w σ r u hle hu hs=>tf (s:=s) hs (hb2.mono hle) (h2.mono (hle0.trans hle)) hu)) ?_);rintro _ w ⟨H1,b16,hle1,rfl,hb16,hs⟩
  refine .gT rfl rfl ?_
  refine .z eI (.z zpT (.z zg (.nil ?_)))
  refine .ret (Fin.aU Tryz.results129 rfl ?_)
  exact ⟨H1,_,hle0.trans hle1,rfl,by
   rw [BT]
   have hlen:rows.length=s.st.length:=by omega
   cases hbb:b16 with
   |true=>
    obtain ⟨x,hx,hn⟩:=hb16.1 hbb
    exact ⟨fun h=>(by cases h),fun h=>(hn (h.2 x hx)).elim⟩
   |false=>exact ⟨fun _=>⟨hlen,fun r hr=>Classical.byContradiction fun hn=>by rw [hb16.2 ⟨r,hr,hn⟩] at hbb;cases hbb⟩,fun _=>rfl⟩,hs.out⟩
 ·refine .gFs 5 7 true rfl rfl rfl ?_
  refine .z zpF (.z zg (.nil ?_))
  refine .ret (Fin.aU Tryz.results129 rfl ?_)
  exact ⟨H,_,HLe.refl H,rfl,⟨fun h=>(by cases h),fun h=>by have:=h.len;omega⟩,hs.out⟩
set_option maxHeartbeats 1000000 in
theorem nq{s:Spc}{q:Wht}{vst vwa vh:Value}{rows:List (List Int)}(hs:St H w σ)(h1:RI H vst s.st)(h2:RI H vwa s.wa)(hr:RT H vh rows):
  Cl Tryz.prog 64 [.agg #[I s.id,I s.src,vst,vwa,I s.al,I s.up],.agg #[vh],.agg #[I q.kind,I q.st,I q.wa]] w fun u w'=>∃H1 n e,HLe H H1∧u= .tuple #[I n,I e]∧pU s rows q n e∧St H1 w' σ:=by
 obtain ⟨ah,ch,rfl⟩:=hr.shape
 refine Cl.o Tryz.func64 Tryz.ntmps64 ag3 ?_
 refine .ai ?_
 refine .bx hs fun b3 w hs=>?_
 refine .bx hs fun b4 w hs=>?_
 refine .bx hs fun b5 w hs=>?_
 refine .z zg (.z zg (.nil (.seq (.ai (.y hs (zls [_,_,_,_,_,_] bE aR) ?_)))))
 refine .o (.call Tryz.call111 rfl (fE (s:=s) hs h1 h2) ?_);rintro _ w ⟨H1,e,hle1,rfl,he,hs⟩
 refine .z zg (.nil (.ai (.z zm (.z ja (.nil ?_)))))
 refine (.eS rfl (fun hc17=>?_) (fun hc17=>?_))
 ·refine .ai (.z zm (.z zg (.z zg (.nil ?_))))
  refine .ret (rT (?_))
  have hq:¬dh s∧e=30:=he.resolve_left fun h=>hc17 h.2
  exact Fin.gD [] [] hs fun w hs=>⟨_,results2 Tryz.results64 rfl rfl,H1,_,_,hle1,rfl,by rw [hq.2];exact .space hq.1,hs.out⟩
 ·refine .skip ?_
  refine nT ?_
  refine .seq (.ai (.y hs (zls [_,_,_,_,_,_] bE aR) (.y hs (zls [_] Tryz.isAgg64 vH) ?_)))
  have hok:dh s:=(he.resolve_right fun h=>by omega).1
  have hsm:=er hok
  refine .o (.call Tryz.call129 rfl (ia (s:=s) hs (h1.mono hle1) (h2.mono hle1) (hr.mono hle1)) ?_);rintro _ w ⟨H2,b21,hle2,rfl,hb21,hs⟩
  have hle02:=hle1.trans hle2
  refine .z eI (.nil ?_)
  refine (.cond rfl (fun hc22=>?_) (fun hc22=>?_))
  ·refine .ai (.z zg (.z zg (.nil ?_)))
   refine .ret (rT (?_))
   exact Fin.gD [] [] hs fun w hs=>⟨_,results2 Tryz.results64 rfl rfl,H2,_,_,hle02,rfl,.hull hok (fun h=>by rw [hb21.2 h] at hc22;cases hc22),hs.out⟩
  ·refine .skip ?_
   refine nT ?_
   refine .ai (.y hs (zls [_,_,_,_,_,_] bE aR) (.y hs (zls [_,_,_] vK fP) ?_))
   have hh:gP s rows:=hb21.1 (by simpa using hc22)
   refine .o (.call Tryz.call130 rfl (gN (s:=s) (q:=q) hs (h1.mono hle02) (h2.mono hle02) hok) ?_);rintro _ w ⟨H3,vl,L,d,b,en,hle3,rfl,hO,hcase,hs⟩
   have hle03:=hle02.trans hle3
   obtain ⟨al,cl,rfl⟩:=hO.w7
   refine .z zm (.z zex (.z zex (.z zex ?_)))
   refine .o (.alloc hs dO rfl fun b9 w hs=>?_)
   refine .o (.store hs rfl rfl aE fun w hs=>?_)
   refine .z zg (.z zg (.nil (.seq (.ai (.z zm (.z eI (.nil ?_)))))))
   refine (.cond rfl (fun hc31=>?_) (fun hc31=>?_))
   ·refine .ai (.z zg (.z zg (.nil ?_)))
    refine .ret (rT (?_))
    have hq:¬dF s q:=by
     rcases hcase with ⟨g,_⟩|⟨_,g,_⟩
     ·subst g;cases hc31
     ·exact g
    exact Fin.gD [] [] hs fun w hs=>⟨_,results2 Tryz.results64 rfl rfl,H3,_,_,hle03,rfl,.what hok hh hq,hs.out⟩
   ·refine .skip ?_
    refine nT ?_
    refine .ai ?_
    refine .o (.alloc hs bp rfl fun b12 w hs=>?_)
    refine .o (.store hs rfl rfl aj fun w hs=>?_)
    refine .nil (.seq (.ai (.y hs (zls [_,_,_,_,_,_] bE aR) ?_)))
    obtain ⟨rfl,hq,rfl,rfl⟩:b=true∧dF s q∧L=jq s q∧d=ob q:=hcase.resolve_right fun h=>by rw [h.1] at hc31;cases hc31
    have hwl:=fj s q
    obtain ⟨H4,hle4,hW,hs⟩:=cM.dy hO ak hs ew
    have hle04:=hle03.trans hle4
    refine .o (.call yI rfl (dG (s:=s) hs (h1.mono hle04) (h2.mono hle04) ⟨ak,ak⟩) ?_);rintro _ w ⟨H5,ba,hle5,rfl,hit,hs⟩
    have hle05:=hle04.trans hle5
    replace hW:=hW.mono hle5
    have hr5:=hr.mono hle05
    refine .nil (.block ?_)
    refine .rangeFunc (gf:=188) (cap:=[.pointer (some ⟨ba,0,none⟩)]) (xs:=sD s) (σb:=[.blk b12 [I (e7 s q rows 0)],.blk b9 [.slice al (jq s q).length cl],.blk b4 [.slice ah rows.length ch]]) (σf:=σ) (hs.sb) trivial rfl hit yH (fun x hx=>by
      simp only [sD,List.mem_map] at hx
      obtain ⟨j,_,rfl⟩:=hx;rfl) rfl
     (I:=fun p H' σb=>σb=[.blk b12 [I (e7 s q rows p)],.blk b9 [.slice al (jq s q).length cl],.blk b4 [.slice ah rows.length ch]]) (Ix:=fun _ _ _=>False)
     (fun j _ _ σ g1 g2=>g2) (fun _ _ _ _ _ h=>h) rfl ?_ ?_ (fun D c H' σb w _ h _=>h.elim)
    ·rintro ly p hp H6 σb2 σf2 w hle6 rfl hs ⟨rr,hrr⟩
     have hpm:p<s.many:=by rw [cQ] at hp;exact hp
     have hin:p/s.wa.length<s.st.length:=Nat.div_lt_of_lt_mul (by rw [Nat.mul_comm];exact hpm)
     have hkm:=Nat.mod_lt p hsm.2.2.1
     have hsucc:e7 s q rows (p+1)=e7 s q rows p+gi (jq s q) (p+1)*gt rows (p/s.wa.length) (p%s.wa.length):=rfl
     have hb0:=jj hok hq hh p ak
     have hb1:=jj hok hq hh (p+1) ak
     have hwz:=kX hok hq
     have hwz2:=kY (jq s q) (v:=p+1) (n:=s.many+1) ak
     have hnum:=hh.num _ hin _ hkm
     have hrow:=hh.row _ hin
     have hrlen:=hh.len
     have hprd:=nx (a:=gi (jq s q) (p+1)) (b:=gt rows (p/s.wa.length) (p%s.wa.length)) (A:=3456000000000) (B:=20000) ak ak
     have hgt:gt rows (p/s.wa.length) (p%s.wa.length)=gi (gr rows (p/s.wa.length)) (p%s.wa.length):=rfl
     rw [jE hp]
     generalize p/s.wa.length=i at*
     generalize p%s.wa.length=k at*
     rw [hgt] at hsucc hprd hnum
     refine .region ?_
     refine .o (.alloc hs gX rfl fun b13 w hs=>?_)
     refine .o (.aF (vs:=[_,_,_]) hs rfl rfl lR fun w hs=>?_)
     refine .nil ?_
     refine nT ?_
     refine ⟨H6,[.blk b13 [I (i:Int),I (k:Int),I ((p+1:Nat):Int)],.blk b12 [I (e7 s q rows p)],.blk b9 [.slice al (jq s q).length cl],.blk b4 [.slice ah rows.length ch]],HLe.refl _,hs,?_⟩;rintro w σf4 - hs
     refine .block ?_
     refine .draw mix rfl hs fun w hs=>?_
     refine .y 0 rfl hs af ?_;refine .y 1 rfl hs an ?_;refine .z 2 rfl (zfa cZ) ?_;refine .y 3 rfl hs af ?_
     refine .ixX (enc:=fun x=>[I x]) (i:=4) hs rfl aq .none (hW.mono hle6) rfl rfl ae aj (bw (l:=(jq s q)) (i:=(p+1)) ak) dn ?_;intro b39 o39 hc39;replace hc39:=bI.one hc39
     refine .r (i:=5) hs rfl aq .none (bj rfl af hc39) ?_
     refine .z 6 rfl (zfa gS) ?_;refine .y 7 rfl hs rl ?_;refine .z 8 rfl (zfa bS) ?_;refine .y 9 rfl hs af ?_
     refine .ixT (i:=10) hs rfl aq .none (hr5.mono hle6) rfl rfl cU aE (show i<_ by omega) dn ?_;intro b45 o45 a45 c45 hc45 hR45
     refine .r (i:=11) hs rfl aq .none (bj rfl an hc45) ?_
     refine .z 12 rfl (zfa bK) ?_;refine .y 13 rfl hs af ?_
     refine .ixX (enc:=fun x=>[I x]) (i:=14) hs rfl aq .none hR45 rfl rfl ae aj (bw (l:=(gr rows i)) (i:=k) ak) dn ?_;intro b49 o49 hc49;replace hc49:=bI.one hc49
     refine .r (i:=15) hs rfl aq .none (bj rfl af hc49) ?_
     refine .z 16 rfl qj ?_;refine .z 17 rfl eh ?_
     refine .E 18 hs ?_
     refine .store hs rfl rfl aj ?_;intro w hs
     refine .go ?_
     refine .D hs ?_
     refine nB ?_
     exact ⟨H6,[.blk b12 [I (e7 s q rows (p+1))],.blk b9 [.slice al (jq s q).length cl],.blk b4 [.slice ah rows.length ch]],HLe.refl _,by rw [hsucc];exact (hs.sb:St H6 w (.blk b12 _:: .blk b9 _:: .blk b4 _::σf4)),rfl⟩
    ·rintro D H6 σb2 w hle6 rfl hs
     rw [cQ] at hs
     replace hs:St H6 w (.obj D (.deferred (some [])):: .blk b12 [I (e7 s q rows s.many)]:: .blk b9 [.slice al (jq s q).length cl]:: .blk b4 [.slice ah rows.length ch]::σ):=hs
     have hbd:=jj hok hq hh s.many ak
     have hdp:=tr q
     refine nB (nT ?_)
     refine .ai (.y hs (zld af) (.z zm ?_))
     refine .o (.call Tryz.call132 rfl (fS hs ak ak) ?_);rintro _ w ⟨rfl,hs⟩
     refine .z zg (.z zg (.nil ?_))
     refine .ret ?_
     exact Fin.gD [D] [] hs fun w hs=>⟨_,results2 Tryz.results64 rfl rfl,H6,_,_,hle05.trans hle6,rfl,.ok hok hh hq,hs.out⟩
end Go.Proofs.YteajddicacjkhaaGreat
namespace Go.Proofs.YteajddicacjkhaaGreat
open Go.MW
def F7(v:Srv)(s:bg)(e:Int):Prop:=pq v e∧(e=0→s=v.sys)∧(e≠0→s=⟨0,[]⟩)
theorem F7.uniq{v:Srv}{s t:bg}{e f:Int}(h:F7 v s e)(g:F7 v t f):s=t∧e=f:=by
 obtain rfl:=h.1.uniq g.1
 by_cases h0:e=0
 ·exact ⟨(h.2.1 h0).trans (g.2.1 h0).symm,rfl⟩
 ·exact ⟨(h.2.2 h0).trans (g.2.2 h0).symm,rfl⟩
structure WI(s:Spc)(L:List Int)(f:Nat→Nat→Int):Prop where
 len:L.length=s.many+1
 zero:gi L 0=0
 at_:∀i k,i<s.st.length→k<s.wa.length→gi L (s.u i k)=f i k
theorem WI.start(s:Spc):WI s (List.replicate (s.many+1) 0) fun _ _=>0:=
 ⟨dm,ck _ _ ak,fun i k hi hk=>by have:=qm hi hk;exact ck _ _ ak⟩
theorem WI.set{s:Spc}{L:List Int}{f:Nat→Nat→Int}(h:WI s L f){i k:Nat}(hi:i<s.st.length)(hk:k<s.wa.length)(x:Int):WI s (L.set (s.u i k) x) fun i' k'=>if i'=i∧k'=k then x else f i' k':=by
 have hb:=qm hi hk
 refine ⟨by rw [List.length_set];exact h.len,by rw [z6 ak];exact h.zero,fun i' k' hi' hk'=>?_⟩
 have hb':=qm hi' hk'
 rw [ec (by rw [h.len];omega)]
 by_cases e:i'=i∧k'=k
 ·obtain ⟨rfl,rfl⟩:=e
  rw [if_pos rfl,if_pos ⟨rfl,rfl⟩]
 ·rw [if_neg e,if_neg,h.at_ i' k' hi' hk']
  intro e2
  obtain ⟨d1,d2⟩:=CL (nw:=s.wa.length) (i:=i) hk
  obtain ⟨d3,d4⟩:=CL (nw:=s.wa.length) (i:=i') hk'
  have e3:i'*s.wa.length+k'=i*s.wa.length+k:=by unfold Spc.u at e2;omega
  rw [e3] at d3 d4
  exact e ⟨d3.symm.trans d1,d4.symm.trans d2⟩
theorem WI.congr{s:Spc}{L:List Int}{f g:Nat→Nat→Int}(h:WI s L f)(e:∀i k,i<s.st.length→k<s.wa.length→f i k=g i k):WI s L g:=
 ⟨h.len,h.zero,fun i k hi hk=>(h.at_ i k hi hk).trans (e i k hi hk)⟩
inductive DQ(s:Spc)(q:Wht):List Int→Int→Int→Prop
 |space (h:¬dh s):DQ s q [] 0 30
 |what (h:dh s) (h1:¬dF s q):DQ s q [] 0 33
 |ok (h:dh s) (h1:dF s q):DQ s q (jq s q) (ob q) 0
theorem DQ.uniq{s:Spc}{q:Wht}{a b:List Int}{d f e g:Int}(h:DQ s q a d e)(k:DQ s q b f g):a=b∧d=f∧e=g:=by
 cases h<;>cases k<;>first|exact ⟨rfl,rfl,rfl⟩|contradiction
inductive wX(v:Srv)(q:Wht):Int→Prop
 |bad {e:Int} (h:pq v e) (he:e≠0):wX v q e
 |what (h:bV v) (h1:¬dF v.sp q):wX v q 33
 |ok (h:bV v) (h1:dF v.sp q):wX v q 0
theorem wX.zero{v:Srv}{q:Wht}(h:wX v q 0):bV v∧dF v.sp q:=by
 generalize hz:(0:Int)=z at h
 cases h with
 |bad h he=>exact (he hz.symm).elim
 |what=>omega
 |ok h h1=>exact ⟨h,h1⟩
theorem wX.qty{v:Srv}{q:Wht}{e:Int}(h:wX v q e)(he:e≠0):tI v q 0 0 e:=by
 cases h with
 |bad h he=>exact .bad h he
 |what h h1=>exact .what h h1
 |ok=>exact (he rfl).elim
def EJ(w:List Int)(high:Bool):List Int:=if high then w else tR w
structure Grow(d D:Int)(L:List Int)(x:Int):Prop where
 low:d≤x
 high:x≤d+D*L.length
 all:∀i<L.length,d≤gi L i∧gi L i<x
 rise:∀i,i+1<L.length→gi L i<gi L (i+1)
theorem Grow.start(d D:Int):Grow d D [] d:=⟨ak,dm,fun i h=>by simp at h,fun i h=>by simp at h⟩
theorem Grow.snoc{d D x y:Int}{L:List Int}(h:Grow d D L x)(h1:x<y)(h2:y≤x+D):Grow d D (L++[x]) y:=by
 obtain ⟨g1,g2,g3,g4⟩:=h
 refine ⟨ak,?_,fun i hi=>?_,fun i hi=>?_⟩
 ·rw [List.length_append,List.length_singleton,Int.natCast_add,Int.mul_add];omega
 ·rw [List.length_append,List.length_singleton] at hi
  rw [tj]
  split
  ·have:=g3 i u6;omega
  ·rw [if_pos ak];omega
 ·rw [List.length_append,List.length_singleton] at hi
  rw [tj,tj,if_pos ak]
  split
  ·exact g4 i u6
  ·rw [if_pos ak];exact (g3 i ak).2
theorem rb.uniq{v:Srv}{A B:List Int}{e f:Int}(h:rb v A e)(g:rb v B f):A=B∧e=f:=by
 cases h with
 |bad h he h1=>
  cases g with
  |bad g _ g1=>exact ⟨by rw [h1,g1],h.uniq g⟩
  |ok g _=>exact (he (h.aD.2 g)).elim
 |ok h h1=>
  cases g with
  |bad g ge _=>exact (ge (g.aD.2 h)).elim
  |ok _ g1=>exact h1.uniq g1
end Go.Proofs.YteajddicacjkhaaGreat
namespace Go.Proofs.YteajddicacjkhaaGreat
open Go.MW
variable{H:a8}{w:World}{σ:List Ent}
set_option maxHeartbeats 4000000 in
theorem kg{s:Srv}{rows:List (List Int)}{vst vwa vr vc vh:Value}(hs:St H w σ)(h1:RI H vst s.sp.st)(h2:RI H vwa s.sp.wa)(h3:RRd H vr s.rs)(h4:RCm H vc s.cs)(hh:RT H vh rows):
  Cl Tryz.prog 65 [.agg #[I s.sp.id,I s.sp.src,vst,vwa,I s.sp.al,I s.sp.up,vr,vc],.agg #[vh]] w fun u w'=>∃H1 e,HLe H H1∧u=I e∧yP s rows e∧St H1 w' σ:=by
 obtain ⟨ast,cst,rfl⟩:=RI.shape h1
 obtain ⟨awa,cwa,rfl⟩:=RI.shape h2
 obtain ⟨ar,cr,rfl⟩:=RRd.shape h3
 obtain ⟨ac,cc,rfl⟩:=RCm.shape h4
 obtain ⟨ah,ch,rfl⟩:=hh.shape
 refine Cl.o Tryz.func65 Tryz.ntmps65 ag2 ?_
 refine .ai ?_
 refine .bx hs fun b2 w hs=>?_
 refine .bx hs fun b3 w hs=>?_
 refine .z zg (.nil (.seq (.ai (.y hs (zls [_,_,_,_,_,_,_,_] aO aC) ?_))))
 refine .o (.call Gn rfl (dH (s:=s) hs h1 h2 h3 h4) ?_);rintro _ w ⟨H1,e,hle1,rfl,hC,hs⟩
 refine .z zg (.nil (.ai (.z zm (.z ja (.nil ?_)))))
 refine (.eS rfl (fun hc16=>?_) (fun hc16=>?_))
 ·refine .ai (.z zm (.z zg (.nil ?_)))
  refine .ret (rT (?_))
  exact Fin.aU Tryz.results65 rfl ⟨H1,_,hle1,rfl,.bad hC hc16,hs.out⟩
 ·refine .skip ?_
  refine nT ?_
  refine .seq (.ai (.z (zfa bq) (.y hs (zls [_,_,_,_,_,_] bE aR) (.y hs (zls [_] Tryz.isAgg64 vH) ?_))))
  have hok:bV s:=hC.aD.1 (by simpa using hc16)
  have hsm:=er hok.early.1
  have hrl:=hok.early.2.1
  refine .o (.call Tryz.call129 rfl (ia (s:=s.sp) hs (h1.mono hle1) (h2.mono hle1) (hh.mono hle1)) ?_);rintro _ w ⟨H2,b21,hle2,rfl,hb21,hs⟩
  have hle02:=hle1.trans hle2
  refine .z eI (.nil ?_)
  refine (.cond rfl (fun hc22=>?_) (fun hc22=>?_))
  ·refine .ai (.z zg (.nil ?_))
   refine .ret (rT (?_))
   exact Fin.aU Tryz.results65 rfl ⟨H2,_,hle02,rfl,.hull hok (fun h=>by rw [hb21.2 h] at hc22;cases hc22),hs.out⟩
  ·refine .skip ?_
   refine nT ?_
   refine .ai (.y hs (zls [_,_,_,_,_,_,_,_] aO aC) ?_)
   have hhull:gP s.sp rows:=hb21.1 (by simpa using hc22)
   have hll:=hok.bu
   have hmm:=hok.many
   refine .o (.call Gm rfl (dv (s:=s) hs (h1.mono hle02) (h2.mono hle02) (h3.mono hle02) (h4.mono hle02) hok.early) ?_);rintro _ w ⟨H3,hle3,⟨ul,rfl,hL⟩,hs⟩
   obtain ⟨al,cl,rfl⟩:=RL.shape hL
   have hle03:=hle02.trans hle3
   have hbd:=fun b hb=>Cw (b:=b) hhull hb
   have hlim:=fun l hl=>hok.sys.lim l hl
   refine .o (.alloc hs ek rfl fun b6 w hs=>?_)
   refine .o (.aF (vs:=[_,_]) hs rfl rfl aA fun w hs=>?_)
   refine .nil (.ai ?_)
   refine .o (.buildSlice (cells:=[_]) hs cI rfl rfl fun b25 w hs=>?_)
   refine .o (.alloc hs dO rfl fun b7 w hs=>?_)
   refine .o (.store hs rfl rfl aE fun w hs=>?_)
   refine .nil (.seq (.ai (.z (zfa bq) (.y hs (zls [_,_,_,_,_,_] bE aR) ?_))))
   refine .o (.call yI rfl (dG (s:=s.sp) hs (h1.mono hle03) (h2.mono hle03) ⟨ak,ak⟩) ?_);rintro _ w ⟨H4,ba,hle4,rfl,hit,hs⟩
   have hle04:=hle03.trans hle4
   refine .nil (.block ?_)
   refine .rangeFunc (gf:=188) (cap:=[.pointer (some ⟨ba,0,none⟩)]) (xs:=sD s.sp) (σb:=[.blk b7 [.slice (some ⟨b25,0,none⟩) 1 1],.blk b25 (Is [0]),.blk b6 [I s.sys.many,.slice al s.bu.length cl],.blk b3 [.slice ah rows.length ch]]) (σf:=σ) (hs.sb) trivial rfl hit yH (fun x hx=>by
     simp only [sD,List.mem_map] at hx
     obtain ⟨j,_,rfl⟩:=hx;rfl) rfl
    (I:=fun p H' σb=>∃vo en,σb=[.blk b7 [vo],en,.blk b6 [I s.sys.many,.slice al s.bu.length cl],.blk b3 [.slice ah rows.length ch]]∧cM 1 vo (Is (xl1 s (gt rows) (p+1))) en) (Ix:=fun _ _ _=>False)
    (fun j _ _ σ g1 g2=>g2) (fun _ _ _ _ _ h=>h) ⟨_,_,rfl,.full rfl⟩ ?_ ?_ (fun D c H' σb w _ h _=>h.elim)
   ·rintro ly p hp H5 σb2 σf2 w hle5 ⟨vo,en,rfl,hO⟩ hs ⟨rr,hrr⟩
    have hpm:p<s.sp.many:=by rw [cQ] at hp;exact hp
    have hin:p/s.sp.wa.length<s.sp.st.length:=Nat.div_lt_of_lt_mul (by rw [Nat.mul_comm];exact hpm)
    have hkm:=Nat.mod_lt p hsm.2.2.1
    have hval:hpt s.sp (gt rows) (p+1)=gi (gr rows (p/s.sp.wa.length)) (p%s.sp.wa.length):=rfl
    have hrow:=hhull.row _ hin
    have hrlen:=hhull.len
    have hr5:=hh.mono (hle04.trans hle5)
    rw [jE hp]
    obtain ⟨ao,lo,co,rfl,hlo⟩:=hO.shape
    have hxl:=jb s (gt rows) (p+1)
    generalize p/s.sp.wa.length=i at*
    generalize p%s.sp.wa.length=k at*
    refine .region ?_
    refine .o (.alloc hs gX rfl fun b8 w hs=>?_)
    refine .o (.aF (vs:=[_,_,_]) hs rfl rfl lR fun w hs=>?_)
    refine .nil ?_
    refine nT ?_
    refine ⟨H5,[.blk b8 [I (i:Int),I (k:Int),I ((p+1:Nat):Int)],.blk b7 [.slice ao lo co],en,.blk b6 [I s.sys.many,.slice al s.bu.length cl],.blk b3 [.slice ah rows.length ch]],HLe.refl _,hs,?_⟩;rintro w σf4 - hs
    refine .block ?_
    refine .draw mix rfl hs fun w hs=>?_
    refine .y 0 rfl hs an ?_;refine .z 1 rfl (zfa gS) ?_;refine .y 2 rfl hs rl ?_;refine .z 3 rfl (zfa bS) ?_;refine .y 4 rfl hs af ?_
    refine .ixT (i:=5) hs rfl aq .none hr5 rfl rfl cU aE (show i<_ by omega) dn ?_;intro b35 o35 a35 c35 hc35 hR35
    refine .r (i:=6) hs rfl aq .none (bj rfl an hc35) ?_
    refine .z 7 rfl (zfa bK) ?_;refine .y 8 rfl hs af ?_
    refine .ixX (enc:=fun x=>[I x]) (i:=9) hs rfl aq .none hR35 rfl rfl ae aj (bw (l:=(gr rows i)) (i:=k) ak) dn ?_;intro b39 o39 hc39;replace hc39:=bI.one hc39
    refine .r (i:=10) hs rfl aq .none (bj rfl af hc39) ?_
    refine .E 11 hs ?_
    refine .buildSlice (cells:=[_]) hs cI rfl rfl ?_;intro b41 w hs
    refine .go ?_
    refine .E 12 hs ?_
    refine .append (ys:=Is [gi (gr rows i) k]) hs cO rfl rfl hO (.own (c:=Is [gi (gr rows i) k]) (by first|exact .here|exact .there .here) rfl rfl) (kV _) (fun l h=>by simp at h;omega) ?_;intro v42 en42 w hO2 hs
    rw [←List.map_append,←hval,←AY] at hO2
    obtain ⟨a42,l42,c42,rfl,h42⟩:=hO2.shape
    refine .go ?_
    refine .E 13 hs ?_
    refine .store hs rfl rfl aE ?_;intro w hs
    refine .go ?_
    refine .D hs ?_
    refine nB ?_
    exact ⟨H5,[.blk b7 [.slice a42 l42 c42],en42,.blk b6 [I s.sys.many,.slice al s.bu.length cl],.blk b3 [.slice ah rows.length ch]],HLe.refl _,(hs.sb:St H5 w (.blk b7 _::en42:: .blk b6 _:: .blk b3 _::σf4)),_,_,rfl,hO2⟩
   ·rintro D H5 σb2 w hle5 ⟨vo,en,rfl,hO⟩ hs
    rw [cQ] at hO
    replace hs:St H5 w (.obj D (.deferred (some [])):: .blk b7 [vo]::en:: .blk b6 [I s.sys.many,.slice al s.bu.length cl]:: .blk b3 [.slice ah rows.length ch]::σ):=hs
    obtain ⟨ao,lo,co,rfl,hlo⟩:=hO.shape
    have hxl:=jb s (gt rows) (s.sp.many+1)
    have hlo':lo=s.sp.many+1:=by simp [Is] at hlo;omega
    subst hlo'
    have hL5:=hL.mono (hle4.trans hle5)
    have hleF:=hle04.trans hle5
    refine nB (nT ?_)
    refine .seq (.ai (.y hs (zld an) (.z (dj ae) (.z zg (.nil (.block ?_))))))
    refine .loop (fun j:Nat=>⟨81,marks [D],[(9,I ((s.sp.many+1+j:Nat):Int)),(7,.pointer (some ⟨b7,0,none⟩)),(6,.pointer (some ⟨b6,0,none⟩))]⟩)
     (fun j w=>j≤s.aZ.length∧∃ax cx en,cM 1 (.slice ax (s.sp.many+1+j) cx) (Is (xl1 s (gt rows) (s.sp.many+1)++xl2 s (gt rows) j)) en∧St H5 w (.obj D (.deferred (some [])):: .blk b7 [.slice ax (s.sp.many+1+j) cx]::en:: .blk b6 [I s.sys.many,.slice al s.bu.length cl]::σ)) (fun j=>s.aZ.length - j) 0 cn
     ⟨Nat.zero_le _,_,_,_,by show cM 1 _ (Is (_++[])) _;rw [List.append_nil];exact hO,hs.sb⟩ ?_
    clear hs hO
    rintro j w ⟨hj,ax,cx,en,hO,hs⟩
    have hsys:s.sys.many=((s.sp.many+s.aZ.length:Nat):Int):=rfl
    have hx2:=rV s (gt rows) j
    have hxall:(xl1 s (gt rows) (s.sp.many+1)++xl2 s (gt rows) j).length=s.sp.many+1+j:=by rw [List.length_append,hxl,hx2]
    refine .seq (.ai (.z zm (.z (zfa bG) (.y hs (zld af) (.z px (.nil ?_))))))
    refine (.cz rfl (fun hc48=>?_) (fun hc48=>?_))
    ·refine .skip ?_
     refine nT ?_
     refine .seq (.block (.ai (.z zg (.nil (.seq (.ai (.z (zfa bN) (.y hs (zld dc) (.z (dj aH) ?_)))))))))
     refine .z zm (.nil ?_)
     refine .for (N:=s.bu.length) (J:=fun k fr w=>fr=[(10,I (rm (hpt s.sp (gt rows)) (s.sp.many+1+j:Nat) (s.bu.take k))),(52,.slice al s.bu.length cl),(9,I ((s.sp.many+1+j:Nat):Int)),(7,.pointer (some ⟨b7,0,none⟩)),(6,.pointer (some ⟨b6,0,none⟩))]∧St H5 w (.obj D (.deferred (some [])):: .blk b7 [.slice ax (s.sp.many+1+j) cx]::en:: .blk b6 [I s.sys.many,.slice al s.bu.length cl]::σ)) ak ?_ ?_ ?_
     ·exact .mk ⟨rfl,hs⟩
     ·rintro k fr w hk ⟨rfl,hs⟩
      obtain ⟨l,hx⟩:=nth (l:=s.bu) hk
      have hlm:=List.mem_of_getElem? hx
      obtain ⟨⟨gA,gB⟩,hsd⟩:=kG hok.early hlm
      have hM:=(hlim l hlm).2.2.2.1
      obtain ⟨eB,hB⟩:∃b:Nat,l.B=b:=⟨_,(Int.toNat_of_nonneg gB).symm⟩
      have hB1:l.B.toNat=eB:=by rw [hB,Int.toNat_natCast]
      rw [hB1] at hsd
      have hbl:=wx (hpt s.sp (gt rows)) (s.sp.many+1+j:Nat) (s.bu.take k)
      refine .block (.ai ?_)
      refine .ixX (enc:=Lim.c) hs hL5 rfl rfl aH aS hx rfl ?_;intro b56 o56 hc56
      refine .q hs (bL (vs:=l.c) rfl fA aS hc56) ?_
      refine .o (.alloc hs dB rfl fun b12 w hs=>?_)
      refine .o (.aF (vs:=l.c) hs rfl rfl aS fun w hs=>?_)
      refine .nil (.ai (.z (zfa eD) (.y hs (zld af) (.z zm (.z jH (.nil ?_))))))
      refine (.cz rfl (fun hc61=>?_) (fun hc61=>?_))
      ·refine .draw mix rfl hs fun w hs=>?_
       have hbB:=hbd eB ak
       obtain ⟨bo,co',sp,hv,rfl,hcap⟩:=hO.blk (by rw [hxall];omega)
       simp only [Value.slice.injEq] at hv
       obtain ⟨rfl,-,rfl⟩:=hv
       have hgx:gi (xl1 s (gt rows) (s.sp.many+1)++xl2 s (gt rows) j) eB=hpt s.sp (gt rows) eB:=sL s _ _ ak
       refine .z 0 rfl zm ?_;refine .y 1 rfl hs an ?_;refine .z 2 rfl (zfa fb) ?_;refine .y 3 rfl hs af ?_
       rw [hB]
       refine .z 4 rfl (zix (j:=eB) ae aj) ?_
       refine .load (i:=5) hs rfl aq .none rfl af ?_ (hv:=ef ak sp)
       rw [hgx]
       refine .z 6 rfl (zfa fa) ?_;refine .y 7 rfl hs af ?_;refine .z 8 rfl gC ?_;refine .z 9 rfl Cm ?_;refine .z 10 rfl zg ?_;refine .D hs ?_
       refine nB (nT ?_)
       exact .mk ⟨by rw [bT hx,qJ,if_pos ak,hB1],hs.sb⟩
      ·refine .skip ?_
       refine nB (nT ?_)
       exact .mk ⟨by rw [bT hx,qJ,if_neg ak],hs.sb⟩
     ·rintro fr w ⟨rfl,hs⟩
      rw [List.take_length]
      refine nT ?_
      refine .region (.y hs (zld an) (.z zm ?_))
      refine .o (.buildSlice (cells:=[_]) hs cI rfl rfl fun b75 w hs=>?_)
      refine .o (.append (ys:=Is [rm (hpt s.sp (gt rows)) (s.sp.many+1+j:Nat) s.bu]) hs cO rfl rfl hO (.own .here rfl rfl) (kV _) (fun l h=>by simp only [Is,List.length_map,hxall] at h;omega) ?_);intro v76 en76 w hO2 hs
      rw [←List.map_append,List.append_assoc,←AX] at hO2
      obtain ⟨a76,c76,rfl⟩:=hO2.w7
      have hx3:(xl1 s (gt rows) (s.sp.many+1)++xl2 s (gt rows) (j+1)).length=s.sp.many+1+(j+1):=by rw [List.length_append,hxl,rV]
      rw [hx3] at hO2 ⊢
      refine .o (.store hs rfl rfl aE fun w hs=>?_)
      refine .nil ?_
      refine nB (nT ?_)
      refine .region (.z zm (.z eh (.z zg (.nil ?_))))
      refine nT ?_
      exact ⟨j+1,.fN rfl (by simp;omega) cn,⟨ak,_,_,_,hO2,hs.sb⟩,ak⟩
    ·refine .exit ?_
     refine xT (xT (xB (nT ?_)))
     refine .seq (.ai (.y hs (zls [_,_] aV aA) (.y hs (zld an) ?_)))
     obtain rfl:j=s.aZ.length:=by omega
     obtain ⟨H6,hle6,hX,hs⟩:=cM.dy hO (by rw [hxall];omega) hs ew
     refine .o (.call Tryz.call134 rfl (kQ (s:=s.sys) hs ⟨_,rfl,hL5.mono hle6⟩ hX) ?_);rintro _ w ⟨e79,rfl,hP,hs⟩
     have hn:=ru s
     have hkeep:kU s.sys (xl1 s (gt rows) (s.sp.many+1)++xl2 s (gt rows) s.aZ.length)↔∃f,Kp s (gt rows) f:=by
      rw [←AW hok]
      refine ⟨fun h=>h.tS,fun h=>⟨by rw [hxall,hn];omega,by rw [sL s _ _ ak];rfl,fun b hb=>?_,h⟩⟩
      rw [hn] at hb
      by_cases e:b<s.sp.many+1
      ·rw [sL s _ _ e]
       have:=hbd b ak
       omega
      ·rw [show b=s.sp.many+1+(b - (s.sp.many+1)) by omega,wZ s _ ak]
       have g1:=wx (hpt s.sp (gt rows)) (s.sp.many+1+(b - (s.sp.many+1)):Nat) s.bu
       have g2:=BL hok hhull (b - (s.sp.many+1))
       omega
     refine .z ja (.nil ?_)
     refine (.eS rfl (fun hc80=>?_) (fun hc80=>?_))
     ·refine .ai (.z zg (.nil ?_))
      refine .ret (rT (?_))
      refine Fin.gD [D] [] hs fun w hs=>⟨_,results1 Tryz.results65 rfl,H6,_,hleF.trans hle6,rfl,.no hok hhull (fun h=>hc80 ?_),hs.out⟩
      cases hP with
      |bad h=>exact (h (s.sys.aD.2 hok.sys)).elim
      |off _ h1=>exact (h1 (hkeep.2 h)).elim
      |ok=>rfl
     ·refine .skip ?_
      refine nT ?_
      refine .ai (.z zg (.nil ?_))
      refine .ret ?_
      refine Fin.gD [D] [] hs fun w hs=>⟨_,results1 Tryz.results65 rfl,H6,_,hleF.trans hle6,rfl,.ok hok hhull (hkeep.1 ?_),hs.out⟩
      cases hP with
      |bad h=>exact (h (s.sys.aD.2 hok.sys)).elim
      |off _ h1=>omega
      |ok _ h1=>exact h1
end Go.Proofs.YteajddicacjkhaaGreat
namespace Go.Proofs.YteajddicacjkhaaGreat
open Go.MW
def AJ(q:Wht)(high:Bool)(n m:Int):Prop:=if high=true then m/ob q≤n else n≤-m/ob q
inductive vD(v:Srv)(q:Wht)(high:Bool)(n m:Int)(us:List Use):Int→Prop
 |bad {e:Int} (h:pq v e) (he:e≠0):vD v q high n m us e
 |what (h:bV v) (h1:¬dF v.sp q):vD v q high n m us 33
 |prf (h:bV v) (h1:dF v.sp q) (h2:¬mR v.sys (EJ (v.w q) high) m us):vD v q high n m us 24
 |off (h:bV v) (h1:dF v.sp q) (h2:mR v.sys (EJ (v.w q) high) m us) (h3:¬AJ q high n m):vD v q high n m us 36
 |ok (h:bV v) (h1:dF v.sp q) (h2:mR v.sys (EJ (v.w q) high) m us) (h3:AJ q high n m):vD v q high n m us 0
theorem vD.uniq{v:Srv}{q:Wht}{high:Bool}{n m:Int}{us:List Use}{e f:Int}(h:vD v q high n m us e)(g:vD v q high n m us f):e=f:=by
 cases h with
 |bad h he=>
  cases g with
  |bad g _=>exact h.uniq g
  |what g _=>exact (he (h.aD.2 g)).elim
  |prf g _ _=>exact (he (h.aD.2 g)).elim
  |off g _ _ _=>exact (he (h.aD.2 g)).elim
  |ok g _ _ _=>exact (he (h.aD.2 g)).elim
 |what h h1=>cases g with|bad g ge=>exact (ge (g.aD.2 h)).elim|_=>first|rfl|contradiction
 |prf h h1 h2=>cases g with|bad g ge=>exact (ge (g.aD.2 h)).elim|_=>first|rfl|contradiction
 |off h h1 h2 h3=>cases g with|bad g ge=>exact (ge (g.aD.2 h)).elim|_=>first|rfl|contradiction
 |ok h h1 h2 h3=>cases g with|bad g ge=>exact (ge (g.aD.2 h)).elim|_=>first|rfl|contradiction
theorem Bw{v:Srv}(h:bV v){ws:List Int}{m:Int}{us:List Use}(hp:mR v.sys ws m us): -4608000000000000000≤m∧m≤4608000000000000000:=by
 have h1:=B9 h.sys hp.use
 have h2:=hp.tot
 have h3:=hp.bound
 omega
def CE(s:Srv)(q:Wht)(high:Bool)(n:Int)(us:List Use):Prop:=mR s.sys (EJ (s.w q) high) n us∧mS s.sys (EJ (s.w q) high) n 0
theorem pY.same{v:Srv}{q:Wht}{lo hi e f:Int}(h:pY v q e)(g:tI v q lo hi f):e=f:=by
 by_cases e0:e=0
 ·subst e0
  obtain ⟨h1,h2,h3⟩:=h.zero
  cases g with
  |bad g ge=>exact (ge (g.aD.2 h1)).elim
  |what _ g=>exact (g h2).elim
  |fls _ _ g=>exact (g h3).elim
  |ok=>rfl
 ·exact ((h.qty e0).uniq g).2.2
theorem CE.bd{v:Srv}{q:Wht}{high:Bool}{n e:Int}{us:List Use}(h0:e≠0→n=0∧us=[])(hA:pY v q e)(h:e=0→CE v q high n us):us.length≤400∧-5000000000000000000≤n∧n≤5000000000000000000:=by
 by_cases e0:e=0
 ·subst e0
  have h1:=Bw hA.zero.1 (h rfl).1
  exact ⟨(h rfl).1.len,ak⟩
 ·obtain ⟨rfl,rfl⟩:=h0 e0
  exact ⟨dm,ak⟩
end Go.Proofs.YteajddicacjkhaaGreat
namespace Go.Proofs.YteajddicacjkhaaGreat
open Go.MW
variable{H:a8}{w:World}{σ:List Ent}
theorem aW{a0 a1 a2:Int}(hs:St H w σ):Cl Tryz.prog 72 [I a0,I a1,I a2] w fun v w'=>v= .bool (decide (a1≤a0∧a0≤a2))∧St H w' σ:=by
 refine Cl.o Tryz.func72 Tryz.ntmps72 ag3 ?_
 refine .ai (.z zg (.nil (.ai (.z zm (.z zm (.z px (.z zm ?_)))))))
 refine .gW (t':=10) rfl (fun hb10=>?_) (fun hb10=>?_)
 ·refine .gT rfl rfl ?_
  refine .z zm ?_
  refine .gT rfl rfl ?_
  refine .z zm ?_
  refine .gT rfl rfl ?_
  refine .z px (.z zpT (.z zg (.nil ?_)))
  refine .ret (Fin.aU Tryz.results72 rfl ?_)
  exact ⟨by simp [*],hs.out⟩
 ·refine .gFs 3 3 true rfl rfl rfl ?_
  refine .z zpF (.z zg (.nil ?_))
  refine .ret (Fin.aU Tryz.results72 rfl ?_)
  exact ⟨by simp [*],hs.out⟩
theorem gE{a0:Int}(hs:St H w σ):Cl Tryz.prog 73 [I a0] w fun v w'=>v= .bool (decide (1≤a0∧a0≤20))∧St H w' σ:=by
 refine Cl.o Tryz.func73 Tryz.ntmps73 ag1 ?_
 refine .ai (.z zg (.nil (.ai (.z zm ?_))))
 refine .o (.call cV rfl (aW hs) ?_);rintro _ w ⟨rfl,hs⟩
 refine .z zg (.nil ?_)
 refine .ret (Fin.aU Tryz.results73 rfl ?_)
 exact ⟨rfl,hs⟩
theorem jL{x y a1 a2:Int}(hs:St H w σ):Cl Tryz.prog 161 [.agg #[I x,I y],I a1,I a2] w fun v w'=>v= .bool (decide (a1≤x∧x≤y∧y≤a2))∧St H w' σ:=by
 refine Cl.o Tryz.func161 Tryz.ntmps161 ag3 ?_
 refine .ai ?_
 refine .bx hs fun b3 w hs=>?_
 refine .z zg (.nil (.ai (.z zm (.z (zfa a6) (.y hs (zld af) (.z px (.z zm ?_)))))))
 refine .gW (t':=11) rfl (fun hb11=>?_) (fun hb11=>?_)
 ·refine .gT rfl rfl ?_
  refine .z (zfa a6) ?_
  refine .gT rfl rfl ?_
  refine .y hs (zld af) ?_
  refine .gT rfl rfl ?_
  refine .z (zfa bD) ?_
  refine .gT rfl rfl ?_
  refine .y hs (zld af) ?_
  refine .gT rfl rfl ?_
  refine .z px (.z zpT (.z zm ?_))
  refine .gW (t':=18) rfl (fun hb18=>?_) (fun hb18=>?_)
  ·refine .gT rfl rfl ?_
   refine .z (zfa bD) ?_
   refine .gT rfl rfl ?_
   refine .y hs (zld af) ?_
   refine .gT rfl rfl ?_
   refine .z zm ?_
   refine .gT rfl rfl ?_
   refine .z px (.z zpT (.z zg (.nil ?_)))
   refine .ret (Fin.aU Tryz.results161 rfl ?_)
   exact ⟨by simp [*],hs.out⟩
  ·refine .gFs 4 11 true rfl rfl rfl ?_
   refine .z zpF (.z zg (.nil ?_))
   refine .ret (Fin.aU Tryz.results161 rfl ?_)
   exact ⟨by simp [*],hs.out⟩
 ·refine .gFs 5 4 true rfl rfl rfl ?_
  refine .z zpF (.z zm ?_)
  refine .gFs 4 11 true rfl rfl rfl ?_
  refine .z zpF (.z zg (.nil ?_))
  refine .ret (Fin.aU Tryz.results161 rfl ?_)
  exact ⟨by simp [*],hs.out⟩
theorem jM{x y:Int}(hs:St H w σ):Cl Tryz.prog 109 [.agg #[I x,I y]] w fun v w'=>v= .bool (decide (eU x y))∧St H w' σ:=by
 refine Cl.o Tryz.func109 Tryz.ntmps109 ag1 ?_
 refine .ai ?_
 refine .bx hs fun b1 w hs=>?_
 refine .z zg (.nil (.ai (.y hs (zls [_,_] aI ay) ?_)))
 refine .o (.call Tryz.call161 rfl (jL hs) ?_);rintro _ w ⟨rfl,hs⟩
 refine .z zg (.nil ?_)
 refine .ret (Fin.aU Tryz.results109 rfl ?_)
 exact ⟨rfl,hs.out⟩
theorem ji{x y:Int}(hs:St H w σ):Cl Tryz.prog 118 [.agg #[I x,I y]] w fun v w'=>v= .bool (decide (eg x y))∧St H w' σ:=by
 refine Cl.o Tryz.func118 Tryz.ntmps118 ag1 ?_
 refine .ai ?_
 refine .bx hs fun b1 w hs=>?_
 refine .z zg (.nil (.ai (.y hs (zls [_,_] aI ay) ?_)))
 refine .o (.call Tryz.call161 rfl (jL hs) ?_);rintro _ w ⟨rfl,hs⟩
 refine .z zg (.nil ?_)
 refine .ret (Fin.aU Tryz.results118 rfl ?_)
 exact ⟨rfl,hs.out⟩
theorem qE{x:Lg}(hs:St H w σ):
  Cl Tryz.prog 75 [.agg #[I x.zone,I x.fr,I x.to,I x.dlo,I x.dhi,I x.blo,I x.bhi]] w fun v w'=>∃b:Bool,v= .bool b∧(b=true↔yO x)∧St H w' σ:=by
 refine Cl.o Tryz.func75 Tryz.ntmps75 ag1 ?_
 refine .ai ?_
 refine .bx hs fun b1 w hs=>?_
 refine .z zg (.nil (.ai (.z (zfa kM) (.y hs (zld af) ?_))))
 refine .o (.call Tryz.call73 rfl (gE hs) ?_);rintro _ w ⟨rfl,hs⟩
 refine .z zm ?_
 refine .bif (t':=6) rfl (fun hb6=>?_) (fun hb6=>?_)
 ·refine .gT rfl rfl ?_
  refine .z (zfa eR) ?_
  refine .gT rfl rfl ?_
  refine .y hs (zld af) ?_
  refine .gT rfl rfl ?_
  refine .z (zfa eQ) ?_
  refine .gT rfl rfl ?_
  refine .y hs (zld af) ?_
  refine .gT rfl rfl ?_
  refine .o (.call cV rfl (aW hs) ?_);rintro _ w ⟨rfl,hs⟩
  refine .z zpT (.z zm ?_)
  refine .bif (t':=13) rfl (fun hb13=>?_) (fun hb13=>?_)
  ·refine .gT rfl rfl ?_
   refine .z (zfa eQ) ?_
   refine .gT rfl rfl ?_
   refine .y hs (zld af) ?_
   refine .gT rfl rfl ?_
   refine .o (.call cV rfl (aW hs) ?_);rintro _ w ⟨rfl,hs⟩
   refine .z zpT (.z zm ?_)
   refine .bif (t':=18) rfl (fun hb18=>?_) (fun hb18=>?_)
   ·refine .gT rfl rfl ?_
    refine .z (zfa fw) ?_
    refine .gT rfl rfl ?_
    refine .y hs (zls [_,_] aI ay) ?_
    refine .gT rfl rfl ?_
    refine .o (.call Tryz.call118 rfl (ji hs) ?_);rintro _ w ⟨rfl,hs⟩
    refine .z zpT (.z zm ?_)
    refine .bif (t':=23) rfl (fun hb23=>?_) (fun hb23=>?_)
    ·refine .gT rfl rfl ?_
     refine .z (zfa fu) ?_
     refine .gT rfl rfl ?_
     refine .y hs (zls [_,_] aI ay) ?_
     refine .gT rfl rfl ?_
     refine .o (.call Tryz.call109 rfl (jM hs) ?_);rintro _ w ⟨rfl,hs⟩
     refine .z zpT (.z zg (.nil ?_))
     refine .ret (Fin.aU Ci rfl ?_)
     first
     |exact ⟨false,rfl,⟨fun h=>(by cases h),fun h=>(by obtain ⟨g1,g2,g3,g4,g5⟩:=h;first|omega|(simp_all;done)|(simp_all;omega))⟩,hs.out⟩
     |exact ⟨_,rfl,⟨fun h=>⟨by simp_all,by simp_all,by simp_all,by simp_all,by simpa using h⟩,fun h=>by simpa using h.burn⟩,hs.out⟩
    ·refine .gFs 3 20 true rfl rfl rfl ?_
     refine .z zpF (.z zg (.nil ?_))
     refine .ret (Fin.aU Ci rfl ?_)
     first
     |exact ⟨false,rfl,⟨fun h=>(by cases h),fun h=>(by obtain ⟨g1,g2,g3,g4,g5⟩:=h;first|omega|(simp_all;done)|(simp_all;omega))⟩,hs.out⟩
     |exact ⟨_,rfl,⟨fun h=>⟨by simp_all,by simp_all,by simp_all,by simp_all,by simpa using h⟩,fun h=>by simpa using h.burn⟩,hs.out⟩
   ·refine .gFs 3 15 true rfl rfl rfl ?_
    refine .z zpF (.z zm ?_)
    refine .gFs 3 20 true rfl rfl rfl ?_
    refine .z zpF (.z zg (.nil ?_))
    refine .ret (Fin.aU Ci rfl ?_)
    first
    |exact ⟨false,rfl,⟨fun h=>(by cases h),fun h=>(by obtain ⟨g1,g2,g3,g4,g5⟩:=h;first|omega|(simp_all;done)|(simp_all;omega))⟩,hs.out⟩
    |exact ⟨_,rfl,⟨fun h=>⟨by simp_all,by simp_all,by simp_all,by simp_all,by simpa using h⟩,fun h=>by simpa using h.burn⟩,hs.out⟩
  ·refine .gFs 3 10 true rfl rfl rfl ?_
   refine .z zpF (.z zm ?_)
   refine .gFs 3 15 true rfl rfl rfl ?_
   refine .z zpF (.z zm ?_)
   refine .gFs 3 20 true rfl rfl rfl ?_
   refine .z zpF (.z zg (.nil ?_))
   refine .ret (Fin.aU Ci rfl ?_)
   first
   |exact ⟨false,rfl,⟨fun h=>(by cases h),fun h=>(by obtain ⟨g1,g2,g3,g4,g5⟩:=h;first|omega|(simp_all;done)|(simp_all;omega))⟩,hs.out⟩
   |exact ⟨_,rfl,⟨fun h=>⟨by simp_all,by simp_all,by simp_all,by simp_all,by simpa using h⟩,fun h=>by simpa using h.burn⟩,hs.out⟩
 ·refine .gFs 5 3 true rfl rfl rfl ?_
  refine .z zpF (.z zm ?_)
  refine .gFs 3 10 true rfl rfl rfl ?_
  refine .z zpF (.z zm ?_)
  refine .gFs 3 15 true rfl rfl rfl ?_
  refine .z zpF (.z zm ?_)
  refine .gFs 3 20 true rfl rfl rfl ?_
  refine .z zpF (.z zg (.nil ?_))
  refine .ret (Fin.aU Ci rfl ?_)
  first
  |exact ⟨false,rfl,⟨fun h=>(by cases h),fun h=>(by obtain ⟨g1,g2,g3,g4,g5⟩:=h;first|omega|(simp_all;done)|(simp_all;omega))⟩,hs.out⟩
  |exact ⟨_,rfl,⟨fun h=>⟨by simp_all,by simp_all,by simp_all,by simp_all,by simpa using h⟩,fun h=>by simpa using h.burn⟩,hs.out⟩
set_option maxHeartbeats 1000000 in
theorem dQ{l:Lns}{vt vs:Value}(hs:St H w σ)(h1:RFb H vt l.table)(h2:RSn H vs l.seasons):
  Cl Tryz.prog 19 [.agg #[I l.length,I l.depth,vt,vs]] w fun u w'=>∃e,u=I e∧E9 l e∧St H w' σ:=by
 obtain ⟨at_,ct,rfl⟩:=h1.shape
 obtain ⟨as_,cs,rfl⟩:=h2.shape
 refine Cl.o Tryz.func19 Tryz.ntmps19 ag1 ?_
 refine .ai ?_
 refine .bx hs fun b1 w hs=>?_
 refine .z zg (.nil (.seq (.ai (.z (zfa e9) (.y hs (zld af) ?_)))))
 refine .o (.call cV rfl (aW hs) ?_);rintro _ w ⟨rfl,hs⟩
 refine .z eI (.z zm ?_)
 refine .bif (t':=11) rfl (fun hb11=>?_) (fun hb11=>?_)
 ·refine .gFs 4 4 false rfl rfl rfl ?_
  refine .z zpT (.z zm ?_)
  refine .gFs 5 10 false rfl rfl rfl ?_
  refine .z zpT (.z zm ?_)
  refine .gFs 4 17 false rfl rfl rfl ?_
  refine .z zpT (.nil ?_)
  refine (.cT ?_)
  refine .ai (.z zg (.nil ?_))
  refine .ret (rT (Fin.aU dD rfl ?_))
  exact ⟨_,rfl,.inr ⟨fun h=>by have:=h.length;simp_all,rfl⟩,hs.out⟩
 ·refine .gT rfl rfl ?_
  refine .z (zfa fX) ?_
  refine .gT rfl rfl ?_
  refine .y hs (zld af) ?_
  refine .gT rfl rfl ?_
  refine .o (.call cV rfl (aW hs) ?_);rintro _ w ⟨rfl,hs⟩
  refine .gT rfl rfl ?_
  refine .z eI (.z zpF (.z zm ?_))
  refine .bif (t':=17) rfl (fun hb17=>?_) (fun hb17=>?_)
  ·refine .gFs 5 10 false rfl rfl rfl ?_
   refine .z zpT (.z zm ?_)
   refine .gFs 4 17 false rfl rfl rfl ?_
   refine .z zpT (.nil ?_)
   refine (.cT ?_)
   refine .ai (.z zg (.nil ?_))
   refine .ret (rT (Fin.aU dD rfl ?_))
   exact ⟨_,rfl,.inr ⟨fun h=>by have:=h.depth;simp_all,rfl⟩,hs.out⟩
  ·refine .gT rfl rfl ?_
   refine .z (zfa bP) ?_
   refine .gT rfl rfl ?_
   refine .y hs (zld dE) ?_
   refine .gT rfl rfl ?_
   refine .z (dj bh) ?_
   refine .gT rfl rfl ?_
   refine .o (.call cV rfl (aW hs) ?_);rintro _ w ⟨rfl,hs⟩
   refine .gT rfl rfl ?_
   refine .z eI (.z zpF (.z zm ?_))
   refine .bif (t':=24) rfl (fun hb24=>?_) (fun hb24=>?_)
   ·refine .gFs 4 17 false rfl rfl rfl ?_
    refine .z zpT (.nil ?_)
    refine (.cT ?_)
    refine .ai (.z zg (.nil ?_))
    refine .ret (rT (Fin.aU dD rfl ?_))
    exact ⟨_,rfl,.inr ⟨fun h=>by have:=h.many;simp_all;omega,rfl⟩,hs.out⟩
   ·refine .gT rfl rfl ?_
    refine .z (zfa eC) ?_
    refine .gT rfl rfl ?_
    refine .y hs (zld yE) ?_
    refine .gT rfl rfl ?_
    refine .z (dj dq) ?_
    refine .gT rfl rfl ?_
    refine .z oa (.z zpF (.nil ?_))
    refine (.cz rfl (fun hc29=>?_) (fun hc29=>?_))
    ·refine .ai (.z zg (.nil ?_))
     refine .ret (rT (Fin.aU dD rfl ?_))
     exact ⟨_,rfl,.inr ⟨fun h=>by have:=h.most;simp_all;omega,rfl⟩,hs.out⟩
    ·refine .skip ?_
     refine nT ?_
     refine .seq (.ai ?_)
     have hl20:1≤l.table.length∧l.table.length≤20:=by first|omega|(simp at hb24;omega)
     refine .z (zfa bP) (.y hs (zld dE) (.z (dj bh) (.z zm (.nil ?_))))
     refine .for (N:=l.table.length) (J:=fun k fr w=>fr=[(31,.slice at_ l.table.length ct),(1,.pointer (some ⟨b1,0,none⟩))]∧(∀j<k,Cf l.table j)∧St H w (.blk b1 [I l.length,I l.depth,.slice at_ l.table.length ct,.slice as_ l.seasons.length cs]::σ)) ak ?_ ?_ ?_
     ·exact .mk ⟨rfl,fun j hj=>by omega,hs⟩
     ·rintro k fr w hk ⟨rfl,hno,hs⟩
      have hx:=mJ (l:=l.table) hk
      have hx1:=mJ (l:=l.table) (i:=k - 1) ak
      refine .block (.ai (.z zm ?_))
      refine .ixX (enc:=Fbd.c) hs h1 rfl rfl bh bC hx dn ?_;intro b36 o36 hc36
      refine .q hs (bL (vs:=(Fbd.c (fb0 l.table k))) rfl Tryz.isAgg134 bC hc36) ?_
      refine .o (.alloc hs fo rfl fun b4 w hs=>?_)
      refine .z zg ?_
      refine .o (.aF (vs:=(fb0 l.table k).c) hs rfl rfl bC fun w hs=>?_)
      change St _ _ (.blk b4 [I (fb0 l.table k).len,I (fb0 l.table k).least]::_) at hs
      refine .nil ?_
      refine .seq (.draw mix rfl hs fun w hs=>?_)
      refine .z 0 rfl (zfa bH) ?_;refine .y 1 rfl hs af ?_
      refine .E 2 hs ?_
      refine .call cV rfl (aW hs) ?_;rintro _ w ⟨rfl,hs⟩
      refine .go ?_
      refine .z 3 rfl eI ?_;refine .z 4 rfl zm ?_
      refine .bif (t':=42) rfl (fun hb42=>?_) (fun hb42=>?_)
      ·refine .qF (i:=5) rfl aq rfl rfl ?_
       refine .qF (i:=6) rfl aq rfl rfl ?_
       refine .qF (i:=7) rfl aq rfl rfl ?_
       refine .qF (i:=8) rfl aq rfl rfl ?_
       refine .z 9 rfl zpT ?_;refine .z 10 rfl zm ?_
       refine .qF (i:=11) rfl aq rfl rfl ?_
       refine .qF (i:=12) rfl aq rfl rfl ?_
       refine .qF (i:=13) rfl aq rfl rfl ?_
       refine .qF (i:=14) rfl aq rfl rfl ?_
       refine .qF (i:=15) rfl aq rfl rfl ?_
       refine .qF (i:=16) rfl aq rfl rfl ?_
       refine .qF (i:=17) rfl aq rfl rfl ?_
       refine .qF (i:=18) rfl aq rfl rfl ?_
       refine .qF (i:=19) rfl aq rfl rfl ?_
       refine .qF (i:=20) rfl aq rfl rfl ?_
       refine .qF (i:=21) rfl aq rfl rfl ?_
       refine .qF (i:=22) rfl aq rfl rfl ?_
       refine .qF (i:=23) rfl aq rfl rfl ?_
       refine .qF (i:=24) rfl aq rfl rfl ?_
       refine .z 25 rfl zpT ?_;refine .D hs ?_
       refine (.cT ?_)
       refine .ai (.z zg (.nil ?_))
       refine .ret (rB (rT (rB (rT (Fin.aU dD rfl ?_)))))
       exact ⟨_,rfl,.inr ⟨fun h=>by have:=(h.table k hk).len;simp_all,rfl⟩,hs.out⟩
      ·refine .z 5 rfl (zfa de) ?_;refine .y 6 rfl hs af ?_
       refine .E 7 hs ?_
       refine .call cV rfl (aW hs) ?_;rintro _ w ⟨rfl,hs⟩
       refine .go ?_
       refine .z 8 rfl eI ?_;refine .z 9 rfl zpF ?_;refine .z 10 rfl zm ?_
       refine .bif (t':=48) rfl (fun hb48=>?_) (fun hb48=>?_)
       ·refine .qF (i:=11) rfl aq rfl rfl ?_
        refine .qF (i:=12) rfl aq rfl rfl ?_
        refine .qF (i:=13) rfl aq rfl rfl ?_
        refine .qF (i:=14) rfl aq rfl rfl ?_
        refine .qF (i:=15) rfl aq rfl rfl ?_
        refine .qF (i:=16) rfl aq rfl rfl ?_
        refine .qF (i:=17) rfl aq rfl rfl ?_
        refine .qF (i:=18) rfl aq rfl rfl ?_
        refine .qF (i:=19) rfl aq rfl rfl ?_
        refine .qF (i:=20) rfl aq rfl rfl ?_
        refine .qF (i:=21) rfl aq rfl rfl ?_
        refine .qF (i:=22) rfl aq rfl rfl ?_
        refine .qF (i:=23) rfl aq rfl rfl ?_
        refine .qF (i:=24) rfl aq rfl rfl ?_
        refine .z 25 rfl zpT ?_;refine .D hs ?_
        refine (.cT ?_)
        refine .ai (.z zg (.nil ?_))
        refine .ret (rB (rT (rB (rT (Fin.aU dD rfl ?_)))))
        exact ⟨_,rfl,.inr ⟨fun h=>by have:=(h.table k hk).least;simp_all,rfl⟩,hs.out⟩
       ·refine .z 11 rfl zm ?_;refine .z 12 rfl oa ?_;refine .z 13 rfl zm ?_
        refine .gW (t':=51) rfl (fun hb51=>?_) (fun hb51=>?_)
        ·refine .z 14 rfl (zfa bP) ?_;refine .y 15 rfl hs dE ?_;refine .z 16 rfl zm ?_;refine .z 17 rfl gC ?_
         refine .ixX (enc:=Fbd.c) (i:=18) hs rfl aq (.some rfl rfl) h1 rfl rfl bh bC hx1 ak ?_;intro b56 o56 hc56
         refine .z 19 rfl (zfa bH) ?_
         refine .r (i:=20) hs rfl aq (.some rfl rfl) (bj rfl af (hc56.get 0 rfl)) ?_
         refine .z 21 rfl (zfa bH) ?_;refine .y 22 rfl hs af ?_;refine .z 23 rfl sK ?_;refine .z 24 rfl zpT ?_;refine .z 25 rfl zpF ?_;refine .D hs ?_
         refine (.cz rfl (fun hc63=>?_) (fun hc63=>?_))
         ·refine .ai (.z zg (.nil ?_))
          refine .ret (rB (rT (rB (rT (Fin.aU dD rfl ?_)))))
          exact ⟨_,rfl,.inr ⟨fun h=>by have:=(h.table k hk).rise ak;omega,rfl⟩,hs.out⟩
         ·refine .skip ?_
          refine nB (nT ?_)
          first
          |exact .mk ⟨rfl,fun j hj=>by
            by_cases e:j=k
            ·subst e;exact ⟨by simp_all,by simp_all,fun _=>by omega⟩
            ·exact hno j ak,hs.tail⟩
        ·refine .qF (i:=14) rfl aq rfl rfl ?_
         refine .qF (i:=15) rfl aq rfl rfl ?_
         refine .qF (i:=16) rfl aq rfl rfl ?_
         refine .qF (i:=17) rfl aq rfl rfl ?_
         refine .qF (i:=18) rfl aq rfl rfl ?_
         refine .qF (i:=19) rfl aq rfl rfl ?_
         refine .qF (i:=20) rfl aq rfl rfl ?_
         refine .qF (i:=21) rfl aq rfl rfl ?_
         refine .qF (i:=22) rfl aq rfl rfl ?_
         refine .qF (i:=23) rfl aq rfl rfl ?_
         refine .z 24 rfl zpF ?_;refine .z 25 rfl zpF ?_;refine .D hs ?_
         refine (.cF ?_)
         refine .skip ?_
         refine nB (nT ?_)
         first
         |exact .mk ⟨rfl,fun j hj=>by
           by_cases e:j=k
           ·subst e;exact ⟨by simp_all,by simp_all,fun _=>by omega⟩
           ·exact hno j ak,hs.tail⟩
     ·rintro fr w ⟨rfl,htb,hs⟩
      refine nT ?_
      refine .seq (.ai (.z (zfa eC) (.y hs (zld yE) (.z (dj dq) (.z zm (.nil ?_))))))
      refine .for (N:=l.seasons.length) (J:=fun k fr w=>fr=[(66,.slice as_ l.seasons.length cs),(1,.pointer (some ⟨b1,0,none⟩))]∧(∀j<k,∀y,l.seasons[j]? =some y→yA y)∧St H w (.blk b1 [I l.length,I l.depth,.slice at_ l.table.length ct,.slice as_ l.seasons.length cs]::σ)) ak ?_ ?_ ?_
      ·exact .mk ⟨rfl,fun j hj=>by omega,hs⟩
      ·rintro k fr w hk ⟨rfl,hno,hs⟩
       obtain ⟨s,hx⟩:=nth hk
       refine .block (.ai ?_)
       refine .ixX (enc:=Ssn.c) hs h2 rfl rfl dq dY hx dn ?_;intro b70 o70 hc70
       refine .q hs (bL (vs:=(Ssn.c s)) rfl Tryz.isAgg104 dY hc70) ?_
       refine .o (.alloc hs tY rfl fun b6 w hs=>?_)
       refine .o (.aF (vs:=s.c) hs rfl rfl dY fun w hs=>?_)
       change St _ _ (.blk b6 [I s.zone,I s.fr,I s.to,I s.extra]::_) at hs
       refine .nil (.ai (.z (zfa iq) (.y hs (zld af) ?_)))
       refine .o (.call Tryz.call73 rfl (gE hs) ?_);rintro _ w ⟨rfl,hs⟩
       refine .z eI (.z zm ?_)
       refine .bif (t':=76) rfl (fun hb76=>?_) (fun hb76=>?_)
       ·refine .gFs 4 4 false rfl rfl rfl ?_
        refine .z zpT (.z zm ?_)
        refine .gFs 4 10 false rfl rfl rfl ?_
        refine .z zpT (.z zm ?_)
        refine .gFs 4 16 false rfl rfl rfl ?_
        refine .z zpT (.nil ?_)
        refine (.cT ?_)
        refine .ai (.z zg (.nil ?_))
        refine .ret (rB (rT (rB (rT (Fin.aU dD rfl ?_)))))
        exact ⟨_,rfl,.inr ⟨fun h=>by have:=(h.seasons s (List.mem_of_getElem? hx)).zone;simp_all,rfl⟩,hs.out⟩
       ·refine .gT rfl rfl ?_
        refine .z (zfa eP) ?_
        refine .gT rfl rfl ?_
        refine .y hs (zld af) ?_
        refine .gT rfl rfl ?_
        refine .o (.call cV rfl (aW hs) ?_);rintro _ w ⟨rfl,hs⟩
        refine .gT rfl rfl ?_
        refine .z eI (.z zpF (.z zm ?_))
        refine .bif (t':=82) rfl (fun hb82=>?_) (fun hb82=>?_)
        ·refine .gFs 4 10 false rfl rfl rfl ?_
         refine .z zpT (.z zm ?_)
         refine .gFs 4 16 false rfl rfl rfl ?_
         refine .z zpT (.nil ?_)
         refine (.cT ?_)
         refine .ai (.z zg (.nil ?_))
         refine .ret (rB (rT (rB (rT (Fin.aU dD rfl ?_)))))
         exact ⟨_,rfl,.inr ⟨fun h=>by have:=(h.seasons s (List.mem_of_getElem? hx)).fr;simp_all,rfl⟩,hs.out⟩
        ·refine .gT rfl rfl ?_
         refine .z (zfa eO) ?_
         refine .gT rfl rfl ?_
         refine .y hs (zld af) ?_
         refine .gT rfl rfl ?_
         refine .o (.call cV rfl (aW hs) ?_);rintro _ w ⟨rfl,hs⟩
         refine .gT rfl rfl ?_
         refine .z eI (.z zpF (.z zm ?_))
         refine .bif (t':=88) rfl (fun hb88=>?_) (fun hb88=>?_)
         ·refine .gFs 4 16 false rfl rfl rfl ?_
          refine .z zpT (.nil ?_)
          refine (.cT ?_)
          refine .ai (.z zg (.nil ?_))
          refine .ret (rB (rT (rB (rT (Fin.aU dD rfl ?_)))))
          exact ⟨_,rfl,.inr ⟨fun h=>by have:=(h.seasons s (List.mem_of_getElem? hx)).to;simp_all,rfl⟩,hs.out⟩
         ·refine .gT rfl rfl ?_
          refine .z (zfa im) ?_
          refine .gT rfl rfl ?_
          refine .y hs (zld af) ?_
          refine .gT rfl rfl ?_
          refine .o (.call cV rfl (aW hs) ?_);rintro _ w ⟨rfl,hs⟩
          refine .gT rfl rfl ?_
          refine .z eI (.z zpF (.nil ?_))
          refine (.cond rfl (fun hc93=>?_) (fun hc93=>?_))
          ·refine .ai (.z zg (.nil ?_))
           refine .ret (rB (rT (rB (rT (Fin.aU dD rfl ?_)))))
           exact ⟨_,rfl,.inr ⟨fun h=>by have:=(h.seasons s (List.mem_of_getElem? hx)).extra;simp_all,rfl⟩,hs.out⟩
          ·refine .skip ?_
           refine nB (nT ?_)
           exact .mk ⟨rfl,eo hno hx ⟨by simp_all,by simp_all,by simp_all,by simp_all⟩,hs.tail⟩
      ·rintro fr w ⟨rfl,hno,hs⟩
       refine nT ?_
       refine .ai (.z zg (.nil ?_))
       refine .ret (Fin.aU dD rfl ?_)
       exact ⟨_,rfl,.inl ⟨⟨by simp_all,by simp_all,hl20,ak,htb,fun s hs=>by
        obtain ⟨j,hj⟩:=List.getElem?_of_mem hs
        exact hno j (List.getElem?_eq_some_iff.1 hj).1 s hj⟩,rfl⟩,hs.out⟩
theorem gO{r:List Lg}{vr:Value}(hs:St H w σ)(h1:RLg H vr r):
  Cl Tryz.prog 21 [.agg #[vr]] w fun u w'=>∃e,u=I e∧E3 r e∧St H w' σ:=by
 obtain ⟨ar,cr,rfl⟩:=h1.shape
 refine Cl.o Tryz.func21 Tryz.ntmps21 ag1 ?_
 refine .ai ?_
 refine .bx hs fun b1 w hs=>?_
 refine .z zg (.nil (.seq (.ai (.z (zfa cE) (.y hs (zld di) (.z (dj aN) ?_))))))
 refine .o (.call cV rfl (aW hs) ?_);rintro _ w ⟨rfl,hs⟩
 refine .z eI (.nil ?_)
 refine (.cond rfl (fun hc9=>?_) (fun hc9=>?_))
 ·refine .ai (.z zg (.nil ?_))
  refine .ret (rT (Fin.aU Tryz.results21 rfl ?_))
  exact ⟨_,rfl,.inr ⟨fun h=>by have:=h.many;simp_all;omega,rfl⟩,hs.out⟩
 ·refine .skip ?_
  refine nT ?_
  refine .seq (.ai ?_)
  have hl20:1≤r.length∧r.length≤12:=by first|omega|(simp at hc9;omega)
  refine .z (zfa cE) (.y hs (zld di) (.z (dj aN) (.z zm (.nil ?_))))
  refine .for (N:=r.length) (J:=fun k fr w=>fr=[(11,.slice ar r.length cr),(1,.pointer (some ⟨b1,0,none⟩))]∧(∀j<k,yO (lg0 r j)∧(0<j→(lg0 r (j - 1)).to≤(lg0 r j).fr))∧St H w (.blk b1 [.slice ar r.length cr]::σ)) ak ?_ ?_ ?_
  ·exact .mk ⟨rfl,fun j hj=>by omega,hs⟩
  ·rintro k fr w hk ⟨rfl,hno,hs⟩
   have hx:=jw (l:=r) hk
   have hx1:=jw (l:=r) (i:=k - 1) ak
   refine .block (.ai (.z zm ?_))
   refine .ixX (enc:=Lg.c) hs h1 rfl rfl aN aT hx dn ?_;intro b16 o16 hc16
   refine .q hs (bL (vs:=(Lg.c (lg0 r k))) rfl gz aT hc16) ?_
   refine .o (.alloc hs eV rfl fun b4 w hs=>?_)
   refine .z zg ?_
   refine .o (.aF (vs:=(lg0 r k).c) hs rfl rfl aT fun w hs=>?_)
   change St _ _ (.blk b4 [I (lg0 r k).zone,I (lg0 r k).fr,I (lg0 r k).to,I (lg0 r k).dlo,I (lg0 r k).dhi,I (lg0 r k).blo,I (lg0 r k).bhi]::_) at hs
   refine .nil ?_
   refine .seq (.draw mix rfl hs fun w hs=>?_)
   refine .ys 0 rfl hs [_,_,_,_,_,_,_] gz aT ?_
   refine .E 1 hs ?_
   refine .call Tryz.call75 rfl (qE (x:=lg0 r k) hs) ?_;rintro _ w ⟨b19,rfl,hb19,hs⟩
   refine .go ?_
   refine .z 2 rfl eI ?_;refine .z 3 rfl zm ?_
   refine .bif (t':=21) rfl (fun hb21=>?_) (fun hb21=>?_)
   ·refine .qF (i:=4) rfl aq rfl rfl ?_
    refine .qF (i:=5) rfl aq rfl rfl ?_
    refine .qF (i:=6) rfl aq rfl rfl ?_
    refine .qF (i:=7) rfl aq rfl rfl ?_
    refine .qF (i:=8) rfl aq rfl rfl ?_
    refine .qF (i:=9) rfl aq rfl rfl ?_
    refine .qF (i:=10) rfl aq rfl rfl ?_
    refine .qF (i:=11) rfl aq rfl rfl ?_
    refine .qF (i:=12) rfl aq rfl rfl ?_
    refine .qF (i:=13) rfl aq rfl rfl ?_
    refine .qF (i:=14) rfl aq rfl rfl ?_
    refine .qF (i:=15) rfl aq rfl rfl ?_
    refine .qF (i:=16) rfl aq rfl rfl ?_
    refine .qF (i:=17) rfl aq rfl rfl ?_
    refine .z 18 rfl zpT ?_;refine .D hs ?_
    refine (.cT ?_)
    refine .ai (.z zg (.nil ?_))
    refine .ret (rB (rT (rB (rT (Fin.aU Tryz.results21 rfl ?_)))))
    exact ⟨_,rfl,.inr ⟨fun h=>by have:=hb19.2 (h.leg k hk).1;simp_all,rfl⟩,hs.out⟩
   ·refine .z 4 rfl zm ?_;refine .z 5 rfl oa ?_;refine .z 6 rfl zm ?_
    refine .gW (t':=24) rfl (fun hb24=>?_) (fun hb24=>?_)
    ·refine .z 7 rfl (zfa eR) ?_;refine .y 8 rfl hs af ?_;refine .z 9 rfl (zfa cE) ?_;refine .y 10 rfl hs di ?_;refine .z 11 rfl zm ?_;refine .z 12 rfl gC ?_
     refine .ixX (enc:=Lg.c) (i:=13) hs rfl aq (.some rfl rfl) h1 rfl rfl aN aT hx1 ak ?_;intro b31 o31 hc31
     refine .z 14 rfl (zfa eQ) ?_
     refine .r (i:=15) hs rfl aq (.some rfl rfl) (bj rfl af (hc31.get 2 rfl)) ?_
     refine .z 16 rfl mT ?_;refine .z 17 rfl zpT ?_;refine .z 18 rfl zpF ?_;refine .D hs ?_
     refine (.cz rfl (fun hc36=>?_) (fun hc36=>?_))
     ·refine .ai (.z zg (.nil ?_))
      refine .ret (rB (rT (rB (rT (Fin.aU Tryz.results21 rfl ?_)))))
      exact ⟨_,rfl,.inr ⟨fun h=>by have:=(h.leg k hk).2 ak;omega,rfl⟩,hs.out⟩
     ·refine .skip ?_
      refine nB (nT ?_)
      first
      |exact .mk ⟨rfl,fun j hj=>by
        by_cases e:j=k
        ·subst e;exact ⟨hb19.1 (by simp_all),fun _=>by omega⟩
        ·exact hno j ak,hs.tail⟩
    ·refine .qF (i:=7) rfl aq rfl rfl ?_
     refine .qF (i:=8) rfl aq rfl rfl ?_
     refine .qF (i:=9) rfl aq rfl rfl ?_
     refine .qF (i:=10) rfl aq rfl rfl ?_
     refine .qF (i:=11) rfl aq rfl rfl ?_
     refine .qF (i:=12) rfl aq rfl rfl ?_
     refine .qF (i:=13) rfl aq rfl rfl ?_
     refine .qF (i:=14) rfl aq rfl rfl ?_
     refine .qF (i:=15) rfl aq rfl rfl ?_
     refine .qF (i:=16) rfl aq rfl rfl ?_
     refine .z 17 rfl zpF ?_;refine .z 18 rfl zpF ?_;refine .D hs ?_
     refine (.cF ?_)
     refine .skip ?_
     refine nB (nT ?_)
     first
     |exact .mk ⟨rfl,fun j hj=>by
       by_cases e:j=k
       ·subst e;exact ⟨hb19.1 (by simp_all),fun _=>by omega⟩
       ·exact hno j ak,hs.tail⟩
  ·rintro fr w ⟨rfl,hno,hs⟩
   refine nT ?_
   refine .ai (.z zg (.nil ?_))
   refine .ret (Fin.aU Tryz.results21 rfl ?_)
   exact ⟨_,rfl,.inl ⟨⟨hl20,hno⟩,rfl⟩,hs.out⟩
theorem El{P:Program}{H:a8}{σ:List Ent}{s:FS}{t ty':TypeId}{x y:Operand}{p:Int}(hx:FS.ev s x=some (.int .u64 p))(hy:FS.ev s y=some (.int .u64 1)):QJ P H σ s (.binOp .shr t x y ty') (.int .u64 (p/2)):=by
 have h1:=wg (P:=P) (H:=H) (σ:=σ) (t:=t) (ty':=ty') hx hy ak
 have h2:p.fdiv (2 ^min (1:Int).toNat IntKind.u64.bits)=p/2:=by
  have:(2:Int) ^min (1:Int).toNat IntKind.u64.bits=2:=by decide
  rw [this,Int.fdiv_eq_ediv_of_nonneg _ ak]
 rw [h2] at h1
 exact h1
theorem jI{n g:Nat}{cap:List Value}{p:Nat→Prop}(hs:St H w σ)(hn:n≤1000000)(hc:∀args w,(callFunc g args).run Tryz.prog w= .ok (.enter g args) w)
  (hp:∀w i,i<n→St H w σ→Cl Tryz.prog g ([I (i:Int)]++cap) w fun u w'=>∃b,u= .bool b∧(b=true↔p i)∧St H w' σ):
  Cl Tryz.prog 157 [I (n:Int),.func (.func g) #[] cap.toArray] w fun u w'=>∃k:Nat,u=I (k:Int)∧k≤n∧(0<k→¬p (k - 1))∧(k<n→p k)∧St H w' σ:=by
 refine Cl.o Tryz.func157 Tryz.ntmps157 ag2 ?_
 refine .ai (.z zg (.nil (.ai (.z zm (.z zg (.z zg (.nil (.seq (.block ?_)))))))))
 refine .loop (fun q:Nat×Nat=>⟨26,[],[(6,I (q.2:Int)),(5,I (q.1:Int)),(1,.func (.func g) #[] cap.toArray)]⟩)
  (fun q w=>(q.1≤q.2∧q.2≤n)∧(0<q.1→¬p (q.1 - 1))∧(q.2<n→p q.2)∧St H w σ) (fun q=>q.2 - q.1) (0,n) cn
  ⟨⟨Nat.zero_le _,Nat.le_refl _⟩,fun h=>by omega,fun h=>by omega,hs⟩ ?_
 rintro ⟨i,j⟩ w ⟨⟨hij,hjn⟩,hlo,hhi,hs⟩
 dsimp only at hij hjn hlo hhi ⊢
 refine .seq (.ai (.z zm (.z zm (.z mT (.nil ?_)))))
 refine (.cz rfl (fun hc11=>?_) (fun hc11=>?_))
 ·refine .skip ?_
  refine nT ?_
  refine .block (.ai (.z zm (.z zm (.z eh ?_))))
  refine .q hs (s3 rfl aJ cf ⟨ak,ak⟩) ?_
  refine .q hs (El rfl rfl) ?_
  rw [show ((i:Int)+(j:Int))/2=(((i+j)/2:Nat):Int) by omega]
  refine .q hs (s4 rfl cf aJ ⟨ak,ak⟩) ?_
  refine .z zg (.nil (.ai (.z zm (.z zm ?_))))
  refine .o (.lG (first:=[]) rfl rfl hc (hp _ ((i+j)/2) ak hs) ?_);rintro _ w ⟨b20,rfl,hb20,hs⟩
  refine .z eI (.nil ?_)
  refine (.cond rfl (fun hc21=>?_) (fun hc21=>?_))
  ·refine .region (.z zm (.z eh (.z zg (.nil ?_))))
   refine nB (nT ?_)
   exact ⟨((i+j)/2+1,j),.fN rfl dm cn,⟨⟨by dsimp only;omega,hjn⟩,fun _ h=>(by rw [hb20.2 (by simpa using h)] at hc21;cases hc21),hhi,hs⟩,by dsimp only;omega⟩
  ·refine .region (.z zm (.z zg (.nil ?_)))
   refine nB (nT ?_)
   exact ⟨(i,(i+j)/2),.fN rfl dm cn,⟨⟨by dsimp only;omega,by dsimp only;omega⟩,hlo,fun _=>hb20.1 (by simpa using hc21),hs⟩,by dsimp only;omega⟩
 ·refine .exit ?_
  refine xT (xT (xB (nT ?_)))
  refine .ai (.z zm (.z zg (.nil ?_)))
  refine .ret (Fin.aU Tryz.results157 rfl ?_)
  obtain rfl:i=j:=by omega
  exact ⟨i,rfl,hjn,hlo,hhi,hs⟩
theorem kz{l:Lns}{vt vs:Value}{b i:Nat}(hs:St H w (.blk b [I l.length,I l.depth,vt,vs]::σ))(h1:RFb H vt l.table)(hi:i<l.table.length):
  Cl Tryz.prog 158 [I (i:Int),.pointer (some ⟨b,0,none⟩)] w fun u w'=>∃bb:Bool,u= .bool bb∧(bb=true↔l.length≤(fb0 l.table i).len)∧St H w' (.blk b [I l.length,I l.depth,vt,vs]::σ):=by
 obtain ⟨at_,ct,rfl⟩:=h1.shape
 refine Cl.o Tryz.func158 Tryz.ntmps158 ag2 ?_
 refine .ai (.z zg (.nil ?_))
 refine .seq (.draw mix rfl hs fun w hs=>?_)
 refine .z 0 rfl (zfa bP) ?_;refine .y 1 rfl hs dE ?_;refine .z 2 rfl zm ?_
 refine .ixX (enc:=Fbd.c) (i:=3) hs rfl aq .none h1 rfl rfl bh bC (mJ hi) dn ?_;intro b7 o7 hc7
 refine .z 4 rfl (zfa bH) ?_
 refine .r (i:=5) hs rfl aq .none (bj rfl af (hc7.get 0 rfl)) ?_
 refine .z 6 rfl (zfa e9) ?_;refine .y 7 rfl hs af ?_;refine .z 8 rfl sK ?_;refine .z 9 rfl zg ?_;refine .D hs ?_
 refine .ret (Fin.aU Tryz.results158 rfl ?_)
 exact ⟨_,rfl,dm,hs⟩
theorem lV{a d:Int}(hs:St H w σ)(hd:1≤d)(ha: -4608000000000000000≤a∧a≤4608000000000000000):
  Cl Tryz.prog 140 [I a,I d] w fun v w'=>v=I (a/d)∧St H w' σ:=by
 have hq:=Fv hd ha
 have hfl:=qd (n:=a) (d:=d) ak
 refine Cl.o Tryz.func140 Tryz.ntmps140 ag2 ?_
 refine .ai (.z zg (.nil (.ai (.z zm (.z zm ?_)))))
 refine .q hs (xd rfl rfl ak ⟨ak,ak⟩) ?_
 refine .z zg (.nil (.seq (.ai (.z zm (.z zm (.z Ff (.z mT (.nil ?_))))))))
 refine (.cz rfl (fun hc12=>?_) (fun hc12=>?_))
 ·refine .region (.z zm (.z gC (.z zg (.nil ?_))))
  refine nT ?_
  refine .ai (.z zm (.z zg (.nil ?_)))
  refine .ret (Fin.aU Tryz.results140 rfl ?_)
  rw [if_pos hc12] at hfl
  exact ⟨by rw [hfl],hs⟩
 ·refine .skip ?_
  refine nT ?_
  refine .ai (.z zm (.z zg (.nil ?_)))
  refine .ret (Fin.aU Tryz.results140 rfl ?_)
  rw [if_neg hc12,Int.sub_zero] at hfl
  exact ⟨by rw [hfl],hs⟩
theorem fl{l:Lns}{vt vs:Value}(hs:St H w σ)(h1:RFb H vt l.table)(hl:fm l):
  Cl Tryz.prog 102 [.agg #[I l.length,I l.depth,vt,vs]] w fun u w'=>∃n b,u= .tuple #[I n,.bool b]∧tO l n b∧St H w' σ:=by
 obtain ⟨at_,ct,rfl⟩:=h1.shape
 have hm:=hl.many
 have hr:=fun {j i:Nat}=>tm hl.table (j:=j) (i:=i)
 refine Cl.o Tryz.func102 Tryz.ntmps102 ag1 ?_
 refine .ai ?_
 refine .bx hs fun b1 w hs=>?_
 refine .z zg (.z zg (.nil (.ai (.z (zfa bP) (.y hs (zld dE) (.z (dj bh) ?_))))))
 refine .q hs (bR (f:=[]) (c:=[_]) rfl rfl) ?_
 refine .o (.call Tryz.call157 rfl (jI (cap:=[.pointer (some ⟨b1,0,none⟩)]) (p:=fun i=>l.length≤(fb0 l.table i).len) hs ak Tryz.call158 (fun w i hi hs=>kz hs h1 hi)) ?_);rintro _ w ⟨k,rfl,hk,hlo,hhi,hs⟩
 have hbig:∀i<l.table.length,k≤i→l.length≤(fb0 l.table i).len:=fun i hi hki=>by
  by_cases e:i=k
  ·subst e;exact hhi hi
  ·have:=hr (show k<i by omega) hi
   have:=hhi ak
   omega
 have hsml:∀i<k,(fb0 l.table i).len<l.length:=fun i hi=>by
  by_cases e:i=k - 1
  ·subst e;have:=hlo ak;omega
  ·have:=hr (show i<k - 1 by omega) ak
   have:=hlo ak
   omega
 refine .z zg (.nil (.seq (.block (.ai (.z zm (.z (zfa bP) (.y hs (zld dE) (.z (dj bh) (.z jH ?_)))))))))
 refine .z zg (.nil ?_)
 refine (.cz rfl (fun hc12=>?_) (fun hc12=>?_))
 ·refine .ai (.z zg (.z zg (.nil ?_)))
  refine .ret (rB (rT (Fin.jr Tryz.results102 rfl rfl ?_)))
  exact ⟨_,_,rfl,.none (fun i hi h=>by have:=hsml i ak;omega) (fun i hi h0 h=>by have:=hsml i ak;omega),hs.out⟩
 ·refine .seq (.draw mix rfl hs fun w hs=>?_)
  refine .z 0 rfl (zfa bP) ?_;refine .y 1 rfl hs dE ?_;refine .z 2 rfl zm ?_
  have hk':k<l.table.length:=by omega
  have hx:=mJ hk'
  have hx1:=mJ (l:=l.table) (i:=k - 1) ak
  refine .ixX (enc:=Fbd.c) (i:=3) hs rfl aq .none h1 rfl rfl bh bC hx rfl ?_;intro b22 o22 hc22
  refine .z 4 rfl (zfa bH) ?_
  refine .r (i:=5) hs rfl aq .none (bj rfl af (hc22.get 0 rfl)) ?_
  refine .z 6 rfl (zfa e9) ?_;refine .y 7 rfl hs af ?_;refine .z 8 rfl jH ?_;refine .z 9 rfl zg ?_;refine .D hs ?_
  refine (.cz rfl (fun hc18=>?_) (fun hc18=>?_))
  ·refine .ai (.z (zfa bP) (.y hs (zld dE) (.z zm ?_)))
   refine .ixX (enc:=Fbd.c) hs h1 rfl rfl bh bC hx rfl ?_;intro b31 o31 hc31
   refine .z (zfa de) ?_
   refine .q hs (bj rfl af (hc31.get 1 rfl)) ?_
   refine .z zg (.z zg (.nil ?_))
   refine .ret (rB (rT (Fin.jr Tryz.results102 rfl rfl ?_)))
   exact ⟨_,_,rfl,.at_ hk' hc18,hs.out⟩
  ·refine .ai (.z zm (.z jH (.z zg (.nil ?_))))
   refine (.cz rfl (fun hc34=>?_) (fun hc34=>?_))
   ·refine .ai (.z zg (.z zg (.nil ?_)))
    refine .ret (rB (rT (Fin.jr Tryz.results102 rfl rfl ?_)))
    obtain rfl:k=0:=by omega
    exact ⟨_,_,rfl,.none (fun i hi h=>by
     by_cases e:i=0
     ·subst e;exact hc18 h
     ·have:=hr (show 0<i by omega) hi;have:=hbig 0 hk' ak;omega) (fun i hi h0 h=>by have:=hbig (i - 1) ak ak;omega),hs.out⟩
   ·refine .skip ?_
    refine nB (nT ?_)
    refine .cut (fun fs w=>∃b5 b6,j5 fs ⟨69,[],[(6,.pointer (some ⟨b6,0,none⟩)),(5,.pointer (some ⟨b5,0,none⟩)),(1,.pointer (some ⟨b1,0,none⟩))]⟩∧St H w (.blk b6 (fb0 l.table k).c:: .blk b5 (fb0 l.table (k - 1)).c:: .blk b1 [I l.length,I l.depth,.slice at_ l.table.length ct,vs]::σ)) ?_ ?_
    ·refine .draw mix rfl hs fun w hs=>?_
     refine .z 0 rfl (zfa bP) ?_;refine .y 1 rfl hs dE ?_;refine .z 2 rfl zm ?_;refine .z 3 rfl gC ?_
     refine .ixX (enc:=Fbd.c) (i:=4) hs rfl aq .none h1 rfl rfl bh bC hx1 ak ?_;intro b41 o41 hc41
     refine .r (i:=5) hs rfl aq .none (bL (vs:=(fb0 l.table (k - 1)).c) rfl Tryz.isAgg134 bC hc41) ?_
     refine .z 6 rfl (zfa bP) ?_;refine .y 7 rfl hs dE ?_;refine .z 8 rfl zm ?_
     refine .ixX (enc:=Fbd.c) (i:=9) hs rfl aq .none h1 rfl rfl bh bC hx rfl ?_;intro b46 o46 hc46
     refine .r (i:=10) hs rfl aq .none (bL (vs:=(fb0 l.table k).c) rfl Tryz.isAgg134 bC hc46) ?_
     refine .e2 (i:=11) (j:=12) aq rfl rfl rfl rfl .none .none hs ?_ ?_
     ·refine .alloc hs fo rfl ?_;intro b5 w hs
      refine .go ?_
      refine .E 12 hs ?_
      refine .alloc hs fo rfl ?_;intro b6 w hs
      refine .go ?_
      refine .E 13 hs ?_
      refine .aF (vs:=(fb0 l.table (k - 1)).c) hs rfl rfl bC ?_;intro w hs
      refine .go ?_
      refine .E 14 hs ?_
      refine .aF (vs:=(fb0 l.table k).c) hs rfl rfl bC ?_;intro w hs
      refine .go ?_
      refine .D hs ?_
      exact nT ⟨b5,b6,cn,hs.sb⟩
     ·refine .alloc hs fo rfl ?_;intro b6 w hs
      refine .go ?_
      refine .E 11 hs ?_
      refine .alloc hs fo rfl ?_;intro b5 w hs
      refine .go ?_
      refine .E 13 hs ?_
      refine .aF (vs:=(fb0 l.table (k - 1)).c) hs rfl rfl bC ?_;intro w hs
      refine .go ?_
      refine .E 14 hs ?_
      refine .aF (vs:=(fb0 l.table k).c) hs rfl rfl bC ?_;intro w hs
      refine .go ?_
      refine .D hs ?_
      exact nT ⟨b5,b6,cn,hs.sb⟩
    ·rintro fs w ⟨b5,b6,hfs,hs⟩
     refine WE.sub ?_ hfs
     clear hfs
     change St _ _ (.blk b6 [I (fb0 l.table k).len,I (fb0 l.table k).least]:: .blk b5 [I (fb0 l.table (k - 1)).len,I (fb0 l.table (k - 1)).least]::_) at hs
     have h3:=hsml (k - 1) ak
     have h4:l.length<(fb0 l.table k).len:=by have:=hbig k hk' (Nat.le_refl _);omega
     have hX:=z8 hl hk' h3 h4
     have a1:=hl.table (k - 1) ak
     have a2:=a1.len
     have a3:=a1.least
     have b2:=(hl.table k hk').len
     have b3:=(hl.table k hk').least
     have hL:=hl.length
     refine .seq (.draw mix rfl hs fun w hs=>?_)
     refine .z 0 rfl (zfa de) ?_;refine .y 1 rfl hs af ?_;refine .z 2 rfl (zfa de) ?_;refine .y 3 rfl hs af ?_;refine .z 4 rfl gC ?_;refine .z 5 rfl (zfa e9) ?_;refine .y 6 rfl hs af ?_;refine .z 7 rfl (zfa bH) ?_;refine .y 8 rfl hs af ?_;refine .z 9 rfl gC ?_
     refine .z 10 rfl qj ?_;refine .z 11 rfl (zfa bH) ?_;refine .y 12 rfl hs af ?_;refine .z 13 rfl (zfa bH) ?_;refine .y 14 rfl hs af ?_;refine .z 15 rfl gC ?_;refine .z 18 rfl (zfa de) ?_;refine .y 19 rfl hs af ?_
     refine .E 16 hs ?_
     refine .call Tryz.call140 rfl (lV hs ak ak) ?_;rintro _ w ⟨rfl,hs⟩
     refine .go ?_
     refine .z 17 rfl Cj ?_;refine .z 20 rfl eh ?_;refine .z 21 rfl zg ?_;refine .z 22 rfl zg ?_;refine .D hs ?_
     refine .ret (Fin.jr Tryz.results102 rfl rfl ?_)
     have hmid:=tO.mid hk' ak h3 h4
     unfold xw at hmid
     exact ⟨_,_,rfl,(by rw [show ∀a b:Int,-a+b=b - a from fun a b=>by omega];exact hmid),hs.out⟩
theorem mD{l:Lns}{vt vs:Value}(hs:St H w σ)(h1:RFb H vt l.table)(h2:RSn H vs l.seasons):
  Cl Tryz.prog 37 [.agg #[I l.length,I l.depth,vt,vs]] w fun u w'=>∃n e,u= .tuple #[I n,I e]∧vB l n e∧St H w' σ:=by
 refine Cl.o Tryz.func37 Tryz.ntmps37 ag1 ?_
 refine .ai ?_
 refine .bx hs fun b1 w hs=>?_
 refine .z zg (.z zg (.nil (.seq (.ai (.y hs (zls [_,_,_,_] br aP) ?_)))))
 refine .o (.call Tryz.call19 rfl (dQ hs h1 h2) ?_);rintro _ w ⟨e,rfl,he,hs⟩
 refine .z zg (.nil (.ai (.z zm (.z ja (.nil ?_)))))
 refine (.eS rfl (fun hc10=>?_) (fun hc10=>?_))
 ·refine .ai (.z zm (.z zg (.z zg (.nil ?_))))
  refine .ret (rT (Fin.jr Tryz.results37 rfl rfl ?_))
  have h:=he.resolve_left fun h=>hc10 h.2
  exact ⟨_,_,rfl,by rw [h.2];exact .lines h.1,hs.out⟩
 ·refine .skip ?_
  refine nT ?_
  refine .ai (.y hs (zls [_,_,_,_] br aP) ?_)
  have hok:fm l:=(he.resolve_right fun h=>by omega).1
  refine .o (.call Tryz.call102 rfl (fl hs h1 hok) ?_);rintro _ w ⟨n,b,rfl,hF,hs⟩
  refine .z zm (.z zex (.z zex (.z zg (.z zg (.nil (.seq (.ai (.z zm (.z eI ?_)))))))))
  refine .nil ?_
  refine (.cond rfl (fun hc18=>?_) (fun hc18=>?_))
  ·refine .ai (.z zg (.z zg (.nil ?_)))
   refine .ret (rT (Fin.jr Tryz.results37 rfl rfl ?_))
   obtain rfl:b=false:=by simpa using hc18
   exact ⟨_,_,rfl,.none hok hF,hs.out⟩
  ·refine .skip ?_
   refine nT ?_
   refine .ai (.z zm (.z zg (.z zg (.nil ?_))))
   refine .ret (Fin.jr Tryz.results37 rfl rfl ?_)
   obtain rfl:b=true:=by simpa using hc18
   exact ⟨_,_,rfl,.ok hok hF,hs.out⟩
theorem kD{d:Int}(hs:St H w σ)(h:0≤d):Cl Tryz.prog 106 [I d] w fun v w'=>v=I (1+d%365)∧St H w' σ:=by
 have e:d.tmod 365=d%365:=Int.tmod_eq_emod_of_nonneg h
 refine Cl.o Tryz.func106 Tryz.ntmps106 ag1 ?_
 refine .ai (.z zg (.nil (.ai (.z zm (.z Ff ?_)))))
 rw [e]
 refine .z eh (.z zg (.nil ?_))
 refine .ret (Fin.aU Tryz.results106 rfl ?_)
 exact ⟨rfl,hs⟩
theorem rA{s:Ssn}{d:Int}(hs:St H w σ):Cl Tryz.prog 159 [.agg #[I s.zone,I s.fr,I s.to,I s.extra],I d] w fun v w'=>v= .bool (decide (vz s d))∧St H w' σ:=by
 refine Cl.o Tryz.func159 Tryz.ntmps159 ag2 ?_
 refine .ai ?_
 refine .bx hs fun b2 w hs=>?_
 refine .z zg (.nil (.seq (.ai (.z (zfa eP) (.y hs (zld af) (.z (zfa eO) (.y hs (zld af) (.z oa (.nil ?_)))))))))
 refine (.cz rfl (fun hc9=>?_) (fun hc9=>?_))
 ·refine .ai (.z zm (.z (zfa eP) (.y hs (zld af) (.z sK (.z zm ?_)))))
  refine .gW (t':=14) rfl (fun hb14=>?_) (fun hb14=>?_)
  ·refine .gFs 4 4 false rfl rfl rfl ?_
   refine .z zpT (.z zg (.nil ?_))
   refine .ret (rT (Fin.aU Tryz.results159 rfl ?_))
   refine ⟨?_,hs.out⟩
   congr 1
   have e:¬s.fr≤s.to:=by omega
   simp only [vz,if_neg e]
   symm
   simp [*]
  ·refine .gT rfl rfl ?_
   refine .z zm ?_
   refine .gT rfl rfl ?_
   refine .z (zfa eO) ?_
   refine .gT rfl rfl ?_
   refine .y hs (zld af) ?_
   refine .gT rfl rfl ?_
   refine .z px (.z zpF (.z zg (.nil ?_)))
   refine .ret (rT (Fin.aU Tryz.results159 rfl ?_))
   refine ⟨?_,hs.out⟩
   congr 1
   have e:¬s.fr≤s.to:=by omega
   simp only [vz,if_neg e]
   simp [*]
 ·refine .skip ?_
  refine nT ?_
  refine .ai (.z zm (.z (zfa eP) (.y hs (zld af) (.z (zfa eO) (.y hs (zld af) ?_)))))
  refine .o (.call cV rfl (aW hs) ?_);rintro _ w ⟨rfl,hs⟩
  refine .z zg (.nil ?_)
  refine .ret (Fin.aU Tryz.results159 rfl ?_)
  refine ⟨?_,hs.out⟩
  congr 1
  have e:s.fr≤s.to:=by omega
  simp only [vz,if_pos e]
theorem kC{l:Lns}{vt vs:Value}{z d:Int}(hs:St H w σ)(h2:RSn H vs l.seasons)(hl:fm l):
  Cl Tryz.prog 105 [.agg #[I l.length,I l.depth,vt,vs],I z,I d] w fun v w'=>v=I (iN l.seasons z d)∧St H w' σ:=by
 obtain ⟨as_,cs,rfl⟩:=h2.shape
 have hm:=hl.most
 refine Cl.o Tryz.func105 Tryz.ntmps105 ag3 ?_
 refine .ai ?_
 refine .bx hs fun b3 w hs=>?_
 refine .z zg (.nil (.ai (.z zg (.nil (.seq (.ai (.z (zfa eC) (.y hs (zld yE) (.z (dj dq) ?_)))))))))
 refine .z zm (.nil ?_)
 refine .for (N:=l.seasons.length) (J:=fun k fr w=>fr=[(7,I (iN (l.seasons.take k) z d)),(11,.slice as_ l.seasons.length cs),(1,I z),(2,I d)]∧St H w σ) ak ?_ ?_ ?_
 ·exact .mk ⟨rfl,hs.out⟩
 ·rintro k fr w hk ⟨rfl,hs⟩
  obtain ⟨s,hx⟩:=nth hk
  have hE:=qP (l.seasons.take k) s z d
  rw [←bT hx] at hE
  refine .block (.ai ?_)
  refine .ixX (enc:=Ssn.c) hs h2 rfl rfl dq dY hx dn ?_;intro b15 o15 hc15
  refine .q hs (bL (vs:=(Ssn.c s)) rfl Tryz.isAgg104 dY hc15) ?_
  refine .o (.alloc hs tY rfl fun b9 w hs=>?_)
  refine .o (.aF (vs:=s.c) hs rfl rfl dY fun w hs=>?_)
  change St _ _ (.blk b9 [I s.zone,I s.fr,I s.to,I s.extra]::_) at hs
  refine .nil (.ai (.z (zfa iq) (.y hs (zld af) (.z zm (.z jH (.z zm ?_))))))
  refine .gW (t':=21) rfl (fun hb21=>?_) (fun hb21=>?_)
  ·refine .gT rfl rfl ?_
   refine .y hs (zls [_,_,_,_] Tryz.isAgg104 dY) ?_
   refine .gT rfl rfl ?_
   refine .z zm ?_
   refine .gT rfl rfl ?_
   refine .o (.call Tryz.call159 rfl (rA (s:=s) hs) ?_);rintro _ w ⟨rfl,hs⟩
   refine .z zpT (.nil ?_)
   refine (.cond rfl (fun hc25=>?_) (fun hc25=>?_))
   ·refine .region (.z zm (.z (zfa im) (.y hs (zld af) (.z Cm (.z zg (.nil ?_))))))
    refine nB (nT ?_)
    rw [if_pos ⟨by assumption,by simpa using hc25⟩] at hE
    exact .mk ⟨by rw [hE],hs.out⟩
   ·refine .skip ?_
    refine nB (nT ?_)
    rw [if_neg (fun h=>of_decide_eq_false hc25 h.2)] at hE
    exact .mk ⟨by rw [hE],hs.out⟩
  ·refine .gFs 3 4 true rfl rfl rfl ?_
   refine .z zpF (.nil ?_)
   refine (.cF ?_)
   refine .skip ?_
   refine nB (nT ?_)
   rw [if_neg (fun h=>by have:=h.1;contradiction)] at hE
   exact .mk ⟨by rw [hE],hs.out⟩
 ·rintro fr w ⟨rfl,hs⟩
  rw [List.take_length]
  refine nT ?_
  refine .ai (.z zm (.z zg (.nil ?_)))
  refine .ret (Fin.aU Tryz.results105 rfl ?_)
  exact ⟨rfl,hs⟩
theorem ny{l:Lns}{vt vs:Value}{z d:Int}(hs:St H w σ)(h1:RFb H vt l.table)(h2:RSn H vs l.seasons):
  Cl Tryz.prog 104 [.agg #[I l.length,I l.depth,vt,vs],I z,I d] w fun v w'=>∃e,v=I e∧wW l z d e∧St H w' σ:=by
 refine Cl.o Tryz.func104 Tryz.ntmps104 ag3 ?_
 refine .ai ?_
 refine .bx hs fun b3 w hs=>?_
 refine .z zg (.nil (.seq (.ai (.y hs (zls [_,_,_,_] br aP) ?_))))
 refine .o (.call Tryz.call19 rfl (dQ hs h1 h2) ?_);rintro _ w ⟨e,rfl,he,hs⟩
 refine .z zg (.nil (.ai (.z zm (.z ja (.nil ?_)))))
 refine (.eS rfl (fun hc11=>?_) (fun hc11=>?_))
 ·refine .ai (.z zm (.z zg (.nil ?_)))
  refine .ret (rT (Fin.aU Tryz.results104 rfl ?_))
  have h:=he.resolve_left fun h=>hc11 h.2
  exact ⟨_,rfl,by rw [h.2];exact .lines h.1,hs.out⟩
 ·refine .skip ?_
  refine nT ?_
  refine .seq (.block (.ai ?_))
  have hok:fm l:=(he.resolve_right fun h=>by omega).1
  refine .z zm ?_
  refine .o (.call Tryz.call73 rfl (gE hs) ?_);rintro _ w ⟨rfl,hs⟩
  refine .z eI (.z zg (.nil ?_))
  refine (.cond rfl (fun hc13=>?_) (fun hc13=>?_))
  ·refine .ai (.z zg (.nil ?_))
   refine .ret (rB (rT (Fin.aU Tryz.results104 rfl ?_)))
   exact ⟨_,rfl,.zone hok (by simp at hc13;omega),hs.out⟩
  ·refine .ai (.z zm ?_)
   refine .o (.call cV rfl (aW hs) ?_);rintro _ w ⟨rfl,hs⟩
   refine .z eI (.z zg (.nil ?_))
   refine (.cond rfl (fun hc17=>?_) (fun hc17=>?_))
   ·refine .ai (.z zg (.nil ?_))
    refine .ret (rB (rT (Fin.aU Tryz.results104 rfl ?_)))
    exact ⟨_,rfl,.day hok (by simpa using hc13) (by simp at hc17;omega),hs.out⟩
   ·refine .skip ?_
    refine nB (nT ?_)
    refine .ai (.z zg (.nil ?_))
    refine .ret (Fin.aU Tryz.results104 rfl ?_)
    exact ⟨_,rfl,.ok hok (by simpa using hc13) (by simpa using hc17),hs.out⟩
theorem pM{l:Lns}{vt vs:Value}{z d:Int}(hs:St H w σ)(h1:RFb H vt l.table)(h2:RSn H vs l.seasons):
  Cl Tryz.prog 41 [.agg #[I l.length,I l.depth,vt,vs],I z,I d] w fun u w'=>∃n e,u= .tuple #[I n,I e]∧AF l z d n e∧St H w' σ:=by
 refine Cl.o Tryz.func41 Tryz.ntmps41 ag3 ?_
 refine .ai ?_
 refine .bx hs fun b3 w hs=>?_
 refine .z zg (.z zg (.nil (.seq (.ai (.y hs (zls [_,_,_,_] br aP) (.z zm (.z zm ?_)))))))
 refine .o (.call Tryz.call104 rfl (ny hs h1 h2) ?_);rintro _ w ⟨e,rfl,he,hs⟩
 refine .z zg (.nil (.ai (.z zm (.z ja (.nil ?_)))))
 refine (.eS rfl (fun hc16=>?_) (fun hc16=>?_))
 ·refine .ai (.z zm (.z zg (.z zg (.nil ?_))))
  refine .ret (rT (Fin.jr Tryz.results41 rfl rfl ?_))
  exact ⟨_,_,rfl,.bad he hc16,hs.out⟩
 ·refine .skip ?_
  refine nT ?_
  refine .ai (.y hs (zls [_,_,_,_] br aP) ?_)
  obtain rfl:e=0:=by omega
  obtain ⟨hok,hz,hd⟩:=he.zero
  refine .o (.call Tryz.call102 rfl (fl hs h1 hok) ?_);rintro _ w ⟨n,b,rfl,hF,hs⟩
  refine .z zm (.z zex (.z zex (.z zg (.z zg (.nil (.seq (.ai (.z zm (.z eI ?_)))))))))
  refine .nil ?_
  refine (.cond rfl (fun hc24=>?_) (fun hc24=>?_))
  ·refine .ai (.z zg (.z zg (.nil ?_)))
   refine .ret (rT (Fin.jr Tryz.results41 rfl rfl ?_))
   obtain rfl:b=false:=by simpa using hc24
   exact ⟨_,_,rfl,.none he hF,hs.out⟩
  ·refine .skip ?_
   refine nT ?_
   refine .seq (.draw mix rfl hs fun w hs=>?_)
   obtain rfl:b=true:=by simpa using hc24
   have hn:=hF.bd hok
   have hdp:=hok.depth
   have hE:=uV hok.seasons z (1+d%365)
   refine .z 0 rfl (zfa fX) ?_;refine .y 1 rfl hs af ?_;refine .z 2 rfl zm ?_;refine .z 3 rfl gC ?_;refine .ys 4 rfl hs [_,_,_,_] br aP ?_;refine .z 5 rfl zm ?_;refine .z 6 rfl zm ?_
   refine .E 7 hs ?_
   refine .call Tryz.call106 rfl (kD hs hd.1) ?_;rintro _ w ⟨rfl,hs⟩
   refine .go ?_
   refine .E 8 hs ?_
   refine .call Tryz.call105 rfl (kC hs h2 hok) ?_;rintro _ w ⟨rfl,hs⟩
   refine .go ?_
   refine .z 9 rfl gC ?_;refine .z 10 rfl zg ?_;refine .z 11 rfl zg ?_;refine .D hs ?_
   refine .ret (Fin.jr Tryz.results41 rfl rfl ?_)
   exact ⟨_,_,rfl,.ok he hF,hs.out⟩
theorem oI{s:Spc}{vst vwa:Value}{h:Int}{b c i:Nat}(hs:St H w (.blk c [I h]:: .blk b [I s.id,I s.src,vst,vwa,I s.al,I s.up]::σ))(h2:RI H vwa s.wa)(hi:i<s.wa.length)(hok:dh s):
  Cl Tryz.prog 166 [I (i:Int),.pointer (some ⟨b,0,none⟩),.pointer (some ⟨c,0,none⟩)] w fun u w'=>∃bb:Bool,u= .bool bb∧(bb=true↔h<gi s.wa i - gi s.wa 0)∧St H w' (.blk c [I h]:: .blk b [I s.id,I s.src,vst,vwa,I s.al,I s.up]::σ):=by
 obtain ⟨awa,cwa,rfl⟩:=RI.shape h2
 have b1:=hok.wa.bd hi
 have b2:=hok.wa.bd (i:=0) ak
 refine Cl.o Tryz.func166 Tryz.ntmps166 ag3 ?_
 refine .ai (.z zg (.nil ?_))
 refine .seq (.draw mix rfl hs fun w hs=>?_)
 refine .z 0 rfl (zfa bA) ?_;refine .y 1 rfl hs an ?_;refine .z 2 rfl zm ?_
 refine .ixX (enc:=fun x=>[I x]) (i:=3) hs rfl aq .none h2 rfl rfl ae aj (bw (l:=s.wa) (i:=i) ak) dn ?_;intro b8 o8 hc8;replace hc8:=bI.one hc8
 refine .r (i:=4) hs rfl aq .none (bj rfl af hc8) ?_
 refine .z 5 rfl (zfa bA) ?_;refine .y 6 rfl hs an ?_
 refine .ixX (enc:=fun x=>[I x]) (i:=7) hs rfl aq .none h2 rfl rfl ae aj (bw (l:=s.wa) (i:=0) ak) dn ?_;intro b12 o12 hc12;replace hc12:=bI.one hc12
 refine .r (i:=8) hs rfl aq .none (bj rfl af hc12) ?_
 refine .z 9 rfl gC ?_;refine .y 10 rfl hs af ?_;refine .z 11 rfl oa ?_;refine .z 12 rfl zg ?_;refine .D hs ?_
 refine .ret (Fin.aU Tryz.results166 rfl ?_)
 exact ⟨_,rfl,dm,hs⟩
theorem qG{s:Spc}{vst vwa:Value}{h:Int}(hs:St H w σ)(h2:RI H vwa s.wa)(hok:dh s):
  Cl Tryz.prog 112 [.agg #[I s.id,I s.src,vst,vwa,I s.al,I s.up],I h] w fun u w'=>∃k,u=I k∧AK s.wa h k∧St H w' σ:=by
 obtain ⟨awa,cwa,rfl⟩:=RI.shape h2
 have hm:=hok.wa.many
 have hr:=fun {i j:Nat}=>hok.wa.le (i:=i) (j:=j)
 refine Cl.o Tryz.func112 Tryz.ntmps112 ag2 ?_
 refine .ai ?_
 refine .bx hs fun b2 w hs=>?_
 refine .bx hs fun b3 w hs=>?_
 refine .z zg (.nil (.ai (.z (zfa bA) (.y hs (zld an) (.z (dj ae) ?_)))))
 refine .q hs (bR (f:=[]) (c:=[_,_]) rfl rfl) ?_
 refine .o (.call Tryz.call157 rfl (jI (cap:=[.pointer (some ⟨b2,0,none⟩),.pointer (some ⟨b3,0,none⟩)]) (p:=fun i=>h<gi s.wa i - gi s.wa 0) hs ak Tryz.call166 (fun w i hi hs=>oI hs h2 hi hok)) ?_);rintro _ w ⟨k,rfl,hk,hlo,hhi,hs⟩
 refine .z gC (.z zg (.nil ?_))
 refine .ret (Fin.aU Tryz.results112 rfl ?_)
 refine ⟨_,rfl,⟨ak,ak,fun i hi=>⟨fun g=>?_,fun g=>?_⟩⟩,hs.out⟩
 ·by_cases e:(i:Int)≤k - 1
  ·exact e
  ·have h3:=hhi ak
   have:=hr (show k≤i by omega) hi;omega
 ·have h3:=hlo ak
  have:=hr (show i≤k - 1 by omega) ak;omega
def rG(x:Lg):List (List Value):=(List.range (kO x)).map fun j=>[I (1+(x.fr+(j:Nat))%365)]
theorem kN(x:Lg):(rG x).length=kO x:=by simp [rG]
theorem uZ{x:Lg}{j:Nat}(h:j<(rG x).length):(rG x)[j]=[I (1+(x.fr+j)%365)]:=by simp [rG]
theorem pL{H:a8}{b:Nat}{x:Lg}(hb:Row H b [I x.zone,I x.fr,I x.to,I x.dlo,I x.dhi,I x.blo,I x.bhi])(hx:yO x):
  Iter Tryz.prog 218 [.pointer (some ⟨b,0,none⟩)] H (rG x):=by
 intro ly II Ix hmI _ hy H0 σb0 σf w hle hI0 hs
 have g1:cellAt H0 b 1=some (I x.fr):=cellAt.mono (hb.at 1) hle
 have hd:=An hx
 have hdn:(kO x:Int)=min x.to (x.fr+364) - x.fr+1:=by have:=hx.fr;unfold kO;omega
 have hf:=hx.fr
 have ht:=hx.to
 refine Cl.o Tryz.func218 Tryz.ntmps218 ag2 ?_
 refine .ai (.z (zfa eR) (.y hs (zld af) (.z zg (.nil (.block ?_)))))
 refine .loop (fun j:Nat=>⟨22,[],[(3,I (x.fr+(j:Int))),(0,.func (.yield ly) #[] #[]),(1,.pointer (some ⟨b,0,none⟩))]⟩)
  (fun j w=>j≤kO x∧∃H1 σb,HLe H H1∧HLe H0 H1∧II j H1 σb∧St H1 w (σb++σf)) (fun j=>kO x - j) 0 (.cons (by show some (I _)=some (I _);congr 2;omega) cn)
  ⟨Nat.zero_le _,H0,σb0,hle,HLe.refl _,hI0,hs⟩ ?_
 rintro j w ⟨hj,H1,σb,hle1,hle0,hI,hs⟩
 have h1:cellAt H1 b 1=some (I x.fr):=cellAt.mono (hb.at 1) hle1
 have h2:cellAt H1 b 2=some (I x.to):=cellAt.mono (hb.at 2) hle1
 refine .seq (.ai (.z zm (.z (zfa eQ) (.y hs (zld af) (.z (zfa eR) (.y hs (zld af) (.z eh (.z gC (.z Ck ?_)))))))))
 refine .z px (.nil ?_)
 refine (.cz rfl (fun hc14=>?_) (fun hc14=>?_))
 ·refine .skip ?_
  refine nT ?_
  refine .seq (.block (.ai (.z zm (.z zm ?_))))
  refine .o (.call Tryz.call106 rfl (kD hs ak) ?_);rintro _ w ⟨rfl,hs⟩
  have hk':j<(rG x).length:=by rw [kN];omega
  have hyd:=hy j hk' H1 σb σf w hle1 hI hs
  rw [uZ hk'] at hyd
  refine .o (.yield rfl rfl hyd ?_);rintro v20 w ⟨H5,σ5,g1,hs,g3'⟩
  obtain ⟨bb,rfl,gT,gF⟩:=km g3'
  refine .z eI (.nil ?_)
  refine (.cond rfl (fun hc21=>?_) (fun hc21=>?_))
  ·refine .ret (rB (rT (rT (rB (Fin.DJ Tryz.results218 ?_)))))
   exact ⟨H5,σ5,hle0.trans g1,hs,.inr (gF (by simpa using hc21))⟩
  ·refine .skip ?_
   refine nB (nT ?_)
   refine .region (.z zm (.z eh (.z zg (.nil ?_))))
   refine nT ?_
   exact ⟨j+1,.cons (by show some (I _)=some (I _);congr 2;omega) cn,⟨ak,H5,σ5,hle1.trans g1,hle0.trans g1,gT (by simpa using hc21),hs⟩,ak⟩
 ·refine .exit ?_
  refine xT (xT (xB ?_))
  obtain rfl:j=kO x:=by omega
  exact Fin.uY Tryz.results218 ⟨H1,σb,hle0,hs,.inl (by rw [kN];exact hI)⟩
theorem rC{x:Lg}(hs:St H w σ)(hx:yO x):
  Cl Tryz.prog 169 [.agg #[I x.zone,I x.fr,I x.to,I x.dlo,I x.dhi,I x.blo,I x.bhi]] w fun u w'=>∃H1 b,HLe H H1∧u= .func (.func 218) #[] #[.pointer (some ⟨b,0,none⟩)]∧Iter Tryz.prog 218 [.pointer (some ⟨b,0,none⟩)] H1 (rG x)∧St H1 w' σ:=by
 refine Cl.o Tryz.func169 Tryz.ntmps169 ag1 ?_
 refine .ai ?_
 refine .bx hs fun b1 w hs=>?_
 refine .z zg (.nil (.ai ?_))
 refine .q hs (bR (f:=[]) (c:=[_]) rfl rfl) ?_
 refine .z zg (.nil ?_)
 refine .ret (Fin.aU Tryz.results169 rfl ?_)
 obtain ⟨H1,g1,g2,hs⟩:=hs.bY .here
 exact ⟨H1,b1,g1,rfl,pL g2 hx,hs⟩
set_option maxHeartbeats 1000000 in
theorem pI{s:Spc}{l:Lns}{x:Lg}{vst vwa vt vs:Value}(hs:St H w σ)(g2:RI H vwa s.wa)(h1:RFb H vt l.table)(h2:RSn H vs l.seasons)(hsp:dh s)(hl:fm l)(hx:yO x):
  Cl Tryz.prog 115 [.agg #[I s.id,I s.src,vst,vwa,I s.al,I s.up],.agg #[I l.length,I l.depth,vt,vs],.agg #[I x.zone,I x.fr,I x.to,I x.dlo,I x.dhi,I x.blo,I x.bhi]] w fun u w'=>∃H1 k e,HLe H H1∧u= .tuple #[I k,I e]∧tL s.wa l x k e∧St H1 w' σ:=by
 refine Cl.o Tryz.func115 Tryz.ntmps115 ag3 ?_
 refine .ai ?_
 refine .bx hs fun b3 w hs=>?_
 refine .bx hs fun b4 w hs=>?_
 refine .bx hs fun b5 w hs=>?_
 refine .z zg (.z zg (.nil (.ai (.y hs (zls [_,_,_,_] br aP) ?_))))
 refine .o (.call Tryz.call102 rfl (fl hs h1 hl) ?_);rintro _ w ⟨n,b,rfl,hF,hs⟩
 refine .z zm (.z zex (.z zex (.z zg (.z zg (.nil (.seq (.ai (.z zm (.z eI ?_)))))))))
 refine .nil ?_
 refine (.cond rfl (fun hc19=>?_) (fun hc19=>?_))
 ·refine .ai (.z zg (.z zg (.nil ?_)))
  refine .ret (rT (?_))
  obtain rfl:b=false:=by simpa using hc19
  exact Fin.jr Tryz.results115 rfl rfl ⟨H,_,_,HLe.refl H,rfl,.none hF,hs.out⟩
 ·refine .skip ?_
  refine nT ?_
  refine .ai ?_
  refine .o (.alloc hs bp rfl fun b10 w hs=>?_)
  refine .o (.store hs rfl rfl aj fun w hs=>?_)
  refine .nil (.seq (.ai (.y hs (zls [_,_,_,_,_,_,_] gz aT) ?_)))
  obtain rfl:b=true:=by simpa using hc19
  have hn:=hF.bd hl
  have hdp:=hl.depth
  refine .o (.call Tryz.call169 rfl (rC hs hx) ?_);rintro _ w ⟨H1,bd,hle1,rfl,hit,hs⟩
  refine .nil (.block ?_)
  refine .rangeFunc (gf:=218) (cap:=[.pointer (some ⟨bd,0,none⟩)]) (xs:=rG x) (σb:=[.blk b10 [I 0],.blk b5 [I x.zone,I x.fr,I x.to,I x.dlo,I x.dhi,I x.blo,I x.bhi],.blk b4 [I l.length,I l.depth,vt,vs],.blk b3 [I s.id,I s.src,vst,vwa,I s.al,I s.up]]) (σf:=σ) hs trivial rfl hit Tryz.call218 (fun y hy=>by
    simp only [rG,List.mem_map] at hy
    obtain ⟨j,_,rfl⟩:=hy;rfl) rfl
   (I:=fun p H' σb=>σb=[.blk b10 [I (pH l.seasons x.zone x.fr p)],.blk b5 [I x.zone,I x.fr,I x.to,I x.dlo,I x.dhi,I x.blo,I x.bhi],.blk b4 [I l.length,I l.depth,vt,vs],.blk b3 [I s.id,I s.src,vst,vwa,I s.al,I s.up]]) (Ix:=fun _ _ _=>False)
   (fun j _ _ σ g1 g2=>g2) (fun _ _ _ _ _ h=>h) rfl ?_ ?_ (fun D c H' σb w _ h _=>h.elim)
  ·rintro ly p hp H2 σb2 σf2 w hle2 rfl hs ⟨rr,hrr⟩
   rw [uZ hp]
   refine .region (.z zg (.nil ?_))
   refine nT ?_
   refine ⟨H2,_,HLe.refl _,hs,?_⟩;rintro w σf4 - hs
   replace hs:St H2 w (.blk b10 [I (pH l.seasons x.zone x.fr p)]:: .blk b5 [I x.zone,I x.fr,I x.to,I x.dlo,I x.dhi,I x.blo,I x.bhi]:: .blk b4 [I l.length,I l.depth,vt,vs]:: .blk b3 [I s.id,I s.src,vst,vwa,I s.al,I s.up]::σf4):=hs
   refine .block ?_
   refine .draw mix rfl hs fun w hs=>?_
   refine .y 0 rfl hs af ?_;refine .ys 1 rfl hs [_,_,_,_] br aP ?_;refine .z 2 rfl (zfa kM) ?_;refine .y 3 rfl hs af ?_;refine .z 4 rfl zm ?_
   refine .E 5 hs ?_
   refine .call Tryz.call105 rfl (kC hs (h2.mono (hle1.trans hle2)) hl) ?_;rintro _ w ⟨rfl,hs⟩
   refine .go ?_
   refine .z 6 rfl Cm ?_
   refine .E 7 hs ?_
   refine .store hs rfl rfl aj ?_;intro w hs
   refine .go ?_
   refine .D hs ?_
   refine nB ?_
   exact ⟨H2,_,HLe.refl _,hs,rfl⟩
  ·rintro D H2 σb2 w hle2 rfl hs
   rw [kN] at hs
   have hle02:=hle1.trans hle2
   have hE:=xl hl.seasons x.zone x.fr (kO x)
   replace hs:St H2 w (.obj D (.deferred (some [])):: .blk b10 [I (pH l.seasons x.zone x.fr (kO x))]:: .blk b5 [I x.zone,I x.fr,I x.to,I x.dlo,I x.dhi,I x.blo,I x.bhi]:: .blk b4 [I l.length,I l.depth,vt,vs]:: .blk b3 [I s.id,I s.src,vst,vwa,I s.al,I s.up]::σ):=hs
   refine nB (nT ?_)
   refine .seq (.ai (.y hs (zls [_,_,_,_,_,_] bE aR) (.z (zfa fX) (.y hs (zld af) (.z zm (.z gC (.y hs (zld af) (.z gC ?_))))))))
   refine .o (.call Tryz.call112 rfl (qG (s:=s) hs (g2.mono hle02) hsp) ?_);rintro _ w ⟨k,rfl,hB,hs⟩
   refine .z zg (.nil (.ai (.z zm (.z sK (.nil ?_)))))
   refine (.cz rfl (fun hc39=>?_) (fun hc39=>?_))
   ·refine .ai (.z zm (.z zg (.z zg (.nil ?_))))
    refine .ret (rT (?_))
    exact Fin.gD [D] [] hs fun w hs=>⟨_,results2 Tryz.results115 rfl rfl,H2,_,_,hle02,rfl,.ok hF hB hc39,hs.out⟩
   ·refine .skip ?_
    refine nT ?_
    refine .ai (.z zg (.z zg (.nil ?_)))
    refine .ret ?_
    have hk:=hB.low
    obtain rfl:k= -1:=by omega
    exact Fin.gD [D] [] hs fun w hs=>⟨_,results2 Tryz.results115 rfl rfl,H2,_,_,hle02,rfl,.above hF hB,hs.out⟩
theorem qz{v:Value}{l:List Rng}(hs:St H w σ)(hr:RRg H v l):Cl Tryz.prog 162 [v] w fun u w'=>RRg H u l∧St H w' σ:=by
 obtain ⟨a,c,rfl⟩:=hr.shape
 have hc:=RS.clip hr
 refine Cl.o Tryz.func162 Tryz.ntmps162 ag1 ?_
 refine .ai (.z zg (.nil (.ai (.z zm (.z zm (.z (dj dp) (.z zm (.z (dj dp) ?_))))))))
 refine .q hs (zu rfl rfl rfl dp ay (Nat.le_refl _) hc.1) ?_
 refine .z zg (.nil ?_)
 refine .ret (Fin.aU Tryz.results162 rfl ?_)
 exact ⟨hc.2,hs⟩
theorem jK{r:List Lg}{vr:Value}{m:Rng}(hs:St H w σ)(h1:RLg H vr r)(hr:oX r)(hm:eU m.lo m.hi):
  Cl Tryz.prog 110 [.agg #[vr],.agg #[I m.lo,I m.hi]] w fun u w'=>∃H1,HLe H H1∧RRg H1 u (msL m r r.length)∧St H1 w' σ:=by
 obtain ⟨ar,cr,rfl⟩:=h1.shape
 have hn:=hr.many
 refine Cl.o Tryz.func110 Tryz.ntmps110 ag2 ?_
 refine .ai ?_
 refine .bx hs fun b2 w hs=>?_
 refine .bx hs fun b3 w hs=>?_
 refine .z zg (.nil (.ai (.y hs (zls [_,_] aI ay) ?_)))
 refine .o (.buildSlice (cells:=m.c) hs iQ rfl aq fun b9 w hs=>?_)
 refine .z zg (.nil (.seq (.ai (.z (zfa cE) (.y hs (zld di) (.z (dj aN) (.z zm (.nil ?_))))))))
 refine .for (N:=r.length) (J:=fun k fr w=>∃vo en,fr=[(5,vo),(11,.slice ar r.length cr),(3,.pointer (some ⟨b3,0,none⟩))]∧cM 2 vo (rgc (msL m r k)).flatten en∧St H w (en:: .blk b3 [I (lB m r k).lo,I (lB m r k).hi]::σ)) ak ?_ ?_ ?_
 ·exact .mk ⟨_,.blk b9 m.c,rfl,.full rfl,hs.sb⟩
 ·rintro k fr w hk ⟨vo,en,rfl,hO,hs⟩
  have hx:=jw (l:=r) hk
  have hb:=zM hm (fun i hi=>(hr.leg i hi).1) (i:=k) ak
  have hb2:=(hr.leg k hk).1.burn
  unfold eU at hb hb2
  have hml:=ld m r k
  obtain ⟨ao,co,rfl⟩:=hO.zf (CS _) ak
  refine .block (.ai ?_)
  refine .ixX (enc:=Lg.c) hs h1 rfl rfl aN aT hx dn ?_;intro b15 o15 hc15
  refine .q hs (bL (vs:=(Lg.c (lg0 r k))) rfl gz aT hc15) ?_
  refine .o (.alloc hs eV rfl fun b7 w hs=>?_)
  refine .o (.aF (vs:=(lg0 r k).c) hs rfl rfl aT fun w hs=>?_)
  change St _ _ (.blk b7 [I (lg0 r k).zone,I (lg0 r k).fr,I (lg0 r k).to,I (lg0 r k).dlo,I (lg0 r k).dhi,I (lg0 r k).blo,I (lg0 r k).bhi]::_) at hs
  refine .nil (.ai (.z (zfa a6) (.y hs (zld af) (.z (zfa fu) (.z (zfa bD) (.y hs (zld af) (.z gC (.z Cm (.z (zfa bD) ?_)))))))))
  refine .y hs (zld af) (.z (zfa fu) (.z (zfa a6) (.y hs (zld af) (.z gC (.z Cm (.z (zbd [_,_] bn) ?_))))))
  refine .o (.aF (vs:=(lB m r (k+1)).c) hs rfl rfl ay fun w hs=>?_)
  change St _ _ (.blk b7 _::en:: .blk b3 [I (lB m r (k+1)).lo,I (lB m r (k+1)).hi]::σ) at hs
  refine .nil (.region (.z zm (.y hs (zls [_,_] aI ay) ?_)))
  refine .o (.buildSlice (cells:=(lB m r (k+1)).c) hs iQ rfl aq fun b34 w hs=>?_)
  refine .o (.append (ys:=(lB m r (k+1)).c) hs iy rfl rfl hO (.own .here rfl rfl) (by simp [Rng.c,Value.oneCell']) (fun l h=>by rw [fT _ (CS _),oB] at h;omega) ?_);intro v35 en35 w hO2 hs
  rw [←Bi,←BG] at hO2
  refine .z zg (.nil ?_)
  refine nB (nT ?_)
  exact .mk ⟨_,_,rfl,hO2,hs.sb⟩
 ·rintro fr w ⟨vo,en,rfl,hO,hs⟩
  obtain ⟨H1,hle1,hR,hs⟩:=cM.bY (m:=2) hO (CS _) ak (by rw [oB,ld];omega) hs .here
  refine nT ?_
  refine .ai (.z zm ?_)
  refine .o (.call Tryz.call162 rfl (qz (l:=msL m r r.length) hs hR) ?_);rintro v38 w ⟨hR2,hs⟩
  refine .z zg (.nil ?_)
  refine .ret (Fin.aU Tryz.results110 rfl ?_)
  exact ⟨H1,hle1,hR2,hs.out⟩
inductive MsR(r:List Lg)(m:Rng):List Rng→Int→Prop
 |route (h:¬oX r):MsR r m [] 61
 |mass (h:oX r) (h1:¬eU m.lo m.hi):MsR r m [] 63
 |ok (h:oX r) (h1:eU m.lo m.hi):MsR r m (msL m r r.length) 0
theorem MsR.uniq{r:List Lg}{m:Rng}{a b:List Rng}{e f:Int}(h:MsR r m a e)(g:MsR r m b f):a=b∧e=f:=by
 cases h<;>cases g<;>first|exact ⟨rfl,rfl⟩|contradiction
theorem Aq{v:Srv}{out:List Int}{e:Int}(h:rb v out e)(hv:bV v):(e=0∧0<out.length∧¬v.sys.Sound)∨(e=3∧v.sys.Sound):=by
 cases h with
 |bad h he=>exact (he (h.aD.2 hv)).elim
 |ok _ h=>
  by_cases e0:e=0
  ·subst e0
   obtain ⟨_,h1,_,h2⟩:=h.conf
   exact .inl ⟨rfl,(by cases out with|nil=>exact (h2 rfl).elim|cons=>simp),h1⟩
  ·cases h with
   |bad h=>exact (h (v.sys.aD.2 hv.sys)).elim
   |none _ h=>exact .inr ⟨rfl,h⟩
   |ok=>exact (e0 rfl).elim
theorem iL{k:Int}(hs:St H w σ):Cl Tryz.prog 98 [I k] w fun u w'=>u= .agg #[I 1,I 0,I k]∧St H w' σ:=by
 refine Cl.o Tryz.func98 Tryz.ntmps98 ag1 ?_
 refine .ai ?_
 refine .o (.alloc hs Tryz.zeroValue113 rfl fun b2 w hs=>?_)
 refine .nil (.ai (.z zm (.z (zbd [_,_,_] vi) ?_)))
 refine .o (.aF (vs:=[_,_,_]) hs rfl rfl fP fun w hs=>?_)
 refine .nil ?_
 refine .ret ?_
 exact Fin.gD [] [] hs fun w hs=>⟨_,results1 Tryz.results98 (dr (vs:=[_,_,_]) hs rfl vK fP),rfl,hs.out⟩
theorem pJ{s:Srv}{k:Nat}{a b c d:Value}(hs:St H w σ)(g:SvM H s a b c d)(hok:bV s):
  Cl Tryz.prog 122 [svA s a b c d,I (k:Int)] w fun u w'=>∃H1 lo hi e,HLe H H1∧u= .tuple #[.agg #[I lo,I hi],I e]∧tT s k lo hi e∧St H1 w' σ:=by
 refine Cl.o Tryz.func122 Tryz.ntmps122 ag2 ?_
 refine .ai ?_
 refine .bx hs fun b2 w hs=>?_
 refine .o (.alloc hs bB rfl fun b4 w hs=>?_)
 refine .z zg (.nil (.seq (.ai (.z zm (.z oa (.nil ?_))))))
 refine (.cz rfl (fun hc9=>?_) (fun hc9=>?_))
 ·refine .seq (.draw mix rfl hs fun w hs=>?_)
  refine .ys 0 rfl hs [_,_,_,_,_,_,_,_] aO aC ?_;refine .z 1 rfl zm ?_
  refine .E 2 hs ?_
  refine .call Tryz.call98 rfl (iL hs) ?_;rintro _ w ⟨rfl,hs⟩
  refine .go ?_
  refine .E 3 hs ?_
  refine .call Tryz.call174 rfl (ns (s:=s) (q:=⟨1,0,k⟩) hs g.st g.wa g.rd g.cm) ?_;rintro _ w ⟨H1,lo,hi,e,hle1,rfl,hQ,hs⟩
  refine .go ?_
  refine .z 4 rfl zex ?_;refine .z 5 rfl zex ?_
  refine .E 6 hs ?_
  refine .aF (vs:=[_,_]) hs rfl rfl ay ?_;intro w hs
  refine .go ?_
  refine .z 7 rfl zg ?_;refine .D hs ?_
  refine .ret (rT (?_))
  exact Fin.gD [] [] hs fun w hs=>⟨_,results2 Tryz.results122 (dr (vs:=[_,_]) hs rfl aI ay) rfl,H1,_,_,_,hle1,rfl,.up ak hQ,hs.out⟩
 ·refine .skip ?_
  refine nT ?_
  refine .seq (.ai (.y hs (zls [_,_,_,_,_,_,_,_] aO aC) ?_))
  obtain rfl:k=0:=by omega
  refine .o (.call Tryz.call175 rfl (nr (s:=s) hs g.st g.wa g.rd g.cm) ?_);rintro _ w ⟨H1,vx,out,e,hle1,rfl,hX,hC,hs⟩
  have hcl:=Aq hC hok
  obtain ⟨ax,cx,rfl⟩:=RI.shape hX
  refine .z zm (.z zex (.z zex (.z zg (.z zg (.nil (.ai (.z zm (.z jH (.z zm ?_)))))))))
  refine .gW (t':=23) rfl (fun hb23=>?_) (fun hb23=>?_)
  ·refine .gT rfl rfl ?_
   refine .z zm ?_
   refine .gT rfl rfl ?_
   refine .z (dj ae) ?_
   refine .gT rfl rfl ?_
   refine .z oa (.z zpT (.nil ?_))
   refine (.cz rfl (fun hc27=>?_) (fun hc27=>?_))
   ·refine .ai (.z (zbd [_,_] bn) ?_)
    refine .o (.aF (vs:=[_,_]) hs rfl rfl ay fun w hs=>?_)
    refine .z zg (.nil ?_)
    refine .ret (rT (?_))
    exact Fin.gD [] [] hs fun w hs=>⟨_,results2 Tryz.results122 (dr (vs:=[_,_]) hs rfl aI ay) rfl,H1,_,_,_,hle1,rfl,.fls rfl hok (by rcases hcl with h|h;exact h.2.2;omega),hs.out⟩
   ·refine .skip ?_
    refine nT ?_
    refine .ai (.z (zbd [_,_] bn) ?_)
    refine .o (.aF (vs:=[_,_]) hs rfl rfl ay fun w hs=>?_)
    refine .z zg (.nil ?_)
    refine .ret ?_
    exact Fin.gD [] [] hs fun w hs=>⟨_,results2 Tryz.results122 (dr (vs:=[_,_]) hs rfl aI ay) rfl,H1,_,_,_,hle1,rfl,.zero rfl hok (by rcases hcl with h|h;omega;exact h.2),hs.out⟩
  ·refine .gFs 3 2 true rfl rfl rfl ?_
   refine .z zpF (.nil ?_)
   refine (.cF ?_)
   refine .skip ?_
   refine nT ?_
   refine .ai (.z (zbd [_,_] bn) ?_)
   refine .o (.aF (vs:=[_,_]) hs rfl rfl ay fun w hs=>?_)
   refine .z zg (.nil ?_)
   refine .ret ?_
   exact Fin.gD [] [] hs fun w hs=>⟨_,results2 Tryz.results122 (dr (vs:=[_,_]) hs rfl aI ay) rfl,H1,_,_,_,hle1,rfl,.zero rfl hok (by rcases hcl with h|h;omega;exact h.2),hs.out⟩
theorem eu{n d:Int}(hs:St H w σ)(hn: -4000000000000≤n∧n≤4000000000000)(hd: -100000≤d∧d≤100000):Cl Tryz.prog 99 [I n,I d] w fun v w'=>v=I (jz n d)∧St H w' σ:=by
 have hm:=nx (a:=n) (b:=d) (A:=4000000000000) (B:=100000) ak ak
 refine Cl.o Tryz.func99 Tryz.ntmps99 ag2 ?_
 refine .ai (.z zg (.nil (.ai (.z zm (.z zm (.z qj ?_))))))
 refine .o (.call Tryz.call140 rfl (lV hs ak ak) ?_);rintro _ w ⟨rfl,hs⟩
 refine .z zg (.nil ?_)
 refine .ret (Fin.aU Tryz.results99 rfl ?_)
 exact ⟨rfl,hs⟩
theorem oH{lo hi x y:Int}(hs:St H w σ)(h1: -200000000≤lo∧lo≤200000000)(h2: -200000000≤hi∧hi≤200000000)(hd:eg x y):
  Cl Tryz.prog 145 [.agg #[I lo,I hi],.agg #[I x,I y]] w fun v w'=>v= .agg #[I (uj lo x y),I (uk hi x y)]∧St H w' σ:=by
 unfold eg at hd
 refine Cl.o Tryz.func145 Tryz.ntmps145 ag2 ?_
 refine .ai ?_
 refine .bx hs fun b2 w hs=>?_
 refine .bx hs fun b3 w hs=>?_
 refine .o (.alloc hs bB rfl fun b4 w hs=>?_)
 refine .nil ?_
 refine .seq (.draw mix rfl hs fun w hs=>?_)
 refine .z 0 rfl (zfa a6) ?_;refine .y 1 rfl hs af ?_;refine .z 2 rfl (zfa a6) ?_;refine .y 3 rfl hs af ?_;refine .z 5 rfl (zfa a6) ?_;refine .y 6 rfl hs af ?_;refine .z 7 rfl (zfa bD) ?_;refine .y 8 rfl hs af ?_;refine .z 11 rfl (zfa bD) ?_;refine .y 12 rfl hs af ?_
 refine .z 13 rfl (zfa a6) ?_;refine .y 14 rfl hs af ?_;refine .z 16 rfl (zfa bD) ?_;refine .y 17 rfl hs af ?_;refine .z 18 rfl (zfa bD) ?_;refine .y 19 rfl hs af ?_
 refine .E 4 hs ?_
 refine .call Tryz.call99 rfl (eu hs ak ak) ?_;rintro _ w ⟨rfl,hs⟩
 refine .go ?_
 refine .E 9 hs ?_
 refine .call Tryz.call99 rfl (eu hs ak ak) ?_;rintro _ w ⟨rfl,hs⟩
 refine .go ?_
 refine .z 10 rfl Ck ?_
 refine .E 15 hs ?_
 refine .call Tryz.call99 rfl (eu hs ak ak) ?_;rintro _ w ⟨rfl,hs⟩
 refine .go ?_
 refine .E 20 hs ?_
 refine .call Tryz.call99 rfl (eu hs ak ak) ?_;rintro _ w ⟨rfl,hs⟩
 refine .go ?_
 refine .z 21 rfl Cm ?_;refine .z 22 rfl (zbd [_,_] bn) ?_
 refine .E 23 hs ?_
 refine .aF (vs:=[_,_]) hs rfl rfl ay ?_;intro w hs
 refine .go ?_
 refine .D hs ?_
 refine .ret ?_
 exact Fin.gD [] [] hs fun w hs=>⟨_,results1 Tryz.results145 (dr (vs:=[_,_]) hs rfl aI ay),rfl,hs.out⟩
theorem cW{s:Srv}{k:Nat}{a b c d:Value}{x y:Int}(hs:St H w σ)(g:SvM H s a b c d)(hok:bV s)(hd:eg x y):
  Cl Tryz.prog 88 [svA s a b c d,I (k:Int),.agg #[I x,I y]] w fun u w'=>∃H1 lo hi e,HLe H H1∧u= .tuple #[.agg #[I lo,I hi],I e]∧jo s k x y lo hi e∧St H1 w' σ:=by
 refine Cl.o Tryz.func88 Tryz.ntmps88 ag3 ?_
 refine .ai ?_
 refine .bx hs fun b3 w hs=>?_
 refine .bx hs fun b5 w hs=>?_
 refine .o (.alloc hs bB rfl fun b6 w hs=>?_)
 refine .z zg (.nil (.ai (.y hs (zls [_,_,_,_,_,_,_,_] aO aC) (.z zm ?_))))
 refine .o (.call Tryz.call122 rfl (pJ (s:=s) hs g hok) ?_);rintro _ w ⟨H1,lo,hi,e,hle1,rfl,hL,hs⟩
 have hb:=hL.bd
 refine .z zm (.z zex (.z zex ?_))
 refine .o (.alloc hs bB rfl fun b8 w hs=>?_)
 refine .o (.aF (vs:=[_,_]) hs rfl rfl ay fun w hs=>?_)
 refine .z zg (.nil (.seq (.ai (.z zm (.z ja (.nil ?_))))))
 refine (.eS rfl (fun hc17=>?_) (fun hc17=>?_))
 ·refine .ai (.z (zbd [_,_] bn) (.z zm ?_))
  refine .o (.aF (vs:=[_,_]) hs rfl rfl ay fun w hs=>?_)
  refine .z zg (.nil ?_)
  refine .ret (rT (?_))
  exact Fin.gD [] [] hs fun w hs=>⟨_,results2 Tryz.results88 (dr (vs:=[_,_]) hs rfl aI ay) rfl,H1,_,_,_,hle1,rfl,.fls hL hc17,hs.out⟩
 ·refine .skip ?_
  refine nT ?_
  refine .ai (.y hs (zls [_,_] aI ay) (.y hs (zls [_,_] aI ay) ?_))
  obtain rfl:e=0:=by omega
  refine .o (.call Tryz.call145 rfl (oH hs ak ak hd) ?_);rintro _ w ⟨rfl,hs⟩
  refine .o (.aF (vs:=[_,_]) hs rfl rfl ay fun w hs=>?_)
  refine .z zg (.nil ?_)
  refine .ret ?_
  exact Fin.gD [] [] hs fun w hs=>⟨_,results2 Tryz.results88 (dr (vs:=[_,_]) hs rfl aI ay) rfl,H1,_,_,_,hle1,rfl,.ok hL,hs.out⟩
theorem kh{s:Srv}{k:Int}{a b c d:Value}{x y:Int}(hs:St H w σ)(g:SvM H s a b c d):
  Cl Tryz.prog 58 [svA s a b c d,I k,.agg #[I x,I y]] w fun u w'=>∃H1 lo hi e,HLe H H1∧u= .tuple #[.agg #[I lo,I hi],I e]∧tQ s k x y lo hi e∧St H1 w' σ:=by
 obtain ⟨aw,cw,rfl⟩:=RI.shape g.wa
 refine Cl.o Tryz.func58 Tryz.ntmps58 ag3 ?_
 refine .ai ?_
 refine .bx hs fun b3 w hs=>?_
 refine .bx hs fun b5 w hs=>?_
 refine .o (.alloc hs bB rfl fun b6 w hs=>?_)
 refine .z zg (.nil (.seq (.ai (.y hs (zls [_,_,_,_,_,_,_,_] aO aC) ?_))))
 refine .o (.call Gn rfl (dH (s:=s) hs g.st g.wa g.rd g.cm) ?_);rintro _ w ⟨H1,e,hle1,rfl,hC,hs⟩
 refine .z zg (.nil (.ai (.z zm (.z ja (.nil ?_)))))
 refine (.eS rfl (fun hc12=>?_) (fun hc12=>?_))
 ·refine .ai (.z (zbd [_,_] bn) (.z zm ?_))
  refine .o (.aF (vs:=[_,_]) hs rfl rfl ay fun w hs=>?_)
  refine .z zg (.nil ?_)
  refine .ret (rT (?_))
  exact Fin.gD [] [] hs fun w hs=>⟨_,results2 Tryz.results58 (dr (vs:=[_,_]) hs rfl aI ay) rfl,H1,_,_,_,hle1,rfl,.bad hC hc12,hs.out⟩
 ·refine .skip ?_
  refine nT ?_
  refine .seq (.block (.ai ?_))
  have hok:bV s:=hC.aD.1 ak
  have hsm:=er hok.early.1
  refine .z zm (.z (zfa bq) (.z (zfa bA) (.y hs (zld an) (.z (dj ae) (.z gC ?_)))))
  refine .o (.call cV rfl (aW hs) ?_);rintro _ w ⟨rfl,hs⟩
  refine .z eI (.z zg (.nil ?_))
  refine (.cond rfl (fun hc15=>?_) (fun hc15=>?_))
  ·refine .ai (.z (zbd [_,_] bn) ?_)
   refine .o (.aF (vs:=[_,_]) hs rfl rfl ay fun w hs=>?_)
   refine .z zg (.nil ?_)
   refine .ret (rB (rT (?_)))
   exact Fin.gD [] [] hs fun w hs=>⟨_,results2 Tryz.results58 (dr (vs:=[_,_]) hs rfl aI ay) rfl,H1,_,_,_,hle1,rfl,.water hok (by simp at hc15;omega),hs.out⟩
  ·refine .ai (.y hs (zls [_,_] aI ay) ?_)
   have hk:0≤k∧k≤(s.sp.wa.length:Int) - 1:=by simpa using hc15
   refine .o (.call Tryz.call118 rfl (ji hs) ?_);rintro _ w ⟨rfl,hs⟩
   refine .z eI (.z zg (.nil ?_))
   refine (.cond rfl (fun hc25=>?_) (fun hc25=>?_))
   ·refine .ai (.z (zbd [_,_] bn) ?_)
    refine .o (.aF (vs:=[_,_]) hs rfl rfl ay fun w hs=>?_)
    refine .z zg (.nil ?_)
    refine .ret (rB (rT (?_)))
    exact Fin.gD [] [] hs fun w hs=>⟨_,results2 Tryz.results58 (dr (vs:=[_,_]) hs rfl aI ay) rfl,H1,_,_,_,hle1,rfl,.dense hok hk (by simpa using hc25),hs.out⟩
   ·refine .skip ?_
    refine nB (nT ?_)
    refine .ai (.y hs (zls [_,_,_,_,_,_,_,_] aO aC) (.z zm (.y hs (zls [_,_] aI ay) ?_)))
    have hdn:eg x y:=by simpa using hc25
    obtain ⟨j,rfl⟩:∃j:Nat,k=(j:Int):=⟨k.toNat,ak⟩
    refine .o (.call Tryz.call88 rfl (cW (s:=s) hs (g.mono hle1) hok hdn) ?_);rintro _ w ⟨H2,lo,hi,e,hle2,rfl,hS,hs⟩
    refine .z zex (.z zex ?_)
    refine .o (.aF (vs:=[_,_]) hs rfl rfl ay fun w hs=>?_)
    refine .z zg (.nil ?_)
    refine .ret ?_
    exact Fin.gD [] [] hs fun w hs=>⟨_,results2 Tryz.results58 (dr (vs:=[_,_]) hs rfl aI ay) rfl,H2,_,_,_,hle1.trans hle2,rfl,.go hok hk hdn (by rw [Int.toNat_natCast];exact hS),hs.out⟩
set_option maxHeartbeats 2000000 in
theorem qH{s:Srv}{l:Lns}{r:List Lg}{m:Rng}{a b c d vt vs vlg:Value}(hs:St H w σ)(g:SvM H s a b c d)(gl:LnM H l vt vs)(gr_:RLg H vlg r):
  Cl Tryz.prog 79 [svA s a b c d,lnA l vt vs,.agg #[vlg],.agg #[I m.lo,I m.hi]] w fun u w'=>∃(H1:a8) (z:RtV) (ks:List Int) (e:Int),HLe H H1∧u= .tuple #[z.agg,I e]∧z.cs.all Value.oneCell'=true∧oY s l r m ks e∧(e=0→∃vms vmk,z=⟨s,l,a,b,c,d,vt,vs,vlg,vms,vmk⟩∧RRg H1 vms (msL m r r.length)∧RI H1 vmk ks)∧St H1 w' σ:=by
 obtain ⟨alg,clg,rfl⟩:=gr_.shape
 refine Cl.o Tryz.func79 Tryz.ntmps79 ag4 ?_
 refine .ai ?_
 refine .bx hs fun b4 w hs=>?_
 refine .bx hs fun b5 w hs=>?_
 refine .bx hs fun b6 w hs=>?_
 refine .bx hs fun b7 w hs=>?_
 refine .o (.alloc hs gY rfl fun b8 w hs=>?_)
 refine .z zg (.nil (.seq (.ai (.y hs (zls [_,_,_,_,_,_,_,_] aO aC) ?_))))
 refine .o (.call Gn rfl (dH (s:=s) hs g.st g.wa g.rd g.cm) ?_);rintro _ w ⟨H1,e,hle1,rfl,hC,hs⟩
 refine .z zg (.nil (.ai (.z zm (.z ja (.nil ?_)))))
 refine (.eS rfl (fun hc21=>?_) (fun hc21=>?_))
 ·refine .ai (.z (zbd RtV.zero.cs dL rfl aq) (.z zm ?_))
  refine .o (.aF (vs:=RtV.zero.cs) hs rfl rfl bJ fun w hs=>?_)
  refine .z zg (.nil ?_)
  refine .ret (rT (?_))
  exact Fin.gD [] [] hs fun w hs=>⟨_,results2 rR (dr (vs:=RtV.zero.cs) hs rfl jG bJ) rfl,H1,RtV.zero,_,_,hle1,rfl,rfl,.bad hC hc21,fun h=>(hc21 h).elim,hs.out⟩
 ·refine .skip ?_
  refine nT ?_
  refine .seq (.ai (.y hs (zls [_,_,_,_] br aP) ?_))
  have hok:bV s:=hC.aD.1 ak
  have hsp:=hok.early.1
  refine .o (.call Tryz.call19 rfl (dQ hs (gl.tb.mono hle1) (gl.sn.mono hle1)) ?_);rintro _ w ⟨f,rfl,hL,hs⟩
  refine .z zg (.nil (.ai (.z zm (.z ja (.nil ?_)))))
  refine (.eS rfl (fun hc27=>?_) (fun hc27=>?_))
  ·refine .ai (.z (zbd RtV.zero.cs dL rfl aq) (.z zm ?_))
   have hl:=hL.resolve_left fun h=>hc27 h.2
   refine .o (.aF (vs:=RtV.zero.cs) hs rfl rfl bJ fun w hs=>?_)
   refine .z zg (.nil ?_)
   refine .ret (rT (?_))
   exact Fin.gD [] [] hs fun w hs=>⟨_,results2 rR (dr (vs:=RtV.zero.cs) hs rfl jG bJ) rfl,H1,RtV.zero,_,_,hle1,rfl,rfl,by rw [hl.2];exact .lines hok hl.1,fun h=>(hc27 h).elim,hs.out⟩
  ·refine .skip ?_
   refine nT ?_
   refine .seq (.ai (.y hs (zls [_] dV cu) ?_))
   have hl:fm l:=(hL.resolve_right fun h=>by omega).1
   refine .o (.call Tryz.call21 rfl (gO hs (gr_.mono hle1)) ?_);rintro _ w ⟨q,rfl,hR,hs⟩
   refine .z zg (.nil (.ai (.z zm (.z ja (.nil ?_)))))
   refine (.eS rfl (fun hc33=>?_) (fun hc33=>?_))
   ·refine .ai (.z (zbd RtV.zero.cs dL rfl aq) (.z zm ?_))
    have hrt:=hR.resolve_left fun h=>hc33 h.2
    refine .o (.aF (vs:=RtV.zero.cs) hs rfl rfl bJ fun w hs=>?_)
    refine .z zg (.nil ?_)
    refine .ret (rT (?_))
    exact Fin.gD [] [] hs fun w hs=>⟨_,results2 rR (dr (vs:=RtV.zero.cs) hs rfl jG bJ) rfl,H1,RtV.zero,_,_,hle1,rfl,rfl,by rw [hrt.2];exact .route hok hl hrt.1,fun h=>(hc33 h).elim,hs.out⟩
   ·refine .skip ?_
    refine nT ?_
    refine .seq (.ai (.y hs (zls [_,_] aI ay) ?_))
    have hrt:oX r:=(hR.resolve_right fun h=>by omega).1
    have hn:=hrt.many
    refine .o (.call Tryz.call109 rfl (jM hs) ?_);rintro _ w ⟨rfl,hs⟩
    refine .z eI (.nil ?_)
    refine (.cond rfl (fun hc38=>?_) (fun hc38=>?_))
    ·refine .ai (.z (zbd RtV.zero.cs dL rfl aq) ?_)
     refine .o (.aF (vs:=RtV.zero.cs) hs rfl rfl bJ fun w hs=>?_)
     refine .z zg (.nil ?_)
     refine .ret (rT (?_))
     exact Fin.gD [] [] hs fun w hs=>⟨_,results2 rR (dr (vs:=RtV.zero.cs) hs rfl jG bJ) rfl,H1,RtV.zero,_,_,hle1,rfl,rfl,.mass hok hl hrt (by simpa using hc38),fun h=>by omega,hs.out⟩
    ·refine .skip ?_
     refine nT ?_
     refine .cut (fun fs w=>∃H2 vms b13,j5 fs ⟨76,[],[(13,.pointer (some ⟨b13,0,none⟩)),(8,.pointer (some ⟨b8,0,none⟩)),(5,.pointer (some ⟨b5,0,none⟩)),(6,.pointer (some ⟨b6,0,none⟩))]⟩∧HLe H1 H2∧RRg H2 vms (msL m r r.length)∧St H2 w (.blk b13 (RtV.cs ⟨s,l,a,b,c,d,vt,vs,.slice alg r.length clg,vms,.slice none 0 0⟩):: .blk b8 RtV.zero.cs:: .blk b6 [.slice alg r.length clg]:: .blk b5 (lnC l vt vs)::σ)) ?_ ?_
     ·refine .draw mix rfl hs fun w hs=>?_
      refine .ys 0 rfl hs [_,_,_,_,_,_,_,_] aO aC ?_;refine .ys 1 rfl hs [_,_,_,_] br aP ?_;refine .z 2 rfl (zfa cE) ?_;refine .y 3 rfl hs di ?_;refine .ys 4 rfl hs [_] dV cu ?_;refine .ys 5 rfl hs [_,_] aI ay ?_
      refine .e2 (i:=6) (j:=8) aq rfl rfl rfl rfl .none .none hs ?_ ?_
      ·refine .call Tryz.call110 rfl (jK hs (gr_.mono hle1) hrt (by simpa using hc38)) ?_;rintro vms w ⟨H2,hle2,hMs,hs⟩
       obtain ⟨ams,cms,rfl⟩:=hMs.shape
       refine .go ?_
       refine .z 7 rfl (zbd (vs:=[(0,svA s a b c d),(1,lnA l vt vs),(2,.slice alg r.length clg),(3,.slice ams (msL m r r.length).length cms)]) (RtV.cs ⟨s,l,a,b,c,d,vt,vs,.slice alg r.length clg,.slice ams (msL m r r.length).length cms,.slice none 0 0⟩) dL rfl aq) ?_
       refine .E 8 hs ?_
       refine .alloc hs gY rfl ?_;intro b13 w hs
       refine .go ?_
       refine .E 9 hs ?_
       refine .aF (vs:=RtV.cs ⟨s,l,a,b,c,d,vt,vs,.slice alg r.length clg,.slice ams (msL m r r.length).length cms,.slice none 0 0⟩) hs rfl rfl bJ ?_ (hv:=RtV.one g gl gr_ (RS.one hMs) rfl);intro w hs
       refine .go ?_
       refine .D hs ?_
       exact nT ⟨H2,_,b13,cn,hle2,hMs,hs.sb⟩
      ·refine .alloc hs gY rfl ?_;intro b13 w hs
       refine .go ?_
       refine .E 6 hs ?_
       refine .call Tryz.call110 rfl (jK hs (gr_.mono hle1) hrt (by simpa using hc38)) ?_;rintro vms w ⟨H2,hle2,hMs,hs⟩
       obtain ⟨ams,cms,rfl⟩:=hMs.shape
       refine .go ?_
       refine .z 7 rfl (zbd (vs:=[(0,svA s a b c d),(1,lnA l vt vs),(2,.slice alg r.length clg),(3,.slice ams (msL m r r.length).length cms)]) (RtV.cs ⟨s,l,a,b,c,d,vt,vs,.slice alg r.length clg,.slice ams (msL m r r.length).length cms,.slice none 0 0⟩) dL rfl aq) ?_
       refine .E 9 hs ?_
       refine .aF (vs:=RtV.cs ⟨s,l,a,b,c,d,vt,vs,.slice alg r.length clg,.slice ams (msL m r r.length).length cms,.slice none 0 0⟩) hs rfl rfl bJ ?_ (hv:=RtV.one g gl gr_ (RS.one hMs) rfl);intro w hs
       refine .go ?_
       refine .D hs ?_
       exact nT ⟨H2,_,b13,cn,hle2,hMs,hs.sb⟩
     ·rintro fs w ⟨H2,vms,b13,hfs,hle2,hMs,hs⟩
      refine WE.sub ?_ hfs
      clear hfs
      have hle02:=hle1.trans hle2
      have hm:eU m.lo m.hi:=by simpa using hc38
      refine .seq (.ai (.z (zfa cE) (.y hs (zld di) (.z (dj aN) (.z zm (.nil ?_))))))
      refine .for (N:=r.length) (J:=fun k fr w=>∃H3 ks vmk en,fr=[(49,.slice alg r.length clg),(13,.pointer (some ⟨b13,0,none⟩)),(8,.pointer (some ⟨b8,0,none⟩)),(5,.pointer (some ⟨b5,0,none⟩))]∧HLe H2 H3∧ks.length=k∧(∀i<k,tL s.sp.wa l (lg0 r i) (gi ks i) 0)∧cM 1 vmk (Is ks) en∧St H3 w (en:: .blk b13 (RtV.cs ⟨s,l,a,b,c,d,vt,vs,.slice alg r.length clg,vms,vmk⟩):: .blk b8 RtV.zero.cs:: .blk b6 [.slice alg r.length clg]:: .blk b5 (lnC l vt vs)::σ)) ak ?_ ?_ ?_
      ·exact .mk ⟨H2,[],_,.nul,rfl,HLe.refl _,rfl,fun i hi=>by omega,.nil 1 none,hs.nul⟩
      ·rintro k fr w hk ⟨H3,ks,vmk,en,rfl,hle3,hkl,hks,hO,hs⟩
       have hx:=jw (l:=r) hk
       have hle03:=hle02.trans hle3
       obtain ⟨ao,lo',co,rfl,hlo⟩:=hO.shape
       refine .block (.ai ?_)
       refine .ixX (enc:=Lg.c) hs (gr_.mono hle03) rfl rfl aN aT hx dn ?_;intro b53 o53 hc53
       refine .q hs (bL (vs:=(Lg.c (lg0 r k))) rfl gz aT hc53) ?_
       refine .o (.alloc hs eV rfl fun b15 w hs=>?_)
       refine .o (.aF (vs:=(lg0 r k).c) hs rfl rfl aT fun w hs=>?_)
       change St _ _ (.blk b15 (lgC (lg0 r k))::_) at hs
       refine .nil (.ai (.z (zfa ij) (.z (zfa bq) (.y hs (zls [_,_,_,_,_,_] bE aR) (.y hs (zls [_,_,_,_] br aP) (.y hs (zls [_,_,_,_,_,_,_] gz aT) ?_))))))
       refine .o (.call Tryz.call115 rfl (pI (s:=s.sp) (x:=lg0 r k) hs (g.wa.mono hle03) (gl.tb.mono hle03) (gl.sn.mono hle03) hsp hl (hrt.leg k hk).1) ?_);rintro _ w ⟨H4,n,e,hle4,rfl,hLw,hs⟩
       have hle04:=hle03.trans hle4
       refine .z zm (.z zex (.z zex (.z zg (.z zg (.nil (.seq (.ai (.z zm (.z ja ?_)))))))))
       refine .nil ?_
       refine (.eS rfl (fun hc65=>?_) (fun hc65=>?_))
       ·refine .ai (.z (zbd RtV.zero.cs dL rfl aq) (.z zm ?_))
        refine .o (.aF (vs:=RtV.zero.cs) hs rfl rfl bJ fun w hs=>?_)
        refine .z zg (.nil ?_)
        refine .ret (rT (rB (rT (rB (rT (?_))))))
        exact Fin.gD [] [] hs fun w hs=>⟨_,results2 rR (dr (vs:=RtV.zero.cs) hs rfl jG bJ) rfl,H4,RtV.zero,_,_,hle04,rfl,rfl,.low hok hl hrt hm hk (fun j hj=>⟨_,hks j hj⟩) hLw hc65,fun h=>(hc65 h).elim,hs.out⟩
       ·refine .skip ?_
        refine nT ?_
        refine .region (.z (zfa eM) (.y hs (zld an) (.z zm ?_)))
        refine .o (.buildSlice (cells:=Is [n]) hs cI rfl aq fun b71 w hs=>?_)
        refine .o (.append (ys:=Is [n]) hs cO rfl rfl hO (.own .here rfl rfl) (kV _) (fun l h=>by simp [Is] at h;omega) ?_);intro v72 en72 w hO2 hs
        rw [←List.map_append] at hO2
        obtain ⟨a72,l72,c72,rfl,h72⟩:=hO2.shape
        refine .z (zfa eM) ?_
        refine .o (.store hs rfl rfl aE fun w hs=>?_)
        refine .nil ?_
        refine nB (nT ?_)
        obtain rfl:e=0:=by omega
        exact .mk ⟨H4,ks++[n],_,_,rfl,hle3.trans hle4,by simp [hkl],fun i hi=>by
         by_cases e:i=k
         ·subst e;rw [jy,if_neg ak,if_pos ak];exact hLw
         ·rw [jy,if_pos ak];exact hks i ak,hO2,hs.sb⟩
      ·rintro fr w ⟨H3,ks,vmk,en,rfl,hle3,hkl,hks,hO,hs⟩
       obtain ⟨H4,hle4,hRk,hs⟩:=hO.dy ak hs .here
       have hle04:=hle02.trans (hle3.trans hle4)
       refine nT ?_
       refine .ai (.y hs (zls [_,_,_,_,_,_,_,_,_,_,_,_,_,_,_] jG bJ) ?_)
       refine .o (.aF (vs:=RtV.cs ⟨s,l,a,b,c,d,vt,vs,.slice alg r.length clg,vms,vmk⟩) hs rfl rfl bJ ?_ (hv:=RtV.one g gl gr_ (RS.one hMs) (RS.one hRk)));intro w hs
       refine .z zg (.nil ?_)
       refine .ret ?_
       exact Fin.gD [] [] hs fun w hs=>⟨_,results2 rR (dr (vs:=RtV.cs ⟨s,l,a,b,c,d,vt,vs,.slice alg r.length clg,vms,vmk⟩) hs rfl jG bJ) rfl,H4,⟨s,l,a,b,c,d,vt,vs,.slice alg r.length clg,vms,vmk⟩,_,_,hle04,rfl,RtV.one g gl gr_ (RS.one hMs) (RS.one hRk),.ok hok hl hrt hm hkl hks,fun _=>⟨_,_,rfl,hMs.mono (hle3.trans hle4),hRk⟩,hs.out⟩
structure RtM(H:a8)(s:Srv)(l:Lns)(r:List Lg)(m:Rng)(ks:List Int)(z:RtV):Prop where
 es:z.s=s
 el:z.l=l
 sv:SvM H s z.a z.b z.c z.d
 ln:LnM H l z.t z.n
 lg:RLg H z.lg r
 ms:RRg H z.ms (msL m r r.length)
 mr:RI H z.mr ks
 one:z.cs.all Value.oneCell'=true
 beg:oY s l r m ks 0
set_option maxHeartbeats 1000000 in
theorem oJ{s:Srv}{l:Lns}{r:List Lg}{m:Rng}{ks:List Int}{z:RtV}(hs:St H w σ)(h:RtM H s l r m ks z):
  Cl Tryz.prog 80 [z.agg] w fun u w'=>∃H1 v as_ e,HLe H H1∧u= .tuple #[v,I e]∧RI H1 v as_∧AV s l r m as_ e∧St H1 w' σ:=by
 obtain ⟨s',l',a,b,c,d,t,n,lg,ms,mr⟩:=z
 obtain ⟨rfl,rfl,g,gl,hr,hms,hmr,hone,hB⟩:=h
 dsimp only at g gl hr hms hmr hone
 obtain ⟨alg,clg,rfl⟩:=hr.shape
 obtain ⟨ams,cms,rfl⟩:=hms.shape
 obtain ⟨amr,cmr,rfl⟩:=RI.shape hmr
 obtain ⟨hok,hl,hrt,hm,hkl,hlow⟩:=hB.ok'
 have hn:=hrt.many
 have hml:=ld m r r.length
 refine Cl.o Tryz.func80 Tryz.ntmps80 ag1 ?_
 refine .ai ?_
 refine .bx hs fun b1 w hs=>?_
 refine .z zg (.z zg (.nil (.ai (.z zg (.nil (.seq (.ai (.z (zfa fG) (.y hs (zld di) ?_)))))))))
 refine .z (dj aN) (.z zm (.nil ?_))
 refine .for (N:=r.length) (J:=fun k fr w=>∃H1 vo as_ en,fr=[(4,vo),(11,.slice alg r.length clg),(1,.pointer (some ⟨b1,0,none⟩))]∧HLe H H1∧as_.length=k∧(∀i<k,∃lo hi,jo s' (gi ks i).toNat (lg0 r i).dlo (lg0 r i).dhi lo hi 0∧gi as_ i=yL (lB m r i) lo hi)∧(0<k→s'.sys.Sound)∧cM 1 vo (Is as_) en∧St H1 w (en:: .blk b1 (RtV.cs ⟨s',l',a,b,c,d,t,n,.slice alg r.length clg,.slice ams (msL m r r.length).length cms,.slice amr ks.length cmr⟩)::σ)) ak ?_ ?_ ?_
 ·exact .mk ⟨H,_,[],.nul,rfl,HLe.refl _,rfl,fun i hi=>by omega,fun h=>by omega,.nil 1 none,hs.nul⟩
 ·rintro k fr w hk ⟨H1,vo,as_,en,rfl,hle1,hal,has,hsd,hO,hs⟩
  have hx:=jw (l:=r) hk
  have hxm:=zL m r (k:=r.length) (i:=k) ak
  have hdn:=(hrt.leg k hk).1.dense
  obtain ⟨q,hq,hqw⟩:=hB.mark hk
  obtain ⟨ao,lo',co,rfl,hlo⟩:=hO.shape
  refine .block (.ai (.z zm ?_))
  refine .ixX (enc:=Lg.c) hs (hr.mono hle1) rfl rfl aN aT hx dn ?_;intro b16 o16 hc16
  refine .q hs (bL (vs:=(Lg.c (lg0 r k))) rfl gz aT hc16) ?_
  refine .o (.alloc hs eV rfl fun b6 w hs=>?_)
  refine .z zg ?_
  refine .o (.aF (vs:=(lg0 r k).c) hs rfl rfl aT fun w hs=>?_)
  change St _ _ (.blk b6 (lgC (lg0 r k))::_) at hs
  refine .nil ?_
  refine .cut (fun fs w=>∃H2 lo hi e b7,j5 fs ⟨60,[],[(8,I e),(7,.pointer (some ⟨b7,0,none⟩)),(6,.pointer (some ⟨b6,0,none⟩)),(5,I (k:Int)),(4,.slice ao lo' co),(1,.pointer (some ⟨b1,0,none⟩)),(11,.slice alg r.length clg),(13,I (k:Int)),(12,I (r.length:Int))]⟩∧HLe H1 H2∧jo s' q (lg0 r k).dlo (lg0 r k).dhi lo hi e∧St H2 w (.blk b7 [I lo,I hi]:: .blk b6 (lgC (lg0 r k))::en:: .blk b1 (RtV.cs ⟨s',l',a,b,c,d,t,n,.slice alg r.length clg,.slice ams (msL m r r.length).length cms,.slice amr ks.length cmr⟩)::σ)) ?_ ?_
  ·refine .draw mix rfl hs fun w hs=>?_
   refine .z 0 rfl (zfa ij) ?_;refine .ys 1 rfl hs [_,_,_,_,_,_,_,_] aO aC ?_;refine .z 2 rfl (zfa eM) ?_;refine .y 3 rfl hs an ?_;refine .z 4 rfl zm ?_
   refine .ixX (enc:=fun x=>[I x]) (i:=5) hs rfl aq .none (hmr.mono hle1) rfl rfl ae aj (bw (l:=ks) (i:=k) ak) rfl ?_;intro b24 o24 hc24;replace hc24:=bI.one hc24
   refine .y 6 rfl hs af ?_;refine .z 7 rfl (zfa fw) ?_;refine .ys 8 rfl hs [_,_] aI ay ?_
   refine .e2 (i:=9) (j:=13) aq rfl rfl rfl rfl .none .none hs ?_ ?_
   ·rw [hq]
    refine .call Tryz.call88 rfl (cW (s:=s') hs (g.mono hle1) hok hdn) ?_;rintro _ w ⟨H2,lo,hi,e,hle2,rfl,hS,hs⟩
    refine .go ?_
    refine .z 10 rfl zm ?_;refine .z 11 rfl zex ?_;refine .z 12 rfl zex ?_
    refine .E 13 hs ?_
    refine .alloc hs bB rfl ?_;intro b7 w hs
    refine .go ?_
    refine .E 14 hs ?_
    refine .aF (vs:=[_,_]) hs rfl rfl ay ?_;intro w hs
    refine .go ?_
    refine .z 15 rfl zg ?_;refine .D hs ?_
    exact nT ⟨H2,lo,hi,e,b7,cn,hle2,hS,hs.sb⟩
   ·refine .alloc hs bB rfl ?_;intro b7 w hs
    refine .go ?_
    refine .E 9 hs ?_
    rw [hq]
    refine .call Tryz.call88 rfl (cW (s:=s') hs (g.mono hle1) hok hdn) ?_;rintro _ w ⟨H2,lo,hi,e,hle2,rfl,hS,hs⟩
    refine .go ?_
    refine .z 10 rfl zm ?_;refine .z 11 rfl zex ?_;refine .z 12 rfl zex ?_
    refine .E 14 hs ?_
    refine .aF (vs:=[_,_]) hs rfl rfl ay ?_;intro w hs
    refine .go ?_
    refine .z 15 rfl zg ?_;refine .D hs ?_
    exact nT ⟨H2,lo,hi,e,b7,cn,hle2,hS,hs.sb⟩
  ·rintro fs w ⟨H2,lo,hi,e,b7,hfs,hle2,hS,hs⟩
   refine WE.sub ?_ hfs
   clear hfs
   have hle02:=hle1.trans hle2
   refine .seq (.ai (.z zm (.z ja (.nil ?_))))
   refine (.eS rfl (fun hc32=>?_) (fun hc32=>?_))
   ·refine .ai (.z zm (.z zg (.z zg (.nil ?_))))
    refine .ret (rT (rB (rT (rB (rT (Fin.jr Tryz.results80 rfl rfl ?_))))))
    exact ⟨H2,_,[],_,hle02,rfl,RS.nil H2 1 none 0,by rcases hS.err hok hqw with h|h;exact (hc32 h.1).elim;rw [h.1];exact .fls hB h.2.1,hs.out⟩
   ·refine .skip ?_
    refine nT ?_
    refine .ai (.z zg (.nil ?_))
    refine .cut (fun fs w=>∃x,j5 fs ⟨60,[],[(9,I x),(4,.slice ao lo' co),(1,.pointer (some ⟨b1,0,none⟩)),(11,.slice alg r.length clg),(13,I (k:Int)),(12,I (r.length:Int))]⟩∧x=yL (lB m r k) lo hi∧St H2 w (.blk b7 [I lo,I hi]:: .blk b6 (lgC (lg0 r k))::en:: .blk b1 (RtV.cs ⟨s',l',a,b,c,d,t,n,.slice alg r.length clg,.slice ams (msL m r r.length).length cms,.slice amr ks.length cmr⟩)::σ)) ?_ ?_
    ·refine .block ?_
     refine .seq (.draw mix rfl hs fun w hs=>?_)
     refine .z 0 rfl (zfa ig) ?_;refine .y 1 rfl hs Tryz.isAgg80 ?_;refine .z 2 rfl zm ?_
     refine .ixX (enc:=Rng.c) (i:=3) hs rfl aq .none (RS.mono hms hle02) rfl rfl dp ay hxm rfl ?_;intro b38 o38 hc38
     refine .z 4 rfl (zfa bD) ?_
     refine .r (i:=5) hs rfl aq .none (bj rfl af (hc38.get 1 rfl)) ?_
     refine .z 6 rfl (zfa a6) ?_;refine .y 7 rfl hs af ?_;refine .z 8 rfl px ?_;refine .z 9 rfl zg ?_;refine .D hs ?_
     refine (.cz rfl (fun hc34=>?_) (fun hc34=>?_))
     ·refine .region (.z zg (.nil ?_))
      refine nB (nT ?_)
      exact ⟨_,cn,by unfold yL;simp [*],hs⟩
     ·refine .seq (.draw mix rfl hs fun w hs=>?_)
      refine .z 0 rfl (zfa ig) ?_;refine .y 1 rfl hs Tryz.isAgg80 ?_;refine .z 2 rfl zm ?_
      refine .ixX (enc:=Rng.c) (i:=3) hs rfl aq .none (RS.mono hms hle02) rfl rfl dp ay hxm rfl ?_;intro b48 o48 hc48
      refine .z 4 rfl (zfa a6) ?_
      refine .r (i:=5) hs rfl aq .none (bj rfl af (hc48.get 0 rfl)) ?_
      refine .z 6 rfl (zfa bD) ?_;refine .y 7 rfl hs af ?_;refine .z 8 rfl oa ?_;refine .z 9 rfl zg ?_;refine .D hs ?_
      refine (.cz rfl (fun hc44=>?_) (fun hc44=>?_))
      ·refine .region (.z zg (.nil ?_))
       refine nB (nT ?_)
       exact ⟨_,cn,by unfold yL;simp [*],hs⟩
      ·refine .skip ?_
       refine nB (nT ?_)
       exact ⟨_,cn,by unfold yL;simp [*],hs⟩
    ·rintro fs w ⟨x,hfs,hx9,hs⟩
     refine WE.sub ?_ hfs
     clear hfs
     refine .region (.z zm (.z zm ?_))
     refine .o (.buildSlice (cells:=Is [x]) hs cI rfl aq fun b56 w hs=>?_)
     refine .o (.append (ys:=Is [x]) hs cO rfl rfl hO (.own .here rfl rfl) (kV _) (fun l h=>by simp [Is] at h;omega) ?_);intro v57 en57 w hO2 hs
     rw [←List.map_append] at hO2
     refine .z zg (.nil ?_)
     refine nB (nT ?_)
     obtain rfl:e=0:=by omega
     exact .mk ⟨H2,_,as_++[x],_,rfl,hle02,by simp [hal],fun i hi=>by
      by_cases e:i=k
      ·subst e;exact ⟨_,_,by rw [hq,Int.toNat_natCast];exact hS,by rw [jy,if_neg ak,if_pos ak];exact hx9⟩
      ·rw [jy,if_pos ak];exact has i ak,fun _=>(hS.err hok hqw).elim (fun h=>h.2) (fun h=>by omega),hO2,hs.sb⟩
 ·rintro fr w ⟨H1,vo,as_,en,rfl,hle1,hal,has,hsd,hO,hs⟩
  obtain ⟨H4,hle4,hRk,hs⟩:=hO.dy ak hs .here
  refine nT ?_
  refine .ai (.z zm (.z zg (.z zg (.nil ?_))))
  refine .ret (Fin.jr Tryz.results80 rfl rfl ?_)
  exact ⟨H4,_,_,_,hle1.trans hle4,rfl,hRk,.ok hB (hsd ak) hal has,hs.out⟩
theorem kE{s:Srv}{l:Lns}{r:List Lg}{m:Rng}{a b c d vt vs vlg:Value}(hs:St H w σ)(g:SvM H s a b c d)(gl:LnM H l vt vs)(gr_:RLg H vlg r):
  Cl Tryz.prog 79 [svA s a b c d,lnA l vt vs,.agg #[vlg],.agg #[I m.lo,I m.hi]] w fun u w'=>∃(H1:a8) (z:RtV) (ks:List Int) (e:Int),HLe H H1∧u= .tuple #[z.agg,I e]∧z.cs.all Value.oneCell'=true∧oY s l r m ks e∧(e=0→RtM H1 s l r m ks z)∧St H1 w' σ:=by
 refine (qH hs g gl gr_).mono ?_
 rintro u w' ⟨H1,z,ks,e,hle,hu,ho,hB,h0,hs⟩
 exact ⟨H1,z,ks,e,hle,hu,ho,hB,fun he=>by
  obtain ⟨vms,vmk,rfl,h1,h2⟩:=h0 he
  subst he
  exact ⟨rfl,rfl,g.mono hle,gl.mono hle,gr_.mono hle,h1,h2,ho,hB⟩,hs⟩
theorem oK{s:Srv}{l:Lns}{r:List Lg}{m:Rng}{a b c d vt vs vlg:Value}(hs:St H w σ)(g:SvM H s a b c d)(gl:LnM H l vt vs)(gr_:RLg H vlg r):
  Cl Tryz.prog 24 [svA s a b c d,lnA l vt vs,.agg #[vlg],.agg #[I m.lo,I m.hi]] w fun u w'=>∃H1 v as_ e,HLe H H1∧u= .tuple #[v,I e]∧RI H1 v as_∧AV s l r m as_ e∧St H1 w' σ:=by
 refine Cl.o Tryz.func24 Tryz.ntmps24 ag4 ?_
 refine .ai ?_
 refine .bx hs fun b4 w hs=>?_
 refine .bx hs fun b5 w hs=>?_
 refine .bx hs fun b6 w hs=>?_
 refine .bx hs fun b7 w hs=>?_
 refine .z zg (.z zg (.nil (.ai (.y hs (zls [_,_,_,_,_,_,_,_] aO aC) (.y hs (zls [_,_,_,_] br aP) (.y hs (zls [_] dV cu) (.y hs (zls [_,_] aI ay) ?_)))))))
 refine .o (.call Tryz.call79 rfl (kE (s:=s) (l:=l) (m:=m) hs g gl gr_) ?_);rintro _ w ⟨H1,z,ks,e,hle1,rfl,ho,hB,h0,hs⟩
 refine .z zm (.z zex (.z zex ?_))
 refine .o (.alloc hs gY rfl fun b10 w hs=>?_)
 refine .o (.aF (vs:=z.cs) hs rfl rfl bJ ?_ (hv:=ho));intro w hs
 refine .z zg (.nil (.seq (.ai (.z zm (.z ja (.nil ?_))))))
 refine (.eS rfl (fun hc21=>?_) (fun hc21=>?_))
 ·refine .ai (.z zm (.z zg (.z zg (.nil ?_))))
  refine .ret (rT (Fin.jr Tryz.results24 rfl rfl ?_))
  exact ⟨H1,_,[],_,hle1,rfl,RS.nil H1 1 none 0,.bad hB hc21,hs.out⟩
 ·refine .skip ?_
  refine nT ?_
  refine .ai (.y hs (zls [_,_,_,_,_,_,_,_,_,_,_,_,_,_,_] jG bJ) ?_)
  obtain rfl:e=0:=by omega
  refine .o (.call Tryz.call80 rfl (oJ hs (h0 rfl)) ?_);rintro _ w ⟨H2,v,as_,e,hle2,rfl,hR,hA,hs⟩
  refine .z zex (.z zex (.z zg (.z zg (.nil ?_))))
  refine .ret (Fin.jr Tryz.results24 rfl rfl ?_)
  exact ⟨H2,_,_,_,hle1.trans hle2,rfl,hR,hA,hs.out⟩
theorem pK{v:Value}{as_:List Int}(hs:St H w σ)(hr:RI H v as_):Cl Tryz.prog 86 [v] w fun u w'=>u=I (wB as_)∧St H w' σ:=by
 obtain ⟨a,c,rfl⟩:=RI.shape hr
 have hl:=(RI.len hr).2.2
 refine Cl.o Tryz.func86 Tryz.ntmps86 ag1 ?_
 refine .ai (.z zg (.nil (.ai (.z zg (.nil (.seq (.ai (.z zm (.z (dj ae) ?_)))))))))
 refine .z zm (.nil ?_)
 refine .for (N:=as_.length) (J:=fun k fr w=>fr=[(3,I (if (2:Int)∈as_.take k then 2 else 1)),(6,.slice a as_.length c)]∧(∀i<k,gi as_ i≠0)∧St H w σ) ak ?_ ?_ ?_
 ·exact .mk ⟨rfl,fun i hi=>by omega,hs⟩
 ·rintro k fr w hk ⟨rfl,hno,hs⟩
  have ht:=bT (bw hk)
  refine .block (.ai ?_)
  refine .ixY hs hr rfl rfl ae aj (bw (l:=as_) (i:=k) ak) dn ?_;intro b10 o10 hc10
  refine .q hs (bj rfl af hc10) ?_
  refine .z zg (.nil (.ai (.z zm (.nil (.block (.ai (.z jH (.z zg (.nil ?_)))))))))
  refine (.cz rfl (fun hc13=>?_) (fun hc13=>?_))
  ·refine .ai (.z zg (.nil ?_))
   refine .ret (rB (rB (rT (rB (rT (Fin.aU Tryz.results86 rfl ?_))))))
   exact ⟨by unfold wB;rw [if_pos (by rw [←hc13];exact List.mem_of_getElem? (bw hk))],hs⟩
  ·refine .ai (.z jH (.z zg (.nil ?_)))
   refine (.cz rfl (fun hc15=>?_) (fun hc15=>?_))
   ·refine .region (.z zg (.nil ?_))
    refine nB (nB (nT ?_))
    exact .mk ⟨by rw [ht,if_pos (List.mem_append.2 (.inr (by rw [hc15];exact .head _)))],fun i hi=>by
     by_cases e:i=k
     ·subst e;exact hc13
     ·exact hno i ak,hs⟩
   ·refine .skip ?_
    refine nB (nB (nT ?_))
    have e2:(if (2:Int)∈as_.take (k+1) then (2:Int) else 1)=if (2:Int)∈as_.take k then 2 else 1:=by
     have e:(2:Int)∈as_.take (k+1)↔(2:Int)∈as_.take k:=by
      rw [ht,List.mem_append]
      exact ⟨fun h=>h.elim id fun h=>by rw [List.mem_singleton] at h;exact (hc15 h.symm).elim,.inl⟩
     simp only [e]
    exact .mk ⟨by rw [e2],fun i hi=>by
     by_cases e:i=k
     ·subst e;exact hc13
     ·exact hno i ak,hs⟩
 ·rintro fr w ⟨rfl,hno,hs⟩
  rw [List.take_length]
  refine nT ?_
  refine .ai (.z zm (.z zg (.nil ?_)))
  refine .ret (Fin.aU Tryz.results86 rfl ?_)
  have h0:¬(0:Int)∈as_:=fun h=>by
   obtain ⟨i,hi⟩:=List.getElem?_of_mem h
   have hlt:=(List.getElem?_eq_some_iff.1 hi).1
   rw [bw hlt] at hi
   exact hno i hlt (Option.some.inj hi)
  exact ⟨by unfold wB;rw [if_neg h0],hs⟩
theorem kF{s:Srv}{l:Lns}{r:List Lg}{m:Rng}{a b c d vt vs vlg:Value}(hs:St H w σ)(g:SvM H s a b c d)(gl:LnM H l vt vs)(gr_:RLg H vlg r):
  Cl Tryz.prog 26 [svA s a b c d,lnA l vt vs,.agg #[vlg],.agg #[I m.lo,I m.hi]] w fun u w'=>∃H1 n e,HLe H H1∧u= .tuple #[I n,I e]∧DA s l r m n e∧St H1 w' σ:=by
 refine Cl.o Tryz.func26 Tryz.ntmps26 ag4 ?_
 refine .ai ?_
 refine .bx hs fun b4 w hs=>?_
 refine .bx hs fun b5 w hs=>?_
 refine .bx hs fun b6 w hs=>?_
 refine .bx hs fun b7 w hs=>?_
 refine .z zg (.z zg (.nil (.ai (.y hs (zls [_,_,_,_,_,_,_,_] aO aC) (.y hs (zls [_,_,_,_] br aP) (.y hs (zls [_] dV cu) (.y hs (zls [_,_] aI ay) ?_)))))))
 refine .o (.call Tryz.call24 rfl (oK (s:=s) (l:=l) (m:=m) hs g gl gr_) ?_);rintro _ w ⟨H1,v,as_,e,hle1,rfl,hR,hA,hs⟩
 refine .z zm (.z zex (.z zex (.z zg (.z zg (.nil (.seq (.ai (.z zm (.z ja ?_)))))))))
 refine .nil ?_
 refine (.eS rfl (fun hc21=>?_) (fun hc21=>?_))
 ·refine .ai (.z zm (.z zg (.z zg (.nil ?_))))
  refine .ret (rT (Fin.jr Tryz.results26 rfl rfl ?_))
  exact ⟨H1,_,_,hle1,rfl,.bad hA hc21,hs.out⟩
 ·refine .skip ?_
  refine nT ?_
  refine .ai (.z zm ?_)
  obtain rfl:e=0:=by omega
  refine .o (.call Tryz.call86 rfl (pK hs hR) ?_);rintro _ w ⟨rfl,hs⟩
  refine .z zg (.z zg (.nil ?_))
  refine .ret (Fin.jr Tryz.results26 rfl rfl ?_)
  exact ⟨H1,_,_,hle1,rfl,.ok hA,hs.out⟩
set_option maxHeartbeats 1000000 in
theorem rD{s:Srv}{l:Lns}{r:List Lg}{a b c d vt vs vlg:Value}(hs:St H w σ)(g:SvM H s a b c d)(gl:LnM H l vt vs)(gr_:RLg H vlg r):
  Cl Tryz.prog 28 [svA s a b c d,lnA l vt vs,.agg #[vlg]] w fun u w'=>∃H1 n e,HLe H H1∧u= .tuple #[I n,I e]∧tG s l r n e∧St H1 w' σ:=by
 refine Cl.o Tryz.func28 Tryz.ntmps28 ag3 ?_
 refine .ai ?_
 refine .bx hs fun b3 w hs=>?_
 refine .bx hs fun b4 w hs=>?_
 refine .bx hs fun b5 w hs=>?_
 refine .z zg (.z zg (.nil (.ai (.y hs (zls [_,_,_,_,_,_,_,_] aO aC) (.y hs (zls [_,_,_,_] br aP) (.y hs (zls [_] dV cu) (.z (zbd [I 0,I 0] bn) ?_)))))))
 refine .o (.call Tryz.call79 rfl (kE (s:=s) (l:=l) (m:=⟨0,0⟩) hs g gl gr_) ?_);rintro _ w ⟨H1,z,ks,e,hle1,rfl,ho,hB,h0,hs⟩
 refine .z zm (.z zex (.z zex ?_))
 refine .o (.alloc hs gY rfl fun b8 w hs=>?_)
 refine .o (.aF (vs:=z.cs) hs rfl rfl bJ ?_ (hv:=ho));intro w hs
 refine .z zg (.nil (.seq (.ai (.z zm (.z ja (.nil ?_))))))
 refine (.eS rfl (fun hc25=>?_) (fun hc25=>?_))
 ·refine .ai (.z zm (.z zg (.z zg (.nil ?_))))
  refine .ret (rT (Fin.jr Tryz.results28 rfl rfl ?_))
  exact ⟨H1,_,_,hle1,rfl,.bad hB hc25,hs.out⟩
 ·refine .skip ?_
  refine nT ?_
  refine .ai (.z zg (.z zg (.nil (.seq (.ai ?_)))))
  obtain rfl:e=0:=by omega
  obtain ⟨s',l',a',b',c',d',t',n',lg',ms',mr'⟩:=z
  obtain ⟨rfl,rfl,-,-,hr',hms,hmr,hone,-⟩:=h0 rfl
  dsimp only at hr' hms hmr
  obtain ⟨alg,clg,rfl⟩:=hr'.shape
  obtain ⟨amr,cmr,rfl⟩:=RI.shape hmr
  obtain ⟨hok,hl,hrt,hm,hkl,hlow⟩:=hB.ok'
  have hn:=hrt.many
  refine .z (zfa fG) (.y hs (zld di) (.z (dj aN) (.z zm (.nil ?_))))
  refine .for (N:=r.length) (J:=fun k fr w=>∃H2 dd best,fr=[(10,I best),(11,I (aB (fun i=>(lg0 r i).blo) k)),(28,.slice alg r.length clg),(8,.pointer (some ⟨b8,0,none⟩)),(3,.pointer (some ⟨b3,0,none⟩))]∧HLe H1 H2∧(∀i<k,∃hi,jo s' (gi ks i).toNat (lg0 r i).dlo (lg0 r i).dhi (dd i) hi 0)∧DS dd (fun i=>(lg0 r i).blo) k best∧((-300000000≤best∧best≤1000000000000)∧0≤aB (fun i=>(lg0 r i).blo) k∧aB (fun i=>(lg0 r i).blo) k≤k*1000000000000)∧(0<k→s'.sys.Sound)∧St H2 w (.blk b8 (RtV.cs ⟨s',l',a',b',c',d',t',n',.slice alg r.length clg,ms',.slice amr ks.length cmr⟩):: .blk b3 (svC s' a b c d)::σ)) ak ?_ ?_ ?_
  ·exact .mk ⟨H1,fun _=>0,1000000000000,rfl,HLe.refl _,fun i hi=>by omega,.inl ⟨fun i hi=>by omega,rfl⟩,by simp [aB],fun h=>by omega,hs.sb⟩
  ·rintro k fr w hk ⟨H2,dd,best,rfl,hle2,hds,hSI,hbd,hsd,hs⟩
   have hx:=jw (l:=r) hk
   have hdn:=(hrt.leg k hk).1.dense
   have hbn:=(hrt.leg k hk).1.burn
   unfold eU at hbn
   obtain ⟨q,hq,hqw⟩:=hB.mark hk
   have hsS:aB (fun i=>(lg0 r i).blo) (k+1)=aB (fun i=>(lg0 r i).blo) k+(lg0 r k).blo:=rfl
   generalize hSe:aB (fun i=>(lg0 r i).blo) k=S at*
   refine .block (.ai (.z zm ?_))
   refine .ixX (enc:=Lg.c) hs (hr'.mono hle2) rfl rfl aN aT hx dn ?_;intro b33 o33 hc33
   refine .q hs (bL (vs:=(Lg.c (lg0 r k))) rfl gz aT hc33) ?_
   refine .o (.alloc hs eV rfl fun b13 w hs=>?_)
   refine .z zg ?_
   refine .o (.aF (vs:=(lg0 r k).c) hs rfl rfl aT fun w hs=>?_)
   change St _ _ (.blk b13 (lgC (lg0 r k))::_) at hs
   refine .nil ?_
   refine .cut (fun fs w=>∃H3 lo hi e b14,j5 fs ⟨68,[],[(15,I e),(14,.pointer (some ⟨b14,0,none⟩)),(13,.pointer (some ⟨b13,0,none⟩)),(10,I best),(11,I S),(28,.slice alg r.length clg),(8,.pointer (some ⟨b8,0,none⟩)),(3,.pointer (some ⟨b3,0,none⟩)),(30,I (k:Int)),(29,I (r.length:Int))]⟩∧HLe H2 H3∧jo s' q (lg0 r k).dlo (lg0 r k).dhi lo hi e∧St H3 w (.blk b14 [I lo,I hi]:: .blk b13 (lgC (lg0 r k)):: .blk b8 (RtV.cs ⟨s',l',a',b',c',d',t',n',.slice alg r.length clg,ms',.slice amr ks.length cmr⟩):: .blk b3 (svC s' a b c d)::σ)) ?_ ?_
   ·refine .draw mix rfl hs fun w hs=>?_
    refine .ys 0 rfl hs [_,_,_,_,_,_,_,_] aO aC ?_;refine .z 1 rfl (zfa eM) ?_;refine .y 2 rfl hs an ?_;refine .z 3 rfl zm ?_
    refine .ixX (enc:=fun x=>[I x]) (i:=4) hs rfl aq .none (RS.mono hmr hle2) rfl rfl ae aj (bw (l:=ks) (i:=k) ak) rfl ?_;intro b40 o40 hc40;replace hc40:=bI.one hc40
    refine .y 5 rfl hs af ?_;refine .z 6 rfl (zfa fw) ?_;refine .ys 7 rfl hs [_,_] aI ay ?_
    refine .e2 (i:=8) (j:=12) aq rfl rfl rfl rfl .none .none hs ?_ ?_
    ·rw [hq]
     refine .call Tryz.call88 rfl (cW (s:=s') hs (g.mono (hle1.trans hle2)) hok hdn) ?_;rintro _ w ⟨H3,lo,hi,e,hle3,rfl,hS,hs⟩
     refine .go ?_
     refine .z 9 rfl zm ?_;refine .z 10 rfl zex ?_;refine .z 11 rfl zex ?_
     refine .E 12 hs ?_
     refine .alloc hs bB rfl ?_;intro b14 w hs
     refine .go ?_
     refine .E 13 hs ?_
     refine .aF (vs:=[_,_]) hs rfl rfl ay ?_;intro w hs
     refine .go ?_
     refine .z 14 rfl zg ?_;refine .D hs ?_
     exact nT ⟨H3,lo,hi,e,b14,cn,hle3,hS,hs.sb⟩
    ·refine .alloc hs bB rfl ?_;intro b14 w hs
     refine .go ?_
     refine .E 8 hs ?_
     rw [hq]
     refine .call Tryz.call88 rfl (cW (s:=s') hs (g.mono (hle1.trans hle2)) hok hdn) ?_;rintro _ w ⟨H3,lo,hi,e,hle3,rfl,hS,hs⟩
     refine .go ?_
     refine .z 9 rfl zm ?_;refine .z 10 rfl zex ?_;refine .z 11 rfl zex ?_
     refine .E 13 hs ?_
     refine .aF (vs:=[_,_]) hs rfl rfl ay ?_;intro w hs
     refine .go ?_
     refine .z 14 rfl zg ?_;refine .D hs ?_
     exact nT ⟨H3,lo,hi,e,b14,cn,hle3,hS,hs.sb⟩
   ·rintro fs w ⟨H3,lo,hi,e,b14,hfs,hle3,hS,hs⟩
    refine WE.sub ?_ hfs
    clear hfs
    have hle03:=hle1.trans (hle2.trans hle3)
    have hSb:=hS.bd hdn
    refine .seq (.ai (.z zm (.z ja (.nil ?_))))
    refine (.eS rfl (fun hc48=>?_) (fun hc48=>?_))
    ·refine .ai (.z zm (.z zg (.z zg (.nil ?_))))
     refine .ret (rT (rB (rT (rB (rT (Fin.jr Tryz.results28 rfl rfl ?_))))))
     exact ⟨H3,_,_,hle03,rfl,by rcases hS.err hok hqw with h|h;exact (hc48 h.1).elim;rw [h.1];exact .fls hB h.2.1,hs.out⟩
    ·refine .skip ?_
     refine nT ?_
     refine .seq (.ai (.z (zfa a6) ?_))
     obtain rfl:e=0:=by omega
     have hnx:∀i<k+1,∃hi,jo s' (gi ks i).toNat (lg0 r i).dlo (lg0 r i).dhi (A4 dd k lo i) hi 0:=fun i hi=>by
      by_cases e:i=k
      ·subst e;rw [sP,hq,Int.toNat_natCast];exact ⟨_,hS⟩
      ·rw [sO _ _ ak];exact hds i ak
     have hsd':s'.sys.Sound:=(hS.err hok hqw).elim (fun h=>h.2) (fun h=>by omega)
     refine .y hs (zld af) (.z mT (.nil ?_))
     refine (.cz rfl (fun hc52=>?_) (fun hc52=>?_))
     ·refine .region (.z zg (.nil ?_))
      refine nT ?_
      refine .ai (.z zm (.z (zfa a6) (.y hs (zld af) (.z zm (.z eh (.z Ck (.z zg (.nil (.region ?_)))))))))
      refine .z zm (.z (zfa fu) (.z (zfa a6) (.y hs (zld af) (.z eh (.z zg (.nil ?_))))))
      refine nB (nT ?_)
      exact .mk ⟨H3,A4 dd k lo,min (-1) (lo+S),by rw [hsS],hle2.trans hle3,hnx,.neg hc52,ak,fun _=>hsd',hs.sb⟩
     ·refine .skip ?_
      refine nT ?_
      refine .ai (.z zm (.z (zfa a6) (.y hs (zld af) (.z zm (.z eh (.z Ck (.z zg (.nil (.region ?_)))))))))
      refine .z zm (.z (zfa fu) (.z (zfa a6) (.y hs (zld af) (.z eh (.z zg (.nil ?_))))))
      refine nB (nT ?_)
      exact .mk ⟨H3,A4 dd k lo,min best (lo+S),by rw [hsS],hle2.trans hle3,hnx,by rw [←hSe];exact hSI.pos ak,ak,fun _=>hsd',hs.sb⟩
  ·rintro fr w ⟨H2,dd,best,rfl,hle2,hds,hSI,hbd,hsd,hs⟩
   refine nT ?_
   refine .seq (.ai (.z zm (.z mT (.nil ?_))))
   refine (.cz rfl (fun hc66=>?_) (fun hc66=>?_))
   ·refine .ai (.z zg (.z zg (.nil ?_)))
    refine .ret (rT (Fin.jr Tryz.results28 rfl rfl ?_))
    rcases hSI with ⟨h1,h2⟩|⟨⟨i,h1,h3⟩,h2⟩
    ·exfalso
     have key:∀n,n≤r.length→0≤qq dd (fun i=>(lg0 r i).blo) n:=fun n=>by
      induction n with
      |zero=>intro _;simp [qq]
      |succ n ih=>
       intro hn
       have:=ih ak
       have:=h1 n ak
       have:0≤aB (fun i=>(lg0 r i).blo) n:=bQ fun i hi=>(hrt.leg i ak).1.burn.1
       simp only [qq];omega
     have:=key _ (Nat.le_refl _)
     omega
    ·obtain ⟨hi,hS⟩:=hds i h1
     exact ⟨H2,_,_,hle1.trans hle2,rfl,.none hB (hsd ak) h1 hS h3,hs.out⟩
   ·refine .skip ?_
    refine nT ?_
    refine .ai (.z zm (.z zg (.z zg (.nil ?_))))
    refine .ret (Fin.jr Tryz.results28 rfl rfl ?_)
    rcases hSI with ⟨h1,h2⟩|⟨_,h2⟩
    ·rw [h2]
     exact ⟨H2,_,_,hle1.trans hle2,rfl,.ok hB (hsd ak) fun i hi=>⟨hds i hi,h1 i hi⟩,hs.out⟩
    ·omega
set_option maxHeartbeats 1000000 in
theorem lC{s:Srv}{l:Lns}{r:List Lg}{m:Rng}{x:Wit}{a b c d vt vs vlg vh:Value}(hs:St H w σ)(g:SvM H s a b c d)(gl:LnM H l vt vs)(gr_:RLg H vlg r)(gh:RT H vh x.rows):
  Cl Tryz.prog 32 [svA s a b c d,lnA l vt vs,.agg #[vlg],.agg #[I m.lo,I m.hi],.agg #[I x.leg,I x.dense,I x.mass,vh]] w fun u w'=>∃H1 e,HLe H H1∧u=I e∧CC s l r m x e∧St H1 w' σ:=by
 refine Cl.o Tryz.func32 Tryz.ntmps32 ag5 ?_
 refine .ai ?_
 refine .bx hs fun b5 w hs=>?_
 refine .bx hs fun b6 w hs=>?_
 refine .bx hs fun b7 w hs=>?_
 refine .bx hs fun b8 w hs=>?_
 refine .bx hs fun b9 w hs=>?_
 refine .z zg (.nil (.ai (.y hs (zls [_,_,_,_,_,_,_,_] aO aC) (.y hs (zls [_,_,_,_] br aP) (.y hs (zls [_] dV cu) (.y hs (zls [_,_] aI ay) ?_))))))
 refine .o (.call Tryz.call79 rfl (kE (s:=s) (l:=l) (m:=m) hs g gl gr_) ?_);rintro _ w ⟨H1,z,ks,e,hle1,rfl,ho,hB,h0,hs⟩
 refine .z zm (.z zex (.z zex ?_))
 refine .o (.alloc hs gY rfl fun b11 w hs=>?_)
 refine .o (.aF (vs:=z.cs) hs rfl rfl bJ ?_ (hv:=ho));intro w hs
 refine .z zg (.nil (.seq (.ai (.z zm (.z ja (.nil ?_))))))
 refine (.eS rfl (fun hc26=>?_) (fun hc26=>?_))
 ·refine .ai (.z zm (.z zg (.nil ?_)))
  refine .ret (rT (Fin.aU lS rfl ?_))
  exact ⟨H1,_,hle1,rfl,.bad hB hc26,hs.out⟩
 ·refine .skip ?_
  refine nT ?_
  refine .seq (.ai ?_)
  obtain rfl:e=0:=by omega
  obtain ⟨s',l',a',b',c',d',t',n',lg',ms',mr'⟩:=z
  obtain ⟨rfl,rfl,g',-,hr',hms,hmr,hone,-⟩:=h0 rfl
  dsimp only at g' hr' hms hmr
  obtain ⟨alg,clg,rfl⟩:=hr'.shape
  obtain ⟨ams,cms,rfl⟩:=hms.shape
  obtain ⟨amr,cmr,rfl⟩:=RI.shape hmr
  obtain ⟨hok,hl,hrt,hm,hkl,hlow⟩:=hB.ok'
  have hn:=hrt.many
  have hml:=ld m r r.length
  replace gh:=gh.mono hle1
  refine .z (zfa ff) (.y hs (zld af) (.z (zfa fG) (.y hs (zld di) (.z (dj aN) (.z gC ?_)))))
  refine .o (.call cV rfl (aW hs) ?_);rintro _ w ⟨rfl,hs⟩
  refine .z eI (.z zm ?_)
  refine .bif (t':=36) rfl (fun hb36=>?_) (fun hb36=>?_)
  ·refine .gFs 5 8 false rfl rfl rfl ?_
   refine .z zpT (.nil ?_)
   refine (.cT ?_)
   refine .ai (.z zg (.nil ?_))
   refine .ret (rT (Fin.aU lS rfl ?_))
   exact ⟨H1,_,hle1,rfl,.no hB (fun h=>by have:=h.leg;simp_all),hs.out⟩
  ·refine .gT rfl rfl ?_
   refine .y hs (zls [_,_,_,_,_,_,_,_] aO aC) ?_
   refine .gT rfl rfl ?_
   refine .z (zfa jN) ?_
   refine .gT rfl rfl ?_
   refine .y hs (zls [_] Tryz.isAgg64 vH) ?_
   refine .gT rfl rfl ?_
   refine .o (.call Tryz.call65 rfl (kg (s:=s') (rows:=x.rows) hs (g.mono hle1).st (g.mono hle1).wa (g.mono hle1).rd (g.mono hle1).cm gh) ?_);rintro _ w ⟨H2,e,hle2,rfl,hCh,hs⟩
   have hle02:=hle1.trans hle2
   refine .gT rfl rfl ?_
   refine .z ja (.z zpF (.nil ?_))
   refine (.eS rfl (fun hc42=>?_) (fun hc42=>?_))
   ·refine .ai (.z zg (.nil ?_))
    refine .ret (rT (Fin.aU lS rfl ?_))
    exact ⟨H2,_,hle02,rfl,.no hB (fun h=>hc42 (hCh.uniq h.hull)),hs.out⟩
   ·refine .skip ?_
    refine nT ?_
    refine .cut (fun fs w=>∃b13 b14,j5 fs ⟨101,[],[(14,.pointer (some ⟨b14,0,none⟩)),(13,.pointer (some ⟨b13,0,none⟩)),(11,.pointer (some ⟨b11,0,none⟩)),(9,.pointer (some ⟨b9,0,none⟩))]⟩∧St H2 w (.blk b14 (lB m r x.leg.toNat).c:: .blk b13 (lg0 r x.leg.toNat).c:: .blk b11 (RtV.cs ⟨s',l',a',b',c',d',t',n',.slice alg r.length clg,.slice ams (msL m r r.length).length cms,.slice amr ks.length cmr⟩):: .blk b9 [I x.leg,I x.dense,I x.mass,vh]::σ)) ?_ ?_
    ·refine .draw mix rfl hs fun w hs=>?_
     have hleg:0≤x.leg∧x.leg≤(r.length:Int) - 1:=by simpa using hb36
     obtain rfl:e=0:=by omega
     have hlt:x.leg.toNat<r.length:=by omega
     have hxl:=jw (l:=r) hlt
     have hxm:=zL m r (k:=r.length) (i:=x.leg.toNat) ak
     refine .z 0 rfl (zfa fG) ?_;refine .y 1 rfl hs di ?_;refine .z 2 rfl (zfa ff) ?_;refine .y 3 rfl hs af ?_
     refine .ixX (enc:=Lg.c) (i:=4) hs rfl aq .none (RS.mono hr' hle2) rfl rfl aN aT hxl ak ?_;intro b47 o47 hc47
     refine .r (i:=5) hs rfl aq .none (bL (vs:=(lg0 r x.leg.toNat).c) rfl gz aT hc47) ?_
     refine .z 6 rfl (zfa ig) ?_;refine .y 7 rfl hs Tryz.isAgg80 ?_;refine .z 8 rfl (zfa ff) ?_;refine .y 9 rfl hs af ?_
     refine .ixX (enc:=Rng.c) (i:=10) hs rfl aq .none (RS.mono hms hle2) rfl rfl dp ay hxm ak ?_;intro b53 o53 hc53
     refine .r (i:=11) hs rfl aq .none (bL (vs:=(lB m r x.leg.toNat).c) rfl aI ay hc53) ?_
     refine .e2 (i:=12) (j:=13) aq rfl rfl rfl rfl .none .none hs ?_ ?_
     ·refine .alloc hs eV rfl ?_;intro b13 w hs
      refine .go ?_
      refine .E 13 hs ?_
      refine .alloc hs bB rfl ?_;intro b14 w hs
      refine .go ?_
      refine .E 14 hs ?_
      refine .aF (vs:=(lg0 r x.leg.toNat).c) hs rfl rfl aT ?_;intro w hs
      refine .go ?_
      refine .E 15 hs ?_
      refine .aF (vs:=(lB m r x.leg.toNat).c) hs rfl rfl ay ?_;intro w hs
      refine .go ?_
      refine .D hs ?_
      exact nT ⟨b13,b14,cn,hs.sb⟩
     ·refine .alloc hs bB rfl ?_;intro b14 w hs
      refine .go ?_
      refine .E 12 hs ?_
      refine .alloc hs eV rfl ?_;intro b13 w hs
      refine .go ?_
      refine .E 14 hs ?_
      refine .aF (vs:=(lg0 r x.leg.toNat).c) hs rfl rfl aT ?_;intro w hs
      refine .go ?_
      refine .E 15 hs ?_
      refine .aF (vs:=(lB m r x.leg.toNat).c) hs rfl rfl ay ?_;intro w hs
      refine .go ?_
      refine .D hs ?_
      exact nT ⟨b13,b14,cn,hs.sb⟩
    ·rintro fs w ⟨b13,b14,hfs,hs⟩
     refine WE.sub ?_ hfs
     clear hfs
     have hleg:0≤x.leg∧x.leg≤(r.length:Int) - 1:=by simpa using hb36
     obtain rfl:e=0:=by omega
     have hlt:x.leg.toNat<r.length:=by omega
     obtain ⟨q,hq,hqw⟩:=hB.mark hlt
     have hdn:=(hrt.leg _ hlt).1.dense
     unfold eg at hdn
     change St _ _ (.blk b14 [I (lB m r x.leg.toNat).lo,I (lB m r x.leg.toNat).hi]:: .blk b13 (lgC (lg0 r x.leg.toNat))::_) at hs
     refine .seq (.ai (.z (zfa jP) (.y hs (zld af) (.z (zfa fw) (.z (zfa a6) (.y hs (zld af) (.z (zfa fw) (.z (zfa bD) (.y hs (zld af) ?_)))))))))
     refine .o (.call cV rfl (aW hs) ?_);rintro _ w ⟨rfl,hs⟩
     refine .z eI (.z zm ?_)
     refine .bif (t':=65) rfl (fun hb65=>?_) (fun hb65=>?_)
     ·refine .gFs 8 10 false rfl rfl rfl ?_
      refine .z zpT (.nil ?_)
      refine (.cT ?_)
      refine .ai (.z zg (.nil ?_))
      refine .ret (rT (Fin.aU lS rfl ?_))
      exact ⟨H2,_,hle02,rfl,.no hB (fun h=>by have:=h.dense;simp_all),hs.out⟩
     ·refine .gT rfl rfl ?_
      refine .z (zfa jO) ?_
      refine .gT rfl rfl ?_
      refine .y hs (zld af) ?_
      refine .gT rfl rfl ?_
      refine .z (zfa a6) ?_
      refine .gT rfl rfl ?_
      refine .y hs (zld af) ?_
      refine .gT rfl rfl ?_
      refine .z (zfa bD) ?_
      refine .gT rfl rfl ?_
      refine .y hs (zld af) ?_
      refine .gT rfl rfl ?_
      refine .o (.call cV rfl (aW hs) ?_);rintro _ w ⟨rfl,hs⟩
      refine .gT rfl rfl ?_
      refine .z eI (.z zpF (.nil ?_))
      refine (.cond rfl (fun hc74=>?_) (fun hc74=>?_))
      ·refine .ai (.z zg (.nil ?_))
       refine .ret (rT (Fin.aU lS rfl ?_))
       exact ⟨H2,_,hle02,rfl,.no hB (fun h=>by have:=h.mass;simp_all),hs.out⟩
      ·refine .skip ?_
       refine nT ?_
       refine .ai (.z zg (.nil ?_))
       refine .cut (fun fs w=>∃n H3,j5 fs ⟨101,[],[(15,I n),(9,.pointer (some ⟨b9,0,none⟩))]⟩∧HLe H H3∧HlR s' x.rows q n∧(-7000000000≤n∧n≤7000000000)∧St H3 w (.blk b9 [I x.leg,I x.dense,I x.mass,vh]::σ)) ?_ ?_
       ·refine .ai (.z (zfa eM) (.y hs (zld an) (.z (zfa ff) (.y hs (zld af) ?_))))
        refine .ixX (enc:=fun x=>[I x]) hs (RS.mono hmr hle2) rfl rfl ae aj (bw (l:=ks) (i:=x.leg.toNat) ak) ak ?_;intro b79 o79 hc79;replace hc79:=bI.one hc79
        rw [hq] at hc79
        refine .y hs (zld af) (.z zg (.nil (.ai (.z zm (.z oa (.nil ?_))))))
        refine (.cz rfl (fun hc82=>?_) (fun hc82=>?_))
        ·refine .draw mix rfl hs fun w hs=>?_
         refine .z 0 rfl (zfa ij) ?_;refine .z 1 rfl (zfa bq) ?_;refine .ys 2 rfl hs [_,_,_,_,_,_] bE aR ?_;refine .z 3 rfl (zfa jN) ?_;refine .ys 4 rfl hs [_] Tryz.isAgg64 vH ?_;refine .z 5 rfl zm ?_
         refine .E 6 hs ?_
         refine .call Tryz.call98 rfl (iL hs) ?_;rintro _ w ⟨rfl,hs⟩
         refine .go ?_
         refine .E 7 hs ?_
         refine .call Tryz.call64 rfl (nq (s:=s'.sp) (rows:=x.rows) (q:=⟨1,0,q⟩) hs (g'.mono hle2).st (g'.mono hle2).wa (gh.mono hle2)) ?_;rintro _ w ⟨H3,n,f,hle3,rfl,hV,hs⟩
         refine .go ?_
         refine .z 8 rfl zm ?_;refine .z 9 rfl zex ?_;refine .z 10 rfl zex ?_;refine .z 11 rfl zg ?_;refine .D hs ?_
         refine nT ?_
         obtain rfl:f=0:=by
          have hhl:=hCh.EB
          cases hV with
          |space h=>exact (h hok.early.1).elim
          |hull _ h=>exact (h hhl).elim
          |what _ _ h=>exact (h (zp (v:=s') ak hqw)).elim
          |ok=>rfl
         exact ⟨n,H3,cn,hle02.trans hle3,.up ak hV,hV.bd rfl,hs.sb⟩
        ·refine .skip ?_
         refine nT ?_
         exact ⟨0,H2,cn,hle02,.zero ak,ak,hs.sb⟩
       ·rintro fs w ⟨n,H3,hfs,hle03,hHl,hnb,hs⟩
        refine WE.sub ?_ hfs
        clear hfs
        have hdw:(lg0 r x.leg.toNat).dlo≤x.dense∧x.dense≤(lg0 r x.leg.toNat).dhi:=by simpa using hb65
        have hmw:(lB m r x.leg.toNat).lo≤x.mass∧x.mass≤(lB m r x.leg.toNat).hi:=by simpa using hc74
        refine .seq ?_
        refine .seq (.draw mix rfl hs fun w hs=>?_)
        refine .z 0 rfl (zfa jO) ?_;refine .y 1 rfl hs af ?_;refine .z 2 rfl zm ?_;refine .z 3 rfl (zfa jP) ?_;refine .y 4 rfl hs af ?_
        refine .E 5 hs ?_
        refine .call Tryz.call99 rfl (eu hs ak ak) ?_;rintro _ w ⟨rfl,hs⟩
        refine .go ?_
        refine .z 6 rfl px ?_;refine .D hs ?_
        refine (.cz rfl (fun hc100=>?_) (fun hc100=>?_))
        ·refine .ai (.z zg (.nil ?_))
         refine .ret (rT (Fin.aU lS rfl ?_))
         exact ⟨H3,_,hle03,rfl,.no hB (fun h=>by
          obtain ⟨n',g1,g2⟩:=h.sinks
          rw [hq,Int.toNat_natCast] at g1
          rw [←hHl.uniq g1] at g2;omega),hs.out⟩
        ·refine .skip ?_
         refine nT ?_
         refine .ai (.z zg (.nil ?_))
         refine .ret (Fin.aU lS rfl ?_)
         exact ⟨H3,_,hle03,rfl,.ok hB ⟨hleg,hCh,hdw,hmw,n,by rw [hq,Int.toNat_natCast];exact hHl,ak⟩,hs.out⟩
def fbc(l:List Fbd):List (List Value):=l.map Fbd.c
def snc(l:List Ssn):List (List Value):=l.map Ssn.c
def lgc(l:List Lg):List (List Value):=l.map Lg.c
theorem FZ(l:List Fbd):∀c∈fbc l,c.length=2:=fun c hc=>by simp only [fbc,List.mem_map] at hc;obtain ⟨x,_,rfl⟩:=hc;rfl
theorem Fy(l:List Ssn):∀c∈snc l,c.length=4:=fun c hc=>by simp only [snc,List.mem_map] at hc;obtain ⟨x,_,rfl⟩:=hc;rfl
theorem FV(l:List Lg):∀c∈lgc l,c.length=7:=fun c hc=>by simp only [lgc,List.mem_map] at hc;obtain ⟨x,_,rfl⟩:=hc;rfl
theorem nz(hs:St H w σ):
  Cl Tryz.prog 71 [] w fun u w'=>∃H1 a b c d vt vs vlg,HLe H H1∧u= .tuple #[.agg #[I 1,I 1,a,b,I 100,I 200,c,d],.agg #[I 1000,I 1200,vt,vs],.agg #[vlg]]∧SvM H1 exV a b c d∧LnM H1 lY vt vs∧RLg H1 vlg jk∧St H1 w' σ:=by
 refine Cl.of Tryz.func71 rfl Tryz.ntmps71 dm (tF) ?_
 refine .ai ?_
 refine .o (.alloc hs Tryz.zeroValue52 rfl fun b0 w hs=>?_)
 refine .o (.alloc hs Tryz.zeroValue25 rfl fun b1 w hs=>?_)
 refine .o (.alloc hs Tryz.zeroValue28 rfl fun b2 w hs=>?_)
 refine .nil (.ai ?_)
 refine .o (.buildSlice (cells:=Is [0,1000]) hs gx rfl aq fun b8 w hs=>?_)
 refine .o (.buildSlice (cells:=Is [0,1000]) hs gx rfl aq fun b9 w hs=>?_)
 refine .z (zbd [_,_] vk) (.z (zbd [_,_,_,_,_,_] tC) ?_)
 refine .o (.alloc hs Tryz.zeroValue48 rfl fun b3 w hs=>?_)
 refine .o (.aF (vs:=[_,_,_,_,_,_]) hs rfl rfl aR fun w hs=>?_)
 refine .nil (.ai (.y hs (zls [_,_,_,_,_,_] bE aR) (.z (zbd [_,_,_,_,_,_,_] fK) (.z (zbd [_,_,_,_,_,_,_] fK) (.z (zbd [_,_,_,_,_,_,_] fK) (.z (zbd [_,_,_,_,_,_,_] fK) ?_))))))
 refine .o (.buildSlice (cells:=(rdc DM).flatten) hs lK rfl aq fun b17 w hs=>?_)
 refine .z (zbd [_,_,_,_,_,_] qX) ?_
 refine .o (.buildSlice (cells:=(cmc exV.cs).flatten) hs lM rfl aq fun b19 w hs=>?_)
 refine .z (zbd (vs:=[(0,.agg #[I 1,I 1,.slice (some ⟨b8,0,none⟩) 2 2,.slice (some ⟨b9,0,none⟩) 2 2,I 100,I 200]),(1,.slice (some ⟨b17,0,none⟩) 4 4),(2,.slice (some ⟨b19,0,none⟩) 1 1)]) [I 1,I 1,.slice (some ⟨b8,0,none⟩) 2 2,.slice (some ⟨b9,0,none⟩) 2 2,I 100,I 200,.slice (some ⟨b17,0,none⟩) 4 4,.slice (some ⟨b19,0,none⟩) 1 1] rK rfl aq) ?_
 refine .o (.alloc hs Tryz.zeroValue52 rfl fun b4 w hs=>?_)
 refine .o (.aF (vs:=[_,_,_,_,_,_,_,_]) hs rfl rfl aC fun w hs=>?_)
 refine .nil (.ai (.z (zbd [_,_] jm) (.z (zbd [_,_] jm) ?_)))
 refine .o (.buildSlice (cells:=(fbc lY.table).flatten) hs kl rfl aq fun b23 w hs=>?_)
 refine .z (zbd [_,_,_,_] rL) ?_
 refine .o (.buildSlice (cells:=(snc lY.seasons).flatten) hs mN rfl aq fun b25 w hs=>?_)
 refine .z (zbd (vs:=[(0,I 1000),(1,I 1200),(2,.slice (some ⟨b23,0,none⟩) 2 2),(3,.slice (some ⟨b25,0,none⟩) 1 1)]) [I 1000,I 1200,.slice (some ⟨b23,0,none⟩) 2 2,.slice (some ⟨b25,0,none⟩) 1 1] tD rfl aq) ?_
 refine .o (.alloc hs Tryz.zeroValue25 rfl fun b5 w hs=>?_)
 refine .o (.aF (vs:=[_,_,_,_]) hs rfl rfl aP fun w hs=>?_)
 refine .nil (.ai (.z (zbd [_,_] bn) ?_))
 refine .o (.alloc hs bB rfl fun b6 w hs=>?_)
 refine .o (.aF (vs:=[_,_]) hs rfl rfl ay fun w hs=>?_)
 refine .nil (.ai (.z (zbd [_,_] bn) ?_))
 refine .o (.alloc hs bB rfl fun b7 w hs=>?_)
 refine .o (.aF (vs:=[_,_]) hs rfl rfl ay fun w hs=>?_)
 refine .nil ?_
 refine .cut (fun fs w=>∃b37,j5 fs ⟨39,[],[(2,.pointer (some ⟨b2,0,none⟩)),(1,.pointer (some ⟨b1,0,none⟩)),(0,.pointer (some ⟨b0,0,none⟩))]⟩∧St H w (.blk b2 [.slice (some ⟨b37,0,none⟩) 2 2]:: .blk b1 [I 1000,I 1200,.slice (some ⟨b23,0,none⟩) 2 2,.slice (some ⟨b25,0,none⟩) 1 1]:: .blk b0 [I 1,I 1,.slice (some ⟨b8,0,none⟩) 2 2,.slice (some ⟨b9,0,none⟩) 2 2,I 100,I 200,.slice (some ⟨b17,0,none⟩) 4 4,.slice (some ⟨b19,0,none⟩) 1 1]:: .blk b37 (lgc jk).flatten:: .blk b25 (snc lY.seasons).flatten:: .blk b23 (fbc lY.table).flatten:: .blk b19 (cmc exV.cs).flatten:: .blk b17 (rdc DM).flatten:: .blk b9 (Is [0,1000]):: .blk b8 (Is [0,1000])::σ)) ?_ ?_
 ·refine .draw mix rfl hs fun w hs=>?_
  refine .ys 0 rfl hs [_,_,_,_,_,_,_,_] aO aC ?_;refine .ys 1 rfl hs [_,_,_,_] br aP ?_;refine .ys 2 rfl hs [_,_] aI ay ?_;refine .ys 3 rfl hs [_,_] aI ay ?_;refine .z 4 rfl (zbd (lg0 jk 0).c qW rfl aq) ?_;refine .ys 5 rfl hs [_,_] aI ay ?_;refine .ys 6 rfl hs [_,_] aI ay ?_;refine .z 7 rfl (zbd (lg0 jk 1).c qW rfl aq) ?_
  refine .e2 (i:=8) (j:=10) aq rfl rfl rfl rfl .none .none hs ?_ ?_
  ·refine .buildSlice (cells:=(lgc jk).flatten) hs gK rfl aq ?_;intro b37 w hs
   refine .go ?_
   refine .z 9 rfl (zbd [_] jC) ?_
   refine .E 10 hs ?_
   refine .aF (vs:=[_,_,_,_,_,_,_,_]) hs rfl rfl aC ?_;intro w hs
   refine .go ?_
   refine .E 11 hs ?_
   refine .aF (vs:=[_,_,_,_]) hs rfl rfl aP ?_;intro w hs
   refine .go ?_
   refine .E 12 hs ?_
   refine .aF (vs:=[_]) hs rfl rfl cu ?_;intro w hs
   refine .go ?_
   refine .D hs ?_
   exact nT ⟨b37,cn,hs.sb⟩
  ·refine .aF (vs:=[_,_,_,_,_,_,_,_]) hs rfl rfl aC ?_;intro w hs
   refine .go ?_
   refine .e2 (i:=8) (j:=11) aq rfl rfl rfl rfl .none .none hs ?_ ?_
   ·refine .buildSlice (cells:=(lgc jk).flatten) hs gK rfl aq ?_;intro b37 w hs
    refine .go ?_
    refine .z 9 rfl (zbd [_] jC) ?_
    refine .E 11 hs ?_
    refine .aF (vs:=[_,_,_,_]) hs rfl rfl aP ?_;intro w hs
    refine .go ?_
    refine .E 12 hs ?_
    refine .aF (vs:=[_]) hs rfl rfl cu ?_;intro w hs
    refine .go ?_
    refine .D hs ?_
    exact nT ⟨b37,cn,hs.sb⟩
   ·refine .aF (vs:=[_,_,_,_]) hs rfl rfl aP ?_;intro w hs
    refine .go ?_
    refine .E 8 hs ?_
    refine .buildSlice (cells:=(lgc jk).flatten) hs gK rfl aq ?_;intro b37 w hs
    refine .go ?_
    refine .z 9 rfl (zbd [_] jC) ?_
    refine .E 12 hs ?_
    refine .aF (vs:=[_]) hs rfl rfl cu ?_;intro w hs
    refine .go ?_
    refine .D hs ?_
    exact nT ⟨b37,cn,hs.sb⟩
 ·rintro fs w ⟨b37,hfs,hs⟩
  refine WE.sub ?_ hfs
  clear hfs
  refine .ret ?_
  obtain ⟨H1,g1,r1,hs⟩:=cM.dy (xs:=[0,1000]) (v:= .slice (some ⟨b8,0,none⟩) 2 2) (.full rfl) dm hs ew
  obtain ⟨H2,g2,r2,hs⟩:=cM.dy (xs:=[0,1000]) (v:= .slice (some ⟨b9,0,none⟩) 2 2) (.full rfl) dm hs ew
  obtain ⟨H3,g3,r3,hs⟩:=cM.bY (m:=7) (cs:=rdc DM) (v:= .slice (some ⟨b17,0,none⟩) 4 4) (.full aq) (FC _) ak dX hs ew
  obtain ⟨H4,g4,r4,hs⟩:=cM.bY (m:=6) (cs:=cmc exV.cs) (v:= .slice (some ⟨b19,0,none⟩) 1 1) (.full aq) (F0 _) ak dX hs ew
  obtain ⟨H5,g5,r5,hs⟩:=cM.bY (m:=2) (cs:=fbc lY.table) (v:= .slice (some ⟨b23,0,none⟩) 2 2) (.full aq) (FZ _) ak dX hs ew
  obtain ⟨H6,g6,r6,hs⟩:=cM.bY (m:=4) (cs:=snc lY.seasons) (v:= .slice (some ⟨b25,0,none⟩) 1 1) (.full aq) (Fy _) ak dX hs ew
  obtain ⟨H7,g7,r7,hs⟩:=cM.bY (m:=7) (cs:=lgc jk) (v:= .slice (some ⟨b37,0,none⟩) 2 2) (.full aq) (FV _) ak dX hs ew
  have k6:=g6.trans g7
  have k5:=g5.trans k6
  have k4:=g4.trans k5
  have k3:=g3.trans k4
  have k2:=g2.trans k3
  exact Fin.gD [] [] hs fun w hs=>⟨_,results3 Tryz.results71 (dr (vs:=[I 1,I 1,.slice (some ⟨b8,0,none⟩) 2 2,.slice (some ⟨b9,0,none⟩) 2 2,I 100,I 200,.slice (some ⟨b17,0,none⟩) 4 4,.slice (some ⟨b19,0,none⟩) 1 1]) hs rfl aO aC) (dr (vs:=[I 1000,I 1200,.slice (some ⟨b23,0,none⟩) 2 2,.slice (some ⟨b25,0,none⟩) 1 1]) hs rfl br aP) (dr (vs:=[.slice (some ⟨b37,0,none⟩) 2 2]) hs rfl dV cu),H7,_,_,_,_,_,_,_,g1.trans k2,rfl,⟨r1.mono k2,r2.mono k3,r3.mono k4,r4.mono k5⟩,⟨r5.mono k6,r6.mono g7⟩,r7,hs.out⟩
set_option maxRecDepth 100000 in
theorem xZ:Tryz.prog.stoodInHeld 42=false:=by kernel_rfl
set_option maxRecDepth 100000 in
theorem x9:Tryz.prog.eqGuardType Tryz.prog.depth 42=false:=by kernel_rfl
set_option maxHeartbeats 4000000 in
theorem qK(hs:St H w σ):
  Cl Tryz.prog 18 [] w fun u w'=>u= .bool true∧∃H1,HLe H H1∧St H1 w' σ:=by
 refine Cl.of Tryz.func18 rfl Tryz.ntmps18 dm (tF) ?_
 refine .ai (.z zg (.nil (.ai ?_)))
 refine .o (.call Tryz.call71 rfl (nz hs) ?_);rintro _ w ⟨H1,a,b,c,d,vt,vs,vlg,hle1,rfl,g,gl,gr_,hs⟩
 obtain ⟨aa,ca,rfl⟩:=RI.shape g.st
 obtain ⟨ab,cb,rfl⟩:=RI.shape g.wa
 obtain ⟨ac,cc,rfl⟩:=RRd.shape g.rd
 obtain ⟨ad,cd,rfl⟩:=RCm.shape g.cm
 obtain ⟨at_,ct,rfl⟩:=gl.tb.shape
 obtain ⟨as_,cs,rfl⟩:=gl.sn.shape
 obtain ⟨ar,cr,rfl⟩:=gr_.shape
 refine .z zm (.z zex (.z zex (.z zex ?_)))
 refine .o (.alloc hs Tryz.zeroValue52 rfl fun b1 w hs=>?_)
 refine .o (.alloc hs Tryz.zeroValue25 rfl fun b2 w hs=>?_)
 refine .o (.alloc hs Tryz.zeroValue28 rfl fun b3 w hs=>?_)
 refine .o (.aF (vs:=[_,_,_,_,_,_,_,_]) hs rfl rfl aC fun w hs=>?_)
 refine .o (.aF (vs:=[_,_,_,_]) hs rfl rfl aP fun w hs=>?_)
 refine .o (.aF (vs:=[_]) hs rfl rfl cu fun w hs=>?_)
 refine .nil (.ai (.y hs (zls [_,_,_,_] br aP) ?_))
 refine .o (.call Tryz.call37 rfl (mD (l:=lY) hs gl.tb gl.sn) ?_);rintro _ w ⟨n,e,rfl,hF,hs⟩
 obtain ⟨rfl,rfl⟩:=Ah hF
 refine .z zm (.z zex (.z zex (.z zg (.z zg (.nil (.ai (.y hs (zls [_,_,_,_] br aP) ?_)))))))
 refine .o (.call Tryz.call41 rfl (pM (l:=lY) hs gl.tb gl.sn) ?_);rintro _ w ⟨n,e,rfl,hF,hs⟩
 obtain ⟨rfl,rfl⟩:=wI hF
 refine .z zm (.z zex (.z zex (.z zg (.z zg (.nil (.ai (.y hs (zls [_,_,_,_,_,_,_,_] aO aC) (.z (zbd [I 1000,I 1025] bn) ?_))))))))
 refine .o (.call Tryz.call58 rfl (kh (s:=exV) hs g) ?_);rintro _ w ⟨H2,lo,hi,e,hle2,rfl,hD,hs⟩
 obtain ⟨rfl,rfl,rfl,hL⟩:=Ai hD
 replace g:=g.mono hle2
 replace gl:=gl.mono hle2
 replace gr_:=gr_.mono hle2
 refine .z zm (.z zex (.z zex ?_))
 refine .o (.alloc hs bB rfl fun b8 w hs=>?_)
 refine .o (.aF (vs:=[_,_]) hs rfl rfl ay fun w hs=>?_)
 refine .z zg (.nil (.ai (.y hs (zls [_,_,_,_,_,_,_,_] aO aC) (.y hs (zls [_,_,_,_] br aP) (.y hs (zls [_] dV cu) (.z (zbd [I 150,I 160] bn) ?_))))))
 refine .o (.call Tryz.call26 rfl (kF (s:=exV) (l:=lY) (r:=jk) (m:=⟨150,160⟩) hs g gl gr_) ?_);rintro _ w ⟨H3,n,e,hle3,rfl,hJ,hs⟩
 obtain ⟨rfl,rfl⟩:=sy hL dX hJ
 rw [show wB [yL (lB ⟨150,160⟩ jk 0) 190 404,yL (lB ⟨150,160⟩ jk 1) 190 404]=1 by decide]
 replace g:=g.mono hle3
 replace gl:=gl.mono hle3
 replace gr_:=gr_.mono hle3
 refine .z zm (.z zex (.z zex (.z zg (.z zg (.nil (.ai (.y hs (zls [_,_,_,_,_,_,_,_] aO aC) (.y hs (zls [_,_,_,_] br aP) (.y hs (zls [_] dV cu) ?_)))))))))
 refine .z (zbd [I 180,I 200] bn) ?_
 refine .o (.call Tryz.call26 rfl (kF (s:=exV) (l:=lY) (r:=jk) (m:=⟨180,200⟩) hs g gl gr_) ?_);rintro _ w ⟨H4,n,e,hle4,rfl,hJ,hs⟩
 obtain ⟨rfl,rfl⟩:=sy hL dX hJ
 rw [show wB [yL (lB ⟨180,200⟩ jk 0) 190 404,yL (lB ⟨180,200⟩ jk 1) 190 404]=2 by decide]
 replace g:=g.mono hle4
 replace gl:=gl.mono hle4
 replace gr_:=gr_.mono hle4
 refine .z zm (.z zex (.z zex (.z zg (.z zg (.nil (.ai (.y hs (zls [_,_,_,_,_,_,_,_] aO aC) (.y hs (zls [_,_,_,_] br aP) (.y hs (zls [_] dV cu) ?_)))))))))
 refine .o (.call Tryz.call28 rfl (rD (s:=exV) (l:=lY) (r:=jk) hs g gl gr_) ?_);rintro _ w ⟨H5,n,e,hle5,rfl,hS,hs⟩
 obtain ⟨rfl,rfl⟩:=Ag hL hS
 replace g:=g.mono hle5
 replace gl:=gl.mono hle5
 replace gr_:=gr_.mono hle5
 have hle05:=hle1.trans (hle2.trans (hle3.trans (hle4.trans hle5)))
 refine .z zm (.z zex (.z zex (.z zg (.z zg (.nil (.ai ?_))))))
 refine .o (.buildSlice (cells:=Is [75,175]) hs gx rfl aq fun b61 w hs=>?_)
 refine .o (.buildSlice (cells:=Is [0,130]) hs gx rfl aq fun b62 w hs=>?_)
 refine .o (.buildSlice (cells:=[.slice (some ⟨b61,0,none⟩) 2 2,.slice (some ⟨b62,0,none⟩) 2 2]) hs rJ rfl aq fun b63 w hs=>?_)
 refine .z (zbd [_] vj) ?_
 obtain ⟨H6,g6,r6,hs⟩:=cM.dy (xs:=[75,175]) (v:= .slice (some ⟨b61,0,none⟩) 2 2) (.full rfl) dm hs ew
 obtain ⟨H7,g7,r7,hs⟩:=cM.dy (xs:=[0,130]) (v:= .slice (some ⟨b62,0,none⟩) 2 2) (.full rfl) dm hs ew
 have hRL:RLs H7 [.slice (some ⟨b61,0,none⟩) 2 2,.slice (some ⟨b62,0,none⟩) 2 2] DN:=((RLs.nil H7).snoc (r6.mono g7)).snoc r7
 obtain ⟨H8,g8,hRT,hs⟩:=hRL.bY (v:= .slice (some ⟨b63,0,none⟩) 2 2) (en:= .blk b63 [.slice (some ⟨b61,0,none⟩) 2 2,.slice (some ⟨b62,0,none⟩) 2 2]) (.full rfl) dm hs ew
 have hle8:=g6.trans (g7.trans g8)
 replace g:=g.mono hle8
 replace gl:=gl.mono hle8
 replace gr_:=gr_.mono hle8
 refine .z (zbd [_,_,_,_] qU) ?_
 refine .o (.alloc hs Tryz.zeroValue66 rfl fun b16 w hs=>?_)
 refine .o (.aF (vs:=[_,_,_,_]) hs rfl rfl Tryz.sizeOf66 fun w hs=>?_)
 refine .nil (.ai (.z zm (.z jH (.z zm ?_))))
 refine .gW (t':=68) rfl (fun hb68=>?_) (fun hb68=>?_)
 ·refine .gT rfl rfl ?_
  refine .z zm ?_
  refine .gT rfl rfl ?_
  refine .z jH (.z zpT (.z zm ?_))
  refine .gW (t':=72) rfl (fun hb72=>?_) (fun hb72=>?_)
  ·refine .gT rfl rfl ?_
   refine .z zm ?_
   refine .gT rfl rfl ?_
   refine .z jH (.z zpT (.z zm ?_))
   refine .gW (t':=76) rfl (fun hb76=>?_) (fun hb76=>?_)
   ·refine .gT rfl rfl ?_
    refine .z zm ?_
    refine .gT rfl rfl ?_
    refine .z jH (.z zpT (.z zm ?_))
    refine .gW (t':=80) rfl (fun hb80=>?_) (fun hb80=>?_)
    ·refine .gT rfl rfl ?_
     refine .z zm ?_
     refine .gT rfl rfl ?_
     refine .z jH (.z zpT (.z zm ?_))
     refine .gW (t':=84) rfl (fun hb84=>?_) (fun hb84=>?_)
     ·refine .gT rfl rfl ?_
      refine .y hs (zls [_,_] aI ay) ?_
      refine .gT rfl rfl ?_
      refine .z (zbd [_,_] bn) ?_
      refine .gT rfl rfl ?_
      refine .q hs (zA xZ x9 Ch (fun f hf=>by
       simp only [List.mem_cons,List.not_mem_nil,or_false] at hf
       rcases hf with rfl|rfl<;>exact ⟨by decide,aJ,af⟩) rfl rfl) ?_
      refine .z zpT (.z zm ?_)
      refine .bif (t':=89) rfl (fun hb89=>?_) (fun hb89=>?_)
      ·refine .gT rfl rfl ?_
       refine .z zm ?_
       refine .gT rfl rfl ?_
       refine .z jH (.z zpT (.z zm ?_))
       refine .gW (t':=93) rfl (fun hb93=>?_) (fun hb93=>?_)
       ·refine .gT rfl rfl ?_
        refine .z zm ?_
        refine .gT rfl rfl ?_
        refine .z jH (.z zpT (.z zm ?_))
        refine .gW (t':=97) rfl (fun hb97=>?_) (fun hb97=>?_)
        ·refine .gT rfl rfl ?_
         refine .z zm ?_
         refine .gT rfl rfl ?_
         refine .z jH (.z zpT (.z zm ?_))
         refine .gW (t':=101) rfl (fun hb101=>?_) (fun hb101=>?_)
         ·refine .gT rfl rfl ?_
          refine .z zm ?_
          refine .gT rfl rfl ?_
          refine .z jH (.z zpT (.z zm ?_))
          refine .gW (t':=105) rfl (fun hb105=>?_) (fun hb105=>?_)
          ·refine .gT rfl rfl ?_
           refine .z zm ?_
           refine .gT rfl rfl ?_
           refine .z jH (.z zpT (.z zm ?_))
           refine .gW (t':=109) rfl (fun hb109=>?_) (fun hb109=>?_)
           ·refine .gT rfl rfl ?_
            refine .z zm ?_
            refine .gT rfl rfl ?_
            refine .z jH (.z zpT (.z zm ?_))
            refine .gW (t':=113) rfl (fun hb113=>?_) (fun hb113=>?_)
            ·refine .gT rfl rfl ?_
             refine .y hs (zls [_,_,_,_,_,_,_,_] aO aC) ?_
             refine .gT rfl rfl ?_
             refine .y hs (zls [_,_,_,_] br aP) ?_
             refine .gT rfl rfl ?_
             refine .y hs (zls [_] dV cu) ?_
             refine .gT rfl rfl ?_
             refine .z (zbd [I 180,I 200] bn) ?_
             refine .gT rfl rfl ?_
             refine .y hs (zls [_,_,_,_] Tryz.isAgg66 Tryz.sizeOf66) ?_
             refine .gT rfl rfl ?_
             refine .o (.call Tryz.call32 rfl (lC (s:=exV) (l:=lY) (r:=jk) (m:=⟨180,200⟩) (x:=⟨0,1000,200,DN⟩) hs g gl gr_ hRT) ?_);rintro _ w ⟨H9,e,hle9,rfl,hW,hs⟩
             obtain rfl:=B1 hW
             have hleF:=(hle05.trans hle8).trans hle9
             refine .gT rfl rfl ?_
             refine .z jH (.z zpT (.z zg (.nil ?_)))
             refine .ret (Fin.aU db rfl ?_)
             first
             |exact ⟨rfl,H9,hleF,hs.out⟩
             |contradiction
             |(exfalso;simp_all;done)
            ·refine .gFs 7 47 true rfl rfl rfl ?_
             refine .z zpF (.z zg (.nil ?_))
             refine .ret (Fin.aU db rfl ?_)
             first
             |exact ⟨rfl,H9,hleF,hs.out⟩
             |contradiction
             |(exfalso;simp_all;done)
           ·refine .gFs 2 43 true rfl rfl rfl ?_
            refine .z zpF (.z zm ?_)
            refine .gFs 7 47 true rfl rfl rfl ?_
            refine .z zpF (.z zg (.nil ?_))
            refine .ret (Fin.aU db rfl ?_)
            first
            |exact ⟨rfl,H9,hleF,hs.out⟩
            |contradiction
            |(exfalso;simp_all;done)
          ·refine .gFs 2 39 true rfl rfl rfl ?_
           refine .z zpF (.z zm ?_)
           refine .gFs 2 43 true rfl rfl rfl ?_
           refine .z zpF (.z zm ?_)
           refine .gFs 7 47 true rfl rfl rfl ?_
           refine .z zpF (.z zg (.nil ?_))
           refine .ret (Fin.aU db rfl ?_)
           first
           |exact ⟨rfl,H9,hleF,hs.out⟩
           |contradiction
           |(exfalso;simp_all;done)
         ·refine .gFs 2 35 true rfl rfl rfl ?_
          refine .z zpF (.z zm ?_)
          refine .gFs 2 39 true rfl rfl rfl ?_
          refine .z zpF (.z zm ?_)
          refine .gFs 2 43 true rfl rfl rfl ?_
          refine .z zpF (.z zm ?_)
          refine .gFs 7 47 true rfl rfl rfl ?_
          refine .z zpF (.z zg (.nil ?_))
          refine .ret (Fin.aU db rfl ?_)
          first
          |exact ⟨rfl,H9,hleF,hs.out⟩
          |contradiction
          |(exfalso;simp_all;done)
        ·refine .gFs 2 31 true rfl rfl rfl ?_
         refine .z zpF (.z zm ?_)
         refine .gFs 2 35 true rfl rfl rfl ?_
         refine .z zpF (.z zm ?_)
         refine .gFs 2 39 true rfl rfl rfl ?_
         refine .z zpF (.z zm ?_)
         refine .gFs 2 43 true rfl rfl rfl ?_
         refine .z zpF (.z zm ?_)
         refine .gFs 7 47 true rfl rfl rfl ?_
         refine .z zpF (.z zg (.nil ?_))
         refine .ret (Fin.aU db rfl ?_)
         first
         |exact ⟨rfl,H9,hleF,hs.out⟩
         |contradiction
         |(exfalso;simp_all;done)
       ·refine .gFs 2 27 true rfl rfl rfl ?_
        refine .z zpF (.z zm ?_)
        refine .gFs 2 31 true rfl rfl rfl ?_
        refine .z zpF (.z zm ?_)
        refine .gFs 2 35 true rfl rfl rfl ?_
        refine .z zpF (.z zm ?_)
        refine .gFs 2 39 true rfl rfl rfl ?_
        refine .z zpF (.z zm ?_)
        refine .gFs 2 43 true rfl rfl rfl ?_
        refine .z zpF (.z zm ?_)
        refine .gFs 7 47 true rfl rfl rfl ?_
        refine .z zpF (.z zg (.nil ?_))
        refine .ret (Fin.aU db rfl ?_)
        first
        |exact ⟨rfl,H9,hleF,hs.out⟩
        |contradiction
        |(exfalso;simp_all;done)
      ·refine .gFs 2 23 true rfl rfl rfl ?_
       refine .z zpF (.z zm ?_)
       refine .gFs 2 27 true rfl rfl rfl ?_
       refine .z zpF (.z zm ?_)
       refine .gFs 2 31 true rfl rfl rfl ?_
       refine .z zpF (.z zm ?_)
       refine .gFs 2 35 true rfl rfl rfl ?_
       refine .z zpF (.z zm ?_)
       refine .gFs 2 39 true rfl rfl rfl ?_
       refine .z zpF (.z zm ?_)
       refine .gFs 2 43 true rfl rfl rfl ?_
       refine .z zpF (.z zm ?_)
       refine .gFs 7 47 true rfl rfl rfl ?_
       refine .z zpF (.z zg (.nil ?_))
       refine .ret (Fin.aU db rfl ?_)
       first
       |exact ⟨rfl,H9,hleF,hs.out⟩
       |contradiction
       |(exfalso;simp_all;done)
     ·refine .gFs 3 18 true rfl rfl rfl ?_
      refine .z zpF (.z zm ?_)
      refine .gFs 2 23 true rfl rfl rfl ?_
      refine .z zpF (.z zm ?_)
      refine .gFs 2 27 true rfl rfl rfl ?_
      refine .z zpF (.z zm ?_)
      refine .gFs 2 31 true rfl rfl rfl ?_
      refine .z zpF (.z zm ?_)
      refine .gFs 2 35 true rfl rfl rfl ?_
      refine .z zpF (.z zm ?_)
      refine .gFs 2 39 true rfl rfl rfl ?_
      refine .z zpF (.z zm ?_)
      refine .gFs 2 43 true rfl rfl rfl ?_
      refine .z zpF (.z zm ?_)
      refine .gFs 7 47 true rfl rfl rfl ?_
      refine .z zpF (.z zg (.nil ?_))
      refine .ret (Fin.aU db rfl ?_)
      first
      |exact ⟨rfl,H9,hleF,hs.out⟩
      |contradiction
      |(exfalso;simp_all;done)
    ·refine .gFs 2 14 true rfl rfl rfl ?_
     refine .z zpF (.z zm ?_)
     refine .gFs 3 18 true rfl rfl rfl ?_
     refine .z zpF (.z zm ?_)
     refine .gFs 2 23 true rfl rfl rfl ?_
     refine .z zpF (.z zm ?_)
     refine .gFs 2 27 true rfl rfl rfl ?_
     refine .z zpF (.z zm ?_)
     refine .gFs 2 31 true rfl rfl rfl ?_
     refine .z zpF (.z zm ?_)
     refine .gFs 2 35 true rfl rfl rfl ?_
     refine .z zpF (.z zm ?_)
     refine .gFs 2 39 true rfl rfl rfl ?_
     refine .z zpF (.z zm ?_)
     refine .gFs 2 43 true rfl rfl rfl ?_
     refine .z zpF (.z zm ?_)
     refine .gFs 7 47 true rfl rfl rfl ?_
     refine .z zpF (.z zg (.nil ?_))
     refine .ret (Fin.aU db rfl ?_)
     first
     |exact ⟨rfl,H9,hleF,hs.out⟩
     |contradiction
     |(exfalso;simp_all;done)
   ·refine .gFs 2 10 true rfl rfl rfl ?_
    refine .z zpF (.z zm ?_)
    refine .gFs 2 14 true rfl rfl rfl ?_
    refine .z zpF (.z zm ?_)
    refine .gFs 3 18 true rfl rfl rfl ?_
    refine .z zpF (.z zm ?_)
    refine .gFs 2 23 true rfl rfl rfl ?_
    refine .z zpF (.z zm ?_)
    refine .gFs 2 27 true rfl rfl rfl ?_
    refine .z zpF (.z zm ?_)
    refine .gFs 2 31 true rfl rfl rfl ?_
    refine .z zpF (.z zm ?_)
    refine .gFs 2 35 true rfl rfl rfl ?_
    refine .z zpF (.z zm ?_)
    refine .gFs 2 39 true rfl rfl rfl ?_
    refine .z zpF (.z zm ?_)
    refine .gFs 2 43 true rfl rfl rfl ?_
    refine .z zpF (.z zm ?_)
    refine .gFs 7 47 true rfl rfl rfl ?_
    refine .z zpF (.z zg (.nil ?_))
    refine .ret (Fin.aU db rfl ?_)
    first
    |exact ⟨rfl,H9,hleF,hs.out⟩
    |contradiction
    |(exfalso;simp_all;done)
  ·refine .gFs 2 6 true rfl rfl rfl ?_
   refine .z zpF (.z zm ?_)
   refine .gFs 2 10 true rfl rfl rfl ?_
   refine .z zpF (.z zm ?_)
   refine .gFs 2 14 true rfl rfl rfl ?_
   refine .z zpF (.z zm ?_)
   refine .gFs 3 18 true rfl rfl rfl ?_
   refine .z zpF (.z zm ?_)
   refine .gFs 2 23 true rfl rfl rfl ?_
   refine .z zpF (.z zm ?_)
   refine .gFs 2 27 true rfl rfl rfl ?_
   refine .z zpF (.z zm ?_)
   refine .gFs 2 31 true rfl rfl rfl ?_
   refine .z zpF (.z zm ?_)
   refine .gFs 2 35 true rfl rfl rfl ?_
   refine .z zpF (.z zm ?_)
   refine .gFs 2 39 true rfl rfl rfl ?_
   refine .z zpF (.z zm ?_)
   refine .gFs 2 43 true rfl rfl rfl ?_
   refine .z zpF (.z zm ?_)
   refine .gFs 7 47 true rfl rfl rfl ?_
   refine .z zpF (.z zg (.nil ?_))
   refine .ret (Fin.aU db rfl ?_)
   first
   |exact ⟨rfl,H9,hleF,hs.out⟩
   |contradiction
   |(exfalso;simp_all;done)
 ·refine .gFs 2 2 true rfl rfl rfl ?_
  refine .z zpF (.z zm ?_)
  refine .gFs 2 6 true rfl rfl rfl ?_
  refine .z zpF (.z zm ?_)
  refine .gFs 2 10 true rfl rfl rfl ?_
  refine .z zpF (.z zm ?_)
  refine .gFs 2 14 true rfl rfl rfl ?_
  refine .z zpF (.z zm ?_)
  refine .gFs 3 18 true rfl rfl rfl ?_
  refine .z zpF (.z zm ?_)
  refine .gFs 2 23 true rfl rfl rfl ?_
  refine .z zpF (.z zm ?_)
  refine .gFs 2 27 true rfl rfl rfl ?_
  refine .z zpF (.z zm ?_)
  refine .gFs 2 31 true rfl rfl rfl ?_
  refine .z zpF (.z zm ?_)
  refine .gFs 2 35 true rfl rfl rfl ?_
  refine .z zpF (.z zm ?_)
  refine .gFs 2 39 true rfl rfl rfl ?_
  refine .z zpF (.z zm ?_)
  refine .gFs 2 43 true rfl rfl rfl ?_
  refine .z zpF (.z zm ?_)
  refine .gFs 7 47 true rfl rfl rfl ?_
  refine .z zpF (.z zg (.nil ?_))
  refine .ret (Fin.aU db rfl ?_)
  first
  |exact ⟨rfl,H9,hleF,hs.out⟩
  |contradiction
  |(exfalso;simp_all;done)
end Go.Proofs.YteajddicacjkhaaGreat
