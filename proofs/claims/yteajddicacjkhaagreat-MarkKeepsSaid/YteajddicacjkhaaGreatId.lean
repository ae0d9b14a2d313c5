/-
  Texts of these claims, joined: Zg Zh Zi Zj Zk Zl Zm Zn Zo Zp Zv Zx Zy Zz Na Ni Nj No Nq Ns Nt Nv Oc Od Oe.
-/
import Derived.Test.YteajddicacjkhaaGreatIc
namespace Go.Proofs.YteajddicacjkhaaGreat
open Go.MW
variable{H:bw}{w:World}{σ:List Ent}
theorem fU{x0 x1 x2 x3 x4 x5 x6 x7 x8 vl:Value}{en:Ent}{bm:Nat}{ls:List Lim}{a b hi lo by_:Int}(hs:St H w (.blk bm [x0,x1,x2,x3,x4,x5,x6,x7,x8,vl]::en::σ))(hO:bS 4 vl (fT ls) en)(hl:ls.length≤100000):
  Cl Tryz.prog 242 [Pt bm,I a,I b,I hi,I lo,I by_] w fun _ w'=>∃vl' en',bS 4 vl' (fT (ls++two a b hi lo by_)) en'∧St H w' (.blk bm [x0,x1,x2,x3,x4,x5,x6,x7,x8,vl']::en'::σ):=by
 obtain ⟨al,ll,cl,rfl,h⟩:=hO.shape
 refine Cl.of Tryz.func242 rfl Tryz.ntmps242 bV (du (k:=0) rfl (du (k:=1) rfl (du (k:=2) rfl (du (k:=3) rfl (du (k:=4) rfl (du (k:=5) rfl (xb))))))) (.region (.z zm (.z zm (.z znc (.z (zfa iM) (.y hs (zld cz) (.z zm (.z zm (.z zm (.z zm (.z (zbd [_,_,_,_] dV) (.z zm (.z zm (.z zm (.z zm (.z (zbd [_,_,_,_] dV) (.o (.buildSlice (cells:=fT (two a b hi lo by_)) hs eY rfl aE fun b27 w hs=>?_))))))))))))))))))
 refine .o (.append (ys:=fT (two a b hi lo by_)) hs bQ rfl rfl hO (.own .here rfl rfl) (kD _) (fun l h=>by rw [eu] at h;omega) ?_);intro v28 en28 w hO2 hs
 rw [←gO] at hO2
 obtain ⟨a28,l28,c28,rfl,h28⟩:=hO2.shape
 refine .z znc (.z (zfa iM) (.o (.store hs rfl rfl oE fun w hs=>?_)))
 refine .nil ?_
 exact Fin.yq Tryz.results242 ⟨_,_,hO2,hs.sb⟩
theorem kv{s:Spc}{vst vwa x6 x7 x8 vl:Value}{bm:Nat}{j:Int}(hs:St H w σ)(hm:Mem σ (.blk bm [I s.id,I s.src,vst,vwa,I s.al,I s.up,x6,x7,x8,vl]))(h1:RI H vst s.st)(h2:RI H vwa s.wa)(hb:s.st.length≤1000∧s.wa.length≤1000)(hj: -1≤j∧j≤1000):
  Cl Tryz.prog 244 [Pt bm,I j] w fun u w'=>u=I ((s.many:Int)+1+j)∧St H w' σ:=by
 have hmm:s.many≤1000000:=Nat.mul_le_mul hb.1 hb.2
 refine Cl.o Tryz.func244 Tryz.ntmps244 ag2 ?_
 refine .ai (.zn zg (.ai (.z zm (.z znc (.z (zfa cV) (.z (zfa bj) (.q hs (kn (vs:=[I s.id,I s.src,vst,vwa,I s.al,I s.up]) rfl aM aD hm) (.o (.call Tryz.call196 rfl (lN (s:=s) hs h1 h2 hb) ?_)))))))));rintro _ w ⟨rfl,hs⟩
 refine .z cq (.z zm (.z cq (.zn zg (.ret (Fin.bu Tryz.results244 rfl ?_)))))
 exact ⟨rfl,hs⟩
theorem dX{s:Spc}(h:eZ s):s.st.length≤1000∧s.wa.length≤1000∧0<s.wa.length∧s.many≤63:=by
 have h1:=h.st.many;have h2:=h.wa.many;have h3:=h.wa.two
 have:s.many≤9*7:=Nat.mul_le_mul h1 h2
 omega
theorem pB{s:Srv}{ts:List TD}{vst vwa vr vc vt vl:Value}{en:Ent}{bm:Nat}{ls:List Lim}(hs:St H w (.blk bm [I s.sp.id,I s.sp.src,vst,vwa,I s.sp.al,I s.sp.up,vr,vc,vt,vl]::en::σ))(hk:MkK H s ts vst vwa vr vc vt)(hO:bS 4 vl (fT ls) en)(hl:ls.length≤10000)(hok:eZ s.sp):
  Cl Tryz.prog 190 [Pt bm] w fun _ w'=>∃H1 vl' en',HLe H H1∧bS 4 vl' (fT (ls++dS (qL s.sp) s.sp.wa.length s.sp.st.length)) en'∧St H1 w' (.blk bm [I s.sp.id,I s.sp.src,vst,vwa,I s.sp.al,I s.sp.up,vr,vc,vt,vl']::en'::σ):=by
 have hsm:=dX hok
 refine Cl.o Tryz.func190 Tryz.ntmps190 ag1 ?_
 refine .ai (.bx hs fun b1 w hs=>?_)
 refine .nil (.ai (.y hs (zld qN) (.z znc (.z (zfa cV) (.z (zfa bj) (.y hs (zls [_,_,_,_,_,_] aM aD) (.o (.call uI rfl (ef (s:=s.sp) hs hk.st hk.wa ⟨ak,ak⟩) ?_))))))));rintro _ w ⟨H1,ba,hle1,rfl,hit,hs⟩
 refine .nil (.block ?_)
 refine .rangeFunc (gf:=188) (cap:=[Pt ba]) (xs:=uM s.sp) (σb:=[.blk bm [I s.sp.id,I s.sp.src,vst,vwa,I s.sp.al,I s.sp.up,vr,vc,vt,vl],en,.blk b1 [Pt bm]]) (σf:=σ) (hs.sb) trivial rfl hit uG (fun x hx=>by
   simp only [uM,List.mem_map] at hx
   obtain ⟨j,_,rfl⟩:=hx;rfl) rfl
  (I:=fun p H' σb=>∃vl en,σb=[.blk bm [I s.sp.id,I s.sp.src,vst,vwa,I s.sp.al,I s.sp.up,vr,vc,vt,vl],en,.blk b1 [Pt bm]]∧bS 4 vl (fT (ls++qg (qL s.sp) s.sp.wa.length p)) en) (Ix:=fun _ _ _=>False)
  (fun j _ _ σ g1 g2=>g2) (fun _ _ _ _ _ h=>h) ⟨vl,en,rfl,by rw [nX,List.append_nil];exact hO⟩ ?_ ?_ (fun D c H' σb w _ h _=>h.elim)
 ·rintro ly p hp H2 σb2 σf2 w hle2 ⟨vl,en,rfl,hO⟩ hs ⟨rr,hrr⟩
  have hpm:p<s.sp.many:=by rw [di] at hp;exact hp
  have hsucc:=nY (qL s.sp) (p:=p) hsm.2.2.1
  have hpl:=jq (od s.sp) hsm.2.2.1 p
  have hin:p/s.sp.wa.length<s.sp.st.length:=Nat.div_lt_of_lt_mul (by rw [Nat.mul_comm];exact hpm)
  have hkm:=Nat.mod_lt p hsm.2.2.1
  have hdm:=Nat.div_add_mod p s.sp.wa.length
  rw [Nat.mul_comm] at hdm
  have hu:(s.sp.u (p/s.sp.wa.length) (p%s.sp.wa.length):Int)=(p:Int)+1:=by unfold Spc.u;omega
  rw [k8 hp]
  obtain ⟨al,ll,cl,rfl,hll⟩:=hO.shape
  generalize p/s.sp.wa.length=i at*
  generalize p%s.sp.wa.length=k at*
  have hk2:=hk.mono (hle1.trans hle2)
  refine .region (.o (.alloc hs iC rfl fun b2 w hs=>?_))
  refine .o (.aH (vs:=[_,_,_]) hs rfl rfl kJ fun w hs=>?_)
  refine .nil (nT (⟨H2,[.blk b2 [I (i:Int),I (k:Int),I ((p+1:Nat):Int)],.blk bm [I s.sp.id,I s.sp.src,vst,vwa,I s.sp.al,I s.sp.up,vr,vc,vt,.slice al ll cl],en,.blk b1 [Pt bm]],HLe.refl _,hs,?_⟩));rintro w σf4 - hs
  refine .block (.draw mix rfl hs fun w hs=>?_)
  refine .y 0 rfl hs qN ?_;refine .z 1 rfl (zfa dx) ?_;refine .y 2 rfl hs af ?_;refine .y 3 rfl hs qN ?_;refine .z 4 rfl znc ?_;refine .z 5 rfl (zfa cV) ?_;refine .z 6 rfl (zfa bj) ?_;refine .z 7 rfl (zfa dH) ?_;refine .y 8 rfl hs af ?_
  refine .E 9 hs ?_
  refine .call Bh rfl (fU (ls:=ls++qg (qL s.sp) s.sp.wa.length p) (hs.sb:St H2 w (.blk bm _::en:: .blk b1 _::σf4)) hO (by rw [List.length_append];omega)) ?_;rintro _ w ⟨vl3,en3,hO3,hs⟩
  rw [show two 0 ((p+1:Nat):Int) 20000 0 s.sp.src=qL s.sp i k by unfold qL;rw [hu];rfl,List.append_assoc,←hsucc] at hO3
  refine .go (.D hs (nB ?_))
  exact ⟨H2,_,HLe.refl _,hs,_,_,rfl,hO3⟩
 ·rintro D H2 σb2 w hle2 ⟨vl,en,rfl,hO⟩ hs
  rw [di,show s.sp.many=s.sp.st.length*s.sp.wa.length from rfl,qf _ hsm.2.2.1] at hO
  refine nB ?_
  exact Fin.HS [D] [] hs fun w hs=>⟨_,results0 Tryz.results190,H2,vl,en,hle1.trans hle2,hO,(hs.sb:St H2 w (.blk bm _::en::σ))⟩
theorem sF{s:Srv}{ts:List TD}{vst vwa vr vc vt vl:Value}{en:Ent}{bm:Nat}{ls:List Lim}(hs:St H w (.blk bm [I s.sp.id,I s.sp.src,vst,vwa,I s.sp.al,I s.sp.up,vr,vc,vt,vl]::en::σ))(hk:MkK H s ts vst vwa vr vc vt)(hO:bS 4 vl (fT ls) en)(hl:ls.length≤10000)(hok:eZ s.sp):
  Cl Tryz.prog 191 [Pt bm] w fun _ w'=>∃H1 vl' en',HLe H H1∧bS 4 vl' (fT (ls++dS (alL s.sp) s.sp.wa.length s.sp.st.length)) en'∧St H1 w' (.blk bm [I s.sp.id,I s.sp.src,vst,vwa,I s.sp.al,I s.sp.up,vr,vc,vt,vl']::en'::σ):=by
 have hsm:=dX hok
 obtain ⟨ast,cst,rfl⟩:=RI.shape hk.st
 obtain ⟨awa,cwa,rfl⟩:=RI.shape hk.wa
 refine Cl.o Tryz.func191 Tryz.ntmps191 ag1 ?_
 refine .ai (.bx hs fun b1 w hs=>?_)
 refine .nil (.ai (.y hs (zld qN) (.z znc (.z (zfa cV) (.z (zfa bj) (.y hs (zls [_,_,_,_,_,_] aM aD) (.o (.alloc hs iV rfl fun b2 w hs=>?_))))))))
 refine .o (.aH (vs:=[_,_,_,_,_,_]) hs rfl rfl aD fun w hs=>?_)
 refine .nil (.ai (.y hs (zls [_,_,_,_,_,_] aM aD) (.o (.call uI rfl (ef (s:=s.sp) hs hk.st hk.wa ⟨ak,ak⟩) ?_))));rintro _ w ⟨H1,ba,hle1,rfl,hit,hs⟩
 refine .nil (.block ?_)
 refine .rangeFunc (gf:=188) (cap:=[Pt ba]) (xs:=uM s.sp) (σb:=[.blk bm [I s.sp.id,I s.sp.src,.slice ast s.sp.st.length cst,.slice awa s.sp.wa.length cwa,I s.sp.al,I s.sp.up,vr,vc,vt,vl],en,.blk b1 [Pt bm],.blk b2 [I s.sp.id,I s.sp.src,.slice ast s.sp.st.length cst,.slice awa s.sp.wa.length cwa,I s.sp.al,I s.sp.up]]) (σf:=σ) (hs.sb) trivial rfl hit uG (fun x hx=>by
   simp only [uM,List.mem_map] at hx
   obtain ⟨j,_,rfl⟩:=hx;rfl) rfl
  (I:=fun p H' σb=>∃vl en,σb=[.blk bm [I s.sp.id,I s.sp.src,.slice ast s.sp.st.length cst,.slice awa s.sp.wa.length cwa,I s.sp.al,I s.sp.up,vr,vc,vt,vl],en,.blk b1 [Pt bm],.blk b2 [I s.sp.id,I s.sp.src,.slice ast s.sp.st.length cst,.slice awa s.sp.wa.length cwa,I s.sp.al,I s.sp.up]]∧bS 4 vl (fT (ls++qg (alL s.sp) s.sp.wa.length p)) en) (Ix:=fun _ _ _=>False)
  (fun j _ _ σ g1 g2=>g2) (fun _ _ _ _ _ h=>h) ⟨vl,en,rfl,by rw [nX,List.append_nil];exact hO⟩ ?_ ?_ (fun D c H' σb w _ h _=>h.elim)
 ·rintro ly p hp H2 σb2 σf2 w hle2 ⟨vl,en,rfl,hO⟩ hs ⟨rr,hrr⟩
  have hpm:p<s.sp.many:=by rw [di] at hp;exact hp
  have hsucc:=nY (alL s.sp) (p:=p) hsm.2.2.1
  have hpl:=jq (rI s.sp) hsm.2.2.1 p
  have hin:p/s.sp.wa.length<s.sp.st.length:=Nat.div_lt_of_lt_mul (by rw [Nat.mul_comm];exact hpm)
  have hkm:=Nat.mod_lt p hsm.2.2.1
  have hdm:=Nat.div_add_mod p s.sp.wa.length
  rw [Nat.mul_comm] at hdm
  have hu:(s.sp.u (p/s.sp.wa.length) (p%s.sp.wa.length):Int)=(p:Int)+1:=by unfold Spc.u;omega
  rw [k8 hp]
  obtain ⟨al,ll,cl,rfl,hll⟩:=hO.shape
  generalize p/s.sp.wa.length=i at*
  generalize p%s.sp.wa.length=k at*
  have hk2:=hk.mono (hle1.trans hle2)
  refine .region (.o (.alloc hs iC rfl fun b3 w hs=>?_))
  refine .o (.aH (vs:=[_,_,_]) hs rfl rfl kJ fun w hs=>?_)
  refine .nil (nT (⟨H2,[.blk b3 [I (i:Int),I (k:Int),I ((p+1:Nat):Int)],.blk bm [I s.sp.id,I s.sp.src,.slice ast s.sp.st.length cst,.slice awa s.sp.wa.length cwa,I s.sp.al,I s.sp.up,vr,vc,vt,.slice al ll cl],en,.blk b1 [Pt bm],.blk b2 [I s.sp.id,I s.sp.src,.slice ast s.sp.st.length cst,.slice awa s.sp.wa.length cwa,I s.sp.al,I s.sp.up]],HLe.refl _,hs,?_⟩));rintro w σf4 - hs
  refine .block (.ai (.z (zfa cf) (.y hs (zld af) (.z cq (.z (zfa bC) (.y hs (zld an) (.z (cU ae) (.zn iJ (.bO rfl (fun hc19=>?_) (fun hc19=>?_))))))))))
  ·refine .seq (.draw mix rfl hs fun w hs=>?_)
   refine .zw 0 rfl (zfa ff) ?_;refine .z 1 rfl (zfa mg) ?_;refine .y 2 rfl hs af ?_;refine .z 3 rfl (zfa bC) ?_;refine .y 4 rfl hs an ?_;refine .z 5 rfl (zfa cf) ?_;refine .y 6 rfl hs af ?_;refine .z 7 rfl cq ?_
   have hris:=hok.st.rise i ak
   have hq0:=hok.st.bd (i:=i) ak
   have hq1:=hok.st.bd (i:=i+1) ak
   have hal:=hok.al
   refine .ixX (enc:=fun x=>[I x]) (i:=8) hs rfl aE .none hk2.st rfl rfl ae aj (bB (l:=s.sp.st) (i:=(i+1)) ak) df ?_;intro b28 o28 hc28;replace hc28:=bK.one hc28
   refine .r (i:=9) hs rfl aE .none (aQ rfl af hc28) ?_
   refine .zw 10 rfl (zfa bC) ?_;refine .y 11 rfl hs an ?_;refine .z 12 rfl (zfa cf) ?_;refine .y 13 rfl hs af ?_
   refine .ixX (enc:=fun x=>[I x]) (i:=14) hs rfl aE .none hk2.st rfl rfl ae aj (bB (l:=s.sp.st) (i:=i) ak) df ?_;intro b34 o34 hc34;replace hc34:=bK.one hc34
   refine .r (i:=15) hs rfl aE .none (aQ rfl af hc34) ?_
   refine .zw 16 rfl ib (.E 17 hs ?_)
   refine .call Tryz.call243 rfl (lO hs ak ak) ?_;rintro _ w ⟨rfl,hs⟩
   refine .go (.zw 18 rfl zg ?_);refine .D hs ?_
   refine .region (.y hs (zld qN) (.z (zfa dx) (.y hs (zld af) (.z (zfa dx) (.y hs (zld af) (.z (zfa bg) (.y hs (zld an) (.z (cU ae) (.z cq (.z zm (.z zm (.z (zfa dH) (.y hs (zld af) (.o (.call Bh rfl (fU (ls:=ls++qg (alL s.sp) s.sp.wa.length p) (hs.sb:St H2 w (.blk bm _::en:: .blk b1 _:: .blk b2 _::σf4)) hO (by rw [List.length_append];omega)) ?_)))))))))))))));rintro _ w ⟨vl3,en3,hO3,hs⟩
   have hu2:(s.sp.u (i+1) k:Int)=((p+1:Nat):Int)+(s.sp.wa.length:Int):=by unfold Spc.u at hu ⊢;rw [Nat.add_mul];omega
   rw [show two ((p+1:Nat):Int) (((p+1:Nat):Int)+(s.sp.wa.length:Int)) (jK s.sp.al (gi s.sp.st (i+1) - gi s.sp.st i)) (jK s.sp.al (gi s.sp.st (i+1) - gi s.sp.st i)) s.sp.src=alL s.sp i k by unfold alL;rw [if_pos ak,hu,hu2];rfl,List.append_assoc,←hsucc] at hO3
   refine .nil (nB ?_)
   exact ⟨H2,_,HLe.refl _,hs,_,_,rfl,hO3⟩
  ·refine .skip (nB ?_)
   rw [show alL s.sp i k=[] by unfold alL;rw [if_neg ak],List.append_nil] at hsucc
   exact ⟨H2,_,HLe.refl _,(hs.sb:St H2 w (.blk bm _::en:: .blk b1 _:: .blk b2 _::σf4)),_,_,rfl,by rw [hsucc];exact hO⟩
 ·rintro D H2 σb2 w hle2 ⟨vl,en,rfl,hO⟩ hs
  rw [di,show s.sp.many=s.sp.st.length*s.sp.wa.length from rfl,qf _ hsm.2.2.1] at hO
  refine nB ?_
  exact Fin.HS [D] [] hs fun w hs=>⟨_,results0 Tryz.results191,H2,vl,en,hle1.trans hle2,hO,(hs.sb:St H2 w (.blk bm _::en::σ))⟩
theorem wK{s:Srv}{ts:List TD}{vst vwa vr vc vt vl:Value}{en:Ent}{bm:Nat}{ls:List Lim}(hs:St H w (.blk bm [I s.sp.id,I s.sp.src,vst,vwa,I s.sp.al,I s.sp.up,vr,vc,vt,vl]::en::σ))(hk:MkK H s ts vst vwa vr vc vt)(hO:bS 4 vl (fT ls) en)(hl:ls.length≤10000)(hok:eZ s.sp):
  Cl Tryz.prog 192 [Pt bm] w fun _ w'=>∃H1 vl' en',HLe H H1∧bS 4 vl' (fT (ls++dS (upL s.sp) s.sp.wa.length s.sp.st.length)) en'∧St H1 w' (.blk bm [I s.sp.id,I s.sp.src,vst,vwa,I s.sp.al,I s.sp.up,vr,vc,vt,vl']::en'::σ):=by
 have hsm:=dX hok
 obtain ⟨ast,cst,rfl⟩:=RI.shape hk.st
 obtain ⟨awa,cwa,rfl⟩:=RI.shape hk.wa
 refine Cl.o Tryz.func192 Tryz.ntmps192 ag1 ?_
 refine .ai (.bx hs fun b1 w hs=>?_)
 refine .nil (.ai (.y hs (zld qN) (.z znc (.z (zfa cV) (.z (zfa bj) (.y hs (zls [_,_,_,_,_,_] aM aD) (.o (.alloc hs iV rfl fun b2 w hs=>?_))))))))
 refine .o (.aH (vs:=[_,_,_,_,_,_]) hs rfl rfl aD fun w hs=>?_)
 refine .nil (.ai (.y hs (zls [_,_,_,_,_,_] aM aD) (.o (.call uI rfl (ef (s:=s.sp) hs hk.st hk.wa ⟨ak,ak⟩) ?_))));rintro _ w ⟨H1,ba,hle1,rfl,hit,hs⟩
 refine .nil (.block ?_)
 refine .rangeFunc (gf:=188) (cap:=[Pt ba]) (xs:=uM s.sp) (σb:=[.blk bm [I s.sp.id,I s.sp.src,.slice ast s.sp.st.length cst,.slice awa s.sp.wa.length cwa,I s.sp.al,I s.sp.up,vr,vc,vt,vl],en,.blk b1 [Pt bm],.blk b2 [I s.sp.id,I s.sp.src,.slice ast s.sp.st.length cst,.slice awa s.sp.wa.length cwa,I s.sp.al,I s.sp.up]]) (σf:=σ) (hs.sb) trivial rfl hit uG (fun x hx=>by
   simp only [uM,List.mem_map] at hx
   obtain ⟨j,_,rfl⟩:=hx;rfl) rfl
  (I:=fun p H' σb=>∃vl en,σb=[.blk bm [I s.sp.id,I s.sp.src,.slice ast s.sp.st.length cst,.slice awa s.sp.wa.length cwa,I s.sp.al,I s.sp.up,vr,vc,vt,vl],en,.blk b1 [Pt bm],.blk b2 [I s.sp.id,I s.sp.src,.slice ast s.sp.st.length cst,.slice awa s.sp.wa.length cwa,I s.sp.al,I s.sp.up]]∧bS 4 vl (fT (ls++qg (upL s.sp) s.sp.wa.length p)) en) (Ix:=fun _ _ _=>False)
  (fun j _ _ σ g1 g2=>g2) (fun _ _ _ _ _ h=>h) ⟨vl,en,rfl,by rw [nX,List.append_nil];exact hO⟩ ?_ ?_ (fun D c H' σb w _ h _=>h.elim)
 ·rintro ly p hp H2 σb2 σf2 w hle2 ⟨vl,en,rfl,hO⟩ hs ⟨rr,hrr⟩
  have hpm:p<s.sp.many:=by rw [di] at hp;exact hp
  have hsucc:=nY (upL s.sp) (p:=p) hsm.2.2.1
  have hpl:=jq (qW s.sp) hsm.2.2.1 p
  have hin:p/s.sp.wa.length<s.sp.st.length:=Nat.div_lt_of_lt_mul (by rw [Nat.mul_comm];exact hpm)
  have hkm:=Nat.mod_lt p hsm.2.2.1
  have hdm:=Nat.div_add_mod p s.sp.wa.length
  rw [Nat.mul_comm] at hdm
  have hu:(s.sp.u (p/s.sp.wa.length) (p%s.sp.wa.length):Int)=(p:Int)+1:=by unfold Spc.u;omega
  rw [k8 hp]
  obtain ⟨al,ll,cl,rfl,hll⟩:=hO.shape
  generalize p/s.sp.wa.length=i at*
  generalize p%s.sp.wa.length=k at*
  have hk2:=hk.mono (hle1.trans hle2)
  refine .region (.o (.alloc hs iC rfl fun b3 w hs=>?_))
  refine .o (.aH (vs:=[_,_,_]) hs rfl rfl kJ fun w hs=>?_)
  refine .nil (nT (⟨H2,[.blk b3 [I (i:Int),I (k:Int),I ((p+1:Nat):Int)],.blk bm [I s.sp.id,I s.sp.src,.slice ast s.sp.st.length cst,.slice awa s.sp.wa.length cwa,I s.sp.al,I s.sp.up,vr,vc,vt,.slice al ll cl],en,.blk b1 [Pt bm],.blk b2 [I s.sp.id,I s.sp.src,.slice ast s.sp.st.length cst,.slice awa s.sp.wa.length cwa,I s.sp.al,I s.sp.up]],HLe.refl _,hs,?_⟩));rintro w σf4 - hs
  refine .block (.ai (.z (zfa bZ) (.y hs (zld af) (.z cq (.z (zfa bg) (.y hs (zld an) (.z (cU ae) (.zn iJ (.bO rfl (fun hc19=>?_) (fun hc19=>?_))))))))))
  ·refine .seq (.draw mix rfl hs fun w hs=>?_)
   refine .zw 0 rfl (zfa ff) ?_;refine .z 1 rfl (zfa mf) ?_;refine .y 2 rfl hs af ?_;refine .z 3 rfl (zfa bg) ?_;refine .y 4 rfl hs an ?_;refine .z 5 rfl (zfa bZ) ?_;refine .y 6 rfl hs af ?_;refine .z 7 rfl cq ?_
   have hris:=hok.wa.rise k ak
   have hq0:=hok.wa.bd (i:=k) ak
   have hq1:=hok.wa.bd (i:=k+1) ak
   have hal:=hok.up
   refine .ixX (enc:=fun x=>[I x]) (i:=8) hs rfl aE .none hk2.wa rfl rfl ae aj (bB (l:=s.sp.wa) (i:=(k+1)) ak) df ?_;intro b28 o28 hc28;replace hc28:=bK.one hc28
   refine .r (i:=9) hs rfl aE .none (aQ rfl af hc28) ?_
   refine .zw 10 rfl (zfa bg) ?_;refine .y 11 rfl hs an ?_;refine .z 12 rfl (zfa bZ) ?_;refine .y 13 rfl hs af ?_
   refine .ixX (enc:=fun x=>[I x]) (i:=14) hs rfl aE .none hk2.wa rfl rfl ae aj (bB (l:=s.sp.wa) (i:=k) ak) df ?_;intro b34 o34 hc34;replace hc34:=bK.one hc34
   refine .r (i:=15) hs rfl aE .none (aQ rfl af hc34) ?_
   refine .zw 16 rfl ib (.E 17 hs ?_)
   refine .call Tryz.call243 rfl (lO hs ak ak) ?_;rintro _ w ⟨rfl,hs⟩
   refine .go (.zw 18 rfl zg ?_);refine .D hs ?_
   refine .region (.y hs (zld qN) (.z (zfa dx) (.y hs (zld af) (.z (zfa dx) (.y hs (zld af) (.z cq (.z zm (.z zm (.z (zfa dH) (.y hs (zld af) (.o (.call Bh rfl (fU (ls:=ls++qg (upL s.sp) s.sp.wa.length p) (hs.sb:St H2 w (.blk bm _::en:: .blk b1 _:: .blk b2 _::σf4)) hO (by rw [List.length_append];omega)) ?_))))))))))));rintro _ w ⟨vl3,en3,hO3,hs⟩
   have hu2:(s.sp.u i (k+1):Int)=((p+1:Nat):Int)+1:=by unfold Spc.u at hu ⊢;omega
   rw [show two ((p+1:Nat):Int) (((p+1:Nat):Int)+1) (jK s.sp.up (gi s.sp.wa (k+1) - gi s.sp.wa k)) (jK s.sp.up (gi s.sp.wa (k+1) - gi s.sp.wa k)) s.sp.src=upL s.sp i k by unfold upL;rw [if_pos ak,hu,hu2];rfl,List.append_assoc,←hsucc] at hO3
   refine .nil (nB ?_)
   exact ⟨H2,_,HLe.refl _,hs,_,_,rfl,hO3⟩
  ·refine .skip (nB ?_)
   rw [show upL s.sp i k=[] by unfold upL;rw [if_neg ak],List.append_nil] at hsucc
   exact ⟨H2,_,HLe.refl _,(hs.sb:St H2 w (.blk bm _::en:: .blk b1 _:: .blk b2 _::σf4)),_,_,rfl,by rw [hsucc];exact hO⟩
 ·rintro D H2 σb2 w hle2 ⟨vl,en,rfl,hO⟩ hs
  rw [di,show s.sp.many=s.sp.st.length*s.sp.wa.length from rfl,qf _ hsm.2.2.1] at hO
  refine nB ?_
  exact Fin.HS [D] [] hs fun w hs=>⟨_,results0 Tryz.results192,H2,vl,en,hle1.trans hle2,hO,(hs.sb:St H2 w (.blk bm _::en::σ))⟩
theorem rn{s:Srv}{ts:List TD}{vst vwa vr vc vt vl:Value}{en:Ent}{bm:Nat}{ls:List Lim}(hs:St H w (.blk bm [I s.sp.id,I s.sp.src,vst,vwa,I s.sp.al,I s.sp.up,vr,vc,vt,vl]::en::σ))(hk:MkK H s ts vst vwa vr vc vt)(hO:bS 4 vl (fT ls) en)(hl:ls.length≤10000)(hok:eZ s.sp)(htl:ts.length≤100):
  Cl Tryz.prog 193 [Pt bm] w fun _ w'=>∃H1 vl' en',HLe H H1∧bS 4 vl' (fT (ls++wX s.sp ts.length)) en'∧St H1 w' (.blk bm [I s.sp.id,I s.sp.src,vst,vwa,I s.sp.al,I s.sp.up,vr,vc,vt,vl']::en'::σ):=by
 have hsm:=dX hok
 obtain ⟨at_,ct,rfl⟩:=RTd.shape hk.ts
 refine Cl.o Tryz.func193 Tryz.ntmps193 ag1 ?_
 refine .ai (.z zm (.z znc (.z (zfa eW) (.y hs (zld GW) (.z (cU a6) (.zn zm (.for (N:=ts.length) (J:=fun j fr w=>fr=[(0,Pt bm)]∧∃vl en,bS 4 vl (fT (ls++wX s.sp j)) en∧St H w (.blk bm [I s.sp.id,I s.sp.src,vst,vwa,I s.sp.al,I s.sp.up,vr,vc,.slice at_ ts.length ct,vl]::en::σ)) ak ?_ ?_ ?_)))))))
 ·exact .mk ⟨rfl,vl,en,by show bS 4 vl (fT (ls++[])) en;rw [List.append_nil];exact hO,hs⟩
 ·rintro j fr w hj ⟨rfl,vl,en,hO,hs⟩
  have hel:=jd s.sp j
  obtain ⟨al,ll,cl,rfl,hll⟩:=hO.shape
  refine .block (.ai (.z zm (.zn zg (.draw mix rfl hs fun w hs=>?_))))
  refine .zw 0 rfl zm ?_;refine .z 1 rfl zm ?_;refine .z 2 rfl zm ?_;refine .z 4 rfl zm ?_;refine .z 5 rfl znc ?_;refine .z 6 rfl (zfa cV) ?_;refine .z 7 rfl (zfa bj) ?_;refine .z 8 rfl (zfa dH) ?_;refine .y 9 rfl hs af ?_
  refine .E 3 hs ?_
  refine .call Tryz.call244 rfl (kv (s:=s.sp) hs .here hk.st hk.wa ⟨ak,ak⟩ ⟨ak,ak⟩) ?_;rintro _ w ⟨rfl,hs⟩
  refine .go (.E 10 hs ?_)
  refine .call Bh rfl (fU (ls:=ls++wX s.sp j) hs hO (by rw [List.length_append];omega)) ?_;rintro _ w ⟨vl3,en3,hO3,hs⟩
  rw [show (s.sp.many:Int)+1+(j:Int)=((s.sp.many+1+j:Nat):Int) by omega,List.append_assoc] at hO3
  refine .go (.D hs (nB (nT ?_)))
  exact .mk ⟨rfl,vl3,en3,hO3,hs⟩
 ·rintro fr w ⟨rfl,vl,en,hO,hs⟩
  exact Fin.yq Tryz.results193 ⟨H,vl,en,HLe.refl _,hO,hs⟩
set_option maxHeartbeats 1000000 in
theorem pA{s:Srv}{ts:List TD}{vst vwa vr vc vt vl:Value}{en:Ent}{bm:Nat}{ls:List Lim}(hs:St H w (.blk bm [I s.sp.id,I s.sp.src,vst,vwa,I s.sp.al,I s.sp.up,vr,vc,vt,vl]::en::σ))(hk:MkK H s ts vst vwa vr vc vt)(hO:bS 4 vl (fT ls) en)(hl:ls.length≤10000)(hok:eZ s.sp)(htl:ts.length≤100)(hcl:s.cs.length≤20)(hc:∀c∈s.cs,sO c){j0:Nat}(hj0:j0≤ts.length):
  Cl Tryz.prog 245 [Pt bm,I (j0:Int)] w fun _ w'=>∃H1 vl' en',HLe H H1∧bS 4 vl' (fT (ls++tf s.sp ts s.cs j0 s.cs.length)) en'∧St H1 w' (.blk bm [I s.sp.id,I s.sp.src,vst,vwa,I s.sp.al,I s.sp.up,vr,vc,vt,vl']::en'::σ):=by
 have hsm:=dX hok
 obtain ⟨at_,ct,rfl⟩:=RTd.shape hk.ts
 obtain ⟨ac,cc,rfl⟩:=RCm.shape hk.cs
 refine Cl.o Tryz.func245 Tryz.ntmps245 ag2 ?_
 refine .ai (.z zm (.z znc (.z (zfa cV) (.z (zfa dr) (.y hs (zld oG) (.z (cU cR) (.zn zm (.for (N:=s.cs.length) (J:=fun i fr w=>fr=[(12,.slice ac s.cs.length cc),(0,Pt bm),(1,I (j0:Int))]∧∃vl en,bS 4 vl (fT (ls++tf s.sp ts s.cs j0 i)) en∧St H w (.blk bm [I s.sp.id,I s.sp.src,vst,vwa,I s.sp.al,I s.sp.up,vr,.slice ac s.cs.length cc,.slice at_ ts.length ct,vl]::en::σ)) ak ?_ ?_ ?_))))))))
 ·exact .mk ⟨rfl,vl,en,by show bS 4 vl (fT (ls++[])) en;rw [List.append_nil];exact hO,hs⟩
 ·rintro i fr w hi ⟨rfl,vl,en,hO,hs⟩
  obtain ⟨c,hx⟩:=nth hi
  obtain ⟨g1,g2,g3,g4,g5,g6⟩:=hc c (List.mem_of_getElem? hx)
  have hcl1:=je s.sp ts s.cs j0 i
  have hcl2:i*(2*(ts.length - j0))≤20*(2*100):=Nat.mul_le_mul ak ak
  refine .block (.ai (.ixX (enc:=Cmp.c) hs hk.cs rfl rfl cR eP hx df ?_));intro b16 o16 hc16
  refine .q hs (bI (vs:=(Cmp.c c)) rfl Tryz.isAgg153 eP hc16) (.o (.alloc hs xr rfl fun b5 w hs=>?_))
  refine .o (.aH (vs:=c.c) hs rfl rfl eP fun w hs=>?_)
  replace hs:St H w (.blk bm [I s.sp.id,I s.sp.src,vst,vwa,I s.sp.al,I s.sp.up,vr,.slice ac s.cs.length cc,.slice at_ ts.length ct,vl]::en:: .blk b5 [I c.src,I c.tape,I c.fr,I c.to,I c.lo,I c.hi]::σ):=hs.sb
  refine .nil (.ai (.z zm (.zn zg (.block ?_))))
  refine .loop (fun j:Nat=>⟨62,[],[(6,I ((j0+j:Nat):Int)),(5,Pt b5),(14,I (i:Int)),(13,I (s.cs.length:Int)),(12,.slice ac s.cs.length cc),(0,Pt bm),(1,I (j0:Int))]⟩)
   (fun j w=>j0+j≤ts.length∧∃vl en,bS 4 vl (fT (ls++tf s.sp ts s.cs j0 i++ky s.sp ts c j0 j)) en∧St H w (.blk bm [I s.sp.id,I s.sp.src,vst,vwa,I s.sp.al,I s.sp.up,vr,.slice ac s.cs.length cc,.slice at_ ts.length ct,vl]::en:: .blk b5 [I c.src,I c.tape,I c.fr,I c.to,I c.lo,I c.hi]::σ)) (fun j=>ts.length - (j0+j)) 0 bn
   ⟨ak,vl,en,by show bS 4 vl (fT (_++[])) en;rw [List.append_nil];exact hO,hs⟩ ?_
  clear hO hs
  rintro j w ⟨hj,vl,en,hO,hs⟩
  have hl1:=kX s.sp ts c j0 j
  obtain ⟨al,ll,cl,rfl,hll⟩:=hO.shape
  refine .seq (.ai (.z zm (.z zm (.z znc (.z (zfa eW) (.y hs (zld GW) (.z (cU a6) (.zn iJ (.bO rfl (fun hc25=>?_) (fun hc25=>?_))))))))))
  ·refine .skip (nT (.seq (.block (.ai (.z zm (.z znc (.z (zfa eW) (.y hs (zld GW) (.z zm ?_)))))))))
   obtain ⟨t,ht⟩:=nth (l:=ts) (k:=j0+j) ak
   have ht0:=Fa ht
   refine .ixX (enc:=TD.c) hs hk.ts rfl rfl a6 bk ht df ?_;intro b33 o33 hc33
   refine .q hs (bI (vs:=(TD.c t)) rfl dA bk hc33) (.o (.alloc hs kg rfl fun b7 w hs=>?_))
   refine .o (.aH (vs:=t.c) hs rfl rfl bk fun w hs=>?_)
   change St _ _ (.blk b7 [I t.tape,I t.day]::_) at hs
   refine .nil (.ai (.z (zfa mA) (.y hs (zld af) (.z (zfa jQ) (.y hs (zld af) (.z kd (.z zm (.kF (t':=40) rfl (fun hb40=>?_) (fun hb40=>?_)))))))))
   ·refine .T ?_
    refine .z (zfa jN) (.T (.y hs (zld af) (.T (.z (zfa jP) (.T (.y hs (zld af) (.T (.z (zfa im) (.T (.y hs (zld af) (.T (.o (.call dc rfl (bh hs) ?_)))))))))))));rintro _ w ⟨rfl,hs⟩
    refine .zn zpT (.cond rfl (fun hc48=>?_) (fun hc48=>?_))
    ·refine .draw mix rfl hs fun w hs=>?_
     refine .zw 0 rfl zm ?_;refine .z 1 rfl zm ?_;refine .z 2 rfl zm ?_;refine .z 4 rfl (zfa jO) ?_;refine .y 5 rfl hs af ?_;refine .z 6 rfl Di ?_;refine .z 7 rfl (zfa ik) ?_;refine .y 8 rfl hs af ?_;refine .z 9 rfl (zfa iq) ?_;refine .y 10 rfl hs af ?_
     refine .E 3 hs ?_
     refine .call Tryz.call244 rfl (kv (s:=s.sp) hs (.there .here) hk.st hk.wa ⟨ak,ak⟩ ⟨ak,ak⟩) ?_;rintro _ w ⟨rfl,hs⟩
     refine .go (.E 11 hs ?_)
     refine .call Bh rfl (fU (ls:=ls++tf s.sp ts s.cs j0 i++ky s.sp ts c j0 j) (hs.tail:St H w (.blk bm _::en:: .blk b5 _::σ)) hO (by rw [List.length_append,List.length_append];omega)) ?_;rintro _ w ⟨vl3,en3,hO3,hs⟩
     refine .go (.D hs (nB (nT (.region (.z zm (.z cq (.zn zg (nT ?_))))))))
     have e:ky s.sp ts c j0 (j+1)=ky s.sp ts c j0 j++two 0 ((s.sp.many:Int)+1+((j0+j:Nat):Int)) (-c.lo) c.hi c.src:=by
      show _++k9 c (td0 ts (j0+j)) _=_
      rw [ht0];unfold k9;rw [if_pos (by simp at hc48;omega)]
      rw [show ((s.sp.many+1+(j0+j):Nat):Int)=(s.sp.many:Int)+1+((j0+j:Nat):Int) by omega]
     rw [List.append_assoc _ (ky _ _ _ _ _),←e] at hO3
     exact ⟨j+1,.dy rfl (by simp;omega) bn,⟨ak,vl3,en3,hO3,hs⟩,ak⟩
    ·refine .skip (nB (nT (.region (.z zm (.z cq (.zn zg (nT ?_)))))))
     have e:ky s.sp ts c j0 (j+1)=ky s.sp ts c j0 j:=by
      show _++k9 c (td0 ts (j0+j)) _=_
      rw [ht0];unfold k9;rw [if_neg (by simp at hc48;omega),List.append_nil]
     exact ⟨j+1,.dy rfl (by simp;omega) bn,⟨ak,_,en,by rw [e];exact hO,hs.tail⟩,ak⟩
   ·refine .Fs 7 5 true (.zn zpF (.cF (.skip (nB (nT (.region (.z zm (.z cq (.zn zg (nT ?_))))))))))
    have e:ky s.sp ts c j0 (j+1)=ky s.sp ts c j0 j:=by
     show _++k9 c (td0 ts (j0+j)) _=_
     rw [ht0];unfold k9;rw [if_neg ak,List.append_nil]
    exact ⟨j+1,.dy rfl (by simp;omega) bn,⟨ak,_,en,by rw [e];exact hO,hs.tail⟩,ak⟩
  ·refine .exit (xT (xT (xB (nB (nT ?_)))))
   obtain rfl:j=ts.length - j0:=by omega
   rw [List.append_assoc,show tf s.sp ts s.cs j0 i++ky s.sp ts c j0 (ts.length - j0)=tf s.sp ts s.cs j0 (i+1) by rw [←CU hx];rfl] at hO
   exact .mk ⟨rfl,_,en,hO,hs.sb⟩
 ·rintro fr w ⟨rfl,vl,en,hO,hs⟩
  exact Fin.yq Tryz.results245 ⟨H,vl,en,HLe.refl _,hO,hs⟩
theorem mR{s:Srv}{ts:List TD}{vst vwa vr vc vt vl:Value}{en:Ent}{bm:Nat}{ls:List Lim}(hs:St H w (.blk bm [I s.sp.id,I s.sp.src,vst,vwa,I s.sp.al,I s.sp.up,vr,vc,vt,vl]::en::σ))(hk:MkK H s ts vst vwa vr vc vt)(hO:bS 4 vl (fT ls) en)(hl:ls.length≤10000)(hok:eZ s.sp)(htl:ts.length≤100)(hcl:s.cs.length≤20)(hc:∀c∈s.cs,sO c):
  Cl Tryz.prog 194 [Pt bm] w fun _ w'=>∃H1 vl' en',HLe H H1∧bS 4 vl' (fT (ls++tf s.sp ts s.cs 0 s.cs.length)) en'∧St H1 w' (.blk bm [I s.sp.id,I s.sp.src,vst,vwa,I s.sp.al,I s.sp.up,vr,vc,vt,vl']::en'::σ):=by
 refine Cl.o Tryz.func194 Tryz.ntmps194 ag1 ?_
 refine .region (.z zm (.o (.call Tryz.call245 rfl (pA (s:=s) (ts:=ts) (j0:=0) hs hk hO hl hok htl hcl hc ak) ?_)));rintro _ w hs
 refine .nil ?_
 exact Fin.yq Tryz.results194 hs
set_option maxHeartbeats 1000000 in
theorem pz{s:Srv}{ts:List TD}{vst vwa vr vc vt vl:Value}{en:Ent}{bm:Nat}{ls:List Lim}(hs:St H w (.blk bm [I s.sp.id,I s.sp.src,vst,vwa,I s.sp.al,I s.sp.up,vr,vc,vt,vl]::en::σ))(hk:MkK H s ts vst vwa vr vc vt)(hO:bS 4 vl (fT ls) en)(hl:ls.length≤10000)(hok:eZ s.sp)(htl:ts.length≤100)(hrl:s.rs.length≤60)(hr:∀r∈s.rs,mX s.sp r)(hmem:∀r∈s.rs,r.td∈ts):
  Cl Tryz.prog 195 [Pt bm] w fun _ w'=>∃H1 vl' en',HLe H H1∧bS 4 vl' (fT (ls++uK s.sp ts s.rs s.rs.length)) en'∧St H1 w' (.blk bm [I s.sp.id,I s.sp.src,vst,vwa,I s.sp.al,I s.sp.up,vr,vc,vt,vl']::en'::σ):=by
 have hsm:=dX hok
 obtain ⟨at_,ct,rfl⟩:=RTd.shape hk.ts
 obtain ⟨ar,cr,rfl⟩:=RRd.shape hk.rs
 refine Cl.o Tryz.func195 Tryz.ntmps195 ag1 ?_
 refine .ai (.z zm (.z znc (.z (zfa cV) (.z (zfa br) (.y hs (zld cS) (.z (cU aO) (.zn zm (.for (N:=s.rs.length) (J:=fun i fr w=>fr=[(9,.slice ar s.rs.length cr),(0,Pt bm)]∧∃vl en,bS 4 vl (fT (ls++uK s.sp ts s.rs i)) en∧St H w (.blk bm [I s.sp.id,I s.sp.src,vst,vwa,I s.sp.al,I s.sp.up,.slice ar s.rs.length cr,vc,.slice at_ ts.length ct,vl]::en::σ)) ak ?_ ?_ ?_))))))))
 ·exact .mk ⟨rfl,vl,en,by show bS 4 vl (fT (ls++[])) en;rw [List.append_nil];exact hO,hs⟩
 ·rintro i fr w hi ⟨rfl,vl,en,hO,hs⟩
  obtain ⟨r,hx⟩:=nth hi
  obtain ⟨g1,g2,g3,g4,g5,g6,g7⟩:=hr r (List.mem_of_getElem? hx)
  obtain ⟨k,k1,k2,k3⟩:=gy (hmem r (List.mem_of_getElem? hx))
  have hrl1:=jb s.sp ts s.rs i
  obtain ⟨al,ll,cl,rfl,hll⟩:=hO.shape
  refine .block (.ai (.ixX (enc:=Rdg.c) hs hk.rs rfl rfl aO a8 hx df ?_));intro b13 o13 hc13
  refine .q hs (bI (vs:=(Rdg.c r)) rfl gu a8 hc13) (.o (.alloc hs fN rfl fun b3 w hs=>?_))
  refine .o (.aH (vs:=r.c) hs rfl rfl a8 fun w hs=>?_)
  change St _ _ (.blk b3 [I r.src,I r.st,I r.wa,I r.val,I r.tol,I r.tape,I r.day]::_) at hs
  refine .nil (.seq (.draw mix rfl hs fun w hs=>?_))
  refine .zw 0 rfl zm ?_;refine .z 1 rfl znc ?_;refine .z 2 rfl (zfa eW) ?_;refine .y 3 rfl hs GW ?_;refine .ys 4 rfl hs [_,_,_,_,_,_,_] gu a8 ?_
  refine .E 5 hs ?_
  refine .call Tryz.call241 rfl (iy hs) ?_;rintro _ w ⟨rfl,hs⟩
  refine .go (.E 6 hs ?_)
  refine .call Tryz.call246 rfl (tA (t:=r.td) hs hk.ts ak) ?_;rintro _ w ⟨rfl,hs⟩
  refine .go (.zw 7 rfl zg ?_);refine .D hs ?_
  refine .draw mix rfl hs fun w hs=>?_
  refine .zw 0 rfl zm ?_;refine .z 1 rfl zm ?_;refine .z 2 rfl zm ?_;refine .z 4 rfl zm ?_;refine .z 5 rfl znc ?_;refine .z 6 rfl (zfa cV) ?_;refine .z 7 rfl (zfa bj) ?_;refine .ys 8 rfl hs [_,_,_,_,_,_] aM aD ?_;refine .z 9 rfl (zfa fR) ?_;refine .y 10 rfl hs af ?_
  refine .zw 11 rfl (zfa fQ) ?_;refine .y 12 rfl hs af ?_;refine .z 14 rfl (zfa ep) ?_;refine .y 15 rfl hs af ?_;refine .z 16 rfl (zfa de) ?_;refine .y 17 rfl hs af ?_;refine .z 18 rfl cq ?_;refine .z 19 rfl (zfa de) ?_;refine .y 20 rfl hs af ?_;refine .z 21 rfl (zfa ep) ?_
  refine .y 22 rfl hs af ?_;refine .z 23 rfl ib ?_;refine .z 24 rfl (zfa fS) ?_;refine .y 25 rfl hs af ?_
  refine .E 3 hs ?_
  refine .call Tryz.call244 rfl (kv (s:=s.sp) hs (.there .here) hk.st hk.wa ⟨ak,ak⟩ ⟨ak,ak⟩) ?_;rintro _ w ⟨rfl,hs⟩
  refine .go (.E 13 hs ?_)
  refine .call Tryz.call247 rfl (oo (s:=s.sp) hs hk.wa ak ⟨ak,ak⟩ ⟨ak,ak⟩) ?_;rintro _ w ⟨rfl,hs⟩
  refine .go (.E 26 hs ?_)
  refine .call Bh rfl (fU (ls:=ls++uK s.sp ts s.rs i) (hs.sb:St H w (.blk bm _::en:: .blk b3 _::σ)) hO (by rw [List.length_append];omega)) ?_;rintro _ w ⟨vl3,en3,hO3,hs⟩
  refine .go (.D hs (nB (nT ?_)))
  rw [List.append_assoc,show uK s.sp ts s.rs i++two ((s.sp.many:Int)+1+jH ts r.td) (1+r.st*s.sp.wa.length+r.wa) (r.val+r.tol) (r.tol - r.val) r.src=uK s.sp ts s.rs (i+1) by rw [←BT hx];rfl] at hO3
  exact .mk ⟨rfl,vl3,en3,hO3,hs.sb⟩
 ·rintro fr w ⟨rfl,vl,en,hO,hs⟩
  exact Fin.yq Tryz.results195 ⟨H,vl,en,HLe.refl _,hO,hs⟩
def fnK:Nat→Nat
 |0=>190
 |1=>191
 |2=>192
 |3=>193
 |4=>194
 |_=>195
theorem ED{k:Nat}(hk:k<6):∀args w,(callFunc (fnK k) args).run Tryz.prog w= .ok (.enter (fnK k) args) w:=by
 have h:k=0∨k=1∨k=2∨k=3∨k=4∨k=5:=by omega
 rcases h with rfl|rfl|rfl|rfl|rfl|rfl
 ·exact Tryz.call190
 ·exact Tryz.call191
 ·exact Tryz.call192
 ·exact Tryz.call193
 ·exact Tryz.call194
 ·exact Tryz.call195
theorem B9{s:Srv}{vst vwa vr vc vt vl:Value}{en:Ent}{bm k:Nat}(hs:St H w (.blk bm [I s.sp.id,I s.sp.src,vst,vwa,I s.sp.al,I s.sp.up,vr,vc,vt,vl]::en::σ))(hk:MkK H s s.bM vst vwa vr vc vt)(hO:bS 4 vl (fT (s.parts k)) en)(he:s.early)(hk6:k<6):
  Cl Tryz.prog (fnK k) [Pt bm] w fun _ w'=>∃H1 vl' en',HLe H H1∧bS 4 vl' (fT (s.parts (k+1))) en'∧St H1 w' (.blk bm [I s.sp.id,I s.sp.src,vst,vwa,I s.sp.al,I s.sp.up,vr,vc,vt,vl']::en'::σ):=by
 have hl:=kQ he k ak
 obtain ⟨hok,h1,h2,h3,h4⟩:=he
 have htl:s.bM.length≤100:=by have:=dn s.rs;unfold Srv.bM;omega
 have h:k=0∨k=1∨k=2∨k=3∨k=4∨k=5:=by omega
 rcases h with rfl|rfl|rfl|rfl|rfl|rfl
 ·exact pB hs hk hO (Nat.le_trans hl ew) hok
 ·exact sF hs hk hO (Nat.le_trans hl ew) hok
 ·exact wK hs hk hO (Nat.le_trans hl ew) hok
 ·exact rn hs hk hO (Nat.le_trans hl ew) hok htl
 ·exact mR hs hk hO (Nat.le_trans hl ew) hok htl h2 h4
 ·exact pz hs hk hO (Nat.le_trans hl ew) hok htl h1 h3 fun r hr=>fK.2 ⟨r,hr,rfl⟩
def fnV(b:Nat)(k:Nat):Value:= .func (.func (fnK k)) #[Pt b] #[]
theorem F9(b:Nat){k:Nat}(hk:k<6):[fnV b 0,fnV b 1,fnV b 2,fnV b 3,fnV b 4,fnV b 5][k]? =some (fnV b k):=by
 have h:k=0∨k=1∨k=2∨k=3∨k=4∨k=5:=by omega
 rcases h with rfl|rfl|rfl|rfl|rfl|rfl<;>rfl
set_option maxHeartbeats 1000000 in
theorem qb{s:Srv}{vst vwa vr vc:Value}(hs:St H w σ)(h1:RI H vst s.sp.st)(h2:RI H vwa s.sp.wa)(h3:RRd H vr s.rs)(h4:RCm H vc s.cs)(he:s.early):
  Cl Tryz.prog 133 [.agg #[I s.sp.id,I s.sp.src,vst,vwa,I s.sp.al,I s.sp.up,vr,vc]] w fun u w'=>∃H1 vl en,HLe H H1∧u= .agg #[I s.sys.many,vl]∧bS 4 vl (fT s.bY) en∧St H1 w' (en::σ):=by
 have hsm:=dX he.1
 have htl:s.bM.length≤60:=by have:=dn s.rs;have:=he.2.1;unfold Srv.bM;omega
 refine Cl.o Tryz.func133 Tryz.ntmps133 ag1 ?_
 refine .ai (.bx hs fun b1 w hs=>?_)
 refine .o (.alloc hs dG rfl fun b2 w hs=>?_)
 refine .nil (.seq (.draw mix rfl hs fun w hs=>?_))
 refine .ys 0 rfl hs [_,_,_,_,_,_,_,_] aI aB ?_;refine .ys 1 rfl hs [_,_,_,_,_,_,_,_] aI aB ?_
 refine .E 2 hs ?_
 refine .call Tryz.call189 rfl (qa hs h3 (by have:=he.2.1;omega)) ?_;rintro v8 w ⟨H1,hle1,hT,hs⟩
 obtain ⟨at_,ct,rfl⟩:=RTd.shape hT
 have hk0:MkK H1 s s.bM vst vwa vr vc (.slice at_ s.bM.length ct):=⟨h1.mono hle1,h2.mono hle1,h3.mono hle1,h4.mono hle1,hT⟩
 refine .go (.zw 3 rfl (zbd (vs:=[(0,.agg #[I s.sp.id,I s.sp.src,vst,vwa,I s.sp.al,I s.sp.up,vr,vc]),(1,.slice at_ s.bM.length ct)]) [I s.sp.id,I s.sp.src,vst,vwa,I s.sp.al,I s.sp.up,vr,vc,.slice at_ s.bM.length ct,.slice none 0 0] rF rfl aE) (.E 4 hs ?_))
 refine .box hs rfl rfl ?_;intro b10 w hs
 refine .go (.zw 5 rfl zg ?_);refine .D hs ?_
 refine .seq (.ai (.z zm (.q hs (cJ (f:=[_]) (c:=[]) rfl rfl) (.z zm (.q hs (cJ (f:=[_]) (c:=[]) rfl rfl) (.z zm (.q hs (cJ (f:=[_]) (c:=[]) rfl rfl) (.z zm (.q hs (cJ (f:=[_]) (c:=[]) rfl rfl) (.z zm (.q hs (cJ (f:=[_]) (c:=[]) rfl rfl) (.z zm (.q hs (cJ (f:=[_]) (c:=[]) rfl rfl) (.o (.buildSlice (cells:=[fnV b10 0,fnV b10 1,fnV b10 2,fnV b10 3,fnV b10 4,fnV b10 5]) hs w8 rfl aE fun b23 w hs=>?_)))))))))))))))
 refine .z (cU Tryz.runUnderlying247) (.zn zm (.for (N:=6) (J:=fun k fr w=>fr=[(23,.slice (some ⟨b23,0,none⟩) 6 6),(3,Pt b10),(2,Pt b2),(1,Pt b1)]∧∃H2 vl en,HLe H1 H2∧bS 4 vl (fT (s.parts k)) en∧St H2 w (.blk b10 [I s.sp.id,I s.sp.src,vst,vwa,I s.sp.al,I s.sp.up,vr,vc,.slice at_ s.bM.length ct,vl]::en:: .blk b23 [fnV b10 0,fnV b10 1,fnV b10 2,fnV b10 3,fnV b10 4,fnV b10 5]:: .blk b2 [I 0,.slice none 0 0]:: .blk b1 [I s.sp.id,I s.sp.src,vst,vwa,I s.sp.al,I s.sp.up,vr,vc]::σ)) ak ?_ ?_ ?_))
 ·exact .mk ⟨rfl,H1,.slice none 0 0,.nul,HLe.refl _,.nil 4 none,hs.nul.sb⟩
 ·rintro k fr w hk ⟨rfl,H2,vl,en,hle2,hO,hs⟩
  refine .block (.ai (.z (zix Tryz.runUnderlying247 Tryz.sizeOf1) (.q hs (gC rfl Tryz.isAgg1 (hv:=F9 b10 hk)) (.zn zg (.region (.z zm (.o (.nI (first:=[Pt b10]) (cap:=[]) rfl rfl (ED hk) (B9 hs (hk0.mono hle2) hO he hk) ?_))))))));rintro _ w ⟨H3,vl3,en3,hle3,hO3,hs⟩
  refine .nil (nB (nT ?_))
  exact .mk ⟨rfl,H3,vl3,en3,hle2.trans hle3,hO3,hs⟩
 ·rintro fr w ⟨rfl,H2,vl,en,hle2,hO,hs⟩
  rw [s.wD] at hO
  obtain ⟨al,ll,cl,rfl,hll⟩:=hO.shape
  refine nT (.seq (.draw mix rfl hs fun w hs=>?_))
  refine .zw 0 rfl (zfa bj) ?_;refine .ys 1 rfl hs [_,_,_,_,_,_] aM aD ?_;refine .z 3 rfl zm ?_;refine .z 4 rfl znc ?_;refine .z 5 rfl (zfa eW) ?_;refine .y 6 rfl hs GW ?_;refine .z 7 rfl (cU a6) ?_;refine .z 9 rfl zm ?_;refine .z 10 rfl znc ?_;refine .z 11 rfl (zfa iM) ?_
  refine .zv 12 rfl hs (qm cz) (.E 2 hs ?_)
  refine .call Tryz.call196 rfl (lN (s:=s.sp) hs (h1.mono (hle1.trans hle2)) (h2.mono (hle1.trans hle2)) ⟨ak,ak⟩) ?_;rintro _ w ⟨rfl,hs⟩
  refine .go (.zw 8 rfl cq ?_);refine .z 13 rfl (zbd [_,_] lz) ?_
  refine .E 14 hs ?_
  refine .aH (vs:=[_,_]) hs rfl rfl aF ?_;intro w hs
  refine .go (.D hs (.ret ?_))
  replace hs:St H2 w (.blk b2 [I ((s.sp.many:Int)+(s.bM.length:Int)),.slice al ll cl]::en::σ):=hs.sb
  exact Fin.gj [] [] hs fun w hs=>⟨_,results1 Tryz.results133 (cC (vs:=[_,_]) hs rfl aZ aF),H2,_,en,hle1.trans hle2,by show _=Value.agg #[I ((s.sp.many+s.bM.length:Nat):Int),_];rw [Int.natCast_add],hO,hs.tail⟩
theorem eG{s:Srv}{vst vwa vr vc:Value}(hs:St H w σ)(h1:RI H vst s.sp.st)(h2:RI H vwa s.sp.wa)(h3:RRd H vr s.rs)(h4:RCm H vc s.cs)(he:s.early):
  Cl Tryz.prog 133 [.agg #[I s.sp.id,I s.sp.src,vst,vwa,I s.sp.al,I s.sp.up,vr,vc]] w fun u w'=>∃H1,HLe H H1∧RSy H1 u s.sys∧St H1 w' σ:=by
 refine (qb hs h1 h2 h3 h4 he).mono ?_
 rintro u w' ⟨H1,vl,en,hle,rfl,hO,hs⟩
 have hl:=kQ he 6 ak
 rw [s.wD] at hl
 obtain ⟨H2,hle2,hR,hs⟩:=bS.bU (m:=4) (cs:=s.bY.map Lim.c) hO (fun c hc=>by simp only [List.mem_map] at hc;obtain ⟨x,_,rfl⟩:=hc;rfl) ak (by rw [List.length_map];omega) hs .here
 exact ⟨H2,hle.trans hle2,⟨vl,rfl,hR⟩,hs⟩
set_option maxHeartbeats 1000000 in
theorem eU{s:Srv}{vst vwa vr vc:Value}(hs:St H w σ)(h1:RI H vst s.sp.st)(h2:RI H vwa s.sp.wa)(h3:RRd H vr s.rs)(h4:RCm H vc s.cs):
  Cl Tryz.prog 117 [.agg #[I s.sp.id,I s.sp.src,vst,vwa,I s.sp.al,I s.sp.up,vr,vc]] w fun u w'=>∃H1 e,HLe H H1∧u=I e∧xp s e∧St H1 w' σ:=by
 obtain ⟨ast,cst,rfl⟩:=RI.shape h1
 obtain ⟨awa,cwa,rfl⟩:=RI.shape h2
 obtain ⟨ar,cr,rfl⟩:=RRd.shape h3
 obtain ⟨ac,cc,rfl⟩:=RCm.shape h4
 refine Cl.o Tryz.func117 Tryz.ntmps117 ag1 ?_
 refine .ai (.bx hs fun b1 w hs=>?_)
 refine .zn zg (.seq (.ai (.z (zfa bj) (.y hs (zls [_,_,_,_,_,_] aM aD) (.o (.call Tryz.call111 rfl (fJ (s:=s.sp) hs h1 h2) ?_))))));rintro _ w ⟨H1,e,hle1,rfl,he,hs⟩
 refine .zn zg (.ai (.z zm (.zn gg (.dO rfl (fun hc13=>?_) (fun hc13=>?_)))))
 ·refine .ai (.z zm (.zn zg (.ret (rT (Fin.bu jW rfl ?_)))))
  have hq:¬eZ s.sp∧e=30:=he.resolve_left fun h=>hc13 h.2
  exact ⟨H1,_,hle1,rfl,by rw [hq.2];exact .space hq.1,hs.out⟩
 ·refine .skip (nT (.seq (.ai (.z (zfa br) ?_))))
  have hok:eZ s.sp:=(he.resolve_right fun h=>by omega).1
  refine .y hs (zld cS) (.z (cU aO) (.z pQ (.z zm (.kF (t':=19) rfl (fun hb19=>?_) (fun hb19=>?_)))))
  ·refine .Fs 4 4 false (.zn zpT (.cT (.ai (.zn zg (.ret (rT (Fin.bu jW rfl ?_)))))))
   exact ⟨H1,_,hle1,rfl,.long hok ak,hs.out⟩
  ·refine .T (.z (zfa dr) (.T (.y hs (zld oG) (.T (.z (cU cR) (.T (.z pQ (.zn zpF (.bO rfl (fun hc24=>?_) (fun hc24=>?_))))))))))
   ·refine .ai (.zn zg (.ret (rT (Fin.bu jW rfl ?_))))
    exact ⟨H1,_,hle1,rfl,.long hok ak,hs.out⟩
   ·refine .skip (nT (.seq (.ai (.z (zfa br) (.y hs (zld cS) (.z (cU aO) (.zn zm (.for (N:=s.rs.length) (J:=fun k fr w=>fr=[(26,.slice ar s.rs.length cr),(1,Pt b1)]∧(∀j<k,∀y,s.rs[j]? =some y→mX s.sp y)∧St H1 w (.blk b1 [I s.sp.id,I s.sp.src,.slice ast s.sp.st.length cst,.slice awa s.sp.wa.length cwa,I s.sp.al,I s.sp.up,.slice ar s.rs.length cr,.slice ac s.cs.length cc]::σ)) ak ?_ ?_ ?_))))))))
    ·exact .mk ⟨rfl,fun j hj=>by omega,hs⟩
    ·rintro k fr w hk ⟨rfl,hno,hs⟩
     obtain ⟨r,hx⟩:=nth hk
     refine .block (.ai (.ixX (enc:=Rdg.c) hs (h3.mono hle1) rfl rfl aO a8 hx df ?_));intro b30 o30 hc30
     refine .q hs (bI (vs:=(Rdg.c r)) rfl gu a8 hc30) (.o (.alloc hs fN rfl fun b5 w hs=>?_))
     refine .o (.aH (vs:=r.c) hs rfl rfl a8 fun w hs=>?_)
     change St _ _ (.blk b5 [I r.src,I r.st,I r.wa,I r.val,I r.tol,I r.tape,I r.day]::_) at hs
     refine .nil (.ai (.z (zfa bj) (.y hs (zls [_,_,_,_,_,_] aM aD) (.y hs (zls [_,_,_,_,_,_,_] gu a8) (.o (.call Tryz.call120 rfl (mN (s:=s.sp) (r:=r) hs (h1.mono hle1) (h2.mono hle1)) ?_))))));rintro _ w ⟨b35,rfl,hb35,hs⟩
     refine .zn gP (.cond rfl (fun hc36=>?_) (fun hc36=>?_))
     ·refine .ai (.zn zg (.ret (rB (rT (rB (rT (Fin.bu jW rfl ?_)))))))
      exact ⟨H1,_,hle1,rfl,.rdg hok ak (fun h=>by rw [hb35.2 (h r (List.mem_of_getElem? hx))] at hc36;cases hc36),hs.out⟩
     ·refine .skip (nB (nT ?_))
      exact .mk ⟨rfl,eT hno hx (hb35.1 (by simpa using hc36)),hs.tail⟩
    ·rintro fr w ⟨rfl,hno,hs⟩
     have hrs:∀r∈s.rs,mX s.sp r:=fun r hr=>by
      obtain ⟨j,hj⟩:=List.getElem?_of_mem hr
      exact hno j (List.getElem?_eq_some_iff.1 hj).1 r hj
     clear hno
     refine nT (.seq (.ai (.z (zfa dr) (.y hs (zld oG) (.z (cU cR) (.zn zm (.for (N:=s.cs.length) (J:=fun k fr w=>fr=[(39,.slice ac s.cs.length cc),(1,Pt b1)]∧(∀j<k,∀y,s.cs[j]? =some y→sO y)∧St H1 w (.blk b1 [I s.sp.id,I s.sp.src,.slice ast s.sp.st.length cst,.slice awa s.sp.wa.length cwa,I s.sp.al,I s.sp.up,.slice ar s.rs.length cr,.slice ac s.cs.length cc]::σ)) ak ?_ ?_ ?_)))))))
     ·exact .mk ⟨rfl,fun j hj=>by omega,hs⟩
     ·rintro k fr w hk ⟨rfl,hno,hs⟩
      obtain ⟨c,hx⟩:=nth hk
      refine .block (.ai (.ixX (enc:=Cmp.c) hs (h4.mono hle1) rfl rfl cR eP hx df ?_));intro b43 o43 hc43
      refine .q hs (bI (vs:=(Cmp.c c)) rfl Tryz.isAgg153 eP hc43) (.o (.alloc hs xr rfl fun b7 w hs=>?_))
      refine .o (.aH (vs:=c.c) hs rfl rfl eP fun w hs=>?_)
      change St _ _ (.blk b7 [I c.src,I c.tape,I c.fr,I c.to,I c.lo,I c.hi]::_) at hs
      refine .nil (.ai (.y hs (zls [_,_,_,_,_,_] Tryz.isAgg153 eP) (.o (.call Tryz.call170 rfl (mO (c:=c) hs) ?_))));rintro _ w ⟨b46,rfl,hb46,hs⟩
      refine .zn gP (.cond rfl (fun hc47=>?_) (fun hc47=>?_))
      ·refine .ai (.zn zg (.ret (rB (rT (rB (rT (Fin.bu jW rfl ?_)))))))
       exact ⟨H1,_,hle1,rfl,.cmp hok ak hrs (fun h=>by rw [hb46.2 (h c (List.mem_of_getElem? hx))] at hc47;cases hc47),hs.out⟩
      ·refine .skip (nB (nT ?_))
       exact .mk ⟨rfl,eT hno hx (hb46.1 (by simpa using hc47)),hs.tail⟩
     ·rintro fr w ⟨rfl,hno,hs⟩
      have hcs:∀c∈s.cs,sO c:=fun c hc=>by
       obtain ⟨j,hj⟩:=List.getElem?_of_mem hc
       exact hno j (List.getElem?_eq_some_iff.1 hj).1 c hj
      have hea:s.early:=⟨hok,ak,ak,hrs,hcs⟩
      have hsm:=dX hok
      have htl:s.bM.length≤60:=by have:=dn s.rs;have:=hea.2.1;unfold Srv.bM;omega
      have hll:=kQ hea 6 ak
      rw [s.wD] at hll
      have hsm2:s.sys.many=((s.sp.many+s.bM.length:Nat):Int):=rfl
      refine nT (.seq (.ai (.y hs (zls [_,_,_,_,_,_,_,_] aI aB) (.o (.call IL rfl (eG (s:=s) hs (h1.mono hle1) (h2.mono hle1) (h3.mono hle1) (h4.mono hle1) hea) ?_)))));rintro _ w ⟨H2,hle2,⟨ul,rfl,hL⟩,hs⟩
      obtain ⟨al,cl,rfl⟩:=RL.shape hL
      have hsl:s.sys.bY.length=s.bY.length:=rfl
      refine .o (.alloc hs dG rfl fun b8 w hs=>?_)
      refine .o (.aH (vs:=[_,_]) hs rfl rfl aF fun w hs=>?_)
      refine .nil (.ai (.z (zfa bG) (.y hs (zld af) (.z pQ (.z zm (.kF (t':=54) rfl (fun hb54=>?_) (fun hb54=>?_)))))))
      ·refine .Fs 4 3 false (.zn zpT (.cT (.ai (.zn zg (.ret (rT (Fin.bu jW rfl ?_)))))))
       exact ⟨H2,_,hle1.trans hle2,rfl,.big hea ak,hs.out⟩
      ·refine .T (.z (zfa bF) (.T (.y hs (zld cz) (.T (.z (cU aJ) (.T (.z pQ (.zn zpF (.bO rfl (fun hc59=>?_) (fun hc59=>?_))))))))))
       ·refine .ai (.zn zg (.ret (rT (Fin.bu jW rfl ?_))))
        exact ⟨H2,_,hle1.trans hle2,rfl,.big hea ak,hs.out⟩
       ·refine .skip (nT (.ai (.zn zg (.ret (Fin.bu jW rfl ?_)))))
        exact ⟨H2,_,hle1.trans hle2,rfl,.ok hea ⟨ak,ak⟩,hs.out⟩
theorem fI{a0 a1 a2:Int}(hs:St H w σ):Cl Tryz.prog 167 [I a0,I a1,I a2] w fun v w'=>v= .bool (decide (a1≤a0∧a0≤a2))∧St H w' σ:=by
 refine Cl.o Tryz.func167 Tryz.ntmps167 ag3 ?_
 refine .ai (.zn zg (.ai (.z zm (.z zm (.z yM (.z zm (.kF (t':=10) rfl (fun hb10=>?_) (fun hb10=>?_))))))))
 ·refine .T (.z zm (.T (.z zm (.T (.z uJ (.z zpT (.zn zg (.ret (Fin.bu Tryz.results167 rfl ?_)))))))))
  exact ⟨by simp [*],hs.out⟩
 ·refine .Fs 3 3 true (.z zpF (.zn zg (.ret (Fin.bu Tryz.results167 rfl ?_))))
  exact ⟨by simp [*],hs.out⟩
theorem FI{s:Spc}(h:eZ s):gN 9 100000 s.wa:=⟨h.wa.two,by have:=h.wa.many;omega,h.wa.low,by have:=h.wa.high;omega,h.wa.rise⟩
theorem l6{s:Spc}{r:Rdg}{vst vwa:Value}(hs:St H w σ)(h1:RI H vst s.st)(h2:RI H vwa s.wa):
  Cl Tryz.prog 150 [.agg #[I s.id,I s.src,vst,vwa,I s.al,I s.up],.agg #[I r.src,I r.st,I r.wa,I r.val,I r.tol,I r.tape,I r.day]] w fun v w'=>∃b:Bool,v= .bool b∧(b=true↔mX s r)∧St H w' σ:=by
 obtain ⟨ast,cst,rfl⟩:=RI.shape h1
 obtain ⟨awa,cwa,rfl⟩:=RI.shape h2
 have l1:=(RI.len h1).2.2
 have l2:=(RI.len h2).2.2
 refine Cl.o Tryz.func150 Tryz.ntmps150 ag2 ?_
 refine .ai (.bx hs fun b2 w hs=>?_)
 refine .bx hs fun b3 w hs=>?_
 refine .zn zg (.ai (.z (zfa fS) (.y hs (zld af) (.o (.call uH rfl (fI hs) ?_)))));rintro _ w ⟨rfl,hs⟩
 refine .z zm (.bif (t':=8) rfl (fun hb8=>?_) (fun hb8=>?_))
 ·refine .T ?_
  refine .z (zfa fR) (.T (.y hs (zld af) (.T (.z (zfa bC) (.T (.y hs (zld an) (.T (.z (cU ae) (.T (.z ib (.T (.o (.call uH rfl (fI hs) ?_)))))))))))));rintro _ w ⟨rfl,hs⟩
  refine .z zpT (.z zm (.bif (t':=17) rfl (fun hb17=>?_) (fun hb17=>?_)))
  ·refine .T ?_
   refine .z (zfa fQ) (.T (.y hs (zld af) (.T (.z (zfa bg) (.T (.y hs (zld an) (.T (.z (cU ae) (.T (.z ib (.T (.o (.call uH rfl (fI hs) ?_)))))))))))));rintro _ w ⟨rfl,hs⟩
   refine .z zpT (.z zm (.bif (t':=26) rfl (fun hb26=>?_) (fun hb26=>?_)))
   ·refine .T (.z (zfa de) (.T (.y hs (zld af) (.T (.o (.call uH rfl (fI hs) ?_))))));rintro _ w ⟨rfl,hs⟩
    refine .z zpT (.z zm (.bif (t':=31) rfl (fun hb31=>?_) (fun hb31=>?_)))
    ·refine .T (.z (zfa ep) (.T (.y hs (zld af) (.T (.z (zfa de) (.T (.y hs (zld af) (.T ?_))))))))
     have ht:0≤r.tol∧r.tol≤1000:=by simp_all
     refine .z ib (.T (.o (.call uH rfl (fI hs) ?_)));rintro _ w ⟨rfl,hs⟩
     refine .z zpT (.z zm (.bif (t':=39) rfl (fun hb39=>?_) (fun hb39=>?_)))
     ·refine .T (.z (zfa eo) (.T (.y hs (zld af) (.T (.o (.call uH rfl (fI hs) ?_))))));rintro _ w ⟨rfl,hs⟩
      refine .z zpT (.z zm (.bif (t':=44) rfl (fun hb44=>?_) (fun hb44=>?_)))
      ·refine .T (.z (zfa ek) (.T (.y hs (zld af) (.T (.o (.call uH rfl (fI hs) ?_))))));rintro _ w ⟨rfl,hs⟩
       refine .z zpT (.zn zg (.ret (Fin.bu mF rfl ?_)))
       first
       |exact ⟨false,rfl,⟨fun h=>(by cases h),fun h=>(by obtain ⟨g1,g2,g3,g4,g5,g6,g7⟩:=h;simp_all;done)⟩,hs.out⟩
       |exact ⟨_,rfl,⟨fun h=>⟨by simp_all,by simp_all,by simp_all,by simp_all,by simp_all,by simp_all,by simpa using h⟩,fun h=>by simpa using h.day⟩,hs.out⟩
      ·refine .Fs 3 39 true (.z zpF (.zn zg (.ret (Fin.bu mF rfl ?_))))
       first
       |exact ⟨false,rfl,⟨fun h=>(by cases h),fun h=>(by obtain ⟨g1,g2,g3,g4,g5,g6,g7⟩:=h;simp_all;done)⟩,hs.out⟩
       |exact ⟨_,rfl,⟨fun h=>⟨by simp_all,by simp_all,by simp_all,by simp_all,by simp_all,by simp_all,by simpa using h⟩,fun h=>by simpa using h.day⟩,hs.out⟩
     ·refine .Fs 3 34 true (.z zpF (.z zm (.Fs 3 39 true (.z zpF (.zn zg (.ret (Fin.bu mF rfl ?_)))))))
      first
      |exact ⟨false,rfl,⟨fun h=>(by cases h),fun h=>(by obtain ⟨g1,g2,g3,g4,g5,g6,g7⟩:=h;simp_all;done)⟩,hs.out⟩
      |exact ⟨_,rfl,⟨fun h=>⟨by simp_all,by simp_all,by simp_all,by simp_all,by simp_all,by simp_all,by simpa using h⟩,fun h=>by simpa using h.day⟩,hs.out⟩
    ·refine .Fs 6 26 true (.z zpF (.z zm (.Fs 3 34 true (.z zpF (.z zm (.Fs 3 39 true (.z zpF (.zn zg (.ret (Fin.bu mF rfl ?_))))))))))
     first
     |exact ⟨false,rfl,⟨fun h=>(by cases h),fun h=>(by obtain ⟨g1,g2,g3,g4,g5,g6,g7⟩:=h;simp_all;done)⟩,hs.out⟩
     |exact ⟨_,rfl,⟨fun h=>⟨by simp_all,by simp_all,by simp_all,by simp_all,by simp_all,by simp_all,by simpa using h⟩,fun h=>by simpa using h.day⟩,hs.out⟩
   ·refine .Fs 3 21 true (.z zpF (.z zm (.Fs 6 26 true (.z zpF (.z zm (.Fs 3 34 true (.z zpF (.z zm (.Fs 3 39 true (.z zpF (.zn zg (.ret (Fin.bu mF rfl ?_)))))))))))))
    first
    |exact ⟨false,rfl,⟨fun h=>(by cases h),fun h=>(by obtain ⟨g1,g2,g3,g4,g5,g6,g7⟩:=h;simp_all;done)⟩,hs.out⟩
    |exact ⟨_,rfl,⟨fun h=>⟨by simp_all,by simp_all,by simp_all,by simp_all,by simp_all,by simp_all,by simpa using h⟩,fun h=>by simpa using h.day⟩,hs.out⟩
  ·refine .Fs 7 12 true (.z zpF (.z zm (.Fs 3 21 true (.z zpF (.z zm (.Fs 6 26 true (.z zpF (.z zm (.Fs 3 34 true (.z zpF (.z zm (.Fs 3 39 true (.z zpF (.zn zg (.ret (Fin.bu mF rfl ?_))))))))))))))))
   first
   |exact ⟨false,rfl,⟨fun h=>(by cases h),fun h=>(by obtain ⟨g1,g2,g3,g4,g5,g6,g7⟩:=h;simp_all;done)⟩,hs.out⟩
   |exact ⟨_,rfl,⟨fun h=>⟨by simp_all,by simp_all,by simp_all,by simp_all,by simp_all,by simp_all,by simpa using h⟩,fun h=>by simpa using h.day⟩,hs.out⟩
 ·refine .Fs 7 3 true (.z zpF (.z zm (.Fs 7 12 true (.z zpF (.z zm (.Fs 3 21 true (.z zpF (.z zm (.Fs 6 26 true (.z zpF (.z zm (.Fs 3 34 true (.z zpF (.z zm (.Fs 3 39 true (.z zpF (.zn zg (.ret (Fin.bu mF rfl ?_)))))))))))))))))))
  first
  |exact ⟨false,rfl,⟨fun h=>(by cases h),fun h=>(by obtain ⟨g1,g2,g3,g4,g5,g6,g7⟩:=h;simp_all;done)⟩,hs.out⟩
  |exact ⟨_,rfl,⟨fun h=>⟨by simp_all,by simp_all,by simp_all,by simp_all,by simp_all,by simp_all,by simpa using h⟩,fun h=>by simpa using h.day⟩,hs.out⟩
theorem fX{s:Spc}{vst vwa:Value}(hs:St H w σ)(h1:RI H vst s.st)(h2:RI H vwa s.wa)(hb:s.st.length≤1000∧s.wa.length≤1000):
  Cl Tryz.prog 94 [.agg #[I s.id,I s.src,vst,vwa,I s.al,I s.up]] w fun v w'=>v=I (s.many:Int)∧St H w' σ:=by
 obtain ⟨ast,cst,rfl⟩:=RI.shape h1
 obtain ⟨awa,cwa,rfl⟩:=RI.shape h2
 have hm:=kV (a:=(s.st.length:Int)) (b:=(s.wa.length:Int)) (A:=1000) (B:=1000) ak ak
 refine Cl.o Tryz.func94 Tryz.ntmps94 ag1 ?_
 refine .ai (.bx hs fun b1 w hs=>?_)
 refine .zn zg (.ai (.z (zfa bC) (.y hs (zld an) (.z (cU ae) (.z (zfa bg) (.y hs (zld an) (.z (cU ae) (.z kM (.zn zg (.ret (Fin.bu Tryz.results94 rfl ?_)))))))))))
 exact ⟨by unfold Spc.many;rw [Int.natCast_mul],hs.out⟩
theorem dB{s:Spc}{vst vwa:Value}{a b:Int}(hs:St H w σ)(h2:RI H vwa s.wa)(hb:s.wa.length≤1000)(ha: -1000≤a∧a≤1000)(hb': -1000≤b∧b≤1000):
  Cl Tryz.prog 93 [.agg #[I s.id,I s.src,vst,vwa,I s.al,I s.up],I a,I b] w fun v w'=>v=I (1+a*s.wa.length+b)∧St H w' σ:=by
 obtain ⟨awa,cwa,rfl⟩:=RI.shape h2
 have hm:=kV (a:=a) (b:=(s.wa.length:Int)) (A:=1000) (B:=1000) ak ak
 refine Cl.o Tryz.func93 Tryz.ntmps93 ag3 ?_
 refine .ai (.bx hs fun b3 w hs=>?_)
 refine .zn zg (.ai (.z zm (.z (zfa bg) (.y hs (zld an) (.z (cU ae) (.z kM (.z cq (.z zm (.z cq (.zn zg (.ret (Fin.bu Tryz.results93 rfl ?_))))))))))))
 exact ⟨rfl,hs.out⟩
theorem lM{a b:Int}(hs:St H w σ)(ha:0≤a∧a≤100000)(hb:0≤b∧b≤100000):
  Cl Tryz.prog 211 [I a,I b] w fun v w'=>v=I (jK a b)∧St H w' σ:=by
 have hm:=kV (a:=a) (b:=b) (A:=100000) (B:=100000) ak ak
 have h0:=Int.mul_nonneg ha.1 hb.1
 have hq0:0≤(a*b+999).tdiv 1000:=Int.tdiv_nonneg ak ak
 have hq1:(a*b+999).tdiv 1000≤a*b+999:=by rw [Int.tdiv_eq_ediv_of_nonneg ak];omega
 refine Cl.o Tryz.func211 Tryz.ntmps211 ag2 ?_
 refine .ai (.zn zg (.ai (.z zm (.z zm (.z kM (.z cq (.q hs (xI rfl rfl ak ak) (.z Bj (.zn zg (.ret (Fin.bu Tryz.results211 rfl ?_)))))))))))
 exact ⟨rfl,hs⟩
theorem km{a b m s:Int}(hs:St H w σ):
  Cl Tryz.prog 210 [I a,I b,I m,I s] w fun v w'=>∃b0,v= .slice (some ⟨b0,0,none⟩) 2 2∧St H w' (.blk b0 (fT (two a b m m s))::σ):=by
 refine Cl.o Tryz.func210 Tryz.ntmps210 ag4 ?_
 refine .ai (.zn zg (.ai (.z zm (.z zm (.z zm (.z zm (.z (zbd [_,_,_,_] dV) (.z zm (.z zm (.z zm (.z zm (.z (zbd [_,_,_,_] dV) (.o (.buildSlice (cells:=fT (two a b m m s)) hs eY rfl aE fun b19 w hs=>?_))))))))))))))
 refine .zn zg (.ret (Fin.bu Tryz.results210 rfl ?_))
 exact ⟨b19,rfl,hs⟩
theorem tG{c:Cmp}{t:TD}{f:Int}(hs:St H w σ)(hlo: -1000000≤c.lo∧c.lo≤1000000):
  Cl Tryz.prog 212 [.agg #[I c.src,I c.tape,I c.fr,I c.to,I c.lo,I c.hi],.agg #[I t.tape,I t.day],I f] w fun v w'=>∃en,bS 4 v (fT (k9 c t f)) en∧St H w' (en::σ):=by
 refine Cl.o Tryz.func212 Tryz.ntmps212 ag3 ?_
 refine .ai (.bx hs fun b3 w hs=>?_)
 refine .bx hs fun b4 w hs=>?_
 refine .zn zg (.seq (.ai (.z (zfa jQ) (.y hs (zld af) (.z (zfa mA) (.y hs (zld af) (.z gg (.z zm (.Dj (t':=12) rfl (fun hb12=>?_) (fun hb12=>?_))))))))))
 ·refine .Fs 5 5 false (.z zpT (.z zm (.Fs 5 12 false (.zn zpT (.cT (.ai (.zn zg (.ret (rT (Fin.bu Tryz.results212 rfl ?_))))))))))
  exact ⟨.nul,by unfold k9;rw [if_neg ak];exact .nil 4 none,hs.tail.tail.nul⟩
 ·refine .T (.z (zfa jN) (.T (.y hs (zld af) (.T (.z (zfa jP) (.T (.y hs (zld af) (.T (.z iJ (.z zpF (.z zm (.kF (t':=19) rfl (fun hb19=>?_) (fun hb19=>?_)))))))))))))
  ·refine .Fs 5 12 false (.zn zpT (.cT (.ai (.zn zg (.ret (rT (Fin.bu Tryz.results212 rfl ?_)))))))
   exact ⟨.nul,by unfold k9;rw [if_neg ak];exact .nil 4 none,hs.tail.tail.nul⟩
  ·refine .T (.z (zfa jN) (.T (.y hs (zld af) (.T (.z (zfa im) (.T (.y hs (zld af) (.T (.z pQ (.zn zpF (.bO rfl (fun hc25=>?_) (fun hc25=>?_))))))))))))
   ·refine .ai (.zn zg (.ret (rT (Fin.bu Tryz.results212 rfl ?_))))
    exact ⟨.nul,by unfold k9;rw [if_neg ak];exact .nil 4 none,hs.tail.tail.nul⟩
   ·refine .skip (nT (.ai (.z zm (.z (zfa jO) (.y hs (zld af) (.z Di (.z (zfa iq) (.y hs (zld af) (.z (zbd [_,_,_,_] dV) (.z zm (.z (zfa ik) (.y hs (zld af) (.z (zfa iq) (.y hs (zld af) (.z (zbd [_,_,_,_] dV) (.o (.buildSlice (cells:=fT (two 0 f (-c.lo) c.hi c.src)) hs eY rfl aE fun b39 w hs=>?_)))))))))))))))))
    refine .zn zg (.ret (Fin.bu Tryz.results212 rfl ?_))
    exact ⟨_,by unfold k9;rw [if_pos ak];exact .full (by simp [two,eu]),hs.sb⟩
theorem jI{v:Value}{xs:List TD}{t:TD}(hs:St H w σ)(hr:RTd H v xs)(hl:xs.length≤1000000):
  Cl Tryz.prog 95 [v,.agg #[I t.tape,I t.day]] w fun u w'=>u=I (jH xs t)∧St H w' σ:=by
 obtain ⟨a,c,rfl⟩:=RTd.shape hr
 refine Cl.o Tryz.func95 Tryz.ntmps95 ag2 ?_
 refine .ai (.bx hs fun b3 w hs=>?_)
 refine .zn zg (.seq (.ai (.zn zg (.block ?_))))
 refine .loop (fun k:Nat=>⟨19,[],[(5,I (k:Int)),(3,Pt b3),(0,.slice a xs.length c)]⟩)
  (fun k w=>k≤xs.length∧(∀j<k,∀y,xs[j]? =some y→¬y=t)∧St H w (.blk b3 [I t.tape,I t.day]::σ)) (fun k=>xs.length - k) 0 (.dy rfl bV bn)
  ⟨Nat.zero_le _,fun j hj=>by omega,hs⟩ ?_
 rintro k w ⟨hk,hno,hs⟩
 refine .seq (.ai (.z zm (.z zm (.z (cU a6) (.zn iJ (.bO rfl (fun hc9=>?_) (fun hc9=>?_)))))))
 ·refine .skip (nT (.seq (.block (.seq (.draw mix rfl hs fun w hs=>?_)))))
  refine .zw 0 rfl zm ?_;refine .z 1 rfl zm ?_
  obtain ⟨x,hx⟩:=nth (l:=xs) (k:=k) ak
  refine .ixX (enc:=TD.c) (i:=2) hs rfl aE .none hr rfl rfl a6 bk hx df ?_;intro b14 o14 hc14
  refine .r (i:=3) hs rfl aE .none (bI (vs:=x.c) rfl dA bk hc14) ?_
  refine .zv 4 rfl hs (Cq [_,_] dA bk) ?_
  refine .z 5 rfl (xK sW sX gS (fun f hf=>by
   simp only [List.mem_cons,List.not_mem_nil,or_false] at hf
   rcases hf with rfl|rfl<;>exact ⟨by decide,aV,af⟩) rfl rfl) ?_
  refine .D hs (.cond rfl (fun hc17=>?_) (fun hc17=>?_))
  ·refine .ai (.z zm (.zn zg (.ret (rB (rT (rT (rB (rT (Fin.bu Tryz.results95 rfl ?_)))))))))
   have e:x=t:=Dz.1 (of_decide_eq_true hc17)
   subst e
   exact ⟨by rw [pV hx fun j hj h=>hno j hj _ h rfl],hs.tail⟩
  ·refine .skip (nB (nT (.region (.z zm (.z cq (.zn zg (nT ?_)))))))
   exact ⟨k+1,.dy rfl bV bn,⟨ak,eT hno hx (fun e=>by subst e;simp at hc17),hs⟩,ak⟩
 ·refine .exit (xT (xT (xB (nT (.ai (.zn zg (.ret (Fin.bu Tryz.results95 rfl ?_))))))))
  obtain rfl:k=xs.length:=by omega
  exact ⟨by rw [wm hno],hs.tail⟩
theorem ng{v:Value}{en:Ent}{xs:List TD}{t:TD}(hs:St H w (en::σ))(hO:bS 2 v (tdc xs).flatten en)(hl:xs.length≤1000000):
  Cl Tryz.prog 95 [v,.agg #[I t.tape,I t.day]] w fun u w'=>u=I (jH xs t)∧St H w' (en::σ):=by
 obtain ⟨a,c,rfl⟩:=hO.lK (oY xs) ak
 rw [dR] at hO ⊢
 refine Cl.o Tryz.func95 Tryz.ntmps95 ag2 ?_
 refine .ai (.bx hs fun b3 w hs=>?_)
 refine .zn zg (.seq (.ai (.zn zg (.block ?_))))
 refine .loop (fun k:Nat=>⟨19,[],[(5,I (k:Int)),(3,Pt b3),(0,.slice a xs.length c)]⟩)
  (fun k w=>k≤xs.length∧(∀j<k,∀y,xs[j]? =some y→¬y=t)∧St H w (.blk b3 [I t.tape,I t.day]::en::σ)) (fun k=>xs.length - k) 0 (.dy rfl bV bn)
  ⟨Nat.zero_le _,fun j hj=>by omega,hs⟩ ?_
 rintro k w ⟨hk,hno,hs⟩
 refine .seq (.ai (.z zm (.z zm (.z (cU a6) (.zn iJ (.bO rfl (fun hc9=>?_) (fun hc9=>?_)))))))
 ·refine .skip (nT (.seq (.block (.seq (.draw mix rfl hs fun w hs=>?_)))))
  refine .zw 0 rfl zm ?_;refine .z 1 rfl zm ?_
  obtain ⟨x,hx⟩:=nth (l:=xs) (k:=k) ak
  obtain ⟨b,c',sp,hv,rfl,_⟩:=hO.Iv (oY xs) ak (by rw [dR];omega)
  rw [dR] at hv
  cases hv
  refine .zw 2 rfl (AA a6 bk) (.AX (i:=3) (vs:=x.c) hs rfl aE .none rfl dA bk ?_ (hv:=Ca (oY xs) (BA hx) sp))
  refine .zv 4 rfl hs (Cq [_,_] dA bk) ?_
  refine .z 5 rfl (xK sW sX gS (fun f hf=>by
   simp only [List.mem_cons,List.not_mem_nil,or_false] at hf
   rcases hf with rfl|rfl<;>exact ⟨by decide,aV,af⟩) rfl rfl) ?_
  refine .D hs (.cond rfl (fun hc17=>?_) (fun hc17=>?_))
  ·refine .ai (.z zm (.zn zg (.ret (rB (rT (rT (rB (rT (Fin.bu Tryz.results95 rfl ?_)))))))))
   have e:x=t:=Dz.1 (of_decide_eq_true hc17)
   subst e
   exact ⟨by rw [pV hx fun j hj h=>hno j hj _ h rfl],hs.tail⟩
  ·refine .skip (nB (nT (.region (.z zm (.z cq (.zn zg (nT ?_)))))))
   exact ⟨k+1,.dy rfl bV bn,⟨ak,eT hno hx (fun e=>by subst e;simp at hc17),hs⟩,ak⟩
 ·refine .exit (xT (xT (xB (nT (.ai (.zn zg (.ret (Fin.bu Tryz.results95 rfl ?_))))))))
  obtain rfl:k=xs.length:=by omega
  exact ⟨by rw [wm hno],hs.tail⟩
set_option maxHeartbeats 1000000 in
theorem ij{vr:Value}{rs:List Rdg}(hs:St H w σ)(hr:RRd H vr rs)(hl:rs.length≤1000000):
  Cl Tryz.prog 96 [vr] w fun u w'=>∃H1,HLe H H1∧RTd H1 u (aT rs)∧St H1 w' σ:=by
 obtain ⟨ar,cr,rfl⟩:=RRd.shape hr
 refine Cl.o Tryz.func96 Tryz.ntmps96 ag1 ?_
 refine .ai (.zn zg (.ai (.zn zg (.seq (.ai (.zn zg (.block ?_)))))))
 refine .loop (fun p:Nat×Value=>⟨32,[],[(4,I (p.1:Int)),(3,p.2),(0,.slice ar rs.length cr)]⟩)
  (fun p w=>p.1≤rs.length∧∃en,bS 2 p.2 (tdc (aT (rs.take p.1))).flatten en∧St H w (en::σ)) (fun p=>rs.length - p.1) (0,.slice none 0 0) bn
  ⟨Nat.zero_le _,_,.nil 2 none,hs.nul⟩ ?_
 rintro ⟨k,vo⟩ w ⟨hk,en,hO,hs⟩
 dsimp only at hk hO ⊢
 have htl:=kj rs k ak
 obtain ⟨ao,co,rfl⟩:=hO.lK (oY _) ak
 rw [dR] at hO ⊢
 refine .seq (.ai (.z zm (.z zm (.z (cU aO) (.zn iJ (.bO rfl (fun hc9=>?_) (fun hc9=>?_)))))))
 ·refine .skip (nT (.seq (.block (.seq (.draw mix rfl hs fun w hs=>?_)))))
  refine .zw 0 rfl zm ?_;refine .z 1 rfl zm ?_
  obtain ⟨r,hx⟩:=nth (l:=rs) (k:=k) ak
  have htk:=jk hx
  refine .ixX (enc:=Rdg.c) (i:=2) hs rfl aE .none hr rfl rfl aO a8 hx df ?_;intro b14 o14 hc14
  have d14:cellAt H b14 (o14+5)=some (I r.tape):=hc14 5 _ rfl
  refine .zw 3 rfl (zfa eo) ?_;refine .y 4 rfl hs af ?_;refine .z 5 rfl zm ?_;refine .z 6 rfl zm ?_
  refine .ixX (enc:=Rdg.c) (i:=7) hs rfl aE .none hr rfl rfl aO a8 hx df ?_;intro b19 o19 hc19
  have d19:cellAt H b19 (o19+6)=some (I r.day):=hc19 6 _ rfl
  refine .zw 8 rfl (zfa ek) ?_;refine .y 9 rfl hs af ?_;refine .z 10 rfl (zbd [_,_] gL) ?_
  refine .E 11 hs ?_
  refine .alloc hs kg rfl ?_;intro b5 w hs
  refine .go (.E 12 hs ?_)
  refine .aH (vs:=[_,_]) hs rfl rfl bk ?_;intro w hs
  refine .go (.D hs (.ai (.z zm (.y hs (zls [_,_] dA bk) (.o (.call Tryz.call95 rfl (ng (t:=r.td) (hs.sb:St H w (en:: .blk b5 [I r.tape,I r.day]::σ)) hO ak) ?_))))));rintro _ w ⟨rfl,hs⟩
  have hnn:=rN (l:=aT (rs.take k)) (t:=r.td)
  refine .zn iJ (.bO rfl (fun hc26=>?_) (fun hc26=>?_))
  ·refine .region (.z zm (.y hs (zls [_,_] dA bk) (.o (.buildSlice (cells:=[_,_]) hs gZ rfl rfl fun b29 w hs=>?_))))
   refine .o (.append (ys:=r.td.c) hs dZ rfl rfl hO (.own .here rfl rfl) (by simp [TD.c,Value.oneCell']) (fun l h=>by rw [cK _ (oY _),dR] at h;omega) ?_);intro v30 en30 w hO2 hs
   refine .zn zg (nB (nT (.region (.z zm (.z cq (.zn zg (nT ?_)))))))
   have hn:r.td∉aT (rs.take k):=fun hm=>by have:=hnn.2 hm;omega
   rw [←wk,show aT (rs.take k)++[r.td]=aT (rs.take (k+1)) by rw [htk];unfold qH;rw [if_neg hn]] at hO2
   exact ⟨(k+1,v30),.dy rfl bV bn,⟨by dsimp only;omega,_,hO2,hs.sb⟩,by dsimp only;omega⟩
  ·refine .skip (nB (nT (.region (.z zm (.z cq (.zn zg (nT ?_)))))))
   have hm:r.td∈aT (rs.take k):=hnn.1 ak
   exact ⟨(k+1,_),.dy rfl bV bn,⟨by dsimp only;omega,en,by dsimp only;rw [htk];unfold qH;rw [if_pos hm];exact hO,hs.sb⟩,by dsimp only;omega⟩
 ·refine .exit (xT (xT (xB (nT (.ai (.z zm (.zn zg (.ret (Fin.bu Tryz.results96 rfl ?_)))))))))
  obtain rfl:k=rs.length:=by omega
  rw [List.take_length] at hO
  have htl:=dn rs
  obtain ⟨H2,hle2,hR,hs⟩:=bS.bU (m:=2) (cs:=tdc (aT rs)) hO (oY _) ak (by rw [dR];omega) hs .here
  rw [List.take_length]
  exact ⟨H2,hle2,hR,hs⟩
theorem Bs(s:Spc)(i k:Nat):1+(i:Int)*(s.wa.length:Int)+(k:Int)=(s.u i k:Int):=by
 unfold Spc.u;rw [Int.natCast_add,Int.natCast_add,Int.natCast_mul];rfl
theorem G0(s:Spc)(i k:Nat):1+((i:Int)+1)*(s.wa.length:Int)+(k:Int)=(s.u (i+1) k:Int):=by
 rw [←Bs];rfl
theorem GZ(s:Spc)(i k:Nat):1+(i:Int)*(s.wa.length:Int)+((k:Int)+1)=(s.u i (k+1):Int):=by
 rw [←Bs];rfl
theorem kU{f:Nat→Nat→List Lim}(hf:∀i k,(f i k).length≤2)(i:Nat):∀k,(lQ f i k).length≤2*k
 |0=>by simp [lQ]
 |k+1=>by have:=kU hf i k;have:=hf i k;simp only [lQ,List.length_append];omega
theorem lP{f:Nat→Nat→List Lim}(hf:∀i k,(f i k).length≤2){m n:Nat}(hm:m≤7)(hn:n≤9)(h0:0<m):(dS f m n).length≤126:=by
 have h1:=gE hf (n:=n) h0
 have:n*m≤9*7:=Nat.mul_le_mul hn hm
 omega
theorem Gu{s:Spc}(h0:0<s.st.length):dS (alL s) s.wa.length s.st.length=dS (alL s) s.wa.length (s.st.length - 1):=by
 obtain ⟨n,hn⟩:∃n,s.st.length=n+1:=⟨s.st.length - 1,ak⟩
 have key:∀k,lQ (alL s) n k=[]:=by
  intro k
  induction k with
  |zero=>rfl
  |succ k ih=>simp only [lQ];rw [ih];unfold alL;rw [if_neg ak];rfl
 rw [hn,Nat.add_sub_cancel]
 simp only [dS]
 rw [key,List.append_nil]
theorem Fz{s:Spc}(i:Nat)(h0:0<s.wa.length):lQ (upL s) i s.wa.length=lQ (upL s) i (s.wa.length - 1):=by
 obtain ⟨n,hn⟩:∃n,s.wa.length=n+1:=⟨s.wa.length - 1,ak⟩
 have e:upL s i n=[]:=by unfold upL;rw [if_neg ak]
 rw [hn,Nat.add_sub_cancel]
 simp only [lQ]
 rw [e,List.append_nil]
set_option maxHeartbeats 4000000 in
theorem sr{s:Srv}{vst vwa vr vc:Value}(hs:St H w σ)(h1:RI H vst s.sp.st)(h2:RI H vwa s.sp.wa)(h3:RRd H vr s.rs)(h4:RCm H vc s.cs)(he:s.early):
  Cl Tryz.prog 152 [.agg #[I s.sp.id,I s.sp.src,vst,vwa,I s.sp.al,I s.sp.up,vr,vc]] w fun u w'=>∃H1 en,HLe H H1∧bS 4 u (fT s.bY) en∧St H1 w' (en::σ):=by
 obtain ⟨ast,cst,rfl⟩:=RI.shape h1
 obtain ⟨awa,cwa,rfl⟩:=RI.shape h2
 obtain ⟨ar,cr,rfl⟩:=RRd.shape h3
 obtain ⟨ac,cc,rfl⟩:=RCm.shape h4
 obtain ⟨hok,hrl,hcl,hrs,hcs⟩:=he
 have hsm:=dX hok
 have hn1:=hok.st.many
 have hn2:=hok.wa.many
 have hn3:=hok.st.two
 have hn4:=hok.wa.two
 have ha:=lP (od s.sp) (m:=s.sp.wa.length) (n:=s.sp.st.length) ak ak ak
 have hb:=lP (rI s.sp) (m:=s.sp.wa.length) (n:=s.sp.st.length) ak ak ak
 have hc:=lP (qW s.sp) (m:=s.sp.wa.length) (n:=s.sp.st.length) ak ak ak
 have hal:=hok.al
 have hup:=hok.up
 refine Cl.o Tryz.func152 Tryz.ntmps152 ag1 ?_
 refine .ai (.bx hs fun b1 w hs=>?_)
 refine .zn zg (.ai (.z (zfa bj) (.y hs (zls [_,_,_,_,_,_] aM aD) (.o (.alloc hs iV rfl fun b3 w hs=>?_)))))
 refine .o (.aH (vs:=[_,_,_,_,_,_]) hs rfl rfl aD fun w hs=>?_)
 refine .nil (.ai (.zn zg (.seq (.ai (.zn zg (.block ?_))))))
 refine .loop (fun p:Nat×Value=>⟨243,[],[(5,I (p.1:Int)),(4,p.2),(3,Pt b3),(1,Pt b1)]⟩)
  (fun p w=>p.1≤s.sp.st.length∧∃en,bS 4 p.2 (fT (dS (qL s.sp) s.sp.wa.length p.1)) en∧St H w (en:: .blk b3 [I s.sp.id,I s.sp.src,.slice ast s.sp.st.length cst,.slice awa s.sp.wa.length cwa,I s.sp.al,I s.sp.up]:: .blk b1 [I s.sp.id,I s.sp.src,.slice ast s.sp.st.length cst,.slice awa s.sp.wa.length cwa,I s.sp.al,I s.sp.up,.slice ar s.rs.length cr,.slice ac s.cs.length cc]::σ)) (fun p=>s.sp.st.length - p.1) (0,.slice none 0 0) bn
  ⟨by first|omega|exact Nat.zero_le _,_,.nil 4 none,hs.nul⟩ ?_
 rintro ⟨i,vo⟩ w ⟨hi,en,hO,hs⟩
 dsimp only at hi hO ⊢
 refine .seq (.ai (.z zm (.z (zfa bC) (.y hs (zld an) (.z (cU ae) (.zn iJ (.bO rfl (fun hc27=>?_) (fun hc27=>?_))))))))
 ·refine .skip (nT (.seq (.block (.ai (.zn zg (.block ?_))))))
  refine .loop (fun p:Nat×Value=>⟨243,[],[(6,I (p.1:Int)),(4,p.2),(5,I (i:Int)),(3,Pt b3),(1,Pt b1)]⟩)
   (fun p w=>p.1≤s.sp.wa.length∧∃en,bS 4 p.2 (fT (dS (qL s.sp) s.sp.wa.length i++lQ (qL s.sp) i p.1)) en∧St H w (en:: .blk b3 [I s.sp.id,I s.sp.src,.slice ast s.sp.st.length cst,.slice awa s.sp.wa.length cwa,I s.sp.al,I s.sp.up]:: .blk b1 [I s.sp.id,I s.sp.src,.slice ast s.sp.st.length cst,.slice awa s.sp.wa.length cwa,I s.sp.al,I s.sp.up,.slice ar s.rs.length cr,.slice ac s.cs.length cc]::σ)) (fun p=>s.sp.wa.length - p.1) (0,vo) bn
   ⟨by first|omega|exact Nat.zero_le _,en,by show bS 4 vo (fT (_++[])) en;rw [List.append_nil];exact hO,hs⟩ ?_
  clear hO hs
  rintro ⟨k,vo⟩ w ⟨hk,en,hO,hs⟩
  dsimp only at hk hO ⊢
  have hl1:=lP (od s.sp) (m:=s.sp.wa.length) (n:=i) ak ak ak
  have hl2:=kU (od s.sp) i k
  refine .seq (.ai (.z zm (.z (zfa bg) (.y hs (zld an) (.z (cU ae) (.zn iJ (.bO rfl (fun hc34=>?_) (fun hc34=>?_))))))))
  ·refine .skip (nT (.seq (.block (.ai (.y hs (zls [_,_,_,_,_,_] aM aD) (.z zm (.z zm (.o (.call rM rfl (dB (s:=s.sp) hs h2 ak ⟨ak,ak⟩ ⟨ak,ak⟩) ?_)))))))));rintro _ w ⟨rfl,hs⟩
   rw [Bs]
   refine .zn zg (.region (.z zm (.z zm (.z (zfa dH) (.y hs (zld af) (.z (zbd [_,_,_,_] dV) (.z zm (.z (zfa dH) (.y hs (zld af) (.z (zbd [_,_,_,_] dV) (.o (.buildSlice (cells:=fT (qL s.sp i k)) hs eY rfl aE fun b50 w hs=>?_))))))))))))
   refine .o (.append (ys:=fT (qL s.sp i k)) hs bQ rfl rfl hO (.own .here rfl rfl) (kD _) (fun l h=>by rw [eu,List.length_append] at h;omega) ?_);intro v51 en51 w hO2 hs
   rw [←gO,List.append_assoc] at hO2
   refine .zn zg (nB (nT (.region (.z zm (.z cq (.zn zg (nT ?_)))))))
   exact ⟨(k+1,v51),.dy rfl bV bn,⟨by dsimp only;omega,_,hO2,hs.sb⟩,by dsimp only;omega⟩
  ·refine .exit (xT (xT (xB (nB (nT (.region (.z zm (.z cq (.zn zg (nT ?_))))))))))
   obtain rfl:k=s.sp.wa.length:=by omega
   exact ⟨(i+1,_),.dy rfl bV bn,⟨by dsimp only;omega,en,hO,hs⟩,by dsimp only;omega⟩
 ·refine .exit (xT (xT (xB (nT (.seq (.ai (.zn zg (.block ?_))))))))
  refine .loop (fun p:Nat×Value=>⟨243,[],[(8,I (p.1:Int)),(4,p.2),(3,Pt b3),(1,Pt b1)]⟩)
   (fun p w=>p.1+1≤s.sp.st.length∧∃en,bS 4 p.2 (fT (dS (qL s.sp) s.sp.wa.length s.sp.st.length++dS (alL s.sp) s.sp.wa.length p.1)) en∧St H w (en:: .blk b3 [I s.sp.id,I s.sp.src,.slice ast s.sp.st.length cst,.slice awa s.sp.wa.length cwa,I s.sp.al,I s.sp.up]:: .blk b1 [I s.sp.id,I s.sp.src,.slice ast s.sp.st.length cst,.slice awa s.sp.wa.length cwa,I s.sp.al,I s.sp.up,.slice ar s.rs.length cr,.slice ac s.cs.length cc]::σ)) (fun p=>s.sp.st.length - p.1) (0,vo) bn
   ⟨by first|omega|exact Nat.zero_le _,en,by show bS 4 vo (fT (_++[])) en;rw [List.append_nil,←show i=s.sp.st.length by omega];exact hO,hs⟩ ?_
  clear hO hs
  rintro ⟨i,vo⟩ w ⟨hi,en,hO,hs⟩
  dsimp only at hi hO ⊢
  refine .seq (.ai (.z zm (.z cq (.z (zfa bC) (.y hs (zld an) (.z (cU ae) (.zn iJ (.bO rfl (fun hc57=>?_) (fun hc57=>?_)))))))))
  ·refine .skip (nT (.seq (.block (.ai (.zn zg (.block ?_))))))
   refine .loop (fun p:Nat×Value=>⟨243,[],[(9,I (p.1:Int)),(4,p.2),(8,I (i:Int)),(3,Pt b3),(1,Pt b1)]⟩)
    (fun p w=>p.1≤s.sp.wa.length∧∃en,bS 4 p.2 (fT (dS (qL s.sp) s.sp.wa.length s.sp.st.length++dS (alL s.sp) s.sp.wa.length i++lQ (alL s.sp) i p.1)) en∧St H w (en:: .blk b3 [I s.sp.id,I s.sp.src,.slice ast s.sp.st.length cst,.slice awa s.sp.wa.length cwa,I s.sp.al,I s.sp.up]:: .blk b1 [I s.sp.id,I s.sp.src,.slice ast s.sp.st.length cst,.slice awa s.sp.wa.length cwa,I s.sp.al,I s.sp.up,.slice ar s.rs.length cr,.slice ac s.cs.length cc]::σ)) (fun p=>s.sp.wa.length - p.1) (0,vo) bn
    ⟨by first|omega|exact Nat.zero_le _,en,by show bS 4 vo (fT (_++[])) en;rw [List.append_nil];exact hO,hs⟩ ?_
   clear hO hs
   rintro ⟨k,vo⟩ w ⟨hk,en,hO,hs⟩
   dsimp only at hk hO ⊢
   have hl1:=lP (rI s.sp) (m:=s.sp.wa.length) (n:=i) ak ak ak
   have hl2:=kU (rI s.sp) i k
   refine .seq (.ai (.z zm (.z (zfa bg) (.y hs (zld an) (.z (cU ae) (.zn iJ (.bO rfl (fun hc64=>?_) (fun hc64=>?_))))))))
   ·refine .skip (nT (.seq (.block (.draw mix rfl hs fun w hs=>?_))))
    refine .zw 0 rfl zm ?_;refine .ys 1 rfl hs [_,_,_,_,_,_] aM aD ?_;refine .z 2 rfl zm ?_;refine .z 3 rfl zm ?_;refine .ys 5 rfl hs [_,_,_,_,_,_] aM aD ?_;refine .z 6 rfl zm ?_;refine .z 7 rfl cq ?_;refine .z 8 rfl zm ?_;refine .z 10 rfl (zfa ff) ?_;refine .z 11 rfl (zfa mg) ?_
    refine .y 12 rfl hs af ?_;refine .z 13 rfl (zfa bC) ?_;refine .y 14 rfl hs an ?_;refine .z 15 rfl zm ?_;refine .z 16 rfl cq ?_
    have hris:=hok.st.rise i ak
    have hq0:=hok.st.bd (i:=i) ak
    have hq1:=hok.st.bd (i:=i+1) ak
    refine .ixX (enc:=fun x=>[I x]) (i:=17) hs rfl aE .none h1 rfl rfl ae aj (bB (l:=s.sp.st) (i:=(i+1)) ak) df ?_;intro b84 o84 hc84;replace hc84:=bK.one hc84
    refine .r (i:=18) hs rfl aE .none (aQ rfl af hc84) ?_
    refine .zw 19 rfl (zfa bC) ?_;refine .y 20 rfl hs an ?_;refine .z 21 rfl zm ?_
    refine .ixX (enc:=fun x=>[I x]) (i:=22) hs rfl aE .none h1 rfl rfl ae aj (bB (l:=s.sp.st) (i:=i) ak) df ?_;intro b89 o89 hc89;replace hc89:=bK.one hc89
    refine .r (i:=23) hs rfl aE .none (aQ rfl af hc89) ?_
    refine .zw 24 rfl ib ?_;refine .z 26 rfl (zfa dH) ?_;refine .y 27 rfl hs af ?_
    refine .E 4 hs ?_
    refine .call rM rfl (dB (s:=s.sp) hs h2 ak ⟨ak,ak⟩ ⟨ak,ak⟩) ?_;rintro _ w ⟨rfl,hs⟩
    rw [Bs]
    refine .go (.E 9 hs ?_)
    refine .call rM rfl (dB (s:=s.sp) hs h2 ak ⟨ak,ak⟩ ⟨ak,ak⟩) ?_;rintro _ w ⟨rfl,hs⟩
    rw [G0]
    refine .go (.E 25 hs ?_)
    refine .call Tryz.call211 rfl (lM hs ak ak) ?_;rintro _ w ⟨rfl,hs⟩
    refine .go (.E 28 hs ?_)
    refine .call Tryz.call210 rfl (km hs) ?_;rintro _ w ⟨b95,rfl,hs⟩
    rw [show two (s.sp.u i k:Int) _ _ _ _=alL s.sp i k by unfold alL;rw [if_pos ak]] at hs
    refine .go (.E 29 hs ?_)
    refine .append (ys:=fT (alL s.sp i k)) hs bQ rfl rfl hO (.own .here bV (by rw [eu];unfold alL;rw [if_pos ak];rfl)) (kD _) (fun l h=>by rw [eu] at h;simp only [List.length_append] at h;omega) ?_;intro v96 en96 w hO2 hs
    rw [←gO,List.append_assoc _ (lQ _ _ _)] at hO2
    refine .go (.zw 30 rfl zg ?_);refine .D hs ?_
    refine nB (nT (.region (.z zm (.z cq (.zn zg (nT ?_))))))
    exact ⟨(k+1,v96),.dy rfl bV bn,⟨by dsimp only;omega,_,hO2,hs.sb⟩,by dsimp only;omega⟩
   ·refine .exit (xT (xT (xB (nB (nT (.region (.z zm (.z cq (.zn zg (nT ?_))))))))))
    obtain rfl:k=s.sp.wa.length:=by omega
    rw [List.append_assoc] at hO
    exact ⟨(i+1,_),.dy rfl bV bn,⟨by dsimp only;omega,en,hO,hs⟩,by dsimp only;omega⟩
  ·refine .exit (xT (xT (xB (nT (.seq (.ai (.zn zg (.block ?_))))))))
   refine .loop (fun p:Nat×Value=>⟨243,[],[(10,I (p.1:Int)),(4,p.2),(3,Pt b3),(1,Pt b1)]⟩)
    (fun p w=>p.1≤s.sp.st.length∧∃en,bS 4 p.2 (fT (dS (qL s.sp) s.sp.wa.length s.sp.st.length++dS (alL s.sp) s.sp.wa.length s.sp.st.length++dS (upL s.sp) s.sp.wa.length p.1)) en∧St H w (en:: .blk b3 [I s.sp.id,I s.sp.src,.slice ast s.sp.st.length cst,.slice awa s.sp.wa.length cwa,I s.sp.al,I s.sp.up]:: .blk b1 [I s.sp.id,I s.sp.src,.slice ast s.sp.st.length cst,.slice awa s.sp.wa.length cwa,I s.sp.al,I s.sp.up,.slice ar s.rs.length cr,.slice ac s.cs.length cc]::σ)) (fun p=>s.sp.st.length - p.1) (0,vo) bn
    ⟨by first|omega|exact Nat.zero_le _,en,by show bS 4 vo (fT (_++[])) en;rw [List.append_nil,Gu ak,←show i=s.sp.st.length - 1 by omega];exact hO,hs⟩ ?_
   clear hO hs
   rintro ⟨i,vo⟩ w ⟨hi,en,hO,hs⟩
   dsimp only at hi hO ⊢
   refine .seq (.ai (.z zm (.z (zfa bC) (.y hs (zld an) (.z (cU ae) (.zn iJ (.bO rfl (fun hc101=>?_) (fun hc101=>?_))))))))
   ·refine .skip (nT (.seq (.block (.ai (.zn zg (.block ?_))))))
    refine .loop (fun p:Nat×Value=>⟨243,[],[(11,I (p.1:Int)),(4,p.2),(10,I (i:Int)),(3,Pt b3),(1,Pt b1)]⟩)
     (fun p w=>p.1+1≤s.sp.wa.length∧∃en,bS 4 p.2 (fT (dS (qL s.sp) s.sp.wa.length s.sp.st.length++dS (alL s.sp) s.sp.wa.length s.sp.st.length++dS (upL s.sp) s.sp.wa.length i++lQ (upL s.sp) i p.1)) en∧St H w (en:: .blk b3 [I s.sp.id,I s.sp.src,.slice ast s.sp.st.length cst,.slice awa s.sp.wa.length cwa,I s.sp.al,I s.sp.up]:: .blk b1 [I s.sp.id,I s.sp.src,.slice ast s.sp.st.length cst,.slice awa s.sp.wa.length cwa,I s.sp.al,I s.sp.up,.slice ar s.rs.length cr,.slice ac s.cs.length cc]::σ)) (fun p=>s.sp.wa.length - p.1) (0,vo) bn
     ⟨by first|omega|exact Nat.zero_le _,en,by show bS 4 vo (fT (_++[])) en;rw [List.append_nil];exact hO,hs⟩ ?_
    clear hO hs
    rintro ⟨k,vo⟩ w ⟨hk,en,hO,hs⟩
    dsimp only at hk hO ⊢
    have hl1:=lP (qW s.sp) (m:=s.sp.wa.length) (n:=i) ak ak ak
    have hl2:=kU (qW s.sp) i k
    refine .seq (.ai (.z zm (.z cq (.z (zfa bg) (.y hs (zld an) (.z (cU ae) (.zn iJ (.bO rfl (fun hc109=>?_) (fun hc109=>?_)))))))))
    ·refine .skip (nT (.seq (.block (.draw mix rfl hs fun w hs=>?_))))
     refine .zw 0 rfl zm ?_;refine .ys 1 rfl hs [_,_,_,_,_,_] aM aD ?_;refine .z 2 rfl zm ?_;refine .z 3 rfl zm ?_;refine .ys 5 rfl hs [_,_,_,_,_,_] aM aD ?_;refine .z 6 rfl zm ?_;refine .z 7 rfl zm ?_;refine .z 8 rfl cq ?_;refine .z 10 rfl (zfa ff) ?_;refine .z 11 rfl (zfa mf) ?_
     refine .y 12 rfl hs af ?_;refine .z 13 rfl (zfa bg) ?_;refine .y 14 rfl hs an ?_;refine .z 15 rfl zm ?_;refine .z 16 rfl cq ?_
     have hris:=hok.wa.rise k ak
     have hq0:=hok.wa.bd (i:=k) ak
     have hq1:=hok.wa.bd (i:=k+1) ak
     refine .ixX (enc:=fun x=>[I x]) (i:=17) hs rfl aE .none h2 rfl rfl ae aj (bB (l:=s.sp.wa) (i:=(k+1)) ak) df ?_;intro b129 o129 hc129;replace hc129:=bK.one hc129
     refine .r (i:=18) hs rfl aE .none (aQ rfl af hc129) ?_
     refine .zw 19 rfl (zfa bg) ?_;refine .y 20 rfl hs an ?_;refine .z 21 rfl zm ?_
     refine .ixX (enc:=fun x=>[I x]) (i:=22) hs rfl aE .none h2 rfl rfl ae aj (bB (l:=s.sp.wa) (i:=k) ak) df ?_;intro b134 o134 hc134;replace hc134:=bK.one hc134
     refine .r (i:=23) hs rfl aE .none (aQ rfl af hc134) ?_
     refine .zw 24 rfl ib ?_;refine .z 26 rfl (zfa dH) ?_;refine .y 27 rfl hs af ?_
     refine .E 4 hs ?_
     refine .call rM rfl (dB (s:=s.sp) hs h2 ak ⟨ak,ak⟩ ⟨ak,ak⟩) ?_;rintro _ w ⟨rfl,hs⟩
     rw [Bs]
     refine .go (.E 9 hs ?_)
     refine .call rM rfl (dB (s:=s.sp) hs h2 ak ⟨ak,ak⟩ ⟨ak,ak⟩) ?_;rintro _ w ⟨rfl,hs⟩
     rw [GZ]
     refine .go (.E 25 hs ?_)
     refine .call Tryz.call211 rfl (lM hs ak ak) ?_;rintro _ w ⟨rfl,hs⟩
     refine .go (.E 28 hs ?_)
     refine .call Tryz.call210 rfl (km hs) ?_;rintro _ w ⟨b140,rfl,hs⟩
     rw [show two (s.sp.u i k:Int) _ _ _ _=upL s.sp i k by unfold upL;rw [if_pos ak]] at hs
     refine .go (.E 29 hs ?_)
     refine .append (ys:=fT (upL s.sp i k)) hs bQ rfl rfl hO (.own .here bV (by rw [eu];unfold upL;rw [if_pos ak];rfl)) (kD _) (fun l h=>by rw [eu] at h;simp only [List.length_append] at h;omega) ?_;intro v141 en141 w hO2 hs
     rw [←gO,List.append_assoc _ (lQ _ _ _)] at hO2
     refine .go (.zw 30 rfl zg ?_);refine .D hs ?_
     refine nB (nT (.region (.z zm (.z cq (.zn zg (nT ?_))))))
     exact ⟨(k+1,v141),.dy rfl bV bn,⟨by dsimp only;omega,_,hO2,hs.sb⟩,by dsimp only;omega⟩
    ·refine .exit (xT (xT (xB (nB (nT (.region (.z zm (.z cq (.zn zg (nT ?_))))))))))
     obtain rfl:k=s.sp.wa.length - 1:=by omega
     rw [List.append_assoc,←Fz i ak] at hO
     exact ⟨(i+1,_),.dy rfl bV bn,⟨by dsimp only;omega,en,hO,hs⟩,by dsimp only;omega⟩
   ·refine .exit (xT (xT (xB (nT (.ai (.z (zfa br) (.y hs (zld cS) ?_)))))))
    obtain rfl:i=s.sp.st.length:=by omega
    refine .o (.call Tryz.call96 rfl (ij hs h3 ak) ?_);rintro v144 w ⟨H1,hle1,hT,hs⟩
    replace hT:RTd H1 v144 s.bM:=hT
    have htl:s.bM.length≤60:=by have:=dn s.rs;unfold Srv.bM;omega
    have hmem:∀r∈s.rs,r.td∈s.bM:=fun r hr=>fK.2 ⟨r,hr,rfl⟩
    have hlims:s.bY=dS (qL s.sp) s.sp.wa.length s.sp.st.length++dS (alL s.sp) s.sp.wa.length s.sp.st.length++dS (upL s.sp) s.sp.wa.length s.sp.st.length++wX s.sp s.bM.length++tf s.sp s.bM s.cs 0 s.cs.length++uK s.sp s.bM s.rs s.rs.length:=rfl
    generalize s.bM=ts at*
    obtain ⟨at_,ct,rfl⟩:=RTd.shape hT
    refine .zn zg (.ai (.y hs (zls [_,_,_,_,_,_] aM aD) (.o (.call Tryz.call94 rfl (fX (s:=s.sp) hs (h1.mono hle1) (h2.mono hle1) ⟨ak,ak⟩) ?_))));rintro _ w ⟨rfl,hs⟩
    refine .zn zg (.seq (.ai (.zn zg (.block ?_))))
    refine .loop (fun p:Nat×Value=>⟨243,[],[(14,I (p.1:Int)),(4,p.2),(12,.slice at_ ts.length ct),(13,I (s.sp.many:Int)),(3,Pt b3),(1,Pt b1)]⟩)
     (fun p w=>p.1≤ts.length∧∃en,bS 4 p.2 (fT (dS (qL s.sp) s.sp.wa.length s.sp.st.length++dS (alL s.sp) s.sp.wa.length s.sp.st.length++dS (upL s.sp) s.sp.wa.length s.sp.st.length++wX s.sp p.1)) en∧St H1 w (en:: .blk b3 [I s.sp.id,I s.sp.src,.slice ast s.sp.st.length cst,.slice awa s.sp.wa.length cwa,I s.sp.al,I s.sp.up]:: .blk b1 [I s.sp.id,I s.sp.src,.slice ast s.sp.st.length cst,.slice awa s.sp.wa.length cwa,I s.sp.al,I s.sp.up,.slice ar s.rs.length cr,.slice ac s.cs.length cc]::σ)) (fun p=>ts.length - p.1) (0,vo) bn
     ⟨by first|omega|exact Nat.zero_le _,en,by show bS 4 vo (fT (_++[])) en;rw [List.append_nil];exact hO,hs⟩ ?_
    clear hO hs
    rintro ⟨j,vo⟩ w ⟨hj,en,hO,hs⟩
    dsimp only at hj hO ⊢
    have hel:=jd s.sp j
    refine .seq (.ai (.z zm (.z zm (.z (cU a6) (.zn iJ (.bO rfl (fun hc150=>?_) (fun hc150=>?_)))))))
    ·refine .skip (nT (.seq (.block (.region (.z zm (.z zm (.z cq (.z zm (.z cq (.z (zfa dH) (.y hs (zld af) (.o (.call Tryz.call210 rfl (km hs) ?_)))))))))))));rintro _ w ⟨b160,rfl,hs⟩
     refine .o (.append (ys:=fT (two 0 ((s.sp.many:Int)+1+(j:Int)) 1000 1000 s.sp.src)) hs bQ rfl rfl hO (.own .here rfl rfl) (kD _) (fun l h=>by rw [eu] at h;simp only [List.length_append] at h;omega) ?_);intro v161 en161 w hO2 hs
     rw [←gO,List.append_assoc _ (wX _ _),show (s.sp.many:Int)+1+(j:Int)=((s.sp.many+1+j:Nat):Int) by omega] at hO2
     refine .zn zg (nB (nT (.region (.z zm (.z cq (.zn zg (nT ?_)))))))
     exact ⟨(j+1,v161),.dy rfl bV bn,⟨by dsimp only;omega,_,hO2,hs.sb⟩,by dsimp only;omega⟩
    ·refine .exit (xT (xT (xB (nT (.seq (.ai (.zn zg (.block ?_))))))))
     refine .loop (fun p:Nat×Value=>⟨243,[],[(15,I (p.1:Int)),(4,p.2),(12,.slice at_ ts.length ct),(13,I (s.sp.many:Int)),(3,Pt b3),(1,Pt b1)]⟩)
      (fun p w=>p.1≤s.cs.length∧∃en,bS 4 p.2 (fT (dS (qL s.sp) s.sp.wa.length s.sp.st.length++dS (alL s.sp) s.sp.wa.length s.sp.st.length++dS (upL s.sp) s.sp.wa.length s.sp.st.length++wX s.sp ts.length++tf s.sp ts s.cs 0 p.1)) en∧St H1 w (en:: .blk b3 [I s.sp.id,I s.sp.src,.slice ast s.sp.st.length cst,.slice awa s.sp.wa.length cwa,I s.sp.al,I s.sp.up]:: .blk b1 [I s.sp.id,I s.sp.src,.slice ast s.sp.st.length cst,.slice awa s.sp.wa.length cwa,I s.sp.al,I s.sp.up,.slice ar s.rs.length cr,.slice ac s.cs.length cc]::σ)) (fun p=>s.cs.length - p.1) (0,vo) bn
      ⟨by first|omega|exact Nat.zero_le _,en,by show bS 4 vo (fT (_++[])) en;rw [List.append_nil,←show j=ts.length by omega];exact hO,hs⟩ ?_
     clear hO hs
     rintro ⟨i,vo⟩ w ⟨hi,en,hO,hs⟩
     dsimp only at hi hO ⊢
     have hel:=jd s.sp ts.length
     have hcl1:=je s.sp ts s.cs 0 i
     have hcl2:i*(2*(ts.length - 0))≤20*(2*60):=Nat.mul_le_mul ak ak
     refine .seq (.ai (.z zm (.z (zfa dr) (.y hs (zld oG) (.z (cU cR) (.zn iJ (.bO rfl (fun hc166=>?_) (fun hc166=>?_))))))))
     ·refine .skip (nT (.seq (.block (.ai (.zn zg (.block ?_))))))
      refine .loop (fun p:Nat×Value=>⟨243,[],[(16,I (p.1:Int)),(4,p.2),(15,I (i:Int)),(12,.slice at_ ts.length ct),(13,I (s.sp.many:Int)),(3,Pt b3),(1,Pt b1)]⟩)
       (fun p w=>p.1≤ts.length∧∃en,bS 4 p.2 (fT (dS (qL s.sp) s.sp.wa.length s.sp.st.length++dS (alL s.sp) s.sp.wa.length s.sp.st.length++dS (upL s.sp) s.sp.wa.length s.sp.st.length++wX s.sp ts.length++tf s.sp ts s.cs 0 i++ky s.sp ts (zu s.cs i) 0 p.1)) en∧St H1 w (en:: .blk b3 [I s.sp.id,I s.sp.src,.slice ast s.sp.st.length cst,.slice awa s.sp.wa.length cwa,I s.sp.al,I s.sp.up]:: .blk b1 [I s.sp.id,I s.sp.src,.slice ast s.sp.st.length cst,.slice awa s.sp.wa.length cwa,I s.sp.al,I s.sp.up,.slice ar s.rs.length cr,.slice ac s.cs.length cc]::σ)) (fun p=>ts.length - p.1) (0,vo) bn
       ⟨by first|omega|exact Nat.zero_le _,en,by show bS 4 vo (fT (_++[])) en;rw [List.append_nil];exact hO,hs⟩ ?_
      clear hO hs
      rintro ⟨j,vo⟩ w ⟨hj,en,hO,hs⟩
      dsimp only at hj hO ⊢
      have hl1:=kX s.sp ts (zu s.cs i) 0 j
      refine .seq (.ai (.z zm (.z zm (.z (cU a6) (.zn iJ (.bO rfl (fun hc172=>?_) (fun hc172=>?_)))))))
      ·refine .skip (nT (.seq (.block (.draw mix rfl hs fun w hs=>?_))))
       refine .zw 0 rfl zm ?_;refine .z 1 rfl (zfa dr) ?_;refine .y 2 rfl hs oG ?_;refine .z 3 rfl zm ?_
       obtain ⟨c,hx⟩:=nth (l:=s.cs) (k:=i) ak
       obtain ⟨t,ht⟩:=nth (l:=ts) (k:=j) ak
       obtain ⟨g1,g2,g3,g4,g5,g6⟩:=hcs c (List.mem_of_getElem? hx)
       have ec:=CU hx
       have et:=Fa ht
       refine .ixX (enc:=Cmp.c) (i:=4) hs rfl aE .none (h4.mono hle1) rfl rfl cR eP hx df ?_;intro b179 o179 hc179
       refine .r (i:=5) hs rfl aE .none (bI (vs:=c.c) rfl Tryz.isAgg153 eP hc179) ?_
       refine .zw 6 rfl zm ?_;refine .z 7 rfl zm ?_
       refine .ixX (enc:=TD.c) (i:=8) hs rfl aE .none hT rfl rfl a6 bk ht df ?_;intro b183 o183 hc183
       refine .r (i:=9) hs rfl aE .none (bI (vs:=t.c) rfl dA bk hc183) ?_
       refine .zw 10 rfl zm ?_;refine .z 11 rfl cq ?_;refine .z 12 rfl zm ?_;refine .z 13 rfl cq ?_
       refine .E 14 hs ?_
       refine .call Tryz.call212 rfl (tG (c:=c) (t:=t) hs ⟨ak,ak⟩) ?_;rintro v189 w ⟨en189,hO189,hs⟩
       obtain ⟨a189,l189,c189,rfl,h189⟩:=hO189.shape
       refine .go (.E 15 hs ?_)
       refine .append (ys:=fT (k9 c t ((s.sp.many:Int)+1+(j:Int)))) hs bQ rfl rfl hO (Src.Ip hO189 .here) (kD _) (fun l h=>by rw [eu] at h;simp only [List.length_append] at h;have:=xx c t ((s.sp.many:Int)+1+(j:Int));rw [eu] at h189;omega) ?_;intro v190 en190 w hO2 hs
       rw [←gO,List.append_assoc _ (ky _ _ _ _ _),show ky s.sp ts (zu s.cs i) 0 j++k9 c t ((s.sp.many:Int)+1+(j:Int))=ky s.sp ts (zu s.cs i) 0 (j+1) by
        show _=_++k9 (zu s.cs i) (td0 ts (0+j)) ((s.sp.many+1+(0+j):Nat):Int)
        rw [Nat.zero_add,ec,et,show ((s.sp.many+1+j:Nat):Int)=(s.sp.many:Int)+1+(j:Int) by omega]] at hO2
       refine .go (.zw 16 rfl zg ?_);refine .D hs ?_
       refine nB (nT (.region (.z zm (.z cq (.zn zg (nT ?_))))))
       exact ⟨(j+1,v190),.dy rfl bV bn,⟨by dsimp only;omega,_,hO2,hs.sb⟩,by dsimp only;omega⟩
      ·refine .exit (xT (xT (xB (nB (nT (.region (.z zm (.z cq (.zn zg (nT ?_))))))))))
       obtain rfl:j=ts.length:=by omega
       rw [List.append_assoc _ (tf _ _ _ _ _)] at hO
       exact ⟨(i+1,_),.dy rfl bV bn,⟨by dsimp only;omega,en,hO,hs⟩,by dsimp only;omega⟩
     ·refine .exit (xT (xT (xB (nT (.seq (.ai (.zn zg (.block ?_))))))))
      refine .loop (fun p:Nat×Value=>⟨243,[],[(17,I (p.1:Int)),(4,p.2),(12,.slice at_ ts.length ct),(13,I (s.sp.many:Int)),(3,Pt b3),(1,Pt b1)]⟩)
       (fun p w=>p.1≤s.rs.length∧∃en,bS 4 p.2 (fT (dS (qL s.sp) s.sp.wa.length s.sp.st.length++dS (alL s.sp) s.sp.wa.length s.sp.st.length++dS (upL s.sp) s.sp.wa.length s.sp.st.length++wX s.sp ts.length++tf s.sp ts s.cs 0 s.cs.length++uK s.sp ts s.rs p.1)) en∧St H1 w (en:: .blk b3 [I s.sp.id,I s.sp.src,.slice ast s.sp.st.length cst,.slice awa s.sp.wa.length cwa,I s.sp.al,I s.sp.up]:: .blk b1 [I s.sp.id,I s.sp.src,.slice ast s.sp.st.length cst,.slice awa s.sp.wa.length cwa,I s.sp.al,I s.sp.up,.slice ar s.rs.length cr,.slice ac s.cs.length cc]::σ)) (fun p=>s.rs.length - p.1) (0,vo) bn
       ⟨by first|omega|exact Nat.zero_le _,en,by show bS 4 vo (fT (_++[])) en;rw [List.append_nil,←show i=s.cs.length by omega];exact hO,hs⟩ ?_
      clear hO hs
      rintro ⟨q,vo⟩ w ⟨hq,en,hO,hs⟩
      dsimp only at hq hO ⊢
      have hrl1:=jb s.sp ts s.rs q
      have hcl3:=je s.sp ts s.cs 0 s.cs.length
      have hcl4:s.cs.length*(2*(ts.length - 0))≤20*(2*60):=Nat.mul_le_mul ak ak
      refine .seq (.ai (.z zm (.z (zfa br) (.y hs (zld cS) (.z (cU aO) (.zn iJ (.bO rfl (fun hc195=>?_) (fun hc195=>?_))))))))
      ·refine .skip (nT (.seq (.block (.ai (.z (zfa br) (.y hs (zld cS) (.z zm ?_)))))))
       obtain ⟨r,hx⟩:=nth (l:=s.rs) (k:=q) ak
       obtain ⟨g1,g2,g3,g4,g5,g6,g7⟩:=hrs r (List.mem_of_getElem? hx)
       obtain ⟨m,k1,k2,k3⟩:=gy (hmem r (List.mem_of_getElem? hx))
       refine .ixX (enc:=Rdg.c) hs (h3.mono hle1) rfl rfl aO a8 hx df ?_;intro b201 o201 hc201
       refine .q hs (bI (vs:=(Rdg.c r)) rfl gu a8 hc201) (.o (.alloc hs fN rfl fun b18 w hs=>?_))
       refine .o (.aH (vs:=r.c) hs rfl rfl a8 fun w hs=>?_)
       change St _ _ (.blk b18 [I r.src,I r.st,I r.wa,I r.val,I r.tol,I r.tape,I r.day]::_) at hs
       refine .nil (.ai (.y hs (zls [_,_,_,_,_,_] aM aD) (.z (zfa fR) (.y hs (zld af) (.z (zfa fQ) (.y hs (zld af) (.o (.call rM rfl (dB (s:=s.sp) hs (h2.mono hle1) ak ⟨ak,ak⟩ ⟨ak,ak⟩) ?_))))))));rintro _ w ⟨rfl,hs⟩
       refine .zn zg (.ai (.z zm (.z cq (.z zm (.z (zfa eo) (.y hs (zld af) (.z (zfa ek) (.y hs (zld af) (.z (zbd [_,_] gL) (.o (.call Tryz.call95 rfl (jI (t:=r.td) hs hT ak) ?_)))))))))));rintro _ w ⟨rfl,hs⟩
       refine .z cq (.zn zg (.region (.z zm (.z zm (.z zm (.z (zfa ep) (.y hs (zld af) (.z (zfa de) (.y hs (zld af) (.z cq (.z (zfa fS) (.y hs (zld af) (.z (zbd [_,_,_,_] dV) (.z zm (.z zm (.z (zfa de) (.y hs (zld af) (.z (zfa ep) (.y hs (zld af) (.z ib (.z (zfa fS) (.y hs (zld af) (.z (zbd [_,_,_,_] dV) (.o (.buildSlice (cells:=fT (q9 s.sp ts r)) hs eY rfl aE fun b240 w hs=>?_)))))))))))))))))))))))))
       refine .o (.append (ys:=fT (q9 s.sp ts r)) hs bQ rfl rfl hO (.own .here rfl rfl) (kD _) (fun l h=>by rw [eu] at h;simp only [List.length_append] at h;omega) ?_);intro v241 en241 w hO2 hs
       rw [←gO,List.append_assoc _ (uK _ _ _ _),show uK s.sp ts s.rs q++q9 s.sp ts r=uK s.sp ts s.rs (q+1) by rw [←BT hx];rfl] at hO2
       refine .zn zg (nB (nT (.region (.z zm (.z cq (.zn zg (nT ?_)))))))
       exact ⟨(q+1,v241),.dy rfl bV bn,⟨by dsimp only;omega,_,hO2,hs.sb⟩,by dsimp only;omega⟩
      ·refine .exit (xT (xT (xB (nT (.ai (.z zm (.zn zg (.ret (Fin.bu Tryz.results152 rfl ?_)))))))))
       obtain rfl:q=s.rs.length:=by omega
       exact ⟨H1,en,hle1,by rw [hlims];exact hO,hs.sb⟩
theorem sq{s:Srv}{vst vwa vr vc:Value}(hs:St H w σ)(h1:RI H vst s.sp.st)(h2:RI H vwa s.sp.wa)(h3:RRd H vr s.rs)(h4:RCm H vc s.cs)(he:s.early):
  Cl Tryz.prog 205 [.agg #[I s.sp.id,I s.sp.src,vst,vwa,I s.sp.al,I s.sp.up,vr,vc]] w fun u w'=>∃H1 vl en,HLe H H1∧u= .agg #[I s.sys.many,vl]∧bS 4 vl (fT s.bY) en∧St H1 w' (en::σ):=by
 have hsm:=dX he.1
 have hrl:=he.2.1
 have htl:s.bM.length≤60:=by have:=dn s.rs;unfold Srv.bM;omega
 refine Cl.o Tryz.func205 Tryz.ntmps205 ag1 ?_
 refine .ai (.bx hs fun b1 w hs=>?_)
 refine .o (.alloc hs dG rfl fun b2 w hs=>?_)
 refine .nil (.seq (.draw mix rfl hs fun w hs=>?_))
 refine .zw 0 rfl (zfa bj) ?_;refine .ys 1 rfl hs [_,_,_,_,_,_] aM aD ?_;refine .z 3 rfl (zfa br) ?_;refine .y 4 rfl hs cS ?_;refine .ys 8 rfl hs [_,_,_,_,_,_,_,_] aI aB ?_
 refine .E 2 hs ?_
 refine .call Tryz.call94 rfl (fX (s:=s.sp) hs h1 h2 ⟨ak,ak⟩) ?_;rintro _ w ⟨rfl,hs⟩
 refine .go (.E 5 hs ?_)
 refine .call Tryz.call96 rfl (ij hs h3 ak) ?_;rintro v8 w ⟨H1,hle1,hT,hs⟩
 replace hT:RTd H1 v8 s.bM:=hT
 obtain ⟨at_,ct,rfl⟩:=RTd.shape hT
 refine .go (.zw 6 rfl (cU a6) ?_);refine .z 7 rfl cq ?_
 refine .E 9 hs ?_
 refine .call Tryz.call152 rfl (sr (s:=s) hs (h1.mono hle1) (h2.mono hle1) (h3.mono hle1) (h4.mono hle1) he) ?_;rintro v12 w ⟨H2,en,hle2,hO,hs⟩
 obtain ⟨al,ll,cl,rfl,hll⟩:=hO.shape
 refine .go (.zw 10 rfl (zbd [_,_] lz) (.E 11 hs ?_))
 refine .aH (vs:=[_,_]) hs rfl rfl aF ?_;intro w hs
 refine .go (.D hs (.ret ?_))
 replace hs:St H2 w (.blk b2 [I ((s.sp.many:Int)+(s.bM.length:Int)),.slice al ll cl]::en::σ):=hs.sb
 exact Fin.gj [] [] hs fun w hs=>⟨_,results1 Tryz.results205 (cC (vs:=[_,_]) hs rfl aZ aF),H2,_,en,hle1.trans hle2,by show _=Value.agg #[I ((s.sp.many+s.bM.length:Nat):Int),_];rw [Int.natCast_add],hO,hs.tail⟩
theorem q8{s:Srv}{vst vwa vr vc:Value}(hs:St H w σ)(h1:RI H vst s.sp.st)(h2:RI H vwa s.sp.wa)(h3:RRd H vr s.rs)(h4:RCm H vc s.cs)(he:s.early):
  Cl Tryz.prog 205 [.agg #[I s.sp.id,I s.sp.src,vst,vwa,I s.sp.al,I s.sp.up,vr,vc]] w fun u w'=>∃H1,HLe H H1∧RSy H1 u s.sys∧St H1 w' σ:=by
 refine (sq hs h1 h2 h3 h4 he).mono ?_
 rintro u w' ⟨H1,vl,en,hle,rfl,hO,hs⟩
 have hl:=kQ he 6 ak
 rw [s.wD] at hl
 obtain ⟨H2,hle2,hR,hs⟩:=bS.bU (m:=4) (cs:=s.bY.map Lim.c) hO (fun c hc=>by simp only [List.mem_map] at hc;obtain ⟨x,_,rfl⟩:=hc;rfl) ak (by rw [List.length_map];omega) hs .here
 exact ⟨H2,hle.trans hle2,⟨vl,rfl,hR⟩,hs⟩
theorem ja{s:Spc}{q:Wht}{vst vwa:Value}(hs:St H w σ)(h2:RI H vwa s.wa):
  Cl Tryz.prog 230 [.agg #[I q.kind,I q.st,I q.wa,I s.id,I s.src,vst,vwa,I s.al,I s.up]] w fun v w'=>v= .bool (decide (0≤q.wa∧q.wa≤(s.wa.length:Int) - 1))∧St H w' σ:=by
 obtain ⟨awa,cwa,rfl⟩:=RI.shape h2
 have l2:=(RI.len h2).2.2
 refine Cl.o Tryz.func230 Tryz.ntmps230 ag1 ?_
 refine .ai (.bx hs fun b1 w hs=>?_)
 refine .zn zg (.ai (.z (zfa cn) (.z (zfa fL) (.y hs (zld af) (.z (zfa eE) (.z (zfa bg) (.y hs (zld an) (.z (cU ae) (.z ib (.o (.call dc rfl (bh hs) ?_)))))))))));rintro _ w ⟨rfl,hs⟩
 refine .zn zg (.ret (Fin.bu Tryz.results230 rfl ?_))
 exact ⟨rfl,hs.out⟩
theorem ki{s:Spc}{q:Wht}{vst vwa:Value}(hs:St H w σ)(h1:RI H vst s.st):
  Cl Tryz.prog 235 [.agg #[I q.kind,I q.st,I q.wa,I s.id,I s.src,vst,vwa,I s.al,I s.up]] w fun v w'=>v= .bool (decide (0≤q.st∧q.st≤(s.st.length:Int) - 1))∧St H w' σ:=by
 obtain ⟨ast,cst,rfl⟩:=RI.shape h1
 have l1:=(RI.len h1).2.2
 refine Cl.o Tryz.func235 Tryz.ntmps235 ag1 ?_
 refine .ai (.bx hs fun b1 w hs=>?_)
 refine .zn zg (.ai (.z (zfa cn) (.z (zfa iO) (.y hs (zld af) (.z (zfa eE) (.z (zfa bC) (.y hs (zld an) (.z (cU ae) (.z ib (.o (.call dc rfl (bh hs) ?_)))))))))));rintro _ w ⟨rfl,hs⟩
 refine .zn zg (.ret (Fin.bu Tryz.results235 rfl ?_))
 exact ⟨rfl,hs.out⟩
theorem qS{s:Spc}{q:Wht}:fB s q↔(q.kind=1∧q.st=0∧s.isW q∧0<q.wa)∨(q.kind=2∧q.st=0∧s.isW q)∨(q.kind=3∧q.wa=0∧s.isS q)∨(q.kind=4∧s.isS q∧s.isW q):=by
 constructor
 ·intro h
  cases h with
  |litres a b c d=>exact .inl ⟨a,b,c,d⟩
  |plane a b c=>exact .inr (.inl ⟨a,b,c⟩)
  |section_ a b c=>exact .inr (.inr (.inl ⟨a,b,c⟩))
  |offset a b c=>exact .inr (.inr (.inr ⟨a,b,c⟩))
 ·rintro (⟨a,b,c,d⟩|⟨a,b,c⟩|⟨a,b,c⟩|⟨a,b,c⟩)
  ·exact .litres a b c d
  ·exact .plane a b c
  ·exact .section_ a b c
  ·exact .offset a b c
theorem xY{s:Spc}{q:Wht}{vst vwa:Value}(hs:St H w σ)(h2:RI H vwa s.wa)(hk:q.kind=1):
  Cl Tryz.prog 229 [.agg #[I q.kind,I q.st,I q.wa,I s.id,I s.src,vst,vwa,I s.al,I s.up]] w fun v w'=>∃b:Bool,v= .bool b∧(b=true↔fB s q)∧St H w' σ:=by
 have hi:=qS (s:=s) (q:=q)
 simp only [Spc.isW,Spc.isS] at hi
 refine Cl.o Tryz.func229 Tryz.ntmps229 ag1 ?_
 refine .ai (.bx hs fun b1 w hs=>?_)
 refine .zn zg (.ai (.y hs (zls [_,_,_,_,_,_,_,_,_] qO kI) (.o (.call Tryz.call230 rfl (ja hs h2) ?_))));rintro _ w ⟨rfl,hs⟩
 refine .z zm (.bif (t':=5) rfl (fun hb5=>?_) (fun hb5=>?_))
 ·refine .T (.z (zfa cn) (.T (.z (zfa fL) (.T (.y hs (zld af) (.T (.z pQ (.z zpT (.z zm (.kF (t':=11) rfl (fun hb11=>?_) (fun hb11=>?_)))))))))))
  ·refine .T (.z (zfa cn) (.T (.z (zfa iO) (.T (.y hs (zld af) (.T (.z kd (.z zpT (.zn zg (.ret (Fin.bu Tryz.results229 rfl ?_)))))))))))
   exact ⟨_,rfl,by rw [hi];simp_all<;>omega,hs.out⟩
  ·refine .Fs 4 8 true (.z zpF (.zn zg (.ret (Fin.bu Tryz.results229 rfl ?_))))
   exact ⟨_,rfl,by rw [hi];simp_all<;>omega,hs.out⟩
 ·refine .Fs 4 2 true (.z zpF (.z zm (.Fs 4 8 true (.z zpF (.zn zg (.ret (Fin.bu Tryz.results229 rfl ?_)))))))
  exact ⟨_,rfl,by rw [hi];simp_all<;>omega,hs.out⟩
theorem xX{s:Spc}{q:Wht}{vst vwa:Value}(hs:St H w σ)(h2:RI H vwa s.wa)(hk:q.kind=2):
  Cl Tryz.prog 232 [.agg #[I q.kind,I q.st,I q.wa,I s.id,I s.src,vst,vwa,I s.al,I s.up]] w fun v w'=>∃b:Bool,v= .bool b∧(b=true↔fB s q)∧St H w' σ:=by
 have hi:=qS (s:=s) (q:=q)
 simp only [Spc.isW,Spc.isS] at hi
 refine Cl.o Tryz.func232 Tryz.ntmps232 ag1 ?_
 refine .ai (.bx hs fun b1 w hs=>?_)
 refine .zn zg (.ai (.y hs (zls [_,_,_,_,_,_,_,_,_] qO kI) (.o (.call Tryz.call230 rfl (ja hs h2) ?_))));rintro _ w ⟨rfl,hs⟩
 refine .z zm (.bif (t':=5) rfl (fun hb5=>?_) (fun hb5=>?_))
 ·refine .T (.z (zfa cn) (.T (.z (zfa iO) (.T (.y hs (zld af) (.T (.z kd (.z zpT (.zn zg (.ret (Fin.bu Tryz.results232 rfl ?_)))))))))))
  exact ⟨_,rfl,by rw [hi];simp_all<;>omega,hs.out⟩
 ·refine .Fs 4 2 true (.z zpF (.zn zg (.ret (Fin.bu Tryz.results232 rfl ?_))))
  exact ⟨_,rfl,by rw [hi];simp_all<;>omega,hs.out⟩
theorem xW{s:Spc}{q:Wht}{vst vwa:Value}(hs:St H w σ)(h1:RI H vst s.st)(hk:q.kind=3):
  Cl Tryz.prog 234 [.agg #[I q.kind,I q.st,I q.wa,I s.id,I s.src,vst,vwa,I s.al,I s.up]] w fun v w'=>∃b:Bool,v= .bool b∧(b=true↔fB s q)∧St H w' σ:=by
 have hi:=qS (s:=s) (q:=q)
 simp only [Spc.isW,Spc.isS] at hi
 refine Cl.o Tryz.func234 Tryz.ntmps234 ag1 ?_
 refine .ai (.bx hs fun b1 w hs=>?_)
 refine .zn zg (.ai (.y hs (zls [_,_,_,_,_,_,_,_,_] qO kI) (.o (.call Tryz.call235 rfl (ki hs h1) ?_))));rintro _ w ⟨rfl,hs⟩
 refine .z zm (.bif (t':=5) rfl (fun hb5=>?_) (fun hb5=>?_))
 ·refine .T (.z (zfa cn) (.T (.z (zfa fL) (.T (.y hs (zld af) (.T (.z kd (.z zpT (.zn zg (.ret (Fin.bu Tryz.results234 rfl ?_)))))))))))
  exact ⟨_,rfl,by rw [hi];simp_all<;>omega,hs.out⟩
 ·refine .Fs 4 2 true (.z zpF (.zn zg (.ret (Fin.bu Tryz.results234 rfl ?_))))
  exact ⟨_,rfl,by rw [hi];simp_all<;>omega,hs.out⟩
theorem xV{s:Spc}{q:Wht}{vst vwa:Value}(hs:St H w σ)(h1:RI H vst s.st)(h2:RI H vwa s.wa)(hk:q.kind=4):
  Cl Tryz.prog 237 [.agg #[I q.kind,I q.st,I q.wa,I s.id,I s.src,vst,vwa,I s.al,I s.up]] w fun v w'=>∃b:Bool,v= .bool b∧(b=true↔fB s q)∧St H w' σ:=by
 have hi:=qS (s:=s) (q:=q)
 simp only [Spc.isW,Spc.isS] at hi
 refine Cl.o Tryz.func237 Tryz.ntmps237 ag1 ?_
 refine .ai (.bx hs fun b1 w hs=>?_)
 refine .zn zg (.ai (.y hs (zls [_,_,_,_,_,_,_,_,_] qO kI) (.o (.call Tryz.call235 rfl (ki hs h1) ?_))));rintro _ w ⟨rfl,hs⟩
 refine .z zm (.bif (t':=5) rfl (fun hb5=>?_) (fun hb5=>?_))
 ·refine .T (.y hs (zls [_,_,_,_,_,_,_,_,_] qO kI) (.T (.o (.call Tryz.call230 rfl (ja hs h2) ?_))));rintro _ w ⟨rfl,hs⟩
  refine .z zpT (.zn zg (.ret (Fin.bu Tryz.results237 rfl ?_)))
  exact ⟨_,rfl,by rw [hi];simp_all<;>omega,hs.out⟩
 ·refine .Fs 2 2 true (.z zpF (.zn zg (.ret (Fin.bu Tryz.results237 rfl ?_))))
  exact ⟨_,rfl,by rw [hi];simp_all<;>omega,hs.out⟩
theorem sf{s:Spc}{q:Wht}{vst vwa:Value}{i k:Nat}{u:Int}(hs:St H w σ)(h1:RI H vst s.st)(h2:RI H vwa s.wa)(hok:eZ s)(hq:fB s q)(hk1:q.kind=1)(hi:i<s.st.length):
  Cl Tryz.prog 231 [.agg #[I q.kind,I q.st,I q.wa,I s.id,I s.src,vst,vwa,I s.al,I s.up],.agg #[I (i:Int),I (k:Int),I u]] w fun v w'=>∃H1,HLe H H1∧v=I (oI s q i k)∧St H1 w' σ:=by
 obtain ⟨ast,cst,rfl⟩:=RI.shape h1
 obtain ⟨awa,cwa,rfl⟩:=RI.shape h2
 have hn:=hok.wa.many
 have hcap:=(RI.len h2).2.1
 obtain ⟨_,hw1,hw2,hw3⟩:q.st=0∧0<q.wa∧0≤q.wa∧q.wa≤(s.wa.length:Int) - 1:=by
  rcases qS.1 hq with h|h|h|h
  ·exact ⟨h.2.1,h.2.2.2,h.2.2.1.1,h.2.2.1.2⟩
  all_goals omega
 obtain ⟨m,hm⟩:∃m:Nat,q.wa=m:=⟨q.wa.toNat,ak⟩
 have hW:oI s q i k=if (k:Int)≤q.wa then gi (wts s.st) i*gi (wts (s.wa.take (q.wa.toNat+1))) k else 0:=by unfold oI;rw [if_pos hk1]
 have hmt:q.wa.toNat=m:=by omega
 rw [hmt] at hW
 refine Cl.o Tryz.func231 Tryz.ntmps231 ag2 ?_
 refine .ai (.bx hs fun b2 w hs=>?_)
 refine .bx hs fun b3 w hs=>?_
 refine .zn zg (.seq (.ai (.z (zfa bZ) (.y hs (zld af) (.z (zfa cn) (.z (zfa fL) (.y hs (zld af) (.zn pQ (.bO rfl (fun hc12=>?_) (fun hc12=>?_))))))))))
 ·refine .ai (.zn zg (.ret (rT (Fin.bu Tryz.results231 rfl ?_))))
  exact ⟨H,HLe.refl H,by rw [hW,if_neg ak],hs.out⟩
 ·refine .skip (nT (.seq (.draw mix rfl hs fun w hs=>?_)))
  refine .zw 0 rfl (zfa eE) ?_;refine .z 1 rfl (zfa bC) ?_;refine .y 2 rfl hs an ?_;refine .z 3 rfl (zfa eE) ?_;refine .z 4 rfl (zfa bg) ?_;refine .y 5 rfl hs an ?_;refine .z 6 rfl (zfa cn) ?_;refine .z 7 rfl (zfa fL) ?_;refine .y 8 rfl hs af ?_;refine .z 9 rfl cq ?_
  refine .zw 10 rfl (p6 (k:=m+1) rfl rfl ae aj ak ak) (.E 11 hs ?_)
  have hP:gN 7 15000 (s.wa.take (m+1)):=hok.wa.take ak ak
  refine .call Tryz.call163 rfl (m9 hs h1 (h2.head (k:=m+1) ak)) ?_;rintro _ w ⟨H1,vo,e,hle1,rfl,hGx,-,hs⟩
  obtain ⟨rfl,hG⟩:=hGx ⟨hok.st,hP⟩
  have hgl:=nt (wts s.st) (wts (s.wa.take (m+1))) s.st.length
  have hyl:(wts (s.wa.take (m+1))).length=m+1:=by rw [iH,List.length_take];omega
  have hgr:=z6 (X:=wts s.st) (Y:=wts (s.wa.take (m+1))) (n:=s.st.length) hi
  have hgt:=EB (X:=wts s.st) (Y:=wts (s.wa.take (m+1))) (n:=s.st.length) (k:=k) hi ak
  have hrl:=pb (wts s.st) (wts (s.wa.take (m+1))) i
  rw [←hgr] at hrl
  generalize qt (wts s.st) (wts (s.wa.take (m+1))) s.st.length=G at*
  obtain ⟨aG,cG,rfl⟩:=hG.shape
  refine .go (.zw 12 rfl zm ?_);refine .z 13 rfl zex ?_;refine .z 14 rfl zex ?_;refine .z 15 rfl zg ?_;refine .z 16 rfl zg ?_;refine .D hs ?_
  refine .seq (.draw mix rfl hs fun w hs=>?_)
  refine .zw 0 rfl zm ?_;refine .z 1 rfl (zfa cf) ?_;refine .y 2 rfl hs af ?_
  refine .ixT (i:=3) hs rfl aE .none hG rfl rfl az au (show i<_ by omega) df ?_;intro b31 o31 a31 c31 hc31 hR31
  refine .r (i:=4) hs rfl aE .none (aQ rfl an hc31) ?_
  refine .zw 5 rfl (zfa bZ) ?_;refine .y 6 rfl hs af ?_
  refine .ixX (enc:=fun x=>[I x]) (i:=7) hs rfl aE .none hR31 rfl rfl ae aj (bB (l:=(gr G i)) (i:=k) ak) df ?_;intro b35 o35 hc35;replace hc35:=bK.one hc35
  refine .r (i:=8) hs rfl aE .none (aQ rfl af hc35) ?_
  refine .zw 9 rfl zg ?_;refine .D hs ?_
  refine .ret (Fin.bu Tryz.results231 rfl ?_)
  exact ⟨H1,hle1,by rw [hW,if_pos ak,←hgt];rfl,hs.out⟩
theorem ti{s:Spc}{q:Wht}{vst vwa:Value}{i k:Nat}{u:Int}(hs:St H w σ)(h1:RI H vst s.st)(hok:eZ s)(hk1:q.kind=2)(hi:i<s.st.length):
  Cl Tryz.prog 233 [.agg #[I q.kind,I q.st,I q.wa,I s.id,I s.src,vst,vwa,I s.al,I s.up],.agg #[I (i:Int),I (k:Int),I u]] w fun v w'=>∃H1,HLe H H1∧v=I (oI s q i k)∧St H1 w' σ:=by
 have hW:oI s q i k=if (k:Int)=q.wa then gi (wts s.st) i else 0:=by unfold oI;rw [if_neg ak,if_pos hk1]
 have hl:=iH s.st
 refine Cl.o Tryz.func233 Tryz.ntmps233 ag2 ?_
 refine .ai (.bx hs fun b2 w hs=>?_)
 refine .bx hs fun b3 w hs=>?_
 refine .zn zg (.seq (.ai (.z (zfa bZ) (.y hs (zld af) (.z (zfa cn) (.z (zfa fL) (.y hs (zld af) (.zn gg (.dO rfl (fun hc12=>?_) (fun hc12=>?_))))))))))
 ·refine .ai (.zn zg (.ret (rT (Fin.bu Tryz.results233 rfl ?_))))
  exact ⟨H,HLe.refl H,by rw [hW,if_neg ak],hs.out⟩
 ·refine .skip (nT (.ai (.z (zfa eE) (.z (zfa bC) (.y hs (zld an) (.o (.call Tryz.call275 rfl (kN hs h1) ?_)))))));rintro _ w ⟨H1,vo,e,hle1,rfl,hGx,hs⟩
  obtain ⟨rfl,hG⟩:=hGx hok.st
  obtain ⟨aG,cG,rfl⟩:=RI.shape hG
  refine .z zm (.z zex (.z zex (.z zg (.zn zg (.ai (.z zm (.z (zfa cf) (.y hs (zld af) (.ixY hs hG rfl rfl ae aj (bB (l:=(wts s.st)) (i:=i) ak) df ?_)))))))));intro b23 o23 hc23
  refine .q hs (aQ rfl af hc23) (.zn zg (.ret (Fin.bu Tryz.results233 rfl ?_)))
  exact ⟨H1,hle1,by rw [hW,if_pos ak],hs.out⟩
theorem qT{s:Spc}{q:Wht}{vst vwa:Value}{i k:Nat}{u:Int}(hs:St H w σ)(h2:RI H vwa s.wa)(hok:eZ s)(hk1:q.kind=3)(hk:k<s.wa.length):
  Cl Tryz.prog 236 [.agg #[I q.kind,I q.st,I q.wa,I s.id,I s.src,vst,vwa,I s.al,I s.up],.agg #[I (i:Int),I (k:Int),I u]] w fun v w'=>∃H1,HLe H H1∧v=I (oI s q i k)∧St H1 w' σ:=by
 have hW:oI s q i k=if (i:Int)=q.st then gi (wts s.wa) k else 0:=by unfold oI;rw [if_neg ak,if_neg ak,if_pos hk1]
 have hl:=iH s.wa
 refine Cl.o Tryz.func236 Tryz.ntmps236 ag2 ?_
 refine .ai (.bx hs fun b2 w hs=>?_)
 refine .bx hs fun b3 w hs=>?_
 refine .zn zg (.seq (.ai (.z (zfa cf) (.y hs (zld af) (.z (zfa cn) (.z (zfa iO) (.y hs (zld af) (.zn gg (.dO rfl (fun hc12=>?_) (fun hc12=>?_))))))))))
 ·refine .ai (.zn zg (.ret (rT (Fin.bu Tryz.results236 rfl ?_))))
  exact ⟨H,HLe.refl H,by rw [hW,if_neg ak],hs.out⟩
 ·refine .skip (nT (.ai (.z (zfa eE) (.z (zfa bg) (.y hs (zld an) (.o (.call Tryz.call275 rfl (kN hs h2) ?_)))))));rintro _ w ⟨H1,vo,e,hle1,rfl,hGx,hs⟩
  obtain ⟨rfl,hG⟩:=hGx (FI hok)
  obtain ⟨aG,cG,rfl⟩:=RI.shape hG
  refine .z zm (.z zex (.z zex (.z zg (.zn zg (.ai (.z zm (.z (zfa bZ) (.y hs (zld af) (.ixY hs hG rfl rfl ae aj (bB (l:=(wts s.wa)) (i:=k) ak) df ?_)))))))));intro b23 o23 hc23
  refine .q hs (aQ rfl af hc23) (.zn zg (.ret (Fin.bu Tryz.results236 rfl ?_)))
  exact ⟨H1,hle1,by rw [hW,if_pos ak],hs.out⟩
theorem se{s:Spc}{q:Wht}{vst vwa:Value}{i k:Nat}{u:Int}(hs:St H w σ)(hk1:q.kind=4):
  Cl Tryz.prog 238 [.agg #[I q.kind,I q.st,I q.wa,I s.id,I s.src,vst,vwa,I s.al,I s.up],.agg #[I (i:Int),I (k:Int),I u]] w fun v w'=>∃H1,HLe H H1∧v=I (oI s q i k)∧St H1 w' σ:=by
 have hW:oI s q i k=if (i:Int)=q.st∧(k:Int)=q.wa then 1 else 0:=by unfold oI;rw [if_neg ak,if_neg ak,if_neg ak]
 refine Cl.o Tryz.func238 Tryz.ntmps238 ag2 ?_
 refine .ai (.bx hs fun b2 w hs=>?_)
 refine .bx hs fun b3 w hs=>?_
 refine .zn zg (.seq (.ai (.z (zfa cf) (.y hs (zld af) (.z (zfa cn) (.z (zfa iO) (.y hs (zld af) (.z gg (.z zm (.Dj (t':=11) rfl (fun hb11=>?_) (fun hb11=>?_)))))))))))
 ·refine .Fs 6 6 false (.zn zpT (.cT (.ai (.zn zg (.ret (rT (Fin.bu Tryz.results238 rfl ?_)))))))
  first
  |exact ⟨H,HLe.refl H,by rw [hW,if_neg ak],hs.out⟩
  |exact ⟨H,HLe.refl H,by rw [hW,if_pos ak],hs.out⟩
 ·refine .T (.z (zfa bZ) (.T (.y hs (zld af) (.T (.z (zfa cn) (.T (.z (zfa fL) (.T (.y hs (zld af) (.T (.z gg (.zn zpF (.dO rfl (fun hc18=>?_) (fun hc18=>?_))))))))))))))
  ·refine .ai (.zn zg (.ret (rT (Fin.bu Tryz.results238 rfl ?_))))
   first
   |exact ⟨H,HLe.refl H,by rw [hW,if_neg ak],hs.out⟩
   |exact ⟨H,HLe.refl H,by rw [hW,if_pos ak],hs.out⟩
  ·refine .skip (nT (.ai (.zn zg (.ret (Fin.bu Tryz.results238 rfl ?_)))))
   first
   |exact ⟨H,HLe.refl H,by rw [hW,if_neg ak],hs.out⟩
   |exact ⟨H,HLe.refl H,by rw [hW,if_pos ak],hs.out⟩
def AN(k:Int):Nat:=if k=1 then 229 else if k=2 then 232 else if k=3 then 234 else 237
def AD(k:Int):Nat:=if k=1 then 231 else if k=2 then 233 else if k=3 then 236 else 238
def zW(k:Int):Value:= .agg #[.func (.func (AN k)) #[] #[],.func (.func (AD k)) #[] #[],I (pD ⟨k,0,0⟩)]
def GK:List MapEntry:=[{key:=I 1,val:=zW 1,born:=0},{key:=I 2,val:=zW 2,born:=1},{key:=I 3,val:=zW 3,born:=2},{key:=I 4,val:=zW 4,born:=3}]
theorem kR(hs:St H w σ):
  Cl Tryz.prog 187 [] w fun v w'=>∃b,v= .map (some b)∧St H w' (.obj b (.map GK.toArray 4)::σ):=by
 refine Cl.of Tryz.func187 rfl Tryz.ntmps187 bV (xb) (.ai (.zn zg (.ai (.o (.makeMap hs fun b1 w hs=>?_)))))
 refine .z (zbd [_,_,_] iw) (.o (.insert (es:=[]) hs rfl rfl rfl ea aV rfl fun w hs=>?_))
 refine .z (zbd [_,_,_] iw) (.o (.insert (es:=[{key:=I 1,val:=zW 1,born:=0}]) hs rfl rfl rfl ea aV rfl fun w hs=>?_))
 refine .z (zbd [_,_,_] iw) (.o (.insert (es:=[{key:=I 1,val:=zW 1,born:=0},{key:=I 2,val:=zW 2,born:=1}]) hs rfl rfl rfl ea aV rfl fun w hs=>?_))
 refine .z (zbd [_,_,_] iw) (.o (.insert (es:=[{key:=I 1,val:=zW 1,born:=0},{key:=I 2,val:=zW 2,born:=1},{key:=I 3,val:=zW 3,born:=2}]) hs rfl rfl rfl ea aV rfl fun w hs=>?_))
 refine .z zm (.zn zg (.ret (Fin.bu Tryz.results187 rfl ?_)))
 exact ⟨b1,rfl,hs⟩
def lF1(k:Int):Value:=if 1≤k∧k≤4 then .func (.func (AN k)) #[] #[] else .nilFunc
def lF2(k:Int):Value:=if 1≤k∧k≤4 then .func (.func (AD k)) #[] #[] else .nilFunc
def lD(k:Int):Int:=if 1≤k∧k≤4 then pD ⟨k,0,0⟩ else 0
theorem zV(k:Int):[lF1 k,lF2 k,I (lD k)].all Value.oneCell'=true:=by
 unfold lF1 lF2;split<;>rfl
theorem B2{H:bw}{s:FS}{x y:Operand}{b:Nat}(k:Int)(hx:FS.ev s x=some (.map (some b)))(hy:FS.ev s y=some (I k)):
  QJ Tryz.prog H [.obj b (.map GK.toArray 4)] s (.lookup 238 x y true) (.tuple #[.agg #[lF1 k,lF2 k,I (lD k)],.bool (decide (1≤k∧k≤4))]):=by
 by_cases h:1≤k∧k≤4
 ·rw [decide_eq_true h]
  have h4:k=1∨k=2∨k=3∨k=4:=by omega
  rcases h4 with rfl|rfl|rfl|rfl
  ·exact zM (v:=zW 1) (j:=0) hx hy ea aV rfl .here
  ·exact zM (v:=zW 2) (j:=1) hx hy ea aV rfl .here
  ·exact zM (v:=zW 3) (j:=2) hx hy ea aV rfl .here
  ·exact zM (v:=zW 4) (j:=3) hx hy ea aV rfl .here
 ·rw [decide_eq_false h]
  have e1:lF1 k= .nilFunc:=if_neg h
  have e2:lF2 k= .nilFunc:=if_neg h
  have e3:lD k=0:=if_neg h
  rw [e1,e2,e3]
  refine FX (es:=GK) (c:=4) hx hy ea aV IJ ?_ .here
  have n1:(k==1)=false:=by simp only [beq_eq_false_iff_ne];omega
  have n2:(k==2)=false:=by simp only [beq_eq_false_iff_ne];omega
  have n3:(k==3)=false:=by simp only [beq_eq_false_iff_ne];omega
  have n4:(k==4)=false:=by simp only [beq_eq_false_iff_ne];omega
  simp [Instr.findNow,Instr.sameNow,GK,n1,n2,n3,n4]
theorem DK(k:Int):∀args w,(callFunc (AN k) args).run Tryz.prog w= .ok (.enter (AN k) args) w:=by
 unfold AN
 split
 ·exact Tryz.call229
 ·split
  ·exact Tryz.call232
  ·split
   ·exact Tryz.call234
   ·exact Tryz.call237
theorem Dw(k:Int):∀args w,(callFunc (AD k) args).run Tryz.prog w= .ok (.enter (AD k) args) w:=by
 unfold AD
 split
 ·exact Tryz.call231
 ·split
  ·exact Tryz.call233
  ·split
   ·exact Tryz.call236
   ·exact Tryz.call238
theorem DJ{s:Spc}{q:Wht}{vst vwa:Value}(hs:St H w σ)(h1:RI H vst s.st)(h2:RI H vwa s.wa)(hk:1≤q.kind∧q.kind≤4):
  Cl Tryz.prog (AN q.kind) [.agg #[I q.kind,I q.st,I q.wa,I s.id,I s.src,vst,vwa,I s.al,I s.up]] w fun v w'=>∃b:Bool,v= .bool b∧(b=true↔fB s q)∧St H w' σ:=by
 unfold AN
 split
 ·exact xY hs h2 eb
 ·split
  ·exact xX hs h2 eb
  ·split
   ·exact xW hs h1 eb
   ·exact xV hs h1 h2 ak
theorem Dv{s:Spc}{q:Wht}{vst vwa:Value}{i k:Nat}{u:Int}(hs:St H w σ)(h1:RI H vst s.st)(h2:RI H vwa s.wa)(hok:eZ s)(hq:fB s q)(hk:1≤q.kind∧q.kind≤4)(hi:i<s.st.length)(hkw:k<s.wa.length):
  Cl Tryz.prog (AD q.kind) [.agg #[I q.kind,I q.st,I q.wa,I s.id,I s.src,vst,vwa,I s.al,I s.up],.agg #[I (i:Int),I (k:Int),I u]] w fun v w'=>∃H1,HLe H H1∧v=I (oI s q i k)∧St H1 w' σ:=by
 unfold AD
 split
 ·exact sf hs h1 h2 hok hq eb hi
 ·split
  ·exact ti hs h1 hok eb hi
  ·split
   ·exact qT hs h2 hok eb hkw
   ·exact se hs ak
theorem Hq{q:Wht}(h:1≤q.kind∧q.kind≤4):lD q.kind=pD q:=by
 unfold lD;rw [if_pos h];rfl
theorem Du{s:Spc}{q:Wht}(h:fB s q):1≤q.kind∧q.kind≤4:=by
 rcases qS.1 h with h|h|h|h<;>omega
set_option maxHeartbeats 1000000 in
theorem jY{s:Spc}{q:Wht}{vst vwa:Value}(hs:St H w σ)(h1:RI H vst s.st)(h2:RI H vwa s.wa)(hok:eZ s):
  Cl Tryz.prog 130 [.agg #[I s.id,I s.src,vst,vwa,I s.al,I s.up],.agg #[I q.kind,I q.st,I q.wa]] w fun u w'=>∃H1 vl L d b en,HLe H H1∧u= .tuple #[vl,I d,.bool b]∧bS 1 vl (Is L) en∧((b=true∧fB s q∧L=lF s q∧d=pD q)∨(b=false∧¬fB s q∧L=[]∧d=0))∧St H1 w' (en::σ):=by
 have hsm:=dX hok
 obtain ⟨ast,cst,rfl⟩:=RI.shape h1
 obtain ⟨awa,cwa,rfl⟩:=RI.shape h2
 refine Cl.o Tryz.func130 Tryz.ntmps130 ag2 ?_
 refine .ai (.bx hs fun b2 w hs=>?_)
 refine .bx hs fun b3 w hs=>?_
 refine .z zg (.z zg (.zn zg (.cut (fun fs w=>∃b7,lZ fs ⟨46,[],[(8,.bool (decide (1≤q.kind∧q.kind≤4))),(7,Pt b7),(2,Pt b2),(3,Pt b3)]⟩∧St H w (.blk b7 [lF1 q.kind,lF2 q.kind,I (lD q.kind)]:: .blk b3 [I q.kind,I q.st,I q.wa]:: .blk b2 [I s.id,I s.src,(.slice ast s.st.length cst),(.slice awa s.wa.length cwa),I s.al,I s.up]::σ)) ?_ ?_)))
 ·refine .draw mix rfl hs fun w hs=>?_
  refine .zw 1 rfl (zfa wU) ?_;refine .y 2 rfl hs af ?_
  refine .e2 (i:=0) (j:=7) aE rfl rfl rfl rfl .none .none hs ?_ ?_
  ·refine .call Tryz.call187 rfl (kR hs) ?_;rintro _ w ⟨b13,rfl,hs⟩
   refine .go (.q (i:=3) [.obj b13 (.map GK.toArray 4)] rfl aE .none (B2 (H:= .bot) q.kind rfl rfl) ?_)
   refine .zw 4 rfl zm ?_;refine .z 5 rfl zex ?_;refine .z 6 rfl zex ?_
   refine .E 7 hs ?_
   refine .alloc hs IJ rfl ?_;intro b7 w hs
   refine .go (.E 8 hs ?_)
   refine .aH (vs:=[lF1 q.kind,lF2 q.kind,I (lD q.kind)]) hs rfl rfl Tryz.sizeOf236 ?_ (hv:=zV _);intro w hs
   refine .go (.zw 9 rfl zg ?_);refine .D hs ?_
   exact nT ⟨b7,bn,hs.sb⟩
  ·refine .alloc hs IJ rfl ?_;intro b7 w hs
   refine .go (.E 0 hs ?_)
   refine .call Tryz.call187 rfl (kR hs) ?_;rintro _ w ⟨b13,rfl,hs⟩
   refine .go (.q (i:=3) [.obj b13 (.map GK.toArray 4)] rfl aE .none (B2 (H:= .bot) q.kind rfl rfl) ?_)
   refine .zw 4 rfl zm ?_;refine .z 5 rfl zex ?_;refine .z 6 rfl zex ?_
   refine .E 8 hs ?_
   refine .aH (vs:=[lF1 q.kind,lF2 q.kind,I (lD q.kind)]) hs rfl rfl Tryz.sizeOf236 ?_ (hv:=zV _);intro w hs
   refine .go (.zw 9 rfl zg ?_);refine .D hs ?_
   exact nT ⟨b7,bn,hs.sb⟩
 ·rintro fs w ⟨b7,hfs,hs⟩
  refine WE.sub ?_ hfs
  refine .ai (.y hs (zls [_,_,_] qR gQ) (.y hs (zls [_,_,_,_,_,_] aM aD) (.z (zbd (vs:=[(0,.agg #[I q.kind,I q.st,I q.wa]),(1,.agg #[I s.id,I s.src,(.slice ast s.st.length cst),(.slice awa s.wa.length cwa),I s.al,I s.up])]) [I q.kind,I q.st,I q.wa,I s.id,I s.src,(.slice ast s.st.length cst),(.slice awa s.wa.length cwa),I s.al,I s.up] sL rfl aE) (.o (.alloc hs Tryz.zeroValue241 rfl fun b9 w hs=>?_)))))
  refine .o (.aH (vs:=[_,_,_,_,_,_,_,_,_]) hs rfl rfl kI fun w hs=>?_)
  refine .nil (.seq (.ai (.z zm (.z gP (.z zm (.bif (t':=24) rfl (fun hb24=>?_) (fun hb24=>?_)))))))
  ·refine .Fs 5 2 false (.zn zpT (.cT (.ai (.z zg (.z zg (.zn zg (.ret (rT (?_)))))))))
   have hn:¬fB s q:=fun h=>by have:=Du h;simp [this] at hb24
   exact Fin.gj [] [] hs fun w hs=>⟨_,results3 Tryz.results130 rfl rfl rfl,H,_,[],_,_,.nul,HLe.refl H,rfl,.nil 1 none,.inr ⟨rfl,hn,rfl,rfl⟩,hs.out.nul⟩
  ·refine .T ?_
   have hk:1≤q.kind∧q.kind≤4:=by simpa using hb24
   rw [show lF1 q.kind= .func (.func (AN q.kind)) #[] #[] from if_pos hk,show lF2 q.kind= .func (.func (AD q.kind)) #[] #[] from if_pos hk,Hq hk] at hs
   refine .z (zfa rD) (.T (.y hs (zld Tryz.isAgg233) (.T (.y hs (zls [_,_,_,_,_,_,_,_,_] qO kI) (.T (.o (.nI (first:=[]) (cap:=[]) rfl rfl (DK q.kind) (DJ (s:=s) hs h1 h2 hk) ?_)))))));rintro _ w ⟨b28,rfl,hb28,hs⟩
   refine .T (.z gP (.zn zpF (.cond rfl (fun hc30=>?_) (fun hc30=>?_))))
   ·refine .ai (.z zg (.z zg (.zn zg (.ret (rT (?_))))))
    have hn:¬fB s q:=fun h=>by rw [hb28.2 h] at hc30;cases hc30
    exact Fin.gj [] [] hs fun w hs=>⟨_,results3 Tryz.results130 rfl rfl rfl,H,_,[],_,_,.nul,HLe.refl H,rfl,.nil 1 none,.inr ⟨rfl,hn,rfl,rfl⟩,hs.out.nul⟩
   ·refine .skip (nT (.ai (.o (.buildSlice (cells:=[_]) hs bX rfl rfl fun b31 w hs=>?_))))
    refine .o (.alloc hs dz rfl fun b10 w hs=>?_)
    refine .o (.store hs rfl rfl au fun w hs=>?_)
    refine .nil (.seq (.ai (.y hs (zls [_,_,_,_,_,_] aM aD) ?_)))
    have hq:fB s q:=hb28.1 (by simpa using hc30)
    refine .o (.call uI rfl (ef (s:=s) hs h1 h2 ⟨ak,ak⟩) ?_);rintro _ w ⟨H1,ba,hle1,rfl,hit,hs⟩
    have hwl:=gx s q
    refine .nil (.block ?_)
    refine .rangeFunc (gf:=188) (cap:=[Pt ba]) (xs:=uM s) (σb:=[.blk b10 [.slice (some ⟨b31,0,none⟩) 1 1],.blk b31 (Is [0]),.blk b7 [.func (.func (AN q.kind)) #[] #[],.func (.func (AD q.kind)) #[] #[],I (pD q)],.blk b9 [I q.kind,I q.st,I q.wa,I s.id,I s.src,(.slice ast s.st.length cst),(.slice awa s.wa.length cwa),I s.al,I s.up]]) (σf:=σ) (hs.sb) trivial rfl hit uG (fun x hx=>by
      simp only [uM,List.mem_map] at hx
      obtain ⟨j,_,rfl⟩:=hx;rfl) rfl
     (I:=fun p H' σb=>∃vo en,σb=[.blk b10 [vo],en,.blk b7 [.func (.func (AN q.kind)) #[] #[],.func (.func (AD q.kind)) #[] #[],I (pD q)],.blk b9 [I q.kind,I q.st,I q.wa,I s.id,I s.src,(.slice ast s.st.length cst),(.slice awa s.wa.length cwa),I s.al,I s.up]]∧bS 1 vo (Is ((lF s q).take (p+1))) en) (Ix:=fun _ _ _=>False)
     (fun j _ _ σ g1 g2=>g2) (fun _ _ _ _ _ h=>h) ⟨_,_,rfl,.full rfl⟩ ?_ ?_ (fun D c H' σb w _ h _=>h.elim)
    ·rintro ly p hp H2 σb2 σf2 w hle2 ⟨vo,en,rfl,hO⟩ hs ⟨rr,hrr⟩
     have hpm:p<s.many:=by rw [di] at hp;exact hp
     have hin:p/s.wa.length<s.st.length:=Nat.div_lt_of_lt_mul (by rw [Nat.mul_comm];exact hpm)
     have hkm:=Nat.mod_lt p hsm.2.2.1
     have hws:=xw s q hpm
     have hget:(lF s q)[p+1]? =some (oI s q (p/s.wa.length) (p%s.wa.length)):=by rw [←hws];exact bB ak
     rw [k8 hp]
     obtain ⟨al,ll,cl,rfl,hll⟩:=hO.shape
     generalize p/s.wa.length=i at*
     generalize p%s.wa.length=k at*
     refine .region (.o (.alloc hs iC rfl fun b11 w hs=>?_))
     refine .o (.aH (vs:=[_,_,_]) hs rfl rfl kJ fun w hs=>?_)
     refine .nil (nT (⟨H2,[.blk b11 [I (i:Int),I (k:Int),I ((p+1:Nat):Int)],.blk b10 [Value.slice al ll cl],en,.blk b7 [.func (.func (AN q.kind)) #[] #[],.func (.func (AD q.kind)) #[] #[],I (pD q)],.blk b9 [I q.kind,I q.st,I q.wa,I s.id,I s.src,(.slice ast s.st.length cst),(.slice awa s.wa.length cwa),I s.al,I s.up]],HLe.refl _,hs,?_⟩));rintro w σf4 - hs
     refine .block (.draw mix rfl hs fun w hs=>?_)
     refine .y 0 rfl hs an ?_;refine .z 1 rfl (zfa rC) ?_
     refine .zv 2 rfl hs (qm Tryz.isAgg234) (.ys 3 rfl hs [_,_,_,_,_,_,_,_,_] qO kI ?_);refine .ys 4 rfl hs [_,_,_] Tryz.isAgg190 kJ ?_
     refine .E 5 hs ?_
     refine .nI (first:=[]) (cap:=[]) rfl rfl (Dw q.kind) (Dv (s:=s) (q:=q) (i:=i) (k:=k) hs (h1.mono (hle1.trans hle2)) (h2.mono (hle1.trans hle2)) hok hq hk hin hkm) ?_;rintro _ w ⟨H3,hle3,rfl,hs⟩
     refine .go (.E 6 hs ?_)
     refine .buildSlice (cells:=[_]) hs bX rfl rfl ?_;intro b41 w hs
     refine .go (.E 7 hs ?_)
     refine .append (ys:=Is [oI s q i k]) hs bP rfl rfl hO (.own .here rfl rfl) (ia _) (fun l h=>by simp at h;omega) ?_;intro v42 en42 w hO2 hs
     rw [show Is ((lF s q).take (p+1))++Is [oI s q i k]=Is ((lF s q).take (p+1+1)) by rw [cZ hget];simp [Is]] at hO2
     obtain ⟨a42,l42,c42,rfl,h42⟩:=hO2.shape
     refine .go (.E 8 hs ?_)
     refine .store hs rfl rfl au ?_;intro w hs
     refine .go (.D hs (nB ?_))
     exact ⟨H3,[.blk b10 [.slice a42 l42 c42],en42,.blk b7 [.func (.func (AN q.kind)) #[] #[],.func (.func (AD q.kind)) #[] #[],I (pD q)],.blk b9 [I q.kind,I q.st,I q.wa,I s.id,I s.src,(.slice ast s.st.length cst),(.slice awa s.wa.length cwa),I s.al,I s.up]],hle3,(hs.sb:St H3 w (.blk b10 _::en42:: .blk b7 _:: .blk b9 _::σf4)),_,_,rfl,hO2⟩
    ·rintro D H2 σb2 w hle2 ⟨vo,en,rfl,hO⟩ hs
     rw [di,←hwl,List.take_length] at hO
     replace hs:St H2 w (.obj D (.deferred (some [])):: .blk b10 [vo]::en:: .blk b7 [.func (.func (AN q.kind)) #[] #[],.func (.func (AD q.kind)) #[] #[],I (pD q)]:: .blk b9 [I q.kind,I q.st,I q.wa,I s.id,I s.src,(.slice ast s.st.length cst),(.slice awa s.wa.length cwa),I s.al,I s.up]::σ):=hs
     obtain ⟨al,ll,cl,rfl,hll⟩:=hO.shape
     refine nB (nT (.seq (.draw mix rfl hs fun w hs=>?_)))
     refine .y 0 rfl hs an ?_;refine .z 1 rfl (zfa rA) ?_;refine .y 2 rfl hs af ?_;refine .z 3 rfl zg ?_;refine .z 4 rfl zg ?_;refine .z 5 rfl zg ?_;refine .D hs ?_
     refine .ret ?_
     exact Fin.gj [D] [] hs fun w hs=>⟨_,results3 Tryz.results130 rfl rfl rfl,H2,_,_,_,_,en,hle1.trans hle2,rfl,hO,.inl ⟨rfl,hq,rfl,rfl⟩,hs.sb⟩
theorem jc{a d:Int}(hs:St H w σ)(hd:1≤d)(ha: -4608000000000000000≤a∧a≤4608000000000000000):
  Cl Tryz.prog 132 [I a,I d] w fun v w'=>v=I (a/d)∧St H w' σ:=by
 have hq: -4608000000000000000≤a.tdiv d∧a.tdiv d≤4608000000000000000:=by
  have h1:=s7 (n:=a) (d:=d) ak
  have h2:a/d≤4608000000000000000:=Int.ediv_le_of_le_mul ak (by
   have:=Int.mul_le_mul_of_nonneg_left hd (show (0:Int)≤4608000000000000000 by omega);omega)
  have h3: -4608000000000000000≤a/d:=Int.le_ediv_of_mul_le ak (by
   have:=Int.mul_le_mul_of_nonneg_left hd (show (0:Int)≤4608000000000000000 by omega);omega)
  by_cases h0:0≤a
  ·rw [Int.tdiv_eq_ediv_of_nonneg h0];omega
  ·split at h1
   ·have:a/d<0:=Int.ediv_neg_of_neg_of_pos ak ak
    omega
   ·omega
 have hfl:=s7 (n:=a) (d:=d) ak
 refine Cl.o Tryz.func132 Tryz.ntmps132 ag2 ?_
 refine .ai (.zn zg (.ai (.z zm (.z zm (.q hs (xI rfl rfl ak ⟨ak,ak⟩) (.zn zg (.seq (.ai (.z zm (.z zm (.z Az (.zn iJ (.bO rfl (fun hc12=>?_) (fun hc12=>?_))))))))))))))
 ·refine .region (.z zm (.z ib (.zn zg (nT (.ai (.z zm (.zn zg (.ret (Fin.bu Tryz.results132 rfl ?_)))))))))
  rw [if_pos hc12] at hfl
  exact ⟨by rw [hfl],hs⟩
 ·refine .skip (nT (.ai (.z zm (.zn zg (.ret (Fin.bu Tryz.results132 rfl ?_))))))
  rw [if_neg hc12,Int.sub_zero] at hfl
  exact ⟨by rw [hfl],hs⟩
theorem pw{s:Srv}{vst vwa vr vc:Value}(hs:St H w σ)(h1:RI H vst s.sp.st)(h2:RI H vwa s.sp.wa)(h3:RRd H vr s.rs)(h4:RCm H vc s.cs)(hok:dC s):
  Cl Tryz.prog 178 [.agg #[I s.sp.id,I s.sp.src,vst,vwa,I s.sp.al,I s.sp.up,vr,vc]] w fun u w'=>∃H1,∃b:Bool,HLe H H1∧u= .bool b∧(b=true↔s.sys.Sound)∧St H1 w' σ:=by
 refine Cl.o Tryz.func178 Tryz.ntmps178 ag1 ?_
 refine .ai (.bx hs fun b1 w hs=>?_)
 refine .zn zg (.ai (.y hs (zls [_,_,_,_,_,_,_,_] aI aB) (.o (.call IL rfl (eG (s:=s) hs h1 h2 h3 h4 hok.early) ?_))));rintro v7 w ⟨H1,hle1,hS,hs⟩
 refine .o (.call Tryz.call221 rfl (sJ (s:=s.sys) hs hS) ?_);rintro _ w ⟨H2,vx,xs,e,hle2,rfl,rx,hC,hs⟩
 obtain ⟨ax,cx,rfl⟩:=RI.shape rx
 have hchk:s.sys.check=0:=s.sys.db.2 hok.sys
 obtain rfl:e=0:=by
  cases hC with
  |bad h=>exact (h hchk).elim
  |sound=>rfl
  |chain=>rfl
 have hiff:=hC.BH
 refine .z zm (.z zex (.z zex (.z zg (.zn zg (.ai (.z zm (.z kd (.z zm (.kF (t':=13) rfl (fun hb13=>?_) (fun hb13=>?_))))))))))
 ·refine .T (.z zm (.T (.z (cU ae) (.T (.z kd (.z zpT (.zn zg (.ret (Fin.bu Tryz.results178 rfl ?_)))))))))
  first
  |exact ⟨H2,_,hle1.trans hle2,rfl,by rw [←hiff,decide_eq_true_eq];exact ⟨fun h=>List.length_eq_zero_iff.1 ak,fun h=>by rw [h];rfl⟩,hs.out⟩
  |exact (hb13 rfl).elim
 ·refine .Fs 3 2 true (.z zpF (.zn zg (.ret (Fin.bu Tryz.results178 rfl ?_))))
  first
  |exact ⟨H2,_,hle1.trans hle2,rfl,by rw [←hiff,decide_eq_true_eq];exact ⟨fun h=>List.length_eq_zero_iff.1 ak,fun h=>by rw [h];rfl⟩,hs.out⟩
  |exact (hb13 rfl).elim
theorem ES(L:List Int)(j:Nat):L++List.replicate j 0++[0]=L++List.replicate (j+1) 0:=by
 rw [List.append_assoc,←List.replicate_succ']
set_option maxHeartbeats 1000000 in
theorem sy{s:Srv}{q:Wht}{vst vwa vr vc:Value}(hs:St H w σ)(h1:RI H vst s.sp.st)(h2:RI H vwa s.sp.wa)(h3:RRd H vr s.rs)(h4:RCm H vc s.cs)(hok:dC s):
  Cl Tryz.prog 177 [.agg #[I s.sp.id,I s.sp.src,vst,vwa,I s.sp.al,I s.sp.up,vr,vc],.agg #[I q.kind,I q.st,I q.wa]] w fun u w'=>∃H1 ul vw L d b,HLe H H1∧u= .tuple #[.agg #[I s.sys.many,ul,vw,I d],.bool b]∧RL H1 ul s.bY∧RI H1 vw L∧L.length=s.sys.n∧((b=true∧fB s.sp q∧L=s.w q∧d=pD q)∨(b=false∧¬fB s.sp q))∧St H1 w' σ:=by
 have hn:=tw s
 have hm:=hok.many
 have hsm:s.sys.many+1=(s.sys.n:Int):=by rw [hn];show ((s.sp.many+s.bM.length:Nat):Int)+1=_;omega
 refine Cl.o Tryz.func177 Tryz.ntmps177 ag2 ?_
 refine .ai (.bx hs fun b2 w hs=>?_)
 refine .bx hs fun b3 w hs=>?_
 refine .o (.alloc hs oC rfl fun b4 w hs=>?_)
 refine .zn zg (.ai (.y hs (zls [_,_,_,_,_,_,_,_] aI aB) (.o (.call IL rfl (eG (s:=s) hs h1 h2 h3 h4 hok.early) ?_))));rintro _ w ⟨H1,hle1,⟨ul,rfl,hL⟩,hs⟩
 obtain ⟨al,cl,rfl⟩:=RL.shape hL
 refine .o (.alloc hs dG rfl fun b6 w hs=>?_)
 refine .o (.aH (vs:=[_,_]) hs rfl rfl aF fun w hs=>?_)
 refine .nil (.ai (.z (zfa bj) (.y hs (zls [_,_,_,_,_,_] aM aD) (.y hs (zls [_,_,_] qR gQ) (.o (.call Tryz.call130 rfl (jY (s:=s.sp) (q:=q) hs (h1.mono hle1) (h2.mono hle1) hok.early.1) ?_))))));rintro _ w ⟨H2,vl,L0,d,b,en,hle2,rfl,hO,hcase,hs⟩
 have hL0:L0.length≤s.sys.n:=by
  rcases hcase with ⟨_,_,rfl,_⟩|⟨_,_,rfl,_⟩
  ·rw [gx,hn];omega
  ·simp
 have hle02:=hle1.trans hle2
 refine .z zm (.z zex (.z zex (.z zex (.z zg (.z zg (.zn zg (.seq (.block ?_))))))))
 refine .loop (fun p:Nat×Value=>⟨34,[],[(7,p.2),(8,I d),(9,.bool b),(6,Pt b6),(4,Pt b4)]⟩)
  (fun p w=>L0.length+p.1≤s.sys.n∧∃en,bS 1 p.2 (Is (L0++List.replicate p.1 0)) en∧St H2 w (en:: .blk b6 [I s.sys.many,.slice al s.bY.length cl]:: .blk b4 [I 0,.slice none 0 0,.slice none 0 0,I 0]::σ)) (fun p=>s.sys.n - (L0.length+p.1)) (0,vl) bn
  ⟨by simpa using hL0,en,by simpa using hO,hs.sb⟩ ?_
 clear hO hs
 rintro ⟨j,vo⟩ w ⟨hj,en,hO,hs⟩
 dsimp only at hj hO ⊢
 obtain ⟨ao,lo,co,rfl,hlo⟩:=hO.shape
 have hlo':lo=L0.length+j:=by simp [Is] at hlo;omega
 refine .seq (.ai (.z zm (.z (cU ae) (.z (zfa bG) (.y hs (zld af) (.z cq (.zn iJ (.bO rfl (fun hc25=>?_) (fun hc25=>?_)))))))))
 ·refine .skip (nT (.block (.region (.z zm (.o (.buildSlice (cells:=[_]) hs bX rfl rfl fun b27 w hs=>?_))))))
  refine .o (.append (ys:=Is [0]) hs bP rfl rfl hO (.own .here rfl rfl) (ia _) (fun l' h=>by simp [Is] at h;omega) ?_);intro v28 en28 w hO2 hs
  rw [show Is (L0++List.replicate j 0)++Is [0]=Is (L0++List.replicate (j+1) 0) by rw [←ES];simp [Is]] at hO2
  refine .zn zg (nB (nT ?_))
  exact ⟨(j+1,v28),bn,⟨by dsimp only;omega,_,hO2,hs.sb⟩,by dsimp only;omega⟩
 ·refine .exit (xT (xT (xB (nT (.ai (.y hs (zls [_,_] aZ aF) (.z zm (.z zm (.z (zbd [_,_,_,_] fo) (.z zm (.o (.aH (vs:=[_,_,_,_]) hs rfl rfl dv fun w hs=>?_))))))))))))
  refine .zn zg (.ret ?_)
  have hjn:L0.length+j=s.sys.n:=by omega
  obtain ⟨H3,hle3,hR,hs⟩:=bS.dJ hO (by simp;omega) hs fh
  exact Fin.gj [] [] hs fun w hs=>⟨_,results2 Tryz.results177 (cC (vs:=[_,_,_,_]) hs rfl qQ dv) rfl,H3,_,_,_,d,b,hle02.trans hle3,rfl,hL.mono (hle2.trans hle3),hR,by simp;omega,by
   rcases hcase with ⟨g1,g2,rfl,g3⟩|⟨g1,g2,_,_⟩
   ·refine .inl ⟨g1,g2,?_,g3⟩
    rw [gx,hn] at hjn
    unfold Srv.w;rw [show j=s.bM.length by omega]
   ·exact .inr ⟨g1,g2⟩,hs.out⟩
inductive vf(v:Srv)(q:Wht):Int→Prop
 |bad {e:Int} (h:xp v e) (he:e≠0):vf v q e
 |what (h:dC v) (h1:¬fB v.sp q):vf v q 33
 |fls (h:dC v) (h1:fB v.sp q) (h2:¬v.sys.Sound):vf v q 35
 |ok (h:dC v) (h1:fB v.sp q) (h2:v.sys.Sound):vf v q 0
theorem vf.zero{v:Srv}{q:Wht}(h:vf v q 0):dC v∧fB v.sp q∧v.sys.Sound:=by
 generalize hz:(0:Int)=z at h
 cases h with
 |bad h he=>exact (he hz.symm).elim
 |what=>omega
 |fls=>omega
 |ok h h1 h2=>exact ⟨h,h1,h2⟩
theorem vf.qty{v:Srv}{q:Wht}{e:Int}(h:vf v q e)(he:e≠0):Ar v q 0 0 e:=by
 cases h with
 |bad h he=>exact .bad h he
 |what h h1=>exact .what h h1
 |fls h h1 h2=>exact .fls h h1 h2
 |ok=>exact (he rfl).elim
set_option maxHeartbeats 1000000 in
theorem kS{s:Srv}{q:Wht}{vst vwa vr vc:Value}(hs:St H w σ)(h1:RI H vst s.sp.st)(h2:RI H vwa s.sp.wa)(h3:RRd H vr s.rs)(h4:RCm H vc s.cs):
  Cl Tryz.prog 125 [.agg #[I s.sp.id,I s.sp.src,vst,vwa,I s.sp.al,I s.sp.up,vr,vc],.agg #[I q.kind,I q.st,I q.wa]] w fun u w'=>∃H1 m ul vw d e,HLe H H1∧u= .tuple #[.agg #[I m,ul,vw,I d],I e]∧(∃a l c,ul= .slice a l c)∧(∃a l c,vw= .slice a l c)∧vf s q e∧(e=0→m=s.sys.many∧RL H1 ul s.bY∧RI H1 vw (s.w q)∧d=pD q)∧St H1 w' σ:=by
 refine Cl.o Tryz.func125 Tryz.ntmps125 ag2 ?_
 refine .ai (.bx hs fun b2 w hs=>?_)
 refine .bx hs fun b3 w hs=>?_
 refine .o (.alloc hs oC rfl fun b4 w hs=>?_)
 refine .zn zg (.seq (.ai (.y hs (zls [_,_,_,_,_,_,_,_] aI aB) (.o (.call IM rfl (eU (s:=s) hs h1 h2 h3 h4) ?_)))));rintro _ w ⟨H1,e,hle1,rfl,hC,hs⟩
 refine .zn zg (.ai (.z zm (.zn gg (.dO rfl (fun hc12=>?_) (fun hc12=>?_)))))
 ·refine .ai (.z (zbd [_,_,_,_] fo) (.z zm (.o (.aH (vs:=[_,_,_,_]) hs rfl rfl dv fun w hs=>?_))))
  refine .zn zg (.ret (rT (?_)))
  exact Fin.gj [] [] hs fun w hs=>⟨_,results2 Tryz.results125 (cC (vs:=[_,_,_,_]) hs rfl qQ dv) rfl,H1,_,_,_,_,e,hle1,rfl,⟨_,_,_,rfl⟩,⟨_,_,_,rfl⟩,.bad hC hc12,fun h=>(hc12 h).elim,hs.out⟩
 ·refine .skip (nT (.ai (.y hs (zls [_,_,_,_,_,_,_,_] aI aB) (.y hs (zls [_,_,_] qR gQ) ?_))))
  have hok:dC s:=hC.db.1 (by simpa using hc12)
  refine .o (.call Tryz.call177 rfl (sy (s:=s) (q:=q) hs (h1.mono hle1) (h2.mono hle1) (h3.mono hle1) (h4.mono hle1) hok) ?_);rintro _ w ⟨H2,ul,vw,L,d,b,hle2,rfl,hL,hR,hLl,hcase,hs⟩
  have hle02:=hle1.trans hle2
  obtain ⟨al,cl,rfl⟩:=RL.shape hL
  obtain ⟨aw,cw,rfl⟩:=RI.shape hR
  refine .z zm (.z zex (.z zex (.o (.alloc hs oC rfl fun b7 w hs=>?_))))
  refine .o (.aH (vs:=[_,_,_,_]) hs rfl rfl dv fun w hs=>?_)
  refine .zn zg (.seq (.block (.ai (.z zm (.z gP (.zn zg (.cond rfl (fun hc21=>?_) (fun hc21=>?_))))))))
  ·refine .ai (.z (zbd [_,_,_,_] fo) (.o (.aH (vs:=[_,_,_,_]) hs rfl rfl dv fun w hs=>?_)))
   refine .zn zg (.ret (rB (rT (?_))))
   have hq:¬fB s.sp q:=by
    rcases hcase with ⟨g,_⟩|⟨_,g⟩
    ·subst g;cases hc21
    ·exact g
   exact Fin.gj [] [] hs fun w hs=>⟨_,results2 Tryz.results125 (cC (vs:=[_,_,_,_]) hs rfl qQ dv) rfl,H2,_,_,_,_,_,hle02,rfl,⟨_,_,_,rfl⟩,⟨_,_,_,rfl⟩,.what hok hq,fun h=>by omega,hs.out⟩
  ·refine .ai (.y hs (zls [_,_,_,_,_,_,_,_] aI aB) ?_)
   obtain ⟨rfl,hq,rfl,rfl⟩:b=true∧fB s.sp q∧L=s.w q∧d=pD q:=hcase.resolve_right fun h=>by rw [h.1] at hc21;cases hc21
   refine .o (.call Tryz.call178 rfl (pw (s:=s) hs (h1.mono hle02) (h2.mono hle02) (h3.mono hle02) (h4.mono hle02) hok) ?_);rintro _ w ⟨H3,b27,hle3,rfl,hb27,hs⟩
   refine .z gP (.zn zg (.cond rfl (fun hc25=>?_) (fun hc25=>?_)))
   ·refine .ai (.z (zbd [_,_,_,_] fo) (.o (.aH (vs:=[_,_,_,_]) hs rfl rfl dv fun w hs=>?_)))
    refine .zn zg (.ret (rB (rT (?_))))
    exact Fin.gj [] [] hs fun w hs=>⟨_,results2 Tryz.results125 (cC (vs:=[_,_,_,_]) hs rfl qQ dv) rfl,H3,_,_,_,_,_,hle02.trans hle3,rfl,⟨_,_,_,rfl⟩,⟨_,_,_,rfl⟩,.fls hok hq (fun h=>by rw [hb27.2 h] at hc25;cases hc25),fun h=>by omega,hs.out⟩
   ·refine .skip (nB (nT (.ai (.y hs (zls [_,_,_,_] qQ dv) (.o (.aH (vs:=[_,_,_,_]) hs rfl rfl dv fun w hs=>?_))))))
    refine .zn zg (.ret ?_)
    exact Fin.gj [] [] hs fun w hs=>⟨_,results2 Tryz.results125 (cC (vs:=[_,_,_,_]) hs rfl qQ dv) rfl,H3,_,_,_,_,_,hle02.trans hle3,rfl,⟨_,_,_,rfl⟩,⟨_,_,_,rfl⟩,.ok hok hq (hb27.1 (by simpa using hc25)),fun _=>⟨rfl,hL.mono hle3,hR.mono hle3,rfl⟩,hs.out⟩
set_option maxHeartbeats 1000000 in
theorem qe{s:Srv}{q:Wht}{vst vwa vr vc:Value}(hs:St H w σ)(h1:RI H vst s.sp.st)(h2:RI H vwa s.sp.wa)(h3:RRd H vr s.rs)(h4:RCm H vc s.cs):
  Cl Tryz.prog 174 [.agg #[I s.sp.id,I s.sp.src,vst,vwa,I s.sp.al,I s.sp.up,vr,vc],.agg #[I q.kind,I q.st,I q.wa]] w fun u w'=>∃H1 lo hi e,HLe H H1∧u= .tuple #[.agg #[I lo,I hi],I e]∧Ar s q lo hi e∧St H1 w' σ:=by
 refine Cl.o Tryz.func174 Tryz.ntmps174 ag2 ?_
 refine .ai (.bx hs fun b2 w hs=>?_)
 refine .bx hs fun b3 w hs=>?_
 refine .o (.alloc hs bN rfl fun b4 w hs=>?_)
 refine .zn zg (.ai (.y hs (zls [_,_,_,_,_,_,_,_] aI aB) (.y hs (zls [_,_,_] qR gQ) (.o (.call Tryz.call125 rfl (kS (s:=s) (q:=q) hs h1 h2 h3 h4) ?_)))));rintro _ w ⟨H1,m,ul,vw,d,e,hle1,rfl,⟨al,ll,cl,rfl⟩,⟨aw,lw,cw,rfl⟩,hA,hA0,hs⟩
 refine .z zm (.z zex (.z zex (.o (.alloc hs oC rfl fun b6 w hs=>?_))))
 refine .o (.aH (vs:=[_,_,_,_]) hs rfl rfl dv fun w hs=>?_)
 refine .zn zg (.seq (.ai (.z zm (.zn gg (.dO rfl (fun hc17=>?_) (fun hc17=>?_))))))
 ·refine .ai (.z (zbd [_,_] bJ) (.z zm (.o (.aH (vs:=[_,_]) hs rfl rfl aq fun w hs=>?_))))
  refine .zn zg (.ret (rT (?_)))
  exact Fin.gj [] [] hs fun w hs=>⟨_,results2 Tryz.results174 (cC (vs:=[_,_]) hs rfl aR aq) rfl,H1,_,_,_,hle1,rfl,hA.qty hc17,hs.out⟩
 ·refine .skip (nT (.ai (.z (zfa jw) (.y hs (zls [_,_] aZ aF) (.z (zfa jv) (.y hs (zld an) ?_))))))
  obtain rfl:e=0:=by simpa using hc17
  obtain ⟨rfl,hL,hR,rfl⟩:=hA0 rfl
  obtain ⟨hok,hq,hsd⟩:=hA.zero
  refine .o (.call Tryz.call219 rfl (sI (s:=s.sys) hs ⟨_,rfl,hL⟩ hR) ?_);rintro _ w ⟨H2,lo,hi,f,hle2,rfl,hRg,hs⟩
  obtain rfl:=w6 (hok.ask hq) hsd (fun b=>s.both) hRg
  have hbd:=hRg.bd
  have hdp:=wY q
  refine .z zm (.z zex (.z zex (.z zex (.z zg (.z zg (.zn zg (.seq (.ai (.z zm (.zn gg (.dO rfl (fun hc30=>?_) (fun hc30=>?_))))))))))))
  ·refine .ai (.z (zbd [_,_] bJ) (.z zm (.o (.aH (vs:=[_,_]) hs rfl rfl aq fun w hs=>?_))))
   refine .zn zg (.ret (rT (?_)))
   exact (hc30 rfl).elim
  ·refine .skip (nT (.seq (.draw mix rfl hs fun w hs=>?_)))
   refine .zw 0 rfl zm ?_;refine .z 1 rfl (zfa ju) ?_;refine .y 2 rfl hs af ?_;refine .z 4 rfl zm ?_;refine .z 5 rfl (zfa ju) ?_;refine .y 6 rfl hs af ?_
   refine .E 3 hs ?_
   refine .call Tryz.call132 rfl (jc hs ak ak) ?_;rintro _ w ⟨rfl,hs⟩
   refine .go (.E 7 hs ?_)
   refine .call Tryz.call132 rfl (jc hs ak ak) ?_;rintro _ w ⟨rfl,hs⟩
   refine .go (.zw 8 rfl (zbd [_,_] bJ) (.E 9 hs ?_))
   refine .aH (vs:=[_,_]) hs rfl rfl aq ?_;intro w hs
   refine .go (.zw 10 rfl zg ?_);refine .D hs ?_
   refine .ret ?_
   exact Fin.gj [] [] hs fun w hs=>⟨_,results2 Tryz.results174 (cC (vs:=[_,_]) hs rfl aR aq) rfl,H2,_,_,_,hle1.trans hle2,rfl,.ok hok hq hsd hRg,hs.out⟩
inductive Aw(v:Srv)(out:List Int):Int→Prop
 |bad {e:Int} (h:xp v e) (he:e≠0) (h1:out=[]):Aw v out e
 |ok {e:Int} (h:dC v) (h1:zC v.sys out e):Aw v out e
theorem qd{s:Srv}{vst vwa vr vc:Value}(hs:St H w σ)(h1:RI H vst s.sp.st)(h2:RI H vwa s.sp.wa)(h3:RRd H vr s.rs)(h4:RCm H vc s.cs):
  Cl Tryz.prog 175 [.agg #[I s.sp.id,I s.sp.src,vst,vwa,I s.sp.al,I s.sp.up,vr,vc]] w fun u w'=>∃H1 vx out e,HLe H H1∧u= .tuple #[vx,I e]∧RI H1 vx out∧Aw s out e∧St H1 w' σ:=by
 refine Cl.o Tryz.func175 Tryz.ntmps175 ag1 ?_
 refine .ai (.bx hs fun b1 w hs=>?_)
 refine .z zg (.zn zg (.seq (.ai (.y hs (zls [_,_,_,_,_,_,_,_] aI aB) (.o (.call IM rfl (eU (s:=s) hs h1 h2 h3 h4) ?_))))));rintro _ w ⟨H1,e,hle1,rfl,hC,hs⟩
 refine .zn zg (.ai (.z zm (.zn gg (.dO rfl (fun hc10=>?_) (fun hc10=>?_)))))
 ·refine .ai (.z zm (.z zg (.zn zg (.ret (rT (Fin.jG Tryz.results175 rfl rfl ?_))))))
  exact ⟨H1,_,[],_,hle1,rfl,RS.nil H1 1 none 0,.bad hC hc10 rfl,hs.out⟩
 ·refine .skip (nT (.ai (.y hs (zls [_,_,_,_,_,_,_,_] aI aB) ?_)))
  have hok:dC s:=hC.db.1 (by simpa using hc10)
  refine .o (.call IL rfl (eG (s:=s) hs (h1.mono hle1) (h2.mono hle1) (h3.mono hle1) (h4.mono hle1) hok.early) ?_);rintro v14 w ⟨H2,hle2,hS,hs⟩
  refine .o (.call Tryz.call220 rfl (pF (s:=s.sys) hs hS) ?_);rintro _ w ⟨H3,vx,out,f,hle3,rfl,hR,hCf,hs⟩
  refine .z zm (.z zex (.z zex (.z zg (.zn zg (.ai (.z zm (.z zm (.z zg (.zn zg (.ret (Fin.jG Tryz.results175 rfl rfl ?_)))))))))))
  exact ⟨H3,_,out,_,hle1.trans (hle2.trans hle3),rfl,hR,.ok hok hCf,hs.out⟩
theorem nf{v:Value}{rs:List (List Int)}{g:Nat}{cap:List Value}(q:List Int→Prop)(hs:St H w σ)(hR:RT H v rs)(hl:rs.length≤9223372036854775807)(hc:∀args w,(callFunc g args).run Tryz.prog w= .ok (.enter g args) w)
  (hp:∀H' w σ r u,HLe H H'→RI H' u r→St H' w σ→Cl Tryz.prog g ([u]++cap) w fun z w'=>∃H1 b,HLe H' H1∧z= .bool b∧(b=true↔q r)∧St H1 w' σ):
  Cl Tryz.prog 227 [v,.func (.func g) #[] cap.toArray] w fun u w'=>∃H1 i,HLe H H1∧u=I i∧(0≤i↔∃x∈rs,q x)∧St H1 w' σ:=by
 obtain ⟨a,c,rfl⟩:=hR.shape
 refine Cl.o Tryz.func227 Tryz.ntmps227 ag2 ?_
 refine .ai (.zn zg (.seq (.ai (.z zm (.z (cU az) (.zn zm (.for (N:=rs.length) (J:=fun k fr w=>fr=[(1,.func (.func g) #[] cap.toArray),(0,.slice a rs.length c)]∧∃H1,HLe H H1∧(∀j<k,∀y,rs[j]? =some y→¬q y)∧St H1 w σ) ak ?_ ?_ ?_)))))))
 ·exact .mk ⟨rfl,H,HLe.refl H,fun j hj=>by omega,hs⟩
 ·rintro k fr w hk ⟨rfl,H1,hle1,hno,hs⟩
  have hx:=rW (rs:=rs) hk
  refine .block (.ai (.z zm (.zn zg (.ai (.z zm (.z zm (.z zm (.ixT hs (hR.mono hle1) rfl rfl az au (show k<_ by omega) df ?_))))))));intro b14 o14 a14 c14 hc14 hR14
  refine .q hs (aQ rfl an hc14) (.o (.nI (first:=[]) (cap:=cap) rfl rfl hc (hp _ _ _ (gr rs k) _ hle1 hR14 hs) ?_));rintro _ w ⟨H2,b16,hle2,rfl,hb16,hs⟩
  refine .nil (.cond rfl (fun hc16=>?_) (fun hc16=>?_))
  ·refine .ai (.z zm (.zn zg (.ret (rB (rT (rB (rT (Fin.bu Tryz.results227 rfl ?_))))))))
   exact ⟨H2,_,hle1.trans hle2,rfl,⟨fun _=>⟨_,List.mem_of_getElem? hx,hb16.1 hc16⟩,fun _=>by omega⟩,hs⟩
  ·refine .skip (nB (nT ?_))
   exact .mk ⟨rfl,H2,hle1.trans hle2,eT hno hx (fun h=>by rw [hb16.2 h] at hc16;cases hc16),hs⟩
 ·rintro fr w ⟨rfl,H1,hle1,hno,hs⟩
  refine nT (.ai (.zn zg (.ret (Fin.bu Tryz.results227 rfl ?_))))
  exact ⟨H1,_,hle1,rfl,⟨fun h=>by omega,fun ⟨x,h1,h2⟩=>by
   obtain ⟨j,hj⟩:=List.getElem?_of_mem h1
   exact (hno j (List.getElem?_eq_some_iff.1 hj).1 x hj h2).elim⟩,hs⟩
theorem lJ{v:Value}{rs:List (List Int)}{g:Nat}{cap:List Value}(q:List Int→Prop)(hs:St H w σ)(hR:RT H v rs)(hl:rs.length≤9223372036854775807)(hc:∀args w,(callFunc g args).run Tryz.prog w= .ok (.enter g args) w)
  (hp:∀H' w σ r u,HLe H H'→RI H' u r→St H' w σ→Cl Tryz.prog g ([u]++cap) w fun z w'=>∃H1 b,HLe H' H1∧z= .bool b∧(b=true↔q r)∧St H1 w' σ):
  Cl Tryz.prog 183 [v,.func (.func g) #[] cap.toArray] w fun u w'=>∃H1 b,HLe H H1∧u= .bool b∧(b=true↔∃x∈rs,q x)∧St H1 w' σ:=by
 refine Cl.o Tryz.func183 Tryz.ntmps183 ag2 ?_
 refine .ai (.zn zg (.ai (.z zm (.z zm (.o (.call Tryz.call227 rfl (nf q hs hR hl hc hp) ?_))))));rintro _ w ⟨H1,i,hle1,rfl,hi,hs⟩
 refine .z yM (.zn zg (.ret (Fin.bu Tryz.results183 rfl ?_)))
 exact ⟨H1,_,hle1,rfl,by simp only [decide_eq_true_eq];exact hi,hs⟩
theorem ub{n:Int}(hs:St H w σ):
  Cl Tryz.prog 186 [I n] w fun u w'=>u= .bool (!decide (0≤n∧n≤20000))∧St H w' σ:=by
 refine Cl.o Tryz.func186 Tryz.ntmps186 ag1 ?_
 refine .ai (.zn zg (.ai (.z zm (.o (.call dc rfl (bh hs) ?_)))));rintro _ w ⟨rfl,hs⟩
 refine .z gP (.zn zg (.ret (Fin.bu Tryz.results186 rfl ?_)))
 exact ⟨rfl,hs⟩
theorem wN{s:Spc}{v vst vwa:Value}{r:List Int}{b:Nat}(hs:St H w σ)(hb:Row H b [I s.id,I s.src,vst,vwa,I s.al,I s.up])(h2:RI H vwa s.wa)(hr:RI H v r):
  Cl Tryz.prog 184 [v,Pt b] w fun u w'=>∃H1 bb,HLe H H1∧u= .bool bb∧(bb=true↔¬(r.length=s.wa.length∧∀x∈r,0≤x∧x≤20000))∧St H1 w' σ:=by
 obtain ⟨a,c,rfl⟩:=RI.shape hr
 obtain ⟨awa,cwa,rfl⟩:=RI.shape h2
 have hb3:=hb.at 3
 refine Cl.o Tryz.func184 Tryz.ntmps184 ag2 ?_
 refine .ai (.zn zg (.ai (.z zm (.z (cU ae) (.z (zfa bg) (.y hs (zld an) (.z (cU ae) (.z gg (.z zm (.Dj (t':=10) rfl (fun hb10=>?_) (fun hb10=>?_)))))))))))
 ·refine .Fs 2 6 false (.z zpT (.zn zg (.ret (Fin.bu Tryz.results184 rfl ?_))))
  exact ⟨H,true,HLe.refl H,rfl,⟨fun _ h=>by have:=h.1;simp_all,fun _=>rfl⟩,hs⟩
 ·refine .T (.z zm (.T (.o (.call Tryz.call185 rfl (ld (g:=186) (cap:=[]) (fun n=>¬(0≤n∧n≤20000)) hs hr Tryz.call186 (fun H' w σ n _ _ hs=>(ub hs).mono fun u w' ⟨g1,g2⟩=>⟨H',_,HLe.refl _,g1,by simp;omega,g2⟩)) ?_))));rintro _ w ⟨H1,b12,hle1,rfl,hb12,hs⟩
  refine .z zpF (.zn zg (.ret (Fin.bu Tryz.results184 rfl ?_)))
  have hlen:r.length=s.wa.length:=by simp_all;omega
  exact ⟨H1,_,hle1,rfl,by
   rw [hb12]
   constructor
   ·rintro ⟨x,h1,h2⟩ h;exact h2 (h.2 x h1)
   ·intro h
    refine Classical.byContradiction fun hn=>h ⟨hlen,fun x hx=>Classical.byContradiction fun hx'=>hn ⟨x,hx,hx'⟩⟩,hs⟩
theorem Ew{s:Spc}{rows:List (List Int)}:jE s rows↔rows.length=s.st.length∧∀r∈rows,r.length=s.wa.length∧∀x∈r,0≤x∧x≤20000:=by
 constructor
 ·rintro ⟨h1,h2,h3⟩
  refine ⟨h1,fun r hr=>?_⟩
  obtain ⟨i,hi⟩:=List.getElem?_of_mem hr
  have hil:=(List.getElem?_eq_some_iff.1 hi).1
  have hg:=rW hil
  rw [hi] at hg
  obtain rfl:=Option.some.inj hg
  have hl:=h2 i ak
  refine ⟨hl,fun x hx=>?_⟩
  obtain ⟨k,hk⟩:=List.getElem?_of_mem hx
  have hkl:=(List.getElem?_eq_some_iff.1 hk).1
  have hgk:=bB hkl
  rw [hk] at hgk
  obtain rfl:=Option.some.inj hgk
  exact h3 i ak k ak
 ·rintro ⟨h1,h2⟩
  have hm:∀i<s.st.length,gr rows i∈rows:=fun i hi=>List.mem_of_getElem? (rW ak)
  refine ⟨h1,fun i hi=>(h2 _ (hm i hi)).1,fun i hi k hk=>?_⟩
  have hl:=(h2 _ (hm i hi)).1
  exact (h2 _ (hm i hi)).2 _ (List.mem_of_getElem? (bB ak))
theorem kr{s:Spc}{vst vwa vh:Value}{rows:List (List Int)}(hs:St H w σ)(h1:RI H vst s.st)(h2:RI H vwa s.wa)(hr:RT H vh rows):
  Cl Tryz.prog 129 [.agg #[I s.id,I s.src,vst,vwa,I s.al,I s.up],.agg #[vh]] w fun u w'=>∃H1 b,HLe H H1∧u= .bool b∧(b=true↔jE s rows)∧St H1 w' σ:=by
 obtain ⟨ast,cst,rfl⟩:=RI.shape h1
 obtain ⟨awa,cwa,rfl⟩:=RI.shape h2
 obtain ⟨ah,ch,rfl⟩:=hr.shape
 have hrl:=(hr.len).2.2
 refine Cl.o Tryz.func129 Tryz.ntmps129 ag2 ?_
 refine .ai (.bx hs fun b2 w hs=>?_)
 refine .bx hs fun b3 w hs=>?_
 refine .zn zg (.ai (.z (zfa dU) (.y hs (zld iF) (.z (cU az) (.z (zfa bC) (.y hs (zld an) (.z (cU ae) (.z kd (.z zm (.kF (t':=12) rfl (fun hb12=>?_) (fun hb12=>?_)))))))))))
 ·refine .T (.z (zfa dU) (.T (.y hs (zld iF) (.T (.q hs (cJ (f:=[]) (c:=[_]) rfl rfl) (.T ?_))))))
  obtain ⟨H0,hle0,hb2,hs⟩:=hs.bU (b:=b2) fh
  refine .o (.call Tryz.call183 rfl (lJ (g:=184) (cap:=[Pt b2]) (fun r=>¬(r.length=s.wa.length∧∀x∈r,0≤x∧x≤20000)) hs (hr.mono hle0) hrl Tryz.call184 (fun H' w σ r u hle hu hs=>wN (s:=s) hs (hb2.mono hle) (h2.mono (hle0.trans hle)) hu)) ?_);rintro _ w ⟨H1,b16,hle1,rfl,hb16,hs⟩
  refine .T (.z gP (.z zpT (.zn zg (.ret (Fin.bu Tryz.results129 rfl ?_)))))
  exact ⟨H1,_,hle0.trans hle1,rfl,by
   rw [Ew]
   have hlen:rows.length=s.st.length:=by omega
   cases hbb:b16 with
   |true=>
    obtain ⟨x,hx,hn⟩:=hb16.1 hbb
    exact ⟨fun h=>(by cases h),fun h=>(hn (h.2 x hx)).elim⟩
   |false=>exact ⟨fun _=>⟨hlen,fun r hr=>Classical.byContradiction fun hn=>by rw [hb16.2 ⟨r,hr,hn⟩] at hbb;cases hbb⟩,fun _=>rfl⟩,hs.out⟩
 ·refine .Fs 5 7 true (.z zpF (.zn zg (.ret (Fin.bu Tryz.results129 rfl ?_))))
  exact ⟨H,_,HLe.refl H,rfl,⟨fun h=>(by cases h),fun h=>by have:=h.len;omega⟩,hs.out⟩
set_option maxHeartbeats 1000000 in
theorem kT{s:Spc}{q:Wht}{vst vwa vh:Value}{rows:List (List Int)}(hs:St H w σ)(h1:RI H vst s.st)(h2:RI H vwa s.wa)(hr:RT H vh rows):
  Cl Tryz.prog 64 [.agg #[I s.id,I s.src,vst,vwa,I s.al,I s.up],.agg #[vh],.agg #[I q.kind,I q.st,I q.wa]] w fun u w'=>∃H1 n e,HLe H H1∧u= .tuple #[I n,I e]∧oA s rows q n e∧St H1 w' σ:=by
 obtain ⟨ah,ch,rfl⟩:=hr.shape
 refine Cl.o Tryz.func64 Tryz.ntmps64 ag3 ?_
 refine .ai (.bx hs fun b3 w hs=>?_)
 refine .bx hs fun b4 w hs=>?_
 refine .bx hs fun b5 w hs=>?_
 refine .z zg (.zn zg (.seq (.ai (.y hs (zls [_,_,_,_,_,_] aM aD) (.o (.call Tryz.call111 rfl (fJ (s:=s) hs h1 h2) ?_))))));rintro _ w ⟨H1,e,hle1,rfl,he,hs⟩
 refine .zn zg (.ai (.z zm (.zn gg (.dO rfl (fun hc17=>?_) (fun hc17=>?_)))))
 ·refine .ai (.z zm (.z zg (.zn zg (.ret (rT (?_))))))
  have hq:¬eZ s∧e=30:=he.resolve_left fun h=>hc17 h.2
  exact Fin.gj [] [] hs fun w hs=>⟨_,results2 Tryz.results64 rfl rfl,H1,_,_,hle1,rfl,by rw [hq.2];exact .space hq.1,hs.out⟩
 ·refine .skip (nT (.seq (.ai (.y hs (zls [_,_,_,_,_,_] aM aD) (.y hs (zls [_] eR bH) ?_)))))
  have hok:eZ s:=(he.resolve_right fun h=>by omega).1
  have hsm:=dX hok
  refine .o (.call Tryz.call129 rfl (kr (s:=s) hs (h1.mono hle1) (h2.mono hle1) (hr.mono hle1)) ?_);rintro _ w ⟨H2,b21,hle2,rfl,hb21,hs⟩
  have hle02:=hle1.trans hle2
  refine .zn gP (.cond rfl (fun hc22=>?_) (fun hc22=>?_))
  ·refine .ai (.z zg (.zn zg (.ret (rT (?_)))))
   exact Fin.gj [] [] hs fun w hs=>⟨_,results2 Tryz.results64 rfl rfl,H2,_,_,hle02,rfl,.hull hok (fun h=>by rw [hb21.2 h] at hc22;cases hc22),hs.out⟩
  ·refine .skip (nT (.ai (.y hs (zls [_,_,_,_,_,_] aM aD) (.y hs (zls [_,_,_] qR gQ) ?_))))
   have hh:jE s rows:=hb21.1 (by simpa using hc22)
   refine .o (.call Tryz.call130 rfl (jY (s:=s) (q:=q) hs (h1.mono hle02) (h2.mono hle02) hok) ?_);rintro _ w ⟨H3,vl,L,d,b,en,hle3,rfl,hO,hcase,hs⟩
   have hle03:=hle02.trans hle3
   obtain ⟨al,cl,rfl⟩:=hO.tC
   refine .z zm (.z zex (.z zex (.z zex (.o (.alloc hs dz rfl fun b9 w hs=>?_)))))
   refine .o (.store hs rfl rfl au fun w hs=>?_)
   refine .z zg (.zn zg (.seq (.ai (.z zm (.zn gP (.cond rfl (fun hc31=>?_) (fun hc31=>?_)))))))
   ·refine .ai (.z zg (.zn zg (.ret (rT (?_)))))
    have hq:¬fB s q:=by
     rcases hcase with ⟨g,_⟩|⟨_,g,_⟩
     ·subst g;cases hc31
     ·exact g
    exact Fin.gj [] [] hs fun w hs=>⟨_,results2 Tryz.results64 rfl rfl,H3,_,_,hle03,rfl,.what hok hh hq,hs.out⟩
   ·refine .skip (nT (.ai (.o (.alloc hs bL rfl fun b12 w hs=>?_))))
    refine .o (.store hs rfl rfl aj fun w hs=>?_)
    refine .nil (.seq (.ai (.y hs (zls [_,_,_,_,_,_] aM aD) ?_)))
    obtain ⟨rfl,hq,rfl,rfl⟩:b=true∧fB s q∧L=lF s q∧d=pD q:=hcase.resolve_right fun h=>by rw [h.1] at hc31;cases hc31
    have hwl:=gx s q
    obtain ⟨H4,hle4,hW,hs⟩:=bS.dJ hO ak hs fh
    have hle04:=hle03.trans hle4
    refine .o (.call uI rfl (ef (s:=s) hs (h1.mono hle04) (h2.mono hle04) ⟨ak,ak⟩) ?_);rintro _ w ⟨H5,ba,hle5,rfl,hit,hs⟩
    have hle05:=hle04.trans hle5
    replace hW:=hW.mono hle5
    have hr5:=hr.mono hle05
    refine .nil (.block ?_)
    refine .rangeFunc (gf:=188) (cap:=[Pt ba]) (xs:=uM s) (σb:=[.blk b12 [I (eH s q rows 0)],.blk b9 [.slice al (lF s q).length cl],.blk b4 [.slice ah rows.length ch]]) (σf:=σ) (hs.sb) trivial rfl hit uG (fun x hx=>by
      simp only [uM,List.mem_map] at hx
      obtain ⟨j,_,rfl⟩:=hx;rfl) rfl
     (I:=fun p H' σb=>σb=[.blk b12 [I (eH s q rows p)],.blk b9 [.slice al (lF s q).length cl],.blk b4 [.slice ah rows.length ch]]) (Ix:=fun _ _ _=>False)
     (fun j _ _ σ g1 g2=>g2) (fun _ _ _ _ _ h=>h) rfl ?_ ?_ (fun D c H' σb w _ h _=>h.elim)
    ·rintro ly p hp H6 σb2 σf2 w hle6 rfl hs ⟨rr,hrr⟩
     have hpm:p<s.many:=by rw [di] at hp;exact hp
     have hin:p/s.wa.length<s.st.length:=Nat.div_lt_of_lt_mul (by rw [Nat.mul_comm];exact hpm)
     have hkm:=Nat.mod_lt p hsm.2.2.1
     have hsucc:eH s q rows (p+1)=eH s q rows p+gi (lF s q) (p+1)*gt rows (p/s.wa.length) (p%s.wa.length):=rfl
     have hb0:=lU hok hq hh p ak
     have hb1:=lU hok hq hh (p+1) ak
     have hwz:=lH hok hq
     have hwz2:=l5 (lF s q) (v:=p+1) (n:=s.many+1) ak
     have hnum:=hh.num _ hin _ hkm
     have hrow:=hh.row _ hin
     have hrlen:=hh.len
     have hprd:=kV (a:=gi (lF s q) (p+1)) (b:=gt rows (p/s.wa.length) (p%s.wa.length)) (A:=3456000000000) (B:=20000) ak ak
     have hgt:gt rows (p/s.wa.length) (p%s.wa.length)=gi (gr rows (p/s.wa.length)) (p%s.wa.length):=rfl
     rw [k8 hp]
     generalize p/s.wa.length=i at*
     generalize p%s.wa.length=k at*
     rw [hgt] at hsucc hprd hnum
     refine .region (.o (.alloc hs iC rfl fun b13 w hs=>?_))
     refine .o (.aH (vs:=[_,_,_]) hs rfl rfl kJ fun w hs=>?_)
     refine .nil (nT (⟨H6,[.blk b13 [I (i:Int),I (k:Int),I ((p+1:Nat):Int)],.blk b12 [I (eH s q rows p)],.blk b9 [.slice al (lF s q).length cl],.blk b4 [.slice ah rows.length ch]],HLe.refl _,hs,?_⟩));rintro w σf4 - hs
     refine .block (.draw mix rfl hs fun w hs=>?_)
     refine .y 0 rfl hs af ?_;refine .y 1 rfl hs an ?_;refine .z 2 rfl (zfa dx) ?_;refine .y 3 rfl hs af ?_
     refine .ixX (enc:=fun x=>[I x]) (i:=4) hs rfl aE .none (hW.mono hle6) rfl rfl ae aj (bB (l:=(lF s q)) (i:=(p+1)) ak) df ?_;intro b39 o39 hc39;replace hc39:=bK.one hc39
     refine .r (i:=5) hs rfl aE .none (aQ rfl af hc39) ?_
     refine .zw 6 rfl (zfa dU) ?_;refine .y 7 rfl hs iF ?_;refine .z 8 rfl (zfa cf) ?_;refine .y 9 rfl hs af ?_
     refine .ixT (i:=10) hs rfl aE .none (hr5.mono hle6) rfl rfl az au (show i<_ by omega) df ?_;intro b45 o45 a45 c45 hc45 hR45
     refine .r (i:=11) hs rfl aE .none (aQ rfl an hc45) ?_
     refine .zw 12 rfl (zfa bZ) ?_;refine .y 13 rfl hs af ?_
     refine .ixX (enc:=fun x=>[I x]) (i:=14) hs rfl aE .none hR45 rfl rfl ae aj (bB (l:=(gr rows i)) (i:=k) ak) df ?_;intro b49 o49 hc49;replace hc49:=bK.one hc49
     refine .r (i:=15) hs rfl aE .none (aQ rfl af hc49) ?_
     refine .zw 16 rfl kM ?_;refine .z 17 rfl cq ?_
     refine .E 18 hs ?_
     refine .store hs rfl rfl aj ?_;intro w hs
     refine .go (.D hs (nB ?_))
     exact ⟨H6,[.blk b12 [I (eH s q rows (p+1))],.blk b9 [.slice al (lF s q).length cl],.blk b4 [.slice ah rows.length ch]],HLe.refl _,by rw [hsucc];exact (hs.sb:St H6 w (.blk b12 _:: .blk b9 _:: .blk b4 _::σf4)),rfl⟩
    ·rintro D H6 σb2 w hle6 rfl hs
     rw [di] at hs
     replace hs:St H6 w (.obj D (.deferred (some [])):: .blk b12 [I (eH s q rows s.many)]:: .blk b9 [.slice al (lF s q).length cl]:: .blk b4 [.slice ah rows.length ch]::σ):=hs
     have hbd:=lU hok hq hh s.many ak
     have hdp:=wY q
     refine nB (nT (.ai (.y hs (zld af) (.z zm (.o (.call Tryz.call132 rfl (jc hs ak ak) ?_))))));rintro _ w ⟨rfl,hs⟩
     refine .z zg (.zn zg (.ret ?_))
     exact Fin.gj [D] [] hs fun w hs=>⟨_,results2 Tryz.results64 rfl rfl,H6,_,_,hle05.trans hle6,rfl,.ok hok hh hq,hs.out⟩
end Go.Proofs.YteajddicacjkhaaGreat
namespace Go.Proofs.YteajddicacjkhaaGreat
open Go.MW
theorem DB{v:Srv}(h:dC v){q:Wht}(hq:fB v.sp q)(i:Nat): -3456000000000≤gi (v.w q) i∧gi (v.w q) i≤3456000000000:=by
 unfold Srv.w
 rw [js]
 by_cases hi:i<v.sp.many+1
 ·have h1:=lH h.early.1 hq
  have h2:=l5 (lF v.sp q) hi
  omega
 ·have:gi (lF v.sp q) i=0:=by simp [gi,List.getD,List.getElem?_eq_none (show (lF v.sp q).length≤i by rw [gx];omega)]
  rw [this];omega
def yJ(w:List Int)(high:Bool):List Int:=if high then w else uV w
end Go.Proofs.YteajddicacjkhaaGreat
namespace Go.Proofs.YteajddicacjkhaaGreat
open Go.MW
variable{H:bw}{w:World}{σ:List Ent}
theorem cP{n m:Int}(hs:St H w σ)(hm:1≤m∧m≤4611686018427387904):
  Cl Tryz.prog 90 [I n,I m] w fun u w'=>∃k:Nat,(k:Int)<m∧u=I (k:Int)∧St H w' σ:=by
 have h1:=Int.tmod_lt_of_pos n (show 0<m by omega)
 have h2:=Int.lt_tmod_of_pos n (show 0<m by omega)
 have h3:=Int.tmod_lt_of_pos (n.tmod m+m) (show 0<m by omega)
 have h4:=Int.tmod_nonneg m (show 0≤n.tmod m+m by omega)
 refine Cl.o Tryz.func90 Tryz.ntmps90 ag2 ?_
 refine .ai (.zn zg (.ai (.z zm (.z zm (.z Az (.z zm (.z cq (.z zm (.z Az (.zn zg (.ret (Fin.bu Tryz.results90 rfl ?_))))))))))))
 exact ⟨((n.tmod m+m).tmod m).toNat,ak,by rw [show (((n.tmod m+m).tmod m).toNat:Int)=(n.tmod m+m).tmod m by omega],hs⟩
theorem cB{v:Value}{l:List Int}{i n:Int}(hs:St H w σ)(hr:RI H v l)(hi:0≤i)(hn:1≤n∧n≤4611686018427387904):
  Cl Tryz.prog 146 [v,I i,I n] w fun u w'=>∃k:Nat,(k:Int)<n∧u=I (k:Int)∧St H w' σ:=by
 obtain ⟨a,c,rfl⟩:=RI.shape hr
 refine Cl.o Tryz.func146 Tryz.ntmps146 ag3 ?_
 refine .ai (.zn zg (.seq (.ai (.z zm (.z (cU ae) (.zn kd (.bO rfl (fun hc9=>?_) (fun hc9=>?_))))))))
 ·refine .ai (.zn zg (.ret (rT (Fin.bu Tryz.results146 rfl ?_))))
  exact ⟨0,ak,rfl,hs⟩
 ·refine .skip (nT (.ai (.z zm (.z zm (.z zm (.z (cU ae) (.z Az ?_)))))))
  have g1:=Int.tmod_lt_of_pos i (show 0<(l.length:Int) by omega)
  have g2:=Int.tmod_nonneg (l.length:Int) hi
  refine .ixY hs hr rfl rfl ae aj (bB (l:=l) (i:=(i.tmod l.length).toNat) ak) ak ?_;intro b15 o15 hc15
  refine .q hs (aQ rfl af hc15) (.z zm (.o (.call gv rfl (cP hs hn) ?_)));rintro _ w ⟨k,hk,rfl,hs⟩
  refine .zn zg (.ret (Fin.bu Tryz.results146 rfl ?_))
  exact ⟨k,hk,rfl,hs⟩
theorem tL{v vp:Value}{s:ck}{jm:List Int}(hs:St H w σ)(hr:RSy H v s)(hp:RI H vp jm)(hgood:s.Ok∧s.Sound):
  Cl Tryz.prog 149 [v,vp] w fun u w'=>∃H1 vx x en,HLe H H1∧u= .tuple #[vx,I 0]∧bS 1 vx (Is x) en∧vZ s jm x∧St H1 w' (en::σ):=by
 obtain ⟨ul,rfl,hl⟩:=hr
 obtain ⟨al,cl,rfl⟩:=RL.shape hl
 obtain ⟨ap,cp,rfl⟩:=RI.shape hp
 refine Cl.o Tryz.func149 Tryz.ntmps149 ag2 ?_
 refine .ai (.bx hs fun b2 w hs=>?_)
 refine .z zg (.zn zg (.ai (.y hs (zls [_,_] aZ aF) (.o (.call Tryz.call147 rfl (mq (s:=s) hs ⟨_,rfl,hl⟩) ?_)))));rintro _ w ⟨H1,vt,e,hle1,rfl,hcase,hs⟩
 refine .z zm (.z zex (.z zex (.z zg (.zn zg (.seq (.ai (.z zm (.zn gg (.dO rfl (fun hc20=>?_) (fun hc20=>?_))))))))))
 ·refine .ai (.z zm (.z zg (.zn zg (.ret (rT (Fin.jG Tryz.results149 rfl rfl ?_))))))
  rcases hcase with ⟨h1,rfl,rfl⟩|⟨h1,h2,rfl,rfl⟩|⟨_,_,rfl,_⟩
  ·exact (h1 (s.db.2 hgood.1)).elim
  ·exact (h2 hgood.2).elim
  ·exact (hc20 rfl).elim
 ·refine .skip (nT (.ai ?_))
  subst hc20
  obtain ⟨hok,hsd,rs,hRT,hSq,hWT⟩:s.Ok∧s.Sound∧∃rs,RT H1 vt rs∧Sq s.n rs∧kH s.n s.cA (gt rs):=by
   rcases hcase with ⟨h1,h2,_⟩|⟨_,_,h2,_⟩|⟨h1,h2,_,h3⟩
   ·exact (h1 h2.symm).elim
   ·omega
   ·exact ⟨h1,h2,h3⟩
  obtain ⟨at',ct,rfl⟩:=hRT.shape
  have hTS:=hok.HN hsd hWT
  have hrl:=hSq.1
  have hm0:=hok.m0
  have hm1:=hok.m1
  have hnn:(s.n:Int)=s.many+1:=by simp only [ck.n];omega
  refine .o (.buildSlice (cells:=[_]) hs bX rfl rfl fun b22 w hs=>?_)
  refine .zn zg (.seq (.ai (.zn zg (.block ?_))))
  refine .loop (fun p:List Int×Value=>⟨109,[],[(9,I (p.1.length:Int)),(8,p.2),(6,.slice at' rs.length ct),(2,Pt b2),(1,.slice ap jm.length cp)]⟩)
   (fun p w=>Gz (gt rs) (p9 jm) p.1∧p.1.length≤s.n∧∃en,bS 1 p.2 (Is p.1) en∧St H1 w (en:: .blk b2 [I s.many,.slice al s.bY.length cl]::σ))
   (fun p=>s.n - p.1.length) ([0],.slice (some ⟨b22,0,none⟩) 1 1) bn
   ⟨.start,s.Cf,_,.full (len:=1) rfl,hs⟩ ?_
  rintro ⟨X,v8⟩ w ⟨hP,hXn,en,hO,hs⟩
  dsimp only at hP hXn hO ⊢
  have hI:=hP.inv (fun i n hn=>wC jm i hn) hTS hXn
  have hX0:=hI.l0
  have hO1:=hO
  obtain ⟨b,cap,sp,rfl,rfl,hcap⟩:=hO.some hX0
  refine .seq (.ai (.z zm (.z (zfa bG) (.y hs (zld af) (.zn uJ (.bO rfl (fun hc26=>?_) (fun hc26=>?_)))))))
  ·refine .skip (nT (.seq (.block (.ai (.zn zg ?_)))))
   have hXl:X.length<s.n:=by omega
   refine .ai (.zn zg (.seq (.ai (.z zm (.z (cU ae) (.zn zm (.for (N:=X.length) (J:=fun k fr w=>∃lo hi,fr=[(10,I lo),(11,I hi),(9,I (X.length:Int)),(8,.slice (some ⟨b,0,none⟩) X.length cap),(6,.slice at' rs.length ct),(2,Pt b2),(1,.slice ap jm.length cp)]∧LoI (gt rs) X X.length k lo∧HiI (gt rs) X X.length k hi∧St H1 w (.blk b (Is X++sp):: .blk b2 [I s.many,.slice al s.bY.length cl]::σ)) ak ?_ ?_ ?_)))))))
   ·exact .mk ⟨_,_,rfl,.start _ _ _,.start _ _ _,hs⟩
   ·rintro k fr w hk ⟨lo,hi,rfl,hLo,hHi,hs⟩
    have hXk:=hI.bd k hk
    have hr1:(gr rs X.length).length=s.n:=hSq.2 _ hXl
    have hr2:(gr rs k).length=s.n:=hSq.2 _ ak
    have hb1:gi (gr rs X.length) k≠1000000000→-1400000≤gi (gr rs X.length) k∧gi (gr rs X.length) k≤1400000:=fun h=>hTS.bd X.length k hXl ak h
    have hb2:gi (gr rs k) X.length≠1000000000→-1400000≤gi (gr rs k) X.length∧gi (gr rs k) X.length≤1400000:=fun h=>hTS.bd k X.length ak hXl h
    refine .block (.ai (.z zm (.zn zg (.cut (fun fs w=>∃lo',lZ fs ⟨109,[],[(10,I lo'),(12,I (k:Int)),(31,I (k:Int)),(30,I (X.length:Int)),(11,I hi),(9,I (X.length:Int)),(8,.slice (some ⟨b,0,none⟩) X.length cap),(6,.slice at' rs.length ct),(2,Pt b2),(1,.slice ap jm.length cp)]⟩∧LoI (gt rs) X X.length (k+1) lo'∧St H1 w (.blk b (Is X++sp):: .blk b2 [I s.many,.slice al s.bY.length cl]::σ)) ?_ ?_))))
    ·refine .ai (.z zm (.z zm (.ixT hs hRT rfl rfl az au (show X.length<rs.length by omega) rfl ?_)));intro b36 o36 a36 c36 hc36 hR36
     refine .q hs (aQ rfl an hc36) (.z zm (.ixY hs hR36 rfl rfl ae aj (bB (l:=gr rs X.length) (i:=k) ak) rfl ?_));intro b39 o39 hc39
     refine .q hs (aQ rfl af hc39) (.zn gg (.dO rfl (fun hc41=>?_) (fun hc41=>?_)))
     ·refine .draw mix rfl hs fun w hs=>?_
      refine .zw 0 rfl zm ?_;refine .z 1 rfl zm ?_;refine .z 2 rfl zm ?_;refine .z 3 rfl (zix ae aj) ?_
      refine .load (i:=4) hs rfl aE .none rfl af ?_ (hv:=fa hk sp)
      refine .zw 5 rfl zm ?_;refine .z 6 rfl zm ?_
      refine .ixT (i:=7) hs rfl aE .none hRT rfl rfl az au (show X.length<rs.length by omega) rfl ?_;intro b49 o49 a49 c49 hc49 hR49
      refine .r (i:=8) hs rfl aE .none (aQ rfl an hc49) ?_
      refine .zw 9 rfl zm (.ixX (enc:=fun x=>[I x]) (i:=10) hs rfl aE .none hR49 rfl rfl ae aj (bB (l:=gr rs X.length) (i:=k) ak) rfl ?_);intro b52 o52 hc52;replace hc52:=bK.one hc52
      refine .r (i:=11) hs rfl aE .none (aQ rfl af hc52) ?_
      refine .zw 12 rfl ib ?_;refine .z 13 rfl Bk ?_;refine .z 14 rfl zg ?_;refine .D hs ?_
      refine nT ?_
      exact ⟨_,bn,hLo.put hc41 (by have:=hb1 hc41;have:=hXk;have:=hTS.n65;show -1000000000≤gi X k - gi (gr rs X.length) k;omega),hs⟩
     ·refine .skip (nT ?_)
      exact ⟨_,bn,hLo.skip hc41,hs⟩
    ·rintro fs w ⟨lo',hfs,hLo',hs⟩
     refine WE.sub ?_ hfs
     refine .ai (.z zm (.z zm (.ixT hs hRT rfl rfl az au (show k<rs.length by omega) rfl ?_)));intro b58 o58 a58 c58 hc58 hR58
     refine .q hs (aQ rfl an hc58) (.z zm (.ixY hs hR58 rfl rfl ae aj (bB (l:=gr rs k) (i:=X.length) ak) rfl ?_));intro b61 o61 hc61
     refine .q hs (aQ rfl af hc61) (.zn gg (.dO rfl (fun hc63=>?_) (fun hc63=>?_)))
     ·refine .draw mix rfl hs fun w hs=>?_
      refine .zw 0 rfl zm ?_;refine .z 1 rfl zm ?_;refine .z 2 rfl zm ?_;refine .z 3 rfl (zix ae aj) ?_
      refine .load (i:=4) hs rfl aE .none rfl af ?_ (hv:=fa hk sp)
      refine .zw 5 rfl zm ?_;refine .z 6 rfl zm ?_
      refine .ixT (i:=7) hs rfl aE .none hRT rfl rfl az au (show k<rs.length by omega) rfl ?_;intro b71 o71 a71 c71 hc71 hR71
      refine .r (i:=8) hs rfl aE .none (aQ rfl an hc71) ?_
      refine .zw 9 rfl zm (.ixX (enc:=fun x=>[I x]) (i:=10) hs rfl aE .none hR71 rfl rfl ae aj (bB (l:=gr rs k) (i:=X.length) ak) rfl ?_);intro b74 o74 hc74;replace hc74:=bK.one hc74
      refine .r (i:=11) hs rfl aE .none (aQ rfl af hc74) ?_
      refine .zw 12 rfl cq ?_;refine .z 13 rfl Bj ?_;refine .z 14 rfl zg ?_;refine .D hs ?_
      refine nB (nT ?_)
      exact .mk ⟨lo',_,rfl,hLo',hHi.put hc63 (by have:=hb2 hc63;have:=hXk;have:=hTS.n65;show gi X k+gi (gr rs k) X.length≤1000000000;omega),hs⟩
     ·refine .skip (nB (nT ?_))
      exact .mk ⟨lo',_,rfl,hLo',hHi.skip hc63,hs⟩
   ·rintro fr w ⟨lo,hi,rfl,hLo,hHi,hs⟩
    have hlb:=hLo.bd hI hTS hXl (Nat.le_refl _)
    have hhb:=hHi.bd hI hTS hXl (Nat.le_refl _)
    have hle:=hI.le hTS hXl rfl hLo hHi
    simp only [free] at hlb hhb hle
    have hpk:=wC jm ((X.length:Int) - 1) (n:=hi - lo+1)
    refine nT (.ai (.zn zg (.cut (fun fs w=>lZ fs ⟨109,[],[(13,I (jR lo hi (p9 jm ((X.length:Int) - 1) (hi - lo+1)))),(9,I (X.length:Int)),(8,.slice (some ⟨b,0,none⟩) X.length cap),(6,.slice at' rs.length ct),(2,Pt b2),(1,.slice ap jm.length cp)]⟩∧St H1 w (.blk b (Is X++sp):: .blk b2 [I s.many,.slice al s.bY.length cl]::σ)) ?_ ?_)))
    ·refine .block (.ai (.z zm (.z gg (.z zm (.Dj (t':=82) rfl (fun hb82=>?_) (fun hb82=>?_))))))
     ·refine .T (.z zm (.T (.z gg (.z zpT (.zn zg (.dO rfl (fun hc79=>?_) (fun hc79=>?_)))))))
      ·refine .region (.z zm (.z zm (.z zm (.z ib (.z zm (.z zm (.z ib (.z cq (.o (.call Tryz.call209 rfl (tM hs (hp.mono hle1) ak ak) ?_))))))))));rintro _ w ⟨rfl,hs⟩
       have hq1:hi≠1000000000:=by simpa using hc79
       have hq2:=hle (by simpa using hb82) hq1
       have hq3:=hpk ak
       refine .z cq (.zn zg (nB (nT (⟨.dy rfl ?_ bn,hs⟩))))
       unfold jR
       simp only [free] at*
       split<;>(try split)<;>first|rfl|omega|(simp_all;done)|(exfalso;simp_all;omega)
      ·refine .ai (.z zm (.z gg (.zn zg (.dO rfl (fun hc96=>?_) (fun hc96=>?_)))))
       ·refine .region (.z zm (.zn zg (nB (nT (⟨.dy rfl ?_ bn,hs⟩)))))
        unfold jR
        simp only [free] at*
        split<;>(try split)<;>first|rfl|omega|(simp_all;done)|(exfalso;simp_all;omega)
       ·refine .ai (.z zm (.z gg (.zn zg (.dO rfl (fun hc100=>?_) (fun hc100=>?_)))))
        ·refine .region (.z zm (.zn zg (nB (nT (⟨.dy rfl ?_ bn,hs⟩)))))
         unfold jR
         simp only [free] at*
         split<;>(try split)<;>first|rfl|omega|(simp_all;done)|(exfalso;simp_all;omega)
        ·refine .skip (nB (nT (⟨.dy rfl ?_ bn,hs⟩)))
         unfold jR
         simp only [free] at*
         split<;>(try split)<;>first|rfl|omega|(simp_all;done)|(exfalso;simp_all;omega)
     ·refine .Fs 2 2 true (.z zpF (.zn zg (.cF (.ai (.z zm (.z gg (.zn zg (.dO rfl (fun hc96=>?_) (fun hc96=>?_)))))))))
      ·refine .region (.z zm (.zn zg (nB (nT (⟨.dy rfl ?_ bn,hs⟩)))))
       unfold jR
       simp only [free] at*
       split<;>(try split)<;>first|rfl|omega|(simp_all;done)|(exfalso;simp_all;omega)
      ·refine .ai (.z zm (.z gg (.zn zg (.dO rfl (fun hc100=>?_) (fun hc100=>?_)))))
       ·refine .region (.z zm (.zn zg (nB (nT (⟨.dy rfl ?_ bn,hs⟩)))))
        unfold jR
        simp only [free] at*
        split<;>(try split)<;>first|rfl|omega|(simp_all;done)|(exfalso;simp_all;omega)
       ·refine .skip (nB (nT (⟨.dy rfl ?_ bn,hs⟩)))
        unfold jR
        simp only [free] at*
        split<;>(try split)<;>first|rfl|omega|(simp_all;done)|(exfalso;simp_all;omega)
    ·rintro fs w ⟨hfs,hs⟩
     refine WE.sub ?_ hfs
     refine .region (.z zm (.z zm (.o (.buildSlice (cells:=[_]) hs bX rfl rfl fun b106 w hs=>?_))))
     refine .o (.append (ys:=Is [jR lo hi (p9 jm ((X.length:Int) - 1) (hi - lo+1))]) hs bP rfl rfl hO1 (.own .here rfl rfl) (ia _) (fun l' h=>by simp at h;have:=hTS.n65;omega) ?_);intro v107 en107 w hO2 hs
     rw [←List.map_append] at hO2
     refine .zn zg (nB (nT (.region (.z zm (.z cq (.zn zg (nT ?_)))))))
     exact ⟨(X++[jR lo hi (p9 jm ((X.length:Int) - 1) (hi - lo+1))],v107),.dy rfl bV bn,⟨hP.snoc hLo hHi,by simp;omega,_,hO2,hs.sb⟩,by simp;omega⟩
  ·refine .exit (xT (xT (xB (nT (.ai (.z zm (.z zg (.zn zg (.ret (Fin.jG Tryz.results149 rfl rfl ?_))))))))))
   exact ⟨H1,_,X,_,hle1,rfl,hO1,⟨gt rs,hWT,hP,ak⟩,hs.sb⟩
theorem nh{s:Srv}{vst vwa vr vc:Value}(hs:St H w σ)(h1:RI H vst s.sp.st)(h2:RI H vwa s.sp.wa)(h3:RRd H vr s.rs)(h4:RCm H vc s.cs)(he:s.early):
  Cl Tryz.prog 148 [.agg #[I s.sp.id,I s.sp.src,vst,vwa,I s.sp.al,I s.sp.up,vr,vc]] w fun u w'=>∃H1,HLe H H1∧RSy H1 u s.ow∧St H1 w' σ:=by
 obtain ⟨ar,cr,rfl⟩:=RRd.shape h3
 have hfl:=Ab s
 have hrl:=he.2.1
 refine Cl.o Tryz.func148 Tryz.ntmps148 ag1 ?_
 refine .ai (.bx hs fun b1 w hs=>?_)
 refine .o (.alloc hs dG rfl fun b2 w hs=>?_)
 refine .nil (.ai (.y hs (zls [_,_,_,_,_,_,_,_] aI aB) (.o (.call Tryz.call205 rfl (q8 (s:=s) hs h1 h2 h3 h4 he) ?_))));rintro _ w ⟨H1,hle1,⟨ul,rfl,hL⟩,hs⟩
 have hL:RL H1 ul s.bY:=hL
 obtain ⟨al,cl,rfl⟩:=RL.shape hL
 have hln:=RS.len hL
 rw [List.length_map] at hln
 refine .o (.alloc hs dG rfl fun b3 w hs=>?_)
 refine .o (.aH (vs:=[_,_]) hs rfl rfl aF fun w hs=>?_)
 refine .nil (.ai (.z (zfa bF) (.y hs (zld cz) (.z (zfa bF) (.y hs (zld cz) (.z (cU aJ) (.z (zfa br) (.y hs (zld cS) (.z (cU aO) (.z kM (.z ib (.q hs (p6 (k:=s.nv.length) rfl rfl aJ aU ak ak) ?_))))))))))))
 have hT:=RS.head hL (k:=s.nv.length) ak
 rw [←List.map_take,ye] at hT
 refine .z (zfa bF) (.o (.store hs rfl rfl oE fun w hs=>?_))
 refine .nil (.ai (.y hs (zls [_,_] aZ aF) (.o (.aH (vs:=[_,_]) hs rfl rfl aF fun w hs=>?_))))
 refine .nil (.ret ?_)
 exact Fin.gj [] [] hs fun w hs=>⟨_,results1 Tryz.results148 (cC (vs:=[_,_]) hs rfl aZ aF),H1,hle1,⟨_,rfl,hT⟩,hs.out⟩
theorem tJ{s:Srv}{vst vwa vr vc:Value}(hs:St H w σ)(h1:RI H vst s.sp.st)(h2:RI H vwa s.sp.wa)(h3:RRd H vr s.rs)(h4:RCm H vc s.cs)(he:s.early)(hok:s.ow.Ok):
  Cl Tryz.prog 91 [.agg #[I s.sp.id,I s.sp.src,vst,vwa,I s.sp.al,I s.sp.up,vr,vc]] w fun u w'=>∃H1,∃b:Bool,HLe H H1∧u= .bool b∧(b=false→s.ow.Sound)∧St H1 w' σ:=by
 refine Cl.o Tryz.func91 Tryz.ntmps91 ag1 ?_
 refine .ai (.bx hs fun b1 w hs=>?_)
 refine .zn zg (.ai (.y hs (zls [_,_,_,_,_,_,_,_] aI aB) (.o (.call Tryz.call148 rfl (nh (s:=s) hs h1 h2 h3 h4 he) ?_))));rintro _ w ⟨H1,hle1,hS,hs⟩
 refine .o (.call Tryz.call147 rfl (mq (s:=s.ow) hs hS) ?_);rintro _ w ⟨H2,vt,e,hle2,rfl,hcase,hs⟩
 refine .z zm (.z zex (.z zex (.z zg (.zn zg (.ai (.z zm (.z gg (.zn zg (.ret (Fin.bu Tryz.results91 rfl ?_))))))))))
 exact ⟨H2,_,hle1.trans hle2,rfl,fun h=>by
  rcases hcase with ⟨k1,_,_⟩|⟨_,_,k3,_⟩|⟨_,k2,_,_⟩
  ·exact (k1 (s.ow.db.2 hok)).elim
  ·subst k3;simp at h
  ·exact k2,hs.out⟩
theorem tI{s:Srv}{vst vwa vr vc vp:Value}{jm:List Int}(hs:St H w σ)(h1:RI H vst s.sp.st)(h2:RI H vwa s.sp.wa)(h3:RRd H vr s.rs)(h4:RCm H vc s.cs)(hp:RI H vp jm)(he:s.early)(hok:s.ow.Ok∧s.ow.Sound):
  Cl Tryz.prog 92 [.agg #[I s.sp.id,I s.sp.src,vst,vwa,I s.sp.al,I s.sp.up,vr,vc],vp] w fun u w'=>∃H1 x en,HLe H H1∧bS 1 u (Is x) en∧vZ s.ow jm x∧St H1 w' (en::σ):=by
 obtain ⟨ap,cp,rfl⟩:=RI.shape hp
 refine Cl.o Tryz.func92 Tryz.ntmps92 ag2 ?_
 refine .ai (.bx hs fun b2 w hs=>?_)
 refine .zn zg (.ai (.y hs (zls [_,_,_,_,_,_,_,_] aI aB) (.o (.call Tryz.call148 rfl (nh (s:=s) hs h1 h2 h3 h4 he) ?_))));rintro _ w ⟨H1,hle1,hS,hs⟩
 refine .z zm (.o (.call Tryz.call149 rfl (tL (s:=s.ow) hs hS (hp.mono hle1) hok) ?_));rintro _ w ⟨H2,vx,x,en,hle2,rfl,hO,hP,hs⟩
 refine .z zm (.z zex (.z zex (.z zg (.zn zg (.ai (.z zm (.zn zg (.ret (Fin.bu Tryz.results92 rfl ?_)))))))))
 exact ⟨H2,x,en,hle1.trans hle2,hO,hP,hs.sb⟩
structure Grow(d D:Int)(L:List Int)(x:Int):Prop where
 low:d≤x
 high:x≤d+D*L.length
 all:∀i<L.length,d≤gi L i∧gi L i<x
 rise:∀i,i+1<L.length→gi L i<gi L (i+1)
theorem Grow.start(d D:Int):Grow d D [] d:=⟨ak,bV,fun i h=>by simp at h,fun i h=>by simp at h⟩
theorem Grow.snoc{d D x y:Int}{L:List Int}(h:Grow d D L x)(h1:x<y)(h2:y≤x+D):Grow d D (L++[x]) y:=by
 obtain ⟨g1,g2,g3,g4⟩:=h
 refine ⟨ak,?_,fun i hi=>?_,fun i hi=>?_⟩
 ·rw [List.length_append,List.length_singleton,Int.natCast_add,Int.mul_add];omega
 ·rw [List.length_append,List.length_singleton] at hi
  rw [wR]
  split
  ·have:=g3 i eb;omega
  ·rw [if_pos ak];omega
 ·rw [List.length_append,List.length_singleton] at hi
  rw [wR,wR,if_pos ak]
  split
  ·exact g4 i eb
  ·rw [if_pos ak];exact (g3 i ak).2
theorem Grow.plc{d D x most:Int}{many:Nat}{L:List Int}(h:Grow d D L x)(hd:0≤d)(h2:2≤L.length)(hm:L.length≤many)(hx:d+D*L.length≤most):gN many most L:=
 ⟨h2,hm,by have:=(h.all 0 ak).1;omega,by have:=(h.all (L.length - 1) ak).2;have:=h.high;omega,h.rise⟩
structure HJ(s:Spc):Prop where
 ok:eZ s
 st:s.st.length≤4
 wa:s.wa.length≤3
set_option maxHeartbeats 1000000 in
theorem po{v:Value}{l:List Int}(hs:St H w σ)(hr:RI H v l):
  Cl Tryz.prog 89 [v] w fun u w'=>∃s vst vwa e1 e2,u= .agg #[I s.id,I s.src,vst,vwa,I s.al,I s.up]∧HJ s∧bS 1 vst (Is s.st) e1∧bS 1 vwa (Is s.wa) e2∧St H w' (e1::e2::σ):=by
 obtain ⟨av,cv,rfl⟩:=RI.shape hr
 refine Cl.o Tryz.func89 Tryz.ntmps89 ag1 ?_
 refine .ai (.o (.alloc hs iV rfl fun b2 w hs=>?_))
 refine .nil (.ai (.z zm (.o (.call fA rfl (cB hs hr ak ak) ?_))));rintro _ w ⟨k11,g11,rfl,hs⟩
 refine .z cq (.z zm (.o (.call fA rfl (cB hs hr ak ak) ?_)));rintro _ w ⟨k14,g14,rfl,hs⟩
 refine .z cq (.z (zbd [_,_,_,_,_,_] qD) (.o (.alloc hs iV rfl fun b3 w hs=>?_)))
 refine .o (.aH (vs:=[_,_,_,_,_,_]) hs rfl rfl aD fun w hs=>?_)
 refine .nil (.ai (.z zm (.o (.call fA rfl (cB hs hr ak ak) ?_))));rintro _ w ⟨k18,g18,rfl,hs⟩
 refine .z cq (.z kM (.zn zg (.ai (.zn zg (.seq (.ai (.zn zg (.block ?_))))))))
 refine .loop (fun p:List Int×Int×Value=>⟨90,[],[(6,I (p.1.length:Int)),(5,I p.2.1),(4,I (100*(1+(k18:Int)))),(0,.slice av l.length cv),(3,Pt b3),(2,Pt b2)]⟩)
  (fun p w=>p.1.length≤4∧Grow 0 2707 p.1 p.2.1∧∃en,bS 1 p.2.2 (Is p.1) en∧St H w (en:: .blk b3 [I (1+(k11:Int)),I (1+(k14:Int)),p.2.2,.slice none 0 0,I 0,I 0]:: .blk b2 [I 0,I 0,.slice none 0 0,.slice none 0 0,I 0,I 0]::σ)) (fun p=>4 - p.1.length) ([],0,.slice none 0 0) bn
  ⟨bV,.start _ _,_,.nil 1 none,hs.nul⟩ ?_
 clear hs
 rintro ⟨L,x,vo⟩ w ⟨hL4,hG,en,hO,hs⟩
 dsimp only at hL4 hG hO hs ⊢
 obtain ⟨ao,lo,co,rfl,-⟩:=hO.shape
 have hx0:=hG.low
 have hx1:=hG.high
 refine .seq (.ai (.z zm (.z zm (.o (.call fA rfl (cB hs hr ak ak) ?_)))));rintro _ w ⟨k23,g23,rfl,hs⟩
 refine .z cq (.zn iJ (.bO rfl (fun hc25=>?_) (fun hc25=>?_)))
 ·refine .skip (nT (.seq (.block (.ai (.z (zfa bC) (.y hs (zld an) (.z zm (.o (.buildSlice (cells:=[_]) hs bX rfl rfl fun b31 w hs=>?_)))))))))
  refine .o (.append (ys:=Is [x]) hs bP rfl rfl hO (.own .here rfl rfl) (ia _) (fun l' h=>by simp at h;omega) ?_);intro v32 en32 w hO2 hs
  rw [←List.map_append] at hO2
  obtain ⟨a32,l32,c32,rfl,-⟩:=hO2.shape
  refine .z (zfa bC) (.o (.store hs rfl rfl au fun w hs=>?_))
  refine .nil (.region (.z zm (.z zm (.z zm (.z zm (.z cq (.o (.call fA rfl (cB hs hr ak ak) ?_))))))));rintro _ w ⟨k39,g39,rfl,hs⟩
  have m41:=kV (a:=100*(1+(k18:Int))) (b:=1+(k39:Int)) (A:=900) (B:=3) ak ak
  have m41':100≤100*(1+(k18:Int))*(1+(k39:Int)):=by
   have:=Int.mul_le_mul (a:=100) (c:=100*(1+(k18:Int))) (b:=1) (d:=1+(k39:Int)) ak ak ak ak
   omega
  refine .z cq (.z kM (.z cq (.z zm (.o (.call fA rfl (cB hs hr ak ak) ?_)))));rintro _ w ⟨k44,g44,rfl,hs⟩
  refine .z zm (.z zm (.z cq (.o (.call fA rfl (cB hs hr ak ak) ?_))));rintro _ w ⟨k48,g48,rfl,hs⟩
  have m49:0≤(k44:Int)*(k48:Int)∧(k44:Int)*(k48:Int)≤1:=by
   have e1:k44=0∨k44=1:=by omega
   rcases e1 with rfl|rfl<;>simp<;>omega
  refine .z kM (.z kM (.z cq (.zn zg (nB (nT (.region (.z zm (.z cq (.zn zg (nT ?_))))))))))
  exact ⟨(L++[x],_,.slice a32 l32 c32),.dy rfl bV bn,⟨by simp;omega,hG.snoc (by dsimp only;omega) (by dsimp only;omega),_,hO2,hs.sb⟩,by simp;omega⟩
 ·refine .exit (xT (xT (xB (nT (.ai (.z zm ?_))))))
  have hL2:2≤L.length:=by omega
  refine .o (.call fA rfl (cB hs hr ak ak) ?_);rintro _ w ⟨k53,g53,rfl,hs⟩
  refine .z cq (.z kM (.zn zg (.ai (.z zm (.o (.call fA rfl (cB hs hr ak ak) ?_))))));rintro _ w ⟨k57,g57,rfl,hs⟩
  refine .z kM (.zn zg (.seq (.ai (.zn zg (.block ?_)))))
  refine .loop (fun p:List Int×Int×Value=>⟨90,[],[(9,I (p.1.length:Int)),(8,I p.2.1),(7,I (50*(1+(k53:Int)))),(0,.slice av l.length cv),(3,Pt b3),(2,Pt b2)]⟩)
   (fun p w=>p.1.length≤3∧Grow (10*(k57:Int)) 1350 p.1 p.2.1∧∃en2,bS 1 p.2.2 (Is p.1) en2∧St H w (en2:: .blk b3 [I (1+(k11:Int)),I (1+(k14:Int)),.slice ao lo co,p.2.2,I 0,I 0]:: .blk b2 [I 0,I 0,.slice none 0 0,.slice none 0 0,I 0,I 0]::en::σ)) (fun p=>3 - p.1.length) ([],10*(k57:Int),.slice none 0 0) bn
   ⟨bV,.start _ _,_,.nil 1 none,(hs.sb).nul⟩ ?_
  clear hs
  rintro ⟨L2,y,vo2⟩ w ⟨hM4,hG2,en2,hO2,hs⟩
  dsimp only at hM4 hG2 hO2 hs ⊢
  obtain ⟨ap,lp,cp,rfl,-⟩:=hO2.shape
  have hy0:=hG2.low
  have hy1:=hG2.high
  refine .seq (.ai (.z zm (.z zm (.o (.call fA rfl (cB hs hr ak ak) ?_)))));rintro _ w ⟨k61,g61,rfl,hs⟩
  refine .z cq (.zn iJ (.bO rfl (fun hc63=>?_) (fun hc63=>?_)))
  ·refine .skip (nT (.seq (.block (.ai (.z (zfa bg) (.y hs (zld an) (.z zm (.o (.buildSlice (cells:=[_]) hs bX rfl rfl fun b69 w hs=>?_)))))))))
   refine .o (.append (ys:=Is [y]) hs bP rfl rfl hO2 (.own .here rfl rfl) (ia _) (fun l' h=>by simp at h;omega) ?_);intro v70 en70 w hO3 hs
   rw [←List.map_append] at hO3
   obtain ⟨a70,l70,c70,rfl,-⟩:=hO3.shape
   refine .z (zfa bg) (.o (.store hs rfl rfl au fun w hs=>?_))
   refine .nil (.region (.z zm (.z zm (.z zm (.z zm (.z cq (.o (.call fA rfl (cB hs hr ak ak) ?_))))))));rintro _ w ⟨k77,g77,rfl,hs⟩
   have m79:=kV (a:=50*(1+(k53:Int))) (b:=1+(k77:Int)) (A:=450) (B:=3) ak ak
   have m79':50≤50*(1+(k53:Int))*(1+(k77:Int)):=by
    have:=Int.mul_le_mul (a:=50) (c:=50*(1+(k53:Int))) (b:=1) (d:=1+(k77:Int)) ak ak ak ak
    omega
   refine .z cq (.z kM (.z cq (.zn zg (nB (nT (.region (.z zm (.z cq (.zn zg (nT ?_))))))))))
   exact ⟨(L2++[y],_,.slice a70 l70 c70),.dy rfl bV bn,⟨by simp;omega,hG2.snoc (by dsimp only;omega) (by dsimp only;omega),_,hO3,hs.sb⟩,by simp;omega⟩
  ·refine .exit (xT (xT (xB (nT (.ai (.z zm (.o (.call fA rfl (cB hs hr ak ak) ?_))))))));rintro _ w ⟨k83,g83,rfl,hs⟩
   refine .z kM (.z zm (.o (.call fA rfl (cB hs hr ak ak) ?_)));rintro _ w ⟨k86,g86,rfl,hs⟩
   refine .z kM (.z (zbd [_,_] sc) (.z (zfa ff) (.o (.aH (vs:=[_,_]) hs rfl rfl Tryz.sizeOf46 fun w hs=>?_))))
   refine .nil (.ai (.y hs (zls [_,_,_,_,_,_] aM aD) (.o (.aH (vs:=[_,_,_,_,_,_]) hs rfl rfl aD fun w hs=>?_))))
   refine .nil (.ret ?_)
   exact Fin.gj [] [] hs fun w hs=>⟨_,results1 Tryz.results89 (cC (vs:=[_,_,_,_,_,_]) hs rfl aM aD),⟨1+(k11:Int),1+(k14:Int),L,L2,100*(k83:Int),100*(k86:Int)⟩,.slice ao lo co,.slice ap lp cp,en,en2,rfl,
    ⟨⟨hG.plc ak hL2 ak ak,hG2.plc ak ak ak ak,by dsimp only;omega,by dsimp only;omega,by dsimp only;omega,by dsimp only;omega⟩,hL4,hM4⟩,hO,hO2,hs.sb⟩
instance (s:Spc) (r:Rdg):Decidable (mX s r):=
 decidable_of_iff ((1≤r.src∧r.src≤99999)∧(0≤r.st∧r.st≤(s.st.length:Int) - 1)∧(0≤r.wa∧r.wa≤(s.wa.length:Int) - 1)∧(0≤r.tol∧r.tol≤1000)∧(0≤r.val∧r.val≤20000 - r.tol)∧(1≤r.tape∧r.tape≤99)∧(0≤r.day∧r.day≤100000))
  ⟨fun ⟨a,b,c,d,e,f,g⟩=>⟨a,b,c,d,e,f,g⟩,fun ⟨a,b,c,d,e,f,g⟩=>⟨a,b,c,d,e,f,g⟩⟩
def gY(s:Spc)(rs:List Rdg):List Rdg:=rs.filter fun r=>decide (mX s r)
theorem AZ(s:Spc){rs:List Rdg}{k:Nat}{r:Rdg}(h:rs[k]? =some r):gY s (rs.take (k+1))=if mX s r then gY s (rs.take k)++[r] else gY s (rs.take k):=by
 unfold gY
 rw [cZ h,List.filter_append]
 by_cases e:mX s r
 ·simp [e]
 ·simp [e]
theorem tZ(s:Spc)(rs:List Rdg):(gY s rs).length≤rs.length:=List.length_filter_le _ _
theorem ya{s:Spc}{rs:List Rdg}{r:Rdg}(h:r∈gY s rs):r∈rs∧mX s r:=by
 unfold gY at h;simpa using List.mem_filter.1 h
theorem Ev{s:Spc}{rs:List Rdg}{t:TD}(h:t∈aT (gY s rs)):t∈aT rs:=by
 obtain ⟨r,h1,h2⟩:=fK.1 h
 exact fK.2 ⟨r,(ya h1).1,h2⟩
def mS(v:Srv)(x:List Int)(t:TD):Int:=gi x (v.sp.many+1+(jH v.bM t).toNat)
def Hr(v:Srv)(x:List Int):List Int:=x.take (v.sp.many+1)++(aT (gY v.sp v.rs)).map (mS v x)
set_option maxHeartbeats 1000000 in
theorem tH{vr:Value}{rs:List Rdg}(hs:St H w σ)(hr:RRd H vr rs)(hl:rs.length≤1000000):
  Cl Tryz.prog 96 [vr] w fun u w'=>∃en,bS 2 u (tdc (aT rs)).flatten en∧St H w' (en::σ):=by
 obtain ⟨ar,cr,rfl⟩:=RRd.shape hr
 refine Cl.o Tryz.func96 Tryz.ntmps96 ag1 ?_
 refine .ai (.zn zg (.ai (.zn zg (.seq (.ai (.zn zg (.block ?_)))))))
 refine .loop (fun p:Nat×Value=>⟨32,[],[(4,I (p.1:Int)),(3,p.2),(0,.slice ar rs.length cr)]⟩)
  (fun p w=>p.1≤rs.length∧∃en,bS 2 p.2 (tdc (aT (rs.take p.1))).flatten en∧St H w (en::σ)) (fun p=>rs.length - p.1) (0,.slice none 0 0) bn
  ⟨Nat.zero_le _,_,.nil 2 none,hs.nul⟩ ?_
 rintro ⟨k,vo⟩ w ⟨hk,en,hO,hs⟩
 dsimp only at hk hO ⊢
 have htl:=kj rs k ak
 obtain ⟨ao,co,rfl⟩:=hO.lK (oY _) ak
 rw [dR] at hO ⊢
 refine .seq (.ai (.z zm (.z zm (.z (cU aO) (.zn iJ (.bO rfl (fun hc9=>?_) (fun hc9=>?_)))))))
 ·refine .skip (nT (.seq (.block (.seq (.draw mix rfl hs fun w hs=>?_)))))
  refine .zw 0 rfl zm ?_;refine .z 1 rfl zm ?_
  obtain ⟨r,hx⟩:=nth (l:=rs) (k:=k) ak
  have htk:=jk hx
  refine .ixX (enc:=Rdg.c) (i:=2) hs rfl aE .none hr rfl rfl aO a8 hx df ?_;intro b14 o14 hc14
  have d14:cellAt H b14 (o14+5)=some (I r.tape):=hc14 5 _ rfl
  refine .zw 3 rfl (zfa eo) ?_;refine .y 4 rfl hs af ?_;refine .z 5 rfl zm ?_;refine .z 6 rfl zm ?_
  refine .ixX (enc:=Rdg.c) (i:=7) hs rfl aE .none hr rfl rfl aO a8 hx df ?_;intro b19 o19 hc19
  have d19:cellAt H b19 (o19+6)=some (I r.day):=hc19 6 _ rfl
  refine .zw 8 rfl (zfa ek) ?_;refine .y 9 rfl hs af ?_;refine .z 10 rfl (zbd [_,_] gL) ?_
  refine .E 11 hs ?_
  refine .alloc hs kg rfl ?_;intro b5 w hs
  refine .go (.E 12 hs ?_)
  refine .aH (vs:=[_,_]) hs rfl rfl bk ?_;intro w hs
  refine .go (.D hs (.ai (.z zm (.y hs (zls [_,_] dA bk) (.o (.call Tryz.call95 rfl (ng (t:=r.td) (hs.sb:St H w (en:: .blk b5 [I r.tape,I r.day]::σ)) hO ak) ?_))))));rintro _ w ⟨rfl,hs⟩
  have hnn:=rN (l:=aT (rs.take k)) (t:=r.td)
  refine .zn iJ (.bO rfl (fun hc26=>?_) (fun hc26=>?_))
  ·refine .region (.z zm (.y hs (zls [_,_] dA bk) (.o (.buildSlice (cells:=[_,_]) hs gZ rfl rfl fun b29 w hs=>?_))))
   refine .o (.append (ys:=r.td.c) hs dZ rfl rfl hO (.own .here rfl rfl) (by simp [TD.c,Value.oneCell']) (fun l h=>by rw [cK _ (oY _),dR] at h;omega) ?_);intro v30 en30 w hO2 hs
   refine .zn zg (nB (nT (.region (.z zm (.z cq (.zn zg (nT ?_)))))))
   have hn:r.td∉aT (rs.take k):=fun hm=>by have:=hnn.2 hm;omega
   rw [←wk,show aT (rs.take k)++[r.td]=aT (rs.take (k+1)) by rw [htk];unfold qH;rw [if_neg hn]] at hO2
   exact ⟨(k+1,v30),.dy rfl bV bn,⟨by dsimp only;omega,_,hO2,hs.sb⟩,by dsimp only;omega⟩
  ·refine .skip (nB (nT (.region (.z zm (.z cq (.zn zg (nT ?_)))))))
   have hm:r.td∈aT (rs.take k):=hnn.1 ak
   exact ⟨(k+1,_),.dy rfl bV bn,⟨by dsimp only;omega,en,by dsimp only;rw [htk];unfold qH;rw [if_pos hm];exact hO,hs.sb⟩,by dsimp only;omega⟩
 ·refine .exit (xT (xT (xB (nT (.ai (.z zm (.zn zg (.ret (Fin.bu Tryz.results96 rfl ?_)))))))))
  obtain rfl:k=rs.length:=by omega
  rw [List.take_length] at hO
  exact ⟨en,by rw [List.take_length];exact hO,hs⟩
set_option maxHeartbeats 2000000 in
theorem p5{s:Srv}{x:List Int}{vst vwa vr vc vx:Value}(hs:St H w σ)(h1:RI H vst s.sp.st)(h2:RI H vwa s.sp.wa)(h3:RRd H vr s.rs)(hc:∃a l c,vc= .slice a l c)(hx:RI H vx x)(hxl:x.length=s.sys.n)(hb:s.sp.st.length≤1000∧s.sp.wa.length≤1000∧s.rs.length≤1000):
  Cl Tryz.prog 97 [.agg #[I s.sp.id,I s.sp.src,vst,vwa,I s.sp.al,I s.sp.up,vr,vc],vx] w fun u w'=>∃H1 vr' vy e1 e2,HLe H H1∧u= .tuple #[.agg #[I s.sp.id,I s.sp.src,vst,vwa,I s.sp.al,I s.sp.up,vr',vc],vy]∧bS 7 vr' (rdc (gY s.sp s.rs)).flatten e1∧bS 1 vy (Is (Hr s x)) e2∧St H1 w' (e1::e2::σ):=by
 obtain ⟨ast,cst,rfl⟩:=RI.shape h1
 obtain ⟨awa,cwa,rfl⟩:=RI.shape h2
 obtain ⟨ar,cr,rfl⟩:=RRd.shape h3
 obtain ⟨ac,lc,cc,rfl⟩:=hc
 obtain ⟨ax,cx,rfl⟩:=RI.shape hx
 have hm:s.sp.many≤1000000:=Nat.mul_le_mul hb.1 hb.2.1
 have hn:=tw s
 have htl:=dn s.rs
 refine Cl.o Tryz.func97 Tryz.ntmps97 ag2 ?_
 refine .ai (.bx hs fun b2 w hs=>?_)
 refine .o (.alloc hs ez rfl fun b4 w hs=>?_)
 refine .zn zg (.ai (.z (zfa br) (.y hs (zld cS) (.o (.call Tryz.call96 rfl (ij (rs:=s.rs) hs h3 ak) ?_)))));rintro v15 w ⟨H1,hle1,hT,hs⟩
 obtain ⟨at',ct,rfl⟩:=RTd.shape hT
 refine .zn zg (.ai (.z (zfa bj) (.y hs (zls [_,_,_,_,_,_] aM aD) (.o (.call Tryz.call94 rfl (fX (s:=s.sp) hs (h1.mono hle1) (h2.mono hle1) ⟨hb.1,hb.2.1⟩) ?_)))));rintro _ w ⟨rfl,hs⟩
 refine .zn zg (.ai (.y hs (zls [_,_,_,_,_,_,_,_] aI aB) (.o (.alloc hs ez rfl fun b8 w hs=>?_))))
 refine .o (.aH (vs:=[_,_,_,_,_,_,_,_]) hs rfl rfl aB fun w hs=>?_)
 refine .nil (.ai (.z (zfa br) (.o (.store hs rfl rfl GV fun w hs=>?_))))
 refine .nil (.seq (.ai (.zn zg (.block ?_))))
 refine .loop (fun p:Nat×Value=>⟨78,[],[(9,I (p.1:Int)),(8,Pt b8),(7,I (s.sp.many:Int)),(6,.slice at' (aT s.rs).length ct),(4,Pt b4),(2,Pt b2),(1,.slice ax x.length cx)]⟩)
  (fun p w=>p.1≤s.rs.length∧∃en,bS 7 p.2 (rdc (gY s.sp (s.rs.take p.1))).flatten en∧St H1 w (en:: .blk b8 [I s.sp.id,I s.sp.src,.slice ast s.sp.st.length cst,.slice awa s.sp.wa.length cwa,I s.sp.al,I s.sp.up,p.2,.slice ac lc cc]:: .blk b4 [I 0,I 0,.slice none 0 0,.slice none 0 0,I 0,I 0,.slice none 0 0,.slice none 0 0]:: .blk b2 [I s.sp.id,I s.sp.src,.slice ast s.sp.st.length cst,.slice awa s.sp.wa.length cwa,I s.sp.al,I s.sp.up,.slice ar s.rs.length cr,.slice ac lc cc]::σ)) (fun p=>s.rs.length - p.1) (0,.slice none 0 0) bn
  ⟨Nat.zero_le _,_,.nil 7 none,hs.nul⟩ ?_
 clear hs
 rintro ⟨k,vo⟩ w ⟨hk,en,hO,hs⟩
 dsimp only at hk hO hs ⊢
 have hkl:=tZ s.sp (s.rs.take k)
 rw [List.length_take] at hkl
 obtain ⟨ao,lo,co,rfl,-⟩:=hO.shape
 refine .seq (.ai (.z zm (.z (zfa br) (.y hs (zld cS) (.z (cU aO) (.zn iJ (.bO rfl (fun hc25=>?_) (fun hc25=>?_))))))))
 ·refine .skip (nT (.seq (.block (.seq (.draw mix rfl hs fun w hs=>?_)))))
  refine .zw 0 rfl (zfa bj) ?_;refine .ys 1 rfl hs [_,_,_,_,_,_] aM aD ?_;refine .z 2 rfl (zfa br) ?_;refine .y 3 rfl hs cS ?_;refine .z 4 rfl zm ?_
  obtain ⟨r,hr⟩:=nth (l:=s.rs) (k:=k) ak
  have hsn:=AZ s.sp hr
  refine .ixX (enc:=Rdg.c) (i:=5) hs rfl aE .none (h3.mono hle1) rfl rfl aO a8 hr df ?_;intro b33 o33 hc33
  refine .r (i:=6) hs rfl aE .none (bI (vs:=r.c) rfl gu a8 hc33) ?_
  refine .E 7 hs ?_
  refine .call Tryz.call150 rfl (l6 (s:=s.sp) (r:=r) hs (h1.mono hle1) (h2.mono hle1)) ?_;rintro _ w ⟨b35,rfl,hb35,hs⟩
  refine .go (.D hs (.cond rfl (fun hc35=>?_) (fun hc35=>?_)))
  ·refine .draw mix rfl hs fun w hs=>?_
   refine .zw 0 rfl (zfa br) ?_;refine .y 1 rfl hs cS ?_;refine .z 2 rfl (zfa br) ?_;refine .y 3 rfl hs cS ?_;refine .z 4 rfl zm ?_
   refine .ixX (enc:=Rdg.c) (i:=5) hs rfl aE .none (h3.mono hle1) rfl rfl aO a8 hr df ?_;intro b41 o41 hc41
   refine .r (i:=6) hs rfl aE .none (bI (vs:=r.c) rfl gu a8 hc41) ?_
   refine .E 7 hs ?_
   refine .buildSlice (cells:=r.c) hs j5 rfl aE ?_;intro b43 w hs
   refine .go (.E 8 hs ?_)
   refine .append (ys:=r.c) hs fG rfl rfl hO (.own .here rfl rfl) (by simp [Rdg.c,Value.oneCell']) (fun l' h=>by rw [cK _ (ra _),fq] at h;omega) ?_;intro v44 en44 w hO2 hs
   rw [←zJ,show gY s.sp (s.rs.take k)++[r]=gY s.sp (s.rs.take (k+1)) by rw [hsn,if_pos (hb35.1 (by simpa using hc35))]] at hO2
   obtain ⟨a44,l44,c44,rfl,-⟩:=hO2.shape
   refine .go (.zw 9 rfl (zfa br) (.E 10 hs ?_))
   refine .store hs rfl rfl GV ?_;intro w hs
   refine .go (.D hs (nB (nT (.region (.z zm (.z cq (.zn zg (nT ?_))))))))
   exact ⟨(k+1,.slice a44 l44 c44),.dy rfl bV bn,⟨by dsimp only;omega,_,hO2,hs.sb⟩,by dsimp only;omega⟩
  ·refine .skip (nB (nT (.region (.z zm (.z cq (.zn zg (nT ?_)))))))
   exact ⟨(k+1,.slice ao lo co),.dy rfl bV bn,⟨by dsimp only;omega,en,by dsimp only;rw [hsn,if_neg (fun h=>by rw [hb35.2 h] at hc35;cases hc35)];exact hO,hs.sb⟩,by dsimp only;omega⟩
 ·refine .exit (xT (xT (xB (nT (.ai ?_)))))
  obtain rfl:k=s.rs.length:=by omega
  rw [List.take_length] at hO
  refine .o (.buildSlice (cells:=[]) hs r9 rfl rfl fun b46 w hs=>?_)
  refine .z zm (.z zm (.z cq (.q hs (p6 (k:=s.sp.many+1) rfl rfl ae aj rfl (by have:=(RS.len hx).2.1;omega)) ?_)))
  refine .o (.append (xs:=[]) (ys:=Is (x.take (s.sp.many+1))) hs bP rfl rfl (.full (len:=0) rfl) (.ints (RI.head (hx.mono hle1) (k:=s.sp.many+1) ak)) (ia _) (fun l h=>by simp at h;rw [List.length_take];omega) ?_);intro v51 en51 w hO3 hs
  rw [List.nil_append] at hO3
  refine .zn zg (.ai (.z (zfa br) (.y hs (zld cS) ?_)))
  have hkl:=tZ s.sp s.rs
  obtain ⟨H2,hle2,hRR,hs2,back⟩:=hO.ze (ra _) ak (by rw [fq];omega) (hs.sb:St H1 w (en::en51:: .blk b8 [I s.sp.id,I s.sp.src,.slice ast s.sp.st.length cst,.slice awa s.sp.wa.length cwa,I s.sp.al,I s.sp.up,.slice ao lo co,.slice ac lc cc]:: .blk b4 [I 0,I 0,.slice none 0 0,.slice none 0 0,I 0,I 0,.slice none 0 0,.slice none 0 0]:: .blk b2 [I s.sp.id,I s.sp.src,.slice ast s.sp.st.length cst,.slice awa s.sp.wa.length cwa,I s.sp.al,I s.sp.up,.slice ar s.rs.length cr,.slice ac lc cc]::σ))
  refine .o (.call Tryz.call96 rfl (tH (rs:=gY s.sp s.rs) hs2 hRR ak) ?_);rintro v54 w ⟨enT,hOT,hsT⟩
  have hs:=back (HLe.refl _) hsT
  have htl':=dn (gY s.sp s.rs)
  obtain ⟨H3,hle3,hT3,hs⟩:=bS.bU (m:=2) (cs:=tdc (aT (gY s.sp s.rs))) hOT (oY _) ak (by rw [dR];omega) hs (.there .here)
  have hT3:RTd H3 v54 (aT (gY s.sp s.rs)):=hT3
  obtain ⟨a54,c54,rfl⟩:=RTd.shape hT3
  refine .zn zg (.seq (.ai (.zn zg (.block ?_))))
  refine .loop (fun p:Nat×Value=>⟨78,[],[(12,I (p.1:Int)),(10,p.2),(11,.slice a54 (aT (gY s.sp s.rs)).length c54),(8,Pt b8),(7,I (s.sp.many:Int)),(6,.slice at' (aT s.rs).length ct),(4,Pt b4),(1,.slice ax x.length cx)]⟩)
   (fun p w=>p.1≤(aT (gY s.sp s.rs)).length∧∃en2,bS 1 p.2 (Is (x.take (s.sp.many+1)++((aT (gY s.sp s.rs)).take p.1).map (mS s x))) en2∧St H3 w (en2:: .blk b8 [I s.sp.id,I s.sp.src,.slice ast s.sp.st.length cst,.slice awa s.sp.wa.length cwa,I s.sp.al,I s.sp.up,.slice ao lo co,.slice ac lc cc]:: .blk b4 [I 0,I 0,.slice none 0 0,.slice none 0 0,I 0,I 0,.slice none 0 0,.slice none 0 0]::en::σ)) (fun p=>(aT (gY s.sp s.rs)).length - p.1) (0,v51) bn
   ⟨Nat.zero_le _,en51,by simpa using hO3,hs.sb⟩ ?_
  clear hs
  rintro ⟨j,vy⟩ w ⟨hj,en2,hO4,hs⟩
  dsimp only at hj hO4 hs ⊢
  obtain ⟨ay,ly,cy,rfl,-⟩:=hO4.shape
  refine .seq (.ai (.z zm (.z zm (.z (cU a6) (.zn iJ (.bO rfl (fun hc58=>?_) (fun hc58=>?_)))))))
  ·refine .skip (nT (.seq (.block (.region (.z zm (.z zm (.z zm (.z cq (.z zm (.z zm (.z zm ?_)))))))))))
   obtain ⟨t,ht⟩:=nth (l:=aT (gY s.sp s.rs)) (k:=j) ak
   have htm:t∈s.bM:=Ev (List.mem_of_getElem? ht)
   obtain ⟨q,q1,q2,q3⟩:=gy htm
   have q3':q<(aT s.rs).length:=q3
   have q1':jH (aT s.rs) t=(q:Int):=q1
   have hnt:s.sys.n=s.sp.many+(aT s.rs).length+1:=hn
   have herr:mS s x t=gi x (s.sp.many+1+q):=by unfold mS;rw [q1,Int.toNat_natCast]
   refine .ixX (enc:=TD.c) hs hT3 rfl rfl a6 bk ht df ?_;intro b68 o68 hc68
   refine .q hs (bI (vs:=t.c) rfl dA bk hc68) (.o (.call Tryz.call95 rfl (jI (t:=t) hs (hT.mono hle3) ak) ?_));rintro _ w ⟨rfl,hs⟩
   rw [q1']
   refine .z cq (.ixY hs (hx.mono (hle1.trans hle3)) rfl rfl ae aj (bB (l:=x) (i:=s.sp.many+1+q) ak) ak ?_);intro b72 o72 hc72
   refine .q hs (aQ rfl af hc72) (.o (.buildSlice (cells:=[_]) hs bX rfl rfl fun b74 w hs=>?_))
   refine .o (.append (ys:=Is [gi x (s.sp.many+1+q)]) hs bP rfl rfl hO4 (.own .here rfl rfl) (ia _) (fun l' h=>by simp at h;omega) ?_);intro v75 en75 w hO5 hs
   rw [←List.map_append,List.append_assoc,←herr,show ((aT (gY s.sp s.rs)).take j).map (mS s x)++[mS s x t]=((aT (gY s.sp s.rs)).take (j+1)).map (mS s x) by rw [cZ ht];simp] at hO5
   obtain ⟨a75,l75,c75,rfl,-⟩:=hO5.shape
   refine .zn zg (nB (nT (.region (.z zm (.z cq (.zn zg (nT ?_)))))))
   exact ⟨(j+1,.slice a75 l75 c75),.dy rfl bV bn,⟨by dsimp only;omega,_,hO5,hs.sb⟩,by dsimp only;omega⟩
  ·refine .exit (xT (xT (xB (nT (.ai (.y hs (zls [_,_,_,_,_,_,_,_] aI aB) (.z zm (.o (.aH (vs:=[_,_,_,_,_,_,_,_]) hs rfl rfl aB fun w hs=>?_)))))))))
   refine .zn zg (.ret ?_)
   obtain rfl:j=(aT (gY s.sp s.rs)).length:=by omega
   rw [List.take_length] at hO4
   exact Fin.gj [] [] hs fun w hs=>⟨_,results2 Tryz.results97 (cC (vs:=[_,_,_,_,_,_,_,_]) hs rfl aI aB) rfl,H3,_,_,en,en2,hle1.trans hle3,rfl,hO,hO4,hs.sb⟩
theorem AY{s:Spc}{rs R:List Rdg}{cs:List Cmp}{x:List Int}(hf:fW (Srv.ow ⟨s,rs,cs⟩).cA (gi x))(hx0:gi x 0=0)(hxl:x.length=s.many+(aT rs).length+1)(ht:aT R=aT rs)(hS:∀r∈R,RdS s r)(hR:∀r∈R,C3 s (aT rs) x r):
  j7 ⟨s,gY s R,cs⟩ (Hr ⟨s,R,cs⟩ x):=by
 have hl:(x.take (s.many+1)).length=s.many+1:=by rw [List.length_take];omega
 refine Cj (R:=R) (x:=x) List.filter_sublist hS hx0 (Cz hf ht hR) ?_ (fun b hb=>?_) fun j hj=>?_
 ·show (x.take (s.many+1)++(aT (gY s R)).map (mS ⟨s,R,cs⟩ x)).length=_
  rw [List.length_append,hl,List.length_map]
 ·show gi (x.take (s.many+1)++(aT (gY s R)).map (mS ⟨s,R,cs⟩ x)) b=_
  unfold gi
  simp only [List.getD]
  rw [List.getElem?_append_left ak,List.getElem?_take_of_lt ak]
 ·show gi (x.take (s.many+1)++(aT (gY s R)).map (mS ⟨s,R,cs⟩ x)) (s.many+1+j)=_
  have e:∀t,(aT (gY s R))[j]? =some t→gi (x.take (s.many+1)++(aT (gY s R)).map (mS ⟨s,R,cs⟩ x)) (s.many+1+j)=mS ⟨s,R,cs⟩ x t:=fun t ht=>by
   unfold gi
   simp only [List.getD]
   rw [List.getElem?_append_right ak,hl,show s.many+1+j - (s.many+1)=j by omega,List.getElem?_map,ht]
   rfl
  rw [e _ (yR hj)];rfl
set_option maxHeartbeats 2000000 in
theorem uT{vs v5 v4 vp:Value}{sl pk:List Int}{fs5:List F5}{fs4:List F4}{z1 z2 z3:Int}(hs:St H w σ)(g1:RI H vs sl)(g2:RF5 H v5 fs5)(g3:RF4 H v4 fs4)(g4:RI H vp pk):
  Cl Tryz.prog 31 [.agg #[vs,v5,v4,vp,I z1,I z2,I z3]] w fun u w'=>∃H1 s y vst vwa vr vc vy e1 e2 e3 e4 e5,HLe H H1∧u= .tuple #[.agg #[I s.sp.id,I s.sp.src,vst,vwa,I s.sp.al,I s.sp.up,vr,vc],vy]∧GA s∧Fu s vst vwa vr vc e1 e2 e3 e4∧bS 1 vy (Is y) e5∧j7 s y∧St H1 w' (e1::e2::e3::e4::e5::σ):=by
 obtain ⟨avs,cvs,rfl⟩:=RI.shape g1
 obtain ⟨av5,cv5,rfl⟩:=g2.shape
 obtain ⟨av4,cv4,rfl⟩:=g3.shape
 obtain ⟨avp,cvp,rfl⟩:=RI.shape g4
 refine Cl.o Tryz.func31 Tryz.ntmps31 ag1 ?_
 refine .ai (.bx hs fun b1 w hs=>?_)
 refine .o (.alloc hs ez rfl fun b2 w hs=>?_)
 refine .zn zg (.ai (.z (zfa nD) (.y hs (zld an) (.o (.call Tryz.call89 rfl (po hs g1) ?_)))));rintro _ w ⟨s,vst,vwa,e1,e2,rfl,hSp,hO1,hO2,hs⟩
 have hSt:=hSp.st
 have hWa:=hSp.wa
 have hSt2:=hSp.ok.st.two
 have hWa2:=hSp.ok.wa.two
 obtain ⟨ast,lst,cst,rfl,hlst⟩:=hO1.shape
 obtain ⟨awa,lwa,cwa,rfl,hlwa⟩:=hO2.shape
 obtain rfl:s.st.length=lst:=by simpa [Is] using hlst
 obtain rfl:s.wa.length=lwa:=by simpa [Is] using hlwa
 refine .z (zbd [_,_,_,_,_,_,_,_] oR) (.o (.alloc hs ez rfl fun b4 w hs=>?_))
 refine .o (.aH (vs:=[_,_,_,_,_,_,_,_]) hs rfl rfl aB fun w hs=>?_)
 refine .nil (.ai (.z (zfa bj) (.y hs (zls [_,_,_,_,_,_] aM aD) (.o (.alloc hs iV rfl fun b5 w hs=>?_)))))
 refine .o (.aH (vs:=[_,_,_,_,_,_]) hs rfl rfl aD fun w hs=>?_)
 refine .nil (.cut (fun fs w=>∃rs e3 ar cr,lZ fs ⟨208,[],[(5,Pt b5),(4,Pt b4),(2,Pt b2),(1,Pt b1)]⟩∧rs.length≤14∧rs.length≤fs5.length∧(∀r∈rs,mX s r)∧bS 7 (.slice ar rs.length cr) (rdc rs).flatten e3∧St H w (e3:: .blk b5 [I s.id,I s.src,.slice ast s.st.length cst,.slice awa s.wa.length cwa,I s.al,I s.up]:: .blk b4 [I s.id,I s.src,.slice ast s.st.length cst,.slice awa s.wa.length cwa,I s.al,I s.up,.slice ar rs.length cr,.slice none 0 0]::e1::e2:: .blk b2 [I 0,I 0,.slice none 0 0,.slice none 0 0,I 0,I 0,.slice none 0 0,.slice none 0 0]:: .blk b1 [.slice avs sl.length cvs,.slice av5 fs5.length cv5,.slice av4 fs4.length cv4,.slice avp pk.length cvp,I z1,I z2,I z3]::σ)) ?_ ?_)
 ·refine .ai (.zn zg (.block ?_))
  refine .loop (fun p:List Rdg×Option Addr×Nat=>⟨208,[],[(6,I (p.1.length:Int)),(5,Pt b5),(4,Pt b4),(2,Pt b2),(1,Pt b1)]⟩)
   (fun p w=>p.1.length≤14∧p.1.length≤fs5.length∧(∀r∈p.1,mX s r)∧∃e3,bS 7 (.slice p.2.1 p.1.length p.2.2) (rdc p.1).flatten e3∧
    St H w (e3:: .blk b5 [I s.id,I s.src,.slice ast s.st.length cst,.slice awa s.wa.length cwa,I s.al,I s.up]:: .blk b4 [I s.id,I s.src,.slice ast s.st.length cst,.slice awa s.wa.length cwa,I s.al,I s.up,.slice p.2.1 p.1.length p.2.2,.slice none 0 0]::e1::e2:: .blk b2 [I 0,I 0,.slice none 0 0,.slice none 0 0,I 0,I 0,.slice none 0 0,.slice none 0 0]:: .blk b1 [.slice avs sl.length cvs,.slice av5 fs5.length cv5,.slice av4 fs4.length cv4,.slice avp pk.length cvp,I z1,I z2,I z3]::σ)) (fun p=>14 - p.1.length) ([],none,0) bn
   ⟨bV,bV,bV,_,.nil 7 none,(hs.sb).nul⟩ ?_
  clear hs
  rintro ⟨rs,ar,cr⟩ w ⟨hr14,hrf,hrok,e3,hO3,hs⟩
  dsimp only at hr14 hrf hrok hO3 hs ⊢
  refine .seq (.ai (.z zm (.z (zfa gH) (.y hs (zld Tryz.isAgg35) (.z (cU Tryz.runUnderlying35) (.z iJ (.z zm (.kF (t':=31) rfl (fun hb31=>?_) (fun hb31=>?_)))))))))
  ·refine .T (.z zm (.T (.z iJ (.zn zpT (.bO rfl (fun hc34=>?_) (fun hc34=>?_))))))
   ·refine .skip (nT (.seq (.block (.ai (.z (zfa gH) (.y hs (zld Tryz.isAgg35) (.z zm ?_)))))))
    obtain ⟨n,hn⟩:=nth (l:=fs5) (k:=rs.length) ak
    refine .ixX (enc:=F5.v) hs g2 rfl rfl Tryz.runUnderlying35 vj hn df ?_;intro b40 o40 hc40
    refine .q hs (bI (vs:=n.v) rfl Tryz.isAgg151 vj hc40) (.o (.alloc hs Tryz.zeroValue151 rfl fun b7 w hs=>?_))
    refine .o (.aH (vs:=[_,_,_,_,_]) hs rfl rfl vj fun w hs=>?_)
    refine .nil (.seq (.draw mix rfl hs fun w hs=>?_))
    refine .zw 0 rfl (zia 4 gV aj) (.zv 1 rfl hs (qm af) (.zw 3 rfl (zia 4 gV aj) (.y 4 rfl hs af ?_)));refine .z 5 rfl GH ?_
    refine .E 2 hs ?_
    refine .call gv rfl (cP hs ak) ?_;rintro _ w ⟨k44,g44,rfl,hs⟩
    refine .go (.E 6 hs ?_)
    refine .call gv rfl (cP hs ak) ?_;rintro _ w ⟨k48,g48,rfl,hs⟩
    have m49:0≤(k44:Int)*(k48:Int)∧(k44:Int)*(k48:Int)≤39:=by
     have e1:k48=0∨k48=1:=by omega
     rcases e1 with rfl|rfl<;>simp<;>omega
    refine .go (.zw 7 rfl kM ?_);refine .z 8 rfl zg ?_;refine .D hs ?_
    refine .draw mix rfl hs fun w hs=>?_
    refine .zw 0 rfl (zfa br) ?_;refine .y 1 rfl hs cS ?_;refine .z 2 rfl zm ?_;refine .z 3 rfl cq ?_
    refine .zw 4 rfl (zia 0 gV aj) (.y 5 rfl hs af ?_);refine .z 6 rfl (zfa bC) ?_;refine .y 7 rfl hs an ?_;refine .z 8 rfl (cU ae) ?_
    refine .zw 10 rfl (zia 1 gV aj) (.y 11 rfl hs af ?_);refine .z 12 rfl (zfa bg) ?_;refine .y 13 rfl hs an ?_;refine .z 14 rfl (cU ae) ?_;refine .z 16 rfl zm ?_
    refine .zw 17 rfl (zia 2 gV aj) (.zv 18 rfl hs (qm af) (.zw 21 rfl (zia 3 gV aj) (.zv 22 rfl hs (qm af) (.E 9 hs ?_))))
    refine .call gv rfl (cP hs ak) ?_;rintro _ w ⟨k59,g59,rfl,hs⟩
    refine .go (.E 15 hs ?_)
    refine .call gv rfl (cP hs ak) ?_;rintro _ w ⟨k65,g65,rfl,hs⟩
    refine .go (.E 19 hs ?_)
    refine .call gv rfl (cP hs ak) ?_;rintro _ w ⟨k69,g69,rfl,hs⟩
    refine .go (.zw 20 rfl cq (.E 23 hs ?_))
    refine .call gv rfl (cP hs ak) ?_;rintro _ w ⟨k73,g73,rfl,hs⟩
    obtain ⟨r,hr⟩:∃r:Rdg,r=⟨10+(rs.length:Int),(k59:Int),(k65:Int),0,(k44:Int)*(k48:Int),1+(k69:Int),(k73:Int)⟩:=⟨_,rfl⟩
    have hrOk:mX s r:=by subst hr;exact ⟨by dsimp only;omega,by dsimp only;omega,by dsimp only;omega,by dsimp only;omega,by dsimp only;omega,by dsimp only;omega,by dsimp only;omega⟩
    refine .go (.zw 24 rfl (zbd [_,_,_,_,_,_,_] gM) (.E 25 hs ?_))
    refine .buildSlice (cells:=r.c) hs j5 rfl (by subst hr;kernel_rfl) ?_;intro b75 w hs
    refine .go (.E 26 hs ?_)
    refine .append (ys:=r.c) hs fG rfl rfl hO3 (.own .here rfl rfl) (by simp [Rdg.c,Value.oneCell']) (fun l' h=>by rw [cK _ (ra _),fq] at h;omega) ?_;intro v76 en76 w hO4 hs
    rw [←zJ] at hO4
    obtain ⟨a76,c76,rfl⟩:=hO4.lK (ra _) ak
    rw [fq] at hO4 ⊢
    refine .go (.zw 27 rfl (zfa br) (.E 28 hs ?_))
    refine .store hs rfl rfl GV ?_;intro w hs
    refine .go (.D hs (nB (nT (.region (.z zm (.z cq (.zn zg (nT ?_))))))))
    exact ⟨(rs++[r],a76,c76),.dy rfl bV bn,⟨by simp;omega,by simp;omega,fun q hq=>by
      simp only [List.mem_append,List.mem_singleton] at hq
      rcases hq with hq|rfl
      ·exact hrok q hq
      ·exact hrOk,_,hO4,hs.sb⟩,by simp;omega⟩
   ·refine .exit (xT (xT (xB (nT ?_))))
    exact ⟨rs,e3,ar,cr,bn,hr14,hrf,hrok,hO3,hs⟩
  ·refine .Fs 2 5 true (.zn zpF (.cF (.exit (xT (xT (xB (nT ?_)))))))
   exact ⟨rs,e3,ar,cr,bn,hr14,hrf,hrok,hO3,hs⟩
 ·clear hs
  rintro fs w ⟨rs,e3,ar,cr,hfs,hr14,hrf,hrok,hO3,hs⟩
  refine WE.sub ?_ hfs
  clear hfs
  refine .cut (fun fs w=>∃cs e4 ac cc,lZ fs ⟨208,[],[(5,Pt b5),(4,Pt b4),(2,Pt b2),(1,Pt b1)]⟩∧cs.length≤5∧(∀c∈cs,sO c)∧(Srv.ow ⟨s,rs,cs⟩).Sound∧bS 6 (.slice ac cs.length cc) (cmc cs).flatten e4∧St H w (e1::e2::e3::e4:: .blk b5 [I s.id,I s.src,.slice ast s.st.length cst,.slice awa s.wa.length cwa,I s.al,I s.up]:: .blk b4 [I s.id,I s.src,.slice ast s.st.length cst,.slice awa s.wa.length cwa,I s.al,I s.up,.slice ar rs.length cr,.slice ac cs.length cc]:: .blk b2 [I 0,I 0,.slice none 0 0,.slice none 0 0,I 0,I 0,.slice none 0 0,.slice none 0 0]:: .blk b1 [.slice avs sl.length cvs,.slice av5 fs5.length cv5,.slice av4 fs4.length cv4,.slice avp pk.length cvp,I z1,I z2,I z3]::σ)) ?_ ?_
  ·refine .ai (.zn zg (.block ?_))
   refine .loop (fun p:Nat×List Cmp×Option Addr×Nat=>⟨208,[],[(9,I (p.1:Int)),(5,Pt b5),(4,Pt b4),(2,Pt b2),(1,Pt b1)]⟩)
    (fun p w=>p.1≤5∧p.1≤fs4.length∧p.2.1.length≤p.1∧(∀c∈p.2.1,sO c)∧(Srv.ow ⟨s,rs,p.2.1⟩).Sound∧∃e4,bS 6 (.slice p.2.2.1 p.2.1.length p.2.2.2) (cmc p.2.1).flatten e4∧
     St H w (e1::e2::e3::e4:: .blk b5 [I s.id,I s.src,.slice ast s.st.length cst,.slice awa s.wa.length cwa,I s.al,I s.up]:: .blk b4 [I s.id,I s.src,.slice ast s.st.length cst,.slice awa s.wa.length cwa,I s.al,I s.up,.slice ar rs.length cr,.slice p.2.2.1 p.2.1.length p.2.2.2]:: .blk b2 [I 0,I 0,.slice none 0 0,.slice none 0 0,I 0,I 0,.slice none 0 0,.slice none 0 0]:: .blk b1 [.slice avs sl.length cvs,.slice av5 fs5.length cv5,.slice av4 fs4.length cv4,.slice avp pk.length cvp,I z1,I z2,I z3]::σ)) (fun p=>5 - p.1) (0,[],none,0) bn
    ⟨bV,bV,bV,bV,CA (wL hSp.ok hSt hWa hr14 bV hrok bV) rfl,.nul,.nil 6 none,(hs.nul).sb⟩ ?_
   clear hs
   rintro ⟨k,cs,ac,cc⟩ w ⟨hk5,hkf,hck,hcok,hsd,e4,hO4,hs⟩
   dsimp only at hk5 hkf hck hcok hsd hO4 hs ⊢
   refine .seq (.ai (.z zm (.z (zfa jx) (.y hs (zld Tryz.isAgg36) (.z (cU Tryz.runUnderlying36) (.z iJ (.z zm (.kF (t':=83) rfl (fun hb83=>?_) (fun hb83=>?_)))))))))
   ·refine .T (.z zm (.T (.z iJ (.zn zpT (.bO rfl (fun hc86=>?_) (fun hc86=>?_))))))
    ·refine .skip (nT (.seq (.block (.ai (.z (zfa jx) (.y hs (zld Tryz.isAgg36) (.z zm ?_)))))))
     obtain ⟨n,hn⟩:=nth (l:=fs4) (k:=k) ak
     refine .ixX (enc:=F4.v) hs g3 rfl rfl Tryz.runUnderlying36 Tryz.sizeOf97 hn df ?_;intro b92 o92 hc92
     refine .q hs (bI (vs:=n.v) rfl Tryz.isAgg97 Tryz.sizeOf97 hc92) (.o (.alloc hs Tryz.zeroValue97 rfl fun b10 w hs=>?_))
     refine .o (.aH (vs:=[_,_,_,_]) hs rfl rfl Tryz.sizeOf97 fun w hs=>?_)
     refine .nil (.ai (.z (zia 1 rJ aj) (.y hs (zld af) (.o (.call gv rfl (cP hs ak) ?_)))));rintro _ w ⟨k96,g96,rfl,hs⟩
     refine .z ib (.zn zg (.ai (.z (zia 3 rJ aj) (.y hs (zld af) (.o (.call gv rfl (cP hs ak) ?_))))));rintro _ w ⟨k100,g100,rfl,hs⟩
     refine .zn zg (.seq (.draw mix rfl hs fun w hs=>?_))
     refine .zw 0 rfl (zfa dr) ?_;refine .y 1 rfl hs oG ?_;refine .z 2 rfl zm ?_;refine .z 3 rfl cq ?_
     refine .zw 4 rfl (zia 0 rJ aj) (.y 5 rfl hs af ?_);refine .z 8 rfl zm ?_;refine .z 9 rfl zm ?_
     refine .zw 10 rfl (zia 3 rJ aj) (.y 11 rfl hs af ?_);refine .z 12 rfl GH ?_;refine .z 15 rfl zm ?_;refine .z 16 rfl zm ?_
     refine .zw 17 rfl (zia 2 rJ aj) (.zv 18 rfl hs (qm af) (.E 6 hs ?_))
     refine .call gv rfl (cP hs ak) ?_;rintro _ w ⟨k107,g107,rfl,hs⟩
     refine .go (.zw 7 rfl cq (.E 13 hs ?_))
     refine .call gv rfl (cP hs ak) ?_;rintro _ w ⟨k114,g114,rfl,hs⟩
     refine .go (.zw 14 rfl cq (.E 19 hs ?_))
     refine .call gv rfl (cP hs ak) ?_;rintro _ w ⟨k120,g120,rfl,hs⟩
     obtain ⟨c,hc⟩:∃c:Cmp,c=⟨30+(k:Int),1+(k107:Int),(k100:Int),(k100:Int)+(k114:Int),(k96:Int) - 40,(k96:Int) - 40+(k120:Int)⟩:=⟨_,rfl⟩
     have hcOk:sO c:=by subst hc;exact ⟨by dsimp only;omega,by dsimp only;omega,by dsimp only;omega,by dsimp only;omega,by dsimp only;omega,by dsimp only;omega⟩
     refine .go (.zw 20 rfl cq ?_);refine .z 21 rfl (zbd [_,_,_,_,_,_] nN) ?_
     refine .E 22 hs ?_
     refine .buildSlice (cells:=c.c) hs j6 rfl (by subst hc;kernel_rfl) ?_;intro b123 w hs
     refine .go (.E 23 hs ?_)
     refine .append (ys:=c.c) hs jC rfl rfl hO4 (.own .here rfl rfl) (by simp [Cmp.c,Value.oneCell']) (fun l' h=>by rw [cK _ (CV _),ob] at h;omega) ?_;intro v124 en124 w hO5 hs
     rw [←Ak] at hO5
     obtain ⟨a124,c124,rfl⟩:=hO5.lK (CV _) ak
     rw [ob] at hO5 ⊢
     have hcl:(cs++[c]).length=cs.length+1:=by simp
     have hcok':∀d∈cs++[c],sO d:=fun d hd=>by
      simp only [List.mem_append,List.mem_singleton] at hd
      rcases hd with hd|rfl
      ·exact hcok d hd
      ·exact hcOk
     have hsok:dC ⟨s,rs,cs++[c]⟩:=wL hSp.ok hSt hWa hr14 ak hrok hcok'
     refine .go (.zw 24 rfl (zfa dr) (.E 25 hs ?_))
     refine .store hs rfl rfl Tryz.sizeOf50 ?_;intro w hs
     refine .go (.D hs (.ai (.y hs (zls [_,_,_,_,_,_,_,_] aI aB) ?_)))
     obtain ⟨Hx,hlex,r1,r2,r3,r4,hs2,back⟩:=Fu.ze (s:=⟨s,rs,cs++[c]⟩) ⟨hO1,hO2,hO3,hO5⟩ (by show s.st.length≤_;omega) (by show s.wa.length≤_;omega) (by show rs.length≤_;omega) (by show (cs++[c]).length≤_;omega) (hs.sb:St H w (e1::e2::e3::en124:: .blk b5 [I s.id,I s.src,.slice ast s.st.length cst,.slice awa s.wa.length cwa,I s.al,I s.up]:: .blk b4 [I s.id,I s.src,.slice ast s.st.length cst,.slice awa s.wa.length cwa,I s.al,I s.up,.slice ar rs.length cr,.slice a124 (cs++[c]).length c124]:: .blk b2 [I 0,I 0,.slice none 0 0,.slice none 0 0,I 0,I 0,.slice none 0 0,.slice none 0 0]:: .blk b1 [.slice avs sl.length cvs,.slice av5 fs5.length cv5,.slice av4 fs4.length cv4,.slice avp pk.length cvp,I z1,I z2,I z3]::σ))
     refine .o (.call Tryz.call91 rfl (tJ (s:=⟨s,rs,cs++[c]⟩) hs2 r1 r2 r3 r4 hsok.early (zi hsok)) ?_);rintro _ w ⟨Hy,b127,hley,rfl,hb127,hs3⟩
     have hs:=back hley hs3
     clear hs2 hs3 back
     refine .nil (.cond rfl (fun hc127=>?_) (fun hc127=>?_))
     ·refine .region (.z (zfa dr) (.y hs (zld oG) (.z (zfa dr) (.y hs (zld oG) (.z (cU cR) (.z ib (.q hs (p6 (k:=cs.length) rfl rfl cR eP ak (by have:=hO5.le;omega)) ?_)))))))
      refine .z (zfa dr) (.o (.store hs rfl rfl Tryz.sizeOf50 fun w hs=>?_))
      refine .nil (nB (nT (.region (.z zm (.z cq (.zn zg (nT ?_)))))))
      exact ⟨(k+1,cs,a124,c124),.dy rfl bV bn,⟨by dsimp only;omega,by dsimp only;omega,by dsimp only;omega,hcok,hsd,_,hO5.Gf,hs.sb⟩,by dsimp only;omega⟩
     ·refine .skip (nB (nT (.region (.z zm (.z cq (.zn zg (nT ?_)))))))
      exact ⟨(k+1,cs++[c],a124,c124),.dy rfl bV bn,⟨by dsimp only;omega,by dsimp only;omega,by dsimp only;omega,hcok',hb127 (by simpa using hc127),_,hO5,hs.sb⟩,by dsimp only;omega⟩
    ·refine .exit (xT (xT (xB (nT ?_))))
     exact ⟨cs,e4,ac,cc,bn,ak,hcok,hsd,hO4,hs⟩
   ·refine .Fs 2 5 true (.zn zpF (.cF (.exit (xT (xT (xB (nT ?_)))))))
    exact ⟨cs,e4,ac,cc,bn,ak,hcok,hsd,hO4,hs⟩
  ·clear hs
   rintro fs w ⟨cs,e4,ac,cc,hfs,hc5,hcok,hsd,hO4,hs⟩
   refine WE.sub ?_ hfs
   clear hfs
   have hsok:dC ⟨s,rs,cs⟩:=wL hSp.ok hSt hWa hr14 hc5 hrok hcok
   refine .ai (.y hs (zls [_,_,_,_,_,_,_,_] aI aB) (.z (zfa nC) (.y hs (zld an) ?_)))
   obtain ⟨Hx,hlex,r1,r2,r3,r4,hs2,back⟩:=Fu.ze (s:=⟨s,rs,cs⟩) ⟨hO1,hO2,hO3,hO4⟩ (by show s.st.length≤_;omega) (by show s.wa.length≤_;omega) (by show rs.length≤_;omega) (by show cs.length≤_;omega) hs
   refine .o (.call Tryz.call92 rfl (tI (s:=⟨s,rs,cs⟩) hs2 r1 r2 r3 r4 (g4.mono hlex) hsok.early ⟨zi hsok,hsd⟩) ?_);rintro v139 w ⟨Hy,x,ex,hley,hOx,hP,hs3⟩
   have hs:=back hley hs3
   clear hs2 hs3 back r1 r2 r3 r4
   obtain ⟨hxl,hx0,hxb,hfe⟩:=hP.xm (zi hsok) hsd
   have hsm:=hsok.many
   have hfn:(Srv.ow ⟨s,rs,cs⟩).n=s.many+(aT rs).length+1:=tw ⟨s,rs,cs⟩
   have hxl:x.length=s.many+(aT rs).length+1:=by rw [hxl];exact hfn
   rw [hfn] at hxb
   have hsm:s.many+(aT rs).length≤64:=hsm
   obtain ⟨Hz,hlez,hX,hs⟩:=bS.dJ hOx ak hs fh
   obtain ⟨ax,cx,rfl⟩:=RI.shape hX
   refine .zn zg (.seq (.ai (.zn zg (.block ?_))))
   refine .loop (fun p:Nat×List Rdg=>⟨208,[],[(14,I (p.1:Int)),(13,.slice ax x.length cx),(5,Pt b5),(4,Pt b4),(2,Pt b2),(1,Pt b1)]⟩)
    (fun p w=>p.1≤rs.length∧p.2.length=rs.length∧aT p.2=aT rs∧(∀r∈p.2,RdS s r)∧(∀j<p.1,∀r,p.2[j]? =some r→C3 s (aT rs) x r)∧∃e3,bS 7 (.slice ar rs.length cr) (rdc p.2).flatten e3∧
     St Hz w (e1::e2::e3::e4:: .blk b5 [I s.id,I s.src,.slice ast s.st.length cst,.slice awa s.wa.length cwa,I s.al,I s.up]:: .blk b4 [I s.id,I s.src,.slice ast s.st.length cst,.slice awa s.wa.length cwa,I s.al,I s.up,.slice ar rs.length cr,.slice ac cs.length cc]:: .blk b2 [I 0,I 0,.slice none 0 0,.slice none 0 0,I 0,I 0,.slice none 0 0,.slice none 0 0]:: .blk b1 [.slice avs sl.length cvs,.slice av5 fs5.length cv5,.slice av4 fs4.length cv4,.slice avp pk.length cvp,I z1,I z2,I z3]::σ)) (fun p=>rs.length - p.1) (0,rs) bn
    ⟨bV,rfl,rfl,fun r hr=>⟨(hrok r hr).st,(hrok r hr).wa,(hrok r hr).tol⟩,fun j hj=>by omega,e3,hO3,hs⟩ ?_
   clear hs hO3
   rintro ⟨k,R⟩ w ⟨hk,hRl,hRt,hRs,hRv,e3,hO3,hs⟩
   dsimp only at hk hRl hRt hRs hRv hO3 hs ⊢
   refine .seq (.ai (.z zm (.z (zfa br) (.y hs (zld cS) (.z (cU aO) (.zn iJ (.bO rfl (fun hc144=>?_) (fun hc144=>?_))))))))
   ·refine .skip (nT (.seq (.block (.ai (.z (zfa gH) (.y hs (zld Tryz.isAgg35) (.z zm ?_)))))))
    obtain ⟨n,hn⟩:=nth (l:=fs5) (k:=k) ak
    obtain ⟨r,hr⟩:=nth (l:=R) (k:=k) ak
    have hrS:=hRs r (List.mem_of_getElem? hr)
    obtain ⟨u,hu1,hu2⟩:=hrS.u
    have hrst:=hrS.st
    have hrwa:=hrS.wa
    have hrtol:=hrS.tol
    have hmem:r.td∈aT R:=fK.2 ⟨r,List.mem_of_getElem? hr,rfl⟩
    obtain ⟨q,q1,q2,q3⟩:=gy hmem
    rw [hRt] at q3
    have hb1:=hxb u ak
    have hb2:=hxb (s.many+1+q) ak
    obtain ⟨bo,co,sp,hv,rfl,hcap⟩:=hO3.Iv (ra _) ak (by rw [fq];omega)
    simp only [Value.slice.injEq] at hv
    obtain ⟨rfl,hv2,rfl⟩:=hv
    obtain ⟨Hx,hlex,r1,r2,r3,r4,hs2,back⟩:=Fu.ze (s:=⟨s,R,cs⟩) ⟨hO1,hO2,hO3,hO4⟩ (by show s.st.length≤_;omega) (by show s.wa.length≤_;omega) (by show R.length≤_;omega) (by show cs.length≤_;omega) hs
    clear hs
    have hs:=hs2
    clear hs2
    refine .ixX (enc:=F5.v) hs (g2.mono (hlez.trans hlex)) rfl rfl Tryz.runUnderlying35 vj hn df ?_;intro b150 o150 hc150
    refine .q hs (bI (vs:=n.v) rfl Tryz.isAgg151 vj hc150) (.o (.alloc hs Tryz.zeroValue151 rfl fun b15 w hs=>?_))
    refine .o (.aH (vs:=[_,_,_,_,_]) hs rfl rfl vj fun w hs=>?_)
    refine .nil (.ai (.z (zfa br) (.y hs (zld cS) (.z zm (.ixX (enc:=Rdg.c) hs r3 rfl rfl aO a8 hr df ?_)))));intro b155 o155 hc155
    refine .q hs (bI (vs:=r.c) rfl gu a8 hc155) (.o (.alloc hs fN rfl fun b16 w hs=>?_))
    refine .o (.aH (vs:=[_,_,_,_,_,_,_]) hs rfl rfl a8 fun w hs=>?_)
    refine .nil (.ai (.y hs (zls [_,_,_,_,_,_] aM aD) (.z (zfa fR) (.y hs (zld af) (.z (zfa fQ) (.y hs (zld af) (.o (.call rM rfl (dB (s:=s) hs r2 ak ak ak) ?_))))))));rintro _ w ⟨rfl,hs⟩
    rw [hu1]
    refine .zn zg (.seq (.draw mix rfl hs fun w hs=>?_))
    refine .ys 0 rfl hs [_,_,_,_,_,_] aM aD ?_;refine .z 3 rfl (zfa br) ?_;refine .y 4 rfl hs cS ?_;refine .z 6 rfl (zfa eo) ?_;refine .y 7 rfl hs af ?_;refine .z 8 rfl (zfa ek) ?_;refine .y 9 rfl hs af ?_;refine .z 10 rfl (zbd [_,_] gL) ?_
    refine .E 1 hs ?_
    refine .call Tryz.call94 rfl (fX (s:=s) hs r1 r2 ⟨ak,ak⟩) ?_;rintro _ w ⟨rfl,hs⟩
    refine .go (.zw 2 rfl cq (.E 5 hs ?_))
    refine .call Tryz.call96 rfl (ij (rs:=R) hs r3 ak) ?_;rintro v168 w ⟨Hw,hlew,hT,hs⟩
    refine .go (.E 11 hs ?_)
    refine .call Tryz.call95 rfl (jI (t:=r.td) hs hT (by rw [hRt];omega)) ?_;rintro _ w ⟨rfl,hs⟩
    rw [q1]
    refine .go (.zw 12 rfl cq ?_);refine .z 13 rfl zg ?_;refine .D hs ?_
    refine .seq (.draw mix rfl hs fun w hs=>?_)
    refine .zw 0 rfl (zia 4 gV aj) (.y 1 rfl hs af ?_);refine .z 2 rfl GH ?_;refine .z 3 rfl (zfa de) ?_;refine .y 4 rfl hs af ?_;refine .z 5 rfl kM ?_;refine .z 6 rfl cq ?_;refine .z 8 rfl (zfa de) ?_;refine .y 9 rfl hs af ?_
    refine .E 7 hs ?_
    refine .call gv rfl (cP hs ak) ?_;rintro _ w ⟨k183,g183,rfl,hs⟩
    refine .go (.zw 10 rfl ib ?_);refine .z 11 rfl zg ?_;refine .D hs ?_
    refine .draw mix rfl hs fun w hs=>?_
    refine .zw 0 rfl (zfa br) ?_;refine .y 1 rfl hs cS ?_;refine .z 2 rfl zm ?_;refine .z 3 rfl zm ?_;refine .z 4 rfl zm ?_
    have hs:=back hlew hs
    refine .ixX (enc:=fun x=>[I x]) (i:=5) hs rfl aE .none hX rfl rfl ae aj (bB (l:=x) (i:=u) ak) rfl ?_;intro b192 o192 hc192;replace hc192:=bK.one hc192
    refine .r (i:=6) hs rfl aE .none (aQ rfl af hc192) ?_
    refine .zw 7 rfl zm ?_;refine .z 8 rfl zm ?_
    refine .ixX (enc:=fun x=>[I x]) (i:=9) hs rfl aE .none hX rfl rfl ae aj (bB (l:=x) (i:=s.many+1+q) ak) (by push_cast;rfl) ?_;intro b196 o196 hc196;replace hc196:=bK.one hc196
    refine .r (i:=10) hs rfl aE .none (aQ rfl af hc196) ?_
    refine .zw 11 rfl ib ?_;refine .z 12 rfl zm ?_;refine .z 13 rfl cq ?_
    first|(refine .ixw 14 rfl hs aO a8 ?_;intro b201 o201 hc201)|refine .z 14 rfl (AA aO a8) ?_
    refine .zw 15 rfl (zfa ep) (.E 16 hs ?_)
    refine .store (c':=(rdc (R.set k {r with val:=gi x u - gi x (s.many+1+q)+((k183:Int) - r.tol)})).flatten++sp) hs rfl rfl aj ?_ fh (Nat.ble_eq_true_of_le (by rw [List.length_append,cK _ (ra _),fq];omega)) (yW hr sp _);intro w hs
    refine .go (.D hs (nB (nT (.region (.z zm (.z cq (.zn zg (nT ?_))))))))
    exact ⟨(k+1,R.set k {r with val:=gi x u - gi x (s.many+1+q)+((k183:Int) - r.tol)}),.dy rfl bV bn,⟨by dsimp only;omega,by dsimp only;rw [List.length_set];exact hRl,by dsimp only;rw [xz hr];exact hRt,fun y hy=>by
      rcases List.mem_or_eq_of_mem_set hy with h|h
      ·exact hRs y h
      ·subst h;exact ⟨hrst,hrwa,hrtol⟩,fun j hj y hy=>by
      dsimp only at hj hy
      by_cases e:j=k
      ·subst e
       rw [List.getElem?_set_self ak] at hy
       obtain rfl:=Option.some.inj hy
       have q1':jH (aT rs) r.td=q:=by rw [←hRt];exact q1
       unfold C3
       show gi x (1+r.st*s.wa.length+r.wa).toNat - gi x (s.many+1+jH (aT rs) r.td).toNat - r.tol≤_∧_≤gi x (1+r.st*s.wa.length+r.wa).toNat - gi x (s.many+1+jH (aT rs) r.td).toNat+r.tol
       rw [hu1,q1',show ((s.many:Int)+1+(q:Int)).toNat=s.many+1+q by omega,Int.toNat_natCast]
       dsimp only
       omega
      ·rw [List.getElem?_set_ne ak] at hy
       exact hRv j ak y hy,_,D5 hO3 _,hs.sb⟩,by dsimp only;omega⟩
   ·refine .exit (xT (xT (xB (nT (.ai (.y hs (zls [_,_,_,_,_,_,_,_] aI aB) (.z zm ?_)))))))
    obtain rfl:k=rs.length:=by omega
    obtain ⟨Hx,hlex,r1,r2,r3,r4,hs2,back⟩:=Fu.ze (s:=⟨s,R,cs⟩) ⟨hO1,hO2,hO3,hO4⟩ (by show s.st.length≤_;omega) (by show s.wa.length≤_;omega) (by show R.length≤_;omega) (by show cs.length≤_;omega) hs
    refine .o (.call Tryz.call97 rfl (p5 (s:=⟨s,R,cs⟩) (x:=x) hs2 r1 r2 r3 ⟨_,_,_,rfl⟩ (hX.mono hlex) (by rw [tw];show _=s.many+(aT R).length+1;rw [hRt];exact hxl) ⟨by show s.st.length≤_;omega,by show s.wa.length≤_;omega,by show R.length≤_;omega⟩) ?_);rintro _ w ⟨Hy,vr',vy,er,ey,hley,rfl,hOr,hOy,hs3⟩
    have hs:=back hley hs3
    clear hs2 hs3 back r1 r2 r3 r4
    have hkl:=tZ s R
    obtain ⟨arr,crr,rfl⟩:=hOr.lK (ra _) ak
    obtain ⟨ayy,lyy,cyy,rfl,-⟩:=hOy.shape
    refine .z zex (.z zex (.o (.aH (vs:=[_,_,_,_,_,_,_,_]) hs rfl rfl aB fun w hs=>?_)))
    refine .zn zg (.ret ?_)
    exact Fin.gj [] [] hs fun w hs=>⟨_,results2 Tryz.results31 (cC (vs:=[_,_,_,_,_,_,_,_]) hs rfl aI aB) rfl,Hz,⟨s,gY s R,cs⟩,_,_,_,_,_,_,e1,e2,er,e4,ey,hlez,rfl,
     ⟨hSt,hWa,by show (gY s R).length≤14;omega,hc5,wL hSp.ok hSt hWa ak hc5 (fun r h=>(ya h).2) hcok⟩,⟨hO1,hO2,hOr,hO4⟩,hOy,AY hfe hx0 hxl hRt hRs (fun r hr=>by
      obtain ⟨j,hj⟩:=List.getElem?_of_mem hr
      have:=(List.getElem?_eq_some_iff.1 hj).1
      exact hRv j ak r hj),hs.sb⟩
set_option maxHeartbeats 1000000 in
theorem uR{s:Spc}{vst vwa vx:Value}{x:List Int}(hs:St H w σ)(h1:RI H vst s.st)(h2:RI H vwa s.wa)(hx:RI H vx x)(hb1:s.st.length≤1000)(hb2:s.wa.length≤1000)(hxl:s.many+1≤x.length):
  Cl Tryz.prog 34 [.agg #[I s.id,I s.src,vst,vwa,I s.al,I s.up],vx] w fun u w'=>∃va us en ens,u= .agg #[va]∧bS 1 va us en∧nQ us (ee s x s.st.length) ens∧St H w' (en::(ens++σ)):=by
 obtain ⟨ast,cst,rfl⟩:=RI.shape h1
 obtain ⟨awa,cwa,rfl⟩:=RI.shape h2
 obtain ⟨ax,cx,rfl⟩:=RI.shape hx
 refine Cl.o Tryz.func34 Tryz.ntmps34 ag2 ?_
 refine .ai (.bx hs fun b2 w hs=>?_)
 refine .o (.alloc hs fk rfl fun b4 w hs=>?_)
 refine .nil (.ai (.o (.alloc hs fk rfl fun b5 w hs=>?_)))
 refine .nil (.seq (.ai (.zn zg (.block ?_))))
 refine .loop (fun i:Nat=>⟨40,[],[(6,I (i:Int)),(1,.slice ax x.length cx),(5,Pt b5),(4,Pt b4),(2,Pt b2)]⟩)
  (fun i w=>i≤s.st.length∧∃va us en ens,bS 1 va us en∧nQ us (ee s x i) ens∧St H w (.blk b5 [va]::en:: .blk b4 [.slice none 0 0]:: .blk b2 [I s.id,I s.src,.slice ast s.st.length cst,.slice awa s.wa.length cwa,I s.al,I s.up]::(ens++σ))) (fun i=>s.st.length - i) 0 bn
  ⟨Nat.zero_le _,_,[],.nul,[],.nil 1 none,.nil,hs.nul.sb⟩ ?_
 clear hs
 rintro i w ⟨hi,va,us,en,ens,hO,hR,hs⟩
 have hul:=hR.length
 rw [dN] at hul
 obtain ⟨aa,la,ca,rfl,hla⟩:=hO.shape
 refine .seq (.ai (.z zm (.z (zfa bC) (.y hs (zld an) (.z (cU ae) (.zn iJ (.bO rfl (fun hc13=>?_) (fun hc13=>?_))))))))
 ·refine .skip (nT (.seq (.block (.ai (.zn zg (.seq (.ai (.zn zg (.block ?_)))))))))
  refine .loop (fun p:Nat×Value=>⟨40,[],[(8,I (p.1:Int)),(7,p.2),(6,I (i:Int)),(1,.slice ax x.length cx),(5,Pt b5),(4,Pt b4),(2,Pt b2)]⟩)
   (fun p w=>p.1≤s.wa.length∧∃er,bS 1 p.2 (Is (kl s x i p.1)) er∧St H w (er:: .blk b5 [.slice aa la ca]::en:: .blk b4 [.slice none 0 0]:: .blk b2 [I s.id,I s.src,.slice ast s.st.length cst,.slice awa s.wa.length cwa,I s.al,I s.up]::(ens++σ))) (fun p=>s.wa.length - p.1) (0,.slice none 0 0) bn
   ⟨Nat.zero_le _,.nul,.nil 1 none,hs.nul⟩ ?_
  clear hs
  rintro ⟨k,vr⟩ w ⟨hk,er,hOr,hs⟩
  dsimp only at hk hOr hs ⊢
  have hrl:=fE s x i k
  refine .seq (.ai (.z zm (.z (zfa bg) (.y hs (zld an) (.z (cU ae) (.zn iJ (.bO rfl (fun hc20=>?_) (fun hc20=>?_))))))))
  ·refine .skip (nT (.seq (.block (.region (.z zm (.z zm (.y hs (zls [_,_,_,_,_,_] aM aD) (.z zm (.z zm ?_)))))))))
   have hub:=xl (s:=s) (i:=i) (k:=k) ak ak
   refine .o (.call rM rfl (dB (s:=s) hs h2 ak ⟨ak,ak⟩ ⟨ak,ak⟩) ?_);rintro _ w ⟨rfl,hs⟩
   rw [show 1+(i:Int)*(s.wa.length:Int)+(k:Int)=((s.u i k:Nat):Int) by unfold Spc.u;push_cast;rfl]
   refine .ixY hs hx rfl rfl ae aj (bB (l:=x) (i:=(s.u i k)) ak) df ?_;intro b29 o29 hc29
   refine .q hs (aQ rfl af hc29) (.o (.buildSlice (cells:=[_]) hs bX rfl rfl fun b31 w hs=>?_))
   refine .o (.append (ys:=Is [gi x (s.u i k)]) hs bP rfl rfl hOr (.own .here rfl rfl) (ia _) (fun l h=>by simp at h;omega) ?_);intro v32 en32 w hO2 hs
   rw [←List.map_append,←vG] at hO2
   refine .zn zg (nB (nT (.region (.z zm (.z cq (.zn zg (nT ?_)))))))
   exact ⟨(k+1,v32),.dy rfl bV bn,⟨by dsimp only;omega,_,hO2,hs.sb⟩,by dsimp only;omega⟩
  ·refine .exit (xT (xT (xB (nT (.region (.z (zfa dU) (.y hs (zld iF) (.z zm ?_))))))))
   obtain rfl:k=s.wa.length:=by omega
   obtain ⟨ar,cr,rfl⟩:=hOr.tC
   refine .o (.buildSlice (cells:=[.slice ar (kl s x i s.wa.length).length cr]) hs oO rfl rfl fun b36 w hs=>?_)
   refine .o (.append (ys:=[.slice ar (kl s x i s.wa.length).length cr]) hs kB rfl rfl hO (.own .here rfl rfl) (by simp [Value.oneCell']) (fun l h=>by omega) fun v37 en37 w hO3 hs=>?_)
   obtain ⟨a37,l37,c37,rfl,h37⟩:=hO3.shape
   refine .z (zfa dU) (.o (.store hs rfl rfl GU fun w hs=>?_))
   refine .nil (nB (nT (.region (.z zm (.z cq (.zn zg (nT (⟨i+1,.dy rfl bV bn,⟨ak,_,_,en37,ens++[er],hO3,by rw [vE];exact hR.snoc hOr,?_⟩,ak⟩))))))))
   replace hs:St H w (.blk b5 [.slice a37 l37 c37]::en37:: .blk b4 [.slice none 0 0]:: .blk b2 [I s.id,I s.src,.slice ast s.st.length cst,.slice awa s.wa.length cwa,I s.al,I s.up]::er::(ens++σ)):=hs.sb
   rw [List.append_assoc]
   exact hs.perm (.cons _ (.cons _ (.cons _ (.cons _ List.perm_middle.symm))))
 ·refine .exit (xT (xT (xB (nT (.ai (.y hs (zls [_] eR bH) (.o (.aH (vs:=[_]) hs rfl rfl bH fun w hs=>?_))))))))
  refine .nil (.ret ?_)
  obtain rfl:i=s.st.length:=by omega
  exact Fin.gj [] [] hs fun w hs=>⟨_,results1 Tryz.results34 (cC (vs:=[_]) hs rfl eR bH),_,us,en,ens,rfl,hO,hR,hs.sb⟩
set_option maxHeartbeats 4000000 in
theorem mP{s:Srv}{rows:List (List Int)}{vst vwa vr vc vh:Value}(hs:St H w σ)(h1:RI H vst s.sp.st)(h2:RI H vwa s.sp.wa)(h3:RRd H vr s.rs)(h4:RCm H vc s.cs)(hh:RT H vh rows):
  Cl Tryz.prog 65 [.agg #[I s.sp.id,I s.sp.src,vst,vwa,I s.sp.al,I s.sp.up,vr,vc],.agg #[vh]] w fun u w'=>∃H1 e,HLe H H1∧u=I e∧Bn s rows e∧St H1 w' σ:=by
 obtain ⟨ast,cst,rfl⟩:=RI.shape h1
 obtain ⟨awa,cwa,rfl⟩:=RI.shape h2
 obtain ⟨ar,cr,rfl⟩:=RRd.shape h3
 obtain ⟨ac,cc,rfl⟩:=RCm.shape h4
 obtain ⟨ah,ch,rfl⟩:=hh.shape
 refine Cl.o Tryz.func65 Tryz.ntmps65 ag2 ?_
 refine .ai (.bx hs fun b2 w hs=>?_)
 refine .bx hs fun b3 w hs=>?_
 refine .zn zg (.seq (.ai (.y hs (zls [_,_,_,_,_,_,_,_] aI aB) (.o (.call IM rfl (eU (s:=s) hs h1 h2 h3 h4) ?_)))));rintro _ w ⟨H1,e,hle1,rfl,hC,hs⟩
 refine .zn zg (.ai (.z zm (.zn gg (.dO rfl (fun hc16=>?_) (fun hc16=>?_)))))
 ·refine .ai (.z zm (.zn zg (.ret (rT (?_)))))
  exact Fin.bu Tryz.results65 rfl ⟨H1,_,hle1,rfl,.bad hC hc16,hs.out⟩
 ·refine .skip (nT (.seq (.ai (.z (zfa bj) (.y hs (zls [_,_,_,_,_,_] aM aD) (.y hs (zls [_] eR bH) ?_))))))
  have hok:dC s:=hC.db.1 (by simpa using hc16)
  have hsm:=dX hok.early.1
  have hrl:=hok.early.2.1
  refine .o (.call Tryz.call129 rfl (kr (s:=s.sp) hs (h1.mono hle1) (h2.mono hle1) (hh.mono hle1)) ?_);rintro _ w ⟨H2,b21,hle2,rfl,hb21,hs⟩
  have hle02:=hle1.trans hle2
  refine .zn gP (.cond rfl (fun hc22=>?_) (fun hc22=>?_))
  ·refine .ai (.zn zg (.ret (rT (?_))))
   exact Fin.bu Tryz.results65 rfl ⟨H2,_,hle02,rfl,.hull hok (fun h=>by rw [hb21.2 h] at hc22;cases hc22),hs.out⟩
  ·refine .skip (nT (.ai (.y hs (zls [_,_,_,_,_,_,_,_] aI aB) ?_)))
   have hhull:jE s.sp rows:=hb21.1 (by simpa using hc22)
   have hll:=hok.bY
   have hmm:=hok.many
   refine .o (.call IL rfl (eG (s:=s) hs (h1.mono hle02) (h2.mono hle02) (h3.mono hle02) (h4.mono hle02) hok.early) ?_);rintro _ w ⟨H3,hle3,⟨ul,rfl,hL⟩,hs⟩
   obtain ⟨al,cl,rfl⟩:=RL.shape hL
   have hle03:=hle02.trans hle3
   have hbd:=fun b hb=>Fg (b:=b) hhull hb
   have hlim:=fun l hl=>hok.sys.lim l hl
   refine .o (.alloc hs dG rfl fun b6 w hs=>?_)
   refine .o (.aH (vs:=[_,_]) hs rfl rfl aF fun w hs=>?_)
   refine .nil (.ai (.o (.buildSlice (cells:=[_]) hs bX rfl rfl fun b25 w hs=>?_)))
   refine .o (.alloc hs dz rfl fun b7 w hs=>?_)
   refine .o (.store hs rfl rfl au fun w hs=>?_)
   refine .nil (.seq (.ai (.z (zfa bj) (.y hs (zls [_,_,_,_,_,_] aM aD) (.o (.call uI rfl (ef (s:=s.sp) hs (h1.mono hle03) (h2.mono hle03) ⟨ak,ak⟩) ?_))))));rintro _ w ⟨H4,ba,hle4,rfl,hit,hs⟩
   have hle04:=hle03.trans hle4
   refine .nil (.block ?_)
   refine .rangeFunc (gf:=188) (cap:=[Pt ba]) (xs:=uM s.sp) (σb:=[.blk b7 [.slice (some ⟨b25,0,none⟩) 1 1],.blk b25 (Is [0]),.blk b6 [I s.sys.many,.slice al s.bY.length cl],.blk b3 [.slice ah rows.length ch]]) (σf:=σ) (hs.sb) trivial rfl hit uG (fun x hx=>by
     simp only [uM,List.mem_map] at hx
     obtain ⟨j,_,rfl⟩:=hx;rfl) rfl
    (I:=fun p H' σb=>∃vo en,σb=[.blk b7 [vo],en,.blk b6 [I s.sys.many,.slice al s.bY.length cl],.blk b3 [.slice ah rows.length ch]]∧bS 1 vo (Is (xl1 s (gt rows) (p+1))) en) (Ix:=fun _ _ _=>False)
    (fun j _ _ σ g1 g2=>g2) (fun _ _ _ _ _ h=>h) ⟨_,_,rfl,.full rfl⟩ ?_ ?_ (fun D c H' σb w _ h _=>h.elim)
   ·rintro ly p hp H5 σb2 σf2 w hle5 ⟨vo,en,rfl,hO⟩ hs ⟨rr,hrr⟩
    have hpm:p<s.sp.many:=by rw [di] at hp;exact hp
    have hin:p/s.sp.wa.length<s.sp.st.length:=Nat.div_lt_of_lt_mul (by rw [Nat.mul_comm];exact hpm)
    have hkm:=Nat.mod_lt p hsm.2.2.1
    have hval:hpt s.sp (gt rows) (p+1)=gi (gr rows (p/s.sp.wa.length)) (p%s.sp.wa.length):=rfl
    have hrow:=hhull.row _ hin
    have hrlen:=hhull.len
    have hr5:=hh.mono (hle04.trans hle5)
    rw [k8 hp]
    obtain ⟨ao,lo,co,rfl,hlo⟩:=hO.shape
    have hxl:=lG s (gt rows) (p+1)
    generalize p/s.sp.wa.length=i at*
    generalize p%s.sp.wa.length=k at*
    refine .region (.o (.alloc hs iC rfl fun b8 w hs=>?_))
    refine .o (.aH (vs:=[_,_,_]) hs rfl rfl kJ fun w hs=>?_)
    refine .nil (nT (⟨H5,[.blk b8 [I (i:Int),I (k:Int),I ((p+1:Nat):Int)],.blk b7 [.slice ao lo co],en,.blk b6 [I s.sys.many,.slice al s.bY.length cl],.blk b3 [.slice ah rows.length ch]],HLe.refl _,hs,?_⟩));rintro w σf4 - hs
    refine .block (.draw mix rfl hs fun w hs=>?_)
    refine .y 0 rfl hs an ?_;refine .z 1 rfl (zfa dU) ?_;refine .y 2 rfl hs iF ?_;refine .z 3 rfl (zfa cf) ?_;refine .y 4 rfl hs af ?_
    refine .ixT (i:=5) hs rfl aE .none hr5 rfl rfl az au (show i<_ by omega) df ?_;intro b35 o35 a35 c35 hc35 hR35
    refine .r (i:=6) hs rfl aE .none (aQ rfl an hc35) ?_
    refine .zw 7 rfl (zfa bZ) ?_;refine .y 8 rfl hs af ?_
    refine .ixX (enc:=fun x=>[I x]) (i:=9) hs rfl aE .none hR35 rfl rfl ae aj (bB (l:=(gr rows i)) (i:=k) ak) df ?_;intro b39 o39 hc39;replace hc39:=bK.one hc39
    refine .r (i:=10) hs rfl aE .none (aQ rfl af hc39) ?_
    refine .E 11 hs ?_
    refine .buildSlice (cells:=[_]) hs bX rfl rfl ?_;intro b41 w hs
    refine .go (.E 12 hs ?_)
    refine .append (ys:=Is [gi (gr rows i) k]) hs bP rfl rfl hO (.own (c:=Is [gi (gr rows i) k]) (by first|exact .here|exact .there .here) rfl rfl) (ia _) (fun l h=>by simp at h;omega) ?_;intro v42 en42 w hO2 hs
    rw [←List.map_append,←hval,←Dq] at hO2
    obtain ⟨a42,l42,c42,rfl,h42⟩:=hO2.shape
    refine .go (.E 13 hs ?_)
    refine .store hs rfl rfl au ?_;intro w hs
    refine .go (.D hs (nB ?_))
    exact ⟨H5,[.blk b7 [.slice a42 l42 c42],en42,.blk b6 [I s.sys.many,.slice al s.bY.length cl],.blk b3 [.slice ah rows.length ch]],HLe.refl _,(hs.sb:St H5 w (.blk b7 _::en42:: .blk b6 _:: .blk b3 _::σf4)),_,_,rfl,hO2⟩
   ·rintro D H5 σb2 w hle5 ⟨vo,en,rfl,hO⟩ hs
    rw [di] at hO
    replace hs:St H5 w (.obj D (.deferred (some [])):: .blk b7 [vo]::en:: .blk b6 [I s.sys.many,.slice al s.bY.length cl]:: .blk b3 [.slice ah rows.length ch]::σ):=hs
    obtain ⟨ao,lo,co,rfl,hlo⟩:=hO.shape
    have hxl:=lG s (gt rows) (s.sp.many+1)
    have hlo':lo=s.sp.many+1:=by simp [Is] at hlo;omega
    subst hlo'
    have hL5:=hL.mono (hle4.trans hle5)
    have hleF:=hle04.trans hle5
    refine nB (nT (.seq (.ai (.y hs (zld an) (.z (cU ae) (.zn zg (.block ?_)))))))
    refine .loop (fun j:Nat=>⟨81,marks [D],[(9,I ((s.sp.many+1+j:Nat):Int)),(7,Pt b7),(6,Pt b6)]⟩)
     (fun j w=>j≤s.bM.length∧∃ax cx en,bS 1 (.slice ax (s.sp.many+1+j) cx) (Is (xl1 s (gt rows) (s.sp.many+1)++xl2 s (gt rows) j)) en∧St H5 w (.obj D (.deferred (some [])):: .blk b7 [.slice ax (s.sp.many+1+j) cx]::en:: .blk b6 [I s.sys.many,.slice al s.bY.length cl]::σ)) (fun j=>s.bM.length - j) 0 bn
     ⟨Nat.zero_le _,_,_,_,by show bS 1 _ (Is (_++[])) _;rw [List.append_nil];exact hO,hs.sb⟩ ?_
    clear hs hO
    rintro j w ⟨hj,ax,cx,en,hO,hs⟩
    have hsys:s.sys.many=((s.sp.many+s.bM.length:Nat):Int):=rfl
    have hx2:=vq s (gt rows) j
    have hxall:(xl1 s (gt rows) (s.sp.many+1)++xl2 s (gt rows) j).length=s.sp.many+1+j:=by rw [List.length_append,hxl,hx2]
    refine .seq (.ai (.z zm (.z (zfa bG) (.y hs (zld af) (.zn uJ (.bO rfl (fun hc48=>?_) (fun hc48=>?_)))))))
    ·refine .skip (nT (.seq (.block (.ai (.zn zg (.seq (.ai (.z (zfa bF) (.y hs (zld cz) (.z (cU aJ) (.zn zm (.for (N:=s.bY.length) (J:=fun k fr w=>fr=[(10,I (uL (hpt s.sp (gt rows)) (s.sp.many+1+j:Nat) (s.bY.take k))),(52,.slice al s.bY.length cl),(9,I ((s.sp.many+1+j:Nat):Int)),(7,Pt b7),(6,Pt b6)]∧St H5 w (.obj D (.deferred (some [])):: .blk b7 [.slice ax (s.sp.many+1+j) cx]::en:: .blk b6 [I s.sys.many,.slice al s.bY.length cl]::σ)) ak ?_ ?_ ?_))))))))))))
     ·exact .mk ⟨rfl,hs⟩
     ·rintro k fr w hk ⟨rfl,hs⟩
      obtain ⟨l,hx⟩:=nth (l:=s.bY) hk
      have hlm:=List.mem_of_getElem? hx
      obtain ⟨⟨gA,gB⟩,hsd⟩:=nq hok.early hlm
      have hM:=(hlim l hlm).2.2.2.1
      obtain ⟨eB,hB⟩:∃b:Nat,l.B=b:=⟨_,(Int.toNat_of_nonneg gB).symm⟩
      have hB1:l.B.toNat=eB:=by rw [hB,Int.toNat_natCast]
      rw [hB1] at hsd
      have hbl:=zc (hpt s.sp (gt rows)) (s.sp.many+1+j:Nat) (s.bY.take k)
      refine .block (.ai (.ixX (enc:=Lim.c) hs hL5 rfl rfl aJ aU hx rfl ?_));intro b56 o56 hc56
      refine .q hs (bI (vs:=l.c) rfl eN aU hc56) (.o (.alloc hs dF rfl fun b12 w hs=>?_))
      refine .o (.aH (vs:=l.c) hs rfl rfl aU fun w hs=>?_)
      refine .nil (.ai (.z (zfa dI) (.y hs (zld af) (.z zm (.zn kd (.bO rfl (fun hc61=>?_) (fun hc61=>?_)))))))
      ·refine .draw mix rfl hs fun w hs=>?_
       have hbB:=hbd eB ak
       obtain ⟨bo,co',sp,hv,rfl,hcap⟩:=hO.blk (by rw [hxall];omega)
       simp only [Value.slice.injEq] at hv
       obtain ⟨rfl,-,rfl⟩:=hv
       have hgx:gi (xl1 s (gt rows) (s.sp.many+1)++xl2 s (gt rows) j) eB=hpt s.sp (gt rows) eB:=wc s _ _ ak
       refine .zw 0 rfl zm ?_;refine .y 1 rfl hs an ?_;refine .z 2 rfl (zfa dT) ?_;refine .y 3 rfl hs af ?_
       rw [hB]
       refine .zw 4 rfl (zix (j:=eB) ae aj) (.load (i:=5) hs rfl aE .none rfl af ?_ (hv:=fa ak sp))
       rw [hgx]
       refine .zw 6 rfl (zfa fg) ?_;refine .y 7 rfl hs af ?_;refine .z 8 rfl ib ?_;refine .z 9 rfl Bk ?_;refine .z 10 rfl zg ?_;refine .D hs ?_
       refine nB (nT ?_)
       exact .mk ⟨by rw [cZ hx,tX,if_pos ak,hB1],hs.sb⟩
      ·refine .skip (nB (nT ?_))
       exact .mk ⟨by rw [cZ hx,tX,if_neg ak],hs.sb⟩
     ·rintro fr w ⟨rfl,hs⟩
      rw [List.take_length]
      refine nT (.region (.y hs (zld an) (.z zm (.o (.buildSlice (cells:=[_]) hs bX rfl rfl fun b75 w hs=>?_)))))
      refine .o (.append (ys:=Is [uL (hpt s.sp (gt rows)) (s.sp.many+1+j:Nat) s.bY]) hs bP rfl rfl hO (.own .here rfl rfl) (ia _) (fun l h=>by simp only [Is,List.length_map,hxall] at h;omega) ?_);intro v76 en76 w hO2 hs
      rw [←List.map_append,List.append_assoc,←Dp] at hO2
      obtain ⟨a76,c76,rfl⟩:=hO2.tC
      have hx3:(xl1 s (gt rows) (s.sp.many+1)++xl2 s (gt rows) (j+1)).length=s.sp.many+1+(j+1):=by rw [List.length_append,hxl,vq]
      rw [hx3] at hO2 ⊢
      refine .o (.store hs rfl rfl au fun w hs=>?_)
      refine .nil (nB (nT (.region (.z zm (.z cq (.zn zg (nT ?_)))))))
      exact ⟨j+1,.dy rfl (by simp;omega) bn,⟨ak,_,_,_,hO2,hs.sb⟩,ak⟩
    ·refine .exit (xT (xT (xB (nT (.seq (.ai (.y hs (zls [_,_] aZ aF) (.y hs (zld an) ?_))))))))
     obtain rfl:j=s.bM.length:=by omega
     obtain ⟨H6,hle6,hX,hs⟩:=bS.dJ hO (by rw [hxall];omega) hs fh
     refine .o (.call Tryz.call134 rfl (nK (s:=s.sys) hs ⟨_,rfl,hL5.mono hle6⟩ hX) ?_);rintro _ w ⟨e79,rfl,hP,hs⟩
     have hn:=tw s
     have hkeep:C7 s.sys (xl1 s (gt rows) (s.sp.many+1)++xl2 s (gt rows) s.bM.length)↔∃f,Kp s (gt rows) f:=by
      rw [←Dm hok]
      refine ⟨fun h=>h.xm,fun h=>⟨by rw [hxall,hn];omega,by rw [wc s _ _ ak];rfl,fun b hb=>?_,h⟩⟩
      rw [hn] at hb
      by_cases e:b<s.sp.many+1
      ·rw [wc s _ _ e]
       have:=hbd b ak
       omega
      ·rw [show b=s.sp.many+1+(b - (s.sp.many+1)) by omega,zF s _ ak]
       have g1:=zc (hpt s.sp (gt rows)) (s.sp.many+1+(b - (s.sp.many+1)):Nat) s.bY
       have g2:=Ei hok hhull (b - (s.sp.many+1))
       omega
     refine .zn gg (.dO rfl (fun hc80=>?_) (fun hc80=>?_))
     ·refine .ai (.zn zg (.ret (rT ((Fin.gj [D] [] hs fun w hs=>⟨_,results1 Tryz.results65 rfl,H6,_,hleF.trans hle6,rfl,.no hok hhull (fun h=>hc80 ?_),hs.out⟩)))))
      cases hP with
      |bad h=>exact (h (s.sys.db.2 hok.sys)).elim
      |off _ h1=>exact (h1 (hkeep.2 h)).elim
      |ok=>rfl
     ·refine .skip (nT (.ai (.zn zg (.ret (Fin.gj [D] [] hs fun w hs=>⟨_,results1 Tryz.results65 rfl,H6,_,hleF.trans hle6,rfl,.ok hok hhull (hkeep.1 ?_),hs.out⟩)))))
      cases hP with
      |bad h=>exact (h (s.sys.db.2 hok.sys)).elim
      |off _ h1=>omega
      |ok _ h1=>exact h1
end Go.Proofs.YteajddicacjkhaaGreat
namespace Go.Proofs.YteajddicacjkhaaGreat
open Go.MW
theorem ER{v:Srv}(h:dC v){q:Wht}(hq:fB v.sp q)(high:Bool):fy v.sys (yJ (v.w q) high)=0:=by
 unfold yJ;split
 ·exact h.ask hq
 ·rw [rG];exact h.ask hq
theorem jo{w:World}{H:bw}{σ:List Ent}{x:Int}(hs:St H w σ)(hx: -3456000000000≤x∧x≤3456000000000):
  Cl Tryz.prog 181 [I x] w fun v w'=>v=I (-x)∧St H w' σ:=by
 refine Cl.o Tryz.func181 Tryz.ntmps181 ag1 ?_
 refine .ai (.zn zg (.ai (.z zm (.z Di (.zn zg (.ret (Fin.bu Tryz.results181 rfl ?_)))))))
 exact ⟨rfl,hs.out⟩
theorem jn{w:World}{H:bw}{σ:List Ent}{x:Int}(hs:St H w σ):
  Cl Tryz.prog 182 [I x] w fun v w'=>v=I x∧St H w' σ:=by
 refine Cl.o Tryz.func182 Tryz.ntmps182 ag1 ?_
 refine .ai (.zn zg (.ai (.z zm (.zn zg (.ret (Fin.bu Tryz.results182 rfl ?_))))))
 exact ⟨rfl,hs.out⟩
theorem CQ{high:Bool}{L:List Int}{x:Int}{k:Nat}(hx:L[k]? =some x):yJ (L.take k) high++[if high then x else -x]=yJ (L.take (k+1)) high:=by
 rw [cZ hx]
 unfold yJ uV
 cases high<;>simp
theorem ui{high:Bool}{L:List Int}:(yJ L high).length=L.length:=by unfold yJ uV;split<;>simp
theorem ka{w:World}{H:bw}{σ:List Ent}{m d:Int}{ul vw:Value}{L:List Int}{high:Bool}(hs:St H w σ)(hR:RI H vw L)(hb:∀i,-3456000000000≤gi L i∧gi L i≤3456000000000)(hl:L.length≤1000):
  Cl Tryz.prog 127 [.agg #[I m,ul,vw,I d],.bool high] w fun v w'=>∃H1,HLe H H1∧RI H1 v (yJ L high)∧St H1 w' σ:=by
 obtain ⟨aw,cw,rfl⟩:=RI.shape hR
 refine Cl.o Tryz.func127 Tryz.ntmps127 ag2 ?_
 refine .ai (.bx hs fun b2 w hs=>?_)
 refine .zn zg (.ai (.zn zg (.cut (fun fs w=>∃f,lZ fs ⟨25,[],[(5,.func (.func f) #[] #[]),(2,Pt b2)]⟩∧(∀args w,(callFunc f args).run Tryz.prog w= .ok (.enter f args) w)∧(∀{σ:List Ent} {w:World} {x:Int},St H w σ→-3456000000000≤x∧x≤3456000000000→Cl Tryz.prog f [I x] w fun v w'=>v=I (if high then x else -x)∧St H w' σ)∧St H w (.blk b2 [I m,ul,.slice aw L.length cw,I d]::σ)) ?_ ?_)))
 ·refine .ai (.zn zm (.cond rfl (fun hc9=>?_) (fun hc9=>?_)))
  ·refine .region (.zn zg (nT ?_))
   subst hc9
   exact ⟨182,bn,Tryz.call182,fun hs hx=>(jn hs).mono fun v w' h=>h,hs⟩
  ·refine .skip (nT ?_)
   obtain rfl:high=false:=by simpa using hc9
   exact ⟨181,bn,Tryz.call181,fun hs hx=>(jo hs hx).mono fun v w' h=>h,hs⟩
 ·clear hs
  rintro fs w ⟨f,hfs,hcf,hsp,hs⟩
  refine WE.sub ?_ hfs
  clear hfs
  refine .ai (.zn zg (.seq (.ai (.z (zfa jv) (.y hs (zld an) (.z (cU ae) (.zn zm (.for (N:=L.length) (J:=fun k fr w=>∃vo en,fr=[(11,.slice aw L.length cw),(6,vo),(5,.func (.func f) #[] #[]),(2,Pt b2)]∧bS 1 vo (Is (yJ (L.take k) high)) en∧St H w (en:: .blk b2 [I m,ul,.slice aw L.length cw,I d]::σ)) ak ?_ ?_ ?_))))))))
  ·exact .mk ⟨_,_,rfl,by have:yJ (L.take 0) high=[]:=(by unfold yJ uV;cases high<;>simp);rw [this];exact .nil 1 none,hs.nul⟩
  ·rintro k fr w hk ⟨vo,en,rfl,hO,hs⟩
   obtain ⟨x,hx⟩:=nth hk
   have hxb:=hb k
   rw [show gi L k=x by simp [gi,List.getD,hx]] at hxb
   refine .block (.ai (.ixX (enc:=fun x=>[I x]) hs hR rfl rfl ae aj hx rfl ?_));intro b15 o15 hc15;replace hc15:=bK.one hc15
   refine .q hs (aQ rfl af hc15) (.zn zg (.region (.z zm (.z zm (.z zm (.o (.nI (first:=[]) (cap:=[]) rfl rfl hcf (hsp hs hxb) ?_)))))));rintro _ w ⟨rfl,hs⟩
   refine .o (.buildSlice (cells:=[_]) hs bX rfl rfl fun b21 w hs=>?_)
   refine .o (.append (ys:=Is [if high then x else -x]) hs bP rfl rfl hO (.own .here rfl rfl) (ia _) (fun l h=>by simp [Is,ui] at h;omega) ?_);intro v22 en22 w hO2 hs
   rw [←List.map_append,CQ hx] at hO2
   refine .zn zg (nB (nT ?_))
   exact .mk ⟨_,_,rfl,hO2,hs.sb⟩
  ·rintro fr w ⟨vo,en,rfl,hO,hs⟩
   rw [List.take_length] at hO
   refine nT (.ai (.z zm (.zn zg (.ret (Fin.bu Tryz.results127 rfl ?_)))))
   obtain ⟨H1,hle1,hR1,hs⟩:=bS.dJ hO (by rw [ui];omega) hs .here
   exact ⟨H1,hle1,hR1,hs.out⟩
theorem BW{v:Srv}{q:Wht}{lo hi:Int}(g:Ar v q lo hi 0):∃a b,lo=a/pD q∧hi=b/pD q∧dC v∧fB v.sp q∧fH v.sys (v.w q) a b 0:=by
 generalize hz:(0:Int)=z at g
 cases g with
 |bad g ge=>exact (ge hz.symm).elim
 |what=>omega
 |fls=>omega
 |ok h1 h2 h3 h4=>exact ⟨_,_,rfl,rfl,h1,h2,h4⟩
end Go.Proofs.YteajddicacjkhaaGreat
namespace Go.Proofs.YteajddicacjkhaaGreat
open Go.MW
variable{H:bw}{w:World}{σ:List Ent}
set_option maxHeartbeats 2000000 in
theorem rh{s:Spc}{vst vwa vx:Value}{x:List Int}(hs:St H w σ)(h1:RI H vst s.st)(h2:RI H vwa s.wa)(hx:RI H vx x)(hsp:eZ s)(hxl:s.many+1≤x.length):
  Cl Tryz.prog 128 [.agg #[I s.id,I s.src,vst,vwa,I s.al,I s.up],vx] w fun u w'=>∃H1 va,HLe H H1∧u= .agg #[va]∧RT H1 va (ee s x s.st.length)∧St H1 w' σ:=by
 have hsm:=dX hsp
 have hw:=hsm.2.2.1
 obtain ⟨ast,cst,rfl⟩:=RI.shape h1
 obtain ⟨awa,cwa,rfl⟩:=RI.shape h2
 obtain ⟨ax,cx,rfl⟩:=RI.shape hx
 refine Cl.o Tryz.func128 Tryz.ntmps128 ag2 ?_
 refine .ai (.bx hs fun b2 w hs=>?_)
 refine .bx hs fun b3 w hs=>?_
 refine .o (.alloc hs fk rfl fun b4 w hs=>?_)
 refine .nil (.ai (.o (.alloc hs fk rfl fun b5 w hs=>?_)))
 refine .nil (.seq (.ai (.y hs (zls [_,_,_,_,_,_] aM aD) (.o (.call uI rfl (ef (s:=s) hs h1 h2 ⟨ak,ak⟩) ?_)))));rintro _ w ⟨H1,ba,hle1,rfl,hit,hs⟩
 replace hx:=hx.mono hle1
 refine .nil (.block ?_)
 refine .rangeFunc (gf:=188) (cap:=[Pt ba]) (xs:=uM s) (σb:=[.blk b5 [.slice none 0 0],.nul,.blk b4 [.slice none 0 0],.blk b3 [.slice ax x.length cx]]) (σf:=σ) (hs.nul.sb) trivial rfl hit uG (fun x hx=>by
   simp only [uM,List.mem_map] at hx
   obtain ⟨j,_,rfl⟩:=hx;rfl) rfl
  (I:=fun p H' σb=>∃va us en ens,σb= .blk b5 [va]::en:: .blk b4 [.slice none 0 0]:: .blk b3 [.slice ax x.length cx]::ens∧bS 1 va us en∧nQ us (xC s x p) ens) (Ix:=fun _ _ _=>False)
  (fun j _ _ σ g1 g2=>g2) (fun _ _ _ _ _ h=>h) ⟨_,[],_,[],rfl,.nil 1 none,by rw [AH];exact .nil⟩ ?_ ?_ (fun D c H' σb w _ h _=>h.elim)
 ·rintro ly p hp H5 σb2 σf2 w hle5 ⟨va,us,en,ens,rfl,hO,hR⟩ hs ⟨rr,hrr⟩
  have hpm:p<s.many:=by rw [di] at hp;exact hp
  have hin:p/s.wa.length<s.st.length:=Nat.div_lt_of_lt_mul (by rw [Nat.mul_comm];exact hpm)
  have hkm:=Nat.mod_lt p hw
  have hnext:=AI s x p hw
  have hrow:=BN s x p
  have hRW:xC s x p=ee s x (p/s.wa.length)++if p%s.wa.length=0 then [] else [kl s x (p/s.wa.length) (p%s.wa.length)]:=rfl
  have hu:s.u (p/s.wa.length) (p%s.wa.length)=p+1:=by
   unfold Spc.u
   have:=Nat.div_add_mod p s.wa.length
   rw [Nat.mul_comm] at this;omega
  rw [hRW] at hR
  have hul:us.length≤1001:=by
   have:=hR.length
   rw [List.length_append,dN] at this
   split at this<;>simp at this<;>omega
  rw [k8 hp]
  obtain ⟨aa,la,ca,rfl,hla⟩:=hO.shape
  have hx5:=hx.mono hle5
  generalize p/s.wa.length=i at*
  generalize p%s.wa.length=k at*
  refine .region (.o (.alloc hs iC rfl fun b6 w hs=>?_))
  refine .o (.aH (vs:=[_,_,_]) hs rfl rfl kJ fun w hs=>?_)
  refine .nil (nT (⟨H5,.blk b6 [I (i:Int),I (k:Int),I ((p+1:Nat):Int)]:: .blk b5 [.slice aa la ca]::en:: .blk b4 [.slice none 0 0]:: .blk b3 [.slice ax x.length cx]::ens,HLe.refl _,hs,?_⟩));rintro w σf4 - hs
  replace hs:St H5 w (.blk b6 [I (i:Int),I (k:Int),I ((p+1:Nat):Int)]:: .blk b5 [.slice aa la ca]::en:: .blk b4 [.slice none 0 0]:: .blk b3 [.slice ax x.length cx]::(ens++σf4)):=hs
  refine .block (.cut (fun fs w=>∃va us en ens,lZ fs ⟨37,[],[(6,Pt b6),(5,Pt b5),(4,Pt b4),(3,Pt b3)]⟩∧bS 1 va us en∧nQ us (ee s x i++[kl s x i k]) ens∧St H5 w (.blk b6 [I (i:Int),I (k:Int),I ((p+1:Nat):Int)]:: .blk b5 [va]::en:: .blk b4 [.slice none 0 0]:: .blk b3 [.slice ax x.length cx]::(ens++σf4))) ?_ ?_)
  ·refine .ai (.z (zfa bZ) (.y hs (zld af) (.zn kd (.bO rfl (fun hc12=>?_) (fun hc12=>?_)))))
   ·refine .region (.z (zfa dU) (.y hs (zld iF) (.o (.buildSlice (cells:=[.slice none 0 0]) hs oO rfl rfl fun b15 w hs=>?_))))
    refine .o (.append (ys:=[.slice none 0 0]) hs kB rfl rfl hO (.own .here rfl rfl) (by simp [Value.oneCell']) (fun l h=>by omega) fun v16 en16 w hO3 hs=>?_)
    obtain ⟨a16,l16,c16,rfl,h16⟩:=hO3.shape
    refine .z (zfa dU) (.o (.store hs rfl rfl GU fun w hs=>?_))
    refine .nil (nT ?_)
    obtain rfl:k=0:=by omega
    rw [if_pos rfl,List.append_nil] at hR
    refine ⟨_,_,en16,ens++[.nul],bn,hO3,hR.snoc (show bS 1 (.slice none 0 0) (Is (kl s x i 0)) .nul from .nil 1 none),?_⟩
    replace hs:St H5 w (.blk b6 [I (i:Int),I ((0:Nat):Int),I ((p+1:Nat):Int)]:: .blk b5 [.slice a16 l16 c16]::en16:: .blk b4 [.slice none 0 0]:: .blk b3 [.slice ax x.length cx]::(ens++σf4)):=hs.sb
    replace hs:=hs.nul
    rw [List.append_assoc]
    exact hs.perm (List.perm_middle (l₁:= .blk b6 _:: .blk b5 _::en16:: .blk b4 _:: .blk b3 _::ens) (l₂:=σf4)).symm
   ·refine .skip (nT ?_)
    rw [if_neg ak] at hR
    exact ⟨_,us,en,ens,bn,hO,hR,hs⟩
  ·clear hs hO hR
   rintro fs w ⟨va,us,en,ens,hfs,hO,hR,hs⟩
   refine WE.sub ?_ hfs
   clear hfs
   have hul:=hR.length
   rw [List.length_append,dN,List.length_singleton] at hul
   obtain ⟨u,er,A,B,hu',hOr,rfl,hupd⟩:=hR.rowS hrow
   rcases hO with ⟨_,_,h0,_⟩|⟨bo,lo,cap,sp,rfl,rfl,h5,h6,h7⟩
   ·exfalso;rw [h0] at hul;simp at hul
   obtain rfl:lo=i+1:=by omega
   obtain ⟨ar,cr,rfl⟩:=hOr.tC
   rw [fE] at hOr hu'
   rw [show (A++er::B)++σf4=A++er::(B++σf4) by simp] at hs
   replace hs:St H5 w (er:: .blk b6 [I (i:Int),I (k:Int),I ((p+1:Nat):Int)]:: .blk b5 [.slice (some ⟨bo,0,none⟩) (i+1) cap]:: .blk bo (us++sp):: .blk b4 [.slice none 0 0]:: .blk b3 [.slice ax x.length cx]::(A++(B++σf4))):=hs.perm (List.perm_middle (l₁:= .blk b6 _:: .blk b5 _:: .blk bo _:: .blk b4 _:: .blk b3 _::A) (l₂:=B++σf4))
   have hu2:(us++sp)[i]? =some (.slice ar k cr):=by rw [List.getElem?_append_left ak];exact hu'
   refine .draw mix rfl hs fun w hs=>?_
   refine .zw 0 rfl (zfa dU) ?_;refine .y 1 rfl hs iF ?_;refine .z 2 rfl (zfa cf) ?_;refine .y 3 rfl hs af ?_;refine .z 4 rfl (zfa dU) ?_;refine .y 5 rfl hs iF ?_;refine .z 6 rfl (zfa cf) ?_;refine .y 7 rfl hs af ?_;refine .z 8 rfl (zix (j:=i) az au) ?_
   refine .load (i:=9) hs rfl aE .none rfl an ?_ (hv:=hu2)
   refine .y 10 rfl hs an ?_;refine .z 11 rfl (zfa dx) ?_;refine .y 12 rfl hs af ?_
   refine .ixX (enc:=fun x=>[I x]) (i:=13) hs rfl aE .none hx5 rfl rfl ae aj (bB (l:=x) (i:=(p+1)) ak) df ?_;intro b31 o31 hc31;replace hc31:=bK.one hc31
   refine .r (i:=14) hs rfl aE .none (aQ rfl af hc31) ?_
   refine .E 15 hs ?_
   refine .buildSlice (cells:=[_]) hs bX rfl rfl ?_;intro b33 w hs
   refine .go (.E 16 hs ?_)
   refine .append (ys:=Is [gi x (p+1)]) hs bP rfl rfl hOr (.own .here rfl rfl) (ia _) (fun l h=>by simp [fE] at h;omega) ?_;intro v34 en34 w hO2 hs
   rw [←List.map_append,←hu,←vG] at hO2
   obtain ⟨a34,c34,rfl⟩:=hO2.tC
   rw [fE] at hO2 ⊢
   have hR':=hupd _ _ _ hO2
   rw [hnext] at hR'
   refine .go (.zw 17 rfl (zix (j:=i) az au) (.E 18 hs ?_))
   refine .store (c':=us.set i (.slice a34 (k+1) c34)++sp) hs rfl rfl au ?_ fh (Nat.ble_eq_true_of_le (by rw [List.length_append];omega)) (by rw [List.set_append_left _ _ ak]);intro w hs
   refine .go (.D hs (nB (⟨H5,.blk b5 [.slice (some ⟨bo,0,none⟩) (i+1) cap]:: .blk bo (us.set i (.slice a34 (k+1) c34)++sp):: .blk b4 [.slice none 0 0]:: .blk b3 [.slice ax x.length cx]::(A++en34::B),HLe.refl _,?_,_,_,_,_,rfl,.inr ⟨bo,i+1,cap,sp,rfl,rfl,by rw [List.length_set];omega,by rw [List.length_append,List.length_set,←List.length_append];exact h6,h7⟩,hR'⟩)))
   replace hs:St H5 w (en34:: .blk b5 [.slice (some ⟨bo,0,none⟩) (i+1) cap]:: .blk bo (us.set i (.slice a34 (k+1) c34)++sp):: .blk b4 [.slice none 0 0]:: .blk b3 [.slice ax x.length cx]::(A++(B++σf4))):=hs.sb
   replace hs:=hs.perm (List.perm_middle (l₁:= .blk b5 _:: .blk bo _:: .blk b4 _:: .blk b3 _::A) (l₂:=B++σf4)).symm
   rw [show (.blk b5 [.slice (some ⟨bo,0,none⟩) (i+1) cap]:: .blk bo (us.set i (.slice a34 (k+1) c34)++sp):: .blk b4 [.slice none 0 0]:: .blk b3 [.slice ax x.length cx]::(A++en34::B))++σf4=(.blk b5 [.slice (some ⟨bo,0,none⟩) (i+1) cap]:: .blk bo (us.set i (.slice a34 (k+1) c34)++sp):: .blk b4 [.slice none 0 0]:: .blk b3 [.slice ax x.length cx]::A)++en34::(B++σf4) by simp]
   exact hs
 ·rintro D H5 σb2 w hle5 ⟨va,us,en,ens,rfl,hO,hR⟩ hs
  rw [di,AJ s x hw] at hR
  replace hs:St H5 w (.obj D (.deferred (some [])):: .blk b5 [va]::en:: .blk b4 [.slice none 0 0]:: .blk b3 [.slice ax x.length cx]::(ens++σ)):=hs
  have hul:=hR.length
  rw [dN] at hul
  obtain ⟨aa,la,ca,rfl,hla⟩:=hO.shape
  refine nB (nT (.ai (.y hs (zls [_] eR bH) (.o (.aH (vs:=[_]) hs rfl rfl bH fun w hs=>?_)))))
  refine .nil (.ret ?_)
  replace hs:St H5 w (ens++(.obj D (.deferred (some [])):: .blk b5 [.slice aa la ca]::en:: .blk b4 [.slice aa la ca]:: .blk b3 [.slice ax x.length cx]::σ)):=(show St H5 w ([.obj D (.deferred (some [])),.blk b5 [.slice aa la ca],en,.blk b4 [.slice aa la ca],.blk b3 [.slice ax x.length cx]]++(ens++σ)) from hs).perm (List.perm_append_comm_assoc _ ens σ)
  obtain ⟨H6,hle6,hRL,hs⟩:=hR.bU (fun r hr=>by
   obtain ⟨j,hj⟩:=List.getElem?_of_mem hr
   have hjl:=(List.getElem?_eq_some_iff.1 hj).1
   rw [dN] at hjl
   rw [tE hjl] at hj
   obtain rfl:=Option.some.inj hj
   rw [fE];omega) hs
  obtain ⟨H7,hle7,hRT,hs⟩:=hRL.bU hO ak hs (.there (.there .here))
  exact Fin.gj [D] [] hs fun w hs=>⟨_,results1 Tryz.results128 (cC (vs:=[_]) hs rfl eR bH),H7,_,hle1.trans (hle5.trans (hle6.trans hle7)),rfl,hRT,hs.out⟩
set_option maxHeartbeats 1000000 in
theorem iz{s:Srv}{q:Wht}{vst vwa vr vc:Value}{high:Bool}(hs:St H w σ)(h1:RI H vst s.sp.st)(h2:RI H vwa s.sp.wa)(h3:RRd H vr s.rs)(h4:RCm H vc s.cs):
  Cl Tryz.prog 63 [.agg #[I s.sp.id,I s.sp.src,vst,vwa,I s.sp.al,I s.sp.up,vr,vc],.agg #[I q.kind,I q.st,I q.wa],.bool high] w fun u w'=>∃H1 vh rows e,HLe H H1∧u= .tuple #[.agg #[vh],I e]∧RT H1 vh rows∧vf s q e∧(e≠0→rows=[])∧(e=0→∃x,yE s.sys (yJ (s.w q) high) x∧rows=ee s.sp x s.sp.st.length)∧St H1 w' σ:=by
 refine Cl.o Tryz.func63 Tryz.ntmps63 ag3 ?_
 refine .ai (.bx hs fun b3 w hs=>?_)
 refine .bx hs fun b4 w hs=>?_
 refine .o (.alloc hs fk rfl fun b6 w hs=>?_)
 refine .zn zg (.ai (.y hs (zls [_,_,_,_,_,_,_,_] aI aB) (.y hs (zls [_,_,_] qR gQ) (.o (.call Tryz.call125 rfl (kS (s:=s) (q:=q) hs h1 h2 h3 h4) ?_)))));rintro _ w ⟨H1,m,ul,vw,d,e,hle1,rfl,⟨al,ll,cl,rfl⟩,⟨aw,lw,cw,rfl⟩,hA,hA0,hs⟩
 refine .z zm (.z zex (.z zex (.o (.alloc hs oC rfl fun b8 w hs=>?_))))
 refine .o (.aH (vs:=[_,_,_,_]) hs rfl rfl dv fun w hs=>?_)
 refine .zn zg (.seq (.ai (.z zm (.zn gg (.dO rfl (fun hc18=>?_) (fun hc18=>?_))))))
 ·refine .ai (.z (zbd [_] nM) (.z zm (.o (.aH (vs:=[_]) hs rfl rfl bH fun w hs=>?_))))
  refine .zn zg (.ret (rT (?_)))
  exact Fin.gj [] [] hs fun w hs=>⟨_,results2 Tryz.results63 (cC (vs:=[_]) hs rfl eR bH) rfl,H1,_,[],_,hle1,rfl,RT.nil _,hA,fun _=>rfl,fun h=>(hc18 h).elim,hs.out⟩
 ·refine .skip (nT (.seq (.draw mix rfl hs fun w hs=>?_)))
  refine .zw 0 rfl (zfa jw) ?_;refine .ys 1 rfl hs [_,_] aZ aF ?_;refine .ys 2 rfl hs [_,_,_,_] qQ dv ?_;refine .z 3 rfl zm ?_
  refine .E 4 hs ?_
  obtain rfl:e=0:=by simpa using hc18
  obtain ⟨rfl,hL,hR,rfl⟩:=hA0 rfl
  obtain ⟨hok,hq,hsd⟩:=hA.zero
  have hn65:=hok.sys.n65
  have hwl:=rO s q
  refine .call Tryz.call127 rfl (ka (high:=high) hs hR (DB hok hq) ak) ?_;rintro _ w ⟨H2,hle2,hRt,hs⟩
  refine .go (.E 5 hs ?_)
  refine .call Tryz.call126 rfl (uo (s:=s.sys) hs ⟨_,rfl,hL.mono hle2⟩ hRt) ?_;rintro _ w ⟨H3,vx,x,f,hle3,rfl,hF,hX,-,hB,hs⟩
  obtain ⟨ax,cx,rfl⟩:=RI.shape hX
  obtain rfl:=zx (ER hok hq high) hsd (fun b=>s.both) hF
  have hBe:=hB rfl
  have hle03:=hle1.trans (hle2.trans hle3)
  refine .go (.zw 6 rfl zm ?_);refine .z 7 rfl zex ?_;refine .z 8 rfl zex ?_;refine .z 9 rfl zg ?_;refine .z 10 rfl zg ?_;refine .D hs ?_
  refine .seq (.ai (.z zm (.zn gg (.dO rfl (fun hc31=>?_) (fun hc31=>?_)))))
  ·refine .ai (.z (zbd [_] nM) (.z zm (.o (.aH (vs:=[_]) hs rfl rfl bH fun w hs=>?_))))
   refine .zn zg (.ret (rT (?_)))
   exact (hc31 rfl).elim
  ·refine .skip (nT (.ai (.z (zfa bj) (.y hs (zls [_,_,_,_,_,_] aM aD) (.z zm (.o (.call Tryz.call128 rfl (rh (s:=s.sp) hs (h1.mono hle03) (h2.mono hle03) hX hok.early.1 (by rw [hBe.len,tw];omega)) ?_)))))));rintro _ w ⟨H4,va,hle4,rfl,hT,hs⟩
   obtain ⟨aa,ca,rfl⟩:=hT.shape
   refine .o (.aH (vs:=[_]) hs rfl rfl bH fun w hs=>?_)
   refine .zn zg (.ret ?_)
   exact Fin.gj [] [] hs fun w hs=>⟨_,results2 Tryz.results63 (cC (vs:=[_]) hs rfl eR bH) rfl,H4,_,_,_,hle03.trans hle4,rfl,hT,hA,fun h=>(h rfl).elim,fun _=>⟨x,hBe,rfl⟩,hs.out⟩
end Go.Proofs.YteajddicacjkhaaGreat
namespace Go.Proofs.YteajddicacjkhaaGreat
open Go.MW
theorem Gs{s:Srv}{q:Wht}{high:Bool}{lo hi:Int}{x:List Int}(g:Ar s q lo hi 0)(hB:yE s.sys (yJ (s.w q) high) x):
  oA s.sp (ee s.sp x s.sp.st.length) q (if high=true then hi else lo) 0∧Bn s (ee s.sp x s.sp.st.length) 0:=by
 obtain ⟨a,b,rfl,rfl,hok,hq,hR⟩:=BW g
 obtain ⟨hH,hK,hsum⟩:=yw hok hB.zero hB.xm q
 refine ⟨?_,.ok hok hH hK⟩
 have h:=oA.ok hok.early.1 hH hq
 rw [hsum] at h
 unfold yJ at hB
 cases high with
 |true=>rw [if_pos rfl] at hB ⊢;rw [Gr hR hB] at h;exact h
 |false=>rw [if_neg bV] at hB ⊢;rw [Gq hR hB] at h;exact h
end Go.Proofs.YteajddicacjkhaaGreat
namespace Go.Proofs.YteajddicacjkhaaGreat
open Go.MW
variable{H:bw}{w:World}{σ:List Ent}
theorem uS{vs v5 v4 vp:Value}{sl pk:List Int}{fs5:List F5}{fs4:List F4}{z1 z2 z3:Int}(hs:St H w σ)(g1:RI H vs sl)(g2:RF5 H v5 fs5)(g3:RF4 H v4 fs4)(g4:RI H vp pk):
  Cl Tryz.prog 31 [.agg #[vs,v5,v4,vp,I z1,I z2,I z3]] w fun u w'=>∃H1 s y vst vwa vr vc vy,HLe H H1∧u= .tuple #[.agg #[I s.sp.id,I s.sp.src,vst,vwa,I s.sp.al,I s.sp.up,vr,vc],vy]∧GA s∧j7 s y∧RI H1 vst s.sp.st∧RI H1 vwa s.sp.wa∧RRd H1 vr s.rs∧RCm H1 vc s.cs∧RI H1 vy y∧St H1 w' σ:=by
 refine (uT hs g1 g2 g3 g4).mono ?_
 rintro _ w ⟨H3,m,y,ust,uwa,ur,uc,uy,e1,e2,e3,e4,e5,hle3,rfl,hM,hOV,hOy,hK,hs⟩
 have hst4:=hM.st
 have hwa3:=hM.wa
 have hmr:=hM.rs
 have hmc:=hM.cs
 obtain ⟨H4,hle4,r1,r2,r3,r4,hs,-⟩:=Fu.ze hOV ak ak ak ak hs
 obtain ⟨hyl,-,hyb⟩:=hK.bd
 have hmt:=hM.ok.many
 obtain ⟨H5,hle5,hY,hs⟩:=bS.dJ hOy ak hs .here
 exact ⟨H5,m,y,_,_,_,_,_,hle3.trans (hle4.trans hle5),rfl,hM,hK,r1.mono hle5,r2.mono hle5,r3.mono hle5,r4.mono hle5,hY,hs⟩
theorem uQ{s:Spc}{vst vwa vx:Value}{x:List Int}(hs:St H w σ)(h1:RI H vst s.st)(h2:RI H vwa s.wa)(hx:RI H vx x)(hb1:s.st.length≤1000)(hb2:s.wa.length≤1000)(hxl:s.many+1≤x.length):
  Cl Tryz.prog 34 [.agg #[I s.id,I s.src,vst,vwa,I s.al,I s.up],vx] w fun u w'=>∃H1 va,HLe H H1∧u= .agg #[va]∧RT H1 va (ee s x s.st.length)∧St H1 w' σ:=by
 refine (uR hs h1 h2 hx hb1 hb2 hxl).mono ?_
 rintro _ w ⟨va,us,en,ens,rfl,hO,hR,hs⟩
 have hul:=hR.length
 rw [dN] at hul
 replace hs:St H w (ens++(en::σ)):=hs.perm List.perm_middle.symm
 obtain ⟨H6,hle6,hRL,hs⟩:=hR.bU (fun r hr=>by
  obtain ⟨j,hj⟩:=List.getElem?_of_mem hr
  have hjl:=(List.getElem?_eq_some_iff.1 hj).1
  rw [dN] at hjl
  rw [tE hjl] at hj
  obtain rfl:=Option.some.inj hj
  rw [fE];omega) hs
 obtain ⟨H7,hle7,hRT,hs⟩:=hRL.bU hO ak hs .here
 exact ⟨H7,_,hle6.trans hle7,rfl,hRT,hs⟩
theorem Ep{s:Srv}{y:List Int}(hok:dC s)(h:j7 s y){q:Wht}{lo hi:Int}(hB:Ar s q lo hi 0):lo≤eH s.sp q (ee s.sp y s.sp.st.length) s.sp.many/pD q∧eH s.sp q (ee s.sp y s.sp.st.length) s.sp.many/pD q≤hi:=by
 obtain ⟨a,b,rfl,rfl,_,_,hR⟩:=BW hB
 have hd:=wY q
 have:=F7 hok h hR
 exact ⟨Int.ediv_le_ediv ak this.1,Int.ediv_le_ediv ak this.2⟩
theorem bE{a0 a1 a2:Int}(hs:St H w σ):Cl Tryz.prog 72 [I a0,I a1,I a2] w fun v w'=>v= .bool (decide (a1≤a0∧a0≤a2))∧St H w' σ:=by
 refine Cl.o Tryz.func72 Tryz.ntmps72 ag3 ?_
 refine .ai (.zn zg (.ai (.z zm (.z zm (.z uJ (.z zm (.kF (t':=10) rfl (fun hb10=>?_) (fun hb10=>?_))))))))
 ·refine .T (.z zm (.T (.z zm (.T (.z uJ (.z zpT (.zn zg (.ret (Fin.bu Tryz.results72 rfl ?_)))))))))
  exact ⟨by simp [*],hs.out⟩
 ·refine .Fs 3 3 true (.z zpF (.zn zg (.ret (Fin.bu Tryz.results72 rfl ?_))))
  exact ⟨by simp [*],hs.out⟩
theorem jJ{a0:Int}(hs:St H w σ):Cl Tryz.prog 73 [I a0] w fun v w'=>v= .bool (decide (1≤a0∧a0≤20))∧St H w' σ:=by
 refine Cl.o Tryz.func73 Tryz.ntmps73 ag1 ?_
 refine .ai (.zn zg (.ai (.z zm (.o (.call dM rfl (bE hs) ?_)))));rintro _ w ⟨rfl,hs⟩
 refine .zn zg (.ret (Fin.bu Tryz.results73 rfl ?_))
 exact ⟨rfl,hs⟩
theorem my{x y a1 a2:Int}(hs:St H w σ):Cl Tryz.prog 161 [.agg #[I x,I y],I a1,I a2] w fun v w'=>v= .bool (decide (a1≤x∧x≤y∧y≤a2))∧St H w' σ:=by
 refine Cl.o Tryz.func161 Tryz.ntmps161 ag3 ?_
 refine .ai (.bx hs fun b3 w hs=>?_)
 refine .zn zg (.ai (.z zm (.z (zfa bD) (.y hs (zld af) (.z uJ (.z zm (.kF (t':=11) rfl (fun hb11=>?_) (fun hb11=>?_))))))))
 ·refine .T (.z (zfa bD) (.T (.y hs (zld af) (.T (.z (zfa cg) (.T (.y hs (zld af) (.T (.z uJ (.z zpT (.z zm (.kF (t':=18) rfl (fun hb18=>?_) (fun hb18=>?_)))))))))))))
  ·refine .T (.z (zfa cg) (.T (.y hs (zld af) (.T (.z zm (.T (.z uJ (.z zpT (.zn zg (.ret (Fin.bu Tryz.results161 rfl ?_)))))))))))
   exact ⟨by simp [*],hs.out⟩
  ·refine .Fs 4 11 true (.z zpF (.zn zg (.ret (Fin.bu Tryz.results161 rfl ?_))))
   exact ⟨by simp [*],hs.out⟩
 ·refine .Fs 5 4 true (.z zpF (.z zm (.Fs 4 11 true (.z zpF (.zn zg (.ret (Fin.bu Tryz.results161 rfl ?_)))))))
  exact ⟨by simp [*],hs.out⟩
theorem mz{x y:Int}(hs:St H w σ):Cl Tryz.prog 109 [.agg #[I x,I y]] w fun v w'=>v= .bool (decide (gR x y))∧St H w' σ:=by
 refine Cl.o Tryz.func109 Tryz.ntmps109 ag1 ?_
 refine .ai (.bx hs fun b1 w hs=>?_)
 refine .zn zg (.ai (.y hs (zls [_,_] aR aq) (.o (.call Tryz.call161 rfl (my hs) ?_))));rintro _ w ⟨rfl,hs⟩
 refine .zn zg (.ret (Fin.bu Tryz.results109 rfl ?_))
 exact ⟨rfl,hs.out⟩
theorem lS{x y:Int}(hs:St H w σ):Cl Tryz.prog 118 [.agg #[I x,I y]] w fun v w'=>v= .bool (decide (eS x y))∧St H w' σ:=by
 refine Cl.o Tryz.func118 Tryz.ntmps118 ag1 ?_
 refine .ai (.bx hs fun b1 w hs=>?_)
 refine .zn zg (.ai (.y hs (zls [_,_] aR aq) (.o (.call Tryz.call161 rfl (my hs) ?_))));rintro _ w ⟨rfl,hs⟩
 refine .zn zg (.ret (Fin.bu Tryz.results118 rfl ?_))
 exact ⟨rfl,hs.out⟩
theorem nj{x:Lg}(hs:St H w σ):
  Cl Tryz.prog 75 [.agg #[I x.zone,I x.fr,I x.to,I x.dlo,I x.dhi,I x.blo,I x.bhi]] w fun v w'=>∃b:Bool,v= .bool b∧(b=true↔Bc x)∧St H w' σ:=by
 refine Cl.o Tryz.func75 Tryz.ntmps75 ag1 ?_
 refine .ai (.bx hs fun b1 w hs=>?_)
 refine .zn zg (.ai (.z (zfa rZ) (.y hs (zld af) (.o (.call Tryz.call73 rfl (jJ hs) ?_)))));rintro _ w ⟨rfl,hs⟩
 refine .z zm (.bif (t':=6) rfl (fun hb6=>?_) (fun hb6=>?_))
 ·refine .T (.z (zfa jy) (.T (.y hs (zld af) (.T (.z (zfa iI) (.T (.y hs (zld af) (.T (.o (.call dM rfl (bE hs) ?_))))))))));rintro _ w ⟨rfl,hs⟩
  refine .z zpT (.z zm (.bif (t':=13) rfl (fun hb13=>?_) (fun hb13=>?_)))
  ·refine .T (.z (zfa iI) (.T (.y hs (zld af) (.T (.o (.call dM rfl (bE hs) ?_))))));rintro _ w ⟨rfl,hs⟩
   refine .z zpT (.z zm (.bif (t':=18) rfl (fun hb18=>?_) (fun hb18=>?_)))
   ·refine .T (.z (zfa eC) (.T (.y hs (zls [_,_] aR aq) (.T (.o (.call Tryz.call118 rfl (lS hs) ?_))))));rintro _ w ⟨rfl,hs⟩
    refine .z zpT (.z zm (.bif (t':=23) rfl (fun hb23=>?_) (fun hb23=>?_)))
    ·refine .T (.z (zfa gJ) (.T (.y hs (zls [_,_] aR aq) (.T (.o (.call Tryz.call109 rfl (mz hs) ?_))))));rintro _ w ⟨rfl,hs⟩
     refine .z zpT (.zn zg (.ret (Fin.bu E2 rfl ?_)))
     first
     |exact ⟨false,rfl,⟨fun h=>(by cases h),fun h=>(by obtain ⟨g1,g2,g3,g4,g5⟩:=h;first|omega|(simp_all;done)|(simp_all;omega))⟩,hs.out⟩
     |exact ⟨_,rfl,⟨fun h=>⟨by simp_all,by simp_all,by simp_all,by simp_all,by simpa using h⟩,fun h=>by simpa using h.burn⟩,hs.out⟩
    ·refine .Fs 3 20 true (.z zpF (.zn zg (.ret (Fin.bu E2 rfl ?_))))
     first
     |exact ⟨false,rfl,⟨fun h=>(by cases h),fun h=>(by obtain ⟨g1,g2,g3,g4,g5⟩:=h;first|omega|(simp_all;done)|(simp_all;omega))⟩,hs.out⟩
     |exact ⟨_,rfl,⟨fun h=>⟨by simp_all,by simp_all,by simp_all,by simp_all,by simpa using h⟩,fun h=>by simpa using h.burn⟩,hs.out⟩
   ·refine .Fs 3 15 true (.z zpF (.z zm (.Fs 3 20 true (.z zpF (.zn zg (.ret (Fin.bu E2 rfl ?_)))))))
    first
    |exact ⟨false,rfl,⟨fun h=>(by cases h),fun h=>(by obtain ⟨g1,g2,g3,g4,g5⟩:=h;first|omega|(simp_all;done)|(simp_all;omega))⟩,hs.out⟩
    |exact ⟨_,rfl,⟨fun h=>⟨by simp_all,by simp_all,by simp_all,by simp_all,by simpa using h⟩,fun h=>by simpa using h.burn⟩,hs.out⟩
  ·refine .Fs 3 10 true (.z zpF (.z zm (.Fs 3 15 true (.z zpF (.z zm (.Fs 3 20 true (.z zpF (.zn zg (.ret (Fin.bu E2 rfl ?_))))))))))
   first
   |exact ⟨false,rfl,⟨fun h=>(by cases h),fun h=>(by obtain ⟨g1,g2,g3,g4,g5⟩:=h;first|omega|(simp_all;done)|(simp_all;omega))⟩,hs.out⟩
   |exact ⟨_,rfl,⟨fun h=>⟨by simp_all,by simp_all,by simp_all,by simp_all,by simpa using h⟩,fun h=>by simpa using h.burn⟩,hs.out⟩
 ·refine .Fs 5 3 true (.z zpF (.z zm (.Fs 3 10 true (.z zpF (.z zm (.Fs 3 15 true (.z zpF (.z zm (.Fs 3 20 true (.z zpF (.zn zg (.ret (Fin.bu E2 rfl ?_)))))))))))))
  first
  |exact ⟨false,rfl,⟨fun h=>(by cases h),fun h=>(by obtain ⟨g1,g2,g3,g4,g5⟩:=h;first|omega|(simp_all;done)|(simp_all;omega))⟩,hs.out⟩
  |exact ⟨_,rfl,⟨fun h=>⟨by simp_all,by simp_all,by simp_all,by simp_all,by simpa using h⟩,fun h=>by simpa using h.burn⟩,hs.out⟩
set_option maxHeartbeats 1000000 in
theorem fm{l:Lns}{vt vs:Value}(hs:St H w σ)(h1:RFb H vt l.table)(h2:RSn H vs l.seasons):
  Cl Tryz.prog 19 [.agg #[I l.length,I l.depth,vt,vs]] w fun u w'=>∃e,u=I e∧LnsR l e∧St H w' σ:=by
 obtain ⟨at_,ct,rfl⟩:=h1.shape
 obtain ⟨as_,cs,rfl⟩:=h2.shape
 refine Cl.o Tryz.func19 Tryz.ntmps19 ag1 ?_
 refine .ai (.bx hs fun b1 w hs=>?_)
 refine .zn zg (.seq (.ai (.z (zfa jg) (.y hs (zld af) (.o (.call dM rfl (bE hs) ?_))))));rintro _ w ⟨rfl,hs⟩
 refine .z gP (.z zm (.bif (t':=11) rfl (fun hb11=>?_) (fun hb11=>?_)))
 ·refine .Fs 4 4 false (.z zpT (.z zm (.Fs 5 10 false (.z zpT (.z zm (.Fs 4 17 false (.zn zpT (.cT (.ai (.zn zg (.ret (rT (Fin.bu eQ rfl ?_)))))))))))))
  exact ⟨_,rfl,.inr ⟨fun h=>by have:=h.length;simp_all,rfl⟩,hs.out⟩
 ·refine .T (.z (zfa lr) (.T (.y hs (zld af) (.T (.o (.call dM rfl (bE hs) ?_))))));rintro _ w ⟨rfl,hs⟩
  refine .T (.z gP (.z zpF (.z zm (.bif (t':=17) rfl (fun hb17=>?_) (fun hb17=>?_)))))
  ·refine .Fs 5 10 false (.z zpT (.z zm (.Fs 4 17 false (.zn zpT (.cT (.ai (.zn zg (.ret (rT (Fin.bu eQ rfl ?_))))))))))
   exact ⟨_,rfl,.inr ⟨fun h=>by have:=h.depth;simp_all,rfl⟩,hs.out⟩
  ·refine .T (.z (zfa dt) (.T (.y hs (zld jF) (.T (.z (cU cu) (.T (.o (.call dM rfl (bE hs) ?_))))))));rintro _ w ⟨rfl,hs⟩
   refine .T (.z gP (.z zpF (.z zm (.bif (t':=24) rfl (fun hb24=>?_) (fun hb24=>?_)))))
   ·refine .Fs 4 17 false (.zn zpT (.cT (.ai (.zn zg (.ret (rT (Fin.bu eQ rfl ?_)))))))
    exact ⟨_,rfl,.inr ⟨fun h=>by have:=h.many;simp_all;omega,rfl⟩,hs.out⟩
   ·refine .T (.z (zfa ie) (.T (.y hs (zld Tryz.isAgg23) (.T (.z (cU fC) (.T (.z pQ (.zn zpF (.bO rfl (fun hc29=>?_) (fun hc29=>?_))))))))))
    ·refine .ai (.zn zg (.ret (rT (Fin.bu eQ rfl ?_))))
     exact ⟨_,rfl,.inr ⟨fun h=>by have:=h.most;simp_all;omega,rfl⟩,hs.out⟩
    ·refine .skip (nT (.seq (.ai ?_)))
     have hl20:1≤l.table.length∧l.table.length≤20:=by first|omega|(simp at hb24;omega)
     refine .z (zfa dt) (.y hs (zld jF) (.z (cU cu) (.zn zm (.for (N:=l.table.length) (J:=fun k fr w=>fr=[(31,.slice at_ l.table.length ct),(1,Pt b1)]∧(∀j<k,GF l.table j)∧St H w (.blk b1 [I l.length,I l.depth,.slice at_ l.table.length ct,.slice as_ l.seasons.length cs]::σ)) ak ?_ ?_ ?_))))
     ·exact .mk ⟨rfl,fun j hj=>by omega,hs⟩
     ·rintro k fr w hk ⟨rfl,hno,hs⟩
      have hx:=ug (l:=l.table) hk
      have hx1:=ug (l:=l.table) (i:=k - 1) ak
      refine .block (.ai (.z zm (.ixX (enc:=Fbd.c) hs h1 rfl rfl cu cQ hx df ?_)));intro b36 o36 hc36
      refine .q hs (bI (vs:=(Fbd.c (fb0 l.table k))) rfl Tryz.isAgg134 cQ hc36) (.o (.alloc hs iE rfl fun b4 w hs=>?_))
      refine .z zg (.o (.aH (vs:=(fb0 l.table k).c) hs rfl rfl cQ fun w hs=>?_))
      change St _ _ (.blk b4 [I (fb0 l.table k).len,I (fb0 l.table k).least]::_) at hs
      refine .nil (.seq (.draw mix rfl hs fun w hs=>?_))
      refine .zw 0 rfl (zfa dk) ?_;refine .y 1 rfl hs af ?_
      refine .E 2 hs ?_
      refine .call dM rfl (bE hs) ?_;rintro _ w ⟨rfl,hs⟩
      refine .go (.zw 3 rfl gP ?_);refine .z 4 rfl zm ?_
      refine .bif (t':=42) rfl (fun hb42=>?_) (fun hb42=>?_)
      ·refine .F 5 rfl (.F 6 rfl (.F 7 rfl (.F 8 rfl (.zw 9 rfl zpT ?_))));refine .z 10 rfl zm ?_
       refine .F 11 rfl (.F 12 rfl ?_)
       refine .F 13 rfl (.F 14 rfl (.F 15 rfl (.F 16 rfl (.F 17 rfl (.F 18 rfl (.F 19 rfl (.F 20 rfl (.F 21 rfl (.F 22 rfl (.F 23 rfl (.F 24 rfl (.zw 25 rfl zpT ?_))))))))))));refine .D hs ?_
       refine (.cT (.ai (.zn zg (.ret (rB (rT (rB (rT (Fin.bu eQ rfl ?_)))))))))
       exact ⟨_,rfl,.inr ⟨fun h=>by have:=(h.table k hk).len;simp_all,rfl⟩,hs.out⟩
      ·refine .zw 5 rfl (zfa eX) ?_;refine .y 6 rfl hs af ?_
       refine .E 7 hs ?_
       refine .call dM rfl (bE hs) ?_;rintro _ w ⟨rfl,hs⟩
       refine .go (.zw 8 rfl gP ?_);refine .z 9 rfl zpF ?_;refine .z 10 rfl zm ?_
       refine .bif (t':=48) rfl (fun hb48=>?_) (fun hb48=>?_)
       ·refine .F 11 rfl (.F 12 rfl ?_)
        refine .F 13 rfl (.F 14 rfl (.F 15 rfl (.F 16 rfl (.F 17 rfl (.F 18 rfl (.F 19 rfl (.F 20 rfl (.F 21 rfl (.F 22 rfl (.F 23 rfl (.F 24 rfl (.zw 25 rfl zpT ?_))))))))))));refine .D hs ?_
        refine (.cT (.ai (.zn zg (.ret (rB (rT (rB (rT (Fin.bu eQ rfl ?_)))))))))
        exact ⟨_,rfl,.inr ⟨fun h=>by have:=(h.table k hk).least;simp_all,rfl⟩,hs.out⟩
       ·refine .zw 11 rfl zm ?_;refine .z 12 rfl pQ ?_;refine .z 13 rfl zm ?_
        refine .kF (t':=51) rfl (fun hb51=>?_) (fun hb51=>?_)
        ·refine .zw 14 rfl (zfa dt) ?_;refine .y 15 rfl hs jF ?_;refine .z 16 rfl zm ?_;refine .z 17 rfl ib ?_
         refine .ixX (enc:=Fbd.c) (i:=18) hs rfl aE (.some rfl rfl) h1 rfl rfl cu cQ hx1 ak ?_;intro b56 o56 hc56
         refine .zw 19 rfl (zfa dk) (.r (i:=20) hs rfl aE (.some rfl rfl) (aQ rfl af (hc56.get 0 rfl)) ?_)
         refine .zw 21 rfl (zfa dk) ?_;refine .y 22 rfl hs af ?_;refine .z 23 rfl yM ?_;refine .z 24 rfl zpT ?_;refine .z 25 rfl zpF ?_;refine .D hs ?_
         refine (.bO rfl (fun hc63=>?_) (fun hc63=>?_))
         ·refine .ai (.zn zg (.ret (rB (rT (rB (rT (Fin.bu eQ rfl ?_)))))))
          exact ⟨_,rfl,.inr ⟨fun h=>by have:=(h.table k hk).rise ak;omega,rfl⟩,hs.out⟩
         ·refine .skip (nB (nT ?_))
          first
          |exact .mk ⟨rfl,fun j hj=>by
            by_cases e:j=k
            ·subst e;exact ⟨by simp_all,by simp_all,fun _=>by omega⟩
            ·exact hno j ak,hs.tail⟩
        ·refine .F 14 rfl (.F 15 rfl (.F 16 rfl (.F 17 rfl (.F 18 rfl (.F 19 rfl (.F 20 rfl (.F 21 rfl (.F 22 rfl (.F 23 rfl (.zw 24 rfl zpF ?_))))))))));refine .z 25 rfl zpF ?_;refine .D hs ?_
         refine (.cF (.skip (nB (nT ?_))))
         first
         |exact .mk ⟨rfl,fun j hj=>by
           by_cases e:j=k
           ·subst e;exact ⟨by simp_all,by simp_all,fun _=>by omega⟩
           ·exact hno j ak,hs.tail⟩
     ·rintro fr w ⟨rfl,htb,hs⟩
      refine nT (.seq (.ai (.z (zfa ie) (.y hs (zld Tryz.isAgg23) (.z (cU fC) (.zn zm (.for (N:=l.seasons.length) (J:=fun k fr w=>fr=[(66,.slice as_ l.seasons.length cs),(1,Pt b1)]∧(∀j<k,∀y,l.seasons[j]? =some y→A9 y)∧St H w (.blk b1 [I l.length,I l.depth,.slice at_ l.table.length ct,.slice as_ l.seasons.length cs]::σ)) ak ?_ ?_ ?_)))))))
      ·exact .mk ⟨rfl,fun j hj=>by omega,hs⟩
      ·rintro k fr w hk ⟨rfl,hno,hs⟩
       obtain ⟨s,hx⟩:=nth hk
       refine .block (.ai (.ixX (enc:=Ssn.c) hs h2 rfl rfl fC iY hx df ?_));intro b70 o70 hc70
       refine .q hs (bI (vs:=(Ssn.c s)) rfl Tryz.isAgg104 iY hc70) (.o (.alloc hs xt rfl fun b6 w hs=>?_))
       refine .o (.aH (vs:=s.c) hs rfl rfl iY fun w hs=>?_)
       change St _ _ (.blk b6 [I s.zone,I s.fr,I s.to,I s.extra]::_) at hs
       refine .nil (.ai (.z (zfa nF) (.y hs (zld af) (.o (.call Tryz.call73 rfl (jJ hs) ?_)))));rintro _ w ⟨rfl,hs⟩
       refine .z gP (.z zm (.bif (t':=76) rfl (fun hb76=>?_) (fun hb76=>?_)))
       ·refine .Fs 4 4 false (.z zpT (.z zm (.Fs 4 10 false (.z zpT (.z zm (.Fs 4 16 false (.zn zpT (.cT (.ai (.zn zg (.ret (rB (rT (rB (rT (Fin.bu eQ rfl ?_))))))))))))))))
        exact ⟨_,rfl,.inr ⟨fun h=>by have:=(h.seasons s (List.mem_of_getElem? hx)).zone;simp_all,rfl⟩,hs.out⟩
       ·refine .T (.z (zfa iQ) (.T (.y hs (zld af) (.T (.o (.call dM rfl (bE hs) ?_))))));rintro _ w ⟨rfl,hs⟩
        refine .T (.z gP (.z zpF (.z zm (.bif (t':=82) rfl (fun hb82=>?_) (fun hb82=>?_)))))
        ·refine .Fs 4 10 false (.z zpT (.z zm (.Fs 4 16 false (.zn zpT (.cT (.ai (.zn zg (.ret (rB (rT (rB (rT (Fin.bu eQ rfl ?_)))))))))))))
         exact ⟨_,rfl,.inr ⟨fun h=>by have:=(h.seasons s (List.mem_of_getElem? hx)).fr;simp_all,rfl⟩,hs.out⟩
        ·refine .T (.z (zfa iP) (.T (.y hs (zld af) (.T (.o (.call dM rfl (bE hs) ?_))))));rintro _ w ⟨rfl,hs⟩
         refine .T (.z gP (.z zpF (.z zm (.bif (t':=88) rfl (fun hb88=>?_) (fun hb88=>?_)))))
         ·refine .Fs 4 16 false (.zn zpT (.cT (.ai (.zn zg (.ret (rB (rT (rB (rT (Fin.bu eQ rfl ?_))))))))))
          exact ⟨_,rfl,.inr ⟨fun h=>by have:=(h.seasons s (List.mem_of_getElem? hx)).to;simp_all,rfl⟩,hs.out⟩
         ·refine .T (.z (zfa nE) (.T (.y hs (zld af) (.T (.o (.call dM rfl (bE hs) ?_))))));rintro _ w ⟨rfl,hs⟩
          refine .T (.z gP (.zn zpF (.cond rfl (fun hc93=>?_) (fun hc93=>?_))))
          ·refine .ai (.zn zg (.ret (rB (rT (rB (rT (Fin.bu eQ rfl ?_)))))))
           exact ⟨_,rfl,.inr ⟨fun h=>by have:=(h.seasons s (List.mem_of_getElem? hx)).extra;simp_all,rfl⟩,hs.out⟩
          ·refine .skip (nB (nT ?_))
           exact .mk ⟨rfl,eT hno hx ⟨by simp_all,by simp_all,by simp_all,by simp_all⟩,hs.tail⟩
      ·rintro fr w ⟨rfl,hno,hs⟩
       refine nT (.ai (.zn zg (.ret (Fin.bu eQ rfl ?_))))
       exact ⟨_,rfl,.inl ⟨⟨by simp_all,by simp_all,hl20,ak,htb,fun s hs=>by
        obtain ⟨j,hj⟩:=List.getElem?_of_mem hs
        exact hno j (List.getElem?_eq_some_iff.1 hj).1 s hj⟩,rfl⟩,hs.out⟩
theorem ot{r:List Lg}{vr:Value}(hs:St H w σ)(h1:RLg H vr r):
  Cl Tryz.prog 21 [.agg #[vr]] w fun u w'=>∃e,u=I e∧RteR r e∧St H w' σ:=by
 obtain ⟨ar,cr,rfl⟩:=h1.shape
 refine Cl.o Tryz.func21 Tryz.ntmps21 ag1 ?_
 refine .ai (.bx hs fun b1 w hs=>?_)
 refine .zn zg (.seq (.ai (.z (zfa cH) (.y hs (zld dm) (.z (cU aS) (.o (.call dM rfl (bE hs) ?_)))))));rintro _ w ⟨rfl,hs⟩
 refine .zn gP (.cond rfl (fun hc9=>?_) (fun hc9=>?_))
 ·refine .ai (.zn zg (.ret (rT (Fin.bu Tryz.results21 rfl ?_))))
  exact ⟨_,rfl,.inr ⟨fun h=>by have:=h.many;simp_all;omega,rfl⟩,hs.out⟩
 ·refine .skip (nT (.seq (.ai ?_)))
  have hl20:1≤r.length∧r.length≤12:=by first|omega|(simp at hc9;omega)
  refine .z (zfa cH) (.y hs (zld dm) (.z (cU aS) (.zn zm (.for (N:=r.length) (J:=fun k fr w=>fr=[(11,.slice ar r.length cr),(1,Pt b1)]∧(∀j<k,Bc (lg0 r j)∧(0<j→(lg0 r (j - 1)).to≤(lg0 r j).fr))∧St H w (.blk b1 [.slice ar r.length cr]::σ)) ak ?_ ?_ ?_))))
  ·exact .mk ⟨rfl,fun j hj=>by omega,hs⟩
  ·rintro k fr w hk ⟨rfl,hno,hs⟩
   have hx:=mc (l:=r) hk
   have hx1:=mc (l:=r) (i:=k - 1) ak
   refine .block (.ai (.z zm (.ixX (enc:=Lg.c) hs h1 rfl rfl aS aN hx df ?_)));intro b16 o16 hc16
   refine .q hs (bI (vs:=(Lg.c (lg0 r k))) rfl dQ aN hc16) (.o (.alloc hs cj rfl fun b4 w hs=>?_))
   refine .z zg (.o (.aH (vs:=(lg0 r k).c) hs rfl rfl aN fun w hs=>?_))
   change St _ _ (.blk b4 [I (lg0 r k).zone,I (lg0 r k).fr,I (lg0 r k).to,I (lg0 r k).dlo,I (lg0 r k).dhi,I (lg0 r k).blo,I (lg0 r k).bhi]::_) at hs
   refine .nil (.seq (.draw mix rfl hs fun w hs=>?_))
   refine .zv 0 rfl hs (Cq [_,_,_,_,_,_,_] dQ aN) (.E 1 hs ?_)
   refine .call Tryz.call75 rfl (nj (x:=lg0 r k) hs) ?_;rintro _ w ⟨b19,rfl,hb19,hs⟩
   refine .go (.zw 2 rfl gP ?_);refine .z 3 rfl zm ?_
   refine .bif (t':=21) rfl (fun hb21=>?_) (fun hb21=>?_)
   ·refine .F 4 rfl (.F 5 rfl ?_)
    refine .F 6 rfl (.F 7 rfl (.F 8 rfl (.F 9 rfl (.F 10 rfl (.F 11 rfl (.F 12 rfl (.F 13 rfl (.F 14 rfl (.F 15 rfl (.F 16 rfl (.F 17 rfl (.zw 18 rfl zpT ?_))))))))))));refine .D hs ?_
    refine (.cT (.ai (.zn zg (.ret (rB (rT (rB (rT (Fin.bu Tryz.results21 rfl ?_)))))))))
    exact ⟨_,rfl,.inr ⟨fun h=>by have:=hb19.2 (h.leg k hk).1;simp_all,rfl⟩,hs.out⟩
   ·refine .zw 4 rfl zm ?_;refine .z 5 rfl pQ ?_;refine .z 6 rfl zm ?_
    refine .kF (t':=24) rfl (fun hb24=>?_) (fun hb24=>?_)
    ·refine .zw 7 rfl (zfa jy) ?_;refine .y 8 rfl hs af ?_;refine .z 9 rfl (zfa cH) ?_;refine .y 10 rfl hs dm ?_;refine .z 11 rfl zm ?_;refine .z 12 rfl ib ?_
     refine .ixX (enc:=Lg.c) (i:=13) hs rfl aE (.some rfl rfl) h1 rfl rfl aS aN hx1 ak ?_;intro b31 o31 hc31
     refine .zw 14 rfl (zfa iI) (.r (i:=15) hs rfl aE (.some rfl rfl) (aQ rfl af (hc31.get 2 rfl)) ?_)
     refine .zw 16 rfl iJ ?_;refine .z 17 rfl zpT ?_;refine .z 18 rfl zpF ?_;refine .D hs ?_
     refine (.bO rfl (fun hc36=>?_) (fun hc36=>?_))
     ·refine .ai (.zn zg (.ret (rB (rT (rB (rT (Fin.bu Tryz.results21 rfl ?_)))))))
      exact ⟨_,rfl,.inr ⟨fun h=>by have:=(h.leg k hk).2 ak;omega,rfl⟩,hs.out⟩
     ·refine .skip (nB (nT ?_))
      first
      |exact .mk ⟨rfl,fun j hj=>by
        by_cases e:j=k
        ·subst e;exact ⟨hb19.1 (by simp_all),fun _=>by omega⟩
        ·exact hno j ak,hs.tail⟩
    ·refine .F 7 rfl (.F 8 rfl (.F 9 rfl (.F 10 rfl (.F 11 rfl (.F 12 rfl (.F 13 rfl (.F 14 rfl (.F 15 rfl (.F 16 rfl (.zw 17 rfl zpF ?_))))))))));refine .z 18 rfl zpF ?_;refine .D hs ?_
     refine (.cF (.skip (nB (nT ?_))))
     first
     |exact .mk ⟨rfl,fun j hj=>by
       by_cases e:j=k
       ·subst e;exact ⟨hb19.1 (by simp_all),fun _=>by omega⟩
       ·exact hno j ak,hs.tail⟩
  ·rintro fr w ⟨rfl,hno,hs⟩
   refine nT (.ai (.zn zg (.ret (Fin.bu Tryz.results21 rfl ?_))))
   exact ⟨_,rfl,.inl ⟨⟨hl20,hno⟩,rfl⟩,hs.out⟩
theorem Hj{P:Program}{H:bw}{σ:List Ent}{s:FS}{t ty':TypeId}{x y:Operand}{p:Int}(hx:FS.ev s x=some (.int .u64 p))(hy:FS.ev s y=some (.int .u64 1)):QJ P H σ s (.binOp .shr t x y ty') (.int .u64 (p/2)):=by
 have h1:=yZ (P:=P) (H:=H) (σ:=σ) (t:=t) (ty':=ty') hx hy ak
 have h2:p.fdiv (2 ^min (1:Int).toNat IntKind.u64.bits)=p/2:=by
  have:(2:Int) ^min (1:Int).toNat IntKind.u64.bits=2:=by decide
  rw [this,Int.fdiv_eq_ediv_of_nonneg _ ak]
 rw [h2] at h1
 exact h1
theorem ml{n g:Nat}{cap:List Value}{p:Nat→Prop}(hs:St H w σ)(hn:n≤1000000)(hc:∀args w,(callFunc g args).run Tryz.prog w= .ok (.enter g args) w)
  (hp:∀w i,i<n→St H w σ→Cl Tryz.prog g ([I (i:Int)]++cap) w fun u w'=>∃b,u= .bool b∧(b=true↔p i)∧St H w' σ):
  Cl Tryz.prog 157 [I (n:Int),.func (.func g) #[] cap.toArray] w fun u w'=>∃k:Nat,u=I (k:Int)∧k≤n∧(0<k→¬p (k - 1))∧(k<n→p k)∧St H w' σ:=by
 refine Cl.o Tryz.func157 Tryz.ntmps157 ag2 ?_
 refine .ai (.zn zg (.ai (.z zm (.z zg (.zn zg (.seq (.block ?_)))))))
 refine .loop (fun q:Nat×Nat=>⟨26,[],[(6,I (q.2:Int)),(5,I (q.1:Int)),(1,.func (.func g) #[] cap.toArray)]⟩)
  (fun q w=>(q.1≤q.2∧q.2≤n)∧(0<q.1→¬p (q.1 - 1))∧(q.2<n→p q.2)∧St H w σ) (fun q=>q.2 - q.1) (0,n) bn
  ⟨⟨Nat.zero_le _,Nat.le_refl _⟩,fun h=>by omega,fun h=>by omega,hs⟩ ?_
 rintro ⟨i,j⟩ w ⟨⟨hij,hjn⟩,hlo,hhi,hs⟩
 dsimp only at hij hjn hlo hhi ⊢
 refine .seq (.ai (.z zm (.z zm (.zn iJ (.bO rfl (fun hc11=>?_) (fun hc11=>?_))))))
 ·refine .skip (nT (.block (.ai (.z zm (.z zm (.z cq (.q hs (wz rfl aV cW ⟨ak,ak⟩) (.q hs (Hj rfl rfl) ?_))))))))
  rw [show ((i:Int)+(j:Int))/2=(((i+j)/2:Nat):Int) by omega]
  refine .q hs (wA rfl cW aV ⟨ak,ak⟩) (.zn zg (.ai (.z zm (.z zm (.o (.nI (first:=[]) rfl rfl hc (hp _ ((i+j)/2) ak hs) ?_))))));rintro _ w ⟨b20,rfl,hb20,hs⟩
  refine .zn gP (.cond rfl (fun hc21=>?_) (fun hc21=>?_))
  ·refine .region (.z zm (.z cq (.zn zg (nB (nT ?_)))))
   exact ⟨((i+j)/2+1,j),.dy rfl bV bn,⟨⟨by dsimp only;omega,hjn⟩,fun _ h=>(by rw [hb20.2 (by simpa using h)] at hc21;cases hc21),hhi,hs⟩,by dsimp only;omega⟩
  ·refine .region (.z zm (.zn zg (nB (nT ?_))))
   exact ⟨(i,(i+j)/2),.dy rfl bV bn,⟨⟨by dsimp only;omega,by dsimp only;omega⟩,hlo,fun _=>hb20.1 (by simpa using hc21),hs⟩,by dsimp only;omega⟩
 ·refine .exit (xT (xT (xB (nT (.ai (.z zm (.zn zg (.ret (Fin.bu Tryz.results157 rfl ?_)))))))))
  obtain rfl:i=j:=by omega
  exact ⟨i,rfl,hjn,hlo,hhi,hs⟩
theorem nk{l:Lns}{vt vs:Value}{b i:Nat}(hs:St H w (.blk b [I l.length,I l.depth,vt,vs]::σ))(h1:RFb H vt l.table)(hi:i<l.table.length):
  Cl Tryz.prog 158 [I (i:Int),Pt b] w fun u w'=>∃bb:Bool,u= .bool bb∧(bb=true↔l.length≤(fb0 l.table i).len)∧St H w' (.blk b [I l.length,I l.depth,vt,vs]::σ):=by
 obtain ⟨at_,ct,rfl⟩:=h1.shape
 refine Cl.o Tryz.func158 Tryz.ntmps158 ag2 ?_
 refine .ai (.zn zg (.seq (.draw mix rfl hs fun w hs=>?_)))
 refine .zw 0 rfl (zfa dt) ?_;refine .y 1 rfl hs jF ?_;refine .z 2 rfl zm ?_
 refine .ixX (enc:=Fbd.c) (i:=3) hs rfl aE .none h1 rfl rfl cu cQ (ug hi) df ?_;intro b7 o7 hc7
 refine .zw 4 rfl (zfa dk) (.r (i:=5) hs rfl aE .none (aQ rfl af (hc7.get 0 rfl)) ?_)
 refine .zw 6 rfl (zfa jg) ?_;refine .y 7 rfl hs af ?_;refine .z 8 rfl yM ?_;refine .z 9 rfl zg ?_;refine .D hs ?_
 refine .ret (Fin.bu Tryz.results158 rfl ?_)
 exact ⟨_,rfl,bV,hs⟩
theorem oK{a d:Int}(hs:St H w σ)(hd:1≤d)(ha: -4608000000000000000≤a∧a≤4608000000000000000):
  Cl Tryz.prog 140 [I a,I d] w fun v w'=>v=I (a/d)∧St H w' σ:=by
 have hq:=HZ hd ha
 have hfl:=s7 (n:=a) (d:=d) ak
 refine Cl.o Tryz.func140 Tryz.ntmps140 ag2 ?_
 refine .ai (.zn zg (.ai (.z zm (.z zm (.q hs (xI rfl rfl ak ⟨ak,ak⟩) (.zn zg (.seq (.ai (.z zm (.z zm (.z Az (.zn iJ (.bO rfl (fun hc12=>?_) (fun hc12=>?_))))))))))))))
 ·refine .region (.z zm (.z ib (.zn zg (nT (.ai (.z zm (.zn zg (.ret (Fin.bu Tryz.results140 rfl ?_)))))))))
  rw [if_pos hc12] at hfl
  exact ⟨by rw [hfl],hs⟩
 ·refine .skip (nT (.ai (.z zm (.zn zg (.ret (Fin.bu Tryz.results140 rfl ?_))))))
  rw [if_neg hc12,Int.sub_zero] at hfl
  exact ⟨by rw [hfl],hs⟩
theorem iB{l:Lns}{vt vs:Value}(hs:St H w σ)(h1:RFb H vt l.table)(hl:hZ l):
  Cl Tryz.prog 102 [.agg #[I l.length,I l.depth,vt,vs]] w fun u w'=>∃n b,u= .tuple #[I n,.bool b]∧xj l n b∧St H w' σ:=by
 obtain ⟨at_,ct,rfl⟩:=h1.shape
 have hm:=hl.many
 have hr:=fun {j i:Nat}=>wT hl.table (j:=j) (i:=i)
 refine Cl.o Tryz.func102 Tryz.ntmps102 ag1 ?_
 refine .ai (.bx hs fun b1 w hs=>?_)
 refine .z zg (.zn zg (.ai (.z (zfa dt) (.y hs (zld jF) (.z (cU cu) (.q hs (cJ (f:=[]) (c:=[_]) rfl rfl) (.o (.call Tryz.call157 rfl (ml (cap:=[Pt b1]) (p:=fun i=>l.length≤(fb0 l.table i).len) hs ak Tryz.call158 (fun w i hi hs=>nk hs h1 hi)) ?_))))))));rintro _ w ⟨k,rfl,hk,hlo,hhi,hs⟩
 have hbig:∀i<l.table.length,k≤i→l.length≤(fb0 l.table i).len:=fun i hi hki=>by
  by_cases e:i=k
  ·subst e;exact hhi hi
  ·have:=hr (show k<i by omega) hi
   have:=hhi ak
   omega
 have hsml:∀i<k,(fb0 l.table i).len<l.length:=fun i hi=>by
  by_cases e:i=k - 1
  ·subst e;have:=hlo ak;omega
  ·have:=hr (show i<k - 1 by omega) ak
   have:=hlo ak
   omega
 refine .zn zg (.seq (.block (.ai (.z zm (.z (zfa dt) (.y hs (zld jF) (.z (cU cu) (.z kd (.zn zg (.bO rfl (fun hc12=>?_) (fun hc12=>?_)))))))))))
 ·refine .ai (.z zg (.zn zg (.ret (rB (rT (Fin.jG Tryz.results102 rfl rfl ?_))))))
  exact ⟨_,_,rfl,.none (fun i hi h=>by have:=hsml i ak;omega) (fun i hi h0 h=>by have:=hsml i ak;omega),hs.out⟩
 ·refine .seq (.draw mix rfl hs fun w hs=>?_)
  refine .zw 0 rfl (zfa dt) ?_;refine .y 1 rfl hs jF ?_;refine .z 2 rfl zm ?_
  have hk':k<l.table.length:=by omega
  have hx:=ug hk'
  have hx1:=ug (l:=l.table) (i:=k - 1) ak
  refine .ixX (enc:=Fbd.c) (i:=3) hs rfl aE .none h1 rfl rfl cu cQ hx rfl ?_;intro b22 o22 hc22
  refine .zw 4 rfl (zfa dk) (.r (i:=5) hs rfl aE .none (aQ rfl af (hc22.get 0 rfl)) ?_)
  refine .zw 6 rfl (zfa jg) ?_;refine .y 7 rfl hs af ?_;refine .z 8 rfl kd ?_;refine .z 9 rfl zg ?_;refine .D hs ?_
  refine (.bO rfl (fun hc18=>?_) (fun hc18=>?_))
  ·refine .ai (.z (zfa dt) (.y hs (zld jF) (.z zm (.ixX (enc:=Fbd.c) hs h1 rfl rfl cu cQ hx rfl ?_))));intro b31 o31 hc31
   refine .z (zfa eX) (.q hs (aQ rfl af (hc31.get 1 rfl)) (.z zg (.zn zg (.ret (rB (rT (Fin.jG Tryz.results102 rfl rfl ?_)))))))
   exact ⟨_,_,rfl,.at_ hk' hc18,hs.out⟩
  ·refine .ai (.z zm (.z kd (.zn zg (.bO rfl (fun hc34=>?_) (fun hc34=>?_)))))
   ·refine .ai (.z zg (.zn zg (.ret (rB (rT (Fin.jG Tryz.results102 rfl rfl ?_))))))
    obtain rfl:k=0:=by omega
    exact ⟨_,_,rfl,.none (fun i hi h=>by
     by_cases e:i=0
     ·subst e;exact hc18 h
     ·have:=hr (show 0<i by omega) hi;have:=hbig 0 hk' ak;omega) (fun i hi h0 h=>by have:=hbig (i - 1) ak ak;omega),hs.out⟩
   ·refine .skip (nB (nT (.cut (fun fs w=>∃b5 b6,lZ fs ⟨69,[],[(6,Pt b6),(5,Pt b5),(1,Pt b1)]⟩∧St H w (.blk b6 (fb0 l.table k).c:: .blk b5 (fb0 l.table (k - 1)).c:: .blk b1 [I l.length,I l.depth,.slice at_ l.table.length ct,vs]::σ)) ?_ ?_)))
    ·refine .draw mix rfl hs fun w hs=>?_
     refine .zw 0 rfl (zfa dt) ?_;refine .y 1 rfl hs jF ?_;refine .z 2 rfl zm ?_;refine .z 3 rfl ib ?_
     refine .ixX (enc:=Fbd.c) (i:=4) hs rfl aE .none h1 rfl rfl cu cQ hx1 ak ?_;intro b41 o41 hc41
     refine .r (i:=5) hs rfl aE .none (bI (vs:=(fb0 l.table (k - 1)).c) rfl Tryz.isAgg134 cQ hc41) ?_
     refine .zw 6 rfl (zfa dt) ?_;refine .y 7 rfl hs jF ?_;refine .z 8 rfl zm ?_
     refine .ixX (enc:=Fbd.c) (i:=9) hs rfl aE .none h1 rfl rfl cu cQ hx rfl ?_;intro b46 o46 hc46
     refine .r (i:=10) hs rfl aE .none (bI (vs:=(fb0 l.table k).c) rfl Tryz.isAgg134 cQ hc46) ?_
     refine .e2 (i:=11) (j:=12) aE rfl rfl rfl rfl .none .none hs ?_ ?_
     ·refine .alloc hs iE rfl ?_;intro b5 w hs
      refine .go (.E 12 hs ?_)
      refine .alloc hs iE rfl ?_;intro b6 w hs
      refine .go (.E 13 hs ?_)
      refine .aH (vs:=(fb0 l.table (k - 1)).c) hs rfl rfl cQ ?_;intro w hs
      refine .go (.E 14 hs ?_)
      refine .aH (vs:=(fb0 l.table k).c) hs rfl rfl cQ ?_;intro w hs
      refine .go (.D hs ?_)
      exact nT ⟨b5,b6,bn,hs.sb⟩
     ·refine .alloc hs iE rfl ?_;intro b6 w hs
      refine .go (.E 11 hs ?_)
      refine .alloc hs iE rfl ?_;intro b5 w hs
      refine .go (.E 13 hs ?_)
      refine .aH (vs:=(fb0 l.table (k - 1)).c) hs rfl rfl cQ ?_;intro w hs
      refine .go (.E 14 hs ?_)
      refine .aH (vs:=(fb0 l.table k).c) hs rfl rfl cQ ?_;intro w hs
      refine .go (.D hs ?_)
      exact nT ⟨b5,b6,bn,hs.sb⟩
    ·rintro fs w ⟨b5,b6,hfs,hs⟩
     refine WE.sub ?_ hfs
     clear hfs
     change St _ _ (.blk b6 [I (fb0 l.table k).len,I (fb0 l.table k).least]:: .blk b5 [I (fb0 l.table (k - 1)).len,I (fb0 l.table (k - 1)).least]::_) at hs
     have h3:=hsml (k - 1) ak
     have h4:l.length<(fb0 l.table k).len:=by have:=hbig k hk' (Nat.le_refl _);omega
     have hX:=CB hl hk' h3 h4
     have a1:=hl.table (k - 1) ak
     have a2:=a1.len
     have a3:=a1.least
     have b2:=(hl.table k hk').len
     have b3:=(hl.table k hk').least
     have hL:=hl.length
     refine .seq (.draw mix rfl hs fun w hs=>?_)
     refine .zw 0 rfl (zfa eX) ?_;refine .y 1 rfl hs af ?_;refine .z 2 rfl (zfa eX) ?_;refine .y 3 rfl hs af ?_;refine .z 4 rfl ib ?_;refine .z 5 rfl (zfa jg) ?_;refine .y 6 rfl hs af ?_;refine .z 7 rfl (zfa dk) ?_;refine .y 8 rfl hs af ?_;refine .z 9 rfl ib ?_
     refine .zw 10 rfl kM ?_;refine .z 11 rfl (zfa dk) ?_;refine .y 12 rfl hs af ?_;refine .z 13 rfl (zfa dk) ?_;refine .y 14 rfl hs af ?_;refine .z 15 rfl ib ?_;refine .z 18 rfl (zfa eX) ?_;refine .y 19 rfl hs af ?_
     refine .E 16 hs ?_
     refine .call Tryz.call140 rfl (oK hs ak ak) ?_;rintro _ w ⟨rfl,hs⟩
     refine .go (.zw 17 rfl Di ?_);refine .z 20 rfl cq ?_;refine .z 21 rfl zg ?_;refine .z 22 rfl zg ?_;refine .D hs ?_
     refine .ret (Fin.jG Tryz.results102 rfl rfl ?_)
     have hmid:=xj.mid hk' ak h3 h4
     unfold Ac at hmid
     exact ⟨_,_,rfl,(by rw [show ∀a b:Int,-a+b=b - a from fun a b=>by omega];exact hmid),hs.out⟩
theorem py{l:Lns}{vt vs:Value}(hs:St H w σ)(h1:RFb H vt l.table)(h2:RSn H vs l.seasons):
  Cl Tryz.prog 37 [.agg #[I l.length,I l.depth,vt,vs]] w fun u w'=>∃n e,u= .tuple #[I n,I e]∧yD l n e∧St H w' σ:=by
 refine Cl.o Tryz.func37 Tryz.ntmps37 ag1 ?_
 refine .ai (.bx hs fun b1 w hs=>?_)
 refine .z zg (.zn zg (.seq (.ai (.y hs (zls [_,_,_,_] bp aK) (.o (.call Tryz.call19 rfl (fm hs h1 h2) ?_))))));rintro _ w ⟨e,rfl,he,hs⟩
 refine .zn zg (.ai (.z zm (.zn gg (.dO rfl (fun hc10=>?_) (fun hc10=>?_)))))
 ·refine .ai (.z zm (.z zg (.zn zg (.ret (rT (Fin.jG Tryz.results37 rfl rfl ?_))))))
  have h:=he.resolve_left fun h=>hc10 h.2
  exact ⟨_,_,rfl,by rw [h.2];exact .lines h.1,hs.out⟩
 ·refine .skip (nT (.ai (.y hs (zls [_,_,_,_] bp aK) ?_)))
  have hok:hZ l:=(he.resolve_right fun h=>by omega).1
  refine .o (.call Tryz.call102 rfl (iB hs h1 hok) ?_);rintro _ w ⟨n,b,rfl,hF,hs⟩
  refine .z zm (.z zex (.z zex (.z zg (.zn zg (.seq (.ai (.z zm (.zn gP (.cond rfl (fun hc18=>?_) (fun hc18=>?_))))))))))
  ·refine .ai (.z zg (.zn zg (.ret (rT (Fin.jG Tryz.results37 rfl rfl ?_)))))
   obtain rfl:b=false:=by simpa using hc18
   exact ⟨_,_,rfl,.none hok hF,hs.out⟩
  ·refine .skip (nT (.ai (.z zm (.z zg (.zn zg (.ret (Fin.jG Tryz.results37 rfl rfl ?_)))))))
   obtain rfl:b=true:=by simpa using hc18
   exact ⟨_,_,rfl,.ok hok hF,hs.out⟩
theorem np{d:Int}(hs:St H w σ)(h:0≤d):Cl Tryz.prog 106 [I d] w fun v w'=>v=I (1+d%365)∧St H w' σ:=by
 have e:d.tmod 365=d%365:=Int.tmod_eq_emod_of_nonneg h
 refine Cl.o Tryz.func106 Tryz.ntmps106 ag1 ?_
 refine .ai (.zn zg (.ai (.z zm (.z Az ?_))))
 rw [e]
 refine .z cq (.zn zg (.ret (Fin.bu Tryz.results106 rfl ?_)))
 exact ⟨rfl,hs⟩
theorem uW{s:Ssn}{d:Int}(hs:St H w σ):Cl Tryz.prog 159 [.agg #[I s.zone,I s.fr,I s.to,I s.extra],I d] w fun v w'=>v= .bool (decide (yB s d))∧St H w' σ:=by
 refine Cl.o Tryz.func159 Tryz.ntmps159 ag2 ?_
 refine .ai (.bx hs fun b2 w hs=>?_)
 refine .zn zg (.seq (.ai (.z (zfa iQ) (.y hs (zld af) (.z (zfa iP) (.y hs (zld af) (.zn pQ (.bO rfl (fun hc9=>?_) (fun hc9=>?_)))))))))
 ·refine .ai (.z zm (.z (zfa iQ) (.y hs (zld af) (.z yM (.z zm (.kF (t':=14) rfl (fun hb14=>?_) (fun hb14=>?_)))))))
  ·refine .Fs 4 4 false (.z zpT (.zn zg (.ret (rT (Fin.bu Tryz.results159 rfl (⟨?_,hs.out⟩))))))
   congr 1
   have e:¬s.fr≤s.to:=by omega
   simp only [yB,if_neg e]
   symm
   simp [*]
  ·refine .T (.z zm (.T (.z (zfa iP) (.T (.y hs (zld af) (.T (.z uJ (.z zpF (.zn zg (.ret (rT (Fin.bu Tryz.results159 rfl (⟨?_,hs.out⟩)))))))))))))
   congr 1
   have e:¬s.fr≤s.to:=by omega
   simp only [yB,if_neg e]
   simp [*]
 ·refine .skip (nT (.ai (.z zm (.z (zfa iQ) (.y hs (zld af) (.z (zfa iP) (.y hs (zld af) (.o (.call dM rfl (bE hs) ?_)))))))));rintro _ w ⟨rfl,hs⟩
  refine .zn zg (.ret (Fin.bu Tryz.results159 rfl (⟨?_,hs.out⟩)))
  congr 1
  have e:s.fr≤s.to:=by omega
  simp only [yB,if_pos e]
theorem nm{l:Lns}{vt vs:Value}{z d:Int}(hs:St H w σ)(h2:RSn H vs l.seasons)(hl:hZ l):
  Cl Tryz.prog 105 [.agg #[I l.length,I l.depth,vt,vs],I z,I d] w fun v w'=>v=I (lW l.seasons z d)∧St H w' σ:=by
 obtain ⟨as_,cs,rfl⟩:=h2.shape
 have hm:=hl.most
 refine Cl.o Tryz.func105 Tryz.ntmps105 ag3 ?_
 refine .ai (.bx hs fun b3 w hs=>?_)
 refine .zn zg (.ai (.zn zg (.seq (.ai (.z (zfa ie) (.y hs (zld Tryz.isAgg23) (.z (cU fC) (.zn zm (.for (N:=l.seasons.length) (J:=fun k fr w=>fr=[(7,I (lW (l.seasons.take k) z d)),(11,.slice as_ l.seasons.length cs),(1,I z),(2,I d)]∧St H w σ) ak ?_ ?_ ?_)))))))))
 ·exact .mk ⟨rfl,hs.out⟩
 ·rintro k fr w hk ⟨rfl,hs⟩
  obtain ⟨s,hx⟩:=nth hk
  have hE:=uh (l.seasons.take k) s z d
  rw [←cZ hx] at hE
  refine .block (.ai (.ixX (enc:=Ssn.c) hs h2 rfl rfl fC iY hx df ?_));intro b15 o15 hc15
  refine .q hs (bI (vs:=(Ssn.c s)) rfl Tryz.isAgg104 iY hc15) (.o (.alloc hs xt rfl fun b9 w hs=>?_))
  refine .o (.aH (vs:=s.c) hs rfl rfl iY fun w hs=>?_)
  change St _ _ (.blk b9 [I s.zone,I s.fr,I s.to,I s.extra]::_) at hs
  refine .nil (.ai (.z (zfa nF) (.y hs (zld af) (.z zm (.z kd (.z zm (.kF (t':=21) rfl (fun hb21=>?_) (fun hb21=>?_))))))))
  ·refine .T (.y hs (zls [_,_,_,_] Tryz.isAgg104 iY) (.T (.z zm (.T (.o (.call Tryz.call159 rfl (uW (s:=s) hs) ?_))))));rintro _ w ⟨rfl,hs⟩
   refine .zn zpT (.cond rfl (fun hc25=>?_) (fun hc25=>?_))
   ·refine .region (.z zm (.z (zfa nE) (.y hs (zld af) (.z Bk (.zn zg (nB (nT ?_)))))))
    rw [if_pos ⟨by assumption,by simpa using hc25⟩] at hE
    exact .mk ⟨by rw [hE],hs.out⟩
   ·refine .skip (nB (nT ?_))
    rw [if_neg (fun h=>of_decide_eq_false hc25 h.2)] at hE
    exact .mk ⟨by rw [hE],hs.out⟩
  ·refine .Fs 3 4 true (.zn zpF (.cF (.skip (nB (nT ?_)))))
   rw [if_neg (fun h=>by have:=h.1;contradiction)] at hE
   exact .mk ⟨by rw [hE],hs.out⟩
 ·rintro fr w ⟨rfl,hs⟩
  rw [List.take_length]
  refine nT (.ai (.z zm (.zn zg (.ret (Fin.bu Tryz.results105 rfl ?_)))))
  exact ⟨rfl,hs⟩
theorem qk{l:Lns}{vt vs:Value}{z d:Int}(hs:St H w σ)(h1:RFb H vt l.table)(h2:RSn H vs l.seasons):
  Cl Tryz.prog 104 [.agg #[I l.length,I l.depth,vt,vs],I z,I d] w fun v w'=>∃e,v=I e∧Be l z d e∧St H w' σ:=by
 refine Cl.o Tryz.func104 Tryz.ntmps104 ag3 ?_
 refine .ai (.bx hs fun b3 w hs=>?_)
 refine .zn zg (.seq (.ai (.y hs (zls [_,_,_,_] bp aK) (.o (.call Tryz.call19 rfl (fm hs h1 h2) ?_)))));rintro _ w ⟨e,rfl,he,hs⟩
 refine .zn zg (.ai (.z zm (.zn gg (.dO rfl (fun hc11=>?_) (fun hc11=>?_)))))
 ·refine .ai (.z zm (.zn zg (.ret (rT (Fin.bu Tryz.results104 rfl ?_)))))
  have h:=he.resolve_left fun h=>hc11 h.2
  exact ⟨_,rfl,by rw [h.2];exact .lines h.1,hs.out⟩
 ·refine .skip (nT (.seq (.block (.ai ?_))))
  have hok:hZ l:=(he.resolve_right fun h=>by omega).1
  refine .z zm (.o (.call Tryz.call73 rfl (jJ hs) ?_));rintro _ w ⟨rfl,hs⟩
  refine .z gP (.zn zg (.cond rfl (fun hc13=>?_) (fun hc13=>?_)))
  ·refine .ai (.zn zg (.ret (rB (rT (Fin.bu Tryz.results104 rfl ?_)))))
   exact ⟨_,rfl,.zone hok (by simp at hc13;omega),hs.out⟩
  ·refine .ai (.z zm (.o (.call dM rfl (bE hs) ?_)));rintro _ w ⟨rfl,hs⟩
   refine .z gP (.zn zg (.cond rfl (fun hc17=>?_) (fun hc17=>?_)))
   ·refine .ai (.zn zg (.ret (rB (rT (Fin.bu Tryz.results104 rfl ?_)))))
    exact ⟨_,rfl,.day hok (by simpa using hc13) (by simp at hc17;omega),hs.out⟩
   ·refine .skip (nB (nT (.ai (.zn zg (.ret (Fin.bu Tryz.results104 rfl ?_))))))
    exact ⟨_,rfl,.ok hok (by simpa using hc13) (by simpa using hc17),hs.out⟩
theorem sE{l:Lns}{vt vs:Value}{z d:Int}(hs:St H w σ)(h1:RFb H vt l.table)(h2:RSn H vs l.seasons):
  Cl Tryz.prog 41 [.agg #[I l.length,I l.depth,vt,vs],I z,I d] w fun u w'=>∃n e,u= .tuple #[I n,I e]∧Fv l z d n e∧St H w' σ:=by
 refine Cl.o Tryz.func41 Tryz.ntmps41 ag3 ?_
 refine .ai (.bx hs fun b3 w hs=>?_)
 refine .z zg (.zn zg (.seq (.ai (.y hs (zls [_,_,_,_] bp aK) (.z zm (.z zm (.o (.call Tryz.call104 rfl (qk hs h1 h2) ?_))))))));rintro _ w ⟨e,rfl,he,hs⟩
 refine .zn zg (.ai (.z zm (.zn gg (.dO rfl (fun hc16=>?_) (fun hc16=>?_)))))
 ·refine .ai (.z zm (.z zg (.zn zg (.ret (rT (Fin.jG Tryz.results41 rfl rfl ?_))))))
  exact ⟨_,_,rfl,.bad he hc16,hs.out⟩
 ·refine .skip (nT (.ai (.y hs (zls [_,_,_,_] bp aK) ?_)))
  obtain rfl:e=0:=by omega
  obtain ⟨hok,hz,hd⟩:=he.zero
  refine .o (.call Tryz.call102 rfl (iB hs h1 hok) ?_);rintro _ w ⟨n,b,rfl,hF,hs⟩
  refine .z zm (.z zex (.z zex (.z zg (.zn zg (.seq (.ai (.z zm (.zn gP (.cond rfl (fun hc24=>?_) (fun hc24=>?_))))))))))
  ·refine .ai (.z zg (.zn zg (.ret (rT (Fin.jG Tryz.results41 rfl rfl ?_)))))
   obtain rfl:b=false:=by simpa using hc24
   exact ⟨_,_,rfl,.none he hF,hs.out⟩
  ·refine .skip (nT (.seq (.draw mix rfl hs fun w hs=>?_)))
   obtain rfl:b=true:=by simpa using hc24
   have hn:=hF.bd hok
   have hdp:=hok.depth
   have hE:=yn hok.seasons z (1+d%365)
   refine .zw 0 rfl (zfa lr) ?_;refine .y 1 rfl hs af ?_;refine .z 2 rfl zm ?_;refine .z 3 rfl ib ?_;refine .ys 4 rfl hs [_,_,_,_] bp aK ?_;refine .z 5 rfl zm ?_;refine .z 6 rfl zm ?_
   refine .E 7 hs ?_
   refine .call Tryz.call106 rfl (np hs hd.1) ?_;rintro _ w ⟨rfl,hs⟩
   refine .go (.E 8 hs ?_)
   refine .call Tryz.call105 rfl (nm hs h2 hok) ?_;rintro _ w ⟨rfl,hs⟩
   refine .go (.zw 9 rfl ib ?_);refine .z 10 rfl zg ?_;refine .z 11 rfl zg ?_;refine .D hs ?_
   refine .ret (Fin.jG Tryz.results41 rfl rfl ?_)
   exact ⟨_,_,rfl,.ok he hF,hs.out⟩
theorem rl{s:Spc}{vst vwa:Value}{h:Int}{b c i:Nat}(hs:St H w (.blk c [I h]:: .blk b [I s.id,I s.src,vst,vwa,I s.al,I s.up]::σ))(h2:RI H vwa s.wa)(hi:i<s.wa.length)(hok:eZ s):
  Cl Tryz.prog 166 [I (i:Int),Pt b,Pt c] w fun u w'=>∃bb:Bool,u= .bool bb∧(bb=true↔h<gi s.wa i - gi s.wa 0)∧St H w' (.blk c [I h]:: .blk b [I s.id,I s.src,vst,vwa,I s.al,I s.up]::σ):=by
 obtain ⟨awa,cwa,rfl⟩:=RI.shape h2
 have b1:=hok.wa.bd hi
 have b2:=hok.wa.bd (i:=0) ak
 refine Cl.o Tryz.func166 Tryz.ntmps166 ag3 ?_
 refine .ai (.zn zg (.seq (.draw mix rfl hs fun w hs=>?_)))
 refine .zw 0 rfl (zfa bg) ?_;refine .y 1 rfl hs an ?_;refine .z 2 rfl zm ?_
 refine .ixX (enc:=fun x=>[I x]) (i:=3) hs rfl aE .none h2 rfl rfl ae aj (bB (l:=s.wa) (i:=i) ak) df ?_;intro b8 o8 hc8;replace hc8:=bK.one hc8
 refine .r (i:=4) hs rfl aE .none (aQ rfl af hc8) ?_
 refine .zw 5 rfl (zfa bg) ?_;refine .y 6 rfl hs an ?_
 refine .ixX (enc:=fun x=>[I x]) (i:=7) hs rfl aE .none h2 rfl rfl ae aj (bB (l:=s.wa) (i:=0) ak) df ?_;intro b12 o12 hc12;replace hc12:=bK.one hc12
 refine .r (i:=8) hs rfl aE .none (aQ rfl af hc12) ?_
 refine .zw 9 rfl ib ?_;refine .y 10 rfl hs af ?_;refine .z 11 rfl pQ ?_;refine .z 12 rfl zg ?_;refine .D hs ?_
 refine .ret (Fin.bu Tryz.results166 rfl ?_)
 exact ⟨_,rfl,bV,hs⟩
theorem tT{s:Spc}{vst vwa:Value}{h:Int}(hs:St H w σ)(h2:RI H vwa s.wa)(hok:eZ s):
  Cl Tryz.prog 112 [.agg #[I s.id,I s.src,vst,vwa,I s.al,I s.up],I h] w fun u w'=>∃k,u=I k∧EX s.wa h k∧St H w' σ:=by
 obtain ⟨awa,cwa,rfl⟩:=RI.shape h2
 have hm:=hok.wa.many
 have hr:=fun {i j:Nat}=>hok.wa.le (i:=i) (j:=j)
 refine Cl.o Tryz.func112 Tryz.ntmps112 ag2 ?_
 refine .ai (.bx hs fun b2 w hs=>?_)
 refine .bx hs fun b3 w hs=>?_
 refine .zn zg (.ai (.z (zfa bg) (.y hs (zld an) (.z (cU ae) (.q hs (cJ (f:=[]) (c:=[_,_]) rfl rfl) (.o (.call Tryz.call157 rfl (ml (cap:=[Pt b2,Pt b3]) (p:=fun i=>h<gi s.wa i - gi s.wa 0) hs ak Tryz.call166 (fun w i hi hs=>rl hs h2 hi hok)) ?_)))))));rintro _ w ⟨k,rfl,hk,hlo,hhi,hs⟩
 refine .z ib (.zn zg (.ret (Fin.bu Tryz.results112 rfl (⟨_,rfl,⟨ak,ak,fun i hi=>⟨fun g=>?_,fun g=>?_⟩⟩,hs.out⟩))))
 ·by_cases e:(i:Int)≤k - 1
  ·exact e
  ·have h3:=hhi ak
   have:=hr (show k≤i by omega) hi;omega
 ·have h3:=hlo ak
  have:=hr (show i≤k - 1 by omega) ak;omega
end Go.Proofs.YteajddicacjkhaaGreat
