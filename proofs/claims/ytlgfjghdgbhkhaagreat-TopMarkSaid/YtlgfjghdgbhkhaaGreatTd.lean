/-
  Texts of these claims, joined: Zg Zh Zi Zj Zk Zl Zm Zn Zo Zp Zr Zv Zx Zy Zz Na Nf Ng Ni Nj No Nq Ns Nt Nv Oc Od Oe.
-/
import Derived.Test.YtlgfjghdgbhkhaaGreatTc
namespace Go.Proofs.YtlgfjghdgbhkhaaGreat
open Go.MW Tryz
variable{H:bB}{σ:List Ent}{a0 a1 a2 x most a hi lo j f e known fl id number:Int}{l:Lns}{ls:List Lim}{g b k b1 bf bt bl cl i bm bc bn:Nat}{cap sp:List Value}{s:Srv}{xs lf ws bs L X Y cn ks days:List Int}{en:Ent}{ts:List TD}{vl vt vd vp vw vb vx v1 v2 vr vc d vh vs v5 v4 fu b' tap dn b2 c2 d2:Value}{m:Rng}{t:TD}{rows:List (List Int)}{high th:Bool}{kd:Int→Int}
theorem iF{w:World}{x0 x1 x2 x3 x4 x5 x6 x7 x8:Value}{b by_:Int}(hs:St H w (.blk bm [x0,x1,x2,x3,x4,x5,x6,x7,x8,vl]::en::σ))(hO:bM 4 vl (iq ls) en)(hl:ls.length≤100000):
  aaA 182 [Pt bm,I a,I b,I hi,I lo,I by_] w fun _ w'=>∃vf iY,bM 4 vf (iq (ls++two a b hi lo by_)) iY∧St H w' (.blk bm [x0,x1,x2,x3,x4,x5,x6,x7,x8,vf]::iY::σ):=by
 obtain ⟨al,ll,cl,rfl,h⟩:=hO.shape;refine Cl.of func182 rfl ntmps182 br (dV (k:=0) rfl (dV (k:=1) rfl (dV (k:=2) rfl (dV (k:=3) rfl (dV (k:=4) rfl (dV (k:=5) rfl (A4))))))) (.region (.z zm (.z zm (.z znc (.z (zfa kJ) (.y hs (zld ft) (.z zm (.z zm (.z zm (.z zm (.z (zbd [_,_,_,_] dX) (.z zm (.z zm (.z zm (.z zm (.z (zbd [_,_,_,_] dX) (.o (.buildSlice (cells:=iq (two a b hi lo by_)) hs fc rfl au fun BO w hs=>?_))))))))))))))))));refine .o (.append (ys:=iq (two a b hi lo by_)) hs cj rfl rfl hO (.own .here rfl rfl) (mZ _) (fun l h=>by rw [fj] at h;omega) ?_);intro v28 en28 w eh hs;rw [←jq] at eh;obtain ⟨a28,l28,c28,rfl,h28⟩:=eh.shape;refine .z znc (.z (zfa kJ) (.o (.store hs rfl rfl sizeOf110 fun w hs=>?_)));exact .nil (Fin.yg results182 ⟨_,_,eh,hs.sb⟩)
theorem mP{w:World}{s:Spc}{vst vwa x6 x7 x8:Value}(hs:St H w σ)(hm:Mem σ (.blk bm [I s.id,I s.src,vst,vwa,I s.al,I s.up,x6,x7,x8,vl]))(h1:RI H vst s.st)(h2:RI H vwa s.wa)(hb:s.st.length≤1000∧s.wa.length≤1000)(hj: -1≤j∧j≤1000):
  aaA 184 [Pt bm,I j] w fun u w'=>u=I ((s.many:Int)+1+j)∧St H w' σ:=by
 have Iw:s.many≤1000000:=Nat.mul_le_mul hb.1 hb.2;refine Cl.o func184 ntmps184 ag2 ?_;refine .ae (.zn zg (.ae (.z zm (.z znc (.z (zfa dq) (.z (zfa bj) (.q hs (jA (vs:=[I s.id,I s.src,vst,vwa,I s.al,I s.up]) rfl bu aI hm) (.o (.call call112 rfl (oq (s:=s) hs h1 h2 hb) ?_)))))))));rintro _ w ⟨rfl,hs⟩;exact .z cz (.z zm (.z cz (.zn zg (.ret (Fin.bp results184 rfl ⟨rfl,hs⟩)))))
theorem fI{s:Spc}(h:fm s):s.st.length≤1000∧s.wa.length≤1000∧0<s.wa.length∧s.many≤63:=by
 have h1:=h.st.many;have h2:=h.wa.many;have h3:=h.wa.two;have:s.many≤9*7:=Nat.mul_le_mul h1 h2;omega
theorem sY{w:World}{vst vwa:Value}(hs:St H w (.blk bm [I s.sp.id,I s.sp.src,vst,vwa,I s.sp.al,I s.sp.up,vr,vc,vt,vl]::en::σ))(hk:MkK H s ts vst vwa vr vc vt)(hO:bM 4 vl (iq ls) en)(hl:ls.length≤10000)(bh:fm s.sp):
  aaA 106 [Pt bm] w fun _ w'=>∃H1 vf iY,HLe H H1∧bM 4 vf (iq (ls++eG (uB s.sp) s.sp.wa.length s.sp.st.length)) iY∧St H1 w' (.blk bm [I s.sp.id,I s.sp.src,vst,vwa,I s.sp.al,I s.sp.up,vr,vc,vt,vf]::iY::σ):=by
 have rk:=fI bh;refine Cl.o func106 ntmps106 ag1 ?_;refine .ae (.bx hs fun b1 w hs=>?_);refine .nil (.ae (.y hs (zld P4) (.z znc (.z (zfa dq) (.z (zfa bj) (.y hs (zls [_,_,_,_,_,_] bu aI) (.o (.call call44 rfl (ff (s:=s.sp) hs hk.st hk.wa ⟨aj,aj⟩) ?_))))))));rintro _ w ⟨H1,ba,aq,rfl,oG,hs⟩;refine .nil (.block ?_);refine .rangeFunc (gf:=92) (cap:=[Pt ba]) (xs:=Am s.sp) (σb:=[.blk bm [I s.sp.id,I s.sp.src,vst,vwa,I s.sp.al,I s.sp.up,vr,vc,vt,vl],en,.blk b1 [Pt bm]]) (σf:=σ) (hs.sb) trivial rfl oG call92 (fun x hx=>by
   simp only [Am,List.mem_map] at hx;obtain ⟨j,_,rfl⟩:=hx;rfl) rfl
  (I:=fun p H' σb=>∃vl en,σb=[.blk bm [I s.sp.id,I s.sp.src,vst,vwa,I s.sp.al,I s.sp.up,vr,vc,vt,vl],en,.blk b1 [Pt bm]]∧bM 4 vl (iq (ls++ub (uB s.sp) s.sp.wa.length p)) en) (Ix:=fun _ _ _=>False)
  (fun j _ _ σ g1 g2=>g2) (fun _ _ _ _ _ h=>h) ⟨vl,en,rfl,by rw [rb,List.append_nil];exact hO⟩ ?_ ?_ (fun D c H' σb w _ h _=>h.elim)
 ·rintro ly p hp H2 wH wG w aO ⟨vl,en,rfl,hO⟩ hs ⟨rr,GV⟩;have GW:p<s.sp.many:=by rw [dJ] at hp;exact hp
  have pC:=re (uB s.sp) (p:=p) rk.2.2.1;have Jn:=lO (oW s.sp) rk.2.2.1 p;have gM:p/s.sp.wa.length<s.sp.st.length:=Nat.div_lt_of_lt_mul (by rw [Nat.mul_comm];exact GW);have KY:=Nat.mod_lt p rk.2.2.1;have Q9:=Nat.div_add_mod p s.sp.wa.length;rw [Nat.mul_comm] at Q9;have hu:(s.sp.u (p/s.sp.wa.length) (p%s.sp.wa.length):Int)=(p:Int)+1:=by unfold Spc.u;omega
  rw [nI hp];obtain ⟨al,ll,cl,rfl,Ah⟩:=hO.shape;generalize p/s.sp.wa.length=i at*;generalize p%s.sp.wa.length=k at*;have Jp:=hk.mono (aq.trans aO);refine .region (.o (.alloc hs pb rfl fun b2 w hs=>?_));refine .o (.aD (vs:=[_,_,_]) hs rfl rfl Ba fun w hs=>?_);refine .nil (nT ⟨H2,[.blk b2 [I (i:Int),I (k:Int),I ((p+1:Nat):Int)],.blk bm [I s.sp.id,I s.sp.src,vst,vwa,I s.sp.al,I s.sp.up,vr,vc,vt,.slice al ll cl],en,.blk b1 [Pt bm]],HLe.refl _,hs,?_⟩);rintro w nJ - hs;refine .block (.draw mix rfl hs fun w hs=>?_);refine .y 0 rfl hs P4 ?_;refine .z 1 rfl (zfa dZ) ?_;refine .y 2 rfl hs ai ?_;refine .y 3 rfl hs P4 ?_;refine .z 4 rfl znc ?_;refine .z 5 rfl (zfa dq) ?_;refine .z 6 rfl (zfa bj) ?_;refine .z 7 rfl (zfa db) ?_;refine .y 8 rfl hs ai ?_;refine .E 9 hs ?_;refine .call call182 rfl (iF (ls:=ls++ub (uB s.sp) s.sp.wa.length p) (hs.sb:St H2 w (.blk bm _::en:: .blk b1 _::nJ)) hO (by rw [List.length_append];omega)) ?_;rintro _ w ⟨vl3,en3,ld,hs⟩;rw [show two 0 ((p+1:Nat):Int) 20000 0 s.sp.src=uB s.sp i k by unfold uB;rw [hu];rfl,List.append_assoc,←pC] at ld;exact .go (.D hs (nB ⟨H2,_,HLe.refl _,hs,_,_,rfl,ld⟩))
 ·rintro D H2 wH w aO ⟨vl,en,rfl,hO⟩ hs;rw [dJ,show s.sp.many=s.sp.st.length*s.sp.wa.length from rfl,tZ _ rk.2.2.1] at hO;exact nB (Fin.VH [D] [] hs fun w hs=>⟨_,results0 results106,H2,vl,en,aq.trans aO,hO,(hs.sb:St H2 w (.blk bm _::en::σ))⟩)
theorem xu{w:World}{vst vwa:Value}(hs:St H w (.blk bm [I s.sp.id,I s.sp.src,vst,vwa,I s.sp.al,I s.sp.up,vr,vc,vt,vl]::en::σ))(hk:MkK H s ts vst vwa vr vc vt)(hO:bM 4 vl (iq ls) en)(hl:ls.length≤10000)(bh:fm s.sp):
  aaA 107 [Pt bm] w fun _ w'=>∃H1 vf iY,HLe H H1∧bM 4 vf (iq (ls++eG (alL s.sp) s.sp.wa.length s.sp.st.length)) iY∧St H1 w' (.blk bm [I s.sp.id,I s.sp.src,vst,vwa,I s.sp.al,I s.sp.up,vr,vc,vt,vf]::iY::σ):=by
 have rk:=fI bh;obtain ⟨ast,cst,rfl⟩:=RI.shape hk.st;obtain ⟨awa,cwa,rfl⟩:=RI.shape hk.wa;refine Cl.o func107 ntmps107 ag1 ?_;refine .ae (.bx hs fun b1 w hs=>?_);refine .nil (.ae (.y hs (zld P4) (.z znc (.z (zfa dq) (.z (zfa bj) (.y hs (zls [_,_,_,_,_,_] bu aI) (.o (.alloc hs i6 rfl fun b2 w hs=>?_))))))));refine .o (.aD (vs:=[_,_,_,_,_,_]) hs rfl rfl aI fun w hs=>?_);refine .nil (.ae (.y hs (zls [_,_,_,_,_,_] bu aI) (.o (.call call44 rfl (ff (s:=s.sp) hs hk.st hk.wa ⟨aj,aj⟩) ?_))));rintro _ w ⟨H1,ba,aq,rfl,oG,hs⟩;refine .nil (.block ?_);refine .rangeFunc (gf:=92) (cap:=[Pt ba]) (xs:=Am s.sp) (σb:=[.blk bm [I s.sp.id,I s.sp.src,.slice ast s.sp.st.length cst,.slice awa s.sp.wa.length cwa,I s.sp.al,I s.sp.up,vr,vc,vt,vl],en,.blk b1 [Pt bm],.blk b2 [I s.sp.id,I s.sp.src,.slice ast s.sp.st.length cst,.slice awa s.sp.wa.length cwa,I s.sp.al,I s.sp.up]]) (σf:=σ) (hs.sb) trivial rfl oG call92 (fun x hx=>by
   simp only [Am,List.mem_map] at hx;obtain ⟨j,_,rfl⟩:=hx;rfl) rfl
  (I:=fun p H' σb=>∃vl en,σb=[.blk bm [I s.sp.id,I s.sp.src,.slice ast s.sp.st.length cst,.slice awa s.sp.wa.length cwa,I s.sp.al,I s.sp.up,vr,vc,vt,vl],en,.blk b1 [Pt bm],.blk b2 [I s.sp.id,I s.sp.src,.slice ast s.sp.st.length cst,.slice awa s.sp.wa.length cwa,I s.sp.al,I s.sp.up]]∧bM 4 vl (iq (ls++ub (alL s.sp) s.sp.wa.length p)) en) (Ix:=fun _ _ _=>False)
  (fun j _ _ σ g1 g2=>g2) (fun _ _ _ _ _ h=>h) ⟨vl,en,rfl,by rw [rb,List.append_nil];exact hO⟩ ?_ ?_ (fun D c H' σb w _ h _=>h.elim)
 ·rintro ly p hp H2 wH wG w aO ⟨vl,en,rfl,hO⟩ hs ⟨rr,GV⟩;have GW:p<s.sp.many:=by rw [dJ] at hp;exact hp
  have pC:=re (alL s.sp) (p:=p) rk.2.2.1;have Jn:=lO (tu s.sp) rk.2.2.1 p;have gM:p/s.sp.wa.length<s.sp.st.length:=Nat.div_lt_of_lt_mul (by rw [Nat.mul_comm];exact GW);have KY:=Nat.mod_lt p rk.2.2.1;have Q9:=Nat.div_add_mod p s.sp.wa.length;rw [Nat.mul_comm] at Q9;have hu:(s.sp.u (p/s.sp.wa.length) (p%s.sp.wa.length):Int)=(p:Int)+1:=by unfold Spc.u;omega
  rw [nI hp];obtain ⟨al,ll,cl,rfl,Ah⟩:=hO.shape;generalize p/s.sp.wa.length=i at*;generalize p%s.sp.wa.length=k at*;have Jp:=hk.mono (aq.trans aO);refine .region (.o (.alloc hs pb rfl fun b3 w hs=>?_));refine .o (.aD (vs:=[_,_,_]) hs rfl rfl Ba fun w hs=>?_);refine .nil (nT ⟨H2,[.blk b3 [I (i:Int),I (k:Int),I ((p+1:Nat):Int)],.blk bm [I s.sp.id,I s.sp.src,.slice ast s.sp.st.length cst,.slice awa s.sp.wa.length cwa,I s.sp.al,I s.sp.up,vr,vc,vt,.slice al ll cl],en,.blk b1 [Pt bm],.blk b2 [I s.sp.id,I s.sp.src,.slice ast s.sp.st.length cst,.slice awa s.sp.wa.length cwa,I s.sp.al,I s.sp.up]],HLe.refl _,hs,?_⟩);rintro w nJ - hs;refine .block (.ae (.z (zfa cD) (.y hs (zld ai) (.z cz (.z (zfa bw) (.y hs (zld an) (.z (cJ af) (.zn jt (.bX rfl (fun mB=>?_) (fun mB=>?_))))))))))
  ·refine .seq (.draw mix rfl hs fun w hs=>?_);refine .zw 0 rfl (zfa eQ) ?_;refine .z 1 rfl (zfa oU) ?_;refine .y 2 rfl hs ai ?_;refine .z 3 rfl (zfa bw) ?_;refine .y 4 rfl hs an ?_;refine .z 5 rfl (zfa cD) ?_;refine .y 6 rfl hs ai ?_;refine .z 7 rfl cz ?_;have QZ:=bh.st.rise i aj;have NN:=bh.st.bd (i:=i) aj;have Pe:=bh.st.bd (i:=i+1) aj;have En:=bh.al;refine .ixX (enc:=fun x=>[I x]) (i:=8) hs rfl au .none Jp.st rfl rfl af ak (bG (l:=s.sp.st) (i:=(i+1)) aj) dD ?_;intro Sy o28 lP;replace lP:=bE.one lP;refine .r (i:=9) hs rfl au .none (aP rfl ai lP) ?_;refine .zw 10 rfl (zfa bw) ?_;refine .y 11 rfl hs an ?_;refine .z 12 rfl (zfa cD) ?_;refine .y 13 rfl hs ai ?_;refine .ixX (enc:=fun x=>[I x]) (i:=14) hs rfl au .none Jp.st rfl rfl af ak (bG (l:=s.sp.st) (i:=i) aj) dD ?_;intro RK o34 ma;replace ma:=bE.one ma;refine .r (i:=15) hs rfl au .none (aP rfl ai ma) ?_;refine .zw 16 rfl iw (.E 17 hs ?_);refine .call call183 rfl (ot hs aj aj) ?_;rintro _ w ⟨rfl,hs⟩;refine .go (.zw 18 rfl zg ?_);refine .D hs ?_;refine .region (.y hs (zld P4) (.z (zfa dZ) (.y hs (zld ai) (.z (zfa dZ) (.y hs (zld ai) (.z (zfa bg) (.y hs (zld an) (.z (cJ af) (.z cz (.z zm (.z zm (.z (zfa db) (.y hs (zld ai) (.o (.call call182 rfl (iF (ls:=ls++ub (alL s.sp) s.sp.wa.length p) (hs.sb:St H2 w (.blk bm _::en:: .blk b1 _:: .blk b2 _::nJ)) hO (by rw [List.length_append];omega)) ?_)))))))))))))));rintro _ w ⟨vl3,en3,ld,hs⟩;have KI:(s.sp.u (i+1) k:Int)=((p+1:Nat):Int)+(s.sp.wa.length:Int):=by unfold Spc.u at hu ⊢;rw [Nat.add_mul];omega
   rw [show two ((p+1:Nat):Int) (((p+1:Nat):Int)+(s.sp.wa.length:Int)) (mb s.sp.al (gi s.sp.st (i+1) - gi s.sp.st i)) (mb s.sp.al (gi s.sp.st (i+1) - gi s.sp.st i)) s.sp.src=alL s.sp i k by unfold alL;rw [if_pos aj,hu,KI];rfl,List.append_assoc,←pC] at ld;exact .nil (nB ⟨H2,_,HLe.refl _,hs,_,_,rfl,ld⟩)
  ·refine .skip (nB ?_);rw [show alL s.sp i k=[] by unfold alL;rw [if_neg aj],List.append_nil] at pC;exact ⟨H2,_,HLe.refl _,(hs.sb:St H2 w (.blk bm _::en:: .blk b1 _:: .blk b2 _::nJ)),_,_,rfl,by rw [pC];exact hO⟩
 ·rintro D H2 wH w aO ⟨vl,en,rfl,hO⟩ hs;rw [dJ,show s.sp.many=s.sp.st.length*s.sp.wa.length from rfl,tZ _ rk.2.2.1] at hO;exact nB (Fin.VH [D] [] hs fun w hs=>⟨_,results0 results107,H2,vl,en,aq.trans aO,hO,(hs.sb:St H2 w (.blk bm _::en::σ))⟩)
theorem Ck{w:World}{vst vwa:Value}(hs:St H w (.blk bm [I s.sp.id,I s.sp.src,vst,vwa,I s.sp.al,I s.sp.up,vr,vc,vt,vl]::en::σ))(hk:MkK H s ts vst vwa vr vc vt)(hO:bM 4 vl (iq ls) en)(hl:ls.length≤10000)(bh:fm s.sp):
  aaA 108 [Pt bm] w fun _ w'=>∃H1 vf iY,HLe H H1∧bM 4 vf (iq (ls++eG (upL s.sp) s.sp.wa.length s.sp.st.length)) iY∧St H1 w' (.blk bm [I s.sp.id,I s.sp.src,vst,vwa,I s.sp.al,I s.sp.up,vr,vc,vt,vf]::iY::σ):=by
 have rk:=fI bh;obtain ⟨ast,cst,rfl⟩:=RI.shape hk.st;obtain ⟨awa,cwa,rfl⟩:=RI.shape hk.wa;refine Cl.o func108 ntmps108 ag1 ?_;refine .ae (.bx hs fun b1 w hs=>?_);refine .nil (.ae (.y hs (zld P4) (.z znc (.z (zfa dq) (.z (zfa bj) (.y hs (zls [_,_,_,_,_,_] bu aI) (.o (.alloc hs i6 rfl fun b2 w hs=>?_))))))));refine .o (.aD (vs:=[_,_,_,_,_,_]) hs rfl rfl aI fun w hs=>?_);refine .nil (.ae (.y hs (zls [_,_,_,_,_,_] bu aI) (.o (.call call44 rfl (ff (s:=s.sp) hs hk.st hk.wa ⟨aj,aj⟩) ?_))));rintro _ w ⟨H1,ba,aq,rfl,oG,hs⟩;refine .nil (.block ?_);refine .rangeFunc (gf:=92) (cap:=[Pt ba]) (xs:=Am s.sp) (σb:=[.blk bm [I s.sp.id,I s.sp.src,.slice ast s.sp.st.length cst,.slice awa s.sp.wa.length cwa,I s.sp.al,I s.sp.up,vr,vc,vt,vl],en,.blk b1 [Pt bm],.blk b2 [I s.sp.id,I s.sp.src,.slice ast s.sp.st.length cst,.slice awa s.sp.wa.length cwa,I s.sp.al,I s.sp.up]]) (σf:=σ) (hs.sb) trivial rfl oG call92 (fun x hx=>by
   simp only [Am,List.mem_map] at hx;obtain ⟨j,_,rfl⟩:=hx;rfl) rfl
  (I:=fun p H' σb=>∃vl en,σb=[.blk bm [I s.sp.id,I s.sp.src,.slice ast s.sp.st.length cst,.slice awa s.sp.wa.length cwa,I s.sp.al,I s.sp.up,vr,vc,vt,vl],en,.blk b1 [Pt bm],.blk b2 [I s.sp.id,I s.sp.src,.slice ast s.sp.st.length cst,.slice awa s.sp.wa.length cwa,I s.sp.al,I s.sp.up]]∧bM 4 vl (iq (ls++ub (upL s.sp) s.sp.wa.length p)) en) (Ix:=fun _ _ _=>False)
  (fun j _ _ σ g1 g2=>g2) (fun _ _ _ _ _ h=>h) ⟨vl,en,rfl,by rw [rb,List.append_nil];exact hO⟩ ?_ ?_ (fun D c H' σb w _ h _=>h.elim)
 ·rintro ly p hp H2 wH wG w aO ⟨vl,en,rfl,hO⟩ hs ⟨rr,GV⟩;have GW:p<s.sp.many:=by rw [dJ] at hp;exact hp
  have pC:=re (upL s.sp) (p:=p) rk.2.2.1;have Jn:=lO (sE s.sp) rk.2.2.1 p;have gM:p/s.sp.wa.length<s.sp.st.length:=Nat.div_lt_of_lt_mul (by rw [Nat.mul_comm];exact GW);have KY:=Nat.mod_lt p rk.2.2.1;have Q9:=Nat.div_add_mod p s.sp.wa.length;rw [Nat.mul_comm] at Q9;have hu:(s.sp.u (p/s.sp.wa.length) (p%s.sp.wa.length):Int)=(p:Int)+1:=by unfold Spc.u;omega
  rw [nI hp];obtain ⟨al,ll,cl,rfl,Ah⟩:=hO.shape;generalize p/s.sp.wa.length=i at*;generalize p%s.sp.wa.length=k at*;have Jp:=hk.mono (aq.trans aO);refine .region (.o (.alloc hs pb rfl fun b3 w hs=>?_));refine .o (.aD (vs:=[_,_,_]) hs rfl rfl Ba fun w hs=>?_);refine .nil (nT ⟨H2,[.blk b3 [I (i:Int),I (k:Int),I ((p+1:Nat):Int)],.blk bm [I s.sp.id,I s.sp.src,.slice ast s.sp.st.length cst,.slice awa s.sp.wa.length cwa,I s.sp.al,I s.sp.up,vr,vc,vt,.slice al ll cl],en,.blk b1 [Pt bm],.blk b2 [I s.sp.id,I s.sp.src,.slice ast s.sp.st.length cst,.slice awa s.sp.wa.length cwa,I s.sp.al,I s.sp.up]],HLe.refl _,hs,?_⟩);rintro w nJ - hs;refine .block (.ae (.z (zfa cC) (.y hs (zld ai) (.z cz (.z (zfa bg) (.y hs (zld an) (.z (cJ af) (.zn jt (.bX rfl (fun mB=>?_) (fun mB=>?_))))))))))
  ·refine .seq (.draw mix rfl hs fun w hs=>?_);refine .zw 0 rfl (zfa eQ) ?_;refine .z 1 rfl (zfa oT) ?_;refine .y 2 rfl hs ai ?_;refine .z 3 rfl (zfa bg) ?_;refine .y 4 rfl hs an ?_;refine .z 5 rfl (zfa cC) ?_;refine .y 6 rfl hs ai ?_;refine .z 7 rfl cz ?_;have QZ:=bh.wa.rise k aj;have NN:=bh.wa.bd (i:=k) aj;have Pe:=bh.wa.bd (i:=k+1) aj;have En:=bh.up;refine .ixX (enc:=fun x=>[I x]) (i:=8) hs rfl au .none Jp.wa rfl rfl af ak (bG (l:=s.sp.wa) (i:=(k+1)) aj) dD ?_;intro Sy o28 lP;replace lP:=bE.one lP;refine .r (i:=9) hs rfl au .none (aP rfl ai lP) ?_;refine .zw 10 rfl (zfa bg) ?_;refine .y 11 rfl hs an ?_;refine .z 12 rfl (zfa cC) ?_;refine .y 13 rfl hs ai ?_;refine .ixX (enc:=fun x=>[I x]) (i:=14) hs rfl au .none Jp.wa rfl rfl af ak (bG (l:=s.sp.wa) (i:=k) aj) dD ?_;intro RK o34 ma;replace ma:=bE.one ma;refine .r (i:=15) hs rfl au .none (aP rfl ai ma) ?_;refine .zw 16 rfl iw (.E 17 hs ?_);refine .call call183 rfl (ot hs aj aj) ?_;rintro _ w ⟨rfl,hs⟩;refine .go (.zw 18 rfl zg ?_);refine .D hs ?_;refine .region (.y hs (zld P4) (.z (zfa dZ) (.y hs (zld ai) (.z (zfa dZ) (.y hs (zld ai) (.z cz (.z zm (.z zm (.z (zfa db) (.y hs (zld ai) (.o (.call call182 rfl (iF (ls:=ls++ub (upL s.sp) s.sp.wa.length p) (hs.sb:St H2 w (.blk bm _::en:: .blk b1 _:: .blk b2 _::nJ)) hO (by rw [List.length_append];omega)) ?_))))))))))));rintro _ w ⟨vl3,en3,ld,hs⟩;have KI:(s.sp.u i (k+1):Int)=((p+1:Nat):Int)+1:=by unfold Spc.u at hu ⊢;omega
   rw [show two ((p+1:Nat):Int) (((p+1:Nat):Int)+1) (mb s.sp.up (gi s.sp.wa (k+1) - gi s.sp.wa k)) (mb s.sp.up (gi s.sp.wa (k+1) - gi s.sp.wa k)) s.sp.src=upL s.sp i k by unfold upL;rw [if_pos aj,hu,KI];rfl,List.append_assoc,←pC] at ld;exact .nil (nB ⟨H2,_,HLe.refl _,hs,_,_,rfl,ld⟩)
  ·refine .skip (nB ?_);rw [show upL s.sp i k=[] by unfold upL;rw [if_neg aj],List.append_nil] at pC;exact ⟨H2,_,HLe.refl _,(hs.sb:St H2 w (.blk bm _::en:: .blk b1 _:: .blk b2 _::nJ)),_,_,rfl,by rw [pC];exact hO⟩
 ·rintro D H2 wH w aO ⟨vl,en,rfl,hO⟩ hs;rw [dJ,show s.sp.many=s.sp.st.length*s.sp.wa.length from rfl,tZ _ rk.2.2.1] at hO;exact nB (Fin.VH [D] [] hs fun w hs=>⟨_,results0 results108,H2,vl,en,aq.trans aO,hO,(hs.sb:St H2 w (.blk bm _::en::σ))⟩)
theorem vR{w:World}{vst vwa:Value}(hs:St H w (.blk bm [I s.sp.id,I s.sp.src,vst,vwa,I s.sp.al,I s.sp.up,vr,vc,vt,vl]::en::σ))(hk:MkK H s ts vst vwa vr vc vt)(hO:bM 4 vl (iq ls) en)(hl:ls.length≤10000)(bh:fm s.sp)(AQ:ts.length≤100):
  aaA 109 [Pt bm] w fun _ w'=>∃H1 vf iY,HLe H H1∧bM 4 vf (iq (ls++BL s.sp ts.length)) iY∧St H1 w' (.blk bm [I s.sp.id,I s.sp.src,vst,vwa,I s.sp.al,I s.sp.up,vr,vc,vt,vf]::iY::σ):=by
 have rk:=fI bh;obtain ⟨at_,ct,rfl⟩:=RTd.shape hk.ts;refine Cl.o func109 ntmps109 ag1 ?_;refine .ae (.z zm (.z znc (.z (zfa gx) (.y hs (zld isAgg124) (.z (cJ bL) (.zn zm (.for (N:=ts.length) (J:=fun j fr w=>fr=[(0,Pt bm)]∧∃vl en,bM 4 vl (iq (ls++BL s.sp j)) en∧St H w (.blk bm [I s.sp.id,I s.sp.src,vst,vwa,I s.sp.al,I s.sp.up,vr,vc,.slice at_ ts.length ct,vl]::en::σ)) aj ?_ ?_ ?_)))))))
 ·exact .mk ⟨rfl,vl,en,by show bM 4 vl (iq (ls++[])) en;rw [List.append_nil];exact hO,hs⟩
 ·rintro j fr w hj ⟨rfl,vl,en,hO,hs⟩;have Sg:=kh s.sp j;obtain ⟨al,ll,cl,rfl,Ah⟩:=hO.shape;refine .block (.ae (.z zm (.zn zg (.draw mix rfl hs fun w hs=>?_))));refine .zw 0 rfl zm ?_;refine .z 1 rfl zm ?_;refine .z 2 rfl zm ?_;refine .z 4 rfl zm ?_;refine .z 5 rfl znc ?_;refine .z 6 rfl (zfa dq) ?_;refine .z 7 rfl (zfa bj) ?_;refine .z 8 rfl (zfa db) ?_;refine .y 9 rfl hs ai ?_;refine .E 3 hs ?_;refine .call call184 rfl (mP (s:=s.sp) hs .here hk.st hk.wa ⟨aj,aj⟩ ⟨aj,aj⟩) ?_;rintro _ w ⟨rfl,hs⟩;refine .go (.E 10 hs ?_);refine .call call182 rfl (iF (ls:=ls++BL s.sp j) hs hO (by rw [List.length_append];omega)) ?_;rintro _ w ⟨vl3,en3,ld,hs⟩;rw [show (s.sp.many:Int)+1+(j:Int)=((s.sp.many+1+j:Nat):Int) by omega,List.append_assoc] at ld;exact .go (.D hs (nB (nT (.mk ⟨rfl,vl3,en3,ld,hs⟩))))
 ·rintro fr w ⟨rfl,vl,en,hO,hs⟩;exact Fin.yg results109 ⟨H,vl,en,HLe.refl _,hO,hs⟩
set_option maxHeartbeats 1000000 in
theorem sX{w:World}{vst vwa:Value}(hs:St H w (.blk bm [I s.sp.id,I s.sp.src,vst,vwa,I s.sp.al,I s.sp.up,vr,vc,vt,vl]::en::σ))(hk:MkK H s ts vst vwa vr vc vt)(hO:bM 4 vl (iq ls) en)(hl:ls.length≤10000)(bh:fm s.sp)(AQ:ts.length≤100)(Ai:s.cs.length≤20)(hc:∀c∈s.cs,tB c){j0:Nat}(hj0:j0≤ts.length):
  aaA 185 [Pt bm,I (j0:Int)] w fun _ w'=>∃H1 vf iY,HLe H H1∧bM 4 vf (iq (ls++xD s.sp ts s.cs j0 s.cs.length)) iY∧St H1 w' (.blk bm [I s.sp.id,I s.sp.src,vst,vwa,I s.sp.al,I s.sp.up,vr,vc,vt,vf]::iY::σ):=by
 have rk:=fI bh;obtain ⟨at_,ct,rfl⟩:=RTd.shape hk.ts;obtain ⟨ac,cc,rfl⟩:=RCm.shape hk.cs;refine Cl.o func185 ntmps185 ag2 ?_;refine .ae (.z zm (.z znc (.z (zfa dq) (.z (zfa dz) (.y hs (zld rW) (.z (cJ cQ) (.zn zm (.for (N:=s.cs.length) (J:=fun i fr w=>fr=[(12,.slice ac s.cs.length cc),(0,Pt bm),(1,I (j0:Int))]∧∃vl en,bM 4 vl (iq (ls++xD s.sp ts s.cs j0 i)) en∧St H w (.blk bm [I s.sp.id,I s.sp.src,vst,vwa,I s.sp.al,I s.sp.up,vr,.slice ac s.cs.length cc,.slice at_ ts.length ct,vl]::en::σ)) aj ?_ ?_ ?_))))))))
 ·exact .mk ⟨rfl,vl,en,by show bM 4 vl (iq (ls++[])) en;rw [List.append_nil];exact hO,hs⟩
 ·rintro i fr w hi ⟨rfl,vl,en,hO,hs⟩;obtain ⟨c,hx⟩:=nth hi;obtain ⟨g1,g2,g3,g4,g5,g6⟩:=hc c (List.mem_of_getElem? hx);have Xx:=ki s.sp ts s.cs j0 i;have Xw:i*(2*(ts.length - j0))≤20*(2*100):=Nat.mul_le_mul aj aj;refine .block (.ae (.ixX (enc:=Cmp.c) hs hk.cs rfl rfl cQ dO hx dD ?_));intro w7 o16 ee;refine .q hs (bD (vs:=(Cmp.c c)) rfl wD dO ee) (.o (.alloc hs rR rfl fun b5 w hs=>?_));refine .o (.aD (vs:=c.c) hs rfl rfl dO fun w hs=>?_);replace hs:St H w (.blk bm [I s.sp.id,I s.sp.src,vst,vwa,I s.sp.al,I s.sp.up,vr,.slice ac s.cs.length cc,.slice at_ ts.length ct,vl]::en:: .blk b5 [I c.src,I c.tape,I c.fr,I c.to,I c.lo,I c.hi]::σ):=hs.sb;refine .nil (.ae (.z zm (.zn zg (.block ?_))));refine .loop (fun j:Nat=>⟨62,[],[(6,I ((j0+j:Nat):Int)),(5,Pt b5),(14,I (i:Int)),(13,I (s.cs.length:Int)),(12,.slice ac s.cs.length cc),(0,Pt bm),(1,I (j0:Int))]⟩)
   (fun j w=>j0+j≤ts.length∧∃vl en,bM 4 vl (iq (ls++xD s.sp ts s.cs j0 i++mU s.sp ts c j0 j)) en∧St H w (.blk bm [I s.sp.id,I s.sp.src,vst,vwa,I s.sp.al,I s.sp.up,vr,.slice ac s.cs.length cc,.slice at_ ts.length ct,vl]::en:: .blk b5 [I c.src,I c.tape,I c.fr,I c.to,I c.lo,I c.hi]::σ)) (fun j=>ts.length - (j0+j)) 0 bk
   ⟨aj,vl,en,by show bM 4 vl (iq (_++[])) en;rw [List.append_nil];exact hO,hs⟩ ?_
  clear hO hs;rintro j w ⟨hj,vl,en,hO,hs⟩;have GZ:=nD s.sp ts c j0 j;obtain ⟨al,ll,cl,rfl,Ah⟩:=hO.shape;refine .seq (.ae (.z zm (.z zm (.z znc (.z (zfa gx) (.y hs (zld isAgg124) (.z (cJ bL) (.zn jt (.bX rfl (fun kA=>?_) (fun kA=>?_))))))))))
  ·refine .skip (nT (.seq (.block (.ae (.z zm (.z znc (.z (zfa gx) (.y hs (zld isAgg124) (.z zm ?_)))))))));obtain ⟨t,ht⟩:=nth (l:=ts) (k:=j0+j) aj;have Wy:=OU ht;refine .ixX (enc:=TD.c) hs hk.ts rfl rfl bL cH ht dD ?_;intro aax o33 wg;refine .q hs (bD (vs:=(TD.c t)) rfl js cH wg) (.o (.alloc hs uW rfl fun b7 w hs=>?_));refine .o (.aD (vs:=t.c) hs rfl rfl cH fun w hs=>?_);change St _ _ (.blk b7 [I t.tape,I t.day]::_) at hs;refine .nil (.ae (.z (zfa pD) (.y hs (zld ai) (.z (zfa jT) (.y hs (zld ai) (.z gO (.z zm (.mW (t':=40) rfl (fun Rk=>?_) (fun Rk=>?_)))))))))
   ·refine .T ?_;refine .z (zfa me) (.T (.y hs (zld ai) (.T (.z (zfa iC) (.T (.y hs (zld ai) (.T (.z (zfa gq) (.T (.y hs (zld ai) (.T (.o (.call kU rfl (bq hs) ?_)))))))))))));rintro _ w ⟨rfl,hs⟩;refine .zn zpT (.cond rfl (fun zD=>?_) (fun zD=>?_))
    ·refine .draw mix rfl hs fun w hs=>?_
     refine .zw 0 rfl zm ?_;refine .z 1 rfl zm ?_;refine .z 2 rfl zm ?_;refine .z 4 rfl (zfa iB) ?_;refine .y 5 rfl hs ai ?_;refine .z 6 rfl Md ?_;refine .z 7 rfl (zfa gj) ?_;refine .y 8 rfl hs ai ?_;refine .z 9 rfl (zfa gu) ?_;refine .y 10 rfl hs ai ?_;refine .E 3 hs ?_;refine .call call184 rfl (mP (s:=s.sp) hs (.there .here) hk.st hk.wa ⟨aj,aj⟩ ⟨aj,aj⟩) ?_;rintro _ w ⟨rfl,hs⟩;refine .go (.E 11 hs ?_);refine .call call182 rfl (iF (ls:=ls++xD s.sp ts s.cs j0 i++mU s.sp ts c j0 j) (hs.tail:St H w (.blk bm _::en:: .blk b5 _::σ)) hO (by rw [List.length_append,List.length_append];omega)) ?_;rintro _ w ⟨vl3,en3,ld,hs⟩;refine .go (.D hs (nB (nT (.region (.z zm (.z cz (.zn zg (nT ?_))))))));have e:mU s.sp ts c j0 (j+1)=mU s.sp ts c j0 j++two 0 ((s.sp.many:Int)+1+((j0+j:Nat):Int)) (-c.lo) c.hi c.src:=by
      show _++nK c (td0 ts (j0+j)) _=_;rw [Wy];unfold nK;rw [if_pos (by simp at zD;omega)];rw [show ((s.sp.many+1+(j0+j):Nat):Int)=(s.sp.many:Int)+1+((j0+j:Nat):Int) by omega]
     rw [List.append_assoc _ (mU _ _ _ _ _),←e] at ld;exact ⟨j+1,.dP rfl (by simp;omega) bk,⟨aj,vl3,en3,ld,hs⟩,aj⟩
    ·refine .skip (nB (nT (.region (.z zm (.z cz (.zn zg (nT ?_)))))));have e:mU s.sp ts c j0 (j+1)=mU s.sp ts c j0 j:=by
      show _++nK c (td0 ts (j0+j)) _=_;rw [Wy];unfold nK;rw [if_neg (by simp at zD;omega),List.append_nil]
     exact ⟨j+1,.dP rfl (by simp;omega) bk,⟨aj,_,en,by rw [e];exact hO,hs.tail⟩,aj⟩
   ·refine .Fs 7 5 true (.zn zpF (.cF (.skip (nB (nT (.region (.z zm (.z cz (.zn zg (nT ?_))))))))));have e:mU s.sp ts c j0 (j+1)=mU s.sp ts c j0 j:=by
     show _++nK c (td0 ts (j0+j)) _=_;rw [Wy];unfold nK;rw [if_neg aj,List.append_nil]
    exact ⟨j+1,.dP rfl (by simp;omega) bk,⟨aj,_,en,by rw [e];exact hO,hs.tail⟩,aj⟩
  ·refine .exit (xT (xT (xB (nB (nT ?_)))));obtain rfl:j=ts.length - j0:=by omega
   rw [List.append_assoc,show xD s.sp ts s.cs j0 i++mU s.sp ts c j0 (ts.length - j0)=xD s.sp ts s.cs j0 (i+1) by rw [←LO hx];rfl] at hO;exact .mk ⟨rfl,_,en,hO,hs.sb⟩
 ·rintro fr w ⟨rfl,vl,en,hO,hs⟩;exact Fin.yg results185 ⟨H,vl,en,HLe.refl _,hO,hs⟩
theorem pP{w:World}{vst vwa:Value}(hs:St H w (.blk bm [I s.sp.id,I s.sp.src,vst,vwa,I s.sp.al,I s.sp.up,vr,vc,vt,vl]::en::σ))(hk:MkK H s ts vst vwa vr vc vt)(hO:bM 4 vl (iq ls) en)(hl:ls.length≤10000)(bh:fm s.sp)(AQ:ts.length≤100)(Ai:s.cs.length≤20)(hc:∀c∈s.cs,tB c):
  aaA 110 [Pt bm] w fun _ w'=>∃H1 vf iY,HLe H H1∧bM 4 vf (iq (ls++xD s.sp ts s.cs 0 s.cs.length)) iY∧St H1 w' (.blk bm [I s.sp.id,I s.sp.src,vst,vwa,I s.sp.al,I s.sp.up,vr,vc,vt,vf]::iY::σ):=by
 refine Cl.o func110 ntmps110 ag1 ?_;refine .region (.z zm (.o (.call call185 rfl (sX (s:=s) (ts:=ts) (j0:=0) hs hk hO hl bh AQ Ai hc aj) ?_)));rintro _ w hs;exact .nil (Fin.yg results110 hs)
set_option maxHeartbeats 1000000 in
theorem sW{w:World}{vst vwa:Value}(hs:St H w (.blk bm [I s.sp.id,I s.sp.src,vst,vwa,I s.sp.al,I s.sp.up,vr,vc,vt,vl]::en::σ))(hk:MkK H s ts vst vwa vr vc vt)(hO:bM 4 vl (iq ls) en)(hl:ls.length≤10000)(bh:fm s.sp)(AQ:ts.length≤100)(Ea:s.rs.length≤60)(hr:∀r∈s.rs,mE s.sp r)(zt:∀r∈s.rs,r.td∈ts):
  aaA 111 [Pt bm] w fun _ w'=>∃H1 vf iY,HLe H H1∧bM 4 vf (iq (ls++yQ s.sp ts s.rs s.rs.length)) iY∧St H1 w' (.blk bm [I s.sp.id,I s.sp.src,vst,vwa,I s.sp.al,I s.sp.up,vr,vc,vt,vf]::iY::σ):=by
 have rk:=fI bh;obtain ⟨at_,ct,rfl⟩:=RTd.shape hk.ts;obtain ⟨ar,cr,rfl⟩:=RRd.shape hk.rs;refine Cl.o func111 ntmps111 ag1 ?_;refine .ae (.z zm (.z znc (.z (zfa dq) (.z (zfa aS) (.y hs (zld fa) (.z (cJ aV) (.zn zm (.for (N:=s.rs.length) (J:=fun i fr w=>fr=[(9,.slice ar s.rs.length cr),(0,Pt bm)]∧∃vl en,bM 4 vl (iq (ls++yQ s.sp ts s.rs i)) en∧St H w (.blk bm [I s.sp.id,I s.sp.src,vst,vwa,I s.sp.al,I s.sp.up,.slice ar s.rs.length cr,vc,.slice at_ ts.length ct,vl]::en::σ)) aj ?_ ?_ ?_))))))))
 ·exact .mk ⟨rfl,vl,en,by show bM 4 vl (iq (ls++[])) en;rw [List.append_nil];exact hO,hs⟩
 ·rintro i fr w hi ⟨rfl,vl,en,hO,hs⟩;obtain ⟨r,hx⟩:=nth hi;obtain ⟨g1,g2,g3,g4,g5,g6,g7⟩:=hr r (List.mem_of_getElem? hx);obtain ⟨k,k1,k2,k3⟩:=jc (zt r (List.mem_of_getElem? hx));have WS:=j7 s.sp ts s.rs i;obtain ⟨al,ll,cl,rfl,Ah⟩:=hO.shape;refine .block (.ae (.ixX (enc:=Rdg.c) hs hk.rs rfl rfl aV bF hx dD ?_));intro jG o13 iX;refine .q hs (bD (vs:=(Rdg.c r)) rfl iP bF iX) (.o (.alloc hs kj rfl fun b3 w hs=>?_));refine .o (.aD (vs:=r.c) hs rfl rfl bF fun w hs=>?_);change St _ _ (.blk b3 [I r.src,I r.st,I r.wa,I r.val,I r.tol,I r.tape,I r.day]::_) at hs;refine .nil (.seq (.draw mix rfl hs fun w hs=>?_));refine .zw 0 rfl zm ?_;refine .z 1 rfl znc ?_;refine .z 2 rfl (zfa gx) ?_;refine .y 3 rfl hs isAgg124 ?_;refine .ys 4 rfl hs [_,_,_,_,_,_,_] iP bF ?_;refine .E 5 hs ?_;refine .call call181 rfl (j8 hs) ?_;rintro _ w ⟨rfl,hs⟩;refine .go (.E 6 hs ?_);refine .call call186 rfl (yE (t:=r.td) hs hk.ts aj) ?_;rintro _ w ⟨rfl,hs⟩;refine .go (.zw 7 rfl zg ?_);refine .D hs ?_;refine .draw mix rfl hs fun w hs=>?_
  refine .zw 0 rfl zm ?_;refine .z 1 rfl zm ?_;refine .z 2 rfl zm ?_;refine .z 4 rfl zm ?_;refine .z 5 rfl znc ?_;refine .z 6 rfl (zfa dq) ?_;refine .z 7 rfl (zfa bj) ?_;refine .ys 8 rfl hs [_,_,_,_,_,_] bu aI ?_;refine .z 9 rfl (zfa gg) ?_;refine .y 10 rfl hs ai ?_;refine .zw 11 rfl (zfa fZ) ?_;refine .y 12 rfl hs ai ?_;refine .z 14 rfl (zfa eE) ?_;refine .y 15 rfl hs ai ?_;refine .z 16 rfl (zfa cR) ?_;refine .y 17 rfl hs ai ?_;refine .z 18 rfl cz ?_;refine .z 19 rfl (zfa cR) ?_;refine .y 20 rfl hs ai ?_;refine .z 21 rfl (zfa eE) ?_;refine .y 22 rfl hs ai ?_;refine .z 23 rfl iw ?_;refine .z 24 rfl (zfa fi) ?_;refine .y 25 rfl hs ai ?_;refine .E 3 hs ?_;refine .call call184 rfl (mP (s:=s.sp) hs (.there .here) hk.st hk.wa ⟨aj,aj⟩ ⟨aj,aj⟩) ?_;rintro _ w ⟨rfl,hs⟩;refine .go (.E 13 hs ?_);refine .call call187 rfl (ru (s:=s.sp) hs hk.wa aj ⟨aj,aj⟩ ⟨aj,aj⟩) ?_;rintro _ w ⟨rfl,hs⟩;refine .go (.E 26 hs ?_);refine .call call182 rfl (iF (ls:=ls++yQ s.sp ts s.rs i) (hs.sb:St H w (.blk bm _::en:: .blk b3 _::σ)) hO (by rw [List.length_append];omega)) ?_;rintro _ w ⟨vl3,en3,ld,hs⟩;refine .go (.D hs (nB (nT ?_)));rw [List.append_assoc,show yQ s.sp ts s.rs i++two ((s.sp.many:Int)+1+l7 ts r.td) (1+r.st*s.sp.wa.length+r.wa) (r.val+r.tol) (r.tol - r.val) r.src=yQ s.sp ts s.rs (i+1) by rw [←JZ hx];rfl] at ld;exact .mk ⟨rfl,vl3,en3,ld,hs.sb⟩
 ·rintro fr w ⟨rfl,vl,en,hO,hs⟩;exact Fin.yg results111 ⟨H,vl,en,HLe.refl _,hO,hs⟩
def fnK:Nat→Nat
 |0=>106
 |1=>107
 |2=>108
 |3=>109
 |4=>110
 |_=>111
theorem Oh(hk:k<6):∀args w,(callFunc (fnK k) args).run Tryz.prog w= .ok (.enter (fnK k) args) w:=by
 have h:k=0∨k=1∨k=2∨k=3∨k=4∨k=5:=by omega
 rcases h with rfl|rfl|rfl|rfl|rfl|rfl
 ·exact call106
 ·exact call107
 ·exact call108
 ·exact call109
 ·exact call110
 ·exact call111
theorem Kg{w:World}{vst vwa:Value}(hs:St H w (.blk bm [I s.sp.id,I s.sp.src,vst,vwa,I s.sp.al,I s.sp.up,vr,vc,vt,vl]::en::σ))(hk:MkK H s s.bV vst vwa vr vc vt)(hO:bM 4 vl (iq (s.parts k)) en)(he:s.early)(hk6:k<6):
  aaA (fnK k) [Pt bm] w fun _ w'=>∃H1 vf iY,HLe H H1∧bM 4 vf (iq (s.parts (k+1))) iY∧St H1 w' (.blk bm [I s.sp.id,I s.sp.src,vst,vwa,I s.sp.al,I s.sp.up,vr,vc,vt,vf]::iY::σ):=by
 have hl:=nx he k aj;obtain ⟨bh,h1,h2,h3,h4⟩:=he;have AQ:s.bV.length≤100:=by have:=dB s.rs;unfold Srv.bV;omega
 have h:k=0∨k=1∨k=2∨k=3∨k=4∨k=5:=by omega
 rcases h with rfl|rfl|rfl|rfl|rfl|rfl
 ·exact sY hs hk hO (Nat.le_trans hl e9) bh
 ·exact xu hs hk hO (Nat.le_trans hl e9) bh
 ·exact Ck hs hk hO (Nat.le_trans hl e9) bh
 ·exact vR hs hk hO (Nat.le_trans hl e9) bh AQ
 ·exact pP hs hk hO (Nat.le_trans hl e9) bh AQ h2 h4
 ·exact sW hs hk hO (Nat.le_trans hl e9) bh AQ h1 h3 fun r hr=>eK.2 ⟨r,hr,rfl⟩
def fnV(b:Nat)(k:Nat):Value:= .func (.func (fnK k)) #[Pt b] #[]
theorem Rt(b:Nat){k:Nat}(hk:k<6):[fnV b 0,fnV b 1,fnV b 2,fnV b 3,fnV b 4,fnV b 5][k]? =some (fnV b k):=by
 have h:k=0∨k=1∨k=2∨k=3∨k=4∨k=5:=by omega
 rcases h with rfl|rfl|rfl|rfl|rfl|rfl<;>rfl
set_option maxHeartbeats 1000000 in
theorem tV{w:World}{vst vwa:Value}(hs:St H w σ)(h1:RI H vst s.sp.st)(h2:RI H vwa s.sp.wa)(h3:RRd H vr s.rs)(h4:RCm H vc s.cs)(he:s.early):
  aaA 54 [.agg #[I s.sp.id,I s.sp.src,vst,vwa,I s.sp.al,I s.sp.up,vr,vc]] w fun u w'=>∃H1 vl en,HLe H H1∧u= .agg #[I s.sys.many,vl]∧bM 4 vl (iq s.cu) en∧St H1 w' (en::σ):=by
 have rk:=fI he.1;have AQ:s.bV.length≤60:=by have:=dB s.rs;have:=he.2.1;unfold Srv.bV;omega
 refine Cl.o func54 ntmps54 ag1 ?_;refine .ae (.bx hs fun b1 w hs=>?_);refine .o (.alloc hs fP rfl fun b2 w hs=>?_);refine .nil (.seq (.draw mix rfl hs fun w hs=>?_));refine .ys 0 rfl hs [_,_,_,_,_,_,_,_] bA aM ?_;refine .ys 1 rfl hs [_,_,_,_,_,_,_,_] bA aM ?_;refine .E 2 hs ?_;refine .call call105 rfl (tU hs h3 (by have:=he.2.1;omega)) ?_;rintro v8 w ⟨H1,aq,hT,hs⟩;obtain ⟨at_,ct,rfl⟩:=RTd.shape hT;have K0:MkK H1 s s.bV vst vwa vr vc (.slice at_ s.bV.length ct):=⟨h1.mono aq,h2.mono aq,h3.mono aq,h4.mono aq,hT⟩;refine .go (.zw 3 rfl (zbd (vs:=[(0,.agg #[I s.sp.id,I s.sp.src,vst,vwa,I s.sp.al,I s.sp.up,vr,vc]),(1,.slice at_ s.bV.length ct)]) [I s.sp.id,I s.sp.src,vst,vwa,I s.sp.al,I s.sp.up,vr,vc,.slice at_ s.bV.length ct,.slice none 0 0] wA rfl au) (.E 4 hs ?_));refine .box hs rfl rfl ?_;intro jx w hs;refine .go (.zw 5 rfl zg ?_);refine .D hs ?_;refine .seq (.ae (.z zm (.q hs (cV (f:=[_]) (c:=[]) rfl rfl) (.z zm (.q hs (cV (f:=[_]) (c:=[]) rfl rfl) (.z zm (.q hs (cV (f:=[_]) (c:=[]) rfl rfl) (.z zm (.q hs (cV (f:=[_]) (c:=[]) rfl rfl) (.z zm (.q hs (cV (f:=[_]) (c:=[]) rfl rfl) (.z zm (.q hs (cV (f:=[_]) (c:=[]) rfl rfl) (.o (.buildSlice (cells:=[fnV jx 0,fnV jx 1,fnV jx 2,fnV jx 3,fnV jx 4,fnV jx 5]) hs CR rfl au fun LW w hs=>?_)))))))))))))));refine .z (cJ runUnderlying222) (.zn zm (.for (N:=6) (J:=fun k fr w=>fr=[(23,.slice (some ⟨LW,0,none⟩) 6 6),(3,Pt jx),(2,Pt b2),(1,Pt b1)]∧∃H2 vl en,HLe H1 H2∧bM 4 vl (iq (s.parts k)) en∧St H2 w (.blk jx [I s.sp.id,I s.sp.src,vst,vwa,I s.sp.al,I s.sp.up,vr,vc,.slice at_ s.bV.length ct,vl]::en:: .blk LW [fnV jx 0,fnV jx 1,fnV jx 2,fnV jx 3,fnV jx 4,fnV jx 5]:: .blk b2 [I 0,.slice none 0 0]:: .blk b1 [I s.sp.id,I s.sp.src,vst,vwa,I s.sp.al,I s.sp.up,vr,vc]::σ)) aj ?_ ?_ ?_))
 ·exact .mk ⟨rfl,H1,.slice none 0 0,.nul,HLe.refl _,.nil 4 none,hs.nul.sb⟩
 ·rintro k fr w hk ⟨rfl,H2,vl,en,aO,hO,hs⟩;refine .block (.ae (.z (zix runUnderlying222 sizeOf1) (.q hs (fJ rfl isAgg1 (hv:=Rt jx hk)) (.zn zg (.region (.z zm (.o (.ng (first:=[Pt jx]) (cap:=[]) rfl rfl (Oh hk) (Kg hs (K0.mono aO) hO he hk) ?_))))))));rintro _ w ⟨H3,vl3,en3,bP,ld,hs⟩;exact .nil (nB (nT (.mk ⟨rfl,H3,vl3,en3,aO.trans bP,ld,hs⟩)))
 ·rintro fr w ⟨rfl,H2,vl,en,aO,hO,hs⟩;rw [s.Cd] at hO;obtain ⟨al,ll,cl,rfl,Ah⟩:=hO.shape;refine nT (.seq (.draw mix rfl hs fun w hs=>?_));refine .zw 0 rfl (zfa bj) ?_;refine .ys 1 rfl hs [_,_,_,_,_,_] bu aI ?_;refine .z 3 rfl zm ?_;refine .z 4 rfl znc ?_;refine .z 5 rfl (zfa gx) ?_;refine .y 6 rfl hs isAgg124 ?_;refine .z 7 rfl (cJ bL) ?_;refine .z 9 rfl zm ?_;refine .z 10 rfl znc ?_;refine .z 11 rfl (zfa kJ) ?_;refine .zv 12 rfl hs (rE ft) (.E 2 hs ?_);refine .call call112 rfl (oq (s:=s.sp) hs (h1.mono (aq.trans aO)) (h2.mono (aq.trans aO)) ⟨aj,aj⟩) ?_;rintro _ w ⟨rfl,hs⟩;refine .go (.zw 8 rfl cz ?_);refine .z 13 rfl (zbd [_,_] lG) ?_;refine .E 14 hs ?_;refine .aD (vs:=[_,_]) hs rfl rfl aZ ?_;intro w hs;refine .go (.D hs (.ret ?_));replace hs:St H2 w (.blk b2 [I ((s.sp.many:Int)+(s.bV.length:Int)),.slice al ll cl]::en::σ):=hs.sb;exact Fin.iz [] [] hs fun w hs=>⟨_,results1 results54 (cO (vs:=[_,_]) hs rfl bZ aZ),H2,_,en,aq.trans aO,by show _=Value.agg #[I ((s.sp.many+s.bV.length:Nat):Int),_];rw [Int.natCast_add],hO,hs.tail⟩
theorem fK{w:World}{vst vwa:Value}(hs:St H w σ)(h1:RI H vst s.sp.st)(h2:RI H vwa s.sp.wa)(h3:RRd H vr s.rs)(h4:RCm H vc s.cs)(he:s.early):
  aaA 54 [.agg #[I s.sp.id,I s.sp.src,vst,vwa,I s.sp.al,I s.sp.up,vr,vc]] w fun u w'=>∃H1,HLe H H1∧RSy H1 u s.sys∧St H1 w' σ:=by
 refine (tV hs h1 h2 h3 h4 he).mono ?_;rintro u w' ⟨H1,vl,en,hle,rfl,hO,hs⟩;have hl:=nx he 6 aj;rw [s.Cd] at hl;obtain ⟨H2,aO,hR,hs⟩:=bM.bQ (m:=4) (cs:=s.cu.map Lim.c) hO (fun c hc=>by simp only [List.mem_map] at hc;obtain ⟨x,_,rfl⟩:=hc;rfl) aj (by rw [List.length_map];omega) hs .here;exact ⟨H2,hle.trans aO,⟨vl,rfl,hR⟩,hs⟩
set_option maxHeartbeats 1000000 in
theorem fb{w:World}{vst vwa:Value}(hs:St H w σ)(h1:RI H vst s.sp.st)(h2:RI H vwa s.sp.wa)(h3:RRd H vr s.rs)(h4:RCm H vc s.cs):
  aaA 53 [.agg #[I s.sp.id,I s.sp.src,vst,vwa,I s.sp.al,I s.sp.up,vr,vc]] w fun u w'=>∃H1 e,HLe H H1∧u=I e∧EP s e∧St H1 w' σ:=by
 obtain ⟨ast,cst,rfl⟩:=RI.shape h1;obtain ⟨awa,cwa,rfl⟩:=RI.shape h2;obtain ⟨ar,cr,rfl⟩:=RRd.shape h3;obtain ⟨ac,cc,rfl⟩:=RCm.shape h4;refine Cl.o func53 ntmps53 ag1 ?_;refine .ae (.bx hs fun b1 w hs=>?_);refine .zn zg (.seq (.ae (.z (zfa bj) (.y hs (zls [_,_,_,_,_,_] bu aI) (.o (.call call41 rfl (fo (s:=s.sp) hs h1 h2) ?_))))));rintro _ w ⟨H1,e,aq,rfl,he,hs⟩;refine .zn zg (.ae (.z zm (.zn gE (.eN rfl (fun iX=>?_) (fun iX=>?_)))))
 ·refine .ae (.z zm (.zn zg (.ret (rT (Fin.bp Bb rfl ?_)))));have hq:¬fm s.sp∧e=30:=he.resolve_left fun h=>iX h.2
  exact ⟨H1,_,aq,rfl,by rw [hq.2];exact .space hq.1,hs.out⟩
 ·refine .skip (nT (.seq (.ae (.z (zfa aS) ?_))));have bh:fm s.sp:=(he.resolve_right fun h=>by omega).1;refine .y hs (zld fa) (.z (cJ aV) (.z q5 (.z zm (.mW (t':=19) rfl (fun Cy=>?_) (fun Cy=>?_)))))
  ·exact .Fs 4 4 false (.zn zpT (.cT (.ae (.zn zg (.ret (rT (Fin.bp Bb rfl ⟨H1,_,aq,rfl,.long bh aj,hs.out⟩)))))))
  ·refine .T (.z (zfa dz) (.T (.y hs (zld rW) (.T (.z (cJ cQ) (.T (.z q5 (.zn zpF (.bX rfl (fun rI=>?_) (fun rI=>?_))))))))))
   ·exact .ae (.zn zg (.ret (rT (Fin.bp Bb rfl ⟨H1,_,aq,rfl,.long bh aj,hs.out⟩))))
   ·refine .skip (nT (.seq (.ae (.z (zfa aS) (.y hs (zld fa) (.z (cJ aV) (.zn zm (.for (N:=s.rs.length) (J:=fun k fr w=>fr=[(26,.slice ar s.rs.length cr),(1,Pt b1)]∧(∀j<k,∀y,s.rs[j]? =some y→mE s.sp y)∧St H1 w (.blk b1 [I s.sp.id,I s.sp.src,.slice ast s.sp.st.length cst,.slice awa s.sp.wa.length cwa,I s.sp.al,I s.sp.up,.slice ar s.rs.length cr,.slice ac s.cs.length cc]::σ)) aj ?_ ?_ ?_))))))))
    ·exact .mk ⟨rfl,fun j hj=>by omega,hs⟩
    ·rintro k fr w hk ⟨rfl,fF,hs⟩;obtain ⟨r,hx⟩:=nth hk;refine .block (.ae (.ixX (enc:=Rdg.c) hs (h3.mono aq) rfl rfl aV bF hx dD ?_));intro LV o30 rH;refine .q hs (bD (vs:=(Rdg.c r)) rfl iP bF rH) (.o (.alloc hs kj rfl fun b5 w hs=>?_));refine .o (.aD (vs:=r.c) hs rfl rfl bF fun w hs=>?_);change St _ _ (.blk b5 [I r.src,I r.st,I r.wa,I r.val,I r.tol,I r.tape,I r.day]::_) at hs;refine .nil (.ae (.z (zfa bj) (.y hs (zls [_,_,_,_,_,_] bu aI) (.y hs (zls [_,_,_,_,_,_,_] iP bF) (.o (.call call103 rfl (pN (s:=s.sp) (r:=r) hs (h1.mono aq) (h2.mono aq)) ?_))))));rintro _ w ⟨VN,rfl,F6,hs⟩;refine .zn im (.cond rfl (fun wc=>?_) (fun wc=>?_))
     ·exact .ae (.zn zg (.ret (rB (rT (rB (rT (Fin.bp Bb rfl ⟨H1,_,aq,rfl,.rdg bh aj (fun h=>by rw [F6.2 (h r (List.mem_of_getElem? hx))] at wc;cases wc),hs.out⟩)))))))
     ·exact .skip (nB (nT (.mk ⟨rfl,gv fF hx (F6.1 (by simpa using wc)),hs.tail⟩)))
    ·rintro fr w ⟨rfl,fF,hs⟩;have QY:∀r∈s.rs,mE s.sp r:=fun r hr=>by
      obtain ⟨j,hj⟩:=List.getElem?_of_mem hr;exact fF j (List.getElem?_eq_some_iff.1 hj).1 r hj
     clear fF;refine nT (.seq (.ae (.z (zfa dz) (.y hs (zld rW) (.z (cJ cQ) (.zn zm (.for (N:=s.cs.length) (J:=fun k fr w=>fr=[(39,.slice ac s.cs.length cc),(1,Pt b1)]∧(∀j<k,∀y,s.cs[j]? =some y→tB y)∧St H1 w (.blk b1 [I s.sp.id,I s.sp.src,.slice ast s.sp.st.length cst,.slice awa s.sp.wa.length cwa,I s.sp.al,I s.sp.up,.slice ar s.rs.length cr,.slice ac s.cs.length cc]::σ)) aj ?_ ?_ ?_)))))))
     ·exact .mk ⟨rfl,fun j hj=>by omega,hs⟩
     ·rintro k fr w hk ⟨rfl,fF,hs⟩;obtain ⟨c,hx⟩:=nth hk;refine .block (.ae (.ixX (enc:=Cmp.c) hs (h4.mono aq) rfl rfl cQ dO hx dD ?_));intro VJ o43 N3;refine .q hs (bD (vs:=(Cmp.c c)) rfl wD dO N3) (.o (.alloc hs rR rfl fun b7 w hs=>?_));refine .o (.aD (vs:=c.c) hs rfl rfl dO fun w hs=>?_);change St _ _ (.blk b7 [I c.src,I c.tape,I c.fr,I c.to,I c.lo,I c.hi]::_) at hs;refine .nil (.ae (.y hs (zls [_,_,_,_,_,_] wD dO) (.o (.call call104 rfl (pO (c:=c) hs) ?_))));rintro _ w ⟨aav,rfl,N6,hs⟩;refine .zn im (.cond rfl (fun pQ=>?_) (fun pQ=>?_))
      ·exact .ae (.zn zg (.ret (rB (rT (rB (rT (Fin.bp Bb rfl ⟨H1,_,aq,rfl,.cmp bh aj QY (fun h=>by rw [N6.2 (h c (List.mem_of_getElem? hx))] at pQ;cases pQ),hs.out⟩)))))))
      ·exact .skip (nB (nT (.mk ⟨rfl,gv fF hx (N6.1 (by simpa using pQ)),hs.tail⟩)))
     ·rintro fr w ⟨rfl,fF,hs⟩;have K3:∀c∈s.cs,tB c:=fun c hc=>by
       obtain ⟨j,hj⟩:=List.getElem?_of_mem hc;exact fF j (List.getElem?_eq_some_iff.1 hj).1 c hj
      have Sh:s.early:=⟨bh,aj,aj,QY,K3⟩;have rk:=fI bh;have AQ:s.bV.length≤60:=by have:=dB s.rs;have:=Sh.2.1;unfold Srv.bV;omega
      have Ah:=nx Sh 6 aj;rw [s.Cd] at Ah;have hsm2:s.sys.many=((s.sp.many+s.bV.length:Nat):Int):=rfl;refine nT (.seq (.ae (.y hs (zls [_,_,_,_,_,_,_,_] bA aM) (.o (.call call54 rfl (fK (s:=s) hs (h1.mono aq) (h2.mono aq) (h3.mono aq) (h4.mono aq) Sh) ?_)))));rintro _ w ⟨H2,aO,⟨ul,rfl,hL⟩,hs⟩;obtain ⟨al,cl,rfl⟩:=RL.shape hL;have WI:s.sys.cu.length=s.cu.length:=rfl;refine .o (.alloc hs fP rfl fun b8 w hs=>?_);refine .o (.aD (vs:=[_,_]) hs rfl rfl aZ fun w hs=>?_);refine .nil (.ae (.z (zfa bT) (.y hs (zld ai) (.z q5 (.z zm (.mW (t':=54) rfl (fun XS=>?_) (fun XS=>?_)))))))
      ·exact .Fs 4 3 false (.zn zpT (.cT (.ae (.zn zg (.ret (rT (Fin.bp Bb rfl ⟨H2,_,aq.trans aO,rfl,.big Sh aj,hs.out⟩)))))))
      ·refine .T (.z (zfa bS) (.T (.y hs (zld ft) (.T (.z (cJ aW) (.T (.z q5 (.zn zpF (.bX rfl (fun XI=>?_) (fun XI=>?_))))))))))
       ·exact .ae (.zn zg (.ret (rT (Fin.bp Bb rfl ⟨H2,_,aq.trans aO,rfl,.big Sh aj,hs.out⟩))))
       ·exact .skip (nT (.ae (.zn zg (.ret (Fin.bp Bb rfl ⟨H2,_,aq.trans aO,rfl,.ok Sh ⟨aj,aj⟩,hs.out⟩)))))
theorem ie{w:World}(hs:St H w σ):aaA 155 [I a0,I a1,I a2] w fun v w'=>v= .bool (decide (a1≤a0∧a0≤a2))∧St H w' σ:=by
 refine Cl.o func155 ntmps155 ag3 ?_;refine .ae (.zn zg (.ae (.z zm (.z zm (.z Bd (.z zm (.mW (t':=10) rfl (fun qy=>?_) (fun qy=>?_))))))))
 ·exact .T (.z zm (.T (.z zm (.T (.z rl (.z zpT (.zn zg (.ret (Fin.bp results155 rfl ⟨by simp [*],hs.out⟩)))))))))
 ·exact .Fs 3 3 true (.z zpF (.zn zg (.ret (Fin.bp results155 rfl ⟨by simp [*],hs.out⟩))))
theorem Ql{s:Spc}(h:fm s):iZ 9 100000 s.wa:=⟨h.wa.two,by have:=h.wa.many;omega,h.wa.low,by have:=h.wa.high;omega,h.wa.rise⟩
theorem oJ{w:World}{s:Spc}{r:Rdg}{vst vwa:Value}(hs:St H w σ)(h1:RI H vst s.st)(h2:RI H vwa s.wa):
  aaA 83 [.agg #[I s.id,I s.src,vst,vwa,I s.al,I s.up],.agg #[I r.src,I r.st,I r.wa,I r.val,I r.tol,I r.tape,I r.day]] w fun v w'=>∃b:Bool,v= .bool b∧(b=true↔mE s r)∧St H w' σ:=by
 obtain ⟨ast,cst,rfl⟩:=RI.shape h1;obtain ⟨awa,cwa,rfl⟩:=RI.shape h2;have l1:=(RI.len h1).2.2;have l2:=(RI.len h2).2.2;refine Cl.o func83 ntmps83 ag2 ?_;refine .ae (.bx hs fun b2 w hs=>?_);refine .bx hs fun b3 w hs=>?_
 refine .zn zg (.ae (.z (zfa fi) (.y hs (zld ai) (.o (.call Ze rfl (ie hs) ?_)))));rintro _ w ⟨rfl,hs⟩;refine .z zm (.bif (t':=8) rfl (fun PB=>?_) (fun PB=>?_))
 ·refine .T ?_;refine .z (zfa gg) (.T (.y hs (zld ai) (.T (.z (zfa bw) (.T (.y hs (zld an) (.T (.z (cJ af) (.T (.z iw (.T (.o (.call Ze rfl (ie hs) ?_)))))))))))));rintro _ w ⟨rfl,hs⟩;refine .z zpT (.z zm (.bif (t':=17) rfl (fun Ga=>?_) (fun Ga=>?_)))
  ·refine .T ?_;refine .z (zfa fZ) (.T (.y hs (zld ai) (.T (.z (zfa bg) (.T (.y hs (zld an) (.T (.z (cJ af) (.T (.z iw (.T (.o (.call Ze rfl (ie hs) ?_)))))))))))));rintro _ w ⟨rfl,hs⟩;refine .z zpT (.z zm (.bif (t':=26) rfl (fun F9=>?_) (fun F9=>?_)))
   ·refine .T (.z (zfa cR) (.T (.y hs (zld ai) (.T (.o (.call Ze rfl (ie hs) ?_))))));rintro _ w ⟨rfl,hs⟩;refine .z zpT (.z zm (.bif (t':=31) rfl (fun F7=>?_) (fun F7=>?_)))
    ·refine .T (.z (zfa eE) (.T (.y hs (zld ai) (.T (.z (zfa cR) (.T (.y hs (zld ai) (.T ?_))))))));have ht:0≤r.tol∧r.tol≤1000:=by simp_all
     refine .z iw (.T (.o (.call Ze rfl (ie hs) ?_)));rintro _ w ⟨rfl,hs⟩;refine .z zpT (.z zm (.bif (t':=39) rfl (fun Rl=>?_) (fun Rl=>?_)))
     ·refine .T (.z (zfa eD) (.T (.y hs (zld ai) (.T (.o (.call Ze rfl (ie hs) ?_))))));rintro _ w ⟨rfl,hs⟩;refine .z zpT (.z zm (.bif (t':=44) rfl (fun IM=>?_) (fun IM=>?_)))
      ·refine .T (.z (zfa dW) (.T (.y hs (zld ai) (.T (.o (.call Ze rfl (ie hs) ?_))))));rintro _ w ⟨rfl,hs⟩;refine .z zpT (.zn zg (.ret (Fin.bp Jj rfl ?_)));first
       |exact ⟨false,rfl,⟨fun h=>(by cases h),fun h=>(by obtain ⟨g1,g2,g3,g4,g5,g6,g7⟩:=h;simp_all;done)⟩,hs.out⟩
       |exact ⟨_,rfl,⟨fun h=>⟨by simp_all,by simp_all,by simp_all,by simp_all,by simp_all,by simp_all,by simpa using h⟩,fun h=>by simpa using h.day⟩,hs.out⟩
      ·refine .Fs 3 39 true (.z zpF (.zn zg (.ret (Fin.bp Jj rfl ?_))));first
       |exact ⟨false,rfl,⟨fun h=>(by cases h),fun h=>(by obtain ⟨g1,g2,g3,g4,g5,g6,g7⟩:=h;simp_all;done)⟩,hs.out⟩
       |exact ⟨_,rfl,⟨fun h=>⟨by simp_all,by simp_all,by simp_all,by simp_all,by simp_all,by simp_all,by simpa using h⟩,fun h=>by simpa using h.day⟩,hs.out⟩
     ·refine .Fs 3 34 true (.z zpF (.z zm (.Fs 3 39 true (.z zpF (.zn zg (.ret (Fin.bp Jj rfl ?_)))))));first
      |exact ⟨false,rfl,⟨fun h=>(by cases h),fun h=>(by obtain ⟨g1,g2,g3,g4,g5,g6,g7⟩:=h;simp_all;done)⟩,hs.out⟩
      |exact ⟨_,rfl,⟨fun h=>⟨by simp_all,by simp_all,by simp_all,by simp_all,by simp_all,by simp_all,by simpa using h⟩,fun h=>by simpa using h.day⟩,hs.out⟩
    ·refine .Fs 6 26 true (.z zpF (.z zm (.Fs 3 34 true (.z zpF (.z zm (.Fs 3 39 true (.z zpF (.zn zg (.ret (Fin.bp Jj rfl ?_))))))))));first
     |exact ⟨false,rfl,⟨fun h=>(by cases h),fun h=>(by obtain ⟨g1,g2,g3,g4,g5,g6,g7⟩:=h;simp_all;done)⟩,hs.out⟩
     |exact ⟨_,rfl,⟨fun h=>⟨by simp_all,by simp_all,by simp_all,by simp_all,by simp_all,by simp_all,by simpa using h⟩,fun h=>by simpa using h.day⟩,hs.out⟩
   ·refine .Fs 3 21 true (.z zpF (.z zm (.Fs 6 26 true (.z zpF (.z zm (.Fs 3 34 true (.z zpF (.z zm (.Fs 3 39 true (.z zpF (.zn zg (.ret (Fin.bp Jj rfl ?_)))))))))))));first
    |exact ⟨false,rfl,⟨fun h=>(by cases h),fun h=>(by obtain ⟨g1,g2,g3,g4,g5,g6,g7⟩:=h;simp_all;done)⟩,hs.out⟩
    |exact ⟨_,rfl,⟨fun h=>⟨by simp_all,by simp_all,by simp_all,by simp_all,by simp_all,by simp_all,by simpa using h⟩,fun h=>by simpa using h.day⟩,hs.out⟩
  ·refine .Fs 7 12 true (.z zpF (.z zm (.Fs 3 21 true (.z zpF (.z zm (.Fs 6 26 true (.z zpF (.z zm (.Fs 3 34 true (.z zpF (.z zm (.Fs 3 39 true (.z zpF (.zn zg (.ret (Fin.bp Jj rfl ?_))))))))))))))));first
   |exact ⟨false,rfl,⟨fun h=>(by cases h),fun h=>(by obtain ⟨g1,g2,g3,g4,g5,g6,g7⟩:=h;simp_all;done)⟩,hs.out⟩
   |exact ⟨_,rfl,⟨fun h=>⟨by simp_all,by simp_all,by simp_all,by simp_all,by simp_all,by simp_all,by simpa using h⟩,fun h=>by simpa using h.day⟩,hs.out⟩
 ·refine .Fs 7 3 true (.z zpF (.z zm (.Fs 7 12 true (.z zpF (.z zm (.Fs 3 21 true (.z zpF (.z zm (.Fs 6 26 true (.z zpF (.z zm (.Fs 3 34 true (.z zpF (.z zm (.Fs 3 39 true (.z zpF (.zn zg (.ret (Fin.bp Jj rfl ?_)))))))))))))))))));first
  |exact ⟨false,rfl,⟨fun h=>(by cases h),fun h=>(by obtain ⟨g1,g2,g3,g4,g5,g6,g7⟩:=h;simp_all;done)⟩,hs.out⟩
  |exact ⟨_,rfl,⟨fun h=>⟨by simp_all,by simp_all,by simp_all,by simp_all,by simp_all,by simp_all,by simpa using h⟩,fun h=>by simpa using h.day⟩,hs.out⟩
theorem iR{w:World}{s:Spc}{vst vwa:Value}(hs:St H w σ)(h1:RI H vst s.st)(h2:RI H vwa s.wa)(hb:s.st.length≤1000∧s.wa.length≤1000):
  aaA 35 [.agg #[I s.id,I s.src,vst,vwa,I s.al,I s.up]] w fun v w'=>v=I (s.many:Int)∧St H w' σ:=by
 obtain ⟨ast,cst,rfl⟩:=RI.shape h1;obtain ⟨awa,cwa,rfl⟩:=RI.shape h2;have hm:=ox (a:=(s.st.length:Int)) (b:=(s.wa.length:Int)) (A:=1000) (B:=1000) aj aj;refine Cl.o func35 ntmps35 ag1 ?_;refine .ae (.bx hs fun b1 w hs=>?_);exact .zn zg (.ae (.z (zfa bw) (.y hs (zld an) (.z (cJ af) (.z (zfa bg) (.y hs (zld an) (.z (cJ af) (.z nf (.zn zg (.ret (Fin.bp results35 rfl ⟨by unfold Spc.many;rw [Int.natCast_mul],hs.out⟩)))))))))))
theorem ed{w:World}{s:Spc}{vst vwa:Value}{b:Int}(hs:St H w σ)(h2:RI H vwa s.wa)(hb:s.wa.length≤1000)(ha: -1000≤a∧a≤1000)(hb': -1000≤b∧b≤1000):
  aaA 34 [.agg #[I s.id,I s.src,vst,vwa,I s.al,I s.up],I a,I b] w fun v w'=>v=I (1+a*s.wa.length+b)∧St H w' σ:=by
 obtain ⟨awa,cwa,rfl⟩:=RI.shape h2;have hm:=ox (a:=a) (b:=(s.wa.length:Int)) (A:=1000) (B:=1000) aj aj;refine Cl.o func34 ntmps34 ag3 ?_;refine .ae (.bx hs fun b3 w hs=>?_);exact .zn zg (.ae (.z zm (.z (zfa bg) (.y hs (zld an) (.z (cJ af) (.z nf (.z cz (.z zm (.z cz (.zn zg (.ret (Fin.bp results34 rfl ⟨rfl,hs.out⟩))))))))))))
theorem om{w:World}{b:Int}(hs:St H w σ)(ha:0≤a∧a≤100000)(hb:0≤b∧b≤100000):
  aaA 267 [I a,I b] w fun v w'=>v=I (mb a b)∧St H w' σ:=by
 have hm:=ox (a:=a) (b:=b) (A:=100000) (B:=100000) aj aj;have h0:=Int.mul_nonneg ha.1 hb.1;have NN:0≤(a*b+999).tdiv 1000:=Int.tdiv_nonneg aj aj;have Pe:(a*b+999).tdiv 1000≤a*b+999:=by rw [Int.tdiv_eq_ediv_of_nonneg aj];omega
 refine Cl.o func267 ntmps267 ag2 ?_;exact .ae (.zn zg (.ae (.z zm (.z zm (.z nf (.z cz (.q hs (DK rfl rfl aj aj) (.z Ju (.zn zg (.ret (Fin.bp results267 rfl ⟨rfl,hs⟩)))))))))))
theorem mM{w:World}{b m s:Int}(hs:St H w σ):
  aaA 266 [I a,I b,I m,I s] w fun v w'=>∃b0,v= .slice (some ⟨b0,0,none⟩) 2 2∧St H w' (.blk b0 (iq (two a b m m s))::σ):=by
 refine Cl.o func266 ntmps266 ag4 ?_;refine .ae (.zn zg (.ae (.z zm (.z zm (.z zm (.z zm (.z (zbd [_,_,_,_] dX) (.z zm (.z zm (.z zm (.z zm (.z (zbd [_,_,_,_] dX) (.o (.buildSlice (cells:=iq (two a b m m s)) hs fc rfl au fun Gl w hs=>?_))))))))))))));exact .zn zg (.ret (Fin.bp results266 rfl ⟨Gl,rfl,hs⟩))
theorem yJ{w:World}{c:Cmp}(hs:St H w σ)(Da: -1000000≤c.lo∧c.lo≤1000000):
  aaA 268 [.agg #[I c.src,I c.tape,I c.fr,I c.to,I c.lo,I c.hi],.agg #[I t.tape,I t.day],I f] w fun v w'=>∃en,bM 4 v (iq (nK c t f)) en∧St H w' (en::σ):=by
 refine Cl.o func268 ntmps268 ag3 ?_;refine .ae (.bx hs fun b3 w hs=>?_);refine .bx hs fun b4 w hs=>?_
 refine .zn zg (.seq (.ae (.z (zfa jT) (.y hs (zld ai) (.z (zfa pD) (.y hs (zld ai) (.z gE (.z zm (.Js (t':=12) rfl (fun Ll=>?_) (fun Ll=>?_))))))))))
 ·exact .Fs 5 5 false (.z zpT (.z zm (.Fs 5 12 false (.zn zpT (.cT (.ae (.zn zg (.ret (rT (Fin.bp results268 rfl ⟨.nul,by unfold nK;rw [if_neg aj];exact .nil 4 none,hs.tail.tail.nul⟩))))))))))
 ·refine .T (.z (zfa me) (.T (.y hs (zld ai) (.T (.z (zfa iC) (.T (.y hs (zld ai) (.T (.z jt (.z zpF (.z zm (.mW (t':=19) rfl (fun Cy=>?_) (fun Cy=>?_)))))))))))))
  ·exact .Fs 5 12 false (.zn zpT (.cT (.ae (.zn zg (.ret (rT (Fin.bp results268 rfl ⟨.nul,by unfold nK;rw [if_neg aj];exact .nil 4 none,hs.tail.tail.nul⟩)))))))
  ·refine .T (.z (zfa me) (.T (.y hs (zld ai) (.T (.z (zfa gq) (.T (.y hs (zld ai) (.T (.z q5 (.zn zpF (.bX rfl (fun kA=>?_) (fun kA=>?_))))))))))))
   ·exact .ae (.zn zg (.ret (rT (Fin.bp results268 rfl ⟨.nul,by unfold nK;rw [if_neg aj];exact .nil 4 none,hs.tail.tail.nul⟩))))
   ·refine .skip (nT (.ae (.z zm (.z (zfa iB) (.y hs (zld ai) (.z Md (.z (zfa gu) (.y hs (zld ai) (.z (zbd [_,_,_,_] dX) (.z zm (.z (zfa gj) (.y hs (zld ai) (.z (zfa gu) (.y hs (zld ai) (.z (zbd [_,_,_,_] dX) (.o (.buildSlice (cells:=iq (two 0 f (-c.lo) c.hi c.src)) hs fc rfl au fun VL w hs=>?_)))))))))))))))));exact .zn zg (.ret (Fin.bp results268 rfl ⟨_,by unfold nK;rw [if_pos aj];exact .full (by simp [two,fj]),hs.sb⟩))
theorem l8{w:World}{v:Value}{xs:List TD}(hs:St H w σ)(hr:RTd H v xs)(hl:xs.length≤1000000):
  aaA 36 [v,.agg #[I t.tape,I t.day]] w fun u w'=>u=I (l7 xs t)∧St H w' σ:=by
 obtain ⟨a,c,rfl⟩:=RTd.shape hr;refine Cl.o func36 ntmps36 ag2 ?_;refine .ae (.bx hs fun b3 w hs=>?_);refine .zn zg (.seq (.ae (.zn zg (.block ?_))));refine .loop (fun k:Nat=>⟨19,[],[(5,I (k:Int)),(3,Pt b3),(0,.slice a xs.length c)]⟩)
  (fun k w=>k≤xs.length∧(∀j<k,∀y,xs[j]? =some y→¬y=t)∧St H w (.blk b3 [I t.tape,I t.day]::σ)) (fun k=>xs.length - k) 0 (.dP rfl br bk)
  ⟨Nat.zero_le _,fun j hj=>by omega,hs⟩ ?_
 rintro k w ⟨hk,fF,hs⟩;refine .seq (.ae (.z zm (.z zm (.z (cJ bL) (.zn jt (.bX rfl (fun nP=>?_) (fun nP=>?_)))))))
 ·refine .skip (nT (.seq (.block (.seq (.draw mix rfl hs fun w hs=>?_)))));refine .zw 0 rfl zm ?_;refine .z 1 rfl zm ?_;obtain ⟨x,hx⟩:=nth (l:=xs) (k:=k) aj;refine .ixX (enc:=TD.c) (i:=2) hs rfl au .none hr rfl rfl bL cH hx dD ?_;intro tt o14 iW;refine .r (i:=3) hs rfl au .none (bD (vs:=x.c) rfl js cH iW) ?_;refine .zv 4 rfl hs (GP [_,_] js cH) ?_;refine .z 5 rfl (yT xQ xR mG (fun f hf=>by
   simp only [List.mem_cons,List.not_mem_nil,or_false] at hf
   rcases hf with rfl|rfl<;>exact ⟨by decide,aF,ai⟩) rfl rfl) ?_
  refine .D hs (.cond rfl (fun kV=>?_) (fun kV=>?_))
  ·refine .ae (.z zm (.zn zg (.ret (rB (rT (rT (rB (rT (Fin.bp results36 rfl ?_)))))))));have e:x=t:=MA.1 (of_decide_eq_true kV);subst e;exact ⟨by rw [tK hx fun j hj h=>fF j hj _ h rfl],hs.tail⟩
  ·exact .skip (nB (nT (.region (.z zm (.z cz (.zn zg (nT ⟨k+1,.dP rfl br bk,⟨aj,gv fF hx (fun e=>by subst e;simp at kV),hs⟩,aj⟩)))))))
 ·refine .exit (xT (xT (xB (nT (.ae (.zn zg (.ret (Fin.bp results36 rfl ?_))))))));obtain rfl:k=xs.length:=by omega
  exact ⟨by rw [BZ fF],hs.tail⟩
theorem qf{w:World}{v:Value}{xs:List TD}(hs:St H w (en::σ))(hO:bM 2 v (tdc xs).flatten en)(hl:xs.length≤1000000):
  aaA 36 [v,.agg #[I t.tape,I t.day]] w fun u w'=>u=I (l7 xs t)∧St H w' (en::σ):=by
 obtain ⟨a,c,rfl⟩:=hO.iQ (sF xs) aj;rw [eJ] at hO ⊢;refine Cl.o func36 ntmps36 ag2 ?_;refine .ae (.bx hs fun b3 w hs=>?_);refine .zn zg (.seq (.ae (.zn zg (.block ?_))));refine .loop (fun k:Nat=>⟨19,[],[(5,I (k:Int)),(3,Pt b3),(0,.slice a xs.length c)]⟩)
  (fun k w=>k≤xs.length∧(∀j<k,∀y,xs[j]? =some y→¬y=t)∧St H w (.blk b3 [I t.tape,I t.day]::en::σ)) (fun k=>xs.length - k) 0 (.dP rfl br bk)
  ⟨Nat.zero_le _,fun j hj=>by omega,hs⟩ ?_
 rintro k w ⟨hk,fF,hs⟩;refine .seq (.ae (.z zm (.z zm (.z (cJ bL) (.zn jt (.bX rfl (fun nP=>?_) (fun nP=>?_)))))))
 ·refine .skip (nT (.seq (.block (.seq (.draw mix rfl hs fun w hs=>?_)))));refine .zw 0 rfl zm ?_;refine .z 1 rfl zm ?_;obtain ⟨x,hx⟩:=nth (l:=xs) (k:=k) aj;obtain ⟨b,c',sp,hv,rfl,_⟩:=hO.Sv (sF xs) aj (by rw [eJ];omega);rw [eJ] at hv;cases hv
  refine .zw 2 rfl (yp bL cH) (.AJ (i:=3) (vs:=x.c) hs rfl au .none rfl js cH ?_ (hv:=wO (sF xs) (JG hx) sp));refine .zv 4 rfl hs (GP [_,_] js cH) ?_;refine .z 5 rfl (yT xQ xR mG (fun f hf=>by
   simp only [List.mem_cons,List.not_mem_nil,or_false] at hf
   rcases hf with rfl|rfl<;>exact ⟨by decide,aF,ai⟩) rfl rfl) ?_
  refine .D hs (.cond rfl (fun kV=>?_) (fun kV=>?_))
  ·refine .ae (.z zm (.zn zg (.ret (rB (rT (rT (rB (rT (Fin.bp results36 rfl ?_)))))))));have e:x=t:=MA.1 (of_decide_eq_true kV);subst e;exact ⟨by rw [tK hx fun j hj h=>fF j hj _ h rfl],hs.tail⟩
  ·exact .skip (nB (nT (.region (.z zm (.z cz (.zn zg (nT ⟨k+1,.dP rfl br bk,⟨aj,gv fF hx (fun e=>by subst e;simp at kV),hs⟩,aj⟩)))))))
 ·refine .exit (xT (xT (xB (nT (.ae (.zn zg (.ret (Fin.bp results36 rfl ?_))))))));obtain rfl:k=xs.length:=by omega
  exact ⟨by rw [BZ fF],hs.tail⟩
set_option maxHeartbeats 1000000 in
theorem jR{w:World}{rs:List Rdg}(hs:St H w σ)(hr:RRd H vr rs)(hl:rs.length≤1000000):
  aaA 37 [vr] w fun u w'=>∃H1,HLe H H1∧RTd H1 u (aQ rs)∧St H1 w' σ:=by
 obtain ⟨ar,cr,rfl⟩:=RRd.shape hr;refine Cl.o func37 ntmps37 ag1 ?_;refine .ae (.zn zg (.ae (.zn zg (.seq (.ae (.zn zg (.block ?_)))))));refine .loop (fun p:Nat×Value=>⟨32,[],[(4,I (p.1:Int)),(3,p.2),(0,.slice ar rs.length cr)]⟩)
  (fun p w=>p.1≤rs.length∧∃en,bM 2 p.2 (tdc (aQ (rs.take p.1))).flatten en∧St H w (en::σ)) (fun p=>rs.length - p.1) (0,.slice none 0 0) bk
  ⟨Nat.zero_le _,_,.nil 2 none,hs.nul⟩ ?_
 rintro ⟨k,vo⟩ w ⟨hk,en,hO,hs⟩;dsimp only at hk hO ⊢;have AQ:=mJ rs k aj;obtain ⟨ao,co,rfl⟩:=hO.iQ (sF _) aj;rw [eJ] at hO ⊢;refine .seq (.ae (.z zm (.z zm (.z (cJ aV) (.zn jt (.bX rfl (fun nP=>?_) (fun nP=>?_)))))))
 ·refine .skip (nT (.seq (.block (.seq (.draw mix rfl hs fun w hs=>?_)))));refine .zw 0 rfl zm ?_;refine .z 1 rfl zm ?_;obtain ⟨r,hx⟩:=nth (l:=rs) (k:=k) aj;have O9:=lI hx;refine .ixX (enc:=Rdg.c) (i:=2) hs rfl au .none hr rfl rfl aV bF hx dD ?_;intro tt o14 iW;have d14:cellAt H tt (o14+5)=some (I r.tape):=iW 5 _ rfl;refine .zw 3 rfl (zfa eD) ?_;refine .y 4 rfl hs ai ?_;refine .z 5 rfl zm ?_;refine .z 6 rfl zm ?_;refine .ixX (enc:=Rdg.c) (i:=7) hs rfl au .none hr rfl rfl aV bF hx dD ?_;intro Gl o19 mB;have d19:cellAt H Gl (o19+6)=some (I r.day):=mB 6 _ rfl;refine .zw 8 rfl (zfa dW) ?_;refine .y 9 rfl hs ai ?_;refine .z 10 rfl (zbd [_,_] jo) ?_;refine .E 11 hs ?_;refine .alloc hs uW rfl ?_;intro b5 w hs;refine .go (.E 12 hs ?_);refine .aD (vs:=[_,_]) hs rfl rfl cH ?_;intro w hs;refine .go (.D hs (.ae (.z zm (.y hs (zls [_,_] js cH) (.o (.call call36 rfl (qf (t:=r.td) (hs.sb:St H w (en:: .blk b5 [I r.tape,I r.day]::σ)) hO aj) ?_))))));rintro _ w ⟨rfl,hs⟩;have KR:=wI (l:=aQ (rs.take k)) (t:=r.td);refine .zn jt (.bX rfl (fun jC=>?_) (fun jC=>?_))
  ·refine .region (.z zm (.y hs (zls [_,_] js cH) (.o (.buildSlice (cells:=[_,_]) hs jD rfl rfl fun YL w hs=>?_))));refine .o (.append (ys:=r.td.c) hs eY rfl rfl hO (.own .here rfl rfl) (by simp [TD.c,Value.oneCell']) (fun l h=>by rw [bH _ (sF _),eJ] at h;omega) ?_);intro v30 en30 w eh hs;refine .zn zg (nB (nT (.region (.z zm (.z cz (.zn zg (nT ?_)))))));have hn:r.td∉aQ (rs.take k):=fun hm=>by have:=KR.2 hm;omega
   rw [←BY,show aQ (rs.take k)++[r.td]=aQ (rs.take (k+1)) by rw [O9];unfold uM;rw [if_neg hn]] at eh;exact ⟨(k+1,v30),.dP rfl br bk,⟨by dsimp only;omega,_,eh,hs.sb⟩,by dsimp only;omega⟩
  ·refine .skip (nB (nT (.region (.z zm (.z cz (.zn zg (nT ?_)))))));have hm:r.td∈aQ (rs.take k):=KR.1 aj;exact ⟨(k+1,_),.dP rfl br bk,⟨by dsimp only;omega,en,by dsimp only;rw [O9];unfold uM;rw [if_pos hm];exact hO,hs.sb⟩,by dsimp only;omega⟩
 ·refine .exit (xT (xT (xB (nT (.ae (.z zm (.zn zg (.ret (Fin.bp results37 rfl ?_)))))))));obtain rfl:k=rs.length:=by omega
  rw [List.take_length] at hO;have AQ:=dB rs;obtain ⟨H2,aO,hR,hs⟩:=bM.bQ (m:=2) (cs:=tdc (aQ rs)) hO (sF _) aj (by rw [eJ];omega) hs .here;rw [List.take_length];exact ⟨H2,aO,hR,hs⟩
theorem Jw(s:Spc)(i k:Nat):1+(i:Int)*(s.wa.length:Int)+(k:Int)=(s.u i k:Int):=by
 unfold Spc.u;rw [Int.natCast_add,Int.natCast_add,Int.natCast_mul];rfl
theorem SI(s:Spc)(i k:Nat):1+((i:Int)+1)*(s.wa.length:Int)+(k:Int)=(s.u (i+1) k:Int):=by
 rw [←Jw];rfl
theorem SH(s:Spc)(i k:Nat):1+(i:Int)*(s.wa.length:Int)+((k:Int)+1)=(s.u i (k+1):Int):=by
 rw [←Jw];rfl
theorem nA{f:Nat→Nat→List Lim}(hf:∀i k,(f i k).length≤2)(i:Nat):∀k,(ow f i k).length≤2*k
 |0=>by simp [ow]
 |k+1=>by have:=nA hf i k;have:=hf i k;simp only [ow,List.length_append];omega
theorem ou{f:Nat→Nat→List Lim}(hf:∀i k,(f i k).length≤2){m n:Nat}(hm:m≤7)(hn:n≤9)(h0:0<m):(eG f m n).length≤126:=by
 have h1:=fw hf (n:=n) h0;have:n*m≤9*7:=Nat.mul_le_mul hn hm;omega
theorem RP{s:Spc}(h0:0<s.st.length):eG (alL s) s.wa.length s.st.length=eG (alL s) s.wa.length (s.st.length - 1):=by
 obtain ⟨n,hn⟩:∃n,s.st.length=n+1:=⟨s.st.length - 1,aj⟩;have key:∀k,ow (alL s) n k=[]:=by
  intro k
  induction k with
  |zero=>rfl
  |succ k ih=>simp only [ow];rw [ih];unfold alL;rw [if_neg aj];rfl
 rw [hn,Nat.add_sub_cancel];simp only [eG];rw [key,List.append_nil]
theorem Qb{s:Spc}(i:Nat)(h0:0<s.wa.length):ow (upL s) i s.wa.length=ow (upL s) i (s.wa.length - 1):=by
 obtain ⟨n,hn⟩:∃n,s.wa.length=n+1:=⟨s.wa.length - 1,aj⟩;have e:upL s i n=[]:=by unfold upL;rw [if_neg aj]
 rw [hn,Nat.add_sub_cancel];simp only [ow];rw [e,List.append_nil]
set_option maxHeartbeats 4000000 in
theorem xl{w:World}{vst vwa:Value}(hs:St H w σ)(h1:RI H vst s.sp.st)(h2:RI H vwa s.sp.wa)(h3:RRd H vr s.rs)(h4:RCm H vc s.cs)(he:s.early):
  aaA 230 [.agg #[I s.sp.id,I s.sp.src,vst,vwa,I s.sp.al,I s.sp.up,vr,vc]] w fun u w'=>∃H1 en,HLe H H1∧bM 4 u (iq s.cu) en∧St H1 w' (en::σ):=by
 obtain ⟨ast,cst,rfl⟩:=RI.shape h1;obtain ⟨awa,cwa,rfl⟩:=RI.shape h2;obtain ⟨ar,cr,rfl⟩:=RRd.shape h3;obtain ⟨ac,cc,rfl⟩:=RCm.shape h4;obtain ⟨bh,Ea,Ai,QY,K3⟩:=he;have rk:=fI bh;have zr:=bh.st.many;have W8:=bh.wa.many;have hn3:=bh.st.two;have hn4:=bh.wa.two;have ha:=ou (oW s.sp) (m:=s.sp.wa.length) (n:=s.sp.st.length) aj aj aj;have hb:=ou (tu s.sp) (m:=s.sp.wa.length) (n:=s.sp.st.length) aj aj aj;have hc:=ou (sE s.sp) (m:=s.sp.wa.length) (n:=s.sp.st.length) aj aj aj;have En:=bh.al;have QS:=bh.up;refine Cl.o func230 ntmps230 ag1 ?_;refine .ae (.bx hs fun b1 w hs=>?_);refine .zn zg (.ae (.z (zfa bj) (.y hs (zls [_,_,_,_,_,_] bu aI) (.o (.alloc hs i6 rfl fun b3 w hs=>?_)))));refine .o (.aD (vs:=[_,_,_,_,_,_]) hs rfl rfl aI fun w hs=>?_);refine .nil (.ae (.zn zg (.seq (.ae (.zn zg (.block ?_))))));refine .loop (fun p:Nat×Value=>⟨243,[],[(5,I (p.1:Int)),(4,p.2),(3,Pt b3),(1,Pt b1)]⟩)
  (fun p w=>p.1≤s.sp.st.length∧∃en,bM 4 p.2 (iq (eG (uB s.sp) s.sp.wa.length p.1)) en∧St H w (en:: .blk b3 [I s.sp.id,I s.sp.src,.slice ast s.sp.st.length cst,.slice awa s.sp.wa.length cwa,I s.sp.al,I s.sp.up]:: .blk b1 [I s.sp.id,I s.sp.src,.slice ast s.sp.st.length cst,.slice awa s.sp.wa.length cwa,I s.sp.al,I s.sp.up,.slice ar s.rs.length cr,.slice ac s.cs.length cc]::σ)) (fun p=>s.sp.st.length - p.1) (0,.slice none 0 0) bk
  ⟨by first|omega|exact Nat.zero_le _,_,.nil 4 none,hs.nul⟩ ?_
 rintro ⟨i,vo⟩ w ⟨hi,en,hO,hs⟩;dsimp only at hi hO ⊢;refine .seq (.ae (.z zm (.z (zfa bw) (.y hs (zld an) (.z (cJ af) (.zn jt (.bX rfl (fun xC=>?_) (fun xC=>?_))))))))
 ·refine .skip (nT (.seq (.block (.ae (.zn zg (.block ?_))))));refine .loop (fun p:Nat×Value=>⟨243,[],[(6,I (p.1:Int)),(4,p.2),(5,I (i:Int)),(3,Pt b3),(1,Pt b1)]⟩)
   (fun p w=>p.1≤s.sp.wa.length∧∃en,bM 4 p.2 (iq (eG (uB s.sp) s.sp.wa.length i++ow (uB s.sp) i p.1)) en∧St H w (en:: .blk b3 [I s.sp.id,I s.sp.src,.slice ast s.sp.st.length cst,.slice awa s.sp.wa.length cwa,I s.sp.al,I s.sp.up]:: .blk b1 [I s.sp.id,I s.sp.src,.slice ast s.sp.st.length cst,.slice awa s.sp.wa.length cwa,I s.sp.al,I s.sp.up,.slice ar s.rs.length cr,.slice ac s.cs.length cc]::σ)) (fun p=>s.sp.wa.length - p.1) (0,vo) bk
   ⟨by first|omega|exact Nat.zero_le _,en,by show bM 4 vo (iq (_++[])) en;rw [List.append_nil];exact hO,hs⟩ ?_
  clear hO hs;rintro ⟨k,vo⟩ w ⟨hk,en,hO,hs⟩;dsimp only at hk hO ⊢;have GZ:=ou (oW s.sp) (m:=s.sp.wa.length) (n:=i) aj aj aj;have NR:=nA (oW s.sp) i k;refine .seq (.ae (.z zm (.z (zfa bg) (.y hs (zld an) (.z (cJ af) (.zn jt (.bX rfl (fun ma=>?_) (fun ma=>?_))))))))
  ·refine .skip (nT (.seq (.block (.ae (.y hs (zls [_,_,_,_,_,_] bu aI) (.z zm (.z zm (.o (.call Zd rfl (ed (s:=s.sp) hs h2 aj ⟨aj,aj⟩ ⟨aj,aj⟩) ?_)))))))));rintro _ w ⟨rfl,hs⟩;rw [Jw];refine .zn zg (.region (.z zm (.z zm (.z (zfa db) (.y hs (zld ai) (.z (zbd [_,_,_,_] dX) (.z zm (.z (zfa db) (.y hs (zld ai) (.z (zbd [_,_,_,_] dX) (.o (.buildSlice (cells:=iq (uB s.sp i k)) hs fc rfl au fun YJ w hs=>?_))))))))))));refine .o (.append (ys:=iq (uB s.sp i k)) hs cj rfl rfl hO (.own .here rfl rfl) (mZ _) (fun l h=>by rw [fj,List.length_append] at h;omega) ?_);intro v51 en51 w eh hs;rw [←jq,List.append_assoc] at eh;exact .zn zg (nB (nT (.region (.z zm (.z cz (.zn zg (nT ⟨(k+1,v51),.dP rfl br bk,⟨by dsimp only;omega,_,eh,hs.sb⟩,by dsimp only;omega⟩)))))))
  ·refine .exit (xT (xT (xB (nB (nT (.region (.z zm (.z cz (.zn zg (nT ?_))))))))));obtain rfl:k=s.sp.wa.length:=by omega
   exact ⟨(i+1,_),.dP rfl br bk,⟨by dsimp only;omega,en,hO,hs⟩,by dsimp only;omega⟩
 ·refine .exit (xT (xT (xB (nT (.seq (.ae (.zn zg (.block ?_))))))));refine .loop (fun p:Nat×Value=>⟨243,[],[(8,I (p.1:Int)),(4,p.2),(3,Pt b3),(1,Pt b1)]⟩)
   (fun p w=>p.1+1≤s.sp.st.length∧∃en,bM 4 p.2 (iq (eG (uB s.sp) s.sp.wa.length s.sp.st.length++eG (alL s.sp) s.sp.wa.length p.1)) en∧St H w (en:: .blk b3 [I s.sp.id,I s.sp.src,.slice ast s.sp.st.length cst,.slice awa s.sp.wa.length cwa,I s.sp.al,I s.sp.up]:: .blk b1 [I s.sp.id,I s.sp.src,.slice ast s.sp.st.length cst,.slice awa s.sp.wa.length cwa,I s.sp.al,I s.sp.up,.slice ar s.rs.length cr,.slice ac s.cs.length cc]::σ)) (fun p=>s.sp.st.length - p.1) (0,vo) bk
   ⟨by first|omega|exact Nat.zero_le _,en,by show bM 4 vo (iq (_++[])) en;rw [List.append_nil,←show i=s.sp.st.length by omega];exact hO,hs⟩ ?_
  clear hO hs;rintro ⟨i,vo⟩ w ⟨hi,en,hO,hs⟩;dsimp only at hi hO ⊢;refine .seq (.ae (.z zm (.z cz (.z (zfa bw) (.y hs (zld an) (.z (cJ af) (.zn jt (.bX rfl (fun XJ=>?_) (fun XJ=>?_)))))))))
  ·refine .skip (nT (.seq (.block (.ae (.zn zg (.block ?_))))));refine .loop (fun p:Nat×Value=>⟨243,[],[(9,I (p.1:Int)),(4,p.2),(8,I (i:Int)),(3,Pt b3),(1,Pt b1)]⟩)
    (fun p w=>p.1≤s.sp.wa.length∧∃en,bM 4 p.2 (iq (eG (uB s.sp) s.sp.wa.length s.sp.st.length++eG (alL s.sp) s.sp.wa.length i++ow (alL s.sp) i p.1)) en∧St H w (en:: .blk b3 [I s.sp.id,I s.sp.src,.slice ast s.sp.st.length cst,.slice awa s.sp.wa.length cwa,I s.sp.al,I s.sp.up]:: .blk b1 [I s.sp.id,I s.sp.src,.slice ast s.sp.st.length cst,.slice awa s.sp.wa.length cwa,I s.sp.al,I s.sp.up,.slice ar s.rs.length cr,.slice ac s.cs.length cc]::σ)) (fun p=>s.sp.wa.length - p.1) (0,vo) bk
    ⟨by first|omega|exact Nat.zero_le _,en,by show bM 4 vo (iq (_++[])) en;rw [List.append_nil];exact hO,hs⟩ ?_
   clear hO hs;rintro ⟨k,vo⟩ w ⟨hk,en,hO,hs⟩;dsimp only at hk hO ⊢;have GZ:=ou (tu s.sp) (m:=s.sp.wa.length) (n:=i) aj aj aj;have NR:=nA (tu s.sp) i k;refine .seq (.ae (.z zm (.z (zfa bg) (.y hs (zld an) (.z (cJ af) (.zn jt (.bX rfl (fun K6=>?_) (fun K6=>?_))))))))
   ·refine .skip (nT (.seq (.block (.draw mix rfl hs fun w hs=>?_))));refine .zw 0 rfl zm ?_;refine .ys 1 rfl hs [_,_,_,_,_,_] bu aI ?_;refine .z 2 rfl zm ?_;refine .z 3 rfl zm ?_;refine .ys 5 rfl hs [_,_,_,_,_,_] bu aI ?_;refine .z 6 rfl zm ?_;refine .z 7 rfl cz ?_;refine .z 8 rfl zm ?_;refine .z 10 rfl (zfa eQ) ?_;refine .z 11 rfl (zfa oU) ?_;refine .y 12 rfl hs ai ?_;refine .z 13 rfl (zfa bw) ?_;refine .y 14 rfl hs an ?_;refine .z 15 rfl zm ?_;refine .z 16 rfl cz ?_;have QZ:=bh.st.rise i aj;have NN:=bh.st.bd (i:=i) aj;have Pe:=bh.st.bd (i:=i+1) aj;refine .ixX (enc:=fun x=>[I x]) (i:=17) hs rfl au .none h1 rfl rfl af ak (bG (l:=s.sp.st) (i:=(i+1)) aj) dD ?_;intro b84 o84 Rc;replace Rc:=bE.one Rc;refine .r (i:=18) hs rfl au .none (aP rfl ai Rc) ?_;refine .zw 19 rfl (zfa bw) ?_;refine .y 20 rfl hs an ?_;refine .z 21 rfl zm ?_;refine .ixX (enc:=fun x=>[I x]) (i:=22) hs rfl au .none h1 rfl rfl af ak (bG (l:=s.sp.st) (i:=i) aj) dD ?_;intro b89 o89 Rb;replace Rb:=bE.one Rb;refine .r (i:=23) hs rfl au .none (aP rfl ai Rb) ?_;refine .zw 24 rfl iw ?_;refine .z 26 rfl (zfa db) ?_;refine .y 27 rfl hs ai ?_;refine .E 4 hs ?_;refine .call Zd rfl (ed (s:=s.sp) hs h2 aj ⟨aj,aj⟩ ⟨aj,aj⟩) ?_;rintro _ w ⟨rfl,hs⟩;rw [Jw];refine .go (.E 9 hs ?_);refine .call Zd rfl (ed (s:=s.sp) hs h2 aj ⟨aj,aj⟩ ⟨aj,aj⟩) ?_;rintro _ w ⟨rfl,hs⟩;rw [SI];refine .go (.E 25 hs ?_);refine .call call267 rfl (om hs aj aj) ?_;rintro _ w ⟨rfl,hs⟩;refine .go (.E 28 hs ?_);refine .call call266 rfl (mM hs) ?_;rintro _ w ⟨b95,rfl,hs⟩;rw [show two (s.sp.u i k:Int) _ _ _ _=alL s.sp i k by unfold alL;rw [if_pos aj]] at hs;refine .go (.E 29 hs ?_);refine .append (ys:=iq (alL s.sp i k)) hs cj rfl rfl hO (.own .here br (by rw [fj];unfold alL;rw [if_pos aj];rfl)) (mZ _) (fun l h=>by rw [fj] at h;simp only [List.length_append] at h;omega) ?_;intro v96 en96 w eh hs;rw [←jq,List.append_assoc _ (ow _ _ _)] at eh;refine .go (.zw 30 rfl zg ?_);refine .D hs ?_;exact nB (nT (.region (.z zm (.z cz (.zn zg (nT ⟨(k+1,v96),.dP rfl br bk,⟨by dsimp only;omega,_,eh,hs.sb⟩,by dsimp only;omega⟩))))))
   ·refine .exit (xT (xT (xB (nB (nT (.region (.z zm (.z cz (.zn zg (nT ?_))))))))));obtain rfl:k=s.sp.wa.length:=by omega
    rw [List.append_assoc] at hO;exact ⟨(i+1,_),.dP rfl br bk,⟨by dsimp only;omega,en,hO,hs⟩,by dsimp only;omega⟩
  ·refine .exit (xT (xT (xB (nT (.seq (.ae (.zn zg (.block ?_))))))));refine .loop (fun p:Nat×Value=>⟨243,[],[(10,I (p.1:Int)),(4,p.2),(3,Pt b3),(1,Pt b1)]⟩)
    (fun p w=>p.1≤s.sp.st.length∧∃en,bM 4 p.2 (iq (eG (uB s.sp) s.sp.wa.length s.sp.st.length++eG (alL s.sp) s.sp.wa.length s.sp.st.length++eG (upL s.sp) s.sp.wa.length p.1)) en∧St H w (en:: .blk b3 [I s.sp.id,I s.sp.src,.slice ast s.sp.st.length cst,.slice awa s.sp.wa.length cwa,I s.sp.al,I s.sp.up]:: .blk b1 [I s.sp.id,I s.sp.src,.slice ast s.sp.st.length cst,.slice awa s.sp.wa.length cwa,I s.sp.al,I s.sp.up,.slice ar s.rs.length cr,.slice ac s.cs.length cc]::σ)) (fun p=>s.sp.st.length - p.1) (0,vo) bk
    ⟨by first|omega|exact Nat.zero_le _,en,by show bM 4 vo (iq (_++[])) en;rw [List.append_nil,RP aj,←show i=s.sp.st.length - 1 by omega];exact hO,hs⟩ ?_
   clear hO hs;rintro ⟨i,vo⟩ w ⟨hi,en,hO,hs⟩;dsimp only at hi hO ⊢;refine .seq (.ae (.z zm (.z (zfa bw) (.y hs (zld an) (.z (cJ af) (.zn jt (.bX rfl (fun Uf=>?_) (fun Uf=>?_))))))))
   ·refine .skip (nT (.seq (.block (.ae (.zn zg (.block ?_))))));refine .loop (fun p:Nat×Value=>⟨243,[],[(11,I (p.1:Int)),(4,p.2),(10,I (i:Int)),(3,Pt b3),(1,Pt b1)]⟩)
     (fun p w=>p.1+1≤s.sp.wa.length∧∃en,bM 4 p.2 (iq (eG (uB s.sp) s.sp.wa.length s.sp.st.length++eG (alL s.sp) s.sp.wa.length s.sp.st.length++eG (upL s.sp) s.sp.wa.length i++ow (upL s.sp) i p.1)) en∧St H w (en:: .blk b3 [I s.sp.id,I s.sp.src,.slice ast s.sp.st.length cst,.slice awa s.sp.wa.length cwa,I s.sp.al,I s.sp.up]:: .blk b1 [I s.sp.id,I s.sp.src,.slice ast s.sp.st.length cst,.slice awa s.sp.wa.length cwa,I s.sp.al,I s.sp.up,.slice ar s.rs.length cr,.slice ac s.cs.length cc]::σ)) (fun p=>s.sp.wa.length - p.1) (0,vo) bk
     ⟨by first|omega|exact Nat.zero_le _,en,by show bM 4 vo (iq (_++[])) en;rw [List.append_nil];exact hO,hs⟩ ?_
    clear hO hs;rintro ⟨k,vo⟩ w ⟨hk,en,hO,hs⟩;dsimp only at hk hO ⊢;have GZ:=ou (sE s.sp) (m:=s.sp.wa.length) (n:=i) aj aj aj;have NR:=nA (sE s.sp) i k;refine .seq (.ae (.z zm (.z cz (.z (zfa bg) (.y hs (zld an) (.z (cJ af) (.zn jt (.bX rfl (fun Py=>?_) (fun Py=>?_)))))))))
    ·refine .skip (nT (.seq (.block (.draw mix rfl hs fun w hs=>?_))));refine .zw 0 rfl zm ?_;refine .ys 1 rfl hs [_,_,_,_,_,_] bu aI ?_;refine .z 2 rfl zm ?_;refine .z 3 rfl zm ?_;refine .ys 5 rfl hs [_,_,_,_,_,_] bu aI ?_;refine .z 6 rfl zm ?_;refine .z 7 rfl zm ?_;refine .z 8 rfl cz ?_;refine .z 10 rfl (zfa eQ) ?_;refine .z 11 rfl (zfa oT) ?_;refine .y 12 rfl hs ai ?_;refine .z 13 rfl (zfa bg) ?_;refine .y 14 rfl hs an ?_;refine .z 15 rfl zm ?_;refine .z 16 rfl cz ?_;have QZ:=bh.wa.rise k aj;have NN:=bh.wa.bd (i:=k) aj;have Pe:=bh.wa.bd (i:=k+1) aj;refine .ixX (enc:=fun x=>[I x]) (i:=17) hs rfl au .none h2 rfl rfl af ak (bG (l:=s.sp.wa) (i:=(k+1)) aj) dD ?_;intro b129 o129 Lc;replace Lc:=bE.one Lc;refine .r (i:=18) hs rfl au .none (aP rfl ai Lc) ?_;refine .zw 19 rfl (zfa bg) ?_;refine .y 20 rfl hs an ?_;refine .z 21 rfl zm ?_;refine .ixX (enc:=fun x=>[I x]) (i:=22) hs rfl au .none h2 rfl rfl af ak (bG (l:=s.sp.wa) (i:=k) aj) dD ?_;intro YO o134 G4;replace G4:=bE.one G4;refine .r (i:=23) hs rfl au .none (aP rfl ai G4) ?_;refine .zw 24 rfl iw ?_;refine .z 26 rfl (zfa db) ?_;refine .y 27 rfl hs ai ?_;refine .E 4 hs ?_;refine .call Zd rfl (ed (s:=s.sp) hs h2 aj ⟨aj,aj⟩ ⟨aj,aj⟩) ?_;rintro _ w ⟨rfl,hs⟩;rw [Jw];refine .go (.E 9 hs ?_);refine .call Zd rfl (ed (s:=s.sp) hs h2 aj ⟨aj,aj⟩ ⟨aj,aj⟩) ?_;rintro _ w ⟨rfl,hs⟩;rw [SH];refine .go (.E 25 hs ?_);refine .call call267 rfl (om hs aj aj) ?_;rintro _ w ⟨rfl,hs⟩;refine .go (.E 28 hs ?_);refine .call call266 rfl (mM hs) ?_;rintro _ w ⟨b140,rfl,hs⟩;rw [show two (s.sp.u i k:Int) _ _ _ _=upL s.sp i k by unfold upL;rw [if_pos aj]] at hs;refine .go (.E 29 hs ?_);refine .append (ys:=iq (upL s.sp i k)) hs cj rfl rfl hO (.own .here br (by rw [fj];unfold upL;rw [if_pos aj];rfl)) (mZ _) (fun l h=>by rw [fj] at h;simp only [List.length_append] at h;omega) ?_;intro v141 en141 w eh hs;rw [←jq,List.append_assoc _ (ow _ _ _)] at eh;refine .go (.zw 30 rfl zg ?_);refine .D hs ?_;exact nB (nT (.region (.z zm (.z cz (.zn zg (nT ⟨(k+1,v141),.dP rfl br bk,⟨by dsimp only;omega,_,eh,hs.sb⟩,by dsimp only;omega⟩))))))
    ·refine .exit (xT (xT (xB (nB (nT (.region (.z zm (.z cz (.zn zg (nT ?_))))))))));obtain rfl:k=s.sp.wa.length - 1:=by omega
     rw [List.append_assoc,←Qb i aj] at hO;exact ⟨(i+1,_),.dP rfl br bk,⟨by dsimp only;omega,en,hO,hs⟩,by dsimp only;omega⟩
   ·refine .exit (xT (xT (xB (nT (.ae (.z (zfa aS) (.y hs (zld fa) ?_)))))));obtain rfl:i=s.sp.st.length:=by omega
    refine .o (.call call37 rfl (jR hs h3 aj) ?_);rintro v144 w ⟨H1,aq,hT,hs⟩;replace hT:RTd H1 v144 s.bV:=hT;have AQ:s.bV.length≤60:=by have:=dB s.rs;unfold Srv.bV;omega
    have zt:∀r∈s.rs,r.td∈s.bV:=fun r hr=>eK.2 ⟨r,hr,rfl⟩
    have TI:s.cu=eG (uB s.sp) s.sp.wa.length s.sp.st.length++eG (alL s.sp) s.sp.wa.length s.sp.st.length++eG (upL s.sp) s.sp.wa.length s.sp.st.length++BL s.sp s.bV.length++xD s.sp s.bV s.cs 0 s.cs.length++yQ s.sp s.bV s.rs s.rs.length:=rfl;generalize s.bV=ts at*;obtain ⟨at_,ct,rfl⟩:=RTd.shape hT;refine .zn zg (.ae (.y hs (zls [_,_,_,_,_,_] bu aI) (.o (.call call35 rfl (iR (s:=s.sp) hs (h1.mono aq) (h2.mono aq) ⟨aj,aj⟩) ?_))));rintro _ w ⟨rfl,hs⟩;refine .zn zg (.seq (.ae (.zn zg (.block ?_))));refine .loop (fun p:Nat×Value=>⟨243,[],[(14,I (p.1:Int)),(4,p.2),(12,.slice at_ ts.length ct),(13,I (s.sp.many:Int)),(3,Pt b3),(1,Pt b1)]⟩)
     (fun p w=>p.1≤ts.length∧∃en,bM 4 p.2 (iq (eG (uB s.sp) s.sp.wa.length s.sp.st.length++eG (alL s.sp) s.sp.wa.length s.sp.st.length++eG (upL s.sp) s.sp.wa.length s.sp.st.length++BL s.sp p.1)) en∧St H1 w (en:: .blk b3 [I s.sp.id,I s.sp.src,.slice ast s.sp.st.length cst,.slice awa s.sp.wa.length cwa,I s.sp.al,I s.sp.up]:: .blk b1 [I s.sp.id,I s.sp.src,.slice ast s.sp.st.length cst,.slice awa s.sp.wa.length cwa,I s.sp.al,I s.sp.up,.slice ar s.rs.length cr,.slice ac s.cs.length cc]::σ)) (fun p=>ts.length - p.1) (0,vo) bk
     ⟨by first|omega|exact Nat.zero_le _,en,by show bM 4 vo (iq (_++[])) en;rw [List.append_nil];exact hO,hs⟩ ?_
    clear hO hs;rintro ⟨j,vo⟩ w ⟨hj,en,hO,hs⟩;dsimp only at hj hO ⊢;have Sg:=kh s.sp j;refine .seq (.ae (.z zm (.z zm (.z (cJ bL) (.zn jt (.bX rfl (fun Lb=>?_) (fun Lb=>?_)))))))
    ·refine .skip (nT (.seq (.block (.region (.z zm (.z zm (.z cz (.z zm (.z cz (.z (zfa db) (.y hs (zld ai) (.o (.call call266 rfl (mM hs) ?_)))))))))))));rintro _ w ⟨b160,rfl,hs⟩;refine .o (.append (ys:=iq (two 0 ((s.sp.many:Int)+1+(j:Int)) 1000 1000 s.sp.src)) hs cj rfl rfl hO (.own .here rfl rfl) (mZ _) (fun l h=>by rw [fj] at h;simp only [List.length_append] at h;omega) ?_);intro v161 en161 w eh hs;rw [←jq,List.append_assoc _ (BL _ _),show (s.sp.many:Int)+1+(j:Int)=((s.sp.many+1+j:Nat):Int) by omega] at eh;exact .zn zg (nB (nT (.region (.z zm (.z cz (.zn zg (nT ⟨(j+1,v161),.dP rfl br bk,⟨by dsimp only;omega,_,eh,hs.sb⟩,by dsimp only;omega⟩)))))))
    ·refine .exit (xT (xT (xB (nT (.seq (.ae (.zn zg (.block ?_))))))));refine .loop (fun p:Nat×Value=>⟨243,[],[(15,I (p.1:Int)),(4,p.2),(12,.slice at_ ts.length ct),(13,I (s.sp.many:Int)),(3,Pt b3),(1,Pt b1)]⟩)
      (fun p w=>p.1≤s.cs.length∧∃en,bM 4 p.2 (iq (eG (uB s.sp) s.sp.wa.length s.sp.st.length++eG (alL s.sp) s.sp.wa.length s.sp.st.length++eG (upL s.sp) s.sp.wa.length s.sp.st.length++BL s.sp ts.length++xD s.sp ts s.cs 0 p.1)) en∧St H1 w (en:: .blk b3 [I s.sp.id,I s.sp.src,.slice ast s.sp.st.length cst,.slice awa s.sp.wa.length cwa,I s.sp.al,I s.sp.up]:: .blk b1 [I s.sp.id,I s.sp.src,.slice ast s.sp.st.length cst,.slice awa s.sp.wa.length cwa,I s.sp.al,I s.sp.up,.slice ar s.rs.length cr,.slice ac s.cs.length cc]::σ)) (fun p=>s.cs.length - p.1) (0,vo) bk
      ⟨by first|omega|exact Nat.zero_le _,en,by show bM 4 vo (iq (_++[])) en;rw [List.append_nil,←show j=ts.length by omega];exact hO,hs⟩ ?_
     clear hO hs;rintro ⟨i,vo⟩ w ⟨hi,en,hO,hs⟩;dsimp only at hi hO ⊢;have Sg:=kh s.sp ts.length;have Xx:=ki s.sp ts s.cs 0 i;have Xw:i*(2*(ts.length - 0))≤20*(2*60):=Nat.mul_le_mul aj aj;refine .seq (.ae (.z zm (.z (zfa dz) (.y hs (zld rW) (.z (cJ cQ) (.zn jt (.bX rfl (fun T8=>?_) (fun T8=>?_))))))))
     ·refine .skip (nT (.seq (.block (.ae (.zn zg (.block ?_))))));refine .loop (fun p:Nat×Value=>⟨243,[],[(16,I (p.1:Int)),(4,p.2),(15,I (i:Int)),(12,.slice at_ ts.length ct),(13,I (s.sp.many:Int)),(3,Pt b3),(1,Pt b1)]⟩)
       (fun p w=>p.1≤ts.length∧∃en,bM 4 p.2 (iq (eG (uB s.sp) s.sp.wa.length s.sp.st.length++eG (alL s.sp) s.sp.wa.length s.sp.st.length++eG (upL s.sp) s.sp.wa.length s.sp.st.length++BL s.sp ts.length++xD s.sp ts s.cs 0 i++mU s.sp ts (zQ s.cs i) 0 p.1)) en∧St H1 w (en:: .blk b3 [I s.sp.id,I s.sp.src,.slice ast s.sp.st.length cst,.slice awa s.sp.wa.length cwa,I s.sp.al,I s.sp.up]:: .blk b1 [I s.sp.id,I s.sp.src,.slice ast s.sp.st.length cst,.slice awa s.sp.wa.length cwa,I s.sp.al,I s.sp.up,.slice ar s.rs.length cr,.slice ac s.cs.length cc]::σ)) (fun p=>ts.length - p.1) (0,vo) bk
       ⟨by first|omega|exact Nat.zero_le _,en,by show bM 4 vo (iq (_++[])) en;rw [List.append_nil];exact hO,hs⟩ ?_
      clear hO hs;rintro ⟨j,vo⟩ w ⟨hj,en,hO,hs⟩;dsimp only at hj hO ⊢;have GZ:=nD s.sp ts (zQ s.cs i) 0 j;refine .seq (.ae (.z zm (.z zm (.z (cJ bL) (.zn jt (.bX rfl (fun T7=>?_) (fun T7=>?_)))))))
      ·refine .skip (nT (.seq (.block (.draw mix rfl hs fun w hs=>?_))));refine .zw 0 rfl zm ?_;refine .z 1 rfl (zfa dz) ?_;refine .y 2 rfl hs rW ?_;refine .z 3 rfl zm ?_;obtain ⟨c,hx⟩:=nth (l:=s.cs) (k:=i) aj;obtain ⟨t,ht⟩:=nth (l:=ts) (k:=j) aj;obtain ⟨g1,g2,g3,g4,g5,g6⟩:=K3 c (List.mem_of_getElem? hx);have ec:=LO hx;have et:=OU ht;refine .ixX (enc:=Cmp.c) (i:=4) hs rfl au .none (h4.mono aq) rfl rfl cQ dO hx dD ?_;intro b179 o179 T6;refine .r (i:=5) hs rfl au .none (bD (vs:=c.c) rfl wD dO T6) ?_;refine .zw 6 rfl zm ?_;refine .z 7 rfl zm ?_;refine .ixX (enc:=TD.c) (i:=8) hs rfl au .none hT rfl rfl bL cH ht dD ?_;intro b183 o183 T5;refine .r (i:=9) hs rfl au .none (bD (vs:=t.c) rfl js cH T5) ?_;refine .zw 10 rfl zm ?_;refine .z 11 rfl cz ?_;refine .z 12 rfl zm ?_;refine .z 13 rfl cz ?_;refine .E 14 hs ?_;refine .call call268 rfl (yJ (c:=c) (t:=t) hs ⟨aj,aj⟩) ?_;rintro v189 w ⟨en189,PJ,hs⟩;obtain ⟨a189,l189,c189,rfl,YD⟩:=PJ.shape;refine .go (.E 15 hs ?_);refine .append (ys:=iq (nK c t ((s.sp.many:Int)+1+(j:Int)))) hs cj rfl rfl hO (Src.V9 PJ .here) (mZ _) (fun l h=>by rw [fj] at h;simp only [List.length_append] at h;have:=Dv c t ((s.sp.many:Int)+1+(j:Int));rw [fj] at YD;omega) ?_;intro v190 en190 w eh hs;rw [←jq,List.append_assoc _ (mU _ _ _ _ _),show mU s.sp ts (zQ s.cs i) 0 j++nK c t ((s.sp.many:Int)+1+(j:Int))=mU s.sp ts (zQ s.cs i) 0 (j+1) by
        show _=_++nK (zQ s.cs i) (td0 ts (0+j)) ((s.sp.many+1+(0+j):Nat):Int);rw [Nat.zero_add,ec,et,show ((s.sp.many+1+j:Nat):Int)=(s.sp.many:Int)+1+(j:Int) by omega]] at eh
       refine .go (.zw 16 rfl zg ?_);refine .D hs ?_;exact nB (nT (.region (.z zm (.z cz (.zn zg (nT ⟨(j+1,v190),.dP rfl br bk,⟨by dsimp only;omega,_,eh,hs.sb⟩,by dsimp only;omega⟩))))))
      ·refine .exit (xT (xT (xB (nB (nT (.region (.z zm (.z cz (.zn zg (nT ?_))))))))));obtain rfl:j=ts.length:=by omega
       rw [List.append_assoc _ (xD _ _ _ _ _)] at hO;exact ⟨(i+1,_),.dP rfl br bk,⟨by dsimp only;omega,en,hO,hs⟩,by dsimp only;omega⟩
     ·refine .exit (xT (xT (xB (nT (.seq (.ae (.zn zg (.block ?_))))))));refine .loop (fun p:Nat×Value=>⟨243,[],[(17,I (p.1:Int)),(4,p.2),(12,.slice at_ ts.length ct),(13,I (s.sp.many:Int)),(3,Pt b3),(1,Pt b1)]⟩)
       (fun p w=>p.1≤s.rs.length∧∃en,bM 4 p.2 (iq (eG (uB s.sp) s.sp.wa.length s.sp.st.length++eG (alL s.sp) s.sp.wa.length s.sp.st.length++eG (upL s.sp) s.sp.wa.length s.sp.st.length++BL s.sp ts.length++xD s.sp ts s.cs 0 s.cs.length++yQ s.sp ts s.rs p.1)) en∧St H1 w (en:: .blk b3 [I s.sp.id,I s.sp.src,.slice ast s.sp.st.length cst,.slice awa s.sp.wa.length cwa,I s.sp.al,I s.sp.up]:: .blk b1 [I s.sp.id,I s.sp.src,.slice ast s.sp.st.length cst,.slice awa s.sp.wa.length cwa,I s.sp.al,I s.sp.up,.slice ar s.rs.length cr,.slice ac s.cs.length cc]::σ)) (fun p=>s.rs.length - p.1) (0,vo) bk
       ⟨by first|omega|exact Nat.zero_le _,en,by show bM 4 vo (iq (_++[])) en;rw [List.append_nil,←show i=s.cs.length by omega];exact hO,hs⟩ ?_
      clear hO hs;rintro ⟨q,vo⟩ w ⟨hq,en,hO,hs⟩;dsimp only at hq hO ⊢;have WS:=j7 s.sp ts s.rs q;have hcl3:=ki s.sp ts s.cs 0 s.cs.length;have hcl4:s.cs.length*(2*(ts.length - 0))≤20*(2*60):=Nat.mul_le_mul aj aj;refine .seq (.ae (.z zm (.z (zfa aS) (.y hs (zld fa) (.z (cJ aV) (.zn jt (.bX rfl (fun T3=>?_) (fun T3=>?_))))))))
      ·refine .skip (nT (.seq (.block (.ae (.z (zfa aS) (.y hs (zld fa) (.z zm ?_)))))));obtain ⟨r,hx⟩:=nth (l:=s.rs) (k:=q) aj;obtain ⟨g1,g2,g3,g4,g5,g6,g7⟩:=QY r (List.mem_of_getElem? hx);obtain ⟨m,k1,k2,k3⟩:=jc (zt r (List.mem_of_getElem? hx));refine .ixX (enc:=Rdg.c) hs (h3.mono aq) rfl rfl aV bF hx dD ?_;intro YM o201 Ps;refine .q hs (bD (vs:=(Rdg.c r)) rfl iP bF Ps) (.o (.alloc hs kj rfl fun uT w hs=>?_));refine .o (.aD (vs:=r.c) hs rfl rfl bF fun w hs=>?_);change St _ _ (.blk uT [I r.src,I r.st,I r.wa,I r.val,I r.tol,I r.tape,I r.day]::_) at hs;refine .nil (.ae (.y hs (zls [_,_,_,_,_,_] bu aI) (.z (zfa gg) (.y hs (zld ai) (.z (zfa fZ) (.y hs (zld ai) (.o (.call Zd rfl (ed (s:=s.sp) hs (h2.mono aq) aj ⟨aj,aj⟩ ⟨aj,aj⟩) ?_))))))));rintro _ w ⟨rfl,hs⟩;refine .zn zg (.ae (.z zm (.z cz (.z zm (.z (zfa eD) (.y hs (zld ai) (.z (zfa dW) (.y hs (zld ai) (.z (zbd [_,_] jo) (.o (.call call36 rfl (l8 (t:=r.td) hs hT aj) ?_)))))))))));rintro _ w ⟨rfl,hs⟩;refine .z cz (.zn zg (.region (.z zm (.z zm (.z zm (.z (zfa eE) (.y hs (zld ai) (.z (zfa cR) (.y hs (zld ai) (.z cz (.z (zfa fi) (.y hs (zld ai) (.z (zbd [_,_,_,_] dX) (.z zm (.z zm (.z (zfa cR) (.y hs (zld ai) (.z (zfa eE) (.y hs (zld ai) (.z iw (.z (zfa fi) (.y hs (zld ai) (.z (zbd [_,_,_,_] dX) (.o (.buildSlice (cells:=iq (vD s.sp ts r)) hs fc rfl au fun b240 w hs=>?_)))))))))))))))))))))))));refine .o (.append (ys:=iq (vD s.sp ts r)) hs cj rfl rfl hO (.own .here rfl rfl) (mZ _) (fun l h=>by rw [fj] at h;simp only [List.length_append] at h;omega) ?_);intro v241 en241 w eh hs;rw [←jq,List.append_assoc _ (yQ _ _ _ _),show yQ s.sp ts s.rs q++vD s.sp ts r=yQ s.sp ts s.rs (q+1) by rw [←JZ hx];rfl] at eh;exact .zn zg (nB (nT (.region (.z zm (.z cz (.zn zg (nT ⟨(q+1,v241),.dP rfl br bk,⟨by dsimp only;omega,_,eh,hs.sb⟩,by dsimp only;omega⟩)))))))
      ·refine .exit (xT (xT (xB (nT (.ae (.z zm (.zn zg (.ret (Fin.bp results230 rfl ?_)))))))));obtain rfl:q=s.rs.length:=by omega
       exact ⟨H1,en,aq,by rw [TI];exact hO,hs.sb⟩
theorem xk{w:World}{vst vwa:Value}(hs:St H w σ)(h1:RI H vst s.sp.st)(h2:RI H vwa s.sp.wa)(h3:RRd H vr s.rs)(h4:RCm H vc s.cs)(he:s.early):
  aaA 153 [.agg #[I s.sp.id,I s.sp.src,vst,vwa,I s.sp.al,I s.sp.up,vr,vc]] w fun u w'=>∃H1 vl en,HLe H H1∧u= .agg #[I s.sys.many,vl]∧bM 4 vl (iq s.cu) en∧St H1 w' (en::σ):=by
 have rk:=fI he.1;have Ea:=he.2.1;have AQ:s.bV.length≤60:=by have:=dB s.rs;unfold Srv.bV;omega
 refine Cl.o func153 ntmps153 ag1 ?_;refine .ae (.bx hs fun b1 w hs=>?_);refine .o (.alloc hs fP rfl fun b2 w hs=>?_);refine .nil (.seq (.draw mix rfl hs fun w hs=>?_));refine .zw 0 rfl (zfa bj) ?_;refine .ys 1 rfl hs [_,_,_,_,_,_] bu aI ?_;refine .z 3 rfl (zfa aS) ?_;refine .y 4 rfl hs fa ?_;refine .ys 8 rfl hs [_,_,_,_,_,_,_,_] bA aM ?_;refine .E 2 hs ?_;refine .call call35 rfl (iR (s:=s.sp) hs h1 h2 ⟨aj,aj⟩) ?_;rintro _ w ⟨rfl,hs⟩;refine .go (.E 5 hs ?_);refine .call call37 rfl (jR hs h3 aj) ?_;rintro v8 w ⟨H1,aq,hT,hs⟩;replace hT:RTd H1 v8 s.bV:=hT;obtain ⟨at_,ct,rfl⟩:=RTd.shape hT;refine .go (.zw 6 rfl (cJ bL) ?_);refine .z 7 rfl cz ?_;refine .E 9 hs ?_;refine .call call230 rfl (xl (s:=s) hs (h1.mono aq) (h2.mono aq) (h3.mono aq) (h4.mono aq) he) ?_;rintro v12 w ⟨H2,en,aO,hO,hs⟩;obtain ⟨al,ll,cl,rfl,Ah⟩:=hO.shape;refine .go (.zw 10 rfl (zbd [_,_] lG) (.E 11 hs ?_));refine .aD (vs:=[_,_]) hs rfl rfl aZ ?_;intro w hs;refine .go (.D hs (.ret ?_));replace hs:St H2 w (.blk b2 [I ((s.sp.many:Int)+(s.bV.length:Int)),.slice al ll cl]::en::σ):=hs.sb;exact Fin.iz [] [] hs fun w hs=>⟨_,results1 results153 (cO (vs:=[_,_]) hs rfl bZ aZ),H2,_,en,aq.trans aO,by show _=Value.agg #[I ((s.sp.many+s.bV.length:Nat):Int),_];rw [Int.natCast_add],hO,hs.tail⟩
theorem vC{w:World}{vst vwa:Value}(hs:St H w σ)(h1:RI H vst s.sp.st)(h2:RI H vwa s.sp.wa)(h3:RRd H vr s.rs)(h4:RCm H vc s.cs)(he:s.early):
  aaA 153 [.agg #[I s.sp.id,I s.sp.src,vst,vwa,I s.sp.al,I s.sp.up,vr,vc]] w fun u w'=>∃H1,HLe H H1∧RSy H1 u s.sys∧St H1 w' σ:=by
 refine (xk hs h1 h2 h3 h4 he).mono ?_;rintro u w' ⟨H1,vl,en,hle,rfl,hO,hs⟩;have hl:=nx he 6 aj;rw [s.Cd] at hl;obtain ⟨H2,aO,hR,hs⟩:=bM.bQ (m:=4) (cs:=s.cu.map Lim.c) hO (fun c hc=>by simp only [List.mem_map] at hc;obtain ⟨x,_,rfl⟩:=hc;rfl) aj (by rw [List.length_map];omega) hs .here;exact ⟨H2,hle.trans aO,⟨vl,rfl,hR⟩,hs⟩
theorem lj{w:World}{s:Spc}{q:Wht}{vst vwa:Value}(hs:St H w σ)(h2:RI H vwa s.wa):
  aaA 161 [.agg #[I q.kind,I q.st,I q.wa,I s.id,I s.src,vst,vwa,I s.al,I s.up]] w fun v w'=>v= .bool (decide (0≤q.wa∧q.wa≤(s.wa.length:Int) - 1))∧St H w' σ:=by
 obtain ⟨awa,cwa,rfl⟩:=RI.shape h2;have l2:=(RI.len h2).2.2;refine Cl.o func161 ntmps161 ag1 ?_;refine .ae (.bx hs fun b1 w hs=>?_);refine .zn zg (.ae (.z (zfa cM) (.z (zfa ig) (.y hs (zld ai) (.z (zfa fG) (.z (zfa bg) (.y hs (zld an) (.z (cJ af) (.z iw (.o (.call kU rfl (bq hs) ?_)))))))))));rintro _ w ⟨rfl,hs⟩;exact .zn zg (.ret (Fin.bp results161 rfl ⟨rfl,hs.out⟩))
theorem mI{w:World}{s:Spc}{q:Wht}{vst vwa:Value}(hs:St H w σ)(h1:RI H vst s.st):
  aaA 166 [.agg #[I q.kind,I q.st,I q.wa,I s.id,I s.src,vst,vwa,I s.al,I s.up]] w fun v w'=>v= .bool (decide (0≤q.st∧q.st≤(s.st.length:Int) - 1))∧St H w' σ:=by
 obtain ⟨ast,cst,rfl⟩:=RI.shape h1;have l1:=(RI.len h1).2.2;refine Cl.o func166 ntmps166 ag1 ?_;refine .ae (.bx hs fun b1 w hs=>?_);refine .zn zg (.ae (.z (zfa cM) (.z (zfa kL) (.y hs (zld ai) (.z (zfa fG) (.z (zfa bw) (.y hs (zld an) (.z (cJ af) (.z iw (.o (.call kU rfl (bq hs) ?_)))))))))));rintro _ w ⟨rfl,hs⟩;exact .zn zg (.ret (Fin.bp results166 rfl ⟨rfl,hs.out⟩))
theorem uY{s:Spc}{q:Wht}:ij s q↔(q.kind=1∧q.st=0∧s.isW q∧0<q.wa)∨(q.kind=2∧q.st=0∧s.isW q)∨(q.kind=3∧q.wa=0∧s.isS q)∨(q.kind=4∧s.isS q∧s.isW q):=by
 constructor
 ·intro h
  cases h with
  |litres a b c d=>exact .inl ⟨a,b,c,d⟩
  |plane a b c=>exact .inr (.inl ⟨a,b,c⟩)
  |section_ a b c=>exact .inr (.inr (.inl ⟨a,b,c⟩))
  |offset a b c=>exact .inr (.inr (.inr ⟨a,b,c⟩))
 ·rintro (⟨a,b,c,d⟩|⟨a,b,c⟩|⟨a,b,c⟩|⟨a,b,c⟩)
  ·exact .litres a b c d
  ·exact .plane a b c
  ·exact .section_ a b c
  ·exact .offset a b c
theorem D4{w:World}{s:Spc}{q:Wht}{vst vwa:Value}(hs:St H w σ)(h2:RI H vwa s.wa)(hk:q.kind=1):
  aaA 160 [.agg #[I q.kind,I q.st,I q.wa,I s.id,I s.src,vst,vwa,I s.al,I s.up]] w fun v w'=>∃b:Bool,v= .bool b∧(b=true↔ij s q)∧St H w' σ:=by
 have hi:=uY (s:=s) (q:=q);simp only [Spc.isW,Spc.isS] at hi;refine Cl.o func160 ntmps160 ag1 ?_;refine .ae (.bx hs fun b1 w hs=>?_);refine .zn zg (.ae (.y hs (zls [_,_,_,_,_,_,_,_,_] P5 A8) (.o (.call call161 rfl (lj hs h2) ?_))));rintro _ w ⟨rfl,hs⟩;refine .z zm (.bif (t':=5) rfl (fun Rj=>?_) (fun Rj=>?_))
 ·refine .T (.z (zfa cM) (.T (.z (zfa ig) (.T (.y hs (zld ai) (.T (.z q5 (.z zpT (.z zm (.mW (t':=11) rfl (fun zI=>?_) (fun zI=>?_)))))))))))
  ·exact .T (.z (zfa cM) (.T (.z (zfa kL) (.T (.y hs (zld ai) (.T (.z gO (.z zpT (.zn zg (.ret (Fin.bp results160 rfl ⟨_,rfl,by rw [hi];simp_all<;>omega,hs.out⟩)))))))))))
  ·exact .Fs 4 8 true (.z zpF (.zn zg (.ret (Fin.bp results160 rfl ⟨_,rfl,by rw [hi];simp_all<;>omega,hs.out⟩))))
 ·exact .Fs 4 2 true (.z zpF (.z zm (.Fs 4 8 true (.z zpF (.zn zg (.ret (Fin.bp results160 rfl ⟨_,rfl,by rw [hi];simp_all<;>omega,hs.out⟩)))))))
theorem D2{w:World}{s:Spc}{q:Wht}{vst vwa:Value}(hs:St H w σ)(h2:RI H vwa s.wa)(hk:q.kind=2):
  aaA 163 [.agg #[I q.kind,I q.st,I q.wa,I s.id,I s.src,vst,vwa,I s.al,I s.up]] w fun v w'=>∃b:Bool,v= .bool b∧(b=true↔ij s q)∧St H w' σ:=by
 have hi:=uY (s:=s) (q:=q);simp only [Spc.isW,Spc.isS] at hi;refine Cl.o func163 ntmps163 ag1 ?_;refine .ae (.bx hs fun b1 w hs=>?_);refine .zn zg (.ae (.y hs (zls [_,_,_,_,_,_,_,_,_] P5 A8) (.o (.call call161 rfl (lj hs h2) ?_))));rintro _ w ⟨rfl,hs⟩;refine .z zm (.bif (t':=5) rfl (fun Rj=>?_) (fun Rj=>?_))
 ·exact .T (.z (zfa cM) (.T (.z (zfa kL) (.T (.y hs (zld ai) (.T (.z gO (.z zpT (.zn zg (.ret (Fin.bp results163 rfl ⟨_,rfl,by rw [hi];simp_all<;>omega,hs.out⟩)))))))))))
 ·exact .Fs 4 2 true (.z zpF (.zn zg (.ret (Fin.bp results163 rfl ⟨_,rfl,by rw [hi];simp_all<;>omega,hs.out⟩))))
theorem D1{w:World}{s:Spc}{q:Wht}{vst vwa:Value}(hs:St H w σ)(h1:RI H vst s.st)(hk:q.kind=3):
  aaA 165 [.agg #[I q.kind,I q.st,I q.wa,I s.id,I s.src,vst,vwa,I s.al,I s.up]] w fun v w'=>∃b:Bool,v= .bool b∧(b=true↔ij s q)∧St H w' σ:=by
 have hi:=uY (s:=s) (q:=q);simp only [Spc.isW,Spc.isS] at hi;refine Cl.o func165 ntmps165 ag1 ?_;refine .ae (.bx hs fun b1 w hs=>?_);refine .zn zg (.ae (.y hs (zls [_,_,_,_,_,_,_,_,_] P5 A8) (.o (.call call166 rfl (mI hs h1) ?_))));rintro _ w ⟨rfl,hs⟩;refine .z zm (.bif (t':=5) rfl (fun Rj=>?_) (fun Rj=>?_))
 ·exact .T (.z (zfa cM) (.T (.z (zfa ig) (.T (.y hs (zld ai) (.T (.z gO (.z zpT (.zn zg (.ret (Fin.bp results165 rfl ⟨_,rfl,by rw [hi];simp_all<;>omega,hs.out⟩)))))))))))
 ·exact .Fs 4 2 true (.z zpF (.zn zg (.ret (Fin.bp results165 rfl ⟨_,rfl,by rw [hi];simp_all<;>omega,hs.out⟩))))
theorem D0{w:World}{s:Spc}{q:Wht}{vst vwa:Value}(hs:St H w σ)(h1:RI H vst s.st)(h2:RI H vwa s.wa)(hk:q.kind=4):
  aaA 168 [.agg #[I q.kind,I q.st,I q.wa,I s.id,I s.src,vst,vwa,I s.al,I s.up]] w fun v w'=>∃b:Bool,v= .bool b∧(b=true↔ij s q)∧St H w' σ:=by
 have hi:=uY (s:=s) (q:=q);simp only [Spc.isW,Spc.isS] at hi;refine Cl.o func168 ntmps168 ag1 ?_;refine .ae (.bx hs fun b1 w hs=>?_);refine .zn zg (.ae (.y hs (zls [_,_,_,_,_,_,_,_,_] P5 A8) (.o (.call call166 rfl (mI hs h1) ?_))));rintro _ w ⟨rfl,hs⟩;refine .z zm (.bif (t':=5) rfl (fun Rj=>?_) (fun Rj=>?_))
 ·refine .T (.y hs (zls [_,_,_,_,_,_,_,_,_] P5 A8) (.T (.o (.call call161 rfl (lj hs h2) ?_))));rintro _ w ⟨rfl,hs⟩;exact .z zpT (.zn zg (.ret (Fin.bp results168 rfl ⟨_,rfl,by rw [hi];simp_all<;>omega,hs.out⟩)))
 ·exact .Fs 2 2 true (.z zpF (.zn zg (.ret (Fin.bp results168 rfl ⟨_,rfl,by rw [hi];simp_all<;>omega,hs.out⟩))))
theorem xf{w:World}{s:Spc}{q:Wht}{vst vwa:Value}{u:Int}(hs:St H w σ)(h1:RI H vst s.st)(h2:RI H vwa s.wa)(bh:fm s)(hq:ij s q)(KZ:q.kind=1)(hi:i<s.st.length):
  aaA 162 [.agg #[I q.kind,I q.st,I q.wa,I s.id,I s.src,vst,vwa,I s.al,I s.up],.agg #[I (i:Int),I (k:Int),I u]] w fun v w'=>∃H1,HLe H H1∧v=I (rZ s q i k)∧St H1 w' σ:=by
 obtain ⟨ast,cst,rfl⟩:=RI.shape h1;obtain ⟨awa,cwa,rfl⟩:=RI.shape h2;have hn:=bh.wa.many;have qw:=(RI.len h2).2.1;obtain ⟨_,hw1,hw2,hw3⟩:q.st=0∧0<q.wa∧0≤q.wa∧q.wa≤(s.wa.length:Int) - 1:=by
  rcases uY.1 hq with h|h|h|h
  ·exact ⟨h.2.1,h.2.2.2,h.2.2.1.1,h.2.2.1.2⟩
  all_goals omega
 obtain ⟨m,hm⟩:∃m:Nat,q.wa=m:=⟨q.wa.toNat,aj⟩;have hW:rZ s q i k=if (k:Int)≤q.wa then gi (wts s.st) i*gi (wts (s.wa.take (q.wa.toNat+1))) k else 0:=by unfold rZ;rw [if_pos KZ]
 have Xb:q.wa.toNat=m:=by omega
 rw [Xb] at hW;refine Cl.o func162 ntmps162 ag2 ?_;refine .ae (.bx hs fun b2 w hs=>?_);refine .bx hs fun b3 w hs=>?_
 refine .zn zg (.seq (.ae (.z (zfa cC) (.y hs (zld ai) (.z (zfa cM) (.z (zfa ig) (.y hs (zld ai) (.zn q5 (.bX rfl (fun gS=>?_) (fun gS=>?_))))))))))
 ·exact .ae (.zn zg (.ret (rT (Fin.bp results162 rfl ⟨H,HLe.refl H,by rw [hW,if_neg aj],hs.out⟩))))
 ·refine .skip (nT (.seq (.draw mix rfl hs fun w hs=>?_)));refine .zw 0 rfl (zfa fG) ?_;refine .z 1 rfl (zfa bw) ?_;refine .y 2 rfl hs an ?_;refine .z 3 rfl (zfa fG) ?_;refine .z 4 rfl (zfa bg) ?_;refine .y 5 rfl hs an ?_;refine .z 6 rfl (zfa cM) ?_;refine .z 7 rfl (zfa ig) ?_;refine .y 8 rfl hs ai ?_;refine .z 9 rfl cz ?_;refine .zw 10 rfl (tR (k:=m+1) rfl rfl af ak aj aj) (.E 11 hs ?_);have hP:iZ 7 15000 (s.wa.take (m+1)):=bh.wa.take aj aj;refine .call call84 rfl (p5 hs h1 (h2.head (k:=m+1) aj)) ?_;rintro _ w ⟨H1,vo,e,aq,rfl,Uu,-,hs⟩;obtain ⟨rfl,hG⟩:=Uu ⟨bh.st,hP⟩;have hgl:=qz (wts s.st) (wts (s.wa.take (m+1))) s.st.length;have uh:(wts (s.wa.take (m+1))).length=m+1:=by rw [kr,List.length_take];omega
  have hgr:=G9 (X:=wts s.st) (Y:=wts (s.wa.take (m+1))) (n:=s.st.length) hi;have Xp:=Of (X:=wts s.st) (Y:=wts (s.wa.take (m+1))) (n:=s.st.length) (k:=k) hi aj;have Ea:=sK (wts s.st) (wts (s.wa.take (m+1))) i;rw [←hgr] at Ea;generalize uv (wts s.st) (wts (s.wa.take (m+1))) s.st.length=G at*;obtain ⟨aG,cG,rfl⟩:=hG.shape;refine .go (.zw 12 rfl zm ?_);refine .z 13 rfl zex ?_;refine .z 14 rfl zex ?_;refine .z 15 rfl zg ?_;refine .z 16 rfl zg ?_;refine .D hs ?_;refine .seq (.draw mix rfl hs fun w hs=>?_);refine .zw 0 rfl zm ?_;refine .z 1 rfl (zfa cD) ?_;refine .y 2 rfl hs ai ?_;refine .ixT (i:=3) hs rfl au .none hG rfl rfl az aJ (show i<_ by omega) dD ?_;intro Hu o31 a31 c31 oQ Yh;refine .r (i:=4) hs rfl au .none (aP rfl an oQ) ?_;refine .zw 5 rfl (zfa cC) ?_;refine .y 6 rfl hs ai ?_;refine .ixX (enc:=fun x=>[I x]) (i:=7) hs rfl au .none Yh rfl rfl af ak (bG (l:=(gr G i)) (i:=k) aj) dD ?_;intro VN o35 we;replace we:=bE.one we;refine .r (i:=8) hs rfl au .none (aP rfl ai we) ?_;refine .zw 9 rfl zg ?_;refine .D hs ?_;exact .ret (Fin.bp results162 rfl ⟨H1,aq,by rw [hW,if_pos aj,←Xp];rfl,hs.out⟩)
theorem yr{w:World}{s:Spc}{q:Wht}{vst vwa:Value}{u:Int}(hs:St H w σ)(h1:RI H vst s.st)(bh:fm s)(KZ:q.kind=2)(hi:i<s.st.length):
  aaA 164 [.agg #[I q.kind,I q.st,I q.wa,I s.id,I s.src,vst,vwa,I s.al,I s.up],.agg #[I (i:Int),I (k:Int),I u]] w fun v w'=>∃H1,HLe H H1∧v=I (rZ s q i k)∧St H1 w' σ:=by
 have hW:rZ s q i k=if (k:Int)=q.wa then gi (wts s.st) i else 0:=by unfold rZ;rw [if_neg aj,if_pos KZ]
 have hl:=kr s.st;refine Cl.o func164 ntmps164 ag2 ?_;refine .ae (.bx hs fun b2 w hs=>?_);refine .bx hs fun b3 w hs=>?_
 refine .zn zg (.seq (.ae (.z (zfa cC) (.y hs (zld ai) (.z (zfa cM) (.z (zfa ig) (.y hs (zld ai) (.zn gE (.eN rfl (fun gS=>?_) (fun gS=>?_))))))))))
 ·exact .ae (.zn zg (.ret (rT (Fin.bp results164 rfl ⟨H,HLe.refl H,by rw [hW,if_neg aj],hs.out⟩))))
 ·refine .skip (nT (.ae (.z (zfa fG) (.z (zfa bw) (.y hs (zld an) (.o (.call call26 rfl (kD hs h1) ?_)))))));rintro _ w ⟨H1,vo,e,aq,rfl,Uu,hs⟩;obtain ⟨rfl,hG⟩:=Uu bh.st;obtain ⟨aG,cG,rfl⟩:=RI.shape hG;refine .z zm (.z zex (.z zex (.z zg (.zn zg (.ae (.z zm (.z (zfa cD) (.y hs (zld ai) (.ixY hs hG rfl rfl af ak (bG (l:=(wts s.st)) (i:=i) aj) dD ?_)))))))));intro LW o23 qx;exact .q hs (aP rfl ai qx) (.zn zg (.ret (Fin.bp results164 rfl ⟨H1,aq,by rw [hW,if_pos aj],hs.out⟩)))
theorem uZ{w:World}{s:Spc}{q:Wht}{vst vwa:Value}{u:Int}(hs:St H w σ)(h2:RI H vwa s.wa)(bh:fm s)(KZ:q.kind=3)(hk:k<s.wa.length):
  aaA 167 [.agg #[I q.kind,I q.st,I q.wa,I s.id,I s.src,vst,vwa,I s.al,I s.up],.agg #[I (i:Int),I (k:Int),I u]] w fun v w'=>∃H1,HLe H H1∧v=I (rZ s q i k)∧St H1 w' σ:=by
 have hW:rZ s q i k=if (i:Int)=q.st then gi (wts s.wa) k else 0:=by unfold rZ;rw [if_neg aj,if_neg aj,if_pos KZ]
 have hl:=kr s.wa;refine Cl.o func167 ntmps167 ag2 ?_;refine .ae (.bx hs fun b2 w hs=>?_);refine .bx hs fun b3 w hs=>?_
 refine .zn zg (.seq (.ae (.z (zfa cD) (.y hs (zld ai) (.z (zfa cM) (.z (zfa kL) (.y hs (zld ai) (.zn gE (.eN rfl (fun gS=>?_) (fun gS=>?_))))))))))
 ·exact .ae (.zn zg (.ret (rT (Fin.bp results167 rfl ⟨H,HLe.refl H,by rw [hW,if_neg aj],hs.out⟩))))
 ·refine .skip (nT (.ae (.z (zfa fG) (.z (zfa bg) (.y hs (zld an) (.o (.call call26 rfl (kD hs h2) ?_)))))));rintro _ w ⟨H1,vo,e,aq,rfl,Uu,hs⟩;obtain ⟨rfl,hG⟩:=Uu (Ql bh);obtain ⟨aG,cG,rfl⟩:=RI.shape hG;refine .z zm (.z zex (.z zex (.z zg (.zn zg (.ae (.z zm (.z (zfa cC) (.y hs (zld ai) (.ixY hs hG rfl rfl af ak (bG (l:=(wts s.wa)) (i:=k) aj) dD ?_)))))))));intro LW o23 qx;exact .q hs (aP rfl ai qx) (.zn zg (.ret (Fin.bp results167 rfl ⟨H1,aq,by rw [hW,if_pos aj],hs.out⟩)))
theorem w9{w:World}{s:Spc}{q:Wht}{vst vwa:Value}{u:Int}(hs:St H w σ)(KZ:q.kind=4):
  aaA 169 [.agg #[I q.kind,I q.st,I q.wa,I s.id,I s.src,vst,vwa,I s.al,I s.up],.agg #[I (i:Int),I (k:Int),I u]] w fun v w'=>∃H1,HLe H H1∧v=I (rZ s q i k)∧St H1 w' σ:=by
 have hW:rZ s q i k=if (i:Int)=q.st∧(k:Int)=q.wa then 1 else 0:=by unfold rZ;rw [if_neg aj,if_neg aj,if_neg aj]
 refine Cl.o func169 ntmps169 ag2 ?_;refine .ae (.bx hs fun b2 w hs=>?_);refine .bx hs fun b3 w hs=>?_
 refine .zn zg (.seq (.ae (.z (zfa cD) (.y hs (zld ai) (.z (zfa cM) (.z (zfa kL) (.y hs (zld ai) (.z gE (.z zm (.Js (t':=11) rfl (fun zI=>?_) (fun zI=>?_)))))))))))
 ·refine .Fs 6 6 false (.zn zpT (.cT (.ae (.zn zg (.ret (rT (Fin.bp results169 rfl ?_)))))));first
  |exact ⟨H,HLe.refl H,by rw [hW,if_neg aj],hs.out⟩
  |exact ⟨H,HLe.refl H,by rw [hW,if_pos aj],hs.out⟩
 ·refine .T (.z (zfa cC) (.T (.y hs (zld ai) (.T (.z (zfa cM) (.T (.z (zfa ig) (.T (.y hs (zld ai) (.T (.z gE (.zn zpF (.eN rfl (fun kI=>?_) (fun kI=>?_))))))))))))))
  ·refine .ae (.zn zg (.ret (rT (Fin.bp results169 rfl ?_))));first
   |exact ⟨H,HLe.refl H,by rw [hW,if_neg aj],hs.out⟩
   |exact ⟨H,HLe.refl H,by rw [hW,if_pos aj],hs.out⟩
  ·refine .skip (nT (.ae (.zn zg (.ret (Fin.bp results169 rfl ?_)))));first
   |exact ⟨H,HLe.refl H,by rw [hW,if_neg aj],hs.out⟩
   |exact ⟨H,HLe.refl H,by rw [hW,if_pos aj],hs.out⟩
def Ia(k:Int):Nat:=if k=1 then 160 else if k=2 then 163 else if k=3 then 165 else 168
def HO(k:Int):Nat:=if k=1 then 162 else if k=2 then 164 else if k=3 then 167 else 169
def GS(k:Int):Value:= .agg #[.func (.func (Ia k)) #[] #[],.func (.func (HO k)) #[] #[],I (tE ⟨k,0,0⟩)]
def R7:List MapEntry:=[{key:=I 1,val:=GS 1,born:=0},{key:=I 2,val:=GS 2,born:=1},{key:=I 3,val:=GS 3,born:=2},{key:=I 4,val:=GS 4,born:=3}]
theorem ny{w:World}(hs:St H w σ):
  aaA 91 [] w fun v w'=>∃b,v= .map (some b)∧St H w' (.obj b (.map R7.toArray 4)::σ):=by
 refine Cl.of func91 rfl ntmps91 br (A4) (.ae (.zn zg (.ae (.o (.makeMap hs fun b1 w hs=>?_)))));refine .z (zbd [_,_,_] jW) (.o (.insert (es:=[]) hs rfl rfl rfl ir aF rfl fun w hs=>?_));refine .z (zbd [_,_,_] jW) (.o (.insert (es:=[{key:=I 1,val:=GS 1,born:=0}]) hs rfl rfl rfl ir aF rfl fun w hs=>?_));refine .z (zbd [_,_,_] jW) (.o (.insert (es:=[{key:=I 1,val:=GS 1,born:=0},{key:=I 2,val:=GS 2,born:=1}]) hs rfl rfl rfl ir aF rfl fun w hs=>?_));refine .z (zbd [_,_,_] jW) (.o (.insert (es:=[{key:=I 1,val:=GS 1,born:=0},{key:=I 2,val:=GS 2,born:=1},{key:=I 3,val:=GS 3,born:=2}]) hs rfl rfl rfl ir aF rfl fun w hs=>?_));exact .z zm (.zn zg (.ret (Fin.bp results91 rfl ⟨b1,rfl,hs⟩)))
def lF1(k:Int):Value:=if 1≤k∧k≤4 then .func (.func (Ia k)) #[] #[] else .nilFunc
def lF2(k:Int):Value:=if 1≤k∧k≤4 then .func (.func (HO k)) #[] #[] else .nilFunc
def lD(k:Int):Int:=if 1≤k∧k≤4 then tE ⟨k,0,0⟩ else 0
theorem GR(k:Int):[lF1 k,lF2 k,I (lD k)].all Value.oneCell'=true:=by
 unfold lF1 lF2;split<;>rfl
theorem J9{s:FS}{x y:Operand}(k:Int)(hx:FS.ev s x=some (.map (some b)))(hy:FS.ev s y=some (I k)):
  QJ Tryz.prog H [.obj b (.map R7.toArray 4)] s (.lookup 204 x y true) (.tuple #[.agg #[lF1 k,lF2 k,I (lD k)],.bool (decide (1≤k∧k≤4))]):=by
 by_cases h:1≤k∧k≤4
 ·rw [decide_eq_true h];have h4:k=1∨k=2∨k=3∨k=4:=by omega
  rcases h4 with rfl|rfl|rfl|rfl
  ·exact GH (v:=GS 1) (j:=0) hx hy ir aF rfl .here
  ·exact GH (v:=GS 2) (j:=1) hx hy ir aF rfl .here
  ·exact GH (v:=GS 3) (j:=2) hx hy ir aF rfl .here
  ·exact GH (v:=GS 4) (j:=3) hx hy ir aF rfl .here
 ·rw [decide_eq_false h];have e1:lF1 k= .nilFunc:=if_neg h;have e2:lF2 k= .nilFunc:=if_neg h;have e3:lD k=0:=if_neg h;rw [e1,e2,e3];refine QD (es:=R7) (c:=4) hx hy ir aF zeroValue202 ?_ .here;have n1:(k==1)=false:=by simp only [beq_eq_false_iff_ne];omega
  have n2:(k==2)=false:=by simp only [beq_eq_false_iff_ne];omega
  have n3:(k==3)=false:=by simp only [beq_eq_false_iff_ne];omega
  have n4:(k==4)=false:=by simp only [beq_eq_false_iff_ne];omega
  simp [Instr.findNow,Instr.sameNow,R7,n1,n2,n3,n4]
theorem MT(k:Int):∀args w,(callFunc (Ia k) args).run Tryz.prog w= .ok (.enter (Ia k) args) w:=by
 unfold Ia;split
 ·exact call160
 ·split
  ·exact call163
  ·split
   ·exact call165
   ·exact call168
theorem Mx(k:Int):∀args w,(callFunc (HO k) args).run Tryz.prog w= .ok (.enter (HO k) args) w:=by
 unfold HO;split
 ·exact call162
 ·split
  ·exact call164
  ·split
   ·exact call167
   ·exact call169
theorem MS{w:World}{s:Spc}{q:Wht}{vst vwa:Value}(hs:St H w σ)(h1:RI H vst s.st)(h2:RI H vwa s.wa)(hk:1≤q.kind∧q.kind≤4):
  aaA (Ia q.kind) [.agg #[I q.kind,I q.st,I q.wa,I s.id,I s.src,vst,vwa,I s.al,I s.up]] w fun v w'=>∃b:Bool,v= .bool b∧(b=true↔ij s q)∧St H w' σ:=by
 unfold Ia;split
 ·exact D4 hs h2 dQ
 ·split
  ·exact D2 hs h2 dQ
  ·split
   ·exact D1 hs h1 dQ
   ·exact D0 hs h1 h2 aj
theorem Mw{w:World}{s:Spc}{q:Wht}{vst vwa:Value}{u:Int}(hs:St H w σ)(h1:RI H vst s.st)(h2:RI H vwa s.wa)(bh:fm s)(hq:ij s q)(hk:1≤q.kind∧q.kind≤4)(hi:i<s.st.length)(hkw:k<s.wa.length):
  aaA (HO q.kind) [.agg #[I q.kind,I q.st,I q.wa,I s.id,I s.src,vst,vwa,I s.al,I s.up],.agg #[I (i:Int),I (k:Int),I u]] w fun v w'=>∃H1,HLe H H1∧v=I (rZ s q i k)∧St H1 w' σ:=by
 unfold HO;split
 ·exact xf hs h1 h2 bh hq dQ hi
 ·split
  ·exact yr hs h1 bh dQ hi
  ·split
   ·exact uZ hs h2 bh dQ hkw
   ·exact w9 hs aj
theorem Tf{q:Wht}(h:1≤q.kind∧q.kind≤4):lD q.kind=tE q:=by
 unfold lD;rw [if_pos h];rfl
theorem Mv{s:Spc}{q:Wht}(h:ij s q):1≤q.kind∧q.kind≤4:=by
 rcases uY.1 h with h|h|h|h<;>omega
set_option maxHeartbeats 1000000 in
theorem ml{w:World}{s:Spc}{q:Wht}{vst vwa:Value}(hs:St H w σ)(h1:RI H vst s.st)(h2:RI H vwa s.wa)(bh:fm s):
  aaA 43 [.agg #[I s.id,I s.src,vst,vwa,I s.al,I s.up],.agg #[I q.kind,I q.st,I q.wa]] w fun u w'=>∃H1 vl L d b en,HLe H H1∧u= .tuple #[vl,I d,.bool b]∧bM 1 vl (Is L) en∧((b=true∧ij s q∧L=nX s q∧d=tE q)∨(b=false∧¬ij s q∧L=[]∧d=0))∧St H1 w' (en::σ):=by
 have rk:=fI bh;obtain ⟨ast,cst,rfl⟩:=RI.shape h1;obtain ⟨awa,cwa,rfl⟩:=RI.shape h2;refine Cl.o func43 ntmps43 ag2 ?_;refine .ae (.bx hs fun b2 w hs=>?_);refine .bx hs fun b3 w hs=>?_
 refine .z zg (.z zg (.zn zg (.cut (fun fs w=>∃b7,np fs ⟨46,[],[(8,.bool (decide (1≤q.kind∧q.kind≤4))),(7,Pt b7),(2,Pt b2),(3,Pt b3)]⟩∧St H w (.blk b7 [lF1 q.kind,lF2 q.kind,I (lD q.kind)]:: .blk b3 [I q.kind,I q.st,I q.wa]:: .blk b2 [I s.id,I s.src,(.slice ast s.st.length cst),(.slice awa s.wa.length cwa),I s.al,I s.up]::σ)) ?_ ?_)))
 ·refine .draw mix rfl hs fun w hs=>?_
  refine .zw 1 rfl (zfa CF) ?_;refine .y 2 rfl hs ai ?_;refine .e2 (i:=0) (j:=7) au rfl rfl rfl rfl .none .none hs ?_ ?_
  ·refine .call call91 rfl (ny hs) ?_;rintro _ w ⟨jG,rfl,hs⟩;refine .go (.q (i:=3) [.obj jG (.map R7.toArray 4)] rfl au .none (J9 (H:= .bot) q.kind rfl rfl) ?_);refine .zw 4 rfl zm ?_;refine .z 5 rfl zex ?_;refine .z 6 rfl zex ?_;refine .E 7 hs ?_;refine .alloc hs zeroValue202 rfl ?_;intro b7 w hs;refine .go (.E 8 hs ?_);refine .aD (vs:=[lF1 q.kind,lF2 q.kind,I (lD q.kind)]) hs rfl rfl sizeOf202 ?_ (hv:=GR _);intro w hs;refine .go (.zw 9 rfl zg ?_);refine .D hs ?_;exact nT ⟨b7,bk,hs.sb⟩
  ·refine .alloc hs zeroValue202 rfl ?_;intro b7 w hs;refine .go (.E 0 hs ?_);refine .call call91 rfl (ny hs) ?_;rintro _ w ⟨jG,rfl,hs⟩;refine .go (.q (i:=3) [.obj jG (.map R7.toArray 4)] rfl au .none (J9 (H:= .bot) q.kind rfl rfl) ?_);refine .zw 4 rfl zm ?_;refine .z 5 rfl zex ?_;refine .z 6 rfl zex ?_;refine .E 8 hs ?_;refine .aD (vs:=[lF1 q.kind,lF2 q.kind,I (lD q.kind)]) hs rfl rfl sizeOf202 ?_ (hv:=GR _);intro w hs;refine .go (.zw 9 rfl zg ?_);refine .D hs ?_;exact nT ⟨b7,bk,hs.sb⟩
 ·rintro fs w ⟨b7,i7,hs⟩;refine WE.sub ?_ i7;refine .ae (.y hs (zls [_,_,_] Zc Aq) (.y hs (zls [_,_,_,_,_,_] bu aI) (.z (zbd (vs:=[(0,.agg #[I q.kind,I q.st,I q.wa]),(1,.agg #[I s.id,I s.src,(.slice ast s.st.length cst),(.slice awa s.wa.length cwa),I s.al,I s.up])]) [I q.kind,I q.st,I q.wa,I s.id,I s.src,(.slice ast s.st.length cst),(.slice awa s.wa.length cwa),I s.al,I s.up] xI rfl au) (.o (.alloc hs zeroValue207 rfl fun b9 w hs=>?_)))));refine .o (.aD (vs:=[_,_,_,_,_,_,_,_,_]) hs rfl rfl A8 fun w hs=>?_);refine .nil (.seq (.ae (.z zm (.z im (.z zm (.bif (t':=24) rfl (fun El=>?_) (fun El=>?_)))))))
  ·refine .Fs 5 2 false (.zn zpT (.cT (.ae (.z zg (.z zg (.zn zg (.ret (rT (?_)))))))));have hn:¬ij s q:=fun h=>by have:=Mv h;simp [this] at El
   exact Fin.iz [] [] hs fun w hs=>⟨_,results3 results43 rfl rfl rfl,H,_,[],_,_,.nul,HLe.refl H,rfl,.nil 1 none,.inr ⟨rfl,hn,rfl,rfl⟩,hs.out.nul⟩
  ·refine .T ?_;have hk:1≤q.kind∧q.kind≤4:=by simpa using El
   rw [show lF1 q.kind= .func (.func (Ia q.kind)) #[] #[] from if_pos hk,show lF2 q.kind= .func (.func (HO q.kind)) #[] #[] from if_pos hk,Tf hk] at hs;refine .z (zfa wq) (.T (.y hs (zld isAgg199) (.T (.y hs (zls [_,_,_,_,_,_,_,_,_] P5 A8) (.T (.o (.ng (first:=[]) (cap:=[]) rfl rfl (MT q.kind) (MS (s:=s) hs h1 h2 hk) ?_)))))));rintro _ w ⟨Sy,rfl,F8,hs⟩;refine .T (.z im (.zn zpF (.cond rfl (fun rH=>?_) (fun rH=>?_))))
   ·refine .ae (.z zg (.z zg (.zn zg (.ret (rT (?_))))));have hn:¬ij s q:=fun h=>by rw [F8.2 h] at rH;cases rH
    exact Fin.iz [] [] hs fun w hs=>⟨_,results3 results43 rfl rfl rfl,H,_,[],_,_,.nul,HLe.refl H,rfl,.nil 1 none,.inr ⟨rfl,hn,rfl,rfl⟩,hs.out.nul⟩
   ·refine .skip (nT (.ae (.o (.buildSlice (cells:=[_]) hs bJ rfl rfl fun Hu w hs=>?_))));refine .o (.alloc hs gY rfl fun jx w hs=>?_);refine .o (.store hs rfl rfl aJ fun w hs=>?_);refine .nil (.seq (.ae (.y hs (zls [_,_,_,_,_,_] bu aI) ?_)));have hq:ij s q:=F8.1 (by simpa using rH);refine .o (.call call44 rfl (ff (s:=s) hs h1 h2 ⟨aj,aj⟩) ?_);rintro _ w ⟨H1,ba,aq,rfl,oG,hs⟩;have KG:=jb s q;refine .nil (.block ?_);refine .rangeFunc (gf:=92) (cap:=[Pt ba]) (xs:=Am s) (σb:=[.blk jx [.slice (some ⟨Hu,0,none⟩) 1 1],.blk Hu (Is [0]),.blk b7 [.func (.func (Ia q.kind)) #[] #[],.func (.func (HO q.kind)) #[] #[],I (tE q)],.blk b9 [I q.kind,I q.st,I q.wa,I s.id,I s.src,(.slice ast s.st.length cst),(.slice awa s.wa.length cwa),I s.al,I s.up]]) (σf:=σ) (hs.sb) trivial rfl oG call92 (fun x hx=>by
      simp only [Am,List.mem_map] at hx;obtain ⟨j,_,rfl⟩:=hx;rfl) rfl
     (I:=fun p H' σb=>∃vo en,σb=[.blk jx [vo],en,.blk b7 [.func (.func (Ia q.kind)) #[] #[],.func (.func (HO q.kind)) #[] #[],I (tE q)],.blk b9 [I q.kind,I q.st,I q.wa,I s.id,I s.src,(.slice ast s.st.length cst),(.slice awa s.wa.length cwa),I s.al,I s.up]]∧bM 1 vo (Is ((nX s q).take (p+1))) en) (Ix:=fun _ _ _=>False)
     (fun j _ _ σ g1 g2=>g2) (fun _ _ _ _ _ h=>h) ⟨_,_,rfl,.full rfl⟩ ?_ ?_ (fun D c H' σb w _ h _=>h.elim)
    ·rintro ly p hp H2 wH wG w aO ⟨vo,en,rfl,hO⟩ hs ⟨rr,GV⟩;have GW:p<s.many:=by rw [dJ] at hp;exact hp
     have gM:p/s.wa.length<s.st.length:=Nat.div_lt_of_lt_mul (by rw [Nat.mul_comm];exact GW);have KY:=Nat.mod_lt p rk.2.2.1;have hws:=Du s q GW;have ID:(nX s q)[p+1]? =some (rZ s q (p/s.wa.length) (p%s.wa.length)):=by rw [←hws];exact bG aj
     rw [nI hp];obtain ⟨al,ll,cl,rfl,Ah⟩:=hO.shape;generalize p/s.wa.length=i at*;generalize p%s.wa.length=k at*;refine .region (.o (.alloc hs pb rfl fun EJ w hs=>?_));refine .o (.aD (vs:=[_,_,_]) hs rfl rfl Ba fun w hs=>?_);refine .nil (nT ⟨H2,[.blk EJ [I (i:Int),I (k:Int),I ((p+1:Nat):Int)],.blk jx [Value.slice al ll cl],en,.blk b7 [.func (.func (Ia q.kind)) #[] #[],.func (.func (HO q.kind)) #[] #[],I (tE q)],.blk b9 [I q.kind,I q.st,I q.wa,I s.id,I s.src,(.slice ast s.st.length cst),(.slice awa s.wa.length cwa),I s.al,I s.up]],HLe.refl _,hs,?_⟩);rintro w nJ - hs;refine .block (.draw mix rfl hs fun w hs=>?_);refine .y 0 rfl hs an ?_;refine .z 1 rfl (zfa wm) ?_;refine .zv 2 rfl hs (rE isAgg200) (.ys 3 rfl hs [_,_,_,_,_,_,_,_,_] P5 A8 ?_);refine .ys 4 rfl hs [_,_,_] isAgg138 Ba ?_;refine .E 5 hs ?_;refine .ng (first:=[]) (cap:=[]) rfl rfl (Mx q.kind) (Mw (s:=s) (q:=q) (i:=i) (k:=k) hs (h1.mono (aq.trans aO)) (h2.mono (aq.trans aO)) bh hq hk gM KY) ?_;rintro _ w ⟨H3,bP,rfl,hs⟩;refine .go (.E 6 hs ?_);refine .buildSlice (cells:=[_]) hs bJ rfl rfl ?_;intro UH w hs;refine .go (.E 7 hs ?_);refine .append (ys:=Is [rZ s q i k]) hs bO rfl rfl hO (.own .here rfl rfl) (jF _) (fun l h=>by simp at h;omega) ?_;intro v42 en42 w eh hs;rw [show Is ((nX s q).take (p+1))++Is [rZ s q i k]=Is ((nX s q).take (p+1+1)) by rw [dv ID];simp [Is]] at eh;obtain ⟨a42,l42,c42,rfl,h42⟩:=eh.shape;refine .go (.E 8 hs ?_);refine .store hs rfl rfl aJ ?_;intro w hs;exact .go (.D hs (nB ⟨H3,[.blk jx [.slice a42 l42 c42],en42,.blk b7 [.func (.func (Ia q.kind)) #[] #[],.func (.func (HO q.kind)) #[] #[],I (tE q)],.blk b9 [I q.kind,I q.st,I q.wa,I s.id,I s.src,(.slice ast s.st.length cst),(.slice awa s.wa.length cwa),I s.al,I s.up]],bP,(hs.sb:St H3 w (.blk jx _::en42:: .blk b7 _:: .blk b9 _::nJ)),_,_,rfl,eh⟩))
    ·rintro D H2 wH w aO ⟨vo,en,rfl,hO⟩ hs;rw [dJ,←KG,List.take_length] at hO;replace hs:St H2 w (.obj D (.deferred (some [])):: .blk jx [vo]::en:: .blk b7 [.func (.func (Ia q.kind)) #[] #[],.func (.func (HO q.kind)) #[] #[],I (tE q)]:: .blk b9 [I q.kind,I q.st,I q.wa,I s.id,I s.src,(.slice ast s.st.length cst),(.slice awa s.wa.length cwa),I s.al,I s.up]::σ):=hs;obtain ⟨al,ll,cl,rfl,Ah⟩:=hO.shape;refine nB (nT (.seq (.draw mix rfl hs fun w hs=>?_)));refine .y 0 rfl hs an ?_;refine .z 1 rfl (zfa wk) ?_;refine .y 2 rfl hs ai ?_;refine .z 3 rfl zg ?_;refine .z 4 rfl zg ?_;refine .z 5 rfl zg ?_;refine .D hs ?_;exact .ret (Fin.iz [D] [] hs fun w hs=>⟨_,results3 results43 rfl rfl rfl,H2,_,_,_,_,en,aq.trans aO,rfl,hO,.inl ⟨rfl,hq,rfl,rfl⟩,hs.sb⟩)
theorem lk{w:World}{d:Int}(hs:St H w σ)(hd:1≤d)(ha: -4608000000000000000≤a∧a≤4608000000000000000):
  aaA 45 [I a,I d] w fun v w'=>v=I (a/d)∧St H w' σ:=by
 have hq: -4608000000000000000≤a.tdiv d∧a.tdiv d≤4608000000000000000:=by
  have h1:=xZ (n:=a) (d:=d) aj;have h2:a/d≤4608000000000000000:=Int.ediv_le_of_le_mul aj (by
   have:=Int.mul_le_mul_of_nonneg_left hd (show (0:Int)≤4608000000000000000 by omega);omega)
  have h3: -4608000000000000000≤a/d:=Int.le_ediv_of_mul_le aj (by
   have:=Int.mul_le_mul_of_nonneg_left hd (show (0:Int)≤4608000000000000000 by omega);omega)
  by_cases h0:0≤a
  ·rw [Int.tdiv_eq_ediv_of_nonneg h0];omega
  ·split at h1
   ·have:a/d<0:=Int.ediv_neg_of_neg_of_pos aj aj;omega
   ·omega
 have G3:=xZ (n:=a) (d:=d) aj;refine Cl.o func45 ntmps45 ag2 ?_;refine .ae (.zn zg (.ae (.z zm (.z zm (.q hs (DK rfl rfl aj ⟨aj,aj⟩) (.zn zg (.seq (.ae (.z zm (.z zm (.z E2 (.zn jt (.bX rfl (fun gS=>?_) (fun gS=>?_))))))))))))))
 ·refine .region (.z zm (.z iw (.zn zg (nT (.ae (.z zm (.zn zg (.ret (Fin.bp results45 rfl ?_)))))))));rw [if_pos gS] at G3;exact ⟨by rw [G3],hs⟩
 ·refine .skip (nT (.ae (.z zm (.zn zg (.ret (Fin.bp results45 rfl ?_))))));rw [if_neg gS,Int.sub_zero] at G3;exact ⟨by rw [G3],hs⟩
theorem sS{w:World}{vst vwa:Value}(hs:St H w σ)(h1:RI H vst s.sp.st)(h2:RI H vwa s.sp.wa)(h3:RRd H vr s.rs)(h4:RCm H vc s.cs)(bh:eg s):
  aaA 101 [.agg #[I s.sp.id,I s.sp.src,vst,vwa,I s.sp.al,I s.sp.up,vr,vc]] w fun u w'=>∃H1,∃b:Bool,HLe H H1∧u= .bool b∧(b=true↔s.sys.Sound)∧St H1 w' σ:=by
 refine Cl.o func101 ntmps101 ag1 ?_;refine .ae (.bx hs fun b1 w hs=>?_);refine .zn zg (.ae (.y hs (zls [_,_,_,_,_,_,_,_] bA aM) (.o (.call call54 rfl (fK (s:=s) hs h1 h2 h3 h4 bh.early) ?_))));rintro v7 w ⟨H1,aq,hS,hs⟩;refine .o (.call call178 rfl (xG (s:=s.sys) hs hS) ?_);rintro _ w ⟨H2,vx,xs,e,aO,rfl,rx,hC,hs⟩;obtain ⟨ax,cx,rfl⟩:=RI.shape rx;have Xy:s.sys.check=0:=s.sys.dt.2 bh.sys;obtain rfl:e=0:=by
  cases hC with
  |bad h=>exact (h Xy).elim
  |sound=>rfl
  |chain=>rfl
 have IC:=hC.JR;refine .z zm (.z zex (.z zex (.z zg (.zn zg (.ae (.z zm (.z gO (.z zm (.mW (t':=13) rfl (fun Lj=>?_) (fun Lj=>?_))))))))))
 ·refine .T (.z zm (.T (.z (cJ af) (.T (.z gO (.z zpT (.zn zg (.ret (Fin.bp results101 rfl ?_)))))))));first
  |exact ⟨H2,_,aq.trans aO,rfl,by rw [←IC,decide_eq_true_eq];exact ⟨fun h=>List.length_eq_zero_iff.1 aj,fun h=>by rw [h];rfl⟩,hs.out⟩
  |exact (Lj rfl).elim
 ·refine .Fs 3 2 true (.z zpF (.zn zg (.ret (Fin.bp results101 rfl ?_))));first
  |exact ⟨H2,_,aq.trans aO,rfl,by rw [←IC,decide_eq_true_eq];exact ⟨fun h=>List.length_eq_zero_iff.1 aj,fun h=>by rw [h];rfl⟩,hs.out⟩
  |exact (Lj rfl).elim
theorem OD(L:List Int)(j:Nat):L++List.replicate j 0++[0]=L++List.replicate (j+1) 0:=by
 rw [List.append_assoc,←List.replicate_succ']
set_option maxHeartbeats 1000000 in
theorem xo{w:World}{q:Wht}{vst vwa:Value}(hs:St H w σ)(h1:RI H vst s.sp.st)(h2:RI H vwa s.sp.wa)(h3:RRd H vr s.rs)(h4:RCm H vc s.cs)(bh:eg s):
  aaA 100 [.agg #[I s.sp.id,I s.sp.src,vst,vwa,I s.sp.al,I s.sp.up,vr,vc],.agg #[I q.kind,I q.st,I q.wa]] w fun u w'=>∃H1 ul vw L d b,HLe H H1∧u= .tuple #[.agg #[I s.sys.many,ul,vw,I d],.bool b]∧RL H1 ul s.cu∧RI H1 vw L∧L.length=s.sys.n∧((b=true∧ij s.sp q∧L=s.w q∧d=tE q)∨(b=false∧¬ij s.sp q))∧St H1 w' σ:=by
 have hn:=yD s;have hm:=bh.many;have rk:s.sys.many+1=(s.sys.n:Int):=by rw [hn];show ((s.sp.many+s.bV.length:Nat):Int)+1=_;omega
 refine Cl.o func100 ntmps100 ag2 ?_;refine .ae (.bx hs fun b2 w hs=>?_);refine .bx hs fun b3 w hs=>?_
 refine .o (.alloc hs EY rfl fun b4 w hs=>?_);refine .zn zg (.ae (.y hs (zls [_,_,_,_,_,_,_,_] bA aM) (.o (.call call54 rfl (fK (s:=s) hs h1 h2 h3 h4 bh.early) ?_))));rintro _ w ⟨H1,aq,⟨ul,rfl,hL⟩,hs⟩;obtain ⟨al,cl,rfl⟩:=RL.shape hL;refine .o (.alloc hs fP rfl fun b6 w hs=>?_);refine .o (.aD (vs:=[_,_]) hs rfl rfl aZ fun w hs=>?_);refine .nil (.ae (.z (zfa bj) (.y hs (zls [_,_,_,_,_,_] bu aI) (.y hs (zls [_,_,_] Zc Aq) (.o (.call call43 rfl (ml (s:=s.sp) (q:=q) hs (h1.mono aq) (h2.mono aq) bh.early.1) ?_))))));rintro _ w ⟨H2,vl,L0,d,b,en,aO,rfl,hO,jJ,hs⟩;have Yr:L0.length≤s.sys.n:=by
  rcases jJ with ⟨_,_,rfl,_⟩|⟨_,_,rfl,_⟩
  ·rw [jb,hn];omega
  ·simp
 have cK:=aq.trans aO;refine .z zm (.z zex (.z zex (.z zex (.z zg (.z zg (.zn zg (.seq (.block ?_))))))));refine .loop (fun p:Nat×Value=>⟨34,[],[(7,p.2),(8,I d),(9,.bool b),(6,Pt b6),(4,Pt b4)]⟩)
  (fun p w=>L0.length+p.1≤s.sys.n∧∃en,bM 1 p.2 (Is (L0++List.replicate p.1 0)) en∧St H2 w (en:: .blk b6 [I s.sys.many,.slice al s.cu.length cl]:: .blk b4 [I 0,.slice none 0 0,.slice none 0 0,I 0]::σ)) (fun p=>s.sys.n - (L0.length+p.1)) (0,vl) bk
  ⟨by simpa using Yr,en,by simpa using hO,hs.sb⟩ ?_
 clear hO hs;rintro ⟨j,vo⟩ w ⟨hj,en,hO,hs⟩;dsimp only at hj hO ⊢;obtain ⟨ao,lo,co,rfl,Da⟩:=hO.shape;have TH:lo=L0.length+j:=by simp [Is] at Da;omega
 refine .seq (.ae (.z zm (.z (cJ af) (.z (zfa bT) (.y hs (zld ai) (.z cz (.zn jt (.bX rfl (fun kA=>?_) (fun kA=>?_)))))))))
 ·refine .skip (nT (.block (.region (.z zm (.o (.buildSlice (cells:=[_]) hs bJ rfl rfl fun BO w hs=>?_))))));refine .o (.append (ys:=Is [0]) hs bO rfl rfl hO (.own .here rfl rfl) (jF _) (fun l' h=>by simp [Is] at h;omega) ?_);intro v28 en28 w eh hs;rw [show Is (L0++List.replicate j 0)++Is [0]=Is (L0++List.replicate (j+1) 0) by rw [←OD];simp [Is]] at eh;exact .zn zg (nB (nT ⟨(j+1,v28),bk,⟨by dsimp only;omega,_,eh,hs.sb⟩,by dsimp only;omega⟩))
 ·refine .exit (xT (xT (xB (nT (.ae (.y hs (zls [_,_] bZ aZ) (.z zm (.z zm (.z (zbd [_,_,_,_] gP) (.z zm (.o (.aD (vs:=[_,_,_,_]) hs rfl rfl iE fun w hs=>?_))))))))))));refine .zn zg (.ret ?_);have TP:L0.length+j=s.sys.n:=by omega
  obtain ⟨H3,bP,hR,hs⟩:=bM.ck hO (by simp;omega) hs dr;exact Fin.iz [] [] hs fun w hs=>⟨_,results2 results100 (cO (vs:=[_,_,_,_]) hs rfl P7 iE) rfl,H3,_,_,_,d,b,cK.trans bP,rfl,hL.mono (aO.trans bP),hR,by simp;omega,by
   rcases jJ with ⟨g1,g2,rfl,g3⟩|⟨g1,g2,_,_⟩
   ·refine .inl ⟨g1,g2,?_,g3⟩;rw [jb,hn] at TP;unfold Srv.w;rw [show j=s.bV.length by omega]
   ·exact .inr ⟨g1,g2⟩,hs.out⟩
inductive A7(v:Srv)(q:Wht):Int→Prop
 |bad {e:Int} (h:EP v e) (he:e≠0):A7 v q e
 |what (h:eg v) (h1:¬ij v.sp q):A7 v q 33
 |fls (h:eg v) (h1:ij v.sp q) (h2:¬v.sys.Sound):A7 v q 35
 |ok (h:eg v) (h1:ij v.sp q) (h2:v.sys.Sound):A7 v q 0
theorem A7.zero{v:Srv}{q:Wht}(h:A7 v q 0):eg v∧ij v.sp q∧v.sys.Sound:=by
 generalize hz:(0:Int)=z at h
 cases h with
 |bad h he=>exact (he hz.symm).elim
 |what=>omega
 |fls=>omega
 |ok h h1 h2=>exact ⟨h,h1,h2⟩
theorem A7.qty{v:Srv}{q:Wht}(h:A7 v q e)(he:e≠0):Fc v q 0 0 e:=by
 cases h with
 |bad h he=>exact .bad h he
 |what h h1=>exact .what h h1
 |fls h h1 h2=>exact .fls h h1 h2
 |ok=>exact (he rfl).elim
set_option maxHeartbeats 1000000 in
theorem nz{w:World}{q:Wht}{vst vwa:Value}(hs:St H w σ)(h1:RI H vst s.sp.st)(h2:RI H vwa s.sp.wa)(h3:RRd H vr s.rs)(h4:RCm H vc s.cs):
  aaA 51 [.agg #[I s.sp.id,I s.sp.src,vst,vwa,I s.sp.al,I s.sp.up,vr,vc],.agg #[I q.kind,I q.st,I q.wa]] w fun u w'=>∃H1 m ul vw d e,HLe H H1∧u= .tuple #[.agg #[I m,ul,vw,I d],I e]∧(∃a l c,ul= .slice a l c)∧(∃a l c,vw= .slice a l c)∧A7 s q e∧(e=0→m=s.sys.many∧RL H1 ul s.cu∧RI H1 vw (s.w q)∧d=tE q)∧St H1 w' σ:=by
 refine Cl.o func51 ntmps51 ag2 ?_;refine .ae (.bx hs fun b2 w hs=>?_);refine .bx hs fun b3 w hs=>?_
 refine .o (.alloc hs EY rfl fun b4 w hs=>?_);refine .zn zg (.seq (.ae (.y hs (zls [_,_,_,_,_,_,_,_] bA aM) (.o (.call call53 rfl (fb (s:=s) hs h1 h2 h3 h4) ?_)))));rintro _ w ⟨H1,e,aq,rfl,hC,hs⟩;refine .zn zg (.ae (.z zm (.zn gE (.eN rfl (fun gS=>?_) (fun gS=>?_)))))
 ·refine .ae (.z (zbd [_,_,_,_] gP) (.z zm (.o (.aD (vs:=[_,_,_,_]) hs rfl rfl iE fun w hs=>?_))));exact .zn zg (.ret (rT ((Fin.iz [] [] hs fun w hs=>⟨_,results2 results51 (cO (vs:=[_,_,_,_]) hs rfl P7 iE) rfl,H1,_,_,_,_,e,aq,rfl,⟨_,_,_,rfl⟩,⟨_,_,_,rfl⟩,.bad hC gS,fun h=>(gS h).elim,hs.out⟩))))
 ·refine .skip (nT (.ae (.y hs (zls [_,_,_,_,_,_,_,_] bA aM) (.y hs (zls [_,_,_] Zc Aq) ?_))));have bh:eg s:=hC.dt.1 (by simpa using gS);refine .o (.call call100 rfl (xo (s:=s) (q:=q) hs (h1.mono aq) (h2.mono aq) (h3.mono aq) (h4.mono aq) bh) ?_);rintro _ w ⟨H2,ul,vw,L,d,b,aO,rfl,hL,hR,hLl,jJ,hs⟩;have cK:=aq.trans aO;obtain ⟨al,cl,rfl⟩:=RL.shape hL;obtain ⟨aw,cw,rfl⟩:=RI.shape hR;refine .z zm (.z zex (.z zex (.o (.alloc hs EY rfl fun b7 w hs=>?_))));refine .o (.aD (vs:=[_,_,_,_]) hs rfl rfl iE fun w hs=>?_);refine .zn zg (.seq (.block (.ae (.z zm (.z im (.zn zg (.cond rfl (fun kf=>?_) (fun kf=>?_))))))))
  ·refine .ae (.z (zbd [_,_,_,_] gP) (.o (.aD (vs:=[_,_,_,_]) hs rfl rfl iE fun w hs=>?_)));refine .zn zg (.ret (rB (rT (?_))));have hq:¬ij s.sp q:=by
    rcases jJ with ⟨g,_⟩|⟨_,g⟩
    ·subst g;cases kf
    ·exact g
   exact Fin.iz [] [] hs fun w hs=>⟨_,results2 results51 (cO (vs:=[_,_,_,_]) hs rfl P7 iE) rfl,H2,_,_,_,_,_,cK,rfl,⟨_,_,_,rfl⟩,⟨_,_,_,rfl⟩,.what bh hq,fun h=>by omega,hs.out⟩
  ·refine .ae (.y hs (zls [_,_,_,_,_,_,_,_] bA aM) ?_);obtain ⟨rfl,hq,rfl,rfl⟩:b=true∧ij s.sp q∧L=s.w q∧d=tE q:=jJ.resolve_right fun h=>by rw [h.1] at kf;cases kf
   refine .o (.call call101 rfl (sS (s:=s) hs (h1.mono cK) (h2.mono cK) (h3.mono cK) (h4.mono cK) bh) ?_);rintro _ w ⟨H3,BO,bP,rfl,uq,hs⟩;refine .z im (.zn zg (.cond rfl (fun kA=>?_) (fun kA=>?_)))
   ·refine .ae (.z (zbd [_,_,_,_] gP) (.o (.aD (vs:=[_,_,_,_]) hs rfl rfl iE fun w hs=>?_)));exact .zn zg (.ret (rB (rT ((Fin.iz [] [] hs fun w hs=>⟨_,results2 results51 (cO (vs:=[_,_,_,_]) hs rfl P7 iE) rfl,H3,_,_,_,_,_,cK.trans bP,rfl,⟨_,_,_,rfl⟩,⟨_,_,_,rfl⟩,.fls bh hq (fun h=>by rw [uq.2 h] at kA;cases kA),fun h=>by omega,hs.out⟩)))))
   ·refine .skip (nB (nT (.ae (.y hs (zls [_,_,_,_] P7 iE) (.o (.aD (vs:=[_,_,_,_]) hs rfl rfl iE fun w hs=>?_))))));exact .zn zg (.ret (Fin.iz [] [] hs fun w hs=>⟨_,results2 results51 (cO (vs:=[_,_,_,_]) hs rfl P7 iE) rfl,H3,_,_,_,_,_,cK.trans bP,rfl,⟨_,_,_,rfl⟩,⟨_,_,_,rfl⟩,.ok bh hq (uq.1 (by simpa using kA)),fun _=>⟨rfl,hL.mono bP,hR.mono bP,rfl⟩,hs.out⟩))
set_option maxHeartbeats 1000000 in
theorem tY{w:World}{q:Wht}{vst vwa:Value}(hs:St H w σ)(h1:RI H vst s.sp.st)(h2:RI H vwa s.sp.wa)(h3:RRd H vr s.rs)(h4:RCm H vc s.cs):
  aaA 17 [.agg #[I s.sp.id,I s.sp.src,vst,vwa,I s.sp.al,I s.sp.up,vr,vc],.agg #[I q.kind,I q.st,I q.wa]] w fun u w'=>∃H1 lo hi e,HLe H H1∧u= .tuple #[.agg #[I lo,I hi],I e]∧Fc s q lo hi e∧St H1 w' σ:=by
 refine Cl.o func17 ntmps17 ag2 ?_;refine .ae (.bx hs fun b2 w hs=>?_);refine .bx hs fun b3 w hs=>?_
 refine .o (.alloc hs gW rfl fun b4 w hs=>?_);refine .zn zg (.ae (.y hs (zls [_,_,_,_,_,_,_,_] bA aM) (.y hs (zls [_,_,_] Zc Aq) (.o (.call call51 rfl (nz (s:=s) (q:=q) hs h1 h2 h3 h4) ?_)))));rintro _ w ⟨H1,m,ul,vw,d,e,aq,rfl,⟨al,ll,cl,rfl⟩,⟨aw,lw,cw,rfl⟩,hA,Ux,hs⟩;refine .z zm (.z zex (.z zex (.o (.alloc hs EY rfl fun b6 w hs=>?_))));refine .o (.aD (vs:=[_,_,_,_]) hs rfl rfl iE fun w hs=>?_);refine .zn zg (.seq (.ae (.z zm (.zn gE (.eN rfl (fun kV=>?_) (fun kV=>?_))))))
 ·refine .ae (.z (zbd [_,_] ew) (.z zm (.o (.aD (vs:=[_,_]) hs rfl rfl a8 fun w hs=>?_))));exact .zn zg (.ret (rT ((Fin.iz [] [] hs fun w hs=>⟨_,results2 results17 (cO (vs:=[_,_]) hs rfl dL a8) rfl,H1,_,_,_,aq,rfl,hA.qty kV,hs.out⟩))))
 ·refine .skip (nT (.ae (.z (zfa lV) (.y hs (zls [_,_] bZ aZ) (.z (zfa lU) (.y hs (zld an) ?_))))));obtain rfl:e=0:=by simpa using kV
  obtain ⟨rfl,hL,hR,rfl⟩:=Ux rfl;obtain ⟨bh,hq,xy⟩:=hA.zero;refine .o (.call call52 rfl (xF (s:=s.sys) hs ⟨_,rfl,hL⟩ hR) ?_);rintro _ w ⟨H2,lo,hi,f,aO,rfl,X8,hs⟩;obtain rfl:=CP (bh.ask hq) xy (fun b=>s.both) X8;have Dc:=X8.bd;have ZN:=yi q;refine .z zm (.z zex (.z zex (.z zex (.z zg (.z zg (.zn zg (.seq (.ae (.z zm (.zn gE (.eN rfl (fun rH=>?_) (fun rH=>?_))))))))))))
  ·refine .ae (.z (zbd [_,_] ew) (.z zm (.o (.aD (vs:=[_,_]) hs rfl rfl a8 fun w hs=>?_))));exact .zn zg (.ret (rT (((rH rfl).elim))))
  ·refine .skip (nT (.seq (.draw mix rfl hs fun w hs=>?_)));refine .zw 0 rfl zm ?_;refine .z 1 rfl (zfa lT) ?_;refine .y 2 rfl hs ai ?_;refine .z 4 rfl zm ?_;refine .z 5 rfl (zfa lT) ?_;refine .y 6 rfl hs ai ?_;refine .E 3 hs ?_;refine .call call45 rfl (lk hs aj aj) ?_;rintro _ w ⟨rfl,hs⟩;refine .go (.E 7 hs ?_);refine .call call45 rfl (lk hs aj aj) ?_;rintro _ w ⟨rfl,hs⟩;refine .go (.zw 8 rfl (zbd [_,_] ew) (.E 9 hs ?_));refine .aD (vs:=[_,_]) hs rfl rfl a8 ?_;intro w hs;refine .go (.zw 10 rfl zg ?_);refine .D hs ?_;exact .ret (Fin.iz [] [] hs fun w hs=>⟨_,results2 results17 (cO (vs:=[_,_]) hs rfl dL a8) rfl,H2,_,_,_,aq.trans aO,rfl,.ok bh hq xy X8,hs.out⟩)
inductive HJ(v:Srv)(out:List Int):Int→Prop
 |bad {e:Int} (h:EP v e) (he:e≠0) (h1:out=[]):HJ v out e
 |ok {e:Int} (h:eg v) (h1:Gs v.sys out e):HJ v out e
theorem tX{w:World}{vst vwa:Value}(hs:St H w σ)(h1:RI H vst s.sp.st)(h2:RI H vwa s.sp.wa)(h3:RRd H vr s.rs)(h4:RCm H vc s.cs):
  aaA 125 [.agg #[I s.sp.id,I s.sp.src,vst,vwa,I s.sp.al,I s.sp.up,vr,vc]] w fun u w'=>∃H1 vx out e,HLe H H1∧u= .tuple #[vx,I e]∧RI H1 vx out∧HJ s out e∧St H1 w' σ:=by
 refine Cl.o func125 ntmps125 ag1 ?_;refine .ae (.bx hs fun b1 w hs=>?_);refine .z zg (.zn zg (.seq (.ae (.y hs (zls [_,_,_,_,_,_,_,_] bA aM) (.o (.call call53 rfl (fb (s:=s) hs h1 h2 h3 h4) ?_))))));rintro _ w ⟨H1,e,aq,rfl,hC,hs⟩;refine .zn zg (.ae (.z zm (.zn gE (.eN rfl (fun pR=>?_) (fun pR=>?_)))))
 ·exact .ae (.z zm (.z zg (.zn zg (.ret (rT (Fin.mi results125 rfl rfl ⟨H1,_,[],_,aq,rfl,RS.nil H1 1 none 0,.bad hC pR rfl,hs.out⟩))))))
 ·refine .skip (nT (.ae (.y hs (zls [_,_,_,_,_,_,_,_] bA aM) ?_)));have bh:eg s:=hC.dt.1 (by simpa using pR);refine .o (.call call54 rfl (fK (s:=s) hs (h1.mono aq) (h2.mono aq) (h3.mono aq) (h4.mono aq) bh.early) ?_);rintro v14 w ⟨H2,aO,hS,hs⟩;refine .o (.call call198 rfl (tk (s:=s.sys) hs hS) ?_);rintro _ w ⟨H3,vx,out,f,bP,rfl,hR,hCf,hs⟩;exact .z zm (.z zex (.z zex (.z zg (.zn zg (.ae (.z zm (.z zm (.z zg (.zn zg (.ret (Fin.mi results125 rfl rfl ⟨H3,_,out,_,aq.trans (aO.trans bP),rfl,hR,.ok bh hCf,hs.out⟩)))))))))))
theorem qe{w:World}{v:Value}{rs:List (List Int)}(q:List Int→Prop)(hs:St H w σ)(hR:RT H v rs)(hl:rs.length≤9223372036854775807)(hc:∀args w,(callFunc g args).run Tryz.prog w= .ok (.enter g args) w)
  (hp:∀H' w σ r u,HLe H H'→RI H' u r→St H' w σ→aaA g ([u]++cap) w fun z w'=>∃H1 b,HLe H' H1∧z= .bool b∧(b=true↔q r)∧St H1 w' σ):
  aaA 158 [v,.func (.func g) #[] cap.toArray] w fun u w'=>∃H1 i,HLe H H1∧u=I i∧(0≤i↔∃x∈rs,q x)∧St H1 w' σ:=by
 obtain ⟨a,c,rfl⟩:=hR.shape;refine Cl.o func158 ntmps158 ag2 ?_;refine .ae (.zn zg (.seq (.ae (.z zm (.z (cJ az) (.zn zm (.for (N:=rs.length) (J:=fun k fr w=>fr=[(1,.func (.func g) #[] cap.toArray),(0,.slice a rs.length c)]∧∃H1,HLe H H1∧(∀j<k,∀y,rs[j]? =some y→¬q y)∧St H1 w σ) aj ?_ ?_ ?_)))))))
 ·exact .mk ⟨rfl,H,HLe.refl H,fun j hj=>by omega,hs⟩
 ·rintro k fr w hk ⟨rfl,H1,aq,fF,hs⟩;have hx:=wV (rs:=rs) hk;refine .block (.ae (.z zm (.zn zg (.ae (.z zm (.z zm (.z zm (.ixT hs (hR.mono aq) rfl rfl az aJ (show k<_ by omega) dD ?_))))))));intro tt o14 a14 c14 iW Yj;refine .q hs (aP rfl an iW) (.o (.ng (first:=[]) (cap:=cap) rfl rfl hc (hp _ _ _ (gr rs k) _ aq Yj hs) ?_));rintro _ w ⟨H2,w7,aO,rfl,tc,hs⟩;refine .nil (.cond rfl (fun ee=>?_) (fun ee=>?_))
  ·exact .ae (.z zm (.zn zg (.ret (rB (rT (rB (rT (Fin.bp results158 rfl ⟨H2,_,aq.trans aO,rfl,⟨fun _=>⟨_,List.mem_of_getElem? hx,tc.1 ee⟩,fun _=>by omega⟩,hs⟩))))))))
  ·exact .skip (nB (nT (.mk ⟨rfl,H2,aq.trans aO,gv fF hx (fun h=>by rw [tc.2 h] at ee;cases ee),hs⟩)))
 ·rintro fr w ⟨rfl,H1,aq,fF,hs⟩;refine nT (.ae (.zn zg (.ret (Fin.bp results158 rfl ?_))));exact ⟨H1,_,aq,rfl,⟨fun h=>by omega,fun ⟨x,h1,h2⟩=>by
   obtain ⟨j,hj⟩:=List.getElem?_of_mem h1;exact (fF j (List.getElem?_eq_some_iff.1 hj).1 x hj h2).elim⟩,hs⟩
theorem oe{w:World}{v:Value}{rs:List (List Int)}(q:List Int→Prop)(hs:St H w σ)(hR:RT H v rs)(hl:rs.length≤9223372036854775807)(hc:∀args w,(callFunc g args).run Tryz.prog w= .ok (.enter g args) w)
  (hp:∀H' w σ r u,HLe H H'→RI H' u r→St H' w σ→aaA g ([u]++cap) w fun z w'=>∃H1 b,HLe H' H1∧z= .bool b∧(b=true↔q r)∧St H1 w' σ):
  aaA 87 [v,.func (.func g) #[] cap.toArray] w fun u w'=>∃H1 b,HLe H H1∧u= .bool b∧(b=true↔∃x∈rs,q x)∧St H1 w' σ:=by
 refine Cl.o func87 ntmps87 ag2 ?_;refine .ae (.zn zg (.ae (.z zm (.z zm (.o (.call call158 rfl (qe q hs hR hl hc hp) ?_))))));rintro _ w ⟨H1,i,aq,rfl,hi,hs⟩;exact .z Bd (.zn zg (.ret (Fin.bp results87 rfl ⟨H1,_,aq,rfl,by simp only [decide_eq_true_eq];exact hi,hs⟩)))
theorem zp{w:World}{n:Int}(hs:St H w σ):
  aaA 90 [I n] w fun u w'=>u= .bool (!decide (0≤n∧n≤20000))∧St H w' σ:=by
 refine Cl.o func90 ntmps90 ag1 ?_;refine .ae (.zn zg (.ae (.z zm (.o (.call kU rfl (bq hs) ?_)))));rintro _ w ⟨rfl,hs⟩;exact .z im (.zn zg (.ret (Fin.bp results90 rfl ⟨rfl,hs⟩)))
theorem Cs{w:World}{s:Spc}{v vst vwa:Value}{r:List Int}(hs:St H w σ)(hb:Row H b [I s.id,I s.src,vst,vwa,I s.al,I s.up])(h2:RI H vwa s.wa)(hr:RI H v r):
  aaA 88 [v,Pt b] w fun u w'=>∃H1 bb,HLe H H1∧u= .bool bb∧(bb=true↔¬(r.length=s.wa.length∧∀x∈r,0≤x∧x≤20000))∧St H1 w' σ:=by
 obtain ⟨a,c,rfl⟩:=RI.shape hr;obtain ⟨awa,cwa,rfl⟩:=RI.shape h2;have Sj:=hb.at 3;refine Cl.o func88 ntmps88 ag2 ?_;refine .ae (.zn zg (.ae (.z zm (.z (cJ af) (.z (zfa bg) (.y hs (zld an) (.z (cJ af) (.z gE (.z zm (.Js (t':=10) rfl (fun qy=>?_) (fun qy=>?_)))))))))))
 ·exact .Fs 2 6 false (.z zpT (.zn zg (.ret (Fin.bp results88 rfl ⟨H,true,HLe.refl H,rfl,⟨fun _ h=>by have:=h.1;simp_all,fun _=>rfl⟩,hs⟩))))
 ·refine .T (.z zm (.T (.o (.call call89 rfl (nL (g:=90) (cap:=[]) (fun n=>¬(0≤n∧n≤20000)) hs hr call90 (fun H' w σ n _ _ hs=>(zp hs).mono fun u w' ⟨g1,g2⟩=>⟨H',_,HLe.refl _,g1,by simp;omega,g2⟩)) ?_))));rintro _ w ⟨H1,rP,aq,rfl,Ll,hs⟩;refine .z zpF (.zn zg (.ret (Fin.bp results88 rfl ?_)));have hlen:r.length=s.wa.length:=by simp_all;omega
  exact ⟨H1,_,aq,rfl,by
   rw [Ll];constructor
   ·rintro ⟨x,h1,h2⟩ h;exact h2 (h.2 x h1)
   ·intro h;refine Classical.byContradiction fun hn=>h ⟨hlen,fun x hx=>Classical.byContradiction fun hx'=>hn ⟨x,hx,hx'⟩⟩,hs⟩
theorem NK{s:Spc}:lZ s rows↔rows.length=s.st.length∧∀r∈rows,r.length=s.wa.length∧∀x∈r,0≤x∧x≤20000:=by
 constructor
 ·rintro ⟨h1,h2,h3⟩;refine ⟨h1,fun r hr=>?_⟩;obtain ⟨i,hi⟩:=List.getElem?_of_mem hr;have si:=(List.getElem?_eq_some_iff.1 hi).1;have hg:=wV si;rw [hi] at hg;obtain rfl:=Option.some.inj hg;have hl:=h2 i aj;refine ⟨hl,fun x hx=>?_⟩;obtain ⟨k,hk⟩:=List.getElem?_of_mem hx;have rF:=(List.getElem?_eq_some_iff.1 hk).1;have ZK:=bG rF;rw [hk] at ZK;obtain rfl:=Option.some.inj ZK;exact h3 i aj k aj
 ·rintro ⟨h1,h2⟩;have hm:∀i<s.st.length,gr rows i∈rows:=fun i hi=>List.mem_of_getElem? (wV aj)
  refine ⟨h1,fun i hi=>(h2 _ (hm i hi)).1,fun i hi k hk=>?_⟩;have hl:=(h2 _ (hm i hi)).1;exact (h2 _ (hm i hi)).2 _ (List.mem_of_getElem? (bG aj))
theorem mO{w:World}{s:Spc}{vst vwa:Value}(hs:St H w σ)(h1:RI H vst s.st)(h2:RI H vwa s.wa)(hr:RT H vh rows):
  aaA 42 [.agg #[I s.id,I s.src,vst,vwa,I s.al,I s.up],.agg #[vh]] w fun u w'=>∃H1 b,HLe H H1∧u= .bool b∧(b=true↔lZ s rows)∧St H1 w' σ:=by
 obtain ⟨ast,cst,rfl⟩:=RI.shape h1;obtain ⟨awa,cwa,rfl⟩:=RI.shape h2;obtain ⟨ah,ch,rfl⟩:=hr.shape;have Ea:=(hr.len).2.2;refine Cl.o func42 ntmps42 ag2 ?_;refine .ae (.bx hs fun b2 w hs=>?_);refine .bx hs fun b3 w hs=>?_
 refine .zn zg (.ae (.z (zfa eS) (.y hs (zld wE) (.z (cJ az) (.z (zfa bw) (.y hs (zld an) (.z (cJ af) (.z gO (.z zm (.mW (t':=12) rfl (fun Ll=>?_) (fun Ll=>?_)))))))))))
 ·refine .T (.z (zfa eS) (.T (.y hs (zld wE) (.T (.q hs (cV (f:=[]) (c:=[_]) rfl rfl) (.T ?_))))));obtain ⟨H0,eZ,xY,hs⟩:=hs.bQ (b:=b2) dr;refine .o (.call call87 rfl (oe (g:=88) (cap:=[Pt b2]) (fun r=>¬(r.length=s.wa.length∧∀x∈r,0≤x∧x≤20000)) hs (hr.mono eZ) Ea call88 (fun H' w σ r u hle hu hs=>Cs (s:=s) hs (xY.mono hle) (h2.mono (eZ.trans hle)) hu)) ?_);rintro _ w ⟨H1,w7,aq,rfl,tc,hs⟩;refine .T (.z im (.z zpT (.zn zg (.ret (Fin.bp results42 rfl ?_)))));exact ⟨H1,_,eZ.trans aq,rfl,by
   rw [NK];have hlen:rows.length=s.st.length:=by omega
   cases Dd:w7 with
   |true=>
    obtain ⟨x,hx,hn⟩:=tc.1 Dd;exact ⟨fun h=>(by cases h),fun h=>(hn (h.2 x hx)).elim⟩
   |false=>exact ⟨fun _=>⟨hlen,fun r hr=>Classical.byContradiction fun hn=>by rw [tc.2 ⟨r,hr,hn⟩] at Dd;cases Dd⟩,fun _=>rfl⟩,hs.out⟩
 ·exact .Fs 5 7 true (.z zpF (.zn zg (.ret (Fin.bp results42 rfl ⟨H,_,HLe.refl H,rfl,⟨fun h=>(by cases h),fun h=>by have:=h.len;omega⟩,hs.out⟩))))
set_option maxHeartbeats 1000000 in
theorem kF{w:World}{s:Spc}{q:Wht}{vst vwa:Value}(hs:St H w σ)(h1:RI H vst s.st)(h2:RI H vwa s.wa)(hr:RT H vh rows):
  aaA 11 [.agg #[I s.id,I s.src,vst,vwa,I s.al,I s.up],.agg #[vh],.agg #[I q.kind,I q.st,I q.wa]] w fun u w'=>∃H1 n e,HLe H H1∧u= .tuple #[I n,I e]∧tx s rows q n e∧St H1 w' σ:=by
 obtain ⟨ah,ch,rfl⟩:=hr.shape;refine Cl.o func11 ntmps11 ag3 ?_;refine .ae (.bx hs fun b3 w hs=>?_);refine .bx hs fun b4 w hs=>?_
 refine .bx hs fun b5 w hs=>?_
 refine .z zg (.zn zg (.seq (.ae (.y hs (zls [_,_,_,_,_,_] bu aI) (.o (.call call41 rfl (fo (s:=s) hs h1 h2) ?_))))));rintro _ w ⟨H1,e,aq,rfl,he,hs⟩;refine .zn zg (.ae (.z zm (.zn gE (.eN rfl (fun kV=>?_) (fun kV=>?_)))))
 ·refine .ae (.z zm (.z zg (.zn zg (.ret (rT (?_))))));have hq:¬fm s∧e=30:=he.resolve_left fun h=>kV h.2
  exact Fin.iz [] [] hs fun w hs=>⟨_,results2 results11 rfl rfl,H1,_,_,aq,rfl,by rw [hq.2];exact .space hq.1,hs.out⟩
 ·refine .skip (nT (.seq (.ae (.y hs (zls [_,_,_,_,_,_] bu aI) (.y hs (zls [_] pc ea) ?_)))));have bh:fm s:=(he.resolve_right fun h=>by omega).1;have rk:=fI bh;refine .o (.call call42 rfl (mO (s:=s) hs (h1.mono aq) (h2.mono aq) (hr.mono aq)) ?_);rintro _ w ⟨H2,UJ,aO,rfl,wh,hs⟩;have cK:=aq.trans aO;refine .zn im (.cond rfl (fun jv=>?_) (fun jv=>?_))
  ·exact .ae (.z zg (.zn zg (.ret (rT ((Fin.iz [] [] hs fun w hs=>⟨_,results2 results11 rfl rfl,H2,_,_,cK,rfl,.hull bh (fun h=>by rw [wh.2 h] at jv;cases jv),hs.out⟩))))))
  ·refine .skip (nT (.ae (.y hs (zls [_,_,_,_,_,_] bu aI) (.y hs (zls [_,_,_] Zc Aq) ?_))));have hh:lZ s rows:=wh.1 (by simpa using jv);refine .o (.call call43 rfl (ml (s:=s) (q:=q) hs (h1.mono cK) (h2.mono cK) bh) ?_);rintro _ w ⟨H3,vl,L,d,b,en,bP,rfl,hO,jJ,hs⟩;have eO:=cK.trans bP;obtain ⟨al,cl,rfl⟩:=hO.yG;refine .z zm (.z zex (.z zex (.z zex (.o (.alloc hs gY rfl fun b9 w hs=>?_)))));refine .o (.store hs rfl rfl aJ fun w hs=>?_);refine .z zg (.zn zg (.seq (.ae (.z zm (.zn im (.cond rfl (fun oQ=>?_) (fun oQ=>?_)))))))
   ·refine .ae (.z zg (.zn zg (.ret (rT (?_)))));have hq:¬ij s q:=by
     rcases jJ with ⟨g,_⟩|⟨_,g,_⟩
     ·subst g;cases oQ
     ·exact g
    exact Fin.iz [] [] hs fun w hs=>⟨_,results2 results11 rfl rfl,H3,_,_,eO,rfl,.what bh hh hq,hs.out⟩
   ·refine .skip (nT (.ae (.o (.alloc hs du rfl fun rP w hs=>?_))));refine .o (.store hs rfl rfl ak fun w hs=>?_);refine .nil (.seq (.ae (.y hs (zls [_,_,_,_,_,_] bu aI) ?_)));obtain ⟨rfl,hq,rfl,rfl⟩:b=true∧ij s q∧L=nX s q∧d=tE q:=jJ.resolve_right fun h=>by rw [h.1] at oQ;cases oQ
    have KG:=jb s q;obtain ⟨H4,eL,hW,hs⟩:=bM.ck hO aj hs dr;have jI:=eO.trans eL;refine .o (.call call44 rfl (ff (s:=s) hs (h1.mono jI) (h2.mono jI) ⟨aj,aj⟩) ?_);rintro _ w ⟨H5,ba,eV,rfl,oG,hs⟩;have BE:=jI.trans eV;replace hW:=hW.mono eV;have WV:=hr.mono BE;refine .nil (.block ?_);refine .rangeFunc (gf:=92) (cap:=[Pt ba]) (xs:=Am s) (σb:=[.blk rP [I (fW s q rows 0)],.blk b9 [.slice al (nX s q).length cl],.blk b4 [.slice ah rows.length ch]]) (σf:=σ) (hs.sb) trivial rfl oG call92 (fun x hx=>by
      simp only [Am,List.mem_map] at hx;obtain ⟨j,_,rfl⟩:=hx;rfl) rfl
     (I:=fun p H' σb=>σb=[.blk rP [I (fW s q rows p)],.blk b9 [.slice al (nX s q).length cl],.blk b4 [.slice ah rows.length ch]]) (Ix:=fun _ _ _=>False)
     (fun j _ _ σ g1 g2=>g2) (fun _ _ _ _ _ h=>h) rfl ?_ ?_ (fun D c H' σb w _ h _=>h.elim)
    ·rintro ly p hp H6 wH wG w kH rfl hs ⟨rr,GV⟩;have GW:p<s.many:=by rw [dJ] at hp;exact hp
     have gM:p/s.wa.length<s.st.length:=Nat.div_lt_of_lt_mul (by rw [Nat.mul_comm];exact GW);have KY:=Nat.mod_lt p rk.2.2.1;have pC:fW s q rows (p+1)=fW s q rows p+gi (nX s q) (p+1)*gt rows (p/s.wa.length) (p%s.wa.length):=rfl;have Fa:=oB bh hq hh p aj;have BH:=oB bh hq hh (p+1) aj;have hwz:=oa bh hq;have hwz2:=oI (nX s q) (v:=p+1) (n:=s.many+1) aj;have Iv:=hh.num _ gM _ KY;have qu:=hh.row _ gM;have Tz:=hh.len;have WZ:=ox (a:=gi (nX s q) (p+1)) (b:=gt rows (p/s.wa.length) (p%s.wa.length)) (A:=3456000000000) (B:=20000) aj aj;have Xp:gt rows (p/s.wa.length) (p%s.wa.length)=gi (gr rows (p/s.wa.length)) (p%s.wa.length):=rfl;rw [nI hp];generalize p/s.wa.length=i at*;generalize p%s.wa.length=k at*;rw [Xp] at pC WZ Iv;refine .region (.o (.alloc hs pb rfl fun jG w hs=>?_));refine .o (.aD (vs:=[_,_,_]) hs rfl rfl Ba fun w hs=>?_);refine .nil (nT ⟨H6,[.blk jG [I (i:Int),I (k:Int),I ((p+1:Nat):Int)],.blk rP [I (fW s q rows p)],.blk b9 [.slice al (nX s q).length cl],.blk b4 [.slice ah rows.length ch]],HLe.refl _,hs,?_⟩);rintro w nJ - hs;refine .block (.draw mix rfl hs fun w hs=>?_);refine .y 0 rfl hs ai ?_;refine .y 1 rfl hs an ?_;refine .z 2 rfl (zfa dZ) ?_;refine .y 3 rfl hs ai ?_;refine .ixX (enc:=fun x=>[I x]) (i:=4) hs rfl au .none (hW.mono kH) rfl rfl af ak (bG (l:=(nX s q)) (i:=(p+1)) aj) dD ?_;intro VL o39 oD;replace oD:=bE.one oD;refine .r (i:=5) hs rfl au .none (aP rfl ai oD) ?_;refine .zw 6 rfl (zfa eS) ?_;refine .y 7 rfl hs wE ?_;refine .z 8 rfl (zfa cD) ?_;refine .y 9 rfl hs ai ?_;refine .ixT (i:=10) hs rfl au .none (WV.mono kH) rfl rfl az aJ (show i<_ by omega) dD ?_;intro aaw o45 a45 c45 T1 Ye;refine .r (i:=11) hs rfl au .none (aP rfl an T1) ?_;refine .zw 12 rfl (zfa cC) ?_;refine .y 13 rfl hs ai ?_;refine .ixX (enc:=fun x=>[I x]) (i:=14) hs rfl au .none Ye rfl rfl af ak (bG (l:=(gr rows i)) (i:=k) aj) dD ?_;intro YK o49 AT;replace AT:=bE.one AT;refine .r (i:=15) hs rfl au .none (aP rfl ai AT) ?_;refine .zw 16 rfl nf ?_;refine .z 17 rfl cz ?_;refine .E 18 hs ?_;refine .store hs rfl rfl ak ?_;intro w hs;exact .go (.D hs (nB ⟨H6,[.blk rP [I (fW s q rows (p+1))],.blk b9 [.slice al (nX s q).length cl],.blk b4 [.slice ah rows.length ch]],HLe.refl _,by rw [pC];exact (hs.sb:St H6 w (.blk rP _:: .blk b9 _:: .blk b4 _::nJ)),rfl⟩))
    ·rintro D H6 wH w kH rfl hs;rw [dJ] at hs;replace hs:St H6 w (.obj D (.deferred (some [])):: .blk rP [I (fW s q rows s.many)]:: .blk b9 [.slice al (nX s q).length cl]:: .blk b4 [.slice ah rows.length ch]::σ):=hs;have Dc:=oB bh hq hh s.many aj;have ZN:=yi q;refine nB (nT (.ae (.y hs (zld ai) (.z zm (.o (.call call45 rfl (lk hs aj aj) ?_))))));rintro _ w ⟨rfl,hs⟩;exact .z zg (.zn zg (.ret (Fin.iz [D] [] hs fun w hs=>⟨_,results2 results11 rfl rfl,H6,_,_,BE.trans kH,rfl,.ok bh hh hq,hs.out⟩)))
theorem j6{w:World}(hs:St H w σ)(h1:RI H v1 cn)(h2:RI H v2 bs):
  aaA 28 [v1,v2] w fun u w'=>u= .bool (decide (cn=bs))∧St H w' σ:=by
 obtain ⟨a1,c1,rfl⟩:=RI.shape h1;obtain ⟨a2,c2,rfl⟩:=RI.shape h2;have l1:=(RI.len h1).2.2;refine Cl.o func28 ntmps28 ag2 ?_;refine .ae (.zn zg (.ae (.z zm (.z (cJ af) (.z zm (.z (cJ af) (.z gO (.zn zg (.seq (.ae (.zn zg (.block ?_))))))))))));refine .loop (fun p:Nat×Bool=>⟨31,[],[(6,I (p.1:Int)),(5,.bool p.2),(0,.slice a1 cn.length c1),(1,.slice a2 bs.length c2)]⟩)
  (fun p w=>p.1≤cn.length∧(p.2=true↔cn.length=bs.length∧∀j<p.1,gi cn j=gi bs j)∧St H w σ) (fun p=>cn.length - p.1) (0,decide ((cn.length:Int)=bs.length)) bk
  ⟨Nat.zero_le _,by dsimp only;rw [decide_eq_true_eq];exact ⟨fun h=>⟨aj,fun j hj=>by omega⟩,fun h=>by omega⟩,hs⟩ ?_
 rintro ⟨k,b⟩ w ⟨hk,hb,hs⟩;dsimp only at hk hb ⊢;refine .seq (.ae (.z zm (.z zm (.z (cJ af) (.z jt (.z zm (.mW (t':=16) rfl (fun tc=>?_) (fun tc=>?_))))))))
 ·refine .T (.z zm (.zn zpT (.cond rfl (fun kI=>?_) (fun kI=>?_))))
  ·refine .skip (nT (.seq (.block (.draw mix rfl hs fun w hs=>?_))));refine .zw 0 rfl zm ?_;refine .z 1 rfl zm ?_;obtain rfl:b=true:=by assumption
   obtain ⟨hlen,oR⟩:=hb.1 rfl;refine .ixX (enc:=fun x=>[I x]) (i:=2) hs rfl au .none h1 rfl rfl af ak (bG (l:=cn) (i:=k) aj) dD ?_;intro LW o23 qx;replace qx:=bE.one qx;refine .r (i:=3) hs rfl au .none (aP rfl ai qx) ?_;refine .zw 4 rfl zm ?_;refine .z 5 rfl zm ?_;refine .ixX (enc:=fun x=>[I x]) (i:=6) hs rfl au .none h2 rfl rfl af ak (bG (l:=bs) (i:=k) aj) dD ?_;intro BO o27 xC;replace xC:=bE.one xC;refine .r (i:=7) hs rfl au .none (aP rfl ai xC) ?_;refine .zw 8 rfl gO ?_;refine .z 9 rfl zg ?_;refine .D hs ?_;refine nB (nT (.region (.z zm (.z cz (.zn zg (nT ?_))))));exact ⟨(k+1,decide (gi cn k=gi bs k)),.dP rfl br bk,⟨by dsimp only;omega,by
    dsimp only;rw [decide_eq_true_eq];exact ⟨fun h=>⟨hlen,fun j hj=>by
     by_cases e:j=k
     ·subst e;exact h
     ·exact oR j aj⟩,fun h=>h.2 k aj⟩,hs⟩,by dsimp only;omega⟩
  ·refine .exit (xT (xT (xB (nT (.ae (.z zm (.zn zg (.ret (Fin.bp results28 rfl ?_)))))))));have hf:b=false:=by simpa using kI
   exact ⟨by rw [hf,decide_eq_false (fun h=>by subst h;rw [hb.2 ⟨rfl,fun j _=>rfl⟩] at hf;cases hf)],hs⟩
 ·refine .Fs 1 4 true (.zn zpF (.cF (.exit (xT (xT (xB (nT (.ae (.z zm (.zn zg (.ret (Fin.bp results28 rfl ⟨?_,hs⟩))))))))))))
  congr 1
  cases Dd:b with
  |true=>
   obtain ⟨hl,ha⟩:=hb.1 Dd;rw [decide_eq_true (Ez hl fun j hj=>ha j aj)]
  |false=>rw [decide_eq_false (fun h=>by subst h;rw [hb.2 ⟨rfl,fun j _=>rfl⟩] at Dd;cases Dd)]
theorem ME{v:Srv}(h:eg v){q:Wht}(hq:ij v.sp q)(i:Nat): -3456000000000≤gi (v.w q) i∧gi (v.w q) i≤3456000000000:=by
 unfold Srv.w;rw [lR];by_cases hi:i<v.sp.many+1
 ·have h1:=oa h.early.1 hq;have h2:=oI (nX v.sp q) hi;omega
 ·have:gi (nX v.sp q) i=0:=by simp [gi,List.getD,List.getElem?_eq_none (show (nX v.sp q).length≤i by rw [jb];omega)]
  rw [this];omega
def Fb(w:List Int)(high:Bool):List Int:=if high then w else Bw w
theorem cI{w:World}{n m:Int}(hs:St H w σ)(hm:1≤m∧m≤4611686018427387904):
  aaA 10 [I n,I m] w fun u w'=>∃k:Nat,(k:Int)<m∧u=I (k:Int)∧St H w' σ:=by
 have h1:=Int.tmod_lt_of_pos n (show 0<m by omega);have h2:=Int.lt_tmod_of_pos n (show 0<m by omega);have h3:=Int.tmod_lt_of_pos (n.tmod m+m) (show 0<m by omega);have h4:=Int.tmod_nonneg m (show 0≤n.tmod m+m by omega);refine Cl.o func10 ntmps10 ag2 ?_;exact .ae (.zn zg (.ae (.z zm (.z zm (.z E2 (.z zm (.z cz (.z zm (.z E2 (.zn zg (.ret (Fin.bp results10 rfl ⟨((n.tmod m+m).tmod m).toNat,aj,by rw [show (((n.tmod m+m).tmod m).toNat:Int)=(n.tmod m+m).tmod m by omega],hs⟩))))))))))))
theorem cS{w:World}{v:Value}{l:List Int}{i n:Int}(hs:St H w σ)(hr:RI H v l)(hi:0≤i)(hn:1≤n∧n≤4611686018427387904):
  aaA 79 [v,I i,I n] w fun u w'=>∃k:Nat,(k:Int)<n∧u=I (k:Int)∧St H w' σ:=by
 obtain ⟨a,c,rfl⟩:=RI.shape hr;refine Cl.o func79 ntmps79 ag3 ?_;refine .ae (.zn zg (.seq (.ae (.z zm (.z (cJ af) (.zn gO (.bX rfl (fun nP=>?_) (fun nP=>?_))))))))
 ·exact .ae (.zn zg (.ret (rT (Fin.bp results79 rfl ⟨0,aj,rfl,hs⟩))))
 ·refine .skip (nT (.ae (.z zm (.z zm (.z zm (.z (cJ af) (.z E2 ?_)))))));have g1:=Int.tmod_lt_of_pos i (show 0<(l.length:Int) by omega);have g2:=Int.tmod_nonneg (l.length:Int) hi;refine .ixY hs hr rfl rfl af ak (bG (l:=l) (i:=(i.tmod l.length).toNat) aj) aj ?_;intro Df o15 iL;refine .q hs (aP rfl ai iL) (.z zm (.o (.call jy rfl (cI hs hn) ?_)));rintro _ w ⟨k,hk,rfl,hs⟩;exact .zn zg (.ret (Fin.bp results79 rfl ⟨k,hk,rfl,hs⟩))
theorem yO{w:World}{v:Value}{s:cN}{lK:List Int}(hs:St H w σ)(hr:RSy H v s)(hp:RI H vp lK)(BG:s.Ok∧s.Sound):
  aaA 82 [v,vp] w fun u w'=>∃H1 vx x en,HLe H H1∧u= .tuple #[vx,I 0]∧bM 1 vx (Is x) en∧BT s lK x∧St H1 w' (en::σ):=by
 obtain ⟨ul,rfl,hl⟩:=hr;obtain ⟨al,cl,rfl⟩:=RL.shape hl;obtain ⟨ap,cp,rfl⟩:=RI.shape hp;refine Cl.o func82 ntmps82 ag2 ?_;refine .ae (.bx hs fun b2 w hs=>?_);refine .z zg (.zn zg (.ae (.y hs (zls [_,_] bZ aZ) (.o (.call call80 rfl (po (s:=s) hs ⟨_,rfl,hl⟩) ?_)))));rintro _ w ⟨H1,vt,e,aq,rfl,jJ,hs⟩;refine .z zm (.z zex (.z zex (.z zg (.zn zg (.seq (.ae (.z zm (.zn gE (.eN rfl (fun AW=>?_) (fun AW=>?_))))))))))
 ·refine .ae (.z zm (.z zg (.zn zg (.ret (rT (Fin.mi results82 rfl rfl ?_))))))
  rcases jJ with ⟨h1,rfl,rfl⟩|⟨h1,h2,rfl,rfl⟩|⟨_,_,rfl,_⟩
  ·exact (h1 (s.dt.2 BG.1)).elim
  ·exact (h2 BG.2).elim
  ·exact (AW rfl).elim
 ·refine .skip (nT (.ae ?_));subst AW;obtain ⟨bh,xy,rs,wi,Sk,Un⟩:s.Ok∧s.Sound∧∃rs,RT H1 vt rs∧Sq s.n rs∧nj s.n s.da (gt rs):=by
   rcases jJ with ⟨h1,h2,_⟩|⟨_,_,h2,_⟩|⟨h1,h2,_,h3⟩
   ·exact (h1 h2.symm).elim
   ·omega
   ·exact ⟨h1,h2,h3⟩
  obtain ⟨at',ct,rfl⟩:=wi.shape;have N8:=bh.U1 xy Un;have Ea:=Sk.1;have GY:=bh.m0;have Mh:=bh.m1;have KR:(s.n:Int)=s.many+1:=by simp only [cN.n];omega
  refine .o (.buildSlice (cells:=[_]) hs bJ rfl rfl fun RM w hs=>?_);refine .zn zg (.seq (.ae (.zn zg (.block ?_))));refine .loop (fun p:List Int×Value=>⟨109,[],[(9,I (p.1.length:Int)),(8,p.2),(6,.slice at' rs.length ct),(2,Pt b2),(1,.slice ap lK.length cp)]⟩)
   (fun p w=>RZ (gt rs) (tT lK) p.1∧p.1.length≤s.n∧∃en,bM 1 p.2 (Is p.1) en∧St H1 w (en:: .blk b2 [I s.many,.slice al s.cu.length cl]::σ))
   (fun p=>s.n - p.1.length) ([0],.slice (some ⟨RM,0,none⟩) 1 1) bk
   ⟨.start,s.Kl,_,.full (len:=1) rfl,hs⟩ ?_
  rintro ⟨X,v8⟩ w ⟨hP,Z0,en,hO,hs⟩;dsimp only at hP Z0 hO ⊢;have hI:=hP.inv (fun i n hn=>Cc lK i hn) N8 Z0;have hX0:=hI.l0;have IQ:=hO;obtain ⟨b,cap,sp,rfl,rfl,qw⟩:=hO.some hX0;refine .seq (.ae (.z zm (.z (zfa bT) (.y hs (zld ai) (.zn rl (.bX rfl (fun jC=>?_) (fun jC=>?_)))))))
  ·refine .skip (nT (.seq (.block (.ae (.zn zg ?_)))));have IN:X.length<s.n:=by omega
   refine .ae (.zn zg (.seq (.ae (.z zm (.z (cJ af) (.zn zm (.for (N:=X.length) (J:=fun k fr w=>∃lo hi,fr=[(10,I lo),(11,I hi),(9,I (X.length:Int)),(8,.slice (some ⟨b,0,none⟩) X.length cap),(6,.slice at' rs.length ct),(2,Pt b2),(1,.slice ap lK.length cp)]∧LoI (gt rs) X X.length k lo∧HiI (gt rs) X X.length k hi∧St H1 w (.blk b (Is X++sp):: .blk b2 [I s.many,.slice al s.cu.length cl]::σ)) aj ?_ ?_ ?_)))))))
   ·exact .mk ⟨_,_,rfl,.start _ _ _,.start _ _ _,hs⟩
   ·rintro k fr w hk ⟨lo,hi,rfl,Sp,Sr,hs⟩;have Z1:=hI.bd k hk;have Pc:(gr rs X.length).length=s.n:=Sk.2 _ IN;have Cw:(gr rs k).length=s.n:=Sk.2 _ aj;have BH:gi (gr rs X.length) k≠1000000000→-1400000≤gi (gr rs X.length) k∧gi (gr rs X.length) k≤1400000:=fun h=>N8.bd X.length k IN aj h
    have xY:gi (gr rs k) X.length≠1000000000→-1400000≤gi (gr rs k) X.length∧gi (gr rs k) X.length≤1400000:=fun h=>N8.bd k X.length aj IN h
    refine .block (.ae (.z zm (.zn zg (.cut (fun fs w=>∃lo',np fs ⟨109,[],[(10,I lo'),(12,I (k:Int)),(31,I (k:Int)),(30,I (X.length:Int)),(11,I hi),(9,I (X.length:Int)),(8,.slice (some ⟨b,0,none⟩) X.length cap),(6,.slice at' rs.length ct),(2,Pt b2),(1,.slice ap lK.length cp)]⟩∧LoI (gt rs) X X.length (k+1) lo'∧St H1 w (.blk b (Is X++sp):: .blk b2 [I s.many,.slice al s.cu.length cl]::σ)) ?_ ?_))))
    ·refine .ae (.z zm (.z zm (.ixT hs wi rfl rfl az aJ (show X.length<rs.length by omega) rfl ?_)));intro VM o36 a36 c36 wc Yf;refine .q hs (aP rfl an wc) (.z zm (.ixY hs Yf rfl rfl af ak (bG (l:=gr rs X.length) (i:=k) aj) rfl ?_));intro VL o39 oD;refine .q hs (aP rfl ai oD) (.zn gE (.eN rfl (fun Ei=>?_) (fun Ei=>?_)))
     ·refine .draw mix rfl hs fun w hs=>?_
      refine .zw 0 rfl zm ?_;refine .z 1 rfl zm ?_;refine .z 2 rfl zm ?_;refine .z 3 rfl (zix af ak) ?_;refine .load (i:=4) hs rfl au .none rfl ai ?_ (hv:=gD hk sp);refine .zw 5 rfl zm ?_;refine .z 6 rfl zm ?_;refine .ixT (i:=7) hs rfl au .none wi rfl rfl az aJ (show X.length<rs.length by omega) rfl ?_;intro YK o49 a49 c49 AT Yc;refine .r (i:=8) hs rfl au .none (aP rfl an AT) ?_;refine .zw 9 rfl zm (.ixX (enc:=fun x=>[I x]) (i:=10) hs rfl au .none Yc rfl rfl af ak (bG (l:=gr rs X.length) (i:=k) aj) rfl ?_);intro b52 o52 K8;replace K8:=bE.one K8;refine .r (i:=11) hs rfl au .none (aP rfl ai K8) ?_;refine .zw 12 rfl iw ?_;refine .z 13 rfl HM ?_;refine .z 14 rfl zg ?_;refine .D hs ?_;exact nT ⟨_,bk,Sp.put Ei (by have:=BH Ei;have:=Z1;have:=N8.n65;show -1000000000≤gi X k - gi (gr rs X.length) k;omega),hs⟩
     ·exact .skip (nT ⟨_,bk,Sp.skip Ei,hs⟩)
    ·rintro fs w ⟨lo',i7,Ut,hs⟩;refine WE.sub ?_ i7;refine .ae (.z zm (.z zm (.ixT hs wi rfl rfl az aJ (show k<rs.length by omega) rfl ?_)));intro Sw o58 a58 c58 AS Yb;refine .q hs (aP rfl an AS) (.z zm (.ixY hs Yb rfl rfl af ak (bG (l:=gr rs k) (i:=X.length) aj) rfl ?_));intro b61 o61 F1;refine .q hs (aP rfl ai F1) (.zn gE (.eN rfl (fun uo=>?_) (fun uo=>?_)))
     ·refine .draw mix rfl hs fun w hs=>?_
      refine .zw 0 rfl zm ?_;refine .z 1 rfl zm ?_;refine .z 2 rfl zm ?_;refine .z 3 rfl (zix af ak) ?_;refine .load (i:=4) hs rfl au .none rfl ai ?_ (hv:=gD hk sp);refine .zw 5 rfl zm ?_;refine .z 6 rfl zm ?_;refine .ixT (i:=7) hs rfl au .none wi rfl rfl az aJ (show k<rs.length by omega) rfl ?_;intro b71 o71 a71 c71 XF Ya;refine .r (i:=8) hs rfl au .none (aP rfl an XF) ?_;refine .zw 9 rfl zm (.ixX (enc:=fun x=>[I x]) (i:=10) hs rfl au .none Ya rfl rfl af ak (bG (l:=gr rs k) (i:=X.length) aj) rfl ?_);intro b74 o74 IH;replace IH:=bE.one IH;refine .r (i:=11) hs rfl au .none (aP rfl ai IH) ?_;refine .zw 12 rfl cz ?_;refine .z 13 rfl Ju ?_;refine .z 14 rfl zg ?_;refine .D hs ?_;exact nB (nT (.mk ⟨lo',_,rfl,Ut,Sr.put uo (by have:=xY uo;have:=Z1;have:=N8.n65;show gi X k+gi (gr rs k) X.length≤1000000000;omega),hs⟩))
     ·exact .skip (nB (nT (.mk ⟨lo',_,rfl,Ut,Sr.skip uo,hs⟩)))
   ·rintro fr w ⟨lo,hi,rfl,Sp,Sr,hs⟩;have Jo:=Sp.bd hI N8 IN (Nat.le_refl _);have hhb:=Sr.bd hI N8 IN (Nat.le_refl _);have hle:=hI.le N8 IN rfl Sp Sr;simp only [free] at Jo hhb hle;have Vg:=Cc lK ((X.length:Int) - 1) (n:=hi - lo+1);refine nT (.ae (.zn zg (.cut (fun fs w=>np fs ⟨109,[],[(13,I (mf lo hi (tT lK ((X.length:Int) - 1) (hi - lo+1)))),(9,I (X.length:Int)),(8,.slice (some ⟨b,0,none⟩) X.length cap),(6,.slice at' rs.length ct),(2,Pt b2),(1,.slice ap lK.length cp)]⟩∧St H1 w (.blk b (Is X++sp):: .blk b2 [I s.many,.slice al s.cu.length cl]::σ)) ?_ ?_)))
    ·refine .block (.ae (.z zm (.z gE (.z zm (.Js (t':=82) rfl (fun N5=>?_) (fun N5=>?_))))))
     ·refine .T (.z zm (.T (.z gE (.z zpT (.zn zg (.eN rfl (fun IG=>?_) (fun IG=>?_)))))))
      ·refine .region (.z zm (.z zm (.z zm (.z iw (.z zm (.z zm (.z iw (.z cz (.o (.call call154 rfl (yP hs (hp.mono aq) aj aj) ?_))))))))));rintro _ w ⟨rfl,hs⟩;have Pe:hi≠1000000000:=by simpa using IG
       have hq2:=hle (by simpa using N5) Pe;have hq3:=Vg aj;refine .z cz (.zn zg (nB (nT ⟨.dP rfl ?_ bk,hs⟩)));unfold mf;simp only [free] at*;split<;>(try split)<;>first|rfl|omega|(simp_all;done)|(exfalso;simp_all;omega)
      ·refine .ae (.z zm (.z gE (.zn zg (.eN rfl (fun NZ=>?_) (fun NZ=>?_)))))
       ·refine .region (.z zm (.zn zg (nB (nT ⟨.dP rfl ?_ bk,hs⟩))));unfold mf;simp only [free] at*;split<;>(try split)<;>first|rfl|omega|(simp_all;done)|(exfalso;simp_all;omega)
       ·refine .ae (.z zm (.z gE (.zn zg (.eN rfl (fun zE=>?_) (fun zE=>?_)))))
        ·refine .region (.z zm (.zn zg (nB (nT ⟨.dP rfl ?_ bk,hs⟩))));unfold mf;simp only [free] at*;split<;>(try split)<;>first|rfl|omega|(simp_all;done)|(exfalso;simp_all;omega)
        ·refine .skip (nB (nT ⟨.dP rfl ?_ bk,hs⟩));unfold mf;simp only [free] at*;split<;>(try split)<;>first|rfl|omega|(simp_all;done)|(exfalso;simp_all;omega)
     ·refine .Fs 2 2 true (.z zpF (.zn zg (.cF (.ae (.z zm (.z gE (.zn zg (.eN rfl (fun NZ=>?_) (fun NZ=>?_)))))))))
      ·refine .region (.z zm (.zn zg (nB (nT ⟨.dP rfl ?_ bk,hs⟩))));unfold mf;simp only [free] at*;split<;>(try split)<;>first|rfl|omega|(simp_all;done)|(exfalso;simp_all;omega)
      ·refine .ae (.z zm (.z gE (.zn zg (.eN rfl (fun zE=>?_) (fun zE=>?_)))))
       ·refine .region (.z zm (.zn zg (nB (nT ⟨.dP rfl ?_ bk,hs⟩))));unfold mf;simp only [free] at*;split<;>(try split)<;>first|rfl|omega|(simp_all;done)|(exfalso;simp_all;omega)
       ·refine .skip (nB (nT ⟨.dP rfl ?_ bk,hs⟩));unfold mf;simp only [free] at*;split<;>(try split)<;>first|rfl|omega|(simp_all;done)|(exfalso;simp_all;omega)
    ·rintro fs w ⟨i7,hs⟩;refine WE.sub ?_ i7;refine .region (.z zm (.z zm (.o (.buildSlice (cells:=[_]) hs bJ rfl rfl fun YS w hs=>?_))));refine .o (.append (ys:=Is [mf lo hi (tT lK ((X.length:Int) - 1) (hi - lo+1))]) hs bO rfl rfl IQ (.own .here rfl rfl) (jF _) (fun l' h=>by simp at h;have:=N8.n65;omega) ?_);intro v107 en107 w eh hs;rw [←List.map_append] at eh;exact .zn zg (nB (nT (.region (.z zm (.z cz (.zn zg (nT ⟨(X++[mf lo hi (tT lK ((X.length:Int) - 1) (hi - lo+1))],v107),.dP rfl br bk,⟨hP.snoc Sp Sr,by simp;omega,_,eh,hs.sb⟩,by simp;omega⟩)))))))
  ·exact .exit (xT (xT (xB (nT (.ae (.z zm (.z zg (.zn zg (.ret (Fin.mi results82 rfl rfl ⟨H1,_,X,_,aq,rfl,IQ,⟨gt rs,Un,hP,aj⟩,hs.sb⟩))))))))))
theorem qg{w:World}{vst vwa:Value}(hs:St H w σ)(h1:RI H vst s.sp.st)(h2:RI H vwa s.sp.wa)(h3:RRd H vr s.rs)(h4:RCm H vc s.cs)(he:s.early):
  aaA 81 [.agg #[I s.sp.id,I s.sp.src,vst,vwa,I s.sp.al,I s.sp.up,vr,vc]] w fun u w'=>∃H1,HLe H H1∧RSy H1 u s.rK∧St H1 w' σ:=by
 obtain ⟨ar,cr,rfl⟩:=RRd.shape h3;have G3:=Hg s;have Ea:=he.2.1;refine Cl.o func81 ntmps81 ag1 ?_;refine .ae (.bx hs fun b1 w hs=>?_);refine .o (.alloc hs fP rfl fun b2 w hs=>?_);refine .nil (.ae (.y hs (zls [_,_,_,_,_,_,_,_] bA aM) (.o (.call call153 rfl (vC (s:=s) hs h1 h2 h3 h4 he) ?_))));rintro _ w ⟨H1,aq,⟨ul,rfl,hL⟩,hs⟩;have hL:RL H1 ul s.cu:=hL;obtain ⟨al,cl,rfl⟩:=RL.shape hL;have ZC:=RS.len hL;rw [List.length_map] at ZC;refine .o (.alloc hs fP rfl fun b3 w hs=>?_);refine .o (.aD (vs:=[_,_]) hs rfl rfl aZ fun w hs=>?_);refine .nil (.ae (.z (zfa bS) (.y hs (zld ft) (.z (zfa bS) (.y hs (zld ft) (.z (cJ aW) (.z (zfa aS) (.y hs (zld fa) (.z (cJ aV) (.z nf (.z iw (.q hs (tR (k:=s.qB.length) rfl rfl aW bU aj aj) ?_))))))))))));have hT:=RS.head hL (k:=s.qB.length) aj;rw [←List.map_take,Es] at hT;refine .z (zfa bS) (.o (.store hs rfl rfl sizeOf110 fun w hs=>?_));refine .nil (.ae (.y hs (zls [_,_] bZ aZ) (.o (.aD (vs:=[_,_]) hs rfl rfl aZ fun w hs=>?_))));exact .nil (.ret (Fin.iz [] [] hs fun w hs=>⟨_,results1 results81 (cO (vs:=[_,_]) hs rfl bZ aZ),H1,aq,⟨_,rfl,hT⟩,hs.out⟩))
theorem yM{w:World}{vst vwa:Value}(hs:St H w σ)(h1:RI H vst s.sp.st)(h2:RI H vwa s.sp.wa)(h3:RRd H vr s.rs)(h4:RCm H vc s.cs)(he:s.early)(bh:s.rK.Ok):
  aaA 32 [.agg #[I s.sp.id,I s.sp.src,vst,vwa,I s.sp.al,I s.sp.up,vr,vc]] w fun u w'=>∃H1,∃b:Bool,HLe H H1∧u= .bool b∧(b=false→s.rK.Sound)∧St H1 w' σ:=by
 refine Cl.o func32 ntmps32 ag1 ?_;refine .ae (.bx hs fun b1 w hs=>?_);refine .zn zg (.ae (.y hs (zls [_,_,_,_,_,_,_,_] bA aM) (.o (.call call81 rfl (qg (s:=s) hs h1 h2 h3 h4 he) ?_))));rintro _ w ⟨H1,aq,hS,hs⟩;refine .o (.call call80 rfl (po (s:=s.rK) hs hS) ?_);rintro _ w ⟨H2,vt,e,aO,rfl,jJ,hs⟩;refine .z zm (.z zex (.z zex (.z zg (.zn zg (.ae (.z zm (.z gE (.zn zg (.ret (Fin.bp results32 rfl ?_))))))))));exact ⟨H2,_,aq.trans aO,rfl,fun h=>by
  rcases jJ with ⟨k1,_,_⟩|⟨_,_,k3,_⟩|⟨_,k2,_,_⟩
  ·exact (k1 (s.rK.dt.2 bh)).elim
  ·subst k3;simp at h
  ·exact k2,hs.out⟩
theorem yL{w:World}{vst vwa:Value}{lK:List Int}(hs:St H w σ)(h1:RI H vst s.sp.st)(h2:RI H vwa s.sp.wa)(h3:RRd H vr s.rs)(h4:RCm H vc s.cs)(hp:RI H vp lK)(he:s.early)(bh:s.rK.Ok∧s.rK.Sound):
  aaA 33 [.agg #[I s.sp.id,I s.sp.src,vst,vwa,I s.sp.al,I s.sp.up,vr,vc],vp] w fun u w'=>∃H1 x en,HLe H H1∧bM 1 u (Is x) en∧BT s.rK lK x∧St H1 w' (en::σ):=by
 obtain ⟨ap,cp,rfl⟩:=RI.shape hp;refine Cl.o func33 ntmps33 ag2 ?_;refine .ae (.bx hs fun b2 w hs=>?_);refine .zn zg (.ae (.y hs (zls [_,_,_,_,_,_,_,_] bA aM) (.o (.call call81 rfl (qg (s:=s) hs h1 h2 h3 h4 he) ?_))));rintro _ w ⟨H1,aq,hS,hs⟩;refine .z zm (.o (.call call82 rfl (yO (s:=s.rK) hs hS (hp.mono aq) bh) ?_));rintro _ w ⟨H2,vx,x,en,aO,rfl,hO,hP,hs⟩;exact .z zm (.z zex (.z zex (.z zg (.zn zg (.ae (.z zm (.zn zg (.ret (Fin.bp results33 rfl ⟨H2,x,en,aq.trans aO,hO,hP,hs.sb⟩)))))))))
structure Grow(d D:Int)(L:List Int)(x:Int):Prop where
 low:d≤x
 high:x≤d+D*L.length
 all:∀i<L.length,d≤gi L i∧gi L i<x
 rise:∀i,i+1<L.length→gi L i<gi L (i+1)
theorem Grow.start(d D:Int):Grow d D [] d:=⟨aj,br,fun i h=>by simp at h,fun i h=>by simp at h⟩
theorem Grow.snoc{d D y:Int}(h:Grow d D L x)(h1:x<y)(h2:y≤x+D):Grow d D (L++[x]) y:=by
 obtain ⟨g1,g2,g3,g4⟩:=h;refine ⟨aj,?_,fun i hi=>?_,fun i hi=>?_⟩
 ·rw [List.length_append,List.length_singleton,Int.natCast_add,Int.mul_add];omega
 ·rw [List.length_append,List.length_singleton] at hi;rw [CC];split
  ·have:=g3 i dQ;omega
  ·rw [if_pos aj];omega
 ·rw [List.length_append,List.length_singleton] at hi;rw [CC,CC,if_pos aj];split
  ·exact g4 i dQ
  ·rw [if_pos aj];exact (g3 i aj).2
theorem Grow.plc{d D:Int}{many:Nat}(h:Grow d D L x)(hd:0≤d)(h2:2≤L.length)(hm:L.length≤many)(hx:d+D*L.length≤most):iZ many most L:=
 ⟨h2,hm,by have:=(h.all 0 aj).1;omega,by have:=(h.all (L.length - 1) aj).2;have:=h.high;omega,h.rise⟩
structure UO(s:Spc):Prop where
 ok:fm s
 st:s.st.length≤4
 wa:s.wa.length≤3
set_option maxHeartbeats 1000000 in
theorem sP{w:World}{v:Value}{l:List Int}(hs:St H w σ)(hr:RI H v l):
  aaA 31 [v] w fun u w'=>∃s vst vwa e1 e2,u= .agg #[I s.id,I s.src,vst,vwa,I s.al,I s.up]∧UO s∧bM 1 vst (Is s.st) e1∧bM 1 vwa (Is s.wa) e2∧St H w' (e1::e2::σ):=by
 obtain ⟨av,cv,rfl⟩:=RI.shape hr;refine Cl.o func31 ntmps31 ag1 ?_;refine .ae (.o (.alloc hs i6 rfl fun b2 w hs=>?_));refine .nil (.ae (.z zm (.o (.call uX rfl (cS hs hr aj aj) ?_))));rintro _ w ⟨Wi,g11,rfl,hs⟩;refine .z cz (.z zm (.o (.call uX rfl (cS hs hr aj aj) ?_)));rintro _ w ⟨Wf,g14,rfl,hs⟩;refine .z cz (.z (zbd [_,_,_,_,_,_] oY) (.o (.alloc hs i6 rfl fun b3 w hs=>?_)));refine .o (.aD (vs:=[_,_,_,_,_,_]) hs rfl rfl aI fun w hs=>?_);refine .nil (.ae (.z zm (.o (.call uX rfl (cS hs hr aj aj) ?_))));rintro _ w ⟨U7,g18,rfl,hs⟩;refine .z cz (.z nf (.zn zg (.ae (.zn zg (.seq (.ae (.zn zg (.block ?_))))))));refine .loop (fun p:List Int×Int×Value=>⟨90,[],[(6,I (p.1.length:Int)),(5,I p.2.1),(4,I (100*(1+(U7:Int)))),(0,.slice av l.length cv),(3,Pt b3),(2,Pt b2)]⟩)
  (fun p w=>p.1.length≤4∧Grow 0 2707 p.1 p.2.1∧∃en,bM 1 p.2.2 (Is p.1) en∧St H w (en:: .blk b3 [I (1+(Wi:Int)),I (1+(Wf:Int)),p.2.2,.slice none 0 0,I 0,I 0]:: .blk b2 [I 0,I 0,.slice none 0 0,.slice none 0 0,I 0,I 0]::σ)) (fun p=>4 - p.1.length) ([],0,.slice none 0 0) bk
  ⟨br,.start _ _,_,.nil 1 none,hs.nul⟩ ?_
 clear hs;rintro ⟨L,x,vo⟩ w ⟨aaf,hG,en,hO,hs⟩;dsimp only at aaf hG hO hs ⊢;obtain ⟨ao,lo,co,rfl,-⟩:=hO.shape;have C7:=hG.low;have AP:=hG.high;refine .seq (.ae (.z zm (.z zm (.o (.call uX rfl (cS hs hr aj aj) ?_)))));rintro _ w ⟨k23,g23,rfl,hs⟩;refine .z cz (.zn jt (.bX rfl (fun kA=>?_) (fun kA=>?_)))
 ·refine .skip (nT (.seq (.block (.ae (.z (zfa bw) (.y hs (zld an) (.z zm (.o (.buildSlice (cells:=[_]) hs bJ rfl rfl fun Hu w hs=>?_)))))))));refine .o (.append (ys:=Is [x]) hs bO rfl rfl hO (.own .here rfl rfl) (jF _) (fun l' h=>by simp at h;omega) ?_);intro v32 en32 w eh hs;rw [←List.map_append] at eh;obtain ⟨a32,l32,c32,rfl,-⟩:=eh.shape;refine .z (zfa bw) (.o (.store hs rfl rfl aJ fun w hs=>?_));refine .nil (.region (.z zm (.z zm (.z zm (.z zm (.z cz (.o (.call uX rfl (cS hs hr aj aj) ?_))))))));rintro _ w ⟨We,g39,rfl,hs⟩;have m41:=ox (a:=100*(1+(U7:Int))) (b:=1+(We:Int)) (A:=900) (B:=3) aj aj;have m41':100≤100*(1+(U7:Int))*(1+(We:Int)):=by
   have:=Int.mul_le_mul (a:=100) (c:=100*(1+(U7:Int))) (b:=1) (d:=1+(We:Int)) aj aj aj aj;omega
  refine .z cz (.z nf (.z cz (.z zm (.o (.call uX rfl (cS hs hr aj aj) ?_)))));rintro _ w ⟨O2,g44,rfl,hs⟩;refine .z zm (.z zm (.z cz (.o (.call uX rfl (cS hs hr aj aj) ?_))));rintro _ w ⟨O1,g48,rfl,hs⟩;have m49:0≤(O2:Int)*(O1:Int)∧(O2:Int)*(O1:Int)≤1:=by
   have e1:O2=0∨O2=1:=by omega
   rcases e1 with rfl|rfl<;>simp<;>omega
  exact .z nf (.z nf (.z cz (.zn zg (nB (nT (.region (.z zm (.z cz (.zn zg (nT ⟨(L++[x],_,.slice a32 l32 c32),.dP rfl br bk,⟨by simp;omega,hG.snoc (by dsimp only;omega) (by dsimp only;omega),_,eh,hs.sb⟩,by simp;omega⟩))))))))))
 ·refine .exit (xT (xT (xB (nT (.ae (.z zm ?_))))));have Mk:2≤L.length:=by omega
  refine .o (.call uX rfl (cS hs hr aj aj) ?_);rintro _ w ⟨U6,g53,rfl,hs⟩;refine .z cz (.z nf (.zn zg (.ae (.z zm (.o (.call uX rfl (cS hs hr aj aj) ?_))))));rintro _ w ⟨Zk,g57,rfl,hs⟩;refine .z nf (.zn zg (.seq (.ae (.zn zg (.block ?_)))));refine .loop (fun p:List Int×Int×Value=>⟨90,[],[(9,I (p.1.length:Int)),(8,I p.2.1),(7,I (50*(1+(U6:Int)))),(0,.slice av l.length cv),(3,Pt b3),(2,Pt b2)]⟩)
   (fun p w=>p.1.length≤3∧Grow (10*(Zk:Int)) 1350 p.1 p.2.1∧∃en2,bM 1 p.2.2 (Is p.1) en2∧St H w (en2:: .blk b3 [I (1+(Wi:Int)),I (1+(Wf:Int)),.slice ao lo co,p.2.2,I 0,I 0]:: .blk b2 [I 0,I 0,.slice none 0 0,.slice none 0 0,I 0,I 0]::en::σ)) (fun p=>3 - p.1.length) ([],10*(Zk:Int),.slice none 0 0) bk
   ⟨br,.start _ _,_,.nil 1 none,(hs.sb).nul⟩ ?_
  clear hs;rintro ⟨L2,y,vo2⟩ w ⟨aab,Uv,en2,eh,hs⟩;dsimp only at aab Uv eh hs ⊢;obtain ⟨ap,lp,cp,rfl,-⟩:=eh.shape;have hy0:=Uv.low;have Wn:=Uv.high;refine .seq (.ae (.z zm (.z zm (.o (.call uX rfl (cS hs hr aj aj) ?_)))));rintro _ w ⟨k61,g61,rfl,hs⟩;refine .z cz (.zn jt (.bX rfl (fun uo=>?_) (fun uo=>?_)))
  ·refine .skip (nT (.seq (.block (.ae (.z (zfa bg) (.y hs (zld an) (.z zm (.o (.buildSlice (cells:=[_]) hs bJ rfl rfl fun b69 w hs=>?_)))))))));refine .o (.append (ys:=Is [y]) hs bO rfl rfl eh (.own .here rfl rfl) (jF _) (fun l' h=>by simp at h;omega) ?_);intro v70 en70 w ld hs;rw [←List.map_append] at ld;obtain ⟨a70,l70,c70,rfl,-⟩:=ld.shape;refine .z (zfa bg) (.o (.store hs rfl rfl aJ fun w hs=>?_));refine .nil (.region (.z zm (.z zm (.z zm (.z zm (.z cz (.o (.call uX rfl (cS hs hr aj aj) ?_))))))));rintro _ w ⟨Wd,g77,rfl,hs⟩;have m79:=ox (a:=50*(1+(U6:Int))) (b:=1+(Wd:Int)) (A:=450) (B:=3) aj aj;have m79':50≤50*(1+(U6:Int))*(1+(Wd:Int)):=by
    have:=Int.mul_le_mul (a:=50) (c:=50*(1+(U6:Int))) (b:=1) (d:=1+(Wd:Int)) aj aj aj aj;omega
   exact .z cz (.z nf (.z cz (.zn zg (nB (nT (.region (.z zm (.z cz (.zn zg (nT ⟨(L2++[y],_,.slice a70 l70 c70),.dP rfl br bk,⟨by simp;omega,Uv.snoc (by dsimp only;omega) (by dsimp only;omega),_,ld,hs.sb⟩,by simp;omega⟩))))))))))
  ·refine .exit (xT (xT (xB (nT (.ae (.z zm (.o (.call uX rfl (cS hs hr aj aj) ?_))))))));rintro _ w ⟨k83,g83,rfl,hs⟩;refine .z nf (.z zm (.o (.call uX rfl (cS hs hr aj aj) ?_)));rintro _ w ⟨k86,g86,rfl,hs⟩;refine .z nf (.z (zbd [_,_] w6) (.z (zfa eQ) (.o (.aD (vs:=[_,_]) hs rfl rfl sizeOf31 fun w hs=>?_))));refine .nil (.ae (.y hs (zls [_,_,_,_,_,_] bu aI) (.o (.aD (vs:=[_,_,_,_,_,_]) hs rfl rfl aI fun w hs=>?_))));refine .nil (.ret ?_);exact Fin.iz [] [] hs fun w hs=>⟨_,results1 results31 (cO (vs:=[_,_,_,_,_,_]) hs rfl bu aI),⟨1+(Wi:Int),1+(Wf:Int),L,L2,100*(k83:Int),100*(k86:Int)⟩,.slice ao lo co,.slice ap lp cp,en,en2,rfl,
    ⟨⟨hG.plc aj Mk aj aj,Uv.plc aj aj aj aj,by dsimp only;omega,by dsimp only;omega,by dsimp only;omega,by dsimp only;omega⟩,aaf,aab⟩,hO,eh,hs.sb⟩
instance (s:Spc) (r:Rdg):Decidable (mE s r):=
 decidable_of_iff ((1≤r.src∧r.src≤99999)∧(0≤r.st∧r.st≤(s.st.length:Int) - 1)∧(0≤r.wa∧r.wa≤(s.wa.length:Int) - 1)∧(0≤r.tol∧r.tol≤1000)∧(0≤r.val∧r.val≤20000 - r.tol)∧(1≤r.tape∧r.tape≤99)∧(0≤r.day∧r.day≤100000))
  ⟨fun ⟨a,b,c,d,e,f,g⟩=>⟨a,b,c,d,e,f,g⟩,fun ⟨a,b,c,d,e,f,g⟩=>⟨a,b,c,d,e,f,g⟩⟩
def jB(s:Spc)(rs:List Rdg):List Rdg:=rs.filter fun r=>decide (mE s r)
theorem Iq(s:Spc){rs:List Rdg}{k:Nat}{r:Rdg}(h:rs[k]? =some r):jB s (rs.take (k+1))=if mE s r then jB s (rs.take k)++[r] else jB s (rs.take k):=by
 unfold jB;rw [dv h,List.filter_append];by_cases e:mE s r
 ·simp [e]
 ·simp [e]
theorem zo(s:Spc)(rs:List Rdg):(jB s rs).length≤rs.length:=List.length_filter_le _ _
theorem D5{s:Spc}{rs:List Rdg}{r:Rdg}(h:r∈jB s rs):r∈rs∧mE s r:=by
 unfold jB at h;simpa using List.mem_filter.1 h
theorem NF{s:Spc}{rs:List Rdg}(h:t∈aQ (jB s rs)):t∈aQ rs:=by
 obtain ⟨r,h1,h2⟩:=eK.1 h;exact eK.2 ⟨r,(D5 h1).1,h2⟩
def pS(v:Srv)(x:List Int)(t:TD):Int:=gi x (v.sp.many+1+(l7 v.bV t).toNat)
def Tg(v:Srv)(x:List Int):List Int:=x.take (v.sp.many+1)++(aQ (jB v.sp v.rs)).map (pS v x)
set_option maxHeartbeats 1000000 in
theorem yK{w:World}{rs:List Rdg}(hs:St H w σ)(hr:RRd H vr rs)(hl:rs.length≤1000000):
  aaA 37 [vr] w fun u w'=>∃en,bM 2 u (tdc (aQ rs)).flatten en∧St H w' (en::σ):=by
 obtain ⟨ar,cr,rfl⟩:=RRd.shape hr;refine Cl.o func37 ntmps37 ag1 ?_;refine .ae (.zn zg (.ae (.zn zg (.seq (.ae (.zn zg (.block ?_)))))));refine .loop (fun p:Nat×Value=>⟨32,[],[(4,I (p.1:Int)),(3,p.2),(0,.slice ar rs.length cr)]⟩)
  (fun p w=>p.1≤rs.length∧∃en,bM 2 p.2 (tdc (aQ (rs.take p.1))).flatten en∧St H w (en::σ)) (fun p=>rs.length - p.1) (0,.slice none 0 0) bk
  ⟨Nat.zero_le _,_,.nil 2 none,hs.nul⟩ ?_
 rintro ⟨k,vo⟩ w ⟨hk,en,hO,hs⟩;dsimp only at hk hO ⊢;have AQ:=mJ rs k aj;obtain ⟨ao,co,rfl⟩:=hO.iQ (sF _) aj;rw [eJ] at hO ⊢;refine .seq (.ae (.z zm (.z zm (.z (cJ aV) (.zn jt (.bX rfl (fun nP=>?_) (fun nP=>?_)))))))
 ·refine .skip (nT (.seq (.block (.seq (.draw mix rfl hs fun w hs=>?_)))));refine .zw 0 rfl zm ?_;refine .z 1 rfl zm ?_;obtain ⟨r,hx⟩:=nth (l:=rs) (k:=k) aj;have O9:=lI hx;refine .ixX (enc:=Rdg.c) (i:=2) hs rfl au .none hr rfl rfl aV bF hx dD ?_;intro tt o14 iW;have d14:cellAt H tt (o14+5)=some (I r.tape):=iW 5 _ rfl;refine .zw 3 rfl (zfa eD) ?_;refine .y 4 rfl hs ai ?_;refine .z 5 rfl zm ?_;refine .z 6 rfl zm ?_;refine .ixX (enc:=Rdg.c) (i:=7) hs rfl au .none hr rfl rfl aV bF hx dD ?_;intro Gl o19 mB;have d19:cellAt H Gl (o19+6)=some (I r.day):=mB 6 _ rfl;refine .zw 8 rfl (zfa dW) ?_;refine .y 9 rfl hs ai ?_;refine .z 10 rfl (zbd [_,_] jo) ?_;refine .E 11 hs ?_;refine .alloc hs uW rfl ?_;intro b5 w hs;refine .go (.E 12 hs ?_);refine .aD (vs:=[_,_]) hs rfl rfl cH ?_;intro w hs;refine .go (.D hs (.ae (.z zm (.y hs (zls [_,_] js cH) (.o (.call call36 rfl (qf (t:=r.td) (hs.sb:St H w (en:: .blk b5 [I r.tape,I r.day]::σ)) hO aj) ?_))))));rintro _ w ⟨rfl,hs⟩;have KR:=wI (l:=aQ (rs.take k)) (t:=r.td);refine .zn jt (.bX rfl (fun jC=>?_) (fun jC=>?_))
  ·refine .region (.z zm (.y hs (zls [_,_] js cH) (.o (.buildSlice (cells:=[_,_]) hs jD rfl rfl fun YL w hs=>?_))));refine .o (.append (ys:=r.td.c) hs eY rfl rfl hO (.own .here rfl rfl) (by simp [TD.c,Value.oneCell']) (fun l h=>by rw [bH _ (sF _),eJ] at h;omega) ?_);intro v30 en30 w eh hs;refine .zn zg (nB (nT (.region (.z zm (.z cz (.zn zg (nT ?_)))))));have hn:r.td∉aQ (rs.take k):=fun hm=>by have:=KR.2 hm;omega
   rw [←BY,show aQ (rs.take k)++[r.td]=aQ (rs.take (k+1)) by rw [O9];unfold uM;rw [if_neg hn]] at eh;exact ⟨(k+1,v30),.dP rfl br bk,⟨by dsimp only;omega,_,eh,hs.sb⟩,by dsimp only;omega⟩
  ·refine .skip (nB (nT (.region (.z zm (.z cz (.zn zg (nT ?_)))))));have hm:r.td∈aQ (rs.take k):=KR.1 aj;exact ⟨(k+1,_),.dP rfl br bk,⟨by dsimp only;omega,en,by dsimp only;rw [O9];unfold uM;rw [if_pos hm];exact hO,hs.sb⟩,by dsimp only;omega⟩
 ·refine .exit (xT (xT (xB (nT (.ae (.z zm (.zn zg (.ret (Fin.bp results37 rfl ?_)))))))));obtain rfl:k=rs.length:=by omega
  rw [List.take_length] at hO;exact ⟨en,by rw [List.take_length];exact hO,hs⟩
set_option maxHeartbeats 2000000 in
theorem tQ{w:World}{x:List Int}{vst vwa:Value}(hs:St H w σ)(h1:RI H vst s.sp.st)(h2:RI H vwa s.sp.wa)(h3:RRd H vr s.rs)(hc:∃a l c,vc= .slice a l c)(hx:RI H vx x)(sf:x.length=s.sys.n)(hb:s.sp.st.length≤1000∧s.sp.wa.length≤1000∧s.rs.length≤1000):
  aaA 38 [.agg #[I s.sp.id,I s.sp.src,vst,vwa,I s.sp.al,I s.sp.up,vr,vc],vx] w fun u w'=>∃H1 vr' vy e1 e2,HLe H H1∧u= .tuple #[.agg #[I s.sp.id,I s.sp.src,vst,vwa,I s.sp.al,I s.sp.up,vr',vc],vy]∧bM 7 vr' (rdc (jB s.sp s.rs)).flatten e1∧bM 1 vy (Is (Tg s x)) e2∧St H1 w' (e1::e2::σ):=by
 obtain ⟨ast,cst,rfl⟩:=RI.shape h1;obtain ⟨awa,cwa,rfl⟩:=RI.shape h2;obtain ⟨ar,cr,rfl⟩:=RRd.shape h3;obtain ⟨ac,lc,cc,rfl⟩:=hc;obtain ⟨ax,cx,rfl⟩:=RI.shape hx;have hm:s.sp.many≤1000000:=Nat.mul_le_mul hb.1 hb.2.1;have hn:=yD s;have AQ:=dB s.rs;refine Cl.o func38 ntmps38 ag2 ?_;refine .ae (.bx hs fun b2 w hs=>?_);refine .o (.alloc hs kl rfl fun b4 w hs=>?_);refine .zn zg (.ae (.z (zfa aS) (.y hs (zld fa) (.o (.call call37 rfl (jR (rs:=s.rs) hs h3 aj) ?_)))));rintro v15 w ⟨H1,aq,hT,hs⟩;obtain ⟨at',ct,rfl⟩:=RTd.shape hT;refine .zn zg (.ae (.z (zfa bj) (.y hs (zls [_,_,_,_,_,_] bu aI) (.o (.call call35 rfl (iR (s:=s.sp) hs (h1.mono aq) (h2.mono aq) ⟨hb.1,hb.2.1⟩) ?_)))));rintro _ w ⟨rfl,hs⟩;refine .zn zg (.ae (.y hs (zls [_,_,_,_,_,_,_,_] bA aM) (.o (.alloc hs kl rfl fun b8 w hs=>?_))));refine .o (.aD (vs:=[_,_,_,_,_,_,_,_]) hs rfl rfl aM fun w hs=>?_);refine .nil (.ae (.z (zfa aS) (.o (.store hs rfl rfl Gu fun w hs=>?_))));refine .nil (.seq (.ae (.zn zg (.block ?_))));refine .loop (fun p:Nat×Value=>⟨78,[],[(9,I (p.1:Int)),(8,Pt b8),(7,I (s.sp.many:Int)),(6,.slice at' (aQ s.rs).length ct),(4,Pt b4),(2,Pt b2),(1,.slice ax x.length cx)]⟩)
  (fun p w=>p.1≤s.rs.length∧∃en,bM 7 p.2 (rdc (jB s.sp (s.rs.take p.1))).flatten en∧St H1 w (en:: .blk b8 [I s.sp.id,I s.sp.src,.slice ast s.sp.st.length cst,.slice awa s.sp.wa.length cwa,I s.sp.al,I s.sp.up,p.2,.slice ac lc cc]:: .blk b4 [I 0,I 0,.slice none 0 0,.slice none 0 0,I 0,I 0,.slice none 0 0,.slice none 0 0]:: .blk b2 [I s.sp.id,I s.sp.src,.slice ast s.sp.st.length cst,.slice awa s.sp.wa.length cwa,I s.sp.al,I s.sp.up,.slice ar s.rs.length cr,.slice ac lc cc]::σ)) (fun p=>s.rs.length - p.1) (0,.slice none 0 0) bk
  ⟨Nat.zero_le _,_,.nil 7 none,hs.nul⟩ ?_
 clear hs;rintro ⟨k,vo⟩ w ⟨hk,en,hO,hs⟩;dsimp only at hk hO hs ⊢;have rF:=zo s.sp (s.rs.take k);rw [List.length_take] at rF;obtain ⟨ao,lo,co,rfl,-⟩:=hO.shape;refine .seq (.ae (.z zm (.z (zfa aS) (.y hs (zld fa) (.z (cJ aV) (.zn jt (.bX rfl (fun kA=>?_) (fun kA=>?_))))))))
 ·refine .skip (nT (.seq (.block (.seq (.draw mix rfl hs fun w hs=>?_)))));refine .zw 0 rfl (zfa bj) ?_;refine .ys 1 rfl hs [_,_,_,_,_,_] bu aI ?_;refine .z 2 rfl (zfa aS) ?_;refine .y 3 rfl hs fa ?_;refine .z 4 rfl zm ?_;obtain ⟨r,hr⟩:=nth (l:=s.rs) (k:=k) aj;have Zp:=Iq s.sp hr;refine .ixX (enc:=Rdg.c) (i:=5) hs rfl au .none (h3.mono aq) rfl rfl aV bF hr dD ?_;intro aax o33 wg;refine .r (i:=6) hs rfl au .none (bD (vs:=r.c) rfl iP bF wg) ?_;refine .E 7 hs ?_;refine .call call83 rfl (oJ (s:=s.sp) (r:=r) hs (h1.mono aq) (h2.mono aq)) ?_;rintro _ w ⟨VN,rfl,F6,hs⟩;refine .go (.D hs (.cond rfl (fun we=>?_) (fun we=>?_)))
  ·refine .draw mix rfl hs fun w hs=>?_
   refine .zw 0 rfl (zfa aS) ?_;refine .y 1 rfl hs fa ?_;refine .z 2 rfl (zfa aS) ?_;refine .y 3 rfl hs fa ?_;refine .z 4 rfl zm ?_;refine .ixX (enc:=Rdg.c) (i:=5) hs rfl au .none (h3.mono aq) rfl rfl aV bF hr dD ?_;intro UH o41 Ei;refine .r (i:=6) hs rfl au .none (bD (vs:=r.c) rfl iP bF Ei) ?_;refine .E 7 hs ?_;refine .buildSlice (cells:=r.c) hs ez rfl au ?_;intro VJ w hs;refine .go (.E 8 hs ?_);refine .append (ys:=r.c) hs cf rfl rfl hO (.own .here rfl rfl) (by simp [Rdg.c,Value.oneCell']) (fun l' h=>by rw [bH _ (mz _),cU] at h;omega) ?_;intro v44 en44 w eh hs;rw [←ra,show jB s.sp (s.rs.take k)++[r]=jB s.sp (s.rs.take (k+1)) by rw [Zp,if_pos (F6.1 (by simpa using we))]] at eh;obtain ⟨a44,l44,c44,rfl,-⟩:=eh.shape;refine .go (.zw 9 rfl (zfa aS) (.E 10 hs ?_));refine .store hs rfl rfl Gu ?_;intro w hs;exact .go (.D hs (nB (nT (.region (.z zm (.z cz (.zn zg (nT ⟨(k+1,.slice a44 l44 c44),.dP rfl br bk,⟨by dsimp only;omega,_,eh,hs.sb⟩,by dsimp only;omega⟩))))))))
  ·exact .skip (nB (nT (.region (.z zm (.z cz (.zn zg (nT ⟨(k+1,.slice ao lo co),.dP rfl br bk,⟨by dsimp only;omega,en,by dsimp only;rw [Zp,if_neg (fun h=>by rw [F6.2 h] at we;cases we)];exact hO,hs.sb⟩,by dsimp only;omega⟩)))))))
 ·refine .exit (xT (xT (xB (nT (.ae ?_)))));obtain rfl:k=s.rs.length:=by omega
  rw [List.take_length] at hO;refine .o (.buildSlice (cells:=[]) hs w5 rfl rfl fun aav w hs=>?_);refine .z zm (.z zm (.z cz (.q hs (tR (k:=s.sp.many+1) rfl rfl af ak rfl (by have:=(RS.len hx).2.1;omega)) ?_)));refine .o (.append (xs:=[]) (ys:=Is (x.take (s.sp.many+1))) hs bO rfl rfl (.full (len:=0) rfl) (.ints (RI.head (hx.mono aq) (k:=s.sp.many+1) aj)) (jF _) (fun l h=>by simp at h;rw [List.length_take];omega) ?_);intro v51 en51 w ld hs;rw [List.nil_append] at ld;refine .zn zg (.ae (.z (zfa aS) (.y hs (zld fa) ?_)));have rF:=zo s.sp s.rs;obtain ⟨H2,aO,hRR,C9,back⟩:=hO.FN (mz _) aj (by rw [cU];omega) (hs.sb:St H1 w (en::en51:: .blk b8 [I s.sp.id,I s.sp.src,.slice ast s.sp.st.length cst,.slice awa s.sp.wa.length cwa,I s.sp.al,I s.sp.up,.slice ao lo co,.slice ac lc cc]:: .blk b4 [I 0,I 0,.slice none 0 0,.slice none 0 0,I 0,I 0,.slice none 0 0,.slice none 0 0]:: .blk b2 [I s.sp.id,I s.sp.src,.slice ast s.sp.st.length cst,.slice awa s.sp.wa.length cwa,I s.sp.al,I s.sp.up,.slice ar s.rs.length cr,.slice ac lc cc]::σ));refine .o (.call call37 rfl (yK (rs:=jB s.sp s.rs) C9 hRR aj) ?_);rintro v54 w ⟨enT,hOT,hsT⟩;have hs:=back (HLe.refl _) hsT;have Wx:=dB (jB s.sp s.rs);obtain ⟨H3,bP,Vx,hs⟩:=bM.bQ (m:=2) (cs:=tdc (aQ (jB s.sp s.rs))) hOT (sF _) aj (by rw [eJ];omega) hs (.there .here);have Vx:RTd H3 v54 (aQ (jB s.sp s.rs)):=Vx;obtain ⟨a54,c54,rfl⟩:=RTd.shape Vx;refine .zn zg (.seq (.ae (.zn zg (.block ?_))));refine .loop (fun p:Nat×Value=>⟨78,[],[(12,I (p.1:Int)),(10,p.2),(11,.slice a54 (aQ (jB s.sp s.rs)).length c54),(8,Pt b8),(7,I (s.sp.many:Int)),(6,.slice at' (aQ s.rs).length ct),(4,Pt b4),(1,.slice ax x.length cx)]⟩)
   (fun p w=>p.1≤(aQ (jB s.sp s.rs)).length∧∃en2,bM 1 p.2 (Is (x.take (s.sp.many+1)++((aQ (jB s.sp s.rs)).take p.1).map (pS s x))) en2∧St H3 w (en2:: .blk b8 [I s.sp.id,I s.sp.src,.slice ast s.sp.st.length cst,.slice awa s.sp.wa.length cwa,I s.sp.al,I s.sp.up,.slice ao lo co,.slice ac lc cc]:: .blk b4 [I 0,I 0,.slice none 0 0,.slice none 0 0,I 0,I 0,.slice none 0 0,.slice none 0 0]::en::σ)) (fun p=>(aQ (jB s.sp s.rs)).length - p.1) (0,v51) bk
   ⟨Nat.zero_le _,en51,by simpa using ld,hs.sb⟩ ?_
  clear hs;rintro ⟨j,vy⟩ w ⟨hj,en2,Aj,hs⟩;dsimp only at hj Aj hs ⊢;obtain ⟨ay,ly,cy,rfl,-⟩:=Aj.shape;refine .seq (.ae (.z zm (.z zm (.z (cJ bL) (.zn jt (.bX rfl (fun AS=>?_) (fun AS=>?_)))))))
  ·refine .skip (nT (.seq (.block (.region (.z zm (.z zm (.z zm (.z cz (.z zm (.z zm (.z zm ?_)))))))))));obtain ⟨t,ht⟩:=nth (l:=aQ (jB s.sp s.rs)) (k:=j) aj;have htm:t∈s.bV:=NF (List.mem_of_getElem? ht);obtain ⟨q,q1,q2,q3⟩:=jc htm;have q3':q<(aQ s.rs).length:=q3;have q1':l7 (aQ s.rs) t=(q:Int):=q1;have hnt:s.sys.n=s.sp.many+(aQ s.rs).length+1:=hn;have Xs:pS s x t=gi x (s.sp.many+1+q):=by unfold pS;rw [q1,Int.toNat_natCast]
   refine .ixX (enc:=TD.c) hs Vx rfl rfl bL cH ht dD ?_;intro b68 o68 XH;refine .q hs (bD (vs:=t.c) rfl js cH XH) (.o (.call call36 rfl (l8 (t:=t) hs (hT.mono bP) aj) ?_));rintro _ w ⟨rfl,hs⟩;rw [q1'];refine .z cz (.ixY hs (hx.mono (aq.trans bP)) rfl rfl af ak (bG (l:=x) (i:=s.sp.many+1+q) aj) aj ?_);intro b72 o72 XE;refine .q hs (aP rfl ai XE) (.o (.buildSlice (cells:=[_]) hs bJ rfl rfl fun b74 w hs=>?_));refine .o (.append (ys:=Is [gi x (s.sp.many+1+q)]) hs bO rfl rfl Aj (.own .here rfl rfl) (jF _) (fun l' h=>by simp at h;omega) ?_);intro v75 en75 w IP hs;rw [←List.map_append,List.append_assoc,←Xs,show ((aQ (jB s.sp s.rs)).take j).map (pS s x)++[pS s x t]=((aQ (jB s.sp s.rs)).take (j+1)).map (pS s x) by rw [dv ht];simp] at IP;obtain ⟨a75,l75,c75,rfl,-⟩:=IP.shape;exact .zn zg (nB (nT (.region (.z zm (.z cz (.zn zg (nT ⟨(j+1,.slice a75 l75 c75),.dP rfl br bk,⟨by dsimp only;omega,_,IP,hs.sb⟩,by dsimp only;omega⟩)))))))
  ·refine .exit (xT (xT (xB (nT (.ae (.y hs (zls [_,_,_,_,_,_,_,_] bA aM) (.z zm (.o (.aD (vs:=[_,_,_,_,_,_,_,_]) hs rfl rfl aM fun w hs=>?_)))))))));refine .zn zg (.ret ?_);obtain rfl:j=(aQ (jB s.sp s.rs)).length:=by omega
   rw [List.take_length] at Aj;exact Fin.iz [] [] hs fun w hs=>⟨_,results2 results38 (cO (vs:=[_,_,_,_,_,_,_,_]) hs rfl bA aM) rfl,H3,_,_,en,en2,aq.trans bP,rfl,hO,Aj,hs.sb⟩
theorem Ip{s:Spc}{rs R:List Rdg}{cs:List Cmp}{x:List Int}(hf:ja (Srv.rK ⟨s,rs,cs⟩).da (gi x))(C7:gi x 0=0)(sf:x.length=s.many+(aQ rs).length+1)(ht:aQ R=aQ rs)(hS:∀r∈R,RdS s r)(hR:∀r∈R,LZ s (aQ rs) x r):
  oF ⟨s,jB s R,cs⟩ (Tg ⟨s,R,cs⟩ x):=by
 have hl:(x.take (s.many+1)).length=s.many+1:=by rw [List.length_take];omega
 refine Kr (R:=R) (x:=x) List.filter_sublist hS C7 (Lt hf ht hR) ?_ (fun b hb=>?_) fun j hj=>?_
 ·show (x.take (s.many+1)++(aQ (jB s R)).map (pS ⟨s,R,cs⟩ x)).length=_;rw [List.length_append,hl,List.length_map]
 ·show gi (x.take (s.many+1)++(aQ (jB s R)).map (pS ⟨s,R,cs⟩ x)) b=_;unfold gi;simp only [List.getD];rw [List.getElem?_append_left aj,List.getElem?_take_of_lt aj]
 ·show gi (x.take (s.many+1)++(aQ (jB s R)).map (pS ⟨s,R,cs⟩ x)) (s.many+1+j)=_;have e:∀t,(aQ (jB s R))[j]? =some t→gi (x.take (s.many+1)++(aQ (jB s R)).map (pS ⟨s,R,cs⟩ x)) (s.many+1+j)=pS ⟨s,R,cs⟩ x t:=fun t ht=>by
   unfold gi;simp only [List.getD];rw [List.getElem?_append_right aj,hl,show s.many+1+j - (s.many+1)=j by omega,List.getElem?_map,ht];rfl
  rw [e _ (Fl hj)];rfl
set_option maxHeartbeats 2000000 in
theorem AB{w:World}{sl pk:List Int}{IU:List F5}{Ls:List F4}{z1 z2 z3:Int}(hs:St H w σ)(g1:RI H vs sl)(g2:RF5 H v5 IU)(g3:RF4 H v4 Ls)(g4:RI H vp pk):
  aaA 7 [.agg #[vs,v5,v4,vp,I z1,I z2,I z3]] w fun u w'=>∃H1 s y vst vwa vr vc vy e1 e2 e3 e4 e5,HLe H H1∧u= .tuple #[.agg #[I s.sp.id,I s.sp.src,vst,vwa,I s.sp.al,I s.sp.up,vr,vc],vy]∧uN s∧PY s vst vwa vr vc e1 e2 e3 e4∧bM 1 vy (Is y) e5∧oF s y∧St H1 w' (e1::e2::e3::e4::e5::σ):=by
 obtain ⟨avs,cvs,rfl⟩:=RI.shape g1;obtain ⟨av5,cv5,rfl⟩:=g2.shape;obtain ⟨av4,cv4,rfl⟩:=g3.shape;obtain ⟨avp,cvp,rfl⟩:=RI.shape g4;refine Cl.o func7 ntmps7 ag1 ?_;refine .ae (.bx hs fun b1 w hs=>?_);refine .o (.alloc hs kl rfl fun b2 w hs=>?_);refine .zn zg (.ae (.z (zfa qI) (.y hs (zld an) (.o (.call call31 rfl (sP hs g1) ?_)))));rintro _ w ⟨s,vst,vwa,e1,e2,rfl,PE,IQ,eh,hs⟩;have Up:=PE.st;have Um:=PE.wa;have hSt2:=PE.ok.st.two;have hWa2:=PE.ok.wa.two;obtain ⟨ast,lst,cst,rfl,Xe⟩:=IQ.shape;obtain ⟨awa,lwa,cwa,rfl,Xd⟩:=eh.shape;obtain rfl:s.st.length=lst:=by simpa [Is] using Xe
 obtain rfl:s.wa.length=lwa:=by simpa [Is] using Xd
 refine .z (zbd [_,_,_,_,_,_,_,_] sy) (.o (.alloc hs kl rfl fun b4 w hs=>?_));refine .o (.aD (vs:=[_,_,_,_,_,_,_,_]) hs rfl rfl aM fun w hs=>?_);refine .nil (.ae (.z (zfa bj) (.y hs (zls [_,_,_,_,_,_] bu aI) (.o (.alloc hs i6 rfl fun b5 w hs=>?_)))));refine .o (.aD (vs:=[_,_,_,_,_,_]) hs rfl rfl aI fun w hs=>?_);refine .nil (.cut (fun fs w=>∃rs e3 ar cr,np fs ⟨208,[],[(5,Pt b5),(4,Pt b4),(2,Pt b2),(1,Pt b1)]⟩∧rs.length≤14∧rs.length≤IU.length∧(∀r∈rs,mE s r)∧bM 7 (.slice ar rs.length cr) (rdc rs).flatten e3∧St H w (e3:: .blk b5 [I s.id,I s.src,.slice ast s.st.length cst,.slice awa s.wa.length cwa,I s.al,I s.up]:: .blk b4 [I s.id,I s.src,.slice ast s.st.length cst,.slice awa s.wa.length cwa,I s.al,I s.up,.slice ar rs.length cr,.slice none 0 0]::e1::e2:: .blk b2 [I 0,I 0,.slice none 0 0,.slice none 0 0,I 0,I 0,.slice none 0 0,.slice none 0 0]:: .blk b1 [.slice avs sl.length cvs,.slice av5 IU.length cv5,.slice av4 Ls.length cv4,.slice avp pk.length cvp,I z1,I z2,I z3]::σ)) ?_ ?_)
 ·refine .ae (.zn zg (.block ?_));refine .loop (fun p:List Rdg×Option Addr×Nat=>⟨208,[],[(6,I (p.1.length:Int)),(5,Pt b5),(4,Pt b4),(2,Pt b2),(1,Pt b1)]⟩)
   (fun p w=>p.1.length≤14∧p.1.length≤IU.length∧(∀r∈p.1,mE s r)∧∃e3,bM 7 (.slice p.2.1 p.1.length p.2.2) (rdc p.1).flatten e3∧
    St H w (e3:: .blk b5 [I s.id,I s.src,.slice ast s.st.length cst,.slice awa s.wa.length cwa,I s.al,I s.up]:: .blk b4 [I s.id,I s.src,.slice ast s.st.length cst,.slice awa s.wa.length cwa,I s.al,I s.up,.slice p.2.1 p.1.length p.2.2,.slice none 0 0]::e1::e2:: .blk b2 [I 0,I 0,.slice none 0 0,.slice none 0 0,I 0,I 0,.slice none 0 0,.slice none 0 0]:: .blk b1 [.slice avs sl.length cvs,.slice av5 IU.length cv5,.slice av4 Ls.length cv4,.slice avp pk.length cvp,I z1,I z2,I z3]::σ)) (fun p=>14 - p.1.length) ([],none,0) bk
   ⟨br,br,br,_,.nil 7 none,(hs.sb).nul⟩ ?_
  clear hs;rintro ⟨rs,ar,cr⟩ w ⟨FV,Ve,zq,e3,ld,hs⟩;dsimp only at FV Ve zq ld hs ⊢;refine .seq (.ae (.z zm (.z (zfa jh) (.y hs (zld isAgg23) (.z (cJ runUnderlying23) (.z jt (.z zm (.mW (t':=31) rfl (fun F7=>?_) (fun F7=>?_)))))))))
  ·refine .T (.z zm (.T (.z jt (.zn zpT (.bX rfl (fun ma=>?_) (fun ma=>?_))))))
   ·refine .skip (nT (.seq (.block (.ae (.z (zfa jh) (.y hs (zld isAgg23) (.z zm ?_)))))));obtain ⟨n,hn⟩:=nth (l:=IU) (k:=rs.length) aj;refine .ixX (enc:=F5.v) hs g2 rfl rfl runUnderlying23 UW hn dD ?_;intro UI o40 vZ;refine .q hs (bD (vs:=n.v) rfl isAgg117 UW vZ) (.o (.alloc hs zeroValue117 rfl fun b7 w hs=>?_));refine .o (.aD (vs:=[_,_,_,_,_]) hs rfl rfl UW fun w hs=>?_);refine .nil (.seq (.draw mix rfl hs fun w hs=>?_));refine .zw 0 rfl (zia 4 mH ak) (.zv 1 rfl hs (rE ai) (.zw 3 rfl (zia 4 mH ak) (.y 4 rfl hs ai ?_)));refine .z 5 rfl R5 ?_;refine .E 2 hs ?_;refine .call jy rfl (cI hs aj) ?_;rintro _ w ⟨O2,g44,rfl,hs⟩;refine .go (.E 6 hs ?_);refine .call jy rfl (cI hs aj) ?_;rintro _ w ⟨O1,g48,rfl,hs⟩;have m49:0≤(O2:Int)*(O1:Int)∧(O2:Int)*(O1:Int)≤39:=by
     have e1:O1=0∨O1=1:=by omega
     rcases e1 with rfl|rfl<;>simp<;>omega
    refine .go (.zw 7 rfl nf ?_);refine .z 8 rfl zg ?_;refine .D hs ?_;refine .draw mix rfl hs fun w hs=>?_
    refine .zw 0 rfl (zfa aS) ?_;refine .y 1 rfl hs fa ?_;refine .z 2 rfl zm ?_;refine .z 3 rfl cz ?_;refine .zw 4 rfl (zia 0 mH ak) (.y 5 rfl hs ai ?_);refine .z 6 rfl (zfa bw) ?_;refine .y 7 rfl hs an ?_;refine .z 8 rfl (cJ af) ?_;refine .zw 10 rfl (zia 1 mH ak) (.y 11 rfl hs ai ?_);refine .z 12 rfl (zfa bg) ?_;refine .y 13 rfl hs an ?_;refine .z 14 rfl (cJ af) ?_;refine .z 16 rfl zm ?_;refine .zw 17 rfl (zia 2 mH ak) (.zv 18 rfl hs (rE ai) (.zw 21 rfl (zia 3 mH ak) (.zv 22 rfl hs (rE ai) (.E 9 hs ?_))));refine .call jy rfl (cI hs aj) ?_;rintro _ w ⟨k59,g59,rfl,hs⟩;refine .go (.E 15 hs ?_);refine .call jy rfl (cI hs aj) ?_;rintro _ w ⟨k65,g65,rfl,hs⟩;refine .go (.E 19 hs ?_);refine .call jy rfl (cI hs aj) ?_;rintro _ w ⟨k69,g69,rfl,hs⟩;refine .go (.zw 20 rfl cz (.E 23 hs ?_));refine .call jy rfl (cI hs aj) ?_;rintro _ w ⟨k73,g73,rfl,hs⟩;obtain ⟨r,hr⟩:∃r:Rdg,r=⟨10+(rs.length:Int),(k59:Int),(k65:Int),0,(O2:Int)*(O1:Int),1+(k69:Int),(k73:Int)⟩:=⟨_,rfl⟩;have WU:mE s r:=by subst hr;exact ⟨by dsimp only;omega,by dsimp only;omega,by dsimp only;omega,by dsimp only;omega,by dsimp only;omega,by dsimp only;omega,by dsimp only;omega⟩
    refine .go (.zw 24 rfl (zbd [_,_,_,_,_,_,_] zX) (.E 25 hs ?_));refine .buildSlice (cells:=r.c) hs ez rfl (by subst hr;kernel_rfl) ?_;intro b75 w hs;refine .go (.E 26 hs ?_);refine .append (ys:=r.c) hs cf rfl rfl ld (.own .here rfl rfl) (by simp [Rdg.c,Value.oneCell']) (fun l' h=>by rw [bH _ (mz _),cU] at h;omega) ?_;intro v76 en76 w Aj hs;rw [←ra] at Aj;obtain ⟨a76,c76,rfl⟩:=Aj.iQ (mz _) aj;rw [cU] at Aj ⊢;refine .go (.zw 27 rfl (zfa aS) (.E 28 hs ?_));refine .store hs rfl rfl Gu ?_;intro w hs;refine .go (.D hs (nB (nT (.region (.z zm (.z cz (.zn zg (nT ?_))))))));exact ⟨(rs++[r],a76,c76),.dP rfl br bk,⟨by simp;omega,by simp;omega,fun q hq=>by
      simp only [List.mem_append,List.mem_singleton] at hq
      rcases hq with hq|rfl
      ·exact zq q hq
      ·exact WU,_,Aj,hs.sb⟩,by simp;omega⟩
   ·exact .exit (xT (xT (xB (nT ⟨rs,e3,ar,cr,bk,FV,Ve,zq,ld,hs⟩))))
  ·exact .Fs 2 5 true (.zn zpF (.cF (.exit (xT (xT (xB (nT ⟨rs,e3,ar,cr,bk,FV,Ve,zq,ld,hs⟩)))))))
 ·clear hs;rintro fs w ⟨rs,e3,ar,cr,i7,FV,Ve,zq,ld,hs⟩;refine WE.sub ?_ i7;clear i7;refine .cut (fun fs w=>∃cs e4 ac cc,np fs ⟨208,[],[(5,Pt b5),(4,Pt b4),(2,Pt b2),(1,Pt b1)]⟩∧cs.length≤5∧(∀c∈cs,tB c)∧(Srv.rK ⟨s,rs,cs⟩).Sound∧bM 6 (.slice ac cs.length cc) (cmc cs).flatten e4∧St H w (e1::e2::e3::e4:: .blk b5 [I s.id,I s.src,.slice ast s.st.length cst,.slice awa s.wa.length cwa,I s.al,I s.up]:: .blk b4 [I s.id,I s.src,.slice ast s.st.length cst,.slice awa s.wa.length cwa,I s.al,I s.up,.slice ar rs.length cr,.slice ac cs.length cc]:: .blk b2 [I 0,I 0,.slice none 0 0,.slice none 0 0,I 0,I 0,.slice none 0 0,.slice none 0 0]:: .blk b1 [.slice avs sl.length cvs,.slice av5 IU.length cv5,.slice av4 Ls.length cv4,.slice avp pk.length cvp,I z1,I z2,I z3]::σ)) ?_ ?_
  ·refine .ae (.zn zg (.block ?_));refine .loop (fun p:Nat×List Cmp×Option Addr×Nat=>⟨208,[],[(9,I (p.1:Int)),(5,Pt b5),(4,Pt b4),(2,Pt b2),(1,Pt b1)]⟩)
    (fun p w=>p.1≤5∧p.1≤Ls.length∧p.2.1.length≤p.1∧(∀c∈p.2.1,tB c)∧(Srv.rK ⟨s,rs,p.2.1⟩).Sound∧∃e4,bM 6 (.slice p.2.2.1 p.2.1.length p.2.2.2) (cmc p.2.1).flatten e4∧
     St H w (e1::e2::e3::e4:: .blk b5 [I s.id,I s.src,.slice ast s.st.length cst,.slice awa s.wa.length cwa,I s.al,I s.up]:: .blk b4 [I s.id,I s.src,.slice ast s.st.length cst,.slice awa s.wa.length cwa,I s.al,I s.up,.slice ar rs.length cr,.slice p.2.2.1 p.2.1.length p.2.2.2]:: .blk b2 [I 0,I 0,.slice none 0 0,.slice none 0 0,I 0,I 0,.slice none 0 0,.slice none 0 0]:: .blk b1 [.slice avs sl.length cvs,.slice av5 IU.length cv5,.slice av4 Ls.length cv4,.slice avp pk.length cvp,I z1,I z2,I z3]::σ)) (fun p=>5 - p.1) (0,[],none,0) bk
    ⟨br,br,br,br,Lu (Cm PE.ok Up Um FV br zq br) rfl,.nul,.nil 6 none,(hs.nul).sb⟩ ?_
   clear hs;rintro ⟨k,cs,ac,cc⟩ w ⟨hk5,hkf,Vr,Eh,xy,e4,Aj,hs⟩;dsimp only at hk5 hkf Vr Eh xy Aj hs ⊢;refine .seq (.ae (.z zm (.z (zfa lW) (.y hs (zld isAgg24) (.z (cJ runUnderlying24) (.z jt (.z zm (.mW (t':=83) rfl (fun XQ=>?_) (fun XQ=>?_)))))))))
   ·refine .T (.z zm (.T (.z jt (.zn zpT (.bX rfl (fun XC=>?_) (fun XC=>?_))))))
    ·refine .skip (nT (.seq (.block (.ae (.z (zfa lW) (.y hs (zld isAgg24) (.z zm ?_)))))));obtain ⟨n,hn⟩:=nth (l:=Ls) (k:=k) aj;refine .ixX (enc:=F4.v) hs g3 rfl rfl runUnderlying24 sizeOf118 hn dD ?_;intro b92 o92 XB;refine .q hs (bD (vs:=n.v) rfl isAgg118 sizeOf118 XB) (.o (.alloc hs zeroValue118 rfl fun jx w hs=>?_));refine .o (.aD (vs:=[_,_,_,_]) hs rfl rfl sizeOf118 fun w hs=>?_);refine .nil (.ae (.z (zia 1 Dl ak) (.y hs (zld ai) (.o (.call jy rfl (cI hs aj) ?_)))));rintro _ w ⟨Zj,g96,rfl,hs⟩;refine .z iw (.zn zg (.ae (.z (zia 3 Dl ak) (.y hs (zld ai) (.o (.call jy rfl (cI hs aj) ?_))))));rintro _ w ⟨Ti,g100,rfl,hs⟩;refine .zn zg (.seq (.draw mix rfl hs fun w hs=>?_));refine .zw 0 rfl (zfa dz) ?_;refine .y 1 rfl hs rW ?_;refine .z 2 rfl zm ?_;refine .z 3 rfl cz ?_;refine .zw 4 rfl (zia 0 Dl ak) (.y 5 rfl hs ai ?_);refine .z 8 rfl zm ?_;refine .z 9 rfl zm ?_;refine .zw 10 rfl (zia 3 Dl ak) (.y 11 rfl hs ai ?_);refine .z 12 rfl R5 ?_;refine .z 15 rfl zm ?_;refine .z 16 rfl zm ?_;refine .zw 17 rfl (zia 2 Dl ak) (.zv 18 rfl hs (rE ai) (.E 6 hs ?_));refine .call jy rfl (cI hs aj) ?_;rintro _ w ⟨Wj,g107,rfl,hs⟩;refine .go (.zw 7 rfl cz (.E 13 hs ?_));refine .call jy rfl (cI hs aj) ?_;rintro _ w ⟨Wh,g114,rfl,hs⟩;refine .go (.zw 14 rfl cz (.E 19 hs ?_));refine .call jy rfl (cI hs aj) ?_;rintro _ w ⟨Wg,g120,rfl,hs⟩;obtain ⟨c,hc⟩:∃c:Cmp,c=⟨30+(k:Int),1+(Wj:Int),(Ti:Int),(Ti:Int)+(Wh:Int),(Zj:Int) - 40,(Zj:Int) - 40+(Wg:Int)⟩:=⟨_,rfl⟩;have Xz:tB c:=by subst hc;exact ⟨by dsimp only;omega,by dsimp only;omega,by dsimp only;omega,by dsimp only;omega,by dsimp only;omega,by dsimp only;omega⟩
     refine .go (.zw 20 rfl cz ?_);refine .z 21 rfl (zbd [_,_,_,_,_,_] zY) ?_;refine .E 22 hs ?_;refine .buildSlice (cells:=c.c) hs jE rfl (by subst hc;kernel_rfl) ?_;intro b123 w hs;refine .go (.E 23 hs ?_);refine .append (ys:=c.c) hs dd rfl rfl Aj (.own .here rfl rfl) (by simp [Cmp.c,Value.oneCell']) (fun l' h=>by rw [bH _ (xE _),jw] at h;omega) ?_;intro v124 en124 w IP hs;rw [←uA] at IP;obtain ⟨a124,c124,rfl⟩:=IP.iQ (xE _) aj;rw [jw] at IP ⊢;have Ai:(cs++[c]).length=cs.length+1:=by simp
     have Pq:∀d∈cs++[c],tB d:=fun d hd=>by
      simp only [List.mem_append,List.mem_singleton] at hd
      rcases hd with hd|rfl
      ·exact Eh d hd
      ·exact Xz
     have FU:eg ⟨s,rs,cs++[c]⟩:=Cm PE.ok Up Um FV aj zq Pq;refine .go (.zw 24 rfl (zfa dz) (.E 25 hs ?_));refine .store hs rfl rfl P3 ?_;intro w hs;refine .go (.D hs (.ae (.y hs (zls [_,_,_,_,_,_,_,_] bA aM) ?_)));obtain ⟨Hx,Iy,r1,r2,r3,r4,C9,back⟩:=PY.FN (s:=⟨s,rs,cs++[c]⟩) ⟨IQ,eh,ld,IP⟩ (by show s.st.length≤_;omega) (by show s.wa.length≤_;omega) (by show rs.length≤_;omega) (by show (cs++[c]).length≤_;omega) (hs.sb:St H w (e1::e2::e3::en124:: .blk b5 [I s.id,I s.src,.slice ast s.st.length cst,.slice awa s.wa.length cwa,I s.al,I s.up]:: .blk b4 [I s.id,I s.src,.slice ast s.st.length cst,.slice awa s.wa.length cwa,I s.al,I s.up,.slice ar rs.length cr,.slice a124 (cs++[c]).length c124]:: .blk b2 [I 0,I 0,.slice none 0 0,.slice none 0 0,I 0,I 0,.slice none 0 0,.slice none 0 0]:: .blk b1 [.slice avs sl.length cvs,.slice av5 IU.length cv5,.slice av4 Ls.length cv4,.slice avp pk.length cvp,I z1,I z2,I z3]::σ));refine .o (.call call32 rfl (yM (s:=⟨s,rs,cs++[c]⟩) C9 r1 r2 r3 r4 FU.early (Gg FU)) ?_);rintro _ w ⟨Hy,b127,KU,rfl,Uj,Pa⟩;have hs:=back KU Pa;clear C9 Pa back;refine .nil (.cond rfl (fun Pu=>?_) (fun Pu=>?_))
     ·refine .region (.z (zfa dz) (.y hs (zld rW) (.z (zfa dz) (.y hs (zld rW) (.z (cJ cQ) (.z iw (.q hs (tR (k:=cs.length) rfl rfl cQ dO aj (by have:=IP.le;omega)) ?_)))))));refine .z (zfa dz) (.o (.store hs rfl rfl P3 fun w hs=>?_));exact .nil (nB (nT (.region (.z zm (.z cz (.zn zg (nT ⟨(k+1,cs,a124,c124),.dP rfl br bk,⟨by dsimp only;omega,by dsimp only;omega,by dsimp only;omega,Eh,xy,_,IP.Ry,hs.sb⟩,by dsimp only;omega⟩)))))))
     ·exact .skip (nB (nT (.region (.z zm (.z cz (.zn zg (nT ⟨(k+1,cs++[c],a124,c124),.dP rfl br bk,⟨by dsimp only;omega,by dsimp only;omega,by dsimp only;omega,Pq,Uj (by simpa using Pu),_,IP,hs.sb⟩,by dsimp only;omega⟩)))))))
    ·exact .exit (xT (xT (xB (nT ⟨cs,e4,ac,cc,bk,aj,Eh,xy,Aj,hs⟩))))
   ·exact .Fs 2 5 true (.zn zpF (.cF (.exit (xT (xT (xB (nT ⟨cs,e4,ac,cc,bk,aj,Eh,xy,Aj,hs⟩)))))))
  ·clear hs;rintro fs w ⟨cs,e4,ac,cc,i7,Rf,Eh,xy,Aj,hs⟩;refine WE.sub ?_ i7;clear i7;have FU:eg ⟨s,rs,cs⟩:=Cm PE.ok Up Um FV Rf zq Eh;refine .ae (.y hs (zls [_,_,_,_,_,_,_,_] bA aM) (.z (zfa qH) (.y hs (zld an) ?_)));obtain ⟨Hx,Iy,r1,r2,r3,r4,C9,back⟩:=PY.FN (s:=⟨s,rs,cs⟩) ⟨IQ,eh,ld,Aj⟩ (by show s.st.length≤_;omega) (by show s.wa.length≤_;omega) (by show rs.length≤_;omega) (by show cs.length≤_;omega) hs;refine .o (.call call33 rfl (yL (s:=⟨s,rs,cs⟩) C9 r1 r2 r3 r4 (g4.mono Iy) FU.early ⟨Gg FU,xy⟩) ?_);rintro v139 w ⟨Hy,x,ex,KU,hOx,hP,Pa⟩;have hs:=back KU Pa;clear C9 Pa back r1 r2 r3 r4;obtain ⟨sf,C7,R8,Sf⟩:=hP.De (Gg FU) xy;have rk:=FU.many;have TS:(Srv.rK ⟨s,rs,cs⟩).n=s.many+(aQ rs).length+1:=yD ⟨s,rs,cs⟩;have sf:x.length=s.many+(aQ rs).length+1:=by rw [sf];exact TS
   rw [TS] at R8;have rk:s.many+(aQ rs).length≤64:=rk;obtain ⟨Hz,TJ,hX,hs⟩:=bM.ck hOx aj hs dr;obtain ⟨ax,cx,rfl⟩:=RI.shape hX;refine .zn zg (.seq (.ae (.zn zg (.block ?_))));refine .loop (fun p:Nat×List Rdg=>⟨208,[],[(14,I (p.1:Int)),(13,.slice ax x.length cx),(5,Pt b5),(4,Pt b4),(2,Pt b2),(1,Pt b1)]⟩)
    (fun p w=>p.1≤rs.length∧p.2.length=rs.length∧aQ p.2=aQ rs∧(∀r∈p.2,RdS s r)∧(∀j<p.1,∀r,p.2[j]? =some r→LZ s (aQ rs) x r)∧∃e3,bM 7 (.slice ar rs.length cr) (rdc p.2).flatten e3∧
     St Hz w (e1::e2::e3::e4:: .blk b5 [I s.id,I s.src,.slice ast s.st.length cst,.slice awa s.wa.length cwa,I s.al,I s.up]:: .blk b4 [I s.id,I s.src,.slice ast s.st.length cst,.slice awa s.wa.length cwa,I s.al,I s.up,.slice ar rs.length cr,.slice ac cs.length cc]:: .blk b2 [I 0,I 0,.slice none 0 0,.slice none 0 0,I 0,I 0,.slice none 0 0,.slice none 0 0]:: .blk b1 [.slice avs sl.length cvs,.slice av5 IU.length cv5,.slice av4 Ls.length cv4,.slice avp pk.length cvp,I z1,I z2,I z3]::σ)) (fun p=>rs.length - p.1) (0,rs) bk
    ⟨br,rfl,rfl,fun r hr=>⟨(zq r hr).st,(zq r hr).wa,(zq r hr).tol⟩,fun j hj=>by omega,e3,ld,hs⟩ ?_
   clear hs ld;rintro ⟨k,R⟩ w ⟨hk,Z5,N9,Vy,X7,e3,ld,hs⟩;dsimp only at hk Z5 N9 Vy X7 ld hs ⊢;refine .seq (.ae (.z zm (.z (zfa aS) (.y hs (zld fa) (.z (cJ aV) (.zn jt (.bX rfl (fun Ua=>?_) (fun Ua=>?_))))))))
   ·refine .skip (nT (.seq (.block (.ae (.z (zfa jh) (.y hs (zld isAgg23) (.z zm ?_)))))));obtain ⟨n,hn⟩:=nth (l:=IU) (k:=k) aj;obtain ⟨r,hr⟩:=nth (l:=R) (k:=k) aj;have Vf:=Vy r (List.mem_of_getElem? hr);obtain ⟨u,NL,KI⟩:=Vf.u;have WR:=Vf.st;have WN:=Vf.wa;have Tw:=Vf.tol;have zt:r.td∈aQ R:=eK.2 ⟨r,List.mem_of_getElem? hr,rfl⟩;obtain ⟨q,q1,q2,q3⟩:=jc zt;rw [N9] at q3;have BH:=R8 u aj;have xY:=R8 (s.many+1+q) aj;obtain ⟨bo,co,sp,hv,rfl,qw⟩:=ld.Sv (mz _) aj (by rw [cU];omega);simp only [Value.slice.injEq] at hv;obtain ⟨rfl,Wv,rfl⟩:=hv;obtain ⟨Hx,Iy,r1,r2,r3,r4,C9,back⟩:=PY.FN (s:=⟨s,R,cs⟩) ⟨IQ,eh,ld,Aj⟩ (by show s.st.length≤_;omega) (by show s.wa.length≤_;omega) (by show R.length≤_;omega) (by show cs.length≤_;omega) hs;clear hs;have hs:=C9;clear C9;refine .ixX (enc:=F5.v) hs (g2.mono (TJ.trans Iy)) rfl rfl runUnderlying23 UW hn dD ?_;intro b150 o150 Lb;refine .q hs (bD (vs:=n.v) rfl isAgg117 UW Lb) (.o (.alloc hs zeroValue117 rfl fun Df w hs=>?_));refine .o (.aD (vs:=[_,_,_,_,_]) hs rfl rfl UW fun w hs=>?_);refine .nil (.ae (.z (zfa aS) (.y hs (zld fa) (.z zm (.ixX (enc:=Rdg.c) hs r3 rfl rfl aV bF hr dD ?_)))));intro b155 o155 T9;refine .q hs (bD (vs:=r.c) rfl iP bF T9) (.o (.alloc hs kj rfl fun w7 w hs=>?_));refine .o (.aD (vs:=[_,_,_,_,_,_,_]) hs rfl rfl bF fun w hs=>?_);refine .nil (.ae (.y hs (zls [_,_,_,_,_,_] bu aI) (.z (zfa gg) (.y hs (zld ai) (.z (zfa fZ) (.y hs (zld ai) (.o (.call Zd rfl (ed (s:=s) hs r2 aj aj aj) ?_))))))));rintro _ w ⟨rfl,hs⟩;rw [NL];refine .zn zg (.seq (.draw mix rfl hs fun w hs=>?_));refine .ys 0 rfl hs [_,_,_,_,_,_] bu aI ?_;refine .z 3 rfl (zfa aS) ?_;refine .y 4 rfl hs fa ?_;refine .z 6 rfl (zfa eD) ?_;refine .y 7 rfl hs ai ?_;refine .z 8 rfl (zfa dW) ?_;refine .y 9 rfl hs ai ?_;refine .z 10 rfl (zbd [_,_] jo) ?_;refine .E 1 hs ?_;refine .call call35 rfl (iR (s:=s) hs r1 r2 ⟨aj,aj⟩) ?_;rintro _ w ⟨rfl,hs⟩;refine .go (.zw 2 rfl cz (.E 5 hs ?_));refine .call call37 rfl (jR (rs:=R) hs r3 aj) ?_;rintro v168 w ⟨Hw,Xh,hT,hs⟩;refine .go (.E 11 hs ?_);refine .call call36 rfl (l8 (t:=r.td) hs hT (by rw [N9];omega)) ?_;rintro _ w ⟨rfl,hs⟩;rw [q1];refine .go (.zw 12 rfl cz ?_);refine .z 13 rfl zg ?_;refine .D hs ?_;refine .seq (.draw mix rfl hs fun w hs=>?_);refine .zw 0 rfl (zia 4 mH ak) (.y 1 rfl hs ai ?_);refine .z 2 rfl R5 ?_;refine .z 3 rfl (zfa cR) ?_;refine .y 4 rfl hs ai ?_;refine .z 5 rfl nf ?_;refine .z 6 rfl cz ?_;refine .z 8 rfl (zfa cR) ?_;refine .y 9 rfl hs ai ?_;refine .E 7 hs ?_;refine .call jy rfl (cI hs aj) ?_;rintro _ w ⟨Th,g183,rfl,hs⟩;refine .go (.zw 10 rfl iw ?_);refine .z 11 rfl zg ?_;refine .D hs ?_;refine .draw mix rfl hs fun w hs=>?_
    refine .zw 0 rfl (zfa aS) ?_;refine .y 1 rfl hs fa ?_;refine .z 2 rfl zm ?_;refine .z 3 rfl zm ?_;refine .z 4 rfl zm ?_;have hs:=back Xh hs;refine .ixX (enc:=fun x=>[I x]) (i:=5) hs rfl au .none hX rfl rfl af ak (bG (l:=x) (i:=u) aj) rfl ?_;intro b192 o192 La;replace La:=bE.one La;refine .r (i:=6) hs rfl au .none (aP rfl ai La) ?_;refine .zw 7 rfl zm ?_;refine .z 8 rfl zm ?_;refine .ixX (enc:=fun x=>[I x]) (i:=9) hs rfl au .none hX rfl rfl af ak (bG (l:=x) (i:=s.many+1+q) aj) (by push_cast;rfl) ?_;intro b196 o196 K9;replace K9:=bE.one K9;refine .r (i:=10) hs rfl au .none (aP rfl ai K9) ?_;refine .zw 11 rfl iw ?_;refine .z 12 rfl zm ?_;refine .z 13 rfl cz ?_;first|(refine .ixw 14 rfl hs aV bF ?_;intro YM o201 Ps)|refine .z 14 rfl (yp aV bF) ?_
    refine .zw 15 rfl (zfa eE) (.E 16 hs ?_);refine .store (c':=(rdc (R.set k {r with val:=gi x u - gi x (s.many+1+q)+((Th:Int) - r.tol)})).flatten++sp) hs rfl rfl ak ?_ dr (Nat.ble_eq_true_of_le (by rw [List.length_append,bH _ (mz _),cU];omega)) (Fu hr sp _);intro w hs;refine .go (.D hs (nB (nT (.region (.z zm (.z cz (.zn zg (nT ?_))))))));exact ⟨(k+1,R.set k {r with val:=gi x u - gi x (s.many+1+q)+((Th:Int) - r.tol)}),.dP rfl br bk,⟨by dsimp only;omega,by dsimp only;rw [List.length_set];exact Z5,by dsimp only;rw [Dx hr];exact N9,fun y hy=>by
      rcases List.mem_or_eq_of_mem_set hy with h|h
      ·exact Vy y h
      ·subst h;exact ⟨WR,WN,Tw⟩,fun j hj y hy=>by
      dsimp only at hj hy;by_cases e:j=k
      ·subst e;rw [List.getElem?_set_self aj] at hy;obtain rfl:=Option.some.inj hy;have q1':l7 (aQ rs) r.td=q:=by rw [←N9];exact q1
       unfold LZ;show gi x (1+r.st*s.wa.length+r.wa).toNat - gi x (s.many+1+l7 (aQ rs) r.td).toNat - r.tol≤_∧_≤gi x (1+r.st*s.wa.length+r.wa).toNat - gi x (s.many+1+l7 (aQ rs) r.td).toNat+r.tol;rw [NL,q1',show ((s.many:Int)+1+(q:Int)).toNat=s.many+1+q by omega,Int.toNat_natCast];dsimp only;omega
      ·rw [List.getElem?_set_ne aj] at hy;exact X7 j aj y hy,_,Nf ld _,hs.sb⟩,by dsimp only;omega⟩
   ·refine .exit (xT (xT (xB (nT (.ae (.y hs (zls [_,_,_,_,_,_,_,_] bA aM) (.z zm ?_)))))));obtain rfl:k=rs.length:=by omega
    obtain ⟨Hx,Iy,r1,r2,r3,r4,C9,back⟩:=PY.FN (s:=⟨s,R,cs⟩) ⟨IQ,eh,ld,Aj⟩ (by show s.st.length≤_;omega) (by show s.wa.length≤_;omega) (by show R.length≤_;omega) (by show cs.length≤_;omega) hs;refine .o (.call call38 rfl (tQ (s:=⟨s,R,cs⟩) (x:=x) C9 r1 r2 r3 ⟨_,_,_,rfl⟩ (hX.mono Iy) (by rw [yD];show _=s.many+(aQ R).length+1;rw [N9];exact sf) ⟨by show s.st.length≤_;omega,by show s.wa.length≤_;omega,by show R.length≤_;omega⟩) ?_);rintro _ w ⟨Hy,vr',vy,er,ey,KU,rfl,hOr,VB,Pa⟩;have hs:=back KU Pa;clear C9 Pa back r1 r2 r3 r4;have rF:=zo s R;obtain ⟨arr,crr,rfl⟩:=hOr.iQ (mz _) aj;obtain ⟨ayy,lyy,cyy,rfl,-⟩:=VB.shape;refine .z zex (.z zex (.o (.aD (vs:=[_,_,_,_,_,_,_,_]) hs rfl rfl aM fun w hs=>?_)));refine .zn zg (.ret ?_);exact Fin.iz [] [] hs fun w hs=>⟨_,results2 results7 (cO (vs:=[_,_,_,_,_,_,_,_]) hs rfl bA aM) rfl,Hz,⟨s,jB s R,cs⟩,_,_,_,_,_,_,e1,e2,er,e4,ey,TJ,rfl,
     ⟨Up,Um,by show (jB s R).length≤14;omega,Rf,Cm PE.ok Up Um aj Rf (fun r h=>(D5 h).2) Eh⟩,⟨IQ,eh,hOr,Aj⟩,VB,Ip Sf C7 sf N9 Vy (fun r hr=>by
      obtain ⟨j,hj⟩:=List.getElem?_of_mem hr;have:=(List.getElem?_eq_some_iff.1 hj).1;exact X7 j aj r hj),hs.sb⟩
theorem jP{w:World}{v:Value}{xs:List Rdg}(hs:St H w σ)(hr:RRd H v xs)(hx:xs.length≤1000000):aaA 264 [v] w fun v w'=>∃en,bM 7 v (rdc xs).flatten en∧St H w' (en::σ):=by
 obtain ⟨a,c,rfl⟩:=RRd.shape hr;refine Cl.o func264 ntmps264 ag1 ?_;refine .ae (.zn zg (.seq (.ae (.z zm (.q hs (Kb rfl rfl aV) (.nil (.cond rfl (fun Pr=>?_) (fun Pr=>?_))))))))
 ·refine .ae (.zn zg (.ret (rT (Fin.bp results264 rfl ?_))));obtain rfl:a=none:=by simpa using Pr
  obtain rfl:=RRd.Kh hr;exact ⟨.nul,.nil 7 none,hs.nul⟩
 ·refine .skip (nT (.ae (.o (.buildSlice (cells:=[]) hs rN rfl rfl fun b5 w hs=>?_))));refine .z zm (.o (.append (xs:=[]) (ys:=(rdc xs).flatten) hs cf rfl rfl (.full (len:=0) rfl) (RW hr) (M3 xs) (fun l h=>by simp at h;omega) ?_));intro v7 en7 w hO hs;exact .zn zg (.ret (Fin.bp results264 rfl ⟨en7,hO,hs⟩))
theorem xj{w:World}{v:Value}{xs:List Cmp}(hs:St H w σ)(hr:RCm H v xs)(hx:xs.length≤1000000):aaA 284 [v] w fun v w'=>∃en,bM 6 v (cmc xs).flatten en∧St H w' (en::σ):=by
 obtain ⟨a,c,rfl⟩:=RCm.shape hr;refine Cl.o func284 ntmps284 ag1 ?_;refine .ae (.zn zg (.seq (.ae (.z zm (.q hs (Kb rfl rfl cQ) (.nil (.cond rfl (fun Pr=>?_) (fun Pr=>?_))))))))
 ·refine .ae (.zn zg (.ret (rT (Fin.bp results284 rfl ?_))));obtain rfl:a=none:=by simpa using Pr
  obtain rfl:=RCm.Kh hr;exact ⟨.nul,.nil 6 none,hs.nul⟩
 ·refine .skip (nT (.ae (.o (.buildSlice (cells:=[]) hs rO rfl rfl fun b5 w hs=>?_))));refine .z zm (.o (.append (xs:=[]) (ys:=(cmc xs).flatten) hs dd rfl rfl (.full (len:=0) rfl) (RX hr) (Oo xs) (fun l h=>by simp at h;omega) ?_));intro v7 en7 w hO hs;exact .zn zg (.ret (Fin.bp results284 rfl ⟨en7,hO,hs⟩))
theorem sc{w:World}{v:Value}(hs:St H w (en::σ))(hO:bM 1 v (Is xs) en)(hl:xs.length≤17592186044416):
  aaA 142 [v] w fun u w'=>∃iY,u= .tuple #[]∧bM 1 v (Is (xs.mergeSort fun x y=>decide (x≤y))) iY∧St H w' (iY::σ):=by
 rcases hO with ⟨a,rfl,h0,rfl⟩|⟨b,len,cap,sp,rfl,rfl,h3,h4,h5⟩
 ·obtain rfl:xs=[]:=by simpa using h0
  exact (pj hs).mono fun u w' ⟨h,hs⟩=>⟨.nul,h,by simpa using bM.nil 1 a,hs⟩
 ·obtain rfl:len=xs.length:=by simpa using h3.symm
  exact (p9 hs hl).mono fun u w' ⟨h,hs⟩=>⟨_,h,.inr ⟨b,_,cap,sp,rfl,rfl,br,by simpa using h4,h5⟩,hs⟩
theorem og{w:World}{v:Value}(hs:St H w (en::σ))(hO:bM 1 v (Is xs) en)(hl:xs.length≤17592186044416):
  aaA 143 [v] w fun u w'=>∃iY,bM 1 u (Is (Go.Lib.compact xs)) iY∧St H w' (iY::σ):=by
 rcases hO with ⟨a,rfl,h0,rfl⟩|⟨b,len,cap,sp,rfl,rfl,h3,h4,h5⟩
 ·obtain rfl:xs=[]:=by simpa using h0
  exact (mK hs).mono fun u w' ⟨h,hs⟩=>⟨.nul,by rw [h];exact .nil 1 a,hs⟩
 ·obtain rfl:len=xs.length:=by simpa using h3.symm
  have Ai:=Go.Lib.compact_length_le xs;have h4':xs.length+sp.length=cap:=by simpa using h4
  exact (nu hs hl h5).mono fun u w' ⟨h,hs⟩=>⟨_,.inr ⟨b,_,cap,Is (List.replicate (xs.length - (Go.Lib.compact xs).length) 0)++sp,h,rfl,br,by simp;omega,aj⟩,hs⟩
set_option maxHeartbeats 1000000 in
theorem Az{w:World}{s:Spc}{vst vwa:Value}{x:List Int}(hs:St H w σ)(h1:RI H vst s.st)(h2:RI H vwa s.wa)(hx:RI H vx x)(BH:s.st.length≤1000)(xY:s.wa.length≤1000)(sf:s.many+1≤x.length):
  aaA 8 [.agg #[I s.id,I s.src,vst,vwa,I s.al,I s.up],vx] w fun u w'=>∃va us en ens,u= .agg #[va]∧bM 1 va us en∧qV us (fD s x s.st.length) ens∧St H w' (en::(ens++σ)):=by
 obtain ⟨ast,cst,rfl⟩:=RI.shape h1;obtain ⟨awa,cwa,rfl⟩:=RI.shape h2;obtain ⟨ax,cx,rfl⟩:=RI.shape hx;refine Cl.o func8 ntmps8 ag2 ?_;refine .ae (.bx hs fun b2 w hs=>?_);refine .o (.alloc hs l5 rfl fun b4 w hs=>?_);refine .nil (.ae (.o (.alloc hs l5 rfl fun b5 w hs=>?_)));refine .nil (.seq (.ae (.zn zg (.block ?_))));refine .loop (fun i:Nat=>⟨40,[],[(6,I (i:Int)),(1,.slice ax x.length cx),(5,Pt b5),(4,Pt b4),(2,Pt b2)]⟩)
  (fun i w=>i≤s.st.length∧∃va us en ens,bM 1 va us en∧qV us (fD s x i) ens∧St H w (.blk b5 [va]::en:: .blk b4 [.slice none 0 0]:: .blk b2 [I s.id,I s.src,.slice ast s.st.length cst,.slice awa s.wa.length cwa,I s.al,I s.up]::(ens++σ))) (fun i=>s.st.length - i) 0 bk
  ⟨Nat.zero_le _,_,[],.nul,[],.nil 1 none,.nil,hs.nul.sb⟩ ?_
 clear hs;rintro i w ⟨hi,va,us,en,ens,hO,hR,hs⟩;have Mf:=hR.length;rw [eC] at Mf;obtain ⟨aa,la,ca,rfl,Q4⟩:=hO.shape;refine .seq (.ae (.z zm (.z (zfa bw) (.y hs (zld an) (.z (cJ af) (.zn jt (.bX rfl (fun iX=>?_) (fun iX=>?_))))))))
 ·refine .skip (nT (.seq (.block (.ae (.zn zg (.seq (.ae (.zn zg (.block ?_)))))))));refine .loop (fun p:Nat×Value=>⟨40,[],[(8,I (p.1:Int)),(7,p.2),(6,I (i:Int)),(1,.slice ax x.length cx),(5,Pt b5),(4,Pt b4),(2,Pt b2)]⟩)
   (fun p w=>p.1≤s.wa.length∧∃er,bM 1 p.2 (Is (mL s x i p.1)) er∧St H w (er:: .blk b5 [.slice aa la ca]::en:: .blk b4 [.slice none 0 0]:: .blk b2 [I s.id,I s.src,.slice ast s.st.length cst,.slice awa s.wa.length cwa,I s.al,I s.up]::(ens++σ))) (fun p=>s.wa.length - p.1) (0,.slice none 0 0) bk
   ⟨Nat.zero_le _,.nul,.nil 1 none,hs.nul⟩ ?_
  clear hs;rintro ⟨k,vr⟩ w ⟨hk,er,hOr,hs⟩;dsimp only at hk hOr hs ⊢;have Ea:=ib s x i k;refine .seq (.ae (.z zm (.z (zfa bg) (.y hs (zld an) (.z (cJ af) (.zn jt (.bX rfl (fun AW=>?_) (fun AW=>?_))))))))
  ·refine .skip (nT (.seq (.block (.region (.z zm (.z zm (.y hs (zls [_,_,_,_,_,_] bu aI) (.z zm (.z zm ?_)))))))));have hub:=C6 (s:=s) (i:=i) (k:=k) aj aj;refine .o (.call Zd rfl (ed (s:=s) hs h2 aj ⟨aj,aj⟩ ⟨aj,aj⟩) ?_);rintro _ w ⟨rfl,hs⟩;rw [show 1+(i:Int)*(s.wa.length:Int)+(k:Int)=((s.u i k:Nat):Int) by unfold Spc.u;push_cast;rfl];refine .ixY hs hx rfl rfl af ak (bG (l:=x) (i:=(s.u i k)) aj) dD ?_;intro YL o29 nQ;refine .q hs (aP rfl ai nQ) (.o (.buildSlice (cells:=[_]) hs bJ rfl rfl fun Hu w hs=>?_));refine .o (.append (ys:=Is [gi x (s.u i k)]) hs bO rfl rfl hOr (.own .here rfl rfl) (jF _) (fun l h=>by simp at h;omega) ?_);intro v32 en32 w eh hs;rw [←List.map_append,←Bs] at eh;exact .zn zg (nB (nT (.region (.z zm (.z cz (.zn zg (nT ⟨(k+1,v32),.dP rfl br bk,⟨by dsimp only;omega,_,eh,hs.sb⟩,by dsimp only;omega⟩)))))))
  ·refine .exit (xT (xT (xB (nT (.region (.z (zfa eS) (.y hs (zld wE) (.z zm ?_))))))));obtain rfl:k=s.wa.length:=by omega
   obtain ⟨ar,cr,rfl⟩:=hOr.yG;refine .o (.buildSlice (cells:=[.slice ar (mL s x i s.wa.length).length cr]) hs sq rfl rfl fun VM w hs=>?_);refine .o (.append (ys:=[.slice ar (mL s x i s.wa.length).length cr]) hs mX rfl rfl hO (.own .here rfl rfl) (by simp [Value.oneCell']) (fun l h=>by omega) fun v37 en37 w ld hs=>?_);obtain ⟨a37,l37,c37,rfl,h37⟩:=ld.shape;refine .z (zfa eS) (.o (.store hs rfl rfl sizeOf40 fun w hs=>?_));refine .nil (nB (nT (.region (.z zm (.z cz (.zn zg (nT ⟨i+1,.dP rfl br bk,⟨aj,_,_,en37,ens++[er],ld,by rw [Bq];exact hR.snoc hOr,?_⟩,aj⟩)))))));replace hs:St H w (.blk b5 [.slice a37 l37 c37]::en37:: .blk b4 [.slice none 0 0]:: .blk b2 [I s.id,I s.src,.slice ast s.st.length cst,.slice awa s.wa.length cwa,I s.al,I s.up]::er::(ens++σ)):=hs.sb;rw [List.append_assoc];exact hs.perm (.cons _ (.cons _ (.cons _ (.cons _ List.perm_middle.symm))))
 ·refine .exit (xT (xT (xB (nT (.ae (.y hs (zls [_] pc ea) (.o (.aD (vs:=[_]) hs rfl rfl ea fun w hs=>?_))))))));refine .nil (.ret ?_);obtain rfl:i=s.st.length:=by omega
  exact Fin.iz [] [] hs fun w hs=>⟨_,results1 results8 (cO (vs:=[_]) hs rfl pc ea),_,us,en,ens,rfl,hO,hR,hs.sb⟩
set_option maxHeartbeats 4000000 in
theorem k8{w:World}{vst vwa:Value}(hs:St H w σ)(h1:RI H vst s.sp.st)(h2:RI H vwa s.sp.wa)(h3:RRd H vr s.rs)(h4:RCm H vc s.cs)(hh:RT H vh rows):
  aaA 18 [.agg #[I s.sp.id,I s.sp.src,vst,vwa,I s.sp.al,I s.sp.up,vr,vc],.agg #[vh]] w fun u w'=>∃H1 e,HLe H H1∧u=I e∧Je s rows e∧St H1 w' σ:=by
 obtain ⟨ast,cst,rfl⟩:=RI.shape h1;obtain ⟨awa,cwa,rfl⟩:=RI.shape h2;obtain ⟨ar,cr,rfl⟩:=RRd.shape h3;obtain ⟨ac,cc,rfl⟩:=RCm.shape h4;obtain ⟨ah,ch,rfl⟩:=hh.shape;refine Cl.o func18 ntmps18 ag2 ?_;refine .ae (.bx hs fun b2 w hs=>?_);refine .bx hs fun b3 w hs=>?_
 refine .zn zg (.seq (.ae (.y hs (zls [_,_,_,_,_,_,_,_] bA aM) (.o (.call call53 rfl (fb (s:=s) hs h1 h2 h3 h4) ?_)))));rintro _ w ⟨H1,e,aq,rfl,hC,hs⟩;refine .zn zg (.ae (.z zm (.zn gE (.eN rfl (fun ee=>?_) (fun ee=>?_)))))
 ·exact .ae (.z zm (.zn zg (.ret (rT ((Fin.bp results18 rfl ⟨H1,_,aq,rfl,.bad hC ee,hs.out⟩))))))
 ·refine .skip (nT (.seq (.ae (.z (zfa bj) (.y hs (zls [_,_,_,_,_,_] bu aI) (.y hs (zls [_] pc ea) ?_))))));have bh:eg s:=hC.dt.1 (by simpa using ee);have rk:=fI bh.early.1;have Ea:=bh.early.2.1;refine .o (.call call42 rfl (mO (s:=s.sp) hs (h1.mono aq) (h2.mono aq) (hh.mono aq)) ?_);rintro _ w ⟨H2,UJ,aO,rfl,wh,hs⟩;have cK:=aq.trans aO;refine .zn im (.cond rfl (fun jv=>?_) (fun jv=>?_))
  ·exact .ae (.zn zg (.ret (rT ((Fin.bp results18 rfl ⟨H2,_,cK,rfl,.hull bh (fun h=>by rw [wh.2 h] at jv;cases jv),hs.out⟩)))))
  ·refine .skip (nT (.ae (.y hs (zls [_,_,_,_,_,_,_,_] bA aM) ?_)));have BF:lZ s.sp rows:=wh.1 (by simpa using jv);have Ah:=bh.cu;have Iw:=bh.many;refine .o (.call call54 rfl (fK (s:=s) hs (h1.mono cK) (h2.mono cK) (h3.mono cK) (h4.mono cK) bh.early) ?_);rintro _ w ⟨H3,bP,⟨ul,rfl,hL⟩,hs⟩;obtain ⟨al,cl,rfl⟩:=RL.shape hL;have eO:=cK.trans bP;have Dc:=fun b hb=>Pf (b:=b) BF hb
   have NP:=fun l hl=>bh.sys.lim l hl
   refine .o (.alloc hs fP rfl fun b6 w hs=>?_);refine .o (.aD (vs:=[_,_]) hs rfl rfl aZ fun w hs=>?_);refine .nil (.ae (.o (.buildSlice (cells:=[_]) hs bJ rfl rfl fun I4 w hs=>?_)));refine .o (.alloc hs gY rfl fun b7 w hs=>?_);refine .o (.store hs rfl rfl aJ fun w hs=>?_);refine .nil (.seq (.ae (.z (zfa bj) (.y hs (zls [_,_,_,_,_,_] bu aI) (.o (.call call44 rfl (ff (s:=s.sp) hs (h1.mono eO) (h2.mono eO) ⟨aj,aj⟩) ?_))))));rintro _ w ⟨H4,ba,eL,rfl,oG,hs⟩;have jI:=eO.trans eL;refine .nil (.block ?_);refine .rangeFunc (gf:=92) (cap:=[Pt ba]) (xs:=Am s.sp) (σb:=[.blk b7 [.slice (some ⟨I4,0,none⟩) 1 1],.blk I4 (Is [0]),.blk b6 [I s.sys.many,.slice al s.cu.length cl],.blk b3 [.slice ah rows.length ch]]) (σf:=σ) (hs.sb) trivial rfl oG call92 (fun x hx=>by
     simp only [Am,List.mem_map] at hx;obtain ⟨j,_,rfl⟩:=hx;rfl) rfl
    (I:=fun p H' σb=>∃vo en,σb=[.blk b7 [vo],en,.blk b6 [I s.sys.many,.slice al s.cu.length cl],.blk b3 [.slice ah rows.length ch]]∧bM 1 vo (Is (xl1 s (gt rows) (p+1))) en) (Ix:=fun _ _ _=>False)
    (fun j _ _ σ g1 g2=>g2) (fun _ _ _ _ _ h=>h) ⟨_,_,rfl,.full rfl⟩ ?_ ?_ (fun D c H' σb w _ h _=>h.elim)
   ·rintro ly p hp H5 wH wG w eV ⟨vo,en,rfl,hO⟩ hs ⟨rr,GV⟩;have GW:p<s.sp.many:=by rw [dJ] at hp;exact hp
    have gM:p/s.sp.wa.length<s.sp.st.length:=Nat.div_lt_of_lt_mul (by rw [Nat.mul_comm];exact GW);have KY:=Nat.mod_lt p rk.2.2.1;have NI:hpt s.sp (gt rows) (p+1)=gi (gr rows (p/s.sp.wa.length)) (p%s.sp.wa.length):=rfl;have qu:=BF.row _ gM;have Tz:=BF.len;have WV:=hh.mono (jI.trans eV);rw [nI hp];obtain ⟨ao,lo,co,rfl,Da⟩:=hO.shape;have sf:=nZ s (gt rows) (p+1);generalize p/s.sp.wa.length=i at*;generalize p%s.sp.wa.length=k at*;refine .region (.o (.alloc hs pb rfl fun b8 w hs=>?_));refine .o (.aD (vs:=[_,_,_]) hs rfl rfl Ba fun w hs=>?_);refine .nil (nT ⟨H5,[.blk b8 [I (i:Int),I (k:Int),I ((p+1:Nat):Int)],.blk b7 [.slice ao lo co],en,.blk b6 [I s.sys.many,.slice al s.cu.length cl],.blk b3 [.slice ah rows.length ch]],HLe.refl _,hs,?_⟩);rintro w nJ - hs;refine .block (.draw mix rfl hs fun w hs=>?_);refine .y 0 rfl hs an ?_;refine .z 1 rfl (zfa eS) ?_;refine .y 2 rfl hs wE ?_;refine .z 3 rfl (zfa cD) ?_;refine .y 4 rfl hs ai ?_;refine .ixT (i:=5) hs rfl au .none WV rfl rfl az aJ (show i<_ by omega) dD ?_;intro VN o35 a35 c35 we Yg;refine .r (i:=6) hs rfl au .none (aP rfl an we) ?_;refine .zw 7 rfl (zfa cC) ?_;refine .y 8 rfl hs ai ?_;refine .ixX (enc:=fun x=>[I x]) (i:=9) hs rfl au .none Yg rfl rfl af ak (bG (l:=(gr rows i)) (i:=k) aj) dD ?_;intro VL o39 oD;replace oD:=bE.one oD;refine .r (i:=10) hs rfl au .none (aP rfl ai oD) ?_;refine .E 11 hs ?_;refine .buildSlice (cells:=[_]) hs bJ rfl rfl ?_;intro UH w hs;refine .go (.E 12 hs ?_);refine .append (ys:=Is [gi (gr rows i) k]) hs bO rfl rfl hO (.own (c:=Is [gi (gr rows i) k]) (by first|exact .here|exact .there .here) rfl rfl) (jF _) (fun l h=>by simp at h;omega) ?_;intro v42 en42 w eh hs;rw [←List.map_append,←NI,←Ms] at eh;obtain ⟨a42,l42,c42,rfl,h42⟩:=eh.shape;refine .go (.E 13 hs ?_);refine .store hs rfl rfl aJ ?_;intro w hs;exact .go (.D hs (nB ⟨H5,[.blk b7 [.slice a42 l42 c42],en42,.blk b6 [I s.sys.many,.slice al s.cu.length cl],.blk b3 [.slice ah rows.length ch]],HLe.refl _,(hs.sb:St H5 w (.blk b7 _::en42:: .blk b6 _:: .blk b3 _::nJ)),_,_,rfl,eh⟩))
   ·rintro D H5 wH w eV ⟨vo,en,rfl,hO⟩ hs;rw [dJ] at hO;replace hs:St H5 w (.obj D (.deferred (some [])):: .blk b7 [vo]::en:: .blk b6 [I s.sys.many,.slice al s.cu.length cl]:: .blk b3 [.slice ah rows.length ch]::σ):=hs;obtain ⟨ao,lo,co,rfl,Da⟩:=hO.shape;have sf:=nZ s (gt rows) (s.sp.many+1);have TH:lo=s.sp.many+1:=by simp [Is] at Da;omega
    subst TH;have aae:=hL.mono (eL.trans eV);have TL:=jI.trans eV;refine nB (nT (.seq (.ae (.y hs (zld an) (.z (cJ af) (.zn zg (.block ?_)))))));refine .loop (fun j:Nat=>⟨81,marks [D],[(9,I ((s.sp.many+1+j:Nat):Int)),(7,Pt b7),(6,Pt b6)]⟩)
     (fun j w=>j≤s.bV.length∧∃ax cx en,bM 1 (.slice ax (s.sp.many+1+j) cx) (Is (xl1 s (gt rows) (s.sp.many+1)++xl2 s (gt rows) j)) en∧St H5 w (.obj D (.deferred (some [])):: .blk b7 [.slice ax (s.sp.many+1+j) cx]::en:: .blk b6 [I s.sys.many,.slice al s.cu.length cl]::σ)) (fun j=>s.bV.length - j) 0 bk
     ⟨Nat.zero_le _,_,_,_,by show bM 1 _ (Is (_++[])) _;rw [List.append_nil];exact hO,hs.sb⟩ ?_
    clear hs hO;rintro j w ⟨hj,ax,cx,en,hO,hs⟩;have Tq:s.sys.many=((s.sp.many+s.bV.length:Nat):Int):=rfl;have NH:=Be s (gt rows) j;have GU:(xl1 s (gt rows) (s.sp.many+1)++xl2 s (gt rows) j).length=s.sp.many+1+j:=by rw [List.length_append,sf,NH]
    refine .seq (.ae (.z zm (.z (zfa bT) (.y hs (zld ai) (.zn rl (.bX rfl (fun zD=>?_) (fun zD=>?_)))))))
    ·refine .skip (nT (.seq (.block (.ae (.zn zg (.seq (.ae (.z (zfa bS) (.y hs (zld ft) (.z (cJ aW) (.zn zm (.for (N:=s.cu.length) (J:=fun k fr w=>fr=[(10,I (Af (hpt s.sp (gt rows)) (s.sp.many+1+j:Nat) (s.cu.take k))),(52,.slice al s.cu.length cl),(9,I ((s.sp.many+1+j:Nat):Int)),(7,Pt b7),(6,Pt b6)]∧St H5 w (.obj D (.deferred (some [])):: .blk b7 [.slice ax (s.sp.many+1+j) cx]::en:: .blk b6 [I s.sys.many,.slice al s.cu.length cl]::σ)) aj ?_ ?_ ?_))))))))))))
     ·exact .mk ⟨rfl,hs⟩
     ·rintro k fr w hk ⟨rfl,hs⟩;obtain ⟨l,hx⟩:=nth (l:=s.cu) hk;have Sc:=List.mem_of_getElem? hx;obtain ⟨⟨gA,gB⟩,xy⟩:=qn bh.early Sc;have hM:=(NP l Sc).2.2.2.1;obtain ⟨eB,hB⟩:∃b:Nat,l.B=b:=⟨_,(Int.toNat_of_nonneg gB).symm⟩;have aan:l.B.toNat=eB:=by rw [hB,Int.toNat_natCast]
      rw [aan] at xy;have Jr:=FI (hpt s.sp (gt rows)) (s.sp.many+1+j:Nat) (s.cu.take k);refine .block (.ae (.ixX (enc:=Lim.c) hs aae rfl rfl aW bU hx rfl ?_));intro aat o56 K7;refine .q hs (bD (vs:=l.c) rfl mw bU K7) (.o (.alloc hs gZ rfl fun rP w hs=>?_));refine .o (.aD (vs:=l.c) hs rfl rfl bU fun w hs=>?_);refine .nil (.ae (.z (zfa eo) (.y hs (zld ai) (.z zm (.zn gO (.bX rfl (fun F1=>?_) (fun F1=>?_)))))))
      ·refine .draw mix rfl hs fun w hs=>?_
       have hbB:=Dc eB aj;obtain ⟨bo,co',sp,hv,rfl,qw⟩:=hO.blk (by rw [GU];omega);simp only [Value.slice.injEq] at hv;obtain ⟨rfl,-,rfl⟩:=hv;have hgx:gi (xl1 s (gt rows) (s.sp.many+1)++xl2 s (gt rows) j) eB=hpt s.sp (gt rows) eB:=BU s _ _ aj;refine .zw 0 rfl zm ?_;refine .y 1 rfl hs an ?_;refine .z 2 rfl (zfa eR) ?_;refine .y 3 rfl hs ai ?_;rw [hB];refine .zw 4 rfl (zix (j:=eB) af ak) (.load (i:=5) hs rfl au .none rfl ai ?_ (hv:=gD aj sp));rw [hgx];refine .zw 6 rfl (zfa gI) ?_;refine .y 7 rfl hs ai ?_;refine .z 8 rfl iw ?_;refine .z 9 rfl HM ?_;refine .z 10 rfl zg ?_;refine .D hs ?_;exact nB (nT (.mk ⟨by rw [dv hx,zd,if_pos aj,aan],hs.sb⟩))
      ·exact .skip (nB (nT (.mk ⟨by rw [dv hx,zd,if_neg aj],hs.sb⟩)))
     ·rintro fr w ⟨rfl,hs⟩;rw [List.take_length];refine nT (.region (.y hs (zld an) (.z zm (.o (.buildSlice (cells:=[_]) hs bJ rfl rfl fun b75 w hs=>?_)))));refine .o (.append (ys:=Is [Af (hpt s.sp (gt rows)) (s.sp.many+1+j:Nat) s.cu]) hs bO rfl rfl hO (.own .here rfl rfl) (jF _) (fun l h=>by simp only [Is,List.length_map,GU] at h;omega) ?_);intro v76 en76 w eh hs;rw [←List.map_append,List.append_assoc,←Mr] at eh;obtain ⟨a76,c76,rfl⟩:=eh.yG;have Zm:(xl1 s (gt rows) (s.sp.many+1)++xl2 s (gt rows) (j+1)).length=s.sp.many+1+(j+1):=by rw [List.length_append,sf,Be]
      rw [Zm] at eh ⊢;refine .o (.store hs rfl rfl aJ fun w hs=>?_);exact .nil (nB (nT (.region (.z zm (.z cz (.zn zg (nT ⟨j+1,.dP rfl (by simp;omega) bk,⟨aj,_,_,_,eh,hs.sb⟩,aj⟩)))))))
    ·refine .exit (xT (xT (xB (nT (.seq (.ae (.y hs (zls [_,_] bZ aZ) (.y hs (zld an) ?_))))))));obtain rfl:j=s.bV.length:=by omega
     obtain ⟨H6,kH,hX,hs⟩:=bM.ck hO (by rw [GU];omega) hs dr;refine .o (.call call55 rfl (qP (s:=s.sys) hs ⟨_,rfl,aae.mono kH⟩ hX) ?_);rintro _ w ⟨e79,rfl,hP,hs⟩;have hn:=yD s;have Po:L6 s.sys (xl1 s (gt rows) (s.sp.many+1)++xl2 s (gt rows) s.bV.length)↔∃f,Kp s (gt rows) f:=by
      rw [←Mq bh];refine ⟨fun h=>h.De,fun h=>⟨by rw [GU,hn];omega,by rw [BU s _ _ aj];rfl,fun b hb=>?_,h⟩⟩;rw [hn] at hb;by_cases e:b<s.sp.many+1
      ·rw [BU s _ _ e];have:=Dc b aj;omega
      ·rw [show b=s.sp.many+1+(b - (s.sp.many+1)) by omega,Gx s _ aj];have g1:=FI (hpt s.sp (gt rows)) (s.sp.many+1+(b - (s.sp.many+1)):Nat) s.cu;have g2:=Nv bh BF (b - (s.sp.many+1));omega
     refine .zn gE (.eN rfl (fun TX=>?_) (fun TX=>?_))
     ·refine .ae (.zn zg (.ret (rT ((Fin.iz [D] [] hs fun w hs=>⟨_,results1 results18 rfl,H6,_,TL.trans kH,rfl,.no bh BF (fun h=>TX ?_),hs.out⟩)))))
      cases hP with
      |bad h=>exact (h (s.sys.dt.2 bh.sys)).elim
      |off _ h1=>exact (h1 (Po.2 h)).elim
      |ok=>rfl
     ·refine .skip (nT (.ae (.zn zg (.ret (Fin.iz [D] [] hs fun w hs=>⟨_,results1 results18 rfl,H6,_,TL.trans kH,rfl,.ok bh BF (Po.1 ?_),hs.out⟩)))))
      cases hP with
      |bad h=>exact (h (s.sys.dt.2 bh.sys)).elim
      |off _ h1=>omega
      |ok _ h1=>exact h1
theorem OC{v:Srv}(h:eg v){q:Wht}(hq:ij v.sp q)(high:Bool):iD v.sys (Fb (v.w q) high)=0:=by
 unfold Fb;split
 ·exact h.ask hq
 ·rw [BP];exact h.ask hq
theorem lN{w:World}(hs:St H w σ)(hx: -3456000000000≤x∧x≤3456000000000):
  aaA 196 [I x] w fun v w'=>v=I (-x)∧St H w' σ:=by
 refine Cl.o func196 ntmps196 ag1 ?_;exact .ae (.zn zg (.ae (.z zm (.z Md (.zn zg (.ret (Fin.bp results196 rfl ⟨rfl,hs.out⟩)))))))
theorem lM{w:World}(hs:St H w σ):
  aaA 197 [I x] w fun v w'=>v=I x∧St H w' σ:=by
 refine Cl.o func197 ntmps197 ag1 ?_;exact .ae (.zn zg (.ae (.z zm (.zn zg (.ret (Fin.bp results197 rfl ⟨rfl,hs.out⟩))))))
theorem LI(hx:L[k]? =some x):Fb (L.take k) high++[if high then x else -x]=Fb (L.take (k+1)) high:=by
 rw [dv hx];unfold Fb Bw;cases high<;>simp
theorem zP:(Fb L high).length=L.length:=by unfold Fb Bw;split<;>simp
theorem mA{w:World}{m d:Int}{ul:Value}(hs:St H w σ)(hR:RI H vw L)(hb:∀i,-3456000000000≤gi L i∧gi L i≤3456000000000)(hl:L.length≤1000):
  aaA 123 [.agg #[I m,ul,vw,I d],.bool high] w fun v w'=>∃H1,HLe H H1∧RI H1 v (Fb L high)∧St H1 w' σ:=by
 obtain ⟨aw,cw,rfl⟩:=RI.shape hR;refine Cl.o func123 ntmps123 ag2 ?_;refine .ae (.bx hs fun b2 w hs=>?_);refine .zn zg (.ae (.zn zg (.cut (fun fs w=>∃f,np fs ⟨25,[],[(5,.func (.func f) #[] #[]),(2,Pt b2)]⟩∧(∀args w,(callFunc f args).run Tryz.prog w= .ok (.enter f args) w)∧(∀{σ:List Ent} {w:World} {x:Int},St H w σ→-3456000000000≤x∧x≤3456000000000→aaA f [I x] w fun v w'=>v=I (if high then x else -x)∧St H w' σ)∧St H w (.blk b2 [I m,ul,.slice aw L.length cw,I d]::σ)) ?_ ?_)))
 ·refine .ae (.zn zm (.cond rfl (fun nP=>?_) (fun nP=>?_)))
  ·refine .region (.zn zg (nT ?_));subst nP;exact ⟨197,bk,call197,fun hs hx=>(lM hs).mono fun v w' h=>h,hs⟩
  ·refine .skip (nT ?_);obtain rfl:high=false:=by simpa using nP
   exact ⟨196,bk,call196,fun hs hx=>(lN hs hx).mono fun v w' h=>h,hs⟩
 ·clear hs;rintro fs w ⟨f,i7,Vs,rj,hs⟩;refine WE.sub ?_ i7;clear i7;refine .ae (.zn zg (.seq (.ae (.z (zfa lU) (.y hs (zld an) (.z (cJ af) (.zn zm (.for (N:=L.length) (J:=fun k fr w=>∃vo en,fr=[(11,.slice aw L.length cw),(6,vo),(5,.func (.func f) #[] #[]),(2,Pt b2)]∧bM 1 vo (Is (Fb (L.take k) high)) en∧St H w (en:: .blk b2 [I m,ul,.slice aw L.length cw,I d]::σ)) aj ?_ ?_ ?_))))))))
  ·exact .mk ⟨_,_,rfl,by have:Fb (L.take 0) high=[]:=(by unfold Fb Bw;cases high<;>simp);rw [this];exact .nil 1 none,hs.nul⟩
  ·rintro k fr w hk ⟨vo,en,rfl,hO,hs⟩;obtain ⟨x,hx⟩:=nth hk;have R8:=hb k;rw [show gi L k=x by simp [gi,List.getD,hx]] at R8;refine .block (.ae (.ixX (enc:=fun x=>[I x]) hs hR rfl rfl af ak hx rfl ?_));intro Df o15 iL;replace iL:=bE.one iL;refine .q hs (aP rfl ai iL) (.zn zg (.region (.z zm (.z zm (.z zm (.o (.ng (first:=[]) (cap:=[]) rfl rfl Vs (rj hs R8) ?_)))))));rintro _ w ⟨rfl,hs⟩;refine .o (.buildSlice (cells:=[_]) hs bJ rfl rfl fun UJ w hs=>?_);refine .o (.append (ys:=Is [if high then x else -x]) hs bO rfl rfl hO (.own .here rfl rfl) (jF _) (fun l h=>by simp [Is,zP] at h;omega) ?_);intro v22 en22 w eh hs;rw [←List.map_append,LI hx] at eh;exact .zn zg (nB (nT (.mk ⟨_,_,rfl,eh,hs.sb⟩)))
  ·rintro fr w ⟨vo,en,rfl,hO,hs⟩;rw [List.take_length] at hO;refine nT (.ae (.z zm (.zn zg (.ret (Fin.bp results123 rfl ?_)))));obtain ⟨H1,aq,PH,hs⟩:=bM.ck hO (by rw [zP];omega) hs .here;exact ⟨H1,aq,PH,hs.out⟩
theorem B6{v:Srv}{q:Wht}(g:Fc v q lo hi 0):∃a b,lo=a/tE q∧hi=b/tE q∧eg v∧ij v.sp q∧kz v.sys (v.w q) a b 0:=by
 generalize hz:(0:Int)=z at g
 cases g with
 |bad g ge=>exact (ge hz.symm).elim
 |what=>omega
 |fls=>omega
 |ok h1 h2 h3 h4=>exact ⟨_,_,rfl,rfl,h1,h2,h4⟩
set_option maxHeartbeats 2000000 in
theorem vJ{w:World}{s:Spc}{vst vwa:Value}{x:List Int}(hs:St H w σ)(h1:RI H vst s.st)(h2:RI H vwa s.wa)(hx:RI H vx x)(rj:fm s)(sf:s.many+1≤x.length):
  aaA 124 [.agg #[I s.id,I s.src,vst,vwa,I s.al,I s.up],vx] w fun u w'=>∃H1 va,HLe H H1∧u= .agg #[va]∧RT H1 va (fD s x s.st.length)∧St H1 w' σ:=by
 have rk:=fI rj;have hw:=rk.2.2.1;obtain ⟨ast,cst,rfl⟩:=RI.shape h1;obtain ⟨awa,cwa,rfl⟩:=RI.shape h2;obtain ⟨ax,cx,rfl⟩:=RI.shape hx;refine Cl.o func124 ntmps124 ag2 ?_;refine .ae (.bx hs fun b2 w hs=>?_);refine .bx hs fun b3 w hs=>?_
 refine .o (.alloc hs l5 rfl fun b4 w hs=>?_);refine .nil (.ae (.o (.alloc hs l5 rfl fun b5 w hs=>?_)));refine .nil (.seq (.ae (.y hs (zls [_,_,_,_,_,_] bu aI) (.o (.call call44 rfl (ff (s:=s) hs h1 h2 ⟨aj,aj⟩) ?_)))));rintro _ w ⟨H1,ba,aq,rfl,oG,hs⟩;replace hx:=hx.mono aq;refine .nil (.block ?_);refine .rangeFunc (gf:=92) (cap:=[Pt ba]) (xs:=Am s) (σb:=[.blk b5 [.slice none 0 0],.nul,.blk b4 [.slice none 0 0],.blk b3 [.slice ax x.length cx]]) (σf:=σ) (hs.nul.sb) trivial rfl oG call92 (fun x hx=>by
   simp only [Am,List.mem_map] at hx;obtain ⟨j,_,rfl⟩:=hx;rfl) rfl
  (I:=fun p H' σb=>∃va us en ens,σb= .blk b5 [va]::en:: .blk b4 [.slice none 0 0]:: .blk b3 [.slice ax x.length cx]::ens∧bM 1 va us en∧qV us (DD s x p) ens) (Ix:=fun _ _ _=>False)
  (fun j _ _ σ g1 g2=>g2) (fun _ _ _ _ _ h=>h) ⟨_,[],_,[],rfl,.nil 1 none,by rw [HW];exact .nil⟩ ?_ ?_ (fun D c H' σb w _ h _=>h.elim)
 ·rintro ly p hp H5 wH wG w eV ⟨va,us,en,ens,rfl,hO,hR⟩ hs ⟨rr,GV⟩;have GW:p<s.many:=by rw [dJ] at hp;exact hp
  have gM:p/s.wa.length<s.st.length:=Nat.div_lt_of_lt_mul (by rw [Nat.mul_comm];exact GW);have KY:=Nat.mod_lt p hw;have KS:=HX s x p hw;have qu:=JU s x p;have hRW:DD s x p=fD s x (p/s.wa.length)++if p%s.wa.length=0 then [] else [mL s x (p/s.wa.length) (p%s.wa.length)]:=rfl
  have hu:s.u (p/s.wa.length) (p%s.wa.length)=p+1:=by
   unfold Spc.u;have:=Nat.div_add_mod p s.wa.length;rw [Nat.mul_comm] at this;omega
  rw [hRW] at hR;have Mf:us.length≤1001:=by
   have:=hR.length;rw [List.length_append,eC] at this;split at this<;>simp at this<;>omega
  rw [nI hp];obtain ⟨aa,la,ca,rfl,Q4⟩:=hO.shape;have hx5:=hx.mono eV;generalize p/s.wa.length=i at*;generalize p%s.wa.length=k at*;refine .region (.o (.alloc hs pb rfl fun b6 w hs=>?_));refine .o (.aD (vs:=[_,_,_]) hs rfl rfl Ba fun w hs=>?_);refine .nil (nT ⟨H5,.blk b6 [I (i:Int),I (k:Int),I ((p+1:Nat):Int)]:: .blk b5 [.slice aa la ca]::en:: .blk b4 [.slice none 0 0]:: .blk b3 [.slice ax x.length cx]::ens,HLe.refl _,hs,?_⟩);rintro w nJ - hs;replace hs:St H5 w (.blk b6 [I (i:Int),I (k:Int),I ((p+1:Nat):Int)]:: .blk b5 [.slice aa la ca]::en:: .blk b4 [.slice none 0 0]:: .blk b3 [.slice ax x.length cx]::(ens++nJ)):=hs;refine .block (.cut (fun fs w=>∃va us en ens,np fs ⟨37,[],[(6,Pt b6),(5,Pt b5),(4,Pt b4),(3,Pt b3)]⟩∧bM 1 va us en∧qV us (fD s x i++[mL s x i k]) ens∧St H5 w (.blk b6 [I (i:Int),I (k:Int),I ((p+1:Nat):Int)]:: .blk b5 [va]::en:: .blk b4 [.slice none 0 0]:: .blk b3 [.slice ax x.length cx]::(ens++nJ))) ?_ ?_)
  ·refine .ae (.z (zfa cC) (.y hs (zld ai) (.zn gO (.bX rfl (fun gS=>?_) (fun gS=>?_)))))
   ·refine .region (.z (zfa eS) (.y hs (zld wE) (.o (.buildSlice (cells:=[.slice none 0 0]) hs sq rfl rfl fun Df w hs=>?_))));refine .o (.append (ys:=[.slice none 0 0]) hs mX rfl rfl hO (.own .here rfl rfl) (by simp [Value.oneCell']) (fun l h=>by omega) fun v16 en16 w ld hs=>?_);obtain ⟨a16,l16,c16,rfl,h16⟩:=ld.shape;refine .z (zfa eS) (.o (.store hs rfl rfl sizeOf40 fun w hs=>?_));refine .nil (nT ?_);obtain rfl:k=0:=by omega
    rw [if_pos rfl,List.append_nil] at hR;refine ⟨_,_,en16,ens++[.nul],bk,ld,hR.snoc (show bM 1 (.slice none 0 0) (Is (mL s x i 0)) .nul from .nil 1 none),?_⟩;replace hs:St H5 w (.blk b6 [I (i:Int),I ((0:Nat):Int),I ((p+1:Nat):Int)]:: .blk b5 [.slice a16 l16 c16]::en16:: .blk b4 [.slice none 0 0]:: .blk b3 [.slice ax x.length cx]::(ens++nJ)):=hs.sb;replace hs:=hs.nul;rw [List.append_assoc];exact hs.perm (List.perm_middle (l₁:= .blk b6 _:: .blk b5 _::en16:: .blk b4 _:: .blk b3 _::ens) (l₂:=nJ)).symm
   ·refine .skip (nT ?_);rw [if_neg aj] at hR;exact ⟨_,us,en,ens,bk,hO,hR,hs⟩
  ·clear hs hO hR;rintro fs w ⟨va,us,en,ens,i7,hO,hR,hs⟩;refine WE.sub ?_ i7;clear i7;have Mf:=hR.length;rw [List.length_append,eC,List.length_singleton] at Mf;obtain ⟨u,er,A,B,Jm,hOr,rfl,Ww⟩:=hR.rowS qu
   rcases hO with ⟨_,_,h0,_⟩|⟨bo,lo,cap,sp,rfl,rfl,h5,h6,h7⟩
   ·exfalso;rw [h0] at Mf;simp at Mf
   obtain rfl:lo=i+1:=by omega
   obtain ⟨ar,cr,rfl⟩:=hOr.yG;rw [ib] at hOr Jm;rw [show (A++er::B)++nJ=A++er::(B++nJ) by simp] at hs;replace hs:St H5 w (er:: .blk b6 [I (i:Int),I (k:Int),I ((p+1:Nat):Int)]:: .blk b5 [.slice (some ⟨bo,0,none⟩) (i+1) cap]:: .blk bo (us++sp):: .blk b4 [.slice none 0 0]:: .blk b3 [.slice ax x.length cx]::(A++(B++nJ))):=hs.perm (List.perm_middle (l₁:= .blk b6 _:: .blk b5 _:: .blk bo _:: .blk b4 _:: .blk b3 _::A) (l₂:=B++nJ));have KI:(us++sp)[i]? =some (.slice ar k cr):=by rw [List.getElem?_append_left aj];exact Jm
   refine .draw mix rfl hs fun w hs=>?_
   refine .zw 0 rfl (zfa eS) ?_;refine .y 1 rfl hs wE ?_;refine .z 2 rfl (zfa cD) ?_;refine .y 3 rfl hs ai ?_;refine .z 4 rfl (zfa eS) ?_;refine .y 5 rfl hs wE ?_;refine .z 6 rfl (zfa cD) ?_;refine .y 7 rfl hs ai ?_;refine .z 8 rfl (zix (j:=i) az aJ) ?_;refine .load (i:=9) hs rfl au .none rfl an ?_ (hv:=KI);refine .y 10 rfl hs an ?_;refine .z 11 rfl (zfa dZ) ?_;refine .y 12 rfl hs ai ?_;refine .ixX (enc:=fun x=>[I x]) (i:=13) hs rfl au .none hx5 rfl rfl af ak (bG (l:=x) (i:=(p+1)) aj) dD ?_;intro Hu o31 oQ;replace oQ:=bE.one oQ;refine .r (i:=14) hs rfl au .none (aP rfl ai oQ) ?_;refine .E 15 hs ?_;refine .buildSlice (cells:=[_]) hs bJ rfl rfl ?_;intro aax w hs;refine .go (.E 16 hs ?_);refine .append (ys:=Is [gi x (p+1)]) hs bO rfl rfl hOr (.own .here rfl rfl) (jF _) (fun l h=>by simp [ib] at h;omega) ?_;intro v34 en34 w eh hs;rw [←List.map_append,←hu,←Bs] at eh;obtain ⟨a34,c34,rfl⟩:=eh.yG;rw [ib] at eh ⊢;have Z7:=Ww _ _ _ eh;rw [KS] at Z7;refine .go (.zw 17 rfl (zix (j:=i) az aJ) (.E 18 hs ?_));refine .store (c':=us.set i (.slice a34 (k+1) c34)++sp) hs rfl rfl aJ ?_ dr (Nat.ble_eq_true_of_le (by rw [List.length_append];omega)) (by rw [List.set_append_left _ _ aj]);intro w hs;refine .go (.D hs (nB ⟨H5,.blk b5 [.slice (some ⟨bo,0,none⟩) (i+1) cap]:: .blk bo (us.set i (.slice a34 (k+1) c34)++sp):: .blk b4 [.slice none 0 0]:: .blk b3 [.slice ax x.length cx]::(A++en34::B),HLe.refl _,?_,_,_,_,_,rfl,.inr ⟨bo,i+1,cap,sp,rfl,rfl,by rw [List.length_set];omega,by rw [List.length_append,List.length_set,←List.length_append];exact h6,h7⟩,Z7⟩));replace hs:St H5 w (en34:: .blk b5 [.slice (some ⟨bo,0,none⟩) (i+1) cap]:: .blk bo (us.set i (.slice a34 (k+1) c34)++sp):: .blk b4 [.slice none 0 0]:: .blk b3 [.slice ax x.length cx]::(A++(B++nJ))):=hs.sb;replace hs:=hs.perm (List.perm_middle (l₁:= .blk b5 _:: .blk bo _:: .blk b4 _:: .blk b3 _::A) (l₂:=B++nJ)).symm;rw [show (.blk b5 [.slice (some ⟨bo,0,none⟩) (i+1) cap]:: .blk bo (us.set i (.slice a34 (k+1) c34)++sp):: .blk b4 [.slice none 0 0]:: .blk b3 [.slice ax x.length cx]::(A++en34::B))++nJ=(.blk b5 [.slice (some ⟨bo,0,none⟩) (i+1) cap]:: .blk bo (us.set i (.slice a34 (k+1) c34)++sp):: .blk b4 [.slice none 0 0]:: .blk b3 [.slice ax x.length cx]::A)++en34::(B++nJ) by simp];exact hs
 ·rintro D H5 wH w eV ⟨va,us,en,ens,rfl,hO,hR⟩ hs;rw [dJ,HY s x hw] at hR;replace hs:St H5 w (.obj D (.deferred (some [])):: .blk b5 [va]::en:: .blk b4 [.slice none 0 0]:: .blk b3 [.slice ax x.length cx]::(ens++σ)):=hs;have Mf:=hR.length;rw [eC] at Mf;obtain ⟨aa,la,ca,rfl,Q4⟩:=hO.shape;refine nB (nT (.ae (.y hs (zls [_] pc ea) (.o (.aD (vs:=[_]) hs rfl rfl ea fun w hs=>?_)))));refine .nil (.ret ?_);replace hs:St H5 w (ens++(.obj D (.deferred (some [])):: .blk b5 [.slice aa la ca]::en:: .blk b4 [.slice aa la ca]:: .blk b3 [.slice ax x.length cx]::σ)):=(show St H5 w ([.obj D (.deferred (some [])),.blk b5 [.slice aa la ca],en,.blk b4 [.slice aa la ca],.blk b3 [.slice ax x.length cx]]++(ens++σ)) from hs).perm (List.perm_append_comm_assoc _ ens σ);obtain ⟨H6,kH,Us,hs⟩:=hR.bQ (fun r hr=>by
   obtain ⟨j,hj⟩:=List.getElem?_of_mem hr;have wT:=(List.getElem?_eq_some_iff.1 hj).1;rw [eC] at wT;rw [yH wT] at hj;obtain rfl:=Option.some.inj hj;rw [ib];omega) hs
  obtain ⟨H7,zx,wi,hs⟩:=Us.bQ hO aj hs (.there (.there .here));exact Fin.iz [D] [] hs fun w hs=>⟨_,results1 results124 (cO (vs:=[_]) hs rfl pc ea),H7,_,aq.trans (eV.trans (kH.trans zx)),rfl,wi,hs.out⟩
set_option maxHeartbeats 1000000 in
theorem j9{w:World}{q:Wht}{vst vwa:Value}(hs:St H w σ)(h1:RI H vst s.sp.st)(h2:RI H vwa s.sp.wa)(h3:RRd H vr s.rs)(h4:RCm H vc s.cs):
  aaA 62 [.agg #[I s.sp.id,I s.sp.src,vst,vwa,I s.sp.al,I s.sp.up,vr,vc],.agg #[I q.kind,I q.st,I q.wa],.bool high] w fun u w'=>∃H1 vh rows e,HLe H H1∧u= .tuple #[.agg #[vh],I e]∧RT H1 vh rows∧A7 s q e∧(e≠0→rows=[])∧(e=0→∃x,EV s.sys (Fb (s.w q) high) x∧rows=fD s.sp x s.sp.st.length)∧St H1 w' σ:=by
 refine Cl.o func62 ntmps62 ag3 ?_;refine .ae (.bx hs fun b3 w hs=>?_);refine .bx hs fun b4 w hs=>?_
 refine .o (.alloc hs l5 rfl fun b6 w hs=>?_);refine .zn zg (.ae (.y hs (zls [_,_,_,_,_,_,_,_] bA aM) (.y hs (zls [_,_,_] Zc Aq) (.o (.call call51 rfl (nz (s:=s) (q:=q) hs h1 h2 h3 h4) ?_)))));rintro _ w ⟨H1,m,ul,vw,d,e,aq,rfl,⟨al,ll,cl,rfl⟩,⟨aw,lw,cw,rfl⟩,hA,Ux,hs⟩;refine .z zm (.z zex (.z zex (.o (.alloc hs EY rfl fun b8 w hs=>?_))));refine .o (.aD (vs:=[_,_,_,_]) hs rfl rfl iE fun w hs=>?_);refine .zn zg (.seq (.ae (.z zm (.zn gE (.eN rfl (fun kI=>?_) (fun kI=>?_))))))
 ·refine .ae (.z (zbd [_] qS) (.z zm (.o (.aD (vs:=[_]) hs rfl rfl ea fun w hs=>?_))));exact .zn zg (.ret (rT ((Fin.iz [] [] hs fun w hs=>⟨_,results2 results62 (cO (vs:=[_]) hs rfl pc ea) rfl,H1,_,[],_,aq,rfl,RT.nil _,hA,fun _=>rfl,fun h=>(kI h).elim,hs.out⟩))))
 ·refine .skip (nT (.seq (.draw mix rfl hs fun w hs=>?_)));refine .zw 0 rfl (zfa lV) ?_;refine .ys 1 rfl hs [_,_] bZ aZ ?_;refine .ys 2 rfl hs [_,_,_,_] P7 iE ?_;refine .z 3 rfl zm ?_;refine .E 4 hs ?_;obtain rfl:e=0:=by simpa using kI
  obtain ⟨rfl,hL,hR,rfl⟩:=Ux rfl;obtain ⟨bh,hq,xy⟩:=hA.zero;have KT:=bh.sys.n65;have KG:=wJ s q;refine .call call123 rfl (mA (high:=high) hs hR (ME bh hq) aj) ?_;rintro _ w ⟨H2,aO,N9,hs⟩;refine .go (.E 5 hs ?_);refine .call call122 rfl (zV (s:=s.sys) hs ⟨_,rfl,hL.mono aO⟩ N9) ?_;rintro _ w ⟨H3,vx,x,f,bP,rfl,hF,hX,-,hB,hs⟩;obtain ⟨ax,cx,rfl⟩:=RI.shape hX;obtain rfl:=Gk (OC bh hq high) xy (fun b=>s.both) hF;have PL:=hB rfl;have eO:=aq.trans (aO.trans bP);refine .go (.zw 6 rfl zm ?_);refine .z 7 rfl zex ?_;refine .z 8 rfl zex ?_;refine .z 9 rfl zg ?_;refine .z 10 rfl zg ?_;refine .D hs ?_;refine .seq (.ae (.z zm (.zn gE (.eN rfl (fun oQ=>?_) (fun oQ=>?_)))))
  ·refine .ae (.z (zbd [_] qS) (.z zm (.o (.aD (vs:=[_]) hs rfl rfl ea fun w hs=>?_))));exact .zn zg (.ret (rT (((oQ rfl).elim))))
  ·refine .skip (nT (.ae (.z (zfa bj) (.y hs (zls [_,_,_,_,_,_] bu aI) (.z zm (.o (.call call124 rfl (vJ (s:=s.sp) hs (h1.mono eO) (h2.mono eO) hX bh.early.1 (by rw [PL.len,yD];omega)) ?_)))))));rintro _ w ⟨H4,va,eL,rfl,hT,hs⟩;obtain ⟨aa,ca,rfl⟩:=hT.shape;refine .o (.aD (vs:=[_]) hs rfl rfl ea fun w hs=>?_);exact .zn zg (.ret (Fin.iz [] [] hs fun w hs=>⟨_,results2 results62 (cO (vs:=[_]) hs rfl pc ea) rfl,H4,_,_,_,eO.trans eL,rfl,hT,hA,fun h=>(h rfl).elim,fun _=>⟨x,PL,rfl⟩,hs.out⟩))
theorem RN{q:Wht}{x:List Int}(g:Fc s q lo hi 0)(hB:EV s.sys (Fb (s.w q) high) x):
  tx s.sp (fD s.sp x s.sp.st.length) q (if high=true then hi else lo) 0∧Je s (fD s.sp x s.sp.st.length) 0:=by
 obtain ⟨a,b,rfl,rfl,bh,hq,hR⟩:=B6 g;obtain ⟨hH,hK,WA⟩:=EH bh hB.zero hB.De q;refine ⟨?_,.ok bh hH hK⟩;have h:=tx.ok bh.early.1 hH hq;rw [WA] at h;unfold Fb at hB
 cases high with
 |true=>rw [if_pos rfl] at hB ⊢;rw [RJ hR hB] at h;exact h
 |false=>rw [if_neg br] at hB ⊢;rw [RH hR hB] at h;exact h
theorem AA{w:World}{sl pk:List Int}{IU:List F5}{Ls:List F4}{z1 z2 z3:Int}(hs:St H w σ)(g1:RI H vs sl)(g2:RF5 H v5 IU)(g3:RF4 H v4 Ls)(g4:RI H vp pk):
  aaA 7 [.agg #[vs,v5,v4,vp,I z1,I z2,I z3]] w fun u w'=>∃H1 s y vst vwa vr vc vy,HLe H H1∧u= .tuple #[.agg #[I s.sp.id,I s.sp.src,vst,vwa,I s.sp.al,I s.sp.up,vr,vc],vy]∧uN s∧oF s y∧RI H1 vst s.sp.st∧RI H1 vwa s.sp.wa∧RRd H1 vr s.rs∧RCm H1 vc s.cs∧RI H1 vy y∧St H1 w' σ:=by
 refine (AB hs g1 g2 g3 g4).mono ?_;rintro _ w ⟨H3,m,y,ust,uwa,ur,uc,uy,e1,e2,e3,e4,e5,bP,rfl,hM,hOV,VB,hK,hs⟩;have QV:=hM.st;have Wr:=hM.wa;have GX:=hM.rs;have hmc:=hM.cs;obtain ⟨H4,eL,r1,r2,r3,r4,hs,-⟩:=PY.FN hOV aj aj aj aj hs;obtain ⟨uh,-,hyb⟩:=hK.bd;have Xb:=hM.ok.many;obtain ⟨H5,eV,hY,hs⟩:=bM.ck VB aj hs .here;exact ⟨H5,m,y,_,_,_,_,_,bP.trans (eL.trans eV),rfl,hM,hK,r1.mono eV,r2.mono eV,r3.mono eV,r4.mono eV,hY,hs⟩
theorem Ay{w:World}{s:Spc}{vst vwa:Value}{x:List Int}(hs:St H w σ)(h1:RI H vst s.st)(h2:RI H vwa s.wa)(hx:RI H vx x)(BH:s.st.length≤1000)(xY:s.wa.length≤1000)(sf:s.many+1≤x.length):
  aaA 8 [.agg #[I s.id,I s.src,vst,vwa,I s.al,I s.up],vx] w fun u w'=>∃H1 va,HLe H H1∧u= .agg #[va]∧RT H1 va (fD s x s.st.length)∧St H1 w' σ:=by
 refine (Az hs h1 h2 hx BH xY sf).mono ?_;rintro _ w ⟨va,us,en,ens,rfl,hO,hR,hs⟩;have Mf:=hR.length;rw [eC] at Mf;replace hs:St H w (ens++(en::σ)):=hs.perm List.perm_middle.symm;obtain ⟨H6,kH,Us,hs⟩:=hR.bQ (fun r hr=>by
  obtain ⟨j,hj⟩:=List.getElem?_of_mem hr;have wT:=(List.getElem?_eq_some_iff.1 hj).1;rw [eC] at wT;rw [yH wT] at hj;obtain rfl:=Option.some.inj hj;rw [ib];omega) hs
 obtain ⟨H7,zx,wi,hs⟩:=Us.bQ hO aj hs .here;exact ⟨H7,_,kH.trans zx,rfl,wi,hs⟩
theorem bY{w:World}(hs:St H w σ):aaA 66 [I a0,I a1,I a2] w fun v w'=>v= .bool (decide (a1≤a0∧a0≤a2))∧St H w' σ:=by
 refine Cl.o func66 ntmps66 ag3 ?_;refine .ae (.zn zg (.ae (.z zm (.z zm (.z rl (.z zm (.mW (t':=10) rfl (fun qy=>?_) (fun qy=>?_))))))))
 ·exact .T (.z zm (.T (.z zm (.T (.z rl (.z zpT (.zn zg (.ret (Fin.bp results66 rfl ⟨by simp [*],hs.out⟩)))))))))
 ·exact .Fs 3 3 true (.z zpF (.zn zg (.ret (Fin.bp results66 rfl ⟨by simp [*],hs.out⟩))))
theorem px{w:World}(hs:St H w σ):aaA 127 [I a0] w fun v w'=>v= .bool (decide (1≤a0∧a0≤20))∧St H w' σ:=by
 refine Cl.o func127 ntmps127 ag1 ?_;refine .ae (.zn zg (.ae (.z zm (.o (.call nW rfl (bY hs) ?_)))));rintro _ w ⟨rfl,hs⟩;exact .zn zg (.ret (Fin.bp results127 rfl ⟨rfl,hs⟩))
theorem py{w:World}{y:Int}(hs:St H w σ):aaA 192 [.agg #[I x,I y],I a1,I a2] w fun v w'=>v= .bool (decide (a1≤x∧x≤y∧y≤a2))∧St H w' σ:=by
 refine Cl.o func192 ntmps192 ag3 ?_;refine .ae (.bx hs fun b3 w hs=>?_);refine .zn zg (.ae (.z zm (.z (zfa bR) (.y hs (zld ai) (.z rl (.z zm (.mW (t':=11) rfl (fun zI=>?_) (fun zI=>?_))))))))
 ·refine .T (.z (zfa bR) (.T (.y hs (zld ai) (.T (.z (zfa cg) (.T (.y hs (zld ai) (.T (.z rl (.z zpT (.z zm (.mW (t':=18) rfl (fun Lh=>?_) (fun Lh=>?_)))))))))))))
  ·exact .T (.z (zfa cg) (.T (.y hs (zld ai) (.T (.z zm (.T (.z rl (.z zpT (.zn zg (.ret (Fin.bp results192 rfl ⟨by simp [*],hs.out⟩)))))))))))
  ·exact .Fs 4 11 true (.z zpF (.zn zg (.ret (Fin.bp results192 rfl ⟨by simp [*],hs.out⟩))))
 ·exact .Fs 5 4 true (.z zpF (.z zm (.Fs 4 11 true (.z zpF (.zn zg (.ret (Fin.bp results192 rfl ⟨by simp [*],hs.out⟩)))))))
theorem pz{w:World}{y:Int}(hs:St H w σ):aaA 119 [.agg #[I x,I y]] w fun v w'=>v= .bool (decide (kS x y))∧St H w' σ:=by
 refine Cl.o func119 ntmps119 ag1 ?_;refine .ae (.bx hs fun b1 w hs=>?_);refine .zn zg (.ae (.y hs (zls [_,_] dL a8) (.o (.call call192 rfl (py hs) ?_))));rintro _ w ⟨rfl,hs⟩;exact .zn zg (.ret (Fin.bp results119 rfl ⟨rfl,hs.out⟩))
theorem vO{w:World}{y:Int}(hs:St H w σ):aaA 128 [.agg #[I x,I y]] w fun v w'=>v= .bool (decide (iM x y))∧St H w' σ:=by
 refine Cl.o func128 ntmps128 ag1 ?_;refine .ae (.bx hs fun b1 w hs=>?_);refine .zn zg (.ae (.y hs (zls [_,_] dL a8) (.o (.call call192 rfl (py hs) ?_))));rintro _ w ⟨rfl,hs⟩;exact .zn zg (.ret (Fin.bp results128 rfl ⟨rfl,hs.out⟩))
theorem qj{w:World}{x:Lg}(hs:St H w σ):
  aaA 68 [.agg #[I x.zone,I x.fr,I x.to,I x.dlo,I x.dhi,I x.blo,I x.bhi]] w fun v w'=>∃b:Bool,v= .bool b∧(b=true↔Jc x)∧St H w' σ:=by
 refine Cl.o func68 ntmps68 ag1 ?_;refine .ae (.bx hs fun b1 w hs=>?_);refine .zn zg (.ae (.z (zfa wY) (.y hs (zld ai) (.o (.call call127 rfl (px hs) ?_)))));rintro _ w ⟨rfl,hs⟩;refine .z zm (.bif (t':=6) rfl (fun Si=>?_) (fun Si=>?_))
 ·refine .T (.z (zfa lX) (.T (.y hs (zld ai) (.T (.z (zfa kx) (.T (.y hs (zld ai) (.T (.o (.call nW rfl (bY hs) ?_))))))))));rintro _ w ⟨rfl,hs⟩;refine .z zpT (.z zm (.bif (t':=13) rfl (fun Lj=>?_) (fun Lj=>?_)))
  ·refine .T (.z (zfa kx) (.T (.y hs (zld ai) (.T (.o (.call nW rfl (bY hs) ?_))))));rintro _ w ⟨rfl,hs⟩;refine .z zpT (.z zm (.bif (t':=18) rfl (fun Lh=>?_) (fun Lh=>?_)))
   ·refine .T (.z (zfa eW) (.T (.y hs (zls [_,_] dL a8) (.T (.o (.call call128 rfl (vO hs) ?_))))));rintro _ w ⟨rfl,hs⟩;refine .z zpT (.z zm (.bif (t':=23) rfl (fun zH=>?_) (fun zH=>?_)))
    ·refine .T (.z (zfa jk) (.T (.y hs (zls [_,_] dL a8) (.T (.o (.call call119 rfl (pz hs) ?_))))));rintro _ w ⟨rfl,hs⟩;refine .z zpT (.zn zg (.ret (Fin.bp results68 rfl ?_)));first
     |exact ⟨false,rfl,⟨fun h=>(by cases h),fun h=>(by obtain ⟨g1,g2,g3,g4,g5⟩:=h;first|omega|(simp_all;done)|(simp_all;omega))⟩,hs.out⟩
     |exact ⟨_,rfl,⟨fun h=>⟨by simp_all,by simp_all,by simp_all,by simp_all,by simpa using h⟩,fun h=>by simpa using h.burn⟩,hs.out⟩
    ·refine .Fs 3 20 true (.z zpF (.zn zg (.ret (Fin.bp results68 rfl ?_))));first
     |exact ⟨false,rfl,⟨fun h=>(by cases h),fun h=>(by obtain ⟨g1,g2,g3,g4,g5⟩:=h;first|omega|(simp_all;done)|(simp_all;omega))⟩,hs.out⟩
     |exact ⟨_,rfl,⟨fun h=>⟨by simp_all,by simp_all,by simp_all,by simp_all,by simpa using h⟩,fun h=>by simpa using h.burn⟩,hs.out⟩
   ·refine .Fs 3 15 true (.z zpF (.z zm (.Fs 3 20 true (.z zpF (.zn zg (.ret (Fin.bp results68 rfl ?_)))))));first
    |exact ⟨false,rfl,⟨fun h=>(by cases h),fun h=>(by obtain ⟨g1,g2,g3,g4,g5⟩:=h;first|omega|(simp_all;done)|(simp_all;omega))⟩,hs.out⟩
    |exact ⟨_,rfl,⟨fun h=>⟨by simp_all,by simp_all,by simp_all,by simp_all,by simpa using h⟩,fun h=>by simpa using h.burn⟩,hs.out⟩
  ·refine .Fs 3 10 true (.z zpF (.z zm (.Fs 3 15 true (.z zpF (.z zm (.Fs 3 20 true (.z zpF (.zn zg (.ret (Fin.bp results68 rfl ?_))))))))));first
   |exact ⟨false,rfl,⟨fun h=>(by cases h),fun h=>(by obtain ⟨g1,g2,g3,g4,g5⟩:=h;first|omega|(simp_all;done)|(simp_all;omega))⟩,hs.out⟩
   |exact ⟨_,rfl,⟨fun h=>⟨by simp_all,by simp_all,by simp_all,by simp_all,by simpa using h⟩,fun h=>by simpa using h.burn⟩,hs.out⟩
 ·refine .Fs 5 3 true (.z zpF (.z zm (.Fs 3 10 true (.z zpF (.z zm (.Fs 3 15 true (.z zpF (.z zm (.Fs 3 20 true (.z zpF (.zn zg (.ret (Fin.bp results68 rfl ?_)))))))))))));first
  |exact ⟨false,rfl,⟨fun h=>(by cases h),fun h=>(by obtain ⟨g1,g2,g3,g4,g5⟩:=h;first|omega|(simp_all;done)|(simp_all;omega))⟩,hs.out⟩
  |exact ⟨_,rfl,⟨fun h=>⟨by simp_all,by simp_all,by simp_all,by simp_all,by simpa using h⟩,fun h=>by simpa using h.burn⟩,hs.out⟩
set_option maxHeartbeats 1000000 in
theorem mn{w:World}(hs:St H w σ)(h1:RFb H vt l.table)(h2:RSn H vs l.seasons):
  aaA 67 [.agg #[I l.length,I l.depth,vt,vs]] w fun u w'=>∃e,u=I e∧LnsR l e∧St H w' σ:=by
 obtain ⟨at_,ct,rfl⟩:=h1.shape;obtain ⟨cn,cs,rfl⟩:=h2.shape;refine Cl.o func67 ntmps67 ag1 ?_;refine .ae (.bx hs fun b1 w hs=>?_);refine .zn zg (.seq (.ae (.z (zfa lC) (.y hs (zld ai) (.o (.call nW rfl (bY hs) ?_))))));rintro _ w ⟨rfl,hs⟩;refine .z im (.z zm (.bif (t':=11) rfl (fun zI=>?_) (fun zI=>?_)))
 ·exact .Fs 4 4 false (.z zpT (.z zm (.Fs 5 10 false (.z zpT (.z zm (.Fs 4 17 false (.zn zpT (.cT (.ae (.zn zg (.ret (rT (Fin.bp l6 rfl ⟨_,rfl,.inr ⟨fun h=>by have:=h.length;simp_all,rfl⟩,hs.out⟩)))))))))))))
 ·refine .T (.z (zfa so) (.T (.y hs (zld ai) (.T (.o (.call nW rfl (bY hs) ?_))))));rintro _ w ⟨rfl,hs⟩;refine .T (.z im (.z zpF (.z zm (.bif (t':=17) rfl (fun Ga=>?_) (fun Ga=>?_)))))
  ·exact .Fs 5 10 false (.z zpT (.z zm (.Fs 4 17 false (.zn zpT (.cT (.ae (.zn zg (.ret (rT (Fin.bp l6 rfl ⟨_,rfl,.inr ⟨fun h=>by have:=h.depth;simp_all,rfl⟩,hs.out⟩))))))))))
  ·refine .T (.z (zfa dU) (.T (.y hs (zld Bc) (.T (.z (cJ eH) (.T (.o (.call nW rfl (bY hs) ?_))))))));rintro _ w ⟨rfl,hs⟩;refine .T (.z im (.z zpF (.z zm (.bif (t':=24) rfl (fun El=>?_) (fun El=>?_)))))
   ·exact .Fs 4 17 false (.zn zpT (.cT (.ae (.zn zg (.ret (rT (Fin.bp l6 rfl ⟨_,rfl,.inr ⟨fun h=>by have:=h.many;simp_all;omega,rfl⟩,hs.out⟩)))))))
   ·refine .T (.z (zfa jL) (.T (.y hs (zld isAgg88) (.T (.z (cJ kW) (.T (.z q5 (.zn zpF (.bX rfl (fun nQ=>?_) (fun nQ=>?_))))))))))
    ·exact .ae (.zn zg (.ret (rT (Fin.bp l6 rfl ⟨_,rfl,.inr ⟨fun h=>by have:=h.most;simp_all;omega,rfl⟩,hs.out⟩))))
    ·refine .skip (nT (.seq (.ae ?_)));have Q5:1≤l.table.length∧l.table.length≤20:=by first|omega|(simp at El;omega)
     refine .z (zfa dU) (.y hs (zld Bc) (.z (cJ eH) (.zn zm (.for (N:=l.table.length) (J:=fun k fr w=>fr=[(31,.slice at_ l.table.length ct),(1,Pt b1)]∧(∀j<k,R3 l.table j)∧St H w (.blk b1 [I l.length,I l.depth,.slice at_ l.table.length ct,.slice cn l.seasons.length cs]::σ)) aj ?_ ?_ ?_))))
     ·exact .mk ⟨rfl,fun j hj=>by omega,hs⟩
     ·rintro k fr w hk ⟨rfl,fF,hs⟩;have hx:=zM (l:=l.table) hk;have AP:=zM (l:=l.table) (i:=k - 1) aj;refine .block (.ae (.z zm (.ixX (enc:=Fbd.c) hs h1 rfl rfl eH gN hx dD ?_)));intro VM o36 wc;refine .q hs (bD (vs:=(Fbd.c (fb0 l.table k))) rfl isAgg225 gN wc) (.o (.alloc hs uU rfl fun b4 w hs=>?_));refine .z zg (.o (.aD (vs:=(fb0 l.table k).c) hs rfl rfl gN fun w hs=>?_));change St _ _ (.blk b4 [I (fb0 l.table k).len,I (fb0 l.table k).least]::_) at hs;refine .nil (.seq (.draw mix rfl hs fun w hs=>?_));refine .zw 0 rfl (zfa dM) ?_;refine .y 1 rfl hs ai ?_;refine .E 2 hs ?_;refine .call nW rfl (bY hs) ?_;rintro _ w ⟨rfl,hs⟩;refine .go (.zw 3 rfl im ?_);refine .z 4 rfl zm ?_;refine .bif (t':=42) rfl (fun F3=>?_) (fun F3=>?_)
      ·refine .F 5 rfl (.F 6 rfl (.F 7 rfl (.F 8 rfl (.zw 9 rfl zpT ?_))));refine .z 10 rfl zm ?_;refine .F 11 rfl (.F 12 rfl ?_);refine .F 13 rfl (.F 14 rfl (.F 15 rfl (.F 16 rfl (.F 17 rfl (.F 18 rfl (.F 19 rfl (.F 20 rfl (.F 21 rfl (.F 22 rfl (.F 23 rfl (.F 24 rfl (.zw 25 rfl zpT ?_))))))))))));refine .D hs ?_;exact (.cT (.ae (.zn zg (.ret (rB (rT (rB (rT (Fin.bp l6 rfl ⟨_,rfl,.inr ⟨fun h=>by have:=(h.table k hk).len;simp_all,rfl⟩,hs.out⟩)))))))))
      ·refine .zw 5 rfl (zfa gy) ?_;refine .y 6 rfl hs ai ?_;refine .E 7 hs ?_;refine .call nW rfl (bY hs) ?_;rintro _ w ⟨rfl,hs⟩;refine .go (.zw 8 rfl im ?_);refine .z 9 rfl zpF ?_;refine .z 10 rfl zm ?_;refine .bif (t':=48) rfl (fun XW=>?_) (fun XW=>?_)
       ·refine .F 11 rfl (.F 12 rfl ?_);refine .F 13 rfl (.F 14 rfl (.F 15 rfl (.F 16 rfl (.F 17 rfl (.F 18 rfl (.F 19 rfl (.F 20 rfl (.F 21 rfl (.F 22 rfl (.F 23 rfl (.F 24 rfl (.zw 25 rfl zpT ?_))))))))))));refine .D hs ?_;exact (.cT (.ae (.zn zg (.ret (rB (rT (rB (rT (Fin.bp l6 rfl ⟨_,rfl,.inr ⟨fun h=>by have:=(h.table k hk).least;simp_all,rfl⟩,hs.out⟩)))))))))
       ·refine .zw 11 rfl zm ?_;refine .z 12 rfl q5 ?_;refine .z 13 rfl zm ?_;refine .mW (t':=51) rfl (fun XU=>?_) (fun XU=>?_)
        ·refine .zw 14 rfl (zfa dU) ?_;refine .y 15 rfl hs Bc ?_;refine .z 16 rfl zm ?_;refine .z 17 rfl iw ?_;refine .ixX (enc:=Fbd.c) (i:=18) hs rfl au (.some rfl rfl) h1 rfl rfl eH gN AP aj ?_;intro aat o56 K7;refine .zw 19 rfl (zfa dM) (.r (i:=20) hs rfl au (.some rfl rfl) (aP rfl ai (K7.get 0 rfl)) ?_);refine .zw 21 rfl (zfa dM) ?_;refine .y 22 rfl hs ai ?_;refine .z 23 rfl Bd ?_;refine .z 24 rfl zpT ?_;refine .z 25 rfl zpF ?_;refine .D hs ?_;refine (.bX rfl (fun uo=>?_) (fun uo=>?_))
         ·exact .ae (.zn zg (.ret (rB (rT (rB (rT (Fin.bp l6 rfl ⟨_,rfl,.inr ⟨fun h=>by have:=(h.table k hk).rise aj;omega,rfl⟩,hs.out⟩)))))))
         ·refine .skip (nB (nT ?_));first
          |exact .mk ⟨rfl,fun j hj=>by
            by_cases e:j=k
            ·subst e;exact ⟨by simp_all,by simp_all,fun _=>by omega⟩
            ·exact fF j aj,hs.tail⟩
        ·refine .F 14 rfl (.F 15 rfl (.F 16 rfl (.F 17 rfl (.F 18 rfl (.F 19 rfl (.F 20 rfl (.F 21 rfl (.F 22 rfl (.F 23 rfl (.zw 24 rfl zpF ?_))))))))));refine .z 25 rfl zpF ?_;refine .D hs ?_;refine (.cF (.skip (nB (nT ?_))));first
         |exact .mk ⟨rfl,fun j hj=>by
           by_cases e:j=k
           ·subst e;exact ⟨by simp_all,by simp_all,fun _=>by omega⟩
           ·exact fF j aj,hs.tail⟩
     ·rintro fr w ⟨rfl,To,hs⟩;refine nT (.seq (.ae (.z (zfa jL) (.y hs (zld isAgg88) (.z (cJ kW) (.zn zm (.for (N:=l.seasons.length) (J:=fun k fr w=>fr=[(66,.slice cn l.seasons.length cs),(1,Pt b1)]∧(∀j<k,∀y,l.seasons[j]? =some y→I8 y)∧St H w (.blk b1 [I l.length,I l.depth,.slice at_ l.table.length ct,.slice cn l.seasons.length cs]::σ)) aj ?_ ?_ ?_)))))))
      ·exact .mk ⟨rfl,fun j hj=>by omega,hs⟩
      ·rintro k fr w hk ⟨rfl,fF,hs⟩;obtain ⟨s,hx⟩:=nth hk;refine .block (.ae (.ixX (enc:=Ssn.c) hs h2 rfl rfl kW uQ hx dD ?_));intro b70 o70 TY;refine .q hs (bD (vs:=(Ssn.c s)) rfl isAgg227 uQ TY) (.o (.alloc hs SE rfl fun b6 w hs=>?_));refine .o (.aD (vs:=s.c) hs rfl rfl uQ fun w hs=>?_);change St _ _ (.blk b6 [I s.zone,I s.fr,I s.to,I s.extra]::_) at hs;refine .nil (.ae (.z (zfa qK) (.y hs (zld ai) (.o (.call call127 rfl (px hs) ?_)))));rintro _ w ⟨rfl,hs⟩;refine .z im (.z zm (.bif (t':=76) rfl (fun Ri=>?_) (fun Ri=>?_)))
       ·exact .Fs 4 4 false (.z zpT (.z zm (.Fs 4 10 false (.z zpT (.z zm (.Fs 4 16 false (.zn zpT (.cT (.ae (.zn zg (.ret (rB (rT (rB (rT (Fin.bp l6 rfl ⟨_,rfl,.inr ⟨fun h=>by have:=(h.seasons s (List.mem_of_getElem? hx)).zone;simp_all,rfl⟩,hs.out⟩))))))))))))))))
       ·refine .T (.z (zfa kN) (.T (.y hs (zld ai) (.T (.o (.call nW rfl (bY hs) ?_))))));rintro _ w ⟨rfl,hs⟩;refine .T (.z im (.z zpF (.z zm (.bif (t':=82) rfl (fun N5=>?_) (fun N5=>?_)))))
        ·exact .Fs 4 10 false (.z zpT (.z zm (.Fs 4 16 false (.zn zpT (.cT (.ae (.zn zg (.ret (rB (rT (rB (rT (Fin.bp l6 rfl ⟨_,rfl,.inr ⟨fun h=>by have:=(h.seasons s (List.mem_of_getElem? hx)).fr;simp_all,rfl⟩,hs.out⟩)))))))))))))
        ·refine .T (.z (zfa kM) (.T (.y hs (zld ai) (.T (.o (.call nW rfl (bY hs) ?_))))));rintro _ w ⟨rfl,hs⟩;refine .T (.z im (.z zpF (.z zm (.bif (t':=88) rfl (fun XO=>?_) (fun XO=>?_)))))
         ·exact .Fs 4 16 false (.zn zpT (.cT (.ae (.zn zg (.ret (rB (rT (rB (rT (Fin.bp l6 rfl ⟨_,rfl,.inr ⟨fun h=>by have:=(h.seasons s (List.mem_of_getElem? hx)).to;simp_all,rfl⟩,hs.out⟩))))))))))
         ·refine .T (.z (zfa qJ) (.T (.y hs (zld ai) (.T (.o (.call nW rfl (bY hs) ?_))))));rintro _ w ⟨rfl,hs⟩;refine .T (.z im (.zn zpF (.cond rfl (fun N0=>?_) (fun N0=>?_))))
          ·exact .ae (.zn zg (.ret (rB (rT (rB (rT (Fin.bp l6 rfl ⟨_,rfl,.inr ⟨fun h=>by have:=(h.seasons s (List.mem_of_getElem? hx)).extra;simp_all,rfl⟩,hs.out⟩)))))))
          ·exact .skip (nB (nT (.mk ⟨rfl,gv fF hx ⟨by simp_all,by simp_all,by simp_all,by simp_all⟩,hs.tail⟩)))
      ·rintro fr w ⟨rfl,fF,hs⟩;refine nT (.ae (.zn zg (.ret (Fin.bp l6 rfl ?_))));exact ⟨_,rfl,.inl ⟨⟨by simp_all,by simp_all,Q5,aj,To,fun s hs=>by
        obtain ⟨j,hj⟩:=List.getElem?_of_mem hs;exact fF j (List.getElem?_eq_some_iff.1 hj).1 s hj⟩,rfl⟩,hs.out⟩
theorem rC{w:World}{r:List Lg}(hs:St H w σ)(h1:RLg H vr r):
  aaA 118 [.agg #[vr]] w fun u w'=>∃e,u=I e∧RteR r e∧St H w' σ:=by
 obtain ⟨ar,cr,rfl⟩:=h1.shape;refine Cl.o func118 ntmps118 ag1 ?_;refine .ae (.bx hs fun b1 w hs=>?_);refine .zn zg (.seq (.ae (.z (zfa dj) (.y hs (zld kY) (.z (cJ bN) (.o (.call nW rfl (bY hs) ?_)))))));rintro _ w ⟨rfl,hs⟩;refine .zn im (.cond rfl (fun nP=>?_) (fun nP=>?_))
 ·exact .ae (.zn zg (.ret (rT (Fin.bp results118 rfl ⟨_,rfl,.inr ⟨fun h=>by have:=h.many;simp_all;omega,rfl⟩,hs.out⟩))))
 ·refine .skip (nT (.seq (.ae ?_)));have Q5:1≤r.length∧r.length≤12:=by first|omega|(simp at nP;omega)
  refine .z (zfa dj) (.y hs (zld kY) (.z (cJ bN) (.zn zm (.for (N:=r.length) (J:=fun k fr w=>fr=[(11,.slice ar r.length cr),(1,Pt b1)]∧(∀j<k,Jc (lg0 r j)∧(0<j→(lg0 r (j - 1)).to≤(lg0 r j).fr))∧St H w (.blk b1 [.slice ar r.length cr]::σ)) aj ?_ ?_ ?_))))
  ·exact .mk ⟨rfl,fun j hj=>by omega,hs⟩
  ·rintro k fr w hk ⟨rfl,fF,hs⟩;have hx:=qs (l:=r) hk;have AP:=qs (l:=r) (i:=k - 1) aj;refine .block (.ae (.z zm (.ixX (enc:=Lg.c) hs h1 rfl rfl bN bI hx dD ?_)));intro w7 o16 ee;refine .q hs (bD (vs:=(Lg.c (lg0 r k))) rfl jY bI ee) (.o (.alloc hs eF rfl fun b4 w hs=>?_));refine .z zg (.o (.aD (vs:=(lg0 r k).c) hs rfl rfl bI fun w hs=>?_));change St _ _ (.blk b4 [I (lg0 r k).zone,I (lg0 r k).fr,I (lg0 r k).to,I (lg0 r k).dlo,I (lg0 r k).dhi,I (lg0 r k).blo,I (lg0 r k).bhi]::_) at hs;refine .nil (.seq (.draw mix rfl hs fun w hs=>?_));refine .zv 0 rfl hs (GP [_,_,_,_,_,_,_] jY bI) (.E 1 hs ?_);refine .call call68 rfl (qj (x:=lg0 r k) hs) ?_;rintro _ w ⟨Gl,rfl,Cy,hs⟩;refine .go (.zw 2 rfl im ?_);refine .z 3 rfl zm ?_;refine .bif (t':=21) rfl (fun wh=>?_) (fun wh=>?_)
   ·refine .F 4 rfl (.F 5 rfl ?_);refine .F 6 rfl (.F 7 rfl (.F 8 rfl (.F 9 rfl (.F 10 rfl (.F 11 rfl (.F 12 rfl (.F 13 rfl (.F 14 rfl (.F 15 rfl (.F 16 rfl (.F 17 rfl (.zw 18 rfl zpT ?_))))))))))));refine .D hs ?_;exact (.cT (.ae (.zn zg (.ret (rB (rT (rB (rT (Fin.bp results118 rfl ⟨_,rfl,.inr ⟨fun h=>by have:=Cy.2 (h.leg k hk).1;simp_all,rfl⟩,hs.out⟩)))))))))
   ·refine .zw 4 rfl zm ?_;refine .z 5 rfl q5 ?_;refine .z 6 rfl zm ?_;refine .mW (t':=24) rfl (fun El=>?_) (fun El=>?_)
    ·refine .zw 7 rfl (zfa lX) ?_;refine .y 8 rfl hs ai ?_;refine .z 9 rfl (zfa dj) ?_;refine .y 10 rfl hs kY ?_;refine .z 11 rfl zm ?_;refine .z 12 rfl iw ?_;refine .ixX (enc:=Lg.c) (i:=13) hs rfl au (.some rfl rfl) h1 rfl rfl bN bI AP aj ?_;intro Hu o31 oQ;refine .zw 14 rfl (zfa kx) (.r (i:=15) hs rfl au (.some rfl rfl) (aP rfl ai (oQ.get 2 rfl)) ?_);refine .zw 16 rfl jt ?_;refine .z 17 rfl zpT ?_;refine .z 18 rfl zpF ?_;refine .D hs ?_;refine (.bX rfl (fun wc=>?_) (fun wc=>?_))
     ·exact .ae (.zn zg (.ret (rB (rT (rB (rT (Fin.bp results118 rfl ⟨_,rfl,.inr ⟨fun h=>by have:=(h.leg k hk).2 aj;omega,rfl⟩,hs.out⟩)))))))
     ·refine .skip (nB (nT ?_));first
      |exact .mk ⟨rfl,fun j hj=>by
        by_cases e:j=k
        ·subst e;exact ⟨Cy.1 (by simp_all),fun _=>by omega⟩
        ·exact fF j aj,hs.tail⟩
    ·refine .F 7 rfl (.F 8 rfl (.F 9 rfl (.F 10 rfl (.F 11 rfl (.F 12 rfl (.F 13 rfl (.F 14 rfl (.F 15 rfl (.F 16 rfl (.zw 17 rfl zpF ?_))))))))));refine .z 18 rfl zpF ?_;refine .D hs ?_;refine (.cF (.skip (nB (nT ?_))));first
     |exact .mk ⟨rfl,fun j hj=>by
       by_cases e:j=k
       ·subst e;exact ⟨Cy.1 (by simp_all),fun _=>by omega⟩
       ·exact fF j aj,hs.tail⟩
  ·rintro fr w ⟨rfl,fF,hs⟩;exact nT (.ae (.zn zg (.ret (Fin.bp results118 rfl ⟨_,rfl,.inl ⟨⟨Q5,fF⟩,rfl⟩,hs.out⟩))))
theorem OX{P:Program}{s:FS}{t ju:TypeId}{x y:Operand}{p:Int}(hx:FS.ev s x=some (.int .u64 p))(hy:FS.ev s y=some (.int .u64 1)):QJ P H σ s (.binOp .shr t x y ju) (.int .u64 (p/2)):=by
 have h1:=Fx (P:=P) (H:=H) (σ:=σ) (t:=t) (ju:=ju) hx hy aj;have h2:p.fdiv (2 ^min (1:Int).toNat IntKind.u64.bits)=p/2:=by
  have:(2:Int) ^min (1:Int).toNat IntKind.u64.bits=2:=by decide
  rw [this,Int.fdiv_eq_ediv_of_nonneg _ aj]
 rw [h2] at h1;exact h1
theorem ph{w:World}{n:Nat}{p:Nat→Prop}(hs:St H w σ)(hn:n≤1000000)(hc:∀args w,(callFunc g args).run Tryz.prog w= .ok (.enter g args) w)
  (hp:∀w i,i<n→St H w σ→aaA g ([I (i:Int)]++cap) w fun u w'=>∃b,u= .bool b∧(b=true↔p i)∧St H w' σ):
  aaA 199 [I (n:Int),.func (.func g) #[] cap.toArray] w fun u w'=>∃k:Nat,u=I (k:Int)∧k≤n∧(0<k→¬p (k - 1))∧(k<n→p k)∧St H w' σ:=by
 refine Cl.o func199 ntmps199 ag2 ?_;refine .ae (.zn zg (.ae (.z zm (.z zg (.zn zg (.seq (.block ?_)))))));refine .loop (fun q:Nat×Nat=>⟨26,[],[(6,I (q.2:Int)),(5,I (q.1:Int)),(1,.func (.func g) #[] cap.toArray)]⟩)
  (fun q w=>(q.1≤q.2∧q.2≤n)∧(0<q.1→¬p (q.1 - 1))∧(q.2<n→p q.2)∧St H w σ) (fun q=>q.2 - q.1) (0,n) bk
  ⟨⟨Nat.zero_le _,Nat.le_refl _⟩,fun h=>by omega,fun h=>by omega,hs⟩ ?_
 rintro ⟨i,j⟩ w ⟨⟨IA,TP⟩,Da,Pp,hs⟩;dsimp only at IA TP Da Pp ⊢;refine .seq (.ae (.z zm (.z zm (.zn jt (.bX rfl (fun ta=>?_) (fun ta=>?_))))))
 ·refine .skip (nT (.block (.ae (.z zm (.z zm (.z cz (.q hs (yU rfl aF dG ⟨aj,aj⟩) (.q hs (OX rfl rfl) ?_))))))));rw [show ((i:Int)+(j:Int))/2=(((i+j)/2:Nat):Int) by omega];refine .q hs (yV rfl dG aF ⟨aj,aj⟩) (.zn zg (.ae (.z zm (.z zm (.o (.ng (first:=[]) rfl rfl hc (hp _ ((i+j)/2) aj hs) ?_))))));rintro _ w ⟨PV,rfl,N7,hs⟩;refine .zn im (.cond rfl (fun kf=>?_) (fun kf=>?_))
  ·exact .region (.z zm (.z cz (.zn zg (nB (nT ⟨((i+j)/2+1,j),.dP rfl br bk,⟨⟨by dsimp only;omega,TP⟩,fun _ h=>(by rw [N7.2 (by simpa using h)] at kf;cases kf),Pp,hs⟩,by dsimp only;omega⟩)))))
  ·exact .region (.z zm (.zn zg (nB (nT ⟨(i,(i+j)/2),.dP rfl br bk,⟨⟨by dsimp only;omega,by dsimp only;omega⟩,Da,fun _=>N7.1 (by simpa using kf),hs⟩,by dsimp only;omega⟩))))
 ·refine .exit (xT (xT (xB (nT (.ae (.z zm (.zn zg (.ret (Fin.bp results199 rfl ?_)))))))));obtain rfl:i=j:=by omega
  exact ⟨i,rfl,TP,Da,Pp,hs⟩
theorem qk{w:World}(hs:St H w (.blk b [I l.length,I l.depth,vt,vs]::σ))(h1:RFb H vt l.table)(hi:i<l.table.length):
  aaA 200 [I (i:Int),Pt b] w fun u w'=>∃bb:Bool,u= .bool bb∧(bb=true↔l.length≤(fb0 l.table i).len)∧St H w' (.blk b [I l.length,I l.depth,vt,vs]::σ):=by
 obtain ⟨at_,ct,rfl⟩:=h1.shape;refine Cl.o func200 ntmps200 ag2 ?_;refine .ae (.zn zg (.seq (.draw mix rfl hs fun w hs=>?_)));refine .zw 0 rfl (zfa dU) ?_;refine .y 1 rfl hs Bc ?_;refine .z 2 rfl zm ?_;refine .ixX (enc:=Fbd.c) (i:=3) hs rfl au .none h1 rfl rfl eH gN (zM hi) dD ?_;intro b7 o7 XG;refine .zw 4 rfl (zfa dM) (.r (i:=5) hs rfl au .none (aP rfl ai (XG.get 0 rfl)) ?_);refine .zw 6 rfl (zfa lC) ?_;refine .y 7 rfl hs ai ?_;refine .z 8 rfl Bd ?_;refine .z 9 rfl zg ?_;refine .D hs ?_;exact .ret (Fin.bp results200 rfl ⟨_,rfl,br,hs⟩)
theorem sd{w:World}{d:Int}(hs:St H w σ)(hd:1≤d)(ha: -4608000000000000000≤a∧a≤4608000000000000000):
  aaA 126 [I a,I d] w fun v w'=>v=I (a/d)∧St H w' σ:=by
 have hq:=VV hd ha;have G3:=xZ (n:=a) (d:=d) aj;refine Cl.o func126 ntmps126 ag2 ?_;refine .ae (.zn zg (.ae (.z zm (.z zm (.q hs (DK rfl rfl aj ⟨aj,aj⟩) (.zn zg (.seq (.ae (.z zm (.z zm (.z E2 (.zn jt (.bX rfl (fun gS=>?_) (fun gS=>?_))))))))))))))
 ·refine .region (.z zm (.z iw (.zn zg (nT (.ae (.z zm (.zn zg (.ret (Fin.bp results126 rfl ?_)))))))));rw [if_pos gS] at G3;exact ⟨by rw [G3],hs⟩
 ·refine .skip (nT (.ae (.z zm (.zn zg (.ret (Fin.bp results126 rfl ?_))))));rw [if_neg gS,Int.sub_zero] at G3;exact ⟨by rw [G3],hs⟩
theorem sV{w:World}(hs:St H w σ)(h1:RFb H vt l.table)(hl:nk l):
  aaA 129 [.agg #[I l.length,I l.depth,vt,vs]] w fun u w'=>∃n b,u= .tuple #[I n,.bool b]∧Jd l n b∧St H w' σ:=by
 obtain ⟨at_,ct,rfl⟩:=h1.shape;have hm:=hl.many;have hr:=fun {j i:Nat}=>CE hl.table (j:=j) (i:=i)
 refine Cl.o func129 ntmps129 ag1 ?_;refine .ae (.bx hs fun b1 w hs=>?_);refine .z zg (.zn zg (.ae (.z (zfa dU) (.y hs (zld Bc) (.z (cJ eH) (.q hs (cV (f:=[]) (c:=[_]) rfl rfl) (.o (.call call199 rfl (ph (cap:=[Pt b1]) (p:=fun i=>l.length≤(fb0 l.table i).len) hs aj call200 (fun w i hi hs=>qk hs h1 hi)) ?_))))))));rintro _ w ⟨k,rfl,hk,Da,Pp,hs⟩;have Lf:∀i<l.table.length,k≤i→l.length≤(fb0 l.table i).len:=fun i hi ZG=>by
  by_cases e:i=k
  ·subst e;exact Pp hi
  ·have:=hr (show k<i by omega) hi;have:=Pp aj;omega
 have QW:∀i<k,(fb0 l.table i).len<l.length:=fun i hi=>by
  by_cases e:i=k - 1
  ·subst e;have:=Da aj;omega
  ·have:=hr (show i<k - 1 by omega) aj;have:=Da aj;omega
 refine .zn zg (.seq (.block (.ae (.z zm (.z (zfa dU) (.y hs (zld Bc) (.z (cJ eH) (.z gO (.zn zg (.bX rfl (fun gS=>?_) (fun gS=>?_)))))))))))
 ·exact .ae (.z zg (.zn zg (.ret (rB (rT (Fin.mi results129 rfl rfl ⟨_,_,rfl,.none (fun i hi h=>by have:=QW i aj;omega) (fun i hi h0 h=>by have:=QW i aj;omega),hs.out⟩))))))
 ·refine .seq (.draw mix rfl hs fun w hs=>?_);refine .zw 0 rfl (zfa dU) ?_;refine .y 1 rfl hs Bc ?_;refine .z 2 rfl zm ?_;have rG:k<l.table.length:=by omega
  have hx:=zM rG;have AP:=zM (l:=l.table) (i:=k - 1) aj;refine .ixX (enc:=Fbd.c) (i:=3) hs rfl au .none h1 rfl rfl eH gN hx rfl ?_;intro RM o22 jv;refine .zw 4 rfl (zfa dM) (.r (i:=5) hs rfl au .none (aP rfl ai (jv.get 0 rfl)) ?_);refine .zw 6 rfl (zfa lC) ?_;refine .y 7 rfl hs ai ?_;refine .z 8 rfl gO ?_;refine .z 9 rfl zg ?_;refine .D hs ?_;refine (.bX rfl (fun kI=>?_) (fun kI=>?_))
  ·refine .ae (.z (zfa dU) (.y hs (zld Bc) (.z zm (.ixX (enc:=Fbd.c) hs h1 rfl rfl eH gN hx rfl ?_))));intro Hu o31 oQ;exact .z (zfa gy) (.q hs (aP rfl ai (oQ.get 1 rfl)) (.z zg (.zn zg (.ret (rB (rT (Fin.mi results129 rfl rfl ⟨_,_,rfl,.at_ rG kI,hs.out⟩)))))))
  ·refine .ae (.z zm (.z gO (.zn zg (.bX rfl (fun ma=>?_) (fun ma=>?_)))))
   ·refine .ae (.z zg (.zn zg (.ret (rB (rT (Fin.mi results129 rfl rfl ?_))))));obtain rfl:k=0:=by omega
    exact ⟨_,_,rfl,.none (fun i hi h=>by
     by_cases e:i=0
     ·subst e;exact kI h
     ·have:=hr (show 0<i by omega) hi;have:=Lf 0 rG aj;omega) (fun i hi h0 h=>by have:=Lf (i - 1) aj aj;omega),hs.out⟩
   ·refine .skip (nB (nT (.cut (fun fs w=>∃b5 b6,np fs ⟨69,[],[(6,Pt b6),(5,Pt b5),(1,Pt b1)]⟩∧St H w (.blk b6 (fb0 l.table k).c:: .blk b5 (fb0 l.table (k - 1)).c:: .blk b1 [I l.length,I l.depth,.slice at_ l.table.length ct,vs]::σ)) ?_ ?_)))
    ·refine .draw mix rfl hs fun w hs=>?_
     refine .zw 0 rfl (zfa dU) ?_;refine .y 1 rfl hs Bc ?_;refine .z 2 rfl zm ?_;refine .z 3 rfl iw ?_;refine .ixX (enc:=Fbd.c) (i:=4) hs rfl au .none h1 rfl rfl eH gN AP aj ?_;intro UH o41 Ei;refine .r (i:=5) hs rfl au .none (bD (vs:=(fb0 l.table (k - 1)).c) rfl isAgg225 gN Ei) ?_;refine .zw 6 rfl (zfa dU) ?_;refine .y 7 rfl hs Bc ?_;refine .z 8 rfl zm ?_;refine .ixX (enc:=Fbd.c) (i:=9) hs rfl au .none h1 rfl rfl eH gN hx rfl ?_;intro aav o46 XL;refine .r (i:=10) hs rfl au .none (bD (vs:=(fb0 l.table k).c) rfl isAgg225 gN XL) ?_;refine .e2 (i:=11) (j:=12) au rfl rfl rfl rfl .none .none hs ?_ ?_
     ·refine .alloc hs uU rfl ?_;intro b5 w hs;refine .go (.E 12 hs ?_);refine .alloc hs uU rfl ?_;intro b6 w hs;refine .go (.E 13 hs ?_);refine .aD (vs:=(fb0 l.table (k - 1)).c) hs rfl rfl gN ?_;intro w hs;refine .go (.E 14 hs ?_);refine .aD (vs:=(fb0 l.table k).c) hs rfl rfl gN ?_;intro w hs;exact .go (.D hs (nT ⟨b5,b6,bk,hs.sb⟩))
     ·refine .alloc hs uU rfl ?_;intro b6 w hs;refine .go (.E 11 hs ?_);refine .alloc hs uU rfl ?_;intro b5 w hs;refine .go (.E 13 hs ?_);refine .aD (vs:=(fb0 l.table (k - 1)).c) hs rfl rfl gN ?_;intro w hs;refine .go (.E 14 hs ?_);refine .aD (vs:=(fb0 l.table k).c) hs rfl rfl gN ?_;intro w hs;exact .go (.D hs (nT ⟨b5,b6,bk,hs.sb⟩))
    ·rintro fs w ⟨b5,b6,i7,hs⟩;refine WE.sub ?_ i7;clear i7;change St _ _ (.blk b6 [I (fb0 l.table k).len,I (fb0 l.table k).least]:: .blk b5 [I (fb0 l.table (k - 1)).len,I (fb0 l.table (k - 1)).least]::_) at hs;have h3:=QW (k - 1) aj;have h4:l.length<(fb0 l.table k).len:=by have:=Lf k rG (Nat.le_refl _);omega
     have hX:=Lw hl rG h3 h4;have a1:=hl.table (k - 1) aj;have a2:=a1.len;have a3:=a1.least;have b2:=(hl.table k rG).len;have b3:=(hl.table k rG).least;have hL:=hl.length;refine .seq (.draw mix rfl hs fun w hs=>?_);refine .zw 0 rfl (zfa gy) ?_;refine .y 1 rfl hs ai ?_;refine .z 2 rfl (zfa gy) ?_;refine .y 3 rfl hs ai ?_;refine .z 4 rfl iw ?_;refine .z 5 rfl (zfa lC) ?_;refine .y 6 rfl hs ai ?_;refine .z 7 rfl (zfa dM) ?_;refine .y 8 rfl hs ai ?_;refine .z 9 rfl iw ?_;refine .zw 10 rfl nf ?_;refine .z 11 rfl (zfa dM) ?_;refine .y 12 rfl hs ai ?_;refine .z 13 rfl (zfa dM) ?_;refine .y 14 rfl hs ai ?_;refine .z 15 rfl iw ?_;refine .z 18 rfl (zfa gy) ?_;refine .y 19 rfl hs ai ?_;refine .E 16 hs ?_;refine .call call126 rfl (sd hs aj aj) ?_;rintro _ w ⟨rfl,hs⟩;refine .go (.zw 17 rfl Md ?_);refine .z 20 rfl cz ?_;refine .z 21 rfl zg ?_;refine .z 22 rfl zg ?_;refine .D hs ?_;refine .ret (Fin.mi results129 rfl rfl ?_);have TG:=Jd.mid rG aj h3 h4;unfold Lx at TG;exact ⟨_,_,rfl,(by rw [show ∀a b:Int,-a+b=b - a from fun a b=>by omega];exact TG),hs.out⟩
theorem y8{w:World}{d:Int}(hs:St H w σ)(h:0≤d):aaA 202 [I d] w fun v w'=>v=I (1+d%365)∧St H w' σ:=by
 have e:d.tmod 365=d%365:=Int.tmod_eq_emod_of_nonneg h;refine Cl.o func202 ntmps202 ag1 ?_;refine .ae (.zn zg (.ae (.z zm (.z E2 ?_))));rw [e];exact .z cz (.zn zg (.ret (Fin.bp results202 rfl ⟨rfl,hs⟩)))
theorem AH{w:World}{s:Ssn}{d:Int}(hs:St H w σ):aaA 203 [.agg #[I s.zone,I s.fr,I s.to,I s.extra],I d] w fun v w'=>v= .bool (decide (EO s d))∧St H w' σ:=by
 refine Cl.o func203 ntmps203 ag2 ?_;refine .ae (.bx hs fun b2 w hs=>?_);refine .zn zg (.seq (.ae (.z (zfa kN) (.y hs (zld ai) (.z (zfa kM) (.y hs (zld ai) (.zn q5 (.bX rfl (fun nP=>?_) (fun nP=>?_)))))))))
 ·refine .ae (.z zm (.z (zfa kN) (.y hs (zld ai) (.z Bd (.z zm (.mW (t':=14) rfl (fun Li=>?_) (fun Li=>?_)))))))
  ·refine .Fs 4 4 false (.z zpT (.zn zg (.ret (rT (Fin.bp results203 rfl ⟨?_,hs.out⟩)))))
   congr 1
   have e:¬s.fr≤s.to:=by omega
   simp only [EO,if_neg e]
   symm
   simp [*]
  ·refine .T (.z zm (.T (.z (zfa kM) (.T (.y hs (zld ai) (.T (.z rl (.z zpF (.zn zg (.ret (rT (Fin.bp results203 rfl ⟨?_,hs.out⟩))))))))))))
   congr 1
   have e:¬s.fr≤s.to:=by omega
   simp only [EO,if_neg e];simp [*]
 ·refine .skip (nT (.ae (.z zm (.z (zfa kN) (.y hs (zld ai) (.z (zfa kM) (.y hs (zld ai) (.o (.call nW rfl (bY hs) ?_)))))))));rintro _ w ⟨rfl,hs⟩;refine .zn zg (.ret (Fin.bp results203 rfl ⟨?_,hs.out⟩))
  congr 1
  have e:s.fr≤s.to:=by omega
  simp only [EO,if_pos e]
theorem y7{w:World}{z d:Int}(hs:St H w σ)(h2:RSn H vs l.seasons)(hl:nk l):
  aaA 131 [.agg #[I l.length,I l.depth,vt,vs],I z,I d] w fun v w'=>v=I (qM l.seasons z d)∧St H w' σ:=by
 obtain ⟨cn,cs,rfl⟩:=h2.shape;have hm:=hl.most;refine Cl.o func131 ntmps131 ag3 ?_;refine .ae (.bx hs fun b3 w hs=>?_);refine .zn zg (.ae (.zn zg (.seq (.ae (.z (zfa jL) (.y hs (zld isAgg88) (.z (cJ kW) (.zn zm (.for (N:=l.seasons.length) (J:=fun k fr w=>fr=[(7,I (qM (l.seasons.take k) z d)),(11,.slice cn l.seasons.length cs),(1,I z),(2,I d)]∧St H w σ) aj ?_ ?_ ?_)))))))))
 ·exact .mk ⟨rfl,hs.out⟩
 ·rintro k fr w hk ⟨rfl,hs⟩;obtain ⟨s,hx⟩:=nth hk;have hE:=zN (l.seasons.take k) s z d;rw [←dv hx] at hE;refine .block (.ae (.ixX (enc:=Ssn.c) hs h2 rfl rfl kW uQ hx dD ?_));intro Df o15 iL;refine .q hs (bD (vs:=(Ssn.c s)) rfl isAgg227 uQ iL) (.o (.alloc hs SE rfl fun b9 w hs=>?_));refine .o (.aD (vs:=s.c) hs rfl rfl uQ fun w hs=>?_);change St _ _ (.blk b9 [I s.zone,I s.fr,I s.to,I s.extra]::_) at hs;refine .nil (.ae (.z (zfa qK) (.y hs (zld ai) (.z zm (.z gO (.z zm (.mW (t':=21) rfl (fun wh=>?_) (fun wh=>?_))))))))
  ·refine .T (.y hs (zls [_,_,_,_] isAgg227 uQ) (.T (.z zm (.T (.o (.call call203 rfl (AH (s:=s) hs) ?_))))));rintro _ w ⟨rfl,hs⟩;refine .zn zpT (.cond rfl (fun kA=>?_) (fun kA=>?_))
   ·refine .region (.z zm (.z (zfa qJ) (.y hs (zld ai) (.z HM (.zn zg (nB (nT ?_)))))));rw [if_pos ⟨by assumption,by simpa using kA⟩] at hE;exact .mk ⟨by rw [hE],hs.out⟩
   ·refine .skip (nB (nT ?_));rw [if_neg (fun h=>of_decide_eq_false kA h.2)] at hE;exact .mk ⟨by rw [hE],hs.out⟩
  ·refine .Fs 3 4 true (.zn zpF (.cF (.skip (nB (nT ?_)))));rw [if_neg (fun h=>by have:=h.1;contradiction)] at hE;exact .mk ⟨by rw [hE],hs.out⟩
 ·rintro fr w ⟨rfl,hs⟩;rw [List.take_length];exact nT (.ae (.z zm (.zn zg (.ret (Fin.bp results131 rfl ⟨rfl,hs⟩)))))
theorem vP{w:World}{s:Spc}{vst vwa:Value}{h:Int}{c:Nat}(hs:St H w (.blk c [I h]:: .blk b [I s.id,I s.src,vst,vwa,I s.al,I s.up]::σ))(h2:RI H vwa s.wa)(hi:i<s.wa.length)(bh:fm s):
  aaA 204 [I (i:Int),Pt b,Pt c] w fun u w'=>∃bb:Bool,u= .bool bb∧(bb=true↔h<gi s.wa i - gi s.wa 0)∧St H w' (.blk c [I h]:: .blk b [I s.id,I s.src,vst,vwa,I s.al,I s.up]::σ):=by
 obtain ⟨awa,cwa,rfl⟩:=RI.shape h2;have b1:=bh.wa.bd hi;have b2:=bh.wa.bd (i:=0) aj;refine Cl.o func204 ntmps204 ag3 ?_;refine .ae (.zn zg (.seq (.draw mix rfl hs fun w hs=>?_)));refine .zw 0 rfl (zfa bg) ?_;refine .y 1 rfl hs an ?_;refine .z 2 rfl zm ?_;refine .ixX (enc:=fun x=>[I x]) (i:=3) hs rfl au .none h2 rfl rfl af ak (bG (l:=s.wa) (i:=i) aj) dD ?_;intro b8 o8 Db;replace Db:=bE.one Db;refine .r (i:=4) hs rfl au .none (aP rfl ai Db) ?_;refine .zw 5 rfl (zfa bg) ?_;refine .y 6 rfl hs an ?_;refine .ixX (enc:=fun x=>[I x]) (i:=7) hs rfl au .none h2 rfl rfl af ak (bG (l:=s.wa) (i:=0) aj) dD ?_;intro rP o12 gS;replace gS:=bE.one gS;refine .r (i:=8) hs rfl au .none (aP rfl ai gS) ?_;refine .zw 9 rfl iw ?_;refine .y 10 rfl hs ai ?_;refine .z 11 rfl q5 ?_;refine .z 12 rfl zg ?_;refine .D hs ?_;exact .ret (Fin.bp results204 rfl ⟨_,rfl,br,hs⟩)
theorem y9{w:World}{s:Spc}{vst vwa:Value}{h:Int}(hs:St H w σ)(h2:RI H vwa s.wa)(bh:fm s):
  aaA 132 [.agg #[I s.id,I s.src,vst,vwa,I s.al,I s.up],I h] w fun u w'=>∃k,u=I k∧P2 s.wa h k∧St H w' σ:=by
 obtain ⟨awa,cwa,rfl⟩:=RI.shape h2;have hm:=bh.wa.many;have hr:=fun {i j:Nat}=>bh.wa.le (i:=i) (j:=j)
 refine Cl.o func132 ntmps132 ag2 ?_;refine .ae (.bx hs fun b2 w hs=>?_);refine .bx hs fun b3 w hs=>?_
 refine .zn zg (.ae (.z (zfa bg) (.y hs (zld an) (.z (cJ af) (.q hs (cV (f:=[]) (c:=[_,_]) rfl rfl) (.o (.call call199 rfl (ph (cap:=[Pt b2,Pt b3]) (p:=fun i=>h<gi s.wa i - gi s.wa 0) hs aj call204 (fun w i hi hs=>vP hs h2 hi bh)) ?_)))))));rintro _ w ⟨k,rfl,hk,Da,Pp,hs⟩;refine .z iw (.zn zg (.ret (Fin.bp results132 rfl ⟨_,rfl,⟨aj,aj,fun i hi=>⟨fun g=>?_,fun g=>?_⟩⟩,hs.out⟩)))
 ·by_cases e:(i:Int)≤k - 1
  ·exact e
  ·have h3:=Pp aj;have:=hr (show k≤i by omega) hi;omega
 ·have h3:=Da aj;have:=hr (show i≤k - 1 by omega) aj;omega
end Go.Proofs.YtlgfjghdgbhkhaaGreat
