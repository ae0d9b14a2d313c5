/-
  Texts of these claims, joined: Yc Yd Ye Yf Yq Za Zb Zc Zd Ze Zf Zg Zh Zi Zj Zk Zl Zm Zn Zo Zp.
-/
import Derived.Test.YteajddicacjkhaaGreatKc
import Derived.Lib.RowBridge
namespace Go.Proofs.YteajddicacjkhaaGreat
open Go.MW Tryz
variable{H:cK}{σ:List Ent}{a0 a1 a2 m most a hi lo f d e z1 z2 z3:Int}{l:Lns}{ls:List Lim}{g b k bf bt bl cl i j bm:Nat}{cap sp:List Value}{s:Spc}{xs ts lf ws L X Y l1 l2 sl pk:List Int}{en:Ent}{vl vt vp vw vm vb v1 v2 cU cO vr vc vh vs v5 v4 gZ:Value}{Ms rows:List (List Int)}{us:List Use}{x:Lg}{t:TD}{high:Bool}{iB:List F5}{iP:List F4}
theorem yO{w:World}{v:Value}{ls:List Int}{x:Int}(hs:St H w σ)(hr:RI H v ls):
  ab8 305 [v,I x] w fun u w'=>∃i,u=I i∧(0≤i↔x∈ls)∧St H w' σ:=by
 obtain ⟨a,c,rfl⟩:=RI.shape hr;have hl:=(RI.len hr).2.2;refine Cl.o func305 ntmps305 ag2 ?_;refine .af (.zn zg (.seq (.af (.z zm (.z (dk ae) (.zn zm (.for (N:=ls.length) (J:=fun k fr w=>fr=[(1,I x),(0,.slice a ls.length c)]∧St H w σ∧∀j<k,∀y,ls[j]? =some y→¬x=y) ai ?_ ?_ ?_)))))))
 ·exact .mk ⟨rfl,hs,fun j hj=>by omega⟩
 ·rintro k fr w hk ⟨rfl,hs,fa⟩;obtain ⟨y,hy⟩:=nth hk;refine .block (.af (.z zm (.zn zg (.af (.z zm (.z zm (.z zm (.ixY hs hr rfl rfl ae ak hy rfl ?_))))))));intro sF o14 kE;refine .q hs (aF rfl aj kE) (.zn fJ (.bA rfl (fun dY=>?_) (fun dY=>?_)))
  ·exact .af (.z zm (.zn zg (.ret (rB (rT (rB (rT (Fin.bu results305 rfl ⟨_,rfl,⟨fun _=>by rw [dY];exact List.mem_of_getElem? hy,fun _=>by omega⟩,hs⟩))))))))
  ·exact .skip (nB (nT (.mk ⟨rfl,hs,fW fa hy dY⟩)))
 ·rintro fr w ⟨rfl,hs,fa⟩;refine nT (.af (.zn zg (.ret (Fin.bu results305 rfl ?_))));exact ⟨_,rfl,⟨fun h=>by omega,fun h=>by
   obtain ⟨j,hj⟩:=List.getElem?_of_mem h;exact (fa j (List.getElem?_eq_some_iff.1 hj).1 x hj rfl).elim⟩,hs⟩
theorem tV{w:World}{v:Value}{ls:List Int}{x:Int}(hs:St H w σ)(hr:RI H v ls):
  ab8 294 [v,I x] w fun u w'=>u= .bool (decide (x∈ls))∧St H w' σ:=by
 refine Cl.o func294 ntmps294 ag2 ?_;refine .af (.zn zg (.af (.z zm (.z zm (.o (.call call305 rfl (yO hs hr) ?_))))));rintro _ w ⟨i,rfl,hi,hs⟩;exact .z tN (.zn zg (.ret (Fin.bu results294 rfl ⟨by simp only [hi],hs⟩)))
set_option maxHeartbeats 1000000 in
theorem Bi{w:World}{v:Value}{s:dz}(q:Nat→Lim→Bool)(hs:St H w σ)(hr:RSy H v s)(hlen:s.dt.length≤4398046510976)(hc:∀args w,(callFunc g args).run Tryz.prog w= .ok (.enter g args) w)
  (hp:∀w σ (k:Nat) (l:Lim),s.dt[k]? =some l→St H w σ→ab8 g ([I k,.agg l.c.toArray]++cap) w fun u w'=>u= .bool (q k l)∧St H w' σ):
  ab8 292 [v,.func (.func g) #[] cap.toArray] w fun u w'=>∃H1,HLe H H1∧RSy H1 u ⟨s.many,ni q s.dt s.dt.length⟩∧St H1 w' σ:=by
 obtain ⟨ul,rfl,hl⟩:=hr;obtain ⟨al,cl,rfl⟩:=RL.shape hl;refine Cl.o func292 ntmps292 ag2 ?_;refine .af (.bx hs fun b2 w hs=>?_);refine .o (.alloc hs fb rfl fun b4 w hs=>?_);refine .nil (.af (.z (zfa cz) (.y hs (zld aj) (.z (zbd [_,_] kL) (.o (.alloc hs fb rfl fun b5 w hs=>?_))))));refine .o (.aJ (vs:=[_,_]) hs rfl rfl aQ fun w hs=>?_);refine .nil (.seq (.af (.z (zfa cn) (.y hs (zld fc) (.z (dk bj) (.zn zm (.for (N:=s.dt.length) (J:=fun k fr w=>fr=[(12,.slice al s.dt.length cl),(1,.func (.func g) #[] cap.toArray),(5,Pt b5),(4,Pt b4)]∧∃vL en,dj 4 vL (jJ (ni q s.dt k)) en∧St H w (.blk b5 [I s.many,vL]:: .blk b4 [I 0,.slice none 0 0]::en::σ)) ai ?_ ?_ ?_)))))))
 ·exact .mk ⟨rfl,_,_,.nil 4 none,hs.nul.sb⟩
 ·rintro k fr w hk ⟨rfl,vL,en,hO,hs⟩;obtain ⟨x,hx⟩:=nth (l:=s.dt) hk;obtain ⟨aL,lL,cL,rfl,hL⟩:=hO.shape;have Kj:=qc q s.dt k;refine .block (.af (.z zm (.ixX hs hl rfl rfl bj cD hx rfl ?_)));intro J2 o17 i7;refine .q hs (cj (vs:=x.c) rfl kT cD i7) (.o (.alloc hs gz rfl fun b7 w hs=>?_));refine .z zg (.o (.aJ (vs:=x.c) hs rfl rfl cD fun w hs=>?_));refine .nil (.af (.z zm (.z zm (.y hs (zls [_,_,_,_] kT cD) (.o (.sw (first:=[]) (cap:=cap) rfl rfl hc (hp _ _ k x hx hs) ?_))))));rintro _ w ⟨rfl,hs⟩;refine .nil (.cond rfl (fun jV=>?_) (fun jV=>?_))
  ·refine .region (.z (zfa cn) (.y hs (zld fc) (.y hs (zls [_,_,_,_] kT cD) (.o (.buildSlice (cells:=x.c) hs wD rfl rfl fun Tk w hs=>?_)))));refine .o (.append (ys:=x.c) hs dx rfl rfl hO (.own .here rfl rfl) (by simp [Lim.c,Value.oneCell']) (fun l h=>by rw [fI] at h;omega) ?_);intro v27 en27 w eG hs;obtain ⟨a27,l27,c27,rfl,h27⟩:=eG.shape;refine .z (zfa cn) (.o (.store hs rfl rfl sizeOf175 fun w hs=>?_));refine .nil (nB (nT ?_));have e:ni q s.dt (k+1)=ni q s.dt k++[x]:=by rw [ud hx,if_pos jV]
   rw [←Pr,←kh,←e] at eG;exact .mk ⟨rfl,_,_,eG,hs.sb⟩
  ·refine .skip (nB (nT ?_));have e:ni q s.dt (k+1)=ni q s.dt k:=by rw [ud hx,jV];simp
   exact .mk ⟨rfl,_,_,by rw [e];exact hO,hs.sb⟩
 ·rintro fr w ⟨rfl,vL,en,hO,hs⟩;obtain ⟨aL,lL,cL,rfl,hL⟩:=hO.shape;have Kj:=qc q s.dt s.dt.length;refine nT (.af (.y hs (zls [_,_] bT aQ) (.o (.aJ (vs:=[_,_]) hs rfl rfl aQ fun w hs=>?_))));refine .nil (.ret ?_);obtain ⟨H1,g1,r1,hs⟩:=dj.dn (m:=4) (cs:=(ni q s.dt s.dt.length).map Lim.c) hO (fun c hc=>by simp only [List.mem_map] at hc;obtain ⟨x,_,rfl⟩:=hc;rfl) ai (by rw [List.length_map];omega) hs dC;exact Fin.iG [] [] hs fun w hs=>⟨_,results1 results292 (dm (vs:=[_,_]) hs rfl bT aQ),H1,g1,⟨_,rfl,r1⟩,hs.out⟩
theorem Bj{w:World}{i:Int}{l:Lim}{bs:List Int}(hs:St H w σ)(hb:Row H b [vb])(hr:RI H vb bs):
  ab8 293 [I i,.agg l.c.toArray,Pt b] w fun u w'=>u= .bool (!decide (l.S∈bs))∧St H w' σ:=by
 have FE:cellAt H b 0=some vb:=by rw [hb.cell];rfl
 refine Cl.o func293 ntmps293 ag3 ?_;refine .af (.bx hs fun b4 w hs=>?_);refine .zn zg (.af (.y hs (zld an) (.z (zfa mn) (.y hs (zld aj) (.o (.call call294 rfl (tV hs hr) ?_))))));rintro _ w ⟨rfl,hs⟩;exact .z fE (.zn zg (.ret (Fin.bu results293 rfl ⟨rfl,hs.out⟩)))
theorem wB{w:World}{v:Value}{s:dz}{bs:List Int}(hs:St H w σ)(hr:RSy H v s)(hb:RI H vb bs)(hlen:s.dt.length≤4398046510976):
  ab8 266 [v,vb] w fun u w'=>∃H1,HLe H H1∧RSy H1 u (s.wo bs)∧St H1 w' σ:=by
 obtain ⟨ul,rfl,hl⟩:=hr;obtain ⟨al,cl,rfl⟩:=RL.shape hl;obtain ⟨ab,cb,rfl⟩:=RI.shape hb;refine Cl.o func266 ntmps266 ag2 ?_;refine .af (.bx hs fun b2 w hs=>?_);refine .bx hs fun b3 w hs=>?_
 refine .o (.alloc hs fb rfl fun b4 w hs=>?_);refine .nil (.af (.y hs (zls [_,_] bT aQ) (.q hs (dZ (f:=[]) (c:=[_]) rfl rfl) ?_)));obtain ⟨H1,az,r3,hs⟩:=hs.dn (b:=b3) dC;refine .o (.call call292 rfl (Bi (g:=293) (cap:=[Pt b3]) (s:=s) (fun _ l=> !decide (l.S∈bs)) hs ⟨_,rfl,hl.mono az⟩ hlen call293 (fun w σ k l _ hs=>Bj hs r3 (hb.mono az))) ?_);rintro _ w ⟨H2,bp,⟨u7,rfl,Zq⟩,hs⟩;rw [Ju] at Zq;obtain ⟨a7,c7,rfl⟩:=RL.shape Zq;refine .o (.aJ (vs:=[_,_]) hs rfl rfl aQ fun w hs=>?_);exact .nil (.ret (Fin.iG [] [] hs fun w hs=>⟨_,results1 results266 (dm (vs:=[_,_]) hs rfl bT aQ),H2,az.trans bp,⟨_,rfl,Zq⟩,hs.out⟩))
theorem As{w:World}{cap:Nat}(hs:St H w (.blk b (Is xs++sp)::σ))(hl:xs.length≤17592186044416):
  ab8 303 [.slice (some ⟨b,0,none⟩) xs.length cap] w fun u w'=>u= .tuple #[]∧St H w' (.blk b (Is (xs.mergeSort fun x y=>decide (x≤y))++sp)::σ):=
 (NJ b 0 cap xs w hs.holds (hs.lt .here) ai).mono fun e w' ⟨he,m,os,hw⟩=>⟨_,he,rfl,by
  rw [hw];exact (hs.putRow (List.length_mergeSort _)).grow os⟩
theorem yN{w:World}{a:Option Addr}{cap:Nat}(hs:St H w σ):
  ab8 303 [.slice a 0 cap] w fun u w'=>u= .tuple #[]∧St H w' σ:=
 (Di a cap w).mono fun e w' ⟨he,hw⟩=>⟨_,he,rfl,by rw [hw];exact hs⟩
theorem u4{w:World}{cap:Nat}(hs:St H w (.blk b (Is xs++sp)::σ))(hl:xs.length≤17592186044416)(vX:xs.length≤cap):
  ab8 304 [.slice (some ⟨b,0,none⟩) xs.length cap] w fun u w'=>u= .slice (some ⟨b,0,none⟩) (Go.Lib.compact xs).length cap∧St H w' (.blk b (Is (Go.Lib.compact xs)++(Is (List.replicate (xs.length - (Go.Lib.compact xs).length) 0)++sp))::σ):=
 (Gz b 0 cap xs w hs.holds ai vX).mono fun e w' ⟨he,m,hw⟩=>⟨_,he,rfl,by
  rw [hw];have h:=Go.Lib.compact_length_le xs;have:=hs.putRow (m:=m) (ys:=Go.Lib.compact xs++List.replicate (xs.length - (Go.Lib.compact xs).length) 0) (by simp;omega);have e2:Is (Go.Lib.compact xs++List.replicate (xs.length - (Go.Lib.compact xs).length) 0)=Is (Go.Lib.compact xs)++Is (List.replicate (xs.length - (Go.Lib.compact xs).length) 0):=List.map_append;rw [e2,List.append_assoc] at this;exact this⟩
theorem tW{w:World}{a:Option Addr}{cap:Nat}(hs:St H w σ):
  ab8 304 [.slice a 0 cap] w fun u w'=>u= .slice a 0 cap∧St H w' σ:=
 (yM a cap w).mono fun e w' ⟨he,hw⟩=>⟨_,he,rfl,by rw [hw];exact hs⟩
theorem Cc{w:World}{v:Value}(hs:St H w (en::σ))(hO:dj 1 v (Is xs) en)(hl:xs.length≤17592186044416):
  ab8 290 [v] w fun u w'=>∃L l5,dj 1 u (Is L) l5∧L.length≤xs.length∧oe (fun x=>x∈xs) L∧St H w' (l5::σ):=by
 rcases hO with ⟨a,rfl,h0,rfl⟩|⟨b,len,cap,sp,rfl,rfl,h3,h4,h5⟩
 ·have hx:xs=[]:=by simpa using h0
  subst hx;refine Cl.o func290 ntmps290 ag1 ?_;refine .af (.zn zg (.af (.z zm (.o (.call call303 rfl (yN hs) ?_)))));rintro _ w ⟨rfl,hs⟩;refine .nil (.af (.z zm (.o (.call call304 rfl (tW hs) ?_))));rintro _ w ⟨rfl,hs⟩;exact .zn zg (.ret (Fin.bu results290 rfl ⟨[],_,.nil 1 a,bK,.nil bK,hs.out⟩))
 ·obtain rfl:len=xs.length:=by simpa using h3.symm
  refine Cl.o func290 ntmps290 ag1 ?_;refine .af (.zn zg (.af (.z zm (.o (.call call303 rfl (As hs hl) ?_)))));rintro _ w ⟨rfl,hs⟩;refine .nil (.af (.z zm ?_));have Rr:(xs.mergeSort fun x y=>decide (x≤y)).length=xs.length:=List.length_mergeSort _;rw [←Rr];refine .o (.call call304 rfl (u4 hs ai ai) ?_);rintro _ w ⟨rfl,hs⟩;refine .zn zg (.ret (Fin.bu results290 rfl ?_));have uw:=Go.Lib.compact_length_le (xs.mergeSort fun x y=>decide (x≤y));have h4':xs.length+sp.length=cap:=by simpa using h4
  exact ⟨_,_,.inr ⟨b,_,cap,Is (List.replicate ((xs.mergeSort fun x y=>decide (x≤y)).length - (Go.Lib.compact (xs.mergeSort fun x y=>decide (x≤y))).length) 0)++sp,rfl,rfl,bK,by simp;omega,ai⟩,ai,GB,hs⟩
theorem oK{w:World}{v:Value}{s:dz}(hs:St H w σ)(hr:RSy H v s)(hlen:s.dt.length≤4398046510976):
  ab8 264 [v] w fun u w'=>∃L en,dj 1 u (Is L) en∧L.length≤s.dt.length∧oe (Tm s.dt) L∧St H w' (en::σ):=by
 obtain ⟨ul,rfl,hl⟩:=hr;obtain ⟨al,cl,rfl⟩:=RL.shape hl;refine Cl.o func264 ntmps264 ag1 ?_;refine .af (.bx hs fun b1 w hs=>?_);refine .zn zg (.af (.zn zg (.seq (.af (.z (zfa cn) (.y hs (zld fc) (.z (dk bj) (.zn zm (.for (N:=s.dt.length) (J:=fun k fr w=>∃v3 en,dj 1 v3 (Is ((s.dt.take k).map Lim.S)) en∧fr=[(3,v3),(7,.slice al s.dt.length cl)]∧St H w (en::σ)) ai ?_ ?_ ?_)))))))))
 ·exact .mk ⟨_,_,.nil 1 none,rfl,hs.nul.sb⟩
 ·rintro k fr w hk ⟨v3,en,hO,rfl,hs⟩;obtain ⟨x,hx⟩:=nth (l:=s.dt) hk;obtain ⟨a3,l3,c3,rfl,h3⟩:=hO.shape;refine .block (.af (.ixX hs hl rfl rfl bj cD hx rfl ?_));intro yE o11 pM;refine .q hs (cj (vs:=x.c) rfl kT cD pM) (.o (.alloc hs gz rfl fun b5 w hs=>?_));refine .o (.aJ (vs:=x.c) hs rfl rfl cD fun w hs=>?_);refine .nil (.region (.z zm (.z (zfa mn) (.y hs (zld aj) (.o (.buildSlice (cells:=[_]) hs dw rfl rfl fun nD w hs=>?_))))));refine .o (.append (ys:=Is [x.S]) hs df rfl rfl hO (.own .here rfl rfl) (ki _) (fun l' h=>by simp at h;omega) ?_);intro v17 en17 w eG hs;rw [←List.map_append] at eG;exact .zn zg (nB (nT (.mk ⟨_,_,by rw [dX hx,List.map_append];exact eG,rfl,hs.sb⟩)))
 ·rintro fr w ⟨v3,en,hO,rfl,hs⟩;rw [List.take_length] at hO;refine nT (.af (.z zm (.o (.call call290 rfl (Cc hs hO (by rw [List.length_map];omega)) ?_))));rintro v20 w ⟨L,l5,Vg,hL,hR,hs⟩;rw [List.length_map] at hL;exact .zn zg (.ret (Fin.bu results264 rfl ⟨L,l5,Vg,hL,hR.congr fun x=>by simp [Tm],hs⟩))
theorem s7{w:World}{v:Value}(q:Int→Bool)(hs:St H w (en::σ))(hO:dj 1 v (Is xs) en)(hl:xs.length≤17592186044416)(hc:∀args w,(callFunc g args).run Tryz.prog w= .ok (.enter g args) w)
  (hp:∀H' w σ (n:Int),n∈xs→HLe H H'→St H' w σ→ab8 g ([I n]++cap) w fun u w'=>∃H1,HLe H' H1∧u= .bool (q n)∧St H1 w' σ):
  ab8 228 [v,.func (.func g) #[] cap.toArray] w fun u w'=>∃H1 i,HLe H H1∧u=I i∧((i= -1∧∀x∈xs,q x=false)∨(∃(k:Nat) (x:Int),i=k∧xs[k]? =some x∧q x=true∧∀j<k,∀y,xs[j]? =some y→q y=false))∧St H1 w' (en::σ):=by
 obtain ⟨a,c,rfl⟩:=hO.HX;refine Cl.o func228 ntmps228 ag2 ?_;refine .af (.zn zg (.seq (.af (.z zm (.z (dk ae) (.zn zm (.for (N:=xs.length) (J:=fun k fr w=>fr=[(1,.func (.func g) #[] cap.toArray),(0,.slice a xs.length c)]∧∃H1,HLe H H1∧(∀j<k,∀y,xs[j]? =some y→q y=false)∧St H1 w (en::σ)) ai ?_ ?_ ?_)))))))
 ·exact .mk ⟨rfl,H,HLe.refl H,fun j hj=>by omega,hs⟩
 ·rintro k fr w hk ⟨rfl,H1,az,fa,hs⟩;have hx:=bG hk;obtain ⟨b,c',sp,hv,rfl,_⟩:=hO.blk ai;cases hv
  refine .block (.af (.z zm (.zn zg (.af (.z zm (.z zm (.z zm (.z (zix ae ak) (.q hs (eQ rfl aj (hv:=ik hk sp)) (.o (.sw (first:=[]) (cap:=cap) rfl rfl hc (hp _ _ _ (gi xs k) (List.mem_of_getElem? hx) az hs) ?_)))))))))));rintro _ w ⟨H2,bp,rfl,hs⟩;refine .nil (.cond rfl (fun dY=>?_) (fun dY=>?_))
  ·exact .af (.z zm (.zn zg (.ret (rB (rT (rB (rT (Fin.bu Px rfl ⟨H2,_,az.trans bp,rfl,.inr ⟨k,_,rfl,hx,dY,fa⟩,hs⟩))))))))
  ·exact .skip (nB (nT (.mk ⟨rfl,H2,az.trans bp,fW fa hx dY,hs⟩)))
 ·rintro fr w ⟨rfl,H1,az,fa,hs⟩;refine nT (.af (.zn zg (.ret (Fin.bu Px rfl ?_))));exact ⟨H1,_,az,rfl,.inl ⟨rfl,fun x hx=>by
   obtain ⟨j,hj⟩:=List.getElem?_of_mem hx;exact fa j (List.getElem?_eq_some_iff.1 hj).1 x hj⟩,hs⟩
set_option maxHeartbeats 1000000 in
theorem qV{w:World}{v:Value}(q:Int→Bool)(hs:St H w (en::σ))(hO:dj 1 v (Is xs) en)(hl:xs.length≤17592186044416)(hc:∀args w,(callFunc g args).run Tryz.prog w= .ok (.enter g args) w)
  (hp:∀H' w σ (n:Int),n∈xs→HLe H H'→St H' w σ→ab8 g ([I n]++cap) w fun u w'=>∃H1,HLe H' H1∧u= .bool (q n)∧St H1 w' σ):
  ab8 267 [v,.func (.func g) #[] cap.toArray] w fun u w'=>∃H1 l5,HLe H H1∧dj 1 u (Is (xs.filter fun x=> !q x)) l5∧St H1 w' (l5::σ):=by
 obtain ⟨a,c,rfl⟩:=hO.HX;refine Cl.o func267 ntmps267 ag2 ?_;refine .af (.zn zg (.af (.z zm (.z zm (.o (.call call228 rfl (s7 q hs hO hl hc hp) ?_))))));rintro _ w ⟨H1,i0,az,rfl,jk,hs⟩;refine .zn zg (.seq (.af (.z zm (.zn fJ (.bA rfl (fun fk=>?_) (fun fk=>?_))))))
 ·refine .af (.z zm (.zn zg (.ret (rT (Fin.bu results267 rfl ?_)))));have fa:∀x∈xs,q x=false:=by
   rcases jk with ⟨_,h⟩|⟨k,x,h,_⟩
   ·exact h
   ·omega
  have e:xs.filter (fun x=> !q x)=xs:=List.filter_eq_self.2 fun x hx=>by simp [fa x hx]
  exact ⟨H1,en,az,by rw [e];exact hO,hs⟩
 ·refine .skip (nT (.seq (.af (.z zm ?_))));obtain ⟨k0,x0,rfl,Eg,JF,fa⟩:∃(k:Nat) (x:Int),i0=k∧xs[k]? =some x∧q x=true∧∀j<k,∀y,xs[j]? =some y→q y=false:=jk.resolve_left fun h=>fk h.1
  have Gm:=(List.getElem?_eq_some_iff.1 Eg).1;obtain ⟨b,c',sp,hv,rfl,FB⟩:=hO.blk ai;cases hv
  refine .z cV (.zn zg (.block ?_));refine .loop (fun p:Nat×Nat=>⟨42,[],[(5,I (p.1:Int)),(6,I (p.2:Int)),(1,.func (.func g) #[] cap.toArray),(0,.slice (some ⟨b,0,none⟩) xs.length c)]⟩)
   (fun p w=>k0<p.2∧∃Y H1,HLe H H1∧HH q xs Y p.1 p.2∧St H1 w (.blk b (Is Y++sp)::σ))
   (fun p=>xs.length - p.2) (k0,k0+1) (.cons rfl (.da rfl (by dsimp only;omega) aM))
   ⟨by dsimp only;omega,xs,H1,az,.start Eg JF fa,hs⟩ ?_
  clear hs az jk;rintro ⟨i,j⟩ w ⟨aa3,Y,H1,az,hD,hs⟩;dsimp only at aa3 hD ⊢;have U6:=hD.len;have Kn:=hD.le;have xI:=hD.jl;have hilt:=hD.lt Eg JF aa3;refine .seq (.af (.z zm (.z zm (.z (dk ae) (.zn gV (.bA rfl (fun lM=>?_) (fun lM=>?_)))))))
  ·refine .skip (nT (.seq (.block (.af (.z zm (.z zm ?_))))));have hj:j<Y.length:=by omega
   have hx:xs[j]? =some (gi Y j):=by rw [hD.rest j (Nat.le_refl _)];exact bG ai
   refine .z (zix ae ak) (.q hs (eQ rfl aj (hv:=ik hj sp)) (.zn zg (.af (.z zm (.z zm (.o (.sw (first:=[]) (cap:=cap) rfl rfl hc (hp _ _ _ (gi Y j) (List.mem_of_getElem? hx) az hs) ?_)))))));rintro _ w ⟨H2,bp,rfl,hs⟩;refine .zn fE (.cond rfl (fun nR=>?_) (fun nR=>?_))
   ·refine .af (.z zm (.z zm (.z zm (.z (zix ae ak) (.o (.store hs rfl rfl ak ?_ .here (nY (show i<Y.length by omega) sp) (kM (show i<Y.length by omega) sp _)))))));intro w hs;exact .nil (.region (.z zm (.z cV (.zn zg (nB (nT (.region (.z zm (.z cV (.zn zg (nT ⟨(i+1,j+1),.da rfl (by dsimp only;omega) (.da rfl (by dsimp only;omega) aM),⟨by dsimp only;omega,_,H2,az.trans bp,hD.keep hx (by simpa using nR),hs⟩,by dsimp only;omega⟩)))))))))))
   ·exact .skip (nB (nT (.region (.z zm (.z cV (.zn zg (nT ⟨(i,j+1),.cons rfl (.da rfl (by dsimp only;omega) aM),⟨by dsimp only;omega,_,H2,az.trans bp,hD.skip hx (by simpa using nR),hs⟩,by dsimp only;omega⟩)))))))
  ·refine .exit (xT (xT (xB (nT (.af (.z zm (.z zm ?_)))))));obtain rfl:xs.length=j:=by omega
   refine .q hs (ER (k:=i) rfl rfl ae ak ai ai) ?_;rw [show 0+i*1=i by omega];refine .o (.Vv (c:=Is Y++sp) hs rfl ae dA (by simp;omega) ?_);intro w hs;rw [hD.done sp] at hs;have qL:=hD.il;rw [List.take_length] at qL;exact .nil (.af (.z zm (.z zm (.q hs (AL (k:=i) rfl rfl ae ak ai) (.zn zg (.ret (Fin.bu results267 rfl ⟨H1,_,az,.inr ⟨b,i,c,List.replicate (xs.length - i) (I 0)++sp,rfl,rfl,by simp [qL],by simp [←qL];omega,ai⟩,hs⟩)))))))
def Cf(L:List Int):List (List Value):=(List.range L.length).map fun j=>[I ((L.length - 1 - j:Nat):Int),I (gi L (L.length - 1 - j))]
theorem oM(L:List Int):(Cf L).length=L.length:=by simp [Cf]
theorem F2(h:j<(Cf L).length):(Cf L)[j]=[I ((L.length - 1 - j:Nat):Int),I (gi L (L.length - 1 - j))]:=by simp [Cf]
theorem qX{v:Value}(hb:Row H b [v])(hr:RI H v L):Iter Tryz.prog 291 [Pt b] H (Cf L):=by
 intro l II Ix _ _ hy H0 HS σf w hle CI hs;obtain ⟨a,c,rfl⟩:=RI.shape hr;have hlen:=(RI.len hr).2.2;have FE:cellAt H0 b 0=some (.slice a L.length c):=cellAt.mono (hb.at 0) hle;refine Cl.o func291 ntmps291 ag2 ?_;refine .af (.y hs (zld an) (.z (dk ae) (.z gE (.zn zg (.block ?_)))));refine .loop (fun j:Nat=>⟨19,[],[(3,I ((L.length:Int) - 1 - (j:Int))),(0,.func (.yield l) #[] #[]),(1,Pt b)]⟩)
  (fun j w=>j≤L.length∧∃H1 σb,HLe H H1∧HLe H0 H1∧II j H1 σb∧St H1 w (σb++σf)) (fun j=>L.length - j) 0 (.da rfl bK aM)
  ⟨Nat.zero_le _,H0,HS,hle,HLe.refl _,CI,hs⟩ ?_
 clear hs CI;rintro j w ⟨hj,H1,σb,az,gq,hI,hs⟩;have Ej:cellAt H1 b 0=some (.slice a L.length c):=cellAt.mono FE gq;refine .seq (.af (.z zm (.zn tN (.bA rfl (fun B2=>?_) (fun B2=>?_)))))
 ·refine .skip (nT (.seq (.block (.af (.z zm (.z zm (.y hs (zld an) (.z zm (.ixY hs (hr.mono az) rfl rfl ae ak (bG (l:=L) (i:=L.length - 1 - j) ai) ai ?_)))))))));intro Gq o15 fq;refine .q hs (aF rfl aj fq) ?_;have tE:j<(Cf L).length:=by rw [oM];omega
  have BA:=hy j tE H1 σb σf w az hI hs;rw [F2 tE,show ((L.length - 1 - j:Nat):Int)=(L.length:Int) - 1 - (j:Int) by omega] at BA;refine .o (.yield rfl rfl BA ?_);rintro v17 w ⟨H2,σ2,g1,hs,g3⟩;obtain ⟨bb,rfl,gT,gF⟩:=rp g3;refine .zn fE (.cond rfl (fun im=>?_) (fun im=>?_))
  ·exact .ret (rB (rT (rT (rB (Fin.SN results291 ⟨H2,σ2,gq.trans g1,hs,.inr (gF (by simpa using im))⟩)))))
  ·exact .skip (nB (nT (.region (.z zm (.z gE (.zn zg (nT ⟨j+1,.da rfl (by simp;omega) aM,⟨ai,H2,σ2,az.trans g1,gq.trans g1,gT (by simpa using im),hs⟩,ai⟩)))))))
 ·refine .exit (xT (xT (xB ?_)));obtain rfl:L.length=j:=by omega
  exact Fin.FR results291 ⟨H1,σb,gq,hs,.inl (by rw [oM];exact hI)⟩
theorem s8{w:World}{v:Value}(hs:St H w σ)(hr:RI H v L):
  ab8 265 [v] w fun u w'=>∃H1 b,HLe H H1∧u= .func (.func 291) #[] #[Pt b]∧Iter Tryz.prog 291 [Pt b] H1 (Cf L)∧St H1 w' σ:=by
 obtain ⟨a,c,rfl⟩:=RI.shape hr;refine Cl.o func265 ntmps265 ag1 ?_;refine .af (.bx hs fun b1 w hs=>?_);refine .zn zg (.af (.q hs (dZ (f:=[]) (c:=[_]) rfl rfl) (.zn zg (.ret (Fin.bu results265 rfl ?_)))));obtain ⟨H1,g1,g2,hs⟩:=hs.dn .here;exact ⟨H1,b1,g1,rfl,qX g2 (hr.mono g1),hs⟩
theorem zt{w:World}{n:Int}(hs:St H w σ)(hb:Row H b [I m]):
  ab8 268 [I n,Pt b] w fun u w'=>u= .bool (decide (n=m))∧St H w' σ:=by
 have FE:cellAt H b 0=some (I m):=hb.at 0;refine Cl.o func268 ntmps268 ag2 ?_;exact .af (.zn zg (.af (.z zm (.y hs (zld aj) (.z fJ (.zn zg (.ret (Fin.bu results268 rfl ⟨rfl,hs⟩))))))))
set_option maxHeartbeats 1000000 in
theorem uE{w:World}{v:Value}{s:dz}(hs:St H w σ)(hr:RSy H v s):
  ab8 220 [v] w fun u w'=>∃H1 vx out e,HLe H H1∧u= .tuple #[vx,I e]∧RI H1 vx out∧HJ s out e∧St H1 w' σ:=by
 obtain ⟨ul,rfl,hl⟩:=hr;obtain ⟨al,cl,rfl⟩:=RL.shape hl;refine Cl.o func220 ntmps220 ag1 ?_;refine .af (.bx hs fun b1 w hs=>?_);refine .z zg (.zn zg (.seq (.af (.y hs (zls [_,_] bT aQ) (.o (.call call197 rfl (kR (s:=s) hs ⟨_,rfl,hl⟩) ?_))))));rintro _ w ⟨rfl,hs⟩;refine .zn zg (.af (.z zm (.zn fU (.dK rfl (fun fk=>?_) (fun fk=>?_)))))
 ·exact .af (.z zm (.z zg (.zn zg (.ret (rT ((Fin.iG [] [] hs fun w hs=>⟨_,results2 results220 rfl rfl,H,_,[],_,HLe.refl H,rfl,RS.nil H 1 none 0,.bad fk,hs.out⟩)))))))
 ·refine .skip (nT (.seq (.af (.y hs (zls [_,_] bT aQ) ?_))));have aU:s.Ok:=s.dr.1 (by simpa using fk);have wS:=aU.len;refine .o (.call call223 rfl (lT (s:=s) hs aU ⟨_,rfl,hl⟩) ?_);rintro _ w ⟨H1,bb,az,rfl,DM,hs⟩;refine .nil (.cond rfl (fun fq=>?_) (fun fq=>?_))
  ·exact .af (.z zg (.zn zg (.ret (rT ((Fin.iG [] [] hs fun w hs=>⟨_,results2 results220 rfl rfl,H1,_,[],_,az,rfl,RS.nil H1 1 none 0,.none aU (DM.1 fq),hs.out⟩))))))
  ·refine .skip (nT (.af (.y hs (zls [_,_] bT aQ) ?_)));have Uk:¬s.Sound:=fun h=>by rw [DM.2 h] at fq;cases fq
   refine .o (.call call264 rfl (oK (s:=s) hs ⟨_,rfl,hl.mono az⟩ ai) ?_);rintro v17 w ⟨L,en,hO,Vi,Qk,hs⟩;obtain ⟨a17,l17,c17,rfl,h17⟩:=hO.shape;refine .o (.alloc hs ir rfl fun b5 w hs=>?_);refine .o (.store hs rfl rfl aO fun w hs=>?_);refine .nil (.seq (.af (.y hs (zls [_,_] bT aQ) (.o (.call call264 rfl (oK (s:=s) hs ⟨_,rfl,hl.mono az⟩ ai) ?_)))));rintro v19 w ⟨L',l5,Vg,hLl',R6,hs⟩;obtain rfl:L=L':=Qk.uniq R6;obtain ⟨H2,bp,Zj,hs⟩:=dj.eI Vg ai hs .here;refine .o (.call call265 rfl (s8 hs Zj) ?_);rintro _ w ⟨H3,BE,cZ,rfl,ti,hs⟩;have gK:=az.trans (bp.trans cZ);refine .nil (.block ?_);refine .rangeFunc (gf:=291) (cap:=[Pt BE]) (xs:=Cf L) (σb:=[.blk b1 [I s.many,.slice al s.dt.length cl],.blk b5 [.slice a17 l17 c17],en]) (σf:=σ) (hs.sb:St H3 w (.blk b1 _:: .blk b5 _::en::σ)) trivial rfl ti call291 (fun x hx=>by
     simp only [Cf,List.mem_map] at hx;obtain ⟨j,_,rfl⟩:=hx;rfl) rfl
    (I:=fun j H' σb=>∃(t:dz) (ut vo:Value) (out:List Int) (en:Ent),σb=[.blk b1 [I t.many,ut],.blk b5 [vo],en]∧RL H' ut t.dt∧dj 1 vo (Is out) en∧out.length≤L.length∧t.Ok∧Bs s L (L.length - j) t out) (Ix:=fun _ _ _=>False)
    (fun j _ _ σ g1 ⟨t,ut,vo,out,en,g2,g3,g4⟩=>⟨t,ut,vo,out,en,g2,g3.mono g1,g4⟩) (fun _ _ _ _ _ h=>h)
    ⟨s,_,_,L,en,rfl,hl.mono gK,hO,Nat.le_refl _,aU,.start⟩ ?_ ?_ (fun D c H' σb w _ h _=>h.elim)
   ·rintro l j hj H4 zE yI w gj ⟨t,ut,vo,out,en,rfl,Wh,Te,aaT,LB,hC⟩ hs ⟨rr,Fe⟩;rw [F2 hj];have hjL:j<L.length:=by rw [oM] at hj;exact hj
    obtain ⟨at',ct,rfl⟩:=RL.shape Wh;obtain ⟨ao,lo,co,rfl,xH⟩:=Te.shape;refine .region (.o (.alloc hs dA rfl fun b7 w hs=>?_));refine .o (.store hs rfl rfl ak fun w hs=>?_);refine .nil (nT ⟨H4,[.blk b7 [I (gi L (L.length - 1 - j))],.blk b1 [I t.many,.slice at' t.dt.length ct],.blk b5 [.slice ao lo co],en],HLe.refl _,hs,?_⟩);rintro w uM - hs;refine .block (.af (.y hs (zls [_,_] bT aQ) (.y hs (zld aj) (.o (.buildSlice (cells:=[_]) hs dw rfl rfl fun F3 w hs=>?_)))));obtain ⟨H5,lk,r25,hs⟩:=dj.eI (xs:=[gi L (L.length - 1 - j)]) (v:= .slice (some ⟨F3,0,none⟩) 1 1) (.full (len:=1) rfl) bK hs dC;refine .o (.call call266 rfl (wB (s:=t) hs ⟨_,rfl,Wh.mono lk⟩ r25 (by have:=LB.len;omega)) ?_);rintro _ w ⟨H6,zf,⟨u26,rfl,R9⟩,hs⟩;obtain ⟨a26,c26,rfl⟩:=RL.shape R9;refine .o (.alloc hs fb rfl fun b8 w hs=>?_);refine .o (.aJ (vs:=[_,_]) hs rfl rfl aQ fun w hs=>?_);refine .nil (.af (.y hs (zls [_,_] bT aQ) (.o (.call call223 rfl (lT (s:=t.wo [gi L (L.length - 1 - j)]) hs (LB.wo _) ⟨_,rfl,R9⟩) ?_))));rintro _ w ⟨H7,J1,DJ,rfl,xP,hs⟩;have LP:=lk.trans (zf.trans DJ);refine .zn fE (.cond rfl (fun nR=>?_) (fun nR=>?_))
    ·refine .af (.y hs (zls [_,_] bT aQ) (.o (.aJ (vs:=[_,_]) hs rfl rfl aQ fun w hs=>?_)));refine .nil (.region (.y hs (zld an) (.q hs (dZ (f:=[]) (c:=[_]) rfl rfl) ?_)));obtain ⟨H8,G0,r7,hs⟩:=hs.dn (b:=b7) dC;replace hs:St H8 w (en:: .blk b1 [I t.many,.slice a26 (t.wo [gi L (L.length - 1 - j)]).dt.length c26]:: .blk b5 [.slice ao lo co]::uM):=hs.sb;refine .o (.call call267 rfl (qV (g:=268) (cap:=[Pt b7]) (fun n=>decide (n=gi L (L.length - 1 - j))) hs Te ai call268
      (fun H' w σ n _ hle hs=>(zt hs (r7.mono hle)).mono fun u w' ⟨g1,g2⟩=>⟨H',HLe.refl _,g1,g2⟩)) ?_);rintro v33 w ⟨H9,en9,OF,abK,hs⟩
     obtain ⟨a33,l33,c33,rfl,h33⟩:=abK.shape;refine .o (.store hs rfl rfl aO fun w hs=>?_);refine .nil (nB ?_);have B0:=List.length_filter_le (fun n=> !decide (n=gi L (L.length - 1 - j))) out;have e:L.length - (j+1)=L.length - 1 - j:=by omega
     have XZ:¬(t.wo [gi L (L.length - 1 - j)]).Sound:=fun h=>by rw [xP.2 h] at nR;cases nR
     exact ⟨H9,[.blk b1 [I t.many,.slice a26 (t.wo [gi L (L.length - 1 - j)]).dt.length c26],.blk b5 [.slice a33 l33 c33],en9],LP.trans (G0.trans OF),(hs.sb:St H9 w (.blk b1 _:: .blk b5 _::en9::uM)),t.wo [gi L (L.length - 1 - j)],_,_,_,_,rfl,R9.mono (DJ.trans (G0.trans OF)),abK,ai,LB.wo _,by
      rw [e];exact .drop (by rw [show L.length - 1 - j+1=L.length - j by omega];exact hC) XZ⟩
    ·refine .skip (nB ?_);have e:L.length - (j+1)=L.length - 1 - j:=by omega
     have OB:(t.wo [gi L (L.length - 1 - j)]).Sound:=xP.1 (by simpa using nR);exact ⟨H7,[.blk b1 [I t.many,.slice at' t.dt.length ct],.blk b5 [.slice ao lo co],en],LP,(hs.sb:St H7 w (.blk b1 _:: .blk b5 _::en::uM)),t,_,_,_,_,rfl,Wh.mono LP,Te,aaT,LB,by
      rw [e];exact .keep (by rw [show L.length - 1 - j+1=L.length - j by omega];exact hC) OB⟩
   ·rintro D H4 zE w gj ⟨t,ut,vo,out,en,rfl,Wh,Te,aaT,LB,hC⟩ hs;rw [oM,Nat.sub_self] at hC;obtain ⟨ao,lo,co,rfl,xH⟩:=Te.shape;replace hs:St H4 w (.obj D (.deferred (some [])):: .blk b1 [I t.many,ut]:: .blk b5 [.slice ao lo co]::en::σ):=hs;refine nB (nT (.af (.y hs (zld an) (.z zg (.zn zg (.ret ?_))))));obtain ⟨H5,lk,hR5,hs⟩:=dj.eI Te ai hs dC;exact Fin.iG [D] [] hs fun w hs=>⟨_,results2 results220 rfl rfl,H5,_,out,0,gK.trans (gj.trans lk),rfl,hR5,.ok aU Uk Qk hC,hs.out⟩
theorem qU{w:World}{v:Value}(q:Int→Prop)(hs:St H w σ)(hR:RI H v xs)(hc:∀args w,(callFunc g args).run Tryz.prog w= .ok (.enter g args) w)
  (hp:∀H' w σ (n:Int),n∈xs→HLe H H'→St H' w σ→ab8 g ([I n]++cap) w fun u w'=>∃H1 b,HLe H' H1∧u= .bool b∧(b=true↔q n)∧St H1 w' σ):
  ab8 228 [v,.func (.func g) #[] cap.toArray] w fun u w'=>∃H1 i,HLe H H1∧u=I i∧(0≤i↔∃x∈xs,q x)∧St H1 w' σ:=by
 obtain ⟨a,c,rfl⟩:=RI.shape hR;have hl:=(RI.len hR).2.2;refine Cl.o func228 ntmps228 ag2 ?_;refine .af (.zn zg (.seq (.af (.z zm (.z (dk ae) (.zn zm (.for (N:=xs.length) (J:=fun k fr w=>fr=[(1,.func (.func g) #[] cap.toArray),(0,.slice a xs.length c)]∧∃H1,HLe H H1∧(∀j<k,∀y,xs[j]? =some y→¬q y)∧St H1 w σ) ai ?_ ?_ ?_)))))))
 ·exact .mk ⟨rfl,H,HLe.refl H,fun j hj=>by omega,hs⟩
 ·rintro k fr w hk ⟨rfl,H1,az,fa,hs⟩;obtain ⟨x,hx⟩:=nth hk;refine .block (.af (.z zm (.zn zg (.af (.z zm (.z zm (.z zm (.ixY hs (hR.mono az) rfl rfl ae ak hx rfl ?_))))))));intro sF o14 kE;refine .q hs (aF rfl aj kE) (.o (.sw (first:=[]) (cap:=cap) rfl rfl hc (hp _ _ _ x (List.mem_of_getElem? hx) az hs) ?_));rintro _ w ⟨H2,nD,bp,rfl,sc,hs⟩;refine .nil (.cond rfl (fun dY=>?_) (fun dY=>?_))
  ·exact .af (.z zm (.zn zg (.ret (rB (rT (rB (rT (Fin.bu Px rfl ⟨H2,_,az.trans bp,rfl,⟨fun _=>⟨x,List.mem_of_getElem? hx,sc.1 dY⟩,fun _=>by omega⟩,hs⟩))))))))
  ·exact .skip (nB (nT (.mk ⟨rfl,H2,az.trans bp,fW fa hx (fun h=>by rw [sc.2 h] at dY;cases dY),hs⟩)))
 ·rintro fr w ⟨rfl,H1,az,fa,hs⟩;refine nT (.af (.zn zg (.ret (Fin.bu Px rfl ?_))));exact ⟨H1,_,az,rfl,⟨fun h=>by omega,fun ⟨x,h1,h2⟩=>by
   obtain ⟨j,hj⟩:=List.getElem?_of_mem h1;exact (fa j (List.getElem?_eq_some_iff.1 hj).1 x hj h2).elim⟩,hs⟩
theorem oP{w:World}{v:Value}(q:Int→Prop)(hs:St H w σ)(hR:RI H v xs)(hc:∀args w,(callFunc g args).run Tryz.prog w= .ok (.enter g args) w)
  (hp:∀H' w σ (n:Int),n∈xs→HLe H H'→St H' w σ→ab8 g ([I n]++cap) w fun u w'=>∃H1 b,HLe H' H1∧u= .bool b∧(b=true↔q n)∧St H1 w' σ):
  ab8 185 [v,.func (.func g) #[] cap.toArray] w fun u w'=>∃H1 b,HLe H H1∧u= .bool b∧(b=true↔∃x∈xs,q x)∧St H1 w' σ:=by
 refine Cl.o func185 ntmps185 ag2 ?_;refine .af (.zn zg (.af (.z zm (.z zm (.o (.call call228 rfl (qU q hs hR hc hp) ?_))))));rintro _ w ⟨H1,i,az,rfl,hi,hs⟩;exact .z tN (.zn zg (.ret (Fin.bu results185 rfl ⟨H1,_,az,rfl,by simp only [decide_eq_true_eq];exact hi,hs⟩)))
theorem tP{w:World}(hs:St H w σ):ab8 284 [I a0,I a1,I a2] w fun v w'=>v= .bool (decide (a1≤a0∧a0≤a2))∧St H w' σ:=by
 refine Cl.o func284 ntmps284 ag3 ?_;refine .af (.zn zg (.af (.z zm (.z zm (.z pc (.z zm (.ie (t':=10) rfl (fun pO=>?_) (fun pO=>?_))))))))
 ·exact .T (.z zm (.T (.z zm (.T (.z pc (.z zpT (.zn zg (.ret (Fin.bu results284 rfl ⟨by simp [*],hs.out⟩)))))))))
 ·exact .Fs 3 3 true (.z zpF (.zn zg (.ret (Fin.bu results284 rfl ⟨by simp [*],hs.out⟩))))
theorem kA{w:World}{v:Value}{l:List Int}{many:Nat}(hs:St H w σ)(hr:RI H v l):
  ab8 259 [v,I many,I most] w fun v w'=>∃b:Bool,v= .bool b∧(b=true↔gy many most l)∧St H w' σ:=by
 obtain ⟨a,c,rfl⟩:=RI.shape hr;have hlen:=(RI.len hr).2.2;refine Cl.o func259 ntmps259 ag3 ?_;refine .af (.zn zg (.seq (.af (.z zm (.z (dk ae) (.z zm (.o (.call call284 rfl (tP hs) ?_))))))));rintro _ w ⟨rfl,hs⟩;refine .z fE (.z zm (.bif (t':=14) rfl (fun He=>?_) (fun He=>?_)))
 ·exact .Fs 4 5 false (.z zpT (.z zm (.Fs 8 11 false (.zn zpT (.cT (.af (.zn zg (.ret (rT (Fin.bu results259 rfl ⟨false,rfl,⟨fun h=>(by cases h),fun h=>by have:=h.two;have:=h.many;simp at He;omega⟩,hs⟩))))))))))
 ·refine .T (.z zm (.T ?_));have Rg:2≤l.length∧l.length≤many:=by simp at He;omega
  refine .ixY hs hr rfl rfl ae ak (bG (l:=l) (i:=0) ai) dp ?_;intro nD o16 dY;refine .T (.q hs (aF rfl aj dY) (.T (.z gV (.z zpF (.z zm (.ie (t':=20) rfl (fun FD=>?_) (fun FD=>?_)))))))
  ·exact .Fs 8 11 false (.zn zpT (.cT (.af (.zn zg (.ret (rT (Fin.bu results259 rfl ⟨false,rfl,⟨fun h=>(by cases h),fun h=>by have:=h.low;omega⟩,hs⟩)))))))
  ·refine .T (.z zm (.T (.z zm (.T (.z (dk ae) (.T (.z gE (.T (.ixY hs hr rfl rfl ae ak (bG (l:=l) (i:=(l.length - 1)) ai) dp ?_)))))))));intro F3 o25 gv;refine .T (.q hs (aF rfl aj gv) (.T (.z zm (.T (.z ld (.zn zpF (.bA rfl (fun nR=>?_) (fun nR=>?_))))))))
   ·exact .af (.zn zg (.ret (rT (Fin.bu results259 rfl ⟨false,rfl,⟨fun h=>(by cases h),fun h=>by have:=h.high;omega⟩,hs⟩))))
   ·refine .skip (nT (.seq (.af (.z zm (.q hs (vi (k:=1) rfl rfl ae ak ai ai) (.z (dk ae) (.zn zm (.for (N:=l.length - 1) (J:=fun k fr w=>fr=[(31,.slice (if c=1 then a else a.map (·.add (1*1))) (l.length - 1) (c - 1)),(0,.slice a l.length c)]∧(∀j<k,gi l j<gi l (j+1))∧St H w σ) ai ?_ ?_ ?_))))))))
    ·exact .mk ⟨rfl,fun j hj=>by omega,hs⟩
    ·rintro k fr w hk ⟨rfl,fa,hs⟩;have ht:=hr.tail (k:=1) ai;have hx:(l.drop 1)[k]? =some (gi l (k+1)):=by rw [List.getElem?_drop,Nat.add_comm];exact bG ai
     refine .block (.af (.z zm (.ixY hs ht rfl rfl ae ak hx rfl ?_)));intro WS o36 lK;refine .q hs (aF rfl aj lK) (.z zg (.zn zg (.af (.z zm (.z zm (.ixY hs hr rfl rfl ae ak (bG (l:=l) (i:=k) ai) dp ?_))))));intro VJ o40 pK;refine .q hs (aF rfl aj pK) (.z zm (.zn tN (.bA rfl (fun B5=>?_) (fun B5=>?_))))
     ·exact .af (.zn zg (.ret (rB (rT (rB (rT (Fin.bu results259 rfl ⟨false,rfl,⟨fun h=>(by cases h),fun h=>by have:=h.rise k ai;omega⟩,hs⟩)))))))
     ·refine .skip (nB (nT ?_));exact .mk ⟨rfl,fun j hj=>by
       by_cases e:j=k
       ·subst e;omega
       ·exact fa j ai,hs⟩
    ·rintro fr w ⟨rfl,fa,hs⟩;exact nT (.af (.zn zg (.ret (Fin.bu results259 rfl ⟨true,rfl,⟨fun _=>⟨ai,ai,ai,ai,fun i hi=>fa i ai⟩,fun _=>rfl⟩,hs⟩))))
theorem qT{w:World}{v:Value}{l:List Int}(hs:St H w σ)(hr:RI H v l):
  ab8 299 [v] w fun v w'=>∃e,v=I e∧((gy 9 100000 l∧e=0)∨(¬gy 9 100000 l∧e≠0))∧St H w' σ:=by
 obtain ⟨a,c,rfl⟩:=RI.shape hr;refine Cl.o func299 ntmps299 ag1 ?_;refine .af (.zn zg (.seq (.af (.z zm (.o (.call call259 rfl (kA (many:=9) (most:=100000) hs hr) ?_))))));rintro _ w ⟨b4,rfl,UZ,hs⟩;refine .zn fE (.cond rfl (fun L4=>?_) (fun L4=>?_))
 ·exact .af (.zn zg (.ret (rT (Fin.bu results299 rfl ⟨_,rfl,.inr ⟨fun h=>by simp [UZ.2 h] at L4,by decide⟩,hs⟩))))
 ·exact .skip (nT (.af (.zn zg (.ret (Fin.bu results299 rfl ⟨_,rfl,.inl ⟨UZ.1 (by simpa using L4),rfl⟩,hs⟩)))))
theorem kN{w:World}{b:Int}(hs:St H w σ)(ha:0<a)(hb:0<b∧b≤100000):
  ab8 287 [I a,I b] w fun v w'=>v=I (rat a b)∧St H w' σ:=by
 have h1:0≤b.tdiv a:=Int.tdiv_nonneg ai ai;have h2:b.tdiv a≤b:=by rw [Int.tdiv_eq_ediv_of_nonneg ai];exact Int.ediv_le_self _ ai
 have hw:=lI (m:=b.tdiv a) ⟨ai,ai⟩;refine Cl.o func287 ntmps287 ag2 ?_;refine .af (.zn zg (.seq (.af (.z zm (.z zm (.z Gt (.z fJ (.z zm (.ie (t':=9) rfl (fun RV=>?_) (fun RV=>?_))))))))))
 ·refine .T (.z zm (.T (.z zm (.T (.z SM (.T (.z pc (.zn zpT (.bA rfl (fun kE=>?_) (fun kE=>?_))))))))))
  ·refine .af (.z zm (.z zm (.z SM (.zn zg (.ret (rT (Fin.bu results287 rfl ?_)))))));rw [hw] at kE ⊢;exact ⟨by unfold rat;rw [if_pos ⟨by assumption,by assumption⟩],hs⟩
  ·refine .skip (nT (.af (.zn zg (.ret (Fin.bu results287 rfl ?_)))));rw [hw] at kE;exact ⟨by unfold rat;rw [if_neg ai],hs⟩
 ·exact .Fs 4 4 true (.zn zpF (.cF (.skip (nT (.af (.zn zg (.ret (Fin.bu results287 rfl ⟨by unfold rat;rw [if_neg ai],hs⟩))))))))
def wg(l:List Int):List (List Value):=(pP l).map fun g=>[Value.agg #[I (g.at_:Int),I (g.n:Int)]]
theorem Ky{l:List Int}(hp:gy 9 100000 l){i:Nat}(h:i+2<l.length):fK l i=true↔0<rat (gi l (i+1) - gi l i) (gi l (i+2) - gi l (i+1))∨0<rat (gi l (i+2) - gi l (i+1)) (gi l (i+1) - gi l i):=by
 have h1:=hp.rise i ai;have h2:gi l (i+1)<gi l (i+2):=hp.rise (i+1) ai;unfold fK;rw [Kz ai ai];simp only [Bool.and_eq_true,decide_eq_true_eq];omega
theorem tQ{v:Value}{l:List Int}(hp:gy 9 100000 l)(hb:Row H b [v])(hr:RI H v l):Iter Tryz.prog 302 [Pt b] H (wg l):=by
 intro ly II Ix _ _ hy H0 HS σf w hle CI hs;obtain ⟨a,c,rfl⟩:=RI.shape hr;have hlen:=hp.many;have FE:cellAt H0 b 0=some (.slice a l.length c):=cellAt.mono (hb.at 0) hle;refine Cl.o func302 ntmps302 ag2 ?_;refine .af (.zn zg (.block ?_));refine .loop (fun i:Nat=>⟨59,[],[(3,I (i:Int)),(0,.func (.yield ly) #[] #[]),(1,Pt b)]⟩)
  (fun i w=>i≤l.length∧∃j,j≤(pP l).length∧(pP l).drop j=qM l i∧∃H1 σb,HLe H H1∧HLe H0 H1∧II j H1 σb∧St H1 w (σb++σf)) (fun i=>l.length - i) 0 (.da rfl bK aM)
  ⟨Nat.zero_le _,0,Nat.zero_le _,rfl,H0,HS,hle,HLe.refl _,CI,hs⟩ ?_
 clear hs CI;rintro i w ⟨qL,j,hj,hd,H1,σb,az,gq,hI,hs⟩;have Ej:cellAt H1 b 0=some (.slice a l.length c):=cellAt.mono FE gq;refine .seq (.af (.z zm (.z cV (.y hs (zld an) (.z (dk ae) (.zn gV (.bA rfl (fun pM=>?_) (fun pM=>?_))))))))
 ·refine .skip (nT (.block (.af (.z zm (.z (zbd [_,_] wI) (.o (.alloc hs Tq rfl fun b4 w hs=>?_)))))));refine .o (.aJ (vs:=[_,_]) hs rfl rfl Ka fun w hs=>?_);refine .nil (.cut (fun fs w=>lr fs ⟨59,[],[(4,Pt b4),(3,I (i:Int)),(0,.func (.yield ly) #[] #[]),(1,Pt b)]⟩∧St H1 w (.blk b4 [I (i:Int),I (((if fK l i then 2 else 1:Nat)):Int)]::(σb++σf))) ?_ ?_)
  ·refine .af (.z zm (.z cV (.y hs (zld an) (.z (dk ae) (.zn gV (.bA rfl (fun im=>?_) (fun im=>?_)))))))
   ·refine .seq (.draw mix rfl hs fun w hs=>?_);refine .y 0 rfl hs an ?_;refine .z 1 rfl zm ?_;refine .z 2 rfl cV ?_;have r1:=hp.rise i ai;have r2:gi l (i+1)<gi l (i+2):=hp.rise (i+1) ai;have JK:=Ky hp (i:=i) ai;have q1:=hp.bd (i:=i) ai;have q2:=hp.bd (i:=i+2) ai;refine .ixX (enc:=fun x=>[I x]) (i:=3) hs rfl aD .none (hr.mono az) rfl rfl ae ak (bG (l:=l) (i:=(i+1)) ai) dp ?_;intro VL o22 jV;replace jV:=bJ.one jV;refine .r (i:=4) hs rfl aD .none (aF rfl aj jV) ?_;refine .y 5 rfl hs an ?_;refine .z 6 rfl zm ?_;refine .ixX (enc:=fun x=>[I x]) (i:=7) hs rfl aD .none (hr.mono az) rfl rfl ae ak (bG (l:=l) (i:=i) ai) dp ?_;intro Tk o26 jm;replace jm:=bJ.one jm;refine .r (i:=8) hs rfl aD .none (aF rfl aj jm) ?_;refine .zw 9 rfl gE ?_;refine .y 10 rfl hs an ?_;refine .z 11 rfl zm ?_;refine .z 12 rfl cV ?_;refine .ixX (enc:=fun x=>[I x]) (i:=13) hs rfl aD .none (hr.mono az) rfl rfl ae ak (bG (l:=l) (i:=(i+2)) ai) dp ?_;intro b32 o32 B6;replace B6:=bJ.one B6;refine .r (i:=14) hs rfl aD .none (aF rfl aj B6) ?_;refine .y 15 rfl hs an ?_;refine .z 16 rfl zm ?_;refine .z 17 rfl cV ?_;refine .ixX (enc:=fun x=>[I x]) (i:=18) hs rfl aD .none (hr.mono az) rfl rfl ae ak (bG (l:=l) (i:=(i+1)) ai) dp ?_;intro CQ o37 pL;replace pL:=bJ.one pL;refine .r (i:=19) hs rfl aD .none (aF rfl aj pL) ?_;refine .zw 20 rfl gE ?_;refine .z 21 rfl zg ?_;refine .z 22 rfl zg ?_;refine .D hs ?_;refine .af (.z zm (.z zm (.o (.call call287 rfl (kN hs ai ai) ?_))));rintro _ w ⟨rfl,hs⟩;refine .z ld (.z zm (.ie (t':=44) rfl (fun B8=>?_) (fun B8=>?_)))
    ·refine .Fs 4 4 false (.zn zpT (.cT (.region (.z (zfa kK) (.o (.store hs rfl rfl ak fun w hs=>?_))))));refine .nil (nT ?_);rw [JK.2 (.inl B8)];exact ⟨aM,hs⟩
    ·refine .T (.z zm (.T (.z zm (.T (.o (.call call287 rfl (kN hs ai ai) ?_))))));rintro _ w ⟨rfl,hs⟩;refine .T (.z ld (.zn zpF (.bA rfl (fun xL=>?_) (fun xL=>?_))))
     ·refine .region (.z (zfa kK) (.o (.store hs rfl rfl ak fun w hs=>?_)));refine .nil (nT ?_);rw [JK.2 (.inr xL)];exact ⟨aM,hs⟩
     ·refine .skip (nT ?_);rw [show fK l i=false from Bool.eq_false_iff.2 fun h=>by have:=JK.1 h;omega];exact ⟨aM,hs⟩
   ·refine .skip (nT ?_);rw [show fK l i=false by simp [fK];omega];exact ⟨aM,hs⟩
  ·rintro fs w ⟨gP,hs⟩;refine WE.sub ?_ gP;have S5:=Bb (l:=l) (i:=i) ai;rw [S5] at hd;have xI:j<(pP l).length:=by
    have:=congrArg List.length hd;simp at this;omega
   have Ym:(pP l)[j]=⟨i,fK l i⟩:=by
    rw [List.drop_eq_getElem_cons xI] at hd;exact (List.cons.inj hd).1
   have Ys:(pP l).drop (j+1)=qM l (i+(if fK l i then 2 else 1)):=by
    rw [List.drop_eq_getElem_cons xI] at hd;exact (List.cons.inj hd).2
   have X0:(if fK l i then 2 else 1:Nat)=1∨(if fK l i then 2 else 1:Nat)=2:=by split<;>simp
   refine .seq (.af (.z zm (.y hs (zls [_,_] isAgg315 Ka) ?_)));have tE:j<(wg l).length:=by simpa [wg] using xI
   have BA:=hy j tE H1 σb (.blk b4 [I (i:Int),I (((if fK l i then 2 else 1:Nat)):Int)]::σf) w az hI (St.deep hs);rw [show (wg l)[j]=[Value.agg #[I (i:Int),I (((if fK l i then 2 else 1:Nat)):Int)]] by simp only [wg,List.getElem_map,Ym];rfl] at BA;refine .o (.yield rfl rfl BA ?_);rintro v53 w ⟨H2,σ2,g1,hs,g3⟩;obtain ⟨bb,rfl,gT,gF⟩:=rp g3;replace hs:=St.shallow hs;refine .zn fE (.cond rfl (fun OQ=>?_) (fun OQ=>?_))
   ·exact .ret (rT (rB (rT (rB (Fin.SN results302 ⟨H2,σ2,gq.trans g1,hs.tail,.inr (gF (by simpa using OQ))⟩)))))
   ·refine .skip (nT (.region (.z zm (.z (zfa kK) (.y hs (zld aj) (.z cV (.zn zg (nB (nT ?_)))))))));generalize (if fK l i then 2 else 1:Nat)=n at*;exact ⟨i+n,.da rfl bK aM,⟨ai,j+1,xI,Ys,H2,σ2,az.trans g1,gq.trans g1,gT (by simpa using OQ),hs.tail⟩,ai⟩
 ·refine .exit (xT (xT (xB ?_)));rw [xS ai] at hd;have:(pP l).length≤j:=by simpa using hd
  obtain rfl:j=(pP l).length:=by omega
  exact Fin.FR results302 ⟨H1,σb,gq,hs,.inl (by simpa [wg] using hI)⟩
theorem xa{w:World}{v:Value}{l:List Int}(hs:St H w σ)(hr:RI H v l)(hp:gy 9 100000 l):
  ab8 286 [v] w fun u w'=>∃H1 b,HLe H H1∧u= .func (.func 302) #[] #[Pt b]∧Iter Tryz.prog 302 [Pt b] H1 (wg l)∧St H1 w' σ:=by
 obtain ⟨a,c,rfl⟩:=RI.shape hr;refine Cl.o func286 ntmps286 ag1 ?_;refine .af (.bx hs fun b1 w hs=>?_);refine .zn zg (.af (.q hs (dZ (f:=[]) (c:=[_]) rfl rfl) (.zn zg (.ret (Fin.bu results286 rfl ?_)))));obtain ⟨H1,g1,g2,hs⟩:=hs.dn .here;exact ⟨H1,b1,g1,rfl,tQ hp g2 (hr.mono g1),hs⟩
theorem tA{w:World}{bs bW from_ n:Nat}{W:List Int}{v:Value}(hs:St H w (.blk bs [.slice (some ⟨bW,0,none⟩) n n]:: .blk bW (Is W)::σ))(hW:W.length=n)(hr:RI H v xs)(hl:from_+xs.length≤n)(hn:n≤9)
  (hz:bU W n≤1000000000) (ha:CU xs≤1000000000):
  ab8 285 [Pt bs,I (from_:Int),v] w fun _ w'=>St H w' (.blk bs [.slice (some ⟨bW,0,none⟩) n n]:: .blk bW (Is (ob W from_ xs))::σ):=by
 obtain ⟨a,c,rfl⟩:=RI.shape hr;have hlen:=(RI.len hr).2.2;refine Cl.o func285 ntmps285 ag3 ?_;refine .af (.z zm (.z (dk ae) (.zn zm (.for (N:=xs.length) (J:=fun k fr w=>fr=[(8,.slice a xs.length c),(0,Pt bs),(1,I (from_:Int))]∧St H w (.blk bs [.slice (some ⟨bW,0,none⟩) n n]:: .blk bW (Is (ob W from_ (xs.take k)))::σ)) ai ?_ ?_ ?_))))
 ·exact .mk ⟨rfl,hs⟩
 ·rintro k fr w hk ⟨rfl,hs⟩;have Hf:=sG (xs.take k) W from_;have ur:=uI (xs.take k) W from_ (by rw [List.length_take];omega);rw [hW] at ur;have h1:=F7 xs k;have h2:=M5 xs k;have h3:=kO (ob W from_ (xs.take k)) (v:=from_+k) (n:=n) ai;have h4:=J5 hk W from_;refine .block (.af (.z zm (.ixY hs hr rfl rfl ae ak (bG (l:=xs) (i:=k) ai) dp ?_)));intro nm o13 iq;refine .q hs (aF rfl aj iq) (.z zg (.zn zg (.region (.z zm (.z znc (.z (zfa tG) (.y hs (zld an) (.z zm (.z zm (.z cV (.q hs (eH (k:=from_+k) rfl rfl ae ak ai ai) (.y hs (zld aj) (.z zm (.z cV (.q hs (eH (k:=from_+k) rfl rfl ae ak ai ai) (.o (.store hs rfl rfl ak fun w hs=>?_)))))))))))))))));exact .nil (nB (nT (.mk ⟨rfl,by rw [h4];exact hs⟩)))
 ·rintro fr w ⟨rfl,hs⟩;rw [List.take_length] at hs;exact Fin.FR results285 hs
theorem Cw{b:Int}(ha:0<a∧a≤100000)(hb:0<b∧b≤100000):0≤min a b∧min a b≤100000:=by omega
theorem KA{b:Int}(h:0<tms a b):tms a b=1∨tms a b=2∨tms a b=3:=by have:=PG a b;omega
set_option maxHeartbeats 1000000 in
theorem lz{w:World}{v:Value}{l:List Int}(hs:St H w σ)(hr:RI H v l)(hp:gy 9 100000 l):
  ab8 260 [v] w fun u w'=>∃H1,HLe H H1∧RI H1 u (wts l)∧St H1 w' σ:=by
 obtain ⟨a,c,rfl⟩:=RI.shape hr;have X7:=hp.many;have Nj:(pP l).length≤9:=by have:=oH l l.length 0;unfold pP;omega
 refine Cl.o func260 ntmps260 ag1 ?_;refine .af (.bx hs fun b1 w hs=>?_);refine .zn zg (.af (.y hs (zld an) (.z (dk ae) (.o (.vO l.length hs rfl rfl ae jK rfl ak dA ai fun nm w hs=>?_)))));refine .z (zbd [_] D6) (.o (.alloc hs zeroValue317 rfl fun b3 w hs=>?_));refine .o (.aJ (vs:=[_]) hs rfl rfl sizeOf317 fun w hs=>?_);refine .nil (.af (.q hs (dZ (f:=[_]) (c:=[]) rfl rfl) (.o (.alloc hs zeroValue318 rfl fun b4 w hs=>?_))));refine .o (.store hs rfl rfl sizeOf318 fun w hs=>?_);refine .nil (.seq (.af (.y hs (zld an) (.o (.call call286 rfl (xa hs hr hp) ?_)))));rintro _ w ⟨H1,J2,az,rfl,ti,hs⟩;refine .nil (.block ?_);refine .rangeFunc (gf:=302) (cap:=[Pt J2]) (xs:=wg l) (σb:=[.blk b3 [.slice (some ⟨nm,0,none⟩) l.length l.length],.blk nm (Is (Ab l 0)),.blk b4 [.func (.func 285) #[Pt b3] #[]],.blk b1 [.slice a l.length c]]) (σf:=σ) (hs.sb) trivial rfl ti call302 (fun x hx=>by
   simp only [wg,List.mem_map] at hx;obtain ⟨j,_,rfl⟩:=hx;rfl) rfl
  (I:=fun j H' σb=>σb=[.blk b3 [.slice (some ⟨nm,0,none⟩) l.length l.length],.blk nm (Is (Ab l j)),.blk b4 [.func (.func 285) #[Pt b3] #[]],.blk b1 [.slice a l.length c]]) (Ix:=fun _ _ _=>False)
  (fun j _ _ σ g1 g2=>g2) (fun _ _ _ _ _ h=>h) rfl ?_ ?_ (fun D c H' σb w _ h _=>h.elim)
 ·rintro ly j hj H2 zE yI w bp rfl hs ⟨rr,Fe⟩;have xI:j<(pP l).length:=by simpa [wg] using hj
  obtain ⟨g,hg⟩:=nth xI;rw [show (wg l)[j]=[Value.agg #[I (g.at_:Int),I (g.n:Int)]] by
   rw [List.getElem?_eq_getElem xI] at hg;simp only [wg,List.getElem_map,Option.some.inj hg]]
  obtain ⟨i1,i2,i3,i4,i5⟩:=Bc hp (List.mem_of_getElem? hg);have hK:=Aa hg;have Zr:=pY l j;have hKz:=w7 hp j ai;have A0:=hr.mono (az.trans bp);have JF:=hp.bd (i:=g.at_) ai;have OC:=hp.bd (i:=g.at_+1) ai;generalize hA:gi l (g.at_+1) - gi l g.at_=A at*;refine .region (.o (.alloc hs Tq rfl fun b5 w hs=>?_));refine .o (.aJ (vs:=[_,_]) hs rfl rfl Ka fun w hs=>?_);refine .nil (nT ⟨H2,[.blk b5 [I (g.at_:Int),I (g.n:Int)],.blk b3 [.slice (some ⟨nm,0,none⟩) l.length l.length],.blk nm (Is (Ab l j)),.blk b4 [.func (.func 285) #[Pt b3] #[]],.blk b1 [.slice a l.length c]],HLe.refl _,hs,?_⟩);rintro w uM - hs;refine .block (.seq (.draw mix rfl hs fun w hs=>?_));refine .y 0 rfl hs an ?_;refine .z 1 rfl (zfa iS) ?_;refine .y 2 rfl hs aj ?_;refine .z 3 rfl cV ?_;refine .ixX (enc:=fun x=>[I x]) (i:=4) hs rfl aD .none A0 rfl rfl ae ak (bG (l:=l) (i:=(g.at_+1)) ai) dp ?_;intro Ks o23 kX;replace kX:=bJ.one kX;refine .r (i:=5) hs rfl aD .none (aF rfl aj kX) ?_;refine .y 6 rfl hs an ?_;refine .z 7 rfl (zfa iS) ?_;refine .y 8 rfl hs aj ?_;refine .ixX (enc:=fun x=>[I x]) (i:=9) hs rfl aD .none A0 rfl rfl ae ak (bG (l:=l) (i:=g.at_) ai) dp ?_;intro J1 o28 kr;replace kr:=bJ.one kr;refine .r (i:=10) hs rfl aD .none (aF rfl aj kr) ?_;refine .zw 11 rfl gE ?_;rw [hA];refine .zw 12 rfl zg ?_;refine .D hs ?_;refine .seq (.af (.z (zfa kK) (.y hs (zld aj) (.z fJ ?_))))
  skip
  refine .nil (.bA rfl (fun nQ=>?_) (fun nQ=>?_))
  ·refine .af (.y hs (zld isAgg318) (.z (zfa iS) (.y hs (zld aj) (.z zm (.z la (.z zm (.z la (.o (.buildSlice (cells:=[_,_]) hs mJ rfl rfl fun VI w hs=>?_)))))))));have h2:g.two=false:=by
    cases e:g.two with
    |false=>rfl
    |true=>simp [Grp.n,e] at nQ
   obtain ⟨H3,cZ,r41,hs⟩:=dj.eI (xs:=[18*A,18*A]) (v:= .slice (some ⟨VI,0,none⟩) 2 2) (.full (len:=2) rfl) bK hs dC;have P5:=IM h2 hA;rw [P5] at hK i5;replace hs:St H3 w (.blk b3 [.slice (some ⟨nm,0,none⟩) l.length l.length]:: .blk nm (Is (Ab l j)):: .blk b5 [I (g.at_:Int),I (g.n:Int)]:: .blk b4 [.func (.func 285) #[Pt b3] #[]]:: .blk b1 [.slice a l.length c]::uM):=hs.sb;refine .o (.sw (first:=[Pt b3]) (cap:=[]) rfl rfl call285 (tA (from_:=g.at_) (xs:=[18*A,18*A]) hs Zr r41 (by simp;omega) ai ai ai) ?_);rintro _ w hs;rw [←hK] at hs;exact .nil (.exit (xT (xB ⟨H3,_,cZ,(hs.sb:St H3 w (.blk b3 _:: .blk nm _:: .blk b4 _:: .blk b1 _::uM)),rfl⟩)))
  ·refine .skip (nT (.seq (.draw mix rfl hs fun w hs=>?_)));have h2:g.two=true:=by
    cases e:g.two with
    |true=>rfl
    |false=>simp [Grp.n,e] at nQ
   obtain ⟨j1,j2,j3,j4⟩:=i4 h2;have aaR:=hp.bd (i:=g.at_+2) ai;generalize hB:gi l (g.at_+2) - gi l (g.at_+1)=B at*;have hmx:=Kz (a:=A) (b:=B) ai ai;have hk:=KA j4;have LM:=Cw (a:=A) (b:=B) ⟨ai,ai⟩ ⟨ai,ai⟩;obtain ⟨n1,n2,n3,n4⟩:=IK hk LM.1 LM.2;obtain ⟨n5,n6,n7,n8,n9⟩:=n4 _ n3.1 n3.2;generalize hT:tms A B=T at*;generalize hM:min A B=M at*;have P5:=IL h2 hA hB hT hM;refine .y 0 rfl hs an ?_;refine .z 1 rfl (zfa iS) ?_;refine .y 2 rfl hs aj ?_;refine .z 3 rfl cV ?_;refine .ixX (enc:=fun x=>[I x]) (i:=4) hs rfl aD .none A0 rfl rfl ae ak (bG (l:=l) (i:=(g.at_+2)) ai) dp ?_;intro VF o47 oT;replace oT:=bJ.one oT;refine .r (i:=5) hs rfl aD .none (aF rfl aj oT) ?_;refine .y 6 rfl hs an ?_;refine .z 7 rfl (zfa iS) ?_;refine .y 8 rfl hs aj ?_;refine .z 9 rfl cV ?_;refine .ixX (enc:=fun x=>[I x]) (i:=10) hs rfl aD .none A0 rfl rfl ae ak (bG (l:=l) (i:=(g.at_+1)) ai) dp ?_;intro ZI o53 ux;replace ux:=bJ.one ux;refine .r (i:=11) hs rfl aD .none (aF rfl aj ux) ?_;refine .zw 12 rfl gE ?_;rw [hB];refine .zw 13 rfl zg ?_;refine .D hs ?_;refine .af (.z zm (.z zm (.o (.call call287 rfl (kN hs ai ai) ?_))));rintro _ w ⟨rfl,hs⟩;refine .z zm (.z zm (.o (.call call287 rfl (kN hs ai ai) ?_)));rintro _ w ⟨rfl,hs⟩;refine .z Je ?_;rw [←hmx];refine .zn zg (.af (.z zm (.q hs (yu rfl rfl ai ai) (.z zm (.z cV (.z la (.z zm (.z zm (.z EE ?_)))))))));rw [hM];refine .z la (.zn zg (.af (.z zm (.z zm (.z la (.z zm (.z gE (.z la (.z zm (.z zm (.z cV (.z la (.z zm (.z cV (.z la (.z zm (.z zm (.z la (.z gE (.z la (.o (.buildSlice (cells:=[_,_,_]) hs FZ rfl rfl fun VC w hs=>?_))))))))))))))))))))));refine .zn zg (.cut (fun fs w=>∃H3,lr fs ⟨103,[],[(10,.slice (some ⟨VC,0,none⟩) 3 3),(5,Pt b5),(4,Pt b4),(3,Pt b3),(1,Pt b1)]⟩∧HLe H2 H3∧RI H3 (.slice (some ⟨VC,0,none⟩) 3 3) (Ca l g)∧St H3 w (.blk b3 [.slice (some ⟨nm,0,none⟩) l.length l.length]:: .blk nm (Is (Ab l j)):: .blk b5 [I (g.at_:Int),I (g.n:Int)]:: .blk b4 [.func (.func 285) #[Pt b3] #[]]:: .blk b1 [.slice a l.length c]::uM)) ?_ ?_)
   ·refine .af (.z zm (.z zm (.zn ld (.bA rfl (fun G3=>?_) (fun G3=>?_)))))
    ·refine .region (.z zm (.o (.call call270 rfl (oB (en:= .blk VC (Is [(6:Int).tdiv T*(1+T)*M*T*(2 - T),(6:Int).tdiv T*(1+T)*M*(1+T)*(1+T),(6:Int).tdiv T*(1+T)*M*(2*T - 1)])) (hs.sb:St H2 w (.blk VC _:: .blk b3 _:: .blk nm _:: .blk b5 _:: .blk b4 _:: .blk b1 _::uM)) (.full rfl) bK) ?_)));rintro _ w ⟨en95,Zm,hs⟩;refine .nil (nT ?_);obtain ⟨H3,cZ,r90,hs⟩:=dj.eI Zm bK hs .here;rw [if_pos G3] at P5;rw [P5];exact ⟨H3,aM,cZ,r90,hs⟩
    ·refine .skip (nT ?_);obtain ⟨H3,cZ,r90,hs⟩:=dj.eI (xs:=[(6:Int).tdiv T*(1+T)*M*T*(2 - T),(6:Int).tdiv T*(1+T)*M*(1+T)*(1+T),(6:Int).tdiv T*(1+T)*M*(2*T - 1)]) (v:= .slice (some ⟨VC,0,none⟩) 3 3) (.full (len:=3) rfl) bK hs dC;rw [if_neg ai] at P5;rw [P5];exact ⟨H3,aM,cZ,r90,hs.sb⟩
   ·rintro fs w ⟨H3,gP,cZ,r90,hs⟩;refine WE.sub ?_ gP;refine .region (.y hs (zld isAgg318) (.z (zfa iS) (.y hs (zld aj) (.z zm (.o (.sw (first:=[Pt b3]) (cap:=[]) rfl rfl call285 (tA (from_:=g.at_) (xs:=Ca l g) hs Zr r90 (by rw [IN,show g.n=2 by unfold Grp.n;rw [h2];rfl];omega) ai ai ai) ?_))))));rintro _ w hs;rw [←hK] at hs;exact .nil (nB ⟨H3,_,cZ,(hs.sb:St H3 w (.blk b3 _:: .blk nm _:: .blk b4 _:: .blk b1 _::uM)),rfl⟩)
 ·rintro D H2 zE w bp rfl hs;rw [show (wg l).length=(pP l).length by simp [wg],HV] at hs;replace hs:St H2 w (.obj D (.deferred (some [])):: .blk b3 [.slice (some ⟨nm,0,none⟩) l.length l.length]:: .blk nm (Is (wts l)):: .blk b4 [.func (.func 285) #[Pt b3] #[]]:: .blk b1 [.slice a l.length c]::σ):=hs;refine nB (nT (.af (.z (zfa tG) (.y hs (zld an) (.zn zg (.ret ?_))))));obtain ⟨H3,cZ,hR,hs⟩:=dj.eI (xs:=wts l) (v:= .slice (some ⟨nm,0,none⟩) l.length l.length) (.full (by simp [Is,fF])) (by rw [fF];omega) hs dC;exact Fin.iG [D] [] hs fun w hs=>⟨_,results1 results260 rfl,H3,az.trans (bp.trans cZ),hR,hs.out⟩
def Ee(X Y:List Int)(i:Nat):List Int:=(List.range Y.length).map fun k=>gi X i*gi Y k
def pQ(X Y:List Int)(i:Nat):List (List Int):=(List.range i).map (Ee X Y)
theorem l9(X Y:List Int)(i:Nat):(Ee X Y i).length=Y.length:=by simp [Ee]
theorem mC(X Y:List Int)(i:Nat):(pQ X Y i).length=i:=by simp [pQ]
theorem CK(X Y:List Int)(i:Nat):pQ X Y (i+1)=pQ X Y i++[Ee X Y i]:=by simp [pQ,List.range_succ]
theorem EP(hk:k<Y.length):(Ee X Y i).take (k+1)=(Ee X Y i).take k++[gi X i*gi Y k]:=by
 rw [dX (by simp [Ee,hk]:(Ee X Y i)[k]? =some (gi X i*gi Y k))]
theorem DQ{n:Nat}(h:i<n):gr (pQ X Y n) i=Ee X Y i:=by simp [gr,List.getD,pQ,h]
theorem IQ{n:Nat}(h:i<n)(hk:k<Y.length):gt (pQ X Y n) i k=gi X i*gi Y k:=by
 unfold gt;rw [DQ h];simp [gi,List.getD,Ee,hk]
inductive GrS(X Y:List Int)(b:Nat)(i k:Nat)(H:cK)(σ:List Ent):Prop
 |go (us:List Value) (v:Value) (en:Ent) (h:i<X.length) (h1:RLs H us (pQ X Y i)) (h2:dj 1 v (Is ((Ee X Y i).take k)) en) (h3:σ=[.blk b (us++v::List.replicate (X.length - i - 1) (.slice none 0 0)),en])
 |fin (us:List Value) (h:i=X.length) (h1:RLs H us (pQ X Y i)) (h3:σ=[.blk b us])
theorem GrS.mono{H':cK}(h:GrS X Y b i k H σ)(hl:HLe H H'):GrS X Y b i k H' σ:=by
 cases h with
 |go us v en h h1 h2 h3=>exact .go us v en h (h1.mono hl) h2 h3
 |fin us h h1 h3=>exact .fin us h (h1.mono hl) h3
theorem oA{w:World}{v:Value}{l:List Int}(hs:St H w σ)(hr:RI H v l):
  ab8 275 [v] w fun u w'=>∃H1 vo e,HLe H H1∧u= .tuple #[vo,I e]∧(gy 9 100000 l→e=0∧RI H1 vo (wts l))∧St H1 w' σ:=by
 obtain ⟨a,c,rfl⟩:=RI.shape hr;refine Cl.o func275 ntmps275 ag1 ?_;refine .af (.z zg (.zn zg (.seq (.af (.z zm (.o (.call call299 rfl (qT hs hr) ?_)))))));rintro _ w ⟨e,rfl,he,hs⟩;refine .zn zg (.af (.z zm (.zn fU (.dK rfl (fun B2=>?_) (fun B2=>?_)))))
 ·exact .af (.z zm (.z zg (.zn zg (.ret (rT (Fin.iz results275 rfl rfl ⟨H,_,_,HLe.refl H,rfl,fun h=>by rcases he with ⟨_,h2⟩|⟨h1,_⟩;exact (B2 h2).elim;exact (h1 h).elim,hs⟩))))))
 ·refine .skip (nT (.af (.z zm ?_)))
  have hp:gy 9 100000 l:=by rcases he with ⟨h,_⟩|⟨_,h2⟩;exact h;exact (h2 (by simpa using B2)).elim
  refine .o (.call call260 rfl (lz hs hr hp) ?_);rintro v11 w ⟨H1,az,hR,hs⟩;exact .z zg (.zn zg (.ret (Fin.iz results275 rfl rfl ⟨H1,_,_,az,rfl,fun _=>⟨rfl,hR⟩,hs⟩)))
theorem w9{w:World}{a b:List Int}(hs:St H w σ)(h1:RI H v1 a)(h2:RI H v2 b):
  ab8 215 [v1,v2] w fun u w'=>∃bb:Bool,u= .bool bb∧(bb=true↔gy 9 100000 a∧gy 7 15000 b)∧St H w' σ:=by
 refine Cl.o func215 ntmps215 ag2 ?_;refine .af (.zn zg (.af (.z zm (.o (.call call259 rfl (kA (many:=9) (most:=100000) hs h1) ?_)))));rintro _ w ⟨b6,rfl,Gn,hs⟩;refine .z zm (.bif (t':=7) rfl (fun Nk=>?_) (fun Nk=>?_))
 ·refine .T (.z zm (.T (.o (.call call259 rfl (kA (many:=7) (most:=15000) hs h2) ?_))));rintro _ w ⟨b9,rfl,RV,hs⟩;exact .z zpT (.zn zg (.ret (Fin.bu results215 rfl ⟨_,rfl,by rw [RV];exact ⟨fun h=>⟨Gn.1 Nk,h⟩,fun h=>h.2⟩,hs⟩)))
 ·exact .Fs 2 2 true (.z zpF (.zn zg (.ret (Fin.bu results215 rfl ⟨_,rfl,⟨fun h=>(by cases h),fun h=>by rw [Gn.2 h.1] at Nk;cases Nk⟩,hs⟩))))
theorem s5{w:World}{bx by_:Nat}{x y:Int}(hs:St H w σ)(hx:Row H bx [I x])(hy:Row H by_ [I y]):
  ab8 289 [Pt bx,Pt by_] w fun u w'=>u= .tuple #[I x,I y]∧St H w' σ:=by
 have Eg:=hx.at 0;have hy0:=hy.at 0;refine Cl.o func289 ntmps289 ag2 ?_;refine .af (.z zg (.zn zg (.seq (.draw mix rfl hs fun w hs=>?_))));refine .y 0 rfl hs aj ?_;refine .y 1 rfl hs aj ?_;refine .z 2 rfl zg ?_;refine .z 3 rfl zg ?_;refine .D hs ?_;exact .ret (Fin.iz results289 rfl rfl ⟨rfl,hs⟩)
def PrE(X Y:List Int)(p:Nat)(H:cK)(z:List Value):Prop:=
 ∃bx by_,z=[.agg #[I ((p/Y.length:Nat):Int),I ((p%Y.length:Nat):Int)],.func (.func 289) #[] #[Pt bx,Pt by_]]∧Row H bx [I (gi X (p/Y.length))]∧Row H by_ [I (gi Y (p%Y.length))]
theorem uT{b1 b2:Nat}(Ej:Row H b1 [v1])(BD:Row H b2 [v2])(hX:RI H v1 X)(hY:RI H v2 Y)(Hg:X.length≤1000)(U6:Y.length≤1000):
  Ps Tryz.prog 288 [Pt b1,Pt b2] H (X.length*Y.length) (PrE X Y):=by
 intro ly II Ix GZ _ hy H0 HS σf w hle CI hs;obtain ⟨a1,c1,rfl⟩:=RI.shape hX;obtain ⟨a2,c2,rfl⟩:=RI.shape hY;have h01:cellAt H0 b1 0=some (.slice a1 X.length c1):=cellAt.mono (Ej.at 0) hle;have h02:cellAt H0 b2 0=some (.slice a2 Y.length c2):=cellAt.mono (BD.at 0) hle;refine Cl.o func288 ntmps288 ag3 ?_;refine .af (.y hs (zld an) (.z (dk ae) (.zn zm (.for (N:=X.length) (J:=fun i fr w=>fr=[(8,.slice a1 X.length c1),(0,.func (.yield ly) #[] #[]),(1,Pt b1),(2,Pt b2)]∧∃H1 σb,HLe H H1∧HLe H0 H1∧II (i*Y.length) H1 σb∧St H1 w (σb++σf)) ai ?_ ?_ ?_))))
 ·exact .mk ⟨rfl,H0,HS,hle,HLe.refl _,by rw [Nat.zero_mul];exact CI,hs⟩
 ·rintro i fr w hi ⟨rfl,H1,σb,az,gq,hI,hs⟩;refine .block (.af (.z zm (.ixY hs (hX.mono az) rfl rfl ae ak (bG (l:=X) (i:=i) ai) dp ?_)));intro nm o13 iq;refine .q hs (aF rfl aj iq) (.o (.alloc hs dA rfl fun b5 w hs=>?_));refine .z zg (.o (.store hs rfl rfl ak fun w hs=>?_));refine .nil (.af ?_);obtain ⟨H2,bp,r5,hs⟩:=hs.dn (b:=b5) .here;have h22:=cellAt.mono h02 (gq.trans bp);refine .y hs (zld an) (.z (dk ae) (.zn zm (.for (N:=Y.length) (J:=fun k fr w=>fr=[(15,.slice a2 Y.length c2),(4,I (i:Int)),(10,I (i:Int)),(9,I (X.length:Int)),(5,Pt b5),(8,.slice a1 X.length c1),(0,.func (.yield ly) #[] #[]),(1,Pt b1),(2,Pt b2)]∧∃H3 σb,HLe H2 H3∧II (i*Y.length+k) H3 σb∧St H3 w (σb++σf)) ai ?_ ?_ ?_)))
  ·exact .mk ⟨rfl,H2,σb,HLe.refl _,GZ _ _ _ _ bp hI,hs⟩
  ·rintro k fr w hk ⟨rfl,H3,Nr,cZ,My,hs⟩;have gK:=gq.trans (bp.trans cZ);have vT:=az.trans (bp.trans cZ);refine .block (.af (.z zm (.ixY hs (hY.mono vT) rfl rfl ae ak (bG (l:=Y) (i:=k) ai) dp ?_)));intro BE o20 mU;refine .q hs (aF rfl aj mU) (.o (.alloc hs dA rfl fun b7 w hs=>?_));refine .z zg (.o (.store hs rfl rfl ak fun w hs=>?_));refine .nil (.af (.z zm (.z zm (.z zm (.q hs (Dv (vs:=[(0,I (i:Int)),(1,I (k:Int))]) (cells:=[I (i:Int),I (k:Int)]) zeroValue76 rfl runUnderlying76 ak rfl) (.q hs (dZ (f:=[]) (c:=[_,_]) rfl rfl) ?_))))));obtain ⟨H4,gj,r7,hs⟩:=hs.dn (b:=b7) .here;obtain ⟨d1,d2⟩:=QM (nw:=Y.length) (i:=i) (k:=k) hk;have fD:i*Y.length+k<X.length*Y.length:=by
    have:=Nat.mul_le_mul_right Y.length (show i+1≤X.length by omega);rw [Nat.add_mul,Nat.one_mul] at this;omega
   have BA:=hy (i*Y.length+k) fD [.agg #[I (i:Int),I (k:Int)],.func (.func 289) #[] #[Pt b5,Pt b7]] H4 Nr σf w (vT.trans gj) ⟨b5,b7,by rw [d1,d2],by rw [d1];exact r5.mono (cZ.trans gj),by rw [d2];exact r7⟩ (GZ _ _ _ _ gj My) hs;refine .o (.yield rfl rfl BA ?_);rintro v27 w ⟨H5,σ5,g1,hs,g3⟩;obtain ⟨bb,rfl,gT,gF⟩:=rp g3;refine .zn fE (.cond rfl (fun kr=>?_) (fun kr=>?_))
   ·exact .ret (rB (rT (rB (rB (rT (rB (Fin.SN results288 ⟨H5,σ5,gK.trans (gj.trans g1),hs,.inr (gF (by simpa using kr))⟩)))))))
   ·exact .skip (nB (nT (.mk ⟨rfl,H5,σ5,cZ.trans (gj.trans g1),gT (by simpa using kr),hs⟩)))
  ·rintro fr w ⟨rfl,H3,Nr,cZ,My,hs⟩;exact nB (nT (.mk ⟨rfl,H3,Nr,az.trans (bp.trans cZ),gq.trans (bp.trans cZ),by rw [Nat.add_mul,Nat.one_mul];exact My,hs⟩))
 ·rintro fr w ⟨rfl,H1,σb,az,gq,hI,hs⟩;exact Fin.FR results288 ⟨H1,σb,gq,hs,.inl hI⟩
theorem yL{w:World}(hs:St H w σ)(hX:RI H v1 X)(hY:RI H v2 Y)(Hg:X.length≤1000)(U6:Y.length≤1000):
  ab8 261 [v1,v2] w fun u w'=>∃H1 b1 b2,HLe H H1∧u= .func (.func 288) #[] #[Pt b1,Pt b2]∧Ps Tryz.prog 288 [Pt b1,Pt b2] H1 (X.length*Y.length) (PrE X Y)∧St H1 w' σ:=by
 obtain ⟨a1,c1,rfl⟩:=RI.shape hX;obtain ⟨a2,c2,rfl⟩:=RI.shape hY;refine Cl.o func261 ntmps261 ag2 ?_;refine .af (.bx hs fun b2 w hs=>?_);refine .bx hs fun b3 w hs=>?_
 refine .zn zg (.af (.q hs (dZ (f:=[]) (c:=[_,_]) rfl rfl) (.zn zg (.ret (Fin.bu results261 rfl ?_)))));obtain ⟨H1,g1,r1,hs⟩:=hs.dn (b:=b2) dC;obtain ⟨H2,g2,r2,hs⟩:=hs.dn (b:=b3) dC;exact ⟨H2,b2,b3,g1.trans g2,rfl,uT (r1.mono g2) r2 (hX.mono (g1.trans g2)) (hY.mono (g1.trans g2)) Hg U6,hs⟩
set_option maxHeartbeats 1000000 in
theorem Ae{w:World}(hs:St H w σ)(Kg:RI H v1 l1)(A0:RI H v2 l2)(zQ:gy 9 100000 l1)(uO:gy 7 15000 l2):
  ab8 216 [v1,v2] w fun u w'=>∃H1,HLe H H1∧RT H1 u (pQ (wts l1) (wts l2) l1.length)∧St H1 w' σ:=by
 obtain ⟨a1,c1,rfl⟩:=RI.shape Kg;obtain ⟨a2,c2,rfl⟩:=RI.shape A0;have ze:=zQ.many;have SY:=uO.many;have htw1:=zQ.two;have htw2:=uO.two;have Ro:gy 9 100000 l2:=⟨uO.two,ai,uO.low,by have:=uO.high;omega,uO.rise⟩;have Hg:=fF l1;have U6:=fF l2;have YZ:=HU zQ;have YY:=HU uO;refine Cl.o func216 ntmps216 ag2 ?_;refine .af (.zn zg (.af (.z zm (.o (.call call260 rfl (lz hs Kg zQ) ?_)))));rintro v13 w ⟨H1,az,hX,hs⟩;refine .z zm (.o (.call call260 rfl (lz hs (A0.mono az) Ro) ?_));rintro v15 w ⟨H2,bp,hY,hs⟩;replace hX:=hX.mono bp;generalize wts l1=X at*;generalize wts l2=Y at*;obtain ⟨aX,cX,rfl⟩:=RI.shape hX;obtain ⟨aY,cY,rfl⟩:=RI.shape hY;refine .z zg (.zn zg (.af (.z zm (.z (dk ae) (.o (.Q6 l1.length hs rfl rfl aC typeInfo34 rfl aO ir ai fun yD w hs=>?_))))));refine .o (.alloc hs zeroValue62 rfl fun b7 w hs=>?_);refine .o (.store hs rfl rfl sizeOf62 fun w hs=>?_);refine .nil (.seq (.af (.z zm (.z zm (.o (.call call261 rfl (yL hs hX hY ai ai) ?_))))));rintro _ w ⟨H3,bp1,bp2,cZ,rfl,ti,hs⟩;have gK:=az.trans (bp.trans cZ);have h0:GrS X Y yD 0 0 H3 [.blk yD (List.replicate l1.length (.slice none 0 0)),.nul]:=by
  refine .go [] (.slice none 0 0) .nul ai (RLs.nil _) (.nil 1 none) ?_;rw [Hg];obtain ⟨m,hm⟩:∃m,l1.length=m+1:=⟨l1.length - 1,ai⟩;rw [hm];rfl
 refine .nil (.block ?_);refine .PL (gf:=288) (cap:=[Pt bp1,Pt bp2]) (N:=X.length*Y.length) (E:=PrE X Y) (σb:= .blk b7 [.slice (some ⟨yD,0,none⟩) l1.length l1.length]::[.blk yD (List.replicate l1.length (.slice none 0 0)),.nul]) (σf:=σ) (hs.nul.sb) trivial rfl ti call288 (fun k H' z ⟨_,_,hz,_⟩=>by rw [hz];rfl) rfl
  (I:=fun p H' σb=>∃σ1,σb= .blk b7 [.slice (some ⟨yD,0,none⟩) l1.length l1.length]::σ1∧GrS X Y yD (p/Y.length) (p%Y.length) H' σ1) (Ix:=fun _ _ _=>False)
  (fun j _ _ σ g1 ⟨σ1,g2,g3⟩=>⟨σ1,g2,g3.mono g1⟩) (fun _ _ _ _ _ h=>h) ⟨_,rfl,by rw [Nat.zero_div,Nat.zero_mod];exact h0⟩ ?_ ?_ (fun D c H' σb w _ h _=>h.elim)
 ·rintro ly p hp z H4 zE yI w gj ⟨bx,by_,rfl,rx,ry⟩ ⟨σ1,rfl,hG⟩ hs ⟨rr,Fe⟩;have Um:=Io (p:=p) (m:=Y.length) ai;have LU:=Nat.mod_lt p (show 0<Y.length by omega);have ib:p/Y.length<X.length:=Nat.div_lt_of_lt_mul (by rw [Nat.mul_comm];exact hp);generalize hi:p/Y.length=i at*;generalize hk:p%Y.length=k at*
  cases hG with
  |fin us h=>omega
  |go us v en h h1 h2 h3=>
  subst h3;obtain ⟨av,lv,cv,rfl,aa1⟩:=h2.shape;have Lz:us.length=i:=by rw [h1.1,mC]
  have Ej:=YZ i;have BD:=YY k;have hpr:=Qy (gi X i) (gi Y k);have XV: -3456000000000≤gi X i*gi Y k∧gi X i*gi Y k≤3456000000000:=lH (A:=4800000) (B:=720000) (by unfold ab at Ej;omega) (by unfold ab at BD;omega);refine .af (.o (.alloc hs zeroValue76 rfl fun b8 w hs=>?_));refine .o (.aJ (vs:=[_,_]) hs rfl rfl sizeOf76 fun w hs=>?_);refine .nil (.region (.zn zg (nT ⟨H4,[.blk b8 [I (i:Int),I (k:Int)],.blk b7 [.slice (some ⟨yD,0,none⟩) l1.length l1.length],.blk yD (us++Value.slice av lv cv::List.replicate (X.length - i - 1) (Value.slice none 0 0)),en],HLe.refl _,hs,?_⟩)));rintro w uM - hs;refine .block (.af (.z zm (.o (.sw (first:=[]) (cap:=[Pt bx,Pt by_]) rfl rfl call289 (s5 hs rx ry) ?_))));rintro _ w ⟨rfl,hs⟩;refine .z zm (.z zex (.z zex (.z zg (.zn zg (.draw mix rfl hs fun w hs=>?_)))));refine .zv 0 rfl hs (qf aao) (.zw 1 rfl (zia 0 runUnderlying76 ak) (.y 2 rfl hs aj ?_));refine .y 3 rfl hs aao ?_;refine .zw 4 rfl (zia 0 runUnderlying76 ak) (.zv 5 rfl hs (qf aj) (.zw 6 rfl (eH (k:=i) rfl rfl aC aO rfl ai) (.load (i:=7) hs rfl aD .none rfl an ?_ (hv:=by rw [List.getElem?_append_right ai,Lz,Nat.sub_self];rfl))));refine .zw 8 rfl zm ?_;refine .z 9 rfl zm ?_;refine .z 10 rfl la ?_;refine .E 11 hs ?_;refine .buildSlice (cells:=[_]) hs dw rfl rfl ?_;intro VJ w hs;refine .go (.E 12 hs ?_);refine .append (ys:=Is [gi X i*gi Y k]) hs df rfl rfl h2 (.own .here rfl rfl) (ki _) (fun l' h=>by simp at h;omega) ?_;intro v41 en41 w hO hs;rw [show Is ((Ee X Y i).take k)++Is [gi X i*gi Y k]=Is ((Ee X Y i).take (k+1)) by rw [EP LU];simp [Is]] at hO;obtain ⟨a41,l41,c41,rfl,hl41⟩:=hO.shape;refine .go (.zw 13 rfl (eH (k:=i) rfl rfl aC aO rfl ai) (.E 14 hs ?_));refine .store (c':=us++ .slice a41 l41 c41::List.replicate (X.length - i - 1) (.slice none 0 0)) hs rfl rfl aO ?_ dC (by simp;omega) (by rw [List.set_append_right _ _ ai,Lz,Nat.sub_self];rfl);intro w hs;refine .go (.D hs (nB ?_))
  rcases Um with ⟨g1,g2,g3⟩|⟨g1,g2,g3⟩
  ·exact ⟨H4,[.blk b7 [.slice (some ⟨yD,0,none⟩) l1.length l1.length],.blk yD (us++ .slice a41 l41 c41::List.replicate (X.length - i - 1) (.slice none 0 0)),en41],HLe.refl _,(hs.sb:St H4 w (.blk b7 _:: .blk yD _::en41::uM)),_,rfl,by rw [g2,g3];exact .go us _ en41 h h1 hO rfl⟩
  ·obtain ⟨H5,lk,hR,hs⟩:=dj.eI hO (by rw [List.length_take,l9];omega) hs dC;rw [List.take_of_length_le (by rw [l9];omega)] at hR;have Qm:RLs H5 (us++[.slice a41 l41 c41]) (pQ X Y (i+1)):=by rw [CK];exact (h1.mono lk).snoc hR
   by_cases e:i+1<X.length
   ·refine ⟨H5,[.blk b7 [.slice (some ⟨yD,0,none⟩) l1.length l1.length],.blk yD (us++ .slice a41 l41 c41::List.replicate (X.length - i - 1) (.slice none 0 0)),.nul],lk,(hs.nul.sb:St H5 w (.blk b7 _:: .blk yD _:: .nul::uM)),_,rfl,?_⟩;rw [g2,g3];refine .go (us++[.slice a41 l41 c41]) (.slice none 0 0) .nul e Qm (.nil 1 none) ?_;obtain ⟨m,hm⟩:∃m,X.length - i - 1=m+1:=⟨X.length - i - 2,ai⟩;rw [hm,show X.length - (i+1) - 1=m by omega,List.append_assoc];rfl
   ·refine ⟨H5,[.blk b7 [.slice (some ⟨yD,0,none⟩) l1.length l1.length],.blk yD (us++ .slice a41 l41 c41::List.replicate (X.length - i - 1) (.slice none 0 0))],lk,(hs.sb:St H5 w (.blk b7 _:: .blk yD _::uM)),_,rfl,?_⟩;rw [g2,g3];refine .fin (us++[.slice a41 l41 c41]) ai Qm ?_;rw [show X.length - i - 1=0 by omega];rfl
 ·rintro D H4 zE w gj ⟨σ1,rfl,hG⟩ hs;rw [Nat.mul_div_cancel _ ai,Nat.mul_mod_left] at hG
  cases hG with
  |go us v en h=>omega
  |fin us h h1 h3=>
  subst h3;replace hs:St H4 w (.obj D (.deferred (some [])):: .blk b7 [.slice (some ⟨yD,0,none⟩) l1.length l1.length]:: .blk yD us::σ):=hs;have Lz:us.length=l1.length:=by rw [h1.1,mC,Hg]
  refine nB (nT (.af (.y hs (zld aao) (.zn zg (.ret ?_)))));obtain ⟨H5,lk,hR,hs⟩:=h1.dn (v:= .slice (some ⟨yD,0,none⟩) l1.length l1.length) (en:= .blk yD us) (.full (by simp [Lz])) ai hs dC;rw [Hg] at hR;exact Fin.iG [D] [] hs fun w hs=>⟨_,results1 results216 rfl,H5,gK.trans (gj.trans lk),hR,hs.out⟩
theorem rA{w:World}(hs:St H w σ)(Kg:RI H v1 l1)(A0:RI H v2 l2):
  ab8 163 [v1,v2] w fun u w'=>∃H1 vo e,HLe H H1∧u= .tuple #[vo,I e]∧(gy 9 100000 l1∧gy 7 15000 l2→e=0∧RT H1 vo (pQ (wts l1) (wts l2) l1.length))∧(e=0→gy 9 100000 l1∧gy 7 15000 l2)∧St H1 w' σ:=by
 refine Cl.o func163 ntmps163 ag2 ?_;refine .af (.z zg (.zn zg (.seq (.af (.z zm (.z zm (.o (.call call215 rfl (w9 hs Kg A0) ?_))))))));rintro _ w ⟨b8,rfl,Qi,hs⟩;refine .zn fE (.cond rfl (fun om=>?_) (fun om=>?_))
 ·exact .af (.z zg (.zn zg (.ret (rT (Fin.iz results163 rfl rfl ⟨H,_,_,HLe.refl H,rfl,fun h=>(by rw [Qi.2 h] at om;cases om),fun h=>ai,hs⟩)))))
 ·refine .skip (nT (.af (.z zm (.z zm ?_))));have hp:=Qi.1 (by simpa using om);refine .o (.call call216 rfl (Ae hs Kg A0 hp.1 hp.2) ?_);rintro v12 w ⟨H1,az,hR,hs⟩;exact .z zg (.zn zg (.ret (Fin.iz results163 rfl rfl ⟨H1,_,_,az,rfl,fun _=>⟨rfl,hR⟩,fun _=>hp,hs⟩)))
theorem TR{many:Nat}{l:List Int}(h2:2≤l.length)(hm:l.length≤many)(h:∀j<l.length,0≤gi l j∧gi l j≤most∧(0<j→gi l (j - 1)<gi l j)):gy many most l:=
 ⟨h2,hm,(h 0 ai).1,(h (l.length - 1) ai).2.1,fun i hi=>by have:=(h (i+1) hi).2.2 ai;rwa [Nat.add_sub_cancel] at this⟩
theorem yf{many:Nat}{l:List Int}(h:gy many most l){j:Nat}(hj:j<l.length):0≤gi l j∧gi l j≤most∧(0<j→gi l (j - 1)<gi l j):=
 ⟨(h.bd hj).1,(h.bd hj).2,fun h0=>by have:=h.rise (j - 1) ai;rwa [Nat.sub_add_cancel h0] at this⟩
theorem mb{w:World}{v:Value}{l:List Int}{many:Nat}(hs:St H w σ)(hr:RI H v l)(aaY:many≤1000):
  ab8 217 [v,I many,I most] w fun u w'=>∃b:Bool,u= .bool b∧(b=true↔gy many most l)∧St H w' σ:=by
 obtain ⟨a,c,rfl⟩:=RI.shape hr;have hlen:=(RI.len hr).2.2;refine Cl.o func217 ntmps217 ag3 ?_;refine .af (.zn zg (.seq (.af (.z zm (.z (dk ae) (.z gV (.z zm (.ie (t':=11) rfl (fun oV=>?_) (fun oV=>?_)))))))))
 ·exact .Fs 4 3 false (.zn zpT (.cT (.af (.zn zg (.ret (rT (Fin.bu Py rfl ⟨false,rfl,⟨fun h=>(by cases h),fun h=>by have:=h.two;omega⟩,hs⟩)))))))
 ·refine .T (.z zm (.T (.z (dk ae) (.T (.z zm (.T (.z ld (.zn zpF (.bA rfl (fun dY=>?_) (fun dY=>?_))))))))))
  ·exact .af (.zn zg (.ret (rT (Fin.bu Py rfl ⟨false,rfl,⟨fun h=>(by cases h),fun h=>by have:=h.many;omega⟩,hs⟩))))
  ·refine .skip (nT (.seq (.af (.zn zg (.block ?_)))));refine .loop (fun k:Nat=>⟨52,[],[(7,I (k:Int)),(0,.slice a l.length c),(1,I (many:Int)),(2,I most)]⟩)
    (fun k w=>k≤l.length∧(∀j<k,0≤gi l j∧gi l j≤most∧(0<j→gi l (j - 1)<gi l j))∧St H w σ) (fun k=>l.length - k) 0 (.da rfl bK aM)
    ⟨Nat.zero_le _,fun j hj=>by omega,hs⟩ ?_
   rintro k w ⟨hk,fa,hs⟩;refine .seq (.af (.z zm (.z zm (.z (dk ae) (.zn gV (.bA rfl (fun mU=>?_) (fun mU=>?_)))))))
   ·refine .skip (nT (.seq (.block (.seq (.draw mix rfl hs fun w hs=>?_)))));refine .zw 0 rfl zm ?_;refine .z 1 rfl zm ?_;refine .ixX (enc:=fun x=>[I x]) (i:=2) hs rfl aD .none hr rfl rfl ae ak (bG (l:=l) (i:=k) ai) dp ?_;intro F3 o25 gv;replace gv:=bJ.one gv;refine .r (i:=3) hs rfl aD .none (aF rfl aj gv) ?_;refine .zw 4 rfl gV ?_;refine .z 5 rfl zm ?_;refine .ie (t':=28) rfl (fun xP=>?_) (fun xP=>?_)
    ·refine .F 6 rfl (.F 7 rfl (.F 8 rfl (.F 9 rfl (.F 10 rfl (.F 11 rfl (.zw 12 rfl zpT ?_))))));refine .z 13 rfl zm ?_;refine .F 14 rfl (.F 15 rfl ?_);refine .F 16 rfl (.F 17 rfl (.F 18 rfl (.F 19 rfl (.F 20 rfl (.F 21 rfl (.F 22 rfl (.F 23 rfl (.F 24 rfl (.F 25 rfl (.F 26 rfl (.F 27 rfl (.zw 28 rfl zpT ?_))))))))))));refine .D hs ?_;exact (.cT (.af (.zn zg (.ret (rB (rT (rT (rB (rT (Fin.bu Py rfl ⟨false,rfl,⟨fun h=>(by cases h),fun h=>by have:=yf h (j:=k) ai;omega⟩,hs⟩))))))))))
    ·refine .zw 6 rfl zm ?_;refine .z 7 rfl zm ?_;refine .ixX (enc:=fun x=>[I x]) (i:=8) hs rfl aD (.some rfl rfl) hr rfl rfl ae ak (bG (l:=l) (i:=k) ai) dp ?_;intro Pp o31 oU;replace oU:=bJ.one oU;refine .r (i:=9) hs rfl aD (.some rfl rfl) (aF rfl aj oU) ?_;refine .zw 10 rfl zm ?_;refine .z 11 rfl ld ?_;refine .z 12 rfl zpF ?_;refine .z 13 rfl zm ?_;refine .ie (t':=36) rfl (fun Mq=>?_) (fun Mq=>?_)
     ·refine .F 14 rfl (.F 15 rfl ?_);refine .F 16 rfl (.F 17 rfl (.F 18 rfl (.F 19 rfl (.F 20 rfl (.F 21 rfl (.F 22 rfl (.F 23 rfl (.F 24 rfl (.F 25 rfl (.F 26 rfl (.F 27 rfl (.zw 28 rfl zpT ?_))))))))))));refine .D hs ?_;exact (.cT (.af (.zn zg (.ret (rB (rT (rT (rB (rT (Fin.bu Py rfl ⟨false,rfl,⟨fun h=>(by cases h),fun h=>by have:=yf h (j:=k) ai;omega⟩,hs⟩))))))))))
     ·refine .zw 14 rfl zm ?_;refine .z 15 rfl ld ?_;refine .z 16 rfl zm ?_;refine .ie (t':=39) rfl (fun G7=>?_) (fun G7=>?_)
      ·refine .zw 17 rfl zm ?_;refine .z 18 rfl zm ?_;refine .z 19 rfl gE ?_;refine .ixX (enc:=fun x=>[I x]) (i:=20) hs rfl aD (.some rfl rfl) hr rfl rfl ae ak (bG (l:=l) (i:=(k-1)) ai) dp ?_;intro WR o43 B5;replace B5:=bJ.one B5;refine .r (i:=21) hs rfl aD (.some rfl rfl) (aF rfl aj B5) ?_;refine .zw 22 rfl zm ?_;refine .z 23 rfl zm ?_;refine .ixX (enc:=fun x=>[I x]) (i:=24) hs rfl aD (.some rfl rfl) hr rfl rfl ae ak (bG (l:=l) (i:=k) ai) dp ?_;intro VF o47 oT;replace oT:=bJ.one oT;refine .r (i:=25) hs rfl aD (.some rfl rfl) (aF rfl aj oT) ?_;refine .zw 26 rfl tN ?_;refine .z 27 rfl zpT ?_;refine .z 28 rfl zpF ?_;refine .D hs ?_;refine (.bA rfl (fun B3=>?_) (fun B3=>?_))
       ·exact .af (.zn zg (.ret (rB (rT (rT (rB (rT (Fin.bu Py rfl ⟨false,rfl,⟨fun h=>(by cases h),fun h=>by have:=yf h (j:=k) ai;omega⟩,hs⟩))))))))
       ·refine .skip (nB (nT (.region (.z zm (.z cV (.zn zg (nT ?_)))))));exact ⟨k+1,.da rfl bK aM,⟨ai,fun j hj=>by
         by_cases e:j=k
         ·subst e;exact ⟨ai,ai,fun _=>by omega⟩
         ·exact fa j ai,hs⟩,ai⟩
      ·refine .F 17 rfl (.F 18 rfl (.F 19 rfl (.F 20 rfl (.F 21 rfl (.F 22 rfl (.F 23 rfl (.F 24 rfl (.F 25 rfl (.F 26 rfl (.zw 27 rfl zpF ?_))))))))));refine .z 28 rfl zpF ?_;refine .D hs ?_;refine (.cF (.skip (nB (nT (.region (.z zm (.z cV (.zn zg (nT ?_)))))))));exact ⟨k+1,.da rfl bK aM,⟨ai,fun j hj=>by
        by_cases e:j=k
        ·subst e;exact ⟨ai,ai,fun _=>by omega⟩
        ·exact fa j ai,hs⟩,ai⟩
   ·exact .exit (xT (xT (xB (nT (.af (.zn zg (.ret (Fin.bu Py rfl ⟨true,rfl,⟨fun _=>TR ai ai fun j hj=>fa j ai,fun _=>rfl⟩,hs⟩))))))))
theorem jO{w:World}{v:Value}{l:List Int}(hs:St H w σ)(hr:RI H v l):
  ab8 168 [v] w fun u w'=>∃e,u=I e∧((gy 9 100000 l∧e=0)∨(¬gy 9 100000 l∧e≠0))∧St H w' σ:=by
 refine Cl.o func168 ntmps168 ag1 ?_;refine .af (.zn zg (.seq (.af (.z zm (.o (.call call217 rfl (mb (many:=9) (most:=100000) hs hr ai) ?_))))));rintro _ w ⟨b4,rfl,UZ,hs⟩;refine .zn fE (.cond rfl (fun L4=>?_) (fun L4=>?_))
 ·exact .af (.zn zg (.ret (rT (Fin.bu results168 rfl ⟨_,rfl,.inr ⟨fun h=>by simp [UZ.2 h] at L4,by decide⟩,hs⟩))))
 ·exact .skip (nT (.af (.zn zg (.ret (Fin.bu results168 rfl ⟨_,rfl,.inl ⟨UZ.1 (by simpa using L4),rfl⟩,hs⟩)))))
theorem PH{b k:Int}(hk:1≤k∧k≤3)(h:a*k=b∨b*k=a)(fa:∀j:Int,1≤j→j<k→¬(a*j=b∨b*j=a)):tms a b=k:=by
 have h3:k=1∨k=2∨k=3:=by omega
 unfold tms
 rcases h3 with rfl|rfl|rfl
 ·rw [if_pos ai]
 ·have:=fa 1 ai ai;rw [if_neg ai,if_pos h]
 ·have:=fa 1 ai ai;have:=fa 2 ai ai;rw [if_neg ai,if_neg this,if_pos h]
theorem Tw{b:Int}(fa:∀j:Int,1≤j→j<4→¬(a*j=b∨b*j=a)):tms a b=0:=by
 have:=fa 1 ai ai;have h2:=fa 2 ai ai;have h3:=fa 3 ai ai;unfold tms;rw [if_neg ai,if_neg h2,if_neg h3]
theorem qC{w:World}{b:Int}(hs:St H w σ)(ha:0≤a∧a≤100000)(hb:0≤b∧b≤100000):
  ab8 283 [I a,I b] w fun u w'=>u=I (tms a b)∧St H w' σ:=by
 refine Cl.o func283 ntmps283 ag2 ?_;refine .af (.zn zg (.seq (.af (.zn zg (.block ?_)))));refine .loop (fun k:Nat=>⟨23,[],[(5,I (k:Int)),(0,I a),(1,I b)]⟩)
  (fun k w=>1≤k∧k≤4∧(∀j:Int,1≤j→j<k→¬(a*j=b∨b*j=a))∧St H w σ) (fun k=>4 - k) 1 (.da rfl bK aM)
  ⟨ai,ai,fun j h1 h2=>by omega,hs⟩ ?_
 rintro k w ⟨BZ,hk4,fa,hs⟩;have abB:=lH (a:=a) (b:=(k:Int)) (A:=100000) (B:=4) ai ai;have DM:=lH (a:=b) (b:=(k:Int)) (A:=100000) (B:=4) ai ai;refine .seq (.af (.z zm (.zn pc (.bA rfl (fun P8=>?_) (fun P8=>?_)))))
 ·refine .skip (nT (.seq (.block (.af (.z zm (.z zm (.z la (.z zm (.z fJ (.z zm (.ie (t':=15) rfl (fun Ba=>?_) (fun Ba=>?_))))))))))))
  ·exact .Fs 5 5 false (.zn zpT (.cT (.af (.z zm (.zn zg (.ret (rB (rT (rT (rB (rT (Fin.bu results283 rfl ⟨by rw [PH ⟨ai,ai⟩ (.inl Ba) fa],hs⟩))))))))))))
  ·refine .T (.z zm (.T (.z zm (.T (.z la (.T (.z zm (.T (.z fJ (.zn zpF (.bA rfl (fun jx=>?_) (fun jx=>?_))))))))))))
   ·exact .af (.z zm (.zn zg (.ret (rB (rT (rT (rB (rT (Fin.bu results283 rfl ⟨by rw [PH ⟨ai,ai⟩ (.inr jx) fa],hs⟩)))))))))
   ·refine .skip (nB (nT (.region (.z zm (.z cV (.zn zg (nT ?_)))))));exact ⟨k+1,.da rfl bK aM,⟨ai,ai,fun j h1 h2=>by
     by_cases e:j=(k:Int)
     ·subst e;omega
     ·exact fa j h1 ai,hs⟩,ai⟩
 ·refine .exit (xT (xT (xB (nT (.af (.zn zg (.ret (Fin.bu results283 rfl ?_))))))));obtain rfl:k=4:=by omega
  exact ⟨by rw [Tw fa],hs⟩
def Grp.c(g:Grp):List Value:=[I (g.at_:Int),I (g.n:Int)]
def Pu(l:List Grp):List Value:=(l.map Grp.c).flatten
theorem HF(a b:List Grp):Pu (a++b)=Pu a++Pu b:=by simp [Pu]
theorem Bq:∀l:List Grp,(Pu l).length=l.length*2
 |[]=>rfl
 |g::l=>by have:=Bq l;simp only [Pu,List.map_cons,List.flatten_cons,List.length_append,List.length_cons] at this ⊢;rw [this];simp [Grp.c];omega
set_option maxHeartbeats 1000000 in
theorem xt{w:World}{v:Value}{l:List Int}(hs:St H w σ)(hr:RI H v l)(hp:gy 9 100000 l):
  ab8 282 [v] w fun u w'=>∃H1,HLe H H1∧RS H1 2 u ((pP l).map Grp.c)∧St H1 w' σ:=by
 obtain ⟨a,c,rfl⟩:=RI.shape hr;have hlen:=hp.many;have Nj:(pP l).length≤9:=by have:=oH l l.length 0;unfold pP;omega
 refine Cl.o func282 ntmps282 ag1 ?_;refine .af (.zn zg (.af (.zn zg (.af (.zn zg (.seq (.block ?_)))))));refine .loop (fun p:Nat×Value=>⟨51,[],[(4,I (p.1:Int)),(3,p.2),(0,.slice a l.length c)]⟩)
  (fun p w=>p.1≤l.length∧∃j en,j≤(pP l).length∧(pP l).drop j=qM l p.1∧dj 2 p.2 (Pu ((pP l).take j)) en∧St H w (en::σ)) (fun p=>l.length - p.1) (0,.slice none 0 0) aM
  ⟨Nat.zero_le _,0,_,Nat.zero_le _,rfl,.nil 2 none,hs.nul⟩ ?_
 rintro ⟨i,vo⟩ w ⟨qL,j,en,hj,hd,hO,hs⟩;dsimp only at qL hd hO ⊢;have zb:=List.length_take_le j (pP l);refine .seq (.af (.z zm (.z cV (.z zm (.z (dk ae) (.zn gV (.bA rfl (fun mB=>?_) (fun mB=>?_))))))))
 ·refine .skip (nT (.block (.af (.zn zg (.cut (fun fs w=>lr fs ⟨51,[],[(5,I (((if fK l i then 2 else 1:Nat)):Int)),(4,I (i:Int)),(3,vo),(0,.slice a l.length c)]⟩∧St H w (en::σ)) ?_ ?_)))))
  ·refine .seq (.draw mix rfl hs fun w hs=>?_);refine .zw 0 rfl zm ?_;refine .z 1 rfl cV ?_;refine .z 2 rfl zm ?_;refine .z 3 rfl (dk ae) ?_;refine .z 4 rfl gV ?_;refine .z 5 rfl zm ?_;refine .ie (t':=16) rfl (fun sc=>?_) (fun sc=>?_)
   ·refine .zw 6 rfl zm ?_;refine .z 7 rfl zm ?_;refine .z 8 rfl cV ?_;have r1:=hp.rise i ai;have r2:gi l (i+1)<gi l (i+2):=hp.rise (i+1) ai;have q1:=hp.bd (i:=i) ai;have q2:=hp.bd (i:=i+2) ai;refine .ixX (enc:=fun x=>[I x]) (i:=9) hs rfl aD (.some rfl rfl) hr rfl rfl ae ak (bG (l:=l) (i:=(i+1)) ai) dp ?_;intro BE o20 mU;replace mU:=bJ.one mU;refine .r (i:=10) hs rfl aD (.some rfl rfl) (aF rfl aj mU) ?_;refine .zw 11 rfl zm ?_;refine .z 12 rfl zm ?_;refine .ixX (enc:=fun x=>[I x]) (i:=13) hs rfl aD (.some rfl rfl) hr rfl rfl ae ak (bG (l:=l) (i:=i) ai) dp ?_;intro uQ o24 jw;replace jw:=bJ.one jw;refine .r (i:=14) hs rfl aD (.some rfl rfl) (aF rfl aj jw) ?_;refine .zw 15 rfl gE ?_;refine .z 16 rfl zm ?_;refine .z 17 rfl zm ?_;refine .z 18 rfl cV ?_;refine .ixX (enc:=fun x=>[I x]) (i:=19) hs rfl aD (.some rfl rfl) hr rfl rfl ae ak (bG (l:=l) (i:=(i+2)) ai) dp ?_;intro VK o30 qi;replace qi:=bJ.one qi;refine .r (i:=20) hs rfl aD (.some rfl rfl) (aF rfl aj qi) ?_;refine .zw 21 rfl zm ?_;refine .z 22 rfl zm ?_;refine .z 23 rfl cV ?_;refine .ixX (enc:=fun x=>[I x]) (i:=24) hs rfl aD (.some rfl rfl) hr rfl rfl ae ak (bG (l:=l) (i:=(i+1)) ai) dp ?_;intro Po o35 nv;replace nv:=bJ.one nv;refine .r (i:=25) hs rfl aD (.some rfl rfl) (aF rfl aj nv) ?_;refine .zw 26 rfl gE (.E 27 hs ?_);refine .call call283 rfl (qC hs ai ai) ?_;rintro _ w ⟨rfl,hs⟩;refine .go (.zw 28 rfl ld ?_);refine .z 29 rfl zpT ?_;refine .D hs ?_;refine (.bA rfl (fun pK=>?_) (fun pK=>?_))
    ·refine .region (.zn zg (nT ?_));have e:fK l i=true:=by simp [fK];omega
     rw [e];exact ⟨aM,hs⟩
    ·refine .skip (nT ?_);have e:fK l i=false:=by simp [fK];omega
     rw [e];exact ⟨aM,hs⟩
   ·refine .F 6 rfl (.F 7 rfl (.F 8 rfl (.F 9 rfl (.F 10 rfl (.F 11 rfl (.F 12 rfl (.F 13 rfl (.F 14 rfl (.F 15 rfl (.F 16 rfl ?_))))))))));refine .F 17 rfl (.F 18 rfl (.F 19 rfl (.F 20 rfl (.F 21 rfl (.F 22 rfl (.F 23 rfl (.F 24 rfl (.F 25 rfl (.F 26 rfl (.F 27 rfl (.F 28 rfl (.zw 29 rfl zpF ?_))))))))))));refine .D hs ?_;refine (.cF (.skip (nT ?_)));have e:fK l i=false:=by simp [fK];omega
    rw [e];exact ⟨aM,hs⟩
  ·rintro fs w ⟨gP,hs⟩;refine WE.sub ?_ gP;have S5:=Bb (l:=l) (i:=i) ai;rw [S5] at hd;have xI:j<(pP l).length:=by
    have:=congrArg List.length hd;simp at this;omega
   have Ym:(pP l)[j]? =some ⟨i,fK l i⟩:=by
    rw [List.drop_eq_getElem_cons xI] at hd;rw [List.getElem?_eq_getElem xI,(List.cons.inj hd).1]
   have Ys:(pP l).drop (j+1)=qM l (i+(if fK l i then 2 else 1)):=by
    rw [List.drop_eq_getElem_cons xI] at hd;exact (List.cons.inj hd).2
   have X0:(if fK l i then 2 else 1:Nat)=1∨(if fK l i then 2 else 1:Nat)=2:=by split<;>simp
   have hgc:Grp.c ⟨i,fK l i⟩=[I (i:Int),I (((if fK l i then 2 else 1:Nat)):Int)]:=rfl;generalize (if fK l i then 2 else 1:Nat)=n at*;refine .af (.z zm (.z zm (.z zm (.z (zbd [_,_] wI) (.o (.buildSlice (cells:=[_,_]) hs wE rfl rfl fun ZL w hs=>?_))))));refine .o (.append (ys:=[I (i:Int),I (n:Int)]) hs ou rfl rfl hO (.own .here rfl rfl) (by simp [Value.oneCell']) (fun l' h=>by rw [Bq] at h;omega) ?_);intro v46 en46 w eG hs;rw [←hgc,show Grp.c ⟨i,fK l i⟩=Pu [⟨i,fK l i⟩] by simp [Pu],←HF,←dX Ym] at eG;exact .zn zg (.region (.z zm (.z zm (.z cV (.zn zg (nB (nT ⟨(i+n,v46),.da rfl bK aM,⟨by dsimp only;omega,j+1,_,xI,Ys,eG,hs.sb⟩,by dsimp only;omega⟩)))))))
 ·refine .exit (xT (xT (xB (nT (.af (.z zm (.zn zg (.ret (Fin.bu results282 rfl ?_)))))))));rw [xS ai] at hd;have:(pP l).length≤j:=by simpa using hd
  obtain rfl:j=(pP l).length:=by omega
  rw [List.take_length] at hO;obtain ⟨H1,g1,r1,hs⟩:=dj.dn (m:=2) (cs:=(pP l).map Grp.c) hO (fun c hc=>by simp only [List.mem_map] at hc;obtain ⟨x,_,rfl⟩:=hc;rfl) ai (by rw [List.length_map];omega) hs .here;exact ⟨H1,g1,r1,hs⟩
theorem wh{l:List Int}(h:i≠j)(x:Int):gi (l.set i x) j=gi l j:=by
 simp [gi,List.getD,h]
set_option maxHeartbeats 1000000 in
theorem lE{w:World}{v:Value}{l:List Int}(hs:St H w σ)(hr:RI H v l)(hp:gy 9 100000 l):
  ab8 258 [v] w fun u w'=>∃H1,HLe H H1∧RI H1 u (wts l)∧St H1 w' σ:=by
 obtain ⟨a,c,rfl⟩:=RI.shape hr;have X7:=hp.many;have Nj:(pP l).length≤9:=by have:=oH l l.length 0;unfold pP;omega
 refine Cl.o func258 ntmps258 ag1 ?_;refine .af (.zn zg (.af (.z zm (.z (dk ae) (.o (.vO l.length hs rfl rfl ae jK rfl ak dA ai fun nD w hs=>?_))))));replace hs:St H w (.blk nD (Is (Ab l 0))::σ):=hs;refine .zn zg (.af (.z zm (.o (.call call282 rfl (xt hs hr hp) ?_))));rintro v18 w ⟨H1,az,hG,hs⟩;have Fe:=hr.mono az;obtain ⟨ag,cg,rfl⟩:=RS.shape hG;rw [List.length_map] at hG ⊢;refine .zn zg (.seq (.af (.zn zg (.block ?_))));refine .loop (fun k:Nat=>⟨133,[],[(5,I (k:Int)),(4,.slice ag (pP l).length cg),(3,.slice (some ⟨nD,0,none⟩) l.length l.length),(0,.slice a l.length c)]⟩)
  (fun k w=>k≤(pP l).length∧St H1 w (.blk nD (Is (Ab l k))::σ)) (fun k=>(pP l).length - k) 0 (.da rfl bK aM)
  ⟨Nat.zero_le _,hs⟩ ?_
 rintro k w ⟨hk,hs⟩;refine .seq (.af (.z zm (.z zm (.z (dk tz) (.zn gV (.bA rfl (fun jV=>?_) (fun jV=>?_)))))))
 ·refine .skip (nT (.seq (.block (.af (.z zm (.z zm ?_))))));have xI:k<(pP l).length:=by omega
  obtain ⟨g,hg⟩:=nth xI;obtain ⟨i1,i2,i3,i4,i5⟩:=Bc hp (List.mem_of_getElem? hg);have hK:=Aa hg;have Zr:=pY l k;have hKz:=w7 hp k ai;have z0:=kO (Ab l k) (v:=g.at_) (n:=l.length) ai;have z1:=kO (Ab l k) (v:=g.at_+1) (n:=l.length) ai;have JF:=hp.bd (i:=g.at_) ai;have OC:=hp.bd (i:=g.at_+1) ai;have hgm:((pP l).map Grp.c)[k]? =some (Grp.c g):=by rw [List.getElem?_map,hg];rfl
  generalize Ab l k=W at*;have e1:∀x,gi (W.set g.at_ x) (g.at_+1)=gi W (g.at_+1):=fun x=>wh ai x
  generalize hA:gi l (g.at_+1) - gi l g.at_=A at*;refine .ixX (enc:=Grp.c) hs hG rfl rfl tz Ka hg dp ?_;intro z6 o27 nS;have d0:cellAt H1 z6 o27=some (I (g.at_:Int)):=nS 0 _ rfl;have d1:cellAt H1 z6 (o27+1)=some (I (g.n:Int)):=nS 1 _ rfl;refine .z (zfa iS) (.y hs (zld aj) (.zn zg (.seq (.draw mix rfl hs fun w hs=>?_))));refine .zw 0 rfl zm ?_;refine .z 1 rfl zm ?_;refine .z 2 rfl cV ?_;refine .ixX (enc:=fun x=>[I x]) (i:=3) hs rfl aD .none Fe rfl rfl ae ak (bG (l:=l) (i:=(g.at_+1)) ai) dp ?_;intro WT o33 nQ;replace nQ:=bJ.one nQ;refine .r (i:=4) hs rfl aD .none (aF rfl aj nQ) ?_;refine .zw 5 rfl zm ?_;refine .z 6 rfl zm ?_;refine .ixX (enc:=fun x=>[I x]) (i:=7) hs rfl aD .none Fe rfl rfl ae ak (bG (l:=l) (i:=g.at_) ai) dp ?_;intro CQ o37 pL;replace pL:=bJ.one pL;refine .r (i:=8) hs rfl aD .none (aF rfl aj pL) ?_;refine .zw 9 rfl gE ?_;rw [hA];refine .zw 10 rfl zg ?_;refine .D hs ?_;refine .seq (.af (.z zm (.z zm (.ixX (enc:=Grp.c) hs hG rfl rfl tz Ka hg dp ?_))));intro VH o42 Fq;have d2:cellAt H1 VH (o42+1)=some (I (g.n:Int)):=Fq 1 _ rfl;refine .z (zfa kK) (.y hs (zld aj) (.zn fJ (.bA rfl (fun zi=>?_) (fun zi=>?_))))
  ·refine .af (.z zm (.z zm (.q hs (eH (k:=g.at_) rfl rfl ae ak ai ai) (.y hs (zld aj) (.z zm (.z la (.z cV (.q hs (eH (k:=g.at_) rfl rfl ae ak ai ai) (.o (.store hs rfl rfl ak fun w hs=>?_))))))))));refine .nil (.af (.z zm (.z zm (.z cV (.q hs (eH (k:=g.at_+1) rfl rfl ae ak ai ai) (.q hs (eQ rfl aj (hv:=gd (by rw [List.length_set];omega))) ?_))))));rw [e1];refine .z zm (.z la (.z cV (.q hs (eH (k:=g.at_+1) rfl rfl ae ak ai ai) (.o (.store hs rfl rfl ak ?_ dC (by simp [Is];omega))))));intro w hs;refine .nil (.exit (xT (xB (nT (.region (.z zm (.z cV (.zn zg (nT ?_)))))))));have h2:g.two=false:=by
    cases e:g.two with
    |false=>rfl
    |true=>simp [Grp.n,e] at zi
   rw [IM h2 hA] at hK;have e:Ab l (k+1)=(W.set g.at_ (gi W g.at_+18*A)).set (g.at_+1) (gi W (g.at_+1)+18*A):=by rw [hK];simp only [ob];rw [e1]
   exact ⟨k+1,.da rfl bK aM,⟨ai,by rw [e];exact hs⟩,ai⟩
  ·refine .skip (nT (.seq (.draw mix rfl hs fun w hs=>?_)));have h2:g.two=true:=by
    cases e:g.two with
    |true=>rfl
    |false=>simp [Grp.n,e] at zi
   obtain ⟨j1,j2,j3,j4⟩:=i4 h2;have aaR:=hp.bd (i:=g.at_+2) ai;have z2:=kO W (v:=g.at_+2) (n:=l.length) ai;have e2:∀x y,gi ((W.set g.at_ x).set (g.at_+1) y) (g.at_+2)=gi W (g.at_+2):=fun x y=>by rw [wh ai,wh ai]
   generalize hB:gi l (g.at_+2) - gi l (g.at_+1)=B at*;have hk3:=KA j4;have LM:=Cw (a:=A) (b:=B) ⟨ai,ai⟩ ⟨ai,ai⟩;obtain ⟨n1,n2,n3,n4⟩:=IK hk3 LM.1 LM.2;obtain ⟨n5,n6,n7,n8,n9⟩:=n4 _ n3.1 n3.2;have UA:=IL h2 hA hB rfl rfl;refine .zw 0 rfl zm ?_;refine .z 1 rfl zm ?_;refine .z 2 rfl cV ?_;refine .ixX (enc:=fun x=>[I x]) (i:=3) hs rfl aD .none Fe rfl rfl ae ak (bG (l:=l) (i:=(g.at_+2)) ai) dp ?_;intro b66 o66 sa;replace sa:=bJ.one sa;refine .r (i:=4) hs rfl aD .none (aF rfl aj sa) ?_;refine .zw 5 rfl zm ?_;refine .z 6 rfl zm ?_;refine .z 7 rfl cV ?_;refine .ixX (enc:=fun x=>[I x]) (i:=8) hs rfl aD .none Fe rfl rfl ae ak (bG (l:=l) (i:=(g.at_+1)) ai) dp ?_;intro VD o71 vZ;replace vZ:=bJ.one vZ;refine .r (i:=9) hs rfl aD .none (aF rfl aj vZ) ?_;refine .zw 10 rfl gE ?_;rw [hB];refine .zw 11 rfl zg ?_;refine .D hs ?_;refine .af (.z zm (.z zm (.o (.call call283 rfl (qC hs ai ai) ?_))));rintro _ w ⟨rfl,hs⟩;generalize hT:tms A B=T at*;refine .zn zg (.af (.z zm (.z zm (.z EE ?_))));generalize hM:min A B=M at*;refine .zn zg (.af (.z zm (.q hs (yu rfl rfl ai ai) (.z zm (.z cV (.z la (.z zm (.z la (.zn zg (.af (.z zm (.z zm (.z la (.z zm (.z gE (.z la (.zn zg (.af (.z zm (.z zm (.z la (.z gE (.z la (.zn zg (.cut (fun fs w=>∃x y:Int,lr fs ⟨133,[],[(13,I y),(12,I x),(11,I ((6:Int).tdiv T*(1+T)*M)),(9,I T),(6,I (g.at_:Int)),(5,I (k:Int)),(4,.slice ag (pP l).length cg),(3,.slice (some ⟨nD,0,none⟩) l.length l.length),(0,.slice a l.length c)]⟩∧(-6000000≤x∧x≤6000000)∧(-6000000≤y∧y≤6000000)∧Ca l g=[x,(6:Int).tdiv T*(1+T)*M*(1+T)*(1+T),y]∧St H1 w (.blk nD (Is W)::σ)) ?_ ?_)))))))))))))))))))))))))
   ·refine .af (.z zm (.z zm (.zn ld (.bA rfl (fun nU=>?_) (fun nU=>?_)))))
    ·exact .region (.z zm (.z zm (.z zg (.zn zg (nT ⟨_,_,aM,ai,ai,by rw [UA,if_pos nU],hs⟩)))))
    ·exact .skip (nT ⟨_,_,aM,ai,ai,by rw [UA,if_neg ai],hs⟩)
   ·rintro fs w ⟨x,y,gP,hx,hy,P5,hs⟩;refine WE.sub ?_ gP;have e:Ab l (k+1)=((W.set g.at_ (gi W g.at_+x)).set (g.at_+1) (gi W (g.at_+1)+(6:Int).tdiv T*(1+T)*M*(1+T)*(1+T))).set (g.at_+2) (gi W (g.at_+2)+y):=by
     rw [hK,P5];simp only [ob];rw [e1,show g.at_+1+1=g.at_+2 by omega,e2]
    refine .af (.z zm (.z zm (.q hs (eH (k:=g.at_) rfl rfl ae ak ai ai) (.y hs (zld aj) (.z zm (.z cV (.q hs (eH (k:=g.at_) rfl rfl ae ak ai ai) (.o (.store hs rfl rfl ak fun w hs=>?_)))))))));refine .nil (.af (.z zm (.z zm (.z cV (.q hs (eH (k:=g.at_+1) rfl rfl ae ak ai ai) (.q hs (eQ rfl aj (hv:=gd (by rw [List.length_set];omega))) ?_))))));rw [e1];refine .z zm (.z zm (.z cV (.z la (.z zm (.z cV (.z la (.z cV (.q hs (eH (k:=g.at_+1) rfl rfl ae ak ai ai) (.o (.store hs rfl rfl ak ?_ dC (by simp [Is];omega)))))))))));intro w hs;refine .nil (.region (.z zm (.z zm (.z cV (.q hs (eH (k:=g.at_+2) rfl rfl ae ak ai ai) (.q hs (eQ rfl aj (hv:=gd (by rw [List.length_set,List.length_set];omega))) ?_))))));rw [e2];refine .z zm (.z cV (.q hs (eH (k:=g.at_+2) rfl rfl ae ak ai ai) (.o (.store hs rfl rfl ak ?_ dC (by simp [Is];omega)))));intro w hs;exact .nil (nB (nT (.region (.z zm (.z cV (.zn zg (nT ⟨k+1,.da rfl bK aM,⟨ai,by rw [e];exact hs⟩,ai⟩)))))))
 ·refine .exit (xT (xT (xB (nT (.af (.z zm (.zn zg (.ret (Fin.bu results258 rfl ?_)))))))));obtain rfl:k=(pP l).length:=by omega
  rw [HV] at hs;obtain ⟨H3,cZ,hR,hs⟩:=dj.eI (xs:=wts l) (v:= .slice (some ⟨nD,0,none⟩) l.length l.length) (.full (by simp [Is,fF])) (by rw [fF];omega) hs .here;exact ⟨H3,az.trans cZ,hR,hs⟩
theorem oD{w:World}{v:Value}{l:List Int}(hs:St H w σ)(hr:RI H v l)(hp:gy 9 100000 l):
  ab8 214 [v] w fun u w'=>∃H1 vo,HLe H H1∧u= .tuple #[vo,I 0]∧RI H1 vo (wts l)∧St H1 w' σ:=by
 refine Cl.o func214 ntmps214 ag1 ?_;refine .af (.z zg (.zn zg (.seq (.af (.z zm (.o (.call call168 rfl (jO hs hr) ?_)))))));rintro _ w ⟨e,rfl,he,hs⟩;obtain rfl:e=0:=he.elim (fun h=>h.2) fun h=>(h.1 hp).elim
 refine .zn fU (.dK rfl (fun P8=>?_) (fun P8=>?_))
 ·exact .af (.z zg (.zn zg (.ret (rT (Fin.iz results214 rfl rfl ((P8 rfl).elim))))))
 ·refine .skip (nT (.af (.z zm (.o (.call call258 rfl (lE hs hr hp) ?_)))));rintro v9 w ⟨H1,az,hR,hs⟩;exact .zn zg (.af (.z zm (.z zg (.zn zg (.ret (Fin.iz results214 rfl rfl ⟨H1,_,az,rfl,hR,hs⟩))))))
theorem vf{w:World}{a b:List Int}(hs:St H w σ)(h1:RI H v1 a)(h2:RI H v2 b)(zQ:gy 9 100000 a)(uO:gy 7 15000 b):
  ab8 257 [v1,v2] w fun u w'=>u= .bool true∧St H w' σ:=by
 refine Cl.o func257 ntmps257 ag2 ?_;refine .af (.zn zg (.af (.z zm (.o (.call call217 rfl (mb (many:=9) (most:=100000) hs h1 ai) ?_)))));rintro _ w ⟨b6,rfl,Gn,hs⟩;refine .z zm (.bif (t':=7) rfl (fun Nk=>?_) (fun Nk=>?_))
 ·refine .T (.z zm (.T (.o (.call call217 rfl (mb (many:=7) (most:=15000) hs h2 ai) ?_))));rintro _ w ⟨b9,rfl,RV,hs⟩;exact .z zpT (.zn zg (.ret (Fin.bu results257 rfl ⟨by rw [RV.2 uO],hs⟩)))
 ·refine .Fs 2 2 true (.z zpF (.zn zg (.ret (Fin.bu results257 rfl ?_))));rw [Gn.2 zQ] at Nk;cases Nk
set_option maxHeartbeats 1000000 in
theorem AI{w:World}(hs:St H w σ)(Kg:RI H v1 l1)(A0:RI H v2 l2)(zQ:gy 9 100000 l1)(uO:gy 7 15000 l2):
  ab8 213 [v1,v2] w fun u w'=>∃H1 vo,HLe H H1∧u= .tuple #[vo,I 0]∧RT H1 vo (pQ (wts l1) (wts l2) l1.length)∧St H1 w' σ:=by
 obtain ⟨a1,c1,rfl⟩:=RI.shape Kg;obtain ⟨a2,c2,rfl⟩:=RI.shape A0;have ze:=zQ.many;have SY:=uO.many;have Ro:gy 9 100000 l2:=⟨uO.two,ai,uO.low,by have:=uO.high;omega,uO.rise⟩;have Hg:=fF l1;have U6:=fF l2;have YZ:=HU zQ;have YY:=HU uO;refine Cl.o func213 ntmps213 ag2 ?_;refine .af (.z zg (.zn zg (.seq (.af (.z zm (.z zm (.o (.call call257 rfl (vf hs Kg A0 zQ uO) ?_))))))));rintro _ w ⟨rfl,hs⟩;refine .zn fE (.cond rfl (fun fq=>?_) (fun fq=>?_))
 ·refine .af (.z zg (.zn zg (.ret (rT (Fin.iz results213 rfl rfl ?_)))));cases fq
 ·refine .skip (nT (.af (.z zm (.o (.call call258 rfl (lE hs Kg zQ) ?_)))));rintro v17 w ⟨H1,az,hX,hs⟩;refine .zn zg (.af (.z zm (.o (.call call258 rfl (lE hs (A0.mono az) Ro) ?_))));rintro v19 w ⟨H2,bp,hY,hs⟩;replace hX:=hX.mono bp;generalize wts l1=X at*;generalize wts l2=Y at*;obtain ⟨aX,cX,rfl⟩:=RI.shape hX;obtain ⟨aY,cY,rfl⟩:=RI.shape hY;refine .zn zg (.af (.zn zg (.seq (.af (.zn zg (.block ?_))))));refine .loop (fun p:Nat×Value=>⟨49,[],[(9,I (p.1:Int)),(8,p.2),(7,.slice aY Y.length cY),(6,.slice aX X.length cX)]⟩)
   (fun p w=>p.1≤X.length∧∃H3 us en,HLe H2 H3∧RLs H3 us (pQ X Y p.1)∧dj 1 p.2 us en∧St H3 w (en::σ)) (fun p=>X.length - p.1) (0,.slice none 0 0) aM
   ⟨Nat.zero_le _,H2,[],_,HLe.refl _,RLs.nil _,.nil 1 none,hs.nul⟩ ?_
  rintro ⟨i,vo⟩ w ⟨hi,H3,us,en,cZ,Td,hO,hs⟩;dsimp only at hi Td hO ⊢;have Lz:us.length=i:=by rw [Td.1,mC]
  refine .seq (.af (.z zm (.z zm (.z (dk ae) (.zn gV (.bA rfl (fun kX=>?_) (fun kX=>?_)))))))
  ·refine .skip (nT (.seq (.block (.af (.zn zg (.seq (.af (.zn zg (.block ?_)))))))));refine .loop (fun p:Nat×Value=>⟨49,[],[(11,I (p.1:Int)),(10,p.2),(9,I (i:Int)),(8,vo),(7,.slice aY Y.length cY),(6,.slice aX X.length cX)]⟩)
    (fun p w=>p.1≤Y.length∧∃en2,dj 1 p.2 (Is ((Ee X Y i).take p.1)) en2∧St H3 w (en2::en::σ)) (fun p=>Y.length - p.1) (0,.slice none 0 0) aM
    ⟨Nat.zero_le _,_,.nil 1 none,hs.nul⟩ ?_
   rintro ⟨k,vr⟩ w ⟨hk,en2,eG,hs⟩;dsimp only at hk eG ⊢;refine .seq (.af (.z zm (.z zm (.z (dk ae) (.zn gV (.bA rfl (fun nR=>?_) (fun nR=>?_)))))))
   ·refine .skip (nT (.seq (.block (.draw mix rfl hs fun w hs=>?_))));refine .zw 0 rfl zm ?_;refine .z 1 rfl zm ?_;refine .z 2 rfl zm ?_;have LU:k<Y.length:=by omega
    have Ej:=YZ i;have BD:=YY k;have XV: -3456000000000≤gi X i*gi Y k∧gi X i*gi Y k≤3456000000000:=lH (A:=4800000) (B:=720000) (by unfold ab at Ej;omega) (by unfold ab at BD;omega);refine .ixX (enc:=fun x=>[I x]) (i:=3) hs rfl aD .none (hX.mono cZ) rfl rfl ae ak (bG (l:=X) (i:=i) ai) dp ?_;intro Po o35 nv;replace nv:=bJ.one nv;refine .r (i:=4) hs rfl aD .none (aF rfl aj nv) ?_;refine .zw 5 rfl zm ?_;refine .z 6 rfl zm ?_;refine .ixX (enc:=fun x=>[I x]) (i:=7) hs rfl aD .none (hY.mono cZ) rfl rfl ae ak (bG (l:=Y) (i:=k) ai) dp ?_;intro SA o39 kq;replace kq:=bJ.one kq;refine .r (i:=8) hs rfl aD .none (aF rfl aj kq) ?_;refine .zw 9 rfl la (.E 10 hs ?_);refine .buildSlice (cells:=[_]) hs dw rfl rfl ?_;intro VH w hs;refine .go (.E 11 hs ?_);refine .append (ys:=Is [gi X i*gi Y k]) hs df rfl rfl eG (.own .here rfl rfl) (ki _) (fun l' h=>by simp at h;omega) ?_;intro v43 en43 w Vf hs;rw [show Is ((Ee X Y i).take k)++Is [gi X i*gi Y k]=Is ((Ee X Y i).take (k+1)) by rw [EP LU];simp [Is]] at Vf;refine .go (.zw 12 rfl zg ?_);refine .D hs ?_;exact nB (nT (.region (.z zm (.z cV (.zn zg (nT ⟨(k+1,v43),.da rfl bK aM,⟨by dsimp only;omega,_,Vf,hs.sb⟩,by dsimp only;omega⟩))))))
   ·refine .exit (xT (xT (xB (nT (.region (.z zm (.z zm ?_)))))));obtain ⟨H4,gj,hR,hs⟩:=dj.eI eG (by rw [List.length_take,l9];omega) hs .here;rw [List.take_of_length_le (by rw [l9];omega)] at hR;obtain ⟨ar,cr,rfl⟩:=RI.shape hR;refine .o (.buildSlice (cells:=[_]) hs Ce rfl rfl fun WQ w hs=>?_);refine .o (.append (ys:=[.slice ar (Ee X Y i).length cr]) hs uH rfl rfl hO (.own .here rfl rfl) (by simp [Value.oneCell']) (fun l' h=>by omega) fun v47 en47 w Zn hs=>?_);have Y7:RLs H4 (us++[.slice ar (Ee X Y i).length cr]) (pQ X Y (i+1)):=by rw [CK];exact (Td.mono gj).snoc hR
    exact .zn zg (nB (nT (.region (.z zm (.z cV (.zn zg (nT ⟨(i+1,v47),.da rfl bK aM,⟨by dsimp only;omega,H4,_,_,cZ.trans gj,Y7,Zn,hs.sb⟩,by dsimp only;omega⟩)))))))
  ·refine .exit (xT (xT (xB (nT (.af (.z zm (.z zg (.zn zg (.ret (Fin.iz results213 rfl rfl ?_))))))))));obtain rfl:i=X.length:=by omega
   obtain ⟨H5,lk,hR,hs⟩:=Td.dn hO ai hs .here;exact ⟨H5,_,az.trans (bp.trans (cZ.trans lk)),rfl,by rw [←Hg];exact hR,hs⟩
theorem bP{w:World}(hs:St H w σ):ab8 164 [I a0,I a1,I a2] w fun v w'=>v= .bool (decide (a1≤a0∧a0≤a2))∧St H w' σ:=by
 refine Cl.o func164 ntmps164 ag3 ?_;refine .af (.zn zg (.af (.z zm (.z zm (.z pc (.z zm (.ie (t':=10) rfl (fun pO=>?_) (fun pO=>?_))))))))
 ·exact .T (.z zm (.T (.z zm (.T (.z pc (.z zpT (.zn zg (.ret (Fin.bu results164 rfl ⟨by simp [*],hs.out⟩)))))))))
 ·exact .Fs 3 3 true (.z zpF (.zn zg (.ret (Fin.bu results164 rfl ⟨by simp [*],hs.out⟩))))
theorem j5{w:World}(hs:St H w σ):ab8 165 [I a0] w fun v w'=>v= .bool (decide (1≤a0∧a0≤99999))∧St H w' σ:=by
 refine Cl.o func165 ntmps165 ag1 ?_;refine .af (.zn zg (.af (.z zm (.o (.call jP rfl (bP hs) ?_)))));rintro _ w ⟨rfl,hs⟩;exact .zn zg (.ret (Fin.bu results165 rfl ⟨rfl,hs⟩))
theorem lG{w:World}(hs:St H w σ)(h1:RI H cU s.st)(h2:RI H cO s.wa):
  ab8 111 [.agg #[I s.id,I s.src,cU,cO,I s.al,I s.up]] w fun v w'=>∃H1 e,HLe H H1∧v=I e∧((fB s∧e=0)∨(¬fB s∧e=30))∧St H1 w' σ:=by
 obtain ⟨iV,iT,rfl⟩:=RI.shape h1;obtain ⟨gX,gW,rfl⟩:=RI.shape h2;refine Cl.o func111 ntmps111 ag1 ?_;refine .af (.bx hs fun b1 w hs=>?_);refine .zn zg (.seq (.af (.z (zfa bV) (.y hs (zld an) (.z (zfa aZ) (.y hs (zld an) (.o (.call call163 rfl (rA hs h1 h2) ?_))))))));rintro _ w ⟨H1,vo,e,az,rfl,hG,hG',hs⟩;refine .z zm (.z zex (.z zex (.z zg (.zn zg (.af (.z zm (.z fU (.z zm (.F1 (t':=15) rfl (fun Ba=>?_) (fun Ba=>?_))))))))))
 ·exact .Fs 4 2 false (.z zpT (.z zm (.Fs 4 8 false (.z zpT (.z zm (.Fs 5 14 false (.z zpT (.z zm (.Fs 5 21 false (.zn zpT (.cT (.af (.zn zg (.ret (rT (Fin.bu PC rfl ⟨H1,_,az,rfl,.inr ⟨fun h=>by have:=(hG ⟨h.st,h.wa⟩).1;simp_all,rfl⟩,hs.out⟩))))))))))))))))
 ·refine .T (.z (zfa oY) (.T (.y hs (zld aj) (.T (.o (.call jP rfl (bP hs) ?_))))));rintro _ w ⟨rfl,hs⟩;refine .T (.z fE (.z zpF (.z zm (.bif (t':=21) rfl (fun xQ=>?_) (fun xQ=>?_)))))
  ·exact .Fs 4 8 false (.z zpT (.z zm (.Fs 5 14 false (.z zpT (.z zm (.Fs 5 21 false (.zn zpT (.cT (.af (.zn zg (.ret (rT (Fin.bu PC rfl ⟨H1,_,az,rfl,.inr ⟨fun h=>by have:=h.id;simp_all,rfl⟩,hs.out⟩)))))))))))))
  ·refine .T (.z (zfa eM) (.T (.y hs (zld aj) (.T (.o (.call call165 rfl (j5 hs) ?_))))));rintro _ w ⟨rfl,hs⟩;refine .T (.z fE (.z zpF (.z zm (.bif (t':=27) rfl (fun we=>?_) (fun we=>?_)))))
   ·exact .Fs 5 14 false (.z zpT (.z zm (.Fs 5 21 false (.zn zpT (.cT (.af (.zn zg (.ret (rT (Fin.bu PC rfl ⟨H1,_,az,rfl,.inr ⟨fun h=>by have:=h.src;simp_all,rfl⟩,hs.out⟩))))))))))
   ·refine .T (.z (zfa eW) (.T (.z (zfa lS) (.T (.y hs (zld aj) (.T (.o (.call jP rfl (bP hs) ?_))))))));rintro _ w ⟨rfl,hs⟩;refine .T (.z fE (.z zpF (.z zm (.bif (t':=34) rfl (fun YV=>?_) (fun YV=>?_)))))
    ·exact .Fs 5 21 false (.zn zpT (.cT (.af (.zn zg (.ret (rT (Fin.bu PC rfl ⟨H1,_,az,rfl,.inr ⟨fun h=>by have:=h.al;simp_all,rfl⟩,hs.out⟩)))))))
    ·refine .T (.z (zfa eW) (.T (.z (zfa lR) (.T (.y hs (zld aj) (.T (.o (.call jP rfl (bP hs) ?_))))))));rintro _ w ⟨rfl,hs⟩;refine .T (.z fE (.zn zpF (.cond rfl (fun pK=>?_) (fun pK=>?_))))
     ·exact .af (.zn zg (.ret (rT (Fin.bu PC rfl ⟨H1,_,az,rfl,.inr ⟨fun h=>by have:=h.up;simp_all,rfl⟩,hs.out⟩))))
     ·refine .skip (nT (.af (.zn zg (.ret (Fin.bu PC rfl ?_)))));have hg:=hG' (by simp_all);exact ⟨H1,_,az,rfl,.inl ⟨⟨hg.1,hg.2,by simp_all,by simp_all,by simp_all,by simp_all⟩,rfl⟩,hs.out⟩
theorem qY{w:World}{r:Rdg}(hs:St H w σ)(h1:RI H cU s.st)(h2:RI H cO s.wa):
  ab8 120 [.agg #[I s.id,I s.src,cU,cO,I s.al,I s.up],.agg #[I r.src,I r.st,I r.wa,I r.val,I r.tol,I r.tape,I r.day]] w fun v w'=>∃b:Bool,v= .bool b∧(b=true↔pT s r)∧St H w' σ:=by
 obtain ⟨iV,iT,rfl⟩:=RI.shape h1;obtain ⟨gX,gW,rfl⟩:=RI.shape h2;have l1:=(RI.len h1).2.2;have l2:=(RI.len h2).2.2;refine Cl.o func120 ntmps120 ag2 ?_;refine .af (.bx hs fun b2 w hs=>?_);refine .bx hs fun b3 w hs=>?_
 refine .zn zg (.af (.z (zfa fy) (.y hs (zld aj) (.o (.call call165 rfl (j5 hs) ?_)))));rintro _ w ⟨rfl,hs⟩;refine .z zm (.bif (t':=8) rfl (fun Qi=>?_) (fun Qi=>?_))
 ·refine .T ?_;refine .z (zfa iD) (.T (.y hs (zld aj) (.T (.z (zfa bV) (.T (.y hs (zld an) (.T (.z (dk ae) (.T (.z gE (.T (.o (.call jP rfl (bP hs) ?_)))))))))))));rintro _ w ⟨rfl,hs⟩;refine .z zpT (.z zm (.bif (t':=17) rfl (fun DP=>?_) (fun DP=>?_)))
  ·refine .T ?_;refine .z (zfa iC) (.T (.y hs (zld aj) (.T (.z (zfa aZ) (.T (.y hs (zld an) (.T (.z (dk ae) (.T (.z gE (.T (.o (.call jP rfl (bP hs) ?_)))))))))))));rintro _ w ⟨rfl,hs⟩;refine .z zpT (.z zm (.bif (t':=26) rfl (fun R2=>?_) (fun R2=>?_)))
   ·refine .T (.z (zfa dI) (.T (.y hs (zld aj) (.T (.o (.call jP rfl (bP hs) ?_))))));rintro _ w ⟨rfl,hs⟩;refine .z zpT (.z zm (.bif (t':=31) rfl (fun zk=>?_) (fun zk=>?_)))
    ·refine .T (.z (zfa dQ) (.T (.y hs (zld aj) (.T (.z (zfa dI) (.T (.y hs (zld aj) (.T ?_))))))));have ht:0≤r.tol∧r.tol≤1000:=by simp_all
     refine .z gE (.T (.o (.call jP rfl (bP hs) ?_)));rintro _ w ⟨rfl,hs⟩;refine .z zpT (.z zm (.bif (t':=39) rfl (fun G7=>?_) (fun G7=>?_)))
     ·refine .T (.z (zfa fw) (.T (.y hs (zld aj) (.T (.o (.call jP rfl (bP hs) ?_))))));rintro _ w ⟨rfl,hs⟩;refine .z zpT (.z zm (.bif (t':=44) rfl (fun B8=>?_) (fun B8=>?_)))
      ·refine .T (.z (zfa fu) (.T (.y hs (zld aj) (.T (.o (.call jP rfl (bP hs) ?_))))));rintro _ w ⟨rfl,hs⟩;refine .z zpT (.zn zg (.ret (Fin.bu EC rfl ?_)));first
       |exact ⟨false,rfl,⟨fun h=>(by cases h),fun h=>(by obtain ⟨g1,g2,g3,g4,g5,g6,g7⟩:=h;simp_all;done)⟩,hs.out⟩
       |exact ⟨_,rfl,⟨fun h=>⟨by simp_all,by simp_all,by simp_all,by simp_all,by simp_all,by simp_all,by simpa using h⟩,fun h=>by simpa using h.day⟩,hs.out⟩
      ·refine .Fs 3 39 true (.z zpF (.zn zg (.ret (Fin.bu EC rfl ?_))));first
       |exact ⟨false,rfl,⟨fun h=>(by cases h),fun h=>(by obtain ⟨g1,g2,g3,g4,g5,g6,g7⟩:=h;simp_all;done)⟩,hs.out⟩
       |exact ⟨_,rfl,⟨fun h=>⟨by simp_all,by simp_all,by simp_all,by simp_all,by simp_all,by simp_all,by simpa using h⟩,fun h=>by simpa using h.day⟩,hs.out⟩
     ·refine .Fs 3 34 true (.z zpF (.z zm (.Fs 3 39 true (.z zpF (.zn zg (.ret (Fin.bu EC rfl ?_)))))));first
      |exact ⟨false,rfl,⟨fun h=>(by cases h),fun h=>(by obtain ⟨g1,g2,g3,g4,g5,g6,g7⟩:=h;simp_all;done)⟩,hs.out⟩
      |exact ⟨_,rfl,⟨fun h=>⟨by simp_all,by simp_all,by simp_all,by simp_all,by simp_all,by simp_all,by simpa using h⟩,fun h=>by simpa using h.day⟩,hs.out⟩
    ·refine .Fs 6 26 true (.z zpF (.z zm (.Fs 3 34 true (.z zpF (.z zm (.Fs 3 39 true (.z zpF (.zn zg (.ret (Fin.bu EC rfl ?_))))))))));first
     |exact ⟨false,rfl,⟨fun h=>(by cases h),fun h=>(by obtain ⟨g1,g2,g3,g4,g5,g6,g7⟩:=h;simp_all;done)⟩,hs.out⟩
     |exact ⟨_,rfl,⟨fun h=>⟨by simp_all,by simp_all,by simp_all,by simp_all,by simp_all,by simp_all,by simpa using h⟩,fun h=>by simpa using h.day⟩,hs.out⟩
   ·refine .Fs 3 21 true (.z zpF (.z zm (.Fs 6 26 true (.z zpF (.z zm (.Fs 3 34 true (.z zpF (.z zm (.Fs 3 39 true (.z zpF (.zn zg (.ret (Fin.bu EC rfl ?_)))))))))))));first
    |exact ⟨false,rfl,⟨fun h=>(by cases h),fun h=>(by obtain ⟨g1,g2,g3,g4,g5,g6,g7⟩:=h;simp_all;done)⟩,hs.out⟩
    |exact ⟨_,rfl,⟨fun h=>⟨by simp_all,by simp_all,by simp_all,by simp_all,by simp_all,by simp_all,by simpa using h⟩,fun h=>by simpa using h.day⟩,hs.out⟩
  ·refine .Fs 7 12 true (.z zpF (.z zm (.Fs 3 21 true (.z zpF (.z zm (.Fs 6 26 true (.z zpF (.z zm (.Fs 3 34 true (.z zpF (.z zm (.Fs 3 39 true (.z zpF (.zn zg (.ret (Fin.bu EC rfl ?_))))))))))))))));first
   |exact ⟨false,rfl,⟨fun h=>(by cases h),fun h=>(by obtain ⟨g1,g2,g3,g4,g5,g6,g7⟩:=h;simp_all;done)⟩,hs.out⟩
   |exact ⟨_,rfl,⟨fun h=>⟨by simp_all,by simp_all,by simp_all,by simp_all,by simp_all,by simp_all,by simpa using h⟩,fun h=>by simpa using h.day⟩,hs.out⟩
 ·refine .Fs 7 3 true (.z zpF (.z zm (.Fs 7 12 true (.z zpF (.z zm (.Fs 3 21 true (.z zpF (.z zm (.Fs 6 26 true (.z zpF (.z zm (.Fs 3 34 true (.z zpF (.z zm (.Fs 3 39 true (.z zpF (.zn zg (.ret (Fin.bu EC rfl ?_)))))))))))))))))));first
  |exact ⟨false,rfl,⟨fun h=>(by cases h),fun h=>(by obtain ⟨g1,g2,g3,g4,g5,g6,g7⟩:=h;simp_all;done)⟩,hs.out⟩
  |exact ⟨_,rfl,⟨fun h=>⟨by simp_all,by simp_all,by simp_all,by simp_all,by simp_all,by simp_all,by simpa using h⟩,fun h=>by simpa using h.day⟩,hs.out⟩
theorem qZ{w:World}{c:Cmp}(hs:St H w σ):
  ab8 170 [.agg #[I c.src,I c.tape,I c.fr,I c.to,I c.lo,I c.hi]] w fun v w'=>∃b:Bool,v= .bool b∧(b=true↔uK c)∧St H w' σ:=by
 refine Cl.o func170 ntmps170 ag1 ?_;refine .af (.bx hs fun b1 w hs=>?_);refine .zn zg (.af (.z (zfa jI) (.y hs (zld aj) (.o (.call call165 rfl (j5 hs) ?_)))));rintro _ w ⟨rfl,hs⟩;refine .z zm (.bif (t':=6) rfl (fun Gn=>?_) (fun Gn=>?_))
 ·refine .T (.z (zfa kQ) (.T (.y hs (zld aj) (.T (.o (.call jP rfl (bP hs) ?_))))));rintro _ w ⟨rfl,hs⟩;refine .z zpT (.z zm (.bif (t':=11) rfl (fun oV=>?_) (fun oV=>?_)))
  ·refine .T (.z (zfa iE) (.T (.y hs (zld aj) (.T (.z (zfa gJ) (.T (.y hs (zld aj) (.T (.o (.call jP rfl (bP hs) ?_))))))))));rintro _ w ⟨rfl,hs⟩;refine .z zpT (.z zm (.bif (t':=18) rfl (fun G9=>?_) (fun G9=>?_)))
   ·refine .T (.z (zfa gJ) (.T (.y hs (zld aj) (.T (.o (.call jP rfl (bP hs) ?_))))));rintro _ w ⟨rfl,hs⟩;refine .z zpT (.z zm (.bif (t':=23) rfl (fun uz=>?_) (fun uz=>?_)))
    ·refine .T (.z (zfa gI) (.T (.y hs (zld aj) (.T (.z (zfa gH) (.T (.y hs (zld aj) (.T (.o (.call jP rfl (bP hs) ?_))))))))));rintro _ w ⟨rfl,hs⟩;refine .z zpT (.z zm (.bif (t':=30) rfl (fun YW=>?_) (fun YW=>?_)))
     ·refine .T (.z (zfa gH) (.T (.y hs (zld aj) (.T (.o (.call jP rfl (bP hs) ?_))))));rintro _ w ⟨rfl,hs⟩;refine .z zpT (.zn zg (.ret (Fin.bu Pz rfl ?_)));first
      |exact ⟨false,rfl,⟨fun h=>(by cases h),fun h=>(by obtain ⟨g1,g2,g3,g4,g5,g6⟩:=h;simp_all;omega)⟩,hs.out⟩
      |exact ⟨false,rfl,⟨fun h=>(by cases h),fun h=>(by obtain ⟨g1,g2,g3,g4,g5,g6⟩:=h;simp_all;done)⟩,hs.out⟩
      |exact ⟨_,rfl,⟨fun h=>⟨by simp_all,by simp_all,by simp_all,by simp_all,by simp_all,(by simpa using h:_∧_).2⟩,fun h=>by have:=h.lo;have:=h.hi;simp;omega⟩,hs.out⟩
     ·refine .Fs 3 27 true (.z zpF (.zn zg (.ret (Fin.bu Pz rfl ?_))));first
      |exact ⟨false,rfl,⟨fun h=>(by cases h),fun h=>(by obtain ⟨g1,g2,g3,g4,g5,g6⟩:=h;simp_all;omega)⟩,hs.out⟩
      |exact ⟨false,rfl,⟨fun h=>(by cases h),fun h=>(by obtain ⟨g1,g2,g3,g4,g5,g6⟩:=h;simp_all;done)⟩,hs.out⟩
      |exact ⟨_,rfl,⟨fun h=>⟨by simp_all,by simp_all,by simp_all,by simp_all,by simp_all,(by simpa using h:_∧_).2⟩,fun h=>by have:=h.lo;have:=h.hi;simp;omega⟩,hs.out⟩
    ·refine .Fs 5 20 true (.z zpF (.z zm (.Fs 3 27 true (.z zpF (.zn zg (.ret (Fin.bu Pz rfl ?_)))))));first
     |exact ⟨false,rfl,⟨fun h=>(by cases h),fun h=>(by obtain ⟨g1,g2,g3,g4,g5,g6⟩:=h;simp_all;omega)⟩,hs.out⟩
     |exact ⟨false,rfl,⟨fun h=>(by cases h),fun h=>(by obtain ⟨g1,g2,g3,g4,g5,g6⟩:=h;simp_all;done)⟩,hs.out⟩
     |exact ⟨_,rfl,⟨fun h=>⟨by simp_all,by simp_all,by simp_all,by simp_all,by simp_all,(by simpa using h:_∧_).2⟩,fun h=>by have:=h.lo;have:=h.hi;simp;omega⟩,hs.out⟩
   ·refine .Fs 3 15 true (.z zpF (.z zm (.Fs 5 20 true (.z zpF (.z zm (.Fs 3 27 true (.z zpF (.zn zg (.ret (Fin.bu Pz rfl ?_))))))))));first
    |exact ⟨false,rfl,⟨fun h=>(by cases h),fun h=>(by obtain ⟨g1,g2,g3,g4,g5,g6⟩:=h;simp_all;omega)⟩,hs.out⟩
    |exact ⟨false,rfl,⟨fun h=>(by cases h),fun h=>(by obtain ⟨g1,g2,g3,g4,g5,g6⟩:=h;simp_all;done)⟩,hs.out⟩
    |exact ⟨_,rfl,⟨fun h=>⟨by simp_all,by simp_all,by simp_all,by simp_all,by simp_all,(by simpa using h:_∧_).2⟩,fun h=>by have:=h.lo;have:=h.hi;simp;omega⟩,hs.out⟩
  ·refine .Fs 5 8 true (.z zpF (.z zm (.Fs 3 15 true (.z zpF (.z zm (.Fs 5 20 true (.z zpF (.z zm (.Fs 3 27 true (.z zpF (.zn zg (.ret (Fin.bu Pz rfl ?_)))))))))))));first
   |exact ⟨false,rfl,⟨fun h=>(by cases h),fun h=>(by obtain ⟨g1,g2,g3,g4,g5,g6⟩:=h;simp_all;omega)⟩,hs.out⟩
   |exact ⟨false,rfl,⟨fun h=>(by cases h),fun h=>(by obtain ⟨g1,g2,g3,g4,g5,g6⟩:=h;simp_all;done)⟩,hs.out⟩
   |exact ⟨_,rfl,⟨fun h=>⟨by simp_all,by simp_all,by simp_all,by simp_all,by simp_all,(by simpa using h:_∧_).2⟩,fun h=>by have:=h.lo;have:=h.hi;simp;omega⟩,hs.out⟩
 ·refine .Fs 3 3 true (.z zpF (.z zm (.Fs 5 8 true (.z zpF (.z zm (.Fs 3 15 true (.z zpF (.z zm (.Fs 5 20 true (.z zpF (.z zm (.Fs 3 27 true (.z zpF (.zn zg (.ret (Fin.bu Pz rfl ?_))))))))))))))));first
  |exact ⟨false,rfl,⟨fun h=>(by cases h),fun h=>(by obtain ⟨g1,g2,g3,g4,g5,g6⟩:=h;simp_all;omega)⟩,hs.out⟩
  |exact ⟨false,rfl,⟨fun h=>(by cases h),fun h=>(by obtain ⟨g1,g2,g3,g4,g5,g6⟩:=h;simp_all;done)⟩,hs.out⟩
  |exact ⟨_,rfl,⟨fun h=>⟨by simp_all,by simp_all,by simp_all,by simp_all,by simp_all,(by simpa using h:_∧_).2⟩,fun h=>by have:=h.lo;have:=h.hi;simp;omega⟩,hs.out⟩
theorem pB{w:World}(hs:St H w σ)(h1:RI H cU s.st)(h2:RI H cO s.wa)(hb:s.st.length≤1000∧s.wa.length≤1000):
  ab8 196 [.agg #[I s.id,I s.src,cU,cO,I s.al,I s.up]] w fun v w'=>v=I (s.many:Int)∧St H w' σ:=by
 obtain ⟨iV,iT,rfl⟩:=RI.shape h1;obtain ⟨gX,gW,rfl⟩:=RI.shape h2;have hm:=lH (a:=(s.st.length:Int)) (b:=(s.wa.length:Int)) (A:=1000) (B:=1000) ai ai;refine Cl.o func196 ntmps196 ag1 ?_;refine .af (.bx hs fun b1 w hs=>?_);exact .zn zg (.af (.z (zfa bV) (.y hs (zld an) (.z (dk ae) (.z (zfa aZ) (.y hs (zld an) (.z (dk ae) (.z la (.zn zg (.ret (Fin.bu results196 rfl ⟨by unfold Spc.many;rw [Int.natCast_mul],hs.out⟩)))))))))))
theorem s9{w:World}{b:Int}(hs:St H w σ)(h2:RI H cO s.wa)(hb:s.wa.length≤1000)(ha: -1000≤a∧a≤1000)(abD: -1000≤b∧b≤1000):
  ab8 247 [.agg #[I s.id,I s.src,cU,cO,I s.al,I s.up],I a,I b] w fun v w'=>v=I (1+a*s.wa.length+b)∧St H w' σ:=by
 obtain ⟨gX,gW,rfl⟩:=RI.shape h2;have hm:=lH (a:=a) (b:=(s.wa.length:Int)) (A:=1000) (B:=1000) ai ai;refine Cl.o func247 ntmps247 ag3 ?_;refine .af (.bx hs fun b3 w hs=>?_);exact .zn zg (.af (.z zm (.z (zfa aZ) (.y hs (zld an) (.z (dk ae) (.z la (.z cV (.z zm (.z cV (.zn zg (.ret (Fin.bu results247 rfl ⟨rfl,hs.out⟩))))))))))))
theorem kV{w:World}{r:Rdg}(hs:St H w σ):
  ab8 241 [.agg #[I r.src,I r.st,I r.wa,I r.val,I r.tol,I r.tape,I r.day]] w fun v w'=>v= .agg #[I r.tape,I r.day]∧St H w' σ:=by
 refine Cl.o func241 ntmps241 ag1 ?_;refine .af (.bx hs fun b1 w hs=>?_);refine .o (.alloc hs wZ rfl fun b2 w hs=>?_);refine .nil (.af (.z (zfa fw) (.y hs (zld aj) (.z (zfa fu) (.y hs (zld aj) (.z (zbd [_,_] kf) (.o (.aJ (vs:=[_,_]) hs rfl rfl dF fun w hs=>?_))))))));exact .nil (.ret (Fin.iG [] [] hs fun w hs=>⟨_,results1 results241 (dm (vs:=[_,_]) hs rfl kl dF),rfl,hs.out⟩))
theorem pC{w:World}{b:Int}(hs:St H w σ)(ha:0≤a∧a≤100000)(hb:0≤b∧b≤100000):
  ab8 243 [I a,I b] w fun v w'=>v=I (mW a b)∧St H w' σ:=by
 have hm:=lH (a:=a) (b:=b) (A:=100000) (B:=100000) ai ai;have h0:=Int.mul_nonneg ha.1 hb.1;have JF:0≤(a*b+999).tdiv 1000:=Int.tdiv_nonneg ai ai;have OC:(a*b+999).tdiv 1000≤a*b+999:=by rw [Int.tdiv_eq_ediv_of_nonneg ai];omega
 refine Cl.o func243 ntmps243 ag2 ?_;exact .af (.zn zg (.af (.z zm (.z zm (.z la (.z cV (.q hs (yu rfl rfl ai ai) (.z EE (.zn zg (.ret (Fin.bu results243 rfl ⟨rfl,hs⟩)))))))))))
def CS(s:Spc):List (List Value):=(List.range s.many).map fun p=>[Value.agg #[I ((p/s.wa.length:Nat):Int),I ((p%s.wa.length:Nat):Int),I ((p+1:Nat):Int)]]
theorem fp(s:Spc):(CS s).length=s.many:=by simp [CS]
theorem qn{p:Nat}(h:p<(CS s).length):(CS s)[p]=[Value.agg #[I ((p/s.wa.length:Nat):Int),I ((p%s.wa.length:Nat):Int),I ((p+1:Nat):Int)]]:=by simp [CS]
theorem vB(hb:Row H b [I s.id,I s.src,cU,cO,I s.al,I s.up])(h1:RI H cU s.st)(h2:RI H cO s.wa)(zR:s.st.length≤1000∧s.wa.length≤1000):
  Iter Tryz.prog 188 [Pt b] H (CS s):=by
 intro ly II Ix GZ _ hy H0 HS σf w hle CI hs;obtain ⟨iV,iT,rfl⟩:=RI.shape h1;obtain ⟨gX,gW,rfl⟩:=RI.shape h2;have g2:cellAt H0 b 2=some (.slice iV s.st.length iT):=cellAt.mono (hb.at 2) hle;have g3:cellAt H0 b 3=some (.slice gX s.wa.length gW):=cellAt.mono (hb.at 3) hle;have hm:s.many≤1000000:=Nat.mul_le_mul zR.1 zR.2;refine Cl.o func188 ntmps188 ag2 ?_;refine .af (.zn zg (.af (.z (zfa bV) (.y hs (zld an) (.z (dk ae) (.zn zm (.for (N:=s.st.length) (J:=fun i fr w=>fr=[(3,I ((i*s.wa.length:Nat):Int)),(0,.func (.yield ly) #[] #[]),(1,Pt b)]∧∃H1 σb,HLe H H1∧HLe H0 H1∧II (i*s.wa.length) H1 σb∧St H1 w (σb++σf)) ai ?_ ?_ ?_)))))))
 ·exact .mk ⟨by rw [Nat.zero_mul],H0,HS,hle,HLe.refl _,by rw [Nat.zero_mul];exact CI,hs⟩
 ·rintro i fr w hi ⟨rfl,H1,σb,az,gq,hI,hs⟩;have h23:=cellAt.mono g3 gq;refine .block (.af (.z zm (.zn zg (.af (.z (zfa aZ) (.y hs (zld an) (.z (dk ae) (.zn zm (.for (N:=s.wa.length) (J:=fun k fr w=>fr=[(3,I ((i*s.wa.length+k:Nat):Int)),(4,I (i:Int)),(9,I (i:Int)),(8,I (s.st.length:Int)),(0,.func (.yield ly) #[] #[]),(1,Pt b)]∧∃H3 σb,HLe H1 H3∧II (i*s.wa.length+k) H3 σb∧St H3 w (σb++σf)) ai ?_ ?_ ?_)))))))))
  ·exact .mk ⟨rfl,H1,σb,HLe.refl _,hI,hs⟩
  ·rintro k fr w hk ⟨rfl,H3,Nr,cZ,My,hs⟩;obtain ⟨d1,d2⟩:=QM (nw:=s.wa.length) (i:=i) (k:=k) hk;have fD:=aar hi hk;refine .block (.af (.z zm (.zn zg (.af (.z zm (.z cV (.zn zg (.af (.z zm (.z zm (.z zm (.z zm (.z (zbd [_,_,_] wF) ?_)))))))))))));have tE:i*s.wa.length+k<(CS s).length:=by rw [fp];exact fD
   have BA:=hy (i*s.wa.length+k) tE H3 Nr σf w (az.trans cZ) My hs;rw [qn tE,d1,d2,show ((i*s.wa.length+k+1:Nat):Int)=((i*s.wa.length+k:Nat):Int)+1 by omega] at BA;refine .o (.yield rfl rfl BA ?_);rintro v25 w ⟨H5,σ5,g1,hs,g3'⟩;obtain ⟨bb,rfl,gT,gF⟩:=rp g3';refine .zn fE (.cond rfl (fun jm=>?_) (fun jm=>?_))
   ·exact .ret (rB (rT (rB (rB (rT (rB (Fin.SN results188 ⟨H5,σ5,gq.trans (cZ.trans g1),hs,.inr (gF (by simpa using jm))⟩)))))))
   ·exact .skip (nB (nT (.mk ⟨rfl,H5,σ5,cZ.trans g1,gT (by simpa using jm),hs⟩)))
  ·rintro fr w ⟨rfl,H3,Nr,cZ,My,hs⟩;have e:i*s.wa.length+s.wa.length=(i+1)*s.wa.length:=by rw [Nat.add_mul,Nat.one_mul]
   rw [e] at My ⊢;exact nB (nT (.mk ⟨rfl,H3,Nr,az.trans cZ,gq.trans cZ,My,hs⟩))
 ·rintro fr w ⟨rfl,H1,σb,az,gq,hI,hs⟩;exact Fin.FR results188 ⟨H1,σb,gq,hs,.inl (by rw [fp];exact hI)⟩
theorem iA{w:World}(hs:St H w σ)(h1:RI H cU s.st)(h2:RI H cO s.wa)(zR:s.st.length≤1000∧s.wa.length≤1000):
  ab8 131 [.agg #[I s.id,I s.src,cU,cO,I s.al,I s.up]] w fun u w'=>∃H1 b,HLe H H1∧u= .func (.func 188) #[] #[Pt b]∧Iter Tryz.prog 188 [Pt b] H1 (CS s)∧St H1 w' σ:=by
 obtain ⟨iV,iT,rfl⟩:=RI.shape h1;obtain ⟨gX,gW,rfl⟩:=RI.shape h2;refine Cl.o func131 ntmps131 ag1 ?_;refine .af (.bx hs fun b1 w hs=>?_);refine .zn zg (.af (.q hs (dZ (f:=[]) (c:=[_]) rfl rfl) (.zn zg (.ret (Fin.bu results131 rfl ?_)))));obtain ⟨H1,g1,g2,hs⟩:=hs.dn .here;exact ⟨H1,b1,g1,rfl,vB g2 (h1.mono g1) (h2.mono g1) zR,hs⟩
set_option maxRecDepth 100000 in
theorem zI:Tryz.prog.stoodInHeld 162=false:=by kernel_rfl
set_option maxRecDepth 100000 in
theorem zJ:Tryz.prog.eqGuardType Tryz.prog.depth 162=false:=by kernel_rfl
theorem tU{w:World}{v:Value}{xs:List TD}(q:TD→Bool)(hs:St H w (en::σ))(hO:dj 2 v (tdc xs).flatten en)(hl:xs.length≤1000000)(hc:∀args w,(callFunc g args).run Tryz.prog w= .ok (.enter g args) w)
  (hp:∀w (t:TD),St H w (en::σ)→ab8 g ([.agg #[I t.tape,I t.day]]++cap) w fun u w'=>u= .bool (q t)∧St H w' (en::σ)):
  ab8 276 [v,.func (.func g) #[] cap.toArray] w fun u w'=>∃i:Int,u=I i∧(0≤i↔∃x∈xs,q x=true)∧St H w' (en::σ):=by
 obtain ⟨a,c,rfl⟩:=hO.jF (tR xs) ai;rw [fG] at hO ⊢;refine Cl.o func276 ntmps276 ag2 ?_;refine .af (.zn zg (.seq (.af (.z zm (.z (dk cI) (.zn zm (.for (N:=xs.length) (J:=fun k fr w=>fr=[(1,.func (.func g) #[] cap.toArray),(0,.slice a xs.length c)]∧(∀j<k,∀y,xs[j]? =some y→¬q y=true)∧St H w (en::σ)) ai ?_ ?_ ?_)))))))
 ·exact .mk ⟨rfl,fun j hj=>by omega,hs⟩
 ·rintro k fr w hk ⟨rfl,fa,hs⟩;obtain ⟨x,hx⟩:=nth hk;obtain ⟨b,c',sp,hv,rfl,_⟩:=hO.Pj (tR xs) ai (by rw [fG];omega);rw [fG] at hv;cases hv
  refine .block (.af (.z zm (.zn zg (.af (.z zm (.z zm (.z zm (.z (nH cI dF) (.q hs (nM (vs:=x.c) rfl kl dF .here (EX (tR xs) (KB hx) sp)) (.o (.sw (first:=[]) (cap:=cap) rfl rfl hc (hp _ x hs) ?_)))))))))));rintro _ w ⟨rfl,hs⟩;refine .nil (.cond rfl (fun dY=>?_) (fun dY=>?_))
  ·exact .af (.z zm (.zn zg (.ret (rB (rT (rB (rT (Fin.bu results276 rfl ⟨_,rfl,⟨fun _=>⟨x,List.mem_of_getElem? hx,dY⟩,fun _=>by omega⟩,hs⟩))))))))
  ·exact .skip (nB (nT (.mk ⟨rfl,fW fa hx (by simpa using dY),hs⟩)))
 ·rintro fr w ⟨rfl,fa,hs⟩;refine nT (.af (.zn zg (.ret (Fin.bu results276 rfl ?_))));exact ⟨_,rfl,⟨fun h=>by omega,fun ⟨x,h1,h2⟩=>by
   obtain ⟨j,hj⟩:=List.getElem?_of_mem h1;exact (fa j (List.getElem?_eq_some_iff.1 hj).1 x hj h2).elim⟩,hs⟩
theorem qW{w:World}{v:Value}{xs:List TD}(q:TD→Bool)(hs:St H w (en::σ))(hO:dj 2 v (tdc xs).flatten en)(hl:xs.length≤1000000)(hc:∀args w,(callFunc g args).run Tryz.prog w= .ok (.enter g args) w)
  (hp:∀w (t:TD),St H w (en::σ)→ab8 g ([.agg #[I t.tape,I t.day]]++cap) w fun u w'=>u= .bool (q t)∧St H w' (en::σ)):
  ab8 239 [v,.func (.func g) #[] cap.toArray] w fun u w'=>∃b:Bool,u= .bool b∧(b=true↔∃x∈xs,q x=true)∧St H w' (en::σ):=by
 refine Cl.o func239 ntmps239 ag2 ?_;refine .af (.zn zg (.af (.z zm (.z zm (.o (.call call276 rfl (tU q hs hO hl hc hp) ?_))))));rintro _ w ⟨i,rfl,hi,hs⟩;exact .z tN (.zn zg (.ret (Fin.bu results239 rfl ⟨_,rfl,by simp only [decide_eq_true_eq];exact hi,hs⟩)))
theorem Au{w:World}{v:Value}{xs:List TD}(hs:St H w σ)(hr:RTd H v xs)(hl:xs.length≤1000000):
  ab8 246 [v,.agg #[I t.tape,I t.day]] w fun u w'=>u=I (mP xs t)∧St H w' σ:=by
 obtain ⟨a,c,rfl⟩:=RTd.shape hr;refine Cl.o func246 ntmps246 ag2 ?_;refine .af (.bx hs fun b3 w hs=>?_);refine .zn zg (.seq (.af (.z zm (.z (dk cI) (.zn zm (.for (N:=xs.length) (J:=fun k fr w=>fr=[(0,.slice a xs.length c),(3,Pt b3)]∧(∀j<k,∀y,xs[j]? =some y→¬y=t)∧St H w (.blk b3 [I t.tape,I t.day]::σ)) ai ?_ ?_ ?_))))))
 ·exact .mk ⟨rfl,fun j hj=>by omega,hs⟩
 ·rintro k fr w hk ⟨rfl,fa,hs⟩;obtain ⟨x,hx⟩:=nth hk;refine .block (.af (.z zm (.zn zg (.seq (.draw mix rfl hs fun w hs=>?_)))));refine .ys 0 rfl hs [_,_] kl dF ?_;refine .z 1 rfl zm ?_;refine .z 2 rfl zm ?_;refine .ixX (enc:=TD.c) (i:=3) hs rfl aD .none hr rfl rfl cI dF hx dp ?_;intro sF o14 kE;refine .r (i:=4) hs rfl aD .none (cj (vs:=x.c) rfl kl dF kE) ?_;refine .z 5 rfl (EU zI zJ nE (fun f hf=>by
   simp only [List.mem_cons,List.not_mem_nil,or_false] at hf
   rcases hf with rfl|rfl<;>exact ⟨by decide,cJ,aj⟩) rfl rfl) ?_
  refine .D hs (.cond rfl (fun dY=>?_) (fun dY=>?_))
  ·refine .af (.z zm (.zn zg (.ret (rB (rT (rB (rT (Fin.bu results246 rfl ?_))))))));have e:x=t:=NF.1 (by have:=of_decide_eq_true dY;exact ⟨this.1.symm,this.2.symm⟩);subst e;exact ⟨by rw [uU hx fun j hj h=>fa j hj _ h rfl],hs.tail⟩
  ·exact .skip (nB (nT (.mk ⟨rfl,fW fa hx (fun e=>by subst e;simp at dY),hs⟩)))
 ·rintro fr w ⟨rfl,fa,hs⟩;exact nT (.af (.zn zg (.ret (Fin.bu results246 rfl ⟨by rw [De fa],hs.tail⟩))))
theorem ta{w:World}{r:Rdg}(hs:St H w σ)(hb:Row H b r.c):
  ab8 240 [.agg #[I t.tape,I t.day],Pt b] w fun u w'=>u= .bool (decide (t=r.td))∧St H w' σ:=by
 have FE:bJ H b 0 r.c:=hb.cells 0 r.c;refine Cl.o func240 ntmps240 ag2 ?_;refine .af (.bx hs fun b2 w hs=>?_);refine .zn zg (.seq (.draw mix rfl hs fun w hs=>?_));refine .ys 0 rfl hs [_,_] kl dF ?_;refine .ys 1 rfl hs [_,_,_,_,_,_,_] km bh ?_;refine .E 2 hs ?_;refine .call call241 rfl (kV hs) ?_;rintro _ w ⟨rfl,hs⟩;refine .go ?_;refine .z 3 rfl (EU zI zJ nE (fun f hf=>by
  simp only [List.mem_cons,List.not_mem_nil,or_false] at hf
  rcases hf with rfl|rfl<;>exact ⟨by decide,cJ,aj⟩) rfl rfl) ?_
 refine .zw 4 rfl zg ?_;refine .D hs ?_;exact .ret (Fin.bu results240 rfl ⟨by congr 1;rw [decide_eq_decide];exact NF (t:=t) (u:=r.td),hs.tail⟩)
set_option maxHeartbeats 1000000 in
theorem xv{w:World}{s:Srv}(hs:St H w σ)(hr:RRd H vr s.rs)(hl:s.rs.length≤1000000):
  ab8 189 [.agg #[I s.sp.id,I s.sp.src,cU,cO,I s.sp.al,I s.sp.up,vr,vc]] w fun u w'=>∃H1 en,HLe H H1∧dj 2 u (tdc s.di).flatten en∧St H1 w' (en::σ):=by
 obtain ⟨ar,cr,rfl⟩:=RRd.shape hr;refine Cl.o func189 ntmps189 ag1 ?_;refine .af (.bx hs fun b1 w hs=>?_);refine .zn zg (.af (.zn zg (.seq (.af (.z (zfa aP) (.y hs (zld dD) (.z (dk aE) (.zn zm (.for (N:=s.rs.length) (J:=fun k fr w=>∃vo en H1,fr=[(7,.slice ar s.rs.length cr),(3,vo)]∧HLe H H1∧dj 2 vo (tdc (bE (s.rs.take k))).flatten en∧St H1 w (en::σ)) ai ?_ ?_ ?_)))))))))
 ·exact .mk ⟨_,.nul,H,rfl,HLe.refl _,.nil 2 none,hs.tail.nul⟩
 ·rintro k fr w hk ⟨vo,en,H1,rfl,az,hO,hs⟩;obtain ⟨r,hx⟩:=nth hk;have PU:=mu hx;have zb:=nJ s.rs k ai;obtain ⟨ao,co,rfl⟩:=hO.jF (tR _) ai;rw [fG] at hO ⊢;refine .block (.af (.ixX (enc:=Rdg.c) hs (hr.mono az) rfl rfl aE bh hx dp ?_));intro yE o11 pM;refine .q hs (cj (vs:=(Rdg.c r)) rfl km bh pM) (.o (.alloc hs jW rfl fun b5 w hs=>?_));refine .o (.aJ (vs:=r.c) hs rfl rfl bh fun w hs=>?_);obtain ⟨H2,bp,r5,hs⟩:=hs.dn (b:=b5) (c:=r.c) .here;have c5:bJ H2 b5 0 r.c:=r5.cells 0 r.c;refine .nil (.af (.z zm (.q hs (dZ (f:=[]) (c:=[_]) rfl rfl) (.o (.call call239 rfl (qW (g:=240) (cap:=[Pt b5]) (fun t=>decide (t=r.td)) hs hO ai call240 (fun w t hs=>ta hs r5)) ?_)))));rintro _ w ⟨Gq,rfl,Ba,hs⟩;refine .zn fE (.cond rfl (fun dY=>?_) (fun dY=>?_))
  ·refine .region (.z zm (.q hs (cj (vs:=r.c) rfl km bh c5) (.o (.call call241 rfl (kV (r:=r) hs) ?_))));rintro _ w ⟨rfl,hs⟩;refine .o (.buildSlice (cells:=[_,_]) hs kF rfl rfl fun BE w hs=>?_);refine .o (.append (ys:=r.td.c) hs fZ rfl rfl hO (.own .here rfl rfl) (by simp [TD.c,Value.oneCell']) (fun l h=>by rw [bX _ (tR _),fG] at h;omega) ?_);intro v21 en21 w eG hs;refine .zn zg (nB (nT ?_));have hn:r.td∉bE (s.rs.take k):=fun hm=>by
    rw [Ba.2 ⟨_,hm,bK⟩] at dY;cases dY
   rw [←Dd,show bE (s.rs.take k)++[r.td]=bE (s.rs.take (k+1)) by rw [PU];unfold wK;rw [if_neg hn]] at eG;exact .mk ⟨_,_,H2,rfl,az.trans bp,eG,hs.sb⟩
  ·refine .skip (nB (nT ?_));have hm:r.td∈bE (s.rs.take k):=by
    obtain ⟨x,h1,h2⟩:=Ba.1 (by simpa using dY);rw [←of_decide_eq_true h2];exact h1
   exact .mk ⟨_,_,H2,rfl,az.trans bp,by rw [PU];unfold wK;rw [if_pos hm];exact hO,hs⟩
 ·rintro fr w ⟨vo,en,H1,rfl,az,hO,hs⟩;rw [List.take_length] at hO;exact nT (.af (.z zm (.zn zg (.ret (Fin.bu results189 rfl ⟨H1,en,az,hO,hs⟩)))))
theorem vz{w:World}{s:Srv}(hs:St H w σ)(hr:RRd H vr s.rs)(hl:s.rs.length≤1000000):
  ab8 189 [.agg #[I s.sp.id,I s.sp.src,cU,cO,I s.sp.al,I s.sp.up,vr,vc]] w fun u w'=>∃H1,HLe H H1∧RTd H1 u s.di∧St H1 w' σ:=by
 refine (xv hs hr hl).mono ?_;rintro u w' ⟨H1,en,az,hO,hs⟩;have zb:=eL s.rs;have Xy:s.di.length≤1000000:=by unfold Srv.di;omega
 obtain ⟨H2,bp,hR,hs⟩:=dj.dn (m:=2) hO (tR _) ai (by rw [fG];omega) hs .here;exact ⟨H2,az.trans bp,hR,hs⟩
theorem jM{w:World}{x0 x1 x2 x3 x4 x5 x6 x7 x8:Value}{b by_:Int}(hs:St H w (.blk bm [x0,x1,x2,x3,x4,x5,x6,x7,x8,vl]::en::σ))(hO:dj 4 vl (jJ ls) en)(hl:ls.length≤100000):
  ab8 242 [Pt bm,I a,I b,I hi,I lo,I by_] w fun _ w'=>∃xb l5,dj 4 xb (jJ (ls++two a b hi lo by_)) l5∧St H w' (.blk bm [x0,x1,x2,x3,x4,x5,x6,x7,x8,xb]::l5::σ):=by
 obtain ⟨al,ll,cl,rfl,h⟩:=hO.shape;refine Cl.of func242 rfl ntmps242 bK (e8 (k:=0) rfl (e8 (k:=1) rfl (e8 (k:=2) rfl (e8 (k:=3) rfl (e8 (k:=4) rfl (e8 (k:=5) rfl (D7))))))) (.region (.z zm (.z zm (.z znc (.z (zfa lN) (.y hs (zld fc) (.z zm (.z zm (.z zm (.z zm (.z (zbd [_,_,_,_] fO) (.z zm (.z zm (.z zm (.z zm (.z (zbd [_,_,_,_] fO) (.o (.buildSlice (cells:=jJ (two a b hi lo by_)) hs iN rfl aD fun z6 w hs=>?_))))))))))))))))));refine .o (.append (ys:=jJ (two a b hi lo by_)) hs dx rfl rfl hO (.own .here rfl rfl) (og _) (fun l h=>by rw [fI] at h;omega) ?_);intro v28 en28 w eG hs;rw [←kh] at eG;obtain ⟨a28,l28,c28,rfl,h28⟩:=eG.shape;refine .z znc (.z (zfa lN) (.o (.store hs rfl rfl sizeOf175 fun w hs=>?_)));exact .nil (Fin.FR results242 ⟨_,_,eG,hs.sb⟩)
theorem nO{w:World}{x6 x7 x8:Value}{j:Int}(hs:St H w σ)(hm:Mem σ (.blk bm [I s.id,I s.src,cU,cO,I s.al,I s.up,x6,x7,x8,vl]))(h1:RI H cU s.st)(h2:RI H cO s.wa)(hb:s.st.length≤1000∧s.wa.length≤1000)(hj: -1≤j∧j≤1000):
  ab8 244 [Pt bm,I j] w fun u w'=>u=I ((s.many:Int)+1+j)∧St H w' σ:=by
 have LM:s.many≤1000000:=Nat.mul_le_mul hb.1 hb.2;refine Cl.o func244 ntmps244 ag2 ?_;refine .af (.zn zg (.af (.z zm (.z znc (.z (zfa eC) (.z (zfa a6) (.q hs (nM (vs:=[I s.id,I s.src,cU,cO,I s.al,I s.up]) rfl bY bq hm) (.o (.call call196 rfl (pB (s:=s) hs h1 h2 hb) ?_)))))))));rintro _ w ⟨rfl,hs⟩;exact .z cV (.z zm (.z cV (.zn zg (.ret (Fin.bu results244 rfl ⟨rfl,hs⟩)))))
theorem fX(h:fB s):s.st.length≤1000∧s.wa.length≤1000∧0<s.wa.length∧s.many≤63:=by
 have h1:=h.st.many;have h2:=h.wa.many;have h3:=h.wa.two;have:s.many≤9*7:=Nat.mul_le_mul h1 h2;omega
theorem uk{w:World}{s:Srv}{ts:List TD}(hs:St H w (.blk bm [I s.sp.id,I s.sp.src,cU,cO,I s.sp.al,I s.sp.up,vr,vc,vt,vl]::en::σ))(hk:MkK H s ts cU cO vr vc vt)(hO:dj 4 vl (jJ ls) en)(hl:ls.length≤10000)(aU:fB s.sp):
  ab8 190 [Pt bm] w fun _ w'=>∃H1 xb l5,HLe H H1∧dj 4 xb (jJ (ls++fL (wU s.sp) s.sp.wa.length s.sp.st.length)) l5∧St H1 w' (.blk bm [I s.sp.id,I s.sp.src,cU,cO,I s.sp.al,I s.sp.up,vr,vc,vt,xb]::l5::σ):=by
 have rk:=fX aU;refine Cl.o func190 ntmps190 ag1 ?_;refine .af (.bx hs fun b1 w hs=>?_);refine .nil (.af (.y hs (zld QC) (.z znc (.z (zfa eC) (.z (zfa a6) (.y hs (zls [_,_,_,_,_,_] bY bq) (.o (.call call131 rfl (iA (s:=s.sp) hs hk.st hk.wa ⟨ai,ai⟩) ?_))))))));rintro _ w ⟨H1,ba,az,rfl,ti,hs⟩;refine .nil (.block ?_);refine .rangeFunc (gf:=188) (cap:=[Pt ba]) (xs:=CS s.sp) (σb:=[.blk bm [I s.sp.id,I s.sp.src,cU,cO,I s.sp.al,I s.sp.up,vr,vc,vt,vl],en,.blk b1 [Pt bm]]) (σf:=σ) (hs.sb) trivial rfl ti call188 (fun x hx=>by
   simp only [CS,List.mem_map] at hx;obtain ⟨j,_,rfl⟩:=hx;rfl) rfl
  (I:=fun p H' σb=>∃vl en,σb=[.blk bm [I s.sp.id,I s.sp.src,cU,cO,I s.sp.al,I s.sp.up,vr,vc,vt,vl],en,.blk b1 [Pt bm]]∧dj 4 vl (jJ (ls++vH (wU s.sp) s.sp.wa.length p)) en) (Ix:=fun _ _ _=>False)
  (fun j _ _ σ g1 g2=>g2) (fun _ _ _ _ _ h=>h) ⟨vl,en,rfl,by rw [sP,List.append_nil];exact hO⟩ ?_ ?_ (fun D c H' σb w _ h _=>h.elim)
 ·rintro ly p hp H2 zE yI w bp ⟨vl,en,rfl,hO⟩ hs ⟨rr,Fe⟩;have Ki:p<s.sp.many:=by rw [fp] at hp;exact hp
  have qK:=sQ (wU s.sp) (p:=p) rk.2.2.1;have Kj:=mA (sY s.sp) rk.2.2.1 p;have ib:p/s.sp.wa.length<s.sp.st.length:=Nat.div_lt_of_lt_mul (by rw [Nat.mul_comm];exact Ki);have LU:=Nat.mod_lt p rk.2.2.1;have UD:=Nat.div_add_mod p s.sp.wa.length;rw [Nat.mul_comm] at UD;have hu:(s.sp.u (p/s.sp.wa.length) (p%s.sp.wa.length):Int)=(p:Int)+1:=by unfold Spc.u;omega
  rw [qn hp];obtain ⟨al,ll,cl,rfl,wS⟩:=hO.shape;generalize p/s.sp.wa.length=i at*;generalize p%s.sp.wa.length=k at*;have S3:=hk.mono (az.trans bp);refine .region (.o (.alloc hs wX rfl fun b2 w hs=>?_));refine .o (.aJ (vs:=[_,_,_]) hs rfl rfl Kb fun w hs=>?_);refine .nil (nT ⟨H2,[.blk b2 [I (i:Int),I (k:Int),I ((p+1:Nat):Int)],.blk bm [I s.sp.id,I s.sp.src,cU,cO,I s.sp.al,I s.sp.up,vr,vc,vt,.slice al ll cl],en,.blk b1 [Pt bm]],HLe.refl _,hs,?_⟩);rintro w uM - hs;refine .block (.draw mix rfl hs fun w hs=>?_);refine .y 0 rfl hs QC ?_;refine .z 1 rfl (zfa fH) ?_;refine .y 2 rfl hs aj ?_;refine .y 3 rfl hs QC ?_;refine .z 4 rfl znc ?_;refine .z 5 rfl (zfa eC) ?_;refine .z 6 rfl (zfa a6) ?_;refine .z 7 rfl (zfa eM) ?_;refine .y 8 rfl hs aj ?_;refine .E 9 hs ?_;refine .call call242 rfl (jM (ls:=ls++vH (wU s.sp) s.sp.wa.length p) (hs.sb:St H2 w (.blk bm _::en:: .blk b1 _::uM)) hO (by rw [List.length_append];omega)) ?_;rintro _ w ⟨vl3,en3,iZ,hs⟩;rw [show two 0 ((p+1:Nat):Int) 20000 0 s.sp.src=wU s.sp i k by unfold wU;rw [hu];rfl,List.append_assoc,←qK] at iZ;exact .go (.D hs (nB ⟨H2,_,HLe.refl _,hs,_,_,rfl,iZ⟩))
 ·rintro D H2 zE w bp ⟨vl,en,rfl,hO⟩ hs;rw [fp,show s.sp.many=s.sp.st.length*s.sp.wa.length from rfl,vG _ rk.2.2.1] at hO;exact nB (Fin.WL [D] [] hs fun w hs=>⟨_,results0 results190,H2,vl,en,az.trans bp,hO,(hs.sb:St H2 w (.blk bm _::en::σ))⟩)
theorem y9{w:World}{s:Srv}{ts:List TD}(hs:St H w (.blk bm [I s.sp.id,I s.sp.src,cU,cO,I s.sp.al,I s.sp.up,vr,vc,vt,vl]::en::σ))(hk:MkK H s ts cU cO vr vc vt)(hO:dj 4 vl (jJ ls) en)(hl:ls.length≤10000)(aU:fB s.sp):
  ab8 191 [Pt bm] w fun _ w'=>∃H1 xb l5,HLe H H1∧dj 4 xb (jJ (ls++fL (alL s.sp) s.sp.wa.length s.sp.st.length)) l5∧St H1 w' (.blk bm [I s.sp.id,I s.sp.src,cU,cO,I s.sp.al,I s.sp.up,vr,vc,vt,xb]::l5::σ):=by
 have rk:=fX aU;obtain ⟨iV,iT,rfl⟩:=RI.shape hk.st;obtain ⟨gX,gW,rfl⟩:=RI.shape hk.wa;refine Cl.o func191 ntmps191 ag1 ?_;refine .af (.bx hs fun b1 w hs=>?_);refine .nil (.af (.y hs (zld QC) (.z znc (.z (zfa eC) (.z (zfa a6) (.y hs (zls [_,_,_,_,_,_] bY bq) (.o (.alloc hs tv rfl fun b2 w hs=>?_))))))));refine .o (.aJ (vs:=[_,_,_,_,_,_]) hs rfl rfl bq fun w hs=>?_);refine .nil (.af (.y hs (zls [_,_,_,_,_,_] bY bq) (.o (.call call131 rfl (iA (s:=s.sp) hs hk.st hk.wa ⟨ai,ai⟩) ?_))));rintro _ w ⟨H1,ba,az,rfl,ti,hs⟩;refine .nil (.block ?_);refine .rangeFunc (gf:=188) (cap:=[Pt ba]) (xs:=CS s.sp) (σb:=[.blk bm [I s.sp.id,I s.sp.src,.slice iV s.sp.st.length iT,.slice gX s.sp.wa.length gW,I s.sp.al,I s.sp.up,vr,vc,vt,vl],en,.blk b1 [Pt bm],.blk b2 [I s.sp.id,I s.sp.src,.slice iV s.sp.st.length iT,.slice gX s.sp.wa.length gW,I s.sp.al,I s.sp.up]]) (σf:=σ) (hs.sb) trivial rfl ti call188 (fun x hx=>by
   simp only [CS,List.mem_map] at hx;obtain ⟨j,_,rfl⟩:=hx;rfl) rfl
  (I:=fun p H' σb=>∃vl en,σb=[.blk bm [I s.sp.id,I s.sp.src,.slice iV s.sp.st.length iT,.slice gX s.sp.wa.length gW,I s.sp.al,I s.sp.up,vr,vc,vt,vl],en,.blk b1 [Pt bm],.blk b2 [I s.sp.id,I s.sp.src,.slice iV s.sp.st.length iT,.slice gX s.sp.wa.length gW,I s.sp.al,I s.sp.up]]∧dj 4 vl (jJ (ls++vH (alL s.sp) s.sp.wa.length p)) en) (Ix:=fun _ _ _=>False)
  (fun j _ _ σ g1 g2=>g2) (fun _ _ _ _ _ h=>h) ⟨vl,en,rfl,by rw [sP,List.append_nil];exact hO⟩ ?_ ?_ (fun D c H' σb w _ h _=>h.elim)
 ·rintro ly p hp H2 zE yI w bp ⟨vl,en,rfl,hO⟩ hs ⟨rr,Fe⟩;have Ki:p<s.sp.many:=by rw [fp] at hp;exact hp
  have qK:=sQ (alL s.sp) (p:=p) rk.2.2.1;have Kj:=mA (ye s.sp) rk.2.2.1 p;have ib:p/s.sp.wa.length<s.sp.st.length:=Nat.div_lt_of_lt_mul (by rw [Nat.mul_comm];exact Ki);have LU:=Nat.mod_lt p rk.2.2.1;have UD:=Nat.div_add_mod p s.sp.wa.length;rw [Nat.mul_comm] at UD;have hu:(s.sp.u (p/s.sp.wa.length) (p%s.sp.wa.length):Int)=(p:Int)+1:=by unfold Spc.u;omega
  rw [qn hp];obtain ⟨al,ll,cl,rfl,wS⟩:=hO.shape;generalize p/s.sp.wa.length=i at*;generalize p%s.sp.wa.length=k at*;have S3:=hk.mono (az.trans bp);refine .region (.o (.alloc hs wX rfl fun b3 w hs=>?_));refine .o (.aJ (vs:=[_,_,_]) hs rfl rfl Kb fun w hs=>?_);refine .nil (nT ⟨H2,[.blk b3 [I (i:Int),I (k:Int),I ((p+1:Nat):Int)],.blk bm [I s.sp.id,I s.sp.src,.slice iV s.sp.st.length iT,.slice gX s.sp.wa.length gW,I s.sp.al,I s.sp.up,vr,vc,vt,.slice al ll cl],en,.blk b1 [Pt bm],.blk b2 [I s.sp.id,I s.sp.src,.slice iV s.sp.st.length iT,.slice gX s.sp.wa.length gW,I s.sp.al,I s.sp.up]],HLe.refl _,hs,?_⟩);rintro w uM - hs;refine .block (.af (.z (zfa eo) (.y hs (zld aj) (.z cV (.z (zfa bV) (.y hs (zld an) (.z (dk ae) (.zn gV (.bA rfl (fun lM=>?_) (fun lM=>?_))))))))))
  ·refine .seq (.draw mix rfl hs fun w hs=>?_);refine .zw 0 rfl (zfa eW) ?_;refine .z 1 rfl (zfa lS) ?_;refine .y 2 rfl hs aj ?_;refine .z 3 rfl (zfa bV) ?_;refine .y 4 rfl hs an ?_;refine .z 5 rfl (zfa eo) ?_;refine .y 6 rfl hs aj ?_;refine .z 7 rfl cV ?_;have Rk:=aU.st.rise i ai;have JF:=aU.st.bd (i:=i) ai;have OC:=aU.st.bd (i:=i+1) ai;have Hf:=aU.al;refine .ixX (enc:=fun x=>[I x]) (i:=8) hs rfl aD .none S3.st rfl rfl ae ak (bG (l:=s.sp.st) (i:=(i+1)) ai) dp ?_;intro J1 o28 kr;replace kr:=bJ.one kr;refine .r (i:=9) hs rfl aD .none (aF rfl aj kr) ?_;refine .zw 10 rfl (zfa bV) ?_;refine .y 11 rfl hs an ?_;refine .z 12 rfl (zfa eo) ?_;refine .y 13 rfl hs aj ?_;refine .ixX (enc:=fun x=>[I x]) (i:=14) hs rfl aD .none S3.st rfl rfl ae ak (bG (l:=s.sp.st) (i:=i) ai) dp ?_;intro Qv o34 kJ;replace kJ:=bJ.one kJ;refine .r (i:=15) hs rfl aD .none (aF rfl aj kJ) ?_;refine .zw 16 rfl gE (.E 17 hs ?_);refine .call call243 rfl (pC hs ai ai) ?_;rintro _ w ⟨rfl,hs⟩;refine .go (.zw 18 rfl zg ?_);refine .D hs ?_;refine .region (.y hs (zld QC) (.z (zfa fH) (.y hs (zld aj) (.z (zfa fH) (.y hs (zld aj) (.z (zfa aZ) (.y hs (zld an) (.z (dk ae) (.z cV (.z zm (.z zm (.z (zfa eM) (.y hs (zld aj) (.o (.call call242 rfl (jM (ls:=ls++vH (alL s.sp) s.sp.wa.length p) (hs.sb:St H2 w (.blk bm _::en:: .blk b1 _:: .blk b2 _::uM)) hO (by rw [List.length_append];omega)) ?_)))))))))))))));rintro _ w ⟨vl3,en3,iZ,hs⟩;have Re:(s.sp.u (i+1) k:Int)=((p+1:Nat):Int)+(s.sp.wa.length:Int):=by unfold Spc.u at hu ⊢;rw [Nat.add_mul];omega
   rw [show two ((p+1:Nat):Int) (((p+1:Nat):Int)+(s.sp.wa.length:Int)) (mW s.sp.al (gi s.sp.st (i+1) - gi s.sp.st i)) (mW s.sp.al (gi s.sp.st (i+1) - gi s.sp.st i)) s.sp.src=alL s.sp i k by unfold alL;rw [if_pos ai,hu,Re];rfl,List.append_assoc,←qK] at iZ;exact .nil (nB ⟨H2,_,HLe.refl _,hs,_,_,rfl,iZ⟩)
  ·refine .skip (nB ?_);rw [show alL s.sp i k=[] by unfold alL;rw [if_neg ai],List.append_nil] at qK;exact ⟨H2,_,HLe.refl _,(hs.sb:St H2 w (.blk bm _::en:: .blk b1 _:: .blk b2 _::uM)),_,_,rfl,by rw [qK];exact hO⟩
 ·rintro D H2 zE w bp ⟨vl,en,rfl,hO⟩ hs;rw [fp,show s.sp.many=s.sp.st.length*s.sp.wa.length from rfl,vG _ rk.2.2.1] at hO;exact nB (Fin.WL [D] [] hs fun w hs=>⟨_,results0 results191,H2,vl,en,az.trans bp,hO,(hs.sb:St H2 w (.blk bm _::en::σ))⟩)
theorem DC{w:World}{s:Srv}{ts:List TD}(hs:St H w (.blk bm [I s.sp.id,I s.sp.src,cU,cO,I s.sp.al,I s.sp.up,vr,vc,vt,vl]::en::σ))(hk:MkK H s ts cU cO vr vc vt)(hO:dj 4 vl (jJ ls) en)(hl:ls.length≤10000)(aU:fB s.sp):
  ab8 192 [Pt bm] w fun _ w'=>∃H1 xb l5,HLe H H1∧dj 4 xb (jJ (ls++fL (upL s.sp) s.sp.wa.length s.sp.st.length)) l5∧St H1 w' (.blk bm [I s.sp.id,I s.sp.src,cU,cO,I s.sp.al,I s.sp.up,vr,vc,vt,xb]::l5::σ):=by
 have rk:=fX aU;obtain ⟨iV,iT,rfl⟩:=RI.shape hk.st;obtain ⟨gX,gW,rfl⟩:=RI.shape hk.wa;refine Cl.o func192 ntmps192 ag1 ?_;refine .af (.bx hs fun b1 w hs=>?_);refine .nil (.af (.y hs (zld QC) (.z znc (.z (zfa eC) (.z (zfa a6) (.y hs (zls [_,_,_,_,_,_] bY bq) (.o (.alloc hs tv rfl fun b2 w hs=>?_))))))));refine .o (.aJ (vs:=[_,_,_,_,_,_]) hs rfl rfl bq fun w hs=>?_);refine .nil (.af (.y hs (zls [_,_,_,_,_,_] bY bq) (.o (.call call131 rfl (iA (s:=s.sp) hs hk.st hk.wa ⟨ai,ai⟩) ?_))));rintro _ w ⟨H1,ba,az,rfl,ti,hs⟩;refine .nil (.block ?_);refine .rangeFunc (gf:=188) (cap:=[Pt ba]) (xs:=CS s.sp) (σb:=[.blk bm [I s.sp.id,I s.sp.src,.slice iV s.sp.st.length iT,.slice gX s.sp.wa.length gW,I s.sp.al,I s.sp.up,vr,vc,vt,vl],en,.blk b1 [Pt bm],.blk b2 [I s.sp.id,I s.sp.src,.slice iV s.sp.st.length iT,.slice gX s.sp.wa.length gW,I s.sp.al,I s.sp.up]]) (σf:=σ) (hs.sb) trivial rfl ti call188 (fun x hx=>by
   simp only [CS,List.mem_map] at hx;obtain ⟨j,_,rfl⟩:=hx;rfl) rfl
  (I:=fun p H' σb=>∃vl en,σb=[.blk bm [I s.sp.id,I s.sp.src,.slice iV s.sp.st.length iT,.slice gX s.sp.wa.length gW,I s.sp.al,I s.sp.up,vr,vc,vt,vl],en,.blk b1 [Pt bm],.blk b2 [I s.sp.id,I s.sp.src,.slice iV s.sp.st.length iT,.slice gX s.sp.wa.length gW,I s.sp.al,I s.sp.up]]∧dj 4 vl (jJ (ls++vH (upL s.sp) s.sp.wa.length p)) en) (Ix:=fun _ _ _=>False)
  (fun j _ _ σ g1 g2=>g2) (fun _ _ _ _ _ h=>h) ⟨vl,en,rfl,by rw [sP,List.append_nil];exact hO⟩ ?_ ?_ (fun D c H' σb w _ h _=>h.elim)
 ·rintro ly p hp H2 zE yI w bp ⟨vl,en,rfl,hO⟩ hs ⟨rr,Fe⟩;have Ki:p<s.sp.many:=by rw [fp] at hp;exact hp
  have qK:=sQ (upL s.sp) (p:=p) rk.2.2.1;have Kj:=mA (xe s.sp) rk.2.2.1 p;have ib:p/s.sp.wa.length<s.sp.st.length:=Nat.div_lt_of_lt_mul (by rw [Nat.mul_comm];exact Ki);have LU:=Nat.mod_lt p rk.2.2.1;have UD:=Nat.div_add_mod p s.sp.wa.length;rw [Nat.mul_comm] at UD;have hu:(s.sp.u (p/s.sp.wa.length) (p%s.sp.wa.length):Int)=(p:Int)+1:=by unfold Spc.u;omega
  rw [qn hp];obtain ⟨al,ll,cl,rfl,wS⟩:=hO.shape;generalize p/s.sp.wa.length=i at*;generalize p%s.sp.wa.length=k at*;have S3:=hk.mono (az.trans bp);refine .region (.o (.alloc hs wX rfl fun b3 w hs=>?_));refine .o (.aJ (vs:=[_,_,_]) hs rfl rfl Kb fun w hs=>?_);refine .nil (nT ⟨H2,[.blk b3 [I (i:Int),I (k:Int),I ((p+1:Nat):Int)],.blk bm [I s.sp.id,I s.sp.src,.slice iV s.sp.st.length iT,.slice gX s.sp.wa.length gW,I s.sp.al,I s.sp.up,vr,vc,vt,.slice al ll cl],en,.blk b1 [Pt bm],.blk b2 [I s.sp.id,I s.sp.src,.slice iV s.sp.st.length iT,.slice gX s.sp.wa.length gW,I s.sp.al,I s.sp.up]],HLe.refl _,hs,?_⟩);rintro w uM - hs;refine .block (.af (.z (zfa dM) (.y hs (zld aj) (.z cV (.z (zfa aZ) (.y hs (zld an) (.z (dk ae) (.zn gV (.bA rfl (fun lM=>?_) (fun lM=>?_))))))))))
  ·refine .seq (.draw mix rfl hs fun w hs=>?_);refine .zw 0 rfl (zfa eW) ?_;refine .z 1 rfl (zfa lR) ?_;refine .y 2 rfl hs aj ?_;refine .z 3 rfl (zfa aZ) ?_;refine .y 4 rfl hs an ?_;refine .z 5 rfl (zfa dM) ?_;refine .y 6 rfl hs aj ?_;refine .z 7 rfl cV ?_;have Rk:=aU.wa.rise k ai;have JF:=aU.wa.bd (i:=k) ai;have OC:=aU.wa.bd (i:=k+1) ai;have Hf:=aU.up;refine .ixX (enc:=fun x=>[I x]) (i:=8) hs rfl aD .none S3.wa rfl rfl ae ak (bG (l:=s.sp.wa) (i:=(k+1)) ai) dp ?_;intro J1 o28 kr;replace kr:=bJ.one kr;refine .r (i:=9) hs rfl aD .none (aF rfl aj kr) ?_;refine .zw 10 rfl (zfa aZ) ?_;refine .y 11 rfl hs an ?_;refine .z 12 rfl (zfa dM) ?_;refine .y 13 rfl hs aj ?_;refine .ixX (enc:=fun x=>[I x]) (i:=14) hs rfl aD .none S3.wa rfl rfl ae ak (bG (l:=s.sp.wa) (i:=k) ai) dp ?_;intro Qv o34 kJ;replace kJ:=bJ.one kJ;refine .r (i:=15) hs rfl aD .none (aF rfl aj kJ) ?_;refine .zw 16 rfl gE (.E 17 hs ?_);refine .call call243 rfl (pC hs ai ai) ?_;rintro _ w ⟨rfl,hs⟩;refine .go (.zw 18 rfl zg ?_);refine .D hs ?_;refine .region (.y hs (zld QC) (.z (zfa fH) (.y hs (zld aj) (.z (zfa fH) (.y hs (zld aj) (.z cV (.z zm (.z zm (.z (zfa eM) (.y hs (zld aj) (.o (.call call242 rfl (jM (ls:=ls++vH (upL s.sp) s.sp.wa.length p) (hs.sb:St H2 w (.blk bm _::en:: .blk b1 _:: .blk b2 _::uM)) hO (by rw [List.length_append];omega)) ?_))))))))))));rintro _ w ⟨vl3,en3,iZ,hs⟩;have Re:(s.sp.u i (k+1):Int)=((p+1:Nat):Int)+1:=by unfold Spc.u at hu ⊢;omega
   rw [show two ((p+1:Nat):Int) (((p+1:Nat):Int)+1) (mW s.sp.up (gi s.sp.wa (k+1) - gi s.sp.wa k)) (mW s.sp.up (gi s.sp.wa (k+1) - gi s.sp.wa k)) s.sp.src=upL s.sp i k by unfold upL;rw [if_pos ai,hu,Re];rfl,List.append_assoc,←qK] at iZ;exact .nil (nB ⟨H2,_,HLe.refl _,hs,_,_,rfl,iZ⟩)
  ·refine .skip (nB ?_);rw [show upL s.sp i k=[] by unfold upL;rw [if_neg ai],List.append_nil] at qK;exact ⟨H2,_,HLe.refl _,(hs.sb:St H2 w (.blk bm _::en:: .blk b1 _:: .blk b2 _::uM)),_,_,rfl,by rw [qK];exact hO⟩
 ·rintro D H2 zE w bp ⟨vl,en,rfl,hO⟩ hs;rw [fp,show s.sp.many=s.sp.st.length*s.sp.wa.length from rfl,vG _ rk.2.2.1] at hO;exact nB (Fin.WL [D] [] hs fun w hs=>⟨_,results0 results192,H2,vl,en,az.trans bp,hO,(hs.sb:St H2 w (.blk bm _::en::σ))⟩)
theorem xD{w:World}{s:Srv}{ts:List TD}(hs:St H w (.blk bm [I s.sp.id,I s.sp.src,cU,cO,I s.sp.al,I s.sp.up,vr,vc,vt,vl]::en::σ))(hk:MkK H s ts cU cO vr vc vt)(hO:dj 4 vl (jJ ls) en)(hl:ls.length≤10000)(aU:fB s.sp)(zb:ts.length≤100):
  ab8 193 [Pt bm] w fun _ w'=>∃H1 xb l5,HLe H H1∧dj 4 xb (jJ (ls++DY s.sp ts.length)) l5∧St H1 w' (.blk bm [I s.sp.id,I s.sp.src,cU,cO,I s.sp.al,I s.sp.up,vr,vc,vt,xb]::l5::σ):=by
 have rk:=fX aU;obtain ⟨at_,ct,rfl⟩:=RTd.shape hk.ts;refine Cl.o func193 ntmps193 ag1 ?_;refine .af (.z zm (.z znc (.z (zfa iK) (.y hs (zld isAgg159) (.z (dk cI) (.zn zm (.for (N:=ts.length) (J:=fun j fr w=>fr=[(0,Pt bm)]∧∃vl en,dj 4 vl (jJ (ls++DY s.sp j)) en∧St H w (.blk bm [I s.sp.id,I s.sp.src,cU,cO,I s.sp.al,I s.sp.up,vr,vc,.slice at_ ts.length ct,vl]::en::σ)) ai ?_ ?_ ?_)))))))
 ·exact .mk ⟨rfl,vl,en,by show dj 4 vl (jJ (ls++[])) en;rw [List.append_nil];exact hO,hs⟩
 ·rintro j fr w hj ⟨rfl,vl,en,hO,hs⟩;have aba:=mf s.sp j;obtain ⟨al,ll,cl,rfl,wS⟩:=hO.shape;refine .block (.af (.z zm (.zn zg (.draw mix rfl hs fun w hs=>?_))));refine .zw 0 rfl zm ?_;refine .z 1 rfl zm ?_;refine .z 2 rfl zm ?_;refine .z 4 rfl zm ?_;refine .z 5 rfl znc ?_;refine .z 6 rfl (zfa eC) ?_;refine .z 7 rfl (zfa a6) ?_;refine .z 8 rfl (zfa eM) ?_;refine .y 9 rfl hs aj ?_;refine .E 3 hs ?_;refine .call call244 rfl (nO (s:=s.sp) hs .here hk.st hk.wa ⟨ai,ai⟩ ⟨ai,ai⟩) ?_;rintro _ w ⟨rfl,hs⟩;refine .go (.E 10 hs ?_);refine .call call242 rfl (jM (ls:=ls++DY s.sp j) hs hO (by rw [List.length_append];omega)) ?_;rintro _ w ⟨vl3,en3,iZ,hs⟩;rw [show (s.sp.many:Int)+1+(j:Int)=((s.sp.many+1+j:Nat):Int) by omega,List.append_assoc] at iZ;exact .go (.D hs (nB (nT (.mk ⟨rfl,vl3,en3,iZ,hs⟩))))
 ·rintro fr w ⟨rfl,vl,en,hO,hs⟩;exact Fin.FR results193 ⟨H,vl,en,HLe.refl _,hO,hs⟩
set_option maxHeartbeats 1000000 in
theorem uj{w:World}{s:Srv}{ts:List TD}(hs:St H w (.blk bm [I s.sp.id,I s.sp.src,cU,cO,I s.sp.al,I s.sp.up,vr,vc,vt,vl]::en::σ))(hk:MkK H s ts cU cO vr vc vt)(hO:dj 4 vl (jJ ls) en)(hl:ls.length≤10000)(aU:fB s.sp)(zb:ts.length≤100)(uw:s.cs.length≤20)(hc:∀c∈s.cs,uK c){j0:Nat}(hj0:j0≤ts.length):
  ab8 245 [Pt bm,I (j0:Int)] w fun _ w'=>∃H1 xb l5,HLe H H1∧dj 4 xb (jJ (ls++zY s.sp ts s.cs j0 s.cs.length)) l5∧St H1 w' (.blk bm [I s.sp.id,I s.sp.src,cU,cO,I s.sp.al,I s.sp.up,vr,vc,vt,xb]::l5::σ):=by
 have rk:=fX aU;obtain ⟨at_,ct,rfl⟩:=RTd.shape hk.ts;obtain ⟨ac,cc,rfl⟩:=RCm.shape hk.cs;refine Cl.o func245 ntmps245 ag2 ?_;refine .af (.z zm (.z znc (.z (zfa eC) (.z (zfa cQ) (.y hs (zld kv) (.z (dk bM) (.zn zm (.for (N:=s.cs.length) (J:=fun i fr w=>fr=[(12,.slice ac s.cs.length cc),(0,Pt bm),(1,I (j0:Int))]∧∃vl en,dj 4 vl (jJ (ls++zY s.sp ts s.cs j0 i)) en∧St H w (.blk bm [I s.sp.id,I s.sp.src,cU,cO,I s.sp.al,I s.sp.up,vr,.slice ac s.cs.length cc,.slice at_ ts.length ct,vl]::en::σ)) ai ?_ ?_ ?_))))))))
 ·exact .mk ⟨rfl,vl,en,by show dj 4 vl (jJ (ls++[])) en;rw [List.append_nil];exact hO,hs⟩
 ·rintro i fr w hi ⟨rfl,vl,en,hO,hs⟩;obtain ⟨c,hx⟩:=nth hi;obtain ⟨g1,g2,g3,g4,g5,g6⟩:=hc c (List.mem_of_getElem? hx);have Yw:=mg s.sp ts s.cs j0 i;have Yv:i*(2*(ts.length - j0))≤20*(2*100):=Nat.mul_le_mul ai ai;refine .block (.af (.ixX (enc:=Cmp.c) hs hk.cs rfl rfl bM eD hx dp ?_));intro nD o16 dY;refine .q hs (cj (vs:=(Cmp.c c)) rfl isAgg153 eD dY) (.o (.alloc hs Tr rfl fun b5 w hs=>?_));refine .o (.aJ (vs:=c.c) hs rfl rfl eD fun w hs=>?_);replace hs:St H w (.blk bm [I s.sp.id,I s.sp.src,cU,cO,I s.sp.al,I s.sp.up,vr,.slice ac s.cs.length cc,.slice at_ ts.length ct,vl]::en:: .blk b5 [I c.src,I c.tape,I c.fr,I c.to,I c.lo,I c.hi]::σ):=hs.sb;refine .nil (.af (.z zm (.zn zg (.block ?_))));refine .loop (fun j:Nat=>⟨62,[],[(6,I ((j0+j:Nat):Int)),(5,Pt b5),(14,I (i:Int)),(13,I (s.cs.length:Int)),(12,.slice ac s.cs.length cc),(0,Pt bm),(1,I (j0:Int))]⟩)
   (fun j w=>j0+j≤ts.length∧∃vl en,dj 4 vl (jJ (ls++zY s.sp ts s.cs j0 i++nX s.sp ts c j0 j)) en∧St H w (.blk bm [I s.sp.id,I s.sp.src,cU,cO,I s.sp.al,I s.sp.up,vr,.slice ac s.cs.length cc,.slice at_ ts.length ct,vl]::en:: .blk b5 [I c.src,I c.tape,I c.fr,I c.to,I c.lo,I c.hi]::σ)) (fun j=>ts.length - (j0+j)) 0 aM
   ⟨ai,vl,en,by show dj 4 vl (jJ (_++[])) en;rw [List.append_nil];exact hO,hs⟩ ?_
  clear hO hs;rintro j w ⟨hj,vl,en,hO,hs⟩;have LS:=oI s.sp ts c j0 j;obtain ⟨al,ll,cl,rfl,wS⟩:=hO.shape;refine .seq (.af (.z zm (.z zm (.z znc (.z (zfa iK) (.y hs (zld isAgg159) (.z (dk cI) (.zn gV (.bA rfl (fun gv=>?_) (fun gv=>?_))))))))))
  ·refine .skip (nT (.seq (.block (.af (.z zm (.z znc (.z (zfa iK) (.y hs (zld isAgg159) (.z zm ?_)))))))));obtain ⟨t,ht⟩:=nth (l:=ts) (k:=j0+j) ai;have T7:=PI ht;refine .ixX (enc:=TD.c) hs hk.ts rfl rfl cI dF ht dp ?_;intro WT o33 nQ;refine .q hs (cj (vs:=(TD.c t)) rfl kl dF nQ) (.o (.alloc hs wZ rfl fun b7 w hs=>?_));refine .o (.aJ (vs:=t.c) hs rfl rfl dF fun w hs=>?_);change St _ _ (.blk b7 [I t.tape,I t.day]::_) at hs;refine .nil (.af (.z (zfa qQ) (.y hs (zld aj) (.z (zfa kQ) (.y hs (zld aj) (.z fJ (.z zm (.ie (t':=40) rfl (fun R1=>?_) (fun R1=>?_)))))))))
   ·refine .T ?_;refine .z (zfa mX) (.T (.y hs (zld aj) (.T (.z (zfa iE) (.T (.y hs (zld aj) (.T (.z (zfa gJ) (.T (.y hs (zld aj) (.T (.o (.call jP rfl (bP hs) ?_)))))))))))));rintro _ w ⟨rfl,hs⟩;refine .zn zpT (.cond rfl (fun nP=>?_) (fun nP=>?_))
    ·refine .draw mix rfl hs fun w hs=>?_
     refine .zw 0 rfl zm ?_;refine .z 1 rfl zm ?_;refine .z 2 rfl zm ?_;refine .z 4 rfl (zfa gI) ?_;refine .y 5 rfl hs aj ?_;refine .z 6 rfl BM ?_;refine .z 7 rfl (zfa gH) ?_;refine .y 8 rfl hs aj ?_;refine .z 9 rfl (zfa jI) ?_;refine .y 10 rfl hs aj ?_;refine .E 3 hs ?_;refine .call call244 rfl (nO (s:=s.sp) hs (.there .here) hk.st hk.wa ⟨ai,ai⟩ ⟨ai,ai⟩) ?_;rintro _ w ⟨rfl,hs⟩;refine .go (.E 11 hs ?_);refine .call call242 rfl (jM (ls:=ls++zY s.sp ts s.cs j0 i++nX s.sp ts c j0 j) (hs.tail:St H w (.blk bm _::en:: .blk b5 _::σ)) hO (by rw [List.length_append,List.length_append];omega)) ?_;rintro _ w ⟨vl3,en3,iZ,hs⟩;refine .go (.D hs (nB (nT (.region (.z zm (.z cV (.zn zg (nT ?_))))))));have e:nX s.sp ts c j0 (j+1)=nX s.sp ts c j0 j++two 0 ((s.sp.many:Int)+1+((j0+j:Nat):Int)) (-c.lo) c.hi c.src:=by
      show _++oN c (td0 ts (j0+j)) _=_;rw [T7];unfold oN;rw [if_pos (by simp at nP;omega)];rw [show ((s.sp.many+1+(j0+j):Nat):Int)=(s.sp.many:Int)+1+((j0+j:Nat):Int) by omega]
     rw [List.append_assoc _ (nX _ _ _ _ _),←e] at iZ;exact ⟨j+1,.da rfl (by simp;omega) aM,⟨ai,vl3,en3,iZ,hs⟩,ai⟩
    ·refine .skip (nB (nT (.region (.z zm (.z cV (.zn zg (nT ?_)))))));have e:nX s.sp ts c j0 (j+1)=nX s.sp ts c j0 j:=by
      show _++oN c (td0 ts (j0+j)) _=_;rw [T7];unfold oN;rw [if_neg (by simp at nP;omega),List.append_nil]
     exact ⟨j+1,.da rfl (by simp;omega) aM,⟨ai,_,en,by rw [e];exact hO,hs.tail⟩,ai⟩
   ·refine .Fs 7 5 true (.zn zpF (.cF (.skip (nB (nT (.region (.z zm (.z cV (.zn zg (nT ?_))))))))));have e:nX s.sp ts c j0 (j+1)=nX s.sp ts c j0 j:=by
     show _++oN c (td0 ts (j0+j)) _=_;rw [T7];unfold oN;rw [if_neg ai,List.append_nil]
    exact ⟨j+1,.da rfl (by simp;omega) aM,⟨ai,_,en,by rw [e];exact hO,hs.tail⟩,ai⟩
  ·refine .exit (xT (xT (xB (nB (nT ?_)))));obtain rfl:j=ts.length - j0:=by omega
   rw [List.append_assoc,show zY s.sp ts s.cs j0 i++nX s.sp ts c j0 (ts.length - j0)=zY s.sp ts s.cs j0 (i+1) by rw [←MX hx];rfl] at hO;exact .mk ⟨rfl,_,en,hO,hs.sb⟩
 ·rintro fr w ⟨rfl,vl,en,hO,hs⟩;exact Fin.FR results245 ⟨H,vl,en,HLe.refl _,hO,hs⟩
theorem q7{w:World}{s:Srv}{ts:List TD}(hs:St H w (.blk bm [I s.sp.id,I s.sp.src,cU,cO,I s.sp.al,I s.sp.up,vr,vc,vt,vl]::en::σ))(hk:MkK H s ts cU cO vr vc vt)(hO:dj 4 vl (jJ ls) en)(hl:ls.length≤10000)(aU:fB s.sp)(zb:ts.length≤100)(uw:s.cs.length≤20)(hc:∀c∈s.cs,uK c):
  ab8 194 [Pt bm] w fun _ w'=>∃H1 xb l5,HLe H H1∧dj 4 xb (jJ (ls++zY s.sp ts s.cs 0 s.cs.length)) l5∧St H1 w' (.blk bm [I s.sp.id,I s.sp.src,cU,cO,I s.sp.al,I s.sp.up,vr,vc,vt,xb]::l5::σ):=by
 refine Cl.o func194 ntmps194 ag1 ?_;refine .region (.z zm (.o (.call call245 rfl (uj (s:=s) (ts:=ts) (j0:=0) hs hk hO hl aU zb uw hc ai) ?_)));rintro _ w hs;exact .nil (Fin.FR results194 hs)
set_option maxHeartbeats 1000000 in
theorem ui{w:World}{s:Srv}{ts:List TD}(hs:St H w (.blk bm [I s.sp.id,I s.sp.src,cU,cO,I s.sp.al,I s.sp.up,vr,vc,vt,vl]::en::σ))(hk:MkK H s ts cU cO vr vc vt)(hO:dj 4 vl (jJ ls) en)(hl:ls.length≤10000)(aU:fB s.sp)(zb:ts.length≤100)(Ff:s.rs.length≤60)(hr:∀r∈s.rs,pT s.sp r)(Fh:∀r∈s.rs,r.td∈ts):
  ab8 195 [Pt bm] w fun _ w'=>∃H1 xb l5,HLe H H1∧dj 4 xb (jJ (ls++By s.sp ts s.rs s.rs.length)) l5∧St H1 w' (.blk bm [I s.sp.id,I s.sp.src,cU,cO,I s.sp.al,I s.sp.up,vr,vc,vt,xb]::l5::σ):=by
 have rk:=fX aU;obtain ⟨at_,ct,rfl⟩:=RTd.shape hk.ts;obtain ⟨ar,cr,rfl⟩:=RRd.shape hk.rs;refine Cl.o func195 ntmps195 ag1 ?_;refine .af (.z zm (.z znc (.z (zfa eC) (.z (zfa aP) (.y hs (zld dD) (.z (dk aE) (.zn zm (.for (N:=s.rs.length) (J:=fun i fr w=>fr=[(9,.slice ar s.rs.length cr),(0,Pt bm)]∧∃vl en,dj 4 vl (jJ (ls++By s.sp ts s.rs i)) en∧St H w (.blk bm [I s.sp.id,I s.sp.src,cU,cO,I s.sp.al,I s.sp.up,.slice ar s.rs.length cr,vc,.slice at_ ts.length ct,vl]::en::σ)) ai ?_ ?_ ?_))))))))
 ·exact .mk ⟨rfl,vl,en,by show dj 4 vl (jJ (ls++[])) en;rw [List.append_nil];exact hO,hs⟩
 ·rintro i fr w hi ⟨rfl,vl,en,hO,hs⟩;obtain ⟨r,hx⟩:=nth hi;obtain ⟨g1,g2,g3,g4,g5,g6,g7⟩:=hr r (List.mem_of_getElem? hx);obtain ⟨k,k1,k2,k3⟩:=jY (Fh r (List.mem_of_getElem? hx));have XO:=mc s.sp ts s.rs i;obtain ⟨al,ll,cl,rfl,wS⟩:=hO.shape;refine .block (.af (.ixX (enc:=Rdg.c) hs hk.rs rfl rfl aE bh hx dp ?_));intro nm o13 iq;refine .q hs (cj (vs:=(Rdg.c r)) rfl km bh iq) (.o (.alloc hs jW rfl fun b3 w hs=>?_));refine .o (.aJ (vs:=r.c) hs rfl rfl bh fun w hs=>?_);change St _ _ (.blk b3 [I r.src,I r.st,I r.wa,I r.val,I r.tol,I r.tape,I r.day]::_) at hs;refine .nil (.seq (.draw mix rfl hs fun w hs=>?_));refine .zw 0 rfl zm ?_;refine .z 1 rfl znc ?_;refine .z 2 rfl (zfa iK) ?_;refine .y 3 rfl hs isAgg159 ?_;refine .ys 4 rfl hs [_,_,_,_,_,_,_] km bh ?_;refine .E 5 hs ?_;refine .call call241 rfl (kV hs) ?_;rintro _ w ⟨rfl,hs⟩;refine .go (.E 6 hs ?_);refine .call call246 rfl (Au (t:=r.td) hs hk.ts ai) ?_;rintro _ w ⟨rfl,hs⟩;refine .go (.zw 7 rfl zg ?_);refine .D hs ?_;refine .draw mix rfl hs fun w hs=>?_
  refine .zw 0 rfl zm ?_;refine .z 1 rfl zm ?_;refine .z 2 rfl zm ?_;refine .z 4 rfl zm ?_;refine .z 5 rfl znc ?_;refine .z 6 rfl (zfa eC) ?_;refine .z 7 rfl (zfa a6) ?_;refine .ys 8 rfl hs [_,_,_,_,_,_] bY bq ?_;refine .z 9 rfl (zfa iD) ?_;refine .y 10 rfl hs aj ?_;refine .zw 11 rfl (zfa iC) ?_;refine .y 12 rfl hs aj ?_;refine .z 14 rfl (zfa dQ) ?_;refine .y 15 rfl hs aj ?_;refine .z 16 rfl (zfa dI) ?_;refine .y 17 rfl hs aj ?_;refine .z 18 rfl cV ?_;refine .z 19 rfl (zfa dI) ?_;refine .y 20 rfl hs aj ?_;refine .z 21 rfl (zfa dQ) ?_;refine .y 22 rfl hs aj ?_;refine .z 23 rfl gE ?_;refine .z 24 rfl (zfa fy) ?_;refine .y 25 rfl hs aj ?_;refine .E 3 hs ?_;refine .call call244 rfl (nO (s:=s.sp) hs (.there .here) hk.st hk.wa ⟨ai,ai⟩ ⟨ai,ai⟩) ?_;rintro _ w ⟨rfl,hs⟩;refine .go (.E 13 hs ?_);refine .call call247 rfl (s9 (s:=s.sp) hs hk.wa ai ⟨ai,ai⟩ ⟨ai,ai⟩) ?_;rintro _ w ⟨rfl,hs⟩;refine .go (.E 26 hs ?_);refine .call call242 rfl (jM (ls:=ls++By s.sp ts s.rs i) (hs.sb:St H w (.blk bm _::en:: .blk b3 _::σ)) hO (by rw [List.length_append];omega)) ?_;rintro _ w ⟨vl3,en3,iZ,hs⟩;refine .go (.D hs (nB (nT ?_)));rw [List.append_assoc,show By s.sp ts s.rs i++two ((s.sp.many:Int)+1+mP ts r.td) (1+r.st*s.sp.wa.length+r.wa) (r.val+r.tol) (r.tol - r.val) r.src=By s.sp ts s.rs (i+1) by rw [←KS hx];rfl] at iZ;exact .mk ⟨rfl,vl3,en3,iZ,hs.sb⟩
 ·rintro fr w ⟨rfl,vl,en,hO,hs⟩;exact Fin.FR results195 ⟨H,vl,en,HLe.refl _,hO,hs⟩
def fnK:Nat→Nat
 |0=>190
 |1=>191
 |2=>192
 |3=>193
 |4=>194
 |_=>195
theorem O1(hk:k<6):∀args w,(callFunc (fnK k) args).run Tryz.prog w= .ok (.enter (fnK k) args) w:=by
 have h:k=0∨k=1∨k=2∨k=3∨k=4∨k=5:=by omega
 rcases h with rfl|rfl|rfl|rfl|rfl|rfl
 ·exact call190
 ·exact call191
 ·exact call192
 ·exact call193
 ·exact call194
 ·exact call195
theorem K9{w:World}{s:Srv}(hs:St H w (.blk bm [I s.sp.id,I s.sp.src,cU,cO,I s.sp.al,I s.sp.up,vr,vc,vt,vl]::en::σ))(hk:MkK H s s.di cU cO vr vc vt)(hO:dj 4 vl (jJ (s.parts k)) en)(he:s.early)(hk6:k<6):
  ab8 (fnK k) [Pt bm] w fun _ w'=>∃H1 xb l5,HLe H H1∧dj 4 xb (jJ (s.parts (k+1))) l5∧St H1 w' (.blk bm [I s.sp.id,I s.sp.src,cU,cO,I s.sp.al,I s.sp.up,vr,vc,vt,xb]::l5::σ):=by
 have hl:=mw he k ai;obtain ⟨aU,h1,h2,h3,h4⟩:=he;have zb:s.di.length≤100:=by have:=eL s.rs;unfold Srv.di;omega
 have h:k=0∨k=1∨k=2∨k=3∨k=4∨k=5:=by omega
 rcases h with rfl|rfl|rfl|rfl|rfl|rfl
 ·exact uk hs hk hO (Nat.le_trans hl eA) aU
 ·exact y9 hs hk hO (Nat.le_trans hl eA) aU
 ·exact DC hs hk hO (Nat.le_trans hl eA) aU
 ·exact xD hs hk hO (Nat.le_trans hl eA) aU zb
 ·exact q7 hs hk hO (Nat.le_trans hl eA) aU zb h2 h4
 ·exact ui hs hk hO (Nat.le_trans hl eA) aU zb h1 h3 fun r hr=>jA.2 ⟨r,hr,rfl⟩
def fnV(b:Nat)(k:Nat):Value:= .func (.func (fnK k)) #[Pt b] #[]
theorem Se(b:Nat){k:Nat}(hk:k<6):[fnV b 0,fnV b 1,fnV b 2,fnV b 3,fnV b 4,fnV b 5][k]? =some (fnV b k):=by
 have h:k=0∨k=1∨k=2∨k=3∨k=4∨k=5:=by omega
 rcases h with rfl|rfl|rfl|rfl|rfl|rfl<;>rfl
set_option maxHeartbeats 1000000 in
theorem vA{w:World}{s:Srv}(hs:St H w σ)(h1:RI H cU s.sp.st)(h2:RI H cO s.sp.wa)(h3:RRd H vr s.rs)(h4:RCm H vc s.cs)(he:s.early):
  ab8 133 [.agg #[I s.sp.id,I s.sp.src,cU,cO,I s.sp.al,I s.sp.up,vr,vc]] w fun u w'=>∃H1 vl en,HLe H H1∧u= .agg #[I s.sys.many,vl]∧dj 4 vl (jJ s.dt) en∧St H1 w' (en::σ):=by
 have rk:=fX he.1;have zb:s.di.length≤60:=by have:=eL s.rs;have:=he.2.1;unfold Srv.di;omega
 refine Cl.o func133 ntmps133 ag1 ?_;refine .af (.bx hs fun b1 w hs=>?_);refine .o (.alloc hs fb rfl fun b2 w hs=>?_);refine .nil (.seq (.draw mix rfl hs fun w hs=>?_));refine .ys 0 rfl hs [_,_,_,_,_,_,_,_] bn aK ?_;refine .ys 1 rfl hs [_,_,_,_,_,_,_,_] bn aK ?_;refine .E 2 hs ?_;refine .call call189 rfl (vz hs h3 (by have:=he.2.1;omega)) ?_;rintro v8 w ⟨H1,az,hT,hs⟩;obtain ⟨at_,ct,rfl⟩:=RTd.shape hT;have Gm:MkK H1 s s.di cU cO vr vc (.slice at_ s.di.length ct):=⟨h1.mono az,h2.mono az,h3.mono az,h4.mono az,hT⟩;refine .go (.zw 3 rfl (zbd (vs:=[(0,.agg #[I s.sp.id,I s.sp.src,cU,cO,I s.sp.al,I s.sp.up,vr,vc]),(1,.slice at_ s.di.length ct)]) [I s.sp.id,I s.sp.src,cU,cO,I s.sp.al,I s.sp.up,vr,vc,.slice at_ s.di.length ct,.slice none 0 0] yc rfl aD) (.E 4 hs ?_));refine .box hs rfl rfl ?_;intro pb w hs;refine .go (.zw 5 rfl zg ?_);refine .D hs ?_;refine .seq (.af (.z zm (.q hs (dZ (f:=[_]) (c:=[]) rfl rfl) (.z zm (.q hs (dZ (f:=[_]) (c:=[]) rfl rfl) (.z zm (.q hs (dZ (f:=[_]) (c:=[]) rfl rfl) (.z zm (.q hs (dZ (f:=[_]) (c:=[]) rfl rfl) (.z zm (.q hs (dZ (f:=[_]) (c:=[]) rfl rfl) (.z zm (.q hs (dZ (f:=[_]) (c:=[]) rfl rfl) (.o (.buildSlice (cells:=[fnV pb 0,fnV pb 1,fnV pb 2,fnV pb 3,fnV pb 4,fnV pb 5]) hs D5 rfl aD fun Ks w hs=>?_)))))))))))))));refine .z (dk runUnderlying247) (.zn zm (.for (N:=6) (J:=fun k fr w=>fr=[(23,.slice (some ⟨Ks,0,none⟩) 6 6),(3,Pt pb),(2,Pt b2),(1,Pt b1)]∧∃H2 vl en,HLe H1 H2∧dj 4 vl (jJ (s.parts k)) en∧St H2 w (.blk pb [I s.sp.id,I s.sp.src,cU,cO,I s.sp.al,I s.sp.up,vr,vc,.slice at_ s.di.length ct,vl]::en:: .blk Ks [fnV pb 0,fnV pb 1,fnV pb 2,fnV pb 3,fnV pb 4,fnV pb 5]:: .blk b2 [I 0,.slice none 0 0]:: .blk b1 [I s.sp.id,I s.sp.src,cU,cO,I s.sp.al,I s.sp.up,vr,vc]::σ)) ai ?_ ?_ ?_))
 ·exact .mk ⟨rfl,H1,.slice none 0 0,.nul,HLe.refl _,.nil 4 none,hs.nul.sb⟩
 ·rintro k fr w hk ⟨rfl,H2,vl,en,bp,hO,hs⟩;refine .block (.af (.z (zix runUnderlying247 sizeOf1) (.q hs (eQ rfl isAgg1 (hv:=Se pb hk)) (.zn zg (.region (.z zm (.o (.sw (first:=[Pt pb]) (cap:=[]) rfl rfl (O1 hk) (K9 hs (Gm.mono bp) hO he hk) ?_))))))));rintro _ w ⟨H3,vl3,en3,cZ,iZ,hs⟩;exact .nil (nB (nT (.mk ⟨rfl,H3,vl3,en3,bp.trans cZ,iZ,hs⟩)))
 ·rintro fr w ⟨rfl,H2,vl,en,bp,hO,hs⟩;rw [s.AN] at hO;obtain ⟨al,ll,cl,rfl,wS⟩:=hO.shape;refine nT (.seq (.draw mix rfl hs fun w hs=>?_));refine .zw 0 rfl (zfa a6) ?_;refine .ys 1 rfl hs [_,_,_,_,_,_] bY bq ?_;refine .z 3 rfl zm ?_;refine .z 4 rfl znc ?_;refine .z 5 rfl (zfa iK) ?_;refine .y 6 rfl hs isAgg159 ?_;refine .z 7 rfl (dk cI) ?_;refine .z 9 rfl zm ?_;refine .z 10 rfl znc ?_;refine .z 11 rfl (zfa lN) ?_;refine .zv 12 rfl hs (qf fc) (.E 2 hs ?_);refine .call call196 rfl (pB (s:=s.sp) hs (h1.mono (az.trans bp)) (h2.mono (az.trans bp)) ⟨ai,ai⟩) ?_;rintro _ w ⟨rfl,hs⟩;refine .go (.zw 8 rfl cV ?_);refine .z 13 rfl (zbd [_,_] kL) ?_;refine .E 14 hs ?_;refine .aJ (vs:=[_,_]) hs rfl rfl aQ ?_;intro w hs;refine .go (.D hs (.ret ?_));replace hs:St H2 w (.blk b2 [I ((s.sp.many:Int)+(s.di.length:Int)),.slice al ll cl]::en::σ):=hs.sb;exact Fin.iG [] [] hs fun w hs=>⟨_,results1 results133 (dm (vs:=[_,_]) hs rfl bT aQ),H2,_,en,az.trans bp,by show _=Value.agg #[I ((s.sp.many+s.di.length:Nat):Int),_];rw [Int.natCast_add],hO,hs.tail⟩
theorem ia{w:World}{s:Srv}(hs:St H w σ)(h1:RI H cU s.sp.st)(h2:RI H cO s.sp.wa)(h3:RRd H vr s.rs)(h4:RCm H vc s.cs)(he:s.early):
  ab8 133 [.agg #[I s.sp.id,I s.sp.src,cU,cO,I s.sp.al,I s.sp.up,vr,vc]] w fun u w'=>∃H1,HLe H H1∧RSy H1 u s.sys∧St H1 w' σ:=by
 refine (vA hs h1 h2 h3 h4 he).mono ?_;rintro u w' ⟨H1,vl,en,hle,rfl,hO,hs⟩;have hl:=mw he 6 ai;rw [s.AN] at hl;obtain ⟨H2,bp,hR,hs⟩:=dj.dn (m:=4) (cs:=s.dt.map Lim.c) hO (fun c hc=>by simp only [List.mem_map] at hc;obtain ⟨x,_,rfl⟩:=hc;rfl) ai (by rw [List.length_map];omega) hs .here;exact ⟨H2,hle.trans bp,⟨vl,rfl,hR⟩,hs⟩
set_option maxHeartbeats 1000000 in
theorem fj{w:World}{s:Srv}(hs:St H w σ)(h1:RI H cU s.sp.st)(h2:RI H cO s.sp.wa)(h3:RRd H vr s.rs)(h4:RCm H vc s.cs):
  ab8 117 [.agg #[I s.sp.id,I s.sp.src,cU,cO,I s.sp.al,I s.sp.up,vr,vc]] w fun u w'=>∃H1 e,HLe H H1∧u=I e∧BF s e∧St H1 w' σ:=by
 obtain ⟨iV,iT,rfl⟩:=RI.shape h1;obtain ⟨gX,gW,rfl⟩:=RI.shape h2;obtain ⟨ar,cr,rfl⟩:=RRd.shape h3;obtain ⟨ac,cc,rfl⟩:=RCm.shape h4;refine Cl.o func117 ntmps117 ag1 ?_;refine .af (.bx hs fun b1 w hs=>?_);refine .zn zg (.seq (.af (.z (zfa a6) (.y hs (zls [_,_,_,_,_,_] bY bq) (.o (.call call111 rfl (lG (s:=s.sp) hs h1 h2) ?_))))));rintro _ w ⟨H1,e,az,rfl,he,hs⟩;refine .zn zg (.af (.z zm (.zn fU (.dK rfl (fun iq=>?_) (fun iq=>?_)))))
 ·refine .af (.z zm (.zn zg (.ret (rT (Fin.bu yn rfl ?_)))));have hq:¬fB s.sp∧e=30:=he.resolve_left fun h=>iq h.2
  exact ⟨H1,_,az,rfl,by rw [hq.2];exact .space hq.1,hs.out⟩
 ·refine .skip (nT (.seq (.af (.z (zfa aP) ?_))));have aU:fB s.sp:=(he.resolve_right fun h=>by omega).1;refine .y hs (zld dD) (.z (dk aE) (.z ld (.z zm (.ie (t':=19) rfl (fun DN=>?_) (fun DN=>?_)))))
  ·exact .Fs 4 4 false (.zn zpT (.cT (.af (.zn zg (.ret (rT (Fin.bu yn rfl ⟨H1,_,az,rfl,.long aU ai,hs.out⟩)))))))
  ·refine .T (.z (zfa cQ) (.T (.y hs (zld kv) (.T (.z (dk bM) (.T (.z ld (.zn zpF (.bA rfl (fun jw=>?_) (fun jw=>?_))))))))))
   ·exact .af (.zn zg (.ret (rT (Fin.bu yn rfl ⟨H1,_,az,rfl,.long aU ai,hs.out⟩))))
   ·refine .skip (nT (.seq (.af (.z (zfa aP) (.y hs (zld dD) (.z (dk aE) (.zn zm (.for (N:=s.rs.length) (J:=fun k fr w=>fr=[(26,.slice ar s.rs.length cr),(1,Pt b1)]∧(∀j<k,∀y,s.rs[j]? =some y→pT s.sp y)∧St H1 w (.blk b1 [I s.sp.id,I s.sp.src,.slice iV s.sp.st.length iT,.slice gX s.sp.wa.length gW,I s.sp.al,I s.sp.up,.slice ar s.rs.length cr,.slice ac s.cs.length cc]::σ)) ai ?_ ?_ ?_))))))))
    ·exact .mk ⟨rfl,fun j hj=>by omega,hs⟩
    ·rintro k fr w hk ⟨rfl,fa,hs⟩;obtain ⟨r,hx⟩:=nth hk;refine .block (.af (.ixX (enc:=Rdg.c) hs (h3.mono az) rfl rfl aE bh hx dp ?_));intro VK o30 qi;refine .q hs (cj (vs:=(Rdg.c r)) rfl km bh qi) (.o (.alloc hs jW rfl fun b5 w hs=>?_));refine .o (.aJ (vs:=r.c) hs rfl rfl bh fun w hs=>?_);change St _ _ (.blk b5 [I r.src,I r.st,I r.wa,I r.val,I r.tol,I r.tape,I r.day]::_) at hs;refine .nil (.af (.z (zfa a6) (.y hs (zls [_,_,_,_,_,_] bY bq) (.y hs (zls [_,_,_,_,_,_,_] km bh) (.o (.call call120 rfl (qY (s:=s.sp) (r:=r) hs (h1.mono az) (h2.mono az)) ?_))))));rintro _ w ⟨Po,rfl,G8,hs⟩;refine .zn fE (.cond rfl (fun lK=>?_) (fun lK=>?_))
     ·exact .af (.zn zg (.ret (rB (rT (rB (rT (Fin.bu yn rfl ⟨H1,_,az,rfl,.rdg aU ai (fun h=>by rw [G8.2 (h r (List.mem_of_getElem? hx))] at lK;cases lK),hs.out⟩)))))))
     ·exact .skip (nB (nT (.mk ⟨rfl,fW fa hx (G8.1 (by simpa using lK)),hs.tail⟩)))
    ·rintro fr w ⟨rfl,fa,hs⟩;have PX:∀r∈s.rs,pT s.sp r:=fun r hr=>by
      obtain ⟨j,hj⟩:=List.getElem?_of_mem hr;exact fa j (List.getElem?_eq_some_iff.1 hj).1 r hj
     clear fa;refine nT (.seq (.af (.z (zfa cQ) (.y hs (zld kv) (.z (dk bM) (.zn zm (.for (N:=s.cs.length) (J:=fun k fr w=>fr=[(39,.slice ac s.cs.length cc),(1,Pt b1)]∧(∀j<k,∀y,s.cs[j]? =some y→uK y)∧St H1 w (.blk b1 [I s.sp.id,I s.sp.src,.slice iV s.sp.st.length iT,.slice gX s.sp.wa.length gW,I s.sp.al,I s.sp.up,.slice ar s.rs.length cr,.slice ac s.cs.length cc]::σ)) ai ?_ ?_ ?_)))))))
     ·exact .mk ⟨rfl,fun j hj=>by omega,hs⟩
     ·rintro k fr w hk ⟨rfl,fa,hs⟩;obtain ⟨c,hx⟩:=nth hk;refine .block (.af (.ixX (enc:=Cmp.c) hs (h4.mono az) rfl rfl bM eD hx dp ?_));intro WR o43 B5;refine .q hs (cj (vs:=(Cmp.c c)) rfl isAgg153 eD B5) (.o (.alloc hs Tr rfl fun b7 w hs=>?_));refine .o (.aJ (vs:=c.c) hs rfl rfl eD fun w hs=>?_);change St _ _ (.blk b7 [I c.src,I c.tape,I c.fr,I c.to,I c.lo,I c.hi]::_) at hs;refine .nil (.af (.y hs (zls [_,_,_,_,_,_] isAgg153 eD) (.o (.call call170 rfl (qZ (c:=c) hs) ?_))));rintro _ w ⟨WQ,rfl,JR,hs⟩;refine .zn fE (.cond rfl (fun oT=>?_) (fun oT=>?_))
      ·exact .af (.zn zg (.ret (rB (rT (rB (rT (Fin.bu yn rfl ⟨H1,_,az,rfl,.cmp aU ai PX (fun h=>by rw [JR.2 (h c (List.mem_of_getElem? hx))] at oT;cases oT),hs.out⟩)))))))
      ·exact .skip (nB (nT (.mk ⟨rfl,fW fa hx (JR.1 (by simpa using oT)),hs.tail⟩)))
     ·rintro fr w ⟨rfl,fa,hs⟩;have RF:∀c∈s.cs,uK c:=fun c hc=>by
       obtain ⟨j,hj⟩:=List.getElem?_of_mem hc;exact fa j (List.getElem?_eq_some_iff.1 hj).1 c hj
      have G1:s.early:=⟨aU,ai,ai,PX,RF⟩;have rk:=fX aU;have zb:s.di.length≤60:=by have:=eL s.rs;have:=G1.2.1;unfold Srv.di;omega
      have wS:=mw G1 6 ai;rw [s.AN] at wS;have hsm2:s.sys.many=((s.sp.many+s.di.length:Nat):Int):=rfl;refine nT (.seq (.af (.y hs (zls [_,_,_,_,_,_,_,_] bn aK) (.o (.call call133 rfl (ia (s:=s) hs (h1.mono az) (h2.mono az) (h3.mono az) (h4.mono az) G1) ?_)))));rintro _ w ⟨H2,bp,⟨ul,rfl,hL⟩,hs⟩;obtain ⟨al,cl,rfl⟩:=RL.shape hL;have hsl:s.sys.dt.length=s.dt.length:=rfl;refine .o (.alloc hs fb rfl fun b8 w hs=>?_);refine .o (.aJ (vs:=[_,_]) hs rfl rfl aQ fun w hs=>?_);refine .nil (.af (.z (zfa cz) (.y hs (zld aj) (.z ld (.z zm (.ie (t':=54) rfl (fun YU=>?_) (fun YU=>?_)))))))
      ·exact .Fs 4 3 false (.zn zpT (.cT (.af (.zn zg (.ret (rT (Fin.bu yn rfl ⟨H2,_,az.trans bp,rfl,.big G1 ai,hs.out⟩)))))))
      ·refine .T (.z (zfa cn) (.T (.y hs (zld fc) (.T (.z (dk bj) (.T (.z ld (.zn zpF (.bA rfl (fun RM=>?_) (fun RM=>?_))))))))))
       ·exact .af (.zn zg (.ret (rT (Fin.bu yn rfl ⟨H2,_,az.trans bp,rfl,.big G1 ai,hs.out⟩))))
       ·exact .skip (nT (.af (.zn zg (.ret (Fin.bu yn rfl ⟨H2,_,az.trans bp,rfl,.ok G1 ⟨ai,ai⟩,hs.out⟩)))))
theorem eh{w:World}(hs:St H w σ):ab8 167 [I a0,I a1,I a2] w fun v w'=>v= .bool (decide (a1≤a0∧a0≤a2))∧St H w' σ:=by
 refine Cl.o func167 ntmps167 ag3 ?_;refine .af (.zn zg (.af (.z zm (.z zm (.z tN (.z zm (.ie (t':=10) rfl (fun pO=>?_) (fun pO=>?_))))))))
 ·exact .T (.z zm (.T (.z zm (.T (.z pc (.z zpT (.zn zg (.ret (Fin.bu results167 rfl ⟨by simp [*],hs.out⟩)))))))))
 ·exact .Fs 3 3 true (.z zpF (.zn zg (.ret (Fin.bu results167 rfl ⟨by simp [*],hs.out⟩))))
theorem Tx(h1:gy 9 100000 s.st)(h2:gy 9 100000 s.wa)(h3:s.wa.length≤7)(h4:gi s.wa (s.wa.length - 1)≤15000)(h5:1≤s.id∧s.id≤99999)(h6:1≤s.src∧s.src≤99999)(h7:0≤s.al∧s.al≤100000)(h8:0≤s.up∧s.up≤100000):fB s:=
 ⟨h1,⟨h2.two,h3,h2.low,h4,h2.rise⟩,h5,h6,h7,h8⟩
theorem GA(h:fB s):gy 9 100000 s.wa:=⟨h.wa.two,by have:=h.wa.many;omega,h.wa.low,by have:=h.wa.high;omega,h.wa.rise⟩
theorem jZ{w:World}(hs:St H w σ)(h1:RI H cU s.st)(h2:RI H cO s.wa):
  ab8 113 [.agg #[I s.id,I s.src,cU,cO,I s.al,I s.up]] w fun v w'=>∃e,v=I e∧((fB s∧e=0)∨(¬fB s∧e=30))∧St H w' σ:=by
 obtain ⟨iV,iT,rfl⟩:=RI.shape h1;obtain ⟨gX,gW,rfl⟩:=RI.shape h2;have l2:=(RI.len h2).2.2;refine Cl.o func113 ntmps113 ag1 ?_;refine .af (.bx hs fun b1 w hs=>?_);refine .zn zg (.seq (.af (.z (zfa oY) (.y hs (zld aj) (.o (.call nf rfl (eh hs) ?_))))));rintro _ w ⟨rfl,hs⟩;refine .z fE (.z zm (.bif (t':=7) rfl (fun Nk=>?_) (fun Nk=>?_)))
 ·exact .Fs 4 4 false (.z zpT (.z zm (.Fs 5 10 false (.z zpT (.z zm (.Fs 5 17 false (.zn zpT (.cT (.af (.zn zg (.ret (rT (Fin.bu rm rfl ⟨_,rfl,.inr ⟨fun h=>by have:=h.id;simp_all,rfl⟩,hs.out⟩)))))))))))))
 ·refine .T (.z (zfa eM) (.T (.y hs (zld aj) (.T (.o (.call nf rfl (eh hs) ?_))))));rintro _ w ⟨rfl,hs⟩;refine .T (.z fE (.z zpF (.z zm (.bif (t':=13) rfl (fun xR=>?_) (fun xR=>?_)))))
  ·exact .Fs 5 10 false (.z zpT (.z zm (.Fs 5 17 false (.zn zpT (.cT (.af (.zn zg (.ret (rT (Fin.bu rm rfl ⟨_,rfl,.inr ⟨fun h=>by have:=h.src;simp_all,rfl⟩,hs.out⟩))))))))))
  ·refine .T (.z (zfa eW) (.T (.z (zfa lS) (.T (.y hs (zld aj) (.T (.o (.call nf rfl (eh hs) ?_))))))));rintro _ w ⟨rfl,hs⟩;refine .T (.z fE (.z zpF (.z zm (.bif (t':=20) rfl (fun FD=>?_) (fun FD=>?_)))))
   ·exact .Fs 5 17 false (.zn zpT (.cT (.af (.zn zg (.ret (rT (Fin.bu rm rfl ⟨_,rfl,.inr ⟨fun h=>by have:=h.al;simp_all,rfl⟩,hs.out⟩)))))))
   ·refine .T (.z (zfa eW) (.T (.z (zfa lR) (.T (.y hs (zld aj) (.T (.o (.call nf rfl (eh hs) ?_))))))));rintro _ w ⟨rfl,hs⟩;refine .T (.z fE (.zn zpF (.cond rfl (fun jm=>?_) (fun jm=>?_))))
    ·exact .af (.zn zg (.ret (rT (Fin.bu rm rfl ⟨_,rfl,.inr ⟨fun h=>by have:=h.up;simp_all,rfl⟩,hs.out⟩))))
    ·refine .skip (nT (.seq (.af (.z (zfa bV) (.y hs (zld an) (.o (.call call168 rfl (jO hs h1) ?_)))))));rintro _ w ⟨e1,rfl,abc,hs⟩;refine .z fU (.z zm (.F1 (t':=31) rfl (fun zk=>?_) (fun zk=>?_)))
     ·exact .Fs 4 4 false (.z zpT (.z zm (.Fs 4 10 false (.z zpT (.z zm (.Fs 9 16 false (.zn zpT (.cT (.af (.zn zg (.ret (rT (Fin.bu rm rfl ⟨_,rfl,.inr ⟨fun h=>zk (abc.elim (fun g=>g.2) fun g=>(g.1 h.st).elim),rfl⟩,hs.out⟩)))))))))))))
     ·refine .T (.z (zfa aZ) (.T (.y hs (zld an) (.T (.o (.call call168 rfl (jO hs h2) ?_))))));rintro _ w ⟨e2,rfl,abb,hs⟩;refine .T (.z fU (.z zpF (.z zm (.F1 (t':=37) rfl (fun tj=>?_) (fun tj=>?_)))))
      ·exact .Fs 4 10 false (.z zpT (.z zm (.Fs 9 16 false (.zn zpT (.cT (.af (.zn zg (.ret (rT (Fin.bu rm rfl ⟨_,rfl,.inr ⟨fun h=>tj (abb.elim (fun g=>g.2) fun g=>(g.1 (GA h)).elim),rfl⟩,hs.out⟩))))))))))
      ·refine .T (.z (zfa aZ) (.T ?_));have hw:gy 9 100000 s.wa:=abb.elim (fun g=>g.1) fun g=>(g.2 ai).elim
       have Xu:=hw.two;refine .y hs (zld an) (.T (.z (dk ae) (.T (.z ld (.z zpF (.z zm (.ie (t':=43) rfl (fun uy=>?_) (fun uy=>?_))))))))
       ·exact .Fs 9 16 false (.zn zpT (.cT (.af (.zn zg (.ret (rT (Fin.bu rm rfl ⟨_,rfl,.inr ⟨fun h=>by have:=h.wa.many;omega,rfl⟩,hs.out⟩)))))))
       ·refine .T ?_;refine .z (zfa aZ) (.T (.y hs (zld an) (.T (.z (zfa aZ) (.T (.y hs (zld an) (.T (.z (dk ae) (.T (.z gE (.T (.ixY hs h2 rfl rfl ae ak (bG (l:=s.wa) (i:=(s.wa.length-1)) ai) dp ?_))))))))))));intro ZJ o50 RP;refine .T (.q hs (aF rfl aj RP) (.T (.z ld (.zn zpF (.bA rfl (fun ux=>?_) (fun ux=>?_))))))
        ·exact .af (.zn zg (.ret (rT (Fin.bu rm rfl ⟨_,rfl,.inr ⟨fun h=>by have:=h.wa.high;omega,rfl⟩,hs.out⟩))))
        ·exact .skip (nT (.af (.zn zg (.ret (Fin.bu rm rfl ⟨_,rfl,.inl ⟨Tx (abc.elim (fun g=>g.1) fun g=>(g.2 ai).elim) hw ai ai (by simp_all) (by simp_all) (by simp_all) (by simp_all),rfl⟩,hs.out⟩)))))
theorem lC{w:World}{r:Rdg}(hs:St H w σ)(h1:RI H cU s.st)(h2:RI H cO s.wa):
  ab8 150 [.agg #[I s.id,I s.src,cU,cO,I s.al,I s.up],.agg #[I r.src,I r.st,I r.wa,I r.val,I r.tol,I r.tape,I r.day]] w fun v w'=>∃b:Bool,v= .bool b∧(b=true↔pT s r)∧St H w' σ:=by
 obtain ⟨iV,iT,rfl⟩:=RI.shape h1;obtain ⟨gX,gW,rfl⟩:=RI.shape h2;have l1:=(RI.len h1).2.2;have l2:=(RI.len h2).2.2;refine Cl.o func150 ntmps150 ag2 ?_;refine .af (.bx hs fun b2 w hs=>?_);refine .bx hs fun b3 w hs=>?_
 refine .zn zg (.af (.z (zfa fy) (.y hs (zld aj) (.o (.call nf rfl (eh hs) ?_)))));rintro _ w ⟨rfl,hs⟩;refine .z zm (.bif (t':=8) rfl (fun Qi=>?_) (fun Qi=>?_))
 ·refine .T ?_;refine .z (zfa iD) (.T (.y hs (zld aj) (.T (.z (zfa bV) (.T (.y hs (zld an) (.T (.z (dk ae) (.T (.z gE (.T (.o (.call nf rfl (eh hs) ?_)))))))))))));rintro _ w ⟨rfl,hs⟩;refine .z zpT (.z zm (.bif (t':=17) rfl (fun DP=>?_) (fun DP=>?_)))
  ·refine .T ?_;refine .z (zfa iC) (.T (.y hs (zld aj) (.T (.z (zfa aZ) (.T (.y hs (zld an) (.T (.z (dk ae) (.T (.z gE (.T (.o (.call nf rfl (eh hs) ?_)))))))))))));rintro _ w ⟨rfl,hs⟩;refine .z zpT (.z zm (.bif (t':=26) rfl (fun R2=>?_) (fun R2=>?_)))
   ·refine .T (.z (zfa dI) (.T (.y hs (zld aj) (.T (.o (.call nf rfl (eh hs) ?_))))));rintro _ w ⟨rfl,hs⟩;refine .z zpT (.z zm (.bif (t':=31) rfl (fun zk=>?_) (fun zk=>?_)))
    ·refine .T (.z (zfa dQ) (.T (.y hs (zld aj) (.T (.z (zfa dI) (.T (.y hs (zld aj) (.T ?_))))))));have ht:0≤r.tol∧r.tol≤1000:=by simp_all
     refine .z gE (.T (.o (.call nf rfl (eh hs) ?_)));rintro _ w ⟨rfl,hs⟩;refine .z zpT (.z zm (.bif (t':=39) rfl (fun G7=>?_) (fun G7=>?_)))
     ·refine .T (.z (zfa fw) (.T (.y hs (zld aj) (.T (.o (.call nf rfl (eh hs) ?_))))));rintro _ w ⟨rfl,hs⟩;refine .z zpT (.z zm (.bif (t':=44) rfl (fun B8=>?_) (fun B8=>?_)))
      ·refine .T (.z (zfa fu) (.T (.y hs (zld aj) (.T (.o (.call nf rfl (eh hs) ?_))))));rintro _ w ⟨rfl,hs⟩;refine .z zpT (.zn zg (.ret (Fin.bu Ez rfl ?_)));first
       |exact ⟨false,rfl,⟨fun h=>(by cases h),fun h=>(by obtain ⟨g1,g2,g3,g4,g5,g6,g7⟩:=h;simp_all;done)⟩,hs.out⟩
       |exact ⟨_,rfl,⟨fun h=>⟨by simp_all,by simp_all,by simp_all,by simp_all,by simp_all,by simp_all,by simpa using h⟩,fun h=>by simpa using h.day⟩,hs.out⟩
      ·refine .Fs 3 39 true (.z zpF (.zn zg (.ret (Fin.bu Ez rfl ?_))));first
       |exact ⟨false,rfl,⟨fun h=>(by cases h),fun h=>(by obtain ⟨g1,g2,g3,g4,g5,g6,g7⟩:=h;simp_all;done)⟩,hs.out⟩
       |exact ⟨_,rfl,⟨fun h=>⟨by simp_all,by simp_all,by simp_all,by simp_all,by simp_all,by simp_all,by simpa using h⟩,fun h=>by simpa using h.day⟩,hs.out⟩
     ·refine .Fs 3 34 true (.z zpF (.z zm (.Fs 3 39 true (.z zpF (.zn zg (.ret (Fin.bu Ez rfl ?_)))))));first
      |exact ⟨false,rfl,⟨fun h=>(by cases h),fun h=>(by obtain ⟨g1,g2,g3,g4,g5,g6,g7⟩:=h;simp_all;done)⟩,hs.out⟩
      |exact ⟨_,rfl,⟨fun h=>⟨by simp_all,by simp_all,by simp_all,by simp_all,by simp_all,by simp_all,by simpa using h⟩,fun h=>by simpa using h.day⟩,hs.out⟩
    ·refine .Fs 6 26 true (.z zpF (.z zm (.Fs 3 34 true (.z zpF (.z zm (.Fs 3 39 true (.z zpF (.zn zg (.ret (Fin.bu Ez rfl ?_))))))))));first
     |exact ⟨false,rfl,⟨fun h=>(by cases h),fun h=>(by obtain ⟨g1,g2,g3,g4,g5,g6,g7⟩:=h;simp_all;done)⟩,hs.out⟩
     |exact ⟨_,rfl,⟨fun h=>⟨by simp_all,by simp_all,by simp_all,by simp_all,by simp_all,by simp_all,by simpa using h⟩,fun h=>by simpa using h.day⟩,hs.out⟩
   ·refine .Fs 3 21 true (.z zpF (.z zm (.Fs 6 26 true (.z zpF (.z zm (.Fs 3 34 true (.z zpF (.z zm (.Fs 3 39 true (.z zpF (.zn zg (.ret (Fin.bu Ez rfl ?_)))))))))))));first
    |exact ⟨false,rfl,⟨fun h=>(by cases h),fun h=>(by obtain ⟨g1,g2,g3,g4,g5,g6,g7⟩:=h;simp_all;done)⟩,hs.out⟩
    |exact ⟨_,rfl,⟨fun h=>⟨by simp_all,by simp_all,by simp_all,by simp_all,by simp_all,by simp_all,by simpa using h⟩,fun h=>by simpa using h.day⟩,hs.out⟩
  ·refine .Fs 7 12 true (.z zpF (.z zm (.Fs 3 21 true (.z zpF (.z zm (.Fs 6 26 true (.z zpF (.z zm (.Fs 3 34 true (.z zpF (.z zm (.Fs 3 39 true (.z zpF (.zn zg (.ret (Fin.bu Ez rfl ?_))))))))))))))));first
   |exact ⟨false,rfl,⟨fun h=>(by cases h),fun h=>(by obtain ⟨g1,g2,g3,g4,g5,g6,g7⟩:=h;simp_all;done)⟩,hs.out⟩
   |exact ⟨_,rfl,⟨fun h=>⟨by simp_all,by simp_all,by simp_all,by simp_all,by simp_all,by simp_all,by simpa using h⟩,fun h=>by simpa using h.day⟩,hs.out⟩
 ·refine .Fs 7 3 true (.z zpF (.z zm (.Fs 7 12 true (.z zpF (.z zm (.Fs 3 21 true (.z zpF (.z zm (.Fs 6 26 true (.z zpF (.z zm (.Fs 3 34 true (.z zpF (.z zm (.Fs 3 39 true (.z zpF (.zn zg (.ret (Fin.bu Ez rfl ?_)))))))))))))))))));first
  |exact ⟨false,rfl,⟨fun h=>(by cases h),fun h=>(by obtain ⟨g1,g2,g3,g4,g5,g6,g7⟩:=h;simp_all;done)⟩,hs.out⟩
  |exact ⟨_,rfl,⟨fun h=>⟨by simp_all,by simp_all,by simp_all,by simp_all,by simp_all,by simp_all,by simpa using h⟩,fun h=>by simpa using h.day⟩,hs.out⟩
theorem p9{w:World}{c:Cmp}(hs:St H w σ):
  ab8 176 [.agg #[I c.src,I c.tape,I c.fr,I c.to,I c.lo,I c.hi]] w fun v w'=>∃b:Bool,v= .bool b∧(b=true↔uK c)∧St H w' σ:=by
 refine Cl.o func176 ntmps176 ag1 ?_;refine .af (.bx hs fun b1 w hs=>?_);refine .zn zg (.af (.z (zfa jI) (.y hs (zld aj) (.o (.call nf rfl (eh hs) ?_)))));rintro _ w ⟨rfl,hs⟩;refine .z zm (.bif (t':=6) rfl (fun Gn=>?_) (fun Gn=>?_))
 ·refine .T (.z (zfa kQ) (.T (.y hs (zld aj) (.T (.o (.call nf rfl (eh hs) ?_))))));rintro _ w ⟨rfl,hs⟩;refine .z zpT (.z zm (.bif (t':=11) rfl (fun oV=>?_) (fun oV=>?_)))
  ·refine .T (.z (zfa iE) (.T (.y hs (zld aj) (.T (.z tN (.z zpT (.z zm (.ie (t':=16) rfl (fun sc=>?_) (fun sc=>?_)))))))))
   ·refine .T (.z (zfa iE) (.T (.y hs (zld aj) (.T (.z (zfa gJ) (.T (.y hs (zld aj) (.T (.z pc (.z zpT (.z zm (.ie (t':=23) rfl (fun uz=>?_) (fun uz=>?_)))))))))))))
    ·refine .T (.z (zfa gJ) (.T (.y hs (zld aj) (.T (.z pc (.z zpT (.z zm (.ie (t':=28) rfl (fun xP=>?_) (fun xP=>?_)))))))))
     ·refine .T (.z (zfa gI) (.T (.y hs (zld aj) (.T (.z tN (.z zpT (.z zm (.ie (t':=33) rfl (fun JS=>?_) (fun JS=>?_)))))))))
      ·refine .T (.z (zfa gI) (.T (.y hs (zld aj) (.T (.z (zfa gH) (.T (.y hs (zld aj) (.T (.z pc (.z zpT (.z zm (.ie (t':=40) rfl (fun R1=>?_) (fun R1=>?_)))))))))))))
       ·refine .T (.z (zfa gH) (.T (.y hs (zld aj) (.T (.z pc (.z zpT (.zn zg (.ret (Fin.bu yj rfl ?_)))))))));first
        |exact ⟨false,rfl,⟨fun h=>(by cases h),fun h=>(by obtain ⟨g1,g2,g3,g4,g5,g6⟩:=h;simp_all;omega)⟩,hs.out⟩
        |exact ⟨false,rfl,⟨fun h=>(by cases h),fun h=>(by obtain ⟨g1,g2,g3,g4,g5,g6⟩:=h;simp_all;done)⟩,hs.out⟩
        |exact ⟨_,rfl,⟨fun h=>⟨by simp_all,by simp_all,⟨ai,ai⟩,ai,⟨ai,ai⟩,of_decide_eq_true h⟩,fun h=>decide_eq_true h.hi⟩,hs.out⟩
       ·refine .Fs 3 37 true (.z zpF (.zn zg (.ret (Fin.bu yj rfl ?_))));first
        |exact ⟨false,rfl,⟨fun h=>(by cases h),fun h=>(by obtain ⟨g1,g2,g3,g4,g5,g6⟩:=h;simp_all;omega)⟩,hs.out⟩
        |exact ⟨false,rfl,⟨fun h=>(by cases h),fun h=>(by obtain ⟨g1,g2,g3,g4,g5,g6⟩:=h;simp_all;done)⟩,hs.out⟩
        |exact ⟨_,rfl,⟨fun h=>⟨by simp_all,by simp_all,⟨ai,ai⟩,ai,⟨ai,ai⟩,of_decide_eq_true h⟩,fun h=>decide_eq_true h.hi⟩,hs.out⟩
      ·refine .Fs 5 30 true (.z zpF (.z zm (.Fs 3 37 true (.z zpF (.zn zg (.ret (Fin.bu yj rfl ?_)))))));first
       |exact ⟨false,rfl,⟨fun h=>(by cases h),fun h=>(by obtain ⟨g1,g2,g3,g4,g5,g6⟩:=h;simp_all;omega)⟩,hs.out⟩
       |exact ⟨false,rfl,⟨fun h=>(by cases h),fun h=>(by obtain ⟨g1,g2,g3,g4,g5,g6⟩:=h;simp_all;done)⟩,hs.out⟩
       |exact ⟨_,rfl,⟨fun h=>⟨by simp_all,by simp_all,⟨ai,ai⟩,ai,⟨ai,ai⟩,of_decide_eq_true h⟩,fun h=>decide_eq_true h.hi⟩,hs.out⟩
     ·refine .Fs 3 25 true (.z zpF (.z zm (.Fs 5 30 true (.z zpF (.z zm (.Fs 3 37 true (.z zpF (.zn zg (.ret (Fin.bu yj rfl ?_))))))))));first
      |exact ⟨false,rfl,⟨fun h=>(by cases h),fun h=>(by obtain ⟨g1,g2,g3,g4,g5,g6⟩:=h;simp_all;omega)⟩,hs.out⟩
      |exact ⟨false,rfl,⟨fun h=>(by cases h),fun h=>(by obtain ⟨g1,g2,g3,g4,g5,g6⟩:=h;simp_all;done)⟩,hs.out⟩
      |exact ⟨_,rfl,⟨fun h=>⟨by simp_all,by simp_all,⟨ai,ai⟩,ai,⟨ai,ai⟩,of_decide_eq_true h⟩,fun h=>decide_eq_true h.hi⟩,hs.out⟩
    ·refine .Fs 3 20 true (.z zpF (.z zm (.Fs 3 25 true (.z zpF (.z zm (.Fs 5 30 true (.z zpF (.z zm (.Fs 3 37 true (.z zpF (.zn zg (.ret (Fin.bu yj rfl ?_)))))))))))));first
     |exact ⟨false,rfl,⟨fun h=>(by cases h),fun h=>(by obtain ⟨g1,g2,g3,g4,g5,g6⟩:=h;simp_all;omega)⟩,hs.out⟩
     |exact ⟨false,rfl,⟨fun h=>(by cases h),fun h=>(by obtain ⟨g1,g2,g3,g4,g5,g6⟩:=h;simp_all;done)⟩,hs.out⟩
     |exact ⟨_,rfl,⟨fun h=>⟨by simp_all,by simp_all,⟨ai,ai⟩,ai,⟨ai,ai⟩,of_decide_eq_true h⟩,fun h=>decide_eq_true h.hi⟩,hs.out⟩
   ·refine .Fs 5 13 true (.z zpF (.z zm (.Fs 3 20 true (.z zpF (.z zm (.Fs 3 25 true (.z zpF (.z zm (.Fs 5 30 true (.z zpF (.z zm (.Fs 3 37 true (.z zpF (.zn zg (.ret (Fin.bu yj rfl ?_))))))))))))))));first
    |exact ⟨false,rfl,⟨fun h=>(by cases h),fun h=>(by obtain ⟨g1,g2,g3,g4,g5,g6⟩:=h;simp_all;omega)⟩,hs.out⟩
    |exact ⟨false,rfl,⟨fun h=>(by cases h),fun h=>(by obtain ⟨g1,g2,g3,g4,g5,g6⟩:=h;simp_all;done)⟩,hs.out⟩
    |exact ⟨_,rfl,⟨fun h=>⟨by simp_all,by simp_all,⟨ai,ai⟩,ai,⟨ai,ai⟩,of_decide_eq_true h⟩,fun h=>decide_eq_true h.hi⟩,hs.out⟩
  ·refine .Fs 3 8 true (.z zpF (.z zm (.Fs 5 13 true (.z zpF (.z zm (.Fs 3 20 true (.z zpF (.z zm (.Fs 3 25 true (.z zpF (.z zm (.Fs 5 30 true (.z zpF (.z zm (.Fs 3 37 true (.z zpF (.zn zg (.ret (Fin.bu yj rfl ?_)))))))))))))))))));first
   |exact ⟨false,rfl,⟨fun h=>(by cases h),fun h=>(by obtain ⟨g1,g2,g3,g4,g5,g6⟩:=h;simp_all;omega)⟩,hs.out⟩
   |exact ⟨false,rfl,⟨fun h=>(by cases h),fun h=>(by obtain ⟨g1,g2,g3,g4,g5,g6⟩:=h;simp_all;done)⟩,hs.out⟩
   |exact ⟨_,rfl,⟨fun h=>⟨by simp_all,by simp_all,⟨ai,ai⟩,ai,⟨ai,ai⟩,of_decide_eq_true h⟩,fun h=>decide_eq_true h.hi⟩,hs.out⟩
 ·refine .Fs 3 3 true (.z zpF (.z zm ?_));refine .Fs 3 8 true (.z zpF (.z zm (.Fs 5 13 true (.z zpF (.z zm (.Fs 3 20 true (.z zpF (.z zm (.Fs 3 25 true (.z zpF (.z zm (.Fs 5 30 true (.z zpF (.z zm (.Fs 3 37 true (.z zpF (.zn zg (.ret (Fin.bu yj rfl ?_)))))))))))))))))));first
  |exact ⟨false,rfl,⟨fun h=>(by cases h),fun h=>(by obtain ⟨g1,g2,g3,g4,g5,g6⟩:=h;simp_all;omega)⟩,hs.out⟩
  |exact ⟨false,rfl,⟨fun h=>(by cases h),fun h=>(by obtain ⟨g1,g2,g3,g4,g5,g6⟩:=h;simp_all;done)⟩,hs.out⟩
  |exact ⟨_,rfl,⟨fun h=>⟨by simp_all,by simp_all,⟨ai,ai⟩,ai,⟨ai,ai⟩,of_decide_eq_true h⟩,fun h=>decide_eq_true h.hi⟩,hs.out⟩
theorem gD{w:World}(hs:St H w σ)(h1:RI H cU s.st)(h2:RI H cO s.wa)(hb:s.st.length≤1000∧s.wa.length≤1000):
  ab8 94 [.agg #[I s.id,I s.src,cU,cO,I s.al,I s.up]] w fun v w'=>v=I (s.many:Int)∧St H w' σ:=by
 obtain ⟨iV,iT,rfl⟩:=RI.shape h1;obtain ⟨gX,gW,rfl⟩:=RI.shape h2;have hm:=lH (a:=(s.st.length:Int)) (b:=(s.wa.length:Int)) (A:=1000) (B:=1000) ai ai;refine Cl.o func94 ntmps94 ag1 ?_;refine .af (.bx hs fun b1 w hs=>?_);exact .zn zg (.af (.z (zfa bV) (.y hs (zld an) (.z (dk ae) (.z (zfa aZ) (.y hs (zld an) (.z (dk ae) (.z la (.zn zg (.ret (Fin.bu results94 rfl ⟨by unfold Spc.many;rw [Int.natCast_mul],hs.out⟩)))))))))))
theorem dS{w:World}{b:Int}(hs:St H w σ)(h2:RI H cO s.wa)(hb:s.wa.length≤1000)(ha: -1000≤a∧a≤1000)(abD: -1000≤b∧b≤1000):
  ab8 93 [.agg #[I s.id,I s.src,cU,cO,I s.al,I s.up],I a,I b] w fun v w'=>v=I (1+a*s.wa.length+b)∧St H w' σ:=by
 obtain ⟨gX,gW,rfl⟩:=RI.shape h2;have hm:=lH (a:=a) (b:=(s.wa.length:Int)) (A:=1000) (B:=1000) ai ai;refine Cl.o func93 ntmps93 ag3 ?_;refine .af (.bx hs fun b3 w hs=>?_);exact .zn zg (.af (.z zm (.z (zfa aZ) (.y hs (zld an) (.z (dk ae) (.z la (.z cV (.z zm (.z cV (.zn zg (.ret (Fin.bu results93 rfl ⟨rfl,hs.out⟩))))))))))))
theorem pA{w:World}{b:Int}(hs:St H w σ)(ha:0≤a∧a≤100000)(hb:0≤b∧b≤100000):
  ab8 211 [I a,I b] w fun v w'=>v=I (mW a b)∧St H w' σ:=by
 have hm:=lH (a:=a) (b:=b) (A:=100000) (B:=100000) ai ai;have h0:=Int.mul_nonneg ha.1 hb.1;have JF:0≤(a*b+999).tdiv 1000:=Int.tdiv_nonneg ai ai;have OC:(a*b+999).tdiv 1000≤a*b+999:=by rw [Int.tdiv_eq_ediv_of_nonneg ai];omega
 refine Cl.o func211 ntmps211 ag2 ?_;exact .af (.zn zg (.af (.z zm (.z zm (.z la (.z cV (.q hs (yu rfl rfl ai ai) (.z EE (.zn zg (.ret (Fin.bu results211 rfl ⟨rfl,hs⟩)))))))))))
theorem nL{w:World}{b s:Int}(hs:St H w σ):
  ab8 210 [I a,I b,I m,I s] w fun v w'=>∃b0,v= .slice (some ⟨b0,0,none⟩) 2 2∧St H w' (.blk b0 (jJ (two a b m m s))::σ):=by
 refine Cl.o func210 ntmps210 ag4 ?_;refine .af (.zn zg (.af (.z zm (.z zm (.z zm (.z zm (.z (zbd [_,_,_,_] fO) (.z zm (.z zm (.z zm (.z zm (.z (zbd [_,_,_,_] fO) (.o (.buildSlice (cells:=jJ (two a b m m s)) hs iN rfl aD fun pX w hs=>?_))))))))))))));exact .zn zg (.ret (Fin.bu results210 rfl ⟨pX,rfl,hs⟩))
theorem Az{w:World}{c:Cmp}(hs:St H w σ)(xH: -1000000≤c.lo∧c.lo≤1000000):
  ab8 212 [.agg #[I c.src,I c.tape,I c.fr,I c.to,I c.lo,I c.hi],.agg #[I t.tape,I t.day],I f] w fun v w'=>∃en,dj 4 v (jJ (oN c t f)) en∧St H w' (en::σ):=by
 refine Cl.o func212 ntmps212 ag3 ?_;refine .af (.bx hs fun b3 w hs=>?_);refine .bx hs fun b4 w hs=>?_
 refine .zn zg (.seq (.af (.z (zfa kQ) (.y hs (zld aj) (.z (zfa qQ) (.y hs (zld aj) (.z fU (.z zm (.F1 (t':=12) rfl (fun Mr=>?_) (fun Mr=>?_))))))))))
 ·exact .Fs 5 5 false (.z zpT (.z zm (.Fs 5 12 false (.zn zpT (.cT (.af (.zn zg (.ret (rT (Fin.bu results212 rfl ⟨.nul,by unfold oN;rw [if_neg ai];exact .nil 4 none,hs.tail.tail.nul⟩))))))))))
 ·refine .T (.z (zfa mX) (.T (.y hs (zld aj) (.T (.z (zfa iE) (.T (.y hs (zld aj) (.T (.z gV (.z zpF (.z zm (.ie (t':=19) rfl (fun DN=>?_) (fun DN=>?_)))))))))))))
  ·exact .Fs 5 12 false (.zn zpT (.cT (.af (.zn zg (.ret (rT (Fin.bu results212 rfl ⟨.nul,by unfold oN;rw [if_neg ai];exact .nil 4 none,hs.tail.tail.nul⟩)))))))
  ·refine .T (.z (zfa mX) (.T (.y hs (zld aj) (.T (.z (zfa gJ) (.T (.y hs (zld aj) (.T (.z ld (.zn zpF (.bA rfl (fun gv=>?_) (fun gv=>?_))))))))))))
   ·exact .af (.zn zg (.ret (rT (Fin.bu results212 rfl ⟨.nul,by unfold oN;rw [if_neg ai];exact .nil 4 none,hs.tail.tail.nul⟩))))
   ·refine .skip (nT (.af (.z zm (.z (zfa gI) (.y hs (zld aj) (.z BM (.z (zfa jI) (.y hs (zld aj) (.z (zbd [_,_,_,_] fO) (.z zm (.z (zfa gH) (.y hs (zld aj) (.z (zfa jI) (.y hs (zld aj) (.z (zbd [_,_,_,_] fO) (.o (.buildSlice (cells:=jJ (two 0 f (-c.lo) c.hi c.src)) hs iN rfl aD fun SA w hs=>?_)))))))))))))))));exact .zn zg (.ret (Fin.bu results212 rfl ⟨_,by unfold oN;rw [if_pos ai];exact .full (by simp [two,fI]),hs.sb⟩))
theorem mQ{w:World}{v:Value}{xs:List TD}(hs:St H w σ)(hr:RTd H v xs)(hl:xs.length≤1000000):
  ab8 95 [v,.agg #[I t.tape,I t.day]] w fun u w'=>u=I (mP xs t)∧St H w' σ:=by
 obtain ⟨a,c,rfl⟩:=RTd.shape hr;refine Cl.o func95 ntmps95 ag2 ?_;refine .af (.bx hs fun b3 w hs=>?_);refine .zn zg (.seq (.af (.zn zg (.block ?_))));refine .loop (fun k:Nat=>⟨19,[],[(5,I (k:Int)),(3,Pt b3),(0,.slice a xs.length c)]⟩)
  (fun k w=>k≤xs.length∧(∀j<k,∀y,xs[j]? =some y→¬y=t)∧St H w (.blk b3 [I t.tape,I t.day]::σ)) (fun k=>xs.length - k) 0 (.da rfl bK aM)
  ⟨Nat.zero_le _,fun j hj=>by omega,hs⟩ ?_
 rintro k w ⟨hk,fa,hs⟩;refine .seq (.af (.z zm (.z zm (.z (dk cI) (.zn gV (.bA rfl (fun om=>?_) (fun om=>?_)))))))
 ·refine .skip (nT (.seq (.block (.seq (.draw mix rfl hs fun w hs=>?_)))));refine .zw 0 rfl zm ?_;refine .z 1 rfl zm ?_;obtain ⟨x,hx⟩:=nth (l:=xs) (k:=k) ai;refine .ixX (enc:=TD.c) (i:=2) hs rfl aD .none hr rfl rfl cI dF hx dp ?_;intro sF o14 kE;refine .r (i:=3) hs rfl aD .none (cj (vs:=x.c) rfl kl dF kE) ?_;refine .zv 4 rfl hs (E4 [_,_] kl dF) ?_;refine .z 5 rfl (EU zI zJ nE (fun f hf=>by
   simp only [List.mem_cons,List.not_mem_nil,or_false] at hf
   rcases hf with rfl|rfl<;>exact ⟨by decide,cJ,aj⟩) rfl rfl) ?_
  refine .D hs (.cond rfl (fun i7=>?_) (fun i7=>?_))
  ·refine .af (.z zm (.zn zg (.ret (rB (rT (rT (rB (rT (Fin.bu results95 rfl ?_)))))))));have e:x=t:=NF.1 (of_decide_eq_true i7);subst e;exact ⟨by rw [uU hx fun j hj h=>fa j hj _ h rfl],hs.tail⟩
  ·exact .skip (nB (nT (.region (.z zm (.z cV (.zn zg (nT ⟨k+1,.da rfl bK aM,⟨ai,fW fa hx (fun e=>by subst e;simp at i7),hs⟩,ai⟩)))))))
 ·refine .exit (xT (xT (xB (nT (.af (.zn zg (.ret (Fin.bu results95 rfl ?_))))))));obtain rfl:k=xs.length:=by omega
  exact ⟨by rw [De fa],hs.tail⟩
theorem rH{w:World}{v:Value}{xs:List TD}(hs:St H w (en::σ))(hO:dj 2 v (tdc xs).flatten en)(hl:xs.length≤1000000):
  ab8 95 [v,.agg #[I t.tape,I t.day]] w fun u w'=>u=I (mP xs t)∧St H w' (en::σ):=by
 obtain ⟨a,c,rfl⟩:=hO.jF (tR xs) ai;rw [fG] at hO ⊢;refine Cl.o func95 ntmps95 ag2 ?_;refine .af (.bx hs fun b3 w hs=>?_);refine .zn zg (.seq (.af (.zn zg (.block ?_))));refine .loop (fun k:Nat=>⟨19,[],[(5,I (k:Int)),(3,Pt b3),(0,.slice a xs.length c)]⟩)
  (fun k w=>k≤xs.length∧(∀j<k,∀y,xs[j]? =some y→¬y=t)∧St H w (.blk b3 [I t.tape,I t.day]::en::σ)) (fun k=>xs.length - k) 0 (.da rfl bK aM)
  ⟨Nat.zero_le _,fun j hj=>by omega,hs⟩ ?_
 rintro k w ⟨hk,fa,hs⟩;refine .seq (.af (.z zm (.z zm (.z (dk cI) (.zn gV (.bA rfl (fun om=>?_) (fun om=>?_)))))))
 ·refine .skip (nT (.seq (.block (.seq (.draw mix rfl hs fun w hs=>?_)))));refine .zw 0 rfl zm ?_;refine .z 1 rfl zm ?_;obtain ⟨x,hx⟩:=nth (l:=xs) (k:=k) ai;obtain ⟨b,c',sp,hv,rfl,_⟩:=hO.Pj (tR xs) ai (by rw [fG];omega);rw [fG] at hv;cases hv
  refine .zw 2 rfl (nH cI dF) (.Jz (i:=3) (vs:=x.c) hs rfl aD .none rfl kl dF ?_ (hv:=EX (tR xs) (KB hx) sp));refine .zv 4 rfl hs (E4 [_,_] kl dF) ?_;refine .z 5 rfl (EU zI zJ nE (fun f hf=>by
   simp only [List.mem_cons,List.not_mem_nil,or_false] at hf
   rcases hf with rfl|rfl<;>exact ⟨by decide,cJ,aj⟩) rfl rfl) ?_
  refine .D hs (.cond rfl (fun i7=>?_) (fun i7=>?_))
  ·refine .af (.z zm (.zn zg (.ret (rB (rT (rT (rB (rT (Fin.bu results95 rfl ?_)))))))));have e:x=t:=NF.1 (of_decide_eq_true i7);subst e;exact ⟨by rw [uU hx fun j hj h=>fa j hj _ h rfl],hs.tail⟩
  ·exact .skip (nB (nT (.region (.z zm (.z cV (.zn zg (nT ⟨k+1,.da rfl bK aM,⟨ai,fW fa hx (fun e=>by subst e;simp at i7),hs⟩,ai⟩)))))))
 ·refine .exit (xT (xT (xB (nT (.af (.zn zg (.ret (Fin.bu results95 rfl ?_))))))));obtain rfl:k=xs.length:=by omega
  exact ⟨by rw [De fa],hs.tail⟩
set_option maxHeartbeats 1000000 in
theorem jG{w:World}{rs:List Rdg}(hs:St H w σ)(hr:RRd H vr rs)(hl:rs.length≤1000000):
  ab8 96 [vr] w fun u w'=>∃H1,HLe H H1∧RTd H1 u (bE rs)∧St H1 w' σ:=by
 obtain ⟨ar,cr,rfl⟩:=RRd.shape hr;refine Cl.o func96 ntmps96 ag1 ?_;refine .af (.zn zg (.af (.zn zg (.seq (.af (.zn zg (.block ?_)))))));refine .loop (fun p:Nat×Value=>⟨32,[],[(4,I (p.1:Int)),(3,p.2),(0,.slice ar rs.length cr)]⟩)
  (fun p w=>p.1≤rs.length∧∃en,dj 2 p.2 (tdc (bE (rs.take p.1))).flatten en∧St H w (en::σ)) (fun p=>rs.length - p.1) (0,.slice none 0 0) aM
  ⟨Nat.zero_le _,_,.nil 2 none,hs.nul⟩ ?_
 rintro ⟨k,vo⟩ w ⟨hk,en,hO,hs⟩;dsimp only at hk hO ⊢;have zb:=nJ rs k ai;obtain ⟨ao,co,rfl⟩:=hO.jF (tR _) ai;rw [fG] at hO ⊢;refine .seq (.af (.z zm (.z zm (.z (dk aE) (.zn gV (.bA rfl (fun om=>?_) (fun om=>?_)))))))
 ·refine .skip (nT (.seq (.block (.seq (.draw mix rfl hs fun w hs=>?_)))));refine .zw 0 rfl zm ?_;refine .z 1 rfl zm ?_;obtain ⟨r,hx⟩:=nth (l:=rs) (k:=k) ai;have PU:=mu hx;refine .ixX (enc:=Rdg.c) (i:=2) hs rfl aD .none hr rfl rfl aE bh hx dp ?_;intro sF o14 kE;have d14:cellAt H sF (o14+5)=some (I r.tape):=kE 5 _ rfl;refine .zw 3 rfl (zfa fw) ?_;refine .y 4 rfl hs aj ?_;refine .z 5 rfl zm ?_;refine .z 6 rfl zm ?_;refine .ixX (enc:=Rdg.c) (i:=7) hs rfl aD .none hr rfl rfl aE bh hx dp ?_;intro pX o19 lM;have d19:cellAt H pX (o19+6)=some (I r.day):=lM 6 _ rfl;refine .zw 8 rfl (zfa fu) ?_;refine .y 9 rfl hs aj ?_;refine .z 10 rfl (zbd [_,_] kf) ?_;refine .E 11 hs ?_;refine .alloc hs wZ rfl ?_;intro b5 w hs;refine .go (.E 12 hs ?_);refine .aJ (vs:=[_,_]) hs rfl rfl dF ?_;intro w hs;refine .go (.D hs (.af (.z zm (.y hs (zls [_,_] kl dF) (.o (.call call95 rfl (rH (t:=r.td) (hs.sb:St H w (en:: .blk b5 [I r.tape,I r.day]::σ)) hO ai) ?_))))));rintro _ w ⟨rfl,hs⟩;have BY:=yp (l:=bE (rs.take k)) (t:=r.td);refine .zn gV (.bA rfl (fun jm=>?_) (fun jm=>?_))
  ·refine .region (.z zm (.y hs (zls [_,_] kl dF) (.o (.buildSlice (cells:=[_,_]) hs kF rfl rfl fun ab5 w hs=>?_))));refine .o (.append (ys:=r.td.c) hs fZ rfl rfl hO (.own .here rfl rfl) (by simp [TD.c,Value.oneCell']) (fun l h=>by rw [bX _ (tR _),fG] at h;omega) ?_);intro v30 en30 w eG hs;refine .zn zg (nB (nT (.region (.z zm (.z cV (.zn zg (nT ?_)))))));have hn:r.td∉bE (rs.take k):=fun hm=>by have:=BY.2 hm;omega
   rw [←Dd,show bE (rs.take k)++[r.td]=bE (rs.take (k+1)) by rw [PU];unfold wK;rw [if_neg hn]] at eG;exact ⟨(k+1,v30),.da rfl bK aM,⟨by dsimp only;omega,_,eG,hs.sb⟩,by dsimp only;omega⟩
  ·refine .skip (nB (nT (.region (.z zm (.z cV (.zn zg (nT ?_)))))));have hm:r.td∈bE (rs.take k):=BY.1 ai;exact ⟨(k+1,_),.da rfl bK aM,⟨by dsimp only;omega,en,by dsimp only;rw [PU];unfold wK;rw [if_pos hm];exact hO,hs.sb⟩,by dsimp only;omega⟩
 ·refine .exit (xT (xT (xB (nT (.af (.z zm (.zn zg (.ret (Fin.bu results96 rfl ?_)))))))));obtain rfl:k=rs.length:=by omega
  rw [List.take_length] at hO;have zb:=eL rs;obtain ⟨H2,bp,hR,hs⟩:=dj.dn (m:=2) (cs:=tdc (bE rs)) hO (tR _) ai (by rw [fG];omega) hs .here;rw [List.take_length];exact ⟨H2,bp,hR,hs⟩
theorem C9(s:Spc)(i k:Nat):1+(i:Int)*(s.wa.length:Int)+(k:Int)=(s.u i k:Int):=by
 unfold Spc.u;rw [Int.natCast_add,Int.natCast_add,Int.natCast_mul];rfl
theorem Tu(s:Spc)(i k:Nat):1+((i:Int)+1)*(s.wa.length:Int)+(k:Int)=(s.u (i+1) k:Int):=by
 rw [←C9];rfl
theorem Tt(s:Spc)(i k:Nat):1+(i:Int)*(s.wa.length:Int)+((k:Int)+1)=(s.u i (k+1):Int):=by
 rw [←C9];rfl
theorem oG{f:Nat→Nat→List Lim}(hf:∀i k,(f i k).length≤2)(i:Nat):∀k,(pE f i k).length≤2*k
 |0=>by simp [pE]
 |k+1=>by have:=oG hf i k;have:=hf i k;simp only [pE,List.length_append];omega
theorem pD{f:Nat→Nat→List Lim}(hf:∀i k,(f i k).length≤2){m n:Nat}(hm:m≤7)(hn:n≤9)(h0:0<m):(fL f m n).length≤126:=by
 have h1:=j6 hf (n:=n) h0;have:n*m≤9*7:=Nat.mul_le_mul hn hm;omega
theorem SC(h0:0<s.st.length):fL (alL s) s.wa.length s.st.length=fL (alL s) s.wa.length (s.st.length - 1):=by
 obtain ⟨n,hn⟩:∃n,s.st.length=n+1:=⟨s.st.length - 1,ai⟩;have key:∀k,pE (alL s) n k=[]:=by
  intro k
  induction k with
  |zero=>rfl
  |succ k ih=>simp only [pE];rw [ih];unfold alL;rw [if_neg ai];rfl
 rw [hn,Nat.add_sub_cancel];simp only [fL];rw [key,List.append_nil]
theorem QL(i:Nat)(h0:0<s.wa.length):pE (upL s) i s.wa.length=pE (upL s) i (s.wa.length - 1):=by
 obtain ⟨n,hn⟩:∃n,s.wa.length=n+1:=⟨s.wa.length - 1,ai⟩;have e:upL s i n=[]:=by unfold upL;rw [if_neg ai]
 rw [hn,Nat.add_sub_cancel];simp only [pE];rw [e,List.append_nil]
set_option maxHeartbeats 4000000 in
theorem qx{w:World}{s:Srv}(hs:St H w σ)(h1:RI H cU s.sp.st)(h2:RI H cO s.sp.wa)(h3:RRd H vr s.rs)(h4:RCm H vc s.cs)(he:s.early):
  ab8 152 [.agg #[I s.sp.id,I s.sp.src,cU,cO,I s.sp.al,I s.sp.up,vr,vc]] w fun u w'=>∃H1 en,HLe H H1∧dj 4 u (jJ s.dt) en∧St H1 w' (en::σ):=by
 obtain ⟨iV,iT,rfl⟩:=RI.shape h1;obtain ⟨gX,gW,rfl⟩:=RI.shape h2;obtain ⟨ar,cr,rfl⟩:=RRd.shape h3;obtain ⟨ac,cc,rfl⟩:=RCm.shape h4;obtain ⟨aU,Ff,uw,PX,RF⟩:=he;have rk:=fX aU;have ze:=aU.st.many;have SY:=aU.wa.many;have hn3:=aU.st.two;have hn4:=aU.wa.two;have ha:=pD (sY s.sp) (m:=s.sp.wa.length) (n:=s.sp.st.length) ai ai ai;have hb:=pD (ye s.sp) (m:=s.sp.wa.length) (n:=s.sp.st.length) ai ai ai;have hc:=pD (xe s.sp) (m:=s.sp.wa.length) (n:=s.sp.st.length) ai ai ai;have Hf:=aU.al;have Kf:=aU.up;refine Cl.o func152 ntmps152 ag1 ?_;refine .af (.bx hs fun b1 w hs=>?_);refine .zn zg (.af (.z (zfa a6) (.y hs (zls [_,_,_,_,_,_] bY bq) (.o (.alloc hs tv rfl fun b3 w hs=>?_)))));refine .o (.aJ (vs:=[_,_,_,_,_,_]) hs rfl rfl bq fun w hs=>?_);refine .nil (.af (.zn zg (.seq (.af (.zn zg (.block ?_))))));refine .loop (fun p:Nat×Value=>⟨243,[],[(5,I (p.1:Int)),(4,p.2),(3,Pt b3),(1,Pt b1)]⟩)
  (fun p w=>p.1≤s.sp.st.length∧∃en,dj 4 p.2 (jJ (fL (wU s.sp) s.sp.wa.length p.1)) en∧St H w (en:: .blk b3 [I s.sp.id,I s.sp.src,.slice iV s.sp.st.length iT,.slice gX s.sp.wa.length gW,I s.sp.al,I s.sp.up]:: .blk b1 [I s.sp.id,I s.sp.src,.slice iV s.sp.st.length iT,.slice gX s.sp.wa.length gW,I s.sp.al,I s.sp.up,.slice ar s.rs.length cr,.slice ac s.cs.length cc]::σ)) (fun p=>s.sp.st.length - p.1) (0,.slice none 0 0) aM
  ⟨by first|omega|exact Nat.zero_le _,_,.nil 4 none,hs.nul⟩ ?_
 rintro ⟨i,vo⟩ w ⟨hi,en,hO,hs⟩;dsimp only at hi hO ⊢;refine .seq (.af (.z zm (.z (zfa bV) (.y hs (zld an) (.z (dk ae) (.zn gV (.bA rfl (fun nS=>?_) (fun nS=>?_))))))))
 ·refine .skip (nT (.seq (.block (.af (.zn zg (.block ?_))))));refine .loop (fun p:Nat×Value=>⟨243,[],[(6,I (p.1:Int)),(4,p.2),(5,I (i:Int)),(3,Pt b3),(1,Pt b1)]⟩)
   (fun p w=>p.1≤s.sp.wa.length∧∃en,dj 4 p.2 (jJ (fL (wU s.sp) s.sp.wa.length i++pE (wU s.sp) i p.1)) en∧St H w (en:: .blk b3 [I s.sp.id,I s.sp.src,.slice iV s.sp.st.length iT,.slice gX s.sp.wa.length gW,I s.sp.al,I s.sp.up]:: .blk b1 [I s.sp.id,I s.sp.src,.slice iV s.sp.st.length iT,.slice gX s.sp.wa.length gW,I s.sp.al,I s.sp.up,.slice ar s.rs.length cr,.slice ac s.cs.length cc]::σ)) (fun p=>s.sp.wa.length - p.1) (0,vo) aM
   ⟨by first|omega|exact Nat.zero_le _,en,by show dj 4 vo (jJ (_++[])) en;rw [List.append_nil];exact hO,hs⟩ ?_
  clear hO hs;rintro ⟨k,vo⟩ w ⟨hk,en,hO,hs⟩;dsimp only at hk hO ⊢;have LS:=pD (sY s.sp) (m:=s.sp.wa.length) (n:=i) ai ai ai;have OG:=oG (sY s.sp) i k;refine .seq (.af (.z zm (.z (zfa aZ) (.y hs (zld an) (.z (dk ae) (.zn gV (.bA rfl (fun kJ=>?_) (fun kJ=>?_))))))))
  ·refine .skip (nT (.seq (.block (.af (.y hs (zls [_,_,_,_,_,_] bY bq) (.z zm (.z zm (.o (.call ED rfl (dS (s:=s.sp) hs h2 ai ⟨ai,ai⟩ ⟨ai,ai⟩) ?_)))))))));rintro _ w ⟨rfl,hs⟩;rw [C9];refine .zn zg (.region (.z zm (.z zm (.z (zfa eM) (.y hs (zld aj) (.z (zbd [_,_,_,_] fO) (.z zm (.z (zfa eM) (.y hs (zld aj) (.z (zbd [_,_,_,_] fO) (.o (.buildSlice (cells:=jJ (wU s.sp i k)) hs iN rfl aD fun ZJ w hs=>?_))))))))))));refine .o (.append (ys:=jJ (wU s.sp i k)) hs dx rfl rfl hO (.own .here rfl rfl) (og _) (fun l h=>by rw [fI,List.length_append] at h;omega) ?_);intro v51 en51 w eG hs;rw [←kh,List.append_assoc] at eG;exact .zn zg (nB (nT (.region (.z zm (.z cV (.zn zg (nT ⟨(k+1,v51),.da rfl bK aM,⟨by dsimp only;omega,_,eG,hs.sb⟩,by dsimp only;omega⟩)))))))
  ·refine .exit (xT (xT (xB (nB (nT (.region (.z zm (.z cV (.zn zg (nT ?_))))))))));obtain rfl:k=s.sp.wa.length:=by omega
   exact ⟨(i+1,_),.da rfl bK aM,⟨by dsimp only;omega,en,hO,hs⟩,by dsimp only;omega⟩
 ·refine .exit (xT (xT (xB (nT (.seq (.af (.zn zg (.block ?_))))))));refine .loop (fun p:Nat×Value=>⟨243,[],[(8,I (p.1:Int)),(4,p.2),(3,Pt b3),(1,Pt b1)]⟩)
   (fun p w=>p.1+1≤s.sp.st.length∧∃en,dj 4 p.2 (jJ (fL (wU s.sp) s.sp.wa.length s.sp.st.length++fL (alL s.sp) s.sp.wa.length p.1)) en∧St H w (en:: .blk b3 [I s.sp.id,I s.sp.src,.slice iV s.sp.st.length iT,.slice gX s.sp.wa.length gW,I s.sp.al,I s.sp.up]:: .blk b1 [I s.sp.id,I s.sp.src,.slice iV s.sp.st.length iT,.slice gX s.sp.wa.length gW,I s.sp.al,I s.sp.up,.slice ar s.rs.length cr,.slice ac s.cs.length cc]::σ)) (fun p=>s.sp.st.length - p.1) (0,vo) aM
   ⟨by first|omega|exact Nat.zero_le _,en,by show dj 4 vo (jJ (_++[])) en;rw [List.append_nil,←show i=s.sp.st.length by omega];exact hO,hs⟩ ?_
  clear hO hs;rintro ⟨i,vo⟩ w ⟨hi,en,hO,hs⟩;dsimp only at hi hO ⊢;refine .seq (.af (.z zm (.z cV (.z (zfa bV) (.y hs (zld an) (.z (dk ae) (.zn gV (.bA rfl (fun RN=>?_) (fun RN=>?_)))))))))
  ·refine .skip (nT (.seq (.block (.af (.zn zg (.block ?_))))));refine .loop (fun p:Nat×Value=>⟨243,[],[(9,I (p.1:Int)),(4,p.2),(8,I (i:Int)),(3,Pt b3),(1,Pt b1)]⟩)
    (fun p w=>p.1≤s.sp.wa.length∧∃en,dj 4 p.2 (jJ (fL (wU s.sp) s.sp.wa.length s.sp.st.length++fL (alL s.sp) s.sp.wa.length i++pE (alL s.sp) i p.1)) en∧St H w (en:: .blk b3 [I s.sp.id,I s.sp.src,.slice iV s.sp.st.length iT,.slice gX s.sp.wa.length gW,I s.sp.al,I s.sp.up]:: .blk b1 [I s.sp.id,I s.sp.src,.slice iV s.sp.st.length iT,.slice gX s.sp.wa.length gW,I s.sp.al,I s.sp.up,.slice ar s.rs.length cr,.slice ac s.cs.length cc]::σ)) (fun p=>s.sp.wa.length - p.1) (0,vo) aM
    ⟨by first|omega|exact Nat.zero_le _,en,by show dj 4 vo (jJ (_++[])) en;rw [List.append_nil];exact hO,hs⟩ ?_
   clear hO hs;rintro ⟨k,vo⟩ w ⟨hk,en,hO,hs⟩;dsimp only at hk hO ⊢;have LS:=pD (ye s.sp) (m:=s.sp.wa.length) (n:=i) ai ai ai;have OG:=oG (ye s.sp) i k;refine .seq (.af (.z zm (.z (zfa aZ) (.y hs (zld an) (.z (dk ae) (.zn gV (.bA rfl (fun OP=>?_) (fun OP=>?_))))))))
   ·refine .skip (nT (.seq (.block (.draw mix rfl hs fun w hs=>?_))));refine .zw 0 rfl zm ?_;refine .ys 1 rfl hs [_,_,_,_,_,_] bY bq ?_;refine .z 2 rfl zm ?_;refine .z 3 rfl zm ?_;refine .ys 5 rfl hs [_,_,_,_,_,_] bY bq ?_;refine .z 6 rfl zm ?_;refine .z 7 rfl cV ?_;refine .z 8 rfl zm ?_;refine .z 10 rfl (zfa eW) ?_;refine .z 11 rfl (zfa lS) ?_;refine .y 12 rfl hs aj ?_;refine .z 13 rfl (zfa bV) ?_;refine .y 14 rfl hs an ?_;refine .z 15 rfl zm ?_;refine .z 16 rfl cV ?_;have Rk:=aU.st.rise i ai;have JF:=aU.st.bd (i:=i) ai;have OC:=aU.st.bd (i:=i+1) ai;refine .ixX (enc:=fun x=>[I x]) (i:=17) hs rfl aD .none h1 rfl rfl ae ak (bG (l:=s.sp.st) (i:=(i+1)) ai) dp ?_;intro b84 o84 LY;replace LY:=bJ.one LY;refine .r (i:=18) hs rfl aD .none (aF rfl aj LY) ?_;refine .zw 19 rfl (zfa bV) ?_;refine .y 20 rfl hs an ?_;refine .z 21 rfl zm ?_;refine .ixX (enc:=fun x=>[I x]) (i:=22) hs rfl aD .none h1 rfl rfl ae ak (bG (l:=s.sp.st) (i:=i) ai) dp ?_;intro b89 o89 RJ;replace RJ:=bJ.one RJ;refine .r (i:=23) hs rfl aD .none (aF rfl aj RJ) ?_;refine .zw 24 rfl gE ?_;refine .z 26 rfl (zfa eM) ?_;refine .y 27 rfl hs aj ?_;refine .E 4 hs ?_;refine .call ED rfl (dS (s:=s.sp) hs h2 ai ⟨ai,ai⟩ ⟨ai,ai⟩) ?_;rintro _ w ⟨rfl,hs⟩;rw [C9];refine .go (.E 9 hs ?_);refine .call ED rfl (dS (s:=s.sp) hs h2 ai ⟨ai,ai⟩ ⟨ai,ai⟩) ?_;rintro _ w ⟨rfl,hs⟩;rw [Tu];refine .go (.E 25 hs ?_);refine .call call211 rfl (pA hs ai ai) ?_;rintro _ w ⟨rfl,hs⟩;refine .go (.E 28 hs ?_);refine .call call210 rfl (nL hs) ?_;rintro _ w ⟨b95,rfl,hs⟩;rw [show two (s.sp.u i k:Int) _ _ _ _=alL s.sp i k by unfold alL;rw [if_pos ai]] at hs;refine .go (.E 29 hs ?_);refine .append (ys:=jJ (alL s.sp i k)) hs dx rfl rfl hO (.own .here bK (by rw [fI];unfold alL;rw [if_pos ai];rfl)) (og _) (fun l h=>by rw [fI] at h;simp only [List.length_append] at h;omega) ?_;intro v96 en96 w eG hs;rw [←kh,List.append_assoc _ (pE _ _ _)] at eG;refine .go (.zw 30 rfl zg ?_);refine .D hs ?_;exact nB (nT (.region (.z zm (.z cV (.zn zg (nT ⟨(k+1,v96),.da rfl bK aM,⟨by dsimp only;omega,_,eG,hs.sb⟩,by dsimp only;omega⟩))))))
   ·refine .exit (xT (xT (xB (nB (nT (.region (.z zm (.z cV (.zn zg (nT ?_))))))))));obtain rfl:k=s.sp.wa.length:=by omega
    rw [List.append_assoc] at hO;exact ⟨(i+1,_),.da rfl bK aM,⟨by dsimp only;omega,en,hO,hs⟩,by dsimp only;omega⟩
  ·refine .exit (xT (xT (xB (nT (.seq (.af (.zn zg (.block ?_))))))));refine .loop (fun p:Nat×Value=>⟨243,[],[(10,I (p.1:Int)),(4,p.2),(3,Pt b3),(1,Pt b1)]⟩)
    (fun p w=>p.1≤s.sp.st.length∧∃en,dj 4 p.2 (jJ (fL (wU s.sp) s.sp.wa.length s.sp.st.length++fL (alL s.sp) s.sp.wa.length s.sp.st.length++fL (upL s.sp) s.sp.wa.length p.1)) en∧St H w (en:: .blk b3 [I s.sp.id,I s.sp.src,.slice iV s.sp.st.length iT,.slice gX s.sp.wa.length gW,I s.sp.al,I s.sp.up]:: .blk b1 [I s.sp.id,I s.sp.src,.slice iV s.sp.st.length iT,.slice gX s.sp.wa.length gW,I s.sp.al,I s.sp.up,.slice ar s.rs.length cr,.slice ac s.cs.length cc]::σ)) (fun p=>s.sp.st.length - p.1) (0,vo) aM
    ⟨by first|omega|exact Nat.zero_le _,en,by show dj 4 vo (jJ (_++[])) en;rw [List.append_nil,SC ai,←show i=s.sp.st.length - 1 by omega];exact hO,hs⟩ ?_
   clear hO hs;rintro ⟨i,vo⟩ w ⟨hi,en,hO,hs⟩;dsimp only at hi hO ⊢;refine .seq (.af (.z zm (.z (zfa bV) (.y hs (zld an) (.z (dk ae) (.zn gV (.bA rfl (fun Mh=>?_) (fun Mh=>?_))))))))
   ·refine .skip (nT (.seq (.block (.af (.zn zg (.block ?_))))));refine .loop (fun p:Nat×Value=>⟨243,[],[(11,I (p.1:Int)),(4,p.2),(10,I (i:Int)),(3,Pt b3),(1,Pt b1)]⟩)
     (fun p w=>p.1+1≤s.sp.wa.length∧∃en,dj 4 p.2 (jJ (fL (wU s.sp) s.sp.wa.length s.sp.st.length++fL (alL s.sp) s.sp.wa.length s.sp.st.length++fL (upL s.sp) s.sp.wa.length i++pE (upL s.sp) i p.1)) en∧St H w (en:: .blk b3 [I s.sp.id,I s.sp.src,.slice iV s.sp.st.length iT,.slice gX s.sp.wa.length gW,I s.sp.al,I s.sp.up]:: .blk b1 [I s.sp.id,I s.sp.src,.slice iV s.sp.st.length iT,.slice gX s.sp.wa.length gW,I s.sp.al,I s.sp.up,.slice ar s.rs.length cr,.slice ac s.cs.length cc]::σ)) (fun p=>s.sp.wa.length - p.1) (0,vo) aM
     ⟨by first|omega|exact Nat.zero_le _,en,by show dj 4 vo (jJ (_++[])) en;rw [List.append_nil];exact hO,hs⟩ ?_
    clear hO hs;rintro ⟨k,vo⟩ w ⟨hk,en,hO,hs⟩;dsimp only at hk hO ⊢;have LS:=pD (xe s.sp) (m:=s.sp.wa.length) (n:=i) ai ai ai;have OG:=oG (xe s.sp) i k;refine .seq (.af (.z zm (.z cV (.z (zfa aZ) (.y hs (zld an) (.z (dk ae) (.zn gV (.bA rfl (fun Fy=>?_) (fun Fy=>?_)))))))))
    ·refine .skip (nT (.seq (.block (.draw mix rfl hs fun w hs=>?_))));refine .zw 0 rfl zm ?_;refine .ys 1 rfl hs [_,_,_,_,_,_] bY bq ?_;refine .z 2 rfl zm ?_;refine .z 3 rfl zm ?_;refine .ys 5 rfl hs [_,_,_,_,_,_] bY bq ?_;refine .z 6 rfl zm ?_;refine .z 7 rfl zm ?_;refine .z 8 rfl cV ?_;refine .z 10 rfl (zfa eW) ?_;refine .z 11 rfl (zfa lR) ?_;refine .y 12 rfl hs aj ?_;refine .z 13 rfl (zfa aZ) ?_;refine .y 14 rfl hs an ?_;refine .z 15 rfl zm ?_;refine .z 16 rfl cV ?_;have Rk:=aU.wa.rise k ai;have JF:=aU.wa.bd (i:=k) ai;have OC:=aU.wa.bd (i:=k+1) ai;refine .ixX (enc:=fun x=>[I x]) (i:=17) hs rfl aD .none h2 rfl rfl ae ak (bG (l:=s.sp.wa) (i:=(k+1)) ai) dp ?_;intro b129 o129 Mc;replace Mc:=bJ.one Mc;refine .r (i:=18) hs rfl aD .none (aF rfl aj Mc) ?_;refine .zw 19 rfl (zfa aZ) ?_;refine .y 20 rfl hs an ?_;refine .z 21 rfl zm ?_;refine .ixX (enc:=fun x=>[I x]) (i:=22) hs rfl aD .none h2 rfl rfl ae ak (bG (l:=s.sp.wa) (i:=k) ai) dp ?_;intro ZU o134 ID;replace ID:=bJ.one ID;refine .r (i:=23) hs rfl aD .none (aF rfl aj ID) ?_;refine .zw 24 rfl gE ?_;refine .z 26 rfl (zfa eM) ?_;refine .y 27 rfl hs aj ?_;refine .E 4 hs ?_;refine .call ED rfl (dS (s:=s.sp) hs h2 ai ⟨ai,ai⟩ ⟨ai,ai⟩) ?_;rintro _ w ⟨rfl,hs⟩;rw [C9];refine .go (.E 9 hs ?_);refine .call ED rfl (dS (s:=s.sp) hs h2 ai ⟨ai,ai⟩ ⟨ai,ai⟩) ?_;rintro _ w ⟨rfl,hs⟩;rw [Tt];refine .go (.E 25 hs ?_);refine .call call211 rfl (pA hs ai ai) ?_;rintro _ w ⟨rfl,hs⟩;refine .go (.E 28 hs ?_);refine .call call210 rfl (nL hs) ?_;rintro _ w ⟨ZR,rfl,hs⟩;rw [show two (s.sp.u i k:Int) _ _ _ _=upL s.sp i k by unfold upL;rw [if_pos ai]] at hs;refine .go (.E 29 hs ?_);refine .append (ys:=jJ (upL s.sp i k)) hs dx rfl rfl hO (.own .here bK (by rw [fI];unfold upL;rw [if_pos ai];rfl)) (og _) (fun l h=>by rw [fI] at h;simp only [List.length_append] at h;omega) ?_;intro v141 en141 w eG hs;rw [←kh,List.append_assoc _ (pE _ _ _)] at eG;refine .go (.zw 30 rfl zg ?_);refine .D hs ?_;exact nB (nT (.region (.z zm (.z cV (.zn zg (nT ⟨(k+1,v141),.da rfl bK aM,⟨by dsimp only;omega,_,eG,hs.sb⟩,by dsimp only;omega⟩))))))
    ·refine .exit (xT (xT (xB (nB (nT (.region (.z zm (.z cV (.zn zg (nT ?_))))))))));obtain rfl:k=s.sp.wa.length - 1:=by omega
     rw [List.append_assoc,←QL i ai] at hO;exact ⟨(i+1,_),.da rfl bK aM,⟨by dsimp only;omega,en,hO,hs⟩,by dsimp only;omega⟩
   ·refine .exit (xT (xT (xB (nT (.af (.z (zfa aP) (.y hs (zld dD) ?_)))))));obtain rfl:i=s.sp.st.length:=by omega
    refine .o (.call call96 rfl (jG hs h3 ai) ?_);rintro v144 w ⟨H1,az,hT,hs⟩;replace hT:RTd H1 v144 s.di:=hT;have zb:s.di.length≤60:=by have:=eL s.rs;unfold Srv.di;omega
    have Fh:∀r∈s.rs,r.td∈s.di:=fun r hr=>jA.2 ⟨r,hr,rfl⟩
    have Up:s.dt=fL (wU s.sp) s.sp.wa.length s.sp.st.length++fL (alL s.sp) s.sp.wa.length s.sp.st.length++fL (upL s.sp) s.sp.wa.length s.sp.st.length++DY s.sp s.di.length++zY s.sp s.di s.cs 0 s.cs.length++By s.sp s.di s.rs s.rs.length:=rfl;generalize s.di=ts at*;obtain ⟨at_,ct,rfl⟩:=RTd.shape hT;refine .zn zg (.af (.y hs (zls [_,_,_,_,_,_] bY bq) (.o (.call call94 rfl (gD (s:=s.sp) hs (h1.mono az) (h2.mono az) ⟨ai,ai⟩) ?_))));rintro _ w ⟨rfl,hs⟩;refine .zn zg (.seq (.af (.zn zg (.block ?_))));refine .loop (fun p:Nat×Value=>⟨243,[],[(14,I (p.1:Int)),(4,p.2),(12,.slice at_ ts.length ct),(13,I (s.sp.many:Int)),(3,Pt b3),(1,Pt b1)]⟩)
     (fun p w=>p.1≤ts.length∧∃en,dj 4 p.2 (jJ (fL (wU s.sp) s.sp.wa.length s.sp.st.length++fL (alL s.sp) s.sp.wa.length s.sp.st.length++fL (upL s.sp) s.sp.wa.length s.sp.st.length++DY s.sp p.1)) en∧St H1 w (en:: .blk b3 [I s.sp.id,I s.sp.src,.slice iV s.sp.st.length iT,.slice gX s.sp.wa.length gW,I s.sp.al,I s.sp.up]:: .blk b1 [I s.sp.id,I s.sp.src,.slice iV s.sp.st.length iT,.slice gX s.sp.wa.length gW,I s.sp.al,I s.sp.up,.slice ar s.rs.length cr,.slice ac s.cs.length cc]::σ)) (fun p=>ts.length - p.1) (0,vo) aM
     ⟨by first|omega|exact Nat.zero_le _,en,by show dj 4 vo (jJ (_++[])) en;rw [List.append_nil];exact hO,hs⟩ ?_
    clear hO hs;rintro ⟨j,vo⟩ w ⟨hj,en,hO,hs⟩;dsimp only at hj hO ⊢;have aba:=mf s.sp j;refine .seq (.af (.z zm (.z zm (.z (dk cI) (.zn gV (.bA rfl (fun IC=>?_) (fun IC=>?_)))))))
    ·refine .skip (nT (.seq (.block (.region (.z zm (.z zm (.z cV (.z zm (.z cV (.z (zfa eM) (.y hs (zld aj) (.o (.call call210 rfl (nL hs) ?_)))))))))))));rintro _ w ⟨b160,rfl,hs⟩;refine .o (.append (ys:=jJ (two 0 ((s.sp.many:Int)+1+(j:Int)) 1000 1000 s.sp.src)) hs dx rfl rfl hO (.own .here rfl rfl) (og _) (fun l h=>by rw [fI] at h;simp only [List.length_append] at h;omega) ?_);intro v161 en161 w eG hs;rw [←kh,List.append_assoc _ (DY _ _),show (s.sp.many:Int)+1+(j:Int)=((s.sp.many+1+j:Nat):Int) by omega] at eG;exact .zn zg (nB (nT (.region (.z zm (.z cV (.zn zg (nT ⟨(j+1,v161),.da rfl bK aM,⟨by dsimp only;omega,_,eG,hs.sb⟩,by dsimp only;omega⟩)))))))
    ·refine .exit (xT (xT (xB (nT (.seq (.af (.zn zg (.block ?_))))))));refine .loop (fun p:Nat×Value=>⟨243,[],[(15,I (p.1:Int)),(4,p.2),(12,.slice at_ ts.length ct),(13,I (s.sp.many:Int)),(3,Pt b3),(1,Pt b1)]⟩)
      (fun p w=>p.1≤s.cs.length∧∃en,dj 4 p.2 (jJ (fL (wU s.sp) s.sp.wa.length s.sp.st.length++fL (alL s.sp) s.sp.wa.length s.sp.st.length++fL (upL s.sp) s.sp.wa.length s.sp.st.length++DY s.sp ts.length++zY s.sp ts s.cs 0 p.1)) en∧St H1 w (en:: .blk b3 [I s.sp.id,I s.sp.src,.slice iV s.sp.st.length iT,.slice gX s.sp.wa.length gW,I s.sp.al,I s.sp.up]:: .blk b1 [I s.sp.id,I s.sp.src,.slice iV s.sp.st.length iT,.slice gX s.sp.wa.length gW,I s.sp.al,I s.sp.up,.slice ar s.rs.length cr,.slice ac s.cs.length cc]::σ)) (fun p=>s.cs.length - p.1) (0,vo) aM
      ⟨by first|omega|exact Nat.zero_le _,en,by show dj 4 vo (jJ (_++[])) en;rw [List.append_nil,←show j=ts.length by omega];exact hO,hs⟩ ?_
     clear hO hs;rintro ⟨i,vo⟩ w ⟨hi,en,hO,hs⟩;dsimp only at hi hO ⊢;have aba:=mf s.sp ts.length;have Yw:=mg s.sp ts s.cs 0 i;have Yv:i*(2*(ts.length - 0))≤20*(2*60):=Nat.mul_le_mul ai ai;refine .seq (.af (.z zm (.z (zfa cQ) (.y hs (zld kv) (.z (dk bM) (.zn gV (.bA rfl (fun UN=>?_) (fun UN=>?_))))))))
     ·refine .skip (nT (.seq (.block (.af (.zn zg (.block ?_))))));refine .loop (fun p:Nat×Value=>⟨243,[],[(16,I (p.1:Int)),(4,p.2),(15,I (i:Int)),(12,.slice at_ ts.length ct),(13,I (s.sp.many:Int)),(3,Pt b3),(1,Pt b1)]⟩)
       (fun p w=>p.1≤ts.length∧∃en,dj 4 p.2 (jJ (fL (wU s.sp) s.sp.wa.length s.sp.st.length++fL (alL s.sp) s.sp.wa.length s.sp.st.length++fL (upL s.sp) s.sp.wa.length s.sp.st.length++DY s.sp ts.length++zY s.sp ts s.cs 0 i++nX s.sp ts (Hq s.cs i) 0 p.1)) en∧St H1 w (en:: .blk b3 [I s.sp.id,I s.sp.src,.slice iV s.sp.st.length iT,.slice gX s.sp.wa.length gW,I s.sp.al,I s.sp.up]:: .blk b1 [I s.sp.id,I s.sp.src,.slice iV s.sp.st.length iT,.slice gX s.sp.wa.length gW,I s.sp.al,I s.sp.up,.slice ar s.rs.length cr,.slice ac s.cs.length cc]::σ)) (fun p=>ts.length - p.1) (0,vo) aM
       ⟨by first|omega|exact Nat.zero_le _,en,by show dj 4 vo (jJ (_++[])) en;rw [List.append_nil];exact hO,hs⟩ ?_
      clear hO hs;rintro ⟨j,vo⟩ w ⟨hj,en,hO,hs⟩;dsimp only at hj hO ⊢;have LS:=oI s.sp ts (Hq s.cs i) 0 j;refine .seq (.af (.z zm (.z zm (.z (dk cI) (.zn gV (.bA rfl (fun UL=>?_) (fun UL=>?_)))))))
      ·refine .skip (nT (.seq (.block (.draw mix rfl hs fun w hs=>?_))));refine .zw 0 rfl zm ?_;refine .z 1 rfl (zfa cQ) ?_;refine .y 2 rfl hs kv ?_;refine .z 3 rfl zm ?_;obtain ⟨c,hx⟩:=nth (l:=s.cs) (k:=i) ai;obtain ⟨t,ht⟩:=nth (l:=ts) (k:=j) ai;obtain ⟨g1,g2,g3,g4,g5,g6⟩:=RF c (List.mem_of_getElem? hx);have ec:=MX hx;have et:=PI ht;refine .ixX (enc:=Cmp.c) (i:=4) hs rfl aD .none (h4.mono az) rfl rfl bM eD hx dp ?_;intro b179 o179 Ft;refine .r (i:=5) hs rfl aD .none (cj (vs:=c.c) rfl isAgg153 eD Ft) ?_;refine .zw 6 rfl zm ?_;refine .z 7 rfl zm ?_;refine .ixX (enc:=TD.c) (i:=8) hs rfl aD .none hT rfl rfl cI dF ht dp ?_;intro b183 o183 UK;refine .r (i:=9) hs rfl aD .none (cj (vs:=t.c) rfl kl dF UK) ?_;refine .zw 10 rfl zm ?_;refine .z 11 rfl cV ?_;refine .z 12 rfl zm ?_;refine .z 13 rfl cV ?_;refine .E 14 hs ?_;refine .call call212 rfl (Az (c:=c) (t:=t) hs ⟨ai,ai⟩) ?_;rintro v189 w ⟨en189,Ql,hs⟩;obtain ⟨a189,l189,c189,rfl,Zz⟩:=Ql.shape;refine .go (.E 15 hs ?_);refine .append (ys:=jJ (oN c t ((s.sp.many:Int)+1+(j:Int)))) hs dx rfl rfl hO (Src.Xd Ql .here) (og _) (fun l h=>by rw [fI] at h;simp only [List.length_append] at h;have:=EG c t ((s.sp.many:Int)+1+(j:Int));rw [fI] at Zz;omega) ?_;intro v190 en190 w eG hs;rw [←kh,List.append_assoc _ (nX _ _ _ _ _),show nX s.sp ts (Hq s.cs i) 0 j++oN c t ((s.sp.many:Int)+1+(j:Int))=nX s.sp ts (Hq s.cs i) 0 (j+1) by
        show _=_++oN (Hq s.cs i) (td0 ts (0+j)) ((s.sp.many+1+(0+j):Nat):Int);rw [Nat.zero_add,ec,et,show ((s.sp.many+1+j:Nat):Int)=(s.sp.many:Int)+1+(j:Int) by omega]] at eG
       refine .go (.zw 16 rfl zg ?_);refine .D hs ?_;exact nB (nT (.region (.z zm (.z cV (.zn zg (nT ⟨(j+1,v190),.da rfl bK aM,⟨by dsimp only;omega,_,eG,hs.sb⟩,by dsimp only;omega⟩))))))
      ·refine .exit (xT (xT (xB (nB (nT (.region (.z zm (.z cV (.zn zg (nT ?_))))))))));obtain rfl:j=ts.length:=by omega
       rw [List.append_assoc _ (zY _ _ _ _ _)] at hO;exact ⟨(i+1,_),.da rfl bK aM,⟨by dsimp only;omega,en,hO,hs⟩,by dsimp only;omega⟩
     ·refine .exit (xT (xT (xB (nT (.seq (.af (.zn zg (.block ?_))))))));refine .loop (fun p:Nat×Value=>⟨243,[],[(17,I (p.1:Int)),(4,p.2),(12,.slice at_ ts.length ct),(13,I (s.sp.many:Int)),(3,Pt b3),(1,Pt b1)]⟩)
       (fun p w=>p.1≤s.rs.length∧∃en,dj 4 p.2 (jJ (fL (wU s.sp) s.sp.wa.length s.sp.st.length++fL (alL s.sp) s.sp.wa.length s.sp.st.length++fL (upL s.sp) s.sp.wa.length s.sp.st.length++DY s.sp ts.length++zY s.sp ts s.cs 0 s.cs.length++By s.sp ts s.rs p.1)) en∧St H1 w (en:: .blk b3 [I s.sp.id,I s.sp.src,.slice iV s.sp.st.length iT,.slice gX s.sp.wa.length gW,I s.sp.al,I s.sp.up]:: .blk b1 [I s.sp.id,I s.sp.src,.slice iV s.sp.st.length iT,.slice gX s.sp.wa.length gW,I s.sp.al,I s.sp.up,.slice ar s.rs.length cr,.slice ac s.cs.length cc]::σ)) (fun p=>s.rs.length - p.1) (0,vo) aM
       ⟨by first|omega|exact Nat.zero_le _,en,by show dj 4 vo (jJ (_++[])) en;rw [List.append_nil,←show i=s.cs.length by omega];exact hO,hs⟩ ?_
      clear hO hs;rintro ⟨q,vo⟩ w ⟨hq,en,hO,hs⟩;dsimp only at hq hO ⊢;have XO:=mc s.sp ts s.rs q;have hcl3:=mg s.sp ts s.cs 0 s.cs.length;have hcl4:s.cs.length*(2*(ts.length - 0))≤20*(2*60):=Nat.mul_le_mul ai ai;refine .seq (.af (.z zm (.z (zfa aP) (.y hs (zld dD) (.z (dk aE) (.zn gV (.bA rfl (fun L6=>?_) (fun L6=>?_))))))))
      ·refine .skip (nT (.seq (.block (.af (.z (zfa aP) (.y hs (zld dD) (.z zm ?_)))))));obtain ⟨r,hx⟩:=nth (l:=s.rs) (k:=q) ai;obtain ⟨g1,g2,g3,g4,g5,g6,g7⟩:=PX r (List.mem_of_getElem? hx);obtain ⟨m,k1,k2,k3⟩:=jY (Fh r (List.mem_of_getElem? hx));refine .ixX (enc:=Rdg.c) hs (h3.mono az) rfl rfl aE bh hx dp ?_;intro ZM o201 P9;refine .q hs (cj (vs:=(Rdg.c r)) rfl km bh P9) (.o (.alloc hs jW rfl fun yD w hs=>?_));refine .o (.aJ (vs:=r.c) hs rfl rfl bh fun w hs=>?_);change St _ _ (.blk yD [I r.src,I r.st,I r.wa,I r.val,I r.tol,I r.tape,I r.day]::_) at hs;refine .nil (.af (.y hs (zls [_,_,_,_,_,_] bY bq) (.z (zfa iD) (.y hs (zld aj) (.z (zfa iC) (.y hs (zld aj) (.o (.call ED rfl (dS (s:=s.sp) hs (h2.mono az) ai ⟨ai,ai⟩ ⟨ai,ai⟩) ?_))))))));rintro _ w ⟨rfl,hs⟩;refine .zn zg (.af (.z zm (.z cV (.z zm (.z (zfa fw) (.y hs (zld aj) (.z (zfa fu) (.y hs (zld aj) (.z (zbd [_,_] kf) (.o (.call call95 rfl (mQ (t:=r.td) hs hT ai) ?_)))))))))));rintro _ w ⟨rfl,hs⟩;refine .z cV (.zn zg (.region (.z zm (.z zm (.z zm (.z (zfa dQ) (.y hs (zld aj) (.z (zfa dI) (.y hs (zld aj) (.z cV (.z (zfa fy) (.y hs (zld aj) (.z (zbd [_,_,_,_] fO) (.z zm (.z zm (.z (zfa dI) (.y hs (zld aj) (.z (zfa dQ) (.y hs (zld aj) (.z gE (.z (zfa fy) (.y hs (zld aj) (.z (zbd [_,_,_,_] fO) (.o (.buildSlice (cells:=jJ (xu s.sp ts r)) hs iN rfl aD fun b240 w hs=>?_)))))))))))))))))))))))));refine .o (.append (ys:=jJ (xu s.sp ts r)) hs dx rfl rfl hO (.own .here rfl rfl) (og _) (fun l h=>by rw [fI] at h;simp only [List.length_append] at h;omega) ?_);intro v241 en241 w eG hs;rw [←kh,List.append_assoc _ (By _ _ _ _),show By s.sp ts s.rs q++xu s.sp ts r=By s.sp ts s.rs (q+1) by rw [←KS hx];rfl] at eG;exact .zn zg (nB (nT (.region (.z zm (.z cV (.zn zg (nT ⟨(q+1,v241),.da rfl bK aM,⟨by dsimp only;omega,_,eG,hs.sb⟩,by dsimp only;omega⟩)))))))
      ·refine .exit (xT (xT (xB (nT (.af (.z zm (.zn zg (.ret (Fin.bu results152 rfl ?_)))))))));obtain rfl:q=s.rs.length:=by omega
       exact ⟨H1,en,az,by rw [Up];exact hO,hs.sb⟩
theorem yS{w:World}{s:Srv}(hs:St H w σ)(h1:RI H cU s.sp.st)(h2:RI H cO s.sp.wa)(h3:RRd H vr s.rs)(h4:RCm H vc s.cs)(he:s.early):
  ab8 205 [.agg #[I s.sp.id,I s.sp.src,cU,cO,I s.sp.al,I s.sp.up,vr,vc]] w fun u w'=>∃H1 vl en,HLe H H1∧u= .agg #[I s.sys.many,vl]∧dj 4 vl (jJ s.dt) en∧St H1 w' (en::σ):=by
 have rk:=fX he.1;have Ff:=he.2.1;have zb:s.di.length≤60:=by have:=eL s.rs;unfold Srv.di;omega
 refine Cl.o func205 ntmps205 ag1 ?_;refine .af (.bx hs fun b1 w hs=>?_);refine .o (.alloc hs fb rfl fun b2 w hs=>?_);refine .nil (.seq (.draw mix rfl hs fun w hs=>?_));refine .zw 0 rfl (zfa a6) ?_;refine .ys 1 rfl hs [_,_,_,_,_,_] bY bq ?_;refine .z 3 rfl (zfa aP) ?_;refine .y 4 rfl hs dD ?_;refine .ys 8 rfl hs [_,_,_,_,_,_,_,_] bn aK ?_;refine .E 2 hs ?_;refine .call call94 rfl (gD (s:=s.sp) hs h1 h2 ⟨ai,ai⟩) ?_;rintro _ w ⟨rfl,hs⟩;refine .go (.E 5 hs ?_);refine .call call96 rfl (jG hs h3 ai) ?_;rintro v8 w ⟨H1,az,hT,hs⟩;replace hT:RTd H1 v8 s.di:=hT;obtain ⟨at_,ct,rfl⟩:=RTd.shape hT;refine .go (.zw 6 rfl (dk cI) ?_);refine .z 7 rfl cV ?_;refine .E 9 hs ?_;refine .call call152 rfl (qx (s:=s) hs (h1.mono az) (h2.mono az) (h3.mono az) (h4.mono az) he) ?_;rintro v12 w ⟨H2,en,bp,hO,hs⟩;obtain ⟨al,ll,cl,rfl,wS⟩:=hO.shape;refine .go (.zw 10 rfl (zbd [_,_] kL) (.E 11 hs ?_));refine .aJ (vs:=[_,_]) hs rfl rfl aQ ?_;intro w hs;refine .go (.D hs (.ret ?_));replace hs:St H2 w (.blk b2 [I ((s.sp.many:Int)+(s.di.length:Int)),.slice al ll cl]::en::σ):=hs.sb;exact Fin.iG [] [] hs fun w hs=>⟨_,results1 results205 (dm (vs:=[_,_]) hs rfl bT aQ),H2,_,en,az.trans bp,by show _=Value.agg #[I ((s.sp.many+s.di.length:Nat):Int),_];rw [Int.natCast_add],hO,hs.tail⟩
theorem ma{w:World}{s:Srv}(hs:St H w σ)(h1:RI H cU s.sp.st)(h2:RI H cO s.sp.wa)(h3:RRd H vr s.rs)(h4:RCm H vc s.cs)(he:s.early):
  ab8 205 [.agg #[I s.sp.id,I s.sp.src,cU,cO,I s.sp.al,I s.sp.up,vr,vc]] w fun u w'=>∃H1,HLe H H1∧RSy H1 u s.sys∧St H1 w' σ:=by
 refine (yS hs h1 h2 h3 h4 he).mono ?_;rintro u w' ⟨H1,vl,en,hle,rfl,hO,hs⟩;have hl:=mw he 6 ai;rw [s.AN] at hl;obtain ⟨H2,bp,hR,hs⟩:=dj.dn (m:=4) (cs:=s.dt.map Lim.c) hO (fun c hc=>by simp only [List.mem_map] at hc;obtain ⟨x,_,rfl⟩:=hc;rfl) ai (by rw [List.length_map];omega) hs .here;exact ⟨H2,hle.trans bp,⟨vl,rfl,hR⟩,hs⟩
set_option maxHeartbeats 1000000 in
theorem mR{w:World}{s:Srv}(hs:St H w σ)(h1:RI H cU s.sp.st)(h2:RI H cO s.sp.wa)(h3:RRd H vr s.rs)(h4:RCm H vc s.cs):
  ab8 123 [.agg #[I s.sp.id,I s.sp.src,cU,cO,I s.sp.al,I s.sp.up,vr,vc]] w fun u w'=>∃H1 e,HLe H H1∧u=I e∧BF s e∧St H1 w' σ:=by
 obtain ⟨iV,iT,rfl⟩:=RI.shape h1;obtain ⟨gX,gW,rfl⟩:=RI.shape h2;obtain ⟨ar,cr,rfl⟩:=RRd.shape h3;obtain ⟨ac,cc,rfl⟩:=RCm.shape h4;refine Cl.o func123 ntmps123 ag1 ?_;refine .af (.bx hs fun b1 w hs=>?_);refine .zn zg (.seq (.af (.z (zfa a6) (.y hs (zls [_,_,_,_,_,_] bY bq) (.o (.call call113 rfl (jZ (s:=s.sp) hs h1 h2) ?_))))));rintro _ w ⟨e,rfl,he,hs⟩;refine .zn fU (.dK rfl (fun B2=>?_) (fun B2=>?_))
 ·refine .af (.zn zg (.ret (rT (Fin.bu yk rfl ?_))));have hq:¬fB s.sp∧e=30:=he.resolve_left fun h=>B2 h.2
  exact ⟨H,_,HLe.refl H,rfl,.space hq.1,hs.out⟩
 ·refine .skip (nT (.seq (.af (.z (zfa aP) ?_))));have aU:fB s.sp:=(he.resolve_right fun h=>by omega).1;refine .y hs (zld dD) (.z (dk aE) (.z ld (.z zm (.ie (t':=13) rfl (fun xR=>?_) (fun xR=>?_)))))
  ·exact .Fs 4 4 false (.zn zpT (.cT (.af (.zn zg (.ret (rT (Fin.bu yk rfl ⟨H,_,HLe.refl H,rfl,.long aU ai,hs.out⟩)))))))
  ·refine .T (.z (zfa cQ) (.T (.y hs (zld kv) (.T (.z (dk bM) (.T (.z ld (.zn zpF (.bA rfl (fun im=>?_) (fun im=>?_))))))))))
   ·exact .af (.zn zg (.ret (rT (Fin.bu yk rfl ⟨H,_,HLe.refl H,rfl,.long aU ai,hs.out⟩))))
   ·refine .skip (nT (.seq (.af (.zn zg (.block ?_)))));refine .loop (fun k:Nat=>⟨64,[],[(3,I (k:Int)),(1,Pt b1)]⟩)
     (fun k w=>k≤s.rs.length∧(∀j<k,∀y,s.rs[j]? =some y→pT s.sp y)∧St H w (.blk b1 [I s.sp.id,I s.sp.src,.slice iV s.sp.st.length iT,.slice gX s.sp.wa.length gW,I s.sp.al,I s.sp.up,.slice ar s.rs.length cr,.slice ac s.cs.length cc]::σ)) (fun k=>s.rs.length - k) 0 aM
     ⟨Nat.zero_le _,fun j hj=>by omega,hs⟩ ?_
    rintro k w ⟨hk,fa,hs⟩;refine .seq (.af (.z zm (.z (zfa aP) (.y hs (zld dD) (.z (dk aE) (.zn gV (.bA rfl (fun kX=>?_) (fun kX=>?_))))))))
    ·refine .skip (nT (.seq (.block (.seq (.draw mix rfl hs fun w hs=>?_)))));refine .zw 0 rfl (zfa a6) ?_;refine .ys 1 rfl hs [_,_,_,_,_,_] bY bq ?_;refine .z 2 rfl (zfa aP) ?_;refine .y 3 rfl hs dD ?_;refine .z 4 rfl zm ?_;obtain ⟨r,hx⟩:=nth (l:=s.rs) (k:=k) ai;refine .ixX (enc:=Rdg.c) (i:=5) hs rfl aD .none h3 rfl rfl aE bh hx dp ?_;intro Pp o31 oU;refine .r (i:=6) hs rfl aD .none (cj (vs:=r.c) rfl km bh oU) ?_;refine .E 7 hs ?_;refine .call call150 rfl (lC (s:=s.sp) (r:=r) hs h1 h2) ?_;rintro _ w ⟨WT,rfl,JS,hs⟩;refine .go (.zw 8 rfl fE ?_);refine .D hs ?_;refine (.cond rfl (fun kJ=>?_) (fun kJ=>?_))
     ·exact .af (.zn zg (.ret (rB (rT (rT (rB (rT (Fin.bu yk rfl ⟨H,_,HLe.refl H,rfl,.rdg aU ai (fun h=>by rw [JS.2 (h r (List.mem_of_getElem? hx))] at kJ;cases kJ),hs.out⟩))))))))
     ·exact .skip (nB (nT (.region (.z zm (.z cV (.zn zg (nT ⟨k+1,.da rfl bK aM,⟨ai,fW fa hx (JS.1 (by simpa using kJ)),hs⟩,ai⟩)))))))
    ·refine .exit (xT (xT (xB (nT (.seq (.af (.zn zg (.block ?_))))))));have PX:∀r∈s.rs,pT s.sp r:=fun r hr=>by
      obtain ⟨j,hj⟩:=List.getElem?_of_mem hr;have:=(List.getElem?_eq_some_iff.1 hj).1;exact fa j ai r hj
     clear fa;refine .loop (fun k:Nat=>⟨64,[],[(4,I (k:Int)),(1,Pt b1)]⟩)
      (fun k w=>k≤s.cs.length∧(∀j<k,∀y,s.cs[j]? =some y→uK y)∧St H w (.blk b1 [I s.sp.id,I s.sp.src,.slice iV s.sp.st.length iT,.slice gX s.sp.wa.length gW,I s.sp.al,I s.sp.up,.slice ar s.rs.length cr,.slice ac s.cs.length cc]::σ)) (fun k=>s.cs.length - k) 0 aM
      ⟨Nat.zero_le _,fun j hj=>by omega,hs⟩ ?_
     rintro i w ⟨hi,fa,hs⟩;refine .seq (.af (.z zm (.z (zfa cQ) (.y hs (zld kv) (.z (dk bM) (.zn gV (.bA rfl (fun kq=>?_) (fun kq=>?_))))))))
     ·refine .skip (nT (.seq (.block (.af (.z (zfa cQ) (.y hs (zld kv) (.z zm ?_)))))));obtain ⟨c,hx⟩:=nth (l:=s.cs) (k:=i) ai;refine .ixX (enc:=Cmp.c) hs h4 rfl rfl bM eD hx dp ?_;intro ZL o45 zi;refine .q hs (cj (vs:=(Cmp.c c)) rfl isAgg153 eD zi) (.o (.call call176 rfl (p9 (c:=c) hs) ?_));rintro _ w ⟨VF,rfl,OU,hs⟩;refine .zn fE (.cond rfl (fun nP=>?_) (fun nP=>?_))
      ·exact .af (.zn zg (.ret (rB (rT (rT (rB (rT (Fin.bu yk rfl ⟨H,_,HLe.refl H,rfl,.cmp aU ai PX (fun h=>by rw [OU.2 (h c (List.mem_of_getElem? hx))] at nP;cases nP),hs.out⟩))))))))
      ·exact .skip (nB (nT (.region (.z zm (.z cV (.zn zg (nT ⟨i+1,.da rfl bK aM,⟨ai,fW fa hx (OU.1 (by simpa using nP)),hs⟩,ai⟩)))))))
     ·refine .exit (xT (xT (xB (nT (.seq (.seq (.draw mix rfl hs fun w hs=>?_)))))));refine .zw 0 rfl (zfa a6) ?_;refine .ys 1 rfl hs [_,_,_,_,_,_] bY bq ?_;refine .z 3 rfl (zfa aP) ?_;refine .y 4 rfl hs dD ?_;refine .E 2 hs ?_;have RF:∀c∈s.cs,uK c:=fun c hc=>by
       obtain ⟨j,hj⟩:=List.getElem?_of_mem hc;have:=(List.getElem?_eq_some_iff.1 hj).1;exact fa j ai c hj
      have G1:s.early:=⟨aU,ai,ai,PX,RF⟩;have rk:=fX aU;have Ff:=G1.2.1;have zb:s.di.length≤60:=by have:=eL s.rs;unfold Srv.di;omega
      have wS:=mw G1 6 ai;rw [s.AN] at wS;refine .call call94 rfl (gD (s:=s.sp) hs h1 h2 ⟨ai,ai⟩) ?_;rintro _ w ⟨rfl,hs⟩;refine .go (.E 5 hs ?_);refine .call call96 rfl (jG hs h3 ai) ?_;rintro v54 w ⟨H1,az,hT,hs⟩;replace hT:RTd H1 v54 s.di:=hT;obtain ⟨at_,ct,rfl⟩:=RTd.shape hT;refine .go (.zw 6 rfl (dk cI) ?_);refine .z 7 rfl cV ?_;refine .z 8 rfl ld ?_;refine .z 9 rfl zm ?_;refine .ie (t':=58) rfl (fun zj=>?_) (fun zj=>?_)
      ·refine .F 10 rfl (.F 11 rfl (.F 12 rfl (.F 13 rfl (.zw 14 rfl zpT ?_))));refine .D hs ?_;exact (.cT (.af (.zn zg (.ret (rT (Fin.bu yk rfl ⟨H1,_,az,rfl,.big G1 ai,hs.out⟩))))))
      ·refine .zv 10 rfl hs (E4 [_,_,_,_,_,_,_,_] bn aK) (.E 11 hs ?_);refine .call call152 rfl (qx (s:=s) hs (h1.mono az) (h2.mono az) (h3.mono az) (h4.mono az) G1) ?_;rintro v60 w ⟨H2,en,bp,hO,hs⟩;obtain ⟨al,ll,cl,rfl,Yb⟩:=hO.shape;rw [fI] at Yb;refine .go (.zw 12 rfl (dk bj) ?_);refine .z 13 rfl ld ?_;refine .z 14 rfl zpF ?_;refine .D hs ?_;refine (.bA rfl (fun oq=>?_) (fun oq=>?_))
       ·exact .af (.zn zg (.ret (rT (Fin.bu yk rfl ⟨H2,_,az.trans bp,rfl,.big G1 ai,hs.out⟩))))
       ·exact .skip (nT (.af (.zn zg (.ret (Fin.bu yk rfl ⟨H2,_,az.trans bp,rfl,.ok G1 ⟨ai,ai⟩,hs.out⟩)))))
theorem l7{w:World}{q:Wht}(hs:St H w σ)(h2:RI H cO s.wa):
  ab8 230 [.agg #[I q.kind,I q.st,I q.wa,I s.id,I s.src,cU,cO,I s.al,I s.up]] w fun v w'=>v= .bool (decide (0≤q.wa∧q.wa≤(s.wa.length:Int) - 1))∧St H w' σ:=by
 obtain ⟨gX,gW,rfl⟩:=RI.shape h2;have l2:=(RI.len h2).2.2;refine Cl.o func230 ntmps230 ag1 ?_;refine .af (.bx hs fun b1 w hs=>?_);refine .zn zg (.af (.z (zfa dH) (.z (zfa eP) (.y hs (zld aj) (.z (zfa gU) (.z (zfa aZ) (.y hs (zld an) (.z (dk ae) (.z gE (.o (.call jP rfl (bP hs) ?_)))))))))));rintro _ w ⟨rfl,hs⟩;exact .zn zg (.ret (Fin.bu results230 rfl ⟨rfl,hs.out⟩))
theorem nI{w:World}{q:Wht}(hs:St H w σ)(h1:RI H cU s.st):
  ab8 235 [.agg #[I q.kind,I q.st,I q.wa,I s.id,I s.src,cU,cO,I s.al,I s.up]] w fun v w'=>v= .bool (decide (0≤q.st∧q.st≤(s.st.length:Int) - 1))∧St H w' σ:=by
 obtain ⟨iV,iT,rfl⟩:=RI.shape h1;have l1:=(RI.len h1).2.2;refine Cl.o func235 ntmps235 ag1 ?_;refine .af (.bx hs fun b1 w hs=>?_);refine .zn zg (.af (.z (zfa dH) (.z (zfa fM) (.y hs (zld aj) (.z (zfa gU) (.z (zfa bV) (.y hs (zld an) (.z (dk ae) (.z gE (.o (.call jP rfl (bP hs) ?_)))))))))));rintro _ w ⟨rfl,hs⟩;exact .zn zg (.ret (Fin.bu results235 rfl ⟨rfl,hs.out⟩))
theorem ru{q:Wht}:gx s q↔(q.kind=1∧q.st=0∧s.isW q∧0<q.wa)∨(q.kind=2∧q.st=0∧s.isW q)∨(q.kind=3∧q.wa=0∧s.isS q)∨(q.kind=4∧s.isS q∧s.isW q):=by
 constructor
 ·intro h
  cases h with
  |litres a b c d=>exact .inl ⟨a,b,c,d⟩
  |plane a b c=>exact .inr (.inl ⟨a,b,c⟩)
  |section_ a b c=>exact .inr (.inr (.inl ⟨a,b,c⟩))
  |offset a b c=>exact .inr (.inr (.inr ⟨a,b,c⟩))
 ·rintro (⟨a,b,c,d⟩|⟨a,b,c⟩|⟨a,b,c⟩|⟨a,b,c⟩)
  ·exact .litres a b c d
  ·exact .plane a b c
  ·exact .section_ a b c
  ·exact .offset a b c
theorem E9{w:World}{q:Wht}(hs:St H w σ)(h2:RI H cO s.wa)(hk:q.kind=1):
  ab8 229 [.agg #[I q.kind,I q.st,I q.wa,I s.id,I s.src,cU,cO,I s.al,I s.up]] w fun v w'=>∃b:Bool,v= .bool b∧(b=true↔gx s q)∧St H w' σ:=by
 have hi:=ru (s:=s) (q:=q);simp only [Spc.isW,Spc.isS] at hi;refine Cl.o func229 ntmps229 ag1 ?_;refine .af (.bx hs fun b1 w hs=>?_);refine .zn zg (.af (.y hs (zls [_,_,_,_,_,_,_,_,_] QD Ch) (.o (.call call230 rfl (l7 hs h2) ?_))));rintro _ w ⟨rfl,hs⟩;refine .z zm (.bif (t':=5) rfl (fun OT=>?_) (fun OT=>?_))
 ·refine .T (.z (zfa dH) (.T (.z (zfa eP) (.T (.y hs (zld aj) (.T (.z ld (.z zpT (.z zm (.ie (t':=11) rfl (fun oV=>?_) (fun oV=>?_)))))))))))
  ·exact .T (.z (zfa dH) (.T (.z (zfa fM) (.T (.y hs (zld aj) (.T (.z fJ (.z zpT (.zn zg (.ret (Fin.bu results229 rfl ⟨_,rfl,by rw [hi];simp_all<;>omega,hs.out⟩)))))))))))
  ·exact .Fs 4 8 true (.z zpF (.zn zg (.ret (Fin.bu results229 rfl ⟨_,rfl,by rw [hi];simp_all<;>omega,hs.out⟩))))
 ·exact .Fs 4 2 true (.z zpF (.z zm (.Fs 4 8 true (.z zpF (.zn zg (.ret (Fin.bu results229 rfl ⟨_,rfl,by rw [hi];simp_all<;>omega,hs.out⟩)))))))
theorem E8{w:World}{q:Wht}(hs:St H w σ)(h2:RI H cO s.wa)(hk:q.kind=2):
  ab8 232 [.agg #[I q.kind,I q.st,I q.wa,I s.id,I s.src,cU,cO,I s.al,I s.up]] w fun v w'=>∃b:Bool,v= .bool b∧(b=true↔gx s q)∧St H w' σ:=by
 have hi:=ru (s:=s) (q:=q);simp only [Spc.isW,Spc.isS] at hi;refine Cl.o func232 ntmps232 ag1 ?_;refine .af (.bx hs fun b1 w hs=>?_);refine .zn zg (.af (.y hs (zls [_,_,_,_,_,_,_,_,_] QD Ch) (.o (.call call230 rfl (l7 hs h2) ?_))));rintro _ w ⟨rfl,hs⟩;refine .z zm (.bif (t':=5) rfl (fun OT=>?_) (fun OT=>?_))
 ·exact .T (.z (zfa dH) (.T (.z (zfa fM) (.T (.y hs (zld aj) (.T (.z fJ (.z zpT (.zn zg (.ret (Fin.bu results232 rfl ⟨_,rfl,by rw [hi];simp_all<;>omega,hs.out⟩)))))))))))
 ·exact .Fs 4 2 true (.z zpF (.zn zg (.ret (Fin.bu results232 rfl ⟨_,rfl,by rw [hi];simp_all<;>omega,hs.out⟩))))
theorem E7{w:World}{q:Wht}(hs:St H w σ)(h1:RI H cU s.st)(hk:q.kind=3):
  ab8 234 [.agg #[I q.kind,I q.st,I q.wa,I s.id,I s.src,cU,cO,I s.al,I s.up]] w fun v w'=>∃b:Bool,v= .bool b∧(b=true↔gx s q)∧St H w' σ:=by
 have hi:=ru (s:=s) (q:=q);simp only [Spc.isW,Spc.isS] at hi;refine Cl.o func234 ntmps234 ag1 ?_;refine .af (.bx hs fun b1 w hs=>?_);refine .zn zg (.af (.y hs (zls [_,_,_,_,_,_,_,_,_] QD Ch) (.o (.call call235 rfl (nI hs h1) ?_))));rintro _ w ⟨rfl,hs⟩;refine .z zm (.bif (t':=5) rfl (fun OT=>?_) (fun OT=>?_))
 ·exact .T (.z (zfa dH) (.T (.z (zfa eP) (.T (.y hs (zld aj) (.T (.z fJ (.z zpT (.zn zg (.ret (Fin.bu results234 rfl ⟨_,rfl,by rw [hi];simp_all<;>omega,hs.out⟩)))))))))))
 ·exact .Fs 4 2 true (.z zpF (.zn zg (.ret (Fin.bu results234 rfl ⟨_,rfl,by rw [hi];simp_all<;>omega,hs.out⟩))))
theorem E6{w:World}{q:Wht}(hs:St H w σ)(h1:RI H cU s.st)(h2:RI H cO s.wa)(hk:q.kind=4):
  ab8 237 [.agg #[I q.kind,I q.st,I q.wa,I s.id,I s.src,cU,cO,I s.al,I s.up]] w fun v w'=>∃b:Bool,v= .bool b∧(b=true↔gx s q)∧St H w' σ:=by
 have hi:=ru (s:=s) (q:=q);simp only [Spc.isW,Spc.isS] at hi;refine Cl.o func237 ntmps237 ag1 ?_;refine .af (.bx hs fun b1 w hs=>?_);refine .zn zg (.af (.y hs (zls [_,_,_,_,_,_,_,_,_] QD Ch) (.o (.call call235 rfl (nI hs h1) ?_))));rintro _ w ⟨rfl,hs⟩;refine .z zm (.bif (t':=5) rfl (fun OT=>?_) (fun OT=>?_))
 ·refine .T (.y hs (zls [_,_,_,_,_,_,_,_,_] QD Ch) (.T (.o (.call call230 rfl (l7 hs h2) ?_))));rintro _ w ⟨rfl,hs⟩;exact .z zpT (.zn zg (.ret (Fin.bu results237 rfl ⟨_,rfl,by rw [hi];simp_all<;>omega,hs.out⟩)))
 ·exact .Fs 2 2 true (.z zpF (.zn zg (.ret (Fin.bu results237 rfl ⟨_,rfl,by rw [hi];simp_all<;>omega,hs.out⟩))))
theorem yK{w:World}{q:Wht}{u:Int}(hs:St H w σ)(h1:RI H cU s.st)(h2:RI H cO s.wa)(aU:fB s)(hq:gx s q)(BZ:q.kind=1)(hi:i<s.st.length):
  ab8 231 [.agg #[I q.kind,I q.st,I q.wa,I s.id,I s.src,cU,cO,I s.al,I s.up],.agg #[I (i:Int),I (k:Int),I u]] w fun v w'=>∃H1,HLe H H1∧v=I (mO s q i k)∧St H1 w' σ:=by
 obtain ⟨iV,iT,rfl⟩:=RI.shape h1;obtain ⟨gX,gW,rfl⟩:=RI.shape h2;have hn:=aU.wa.many;have vX:=(RI.len h2).2.1;obtain ⟨_,hw1,Xu,hw3⟩:q.st=0∧0<q.wa∧0≤q.wa∧q.wa≤(s.wa.length:Int) - 1:=by
  rcases ru.1 hq with h|h|h|h
  ·exact ⟨h.2.1,h.2.2.2,h.2.2.1.1,h.2.2.1.2⟩
  all_goals omega
 obtain ⟨m,hm⟩:∃m:Nat,q.wa=m:=⟨q.wa.toNat,ai⟩;have hW:mO s q i k=if (k:Int)≤q.wa then gi (wts s.st) i*gi (wts (s.wa.take (q.wa.toNat+1))) k else 0:=by unfold mO;rw [if_pos BZ]
 have X2:q.wa.toNat=m:=by omega
 rw [X2] at hW;refine Cl.o func231 ntmps231 ag2 ?_;refine .af (.bx hs fun b2 w hs=>?_);refine .bx hs fun b3 w hs=>?_
 refine .zn zg (.seq (.af (.z (zfa dM) (.y hs (zld aj) (.z (zfa dH) (.z (zfa eP) (.y hs (zld aj) (.zn ld (.bA rfl (fun fk=>?_) (fun fk=>?_))))))))))
 ·exact .af (.zn zg (.ret (rT (Fin.bu results231 rfl ⟨H,HLe.refl H,by rw [hW,if_neg ai],hs.out⟩))))
 ·refine .skip (nT (.seq (.draw mix rfl hs fun w hs=>?_)));refine .zw 0 rfl (zfa gU) ?_;refine .z 1 rfl (zfa bV) ?_;refine .y 2 rfl hs an ?_;refine .z 3 rfl (zfa gU) ?_;refine .z 4 rfl (zfa aZ) ?_;refine .y 5 rfl hs an ?_;refine .z 6 rfl (zfa dH) ?_;refine .z 7 rfl (zfa eP) ?_;refine .y 8 rfl hs aj ?_;refine .z 9 rfl cV ?_;refine .zw 10 rfl (rO (k:=m+1) rfl rfl ae ak ai ai) (.E 11 hs ?_);have hP:gy 7 15000 (s.wa.take (m+1)):=aU.wa.take ai ai;refine .call call163 rfl (rA hs h1 (h2.head (k:=m+1) ai)) ?_;rintro _ w ⟨H1,vo,e,az,rfl,Vk,-,hs⟩;obtain ⟨rfl,hG⟩:=Vk ⟨aU.st,hP⟩;have Nj:=mC (wts s.st) (wts (s.wa.take (m+1))) s.st.length;have tg:(wts (s.wa.take (m+1))).length=m+1:=by rw [fF,List.length_take];omega
  have Yl:=DQ (X:=wts s.st) (Y:=wts (s.wa.take (m+1))) (n:=s.st.length) hi;have S4:=IQ (X:=wts s.st) (Y:=wts (s.wa.take (m+1))) (n:=s.st.length) (k:=k) hi ai;have Ff:=l9 (wts s.st) (wts (s.wa.take (m+1))) i;rw [←Yl] at Ff;generalize pQ (wts s.st) (wts (s.wa.take (m+1))) s.st.length=G at*;obtain ⟨aG,cG,rfl⟩:=hG.shape;refine .go (.zw 12 rfl zm ?_);refine .z 13 rfl zex ?_;refine .z 14 rfl zex ?_;refine .z 15 rfl zg ?_;refine .z 16 rfl zg ?_;refine .D hs ?_;refine .seq (.draw mix rfl hs fun w hs=>?_);refine .zw 0 rfl zm ?_;refine .z 1 rfl (zfa eo) ?_;refine .y 2 rfl hs aj ?_;refine .ixT (i:=3) hs rfl aD .none hG rfl rfl aC aO (show i<_ by omega) dp ?_;intro Pp o31 a31 c31 oU Zi;refine .r (i:=4) hs rfl aD .none (aF rfl an oU) ?_;refine .zw 5 rfl (zfa dM) ?_;refine .y 6 rfl hs aj ?_;refine .ixX (enc:=fun x=>[I x]) (i:=7) hs rfl aD .none Zi rfl rfl ae ak (bG (l:=(gr G i)) (i:=k) ai) dp ?_;intro Po o35 nv;replace nv:=bJ.one nv;refine .r (i:=8) hs rfl aD .none (aF rfl aj nv) ?_;refine .zw 9 rfl zg ?_;refine .D hs ?_;exact .ret (Fin.bu results231 rfl ⟨H1,az,by rw [hW,if_pos ai,←S4];rfl,hs.out⟩)
theorem Ad{w:World}{q:Wht}{u:Int}(hs:St H w σ)(h1:RI H cU s.st)(aU:fB s)(BZ:q.kind=2)(hi:i<s.st.length):
  ab8 233 [.agg #[I q.kind,I q.st,I q.wa,I s.id,I s.src,cU,cO,I s.al,I s.up],.agg #[I (i:Int),I (k:Int),I u]] w fun v w'=>∃H1,HLe H H1∧v=I (mO s q i k)∧St H1 w' σ:=by
 have hW:mO s q i k=if (k:Int)=q.wa then gi (wts s.st) i else 0:=by unfold mO;rw [if_neg ai,if_pos BZ]
 have hl:=fF s.st;refine Cl.o func233 ntmps233 ag2 ?_;refine .af (.bx hs fun b2 w hs=>?_);refine .bx hs fun b3 w hs=>?_
 refine .zn zg (.seq (.af (.z (zfa dM) (.y hs (zld aj) (.z (zfa dH) (.z (zfa eP) (.y hs (zld aj) (.zn fU (.dK rfl (fun fk=>?_) (fun fk=>?_))))))))))
 ·exact .af (.zn zg (.ret (rT (Fin.bu results233 rfl ⟨H,HLe.refl H,by rw [hW,if_neg ai],hs.out⟩))))
 ·refine .skip (nT (.af (.z (zfa gU) (.z (zfa bV) (.y hs (zld an) (.o (.call call275 rfl (oA hs h1) ?_)))))));rintro _ w ⟨H1,vo,e,az,rfl,Vk,hs⟩;obtain ⟨rfl,hG⟩:=Vk aU.st;obtain ⟨aG,cG,rfl⟩:=RI.shape hG;refine .z zm (.z zex (.z zex (.z zg (.zn zg (.af (.z zm (.z (zfa eo) (.y hs (zld aj) (.ixY hs hG rfl rfl ae ak (bG (l:=(wts s.st)) (i:=i) ai) dp ?_)))))))));intro Ks o23 kX;exact .q hs (aF rfl aj kX) (.zn zg (.ret (Fin.bu results233 rfl ⟨H1,az,by rw [hW,if_pos ai],hs.out⟩)))
theorem w8{w:World}{q:Wht}{u:Int}(hs:St H w σ)(h2:RI H cO s.wa)(aU:fB s)(BZ:q.kind=3)(hk:k<s.wa.length):
  ab8 236 [.agg #[I q.kind,I q.st,I q.wa,I s.id,I s.src,cU,cO,I s.al,I s.up],.agg #[I (i:Int),I (k:Int),I u]] w fun v w'=>∃H1,HLe H H1∧v=I (mO s q i k)∧St H1 w' σ:=by
 have hW:mO s q i k=if (i:Int)=q.st then gi (wts s.wa) k else 0:=by unfold mO;rw [if_neg ai,if_neg ai,if_pos BZ]
 have hl:=fF s.wa;refine Cl.o func236 ntmps236 ag2 ?_;refine .af (.bx hs fun b2 w hs=>?_);refine .bx hs fun b3 w hs=>?_
 refine .zn zg (.seq (.af (.z (zfa eo) (.y hs (zld aj) (.z (zfa dH) (.z (zfa fM) (.y hs (zld aj) (.zn fU (.dK rfl (fun fk=>?_) (fun fk=>?_))))))))))
 ·exact .af (.zn zg (.ret (rT (Fin.bu results236 rfl ⟨H,HLe.refl H,by rw [hW,if_neg ai],hs.out⟩))))
 ·refine .skip (nT (.af (.z (zfa gU) (.z (zfa aZ) (.y hs (zld an) (.o (.call call275 rfl (oA hs h2) ?_)))))));rintro _ w ⟨H1,vo,e,az,rfl,Vk,hs⟩;obtain ⟨rfl,hG⟩:=Vk (GA aU);obtain ⟨aG,cG,rfl⟩:=RI.shape hG;refine .z zm (.z zex (.z zex (.z zg (.zn zg (.af (.z zm (.z (zfa dM) (.y hs (zld aj) (.ixY hs hG rfl rfl ae ak (bG (l:=(wts s.wa)) (i:=k) ai) dp ?_)))))))));intro Ks o23 kX;exact .q hs (aF rfl aj kX) (.zn zg (.ret (Fin.bu results236 rfl ⟨H1,az,by rw [hW,if_pos ai],hs.out⟩)))
theorem yJ{w:World}{q:Wht}{u:Int}(hs:St H w σ)(BZ:q.kind=4):
  ab8 238 [.agg #[I q.kind,I q.st,I q.wa,I s.id,I s.src,cU,cO,I s.al,I s.up],.agg #[I (i:Int),I (k:Int),I u]] w fun v w'=>∃H1,HLe H H1∧v=I (mO s q i k)∧St H1 w' σ:=by
 have hW:mO s q i k=if (i:Int)=q.st∧(k:Int)=q.wa then 1 else 0:=by unfold mO;rw [if_neg ai,if_neg ai,if_neg ai]
 refine Cl.o func238 ntmps238 ag2 ?_;refine .af (.bx hs fun b2 w hs=>?_);refine .bx hs fun b3 w hs=>?_
 refine .zn zg (.seq (.af (.z (zfa eo) (.y hs (zld aj) (.z (zfa dH) (.z (zfa fM) (.y hs (zld aj) (.z fU (.z zm (.F1 (t':=11) rfl (fun oV=>?_) (fun oV=>?_)))))))))))
 ·refine .Fs 6 6 false (.zn zpT (.cT (.af (.zn zg (.ret (rT (Fin.bu results238 rfl ?_)))))));first
  |exact ⟨H,HLe.refl H,by rw [hW,if_neg ai],hs.out⟩
  |exact ⟨H,HLe.refl H,by rw [hW,if_pos ai],hs.out⟩
 ·refine .T (.z (zfa dM) (.T (.y hs (zld aj) (.T (.z (zfa dH) (.T (.z (zfa eP) (.T (.y hs (zld aj) (.T (.z fU (.zn zpF (.dK rfl (fun im=>?_) (fun im=>?_))))))))))))))
  ·refine .af (.zn zg (.ret (rT (Fin.bu results238 rfl ?_))));first
   |exact ⟨H,HLe.refl H,by rw [hW,if_neg ai],hs.out⟩
   |exact ⟨H,HLe.refl H,by rw [hW,if_pos ai],hs.out⟩
  ·refine .skip (nT (.af (.zn zg (.ret (Fin.bu results238 rfl ?_)))));first
   |exact ⟨H,HLe.refl H,by rw [hW,if_neg ai],hs.out⟩
   |exact ⟨H,HLe.refl H,by rw [hW,if_pos ai],hs.out⟩
def Jl(k:Int):Nat:=if k=1 then 229 else if k=2 then 232 else if k=3 then 234 else 237
def Jg(k:Int):Nat:=if k=1 then 231 else if k=2 then 233 else if k=3 then 236 else 238
def Iv(k:Int):Value:= .agg #[.func (.func (Jl k)) #[] #[],.func (.func (Jg k)) #[] #[],I (oZ ⟨k,0,0⟩)]
def SQ:List MapEntry:=[{key:=I 1,val:=Iv 1,born:=0},{key:=I 2,val:=Iv 2,born:=1},{key:=I 3,val:=Iv 3,born:=2},{key:=I 4,val:=Iv 4,born:=3}]
theorem oE{w:World}(hs:St H w σ):
  ab8 187 [] w fun v w'=>∃b,v= .map (some b)∧St H w' (.obj b (.map SQ.toArray 4)::σ):=by
 refine Cl.of func187 rfl ntmps187 bK (D7) (.af (.zn zg (.af (.o (.makeMap hs fun b1 w hs=>?_)))));refine .z (zbd [_,_,_] kS) (.o (.insert (es:=[]) hs rfl rfl rfl jD cJ rfl fun w hs=>?_));refine .z (zbd [_,_,_] kS) (.o (.insert (es:=[{key:=I 1,val:=Iv 1,born:=0}]) hs rfl rfl rfl jD cJ rfl fun w hs=>?_));refine .z (zbd [_,_,_] kS) (.o (.insert (es:=[{key:=I 1,val:=Iv 1,born:=0},{key:=I 2,val:=Iv 2,born:=1}]) hs rfl rfl rfl jD cJ rfl fun w hs=>?_));refine .z (zbd [_,_,_] kS) (.o (.insert (es:=[{key:=I 1,val:=Iv 1,born:=0},{key:=I 2,val:=Iv 2,born:=1},{key:=I 3,val:=Iv 3,born:=2}]) hs rfl rfl rfl jD cJ rfl fun w hs=>?_));exact .z zm (.zn zg (.ret (Fin.bu results187 rfl ⟨b1,rfl,hs⟩)))
def lF1(k:Int):Value:=if 1≤k∧k≤4 then .func (.func (Jl k)) #[] #[] else .nilFunc
def lF2(k:Int):Value:=if 1≤k∧k≤4 then .func (.func (Jg k)) #[] #[] else .nilFunc
def lD(k:Int):Int:=if 1≤k∧k≤4 then oZ ⟨k,0,0⟩ else 0
theorem Iu(k:Int):[lF1 k,lF2 k,I (lD k)].all Value.oneCell'=true:=by
 unfold lF1 lF2;split<;>rfl
theorem KZ{s:FS}{x y:Operand}(k:Int)(hx:FS.ev s x=some (.map (some b)))(hy:FS.ev s y=some (I k)):
  QJ Tryz.prog H [.obj b (.map SQ.toArray 4)] s (.lookup 238 x y true) (.tuple #[.agg #[lF1 k,lF2 k,I (lD k)],.bool (decide (1≤k∧k≤4))]):=by
 by_cases h:1≤k∧k≤4
 ·rw [decide_eq_true h];have h4:k=1∨k=2∨k=3∨k=4:=by omega
  rcases h4 with rfl|rfl|rfl|rfl
  ·exact Ig (v:=Iv 1) (j:=0) hx hy jD cJ rfl .here
  ·exact Ig (v:=Iv 2) (j:=1) hx hy jD cJ rfl .here
  ·exact Ig (v:=Iv 3) (j:=2) hx hy jD cJ rfl .here
  ·exact Ig (v:=Iv 4) (j:=3) hx hy jD cJ rfl .here
 ·rw [decide_eq_false h];have e1:lF1 k= .nilFunc:=if_neg h;have e2:lF2 k= .nilFunc:=if_neg h;have e3:lD k=0:=if_neg h;rw [e1,e2,e3];refine QY (es:=SQ) (c:=4) hx hy jD cJ zeroValue236 ?_ .here;have n1:(k==1)=false:=by simp only [beq_eq_false_iff_ne];omega
  have n2:(k==2)=false:=by simp only [beq_eq_false_iff_ne];omega
  have n3:(k==3)=false:=by simp only [beq_eq_false_iff_ne];omega
  have n4:(k==4)=false:=by simp only [beq_eq_false_iff_ne];omega
  simp [Instr.findNow,Instr.sameNow,SQ,n1,n2,n3,n4]
theorem NQ(k:Int):∀args w,(callFunc (Jl k) args).run Tryz.prog w= .ok (.enter (Jl k) args) w:=by
 unfold Jl;split
 ·exact call229
 ·split
  ·exact call232
  ·split
   ·exact call234
   ·exact call237
theorem NA(k:Int):∀args w,(callFunc (Jg k) args).run Tryz.prog w= .ok (.enter (Jg k) args) w:=by
 unfold Jg;split
 ·exact call231
 ·split
  ·exact call233
  ·split
   ·exact call236
   ·exact call238
theorem NP{w:World}{q:Wht}(hs:St H w σ)(h1:RI H cU s.st)(h2:RI H cO s.wa)(hk:1≤q.kind∧q.kind≤4):
  ab8 (Jl q.kind) [.agg #[I q.kind,I q.st,I q.wa,I s.id,I s.src,cU,cO,I s.al,I s.up]] w fun v w'=>∃b:Bool,v= .bool b∧(b=true↔gx s q)∧St H w' σ:=by
 unfold Jl;split
 ·exact E9 hs h2 dv
 ·split
  ·exact E8 hs h2 dv
  ·split
   ·exact E7 hs h1 dv
   ·exact E6 hs h1 h2 ai
theorem Nz{w:World}{q:Wht}{u:Int}(hs:St H w σ)(h1:RI H cU s.st)(h2:RI H cO s.wa)(aU:fB s)(hq:gx s q)(hk:1≤q.kind∧q.kind≤4)(hi:i<s.st.length)(hkw:k<s.wa.length):
  ab8 (Jg q.kind) [.agg #[I q.kind,I q.st,I q.wa,I s.id,I s.src,cU,cO,I s.al,I s.up],.agg #[I (i:Int),I (k:Int),I u]] w fun v w'=>∃H1,HLe H H1∧v=I (mO s q i k)∧St H1 w' σ:=by
 unfold Jg;split
 ·exact yK hs h1 h2 aU hq dv hi
 ·split
  ·exact Ad hs h1 aU dv hi
  ·split
   ·exact w8 hs h2 aU dv hkw
   ·exact yJ hs ai
theorem TX{q:Wht}(h:1≤q.kind∧q.kind≤4):lD q.kind=oZ q:=by
 unfold lD;rw [if_pos h];rfl
theorem Nw{q:Wht}(h:gx s q):1≤q.kind∧q.kind≤4:=by
 rcases ru.1 h with h|h|h|h<;>omega
set_option maxHeartbeats 1000000 in
theorem nj{w:World}{q:Wht}(hs:St H w σ)(h1:RI H cU s.st)(h2:RI H cO s.wa)(aU:fB s):
  ab8 130 [.agg #[I s.id,I s.src,cU,cO,I s.al,I s.up],.agg #[I q.kind,I q.st,I q.wa]] w fun u w'=>∃H1 vl L d b en,HLe H H1∧u= .tuple #[vl,I d,.bool b]∧dj 1 vl (Is L) en∧((b=true∧gx s q∧L=mj s q∧d=oZ q)∨(b=false∧¬gx s q∧L=[]∧d=0))∧St H1 w' (en::σ):=by
 have rk:=fX aU;obtain ⟨iV,iT,rfl⟩:=RI.shape h1;obtain ⟨gX,gW,rfl⟩:=RI.shape h2;refine Cl.o func130 ntmps130 ag2 ?_;refine .af (.bx hs fun b2 w hs=>?_);refine .bx hs fun b3 w hs=>?_
 refine .z zg (.z zg (.zn zg (.cut (fun fs w=>∃b7,lr fs ⟨46,[],[(8,.bool (decide (1≤q.kind∧q.kind≤4))),(7,Pt b7),(2,Pt b2),(3,Pt b3)]⟩∧St H w (.blk b7 [lF1 q.kind,lF2 q.kind,I (lD q.kind)]:: .blk b3 [I q.kind,I q.st,I q.wa]:: .blk b2 [I s.id,I s.src,(.slice iV s.st.length iT),(.slice gX s.wa.length gW),I s.al,I s.up]::σ)) ?_ ?_)))
 ·refine .draw mix rfl hs fun w hs=>?_
  refine .zw 1 rfl (zfa ql) ?_;refine .y 2 rfl hs aj ?_;refine .e2 (i:=0) (j:=7) aD rfl rfl rfl rfl .none .none hs ?_ ?_
  ·refine .call call187 rfl (oE hs) ?_;rintro _ w ⟨nm,rfl,hs⟩;refine .go (.q (i:=3) [.obj nm (.map SQ.toArray 4)] rfl aD .none (KZ (H:= .bot) q.kind rfl rfl) ?_);refine .zw 4 rfl zm ?_;refine .z 5 rfl zex ?_;refine .z 6 rfl zex ?_;refine .E 7 hs ?_;refine .alloc hs zeroValue236 rfl ?_;intro b7 w hs;refine .go (.E 8 hs ?_);refine .aJ (vs:=[lF1 q.kind,lF2 q.kind,I (lD q.kind)]) hs rfl rfl sizeOf236 ?_ (hv:=Iu _);intro w hs;refine .go (.zw 9 rfl zg ?_);refine .D hs ?_;exact nT ⟨b7,aM,hs.sb⟩
  ·refine .alloc hs zeroValue236 rfl ?_;intro b7 w hs;refine .go (.E 0 hs ?_);refine .call call187 rfl (oE hs) ?_;rintro _ w ⟨nm,rfl,hs⟩;refine .go (.q (i:=3) [.obj nm (.map SQ.toArray 4)] rfl aD .none (KZ (H:= .bot) q.kind rfl rfl) ?_);refine .zw 4 rfl zm ?_;refine .z 5 rfl zex ?_;refine .z 6 rfl zex ?_;refine .E 8 hs ?_;refine .aJ (vs:=[lF1 q.kind,lF2 q.kind,I (lD q.kind)]) hs rfl rfl sizeOf236 ?_ (hv:=Iu _);intro w hs;refine .go (.zw 9 rfl zg ?_);refine .D hs ?_;exact nT ⟨b7,aM,hs.sb⟩
 ·rintro fs w ⟨b7,gP,hs⟩;refine WE.sub ?_ gP;refine .af (.y hs (zls [_,_,_] pa ku) (.y hs (zls [_,_,_,_,_,_] bY bq) (.z (zbd (vs:=[(0,.agg #[I q.kind,I q.st,I q.wa]),(1,.agg #[I s.id,I s.src,(.slice iV s.st.length iT),(.slice gX s.wa.length gW),I s.al,I s.up])]) [I q.kind,I q.st,I q.wa,I s.id,I s.src,(.slice iV s.st.length iT),(.slice gX s.wa.length gW),I s.al,I s.up] zx rfl aD) (.o (.alloc hs zeroValue241 rfl fun b9 w hs=>?_)))));refine .o (.aJ (vs:=[_,_,_,_,_,_,_,_,_]) hs rfl rfl Ch fun w hs=>?_);refine .nil (.seq (.af (.z zm (.z fE (.z zm (.bif (t':=24) rfl (fun pN=>?_) (fun pN=>?_)))))))
  ·refine .Fs 5 2 false (.zn zpT (.cT (.af (.z zg (.z zg (.zn zg (.ret (rT (?_)))))))));have hn:¬gx s q:=fun h=>by have:=Nw h;simp [this] at pN
   exact Fin.iG [] [] hs fun w hs=>⟨_,results3 results130 rfl rfl rfl,H,_,[],_,_,.nul,HLe.refl H,rfl,.nil 1 none,.inr ⟨rfl,hn,rfl,rfl⟩,hs.out.nul⟩
  ·refine .T ?_;have hk:1≤q.kind∧q.kind≤4:=by simpa using pN
   rw [show lF1 q.kind= .func (.func (Jl q.kind)) #[] #[] from if_pos hk,show lF2 q.kind= .func (.func (Jg q.kind)) #[] #[] from if_pos hk,TX hk] at hs;refine .z (zfa xY) (.T (.y hs (zld isAgg233) (.T (.y hs (zls [_,_,_,_,_,_,_,_,_] QD Ch) (.T (.o (.sw (first:=[]) (cap:=[]) rfl rfl (NQ q.kind) (NP (s:=s) hs h1 h2 hk) ?_)))))));rintro _ w ⟨J1,rfl,xP,hs⟩;refine .T (.z fE (.zn zpF (.cond rfl (fun qi=>?_) (fun qi=>?_))))
   ·refine .af (.z zg (.z zg (.zn zg (.ret (rT (?_))))));have hn:¬gx s q:=fun h=>by rw [xP.2 h] at qi;cases qi
    exact Fin.iG [] [] hs fun w hs=>⟨_,results3 results130 rfl rfl rfl,H,_,[],_,_,.nul,HLe.refl H,rfl,.nil 1 none,.inr ⟨rfl,hn,rfl,rfl⟩,hs.out.nul⟩
   ·refine .skip (nT (.af (.o (.buildSlice (cells:=[_]) hs dw rfl rfl fun Pp w hs=>?_))));refine .o (.alloc hs ir rfl fun pb w hs=>?_);refine .o (.store hs rfl rfl aO fun w hs=>?_);refine .nil (.seq (.af (.y hs (zls [_,_,_,_,_,_] bY bq) ?_)));have hq:gx s q:=xP.1 (by simpa using qi);refine .o (.call call131 rfl (iA (s:=s) hs h1 h2 ⟨ai,ai⟩) ?_);rintro _ w ⟨H1,ba,az,rfl,ti,hs⟩;have BC:=gY s q;refine .nil (.block ?_);refine .rangeFunc (gf:=188) (cap:=[Pt ba]) (xs:=CS s) (σb:=[.blk pb [.slice (some ⟨Pp,0,none⟩) 1 1],.blk Pp (Is [0]),.blk b7 [.func (.func (Jl q.kind)) #[] #[],.func (.func (Jg q.kind)) #[] #[],I (oZ q)],.blk b9 [I q.kind,I q.st,I q.wa,I s.id,I s.src,(.slice iV s.st.length iT),(.slice gX s.wa.length gW),I s.al,I s.up]]) (σf:=σ) (hs.sb) trivial rfl ti call188 (fun x hx=>by
      simp only [CS,List.mem_map] at hx;obtain ⟨j,_,rfl⟩:=hx;rfl) rfl
     (I:=fun p H' σb=>∃vo en,σb=[.blk pb [vo],en,.blk b7 [.func (.func (Jl q.kind)) #[] #[],.func (.func (Jg q.kind)) #[] #[],I (oZ q)],.blk b9 [I q.kind,I q.st,I q.wa,I s.id,I s.src,(.slice iV s.st.length iT),(.slice gX s.wa.length gW),I s.al,I s.up]]∧dj 1 vo (Is ((mj s q).take (p+1))) en) (Ix:=fun _ _ _=>False)
     (fun j _ _ σ g1 g2=>g2) (fun _ _ _ _ _ h=>h) ⟨_,_,rfl,.full rfl⟩ ?_ ?_ (fun D c H' σb w _ h _=>h.elim)
    ·rintro ly p hp H2 zE yI w bp ⟨vo,en,rfl,hO⟩ hs ⟨rr,Fe⟩;have Ki:p<s.many:=by rw [fp] at hp;exact hp
     have ib:p/s.wa.length<s.st.length:=Nat.div_lt_of_lt_mul (by rw [Nat.mul_comm];exact Ki);have LU:=Nat.mod_lt p rk.2.2.1;have hws:=Ac s q Ki;have A1:(mj s q)[p+1]? =some (mO s q (p/s.wa.length) (p%s.wa.length)):=by rw [←hws];exact bG ai
     rw [qn hp];obtain ⟨al,ll,cl,rfl,wS⟩:=hO.shape;generalize p/s.wa.length=i at*;generalize p%s.wa.length=k at*;refine .region (.o (.alloc hs wX rfl fun yE w hs=>?_));refine .o (.aJ (vs:=[_,_,_]) hs rfl rfl Kb fun w hs=>?_);refine .nil (nT ⟨H2,[.blk yE [I (i:Int),I (k:Int),I ((p+1:Nat):Int)],.blk pb [Value.slice al ll cl],en,.blk b7 [.func (.func (Jl q.kind)) #[] #[],.func (.func (Jg q.kind)) #[] #[],I (oZ q)],.blk b9 [I q.kind,I q.st,I q.wa,I s.id,I s.src,(.slice iV s.st.length iT),(.slice gX s.wa.length gW),I s.al,I s.up]],HLe.refl _,hs,?_⟩);rintro w uM - hs;refine .block (.draw mix rfl hs fun w hs=>?_);refine .y 0 rfl hs an ?_;refine .z 1 rfl (zfa xX) ?_;refine .zv 2 rfl hs (qf isAgg234) (.ys 3 rfl hs [_,_,_,_,_,_,_,_,_] QD Ch ?_);refine .ys 4 rfl hs [_,_,_] isAgg190 Kb ?_;refine .E 5 hs ?_;refine .sw (first:=[]) (cap:=[]) rfl rfl (NA q.kind) (Nz (s:=s) (q:=q) (i:=i) (k:=k) hs (h1.mono (az.trans bp)) (h2.mono (az.trans bp)) aU hq hk ib LU) ?_;rintro _ w ⟨H3,cZ,rfl,hs⟩;refine .go (.E 6 hs ?_);refine .buildSlice (cells:=[_]) hs dw rfl rfl ?_;intro VI w hs;refine .go (.E 7 hs ?_);refine .append (ys:=Is [mO s q i k]) hs df rfl rfl hO (.own .here rfl rfl) (ki _) (fun l h=>by simp at h;omega) ?_;intro v42 en42 w eG hs;rw [show Is ((mj s q).take (p+1))++Is [mO s q i k]=Is ((mj s q).take (p+1+1)) by rw [dX A1];simp [Is]] at eG;obtain ⟨a42,l42,c42,rfl,h42⟩:=eG.shape;refine .go (.E 8 hs ?_);refine .store hs rfl rfl aO ?_;intro w hs;exact .go (.D hs (nB ⟨H3,[.blk pb [.slice a42 l42 c42],en42,.blk b7 [.func (.func (Jl q.kind)) #[] #[],.func (.func (Jg q.kind)) #[] #[],I (oZ q)],.blk b9 [I q.kind,I q.st,I q.wa,I s.id,I s.src,(.slice iV s.st.length iT),(.slice gX s.wa.length gW),I s.al,I s.up]],cZ,(hs.sb:St H3 w (.blk pb _::en42:: .blk b7 _:: .blk b9 _::uM)),_,_,rfl,eG⟩))
    ·rintro D H2 zE w bp ⟨vo,en,rfl,hO⟩ hs;rw [fp,←BC,List.take_length] at hO;replace hs:St H2 w (.obj D (.deferred (some [])):: .blk pb [vo]::en:: .blk b7 [.func (.func (Jl q.kind)) #[] #[],.func (.func (Jg q.kind)) #[] #[],I (oZ q)]:: .blk b9 [I q.kind,I q.st,I q.wa,I s.id,I s.src,(.slice iV s.st.length iT),(.slice gX s.wa.length gW),I s.al,I s.up]::σ):=hs;obtain ⟨al,ll,cl,rfl,wS⟩:=hO.shape;refine nB (nT (.seq (.draw mix rfl hs fun w hs=>?_)));refine .y 0 rfl hs an ?_;refine .z 1 rfl (zfa xW) ?_;refine .y 2 rfl hs aj ?_;refine .z 3 rfl zg ?_;refine .z 4 rfl zg ?_;refine .z 5 rfl zg ?_;refine .D hs ?_;exact .ret (Fin.iG [D] [] hs fun w hs=>⟨_,results3 results130 rfl rfl rfl,H2,_,_,_,_,en,az.trans bp,rfl,hO,.inl ⟨rfl,hq,rfl,rfl⟩,hs.sb⟩)
theorem gS{w:World}(hs:St H w σ)(hd:1≤d)(ha: -4608000000000000000≤a∧a≤4608000000000000000):
  ab8 132 [I a,I d] w fun v w'=>v=I (a/d)∧St H w' σ:=by
 have hq: -4608000000000000000≤a.tdiv d∧a.tdiv d≤4608000000000000000:=by
  have h1:=sV (n:=a) (d:=d) ai;have h2:a/d≤4608000000000000000:=Int.ediv_le_of_le_mul ai (by
   have:=Int.mul_le_mul_of_nonneg_left hd (show (0:Int)≤4608000000000000000 by omega);omega)
  have h3: -4608000000000000000≤a/d:=Int.le_ediv_of_mul_le ai (by
   have:=Int.mul_le_mul_of_nonneg_left hd (show (0:Int)≤4608000000000000000 by omega);omega)
  by_cases h0:0≤a
  ·rw [Int.tdiv_eq_ediv_of_nonneg h0];omega
  ·split at h1
   ·have:a/d<0:=Int.ediv_neg_of_neg_of_pos ai ai;omega
   ·omega
 have B0:=sV (n:=a) (d:=d) ai;refine Cl.o func132 ntmps132 ag2 ?_;refine .af (.zn zg (.af (.z zm (.z zm (.q hs (yu rfl rfl ai ⟨ai,ai⟩) (.zn zg (.seq (.af (.z zm (.z zm (.z Gt (.zn gV (.bA rfl (fun fk=>?_) (fun fk=>?_))))))))))))))
 ·refine .region (.z zm (.z gE (.zn zg (nT (.af (.z zm (.zn zg (.ret (Fin.bu results132 rfl ?_)))))))));rw [if_pos fk] at B0;exact ⟨by rw [B0],hs⟩
 ·refine .skip (nT (.af (.z zm (.zn zg (.ret (Fin.bu results132 rfl ?_))))));rw [if_neg fk,Int.sub_zero] at B0;exact ⟨by rw [B0],hs⟩
theorem uf{w:World}{s:Srv}(hs:St H w σ)(h1:RI H cU s.sp.st)(h2:RI H cO s.sp.wa)(h3:RRd H vr s.rs)(h4:RCm H vc s.cs)(aU:ew s):
  ab8 178 [.agg #[I s.sp.id,I s.sp.src,cU,cO,I s.sp.al,I s.sp.up,vr,vc]] w fun u w'=>∃H1,∃b:Bool,HLe H H1∧u= .bool b∧(b=true↔s.sys.Sound)∧St H1 w' σ:=by
 refine Cl.o func178 ntmps178 ag1 ?_;refine .af (.bx hs fun b1 w hs=>?_);refine .zn zg (.af (.y hs (zls [_,_,_,_,_,_,_,_] bn aK) (.o (.call call133 rfl (ia (s:=s) hs h1 h2 h3 h4 aU.early) ?_))));rintro v7 w ⟨H1,az,hS,hs⟩;refine .o (.call call221 rfl (zr (s:=s.sys) hs hS) ?_);rintro _ w ⟨H2,vx,xs,e,bp,rfl,rx,hC,hs⟩;obtain ⟨ax,cx,rfl⟩:=RI.shape rx;have Yy:s.sys.check=0:=s.sys.dr.2 aU.sys;obtain rfl:e=0:=by
  cases hC with
  |bad h=>exact (h Yy).elim
  |sound=>rfl
  |chain=>rfl
 have JK:=hC.KK;refine .z zm (.z zex (.z zex (.z zg (.zn zg (.af (.z zm (.z fJ (.z zm (.ie (t':=13) rfl (fun xR=>?_) (fun xR=>?_))))))))))
 ·refine .T (.z zm (.T (.z (dk ae) (.T (.z fJ (.z zpT (.zn zg (.ret (Fin.bu results178 rfl ?_)))))))));first
  |exact ⟨H2,_,az.trans bp,rfl,by rw [←JK,decide_eq_true_eq];exact ⟨fun h=>List.length_eq_zero_iff.1 ai,fun h=>by rw [h];rfl⟩,hs.out⟩
  |exact (xR rfl).elim
 ·refine .Fs 3 2 true (.z zpF (.zn zg (.ret (Fin.bu results178 rfl ?_))));first
  |exact ⟨H2,_,az.trans bp,rfl,by rw [←JK,decide_eq_true_eq];exact ⟨fun h=>List.length_eq_zero_iff.1 ai,fun h=>by rw [h];rfl⟩,hs.out⟩
  |exact (xR rfl).elim
theorem I6(L:List Int)(j:Nat):L++List.replicate j 0++[0]=L++List.replicate (j+1) 0:=by
 rw [List.append_assoc,←List.replicate_succ']
set_option maxHeartbeats 1000000 in
theorem qD{w:World}{s:Srv}{q:Wht}(hs:St H w σ)(h1:RI H cU s.sp.st)(h2:RI H cO s.sp.wa)(h3:RRd H vr s.rs)(h4:RCm H vc s.cs)(aU:ew s):
  ab8 177 [.agg #[I s.sp.id,I s.sp.src,cU,cO,I s.sp.al,I s.sp.up,vr,vc],.agg #[I q.kind,I q.st,I q.wa]] w fun u w'=>∃H1 ul vw L d b,HLe H H1∧u= .tuple #[.agg #[I s.sys.many,ul,vw,I d],.bool b]∧RL H1 ul s.dt∧RI H1 vw L∧L.length=s.sys.n∧((b=true∧gx s.sp q∧L=s.w q∧d=oZ q)∨(b=false∧¬gx s.sp q))∧St H1 w' σ:=by
 have hn:=Dh s;have hm:=aU.many;have rk:s.sys.many+1=(s.sys.n:Int):=by rw [hn];show ((s.sp.many+s.di.length:Nat):Int)+1=_;omega
 refine Cl.o func177 ntmps177 ag2 ?_;refine .af (.bx hs fun b2 w hs=>?_);refine .bx hs fun b3 w hs=>?_
 refine .o (.alloc hs wY rfl fun b4 w hs=>?_);refine .zn zg (.af (.y hs (zls [_,_,_,_,_,_,_,_] bn aK) (.o (.call call133 rfl (ia (s:=s) hs h1 h2 h3 h4 aU.early) ?_))));rintro _ w ⟨H1,az,⟨ul,rfl,hL⟩,hs⟩;obtain ⟨al,cl,rfl⟩:=RL.shape hL;refine .o (.alloc hs fb rfl fun b6 w hs=>?_);refine .o (.aJ (vs:=[_,_]) hs rfl rfl aQ fun w hs=>?_);refine .nil (.af (.z (zfa a6) (.y hs (zls [_,_,_,_,_,_] bY bq) (.y hs (zls [_,_,_] pa ku) (.o (.call call130 rfl (nj (s:=s.sp) (q:=q) hs (h1.mono az) (h2.mono az) aU.early.1) ?_))))));rintro _ w ⟨H2,vl,L0,d,b,en,bp,rfl,hO,jk,hs⟩;have abR:L0.length≤s.sys.n:=by
  rcases jk with ⟨_,_,rfl,_⟩|⟨_,_,rfl,_⟩
  ·rw [gY,hn];omega
  ·simp
 have dO:=az.trans bp;refine .z zm (.z zex (.z zex (.z zex (.z zg (.z zg (.zn zg (.seq (.block ?_))))))));refine .loop (fun p:Nat×Value=>⟨34,[],[(7,p.2),(8,I d),(9,.bool b),(6,Pt b6),(4,Pt b4)]⟩)
  (fun p w=>L0.length+p.1≤s.sys.n∧∃en,dj 1 p.2 (Is (L0++List.replicate p.1 0)) en∧St H2 w (en:: .blk b6 [I s.sys.many,.slice al s.dt.length cl]:: .blk b4 [I 0,.slice none 0 0,.slice none 0 0,I 0]::σ)) (fun p=>s.sys.n - (L0.length+p.1)) (0,vl) aM
  ⟨by simpa using abR,en,by simpa using hO,hs.sb⟩ ?_
 clear hO hs;rintro ⟨j,vo⟩ w ⟨hj,en,hO,hs⟩;dsimp only at hj hO ⊢;obtain ⟨ao,lo,co,rfl,xH⟩:=hO.shape;have Uo:lo=L0.length+j:=by simp [Is] at xH;omega
 refine .seq (.af (.z zm (.z (dk ae) (.z (zfa cz) (.y hs (zld aj) (.z cV (.zn gV (.bA rfl (fun gv=>?_) (fun gv=>?_)))))))))
 ·refine .skip (nT (.block (.region (.z zm (.o (.buildSlice (cells:=[_]) hs dw rfl rfl fun z6 w hs=>?_))))));refine .o (.append (ys:=Is [0]) hs df rfl rfl hO (.own .here rfl rfl) (ki _) (fun l' h=>by simp [Is] at h;omega) ?_);intro v28 en28 w eG hs;rw [show Is (L0++List.replicate j 0)++Is [0]=Is (L0++List.replicate (j+1) 0) by rw [←I6];simp [Is]] at eG;exact .zn zg (nB (nT ⟨(j+1,v28),aM,⟨by dsimp only;omega,_,eG,hs.sb⟩,by dsimp only;omega⟩))
 ·refine .exit (xT (xT (xB (nT (.af (.y hs (zls [_,_] bT aQ) (.z zm (.z zm (.z (zbd [_,_,_,_] jd) (.z zm (.o (.aJ (vs:=[_,_,_,_]) hs rfl rfl iy fun w hs=>?_))))))))))));refine .zn zg (.ret ?_);have Uw:L0.length+j=s.sys.n:=by omega
  obtain ⟨H3,cZ,hR,hs⟩:=dj.eI hO (by simp;omega) hs dC;exact Fin.iG [] [] hs fun w hs=>⟨_,results2 results177 (dm (vs:=[_,_,_,_]) hs rfl HP iy) rfl,H3,_,_,_,d,b,dO.trans cZ,rfl,hL.mono (bp.trans cZ),hR,by simp;omega,by
   rcases jk with ⟨g1,g2,rfl,g3⟩|⟨g1,g2,_,_⟩
   ·refine .inl ⟨g1,g2,?_,g3⟩;rw [gY,hn] at Uw;unfold Srv.w;rw [show j=s.di.length by omega]
   ·exact .inr ⟨g1,g2⟩,hs.out⟩
inductive yi(v:Srv)(q:Wht):Int→Prop
 |bad {e:Int} (h:BF v e) (he:e≠0):yi v q e
 |what (h:ew v) (h1:¬gx v.sp q):yi v q 33
 |fls (h:ew v) (h1:gx v.sp q) (h2:¬v.sys.Sound):yi v q 35
 |ok (h:ew v) (h1:gx v.sp q) (h2:v.sys.Sound):yi v q 0
theorem yi.zero{v:Srv}{q:Wht}(h:yi v q 0):ew v∧gx v.sp q∧v.sys.Sound:=by
 generalize hz:(0:Int)=z at h
 cases h with
 |bad h he=>exact (he hz.symm).elim
 |what=>omega
 |fls=>omega
 |ok h h1 h2=>exact ⟨h,h1,h2⟩
theorem yi.qty{v:Srv}{q:Wht}(h:yi v q e)(he:e≠0):HC v q 0 0 e:=by
 cases h with
 |bad h he=>exact .bad h he
 |what h h1=>exact .what h h1
 |fls h h1 h2=>exact .fls h h1 h2
 |ok=>exact (he rfl).elim
set_option maxHeartbeats 1000000 in
theorem oF{w:World}{s:Srv}{q:Wht}(hs:St H w σ)(h1:RI H cU s.sp.st)(h2:RI H cO s.sp.wa)(h3:RRd H vr s.rs)(h4:RCm H vc s.cs):
  ab8 125 [.agg #[I s.sp.id,I s.sp.src,cU,cO,I s.sp.al,I s.sp.up,vr,vc],.agg #[I q.kind,I q.st,I q.wa]] w fun u w'=>∃H1 m ul vw d e,HLe H H1∧u= .tuple #[.agg #[I m,ul,vw,I d],I e]∧(∃a l c,ul= .slice a l c)∧(∃a l c,vw= .slice a l c)∧yi s q e∧(e=0→m=s.sys.many∧RL H1 ul s.dt∧RI H1 vw (s.w q)∧d=oZ q)∧St H1 w' σ:=by
 refine Cl.o func125 ntmps125 ag2 ?_;refine .af (.bx hs fun b2 w hs=>?_);refine .bx hs fun b3 w hs=>?_
 refine .o (.alloc hs wY rfl fun b4 w hs=>?_);refine .zn zg (.seq (.af (.y hs (zls [_,_,_,_,_,_,_,_] bn aK) (.o (.call aaq rfl (fj (s:=s) hs h1 h2 h3 h4) ?_)))));rintro _ w ⟨H1,e,az,rfl,hC,hs⟩;refine .zn zg (.af (.z zm (.zn fU (.dK rfl (fun fk=>?_) (fun fk=>?_)))))
 ·refine .af (.z (zbd [_,_,_,_] jd) (.z zm (.o (.aJ (vs:=[_,_,_,_]) hs rfl rfl iy fun w hs=>?_))));exact .zn zg (.ret (rT ((Fin.iG [] [] hs fun w hs=>⟨_,results2 results125 (dm (vs:=[_,_,_,_]) hs rfl HP iy) rfl,H1,_,_,_,_,e,az,rfl,⟨_,_,_,rfl⟩,⟨_,_,_,rfl⟩,.bad hC fk,fun h=>(fk h).elim,hs.out⟩))))
 ·refine .skip (nT (.af (.y hs (zls [_,_,_,_,_,_,_,_] bn aK) (.y hs (zls [_,_,_] pa ku) ?_))));have aU:ew s:=hC.dr.1 (by simpa using fk);refine .o (.call call177 rfl (qD (s:=s) (q:=q) hs (h1.mono az) (h2.mono az) (h3.mono az) (h4.mono az) aU) ?_);rintro _ w ⟨H2,ul,vw,L,d,b,bp,rfl,hL,hR,Vi,jk,hs⟩;have dO:=az.trans bp;obtain ⟨al,cl,rfl⟩:=RL.shape hL;obtain ⟨aw,cw,rfl⟩:=RI.shape hR;refine .z zm (.z zex (.z zex (.o (.alloc hs wY rfl fun b7 w hs=>?_))));refine .o (.aJ (vs:=[_,_,_,_]) hs rfl rfl iy fun w hs=>?_);refine .zn zg (.seq (.block (.af (.z zm (.z fE (.zn zg (.cond rfl (fun jx=>?_) (fun jx=>?_))))))))
  ·refine .af (.z (zbd [_,_,_,_] jd) (.o (.aJ (vs:=[_,_,_,_]) hs rfl rfl iy fun w hs=>?_)));refine .zn zg (.ret (rB (rT (?_))));have hq:¬gx s.sp q:=by
    rcases jk with ⟨g,_⟩|⟨_,g⟩
    ·subst g;cases jx
    ·exact g
   exact Fin.iG [] [] hs fun w hs=>⟨_,results2 results125 (dm (vs:=[_,_,_,_]) hs rfl HP iy) rfl,H2,_,_,_,_,_,dO,rfl,⟨_,_,_,rfl⟩,⟨_,_,_,rfl⟩,.what aU hq,fun h=>by omega,hs.out⟩
  ·refine .af (.y hs (zls [_,_,_,_,_,_,_,_] bn aK) ?_);obtain ⟨rfl,hq,rfl,rfl⟩:b=true∧gx s.sp q∧L=s.w q∧d=oZ q:=jk.resolve_right fun h=>by rw [h.1] at jx;cases jx
   refine .o (.call call178 rfl (uf (s:=s) hs (h1.mono dO) (h2.mono dO) (h3.mono dO) (h4.mono dO) aU) ?_);rintro _ w ⟨H3,z6,cZ,rfl,we,hs⟩;refine .z fE (.zn zg (.cond rfl (fun gv=>?_) (fun gv=>?_)))
   ·refine .af (.z (zbd [_,_,_,_] jd) (.o (.aJ (vs:=[_,_,_,_]) hs rfl rfl iy fun w hs=>?_)));exact .zn zg (.ret (rB (rT ((Fin.iG [] [] hs fun w hs=>⟨_,results2 results125 (dm (vs:=[_,_,_,_]) hs rfl HP iy) rfl,H3,_,_,_,_,_,dO.trans cZ,rfl,⟨_,_,_,rfl⟩,⟨_,_,_,rfl⟩,.fls aU hq (fun h=>by rw [we.2 h] at gv;cases gv),fun h=>by omega,hs.out⟩)))))
   ·refine .skip (nB (nT (.af (.y hs (zls [_,_,_,_] HP iy) (.o (.aJ (vs:=[_,_,_,_]) hs rfl rfl iy fun w hs=>?_))))));exact .zn zg (.ret (Fin.iG [] [] hs fun w hs=>⟨_,results2 results125 (dm (vs:=[_,_,_,_]) hs rfl HP iy) rfl,H3,_,_,_,_,_,dO.trans cZ,rfl,⟨_,_,_,rfl⟩,⟨_,_,_,rfl⟩,.ok aU hq (we.1 (by simpa using gv)),fun _=>⟨rfl,hL.mono cZ,hR.mono cZ,rfl⟩,hs.out⟩))
set_option maxHeartbeats 1000000 in
theorem vF{w:World}{s:Srv}{q:Wht}(hs:St H w σ)(h1:RI H cU s.sp.st)(h2:RI H cO s.sp.wa)(h3:RRd H vr s.rs)(h4:RCm H vc s.cs):
  ab8 174 [.agg #[I s.sp.id,I s.sp.src,cU,cO,I s.sp.al,I s.sp.up,vr,vc],.agg #[I q.kind,I q.st,I q.wa]] w fun u w'=>∃H1 lo hi e,HLe H H1∧u= .tuple #[.agg #[I lo,I hi],I e]∧HC s q lo hi e∧St H1 w' σ:=by
 refine Cl.o func174 ntmps174 ag2 ?_;refine .af (.bx hs fun b2 w hs=>?_);refine .bx hs fun b3 w hs=>?_
 refine .o (.alloc hs dy rfl fun b4 w hs=>?_);refine .zn zg (.af (.y hs (zls [_,_,_,_,_,_,_,_] bn aK) (.y hs (zls [_,_,_] pa ku) (.o (.call call125 rfl (oF (s:=s) (q:=q) hs h1 h2 h3 h4) ?_)))));rintro _ w ⟨H1,m,ul,vw,d,e,az,rfl,⟨al,ll,cl,rfl⟩,⟨aw,lw,cw,rfl⟩,hA,OZ,hs⟩;refine .z zm (.z zex (.z zex (.o (.alloc hs wY rfl fun b6 w hs=>?_))));refine .o (.aJ (vs:=[_,_,_,_]) hs rfl rfl iy fun w hs=>?_);refine .zn zg (.seq (.af (.z zm (.zn fU (.dK rfl (fun i7=>?_) (fun i7=>?_))))))
 ·refine .af (.z (zbd [_,_] bL) (.z zm (.o (.aJ (vs:=[_,_]) hs rfl rfl aH fun w hs=>?_))));exact .zn zg (.ret (rT ((Fin.iG [] [] hs fun w hs=>⟨_,results2 results174 (dm (vs:=[_,_]) hs rfl cE aH) rfl,H1,_,_,_,az,rfl,hA.qty i7,hs.out⟩))))
 ·refine .skip (nT (.af (.z (zfa j7) (.y hs (zls [_,_] bT aQ) (.z (zfa mF) (.y hs (zld an) ?_))))));obtain rfl:e=0:=by simpa using i7
  obtain ⟨rfl,hL,hR,rfl⟩:=OZ rfl;obtain ⟨aU,hq,uN⟩:=hA.zero;refine .o (.call call219 rfl (zp (s:=s.sys) hs ⟨_,rfl,hL⟩ hR) ?_);rintro _ w ⟨H2,lo,hi,f,bp,rfl,Nl,hs⟩;obtain rfl:=wv (aU.ask hq) uN (fun b=>s.both) Nl;have zR:=Nl.bd;have RE:=wk q;refine .z zm (.z zex (.z zex (.z zex (.z zg (.z zg (.zn zg (.seq (.af (.z zm (.zn fU (.dK rfl (fun qi=>?_) (fun qi=>?_))))))))))))
  ·refine .af (.z (zbd [_,_] bL) (.z zm (.o (.aJ (vs:=[_,_]) hs rfl rfl aH fun w hs=>?_))));exact .zn zg (.ret (rT (((qi rfl).elim))))
  ·refine .skip (nT (.seq (.draw mix rfl hs fun w hs=>?_)));refine .zw 0 rfl zm ?_;refine .z 1 rfl (zfa fY) ?_;refine .y 2 rfl hs aj ?_;refine .z 4 rfl zm ?_;refine .z 5 rfl (zfa fY) ?_;refine .y 6 rfl hs aj ?_;refine .E 3 hs ?_;refine .call call132 rfl (gS hs ai ai) ?_;rintro _ w ⟨rfl,hs⟩;refine .go (.E 7 hs ?_);refine .call call132 rfl (gS hs ai ai) ?_;rintro _ w ⟨rfl,hs⟩;refine .go (.zw 8 rfl (zbd [_,_] bL) (.E 9 hs ?_));refine .aJ (vs:=[_,_]) hs rfl rfl aH ?_;intro w hs;refine .go (.zw 10 rfl zg ?_);refine .D hs ?_;exact .ret (Fin.iG [] [] hs fun w hs=>⟨_,results2 results174 (dm (vs:=[_,_]) hs rfl cE aH) rfl,H2,_,_,_,az.trans bp,rfl,.ok aU hq uN Nl,hs.out⟩)
inductive Ja(v:Srv)(out:List Int):Int→Prop
 |bad {e:Int} (h:BF v e) (he:e≠0) (h1:out=[]):Ja v out e
 |ok {e:Int} (h:ew v) (h1:HJ v.sys out e):Ja v out e
theorem vE{w:World}{s:Srv}(hs:St H w σ)(h1:RI H cU s.sp.st)(h2:RI H cO s.sp.wa)(h3:RRd H vr s.rs)(h4:RCm H vc s.cs):
  ab8 175 [.agg #[I s.sp.id,I s.sp.src,cU,cO,I s.sp.al,I s.sp.up,vr,vc]] w fun u w'=>∃H1 vx out e,HLe H H1∧u= .tuple #[vx,I e]∧RI H1 vx out∧Ja s out e∧St H1 w' σ:=by
 refine Cl.o func175 ntmps175 ag1 ?_;refine .af (.bx hs fun b1 w hs=>?_);refine .z zg (.zn zg (.seq (.af (.y hs (zls [_,_,_,_,_,_,_,_] bn aK) (.o (.call aaq rfl (fj (s:=s) hs h1 h2 h3 h4) ?_))))));rintro _ w ⟨H1,e,az,rfl,hC,hs⟩;refine .zn zg (.af (.z zm (.zn fU (.dK rfl (fun mB=>?_) (fun mB=>?_)))))
 ·exact .af (.z zm (.z zg (.zn zg (.ret (rT (Fin.iz results175 rfl rfl ⟨H1,_,[],_,az,rfl,RS.nil H1 1 none 0,.bad hC mB rfl,hs.out⟩))))))
 ·refine .skip (nT (.af (.y hs (zls [_,_,_,_,_,_,_,_] bn aK) ?_)));have aU:ew s:=hC.dr.1 (by simpa using mB);refine .o (.call call133 rfl (ia (s:=s) hs (h1.mono az) (h2.mono az) (h3.mono az) (h4.mono az) aU.early) ?_);rintro v14 w ⟨H2,bp,hS,hs⟩;refine .o (.call call220 rfl (uE (s:=s.sys) hs hS) ?_);rintro _ w ⟨H3,vx,out,f,cZ,rfl,hR,hCf,hs⟩;exact .z zm (.z zex (.z zex (.z zg (.zn zg (.af (.z zm (.z zm (.z zg (.zn zg (.ret (Fin.iz results175 rfl rfl ⟨H3,_,out,_,az.trans (bp.trans cZ),rfl,hR,.ok aU hCf,hs.out⟩)))))))))))
theorem rF{w:World}{v:Value}{rs:List (List Int)}(q:List Int→Prop)(hs:St H w σ)(hR:RT H v rs)(hl:rs.length≤9223372036854775807)(hc:∀args w,(callFunc g args).run Tryz.prog w= .ok (.enter g args) w)
  (hp:∀H' w σ r u,HLe H H'→RI H' u r→St H' w σ→ab8 g ([u]++cap) w fun z w'=>∃H1 b,HLe H' H1∧z= .bool b∧(b=true↔q r)∧St H1 w' σ):
  ab8 227 [v,.func (.func g) #[] cap.toArray] w fun u w'=>∃H1 i,HLe H H1∧u=I i∧(0≤i↔∃x∈rs,q x)∧St H1 w' σ:=by
 obtain ⟨a,c,rfl⟩:=hR.shape;refine Cl.o func227 ntmps227 ag2 ?_;refine .af (.zn zg (.seq (.af (.z zm (.z (dk aC) (.zn zm (.for (N:=rs.length) (J:=fun k fr w=>fr=[(1,.func (.func g) #[] cap.toArray),(0,.slice a rs.length c)]∧∃H1,HLe H H1∧(∀j<k,∀y,rs[j]? =some y→¬q y)∧St H1 w σ) ai ?_ ?_ ?_)))))))
 ·exact .mk ⟨rfl,H,HLe.refl H,fun j hj=>by omega,hs⟩
 ·rintro k fr w hk ⟨rfl,H1,az,fa,hs⟩;have hx:=yA (rs:=rs) hk;refine .block (.af (.z zm (.zn zg (.af (.z zm (.z zm (.z zm (.ixT hs (hR.mono az) rfl rfl aC aO (show k<_ by omega) dp ?_))))))));intro sF o14 a14 c14 kE Zk;refine .q hs (aF rfl an kE) (.o (.sw (first:=[]) (cap:=cap) rfl rfl hc (hp _ _ _ (gr rs k) _ az Zk hs) ?_));rintro _ w ⟨H2,nD,bp,rfl,sc,hs⟩;refine .nil (.cond rfl (fun dY=>?_) (fun dY=>?_))
  ·exact .af (.z zm (.zn zg (.ret (rB (rT (rB (rT (Fin.bu results227 rfl ⟨H2,_,az.trans bp,rfl,⟨fun _=>⟨_,List.mem_of_getElem? hx,sc.1 dY⟩,fun _=>by omega⟩,hs⟩))))))))
  ·exact .skip (nB (nT (.mk ⟨rfl,H2,az.trans bp,fW fa hx (fun h=>by rw [sc.2 h] at dY;cases dY),hs⟩)))
 ·rintro fr w ⟨rfl,H1,az,fa,hs⟩;refine nT (.af (.zn zg (.ret (Fin.bu results227 rfl ?_))));exact ⟨H1,_,az,rfl,⟨fun h=>by omega,fun ⟨x,h1,h2⟩=>by
   obtain ⟨j,hj⟩:=List.getElem?_of_mem h1;exact (fa j (List.getElem?_eq_some_iff.1 hj).1 x hj h2).elim⟩,hs⟩
theorem pv{w:World}{v:Value}{rs:List (List Int)}(q:List Int→Prop)(hs:St H w σ)(hR:RT H v rs)(hl:rs.length≤9223372036854775807)(hc:∀args w,(callFunc g args).run Tryz.prog w= .ok (.enter g args) w)
  (hp:∀H' w σ r u,HLe H H'→RI H' u r→St H' w σ→ab8 g ([u]++cap) w fun z w'=>∃H1 b,HLe H' H1∧z= .bool b∧(b=true↔q r)∧St H1 w' σ):
  ab8 183 [v,.func (.func g) #[] cap.toArray] w fun u w'=>∃H1 b,HLe H H1∧u= .bool b∧(b=true↔∃x∈rs,q x)∧St H1 w' σ:=by
 refine Cl.o func183 ntmps183 ag2 ?_;refine .af (.zn zg (.af (.z zm (.z zm (.o (.call call227 rfl (rF q hs hR hl hc hp) ?_))))));rintro _ w ⟨H1,i,az,rfl,hi,hs⟩;exact .z tN (.zn zg (.ret (Fin.bu results183 rfl ⟨H1,_,az,rfl,by simp only [decide_eq_true_eq];exact hi,hs⟩)))
theorem AY{w:World}{n:Int}(hs:St H w σ):
  ab8 186 [I n] w fun u w'=>u= .bool (!decide (0≤n∧n≤20000))∧St H w' σ:=by
 refine Cl.o func186 ntmps186 ag1 ?_;refine .af (.zn zg (.af (.z zm (.o (.call jP rfl (bP hs) ?_)))));rintro _ w ⟨rfl,hs⟩;exact .z fE (.zn zg (.ret (Fin.bu results186 rfl ⟨rfl,hs⟩)))
theorem DF{w:World}{v:Value}{r:List Int}(hs:St H w σ)(hb:Row H b [I s.id,I s.src,cU,cO,I s.al,I s.up])(h2:RI H cO s.wa)(hr:RI H v r):
  ab8 184 [v,Pt b] w fun u w'=>∃H1 bb,HLe H H1∧u= .bool bb∧(bb=true↔¬(r.length=s.wa.length∧∀x∈r,0≤x∧x≤20000))∧St H1 w' σ:=by
 obtain ⟨a,c,rfl⟩:=RI.shape hr;obtain ⟨gX,gW,rfl⟩:=RI.shape h2;have S9:=hb.at 3;refine Cl.o func184 ntmps184 ag2 ?_;refine .af (.zn zg (.af (.z zm (.z (dk ae) (.z (zfa aZ) (.y hs (zld an) (.z (dk ae) (.z fU (.z zm (.F1 (t':=10) rfl (fun pO=>?_) (fun pO=>?_)))))))))))
 ·exact .Fs 2 6 false (.z zpT (.zn zg (.ret (Fin.bu results184 rfl ⟨H,true,HLe.refl H,rfl,⟨fun _ h=>by have:=h.1;simp_all,fun _=>rfl⟩,hs⟩))))
 ·refine .T (.z zm (.T (.o (.call call185 rfl (oP (g:=186) (cap:=[]) (fun n=>¬(0≤n∧n≤20000)) hs hr call186 (fun H' w σ n _ _ hs=>(AY hs).mono fun u w' ⟨g1,g2⟩=>⟨H',_,HLe.refl _,g1,by simp;omega,g2⟩)) ?_))));rintro _ w ⟨H1,En,az,rfl,Mr,hs⟩;refine .z zpF (.zn zg (.ret (Fin.bu results184 rfl ?_)));have hlen:r.length=s.wa.length:=by simp_all;omega
  exact ⟨H1,_,az,rfl,by
   rw [Mr];constructor
   ·rintro ⟨x,h1,h2⟩ h;exact h2 (h.2 x h1)
   ·intro h;refine Classical.byContradiction fun hn=>h ⟨hlen,fun x hx=>Classical.byContradiction fun hx'=>hn ⟨x,hx,hx'⟩⟩,hs⟩
theorem Oy:oh s rows↔rows.length=s.st.length∧∀r∈rows,r.length=s.wa.length∧∀x∈r,0≤x∧x≤20000:=by
 constructor
 ·rintro ⟨h1,h2,h3⟩;refine ⟨h1,fun r hr=>?_⟩;obtain ⟨i,hi⟩:=List.getElem?_of_mem hr;have qL:=(List.getElem?_eq_some_iff.1 hi).1;have hg:=yA qL;rw [hi] at hg;obtain rfl:=Option.some.inj hg;have hl:=h2 i ai;refine ⟨hl,fun x hx=>?_⟩;obtain ⟨k,hk⟩:=List.getElem?_of_mem hx;have pV:=(List.getElem?_eq_some_iff.1 hk).1;have UB:=bG pV;rw [hk] at UB;obtain rfl:=Option.some.inj UB;exact h3 i ai k ai
 ·rintro ⟨h1,h2⟩;have hm:∀i<s.st.length,gr rows i∈rows:=fun i hi=>List.mem_of_getElem? (yA ai)
  refine ⟨h1,fun i hi=>(h2 _ (hm i hi)).1,fun i hi k hk=>?_⟩;have hl:=(h2 _ (hm i hi)).1;exact (h2 _ (hm i hi)).2 _ (List.mem_of_getElem? (bG ai))
theorem nN{w:World}(hs:St H w σ)(h1:RI H cU s.st)(h2:RI H cO s.wa)(hr:RT H vh rows):
  ab8 129 [.agg #[I s.id,I s.src,cU,cO,I s.al,I s.up],.agg #[vh]] w fun u w'=>∃H1 b,HLe H H1∧u= .bool b∧(b=true↔oh s rows)∧St H1 w' σ:=by
 obtain ⟨iV,iT,rfl⟩:=RI.shape h1;obtain ⟨gX,gW,rfl⟩:=RI.shape h2;obtain ⟨ah,ch,rfl⟩:=hr.shape;have Ff:=(hr.len).2.2;refine Cl.o func129 ntmps129 ag2 ?_;refine .af (.bx hs fun b2 w hs=>?_);refine .bx hs fun b3 w hs=>?_
 refine .zn zg (.af (.z (zfa nx) (.y hs (zld aao) (.z (dk aC) (.z (zfa bV) (.y hs (zld an) (.z (dk ae) (.z fJ (.z zm (.ie (t':=12) rfl (fun Mr=>?_) (fun Mr=>?_)))))))))))
 ·refine .T (.z (zfa nx) (.T (.y hs (zld aao) (.T (.q hs (dZ (f:=[]) (c:=[_]) rfl rfl) (.T ?_))))));obtain ⟨H0,gq,BD,hs⟩:=hs.dn (b:=b2) dC;refine .o (.call call183 rfl (pv (g:=184) (cap:=[Pt b2]) (fun r=>¬(r.length=s.wa.length∧∀x∈r,0≤x∧x≤20000)) hs (hr.mono gq) Ff call184 (fun H' w σ r u hle hu hs=>DF (s:=s) hs (BD.mono hle) (h2.mono (gq.trans hle)) hu)) ?_);rintro _ w ⟨H1,nD,az,rfl,sc,hs⟩;refine .T (.z fE (.z zpT (.zn zg (.ret (Fin.bu results129 rfl ?_)))));exact ⟨H1,_,gq.trans az,rfl,by
   rw [Oy];have hlen:rows.length=s.st.length:=by omega
   cases DM:nD with
   |true=>
    obtain ⟨x,hx,hn⟩:=sc.1 DM;exact ⟨fun h=>(by cases h),fun h=>(hn (h.2 x hx)).elim⟩
   |false=>exact ⟨fun _=>⟨hlen,fun r hr=>Classical.byContradiction fun hn=>by rw [sc.2 ⟨r,hr,hn⟩] at DM;cases DM⟩,fun _=>rfl⟩,hs.out⟩
 ·exact .Fs 5 7 true (.z zpF (.zn zg (.ret (Fin.bu results129 rfl ⟨H,_,HLe.refl H,rfl,⟨fun h=>(by cases h),fun h=>by have:=h.len;omega⟩,hs.out⟩))))
set_option maxHeartbeats 1000000 in
theorem vC{w:World}{q:Wht}(hs:St H w σ)(h1:RI H cU s.st)(h2:RI H cO s.wa)(hr:RT H vh rows):
  ab8 64 [.agg #[I s.id,I s.src,cU,cO,I s.al,I s.up],.agg #[vh],.agg #[I q.kind,I q.st,I q.wa]] w fun u w'=>∃H1 n e,HLe H H1∧u= .tuple #[I n,I e]∧zA s rows q n e∧St H1 w' σ:=by
 obtain ⟨ah,ch,rfl⟩:=hr.shape;refine Cl.o func64 ntmps64 ag3 ?_;refine .af (.bx hs fun b3 w hs=>?_);refine .bx hs fun b4 w hs=>?_
 refine .bx hs fun b5 w hs=>?_
 refine .z zg (.zn zg (.seq (.af (.y hs (zls [_,_,_,_,_,_] bY bq) (.o (.call call111 rfl (lG (s:=s) hs h1 h2) ?_))))));rintro _ w ⟨H1,e,az,rfl,he,hs⟩;refine .zn zg (.af (.z zm (.zn fU (.dK rfl (fun i7=>?_) (fun i7=>?_)))))
 ·refine .af (.z zm (.z zg (.zn zg (.ret (rT (?_))))));have hq:¬fB s∧e=30:=he.resolve_left fun h=>i7 h.2
  exact Fin.iG [] [] hs fun w hs=>⟨_,results2 results64 rfl rfl,H1,_,_,az,rfl,by rw [hq.2];exact .space hq.1,hs.out⟩
 ·refine .skip (nT (.seq (.af (.y hs (zls [_,_,_,_,_,_] bY bq) (.y hs (zls [_] isAgg64 sizeOf64) ?_)))));have aU:fB s:=(he.resolve_right fun h=>by omega).1;have rk:=fX aU;refine .o (.call call129 rfl (nN (s:=s) hs (h1.mono az) (h2.mono az) (hr.mono az)) ?_);rintro _ w ⟨H2,wV,bp,rfl,xQ,hs⟩;have dO:=az.trans bp;refine .zn fE (.cond rfl (fun jV=>?_) (fun jV=>?_))
  ·exact .af (.z zg (.zn zg (.ret (rT ((Fin.iG [] [] hs fun w hs=>⟨_,results2 results64 rfl rfl,H2,_,_,dO,rfl,.hull aU (fun h=>by rw [xQ.2 h] at jV;cases jV),hs.out⟩))))))
  ·refine .skip (nT (.af (.y hs (zls [_,_,_,_,_,_] bY bq) (.y hs (zls [_,_,_] pa ku) ?_))));have hh:oh s rows:=xQ.1 (by simpa using jV);refine .o (.call call130 rfl (nj (s:=s) (q:=q) hs (h1.mono dO) (h2.mono dO) aU) ?_);rintro _ w ⟨H3,vl,L,d,b,en,cZ,rfl,hO,jk,hs⟩;have gK:=dO.trans cZ;obtain ⟨al,cl,rfl⟩:=hO.HX;refine .z zm (.z zex (.z zex (.z zex (.o (.alloc hs ir rfl fun b9 w hs=>?_)))));refine .o (.store hs rfl rfl aO fun w hs=>?_);refine .z zg (.zn zg (.seq (.af (.z zm (.zn fE (.cond rfl (fun oU=>?_) (fun oU=>?_)))))))
   ·refine .af (.z zg (.zn zg (.ret (rT (?_)))));have hq:¬gx s q:=by
     rcases jk with ⟨g,_⟩|⟨_,g,_⟩
     ·subst g;cases oU
     ·exact g
    exact Fin.iG [] [] hs fun w hs=>⟨_,results2 results64 rfl rfl,H3,_,_,gK,rfl,.what aU hh hq,hs.out⟩
   ·refine .skip (nT (.af (.o (.alloc hs dA rfl fun En w hs=>?_))));refine .o (.store hs rfl rfl ak fun w hs=>?_);refine .nil (.seq (.af (.y hs (zls [_,_,_,_,_,_] bY bq) ?_)));obtain ⟨rfl,hq,rfl,rfl⟩:b=true∧gx s q∧L=mj s q∧d=oZ q:=jk.resolve_right fun h=>by rw [h.1] at oU;cases oU
    have BC:=gY s q;obtain ⟨H4,gj,hW,hs⟩:=dj.eI hO ai hs dC;have kI:=gK.trans gj;refine .o (.call call131 rfl (iA (s:=s) hs (h1.mono kI) (h2.mono kI) ⟨ai,ai⟩) ?_);rintro _ w ⟨H5,ba,lk,rfl,ti,hs⟩;have IB:=kI.trans lk;replace hW:=hW.mono lk;have XQ:=hr.mono IB;refine .nil (.block ?_);refine .rangeFunc (gf:=188) (cap:=[Pt ba]) (xs:=CS s) (σb:=[.blk En [I (lJ s q rows 0)],.blk b9 [.slice al (mj s q).length cl],.blk b4 [.slice ah rows.length ch]]) (σf:=σ) (hs.sb) trivial rfl ti call188 (fun x hx=>by
      simp only [CS,List.mem_map] at hx;obtain ⟨j,_,rfl⟩:=hx;rfl) rfl
     (I:=fun p H' σb=>σb=[.blk En [I (lJ s q rows p)],.blk b9 [.slice al (mj s q).length cl],.blk b4 [.slice ah rows.length ch]]) (Ix:=fun _ _ _=>False)
     (fun j _ _ σ g1 g2=>g2) (fun _ _ _ _ _ h=>h) rfl ?_ ?_ (fun D c H' σb w _ h _=>h.elim)
    ·rintro ly p hp H6 zE yI w zf rfl hs ⟨rr,Fe⟩;have Ki:p<s.many:=by rw [fp] at hp;exact hp
     have ib:p/s.wa.length<s.st.length:=Nat.div_lt_of_lt_mul (by rw [Nat.mul_comm];exact Ki);have LU:=Nat.mod_lt p rk.2.2.1;have qK:lJ s q rows (p+1)=lJ s q rows p+gi (mj s q) (p+1)*gt rows (p/s.wa.length) (p%s.wa.length):=rfl;have FE:=pI aU hq hh p ai;have Ej:=pI aU hq hh (p+1) ai;have hwz:=pj aU hq;have hwz2:=kO (mj s q) (v:=p+1) (n:=s.many+1) ai;have zd:=hh.num _ ib _ LU;have uv:=hh.row _ ib;have Uh:=hh.len;have XU:=lH (a:=gi (mj s q) (p+1)) (b:=gt rows (p/s.wa.length) (p%s.wa.length)) (A:=3456000000000) (B:=20000) ai ai;have S4:gt rows (p/s.wa.length) (p%s.wa.length)=gi (gr rows (p/s.wa.length)) (p%s.wa.length):=rfl;rw [qn hp];generalize p/s.wa.length=i at*;generalize p%s.wa.length=k at*;rw [S4] at qK XU zd;refine .region (.o (.alloc hs wX rfl fun nm w hs=>?_));refine .o (.aJ (vs:=[_,_,_]) hs rfl rfl Kb fun w hs=>?_);refine .nil (nT ⟨H6,[.blk nm [I (i:Int),I (k:Int),I ((p+1:Nat):Int)],.blk En [I (lJ s q rows p)],.blk b9 [.slice al (mj s q).length cl],.blk b4 [.slice ah rows.length ch]],HLe.refl _,hs,?_⟩);rintro w uM - hs;refine .block (.draw mix rfl hs fun w hs=>?_);refine .y 0 rfl hs aj ?_;refine .y 1 rfl hs an ?_;refine .z 2 rfl (zfa fH) ?_;refine .y 3 rfl hs aj ?_;refine .ixX (enc:=fun x=>[I x]) (i:=4) hs rfl aD .none (hW.mono zf) rfl rfl ae ak (bG (l:=(mj s q)) (i:=(p+1)) ai) dp ?_;intro SA o39 kq;replace kq:=bJ.one kq;refine .r (i:=5) hs rfl aD .none (aF rfl aj kq) ?_;refine .zw 6 rfl (zfa nx) ?_;refine .y 7 rfl hs aao ?_;refine .z 8 rfl (zfa eo) ?_;refine .y 9 rfl hs aj ?_;refine .ixT (i:=10) hs rfl aD .none (XQ.mono zf) rfl rfl aC aO (show i<_ by omega) dp ?_;intro ZL o45 a45 c45 zi Zf;refine .r (i:=11) hs rfl aD .none (aF rfl an zi) ?_;refine .zw 12 rfl (zfa dM) ?_;refine .y 13 rfl hs aj ?_;refine .ixX (enc:=fun x=>[I x]) (i:=14) hs rfl aD .none Zf rfl rfl ae ak (bG (l:=(gr rows i)) (i:=k) ai) dp ?_;intro ZK o49 xL;replace xL:=bJ.one xL;refine .r (i:=15) hs rfl aD .none (aF rfl aj xL) ?_;refine .zw 16 rfl la ?_;refine .z 17 rfl cV ?_;refine .E 18 hs ?_;refine .store hs rfl rfl ak ?_;intro w hs;exact .go (.D hs (nB ⟨H6,[.blk En [I (lJ s q rows (p+1))],.blk b9 [.slice al (mj s q).length cl],.blk b4 [.slice ah rows.length ch]],HLe.refl _,by rw [qK];exact (hs.sb:St H6 w (.blk En _:: .blk b9 _:: .blk b4 _::uM)),rfl⟩))
    ·rintro D H6 zE w zf rfl hs;rw [fp] at hs;replace hs:St H6 w (.obj D (.deferred (some [])):: .blk En [I (lJ s q rows s.many)]:: .blk b9 [.slice al (mj s q).length cl]:: .blk b4 [.slice ah rows.length ch]::σ):=hs;have zR:=pI aU hq hh s.many ai;have RE:=wk q;refine nB (nT (.af (.y hs (zld aj) (.z zm (.o (.call call132 rfl (gS hs ai ai) ?_))))));rintro _ w ⟨rfl,hs⟩;exact .z zg (.zn zg (.ret (Fin.iG [D] [] hs fun w hs=>⟨_,results2 results64 rfl rfl,H6,_,_,IB.trans zf,rfl,.ok aU hh hq,hs.out⟩)))
end Go.Proofs.YteajddicacjkhaaGreat
