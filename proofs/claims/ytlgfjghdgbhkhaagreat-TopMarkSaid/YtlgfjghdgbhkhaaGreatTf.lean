/-
  Texts of these claims, joined: Uj Sq.
-/
import Derived.Test.YtlgfjghdgbhkhaaGreatTe
namespace Go.Proofs.YtlgfjghdgbhkhaaGreat
open Go.MW Tryz
variable{H:bB}{σ:List Ent}{a0 a1 a2 x most a hi lo j f e known fl id number:Int}{l:Lns}{ls:List Lim}{g b k b1 bf bt bl cl i bm bc bn:Nat}{cap sp:List Value}{s:Srv}{xs lf ws bs L X Y cn ks days:List Int}{en:Ent}{ts:List TD}{vl vt vd vp vw vb vx v1 v2 vr vc d vh vs v5 v4 fu b' tap dn b2 c2 d2:Value}{m:Rng}{t:TD}{rows:List (List Int)}{high th:Bool}{kd:Int→Int}
theorem Qx{v w:Srv}(rj:v.sp=w.sp)(hk:∀g f,Kp w g f→Kp v g f){q:Wht}{a b c d:Int}(h3:Fc v q a b 0)(h4:Fc w q c d 0):a≤c∧d≤b:=by
 obtain ⟨a1,b1,rfl,rfl,o1,_,PH⟩:=B6 h3;obtain ⟨a2,b2,rfl,rfl,o2,_,PG⟩:=B6 h4;have q1:=PH.U3 o1.early;obtain ⟨⟨g,f,c1,c2⟩,⟨g',f',c3,c4⟩,-⟩:=PG.U3 o2.early;have x:=q1.all _ _ (hk _ _ c1);have y:=q1.all _ _ (hk _ _ c3);rw [rj] at x y;have hd:=yi q;exact ⟨Int.ediv_le_ediv aj aj,Int.ediv_le_ediv aj aj⟩
theorem QL{v w:Srv}(rj:v.sp=w.sp)(hk:∀g f,Kp w g f→Kp v g f){k:Nat}{a b c d:Int}(h:C0 v k a b 0)(g:C0 w k c d 0):a≤c∧d≤b:=by
 by_cases e:k=0
 ·subst e;have h1:=FK h;have h2:=FK g;omega
 ·exact Qx rj hk (FJ h aj) (FJ g aj)
theorem MG{v w:Srv}(rj:v.sp=w.sp)(hk:∀g f,Kp w g f→Kp v g f){k:Nat}{x y lo hi lo' AR:Int}(hd:iM x y)(h:pW v k x y lo hi 0)(g:pW w k x y lo' AR 0):lo≤lo'∧AR≤hi:=by
 generalize h0:(0:Int)=e0 at h
 cases h with
 |fls _ he=>exact (he h0.symm).elim
 |ok h=>
  clear h0;generalize h0:(0:Int)=e0 at g
  cases g with
  |fls _ he=>exact (he h0.symm).elim
  |ok g=>
   clear h0;have h1:=QL rj hk h g;unfold iM at hd;have a1:=kg (d:=x) h1.1 aj;have a2:=kg (d:=y) h1.1 aj;have a3:=kg (d:=x) h1.2 aj;have a4:=kg (d:=y) h1.2 aj;unfold wK Bl;omega
theorem CW{v w:Srv}(hv:eg v)(hw:eg w)(Va:v.sp.wa=w.sp.wa){l:Lns}{r:List Lg}{m:Rng}{ks:List Int}{e:Int}(h:qZ v l r m ks e):qZ w l r m ks e:=by
 cases h with
 |bad h he=>exact (he (h.dt.2 hv)).elim
 |lines _ h1=>exact .lines hw h1
 |route _ h1 h2=>exact .route hw h1 h2
 |tC _ h1 h2 h3=>exact .tC hw h1 h2 h3
 |low _ h1 h2 h3 hi hp h4 he=>rw [Va] at hp h4;exact .low hw h1 h2 h3 hi hp h4 he
 |ok _ h1 h2 h3 h4 h5=>rw [Va] at h5;exact .ok hw h1 h2 h3 h4 h5
theorem FQ{v:Srv}(hs:v.sys.Sound){l:Lns}{r:List Lg}{m:Rng}{a e:Int}(h:HI v l r m a e):∃ks,qZ v l r m ks e:=by
 rcases h.err with ⟨ks,g,_⟩|⟨_,_,g,_⟩|⟨ks,g,_,rfl⟩
 ·exact ⟨ks,g⟩
 ·exact (g hs).elim
 ·exact ⟨ks,g⟩
theorem Qf{v w:Srv}(hv:eg v)(hw:eg w)(Va:v.sp.wa=w.sp.wa)(sv:v.sys.Sound)(sw:w.sys.Sound){l:Lns}{r:List Lg}{m:Rng}{a b e f:Int}(h:HI v l r m a e)(k:HI w l r m b f):e=f:=by
 obtain ⟨ks,h⟩:=FQ sv h;obtain ⟨ks',k⟩:=FQ sw k;exact ((CW hv hw Va h).uniq k).2
theorem PW:Cr cn=0↔∃i<cn.length,gi cn i=0:=by
 unfold Cr;constructor
 ·intro e;split at e
  ·rename_i hm;obtain ⟨i,hi,e⟩:=List.mem_iff_getElem.1 hm;exact ⟨i,hi,by rw [←e];exact (Option.some.inj ((bG hi).symm.trans (List.getElem?_eq_getElem hi)))⟩
  ·split at e<;>omega
 ·rintro ⟨i,hi,e⟩;rw [if_pos (by rw [←e];exact List.mem_of_getElem? (bG hi))]
theorem JC{v w:Srv}(hw:eg w)(rj:v.sp=w.sp)(hk:∀g f,Kp w g f→Kp v g f){l:Lns}{r:List Lg}{m:Rng}{a b:Int}(h:HI v l r m a 0)(k:HI w l r m b 0):(a=1→b=1)∧(a=0→b=0):=by
 generalize h0:(0:Int)=e0 at h
 cases h with
 |bad _ h=>exact (h h0.symm).elim
 | @ok cn h=>
  clear h0;generalize h0:(0:Int)=e0 at k
  cases k with
  |bad _ h=>exact (h h0.symm).elim
  | @ok bs k=>
   clear h0;obtain ⟨ks,hB⟩:∃ks,qZ v l r m ks 0:=by
    generalize h0:(0:Int)=e0 at h
    cases h with
    |bad _ h=>exact (h h0.symm).elim
    |fls=>omega
    |ok g=>exact ⟨_,g⟩
   obtain ⟨bh,hl,s9,hm,rF,zu⟩:=hB.ok';have hB':=CW bh hw (by rw [rj]) hB;obtain ⟨-,En,has⟩:=HB h hB;obtain ⟨-,Jr,Pz⟩:=HB k hB';have key:∀i<r.length,(gi cn i=1→gi bs i=1)∧(gi cn i=0→gi bs i=0):=fun i hi=>by
    obtain ⟨lo,hi0,hS,e⟩:=has i hi;obtain ⟨lo',AR,Z4,e'⟩:=Pz i hi;have hd:=(s9.leg i hi).1.dense;have h1:=MG rj hk hd hS Z4;have h2:=Qm hd Z4;have Iw:=yZ hm (fun i hi=>(s9.leg i hi).1) (i:=i) aj;unfold kS at Iw;rw [e,e'];unfold HD;constructor
    ·intro g;split at g
     ·rw [if_pos aj]
     ·split at g<;>omega
    ·intro g;split at g
     ·omega
     ·split at g
      ·rw [if_neg aj,if_pos aj]
      ·omega
   refine ⟨fun e=>?_,fun e=>?_⟩
   ·have e:=(Gn h).1 e;exact (Gn k).2 fun i hi=>(key i aj).1 (e i aj)
   ·obtain ⟨i,hi,e⟩:=PW.1 e;exact PW.2 ⟨i,aj,(key i aj).2 e⟩
theorem MI{v:Srv}{r:List Lg}{x:Wit}(h:RY v l r m x 0)(g:Je v x.rows e):e=0:=by
 generalize h0:(0:Int)=e0 at h
 cases h with
 |bad _ h=>exact (h h0.symm).elim
 |none=>omega
 |ok _ _ _ _ _ _ hw=>exact g.uniq hw.hull
theorem Qe{v:Srv}{r:List Lg}(sv:v.sys.Sound)(h:HI v l r m 1 0):∃ks,qZ v l r m ks 0∧∀i<r.length,∃lo hi,pW v (gi ks i).toNat (lg0 r i).dlo (lg0 r i).dhi lo hi 0∧(nY m r i).hi≤lo:=by
 obtain ⟨ks,hB⟩:=FQ sv h;exact ⟨ks,hB,(h.yes hB sv).2.1 rfl⟩
theorem SK{u:Srv}{k i:Int}(hU:KnU s kd k i j u)(hM:uN s){y:List Int}(hK:oF s y){q:Nat}{a b:Int}(h:C0 u q a b 0):a≤vi s y q∧vi s y q≤b:=by
 unfold vi;by_cases e:q=0
 ·subst e;have:=FK h;rw [if_pos rfl];omega
 ·rw [if_neg e];exact QO hU hM hK (FJ h aj)
theorem JB{u:Srv}{k i:Int}(hU:KnU s kd k i j u)(hM:uN s){y:List Int}(hK:oF s y){q:Nat}{x z lo hi mm d:Int}(hd:iM x z)(h:pW u q x z lo hi 0)(h1:x≤d)(h2:d≤z)(hm:mm≤lo):1000*mm≤vi s y q*d∧-200000000≤vi s y q∧vi s y q≤200000000:=by
 unfold iM at hd;generalize h0:(0:Int)=e0 at h
 cases h with
 |fls h g=>exact (g h0.symm).elim
 |ok h=>
  have h3:=SK hU hM hK h;have h4:=(Qn h3.1 h3.2 h1 h2 aj).1;have h5:=h.bd;have h6:mm≤fp (vi s y q) d:=Int.le_trans hm h4;unfold fp at h6;exact ⟨aj,aj,aj⟩
set_option maxHeartbeats 16000000 in
theorem xw{w:World}{x:Mn}{vn vg:Value}{p1 p2 p3:Int}(hs:St H w σ)(hx:Gq H x vs v5 v4 vp vn vg)(gd:RI H vd days):
  aaA 4 [.agg #[vs,v5,v4,vp,I x.y1,I x.y2,I x.y3,vn,vg,I x.m1,I x.m2,I x.z1,I x.z2,I x.z3,vd,I a1,I a2,I p1,I p2,I p3]] w fun v w'=>v= .bool true∧∃H',HLe H H'∧St H' w' σ:=by
 obtain ⟨adx,cdx,rfl⟩:=RI.shape gd;obtain ⟨avs,cvs,rfl⟩:=RI.shape hx.sp;obtain ⟨av5,cv5,rfl⟩:=hx.rs.shape;obtain ⟨av4,cv4,rfl⟩:=hx.cs.shape;obtain ⟨avp,cvp,rfl⟩:=RI.shape hx.pk;obtain ⟨avn,cvn,rfl⟩:=RI.shape hx.ln;obtain ⟨avg,cvg,rfl⟩:=hx.lg.shape;rw [List.length_map] at hx ⊢;have m0:=FE a1 (m:=60) aj;have m1:=FE a2 (m:=60) aj;refine Cl.o func4 ntmps4 ag1 ?_;refine .ae (.bx hs fun b1 w hs=>?_);refine .zn zg (.ae (.o (.call call5 rfl (Au hs) ?_)));rintro _ w ⟨rfl,H1,aq,hs⟩;refine .z zm (.T (.o (.call call6 rfl (Av hs) ?_)));rintro _ w ⟨rfl,H2,aO,hs⟩;have cK:=aq.trans aO;refine .z zpT (.zn zg (.ae (.z (zfa cq) (.y hs (zls [_,_,_,_,_,_,_,_,_,_,_,_,_,_] isAgg84 sizeOf84) (.o (.call call21 rfl (yI (x:=x) hs (hx.mono cK)) ?_))))));rintro _ w ⟨H3,s,y,aa,ca,ab,cb,ac,cc,ad,cd,ay,cy,l,at_,ct,cn,cs,r,ar,cr,bP,rfl,hM,hK,g,hY,hL,gl,hR,pX,hs⟩;have eO:=cK.trans bP;have bh:=hM.ok;have QV:=hM.st;have Wr:=hM.wa;have Xb:=hM.ok.many;have Zq:=hR.many;obtain ⟨uh,-,-⟩:=hK.bd;refine .z zm (.z zex (.z zex (.z zex (.z zex (.o (.alloc hs kl rfl fun b4 w hs=>?_))))));refine .o (.alloc hs Y5 rfl fun b6 w hs=>?_);refine .o (.alloc hs zeroValue93 rfl fun b7 w hs=>?_);refine .o (.aD (vs:=[_,_,_,_,_,_,_,_]) hs rfl rfl aM fun w hs=>?_);refine .z zg (.o (.aD (vs:=[_,_,_,_]) hs rfl rfl eu fun w hs=>?_));refine .o (.aD (vs:=[_]) hs rfl rfl dN fun w hs=>?_);refine .nil (.ae (.z (zfa bj) (.y hs (zls [_,_,_,_,_,_] bu aI) (.z zm (.o (.call call8 rfl (Ay (s:=s.sp) hs g.st g.wa hY aj aj aj) ?_))))));rintro _ w ⟨H4,va,eL,rfl,hT,hs⟩;obtain ⟨aT,cT,rfl⟩:=hT.shape;have jI:=eO.trans eL;replace g:=g.mono eL;replace gl:=gl.mono eL;replace pX:=pX.mono eL;refine .o (.alloc hs l5 rfl fun b8 w hs=>?_);refine .o (.aD (vs:=[_]) hs rfl rfl ea fun w hs=>?_);refine .nil (.ae (.y hs (zls [_,_,_,_,_,_,_,_] bA aM) (.z (zfa nR) (.y hs (zld an) (.o (.call call9 rfl (vj (s:=s) (hull:=true) (room:=900) hs g.st g.wa g.rd g.cm (gd.mono jI) hM rfl) ?_))))));rintro v49 w ⟨H5,eV,hE,hs⟩;have Ul:=fun (k:Int) (hk:0≤k)=>RO (q:=⟨aa,ca,ab,cb⟩) hM (Ky days) hk
 generalize tD 900 (fU days) s ⟨aa,ca,ab,cb⟩ s.cs.length=L at*;obtain ⟨aE,cE,rfl⟩:=hE.shape;have BE:=jI.trans eV;replace g:=g.mono eV;replace gl:=gl.mono eV;replace pX:=pX.mono eV;replace hT:=hT.mono eV;refine .zn zg (.seq (.draw mix rfl hs fun w hs=>?_));refine .zw 0 rfl (zfa eP) (.zw 1 rfl (zia 0 nU ak) (.y 2 rfl hs ai ?_));refine .z 4 rfl (zfa eP) ?_;refine .zw 5 rfl (zia 1 nU ak) (.zv 6 rfl hs (rE ai) (.E 3 hs ?_));refine .call jy rfl (lJ hs aj) ?_;rintro _ w ⟨rfl,hs⟩;refine .go (.E 7 hs ?_);refine .call jy rfl (lJ hs aj) ?_;rintro _ w ⟨rfl,hs⟩;refine .go (.zw 8 rfl Ju ?_);refine .z 9 rfl zg ?_;refine .D hs ?_;refine .seq (.draw mix rfl hs fun w hs=>?_);refine .zw 0 rfl (zfa eP) (.zw 1 rfl (zia 0 nU ak) (.y 2 rfl hs ai ?_));refine .z 4 rfl (zfa eP) ?_;refine .zw 5 rfl (zia 1 nU ak) (.zv 6 rfl hs (rE ai) (.E 3 hs ?_));refine .call jy rfl (lJ hs aj) ?_;rintro _ w ⟨rfl,hs⟩;refine .go (.E 7 hs ?_);refine .call jy rfl (lJ hs aj) ?_;rintro _ w ⟨rfl,hs⟩;refine .go (.zw 8 rfl HM ?_);refine .z 9 rfl zg ?_;refine .D hs ?_;refine .ae (.z zm (.z zm ?_));obtain ⟨S1,cs1,u1,hA1,Yx,PD⟩:=Ul (min (OZ a1 60) (OZ a2 60)) aj;have NL:(S1.foldl (m9 cs1) se).hu=u1:=by rw [Yx]
 have ht1:(S1.foldl (m9 cs1) se).there=true:=by rw [Yx]
 clear Yx;refine .o (.call call14 rfl (qq hs hE hA1 aj aj aj ht1) ?_);rintro _ w ⟨H6,a,b,c,d,vc,kH,rfl,te,YB,hs⟩;generalize S1.foldl (m9 cs1) se=G1 at*;subst NL;obtain ⟨xa1,ya1,rfl⟩:=RI.shape te.st;obtain ⟨xb1,yb1,rfl⟩:=RI.shape te.wa;obtain ⟨xc1,yc1,rfl⟩:=RRd.shape te.rd;obtain ⟨xd1,yd1,rfl⟩:=RCm.shape te.cm;obtain ⟨xe1,ne1,ye1,rfl⟩:=YB.shape;refine .z zm (.z zex (.z zex (.o (.alloc hs Jh rfl fun rP w hs=>?_))));refine .o (.aD (vs:=[_,_,_,_,_,_,_,_,_,_,_]) hs rfl rfl Ap fun w hs=>?_);refine .zn zg (.ae (.z zm (.z zm ?_)));obtain ⟨S2,cs2,u2,VF,Uw,Uo⟩:=Ul (max (OZ a1 60) (OZ a2 60)) aj;have KI:(S2.foldl (m9 cs2) se).hu=u2:=by rw [Uw]
 have ht2:(S2.foldl (m9 cs2) se).there=true:=by rw [Uw]
 clear Uw;refine .o (.call call14 rfl (qq hs (hE.mono kH) VF aj aj aj ht2) ?_);rintro _ w ⟨H7,a,b,c,d,vc,zx,rfl,Lm,YA,hs⟩;generalize S2.foldl (m9 cs2) se=G2 at*;subst KI;obtain ⟨xa2,ya2,rfl⟩:=RI.shape Lm.st;obtain ⟨xb2,yb2,rfl⟩:=RI.shape Lm.wa;obtain ⟨xc2,yc2,rfl⟩:=RRd.shape Lm.rd;obtain ⟨xd2,yd2,rfl⟩:=RCm.shape Lm.cm;obtain ⟨xe2,ne2,ye2,rfl⟩:=YA.shape;have Ed:=kH.trans zx;have TN:=BE.trans Ed;replace te:=te.mono zx;replace g:=g.mono Ed;replace gl:=gl.mono Ed;replace pX:=pX.mono Ed;replace hT:=hT.mono Ed;have rj:G1.hu.sp=G2.hu.sp:=by rw [PD.sp,Uo.sp]
 have W7:∀g f,Kp G2.hu g f→Kp G1.hu g f:=fun g f hk=>PD.kp2 Uo aj hk
 have sd1:=PD.sound hM hK;have sd2:=Uo.sound hM hK;refine .z zm (.z zex (.z zex (.o (.alloc hs Jh rfl fun tt w hs=>?_))));refine .o (.aD (vs:=[_,_,_,_,_,_,_,_,_,_,_]) hs rfl rfl Ap fun w hs=>?_);refine .zn zg (.seq (.ae (.z zm (.z im (.z zm (.T (.z zm (.T (.z gE ?_)))))))));rw [decide_eq_true rfl];refine .z zpF (.z zm (.T (.z zm (.T (.z gE ?_)))));rw [decide_eq_true rfl];refine .zn zpF (.cF (.skip (nT (.ae (.z (zfa ek) (.y hs (zls [_,_,_,_,_,_,_,_] bA aM) (.y hs (zls [_,_,_,_] iO eu) (.y hs (zls [_] iN dN) (.z (zfa cq) (.z (zfa dy) (.y hs (zls [_,_] dL a8) (.o (.call call22 rfl (qm (s:=G1.hu) (l:=l) (r:=r) (m:=x.tC) hs te gl pX) ?_)))))))))))));rintro _ w ⟨H8,n1,e1,FZ,rfl,VD,hs⟩;refine .z zm (.z zex (.z zex (.z zg (.zn zg (.ae (.z (zfa ek) (.y hs (zls [_,_,_,_,_,_,_,_] bA aM) (.y hs (zls [_,_,_,_] iO eu) (.y hs (zls [_] iN dN) (.z (zfa cq) (.z (zfa dy) (.y hs (zls [_,_] dL a8) (.o (.call call22 rfl (qm (s:=G2.hu) (l:=l) (r:=r) (m:=x.tC) hs (Lm.mono FZ) (gl.mono FZ) (pX.mono FZ)) ?_))))))))))))));rintro _ w ⟨H9,n2,e2,NQ,rfl,aah,hs⟩;obtain rfl:=Qf PD.ok Uo.ok (by rw [rj]) sd1 sd2 VD aah;have BD:=FZ.trans NQ;have KW:=TN.trans BD;replace te:=te.mono BD;replace g:=g.mono BD;replace gl:=gl.mono BD;replace pX:=pX.mono BD;replace hT:=hT.mono BD;refine .z zm (.z zex (.z zex (.z zg (.zn zg (.seq (.ae (.z zm (.z zm (.z gE ?_)))))))));rw [decide_eq_true rfl];refine .nil (.cF (.skip (nT (.seq (.ae (.z zm (.zn gE (.eN rfl (fun Px=>?_) (fun Px=>?_)))))))))
 ·exact .ae (.zn zg (.ret (rT (Fin.bp results4 rfl ⟨rfl,H9,KW,hs.out⟩))))
 ·refine .skip (nT (.seq (.ae ?_)));obtain rfl:e1=0:=by omega
  obtain ⟨Ml,Yr⟩:=JC Uo.ok rj W7 VD aah;refine .z zm (.zn gE (.eN rfl (fun G5=>?_) (fun G5=>?_)))
  ·refine .ae (.z (zfa ek) (.y hs (zls [_,_,_,_,_,_,_,_] bA aM) (.y hs (zls [_,_,_,_] iO eu) (.y hs (zls [_] iN dN) (.z (zfa cq) (.z (zfa dy) (.y hs (zls [_,_] dL a8) (.o (.call call23 rfl (zb (s:=G1.hu) (l:=l) (r:=r) (m:=x.tC) hs te gl pX) ?_)))))))));rintro _ w ⟨H10,vh,z,f,mq,rfl,gh,X5,hs⟩;obtain ⟨ah,ch,rfl⟩:=gh.shape;obtain rfl:=QP VD X5 aj;refine .z zm (.z zex (.z zex (.o (.alloc hs zeroValue98 rfl fun PV w hs=>?_))));refine .o (.aD (vs:=[_,_,_,_]) hs rfl rfl jX fun w hs=>?_);refine .zn zg (.ae (.z zm (.z gO ?_)));rw [decide_eq_true rfl];refine .z zm (.T (.z (zfa ek) (.T (.y hs (zls [_,_,_,_,_,_,_,_] bA aM) (.T ?_)))));refine .y hs (zls [_,_,_,_] iO eu) (.T (.y hs (zls [_] iN dN) (.T (.z (zfa cq) (.T (.z (zfa dy) (.T (.y hs (zls [_,_] dL a8) (.T (.y hs (zls [_,_,_,_] OM jX) (.T (.o (.call call24 rfl (rA (s:=G1.hu) (l:=l) (r:=r) (m:=x.tC) (x:=z) hs (te.mono mq) (gl.mono mq) (pX.mono mq) gh) ?_)))))))))))));rintro _ w ⟨H11,e5,sh,rfl,h5,hs⟩;obtain rfl:=Qp X5 h5;have uj:=mq.trans sh;refine .T (.z gO ?_);rw [decide_eq_true rfl];refine .z zpT (.z zm (.T (.z (zfa ek) (.T (.y hs (zls [_,_,_,_,_,_,_,_] bA aM) (.T (.z (zfa jS) (.T (.y hs (zls [_] pc ea) (.T (.o (.call call18 rfl (k8 (s:=G1.hu) (rows:=z.rows) hs (te.mono uj).st (te.mono uj).wa (te.mono uj).rd (te.mono uj).cm (gh.mono sh)) ?_))))))))))));rintro _ w ⟨H12,e6,Ef,rfl,h6,hs⟩;obtain rfl:=MI X5 h6;have KX:=KW.trans (uj.trans Ef);refine .T (.z gO ?_);rw [decide_eq_true rfl];refine .z zpT (.z zm (.T (.z zm (.T (.z gE (.T (.z zm (.Js (t':=155) rfl (fun Ui=>?_) (fun Ui=>?_)))))))))
   ·exact .Fs 2 25 false (.T (.z zpT (.z zpT (.zn zg (.ret (rT (Fin.bp results4 rfl ⟨rfl,H12,KX,hs.out⟩)))))))
   ·refine .T (.z zm (.T (.z gO ?_)));rw [decide_eq_true (Yr aj)];exact .T (.z zpF (.z zpT (.zn zg (.ret (rT (Fin.bp results4 rfl ⟨rfl,H12,KX,hs.out⟩))))))
  ·refine .skip (nT (.seq (.ae ?_)));obtain rfl:n1=1:=by omega
   obtain rfl:=Ml rfl;obtain ⟨ks,hB,Wm⟩:=Qe sd1 VD;have aam:=CW PD.ok bh (by rw [PD.sp];rfl) hB;obtain ⟨-,hl,s9,hm,rF,-⟩:=hB.ok';have Iw:0≤x.m1∧x.m1≤x.m2∧x.m2≤1000000000000:=hm;refine .z zm (.z gE ?_);rw [decide_eq_true rfl];refine .nil (.cF (.skip (nT (.seq (.draw mix rfl hs fun w hs=>?_)))));refine .zw 0 rfl (zfa cq) ?_;refine .z 1 rfl (zfa dy) ?_;refine .z 2 rfl (zfa bR) ?_;refine .y 3 rfl hs ai ?_;refine .z 4 rfl (zfa gH) ?_;refine .zw 5 rfl (zia 0 runUnderlying25 ak) (.y 6 rfl hs ai ?_);refine .z 7 rfl (zfa cq) ?_;refine .z 8 rfl (zfa dy) ?_;refine .z 9 rfl (zfa cg) ?_;refine .y 10 rfl hs ai ?_;refine .z 11 rfl (zfa cq) ?_;refine .z 12 rfl (zfa dy) ?_;refine .z 13 rfl (zfa bR) ?_;refine .y 14 rfl hs ai ?_;refine .z 15 rfl iw ?_;refine .zw 16 rfl cz (.E 17 hs ?_);refine .call jy rfl (cI hs aj) ?_;rintro _ w ⟨km,KY,rfl,hs⟩;refine .go (.zw 18 rfl cz ?_);refine .z 19 rfl zg ?_;refine .D hs ?_;refine .seq (.ae (.z (zfa dj) (.y hs (zld kY) (.z (cJ bN) (.zn zm (.for (N:=r.length) (J:=fun k fr w=>∃H10 mm,fr=[(182,.slice ar r.length cr),(22,I mm),(8,Pt b8),(7,Pt b7),(6,Pt b6),(4,Pt b4),(1,Pt b1)]∧HLe H9 H10∧((nY x.tC r k).lo≤mm∧mm≤(nY x.tC r k).hi)∧St H10 w (.blk b8 [.slice aT (fD s.sp y s.sp.st.length).length cT]:: .blk b7 [.slice ar r.length cr]:: .blk b6 (lnC l (.slice at_ l.table.length ct) (.slice cn l.seasons.length cs)):: .blk b4 (svC s (.slice aa s.sp.st.length ca) (.slice ab s.sp.wa.length cb) (.slice ac s.rs.length cc) (.slice ad s.cs.length cd)):: .blk b1 [.slice avs x.sp.length cvs,.slice av5 x.rs.length cv5,.slice av4 x.cs.length cv4,.slice avp x.pk.length cvp,I x.y1,I x.y2,I x.y3,.slice avn x.ln.length cvn,.slice avg x.lg.length cvg,I x.m1,I x.m2,I x.z1,I x.z2,I x.z3,.slice adx days.length cdx,I a1,I a2,I p1,I p2,I p3]::σ)) aj ?_ ?_ ?_))))))
   ·exact .mk ⟨H9,x.m1+(km:Int),rfl,HLe.refl _,⟨by show x.m1≤_;omega,by show _≤x.m2;omega⟩,hs.sb⟩
   ·rintro k fr w hk ⟨H10,mm,rfl,mq,hmk,hs⟩;have hmb:=yZ hm (fun i hi=>(s9.leg i hi).1) (i:=k) aj;unfold kS at hmb;have QR:=qs (l:=r) hk;obtain ⟨q,hq,Pd⟩:=aam.mark hk;obtain ⟨lo,hi,hS,hmh⟩:=Wm k hk;rw [hq,Int.toNat_natCast] at hS;have IE:=(s9.leg k hk).1.dense;have Vt:=(s9.leg k hk).1.burn;have ZO:=IE;unfold iM at IE;unfold kS at Vt;have htq:=(JB PD hM hK ZO hS (Int.le_refl _) IE.2.1 (mm:=mm) aj).2;refine .block (.ae (.z zm (.ixX (enc:=Lg.c) hs (pX.mono mq) rfl rfl bN bI QR rfl ?_)));intro b187 o187 T4;refine .q hs (bD (vs:=lgC (lg0 r k)) rfl jY bI T4) (.o (.alloc hs eF rfl fun Hv w hs=>?_));refine .z zg (.o (.aD (vs:=[_,_,_,_,_,_,_]) hs rfl rfl bI fun w hs=>?_));refine .nil (.ae (.z (zfa bj) (.y hs (zls [_,_,_,_,_,_] bu aI) (.y hs (zls [_,_,_,_] iO eu) (.y hs (zls [_,_,_,_,_,_,_] jY bI) (.o (.call call25 rfl (xt (s:=s.sp) (l:=l) (x:=lg0 r k) hs (g.mono mq).st (g.mono mq).wa (gl.mono mq).tb (gl.mono mq).sn) ?_)))))));rintro _ w ⟨H11,kk,e7,sh,rfl,h7,hs⟩;obtain ⟨rfl,rfl⟩:=Nu aam hk h7;rw [hq];refine .z zm (.z zex (.z zex (.z zg (.zn zg (.ae (.zn zg (.ae (.zn zg (.cut (fun fs w=>∃H12,np fs ⟨262,[],[(184,I (k:Int)),(183,I (r.length:Int)),(182,.slice ar r.length cr),(28,I 0),(27,I (vi s y q)),(26,I 0),(24,Pt Hv),(23,I (k:Int)),(22,I mm),(8,Pt b8),(7,Pt b7),(6,Pt b6),(4,Pt b4),(1,Pt b1)]⟩∧HLe H10 H12∧St H12 w (.blk Hv (lgC (lg0 r k)):: .blk b8 [.slice aT (fD s.sp y s.sp.st.length).length cT]:: .blk b7 [.slice ar r.length cr]:: .blk b6 (lnC l (.slice at_ l.table.length ct) (.slice cn l.seasons.length cs)):: .blk b4 (svC s (.slice aa s.sp.st.length ca) (.slice ab s.sp.wa.length cb) (.slice ac s.rs.length cc) (.slice ad s.cs.length cd)):: .blk b1 [.slice avs x.sp.length cvs,.slice av5 x.rs.length cv5,.slice av4 x.cs.length cv4,.slice avp x.pk.length cvp,I x.y1,I x.y2,I x.y3,.slice avn x.ln.length cvn,.slice avg x.lg.length cvg,I x.m1,I x.m2,I x.z1,I x.z2,I x.z3,.slice adx days.length cdx,I a1,I a2,I p1,I p2,I p3]::σ)) ?_ ?_)))))))))
    ·refine .ae (.z zm (.zn q5 (.bX rfl (fun T2=>?_) (fun T2=>?_))))
     ·refine .region (.z (zfa bj) (.y hs (zls [_,_,_,_,_,_] bu aI) (.y hs (zls [_] pc ea) (.z zm (.z (zbd [_,_,_] qR) (.o (.call call11 rfl (kF (s:=s.sp) (q:=⟨1,0,(q:Int)⟩) hs (g.mono (mq.trans sh)).st (g.mono (mq.trans sh)).wa (hT.mono (mq.trans sh))) ?_)))))));rintro _ w ⟨H12,vol,e8,Ef,rfl,h8,hs⟩;obtain ⟨rfl,rfl⟩:=h8.uniq (Io bh hK (B7 aj Pd));have AQ:vi s y q=fW s.sp ⟨1,0,q⟩ (fD s.sp y s.sp.st.length) s.sp.many/tE ⟨1,0,q⟩:=by rw [vi,if_neg aj]
      rw [←AQ];exact .z zm (.z zex (.z zex (.z zg (.zn zg (nT ⟨H12,bk,sh.trans Ef,hs.sb⟩)))))
     ·exact .skip (nT ⟨H11,by rw [show vi s y q=0 by rw [vi,if_pos aj]];exact bk,sh,hs.sb⟩)
    ·rintro fs w ⟨H12,i7,Ef,hs⟩;refine WE.sub ?_ i7;clear i7;refine .seq (.draw mix rfl hs fun w hs=>?_);refine .zw 0 rfl (zfa eW) ?_;refine .z 1 rfl (zfa bR) ?_;refine .y 2 rfl hs ai ?_;refine .z 3 rfl (zfa gH) ?_;refine .zw 4 rfl (zia 1 runUnderlying25 ak) (.y 5 rfl hs ai ?_);refine .z 6 rfl zm ?_;refine .z 7 rfl cz ?_;refine .z 8 rfl (zfa eW) ?_;refine .z 9 rfl (zfa cg) ?_;refine .y 10 rfl hs ai ?_;refine .z 11 rfl (zfa eW) ?_;refine .z 12 rfl (zfa bR) ?_;refine .y 13 rfl hs ai ?_;refine .z 14 rfl iw ?_;refine .zw 15 rfl cz (.E 16 hs ?_);refine .call jy rfl (cI hs aj) ?_;rintro _ w ⟨kd,ZH,rfl,hs⟩;have htd:=(JB PD hM hK ZO hS (d:=(lg0 r k).dlo+(kd:Int)) aj aj (mm:=mm) aj).1;have hmul:=ox (a:=vi s y q) (b:=(lg0 r k).dlo+(kd:Int)) (A:=200000000) (B:=1100) aj aj;refine .go (.zw 17 rfl cz ?_);refine .z 18 rfl zg ?_;refine .D hs ?_;refine .seq (.ae (.z zm (.z gE ?_)));rw [decide_eq_true rfl];refine .z zm (.T (.z zm (.T (.z gE ?_))));rw [decide_eq_true rfl];refine .z zpF (.z zm (.T (.z zm (.T (.z nf (.T (.z zm (.T (.z zm (.T (.z nf (.T (.z q5 ?_)))))))))))));rw [decide_eq_false aj];refine .zn zpF (.cF (.skip (nT (.draw mix rfl hs fun w hs=>?_))));refine .zw 0 rfl zm ?_;refine .z 1 rfl (zfa jk) ?_;refine .z 2 rfl (zfa bR) ?_;refine .y 3 rfl hs ai ?_;refine .z 4 rfl iw ?_;refine .z 5 rfl (zfa gH) ?_;refine .zw 6 rfl (zia 2 runUnderlying25 ak) (.y 7 rfl hs ai ?_);refine .z 8 rfl zm ?_;refine .z 9 rfl cz ?_;refine .z 10 rfl (zfa jk) ?_;refine .z 11 rfl (zfa cg) ?_;refine .y 12 rfl hs ai ?_;refine .z 13 rfl (zfa jk) ?_;refine .z 14 rfl (zfa bR) ?_;refine .y 15 rfl hs ai ?_;refine .z 16 rfl iw ?_;refine .zw 17 rfl cz (.E 18 hs ?_);refine .call jy rfl (cI hs aj) ?_;rintro _ w ⟨kb,Xi,rfl,hs⟩;have hnx:=KC hmk (b:=(lg0 r k).blo+(kb:Int)) ⟨aj,aj⟩;refine .go (.zw 19 rfl iw ?_);refine .z 20 rfl HM ?_;refine .z 21 rfl zg ?_;refine .D hs ?_;exact nB (nT (.mk ⟨H12,max 0 (mm - (lg0 r k).blo - (kb:Int)),rfl,mq.trans Ef,aj,hs.sb⟩))
   ·rintro fr w ⟨H10,mm,rfl,mq,-,hs⟩;exact nT (.ae (.zn zg (.ret (Fin.bp results4 rfl ⟨rfl,H10,KW.trans mq,hs.out⟩))))
end Go.Proofs.YtlgfjghdgbhkhaaGreat
