/-
  Texts of these claims, joined: Oq Os Ot Ov Ow Ra Mzw Ri Rj Mzx Rl Mzy Rm.
-/
import Derived.Test.YteajddicacjkhaaGreatKe
namespace Go.Proofs.YteajddicacjkhaaGreat
open Go.MW Tryz
variable{H:cK}{σ:List Ent}{a0 a1 a2 m most a hi lo f d e z1 z2 z3:Int}{l:Lns}{ls:List Lim}{g b k bf bt bl cl i j bm:Nat}{cap sp:List Value}{s:Spc}{xs ts lf ws L X Y l1 l2 sl pk:List Int}{en:Ent}{vl vt vp vw vm vb v1 v2 cU cO vr vc vh vs v5 v4 gZ:Value}{Ms rows:List (List Int)}{us:List Use}{x:Lg}{t:TD}{high:Bool}{iB:List F5}{iP:List F4}
theorem nh{w:World}(hs:St H w σ)(g:LnM H l vt vs)(hl:gL l):
  ab8 103 [lnA l vt vs] w fun u w'=>∃(n:Int) (b:Bool),u= .tuple #[I n,I (if b then 0 else 3)]∧z8 l n b∧St H w' σ:=by
 have h1:=g.tb;obtain ⟨at_,ct,rfl⟩:=h1.shape;have hm:=hl.many;refine Cl.o func103 ntmps103 ag1 ?_;refine .af (.bx hs fun b1 w hs=>?_);refine .z zg (.zn zg (.af (.z (zfa de) (.y hs (zld kx) (.zn zg (.seq (.af (.zn zg (.block ?_)))))))));refine .loop (fun k:Nat=>⟨101,[],[(5,I (k:Int)),(4,.slice at_ l.table.length ct),(1,Pt b1)]⟩)
  (fun k w=>k≤l.table.length∧(∀i<k,(fb0 l.table i).len≠l.length∧(0<i→¬((fb0 l.table (i - 1)).len<l.length∧l.length<(fb0 l.table i).len)))∧St H w (.blk b1 (lnC l (.slice at_ l.table.length ct) vs)::σ)) (fun k=>l.table.length - k) 0 aM
  ⟨Nat.zero_le _,fun i hi=>by omega,hs⟩ ?_
 rintro k w ⟨hk,fa,hs⟩;refine .seq (.af (.z zm (.z zm (.z (dk bB) (.zn gV (.bA rfl (fun iq=>?_) (fun iq=>?_)))))))
 ·refine .skip (nT (.seq (.block (.seq (.seq (.draw mix rfl hs fun w hs=>?_))))));have pV:k<l.table.length:=by omega
  have hx:=oX (l:=l.table) pV;have za:=oX (l:=l.table) (i:=k - 1) ai;have SW:(fb0 l.table k).len≠l.length→(0<k→¬((fb0 l.table (k - 1)).len<l.length∧l.length<(fb0 l.table k).len))→∀i<k+1,(fb0 l.table i).len≠l.length∧(0<i→¬((fb0 l.table (i - 1)).len<l.length∧l.length<(fb0 l.table i).len)):=fun g1 g2 i hi=>by
   by_cases e:i=k
   ·subst e;exact ⟨g1,g2⟩
   ·exact fa i ai
  have ha:=hl.table (k - 1) ai;have hb:=hl.table k pV;have a1:=ha.len;have a2:=ha.least;have b1':=hb.len;have b2:=hb.least;have hL:=hl.length;refine .zw 0 rfl zm ?_;refine .z 1 rfl zm ?_;refine .ixX (enc:=Fbd.c) (i:=2) hs rfl aD .none h1 rfl rfl bB db hx dp ?_;intro yD o18 im;refine .zw 3 rfl (zfa bZ) (.r (i:=4) hs rfl aD .none (aF rfl aj (im.get 0 rfl)) ?_);refine .zw 5 rfl (zfa eY) ?_;refine .y 6 rfl hs aj ?_;refine .z 7 rfl fJ ?_;refine .D hs ?_;refine (.bA rfl (fun kX=>?_) (fun kX=>?_))
  ·refine .af (.z zm (.z zm (.ixX (enc:=Fbd.c) hs h1 rfl rfl bB db hx dp ?_)));intro Tk o26 jm;exact .z (zfa dW) (.q hs (aF rfl aj (jm.get 1 rfl)) (.z zg (.zn zg (.ret (rT (rB (rT (rT (rB (rT (Fin.iz results103 rfl rfl ⟨_,true,rfl,.at_ pV kX,hs.out⟩)))))))))))
  ·refine .skip (nT (.seq (.draw mix rfl hs fun w hs=>?_)));refine .zw 0 rfl zm ?_;refine .z 1 rfl ld ?_;refine .z 2 rfl zm ?_;refine .ie (t':=31) rfl (fun zk=>?_) (fun zk=>?_)
   ·refine .zw 3 rfl zm ?_;refine .z 4 rfl zm ?_;refine .z 5 rfl gE ?_;refine .ixX (enc:=Fbd.c) (i:=6) hs rfl aD (.some rfl rfl) h1 rfl rfl bB db za dp ?_;intro Po o35 nv;refine .zw 7 rfl (zfa bZ) (.r (i:=8) hs rfl aD (.some rfl rfl) (aF rfl aj (nv.get 0 rfl)) ?_);refine .zw 9 rfl (zfa eY) ?_;refine .y 10 rfl hs aj ?_;refine .z 11 rfl gV ?_;refine .z 12 rfl zpT ?_;refine .z 13 rfl zm ?_;refine .ie (t':=42) rfl (fun Mp=>?_) (fun Mp=>?_)
    ·refine .zw 14 rfl (zfa eY) ?_;refine .y 15 rfl hs aj ?_;refine .z 16 rfl zm ?_;refine .z 17 rfl zm ?_;refine .ixX (enc:=Fbd.c) (i:=18) hs rfl aD (.some rfl rfl) h1 rfl rfl bB db hx dp ?_;intro VF o47 oT;refine .zw 19 rfl (zfa bZ) (.r (i:=20) hs rfl aD (.some rfl rfl) (aF rfl aj (oT.get 0 rfl)) ?_);refine .zw 21 rfl gV ?_;refine .z 22 rfl zpT ?_;refine .D hs ?_;refine (.bA rfl (fun B3=>?_) (fun B3=>?_))
     ·refine .seq (.draw mix rfl hs fun w hs=>?_);refine .zw 0 rfl zm ?_;refine .z 1 rfl zm ?_;refine .z 2 rfl gE ?_;have hX:=lH (a:=(fb0 l.table (k - 1)).least) (b:=(fb0 l.table k).len - l.length) (A:=5000) (B:=100000) ai ai;have hY:=lH (a:=(fb0 l.table k).least) (b:=l.length - (fb0 l.table (k - 1)).len) (A:=5000) (B:=100000) ai ai;have abH:=Int.mul_nonneg a2.1 (show 0≤(fb0 l.table k).len - l.length by omega);have hY0:=Int.mul_nonneg b2.1 (show 0≤l.length - (fb0 l.table (k - 1)).len by omega);have LN:=z8.mid pV ai dv dv;have zR:=LN.bd hl;have Kf:=Vp (a:=(fb0 l.table (k - 1)).least) (b:=(fb0 l.table k).least) (L:=l.length) (show (fb0 l.table (k - 1)).len<(fb0 l.table k).len by omega);rw [←Int.tdiv_eq_ediv_of_nonneg ai] at Kf;change _=FJ l k at Kf;refine .ixX (enc:=Fbd.c) (i:=3) hs rfl aD .none h1 rfl rfl bB db za ai ?_;intro ab4 o55 L3;refine .zw 4 rfl (zfa dW) (.r (i:=5) hs rfl aD .none (aF rfl aj (L3.get 1 rfl)) ?_);refine .zw 6 rfl zm ?_;refine .z 7 rfl zm ?_;refine .ixX (enc:=Fbd.c) (i:=8) hs rfl aD .none h1 rfl rfl bB db hx dp ?_;intro ab1 o60 JO;refine .zw 9 rfl (zfa bZ) (.r (i:=10) hs rfl aD .none (aF rfl aj (JO.get 0 rfl)) ?_);refine .zw 11 rfl (zfa eY) ?_;refine .y 12 rfl hs aj ?_;refine .z 13 rfl gE ?_;refine .z 14 rfl la ?_;refine .z 15 rfl zm ?_;refine .z 16 rfl zm ?_;refine .ixX (enc:=Fbd.c) (i:=17) hs rfl aD .none h1 rfl rfl bB db hx dp ?_;intro b69 o69 YG;refine .zw 18 rfl (zfa dW) (.r (i:=19) hs rfl aD .none (aF rfl aj (YG.get 1 rfl)) ?_);refine .zw 20 rfl (zfa eY) ?_;refine .y 21 rfl hs aj ?_;refine .z 22 rfl zm ?_;refine .z 23 rfl zm ?_;refine .z 24 rfl gE ?_;refine .ixX (enc:=Fbd.c) (i:=25) hs rfl aD .none h1 rfl rfl bB db za dp ?_;intro ab0 o77 G5;refine .zw 26 rfl (zfa bZ) (.r (i:=27) hs rfl aD .none (aF rfl aj (G5.get 0 rfl)) ?_);refine .zw 28 rfl gE ?_;refine .z 29 rfl la ?_;refine .z 30 rfl cV ?_;refine .z 31 rfl zg ?_;refine .D hs ?_;refine .seq (.draw mix rfl hs fun w hs=>?_);refine .zw 0 rfl zm ?_;refine .z 1 rfl zm ?_;refine .ixX (enc:=Fbd.c) (i:=2) hs rfl aD .none h1 rfl rfl bB db hx dp ?_;intro b85 o85 UF;refine .zw 3 rfl (zfa bZ) (.r (i:=4) hs rfl aD .none (aF rfl aj (UF.get 0 rfl)) ?_);refine .zw 5 rfl zm ?_;refine .z 6 rfl zm ?_;refine .z 7 rfl gE ?_;refine .ixX (enc:=Fbd.c) (i:=8) hs rfl aD .none h1 rfl rfl bB db za dp ?_;intro abZ o91 G4;refine .zw 9 rfl (zfa bZ) (.r (i:=10) hs rfl aD .none (aF rfl aj (G4.get 0 rfl)) ?_);refine .zw 11 rfl gE ?_;refine .z 12 rfl zg ?_;refine .D hs ?_;refine .af (.z zm (.z zm (.z cV (.z gE (.z zm (.q hs (yu rfl rfl ai (by rw [Kf];omega)) ?_))))));rw [Kf];exact .z zg (.zn zg (.ret (rB (rT (rT (rB (rT (Fin.iz results103 rfl rfl ⟨_,true,rfl,LN,hs.out⟩))))))))
     ·exact .skip (nB (nT (.region (.z zm (.z cV (.zn zg (nT ⟨k+1,.da rfl bK aM,⟨ai,SW kX (fun _=>by omega),hs⟩,ai⟩)))))))
    ·refine .F 14 rfl (.F 15 rfl (.F 16 rfl (.F 17 rfl (.F 18 rfl (.F 19 rfl (.F 20 rfl (.F 21 rfl (.zw 22 rfl zpF ?_))))))));refine .D hs ?_;exact (.cF (.skip (nB (nT (.region (.z zm (.z cV (.zn zg (nT ⟨k+1,.da rfl bK aM,⟨ai,SW kX (fun _=>by omega),hs⟩,ai⟩)))))))))
   ·refine .F 3 rfl (.F 4 rfl (.F 5 rfl (.F 6 rfl (.F 7 rfl (.F 8 rfl (.F 9 rfl (.F 10 rfl (.F 11 rfl (.zw 12 rfl zpF ?_)))))))));refine .z 13 rfl zm ?_;refine .F 14 rfl (.F 15 rfl (.F 16 rfl (.F 17 rfl (.F 18 rfl (.F 19 rfl (.F 20 rfl (.F 21 rfl (.zw 22 rfl zpF ?_))))))));refine .D hs ?_;exact (.cF (.skip (nB (nT (.region (.z zm (.z cV (.zn zg (nT ⟨k+1,.da rfl bK aM,⟨ai,SW kX (fun _=>by omega),hs⟩,ai⟩)))))))))
 ·refine .exit (xT (xT (xB (nT (.af (.z zg (.zn zg (.ret (Fin.iz results103 rfl rfl ?_)))))))));obtain rfl:k=l.table.length:=by omega
  exact ⟨_,false,rfl,.none (fun i hi=>(fa i hi).1) (fun i hi=>(fa i hi).2),hs.out⟩
theorem Gg{w:World}(hs:St H w σ)(g:LnM H l vt vs):
  ab8 38 [lnA l vt vs] w fun u w'=>∃n e,u= .tuple #[I n,I e]∧Ed l n e∧St H w' σ:=by
 refine Cl.o func38 ntmps38 ag1 ?_;refine .af (.bx hs fun b1 w hs=>?_);refine .z zg (.zn zg (.seq (.af (.y hs (zls [_,_,_,_] ck bw) (.o (.call call20 rfl (iI hs g) ?_))))));rintro _ w ⟨e,rfl,he,hs⟩;refine .zn fU (.dK rfl (fun abh=>?_) (fun abh=>?_))
 ·refine .af (.z zg (.zn zg (.ret (rT (Fin.iz results38 rfl rfl ?_)))));have h:=he.resolve_left fun h=>abh h.2
  exact ⟨_,_,rfl,.lines h.1,hs.out⟩
 ·refine .skip (nT (.af (.y hs (zls [_,_,_,_] ck bw) ?_)));have aU:gL l:=(he.resolve_right fun h=>by omega).1;refine .o (.call call103 rfl (nh hs g aU) ?_);rintro _ w ⟨n,b,rfl,hF,hs⟩;refine .z zex (.z zex (.z zg (.zn zg (.ret (Fin.iz results38 rfl rfl ⟨_,_,rfl,?_,hs.out⟩)))))
  cases b with
  |true=>exact .ok aU hF
  |false=>rw [show n=0 by cases hF;rfl] at*;exact .none aU hF
theorem tX{w:World}{s:Ssn}(hs:St H w σ)(hd:0≤d):ab8 160 [.agg #[I s.zone,I s.fr,I s.to,I s.extra],I d] w fun v w'=>v= .bool (decide (zy s (1+d%365)))∧St H w' σ:=by
 have e:d.tmod 365=d%365:=Int.tmod_eq_emod_of_nonneg hd;refine Cl.o func160 ntmps160 ag2 ?_;refine .af (.bx hs fun b2 w hs=>?_);refine .zn zg (.af (.z zm (.z Gt ?_)));rw [e];refine .z cV (.zn zg (.seq (.af (.z (zfa fm) (.y hs (zld aj) (.z (zfa fl) (.y hs (zld aj) (.zn pc (.bA rfl (fun iq=>?_) (fun iq=>?_))))))))))
 ·refine .af (.z zm (.z (zfa fm) (.y hs (zld aj) (.z (zfa fl) (.y hs (zld aj) (.o (.call qS rfl (eg hs) ?_)))))));rintro _ w ⟨rfl,hs⟩;refine .zn zg (.ret (rT (Fin.bu results160 rfl ⟨?_,hs.out⟩)))
  congr 1
  simp only [zy,if_pos iq]
 ·refine .skip (nT (.af (.z zm (.z (zfa fm) (.y hs (zld aj) (.z tN (.z zm (.ie (t':=24) rfl (fun pN=>?_) (fun pN=>?_)))))))))
  ·refine .Fs 4 4 false (.z zpT (.zn zg (.ret (Fin.bu results160 rfl ⟨?_,hs.out⟩))))
   congr 1
   simp only [zy,if_neg iq]
   symm
   simp [*]
  ·refine .T (.z zm (.T (.z (zfa fl) (.T (.y hs (zld aj) (.T (.z pc (.z zpF (.zn zg (.ret (Fin.bu results160 rfl ⟨?_,hs.out⟩)))))))))))
   congr 1
   simp only [zy,if_neg iq];simp [*]
theorem yQ{w:World}{z:Int}(hs:St H w σ)(g:LnM H l vt vs)(hl:gL l)(hd:0≤d):
  ab8 108 [lnA l vt vs,I z,I d] w fun v w'=>v=I (ky l.seasons z (1+d%365))∧St H w' σ:=by
 have h2:=g.sn;obtain ⟨mq,cs,rfl⟩:=h2.shape;have hm:=hl.most;refine Cl.o func108 ntmps108 ag3 ?_;refine .af (.bx hs fun b3 w hs=>?_);refine .zn zg (.af (.zn zg (.seq (.af (.zn zg (.block ?_))))));refine .loop (fun k:Nat=>⟨42,[],[(8,I (k:Int)),(7,I (ky (l.seasons.take k) z (1+d%365))),(3,Pt b3),(1,I z),(2,I d)]⟩)
  (fun k w=>k≤l.seasons.length∧St H w (.blk b3 (lnC l vt (.slice mq l.seasons.length cs))::σ)) (fun k=>l.seasons.length - k) 0 aM
  ⟨Nat.zero_le _,hs⟩ ?_
 rintro k w ⟨hk,hs⟩;refine .seq (.af (.z zm (.z (zfa du) (.y hs (zld k8) (.z (dk cf) (.zn gV (.bA rfl (fun iq=>?_) (fun iq=>?_))))))))
 ·refine .skip (nT (.seq (.block (.af ?_))));obtain ⟨s,hx⟩:=nth (l:=l.seasons) (k:=k) ai;have hE:=uC (l.seasons.take k) s z (1+d%365);rw [←dX hx] at hE;refine .z (zfa du) (.y hs (zld k8) (.z zm (.ixX (enc:=Ssn.c) hs h2 rfl rfl cf eE hx dp ?_)));intro pX o19 lM;refine .z (zfa kb) (.q hs (aF rfl aj (lM.get 0 rfl)) (.z zm (.z fJ (.z zm (.ie (t':=24) rfl (fun pN=>?_) (fun pN=>?_))))))
  ·refine .T (.z (zfa du) (.T (.y hs (zld k8) (.T (.z zm (.T (.ixX (enc:=Ssn.c) hs h2 rfl rfl cf eE hx dp ?_)))))));intro J1 o28 kr;refine .T (.q hs (cj (vs:=(Ssn.c s)) rfl isAgg104 eE kr) (.T (.z zm (.T (.o (.call call160 rfl (tX (s:=s) hs hd) ?_))))));rintro _ w ⟨rfl,hs⟩;refine .zn zpT (.cond rfl (fun B6=>?_) (fun B6=>?_))
   ·refine .region (.z zm (.z (zfa du) (.y hs (zld k8) (.z zm (.ixX (enc:=Ssn.c) hs h2 rfl rfl cf eE hx dp ?_)))));intro CQ o37 pL;refine .z (zfa ka) (.q hs (aF rfl aj (pL.get 3 rfl)) (.z Je (.zn zg (nB (nT (.region (.z zm (.z cV (.zn zg (nT ?_))))))))));rw [if_pos ⟨by assumption,by simpa using B6⟩] at hE;exact ⟨k+1,.da rfl bK (by rw [hE];exact aM),⟨ai,hs⟩,ai⟩
   ·refine .skip (nB (nT (.region (.z zm (.z cV (.zn zg (nT ?_)))))));rw [if_neg (fun h=>of_decide_eq_false B6 h.2)] at hE;exact ⟨k+1,.da rfl bK (by rw [hE];exact aM),⟨ai,hs⟩,ai⟩
  ·refine .Fs 7 8 true (.zn zpF (.cF (.skip (nB (nT (.region (.z zm (.z cV (.zn zg (nT ?_))))))))));rw [if_neg (fun h=>by have:=h.1;contradiction)] at hE;exact ⟨k+1,.da rfl bK (by rw [hE];exact aM),⟨ai,hs⟩,ai⟩
 ·refine .exit (xT (xT (xB (nT (.af (.z zm (.zn zg (.ret (Fin.bu results108 rfl ?_)))))))));obtain rfl:k=l.seasons.length:=by omega
  exact ⟨by rw [List.take_length],hs.out⟩
theorem u5{w:World}{z:Int}(hs:St H w σ)(g:LnM H l vt vs):
  ab8 107 [lnA l vt vs,I z,I d] w fun v w'=>∃e,v=I e∧HI l z d e∧St H w' σ:=by
 refine Cl.o func107 ntmps107 ag3 ?_;refine .af (.bx hs fun b3 w hs=>?_);refine .zn zg (.seq (.af (.y hs (zls [_,_,_,_] ck bw) (.o (.call call20 rfl (iI hs g) ?_)))));rintro _ w ⟨e,rfl,he,hs⟩;refine .zn fU (.dK rfl (fun om=>?_) (fun om=>?_))
 ·refine .af (.zn zg (.ret (rT (Fin.bu results107 rfl ?_))));have h:=he.resolve_left fun h=>om h.2
  exact ⟨_,rfl,.lines h.1,hs.out⟩
 ·refine .skip (nT (.seq (.af ?_)));have aU:gL l:=(he.resolve_right fun h=>by omega).1;refine .z zm (.o (.call qS rfl (eg hs) ?_));rintro _ w ⟨rfl,hs⟩;refine .zn fE (.cond rfl (fun fk=>?_) (fun fk=>?_))
  ·exact .af (.zn zg (.ret (rT (Fin.bu results107 rfl ⟨_,rfl,.zone aU (by simp at fk;omega),hs.out⟩))))
  ·refine .skip (nT (.seq (.af (.z zm (.o (.call qS rfl (eg hs) ?_))))));rintro _ w ⟨rfl,hs⟩;refine .zn fE (.cond rfl (fun fq=>?_) (fun fq=>?_))
   ·exact .af (.zn zg (.ret (rT (Fin.bu results107 rfl ⟨_,rfl,.day aU (by simpa using fk) (by simp at fq;omega),hs.out⟩))))
   ·exact .skip (nT (.af (.zn zg (.ret (Fin.bu results107 rfl ⟨_,rfl,.ok aU (by simpa using fk) (by simpa using fq),hs.out⟩)))))
theorem xo{w:World}{z:Int}(hs:St H w σ)(g:LnM H l vt vs):
  ab8 42 [lnA l vt vs,I z,I d] w fun u w'=>∃n e,u= .tuple #[I n,I e]∧Ku l z d n e∧St H w' σ:=by
 refine Cl.o func42 ntmps42 ag3 ?_;refine .af (.bx hs fun b3 w hs=>?_);refine .z zg (.zn zg (.af (.y hs (zls [_,_,_,_] ck bw) (.z zm (.z zm (.o (.call call107 rfl (u5 hs g) ?_)))))));rintro _ w ⟨e,rfl,he,hs⟩;refine .zn zg (.seq (.af (.z zm (.zn fU (.dK rfl (fun dY=>?_) (fun dY=>?_))))))
 ·exact .af (.z zm (.z zg (.zn zg (.ret (rT (Fin.iz results42 rfl rfl ⟨_,_,rfl,.bad he dY,hs.out⟩))))))
 ·refine .skip (nT (.af (.y hs (zls [_,_,_,_] ck bw) ?_)));obtain rfl:e=0:=by omega
  obtain ⟨aU,hz,hd⟩:=he.zero;refine .o (.call call103 rfl (nh hs g aU) ?_);rintro _ w ⟨n,b,rfl,hF,hs⟩;refine .z zm (.z zex (.z zex (.z zg (.zn zg (.seq (.af (.z zm (.zn fU (.dK rfl (fun jw=>?_) (fun jw=>?_))))))))))
  ·refine .af (.z zm (.z zg (.zn zg (.ret (rT (Fin.iz results42 rfl rfl ?_))))));obtain rfl:b=false:=by cases b;rfl;exact (jw rfl).elim
   exact ⟨_,_,rfl,.none he hF,hs.out⟩
  ·refine .skip (nT (.seq (.draw mix rfl hs fun w hs=>?_)));refine .zw 0 rfl (zfa jN) ?_;obtain rfl:b=true:=by cases b;simp at jw;rfl
   have hn:=hF.bd aU;have RE:=aU.depth;have hE:=wi aU.seasons z (1+d%365);refine .y 1 rfl hs aj ?_;refine .z 2 rfl zm ?_;refine .z 3 rfl gE ?_;refine .ys 4 rfl hs [_,_,_,_] ck bw ?_;refine .z 5 rfl zm ?_;refine .z 6 rfl zm ?_;refine .E 7 hs ?_;refine .call call108 rfl (yQ hs g aU hd.1) ?_;rintro _ w ⟨rfl,hs⟩;refine .go (.zw 8 rfl gE ?_);refine .z 9 rfl zg ?_;refine .z 10 rfl zg ?_;refine .D hs ?_;exact .ret (Fin.iz results42 rfl rfl ⟨_,_,rfl,.ok he hF,hs.out⟩)
theorem yR{w:World}{h:Int}(hs:St H w σ)(h2:RI H cO s.wa)(aU:fB s):
  ab8 114 [spA s cU cO,I h] w fun u w'=>∃k,u=I k∧BK s.wa h k∧St H w' σ:=by
 obtain ⟨gX,gW,rfl⟩:=RI.shape h2;have hm:=aU.wa.many;have hr:=fun {i j:Nat}=>aU.wa.le (i:=i) (j:=j)
 refine Cl.o func114 ntmps114 ag2 ?_;refine .af (.bx hs fun b2 w hs=>?_);refine .zn zg (.af (.zn zg (.seq (.af (.zn zg (.block ?_))))));refine .loop (fun p:Nat×Int=>⟨28,[],[(6,I (p.1:Int)),(5,I p.2),(2,Pt b2),(1,I h)]⟩)
  (fun p w=>(p.1≤s.wa.length∧-1≤p.2∧p.2<p.1)∧(∀i<p.1,gi s.wa i - gi s.wa 0≤h↔(i:Int)≤p.2)∧St H w (.blk b2 (spC s cU (.slice gX s.wa.length gW))::σ)) (fun p=>s.wa.length - p.1) (0,-1) aM
  ⟨by dsimp only;omega,fun i hi=>by dsimp only at hi;omega,hs⟩ ?_
 rintro ⟨k,q⟩ w ⟨hk,tk,hs⟩;dsimp only at hk tk ⊢;refine .seq (.af (.z zm (.z (zfa aZ) (.y hs (zld an) (.z (dk ae) (.zn gV (.bA rfl (fun pM=>?_) (fun pM=>?_))))))))
 ·refine .skip (nT (.seq (.block (.seq (.draw mix rfl hs fun w hs=>?_)))));have pV:k<s.wa.length:=by omega
  have c1:=aU.wa.bd pV;have c2:=aU.wa.bd (i:=0) ai;refine .zw 0 rfl (zfa aZ) ?_;refine .y 1 rfl hs an ?_;refine .z 2 rfl zm ?_;refine .ixX (enc:=fun x=>[I x]) (i:=3) hs rfl aD .none h2 rfl rfl ae ak (bG (l:=s.wa) (i:=k) ai) dp ?_;intro J2 o17 i7;replace i7:=bJ.one i7;refine .r (i:=4) hs rfl aD .none (aF rfl aj i7) ?_;refine .zw 5 rfl (zfa aZ) ?_;refine .y 6 rfl hs an ?_;refine .ixX (enc:=fun x=>[I x]) (i:=7) hs rfl aD .none h2 rfl rfl ae ak (bG (l:=s.wa) (i:=0) ai) dp ?_;intro wV o21 jx;replace jx:=bJ.one jx;refine .r (i:=8) hs rfl aD .none (aF rfl aj jx) ?_;refine .zw 9 rfl gE ?_;refine .z 10 rfl zm ?_;refine .z 11 rfl pc ?_;refine .D hs ?_;refine (.bA rfl (fun gv=>?_) (fun gv=>?_))
  ·refine .region (.z zm (.zn zg (nB (nT (.region (.z zm (.z cV (.zn zg (nT ?_)))))))));exact ⟨(k+1,(k:Int)),.da rfl bK aM,⟨by dsimp only;omega,fun i hi=>by
    dsimp only at hi ⊢;have:=hr (show i≤k by omega) pV;omega,hs⟩,by dsimp only;omega⟩
  ·refine .skip (nB (nT (.region (.z zm (.z cV (.zn zg (nT ?_)))))));exact ⟨(k+1,q),.da rfl bK aM,⟨by dsimp only;omega,fun i hi=>by
    dsimp only at hi ⊢;by_cases e:i=k
    ·subst e;omega
    ·exact tk i ai,hs⟩,by dsimp only;omega⟩
 ·refine .exit (xT (xT (xB (nT (.af (.z zm (.zn zg (.ret (Fin.bu results114 rfl ?_)))))))));obtain rfl:k=s.wa.length:=by omega
  exact ⟨_,rfl,⟨ai,ai,tk⟩,hs.out⟩
theorem Ay{w:World}{z:Int}(hs:St H w σ)(g1:RI H cU s.st)(g2:RI H cO s.wa)(g:LnM H l vt vs):
  ab8 46 [spA s cU cO,lnA l vt vs,I z,I d] w fun u w'=>∃k e,u= .tuple #[I k,I e]∧HE s l z d k e∧St H w' σ:=by
 refine Cl.o func46 ntmps46 ag4 ?_;refine .af (.bx hs fun b4 w hs=>?_);refine .bx hs fun b5 w hs=>?_
 refine .z zg (.zn zg (.seq (.af (.y hs (zls [_,_,_,_,_,_] bY bq) (.o (.call call113 rfl (jZ (s:=s) hs g1 g2) ?_))))));rintro _ w ⟨e,rfl,he,hs⟩;refine .zn fU (.dK rfl (fun fq=>?_) (fun fq=>?_))
 ·refine .af (.z zg (.zn zg (.ret (rT (Fin.iz results46 rfl rfl ?_)))));have h:=he.resolve_left fun h=>fq h.2
  exact ⟨_,_,rfl,.space h.1,hs.out⟩
 ·refine .skip (nT (.af (.y hs (zls [_,_,_,_] ck bw) (.z zm (.z zm ?_)))));have aU:fB s:=(he.resolve_right fun h=>by omega).1;refine .o (.call call42 rfl (xo hs g) ?_);rintro _ w ⟨h,f,rfl,hH,hs⟩;refine .z zm (.z zex (.z zex (.z zg (.zn zg (.seq (.af (.z zm (.zn fU (.dK rfl (fun jw=>?_) (fun jw=>?_))))))))))
  ·exact .af (.z zm (.z zg (.zn zg (.ret (rT (Fin.iz results46 rfl rfl ⟨_,_,rfl,.bad aU hH jw,hs.out⟩))))))
  ·refine .skip (nT (.af (.y hs (zls [_,_,_,_,_,_] bY bq) (.z zm ?_))));obtain rfl:f=0:=by omega
   refine .o (.call call114 rfl (yR (s:=s) hs g2 aU) ?_);rintro _ w ⟨k,rfl,hB,hs⟩;refine .zn zg (.seq (.af (.z zm (.zn gV (.bA rfl (fun qi=>?_) (fun qi=>?_))))))
   ·refine .af (.z zg (.zn zg (.ret (rT (Fin.iz results46 rfl rfl ?_)))));have hk:=hB.low;obtain rfl:k= -1:=by omega
    exact ⟨_,_,rfl,.above aU hH hB,hs.out⟩
   ·exact .skip (nT (.af (.z zm (.z zg (.zn zg (.ret (Fin.iz results46 rfl rfl ⟨_,_,rfl,.ok aU hH hB ai,hs.out⟩)))))))
theorem py{w:World}(hs:St H w σ)(g1:RI H cU s.st)(g2:RI H cO s.wa)(g:LnM H l vt vs)(Gi:fB s)(hl:gL l)(hx:yH x):
  ab8 116 [spA s cU cO,lnA l vt vs,lgA x] w fun u w'=>∃k e,u= .tuple #[I k,I e]∧yG s.wa l x k e∧St H w' σ:=by
 obtain ⟨gX,gW,rfl⟩:=RI.shape g2;have hd:=wm hx;have A4:(mY x:Int)=min x.to (x.fr+364) - x.fr+1:=by have:=hx.fr;unfold mY;omega
 have hf:=hx.fr;have ht:=hx.to;refine Cl.o func116 ntmps116 ag3 ?_;refine .af (.bx hs fun b3 w hs=>?_);refine .bx hs fun b4 w hs=>?_
 refine .bx hs fun b5 w hs=>?_
 refine .z zg (.zn zg (.af (.z (zfa aZ) (.y hs (zld an) (.z (dk ae) (.zn zg (.seq (.af (.z (zfa gR) (.y hs (zld aj) (.zn zg (.block ?_))))))))))));refine .loop (fun p:Nat×Int=>⟨46,[],[(9,I (x.fr+(p.1:Int))),(8,I p.2),(5,Pt b5),(4,Pt b4),(3,Pt b3)]⟩)
  (fun p w=>p.1≤mY x∧Tn s.wa l x p.1 p.2∧St H w (.blk b5 (lgC x):: .blk b4 (lnC l vt vs):: .blk b3 (spC s cU (.slice gX s.wa.length gW))::σ)) (fun p=>mY x - p.1) (0,(s.wa.length:Int)) (.cons (by show some (I _)=some (I _);congr 2;omega) aM)
  ⟨Nat.zero_le _,.inl ⟨rfl,rfl⟩,hs⟩ ?_
 rintro ⟨j,mK⟩ w ⟨hj,hI,hs⟩;dsimp only at hj hI ⊢;refine .seq (.af (.z zm (.z (zfa gQ) (.y hs (zld aj) (.z pc (.z zm (.ie (t':=21) rfl (fun xQ=>?_) (fun xQ=>?_))))))))
 ·refine .T (.z zm (.T (.z (zfa gR) (.T (.y hs (zld aj) (.T (.z cV (.T (.z gV (.zn zpT (.bA rfl (fun nS=>?_) (fun nS=>?_))))))))))))
  ·refine .skip (nT (.seq (.block (.af (.y hs (zls [_,_,_,_,_,_] bY bq) (.y hs (zls [_,_,_,_] ck bw) (.z (zfa mH) (.y hs (zld aj) (.z zm (.o (.call call46 rfl (Ay (s:=s) hs g1 g2 g) ?_)))))))))));rintro _ w ⟨k,e,rfl,hM,hs⟩;have abP:=hM.day Gi hl hx ai;refine .z zm (.z zex (.z zex (.z zg (.zn zg (.seq (.af (.z zm (.zn fU (.dK rfl (fun pK=>?_) (fun pK=>?_))))))))))
   ·exact .af (.z zm (.z zg (.zn zg (.ret (rT (rB (rT (rT (rB (rT (Fin.iz results116 rfl rfl ⟨_,_,rfl,(abP.resolve_right fun h=>pK h.1).2,hs.out⟩)))))))))))
   ·refine .skip (nT (.region (.z zm (.z zm (.z EE (.zn zg (nB (nT (.region (.z zm (.z cV (.zn zg (nT ?_)))))))))))));obtain ⟨_,Gm,n,h1,h2⟩:=abP.resolve_left fun h=>h.1 ai
    exact ⟨(j+1,min mK k),.cons (by show some (I _)=some (I _);congr 2;omega) aM,⟨by dsimp only;omega,hI.step hl h1 h2 Gm,hs⟩,by dsimp only;omega⟩
  ·refine .exit (xT (xT (xB (nT (.af (.z zm (.z zg (.zn zg (.ret (Fin.iz results116 rfl rfl ?_))))))))));obtain rfl:j=mY x:=by omega
   exact ⟨_,_,rfl,hI.done hx,hs.out⟩
 ·refine .Fs 5 4 true (.zn zpF (.cF (.exit (xT (xT (xB (nT (.af (.z zm (.z zg (.zn zg (.ret (Fin.iz results116 rfl rfl ?_)))))))))))));obtain rfl:j=mY x:=by omega
  exact ⟨_,_,rfl,hI.done hx,hs.out⟩
theorem xm{w:World}(hs:St H w σ)(g1:RI H cU s.st)(g2:RI H cO s.wa)(g:LnM H l vt vs):
  ab8 48 [spA s cU cO,lnA l vt vs,lgA x] w fun u w'=>∃k e,u= .tuple #[I k,I e]∧VV s l x k e∧St H w' σ:=by
 refine Cl.o func48 ntmps48 ag3 ?_;refine .af (.bx hs fun b3 w hs=>?_);refine .bx hs fun b4 w hs=>?_
 refine .bx hs fun b5 w hs=>?_
 refine .z zg (.zn zg (.seq (.af (.y hs (zls [_,_,_,_,_,_] bY bq) (.o (.call call113 rfl (jZ (s:=s) hs g1 g2) ?_))))));rintro _ w ⟨e,rfl,he,hs⟩;refine .zn fU (.dK rfl (fun mB=>?_) (fun mB=>?_))
 ·refine .af (.z zg (.zn zg (.ret (rT (Fin.iz results48 rfl rfl ?_)))));have h:=he.resolve_left fun h=>mB h.2
  exact ⟨_,_,rfl,.space h.1,hs.out⟩
 ·refine .skip (nT (.seq (.af (.y hs (zls [_,_,_,_] ck bw) ?_))));have aU:fB s:=(he.resolve_right fun h=>by omega).1;refine .o (.call call20 rfl (iI hs g) ?_);rintro _ w ⟨e,rfl,he,hs⟩;refine .zn fU (.dK rfl (fun iq=>?_) (fun iq=>?_))
  ·refine .af (.z zg (.zn zg (.ret (rT (Fin.iz results48 rfl rfl ?_)))));have h:=he.resolve_left fun h=>iq h.2
   exact ⟨_,_,rfl,.lines aU h.1,hs.out⟩
  ·refine .skip (nT (.seq (.af (.y hs (zls [_,_,_,_,_,_,_] ep bg) ?_))));have hl:gL l:=(he.resolve_right fun h=>by omega).1;refine .o (.call call76 rfl (qw (x:=x) hs) ?_);rintro _ w ⟨b,rfl,hb,hs⟩;refine .zn fE (.cond rfl (fun dY=>?_) (fun dY=>?_))
   ·exact .af (.z zg (.zn zg (.ret (rT (Fin.iz results48 rfl rfl ⟨_,_,rfl,.leg aU hl (fun h=>by rw [hb.2 h] at dY;cases dY),hs.out⟩)))))
   ·refine .skip (nT (.af (.y hs (zls [_,_,_,_,_,_] bY bq) (.y hs (zls [_,_,_,_] ck bw) (.y hs (zls [_,_,_,_,_,_,_] ep bg) ?_)))));have hx:yH x:=hb.1 (by simpa using dY);refine .o (.call call116 rfl (py (s:=s) (x:=x) hs g1 g2 g aU hl hx) ?_);rintro _ w ⟨k,e,rfl,hL,hs⟩;exact .z zex (.z zex (.z zg (.zn zg (.ret (Fin.iz results48 rfl rfl ⟨_,_,rfl,.go aU hl hx hL,hs.out⟩)))))
theorem yT{w:World}{s:Srv}{a b c d:Value}(hs:St H w σ)(g:SvM H s a b c d)(aU:ew s):
  ab8 144 [svA s a b c d] w fun u w'=>∃H1 bb,HLe H H1∧u= .bool bb∧(bb=true↔¬s.sys.Sound)∧St H1 w' σ:=by
 refine Cl.o func144 ntmps144 ag1 ?_;refine .af (.bx hs fun b1 w hs=>?_);refine .zn zg (.af (.y hs (zls [_,_,_,_,_,_,_,_] bn aK) (.o (.call call205 rfl (ma (s:=s) hs g.st g.wa g.rd g.cm aU.early) ?_))));rintro v7 w ⟨H1,az,hS,hs⟩;refine .o (.call call147 rfl (mS (s:=s.sys) hs hS) ?_);rintro _ w ⟨H2,vt,e,bp,rfl,hC,hs⟩;refine .z zm (.z zex (.z zex (.z zg (.zn zg (.af (.z zm (.z fU (.zn zg (.ret (Fin.bu results144 rfl ⟨H2,_,az.trans bp,rfl,?_,hs.out⟩))))))))))
 rcases hC with ⟨h,_⟩|⟨_,h,rfl,_⟩|⟨_,h,rfl,_⟩
 ·exact (h (s.sys.dr.2 aU.sys)).elim
 ·simp [h]
 ·simp [h]
theorem pz{w:World}{s:Srv}{a b c d:Value}(hs:St H w σ)(g:SvM H s a b c d)(aU:ew s):
  ab8 83 [svA s a b c d,I (k:Int)] w fun u w'=>∃H1 lo hi e,HLe H H1∧u= .tuple #[.agg #[I lo,I hi],I e]∧CX s k lo hi e∧St H1 w' σ:=by
 refine Cl.o func83 ntmps83 ag2 ?_;refine .af (.bx hs fun b2 w hs=>?_);refine .o (.alloc hs dy rfl fun b4 w hs=>?_);refine .zn zg (.seq (.af (.z zm (.zn ld (.bA rfl (fun P8=>?_) (fun P8=>?_))))))
 ·refine .af (.y hs (zls [_,_,_,_,_,_,_,_] bn aK) (.z zm (.z (zbd [I 1,I 0,I (k:Int)] sD) (.o (.call call143 rfl (yU (s:=s) (q:=⟨1,0,k⟩) hs g.st g.wa g.rd g.cm) ?_)))));rintro _ w ⟨H1,lo,hi,e,az,rfl,hQ,hs⟩;refine .z zex (.z zex (.o (.aJ (vs:=[_,_]) hs rfl rfl aH fun w hs=>?_)));exact .zn zg (.ret (rT ((Fin.iG [] [] hs fun w hs=>⟨_,results2 results83 (dm (vs:=[_,_]) hs rfl cE aH) rfl,H1,_,_,_,az,rfl,.up ai hQ,hs.out⟩))))
 ·refine .skip (nT (.seq (.af (.y hs (zls [_,_,_,_,_,_,_,_] bn aK) ?_))));obtain rfl:k=0:=by omega
  refine .o (.call call144 rfl (yT (s:=s) hs g aU) ?_);rintro _ w ⟨H1,bb,az,rfl,hF,hs⟩;refine .nil (.cond rfl (fun fq=>?_) (fun fq=>?_))
  ·refine .af (.z (zbd [_,_] bL) (.o (.aJ (vs:=[_,_]) hs rfl rfl aH fun w hs=>?_)));exact .zn zg (.ret (rT ((Fin.iG [] [] hs fun w hs=>⟨_,results2 results83 (dm (vs:=[_,_]) hs rfl cE aH) rfl,H1,_,_,_,az,rfl,.fls rfl aU (hF.1 (by simpa using fq)),hs.out⟩))))
  ·refine .skip (nT (.af (.z (zbd [_,_] bL) (.o (.aJ (vs:=[_,_]) hs rfl rfl aH fun w hs=>?_)))));exact .zn zg (.ret (Fin.iG [] [] hs fun w hs=>⟨_,results2 results83 (dm (vs:=[_,_]) hs rfl cE aH) rfl,H1,_,_,_,az,rfl,.zero rfl aU (Classical.byContradiction fun h=>by rw [hF.2 h] at fq;cases fq),hs.out⟩))
theorem kn{w:World}{n:Int}(hs:St H w σ)(hn: -4000000000000≤n∧n≤4000000000000)(hd: -100000≤d∧d≤100000):ab8 52 [I n,I d] w fun v w'=>v=I (mV n d)∧St H w' σ:=by
 have hm:=lH (a:=n) (b:=d) (A:=4000000000000) (B:=100000) ai ai;refine Cl.o func52 ntmps52 ag2 ?_;refine .af (.zn zg (.af (.z zm (.z zm (.z la (.o (.call aap rfl (hZ hs ai ai) ?_)))))));rintro _ w ⟨rfl,hs⟩;exact .zn zg (.ret (Fin.bu results52 rfl ⟨rfl,hs⟩))
theorem xk{w:World}{x y:Int}(hs:St H w σ)(h1: -200000000≤lo∧lo≤200000000)(h2: -200000000≤hi∧hi≤200000000)(hd:gg x y):
  ab8 85 [.agg #[I lo,I hi],.agg #[I x,I y]] w fun v w'=>v= .agg #[I (Ar lo x y),I (Cq hi x y)]∧St H w' σ:=by
 unfold gg at hd;refine Cl.o func85 ntmps85 ag2 ?_;refine .af (.bx hs fun b2 w hs=>?_);refine .bx hs fun b3 w hs=>?_
 refine .o (.alloc hs dy rfl fun b4 w hs=>?_);refine .nil (.seq (.draw mix rfl hs fun w hs=>?_));refine .zw 0 rfl (zfa bH) ?_;refine .y 1 rfl hs aj ?_;refine .z 2 rfl (zfa bH) ?_;refine .y 3 rfl hs aj ?_;refine .z 5 rfl (zfa bH) ?_;refine .y 6 rfl hs aj ?_;refine .z 7 rfl (zfa cP) ?_;refine .y 8 rfl hs aj ?_;refine .z 11 rfl (zfa cP) ?_;refine .y 12 rfl hs aj ?_;refine .zw 13 rfl (zfa bH) ?_;refine .y 14 rfl hs aj ?_;refine .z 16 rfl (zfa cP) ?_;refine .y 17 rfl hs aj ?_;refine .z 18 rfl (zfa cP) ?_;refine .y 19 rfl hs aj ?_;refine .E 4 hs ?_;refine .call call52 rfl (kn hs ai ai) ?_;rintro _ w ⟨rfl,hs⟩;refine .go (.E 9 hs ?_);refine .call call52 rfl (kn hs ai ai) ?_;rintro _ w ⟨rfl,hs⟩;refine .go (.zw 10 rfl EE (.E 15 hs ?_));refine .call call52 rfl (kn hs ai ai) ?_;rintro _ w ⟨rfl,hs⟩;refine .go (.E 20 hs ?_);refine .call call52 rfl (kn hs ai ai) ?_;rintro _ w ⟨rfl,hs⟩;refine .go (.zw 21 rfl Je ?_);refine .z 22 rfl (zbd [_,_] bL) ?_;refine .E 23 hs ?_;refine .aJ (vs:=[_,_]) hs rfl rfl aH ?_;intro w hs;exact .go (.D hs (.ret (Fin.iG [] [] hs fun w hs=>⟨_,results1 results85 (dm (vs:=[_,_]) hs rfl cE aH),rfl,hs.out⟩)))
theorem cM{w:World}{n:Int}(hs:St H w σ)(hm:1≤m∧m≤4611686018427387904):ab8 36 [I n,I m] w fun u w'=>u=I (tC n m)∧St H w' σ:=by
 have h1:=Int.tmod_lt_of_pos n (show 0<m by omega);have h2:=Int.lt_tmod_of_pos n (show 0<m by omega);refine Cl.o func36 ntmps36 ag2 ?_;exact .af (.zn zg (.af (.z zm (.z zm (.z Gt (.z zm (.z cV (.z zm (.z Gt (.zn zg (.ret (Fin.bu results36 rfl ⟨rfl,hs⟩))))))))))))
theorem eJ{w:World}{v:Value}{l:List Int}{i n:Int}(hs:St H w σ)(hr:RI H v l)(hi:0≤i)(hn:1≤n∧n≤1000000):ab8 141 [v,I i,I n] w fun u w'=>∃x,u=I x∧(0≤x∧x<n)∧St H w' σ:=by
 obtain ⟨a,c,rfl⟩:=RI.shape hr;refine Cl.o func141 ntmps141 ag3 ?_;refine .af (.zn zg (.seq (.af (.z zm (.z (dk ae) (.zn fJ (.bA rfl (fun om=>?_) (fun om=>?_))))))))
 ·exact .af (.zn zg (.ret (rT (Fin.bu results141 rfl ⟨0,rfl,ai,hs⟩))))
 ·refine .skip (nT (.af (.z zm (.z zm (.z zm (.z (dk ae) (.z Gt ?_)))))));have h1:=Int.tmod_lt_of_pos i (show 0<(l.length:Int) by omega);have h2:=Int.tmod_nonneg (l.length:Int) hi;refine .ixX (enc:=fun x=>[I x]) hs hr rfl rfl ae ak (bG (l:=l) (i:=(i.tmod l.length).toNat) ai) ai ?_;intro Gq o15 fq;replace fq:=bJ.one fq;refine .y hs (zld aj) (.z zm (.o (.call jE rfl (cM hs ai) ?_)));rintro _ w ⟨rfl,hs⟩;exact .zn zg (.ret (Fin.bu results141 rfl ⟨_,rfl,kB _ hn.1,hs⟩))
theorem lB{w:World}{b c fr:Int}(hs:St H w σ)(hf:0≤fr∧fr≤1000000):ab8 142 [.agg #[I a,I b,I c,I d,I e,I f],I fr] w fun u w'=>∃x,u=lgA x∧M8 x fr∧St H w' σ:=by
 have m1:=kB a (m:=3) ai;have m2:=kB b (m:=40) ai;have m3:=kB c (m:=60) ai;have m4:=kB d (m:=100) ai;have m5:=kB (IntKind.i64.wrap (d.tdiv 100)) (m:=40) ai;have m6:=kB e (m:=500) ai;have m7:=kB f (m:=200) ai;refine Cl.o func142 ntmps142 ag2 ?_;refine .af (.bx hs fun b2 w hs=>?_);refine .o (.alloc hs fg rfl fun b4 w hs=>?_);refine .nil (.cut (fun fs w=>∃b5,lr fs ⟨50,[],[(5,Pt b5),(4,Pt b4),(2,Pt b2)]⟩∧St H w (.blk b5 [I (1+tC a 3),I (fr+tC b 40),I 0,I 0,I 0,I 0,I 0]:: .blk b4 [I 0,I 0,I 0,I 0,I 0,I 0,I 0]:: .blk b2 [I a,I b,I c,I d,I e,I f]::σ)) ?_ ?_)
 ·refine .draw mix rfl hs fun w hs=>?_
  refine .zw 0 rfl (zia 0 ja ak) (.y 1 rfl hs aj ?_);refine .z 4 rfl zm ?_;refine .zw 5 rfl (zia 1 ja ak) (.zv 6 rfl hs (qf aj) (.e2 (i:=2) (j:=10) aD rfl rfl rfl rfl .none .none hs ?_ ?_))
  ·refine .call jE rfl (cM hs ai) ?_;rintro _ w ⟨rfl,hs⟩;refine .go (.zw 3 rfl cV (.e2 (i:=7) (j:=10) aD rfl rfl rfl rfl .none .none hs ?_ ?_))
   ·refine .call jE rfl (cM hs ai) ?_;rintro _ w ⟨rfl,hs⟩;refine .go (.zw 8 rfl cV ?_);refine .z 9 rfl (zbd [_,_,_,_,_,_,_] mh) ?_;refine .E 10 hs ?_;refine .alloc hs fg rfl ?_;intro b5 w hs;refine .go (.E 11 hs ?_);refine .aJ (vs:=[_,_,_,_,_,_,_]) hs rfl rfl bg ?_;intro w hs;exact .go (.D hs (nT ⟨b5,aM,hs.sb⟩))
   ·refine .alloc hs fg rfl ?_;intro b5 w hs;refine .go (.E 7 hs ?_);refine .call jE rfl (cM hs ai) ?_;rintro _ w ⟨rfl,hs⟩;refine .go (.zw 8 rfl cV ?_);refine .z 9 rfl (zbd [_,_,_,_,_,_,_] mh) ?_;refine .E 11 hs ?_;refine .aJ (vs:=[_,_,_,_,_,_,_]) hs rfl rfl bg ?_;intro w hs;exact .go (.D hs (nT ⟨b5,aM,hs.sb⟩))
  ·refine .alloc hs fg rfl ?_;intro b5 w hs;refine .go (.E 2 hs ?_);refine .call jE rfl (cM hs ai) ?_;rintro _ w ⟨rfl,hs⟩;refine .go (.zw 3 rfl cV (.E 7 hs ?_));refine .call jE rfl (cM hs ai) ?_;rintro _ w ⟨rfl,hs⟩;refine .go (.zw 8 rfl cV ?_);refine .z 9 rfl (zbd [_,_,_,_,_,_,_] mh) ?_;refine .E 11 hs ?_;refine .aJ (vs:=[_,_,_,_,_,_,_]) hs rfl rfl bg ?_;intro w hs;exact .go (.D hs (nT ⟨b5,aM,hs.sb⟩))
 ·rintro fs w ⟨b5,gP,hs⟩;refine WE.sub ?_ gP;clear gP;refine .seq (.draw mix rfl hs fun w hs=>?_);refine .zw 0 rfl (zfa gR) ?_;refine .y 1 rfl hs aj ?_;refine .zw 2 rfl (zia 2 ja ak) (.zv 3 rfl hs (qf aj) (.E 4 hs ?_));refine .call jE rfl (cM hs ai) ?_;rintro _ w ⟨rfl,hs⟩;refine .go (.zw 5 rfl cV ?_);refine .z 6 rfl (zfa gQ) ?_;refine .E 7 hs ?_;refine .store hs rfl rfl ak ?_;intro w hs;refine .go (.D hs (.af (.z (zia 3 ja ak) (.y hs (zld aj) (.o (.call jE rfl (cM hs ai) ?_))))));rintro _ w ⟨rfl,hs⟩;refine .z cV (.zn zg (.af (.z zm (.z zm (.z (zia 3 ja ak) (.y hs (zld aj) (.z SM (.o (.call jE rfl (cM hs ai) ?_)))))))));rintro _ w ⟨rfl,hs⟩;refine .z cV (.z (zbd [_,_] bL) (.z (zfa fA) (.o (.aJ (vs:=[_,_]) hs rfl rfl aH fun w hs=>?_))));refine .nil (.seq (.draw mix rfl hs fun w hs=>?_));refine .zw 0 rfl (zia 4 ja ak) (.zv 1 rfl hs (qf aj) (.zw 3 rfl (zia 4 ja ak) (.zv 4 rfl hs (qf aj) (.zw 6 rfl (zia 5 ja ak) (.zv 7 rfl hs (qf aj) (.E 2 hs ?_))))));refine .call jE rfl (cM hs ai) ?_;rintro _ w ⟨rfl,hs⟩;refine .go (.E 5 hs ?_);refine .call jE rfl (cM hs ai) ?_;rintro _ w ⟨rfl,hs⟩;refine .go (.E 8 hs ?_);refine .call jE rfl (cM hs ai) ?_;rintro _ w ⟨rfl,hs⟩;refine .go (.zw 9 rfl cV ?_);refine .z 10 rfl (zbd [_,_] bL) ?_;refine .z 11 rfl (zfa iM) ?_;refine .E 12 hs ?_;refine .aJ (vs:=[_,_]) hs rfl rfl aH ?_;intro w hs;refine .go (.D hs (.af (.y hs (zls [_,_,_,_,_,_,_] ep bg) (.o (.aJ (vs:=[_,_,_,_,_,_,_]) hs rfl rfl bg fun w hs=>?_)))));exact .nil (.ret (Fin.iG [] [] hs fun w hs=>⟨_,results1 results142 (dm (vs:=lgC ⟨1+tC a 3,fr+tC b 40,fr+tC b 40+tC c 60,950+tC d 100,950+tC d 100+tC (IntKind.i64.wrap (d.tdiv 100)) 40,tC e 500,tC e 500+tC f 200⟩) hs rfl ep bg),⟨1+tC a 3,fr+tC b 40,fr+tC b 40+tC c 60,950+tC d 100,950+tC d 100+tC (IntKind.i64.wrap (d.tdiv 100)) 40,tC e 500,tC e 500+tC f 200⟩,rfl,⟨by dsimp only;omega,by dsimp only;omega,by dsimp only;omega,by dsimp only;omega,by dsimp only;omega,by dsimp only;omega,by dsimp only;omega⟩,hs.out⟩))
theorem tZ{w:World}{v:Value}{ns:List Int}(hs:St H w σ)(hr:RI H v ns):
  ab8 77 [v] w fun u w'=>∃l vt vs e1 e2,u=lnA l vt vs∧VU l∧dj 2 vt (fbc l.table).flatten e1∧dj 4 vs (snc l.seasons).flatten e2∧St H w' (e2::e1::σ):=by
 refine Cl.o func77 ntmps77 ag1 ?_;refine .af (.o (.alloc hs o6 rfl fun b2 w hs=>?_));refine .nil (.af (.z zm (.o (.call yo rfl (eJ hs hr ai ai) ?_))));rintro _ w ⟨x6,rfl,g6,hs⟩;refine .z cV (.z zm (.o (.call yo rfl (eJ hs hr ai ai) ?_)));rintro _ w ⟨x9,rfl,g9,hs⟩;refine .z cV (.z (zbd [I (100+x6),I (200+x9),.slice none 0 0,.slice none 0 0] wH rfl aD) (.o (.alloc hs o6 rfl fun b3 w hs=>?_)));refine .o (.aJ (vs:=[_,_,_,_]) hs rfl rfl bw fun w hs=>?_);refine .nil (.af (.z zm (.o (.call yo rfl (eJ hs hr ai ai) ?_))));rintro _ w ⟨x13,rfl,g13,hs⟩;refine .z (zbd [_,_] jr) (.z zm (.o (.call yo rfl (eJ hs hr ai ai) ?_)));rintro _ w ⟨x16,rfl,g16,hs⟩;refine .z cV (.z zm (.o (.call yo rfl (eJ hs hr ai ai) ?_)));rintro _ w ⟨x19,rfl,g19,hs⟩;refine .z (zbd [_,_] jr) (.z zm (.o (.call yo rfl (eJ hs hr ai ai) ?_)));rintro _ w ⟨x22,rfl,g22,hs⟩;refine .z (zbd [_,_] jr) (.o (.buildSlice (cells:=(fbc [⟨100,x13⟩,⟨400+x16,x19⟩,⟨1000,x22⟩]).flatten) hs rf rfl aD fun uQ w hs=>?_));refine .z (zfa de) (.o (.store hs rfl rfl sizeOf22 fun w hs=>?_));refine .nil (.seq (.af (.zn zg (.block ?_))));replace hs:St H w (.blk uQ (fbc [⟨100,x13⟩,⟨400+x16,x19⟩,⟨1000,x22⟩]).flatten:: .blk b3 [I (100+x6),I (200+x9),.slice (some ⟨uQ,0,none⟩) 3 3,.slice none 0 0]:: .blk b2 [I 0,I 0,.slice none 0 0,.slice none 0 0]::σ):=hs;refine .loop (fun p:Nat×List Ssn×Value×Ent=>⟨62,[],[(4,I (p.1:Int)),(3,Pt b3),(2,Pt b2),(0,v)]⟩)
  (fun p w=>p.1≤4∧p.2.1.length=p.1∧(∀s∈p.2.1,HA s)∧dj 4 p.2.2.1 (snc p.2.1).flatten p.2.2.2∧St H w (p.2.2.2:: .blk uQ (fbc [⟨100,x13⟩,⟨400+x16,x19⟩,⟨1000,x22⟩]).flatten:: .blk b3 [I (100+x6),I (200+x9),.slice (some ⟨uQ,0,none⟩) 3 3,p.2.2.1]:: .blk b2 [I 0,I 0,.slice none 0 0,.slice none 0 0]::σ)) (fun p=>4 - p.1) (0,[],_,.nul) aM
  ⟨by dsimp only;omega,rfl,fun s hs=>(by cases hs),.nil 4 none,hs.nul⟩ ?_
 rintro ⟨k,ss,vo,en⟩ w ⟨hk,pV,XB,hO,hs⟩;dsimp only at hk pV XB hO hs ⊢;obtain ⟨ao,co,rfl⟩:=hO.jF (EL _) ai;rw [nA] at hO hs;refine .seq (.af (.z zm (.z zm (.o (.call yo rfl (eJ hs hr ai ai) ?_)))));rintro _ w ⟨x28,rfl,g28,hs⟩;refine .zn gV (.bA rfl (fun nR=>?_) (fun nR=>?_))
 ·refine .skip (nT (.seq (.block (.draw mix rfl hs fun w hs=>?_))));refine .zw 0 rfl (zfa du) ?_;refine .y 1 rfl hs k8 ?_;refine .z 2 rfl zm ?_;refine .z 3 rfl zm ?_;refine .z 4 rfl la ?_;refine .z 5 rfl cV ?_;refine .z 8 rfl zm ?_;refine .z 9 rfl zm ?_;refine .z 10 rfl la ?_;refine .z 11 rfl cV ?_;refine .zw 14 rfl zm ?_;refine .z 15 rfl zm ?_;refine .z 16 rfl la ?_;refine .z 17 rfl cV ?_;refine .z 20 rfl zm ?_;refine .z 21 rfl zm ?_;refine .z 22 rfl la ?_;refine .z 23 rfl cV ?_;refine .E 6 hs ?_;refine .call yo rfl (eJ hs hr ai ai) ?_;rintro _ w ⟨x38,rfl,g38,hs⟩;refine .go (.zw 7 rfl cV (.E 12 hs ?_));refine .call yo rfl (eJ hs hr ai ai) ?_;rintro _ w ⟨x44,rfl,g44,hs⟩;refine .go (.zw 13 rfl cV (.E 18 hs ?_));refine .call yo rfl (eJ hs hr ai ai) ?_;rintro _ w ⟨x50,rfl,g50,hs⟩;refine .go (.zw 19 rfl cV (.E 24 hs ?_));refine .call yo rfl (eJ hs hr ai ai) ?_;rintro _ w ⟨x56,rfl,g56,hs⟩;refine .go (.zw 25 rfl (zbd (Ssn.c ⟨1+x38,1+x44,1+x50,x56⟩) tL rfl aD) (.E 26 hs ?_));refine .buildSlice (cells:=Ssn.c ⟨1+x38,1+x44,1+x50,x56⟩) hs nZ rfl aD ?_;intro ab2 w hs;refine .go (.E 27 hs ?_);refine .append (ys:=Ssn.c ⟨1+x38,1+x44,1+x50,x56⟩) hs nz rfl rfl hO (.own .here rfl rfl) (by simp [Ssn.c,Value.oneCell']) (fun l' h=>by rw [bX _ (EL _),nA] at h;omega) ?_;intro v59 en59 w eG hs;rw [←NK] at eG;obtain ⟨a59,c59,rfl⟩:=eG.jF (EL _) ai;refine .go (.zw 28 rfl (zfa du) (.E 29 hs ?_));refine .store hs rfl rfl sizeOf23 ?_;intro w hs;refine .go (.D hs (nB (nT (.region (.z zm (.z cV (.zn zg (nT ?_))))))));exact ⟨(k+1,ss++[⟨1+x38,1+x44,1+x50,x56⟩],_,en59),.da rfl bK aM,⟨by dsimp only;omega,by simp [pV],fun s hs=>by
   rcases List.mem_append.1 hs with h|h
   ·exact XB s h
   ·rw [List.mem_singleton] at h;subst h;exact ⟨by dsimp only;omega,by dsimp only;omega,by dsimp only;omega,by dsimp only;omega⟩,eG,hs.sb⟩,by dsimp only;omega⟩
 ·refine .exit (xT (xT (xB (nT (.af (.y hs (zls [_,_,_,_] ck bw) (.o (.aJ (vs:=[_,_,_,_]) hs rfl rfl bw fun w hs=>?_))))))));refine .nil (.ret ?_);exact Fin.iG [] [] hs fun w hs=>⟨_,results1 results77 (dm (vs:=[I (100+x6),I (200+x9),.slice (some ⟨uQ,0,none⟩) 3 3,.slice ao ss.length co]) hs rfl ck bw),⟨100+x6,200+x9,[⟨100,x13⟩,⟨400+x16,x19⟩,⟨1000,x22⟩],ss⟩,_,_,.blk uQ (fbc [⟨100,x13⟩,⟨400+x16,x19⟩,⟨1000,x22⟩]).flatten,en,rfl,⟨⟨by dsimp only;omega,by dsimp only;omega,bK,by dsimp only;omega,fun i hi=>by
   have h:i=0∨i=1∨i=2:=by simp at hi;omega
   rcases h with rfl|rfl|rfl
   ·exact ⟨by simp [fb0],by simp [fb0];omega,bK⟩
   ·exact ⟨by simp [fb0];omega,by simp [fb0];omega,by simp [fb0];omega⟩
   ·exact ⟨by simp [fb0],by simp [fb0];omega,by simp [fb0];omega⟩,XB⟩,by dsimp only;omega,rfl,⟨rfl,rfl⟩,by dsimp only;omega⟩,.full rfl,hO,hs.sb⟩
set_option maxHeartbeats 1000000 in
theorem tY{w:World}{v:Value}{ns:List Sx}(hs:St H w σ)(hr:RS H 6 v (ns.map Sx.v)):
  ab8 78 [v] w fun u w'=>∃r vr en,u= .agg #[vr]∧VT r∧dj 7 vr (lgc r).flatten en∧St H w' (en::σ):=by
 obtain ⟨a,c,rfl⟩:=hr.shape;have hlr:=hr.len;rw [List.length_map] at hr ⊢;refine Cl.o func78 ntmps78 ag1 ?_;refine .af (.o (.alloc hs tw rfl fun b2 w hs=>?_));refine .nil (.af (.o (.alloc hs tw rfl fun b3 w hs=>?_)));refine .nil (.af (.zn zg (.seq (.af (.zn zg (.block ?_))))));refine .loop (fun p:Nat×Int×List Lg×Value×Ent=>⟨40,[],[(5,I (p.1:Int)),(4,I p.2.1),(3,Pt b3),(2,Pt b2),(0,.slice a ns.length c)]⟩)
  (fun p w=>(p.1≤4∧p.1≤ns.length)∧p.2.2.1.length=p.1∧(0≤p.2.1∧p.2.1≤p.1*100)∧(0<p.1→(lg0 p.2.2.1 (p.1 - 1)).to=p.2.1)∧(∀i<p.1,(yH (lg0 p.2.2.1 i)∧(0<i→(lg0 p.2.2.1 (i - 1)).to≤(lg0 p.2.2.1 i).fr))∧(lg0 p.2.2.1 i).bhi≤1000)∧dj 7 p.2.2.2.1 (lgc p.2.2.1).flatten p.2.2.2.2∧St H w (p.2.2.2.2:: .blk b3 [p.2.2.2.1]:: .blk b2 [.slice none 0 0]::σ)) (fun p=>4 - p.1) (0,0,[],_,.nul) aM
  ⟨by dsimp only;omega,rfl,by dsimp only;omega,fun h=>(by dsimp only at h;omega),fun i hi=>(by dsimp only at hi;omega),.nil 7 none,hs.nul⟩ ?_
 rintro ⟨k,fr,r,vo,en⟩ w ⟨hk,pV,aa7,tD,aU,hO,hs⟩;dsimp only at hk pV aa7 tD aU hO hs ⊢;obtain ⟨ao,co,rfl⟩:=hO.jF (GO _) ai;rw [nC] at hO hs;refine .seq (.af (.z zm (.z zm (.z (dk runUnderlying40) (.z gV (.z zm (.ie (t':=11) rfl (fun oV=>?_) (fun oV=>?_))))))))
 ·refine .T (.z zm (.T (.z gV (.zn zpT (.bA rfl (fun kE=>?_) (fun kE=>?_))))))
  ·refine .skip (nT (.seq (.block (.af ?_))));obtain ⟨q,hx⟩:=nth (l:=ns) (k:=k) ai;refine .z zm (.z zm (.ixX (enc:=Sx.v) hs hr rfl rfl runUnderlying40 sizeOf96 hx rfl ?_));intro pX o19 lM;refine .q hs (cj (vs:=q.v) rfl isAgg96 sizeOf96 lM) (.z zm (.o (.call call142 rfl (lB (a:=q.a) (b:=q.b) (c:=q.c) (d:=q.d) (e:=q.e) (f:=q.f) hs ai) ?_)));rintro _ w ⟨x,rfl,hM,hs⟩;have hMo:=hM.ok ai;have hM2:=hM.fr;have hM3:=hM.to;have abN:=hM.blo;have abM:=hM.bhi;refine .o (.alloc hs fg rfl fun b6 w hs=>?_);refine .o (.aJ (vs:=[_,_,_,_,_,_,_]) hs rfl rfl bg fun w hs=>?_);refine .nil (.af (.z (zfa gQ) (.y hs (zld aj) (.zn zg (.region (.z (zfa cH) (.y hs (zld gC) (.y hs (zls [_,_,_,_,_,_,_] ep bg) (.o (.buildSlice (cells:=lgC x) hs nb rfl aD fun J1 w hs=>?_))))))))));refine .o (.append (ys:=x.c) hs rj rfl rfl hO (.own .here rfl rfl) (by simp [Lg.c,Value.oneCell']) (fun l' h=>by rw [bX _ (GO _),nC] at h;omega) ?_);intro v29 en29 w eG hs;rw [←Ou] at eG;obtain ⟨a29,c29,rfl⟩:=eG.jF (GO _) ai;refine .z (zfa cH) (.o (.store hs rfl rfl sizeOf26 fun w hs=>?_));refine .nil (nB (nT (.region (.z zm (.z cV (.zn zg (nT ?_)))))));exact ⟨(k+1,x.to,r++[x],_,en29),.da rfl bK aM,⟨by dsimp only;omega,by simp [pV],by dsimp only;omega,fun _=>by dsimp only;rw [vP,if_neg ai,if_pos ai],fun i hi=>by
    dsimp only at hi ⊢;by_cases e:i=k
    ·subst e;rw [vP,if_neg ai,if_pos ai,vP];refine ⟨⟨hMo,fun h=>?_⟩,ai⟩;rw [if_pos ai];have:=tD h;omega
    ·rw [vP,if_pos ai,vP,if_pos ai];exact aU i ai,eG,hs.sb⟩,by dsimp only;omega⟩
  ·refine .exit (xT (xT (xB (nT (.seq (.af (.z (zfa cH) (.y hs (zld gC) (.z (dk aV) (.zn fJ (.bA rfl (fun kJ=>?_) (fun kJ=>?_))))))))))))
   ·refine .region ?_;obtain rfl:k=0:=by omega
    obtain rfl:r=[]:=List.length_eq_zero_iff.1 pV;refine .q hs (Dv (vs:=[]) (cells:=[I 0,I 0,I 0,I 0,I 0,I 0]) zeroValue96 rfl ja ak rfl) (.o (.call call142 rfl (lB (a:=0) (b:=0) (c:=0) (d:=0) (e:=0) (f:=0) hs ai) ?_));rintro _ w ⟨x,rfl,hM,hs⟩;have abN:=hM.blo;have abM:=hM.bhi;refine .o (.buildSlice (cells:=(lgc [x]).flatten) hs nb rfl aD fun CQ w hs=>?_);refine .z (zfa cH) (.o (.store hs rfl rfl sizeOf26 fun w hs=>?_));refine .nil (nT (.af (.y hs (zls [_] iX dG) (.o (.aJ (vs:=[_]) hs rfl rfl dG fun w hs=>?_)))));refine .nil (.ret ?_);exact Fin.iG [] [] hs fun w hs=>⟨_,results1 results78 (dm (vs:=[.slice (some ⟨CQ,0,none⟩) 1 1]) hs rfl iX dG),[x],_,.blk CQ (lgc [x]).flatten,rfl,⟨⟨bK,fun i hi=>by
     obtain rfl:i=0:=by simp at hi;omega
     exact ⟨hM.ok ai,fun h=>by omega⟩⟩,bK,fun i hi=>by
     obtain rfl:i=0:=by simp at hi;omega
     show x.bhi≤1000;omega⟩,.full rfl,hs.sb⟩
   ·refine .skip (nT (.af (.y hs (zls [_] iX dG) (.o (.aJ (vs:=[_]) hs rfl rfl dG fun w hs=>?_)))));exact .nil (.ret (Fin.iG [] [] hs fun w hs=>⟨_,results1 results78 (dm (vs:=[.slice ao r.length co]) hs rfl iX dG),r,_,en,rfl,⟨⟨ai,fun i hi=>(aU i ai).1⟩,ai,fun i hi=>(aU i ai).2⟩,hO,hs.sb⟩))
 ·refine .Fs 2 4 true (.zn zpF (.cF (.exit (xT (xT (xB (nT (.seq (.af (.z (zfa cH) (.y hs (zld gC) (.z (dk aV) (.zn fJ (.bA rfl (fun kJ=>?_) (fun kJ=>?_)))))))))))))))
  ·refine .region ?_;obtain rfl:k=0:=by omega
   obtain rfl:r=[]:=List.length_eq_zero_iff.1 pV;refine .q hs (Dv (vs:=[]) (cells:=[I 0,I 0,I 0,I 0,I 0,I 0]) zeroValue96 rfl ja ak rfl) (.o (.call call142 rfl (lB (a:=0) (b:=0) (c:=0) (d:=0) (e:=0) (f:=0) hs ai) ?_));rintro _ w ⟨x,rfl,hM,hs⟩;have abN:=hM.blo;have abM:=hM.bhi;refine .o (.buildSlice (cells:=(lgc [x]).flatten) hs nb rfl aD fun CQ w hs=>?_);refine .z (zfa cH) (.o (.store hs rfl rfl sizeOf26 fun w hs=>?_));refine .nil (nT (.af (.y hs (zls [_] iX dG) (.o (.aJ (vs:=[_]) hs rfl rfl dG fun w hs=>?_)))));refine .nil (.ret ?_);exact Fin.iG [] [] hs fun w hs=>⟨_,results1 results78 (dm (vs:=[.slice (some ⟨CQ,0,none⟩) 1 1]) hs rfl iX dG),[x],_,.blk CQ (lgc [x]).flatten,rfl,⟨⟨bK,fun i hi=>by
    obtain rfl:i=0:=by simp at hi;omega
    exact ⟨hM.ok ai,fun h=>by omega⟩⟩,bK,fun i hi=>by
    obtain rfl:i=0:=by simp at hi;omega
    show x.bhi≤1000;omega⟩,.full rfl,hs.sb⟩
  ·refine .skip (nT (.af (.y hs (zls [_] iX dG) (.o (.aJ (vs:=[_]) hs rfl rfl dG fun w hs=>?_)))));exact .nil (.ret (Fin.iG [] [] hs fun w hs=>⟨_,results1 results78 (dm (vs:=[.slice ao r.length co]) hs rfl iX dG),r,_,en,rfl,⟨⟨ai,fun i hi=>(aU i ai).1⟩,ai,fun i hi=>(aU i ai).2⟩,hO,hs.sb⟩))
set_option maxHeartbeats 4000000 in
theorem xl{w:World}{vn vg:Value}{ns:List Int}{sx:List Sx}{y1 y2 y3 m1 m2:Int}(hs:St H w σ)(g1:RI H vs sl)(g2:RF5 H v5 iB)(g3:RF4 H v4 iP)(g4:RI H vp pk)(g5:RI H vn ns)(g6:RS H 6 vg (sx.map Sx.v)):
  ab8 23 [.agg #[vs,v5,v4,vp,I y1,I y2,I y3,vn,vg,I m1,I m2,I z1,I z2,I z3]] w fun u w'=>∃H1 s a b c d l vt vs r vl,HLe H H1∧u= .tuple #[svA s a b c d,lnA l vt vs,.agg #[vl]]∧SvM H1 s a b c d∧LnM H1 l vt vs∧RLg H1 vl r∧(Spl s∧r.length≤4)∧St H1 w' σ:=by
 obtain ⟨avs,cvs,rfl⟩:=RI.shape g1;obtain ⟨av5,cv5,rfl⟩:=g2.shape;obtain ⟨av4,cv4,rfl⟩:=g3.shape;obtain ⟨avp,cvp,rfl⟩:=RI.shape g4;obtain ⟨avn,cvn,rfl⟩:=RI.shape g5;obtain ⟨avg,cvg,rfl⟩:=g6.shape;refine Cl.o func23 ntmps23 ag1 ?_;refine .af (.bx hs fun b1 w hs=>?_);refine .o (.alloc hs js rfl fun b2 w hs=>?_);refine .o (.alloc hs o6 rfl fun b3 w hs=>?_);refine .o (.alloc hs tw rfl fun b4 w hs=>?_);refine .nil (.af (.z (zfa sm) (.y hs (zls [_,_,_,_,_,_,_] isAgg39 sizeOf39) (.o (.call call55 rfl (xr hs g1 g2 g3 g4) ?_)))));rintro _ w ⟨H1,s,a,b,c,d,az,rfl,r1,r2,r3,r4,Y2,hs⟩;have hSv:SvM H1 s a b c d:=⟨r1,r2,r3,r4⟩;obtain ⟨aa,ca,rfl⟩:=RI.shape r1;obtain ⟨ab,cb,rfl⟩:=RI.shape r2;obtain ⟨ac,cc,rfl⟩:=RRd.shape r3;obtain ⟨ad,cd,rfl⟩:=RCm.shape r4;refine .o (.alloc hs js rfl fun b5 w hs=>?_);refine .o (.aJ (vs:=[_,_,_,_,_,_,_,_]) hs rfl rfl aK fun w hs=>?_);refine .nil (.af (.z (zfa sj) (.y hs (zld an) (.o (.call call77 rfl (tZ hs (g5.mono az)) ?_)))));rintro _ w ⟨l,vt,vsn,e1,e2,rfl,hL,oW,eG,hs⟩;obtain ⟨bt,ct,spT,rfl,rfl,Ww⟩:=oW.Pj (O2 _) ai (by rw [sX,hL.tbl];omega);obtain ⟨asn,csn,rfl⟩:=eG.jF (EL _) ai;rw [sX] at oW ⊢;rw [nA] at eG ⊢;have hLt:=hL.tbl;refine .o (.alloc hs o6 rfl fun b6 w hs=>?_);refine .o (.aJ (vs:=[_,_,_,_]) hs rfl rfl bw fun w hs=>?_);refine .nil (.af (.z (zfa si) (.y hs (zld isAgg40) (.o (.call call78 rfl (tY hs (RS.mono g6 az)) ?_)))));rintro _ w ⟨r,vr,e3,rfl,hR,iZ,hs⟩;have hRm:=hR.ok.many;have JU:=hR.many;obtain ⟨br,cr,oO,rfl,rfl,hcr⟩:=iZ.Pj (GO _) ai (by rw [nC];omega);rw [nC] at iZ ⊢;refine .o (.alloc hs tw rfl fun b7 w hs=>?_);refine .o (.aJ (vs:=[_]) hs rfl rfl dG fun w hs=>?_);refine .nil (.af (.z (zfa sh) (.y hs (zls [_,_,_] isAgg37 BL) (.o (.alloc hs zeroValue37 rfl fun b8 w hs=>?_)))));refine .o (.aJ (vs:=[_,_,_]) hs rfl rfl BL fun w hs=>?_);refine .nil (.af (.z (zia 1 aI ak) (.y hs (zld aj) (.z (zfa cH) (.y hs (zld gC) (.z (dk aV) ?_))))));have hbi:=kB z2 (m:=(r.length:Int)) ai;refine .o (.call jE rfl (cM hs ai) ?_);rintro _ w ⟨rfl,hs⟩;generalize tC z2 (r.length:Int)=ii at*;obtain ⟨i,rfl⟩:∃i:Nat,ii=(i:Int):=⟨ii.toNat,ai⟩;refine .zn zg (.af (.z (zia 1 aI ak) (.y hs (zld aj) (.z (zfa de) (.y hs (zld kx) (.z (dk bB) ?_))))));have Mi:=kB z2 (m:=(l.table.length:Int)) ai;refine .o (.call jE rfl (cM hs ai) ?_);rintro _ w ⟨rfl,hs⟩;generalize tC z2 (l.table.length:Int)=kk at*;obtain ⟨k,rfl⟩:∃k:Nat,kk=(k:Int):=⟨kk.toNat,ai⟩;have aaC:=oX (l:=l.table) (i:=k) ai;have Rb:=qe (l:=r) (i:=i) ai;generalize fb0 l.table k=fT at*;generalize lg0 r i=fR at*;refine .zn zg (.cut (fun fs w=>∃(x1 x2:Int) (T:List Fbd) (R:List Lg) (f1 f2:Ent) (vt vr:Value),lr fs ⟨191,[],[(8,Pt b8),(7,Pt b7),(6,Pt b6),(5,Pt b5),(4,Pt b4),(3,Pt b3),(2,Pt b2)]⟩∧T.length≤3∧R.length≤4∧dj 2 vt (fbc T).flatten f1∧dj 7 vr (lgc R).flatten f2∧St H1 w (f2::f1::e2:: .blk b8 [I z1,I z2,I z3]:: .blk b7 [vr]:: .blk b6 [I x1,I x2,vt,.slice asn l.seasons.length csn]:: .blk b5 (svC s (.slice aa s.sp.st.length ca) (.slice ab s.sp.wa.length cb) (.slice ac s.rs.length cc) (.slice ad s.cs.length cd)):: .blk b4 [.slice none 0 0]:: .blk b3 [I 0,I 0,.slice none 0 0,.slice none 0 0]:: .blk b2 [I 0,I 0,.slice none 0 0,.slice none 0 0,I 0,I 0,.slice none 0 0,.slice none 0 0]::σ)) ?_ ?_)
 ·refine .af (.z (zia 0 aI ak) (.y hs (zld aj) (.o (.call jE rfl (cM hs ai) ?_))));rintro _ w ⟨rfl,hs⟩;refine .nil (.block (.af (.z fJ (.zn zg (.bA rfl (fun A6=>?_) (fun A6=>?_))))))
  ·refine .region (.z (zia 2 aI ak) (.y hs (zld aj) (.z (zfa eY) (.o (.store hs rfl rfl ak fun w hs=>?_)))));exact .nil (nB (nT ⟨z3,l.depth,l.table,r,_,_,_,_,aM,ai,JU,oW,iZ,hs.sb⟩))
  ·refine .af (.z fJ (.zn zg (.bA rfl (fun B5=>?_) (fun B5=>?_))))
   ·refine .region (.z (zia 2 aI ak) (.y hs (zld aj) (.z (zfa jN) (.o (.store hs rfl rfl ak fun w hs=>?_)))));exact .nil (nB (nT ⟨l.length,z3,l.table,r,_,_,_,_,aM,ai,JU,oW,iZ,hs.sb⟩))
   ·refine .af (.z fJ (.zn zg (.bA rfl (fun nP=>?_) (fun nP=>?_))))
    ·refine .region (.z (zfa de) (.y hs (zld kx) (.z zm (.z (zia 2 aI ak) (.y hs (zld aj) ?_)))));first|(refine .ixw hs bB db ?_;intro ab4 o55 L3)|refine .z (nH bB db) ?_
     refine .z (zfa bZ) (.o (.store (c':=((l.table.set k {fT with len:=z3}).map Fbd.c).flatten++spT) hs rfl rfl ak ?_ dC (jq (enc:=Fbd.c) (fun _=>rfl) ai eA spT) (jg (enc:=Fbd.c) (fun _=>rfl) aaC eA rfl spT)));intro w hs;exact .nil (nB (nT ⟨l.length,l.depth,l.table.set k {fT with len:=z3},r,_,_,_,_,aM,by rw [List.length_set];omega,JU,jh (enc:=Fbd.c) (fun _=>rfl) oW,iZ,hs.sb⟩))
    ·refine .af (.z fJ (.zn zg (.bA rfl (fun RN=>?_) (fun RN=>?_))))
     ·refine .region (.z (zfa de) (.y hs (zld kx) (.z zm (.z (zia 2 aI ak) (.y hs (zld aj) ?_)))));first|(refine .ixw hs bB db ?_;intro b64 o64 OP)|refine .z (nH bB db) ?_
      refine .z (zfa dW) (.o (.store (c':=((l.table.set k {fT with least:=z3}).map Fbd.c).flatten++spT) hs rfl rfl ak ?_ dC (jq (enc:=Fbd.c) (fun _=>rfl) ai eA spT) (jg (enc:=Fbd.c) (fun _=>rfl) aaC eA rfl spT)));intro w hs;exact .nil (nB (nT ⟨l.length,l.depth,l.table.set k {fT with least:=z3},r,_,_,_,_,aM,by rw [List.length_set];omega,JU,jh (enc:=Fbd.c) (fun _=>rfl) oW,iZ,hs.sb⟩))
     ·refine .af (.z fJ (.zn zg (.bA rfl (fun sa=>?_) (fun sa=>?_))))
      ·refine .region (.z (zfa cH) (.y hs (zld gC) (.z zm (.z (zia 2 aI ak) (.y hs (zld aj) ?_)))));first|(refine .ixw hs aV bg ?_;intro b73 o73 YF)|refine .z (nH aV bg) ?_
       refine .z (zfa mH) (.o (.store (c':=((r.set i {fR with zone:=z3}).map Lg.c).flatten++oO) hs rfl rfl ak ?_ dC (jq (enc:=Lg.c) (fun _=>rfl) ai eA oO) (jg (enc:=Lg.c) (fun _=>rfl) Rb eA rfl oO)));intro w hs;exact .nil (nB (nT ⟨l.length,l.depth,l.table,r.set i {fR with zone:=z3},_,_,_,_,aM,ai,by rw [List.length_set];exact JU,oW,jh (enc:=Lg.c) (fun _=>rfl) iZ,hs.sb⟩))
      ·refine .af (.z fJ (.zn zg (.bA rfl (fun DK=>?_) (fun DK=>?_))))
       ·refine .region (.z (zfa cH) (.y hs (zld gC) (.z zm (.z (zia 2 aI ak) (.y hs (zld aj) ?_)))));first|(refine .ixw hs aV bg ?_;intro b82 o82 UG)|refine .z (nH aV bg) ?_
        refine .z (zfa gR) (.o (.store (c':=((r.set i {fR with fr:=z3}).map Lg.c).flatten++oO) hs rfl rfl ak ?_ dC (jq (enc:=Lg.c) (fun _=>rfl) ai eA oO) (jg (enc:=Lg.c) (fun _=>rfl) Rb eA rfl oO)));intro w hs;exact .nil (nB (nT ⟨l.length,l.depth,l.table,r.set i {fR with fr:=z3},_,_,_,_,aM,ai,by rw [List.length_set];exact JU,oW,jh (enc:=Lg.c) (fun _=>rfl) iZ,hs.sb⟩))
       ·refine .af (.z fJ (.zn zg (.bA rfl (fun LY=>?_) (fun LY=>?_))))
        ·refine .region (.z (zfa cH) (.y hs (zld gC) (.z zm (.z (zia 2 aI ak) (.y hs (zld aj) ?_)))));first|(refine .ixw hs aV bg ?_;intro abZ o91 G4)|refine .z (nH aV bg) ?_
         refine .z (zfa gQ) (.o (.store (c':=((r.set i {fR with to:=z3}).map Lg.c).flatten++oO) hs rfl rfl ak ?_ dC (jq (enc:=Lg.c) (fun _=>rfl) ai eA oO) (jg (enc:=Lg.c) (fun _=>rfl) Rb eA rfl oO)));intro w hs;exact .nil (nB (nT ⟨l.length,l.depth,l.table,r.set i {fR with to:=z3},_,_,_,_,aM,ai,by rw [List.length_set];exact JU,oW,jh (enc:=Lg.c) (fun _=>rfl) iZ,hs.sb⟩))
        ·refine .af (.z fJ (.zn zg (.bA rfl (fun G3=>?_) (fun G3=>?_))))
         ·refine .region (.z (zfa cH) (.y hs (zld gC) (.z zm (.z (zia 2 aI ak) (.y hs (zld aj) ?_)))));first|(refine .ixw hs aV bg ?_;intro SB o100 nU)|refine .z (nH aV bg) ?_
          refine .z (zfa fA) (.z (zfa bH) (.o (.store (c':=((r.set i {fR with dlo:=z3}).map Lg.c).flatten++oO) hs rfl rfl ak ?_ dC (jq (enc:=Lg.c) (fun _=>rfl) ai eA oO) (jg (enc:=Lg.c) (fun _=>rfl) Rb eA rfl oO))));intro w hs;exact .nil (nB (nT ⟨l.length,l.depth,l.table,r.set i {fR with dlo:=z3},_,_,_,_,aM,ai,by rw [List.length_set];exact JU,oW,jh (enc:=Lg.c) (fun _=>rfl) iZ,hs.sb⟩))
         ·refine .af (.z fJ (.zn zg (.bA rfl (fun Fz=>?_) (fun Fz=>?_))))
          ·refine .region (.z (zfa cH) (.y hs (zld gC) (.z zm (.z (zia 2 aI ak) (.y hs (zld aj) ?_)))));first|(refine .ixw hs aV bg ?_;intro Z2 o110 UW)|refine .z (nH aV bg) ?_
           refine .z (zfa fA) (.z (zfa cP) (.o (.store (c':=((r.set i {fR with dhi:=z3}).map Lg.c).flatten++oO) hs rfl rfl ak ?_ dC (jq (enc:=Lg.c) (m:=7) (k:=i) (j:=4) (fun _=>rfl) ai eA oO) (jg (enc:=Lg.c) (m:=7) (k:=i) (j:=4) (x':={fR with dhi:=z3}) (v:=I z3) (fun _=>rfl) Rb eA rfl oO))));intro w hs;exact .nil (nB (nT ⟨l.length,l.depth,l.table,r.set i {fR with dhi:=z3},_,_,_,_,aM,ai,by rw [List.length_set];exact JU,oW,jh (enc:=Lg.c) (fun _=>rfl) iZ,hs.sb⟩))
          ·refine .af (.z fJ (.zn zg (.bA rfl (fun UT=>?_) (fun UT=>?_))))
           ·refine .region (.z (zfa cH) (.y hs (zld gC) (.z zm (.z (zia 2 aI ak) (.y hs (zld aj) ?_)))));first|(refine .ixw hs aV bg ?_;intro ZX o120 US)|refine .z (nH aV bg) ?_
            refine .z (zfa iM) (.z (zfa bH) (.o (.store (c':=((r.set i {fR with blo:=z3}).map Lg.c).flatten++oO) hs rfl rfl ak ?_ dC (jq (enc:=Lg.c) (fun _=>rfl) ai eA oO) (jg (enc:=Lg.c) (fun _=>rfl) Rb eA rfl oO))));intro w hs;exact .nil (nB (nT ⟨l.length,l.depth,l.table,r.set i {fR with blo:=z3},_,_,_,_,aM,ai,by rw [List.length_set];exact JU,oW,jh (enc:=Lg.c) (fun _=>rfl) iZ,hs.sb⟩))
           ·refine .af (.z fJ (.zn zg (.bA rfl (fun Fw=>?_) (fun Fw=>?_))))
            ·refine .region (.z (zfa cH) (.y hs (zld gC) (.z zm (.z (zia 2 aI ak) (.y hs (zld aj) ?_)))));first|(refine .ixw hs aV bg ?_;intro b130 o130 abv)|refine .z (nH aV bg) ?_
             refine .z (zfa iM) (.z (zfa cP) (.o (.store (c':=((r.set i {fR with bhi:=z3}).map Lg.c).flatten++oO) hs rfl rfl ak ?_ dC (jq (enc:=Lg.c) (m:=7) (k:=i) (j:=6) (fun _=>rfl) ai eA oO) (jg (enc:=Lg.c) (m:=7) (k:=i) (j:=6) (x':={fR with bhi:=z3}) (v:=I z3) (fun _=>rfl) Rb eA rfl oO))));intro w hs;exact .nil (nB (nT ⟨l.length,l.depth,l.table,r.set i {fR with bhi:=z3},_,_,_,_,aM,ai,by rw [List.length_set];exact JU,oW,jh (enc:=Lg.c) (fun _=>rfl) iZ,hs.sb⟩))
            ·refine .af (.z fJ (.zn zg (.bA rfl (fun Qf=>?_) (fun Qf=>?_))))
             ·refine .region (.z (zfa cH) (.o (.store hs rfl rfl sizeOf26 fun w hs=>?_)));exact .nil (nB (nT ⟨l.length,l.depth,l.table,[],_,.nul,_,_,aM,ai,bK,oW,.nil 7 none,hs.nul.sb⟩))
             ·refine .af (.z fJ (.zn zg (.bA rfl (fun Qe=>?_) (fun Qe=>?_))))
              ·refine .region (.z (zfa de) (.o (.store hs rfl rfl sizeOf22 fun w hs=>?_)));exact .nil (nB (nT ⟨l.length,l.depth,[],r,.nul,_,_,_,aM,bK,JU,.nil 2 none,iZ,hs.nul.sb⟩))
              ·exact .skip (nB (nT ⟨l.length,l.depth,l.table,r,_,_,_,_,aM,ai,JU,oW,iZ,hs.sb⟩))
 ·clear hs oW iZ;rintro fs w ⟨x1,x2,T,R,f1,f2,vt,vr,gP,U9,Zg,oW,iZ,hs⟩;refine WE.sub ?_ gP;clear gP;obtain ⟨aT,cT,rfl⟩:=oW.jF (O2 _) ai;obtain ⟨aR,cR,rfl⟩:=iZ.jF (GO _) ai;rw [sX] at oW hs;rw [nC] at iZ hs;refine .cut (fun fs w=>∃(S:List Ssn) (f3:Ent) (vq:Value),lr fs ⟨191,[],[(7,Pt b7),(6,Pt b6),(5,Pt b5),(4,Pt b4),(3,Pt b3),(2,Pt b2)]⟩∧S.length≤4∧dj 4 vq (snc S).flatten f3∧St H1 w (f2::f1::f3:: .blk b7 [.slice aR R.length cR]:: .blk b6 [I x1,I x2,.slice aT T.length cT,vq]:: .blk b5 (svC s (.slice aa s.sp.st.length ca) (.slice ab s.sp.wa.length cb) (.slice ac s.rs.length cc) (.slice ad s.cs.length cd)):: .blk b4 [.slice none 0 0]:: .blk b3 [I 0,I 0,.slice none 0 0,.slice none 0 0]:: .blk b2 [I 0,I 0,.slice none 0 0,.slice none 0 0,I 0,I 0,.slice none 0 0,.slice none 0 0]::σ)) ?_ ?_
  ·refine .af (.z (zfa du) (.y hs (zld k8) (.z (dk cf) (.zn ld (.bA rfl (fun Qd=>?_) (fun Qd=>?_))))))
   ·refine .af (.z (zia 1 aI ak) (.y hs (zld aj) (.z (zfa du) (.y hs (zld k8) (.z (dk cf) ?_)))));have WH:=hL.sns;obtain ⟨bS,cS,Gf,hv,rfl,hcS⟩:=eG.Pj (EL _) ai (by rw [nA];omega);simp only [Value.slice.injEq] at hv;obtain ⟨rfl,SR,rfl⟩:=hv;have hbj:=kB z2 (m:=(l.seasons.length:Int)) ai;refine .o (.call jE rfl (cM hs ai) ?_);rintro _ w ⟨rfl,hs⟩;generalize tC z2 (l.seasons.length:Int)=jj at*;obtain ⟨j,rfl⟩:∃j:Nat,jj=(j:Int):=⟨jj.toNat,ai⟩;obtain ⟨fS,We⟩:=nth (l:=l.seasons) (k:=j) ai;refine .zn zg (.af (.z (zia 0 aI ak) (.y hs (zld aj) (.o (.call jE rfl (cM hs ai) ?_)))));rintro _ w ⟨rfl,hs⟩;refine .nil (.block (.af (.z fJ (.zn zg (.bA rfl (fun UP=>?_) (fun UP=>?_))))))
    ·refine .region (.z (zfa du) (.y hs (zld k8) (.z zm (.z (zia 2 aI ak) (.y hs (zld aj) ?_)))));first|(refine .ixw hs cf eE ?_;intro VM o159 Qa)|refine .z (nH cf eE) ?_
     refine .z (zfa kb) (.o (.store (c':=((l.seasons.set j {fS with zone:=z3}).map Ssn.c).flatten++Gf) hs rfl rfl ak ?_ dC (jq (enc:=Ssn.c) (fun _=>rfl) ai eA Gf) (jg (enc:=Ssn.c) (fun _=>rfl) We eA rfl Gf)));intro w hs;exact .nil (nB (nT ⟨l.seasons.set j {fS with zone:=z3},_,_,aM,by rw [List.length_set];omega,jh (enc:=Ssn.c) (fun _=>rfl) eG,hs.sb⟩))
    ·refine .af (.z fJ (.zn zg (.bA rfl (fun UO=>?_) (fun UO=>?_))))
     ·refine .region (.z (zfa du) (.y hs (zld k8) (.z zm (.z (zia 2 aI ak) (.y hs (zld aj) ?_)))));first|(refine .ixw hs cf eE ?_;intro b168 o168 abp)|refine .z (nH cf eE) ?_
      refine .z (zfa fm) (.o (.store (c':=((l.seasons.set j {fS with fr:=z3}).map Ssn.c).flatten++Gf) hs rfl rfl ak ?_ dC (jq (enc:=Ssn.c) (fun _=>rfl) ai eA Gf) (jg (enc:=Ssn.c) (fun _=>rfl) We eA rfl Gf)));intro w hs;exact .nil (nB (nT ⟨l.seasons.set j {fS with fr:=z3},_,_,aM,by rw [List.length_set];omega,jh (enc:=Ssn.c) (fun _=>rfl) eG,hs.sb⟩))
     ·refine .af (.z fJ (.zn zg (.bA rfl (fun UM=>?_) (fun UM=>?_))))
      ·refine .region (.z (zfa du) (.y hs (zld k8) (.z zm (.z (zia 2 aI ak) (.y hs (zld aj) ?_)))));first|(refine .ixw hs cf eE ?_;intro b177 o177 abo)|refine .z (nH cf eE) ?_
       refine .z (zfa fl) (.o (.store (c':=((l.seasons.set j {fS with to:=z3}).map Ssn.c).flatten++Gf) hs rfl rfl ak ?_ dC (jq (enc:=Ssn.c) (fun _=>rfl) ai eA Gf) (jg (enc:=Ssn.c) (fun _=>rfl) We eA rfl Gf)));intro w hs;exact .nil (nB (nT ⟨l.seasons.set j {fS with to:=z3},_,_,aM,by rw [List.length_set];omega,jh (enc:=Ssn.c) (fun _=>rfl) eG,hs.sb⟩))
      ·refine .af (.z fJ (.zn zg (.bA rfl (fun Ft=>?_) (fun Ft=>?_))))
       ·refine .region (.z (zfa du) (.y hs (zld k8) (.z zm (.z (zia 2 aI ak) (.y hs (zld aj) ?_)))));first|(refine .ixw hs cf eE ?_;intro b186 o186 abn)|refine .z (nH cf eE) ?_
        refine .z (zfa ka) (.o (.store (c':=((l.seasons.set j {fS with extra:=z3}).map Ssn.c).flatten++Gf) hs rfl rfl ak ?_ dC (jq (enc:=Ssn.c) (fun _=>rfl) ai eA Gf) (jg (enc:=Ssn.c) (fun _=>rfl) We eA rfl Gf)));intro w hs;exact .nil (nB (nT ⟨l.seasons.set j {fS with extra:=z3},_,_,aM,by rw [List.length_set];omega,jh (enc:=Ssn.c) (fun _=>rfl) eG,hs.sb⟩))
       ·exact .skip (nB (nT ⟨l.seasons,_,_,aM,ai,eG,hs.sb⟩))
   ·exact .skip (nT ⟨l.seasons,_,_,aM,ai,eG,hs.sb⟩)
  ·have WH:=hL.sns;clear hs eG;rintro fs w ⟨S,f3,vq,gP,hS4,eG,hs⟩;refine WE.sub ?_ gP;clear gP;obtain ⟨aS,cS,rfl⟩:=eG.jF (EL _) ai;rw [nA] at eG hs;refine .cut (fun fs w=>lr fs ⟨191,[],[(4,Pt b4),(3,Pt b3),(2,Pt b2)]⟩∧St H1 w (f2::f1::f3:: .blk b4 [.slice aR R.length cR]:: .blk b3 [I x1,I x2,.slice aT T.length cT,.slice aS S.length cS]:: .blk b2 (svC s (.slice aa s.sp.st.length ca) (.slice ab s.sp.wa.length cb) (.slice ac s.rs.length cc) (.slice ad s.cs.length cd))::σ)) ?_ ?_
   ·refine .draw mix rfl hs fun w hs=>?_
    refine .ys 0 rfl hs [_,_,_,_,_,_,_,_] bn aK ?_;refine .ys 1 rfl hs [_,_,_,_] ck bw ?_;refine .ys 2 rfl hs [_] iX dG ?_;refine .E 3 hs ?_;refine .aJ (vs:=[_,_,_,_,_,_,_,_]) hs rfl rfl aK ?_;intro w hs;refine .go (.E 4 hs ?_);refine .aJ (vs:=[_,_,_,_]) hs rfl rfl bw ?_;intro w hs;refine .go (.E 5 hs ?_);refine .aJ (vs:=[_]) hs rfl rfl dG ?_;intro w hs;exact .go (.D hs (nT ⟨aM,hs.sb⟩))
   ·rintro fs w ⟨gP,hs⟩;refine WE.sub ?_ gP;clear gP;refine .ret ?_;obtain ⟨H2,q2,p2,hs⟩:=dj.dn (m:=7) iZ (GO _) ai (by rw [nC];omega) hs .here;obtain ⟨H3,q3,p3,hs⟩:=dj.dn (m:=2) oW (O2 _) ai (by rw [sX];omega) hs .here;obtain ⟨H4,q4,p4,hs⟩:=dj.dn (m:=4) eG (EL _) ai (by rw [nA];omega) hs .here;have k3:=q3.trans q4;have k2:=q2.trans k3;exact Fin.iG [] [] hs fun w hs=>⟨_,results3 results23 (dm (vs:=svC s (.slice aa s.sp.st.length ca) (.slice ab s.sp.wa.length cb) (.slice ac s.rs.length cc) (.slice ad s.cs.length cd)) hs rfl bn aK) (dm (vs:=[I x1,I x2,.slice aT T.length cT,.slice aS S.length cS]) hs rfl ck bw) (dm (vs:=[.slice aR R.length cR]) hs rfl iX dG),H4,s,_,_,_,_,⟨x1,x2,T,S⟩,_,_,R,_,az.trans k2,rfl,hSv.mono k2,⟨RFb.mono p3 q4,p4⟩,RLg.mono p2 k3,⟨Y2,Zg⟩,hs.out⟩
theorem p8{w:World}{s:Srv}{k:Int}{a b c d:Value}{x y:Int}(hs:St H w σ)(g:SvM H s a b c d):
  ab8 59 [svA s a b c d,I k,.agg #[I x,I y]] w fun u w'=>∃H1 lo hi e,HLe H H1∧u= .tuple #[.agg #[I lo,I hi],I e]∧HG s k x y lo hi e∧St H1 w' σ:=by
 obtain ⟨aw,cw,rfl⟩:=RI.shape g.wa;have aa0:=(RI.len g.wa).2.2;refine Cl.o func59 ntmps59 ag3 ?_;refine .af (.bx hs fun b3 w hs=>?_);refine .bx hs fun b5 w hs=>?_
 refine .o (.alloc hs dy rfl fun b6 w hs=>?_);refine .zn zg (.af (.y hs (zls [_,_,_,_,_,_,_,_] bn aK) (.o (.call call123 rfl (mR (s:=s) hs g.st g.wa g.rd g.cm) ?_))));rintro _ w ⟨H1,e,az,rfl,hC,hs⟩;refine .zn zg (.seq (.af (.z zm (.zn fU (.dK rfl (fun kE=>?_) (fun kE=>?_))))))
 ·refine .af (.z (zbd [_,_] bL) (.z zm (.o (.aJ (vs:=[_,_]) hs rfl rfl aH fun w hs=>?_))));exact .zn zg (.ret (rT ((Fin.iG [] [] hs fun w hs=>⟨_,results2 results59 (dm (vs:=[_,_]) hs rfl cE aH) rfl,H1,_,_,_,az,rfl,.bad hC kE,hs.out⟩))))
 ·refine .skip (nT (.seq (.af ?_)));have aU:ew s:=hC.dr.1 ai;have rk:=fX aU.early.1;refine .z zm (.z (zfa a6) (.z (zfa aZ) (.y hs (zld an) (.z (dk ae) (.z gE (.o (.call qS rfl (eg hs) ?_)))))));rintro _ w ⟨rfl,hs⟩;refine .zn fE (.cond rfl (fun jw=>?_) (fun jw=>?_))
  ·refine .af (.z (zbd [_,_] bL) (.o (.aJ (vs:=[_,_]) hs rfl rfl aH fun w hs=>?_)));exact .zn zg (.ret (rT ((Fin.iG [] [] hs fun w hs=>⟨_,results2 results59 (dm (vs:=[_,_]) hs rfl cE aH) rfl,H1,_,_,_,az,rfl,.water aU (by simp at jw;omega),hs.out⟩))))
  ·refine .skip (nT (.seq (.af (.y hs (zls [_,_] cE aH) ?_))));have hk:0≤k∧k≤(s.sp.wa.length:Int) - 1:=by simpa using jw
   refine .o (.call call124 rfl (oC hs) ?_);rintro _ w ⟨rfl,hs⟩;refine .zn fE (.cond rfl (fun kr=>?_) (fun kr=>?_))
   ·refine .af (.z (zbd [_,_] bL) (.o (.aJ (vs:=[_,_]) hs rfl rfl aH fun w hs=>?_)));exact .zn zg (.ret (rT ((Fin.iG [] [] hs fun w hs=>⟨_,results2 results59 (dm (vs:=[_,_]) hs rfl cE aH) rfl,H1,_,_,_,az,rfl,.dense aU hk (by simpa using kr),hs.out⟩))))
   ·refine .skip (nT (.af (.y hs (zls [_,_,_,_,_,_,_,_] bn aK) (.z zm ?_))));have A4:gg x y:=by simpa using kr
    obtain ⟨j,rfl⟩:∃j:Nat,k=(j:Int):=⟨k.toNat,ai⟩;refine .o (.call call83 rfl (pz (s:=s) hs (g.mono az) aU) ?_);rintro _ w ⟨H2,lo,hi,e,bp,rfl,hL,hs⟩;have hb:=hL.bd;refine .z zm (.z zex (.z zex (.o (.alloc hs dy rfl fun b9 w hs=>?_))));refine .o (.aJ (vs:=[_,_]) hs rfl rfl aH fun w hs=>?_);refine .zn zg (.seq (.af (.z zm (.zn fU (.dK rfl (fun pL=>?_) (fun pL=>?_))))))
    ·refine .af (.z (zbd [_,_] bL) (.z zm (.o (.aJ (vs:=[_,_]) hs rfl rfl aH fun w hs=>?_))));exact .zn zg (.ret (rT ((Fin.iG [] [] hs fun w hs=>⟨_,results2 results59 (dm (vs:=[_,_]) hs rfl cE aH) rfl,H2,_,_,_,az.trans bp,rfl,.go aU hk A4 (by rw [Int.toNat_natCast];exact .fls hL pL),hs.out⟩))))
    ·refine .skip (nT (.af (.y hs (zls [_,_] cE aH) (.y hs (zls [_,_] cE aH) ?_))));obtain rfl:e=0:=by omega
     refine .o (.call call85 rfl (xk hs ai ai A4) ?_);rintro _ w ⟨rfl,hs⟩;refine .o (.aJ (vs:=[_,_]) hs rfl rfl aH fun w hs=>?_);exact .zn zg (.ret (Fin.iG [] [] hs fun w hs=>⟨_,results2 results59 (dm (vs:=[_,_]) hs rfl cE aH) rfl,H2,_,_,_,az.trans bp,rfl,.go aU hk A4 (by rw [Int.toNat_natCast];exact .ok hL),hs.out⟩))
inductive BG(v:Srv)(l:Lns)(x:Lg)(mass:Int):Int→Int→Prop
 |bad {e:Int} (h:BF v e) (he:e≠0):BG v l x mass 0 e
 |lines (h:ew v) (h1:¬gL l):BG v l x mass 0 60
 |leg (h:ew v) (h1:gL l) (h2:¬yH x):BG v l x mass 0 61
 |mass (h:ew v) (h1:gL l) (h2:yH x) (h3:¬(0≤mass∧mass≤1000000000000)):BG v l x mass 0 63
 |deck (h:ew v) (h1:gL l) (h2:yH x) (h3:0≤mass∧mass≤1000000000000) (h4:yG v.sp.wa l x 0 0):BG v l x mass 0 62
 |low {k e:Int} (h:ew v) (h1:gL l) (h2:yH x) (h3:0≤mass∧mass≤1000000000000) (h4:yG v.sp.wa l x k e) (h5:¬(e=0∧k=0)):BG v l x mass k e
theorem BG.zero{v:Srv}{mass k:Int}(h:BG v l x mass k 0):ew v∧gL l∧yH x∧(0≤mass∧mass≤1000000000000)∧yG v.sp.wa l x k 0∧k≠0:=by
 generalize h0:(0:Int)=e0 at h
 cases h with
 |bad _ h=>exact (h h0.symm).elim
 |lines=>omega
 |leg=>omega
 |mass=>omega
 |deck=>omega
 |low h h1 h2 h3 h4 h5=>subst h0;exact ⟨h,h1,h2,h3,h4,fun e=>h5 ⟨rfl,e⟩⟩
theorem BG.uniq{v:Srv}{mass b:Int}(h:BG v l x mass a e)(g:BG v l x mass b f):a=b∧e=f:=by
 cases h with
 |bad h he=>
  have key:¬ew v:=fun k=>he (h.dr.2 k)
  cases g with
  |bad g=>exact ⟨rfl,h.uniq g⟩
  |lines g=>exact (key g).elim
  |leg g=>exact (key g).elim
  |mass g=>exact (key g).elim
  |deck g=>exact (key g).elim
  |low g=>exact (key g).elim
 |lines h h1=>cases g with
  |bad g ge=>exact (ge (g.dr.2 h)).elim
  |lines=>exact ⟨rfl,rfl⟩
  |leg _ g=>exact (h1 g).elim
  |mass _ g=>exact (h1 g).elim
  |deck _ g=>exact (h1 g).elim
  |low _ g=>exact (h1 g).elim
 |leg h h1 h2=>cases g with
  |bad g ge=>exact (ge (g.dr.2 h)).elim
  |lines _ g=>exact (g h1).elim
  |leg=>exact ⟨rfl,rfl⟩
  |mass _ _ g=>exact (h2 g).elim
  |deck _ _ g=>exact (h2 g).elim
  |low _ _ g=>exact (h2 g).elim
 |mass h h1 h2 h3=>cases g with
  |bad g ge=>exact (ge (g.dr.2 h)).elim
  |lines _ g=>exact (g h1).elim
  |leg _ _ g=>exact (g h2).elim
  |mass=>exact ⟨rfl,rfl⟩
  |deck _ _ _ g=>exact (h3 g).elim
  |low _ _ _ g=>exact (h3 g).elim
 |deck h h1 h2 h3 h4=>cases g with
  |bad g ge=>exact (ge (g.dr.2 h)).elim
  |lines _ g=>exact (g h1).elim
  |leg _ _ g=>exact (g h2).elim
  |mass _ _ _ g=>exact (g h3).elim
  |deck=>exact ⟨rfl,rfl⟩
  |low _ _ _ _ g g1=>obtain ⟨rfl,rfl⟩:=h4.uniq h1 g;exact (g1 ⟨rfl,rfl⟩).elim
 |low h h1 h2 h3 h4 h5=>cases g with
  |bad g ge=>exact (ge (g.dr.2 h)).elim
  |lines _ g=>exact (g h1).elim
  |leg _ _ g=>exact (g h2).elim
  |mass _ _ _ g=>exact (g h3).elim
  |deck _ _ _ _ g=>obtain ⟨rfl,rfl⟩:=h4.uniq h1 g;exact (h5 ⟨rfl,rfl⟩).elim
  |low _ _ _ _ g=>exact h4.uniq h1 g
inductive QB(v:Srv)(l:Lns)(x:Lg)(mass:Int)(m:Int)(us:List Use):Int→Prop
 |bad {k e:Int} (h:BG v l x mass k e) (he:e≠0):QB v l x mass m us e
 |go {k e:Int} (h:BG v l x mass k 0) (h1:uL v ⟨1,0,k⟩ false (-((-1000*mass)/x.dlo)) m us e):QB v l x mass m us e
theorem QB.uniq{v:Srv}{mass:Int}(h:QB v l x mass m us e)(g:QB v l x mass m us f):e=f:=by
 cases h with
 |bad h he=>cases g with
  |bad g=>exact (h.uniq g).2
  |go g=>exact (he (h.uniq g).2).elim
 |go h h1=>cases g with
  |bad g ge=>exact (ge (g.uniq h).2).elim
  |go g g1=>obtain ⟨rfl,_⟩:=h.uniq g;exact h1.uniq g1
set_option maxHeartbeats 1000000 in
theorem qE{w:World}{s:Srv}{mass:Int}{a b c d:Value}(hs:St H w σ)(g:SvM H s a b c d)(gl:LnM H l vt vs):
  ab8 135 [svA s a b c d,lnA l vt vs,lgA x,I mass] w fun u w'=>∃H1 k e,HLe H H1∧u= .tuple #[I k,I e]∧BG s l x mass k e∧St H1 w' σ:=by
 refine Cl.o func135 ntmps135 ag4 ?_;refine .af (.bx hs fun b4 w hs=>?_);refine .bx hs fun b5 w hs=>?_
 refine .bx hs fun b6 w hs=>?_
 refine .z zg (.zn zg (.seq (.af (.y hs (zls [_,_,_,_,_,_,_,_] bn aK) (.o (.call aaq rfl (fj (s:=s) hs g.st g.wa g.rd g.cm) ?_))))));rintro _ w ⟨H1,e,az,rfl,hC,hs⟩;refine .zn zg (.af (.z zm (.zn fU (.dK rfl (fun i7=>?_) (fun i7=>?_)))))
 ·exact .af (.z zm (.z zg (.zn zg (.ret (rT (Fin.iz EB rfl rfl ⟨H1,_,_,az,rfl,.bad hC i7,hs.out⟩))))))
 ·refine .skip (nT (.seq (.af (.y hs (zls [_,_,_,_] ck bw) ?_))));have aU:ew s:=hC.dr.1 ai;refine .o (.call call19 rfl (jb hs (gl.mono az).tb (gl.mono az).sn) ?_);rintro _ w ⟨f,rfl,hL,hs⟩;refine .zn zg (.af (.z zm (.zn fU (.dK rfl (fun jV=>?_) (fun jV=>?_)))))
  ·exact .af (.z zm (.z zg (.zn zg (.ret (rT (Fin.iz EB rfl rfl ⟨H1,_,_,az,rfl,by have h:=hL.resolve_left fun h=>jV h.2;rw [h.2];exact .lines aU h.1,hs.out⟩))))))
  ·refine .skip (nT (.seq (.block (.af (.y hs (zls [_,_,_,_,_,_,_] ep bg) ?_)))));have hl:gL l:=(hL.resolve_right fun h=>by omega).1;refine .o (.call call75 rfl (rP (x:=x) hs) ?_);rintro _ w ⟨bb,rfl,DM,hs⟩;refine .z fE (.zn zg (.cond rfl (fun jw=>?_) (fun jw=>?_)))
   ·exact .af (.z zg (.zn zg (.ret (rB (rT (Fin.iz EB rfl rfl ⟨H1,_,_,az,rfl,.leg aU hl (fun h=>by simp_all),hs.out⟩))))))
   ·refine .af (.z zm ?_);have hx:yH x:=DM.1 (by simpa using jw);refine .o (.call lY rfl (cN hs) ?_);rintro _ w ⟨rfl,hs⟩;refine .z fE (.zn zg (.cond rfl (fun kr=>?_) (fun kr=>?_)))
    ·exact .af (.z zg (.zn zg (.ret (rB (rT (Fin.iz EB rfl rfl ⟨H1,_,_,az,rfl,.mass aU hl hx (by simp at kr;omega),hs.out⟩))))))
    ·refine .skip (nB (nT (.af (.z (zfa a6) (.y hs (zls [_,_,_,_,_,_] bY bq) (.y hs (zls [_,_,_,_] ck bw) (.y hs (zls [_,_,_,_,_,_,_] ep bg) ?_)))))));have hm:0≤mass∧mass≤1000000000000:=by simpa using kr
     refine .o (.call call115 rfl (qH (s:=s.sp) (x:=x) hs (g.mono az).wa (gl.mono az).tb (gl.mono az).sn aU.early.1 hl hx) ?_);rintro _ w ⟨H2,k,e2,bp,rfl,Gp,hs⟩;have dO:=az.trans bp;refine .z zm (.z zex (.z zex (.z zg (.zn zg (.seq (.af (.z zm (.z fJ (.z zm (.ie (t':=42) rfl (fun Mp=>?_) (fun Mp=>?_)))))))))))
     ·refine .T (.z zm (.T (.z fJ (.zn zpT (.bA rfl (fun zi=>?_) (fun zi=>?_))))))
      ·refine .region (.zn zg (nT (.af (.z zm (.z zm (.z zg (.zn zg (.ret (Fin.iz EB rfl rfl ?_)))))))));exact ⟨H2,_,_,dO,rfl,by
        by_cases h:e2=0∧k=0
        ·obtain ⟨rfl,rfl⟩:=h;first|exact .deck aU hl hx hm Gp|(exfalso;simp_all;done)|(exfalso;omega)
        ·first|exact .low aU hl hx hm Gp h|(exfalso;simp_all;done)|(exfalso;omega),hs.out⟩
      ·refine .skip (nT (.af (.z zm (.z zm (.z zg (.zn zg (.ret (Fin.iz EB rfl rfl ?_))))))));exact ⟨H2,_,_,dO,rfl,by
        by_cases h:e2=0∧k=0
        ·obtain ⟨rfl,rfl⟩:=h;first|exact .deck aU hl hx hm Gp|(exfalso;simp_all;done)|(exfalso;omega)
        ·first|exact .low aU hl hx hm Gp h|(exfalso;simp_all;done)|(exfalso;omega),hs.out⟩
     ·refine .Fs 2 2 true (.zn zpF (.cF (.skip (nT (.af (.z zm (.z zm (.z zg (.zn zg (.ret (Fin.iz EB rfl rfl ?_)))))))))));exact ⟨H2,_,_,dO,rfl,by
       by_cases h:e2=0∧k=0
       ·obtain ⟨rfl,rfl⟩:=h;first|exact .deck aU hl hx hm Gp|(exfalso;simp_all;done)|(exfalso;omega)
       ·first|exact .low aU hl hx hm Gp h|(exfalso;simp_all;done)|(exfalso;omega),hs.out⟩
set_option maxHeartbeats 1000000 in
theorem AT{w:World}{s:Srv}{a b c d:Value}(hs:St H w σ)(g:SvM H s a b c d)(gl:LnM H l vt vs):
  ab8 66 [svA s a b c d,lnA l vt vs,lgA x] w fun u w'=>∃H1 vp n us e,HLe H H1∧u= .tuple #[vp,I e]∧RPf H1 vp n us∧((∃k,e≠0∧BG s l x 0 k e∧n=0∧us=[])∨∃k,BG s l x 0 k 0∧yi s ⟨1,0,k⟩ e∧(e≠0→n=0∧us=[])∧(e=0→wM s ⟨1,0,k⟩ false n us))∧St H1 w' σ:=by
 refine Cl.o func66 ntmps66 ag3 ?_;refine .af (.bx hs fun b3 w hs=>?_);refine .bx hs fun b4 w hs=>?_
 refine .bx hs fun b5 w hs=>?_
 refine .o (.alloc hs ju rfl fun b6 w hs=>?_);refine .zn zg (.af (.y hs (zls [_,_,_,_,_,_,_,_] bn aK) (.y hs (zls [_,_,_,_] ck bw) (.y hs (zls [_,_,_,_,_,_,_] ep bg) (.o (.call call135 rfl (qE (s:=s) (x:=x) hs g gl) ?_))))));rintro _ w ⟨H1,k,e,az,rfl,hP,hs⟩;refine .z zm (.z zex (.z zex (.z zg (.zn zg (.seq (.af (.z zm (.zn fU (.dK rfl (fun im=>?_) (fun im=>?_))))))))))
 ·refine .af (.z (zbd [_,_] jC) (.z zm (.o (.aJ (vs:=[_,_]) hs rfl rfl bQ fun w hs=>?_))));exact .zn zg (.ret (rT ((Fin.iG [] [] hs fun w hs=>⟨_,results2 results66 (dm (vs:=[_,_]) hs rfl eF bQ) rfl,H1,_,0,[],_,az,rfl,⟨_,rfl,RS.nil H1 2 none 0⟩,.inl ⟨k,im,hP,rfl,rfl⟩,hs.out⟩))))
 ·refine .skip (nT (.seq (.draw mix rfl hs fun w hs=>?_)));refine .ys 0 rfl hs [_,_,_,_,_,_,_,_] bn aK ?_;refine .z 1 rfl zm ?_;refine .E 2 hs ?_;obtain rfl:e=0:=by omega
  refine .call call98 rfl (jR hs) ?_;rintro _ w ⟨rfl,hs⟩;refine .go (.E 3 hs ?_);refine .call call136 rfl (vD (s:=s) (q:=⟨1,0,k⟩) (high:=false) hs (g.mono az).st (g.mono az).wa (g.mono az).rd (g.mono az).cm) ?_;rintro _ w ⟨H2,vp,n,us,e2,bp,rfl,⟨uu,rfl,hU⟩,hA,hz,XI,hs⟩;obtain ⟨au,cu,rfl⟩:=RU.shape hU;refine .go (.zw 4 rfl zex ?_);refine .z 5 rfl zex ?_;refine .E 6 hs ?_;refine .aJ (vs:=[_,_]) hs rfl rfl bQ ?_;intro w hs;refine .go (.zw 7 rfl zg ?_);refine .D hs ?_;exact .ret (Fin.iG [] [] hs fun w hs=>⟨_,results2 results66 (dm (vs:=[_,_]) hs rfl eF bQ) rfl,H2,_,n,us,_,az.trans bp,rfl,⟨_,rfl,hU⟩,.inr ⟨k,hP,hA,hz,XI⟩,hs.out⟩)
set_option maxHeartbeats 1000000 in
theorem kC{w:World}{s:Srv}{mass:Int}{a b c d:Value}(hs:St H w σ)(g:SvM H s a b c d)(gl:LnM H l vt vs)(hp:RPf H vp m us):
  ab8 70 [svA s a b c d,lnA l vt vs,lgA x,I mass,vp] w fun u w'=>∃H1 e,HLe H H1∧u=I e∧QB s l x mass m us e∧St H1 w' σ:=by
 obtain ⟨uu,rfl,hU⟩:=hp;obtain ⟨au,cu,rfl⟩:=RU.shape hU;refine Cl.o func70 ntmps70 ag5 ?_;refine .af (.bx hs fun b5 w hs=>?_);refine .bx hs fun b6 w hs=>?_
 refine .bx hs fun b7 w hs=>?_
 refine .bx hs fun b9 w hs=>?_
 refine .zn zg (.af (.y hs (zls [_,_,_,_,_,_,_,_] bn aK) (.y hs (zls [_,_,_,_] ck bw) (.y hs (zls [_,_,_,_,_,_,_] ep bg) (.z zm (.o (.call call135 rfl (qE (s:=s) (x:=x) hs g gl) ?_)))))));rintro _ w ⟨H1,k,e,az,rfl,hP,hs⟩;refine .z zm (.z zex (.z zex (.z zg (.zn zg (.seq (.af (.z zm (.zn fU (.dK rfl (fun jV=>?_) (fun jV=>?_))))))))))
 ·exact .af (.z zm (.zn zg (.ret (rT (Fin.bu results70 rfl ⟨H1,_,az,rfl,.bad hP jV,hs.out⟩)))))
 ·refine .skip (nT ?_);obtain rfl:e=0:=by omega
  have hz:=hP.zero;have hm:=hz.2.2.2.1;have A4:=hz.2.2.1.dense;unfold gg at A4;refine .seq (.draw mix rfl hs fun w hs=>?_);refine .ys 0 rfl hs [_,_,_,_,_,_,_,_] bn aK ?_;refine .z 1 rfl zm ?_;refine .z 3 rfl zm ?_;refine .z 4 rfl la ?_;refine .z 5 rfl (zfa fA) ?_;refine .z 6 rfl (zfa bH) ?_;refine .y 7 rfl hs aj ?_;refine .ys 10 rfl hs [_,_] eF bQ ?_;refine .E 2 hs ?_;refine .call call98 rfl (jR hs) ?_;rintro _ w ⟨rfl,hs⟩;refine .go (.E 8 hs ?_);refine .call call140 rfl (oR (a:= -1000*mass) (d:=x.dlo) hs ai ai) ?_;rintro _ w ⟨rfl,hs⟩;have OL: -1000*mass≤-1000*mass/x.dlo∧-1000*mass/x.dlo≤0:=by
   have e: -1000*mass= -(1000*mass):=by omega
   have h1:=Int.mul_le_mul_of_nonneg_left (show (1:Int)≤x.dlo by omega) (show 0≤1000*mass by omega);rw [e];refine ⟨(Int.le_ediv_iff_mul_le ai).2 (by rw [Int.neg_mul];rw [Int.mul_one] at h1;exact Int.neg_le_neg h1),?_⟩;have h2: -(1000*mass)/x.dlo≤0/x.dlo:=Int.ediv_le_ediv ai ai;rw [Int.zero_ediv] at h2;exact h2
  refine .go (.zw 9 rfl BM (.E 11 hs ?_));refine .call call139 rfl (qd (s:=s) (q:=⟨1,0,k⟩) (high:=false) hs (g.mono az).st (g.mono az).wa (g.mono az).rd (g.mono az).cm ⟨_,rfl,RS.mono hU az⟩) ?_;rintro _ w ⟨H2,e2,bp,rfl,Vm,hs⟩;refine .go (.zw 12 rfl zg ?_);refine .D hs ?_;exact .ret (Fin.bu results70 rfl ⟨H2,_,az.trans bp,rfl,.go hP Vm,hs.out⟩)
set_option maxHeartbeats 4000000 in
theorem vR{w:World}{n:Int}{ls:List Tri}(hs:St H w σ)(hp:RPf H vp n us)(hu:us.length≤400)(hn: -5000000000000000000≤n∧n≤5000000000000000000)(hc:RS H 3 vc (ls.map Tri.v)):
  ab8 69 [vp,vc] w fun u w'=>∃H1 n2 zH,HLe H H1∧RPf H1 u n2 zH∧St H1 w' σ:=by
 obtain ⟨uu,rfl,hU⟩:=hp;obtain ⟨au,cu,rfl⟩:=RU.shape hU;obtain ⟨ac,cc,rfl⟩:∃a c,vc= .slice a ls.length c:=by
  obtain ⟨a,c,h⟩:=hc.shape;exact ⟨a,c,by rw [h,List.length_map]⟩
 refine Cl.o func69 ntmps69 ag2 ?_;refine .af (.bx hs fun b2 w hs=>?_);refine .o (.alloc hs ju rfl fun b4 w hs=>?_);refine .nil (.cut (fun fs w=>∃b5 vo en,lr fs ⟨74,[],[(5,Pt b5),(4,Pt b4),(1,.slice ac ls.length cc)]⟩∧dj 2 vo (usc us).flatten en∧St H w (en:: .blk b5 [I n,vo]:: .blk b4 [I 0,.slice none 0 0]::σ)) ?_ ?_)
 ·refine .draw mix rfl hs fun w hs=>?_
  refine .zw 0 rfl (zfa eX) ?_;refine .y 1 rfl hs aj ?_;refine .z 3 rfl (zfa ez) ?_;refine .y 4 rfl hs o9 ?_;refine .e2 (i:=2) (j:=7) aD rfl rfl rfl rfl .none .none hs ?_ ?_
  ·refine .buildSlice (cells:=[]) hs qR rfl rfl ?_;intro yE w hs;refine .go (.e2 (i:=5) (j:=7) aD rfl rfl rfl rfl .none .none hs ?_ ?_)
   ·refine .append (xs:=[]) hs ij rfl rfl (.full (len:=0) rfl) (HB hU) (C6 us) (fun l' h=>by simp at h;obtain rfl:l'=0:=ai;omega) ?_;intro v14 en14 w hO hs;rw [List.nil_append] at hO;obtain ⟨a14,c14,rfl⟩:=hO.jF (xd _) ai;refine .go (.zw 6 rfl (zbd [_,_] jC) (.E 7 hs ?_));refine .alloc hs ju rfl ?_;intro b5 w hs;refine .go (.E 8 hs ?_);refine .aJ (vs:=[_,_]) hs rfl rfl bQ ?_;intro w hs;exact .go (.D hs (nT ⟨_,_,_,aM,hO,hs.sb⟩))
   ·refine .alloc hs ju rfl ?_;intro b5 w hs;refine .go (.E 5 hs ?_);refine .append (xs:=[]) hs ij rfl rfl (.full (len:=0) rfl) (HB hU) (C6 us) (fun l' h=>by simp at h;obtain rfl:l'=0:=ai;omega) ?_;intro v14 en14 w hO hs;rw [List.nil_append] at hO;obtain ⟨a14,c14,rfl⟩:=hO.jF (xd _) ai;refine .go (.zw 6 rfl (zbd [_,_] jC) (.E 8 hs ?_));refine .aJ (vs:=[_,_]) hs rfl rfl bQ ?_;intro w hs;exact .go (.D hs (nT ⟨_,_,_,aM,hO,hs.sb⟩))
  ·refine .alloc hs ju rfl ?_;intro b5 w hs;refine .go (.E 2 hs ?_);refine .buildSlice (cells:=[]) hs qR rfl rfl ?_;intro yE w hs;refine .go (.E 5 hs ?_);refine .append (xs:=[]) hs ij rfl rfl (.full (len:=0) rfl) (HB hU) (C6 us) (fun l' h=>by simp at h;obtain rfl:l'=0:=ai;omega) ?_;intro v14 en14 w hO hs;rw [List.nil_append] at hO;obtain ⟨a14,c14,rfl⟩:=hO.jF (xd _) ai;refine .go (.zw 6 rfl (zbd [_,_] jC) (.E 8 hs ?_));refine .aJ (vs:=[_,_]) hs rfl rfl bQ ?_;intro w hs;exact .go (.D hs (nT ⟨_,_,_,aM,hO,hs.sb⟩))
 ·rintro fs w ⟨b5,vo,en,gP,hO,hs⟩;refine WE.sub ?_ gP;clear gP;refine .seq (.af (.zn zg (.block ?_)));refine .loop (fun i:Nat=>⟨74,[],[(6,I (i:Int)),(5,Pt b5),(4,Pt b4),(1,.slice ac ls.length cc)]⟩)
   (fun i w=>i≤2∧∃H1 n2 zH vo en,HLe H H1∧zH.length≤400∧(-5000000000000000000 - 3*(i:Int)≤n2∧n2≤5000000000000000000+3*(i:Int))∧dj 2 vo (usc zH).flatten en∧St H1 w (en:: .blk b5 [I n2,vo]:: .blk b4 [I 0,.slice none 0 0]::σ)) (fun i=>2 - i) 0 aM
   ⟨ai,H,n,us,_,_,HLe.refl _,hu,ai,hO,hs.sb⟩ ?_
  clear hs hO;rintro i w ⟨hi,H1,n2,zH,vo,en,az,Wi,SY,hO,hs⟩;obtain ⟨ao,co,rfl⟩:=hO.jF (xd _) ai;rw [je] at hO hs;refine .seq (.af (.z zm (.z zm (.z (dk runUnderlying119) (.z gV (.z zm (.ie (t':=20) rfl (fun FD=>?_) (fun FD=>?_))))))))
  ·refine .T (.z zm (.T (.z gV (.z zpT (.z zm (.ie (t':=24) rfl (fun pN=>?_) (fun pN=>?_)))))))
   ·refine .T (.z (zfa ez) (.T (.y hs (zld o9) (.T (.z (dk dq) (.T (.z ld (.zn zpT (.bA rfl (fun nR=>?_) (fun nR=>?_))))))))))
    ·refine .skip (nT (.seq (.block (.af (.z zm (.z zm ?_))))));obtain ⟨x,hx⟩:=nth (l:=ls) (k:=i) ai;refine .ixX (enc:=Tri.v) hs (RS.mono hc az) rfl rfl runUnderlying119 BL hx rfl ?_;intro Qv o34 kJ;refine .q hs (cj (vs:=x.v) rfl isAgg37 BL kJ) (.o (.alloc hs zeroValue37 rfl fun b7 w hs=>?_));refine .o (.aJ (vs:=x.v) hs rfl rfl BL fun w hs=>?_);refine .nil (.af (.z (zia 1 aI ak) (.y hs (zld aj) (.z (zfa ez) (.y hs (zld o9) (.z (dk dq) ?_))))));obtain ⟨bo,cp,sp,hv,rfl,vX⟩:=hO.Pj (xd _) ai (by rw [je];omega);simp only [Value.slice.injEq] at hv;obtain ⟨rfl,-,rfl⟩:=hv;rw [je] at vX;have hj:=kB x.b (m:=(zH.length:Int)) ai;refine .o (.call jE rfl (cM hs ai) ?_);rintro _ w ⟨rfl,hs⟩;generalize tC x.b (zH.length:Int)=jj at*;obtain ⟨j,rfl⟩:∃j:Nat,jj=(j:Int):=⟨jj.toNat,ai⟩;obtain ⟨u,aaH⟩:=nth (l:=zH) (k:=j) ai;have abC:∀q<2,Nat.blt (j*2+q) ((usc zH).flatten++sp).length=true:=fun q hq=>Nat.ble_eq_true_of_le (by rw [List.length_append,bX _ (xd _),je];omega)
     refine .zn zg (.af (.z (zia 0 aI ak) (.y hs (zld aj) (.o (.call jE rfl (cM hs ai) ?_)))));rintro _ w ⟨rfl,hs⟩;generalize tC x.a 4=k4 at*;refine .nil (.block (.af (.z fJ (.zn zg (.bA rfl (fun zi=>?_) (fun zi=>?_))))))
     ·refine .draw mix rfl hs fun w hs=>?_
      refine .zw 0 rfl (zfa eX) ?_;refine .y 1 rfl hs aj ?_;refine .zw 2 rfl (zia 2 aI ak) (.zv 3 rfl hs (qf aj) (.E 4 hs ?_));have hk7:=kB x.c (m:=7) ai;refine .call jE rfl (cM hs ai) ?_;rintro _ w ⟨rfl,hs⟩;generalize tC x.c 7=k7 at*;refine .go (.zw 5 rfl cV ?_);refine .z 6 rfl gE ?_;refine .z 7 rfl (zfa eX) ?_;refine .E 8 hs ?_;refine .store hs rfl rfl ak ?_;intro w hs;exact .go (.D hs (nB (nB (nT (.region (.z zm (.z cV (.zn zg (nT ⟨i+1,.da rfl bK aM,⟨ai,H1,n2+k7 - 3,zH,_,_,az,Wi,by push_cast;omega,hO,hs.sb⟩,ai⟩)))))))))
     ·refine .af (.z fJ (.zn zg (.bA rfl (fun L3=>?_) (fun L3=>?_))))
      ·refine .region (.z (zfa ez) (.y hs (zld o9) (.z zm (.z (zia 2 aI ak) (.y hs (zld aj) ?_)))));first|(refine .ixw hs dq jL ?_;intro Qt o62 JN)|refine .z (nH dq jL) ?_
       refine .z (zfa ft) (.o (.store (c':=(usc (zH.set j {u with t:=x.c})).flatten++sp) hs rfl rfl ak ?_ dC (abC 1 ai) (HW aaH ai rfl sp)));intro w hs;exact .nil (nB (nB (nT (.region (.z zm (.z cV (.zn zg (nT ⟨i+1,.da rfl bK aM,⟨ai,H1,n2,zH.set j {u with t:=x.c},_,_,az,by rw [List.length_set];exact Wi,by push_cast;omega,Il hO,hs.sb⟩,ai⟩))))))))
      ·refine .af (.z fJ (.zn zg (.bA rfl (fun OP=>?_) (fun OP=>?_))))
       ·refine .region (.z (zfa ez) (.y hs (zld o9) (.z zm (.z (zia 2 aI ak) (.y hs (zld aj) ?_)))));first|(refine .ixw hs dq jL ?_;intro VD o71 vZ)|refine .z (nH dq jL) ?_
        refine .z (zfa iL) (.o (.store (c':=(usc (zH.set j {u with l:=x.c})).flatten++sp) hs rfl rfl ak ?_ dC (abC 0 ai) (HW aaH ai rfl sp)));intro w hs;exact .nil (nB (nB (nT (.region (.z zm (.z cV (.zn zg (nT ⟨i+1,.da rfl bK aM,⟨ai,H1,n2,zH.set j {u with l:=x.c},_,_,az,by rw [List.length_set];exact Wi,by push_cast;omega,Il hO,hs.sb⟩,ai⟩))))))))
       ·exact .skip (nB (nB (nT (.region (.z zm (.z cV (.zn zg (nT ⟨i+1,.da rfl bK aM,⟨ai,H1,n2,zH,_,_,az,Wi,by push_cast;omega,hO,hs.sb⟩,ai⟩))))))))
    ·refine .exit (xT (xT (xB (nT (.af (.y hs (zls [_,_] eF bQ) (.o (.aJ (vs:=[_,_]) hs rfl rfl bQ fun w hs=>?_))))))));refine .nil (.ret ?_);obtain ⟨H2,bp,hR,hs⟩:=dj.dn (m:=2) (cs:=usc zH) hO (xd _) ai (by rw [je];omega) hs dC;exact Fin.iG [] [] hs fun w hs=>⟨_,results1 results69 (dm (vs:=[_,_]) hs rfl eF bQ),H2,n2,zH,az.trans bp,⟨_,rfl,hR⟩,hs.out⟩
   ·refine .Fs 4 8 true (.zn zpF (.cF (.exit (xT (xT (xB (nT (.af (.y hs (zls [_,_] eF bQ) (.o (.aJ (vs:=[_,_]) hs rfl rfl bQ fun w hs=>?_)))))))))));refine .nil (.ret ?_);obtain ⟨H2,bp,hR,hs⟩:=dj.dn (m:=2) (cs:=usc zH) hO (xd _) ai (by rw [je];omega) hs dC;exact Fin.iG [] [] hs fun w hs=>⟨_,results1 results69 (dm (vs:=[_,_]) hs rfl eF bQ),H2,n2,zH,az.trans bp,⟨_,rfl,hR⟩,hs.out⟩
  ·refine .Fs 2 4 true (.z zpF (.z zm (.Fs 4 8 true (.zn zpF (.cF (.exit (xT (xT (xB (nT (.af (.y hs (zls [_,_] eF bQ) (.o (.aJ (vs:=[_,_]) hs rfl rfl bQ fun w hs=>?_))))))))))))));refine .nil (.ret ?_);obtain ⟨H2,bp,hR,hs⟩:=dj.dn (m:=2) (cs:=usc zH) hO (xd _) ai (by rw [je];omega) hs dC;exact Fin.iG [] [] hs fun w hs=>⟨_,results1 results69 (dm (vs:=[_,_]) hs rfl eF bQ),H2,n2,zH,az.trans bp,⟨_,rfl,hR⟩,hs.out⟩
theorem Ij{v:Srv}{mass k k':Int}(aU:ew v)(hl:gL l)(hx:yH x)(hm:0≤mass∧mass≤1000000000000)(hL:yG v.sp.wa l x k 0)(hk:k≠0)(h:BG v l x mass k' e):e=0∧k'=k:=by
 cases h with
 |bad h he=>exact (he (h.dr.2 aU)).elim
 |lines _ h=>exact (h hl).elim
 |leg _ _ h=>exact (h hx).elim
 |mass _ _ _ h=>exact (h hm).elim
 |deck _ _ _ _ h=>exact (hk (hL.uniq hl h).1).elim
 |low _ _ _ _ h=>obtain ⟨h1,h2⟩:=hL.uniq hl h;exact ⟨h2.symm,h1.symm⟩
theorem W0{mass b:Int}(hd:0<d): -((-1000*mass)/d)≤b↔mass≤mV b d:=by
 have h1: -((-1000*mass)/d)≤b↔-b≤(-1000*mass)/d:=by omega
 rw [h1,Int.le_ediv_iff_mul_le hd,Int.neg_mul];unfold mV;generalize b*d=z;omega
theorem Pd{v:Srv}{q:Wht}{b n:Int}(h:uL v q false a n us 0)(hb:b≤a)(g:uL v q false b n us e):e=0:=by
 generalize h0:(0:Int)=e0 at h
 cases h with
 |bad _ h=>exact (h h0.symm).elim
 |what=>omega
 |prf=>omega
 |off=>omega
 |ok h1 h2 h3 h4=>cases g with
  |bad g ge=>exact (ge (g.dr.2 h1)).elim
  |what _ g=>exact (g h2).elim
  |prf _ _ g=>exact (g h3).elim
  |off _ _ _ g=>
   refine (g ?_).elim;unfold e9 at h4 ⊢;rw [if_neg bK] at h4 ⊢;omega
  |ok=>rfl
theorem K7{v:Srv}{mass n:Int}{q:Nat}(aU:ew v)(hl:gL l)(hx:yH x)(hm:0≤mass∧mass≤1000000000000)(hL:yG v.sp.wa l x (q:Int) 0)(hq:(q:Int)≠0)
  (hS:wM v ⟨1,0,(q:Int)⟩ false n us) (IG:ow v q x.dlo x.dhi lo hi 0) (xH:mass≤lo) (h:QB v l x mass n us e):e=0:=by
 have A4:=hx.dense;unfold gg at A4
 cases h with
 |bad h he=>exact (he (Ij aU hl hx hm hL hq h).1).elim
 |go h h1=>
  obtain ⟨_,rfl⟩:=Ij aU hl hx hm hL hq h;generalize h0:(0:Int)=e0 at IG
  cases IG with
  |fls _ g=>exact (g h0.symm).elim
  |ok g=>
   generalize h3:(0:Int)=e3 at g
   cases g with
   |up g g1=>
    subst h3;have hc:=hS.ZC g1;rw [if_neg bK] at hc;refine Pd hc ((W0 ai).2 ?_) h1;unfold Ar at xH;omega
   |fls g=>omega
   |zero g=>omega
set_option maxHeartbeats 1000000 in
theorem qv{w:World}{s:Srv}{mass:Int}{a b c d:Value}(hs:St H w σ)(g:SvM H s a b c d)(gl:LnM H l vt vs):
  ab8 137 [svA s a b c d,lnA l vt vs,lgA x,I mass] w fun u w'=>∃H1 k e,HLe H H1∧u= .tuple #[I k,I e]∧BG s l x mass k e∧St H1 w' σ:=by
 refine Cl.o func137 ntmps137 ag4 ?_;refine .af (.bx hs fun b4 w hs=>?_);refine .bx hs fun b5 w hs=>?_
 refine .bx hs fun b6 w hs=>?_
 refine .z zg (.zn zg (.af (.y hs (zls [_,_,_,_,_,_,_,_] bn aK) (.o (.call call123 rfl (mR (s:=s) hs g.st g.wa g.rd g.cm) ?_)))));rintro _ w ⟨H1,e,az,rfl,hC,hs⟩;refine .zn zg (.seq (.af (.z zm (.zn fU (.dK rfl (fun dY=>?_) (fun dY=>?_))))))
 ·exact .af (.z zm (.z zg (.zn zg (.ret (rT (Fin.iz EA rfl rfl ⟨H1,_,_,az,rfl,.bad hC dY,hs.out⟩))))))
 ·refine .skip (nT (.seq (.af (.y hs (zls [_,_,_,_] ck bw) ?_))));have aU:ew s:=hC.dr.1 ai;refine .o (.call call20 rfl (iI hs (gl.mono az)) ?_);rintro _ w ⟨f,rfl,hL,hs⟩;refine .zn fU (.dK rfl (fun mU=>?_) (fun mU=>?_))
  ·refine .af (.z zg (.zn zg (.ret (rT (Fin.iz EA rfl rfl ?_)))));have h:=hL.resolve_left fun h=>mU h.2
   exact ⟨H1,_,_,az,rfl,.lines aU h.1,hs.out⟩
  ·refine .skip (nT (.seq (.af (.y hs (zls [_,_,_,_,_,_,_] ep bg) ?_))));have hl:gL l:=(hL.resolve_right fun h=>by omega).1;refine .o (.call call76 rfl (qw (x:=x) hs) ?_);rintro _ w ⟨bb,rfl,DM,hs⟩;refine .zn fE (.cond rfl (fun kX=>?_) (fun kX=>?_))
   ·exact .af (.z zg (.zn zg (.ret (rT (Fin.iz EA rfl rfl ⟨H1,_,_,az,rfl,.leg aU hl (fun h=>by simp_all),hs.out⟩)))))
   ·refine .skip (nT (.seq (.af (.z zm ?_))));have hx:yH x:=DM.1 (by simpa using kX);refine .o (.call qS rfl (eg hs) ?_);rintro _ w ⟨rfl,hs⟩;refine .zn fE (.cond rfl (fun jm=>?_) (fun jm=>?_))
    ·exact .af (.z zg (.zn zg (.ret (rT (Fin.iz EA rfl rfl ⟨H1,_,_,az,rfl,.mass aU hl hx (by simp at jm;omega),hs.out⟩)))))
    ·refine .skip (nT (.af (.z (zfa a6) (.y hs (zls [_,_,_,_,_,_] bY bq) (.y hs (zls [_,_,_,_] ck bw) (.y hs (zls [_,_,_,_,_,_,_] ep bg) ?_))))));have hm:0≤mass∧mass≤1000000000000:=by simpa using jm
     refine .o (.call call116 rfl (py (s:=s.sp) (x:=x) hs (g.mono az).st (g.mono az).wa (gl.mono az) aU.early.1 hl hx) ?_);rintro _ w ⟨k,e2,rfl,Gp,hs⟩;refine .z zm (.z zex (.z zex (.z zg (.zn zg (.seq (.af (.z zm (.zn fU (.dK rfl (fun lK=>?_) (fun lK=>?_))))))))))
     ·refine .af (.z zm (.z zg (.zn zg (.ret (rT (Fin.iz EA rfl rfl ?_))))));have hk:k=0:=by
       cases Gp with
       |none=>rfl
       |above=>rfl
       |ok=>exact (lK rfl).elim
      subst hk;exact ⟨H1,_,_,az,rfl,.low aU hl hx hm Gp (fun h=>lK h.1),hs.out⟩
     ·refine .skip (nT (.seq (.af (.z zm (.zn fJ (.bA rfl (fun kq=>?_) (fun kq=>?_)))))))
      ·refine .af (.z zg (.zn zg (.ret (rT (Fin.iz EA rfl rfl ?_)))));obtain rfl:e2=0:=by omega
       obtain rfl:k=0:=by omega
       exact ⟨H1,_,_,az,rfl,.deck aU hl hx hm Gp,hs.out⟩
      ·refine .skip (nT (.af (.z zm (.z zg (.zn zg (.ret (Fin.iz EA rfl rfl ?_)))))));obtain rfl:e2=0:=by omega
       exact ⟨H1,_,_,az,rfl,.low aU hl hx hm Gp (fun h=>kq h.2),hs.out⟩
inductive WU(v:Srv)(l:Lns)(x:Lg):Int→Prop
 |bad {k e:Int} (h:BG v l x 0 k e) (he:e≠0):WU v l x e
 |go {q:Nat} {a b e:Int} (h:BG v l x 0 (q:Int) 0) (h1:CX v q a b e):WU v l x e
theorem rG{w:World}{s:Srv}{a b c d:Value}(hs:St H w σ)(g:SvM H s a b c d)(gl:LnM H l vt vs):
  ab8 67 [svA s a b c d,lnA l vt vs,lgA x] w fun u w'=>∃H1 e,HLe H H1∧u=I e∧WU s l x e∧St H1 w' σ:=by
 refine Cl.o func67 ntmps67 ag3 ?_;refine .af (.bx hs fun b3 w hs=>?_);refine .bx hs fun b4 w hs=>?_
 refine .bx hs fun b5 w hs=>?_
 refine .zn zg (.af (.y hs (zls [_,_,_,_,_,_,_,_] bn aK) (.y hs (zls [_,_,_,_] ck bw) (.y hs (zls [_,_,_,_,_,_,_] ep bg) (.o (.call call137 rfl (qv (s:=s) (x:=x) hs g gl) ?_))))));rintro _ w ⟨H1,k,e,az,rfl,hP,hs⟩;refine .z zm (.z zex (.z zex (.z zg (.zn zg (.seq (.af (.z zm (.zn fU (.dK rfl (fun lM=>?_) (fun lM=>?_))))))))))
 ·exact .af (.z zm (.zn zg (.ret (rT (Fin.bu results67 rfl ⟨H1,_,az,rfl,.bad hP lM,hs.out⟩)))))
 ·refine .skip (nT (.af (.y hs (zls [_,_,_,_,_,_,_,_] bn aK) (.z zm ?_))));obtain rfl:e=0:=by omega
  have hz:=hP.zero;have hb:=hz.2.2.2.2.1.bd (by have:=hz.1.early.1.wa.two;omega);obtain ⟨q,rfl⟩:∃q:Nat,k=(q:Int):=⟨k.toNat,ai⟩;refine .o (.call call83 rfl (pz (s:=s) hs (g.mono az) hz.1) ?_);rintro _ w ⟨H2,lo,hi,e2,bp,rfl,hL,hs⟩;refine .z zm (.z zex (.z zex (.o (.alloc hs dy rfl fun b9 w hs=>?_))));refine .o (.aJ (vs:=[_,_]) hs rfl rfl aH fun w hs=>?_);exact .zn zg (.af (.z zm (.zn zg (.ret (Fin.bu results67 rfl ⟨H2,_,az.trans bp,rfl,.go hP hL,hs.out⟩)))))
set_option maxHeartbeats 1000000 in
theorem iH{w:World}{s:Srv}{mass:Int}{a b c d:Value}(hs:St H w σ)(g:SvM H s a b c d)(gl:LnM H l vt vs)(hp:RPf H vp m us):
  ab8 68 [svA s a b c d,lnA l vt vs,lgA x,I mass,vp] w fun u w'=>∃H1 e,HLe H H1∧u=I e∧QB s l x mass m us e∧St H1 w' σ:=by
 obtain ⟨uu,rfl,hU⟩:=hp;obtain ⟨au,cu,rfl⟩:=RU.shape hU;refine Cl.o func68 ntmps68 ag5 ?_;refine .af (.bx hs fun b5 w hs=>?_);refine .bx hs fun b6 w hs=>?_
 refine .bx hs fun b7 w hs=>?_
 refine .bx hs fun b9 w hs=>?_
 refine .zn zg (.af (.y hs (zls [_,_,_,_,_,_,_,_] bn aK) (.y hs (zls [_,_,_,_] ck bw) (.y hs (zls [_,_,_,_,_,_,_] ep bg) (.z zm (.o (.call call137 rfl (qv (s:=s) (x:=x) hs g gl) ?_)))))));rintro _ w ⟨H1,k,e,az,rfl,hP,hs⟩;refine .z zm (.z zex (.z zex (.z zg (.zn zg (.seq (.af (.z zm (.zn fU (.dK rfl (fun kX=>?_) (fun kX=>?_))))))))))
 ·exact .af (.z zm (.zn zg (.ret (rT (Fin.bu results68 rfl ⟨H1,_,az,rfl,.bad hP kX,hs.out⟩)))))
 ·refine .skip (nT ?_);obtain rfl:e=0:=by omega
  have hz:=hP.zero;have hm:=hz.2.2.2.1;have A4:=hz.2.2.1.dense;unfold gg at A4;refine .af (.z zm (.z la (.z (zfa fA) (.z (zfa bH) (.y hs (zld aj) (.o (.call aap rfl (hZ (a:= -1000*mass) (d:=x.dlo) hs ai ai) ?_)))))));rintro _ w ⟨rfl,hs⟩;have OL: -1000*mass≤-1000*mass/x.dlo∧-1000*mass/x.dlo≤0:=by
   have e: -1000*mass= -(1000*mass):=by omega
   have h1:=Int.mul_le_mul_of_nonneg_left (show (1:Int)≤x.dlo by omega) (show 0≤1000*mass by omega);rw [e];refine ⟨(Int.le_ediv_iff_mul_le ai).2 (by rw [Int.neg_mul];rw [Int.mul_one] at h1;exact Int.neg_le_neg h1),?_⟩;have h2: -(1000*mass)/x.dlo≤0/x.dlo:=Int.ediv_le_ediv ai ai;rw [Int.zero_ediv] at h2;exact h2
  refine .z BM (.zn zg (.af (.y hs (zls [_,_,_,_,_,_,_,_] bn aK) (.z zm (.z (zbd [I 1,I 0,I k] sD) (.z zm (.y hs (zls [_,_] eF bQ) (.o (.call call138 rfl (rJ (s:=s) (q:=⟨1,0,k⟩) (high:=false) hs (g.mono az).st (g.mono az).wa (g.mono az).rd (g.mono az).cm ⟨_,rfl,RS.mono hU az⟩) ?_)))))))));rintro _ w ⟨H2,e2,bp,rfl,Vm,hs⟩;exact .zn zg (.ret (Fin.bu results68 rfl ⟨H2,_,az.trans bp,rfl,.go hP Vm,hs.out⟩))
theorem Jt{v:Srv}{n:Int}(hP:(∃k',f≠0∧BG v l x 0 k' f∧n=0∧us=[])∨∃k',BG v l x 0 k' 0∧yi v ⟨1,0,k'⟩ f∧(f≠0→n=0∧us=[])∧(f=0→wM v ⟨1,0,k'⟩ false n us))(h:WU v l x e):f=e:=by
 rcases hP with ⟨k',h1,h2,_⟩|⟨k',h1,h2,_⟩
 ·cases h with
  |bad h=>exact (h2.uniq h).2
  |go h=>exact (h1 (h2.uniq h).2).elim
 ·cases h with
  |bad h he=>exact (he (h.uniq h1).2).elim
  | @go q _ _ _ h g=>
   obtain ⟨rfl,_⟩:=h1.uniq h;obtain ⟨aU,_,_,_,r9,hk⟩:=h.zero;have hw:=aU.early.1.wa.two;have hb:=r9.bd ai;have JE:q<v.sp.wa.length:=by omega
   rcases g.err aU JE with ⟨rfl,hs⟩|⟨rfl,hs,_⟩
   ·cases h2 with
    |bad h he=>exact (he (h.dr.2 aU)).elim
    |what _ h=>exact (h (Dq ai JE)).elim
    |fls _ _ h=>exact (h hs).elim
    |ok=>rfl
   ·cases h2 with
    |bad h he=>exact (he (h.dr.2 aU)).elim
    |what _ h=>exact (h (Dq ai JE)).elim
    |fls=>rfl
    |ok _ _ h=>exact (hs h).elim
set_option maxHeartbeats 4000000 in
theorem um{W:World}{x:SG}{c:WX}{vn vg:Value}(hs:St H W [])(hx:J7 H x vs v5 v4 vp vn vg)(hc:SH H vc c):
  ab8 16 [x.agg vs v5 v4 vp vn vg,vc] W fun v w'=>v= .bool true∧∃H',HLe H H'∧St H' w' []:=by
 obtain ⟨vl,vu,rfl,uw,xJ⟩:=hc;obtain ⟨alc,clc,rfl⟩:=uw.shape;obtain ⟨auc,cuc,rfl⟩:=RU.shape xJ;rw [List.length_map] at uw ⊢;refine Cl.o func16 ntmps16 ag2 ?_;refine .af (.bx hs fun b2 w hs=>?_);refine .bx hs fun b3 w hs=>?_
 refine .zn zg (.af (.o (.call call18 rfl (AW hs) ?_)));rintro _ w ⟨rfl,H1,az,hs⟩;replace hx:=hx.mono az;replace uw:=RS.mono uw az;replace xJ:=RS.mono xJ az;refine .zn zg (.af (.y hs (zls [_,_,_,_,_,_,_,_,_,_,_,_,_,_] isAgg44 sizeOf44) (.o (.call call23 rfl (xl hs hx.sp hx.rs hx.cs hx.pk hx.ln hx.lg) ?_))));rintro _ w ⟨H2,s,a,b,cc,d,l,vt,vsn,r,gZ,bp,rfl,g,gl,pW,⟨-,aaQ⟩,hs⟩;have dO:=az.trans bp;replace uw:=RS.mono uw bp;replace xJ:=RS.mono xJ bp;obtain ⟨aa,ca,rfl⟩:=RI.shape g.st;obtain ⟨ab,cb,rfl⟩:=RI.shape g.wa;obtain ⟨ac,cac,rfl⟩:=RRd.shape g.rd;obtain ⟨ad,cd,rfl⟩:=RCm.shape g.cm;obtain ⟨at_,ct,rfl⟩:=gl.tb.shape;obtain ⟨mq,cs,rfl⟩:=gl.sn.shape;obtain ⟨ar,cr,rfl⟩:=pW.shape;have hlr:=(RS.len pW).2.2;refine .z zm (.z zex (.z zex (.z zex (.o (.alloc hs js rfl fun b6 w hs=>?_)))));refine .o (.alloc hs o6 rfl fun b7 w hs=>?_);refine .o (.alloc hs tw rfl fun b8 w hs=>?_);refine .o (.aJ (vs:=[_,_,_,_,_,_,_,_]) hs rfl rfl aK fun w hs=>?_);refine .o (.aJ (vs:=[_,_,_,_]) hs rfl rfl bw fun w hs=>?_);refine .o (.aJ (vs:=[_]) hs rfl rfl dG fun w hs=>?_);refine .nil (.af (.z (zbd [_,_,_,_,_,_,_] mh) (.o (.alloc hs fg rfl fun b9 w hs=>?_))));refine .o (.aJ (vs:=[_,_,_,_,_,_,_]) hs rfl rfl bg fun w hs=>?_);refine .nil (.cut (fun fs w=>∃X:Lg,lr fs ⟨148,[],[(9,Pt b9),(8,Pt b8),(7,Pt b7),(6,Pt b6),(5,.bool true),(3,Pt b3)]⟩∧St H2 w [.blk b9 (lgC X),.blk b7 (lnC l (.slice at_ l.table.length ct) (.slice mq l.seasons.length cs)),.blk b6 (svC s (.slice aa s.sp.st.length ca) (.slice ab s.sp.wa.length cb) (.slice ac s.rs.length cac) (.slice ad s.cs.length cd)),.blk b3 [I c.leg,I c.mass,.bool c.near,.slice alc c.ls.length clc,I c.m,.slice auc c.us.length cuc]]) ?_ ?_)
 ·refine .af (.z (zfa cH) (.y hs (zld gC) (.z (dk aV) (.zn ld (.bA rfl (fun nR=>?_) (fun nR=>?_))))))
  ·refine .draw mix rfl hs fun w hs=>?_
   refine .zw 0 rfl (zfa cH) ?_;refine .y 1 rfl hs gC ?_;refine .z 2 rfl (zfa qk) ?_;refine .y 3 rfl hs aj ?_;refine .z 4 rfl (zfa cH) ?_;refine .y 5 rfl hs gC ?_;refine .z 6 rfl (dk aV) ?_;refine .E 7 hs ?_;have hbi:=kB c.leg (m:=(r.length:Int)) ai;refine .call jE rfl (cM hs ai) ?_;rintro _ w ⟨rfl,hs⟩;generalize tC c.leg (r.length:Int)=ii at*;obtain ⟨i,rfl⟩:∃i:Nat,ii=(i:Int):=⟨ii.toNat,ai⟩;have Ra:=qe (l:=r) (i:=i) ai;refine .go (.ixX (enc:=Lg.c) (i:=8) hs rfl aD .none pW rfl rfl aV bg Ra rfl ?_);intro b38 o38 A6;refine .r (i:=9) hs rfl aD .none (cj (vs:=lgC (lg0 r i)) rfl ep bg A6) ?_;refine .E 10 hs ?_;refine .aJ (vs:=[_,_,_,_,_,_,_]) hs rfl rfl bg ?_;intro w hs;exact .go (.D hs (nT ⟨lg0 r i,aM,hs.sb⟩))
  ·exact .skip (nT ⟨⟨0,0,0,0,0,0,0⟩,aM,hs.sb⟩)
 ·clear hs;rintro fs w ⟨X,gP,hs⟩;refine WE.sub ?_ gP;clear gP;refine .af (.y hs (zls [_,_,_,_,_,_,_,_] bn aK) (.y hs (zls [_,_,_,_] ck bw) (.y hs (zls [_,_,_,_,_,_,_] ep bg) (.o (.call call66 rfl (AT (s:=s) (l:=l) (x:=X) hs g gl) ?_)))));rintro _ w ⟨H3,vpf,n,us,f,cZ,rfl,⟨uu,rfl,hU⟩,hP,hs⟩;obtain ⟨au,cu,rfl⟩:=RU.shape hU;replace g:=g.mono cZ;replace gl:=gl.mono cZ;replace uw:=RS.mono uw cZ;replace xJ:=RS.mono xJ cZ;have gK:=dO.trans cZ;have SS:us.length≤400∧-5000000000000000000≤n∧n≤5000000000000000000:=by
   rcases hP with ⟨_,_,_,rfl,rfl⟩|⟨_,_,h1,h2,h3⟩
   ·exact ⟨bK,ai⟩
   ·exact wM.bd h2 h1 h3
  refine .z zm (.z zex (.z zex (.o (.alloc hs ju rfl fun pb w hs=>?_))));refine .o (.aJ (vs:=[_,_]) hs rfl rfl bQ fun w hs=>?_);refine .zn zg (.seq (.af (.z zm (.z fE (.z zm (.T (.z zm (.T (.y hs (zls [_,_,_,_,_,_,_,_] bn aK) (.T (.y hs (zls [_,_,_,_] ck bw) (.T (.y hs (zls [_,_,_,_,_,_,_] ep bg) (.T (.o (.call call67 rfl (rG (s:=s) (l:=l) (x:=X) hs g gl) ?_))))))))))))))));rintro _ w ⟨H4,e4,gj,rfl,hPe,hs⟩;obtain rfl:=Jt hP hPe;replace g:=g.mono gj;replace gl:=gl.mono gj;replace hU:=RS.mono hU gj;replace uw:=RS.mono uw gj;replace xJ:=RS.mono xJ gj;have kI:=gK.trans gj;refine .T (.z fU ?_);rw [decide_eq_true rfl];refine .zn zpF (.cF (.skip (nT (.af (.z (zfa jB) (.y hs (zld aj) (.zn zg (.cut (fun fs w=>∃(mm:Int) (H7:cK),lr fs ⟨148,[],[(12,I mm),(10,Pt pb),(9,Pt b9),(7,Pt b7),(6,Pt b6),(3,Pt b3)]⟩∧HLe H4 H7∧St H7 w [.blk pb [I n,.slice au us.length cu],.blk b9 (lgC X),.blk b7 (lnC l (.slice at_ l.table.length ct) (.slice mq l.seasons.length cs)),.blk b6 (svC s (.slice aa s.sp.st.length ca) (.slice ab s.sp.wa.length cb) (.slice ac s.rs.length cac) (.slice ad s.cs.length cd)),.blk b3 [I c.leg,I c.mass,.bool c.near,.slice alc c.ls.length clc,I c.m,.slice auc c.us.length cuc]]) ?_ ?_))))))))
  ·refine .af (.z zm (.zn fJ (.bA rfl (fun JO=>?_) (fun JO=>?_))))
   ·refine .af ?_;obtain rfl:f=0:=by assumption
    obtain ⟨k',hPz,Zy,-,Y3⟩:=hP.resolve_left fun ⟨_,h,_⟩=>h rfl
    have Y3:=Y3 rfl;obtain ⟨aU,hl,Wd,-,r9,hk⟩:=hPz.zero;obtain ⟨-,-,uN⟩:=Zy.zero;have Xu:=aU.early.1.wa.two;have Yc:=r9.bd ai;obtain ⟨q,rfl⟩:∃q:Nat,k'=(q:Int):=⟨k'.toNat,ai⟩;have JE:q<s.sp.wa.length:=by omega
    refine .z (zfa a6) (.y hs (zls [_,_,_,_,_,_] bY bq) (.y hs (zls [_,_,_,_] ck bw) (.y hs (zls [_,_,_,_,_,_,_] ep bg) (.o (.call call48 rfl (xm (s:=s.sp) (l:=l) (x:=X) hs g.st g.wa gl) ?_)))));rintro _ w ⟨k6,e6,rfl,Gp,hs⟩;obtain ⟨rfl,rfl⟩:k6=(q:Int)∧e6=0:=by
     cases Gp with
     |space h=>exact (h aU.early.1).elim
     |lines _ h=>exact (h hl).elim
     |leg _ _ h=>exact (h Wd).elim
     |go _ _ _ h=>exact h.uniq hl r9
    refine .z zm (.z zex (.z zex (.z zg (.zn zg (.af (.y hs (zls [_,_,_,_,_,_,_,_] bn aK) (.z zm (.z (zfa fA) (.y hs (zls [_,_] cE aH) (.o (.call call59 rfl (p8 (s:=s) (x:=X.dlo) (y:=X.dhi) hs g) ?_)))))))))));rintro _ w ⟨H5,dl,dh,e5,lk,rfl,hDs,hs⟩;replace g:=g.mono lk;replace gl:=gl.mono lk;replace hU:=RS.mono hU lk;obtain ⟨rfl,IG⟩:e5=0∧ow s q X.dlo X.dhi dl dh 0:=by
     cases hDs with
     |bad h he=>exact (he (h.dr.2 aU)).elim
     |water _ h=>exact (h ai).elim
     |dense _ _ h=>exact (h Wd.dense).elim
     |go _ _ _ h=>
      rw [Int.toNat_natCast] at h
      rcases h.err aU JE with ⟨rfl,_⟩|⟨_,h1,_⟩
      ·exact ⟨rfl,h⟩
      ·exact (h1 uN).elim
    have hSb:=IG.bd Wd.dense;refine .z zm (.z zex (.z zex (.o (.alloc hs dy rfl fun Gq w hs=>?_))));refine .o (.aJ (vs:=[_,_]) hs rfl rfl aH fun w hs=>?_);refine .zn zg (.seq (.af (.z (zfa bH) (.y hs (zld aj) (.z tN (.z zm (.ie (t':=80) rfl (fun RW=>?_) (fun RW=>?_))))))))
    ·refine .T ?_;refine .y hs (zls [_,_,_,_,_,_,_,_] bn aK) (.T (.y hs (zls [_,_,_,_] ck bw) (.T (.y hs (zls [_,_,_,_,_,_,_] ep bg) (.T (.z (zfa bH) (.T (.y hs (zld aj) (.T (.y hs (zls [_,_] eF bQ) (.T (.o (.call call68 rfl (iH (s:=s) (l:=l) (x:=X) (mass:=dl) (m:=n) (us:=us) hs g gl ⟨_,rfl,hU⟩) ?_)))))))))))));rintro _ w ⟨H6,e7,zf,rfl,Vm,hs⟩;have aa2:=lk.trans zf;obtain rfl:e7=0:=K7 aU hl Wd ai r9 hk Y3 IG (Int.le_refl _) Vm;refine .T (.z fU ?_);rw [decide_eq_true rfl];refine .zn zpT (.cF (.skip (nT (.af (.z (zfa lP) (.y hs (zld Kd) (.nil (.cond rfl (fun G4=>?_) (fun G4=>?_)))))))))
     ·refine .draw mix rfl hs fun w hs=>?_
      refine .zw 0 rfl (zfa bH) ?_;refine .y 1 rfl hs aj ?_;refine .z 2 rfl (zfa jB) ?_;refine .y 3 rfl hs aj ?_;refine .E 4 hs ?_;have OT:=kB c.mass (m:=5) ai;refine .call jE rfl (cM hs ai) ?_;rintro _ w ⟨rfl,hs⟩;refine .go (.zw 5 rfl cV ?_);refine .z 6 rfl gE ?_;refine .z 7 rfl zg ?_;refine .D hs ?_;exact nT ⟨_,_,aM,by first|exact HLe.refl _|assumption,hs.sb⟩
     ·exact .skip (nT ⟨_,_,aM,by first|exact HLe.refl _|assumption,hs.sb⟩)
    ·refine .Fs 8 3 true (.zn zpF (.cF (.skip (nT (.af (.z (zfa lP) (.y hs (zld Kd) (.nil (.cond rfl (fun G4=>?_) (fun G4=>?_))))))))))
     ·refine .draw mix rfl hs fun w hs=>?_
      refine .zw 0 rfl (zfa bH) ?_;refine .y 1 rfl hs aj ?_;refine .z 2 rfl (zfa jB) ?_;refine .y 3 rfl hs aj ?_;refine .E 4 hs ?_;have OT:=kB c.mass (m:=5) ai;refine .call jE rfl (cM hs ai) ?_;rintro _ w ⟨rfl,hs⟩;refine .go (.zw 5 rfl cV ?_);refine .z 6 rfl gE ?_;refine .z 7 rfl zg ?_;refine .D hs ?_;exact nT ⟨_,_,aM,by first|exact HLe.refl _|assumption,hs.sb⟩
     ·exact .skip (nT ⟨_,_,aM,by first|exact HLe.refl _|assumption,hs.sb⟩)
   ·exact .skip (nT ⟨_,_,aM,by first|exact HLe.refl _|assumption,hs.sb⟩)
  ·clear hs;rintro fs w ⟨mm,H7,gP,DJ,hs⟩;refine WE.sub ?_ gP;clear gP;replace g:=g.mono DJ;replace gl:=gl.mono DJ;replace hU:=RS.mono hU DJ;replace uw:=RS.mono uw DJ;replace xJ:=RS.mono xJ DJ;have Uu:=kI.trans DJ;refine .af (.y hs (zls [_,_] eF bQ) (.z (zfa qj) (.y hs (zld isAgg119) (.o (.call call69 rfl (vR hs ⟨_,rfl,hU⟩ SS.1 SS.2 uw) ?_)))));rintro vq w ⟨H11,n2,zH,Fj,⟨uq,rfl,Hh⟩,hs⟩;obtain ⟨aq,cq,rfl⟩:=RU.shape Hh;replace g:=g.mono Fj;replace gl:=gl.mono Fj;replace hU:=RS.mono hU Fj;replace xJ:=RS.mono xJ Fj;have Ry:=Uu.trans Fj;refine .o (.alloc hs ju rfl fun J2 w hs=>?_);refine .o (.aJ (vs:=[_,_]) hs rfl rfl bQ fun w hs=>?_);refine .nil (.seq (.draw mix rfl hs fun w hs=>?_));refine .ys 0 rfl hs [_,_,_,_,_,_,_,_] bn aK ?_;refine .ys 1 rfl hs [_,_,_,_] ck bw ?_;refine .ys 2 rfl hs [_,_,_,_,_,_,_] ep bg ?_;refine .z 3 rfl zm ?_;refine .ys 4 rfl hs [_,_] eF bQ ?_;refine .ys 6 rfl hs [_,_,_,_,_,_,_,_] bn aK ?_;refine .ys 7 rfl hs [_,_,_,_] ck bw ?_;refine .ys 8 rfl hs [_,_,_,_,_,_,_] ep bg ?_;refine .z 9 rfl zm ?_;refine .ys 10 rfl hs [_,_] eF bQ ?_;refine .E 5 hs ?_;refine .call call70 rfl (kC (s:=s) (l:=l) (x:=X) (mass:=mm) (m:=n) (us:=us) hs g gl ⟨_,rfl,hU⟩) ?_;rintro _ w ⟨H12,ea,CD,rfl,G1,hs⟩;replace g:=g.mono CD;replace gl:=gl.mono CD;replace hU:=RS.mono hU CD;replace xJ:=RS.mono xJ CD;replace Hh:=RS.mono Hh CD;have Rx:=Ry.trans CD;refine .go (.E 11 hs ?_);refine .call call68 rfl (iH (s:=s) (l:=l) (x:=X) (mass:=mm) (m:=n) (us:=us) hs g gl ⟨_,rfl,hU⟩) ?_;rintro _ w ⟨H13,eb,vT,rfl,heb,hs⟩;replace g:=g.mono vT;replace gl:=gl.mono vT;replace hU:=RS.mono hU vT;replace xJ:=RS.mono xJ vT;replace Hh:=RS.mono Hh vT;have Rw:=Rx.trans vT;obtain rfl:=G1.uniq heb;refine .go (.zw 12 rfl fJ ?_);rw [decide_eq_true rfl];refine .zw 13 rfl zm ?_;refine .ys 14 rfl hs [_,_,_,_,_,_,_,_] bn aK ?_;refine .ys 15 rfl hs [_,_,_,_] ck bw ?_;refine .ys 16 rfl hs [_,_,_,_,_,_,_] ep bg ?_;refine .z 17 rfl zm ?_;refine .ys 18 rfl hs [_,_] eF bQ ?_;refine .ys 20 rfl hs [_,_,_,_,_,_,_,_] bn aK ?_;refine .ys 21 rfl hs [_,_,_,_] ck bw ?_;refine .ys 22 rfl hs [_,_,_,_,_,_,_] ep bg ?_;refine .z 23 rfl zm ?_;refine .zv 24 rfl hs (E4 [_,_] eF bQ) (.E 19 hs ?_);refine .call call70 rfl (kC (s:=s) (l:=l) (x:=X) (mass:=mm) (m:=n2) (us:=zH) hs g gl ⟨_,rfl,Hh⟩) ?_;rintro _ w ⟨H14,ec,CC,rfl,hec,hs⟩;replace g:=g.mono CC;replace gl:=gl.mono CC;replace hU:=RS.mono hU CC;replace xJ:=RS.mono xJ CC;replace Hh:=RS.mono Hh CC;have Rv:=Rw.trans CC;refine .go (.E 25 hs ?_);refine .call call68 rfl (iH (s:=s) (l:=l) (x:=X) (mass:=mm) (m:=n2) (us:=zH) hs g gl ⟨_,rfl,Hh⟩) ?_;rintro _ w ⟨H15,ed,CB,rfl,hed,hs⟩;replace g:=g.mono CB;replace gl:=gl.mono CB;replace hU:=RS.mono hU CB;replace xJ:=RS.mono xJ CB;replace Hh:=RS.mono Hh CB;have Ru:=Rv.trans CB;obtain rfl:=hec.uniq hed;refine .go (.zw 26 rfl fJ ?_);rw [decide_eq_true rfl];refine .zw 27 rfl zpT ?_;refine .z 28 rfl zm ?_;refine .ys 29 rfl hs [_,_,_,_,_,_,_,_] bn aK ?_;refine .ys 30 rfl hs [_,_,_,_] ck bw ?_;refine .ys 31 rfl hs [_,_,_,_,_,_,_] ep bg ?_;refine .z 32 rfl zm ?_;refine .z 33 rfl (zfa lO) ?_;refine .ys 34 rfl hs [_,_] eF bQ ?_;refine .ys 36 rfl hs [_,_,_,_,_,_,_,_] bn aK ?_;refine .ys 37 rfl hs [_,_,_,_] ck bw ?_;refine .ys 38 rfl hs [_,_,_,_,_,_,_] ep bg ?_;refine .z 39 rfl zm ?_;refine .z 40 rfl (zfa lO) ?_;refine .ys 41 rfl hs [_,_] eF bQ ?_;refine .E 35 hs ?_;refine .call call70 rfl (kC (s:=s) (l:=l) (x:=X) (mass:=mm) (m:=c.m) (us:=c.us) hs g gl ⟨_,rfl,xJ⟩) ?_;rintro _ w ⟨H16,ee,CA,rfl,hee,hs⟩;replace g:=g.mono CA;replace gl:=gl.mono CA;replace hU:=RS.mono hU CA;replace xJ:=RS.mono xJ CA;replace Hh:=RS.mono Hh CA;have Rt:=Ru.trans CA;refine .go (.E 42 hs ?_);refine .call call68 rfl (iH (s:=s) (l:=l) (x:=X) (mass:=mm) (m:=c.m) (us:=c.us) hs g gl ⟨_,rfl,xJ⟩) ?_;rintro _ w ⟨H17,ef,Cz,rfl,hef,hs⟩;replace g:=g.mono Cz;replace gl:=gl.mono Cz;replace hU:=RS.mono hU Cz;replace xJ:=RS.mono xJ Cz;replace Hh:=RS.mono Hh Cz;have Ya:=Rt.trans Cz;obtain rfl:=hee.uniq hef;refine .go (.zw 43 rfl fJ ?_);rw [decide_eq_true rfl];refine .zw 44 rfl zpT ?_;refine .z 45 rfl zg ?_;refine .D hs ?_;exact .ret (Fin.bu results16 rfl ⟨by first|rfl|(exfalso;omega),_,by assumption,hs.out⟩)
end Go.Proofs.YteajddicacjkhaaGreat
