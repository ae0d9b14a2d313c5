/-
  Texts of these claims, joined: Oq Os Ot Ou Ov Ow Rd Mzu Rf Rg.
-/
import Derived.Test.YteajddicacjkhaaGreatHe
namespace Go.Proofs.YteajddicacjkhaaGreat
open Go.MW Tryz
variable{H:cu}{σ:List Ent}{a0 a1 a2 x most a hi lo f d e z1 z2 z3:Int}{l:Lns}{ls:List Lim}{g b k bf bt bl cl i j bm:Nat}{cap sp:List Value}{s:Spc}{xs ts lf ws L X Y l1 l2 sl pk ks dC:List Int}{en:Ent}{vl vt vp vw vm vx v1 v2 cE cB vr vc vh vs v5 v4 fX:Value}{m:Rng}{Ms rows:List (List Int)}{t:TD}{high:Bool}{ie:List F5}{ir:List F4}
theorem mX{w:World}(hs:St H w σ)(g:LnM H l vt vs)(hl:jn l):
  aaR 103 [lnA l vt vs] w fun u w'=>∃(n:Int) (b:Bool),u= .tuple #[I n,I (if b then 0 else 3)]∧zi l n b∧St H w' σ:=by
 have h1:=g.tb;obtain ⟨at_,ct,rfl⟩:=h1.shape;have hm:=hl.many;refine Cl.o func103 ntmps103 ag1 ?_;refine .af (.bx hs fun b1 w hs=>?_);refine .z zg (.zn zg (.af (.z (zfa db) (.y hs (zld j5) (.zn zg (.seq (.af (.zn zg (.block ?_)))))))));refine .loop (fun k:Nat=>⟨101,[],[(5,I (k:Int)),(4,.slice at_ l.table.length ct),(1,Pt b1)]⟩)
  (fun k w=>k≤l.table.length∧(∀i<k,(fb0 l.table i).len≠l.length∧(0<i→¬((fb0 l.table (i - 1)).len<l.length∧l.length<(fb0 l.table i).len)))∧St H w (.blk b1 (lnC l (.slice at_ l.table.length ct) vs)::σ)) (fun k=>l.table.length - k) 0 aH
  ⟨Nat.zero_le _,fun i hi=>by omega,hs⟩ ?_
 rintro k w ⟨hk,eE,hs⟩;refine .seq (.af (.z zm (.z zm (.z (de bn) (.zn fN (.bh rfl (fun gL=>?_) (fun gL=>?_)))))))
 ·refine .skip (nT (.seq (.block (.seq (.seq (.draw mix rfl hs fun w hs=>?_))))));have lB:k<l.table.length:=by omega
  have hx:=oQ (l:=l.table) lB;have wZ:=oQ (l:=l.table) (i:=k - 1) ai;have RD:(fb0 l.table k).len≠l.length→(0<k→¬((fb0 l.table (k - 1)).len<l.length∧l.length<(fb0 l.table k).len))→∀i<k+1,(fb0 l.table i).len≠l.length∧(0<i→¬((fb0 l.table (i - 1)).len<l.length∧l.length<(fb0 l.table i).len)):=fun g1 g2 i hi=>by
   by_cases e:i=k
   ·subst e;exact ⟨g1,g2⟩
   ·exact eE i ai
  have ha:=hl.table (k - 1) ai;have hb:=hl.table k lB;have a1:=ha.len;have a2:=ha.least;have b1':=hb.len;have b2:=hb.least;have hL:=hl.length;refine .zw 0 rfl zm ?_;refine .z 1 rfl zm ?_;refine .ixX (enc:=Fbd.c) (i:=2) hs rfl aA .none h1 rfl rfl bn cP hx cK ?_;intro xO o18 ib;refine .zw 3 rfl (zfa bV) (.r (i:=4) hs rfl aA .none (aC rfl aj (ib.get 0 rfl)) ?_);refine .zw 5 rfl (zfa eQ) ?_;refine .y 6 rfl hs aj ?_;refine .z 7 rfl fy ?_;refine .D hs ?_;refine (.bh rfl (fun mK=>?_) (fun mK=>?_))
  ·refine .af (.z zm (.z zm (.ixX (enc:=Fbd.c) hs h1 rfl rfl bn cP hx cK ?_)));intro Ur o26 iV;exact .z (zfa dT) (.q hs (aC rfl aj (iV.get 1 rfl)) (.z zg (.zn zg (.ret (rT (rB (rT (rT (rB (rT (Fin.gU results103 rfl rfl ⟨_,true,rfl,.at_ lB mK,hs.out⟩)))))))))))
  ·refine .skip (nT (.seq (.draw mix rfl hs fun w hs=>?_)));refine .zw 0 rfl zm ?_;refine .z 1 rfl kU ?_;refine .z 2 rfl zm ?_;refine .iz (t':=31) rfl (fun yE=>?_) (fun yE=>?_)
   ·refine .zw 3 rfl zm ?_;refine .z 4 rfl zm ?_;refine .z 5 rfl gx ?_;refine .ixX (enc:=Fbd.c) (i:=6) hs rfl aA (.some rfl rfl) h1 rfl rfl bn cP wZ cK ?_;intro Oa o35 nj;refine .zw 7 rfl (zfa bV) (.r (i:=8) hs rfl aA (.some rfl rfl) (aC rfl aj (nj.get 0 rfl)) ?_);refine .zw 9 rfl (zfa eQ) ?_;refine .y 10 rfl hs aj ?_;refine .z 11 rfl fN ?_;refine .z 12 rfl zpT ?_;refine .z 13 rfl zm ?_;refine .iz (t':=42) rfl (fun QG=>?_) (fun QG=>?_)
    ·refine .zw 14 rfl (zfa eQ) ?_;refine .y 15 rfl hs aj ?_;refine .z 16 rfl zm ?_;refine .z 17 rfl zm ?_;refine .ixX (enc:=Fbd.c) (i:=18) hs rfl aA (.some rfl rfl) h1 rfl rfl bn cP hx cK ?_;intro Rf o47 lC;refine .zw 19 rfl (zfa bV) (.r (i:=20) hs rfl aA (.some rfl rfl) (aC rfl aj (lC.get 0 rfl)) ?_);refine .zw 21 rfl fN ?_;refine .z 22 rfl zpT ?_;refine .D hs ?_;refine (.bh rfl (fun Ev=>?_) (fun Ev=>?_))
     ·refine .seq (.draw mix rfl hs fun w hs=>?_);refine .zw 0 rfl zm ?_;refine .z 1 rfl zm ?_;refine .z 2 rfl gx ?_;have hX:=kL (a:=(fb0 l.table (k - 1)).least) (b:=(fb0 l.table k).len - l.length) (A:=5000) (B:=100000) ai ai;have hY:=kL (a:=(fb0 l.table k).least) (b:=l.length - (fb0 l.table (k - 1)).len) (A:=5000) (B:=100000) ai ai;have aam:=Int.mul_nonneg a2.1 (show 0≤(fb0 l.table k).len - l.length by omega);have hY0:=Int.mul_nonneg b2.1 (show 0≤l.length - (fb0 l.table (k - 1)).len by omega);have KL:=zi.mid lB ai di di;have sZ:=KL.bd hl;have Jj:=Uc (a:=(fb0 l.table (k - 1)).least) (b:=(fb0 l.table k).least) (L:=l.length) (show (fb0 l.table (k - 1)).len<(fb0 l.table k).len by omega);rw [←Int.tdiv_eq_ediv_of_nonneg ai] at Jj;change _=EG l k at Jj;refine .ixX (enc:=Fbd.c) (i:=3) hs rfl aA .none h1 rfl rfl bn cP wZ ai ?_;intro aaM o55 Qy;refine .zw 4 rfl (zfa dT) (.r (i:=5) hs rfl aA .none (aC rfl aj (Qy.get 1 rfl)) ?_);refine .zw 6 rfl zm ?_;refine .z 7 rfl zm ?_;refine .ixX (enc:=Fbd.c) (i:=8) hs rfl aA .none h1 rfl rfl bn cP hx cK ?_;intro aaK o60 ND;refine .zw 9 rfl (zfa bV) (.r (i:=10) hs rfl aA .none (aC rfl aj (ND.get 0 rfl)) ?_);refine .zw 11 rfl (zfa eQ) ?_;refine .y 12 rfl hs aj ?_;refine .z 13 rfl gx ?_;refine .z 14 rfl kV ?_;refine .z 15 rfl zm ?_;refine .z 16 rfl zm ?_;refine .ixX (enc:=Fbd.c) (i:=17) hs rfl aA .none h1 rfl rfl bn cP hx cK ?_;intro b69 o69 Xs;refine .zw 18 rfl (zfa dT) (.r (i:=19) hs rfl aA .none (aC rfl aj (Xs.get 1 rfl)) ?_);refine .zw 20 rfl (zfa eQ) ?_;refine .y 21 rfl hs aj ?_;refine .z 22 rfl zm ?_;refine .z 23 rfl zm ?_;refine .z 24 rfl gx ?_;refine .ixX (enc:=Fbd.c) (i:=25) hs rfl aA .none h1 rfl rfl bn cP wZ cK ?_;intro b77 o77 KU;refine .zw 26 rfl (zfa bV) (.r (i:=27) hs rfl aA .none (aC rfl aj (KU.get 0 rfl)) ?_);refine .zw 28 rfl gx ?_;refine .z 29 rfl kV ?_;refine .z 30 rfl cH ?_;refine .z 31 rfl zg ?_;refine .D hs ?_;refine .seq (.draw mix rfl hs fun w hs=>?_);refine .zw 0 rfl zm ?_;refine .z 1 rfl zm ?_;refine .ixX (enc:=Fbd.c) (i:=2) hs rfl aA .none h1 rfl rfl bn cP hx cK ?_;intro aaJ o85 NB;refine .zw 3 rfl (zfa bV) (.r (i:=4) hs rfl aA .none (aC rfl aj (NB.get 0 rfl)) ?_);refine .zw 5 rfl zm ?_;refine .z 6 rfl zm ?_;refine .z 7 rfl gx ?_;refine .ixX (enc:=Fbd.c) (i:=8) hs rfl aA .none h1 rfl rfl bn cP wZ cK ?_;intro aaH o91 Qu;refine .zw 9 rfl (zfa bV) (.r (i:=10) hs rfl aA .none (aC rfl aj (Qu.get 0 rfl)) ?_);refine .zw 11 rfl gx ?_;refine .z 12 rfl zg ?_;refine .D hs ?_;refine .af (.z zm (.z zm (.z cH (.z gx (.z zm (.q hs (uO rfl rfl ai (by rw [Jj];omega)) ?_))))));rw [Jj];exact .z zg (.zn zg (.ret (rB (rT (rT (rB (rT (Fin.gU results103 rfl rfl ⟨_,true,rfl,KL,hs.out⟩))))))))
     ·exact .skip (nB (nT (.region (.z zm (.z cH (.zn zg (nT ⟨k+1,.cD rfl bH aH,⟨ai,RD mK (fun _=>by omega),hs⟩,ai⟩)))))))
    ·refine .F 14 rfl (.F 15 rfl (.F 16 rfl (.F 17 rfl (.F 18 rfl (.F 19 rfl (.F 20 rfl (.F 21 rfl (.zw 22 rfl zpF ?_))))))));refine .D hs ?_;exact (.cF (.skip (nB (nT (.region (.z zm (.z cH (.zn zg (nT ⟨k+1,.cD rfl bH aH,⟨ai,RD mK (fun _=>by omega),hs⟩,ai⟩)))))))))
   ·refine .F 3 rfl (.F 4 rfl (.F 5 rfl (.F 6 rfl (.F 7 rfl (.F 8 rfl (.F 9 rfl (.F 10 rfl (.F 11 rfl (.zw 12 rfl zpF ?_)))))))));refine .z 13 rfl zm ?_;refine .F 14 rfl (.F 15 rfl (.F 16 rfl (.F 17 rfl (.F 18 rfl (.F 19 rfl (.F 20 rfl (.F 21 rfl (.zw 22 rfl zpF ?_))))))));refine .D hs ?_;exact (.cF (.skip (nB (nT (.region (.z zm (.z cH (.zn zg (nT ⟨k+1,.cD rfl bH aH,⟨ai,RD mK (fun _=>by omega),hs⟩,ai⟩)))))))))
 ·refine .exit (xT (xT (xB (nT (.af (.z zg (.zn zg (.ret (Fin.gU results103 rfl rfl ?_)))))))));obtain rfl:k=l.table.length:=by omega
  exact ⟨_,false,rfl,.none (fun i hi=>(eE i hi).1) (fun i hi=>(eE i hi).2),hs.out⟩
theorem Fc{w:World}(hs:St H w σ)(g:LnM H l vt vs):
  aaR 38 [lnA l vt vs] w fun u w'=>∃n e,u= .tuple #[I n,I e]∧Dm l n e∧St H w' σ:=by
 refine Cl.o func38 ntmps38 ag1 ?_;refine .af (.bx hs fun b1 w hs=>?_);refine .z zg (.zn zg (.seq (.af (.y hs (zls [_,_,_,_] dc bK) (.o (.call call20 rfl (jC hs g) ?_))))));rintro _ w ⟨e,rfl,he,hs⟩;refine .zn fV (.dK rfl (fun ZY=>?_) (fun ZY=>?_))
 ·refine .af (.z zg (.zn zg (.ret (rT (Fin.gU results38 rfl rfl ?_)))));have h:=he.resolve_left fun h=>ZY h.2
  exact ⟨_,_,rfl,.lines h.1,hs.out⟩
 ·refine .skip (nT (.af (.y hs (zls [_,_,_,_] dc bK) ?_)));have aZ:jn l:=(he.resolve_right fun h=>by omega).1;refine .o (.call call103 rfl (mX hs g aZ) ?_);rintro _ w ⟨n,b,rfl,hF,hs⟩;refine .z zex (.z zex (.z zg (.zn zg (.ret (Fin.gU results38 rfl rfl ⟨_,_,rfl,?_,hs.out⟩)))))
  cases b with
  |true=>exact .ok aZ hF
  |false=>rw [show n=0 by cases hF;rfl] at*;exact .none aZ hF
theorem tE{w:World}{s:Ssn}(hs:St H w σ)(hd:0≤d):aaR 160 [.agg #[I s.zone,I s.fr,I s.to,I s.extra],I d] w fun v w'=>v= .bool (decide (yN s (1+d%365)))∧St H w' σ:=by
 have e:d.tmod 365=d%365:=Int.tmod_eq_emod_of_nonneg hd;refine Cl.o func160 ntmps160 ag2 ?_;refine .af (.bx hs fun b2 w hs=>?_);refine .zn zg (.af (.z zm (.z E9 ?_)));rw [e];refine .z cH (.zn zg (.seq (.af (.z (zfa e9) (.y hs (zld aj) (.z (zfa e8) (.y hs (zld aj) (.zn oY (.bh rfl (fun gL=>?_) (fun gL=>?_))))))))))
 ·refine .af (.z zm (.z (zfa e9) (.y hs (zld aj) (.z (zfa e8) (.y hs (zld aj) (.o (.call nE rfl (dE hs) ?_)))))));rintro _ w ⟨rfl,hs⟩;refine .zn zg (.ret (rT (Fin.bj results160 rfl ⟨?_,hs.out⟩)))
  congr 1
  simp only [yN,if_pos gL]
 ·refine .skip (nT (.af (.z zm (.z (zfa e9) (.y hs (zld aj) (.z xv (.z zm (.iz (t':=24) rfl (fun qS=>?_) (fun qS=>?_)))))))))
  ·refine .Fs 4 4 false (.z zpT (.zn zg (.ret (Fin.bj results160 rfl ⟨?_,hs.out⟩))))
   congr 1
   simp only [yN,if_neg gL]
   symm
   simp [*]
  ·refine .T (.z zm (.T (.z (zfa e8) (.T (.y hs (zld aj) (.T (.z oY (.z zpF (.zn zg (.ret (Fin.bj results160 rfl ⟨?_,hs.out⟩)))))))))))
   congr 1
   simp only [yN,if_neg gL];simp [*]
theorem xX{w:World}{z:Int}(hs:St H w σ)(g:LnM H l vt vs)(hl:jn l)(hd:0≤d):
  aaR 108 [lnA l vt vs,I z,I d] w fun v w'=>v=I (j7 l.seasons z (1+d%365))∧St H w' σ:=by
 have h2:=g.sn;obtain ⟨dC,cs,rfl⟩:=h2.shape;have hm:=hl.most;refine Cl.o func108 ntmps108 ag3 ?_;refine .af (.bx hs fun b3 w hs=>?_);refine .zn zg (.af (.zn zg (.seq (.af (.zn zg (.block ?_))))));refine .loop (fun k:Nat=>⟨42,[],[(8,I (k:Int)),(7,I (j7 (l.seasons.take k) z (1+d%365))),(3,Pt b3),(1,I z),(2,I d)]⟩)
  (fun k w=>k≤l.seasons.length∧St H w (.blk b3 (lnC l vt (.slice dC l.seasons.length cs))::σ)) (fun k=>l.seasons.length - k) 0 aH
  ⟨Nat.zero_le _,hs⟩ ?_
 rintro k w ⟨hk,hs⟩;refine .seq (.af (.z zm (.z (zfa dj) (.y hs (zld kJ) (.z (de bY) (.zn fN (.bh rfl (fun gL=>?_) (fun gL=>?_))))))))
 ·refine .skip (nT (.seq (.block (.af ?_))));obtain ⟨s,hx⟩:=nth (l:=l.seasons) (k:=k) ai;have hE:=tX (l.seasons.take k) s z (1+d%365);rw [←dr hx] at hE;refine .z (zfa dj) (.y hs (zld kJ) (.z zm (.ixX (enc:=Ssn.c) hs h2 rfl rfl bY eh hx cK ?_)));intro pU o19 mL;refine .z (zfa jM) (.q hs (aC rfl aj (mL.get 0 rfl)) (.z zm (.z fy (.z zm (.iz (t':=24) rfl (fun qS=>?_) (fun qS=>?_))))))
  ·refine .T (.z (zfa dj) (.T (.y hs (zld kJ) (.T (.z zm (.T (.ixX (enc:=Ssn.c) hs h2 rfl rfl bY eh hx cK ?_)))))));intro R1 o28 kR;refine .T (.q hs (bQ (vs:=(Ssn.c s)) rfl isAgg104 eh kR) (.T (.z zm (.T (.o (.call call160 rfl (tE (s:=s) hs hd) ?_))))));rintro _ w ⟨rfl,hs⟩;refine .zn zpT (.cond rfl (fun sY=>?_) (fun sY=>?_))
   ·refine .region (.z zm (.z (zfa dj) (.y hs (zld kJ) (.z zm (.ixX (enc:=Ssn.c) hs h2 rfl rfl bY eh hx cK ?_)))));intro By o37 qb;refine .z (zfa jL) (.q hs (aC rfl aj (qb.get 3 rfl)) (.z DK (.zn zg (nB (nT (.region (.z zm (.z cH (.zn zg (nT ?_))))))))));rw [if_pos ⟨by assumption,by simpa using sY⟩] at hE;exact ⟨k+1,.cD rfl bH (by rw [hE];exact aH),⟨ai,hs⟩,ai⟩
   ·refine .skip (nB (nT (.region (.z zm (.z cH (.zn zg (nT ?_)))))));rw [if_neg (fun h=>of_decide_eq_false sY h.2)] at hE;exact ⟨k+1,.cD rfl bH (by rw [hE];exact aH),⟨ai,hs⟩,ai⟩
  ·refine .Fs 7 8 true (.zn zpF (.cF (.skip (nB (nT (.region (.z zm (.z cH (.zn zg (nT ?_))))))))));rw [if_neg (fun h=>by have:=h.1;contradiction)] at hE;exact ⟨k+1,.cD rfl bH (by rw [hE];exact aH),⟨ai,hs⟩,ai⟩
 ·refine .exit (xT (xT (xB (nT (.af (.z zm (.zn zg (.ret (Fin.bj results108 rfl ?_)))))))));obtain rfl:k=l.seasons.length:=by omega
  exact ⟨by rw [List.take_length],hs.out⟩
theorem uH{w:World}{z:Int}(hs:St H w σ)(g:LnM H l vt vs):
  aaR 107 [lnA l vt vs,I z,I d] w fun v w'=>∃e,v=I e∧GA l z d e∧St H w' σ:=by
 refine Cl.o func107 ntmps107 ag3 ?_;refine .af (.bx hs fun b3 w hs=>?_);refine .zn zg (.seq (.af (.y hs (zls [_,_,_,_] dc bK) (.o (.call call20 rfl (jC hs g) ?_)))));rintro _ w ⟨e,rfl,he,hs⟩;refine .zn fV (.dK rfl (fun nv=>?_) (fun nv=>?_))
 ·refine .af (.zn zg (.ret (rT (Fin.bj results107 rfl ?_))));have h:=he.resolve_left fun h=>nv h.2
  exact ⟨_,rfl,.lines h.1,hs.out⟩
 ·refine .skip (nT (.seq (.af ?_)));have aZ:jn l:=(he.resolve_right fun h=>by omega).1;refine .z zm (.o (.call nE rfl (dE hs) ?_));rintro _ w ⟨rfl,hs⟩;refine .zn fU (.cond rfl (fun fl=>?_) (fun fl=>?_))
  ·exact .af (.zn zg (.ret (rT (Fin.bj results107 rfl ⟨_,rfl,.zone aZ (by simp at fl;omega),hs.out⟩))))
  ·refine .skip (nT (.seq (.af (.z zm (.o (.call nE rfl (dE hs) ?_))))));rintro _ w ⟨rfl,hs⟩;refine .zn fU (.cond rfl (fun e7=>?_) (fun e7=>?_))
   ·exact .af (.zn zg (.ret (rT (Fin.bj results107 rfl ⟨_,rfl,.day aZ (by simpa using fl) (by simp at e7;omega),hs.out⟩))))
   ·exact .skip (nT (.af (.zn zg (.ret (Fin.bj results107 rfl ⟨_,rfl,.ok aZ (by simpa using fl) (by simpa using e7),hs.out⟩)))))
theorem wM{w:World}{z:Int}(hs:St H w σ)(g:LnM H l vt vs):
  aaR 42 [lnA l vt vs,I z,I d] w fun u w'=>∃n e,u= .tuple #[I n,I e]∧Jw l z d n e∧St H w' σ:=by
 refine Cl.o func42 ntmps42 ag3 ?_;refine .af (.bx hs fun b3 w hs=>?_);refine .z zg (.zn zg (.af (.y hs (zls [_,_,_,_] dc bK) (.z zm (.z zm (.o (.call call107 rfl (uH hs g) ?_)))))));rintro _ w ⟨e,rfl,he,hs⟩;refine .zn zg (.seq (.af (.z zm (.zn fV (.dK rfl (fun eC=>?_) (fun eC=>?_))))))
 ·exact .af (.z zm (.z zg (.zn zg (.ret (rT (Fin.gU results42 rfl rfl ⟨_,_,rfl,.bad he eC,hs.out⟩))))))
 ·refine .skip (nT (.af (.y hs (zls [_,_,_,_] dc bK) ?_)));obtain rfl:e=0:=by omega
  obtain ⟨aZ,hz,hd⟩:=he.zero;refine .o (.call call103 rfl (mX hs g aZ) ?_);rintro _ w ⟨n,b,rfl,hF,hs⟩;refine .z zm (.z zex (.z zex (.z zg (.zn zg (.seq (.af (.z zm (.zn fV (.dK rfl (fun jX=>?_) (fun jX=>?_))))))))))
  ·refine .af (.z zm (.z zg (.zn zg (.ret (rT (Fin.gU results42 rfl rfl ?_))))));obtain rfl:b=false:=by cases b;rfl;exact (jX rfl).elim
   exact ⟨_,_,rfl,.none he hF,hs.out⟩
  ·refine .skip (nT (.seq (.draw mix rfl hs fun w hs=>?_)));refine .zw 0 rfl (zfa ji) ?_;obtain rfl:b=true:=by cases b;simp at jX;rfl
   have hn:=hF.bd aZ;have RM:=aZ.depth;have hE:=vH aZ.seasons z (1+d%365);refine .y 1 rfl hs aj ?_;refine .z 2 rfl zm ?_;refine .z 3 rfl gx ?_;refine .ys 4 rfl hs [_,_,_,_] dc bK ?_;refine .z 5 rfl zm ?_;refine .z 6 rfl zm ?_;refine .E 7 hs ?_;refine .call call108 rfl (xX hs g aZ hd.1) ?_;rintro _ w ⟨rfl,hs⟩;refine .go (.zw 8 rfl gx ?_);refine .z 9 rfl zg ?_;refine .z 10 rfl zg ?_;refine .D hs ?_;exact .ret (Fin.gU results42 rfl rfl ⟨_,_,rfl,.ok he hF,hs.out⟩)
theorem lO{w:World}{r:List Lg}(hs:St H w σ)(h1:RLg H vr r)(hr:xm r)(hm:iZ m.lo m.hi):
  aaR 82 [.agg #[vr],.agg #[I m.lo,I m.hi]] w fun u w'=>∃H1,HLe H H1∧RRg H1 u (msL m r r.length)∧St H1 w' σ:=by
 obtain ⟨ar,cr,rfl⟩:=h1.shape;have hn:=hr.many;refine Cl.o func82 ntmps82 ag2 ?_;refine .af (.bx hs fun b2 w hs=>?_);refine .bx hs fun b3 w hs=>?_
 refine .zn zg (.af (.y hs (zls [_,_] bJ aB) (.o (.buildSlice (cells:=m.c) hs jv rfl aA fun ny w hs=>?_))));refine .zn zg (.seq (.af (.zn zg (.block ?_))));refine .loop (fun p:Nat×Value×Ent=>⟨45,[],[(6,I (p.1:Int)),(5,p.2.1),(2,Pt b2)]⟩)
  (fun p w=>p.1≤r.length∧cU 2 p.2.1 (rgc (msL m r p.1)).flatten p.2.2∧St H w (p.2.2:: .blk b2 [.slice ar r.length cr]::σ)) (fun p=>r.length - p.1) (0,_,.blk ny m.c) aH
  ⟨Nat.zero_le _,.full rfl,hs.sb⟩ ?_
 rintro ⟨k,vo,en⟩ w ⟨hk,hO,hs⟩;dsimp only at hk hO hs ⊢;have KK:=jW m r k;obtain ⟨b,co,sp,rfl,rfl,hco⟩:=hO.N8 (Fz _) ai (by rw [lN];omega);rw [lN] at hO ⊢;refine .seq (.af (.z zm (.z (zfa bG) (.y hs (zld dH) (.z (de aF) (.zn fN (.bh rfl (fun e7=>?_) (fun e7=>?_))))))))
 ·refine .skip (nT (.seq (.block (.af ?_))));have lB:k<r.length:=by omega
  have hx:=kC (l:=r) lB;have hb:=CJ hm (fun i hi=>(hr.leg i hi).1) (i:=k) ai;have y8:=(hr.leg k lB).1.burn;unfold iZ at hb y8;refine .z (zfa bG) (.y hs (zld dH) (.z zm (.ixX (enc:=Lg.c) hs h1 rfl rfl aF bw hx rfl ?_)));intro uf o21 iC;refine .z (zfa gD) (.q hs (bQ (vs:=[I (lg0 r k).blo,I (lg0 r k).bhi]) rfl bJ aB (iC.sub 5 _)) (.o (.alloc hs cZ rfl fun b7 w hs=>?_)));refine .o (.aE (vs:=[I (lg0 r k).blo,I (lg0 r k).bhi]) hs rfl rfl aB fun w hs=>?_);refine .nil (.af (.z zm (.z zm (.z (oe eD aB) (.q hs (mG (vs:=(kg m r k).c) rfl bJ aB (hm:=by repeat (first|exact .here|refine .there ?_)) (hv:=BT (Fz _) (PT (wS m r (k:=k) (i:=k) (Nat.le_refl _))) sp)) ?_)))));refine .o (.alloc hs cZ rfl fun b8 w hs=>?_);refine .o (.aE (vs:=(kg m r k).c) hs rfl rfl aB fun w hs=>?_);change St _ _ (.blk b8 [I (kg m r k).lo,I (kg m r k).hi]::_) at hs;refine .nil (.region (.z zm (.z (zfa bp) (.y hs (zld aj) (.z (zfa bI) (.y hs (zld aj) (.z gx (.z DK (.z (zfa bI) (.y hs (zld aj) (.z (zfa bp) (.y hs (zld aj) (.z gx (.z DK (.z (zbd [_,_] bX) (.o (.buildSlice (cells:=[I (max 0 ((kg m r k).lo - (lg0 r k).bhi)),I (max 0 ((kg m r k).hi - (lg0 r k).blo))]) hs jv rfl aA fun R0 w hs=>?_)))))))))))))))));rw [show [I (max 0 ((kg m r k).lo - (lg0 r k).bhi)),I (max 0 ((kg m r k).hi - (lg0 r k).blo))]=(kg m r (k+1)).c by simp only [kg,Rb,Rng.c];rw [Int.max_comm 0,Int.max_comm 0]] at hs;refine .o (.append (ys:=(kg m r (k+1)).c) hs j8 rfl rfl hO (.own .here rfl rfl) (by simp [Rng.c,Value.oneCell']) (fun l h=>by rw [cj _ (Fz _),lN] at h;omega) ?_);intro v43 en43 w dY hs;rw [←GQ,←G3] at dY;exact .zn zg (nB (nT (.region (.z zm (.z cH (.zn zg (nT ⟨(k+1,v43,en43),.cD rfl bH aH,⟨by dsimp only;omega,dY,hs.sb⟩,by dsimp only;omega⟩)))))))
 ·refine .exit (xT (xT (xB (nT (.af (.z zm (.zn zg (.ret (Fin.bj results82 rfl ?_)))))))));obtain rfl:k=r.length:=by omega
  obtain ⟨H1,az,hR,hs⟩:=cU.dh (m:=2) hO (Fz _) ai (by rw [lN,jW];omega) hs .here;exact ⟨H1,az,hR,hs.out⟩
theorem xY{w:World}{h:Int}(hs:St H w σ)(h2:RI H cB s.wa)(aZ:ft s):
  aaR 114 [spA s cE cB,I h] w fun u w'=>∃k,u=I k∧A8 s.wa h k∧St H w' σ:=by
 obtain ⟨fq,fp,rfl⟩:=RI.shape h2;have hm:=aZ.wa.many;have hr:=fun {i j:Nat}=>aZ.wa.le (i:=i) (j:=j)
 refine Cl.o func114 ntmps114 ag2 ?_;refine .af (.bx hs fun b2 w hs=>?_);refine .zn zg (.af (.zn zg (.seq (.af (.zn zg (.block ?_))))));refine .loop (fun p:Nat×Int=>⟨28,[],[(6,I (p.1:Int)),(5,I p.2),(2,Pt b2),(1,I h)]⟩)
  (fun p w=>(p.1≤s.wa.length∧-1≤p.2∧p.2<p.1)∧(∀i<p.1,gi s.wa i - gi s.wa 0≤h↔(i:Int)≤p.2)∧St H w (.blk b2 (spC s cE (.slice fq s.wa.length fp))::σ)) (fun p=>s.wa.length - p.1) (0,-1) aH
  ⟨by dsimp only;omega,fun i hi=>by dsimp only at hi;omega,hs⟩ ?_
 rintro ⟨k,q⟩ w ⟨hk,lE,hs⟩;dsimp only at hk lE ⊢;refine .seq (.af (.z zm (.z (zfa aQ) (.y hs (zld aq) (.z (de ae) (.zn fN (.bh rfl (fun pL=>?_) (fun pL=>?_))))))))
 ·refine .skip (nT (.seq (.block (.seq (.draw mix rfl hs fun w hs=>?_)))));have lB:k<s.wa.length:=by omega
  have c1:=aZ.wa.bd lB;have c2:=aZ.wa.bd (i:=0) ai;refine .zw 0 rfl (zfa aQ) ?_;refine .y 1 rfl hs aq ?_;refine .z 2 rfl zm ?_;refine .ixX (enc:=fun x=>[I x]) (i:=3) hs rfl aA .none h2 rfl rfl ae an (bu (l:=s.wa) (i:=k) ai) cK ?_;intro AL o17 iW;replace iW:=bD.one iW;refine .r (i:=4) hs rfl aA .none (aC rfl aj iW) ?_;refine .zw 5 rfl (zfa aQ) ?_;refine .y 6 rfl hs aq ?_;refine .ixX (enc:=fun x=>[I x]) (i:=7) hs rfl aA .none h2 rfl rfl ae an (bu (l:=s.wa) (i:=0) ai) cK ?_;intro uf o21 iC;replace iC:=bD.one iC;refine .r (i:=8) hs rfl aA .none (aC rfl aj iC) ?_;refine .zw 9 rfl gx ?_;refine .z 10 rfl zm ?_;refine .z 11 rfl oY ?_;refine .D hs ?_;refine (.bh rfl (fun fc=>?_) (fun fc=>?_))
  ·refine .region (.z zm (.zn zg (nB (nT (.region (.z zm (.z cH (.zn zg (nT ?_)))))))));exact ⟨(k+1,(k:Int)),.cD rfl bH aH,⟨by dsimp only;omega,fun i hi=>by
    dsimp only at hi ⊢;have:=hr (show i≤k by omega) lB;omega,hs⟩,by dsimp only;omega⟩
  ·refine .skip (nB (nT (.region (.z zm (.z cH (.zn zg (nT ?_)))))));exact ⟨(k+1,q),.cD rfl bH aH,⟨by dsimp only;omega,fun i hi=>by
    dsimp only at hi ⊢;by_cases e:i=k
    ·subst e;omega
    ·exact lE i ai,hs⟩,by dsimp only;omega⟩
 ·refine .exit (xT (xT (xB (nT (.af (.z zm (.zn zg (.ret (Fin.bj results114 rfl ?_)))))))));obtain rfl:k=s.wa.length:=by omega
  exact ⟨_,rfl,⟨ai,ai,lE⟩,hs.out⟩
theorem zN{w:World}{z:Int}(hs:St H w σ)(g1:RI H cE s.st)(g2:RI H cB s.wa)(g:LnM H l vt vs):
  aaR 46 [spA s cE cB,lnA l vt vs,I z,I d] w fun u w'=>∃k e,u= .tuple #[I k,I e]∧Gw s l z d k e∧St H w' σ:=by
 refine Cl.o func46 ntmps46 ag4 ?_;refine .af (.bx hs fun b4 w hs=>?_);refine .bx hs fun b5 w hs=>?_
 refine .z zg (.zn zg (.seq (.af (.y hs (zls [_,_,_,_,_,_] bE aP) (.o (.call call113 rfl (jD (s:=s) hs g1 g2) ?_))))));rintro _ w ⟨e,rfl,he,hs⟩;refine .zn fV (.dK rfl (fun e7=>?_) (fun e7=>?_))
 ·refine .af (.z zg (.zn zg (.ret (rT (Fin.gU results46 rfl rfl ?_)))));have h:=he.resolve_left fun h=>e7 h.2
  exact ⟨_,_,rfl,.space h.1,hs.out⟩
 ·refine .skip (nT (.af (.y hs (zls [_,_,_,_] dc bK) (.z zm (.z zm ?_)))));have aZ:ft s:=(he.resolve_right fun h=>by omega).1;refine .o (.call call42 rfl (wM hs g) ?_);rintro _ w ⟨h,f,rfl,hH,hs⟩;refine .z zm (.z zex (.z zex (.z zg (.zn zg (.seq (.af (.z zm (.zn fV (.dK rfl (fun jX=>?_) (fun jX=>?_))))))))))
  ·exact .af (.z zm (.z zg (.zn zg (.ret (rT (Fin.gU results46 rfl rfl ⟨_,_,rfl,.bad aZ hH jX,hs.out⟩))))))
  ·refine .skip (nT (.af (.y hs (zls [_,_,_,_,_,_] bE aP) (.z zm ?_))));obtain rfl:f=0:=by omega
   refine .o (.call call114 rfl (xY (s:=s) hs g2 aZ) ?_);rintro _ w ⟨k,rfl,hB,hs⟩;refine .zn zg (.seq (.af (.z zm (.zn fN (.bh rfl (fun nm=>?_) (fun nm=>?_))))))
   ·refine .af (.z zg (.zn zg (.ret (rT (Fin.gU results46 rfl rfl ?_)))));have hk:=hB.low;obtain rfl:k= -1:=by omega
    exact ⟨_,_,rfl,.above aZ hH hB,hs.out⟩
   ·exact .skip (nT (.af (.z zm (.z zg (.zn zg (.ret (Fin.gU results46 rfl rfl ⟨_,_,rfl,.ok aZ hH hB ai,hs.out⟩)))))))
theorem wI{w:World}{x:Lg}(hs:St H w σ)(g1:RI H cE s.st)(g2:RI H cB s.wa)(g:LnM H l vt vs)(A1:ft s)(hl:jn l)(hx:Gx x):
  aaR 116 [spA s cE cB,lnA l vt vs,lgA x] w fun u w'=>∃k e,u= .tuple #[I k,I e]∧Bz s.wa l x k e∧St H w' σ:=by
 obtain ⟨fq,fp,rfl⟩:=RI.shape g2;have hd:=vJ hx;have Bm:(mP x:Int)=min x.to (x.fr+364) - x.fr+1:=by have:=hx.fr;unfold mP;omega
 have hf:=hx.fr;have ht:=hx.to;refine Cl.o func116 ntmps116 ag3 ?_;refine .af (.bx hs fun b3 w hs=>?_);refine .bx hs fun b4 w hs=>?_
 refine .bx hs fun b5 w hs=>?_
 refine .z zg (.zn zg (.af (.z (zfa aQ) (.y hs (zld aq) (.z (de ae) (.zn zg (.seq (.af (.z (zfa fJ) (.y hs (zld aj) (.zn zg (.block ?_))))))))))));refine .loop (fun p:Nat×Int=>⟨46,[],[(9,I (x.fr+(p.1:Int))),(8,I p.2),(5,Pt b5),(4,Pt b4),(3,Pt b3)]⟩)
  (fun p w=>p.1≤mP x∧R4 s.wa l x p.1 p.2∧St H w (.blk b5 (lgC x):: .blk b4 (lnC l vt vs):: .blk b3 (spC s cE (.slice fq s.wa.length fp))::σ)) (fun p=>mP x - p.1) (0,(s.wa.length:Int)) (.cons (by show some (I _)=some (I _);congr 2;omega) aH)
  ⟨Nat.zero_le _,.inl ⟨rfl,rfl⟩,hs⟩ ?_
 rintro ⟨j,mu⟩ w ⟨hj,hI,hs⟩;dsimp only at hj hI ⊢;refine .seq (.af (.z zm (.z (zfa fI) (.y hs (zld aj) (.z oY (.z zm (.iz (t':=21) rfl (fun pO=>?_) (fun pO=>?_))))))))
 ·refine .T (.z zm (.T (.z (zfa fJ) (.T (.y hs (zld aj) (.T (.z cH (.T (.z fN (.zn zpT (.bh rfl (fun qQ=>?_) (fun qQ=>?_))))))))))))
  ·refine .skip (nT (.seq (.block (.af (.y hs (zls [_,_,_,_,_,_] bE aP) (.y hs (zls [_,_,_,_] dc bK) (.z (zfa ml) (.y hs (zld aj) (.z zm (.o (.call call46 rfl (zN (s:=s) hs g1 g2 g) ?_)))))))))));rintro _ w ⟨k,e,rfl,hM,hs⟩;have aaw:=hM.day A1 hl hx ai;refine .z zm (.z zex (.z zex (.z zg (.zn zg (.seq (.af (.z zm (.zn fV (.dK rfl (fun nN=>?_) (fun nN=>?_))))))))))
   ·exact .af (.z zm (.z zg (.zn zg (.ret (rT (rB (rT (rT (rB (rT (Fin.gU results116 rfl rfl ⟨_,_,rfl,(aaw.resolve_right fun h=>nN h.1).2,hs.out⟩)))))))))))
   ·refine .skip (nT (.region (.z zm (.z zm (.z Dq (.zn zg (nB (nT (.region (.z zm (.z cH (.zn zg (nT ?_)))))))))))));obtain ⟨_,Fi,n,h1,h2⟩:=aaw.resolve_left fun h=>h.1 ai
    exact ⟨(j+1,min mu k),.cons (by show some (I _)=some (I _);congr 2;omega) aH,⟨by dsimp only;omega,hI.step hl h1 h2 Fi,hs⟩,by dsimp only;omega⟩
  ·refine .exit (xT (xT (xB (nT (.af (.z zm (.z zg (.zn zg (.ret (Fin.gU results116 rfl rfl ?_))))))))));obtain rfl:j=mP x:=by omega
   exact ⟨_,_,rfl,hI.done hx,hs.out⟩
 ·refine .Fs 5 4 true (.zn zpF (.cF (.exit (xT (xT (xB (nT (.af (.z zm (.z zg (.zn zg (.ret (Fin.gU results116 rfl rfl ?_)))))))))))));obtain rfl:j=mP x:=by omega
  exact ⟨_,_,rfl,hI.done hx,hs.out⟩
theorem yd{w:World}{s:Srv}{a b c d:Value}(hs:St H w σ)(g:SvM H s a b c d)(aZ:eW s):
  aaR 144 [svA s a b c d] w fun u w'=>∃H1 bb,HLe H H1∧u= .bool bb∧(bb=true↔¬s.sys.Sound)∧St H1 w' σ:=by
 refine Cl.o func144 ntmps144 ag1 ?_;refine .af (.bx hs fun b1 w hs=>?_);refine .zn zg (.af (.y hs (zls [_,_,_,_,_,_,_,_] bA aM) (.o (.call call205 rfl (lP (s:=s) hs g.st g.wa g.rd g.cm aZ.early) ?_))));rintro v7 w ⟨H1,az,hS,hs⟩;refine .o (.call call147 rfl (mF (s:=s.sys) hs hS) ?_);rintro _ w ⟨H2,vt,e,bg,rfl,hC,hs⟩;refine .z zm (.z zex (.z zex (.z zg (.zn zg (.af (.z zm (.z fV (.zn zg (.ret (Fin.bj results144 rfl ⟨H2,_,az.trans bg,rfl,?_,hs.out⟩))))))))))
 rcases hC with ⟨h,_⟩|⟨_,h,rfl,_⟩|⟨_,h,rfl,_⟩
 ·exact (h (s.sys.dX.2 aZ.sys)).elim
 ·simp [h]
 ·simp [h]
theorem pj{w:World}{s:Srv}{a b c d:Value}(hs:St H w σ)(g:SvM H s a b c d)(aZ:eW s):
  aaR 83 [svA s a b c d,I (k:Int)] w fun u w'=>∃H1 lo hi e,HLe H H1∧u= .tuple #[.agg #[I lo,I hi],I e]∧BA s k lo hi e∧St H1 w' σ:=by
 refine Cl.o func83 ntmps83 ag2 ?_;refine .af (.bx hs fun b2 w hs=>?_);refine .o (.alloc hs cZ rfl fun b4 w hs=>?_);refine .zn zg (.seq (.af (.z zm (.zn kU (.bh rfl (fun O1=>?_) (fun O1=>?_))))))
 ·refine .af (.y hs (zls [_,_,_,_,_,_,_,_] bA aM) (.z zm (.z (zbd [I 1,I 0,I (k:Int)] sf) (.o (.call call143 rfl (ye (s:=s) (q:=⟨1,0,k⟩) hs g.st g.wa g.rd g.cm) ?_)))));rintro _ w ⟨H1,lo,hi,e,az,rfl,hQ,hs⟩;refine .z zex (.z zex (.o (.aE (vs:=[_,_]) hs rfl rfl aB fun w hs=>?_)));exact .zn zg (.ret (rT ((Fin.iT [] [] hs fun w hs=>⟨_,results2 results83 (dp (vs:=[_,_]) hs rfl bJ aB) rfl,H1,_,_,_,az,rfl,.up ai hQ,hs.out⟩))))
 ·refine .skip (nT (.seq (.af (.y hs (zls [_,_,_,_,_,_,_,_] bA aM) ?_))));obtain rfl:k=0:=by omega
  refine .o (.call call144 rfl (yd (s:=s) hs g aZ) ?_);rintro _ w ⟨H1,bb,az,rfl,hF,hs⟩;refine .nil (.cond rfl (fun e7=>?_) (fun e7=>?_))
  ·refine .af (.z (zbd [_,_] bX) (.o (.aE (vs:=[_,_]) hs rfl rfl aB fun w hs=>?_)));exact .zn zg (.ret (rT ((Fin.iT [] [] hs fun w hs=>⟨_,results2 results83 (dp (vs:=[_,_]) hs rfl bJ aB) rfl,H1,_,_,_,az,rfl,.fls rfl aZ (hF.1 (by simpa using e7)),hs.out⟩))))
  ·refine .skip (nT (.af (.z (zbd [_,_] bX) (.o (.aE (vs:=[_,_]) hs rfl rfl aB fun w hs=>?_)))));exact .zn zg (.ret (Fin.iT [] [] hs fun w hs=>⟨_,results2 results83 (dp (vs:=[_,_]) hs rfl bJ aB) rfl,H1,_,_,_,az,rfl,.zero rfl aZ (Classical.byContradiction fun h=>by rw [hF.2 h] at e7;cases e7),hs.out⟩))
theorem iI{w:World}{n:Int}(hs:St H w σ)(hn: -4000000000000≤n∧n≤4000000000000)(hd: -100000≤d∧d≤100000):aaR 52 [I n,I d] w fun v w'=>v=I (kE n d)∧St H w' σ:=by
 have hm:=kL (a:=n) (b:=d) (A:=4000000000000) (B:=100000) ai ai;refine Cl.o func52 ntmps52 ag2 ?_;refine .af (.zn zg (.af (.z zm (.z zm (.z kV (.o (.call call119 rfl (k8 hs ai ai) ?_)))))));rintro _ w ⟨rfl,hs⟩;exact .zn zg (.ret (Fin.bj results52 rfl ⟨rfl,hs⟩))
theorem wJ{w:World}{y:Int}(hs:St H w σ)(h1: -200000000≤lo∧lo≤200000000)(h2: -200000000≤hi∧hi≤200000000)(hd:gw x y):
  aaR 85 [.agg #[I lo,I hi],.agg #[I x,I y]] w fun v w'=>v= .agg #[I (rl lo x y),I (uF hi x y)]∧St H w' σ:=by
 unfold gw at hd;refine Cl.o func85 ntmps85 ag2 ?_;refine .af (.bx hs fun b2 w hs=>?_);refine .bx hs fun b3 w hs=>?_
 refine .o (.alloc hs cZ rfl fun b4 w hs=>?_);refine .nil (.seq (.draw mix rfl hs fun w hs=>?_));refine .zw 0 rfl (zfa bp) ?_;refine .y 1 rfl hs aj ?_;refine .z 2 rfl (zfa bp) ?_;refine .y 3 rfl hs aj ?_;refine .z 5 rfl (zfa bp) ?_;refine .y 6 rfl hs aj ?_;refine .z 7 rfl (zfa bI) ?_;refine .y 8 rfl hs aj ?_;refine .z 11 rfl (zfa bI) ?_;refine .y 12 rfl hs aj ?_;refine .zw 13 rfl (zfa bp) ?_;refine .y 14 rfl hs aj ?_;refine .z 16 rfl (zfa bI) ?_;refine .y 17 rfl hs aj ?_;refine .z 18 rfl (zfa bI) ?_;refine .y 19 rfl hs aj ?_;refine .E 4 hs ?_;refine .call call52 rfl (iI hs ai ai) ?_;rintro _ w ⟨rfl,hs⟩;refine .go (.E 9 hs ?_);refine .call call52 rfl (iI hs ai ai) ?_;rintro _ w ⟨rfl,hs⟩;refine .go (.zw 10 rfl Dq (.E 15 hs ?_));refine .call call52 rfl (iI hs ai ai) ?_;rintro _ w ⟨rfl,hs⟩;refine .go (.E 20 hs ?_);refine .call call52 rfl (iI hs ai ai) ?_;rintro _ w ⟨rfl,hs⟩;refine .go (.zw 21 rfl DK ?_);refine .z 22 rfl (zbd [_,_] bX) ?_;refine .E 23 hs ?_;refine .aE (vs:=[_,_]) hs rfl rfl aB ?_;intro w hs;exact .go (.D hs (.ret (Fin.iT [] [] hs fun w hs=>⟨_,results1 results85 (dp (vs:=[_,_]) hs rfl bJ aB),rfl,hs.out⟩)))
theorem wK{w:World}(hs:St H w σ):aaR 84 [.agg #[I m.lo,I m.hi],.agg #[I lo,I hi]] w fun v w'=>v=I (AN m lo hi)∧St H w' σ:=by
 refine Cl.o func84 ntmps84 ag2 ?_;refine .af (.bx hs fun b2 w hs=>?_);refine .bx hs fun b3 w hs=>?_
 refine .zn zg (.seq (.af (.z (zfa bI) (.y hs (zld aj) (.z (zfa bp) (.y hs (zld aj) (.zn oY (.bh rfl (fun nv=>?_) (fun nv=>?_)))))))))
 ·exact .af (.zn zg (.ret (rT (Fin.bj results84 rfl ⟨by unfold AN;simp [*],hs.out⟩))))
 ·refine .skip (nT (.seq (.af (.z (zfa bp) (.y hs (zld aj) (.z (zfa bI) (.y hs (zld aj) (.zn kU (.bh rfl (fun jH=>?_) (fun jH=>?_))))))))))
  ·exact .af (.zn zg (.ret (rT (Fin.bj results84 rfl ⟨by unfold AN;simp [*],hs.out⟩))))
  ·exact .skip (nT (.af (.zn zg (.ret (Fin.bj results84 rfl ⟨by unfold AN;simp [*],hs.out⟩)))))
theorem qn{w:World}{s:Srv}{r:List Lg}{a b c d:Value}(hs:St H w σ)(g:SvM H s a b c d)(gl:LnM H l vt vs)(kh:RLg H fX r):
  aaR 81 [svA s a b c d,lnA l vt vs,.agg #[fX],.agg #[I m.lo,I m.hi]] w fun u w'=>∃H1 v ks e,HLe H H1∧u= .tuple #[v,I e]∧RI H1 v ks∧uo s l r m ks e∧St H1 w' σ:=by
 obtain ⟨qA,qy,rfl⟩:=kh.shape;refine Cl.o func81 ntmps81 ag4 ?_;refine .af (.bx hs fun b4 w hs=>?_);refine .bx hs fun b5 w hs=>?_
 refine .bx hs fun b6 w hs=>?_
 refine .bx hs fun b7 w hs=>?_
 refine .z zg (.zn zg (.af (.y hs (zls [_,_,_,_,_,_,_,_] bA aM) (.o (.call call123 rfl (mE (s:=s) hs g.st g.wa g.rd g.cm) ?_)))));rintro _ w ⟨H1,e,az,rfl,hC,hs⟩;refine .zn zg (.seq (.af (.z zm (.zn fV (.dK rfl (fun ib=>?_) (fun ib=>?_))))))
 ·exact .af (.z zm (.z zg (.zn zg (.ret (rT (Fin.gU UH rfl rfl ⟨H1,_,[],_,az,rfl,RS.nil H1 1 none 0,.bad hC ib,hs.out⟩))))))
 ·refine .skip (nT (.seq (.af (.y hs (zls [_,_,_,_] dc bK) ?_))));have aZ:eW s:=hC.dX.1 ai;have A1:=aZ.early.1;refine .o (.call call20 rfl (jC hs (gl.mono az)) ?_);rintro _ w ⟨f,rfl,hL,hs⟩;refine .zn fV (.dK rfl (fun jm=>?_) (fun jm=>?_))
  ·refine .af (.z zg (.zn zg (.ret (rT (Fin.gU UH rfl rfl ?_)))));have hl:=hL.resolve_left fun h=>jm h.2
   exact ⟨H1,_,[],_,az,rfl,RS.nil H1 1 none 0,.lines aZ hl.1,hs.out⟩
  ·refine .skip (nT (.seq (.af (.y hs (zls [_] ek cI) ?_))));have hl:jn l:=(hL.resolve_right fun h=>by omega).1;refine .o (.call call22 rfl (rp hs (kh.mono az)) ?_);rintro _ w ⟨q,rfl,hR,hs⟩;refine .zn fV (.dK rfl (fun fc=>?_) (fun fc=>?_))
   ·refine .af (.z zg (.zn zg (.ret (rT (Fin.gU UH rfl rfl ?_)))));have oB:=hR.resolve_left fun h=>fc h.2
    exact ⟨H1,_,[],_,az,rfl,RS.nil H1 1 none 0,.route aZ hl oB.1,hs.out⟩
   ·refine .skip (nT (.seq (.af (.y hs (zls [_,_] bJ aB) ?_))));have oB:xm r:=(hR.resolve_right fun h=>by omega).1;have hn:=oB.many;refine .o (.call call53 rfl (pn hs) ?_);rintro _ w ⟨rfl,hs⟩;refine .zn fU (.cond rfl (fun kR=>?_) (fun kR=>?_))
    ·exact .af (.z zg (.zn zg (.ret (rT (Fin.gU UH rfl rfl ⟨H1,_,[],_,az,rfl,RS.nil H1 1 none 0,.tf aZ hl oB (by simpa using kR),hs.out⟩)))))
    ·refine .skip (nT (.af (.zn zg (.seq (.af (.zn zg (.block ?_)))))));have hm:iZ m.lo m.hi:=by simpa using kR
     refine .loop (fun p:Nat×List Int×Value×Ent=>⟨56,[],[(12,I (p.1:Int)),(11,p.2.2.1),(6,Pt b6),(5,Pt b5),(4,Pt b4)]⟩)
      (fun p w=>p.1≤r.length∧p.2.1.length=p.1∧(∀i<p.1,Bz s.sp.wa l (lg0 r i) (gi p.2.1 i) 0)∧cU 1 p.2.2.1 (Is p.2.1) p.2.2.2∧St H1 w (p.2.2.2:: .blk b6 [.slice qA r.length qy]:: .blk b5 (lnC l vt vs):: .blk b4 (svC s a b c d)::σ)) (fun p=>r.length - p.1) (0,[],_,.nul) aH
      ⟨Nat.zero_le _,rfl,fun i hi=>by dsimp only at hi;omega,.nil 1 none,hs.nul.sb⟩ ?_
     rintro ⟨k,ks,vo,en⟩ w ⟨hk,lB,Jp,hO,hs⟩;dsimp only at hk lB Jp hO hs ⊢;obtain ⟨ao,lo',co,rfl,w6⟩:=hO.shape;refine .seq (.af (.z zm (.z (zfa bG) (.y hs (zld dH) (.z (de aF) (.zn fN (.bh rfl (fun mJ=>?_) (fun mJ=>?_))))))))
     ·refine .skip (nT (.seq (.block (.seq (.draw mix rfl hs fun w hs=>?_)))));have F1:k<r.length:=by omega
      have hx:=kC (l:=r) F1;refine .zw 0 rfl (zfa aW) ?_;refine .ys 1 rfl hs [_,_,_,_,_,_] bE aP ?_;refine .ys 2 rfl hs [_,_,_,_] dc bK ?_;refine .z 3 rfl (zfa bG) ?_;refine .y 4 rfl hs dH ?_;refine .z 5 rfl zm ?_;refine .ixX (enc:=Lg.c) (i:=6) hs rfl aA .none (kh.mono az) rfl rfl aF bw hx rfl ?_;intro Uo o43 yC;refine .r (i:=7) hs rfl aA .none (bQ (vs:=lgC (lg0 r k)) rfl mV bw yC) ?_;refine .E 8 hs ?_;refine .call call116 rfl (wI (s:=s.sp) (x:=lg0 r k) hs (g.mono az).st (g.mono az).wa (gl.mono az) A1 hl (oB.leg k F1).1) ?_;rintro _ w ⟨n,e,rfl,T6,hs⟩;refine .go (.zw 9 rfl zm ?_);refine .z 10 rfl zex ?_;refine .z 11 rfl zex ?_;refine .z 12 rfl zg ?_;refine .z 13 rfl zg ?_;refine .D hs ?_;refine .seq (.af (.z zm (.zn fV (.dK rfl (fun sX=>?_) (fun sX=>?_)))))
      ·exact .af (.z zm (.z zg (.zn zg (.ret (rT (rB (rT (rT (rB (rT (Fin.gU UH rfl rfl ⟨H1,_,[],_,az,rfl,RS.nil H1 1 none 0,.low aZ hl oB hm F1 (fun j hj=>⟨_,Jp j hj⟩) T6 sX,hs.out⟩)))))))))))
      ·refine .skip (nT (.region (.z zm (.z zm (.o (.buildSlice (cells:=Is [n]) hs cV rfl aA fun Yr w hs=>?_))))));refine .o (.append (ys:=Is [n]) hs cA rfl rfl hO (.own .here rfl rfl) (iP _) (fun l h=>by simp [Is] at h;omega) ?_);intro v54 en54 w dY hs;rw [←List.map_append] at dY;refine .zn zg (nB (nT (.region (.z zm (.z cH (.zn zg (nT ?_)))))));obtain rfl:e=0:=by omega
       exact ⟨(k+1,ks++[n],v54,en54),.cD rfl bH aH,⟨by dsimp only;omega,by simp [lB],fun i hi=>by
        dsimp only at hi ⊢;by_cases e:i=k
        ·subst e;rw [mM,if_neg ai,if_pos ai];exact T6
        ·rw [mM,if_pos ai];exact Jp i ai,dY,hs.sb⟩,by dsimp only;omega⟩
     ·refine .exit (xT (xT (xB (nT (.af (.z zm (.z zg (.zn zg (.ret (Fin.gU UH rfl rfl ?_))))))))));obtain rfl:k=r.length:=by omega
      obtain ⟨H2,bg,IW,hs⟩:=hO.dR ai hs .here;exact ⟨H2,_,ks,_,az.trans bg,rfl,IW,.ok aZ hl oB hm lB Jp,hs.out⟩
set_option maxHeartbeats 1000000 in
theorem uJ{w:World}{s:Srv}{r:List Lg}{a b c d:Value}(hs:St H w σ)(g:SvM H s a b c d)(gl:LnM H l vt vs)(kh:RLg H fX r):
  aaR 25 [svA s a b c d,lnA l vt vs,.agg #[fX],.agg #[I m.lo,I m.hi]] w fun u w'=>∃H1 v dC e,HLe H H1∧u= .tuple #[v,I e]∧RI H1 v dC∧Dp s l r m dC e∧St H1 w' σ:=by
 obtain ⟨qA,qy,rfl⟩:=kh.shape;refine Cl.o func25 ntmps25 ag4 ?_;refine .af (.bx hs fun b4 w hs=>?_);refine .bx hs fun b5 w hs=>?_
 refine .bx hs fun b6 w hs=>?_
 refine .bx hs fun b7 w hs=>?_
 refine .z zg (.zn zg (.af (.y hs (zls [_,_,_,_,_,_,_,_] bA aM) (.y hs (zls [_,_,_,_] dc bK) (.y hs (zls [_] ek cI) (.y hs (zls [_,_] bJ aB) (.o (.call call81 rfl (qn (s:=s) (l:=l) (m:=m) hs g gl kh) ?_))))))));rintro _ w ⟨H1,vk,ks,e,az,rfl,hK,hB,hs⟩;refine .z zm (.z zex (.z zex (.z zg (.zn zg (.seq (.af (.z zm (.zn fV (.dK rfl (fun iV=>?_) (fun iV=>?_))))))))))
 ·exact .af (.z zm (.z zg (.zn zg (.ret (rT (Fin.gU results25 rfl rfl ⟨H1,_,[],_,az,rfl,RS.nil H1 1 none 0,.bad hB iV,hs.out⟩))))))
 ·refine .skip (nT (.af (.y hs (zls [_] ek cI) (.y hs (zls [_,_] bJ aB) ?_))));obtain rfl:e=0:=by omega
  obtain ⟨aZ,hl,oB,hm,lB,rL⟩:=hB.ok';have hn:=oB.many;have KK:=jW m r r.length;refine .o (.call call82 rfl (lO (r:=r) (m:=m) hs (kh.mono az) oB hm) ?_);rintro vm w ⟨H2,bg,Ho,hs⟩;have dq:=az.trans bg;replace hK:=RS.mono hK bg;obtain ⟨ak,ck,rfl⟩:=RI.shape hK;obtain ⟨am,cm,rfl⟩:=Ho.shape;refine .zn zg (.af (.zn zg (.seq (.af (.zn zg (.block ?_))))));refine .loop (fun p:Nat×List Int×Value×Ent×cu=>⟨66,[],[(14,I (p.1:Int)),(13,p.2.2.1),(12,.slice am (msL m r r.length).length cm),(10,.slice ak ks.length ck),(6,Pt b6),(4,Pt b4)]⟩)
   (fun p w=>p.1≤r.length∧HLe H2 p.2.2.2.2∧p.2.1.length=p.1∧(∀i<p.1,∃lo hi,oa s (gi ks i).toNat (lg0 r i).dlo (lg0 r i).dhi lo hi 0∧gi p.2.1 i=AN (kg m r i) lo hi)∧(0<p.1→s.sys.Sound)∧cU 1 p.2.2.1 (Is p.2.1) p.2.2.2.1∧St p.2.2.2.2 w (p.2.2.2.1:: .blk b6 [.slice qA r.length qy]:: .blk b4 (svC s a b c d)::σ)) (fun p=>r.length - p.1) (0,[],_,.nul,H2) aH
   ⟨Nat.zero_le _,HLe.refl _,rfl,fun i hi=>by dsimp only at hi;omega,fun h=>by dsimp only at h;omega,.nil 1 none,hs.nul.sb⟩ ?_
  rintro ⟨k,dC,vo,en,H3⟩ w ⟨hk,bZ,B4,has,oX,hO,hs⟩;dsimp only at hk bZ B4 has oX hO hs ⊢;obtain ⟨ao,lo',co,rfl,w6⟩:=hO.shape;have ee:=dq.trans bZ;refine .seq (.af (.z zm (.z zm (.z (de ae) (.zn fN (.bh rfl (fun jx=>?_) (fun jx=>?_)))))))
  ·refine .skip (nT (.seq (.block ?_)));have F1:k<r.length:=by omega
   have hx:=kC (l:=r) F1;have yw:=wS m r (k:=r.length) (i:=k) ai;have Bm:=(oB.leg k F1).1.dense;obtain ⟨q,hq,Hh⟩:=hB.mark F1;refine .cut (fun fs w=>∃H4 lo hi e yM,kG fs ⟨66,[],[(16,I e),(15,Pt yM),(14,I (k:Int)),(13,.slice ao lo' co),(12,.slice am (msL m r r.length).length cm),(10,.slice ak ks.length ck),(6,Pt b6),(4,Pt b4)]⟩∧HLe H3 H4∧BA s q lo hi e∧St H4 w (.blk yM [I lo,I hi]::en:: .blk b6 [.slice qA r.length qy]:: .blk b4 (svC s a b c d)::σ)) ?_ ?_
   ·refine .draw mix rfl hs fun w hs=>?_
    refine .ys 0 rfl hs [_,_,_,_,_,_,_,_] bA aM ?_;refine .z 1 rfl zm ?_;refine .z 2 rfl zm ?_;refine .ixX (enc:=fun x=>[I x]) (i:=3) hs rfl aA .none (RS.mono hK bZ) rfl rfl ae an (bu (l:=ks) (i:=k) ai) rfl ?_;intro Rg o41 rO;replace rO:=bD.one rO;refine .zv 4 rfl hs (p8 aj) (.e2 (i:=5) (j:=9) aA rfl rfl rfl rfl .none .none hs ?_ ?_)
    ·rw [hq];refine .call call83 rfl (pj (s:=s) hs (g.mono ee) aZ) ?_;rintro _ w ⟨H4,lo,hi,e,eH,rfl,hL,hs⟩;refine .go (.zw 6 rfl zm ?_);refine .z 7 rfl zex ?_;refine .z 8 rfl zex ?_;refine .E 9 hs ?_;refine .alloc hs cZ rfl ?_;intro yM w hs;refine .go (.E 10 hs ?_);refine .aE (vs:=[_,_]) hs rfl rfl aB ?_;intro w hs;refine .go (.zw 11 rfl zg ?_);refine .D hs ?_;exact nT ⟨H4,lo,hi,e,yM,aH,eH,hL,hs.sb⟩
    ·refine .alloc hs cZ rfl ?_;intro yM w hs;refine .go (.E 5 hs ?_);rw [hq];refine .call call83 rfl (pj (s:=s) hs (g.mono ee) aZ) ?_;rintro _ w ⟨H4,lo,hi,e,eH,rfl,hL,hs⟩;refine .go (.zw 6 rfl zm ?_);refine .z 7 rfl zex ?_;refine .z 8 rfl zex ?_;refine .E 10 hs ?_;refine .aE (vs:=[_,_]) hs rfl rfl aB ?_;intro w hs;refine .go (.zw 11 rfl zg ?_);refine .D hs ?_;exact nT ⟨H4,lo,hi,e,yM,aH,eH,hL,hs.sb⟩
   ·rintro fs w ⟨H4,lo,hi,e,yM,fM,eH,hL,hs⟩;refine WE.sub ?_ fM;clear fM;have js:=ee.trans eH;have hLb:=hL.bd;refine .seq (.af (.z zm (.zn fV (.dK rfl (fun lC=>?_) (fun lC=>?_)))))
    ·exact .af (.z zm (.z zg (.zn zg (.ret (rT (rB (rT (rT (rB (rT (Fin.gU results25 rfl rfl ⟨H4,_,[],_,js,rfl,RS.nil H4 1 none 0,by rcases hL.err aZ Hh with h|h;exact (lC h.1).elim;rw [h.1];exact .fls hB h.2.1,hs.out⟩)))))))))))
    ·refine .skip (nT (.draw mix rfl hs fun w hs=>?_));obtain rfl:e=0:=by omega
     have hS:oa s q (lg0 r k).dlo (lg0 r k).dhi _ _ 0:= .ok hL;refine .zw 0 rfl zm ?_;refine .z 1 rfl zm ?_;refine .z 2 rfl zm ?_;refine .ixX (enc:=Rng.c) (i:=3) hs rfl aA .none (RS.mono Ho (bZ.trans eH)) rfl rfl eD aB yw rfl ?_;intro Ys o52 vB;refine .r (i:=4) hs rfl aA .none (bQ (vs:=(kg m r k).c) rfl bJ aB vB) ?_;refine .ys 5 rfl hs [_,_] bJ aB ?_;refine .z 6 rfl (zfa bG) ?_;refine .y 7 rfl hs dH ?_;refine .z 8 rfl zm ?_;refine .ixX (enc:=Lg.c) (i:=9) hs rfl aA .none (kh.mono js) rfl rfl aF bw hx rfl ?_;intro Yq o58 Bn;refine .zw 10 rfl (zfa ep) (.r (i:=11) hs rfl aA .none (bQ (vs:=[I (lg0 r k).dlo,I (lg0 r k).dhi]) rfl bJ aB (Bn.sub 3 _)) ?_);refine .E 12 hs ?_;refine .call call85 rfl (wJ hs ai ai Bm) ?_;rintro _ w ⟨rfl,hs⟩;refine .go (.E 13 hs ?_);refine .call call84 rfl (wK (m:=kg m r k) hs) ?_;rintro _ w ⟨rfl,hs⟩;refine .go (.E 14 hs ?_);refine .buildSlice (cells:=Is [AN (kg m r k) (rl lo (lg0 r k).dlo (lg0 r k).dhi) (uF hi (lg0 r k).dlo (lg0 r k).dhi)]) hs cV rfl aA ?_;intro Un w hs;refine .go (.E 15 hs ?_);refine .append (ys:=Is [AN (kg m r k) (rl lo (lg0 r k).dlo (lg0 r k).dhi) (uF hi (lg0 r k).dlo (lg0 r k).dhi)]) hs cA rfl rfl hO (.own .here rfl rfl) (iP _) (fun l h=>by simp [Is] at h;omega) ?_;intro v64 en64 w dY hs;rw [←List.map_append] at dY;refine .go (.zw 16 rfl zg ?_);refine .D hs ?_;refine nB (nT (.region (.z zm (.z cH (.zn zg (nT ?_))))));exact ⟨(k+1,dC++[AN (kg m r k) (rl lo (lg0 r k).dlo (lg0 r k).dhi) (uF hi (lg0 r k).dlo (lg0 r k).dhi)],v64,en64,H4),.cD rfl bH aH,⟨by dsimp only;omega,bZ.trans eH,by simp [B4],fun i hi=>by
      dsimp only at hi ⊢;by_cases e:i=k
      ·subst e;exact ⟨_,_,by rw [hq,Int.toNat_natCast];exact hS,by rw [mM,if_neg ai,if_pos ai]⟩
      ·rw [mM,if_pos ai];exact has i ai,fun _=>(hS.err aZ Hh).elim (fun h=>h.2) (fun h=>by omega),dY,hs.sb⟩,by dsimp only;omega⟩
  ·refine .exit (xT (xT (xB (nT (.af (.z zm (.z zg (.zn zg (.ret (Fin.gU results25 rfl rfl ?_))))))))));obtain rfl:k=r.length:=by omega
   obtain ⟨H4,eH,IW,hs⟩:=hO.dR ai hs .here;exact ⟨H4,_,dC,_,ee.trans eH,rfl,IW,.ok hB (oX ai) B4 has,hs.out⟩
theorem dn{w:World}{n m:Int}(hs:St H w σ)(hm:1≤m∧m≤4611686018427387904):aaR 36 [I n,I m] w fun u w'=>u=I (wk n m)∧St H w' σ:=by
 have h1:=Int.tmod_lt_of_pos n (show 0<m by omega);have h2:=Int.lt_tmod_of_pos n (show 0<m by omega);refine Cl.o func36 ntmps36 ag2 ?_;exact .af (.zn zg (.af (.z zm (.z zm (.z E9 (.z zm (.z cH (.z zm (.z E9 (.zn zg (.ret (Fin.bj results36 rfl ⟨rfl,hs⟩))))))))))))
theorem eo{w:World}{v:Value}{l:List Int}{i n:Int}(hs:St H w σ)(hr:RI H v l)(hi:0≤i)(hn:1≤n∧n≤1000000):aaR 141 [v,I i,I n] w fun u w'=>∃x,u=I x∧(0≤x∧x<n)∧St H w' σ:=by
 obtain ⟨a,c,rfl⟩:=RI.shape hr;refine Cl.o func141 ntmps141 ag3 ?_;refine .af (.zn zg (.seq (.af (.z zm (.z (de ae) (.zn fy (.bh rfl (fun nv=>?_) (fun nv=>?_))))))))
 ·exact .af (.zn zg (.ret (rT (Fin.bj results141 rfl ⟨0,rfl,ai,hs⟩))))
 ·refine .skip (nT (.af (.z zm (.z zm (.z zm (.z (de ae) (.z E9 ?_)))))));have h1:=Int.tmod_lt_of_pos i (show 0<(l.length:Int) by omega);have h2:=Int.tmod_nonneg (l.length:Int) hi;refine .ixX (enc:=fun x=>[I x]) hs hr rfl rfl ae an (bu (l:=l) (i:=(i.tmod l.length).toNat) ai) ai ?_;intro yM o15 e7;replace e7:=bD.one e7;refine .y hs (zld aj) (.z zm (.o (.call nF rfl (dn hs ai) ?_)));rintro _ w ⟨rfl,hs⟩;exact .zn zg (.ret (Fin.bj results141 rfl ⟨_,rfl,nK _ hn.1,hs⟩))
theorem kZ{w:World}{b c fr:Int}(hs:St H w σ)(hf:0≤fr∧fr≤1000000):aaR 142 [.agg #[I a,I b,I c,I d,I e,I f],I fr] w fun u w'=>∃x,u=lgA x∧LW x fr∧St H w' σ:=by
 have m1:=nK a (m:=3) ai;have m2:=nK b (m:=40) ai;have m3:=nK c (m:=60) ai;have m4:=nK d (m:=100) ai;have m5:=nK (IntKind.i64.wrap (d.tdiv 100)) (m:=40) ai;have m6:=nK e (m:=500) ai;have m7:=nK f (m:=200) ai;refine Cl.o func142 ntmps142 ag2 ?_;refine .af (.bx hs fun b2 w hs=>?_);refine .o (.alloc hs eX rfl fun b4 w hs=>?_);refine .nil (.cut (fun fs w=>∃b5,kG fs ⟨50,[],[(5,Pt b5),(4,Pt b4),(2,Pt b2)]⟩∧St H w (.blk b5 [I (1+wk a 3),I (fr+wk b 40),I 0,I 0,I 0,I 0,I 0]:: .blk b4 [I 0,I 0,I 0,I 0,I 0,I 0,I 0]:: .blk b2 [I a,I b,I c,I d,I e,I f]::σ)) ?_ ?_)
 ·refine .draw mix rfl hs fun w hs=>?_
  refine .zw 0 rfl (zia 0 iD an) (.y 1 rfl hs aj ?_);refine .z 4 rfl zm ?_;refine .zw 5 rfl (zia 1 iD an) (.zv 6 rfl hs (p8 aj) (.e2 (i:=2) (j:=10) aA rfl rfl rfl rfl .none .none hs ?_ ?_))
  ·refine .call nF rfl (dn hs ai) ?_;rintro _ w ⟨rfl,hs⟩;refine .go (.zw 3 rfl cH (.e2 (i:=7) (j:=10) aA rfl rfl rfl rfl .none .none hs ?_ ?_))
   ·refine .call nF rfl (dn hs ai) ?_;rintro _ w ⟨rfl,hs⟩;refine .go (.zw 8 rfl cH ?_);refine .z 9 rfl (zbd [_,_,_,_,_,_,_] nV) ?_;refine .E 10 hs ?_;refine .alloc hs eX rfl ?_;intro b5 w hs;refine .go (.E 11 hs ?_);refine .aE (vs:=[_,_,_,_,_,_,_]) hs rfl rfl bw ?_;intro w hs;exact .go (.D hs (nT ⟨b5,aH,hs.sb⟩))
   ·refine .alloc hs eX rfl ?_;intro b5 w hs;refine .go (.E 7 hs ?_);refine .call nF rfl (dn hs ai) ?_;rintro _ w ⟨rfl,hs⟩;refine .go (.zw 8 rfl cH ?_);refine .z 9 rfl (zbd [_,_,_,_,_,_,_] nV) ?_;refine .E 11 hs ?_;refine .aE (vs:=[_,_,_,_,_,_,_]) hs rfl rfl bw ?_;intro w hs;exact .go (.D hs (nT ⟨b5,aH,hs.sb⟩))
  ·refine .alloc hs eX rfl ?_;intro b5 w hs;refine .go (.E 2 hs ?_);refine .call nF rfl (dn hs ai) ?_;rintro _ w ⟨rfl,hs⟩;refine .go (.zw 3 rfl cH (.E 7 hs ?_));refine .call nF rfl (dn hs ai) ?_;rintro _ w ⟨rfl,hs⟩;refine .go (.zw 8 rfl cH ?_);refine .z 9 rfl (zbd [_,_,_,_,_,_,_] nV) ?_;refine .E 11 hs ?_;refine .aE (vs:=[_,_,_,_,_,_,_]) hs rfl rfl bw ?_;intro w hs;exact .go (.D hs (nT ⟨b5,aH,hs.sb⟩))
 ·rintro fs w ⟨b5,fM,hs⟩;refine WE.sub ?_ fM;clear fM;refine .seq (.draw mix rfl hs fun w hs=>?_);refine .zw 0 rfl (zfa fJ) ?_;refine .y 1 rfl hs aj ?_;refine .zw 2 rfl (zia 2 iD an) (.zv 3 rfl hs (p8 aj) (.E 4 hs ?_));refine .call nF rfl (dn hs ai) ?_;rintro _ w ⟨rfl,hs⟩;refine .go (.zw 5 rfl cH ?_);refine .z 6 rfl (zfa fI) ?_;refine .E 7 hs ?_;refine .store hs rfl rfl an ?_;intro w hs;refine .go (.D hs (.af (.z (zia 3 iD an) (.y hs (zld aj) (.o (.call nF rfl (dn hs ai) ?_))))));rintro _ w ⟨rfl,hs⟩;refine .z cH (.zn zg (.af (.z zm (.z zm (.z (zia 3 iD an) (.y hs (zld aj) (.z Ru (.o (.call nF rfl (dn hs ai) ?_)))))))));rintro _ w ⟨rfl,hs⟩;refine .z cH (.z (zbd [_,_] bX) (.z (zfa ep) (.o (.aE (vs:=[_,_]) hs rfl rfl aB fun w hs=>?_))));refine .nil (.seq (.draw mix rfl hs fun w hs=>?_));refine .zw 0 rfl (zia 4 iD an) (.zv 1 rfl hs (p8 aj) (.zw 3 rfl (zia 4 iD an) (.zv 4 rfl hs (p8 aj) (.zw 6 rfl (zia 5 iD an) (.zv 7 rfl hs (p8 aj) (.E 2 hs ?_))))));refine .call nF rfl (dn hs ai) ?_;rintro _ w ⟨rfl,hs⟩;refine .go (.E 5 hs ?_);refine .call nF rfl (dn hs ai) ?_;rintro _ w ⟨rfl,hs⟩;refine .go (.E 8 hs ?_);refine .call nF rfl (dn hs ai) ?_;rintro _ w ⟨rfl,hs⟩;refine .go (.zw 9 rfl cH ?_);refine .z 10 rfl (zbd [_,_] bX) ?_;refine .z 11 rfl (zfa gD) ?_;refine .E 12 hs ?_;refine .aE (vs:=[_,_]) hs rfl rfl aB ?_;intro w hs;refine .go (.D hs (.af (.y hs (zls [_,_,_,_,_,_,_] mV bw) (.o (.aE (vs:=[_,_,_,_,_,_,_]) hs rfl rfl bw fun w hs=>?_)))));exact .nil (.ret (Fin.iT [] [] hs fun w hs=>⟨_,results1 results142 (dp (vs:=lgC ⟨1+wk a 3,fr+wk b 40,fr+wk b 40+wk c 60,950+wk d 100,950+wk d 100+wk (IntKind.i64.wrap (d.tdiv 100)) 40,wk e 500,wk e 500+wk f 200⟩) hs rfl mV bw),⟨1+wk a 3,fr+wk b 40,fr+wk b 40+wk c 60,950+wk d 100,950+wk d 100+wk (IntKind.i64.wrap (d.tdiv 100)) 40,wk e 500,wk e 500+wk f 200⟩,rfl,⟨by dsimp only;omega,by dsimp only;omega,by dsimp only;omega,by dsimp only;omega,by dsimp only;omega,by dsimp only;omega,by dsimp only;omega⟩,hs.out⟩))
theorem tH{w:World}{v:Value}{ns:List Int}(hs:St H w σ)(hr:RI H v ns):
  aaR 77 [v] w fun u w'=>∃l vt vs e1 e2,u=lnA l vt vs∧UB l∧cU 2 vt (fbc l.table).flatten e1∧cU 4 vs (snc l.seasons).flatten e2∧St H w' (e2::e1::σ):=by
 refine Cl.o func77 ntmps77 ag1 ?_;refine .af (.o (.alloc hs oU rfl fun b2 w hs=>?_));refine .nil (.af (.z zm (.o (.call xr rfl (eo hs hr ai ai) ?_))));rintro _ w ⟨x6,rfl,g6,hs⟩;refine .z cH (.z zm (.o (.call xr rfl (eo hs hr ai ai) ?_)));rintro _ w ⟨x9,rfl,g9,hs⟩;refine .z cH (.z (zbd [I (100+x6),I (200+x9),.slice none 0 0,.slice none 0 0] vX rfl aA) (.o (.alloc hs oU rfl fun b3 w hs=>?_)));refine .o (.aE (vs:=[_,_,_,_]) hs rfl rfl bK fun w hs=>?_);refine .nil (.af (.z zm (.o (.call xr rfl (eo hs hr ai ai) ?_))));rintro _ w ⟨x13,rfl,g13,hs⟩;refine .z (zbd [_,_] iO) (.z zm (.o (.call xr rfl (eo hs hr ai ai) ?_)));rintro _ w ⟨x16,rfl,g16,hs⟩;refine .z cH (.z zm (.o (.call xr rfl (eo hs hr ai ai) ?_)));rintro _ w ⟨x19,rfl,g19,hs⟩;refine .z (zbd [_,_] iO) (.z zm (.o (.call xr rfl (eo hs hr ai ai) ?_)));rintro _ w ⟨x22,rfl,g22,hs⟩;refine .z (zbd [_,_] iO) (.o (.buildSlice (cells:=(fbc [⟨100,x13⟩,⟨400+x16,x19⟩,⟨1000,x22⟩]).flatten) hs qW rfl aA fun ue w hs=>?_));refine .z (zfa db) (.o (.store hs rfl rfl sizeOf22 fun w hs=>?_));refine .nil (.seq (.af (.zn zg (.block ?_))));replace hs:St H w (.blk ue (fbc [⟨100,x13⟩,⟨400+x16,x19⟩,⟨1000,x22⟩]).flatten:: .blk b3 [I (100+x6),I (200+x9),.slice (some ⟨ue,0,none⟩) 3 3,.slice none 0 0]:: .blk b2 [I 0,I 0,.slice none 0 0,.slice none 0 0]::σ):=hs;refine .loop (fun p:Nat×List Ssn×Value×Ent=>⟨62,[],[(4,I (p.1:Int)),(3,Pt b3),(2,Pt b2),(0,v)]⟩)
  (fun p w=>p.1≤4∧p.2.1.length=p.1∧(∀s∈p.2.1,Gt s)∧cU 4 p.2.2.1 (snc p.2.1).flatten p.2.2.2∧St H w (p.2.2.2:: .blk ue (fbc [⟨100,x13⟩,⟨400+x16,x19⟩,⟨1000,x22⟩]).flatten:: .blk b3 [I (100+x6),I (200+x9),.slice (some ⟨ue,0,none⟩) 3 3,p.2.2.1]:: .blk b2 [I 0,I 0,.slice none 0 0,.slice none 0 0]::σ)) (fun p=>4 - p.1) (0,[],_,.nul) aH
  ⟨by dsimp only;omega,rfl,fun s hs=>(by cases hs),.nil 4 none,hs.nul⟩ ?_
 rintro ⟨k,ss,vo,en⟩ w ⟨hk,lB,Wd,hO,hs⟩;dsimp only at hk lB Wd hO hs ⊢;obtain ⟨ao,co,rfl⟩:=hO.j6 (DQ _) ai;rw [nt] at hO hs;refine .seq (.af (.z zm (.z zm (.o (.call xr rfl (eo hs hr ai ai) ?_)))));rintro _ w ⟨x28,rfl,g28,hs⟩;refine .zn fN (.bh rfl (fun nO=>?_) (fun nO=>?_))
 ·refine .skip (nT (.seq (.block (.draw mix rfl hs fun w hs=>?_))));refine .zw 0 rfl (zfa dj) ?_;refine .y 1 rfl hs kJ ?_;refine .z 2 rfl zm ?_;refine .z 3 rfl zm ?_;refine .z 4 rfl kV ?_;refine .z 5 rfl cH ?_;refine .z 8 rfl zm ?_;refine .z 9 rfl zm ?_;refine .z 10 rfl kV ?_;refine .z 11 rfl cH ?_;refine .zw 14 rfl zm ?_;refine .z 15 rfl zm ?_;refine .z 16 rfl kV ?_;refine .z 17 rfl cH ?_;refine .z 20 rfl zm ?_;refine .z 21 rfl zm ?_;refine .z 22 rfl kV ?_;refine .z 23 rfl cH ?_;refine .E 6 hs ?_;refine .call xr rfl (eo hs hr ai ai) ?_;rintro _ w ⟨x38,rfl,g38,hs⟩;refine .go (.zw 7 rfl cH (.E 12 hs ?_));refine .call xr rfl (eo hs hr ai ai) ?_;rintro _ w ⟨x44,rfl,g44,hs⟩;refine .go (.zw 13 rfl cH (.E 18 hs ?_));refine .call xr rfl (eo hs hr ai ai) ?_;rintro _ w ⟨x50,rfl,g50,hs⟩;refine .go (.zw 19 rfl cH (.E 24 hs ?_));refine .call xr rfl (eo hs hr ai ai) ?_;rintro _ w ⟨x56,rfl,g56,hs⟩;refine .go (.zw 25 rfl (zbd (Ssn.c ⟨1+x38,1+x44,1+x50,x56⟩) tt rfl aA) (.E 26 hs ?_));refine .buildSlice (cells:=Ssn.c ⟨1+x38,1+x44,1+x50,x56⟩) hs nU rfl aA ?_;intro Yq w hs;refine .go (.E 27 hs ?_);refine .append (ys:=Ssn.c ⟨1+x38,1+x44,1+x50,x56⟩) hs nq rfl rfl hO (.own .here rfl rfl) (by simp [Ssn.c,Value.oneCell']) (fun l' h=>by rw [cj _ (DQ _),nt] at h;omega) ?_;intro v59 en59 w dY hs;rw [←Mx] at dY;obtain ⟨a59,c59,rfl⟩:=dY.j6 (DQ _) ai;refine .go (.zw 28 rfl (zfa dj) (.E 29 hs ?_));refine .store hs rfl rfl sizeOf23 ?_;intro w hs;refine .go (.D hs (nB (nT (.region (.z zm (.z cH (.zn zg (nT ?_))))))));exact ⟨(k+1,ss++[⟨1+x38,1+x44,1+x50,x56⟩],_,en59),.cD rfl bH aH,⟨by dsimp only;omega,by simp [lB],fun s hs=>by
   rcases List.mem_append.1 hs with h|h
   ·exact Wd s h
   ·rw [List.mem_singleton] at h;subst h;exact ⟨by dsimp only;omega,by dsimp only;omega,by dsimp only;omega,by dsimp only;omega⟩,dY,hs.sb⟩,by dsimp only;omega⟩
 ·refine .exit (xT (xT (xB (nT (.af (.y hs (zls [_,_,_,_] dc bK) (.o (.aE (vs:=[_,_,_,_]) hs rfl rfl bK fun w hs=>?_))))))));refine .nil (.ret ?_);exact Fin.iT [] [] hs fun w hs=>⟨_,results1 results77 (dp (vs:=[I (100+x6),I (200+x9),.slice (some ⟨ue,0,none⟩) 3 3,.slice ao ss.length co]) hs rfl dc bK),⟨100+x6,200+x9,[⟨100,x13⟩,⟨400+x16,x19⟩,⟨1000,x22⟩],ss⟩,_,_,.blk ue (fbc [⟨100,x13⟩,⟨400+x16,x19⟩,⟨1000,x22⟩]).flatten,en,rfl,⟨⟨by dsimp only;omega,by dsimp only;omega,bH,by dsimp only;omega,fun i hi=>by
   have h:i=0∨i=1∨i=2:=by simp at hi;omega
   rcases h with rfl|rfl|rfl
   ·exact ⟨by simp [fb0],by simp [fb0];omega,bH⟩
   ·exact ⟨by simp [fb0];omega,by simp [fb0];omega,by simp [fb0];omega⟩
   ·exact ⟨by simp [fb0],by simp [fb0];omega,by simp [fb0];omega⟩,Wd⟩,by dsimp only;omega,rfl,⟨rfl,rfl⟩,by dsimp only;omega⟩,.full rfl,hO,hs.sb⟩
set_option maxHeartbeats 1000000 in
theorem tG{w:World}{v:Value}{ns:List Sx}(hs:St H w σ)(hr:RS H 6 v (ns.map Sx.v)):
  aaR 78 [v] w fun u w'=>∃r vr en,u= .agg #[vr]∧UA r∧cU 7 vr (lgc r).flatten en∧St H w' (en::σ):=by
 obtain ⟨a,c,rfl⟩:=hr.shape;have hlr:=hr.len;rw [List.length_map] at hr ⊢;refine Cl.o func78 ntmps78 ag1 ?_;refine .af (.o (.alloc hs s9 rfl fun b2 w hs=>?_));refine .nil (.af (.o (.alloc hs s9 rfl fun b3 w hs=>?_)));refine .nil (.af (.zn zg (.seq (.af (.zn zg (.block ?_))))));refine .loop (fun p:Nat×Int×List Lg×Value×Ent=>⟨40,[],[(5,I (p.1:Int)),(4,I p.2.1),(3,Pt b3),(2,Pt b2),(0,.slice a ns.length c)]⟩)
  (fun p w=>(p.1≤4∧p.1≤ns.length)∧p.2.2.1.length=p.1∧(0≤p.2.1∧p.2.1≤p.1*100)∧(0<p.1→(lg0 p.2.2.1 (p.1 - 1)).to=p.2.1)∧(∀i<p.1,(Gx (lg0 p.2.2.1 i)∧(0<i→(lg0 p.2.2.1 (i - 1)).to≤(lg0 p.2.2.1 i).fr))∧(lg0 p.2.2.1 i).bhi≤1000)∧cU 7 p.2.2.2.1 (lgc p.2.2.1).flatten p.2.2.2.2∧St H w (p.2.2.2.2:: .blk b3 [p.2.2.2.1]:: .blk b2 [.slice none 0 0]::σ)) (fun p=>4 - p.1) (0,0,[],_,.nul) aH
  ⟨by dsimp only;omega,rfl,by dsimp only;omega,fun h=>(by dsimp only at h;omega),fun i hi=>(by dsimp only at hi;omega),.nil 7 none,hs.nul⟩ ?_
 rintro ⟨k,fr,r,vo,en⟩ w ⟨hk,lB,ZN,th,aZ,hO,hs⟩;dsimp only at hk lB ZN th aZ hO hs ⊢;obtain ⟨ao,co,rfl⟩:=hO.j6 (FK _) ai;rw [nu] at hO hs;refine .seq (.af (.z zm (.z zm (.z (de runUnderlying40) (.z fN (.z zm (.iz (t':=11) rfl (fun oO=>?_) (fun oO=>?_))))))))
 ·refine .T (.z zm (.T (.z fN (.zn zpT (.bh rfl (fun jH=>?_) (fun jH=>?_))))))
  ·refine .skip (nT (.seq (.block (.af ?_))));obtain ⟨q,hx⟩:=nth (l:=ns) (k:=k) ai;refine .z zm (.z zm (.ixX (enc:=Sx.v) hs hr rfl rfl runUnderlying40 sizeOf96 hx rfl ?_));intro pU o19 mL;refine .q hs (bQ (vs:=q.v) rfl isAgg96 sizeOf96 mL) (.z zm (.o (.call call142 rfl (kZ (a:=q.a) (b:=q.b) (c:=q.c) (d:=q.d) (e:=q.e) (f:=q.f) hs ai) ?_)));rintro _ w ⟨x,rfl,hM,hs⟩;have hMo:=hM.ok ai;have hM2:=hM.fr;have hM3:=hM.to;have aau:=hM.blo;have aat:=hM.bhi;refine .o (.alloc hs eX rfl fun b6 w hs=>?_);refine .o (.aE (vs:=[_,_,_,_,_,_,_]) hs rfl rfl bw fun w hs=>?_);refine .nil (.af (.z (zfa fI) (.y hs (zld aj) (.zn zg (.region (.z (zfa bG) (.y hs (zld dH) (.y hs (zls [_,_,_,_,_,_,_] mV bw) (.o (.buildSlice (cells:=lgC x) hs mU rfl aA fun R1 w hs=>?_))))))))));refine .o (.append (ys:=x.c) hs qY rfl rfl hO (.own .here rfl rfl) (by simp [Lg.c,Value.oneCell']) (fun l' h=>by rw [cj _ (FK _),nu] at h;omega) ?_);intro v29 en29 w dY hs;rw [←Nb] at dY;obtain ⟨a29,c29,rfl⟩:=dY.j6 (FK _) ai;refine .z (zfa bG) (.o (.store hs rfl rfl sizeOf26 fun w hs=>?_));refine .nil (nB (nT (.region (.z zm (.z cH (.zn zg (nT ?_)))))));exact ⟨(k+1,x.to,r++[x],_,en29),.cD rfl bH aH,⟨by dsimp only;omega,by simp [lB],by dsimp only;omega,fun _=>by dsimp only;rw [vf,if_neg ai,if_pos ai],fun i hi=>by
    dsimp only at hi ⊢;by_cases e:i=k
    ·subst e;rw [vf,if_neg ai,if_pos ai,vf];refine ⟨⟨hMo,fun h=>?_⟩,ai⟩;rw [if_pos ai];have:=th h;omega
    ·rw [vf,if_pos ai,vf,if_pos ai];exact aZ i ai,dY,hs.sb⟩,by dsimp only;omega⟩
  ·refine .exit (xT (xT (xB (nT (.seq (.af (.z (zfa bG) (.y hs (zld dH) (.z (de aF) (.zn fy (.bh rfl (fun jx=>?_) (fun jx=>?_))))))))))))
   ·refine .region ?_;obtain rfl:k=0:=by omega
    obtain rfl:r=[]:=List.length_eq_zero_iff.1 lB;refine .q hs (CF (vs:=[]) (cells:=[I 0,I 0,I 0,I 0,I 0,I 0]) zeroValue96 rfl iD an rfl) (.o (.call call142 rfl (kZ (a:=0) (b:=0) (c:=0) (d:=0) (e:=0) (f:=0) hs ai) ?_));rintro _ w ⟨x,rfl,hM,hs⟩;have aau:=hM.blo;have aat:=hM.bhi;refine .o (.buildSlice (cells:=(lgc [x]).flatten) hs mU rfl aA fun By w hs=>?_);refine .z (zfa bG) (.o (.store hs rfl rfl sizeOf26 fun w hs=>?_));refine .nil (nT (.af (.y hs (zls [_] ek cI) (.o (.aE (vs:=[_]) hs rfl rfl cI fun w hs=>?_)))));refine .nil (.ret ?_);exact Fin.iT [] [] hs fun w hs=>⟨_,results1 results78 (dp (vs:=[.slice (some ⟨By,0,none⟩) 1 1]) hs rfl ek cI),[x],_,.blk By (lgc [x]).flatten,rfl,⟨⟨bH,fun i hi=>by
     obtain rfl:i=0:=by simp at hi;omega
     exact ⟨hM.ok ai,fun h=>by omega⟩⟩,bH,fun i hi=>by
     obtain rfl:i=0:=by simp at hi;omega
     show x.bhi≤1000;omega⟩,.full rfl,hs.sb⟩
   ·refine .skip (nT (.af (.y hs (zls [_] ek cI) (.o (.aE (vs:=[_]) hs rfl rfl cI fun w hs=>?_)))));exact .nil (.ret (Fin.iT [] [] hs fun w hs=>⟨_,results1 results78 (dp (vs:=[.slice ao r.length co]) hs rfl ek cI),r,_,en,rfl,⟨⟨ai,fun i hi=>(aZ i ai).1⟩,ai,fun i hi=>(aZ i ai).2⟩,hO,hs.sb⟩))
 ·refine .Fs 2 4 true (.zn zpF (.cF (.exit (xT (xT (xB (nT (.seq (.af (.z (zfa bG) (.y hs (zld dH) (.z (de aF) (.zn fy (.bh rfl (fun jx=>?_) (fun jx=>?_)))))))))))))))
  ·refine .region ?_;obtain rfl:k=0:=by omega
   obtain rfl:r=[]:=List.length_eq_zero_iff.1 lB;refine .q hs (CF (vs:=[]) (cells:=[I 0,I 0,I 0,I 0,I 0,I 0]) zeroValue96 rfl iD an rfl) (.o (.call call142 rfl (kZ (a:=0) (b:=0) (c:=0) (d:=0) (e:=0) (f:=0) hs ai) ?_));rintro _ w ⟨x,rfl,hM,hs⟩;have aau:=hM.blo;have aat:=hM.bhi;refine .o (.buildSlice (cells:=(lgc [x]).flatten) hs mU rfl aA fun By w hs=>?_);refine .z (zfa bG) (.o (.store hs rfl rfl sizeOf26 fun w hs=>?_));refine .nil (nT (.af (.y hs (zls [_] ek cI) (.o (.aE (vs:=[_]) hs rfl rfl cI fun w hs=>?_)))));refine .nil (.ret ?_);exact Fin.iT [] [] hs fun w hs=>⟨_,results1 results78 (dp (vs:=[.slice (some ⟨By,0,none⟩) 1 1]) hs rfl ek cI),[x],_,.blk By (lgc [x]).flatten,rfl,⟨⟨bH,fun i hi=>by
    obtain rfl:i=0:=by simp at hi;omega
    exact ⟨hM.ok ai,fun h=>by omega⟩⟩,bH,fun i hi=>by
    obtain rfl:i=0:=by simp at hi;omega
    show x.bhi≤1000;omega⟩,.full rfl,hs.sb⟩
  ·refine .skip (nT (.af (.y hs (zls [_] ek cI) (.o (.aE (vs:=[_]) hs rfl rfl cI fun w hs=>?_)))));exact .nil (.ret (Fin.iT [] [] hs fun w hs=>⟨_,results1 results78 (dp (vs:=[.slice ao r.length co]) hs rfl ek cI),r,_,en,rfl,⟨⟨ai,fun i hi=>(aZ i ai).1⟩,ai,fun i hi=>(aZ i ai).2⟩,hO,hs.sb⟩))
set_option maxHeartbeats 4000000 in
theorem wL{w:World}{vn vg:Value}{ns:List Int}{sx:List Sx}{y1 y2 y3 m1 m2:Int}(hs:St H w σ)(g1:RI H vs sl)(g2:RF5 H v5 ie)(g3:RF4 H v4 ir)(g4:RI H vp pk)(g5:RI H vn ns)(g6:RS H 6 vg (sx.map Sx.v)):
  aaR 23 [.agg #[vs,v5,v4,vp,I y1,I y2,I y3,vn,vg,I m1,I m2,I z1,I z2,I z3]] w fun u w'=>∃H1 s a b c d l vt vs r vl,HLe H H1∧u= .tuple #[svA s a b c d,lnA l vt vs,.agg #[vl]]∧SvM H1 s a b c d∧LnM H1 l vt vs∧RLg H1 vl r∧(Spl s∧r.length≤4)∧St H1 w' σ:=by
 obtain ⟨avs,cvs,rfl⟩:=RI.shape g1;obtain ⟨av5,cv5,rfl⟩:=g2.shape;obtain ⟨av4,cv4,rfl⟩:=g3.shape;obtain ⟨avp,cvp,rfl⟩:=RI.shape g4;obtain ⟨avn,cvn,rfl⟩:=RI.shape g5;obtain ⟨avg,cvg,rfl⟩:=g6.shape;refine Cl.o func23 ntmps23 ag1 ?_;refine .af (.bx hs fun b1 w hs=>?_);refine .o (.alloc hs iQ rfl fun b2 w hs=>?_);refine .o (.alloc hs oU rfl fun b3 w hs=>?_);refine .o (.alloc hs s9 rfl fun b4 w hs=>?_);refine .nil (.af (.z (zfa rX) (.y hs (zls [_,_,_,_,_,_,_] isAgg39 sizeOf39) (.o (.call call55 rfl (wN hs g1 g2 g3 g4) ?_)))));rintro _ w ⟨H1,s,a,b,c,d,az,rfl,r1,r2,r3,r4,XO,hs⟩;have hSv:SvM H1 s a b c d:=⟨r1,r2,r3,r4⟩;obtain ⟨aa,ca,rfl⟩:=RI.shape r1;obtain ⟨ab,cb,rfl⟩:=RI.shape r2;obtain ⟨ac,cc,rfl⟩:=RRd.shape r3;obtain ⟨ad,cd,rfl⟩:=RCm.shape r4;refine .o (.alloc hs iQ rfl fun b5 w hs=>?_);refine .o (.aE (vs:=[_,_,_,_,_,_,_,_]) hs rfl rfl aM fun w hs=>?_);refine .nil (.af (.z (zfa rW) (.y hs (zld aq) (.o (.call call77 rfl (tH hs (g5.mono az)) ?_)))));rintro _ w ⟨l,vt,vsn,e1,e2,rfl,hL,oP,dY,hs⟩;obtain ⟨bt,ct,spT,rfl,rfl,ZT⟩:=oP.N8 (NU _) ai (by rw [sG,hL.tbl];omega);obtain ⟨asn,csn,rfl⟩:=dY.j6 (DQ _) ai;rw [sG] at oP ⊢;rw [nt] at dY ⊢;have hLt:=hL.tbl;refine .o (.alloc hs oU rfl fun b6 w hs=>?_);refine .o (.aE (vs:=[_,_,_,_]) hs rfl rfl bK fun w hs=>?_);refine .nil (.af (.z (zfa rV) (.y hs (zld isAgg40) (.o (.call call78 rfl (tG hs (RS.mono g6 az)) ?_)))));rintro _ w ⟨r,vr,e3,rfl,hR,ic,hs⟩;have hRm:=hR.ok.many;have IX:=hR.many;obtain ⟨br,cr,oK,rfl,rfl,hcr⟩:=ic.N8 (FK _) ai (by rw [nu];omega);rw [nu] at ic ⊢;refine .o (.alloc hs s9 rfl fun b7 w hs=>?_);refine .o (.aE (vs:=[_]) hs rfl rfl cI fun w hs=>?_);refine .nil (.af (.z (zfa rU) (.y hs (zls [_,_,_] isAgg37 sizeOf37) (.o (.alloc hs zeroValue37 rfl fun b8 w hs=>?_)))));refine .o (.aE (vs:=[_,_,_]) hs rfl rfl sizeOf37 fun w hs=>?_);refine .nil (.af (.z (zia 1 aJ an) (.y hs (zld aj) (.z (zfa bG) (.y hs (zld dH) (.z (de aF) ?_))))));have hbi:=nK z2 (m:=(r.length:Int)) ai;refine .o (.call nF rfl (dn hs ai) ?_);rintro _ w ⟨rfl,hs⟩;generalize wk z2 (r.length:Int)=ii at*;obtain ⟨i,rfl⟩:∃i:Nat,ii=(i:Int):=⟨ii.toNat,ai⟩;refine .zn zg (.af (.z (zia 1 aJ an) (.y hs (zld aj) (.z (zfa db) (.y hs (zld j5) (.z (de bn) ?_))))));have Ju:=nK z2 (m:=(l.table.length:Int)) ai;refine .o (.call nF rfl (dn hs ai) ?_);rintro _ w ⟨rfl,hs⟩;generalize wk z2 (l.table.length:Int)=kk at*;obtain ⟨k,rfl⟩:∃k:Nat,kk=(k:Int):=⟨kk.toNat,ai⟩;have Zm:=oQ (l:=l.table) (i:=k) ai;have P9:=kC (l:=r) (i:=i) ai;generalize fb0 l.table k=fT at*;generalize lg0 r i=fR at*;refine .zn zg (.cut (fun fs w=>∃(x1 x2:Int) (T:List Fbd) (R:List Lg) (f1 f2:Ent) (vt vr:Value),kG fs ⟨191,[],[(8,Pt b8),(7,Pt b7),(6,Pt b6),(5,Pt b5),(4,Pt b4),(3,Pt b3),(2,Pt b2)]⟩∧T.length≤3∧R.length≤4∧cU 2 vt (fbc T).flatten f1∧cU 7 vr (lgc R).flatten f2∧St H1 w (f2::f1::e2:: .blk b8 [I z1,I z2,I z3]:: .blk b7 [vr]:: .blk b6 [I x1,I x2,vt,.slice asn l.seasons.length csn]:: .blk b5 (svC s (.slice aa s.sp.st.length ca) (.slice ab s.sp.wa.length cb) (.slice ac s.rs.length cc) (.slice ad s.cs.length cd)):: .blk b4 [.slice none 0 0]:: .blk b3 [I 0,I 0,.slice none 0 0,.slice none 0 0]:: .blk b2 [I 0,I 0,.slice none 0 0,.slice none 0 0,I 0,I 0,.slice none 0 0,.slice none 0 0]::σ)) ?_ ?_)
 ·refine .af (.z (zia 0 aJ an) (.y hs (zld aj) (.o (.call nF rfl (dn hs ai) ?_))));rintro _ w ⟨rfl,hs⟩;refine .nil (.block (.af (.z fy (.zn zg (.bh rfl (fun qP=>?_) (fun qP=>?_))))))
  ·refine .region (.z (zia 2 aJ an) (.y hs (zld aj) (.z (zfa eQ) (.o (.store hs rfl rfl an fun w hs=>?_)))));exact .nil (nB (nT ⟨z3,l.depth,l.table,r,_,_,_,_,aH,ai,IX,oP,ic,hs.sb⟩))
  ·refine .af (.z fy (.zn zg (.bh rfl (fun yC=>?_) (fun yC=>?_))))
   ·refine .region (.z (zia 2 aJ an) (.y hs (zld aj) (.z (zfa ji) (.o (.store hs rfl rfl an fun w hs=>?_)))));exact .nil (nB (nT ⟨l.length,z3,l.table,r,_,_,_,_,aH,ai,IX,oP,ic,hs.sb⟩))
   ·refine .af (.z fy (.zn zg (.bh rfl (fun mI=>?_) (fun mI=>?_))))
    ·refine .region (.z (zfa db) (.y hs (zld j5) (.z zm (.z (zia 2 aJ an) (.y hs (zld aj) ?_)))));first|(refine .ixw hs bn cP ?_;intro aaM o55 Qy)|refine .z (oe bn cP) ?_
     refine .z (zfa bV) (.o (.store (c':=((l.table.set k {fT with len:=z3}).map Fbd.c).flatten++spT) hs rfl rfl an ?_ dy (iN (enc:=Fbd.c) (fun _=>rfl) ai eu spT) (iH (enc:=Fbd.c) (fun _=>rfl) Zm eu rfl spT)));intro w hs;exact .nil (nB (nT ⟨l.length,l.depth,l.table.set k {fT with len:=z3},r,_,_,_,_,aH,by rw [List.length_set];omega,IX,iK (enc:=Fbd.c) (fun _=>rfl) oP,ic,hs.sb⟩))
    ·refine .af (.z fy (.zn zg (.bh rfl (fun F7=>?_) (fun F7=>?_))))
     ·refine .region (.z (zfa db) (.y hs (zld j5) (.z zm (.z (zia 2 aJ an) (.y hs (zld aj) ?_)))));first|(refine .ixw hs bn cP ?_;intro b64 o64 Tr)|refine .z (oe bn cP) ?_
      refine .z (zfa dT) (.o (.store (c':=((l.table.set k {fT with least:=z3}).map Fbd.c).flatten++spT) hs rfl rfl an ?_ dy (iN (enc:=Fbd.c) (fun _=>rfl) ai eu spT) (iH (enc:=Fbd.c) (fun _=>rfl) Zm eu rfl spT)));intro w hs;exact .nil (nB (nT ⟨l.length,l.depth,l.table.set k {fT with least:=z3},r,_,_,_,_,aH,by rw [List.length_set];omega,IX,iK (enc:=Fbd.c) (fun _=>rfl) oP,ic,hs.sb⟩))
     ·refine .af (.z fy (.zn zg (.bh rfl (fun tT=>?_) (fun tT=>?_))))
      ·refine .region (.z (zfa bG) (.y hs (zld dH) (.z zm (.z (zia 2 aJ an) (.y hs (zld aj) ?_)))));first|(refine .ixw hs aF bw ?_;intro b73 o73 Xr)|refine .z (oe aF bw) ?_
       refine .z (zfa ml) (.o (.store (c':=((r.set i {fR with zone:=z3}).map Lg.c).flatten++oK) hs rfl rfl an ?_ dy (iN (enc:=Lg.c) (fun _=>rfl) ai eu oK) (iH (enc:=Lg.c) (fun _=>rfl) P9 eu rfl oK)));intro w hs;exact .nil (nB (nT ⟨l.length,l.depth,l.table,r.set i {fR with zone:=z3},_,_,_,_,aH,ai,by rw [List.length_set];exact IX,oP,iK (enc:=Lg.c) (fun _=>rfl) ic,hs.sb⟩))
      ·refine .af (.z fy (.zn zg (.bh rfl (fun CU=>?_) (fun CU=>?_))))
       ·refine .region (.z (zfa bG) (.y hs (zld dH) (.z zm (.z (zia 2 aJ an) (.y hs (zld aj) ?_)))));first|(refine .ixw hs aF bw ?_;intro b82 o82 Tp)|refine .z (oe aF bw) ?_
        refine .z (zfa fJ) (.o (.store (c':=((r.set i {fR with fr:=z3}).map Lg.c).flatten++oK) hs rfl rfl an ?_ dy (iN (enc:=Lg.c) (fun _=>rfl) ai eu oK) (iH (enc:=Lg.c) (fun _=>rfl) P9 eu rfl oK)));intro w hs;exact .nil (nB (nT ⟨l.length,l.depth,l.table,r.set i {fR with fr:=z3},_,_,_,_,aH,ai,by rw [List.length_set];exact IX,oP,iK (enc:=Lg.c) (fun _=>rfl) ic,hs.sb⟩))
       ·refine .af (.z fy (.zn zg (.bh rfl (fun KT=>?_) (fun KT=>?_))))
        ·refine .region (.z (zfa bG) (.y hs (zld dH) (.z zm (.z (zia 2 aJ an) (.y hs (zld aj) ?_)))));first|(refine .ixw hs aF bw ?_;intro aaH o91 Qu)|refine .z (oe aF bw) ?_
         refine .z (zfa fI) (.o (.store (c':=((r.set i {fR with to:=z3}).map Lg.c).flatten++oK) hs rfl rfl an ?_ dy (iN (enc:=Lg.c) (fun _=>rfl) ai eu oK) (iH (enc:=Lg.c) (fun _=>rfl) P9 eu rfl oK)));intro w hs;exact .nil (nB (nT ⟨l.length,l.depth,l.table,r.set i {fR with to:=z3},_,_,_,_,aH,ai,by rw [List.length_set];exact IX,oP,iK (enc:=Lg.c) (fun _=>rfl) ic,hs.sb⟩))
        ·refine .af (.z fy (.zn zg (.bh rfl (fun F3=>?_) (fun F3=>?_))))
         ·refine .region (.z (zfa bG) (.y hs (zld dH) (.z zm (.z (zia 2 aJ an) (.y hs (zld aj) ?_)))));first|(refine .ixw hs aF bw ?_;intro Ri o100 nP)|refine .z (oe aF bw) ?_
          refine .z (zfa ep) (.z (zfa bp) (.o (.store (c':=((r.set i {fR with dlo:=z3}).map Lg.c).flatten++oK) hs rfl rfl an ?_ dy (iN (enc:=Lg.c) (fun _=>rfl) ai eu oK) (iH (enc:=Lg.c) (fun _=>rfl) P9 eu rfl oK))));intro w hs;exact .nil (nB (nT ⟨l.length,l.depth,l.table,r.set i {fR with dlo:=z3},_,_,_,_,aH,ai,by rw [List.length_set];exact IX,oP,iK (enc:=Lg.c) (fun _=>rfl) ic,hs.sb⟩))
         ·refine .af (.z fy (.zn zg (.bh rfl (fun EB=>?_) (fun EB=>?_))))
          ·refine .region (.z (zfa bG) (.y hs (zld dH) (.z zm (.z (zia 2 aJ an) (.y hs (zld aj) ?_)))));first|(refine .ixw hs aF bw ?_;intro YL o110 TH)|refine .z (oe aF bw) ?_
           refine .z (zfa ep) (.z (zfa bI) (.o (.store (c':=((r.set i {fR with dhi:=z3}).map Lg.c).flatten++oK) hs rfl rfl an ?_ dy (iN (enc:=Lg.c) (m:=7) (k:=i) (j:=4) (fun _=>rfl) ai eu oK) (iH (enc:=Lg.c) (m:=7) (k:=i) (j:=4) (x':={fR with dhi:=z3}) (v:=I z3) (fun _=>rfl) P9 eu rfl oK))));intro w hs;exact .nil (nB (nT ⟨l.length,l.depth,l.table,r.set i {fR with dhi:=z3},_,_,_,_,aH,ai,by rw [List.length_set];exact IX,oP,iK (enc:=Lg.c) (fun _=>rfl) ic,hs.sb⟩))
          ·refine .af (.z fy (.zn zg (.bh rfl (fun TG=>?_) (fun TG=>?_))))
           ·refine .region (.z (zfa bG) (.y hs (zld dH) (.z zm (.z (zia 2 aJ an) (.y hs (zld aj) ?_)))));first|(refine .ixw hs aF bw ?_;intro YH o120 TF)|refine .z (oe aF bw) ?_
            refine .z (zfa gD) (.z (zfa bp) (.o (.store (c':=((r.set i {fR with blo:=z3}).map Lg.c).flatten++oK) hs rfl rfl an ?_ dy (iN (enc:=Lg.c) (fun _=>rfl) ai eu oK) (iH (enc:=Lg.c) (fun _=>rfl) P9 eu rfl oK))));intro w hs;exact .nil (nB (nT ⟨l.length,l.depth,l.table,r.set i {fR with blo:=z3},_,_,_,_,aH,ai,by rw [List.length_set];exact IX,oP,iK (enc:=Lg.c) (fun _=>rfl) ic,hs.sb⟩))
           ·refine .af (.z fy (.zn zg (.bh rfl (fun TE=>?_) (fun TE=>?_))))
            ·refine .region (.z (zfa bG) (.y hs (zld dH) (.z zm (.z (zia 2 aJ an) (.y hs (zld aj) ?_)))));first|(refine .ixw hs aF bw ?_;intro b130 o130 aab)|refine .z (oe aF bw) ?_
             refine .z (zfa gD) (.z (zfa bI) (.o (.store (c':=((r.set i {fR with bhi:=z3}).map Lg.c).flatten++oK) hs rfl rfl an ?_ dy (iN (enc:=Lg.c) (m:=7) (k:=i) (j:=6) (fun _=>rfl) ai eu oK) (iH (enc:=Lg.c) (m:=7) (k:=i) (j:=6) (x':={fR with bhi:=z3}) (v:=I z3) (fun _=>rfl) P9 eu rfl oK))));intro w hs;exact .nil (nB (nT ⟨l.length,l.depth,l.table,r.set i {fR with bhi:=z3},_,_,_,_,aH,ai,by rw [List.length_set];exact IX,oP,iK (enc:=Lg.c) (fun _=>rfl) ic,hs.sb⟩))
            ·refine .af (.z fy (.zn zg (.bh rfl (fun O8=>?_) (fun O8=>?_))))
             ·refine .region (.z (zfa bG) (.o (.store hs rfl rfl sizeOf26 fun w hs=>?_)));exact .nil (nB (nT ⟨l.length,l.depth,l.table,[],_,.nul,_,_,aH,ai,bH,oP,.nil 7 none,hs.nul.sb⟩))
             ·refine .af (.z fy (.zn zg (.bh rfl (fun O7=>?_) (fun O7=>?_))))
              ·refine .region (.z (zfa db) (.o (.store hs rfl rfl sizeOf22 fun w hs=>?_)));exact .nil (nB (nT ⟨l.length,l.depth,[],r,.nul,_,_,_,aH,bH,IX,.nil 2 none,ic,hs.nul.sb⟩))
              ·exact .skip (nB (nT ⟨l.length,l.depth,l.table,r,_,_,_,_,aH,ai,IX,oP,ic,hs.sb⟩))
 ·clear hs oP ic;rintro fs w ⟨x1,x2,T,R,f1,f2,vt,vr,fM,TY,X2,oP,ic,hs⟩;refine WE.sub ?_ fM;clear fM;obtain ⟨aT,cT,rfl⟩:=oP.j6 (NU _) ai;obtain ⟨aR,cR,rfl⟩:=ic.j6 (FK _) ai;rw [sG] at oP hs;rw [nu] at ic hs;refine .cut (fun fs w=>∃(S:List Ssn) (f3:Ent) (vq:Value),kG fs ⟨191,[],[(7,Pt b7),(6,Pt b6),(5,Pt b5),(4,Pt b4),(3,Pt b3),(2,Pt b2)]⟩∧S.length≤4∧cU 4 vq (snc S).flatten f3∧St H1 w (f2::f1::f3:: .blk b7 [.slice aR R.length cR]:: .blk b6 [I x1,I x2,.slice aT T.length cT,vq]:: .blk b5 (svC s (.slice aa s.sp.st.length ca) (.slice ab s.sp.wa.length cb) (.slice ac s.rs.length cc) (.slice ad s.cs.length cd)):: .blk b4 [.slice none 0 0]:: .blk b3 [I 0,I 0,.slice none 0 0,.slice none 0 0]:: .blk b2 [I 0,I 0,.slice none 0 0,.slice none 0 0,I 0,I 0,.slice none 0 0,.slice none 0 0]::σ)) ?_ ?_
  ·refine .af (.z (zfa dj) (.y hs (zld kJ) (.z (de bY) (.zn kU (.bh rfl (fun O6=>?_) (fun O6=>?_))))))
   ·refine .af (.z (zia 1 aJ an) (.y hs (zld aj) (.z (zfa dj) (.y hs (zld kJ) (.z (de bY) ?_)))));have Vj:=hL.sns;obtain ⟨bS,cS,Fb,hv,rfl,hcS⟩:=dY.N8 (DQ _) ai (by rw [nt];omega);simp only [Value.slice.injEq] at hv;obtain ⟨rfl,Rz,rfl⟩:=hv;have hbj:=nK z2 (m:=(l.seasons.length:Int)) ai;refine .o (.call nF rfl (dn hs ai) ?_);rintro _ w ⟨rfl,hs⟩;generalize wk z2 (l.seasons.length:Int)=jj at*;obtain ⟨j,rfl⟩:∃j:Nat,jj=(j:Int):=⟨jj.toNat,ai⟩;obtain ⟨fS,UU⟩:=nth (l:=l.seasons) (k:=j) ai;refine .zn zg (.af (.z (zia 0 aJ an) (.y hs (zld aj) (.o (.call nF rfl (dn hs ai) ?_)))));rintro _ w ⟨rfl,hs⟩;refine .nil (.block (.af (.z fy (.zn zg (.bh rfl (fun TA=>?_) (fun TA=>?_))))))
    ·refine .region (.z (zfa dj) (.y hs (zld kJ) (.z zm (.z (zia 2 aJ an) (.y hs (zld aj) ?_)))));first|(refine .ixw hs bY eh ?_;intro Us o159 O3)|refine .z (oe bY eh) ?_
     refine .z (zfa jM) (.o (.store (c':=((l.seasons.set j {fS with zone:=z3}).map Ssn.c).flatten++Fb) hs rfl rfl an ?_ dy (iN (enc:=Ssn.c) (fun _=>rfl) ai eu Fb) (iH (enc:=Ssn.c) (fun _=>rfl) UU eu rfl Fb)));intro w hs;exact .nil (nB (nT ⟨l.seasons.set j {fS with zone:=z3},_,_,aH,by rw [List.length_set];omega,iK (enc:=Ssn.c) (fun _=>rfl) dY,hs.sb⟩))
    ·refine .af (.z fy (.zn zg (.bh rfl (fun Tz=>?_) (fun Tz=>?_))))
     ·refine .region (.z (zfa dj) (.y hs (zld kJ) (.z zm (.z (zia 2 aJ an) (.y hs (zld aj) ?_)))));first|(refine .ixw hs bY eh ?_;intro b168 o168 Z6)|refine .z (oe bY eh) ?_
      refine .z (zfa e9) (.o (.store (c':=((l.seasons.set j {fS with fr:=z3}).map Ssn.c).flatten++Fb) hs rfl rfl an ?_ dy (iN (enc:=Ssn.c) (fun _=>rfl) ai eu Fb) (iH (enc:=Ssn.c) (fun _=>rfl) UU eu rfl Fb)));intro w hs;exact .nil (nB (nT ⟨l.seasons.set j {fS with fr:=z3},_,_,aH,by rw [List.length_set];omega,iK (enc:=Ssn.c) (fun _=>rfl) dY,hs.sb⟩))
     ·refine .af (.z fy (.zn zg (.bh rfl (fun Tx=>?_) (fun Tx=>?_))))
      ·refine .region (.z (zfa dj) (.y hs (zld kJ) (.z zm (.z (zia 2 aJ an) (.y hs (zld aj) ?_)))));first|(refine .ixw hs bY eh ?_;intro b177 o177 Z5)|refine .z (oe bY eh) ?_
       refine .z (zfa e8) (.o (.store (c':=((l.seasons.set j {fS with to:=z3}).map Ssn.c).flatten++Fb) hs rfl rfl an ?_ dy (iN (enc:=Ssn.c) (fun _=>rfl) ai eu Fb) (iH (enc:=Ssn.c) (fun _=>rfl) UU eu rfl Fb)));intro w hs;exact .nil (nB (nT ⟨l.seasons.set j {fS with to:=z3},_,_,aH,by rw [List.length_set];omega,iK (enc:=Ssn.c) (fun _=>rfl) dY,hs.sb⟩))
      ·refine .af (.z fy (.zn zg (.bh rfl (fun Ex=>?_) (fun Ex=>?_))))
       ·refine .region (.z (zfa dj) (.y hs (zld kJ) (.z zm (.z (zia 2 aJ an) (.y hs (zld aj) ?_)))));first|(refine .ixw hs bY eh ?_;intro b186 o186 Z4)|refine .z (oe bY eh) ?_
        refine .z (zfa jL) (.o (.store (c':=((l.seasons.set j {fS with extra:=z3}).map Ssn.c).flatten++Fb) hs rfl rfl an ?_ dy (iN (enc:=Ssn.c) (fun _=>rfl) ai eu Fb) (iH (enc:=Ssn.c) (fun _=>rfl) UU eu rfl Fb)));intro w hs;exact .nil (nB (nT ⟨l.seasons.set j {fS with extra:=z3},_,_,aH,by rw [List.length_set];omega,iK (enc:=Ssn.c) (fun _=>rfl) dY,hs.sb⟩))
       ·exact .skip (nB (nT ⟨l.seasons,_,_,aH,ai,dY,hs.sb⟩))
   ·exact .skip (nT ⟨l.seasons,_,_,aH,ai,dY,hs.sb⟩)
  ·have Vj:=hL.sns;clear hs dY;rintro fs w ⟨S,f3,vq,fM,hS4,dY,hs⟩;refine WE.sub ?_ fM;clear fM;obtain ⟨aS,cS,rfl⟩:=dY.j6 (DQ _) ai;rw [nt] at dY hs;refine .cut (fun fs w=>kG fs ⟨191,[],[(4,Pt b4),(3,Pt b3),(2,Pt b2)]⟩∧St H1 w (f2::f1::f3:: .blk b4 [.slice aR R.length cR]:: .blk b3 [I x1,I x2,.slice aT T.length cT,.slice aS S.length cS]:: .blk b2 (svC s (.slice aa s.sp.st.length ca) (.slice ab s.sp.wa.length cb) (.slice ac s.rs.length cc) (.slice ad s.cs.length cd))::σ)) ?_ ?_
   ·refine .draw mix rfl hs fun w hs=>?_
    refine .ys 0 rfl hs [_,_,_,_,_,_,_,_] bA aM ?_;refine .ys 1 rfl hs [_,_,_,_] dc bK ?_;refine .ys 2 rfl hs [_] ek cI ?_;refine .E 3 hs ?_;refine .aE (vs:=[_,_,_,_,_,_,_,_]) hs rfl rfl aM ?_;intro w hs;refine .go (.E 4 hs ?_);refine .aE (vs:=[_,_,_,_]) hs rfl rfl bK ?_;intro w hs;refine .go (.E 5 hs ?_);refine .aE (vs:=[_]) hs rfl rfl cI ?_;intro w hs;exact .go (.D hs (nT ⟨aH,hs.sb⟩))
   ·rintro fs w ⟨fM,hs⟩;refine WE.sub ?_ fM;clear fM;refine .ret ?_;obtain ⟨H2,q2,p2,hs⟩:=cU.dh (m:=7) ic (FK _) ai (by rw [nu];omega) hs .here;obtain ⟨H3,q3,p3,hs⟩:=cU.dh (m:=2) oP (NU _) ai (by rw [sG];omega) hs .here;obtain ⟨H4,q4,p4,hs⟩:=cU.dh (m:=4) dY (DQ _) ai (by rw [nt];omega) hs .here;have k3:=q3.trans q4;have k2:=q2.trans k3;exact Fin.iT [] [] hs fun w hs=>⟨_,results3 results23 (dp (vs:=svC s (.slice aa s.sp.st.length ca) (.slice ab s.sp.wa.length cb) (.slice ac s.rs.length cc) (.slice ad s.cs.length cd)) hs rfl bA aM) (dp (vs:=[I x1,I x2,.slice aT T.length cT,.slice aS S.length cS]) hs rfl dc bK) (dp (vs:=[.slice aR R.length cR]) hs rfl ek cI),H4,s,_,_,_,_,⟨x1,x2,T,S⟩,_,_,R,_,az.trans k2,rfl,hSv.mono k2,⟨RFb.mono p3 q4,p4⟩,RLg.mono p2 k3,⟨XO,X2⟩,hs.out⟩
set_option maxHeartbeats 1000000 in
theorem rn{w:World}{s:Srv}{r:List Lg}{x:Wit}{a b c d:Value}(hs:St H w σ)(g:SvM H s a b c d)(gl:LnM H l vt vs)(kh:RLg H fX r)(gh:RT H vh x.rows):
  aaR 33 [svA s a b c d,lnA l vt vs,.agg #[fX],.agg #[I m.lo,I m.hi],.agg #[I x.leg,I x.dense,I x.tf,vh]] w fun u w'=>∃H1 e,HLe H H1∧u=I e∧Md s l r m x e∧St H1 w' σ:=by
 obtain ⟨qA,qy,rfl⟩:=kh.shape;obtain ⟨ah,ch,rfl⟩:=gh.shape;refine Cl.o func33 ntmps33 ag5 ?_;refine .af (.bx hs fun b5 w hs=>?_);refine .bx hs fun b6 w hs=>?_
 refine .bx hs fun b7 w hs=>?_
 refine .bx hs fun b8 w hs=>?_
 refine .bx hs fun b9 w hs=>?_
 refine .zn zg (.af (.y hs (zls [_,_,_,_,_,_,_,_] bA aM) (.y hs (zls [_,_,_,_] dc bK) (.y hs (zls [_] ek cI) (.y hs (zls [_,_] bJ aB) (.o (.call call81 rfl (qn (s:=s) (l:=l) (r:=r) (m:=m) hs g gl kh) ?_)))))));rintro _ w ⟨H1,vk,ks,e,az,rfl,IW,hB,hs⟩;refine .z zm (.z zex (.z zex (.z zg (.zn zg (.seq (.af (.z zm (.zn fV (.dK rfl (fun fc=>?_) (fun fc=>?_))))))))))
 ·exact .af (.z zm (.zn zg (.ret (rT (Fin.bj Jh rfl ⟨H1,_,az,rfl,.bad hB fc,hs.out⟩)))))
 ·refine .skip (nT (.seq (.af ?_)));obtain rfl:e=0:=by omega
  obtain ⟨HP,HK,rfl⟩:=RI.shape IW;obtain ⟨aZ,hl,oB,hm,lB,rL⟩:=hB.ok';have hn:=oB.many;have KK:=jW m r r.length;replace gh:=gh.mono az;replace g:=g.mono az;replace kh:=kh.mono az;refine .z (zfa cN) (.y hs (zld aj) (.z zm (.z (de ae) (.z gx (.o (.call nE rfl (dE hs) ?_))))));rintro _ w ⟨rfl,hs⟩;refine .z fU (.z zm (.bif (t':=34) rfl (fun NK=>?_) (fun NK=>?_)))
  ·exact .Fs 5 7 false (.zn zpT (.cT (.af (.zn zg (.ret (rT (Fin.bj Jh rfl ⟨H1,_,az,rfl,.no hB (fun h=>by have:=h.leg;simp_all),hs.out⟩)))))))
  ·refine .T (.y hs (zls [_,_,_,_,_,_,_,_] bA aM) (.T (.z (zfa gV) (.T (.y hs (zls [_] jo ea) (.T (.o (.call call100 rfl (sP (s:=s) (rows:=x.rows) hs g.st g.wa g.rd g.cm gh) ?_))))))));rintro _ w ⟨H2,e,bg,rfl,QQ,hs⟩;have dq:=az.trans bg;refine .T (.z fV (.zn zpF (.dK rfl (fun nN=>?_) (fun nN=>?_))))
   ·exact .af (.zn zg (.ret (rT (Fin.bj Jh rfl ⟨H2,_,dq,rfl,.no hB (fun h=>nN (QQ.uniq h.hull)),hs.out⟩))))
   ·refine .skip (nT (.af ?_));have IJ:0≤x.leg∧x.leg≤(r.length:Int) - 1:=by rw [←lB];simpa using NK
    obtain rfl:e=0:=by omega
    have fb:x.leg.toNat<r.length:=by omega
    have sV:=kC (l:=r) fb;have yw:=wS m r (k:=r.length) (i:=x.leg.toNat) ai;obtain ⟨q,hq,Hh⟩:=hB.mark fb;have Bm:=(oB.leg _ fb).1.dense;unfold gw at Bm;refine .z (zfa bG) (.y hs (zld dH) (.z (zfa cN) (.y hs (zld aj) (.ixX (enc:=Lg.c) hs (kh.mono bg) rfl rfl aF bw sV ai ?_))));intro Vr o45 Bo;refine .q hs (bQ (vs:=lgC (lg0 r x.leg.toNat)) rfl mV bw Bo) (.o (.alloc hs eX rfl fun kP w hs=>?_));refine .o (.aE (vs:=[_,_,_,_,_,_,_]) hs rfl rfl bw fun w hs=>?_);refine .nil (.cut (fun fs w=>∃oh,kG fs ⟨103,[],[(14,Pt oh),(13,Pt kP),(11,.slice HP ks.length HK),(9,Pt b9),(5,Pt b5)]⟩∧∃H3,HLe H2 H3∧St H3 w (.blk oh [I (kg m r x.leg.toNat).lo,I (kg m r x.leg.toNat).hi]:: .blk kP (lgC (lg0 r x.leg.toNat)):: .blk b9 [I x.leg,I x.dense,I x.tf,.slice ah x.rows.length ch]:: .blk b5 (svC s a b c d)::σ)) ?_ ?_)
    ·refine .draw mix rfl hs fun w hs=>?_
     refine .ys 0 rfl hs [_] ek cI ?_;refine .ys 1 rfl hs [_,_] bJ aB ?_;refine .z 3 rfl (zfa cN) ?_;refine .y 4 rfl hs aj ?_;refine .e2 (i:=2) (j:=7) aA rfl rfl rfl rfl .none .none hs ?_ ?_
     ·refine .call call82 rfl (lO (m:=m) hs (kh.mono bg) oB hm) ?_;rintro v49 w ⟨H3,bZ,y0,hs⟩;obtain ⟨Df,C9,rfl⟩:=y0.shape;refine .go (.ixX (enc:=Rng.c) (i:=5) hs rfl aA .none y0 rfl rfl eD aB yw ai ?_);intro Ys o52 vB;refine .r (i:=6) hs rfl aA .none (bQ (vs:=(kg m r x.leg.toNat).c) rfl bJ aB vB) ?_;refine .E 7 hs ?_;refine .alloc hs cZ rfl ?_;intro oh w hs;refine .go (.E 8 hs ?_);refine .aE (vs:=(kg m r x.leg.toNat).c) hs rfl rfl aB ?_;intro w hs;exact .go (.D hs (nT ⟨oh,aH,H3,bZ,hs.sb⟩))
     ·refine .alloc hs cZ rfl ?_;intro oh w hs;refine .go (.E 2 hs ?_);refine .call call82 rfl (lO (m:=m) hs (kh.mono bg) oB hm) ?_;rintro v49 w ⟨H3,bZ,y0,hs⟩;obtain ⟨Df,C9,rfl⟩:=y0.shape;refine .go (.ixX (enc:=Rng.c) (i:=5) hs rfl aA .none y0 rfl rfl eD aB yw ai ?_);intro Ys o52 vB;refine .r (i:=6) hs rfl aA .none (bQ (vs:=(kg m r x.leg.toNat).c) rfl bJ aB vB) ?_;refine .E 8 hs ?_;refine .aE (vs:=(kg m r x.leg.toNat).c) hs rfl rfl aB ?_;intro w hs;exact .go (.D hs (nT ⟨oh,aH,H3,bZ,hs.sb⟩))
    ·rintro fs w ⟨oh,fM,H3,bZ,hs⟩;refine WE.sub ?_ fM;clear fM;have ee:=dq.trans bZ;have rM:=bg.trans bZ;refine .af (.zn zg (.cut (fun fs w=>∃n H4,kG fs ⟨103,[],[(15,I n),(14,Pt oh),(13,Pt kP),(9,Pt b9)]⟩∧HLe H H4∧HlR s x.rows q n∧(-7000000000≤n∧n≤7000000000)∧St H4 w (.blk oh [I (kg m r x.leg.toNat).lo,I (kg m r x.leg.toNat).hi]:: .blk kP (lgC (lg0 r x.leg.toNat)):: .blk b9 [I x.leg,I x.dense,I x.tf,.slice ah x.rows.length ch]::σ)) ?_ ?_))
     ·refine .af (.z zm (.z (zfa cN) (.y hs (zld aj) (.ixX (enc:=fun x=>[I x]) hs (RS.mono IW rM) rfl rfl ae an (bu (l:=ks) (i:=x.leg.toNat) ai) ai ?_))));intro b57 o57 F7;replace F7:=bD.one F7;rw [hq] at F7;refine .y hs (zld aj) (.zn kU (.bh rfl (fun F6=>?_) (fun F6=>?_)))
      ·refine .draw mix rfl hs fun w hs=>?_
       refine .zw 0 rfl (zfa aW) ?_;refine .ys 1 rfl hs [_,_,_,_,_,_] bE aP ?_;refine .z 2 rfl (zfa gV) ?_;refine .ys 3 rfl hs [_] jo ea ?_;refine .z 4 rfl zm ?_;refine .z 5 rfl (zfa cN) ?_;refine .y 6 rfl hs aj ?_;refine .ixX (enc:=fun x=>[I x]) (i:=7) hs rfl aA .none (RS.mono IW rM) rfl rfl ae an (bu (l:=ks) (i:=x.leg.toNat) ai) ai ?_;intro b68 o68 KW;replace KW:=bD.one KW;rw [hq] at KW;refine .y 8 rfl hs aj ?_;refine .z 9 rfl (zbd [I 1,I 0,I (q:Int)] sf) ?_;refine .E 10 hs ?_;refine .call call101 rfl (yc (s:=s.sp) (rows:=x.rows) (q:=⟨1,0,q⟩) hs (g.mono rM).st (g.mono rM).wa (gh.mono rM)) ?_;rintro _ w ⟨H4,n,f,eH,rfl,hV,hs⟩;refine .go (.zw 11 rfl zm ?_);refine .z 12 rfl zex ?_;refine .z 13 rfl zex ?_;refine .z 14 rfl zg ?_;refine .D hs ?_;refine nT ?_;obtain rfl:f=0:=by
        have Tj:=QQ.OH
        cases hV with
        |space h=>exact (h aZ.early.1).elim
        |hull _ h=>exact (h Tj).elim
        |what _ _ h=>exact (h (CB (v:=s) ai Hh)).elim
        |ok=>rfl
       exact ⟨n,H4,aH,ee.trans eH,.up ai hV,hV.bd rfl,hs.sb⟩
      ·exact .skip (nT ⟨0,H3,aH,ee,.zero ai,ai,hs.sb⟩)
     ·rintro fs w ⟨n,H4,fM,js,T8,WJ,hs⟩;refine WE.sub ?_ fM;clear fM;refine .seq (.seq (.draw mix rfl hs fun w hs=>?_));refine .zw 0 rfl (zfa ff) ?_;refine .y 1 rfl hs aj ?_;refine .z 2 rfl (zfa ep) ?_;refine .z 3 rfl (zfa bp) ?_;refine .y 4 rfl hs aj ?_;refine .z 5 rfl (zfa ep) ?_;refine .z 6 rfl (zfa bI) ?_;refine .y 7 rfl hs aj ?_;refine .E 8 hs ?_;refine .call nE rfl (dE hs) ?_;rintro _ w ⟨rfl,hs⟩;refine .go (.zw 9 rfl fU ?_);refine .z 10 rfl zm ?_;refine .bif (t':=84) rfl (fun ED=>?_) (fun ED=>?_)
      ·refine .F 11 rfl (.F 12 rfl (.F 13 rfl (.F 14 rfl (.F 15 rfl (.F 16 rfl (.F 17 rfl (.F 18 rfl (.zw 19 rfl zpT ?_))))))));refine .z 20 rfl zm ?_;refine .F 21 rfl (.F 22 rfl (.F 23 rfl (.F 24 rfl (.F 25 rfl (.F 26 rfl (.F 27 rfl (.zw 28 rfl zpT ?_)))))));refine .D hs ?_;exact (.cT (.af (.zn zg (.ret (rT (Fin.bj Jh rfl ⟨H4,_,js,rfl,.no hB (fun h=>by have:=h.dense;simp_all),hs.out⟩))))))
      ·refine .zw 11 rfl (zfa gW) ?_;refine .y 12 rfl hs aj ?_;refine .z 13 rfl (zfa bp) ?_;refine .y 14 rfl hs aj ?_;refine .z 15 rfl (zfa bI) ?_;refine .y 16 rfl hs aj ?_;refine .E 17 hs ?_;refine .call nE rfl (dE hs) ?_;rintro _ w ⟨rfl,hs⟩;refine .go (.zw 18 rfl fU ?_);refine .z 19 rfl zpF ?_;refine .z 20 rfl zm ?_;refine .bif (t':=94) rfl (fun TL=>?_) (fun TL=>?_)
       ·refine .F 21 rfl (.F 22 rfl (.F 23 rfl (.F 24 rfl (.F 25 rfl (.F 26 rfl (.F 27 rfl (.zw 28 rfl zpT ?_)))))));refine .D hs ?_;exact (.cT (.af (.zn zg (.ret (rT (Fin.bj Jh rfl ⟨H4,_,js,rfl,.no hB (fun h=>by have:=h.tf;simp_all),hs.out⟩))))))
       ·refine .zw 21 rfl (zfa gW) ?_;refine .y 22 rfl hs aj ?_;refine .z 23 rfl zm ?_;refine .z 24 rfl (zfa ff) ?_;refine .y 25 rfl hs aj ?_;refine .E 26 hs ?_;have Xd:(lg0 r x.leg.toNat).dlo≤x.dense∧x.dense≤(lg0 r x.leg.toNat).dhi:=by simpa using ED
        have WL:(kg m r x.leg.toNat).lo≤x.tf∧x.tf≤(kg m r x.leg.toNat).hi:=by simpa using TL
        refine .call call52 rfl (iI hs ai ai) ?_;rintro _ w ⟨rfl,hs⟩;refine .go (.zw 27 rfl oY ?_);refine .z 28 rfl zpF ?_;refine .D hs ?_;refine (.bh rfl (fun Hn=>?_) (fun Hn=>?_))
        ·refine .af (.zn zg (.ret (rT (Fin.bj Jh rfl ?_))));exact ⟨H4,_,js,rfl,.no hB (fun h=>by
          obtain ⟨n',g1,g2⟩:=h.sinks;rw [hq,Int.toNat_natCast] at g1;rw [←T8.uniq g1] at g2;omega),hs.out⟩
        ·exact .skip (nT (.af (.zn zg (.ret (Fin.bj Jh rfl ⟨H4,_,js,rfl,.ok hB ⟨IJ,QQ,Xd,WL,n,by rw [hq,Int.toNat_natCast];exact T8,ai⟩,hs.out⟩)))))
theorem PB{v:Srv}{r:List Lg}(h:Dp v l r m dC 0)(hB:uo v l r m ks 0):v.sys.Sound∧dC.length=r.length∧∀i<r.length,∃lo hi,oa v (gi ks i).toNat (lg0 r i).dlo (lg0 r i).dhi lo hi 0∧gi dC i=AN (kg m r i) lo hi:=by
 generalize h0:(0:Int)=e0 at h
 cases h with
 |bad _ h=>exact (h h0.symm).elim
 |fls=>omega
 |ok g g1 g2 g3=>
  obtain ⟨rfl,_⟩:=hB.uniq g;exact ⟨g1,g2,g3⟩
def Rt(dC:List Int)(z:Int):Prop:=(z= -1∧∀i<dC.length,gi dC i=1)∨∃i:Nat,z=(i:Int)∧i<dC.length∧gi dC i≠1∧∀j<i,gi dC j=1
inductive Ro(v:Srv)(l:Lns)(r:List Lg)(m:Rng):Wit→Int→Prop
 |bad {dC:List Int} {e:Int} (h:Dp v l r m dC e) (he:e≠0):Ro v l r m ⟨0,0,0,[]⟩ e
 |none {dC:List Int} (h:Dp v l r m dC 0) (h1:∀i<dC.length,gi dC i=1):Ro v l r m ⟨0,0,0,[]⟩ 3
 |ok {dC ks:List Int} {x:Wit} {i:Nat} (h:Dp v l r m dC 0) (hi:i<dC.length) (h1:gi dC i≠1) (h2:∀j<i,gi dC j=1) (hl:x.leg=(i:Int)) (hB:uo v l r m ks 0) (hw:Od v r m ks x):Ro v l r m x 0
theorem Ox{v:Srv}{r:List Lg}{q:Nat}{b:Int}{y:List Int}(h:Dp v l r m dC 0)(hB:uo v l r m ks 0)(hi:i<r.length)(h1:gi dC i≠1)(hq:gi ks i=(q:Int))(hy:E2 v.sys (Bt (v.w ⟨1,0,(max q 1:Nat)⟩) false) y)
  (hL:BA v q a b 0) (hd:(d=(lg0 r i).dlo∧kE a (lg0 r i).dlo≤kE a (lg0 r i).dhi)∨(d=(lg0 r i).dhi∧kE a (lg0 r i).dhi≤kE a (lg0 r i).dlo)):Od v r m ks ⟨(i:Int),d,(kg m r i).hi,ka v.sp y v.sp.st.length⟩:=by
 obtain ⟨aZ,_,oB,hm,_,_⟩:=hB.ok';obtain ⟨oX,B4,has⟩:=PB h hB;obtain ⟨lo,y7,hS,hA⟩:=has i hi;rw [hq,Int.toNat_natCast] at hS;have Bm:=(oB.leg i hi).1.dense;unfold gw at Bm;obtain ⟨hH,hK,_⟩:=EY aZ hy.zero hy.Bs ⟨1,0,(max q 1:Nat)⟩;have CT:=CJ hm (fun i hi=>(oB.leg i hi).1) (i:=i) ai;unfold iZ at CT;have A1:lo=rl a (lg0 r i).dlo (lg0 r i).dhi:=(hS.uniq (.ok hL)).1;have eE:¬(kg m r i).hi≤lo:=fun g=>h1 (hA.trans (Oc.2 g))
 have A2:kE a d=lo:=by
  rw [A1];unfold rl
  rcases hd with ⟨rfl,g⟩|⟨rfl,g⟩<;>omega
 have Tj:HlR v (ka v.sp y v.sp.st.length) q a:=by
  by_cases e:q=0
  ·subst e;generalize h0:(0:Int)=e0 at hL
   cases hL with
   |up h=>omega
   |fls=>omega
   |zero=>exact .zero rfl
  ·have e1:max q 1=q:=by omega
   rw [e1] at hy;generalize h0:(0:Int)=e0 at hL
   cases hL with
   |up h g=>subst h0;have:=(Rj g hy).1;rw [if_neg bH] at this;exact .up h this
   |fls=>omega
   |zero h=>omega
 refine ⟨by dsimp only;omega,.ok aZ hH hK,?_,?_,a,?_,?_⟩
 ·dsimp only;rw [Int.toNat_natCast];omega
 ·dsimp only;rw [Int.toNat_natCast];omega
 ·dsimp only;rw [Int.toNat_natCast,hq,Int.toNat_natCast];exact Tj
 ·dsimp only;omega
inductive Uw(v:Srv)(l:Lns)(r:List Lg)(m:Rng):Int→Int→Prop
 |bad {dC:List Int} {e:Int} (h:Dp v l r m dC e) (he:e≠0):Uw v l r m 0 e
 |none {dC:List Int} (h:Dp v l r m dC 0) (h1:∀i<dC.length,gi dC i=1):Uw v l r m 0 3
 |ok {dC:List Int} {i:Nat} (h:Dp v l r m dC 0) (hi:i<dC.length) (h1:gi dC i≠1) (h2:∀j<i,gi dC j=1):Uw v l r m (i:Int) 0
theorem Mw{v:Srv}{r:List Lg}{x:Wit}{n:Int}(h:Ro v l r m x e)(g:Uw v l r m n f):e=f∧x.leg=n:=by
 cases h with
 |bad h he=>cases g with
  |bad g=>exact ⟨(h.uniq g).2,rfl⟩
  |none g=>exact (he (h.uniq g).2).elim
  |ok g=>exact (he (h.uniq g).2).elim
 |none h h1=>cases g with
  |bad g ge=>exact (ge (g.uniq h).2).elim
  |none=>exact ⟨rfl,rfl⟩
  |ok g hi h2=>obtain ⟨rfl,_⟩:=h.uniq g;exact (h2 (h1 _ hi)).elim
 | @ok _ _ _ i h hi h1 h2 hl=>cases g with
  |bad g ge=>exact (ge (g.uniq h).2).elim
  |none g g1=>obtain ⟨rfl,_⟩:=h.uniq g;exact (h1 (g1 _ hi)).elim
  | @ok _ j g gi' g1 g2=>
   obtain ⟨rfl,_⟩:=h.uniq g;refine ⟨rfl,?_⟩;rw [hl]
   rcases Nat.lt_trichotomy i j with q|q|q
   all_goals first|omega|exact (h1 (g2 _ q)).elim|exact (g1 (h2 _ q)).elim
theorem Mv{v:Srv}{r:List Lg}{x:Wit}(h:Ro v l r m x e)(he:e≠0):x=⟨0,0,0,[]⟩:=by
 cases h with
 |bad=>rfl
 |none=>rfl
 |ok=>exact (he rfl).elim
theorem PQ{v:Srv}{r:List Lg}{x:Wit}(h:Ro v l r m x 0)(g:Md v l r m x f):f=0:=by
 generalize h0:(0:Int)=e0 at h
 cases h with
 |bad _ he=>exact (he h0.symm).elim
 |none=>omega
 |ok _ _ _ _ _ hB hw=>cases g with
  |bad g ge=>exact (ge (g.uniq hB).2).elim
  |no g g1=>obtain ⟨rfl,_⟩:=hB.uniq g;exact (g1 hw).elim
  |ok=>rfl
set_option maxHeartbeats 4000000 in
theorem Af{w:World}{s:Srv}{r:List Lg}{a b c d:Value}(hs:St H w σ)(g:SvM H s a b c d)(gl:LnM H l vt vs)(kh:RLg H fX r):
  aaR 61 [svA s a b c d,lnA l vt vs,.agg #[fX],.agg #[I m.lo,I m.hi]] w fun u w'=>∃H1 vh x e,HLe H H1∧u= .tuple #[.agg #[I x.leg,I x.dense,I x.tf,vh],I e]∧RT H1 vh x.rows∧Ro s l r m x e∧St H1 w' σ:=by
 refine Cl.o func61 ntmps61 ag4 ?_;refine .af (.bx hs fun b4 w hs=>?_);refine .bx hs fun b5 w hs=>?_
 refine .bx hs fun b6 w hs=>?_
 refine .bx hs fun b7 w hs=>?_
 refine .o (.alloc hs Y1 rfl fun b8 w hs=>?_);refine .zn zg (.scope (.af (.y hs (zls [_,_,_,_,_,_,_,_] bA aM) (.y hs (zls [_,_,_,_] dc bK) (.y hs (zls [_] ek cI) (.y hs (zls [_,_] bJ aB) (.o (.call call79 rfl (oz (s:=s) (l:=l) (m:=m) hs g gl kh) ?_))))))));rintro _ w ⟨H1,z,ks,e,az,rfl,ho,hB,h0,hs⟩;refine .z zm (.z zex (.z zex (.o (.alloc hs qj rfl fun ny w hs=>?_))));refine .o (.aE (vs:=z.cs) hs rfl rfl eV ?_ (hv:=ho));intro w hs;refine .zn zg (.seq (.af (.z zm (.zn fV (.dK rfl (fun nO=>?_) (fun nO=>?_))))))
 ·refine .af (.z (zbd [_,_,_,_] jP) (.z zm (.o (.aE (vs:=[_,_,_,_]) hs rfl rfl jb fun w hs=>?_))));exact .zn zg (.ret (rT (rS ((Fin.iT [] [] hs fun w hs=>⟨_,results2 results61 (dp (vs:=[_,_,_,_]) hs rfl GI jb) rfl,H1,_,⟨0,0,0,[]⟩,_,az,rfl,RT.nil _,.bad (.bad hB nO) nO,hs.out⟩)))))
 ·refine .skip (nT (.af (.y hs (zls [_,_,_,_,_,_,_,_,_,_,_,_,_,_,_] A9 eV) ?_)));obtain rfl:e=0:=by omega
  refine .o (.call call80 rfl (pD hs (h0 rfl)) ?_);rintro _ w ⟨H2,va,dC,e,bg,rfl,hR,hA,hs⟩;have dq:=az.trans bg;refine .z zm (.z zex (.z zex (.z zg (.zn zg (.seq (.af (.z zm (.zn fV (.dK rfl (fun qP=>?_) (fun qP=>?_))))))))))
  ·refine .af (.z (zbd [_,_,_,_] jP) (.z zm (.o (.aE (vs:=[_,_,_,_]) hs rfl rfl jb fun w hs=>?_))));exact .zn zg (.ret (rT (rS ((Fin.iT [] [] hs fun w hs=>⟨_,results2 results61 (dp (vs:=[_,_,_,_]) hs rfl GI jb) rfl,H2,_,⟨0,0,0,[]⟩,_,dq,rfl,RT.nil _,.bad hA qP,hs.out⟩)))))
  ·refine .skip (nT (.af ?_));obtain rfl:e=0:=by omega
   obtain ⟨s',l',a',b',c',d',t',n',lg',ms',mr'⟩:=z;obtain ⟨rfl,rfl,g',-,xF,y0,En,No,-⟩:=h0 rfl;dsimp only at g' xF y0 En hB hA g;obtain ⟨qA,qy,rfl⟩:=xF.shape;obtain ⟨Df,C9,rfl⟩:=y0.shape;obtain ⟨HP,HK,rfl⟩:=RI.shape En;obtain ⟨aZ,hl,oB,hm,lB,rL⟩:=hB.ok';have hn:=oB.many;have KK:=jW m r r.length;obtain ⟨oX,B4,has⟩:=PB hA hB;obtain ⟨YP,Ym,rfl⟩:=RI.shape hR;replace g:=g.mono dq;replace xF:=RS.mono xF bg;replace y0:=RS.mono y0 bg;replace En:=RS.mono En bg;have pG:=eM aZ.early.1;refine .z (zbd [I (-1),I 0,I 0,.slice none 0 0] jP) (.o (.alloc hs Y1 rfl fun kP w hs=>?_));refine .o (.aE (vs:=[_,_,_,_]) hs rfl rfl jb fun w hs=>?_);refine .nil (.seq (.label (nT (.cut (fun fs w=>∃z:Int,kG fs ⟨128,[],[(13,Pt kP),(10,Pt ny),(8,Pt b8),(4,Pt b4)]⟩∧Rt dC z∧St H2 w (.blk kP [I z,I 0,I 0,.slice none 0 0]:: .blk ny (RtV.cs ⟨s',l',a',b',c',d',t',n',.slice qA r.length qy,.slice Df (msL m r r.length).length C9,.slice HP ks.length HK⟩):: .blk b8 [I 0,I 0,I 0,.slice none 0 0]:: .blk b4 (svC s' a b c d)::σ)) ?_ ?_))))
   ·refine .af (.z zm (.z (de ae) (.zn zm (.for (N:=dC.length) (J:=fun k fr w=>fr=[(13,Pt kP),(42,.slice YP dC.length Ym),(10,Pt ny),(8,Pt b8),(4,Pt b4)]∧(∀j<k,gi dC j=1)∧St H2 w (.blk kP [I (-1),I 0,I 0,.slice none 0 0]:: .blk ny (RtV.cs ⟨s',l',a',b',c',d',t',n',.slice qA r.length qy,.slice Df (msL m r r.length).length C9,.slice HP ks.length HK⟩):: .blk b8 [I 0,I 0,I 0,.slice none 0 0]:: .blk b4 (svC s' a b c d)::σ)) ai ?_ ?_ ?_))))
    ·exact .mk ⟨rfl,fun j hj=>by omega,hs.sb⟩
    ·rintro k fr w hk ⟨rfl,lE,hs⟩;refine .block (.af (.z zm (.ixY hs hR rfl rfl ae an (bu (l:=dC) (i:=k) ai) cK ?_)));intro Rf o47 lC;refine .q hs (aC rfl aj lC) (.z zg (.zn zg (.af (.z zm (.zn fV (.dK rfl (fun Ew=>?_) (fun Ew=>?_)))))))
     ·refine .af (.z zm (.z (zfa cN) (.o (.store hs rfl rfl an fun w hs=>?_))));exact .nil (.exit (xN (xT (xB (nT ⟨(k:Int),aH,.inr ⟨k,rfl,ai,Ew,lE⟩,hs.sb⟩)))))
     ·refine .skip (nB (nT ?_));exact .mk ⟨rfl,fun j hj=>by
       by_cases e:j=k
       ·subst e;omega
       ·exact lE j ai,hs.sb⟩
    ·rintro fr w ⟨rfl,lE,hs⟩;exact nT ⟨-1,aH,.inl ⟨rfl,lE⟩,hs.sb⟩
   ·clear hs;rintro fs w ⟨z,fM,hF,hs⟩;refine WE.sub ?_ fM;clear fM;refine .seq (.af (.z (zfa cN) (.y hs (zld aj) (.zn fN (.bh rfl (fun KX=>?_) (fun KX=>?_))))))
    ·refine .af (.z (zbd [_,_,_,_] jP) (.o (.aE (vs:=[_,_,_,_]) hs rfl rfl jb fun w hs=>?_)));exact .zn zg (.ret (rT (rS ((Fin.iT [] [] hs fun w hs=>⟨_,results2 results61 (dp (vs:=[_,_,_,_]) hs rfl GI jb) rfl,H2,_,⟨0,0,0,[]⟩,_,dq,rfl,RT.nil _,.none hA (by rcases hF with h|⟨i,rfl,_⟩;exact h.2;omega),hs.out⟩)))))
    ·refine .skip (nT (.af ?_));obtain ⟨i,rfl,pI,eE,lE⟩:=hF.resolve_left fun h=>by omega
     have fb:i<r.length:=by omega
     obtain ⟨q,hq,Hh⟩:=hB.mark fb;have sV:=kC (l:=r) fb;have yw:=wS m r (k:=r.length) (i:=i) ai;have Bm:=(oB.leg i fb).1.dense;unfold gw at Bm;have V3:=aZ.early.1.wa.two;have ZE:0<max q 1∧max q 1<s'.sp.wa.length:=by omega
     have SN:=CB (v:=s') ZE.1 ZE.2;have U5:max (q:Int) 1=((max q 1:Nat):Int):=by omega
     refine .z (zfa iM) (.y hs (zld aq) (.z (zfa cN) (.y hs (zld aj) (.ixX (enc:=fun x=>[I x]) hs En rfl rfl ae an (bu (l:=ks) (i:=i) ai) rfl ?_))));intro Pw o62 CW;replace CW:=bD.one CW;rw [hq] at CW;refine .y hs (zld aj) (.zn zg (.cut (fun fs w=>∃(H3:cu) (ah:Option Addr) (ch:Nat) (y:List Int) (AL:Nat),kG fs ⟨128,[],[(17,Pt AL),(16,I (q:Int)),(11,I 0),(13,Pt kP),(10,Pt ny),(8,Pt b8),(4,Pt b4)]⟩∧HLe H2 H3∧RT H3 (.slice ah (ka s'.sp y s'.sp.st.length).length ch) (ka s'.sp y s'.sp.st.length)∧E2 s'.sys (Bt (s'.w ⟨1,0,(max q 1:Nat)⟩) false) y∧St H3 w (.blk AL [.slice ah (ka s'.sp y s'.sp.st.length).length ch]:: .blk kP [I (i:Int),I 0,I 0,.slice none 0 0]:: .blk ny (RtV.cs ⟨s',l',a',b',c',d',t',n',.slice qA r.length qy,.slice Df (msL m r r.length).length C9,.slice HP ks.length HK⟩):: .blk b8 [I 0,I 0,I 0,.slice none 0 0]:: .blk b4 (svC s' a b c d)::σ)) ?_ ?_))
     ·refine .draw mix rfl hs fun w hs=>?_
      refine .ys 0 rfl hs [_,_,_,_,_,_,_,_] bA aM ?_;refine .z 1 rfl zm ?_;refine .z 2 rfl DK ?_;refine .e2 (i:=3) (j:=8) aA rfl rfl rfl rfl .none .none hs ?_ ?_
      ·rw [U5];refine .call call98 rfl (jr hs) ?_;rintro _ w ⟨rfl,hs⟩;refine .go (.e2 (i:=4) (j:=8) aA rfl rfl rfl rfl .none .none hs ?_ ?_)
       ·refine .call call63 rfl (kz (s:=s') (q:=⟨1,0,(max q 1:Nat)⟩) (high:=false) hs g.st g.wa g.rd g.cm) ?_;rintro _ w ⟨H3,vh,rows,e,bZ,rfl,yG,QS,-,Po,hs⟩;obtain rfl:e=0:=by
         cases QS with
         |bad h he=>exact (he (h.dX.2 aZ)).elim
         |what _ h=>exact (h SN).elim
         |fls _ _ h=>exact (h oX).elim
         |ok=>rfl
        obtain ⟨y,Pk,rfl⟩:=Po rfl;obtain ⟨ah,ch,rfl⟩:=yG.shape;refine .go (.zw 5 rfl zm ?_);refine .z 6 rfl zex ?_;refine .z 7 rfl zex ?_;refine .E 8 hs ?_;refine .alloc hs AW rfl ?_;intro AL w hs;refine .go (.E 9 hs ?_);refine .aE (vs:=[_]) hs rfl rfl ea ?_;intro w hs;refine .go (.zw 10 rfl zg ?_);refine .D hs ?_;exact nT ⟨H3,ah,ch,y,AL,aH,bZ,yG,Pk,hs.sb⟩
       ·refine .alloc hs AW rfl ?_;intro AL w hs;refine .go (.E 4 hs ?_);refine .call call63 rfl (kz (s:=s') (q:=⟨1,0,(max q 1:Nat)⟩) (high:=false) hs g.st g.wa g.rd g.cm) ?_;rintro _ w ⟨H3,vh,rows,e,bZ,rfl,yG,QS,-,Po,hs⟩;obtain rfl:e=0:=by
         cases QS with
         |bad h he=>exact (he (h.dX.2 aZ)).elim
         |what _ h=>exact (h SN).elim
         |fls _ _ h=>exact (h oX).elim
         |ok=>rfl
        obtain ⟨y,Pk,rfl⟩:=Po rfl;obtain ⟨ah,ch,rfl⟩:=yG.shape;refine .go (.zw 5 rfl zm ?_);refine .z 6 rfl zex ?_;refine .z 7 rfl zex ?_;refine .E 9 hs ?_;refine .aE (vs:=[_]) hs rfl rfl ea ?_;intro w hs;refine .go (.zw 10 rfl zg ?_);refine .D hs ?_;exact nT ⟨H3,ah,ch,y,AL,aH,bZ,yG,Pk,hs.sb⟩
      ·refine .alloc hs AW rfl ?_;intro AL w hs;refine .go (.E 3 hs ?_);rw [U5];refine .call call98 rfl (jr hs) ?_;rintro _ w ⟨rfl,hs⟩;refine .go (.E 4 hs ?_);refine .call call63 rfl (kz (s:=s') (q:=⟨1,0,(max q 1:Nat)⟩) (high:=false) hs g.st g.wa g.rd g.cm) ?_;rintro _ w ⟨H3,vh,rows,e,bZ,rfl,yG,QS,-,Po,hs⟩;obtain rfl:e=0:=by
        cases QS with
        |bad h he=>exact (he (h.dX.2 aZ)).elim
        |what _ h=>exact (h SN).elim
        |fls _ _ h=>exact (h oX).elim
        |ok=>rfl
       obtain ⟨y,Pk,rfl⟩:=Po rfl;obtain ⟨ah,ch,rfl⟩:=yG.shape;refine .go (.zw 5 rfl zm ?_);refine .z 6 rfl zex ?_;refine .z 7 rfl zex ?_;refine .E 9 hs ?_;refine .aE (vs:=[_]) hs rfl rfl ea ?_;intro w hs;refine .go (.zw 10 rfl zg ?_);refine .D hs ?_;exact nT ⟨H3,ah,ch,y,AL,aH,bZ,yG,Pk,hs.sb⟩
     ·rintro fs w ⟨H3,ah,ch,y,AL,fM,bZ,yG,Pk,hs⟩;refine WE.sub ?_ fM;clear fM;have ee:=dq.trans bZ;replace g:=g.mono bZ;replace xF:=RS.mono xF bZ;replace y0:=RS.mono y0 bZ;refine .seq (.af (.z zm (.z fV ?_)));rw [decide_eq_true rfl];refine .nil (.cF (.skip (nT (.seq (.draw mix rfl hs fun w hs=>?_)))));refine .ys 0 rfl hs [_] jo ea ?_;refine .z 1 rfl (zfa lk) ?_;refine .y 2 rfl hs isAgg80 ?_;refine .z 3 rfl (zfa cN) ?_;refine .y 4 rfl hs aj ?_;refine .ixX (enc:=Rng.c) (i:=5) hs rfl aA .none y0 rfl rfl eD aB yw rfl ?_;intro b81 o81 Tq;refine .zw 6 rfl (zfa bI) (.r (i:=7) hs rfl aA .none (aC rfl aj (Tq.get 1 rfl)) ?_);refine .zw 8 rfl (zfa gM) ?_;refine .y 9 rfl hs dH ?_;refine .z 10 rfl (zfa cN) ?_;refine .y 11 rfl hs aj ?_;refine .ixX (enc:=Lg.c) (i:=12) hs rfl aA .none xF rfl rfl aF bw sV rfl ?_;intro aaI o88 tS;refine .zw 13 rfl (zfa ep) ?_;refine .z 14 rfl (zfa bp) ?_;refine .r (i:=15) hs rfl aA .none (aC rfl aj (tS.get 3 rfl)) ?_;refine .zw 16 rfl (zfa gV) (.E 17 hs ?_);refine .aE (vs:=[_]) hs rfl rfl ea ?_;intro w hs;refine .go (.zw 18 rfl (zfa gW) (.E 19 hs ?_));refine .store hs rfl rfl an ?_;intro w hs;refine .go (.zw 20 rfl (zfa ff) (.E 21 hs ?_));refine .store hs rfl rfl an ?_;intro w hs;refine .go (.D hs (.seq (.af ?_)));change St _ _ (_:: .blk kP [I (i:Int),I (lg0 r i).dlo,I (kg m r i).hi,.slice ah (ka s'.sp y s'.sp.st.length).length ch]::_) at hs;refine .y hs (zls [_,_,_,_,_,_,_,_] bA aM) (.z zm (.o (.call call122 rfl (qt (s:=s') (k:=q) hs g aZ) ?_)));rintro _ w ⟨H4,la,lb,e,eH,rfl,hL,hs⟩;obtain rfl:e=0:=(hL.err aZ Hh).elim (fun h=>h.1) (fun h=>(h.2.1 oX).elim);have hb:=hL.bd;have js:=ee.trans eH;replace xF:=RS.mono xF eH;refine .z zm (.z zex (.z zex (.o (.alloc hs cZ rfl fun xO w hs=>?_))));refine .o (.aE (vs:=[_,_]) hs rfl rfl aB fun w hs=>?_);refine .zn zg (.seq (.draw mix rfl hs fun w hs=>?_));refine .zw 0 rfl (zfa bp) ?_;refine .y 1 rfl hs aj ?_;refine .z 2 rfl (zfa ff) ?_;refine .y 3 rfl hs aj ?_;refine .z 5 rfl (zfa bp) ?_;refine .y 6 rfl hs aj ?_;refine .z 7 rfl (zfa gM) ?_;refine .y 8 rfl hs dH ?_;refine .z 9 rfl (zfa cN) ?_;refine .y 10 rfl hs aj ?_;refine .ixX (enc:=Lg.c) (i:=11) hs rfl aA .none xF rfl rfl aF bw sV rfl ?_;intro Uu o112 As;refine .zw 12 rfl (zfa ep) ?_;refine .z 13 rfl (zfa bI) ?_;refine .r (i:=14) hs rfl aA .none (aC rfl aj (As.get 4 rfl)) ?_;refine .E 4 hs ?_;refine .call call99 rfl (fZ hs ai ai) ?_;rintro _ w ⟨rfl,hs⟩;refine .go (.E 15 hs ?_);refine .call call99 rfl (fZ hs ai ai) ?_;rintro _ w ⟨rfl,hs⟩;refine .go (.zw 16 rfl kU ?_);refine .D hs ?_;refine (.bh rfl (fun Hm=>?_) (fun Hm=>?_))
      ·refine .region (.z (zfa gM) (.y hs (zld dH) (.z (zfa cN) (.y hs (zld aj) (.ixX (enc:=Lg.c) hs xF rfl rfl aF bw sV rfl ?_)))));intro YG o122 O9;refine .z (zfa ep) (.z (zfa bI) (.q hs (aC rfl aj (O9.get 4 rfl)) (.z (zfa ff) (.o (.store hs rfl rfl an fun w hs=>?_)))));refine .nil (nT (.af (.y hs (zls [_,_,_,_] GI jb) (.o (.aE (vs:=[_,_,_,_]) hs rfl rfl jb fun w hs=>?_)))));exact .zn zg (.ret (rS ((Fin.iT [] [] hs fun w hs=>⟨_,results2 results61 (dp (vs:=[_,_,_,_]) hs rfl GI jb) rfl,H4,_,⟨(i:Int),(lg0 r i).dhi,(kg m r i).hi,ka s'.sp y s'.sp.st.length⟩,_,js,rfl,yG.mono eH,.ok hA pI eE lE rfl hB (Ox hA hB fb eE hq Pk hL (.inr ⟨rfl,ai⟩)),hs.out⟩))))
      ·refine .skip (nT (.af (.y hs (zls [_,_,_,_] GI jb) (.o (.aE (vs:=[_,_,_,_]) hs rfl rfl jb fun w hs=>?_)))));exact .zn zg (.ret (rS ((Fin.iT [] [] hs fun w hs=>⟨_,results2 results61 (dp (vs:=[_,_,_,_]) hs rfl GI jb) rfl,H4,_,⟨(i:Int),(lg0 r i).dlo,(kg m r i).hi,ka s'.sp y s'.sp.st.length⟩,_,js,rfl,yG.mono eH,.ok hA pI eE lE rfl hB (Ox hA hB fb eE hq Pk hL (.inl ⟨rfl,ai⟩)),hs.out⟩))))
theorem tF{w:World}{s:Srv}{r:List Lg}{a b c d:Value}(hs:St H w σ)(g:SvM H s a b c d)(gl:LnM H l vt vs)(kh:RLg H fX r):
  aaR 62 [svA s a b c d,lnA l vt vs,.agg #[fX],.agg #[I m.lo,I m.hi]] w fun u w'=>∃H1 n e,HLe H H1∧u= .tuple #[I n,I e]∧Uw s l r m n e∧St H1 w' σ:=by
 refine Cl.o func62 ntmps62 ag4 ?_;refine .af (.bx hs fun b4 w hs=>?_);refine .bx hs fun b5 w hs=>?_
 refine .bx hs fun b6 w hs=>?_
 refine .bx hs fun b7 w hs=>?_
 refine .z zg (.zn zg (.af (.y hs (zls [_,_,_,_,_,_,_,_] bA aM) (.y hs (zls [_,_,_,_] dc bK) (.y hs (zls [_] ek cI) (.y hs (zls [_,_] bJ aB) (.o (.call call25 rfl (uJ (s:=s) (l:=l) (r:=r) (m:=m) hs g gl kh) ?_))))))));rintro _ w ⟨H1,v,dC,e,az,rfl,hR,hA,hs⟩;obtain ⟨YP,Ym,rfl⟩:=RI.shape hR;have wq:=(RI.len hR).2.2;refine .z zm (.z zex (.z zex (.z zg (.zn zg (.seq (.af (.z zm (.zn fV (.dK rfl (fun jm=>?_) (fun jm=>?_))))))))))
 ·exact .af (.z zm (.z zg (.zn zg (.ret (rT (Fin.gU results62 rfl rfl ⟨H1,_,_,az,rfl,.bad hA jm,hs.out⟩))))))
 ·refine .skip (nT (.seq (.af (.zn zg (.block ?_)))));obtain rfl:e=0:=by omega
  refine .loop (fun k:Nat=>⟨36,[],[(12,I (k:Int)),(10,.slice YP dC.length Ym)]⟩)
   (fun k w=>k≤dC.length∧(∀i<k,gi dC i=1)∧St H1 w σ) (fun k=>dC.length - k) 0 aH
   ⟨Nat.zero_le _,fun i hi=>by omega,hs.sb⟩ ?_
  rintro k w ⟨hk,eE,hs⟩;refine .seq (.af (.z zm (.z zm (.z (de ae) (.zn fN (.bh rfl (fun qQ=>?_) (fun qQ=>?_)))))))
  ·refine .skip (nT (.seq (.block (.af ?_))));have lB:k<dC.length:=by omega
   refine .z zm (.z zm (.ixY hs hR rfl rfl ae an (bu (l:=dC) (i:=k) ai) cK ?_));intro b32 o32 sY;refine .q hs (aC rfl aj sY) (.zn fV (.dK rfl (fun jx=>?_) (fun jx=>?_)))
   ·exact .af (.z zm (.z zg (.zn zg (.ret (rB (rT (rT (rB (rT (Fin.gU results62 rfl rfl ⟨H1,_,_,az,rfl,.ok hA lB jx eE,hs.out⟩))))))))))
   ·refine .skip (nB (nT (.region (.z zm (.z cH (.zn zg (nT ?_)))))));exact ⟨k+1,.cD rfl bH aH,⟨ai,fun i hi=>by
     by_cases e:i=k
     ·subst e;omega
     ·exact eE i ai,hs⟩,ai⟩
  ·exact .exit (xT (xT (xB (nT (.af (.z zg (.zn zg (.ret (Fin.gU results62 rfl rfl ⟨H1,_,_,az,rfl,.none hA (fun i hi=>eE i ai),hs.out⟩)))))))))
set_option maxHeartbeats 2000000 in
theorem vi{W:World}{x:Of}{vn vg:Value}(hs:St H W [])(hx:I8 H x vs v5 v4 vp vn vg):
  aaR 13 [x.agg vs v5 v4 vp vn vg] W fun v w'=>v= .bool true∧∃H',HLe H H'∧St H' w' []:=by
 refine Cl.o func13 ntmps13 ag1 ?_;refine .af (.bx hs fun b1 w hs=>?_);refine .zn zg (.af (.o (.call call18 rfl (Ah hs) ?_)));rintro _ w ⟨rfl,H1,az,hs⟩;replace hx:=hx.mono az;refine .zn zg (.af (.y hs (zls [_,_,_,_,_,_,_,_,_,_,_,_,_,_] isAgg44 sizeOf44) (.o (.call call23 rfl (wL hs hx.sp hx.rs hx.cs hx.pk hx.ln hx.lg) ?_))));rintro _ w ⟨H2,s,a,b,c,d,l,vt,vsn,r,vl,bg,rfl,g,gl,kh,-,hs⟩;have dq:=az.trans bg;obtain ⟨aa,ca,rfl⟩:=RI.shape g.st;obtain ⟨ab,cb,rfl⟩:=RI.shape g.wa;obtain ⟨ac,cc,rfl⟩:=RRd.shape g.rd;obtain ⟨ad,cd,rfl⟩:=RCm.shape g.cm;obtain ⟨at_,ct,rfl⟩:=gl.tb.shape;obtain ⟨dC,cs,rfl⟩:=gl.sn.shape;obtain ⟨ar,cr,rfl⟩:=kh.shape;refine .z zm (.z zex (.z zex (.z zex (.o (.alloc hs iQ rfl fun b4 w hs=>?_)))));refine .o (.alloc hs oU rfl fun b5 w hs=>?_);refine .o (.alloc hs s9 rfl fun b6 w hs=>?_);refine .o (.aE (vs:=[_,_,_,_,_,_,_,_]) hs rfl rfl aM fun w hs=>?_);refine .o (.aE (vs:=[_,_,_,_]) hs rfl rfl bK fun w hs=>?_);refine .o (.aE (vs:=[_]) hs rfl rfl cI fun w hs=>?_);refine .nil (.af (.y hs (zls [_,_,_,_,_,_,_,_] bA aM) (.y hs (zls [_,_,_,_] dc bK) (.y hs (zls [_] ek cI) (.z (zfa jI) (.y hs (zls [_,_] bJ aB) (.o (.call call61 rfl (Af (s:=s) (l:=l) (r:=r) (m:=x.tf) hs g gl kh) ?_))))))));rintro _ w ⟨H3,vh,y,e,bZ,rfl,gh,XP,hs⟩;obtain ⟨ah,ch,rfl⟩:=gh.shape;replace g:=g.mono bZ;replace gl:=gl.mono bZ;replace kh:=kh.mono bZ;refine .z zm (.z zex (.z zex (.o (.alloc hs Y1 rfl fun b7 w hs=>?_))));refine .o (.aE (vs:=[_,_,_,_]) hs rfl rfl jb fun w hs=>?_);refine .zn zg (.af (.y hs (zls [_,_,_,_,_,_,_,_] bA aM) (.y hs (zls [_,_,_,_] dc bK) (.y hs (zls [_] ek cI) (.z (zfa jI) (.y hs (zls [_,_] bJ aB) (.o (.call call62 rfl (tF (s:=s) (l:=l) (r:=r) (m:=x.tf) hs g gl kh) ?_))))))));rintro _ w ⟨H4,n,f,eH,rfl,hSl,hs⟩;obtain ⟨rfl,IJ⟩:=Mw XP hSl;replace g:=g.mono eH;replace gl:=gl.mono eH;replace kh:=kh.mono eH;replace gh:=gh.mono eH;have js:=dq.trans (bZ.trans eH);refine .z zm (.z zex (.z zex (.z zg (.zn zg (.seq (.af (.z zm (.z fU (.z zm (.T (.z zm (.T (.z zm (.T (.z fV ?_)))))))))))))));rw [decide_eq_true rfl];refine .zn zpF (.cF (.skip (nT (.seq (.af (.z zm (.zn fV (.dK rfl (fun vC=>?_) (fun vC=>?_)))))))))
 ·refine .af ?_;obtain rfl:=Mv XP di;dsimp only [List.length_nil] at hs;refine .z (zfa cN) (.y hs (zld aj) (.z fy ?_));rw [decide_eq_true rfl];refine .z zm (.T (.z (zfa ff) (.T (.y hs (zld aj) (.T (.z fy ?_))))));rw [decide_eq_true rfl];refine .z zpT (.z zm (.T (.z (zfa gW) (.T (.y hs (zld aj) (.T (.z fy ?_)))))));rw [decide_eq_true rfl];refine .z zpT (.z zm (.T (.z (zfa gV) (.T (.z (zfa dW) (.T (.y hs (zld kI) (.T (.z (de au) (.T (.z fy ?_)))))))))));rw [decide_eq_true (show ((0:Nat):Int)=0 from rfl)];exact .z zpT (.zn zg (.ret (rT (Fin.bj results13 rfl ⟨rfl,H4,js,hs.out⟩))))
 ·refine .skip (nT (.af ?_));obtain rfl:e=0:=by omega
  refine .z (zfa cN) (.y hs (zld aj) (.z zm (.z fy ?_)));rw [decide_eq_true IJ];refine .z zm (.T ?_);refine .y hs (zls [_,_,_,_,_,_,_,_] bA aM) (.T (.y hs (zls [_,_,_,_] dc bK) (.T (.y hs (zls [_] ek cI) (.T (.z (zfa jI) (.T (.y hs (zls [_,_] bJ aB) (.T (.y hs (zls [_,_,_,_] GI jb) (.T (.o (.call call33 rfl (rn (s:=s) (l:=l) (r:=r) (m:=x.tf) (x:=y) hs g gl kh gh) ?_)))))))))))));rintro _ w ⟨H5,e5,kD,rfl,h5,hs⟩;obtain rfl:=PQ XP h5;refine .T (.z fy ?_);rw [decide_eq_true rfl];exact .z zpT (.zn zg (.ret (Fin.bj results13 rfl ⟨rfl,H5,js.trans kD,hs.out⟩)))
end Go.Proofs.YteajddicacjkhaaGreat
