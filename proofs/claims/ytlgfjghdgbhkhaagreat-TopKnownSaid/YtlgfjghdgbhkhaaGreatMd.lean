/-
  Texts of these claims, joined: Zi Zj Zk Zl Zm Zn Zo Zp Zr Zx Zy Zz Na Nf Ng Ni Nj Nq Nv Od Ua Ub Uc Ud Ue Uf Ug Uh Sa Sc Sb Sd Se Sf.
-/
import Derived.Test.YtlgfjghdgbhkhaaGreatMc
namespace Go.Proofs.YtlgfjghdgbhkhaaGreat
open Go.MW Tryz
variable{H:bC}{σ:List Ent}{a0 a1 a2 m most a hi lo z1 z2 z3 known fl id number day:Int}{ls:List Lim}{g cap b k b1 bf bt bl cl i bm bc bn:Nat}{s:Spc}{xs lf ws l x X Y sl pk days:List Int}{en:Ent}{ts:List TD}{vl vt vd vp vw vx v1 v2 vr vc d vh vs v5 v4 b' tap dn b2 c2 d2:Value}{sp:List Value}{t:TD}{rows:List (List Int)}{fL:List F5}{fV:List F4}{th:Bool}
theorem fA{w:World}(hs:St H w σ):TN 155 [I a0,I a1,I a2] w fun v w'=>v= .bool (decide (a1≤a0∧a0≤a2))∧St H w' σ:=by
 refine Cl.o func155 ntmps155 ag3 ?_;refine .af (.zn zg (.af (.z zm (.z zm (.z Bq (.z zm (.lI (t':=10) rfl (fun m6=>?_) (fun m6=>?_))))))))
 ·exact .T (.z zm (.T (.z zm (.T (.z pE (.z zpT (.zn zg (.ret (Fin.bw results155 rfl ⟨by simp [*],hs.out⟩)))))))))
 ·exact .Fs 3 3 true (.z zpF (.zn zg (.ret (Fin.bw results155 rfl ⟨by simp [*],hs.out⟩))))
theorem Kf(h:fm s):gl 9 100000 s.wa:=⟨h.wa.two,by have:=h.wa.many;omega,h.wa.low,by have:=h.wa.high;omega,h.wa.rise⟩
theorem lM{w:World}{r:Rdg}{vst vwa:Value}(hs:St H w σ)(h1:RI H vst s.st)(h2:RI H vwa s.wa):
  TN 83 [.agg #[I s.id,I s.src,vst,vwa,I s.al,I s.up],.agg #[I r.src,I r.st,I r.wa,I r.val,I r.tol,I r.tape,I r.day]] w fun v w'=>∃b:Bool,v= .bool b∧(b=true↔j5 s r)∧St H w' σ:=by
 obtain ⟨ast,cst,rfl⟩:=RI.shape h1;obtain ⟨awa,cwa,rfl⟩:=RI.shape h2;have l1:=(RI.len h1).2.2;have l2:=(RI.len h2).2.2;refine Cl.o func83 ntmps83 ag2 ?_;refine .af (.bx hs fun b2 w hs=>?_);refine .bx hs fun b3 w hs=>?_
 refine .zn zg (.af (.z (zfa dW) (.y hs (zld ai) (.o (.call SE rfl (fA hs) ?_)))));rintro _ w ⟨rfl,hs⟩;refine .z zm (.bif (t':=8) rfl (fun JF=>?_) (fun JF=>?_))
 ·refine .T ?_;refine .z (zfa eJ) (.T (.y hs (zld ai) (.T (.z (zfa a8) (.T (.y hs (zld an) (.T (.z (cH ae) (.T (.z jc (.T (.o (.call SE rfl (fA hs) ?_)))))))))))));rintro _ w ⟨rfl,hs⟩;refine .z zpT (.z zm (.bif (t':=17) rfl (fun FC=>?_) (fun FC=>?_)))
  ·refine .T ?_;refine .z (zfa eI) (.T (.y hs (zld ai) (.T (.z (zfa aR) (.T (.y hs (zld an) (.T (.z (cH ae) (.T (.z jc (.T (.o (.call SE rfl (fA hs) ?_)))))))))))));rintro _ w ⟨rfl,hs⟩;refine .z zpT (.z zm (.bif (t':=26) rfl (fun A5=>?_) (fun A5=>?_)))
   ·refine .T (.z (zfa bY) (.T (.y hs (zld ai) (.T (.o (.call SE rfl (fA hs) ?_))))));rintro _ w ⟨rfl,hs⟩;refine .z zpT (.z zm (.bif (t':=31) rfl (fun A4=>?_) (fun A4=>?_)))
    ·refine .T (.z (zfa dC) (.T (.y hs (zld ai) (.T (.z (zfa bY) (.T (.y hs (zld ai) (.T ?_))))))));have ht:0≤r.tol∧r.tol≤1000:=by simp_all
     refine .z jc (.T (.o (.call SE rfl (fA hs) ?_)));rintro _ w ⟨rfl,hs⟩;refine .z zpT (.z zm (.bif (t':=39) rfl (fun K7=>?_) (fun K7=>?_)))
     ·refine .T (.z (zfa dB) (.T (.y hs (zld ai) (.T (.o (.call SE rfl (fA hs) ?_))))));rintro _ w ⟨rfl,hs⟩;refine .z zpT (.z zm (.bif (t':=44) rfl (fun De=>?_) (fun De=>?_)))
      ·refine .T (.z (zfa dk) (.T (.y hs (zld ai) (.T (.o (.call SE rfl (fA hs) ?_))))));rintro _ w ⟨rfl,hs⟩;refine .z zpT (.zn zg (.ret (Fin.bw DI rfl ?_)));first
       |exact ⟨false,rfl,⟨fun h=>(by cases h),fun h=>(by obtain ⟨g1,g2,g3,g4,g5,g6,g7⟩:=h;simp_all;done)⟩,hs.out⟩
       |exact ⟨_,rfl,⟨fun h=>⟨by simp_all,by simp_all,by simp_all,by simp_all,by simp_all,by simp_all,by simpa using h⟩,fun h=>by simpa using h.day⟩,hs.out⟩
      ·refine .Fs 3 39 true (.z zpF (.zn zg (.ret (Fin.bw DI rfl ?_))));first
       |exact ⟨false,rfl,⟨fun h=>(by cases h),fun h=>(by obtain ⟨g1,g2,g3,g4,g5,g6,g7⟩:=h;simp_all;done)⟩,hs.out⟩
       |exact ⟨_,rfl,⟨fun h=>⟨by simp_all,by simp_all,by simp_all,by simp_all,by simp_all,by simp_all,by simpa using h⟩,fun h=>by simpa using h.day⟩,hs.out⟩
     ·refine .Fs 3 34 true (.z zpF (.z zm (.Fs 3 39 true (.z zpF (.zn zg (.ret (Fin.bw DI rfl ?_)))))));first
      |exact ⟨false,rfl,⟨fun h=>(by cases h),fun h=>(by obtain ⟨g1,g2,g3,g4,g5,g6,g7⟩:=h;simp_all;done)⟩,hs.out⟩
      |exact ⟨_,rfl,⟨fun h=>⟨by simp_all,by simp_all,by simp_all,by simp_all,by simp_all,by simp_all,by simpa using h⟩,fun h=>by simpa using h.day⟩,hs.out⟩
    ·refine .Fs 6 26 true (.z zpF (.z zm (.Fs 3 34 true (.z zpF (.z zm (.Fs 3 39 true (.z zpF (.zn zg (.ret (Fin.bw DI rfl ?_))))))))));first
     |exact ⟨false,rfl,⟨fun h=>(by cases h),fun h=>(by obtain ⟨g1,g2,g3,g4,g5,g6,g7⟩:=h;simp_all;done)⟩,hs.out⟩
     |exact ⟨_,rfl,⟨fun h=>⟨by simp_all,by simp_all,by simp_all,by simp_all,by simp_all,by simp_all,by simpa using h⟩,fun h=>by simpa using h.day⟩,hs.out⟩
   ·refine .Fs 3 21 true (.z zpF (.z zm (.Fs 6 26 true (.z zpF (.z zm (.Fs 3 34 true (.z zpF (.z zm (.Fs 3 39 true (.z zpF (.zn zg (.ret (Fin.bw DI rfl ?_)))))))))))));first
    |exact ⟨false,rfl,⟨fun h=>(by cases h),fun h=>(by obtain ⟨g1,g2,g3,g4,g5,g6,g7⟩:=h;simp_all;done)⟩,hs.out⟩
    |exact ⟨_,rfl,⟨fun h=>⟨by simp_all,by simp_all,by simp_all,by simp_all,by simp_all,by simp_all,by simpa using h⟩,fun h=>by simpa using h.day⟩,hs.out⟩
  ·refine .Fs 7 12 true (.z zpF (.z zm (.Fs 3 21 true (.z zpF (.z zm (.Fs 6 26 true (.z zpF (.z zm (.Fs 3 34 true (.z zpF (.z zm (.Fs 3 39 true (.z zpF (.zn zg (.ret (Fin.bw DI rfl ?_))))))))))))))));first
   |exact ⟨false,rfl,⟨fun h=>(by cases h),fun h=>(by obtain ⟨g1,g2,g3,g4,g5,g6,g7⟩:=h;simp_all;done)⟩,hs.out⟩
   |exact ⟨_,rfl,⟨fun h=>⟨by simp_all,by simp_all,by simp_all,by simp_all,by simp_all,by simp_all,by simpa using h⟩,fun h=>by simpa using h.day⟩,hs.out⟩
 ·refine .Fs 7 3 true (.z zpF (.z zm (.Fs 7 12 true (.z zpF (.z zm (.Fs 3 21 true (.z zpF (.z zm (.Fs 6 26 true (.z zpF (.z zm (.Fs 3 34 true (.z zpF (.z zm (.Fs 3 39 true (.z zpF (.zn zg (.ret (Fin.bw DI rfl ?_)))))))))))))))))));first
  |exact ⟨false,rfl,⟨fun h=>(by cases h),fun h=>(by obtain ⟨g1,g2,g3,g4,g5,g6,g7⟩:=h;simp_all;done)⟩,hs.out⟩
  |exact ⟨_,rfl,⟨fun h=>⟨by simp_all,by simp_all,by simp_all,by simp_all,by simp_all,by simp_all,by simpa using h⟩,fun h=>by simpa using h.day⟩,hs.out⟩
theorem fZ{w:World}{vst vwa:Value}(hs:St H w σ)(h1:RI H vst s.st)(h2:RI H vwa s.wa)(hb:s.st.length≤1000∧s.wa.length≤1000):
  TN 35 [.agg #[I s.id,I s.src,vst,vwa,I s.al,I s.up]] w fun v w'=>v=I (s.many:Int)∧St H w' σ:=by
 obtain ⟨ast,cst,rfl⟩:=RI.shape h1;obtain ⟨awa,cwa,rfl⟩:=RI.shape h2;have hm:=mO (a:=(s.st.length:Int)) (b:=(s.wa.length:Int)) (A:=1000) (B:=1000) aj aj;refine Cl.o func35 ntmps35 ag1 ?_;refine .af (.bx hs fun b1 w hs=>?_);exact .zn zg (.af (.z (zfa a8) (.y hs (zld an) (.z (cH ae) (.z (zfa aR) (.y hs (zld an) (.z (cH ae) (.z mm (.zn zg (.ret (Fin.bw results35 rfl ⟨by unfold Spc.many;rw [Int.natCast_mul],hs.out⟩)))))))))))
theorem dr{w:World}{vst vwa:Value}{b:Int}(hs:St H w σ)(h2:RI H vwa s.wa)(hb:s.wa.length≤1000)(ha: -1000≤a∧a≤1000)(hb': -1000≤b∧b≤1000):
  TN 34 [.agg #[I s.id,I s.src,vst,vwa,I s.al,I s.up],I a,I b] w fun v w'=>v=I (1+a*s.wa.length+b)∧St H w' σ:=by
 obtain ⟨awa,cwa,rfl⟩:=RI.shape h2;have hm:=mO (a:=a) (b:=(s.wa.length:Int)) (A:=1000) (B:=1000) aj aj;refine Cl.o func34 ntmps34 ag3 ?_;refine .af (.bx hs fun b3 w hs=>?_);exact .zn zg (.af (.z zm (.z (zfa aR) (.y hs (zld an) (.z (cH ae) (.z mm (.z cP (.z zm (.z cP (.zn zg (.ret (Fin.bw results34 rfl ⟨rfl,hs.out⟩))))))))))))
theorem lB{w:World}{b:Int}(hs:St H w σ)(ha:0≤a∧a≤100000)(hb:0≤b∧b≤100000):
  TN 267 [I a,I b] w fun v w'=>v=I (jL a b)∧St H w' σ:=by
 have hm:=mO (a:=a) (b:=b) (A:=100000) (B:=100000) aj aj;have h0:=Int.mul_nonneg ha.1 hb.1;have LM:0≤(a*b+999).tdiv 1000:=Int.tdiv_nonneg aj aj;have Jo:(a*b+999).tdiv 1000≤a*b+999:=by rw [Int.tdiv_eq_ediv_of_nonneg aj];omega
 refine Cl.o func267 ntmps267 ag2 ?_;exact .af (.zn zg (.af (.z zm (.z zm (.z mm (.z cP (.q hs (BD rfl rfl aj aj) (.z Gy (.zn zg (.ret (Fin.bw results267 rfl ⟨rfl,hs⟩)))))))))))
theorem kg{w:World}{b s:Int}(hs:St H w σ):
  TN 266 [I a,I b,I m,I s] w fun v w'=>∃b0,v= .slice (some ⟨b0,0,none⟩) 2 2∧St H w' (.blk b0 (fX (two a b m m s))::σ):=by
 refine Cl.o func266 ntmps266 ag4 ?_;refine .af (.zn zg (.af (.z zm (.z zm (.z zm (.z zm (.z (zbd [_,_,_,_] dm) (.z zm (.z zm (.z zm (.z zm (.z (zbd [_,_,_,_] dm) (.o (.buildSlice (cells:=fX (two a b m m s)) hs dU rfl az fun Ch w hs=>?_))))))))))))));exact .zn zg (.ret (Fin.bw results266 rfl ⟨Ch,rfl,hs⟩))
theorem tD{w:World}{c:Cmp}{f:Int}(hs:St H w σ)(Nf: -1000000≤c.lo∧c.lo≤1000000):
  TN 268 [.agg #[I c.src,I c.tape,I c.fr,I c.to,I c.lo,I c.hi],.agg #[I t.tape,I t.day],I f] w fun v w'=>∃en,bG 4 v (fX (kU c t f)) en∧St H w' (en::σ):=by
 refine Cl.o func268 ntmps268 ag3 ?_;refine .af (.bx hs fun b3 w hs=>?_);refine .bx hs fun b4 w hs=>?_
 refine .zn zg (.seq (.af (.z (zfa ik) (.y hs (zld ai) (.z (zfa mi) (.y hs (zld ai) (.z gL (.z zm (.F9 (t':=12) rfl (fun FD=>?_) (fun FD=>?_))))))))))
 ·exact .Fs 5 5 false (.z zpT (.z zm (.Fs 5 12 false (.zn zpT (.cT (.af (.zn zg (.ret (rT (Fin.bw results268 rfl ⟨.nul,by unfold kU;rw [if_neg aj];exact .nil 4 none,hs.tail.tail.nul⟩))))))))))
 ·refine .T (.z (zfa jM) (.T (.y hs (zld ai) (.T (.z (zfa fN) (.T (.y hs (zld ai) (.T (.z iG (.z zpF (.z zm (.lI (t':=19) rfl (fun FB=>?_) (fun FB=>?_)))))))))))))
  ·exact .Fs 5 12 false (.zn zpT (.cT (.af (.zn zg (.ret (rT (Fin.bw results268 rfl ⟨.nul,by unfold kU;rw [if_neg aj];exact .nil 4 none,hs.tail.tail.nul⟩)))))))
  ·refine .T (.z (zfa jM) (.T (.y hs (zld ai) (.T (.z (zfa eL) (.T (.y hs (zld ai) (.T (.z uS (.zn zpF (.cu rfl (fun jx=>?_) (fun jx=>?_))))))))))))
   ·exact .af (.zn zg (.ret (rT (Fin.bw results268 rfl ⟨.nul,by unfold kU;rw [if_neg aj];exact .nil 4 none,hs.tail.tail.nul⟩))))
   ·refine .skip (nT (.af (.z zm (.z (zfa fM) (.y hs (zld ai) (.z I1 (.z (zfa eM) (.y hs (zld ai) (.z (zbd [_,_,_,_] dm) (.z zm (.z (zfa eK) (.y hs (zld ai) (.z (zfa eM) (.y hs (zld ai) (.z (zbd [_,_,_,_] dm) (.o (.buildSlice (cells:=fX (two 0 f (-c.lo) c.hi c.src)) hs dU rfl az fun Pk w hs=>?_)))))))))))))))));exact .zn zg (.ret (Fin.bw results268 rfl ⟨_,by unfold kU;rw [if_pos aj];exact .full (by simp [two,ez]),hs.sb⟩))
theorem jJ{w:World}{v:Value}{xs:List TD}(hs:St H w σ)(hr:RTd H v xs)(hl:xs.length≤1000000):
  TN 36 [v,.agg #[I t.tape,I t.day]] w fun u w'=>u=I (jH xs t)∧St H w' σ:=by
 obtain ⟨a,c,rfl⟩:=RTd.shape hr;refine Cl.o func36 ntmps36 ag2 ?_;refine .af (.bx hs fun b3 w hs=>?_);refine .zn zg (.seq (.af (.zn zg (.block ?_))));refine .loop (fun k:Nat=>⟨19,[],[(5,I (k:Int)),(3,Pt b3),(0,.slice a xs.length c)]⟩)
  (fun k w=>k≤xs.length∧(∀j<k,∀y,xs[j]? =some y→¬y=t)∧St H w (.blk b3 [I t.tape,I t.day]::σ)) (fun k=>xs.length - k) 0 (.dI rfl bj bk)
  ⟨Nat.zero_le _,fun j hj=>by omega,hs⟩ ?_
 rintro k w ⟨hk,iI,hs⟩;refine .seq (.af (.z zm (.z zm (.z (cH br) (.zn iG (.cu rfl (fun pC=>?_) (fun pC=>?_)))))))
 ·refine .skip (nT (.seq (.block (.seq (.draw mix rfl hs fun w hs=>?_)))));refine .zw 0 rfl zm ?_;refine .z 1 rfl zm ?_;obtain ⟨x,hx⟩:=nth (l:=xs) (k:=k) aj;refine .ixX (enc:=TD.c) (i:=2) hs rfl az .none hr rfl rfl br bP hx dG ?_;intro vQ o14 gY;refine .r (i:=3) hs rfl az .none (bE (vs:=x.c) rfl gK bP gY) ?_;refine .zv 4 rfl hs (BK [_,_] gK bP) ?_;refine .z 5 rfl (tM sW sX j7 (fun f hf=>by
   simp only [List.mem_cons,List.not_mem_nil,or_false] at hf
   rcases hf with rfl|rfl<;>exact ⟨by decide,aF,ai⟩) rfl rfl) ?_
  refine .D hs (.cond rfl (fun kq=>?_) (fun kq=>?_))
  ·refine .af (.z zm (.zn zg (.ret (rB (rT (rT (rB (rT (Fin.bw results36 rfl ?_)))))))));have e:x=t:=GK.1 (of_decide_eq_true kq);subst e;exact ⟨by rw [pI hx fun j hj h=>iI j hj _ h rfl],hs.tail⟩
  ·exact .skip (nB (nT (.region (.z zm (.z cP (.zn zg (nT ⟨k+1,.dI rfl bj bk,⟨aj,gq iI hx (fun e=>by subst e;simp at kq),hs⟩,aj⟩)))))))
 ·refine .exit (xT (xT (xB (nT (.af (.zn zg (.ret (Fin.bw results36 rfl ?_))))))));obtain rfl:k=xs.length:=by omega
  exact ⟨by rw [w6 iI],hs.tail⟩
theorem mL{w:World}{v:Value}{xs:List TD}(hs:St H w (en::σ))(hO:bG 2 v (tdc xs).flatten en)(hl:xs.length≤1000000):
  TN 36 [v,.agg #[I t.tape,I t.day]] w fun u w'=>u=I (jH xs t)∧St H w' (en::σ):=by
 obtain ⟨a,c,rfl⟩:=hO.iO (oG xs) aj;rw [dJ] at hO ⊢;refine Cl.o func36 ntmps36 ag2 ?_;refine .af (.bx hs fun b3 w hs=>?_);refine .zn zg (.seq (.af (.zn zg (.block ?_))));refine .loop (fun k:Nat=>⟨19,[],[(5,I (k:Int)),(3,Pt b3),(0,.slice a xs.length c)]⟩)
  (fun k w=>k≤xs.length∧(∀j<k,∀y,xs[j]? =some y→¬y=t)∧St H w (.blk b3 [I t.tape,I t.day]::en::σ)) (fun k=>xs.length - k) 0 (.dI rfl bj bk)
  ⟨Nat.zero_le _,fun j hj=>by omega,hs⟩ ?_
 rintro k w ⟨hk,iI,hs⟩;refine .seq (.af (.z zm (.z zm (.z (cH br) (.zn iG (.cu rfl (fun pC=>?_) (fun pC=>?_)))))))
 ·refine .skip (nT (.seq (.block (.seq (.draw mix rfl hs fun w hs=>?_)))));refine .zw 0 rfl zm ?_;refine .z 1 rfl zm ?_;obtain ⟨x,hx⟩:=nth (l:=xs) (k:=k) aj;obtain ⟨b,c',sp,hv,rfl,_⟩:=hO.L9 (oG xs) aj (by rw [dJ];omega);rw [dJ] at hv;cases hv
  refine .zw 2 rfl (tk br bP) (.vD (i:=3) (vs:=x.c) hs rfl az .none rfl gK bP ?_ (hv:=rV (oG xs) (D4 hx) sp));refine .zv 4 rfl hs (BK [_,_] gK bP) ?_;refine .z 5 rfl (tM sW sX j7 (fun f hf=>by
   simp only [List.mem_cons,List.not_mem_nil,or_false] at hf
   rcases hf with rfl|rfl<;>exact ⟨by decide,aF,ai⟩) rfl rfl) ?_
  refine .D hs (.cond rfl (fun kq=>?_) (fun kq=>?_))
  ·refine .af (.z zm (.zn zg (.ret (rB (rT (rT (rB (rT (Fin.bw results36 rfl ?_)))))))));have e:x=t:=GK.1 (of_decide_eq_true kq);subst e;exact ⟨by rw [pI hx fun j hj h=>iI j hj _ h rfl],hs.tail⟩
  ·exact .skip (nB (nT (.region (.z zm (.z cP (.zn zg (nT ⟨k+1,.dI rfl bj bk,⟨aj,gq iI hx (fun e=>by subst e;simp at kq),hs⟩,aj⟩)))))))
 ·refine .exit (xT (xT (xB (nT (.af (.zn zg (.ret (Fin.bw results36 rfl ?_))))))));obtain rfl:k=xs.length:=by omega
  exact ⟨by rw [w6 iI],hs.tail⟩
set_option maxHeartbeats 1000000 in
theorem ij{w:World}{rs:List Rdg}(hs:St H w σ)(hr:RRd H vr rs)(hl:rs.length≤1000000):
  TN 37 [vr] w fun u w'=>∃H1,HLe H H1∧RTd H1 u (aK rs)∧St H1 w' σ:=by
 obtain ⟨ar,cr,rfl⟩:=RRd.shape hr;refine Cl.o func37 ntmps37 ag1 ?_;refine .af (.zn zg (.af (.zn zg (.seq (.af (.zn zg (.block ?_)))))));refine .loop (fun p:Nat×Value=>⟨32,[],[(4,I (p.1:Int)),(3,p.2),(0,.slice ar rs.length cr)]⟩)
  (fun p w=>p.1≤rs.length∧∃en,bG 2 p.2 (tdc (aK (rs.take p.1))).flatten en∧St H w (en::σ)) (fun p=>rs.length - p.1) (0,.slice none 0 0) bk
  ⟨Nat.zero_le _,_,.nil 2 none,hs.nul⟩ ?_
 rintro ⟨k,vo⟩ w ⟨hk,en,hO,hs⟩;dsimp only at hk hO ⊢;have yx:=kf rs k aj;obtain ⟨ao,co,rfl⟩:=hO.iO (oG _) aj;rw [dJ] at hO ⊢;refine .seq (.af (.z zm (.z zm (.z (cH aO) (.zn iG (.cu rfl (fun pC=>?_) (fun pC=>?_)))))))
 ·refine .skip (nT (.seq (.block (.seq (.draw mix rfl hs fun w hs=>?_)))));refine .zw 0 rfl zm ?_;refine .z 1 rfl zm ?_;obtain ⟨r,hx⟩:=nth (l:=rs) (k:=k) aj;have E4:=jr hx;refine .ixX (enc:=Rdg.c) (i:=2) hs rfl az .none hr rfl rfl aO bh hx dG ?_;intro vQ o14 gY;have d14:cellAt H vQ (o14+5)=some (I r.tape):=gY 5 _ rfl;refine .zw 3 rfl (zfa dB) ?_;refine .y 4 rfl hs ai ?_;refine .z 5 rfl zm ?_;refine .z 6 rfl zm ?_;refine .ixX (enc:=Rdg.c) (i:=7) hs rfl az .none hr rfl rfl aO bh hx dG ?_;intro Ch o19 nN;have d19:cellAt H Ch (o19+6)=some (I r.day):=nN 6 _ rfl;refine .zw 8 rfl (zfa dk) ?_;refine .y 9 rfl hs ai ?_;refine .z 10 rfl (zbd [_,_] gH) ?_;refine .E 11 hs ?_;refine .alloc hs qI rfl ?_;intro b5 w hs;refine .go (.E 12 hs ?_);refine .aS (vs:=[_,_]) hs rfl rfl bP ?_;intro w hs;refine .go (.D hs (.af (.z zm (.y hs (zls [_,_] gK bP) (.o (.call call36 rfl (mL (t:=r.td) (hs.sb:St H w (en:: .blk b5 [I r.tape,I r.day]::σ)) hO aj) ?_))))));rintro _ w ⟨rfl,hs⟩;have Fc:=rQ (l:=aK (rs.take k)) (t:=r.td);refine .zn iG (.cu rfl (fun iJ=>?_) (fun iJ=>?_))
  ·refine .region (.z zm (.y hs (zls [_,_] gK bP) (.o (.buildSlice (cells:=[_,_]) hs gV rfl rfl fun Pq w hs=>?_))));refine .o (.append (ys:=r.td.c) hs dS rfl rfl hO (.own .here rfl rfl) (by simp [TD.c,Value.oneCell']) (fun l h=>by rw [bu _ (oG _),dJ] at h;omega) ?_);intro v30 en30 w eH hs;refine .zn zg (nB (nT (.region (.z zm (.z cP (.zn zg (nT ?_)))))));have hn:r.td∉aK (rs.take k):=fun hm=>by have:=Fc.2 hm;omega
   rw [←w5,show aK (rs.take k)++[r.td]=aK (rs.take (k+1)) by rw [E4];unfold qz;rw [if_neg hn]] at eH;exact ⟨(k+1,v30),.dI rfl bj bk,⟨by dsimp only;omega,_,eH,hs.sb⟩,by dsimp only;omega⟩
  ·refine .skip (nB (nT (.region (.z zm (.z cP (.zn zg (nT ?_)))))));have hm:r.td∈aK (rs.take k):=Fc.1 aj;exact ⟨(k+1,_),.dI rfl bj bk,⟨by dsimp only;omega,en,by dsimp only;rw [E4];unfold qz;rw [if_pos hm];exact hO,hs.sb⟩,by dsimp only;omega⟩
 ·refine .exit (xT (xT (xB (nT (.af (.z zm (.zn zg (.ret (Fin.bw results37 rfl ?_)))))))));obtain rfl:k=rs.length:=by omega
  rw [List.take_length] at hO;have yx:=cW rs;obtain ⟨H2,aW,hR,hs⟩:=bG.bK (m:=2) (cs:=tdc (aK rs)) hO (oG _) aj (by rw [dJ];omega) hs .here;rw [List.take_length];exact ⟨H2,aW,hR,hs⟩
theorem DV(s:Spc)(i k:Nat):1+(i:Int)*(s.wa.length:Int)+(k:Int)=(s.u i k:Int):=by
 unfold Spc.u;rw [Int.natCast_add,Int.natCast_add,Int.natCast_mul];rfl
theorem Mi(s:Spc)(i k:Nat):1+((i:Int)+1)*(s.wa.length:Int)+(k:Int)=(s.u (i+1) k:Int):=by
 rw [←DV];rfl
theorem Mh(s:Spc)(i k:Nat):1+(i:Int)*(s.wa.length:Int)+((k:Int)+1)=(s.u i (k+1):Int):=by
 rw [←DV];rfl
theorem kN{f:Nat→Nat→List Lim}(hf:∀i k,(f i k).length≤2)(i:Nat):∀k,(lG f i k).length≤2*k
 |0=>by simp [lG]
 |k+1=>by have:=kN hf i k;have:=hf i k;simp only [lG,List.length_append];omega
theorem lF{f:Nat→Nat→List Lim}(hf:∀i k,(f i k).length≤2){m n:Nat}(hm:m≤7)(hn:n≤9)(h0:0<m):(dE f m n).length≤126:=by
 have h1:=eb hf (n:=n) h0;have:n*m≤9*7:=Nat.mul_le_mul hn hm;omega
theorem Lu(h0:0<s.st.length):dE (alL s) s.wa.length s.st.length=dE (alL s) s.wa.length (s.st.length - 1):=by
 obtain ⟨n,hn⟩:∃n,s.st.length=n+1:=⟨s.st.length - 1,aj⟩;have key:∀k,lG (alL s) n k=[]:=by
  intro k
  induction k with
  |zero=>rfl
  |succ k ih=>simp only [lG];rw [ih];unfold alL;rw [if_neg aj];rfl
 rw [hn,Nat.add_sub_cancel];simp only [dE];rw [key,List.append_nil]
theorem J8(i:Nat)(h0:0<s.wa.length):lG (upL s) i s.wa.length=lG (upL s) i (s.wa.length - 1):=by
 obtain ⟨n,hn⟩:∃n,s.wa.length=n+1:=⟨s.wa.length - 1,aj⟩;have e:upL s i n=[]:=by unfold upL;rw [if_neg aj]
 rw [hn,Nat.add_sub_cancel];simp only [lG];rw [e,List.append_nil]
set_option maxHeartbeats 4000000 in
theorem sw{w:World}{s:Srv}{vst vwa:Value}(hs:St H w σ)(h1:RI H vst s.sp.st)(h2:RI H vwa s.sp.wa)(h3:RRd H vr s.rs)(h4:RCm H vc s.cs)(he:s.early):
  TN 230 [.agg #[I s.sp.id,I s.sp.src,vst,vwa,I s.sp.al,I s.sp.up,vr,vc]] w fun u w'=>∃H1 en,HLe H H1∧bG 4 u (fX s.cR) en∧St H1 w' (en::σ):=by
 obtain ⟨ast,cst,rfl⟩:=RI.shape h1;obtain ⟨awa,cwa,rfl⟩:=RI.shape h2;obtain ⟨ar,cr,rfl⟩:=RRd.shape h3;obtain ⟨ac,cc,rfl⟩:=RCm.shape h4;obtain ⟨bq,zy,uj,Jl,DQ⟩:=he;have oY:=fc bq;have ud:=bq.st.many;have Qx:=bq.wa.many;have hn3:=bq.st.two;have hn4:=bq.wa.two;have ha:=lF (lX s.sp) (m:=s.sp.wa.length) (n:=s.sp.st.length) aj aj aj;have hb:=lF (pq s.sp) (m:=s.sp.wa.length) (n:=s.sp.st.length) aj aj aj;have hc:=lF (oF s.sp) (m:=s.sp.wa.length) (n:=s.sp.st.length) aj aj aj;have Il:=bq.al;have KA:=bq.up;refine Cl.o func230 ntmps230 ag1 ?_;refine .af (.bx hs fun b1 w hs=>?_);refine .zn zg (.af (.z (zfa aU) (.y hs (zls [_,_,_,_,_,_] bg aJ) (.o (.alloc hs gn rfl fun b3 w hs=>?_)))));refine .o (.aS (vs:=[_,_,_,_,_,_]) hs rfl rfl aJ fun w hs=>?_);refine .nil (.af (.zn zg (.seq (.af (.zn zg (.block ?_))))));refine .loop (fun p:Nat×Value=>⟨243,[],[(5,I (p.1:Int)),(4,p.2),(3,Pt b3),(1,Pt b1)]⟩)
  (fun p w=>p.1≤s.sp.st.length∧∃en,bG 4 p.2 (fX (dE (qn s.sp) s.sp.wa.length p.1)) en∧St H w (en:: .blk b3 [I s.sp.id,I s.sp.src,.slice ast s.sp.st.length cst,.slice awa s.sp.wa.length cwa,I s.sp.al,I s.sp.up]:: .blk b1 [I s.sp.id,I s.sp.src,.slice ast s.sp.st.length cst,.slice awa s.sp.wa.length cwa,I s.sp.al,I s.sp.up,.slice ar s.rs.length cr,.slice ac s.cs.length cc]::σ)) (fun p=>s.sp.st.length - p.1) (0,.slice none 0 0) bk
  ⟨by first|omega|exact Nat.zero_le _,_,.nil 4 none,hs.nul⟩ ?_
 rintro ⟨i,vo⟩ w ⟨hi,en,hO,hs⟩;dsimp only at hi hO ⊢;refine .seq (.af (.z zm (.z (zfa a8) (.y hs (zld an) (.z (cH ae) (.zn iG (.cu rfl (fun Db=>?_) (fun Db=>?_))))))))
 ·refine .skip (nT (.seq (.block (.af (.zn zg (.block ?_))))));refine .loop (fun p:Nat×Value=>⟨243,[],[(6,I (p.1:Int)),(4,p.2),(5,I (i:Int)),(3,Pt b3),(1,Pt b1)]⟩)
   (fun p w=>p.1≤s.sp.wa.length∧∃en,bG 4 p.2 (fX (dE (qn s.sp) s.sp.wa.length i++lG (qn s.sp) i p.1)) en∧St H w (en:: .blk b3 [I s.sp.id,I s.sp.src,.slice ast s.sp.st.length cst,.slice awa s.sp.wa.length cwa,I s.sp.al,I s.sp.up]:: .blk b1 [I s.sp.id,I s.sp.src,.slice ast s.sp.st.length cst,.slice awa s.sp.wa.length cwa,I s.sp.al,I s.sp.up,.slice ar s.rs.length cr,.slice ac s.cs.length cc]::σ)) (fun p=>s.sp.wa.length - p.1) (0,vo) bk
   ⟨by first|omega|exact Nat.zero_le _,en,by show bG 4 vo (fX (_++[])) en;rw [List.append_nil];exact hO,hs⟩ ?_
  clear hO hs;rintro ⟨k,vo⟩ w ⟨hk,en,hO,hs⟩;dsimp only at hk hO ⊢;have BU:=lF (lX s.sp) (m:=s.sp.wa.length) (n:=i) aj aj aj;have HR:=kN (lX s.sp) i k;refine .seq (.af (.z zm (.z (zfa aR) (.y hs (zld an) (.z (cH ae) (.zn iG (.cu rfl (fun nM=>?_) (fun nM=>?_))))))))
  ·refine .skip (nT (.seq (.block (.af (.y hs (zls [_,_,_,_,_,_] bg aJ) (.z zm (.z zm (.o (.call SD rfl (dr (s:=s.sp) hs h2 aj ⟨aj,aj⟩ ⟨aj,aj⟩) ?_)))))))));rintro _ w ⟨rfl,hs⟩;rw [DV];refine .zn zg (.region (.z zm (.z zm (.z (zfa cn) (.y hs (zld ai) (.z (zbd [_,_,_,_] dm) (.z zm (.z (zfa cn) (.y hs (zld ai) (.z (zbd [_,_,_,_] dm) (.o (.buildSlice (cells:=fX (qn s.sp i k)) hs dU rfl az fun R5 w hs=>?_))))))))))));refine .o (.append (ys:=fX (qn s.sp i k)) hs bQ rfl rfl hO (.own .here rfl rfl) (kx _) (fun l h=>by rw [ez,List.length_append] at h;omega) ?_);intro v51 en51 w eH hs;rw [←iD,List.append_assoc] at eH;exact .zn zg (nB (nT (.region (.z zm (.z cP (.zn zg (nT ⟨(k+1,v51),.dI rfl bj bk,⟨by dsimp only;omega,_,eH,hs.sb⟩,by dsimp only;omega⟩)))))))
  ·refine .exit (xT (xT (xB (nB (nT (.region (.z zm (.z cP (.zn zg (nT ?_))))))))));obtain rfl:k=s.sp.wa.length:=by omega
   exact ⟨(i+1,_),.dI rfl bj bk,⟨by dsimp only;omega,en,hO,hs⟩,by dsimp only;omega⟩
 ·refine .exit (xT (xT (xB (nT (.seq (.af (.zn zg (.block ?_))))))));refine .loop (fun p:Nat×Value=>⟨243,[],[(8,I (p.1:Int)),(4,p.2),(3,Pt b3),(1,Pt b1)]⟩)
   (fun p w=>p.1+1≤s.sp.st.length∧∃en,bG 4 p.2 (fX (dE (qn s.sp) s.sp.wa.length s.sp.st.length++dE (alL s.sp) s.sp.wa.length p.1)) en∧St H w (en:: .blk b3 [I s.sp.id,I s.sp.src,.slice ast s.sp.st.length cst,.slice awa s.sp.wa.length cwa,I s.sp.al,I s.sp.up]:: .blk b1 [I s.sp.id,I s.sp.src,.slice ast s.sp.st.length cst,.slice awa s.sp.wa.length cwa,I s.sp.al,I s.sp.up,.slice ar s.rs.length cr,.slice ac s.cs.length cc]::σ)) (fun p=>s.sp.st.length - p.1) (0,vo) bk
   ⟨by first|omega|exact Nat.zero_le _,en,by show bG 4 vo (fX (_++[])) en;rw [List.append_nil,←show i=s.sp.st.length by omega];exact hO,hs⟩ ?_
  clear hO hs;rintro ⟨i,vo⟩ w ⟨hi,en,hO,hs⟩;dsimp only at hi hO ⊢;refine .seq (.af (.z zm (.z cP (.z (zfa a8) (.y hs (zld an) (.z (cH ae) (.zn iG (.cu rfl (fun Q5=>?_) (fun Q5=>?_)))))))))
  ·refine .skip (nT (.seq (.block (.af (.zn zg (.block ?_))))));refine .loop (fun p:Nat×Value=>⟨243,[],[(9,I (p.1:Int)),(4,p.2),(8,I (i:Int)),(3,Pt b3),(1,Pt b1)]⟩)
    (fun p w=>p.1≤s.sp.wa.length∧∃en,bG 4 p.2 (fX (dE (qn s.sp) s.sp.wa.length s.sp.st.length++dE (alL s.sp) s.sp.wa.length i++lG (alL s.sp) i p.1)) en∧St H w (en:: .blk b3 [I s.sp.id,I s.sp.src,.slice ast s.sp.st.length cst,.slice awa s.sp.wa.length cwa,I s.sp.al,I s.sp.up]:: .blk b1 [I s.sp.id,I s.sp.src,.slice ast s.sp.st.length cst,.slice awa s.sp.wa.length cwa,I s.sp.al,I s.sp.up,.slice ar s.rs.length cr,.slice ac s.cs.length cc]::σ)) (fun p=>s.sp.wa.length - p.1) (0,vo) bk
    ⟨by first|omega|exact Nat.zero_le _,en,by show bG 4 vo (fX (_++[])) en;rw [List.append_nil];exact hO,hs⟩ ?_
   clear hO hs;rintro ⟨k,vo⟩ w ⟨hk,en,hO,hs⟩;dsimp only at hk hO ⊢;have BU:=lF (pq s.sp) (m:=s.sp.wa.length) (n:=i) aj aj aj;have HR:=kN (pq s.sp) i k;refine .seq (.af (.z zm (.z (zfa aR) (.y hs (zld an) (.z (cH ae) (.zn iG (.cu rfl (fun Fo=>?_) (fun Fo=>?_))))))))
   ·refine .skip (nT (.seq (.block (.draw mix rfl hs fun w hs=>?_))));refine .zw 0 rfl zm ?_;refine .ys 1 rfl hs [_,_,_,_,_,_] bg aJ ?_;refine .z 2 rfl zm ?_;refine .z 3 rfl zm ?_;refine .ys 5 rfl hs [_,_,_,_,_,_] bg aJ ?_;refine .z 6 rfl zm ?_;refine .z 7 rfl cP ?_;refine .z 8 rfl zm ?_;refine .z 10 rfl (zfa dM) ?_;refine .z 11 rfl (zfa lT) ?_;refine .y 12 rfl hs ai ?_;refine .z 13 rfl (zfa a8) ?_;refine .y 14 rfl hs an ?_;refine .z 15 rfl zm ?_;refine .z 16 rfl cP ?_;have KI:=bq.st.rise i aj;have LM:=bq.st.bd (i:=i) aj;have Jo:=bq.st.bd (i:=i+1) aj;refine .ixX (enc:=fun x=>[I x]) (i:=17) hs rfl az .none h1 rfl rfl ae ak (bJ (l:=s.sp.st) (i:=(i+1)) aj) dG ?_;intro b84 o84 KV;replace KV:=bB.one KV;refine .r (i:=18) hs rfl az .none (aQ rfl ai KV) ?_;refine .zw 19 rfl (zfa a8) ?_;refine .y 20 rfl hs an ?_;refine .z 21 rfl zm ?_;refine .ixX (enc:=fun x=>[I x]) (i:=22) hs rfl az .none h1 rfl rfl ae ak (bJ (l:=s.sp.st) (i:=i) aj) dG ?_;intro b89 o89 KU;replace KU:=bB.one KU;refine .r (i:=23) hs rfl az .none (aQ rfl ai KU) ?_;refine .zw 24 rfl jc ?_;refine .z 26 rfl (zfa cn) ?_;refine .y 27 rfl hs ai ?_;refine .E 4 hs ?_;refine .call SD rfl (dr (s:=s.sp) hs h2 aj ⟨aj,aj⟩ ⟨aj,aj⟩) ?_;rintro _ w ⟨rfl,hs⟩;rw [DV];refine .go (.E 9 hs ?_);refine .call SD rfl (dr (s:=s.sp) hs h2 aj ⟨aj,aj⟩ ⟨aj,aj⟩) ?_;rintro _ w ⟨rfl,hs⟩;rw [Mi];refine .go (.E 25 hs ?_);refine .call call267 rfl (lB hs aj aj) ?_;rintro _ w ⟨rfl,hs⟩;refine .go (.E 28 hs ?_);refine .call call266 rfl (kg hs) ?_;rintro _ w ⟨b95,rfl,hs⟩;rw [show two (s.sp.u i k:Int) _ _ _ _=alL s.sp i k by unfold alL;rw [if_pos aj]] at hs;refine .go (.E 29 hs ?_);refine .append (ys:=fX (alL s.sp i k)) hs bQ rfl rfl hO (.own .here bj (by rw [ez];unfold alL;rw [if_pos aj];rfl)) (kx _) (fun l h=>by rw [ez] at h;simp only [List.length_append] at h;omega) ?_;intro v96 en96 w eH hs;rw [←iD,List.append_assoc _ (lG _ _ _)] at eH;refine .go (.zw 30 rfl zg ?_);refine .D hs ?_;exact nB (nT (.region (.z zm (.z cP (.zn zg (nT ⟨(k+1,v96),.dI rfl bj bk,⟨by dsimp only;omega,_,eH,hs.sb⟩,by dsimp only;omega⟩))))))
   ·refine .exit (xT (xT (xB (nB (nT (.region (.z zm (.z cP (.zn zg (nT ?_))))))))));obtain rfl:k=s.sp.wa.length:=by omega
    rw [List.append_assoc] at hO;exact ⟨(i+1,_),.dI rfl bj bk,⟨by dsimp only;omega,en,hO,hs⟩,by dsimp only;omega⟩
  ·refine .exit (xT (xT (xB (nT (.seq (.af (.zn zg (.block ?_))))))));refine .loop (fun p:Nat×Value=>⟨243,[],[(10,I (p.1:Int)),(4,p.2),(3,Pt b3),(1,Pt b1)]⟩)
    (fun p w=>p.1≤s.sp.st.length∧∃en,bG 4 p.2 (fX (dE (qn s.sp) s.sp.wa.length s.sp.st.length++dE (alL s.sp) s.sp.wa.length s.sp.st.length++dE (upL s.sp) s.sp.wa.length p.1)) en∧St H w (en:: .blk b3 [I s.sp.id,I s.sp.src,.slice ast s.sp.st.length cst,.slice awa s.sp.wa.length cwa,I s.sp.al,I s.sp.up]:: .blk b1 [I s.sp.id,I s.sp.src,.slice ast s.sp.st.length cst,.slice awa s.sp.wa.length cwa,I s.sp.al,I s.sp.up,.slice ar s.rs.length cr,.slice ac s.cs.length cc]::σ)) (fun p=>s.sp.st.length - p.1) (0,vo) bk
    ⟨by first|omega|exact Nat.zero_le _,en,by show bG 4 vo (fX (_++[])) en;rw [List.append_nil,Lu aj,←show i=s.sp.st.length - 1 by omega];exact hO,hs⟩ ?_
   clear hO hs;rintro ⟨i,vo⟩ w ⟨hi,en,hO,hs⟩;dsimp only at hi hO ⊢;refine .seq (.af (.z zm (.z (zfa a8) (.y hs (zld an) (.z (cH ae) (.zn iG (.cu rfl (fun NV=>?_) (fun NV=>?_))))))))
   ·refine .skip (nT (.seq (.block (.af (.zn zg (.block ?_))))));refine .loop (fun p:Nat×Value=>⟨243,[],[(11,I (p.1:Int)),(4,p.2),(10,I (i:Int)),(3,Pt b3),(1,Pt b1)]⟩)
     (fun p w=>p.1+1≤s.sp.wa.length∧∃en,bG 4 p.2 (fX (dE (qn s.sp) s.sp.wa.length s.sp.st.length++dE (alL s.sp) s.sp.wa.length s.sp.st.length++dE (upL s.sp) s.sp.wa.length i++lG (upL s.sp) i p.1)) en∧St H w (en:: .blk b3 [I s.sp.id,I s.sp.src,.slice ast s.sp.st.length cst,.slice awa s.sp.wa.length cwa,I s.sp.al,I s.sp.up]:: .blk b1 [I s.sp.id,I s.sp.src,.slice ast s.sp.st.length cst,.slice awa s.sp.wa.length cwa,I s.sp.al,I s.sp.up,.slice ar s.rs.length cr,.slice ac s.cs.length cc]::σ)) (fun p=>s.sp.wa.length - p.1) (0,vo) bk
     ⟨by first|omega|exact Nat.zero_le _,en,by show bG 4 vo (fX (_++[])) en;rw [List.append_nil];exact hO,hs⟩ ?_
    clear hO hs;rintro ⟨k,vo⟩ w ⟨hk,en,hO,hs⟩;dsimp only at hk hO ⊢;have BU:=lF (oF s.sp) (m:=s.sp.wa.length) (n:=i) aj aj aj;have HR:=kN (oF s.sp) i k;refine .seq (.af (.z zm (.z cP (.z (zfa aR) (.y hs (zld an) (.z (cH ae) (.zn iG (.cu rfl (fun JE=>?_) (fun JE=>?_)))))))))
    ·refine .skip (nT (.seq (.block (.draw mix rfl hs fun w hs=>?_))));refine .zw 0 rfl zm ?_;refine .ys 1 rfl hs [_,_,_,_,_,_] bg aJ ?_;refine .z 2 rfl zm ?_;refine .z 3 rfl zm ?_;refine .ys 5 rfl hs [_,_,_,_,_,_] bg aJ ?_;refine .z 6 rfl zm ?_;refine .z 7 rfl zm ?_;refine .z 8 rfl cP ?_;refine .z 10 rfl (zfa dM) ?_;refine .z 11 rfl (zfa lS) ?_;refine .y 12 rfl hs ai ?_;refine .z 13 rfl (zfa aR) ?_;refine .y 14 rfl hs an ?_;refine .z 15 rfl zm ?_;refine .z 16 rfl cP ?_;have KI:=bq.wa.rise k aj;have LM:=bq.wa.bd (i:=k) aj;have Jo:=bq.wa.bd (i:=k+1) aj;refine .ixX (enc:=fun x=>[I x]) (i:=17) hs rfl az .none h2 rfl rfl ae ak (bJ (l:=s.sp.wa) (i:=(k+1)) aj) dG ?_;intro b129 o129 Fw;replace Fw:=bB.one Fw;refine .r (i:=18) hs rfl az .none (aQ rfl ai Fw) ?_;refine .zw 19 rfl (zfa aR) ?_;refine .y 20 rfl hs an ?_;refine .z 21 rfl zm ?_;refine .ixX (enc:=fun x=>[I x]) (i:=22) hs rfl az .none h2 rfl rfl ae ak (bJ (l:=s.sp.wa) (i:=k) aj) dG ?_;intro Se o134 BX;replace BX:=bB.one BX;refine .r (i:=23) hs rfl az .none (aQ rfl ai BX) ?_;refine .zw 24 rfl jc ?_;refine .z 26 rfl (zfa cn) ?_;refine .y 27 rfl hs ai ?_;refine .E 4 hs ?_;refine .call SD rfl (dr (s:=s.sp) hs h2 aj ⟨aj,aj⟩ ⟨aj,aj⟩) ?_;rintro _ w ⟨rfl,hs⟩;rw [DV];refine .go (.E 9 hs ?_);refine .call SD rfl (dr (s:=s.sp) hs h2 aj ⟨aj,aj⟩ ⟨aj,aj⟩) ?_;rintro _ w ⟨rfl,hs⟩;rw [Mh];refine .go (.E 25 hs ?_);refine .call call267 rfl (lB hs aj aj) ?_;rintro _ w ⟨rfl,hs⟩;refine .go (.E 28 hs ?_);refine .call call266 rfl (kg hs) ?_;rintro _ w ⟨Sc,rfl,hs⟩;rw [show two (s.sp.u i k:Int) _ _ _ _=upL s.sp i k by unfold upL;rw [if_pos aj]] at hs;refine .go (.E 29 hs ?_);refine .append (ys:=fX (upL s.sp i k)) hs bQ rfl rfl hO (.own .here bj (by rw [ez];unfold upL;rw [if_pos aj];rfl)) (kx _) (fun l h=>by rw [ez] at h;simp only [List.length_append] at h;omega) ?_;intro v141 en141 w eH hs;rw [←iD,List.append_assoc _ (lG _ _ _)] at eH;refine .go (.zw 30 rfl zg ?_);refine .D hs ?_;exact nB (nT (.region (.z zm (.z cP (.zn zg (nT ⟨(k+1,v141),.dI rfl bj bk,⟨by dsimp only;omega,_,eH,hs.sb⟩,by dsimp only;omega⟩))))))
    ·refine .exit (xT (xT (xB (nB (nT (.region (.z zm (.z cP (.zn zg (nT ?_))))))))));obtain rfl:k=s.sp.wa.length - 1:=by omega
     rw [List.append_assoc,←J8 i aj] at hO;exact ⟨(i+1,_),.dI rfl bj bk,⟨by dsimp only;omega,en,hO,hs⟩,by dsimp only;omega⟩
   ·refine .exit (xT (xT (xB (nT (.af (.z (zfa aN) (.y hs (zld dT) ?_)))))));obtain rfl:i=s.sp.st.length:=by omega
    refine .o (.call call37 rfl (ij hs h3 aj) ?_);rintro v144 w ⟨H1,aq,hT,hs⟩;replace hT:RTd H1 v144 s.bD:=hT;have yx:s.bD.length≤60:=by have:=cW s.rs;unfold Srv.bD;omega
    have ue:∀r∈s.rs,r.td∈s.bD:=fun r hr=>dK.2 ⟨r,hr,rfl⟩
    have Ng:s.cR=dE (qn s.sp) s.sp.wa.length s.sp.st.length++dE (alL s.sp) s.sp.wa.length s.sp.st.length++dE (upL s.sp) s.sp.wa.length s.sp.st.length++wK s.sp s.bD.length++sJ s.sp s.bD s.cs 0 s.cs.length++tK s.sp s.bD s.rs s.rs.length:=rfl;generalize s.bD=ts at*;obtain ⟨at_,ct,rfl⟩:=RTd.shape hT;refine .zn zg (.af (.y hs (zls [_,_,_,_,_,_] bg aJ) (.o (.call call35 rfl (fZ (s:=s.sp) hs (h1.mono aq) (h2.mono aq) ⟨aj,aj⟩) ?_))));rintro _ w ⟨rfl,hs⟩;refine .zn zg (.seq (.af (.zn zg (.block ?_))));refine .loop (fun p:Nat×Value=>⟨243,[],[(14,I (p.1:Int)),(4,p.2),(12,.slice at_ ts.length ct),(13,I (s.sp.many:Int)),(3,Pt b3),(1,Pt b1)]⟩)
     (fun p w=>p.1≤ts.length∧∃en,bG 4 p.2 (fX (dE (qn s.sp) s.sp.wa.length s.sp.st.length++dE (alL s.sp) s.sp.wa.length s.sp.st.length++dE (upL s.sp) s.sp.wa.length s.sp.st.length++wK s.sp p.1)) en∧St H1 w (en:: .blk b3 [I s.sp.id,I s.sp.src,.slice ast s.sp.st.length cst,.slice awa s.sp.wa.length cwa,I s.sp.al,I s.sp.up]:: .blk b1 [I s.sp.id,I s.sp.src,.slice ast s.sp.st.length cst,.slice awa s.sp.wa.length cwa,I s.sp.al,I s.sp.up,.slice ar s.rs.length cr,.slice ac s.cs.length cc]::σ)) (fun p=>ts.length - p.1) (0,vo) bk
     ⟨by first|omega|exact Nat.zero_le _,en,by show bG 4 vo (fX (_++[])) en;rw [List.append_nil];exact hO,hs⟩ ?_
    clear hO hs;rintro ⟨j,vo⟩ w ⟨hj,en,hO,hs⟩;dsimp only at hj hO ⊢;have LW:=iB s.sp j;refine .seq (.af (.z zm (.z zm (.z (cH br) (.zn iG (.cu rfl (fun Fv=>?_) (fun Fv=>?_)))))))
    ·refine .skip (nT (.seq (.block (.region (.z zm (.z zm (.z cP (.z zm (.z cP (.z (zfa cn) (.y hs (zld ai) (.o (.call call266 rfl (kg hs) ?_)))))))))))));rintro _ w ⟨b160,rfl,hs⟩;refine .o (.append (ys:=fX (two 0 ((s.sp.many:Int)+1+(j:Int)) 1000 1000 s.sp.src)) hs bQ rfl rfl hO (.own .here rfl rfl) (kx _) (fun l h=>by rw [ez] at h;simp only [List.length_append] at h;omega) ?_);intro v161 en161 w eH hs;rw [←iD,List.append_assoc _ (wK _ _),show (s.sp.many:Int)+1+(j:Int)=((s.sp.many+1+j:Nat):Int) by omega] at eH;exact .zn zg (nB (nT (.region (.z zm (.z cP (.zn zg (nT ⟨(j+1,v161),.dI rfl bj bk,⟨by dsimp only;omega,_,eH,hs.sb⟩,by dsimp only;omega⟩)))))))
    ·refine .exit (xT (xT (xB (nT (.seq (.af (.zn zg (.block ?_))))))));refine .loop (fun p:Nat×Value=>⟨243,[],[(15,I (p.1:Int)),(4,p.2),(12,.slice at_ ts.length ct),(13,I (s.sp.many:Int)),(3,Pt b3),(1,Pt b1)]⟩)
      (fun p w=>p.1≤s.cs.length∧∃en,bG 4 p.2 (fX (dE (qn s.sp) s.sp.wa.length s.sp.st.length++dE (alL s.sp) s.sp.wa.length s.sp.st.length++dE (upL s.sp) s.sp.wa.length s.sp.st.length++wK s.sp ts.length++sJ s.sp ts s.cs 0 p.1)) en∧St H1 w (en:: .blk b3 [I s.sp.id,I s.sp.src,.slice ast s.sp.st.length cst,.slice awa s.sp.wa.length cwa,I s.sp.al,I s.sp.up]:: .blk b1 [I s.sp.id,I s.sp.src,.slice ast s.sp.st.length cst,.slice awa s.sp.wa.length cwa,I s.sp.al,I s.sp.up,.slice ar s.rs.length cr,.slice ac s.cs.length cc]::σ)) (fun p=>s.cs.length - p.1) (0,vo) bk
      ⟨by first|omega|exact Nat.zero_le _,en,by show bG 4 vo (fX (_++[])) en;rw [List.append_nil,←show j=ts.length by omega];exact hO,hs⟩ ?_
     clear hO hs;rintro ⟨i,vo⟩ w ⟨hi,en,hO,hs⟩;dsimp only at hi hO ⊢;have LW:=iB s.sp ts.length;have QW:=iC s.sp ts s.cs 0 i;have QV:i*(2*(ts.length - 0))≤20*(2*60):=Nat.mul_le_mul aj aj;refine .seq (.af (.z zm (.z (zfa cV) (.y hs (zld nZ) (.z (cH bX) (.zn iG (.cu rfl (fun NM=>?_) (fun NM=>?_))))))))
     ·refine .skip (nT (.seq (.block (.af (.zn zg (.block ?_))))));refine .loop (fun p:Nat×Value=>⟨243,[],[(16,I (p.1:Int)),(4,p.2),(15,I (i:Int)),(12,.slice at_ ts.length ct),(13,I (s.sp.many:Int)),(3,Pt b3),(1,Pt b1)]⟩)
       (fun p w=>p.1≤ts.length∧∃en,bG 4 p.2 (fX (dE (qn s.sp) s.sp.wa.length s.sp.st.length++dE (alL s.sp) s.sp.wa.length s.sp.st.length++dE (upL s.sp) s.sp.wa.length s.sp.st.length++wK s.sp ts.length++sJ s.sp ts s.cs 0 i++ku s.sp ts (uB s.cs i) 0 p.1)) en∧St H1 w (en:: .blk b3 [I s.sp.id,I s.sp.src,.slice ast s.sp.st.length cst,.slice awa s.sp.wa.length cwa,I s.sp.al,I s.sp.up]:: .blk b1 [I s.sp.id,I s.sp.src,.slice ast s.sp.st.length cst,.slice awa s.sp.wa.length cwa,I s.sp.al,I s.sp.up,.slice ar s.rs.length cr,.slice ac s.cs.length cc]::σ)) (fun p=>ts.length - p.1) (0,vo) bk
       ⟨by first|omega|exact Nat.zero_le _,en,by show bG 4 vo (fX (_++[])) en;rw [List.append_nil];exact hO,hs⟩ ?_
      clear hO hs;rintro ⟨j,vo⟩ w ⟨hj,en,hO,hs⟩;dsimp only at hj hO ⊢;have BU:=kR s.sp ts (uB s.cs i) 0 j;refine .seq (.af (.z zm (.z zm (.z (cH br) (.zn iG (.cu rfl (fun NL=>?_) (fun NL=>?_)))))))
      ·refine .skip (nT (.seq (.block (.draw mix rfl hs fun w hs=>?_))));refine .zw 0 rfl zm ?_;refine .z 1 rfl (zfa cV) ?_;refine .y 2 rfl hs nZ ?_;refine .z 3 rfl zm ?_;obtain ⟨c,hx⟩:=nth (l:=s.cs) (k:=i) aj;obtain ⟨t,ht⟩:=nth (l:=ts) (k:=j) aj;obtain ⟨g1,g2,g3,g4,g5,g6⟩:=DQ c (List.mem_of_getElem? hx);have ec:=F6 hx;have et:=I8 ht;refine .ixX (enc:=Cmp.c) (i:=4) hs rfl az .none (h4.mono aq) rfl rfl bX de hx dG ?_;intro b179 o179 NJ;refine .r (i:=5) hs rfl az .none (bE (vs:=c.c) rfl rP de NJ) ?_;refine .zw 6 rfl zm ?_;refine .z 7 rfl zm ?_;refine .ixX (enc:=TD.c) (i:=8) hs rfl az .none hT rfl rfl br bP ht dG ?_;intro b183 o183 NI;refine .r (i:=9) hs rfl az .none (bE (vs:=t.c) rfl gK bP NI) ?_;refine .zw 10 rfl zm ?_;refine .z 11 rfl cP ?_;refine .z 12 rfl zm ?_;refine .z 13 rfl cP ?_;refine .E 14 hs ?_;refine .call call268 rfl (tD (c:=c) (t:=t) hs ⟨aj,aj⟩) ?_;rintro v189 w ⟨en189,JJ,hs⟩;obtain ⟨a189,l189,c189,rfl,R2⟩:=JJ.shape;refine .go (.E 15 hs ?_);refine .append (ys:=fX (kU c t ((s.sp.many:Int)+1+(j:Int)))) hs bQ rfl rfl hO (Src.PO JJ .here) (kx _) (fun l h=>by rw [ez] at h;simp only [List.length_append] at h;have:=yK c t ((s.sp.many:Int)+1+(j:Int));rw [ez] at R2;omega) ?_;intro v190 en190 w eH hs;rw [←iD,List.append_assoc _ (ku _ _ _ _ _),show ku s.sp ts (uB s.cs i) 0 j++kU c t ((s.sp.many:Int)+1+(j:Int))=ku s.sp ts (uB s.cs i) 0 (j+1) by
        show _=_++kU (uB s.cs i) (td0 ts (0+j)) ((s.sp.many+1+(0+j):Nat):Int);rw [Nat.zero_add,ec,et,show ((s.sp.many+1+j:Nat):Int)=(s.sp.many:Int)+1+(j:Int) by omega]] at eH
       refine .go (.zw 16 rfl zg ?_);refine .D hs ?_;exact nB (nT (.region (.z zm (.z cP (.zn zg (nT ⟨(j+1,v190),.dI rfl bj bk,⟨by dsimp only;omega,_,eH,hs.sb⟩,by dsimp only;omega⟩))))))
      ·refine .exit (xT (xT (xB (nB (nT (.region (.z zm (.z cP (.zn zg (nT ?_))))))))));obtain rfl:j=ts.length:=by omega
       rw [List.append_assoc _ (sJ _ _ _ _ _)] at hO;exact ⟨(i+1,_),.dI rfl bj bk,⟨by dsimp only;omega,en,hO,hs⟩,by dsimp only;omega⟩
     ·refine .exit (xT (xT (xB (nT (.seq (.af (.zn zg (.block ?_))))))));refine .loop (fun p:Nat×Value=>⟨243,[],[(17,I (p.1:Int)),(4,p.2),(12,.slice at_ ts.length ct),(13,I (s.sp.many:Int)),(3,Pt b3),(1,Pt b1)]⟩)
       (fun p w=>p.1≤s.rs.length∧∃en,bG 4 p.2 (fX (dE (qn s.sp) s.sp.wa.length s.sp.st.length++dE (alL s.sp) s.sp.wa.length s.sp.st.length++dE (upL s.sp) s.sp.wa.length s.sp.st.length++wK s.sp ts.length++sJ s.sp ts s.cs 0 s.cs.length++tK s.sp ts s.rs p.1)) en∧St H1 w (en:: .blk b3 [I s.sp.id,I s.sp.src,.slice ast s.sp.st.length cst,.slice awa s.sp.wa.length cwa,I s.sp.al,I s.sp.up]:: .blk b1 [I s.sp.id,I s.sp.src,.slice ast s.sp.st.length cst,.slice awa s.sp.wa.length cwa,I s.sp.al,I s.sp.up,.slice ar s.rs.length cr,.slice ac s.cs.length cc]::σ)) (fun p=>s.rs.length - p.1) (0,vo) bk
       ⟨by first|omega|exact Nat.zero_le _,en,by show bG 4 vo (fX (_++[])) en;rw [List.append_nil,←show i=s.cs.length by omega];exact hO,hs⟩ ?_
      clear hO hs;rintro ⟨q,vo⟩ w ⟨hq,en,hO,hs⟩;dsimp only at hq hO ⊢;have Ql:=iy s.sp ts s.rs q;have hcl3:=iC s.sp ts s.cs 0 s.cs.length;have hcl4:s.cs.length*(2*(ts.length - 0))≤20*(2*60):=Nat.mul_le_mul aj aj;refine .seq (.af (.z zm (.z (zfa aN) (.y hs (zld dT) (.z (cH aO) (.zn iG (.cu rfl (fun NH=>?_) (fun NH=>?_))))))))
      ·refine .skip (nT (.seq (.block (.af (.z (zfa aN) (.y hs (zld dT) (.z zm ?_)))))));obtain ⟨r,hx⟩:=nth (l:=s.rs) (k:=q) aj;obtain ⟨g1,g2,g3,g4,g5,g6,g7⟩:=Jl r (List.mem_of_getElem? hx);obtain ⟨m,k1,k2,k3⟩:=gu (ue r (List.mem_of_getElem? hx));refine .ixX (enc:=Rdg.c) hs (h3.mono aq) rfl rfl aO bh hx dG ?_;intro Sb o201 JA;refine .q hs (bE (vs:=(Rdg.c r)) rfl fY bh JA) (.o (.alloc hs iE rfl fun rN w hs=>?_));refine .o (.aS (vs:=r.c) hs rfl rfl bh fun w hs=>?_);change St _ _ (.blk rN [I r.src,I r.st,I r.wa,I r.val,I r.tol,I r.tape,I r.day]::_) at hs;refine .nil (.af (.y hs (zls [_,_,_,_,_,_] bg aJ) (.z (zfa eJ) (.y hs (zld ai) (.z (zfa eI) (.y hs (zld ai) (.o (.call SD rfl (dr (s:=s.sp) hs (h2.mono aq) aj ⟨aj,aj⟩ ⟨aj,aj⟩) ?_))))))));rintro _ w ⟨rfl,hs⟩;refine .zn zg (.af (.z zm (.z cP (.z zm (.z (zfa dB) (.y hs (zld ai) (.z (zfa dk) (.y hs (zld ai) (.z (zbd [_,_] gH) (.o (.call call36 rfl (jJ (t:=r.td) hs hT aj) ?_)))))))))));rintro _ w ⟨rfl,hs⟩;refine .z cP (.zn zg (.region (.z zm (.z zm (.z zm (.z (zfa dC) (.y hs (zld ai) (.z (zfa bY) (.y hs (zld ai) (.z cP (.z (zfa dW) (.y hs (zld ai) (.z (zbd [_,_,_,_] dm) (.z zm (.z zm (.z (zfa bY) (.y hs (zld ai) (.z (zfa dC) (.y hs (zld ai) (.z jc (.z (zfa dW) (.y hs (zld ai) (.z (zbd [_,_,_,_] dm) (.o (.buildSlice (cells:=fX (q6 s.sp ts r)) hs dU rfl az fun b240 w hs=>?_)))))))))))))))))))))))));refine .o (.append (ys:=fX (q6 s.sp ts r)) hs bQ rfl rfl hO (.own .here rfl rfl) (kx _) (fun l h=>by rw [ez] at h;simp only [List.length_append] at h;omega) ?_);intro v241 en241 w eH hs;rw [←iD,List.append_assoc _ (tK _ _ _ _),show tK s.sp ts s.rs q++q6 s.sp ts r=tK s.sp ts s.rs (q+1) by rw [←El hx];rfl] at eH;exact .zn zg (nB (nT (.region (.z zm (.z cP (.zn zg (nT ⟨(q+1,v241),.dI rfl bj bk,⟨by dsimp only;omega,_,eH,hs.sb⟩,by dsimp only;omega⟩)))))))
      ·refine .exit (xT (xT (xB (nT (.af (.z zm (.zn zg (.ret (Fin.bw results230 rfl ?_)))))))));obtain rfl:q=s.rs.length:=by omega
       exact ⟨H1,en,aq,by rw [Ng];exact hO,hs.sb⟩
theorem sv{w:World}{s:Srv}{vst vwa:Value}(hs:St H w σ)(h1:RI H vst s.sp.st)(h2:RI H vwa s.sp.wa)(h3:RRd H vr s.rs)(h4:RCm H vc s.cs)(he:s.early):
  TN 153 [.agg #[I s.sp.id,I s.sp.src,vst,vwa,I s.sp.al,I s.sp.up,vr,vc]] w fun u w'=>∃H1 vl en,HLe H H1∧u= .agg #[I s.sys.many,vl]∧bG 4 vl (fX s.cR) en∧St H1 w' (en::σ):=by
 have oY:=fc he.1;have zy:=he.2.1;have yx:s.bD.length≤60:=by have:=cW s.rs;unfold Srv.bD;omega
 refine Cl.o func153 ntmps153 ag1 ?_;refine .af (.bx hs fun b1 w hs=>?_);refine .o (.alloc hs jT rfl fun b2 w hs=>?_);refine .nil (.seq (.draw mix rfl hs fun w hs=>?_));refine .zw 0 rfl (zfa aU) ?_;refine .ys 1 rfl hs [_,_,_,_,_,_] bg aJ ?_;refine .z 3 rfl (zfa aN) ?_;refine .y 4 rfl hs dT ?_;refine .ys 8 rfl hs [_,_,_,_,_,_,_,_] bS aV ?_;refine .E 2 hs ?_;refine .call call35 rfl (fZ (s:=s.sp) hs h1 h2 ⟨aj,aj⟩) ?_;rintro _ w ⟨rfl,hs⟩;refine .go (.E 5 hs ?_);refine .call call37 rfl (ij hs h3 aj) ?_;rintro v8 w ⟨H1,aq,hT,hs⟩;replace hT:RTd H1 v8 s.bD:=hT;obtain ⟨at_,ct,rfl⟩:=RTd.shape hT;refine .go (.zw 6 rfl (cH br) ?_);refine .z 7 rfl cP ?_;refine .E 9 hs ?_;refine .call call230 rfl (sw (s:=s) hs (h1.mono aq) (h2.mono aq) (h3.mono aq) (h4.mono aq) he) ?_;rintro v12 w ⟨H2,en,aW,hO,hs⟩;obtain ⟨al,ll,cl,rfl,vI⟩:=hO.shape;refine .go (.zw 10 rfl (zbd [_,_] k9) (.E 11 hs ?_));refine .aS (vs:=[_,_]) hs rfl rfl bF ?_;intro w hs;refine .go (.D hs (.ret ?_));replace hs:St H2 w (.blk b2 [I ((s.sp.many:Int)+(s.bD.length:Int)),.slice al ll cl]::en::σ):=hs.sb;exact Fin.kY [] [] hs fun w hs=>⟨_,results1 results153 (fq (vs:=[_,_]) hs rfl dp bF),H2,_,en,aq.trans aW,by show _=Value.agg #[I ((s.sp.many+s.bD.length:Nat):Int),_];rw [Int.natCast_add],hO,hs.tail⟩
theorem q5{w:World}{s:Srv}{vst vwa:Value}(hs:St H w σ)(h1:RI H vst s.sp.st)(h2:RI H vwa s.sp.wa)(h3:RRd H vr s.rs)(h4:RCm H vc s.cs)(he:s.early):
  TN 153 [.agg #[I s.sp.id,I s.sp.src,vst,vwa,I s.sp.al,I s.sp.up,vr,vc]] w fun u w'=>∃H1,HLe H H1∧RSy H1 u s.sys∧St H1 w' σ:=by
 refine (sv hs h1 h2 h3 h4 he).mono ?_;rintro u w' ⟨H1,vl,en,hle,rfl,hO,hs⟩;have hl:=kK he 6 aj;rw [s.xo] at hl;obtain ⟨H2,aW,hR,hs⟩:=bG.bK (m:=4) (cs:=s.cR.map Lim.c) hO (fun c hc=>by simp only [List.mem_map] at hc;obtain ⟨x,_,rfl⟩:=hc;rfl) aj (by rw [List.length_map];omega) hs .here;exact ⟨H2,hle.trans aW,⟨vl,rfl,hR⟩,hs⟩
theorem jf{w:World}{q:Wht}{vst vwa:Value}(hs:St H w σ)(h2:RI H vwa s.wa):
  TN 161 [.agg #[I q.kind,I q.st,I q.wa,I s.id,I s.src,vst,vwa,I s.al,I s.up]] w fun v w'=>v= .bool (decide (0≤q.wa∧q.wa≤(s.wa.length:Int) - 1))∧St H w' σ:=by
 obtain ⟨awa,cwa,rfl⟩:=RI.shape h2;have l2:=(RI.len h2).2.2;refine Cl.o func161 ntmps161 ag1 ?_;refine .af (.bx hs fun b1 w hs=>?_);refine .zn zg (.af (.z (zfa bT) (.z (zfa fF) (.y hs (zld ai) (.z (zfa ek) (.z (zfa aR) (.y hs (zld an) (.z (cH ae) (.z jc (.o (.call iV rfl (aZ hs) ?_)))))))))));rintro _ w ⟨rfl,hs⟩;exact .zn zg (.ret (Fin.bw results161 rfl ⟨rfl,hs.out⟩))
theorem j9{w:World}{q:Wht}{vst vwa:Value}(hs:St H w σ)(h1:RI H vst s.st):
  TN 166 [.agg #[I q.kind,I q.st,I q.wa,I s.id,I s.src,vst,vwa,I s.al,I s.up]] w fun v w'=>v= .bool (decide (0≤q.st∧q.st≤(s.st.length:Int) - 1))∧St H w' σ:=by
 obtain ⟨ast,cst,rfl⟩:=RI.shape h1;have l1:=(RI.len h1).2.2;refine Cl.o func166 ntmps166 ag1 ?_;refine .af (.bx hs fun b1 w hs=>?_);refine .zn zg (.af (.z (zfa bT) (.z (zfa iR) (.y hs (zld ai) (.z (zfa ek) (.z (zfa a8) (.y hs (zld an) (.z (cH ae) (.z jc (.o (.call iV rfl (aZ hs) ?_)))))))))));rintro _ w ⟨rfl,hs⟩;exact .zn zg (.ret (Fin.bw results166 rfl ⟨rfl,hs.out⟩))
theorem qL{q:Wht}:fW s q↔(q.kind=1∧q.st=0∧s.isW q∧0<q.wa)∨(q.kind=2∧q.st=0∧s.isW q)∨(q.kind=3∧q.wa=0∧s.isS q)∨(q.kind=4∧s.isS q∧s.isW q):=by
 constructor
 ·intro h
  cases h with
  |litres a b c d=>exact .inl ⟨a,b,c,d⟩
  |plane a b c=>exact .inr (.inl ⟨a,b,c⟩)
  |section_ a b c=>exact .inr (.inr (.inl ⟨a,b,c⟩))
  |offset a b c=>exact .inr (.inr (.inr ⟨a,b,c⟩))
 ·rintro (⟨a,b,c,d⟩|⟨a,b,c⟩|⟨a,b,c⟩|⟨a,b,c⟩)
  ·exact .litres a b c d
  ·exact .plane a b c
  ·exact .section_ a b c
  ·exact .offset a b c
theorem zk{w:World}{q:Wht}{vst vwa:Value}(hs:St H w σ)(h2:RI H vwa s.wa)(hk:q.kind=1):
  TN 160 [.agg #[I q.kind,I q.st,I q.wa,I s.id,I s.src,vst,vwa,I s.al,I s.up]] w fun v w'=>∃b:Bool,v= .bool b∧(b=true↔fW s q)∧St H w' σ:=by
 have hi:=qL (s:=s) (q:=q);simp only [Spc.isW,Spc.isS] at hi;refine Cl.o func160 ntmps160 ag1 ?_;refine .af (.bx hs fun b1 w hs=>?_);refine .zn zg (.af (.y hs (zls [_,_,_,_,_,_,_,_,_] J3 vW) (.o (.call call161 rfl (jf hs h2) ?_))));rintro _ w ⟨rfl,hs⟩;refine .z zm (.bif (t':=5) rfl (fun K5=>?_) (fun K5=>?_))
 ·refine .T (.z (zfa bT) (.T (.z (zfa fF) (.T (.y hs (zld ai) (.T (.z uS (.z zpT (.z zm (.lI (t':=11) rfl (fun FE=>?_) (fun FE=>?_)))))))))))
  ·exact .T (.z (zfa bT) (.T (.z (zfa iR) (.T (.y hs (zld ai) (.T (.z gQ (.z zpT (.zn zg (.ret (Fin.bw results160 rfl ⟨_,rfl,by rw [hi];simp_all<;>omega,hs.out⟩)))))))))))
  ·exact .Fs 4 8 true (.z zpF (.zn zg (.ret (Fin.bw results160 rfl ⟨_,rfl,by rw [hi];simp_all<;>omega,hs.out⟩))))
 ·exact .Fs 4 2 true (.z zpF (.z zm (.Fs 4 8 true (.z zpF (.zn zg (.ret (Fin.bw results160 rfl ⟨_,rfl,by rw [hi];simp_all<;>omega,hs.out⟩)))))))
theorem zj{w:World}{q:Wht}{vst vwa:Value}(hs:St H w σ)(h2:RI H vwa s.wa)(hk:q.kind=2):
  TN 163 [.agg #[I q.kind,I q.st,I q.wa,I s.id,I s.src,vst,vwa,I s.al,I s.up]] w fun v w'=>∃b:Bool,v= .bool b∧(b=true↔fW s q)∧St H w' σ:=by
 have hi:=qL (s:=s) (q:=q);simp only [Spc.isW,Spc.isS] at hi;refine Cl.o func163 ntmps163 ag1 ?_;refine .af (.bx hs fun b1 w hs=>?_);refine .zn zg (.af (.y hs (zls [_,_,_,_,_,_,_,_,_] J3 vW) (.o (.call call161 rfl (jf hs h2) ?_))));rintro _ w ⟨rfl,hs⟩;refine .z zm (.bif (t':=5) rfl (fun K5=>?_) (fun K5=>?_))
 ·exact .T (.z (zfa bT) (.T (.z (zfa iR) (.T (.y hs (zld ai) (.T (.z gQ (.z zpT (.zn zg (.ret (Fin.bw results163 rfl ⟨_,rfl,by rw [hi];simp_all<;>omega,hs.out⟩)))))))))))
 ·exact .Fs 4 2 true (.z zpF (.zn zg (.ret (Fin.bw results163 rfl ⟨_,rfl,by rw [hi];simp_all<;>omega,hs.out⟩))))
theorem zi{w:World}{q:Wht}{vst vwa:Value}(hs:St H w σ)(h1:RI H vst s.st)(hk:q.kind=3):
  TN 165 [.agg #[I q.kind,I q.st,I q.wa,I s.id,I s.src,vst,vwa,I s.al,I s.up]] w fun v w'=>∃b:Bool,v= .bool b∧(b=true↔fW s q)∧St H w' σ:=by
 have hi:=qL (s:=s) (q:=q);simp only [Spc.isW,Spc.isS] at hi;refine Cl.o func165 ntmps165 ag1 ?_;refine .af (.bx hs fun b1 w hs=>?_);refine .zn zg (.af (.y hs (zls [_,_,_,_,_,_,_,_,_] J3 vW) (.o (.call call166 rfl (j9 hs h1) ?_))));rintro _ w ⟨rfl,hs⟩;refine .z zm (.bif (t':=5) rfl (fun K5=>?_) (fun K5=>?_))
 ·exact .T (.z (zfa bT) (.T (.z (zfa fF) (.T (.y hs (zld ai) (.T (.z gQ (.z zpT (.zn zg (.ret (Fin.bw results165 rfl ⟨_,rfl,by rw [hi];simp_all<;>omega,hs.out⟩)))))))))))
 ·exact .Fs 4 2 true (.z zpF (.zn zg (.ret (Fin.bw results165 rfl ⟨_,rfl,by rw [hi];simp_all<;>omega,hs.out⟩))))
theorem zh{w:World}{q:Wht}{vst vwa:Value}(hs:St H w σ)(h1:RI H vst s.st)(h2:RI H vwa s.wa)(hk:q.kind=4):
  TN 168 [.agg #[I q.kind,I q.st,I q.wa,I s.id,I s.src,vst,vwa,I s.al,I s.up]] w fun v w'=>∃b:Bool,v= .bool b∧(b=true↔fW s q)∧St H w' σ:=by
 have hi:=qL (s:=s) (q:=q);simp only [Spc.isW,Spc.isS] at hi;refine Cl.o func168 ntmps168 ag1 ?_;refine .af (.bx hs fun b1 w hs=>?_);refine .zn zg (.af (.y hs (zls [_,_,_,_,_,_,_,_,_] J3 vW) (.o (.call call166 rfl (j9 hs h1) ?_))));rintro _ w ⟨rfl,hs⟩;refine .z zm (.bif (t':=5) rfl (fun K5=>?_) (fun K5=>?_))
 ·refine .T (.y hs (zls [_,_,_,_,_,_,_,_,_] J3 vW) (.T (.o (.call call161 rfl (jf hs h2) ?_))));rintro _ w ⟨rfl,hs⟩;exact .z zpT (.zn zg (.ret (Fin.bw results168 rfl ⟨_,rfl,by rw [hi];simp_all<;>omega,hs.out⟩)))
 ·exact .Fs 2 2 true (.z zpF (.zn zg (.ret (Fin.bw results168 rfl ⟨_,rfl,by rw [hi];simp_all<;>omega,hs.out⟩))))
theorem so{w:World}{q:Wht}{vst vwa:Value}{u:Int}(hs:St H w σ)(h1:RI H vst s.st)(h2:RI H vwa s.wa)(bq:fm s)(hq:fW s q)(BV:q.kind=1)(hi:i<s.st.length):
  TN 162 [.agg #[I q.kind,I q.st,I q.wa,I s.id,I s.src,vst,vwa,I s.al,I s.up],.agg #[I (i:Int),I (k:Int),I u]] w fun v w'=>∃H1,HLe H H1∧v=I (oa s q i k)∧St H1 w' σ:=by
 obtain ⟨ast,cst,rfl⟩:=RI.shape h1;obtain ⟨awa,cwa,rfl⟩:=RI.shape h2;have hn:=bq.wa.many;have mX:=(RI.len h2).2.1;obtain ⟨_,hw1,hw2,hw3⟩:q.st=0∧0<q.wa∧0≤q.wa∧q.wa≤(s.wa.length:Int) - 1:=by
  rcases qL.1 hq with h|h|h|h
  ·exact ⟨h.2.1,h.2.2.2,h.2.2.1.1,h.2.2.1.2⟩
  all_goals omega
 obtain ⟨m,hm⟩:∃m:Nat,q.wa=m:=⟨q.wa.toNat,aj⟩;have hW:oa s q i k=if (k:Int)≤q.wa then gi (wts s.st) i*gi (wts (s.wa.take (q.wa.toNat+1))) k else 0:=by unfold oa;rw [if_pos BV]
 have QA:q.wa.toNat=m:=by omega
 rw [QA] at hW;refine Cl.o func162 ntmps162 ag2 ?_;refine .af (.bx hs fun b2 w hs=>?_);refine .bx hs fun b3 w hs=>?_
 refine .zn zg (.seq (.af (.z (zfa bV) (.y hs (zld ai) (.z (zfa bT) (.z (zfa fF) (.y hs (zld ai) (.zn uS (.cu rfl (fun kB=>?_) (fun kB=>?_))))))))))
 ·exact .af (.zn zg (.ret (rT (Fin.bw results162 rfl ⟨H,HLe.refl H,by rw [hW,if_neg aj],hs.out⟩))))
 ·refine .skip (nT (.seq (.draw mix rfl hs fun w hs=>?_)));refine .zw 0 rfl (zfa ek) ?_;refine .z 1 rfl (zfa a8) ?_;refine .y 2 rfl hs an ?_;refine .z 3 rfl (zfa ek) ?_;refine .z 4 rfl (zfa aR) ?_;refine .y 5 rfl hs an ?_;refine .z 6 rfl (zfa bT) ?_;refine .z 7 rfl (zfa fF) ?_;refine .y 8 rfl hs ai ?_;refine .z 9 rfl cP ?_;refine .zw 10 rfl (pQ (k:=m+1) rfl rfl ae ak aj aj) (.E 11 hs ?_);have hP:gl 7 15000 (s.wa.take (m+1)):=bq.wa.take aj aj;refine .call call84 rfl (mG hs h1 (h2.head (k:=m+1) aj)) ?_;rintro _ w ⟨H1,vo,e,aq,rfl,Oa,-,hs⟩;obtain ⟨rfl,hG⟩:=Oa ⟨bq.st,hP⟩;have S4:=m7 (wts s.st) (wts (s.wa.take (m+1))) s.st.length;have zr:(wts (s.wa.take (m+1))).length=m+1:=by rw [iH,List.length_take];omega
  have hgr:=B1 (X:=wts s.st) (Y:=wts (s.wa.take (m+1))) (n:=s.st.length) hi;have QP:=Iz (X:=wts s.st) (Y:=wts (s.wa.take (m+1))) (n:=s.st.length) (k:=k) hi aj;have zy:=oL (wts s.st) (wts (s.wa.take (m+1))) i;rw [←hgr] at zy;generalize qh (wts s.st) (wts (s.wa.take (m+1))) s.st.length=G at*;obtain ⟨aG,cG,rfl⟩:=hG.shape;refine .go (.zw 12 rfl zm ?_);refine .z 13 rfl zex ?_;refine .z 14 rfl zex ?_;refine .z 15 rfl zg ?_;refine .z 16 rfl zg ?_;refine .D hs ?_;refine .seq (.draw mix rfl hs fun w hs=>?_);refine .zw 0 rfl zm ?_;refine .z 1 rfl (zfa cD) ?_;refine .y 2 rfl hs ai ?_;refine .ixT (i:=3) hs rfl az .none hG rfl rfl aC aL (show i<_ by omega) dG ?_;intro Ga o31 a31 c31 zE RF;refine .r (i:=4) hs rfl az .none (aQ rfl an zE) ?_;refine .zw 5 rfl (zfa bV) ?_;refine .y 6 rfl hs ai ?_;refine .ixX (enc:=fun x=>[I x]) (i:=7) hs rfl az .none RF rfl rfl ae ak (bJ (l:=(gr G i)) (i:=k) aj) dG ?_;intro Po o35 rD;replace rD:=bB.one rD;refine .r (i:=8) hs rfl az .none (aQ rfl ai rD) ?_;refine .zw 9 rfl zg ?_;refine .D hs ?_;exact .ret (Fin.bw results162 rfl ⟨H1,aq,by rw [hW,if_pos aj,←QP];rfl,hs.out⟩)
theorem tl{w:World}{q:Wht}{vst vwa:Value}{u:Int}(hs:St H w σ)(h1:RI H vst s.st)(bq:fm s)(BV:q.kind=2)(hi:i<s.st.length):
  TN 164 [.agg #[I q.kind,I q.st,I q.wa,I s.id,I s.src,vst,vwa,I s.al,I s.up],.agg #[I (i:Int),I (k:Int),I u]] w fun v w'=>∃H1,HLe H H1∧v=I (oa s q i k)∧St H1 w' σ:=by
 have hW:oa s q i k=if (k:Int)=q.wa then gi (wts s.st) i else 0:=by unfold oa;rw [if_neg aj,if_pos BV]
 have hl:=iH s.st;refine Cl.o func164 ntmps164 ag2 ?_;refine .af (.bx hs fun b2 w hs=>?_);refine .bx hs fun b3 w hs=>?_
 refine .zn zg (.seq (.af (.z (zfa bV) (.y hs (zld ai) (.z (zfa bT) (.z (zfa fF) (.y hs (zld ai) (.zn gL (.gU rfl (fun kB=>?_) (fun kB=>?_))))))))))
 ·exact .af (.zn zg (.ret (rT (Fin.bw results164 rfl ⟨H,HLe.refl H,by rw [hW,if_neg aj],hs.out⟩))))
 ·refine .skip (nT (.af (.z (zfa ek) (.z (zfa a8) (.y hs (zld an) (.o (.call call26 rfl (iN hs h1) ?_)))))));rintro _ w ⟨H1,vo,e,aq,rfl,Oa,hs⟩;obtain ⟨rfl,hG⟩:=Oa bq.st;obtain ⟨aG,cG,rfl⟩:=RI.shape hG;refine .z zm (.z zex (.z zex (.z zg (.zn zg (.af (.z zm (.z (zfa cD) (.y hs (zld ai) (.ixY hs hG rfl rfl ae ak (bJ (l:=(wts s.st)) (i:=i) aj) dG ?_)))))))));intro Cg o23 mZ;exact .q hs (aQ rfl ai mZ) (.zn zg (.ret (Fin.bw results164 rfl ⟨H1,aq,by rw [hW,if_pos aj],hs.out⟩)))
theorem qN{w:World}{q:Wht}{vst vwa:Value}{u:Int}(hs:St H w σ)(h2:RI H vwa s.wa)(bq:fm s)(BV:q.kind=3)(hk:k<s.wa.length):
  TN 167 [.agg #[I q.kind,I q.st,I q.wa,I s.id,I s.src,vst,vwa,I s.al,I s.up],.agg #[I (i:Int),I (k:Int),I u]] w fun v w'=>∃H1,HLe H H1∧v=I (oa s q i k)∧St H1 w' σ:=by
 have hW:oa s q i k=if (i:Int)=q.st then gi (wts s.wa) k else 0:=by unfold oa;rw [if_neg aj,if_neg aj,if_pos BV]
 have hl:=iH s.wa;refine Cl.o func167 ntmps167 ag2 ?_;refine .af (.bx hs fun b2 w hs=>?_);refine .bx hs fun b3 w hs=>?_
 refine .zn zg (.seq (.af (.z (zfa cD) (.y hs (zld ai) (.z (zfa bT) (.z (zfa iR) (.y hs (zld ai) (.zn gL (.gU rfl (fun kB=>?_) (fun kB=>?_))))))))))
 ·exact .af (.zn zg (.ret (rT (Fin.bw results167 rfl ⟨H,HLe.refl H,by rw [hW,if_neg aj],hs.out⟩))))
 ·refine .skip (nT (.af (.z (zfa ek) (.z (zfa aR) (.y hs (zld an) (.o (.call call26 rfl (iN hs h2) ?_)))))));rintro _ w ⟨H1,vo,e,aq,rfl,Oa,hs⟩;obtain ⟨rfl,hG⟩:=Oa (Kf bq);obtain ⟨aG,cG,rfl⟩:=RI.shape hG;refine .z zm (.z zex (.z zex (.z zg (.zn zg (.af (.z zm (.z (zfa bV) (.y hs (zld ai) (.ixY hs hG rfl rfl ae ak (bJ (l:=(wts s.wa)) (i:=k) aj) dG ?_)))))))));intro Cg o23 mZ;exact .q hs (aQ rfl ai mZ) (.zn zg (.ret (Fin.bw results167 rfl ⟨H1,aq,by rw [hW,if_pos aj],hs.out⟩)))
theorem sn{w:World}{q:Wht}{vst vwa:Value}{u:Int}(hs:St H w σ)(BV:q.kind=4):
  TN 169 [.agg #[I q.kind,I q.st,I q.wa,I s.id,I s.src,vst,vwa,I s.al,I s.up],.agg #[I (i:Int),I (k:Int),I u]] w fun v w'=>∃H1,HLe H H1∧v=I (oa s q i k)∧St H1 w' σ:=by
 have hW:oa s q i k=if (i:Int)=q.st∧(k:Int)=q.wa then 1 else 0:=by unfold oa;rw [if_neg aj,if_neg aj,if_neg aj]
 refine Cl.o func169 ntmps169 ag2 ?_;refine .af (.bx hs fun b2 w hs=>?_);refine .bx hs fun b3 w hs=>?_
 refine .zn zg (.seq (.af (.z (zfa cD) (.y hs (zld ai) (.z (zfa bT) (.z (zfa iR) (.y hs (zld ai) (.z gL (.z zm (.F9 (t':=11) rfl (fun FE=>?_) (fun FE=>?_)))))))))))
 ·refine .Fs 6 6 false (.zn zpT (.cT (.af (.zn zg (.ret (rT (Fin.bw results169 rfl ?_)))))));first
  |exact ⟨H,HLe.refl H,by rw [hW,if_neg aj],hs.out⟩
  |exact ⟨H,HLe.refl H,by rw [hW,if_pos aj],hs.out⟩
 ·refine .T (.z (zfa bV) (.T (.y hs (zld ai) (.T (.z (zfa bT) (.T (.z (zfa fF) (.T (.y hs (zld ai) (.T (.z gL (.zn zpF (.gU rfl (fun qe=>?_) (fun qe=>?_))))))))))))))
  ·refine .af (.zn zg (.ret (rT (Fin.bw results169 rfl ?_))));first
   |exact ⟨H,HLe.refl H,by rw [hW,if_neg aj],hs.out⟩
   |exact ⟨H,HLe.refl H,by rw [hW,if_pos aj],hs.out⟩
  ·refine .skip (nT (.af (.zn zg (.ret (Fin.bw results169 rfl ?_)))));first
   |exact ⟨H,HLe.refl H,by rw [hW,if_neg aj],hs.out⟩
   |exact ⟨H,HLe.refl H,by rw [hW,if_pos aj],hs.out⟩
def CI(k:Int):Nat:=if k=1 then 160 else if k=2 then 163 else if k=3 then 165 else 168
def Ct(k:Int):Nat:=if k=1 then 162 else if k=2 then 164 else if k=3 then 167 else 169
def BN(k:Int):Value:= .agg #[.func (.func (CI k)) #[] #[],.func (.func (Ct k)) #[] #[],I (sI ⟨k,0,0⟩)]
def LJ:List MapEntry:=[{key:=I 1,val:=BN 1,born:=0},{key:=I 2,val:=BN 2,born:=1},{key:=I 3,val:=BN 3,born:=2},{key:=I 4,val:=BN 4,born:=3}]
theorem kL{w:World}(hs:St H w σ):
  TN 91 [] w fun v w'=>∃b,v= .map (some b)∧St H w' (.obj b (.map LJ.toArray 4)::σ):=by
 refine Cl.of func91 rfl ntmps91 bj (vR) (.af (.zn zg (.af (.o (.makeMap hs fun b1 w hs=>?_)))));refine .z (zbd [_,_,_] il) (.o (.insert (es:=[]) hs rfl rfl rfl fI aF rfl fun w hs=>?_));refine .z (zbd [_,_,_] il) (.o (.insert (es:=[{key:=I 1,val:=BN 1,born:=0}]) hs rfl rfl rfl fI aF rfl fun w hs=>?_));refine .z (zbd [_,_,_] il) (.o (.insert (es:=[{key:=I 1,val:=BN 1,born:=0},{key:=I 2,val:=BN 2,born:=1}]) hs rfl rfl rfl fI aF rfl fun w hs=>?_));refine .z (zbd [_,_,_] il) (.o (.insert (es:=[{key:=I 1,val:=BN 1,born:=0},{key:=I 2,val:=BN 2,born:=1},{key:=I 3,val:=BN 3,born:=2}]) hs rfl rfl rfl fI aF rfl fun w hs=>?_));exact .z zm (.zn zg (.ret (Fin.bw results91 rfl ⟨b1,rfl,hs⟩)))
def lF1(k:Int):Value:=if 1≤k∧k≤4 then .func (.func (CI k)) #[] #[] else .nilFunc
def lF2(k:Int):Value:=if 1≤k∧k≤4 then .func (.func (Ct k)) #[] #[] else .nilFunc
def lD(k:Int):Int:=if 1≤k∧k≤4 then sI ⟨k,0,0⟩ else 0
theorem BM(k:Int):[lF1 k,lF2 k,I (lD k)].all Value.oneCell'=true:=by
 unfold lF1 lF2;split<;>rfl
theorem Ew{s:FS}{x y:Operand}(k:Int)(hx:FS.ev s x=some (.map (some b)))(hy:FS.ev s y=some (I k)):
  QJ Tryz.prog H [.obj b (.map LJ.toArray 4)] s (.lookup 204 x y true) (.tuple #[.agg #[lF1 k,lF2 k,I (lD k)],.bool (decide (1≤k∧k≤4))]):=by
 by_cases h:1≤k∧k≤4
 ·rw [decide_eq_true h];have h4:k=1∨k=2∨k=3∨k=4:=by omega
  rcases h4 with rfl|rfl|rfl|rfl
  ·exact BF (v:=BN 1) (j:=0) hx hy fI aF rfl .here
  ·exact BF (v:=BN 2) (j:=1) hx hy fI aF rfl .here
  ·exact BF (v:=BN 3) (j:=2) hx hy fI aF rfl .here
  ·exact BF (v:=BN 4) (j:=3) hx hy fI aF rfl .here
 ·rw [decide_eq_false h];have e1:lF1 k= .nilFunc:=if_neg h;have e2:lF2 k= .nilFunc:=if_neg h;have e3:lD k=0:=if_neg h;rw [e1,e2,e3];refine Ko (es:=LJ) (c:=4) hx hy fI aF zeroValue202 ?_ .here;have n1:(k==1)=false:=by simp only [beq_eq_false_iff_ne];omega
  have n2:(k==2)=false:=by simp only [beq_eq_false_iff_ne];omega
  have n3:(k==3)=false:=by simp only [beq_eq_false_iff_ne];omega
  have n4:(k==4)=false:=by simp only [beq_eq_false_iff_ne];omega
  simp [Instr.findNow,Instr.sameNow,LJ,n1,n2,n3,n4]
theorem GZ(k:Int):∀args w,(callFunc (CI k) args).run Tryz.prog w= .ok (.enter (CI k) args) w:=by
 unfold CI;split
 ·exact call160
 ·split
  ·exact call163
  ·split
   ·exact call165
   ·exact call168
theorem GH(k:Int):∀args w,(callFunc (Ct k) args).run Tryz.prog w= .ok (.enter (Ct k) args) w:=by
 unfold Ct;split
 ·exact call162
 ·split
  ·exact call164
  ·split
   ·exact call167
   ·exact call169
theorem GY{w:World}{q:Wht}{vst vwa:Value}(hs:St H w σ)(h1:RI H vst s.st)(h2:RI H vwa s.wa)(hk:1≤q.kind∧q.kind≤4):
  TN (CI q.kind) [.agg #[I q.kind,I q.st,I q.wa,I s.id,I s.src,vst,vwa,I s.al,I s.up]] w fun v w'=>∃b:Bool,v= .bool b∧(b=true↔fW s q)∧St H w' σ:=by
 unfold CI;split
 ·exact zk hs h2 da
 ·split
  ·exact zj hs h2 da
  ·split
   ·exact zi hs h1 da
   ·exact zh hs h1 h2 aj
theorem GG{w:World}{q:Wht}{vst vwa:Value}{u:Int}(hs:St H w σ)(h1:RI H vst s.st)(h2:RI H vwa s.wa)(bq:fm s)(hq:fW s q)(hk:1≤q.kind∧q.kind≤4)(hi:i<s.st.length)(hkw:k<s.wa.length):
  TN (Ct q.kind) [.agg #[I q.kind,I q.st,I q.wa,I s.id,I s.src,vst,vwa,I s.al,I s.up],.agg #[I (i:Int),I (k:Int),I u]] w fun v w'=>∃H1,HLe H H1∧v=I (oa s q i k)∧St H1 w' σ:=by
 unfold Ct;split
 ·exact so hs h1 h2 bq hq da hi
 ·split
  ·exact tl hs h1 bq da hi
  ·split
   ·exact qN hs h2 bq da hkw
   ·exact sn hs aj
theorem MP{q:Wht}(h:1≤q.kind∧q.kind≤4):lD q.kind=sI q:=by
 unfold lD;rw [if_pos h];rfl
theorem GF{q:Wht}(h:fW s q):1≤q.kind∧q.kind≤4:=by
 rcases qL.1 h with h|h|h|h<;>omega
set_option maxHeartbeats 1000000 in
theorem jR{w:World}{q:Wht}{vst vwa:Value}(hs:St H w σ)(h1:RI H vst s.st)(h2:RI H vwa s.wa)(bq:fm s):
  TN 43 [.agg #[I s.id,I s.src,vst,vwa,I s.al,I s.up],.agg #[I q.kind,I q.st,I q.wa]] w fun u w'=>∃H1 vl L d b en,HLe H H1∧u= .tuple #[vl,I d,.bool b]∧bG 1 vl (Is L) en∧((b=true∧fW s q∧L=pB s q∧d=sI q)∨(b=false∧¬fW s q∧L=[]∧d=0))∧St H1 w' (en::σ):=by
 have oY:=fc bq;obtain ⟨ast,cst,rfl⟩:=RI.shape h1;obtain ⟨awa,cwa,rfl⟩:=RI.shape h2;refine Cl.o func43 ntmps43 ag2 ?_;refine .af (.bx hs fun b2 w hs=>?_);refine .bx hs fun b3 w hs=>?_
 refine .z zg (.z zg (.zn zg (.cut (fun fs w=>∃b7,nv fs ⟨46,[],[(8,.bool (decide (1≤q.kind∧q.kind≤4))),(7,Pt b7),(2,Pt b2),(3,Pt b3)]⟩∧St H w (.blk b7 [lF1 q.kind,lF2 q.kind,I (lD q.kind)]:: .blk b3 [I q.kind,I q.st,I q.wa]:: .blk b2 [I s.id,I s.src,(.slice ast s.st.length cst),(.slice awa s.wa.length cwa),I s.al,I s.up]::σ)) ?_ ?_)))
 ·refine .draw mix rfl hs fun w hs=>?_
  refine .zw 1 rfl (zfa xU) ?_;refine .y 2 rfl hs ai ?_;refine .e2 (i:=0) (j:=7) az rfl rfl rfl rfl .none .none hs ?_ ?_
  ·refine .call call91 rfl (kL hs) ?_;rintro _ w ⟨l8,rfl,hs⟩;refine .go (.q (i:=3) [.obj l8 (.map LJ.toArray 4)] rfl az .none (Ew (H:= .bot) q.kind rfl rfl) ?_);refine .zw 4 rfl zm ?_;refine .z 5 rfl zex ?_;refine .z 6 rfl zex ?_;refine .E 7 hs ?_;refine .alloc hs zeroValue202 rfl ?_;intro b7 w hs;refine .go (.E 8 hs ?_);refine .aS (vs:=[lF1 q.kind,lF2 q.kind,I (lD q.kind)]) hs rfl rfl sizeOf202 ?_ (hv:=BM _);intro w hs;refine .go (.zw 9 rfl zg ?_);refine .D hs ?_;exact nT ⟨b7,bk,hs.sb⟩
  ·refine .alloc hs zeroValue202 rfl ?_;intro b7 w hs;refine .go (.E 0 hs ?_);refine .call call91 rfl (kL hs) ?_;rintro _ w ⟨l8,rfl,hs⟩;refine .go (.q (i:=3) [.obj l8 (.map LJ.toArray 4)] rfl az .none (Ew (H:= .bot) q.kind rfl rfl) ?_);refine .zw 4 rfl zm ?_;refine .z 5 rfl zex ?_;refine .z 6 rfl zex ?_;refine .E 8 hs ?_;refine .aS (vs:=[lF1 q.kind,lF2 q.kind,I (lD q.kind)]) hs rfl rfl sizeOf202 ?_ (hv:=BM _);intro w hs;refine .go (.zw 9 rfl zg ?_);refine .D hs ?_;exact nT ⟨b7,bk,hs.sb⟩
 ·rintro fs w ⟨b7,lk,hs⟩;refine WE.sub ?_ lk;refine .af (.y hs (zls [_,_,_] isAgg51 Bm) (.y hs (zls [_,_,_,_,_,_] bg aJ) (.z (zbd (vs:=[(0,.agg #[I q.kind,I q.st,I q.wa]),(1,.agg #[I s.id,I s.src,(.slice ast s.st.length cst),(.slice awa s.wa.length cwa),I s.al,I s.up])]) [I q.kind,I q.st,I q.wa,I s.id,I s.src,(.slice ast s.st.length cst),(.slice awa s.wa.length cwa),I s.al,I s.up] sO rfl az) (.o (.alloc hs zeroValue207 rfl fun b9 w hs=>?_)))));refine .o (.aS (vs:=[_,_,_,_,_,_,_,_,_]) hs rfl rfl vW fun w hs=>?_);refine .nil (.seq (.af (.z zm (.z iW (.z zm (.bif (t':=24) rfl (fun K9=>?_) (fun K9=>?_)))))))
  ·refine .Fs 5 2 false (.zn zpT (.cT (.af (.z zg (.z zg (.zn zg (.ret (rT (?_)))))))));have hn:¬fW s q:=fun h=>by have:=GF h;simp [this] at K9
   exact Fin.kY [] [] hs fun w hs=>⟨_,results3 results43 rfl rfl rfl,H,_,[],_,_,.nul,HLe.refl H,rfl,.nil 1 none,.inr ⟨rfl,hn,rfl,rfl⟩,hs.out.nul⟩
  ·refine .T ?_;have hk:1≤q.kind∧q.kind≤4:=by simpa using K9
   rw [show lF1 q.kind= .func (.func (CI q.kind)) #[] #[] from if_pos hk,show lF2 q.kind= .func (.func (Ct q.kind)) #[] #[] from if_pos hk,MP hk] at hs;refine .z (zfa rI) (.T (.y hs (zld isAgg199) (.T (.y hs (zls [_,_,_,_,_,_,_,_,_] J3 vW) (.T (.o (.nm (first:=[]) (cap:=[]) rfl rfl (GZ q.kind) (GY (s:=s) hs h1 h2 hk) ?_)))))));rintro _ w ⟨Pr,rfl,Ik,hs⟩;refine .T (.z iW (.zn zpF (.cond rfl (fun o7=>?_) (fun o7=>?_))))
   ·refine .af (.z zg (.z zg (.zn zg (.ret (rT (?_))))));have hn:¬fW s q:=fun h=>by rw [Ik.2 h] at o7;cases o7
    exact Fin.kY [] [] hs fun w hs=>⟨_,results3 results43 rfl rfl rfl,H,_,[],_,_,.nul,HLe.refl H,rfl,.nil 1 none,.inr ⟨rfl,hn,rfl,rfl⟩,hs.out.nul⟩
   ·refine .skip (nT (.af (.o (.buildSlice (cells:=[_]) hs bL rfl rfl fun Ga w hs=>?_))));refine .o (.alloc hs gp rfl fun ib w hs=>?_);refine .o (.store hs rfl rfl aL fun w hs=>?_);refine .nil (.seq (.af (.y hs (zls [_,_,_,_,_,_] bg aJ) ?_)));have hq:fW s q:=Ik.1 (by simpa using o7);refine .o (.call call44 rfl (eG (s:=s) hs h1 h2 ⟨aj,aj⟩) ?_);rintro _ w ⟨H1,ba,aq,rfl,oh,hs⟩;have Gq:=im s q;refine .nil (.block ?_);refine .rangeFunc (gf:=92) (cap:=[Pt ba]) (xs:=wP s) (σb:=[.blk ib [.slice (some ⟨Ga,0,none⟩) 1 1],.blk Ga (Is [0]),.blk b7 [.func (.func (CI q.kind)) #[] #[],.func (.func (Ct q.kind)) #[] #[],I (sI q)],.blk b9 [I q.kind,I q.st,I q.wa,I s.id,I s.src,(.slice ast s.st.length cst),(.slice awa s.wa.length cwa),I s.al,I s.up]]) (σf:=σ) (hs.sb) trivial rfl oh call92 (fun x hx=>by
      simp only [wP,List.mem_map] at hx;obtain ⟨j,_,rfl⟩:=hx;rfl) rfl
     (I:=fun p H' σb=>∃vo en,σb=[.blk ib [vo],en,.blk b7 [.func (.func (CI q.kind)) #[] #[],.func (.func (Ct q.kind)) #[] #[],I (sI q)],.blk b9 [I q.kind,I q.st,I q.wa,I s.id,I s.src,(.slice ast s.st.length cst),(.slice awa s.wa.length cwa),I s.al,I s.up]]∧bG 1 vo (Is ((pB s q).take (p+1))) en) (Ix:=fun _ _ _=>False)
     (fun j _ _ σ g1 g2=>g2) (fun _ _ _ _ _ h=>h) ⟨_,_,rfl,.full rfl⟩ ?_ ?_ (fun D c H' σb w _ h _=>h.elim)
    ·rintro ly p hp H2 vZ tj w aW ⟨vo,en,rfl,hO⟩ hs ⟨rr,E9⟩;have DL:p<s.many:=by rw [dy] at hp;exact hp
     have fh:p/s.wa.length<s.st.length:=Nat.div_lt_of_lt_mul (by rw [Nat.mul_comm];exact DL);have HT:=Nat.mod_lt p oY.2.2.1;have hws:=yJ s q DL;have C8:(pB s q)[p+1]? =some (oa s q (p/s.wa.length) (p%s.wa.length)):=by rw [←hws];exact bJ aj
     rw [l9 hp];obtain ⟨al,ll,cl,rfl,vI⟩:=hO.shape;generalize p/s.wa.length=i at*;generalize p%s.wa.length=k at*;refine .region (.o (.alloc hs qH rfl fun Dv w hs=>?_));refine .o (.aS (vs:=[_,_,_]) hs rfl rfl DH fun w hs=>?_);refine .nil (nT ⟨H2,[.blk Dv [I (i:Int),I (k:Int),I ((p+1:Nat):Int)],.blk ib [Value.slice al ll cl],en,.blk b7 [.func (.func (CI q.kind)) #[] #[],.func (.func (Ct q.kind)) #[] #[],I (sI q)],.blk b9 [I q.kind,I q.st,I q.wa,I s.id,I s.src,(.slice ast s.st.length cst),(.slice awa s.wa.length cwa),I s.al,I s.up]],HLe.refl _,hs,?_⟩);rintro w sV - hs;refine .block (.draw mix rfl hs fun w hs=>?_);refine .y 0 rfl hs an ?_;refine .z 1 rfl (zfa rH) ?_;refine .zv 2 rfl hs (rp isAgg200) (.ys 3 rfl hs [_,_,_,_,_,_,_,_,_] J3 vW ?_);refine .ys 4 rfl hs [_,_,_] isAgg138 DH ?_;refine .E 5 hs ?_;refine .nm (first:=[]) (cap:=[]) rfl rfl (GH q.kind) (GG (s:=s) (q:=q) (i:=i) (k:=k) hs (h1.mono (aq.trans aW)) (h2.mono (aq.trans aW)) bq hq hk fh HT) ?_;rintro _ w ⟨H3,bO,rfl,hs⟩;refine .go (.E 6 hs ?_);refine .buildSlice (cells:=[_]) hs bL rfl rfl ?_;intro Pj w hs;refine .go (.E 7 hs ?_);refine .append (ys:=Is [oa s q i k]) hs bM rfl rfl hO (.own .here rfl rfl) (ky _) (fun l h=>by simp at h;omega) ?_;intro v42 en42 w eH hs;rw [show Is ((pB s q).take (p+1))++Is [oa s q i k]=Is ((pB s q).take (p+1+1)) by rw [ep C8];simp [Is]] at eH;obtain ⟨a42,l42,c42,rfl,h42⟩:=eH.shape;refine .go (.E 8 hs ?_);refine .store hs rfl rfl aL ?_;intro w hs;exact .go (.D hs (nB ⟨H3,[.blk ib [.slice a42 l42 c42],en42,.blk b7 [.func (.func (CI q.kind)) #[] #[],.func (.func (Ct q.kind)) #[] #[],I (sI q)],.blk b9 [I q.kind,I q.st,I q.wa,I s.id,I s.src,(.slice ast s.st.length cst),(.slice awa s.wa.length cwa),I s.al,I s.up]],bO,(hs.sb:St H3 w (.blk ib _::en42:: .blk b7 _:: .blk b9 _::sV)),_,_,rfl,eH⟩))
    ·rintro D H2 vZ w aW ⟨vo,en,rfl,hO⟩ hs;rw [dy,←Gq,List.take_length] at hO;replace hs:St H2 w (.obj D (.deferred (some [])):: .blk ib [vo]::en:: .blk b7 [.func (.func (CI q.kind)) #[] #[],.func (.func (Ct q.kind)) #[] #[],I (sI q)]:: .blk b9 [I q.kind,I q.st,I q.wa,I s.id,I s.src,(.slice ast s.st.length cst),(.slice awa s.wa.length cwa),I s.al,I s.up]::σ):=hs;obtain ⟨al,ll,cl,rfl,vI⟩:=hO.shape;refine nB (nT (.seq (.draw mix rfl hs fun w hs=>?_)));refine .y 0 rfl hs an ?_;refine .z 1 rfl (zfa rG) ?_;refine .y 2 rfl hs ai ?_;refine .z 3 rfl zg ?_;refine .z 4 rfl zg ?_;refine .z 5 rfl zg ?_;refine .D hs ?_;exact .ret (Fin.kY [D] [] hs fun w hs=>⟨_,results3 results43 rfl rfl rfl,H2,_,_,_,_,en,aq.trans aW,rfl,hO,.inl ⟨rfl,hq,rfl,rfl⟩,hs.sb⟩)
theorem jg{w:World}{d:Int}(hs:St H w σ)(hd:1≤d)(ha: -4608000000000000000≤a∧a≤4608000000000000000):
  TN 45 [I a,I d] w fun v w'=>v=I (a/d)∧St H w' σ:=by
 have hq: -4608000000000000000≤a.tdiv d∧a.tdiv d≤4608000000000000000:=by
  have h1:=B5 (n:=a) (d:=d) aj;have h2:a/d≤4608000000000000000:=Int.ediv_le_of_le_mul aj (by
   have:=Int.mul_le_mul_of_nonneg_left hd (show (0:Int)≤4608000000000000000 by omega);omega)
  have h3: -4608000000000000000≤a/d:=Int.le_ediv_of_mul_le aj (by
   have:=Int.mul_le_mul_of_nonneg_left hd (show (0:Int)≤4608000000000000000 by omega);omega)
  by_cases h0:0≤a
  ·rw [Int.tdiv_eq_ediv_of_nonneg h0];omega
  ·split at h1
   ·have:a/d<0:=Int.ediv_neg_of_neg_of_pos aj aj;omega
   ·omega
 have KR:=B5 (n:=a) (d:=d) aj;refine Cl.o func45 ntmps45 ag2 ?_;refine .af (.zn zg (.af (.z zm (.z zm (.q hs (BD rfl rfl aj ⟨aj,aj⟩) (.zn zg (.seq (.af (.z zm (.z zm (.z DS (.zn iG (.cu rfl (fun kB=>?_) (fun kB=>?_))))))))))))))
 ·refine .region (.z zm (.z jc (.zn zg (nT (.af (.z zm (.zn zg (.ret (Fin.bw results45 rfl ?_)))))))));rw [if_pos kB] at KR;exact ⟨by rw [KR],hs⟩
 ·refine .skip (nT (.af (.z zm (.zn zg (.ret (Fin.bw results45 rfl ?_))))));rw [if_neg kB,Int.sub_zero] at KR;exact ⟨by rw [KR],hs⟩
theorem oO{w:World}{s:Srv}{vst vwa:Value}(hs:St H w σ)(h1:RI H vst s.sp.st)(h2:RI H vwa s.sp.wa)(h3:RRd H vr s.rs)(h4:RCm H vc s.cs)(bq:fO s):
  TN 101 [.agg #[I s.sp.id,I s.sp.src,vst,vwa,I s.sp.al,I s.sp.up,vr,vc]] w fun u w'=>∃H1,∃b:Bool,HLe H H1∧u= .bool b∧(b=true↔s.sys.Sound)∧St H1 w' σ:=by
 refine Cl.o func101 ntmps101 ag1 ?_;refine .af (.bx hs fun b1 w hs=>?_);refine .zn zg (.af (.y hs (zls [_,_,_,_,_,_,_,_] bS aV) (.o (.call call54 rfl (fB (s:=s) hs h1 h2 h3 h4 bq.early) ?_))));rintro v7 w ⟨H1,aq,hS,hs⟩;refine .o (.call call178 rfl (sN (s:=s.sys) hs hS) ?_);rintro _ w ⟨H2,vx,xs,e,aW,rfl,rx,hC,hs⟩;obtain ⟨ax,cx,rfl⟩:=RI.shape rx;have QX:s.sys.check=0:=s.sys.eO.2 bq.sys;obtain rfl:e=0:=by
  cases hC with
  |bad h=>exact (h QX).elim
  |sound=>rfl
  |chain=>rfl
 have C7:=hC.Ee;refine .z zm (.z zex (.z zex (.z zg (.zn zg (.af (.z zm (.z gQ (.z zm (.lI (t':=13) rfl (fun Lc=>?_) (fun Lc=>?_))))))))))
 ·refine .T (.z zm (.T (.z (cH ae) (.T (.z gQ (.z zpT (.zn zg (.ret (Fin.bw results101 rfl ?_)))))))));first
  |exact ⟨H2,_,aq.trans aW,rfl,by rw [←C7,decide_eq_true_eq];exact ⟨fun h=>List.length_eq_zero_iff.1 aj,fun h=>by rw [h];rfl⟩,hs.out⟩
  |exact (Lc rfl).elim
 ·refine .Fs 3 2 true (.z zpF (.zn zg (.ret (Fin.bw results101 rfl ?_))));first
  |exact ⟨H2,_,aq.trans aW,rfl,by rw [←C7,decide_eq_true_eq];exact ⟨fun h=>List.length_eq_zero_iff.1 aj,fun h=>by rw [h];rfl⟩,hs.out⟩
  |exact (Lc rfl).elim
theorem IT(L:List Int)(j:Nat):L++List.replicate j 0++[0]=L++List.replicate (j+1) 0:=by
 rw [List.append_assoc,←List.replicate_succ']
set_option maxHeartbeats 1000000 in
theorem sz{w:World}{s:Srv}{q:Wht}{vst vwa:Value}(hs:St H w σ)(h1:RI H vst s.sp.st)(h2:RI H vwa s.sp.wa)(h3:RRd H vr s.rs)(h4:RCm H vc s.cs)(bq:fO s):
  TN 100 [.agg #[I s.sp.id,I s.sp.src,vst,vwa,I s.sp.al,I s.sp.up,vr,vc],.agg #[I q.kind,I q.st,I q.wa]] w fun u w'=>∃H1 ul vw L d b,HLe H H1∧u= .tuple #[.agg #[I s.sys.many,ul,vw,I d],.bool b]∧RL H1 ul s.cR∧RI H1 vw L∧L.length=s.sys.n∧((b=true∧fW s.sp q∧L=s.w q∧d=sI q)∨(b=false∧¬fW s.sp q))∧St H1 w' σ:=by
 have hn:=vj s;have hm:=bq.many;have oY:s.sys.many+1=(s.sys.n:Int):=by rw [hn];show ((s.sp.many+s.bD.length:Nat):Int)+1=_;omega
 refine Cl.o func100 ntmps100 ag2 ?_;refine .af (.bx hs fun b2 w hs=>?_);refine .bx hs fun b3 w hs=>?_
 refine .o (.alloc hs Md rfl fun b4 w hs=>?_);refine .zn zg (.af (.y hs (zls [_,_,_,_,_,_,_,_] bS aV) (.o (.call call54 rfl (fB (s:=s) hs h1 h2 h3 h4 bq.early) ?_))));rintro _ w ⟨H1,aq,⟨ul,rfl,hL⟩,hs⟩;obtain ⟨al,cl,rfl⟩:=RL.shape hL;refine .o (.alloc hs jT rfl fun b6 w hs=>?_);refine .o (.aS (vs:=[_,_]) hs rfl rfl bF fun w hs=>?_);refine .nil (.af (.z (zfa aU) (.y hs (zls [_,_,_,_,_,_] bg aJ) (.y hs (zls [_,_,_] isAgg51 Bm) (.o (.call call43 rfl (jR (s:=s.sp) (q:=q) hs (h1.mono aq) (h2.mono aq) bq.early.1) ?_))))));rintro _ w ⟨H2,vl,L0,d,b,en,aW,rfl,hO,jv,hs⟩;have hL0:L0.length≤s.sys.n:=by
  rcases jv with ⟨_,_,rfl,_⟩|⟨_,_,rfl,_⟩
  ·rw [im,hn];omega
  ·simp
 have dv:=aq.trans aW;refine .z zm (.z zex (.z zex (.z zex (.z zg (.z zg (.zn zg (.seq (.block ?_))))))));refine .loop (fun p:Nat×Value=>⟨34,[],[(7,p.2),(8,I d),(9,.bool b),(6,Pt b6),(4,Pt b4)]⟩)
  (fun p w=>L0.length+p.1≤s.sys.n∧∃en,bG 1 p.2 (Is (L0++List.replicate p.1 0)) en∧St H2 w (en:: .blk b6 [I s.sys.many,.slice al s.cR.length cl]:: .blk b4 [I 0,.slice none 0 0,.slice none 0 0,I 0]::σ)) (fun p=>s.sys.n - (L0.length+p.1)) (0,vl) bk
  ⟨by simpa using hL0,en,by simpa using hO,hs.sb⟩ ?_
 clear hO hs;rintro ⟨j,vo⟩ w ⟨hj,en,hO,hs⟩;dsimp only at hj hO ⊢;obtain ⟨ao,lo,co,rfl,Nf⟩:=hO.shape;have Nd:lo=L0.length+j:=by simp [Is] at Nf;omega
 refine .seq (.af (.z zm (.z (cH ae) (.z (zfa bH) (.y hs (zld ai) (.z cP (.zn iG (.cu rfl (fun jx=>?_) (fun jx=>?_)))))))))
 ·refine .skip (nT (.block (.region (.z zm (.o (.buildSlice (cells:=[_]) hs bL rfl rfl fun wN w hs=>?_))))));refine .o (.append (ys:=Is [0]) hs bM rfl rfl hO (.own .here rfl rfl) (ky _) (fun l' h=>by simp [Is] at h;omega) ?_);intro v28 en28 w eH hs;rw [show Is (L0++List.replicate j 0)++Is [0]=Is (L0++List.replicate (j+1) 0) by rw [←IT];simp [Is]] at eH;exact .zn zg (nB (nT ⟨(j+1,v28),bk,⟨by dsimp only;omega,_,eH,hs.sb⟩,by dsimp only;omega⟩))
 ·refine .exit (xT (xT (xB (nT (.af (.y hs (zls [_,_] dp bF) (.z zm (.z zm (.z (zbd [_,_,_,_] e9) (.z zm (.o (.aS (vs:=[_,_,_,_]) hs rfl rfl iL fun w hs=>?_))))))))))));refine .zn zg (.ret ?_);have hjn:L0.length+j=s.sys.n:=by omega
  obtain ⟨H3,bO,hR,hs⟩:=bG.bU hO (by simp;omega) hs cZ;exact Fin.kY [] [] hs fun w hs=>⟨_,results2 results100 (fq (vs:=[_,_,_,_]) hs rfl isAgg153 iL) rfl,H3,_,_,_,d,b,dv.trans bO,rfl,hL.mono (aW.trans bO),hR,by simp;omega,by
   rcases jv with ⟨g1,g2,rfl,g3⟩|⟨g1,g2,_,_⟩
   ·refine .inl ⟨g1,g2,?_,g3⟩;rw [im,hn] at hjn;unfold Srv.w;rw [show j=s.bD.length by omega]
   ·exact .inr ⟨g1,g2⟩,hs.out⟩
inductive yu(v:Srv)(q:Wht):Int→Prop
 |bad {e:Int} (h:Bj v e) (he:e≠0):yu v q e
 |what (h:fO v) (h1:¬fW v.sp q):yu v q 33
 |fls (h:fO v) (h1:fW v.sp q) (h2:¬v.sys.Sound):yu v q 35
 |ok (h:fO v) (h1:fW v.sp q) (h2:v.sys.Sound):yu v q 0
theorem yu.zero{v:Srv}{q:Wht}(h:yu v q 0):fO v∧fW v.sp q∧v.sys.Sound:=by
 generalize hz:(0:Int)=z at h
 cases h with
 |bad h he=>exact (he hz.symm).elim
 |what=>omega
 |fls=>omega
 |ok h h1 h2=>exact ⟨h,h1,h2⟩
theorem yu.qty{v:Srv}{q:Wht}{e:Int}(h:yu v q e)(he:e≠0):z8 v q 0 0 e:=by
 cases h with
 |bad h he=>exact .bad h he
 |what h h1=>exact .what h h1
 |fls h h1 h2=>exact .fls h h1 h2
 |ok=>exact (he rfl).elim
set_option maxHeartbeats 1000000 in
theorem pU{w:World}{s:Srv}{q:Wht}{vst vwa:Value}(hs:St H w σ)(h1:RI H vst s.sp.st)(h2:RI H vwa s.sp.wa)(h3:RRd H vr s.rs)(h4:RCm H vc s.cs):
  TN 51 [.agg #[I s.sp.id,I s.sp.src,vst,vwa,I s.sp.al,I s.sp.up,vr,vc],.agg #[I q.kind,I q.st,I q.wa]] w fun u w'=>∃H1 m ul vw d e,HLe H H1∧u= .tuple #[.agg #[I m,ul,vw,I d],I e]∧(∃a l c,ul= .slice a l c)∧(∃a l c,vw= .slice a l c)∧yu s q e∧(e=0→m=s.sys.many∧RL H1 ul s.cR∧RI H1 vw (s.w q)∧d=sI q)∧St H1 w' σ:=by
 refine Cl.o func51 ntmps51 ag2 ?_;refine .af (.bx hs fun b2 w hs=>?_);refine .bx hs fun b3 w hs=>?_
 refine .o (.alloc hs Md rfl fun b4 w hs=>?_);refine .zn zg (.seq (.af (.y hs (zls [_,_,_,_,_,_,_,_] bS aV) (.o (.call call53 rfl (gg (s:=s) hs h1 h2 h3 h4) ?_)))));rintro _ w ⟨H1,e,aq,rfl,hC,hs⟩;refine .zn zg (.af (.z zm (.zn gL (.gU rfl (fun kB=>?_) (fun kB=>?_)))))
 ·refine .af (.z (zbd [_,_,_,_] e9) (.z zm (.o (.aS (vs:=[_,_,_,_]) hs rfl rfl iL fun w hs=>?_))));exact .zn zg (.ret (rT ((Fin.kY [] [] hs fun w hs=>⟨_,results2 results51 (fq (vs:=[_,_,_,_]) hs rfl isAgg153 iL) rfl,H1,_,_,_,_,e,aq,rfl,⟨_,_,_,rfl⟩,⟨_,_,_,rfl⟩,.bad hC kB,fun h=>(kB h).elim,hs.out⟩))))
 ·refine .skip (nT (.af (.y hs (zls [_,_,_,_,_,_,_,_] bS aV) (.y hs (zls [_,_,_] isAgg51 Bm) ?_))));have bq:fO s:=hC.eO.1 (by simpa using kB);refine .o (.call call100 rfl (sz (s:=s) (q:=q) hs (h1.mono aq) (h2.mono aq) (h3.mono aq) (h4.mono aq) bq) ?_);rintro _ w ⟨H2,ul,vw,L,d,b,aW,rfl,hL,hR,hLl,jv,hs⟩;have dv:=aq.trans aW;obtain ⟨al,cl,rfl⟩:=RL.shape hL;obtain ⟨aw,cw,rfl⟩:=RI.shape hR;refine .z zm (.z zex (.z zex (.o (.alloc hs Md rfl fun b7 w hs=>?_))));refine .o (.aS (vs:=[_,_,_,_]) hs rfl rfl iL fun w hs=>?_);refine .zn zg (.seq (.block (.af (.z zm (.z iW (.zn zg (.cond rfl (fun sG=>?_) (fun sG=>?_))))))))
  ·refine .af (.z (zbd [_,_,_,_] e9) (.o (.aS (vs:=[_,_,_,_]) hs rfl rfl iL fun w hs=>?_)));refine .zn zg (.ret (rB (rT (?_))));have hq:¬fW s.sp q:=by
    rcases jv with ⟨g,_⟩|⟨_,g⟩
    ·subst g;cases sG
    ·exact g
   exact Fin.kY [] [] hs fun w hs=>⟨_,results2 results51 (fq (vs:=[_,_,_,_]) hs rfl isAgg153 iL) rfl,H2,_,_,_,_,_,dv,rfl,⟨_,_,_,rfl⟩,⟨_,_,_,rfl⟩,.what bq hq,fun h=>by omega,hs.out⟩
  ·refine .af (.y hs (zls [_,_,_,_,_,_,_,_] bS aV) ?_);obtain ⟨rfl,hq,rfl,rfl⟩:b=true∧fW s.sp q∧L=s.w q∧d=sI q:=jv.resolve_right fun h=>by rw [h.1] at sG;cases sG
   refine .o (.call call101 rfl (oO (s:=s) hs (h1.mono dv) (h2.mono dv) (h3.mono dv) (h4.mono dv) bq) ?_);rintro _ w ⟨H3,wN,bO,rfl,qf,hs⟩;refine .z iW (.zn zg (.cond rfl (fun jx=>?_) (fun jx=>?_)))
   ·refine .af (.z (zbd [_,_,_,_] e9) (.o (.aS (vs:=[_,_,_,_]) hs rfl rfl iL fun w hs=>?_)));exact .zn zg (.ret (rB (rT ((Fin.kY [] [] hs fun w hs=>⟨_,results2 results51 (fq (vs:=[_,_,_,_]) hs rfl isAgg153 iL) rfl,H3,_,_,_,_,_,dv.trans bO,rfl,⟨_,_,_,rfl⟩,⟨_,_,_,rfl⟩,.fls bq hq (fun h=>by rw [qf.2 h] at jx;cases jx),fun h=>by omega,hs.out⟩)))))
   ·refine .skip (nB (nT (.af (.y hs (zls [_,_,_,_] isAgg153 iL) (.o (.aS (vs:=[_,_,_,_]) hs rfl rfl iL fun w hs=>?_))))));exact .zn zg (.ret (Fin.kY [] [] hs fun w hs=>⟨_,results2 results51 (fq (vs:=[_,_,_,_]) hs rfl isAgg153 iL) rfl,H3,_,_,_,_,_,dv.trans bO,rfl,⟨_,_,_,rfl⟩,⟨_,_,_,rfl⟩,.ok bq hq (qf.1 (by simpa using jx)),fun _=>⟨rfl,hL.mono bO,hR.mono bO,rfl⟩,hs.out⟩))
set_option maxHeartbeats 1000000 in
theorem gh{w:World}{s:Srv}{q:Wht}{vst vwa:Value}(hs:St H w σ)(h1:RI H vst s.sp.st)(h2:RI H vwa s.sp.wa)(h3:RRd H vr s.rs)(h4:RCm H vc s.cs):
  TN 17 [.agg #[I s.sp.id,I s.sp.src,vst,vwa,I s.sp.al,I s.sp.up,vr,vc],.agg #[I q.kind,I q.st,I q.wa]] w fun u w'=>∃H1 lo hi e,HLe H H1∧u= .tuple #[.agg #[I lo,I hi],I e]∧z8 s q lo hi e∧St H1 w' σ:=by
 refine Cl.o func17 ntmps17 ag2 ?_;refine .af (.bx hs fun b2 w hs=>?_);refine .bx hs fun b3 w hs=>?_
 refine .o (.alloc hs uQ rfl fun b4 w hs=>?_);refine .zn zg (.af (.y hs (zls [_,_,_,_,_,_,_,_] bS aV) (.y hs (zls [_,_,_] isAgg51 Bm) (.o (.call call51 rfl (pU (s:=s) (q:=q) hs h1 h2 h3 h4) ?_)))));rintro _ w ⟨H1,m,ul,vw,d,e,aq,rfl,⟨al,ll,cl,rfl⟩,⟨aw,lw,cw,rfl⟩,hA,R0,hs⟩;refine .z zm (.z zex (.z zex (.o (.alloc hs Md rfl fun b6 w hs=>?_))));refine .o (.aS (vs:=[_,_,_,_]) hs rfl rfl iL fun w hs=>?_);refine .zn zg (.seq (.af (.z zm (.zn gL (.gU rfl (fun kq=>?_) (fun kq=>?_))))))
 ·refine .af (.z (zbd [_,_] l6) (.z zm (.o (.aS (vs:=[_,_]) hs rfl rfl ea fun w hs=>?_))));exact .zn zg (.ret (rT ((Fin.kY [] [] hs fun w hs=>⟨_,results2 results17 (fq (vs:=[_,_]) hs rfl vY ea) rfl,H1,_,_,_,aq,rfl,hA.qty kq,hs.out⟩))))
 ·refine .skip (nT (.af (.z (zfa ng) (.y hs (zls [_,_] dp bF) (.z (zfa nf) (.y hs (zld an) ?_))))));obtain rfl:e=0:=by simpa using kq
  obtain ⟨rfl,hL,hR,rfl⟩:=R0 rfl;obtain ⟨bq,hq,Aj⟩:=hA.zero;refine .o (.call call52 rfl (sM (s:=s.sys) hs ⟨_,rfl,hL⟩ hR) ?_);rintro _ w ⟨H2,lo,hi,f,aW,rfl,Rw,hs⟩;obtain rfl:=yf (bq.ask hq) Aj (fun b=>s.both) Rw;have BY:=Rw.bd;have hdp:=tc q;refine .z zm (.z zex (.z zex (.z zex (.z zg (.z zg (.zn zg (.seq (.af (.z zm (.zn gL (.gU rfl (fun o7=>?_) (fun o7=>?_))))))))))))
  ·refine .af (.z (zbd [_,_] l6) (.z zm (.o (.aS (vs:=[_,_]) hs rfl rfl ea fun w hs=>?_))));exact .zn zg (.ret (rT (((o7 rfl).elim))))
  ·refine .skip (nT (.seq (.draw mix rfl hs fun w hs=>?_)));refine .zw 0 rfl zm ?_;refine .z 1 rfl (zfa jB) ?_;refine .y 2 rfl hs ai ?_;refine .z 4 rfl zm ?_;refine .z 5 rfl (zfa jB) ?_;refine .y 6 rfl hs ai ?_;refine .E 3 hs ?_;refine .call call45 rfl (jg hs aj aj) ?_;rintro _ w ⟨rfl,hs⟩;refine .go (.E 7 hs ?_);refine .call call45 rfl (jg hs aj aj) ?_;rintro _ w ⟨rfl,hs⟩;refine .go (.zw 8 rfl (zbd [_,_] l6) (.E 9 hs ?_));refine .aS (vs:=[_,_]) hs rfl rfl ea ?_;intro w hs;refine .go (.zw 10 rfl zg ?_);refine .D hs ?_;exact .ret (Fin.kY [] [] hs fun w hs=>⟨_,results2 results17 (fq (vs:=[_,_]) hs rfl vY ea) rfl,H2,_,_,_,aq.trans aW,rfl,.ok bq hq Aj Rw,hs.out⟩)
theorem mJ{w:World}{v:Value}{rs:List (List Int)}{cap:List Value}(q:List Int→Prop)(hs:St H w σ)(hR:RT H v rs)(hl:rs.length≤9223372036854775807)(hc:∀args w,(callFunc g args).run Tryz.prog w= .ok (.enter g args) w)
  (hp:∀H' w σ r u,HLe H H'→RI H' u r→St H' w σ→TN g ([u]++cap) w fun z w'=>∃H1 b,HLe H' H1∧z= .bool b∧(b=true↔q r)∧St H1 w' σ):
  TN 158 [v,.func (.func g) #[] cap.toArray] w fun u w'=>∃H1 i,HLe H H1∧u=I i∧(0≤i↔∃x∈rs,q x)∧St H1 w' σ:=by
 obtain ⟨a,c,rfl⟩:=hR.shape;refine Cl.o func158 ntmps158 ag2 ?_;refine .af (.zn zg (.seq (.af (.z zm (.z (cH aC) (.zn zm (.for (N:=rs.length) (J:=fun k fr w=>fr=[(1,.func (.func g) #[] cap.toArray),(0,.slice a rs.length c)]∧∃H1,HLe H H1∧(∀j<k,∀y,rs[j]? =some y→¬q y)∧St H1 w σ) aj ?_ ?_ ?_)))))))
 ·exact .mk ⟨rfl,H,HLe.refl H,fun j hj=>by omega,hs⟩
 ·rintro k fr w hk ⟨rfl,H1,aq,iI,hs⟩;have hx:=sd (rs:=rs) hk;refine .block (.af (.z zm (.zn zg (.af (.z zm (.z zm (.z zm (.ixT hs (hR.mono aq) rfl rfl aC aL (show k<_ by omega) dG ?_))))))));intro vQ o14 a14 c14 gY RJ;refine .q hs (aQ rfl an gY) (.o (.nm (first:=[]) (cap:=cap) rfl rfl hc (hp _ _ _ (gr rs k) _ aq RJ hs) ?_));rintro _ w ⟨H2,oz,aW,rfl,o8,hs⟩;refine .nil (.cond rfl (fun dX=>?_) (fun dX=>?_))
  ·exact .af (.z zm (.zn zg (.ret (rB (rT (rB (rT (Fin.bw results158 rfl ⟨H2,_,aq.trans aW,rfl,⟨fun _=>⟨_,List.mem_of_getElem? hx,o8.1 dX⟩,fun _=>by omega⟩,hs⟩))))))))
  ·exact .skip (nB (nT (.mk ⟨rfl,H2,aq.trans aW,gq iI hx (fun h=>by rw [o8.2 h] at dX;cases dX),hs⟩)))
 ·rintro fr w ⟨rfl,H1,aq,iI,hs⟩;refine nT (.af (.zn zg (.ret (Fin.bw results158 rfl ?_))));exact ⟨H1,_,aq,rfl,⟨fun h=>by omega,fun ⟨x,h1,h2⟩=>by
   obtain ⟨j,hj⟩:=List.getElem?_of_mem h1;exact (iI j (List.getElem?_eq_some_iff.1 hj).1 x hj h2).elim⟩,hs⟩
theorem lx{w:World}{v:Value}{rs:List (List Int)}{cap:List Value}(q:List Int→Prop)(hs:St H w σ)(hR:RT H v rs)(hl:rs.length≤9223372036854775807)(hc:∀args w,(callFunc g args).run Tryz.prog w= .ok (.enter g args) w)
  (hp:∀H' w σ r u,HLe H H'→RI H' u r→St H' w σ→TN g ([u]++cap) w fun z w'=>∃H1 b,HLe H' H1∧z= .bool b∧(b=true↔q r)∧St H1 w' σ):
  TN 87 [v,.func (.func g) #[] cap.toArray] w fun u w'=>∃H1 b,HLe H H1∧u= .bool b∧(b=true↔∃x∈rs,q x)∧St H1 w' σ:=by
 refine Cl.o func87 ntmps87 ag2 ?_;refine .af (.zn zg (.af (.z zm (.z zm (.o (.call call158 rfl (mJ q hs hR hl hc hp) ?_))))));rintro _ w ⟨H1,i,aq,rfl,hi,hs⟩;exact .z Bq (.zn zg (.ret (Fin.bw results87 rfl ⟨H1,_,aq,rfl,by simp only [decide_eq_true_eq];exact hi,hs⟩)))
theorem tZ{w:World}{n:Int}(hs:St H w σ):
  TN 90 [I n] w fun u w'=>u= .bool (!decide (0≤n∧n≤20000))∧St H w' σ:=by
 refine Cl.o func90 ntmps90 ag1 ?_;refine .af (.zn zg (.af (.z zm (.o (.call iV rfl (aZ hs) ?_)))));rintro _ w ⟨rfl,hs⟩;exact .z iW (.zn zg (.ret (Fin.bw results90 rfl ⟨rfl,hs⟩)))
theorem xE{w:World}{v vst vwa:Value}{r:List Int}(hs:St H w σ)(hb:Row H b [I s.id,I s.src,vst,vwa,I s.al,I s.up])(h2:RI H vwa s.wa)(hr:RI H v r):
  TN 88 [v,Pt b] w fun u w'=>∃H1 bb,HLe H H1∧u= .bool bb∧(bb=true↔¬(r.length=s.wa.length∧∀x∈r,0≤x∧x≤20000))∧St H1 w' σ:=by
 obtain ⟨a,c,rfl⟩:=RI.shape hr;obtain ⟨awa,cwa,rfl⟩:=RI.shape h2;have LZ:=hb.at 3;refine Cl.o func88 ntmps88 ag2 ?_;refine .af (.zn zg (.af (.z zm (.z (cH ae) (.z (zfa aR) (.y hs (zld an) (.z (cH ae) (.z gL (.z zm (.F9 (t':=10) rfl (fun m6=>?_) (fun m6=>?_)))))))))))
 ·exact .Fs 2 6 false (.z zpT (.zn zg (.ret (Fin.bw results88 rfl ⟨H,true,HLe.refl H,rfl,⟨fun _ h=>by have:=h.1;simp_all,fun _=>rfl⟩,hs⟩))))
 ·refine .T (.z zm (.T (.o (.call call89 rfl (kV (g:=90) (cap:=[]) (fun n=>¬(0≤n∧n≤20000)) hs hr call90 (fun H' w σ n _ _ hs=>(tZ hs).mono fun u w' ⟨g1,g2⟩=>⟨H',_,HLe.refl _,g1,by simp;omega,g2⟩)) ?_))));rintro _ w ⟨H1,pn,aq,rfl,FD,hs⟩;refine .z zpF (.zn zg (.ret (Fin.bw results88 rfl ?_)));have hlen:r.length=s.wa.length:=by simp_all;omega
  exact ⟨H1,_,aq,rfl,by
   rw [FD];constructor
   ·rintro ⟨x,h1,h2⟩ h;exact h2 (h.2 x h1)
   ·intro h;refine Classical.byContradiction fun hn=>h ⟨hlen,fun x hx=>Classical.byContradiction fun hx'=>hn ⟨x,hx,hx'⟩⟩,hs⟩
theorem HL:kz s rows↔rows.length=s.st.length∧∀r∈rows,r.length=s.wa.length∧∀x∈r,0≤x∧x≤20000:=by
 constructor
 ·rintro ⟨h1,h2,h3⟩;refine ⟨h1,fun r hr=>?_⟩;obtain ⟨i,hi⟩:=List.getElem?_of_mem hr;have vJ:=(List.getElem?_eq_some_iff.1 hi).1;have hg:=sd vJ;rw [hi] at hg;obtain rfl:=Option.some.inj hg;have hl:=h2 i aj;refine ⟨hl,fun x hx=>?_⟩;obtain ⟨k,hk⟩:=List.getElem?_of_mem hx;have Al:=(List.getElem?_eq_some_iff.1 hk).1;have S5:=bJ Al;rw [hk] at S5;obtain rfl:=Option.some.inj S5;exact h3 i aj k aj
 ·rintro ⟨h1,h2⟩;have hm:∀i<s.st.length,gr rows i∈rows:=fun i hi=>List.mem_of_getElem? (sd aj)
  refine ⟨h1,fun i hi=>(h2 _ (hm i hi)).1,fun i hi k hk=>?_⟩;have hl:=(h2 _ (hm i hi)).1;exact (h2 _ (hm i hi)).2 _ (List.mem_of_getElem? (bJ aj))
theorem kh{w:World}{vst vwa:Value}(hs:St H w σ)(h1:RI H vst s.st)(h2:RI H vwa s.wa)(hr:RT H vh rows):
  TN 42 [.agg #[I s.id,I s.src,vst,vwa,I s.al,I s.up],.agg #[vh]] w fun u w'=>∃H1 b,HLe H H1∧u= .bool b∧(b=true↔kz s rows)∧St H1 w' σ:=by
 obtain ⟨ast,cst,rfl⟩:=RI.shape h1;obtain ⟨awa,cwa,rfl⟩:=RI.shape h2;obtain ⟨ah,ch,rfl⟩:=hr.shape;have zy:=(hr.len).2.2;refine Cl.o func42 ntmps42 ag2 ?_;refine .af (.bx hs fun b2 w hs=>?_);refine .bx hs fun b3 w hs=>?_
 refine .zn zg (.af (.z (zfa gM) (.y hs (zld IZ) (.z (cH aC) (.z (zfa a8) (.y hs (zld an) (.z (cH ae) (.z gQ (.z zm (.lI (t':=12) rfl (fun FD=>?_) (fun FD=>?_)))))))))))
 ·refine .T (.z (zfa gM) (.T (.y hs (zld IZ) (.T (.q hs (dt (f:=[]) (c:=[_]) rfl rfl) (.T ?_))))));obtain ⟨H0,eU,uU,hs⟩:=hs.bK (b:=b2) cZ;refine .o (.call call87 rfl (lx (g:=88) (cap:=[Pt b2]) (fun r=>¬(r.length=s.wa.length∧∀x∈r,0≤x∧x≤20000)) hs (hr.mono eU) zy call88 (fun H' w σ r u hle hu hs=>xE (s:=s) hs (uU.mono hle) (h2.mono (eU.trans hle)) hu)) ?_);rintro _ w ⟨H1,oz,aq,rfl,o8,hs⟩;refine .T (.z iW (.z zpT (.zn zg (.ret (Fin.bw results42 rfl ?_)))));exact ⟨H1,_,eU.trans aq,rfl,by
   rw [HL];have hlen:rows.length=s.st.length:=by omega
   cases A2:oz with
   |true=>
    obtain ⟨x,hx,hn⟩:=o8.1 A2;exact ⟨fun h=>(by cases h),fun h=>(hn (h.2 x hx)).elim⟩
   |false=>exact ⟨fun _=>⟨hlen,fun r hr=>Classical.byContradiction fun hn=>by rw [o8.2 ⟨r,hr,hn⟩] at A2;cases A2⟩,fun _=>rfl⟩,hs.out⟩
 ·exact .Fs 5 7 true (.z zpF (.zn zg (.ret (Fin.bw results42 rfl ⟨H,_,HLe.refl H,rfl,⟨fun h=>(by cases h),fun h=>by have:=h.len;omega⟩,hs.out⟩))))
set_option maxHeartbeats 1000000 in
theorem kM{w:World}{q:Wht}{vst vwa:Value}(hs:St H w σ)(h1:RI H vst s.st)(h2:RI H vwa s.wa)(hr:RT H vh rows):
  TN 11 [.agg #[I s.id,I s.src,vst,vwa,I s.al,I s.up],.agg #[vh],.agg #[I q.kind,I q.st,I q.wa]] w fun u w'=>∃H1 n e,HLe H H1∧u= .tuple #[I n,I e]∧vS s rows q n e∧St H1 w' σ:=by
 obtain ⟨ah,ch,rfl⟩:=hr.shape;refine Cl.o func11 ntmps11 ag3 ?_;refine .af (.bx hs fun b3 w hs=>?_);refine .bx hs fun b4 w hs=>?_
 refine .bx hs fun b5 w hs=>?_
 refine .z zg (.zn zg (.seq (.af (.y hs (zls [_,_,_,_,_,_] bg aJ) (.o (.call call41 rfl (fC (s:=s) hs h1 h2) ?_))))));rintro _ w ⟨H1,e,aq,rfl,he,hs⟩;refine .zn zg (.af (.z zm (.zn gL (.gU rfl (fun kq=>?_) (fun kq=>?_)))))
 ·refine .af (.z zm (.z zg (.zn zg (.ret (rT (?_))))));have hq:¬fm s∧e=30:=he.resolve_left fun h=>kq h.2
  exact Fin.kY [] [] hs fun w hs=>⟨_,results2 results11 rfl rfl,H1,_,_,aq,rfl,by rw [hq.2];exact .space hq.1,hs.out⟩
 ·refine .skip (nT (.seq (.af (.y hs (zls [_,_,_,_,_,_] bg aJ) (.y hs (zls [_] isAgg42 Bn) ?_)))));have bq:fm s:=(he.resolve_right fun h=>by omega).1;have oY:=fc bq;refine .o (.call call42 rfl (kh (s:=s) hs (h1.mono aq) (h2.mono aq) (hr.mono aq)) ?_);rintro _ w ⟨H2,Ps,aW,rfl,xO,hs⟩;have dv:=aq.trans aW;refine .zn iW (.cond rfl (fun km=>?_) (fun km=>?_))
  ·exact .af (.z zg (.zn zg (.ret (rT ((Fin.kY [] [] hs fun w hs=>⟨_,results2 results11 rfl rfl,H2,_,_,dv,rfl,.hull bq (fun h=>by rw [xO.2 h] at km;cases km),hs.out⟩))))))
  ·refine .skip (nT (.af (.y hs (zls [_,_,_,_,_,_] bg aJ) (.y hs (zls [_,_,_] isAgg51 Bm) ?_))));have hh:kz s rows:=xO.1 (by simpa using km);refine .o (.call call43 rfl (jR (s:=s) (q:=q) hs (h1.mono dv) (h2.mono dv) bq) ?_);rintro _ w ⟨H3,vl,L,d,b,en,bO,rfl,hO,jv,hs⟩;have jd:=dv.trans bO;obtain ⟨al,cl,rfl⟩:=hO.Eh;refine .z zm (.z zex (.z zex (.z zex (.o (.alloc hs gp rfl fun b9 w hs=>?_)))));refine .o (.store hs rfl rfl aL fun w hs=>?_);refine .z zg (.zn zg (.seq (.af (.z zm (.zn iW (.cond rfl (fun zE=>?_) (fun zE=>?_)))))))
   ·refine .af (.z zg (.zn zg (.ret (rT (?_)))));have hq:¬fW s q:=by
     rcases jv with ⟨g,_⟩|⟨_,g,_⟩
     ·subst g;cases zE
     ·exact g
    exact Fin.kY [] [] hs fun w hs=>⟨_,results2 results11 rfl rfl,H3,_,_,jd,rfl,.what bq hh hq,hs.out⟩
   ·refine .skip (nT (.af (.o (.alloc hs dA rfl fun pn w hs=>?_))));refine .o (.store hs rfl rfl ak fun w hs=>?_);refine .nil (.seq (.af (.y hs (zls [_,_,_,_,_,_] bg aJ) ?_)));obtain ⟨rfl,hq,rfl,rfl⟩:b=true∧fW s q∧L=pB s q∧d=sI q:=jv.resolve_right fun h=>by rw [h.1] at zE;cases zE
    have Gq:=im s q;obtain ⟨H4,fk,hW,hs⟩:=bG.bU hO aj hs cZ;have kP:=jd.trans fk;refine .o (.call call44 rfl (eG (s:=s) hs (h1.mono kP) (h2.mono kP) ⟨aj,aj⟩) ?_);rintro _ w ⟨H5,ba,eT,rfl,oh,hs⟩;have wF:=kP.trans eT;replace hW:=hW.mono eT;have Qo:=hr.mono wF;refine .nil (.block ?_);refine .rangeFunc (gf:=92) (cap:=[Pt ba]) (xs:=wP s) (σb:=[.blk pn [I (fD s q rows 0)],.blk b9 [.slice al (pB s q).length cl],.blk b4 [.slice ah rows.length ch]]) (σf:=σ) (hs.sb) trivial rfl oh call92 (fun x hx=>by
      simp only [wP,List.mem_map] at hx;obtain ⟨j,_,rfl⟩:=hx;rfl) rfl
     (I:=fun p H' σb=>σb=[.blk pn [I (fD s q rows p)],.blk b9 [.slice al (pB s q).length cl],.blk b4 [.slice ah rows.length ch]]) (Ix:=fun _ _ _=>False)
     (fun j _ _ σ g1 g2=>g2) (fun _ _ _ _ _ h=>h) rfl ?_ ?_ (fun D c H' σb w _ h _=>h.elim)
    ·rintro ly p hp H6 vZ tj w jh rfl hs ⟨rr,E9⟩;have DL:p<s.many:=by rw [dy] at hp;exact hp
     have fh:p/s.wa.length<s.st.length:=Nat.div_lt_of_lt_mul (by rw [Nat.mul_comm];exact DL);have HT:=Nat.mod_lt p oY.2.2.1;have mh:fD s q rows (p+1)=fD s q rows p+gi (pB s q) (p+1)*gt rows (p/s.wa.length) (p%s.wa.length):=rfl;have FG:=nG bq hq hh p aj;have xP:=nG bq hq hh (p+1) aj;have hwz:=qM bq hq;have hwz2:=nz (pB s q) (v:=p+1) (n:=s.many+1) aj;have C2:=hh.num _ fh _ HT;have oZ:=hh.row _ fh;have M8:=hh.len;have Qs:=mO (a:=gi (pB s q) (p+1)) (b:=gt rows (p/s.wa.length) (p%s.wa.length)) (A:=3456000000000) (B:=20000) aj aj;have QP:gt rows (p/s.wa.length) (p%s.wa.length)=gi (gr rows (p/s.wa.length)) (p%s.wa.length):=rfl;rw [l9 hp];generalize p/s.wa.length=i at*;generalize p%s.wa.length=k at*;rw [QP] at mh Qs C2;refine .region (.o (.alloc hs qH rfl fun l8 w hs=>?_));refine .o (.aS (vs:=[_,_,_]) hs rfl rfl DH fun w hs=>?_);refine .nil (nT ⟨H6,[.blk l8 [I (i:Int),I (k:Int),I ((p+1:Nat):Int)],.blk pn [I (fD s q rows p)],.blk b9 [.slice al (pB s q).length cl],.blk b4 [.slice ah rows.length ch]],HLe.refl _,hs,?_⟩);rintro w sV - hs;refine .block (.draw mix rfl hs fun w hs=>?_);refine .y 0 rfl hs ai ?_;refine .y 1 rfl hs an ?_;refine .z 2 rfl (zfa dL) ?_;refine .y 3 rfl hs ai ?_;refine .ixX (enc:=fun x=>[I x]) (i:=4) hs rfl az .none (hW.mono jh) rfl rfl ae ak (bJ (l:=(pB s q)) (i:=(p+1)) aj) dG ?_;intro Pk o39 mY;replace mY:=bB.one mY;refine .r (i:=5) hs rfl az .none (aQ rfl ai mY) ?_;refine .zw 6 rfl (zfa gM) ?_;refine .y 7 rfl hs IZ ?_;refine .z 8 rfl (zfa cD) ?_;refine .y 9 rfl hs ai ?_;refine .ixT (i:=10) hs rfl az .none (Qo.mono jh) rfl rfl aC aL (show i<_ by omega) dG ?_;intro TM o45 a45 c45 ND RC;refine .r (i:=11) hs rfl az .none (aQ rfl an ND) ?_;refine .zw 12 rfl (zfa bV) ?_;refine .y 13 rfl hs ai ?_;refine .ixX (enc:=fun x=>[I x]) (i:=14) hs rfl az .none RC rfl rfl ae ak (bJ (l:=(gr rows i)) (i:=k) aj) dG ?_;intro R6 o49 vL;replace vL:=bB.one vL;refine .r (i:=15) hs rfl az .none (aQ rfl ai vL) ?_;refine .zw 16 rfl mm ?_;refine .z 17 rfl cP ?_;refine .E 18 hs ?_;refine .store hs rfl rfl ak ?_;intro w hs;exact .go (.D hs (nB ⟨H6,[.blk pn [I (fD s q rows (p+1))],.blk b9 [.slice al (pB s q).length cl],.blk b4 [.slice ah rows.length ch]],HLe.refl _,by rw [mh];exact (hs.sb:St H6 w (.blk pn _:: .blk b9 _:: .blk b4 _::sV)),rfl⟩))
    ·rintro D H6 vZ w jh rfl hs;rw [dy] at hs;replace hs:St H6 w (.obj D (.deferred (some [])):: .blk pn [I (fD s q rows s.many)]:: .blk b9 [.slice al (pB s q).length cl]:: .blk b4 [.slice ah rows.length ch]::σ):=hs;have BY:=nG bq hq hh s.many aj;have hdp:=tc q;refine nB (nT (.af (.y hs (zld ai) (.z zm (.o (.call call45 rfl (jg hs aj aj) ?_))))));rintro _ w ⟨rfl,hs⟩;exact .z zg (.zn zg (.ret (Fin.kY [D] [] hs fun w hs=>⟨_,results2 results11 rfl rfl,H6,_,_,wF.trans jh,rfl,.ok bq hh hq,hs.out⟩)))
set_option maxRecDepth 100000 in
theorem wv:Tryz.prog.stoodInHeld 55=false:=by kernel_rfl
set_option maxRecDepth 100000 in
theorem CH:Tryz.prog.eqGuardType Tryz.prog.depth 55=false:=by kernel_rfl
theorem iw{w:World}{Cj bs:List Int}(hs:St H w σ)(h1:RI H v1 Cj)(h2:RI H v2 bs):
  TN 28 [v1,v2] w fun u w'=>u= .bool (decide (Cj=bs))∧St H w' σ:=by
 obtain ⟨a1,c1,rfl⟩:=RI.shape h1;obtain ⟨a2,c2,rfl⟩:=RI.shape h2;have l1:=(RI.len h1).2.2;refine Cl.o func28 ntmps28 ag2 ?_;refine .af (.zn zg (.af (.z zm (.z (cH ae) (.z zm (.z (cH ae) (.z gQ (.zn zg (.seq (.af (.zn zg (.block ?_))))))))))));refine .loop (fun p:Nat×Bool=>⟨31,[],[(6,I (p.1:Int)),(5,.bool p.2),(0,.slice a1 Cj.length c1),(1,.slice a2 bs.length c2)]⟩)
  (fun p w=>p.1≤Cj.length∧(p.2=true↔Cj.length=bs.length∧∀j<p.1,gi Cj j=gi bs j)∧St H w σ) (fun p=>Cj.length - p.1) (0,decide ((Cj.length:Int)=bs.length)) bk
  ⟨Nat.zero_le _,by dsimp only;rw [decide_eq_true_eq];exact ⟨fun h=>⟨aj,fun j hj=>by omega⟩,fun h=>by omega⟩,hs⟩ ?_
 rintro ⟨k,b⟩ w ⟨hk,hb,hs⟩;dsimp only at hk hb ⊢;refine .seq (.af (.z zm (.z zm (.z (cH ae) (.z iG (.z zm (.lI (t':=16) rfl (fun o8=>?_) (fun o8=>?_))))))))
 ·refine .T (.z zm (.zn zpT (.cond rfl (fun qe=>?_) (fun qe=>?_))))
  ·refine .skip (nT (.seq (.block (.draw mix rfl hs fun w hs=>?_))));refine .zw 0 rfl zm ?_;refine .z 1 rfl zm ?_;obtain rfl:b=true:=by assumption
   obtain ⟨hlen,uv⟩:=hb.1 rfl;refine .ixX (enc:=fun x=>[I x]) (i:=2) hs rfl az .none h1 rfl rfl ae ak (bJ (l:=Cj) (i:=k) aj) dG ?_;intro Cg o23 mZ;replace mZ:=bB.one mZ;refine .r (i:=3) hs rfl az .none (aQ rfl ai mZ) ?_;refine .zw 4 rfl zm ?_;refine .z 5 rfl zm ?_;refine .ixX (enc:=fun x=>[I x]) (i:=6) hs rfl az .none h2 rfl rfl ae ak (bJ (l:=bs) (i:=k) aj) dG ?_;intro wN o27 Db;replace Db:=bB.one Db;refine .r (i:=7) hs rfl az .none (aQ rfl ai Db) ?_;refine .zw 8 rfl gQ ?_;refine .z 9 rfl zg ?_;refine .D hs ?_;refine nB (nT (.region (.z zm (.z cP (.zn zg (nT ?_))))));exact ⟨(k+1,decide (gi Cj k=gi bs k)),.dI rfl bj bk,⟨by dsimp only;omega,by
    dsimp only;rw [decide_eq_true_eq];exact ⟨fun h=>⟨hlen,fun j hj=>by
     by_cases e:j=k
     ·subst e;exact h
     ·exact uv j aj⟩,fun h=>h.2 k aj⟩,hs⟩,by dsimp only;omega⟩
  ·refine .exit (xT (xT (xB (nT (.af (.z zm (.zn zg (.ret (Fin.bw results28 rfl ?_)))))))));have hf:b=false:=by simpa using qe
   exact ⟨by rw [hf,decide_eq_false (fun h=>by subst h;rw [hb.2 ⟨rfl,fun j _=>rfl⟩] at hf;cases hf)],hs⟩
 ·refine .Fs 1 4 true (.zn zpF (.cF (.exit (xT (xT (xB (nT (.af (.z zm (.zn zg (.ret (Fin.bw results28 rfl ⟨?_,hs⟩))))))))))))
  congr 1
  cases A2:b with
  |true=>
   obtain ⟨hl,ha⟩:=hb.1 A2;rw [decide_eq_true (JR hl fun j hj=>ha j aj)]
  |false=>rw [decide_eq_false (fun h=>by subst h;rw [hb.2 ⟨rfl,fun j _=>rfl⟩] at A2;cases A2)]
theorem cK{w:World}{n:Int}(hs:St H w σ)(hm:1≤m∧m≤4611686018427387904):
  TN 10 [I n,I m] w fun u w'=>∃k:Nat,(k:Int)<m∧u=I (k:Int)∧St H w' σ:=by
 have h1:=Int.tmod_lt_of_pos n (show 0<m by omega);have h2:=Int.lt_tmod_of_pos n (show 0<m by omega);have h3:=Int.tmod_lt_of_pos (n.tmod m+m) (show 0<m by omega);have h4:=Int.tmod_nonneg m (show 0≤n.tmod m+m by omega);refine Cl.o func10 ntmps10 ag2 ?_;exact .af (.zn zg (.af (.z zm (.z zm (.z DS (.z zm (.z cP (.z zm (.z DS (.zn zg (.ret (Fin.bw results10 rfl ⟨((n.tmod m+m).tmod m).toNat,aj,by rw [show (((n.tmod m+m).tmod m).toNat:Int)=(n.tmod m+m).tmod m by omega],hs⟩))))))))))))
theorem bZ{w:World}{v:Value}{i n:Int}(hs:St H w σ)(hr:RI H v l)(hi:0≤i)(hn:1≤n∧n≤4611686018427387904):
  TN 79 [v,I i,I n] w fun u w'=>∃k:Nat,(k:Int)<n∧u=I (k:Int)∧St H w' σ:=by
 obtain ⟨a,c,rfl⟩:=RI.shape hr;refine Cl.o func79 ntmps79 ag3 ?_;refine .af (.zn zg (.seq (.af (.z zm (.z (cH ae) (.zn gQ (.cu rfl (fun pC=>?_) (fun pC=>?_))))))))
 ·exact .af (.zn zg (.ret (rT (Fin.bw results79 rfl ⟨0,aj,rfl,hs⟩))))
 ·refine .skip (nT (.af (.z zm (.z zm (.z zm (.z (cH ae) (.z DS ?_)))))));have g1:=Int.tmod_lt_of_pos i (show 0<(l.length:Int) by omega);have g2:=Int.tmod_nonneg (l.length:Int) hi;refine .ixY hs hr rfl rfl ae ak (bJ (l:=l) (i:=(i.tmod l.length).toNat) aj) aj ?_;intro IS o15 um;refine .q hs (aQ rfl ai um) (.z zm (.o (.call jG rfl (cK hs hn) ?_)));rintro _ w ⟨k,hk,rfl,hs⟩;exact .zn zg (.ret (Fin.bw results79 rfl ⟨k,hk,rfl,hs⟩))
theorem tI{w:World}{v:Value}{s:dd}{jt:List Int}(hs:St H w σ)(hr:RSy H v s)(hp:RI H vp jt)(sa:s.Ok∧s.Sound):
  TN 82 [v,vp] w fun u w'=>∃H1 vx x en,HLe H H1∧u= .tuple #[vx,I 0]∧bG 1 vx (Is x) en∧wS s jt x∧St H1 w' (en::σ):=by
 obtain ⟨ul,rfl,hl⟩:=hr;obtain ⟨al,cl,rfl⟩:=RL.shape hl;obtain ⟨ap,cp,rfl⟩:=RI.shape hp;refine Cl.o func82 ntmps82 ag2 ?_;refine .af (.bx hs fun b2 w hs=>?_);refine .z zg (.zn zg (.af (.y hs (zls [_,_] dp bF) (.o (.call call80 rfl (me (s:=s) hs ⟨_,rfl,hl⟩) ?_)))));rintro _ w ⟨H1,vt,e,aq,rfl,jv,hs⟩;refine .z zm (.z zex (.z zex (.z zg (.zn zg (.seq (.af (.z zm (.zn gL (.gU rfl (fun vM=>?_) (fun vM=>?_))))))))))
 ·refine .af (.z zm (.z zg (.zn zg (.ret (rT (Fin.oe results82 rfl rfl ?_))))))
  rcases jv with ⟨h1,rfl,rfl⟩|⟨h1,h2,rfl,rfl⟩|⟨_,_,rfl,_⟩
  ·exact (h1 (s.eO.2 sa.1)).elim
  ·exact (h2 sa.2).elim
  ·exact (vM rfl).elim
 ·refine .skip (nT (.af ?_));subst vM;obtain ⟨bq,Aj,rs,Dg,L3,N2⟩:s.Ok∧s.Sound∧∃rs,RT H1 vt rs∧Sq s.n rs∧kD s.n s.cJ (gt rs):=by
   rcases jv with ⟨h1,h2,_⟩|⟨_,_,h2,_⟩|⟨h1,h2,_,h3⟩
   ·exact (h1 h2.symm).elim
   ·omega
   ·exact ⟨h1,h2,h3⟩
  obtain ⟨at',ct,rfl⟩:=Dg.shape;have Im:=bq.OG Aj N2;have zy:=L3.1;have BQ:=bq.m0;have Ju:=bq.m1;have Fc:(s.n:Int)=s.many+1:=by simp only [dd.n];omega
  refine .o (.buildSlice (cells:=[_]) hs bL rfl rfl fun Ma w hs=>?_);refine .zn zg (.seq (.af (.zn zg (.block ?_))));refine .loop (fun p:List Int×Value=>⟨109,[],[(9,I (p.1.length:Int)),(8,p.2),(6,.slice at' rs.length ct),(2,Pt b2),(1,.slice ap jt.length cp)]⟩)
   (fun p w=>LC (gt rs) (pR jt) p.1∧p.1.length≤s.n∧∃en,bG 1 p.2 (Is p.1) en∧St H1 w (en:: .blk b2 [I s.many,.slice al s.cR.length cl]::σ))
   (fun p=>s.n - p.1.length) ([0],.slice (some ⟨Ma,0,none⟩) 1 1) bk
   ⟨.start,s.EJ,_,.full (len:=1) rfl,hs⟩ ?_
  rintro ⟨X,v8⟩ w ⟨hP,Tn,en,hO,hs⟩;dsimp only at hP Tn hO ⊢;have hI:=hP.inv (fun i n hn=>xn jt i hn) Im Tn;have hX0:=hI.l0;have Ir:=hO;obtain ⟨b,cap,sp,rfl,rfl,mX⟩:=hO.some hX0;refine .seq (.af (.z zm (.z (zfa bH) (.y hs (zld ai) (.zn pE (.cu rfl (fun iJ=>?_) (fun iJ=>?_)))))))
  ·refine .skip (nT (.seq (.block (.af (.zn zg ?_)))));have Df:X.length<s.n:=by omega
   refine .af (.zn zg (.seq (.af (.z zm (.z (cH ae) (.zn zm (.for (N:=X.length) (J:=fun k fr w=>∃lo hi,fr=[(10,I lo),(11,I hi),(9,I (X.length:Int)),(8,.slice (some ⟨b,0,none⟩) X.length cap),(6,.slice at' rs.length ct),(2,Pt b2),(1,.slice ap jt.length cp)]∧LoI (gt rs) X X.length k lo∧HiI (gt rs) X X.length k hi∧St H1 w (.blk b (Is X++sp):: .blk b2 [I s.many,.slice al s.cR.length cl]::σ)) aj ?_ ?_ ?_)))))))
   ·exact .mk ⟨_,_,rfl,.start _ _ _,.start _ _ _,hs⟩
   ·rintro k fr w hk ⟨lo,hi,rfl,L6,L7,hs⟩;have To:=hI.bd k hk;have Jn:(gr rs X.length).length=s.n:=L3.2 _ Df;have xI:(gr rs k).length=s.n:=L3.2 _ aj;have xP:gi (gr rs X.length) k≠1000000000→-1400000≤gi (gr rs X.length) k∧gi (gr rs X.length) k≤1400000:=fun h=>Im.bd X.length k Df aj h
    have uU:gi (gr rs k) X.length≠1000000000→-1400000≤gi (gr rs k) X.length∧gi (gr rs k) X.length≤1400000:=fun h=>Im.bd k X.length aj Df h
    refine .block (.af (.z zm (.zn zg (.cut (fun fs w=>∃lo',nv fs ⟨109,[],[(10,I lo'),(12,I (k:Int)),(31,I (k:Int)),(30,I (X.length:Int)),(11,I hi),(9,I (X.length:Int)),(8,.slice (some ⟨b,0,none⟩) X.length cap),(6,.slice at' rs.length ct),(2,Pt b2),(1,.slice ap jt.length cp)]⟩∧LoI (gt rs) X X.length (k+1) lo'∧St H1 w (.blk b (Is X++sp):: .blk b2 [I s.many,.slice al s.cR.length cl]::σ)) ?_ ?_))))
    ·refine .af (.z zm (.z zm (.ixT hs Dg rfl rfl aC aL (show X.length<rs.length by omega) rfl ?_)));intro R8 o36 a36 c36 xK RD;refine .q hs (aQ rfl an xK) (.z zm (.ixY hs RD rfl rfl ae ak (bJ (l:=gr rs X.length) (i:=k) aj) rfl ?_));intro Pk o39 mY;refine .q hs (aQ rfl ai mY) (.zn gL (.gU rfl (fun C9=>?_) (fun C9=>?_)))
     ·refine .draw mix rfl hs fun w hs=>?_
      refine .zw 0 rfl zm ?_;refine .z 1 rfl zm ?_;refine .z 2 rfl zm ?_;refine .z 3 rfl (zix ae ak) ?_;refine .load (i:=4) hs rfl az .none rfl ai ?_ (hv:=fG hk sp);refine .zw 5 rfl zm ?_;refine .z 6 rfl zm ?_;refine .ixT (i:=7) hs rfl az .none Dg rfl rfl aC aL (show X.length<rs.length by omega) rfl ?_;intro R6 o49 a49 c49 vL RB;refine .r (i:=8) hs rfl az .none (aQ rfl an vL) ?_;refine .zw 9 rfl zm (.ixX (enc:=fun x=>[I x]) (i:=10) hs rfl az .none RB rfl rfl ae ak (bJ (l:=gr rs X.length) (i:=k) aj) rfl ?_);intro b52 o52 Fp;replace Fp:=bB.one Fp;refine .r (i:=11) hs rfl az .none (aQ rfl ai Fp) ?_;refine .zw 12 rfl jc ?_;refine .z 13 rfl LH ?_;refine .z 14 rfl zg ?_;refine .D hs ?_;exact nT ⟨_,bk,L6.put C9 (by have:=xP C9;have:=To;have:=Im.n65;show -1000000000≤gi X k - gi (gr rs X.length) k;omega),hs⟩
     ·exact .skip (nT ⟨_,bk,L6.skip C9,hs⟩)
    ·rintro fs w ⟨lo',lk,N8,hs⟩;refine WE.sub ?_ lk;refine .af (.z zm (.z zm (.ixT hs Dg rfl rfl aC aL (show k<rs.length by omega) rfl ?_)));intro On o58 a58 c58 vK RA;refine .q hs (aQ rfl an vK) (.z zm (.ixY hs RA rfl rfl ae ak (bJ (l:=gr rs k) (i:=X.length) aj) rfl ?_));intro b61 o61 A1;refine .q hs (aQ rfl ai A1) (.zn gL (.gU rfl (fun sF=>?_) (fun sF=>?_)))
     ·refine .draw mix rfl hs fun w hs=>?_
      refine .zw 0 rfl zm ?_;refine .z 1 rfl zm ?_;refine .z 2 rfl zm ?_;refine .z 3 rfl (zix ae ak) ?_;refine .load (i:=4) hs rfl az .none rfl ai ?_ (hv:=fG hk sp);refine .zw 5 rfl zm ?_;refine .z 6 rfl zm ?_;refine .ixT (i:=7) hs rfl az .none Dg rfl rfl aC aL (show k<rs.length by omega) rfl ?_;intro b71 o71 a71 c71 Q2 Rz;refine .r (i:=8) hs rfl az .none (aQ rfl an Q2) ?_;refine .zw 9 rfl zm (.ixX (enc:=fun x=>[I x]) (i:=10) hs rfl az .none Rz rfl rfl ae ak (bJ (l:=gr rs k) (i:=X.length) aj) rfl ?_);intro b74 o74 KW;replace KW:=bB.one KW;refine .r (i:=11) hs rfl az .none (aQ rfl ai KW) ?_;refine .zw 12 rfl cP ?_;refine .z 13 rfl Gy ?_;refine .z 14 rfl zg ?_;refine .D hs ?_;exact nB (nT (.mk ⟨lo',_,rfl,N8,L7.put sF (by have:=uU sF;have:=To;have:=Im.n65;show gi X k+gi (gr rs k) X.length≤1000000000;omega),hs⟩))
     ·exact .skip (nB (nT (.mk ⟨lo',_,rfl,N8,L7.skip sF,hs⟩)))
   ·rintro fr w ⟨lo,hi,rfl,L6,L7,hs⟩;have DN:=L6.bd hI Im Df (Nat.le_refl _);have hhb:=L7.bd hI Im Df (Nat.le_refl _);have hle:=hI.le Im Df rfl L6 L7;simp only [free] at DN hhb hle;have OT:=xn jt ((X.length:Int) - 1) (n:=hi - lo+1);refine nT (.af (.zn zg (.cut (fun fs w=>nv fs ⟨109,[],[(13,I (jN lo hi (pR jt ((X.length:Int) - 1) (hi - lo+1)))),(9,I (X.length:Int)),(8,.slice (some ⟨b,0,none⟩) X.length cap),(6,.slice at' rs.length ct),(2,Pt b2),(1,.slice ap jt.length cp)]⟩∧St H1 w (.blk b (Is X++sp):: .blk b2 [I s.many,.slice al s.cR.length cl]::σ)) ?_ ?_)))
    ·refine .block (.af (.z zm (.z gL (.z zm (.F9 (t':=82) rfl (fun NW=>?_) (fun NW=>?_))))))
     ·refine .T (.z zm (.T (.z gL (.z zpT (.zn zg (.gU rfl (fun NB=>?_) (fun NB=>?_)))))))
      ·refine .region (.z zm (.z zm (.z zm (.z jc (.z zm (.z zm (.z jc (.z cP (.o (.call call154 rfl (tJ hs (hp.mono aq) aj aj) ?_))))))))));rintro _ w ⟨rfl,hs⟩;have Jo:hi≠1000000000:=by simpa using NB
       have hq2:=hle (by simpa using NW) Jo;have hq3:=OT aj;refine .z cP (.zn zg (nB (nT ⟨.dI rfl ?_ bk,hs⟩)));unfold jN;simp only [free] at*;split<;>(try split)<;>first|rfl|omega|(simp_all;done)|(exfalso;simp_all;omega)
      ·refine .af (.z zm (.z gL (.zn zg (.gU rfl (fun Ia=>?_) (fun Ia=>?_)))))
       ·refine .region (.z zm (.zn zg (nB (nT ⟨.dI rfl ?_ bk,hs⟩))));unfold jN;simp only [free] at*;split<;>(try split)<;>first|rfl|omega|(simp_all;done)|(exfalso;simp_all;omega)
       ·refine .af (.z zm (.z gL (.zn zg (.gU rfl (fun zG=>?_) (fun zG=>?_)))))
        ·refine .region (.z zm (.zn zg (nB (nT ⟨.dI rfl ?_ bk,hs⟩))));unfold jN;simp only [free] at*;split<;>(try split)<;>first|rfl|omega|(simp_all;done)|(exfalso;simp_all;omega)
        ·refine .skip (nB (nT ⟨.dI rfl ?_ bk,hs⟩));unfold jN;simp only [free] at*;split<;>(try split)<;>first|rfl|omega|(simp_all;done)|(exfalso;simp_all;omega)
     ·refine .Fs 2 2 true (.z zpF (.zn zg (.cF (.af (.z zm (.z gL (.zn zg (.gU rfl (fun Ia=>?_) (fun Ia=>?_)))))))))
      ·refine .region (.z zm (.zn zg (nB (nT ⟨.dI rfl ?_ bk,hs⟩))));unfold jN;simp only [free] at*;split<;>(try split)<;>first|rfl|omega|(simp_all;done)|(exfalso;simp_all;omega)
      ·refine .af (.z zm (.z gL (.zn zg (.gU rfl (fun zG=>?_) (fun zG=>?_)))))
       ·refine .region (.z zm (.zn zg (nB (nT ⟨.dI rfl ?_ bk,hs⟩))));unfold jN;simp only [free] at*;split<;>(try split)<;>first|rfl|omega|(simp_all;done)|(exfalso;simp_all;omega)
       ·refine .skip (nB (nT ⟨.dI rfl ?_ bk,hs⟩));unfold jN;simp only [free] at*;split<;>(try split)<;>first|rfl|omega|(simp_all;done)|(exfalso;simp_all;omega)
    ·rintro fs w ⟨lk,hs⟩;refine WE.sub ?_ lk;refine .region (.z zm (.z zm (.o (.buildSlice (cells:=[_]) hs bL rfl rfl fun Si w hs=>?_))));refine .o (.append (ys:=Is [jN lo hi (pR jt ((X.length:Int) - 1) (hi - lo+1))]) hs bM rfl rfl Ir (.own .here rfl rfl) (ky _) (fun l' h=>by simp at h;have:=Im.n65;omega) ?_);intro v107 en107 w eH hs;rw [←List.map_append] at eH;exact .zn zg (nB (nT (.region (.z zm (.z cP (.zn zg (nT ⟨(X++[jN lo hi (pR jt ((X.length:Int) - 1) (hi - lo+1))],v107),.dI rfl bj bk,⟨hP.snoc L6 L7,by simp;omega,_,eH,hs.sb⟩,by simp;omega⟩)))))))
  ·exact .exit (xT (xT (xB (nT (.af (.z zm (.z zg (.zn zg (.ret (Fin.oe results82 rfl rfl ⟨H1,_,X,_,aq,rfl,Ir,⟨gt rs,N2,hP,aj⟩,hs.sb⟩))))))))))
theorem mM{w:World}{s:Srv}{vst vwa:Value}(hs:St H w σ)(h1:RI H vst s.sp.st)(h2:RI H vwa s.sp.wa)(h3:RRd H vr s.rs)(h4:RCm H vc s.cs)(he:s.early):
  TN 81 [.agg #[I s.sp.id,I s.sp.src,vst,vwa,I s.sp.al,I s.sp.up,vr,vc]] w fun u w'=>∃H1,HLe H H1∧RSy H1 u s.nP∧St H1 w' σ:=by
 obtain ⟨ar,cr,rfl⟩:=RRd.shape h3;have KR:=B4 s;have zy:=he.2.1;refine Cl.o func81 ntmps81 ag1 ?_;refine .af (.bx hs fun b1 w hs=>?_);refine .o (.alloc hs jT rfl fun b2 w hs=>?_);refine .nil (.af (.y hs (zls [_,_,_,_,_,_,_,_] bS aV) (.o (.call call153 rfl (q5 (s:=s) hs h1 h2 h3 h4 he) ?_))));rintro _ w ⟨H1,aq,⟨ul,rfl,hL⟩,hs⟩;have hL:RL H1 ul s.cR:=hL;obtain ⟨al,cl,rfl⟩:=RL.shape hL;have SZ:=RS.len hL;rw [List.length_map] at SZ;refine .o (.alloc hs jT rfl fun b3 w hs=>?_);refine .o (.aS (vs:=[_,_]) hs rfl rfl bF fun w hs=>?_);refine .nil (.af (.z (zfa bN) (.y hs (zld fJ) (.z (zfa bN) (.y hs (zld fJ) (.z (cH a7) (.z (zfa aN) (.y hs (zld dT) (.z (cH aO) (.z mm (.z jc (.q hs (pQ (k:=s.m8.length) rfl rfl a7 ck aj aj) ?_))))))))))));have hT:=RS.head hL (k:=s.m8.length) aj;rw [←List.map_take,zN] at hT;refine .z (zfa bN) (.o (.store hs rfl rfl sizeOf110 fun w hs=>?_));refine .nil (.af (.y hs (zls [_,_] dp bF) (.o (.aS (vs:=[_,_]) hs rfl rfl bF fun w hs=>?_))));exact .nil (.ret (Fin.kY [] [] hs fun w hs=>⟨_,results1 results81 (fq (vs:=[_,_]) hs rfl dp bF),H1,aq,⟨_,rfl,hT⟩,hs.out⟩))
theorem tG{w:World}{s:Srv}{vst vwa:Value}(hs:St H w σ)(h1:RI H vst s.sp.st)(h2:RI H vwa s.sp.wa)(h3:RRd H vr s.rs)(h4:RCm H vc s.cs)(he:s.early)(bq:s.nP.Ok):
  TN 32 [.agg #[I s.sp.id,I s.sp.src,vst,vwa,I s.sp.al,I s.sp.up,vr,vc]] w fun u w'=>∃H1,∃b:Bool,HLe H H1∧u= .bool b∧(b=false→s.nP.Sound)∧St H1 w' σ:=by
 refine Cl.o func32 ntmps32 ag1 ?_;refine .af (.bx hs fun b1 w hs=>?_);refine .zn zg (.af (.y hs (zls [_,_,_,_,_,_,_,_] bS aV) (.o (.call call81 rfl (mM (s:=s) hs h1 h2 h3 h4 he) ?_))));rintro _ w ⟨H1,aq,hS,hs⟩;refine .o (.call call80 rfl (me (s:=s.nP) hs hS) ?_);rintro _ w ⟨H2,vt,e,aW,rfl,jv,hs⟩;refine .z zm (.z zex (.z zex (.z zg (.zn zg (.af (.z zm (.z gL (.zn zg (.ret (Fin.bw results32 rfl ?_))))))))));exact ⟨H2,_,aq.trans aW,rfl,fun h=>by
  rcases jv with ⟨k1,_,_⟩|⟨_,_,k3,_⟩|⟨_,k2,_,_⟩
  ·exact (k1 (s.nP.eO.2 bq)).elim
  ·subst k3;simp at h
  ·exact k2,hs.out⟩
theorem tF{w:World}{s:Srv}{vst vwa:Value}{jt:List Int}(hs:St H w σ)(h1:RI H vst s.sp.st)(h2:RI H vwa s.sp.wa)(h3:RRd H vr s.rs)(h4:RCm H vc s.cs)(hp:RI H vp jt)(he:s.early)(bq:s.nP.Ok∧s.nP.Sound):
  TN 33 [.agg #[I s.sp.id,I s.sp.src,vst,vwa,I s.sp.al,I s.sp.up,vr,vc],vp] w fun u w'=>∃H1 x en,HLe H H1∧bG 1 u (Is x) en∧wS s.nP jt x∧St H1 w' (en::σ):=by
 obtain ⟨ap,cp,rfl⟩:=RI.shape hp;refine Cl.o func33 ntmps33 ag2 ?_;refine .af (.bx hs fun b2 w hs=>?_);refine .zn zg (.af (.y hs (zls [_,_,_,_,_,_,_,_] bS aV) (.o (.call call81 rfl (mM (s:=s) hs h1 h2 h3 h4 he) ?_))));rintro _ w ⟨H1,aq,hS,hs⟩;refine .z zm (.o (.call call82 rfl (tI (s:=s.nP) hs hS (hp.mono aq) bq) ?_));rintro _ w ⟨H2,vx,x,en,aW,rfl,hO,hP,hs⟩;exact .z zm (.z zex (.z zex (.z zg (.zn zg (.af (.z zm (.zn zg (.ret (Fin.bw results33 rfl ⟨H2,x,en,aq.trans aW,hO,hP,hs.sb⟩)))))))))
structure Grow(d D:Int)(L:List Int)(x:Int):Prop where
 low:d≤x
 high:x≤d+D*L.length
 all:∀i<L.length,d≤gi L i∧gi L i<x
 rise:∀i,i+1<L.length→gi L i<gi L (i+1)
theorem Grow.start(d D:Int):Grow d D [] d:=⟨aj,bj,fun i h=>by simp at h,fun i h=>by simp at h⟩
theorem Grow.snoc{d D x y:Int}{L:List Int}(h:Grow d D L x)(h1:x<y)(h2:y≤x+D):Grow d D (L++[x]) y:=by
 obtain ⟨g1,g2,g3,g4⟩:=h;refine ⟨aj,?_,fun i hi=>?_,fun i hi=>?_⟩
 ·rw [List.length_append,List.length_singleton,Int.natCast_add,Int.mul_add];omega
 ·rw [List.length_append,List.length_singleton] at hi;rw [Bb];split
  ·have:=g3 i da;omega
  ·rw [if_pos aj];omega
 ·rw [List.length_append,List.length_singleton] at hi;rw [Bb,Bb,if_pos aj];split
  ·exact g4 i da
  ·rw [if_pos aj];exact (g3 i aj).2
theorem Grow.plc{d D x:Int}{many:Nat}{L:List Int}(h:Grow d D L x)(hd:0≤d)(h2:2≤L.length)(hm:L.length≤many)(hx:d+D*L.length≤most):gl many most L:=
 ⟨h2,hm,by have:=(h.all 0 aj).1;omega,by have:=(h.all (L.length - 1) aj).2;have:=h.high;omega,h.rise⟩
structure Ow(s:Spc):Prop where
 ok:fm s
 st:s.st.length≤4
 wa:s.wa.length≤3
set_option maxHeartbeats 1000000 in
theorem oM{w:World}{v:Value}(hs:St H w σ)(hr:RI H v l):
  TN 31 [v] w fun u w'=>∃s vst vwa e1 e2,u= .agg #[I s.id,I s.src,vst,vwa,I s.al,I s.up]∧Ow s∧bG 1 vst (Is s.st) e1∧bG 1 vwa (Is s.wa) e2∧St H w' (e1::e2::σ):=by
 obtain ⟨av,cv,rfl⟩:=RI.shape hr;refine Cl.o func31 ntmps31 ag1 ?_;refine .af (.o (.alloc hs gn rfl fun b2 w hs=>?_));refine .nil (.af (.z zm (.o (.call qK rfl (bZ hs hr aj aj) ?_))));rintro _ w ⟨Ky,g11,rfl,hs⟩;refine .z cP (.z zm (.o (.call qK rfl (bZ hs hr aj aj) ?_)));rintro _ w ⟨PS,g14,rfl,hs⟩;refine .z cP (.z (zbd [_,_,_,_,_,_] l5) (.o (.alloc hs gn rfl fun b3 w hs=>?_)));refine .o (.aS (vs:=[_,_,_,_,_,_]) hs rfl rfl aJ fun w hs=>?_);refine .nil (.af (.z zm (.o (.call qK rfl (bZ hs hr aj aj) ?_))));rintro _ w ⟨OM,g18,rfl,hs⟩;refine .z cP (.z mm (.zn zg (.af (.zn zg (.seq (.af (.zn zg (.block ?_))))))));refine .loop (fun p:List Int×Int×Value=>⟨90,[],[(6,I (p.1.length:Int)),(5,I p.2.1),(4,I (100*(1+(OM:Int)))),(0,.slice av l.length cv),(3,Pt b3),(2,Pt b2)]⟩)
  (fun p w=>p.1.length≤4∧Grow 0 2707 p.1 p.2.1∧∃en,bG 1 p.2.2 (Is p.1) en∧St H w (en:: .blk b3 [I (1+(Ky:Int)),I (1+(PS:Int)),p.2.2,.slice none 0 0,I 0,I 0]:: .blk b2 [I 0,I 0,.slice none 0 0,.slice none 0 0,I 0,I 0]::σ)) (fun p=>4 - p.1.length) ([],0,.slice none 0 0) bk
  ⟨bj,.start _ _,_,.nil 1 none,hs.nul⟩ ?_
 clear hs;rintro ⟨L,x,vo⟩ w ⟨Ty,hG,en,hO,hs⟩;dsimp only at Ty hG hO hs ⊢;obtain ⟨ao,lo,co,rfl,-⟩:=hO.shape;have BP:=hG.low;have AT:=hG.high;refine .seq (.af (.z zm (.z zm (.o (.call qK rfl (bZ hs hr aj aj) ?_)))));rintro _ w ⟨k23,g23,rfl,hs⟩;refine .z cP (.zn iG (.cu rfl (fun jx=>?_) (fun jx=>?_)))
 ·refine .skip (nT (.seq (.block (.af (.z (zfa a8) (.y hs (zld an) (.z zm (.o (.buildSlice (cells:=[_]) hs bL rfl rfl fun Ga w hs=>?_)))))))));refine .o (.append (ys:=Is [x]) hs bM rfl rfl hO (.own .here rfl rfl) (ky _) (fun l' h=>by simp at h;omega) ?_);intro v32 en32 w eH hs;rw [←List.map_append] at eH;obtain ⟨a32,l32,c32,rfl,-⟩:=eH.shape;refine .z (zfa a8) (.o (.store hs rfl rfl aL fun w hs=>?_));refine .nil (.region (.z zm (.z zm (.z zm (.z zm (.z cP (.o (.call qK rfl (bZ hs hr aj aj) ?_))))))));rintro _ w ⟨PR,g39,rfl,hs⟩;have m41:=mO (a:=100*(1+(OM:Int))) (b:=1+(PR:Int)) (A:=900) (B:=3) aj aj;have m41':100≤100*(1+(OM:Int))*(1+(PR:Int)):=by
   have:=Int.mul_le_mul (a:=100) (c:=100*(1+(OM:Int))) (b:=1) (d:=1+(PR:Int)) aj aj aj aj;omega
  refine .z cP (.z mm (.z cP (.z zm (.o (.call qK rfl (bZ hs hr aj aj) ?_)))));rintro _ w ⟨Je,g44,rfl,hs⟩;refine .z zm (.z zm (.z cP (.o (.call qK rfl (bZ hs hr aj aj) ?_))));rintro _ w ⟨Jd,g48,rfl,hs⟩;have m49:0≤(Je:Int)*(Jd:Int)∧(Je:Int)*(Jd:Int)≤1:=by
   have e1:Je=0∨Je=1:=by omega
   rcases e1 with rfl|rfl<;>simp<;>omega
  exact .z mm (.z mm (.z cP (.zn zg (nB (nT (.region (.z zm (.z cP (.zn zg (nT ⟨(L++[x],_,.slice a32 l32 c32),.dI rfl bj bk,⟨by simp;omega,hG.snoc (by dsimp only;omega) (by dsimp only;omega),_,eH,hs.sb⟩,by simp;omega⟩))))))))))
 ·refine .exit (xT (xT (xB (nT (.af (.z zm ?_))))));have N9:2≤L.length:=by omega
  refine .o (.call qK rfl (bZ hs hr aj aj) ?_);rintro _ w ⟨OL,g53,rfl,hs⟩;refine .z cP (.z mm (.zn zg (.af (.z zm (.o (.call qK rfl (bZ hs hr aj aj) ?_))))));rintro _ w ⟨SJ,g57,rfl,hs⟩;refine .z mm (.zn zg (.seq (.af (.zn zg (.block ?_)))));refine .loop (fun p:List Int×Int×Value=>⟨90,[],[(9,I (p.1.length:Int)),(8,I p.2.1),(7,I (50*(1+(OL:Int)))),(0,.slice av l.length cv),(3,Pt b3),(2,Pt b2)]⟩)
   (fun p w=>p.1.length≤3∧Grow (10*(SJ:Int)) 1350 p.1 p.2.1∧∃en2,bG 1 p.2.2 (Is p.1) en2∧St H w (en2:: .blk b3 [I (1+(Ky:Int)),I (1+(PS:Int)),.slice ao lo co,p.2.2,I 0,I 0]:: .blk b2 [I 0,I 0,.slice none 0 0,.slice none 0 0,I 0,I 0]::en::σ)) (fun p=>3 - p.1.length) ([],10*(SJ:Int),.slice none 0 0) bk
   ⟨bj,.start _ _,_,.nil 1 none,(hs.sb).nul⟩ ?_
  clear hs;rintro ⟨L2,y,vo2⟩ w ⟨Tw,Oc,en2,eH,hs⟩;dsimp only at Tw Oc eH hs ⊢;obtain ⟨ap,lp,cp,rfl,-⟩:=eH.shape;have hy0:=Oc.low;have PY:=Oc.high;refine .seq (.af (.z zm (.z zm (.o (.call qK rfl (bZ hs hr aj aj) ?_)))));rintro _ w ⟨k61,g61,rfl,hs⟩;refine .z cP (.zn iG (.cu rfl (fun sF=>?_) (fun sF=>?_)))
  ·refine .skip (nT (.seq (.block (.af (.z (zfa aR) (.y hs (zld an) (.z zm (.o (.buildSlice (cells:=[_]) hs bL rfl rfl fun b69 w hs=>?_)))))))));refine .o (.append (ys:=Is [y]) hs bM rfl rfl eH (.own .here rfl rfl) (ky _) (fun l' h=>by simp at h;omega) ?_);intro v70 en70 w jy hs;rw [←List.map_append] at jy;obtain ⟨a70,l70,c70,rfl,-⟩:=jy.shape;refine .z (zfa aR) (.o (.store hs rfl rfl aL fun w hs=>?_));refine .nil (.region (.z zm (.z zm (.z zm (.z zm (.z cP (.o (.call qK rfl (bZ hs hr aj aj) ?_))))))));rintro _ w ⟨PQ,g77,rfl,hs⟩;have m79:=mO (a:=50*(1+(OL:Int))) (b:=1+(PQ:Int)) (A:=450) (B:=3) aj aj;have m79':50≤50*(1+(OL:Int))*(1+(PQ:Int)):=by
    have:=Int.mul_le_mul (a:=50) (c:=50*(1+(OL:Int))) (b:=1) (d:=1+(PQ:Int)) aj aj aj aj;omega
   exact .z cP (.z mm (.z cP (.zn zg (nB (nT (.region (.z zm (.z cP (.zn zg (nT ⟨(L2++[y],_,.slice a70 l70 c70),.dI rfl bj bk,⟨by simp;omega,Oc.snoc (by dsimp only;omega) (by dsimp only;omega),_,jy,hs.sb⟩,by simp;omega⟩))))))))))
  ·refine .exit (xT (xT (xB (nT (.af (.z zm (.o (.call qK rfl (bZ hs hr aj aj) ?_))))))));rintro _ w ⟨k83,g83,rfl,hs⟩;refine .z mm (.z zm (.o (.call qK rfl (bZ hs hr aj aj) ?_)));rintro _ w ⟨k86,g86,rfl,hs⟩;refine .z mm (.z (zbd [_,_] si) (.z (zfa dM) (.o (.aS (vs:=[_,_]) hs rfl rfl sizeOf31 fun w hs=>?_))));refine .nil (.af (.y hs (zls [_,_,_,_,_,_] bg aJ) (.o (.aS (vs:=[_,_,_,_,_,_]) hs rfl rfl aJ fun w hs=>?_))));refine .nil (.ret ?_);exact Fin.kY [] [] hs fun w hs=>⟨_,results1 results31 (fq (vs:=[_,_,_,_,_,_]) hs rfl bg aJ),⟨1+(Ky:Int),1+(PS:Int),L,L2,100*(k83:Int),100*(k86:Int)⟩,.slice ao lo co,.slice ap lp cp,en,en2,rfl,
    ⟨⟨hG.plc aj N9 aj aj,Oc.plc aj aj aj aj,by dsimp only;omega,by dsimp only;omega,by dsimp only;omega,by dsimp only;omega⟩,Ty,Tw⟩,hO,eH,hs.sb⟩
instance (s:Spc) (r:Rdg):Decidable (j5 s r):=
 decidable_of_iff ((1≤r.src∧r.src≤99999)∧(0≤r.st∧r.st≤(s.st.length:Int) - 1)∧(0≤r.wa∧r.wa≤(s.wa.length:Int) - 1)∧(0≤r.tol∧r.tol≤1000)∧(0≤r.val∧r.val≤20000 - r.tol)∧(1≤r.tape∧r.tape≤99)∧(0≤r.day∧r.day≤100000))
  ⟨fun ⟨a,b,c,d,e,f,g⟩=>⟨a,b,c,d,e,f,g⟩,fun ⟨a,b,c,d,e,f,g⟩=>⟨a,b,c,d,e,f,g⟩⟩
def gS(s:Spc)(rs:List Rdg):List Rdg:=rs.filter fun r=>decide (j5 s r)
theorem CY(s:Spc){rs:List Rdg}{k:Nat}{r:Rdg}(h:rs[k]? =some r):gS s (rs.take (k+1))=if j5 s r then gS s (rs.take k)++[r] else gS s (rs.take k):=by
 unfold gS;rw [ep h,List.filter_append];by_cases e:j5 s r
 ·simp [e]
 ·simp [e]
theorem tY(s:Spc)(rs:List Rdg):(gS s rs).length≤rs.length:=List.length_filter_le _ _
theorem zo{rs:List Rdg}{r:Rdg}(h:r∈gS s rs):r∈rs∧j5 s r:=by
 unfold gS at h;simpa using List.mem_filter.1 h
theorem HH{rs:List Rdg}(h:t∈aK (gS s rs)):t∈aK rs:=by
 obtain ⟨r,h1,h2⟩:=dK.1 h;exact dK.2 ⟨r,(zo h1).1,h2⟩
def mz(v:Srv)(x:List Int)(t:TD):Int:=gi x (v.sp.many+1+(jH v.bD t).toNat)
def MQ(v:Srv)(x:List Int):List Int:=x.take (v.sp.many+1)++(aK (gS v.sp v.rs)).map (mz v x)
set_option maxHeartbeats 1000000 in
theorem tE{w:World}{rs:List Rdg}(hs:St H w σ)(hr:RRd H vr rs)(hl:rs.length≤1000000):
  TN 37 [vr] w fun u w'=>∃en,bG 2 u (tdc (aK rs)).flatten en∧St H w' (en::σ):=by
 obtain ⟨ar,cr,rfl⟩:=RRd.shape hr;refine Cl.o func37 ntmps37 ag1 ?_;refine .af (.zn zg (.af (.zn zg (.seq (.af (.zn zg (.block ?_)))))));refine .loop (fun p:Nat×Value=>⟨32,[],[(4,I (p.1:Int)),(3,p.2),(0,.slice ar rs.length cr)]⟩)
  (fun p w=>p.1≤rs.length∧∃en,bG 2 p.2 (tdc (aK (rs.take p.1))).flatten en∧St H w (en::σ)) (fun p=>rs.length - p.1) (0,.slice none 0 0) bk
  ⟨Nat.zero_le _,_,.nil 2 none,hs.nul⟩ ?_
 rintro ⟨k,vo⟩ w ⟨hk,en,hO,hs⟩;dsimp only at hk hO ⊢;have yx:=kf rs k aj;obtain ⟨ao,co,rfl⟩:=hO.iO (oG _) aj;rw [dJ] at hO ⊢;refine .seq (.af (.z zm (.z zm (.z (cH aO) (.zn iG (.cu rfl (fun pC=>?_) (fun pC=>?_)))))))
 ·refine .skip (nT (.seq (.block (.seq (.draw mix rfl hs fun w hs=>?_)))));refine .zw 0 rfl zm ?_;refine .z 1 rfl zm ?_;obtain ⟨r,hx⟩:=nth (l:=rs) (k:=k) aj;have E4:=jr hx;refine .ixX (enc:=Rdg.c) (i:=2) hs rfl az .none hr rfl rfl aO bh hx dG ?_;intro vQ o14 gY;have d14:cellAt H vQ (o14+5)=some (I r.tape):=gY 5 _ rfl;refine .zw 3 rfl (zfa dB) ?_;refine .y 4 rfl hs ai ?_;refine .z 5 rfl zm ?_;refine .z 6 rfl zm ?_;refine .ixX (enc:=Rdg.c) (i:=7) hs rfl az .none hr rfl rfl aO bh hx dG ?_;intro Ch o19 nN;have d19:cellAt H Ch (o19+6)=some (I r.day):=nN 6 _ rfl;refine .zw 8 rfl (zfa dk) ?_;refine .y 9 rfl hs ai ?_;refine .z 10 rfl (zbd [_,_] gH) ?_;refine .E 11 hs ?_;refine .alloc hs qI rfl ?_;intro b5 w hs;refine .go (.E 12 hs ?_);refine .aS (vs:=[_,_]) hs rfl rfl bP ?_;intro w hs;refine .go (.D hs (.af (.z zm (.y hs (zls [_,_] gK bP) (.o (.call call36 rfl (mL (t:=r.td) (hs.sb:St H w (en:: .blk b5 [I r.tape,I r.day]::σ)) hO aj) ?_))))));rintro _ w ⟨rfl,hs⟩;have Fc:=rQ (l:=aK (rs.take k)) (t:=r.td);refine .zn iG (.cu rfl (fun iJ=>?_) (fun iJ=>?_))
  ·refine .region (.z zm (.y hs (zls [_,_] gK bP) (.o (.buildSlice (cells:=[_,_]) hs gV rfl rfl fun Pq w hs=>?_))));refine .o (.append (ys:=r.td.c) hs dS rfl rfl hO (.own .here rfl rfl) (by simp [TD.c,Value.oneCell']) (fun l h=>by rw [bu _ (oG _),dJ] at h;omega) ?_);intro v30 en30 w eH hs;refine .zn zg (nB (nT (.region (.z zm (.z cP (.zn zg (nT ?_)))))));have hn:r.td∉aK (rs.take k):=fun hm=>by have:=Fc.2 hm;omega
   rw [←w5,show aK (rs.take k)++[r.td]=aK (rs.take (k+1)) by rw [E4];unfold qz;rw [if_neg hn]] at eH;exact ⟨(k+1,v30),.dI rfl bj bk,⟨by dsimp only;omega,_,eH,hs.sb⟩,by dsimp only;omega⟩
  ·refine .skip (nB (nT (.region (.z zm (.z cP (.zn zg (nT ?_)))))));have hm:r.td∈aK (rs.take k):=Fc.1 aj;exact ⟨(k+1,_),.dI rfl bj bk,⟨by dsimp only;omega,en,by dsimp only;rw [E4];unfold qz;rw [if_pos hm];exact hO,hs.sb⟩,by dsimp only;omega⟩
 ·refine .exit (xT (xT (xB (nT (.af (.z zm (.zn zg (.ret (Fin.bw results37 rfl ?_)))))))));obtain rfl:k=rs.length:=by omega
  rw [List.take_length] at hO;exact ⟨en,by rw [List.take_length];exact hO,hs⟩
set_option maxHeartbeats 2000000 in
theorem pP{w:World}{s:Srv}{vst vwa:Value}(hs:St H w σ)(h1:RI H vst s.sp.st)(h2:RI H vwa s.sp.wa)(h3:RRd H vr s.rs)(hc:∃a l c,vc= .slice a l c)(hx:RI H vx x)(sD:x.length=s.sys.n)(hb:s.sp.st.length≤1000∧s.sp.wa.length≤1000∧s.rs.length≤1000):
  TN 38 [.agg #[I s.sp.id,I s.sp.src,vst,vwa,I s.sp.al,I s.sp.up,vr,vc],vx] w fun u w'=>∃H1 vr' vy e1 e2,HLe H H1∧u= .tuple #[.agg #[I s.sp.id,I s.sp.src,vst,vwa,I s.sp.al,I s.sp.up,vr',vc],vy]∧bG 7 vr' (rdc (gS s.sp s.rs)).flatten e1∧bG 1 vy (Is (MQ s x)) e2∧St H1 w' (e1::e2::σ):=by
 obtain ⟨ast,cst,rfl⟩:=RI.shape h1;obtain ⟨awa,cwa,rfl⟩:=RI.shape h2;obtain ⟨ar,cr,rfl⟩:=RRd.shape h3;obtain ⟨ac,lc,cc,rfl⟩:=hc;obtain ⟨ax,cx,rfl⟩:=RI.shape hx;have hm:s.sp.many≤1000000:=Nat.mul_le_mul hb.1 hb.2.1;have hn:=vj s;have yx:=cW s.rs;refine Cl.o func38 ntmps38 ag2 ?_;refine .af (.bx hs fun b2 w hs=>?_);refine .o (.alloc hs iF rfl fun b4 w hs=>?_);refine .zn zg (.af (.z (zfa aN) (.y hs (zld dT) (.o (.call call37 rfl (ij (rs:=s.rs) hs h3 aj) ?_)))));rintro v15 w ⟨H1,aq,hT,hs⟩;obtain ⟨at',ct,rfl⟩:=RTd.shape hT;refine .zn zg (.af (.z (zfa aU) (.y hs (zls [_,_,_,_,_,_] bg aJ) (.o (.call call35 rfl (fZ (s:=s.sp) hs (h1.mono aq) (h2.mono aq) ⟨hb.1,hb.2.1⟩) ?_)))));rintro _ w ⟨rfl,hs⟩;refine .zn zg (.af (.y hs (zls [_,_,_,_,_,_,_,_] bS aV) (.o (.alloc hs iF rfl fun b8 w hs=>?_))));refine .o (.aS (vs:=[_,_,_,_,_,_,_,_]) hs rfl rfl aV fun w hs=>?_);refine .nil (.af (.z (zfa aN) (.o (.store hs rfl rfl Bo fun w hs=>?_))));refine .nil (.seq (.af (.zn zg (.block ?_))));refine .loop (fun p:Nat×Value=>⟨78,[],[(9,I (p.1:Int)),(8,Pt b8),(7,I (s.sp.many:Int)),(6,.slice at' (aK s.rs).length ct),(4,Pt b4),(2,Pt b2),(1,.slice ax x.length cx)]⟩)
  (fun p w=>p.1≤s.rs.length∧∃en,bG 7 p.2 (rdc (gS s.sp (s.rs.take p.1))).flatten en∧St H1 w (en:: .blk b8 [I s.sp.id,I s.sp.src,.slice ast s.sp.st.length cst,.slice awa s.sp.wa.length cwa,I s.sp.al,I s.sp.up,p.2,.slice ac lc cc]:: .blk b4 [I 0,I 0,.slice none 0 0,.slice none 0 0,I 0,I 0,.slice none 0 0,.slice none 0 0]:: .blk b2 [I s.sp.id,I s.sp.src,.slice ast s.sp.st.length cst,.slice awa s.sp.wa.length cwa,I s.sp.al,I s.sp.up,.slice ar s.rs.length cr,.slice ac lc cc]::σ)) (fun p=>s.rs.length - p.1) (0,.slice none 0 0) bk
  ⟨Nat.zero_le _,_,.nil 7 none,hs.nul⟩ ?_
 clear hs;rintro ⟨k,vo⟩ w ⟨hk,en,hO,hs⟩;dsimp only at hk hO hs ⊢;have Al:=tY s.sp (s.rs.take k);rw [List.length_take] at Al;obtain ⟨ao,lo,co,rfl,-⟩:=hO.shape;refine .seq (.af (.z zm (.z (zfa aN) (.y hs (zld dT) (.z (cH aO) (.zn iG (.cu rfl (fun jx=>?_) (fun jx=>?_))))))))
 ·refine .skip (nT (.seq (.block (.seq (.draw mix rfl hs fun w hs=>?_)))));refine .zw 0 rfl (zfa aU) ?_;refine .ys 1 rfl hs [_,_,_,_,_,_] bg aJ ?_;refine .z 2 rfl (zfa aN) ?_;refine .y 3 rfl hs dT ?_;refine .z 4 rfl zm ?_;obtain ⟨r,hr⟩:=nth (l:=s.rs) (k:=k) aj;have SP:=CY s.sp hr;refine .ixX (enc:=Rdg.c) (i:=5) hs rfl az .none (h3.mono aq) rfl rfl aO bh hr dG ?_;intro b33 o33 xL;refine .r (i:=6) hs rfl az .none (bE (vs:=r.c) rfl fY bh xL) ?_;refine .E 7 hs ?_;refine .call call83 rfl (lM (s:=s.sp) (r:=r) hs (h1.mono aq) (h2.mono aq)) ?_;rintro _ w ⟨Po,rfl,A3,hs⟩;refine .go (.D hs (.cond rfl (fun rD=>?_) (fun rD=>?_)))
  ·refine .draw mix rfl hs fun w hs=>?_
   refine .zw 0 rfl (zfa aN) ?_;refine .y 1 rfl hs dT ?_;refine .z 2 rfl (zfa aN) ?_;refine .y 3 rfl hs dT ?_;refine .z 4 rfl zm ?_;refine .ixX (enc:=Rdg.c) (i:=5) hs rfl az .none (h3.mono aq) rfl rfl aO bh hr dG ?_;intro Pj o41 C9;refine .r (i:=6) hs rfl az .none (bE (vs:=r.c) rfl fY bh C9) ?_;refine .E 7 hs ?_;refine .buildSlice (cells:=r.c) hs dz rfl az ?_;intro Pg w hs;refine .go (.E 8 hs ?_);refine .append (ys:=r.c) hs bI rfl rfl hO (.own .here rfl rfl) (by simp [Rdg.c,Value.oneCell']) (fun l' h=>by rw [bu _ (jX _),cf] at h;omega) ?_;intro v44 en44 w eH hs;rw [←nA,show gS s.sp (s.rs.take k)++[r]=gS s.sp (s.rs.take (k+1)) by rw [SP,if_pos (A3.1 (by simpa using rD))]] at eH;obtain ⟨a44,l44,c44,rfl,-⟩:=eH.shape;refine .go (.zw 9 rfl (zfa aN) (.E 10 hs ?_));refine .store hs rfl rfl Bo ?_;intro w hs;exact .go (.D hs (nB (nT (.region (.z zm (.z cP (.zn zg (nT ⟨(k+1,.slice a44 l44 c44),.dI rfl bj bk,⟨by dsimp only;omega,_,eH,hs.sb⟩,by dsimp only;omega⟩))))))))
  ·exact .skip (nB (nT (.region (.z zm (.z cP (.zn zg (nT ⟨(k+1,.slice ao lo co),.dI rfl bj bk,⟨by dsimp only;omega,en,by dsimp only;rw [SP,if_neg (fun h=>by rw [A3.2 h] at rD;cases rD)];exact hO,hs.sb⟩,by dsimp only;omega⟩)))))))
 ·refine .exit (xT (xT (xB (nT (.af ?_)))));obtain rfl:k=s.rs.length:=by omega
  rw [List.take_length] at hO;refine .o (.buildSlice (cells:=[]) hs sh rfl rfl fun b46 w hs=>?_);refine .z zm (.z zm (.z cP (.q hs (pQ (k:=s.sp.many+1) rfl rfl ae ak rfl (by have:=(RS.len hx).2.1;omega)) ?_)));refine .o (.append (xs:=[]) (ys:=Is (x.take (s.sp.many+1))) hs bM rfl rfl (.full (len:=0) rfl) (.ints (RI.head (hx.mono aq) (k:=s.sp.many+1) aj)) (ky _) (fun l h=>by simp at h;rw [List.length_take];omega) ?_);intro v51 en51 w jy hs;rw [List.nil_append] at jy;refine .zn zg (.af (.z (zfa aN) (.y hs (zld dT) ?_)));have Al:=tY s.sp s.rs;obtain ⟨H2,aW,hRR,yA,back⟩:=hO.AP (jX _) aj (by rw [cf];omega) (hs.sb:St H1 w (en::en51:: .blk b8 [I s.sp.id,I s.sp.src,.slice ast s.sp.st.length cst,.slice awa s.sp.wa.length cwa,I s.sp.al,I s.sp.up,.slice ao lo co,.slice ac lc cc]:: .blk b4 [I 0,I 0,.slice none 0 0,.slice none 0 0,I 0,I 0,.slice none 0 0,.slice none 0 0]:: .blk b2 [I s.sp.id,I s.sp.src,.slice ast s.sp.st.length cst,.slice awa s.sp.wa.length cwa,I s.sp.al,I s.sp.up,.slice ar s.rs.length cr,.slice ac lc cc]::σ));refine .o (.call call37 rfl (tE (rs:=gS s.sp s.rs) yA hRR aj) ?_);rintro v54 w ⟨enT,hOT,hsT⟩;have hs:=back (HLe.refl _) hsT;have P8:=cW (gS s.sp s.rs);obtain ⟨H3,bO,O8,hs⟩:=bG.bK (m:=2) (cs:=tdc (aK (gS s.sp s.rs))) hOT (oG _) aj (by rw [dJ];omega) hs (.there .here);have O8:RTd H3 v54 (aK (gS s.sp s.rs)):=O8;obtain ⟨a54,c54,rfl⟩:=RTd.shape O8;refine .zn zg (.seq (.af (.zn zg (.block ?_))));refine .loop (fun p:Nat×Value=>⟨78,[],[(12,I (p.1:Int)),(10,p.2),(11,.slice a54 (aK (gS s.sp s.rs)).length c54),(8,Pt b8),(7,I (s.sp.many:Int)),(6,.slice at' (aK s.rs).length ct),(4,Pt b4),(1,.slice ax x.length cx)]⟩)
   (fun p w=>p.1≤(aK (gS s.sp s.rs)).length∧∃en2,bG 1 p.2 (Is (x.take (s.sp.many+1)++((aK (gS s.sp s.rs)).take p.1).map (mz s x))) en2∧St H3 w (en2:: .blk b8 [I s.sp.id,I s.sp.src,.slice ast s.sp.st.length cst,.slice awa s.sp.wa.length cwa,I s.sp.al,I s.sp.up,.slice ao lo co,.slice ac lc cc]:: .blk b4 [I 0,I 0,.slice none 0 0,.slice none 0 0,I 0,I 0,.slice none 0 0,.slice none 0 0]::en::σ)) (fun p=>(aK (gS s.sp s.rs)).length - p.1) (0,v51) bk
   ⟨Nat.zero_le _,en51,by simpa using jy,hs.sb⟩ ?_
  clear hs;rintro ⟨j,vy⟩ w ⟨hj,en2,uW,hs⟩;dsimp only at hj uW hs ⊢;obtain ⟨ay,ly,cy,rfl,-⟩:=uW.shape;refine .seq (.af (.z zm (.z zm (.z (cH br) (.zn iG (.cu rfl (fun vK=>?_) (fun vK=>?_)))))))
  ·refine .skip (nT (.seq (.block (.region (.z zm (.z zm (.z zm (.z cP (.z zm (.z zm (.z zm ?_)))))))))));obtain ⟨t,ht⟩:=nth (l:=aK (gS s.sp s.rs)) (k:=j) aj;have htm:t∈s.bD:=HH (List.mem_of_getElem? ht);obtain ⟨q,q1,q2,q3⟩:=gu htm;have q3':q<(aK s.rs).length:=q3;have q1':jH (aK s.rs) t=(q:Int):=q1;have hnt:s.sys.n=s.sp.many+(aK s.rs).length+1:=hn;have QR:mz s x t=gi x (s.sp.many+1+q):=by unfold mz;rw [q1,Int.toNat_natCast]
   refine .ixX (enc:=TD.c) hs O8 rfl rfl br bP ht dG ?_;intro b68 o68 Q3;refine .q hs (bE (vs:=t.c) rfl gK bP Q3) (.o (.call call36 rfl (jJ (t:=t) hs (hT.mono bO) aj) ?_));rintro _ w ⟨rfl,hs⟩;rw [q1'];refine .z cP (.ixY hs (hx.mono (aq.trans bO)) rfl rfl ae ak (bJ (l:=x) (i:=s.sp.many+1+q) aj) aj ?_);intro b72 o72 Q1;refine .q hs (aQ rfl ai Q1) (.o (.buildSlice (cells:=[_]) hs bL rfl rfl fun b74 w hs=>?_));refine .o (.append (ys:=Is [gi x (s.sp.many+1+q)]) hs bM rfl rfl uW (.own .here rfl rfl) (ky _) (fun l' h=>by simp at h;omega) ?_);intro v75 en75 w Dh hs;rw [←List.map_append,List.append_assoc,←QR,show ((aK (gS s.sp s.rs)).take j).map (mz s x)++[mz s x t]=((aK (gS s.sp s.rs)).take (j+1)).map (mz s x) by rw [ep ht];simp] at Dh;obtain ⟨a75,l75,c75,rfl,-⟩:=Dh.shape;exact .zn zg (nB (nT (.region (.z zm (.z cP (.zn zg (nT ⟨(j+1,.slice a75 l75 c75),.dI rfl bj bk,⟨by dsimp only;omega,_,Dh,hs.sb⟩,by dsimp only;omega⟩)))))))
  ·refine .exit (xT (xT (xB (nT (.af (.y hs (zls [_,_,_,_,_,_,_,_] bS aV) (.z zm (.o (.aS (vs:=[_,_,_,_,_,_,_,_]) hs rfl rfl aV fun w hs=>?_)))))))));refine .zn zg (.ret ?_);obtain rfl:j=(aK (gS s.sp s.rs)).length:=by omega
   rw [List.take_length] at uW;exact Fin.kY [] [] hs fun w hs=>⟨_,results2 results38 (fq (vs:=[_,_,_,_,_,_,_,_]) hs rfl bS aV) rfl,H3,_,_,en,en2,aq.trans bO,rfl,hO,uW,hs.sb⟩
theorem CX{rs R:List Rdg}{cs:List Cmp}(hf:gP (Srv.nP ⟨s,rs,cs⟩).cJ (gi x))(BP:gi x 0=0)(sD:x.length=s.many+(aK rs).length+1)(ht:aK R=aK rs)(hS:∀r∈R,RdS s r)(hR:∀r∈R,Gf s (aK rs) x r):
  nu ⟨s,gS s R,cs⟩ (MQ ⟨s,R,cs⟩ x):=by
 have hl:(x.take (s.many+1)).length=s.many+1:=by rw [List.length_take];omega
 refine EO (R:=R) (x:=x) List.filter_sublist hS BP (FN hf ht hR) ?_ (fun b hb=>?_) fun j hj=>?_
 ·show (x.take (s.many+1)++(aK (gS s R)).map (mz ⟨s,R,cs⟩ x)).length=_;rw [List.length_append,hl,List.length_map]
 ·show gi (x.take (s.many+1)++(aK (gS s R)).map (mz ⟨s,R,cs⟩ x)) b=_;unfold gi;simp only [List.getD];rw [List.getElem?_append_left aj,List.getElem?_take_of_lt aj]
 ·show gi (x.take (s.many+1)++(aK (gS s R)).map (mz ⟨s,R,cs⟩ x)) (s.many+1+j)=_;have e:∀t,(aK (gS s R))[j]? =some t→gi (x.take (s.many+1)++(aK (gS s R)).map (mz ⟨s,R,cs⟩ x)) (s.many+1+j)=mz ⟨s,R,cs⟩ x t:=fun t ht=>by
   unfold gi;simp only [List.getD];rw [List.getElem?_append_right aj,hl,show s.many+1+j - (s.many+1)=j by omega,List.getElem?_map,ht];rfl
  rw [e _ (Au hj)];rfl
set_option maxHeartbeats 2000000 in
theorem vA{w:World}(hs:St H w σ)(g1:RI H vs sl)(g2:RF5 H v5 fL)(g3:RF4 H v4 fV)(g4:RI H vp pk):
  TN 7 [.agg #[vs,v5,v4,vp,I z1,I z2,I z3]] w fun u w'=>∃H1 s y vst vwa vr vc vy e1 e2 e3 e4 e5,HLe H H1∧u= .tuple #[.agg #[I s.sp.id,I s.sp.src,vst,vwa,I s.sp.al,I s.sp.up,vr,vc],vy]∧sR s∧JW s vst vwa vr vc e1 e2 e3 e4∧bG 1 vy (Is y) e5∧nu s y∧St H1 w' (e1::e2::e3::e4::e5::σ):=by
 obtain ⟨avs,cvs,rfl⟩:=RI.shape g1;obtain ⟨av5,cv5,rfl⟩:=g2.shape;obtain ⟨av4,cv4,rfl⟩:=g3.shape;obtain ⟨avp,cvp,rfl⟩:=RI.shape g4;refine Cl.o func7 ntmps7 ag1 ?_;refine .af (.bx hs fun b1 w hs=>?_);refine .o (.alloc hs iF rfl fun b2 w hs=>?_);refine .zn zg (.af (.z (zfa ni) (.y hs (zld an) (.o (.call call31 rfl (oM hs g1) ?_)))));rintro _ w ⟨s,vst,vwa,e1,e2,rfl,JH,Ir,eH,hs⟩;have N3:=JH.st;have N1:=JH.wa;have hSt2:=JH.ok.st.two;have hWa2:=JH.ok.wa.two;obtain ⟨ast,lst,cst,rfl,QD⟩:=Ir.shape;obtain ⟨awa,lwa,cwa,rfl,QC⟩:=eH.shape;obtain rfl:s.st.length=lst:=by simpa [Is] using QD
 obtain rfl:s.wa.length=lwa:=by simpa [Is] using QC
 refine .z (zbd [_,_,_,_,_,_,_,_] ox) (.o (.alloc hs iF rfl fun b4 w hs=>?_));refine .o (.aS (vs:=[_,_,_,_,_,_,_,_]) hs rfl rfl aV fun w hs=>?_);refine .nil (.af (.z (zfa aU) (.y hs (zls [_,_,_,_,_,_] bg aJ) (.o (.alloc hs gn rfl fun b5 w hs=>?_)))));refine .o (.aS (vs:=[_,_,_,_,_,_]) hs rfl rfl aJ fun w hs=>?_);refine .nil (.cut (fun fs w=>∃rs e3 ar cr,nv fs ⟨208,[],[(5,Pt b5),(4,Pt b4),(2,Pt b2),(1,Pt b1)]⟩∧rs.length≤14∧rs.length≤fL.length∧(∀r∈rs,j5 s r)∧bG 7 (.slice ar rs.length cr) (rdc rs).flatten e3∧St H w (e3:: .blk b5 [I s.id,I s.src,.slice ast s.st.length cst,.slice awa s.wa.length cwa,I s.al,I s.up]:: .blk b4 [I s.id,I s.src,.slice ast s.st.length cst,.slice awa s.wa.length cwa,I s.al,I s.up,.slice ar rs.length cr,.slice none 0 0]::e1::e2:: .blk b2 [I 0,I 0,.slice none 0 0,.slice none 0 0,I 0,I 0,.slice none 0 0,.slice none 0 0]:: .blk b1 [.slice avs sl.length cvs,.slice av5 fL.length cv5,.slice av4 fV.length cv4,.slice avp pk.length cvp,I z1,I z2,I z3]::σ)) ?_ ?_)
 ·refine .af (.zn zg (.block ?_));refine .loop (fun p:List Rdg×Option Addr×Nat=>⟨208,[],[(6,I (p.1.length:Int)),(5,Pt b5),(4,Pt b4),(2,Pt b2),(1,Pt b1)]⟩)
   (fun p w=>p.1.length≤14∧p.1.length≤fL.length∧(∀r∈p.1,j5 s r)∧∃e3,bG 7 (.slice p.2.1 p.1.length p.2.2) (rdc p.1).flatten e3∧
    St H w (e3:: .blk b5 [I s.id,I s.src,.slice ast s.st.length cst,.slice awa s.wa.length cwa,I s.al,I s.up]:: .blk b4 [I s.id,I s.src,.slice ast s.st.length cst,.slice awa s.wa.length cwa,I s.al,I s.up,.slice p.2.1 p.1.length p.2.2,.slice none 0 0]::e1::e2:: .blk b2 [I 0,I 0,.slice none 0 0,.slice none 0 0,I 0,I 0,.slice none 0 0,.slice none 0 0]:: .blk b1 [.slice avs sl.length cvs,.slice av5 fL.length cv5,.slice av4 fV.length cv4,.slice avp pk.length cvp,I z1,I z2,I z3]::σ)) (fun p=>14 - p.1.length) ([],none,0) bk
   ⟨bj,bj,bj,_,.nil 7 none,(hs.sb).nul⟩ ?_
  clear hs;rintro ⟨rs,ar,cr⟩ w ⟨AV,OR,ub,e3,jy,hs⟩;dsimp only at AV OR ub jy hs ⊢;refine .seq (.af (.z zm (.z (zfa gC) (.y hs (zld isAgg23) (.z (cH runUnderlying23) (.z iG (.z zm (.lI (t':=31) rfl (fun A4=>?_) (fun A4=>?_)))))))))
  ·refine .T (.z zm (.T (.z iG (.zn zpT (.cu rfl (fun nM=>?_) (fun nM=>?_))))))
   ·refine .skip (nT (.seq (.block (.af (.z (zfa gC) (.y hs (zld isAgg23) (.z zm ?_)))))));obtain ⟨n,hn⟩:=nth (l:=fL) (k:=rs.length) aj;refine .ixX (enc:=F5.v) hs g2 rfl rfl runUnderlying23 OC hn dG ?_;intro Oo o40 rA;refine .q hs (bE (vs:=n.v) rfl isAgg117 OC rA) (.o (.alloc hs zeroValue117 rfl fun b7 w hs=>?_));refine .o (.aS (vs:=[_,_,_,_,_]) hs rfl rfl OC fun w hs=>?_);refine .nil (.seq (.draw mix rfl hs fun w hs=>?_));refine .zw 0 rfl (zia 4 j8 ak) (.zv 1 rfl hs (rp ai) (.zw 3 rfl (zia 4 j8 ak) (.y 4 rfl hs ai ?_)));refine .z 5 rfl Me ?_;refine .E 2 hs ?_;refine .call jG rfl (cK hs aj) ?_;rintro _ w ⟨Je,g44,rfl,hs⟩;refine .go (.E 6 hs ?_);refine .call jG rfl (cK hs aj) ?_;rintro _ w ⟨Jd,g48,rfl,hs⟩;have m49:0≤(Je:Int)*(Jd:Int)∧(Je:Int)*(Jd:Int)≤39:=by
     have e1:Jd=0∨Jd=1:=by omega
     rcases e1 with rfl|rfl<;>simp<;>omega
    refine .go (.zw 7 rfl mm ?_);refine .z 8 rfl zg ?_;refine .D hs ?_;refine .draw mix rfl hs fun w hs=>?_
    refine .zw 0 rfl (zfa aN) ?_;refine .y 1 rfl hs dT ?_;refine .z 2 rfl zm ?_;refine .z 3 rfl cP ?_;refine .zw 4 rfl (zia 0 j8 ak) (.y 5 rfl hs ai ?_);refine .z 6 rfl (zfa a8) ?_;refine .y 7 rfl hs an ?_;refine .z 8 rfl (cH ae) ?_;refine .zw 10 rfl (zia 1 j8 ak) (.y 11 rfl hs ai ?_);refine .z 12 rfl (zfa aR) ?_;refine .y 13 rfl hs an ?_;refine .z 14 rfl (cH ae) ?_;refine .z 16 rfl zm ?_;refine .zw 17 rfl (zia 2 j8 ak) (.zv 18 rfl hs (rp ai) (.zw 21 rfl (zia 3 j8 ak) (.zv 22 rfl hs (rp ai) (.E 9 hs ?_))));refine .call jG rfl (cK hs aj) ?_;rintro _ w ⟨k59,g59,rfl,hs⟩;refine .go (.E 15 hs ?_);refine .call jG rfl (cK hs aj) ?_;rintro _ w ⟨k65,g65,rfl,hs⟩;refine .go (.E 19 hs ?_);refine .call jG rfl (cK hs aj) ?_;rintro _ w ⟨k69,g69,rfl,hs⟩;refine .go (.zw 20 rfl cP (.E 23 hs ?_));refine .call jG rfl (cK hs aj) ?_;rintro _ w ⟨k73,g73,rfl,hs⟩;obtain ⟨r,hr⟩:∃r:Rdg,r=⟨10+(rs.length:Int),(k59:Int),(k65:Int),0,(Je:Int)*(Jd:Int),1+(k69:Int),(k73:Int)⟩:=⟨_,rfl⟩;have Qn:j5 s r:=by subst hr;exact ⟨by dsimp only;omega,by dsimp only;omega,by dsimp only;omega,by dsimp only;omega,by dsimp only;omega,by dsimp only;omega,by dsimp only;omega⟩
    refine .go (.zw 24 rfl (zbd [_,_,_,_,_,_,_] uG) (.E 25 hs ?_));refine .buildSlice (cells:=r.c) hs dz rfl (by subst hr;kernel_rfl) ?_;intro b75 w hs;refine .go (.E 26 hs ?_);refine .append (ys:=r.c) hs bI rfl rfl jy (.own .here rfl rfl) (by simp [Rdg.c,Value.oneCell']) (fun l' h=>by rw [bu _ (jX _),cf] at h;omega) ?_;intro v76 en76 w uW hs;rw [←nA] at uW;obtain ⟨a76,c76,rfl⟩:=uW.iO (jX _) aj;rw [cf] at uW ⊢;refine .go (.zw 27 rfl (zfa aN) (.E 28 hs ?_));refine .store hs rfl rfl Bo ?_;intro w hs;refine .go (.D hs (nB (nT (.region (.z zm (.z cP (.zn zg (nT ?_))))))));exact ⟨(rs++[r],a76,c76),.dI rfl bj bk,⟨by simp;omega,by simp;omega,fun q hq=>by
      simp only [List.mem_append,List.mem_singleton] at hq
      rcases hq with hq|rfl
      ·exact ub q hq
      ·exact Qn,_,uW,hs.sb⟩,by simp;omega⟩
   ·exact .exit (xT (xT (xB (nT ⟨rs,e3,ar,cr,bk,AV,OR,ub,jy,hs⟩))))
  ·exact .Fs 2 5 true (.zn zpF (.cF (.exit (xT (xT (xB (nT ⟨rs,e3,ar,cr,bk,AV,OR,ub,jy,hs⟩)))))))
 ·clear hs;rintro fs w ⟨rs,e3,ar,cr,lk,AV,OR,ub,jy,hs⟩;refine WE.sub ?_ lk;clear lk;refine .cut (fun fs w=>∃cs e4 ac cc,nv fs ⟨208,[],[(5,Pt b5),(4,Pt b4),(2,Pt b2),(1,Pt b1)]⟩∧cs.length≤5∧(∀c∈cs,pz c)∧(Srv.nP ⟨s,rs,cs⟩).Sound∧bG 6 (.slice ac cs.length cc) (cmc cs).flatten e4∧St H w (e1::e2::e3::e4:: .blk b5 [I s.id,I s.src,.slice ast s.st.length cst,.slice awa s.wa.length cwa,I s.al,I s.up]:: .blk b4 [I s.id,I s.src,.slice ast s.st.length cst,.slice awa s.wa.length cwa,I s.al,I s.up,.slice ar rs.length cr,.slice ac cs.length cc]:: .blk b2 [I 0,I 0,.slice none 0 0,.slice none 0 0,I 0,I 0,.slice none 0 0,.slice none 0 0]:: .blk b1 [.slice avs sl.length cvs,.slice av5 fL.length cv5,.slice av4 fV.length cv4,.slice avp pk.length cvp,I z1,I z2,I z3]::σ)) ?_ ?_
  ·refine .af (.zn zg (.block ?_));refine .loop (fun p:Nat×List Cmp×Option Addr×Nat=>⟨208,[],[(9,I (p.1:Int)),(5,Pt b5),(4,Pt b4),(2,Pt b2),(1,Pt b1)]⟩)
    (fun p w=>p.1≤5∧p.1≤fV.length∧p.2.1.length≤p.1∧(∀c∈p.2.1,pz c)∧(Srv.nP ⟨s,rs,p.2.1⟩).Sound∧∃e4,bG 6 (.slice p.2.2.1 p.2.1.length p.2.2.2) (cmc p.2.1).flatten e4∧
     St H w (e1::e2::e3::e4:: .blk b5 [I s.id,I s.src,.slice ast s.st.length cst,.slice awa s.wa.length cwa,I s.al,I s.up]:: .blk b4 [I s.id,I s.src,.slice ast s.st.length cst,.slice awa s.wa.length cwa,I s.al,I s.up,.slice ar rs.length cr,.slice p.2.2.1 p.2.1.length p.2.2.2]:: .blk b2 [I 0,I 0,.slice none 0 0,.slice none 0 0,I 0,I 0,.slice none 0 0,.slice none 0 0]:: .blk b1 [.slice avs sl.length cvs,.slice av5 fL.length cv5,.slice av4 fV.length cv4,.slice avp pk.length cvp,I z1,I z2,I z3]::σ)) (fun p=>5 - p.1) (0,[],none,0) bk
    ⟨bj,bj,bj,bj,FO (xx JH.ok N3 N1 AV bj ub bj) rfl,.nul,.nil 6 none,(hs.nul).sb⟩ ?_
   clear hs;rintro ⟨k,cs,ac,cc⟩ w ⟨hk5,hkf,O4,zC,Aj,e4,uW,hs⟩;dsimp only at hk5 hkf O4 zC Aj uW hs ⊢;refine .seq (.af (.z zm (.z (zfa jC) (.y hs (zld isAgg24) (.z (cH runUnderlying24) (.z iG (.z zm (.lI (t':=83) rfl (fun Rc=>?_) (fun Rc=>?_)))))))))
   ·refine .T (.z zm (.T (.z iG (.zn zpT (.cu rfl (fun Q0=>?_) (fun Q0=>?_))))))
    ·refine .skip (nT (.seq (.block (.af (.z (zfa jC) (.y hs (zld isAgg24) (.z zm ?_)))))));obtain ⟨n,hn⟩:=nth (l:=fV) (k:=k) aj;refine .ixX (enc:=F4.v) hs g3 rfl rfl runUnderlying24 sizeOf118 hn dG ?_;intro b92 o92 Ib;refine .q hs (bE (vs:=n.v) rfl isAgg118 sizeOf118 Ib) (.o (.alloc hs zeroValue118 rfl fun ib w hs=>?_));refine .o (.aS (vs:=[_,_,_,_]) hs rfl rfl sizeOf118 fun w hs=>?_);refine .nil (.af (.z (zia 1 yE ak) (.y hs (zld ai) (.o (.call jG rfl (cK hs aj) ?_)))));rintro _ w ⟨SI,g96,rfl,hs⟩;refine .z jc (.zn zg (.af (.z (zia 3 yE ak) (.y hs (zld ai) (.o (.call jG rfl (cK hs aj) ?_))))));rintro _ w ⟨MS,g100,rfl,hs⟩;refine .zn zg (.seq (.draw mix rfl hs fun w hs=>?_));refine .zw 0 rfl (zfa cV) ?_;refine .y 1 rfl hs nZ ?_;refine .z 2 rfl zm ?_;refine .z 3 rfl cP ?_;refine .zw 4 rfl (zia 0 yE ak) (.y 5 rfl hs ai ?_);refine .z 8 rfl zm ?_;refine .z 9 rfl zm ?_;refine .zw 10 rfl (zia 3 yE ak) (.y 11 rfl hs ai ?_);refine .z 12 rfl Me ?_;refine .z 15 rfl zm ?_;refine .z 16 rfl zm ?_;refine .zw 17 rfl (zia 2 yE ak) (.zv 18 rfl hs (rp ai) (.E 6 hs ?_));refine .call jG rfl (cK hs aj) ?_;rintro _ w ⟨PV,g107,rfl,hs⟩;refine .go (.zw 7 rfl cP (.E 13 hs ?_));refine .call jG rfl (cK hs aj) ?_;rintro _ w ⟨PU,g114,rfl,hs⟩;refine .go (.zw 14 rfl cP (.E 19 hs ?_));refine .call jG rfl (cK hs aj) ?_;rintro _ w ⟨PT,g120,rfl,hs⟩;obtain ⟨c,hc⟩:∃c:Cmp,c=⟨30+(k:Int),1+(PV:Int),(MS:Int),(MS:Int)+(PU:Int),(SI:Int) - 40,(SI:Int) - 40+(PT:Int)⟩:=⟨_,rfl⟩;have QY:pz c:=by subst hc;exact ⟨by dsimp only;omega,by dsimp only;omega,by dsimp only;omega,by dsimp only;omega,by dsimp only;omega,by dsimp only;omega⟩
     refine .go (.zw 20 rfl cP ?_);refine .z 21 rfl (zbd [_,_,_,_,_,_] uH) ?_;refine .E 22 hs ?_;refine .buildSlice (cells:=c.c) hs gW rfl (by subst hc;kernel_rfl) ?_;intro b123 w hs;refine .go (.E 23 hs ?_);refine .append (ys:=c.c) hs cz rfl rfl uW (.own .here rfl rfl) (by simp [Cmp.c,Value.oneCell']) (fun l' h=>by rw [bu _ (sK _),gN] at h;omega) ?_;intro v124 en124 w Dh hs;rw [←qm] at Dh;obtain ⟨a124,c124,rfl⟩:=Dh.iO (sK _) aj;rw [gN] at Dh ⊢;have uj:(cs++[c]).length=cs.length+1:=by simp
     have Jy:∀d∈cs++[c],pz d:=fun d hd=>by
      simp only [List.mem_append,List.mem_singleton] at hd
      rcases hd with hd|rfl
      ·exact zC d hd
      ·exact QY
     have AU:fO ⟨s,rs,cs++[c]⟩:=xx JH.ok N3 N1 AV aj ub Jy;refine .go (.zw 24 rfl (zfa cV) (.E 25 hs ?_));refine .store hs rfl rfl J1 ?_;intro w hs;refine .go (.D hs (.af (.y hs (zls [_,_,_,_,_,_,_,_] bS aV) ?_)));obtain ⟨Hx,C3,r1,r2,r3,r4,yA,back⟩:=JW.AP (s:=⟨s,rs,cs++[c]⟩) ⟨Ir,eH,jy,Dh⟩ (by show s.st.length≤_;omega) (by show s.wa.length≤_;omega) (by show rs.length≤_;omega) (by show (cs++[c]).length≤_;omega) (hs.sb:St H w (e1::e2::e3::en124:: .blk b5 [I s.id,I s.src,.slice ast s.st.length cst,.slice awa s.wa.length cwa,I s.al,I s.up]:: .blk b4 [I s.id,I s.src,.slice ast s.st.length cst,.slice awa s.wa.length cwa,I s.al,I s.up,.slice ar rs.length cr,.slice a124 (cs++[c]).length c124]:: .blk b2 [I 0,I 0,.slice none 0 0,.slice none 0 0,I 0,I 0,.slice none 0 0,.slice none 0 0]:: .blk b1 [.slice avs sl.length cvs,.slice av5 fL.length cv5,.slice av4 fV.length cv4,.slice avp pk.length cvp,I z1,I z2,I z3]::σ));refine .o (.call call32 rfl (tG (s:=⟨s,rs,cs++[c]⟩) yA r1 r2 r3 r4 AU.early (Bc AU)) ?_);rintro _ w ⟨Hy,b127,Ff,rfl,NY,Jk⟩;have hs:=back Ff Jk;clear yA Jk back;refine .nil (.cond rfl (fun JC=>?_) (fun JC=>?_))
     ·refine .region (.z (zfa cV) (.y hs (zld nZ) (.z (zfa cV) (.y hs (zld nZ) (.z (cH bX) (.z jc (.q hs (pQ (k:=cs.length) rfl rfl bX de aj (by have:=Dh.le;omega)) ?_)))))));refine .z (zfa cV) (.o (.store hs rfl rfl J1 fun w hs=>?_));exact .nil (nB (nT (.region (.z zm (.z cP (.zn zg (nT ⟨(k+1,cs,a124,c124),.dI rfl bj bk,⟨by dsimp only;omega,by dsimp only;omega,by dsimp only;omega,zC,Aj,_,Dh.Li,hs.sb⟩,by dsimp only;omega⟩)))))))
     ·exact .skip (nB (nT (.region (.z zm (.z cP (.zn zg (nT ⟨(k+1,cs++[c],a124,c124),.dI rfl bj bk,⟨by dsimp only;omega,by dsimp only;omega,by dsimp only;omega,Jy,NY (by simpa using JC),_,Dh,hs.sb⟩,by dsimp only;omega⟩)))))))
    ·exact .exit (xT (xT (xB (nT ⟨cs,e4,ac,cc,bk,aj,zC,Aj,uW,hs⟩))))
   ·exact .Fs 2 5 true (.zn zpF (.cF (.exit (xT (xT (xB (nT ⟨cs,e4,ac,cc,bk,aj,zC,Aj,uW,hs⟩)))))))
  ·clear hs;rintro fs w ⟨cs,e4,ac,cc,lk,KY,zC,Aj,uW,hs⟩;refine WE.sub ?_ lk;clear lk;have AU:fO ⟨s,rs,cs⟩:=xx JH.ok N3 N1 AV KY ub zC;refine .af (.y hs (zls [_,_,_,_,_,_,_,_] bS aV) (.z (zfa nh) (.y hs (zld an) ?_)));obtain ⟨Hx,C3,r1,r2,r3,r4,yA,back⟩:=JW.AP (s:=⟨s,rs,cs⟩) ⟨Ir,eH,jy,uW⟩ (by show s.st.length≤_;omega) (by show s.wa.length≤_;omega) (by show rs.length≤_;omega) (by show cs.length≤_;omega) hs;refine .o (.call call33 rfl (tF (s:=⟨s,rs,cs⟩) yA r1 r2 r3 r4 (g4.mono C3) AU.early ⟨Bc AU,Aj⟩) ?_);rintro v139 w ⟨Hy,x,ex,Ff,hOx,hP,Jk⟩;have hs:=back Ff Jk;clear yA Jk back r1 r2 r3 r4;obtain ⟨sD,BP,PZ,O1⟩:=hP.Bf (Bc AU) Aj;have oY:=AU.many;have Nt:(Srv.nP ⟨s,rs,cs⟩).n=s.many+(aK rs).length+1:=vj ⟨s,rs,cs⟩;have sD:x.length=s.many+(aK rs).length+1:=by rw [sD];exact Nt
   rw [Nt] at PZ;have oY:s.many+(aK rs).length≤64:=oY;obtain ⟨Hz,Nh,hX,hs⟩:=bG.bU hOx aj hs cZ;obtain ⟨ax,cx,rfl⟩:=RI.shape hX;refine .zn zg (.seq (.af (.zn zg (.block ?_))));refine .loop (fun p:Nat×List Rdg=>⟨208,[],[(14,I (p.1:Int)),(13,.slice ax x.length cx),(5,Pt b5),(4,Pt b4),(2,Pt b2),(1,Pt b1)]⟩)
    (fun p w=>p.1≤rs.length∧p.2.length=rs.length∧aK p.2=aK rs∧(∀r∈p.2,RdS s r)∧(∀j<p.1,∀r,p.2[j]? =some r→Gf s (aK rs) x r)∧∃e3,bG 7 (.slice ar rs.length cr) (rdc p.2).flatten e3∧
     St Hz w (e1::e2::e3::e4:: .blk b5 [I s.id,I s.src,.slice ast s.st.length cst,.slice awa s.wa.length cwa,I s.al,I s.up]:: .blk b4 [I s.id,I s.src,.slice ast s.st.length cst,.slice awa s.wa.length cwa,I s.al,I s.up,.slice ar rs.length cr,.slice ac cs.length cc]:: .blk b2 [I 0,I 0,.slice none 0 0,.slice none 0 0,I 0,I 0,.slice none 0 0,.slice none 0 0]:: .blk b1 [.slice avs sl.length cvs,.slice av5 fL.length cv5,.slice av4 fV.length cv4,.slice avp pk.length cvp,I z1,I z2,I z3]::σ)) (fun p=>rs.length - p.1) (0,rs) bk
    ⟨bj,rfl,rfl,fun r hr=>⟨(ub r hr).st,(ub r hr).wa,(ub r hr).tol⟩,fun j hj=>by omega,e3,jy,hs⟩ ?_
   clear hs jy;rintro ⟨k,R⟩ w ⟨hk,Tr,Ld,O9,Rv,e3,jy,hs⟩;dsimp only at hk Tr Ld O9 Rv jy hs ⊢;refine .seq (.af (.z zm (.z (zfa aN) (.y hs (zld dT) (.z (cH aO) (.zn iG (.cu rfl (fun NO=>?_) (fun NO=>?_))))))))
   ·refine .skip (nT (.seq (.block (.af (.z (zfa gC) (.y hs (zld isAgg23) (.z zm ?_)))))));obtain ⟨n,hn⟩:=nth (l:=fL) (k:=k) aj;obtain ⟨r,hr⟩:=nth (l:=R) (k:=k) aj;have OS:=O9 r (List.mem_of_getElem? hr);obtain ⟨u,KC,KB⟩:=OS.u;have Qk:=OS.st;have Qi:=OS.wa;have M5:=OS.tol;have ue:r.td∈aK R:=dK.2 ⟨r,List.mem_of_getElem? hr,rfl⟩;obtain ⟨q,q1,q2,q3⟩:=gu ue;rw [Ld] at q3;have xP:=PZ u aj;have uU:=PZ (s.many+1+q) aj;obtain ⟨bo,co,sp,hv,rfl,mX⟩:=jy.L9 (jX _) aj (by rw [cf];omega);simp only [Value.slice.injEq] at hv;obtain ⟨rfl,P6,rfl⟩:=hv;obtain ⟨Hx,C3,r1,r2,r3,r4,yA,back⟩:=JW.AP (s:=⟨s,R,cs⟩) ⟨Ir,eH,jy,uW⟩ (by show s.st.length≤_;omega) (by show s.wa.length≤_;omega) (by show R.length≤_;omega) (by show cs.length≤_;omega) hs;clear hs;have hs:=yA;clear yA;refine .ixX (enc:=F5.v) hs (g2.mono (Nh.trans C3)) rfl rfl runUnderlying23 OC hn dG ?_;intro b150 o150 Fv;refine .q hs (bE (vs:=n.v) rfl isAgg117 OC Fv) (.o (.alloc hs zeroValue117 rfl fun IS w hs=>?_));refine .o (.aS (vs:=[_,_,_,_,_]) hs rfl rfl OC fun w hs=>?_);refine .nil (.af (.z (zfa aN) (.y hs (zld dT) (.z zm (.ixX (enc:=Rdg.c) hs r3 rfl rfl aO bh hr dG ?_)))));intro b155 o155 NN;refine .q hs (bE (vs:=r.c) rfl fY bh NN) (.o (.alloc hs iE rfl fun oz w hs=>?_));refine .o (.aS (vs:=[_,_,_,_,_,_,_]) hs rfl rfl bh fun w hs=>?_);refine .nil (.af (.y hs (zls [_,_,_,_,_,_] bg aJ) (.z (zfa eJ) (.y hs (zld ai) (.z (zfa eI) (.y hs (zld ai) (.o (.call SD rfl (dr (s:=s) hs r2 aj aj aj) ?_))))))));rintro _ w ⟨rfl,hs⟩;rw [KC];refine .zn zg (.seq (.draw mix rfl hs fun w hs=>?_));refine .ys 0 rfl hs [_,_,_,_,_,_] bg aJ ?_;refine .z 3 rfl (zfa aN) ?_;refine .y 4 rfl hs dT ?_;refine .z 6 rfl (zfa dB) ?_;refine .y 7 rfl hs ai ?_;refine .z 8 rfl (zfa dk) ?_;refine .y 9 rfl hs ai ?_;refine .z 10 rfl (zbd [_,_] gH) ?_;refine .E 1 hs ?_;refine .call call35 rfl (fZ (s:=s) hs r1 r2 ⟨aj,aj⟩) ?_;rintro _ w ⟨rfl,hs⟩;refine .go (.zw 2 rfl cP (.E 5 hs ?_));refine .call call37 rfl (ij (rs:=R) hs r3 aj) ?_;rintro v168 w ⟨Hw,QG,hT,hs⟩;refine .go (.E 11 hs ?_);refine .call call36 rfl (jJ (t:=r.td) hs hT (by rw [Ld];omega)) ?_;rintro _ w ⟨rfl,hs⟩;rw [q1];refine .go (.zw 12 rfl cP ?_);refine .z 13 rfl zg ?_;refine .D hs ?_;refine .seq (.draw mix rfl hs fun w hs=>?_);refine .zw 0 rfl (zia 4 j8 ak) (.y 1 rfl hs ai ?_);refine .z 2 rfl Me ?_;refine .z 3 rfl (zfa bY) ?_;refine .y 4 rfl hs ai ?_;refine .z 5 rfl mm ?_;refine .z 6 rfl cP ?_;refine .z 8 rfl (zfa bY) ?_;refine .y 9 rfl hs ai ?_;refine .E 7 hs ?_;refine .call jG rfl (cK hs aj) ?_;rintro _ w ⟨MR,g183,rfl,hs⟩;refine .go (.zw 10 rfl jc ?_);refine .z 11 rfl zg ?_;refine .D hs ?_;refine .draw mix rfl hs fun w hs=>?_
    refine .zw 0 rfl (zfa aN) ?_;refine .y 1 rfl hs dT ?_;refine .z 2 rfl zm ?_;refine .z 3 rfl zm ?_;refine .z 4 rfl zm ?_;have hs:=back QG hs;refine .ixX (enc:=fun x=>[I x]) (i:=5) hs rfl az .none hX rfl rfl ae ak (bJ (l:=x) (i:=u) aj) rfl ?_;intro b192 o192 Ft;replace Ft:=bB.one Ft;refine .r (i:=6) hs rfl az .none (aQ rfl ai Ft) ?_;refine .zw 7 rfl zm ?_;refine .z 8 rfl zm ?_;refine .ixX (enc:=fun x=>[I x]) (i:=9) hs rfl az .none hX rfl rfl ae ak (bJ (l:=x) (i:=s.many+1+q) aj) (by push_cast;rfl) ?_;intro b196 o196 Fq;replace Fq:=bB.one Fq;refine .r (i:=10) hs rfl az .none (aQ rfl ai Fq) ?_;refine .zw 11 rfl jc ?_;refine .z 12 rfl zm ?_;refine .z 13 rfl cP ?_;first|(refine .ixw 14 rfl hs aO bh ?_;intro Sb o201 JA)|refine .z 14 rfl (tk aO bh) ?_
    refine .zw 15 rfl (zfa dC) (.E 16 hs ?_);refine .store (c':=(rdc (R.set k {r with val:=gi x u - gi x (s.many+1+q)+((MR:Int) - r.tol)})).flatten++sp) hs rfl rfl ak ?_ cZ (Nat.ble_eq_true_of_le (by rw [List.length_append,bu _ (jX _),cf];omega)) (Az hr sp _);intro w hs;refine .go (.D hs (nB (nT (.region (.z zm (.z cP (.zn zg (nT ?_))))))));exact ⟨(k+1,R.set k {r with val:=gi x u - gi x (s.many+1+q)+((MR:Int) - r.tol)}),.dI rfl bj bk,⟨by dsimp only;omega,by dsimp only;rw [List.length_set];exact Tr,by dsimp only;rw [yM hr];exact Ld,fun y hy=>by
      rcases List.mem_or_eq_of_mem_set hy with h|h
      ·exact O9 y h
      ·subst h;exact ⟨Qk,Qi,M5⟩,fun j hj y hy=>by
      dsimp only at hj hy;by_cases e:j=k
      ·subst e;rw [List.getElem?_set_self aj] at hy;obtain rfl:=Option.some.inj hy;have q1':jH (aK rs) r.td=q:=by rw [←Ld];exact q1
       unfold Gf;show gi x (1+r.st*s.wa.length+r.wa).toNat - gi x (s.many+1+jH (aK rs) r.td).toNat - r.tol≤_∧_≤gi x (1+r.st*s.wa.length+r.wa).toNat - gi x (s.many+1+jH (aK rs) r.td).toNat+r.tol;rw [KC,q1',show ((s.many:Int)+1+(q:Int)).toNat=s.many+1+q by omega,Int.toNat_natCast];dsimp only;omega
      ·rw [List.getElem?_set_ne aj] at hy;exact Rv j aj y hy,_,Hk jy _,hs.sb⟩,by dsimp only;omega⟩
   ·refine .exit (xT (xT (xB (nT (.af (.y hs (zls [_,_,_,_,_,_,_,_] bS aV) (.z zm ?_)))))));obtain rfl:k=rs.length:=by omega
    obtain ⟨Hx,C3,r1,r2,r3,r4,yA,back⟩:=JW.AP (s:=⟨s,R,cs⟩) ⟨Ir,eH,jy,uW⟩ (by show s.st.length≤_;omega) (by show s.wa.length≤_;omega) (by show R.length≤_;omega) (by show cs.length≤_;omega) hs;refine .o (.call call38 rfl (pP (s:=⟨s,R,cs⟩) (x:=x) yA r1 r2 r3 ⟨_,_,_,rfl⟩ (hX.mono C3) (by rw [vj];show _=s.many+(aK R).length+1;rw [Ld];exact sD) ⟨by show s.st.length≤_;omega,by show s.wa.length≤_;omega,by show R.length≤_;omega⟩) ?_);rintro _ w ⟨Hy,vr',vy,er,ey,Ff,rfl,hOr,Pb,Jk⟩;have hs:=back Ff Jk;clear yA Jk back r1 r2 r3 r4;have Al:=tY s R;obtain ⟨arr,crr,rfl⟩:=hOr.iO (jX _) aj;obtain ⟨ayy,lyy,cyy,rfl,-⟩:=Pb.shape;refine .z zex (.z zex (.o (.aS (vs:=[_,_,_,_,_,_,_,_]) hs rfl rfl aV fun w hs=>?_)));refine .zn zg (.ret ?_);exact Fin.kY [] [] hs fun w hs=>⟨_,results2 results7 (fq (vs:=[_,_,_,_,_,_,_,_]) hs rfl bS aV) rfl,Hz,⟨s,gS s R,cs⟩,_,_,_,_,_,_,e1,e2,er,e4,ey,Nh,rfl,
     ⟨N3,N1,by show (gS s R).length≤14;omega,KY,xx JH.ok N3 N1 aj KY (fun r h=>(zo h).2) zC⟩,⟨Ir,eH,hOr,uW⟩,Pb,CX O1 BP sD Ld O9 (fun r hr=>by
      obtain ⟨j,hj⟩:=List.getElem?_of_mem hr;have:=(List.getElem?_eq_some_iff.1 hj).1;exact Rv j aj r hj),hs.sb⟩
theorem ie{w:World}{v:Value}{xs:List Rdg}(hs:St H w σ)(hr:RRd H v xs)(hx:xs.length≤1000000):TN 264 [v] w fun v w'=>∃en,bG 7 v (rdc xs).flatten en∧St H w' (en::σ):=by
 obtain ⟨a,c,rfl⟩:=RRd.shape hr;refine Cl.o func264 ntmps264 ag1 ?_;refine .af (.zn zg (.seq (.af (.z zm (.q hs (Ey rfl rfl aO) (.nil (.cond rfl (fun Jz=>?_) (fun Jz=>?_))))))))
 ·refine .af (.zn zg (.ret (rT (Fin.bw results264 rfl ?_))));obtain rfl:a=none:=by simpa using Jz
  obtain rfl:=RRd.EF hr;exact ⟨.nul,.nil 7 none,hs.nul⟩
 ·refine .skip (nT (.af (.o (.buildSlice (cells:=[]) hs nU rfl rfl fun b5 w hs=>?_))));refine .z zm (.o (.append (xs:=[]) (ys:=(rdc xs).flatten) hs bI rfl rfl (.full (len:=0) rfl) (LA hr) (G6 xs) (fun l h=>by simp at h;omega) ?_));intro v7 en7 w hO hs;exact .zn zg (.ret (Fin.bw results264 rfl ⟨en7,hO,hs⟩))
theorem su{w:World}{v:Value}{xs:List Cmp}(hs:St H w σ)(hr:RCm H v xs)(hx:xs.length≤1000000):TN 284 [v] w fun v w'=>∃en,bG 6 v (cmc xs).flatten en∧St H w' (en::σ):=by
 obtain ⟨a,c,rfl⟩:=RCm.shape hr;refine Cl.o func284 ntmps284 ag1 ?_;refine .af (.zn zg (.seq (.af (.z zm (.q hs (Ey rfl rfl bX) (.nil (.cond rfl (fun Jz=>?_) (fun Jz=>?_))))))))
 ·refine .af (.zn zg (.ret (rT (Fin.bw results284 rfl ?_))));obtain rfl:a=none:=by simpa using Jz
  obtain rfl:=RCm.EF hr;exact ⟨.nul,.nil 6 none,hs.nul⟩
 ·refine .skip (nT (.af (.o (.buildSlice (cells:=[]) hs nV rfl rfl fun b5 w hs=>?_))));refine .z zm (.o (.append (xs:=[]) (ys:=(cmc xs).flatten) hs cz rfl rfl (.full (len:=0) rfl) (LB hr) (IG xs) (fun l h=>by simp at h;omega) ?_));intro v7 en7 w hO hs;exact .zn zg (.ret (Fin.bw results284 rfl ⟨en7,hO,hs⟩))
theorem od{w:World}{v:Value}(hs:St H w (en::σ))(hO:bG 1 v (Is xs) en)(hl:xs.length≤17592186044416):
  TN 142 [v] w fun u w'=>∃iT,u= .tuple #[]∧bG 1 v (Is (xs.mergeSort fun x y=>decide (x≤y))) iT∧St H w' (iT::σ):=by
 rcases hO with ⟨a,rfl,h0,rfl⟩|⟨b,len,cap,sp,rfl,rfl,h3,h4,h5⟩
 ·obtain rfl:xs=[]:=by simpa using h0
  exact (ss hs).mono fun u w' ⟨h,hs⟩=>⟨.nul,h,by simpa using bG.nil 1 a,hs⟩
 ·obtain rfl:len=xs.length:=by simpa using h3.symm
  exact (tB hs hl).mono fun u w' ⟨h,hs⟩=>⟨_,h,.inr ⟨b,_,cap,sp,rfl,rfl,bj,by simpa using h4,h5⟩,hs⟩
theorem lz{w:World}{v:Value}(hs:St H w (en::σ))(hO:bG 1 v (Is xs) en)(hl:xs.length≤17592186044416):
  TN 143 [v] w fun u w'=>∃iT,bG 1 u (Is (Go.Lib.compact xs)) iT∧St H w' (iT::σ):=by
 rcases hO with ⟨a,rfl,h0,rfl⟩|⟨b,len,cap,sp,rfl,rfl,h3,h4,h5⟩
 ·obtain rfl:xs=[]:=by simpa using h0
  exact (oK hs).mono fun u w' ⟨h,hs⟩=>⟨.nul,by rw [h];exact .nil 1 a,hs⟩
 ·obtain rfl:len=xs.length:=by simpa using h3.symm
  have uj:=Go.Lib.compact_length_le xs;have h4':xs.length+sp.length=cap:=by simpa using h4
  exact (pM hs hl h5).mono fun u w' ⟨h,hs⟩=>⟨_,.inr ⟨b,_,cap,Is (List.replicate (xs.length - (Go.Lib.compact xs).length) 0)++sp,h,rfl,bj,by simp;omega,aj⟩,hs⟩
set_option maxHeartbeats 1000000 in
theorem vv{w:World}{vst vwa:Value}(hs:St H w σ)(h1:RI H vst s.st)(h2:RI H vwa s.wa)(hx:RI H vx x)(xP:s.st.length≤1000)(uU:s.wa.length≤1000)(sD:s.many+1≤x.length):
  TN 8 [.agg #[I s.id,I s.src,vst,vwa,I s.al,I s.up],vx] w fun u w'=>∃va us en ens,u= .agg #[va]∧bG 1 va us en∧sQ us (jI s x s.st.length) ens∧St H w' (en::(ens++σ)):=by
 obtain ⟨ast,cst,rfl⟩:=RI.shape h1;obtain ⟨awa,cwa,rfl⟩:=RI.shape h2;obtain ⟨ax,cx,rfl⟩:=RI.shape hx;refine Cl.o func8 ntmps8 ag2 ?_;refine .af (.bx hs fun b2 w hs=>?_);refine .o (.alloc hs zeroValue42 rfl fun b4 w hs=>?_);refine .nil (.af (.o (.alloc hs zeroValue42 rfl fun b5 w hs=>?_)));refine .nil (.seq (.af (.zn zg (.block ?_))));refine .loop (fun i:Nat=>⟨40,[],[(6,I (i:Int)),(1,.slice ax x.length cx),(5,Pt b5),(4,Pt b4),(2,Pt b2)]⟩)
  (fun i w=>i≤s.st.length∧∃va us en ens,bG 1 va us en∧sQ us (jI s x i) ens∧St H w (.blk b5 [va]::en:: .blk b4 [.slice none 0 0]:: .blk b2 [I s.id,I s.src,.slice ast s.st.length cst,.slice awa s.wa.length cwa,I s.al,I s.up]::(ens++σ))) (fun i=>s.st.length - i) 0 bk
  ⟨Nat.zero_le _,_,[],.nul,[],.nil 1 none,.nil,hs.nul.sb⟩ ?_
 clear hs;rintro i w ⟨hi,va,us,en,ens,hO,hR,hs⟩;have P7:=hR.length;rw [kI] at P7;obtain ⟨aa,la,ca,rfl,Np⟩:=hO.shape;refine .seq (.af (.z zm (.z (zfa a8) (.y hs (zld an) (.z (cH ae) (.zn iG (.cu rfl (fun iX=>?_) (fun iX=>?_))))))))
 ·refine .skip (nT (.seq (.block (.af (.zn zg (.seq (.af (.zn zg (.block ?_)))))))));refine .loop (fun p:Nat×Value=>⟨40,[],[(8,I (p.1:Int)),(7,p.2),(6,I (i:Int)),(1,.slice ax x.length cx),(5,Pt b5),(4,Pt b4),(2,Pt b2)]⟩)
   (fun p w=>p.1≤s.wa.length∧∃er,bG 1 p.2 (Is (qY s x i p.1)) er∧St H w (er:: .blk b5 [.slice aa la ca]::en:: .blk b4 [.slice none 0 0]:: .blk b2 [I s.id,I s.src,.slice ast s.st.length cst,.slice awa s.wa.length cwa,I s.al,I s.up]::(ens++σ))) (fun p=>s.wa.length - p.1) (0,.slice none 0 0) bk
   ⟨Nat.zero_le _,.nul,.nil 1 none,hs.nul⟩ ?_
  clear hs;rintro ⟨k,vr⟩ w ⟨hk,er,hOr,hs⟩;dsimp only at hk hOr hs ⊢;have zy:=mK s x i k;refine .seq (.af (.z zm (.z (zfa aR) (.y hs (zld an) (.z (cH ae) (.zn iG (.cu rfl (fun vM=>?_) (fun vM=>?_))))))))
  ·refine .skip (nT (.seq (.block (.region (.z zm (.z zm (.y hs (zls [_,_,_,_,_,_] bg aJ) (.z zm (.z zm ?_)))))))));have hub:=yv (s:=s) (i:=i) (k:=k) aj aj;refine .o (.call SD rfl (dr (s:=s) hs h2 aj ⟨aj,aj⟩ ⟨aj,aj⟩) ?_);rintro _ w ⟨rfl,hs⟩;rw [show 1+(i:Int)*(s.wa.length:Int)+(k:Int)=((s.u i k:Nat):Int) by unfold Spc.u;push_cast;rfl];refine .ixY hs hx rfl rfl ae ak (bJ (l:=x) (i:=(s.u i k)) aj) dG ?_;intro Pq o29 Ig;refine .q hs (aQ rfl ai Ig) (.o (.buildSlice (cells:=[_]) hs bL rfl rfl fun Ga w hs=>?_));refine .o (.append (ys:=Is [gi x (s.u i k)]) hs bM rfl rfl hOr (.own .here rfl rfl) (ky _) (fun l h=>by simp at h;omega) ?_);intro v32 en32 w eH hs;rw [←List.map_append,←CD] at eH;exact .zn zg (nB (nT (.region (.z zm (.z cP (.zn zg (nT ⟨(k+1,v32),.dI rfl bj bk,⟨by dsimp only;omega,_,eH,hs.sb⟩,by dsimp only;omega⟩)))))))
  ·refine .exit (xT (xT (xB (nT (.region (.z (zfa gM) (.y hs (zld IZ) (.z zm ?_))))))));obtain rfl:k=s.wa.length:=by omega
   obtain ⟨ar,cr,rfl⟩:=hOr.Eh;refine .o (.buildSlice (cells:=[.slice ar (qY s x i s.wa.length).length cr]) hs vP rfl rfl fun R8 w hs=>?_);refine .o (.append (ys:=[.slice ar (qY s x i s.wa.length).length cr]) hs po rfl rfl hO (.own .here rfl rfl) (by simp [Value.oneCell']) (fun l h=>by omega) fun v37 en37 w jy hs=>?_);obtain ⟨a37,l37,c37,rfl,h37⟩:=jy.shape;refine .z (zfa gM) (.o (.store hs rfl rfl sizeOf40 fun w hs=>?_));refine .nil (nB (nT (.region (.z zm (.z cP (.zn zg (nT ⟨i+1,.dI rfl bj bk,⟨aj,_,_,en37,ens++[er],jy,by rw [CC];exact hR.snoc hOr,?_⟩,aj⟩)))))));replace hs:St H w (.blk b5 [.slice a37 l37 c37]::en37:: .blk b4 [.slice none 0 0]:: .blk b2 [I s.id,I s.src,.slice ast s.st.length cst,.slice awa s.wa.length cwa,I s.al,I s.up]::er::(ens++σ)):=hs.sb;rw [List.append_assoc];exact hs.perm (.cons _ (.cons _ (.cons _ (.cons _ List.perm_middle.symm))))
 ·refine .exit (xT (xT (xB (nT (.af (.y hs (zls [_] isAgg42 Bn) (.o (.aS (vs:=[_]) hs rfl rfl Bn fun w hs=>?_))))))));refine .nil (.ret ?_);obtain rfl:i=s.st.length:=by omega
  exact Fin.kY [] [] hs fun w hs=>⟨_,results1 results8 (fq (vs:=[_]) hs rfl isAgg42 Bn),_,us,en,ens,rfl,hO,hR,hs.sb⟩
set_option maxHeartbeats 4000000 in
theorem mx{w:World}{s:Srv}{vst vwa:Value}(hs:St H w σ)(h1:RI H vst s.sp.st)(h2:RI H vwa s.sp.wa)(h3:RRd H vr s.rs)(h4:RCm H vc s.cs)(hh:RT H vh rows):
  TN 18 [.agg #[I s.sp.id,I s.sp.src,vst,vwa,I s.sp.al,I s.sp.up,vr,vc],.agg #[vh]] w fun u w'=>∃H1 e,HLe H H1∧u=I e∧IW s rows e∧St H1 w' σ:=by
 obtain ⟨ast,cst,rfl⟩:=RI.shape h1;obtain ⟨awa,cwa,rfl⟩:=RI.shape h2;obtain ⟨ar,cr,rfl⟩:=RRd.shape h3;obtain ⟨ac,cc,rfl⟩:=RCm.shape h4;obtain ⟨ah,ch,rfl⟩:=hh.shape;refine Cl.o func18 ntmps18 ag2 ?_;refine .af (.bx hs fun b2 w hs=>?_);refine .bx hs fun b3 w hs=>?_
 refine .zn zg (.seq (.af (.y hs (zls [_,_,_,_,_,_,_,_] bS aV) (.o (.call call53 rfl (gg (s:=s) hs h1 h2 h3 h4) ?_)))));rintro _ w ⟨H1,e,aq,rfl,hC,hs⟩;refine .zn zg (.af (.z zm (.zn gL (.gU rfl (fun dX=>?_) (fun dX=>?_)))))
 ·exact .af (.z zm (.zn zg (.ret (rT ((Fin.bw results18 rfl ⟨H1,_,aq,rfl,.bad hC dX,hs.out⟩))))))
 ·refine .skip (nT (.seq (.af (.z (zfa aU) (.y hs (zls [_,_,_,_,_,_] bg aJ) (.y hs (zls [_] isAgg42 Bn) ?_))))));have bq:fO s:=hC.eO.1 (by simpa using dX);have oY:=fc bq.early.1;have zy:=bq.early.2.1;refine .o (.call call42 rfl (kh (s:=s.sp) hs (h1.mono aq) (h2.mono aq) (hh.mono aq)) ?_);rintro _ w ⟨H2,Ps,aW,rfl,xO,hs⟩;have dv:=aq.trans aW;refine .zn iW (.cond rfl (fun km=>?_) (fun km=>?_))
  ·exact .af (.zn zg (.ret (rT ((Fin.bw results18 rfl ⟨H2,_,dv,rfl,.hull bq (fun h=>by rw [xO.2 h] at km;cases km),hs.out⟩)))))
  ·refine .skip (nT (.af (.y hs (zls [_,_,_,_,_,_,_,_] bS aV) ?_)));have wG:kz s.sp rows:=xO.1 (by simpa using km);have vI:=bq.cR;have Js:=bq.many;refine .o (.call call54 rfl (fB (s:=s) hs (h1.mono dv) (h2.mono dv) (h3.mono dv) (h4.mono dv) bq.early) ?_);rintro _ w ⟨H3,bO,⟨ul,rfl,hL⟩,hs⟩;obtain ⟨al,cl,rfl⟩:=RL.shape hL;have jd:=dv.trans bO;have BY:=fun b hb=>Jp (b:=b) wG hb
   have KM:=fun l hl=>bq.sys.lim l hl
   refine .o (.alloc hs jT rfl fun b6 w hs=>?_);refine .o (.aS (vs:=[_,_]) hs rfl rfl bF fun w hs=>?_);refine .nil (.af (.o (.buildSlice (cells:=[_]) hs bL rfl rfl fun uI w hs=>?_)));refine .o (.alloc hs gp rfl fun b7 w hs=>?_);refine .o (.store hs rfl rfl aL fun w hs=>?_);refine .nil (.seq (.af (.z (zfa aU) (.y hs (zls [_,_,_,_,_,_] bg aJ) (.o (.call call44 rfl (eG (s:=s.sp) hs (h1.mono jd) (h2.mono jd) ⟨aj,aj⟩) ?_))))));rintro _ w ⟨H4,ba,fk,rfl,oh,hs⟩;have kP:=jd.trans fk;refine .nil (.block ?_);refine .rangeFunc (gf:=92) (cap:=[Pt ba]) (xs:=wP s.sp) (σb:=[.blk b7 [.slice (some ⟨uI,0,none⟩) 1 1],.blk uI (Is [0]),.blk b6 [I s.sys.many,.slice al s.cR.length cl],.blk b3 [.slice ah rows.length ch]]) (σf:=σ) (hs.sb) trivial rfl oh call92 (fun x hx=>by
     simp only [wP,List.mem_map] at hx;obtain ⟨j,_,rfl⟩:=hx;rfl) rfl
    (I:=fun p H' σb=>∃vo en,σb=[.blk b7 [vo],en,.blk b6 [I s.sys.many,.slice al s.cR.length cl],.blk b3 [.slice ah rows.length ch]]∧bG 1 vo (Is (xl1 s (gt rows) (p+1))) en) (Ix:=fun _ _ _=>False)
    (fun j _ _ σ g1 g2=>g2) (fun _ _ _ _ _ h=>h) ⟨_,_,rfl,.full rfl⟩ ?_ ?_ (fun D c H' σb w _ h _=>h.elim)
   ·rintro ly p hp H5 vZ tj w eT ⟨vo,en,rfl,hO⟩ hs ⟨rr,E9⟩;have DL:p<s.sp.many:=by rw [dy] at hp;exact hp
    have fh:p/s.sp.wa.length<s.sp.st.length:=Nat.div_lt_of_lt_mul (by rw [Nat.mul_comm];exact DL);have HT:=Nat.mod_lt p oY.2.2.1;have CZ:hpt s.sp (gt rows) (p+1)=gi (gr rows (p/s.sp.wa.length)) (p%s.sp.wa.length):=rfl;have oZ:=wG.row _ fh;have M8:=wG.len;have Qo:=hh.mono (kP.trans eT);rw [l9 hp];obtain ⟨ao,lo,co,rfl,Nf⟩:=hO.shape;have sD:=ln s (gt rows) (p+1);generalize p/s.sp.wa.length=i at*;generalize p%s.sp.wa.length=k at*;refine .region (.o (.alloc hs qH rfl fun b8 w hs=>?_));refine .o (.aS (vs:=[_,_,_]) hs rfl rfl DH fun w hs=>?_);refine .nil (nT ⟨H5,[.blk b8 [I (i:Int),I (k:Int),I ((p+1:Nat):Int)],.blk b7 [.slice ao lo co],en,.blk b6 [I s.sys.many,.slice al s.cR.length cl],.blk b3 [.slice ah rows.length ch]],HLe.refl _,hs,?_⟩);rintro w sV - hs;refine .block (.draw mix rfl hs fun w hs=>?_);refine .y 0 rfl hs an ?_;refine .z 1 rfl (zfa gM) ?_;refine .y 2 rfl hs IZ ?_;refine .z 3 rfl (zfa cD) ?_;refine .y 4 rfl hs ai ?_;refine .ixT (i:=5) hs rfl az .none Qo rfl rfl aC aL (show i<_ by omega) dG ?_;intro Po o35 a35 c35 rD RE;refine .r (i:=6) hs rfl az .none (aQ rfl an rD) ?_;refine .zw 7 rfl (zfa bV) ?_;refine .y 8 rfl hs ai ?_;refine .ixX (enc:=fun x=>[I x]) (i:=9) hs rfl az .none RE rfl rfl ae ak (bJ (l:=(gr rows i)) (i:=k) aj) dG ?_;intro Pk o39 mY;replace mY:=bB.one mY;refine .r (i:=10) hs rfl az .none (aQ rfl ai mY) ?_;refine .E 11 hs ?_;refine .buildSlice (cells:=[_]) hs bL rfl rfl ?_;intro Pj w hs;refine .go (.E 12 hs ?_);refine .append (ys:=Is [gi (gr rows i) k]) hs bM rfl rfl hO (.own (c:=Is [gi (gr rows i) k]) (by first|exact .here|exact .there .here) rfl rfl) (ky _) (fun l h=>by simp at h;omega) ?_;intro v42 en42 w eH hs;rw [←List.map_append,←CZ,←GB] at eH;obtain ⟨a42,l42,c42,rfl,h42⟩:=eH.shape;refine .go (.E 13 hs ?_);refine .store hs rfl rfl aL ?_;intro w hs;exact .go (.D hs (nB ⟨H5,[.blk b7 [.slice a42 l42 c42],en42,.blk b6 [I s.sys.many,.slice al s.cR.length cl],.blk b3 [.slice ah rows.length ch]],HLe.refl _,(hs.sb:St H5 w (.blk b7 _::en42:: .blk b6 _:: .blk b3 _::sV)),_,_,rfl,eH⟩))
   ·rintro D H5 vZ w eT ⟨vo,en,rfl,hO⟩ hs;rw [dy] at hO;replace hs:St H5 w (.obj D (.deferred (some [])):: .blk b7 [vo]::en:: .blk b6 [I s.sys.many,.slice al s.cR.length cl]:: .blk b3 [.slice ah rows.length ch]::σ):=hs;obtain ⟨ao,lo,co,rfl,Nf⟩:=hO.shape;have sD:=ln s (gt rows) (s.sp.many+1);have Nd:lo=s.sp.many+1:=by simp [Is] at Nf;omega
    subst Nd;have Tx:=hL.mono (fk.trans eT);have Ni:=kP.trans eT;refine nB (nT (.seq (.af (.y hs (zld an) (.z (cH ae) (.zn zg (.block ?_)))))));refine .loop (fun j:Nat=>⟨81,marks [D],[(9,I ((s.sp.many+1+j:Nat):Int)),(7,Pt b7),(6,Pt b6)]⟩)
     (fun j w=>j≤s.bD.length∧∃ax cx en,bG 1 (.slice ax (s.sp.many+1+j) cx) (Is (xl1 s (gt rows) (s.sp.many+1)++xl2 s (gt rows) j)) en∧St H5 w (.obj D (.deferred (some [])):: .blk b7 [.slice ax (s.sp.many+1+j) cx]::en:: .blk b6 [I s.sys.many,.slice al s.cR.length cl]::σ)) (fun j=>s.bD.length - j) 0 bk
     ⟨Nat.zero_le _,_,_,_,by show bG 1 _ (Is (_++[])) _;rw [List.append_nil];exact hO,hs.sb⟩ ?_
    clear hs hO;rintro j w ⟨hj,ax,cx,en,hO,hs⟩;have MY:s.sys.many=((s.sp.many+s.bD.length:Nat):Int):=rfl;have HJ:=wb s (gt rows) j;have BO:(xl1 s (gt rows) (s.sp.many+1)++xl2 s (gt rows) j).length=s.sp.many+1+j:=by rw [List.length_append,sD,HJ]
    refine .seq (.af (.z zm (.z (zfa bH) (.y hs (zld ai) (.zn pE (.cu rfl (fun xJ=>?_) (fun xJ=>?_)))))))
    ·refine .skip (nT (.seq (.block (.af (.zn zg (.seq (.af (.z (zfa bN) (.y hs (zld fJ) (.z (cH a7) (.zn zm (.for (N:=s.cR.length) (J:=fun k fr w=>fr=[(10,I (uT (hpt s.sp (gt rows)) (s.sp.many+1+j:Nat) (s.cR.take k))),(52,.slice al s.cR.length cl),(9,I ((s.sp.many+1+j:Nat):Int)),(7,Pt b7),(6,Pt b6)]∧St H5 w (.obj D (.deferred (some [])):: .blk b7 [.slice ax (s.sp.many+1+j) cx]::en:: .blk b6 [I s.sys.many,.slice al s.cR.length cl]::σ)) aj ?_ ?_ ?_))))))))))))
     ·exact .mk ⟨rfl,hs⟩
     ·rintro k fr w hk ⟨rfl,hs⟩;obtain ⟨l,hx⟩:=nth (l:=s.cR) hk;have LP:=List.mem_of_getElem? hx;obtain ⟨⟨gA,gB⟩,Aj⟩:=mQ bq.early LP;have hM:=(KM l LP).2.2.2.1;obtain ⟨eB,hB⟩:∃b:Nat,l.B=b:=⟨_,(Int.toNat_of_nonneg gB).symm⟩;have TF:l.B.toNat=eB:=by rw [hB,Int.toNat_natCast]
      rw [TF] at Aj;have Fy:=AM (hpt s.sp (gt rows)) (s.sp.many+1+j:Nat) (s.cR.take k);refine .block (.af (.ixX (enc:=Lim.c) hs Tx rfl rfl a7 ck hx rfl ?_));intro b56 o56 Q6;refine .q hs (bE (vs:=l.c) rfl ve ck Q6) (.o (.alloc hs jU rfl fun pn w hs=>?_));refine .o (.aS (vs:=l.c) hs rfl rfl ck fun w hs=>?_);refine .nil (.af (.z (zfa dw) (.y hs (zld ai) (.z zm (.zn gQ (.cu rfl (fun A1=>?_) (fun A1=>?_)))))))
      ·refine .draw mix rfl hs fun w hs=>?_
       have hbB:=BY eB aj;obtain ⟨bo,co',sp,hv,rfl,mX⟩:=hO.blk (by rw [BO];omega);simp only [Value.slice.injEq] at hv;obtain ⟨rfl,-,rfl⟩:=hv;have hgx:gi (xl1 s (gt rows) (s.sp.many+1)++xl2 s (gt rows) j) eB=hpt s.sp (gt rows) eB:=wT s _ _ aj;refine .zw 0 rfl zm ?_;refine .y 1 rfl hs an ?_;refine .z 2 rfl (zfa dN) ?_;refine .y 3 rfl hs ai ?_;rw [hB];refine .zw 4 rfl (zix (j:=eB) ae ak) (.load (i:=5) hs rfl az .none rfl ai ?_ (hv:=fG aj sp));rw [hgx];refine .zw 6 rfl (zfa eX) ?_;refine .y 7 rfl hs ai ?_;refine .z 8 rfl jc ?_;refine .z 9 rfl LH ?_;refine .z 10 rfl zg ?_;refine .D hs ?_;exact nB (nT (.mk ⟨by rw [ep hx,tS,if_pos aj,TF],hs.sb⟩))
      ·exact .skip (nB (nT (.mk ⟨by rw [ep hx,tS,if_neg aj],hs.sb⟩)))
     ·rintro fr w ⟨rfl,hs⟩;rw [List.take_length];refine nT (.region (.y hs (zld an) (.z zm (.o (.buildSlice (cells:=[_]) hs bL rfl rfl fun b75 w hs=>?_)))));refine .o (.append (ys:=Is [uT (hpt s.sp (gt rows)) (s.sp.many+1+j:Nat) s.cR]) hs bM rfl rfl hO (.own .here rfl rfl) (ky _) (fun l h=>by simp only [Is,List.length_map,BO] at h;omega) ?_);intro v76 en76 w eH hs;rw [←List.map_append,List.append_assoc,←GA] at eH;obtain ⟨a76,c76,rfl⟩:=eH.Eh;have SL:(xl1 s (gt rows) (s.sp.many+1)++xl2 s (gt rows) (j+1)).length=s.sp.many+1+(j+1):=by rw [List.length_append,sD,wb]
      rw [SL] at eH ⊢;refine .o (.store hs rfl rfl aL fun w hs=>?_);exact .nil (nB (nT (.region (.z zm (.z cP (.zn zg (nT ⟨j+1,.dI rfl (by simp;omega) bk,⟨aj,_,_,_,eH,hs.sb⟩,aj⟩)))))))
    ·refine .exit (xT (xT (xB (nT (.seq (.af (.y hs (zls [_,_] dp bF) (.y hs (zld an) ?_))))))));obtain rfl:j=s.bD.length:=by omega
     obtain ⟨H6,jh,hX,hs⟩:=bG.bU hO (by rw [BO];omega) hs cZ;refine .o (.call call55 rfl (np (s:=s.sys) hs ⟨_,rfl,Tx.mono jh⟩ hX) ?_);rintro _ w ⟨e79,rfl,hP,hs⟩;have hn:=vj s;have Jx:Gh s.sys (xl1 s (gt rows) (s.sp.many+1)++xl2 s (gt rows) s.bD.length)↔∃f,Kp s (gt rows) f:=by
      rw [←Gz bq];refine ⟨fun h=>h.Bf,fun h=>⟨by rw [BO,hn];omega,by rw [wT s _ _ aj];rfl,fun b hb=>?_,h⟩⟩;rw [hn] at hb;by_cases e:b<s.sp.many+1
      ·rw [wT s _ _ e];have:=BY b aj;omega
      ·rw [show b=s.sp.many+1+(b - (s.sp.many+1)) by omega,Br s _ aj];have g1:=AM (hpt s.sp (gt rows)) (s.sp.many+1+(b - (s.sp.many+1)):Nat) s.cR;have g2:=HA bq wG (b - (s.sp.many+1));omega
     refine .zn gL (.gU rfl (fun NA=>?_) (fun NA=>?_))
     ·refine .af (.zn zg (.ret (rT ((Fin.kY [D] [] hs fun w hs=>⟨_,results1 results18 rfl,H6,_,Ni.trans jh,rfl,.no bq wG (fun h=>NA ?_),hs.out⟩)))))
      cases hP with
      |bad h=>exact (h (s.sys.eO.2 bq.sys)).elim
      |off _ h1=>exact (h1 (Jx.2 h)).elim
      |ok=>rfl
     ·refine .skip (nT (.af (.zn zg (.ret (Fin.kY [D] [] hs fun w hs=>⟨_,results1 results18 rfl,H6,_,Ni.trans jh,rfl,.ok bq wG (Jx.1 ?_),hs.out⟩)))))
      cases hP with
      |bad h=>exact (h (s.sys.eO.2 bq.sys)).elim
      |off _ h1=>omega
      |ok _ h1=>exact h1
theorem AB{v:Srv}{q:Wht}(g:z8 v q lo hi 0):∃a b,lo=a/sI q∧hi=b/sI q∧fO v∧fW v.sp q∧jF v.sys (v.w q) a b 0:=by
 generalize hz:(0:Int)=z at g
 cases g with
 |bad g ge=>exact (ge hz.symm).elim
 |what=>omega
 |fls=>omega
 |ok h1 h2 h3 h4=>exact ⟨_,_,rfl,rfl,h1,h2,h4⟩
theorem vz{w:World}(hs:St H w σ)(g1:RI H vs sl)(g2:RF5 H v5 fL)(g3:RF4 H v4 fV)(g4:RI H vp pk):
  TN 7 [.agg #[vs,v5,v4,vp,I z1,I z2,I z3]] w fun u w'=>∃H1 s y vst vwa vr vc vy,HLe H H1∧u= .tuple #[.agg #[I s.sp.id,I s.sp.src,vst,vwa,I s.sp.al,I s.sp.up,vr,vc],vy]∧sR s∧nu s y∧RI H1 vst s.sp.st∧RI H1 vwa s.sp.wa∧RRd H1 vr s.rs∧RCm H1 vc s.cs∧RI H1 vy y∧St H1 w' σ:=by
 refine (vA hs g1 g2 g3 g4).mono ?_;rintro _ w ⟨H3,m,y,ust,uwa,ur,uc,uy,e1,e2,e3,e4,e5,bO,rfl,hM,hOV,Pb,hK,hs⟩;have KF:=hM.st;have P3:=hM.wa;have hmr:=hM.rs;have hmc:=hM.cs;obtain ⟨H4,fk,r1,r2,r3,r4,hs,-⟩:=JW.AP hOV aj aj aj aj hs;obtain ⟨zr,-,hyb⟩:=hK.bd;have QA:=hM.ok.many;obtain ⟨H5,eT,hY,hs⟩:=bG.bU Pb aj hs .here;exact ⟨H5,m,y,_,_,_,_,_,bO.trans (fk.trans eT),rfl,hM,hK,r1.mono eT,r2.mono eT,r3.mono eT,r4.mono eT,hY,hs⟩
theorem vu{w:World}{vst vwa:Value}(hs:St H w σ)(h1:RI H vst s.st)(h2:RI H vwa s.wa)(hx:RI H vx x)(xP:s.st.length≤1000)(uU:s.wa.length≤1000)(sD:s.many+1≤x.length):
  TN 8 [.agg #[I s.id,I s.src,vst,vwa,I s.al,I s.up],vx] w fun u w'=>∃H1 va,HLe H H1∧u= .agg #[va]∧RT H1 va (jI s x s.st.length)∧St H1 w' σ:=by
 refine (vv hs h1 h2 hx xP uU sD).mono ?_;rintro _ w ⟨va,us,en,ens,rfl,hO,hR,hs⟩;have P7:=hR.length;rw [kI] at P7;replace hs:St H w (ens++(en::σ)):=hs.perm List.perm_middle.symm;obtain ⟨H6,jh,Ry,hs⟩:=hR.bK (fun r hr=>by
  obtain ⟨j,hj⟩:=List.getElem?_of_mem hr;have Fj:=(List.getElem?_eq_some_iff.1 hj).1;rw [kI] at Fj;rw [yT Fj] at hj;obtain rfl:=Option.some.inj hj;rw [mK];omega) hs
 obtain ⟨H7,AZ,Dg,hs⟩:=Ry.bK hO aj hs .here;exact ⟨H7,_,jh.trans AZ,rfl,Dg,hs⟩
theorem MG{P:Program}{s:FS}{t fU:TypeId}{x y:Operand}{p:Int}(hx:FS.ev s x=some (.int .u64 p))(hy:FS.ev s y=some (.int .u64 1)):QJ P H σ s (.binOp .shr t x y fU) (.int .u64 (p/2)):=by
 have h1:=AD (P:=P) (H:=H) (σ:=σ) (t:=t) (fU:=fU) hx hy aj;have h2:p.fdiv (2 ^min (1:Int).toNat IntKind.u64.bits)=p/2:=by
  have:(2:Int) ^min (1:Int).toNat IntKind.u64.bits=2:=by decide
  rw [this,Int.fdiv_eq_ediv_of_nonneg _ aj]
 rw [h2] at h1;exact h1
end Go.Proofs.YtlgfjghdgbhkhaaGreat
namespace Go.MW
variable{H H':bC}{k room:Int}{i j:Nat}{kd:Int→Int}
structure Ev where
 off:Int
 seq:Int
 kind:Int
 ship:Int
 day:Int
 known:Int
 room:Int
 num:Int
 opn:Int
 crew:Int
 sp:Spc
 ast:Option Addr
 cst:Nat
 awa:Option Addr
 cwa:Nat
 rd:Rdg
 cm:Cmp
 oo:Int
 os:Int
abbrev Ev.vst(x:Ev):Value:= .slice x.ast x.sp.st.length x.cst
abbrev Ev.vwa(x:Ev):Value:= .slice x.awa x.sp.wa.length x.cwa
def Ev.c(x:Ev):List Value:=[I x.off,I x.seq,I x.kind,I x.ship,I x.day,I x.known,I x.room,I x.num,I x.opn,I x.crew,I x.sp.id,I x.sp.src,.slice x.ast x.sp.st.length x.cst,.slice x.awa x.sp.wa.length x.cwa,I x.sp.al,I x.sp.up,
 I x.rd.src,I x.rd.st,I x.rd.wa,I x.rd.val,I x.rd.tol,I x.rd.tape,I x.rd.day,I x.cm.src,I x.cm.tape,I x.cm.fr,I x.cm.to,I x.cm.lo,I x.cm.hi,I x.oo,I x.os]
def Ev.agg(x:Ev):Value:= .agg #[I x.off,I x.seq,I x.kind,I x.ship,I x.day,I x.known,I x.room,I x.num,I x.opn,I x.crew,I x.sp.id,I x.sp.src,.slice x.ast x.sp.st.length x.cst,.slice x.awa x.sp.wa.length x.cwa,I x.sp.al,I x.sp.up,
 I x.rd.src,I x.rd.st,I x.rd.wa,I x.rd.val,I x.rd.tol,I x.rd.tape,I x.rd.day,I x.cm.src,I x.cm.tape,I x.cm.fr,I x.cm.to,I x.cm.lo,I x.cm.hi,I x.oo,I x.os]
structure EvM(H:bC)(x:Ev):Prop where
 st:RI H x.vst x.sp.st
 wa:RI H x.vwa x.sp.wa
theorem EvM.mono{x:Ev}(h:EvM H x)(hl:HLe H H'):EvM H' x:=⟨h.st.mono hl,h.wa.mono hl⟩
def evc(l:List Ev):List (List Value):=l.map Ev.c
theorem gO(l:List Ev):∀c∈evc l,c.length=31:=fun c hc=>by simp only [evc,List.mem_map] at hc;obtain ⟨x,_,rfl⟩:=hc;rfl
theorem du(l:List Ev):(evc l).length=l.length:=by simp [evc]
theorem uA{l:List Ev}{k:Nat}{x:Ev}(h:l[k]? =some x):(evc l)[k]? =some x.c:=by simp [evc,h]
theorem ta(l:List Ev)(x:Ev):(evc (l++[x])).flatten=(evc l).flatten++x.c:=by simp [evc]
structure REv(H:bC)(v:Value)(l:List Ev):Prop where
 rs:RS H 31 v (l.map Ev.c)
 all:∀x∈l,EvM H x
theorem REv.mono{v:Value}{l:List Ev}(h:REv H v l)(hl:HLe H H'):REv H' v l:=⟨RS.mono h.rs hl,fun x hx=>(h.all x hx).mono hl⟩
theorem REv.shape{v:Value}{l:List Ev}(h:REv H v l):∃a cap,v= .slice a l.length cap:=by
 obtain ⟨a,c,rfl⟩:=h.rs.shape;exact ⟨a,c,by rw [List.length_map]⟩
def sp0:Spc:=⟨0,0,[],[],0,0⟩
def rd0:Rdg:=⟨0,0,0,0,0,0,0⟩
def cm0:Cmp:=⟨0,0,0,0,0,0⟩
structure DC(x:Ev):Prop where
 ok:fm x.sp
 id:x.sp.id≤999
 src:x.sp.src=x.seq+1
structure uM(x:Ev):Prop where
 kind:x.kind=1
 num:1≤x.num∧x.num≤9
 new:DC x
 room:x.room=0
 opn:x.opn=0
 crew:x.crew=0
 rd:x.rd=rd0
 cm:x.cm=cm0
structure yr(x:Ev):Prop where
 kind:x.kind=2
 num:1≤x.num∧x.num≤9
 new:DC x
 room:x.room=0
 opn:0≤x.opn∧x.opn≤1000
 crew:0≤x.crew∧x.crew≤999
 rd:x.rd=rd0
 cm:x.cm=cm0
structure mb(x:Ev):Prop where
 kind:x.kind=8
 room:1≤x.room∧x.room≤999
 src:x.rd.src=x.seq+1
 day:x.rd.day=x.day
 st:0≤x.rd.st∧x.rd.st≤8
 wa:0≤x.rd.wa∧x.rd.wa≤6
 tol:0≤x.rd.tol∧x.rd.tol≤1000
 val:0≤x.rd.val∧x.rd.val≤20000 - x.rd.tol
 tape:1≤x.rd.tape∧x.rd.tape≤99
 num:x.num=0
 opn:x.opn=0
 crew:x.crew=0
 sp:x.sp=sp0
 ast:x.ast=none
 cst:x.cst=0
 awa:x.awa=none
 cwa:x.cwa=0
 cm:x.cm=cm0
structure yq(x:Ev):Prop where
 kind:x.kind=9
 src:x.cm.src=x.seq+1
 tape:1≤x.cm.tape∧x.cm.tape≤99
 fr:0≤x.cm.fr∧x.cm.fr≤x.cm.to
 to:x.cm.to≤100000
 lo: -1000≤x.cm.lo∧x.cm.lo≤x.cm.hi
 hi:x.cm.hi≤1000
 room:x.room=0
 num:x.num=0
 opn:x.opn=0
 crew:x.crew=0
 sp:x.sp=sp0
 ast:x.ast=none
 cst:x.cst=0
 awa:x.awa=none
 cwa:x.cwa=0
 rd:x.rd=rd0
structure ti(x:Ev):Prop where
 off:x.off=0
 seq:0≤x.seq∧x.seq≤9999
 ship:1≤x.ship∧x.ship≤999
 day:0≤x.day∧x.day≤100000
 known:0≤x.known∧x.known≤100000
 oo:x.oo=0
 os:x.os=0
 what:uM x∨yr x∨mb x∨yq x
theorem ti.kind{x:Ev}(h:ti x):x.kind=1∨x.kind=2∨x.kind=8∨x.kind=9:=by
 rcases h.what with g|g|g|g
 ·exact .inl g.kind
 ·exact .inr (.inl g.kind)
 ·exact .inr (.inr (.inl g.kind))
 ·exact .inr (.inr (.inr g.kind))
theorem ti.build{x:Ev}(h:ti x)(hk:x.kind=1):uM x:=by
 rcases h.what with g|g|g|g
 ·exact g
 all_goals have:=g.kind;omega
theorem ti.Jf{x:Ev}(h:ti x)(hk:x.kind=2):yr x:=by
 rcases h.what with g|g|g|g
 case inr.inl=>exact g
 all_goals have:=g.kind;omega
theorem ti.read{x:Ev}(h:ti x)(hk:x.kind=8):mb x:=by
 rcases h.what with g|g|g|g
 case inr.inr.inl=>exact g
 all_goals have:=g.kind;omega
theorem ti.tape{x:Ev}(h:ti x)(hk:x.kind=9):yq x:=by
 rcases h.what with g|g|g|g
 case inr.inr.inr=>exact g
 all_goals have:=g.kind;omega
def ev0:Ev:=⟨0,0,0,0,0,0,0,0,0,0,sp0,none,0,none,0,rd0,cm0,0,0⟩
def evG(l:List Ev)(i:Nat):Ev:=l.getD i ev0
theorem eZ{l:List Ev}(h:i<l.length):l[i]? =some (evG l i):=by simp [evG,List.getD,List.getElem?_eq_getElem h]
theorem pa{l:List Ev}(h:i<l.length):evG l i∈l:=List.mem_of_getElem? (eZ h)
def lq(l:List Ev):Nat→Int
 |0=>0
 |n+1=>if (evG l n).kind=9 then lq l n+1 else lq l n
theorem yO(l:List Ev):∀n,0≤lq l n∧lq l n≤n
 |0=>by simp [lq]
 |n+1=>by have:=yO l n;simp only [lq];split<;>omega
structure Gk(l:List Ev):Prop where
 good:∀x∈l,ti x
 inc:∀i,i+1<l.length→(evG l i).seq<(evG l (i+1)).seq
 len:l.length≤80
 bD:lq l l.length≤20
end Go.MW
namespace Go.MW
section
variable{P:Program}{ro:Option Nat}{Q:Exit→FS→World→Prop}{K:FS→World→Prop}{s:FS}{w:World}{H:bC}{σ τ:List Ent}{n d:Nat}{ds:List Deferred}{e:List (Nat×Value)}{ty t:TypeId}{pos:String}{fa:Array Edge}{v:Value}{x y z:Operand}{b:Nat}
theorem GS:∀{c vs:List Value},c.length=vs.length→sY c 0 vs=vs:=by
 intro c vs h;have:=By vs [] [] c h;simpa using this
theorem OJ.fw{c vs:List Value}(hs:St H w σ)(hx:FS.ev s x=some (.pointer (some ⟨b,0,none⟩)))(hy:FS.ev s y=some (.agg vs.toArray))(hz:∀w,(sizeOf t).run P w= .ok vs.length w)
  (k:∀w',St H w' τ→K s w') (hu:Upd σ (.blk b c) (.blk b vs) τ:=by repeat constructor) (hl:c.length=vs.length:=by rfl) (hv:vs.all Value.oneCell'=true:=by rfl):OJ P ro ⟨none,.store t x y,ty,pos,fa,none⟩ K s w:=
 .aS hs hx hy hz k hu (by rw [Nat.zero_add,hl];exact Nat.ble_eq_true_of_le (Nat.le_refl _)) (GS hl) hv
theorem Es{key elem:TypeId}{kv zv:Value}{c:Nat}(hx:FS.ev s x=some (.map (some b)))(hy:FS.ev s y=some kv)(hm:Mem σ (.obj b (.map #[] c)))(hu:∀w,(underlying t).run P w= .ok (.map key elem) w)
  (hk:∀w,(Instr.checkKey true 10000 key kv).run P w= .ok () w) {kd:TypeDesc} (C5:∀w,(underlying key).run P w= .ok kd w) (hz:∀w,(zeroValue elem).run P w= .ok zv w):QJ P H σ s (.lookup t x y false) zv:=
 ⟨fun _=>by simp,fun a w _ _ _ _ _ hs E6=>by
  simp [execOp,hs.ev hx,hs.ev hy,Instr.lookup,Sem.run_bind,Result.andThen,hu w,lA (P:=P) E6 hm,hk w,Instr.findKey,C5 w,Instr.findNow,hz w]⟩
theorem Et{mo ko:Operand}{kt et:TypeId}{i:Int}{es:List MapEntry}{c j:Nat}(hm:FS.ev s mo=some (.map (some b)))(hk:FS.ev s ko=some (I i))
  (hu:∀w,(underlying t).run P w= .ok (.map kt et) w) (C5:∀w,(underlying kt).run P w= .ok (.int .i64) w) (hf:Instr.findNow (.int .i64) (I i) es 0=some (some (j,v)))
  (h:Mem σ (.obj b (.map es.toArray c)):=by repeat (first|exact .here|refine .there ?_)):QJ P H σ s (.lookup t mo ko false) v:=
 ⟨fun _=>by simp,fun a w _ _ _ _ _ ha hs=>by
  simp [execOp,ha.ev hm,ha.ev hk,Instr.lookup,Sem.run_bind,hu w,Result.andThen,lA hs h,pN C5,pO C5 hf]⟩
end
end Go.MW
namespace Go.MW
variable{H H':bC}{k room:Int}{i j:Nat}{kd:Int→Int}
def Bz(l:List Bool):List Value:=l.map Value.bool
theorem JX(l:List Bool)(k:Nat)(b:Bool):(Bz l).set k (.bool b)=Bz (l.set k b):=by simp [Bz,List.map_set]
theorem JZ{l:List Bool}{k:Nat}(h:k<l.length):Nat.blt k (Bz l).length=true:=Nat.ble_eq_true_of_le (by simp [Bz];omega)
theorem JY{l:List Bool}{k:Nat}{b:Bool}(h:l[k]? =some b):(Bz l)[k]? =some (.bool b):=by simp [Bz,h]
theorem Gm(l:List Bool):(l.map fun b=>[Value.bool b]).flatten=Bz l:=by
 induction l with
 |nil=>rfl
 |cons a l ih=>simp only [List.map_cons,List.flatten_cons,ih];rfl
theorem Oy(l:List Bool):∀c∈l.map fun b=>[Value.bool b],c.length=1:=fun c hc=>by
 simp only [List.mem_map] at hc;obtain ⟨x,_,rfl⟩:=hc;rfl
def RBo(H:bC)(v:Value)(l:List Bool):Prop:=RS H 1 v (l.map fun b=>[Value.bool b])
def Kd(l:List Ev)(known:Int):List Bool:=l.map fun x=>decide (x.known≤known)
theorem oH(l:List Ev)(k:Int):(Kd l k).length=l.length:=by simp [Kd]
theorem w8{l:List Ev}(h:i<l.length):(Kd l k)[i]? =some (decide ((evG l i).known≤k)):=by simp [Kd,eZ h]
def Ag(l:List Ev)(known:Int)(m:Nat):List Bool:=(List.range l.length).map fun j=>if m≤j then decide ((evG l j).known≤known) else false
theorem ir(l:List Ev)(k:Int)(m:Nat):(Ag l k m).length=l.length:=by simp [Ag]
theorem D9(l:List Ev)(k:Int):Ag l k 0=Kd l k:=by
 refine List.ext_getElem? fun i=>?_
 by_cases h:i<l.length
 ·rw [w8 h];simp [Ag,h]
 ·rw [List.getElem?_eq_none (by rw [ir];omega),List.getElem?_eq_none (by rw [oH];omega)]
theorem GM(l:List Ev)(k:Int):Ag l k l.length=List.replicate l.length false:=by
 refine List.ext_getElem? fun i=>?_
 by_cases h:i<l.length
 ·simp [Ag,h];omega
 ·rw [List.getElem?_eq_none (by rw [ir];omega),List.getElem?_eq_none (by simp;omega)]
theorem yQ{l:List Ev}{m:Nat}(h:m<l.length):(Ag l k (m+1)).set m (decide ((evG l m).known≤k))=Ag l k m:=by
 refine List.ext_getElem? fun i=>?_
 by_cases hi:i<l.length
 ·by_cases e:i=m
  ·subst e;rw [List.getElem?_set_self (by rw [ir];exact h)];simp [Ag,h]
  ·rw [List.getElem?_set_ne (by omega)];simp only [Ag,List.getElem?_map,List.getElem?_range hi,Option.map_some];by_cases e2:m≤i
   ·rw [if_pos (by omega),if_pos e2]
   ·rw [if_neg (by omega),if_neg e2]
 ·rw [List.getElem?_eq_none (by rw [List.length_set,ir];omega),List.getElem?_eq_none (by rw [ir];omega)]
theorem Bu{l:List Ev}{m:Nat}(h:m<l.length):(Ag l k m)[m]? =some (decide ((evG l m).known≤k)):=by simp [Ag,h]
def shC(n fl:Int)(s:Srv)(a b c d vc:Value)(th:Bool)(cmp tap dn vd:Value):List Value:=
 [I n,I fl,I s.sp.id,I s.sp.src,a,b,I s.sp.al,I s.sp.up,c,d,vc,.bool th,cmp,tap,dn,vd]
structure Rm where
 id:Int
 kind:Int
 opn:Int
 crew:Int
def ceC(r:Rm)(s:Srv)(a b c d:Value):List Value:=[I r.id,I r.kind,I r.opn,I r.crew,I 0,I 0,I s.sp.id,I s.sp.src,a,b,I s.sp.al,I s.sp.up,c,d]
def Ai(x:Ev)(P:List Ev):Nat→Nat
 |0=>0
 |j+1=>if x.day<(evG P j).day then Ai x P j else j+1
theorem xm(x:Ev)(P:List Ev):∀j,Ai x P j≤j
 |0=>Nat.le_refl _
 |j+1=>by have:=xm x P j;simp only [Ai];split<;>omega
def HI(x:Ev)(P:List Ev):List Ev:=P.take (Ai x P P.length)++x::P.drop (Ai x P P.length)
def dq(l:List Ev):Nat→List Ev
 |0=>[]
 |n+1=>HI (evG l n) (dq l n)
theorem AR(x:Ev)(P:List Ev):(HI x P).length=P.length+1:=by
 have:=xm x P P.length;simp [HI];omega
theorem fo(l:List Ev):∀n,(dq l n).length=n
 |0=>rfl
 |n+1=>by simp only [dq];rw [AR,fo l n]
theorem E0(x:Ev)(P:List Ev):(HI x P).Perm (x::P):=by
 unfold HI;refine List.perm_middle.trans ?_;rw [List.take_append_drop]
theorem gv{l:List Ev}{n:Nat}(h:n<l.length):l.take (n+1)=l.take n++[evG l n]:=by
 rw [List.take_add_one,eZ h];rfl
theorem qU(l:List Ev):∀{n:Nat},n≤l.length→(dq l n).Perm (l.take n)
 |0,_=>by simp [dq]
 |n+1,h=>by
  simp only [dq];rw [gv (by omega)];refine (E0 _ _).trans ?_;refine (List.Perm.cons _ (qU l (n:=n) (by omega))).trans ?_;exact (List.perm_append_singleton _ _).symm
theorem AF{x:Ev}{P:List Ev}{p:Nat}(hx:0≤x.day)(h:∀i<p,(evG P i).day=0):∀{j:Nat},p≤j→p≤Ai x P j
 |0,hj=>hj
 |j+1,hj=>by
  simp only [Ai];by_cases e:p=j+1
  ·rw [if_neg];omega;have:=h j (by omega);omega
  ·split
   ·exact AF hx h (by omega)
   ·exact hj
theorem xY{l:List Ev}{n:Nat}(h:i<n):evG (l.take n) i=evG l i:=by
 unfold evG;simp only [List.getD];rw [List.getElem?_take,if_pos h]
theorem qT{l:List Ev}(hd:∀x∈l,0≤x.day){p:Nat}(h:∀i<p,(evG l i).day=0):∀{n:Nat},n≤l.length→p≤n→(dq l n).take p=l.take p
 |0,_,hp=>by have:p=0:=by omega
             subst this;rfl
 |n+1,hn,hp=>by
  by_cases e:p≤n
  ·have ih:=qT hd h (n:=n) (by omega) e;have hl:=fo l n;have hz:∀i<p,(evG (dq l n) i).day=0:=fun i hi=>by
    rw [←xY (l:=dq l n) hi,ih,xY hi];exact h i hi
   have hg:=AF (x:=evG l n) (P:=dq l n) (p:=p) (hd _ (pa (by omega))) hz (j:=(dq l n).length) (by omega);have hle:=xm (evG l n) (dq l n) (dq l n).length;simp only [dq,HI];rw [List.take_append_of_le_length (by rw [List.length_take];omega),List.take_take,show min p (Ai (evG l n) (dq l n) (dq l n).length)=p by omega,ih]
  ·obtain rfl:p=n+1:=by omega
   have ih:=qT hd (fun i hi=>h i (by omega)) (p:=n) (n:=n) (by omega) (Nat.le_refl _);have hl:=fo l n;rw [List.take_of_length_le (by omega)] at ih;have hz:∀i<n,(evG (dq l n) i).day=0:=fun i hi=>by
    rw [ih,xY hi];exact h i (by omega)
   have hg:=AF (x:=evG l n) (P:=dq l n) (p:=n) (hd _ (pa (by omega))) hz (j:=(dq l n).length) (by omega);have hle:=xm (evG l n) (dq l n) (dq l n).length;simp only [dq,HI];have hS:(dq l n).take n=dq l n:=List.take_of_length_le (by omega);have hD:(dq l n).drop n=[]:=List.drop_of_length_le (by omega);rw [show Ai (evG l n) (dq l n) (dq l n).length=n by omega,hS,hD,ih,←gv (by omega),List.take_take,Nat.min_self]
def stA(P:List Ev)(x:Ev)(j:Nat)(R:List Ev):List Ev:=P.take j++x::(P.drop j++R)
theorem Cy{P:List Ev}{x:Ev}{R:List Ev}(h:j≤P.length):(stA P x j R).length=P.length+1+R.length:=by simp [stA];omega
theorem Ml{P:List Ev}{x:Ev}{R:List Ev}(h:j≤P.length):(stA P x j R)[j]? =some x:=by
 unfold stA;rw [List.getElem?_append_right (by rw [List.length_take];omega),List.length_take,show j - min j P.length=0 by omega];rfl
theorem Ke{P:List Ev}{x:Ev}{R:List Ev}(h:j+1≤P.length):(stA P x (j+1) R)[j]? =some (evG P j):=by
 unfold stA;rw [List.getElem?_append_left (by rw [List.length_take];omega),List.getElem?_take,if_pos (by omega),eZ (by omega)]
theorem GN{P:List Ev}{x:Ev}{R:List Ev}(h:j+1≤P.length):((stA P x (j+1) R).set (j+1) (evG P j)).set j x=stA P x j R:=by
 have hd:P.drop j=evG P j::P.drop (j+1):=by
  rw [List.drop_eq_getElem_cons (by omega)];congr 1;have:=eZ (l:=P) (i:=j) (by omega);rw [List.getElem?_eq_getElem (by omega)] at this;exact Option.some.inj this
 unfold stA;rw [gv (by omega),hd,List.append_assoc];have hl:(P.take j).length=j:=by rw [List.length_take];omega
 rw [List.set_append_right _ _ (by omega),List.set_append_right _ _ (by omega),hl,show j+1 - j=1 by omega,show j - j=0 by omega];rfl
theorem Ec{P:List Ev}{x:Ev}{R:List Ev}(h:j=Ai x P P.length):stA P x j R=HI x P++R:=by
 subst h;simp [stA,HI]
theorem Eb(P:List Ev)(x:Ev)(R:List Ev):stA P x P.length R=P++x::R:=by simp [stA]
theorem FV{L:List Ev}{k:Nat}(h:k<L.length)(y:Ev)(sp:List Value):sY ((evc L).flatten++sp) (k*31) y.c=(evc (L.set k y)).flatten++sp:=by
 have e1:L=L.take k++evG L k::L.drop (k+1):=by
  have hd:L.drop k=evG L k::L.drop (k+1):=by
   rw [List.drop_eq_getElem_cons h];congr 1;have:=eZ (l:=L) (i:=k) h;rw [List.getElem?_eq_getElem h] at this;exact Option.some.inj this
  rw [←hd,List.take_append_drop]
 have hl:((evc (L.take k)).flatten).length=k*31:=by rw [bu _ (gO _),du,List.length_take];congr 1;omega
 have key:=By y.c (evc (L.take k)).flatten ((evc (L.drop (k+1))).flatten++sp) (evG L k).c rfl;rw [hl] at key;have e2:(evc L).flatten++sp=(evc (L.take k)).flatten++(evG L k).c++((evc (L.drop (k+1))).flatten++sp):=by
  conv=>lhs;rw [e1]
  simp [evc]
 rw [e2,key,List.set_eq_take_append_cons_drop,if_pos h];simp [evc]
theorem JS{L:List Ev}{k:Nat}(h:k<L.length)(y:Ev)(sp:List Value):Nat.ble (k*31+y.c.length) ((evc L).flatten++sp).length=true:=by
 refine Nat.ble_eq_true_of_le ?_;rw [List.length_append,bu _ (gO _),du];have:y.c.length=31:=rfl;omega
def mB(l:List Ev)(number day known:Int)(n:Nat):List Ev:=(l.take n).filter fun x=>decide ((x.known≤known∧x.kind≠9)∧x.ship=number∧x.day≤day)
theorem D1{l:List Ev}{a b c:Int}{n:Nat}(h:n<l.length):mB l a b c (n+1)=if ((evG l n).known≤c∧(evG l n).kind≠9)∧(evG l n).ship=a∧(evG l n).day≤b then mB l a b c n++[evG l n] else mB l a b c n:=by
 unfold mB;rw [gv h,List.filter_append];split
 ·next h=>rw [List.filter_cons_of_pos (by simpa using h)];rfl
 ·next h=>rw [List.filter_cons_of_neg (by simpa using h)];simp
theorem D2(l:List Ev)(a b c:Int):∀{n m:Nat},n≤m→m≤l.length→(mB l a b c n).length≤(mB l a b c m).length:=by
 intro n m h hm;unfold mB;have:l.take n=(l.take m).take n:=by rw [List.take_take];congr 1;omega
 rw [this];exact ((List.take_sublist n (l.take m)).filter _).length_le
structure Liv where
 there:Bool
 flag:Int
 hu:Srv
 cells:List (Rm×Srv)
def mP:Liv:=⟨false,0,⟨sp0,[],[]⟩,[]⟩
def Mo(x:Ev):Rm:=⟨x.sp.id,x.num,x.opn,x.crew⟩
def jZ(cs:List Cmp)(L:Liv)(x:Ev):Liv:=
 if x.kind=1 then ⟨true,x.num,⟨x.sp,[],cs⟩,L.cells⟩
 else if x.kind=2 then {L with cells:=[(Mo x,⟨x.sp,[],cs⟩)]}
 else if L.hu.sp.id=x.room then {L with hu:=L.hu.add x.rd} else {L with cells:=L.cells.map fun c=>(c.1,c.2.add x.rd)}
inductive OkE(L:Liv)(x:Ev):Prop
 |build (h:uM x) (h1:L.there=false) (h2:L.cells=[])
 |room (h:yr x) (h1:L.there=true) (h2:L.cells=[]) (h3:L.hu.sp.id≠x.sp.id)
 |hull (h:mb x) (h1:L.there=true) (h2:L.hu.sp.id=x.room) (h3:fO (L.hu.add x.rd)) (h4:L.hu.rs.length≤1000)
 |cell {r:Rm} {u:Srv} (h:mb x) (h1:L.there=true) (h2:L.hu.sp.id≠x.room) (hc:L.cells=[(r,u)]) (h3:r.id=x.room) (h4:fO (u.add x.rd)) (h5:u.rs.length≤1000)
def Aa(cs:List Cmp):Liv→List Ev→Prop
 |_,[]=>True
 |L,x::xs=>OkE L x∧Aa cs (jZ cs L x) xs
theorem Aa.at_{cs:List Cmp}:∀{xs:List Ev} {L:Liv},Aa cs L xs→∀{k:Nat} {x:Ev},xs[k]? =some x→OkE ((xs.take k).foldl (jZ cs) L) x
 |[],_,_,k,x,h=>by simp at h
 |y::ys,L,⟨h1,h2⟩,0,x,h=>by simp at h;subst h;exact h1
 |y::ys,L,⟨h1,h2⟩,k+1,x,h=>by
  simp only [List.take_succ_cons,List.foldl_cons];exact Aa.at_ h2 (by simpa using h)
theorem fold_succ{cs:List Cmp}{xs:List Ev}{L:Liv}{k:Nat}{x:Ev}(h:xs[k]? =some x):(xs.take (k+1)).foldl (jZ cs) L=jZ cs ((xs.take k).foldl (jZ cs) L) x:=by
 rw [List.take_add_one,h,List.foldl_append];rfl
inductive vU(H:bC):List (Rm×Srv)→Value→Ent→Prop
 |nil:vU H [] (.slice none 0 0) .nul
 |one {r:Rm} {u:Srv} {a b c d:Value} {bc cap:Nat} {sp:List Value} (h:SvM H u a b c d) (hc:14+sp.length=cap*14):vU H [(r,u)] (.slice (some ⟨bc,0,none⟩) 1 cap) (.blk bc (ceC r u a b c d++sp))
theorem vU.mono{l:List (Rm×Srv)}{v:Value}{e:Ent}(h:vU H l v e)(hl:HLe H H'):vU H' l v e:=by
 cases h with
 |nil=>exact .nil
 |one h hc=>exact .one (h.mono hl) hc
theorem vU.shape{l:List (Rm×Srv)}{v:Value}{e:Ent}(h:vU H l v e):∃a n k,v= .slice a n k:=by
 cases h<;>exact ⟨_,_,_,rfl⟩
structure ShM(H:bC)(n:Int)(L:Liv)(cmp tap dn vd:Value)(blk:List Value)(ce:Ent):Prop where
 ex:∃a b c d vc,blk=shC n L.flag L.hu a b c d vc L.there cmp tap dn vd∧(L.there=true→SvM H L.hu a b c d)∧vU H L.cells vc ce
theorem ShM.mono{n:Int}{L:Liv}{cmp tap dn vd:Value}{blk:List Value}{ce:Ent}(h:ShM H n L cmp tap dn vd blk ce)(hl:HLe H H'):ShM H' n L cmp tap dn vd blk ce:=by
 obtain ⟨a,b,c,d,vc,h1,h2,h3⟩:=h.ex;exact ⟨a,b,c,d,vc,h1,fun h=>(h2 h).mono hl,h3.mono hl⟩
def pb(l:List Ev)(known:Int)(n:Nat):List Cmp:=((l.take n).filter fun x=>decide (x.known≤known∧x.kind=9)).map (·.cm)
theorem Dq{l:List Ev}{known:Int}{n:Nat}(h:n<l.length):pb l known (n+1)=if (evG l n).known≤known∧(evG l n).kind=9 then pb l known n++[(evG l n).cm] else pb l known n:=by
 unfold pb;rw [List.take_add_one,eZ h,List.filter_append,List.map_append];by_cases e:(evG l n).known≤known∧(evG l n).kind=9
 ·rw [if_pos e,Option.toList_some,List.filter_cons_of_pos (by simpa using e)];rfl
 ·rw [if_neg e,Option.toList_some,List.filter_cons_of_neg (by simpa using e)];simp
theorem Cd(l:List Ev)(known:Int)(n:Nat):(pb l known n).length≤n:=by
 unfold pb;rw [List.length_map];exact Nat.le_trans (List.length_filter_le _ _) (by rw [List.length_take];omega)
theorem OkE.first{L:Liv}{x:Ev}(h:OkE L x)(hn:L.there=false):x.kind=1:=by
 cases h with
 |build h=>exact h.kind
 |room _ h=>rw [hn] at h;cases h
 |hull _ h=>rw [hn] at h;cases h
 |cell _ h=>rw [hn] at h;cases h
inductive Bl(H:bC):List (Rm×Srv)→Value→Prop
 |nil:Bl H [] (.slice none 0 0)
 |one {r:Rm} {u:Srv} {a b c d:Value} {bc cap:Nat} (h:SvM H u a b c d) (hr:RS H 14 (.slice (some ⟨bc,0,none⟩) 1 cap) [ceC r u a b c d]):Bl H [(r,u)] (.slice (some ⟨bc,0,none⟩) 1 cap)
theorem vU.bK{w:World}{l:List (Rm×Srv)}{v:Value}{ce:Ent}{σ:List Ent}(h:vU H l v ce)(hs:St H w (ce::σ)):∃H',HLe H H'∧Bl H' l v∧St H' w σ:=by
 cases h with
 |nil=>exact ⟨H,HLe.refl _,.nil,hs.tail⟩
 | @one r u a b c d bc cap sp h hc=>
  have hO:bG 14 (.slice (some ⟨bc,0,none⟩) 1 cap) [ceC r u a b c d].flatten (.blk bc ([ceC r u a b c d].flatten++sp)):=
   .inr ⟨bc,1,cap,sp,rfl,rfl,rfl,by rw [List.length_append,show [ceC r u a b c d].flatten.length=14 from rfl];exact hc,by omega⟩
  obtain ⟨H',h1,h2,h3⟩:=bG.bK hO (fun x hx=>by rw [List.mem_singleton] at hx;rw [hx];rfl) (by omega) (by simp) (by simpa using hs) .here;exact ⟨H',h1,.one (h.mono h1) h2,h3⟩
structure J0(l S:List Ev)(cs:List Cmp)(number day known:Int):Prop where
 hist:Gk l
 few:(mB l number day known l.length).length≤19
 sorted:dq (mB l number day known l.length) (mB l number day known l.length).length=S
 cmps:pb l known l.length=cs
 ok:Aa cs mP S
theorem Bl.shape{l:List (Rm×Srv)}{v:Value}(h:Bl H l v):∃a n k,v= .slice a n k:=by cases h<;>exact ⟨_,_,_,rfl⟩
def spE(s:Spc)(id src:Int):Spc:=⟨id,src,s.st,s.wa,s.al,s.up⟩
structure At4 where
 ast:Option Addr
 cst:Nat
 awa:Option Addr
 cwa:Nat
def evB(s:Spc)(q:At4):Ev:=⟨0,0,1,9,0,0,0,1,0,0,spE s 900 1,q.ast,q.cst,q.awa,q.cwa,rd0,cm0,0,0⟩
def evR(s:Spc)(q:At4):Ev:=⟨0,1,2,9,0,0,0,1,0,0,spE s 5 2,q.ast,q.cst,q.awa,q.cwa,rd0,cm0,0,0⟩
def rdK(r:Rdg)(n:Nat):Rdg:=⟨(n:Int)+1,r.st,r.wa,r.val,r.tol,r.tape,r.day⟩
def Bh(room kn:Int)(n:Nat)(r:Rdg):Ev:=⟨0,n,8,9,r.day,kn,room,0,0,0,sp0,none,0,none,0,rdK r n,cm0,0,0⟩
def cmK(c:Cmp)(n:Nat):Cmp:=⟨(n:Int)+1,c.tape,c.fr,c.to,c.lo,c.hi⟩
def Gu(kn:Int)(n:Nat)(c:Cmp):Ev:=⟨0,n,9,9,0,kn,0,0,0,0,sp0,none,0,none,0,rd0,cmK c n,0,0⟩
def rdE(room:Int)(kd:Int→Int)(rs:List Rdg):Nat→List Ev
 |0=>[]
 |k+1=>rdE room kd rs k++[Bh room (kd k) (k+2) (vB rs k)]
def tpE(kd:Int→Int)(m:Nat)(cs:List Cmp):Nat→List Ev
 |0=>[]
 |k+1=>tpE kd m cs k++[Gu (kd ((m:Int)+k)) (k+(m+2)) (uB cs k)]
def B9(room:Int)(kd:Int→Int)(v:Srv)(q:At4)(k:Nat):List Ev:=[evB v.sp q,evR v.sp q]++rdE room kd v.rs k
def nk(room:Int)(kd:Int→Int)(v:Srv)(q:At4)(k:Nat):List Ev:=B9 room kd v q v.rs.length++tpE kd v.rs.length v.cs k
theorem q7(room:Int)(kd:Int→Int)(rs:List Rdg):∀k,(rdE room kd rs k).length=k
 |0=>rfl
 |k+1=>by simp [rdE,q7 room kd rs k]
theorem ny(kd:Int→Int)(m:Nat)(cs:List Cmp):∀k,(tpE kd m cs k).length=k
 |0=>rfl
 |k+1=>by simp [tpE,ny kd m cs k]
theorem lW(room:Int)(kd:Int→Int)(v:Srv)(q:At4)(k:Nat):(B9 room kd v q k).length=k+2:=by simp [B9,q7]
theorem ji(room:Int)(kd:Int→Int)(v:Srv)(q:At4)(k:Nat):(nk room kd v q k).length=k+(v.rs.length+2):=by simp [nk,lW,ny];omega
theorem re{room:Int}{kd:Int→Int}{rs:List Rdg}{x:Ev}:∀{k:Nat},x∈rdE room kd rs k↔∃i<k,x=Bh room (kd i) (i+2) (vB rs i)
 |0=>by simp [rdE]
 |k+1=>by
  simp only [rdE,List.mem_append,List.mem_singleton,re (k:=k)];constructor
  ·rintro (⟨i,h,rfl⟩|rfl)
   ·exact ⟨i,by omega,rfl⟩
   ·exact ⟨k,by omega,rfl⟩
  ·rintro ⟨i,h,rfl⟩;by_cases e:i=k
   ·subst e;exact .inr rfl
   ·exact .inl ⟨i,by omega,rfl⟩
theorem xt{kd:Int→Int}{m:Nat}{cs:List Cmp}{x:Ev}:∀{k:Nat},x∈tpE kd m cs k↔∃i<k,x=Gu (kd ((m:Int)+(i:Nat))) (i+(m+2)) (uB cs i)
 |0=>by simp [tpE]
 |k+1=>by
  simp only [tpE,List.mem_append,List.mem_singleton,xt (k:=k)];constructor
  ·rintro (⟨i,h,rfl⟩|rfl)
   ·exact ⟨i,by omega,rfl⟩
   ·exact ⟨k,by omega,rfl⟩
  ·rintro ⟨i,h,rfl⟩;by_cases e:i=k
   ·subst e;exact .inr rfl
   ·exact .inl ⟨i,by omega,rfl⟩
theorem p4{v:Srv}{q:At4}{x:Ev}{k:Nat}:x∈nk room kd v q k↔(x=evB v.sp q∨x=evR v.sp q)∨(∃i<v.rs.length,x=Bh room (kd i) (i+2) (vB v.rs i))∨∃i<k,x=Gu (kd ((v.rs.length:Int)+(i:Nat))) (i+(v.rs.length+2)) (uB v.cs i):=by
 simp only [nk,B9,List.mem_append,List.mem_cons,List.not_mem_nil,or_false,re,xt,or_assoc]
theorem Ed{s:Spc}(h:fm s){a b:Int}(ha:1≤a∧a≤99999)(hb:1≤b∧b≤99999):fm (spE s a b):=⟨h.st,h.wa,ha,hb,h.al,h.up⟩
theorem xX{v:Srv}{q:At4}(hM:sR v)(hr:1≤room∧room≤999)(hk:∀i,0≤kd i∧kd i<50):∀x∈nk room kd v q v.cs.length,ti x:=by
 intro x hx;have h1:=hM.st;have h2:=hM.wa;have h3:=hM.rs;have h4:=hM.cs;have hS:=hM.ok.early.1
 rcases p4.1 hx with (rfl|rfl)|⟨i,hi,rfl⟩|⟨i,hi,rfl⟩
 ·exact ⟨rfl,by simp [evB],by simp [evB],by simp [evB],by simp [evB],rfl,rfl,.inl ⟨rfl,by simp [evB],⟨Ed hS (by omega) (by omega),by simp [evB,spE],rfl⟩,rfl,rfl,rfl,rfl,rfl⟩⟩
 ·exact ⟨rfl,by simp [evR],by simp [evR],by simp [evR],by simp [evR],rfl,rfl,.inr (.inl ⟨rfl,by simp [evR],⟨Ed hS (by omega) (by omega),by simp [evR,spE],rfl⟩,rfl,by simp [evR],by simp [evR],rfl,rfl⟩)⟩
 ·have g:=hM.ok.early.2.2.2.1 _ (List.mem_of_getElem? (kJ hi));have:=hk i;obtain ⟨g1,g2,g3,g4,g5,g6,g7⟩:=g;exact ⟨rfl,by simp only [Bh];omega,by simp [Bh],g7,by simp only [Bh];omega,rfl,rfl,.inr (.inr (.inl ⟨rfl,hr,rfl,rfl,by simp only [Bh,rdK];omega,by simp only [Bh,rdK];omega,g4,g5,g6,rfl,rfl,rfl,rfl,rfl,rfl,rfl,rfl,rfl⟩))⟩
 ·have g:=hM.ok.early.2.2.2.2 _ (List.mem_of_getElem? (ql hi));have:=hk ((v.rs.length:Int)+i);exact ⟨rfl,by simp only [Gu];omega,by simp [Gu],by simp [Gu],by simp only [Gu];omega,rfl,rfl,.inr (.inr (.inr ⟨rfl,rfl,g.tape,g.fr,g.to,g.lo,g.hi,rfl,rfl,rfl,rfl,rfl,rfl,rfl,rfl,rfl,rfl⟩))⟩
def Bk(l:List Ev):Prop:=∀i<l.length,(evG l i).seq=i
theorem Bk.snoc{l:List Ev}(h:Bk l){x:Ev}(hx:x.seq=l.length):Bk (l++[x]):=by
 intro i hi;by_cases e:i<l.length
 ·have:evG (l++[x]) i=evG l i:=by unfold evG;rw [List.getD_eq_getElem?_getD,List.getD_eq_getElem?_getD,List.getElem?_append_left e]
  rw [this];exact h i e
 ·simp at hi;obtain rfl:i=l.length:=by omega
  have:evG (l++[x]) l.length=x:=by unfold evG;rw [List.getD_eq_getElem?_getD,List.getElem?_append_right (Nat.le_refl _)];simp
  rw [this];exact hx
theorem wo(room:Int)(kd:Int→Int)(v:Srv)(q:At4):∀k,Bk (B9 room kd v q k)
 |0=>fun i hi=>by
  have:i=0∨i=1:=by simp [B9,rdE] at hi;omega
  rcases this with rfl|rfl<;>rfl
 |k+1=>by
  have:=(wo room kd v q k).snoc (x:=Bh room (kd k) (k+2) (vB v.rs k)) (by rw [lW];rfl);simpa [B9,rdE] using this
theorem wm(room:Int)(kd:Int→Int)(v:Srv)(q:At4):∀k,Bk (nk room kd v q k)
 |0=>by simpa [nk,tpE] using wo room kd v q v.rs.length
 |k+1=>by
  have:=(wm room kd v q k).snoc (x:=Gu (kd ((v.rs.length:Int)+k)) (k+(v.rs.length+2)) (uB v.cs k)) (by rw [ji];rfl);simpa [nk,tpE] using this
theorem Bk.pair{l:List Ev}(h:Bk l):l.Pairwise fun x y=>x.seq<y.seq:=by
 rw [List.pairwise_iff_getElem];intro i j hi hj LU;have a:=h i hi;have b:=h j hj;have e1:evG l i=l[i]:=by have:=eZ hi;rw [List.getElem?_eq_getElem hi] at this;exact (Option.some.inj this).symm
 have e2:evG l j=l[j]:=by have:=eZ hj;rw [List.getElem?_eq_getElem hj] at this;exact (Option.some.inj this).symm
 rw [e1] at a;rw [e2] at b;omega
theorem yN(l:List Ev):∀{n:Nat},n≤l.length→lq l n=((l.take n).filter fun x=>decide (x.kind=9)).length
 |0,_=>rfl
 |n+1,h=>by
  rw [gv (by omega),List.filter_append,List.length_append];simp only [lq];rw [yN l (n:=n) (by omega)];by_cases e:(evG l n).kind=9
  ·rw [if_pos e,List.filter_cons_of_pos (by simpa using e)];simp
  ·rw [if_neg e,List.filter_cons_of_neg (by simpa using e)];simp
theorem KP{l:List Ev}(h1:∀x∈l,ti x)(h2:l.Pairwise fun x y=>x.seq<y.seq)(h3:l.length≤80)(h4:(l.filter fun x=>decide (x.kind=9)).length≤20):Gk l:=by
 refine ⟨h1,fun i hi=>?_,h3,?_⟩
 ·rw [List.pairwise_iff_getElem] at h2;have:=h2 i (i+1) (by omega) hi (by omega);have e1:evG l i=l[i]:=by have:=eZ (l:=l) (i:=i) (by omega);rw [List.getElem?_eq_getElem (by omega)] at this;exact (Option.some.inj this).symm
  have e2:evG l (i+1)=l[i+1]:=by have:=eZ hi;rw [List.getElem?_eq_getElem hi] at this;exact (Option.some.inj this).symm
  rw [e1,e2];exact this
 ·rw [yN l (Nat.le_refl _),List.take_length];omega
theorem G7{rs:List Rdg}{k:Nat}{x:Ev}(h:x∈rdE room kd rs k):x.kind=8:=by obtain ⟨i,_,rfl⟩:=re.1 h;rfl
theorem Bt{m:Nat}{cs:List Cmp}{k:Nat}{x:Ev}(h:x∈tpE kd m cs k):x.kind=9:=by obtain ⟨i,_,rfl⟩:=xt.1 h;rfl
theorem zT(room:Int)(kd:Int→Int)(v:Srv)(q:At4)(k:Nat):((nk room kd v q k).filter fun x=>decide (x.kind=9))=tpE kd v.rs.length v.cs k:=by
 have e1:((rdE room kd v.rs v.rs.length).filter fun x=>decide (x.kind=9))=[]:=List.filter_eq_nil_iff.2 fun x hx=>by rw [G7 hx];decide
 have e2:((tpE kd v.rs.length v.cs k).filter fun x=>decide (x.kind=9))=tpE kd v.rs.length v.cs k:=List.filter_eq_self.2 fun x hx=>by rw [Bt hx];decide
 unfold nk B9;rw [List.filter_append,List.filter_append,e1,e2];rfl
theorem IE{v:Srv}{q:At4}(hM:sR v)(hr:1≤room∧room≤999)(hk:∀i,0≤kd i∧kd i<50)(p:Ev→Bool):Gk ((nk room kd v q v.cs.length).filter p):=by
 have h3:=hM.rs;have h4:=hM.cs;have C0:((nk room kd v q v.cs.length).filter p).Sublist (nk room kd v q v.cs.length):=List.filter_sublist;refine KP (fun x hx=>xX hM hr hk x (C0.subset hx)) ((wm room kd v q _).pair.sublist C0) ?_ ?_
 ·have:=C0.length_le;rw [ji] at this;omega
 ·have:=(C0.filter fun x=>decide (x.kind=9)).length_le;rw [zT,ny] at this;omega
structure KnU(v:Srv)(kd:Int→Int)(k:Int)(u:Srv):Prop where
 sp:u.sp=spE v.sp 5 2
 ok:fO u
 rs:∀r,r∈u.rs↔∃i<v.rs.length,(kd (i:Nat)≤k∧(vB v.rs i).day≤10)∧r=rdK (vB v.rs i) (i+2)
 cs:∀c,c∈u.cs↔∃j<v.cs.length,kd ((v.rs.length:Int)+(j:Nat))≤k∧c=cmK (uB v.cs j) (j+(v.rs.length+2))
theorem KnU.bD{v u:Srv}(h:KnU v kd k u){t:TD}(ht:t∈u.bD):t∈v.bD:=by
 obtain ⟨r,h1,rfl⟩:=dK.1 ht;obtain ⟨i,hi,-,rfl⟩:=(h.rs r).1 h1;exact dK.2 ⟨_,List.mem_of_getElem? (kJ hi),rfl⟩
theorem KnU.kp{v u:Srv}(h:KnU v kd k u){g:Nat→Nat→Int}{f:TD→Int}(hk:Kp v g f):Kp u g f:=by
 obtain ⟨k1,k2,k3,k4,k5,k6⟩:=hk;refine ⟨?_,?_,?_,fun t ht=>k4 t (h.bD ht),fun c hc t ht=>?_,fun r hr=>?_⟩
 ·rw [h.sp];exact k1
 ·rw [h.sp];exact k2
 ·rw [h.sp];exact k3
 ·obtain ⟨j,hj,-,rfl⟩:=(h.cs c).1 hc;exact k5 (uB v.cs j) (List.mem_of_getElem? (ql hj)) t (h.bD ht)
 ·obtain ⟨i,hi,-,rfl⟩:=(h.rs r).1 hr;exact k6 (vB v.rs i) (List.mem_of_getElem? (kJ hi))
theorem KnU.kp2{v u u2:Srv}{k2:Int}(h:KnU v kd k u)(h2:KnU v kd k2 u2)(hle:k≤k2){g:Nat→Nat→Int}{f:TD→Int}(hk:Kp u2 g f):Kp u g f:=by
 have hr:∀r∈u.rs,r∈u2.rs:=fun r hr=>by
  obtain ⟨i,h1,h3,h4⟩:=(h.rs r).1 hr;exact (h2.rs r).2 ⟨i,h1,⟨by omega,h3.2⟩,h4⟩
 have hc:∀c∈u.cs,c∈u2.cs:=fun r hr=>by
  obtain ⟨i,h1,h3,h4⟩:=(h.cs r).1 hr;exact (h2.cs r).2 ⟨i,h1,by omega,h4⟩
 have ht:∀t∈u.bD,t∈u2.bD:=fun t ht=>by
  obtain ⟨r,h1,rfl⟩:=dK.1 ht;exact dK.2 ⟨r,hr r h1,rfl⟩
 obtain ⟨k1,k2,k3,k4,k5,k6⟩:=hk;rw [h2.sp,←h.sp] at k1 k2 k3;exact ⟨k1,k2,k3,fun t h=>k4 t (ht t h),fun c h t h3=>k5 c (hc c h) t (ht t h3),fun r h=>k6 r (hr r h)⟩
theorem KnU.hull{v u:Srv}(h:KnU v kd k u)(hM:sR v){y:List Int}(hk:nu v y):IW u (jI v.sp y v.sp.st.length) 0:=by
 obtain ⟨h1,⟨f,h2⟩,-⟩:=p5 hM.ok hk;refine .ok h.ok ?_ ⟨f,h.kp h2⟩;rw [h.sp];exact ⟨h1.1,h1.2,h1.3⟩
theorem KnU.sound{v u:Srv}(h:KnU v kd k u)(hM:sR v){y:List Int}(hk:nu v y):u.sys.Sound:=by
 obtain ⟨h1,⟨f,h2⟩,-⟩:=p5 hM.ok hk;exact (GP h.ok.early).2 ⟨_,f,h.kp h2⟩
def Cv(k:Int):Ev→Bool:=fun x=>decide ((x.known≤k∧x.kind≠9)∧x.ship=9∧x.day≤10)
theorem FU{v:Srv}{q:At4}(hk:0≤k)(n:Nat):(nk room kd v q n).filter (Cv k)=evB v.sp q::evR v.sp q::(rdE room kd v.rs v.rs.length).filter (Cv k):=by
 have e2:(tpE kd v.rs.length v.cs n).filter (Cv k)=[]:=List.filter_eq_nil_iff.2 fun x hx=>by simp [Cv,Bt hx]
 unfold nk B9;rw [List.filter_append,List.filter_append,e2,List.filter_eq_self.2 (fun x hx=>by
  simp only [List.mem_cons,List.not_mem_nil,or_false] at hx
  rcases hx with rfl|rfl<;>simp [Cv,evB,evR,hk]),List.append_nil]
 rfl
theorem GJ{v:Srv}{q:At4}(hM:sR v)(p:Ev→Bool)(T:List Ev)(hT:T=evB v.sp q::evR v.sp q::(rdE room kd v.rs v.rs.length).filter p):∃S,dq T T.length=evB v.sp q::evR v.sp q::S∧S.Perm ((rdE room kd v.rs v.rs.length).filter p):=by
 have hd:∀x∈T,0≤x.day:=fun x hx=>by
  rw [hT] at hx;simp only [List.mem_cons,List.mem_filter] at hx
  rcases hx with rfl|rfl|⟨hx,-⟩
  ·exact Int.le_refl _
  ·exact Int.le_refl _
  ·obtain ⟨i,hi,rfl⟩:=re.1 hx;exact (hM.ok.early.2.2.2.1 _ (List.mem_of_getElem? (kJ hi))).day.1
 have h2:2≤T.length:=by rw [hT];simp
 have h0:∀i<2,(evG T i).day=0:=fun i hi=>by
  rw [hT];have:i=0∨i=1:=by omega
  rcases this with rfl|rfl<;>rfl
 have e1:=qT hd h0 (n:=T.length) (Nat.le_refl _) h2;have e2:=qU T (n:=T.length) (Nat.le_refl _);rw [List.take_length] at e2;refine ⟨(dq T T.length).drop 2,?_,?_⟩
 ·have e3:T.take 2=[evB v.sp q,evR v.sp q]:=by rw [hT];rfl
  have:=(List.take_append_drop 2 (dq T T.length)).symm;rw [e1,e3] at this;exact this
 ·rw [←List.take_append_drop 2 (dq T T.length),e1] at e2;rw [hT] at e2 ⊢;exact (List.perm_cons _).1 ((List.perm_cons _).1 e2)
theorem FP{cs:List Cmp}{r:Rm}:∀{S:List Ev} {L:Liv} {u:Srv},L.cells=[(r,u)]→(∀x∈S,x.kind=8∧L.hu.sp.id≠x.room)→S.foldl (jZ cs) L={L with cells:=[(r,⟨u.sp,u.rs++S.map (·.rd),u.cs⟩)]}
 |[],L,u,h,_=>by simp [←h]
 |x::S,L,u,h,hx=>by
  obtain ⟨a,b⟩:=hx x (by simp);have e:jZ cs L x={L with cells:=[(r,u.add x.rd)]}:=by
   unfold jZ;rw [if_neg (by omega),if_neg (by omega),if_neg b,h];rfl
  rw [List.foldl_cons,e,FP (r:=r) (L:={L with cells:=[(r,u.add x.rd)]}) (u:=u.add x.rd) rfl (fun y hy=>hx y (by simp [hy]))];simp [Srv.add]
theorem MK{cs:List Cmp}{r:Rm}{sp:Spc}(DK:fm sp)(h1:sp.st.length≤4)(h2:sp.wa.length≤3)(DQ:cs.length≤6)(S7:∀c∈cs,pz c):∀{S:List Ev} {L:Liv} {rs:List Rdg},L.cells=[(r,⟨sp,rs,cs⟩)]→L.there=true→rs.length+S.length≤15→(∀x∈rs,j5 sp x)→
  (∀x∈S,mb x∧L.hu.sp.id≠x.room∧r.id=x.room∧j5 sp x.rd)→Aa cs L S
 |[],_,_,_,_,_,_,_=>trivial
 |x::S,L,rs,h,ht,hl,Jl,hx=>by
  obtain ⟨a,b,c,d⟩:=hx x (by simp);have e:jZ cs L x={L with cells:=[(r,⟨sp,rs++[x.rd],cs⟩)]}:=by
   have:=a.kind;unfold jZ;rw [if_neg (by omega),if_neg (by omega),if_neg b,h];rfl
  have M6:∀y∈rs++[x.rd],j5 sp y:=fun y hy=>by
   rcases List.mem_append.1 hy with h|h
   ·exact Jl y h
   ·rw [List.mem_singleton] at h;subst h;exact d
  simp only [List.length_cons] at hl;refine ⟨.cell a ht b h c (Bv DK h1 h2 (by simp;omega) DQ M6 S7) (by show rs.length≤1000;omega),?_⟩;rw [e];exact MK DK h1 h2 DQ S7 rfl ht (by simp;omega) M6 (fun y hy=>hx y (by simp [hy]))
def tpK(kd:Int→Int)(v:Srv)(k:Int):List Cmp:=((tpE kd v.rs.length v.cs v.cs.length).filter fun x=>decide (x.known≤k)).map (·.cm)
theorem B8{v:Srv}{q:At4}:((nk room kd v q v.cs.length).filter fun x=>decide (x.known≤k∧x.kind=9)).map (·.cm)=tpK kd v k:=by
 have e1:((nk room kd v q v.cs.length).filter fun x=>decide (x.known≤k∧x.kind=9))=((nk room kd v q v.cs.length).filter fun x=>decide (x.kind=9)).filter fun x=>decide (x.known≤k):=by
  rw [List.filter_filter];congr 1;funext x;simp [Bool.decide_and]
 rw [e1,zT];rfl
theorem EL{v:Srv}{c:Cmp}:c∈tpK kd v k↔∃j<v.cs.length,kd ((v.rs.length:Int)+(j:Nat))≤k∧c=cmK (uB v.cs j) (j+(v.rs.length+2)):=by
 unfold tpK;simp only [List.mem_map,List.mem_filter,xt,decide_eq_true_eq];constructor
 ·rintro ⟨x,⟨⟨i,h1,rfl⟩,h2⟩,rfl⟩;exact ⟨i,h1,h2,rfl⟩
 ·rintro ⟨j,h1,h2,rfl⟩;exact ⟨_,⟨⟨j,h1,rfl⟩,h2⟩,rfl⟩
theorem DZ{v:Srv}:(tpK kd v k).length≤v.cs.length:=by
 unfold tpK;rw [List.length_map];have:=List.length_filter_le (fun x:Ev=>decide (x.known≤k)) (tpE kd v.rs.length v.cs v.cs.length)
 rwa [ny] at this
theorem I6{v:Srv}(hM:sR v){k:Int}:∀c∈tpK kd v k,pz c:=fun c hc=>by
 obtain ⟨j,h1,-,rfl⟩:=EL.1 hc;have g:=hM.ok.early.2.2.2.2 _ (List.mem_of_getElem? (ql h1));have:=hM.rs;have:=hM.cs;exact ⟨by simp only [cmK];omega,g.tape,g.fr,g.to,g.lo,g.hi⟩
theorem Mq{v:Srv}(hM:sR v){i:Nat}(h:i<v.rs.length){a b:Int}:j5 (spE v.sp a b) (rdK (vB v.rs i) (i+2)):=by
 have g:=hM.ok.early.2.2.2.1 _ (List.mem_of_getElem? (kJ h));have:=hM.rs;exact ⟨by simp only [rdK];omega,g.st,g.wa,g.tol,g.val,g.tape,g.day⟩
theorem Ls{v:Srv}{q:At4}(hM:sR v)(hk:∀i,0≤kd i∧kd i<50){k:Int}(Fi:0≤k∧k≤100000):∃S cs u,J0 (nk 5 kd v q v.cs.length) S cs 9 10 k∧J0 ((nk 5 kd v q v.cs.length).filter fun x=>decide (x.known≤k)) S cs 9 10 100000∧
  S.foldl (jZ cs) mP=⟨true,1,⟨spE v.sp 900 1,[],cs⟩,[(⟨5,1,0,0⟩,u)]⟩∧KnU v kd k u:=by
 have hH:=IE (room:=5) (q:=q) hM (by omega) hk;have sa:=xX (room:=5) (q:=q) hM (by omega) hk;obtain ⟨S,hS,hP⟩:=GJ (room:=5) (kd:=kd) (q:=q) hM (Cv k) _ rfl;have e1:mB (nk 5 kd v q v.cs.length) 9 10 k (nk 5 kd v q v.cs.length).length=evB v.sp q::evR v.sp q::(rdE 5 kd v.rs v.rs.length).filter (Cv k):=by
  unfold mB;rw [List.take_length];exact FU Fi.1 _
 have e2:mB ((nk 5 kd v q v.cs.length).filter fun x=>decide (x.known≤k)) 9 10 100000 ((nk 5 kd v q v.cs.length).filter fun x=>decide (x.known≤k)).length=evB v.sp q::evR v.sp q::(rdE 5 kd v.rs v.rs.length).filter (Cv k):=by
  unfold mB;rw [List.take_length,List.filter_filter,←FU Fi.1 v.cs.length];refine List.filter_congr fun x hx=>?_
  have:=(sa x hx).known;unfold Cv;rw [←Bool.decide_and]
  congr 1
  exact propext ⟨fun h=>⟨⟨by omega,h.1.1.2⟩,h.1.2⟩,fun h=>⟨⟨⟨by omega,h.1.2⟩,h.2⟩,h.1.1⟩⟩
 have c1:pb (nk 5 kd v q v.cs.length) k (nk 5 kd v q v.cs.length).length=tpK kd v k:=by
  unfold pb;rw [List.take_length];exact B8
 have c2:pb ((nk 5 kd v q v.cs.length).filter fun x=>decide (x.known≤k)) 100000 ((nk 5 kd v q v.cs.length).filter fun x=>decide (x.known≤k)).length=tpK kd v k:=by
  unfold pb;rw [List.take_length,←B8 (room:=5) (q:=q),List.filter_filter]
  congr 1
  refine List.filter_congr fun x hx=>?_
  have:=(sa x hx).known;rw [←Bool.decide_and]
  congr 1
  exact propext ⟨fun h=>⟨h.2,h.1.2⟩,fun h=>⟨⟨by omega,h.2⟩,h.1⟩⟩
 have hlen:S.length≤v.rs.length:=by
  rw [hP.length_eq];have:=List.length_filter_le (Cv k) (rdE 5 kd v.rs v.rs.length)
  rwa [q7] at this
 have h14:=hM.rs;have h5:=hM.cs;have ue:∀x∈S,∃i<v.rs.length,(kd (i:Nat)≤k∧(vB v.rs i).day≤10)∧x=Bh 5 (kd i) (i+2) (vB v.rs i):=fun x hx=>by
  obtain ⟨h1,h2⟩:=List.mem_filter.1 (hP.mem_iff.1 hx);obtain ⟨i,hi,rfl⟩:=re.1 h1;simp only [Cv,decide_eq_true_eq] at h2;exact ⟨i,hi,⟨h2.1.1,h2.2.2⟩,rfl⟩
 have Nu:(evB v.sp q::evR v.sp q::(rdE 5 kd v.rs v.rs.length).filter (Cv k)).length≤19:=by
  have:=hP.length_eq;simp only [List.length_cons];omega
 have O0:∀x∈S,mb x∧(900:Int)≠x.room∧(5:Int)=x.room∧j5 (spE v.sp 5 2) x.rd:=fun x hx=>by
  obtain ⟨i,hi,-,rfl⟩:=ue x hx;exact ⟨(sa _ (p4.2 (.inr (.inl ⟨i,hi,rfl⟩)))).read rfl,by simp [Bh],rfl,Mq hM hi⟩
 have DK:=Ed hM.ok.early.1 (a:=5) (b:=2) (by omega) (by omega);have Tu:Aa (tpK kd v k) mP (evB v.sp q::evR v.sp q::S):=by
  refine ⟨.build ((sa _ (p4.2 (.inl (.inl rfl)))).build rfl) rfl rfl,.room ((sa _ (p4.2 (.inl (.inr rfl)))).Jf rfl) rfl rfl (by show (900:Int)≠5;omega),?_⟩;exact MK (rs:=[]) DK hM.st hM.wa (by have:=DZ (kd:=kd) (v:=v) (k:=k);omega) (I6 hM) rfl rfl (by simp;omega) (fun x hx=>by cases hx) O0
 have hF:(evB v.sp q::evR v.sp q::S).foldl (jZ (tpK kd v k)) mP=⟨true,1,⟨spE v.sp 900 1,[],tpK kd v k⟩,[(⟨5,1,0,0⟩,⟨spE v.sp 5 2,S.map (·.rd),tpK kd v k⟩)]⟩:=by
  have:=FP (cs:=tpK kd v k) (r:=⟨5,1,0,0⟩) (S:=S) (L:=⟨true,1,⟨spE v.sp 900 1,[],tpK kd v k⟩,[(⟨5,1,0,0⟩,⟨spE v.sp 5 2,[],tpK kd v k⟩)]⟩) (u:=⟨spE v.sp 5 2,[],tpK kd v k⟩) rfl (fun x hx=>⟨(O0 x hx).1.kind,(O0 x hx).2.1⟩);exact this
 refine ⟨evB v.sp q::evR v.sp q::S,tpK kd v k,⟨spE v.sp 5 2,S.map (·.rd),tpK kd v k⟩,⟨?_,?_,?_,c1,Tu⟩,⟨hH _,?_,?_,c2,Tu⟩,hF,rfl,?_,fun r=>?_,fun c=>EL⟩
 ·have:=hH fun _=>true
  rwa [List.filter_eq_self.2 (fun _ _=>rfl)] at this
 ·rw [e1];exact Nu
 ·rw [e1];exact hS
 ·rw [e2];exact Nu
 ·rw [e2];exact hS
 ·refine Bv DK hM.st hM.wa (by rw [List.length_map];omega) (by have:=DZ (kd:=kd) (v:=v) (k:=k);omega) (fun x hx=>?_) (I6 hM);obtain ⟨y,hy,rfl⟩:=List.mem_map.1 hx;exact (O0 y hy).2.2.2
 ·constructor
  ·intro hr;obtain ⟨y,hy,rfl⟩:=List.mem_map.1 hr;obtain ⟨i,hi,h,rfl⟩:=ue y hy;exact ⟨i,hi,h,rfl⟩
  ·rintro ⟨i,hi,h,rfl⟩;refine List.mem_map.2 ⟨Bh 5 (kd i) (i+2) (vB v.rs i),hP.mem_iff.2 (List.mem_filter.2 ⟨re.2 ⟨i,hi,rfl⟩,?_⟩),rfl⟩;simp only [Cv,Bh,decide_eq_true_eq];exact ⟨⟨h.1,by omega⟩,trivial,h.2⟩
end Go.MW
namespace Go.MW
section
variable{P:Program}{H:bC}{σ:List Ent}{s:FS}{x y:Operand}{t:TypeId}
theorem GX{d:Nat}{f0 f1 f2 f3 f4 g0 g1:Field}{a0 a1 a2 a3 a4 a5:Int}{w:World}(hu:∀w,(underlying t).run P w= .ok (.struct #[f0,f1,f2,f3,f4]) w)(hh:P.stoodInHeld t=false)(hf:IV P [f0,f1,f2,f3])
  (n4:f4.name≠ "_") (u4:∀w,(underlying f4.type).run P w= .ok (.struct #[g0,g1]) w) (k4:∀w,(isAgg f4.type).run P w= .ok true w) (z4:∀w,(sizeOf f4.type).run P w= .ok 2 w) (QN:P.stoodInHeld f4.type=false) (hg:IV P [g0,g1])
  (o0:f0.offset=0) (o1:f1.offset=1) (o2:f2.offset=2) (o3:f3.offset=3) (o4:f4.offset=4) (p0:g0.offset=0) (p1:g1.offset=1):
  (Op.equalIn (d+3) t (.agg #[I a0,I a1,I a2,I a3,I a4,I a5]) (.agg #[I a0,I a1,I a2,I a3,I a4,I a5])).run P w= .ok true w:=by
 obtain ⟨n0,u0,g0'⟩:=hf f0 (by simp);obtain ⟨n1,u1,g1'⟩:=hf f1 (by simp);obtain ⟨n2,u2,g2'⟩:=hf f2 (by simp);obtain ⟨n3,u3,g3'⟩:=hf f3 (by simp);have h4:∀w,(Op.equalIn (d+2) f4.type (.agg #[I a4,I a5]) (.agg #[I a4,I a5])).run P w= .ok true w:=fun w=>by
  rw [xh (d:=d) u4 QN hg p0 p1,decide_eq_true ⟨rfl,rfl⟩]
 have e:(#[I a0,I a1,I a2,I a3,I a4,I a5]:Array Value).extract 4 6=#[I a4,I a5]:=rfl;unfold Op.equalIn;simp only [Sem.run_bind,hu w,Result.andThen];simp [hh,n0,n1,n2,n3,n4,o0,o1,o2,o3,o4,part,g0',g1',g2',g3',k4,z4,fy u0,fy u1,fy u2,fy u3,h4]
theorem Mx{fU:TypeId}{f0 f1 f2 f3 f4 g0 g1:Field}{a0 a1 a2 a3 a4 a5:Int}(hx:FS.ev s x=some (.agg #[I a0,I a1,I a2,I a3,I a4,I a5]))(hy:FS.ev s y=some (.agg #[I a0,I a1,I a2,I a3,I a4,I a5]))
  (hu:∀w,(underlying t).run P w= .ok (.struct #[f0,f1,f2,f3,f4]) w) (hh:P.stoodInHeld t=false) (S6:P.eqGuardType P.depth t=false) (hf:IV P [f0,f1,f2,f3])
  (n4:f4.name≠ "_") (u4:∀w,(underlying f4.type).run P w= .ok (.struct #[g0,g1]) w) (k4:∀w,(isAgg f4.type).run P w= .ok true w) (z4:∀w,(sizeOf f4.type).run P w= .ok 2 w) (QN:P.stoodInHeld f4.type=false) (hg:IV P [g0,g1])
  (o0:f0.offset=0:=by rfl) (o1:f1.offset=1:=by rfl) (o2:f2.offset=2:=by rfl) (o3:f3.offset=3:=by rfl) (o4:f4.offset=4:=by rfl) (p0:g0.offset=0:=by rfl) (p1:g1.offset=1:=by rfl):QJ P H σ s (.binOp .neq t x y fU) (.bool false):=by
 have:=(BE (P:=P) (H:=H) (σ:=σ) (fU:=fU) (t:=t) (p:=True) hx hy (fun op w=>by simp [eqGuard,S6]) fun w=>by
  rw [decide_eq_true trivial];exact GX (d:=9997) hu hh hf n4 u4 k4 z4 QN hg o0 o1 o2 o3 o4 p0 p1).2
 rwa [decide_eq_true trivial] at this
end
end Go.MW
namespace Go.Proofs.YtlgfjghdgbhkhaaGreat
open Go.MW Tryz
variable{H:bC}{σ:List Ent}{a0 a1 a2 m most a hi lo z1 z2 z3 known fl id number day:Int}{ls:List Lim}{g cap b k b1 bf bt bl cl i bm bc bn:Nat}{s:Spc}{xs lf ws l x X Y sl pk days:List Int}{en:Ent}{ts:List TD}{vl vt vd vp vw vx v1 v2 vr vc d vh vs v5 v4 b' tap dn b2 c2 d2:Value}{sp:List Value}{t:TD}{rows:List (List Int)}{fL:List F5}{fV:List F4}{th:Bool}
theorem cU{w:World}{n b:Int}(hs:St H w σ)(h:a≤n∧n≤b):TN 170 [I n,I a,I b] w fun v w'=>v= .bool true∧St H w' σ:=by
 refine Cl.o func170 ntmps170 ag3 ?_;refine .af (.zn zg (.af (.z zm (.z zm (.z Bq ?_)))));rw [decide_eq_true h.1];refine .z zm (.T (.z zm (.T (.z zm (.T (.z pE ?_))))));rw [decide_eq_true h.2];exact .z zpT (.zn zg (.ret (Fin.bw results170 rfl ⟨rfl,hs.out⟩)))
theorem AN{w:World}{n b:Int}(hs:St H w σ):TN 170 [I n,I a,I b] w fun v w'=>∃p:Bool,v= .bool p∧(a≤n∧n≤b→p=true)∧St H w' σ:=by
 refine Cl.o func170 ntmps170 ag3 ?_;refine .af (.zn zg (.af (.z zm (.z zm (.z Bq (.z zm (.lI (t':=10) rfl (fun m6=>?_) (fun m6=>?_))))))))
 ·exact .T (.z zm (.T (.z zm (.T (.z pE (.z zpT (.zn zg (.ret (Fin.bw results170 rfl ⟨_,rfl,fun h=>by first|rfl|(simp;omega),hs.out⟩)))))))))
 ·exact .Fs 3 3 true (.z zpF (.zn zg (.ret (Fin.bw results170 rfl ⟨_,rfl,fun h=>by first|rfl|(simp;omega),hs.out⟩))))
theorem gz{w:World}{n:Int}(hs:St H w σ)(h:0≤n∧n≤100000):TN 95 [I n] w fun v w'=>v= .bool true∧St H w' σ:=by
 refine Cl.o func95 ntmps95 ag1 ?_;refine .af (.zn zg (.af (.z zm (.o (.call jb rfl (cU hs h) ?_)))));rintro _ w ⟨rfl,hs⟩;exact .zn zg (.ret (Fin.bw results95 rfl ⟨rfl,hs.out⟩))
theorem mg{w:World}{n:Int}(hs:St H w σ)(h:1≤n∧n≤999):TN 141 [I n] w fun v w'=>v= .bool true∧St H w' σ:=by
 refine Cl.o func141 ntmps141 ag1 ?_;refine .af (.zn zg (.af (.z zm (.o (.call jb rfl (cU hs h) ?_)))));rintro _ w ⟨rfl,hs⟩;exact .zn zg (.ret (Fin.bw results141 rfl ⟨rfl,hs.out⟩))
theorem lH{w:World}{b:Int}(hs:St H w σ)(h:0≤a∧a≤8)(k:0≤b∧b≤9999):TN 94 [.agg #[I a,I b]] w fun v w'=>v= .bool true∧St H w' σ:=by
 refine Cl.o func94 ntmps94 ag1 ?_;refine .af (.bx hs fun b1 w hs=>?_);refine .zn zg (.af (.z (zfa jn) (.y hs (zld ai) (.o (.call jb rfl (cU hs h) ?_)))));rintro _ w ⟨rfl,hs⟩;refine .z zm (.T (.z (zfa jm) (.T (.y hs (zld ai) (.T (.o (.call jb rfl (cU hs k) ?_)))))));rintro _ w ⟨rfl,hs⟩;exact .z zpT (.zn zg (.ret (Fin.bw results94 rfl ⟨rfl,hs.out⟩)))
theorem jK{w:World}{b:Int}(hs:St H w σ)(h:0≤a∧a≤8)(k:0≤b∧b≤9999):TN 232 [.agg #[I a,I b]] w fun v w'=>v=I (10000*a+b+1)∧St H w' σ:=by
 refine Cl.o func232 ntmps232 ag1 ?_;refine .af (.bx hs fun b1 w hs=>?_);refine .zn zg (.seq (.af (.y hs (zls [_,_] ja dZ) (.o (.call call94 rfl (lH hs h k) ?_)))));rintro _ w ⟨rfl,hs⟩;exact .zn iW (.cF (.skip (nT (.af (.z (zfa jn) (.y hs (zld ai) (.z mm (.z (zfa jm) (.y hs (zld ai) (.z cP (.z cP (.zn zg (.ret (Fin.bw results232 rfl ⟨rfl,hs.out⟩))))))))))))))
theorem cmp_isNaN_int{w:World}(hs:St H w σ):TN 175 [I a] w fun v w'=>v= .bool false∧St H w' σ:=by
 refine Cl.o func175 ntmps175 ag1 ?_;exact .af (.zn zg (.af (.z zm (.z zm (.z gL (.zn zg (.ret (Fin.bw results175 rfl ⟨bj,hs.out⟩))))))))
def uY(a b:Int):Int:=if a<b then -1 else if b<a then 1 else 0
theorem iS{w:World}{b:Int}(hs:St H w σ):TN 98 [I a,I b] w fun v w'=>v=I (uY a b)∧St H w' σ:=by
 refine Cl.o func98 ntmps98 ag2 ?_;refine .af (.zn zg (.af (.z zm (.o (.call call175 rfl (cmp_isNaN_int hs) ?_)))));rintro _ w ⟨rfl,hs⟩;refine .zn zg (.af (.z zm (.o (.call call175 rfl (cmp_isNaN_int hs) ?_))));rintro _ w ⟨rfl,hs⟩;refine .zn zg (.seq (.af (.zn zm (.cF (.skip (nT (.seq (.af (.zn zm (.cF (.skip (nT (.seq (.af (.z zm (.z zm (.zn iG (.cu rfl (fun dX=>?_) (fun dX=>?_)))))))))))))))))))
 ·exact .af (.zn zg (.ret (rT (Fin.bw results98 rfl ⟨by unfold uY;rw [if_pos aj],hs.out⟩))))
 ·refine .skip (nT (.seq (.af (.z zm (.z zm (.zn uS (.cu rfl (fun nN=>?_) (fun nN=>?_))))))))
  ·exact .af (.zn zg (.ret (rT (Fin.bw results98 rfl ⟨by unfold uY;rw [if_neg aj,if_pos aj],hs.out⟩))))
  ·exact .skip (nT (.af (.zn zg (.ret (Fin.bw results98 rfl ⟨by unfold uY;rw [if_neg aj,if_neg aj],hs.out⟩)))))
def orL:List Int→Int
 |[]=>0
 |a::l=>if a=0 then orL l else a
theorem Dr{w:World}{v:Value}(hs:St H w σ)(hr:RI H v l):TN 97 [v] w fun u w'=>u=I (orL l)∧St H w' σ:=by
 obtain ⟨a,c,rfl⟩:=RI.shape hr;refine Cl.o func97 ntmps97 ag1 ?_;refine .af (.zn zg (.af (.zn zg (.seq (.af (.z zm (.z (cH ae) (.zn zm (.for (N:=l.length) (J:=fun k fr w=>fr=[(6,.slice a l.length c),(3,I 0)]∧orL l=orL (l.drop k)∧St H w σ) (by have:=(RS.len hr).2.2;omega) ?_ ?_ ?_)))))))))
 ·exact .mk ⟨rfl,rfl,hs⟩
 ·rintro k fr w hk ⟨rfl,hd,hs⟩;have hx:=bJ (l:=l) (i:=k) hk;have QT:l.drop k=gi l k::l.drop (k+1):=by rw [List.drop_eq_getElem_cons hk];congr 1;exact (by rw [List.getElem?_eq_getElem hk] at hx;exact Option.some.inj hx)
  rw [QT,show orL (gi l k::l.drop (k+1))=if gi l k=0 then orL (l.drop (k+1)) else gi l k from rfl] at hd;refine .block (.af (.ixX (enc:=fun x=>[I x]) hs hr rfl rfl ae ak hx rfl ?_));intro ib o10 sH;replace sH:=bB.one sH;refine .y hs (zld ai) (.zn zg (.af (.z zm (.z zm (.zn gL (.gU rfl (fun gY=>?_) (fun gY=>?_)))))))
  ·exact .af (.z zm (.zn zg (.ret (rB (rT (rB (rT (Fin.bw results97 rfl ⟨by rw [hd,if_neg aj],hs.out⟩))))))))
  ·exact .skip (nB (nT (.mk ⟨rfl,by rw [hd,if_pos aj],hs.out⟩)))
 ·rintro fr w ⟨rfl,hd,hs⟩;exact nT (.af (.z zm (.zn zg (.ret (Fin.bw results97 rfl ⟨by rw [hd,List.drop_length];rfl,hs.out⟩)))))
theorem rn{w:World}{b c d:Int}(hs:St H w σ):TN 48 [.agg #[I a,I b],.agg #[I c,I d]] w fun v w'=>v=I (orL [uY a c,uY b d])∧∃H1,HLe H H1∧St H1 w' σ:=by
 refine Cl.o func48 ntmps48 ag2 ?_;refine .af (.bx hs fun b2 w hs=>?_);refine .bx hs fun b3 w hs=>?_
 refine .zn zg (.seq (.draw mix rfl hs fun w hs=>?_));refine .zw 0 rfl (zfa jn) ?_;refine .y 1 rfl hs ai ?_;refine .z 2 rfl (zfa jn) ?_;refine .y 3 rfl hs ai ?_;refine .z 5 rfl (zfa jm) ?_;refine .y 6 rfl hs ai ?_;refine .z 7 rfl (zfa jm) ?_;refine .y 8 rfl hs ai ?_;refine .E 4 hs ?_;refine .call call98 rfl (iS hs) ?_;rintro _ w ⟨rfl,hs⟩;refine .go (.E 9 hs ?_);refine .call call98 rfl (iS hs) ?_;rintro _ w ⟨rfl,hs⟩;refine .go (.E 10 hs ?_);refine .buildSlice (cells:=Is [uY a c,uY b d]) hs dR rfl az ?_;intro IS w hs;refine .go (.E 11 hs ?_);obtain ⟨H1,aq,hR,hs⟩:=bG.bU (bG.full (len:=2) rfl) bj hs .here;refine .call call97 rfl (Dr hs hR) ?_;rintro _ w ⟨rfl,hs⟩;refine .go (.zw 12 rfl zg ?_);refine .D hs ?_;exact .ret (Fin.bw results48 rfl ⟨rfl,H1,aq,hs.out⟩)
theorem Dp{o s t:Int}(h:s<t):orL [uY o o,uY s t]= -1:=by
 have h1:uY o o=0:=by unfold uY;rw [if_neg aj,if_neg aj]
 have h2:uY s t= -1:=by unfold uY;rw [if_pos h]
 rw [h1,h2];rfl
theorem Dk:Tryz.prog.stoodInHeld 31=false:=by kernel_rfl
theorem Dl:Tryz.prog.eqGuardType Tryz.prog.depth 31=false:=by kernel_rfl
theorem tO:Tryz.prog.stoodInHeld 74=false:=by kernel_rfl
theorem tP:Tryz.prog.eqGuardType Tryz.prog.depth 74=false:=by kernel_rfl
theorem CK:Tryz.prog.stoodInHeld 76=false:=by kernel_rfl
theorem CL:Tryz.prog.eqGuardType Tryz.prog.depth 76=false:=by kernel_rfl
theorem Dt:Tryz.prog.stoodInHeld 78=false:=by kernel_rfl
theorem Du:Tryz.prog.eqGuardType Tryz.prog.depth 78=false:=by kernel_rfl
theorem oU{w:World}{vst vwa:Value}(hs:St H w σ)(h1:RI H vst s.st)(h2:RI H vwa s.wa):
  TN 174 [.agg #[I s.id,I s.src,vst,vwa,I s.al,I s.up],.agg #[I s.id,I s.src,vst,vwa,I s.al,I s.up]] w fun v w'=>v= .bool true∧St H w' σ:=by
 obtain ⟨ast,cst,rfl⟩:=RI.shape h1;obtain ⟨awa,cwa,rfl⟩:=RI.shape h2;refine Cl.o func174 ntmps174 ag2 ?_;refine .af (.bx hs fun b2 w hs=>?_);refine .bx hs fun b3 w hs=>?_
 refine .zn zg (.af (.z (zfa di) (.y hs (zld ai) (.z (zfa di) (.y hs (zld ai) (.z gQ ?_))))));rw [decide_eq_true rfl];refine .z zm (.T (.z (zfa cn) (.T (.y hs (zld ai) (.T (.z (zfa cn) (.T (.y hs (zld ai) (.T (.z gQ ?_))))))))));rw [decide_eq_true rfl];refine .z zpT (.z zm (.T (.z (zfa dM) (.T (.y hs (zls [_,_] isAgg31 sizeOf31) (.T (.z (zfa dM) (.T (.y hs (zls [_,_] isAgg31 sizeOf31) (.T ?_))))))))));refine .q hs (tM Dk Dl runUnderlying31 (fun f hf=>by
  simp only [List.mem_cons,List.not_mem_nil,or_false] at hf
  rcases hf with rfl|rfl<;>exact ⟨by decide,aF,ai⟩) rfl rfl) ?_
 rw [decide_eq_true ⟨rfl,rfl⟩];refine .z zpT (.z zm (.T (.z (zfa a8) (.T (.y hs (zld an) (.T (.z (zfa a8) (.T (.y hs (zld an) (.T (.o (.call call233 rfl (mc hs h1 h1) ?_))))))))))));rintro _ w ⟨rfl,hs⟩;rw [decide_eq_true rfl];refine .z zpT (.z zm (.T (.z (zfa aR) (.T (.y hs (zld an) (.T (.z (zfa aR) (.T (.y hs (zld an) (.T (.o (.call call233 rfl (mc hs h2 h2) ?_))))))))))));rintro _ w ⟨rfl,hs⟩;rw [decide_eq_true rfl];exact .z zpT (.zn zg (.ret (Fin.bw results174 rfl ⟨rfl,hs.out⟩)))
set_option maxHeartbeats 2000000 in
theorem oV{w:World}{x:Ev}(hs:St H w σ)(hx:EvM H x):TN 96 [x.agg,x.agg] w fun v w'=>v= .bool true∧St H w' σ:=by
 refine Cl.o func96 ntmps96 ag2 ?_;refine .af (.bx hs fun b2 w hs=>?_);refine .bx hs fun b3 w hs=>?_
 refine .zn zg (.seq (.af (.z (zfa cM) (.y hs (zls [_,_,_,_,_,_] bg aJ) (.z (zfa cM) (.y hs (zls [_,_,_,_,_,_] bg aJ) (.o (.call call174 rfl (oU (s:=x.sp) hs hx.st hx.wa) ?_))))))));rintro _ w ⟨rfl,hs⟩;refine .zn iW (.cF (.skip (nT (.af (.z (zfa cN) (.y hs (zls [_,_] ja dZ) (.z (zfa cN) (.y hs (zls [_,_] ja dZ) (.q hs (tM tO tP lg (fun f hf=>by simp only [List.mem_cons,List.not_mem_nil,or_false] at hf;rcases hf with rfl|rfl<;>exact ⟨by decide,aF,ai⟩) rfl rfl) ?_)))))))));rw [decide_eq_true ⟨rfl,rfl⟩];refine .z zm (.T (.z (zfa cq) (.T (.y hs (zld ai) (.T (.z (zfa cq) (.T (.y hs (zld ai) (.T (.z gQ ?_))))))))));rw [decide_eq_true rfl];refine .z zpT (.z zm (.T (.z (zfa eY) (.T (.y hs (zld ai) (.T (.z (zfa eY) (.T (.y hs (zld ai) (.T (.z gQ ?_)))))))))));rw [decide_eq_true rfl];refine .z zpT (.z zm (.T (.z (zfa dO) (.T (.y hs (zld ai) (.T (.z (zfa dO) (.T (.y hs (zld ai) (.T (.z gQ ?_)))))))))));rw [decide_eq_true rfl];refine .z zpT (.z zm (.T (.z (zfa fT) (.T (.y hs (zld ai) (.T (.z (zfa fT) (.T (.y hs (zld ai) (.T (.z gQ ?_)))))))))));rw [decide_eq_true rfl];refine .z zpT (.z zm (.T (.z (zfa eg) (.T (.y hs (zld ai) (.T (.z (zfa eg) (.T (.y hs (zld ai) (.T (.z gQ ?_)))))))))));rw [decide_eq_true rfl];refine .z zpT (.z zm (.T (.z (zfa dx) (.T (.y hs (zld ai) (.T (.z (zfa dx) (.T (.y hs (zld ai) (.T (.z gQ ?_)))))))))));rw [decide_eq_true rfl];refine .z zpT (.z zm (.T (.z (zfa fS) (.T (.y hs (zld ai) (.T (.z (zfa fS) (.T (.y hs (zld ai) (.T (.z gQ ?_)))))))))));rw [decide_eq_true rfl];refine .z zpT (.z zm (.T (.z (zfa fR) (.T (.y hs (zld ai) (.T (.z (zfa fR) (.T (.y hs (zld ai) (.T (.z gQ ?_)))))))))));rw [decide_eq_true rfl];refine .z zpT (.z zm (.T (.z (zfa dQ) (.T (.y hs (zls [_,_,_,_,_,_,_] fY bh) (.T (.z (zfa dQ) (.T (.y hs (zls [_,_,_,_,_,_,_] fY bh) (.T (.q hs (MH CK CL gJ (fun f hf=>by simp only [List.mem_cons,List.not_mem_nil,or_false] at hf;rcases hf with rfl|rfl|rfl|rfl|rfl|rfl|rfl<;>exact ⟨by decide,aF,ai⟩) rfl rfl) ?_)))))))))));rw [decide_eq_true ⟨rfl,rfl,rfl,rfl,rfl,rfl,rfl⟩];refine .z zpT (.z zm (.T (.z (zfa ew) (.T (.y hs (zls [_,_,_,_,_,_] rP de) (.T (.z (zfa ew) (.T (.y hs (zls [_,_,_,_,_,_] rP de) (.T (.q hs (MI Dt Du iY (fun f hf=>by simp only [List.mem_cons,List.not_mem_nil,or_false] at hf;rcases hf with rfl|rfl|rfl|rfl|rfl|rfl<;>exact ⟨by decide,aF,ai⟩) rfl rfl) ?_)))))))))));rw [decide_eq_true ⟨rfl,rfl,rfl,rfl,rfl,rfl⟩];refine .z zpT (.z zm (.T (.z (zfa nj) (.T (.y hs (zls [_,_] ja dZ) (.T (.z (zfa nj) (.T (.y hs (zls [_,_] ja dZ) (.T (.q hs (tM tO tP lg (fun f hf=>by simp only [List.mem_cons,List.not_mem_nil,or_false] at hf;rcases hf with rfl|rfl<;>exact ⟨by decide,aF,ai⟩) rfl rfl) ?_)))))))))));rw [decide_eq_true ⟨rfl,rfl⟩];exact .z zpT (.zn zg (.ret (Fin.bw results96 rfl ⟨rfl,hs.out⟩)))
theorem mR{w:World}{x:Ev}(hs:St H w σ)(hx:EvM H x)(hg:ti x)(hn:DC x):TN 171 [x.agg] w fun v w'=>v= .bool true∧∃H1,HLe H H1∧St H1 w' σ:=by
 have h1:=hg.seq;have h2:=hg.off;have h3:=hn.ok.id;refine Cl.o func171 ntmps171 ag1 ?_;refine .af (.bx hs fun b1 w hs=>?_);refine .zn zg (.seq (.draw mix rfl hs fun w hs=>?_));refine .zw 0 rfl (zfa cM) ?_;refine .ys 1 rfl hs [_,_,_,_,_,_] bg aJ ?_;refine .E 2 hs ?_;refine .call call41 rfl (fC (s:=x.sp) hs hx.st hx.wa) ?_;rintro _ w ⟨H1,e,aq,rfl,he,hs⟩;obtain rfl:e=0:=by
  rcases he with ⟨_,h⟩|⟨h,_⟩
  ·exact h
  ·exact (h hn.ok).elim
 refine .go (.zw 3 rfl gQ ?_);rw [decide_eq_true rfl];refine .zw 4 rfl zm ?_;refine .z 5 rfl (zfa cM) ?_;refine .z 6 rfl (zfa di) ?_;refine .y 7 rfl hs ai ?_;refine .E 8 hs ?_;refine .call jb rfl (cU hs ⟨h3.1,hn.id⟩) ?_;rintro _ w ⟨rfl,hs⟩;refine .go (.zw 9 rfl zpT ?_);refine .z 10 rfl zm ?_;refine .z 11 rfl (zfa cM) ?_;refine .z 12 rfl (zfa cn) ?_;refine .y 13 rfl hs ai ?_;refine .z 14 rfl (zfa cN) ?_;refine .ys 15 rfl hs [_,_] ja dZ ?_;refine .E 16 hs ?_;refine .call call232 rfl (jK hs aj h1) ?_;rintro _ w ⟨rfl,hs⟩;refine .go (.zw 17 rfl gQ ?_);rw [decide_eq_true (by have:=hn.src;omega)];refine .zw 18 rfl zpT ?_;refine .z 19 rfl zg ?_;refine .D hs ?_;exact .ret (Fin.bw results171 rfl ⟨rfl,H1,aq,hs.out⟩)
theorem oW{w:World}{x:Ev}(hs:St H w σ)(hg:ti x)(hr:mb x):TN 172 [x.agg] w fun v w'=>v= .bool true∧St H w' σ:=by
 have h1:=hg.seq;have h2:=hg.off;have h3:=hr.tol;refine Cl.o func172 ntmps172 ag1 ?_;refine .af (.bx hs fun b1 w hs=>?_);refine .zn zg (.af (.z (zfa dQ) (.y hs (zls [_,_,_,_,_,_,_] fY bh) (.o (.alloc hs iE rfl fun b3 w hs=>?_)))));refine .o (.aS (vs:=[_,_,_,_,_,_,_]) hs rfl rfl bh fun w hs=>?_);refine .nil (.seq (.draw mix rfl hs fun w hs=>?_));refine .zw 0 rfl (zfa dW) ?_;refine .y 1 rfl hs ai ?_;refine .z 2 rfl (zfa cN) ?_;refine .ys 3 rfl hs [_,_] ja dZ ?_;refine .E 4 hs ?_;refine .call call232 rfl (jK hs aj h1) ?_;rintro _ w ⟨rfl,hs⟩;refine .go (.zw 5 rfl gQ ?_);rw [decide_eq_true (by have:=hr.src;omega)];refine .zw 6 rfl zm ?_;refine .z 7 rfl (zfa dk) ?_;refine .y 8 rfl hs ai ?_;refine .z 9 rfl (zfa dO) ?_;refine .y 10 rfl hs ai ?_;refine .z 11 rfl gQ ?_;rw [decide_eq_true hr.day];refine .zw 12 rfl zpT ?_;refine .z 13 rfl zm ?_;refine .z 14 rfl (zfa eJ) ?_;refine .y 15 rfl hs ai ?_;refine .E 16 hs ?_;refine .call jb rfl (cU hs hr.st) ?_;rintro _ w ⟨rfl,hs⟩;refine .go (.zw 17 rfl zpT ?_);refine .z 18 rfl zm ?_;refine .z 19 rfl (zfa eI) ?_;refine .y 20 rfl hs ai ?_;refine .E 21 hs ?_;refine .call jb rfl (cU hs hr.wa) ?_;rintro _ w ⟨rfl,hs⟩;refine .go (.zw 22 rfl zpT ?_);refine .z 23 rfl zm ?_;refine .z 24 rfl (zfa bY) ?_;refine .y 25 rfl hs ai ?_;refine .E 26 hs ?_;refine .call jb rfl (cU hs hr.tol) ?_;rintro _ w ⟨rfl,hs⟩;refine .go (.zw 27 rfl zpT ?_);refine .z 28 rfl zm ?_;refine .z 29 rfl (zfa dC) ?_;refine .y 30 rfl hs ai ?_;refine .z 31 rfl (zfa bY) ?_;refine .y 32 rfl hs ai ?_;refine .z 33 rfl jc ?_;refine .E 34 hs ?_;refine .call jb rfl (cU hs hr.val) ?_;rintro _ w ⟨rfl,hs⟩;refine .go (.zw 35 rfl zpT ?_);refine .z 36 rfl zm ?_;refine .z 37 rfl (zfa dB) ?_;refine .y 38 rfl hs ai ?_;refine .E 39 hs ?_;refine .call jb rfl (cU hs hr.tape) ?_;rintro _ w ⟨rfl,hs⟩;refine .go (.zw 40 rfl zpT ?_);refine .z 41 rfl zg ?_;refine .D hs ?_;exact .ret (Fin.bw results172 rfl ⟨rfl,hs.out⟩)
theorem oX{w:World}{x:Ev}(hs:St H w σ)(hg:ti x)(hr:yq x):TN 173 [x.agg] w fun v w'=>v= .bool true∧St H w' σ:=by
 have h1:=hg.seq;have h2:=hg.off;have h3:=hr.fr;have h4:=hr.to;have h5:=hr.lo;have h6:=hr.hi;refine Cl.o func173 ntmps173 ag1 ?_;refine .af (.bx hs fun b1 w hs=>?_);refine .zn zg (.af (.z (zfa ew) (.y hs (zls [_,_,_,_,_,_] rP de) (.o (.alloc hs nX rfl fun b3 w hs=>?_)))));refine .o (.aS (vs:=[_,_,_,_,_,_]) hs rfl rfl de fun w hs=>?_);refine .nil (.seq (.draw mix rfl hs fun w hs=>?_));refine .zw 0 rfl (zfa eM) ?_;refine .y 1 rfl hs ai ?_;refine .z 2 rfl (zfa cN) ?_;refine .ys 3 rfl hs [_,_] ja dZ ?_;refine .E 4 hs ?_;refine .call call232 rfl (jK hs aj h1) ?_;rintro _ w ⟨rfl,hs⟩;refine .go (.zw 5 rfl gQ ?_);rw [decide_eq_true (by have:=hr.src;omega)];refine .zw 6 rfl zm ?_;refine .z 7 rfl (zfa ik) ?_;refine .y 8 rfl hs ai ?_;refine .E 9 hs ?_;refine .call jb rfl (cU hs hr.tape) ?_;rintro _ w ⟨rfl,hs⟩;refine .go (.zw 10 rfl zpT ?_);refine .z 11 rfl zm ?_;refine .z 12 rfl (zfa fN) ?_;refine .y 13 rfl hs ai ?_;refine .E 14 hs ?_;refine .call call95 rfl (gz hs aj) ?_;rintro _ w ⟨rfl,hs⟩;refine .go (.zw 15 rfl zpT ?_);refine .z 16 rfl zm ?_;refine .z 17 rfl (zfa eL) ?_;refine .y 18 rfl hs ai ?_;refine .E 19 hs ?_;refine .call call95 rfl (gz hs aj) ?_;rintro _ w ⟨rfl,hs⟩;refine .go (.zw 20 rfl zpT ?_);refine .z 21 rfl zm ?_;refine .z 22 rfl (zfa fN) ?_;refine .y 23 rfl hs ai ?_;refine .z 24 rfl (zfa eL) ?_;refine .y 25 rfl hs ai ?_;refine .z 26 rfl pE ?_;rw [decide_eq_true h3.2];refine .zw 27 rfl zpT ?_;refine .z 28 rfl zm ?_;refine .z 29 rfl (zfa fM) ?_;refine .y 30 rfl hs ai ?_;refine .z 31 rfl Bq ?_;rw [decide_eq_true h5.1];refine .zw 32 rfl zpT ?_;refine .z 33 rfl zm ?_;refine .z 34 rfl (zfa fM) ?_;refine .y 35 rfl hs ai ?_;refine .z 36 rfl (zfa eK) ?_;refine .y 37 rfl hs ai ?_;refine .z 38 rfl pE ?_;rw [decide_eq_true h5.2];refine .zw 39 rfl zpT ?_;refine .z 40 rfl zm ?_;refine .z 41 rfl (zfa eK) ?_;refine .y 42 rfl hs ai ?_;refine .z 43 rfl pE ?_;rw [decide_eq_true h6];refine .zw 44 rfl zpT ?_;refine .z 45 rfl zg ?_;refine .D hs ?_;exact .ret (Fin.bw results173 rfl ⟨rfl,hs.out⟩)
set_option maxHeartbeats 8000000 in
theorem vG{w:World}{x:Ev}(hs:St H w σ)(hx:EvM H x)(hg:ti x):TN 93 [x.agg] w fun v w'=>v= .tuple #[x.agg,.bool true]∧∃H1,HLe H H1∧St H1 w' σ:=by
 have hk:=hg.kind;refine Cl.o func93 ntmps93 ag1 ?_;refine .af (.bx hs fun b1 w hs=>?_);refine .o (.alloc hs cO rfl fun b2 w hs=>?_);refine .zn zg (.af (.z (zfa cN) (.y hs (zls [_,_] ja dZ) (.z (zfa cq) (.y hs (zld ai) (.z (zfa fT) (.y hs (zld ai) (.z (zfa eY) (.y hs (zld ai) (.z (zfa dO) (.y hs (zld ai) (.z (zbd [I x.off,I x.seq,I x.kind,I x.ship,I x.day,I x.known,I 0,I 0,I 0,I 0,I 0,I 0,.slice none 0 0,.slice none 0 0,I 0,I 0,I 0,I 0,I 0,I 0,I 0,I 0,I 0,I 0,I 0,I 0,I 0,I 0,I 0,I 0,I 0] eS rfl az) (.o (.alloc hs cO rfl fun b4 w hs=>?_))))))))))))));refine .o (.fw (vs:=[_,_,_,_,_,_,_,_,_,_,_,_,_,_,_,_,_,_,_,_,_,_,_,_,_,_,_,_,_,_,_]) hs rfl rfl aD fun w hs=>?_);refine .nil (.af (.z (zfa eY) (.y hs (zld ai) (.o (.call call141 rfl (mg hs hg.ship) ?_)))));rintro _ w ⟨rfl,hs⟩;refine .z zm (.T (.z (zfa dO) (.T (.y hs (zld ai) (.T (.o (.call call95 rfl (gz hs hg.day) ?_)))))));rintro _ w ⟨rfl,hs⟩;refine .z zpT (.zn zg (.af (.z (zfa eg) (.y hs (zld ai) (.o (.call jb rfl (AN hs) ?_))))));rintro _ w ⟨pr,rfl,SQ,hs⟩;refine .zn zg (.seq (.af (.z (zfa cq) (.y hs (zld ai) (.nil (.block (.af (.z gQ (.zn zg (.cu rfl (fun xL=>?_) (fun xL=>?_)))))))))))
 ·refine .seq (.draw mix rfl hs fun w hs=>?_);refine .zw 0 rfl (zfa dx) ?_;refine .y 1 rfl hs ai ?_;refine .z 2 rfl (zfa cM) ?_;refine .ys 3 rfl hs [_,_,_,_,_,_] bg aJ ?_;refine .z 4 rfl (zfa dx) ?_;refine .E 5 hs ?_;refine .store hs rfl rfl ak ?_;intro w hs;refine .go (.zw 6 rfl (zfa cM) (.E 7 hs ?_));refine .aS (vs:=[_,_,_,_,_,_]) hs rfl rfl aJ ?_;intro w hs;refine .go (.D hs (.seq (.draw mix rfl hs fun w hs=>?_)));refine .ys 0 rfl hs [_,_,_,_,_,_,_,_,_,_,_,_,_,_,_,_,_,_,_,_,_,_,_,_,_,_,_,_,_,_,_] bR aD ?_;refine .z 1 rfl zm ?_;refine .z 2 rfl zm ?_;refine .z 3 rfl (zfa dx) ?_;refine .y 4 rfl hs ai ?_;refine .E 5 hs ?_;have hq:=hg.build da;refine .call jb rfl (cU hs hq.num) ?_;rintro _ w ⟨rfl,hs⟩;refine .go (.zw 6 rfl zpT ?_);refine .z 7 rfl zm ?_;refine .ys 8 rfl hs [_,_,_,_,_,_,_,_,_,_,_,_,_,_,_,_,_,_,_,_,_,_,_,_,_,_,_,_,_,_,_] bR aD ?_;refine .E 9 hs ?_;refine .call call171 rfl (mR hs hx hg hq.new) ?_;rintro _ w ⟨rfl,H1,aq,hs⟩;refine .go (.zw 10 rfl zpT (.E 11 hs ?_));refine .fw (vs:=[_,_,_,_,_,_,_,_,_,_,_,_,_,_,_,_,_,_,_,_,_,_,_,_,_,_,_,_,_,_,_]) hs rfl rfl aD ?_;intro w hs;refine .go (.zw 12 rfl zg ?_);refine .D hs ?_;exact .ret (rB (rT ((Fin.kY [] [] hs fun w hs=>⟨_,results2 results93 (fq (vs:=[_,_,_,_,_,_,_,_,_,_,_,_,_,_,_,_,_,_,_,_,_,_,_,_,_,_,_,_,_,_,_]) hs rfl bR aD) rfl,by simp [Ev.agg,hq.room,hq.opn,hq.crew,hq.rd,hq.cm,hg.oo,hg.os,rd0,cm0],H1,aq,hs.out⟩))))
 ·refine .af (.z gQ (.zn zg (.cu rfl (fun Fp=>?_) (fun Fp=>?_))))
  ·refine .seq (.draw mix rfl hs fun w hs=>?_);refine .zw 0 rfl (zfa dx) ?_;refine .y 1 rfl hs ai ?_;refine .z 2 rfl (zfa fS) ?_;refine .y 3 rfl hs ai ?_;refine .z 4 rfl (zfa fR) ?_;refine .y 5 rfl hs ai ?_;refine .z 6 rfl (zfa cM) ?_;refine .ys 7 rfl hs [_,_,_,_,_,_] bg aJ ?_;refine .z 8 rfl (zfa dx) ?_;refine .E 9 hs ?_;refine .store hs rfl rfl ak ?_;intro w hs;refine .go (.zw 10 rfl (zfa fS) (.E 11 hs ?_));refine .store hs rfl rfl ak ?_;intro w hs;refine .go (.zw 12 rfl (zfa fR) (.E 13 hs ?_));refine .store hs rfl rfl ak ?_;intro w hs;refine .go (.zw 14 rfl (zfa cM) (.E 15 hs ?_));refine .aS (vs:=[_,_,_,_,_,_]) hs rfl rfl aJ ?_;intro w hs;refine .go (.D hs (.seq (.draw mix rfl hs fun w hs=>?_)));refine .ys 0 rfl hs [_,_,_,_,_,_,_,_,_,_,_,_,_,_,_,_,_,_,_,_,_,_,_,_,_,_,_,_,_,_,_] bR aD ?_;refine .z 1 rfl zm ?_;refine .z 2 rfl zm ?_;refine .z 3 rfl (zfa dx) ?_;refine .y 4 rfl hs ai ?_;refine .E 5 hs ?_;have hq:=hg.Jf da;refine .call jb rfl (cU hs hq.num) ?_;rintro _ w ⟨rfl,hs⟩;refine .go (.zw 6 rfl zpT ?_);refine .z 7 rfl zm ?_;refine .z 8 rfl (zfa fS) ?_;refine .y 9 rfl hs ai ?_;refine .E 10 hs ?_;refine .call jb rfl (cU hs hq.opn) ?_;rintro _ w ⟨rfl,hs⟩;refine .go (.zw 11 rfl zpT ?_);refine .z 12 rfl zm ?_;refine .z 13 rfl (zfa fR) ?_;refine .y 14 rfl hs ai ?_;refine .E 15 hs ?_;refine .call jb rfl (cU hs hq.crew) ?_;rintro _ w ⟨rfl,hs⟩;refine .go (.zw 16 rfl zpT ?_);refine .z 17 rfl zm ?_;refine .ys 18 rfl hs [_,_,_,_,_,_,_,_,_,_,_,_,_,_,_,_,_,_,_,_,_,_,_,_,_,_,_,_,_,_,_] bR aD ?_;refine .E 19 hs ?_;refine .call call171 rfl (mR hs hx hg hq.new) ?_;rintro _ w ⟨rfl,H1,aq,hs⟩;refine .go (.zw 20 rfl zpT (.E 21 hs ?_));refine .fw (vs:=[_,_,_,_,_,_,_,_,_,_,_,_,_,_,_,_,_,_,_,_,_,_,_,_,_,_,_,_,_,_,_]) hs rfl rfl aD ?_;intro w hs;refine .go (.zw 22 rfl zg ?_);refine .D hs ?_;exact .ret (rB (rT ((Fin.kY [] [] hs fun w hs=>⟨_,results2 results93 (fq (vs:=[_,_,_,_,_,_,_,_,_,_,_,_,_,_,_,_,_,_,_,_,_,_,_,_,_,_,_,_,_,_,_]) hs rfl bR aD) rfl,by simp [Ev.agg,hq.room,hq.rd,hq.cm,hg.oo,hg.os,rd0,cm0],H1,aq,hs.out⟩))))
  ·refine .af (.z gQ ?_);rw [decide_eq_false aj];refine .zn zg (.cF (.seq (.af (.z gQ ?_))));rw [decide_eq_false aj];refine .zn zg (.cF (.af (.z gQ ?_)));rw [decide_eq_false aj];refine .zn zg (.cF (.region (.z gQ ?_)));rw [decide_eq_false aj];refine .zn zg (nT (.cF (.af (.z gQ ?_))));rw [decide_eq_false aj];refine .zn zg (.cF (.af (.z gQ (.zn zg (.cu rfl (fun NQ=>?_) (fun NQ=>?_))))))
   ·refine .seq (.draw mix rfl hs fun w hs=>?_);refine .zw 0 rfl (zfa eg) ?_;refine .y 1 rfl hs ai ?_;refine .z 2 rfl (zfa dQ) ?_;refine .ys 3 rfl hs [_,_,_,_,_,_,_] fY bh ?_;refine .z 4 rfl (zfa eg) ?_;refine .E 5 hs ?_;refine .store hs rfl rfl ak ?_;intro w hs;refine .go (.zw 6 rfl (zfa dQ) (.E 7 hs ?_));refine .aS (vs:=[_,_,_,_,_,_,_]) hs rfl rfl bh ?_;intro w hs;refine .go (.D hs (.seq (.draw mix rfl hs fun w hs=>?_)));have hq:=hg.read da;obtain rfl:=SQ hq.room;refine .ys 0 rfl hs [_,_,_,_,_,_,_,_,_,_,_,_,_,_,_,_,_,_,_,_,_,_,_,_,_,_,_,_,_,_,_] bR aD ?_;refine .z 1 rfl zm ?_;refine .z 2 rfl zm ?_;refine .z 3 rfl zm ?_;refine .z 4 rfl zpT ?_;refine .z 5 rfl zm ?_;refine .ys 6 rfl hs [_,_,_,_,_,_,_,_,_,_,_,_,_,_,_,_,_,_,_,_,_,_,_,_,_,_,_,_,_,_,_] bR aD ?_;refine .E 7 hs ?_;refine .call call172 rfl (oW hs hg hq) ?_;rintro _ w ⟨rfl,hs⟩;refine .go (.zw 8 rfl zpT (.E 9 hs ?_));refine .fw (vs:=[_,_,_,_,_,_,_,_,_,_,_,_,_,_,_,_,_,_,_,_,_,_,_,_,_,_,_,_,_,_,_]) hs rfl rfl aD ?_;intro w hs;refine .go (.zw 10 rfl zg ?_);refine .D hs ?_;exact .ret (rB (rT ((Fin.kY [] [] hs fun w hs=>⟨_,results2 results93 (fq (vs:=[_,_,_,_,_,_,_,_,_,_,_,_,_,_,_,_,_,_,_,_,_,_,_,_,_,_,_,_,_,_,_]) hs rfl bR aD) rfl,by simp [Ev.agg,hq.num,hq.opn,hq.crew,hq.sp,hq.ast,hq.cst,hq.awa,hq.cwa,hq.cm,hg.oo,hg.os,sp0,cm0],H,HLe.refl _,hs.out⟩))))
   ·refine .af (.z gQ ?_);rw [decide_eq_true aj];refine .zn zg (.cT (.af (.z (zfa ew) (.y hs (zls [_,_,_,_,_,_] rP de) (.z (zfa ew) (.o (.aS (vs:=[_,_,_,_,_,_]) hs rfl rfl de fun w hs=>?_)))))));refine .nil (.seq (.draw mix rfl hs fun w hs=>?_));refine .ys 0 rfl hs [_,_,_,_,_,_,_,_,_,_,_,_,_,_,_,_,_,_,_,_,_,_,_,_,_,_,_,_,_,_,_] bR aD ?_;refine .z 1 rfl zm ?_;refine .z 2 rfl zm ?_;refine .ys 3 rfl hs [_,_,_,_,_,_,_,_,_,_,_,_,_,_,_,_,_,_,_,_,_,_,_,_,_,_,_,_,_,_,_] bR aD ?_;refine .E 4 hs ?_;have hq:=hg.tape aj;refine .call call173 rfl (oX hs hg hq) ?_;rintro _ w ⟨rfl,hs⟩;refine .go (.zw 5 rfl zpT (.E 6 hs ?_));refine .fw (vs:=[_,_,_,_,_,_,_,_,_,_,_,_,_,_,_,_,_,_,_,_,_,_,_,_,_,_,_,_,_,_,_]) hs rfl rfl aD ?_;intro w hs;refine .go (.zw 7 rfl zg ?_);refine .D hs ?_;exact .ret (rB (rT ((Fin.kY [] [] hs fun w hs=>⟨_,results2 results93 (fq (vs:=[_,_,_,_,_,_,_,_,_,_,_,_,_,_,_,_,_,_,_,_,_,_,_,_,_,_,_,_,_,_,_]) hs rfl bR aD) rfl,by simp [Ev.agg,hq.room,hq.num,hq.opn,hq.crew,hq.sp,hq.ast,hq.cst,hq.awa,hq.cwa,hq.rd,hg.oo,hg.os,sp0,rd0],H,HLe.refl _,hs.out⟩))))
set_option maxHeartbeats 4000000 in
theorem nL{w:World}{x:Ev}(hs:St H w σ)(hx:EvM H x)(hg:ti x):TN 47 [x.agg] w fun v w'=>v=I 0∧∃H1,HLe H H1∧St H1 w' σ:=by
 have h1:=hg.off;refine Cl.o func47 ntmps47 ag1 ?_;refine .af (.bx hs fun b1 w hs=>?_);refine .zn zg (.af (.y hs (zls [_,_,_,_,_,_,_,_,_,_,_,_,_,_,_,_,_,_,_,_,_,_,_,_,_,_,_,_,_,_,_] bR aD) (.o (.call call93 rfl (vG hs hx hg) ?_))));rintro _ w ⟨rfl,H1,aq,hs⟩;refine .z zm (.z zex (.z zex (.o (.alloc hs cO rfl fun b3 w hs=>?_))));refine .o (.fw (vs:=[_,_,_,_,_,_,_,_,_,_,_,_,_,_,_,_,_,_,_,_,_,_,_,_,_,_,_,_,_,_,_]) hs rfl rfl aD fun w hs=>?_);refine .zn zg (.seq (.af (.z zm (.z iW (.z zm (.T (.z (zfa cN) (.T (.y hs (zls [_,_] ja dZ) (.T (.o (.call call94 rfl (lH hs aj hg.seq) ?_))))))))))));rintro _ w ⟨rfl,hs⟩;refine .T (.z iW (.z zpF (.z zm (.T (.z (zfa fT) (.T (.y hs (zld ai) (.T (.o (.call call95 rfl (gz hs hg.known) ?_))))))))));rintro _ w ⟨rfl,hs⟩;refine .T (.z iW (.z zpF (.z zm (.T (.y hs (zls [_,_,_,_,_,_,_,_,_,_,_,_,_,_,_,_,_,_,_,_,_,_,_,_,_,_,_,_,_,_,_] bR aD) (.T (.y hs (zls [_,_,_,_,_,_,_,_,_,_,_,_,_,_,_,_,_,_,_,_,_,_,_,_,_,_,_,_,_,_,_] bR aD) (.T (.o (.call call96 rfl (oV hs (hx.mono aq)) ?_))))))))));rintro _ w ⟨rfl,hs⟩;exact .T (.z iW (.zn zpF (.cF (.skip (nT (.af (.zn zg (.ret (Fin.bw results47 rfl ⟨rfl,H1,aq,hs.out⟩)))))))))
set_option maxHeartbeats 2000000 in
theorem rm{w:World}{v:Value}{l:List Ev}(hs:St H w σ)(hr:REv H v l)(hl:Gk l):TN 46 [v] w fun u w'=>u= .bool true∧St H w' σ:=by
 obtain ⟨a,c,rfl⟩:=hr.shape;have h1:=hl.len;have h2:=hl.bD;refine Cl.o func46 ntmps46 ag1 ?_;refine .af (.zn zg (.af (.zn zg (.seq (.af (.z zm (.z (cH aH) (.zn zm (.for (N:=l.length) (J:=fun k fr w=>fr=[(6,.slice a l.length c),(3,I (lq l k)),(0,.slice a l.length c)]∧St H w σ) aj ?_ ?_ ?_)))))))))
 ·exact .mk ⟨rfl,hs⟩
 ·rintro k fr w hk ⟨rfl,hs⟩;have hx:=eZ (l:=l) (i:=k) hk;have hb:=yO l k;refine .block (.af (.ixX (enc:=Ev.c) hs hr.rs rfl rfl aH aD hx rfl ?_));intro ib o10 sH;refine .q hs (bE (vs:=(evG l k).c) rfl bR aD sH) (.o (.alloc hs cO rfl fun b5 w hs=>?_));refine .o (.fw (vs:=[_,_,_,_,_,_,_,_,_,_,_,_,_,_,_,_,_,_,_,_,_,_,_,_,_,_,_,_,_,_,_]) hs rfl rfl aD fun w hs=>?_);refine .nil (.af (.z (zfa cq) (.y hs (zld ai) (.zn gQ (.cu rfl (fun gY=>?_) (fun gY=>?_))))))
  ·exact .region (.z zm (.z cP (.zn zg (nB (nT (.mk ⟨by simp only [lq];rw [if_pos da],hs.out⟩))))))
  ·exact .skip (nB (nT (.mk ⟨by simp only [lq];rw [if_neg da],hs.out⟩)))
 ·rintro fr w ⟨rfl,hs⟩;refine nT (.af (.z zm (.z (cH aH) (.z pE ?_))));rw [decide_eq_true aj];refine .z zm (.T (.z zm (.T (.z pE ?_))));rw [decide_eq_true aj];exact .z zpT (.zn zg (.ret (Fin.bw results46 rfl ⟨rfl,hs.out⟩)))
set_option maxHeartbeats 4000000 in
theorem mT{w:World}{v:Value}{l:List Ev}(hs:St H w σ)(hr:REv H v l)(hl:Gk l):TN 13 [v] w fun u w'=>u=I 0∧∃H1,HLe H H1∧St H1 w' σ:=by
 obtain ⟨a,c,rfl⟩:=hr.shape;have h1:=hl.len;refine Cl.o func13 ntmps13 ag1 ?_;refine .af (.zn zg (.seq (.af (.z zm (.z (cH aH) (.z uS ?_))))));rw [decide_eq_false aj];refine .z zm (.T (.z zm (.T (.o (.call call46 rfl (rm hs hr hl) ?_)))));rintro _ w ⟨rfl,hs⟩;refine .T (.z iW (.zn zpF (.cF (.skip (nT (.seq (.af (.z zm (.z (cH aH) (.zn zm (.for (N:=l.length) (J:=fun k fr w=>∃H1,fr=[(13,.slice a l.length c),(0,.slice a l.length c)]∧HLe H H1∧St H1 w σ) aj ?_ ?_ ?_)))))))))))
 ·exact .mk ⟨H,rfl,HLe.refl _,hs⟩
 ·rintro k fr w hk ⟨H1,rfl,aq,hs⟩;have hx:=eZ (l:=l) (i:=k) hk;have hm:=pa (l:=l) (i:=k) hk;refine .block (.af (.z zm (.ixX (enc:=Ev.c) hs (hr.rs.mono aq) rfl rfl aH aD hx rfl ?_)));intro rN o18 qe;refine .q hs (bE (vs:=(evG l k).c) rfl bR aD qe) (.o (.alloc hs cO rfl fun b4 w hs=>?_));refine .z zg (.o (.fw (vs:=[_,_,_,_,_,_,_,_,_,_,_,_,_,_,_,_,_,_,_,_,_,_,_,_,_,_,_,_,_,_,_]) hs rfl rfl aD fun w hs=>?_));refine .nil (.seq (.draw mix rfl hs fun w hs=>?_));refine .zv 0 rfl hs (BK [_,_,_,_,_,_,_,_,_,_,_,_,_,_,_,_,_,_,_,_,_,_,_,_,_,_,_,_,_,_,_] bR aD) (.E 1 hs ?_);refine .call call47 rfl (nL (x:=evG l k) hs ((hr.all _ hm).mono aq) (hl.good _ hm)) ?_;rintro _ w ⟨rfl,H2,aW,hs⟩;refine .go (.zw 2 rfl gL ?_);rw [decide_eq_true rfl];refine .zw 3 rfl zm ?_;refine .z 4 rfl zm ?_;refine .z 5 rfl uS ?_;refine .z 6 rfl zm ?_;refine .lI (t':=26) rfl (fun A5=>?_) (fun A5=>?_)
  ·refine .zw 7 rfl zm ?_;refine .z 8 rfl zm ?_;have BV:0<k:=by omega
   have AT:=eZ (l:=l) (i:=k - 1) aj;refine .zw 9 rfl jc ?_;rw [show ((k:Int) - 1)=((k - 1:Nat):Int) by omega];refine .ixX (enc:=Ev.c) (i:=10) hs rfl az (.some rfl rfl) (hr.rs.mono (aq.trans aW)) rfl rfl aH aD AT rfl ?_;intro Gb o30 o7;refine .zw 11 rfl (zfa cN) (.r (i:=12) hs rfl az (.some rfl rfl) (bE (vs:=[I (evG l (k - 1)).off,I (evG l (k - 1)).seq]) rfl ja dZ (o7.sub 0 _)) ?_);refine .zw 13 rfl (zfa cN) ?_;refine .ys 14 rfl hs [_,_] ja dZ ?_;refine .E 15 hs ?_;refine .call call48 rfl (rn (a:=(evG l (k - 1)).off) (b:=(evG l (k - 1)).seq) (c:=(evG l k).off) (d:=(evG l k).seq) hs) ?_;rintro _ w ⟨rfl,H3,bO,hs⟩;have hcm:orL [uY (evG l (k - 1)).off (evG l k).off,uY (evG l (k - 1)).seq (evG l k).seq]= -1:=by
    rw [(hl.good _ (pa (l:=l) (i:=k - 1) aj)).off,(hl.good _ hm).off];exact Dp (by have:=hl.inc (k - 1) aj;rwa [show k - 1+1=k by omega] at this)
   rw [hcm];refine .go (.zw 16 rfl Bq ?_);rw [decide_eq_false e7];refine .zw 17 rfl zpT ?_;refine .z 18 rfl zpF ?_;refine .D hs ?_;exact (.cF (.skip (nB (nT (.mk ⟨_,rfl,by first|exact aq.trans (aW.trans bO)|exact aq.trans aW,hs.out⟩)))))
  ·refine .F 7 rfl (.F 8 rfl (.F 9 rfl (.F 10 rfl (.F 11 rfl (.F 12 rfl (.F 13 rfl (.F 14 rfl (.F 15 rfl (.F 16 rfl (.zw 17 rfl zpF ?_))))))))));refine .z 18 rfl zpF ?_;refine .D hs ?_;exact (.cF (.skip (nB (nT (.mk ⟨_,rfl,by first|exact aq.trans (aW.trans bO)|exact aq.trans aW,hs.out⟩)))))
 ·rintro fr w ⟨H1,rfl,aq,hs⟩;exact nT (.af (.zn zg (.ret (Fin.bw results13 rfl ⟨rfl,H1,aq,hs.out⟩))))
theorem kl{w:World}{v:Value}{l:List Ev}{n:Int}{ds:List Int}(hs:St H w σ)(hr:REv H v l)(hl:Gk l)(hn:1≤n∧n≤999)(hd:RI H vd ds)(hds:∀d∈ds,0≤d∧d≤100000):
  TN 74 [v,I n,vd] w fun u w'=>u=I 0∧∃H1,HLe H H1∧St H1 w' σ:=by
 obtain ⟨a,c,rfl⟩:=hr.shape;obtain ⟨ad,cd,rfl⟩:=RI.shape hd;refine Cl.o func74 ntmps74 ag3 ?_;refine .af (.zn zg (.seq (.af (.z zm (.o (.call call13 rfl (mT hs hr hl) ?_))))));rintro _ w ⟨rfl,H1,aq,hs⟩;refine .zn zg (.af (.z zm (.z gL ?_)));rw [decide_eq_true rfl];refine .nil (.cF (.skip (nT (.seq (.af (.z zm (.o (.call call141 rfl (mg hs hn) ?_))))))));rintro _ w ⟨rfl,hs⟩;refine .zn iW (.cF (.skip (nT (.seq (.af (.z zm (.z (cH ae) (.zn zm (.for (N:=ds.length) (J:=fun k fr w=>fr=[(18,.slice ad ds.length cd)]∧St H1 w σ) (by have:=(RS.len hd).2.2;omega) ?_ ?_ ?_)))))))))
 ·exact .mk ⟨rfl,hs⟩
 ·rintro k fr w hk ⟨rfl,hs⟩;have hx:=bJ (l:=ds) (i:=k) hk;refine .block (.af (.ixX (enc:=fun x=>[I x]) hs (hd.mono aq) rfl rfl ae ak hx rfl ?_));intro Ma o22 km;replace km:=bB.one km;refine .y hs (zld ai) (.zn zg (.af (.z zm (.o (.call call95 rfl (gz hs (hds _ (List.mem_of_getElem? hx))) ?_)))));rintro _ w ⟨rfl,hs⟩;exact .zn iW (.cF (.skip (nB (nT (.mk ⟨rfl,hs.out⟩)))))
 ·rintro fr w ⟨rfl,hs⟩;exact nT (.af (.zn zg (.ret (Fin.bw results74 rfl ⟨rfl,H1,aq,hs.out⟩))))
theorem EX{b:Int}(w:World):(Instr.checkKey true 10000 74 (.agg #[I a,I b])).run Tryz.prog w= .ok () w:=by
 have h0:(part 3 #[I a,I b] 0).run Tryz.prog w= .ok (I a) w:=BA ai rfl;have h1:(part 3 #[I a,I b] 1).run Tryz.prog w= .ok (I b) w:=BA ai rfl;unfold Instr.checkKey;simp [Result.andThen,h0,h1,pN aF]
set_option maxHeartbeats 4000000 in
theorem kO{w:World}{v:Value}{l:List Ev}(hs:St H w σ)(hr:REv H v l)(hl:Gk l):TN 144 [v,I known] w fun u w'=>∃H1 a c,HLe H H1∧u= .slice a l.length c∧RBo H1 u (Kd l known)∧St H1 w' σ:=by
 obtain ⟨a,c,rfl⟩:=hr.shape;have h1:=hl.len;refine Cl.o func144 ntmps144 ag2 ?_;refine .af (.zn zg (.af (.z zm (.z (cH aH) (.o (.makeSlice (bytes:=1) hs rfl rfl c9 typeInfo4 rfl eA IX rfl e7 aj aj fun Dv w hs=>?_))))));refine .zn zg (.af (.o (.makeMap hs fun pn w hs=>?_)));refine .zn zg (.seq (.af (.z zm (.z (cH aH) (.z jc (.zn zg (.block ?_)))))));rw [show ((l.length:Int)).toNat=l.length by omega] at hs ⊢;rw [show (List.replicate l.length (Value.bool false).cells.toList).flatten=Bz (Ag l known l.length) by rw [GM];simp [Bz,Value.cells]] at hs;refine .loop (fun p:Int=>⟨51,[],[(7,I p),(6,.map (some pn)),(5,.slice (some ⟨Dv,0,none⟩) l.length l.length),(1,I known),(0,.slice a l.length c)]⟩)
  (fun p w=>(-1≤p∧p<l.length)∧St H w (.obj pn (.map #[] 0):: .blk Dv (Bz (Ag l known (p+1).toNat))::σ)) (fun p=>(p+1).toNat) ((l.length:Int) - 1) bk
  ⟨aj,by rw [show ((l.length:Int) - 1+1).toNat=l.length by omega];exact hs.sb⟩ ?_
 rintro p w ⟨hp,hs⟩;refine .seq (.af (.z zm (.zn Bq (.cu rfl (fun kq=>?_) (fun kq=>?_)))))
 ·refine .skip (nT (.seq (.block (.af ?_))));obtain ⟨k,rfl⟩:∃k:Nat,p=(k:Int):=⟨p.toNat,aj⟩;have hk:k<l.length:=by omega
  have hx:=eZ (l:=l) (i:=k) hk;have hg:=hl.good _ (pa (l:=l) (i:=k) hk);have OX:=hg.kind;rw [show ((k:Int)+1).toNat=k+1 by omega] at hs;refine .z zm (.z zm (.ixX (enc:=Ev.c) hs hr.rs rfl rfl aH aD hx rfl ?_));intro Ma o22 km;refine .q hs (bE (vs:=(evG l k).c) rfl bR aD km) (.o (.alloc hs cO rfl fun b8 w hs=>?_));refine .o (.fw (vs:=[_,_,_,_,_,_,_,_,_,_,_,_,_,_,_,_,_,_,_,_,_,_,_,_,_,_,_,_,_,_,_]) hs rfl rfl aD fun w hs=>?_);refine .nil (.af (.z zm (.z zm (.z (zfa fT) (.y hs (zld ai) (.z zm (.z pE (.z zm (.lI (t':=30) rfl (fun K8=>?_) (fun K8=>?_))))))))))
  ·refine .T (.z zm (.T (.z (zfa cN) (.T (.y hs (zls [_,_] ja dZ) (.T (.q hs (Es (c:=0) rfl rfl (by repeat (first|exact .here|refine .there ?_)) runUnderlying307 EX lg IX) ?_)))))));refine .T (.z iW (.z zpT ?_));first|(refine .ixw hs c9 eA ?_;intro R7 o37 rC)|refine .z (zix c9 eA) ?_
   refine .o (.store (c':=Bz (Ag l known k)) hs rfl rfl eA ?_ cZ (JZ (by rw [ir];exact hk)) (by rw [JX,←yQ hk];congr 2;first|(exact (decide_eq_true da).symm)|(exact (decide_eq_false da).symm)|simp_all));intro w hs;refine .nil (.af (.z zm (.z zm ?_)));first|(refine .ixw hs c9 eA ?_;intro Oo o40 rA)|refine .z (zix c9 eA) ?_
   refine .q hs (eN rfl ml (hv:=JY (Bu hk))) (.z zm (.bif (t':=42) rfl (fun Fz=>?_) (fun Fz=>?_)))
   ·refine .T (.z (zfa cq) (.T (.y hs (zld ai) (.T (.z gQ ?_)))));rw [decide_eq_false aj];exact .zn zpT (.cF (.skip (nB (nT (.region (.z zm (.z jc (.zn zg (nT ⟨(k:Int) - 1,bk,⟨aj,by rw [show ((k:Int) - 1+1).toNat=k by omega];exact hs.sb⟩,aj⟩)))))))))
   ·exact .Fs 3 4 true (.zn zpF (.cF (.skip (nB (nT (.region (.z zm (.z jc (.zn zg (nT ⟨(k:Int) - 1,bk,⟨aj,by rw [show ((k:Int) - 1+1).toNat=k by omega];exact hs.sb⟩,aj⟩))))))))))
  ·refine .Fs 5 6 true (.z zpF ?_);first|(refine .ixw hs c9 eA ?_;intro R7 o37 rC)|refine .z (zix c9 eA) ?_
   refine .o (.store (c':=Bz (Ag l known k)) hs rfl rfl eA ?_ cZ (JZ (by rw [ir];exact hk)) (by rw [JX,←yQ hk];congr 2;first|(exact (decide_eq_true da).symm)|(exact (decide_eq_false da).symm)|simp_all));intro w hs;refine .nil (.af (.z zm (.z zm ?_)));first|(refine .ixw hs c9 eA ?_;intro Oo o40 rA)|refine .z (zix c9 eA) ?_
   refine .q hs (eN rfl ml (hv:=JY (Bu hk))) (.z zm (.bif (t':=42) rfl (fun Fz=>?_) (fun Fz=>?_)))
   ·refine .T (.z (zfa cq) (.T (.y hs (zld ai) (.T (.z gQ ?_)))));rw [decide_eq_false aj];exact .zn zpT (.cF (.skip (nB (nT (.region (.z zm (.z jc (.zn zg (nT ⟨(k:Int) - 1,bk,⟨aj,by rw [show ((k:Int) - 1+1).toNat=k by omega];exact hs.sb⟩,aj⟩)))))))))
   ·exact .Fs 3 4 true (.zn zpF (.cF (.skip (nB (nT (.region (.z zm (.z jc (.zn zg (nT ⟨(k:Int) - 1,bk,⟨aj,by rw [show ((k:Int) - 1+1).toNat=k by omega];exact hs.sb⟩,aj⟩))))))))))
 ·refine .exit (xT (xT (xB (nT (.af (.z zm (.zn zg (.ret (Fin.bw results144 rfl ?_)))))))));rw [show (p+1).toNat=0 by omega,D9,←Gm] at hs;obtain ⟨H1,aq,hR,hs⟩:=bG.bK (m:=1) (cs:=(Kd l known).map fun b=>[Value.bool b]) (bG.full (len:=l.length) (by rw [Gm];simp [Bz,oH])) (Oy _) aj (by simp [oH];omega) hs cZ;exact ⟨H1,_,_,aq,rfl,hR,hs.out⟩
set_option maxHeartbeats 2000000 in
theorem oT{w:World}{vst vwa:Value}(hs:St H w σ)(h1:RI H vst s.st)(h2:RI H vwa s.wa)(BU:s.st.length≤1000)(HR:s.wa.length≤1000):
  TN 283 [.agg #[I s.id,I s.src,vst,vwa,I s.al,I s.up]] w fun u w'=>∃H1 a1 c1 a2 c2,HLe H H1∧u= .agg #[I s.id,I s.src,.slice a1 s.st.length c1,.slice a2 s.wa.length c2,I s.al,I s.up]∧RI H1 (.slice a1 s.st.length c1) s.st∧RI H1 (.slice a2 s.wa.length c2) s.wa∧St H1 w' σ:=by
 obtain ⟨ast,cst,rfl⟩:=RI.shape h1;obtain ⟨awa,cwa,rfl⟩:=RI.shape h2;refine Cl.o func283 ntmps283 ag1 ?_;refine .af (.bx hs fun b1 w hs=>?_);refine .o (.alloc hs gn rfl fun b2 w hs=>?_);refine .nil (.seq (.draw mix rfl hs fun w hs=>?_));refine .zw 0 rfl (zfa a8) ?_;refine .y 1 rfl hs an ?_;refine .z 3 rfl (zfa aR) ?_;refine .y 4 rfl hs an ?_;refine .E 2 hs ?_;refine .call call210 rfl (ig hs h1 aj) ?_;rintro v5 w ⟨e5,Dh,hs⟩;obtain ⟨H1,aq,L4,hs⟩:=bG.bU Dh aj hs .here;obtain ⟨a1,c1,rfl⟩:=RI.shape L4;refine .go (.zw 6 rfl (zfa a8) (.E 5 hs ?_));refine .call call210 rfl (ig hs (h2.mono aq) aj) ?_;rintro v8 w ⟨e8,hO8,hs⟩;obtain ⟨H2,aW,Ip,hs⟩:=bG.bU hO8 aj hs .here;obtain ⟨a2,c2,rfl⟩:=RI.shape Ip;refine .go (.E 7 hs ?_);refine .store hs rfl rfl aL ?_;intro w hs;refine .go (.zw 8 rfl (zfa aR) (.E 9 hs ?_));refine .store hs rfl rfl aL ?_;intro w hs;refine .go (.D hs (.af (.y hs (zls [_,_,_,_,_,_] bg aJ) (.o (.aS (vs:=[_,_,_,_,_,_]) hs rfl rfl aJ fun w hs=>?_)))));exact .nil (.ret (Fin.kY [] [] hs fun w hs=>⟨_,results1 results283 (fq (vs:=[_,_,_,_,_,_]) hs rfl bg aJ),H2,a1,c1,a2,c2,aq.trans aW,rfl,RI.mono L4 aW,Ip,hs.out⟩))
set_option maxHeartbeats 2000000 in
theorem mf{w:World}{x:Ev}{n:Int}{s:Srv}{a c cmp:Value}{cs:List Cmp}(hs:St H w σ)(hm:Mem σ (.blk b (shC n fl s a b' c d vc th cmp tap dn vd)))(hx:EvM H x)(hn:DC x)(hc:RCm H cmp cs)(hl:cs.length≤100):
  TN 257 [Pt b,x.agg] w fun u w'=>∃H1 a1 c1 a2 c2 a3 c3,HLe H H1∧u= .agg #[I x.sp.id,I x.sp.src,.slice a1 x.sp.st.length c1,.slice a2 x.sp.wa.length c2,I x.sp.al,I x.sp.up,.slice none 0 0,.slice a3 cs.length c3]∧
   SvM H1 ⟨x.sp,[],cs⟩ (.slice a1 x.sp.st.length c1) (.slice a2 x.sp.wa.length c2) (.slice none 0 0) (.slice a3 cs.length c3)∧St H1 w' σ:=by
 obtain ⟨acm,ccm,rfl⟩:=RCm.shape hc;have h1:=hn.ok.st.many;have h2:=hn.ok.wa.many;refine Cl.o func257 ntmps257 ag2 ?_;refine .af (.bx hs fun b3 w hs=>?_);refine .o (.alloc hs iF rfl fun b4 w hs=>?_);refine .nil (.seq (.draw mix rfl hs fun w hs=>?_));refine .zw 0 rfl (zfa cM) ?_;refine .ys 1 rfl hs [_,_,_,_,_,_] bg aJ ?_;refine .z 3 rfl zm ?_;refine .z 4 rfl znc ?_;refine .z 5 rfl (zfa hZ) ?_;first|refine .load (i:=6) hs rfl az .none rfl nZ ?_ (by repeat (first|exact .here|assumption|exact Mem.row aj aj|refine .there ?_|refine Mem.sP ?_)) (by first|rfl|exact eF aj|exact kE da aj aj|exact iK kC)|refine .r (i:=6) hs rfl az .none (aQ rfl nZ da) ?_
 refine .ET 2 hs ?_;refine .call call283 rfl (oT (s:=x.sp) hs hx.st hx.wa aj aj) ?_;rintro _ w ⟨H1,a1,c1,a2,c2,aq,rfl,L4,Ip,hs⟩;refine .go (.ET 7 hs ?_);refine .call call284 rfl (su hs (hc.mono aq) aj) ?_;rintro v12 w ⟨e12,RN,hs⟩;obtain ⟨H2,aW,Pa,hs⟩:=bG.bK (m:=6) (cs:=cmc cs) RN (sK _) aj (by rw [gN];omega) hs .here;obtain ⟨a3,c3,rfl⟩:=RCm.shape Pa;refine .go (.zw 8 rfl (zbd [_,_,_,_,_,_,_,_] ox) (.ET 9 hs ?_));refine .aS (vs:=[_,_,_,_,_,_,_,_]) hs rfl rfl aV ?_;intro w hs;exact .go (.DT hs (.ret (Fin.kY [] [] hs fun w hs=>⟨_,results1 results257 (fq (vs:=[_,_,_,_,_,_,_,_]) hs rfl bS aV),H2,a1,c1,a2,c2,a3,c3,aq.trans aW,rfl,⟨RI.mono L4 aW,RI.mono Ip aW,RS.nil H2 7 none 0,Pa⟩,hs.out⟩)))
set_option maxHeartbeats 2000000 in
theorem tX{w:World}{x:Ev}{n:Int}{s:Srv}{a c cmp:Value}{cs:List Cmp}(hs:St H w (.blk b (shC n fl s a b' c d vc false cmp tap dn vd)::σ))(hx:EvM H x)(hn:DC x)(hc:RCm H cmp cs)(hl:cs.length≤100):
  TN 215 [Pt b,x.agg] w fun u w'=>∃H1 a1 c1 a2 c2 a3 c3,HLe H H1∧u= .bool true∧
   SvM H1 ⟨x.sp,[],cs⟩ (.slice a1 x.sp.st.length c1) (.slice a2 x.sp.wa.length c2) (.slice none 0 0) (.slice a3 cs.length c3)∧St H1 w' (.blk b (shC n x.num ⟨x.sp,[],cs⟩ (.slice a1 x.sp.st.length c1) (.slice a2 x.sp.wa.length c2) (.slice none 0 0) (.slice a3 cs.length c3) vc true cmp tap dn vd)::σ):=by
 refine Cl.o func215 ntmps215 ag2 ?_;refine .af (.bx hs fun b3 w hs=>?_);refine .zn zg (.seq (.af (.z zm (.z znc (.z (zfa ef) (.y hs (zld ml) (.nil (.cF (.skip (nT (.seq (.draw mix rfl hs fun w hs=>?_))))))))))));refine .zw 0 rfl zm ?_;refine .z 1 rfl zm ?_;refine .z 2 rfl zm ?_;refine .z 3 rfl (zfa dx) ?_;refine .y 4 rfl hs ai ?_;refine .z 5 rfl zm ?_;refine .ys 6 rfl hs [_,_,_,_,_,_,_,_,_,_,_,_,_,_,_,_,_,_,_,_,_,_,_,_,_,_,_,_,_,_,_] bR aD ?_;refine .E 7 hs ?_;refine .call call257 rfl (mf hs (.there .here) hx hn hc hl) ?_;rintro _ w ⟨H1,a1,c1,a2,c2,a3,c3,aq,rfl,uV,hs⟩;refine .go (.zw 8 rfl znc ?_);refine .z 9 rfl (zfa ef) ?_;refine .E 10 hs ?_;refine .store hs rfl rfl eA ?_;intro w hs;refine .go (.zw 11 rfl znc ?_);refine .z 12 rfl (zfa cL) ?_;refine .z 13 rfl (zfa vN) ?_;refine .E 14 hs ?_;refine .store hs rfl rfl ak ?_;intro w hs;refine .go (.zw 15 rfl znc ?_);refine .z 16 rfl (zfa cL) ?_;refine .z 17 rfl (zfa ia) ?_;refine .E 18 hs ?_;refine .aS (vs:=[_,_,_,_,_,_,_,_]) hs rfl rfl aV ?_;intro w hs;exact .go (.D hs (.af (.zn zg (.ret (Fin.bw results215 rfl ⟨H1,a1,c1,a2,c2,a3,c3,aq,rfl,uV,hs.out⟩)))))
theorem tW{w:World}{r:Rm}{s:Srv}{a b c:Value}(hs:St H w σ):TN 177 [.agg (ceC r s a b c d).toArray,I id] w fun u w'=>u=I (uY r.id id)∧St H w' σ:=by
 refine Cl.o func177 ntmps177 ag2 ?_;refine .af (.bx hs fun b2 w hs=>?_);refine .zn zg (.af (.z (zfa lV) (.z (zfa xV) (.y hs (zld ai) (.z zm (.o (.call call98 rfl (iS hs) ?_)))))));rintro _ w ⟨rfl,hs⟩;exact .zn zg (.ret (Fin.bw results177 rfl ⟨rfl,hs.out⟩))
theorem zU(a:Int):uY a a=0:=by unfold uY;rw [if_neg aj,if_neg aj]
theorem CB{w:World}(hs:St H w σ):TN 176 [.slice none 0 0,I id,.func (.func 177) #[] #[]] w fun u w'=>u= .tuple #[I 0,.bool false]∧St H w' σ:=by
 refine Cl.o func176 ntmps176 ag3 ?_;refine .af (.z zg (.zn zg (.af (.z zm (.z (cH c8) (.zn zg (.af (.z zm (.z zg (.zn zg (.seq (.block (.loop (fun _:Unit=>⟨49,[],[(10,I 0),(9,I 0),(8,I 0)]⟩) (fun _ w=>St H w σ) (fun _=>0) () bk hs.sb ?_)))))))))))));rintro _ w hs;refine .seq (.af (.z zm (.z zm (.z iG ?_))));rw [decide_eq_false aj];refine .nil (.cF (.exit (xT (xT (xB (nT (.af (.z zm (.z zm (.z zm (.z iG ?_)))))))))));rw [decide_eq_false aj];exact .z zm (.Fs 8 4 true (.z zpF (.z zg (.zn zg (.ret (Fin.oe results176 rfl rfl ⟨rfl,hs.out⟩))))))
set_option maxHeartbeats 2000000 in
theorem CA{w:World}{r:Rm}{s:Srv}{a b c:Value}(hs:St H w σ)(hm:Mem σ (.blk bc (ceC r s a b c d++sp))):
  TN 176 [.slice (some ⟨bc,0,none⟩) 1 cap,I r.id,.func (.func 177) #[] #[]] w fun u w'=>u= .tuple #[I 0,.bool true]∧St H w' σ:=by
 refine Cl.o func176 ntmps176 ag3 ?_;refine .af (.z zg (.zn zg (.af (.z zm (.z (cH c8) (.zn zg (.af (.z zm (.z zg (.zn zg (.seq (.block (.loop (fun j:Nat=>⟨49,[],[(10,I (j:Int)),(9,I 0),(8,I 1),(2,.func (.func 177) #[] #[]),(1,I r.id),(0,.slice (some ⟨bc,0,none⟩) 1 cap)]⟩) (fun j w=>j≤1∧St H w σ) (fun j=>j) 1 bk ⟨Nat.le_refl 1,hs.sb⟩ ?_)))))))))))));rintro j w ⟨hj,hs⟩;refine .seq (.af (.z zm (.z zm (.zn iG (.cu rfl (fun kq=>?_) (fun kq=>?_))))))
 ·refine .skip (nT (.block (.af (.z zm (.z zm ?_)))));obtain rfl:j=1:=by omega
  refine .z cP (.q hs (xk rfl aF dP ⟨aj,aj⟩) (.q hs (MG rfl rfl) ?_));rw [show ((0:Int)+((1:Nat):Int))/2=0 by decide];refine .q hs (xl rfl dP aF ⟨aj,aj⟩) (.zn zg (.af (.z zm (.z zm (.z zm (.z (tk (j:=0) c8 kF) (.q hs (gw (vs:=ceC r s a b c d) rfl isAgg149 kF (hm:=hm) (hv:=rfl)) (.z zm (.o (.nm (first:=[]) (cap:=[]) rfl rfl call177 (tW hs) ?_))))))))));rintro _ w ⟨rfl,hs⟩;rw [zU];refine .z iG ?_;rw [decide_eq_false aj];exact .nil (.cF (.region (.z zm (.zn zg (nB (nT ⟨0,bk,⟨aj,hs.sb⟩,aj⟩))))))
 ·refine .exit (xT (xT (xB (nT (.af (.z zm (.z zm (.z zm (.z iG ?_)))))))));rw [decide_eq_true aj];refine .z zm (.T ?_);refine .z zm (.T (.z zm (.T (.z zm (.T (.z (tk (j:=0) c8 kF) (.T (.q hs (gw (vs:=ceC r s a b c d) rfl isAgg149 kF (hm:=hm) (hv:=rfl)) (.T (.z zm (.T (.o (.nm (first:=[]) (cap:=[]) rfl rfl call177 (tW hs) ?_)))))))))))));rintro _ w ⟨rfl,hs⟩;rw [zU];refine .T (.z gQ ?_);rw [decide_eq_true rfl];exact .z zpT (.z zg (.zn zg (.ret (Fin.oe results176 rfl rfl ⟨rfl,hs.out⟩))))
theorem xz{w:World}{n:Int}{s:Srv}{a c cmp:Value}(hs:St H w σ)(hm:Mem σ (.blk b (shC n fl s a b' c d (.slice none 0 0) th cmp tap dn vd))):
  TN 99 [Pt b,I id] w fun u w'=>u= .tuple #[I 0,.bool false]∧St H w' σ:=by
 refine Cl.o func99 ntmps99 ag2 ?_;refine .af (.z zg (.zn zg (.af (.z zm (.z znc (.z (zfa cL) (.z (zfa eW) (.q hs (eN rfl isAgg56 (hm:=hm) (hv:=rfl)) (.z zm (.o (.call call176 rfl (CB hs) ?_)))))))))));rintro _ w ⟨rfl,hs⟩;exact .z zex (.z zex (.z zg (.zn zg (.ret (Fin.oe results99 rfl rfl ⟨rfl,hs.out⟩)))))
theorem xy{w:World}{n:Int}{r:Rm}{s u:Srv}{a c cmp a2:Value}(hs:St H w σ)(hm:Mem σ (.blk b (shC n fl s a b' c d (.slice (some ⟨bc,0,none⟩) 1 cap) th cmp tap dn vd)))(Jt:Mem σ (.blk bc (ceC r u a2 b2 c2 d2++sp))):
  TN 99 [Pt b,I r.id] w fun u w'=>u= .tuple #[I 0,.bool true]∧St H w' σ:=by
 refine Cl.o func99 ntmps99 ag2 ?_;refine .af (.z zg (.zn zg (.af (.z zm (.z znc (.z (zfa cL) (.z (zfa eW) (.q hs (eN rfl isAgg56 (hm:=hm) (hv:=rfl)) (.z zm (.o (.call call176 rfl (CA hs Jt) ?_)))))))))));rintro _ w ⟨rfl,hs⟩;exact .z zex (.z zex (.z zg (.zn zg (.ret (Fin.oe results99 rfl rfl ⟨rfl,hs.out⟩)))))
theorem zb{w:World}{n:Int}{s:Srv}{a c cmp:Value}(hs:St H w σ)(hm:Mem σ (.blk b (shC n fl s a b' c d vc th cmp tap dn vd))):
  TN 50 [Pt b,I s.sp.id] w fun u w'=>u= .pointer (some ⟨b,2,none⟩)∧St H w' σ:=by
 refine Cl.o func50 ntmps50 ag2 ?_;refine .af (.zn zg (.seq (.af (.z zm (.z znc (.z (zfa cL) (.z (zfa ia) (.z (zfa aU) (.z (zfa di) (.q hs (eN rfl ai (hm:=hm) (hv:=rfl)) (.z zm (.z gQ ?_))))))))))));rw [decide_eq_true rfl];exact .nil (.cT (.af (.z zm (.z znc (.z (zfa cL) (.z (zfa ia) (.zn zg (.ret (rT (Fin.bw results50 rfl ⟨rfl,hs.out⟩))))))))))
theorem rX{w:World}{n:Int}{r:Rm}{s u:Srv}{a c cmp a2:Value}(hs:St H w σ)(hm:Mem σ (.blk b (shC n fl s a b' c d (.slice (some ⟨bc,0,none⟩) 1 cap) th cmp tap dn vd)))(Jt:Mem σ (.blk bc (ceC r u a2 b2 c2 d2++sp)))(eD:s.sp.id≠r.id):
  TN 50 [Pt b,I r.id] w fun u w'=>u= .pointer (some ⟨bc,6,none⟩)∧St H w' σ:=by
 refine Cl.o func50 ntmps50 ag2 ?_;refine .af (.zn zg (.seq (.af (.z zm (.z znc (.z (zfa cL) (.z (zfa ia) (.z (zfa aU) (.z (zfa di) (.q hs (eN rfl ai (hm:=hm) (hv:=rfl)) (.z zm (.z gQ ?_))))))))))));rw [decide_eq_false eD];refine .nil (.cF (.skip (nT (.af (.z zm (.z zm (.o (.call call99 rfl (xy hs hm Jt) ?_))))))));rintro _ w ⟨rfl,hs⟩;exact .z zm (.z zex (.z zex (.z zg (.zn zg (.seq (.af (.z zm (.zn iW (.cF (.skip (nT (.af (.z zm (.z znc (.z (zfa cL) (.z (zfa eW) (.q hs (eN rfl isAgg56 (hm:=hm) (hv:=rfl)) (.z zm (.z (tk (j:=0) c8 kF) (.z (zfa lU) (.zn zg (.ret (Fin.bw results50 rfl ⟨rfl,hs.out⟩)))))))))))))))))))))))
set_option maxHeartbeats 2000000 in
theorem zq{w:World}{c:List Value}(hs:St H w (.blk bn c::σ))(hc:c.length=14)(hv:∀v∈c,v.oneCell'=true):
  TN 258 [.slice none 0 0,I 0,.slice (some ⟨bn,0,none⟩) 1 1] w fun u w'=>∃bc cap sp,u= .slice (some ⟨bc,0,none⟩) 1 cap∧14+sp.length=cap*14∧St H w' (.blk bc (c++sp)::σ):=by
 refine Cl.o func258 ntmps258 ag3 ?_;refine .af (.zn zg (.af (.z zm (.z zm (.q hs (xi rfl rfl c8 kF ⟨aj,aj⟩) (.nil (.af (.z zm (.z (cH c8) (.zn zg (.seq (.af (.z zm (.z gQ ?_))))))))))))));rw [decide_eq_false aj];refine .nil (.cF (.skip (nT (.af (.z zm (.z (cH c8) (.zn zg (.seq (.af (.z zm (.z zm (.z gQ ?_))))))))))));rw [decide_eq_true (show (0:Int)=((0:Nat):Int) from rfl)];refine .nil (.cT (.af (.z zm (.z zm (.o (.append (xs:=[]) (ys:=c) hs.nul lK rfl rfl (.nil 14 none) (.own (.there .here) bj (by rw [hc])) hv (fun l' h=>by simp at h;omega) ?_))))));intro v25 en25 w hO hs;rw [List.nil_append] at hO;refine .zn zg (.ret (rT (Fin.bw results258 rfl ?_)));have hf:[c].flatten=c:=by simp
 rw [←hf] at hO;obtain ⟨bc,cap,sp,rfl,rfl,-⟩:=hO.L9 (m:=14) (fun x hx=>by rw [List.mem_singleton] at hx;rw [hx];exact hc) aj bj;rw [hf] at hs hO;have mX:14+sp.length=cap*14:=by
  rcases hO with ⟨_,_,_,h3⟩|⟨b',len,sL,SH,h1,h2,h3,h4,h5⟩
  ·cases h3
  ·simp only [Value.slice.injEq] at h1;obtain ⟨-,-,rfl⟩:=h1;simp only [Ent.blk.injEq] at h2;rw [←h2.2,List.length_append,hc] at h4;exact h4
 exact ⟨bc,cap,sp,rfl,mX,hs.sb⟩
set_option maxHeartbeats 4000000 in
theorem vF{w:World}{x:Ev}{n:Int}{s:Srv}{a c cmp:Value}{cs:List Cmp}(hs:St H w (.blk b (shC n fl s a b' c d (.slice none 0 0) th cmp tap dn vd)::σ))(hx:EvM H x)(hn:DC x)(eD:s.sp.id≠x.sp.id)(hc:RCm H cmp cs)(hl:cs.length≤100):
  TN 216 [Pt b,x.agg] w fun u w'=>∃H1 a1 c1 a2 c2 a3 c3 bc cap sp,HLe H H1∧u= .bool true∧14+sp.length=cap*14∧
   SvM H1 ⟨x.sp,[],cs⟩ (.slice a1 x.sp.st.length c1) (.slice a2 x.sp.wa.length c2) (.slice none 0 0) (.slice a3 cs.length c3)∧
   St H1 w' (.blk b (shC n fl s a b' c d (.slice (some ⟨bc,0,none⟩) 1 cap) th cmp tap dn vd):: .blk bc (ceC ⟨x.sp.id,x.num,x.opn,x.crew⟩ ⟨x.sp,[],cs⟩ (.slice a1 x.sp.st.length c1) (.slice a2 x.sp.wa.length c2) (.slice none 0 0) (.slice a3 cs.length c3)++sp)::σ):=by
 refine Cl.o func216 ntmps216 ag2 ?_;refine .af (.bx hs fun b3 w hs=>?_);refine .zn zg (.af (.z zm (.z (zfa cM) (.z (zfa di) (.y hs (zld ai) (.o (.call call99 rfl (xz hs (.there .here)) ?_)))))));rintro _ w ⟨rfl,hs⟩;refine .z zm (.z zex (.z zex (.z zg (.zn zg (.seq (.seq (.draw mix rfl hs fun w hs=>?_)))))));refine .zw 0 rfl zm ?_;refine .z 1 rfl zm ?_;refine .z 2 rfl zm ?_;refine .z 3 rfl znc ?_;refine .z 4 rfl (zfa cL) ?_;refine .z 5 rfl (zfa ia) ?_;refine .z 6 rfl (zfa aU) ?_;refine .z 7 rfl (zfa di) ?_;refine .y 8 rfl hs ai ?_;refine .z 9 rfl (zfa cM) ?_;refine .zw 10 rfl (zfa di) ?_;refine .y 11 rfl hs ai ?_;refine .z 12 rfl gQ ?_;rw [decide_eq_false eD];refine .zw 13 rfl zpF ?_;refine .z 14 rfl zm ?_;refine .z 15 rfl zm ?_;refine .z 16 rfl znc ?_;refine .z 17 rfl (zfa cL) ?_;refine .z 18 rfl (zfa eW) ?_;refine .y 19 rfl hs isAgg56 ?_;refine .z 20 rfl (cH c8) ?_;refine .z 21 rfl gQ ?_;rw [decide_eq_false aj];refine .zw 22 rfl zpF ?_;refine .D hs ?_;refine (.cF (.skip (nT (.seq (.draw mix rfl hs fun w hs=>?_)))));refine .zw 0 rfl zm ?_;refine .z 1 rfl zm ?_;refine .z 2 rfl znc ?_;refine .z 3 rfl (zfa cL) ?_;refine .z 4 rfl (zfa eW) ?_;refine .y 5 rfl hs isAgg56 ?_;refine .z 6 rfl zm ?_;refine .z 7 rfl (zfa cM) ?_;refine .z 8 rfl (zfa di) ?_;refine .y 9 rfl hs ai ?_;refine .zw 10 rfl (zfa dx) ?_;refine .y 11 rfl hs ai ?_;refine .z 12 rfl (zfa fS) ?_;refine .y 13 rfl hs ai ?_;refine .z 14 rfl (zfa fR) ?_;refine .y 15 rfl hs ai ?_;refine .z 16 rfl (zbd [_,_,_,_,_,_] zW) ?_;refine .z 17 rfl zm ?_;refine .ys 18 rfl hs [_,_,_,_,_,_,_,_,_,_,_,_,_,_,_,_,_,_,_,_,_,_,_,_,_,_,_,_,_,_,_] bR aD ?_;refine .E 19 hs ?_;refine .call call257 rfl (mf hs (.there .here) hx hn hc hl) ?_;rintro _ w ⟨H1,a1,c1,a2,c2,a3,c3,aq,rfl,uV,hs⟩;refine .go (.zw 20 rfl (zbd [I x.sp.id,I x.num,I x.opn,I x.crew,I 0,I 0,I x.sp.id,I x.sp.src,.slice a1 x.sp.st.length c1,.slice a2 x.sp.wa.length c2,I x.sp.al,I x.sp.up,.slice none 0 0,.slice a3 cs.length c3] zY rfl az) (.E 21 hs ?_));refine .buildSlice (cells:=ceC ⟨x.sp.id,x.num,x.opn,x.crew⟩ ⟨x.sp,[],cs⟩ (.slice a1 x.sp.st.length c1) (.slice a2 x.sp.wa.length c2) (.slice none 0 0) (.slice a3 cs.length c3)) hs rL rfl az ?_;intro b59 w hs;refine .go (.E 22 hs ?_);refine .call call258 rfl (zq hs rfl (by simp [ceC,Value.oneCell'])) ?_;rintro _ w ⟨bc,cap,sp,rfl,mX,hs⟩;refine .go (.zw 23 rfl znc ?_);refine .z 24 rfl (zfa cL) ?_;refine .z 25 rfl (zfa eW) ?_;refine .E 26 hs ?_;refine .store hs rfl rfl sizeOf56 ?_;intro w hs;exact .go (.D hs (.af (.zn zg (.ret (Fin.bw results216 rfl ⟨H1,a1,c1,a2,c2,a3,c3,bc,cap,sp,aq,rfl,mX,uV,hs.sub (.cons (.there (.there .here)) (.cons .here (Sub.weaken (Sub.refl _))))⟩)))))
end Go.Proofs.YtlgfjghdgbhkhaaGreat
