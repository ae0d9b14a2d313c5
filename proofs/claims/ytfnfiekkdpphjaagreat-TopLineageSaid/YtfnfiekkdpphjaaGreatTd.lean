/-
  Texts of these claims, joined: Zi Zj Zk Zl Zm Zn Zo Zp Zr Zx Zy Zz Na Nf Ng Nv Od Ua Ub Uc Ud Ue Uf Ug Sa Sc Sb Sd Se Sf Sg Sh.
-/
import Derived.Test.YtfnfiekkdpphjaaGreatTc
namespace Go.Proofs.YtfnfiekkdpphjaaGreat
open Go.MW Tryz
variable{H:bp}{σ:List Ent}{a0 a1 a2 m a most hi lo f e z1 z2 z3 known fl id number day:Int}{ls:List Lim}{g b k b1 bf bt bl cl i bm bc bn:Nat}{cap sp:List Value}{s:Spc}{xs lf ws l X Y pk days:List Int}{en:Ent}{ts:List TD}{vl vt vd vp vw v1 v2 vr vc d vs v5 v4 b' tap dn b2 c2 d2 ve:Value}{t:TD}{rows:List (List Int)}{fG:List F5}{fL:List F4}{th:Bool}
theorem fY{w:World}(hs:St H w σ):aaq 139 [I a0,I a1,I a2] w fun v w'=>v= .bool (decide (a1≤a0∧a0≤a2))∧St H w' σ:=by
 refine Cl.o func139 ntmps139 ag3 ?_;refine .af (.zn zg (.af (.z zm (.z zm (.z zC (.z zm (.jK (t':=10) rfl (fun nL=>?_) (fun nL=>?_))))))))
 ·exact .T (.z zm (.T (.z zm (.T (.z ql (.z zpT (.zn zg (.ret (Fin.aW results139 rfl ⟨by simp [*],hs.out⟩)))))))))
 ·exact .Fs 3 3 true (.z zpF (.zn zg (.ret (Fin.aW results139 rfl ⟨by simp [*],hs.out⟩))))
theorem PY(h:fV s):gX 9 100000 s.wa:=⟨h.wa.two,by have:=h.wa.many;omega,h.wa.low,by have:=h.wa.high;omega,h.wa.rise⟩
theorem nF{w:World}{r:Rdg}{vst vwa:Value}(hs:St H w σ)(h1:RI H vst s.st)(h2:RI H vwa s.wa):
  aaq 79 [.agg #[I s.id,I s.src,vst,vwa,I s.al,I s.up],.agg #[I r.src,I r.st,I r.wa,I r.val,I r.tol,I r.tape,I r.day]] w fun v w'=>∃b:Bool,v= .bool b∧(b=true↔k8 s r)∧St H w' σ:=by
 obtain ⟨ast,cst,rfl⟩:=RI.shape h1;obtain ⟨awa,cwa,rfl⟩:=RI.shape h2;have l1:=(RI.len h1).2.2;have l2:=(RI.len h2).2.2;refine Cl.o func79 ntmps79 ag2 ?_;refine .af (.bx hs fun b2 w hs=>?_);refine .bx hs fun b3 w hs=>?_
 refine .zn zg (.af (.z (zfa eE) (.y hs (zld aj) (.o (.call Y9 rfl (fY hs) ?_)))));rintro _ w ⟨rfl,hs⟩;refine .z zm (.bif (t':=8) rfl (fun IX=>?_) (fun IX=>?_))
 ·refine .T ?_;refine .z (zfa fi) (.T (.y hs (zld aj) (.T (.z (zfa bh) (.T (.y hs (zld aC) (.T (.z (bT ai) (.T (.z jj (.T (.o (.call Y9 rfl (fY hs) ?_)))))))))))));rintro _ w ⟨rfl,hs⟩;refine .z zpT (.z zm (.bif (t':=17) rfl (fun FJ=>?_) (fun FJ=>?_)))
  ·refine .T ?_;refine .z (zfa fh) (.T (.y hs (zld aj) (.T (.z (zfa aV) (.T (.y hs (zld aC) (.T (.z (bT ai) (.T (.z jj (.T (.o (.call Y9 rfl (fY hs) ?_)))))))))))));rintro _ w ⟨rfl,hs⟩;refine .z zpT (.z zm (.bif (t':=26) rfl (fun BU=>?_) (fun BU=>?_)))
   ·refine .T (.z (zfa cI) (.T (.y hs (zld aj) (.T (.o (.call Y9 rfl (fY hs) ?_))))));rintro _ w ⟨rfl,hs⟩;refine .z zpT (.z zm (.bif (t':=31) rfl (fun ta=>?_) (fun ta=>?_)))
    ·refine .T (.z (zfa dW) (.T (.y hs (zld aj) (.T (.z (zfa cI) (.T (.y hs (zld aj) (.T ?_))))))));have ht:0≤r.tol∧r.tol≤1000:=by simp_all
     refine .z jj (.T (.o (.call Y9 rfl (fY hs) ?_)));rintro _ w ⟨rfl,hs⟩;refine .z zpT (.z zm (.bif (t':=39) rfl (fun QY=>?_) (fun QY=>?_)))
     ·refine .T (.z (zfa dV) (.T (.y hs (zld aj) (.T (.o (.call Y9 rfl (fY hs) ?_))))));rintro _ w ⟨rfl,hs⟩;refine .z zpT (.z zm (.bif (t':=44) rfl (fun Ic=>?_) (fun Ic=>?_)))
      ·refine .T (.z (zfa dI) (.T (.y hs (zld aj) (.T (.o (.call Y9 rfl (fY hs) ?_))))));rintro _ w ⟨rfl,hs⟩;refine .z zpT (.zn zg (.ret (Fin.aW IP rfl ?_)));first
       |exact ⟨false,rfl,⟨fun h=>(by cases h),fun h=>(by obtain ⟨g1,g2,g3,g4,g5,g6,g7⟩:=h;simp_all;done)⟩,hs.out⟩
       |exact ⟨_,rfl,⟨fun h=>⟨by simp_all,by simp_all,by simp_all,by simp_all,by simp_all,by simp_all,by simpa using h⟩,fun h=>by simpa using h.day⟩,hs.out⟩
      ·refine .Fs 3 39 true (.z zpF (.zn zg (.ret (Fin.aW IP rfl ?_))));first
       |exact ⟨false,rfl,⟨fun h=>(by cases h),fun h=>(by obtain ⟨g1,g2,g3,g4,g5,g6,g7⟩:=h;simp_all;done)⟩,hs.out⟩
       |exact ⟨_,rfl,⟨fun h=>⟨by simp_all,by simp_all,by simp_all,by simp_all,by simp_all,by simp_all,by simpa using h⟩,fun h=>by simpa using h.day⟩,hs.out⟩
     ·refine .Fs 3 34 true (.z zpF (.z zm (.Fs 3 39 true (.z zpF (.zn zg (.ret (Fin.aW IP rfl ?_)))))));first
      |exact ⟨false,rfl,⟨fun h=>(by cases h),fun h=>(by obtain ⟨g1,g2,g3,g4,g5,g6,g7⟩:=h;simp_all;done)⟩,hs.out⟩
      |exact ⟨_,rfl,⟨fun h=>⟨by simp_all,by simp_all,by simp_all,by simp_all,by simp_all,by simp_all,by simpa using h⟩,fun h=>by simpa using h.day⟩,hs.out⟩
    ·refine .Fs 6 26 true (.z zpF (.z zm (.Fs 3 34 true (.z zpF (.z zm (.Fs 3 39 true (.z zpF (.zn zg (.ret (Fin.aW IP rfl ?_))))))))));first
     |exact ⟨false,rfl,⟨fun h=>(by cases h),fun h=>(by obtain ⟨g1,g2,g3,g4,g5,g6,g7⟩:=h;simp_all;done)⟩,hs.out⟩
     |exact ⟨_,rfl,⟨fun h=>⟨by simp_all,by simp_all,by simp_all,by simp_all,by simp_all,by simp_all,by simpa using h⟩,fun h=>by simpa using h.day⟩,hs.out⟩
   ·refine .Fs 3 21 true (.z zpF (.z zm (.Fs 6 26 true (.z zpF (.z zm (.Fs 3 34 true (.z zpF (.z zm (.Fs 3 39 true (.z zpF (.zn zg (.ret (Fin.aW IP rfl ?_)))))))))))));first
    |exact ⟨false,rfl,⟨fun h=>(by cases h),fun h=>(by obtain ⟨g1,g2,g3,g4,g5,g6,g7⟩:=h;simp_all;done)⟩,hs.out⟩
    |exact ⟨_,rfl,⟨fun h=>⟨by simp_all,by simp_all,by simp_all,by simp_all,by simp_all,by simp_all,by simpa using h⟩,fun h=>by simpa using h.day⟩,hs.out⟩
  ·refine .Fs 7 12 true (.z zpF (.z zm (.Fs 3 21 true (.z zpF (.z zm (.Fs 6 26 true (.z zpF (.z zm (.Fs 3 34 true (.z zpF (.z zm (.Fs 3 39 true (.z zpF (.zn zg (.ret (Fin.aW IP rfl ?_))))))))))))))));first
   |exact ⟨false,rfl,⟨fun h=>(by cases h),fun h=>(by obtain ⟨g1,g2,g3,g4,g5,g6,g7⟩:=h;simp_all;done)⟩,hs.out⟩
   |exact ⟨_,rfl,⟨fun h=>⟨by simp_all,by simp_all,by simp_all,by simp_all,by simp_all,by simp_all,by simpa using h⟩,fun h=>by simpa using h.day⟩,hs.out⟩
 ·refine .Fs 7 3 true (.z zpF (.z zm (.Fs 7 12 true (.z zpF (.z zm (.Fs 3 21 true (.z zpF (.z zm (.Fs 6 26 true (.z zpF (.z zm (.Fs 3 34 true (.z zpF (.z zm (.Fs 3 39 true (.z zpF (.zn zg (.ret (Fin.aW IP rfl ?_)))))))))))))))))));first
  |exact ⟨false,rfl,⟨fun h=>(by cases h),fun h=>(by obtain ⟨g1,g2,g3,g4,g5,g6,g7⟩:=h;simp_all;done)⟩,hs.out⟩
  |exact ⟨_,rfl,⟨fun h=>⟨by simp_all,by simp_all,by simp_all,by simp_all,by simp_all,by simp_all,by simpa using h⟩,fun h=>by simpa using h.day⟩,hs.out⟩
theorem gR{w:World}{vst vwa:Value}(hs:St H w σ)(h1:RI H vst s.st)(h2:RI H vwa s.wa)(hb:s.st.length≤1000∧s.wa.length≤1000):
  aaq 34 [.agg #[I s.id,I s.src,vst,vwa,I s.al,I s.up]] w fun v w'=>v=I (s.many:Int)∧St H w' σ:=by
 obtain ⟨ast,cst,rfl⟩:=RI.shape h1;obtain ⟨awa,cwa,rfl⟩:=RI.shape h2;have hm:=pv (a:=(s.st.length:Int)) (b:=(s.wa.length:Int)) (A:=1000) (B:=1000) ak ak;refine Cl.o func34 ntmps34 ag1 ?_;refine .af (.bx hs fun b1 w hs=>?_);exact .zn zg (.af (.z (zfa bh) (.y hs (zld aC) (.z (bT ai) (.z (zfa aV) (.y hs (zld aC) (.z (bT ai) (.z oq (.zn zg (.ret (Fin.aW results34 rfl ⟨by unfold Spc.many;rw [Int.natCast_mul],hs.out⟩)))))))))))
theorem ed{w:World}{vst vwa:Value}{b:Int}(hs:St H w σ)(h2:RI H vwa s.wa)(hb:s.wa.length≤1000)(ha: -1000≤a∧a≤1000)(hb': -1000≤b∧b≤1000):
  aaq 33 [.agg #[I s.id,I s.src,vst,vwa,I s.al,I s.up],I a,I b] w fun v w'=>v=I (1+a*s.wa.length+b)∧St H w' σ:=by
 obtain ⟨awa,cwa,rfl⟩:=RI.shape h2;have hm:=pv (a:=a) (b:=(s.wa.length:Int)) (A:=1000) (B:=1000) ak ak;refine Cl.o func33 ntmps33 ag3 ?_;refine .af (.bx hs fun b3 w hs=>?_);exact .zn zg (.af (.z zm (.z (zfa aV) (.y hs (zld aC) (.z (bT ai) (.z oq (.z cC (.z zm (.z cC (.zn zg (.ret (Fin.aW results33 rfl ⟨rfl,hs.out⟩))))))))))))
theorem ni{w:World}{b:Int}(hs:St H w σ)(ha:0≤a∧a≤100000)(hb:0≤b∧b≤100000):
  aaq 266 [I a,I b] w fun v w'=>v=I (kT a b)∧St H w' σ:=by
 have hm:=pv (a:=a) (b:=b) (A:=100000) (B:=100000) ak ak;have h0:=Int.mul_nonneg ha.1 hb.1;have RV:0≤(a*b+999).tdiv 1000:=Int.tdiv_nonneg ak ak;have OK:(a*b+999).tdiv 1000≤a*b+999:=by rw [Int.tdiv_eq_ediv_of_nonneg ak];omega
 refine Cl.o func266 ntmps266 ag2 ?_;exact .af (.zn zg (.af (.z zm (.z zm (.z oq (.z cC (.q hs (Gh rfl rfl ak ak) (.z LW (.zn zg (.ret (Fin.aW results266 rfl ⟨rfl,hs⟩)))))))))))
theorem lR{w:World}{b s:Int}(hs:St H w σ):
  aaq 265 [I a,I b,I m,I s] w fun v w'=>∃b0,v= .slice (some ⟨b0,0,none⟩) 2 2∧St H w' (.blk b0 (gO (two a b m m s))::σ):=by
 refine Cl.o func265 ntmps265 ag4 ?_;refine .af (.zn zg (.af (.z zm (.z zm (.z zm (.z zm (.z (zbd [_,_,_,_] dJ) (.z zm (.z zm (.z zm (.z zm (.z (zbd [_,_,_,_] dJ) (.o (.buildSlice (cells:=gO (two a b m m s)) hs eC rfl aF fun Cj w hs=>?_))))))))))))));exact .zn zg (.ret (Fin.aW results265 rfl ⟨Cj,rfl,hs⟩))
theorem xW{w:World}{c:Cmp}(hs:St H w σ)(Vu: -1000000≤c.lo∧c.lo≤1000000):
  aaq 267 [.agg #[I c.src,I c.tape,I c.fr,I c.to,I c.lo,I c.hi],.agg #[I t.tape,I t.day],I f] w fun v w'=>∃en,bE 4 v (gO (mC c t f)) en∧St H w' (en::σ):=by
 refine Cl.o func267 ntmps267 ag3 ?_;refine .af (.bx hs fun b3 w hs=>?_);refine .bx hs fun b4 w hs=>?_
 refine .zn zg (.seq (.af (.z (zfa iW) (.y hs (zld aj) (.z (zfa oB) (.y hs (zld aj) (.z gv (.z zm (.G2 (t':=12) rfl (fun yR=>?_) (fun yR=>?_))))))))))
 ·exact .Fs 5 5 false (.z zpT (.z zm (.Fs 5 12 false (.zn zpT (.cT (.af (.zn zg (.ret (rT (Fin.aW results267 rfl ⟨.nul,by unfold mC;rw [if_neg ak];exact .nil 4 none,hs.tail.tail.nul⟩))))))))))
 ·refine .T (.z (zfa kW) (.T (.y hs (zld aj) (.T (.z (zfa gB) (.T (.y hs (zld aj) (.T (.z fT (.z zpF (.z zm (.jK (t':=19) rfl (fun KI=>?_) (fun KI=>?_)))))))))))))
  ·exact .Fs 5 12 false (.zn zpT (.cT (.af (.zn zg (.ret (rT (Fin.aW results267 rfl ⟨.nul,by unfold mC;rw [if_neg ak];exact .nil 4 none,hs.tail.tail.nul⟩)))))))
  ·refine .T (.z (zfa kW) (.T (.y hs (zld aj) (.T (.z (zfa fk) (.T (.y hs (zld aj) (.T (.z nE (.zn zpF (.bQ rfl (fun jq=>?_) (fun jq=>?_))))))))))))
   ·exact .af (.zn zg (.ret (rT (Fin.aW results267 rfl ⟨.nul,by unfold mC;rw [if_neg ak];exact .nil 4 none,hs.tail.tail.nul⟩))))
   ·refine .skip (nT (.af (.z zm (.z (zfa gA) (.y hs (zld aj) (.z Ob (.z (zfa fm) (.y hs (zld aj) (.z (zbd [_,_,_,_] dJ) (.z zm (.z (zfa fj) (.y hs (zld aj) (.z (zfa fm) (.y hs (zld aj) (.z (zbd [_,_,_,_] dJ) (.o (.buildSlice (cells:=gO (two 0 f (-c.lo) c.hi c.src)) hs eC rfl aF fun YB w hs=>?_)))))))))))))))));exact .zn zg (.ret (Fin.aW results267 rfl ⟨_,by unfold mC;rw [if_pos ak];exact .full (by simp [two,eY]),hs.sb⟩))
theorem kQ{w:World}{v:Value}{xs:List TD}(hs:St H w σ)(hr:RTd H v xs)(hl:xs.length≤1000000):
  aaq 35 [v,.agg #[I t.tape,I t.day]] w fun u w'=>u=I (lz xs t)∧St H w' σ:=by
 obtain ⟨a,c,rfl⟩:=RTd.shape hr;refine Cl.o func35 ntmps35 ag2 ?_;refine .af (.bx hs fun b3 w hs=>?_);refine .zn zg (.seq (.af (.zn zg (.block ?_))));refine .loop (fun k:Nat=>⟨19,[],[(5,I (k:Int)),(3,Pt b3),(0,.slice a xs.length c)]⟩)
  (fun k w=>k≤xs.length∧(∀j<k,∀y,xs[j]? =some y→¬y=t)∧St H w (.blk b3 [I t.tape,I t.day]::σ)) (fun k=>xs.length - k) 0 (.dw rfl aU bg)
  ⟨Nat.zero_le _,fun j hj=>by omega,hs⟩ ?_
 rintro k w ⟨hk,ew,hs⟩;refine .seq (.af (.z zm (.z zm (.z (bT bB) (.zn fT (.bQ rfl (fun sr=>?_) (fun sr=>?_)))))))
 ·refine .skip (nT (.seq (.block (.seq (.draw mix rfl hs fun w hs=>?_)))));refine .zw 0 rfl zm ?_;refine .z 1 rfl zm ?_;obtain ⟨x,hx⟩:=nth (l:=xs) (k:=k) ak;refine .ixX (enc:=TD.c) (i:=2) hs rfl aF .none hr rfl rfl bB bU hx eu ?_;intro tZ o14 fq;refine .r (i:=3) hs rfl aF .none (bj (vs:=x.c) rfl iq bU fq) ?_;refine .zv 4 rfl hs (sW [_,_] iq bU) ?_;refine .z 5 rfl (sI xq xr lM (fun f hf=>by
   simp only [List.mem_cons,List.not_mem_nil,or_false] at hf
   rcases hf with rfl|rfl<;>exact ⟨by decide,aJ,aj⟩) rfl rfl) ?_
  refine .D hs (.cond rfl (fun kS=>?_) (fun kS=>?_))
  ·refine .af (.z zm (.zn zg (.ret (rB (rT (rT (rB (rT (Fin.aW results35 rfl ?_)))))))));have e:x=t:=L7.1 (of_decide_eq_true kS);subst e;exact ⟨by rw [sz hx fun j hj h=>ew j hj _ h rfl],hs.tail⟩
  ·exact .skip (nB (nT (.region (.z zm (.z cC (.zn zg (nT ⟨k+1,.dw rfl aU bg,⟨ak,eU ew hx (fun e=>by subst e;simp at kS),hs⟩,ak⟩)))))))
 ·refine .exit (xT (xT (xB (nT (.af (.zn zg (.ret (Fin.aW results35 rfl ?_))))))));obtain rfl:k=xs.length:=by omega
  exact ⟨by rw [Bd ew],hs.tail⟩
theorem pj{w:World}{v:Value}{xs:List TD}(hs:St H w (en::σ))(hO:bE 2 v (tdc xs).flatten en)(hl:xs.length≤1000000):
  aaq 35 [v,.agg #[I t.tape,I t.day]] w fun u w'=>u=I (lz xs t)∧St H w' (en::σ):=by
 obtain ⟨a,c,rfl⟩:=hO.jx (rl xs) ak;rw [eb] at hO ⊢;refine Cl.o func35 ntmps35 ag2 ?_;refine .af (.bx hs fun b3 w hs=>?_);refine .zn zg (.seq (.af (.zn zg (.block ?_))));refine .loop (fun k:Nat=>⟨19,[],[(5,I (k:Int)),(3,Pt b3),(0,.slice a xs.length c)]⟩)
  (fun k w=>k≤xs.length∧(∀j<k,∀y,xs[j]? =some y→¬y=t)∧St H w (.blk b3 [I t.tape,I t.day]::en::σ)) (fun k=>xs.length - k) 0 (.dw rfl aU bg)
  ⟨Nat.zero_le _,fun j hj=>by omega,hs⟩ ?_
 rintro k w ⟨hk,ew,hs⟩;refine .seq (.af (.z zm (.z zm (.z (bT bB) (.zn fT (.bQ rfl (fun sr=>?_) (fun sr=>?_)))))))
 ·refine .skip (nT (.seq (.block (.seq (.draw mix rfl hs fun w hs=>?_)))));refine .zw 0 rfl zm ?_;refine .z 1 rfl zm ?_;obtain ⟨x,hx⟩:=nth (l:=xs) (k:=k) ak;obtain ⟨b,c',sp,hv,rfl,_⟩:=hO.Sd (rl xs) ak (by rw [eb];omega);rw [eb] at hv;cases hv
  refine .zw 2 rfl (wo bB bU) (.zR (i:=3) (vs:=x.c) hs rfl aF .none rfl iq bU ?_ (hv:=sK (rl xs) (Jb hx) sp));refine .zv 4 rfl hs (sW [_,_] iq bU) ?_;refine .z 5 rfl (sI xq xr lM (fun f hf=>by
   simp only [List.mem_cons,List.not_mem_nil,or_false] at hf
   rcases hf with rfl|rfl<;>exact ⟨by decide,aJ,aj⟩) rfl rfl) ?_
  refine .D hs (.cond rfl (fun kS=>?_) (fun kS=>?_))
  ·refine .af (.z zm (.zn zg (.ret (rB (rT (rT (rB (rT (Fin.aW results35 rfl ?_)))))))));have e:x=t:=L7.1 (of_decide_eq_true kS);subst e;exact ⟨by rw [sz hx fun j hj h=>ew j hj _ h rfl],hs.tail⟩
  ·exact .skip (nB (nT (.region (.z zm (.z cC (.zn zg (nT ⟨k+1,.dw rfl aU bg,⟨ak,eU ew hx (fun e=>by subst e;simp at kS),hs⟩,ak⟩)))))))
 ·refine .exit (xT (xT (xB (nT (.af (.zn zg (.ret (Fin.aW results35 rfl ?_))))))));obtain rfl:k=xs.length:=by omega
  exact ⟨by rw [Bd ew],hs.tail⟩
set_option maxHeartbeats 1000000 in
theorem iT{w:World}{rs:List Rdg}(hs:St H w σ)(hr:RRd H vr rs)(hl:rs.length≤1000000):
  aaq 36 [vr] w fun u w'=>∃H1,HLe H H1∧RTd H1 u (aO rs)∧St H1 w' σ:=by
 obtain ⟨ar,cr,rfl⟩:=RRd.shape hr;refine Cl.o func36 ntmps36 ag1 ?_;refine .af (.zn zg (.af (.zn zg (.seq (.af (.zn zg (.block ?_)))))));refine .loop (fun p:Nat×Value=>⟨32,[],[(4,I (p.1:Int)),(3,p.2),(0,.slice ar rs.length cr)]⟩)
  (fun p w=>p.1≤rs.length∧∃en,bE 2 p.2 (tdc (aO (rs.take p.1))).flatten en∧St H w (en::σ)) (fun p=>rs.length - p.1) (0,.slice none 0 0) bg
  ⟨Nat.zero_le _,_,.nil 2 none,hs.nul⟩ ?_
 rintro ⟨k,vo⟩ w ⟨hk,en,hO,hs⟩;dsimp only at hk hO ⊢;have xC:=lQ rs k ak;obtain ⟨ao,co,rfl⟩:=hO.jx (rl _) ak;rw [eb] at hO ⊢;refine .seq (.af (.z zm (.z zm (.z (bT aT) (.zn fT (.bQ rfl (fun sr=>?_) (fun sr=>?_)))))))
 ·refine .skip (nT (.seq (.block (.seq (.draw mix rfl hs fun w hs=>?_)))));refine .zw 0 rfl zm ?_;refine .z 1 rfl zm ?_;obtain ⟨r,hx⟩:=nth (l:=rs) (k:=k) ak;have DP:=ky hx;refine .ixX (enc:=Rdg.c) (i:=2) hs rfl aF .none hr rfl rfl aT br hx eu ?_;intro tZ o14 fq;have d14:cellAt H tZ (o14+5)=some (I r.tape):=fq 5 _ rfl;refine .zw 3 rfl (zfa dV) ?_;refine .y 4 rfl hs aj ?_;refine .z 5 rfl zm ?_;refine .z 6 rfl zm ?_;refine .ixX (enc:=Rdg.c) (i:=7) hs rfl aF .none hr rfl rfl aT br hx eu ?_;intro Cj o19 j9;have d19:cellAt H Cj (o19+6)=some (I r.day):=j9 6 _ rfl;refine .zw 8 rfl (zfa dI) ?_;refine .y 9 rfl hs aj ?_;refine .z 10 rfl (zbd [_,_] ik) ?_;refine .E 11 hs ?_;refine .alloc hs ue rfl ?_;intro b5 w hs;refine .go (.E 12 hs ?_);refine .aL (vs:=[_,_]) hs rfl rfl bU ?_;intro w hs;refine .go (.D hs (.af (.z zm (.y hs (zls [_,_] iq bU) (.o (.call call35 rfl (pj (t:=r.td) (hs.sb:St H w (en:: .blk b5 [I r.tape,I r.day]::σ)) hO ak) ?_))))));rintro _ w ⟨rfl,hs⟩;have LJ:=vK (l:=aO (rs.take k)) (t:=r.td);refine .zn fT (.bQ rfl (fun jo=>?_) (fun jo=>?_))
  ·refine .region (.z zm (.y hs (zls [_,_] iq bU) (.o (.buildSlice (cells:=[_,_]) hs iC rfl rfl fun UQ w hs=>?_))));refine .o (.append (ys:=r.td.c) hs eA rfl rfl hO (.own .here rfl rfl) (by simp [TD.c,Value.oneCell']) (fun l h=>by rw [a7 _ (rl _),eb] at h;omega) ?_);intro v30 en30 w gM hs;refine .zn zg (nB (nT (.region (.z zm (.z cC (.zn zg (nT ?_)))))));have hn:r.td∉aO (rs.take k):=fun hm=>by have:=LJ.2 hm;omega
   rw [←Bc,show aO (rs.take k)++[r.td]=aO (rs.take (k+1)) by rw [DP];unfold tK;rw [if_neg hn]] at gM;exact ⟨(k+1,v30),.dw rfl aU bg,⟨by dsimp only;omega,_,gM,hs.sb⟩,by dsimp only;omega⟩
  ·refine .skip (nB (nT (.region (.z zm (.z cC (.zn zg (nT ?_)))))));have hm:r.td∈aO (rs.take k):=LJ.1 ak;exact ⟨(k+1,_),.dw rfl aU bg,⟨by dsimp only;omega,en,by dsimp only;rw [DP];unfold tK;rw [if_pos hm];exact hO,hs.sb⟩,by dsimp only;omega⟩
 ·refine .exit (xT (xT (xB (nT (.af (.z zm (.zn zg (.ret (Fin.aW results36 rfl ?_)))))))));obtain rfl:k=rs.length:=by omega
  rw [List.take_length] at hO;have xC:=dq rs;obtain ⟨H2,aN,hR,hs⟩:=bE.bG (m:=2) (cs:=tdc (aO rs)) hO (rl _) ak (by rw [eb];omega) hs .here;rw [List.take_length];exact ⟨H2,aN,hR,hs⟩
theorem I2(s:Spc)(i k:Nat):1+(i:Int)*(s.wa.length:Int)+(k:Int)=(s.u i k:Int):=by
 unfold Spc.u;rw [Int.natCast_add,Int.natCast_add,Int.natCast_mul];rfl
theorem Sl(s:Spc)(i k:Nat):1+((i:Int)+1)*(s.wa.length:Int)+(k:Int)=(s.u (i+1) k:Int):=by
 rw [←I2];rfl
theorem Sk(s:Spc)(i k:Nat):1+(i:Int)*(s.wa.length:Int)+((k:Int)+1)=(s.u i (k+1):Int):=by
 rw [←I2];rfl
theorem ml{f:Nat→Nat→List Lim}(hf:∀i k,(f i k).length≤2)(i:Nat):∀k,(ns f i k).length≤2*k
 |0=>by simp [ns]
 |k+1=>by have:=ml hf i k;have:=hf i k;simp only [ns,List.length_append];omega
theorem nq{f:Nat→Nat→List Lim}(hf:∀i k,(f i k).length≤2){m n:Nat}(hm:m≤7)(hn:n≤9)(h0:0<m):(dZ f m n).length≤126:=by
 have h1:=eN hf (n:=n) h0;have:n*m≤9*7:=Nat.mul_le_mul hn hm;omega
theorem Ry(h0:0<s.st.length):dZ (alL s) s.wa.length s.st.length=dZ (alL s) s.wa.length (s.st.length - 1):=by
 obtain ⟨n,hn⟩:∃n,s.st.length=n+1:=⟨s.st.length - 1,ak⟩;have key:∀k,ns (alL s) n k=[]:=by
  intro k
  induction k with
  |zero=>rfl
  |succ k ih=>simp only [ns];rw [ih];unfold alL;rw [if_neg ak];rfl
 rw [hn,Nat.add_sub_cancel];simp only [dZ];rw [key,List.append_nil]
theorem PR(i:Nat)(h0:0<s.wa.length):ns (upL s) i s.wa.length=ns (upL s) i (s.wa.length - 1):=by
 obtain ⟨n,hn⟩:∃n,s.wa.length=n+1:=⟨s.wa.length - 1,ak⟩;have e:upL s i n=[]:=by unfold upL;rw [if_neg ak]
 rw [hn,Nat.add_sub_cancel];simp only [ns];rw [e,List.append_nil]
set_option maxHeartbeats 4000000 in
theorem wD{w:World}{s:Srv}{vst vwa:Value}(hs:St H w σ)(h1:RI H vst s.sp.st)(h2:RI H vwa s.sp.wa)(h3:RRd H vr s.rs)(h4:RCm H vc s.cs)(he:s.early):
  aaq 214 [.agg #[I s.sp.id,I s.sp.src,vst,vwa,I s.sp.al,I s.sp.up,vr,vc]] w fun u w'=>∃H1 en,HLe H H1∧bE 4 u (gO s.dU) en∧St H1 w' (en::σ):=by
 obtain ⟨ast,cst,rfl⟩:=RI.shape h1;obtain ⟨awa,cwa,rfl⟩:=RI.shape h2;obtain ⟨ar,cr,rfl⟩:=RRd.shape h3;obtain ⟨ac,cc,rfl⟩:=RCm.shape h4;obtain ⟨bw,EL,tX,OG,AU⟩:=he;have sX:=gx bw;have yJ:=bw.st.many;have W6:=bw.wa.many;have hn3:=bw.st.two;have hn4:=bw.wa.two;have ha:=nq (nX s.sp) (m:=s.sp.wa.length) (n:=s.sp.st.length) ak ak ak;have hb:=nq (sf s.sp) (m:=s.sp.wa.length) (n:=s.sp.st.length) ak ak ak;have hc:=nq (rk s.sp) (m:=s.sp.wa.length) (n:=s.sp.st.length) ak ak ak;have Nu:=bw.al;have LG:=bw.up;refine Cl.o func214 ntmps214 ag1 ?_;refine .af (.bx hs fun b1 w hs=>?_);refine .zn zg (.af (.z (zfa bq) (.y hs (zls [_,_,_,_,_,_] bC aM) (.o (.alloc hs fR rfl fun b3 w hs=>?_)))));refine .o (.aL (vs:=[_,_,_,_,_,_]) hs rfl rfl aM fun w hs=>?_);refine .nil (.af (.zn zg (.seq (.af (.zn zg (.block ?_))))));refine .loop (fun p:Nat×Value=>⟨243,[],[(5,I (p.1:Int)),(4,p.2),(3,Pt b3),(1,Pt b1)]⟩)
  (fun p w=>p.1≤s.sp.st.length∧∃en,bE 4 p.2 (gO (dZ (tz s.sp) s.sp.wa.length p.1)) en∧St H w (en:: .blk b3 [I s.sp.id,I s.sp.src,.slice ast s.sp.st.length cst,.slice awa s.sp.wa.length cwa,I s.sp.al,I s.sp.up]:: .blk b1 [I s.sp.id,I s.sp.src,.slice ast s.sp.st.length cst,.slice awa s.sp.wa.length cwa,I s.sp.al,I s.sp.up,.slice ar s.rs.length cr,.slice ac s.cs.length cc]::σ)) (fun p=>s.sp.st.length - p.1) (0,.slice none 0 0) bg
  ⟨by first|omega|exact Nat.zero_le _,_,.nil 4 none,hs.nul⟩ ?_
 rintro ⟨i,vo⟩ w ⟨hi,en,hO,hs⟩;dsimp only at hi hO ⊢;refine .seq (.af (.z zm (.z (zfa bh) (.y hs (zld aC) (.z (bT ai) (.zn fT (.bQ rfl (fun rV=>?_) (fun rV=>?_))))))))
 ·refine .skip (nT (.seq (.block (.af (.zn zg (.block ?_))))));refine .loop (fun p:Nat×Value=>⟨243,[],[(6,I (p.1:Int)),(4,p.2),(5,I (i:Int)),(3,Pt b3),(1,Pt b1)]⟩)
   (fun p w=>p.1≤s.sp.wa.length∧∃en,bE 4 p.2 (gO (dZ (tz s.sp) s.sp.wa.length i++ns (tz s.sp) i p.1)) en∧St H w (en:: .blk b3 [I s.sp.id,I s.sp.src,.slice ast s.sp.st.length cst,.slice awa s.sp.wa.length cwa,I s.sp.al,I s.sp.up]:: .blk b1 [I s.sp.id,I s.sp.src,.slice ast s.sp.st.length cst,.slice awa s.sp.wa.length cwa,I s.sp.al,I s.sp.up,.slice ar s.rs.length cr,.slice ac s.cs.length cc]::σ)) (fun p=>s.sp.wa.length - p.1) (0,vo) bg
   ⟨by first|omega|exact Nat.zero_le _,en,by show bE 4 vo (gO (_++[])) en;rw [List.append_nil];exact hO,hs⟩ ?_
  clear hO hs;rintro ⟨k,vo⟩ w ⟨hk,en,hO,hs⟩;dsimp only at hk hO ⊢;have BP:=nq (nX s.sp) (m:=s.sp.wa.length) (n:=i) ak ak ak;have LL:=ml (nX s.sp) i k;refine .seq (.af (.z zm (.z (zfa aV) (.y hs (zld aC) (.z (bT ai) (.zn fT (.bQ rfl (fun qu=>?_) (fun qu=>?_))))))))
  ·refine .skip (nT (.seq (.block (.af (.y hs (zls [_,_,_,_,_,_] bC aM) (.z zm (.z zm (.o (.call call33 rfl (ed (s:=s.sp) hs h2 ak ⟨ak,ak⟩ ⟨ak,ak⟩) ?_)))))))));rintro _ w ⟨rfl,hs⟩;rw [I2];refine .zn zg (.region (.z zm (.z zm (.z (zfa cP) (.y hs (zld aj) (.z (zbd [_,_,_,_] dJ) (.z zm (.z (zfa cP) (.y hs (zld aj) (.z (zbd [_,_,_,_] dJ) (.o (.buildSlice (cells:=gO (tz s.sp i k)) hs eC rfl aF fun VS w hs=>?_))))))))))));refine .o (.append (ys:=gO (tz s.sp i k)) hs bY rfl rfl hO (.own .here rfl rfl) (l5 _) (fun l h=>by rw [eY,List.length_append] at h;omega) ?_);intro v51 en51 w gM hs;rw [←jh,List.append_assoc] at gM;exact .zn zg (nB (nT (.region (.z zm (.z cC (.zn zg (nT ⟨(k+1,v51),.dw rfl aU bg,⟨by dsimp only;omega,_,gM,hs.sb⟩,by dsimp only;omega⟩)))))))
  ·refine .exit (xT (xT (xB (nB (nT (.region (.z zm (.z cC (.zn zg (nT ?_))))))))));obtain rfl:k=s.sp.wa.length:=by omega
   exact ⟨(i+1,_),.dw rfl aU bg,⟨by dsimp only;omega,en,hO,hs⟩,by dsimp only;omega⟩
 ·refine .exit (xT (xT (xB (nT (.seq (.af (.zn zg (.block ?_))))))));refine .loop (fun p:Nat×Value=>⟨243,[],[(8,I (p.1:Int)),(4,p.2),(3,Pt b3),(1,Pt b1)]⟩)
   (fun p w=>p.1+1≤s.sp.st.length∧∃en,bE 4 p.2 (gO (dZ (tz s.sp) s.sp.wa.length s.sp.st.length++dZ (alL s.sp) s.sp.wa.length p.1)) en∧St H w (en:: .blk b3 [I s.sp.id,I s.sp.src,.slice ast s.sp.st.length cst,.slice awa s.sp.wa.length cwa,I s.sp.al,I s.sp.up]:: .blk b1 [I s.sp.id,I s.sp.src,.slice ast s.sp.st.length cst,.slice awa s.sp.wa.length cwa,I s.sp.al,I s.sp.up,.slice ar s.rs.length cr,.slice ac s.cs.length cc]::σ)) (fun p=>s.sp.st.length - p.1) (0,vo) bg
   ⟨by first|omega|exact Nat.zero_le _,en,by show bE 4 vo (gO (_++[])) en;rw [List.append_nil,←show i=s.sp.st.length by omega];exact hO,hs⟩ ?_
  clear hO hs;rintro ⟨i,vo⟩ w ⟨hi,en,hO,hs⟩;dsimp only at hi hO ⊢;refine .seq (.af (.z zm (.z cC (.z (zfa bh) (.y hs (zld aC) (.z (bT ai) (.zn fT (.bQ rfl (fun QQ=>?_) (fun QQ=>?_)))))))))
  ·refine .skip (nT (.seq (.block (.af (.zn zg (.block ?_))))));refine .loop (fun p:Nat×Value=>⟨243,[],[(9,I (p.1:Int)),(4,p.2),(8,I (i:Int)),(3,Pt b3),(1,Pt b1)]⟩)
    (fun p w=>p.1≤s.sp.wa.length∧∃en,bE 4 p.2 (gO (dZ (tz s.sp) s.sp.wa.length s.sp.st.length++dZ (alL s.sp) s.sp.wa.length i++ns (alL s.sp) i p.1)) en∧St H w (en:: .blk b3 [I s.sp.id,I s.sp.src,.slice ast s.sp.st.length cst,.slice awa s.sp.wa.length cwa,I s.sp.al,I s.sp.up]:: .blk b1 [I s.sp.id,I s.sp.src,.slice ast s.sp.st.length cst,.slice awa s.sp.wa.length cwa,I s.sp.al,I s.sp.up,.slice ar s.rs.length cr,.slice ac s.cs.length cc]::σ)) (fun p=>s.sp.wa.length - p.1) (0,vo) bg
    ⟨by first|omega|exact Nat.zero_le _,en,by show bE 4 vo (gO (_++[])) en;rw [List.append_nil];exact hO,hs⟩ ?_
   clear hO hs;rintro ⟨k,vo⟩ w ⟨hk,en,hO,hs⟩;dsimp only at hk hO ⊢;have BP:=nq (sf s.sp) (m:=s.sp.wa.length) (n:=i) ak ak ak;have LL:=ml (sf s.sp) i k;refine .seq (.af (.z zm (.z (zfa aV) (.y hs (zld aC) (.z (bT ai) (.zn fT (.bQ rfl (fun FE=>?_) (fun FE=>?_))))))))
   ·refine .skip (nT (.seq (.block (.draw mix rfl hs fun w hs=>?_))));refine .zw 0 rfl zm ?_;refine .ys 1 rfl hs [_,_,_,_,_,_] bC aM ?_;refine .z 2 rfl zm ?_;refine .z 3 rfl zm ?_;refine .ys 5 rfl hs [_,_,_,_,_,_] bC aM ?_;refine .z 6 rfl zm ?_;refine .z 7 rfl cC ?_;refine .z 8 rfl zm ?_;refine .z 10 rfl (zfa eh) ?_;refine .z 11 rfl (zfa nS) ?_;refine .y 12 rfl hs aj ?_;refine .z 13 rfl (zfa bh) ?_;refine .y 14 rfl hs aC ?_;refine .z 15 rfl zm ?_;refine .z 16 rfl cC ?_;have QA:=bw.st.rise i ak;have RV:=bw.st.bd (i:=i) ak;have OK:=bw.st.bd (i:=i+1) ak;refine .ixX (enc:=fun x=>[I x]) (i:=17) hs rfl aF .none h1 rfl rfl ai an (ck (l:=s.sp.st) (i:=(i+1)) ak) eu ?_;intro b84 o84 QN;replace QN:=bI.one QN;refine .r (i:=18) hs rfl aF .none (aR rfl aj QN) ?_;refine .zw 19 rfl (zfa bh) ?_;refine .y 20 rfl hs aC ?_;refine .z 21 rfl zm ?_;refine .ixX (enc:=fun x=>[I x]) (i:=22) hs rfl aF .none h1 rfl rfl ai an (ck (l:=s.sp.st) (i:=i) ak) eu ?_;intro b89 o89 FC;replace FC:=bI.one FC;refine .r (i:=23) hs rfl aF .none (aR rfl aj FC) ?_;refine .zw 24 rfl jj ?_;refine .z 26 rfl (zfa cP) ?_;refine .y 27 rfl hs aj ?_;refine .E 4 hs ?_;refine .call call33 rfl (ed (s:=s.sp) hs h2 ak ⟨ak,ak⟩ ⟨ak,ak⟩) ?_;rintro _ w ⟨rfl,hs⟩;rw [I2];refine .go (.E 9 hs ?_);refine .call call33 rfl (ed (s:=s.sp) hs h2 ak ⟨ak,ak⟩ ⟨ak,ak⟩) ?_;rintro _ w ⟨rfl,hs⟩;rw [Sl];refine .go (.E 25 hs ?_);refine .call call266 rfl (ni hs ak ak) ?_;rintro _ w ⟨rfl,hs⟩;refine .go (.E 28 hs ?_);refine .call call265 rfl (lR hs) ?_;rintro _ w ⟨b95,rfl,hs⟩;rw [show two (s.sp.u i k:Int) _ _ _ _=alL s.sp i k by unfold alL;rw [if_pos ak]] at hs;refine .go (.E 29 hs ?_);refine .append (ys:=gO (alL s.sp i k)) hs bY rfl rfl hO (.own .here aU (by rw [eY];unfold alL;rw [if_pos ak];rfl)) (l5 _) (fun l h=>by rw [eY] at h;simp only [List.length_append] at h;omega) ?_;intro v96 en96 w gM hs;rw [←jh,List.append_assoc _ (ns _ _ _)] at gM;refine .go (.zw 30 rfl zg ?_);refine .D hs ?_;exact nB (nT (.region (.z zm (.z cC (.zn zg (nT ⟨(k+1,v96),.dw rfl aU bg,⟨by dsimp only;omega,_,gM,hs.sb⟩,by dsimp only;omega⟩))))))
   ·refine .exit (xT (xT (xB (nB (nT (.region (.z zm (.z cC (.zn zg (nT ?_))))))))));obtain rfl:k=s.sp.wa.length:=by omega
    rw [List.append_assoc] at hO;exact ⟨(i+1,_),.dw rfl aU bg,⟨by dsimp only;omega,en,hO,hs⟩,by dsimp only;omega⟩
  ·refine .exit (xT (xT (xB (nT (.seq (.af (.zn zg (.block ?_))))))));refine .loop (fun p:Nat×Value=>⟨243,[],[(10,I (p.1:Int)),(4,p.2),(3,Pt b3),(1,Pt b1)]⟩)
    (fun p w=>p.1≤s.sp.st.length∧∃en,bE 4 p.2 (gO (dZ (tz s.sp) s.sp.wa.length s.sp.st.length++dZ (alL s.sp) s.sp.wa.length s.sp.st.length++dZ (upL s.sp) s.sp.wa.length p.1)) en∧St H w (en:: .blk b3 [I s.sp.id,I s.sp.src,.slice ast s.sp.st.length cst,.slice awa s.sp.wa.length cwa,I s.sp.al,I s.sp.up]:: .blk b1 [I s.sp.id,I s.sp.src,.slice ast s.sp.st.length cst,.slice awa s.sp.wa.length cwa,I s.sp.al,I s.sp.up,.slice ar s.rs.length cr,.slice ac s.cs.length cc]::σ)) (fun p=>s.sp.st.length - p.1) (0,vo) bg
    ⟨by first|omega|exact Nat.zero_le _,en,by show bE 4 vo (gO (_++[])) en;rw [List.append_nil,Ry ak,←show i=s.sp.st.length - 1 by omega];exact hO,hs⟩ ?_
   clear hO hs;rintro ⟨i,vo⟩ w ⟨hi,en,hO,hs⟩;dsimp only at hi hO ⊢;refine .seq (.af (.z zm (.z (zfa bh) (.y hs (zld aC) (.z (bT ai) (.zn fT (.bQ rfl (fun Uc=>?_) (fun Uc=>?_))))))))
   ·refine .skip (nT (.seq (.block (.af (.zn zg (.block ?_))))));refine .loop (fun p:Nat×Value=>⟨243,[],[(11,I (p.1:Int)),(4,p.2),(10,I (i:Int)),(3,Pt b3),(1,Pt b1)]⟩)
     (fun p w=>p.1+1≤s.sp.wa.length∧∃en,bE 4 p.2 (gO (dZ (tz s.sp) s.sp.wa.length s.sp.st.length++dZ (alL s.sp) s.sp.wa.length s.sp.st.length++dZ (upL s.sp) s.sp.wa.length i++ns (upL s.sp) i p.1)) en∧St H w (en:: .blk b3 [I s.sp.id,I s.sp.src,.slice ast s.sp.st.length cst,.slice awa s.sp.wa.length cwa,I s.sp.al,I s.sp.up]:: .blk b1 [I s.sp.id,I s.sp.src,.slice ast s.sp.st.length cst,.slice awa s.sp.wa.length cwa,I s.sp.al,I s.sp.up,.slice ar s.rs.length cr,.slice ac s.cs.length cc]::σ)) (fun p=>s.sp.wa.length - p.1) (0,vo) bg
     ⟨by first|omega|exact Nat.zero_le _,en,by show bE 4 vo (gO (_++[])) en;rw [List.append_nil];exact hO,hs⟩ ?_
    clear hO hs;rintro ⟨k,vo⟩ w ⟨hk,en,hO,hs⟩;dsimp only at hk hO ⊢;have BP:=nq (rk s.sp) (m:=s.sp.wa.length) (n:=i) ak ak ak;have LL:=ml (rk s.sp) i k;refine .seq (.af (.z zm (.z cC (.z (zfa aV) (.y hs (zld aC) (.z (bT ai) (.zn fT (.bQ rfl (fun O4=>?_) (fun O4=>?_)))))))))
    ·refine .skip (nT (.seq (.block (.draw mix rfl hs fun w hs=>?_))));refine .zw 0 rfl zm ?_;refine .ys 1 rfl hs [_,_,_,_,_,_] bC aM ?_;refine .z 2 rfl zm ?_;refine .z 3 rfl zm ?_;refine .ys 5 rfl hs [_,_,_,_,_,_] bC aM ?_;refine .z 6 rfl zm ?_;refine .z 7 rfl zm ?_;refine .z 8 rfl cC ?_;refine .z 10 rfl (zfa eh) ?_;refine .z 11 rfl (zfa nR) ?_;refine .y 12 rfl hs aj ?_;refine .z 13 rfl (zfa aV) ?_;refine .y 14 rfl hs aC ?_;refine .z 15 rfl zm ?_;refine .z 16 rfl cC ?_;have QA:=bw.wa.rise k ak;have RV:=bw.wa.bd (i:=k) ak;have OK:=bw.wa.bd (i:=k+1) ak;refine .ixX (enc:=fun x=>[I x]) (i:=17) hs rfl aF .none h2 rfl rfl ai an (ck (l:=s.sp.wa) (i:=(k+1)) ak) eu ?_;intro b129 o129 KA;replace KA:=bI.one KA;refine .r (i:=18) hs rfl aF .none (aR rfl aj KA) ?_;refine .zw 19 rfl (zfa aV) ?_;refine .y 20 rfl hs aC ?_;refine .z 21 rfl zm ?_;refine .ixX (enc:=fun x=>[I x]) (i:=22) hs rfl aF .none h2 rfl rfl ai an (ck (l:=s.sp.wa) (i:=k) ak) eu ?_;intro YH o134 GF;replace GF:=bI.one GF;refine .r (i:=23) hs rfl aF .none (aR rfl aj GF) ?_;refine .zw 24 rfl jj ?_;refine .z 26 rfl (zfa cP) ?_;refine .y 27 rfl hs aj ?_;refine .E 4 hs ?_;refine .call call33 rfl (ed (s:=s.sp) hs h2 ak ⟨ak,ak⟩ ⟨ak,ak⟩) ?_;rintro _ w ⟨rfl,hs⟩;rw [I2];refine .go (.E 9 hs ?_);refine .call call33 rfl (ed (s:=s.sp) hs h2 ak ⟨ak,ak⟩ ⟨ak,ak⟩) ?_;rintro _ w ⟨rfl,hs⟩;rw [Sk];refine .go (.E 25 hs ?_);refine .call call266 rfl (ni hs ak ak) ?_;rintro _ w ⟨rfl,hs⟩;refine .go (.E 28 hs ?_);refine .call call265 rfl (lR hs) ?_;rintro _ w ⟨b140,rfl,hs⟩;rw [show two (s.sp.u i k:Int) _ _ _ _=upL s.sp i k by unfold upL;rw [if_pos ak]] at hs;refine .go (.E 29 hs ?_);refine .append (ys:=gO (upL s.sp i k)) hs bY rfl rfl hO (.own .here aU (by rw [eY];unfold upL;rw [if_pos ak];rfl)) (l5 _) (fun l h=>by rw [eY] at h;simp only [List.length_append] at h;omega) ?_;intro v141 en141 w gM hs;rw [←jh,List.append_assoc _ (ns _ _ _)] at gM;refine .go (.zw 30 rfl zg ?_);refine .D hs ?_;exact nB (nT (.region (.z zm (.z cC (.zn zg (nT ⟨(k+1,v141),.dw rfl aU bg,⟨by dsimp only;omega,_,gM,hs.sb⟩,by dsimp only;omega⟩))))))
    ·refine .exit (xT (xT (xB (nB (nT (.region (.z zm (.z cC (.zn zg (nT ?_))))))))));obtain rfl:k=s.sp.wa.length - 1:=by omega
     rw [List.append_assoc,←PR i ak] at hO;exact ⟨(i+1,_),.dw rfl aU bg,⟨by dsimp only;omega,en,hO,hs⟩,by dsimp only;omega⟩
   ·refine .exit (xT (xT (xB (nT (.af (.z (zfa aS) (.y hs (zld eB) ?_)))))));obtain rfl:i=s.sp.st.length:=by omega
    refine .o (.call call36 rfl (iT hs h3 ak) ?_);rintro v144 w ⟨H1,az,hT,hs⟩;replace hT:RTd H1 v144 s.bN:=hT;have xC:s.bN.length≤60:=by have:=dq s.rs;unfold Srv.bN;omega
    have s4:∀r∈s.rs,r.td∈s.bN:=fun r hr=>ee.2 ⟨r,hr,rfl⟩
    have TB:s.dU=dZ (tz s.sp) s.sp.wa.length s.sp.st.length++dZ (alL s.sp) s.sp.wa.length s.sp.st.length++dZ (upL s.sp) s.sp.wa.length s.sp.st.length++AZ s.sp s.bN.length++w5 s.sp s.bN s.cs 0 s.cs.length++yi s.sp s.bN s.rs s.rs.length:=rfl;generalize s.bN=ts at*;obtain ⟨at_,ct,rfl⟩:=RTd.shape hT;refine .zn zg (.af (.y hs (zls [_,_,_,_,_,_] bC aM) (.o (.call call34 rfl (gR (s:=s.sp) hs (h1.mono az) (h2.mono az) ⟨ak,ak⟩) ?_))));rintro _ w ⟨rfl,hs⟩;refine .zn zg (.seq (.af (.zn zg (.block ?_))));refine .loop (fun p:Nat×Value=>⟨243,[],[(14,I (p.1:Int)),(4,p.2),(12,.slice at_ ts.length ct),(13,I (s.sp.many:Int)),(3,Pt b3),(1,Pt b1)]⟩)
     (fun p w=>p.1≤ts.length∧∃en,bE 4 p.2 (gO (dZ (tz s.sp) s.sp.wa.length s.sp.st.length++dZ (alL s.sp) s.sp.wa.length s.sp.st.length++dZ (upL s.sp) s.sp.wa.length s.sp.st.length++AZ s.sp p.1)) en∧St H1 w (en:: .blk b3 [I s.sp.id,I s.sp.src,.slice ast s.sp.st.length cst,.slice awa s.sp.wa.length cwa,I s.sp.al,I s.sp.up]:: .blk b1 [I s.sp.id,I s.sp.src,.slice ast s.sp.st.length cst,.slice awa s.sp.wa.length cwa,I s.sp.al,I s.sp.up,.slice ar s.rs.length cr,.slice ac s.cs.length cc]::σ)) (fun p=>ts.length - p.1) (0,vo) bg
     ⟨by first|omega|exact Nat.zero_le _,en,by show bE 4 vo (gO (_++[])) en;rw [List.append_nil];exact hO,hs⟩ ?_
    clear hO hs;rintro ⟨j,vo⟩ w ⟨hj,en,hO,hs⟩;dsimp only at hj hO ⊢;have R1:=jf s.sp j;refine .seq (.af (.z zm (.z zm (.z (bT bB) (.zn fT (.bQ rfl (fun Kz=>?_) (fun Kz=>?_)))))))
    ·refine .skip (nT (.seq (.block (.region (.z zm (.z zm (.z cC (.z zm (.z cC (.z (zfa cP) (.y hs (zld aj) (.o (.call call265 rfl (lR hs) ?_)))))))))))));rintro _ w ⟨b160,rfl,hs⟩;refine .o (.append (ys:=gO (two 0 ((s.sp.many:Int)+1+(j:Int)) 1000 1000 s.sp.src)) hs bY rfl rfl hO (.own .here rfl rfl) (l5 _) (fun l h=>by rw [eY] at h;simp only [List.length_append] at h;omega) ?_);intro v161 en161 w gM hs;rw [←jh,List.append_assoc _ (AZ _ _),show (s.sp.many:Int)+1+(j:Int)=((s.sp.many+1+j:Nat):Int) by omega] at gM;exact .zn zg (nB (nT (.region (.z zm (.z cC (.zn zg (nT ⟨(j+1,v161),.dw rfl aU bg,⟨by dsimp only;omega,_,gM,hs.sb⟩,by dsimp only;omega⟩)))))))
    ·refine .exit (xT (xT (xB (nT (.seq (.af (.zn zg (.block ?_))))))));refine .loop (fun p:Nat×Value=>⟨243,[],[(15,I (p.1:Int)),(4,p.2),(12,.slice at_ ts.length ct),(13,I (s.sp.many:Int)),(3,Pt b3),(1,Pt b1)]⟩)
      (fun p w=>p.1≤s.cs.length∧∃en,bE 4 p.2 (gO (dZ (tz s.sp) s.sp.wa.length s.sp.st.length++dZ (alL s.sp) s.sp.wa.length s.sp.st.length++dZ (upL s.sp) s.sp.wa.length s.sp.st.length++AZ s.sp ts.length++w5 s.sp ts s.cs 0 p.1)) en∧St H1 w (en:: .blk b3 [I s.sp.id,I s.sp.src,.slice ast s.sp.st.length cst,.slice awa s.sp.wa.length cwa,I s.sp.al,I s.sp.up]:: .blk b1 [I s.sp.id,I s.sp.src,.slice ast s.sp.st.length cst,.slice awa s.sp.wa.length cwa,I s.sp.al,I s.sp.up,.slice ar s.rs.length cr,.slice ac s.cs.length cc]::σ)) (fun p=>s.cs.length - p.1) (0,vo) bg
      ⟨by first|omega|exact Nat.zero_le _,en,by show bE 4 vo (gO (_++[])) en;rw [List.append_nil,←show j=ts.length by omega];exact hO,hs⟩ ?_
     clear hO hs;rintro ⟨i,vo⟩ w ⟨hi,en,hO,hs⟩;dsimp only at hi hO ⊢;have R1:=jf s.sp ts.length;have Xz:=jg s.sp ts s.cs 0 i;have Xy:i*(2*(ts.length - 0))≤20*(2*60):=Nat.mul_le_mul ak ak;refine .seq (.af (.z zm (.z (zfa dm) (.y hs (zld qL) (.z (bT cH) (.zn fT (.bQ rfl (fun T4=>?_) (fun T4=>?_))))))))
     ·refine .skip (nT (.seq (.block (.af (.zn zg (.block ?_))))));refine .loop (fun p:Nat×Value=>⟨243,[],[(16,I (p.1:Int)),(4,p.2),(15,I (i:Int)),(12,.slice at_ ts.length ct),(13,I (s.sp.many:Int)),(3,Pt b3),(1,Pt b1)]⟩)
       (fun p w=>p.1≤ts.length∧∃en,bE 4 p.2 (gO (dZ (tz s.sp) s.sp.wa.length s.sp.st.length++dZ (alL s.sp) s.sp.wa.length s.sp.st.length++dZ (upL s.sp) s.sp.wa.length s.sp.st.length++AZ s.sp ts.length++w5 s.sp ts s.cs 0 i++lY s.sp ts (w6 s.cs i) 0 p.1)) en∧St H1 w (en:: .blk b3 [I s.sp.id,I s.sp.src,.slice ast s.sp.st.length cst,.slice awa s.sp.wa.length cwa,I s.sp.al,I s.sp.up]:: .blk b1 [I s.sp.id,I s.sp.src,.slice ast s.sp.st.length cst,.slice awa s.sp.wa.length cwa,I s.sp.al,I s.sp.up,.slice ar s.rs.length cr,.slice ac s.cs.length cc]::σ)) (fun p=>ts.length - p.1) (0,vo) bg
       ⟨by first|omega|exact Nat.zero_le _,en,by show bE 4 vo (gO (_++[])) en;rw [List.append_nil];exact hO,hs⟩ ?_
      clear hO hs;rintro ⟨j,vo⟩ w ⟨hj,en,hO,hs⟩;dsimp only at hj hO ⊢;have BP:=mw s.sp ts (w6 s.cs i) 0 j;refine .seq (.af (.z zm (.z zm (.z (bT bB) (.zn fT (.bQ rfl (fun T3=>?_) (fun T3=>?_)))))))
      ·refine .skip (nT (.seq (.block (.draw mix rfl hs fun w hs=>?_))));refine .zw 0 rfl zm ?_;refine .z 1 rfl (zfa dm) ?_;refine .y 2 rfl hs qL ?_;refine .z 3 rfl zm ?_;obtain ⟨c,hx⟩:=nth (l:=s.cs) (k:=i) ak;obtain ⟨t,ht⟩:=nth (l:=ts) (k:=j) ak;obtain ⟨g1,g2,g3,g4,g5,g6⟩:=AU c (List.mem_of_getElem? hx);have ec:=Lc hx;have et:=Oh ht;refine .ixX (enc:=Cmp.c) (i:=4) hs rfl aF .none (h4.mono az) rfl rfl cH dC hx eu ?_;intro b179 o179 T2;refine .r (i:=5) hs rfl aF .none (bj (vs:=c.c) rfl vI dC T2) ?_;refine .zw 6 rfl zm ?_;refine .z 7 rfl zm ?_;refine .ixX (enc:=TD.c) (i:=8) hs rfl aF .none hT rfl rfl bB bU ht eu ?_;intro b183 o183 T1;refine .r (i:=9) hs rfl aF .none (bj (vs:=t.c) rfl iq bU T1) ?_;refine .zw 10 rfl zm ?_;refine .z 11 rfl cC ?_;refine .z 12 rfl zm ?_;refine .z 13 rfl cC ?_;refine .E 14 hs ?_;refine .call call267 rfl (xW (c:=c) (t:=t) hs ⟨ak,ak⟩) ?_;rintro v189 w ⟨en189,O9,hs⟩;obtain ⟨a189,l189,c189,rfl,Yv⟩:=O9.shape;refine .go (.E 15 hs ?_);refine .append (ys:=gO (mC c t ((s.sp.many:Int)+1+(j:Int)))) hs bY rfl rfl hO (Src.Wf O9 .here) (l5 _) (fun l h=>by rw [eY] at h;simp only [List.length_append] at h;have:=CV c t ((s.sp.many:Int)+1+(j:Int));rw [eY] at Yv;omega) ?_;intro v190 en190 w gM hs;rw [←jh,List.append_assoc _ (lY _ _ _ _ _),show lY s.sp ts (w6 s.cs i) 0 j++mC c t ((s.sp.many:Int)+1+(j:Int))=lY s.sp ts (w6 s.cs i) 0 (j+1) by
        show _=_++mC (w6 s.cs i) (td0 ts (0+j)) ((s.sp.many+1+(0+j):Nat):Int);rw [Nat.zero_add,ec,et,show ((s.sp.many+1+j:Nat):Int)=(s.sp.many:Int)+1+(j:Int) by omega]] at gM
       refine .go (.zw 16 rfl zg ?_);refine .D hs ?_;exact nB (nT (.region (.z zm (.z cC (.zn zg (nT ⟨(j+1,v190),.dw rfl aU bg,⟨by dsimp only;omega,_,gM,hs.sb⟩,by dsimp only;omega⟩))))))
      ·refine .exit (xT (xT (xB (nB (nT (.region (.z zm (.z cC (.zn zg (nT ?_))))))))));obtain rfl:j=ts.length:=by omega
       rw [List.append_assoc _ (w5 _ _ _ _ _)] at hO;exact ⟨(i+1,_),.dw rfl aU bg,⟨by dsimp only;omega,en,hO,hs⟩,by dsimp only;omega⟩
     ·refine .exit (xT (xT (xB (nT (.seq (.af (.zn zg (.block ?_))))))));refine .loop (fun p:Nat×Value=>⟨243,[],[(17,I (p.1:Int)),(4,p.2),(12,.slice at_ ts.length ct),(13,I (s.sp.many:Int)),(3,Pt b3),(1,Pt b1)]⟩)
       (fun p w=>p.1≤s.rs.length∧∃en,bE 4 p.2 (gO (dZ (tz s.sp) s.sp.wa.length s.sp.st.length++dZ (alL s.sp) s.sp.wa.length s.sp.st.length++dZ (upL s.sp) s.sp.wa.length s.sp.st.length++AZ s.sp ts.length++w5 s.sp ts s.cs 0 s.cs.length++yi s.sp ts s.rs p.1)) en∧St H1 w (en:: .blk b3 [I s.sp.id,I s.sp.src,.slice ast s.sp.st.length cst,.slice awa s.sp.wa.length cwa,I s.sp.al,I s.sp.up]:: .blk b1 [I s.sp.id,I s.sp.src,.slice ast s.sp.st.length cst,.slice awa s.sp.wa.length cwa,I s.sp.al,I s.sp.up,.slice ar s.rs.length cr,.slice ac s.cs.length cc]::σ)) (fun p=>s.rs.length - p.1) (0,vo) bg
       ⟨by first|omega|exact Nat.zero_le _,en,by show bE 4 vo (gO (_++[])) en;rw [List.append_nil,←show i=s.cs.length by omega];exact hO,hs⟩ ?_
      clear hO hs;rintro ⟨q,vo⟩ w ⟨hq,en,hO,hs⟩;dsimp only at hq hO ⊢;have WY:=jb s.sp ts s.rs q;have hcl3:=jg s.sp ts s.cs 0 s.cs.length;have hcl4:s.cs.length*(2*(ts.length - 0))≤20*(2*60):=Nat.mul_le_mul ak ak;refine .seq (.af (.z zm (.z (zfa aS) (.y hs (zld eB) (.z (bT aT) (.zn fT (.bQ rfl (fun T0=>?_) (fun T0=>?_))))))))
      ·refine .skip (nT (.seq (.block (.af (.z (zfa aS) (.y hs (zld eB) (.z zm ?_)))))));obtain ⟨r,hx⟩:=nth (l:=s.rs) (k:=q) ak;obtain ⟨g1,g2,g3,g4,g5,g6,g7⟩:=OG r (List.mem_of_getElem? hx);obtain ⟨m,k1,k2,k3⟩:=iF (s4 r (List.mem_of_getElem? hx));refine .ixX (enc:=Rdg.c) hs (h3.mono az) rfl rfl aT br hx eu ?_;intro YF o201 O1;refine .q hs (bj (vs:=(Rdg.c r)) rfl gP br O1) (.o (.alloc hs ji rfl fun vB w hs=>?_));refine .o (.aL (vs:=r.c) hs rfl rfl br fun w hs=>?_);change St _ _ (.blk vB [I r.src,I r.st,I r.wa,I r.val,I r.tol,I r.tape,I r.day]::_) at hs;refine .nil (.af (.y hs (zls [_,_,_,_,_,_] bC aM) (.z (zfa fi) (.y hs (zld aj) (.z (zfa fh) (.y hs (zld aj) (.o (.call call33 rfl (ed (s:=s.sp) hs (h2.mono az) ak ⟨ak,ak⟩ ⟨ak,ak⟩) ?_))))))));rintro _ w ⟨rfl,hs⟩;refine .zn zg (.af (.z zm (.z cC (.z zm (.z (zfa dV) (.y hs (zld aj) (.z (zfa dI) (.y hs (zld aj) (.z (zbd [_,_] ik) (.o (.call call35 rfl (kQ (t:=r.td) hs hT ak) ?_)))))))))));rintro _ w ⟨rfl,hs⟩;refine .z cC (.zn zg (.region (.z zm (.z zm (.z zm (.z (zfa dW) (.y hs (zld aj) (.z (zfa cI) (.y hs (zld aj) (.z cC (.z (zfa eE) (.y hs (zld aj) (.z (zbd [_,_,_,_] dJ) (.z zm (.z zm (.z (zfa cI) (.y hs (zld aj) (.z (zfa dW) (.y hs (zld aj) (.z jj (.z (zfa eE) (.y hs (zld aj) (.z (zbd [_,_,_,_] dJ) (.o (.buildSlice (cells:=gO (wG s.sp ts r)) hs eC rfl aF fun b240 w hs=>?_)))))))))))))))))))))))));refine .o (.append (ys:=gO (wG s.sp ts r)) hs bY rfl rfl hO (.own .here rfl rfl) (l5 _) (fun l h=>by rw [eY] at h;simp only [List.length_append] at h;omega) ?_);intro v241 en241 w gM hs;rw [←jh,List.append_assoc _ (yi _ _ _ _),show yi s.sp ts s.rs q++wG s.sp ts r=yi s.sp ts s.rs (q+1) by rw [←Ju hx];rfl] at gM;exact .zn zg (nB (nT (.region (.z zm (.z cC (.zn zg (nT ⟨(q+1,v241),.dw rfl aU bg,⟨by dsimp only;omega,_,gM,hs.sb⟩,by dsimp only;omega⟩)))))))
      ·refine .exit (xT (xT (xB (nT (.af (.z zm (.zn zg (.ret (Fin.aW results214 rfl ?_)))))))));obtain rfl:q=s.rs.length:=by omega
       exact ⟨H1,en,az,by rw [TB];exact hO,hs.sb⟩
theorem wC{w:World}{s:Srv}{vst vwa:Value}(hs:St H w σ)(h1:RI H vst s.sp.st)(h2:RI H vwa s.sp.wa)(h3:RRd H vr s.rs)(h4:RCm H vc s.cs)(he:s.early):
  aaq 137 [.agg #[I s.sp.id,I s.sp.src,vst,vwa,I s.sp.al,I s.sp.up,vr,vc]] w fun u w'=>∃H1 vl en,HLe H H1∧u= .agg #[I s.sys.many,vl]∧bE 4 vl (gO s.dU) en∧St H1 w' (en::σ):=by
 have sX:=gx he.1;have EL:=he.2.1;have xC:s.bN.length≤60:=by have:=dq s.rs;unfold Srv.bN;omega
 refine Cl.o func137 ntmps137 ag1 ?_;refine .af (.bx hs fun b1 w hs=>?_);refine .o (.alloc hs oh rfl fun b2 w hs=>?_);refine .nil (.seq (.draw mix rfl hs fun w hs=>?_));refine .zw 0 rfl (zfa bq) ?_;refine .ys 1 rfl hs [_,_,_,_,_,_] bC aM ?_;refine .z 3 rfl (zfa aS) ?_;refine .y 4 rfl hs eB ?_;refine .ys 8 rfl hs [_,_,_,_,_,_,_,_] df bu ?_;refine .E 2 hs ?_;refine .call call34 rfl (gR (s:=s.sp) hs h1 h2 ⟨ak,ak⟩) ?_;rintro _ w ⟨rfl,hs⟩;refine .go (.E 5 hs ?_);refine .call call36 rfl (iT hs h3 ak) ?_;rintro v8 w ⟨H1,az,hT,hs⟩;replace hT:RTd H1 v8 s.bN:=hT;obtain ⟨at_,ct,rfl⟩:=RTd.shape hT;refine .go (.zw 6 rfl (bT bB) ?_);refine .z 7 rfl cC ?_;refine .E 9 hs ?_;refine .call call214 rfl (wD (s:=s) hs (h1.mono az) (h2.mono az) (h3.mono az) (h4.mono az) he) ?_;rintro v12 w ⟨H2,en,aN,hO,hs⟩;obtain ⟨al,ll,cl,rfl,vS⟩:=hO.shape;refine .go (.zw 10 rfl (zbd [_,_] mN) (.E 11 hs ?_));refine .aL (vs:=[_,_]) hs rfl rfl bR ?_;intro w hs;refine .go (.D hs (.ret ?_));replace hs:St H2 w (.blk b2 [I ((s.sp.many:Int)+(s.bN.length:Int)),.slice al ll cl]::en::σ):=hs.sb;exact Fin.ki [] [] hs fun w hs=>⟨_,results1 results137 (dK (vs:=[_,_]) hs rfl ea bR),H2,_,en,az.trans aN,by show _=Value.agg #[I ((s.sp.many+s.bN.length:Nat):Int),_];rw [Int.natCast_add],hO,hs.tail⟩
theorem uB{w:World}{s:Srv}{vst vwa:Value}(hs:St H w σ)(h1:RI H vst s.sp.st)(h2:RI H vwa s.sp.wa)(h3:RRd H vr s.rs)(h4:RCm H vc s.cs)(he:s.early):
  aaq 137 [.agg #[I s.sp.id,I s.sp.src,vst,vwa,I s.sp.al,I s.sp.up,vr,vc]] w fun u w'=>∃H1,HLe H H1∧RSy H1 u s.sys∧St H1 w' σ:=by
 refine (wC hs h1 h2 h3 h4 he).mono ?_;rintro u w' ⟨H1,vl,en,hle,rfl,hO,hs⟩;have hl:=mi he 6 ak;rw [s.Bw] at hl;obtain ⟨H2,aN,hR,hs⟩:=bE.bG (m:=4) (cs:=s.dU.map Lim.c) hO (fun c hc=>by simp only [List.mem_map] at hc;obtain ⟨x,_,rfl⟩:=hc;rfl) ak (by rw [List.length_map];omega) hs .here;exact ⟨H2,hle.trans aN,⟨vl,rfl,hR⟩,hs⟩
theorem jY{w:World}{q:Wht}{vst vwa:Value}(hs:St H w σ)(h2:RI H vwa s.wa):
  aaq 170 [.agg #[I q.kind,I q.st,I q.wa,I s.id,I s.src,vst,vwa,I s.al,I s.up]] w fun v w'=>v= .bool (decide (0≤q.wa∧q.wa≤(s.wa.length:Int) - 1))∧St H w' σ:=by
 obtain ⟨awa,cwa,rfl⟩:=RI.shape h2;have l2:=(RI.len h2).2.2;refine Cl.o func170 ntmps170 ag1 ?_;refine .af (.bx hs fun b1 w hs=>?_);refine .zn zg (.af (.z (zfa cf) (.z (zfa gg) (.y hs (zld aj) (.z (zfa eT) (.z (zfa aV) (.y hs (zld aC) (.z (bT ai) (.z jj (.o (.call gQ rfl (a8 hs) ?_)))))))))));rintro _ w ⟨rfl,hs⟩;exact .zn zg (.ret (Fin.aW results170 rfl ⟨rfl,hs.out⟩))
theorem lO{w:World}{q:Wht}{vst vwa:Value}(hs:St H w σ)(h1:RI H vst s.st):
  aaq 175 [.agg #[I q.kind,I q.st,I q.wa,I s.id,I s.src,vst,vwa,I s.al,I s.up]] w fun v w'=>v= .bool (decide (0≤q.st∧q.st≤(s.st.length:Int) - 1))∧St H w' σ:=by
 obtain ⟨ast,cst,rfl⟩:=RI.shape h1;have l1:=(RI.len h1).2.2;refine Cl.o func175 ntmps175 ag1 ?_;refine .af (.bx hs fun b1 w hs=>?_);refine .zn zg (.af (.z (zfa cf) (.z (zfa jE) (.y hs (zld aj) (.z (zfa eT) (.z (zfa bh) (.y hs (zld aC) (.z (bT ai) (.z jj (.o (.call gQ rfl (a8 hs) ?_)))))))))));rintro _ w ⟨rfl,hs⟩;exact .zn zg (.ret (Fin.aW results175 rfl ⟨rfl,hs.out⟩))
theorem ug{q:Wht}:iy s q↔(q.kind=1∧q.st=0∧s.isW q∧0<q.wa)∨(q.kind=2∧q.st=0∧s.isW q)∨(q.kind=3∧q.wa=0∧s.isS q)∨(q.kind=4∧s.isS q∧s.isW q):=by
 constructor
 ·intro h
  cases h with
  |litres a b c d=>exact .inl ⟨a,b,c,d⟩
  |plane a b c=>exact .inr (.inl ⟨a,b,c⟩)
  |section_ a b c=>exact .inr (.inr (.inl ⟨a,b,c⟩))
  |offset a b c=>exact .inr (.inr (.inr ⟨a,b,c⟩))
 ·rintro (⟨a,b,c,d⟩|⟨a,b,c⟩|⟨a,b,c⟩|⟨a,b,c⟩)
  ·exact .litres a b c d
  ·exact .plane a b c
  ·exact .section_ a b c
  ·exact .offset a b c
theorem DH{w:World}{q:Wht}{vst vwa:Value}(hs:St H w σ)(h2:RI H vwa s.wa)(hk:q.kind=1):
  aaq 169 [.agg #[I q.kind,I q.st,I q.wa,I s.id,I s.src,vst,vwa,I s.al,I s.up]] w fun v w'=>∃b:Bool,v= .bool b∧(b=true↔iy s q)∧St H w' σ:=by
 have hi:=ug (s:=s) (q:=q);simp only [Spc.isW,Spc.isS] at hi;refine Cl.o func169 ntmps169 ag1 ?_;refine .af (.bx hs fun b1 w hs=>?_);refine .zn zg (.af (.y hs (zls [_,_,_,_,_,_,_,_,_] PH Av) (.o (.call call170 rfl (jY hs h2) ?_))));rintro _ w ⟨rfl,hs⟩;refine .z zm (.bif (t':=5) rfl (fun QX=>?_) (fun QX=>?_))
 ·refine .T (.z (zfa cf) (.T (.z (zfa gg) (.T (.y hs (zld aj) (.T (.z nE (.z zpT (.z zm (.jK (t':=11) rfl (fun tc=>?_) (fun tc=>?_)))))))))))
  ·exact .T (.z (zfa cf) (.T (.z (zfa jE) (.T (.y hs (zld aj) (.T (.z fW (.z zpT (.zn zg (.ret (Fin.aW results169 rfl ⟨_,rfl,by rw [hi];simp_all<;>omega,hs.out⟩)))))))))))
  ·exact .Fs 4 8 true (.z zpF (.zn zg (.ret (Fin.aW results169 rfl ⟨_,rfl,by rw [hi];simp_all<;>omega,hs.out⟩))))
 ·exact .Fs 4 2 true (.z zpF (.z zm (.Fs 4 8 true (.z zpF (.zn zg (.ret (Fin.aW results169 rfl ⟨_,rfl,by rw [hi];simp_all<;>omega,hs.out⟩)))))))
theorem DG{w:World}{q:Wht}{vst vwa:Value}(hs:St H w σ)(h2:RI H vwa s.wa)(hk:q.kind=2):
  aaq 172 [.agg #[I q.kind,I q.st,I q.wa,I s.id,I s.src,vst,vwa,I s.al,I s.up]] w fun v w'=>∃b:Bool,v= .bool b∧(b=true↔iy s q)∧St H w' σ:=by
 have hi:=ug (s:=s) (q:=q);simp only [Spc.isW,Spc.isS] at hi;refine Cl.o func172 ntmps172 ag1 ?_;refine .af (.bx hs fun b1 w hs=>?_);refine .zn zg (.af (.y hs (zls [_,_,_,_,_,_,_,_,_] PH Av) (.o (.call call170 rfl (jY hs h2) ?_))));rintro _ w ⟨rfl,hs⟩;refine .z zm (.bif (t':=5) rfl (fun QX=>?_) (fun QX=>?_))
 ·exact .T (.z (zfa cf) (.T (.z (zfa jE) (.T (.y hs (zld aj) (.T (.z fW (.z zpT (.zn zg (.ret (Fin.aW results172 rfl ⟨_,rfl,by rw [hi];simp_all<;>omega,hs.out⟩)))))))))))
 ·exact .Fs 4 2 true (.z zpF (.zn zg (.ret (Fin.aW results172 rfl ⟨_,rfl,by rw [hi];simp_all<;>omega,hs.out⟩))))
theorem DF{w:World}{q:Wht}{vst vwa:Value}(hs:St H w σ)(h1:RI H vst s.st)(hk:q.kind=3):
  aaq 174 [.agg #[I q.kind,I q.st,I q.wa,I s.id,I s.src,vst,vwa,I s.al,I s.up]] w fun v w'=>∃b:Bool,v= .bool b∧(b=true↔iy s q)∧St H w' σ:=by
 have hi:=ug (s:=s) (q:=q);simp only [Spc.isW,Spc.isS] at hi;refine Cl.o func174 ntmps174 ag1 ?_;refine .af (.bx hs fun b1 w hs=>?_);refine .zn zg (.af (.y hs (zls [_,_,_,_,_,_,_,_,_] PH Av) (.o (.call call175 rfl (lO hs h1) ?_))));rintro _ w ⟨rfl,hs⟩;refine .z zm (.bif (t':=5) rfl (fun QX=>?_) (fun QX=>?_))
 ·exact .T (.z (zfa cf) (.T (.z (zfa gg) (.T (.y hs (zld aj) (.T (.z fW (.z zpT (.zn zg (.ret (Fin.aW results174 rfl ⟨_,rfl,by rw [hi];simp_all<;>omega,hs.out⟩)))))))))))
 ·exact .Fs 4 2 true (.z zpF (.zn zg (.ret (Fin.aW results174 rfl ⟨_,rfl,by rw [hi];simp_all<;>omega,hs.out⟩))))
theorem DD{w:World}{q:Wht}{vst vwa:Value}(hs:St H w σ)(h1:RI H vst s.st)(h2:RI H vwa s.wa)(hk:q.kind=4):
  aaq 177 [.agg #[I q.kind,I q.st,I q.wa,I s.id,I s.src,vst,vwa,I s.al,I s.up]] w fun v w'=>∃b:Bool,v= .bool b∧(b=true↔iy s q)∧St H w' σ:=by
 have hi:=ug (s:=s) (q:=q);simp only [Spc.isW,Spc.isS] at hi;refine Cl.o func177 ntmps177 ag1 ?_;refine .af (.bx hs fun b1 w hs=>?_);refine .zn zg (.af (.y hs (zls [_,_,_,_,_,_,_,_,_] PH Av) (.o (.call call175 rfl (lO hs h1) ?_))));rintro _ w ⟨rfl,hs⟩;refine .z zm (.bif (t':=5) rfl (fun QX=>?_) (fun QX=>?_))
 ·refine .T (.y hs (zls [_,_,_,_,_,_,_,_,_] PH Av) (.T (.o (.call call170 rfl (jY hs h2) ?_))));rintro _ w ⟨rfl,hs⟩;exact .z zpT (.zn zg (.ret (Fin.aW results177 rfl ⟨_,rfl,by rw [hi];simp_all<;>omega,hs.out⟩)))
 ·exact .Fs 2 2 true (.z zpF (.zn zg (.ret (Fin.aW results177 rfl ⟨_,rfl,by rw [hi];simp_all<;>omega,hs.out⟩))))
theorem wu{w:World}{q:Wht}{vst vwa:Value}{u:Int}(hs:St H w σ)(h1:RI H vst s.st)(h2:RI H vwa s.wa)(bw:fV s)(hq:iy s q)(EO:q.kind=1)(hi:i<s.st.length):
  aaq 171 [.agg #[I q.kind,I q.st,I q.wa,I s.id,I s.src,vst,vwa,I s.al,I s.up],.agg #[I (i:Int),I (k:Int),I u]] w fun v w'=>∃H1,HLe H H1∧v=I (qM s q i k)∧St H1 w' σ:=by
 obtain ⟨ast,cst,rfl⟩:=RI.shape h1;obtain ⟨awa,cwa,rfl⟩:=RI.shape h2;have hn:=bw.wa.many;have mI:=(RI.len h2).2.1;obtain ⟨_,hw1,hw2,hw3⟩:q.st=0∧0<q.wa∧0≤q.wa∧q.wa≤(s.wa.length:Int) - 1:=by
  rcases ug.1 hq with h|h|h|h
  ·exact ⟨h.2.1,h.2.2.2,h.2.2.1.1,h.2.2.1.2⟩
  all_goals omega
 obtain ⟨m,hm⟩:∃m:Nat,q.wa=m:=⟨q.wa.toNat,ak⟩;have hW:qM s q i k=if (k:Int)≤q.wa then gi (wts s.st) i*gi (wts (s.wa.take (q.wa.toNat+1))) k else 0:=by unfold qM;rw [if_pos EO]
 have Zv:q.wa.toNat=m:=by omega
 rw [Zv] at hW;refine Cl.o func171 ntmps171 ag2 ?_;refine .af (.bx hs fun b2 w hs=>?_);refine .bx hs fun b3 w hs=>?_
 refine .zn zg (.seq (.af (.z (zfa cV) (.y hs (zld aj) (.z (zfa cf) (.z (zfa gg) (.y hs (zld aj) (.zn nE (.bQ rfl (fun kD=>?_) (fun kD=>?_))))))))))
 ·exact .af (.zn zg (.ret (rT (Fin.aW results171 rfl ⟨H,HLe.refl H,by rw [hW,if_neg ak],hs.out⟩))))
 ·refine .skip (nT (.seq (.draw mix rfl hs fun w hs=>?_)));refine .zw 0 rfl (zfa eT) ?_;refine .z 1 rfl (zfa bh) ?_;refine .y 2 rfl hs aC ?_;refine .z 3 rfl (zfa eT) ?_;refine .z 4 rfl (zfa aV) ?_;refine .y 5 rfl hs aC ?_;refine .z 6 rfl (zfa cf) ?_;refine .z 7 rfl (zfa gg) ?_;refine .y 8 rfl hs aj ?_;refine .z 9 rfl cC ?_;refine .zw 10 rfl (pq (k:=m+1) rfl rfl ai an ak ak) (.E 11 hs ?_);have hP:gX 7 15000 (s.wa.take (m+1)):=bw.wa.take ak ak;refine .call call99 rfl (o7 hs h1 (h2.head (k:=m+1) ak)) ?_;rintro _ w ⟨H1,vo,e,az,rfl,Ur,-,hs⟩;obtain ⟨rfl,hG⟩:=Ur ⟨bw.st,hP⟩;have hgl:=pB (wts s.st) (wts (s.wa.take (m+1))) s.st.length;have qg:(wts (s.wa.take (m+1))).length=m+1:=by rw [jk,List.length_take];omega
  have hgr:=GI (X:=wts s.st) (Y:=wts (s.wa.take (m+1))) (n:=s.st.length) hi;have Xp:=NI (X:=wts s.st) (Y:=wts (s.wa.take (m+1))) (n:=s.st.length) (k:=k) hi ak;have EL:=ru (wts s.st) (wts (s.wa.take (m+1))) i;rw [←hgr] at EL;generalize tf (wts s.st) (wts (s.wa.take (m+1))) s.st.length=G at*;obtain ⟨aG,cG,rfl⟩:=hG.shape;refine .go (.zw 12 rfl zm ?_);refine .z 13 rfl zex ?_;refine .z 14 rfl zex ?_;refine .z 15 rfl zg ?_;refine .z 16 rfl zg ?_;refine .D hs ?_;refine .seq (.draw mix rfl hs fun w hs=>?_);refine .zw 0 rfl zm ?_;refine .z 1 rfl (zfa dj) ?_;refine .y 2 rfl hs aj ?_;refine .ixT (i:=3) hs rfl aF .none hG rfl rfl aK aP (show i<_ by omega) eu ?_;intro Li o31 a31 c31 s8 Yf;refine .r (i:=4) hs rfl aF .none (aR rfl aC s8) ?_;refine .zw 5 rfl (zfa cV) ?_;refine .y 6 rfl hs aj ?_;refine .ixX (enc:=fun x=>[I x]) (i:=7) hs rfl aF .none Yf rfl rfl ai an (ck (l:=(gr G i)) (i:=k) ak) eu ?_;intro Rw o35 uP;replace uP:=bI.one uP;refine .r (i:=8) hs rfl aF .none (aR rfl aj uP) ?_;refine .zw 9 rfl zg ?_;refine .D hs ?_;exact .ret (Fin.aW results171 rfl ⟨H1,az,by rw [hW,if_pos ak,←Xp];rfl,hs.out⟩)
theorem xI{w:World}{q:Wht}{vst vwa:Value}{u:Int}(hs:St H w σ)(h1:RI H vst s.st)(bw:fV s)(EO:q.kind=2)(hi:i<s.st.length):
  aaq 173 [.agg #[I q.kind,I q.st,I q.wa,I s.id,I s.src,vst,vwa,I s.al,I s.up],.agg #[I (i:Int),I (k:Int),I u]] w fun v w'=>∃H1,HLe H H1∧v=I (qM s q i k)∧St H1 w' σ:=by
 have hW:qM s q i k=if (k:Int)=q.wa then gi (wts s.st) i else 0:=by unfold qM;rw [if_neg ak,if_pos EO]
 have hl:=jk s.st;refine Cl.o func173 ntmps173 ag2 ?_;refine .af (.bx hs fun b2 w hs=>?_);refine .bx hs fun b3 w hs=>?_
 refine .zn zg (.seq (.af (.z (zfa cV) (.y hs (zld aj) (.z (zfa cf) (.z (zfa gg) (.y hs (zld aj) (.zn gv (.gN rfl (fun kD=>?_) (fun kD=>?_))))))))))
 ·exact .af (.zn zg (.ret (rT (Fin.aW results173 rfl ⟨H,HLe.refl H,by rw [hW,if_neg ak],hs.out⟩))))
 ·refine .skip (nT (.af (.z (zfa eT) (.z (zfa bh) (.y hs (zld aC) (.o (.call call24 rfl (jw hs h1) ?_)))))));rintro _ w ⟨H1,vo,e,az,rfl,Ur,hs⟩;obtain ⟨rfl,hG⟩:=Ur bw.st;obtain ⟨aG,cG,rfl⟩:=RI.shape hG;refine .z zm (.z zex (.z zex (.z zg (.zn zg (.af (.z zm (.z (zfa dj) (.y hs (zld aj) (.ixY hs hG rfl rfl ai an (ck (l:=(wts s.st)) (i:=i) ak) eu ?_)))))))));intro Iv o23 jM;exact .q hs (aR rfl aj jM) (.zn zg (.ret (Fin.aW results173 rfl ⟨H1,az,by rw [hW,if_pos ak],hs.out⟩)))
theorem ui{w:World}{q:Wht}{vst vwa:Value}{u:Int}(hs:St H w σ)(h2:RI H vwa s.wa)(bw:fV s)(EO:q.kind=3)(hk:k<s.wa.length):
  aaq 176 [.agg #[I q.kind,I q.st,I q.wa,I s.id,I s.src,vst,vwa,I s.al,I s.up],.agg #[I (i:Int),I (k:Int),I u]] w fun v w'=>∃H1,HLe H H1∧v=I (qM s q i k)∧St H1 w' σ:=by
 have hW:qM s q i k=if (i:Int)=q.st then gi (wts s.wa) k else 0:=by unfold qM;rw [if_neg ak,if_neg ak,if_pos EO]
 have hl:=jk s.wa;refine Cl.o func176 ntmps176 ag2 ?_;refine .af (.bx hs fun b2 w hs=>?_);refine .bx hs fun b3 w hs=>?_
 refine .zn zg (.seq (.af (.z (zfa dj) (.y hs (zld aj) (.z (zfa cf) (.z (zfa jE) (.y hs (zld aj) (.zn gv (.gN rfl (fun kD=>?_) (fun kD=>?_))))))))))
 ·exact .af (.zn zg (.ret (rT (Fin.aW results176 rfl ⟨H,HLe.refl H,by rw [hW,if_neg ak],hs.out⟩))))
 ·refine .skip (nT (.af (.z (zfa eT) (.z (zfa aV) (.y hs (zld aC) (.o (.call call24 rfl (jw hs h2) ?_)))))));rintro _ w ⟨H1,vo,e,az,rfl,Ur,hs⟩;obtain ⟨rfl,hG⟩:=Ur (PY bw);obtain ⟨aG,cG,rfl⟩:=RI.shape hG;refine .z zm (.z zex (.z zex (.z zg (.zn zg (.af (.z zm (.z (zfa cV) (.y hs (zld aj) (.ixY hs hG rfl rfl ai an (ck (l:=(wts s.wa)) (i:=k) ak) eu ?_)))))))));intro Iv o23 jM;exact .q hs (aR rfl aj jM) (.zn zg (.ret (Fin.aW results176 rfl ⟨H1,az,by rw [hW,if_pos ak],hs.out⟩)))
theorem wq{w:World}{q:Wht}{vst vwa:Value}{u:Int}(hs:St H w σ)(EO:q.kind=4):
  aaq 178 [.agg #[I q.kind,I q.st,I q.wa,I s.id,I s.src,vst,vwa,I s.al,I s.up],.agg #[I (i:Int),I (k:Int),I u]] w fun v w'=>∃H1,HLe H H1∧v=I (qM s q i k)∧St H1 w' σ:=by
 have hW:qM s q i k=if (i:Int)=q.st∧(k:Int)=q.wa then 1 else 0:=by unfold qM;rw [if_neg ak,if_neg ak,if_neg ak]
 refine Cl.o func178 ntmps178 ag2 ?_;refine .af (.bx hs fun b2 w hs=>?_);refine .bx hs fun b3 w hs=>?_
 refine .zn zg (.seq (.af (.z (zfa dj) (.y hs (zld aj) (.z (zfa cf) (.z (zfa jE) (.y hs (zld aj) (.z gv (.z zm (.G2 (t':=11) rfl (fun tc=>?_) (fun tc=>?_)))))))))))
 ·refine .Fs 6 6 false (.zn zpT (.cT (.af (.zn zg (.ret (rT (Fin.aW results178 rfl ?_)))))));first
  |exact ⟨H,HLe.refl H,by rw [hW,if_neg ak],hs.out⟩
  |exact ⟨H,HLe.refl H,by rw [hW,if_pos ak],hs.out⟩
 ·refine .T (.z (zfa cV) (.T (.y hs (zld aj) (.T (.z (zfa cf) (.T (.z (zfa gg) (.T (.y hs (zld aj) (.T (.z gv (.zn zpF (.gN rfl (fun oQ=>?_) (fun oQ=>?_))))))))))))))
  ·refine .af (.zn zg (.ret (rT (Fin.aW results178 rfl ?_))));first
   |exact ⟨H,HLe.refl H,by rw [hW,if_neg ak],hs.out⟩
   |exact ⟨H,HLe.refl H,by rw [hW,if_pos ak],hs.out⟩
  ·refine .skip (nT (.af (.zn zg (.ret (Fin.aW results178 rfl ?_)))));first
   |exact ⟨H,HLe.refl H,by rw [hW,if_neg ak],hs.out⟩
   |exact ⟨H,HLe.refl H,by rw [hW,if_pos ak],hs.out⟩
def Ht(k:Int):Nat:=if k=1 then 169 else if k=2 then 172 else if k=3 then 174 else 177
def Hi(k:Int):Nat:=if k=1 then 171 else if k=2 then 173 else if k=3 then 176 else 178
def Gy(k:Int):Value:= .agg #[.func (.func (Ht k)) #[] #[],.func (.func (Hi k)) #[] #[],I (A0 ⟨k,0,0⟩)]
def RR:List MapEntry:=[{key:=I 1,val:=Gy 1,born:=0},{key:=I 2,val:=Gy 2,born:=1},{key:=I 3,val:=Gy 3,born:=2},{key:=I 4,val:=Gy 4,born:=3}]
theorem mj{w:World}(hs:St H w σ):
  aaq 105 [] w fun v w'=>∃b,v= .map (some b)∧St H w' (.obj b (.map RR.toArray 4)::σ):=by
 refine Cl.of func105 rfl ntmps105 aU (Ar) (.af (.zn zg (.af (.o (.makeMap hs fun b1 w hs=>?_)))));refine .z (zbd [_,_,_] iX) (.o (.insert (es:=[]) hs rfl rfl rfl gu aJ rfl fun w hs=>?_));refine .z (zbd [_,_,_] iX) (.o (.insert (es:=[{key:=I 1,val:=Gy 1,born:=0}]) hs rfl rfl rfl gu aJ rfl fun w hs=>?_));refine .z (zbd [_,_,_] iX) (.o (.insert (es:=[{key:=I 1,val:=Gy 1,born:=0},{key:=I 2,val:=Gy 2,born:=1}]) hs rfl rfl rfl gu aJ rfl fun w hs=>?_));refine .z (zbd [_,_,_] iX) (.o (.insert (es:=[{key:=I 1,val:=Gy 1,born:=0},{key:=I 2,val:=Gy 2,born:=1},{key:=I 3,val:=Gy 3,born:=2}]) hs rfl rfl rfl gu aJ rfl fun w hs=>?_));exact .z zm (.zn zg (.ret (Fin.aW results105 rfl ⟨b1,rfl,hs⟩)))
def lF1(k:Int):Value:=if 1≤k∧k≤4 then .func (.func (Ht k)) #[] #[] else .nilFunc
def lF2(k:Int):Value:=if 1≤k∧k≤4 then .func (.func (Hi k)) #[] #[] else .nilFunc
def lD(k:Int):Int:=if 1≤k∧k≤4 then A0 ⟨k,0,0⟩ else 0
theorem Gx(k:Int):[lF1 k,lF2 k,I (lD k)].all Value.oneCell'=true:=by
 unfold lF1 lF2;split<;>rfl
theorem JC{s:FS}{x y:Operand}(k:Int)(hx:FS.ev s x=some (.map (some b)))(hy:FS.ev s y=some (I k)):
  QJ Tryz.prog H [.obj b (.map RR.toArray 4)] s (.lookup 227 x y true) (.tuple #[.agg #[lF1 k,lF2 k,I (lD k)],.bool (decide (1≤k∧k≤4))]):=by
 by_cases h:1≤k∧k≤4
 ·rw [decide_eq_true h];have h4:k=1∨k=2∨k=3∨k=4:=by omega
  rcases h4 with rfl|rfl|rfl|rfl
  ·exact Gj (v:=Gy 1) (j:=0) hx hy gu aJ rfl .here
  ·exact Gj (v:=Gy 2) (j:=1) hx hy gu aJ rfl .here
  ·exact Gj (v:=Gy 3) (j:=2) hx hy gu aJ rfl .here
  ·exact Gj (v:=Gy 4) (j:=3) hx hy gu aJ rfl .here
 ·rw [decide_eq_false h];have e1:lF1 k= .nilFunc:=if_neg h;have e2:lF2 k= .nilFunc:=if_neg h;have e3:lD k=0:=if_neg h;rw [e1,e2,e3];refine Qa (es:=RR) (c:=4) hx hy gu aJ zeroValue225 ?_ .here;have n1:(k==1)=false:=by simp only [beq_eq_false_iff_ne];omega
  have n2:(k==2)=false:=by simp only [beq_eq_false_iff_ne];omega
  have n3:(k==3)=false:=by simp only [beq_eq_false_iff_ne];omega
  have n4:(k==4)=false:=by simp only [beq_eq_false_iff_ne];omega
  simp [Instr.findNow,Instr.sameNow,RR,n1,n2,n3,n4]
theorem Ml(k:Int):∀args w,(callFunc (Ht k) args).run Tryz.prog w= .ok (.enter (Ht k) args) w:=by
 unfold Ht;split
 ·exact call169
 ·split
  ·exact call172
  ·split
   ·exact call174
   ·exact call177
theorem L4(k:Int):∀args w,(callFunc (Hi k) args).run Tryz.prog w= .ok (.enter (Hi k) args) w:=by
 unfold Hi;split
 ·exact call171
 ·split
  ·exact call173
  ·split
   ·exact call176
   ·exact call178
theorem Mk{w:World}{q:Wht}{vst vwa:Value}(hs:St H w σ)(h1:RI H vst s.st)(h2:RI H vwa s.wa)(hk:1≤q.kind∧q.kind≤4):
  aaq (Ht q.kind) [.agg #[I q.kind,I q.st,I q.wa,I s.id,I s.src,vst,vwa,I s.al,I s.up]] w fun v w'=>∃b:Bool,v= .bool b∧(b=true↔iy s q)∧St H w' σ:=by
 unfold Ht;split
 ·exact DH hs h2 cW
 ·split
  ·exact DG hs h2 cW
  ·split
   ·exact DF hs h1 cW
   ·exact DD hs h1 h2 ak
theorem L3{w:World}{q:Wht}{vst vwa:Value}{u:Int}(hs:St H w σ)(h1:RI H vst s.st)(h2:RI H vwa s.wa)(bw:fV s)(hq:iy s q)(hk:1≤q.kind∧q.kind≤4)(hi:i<s.st.length)(hkw:k<s.wa.length):
  aaq (Hi q.kind) [.agg #[I q.kind,I q.st,I q.wa,I s.id,I s.src,vst,vwa,I s.al,I s.up],.agg #[I (i:Int),I (k:Int),I u]] w fun v w'=>∃H1,HLe H H1∧v=I (qM s q i k)∧St H1 w' σ:=by
 unfold Hi;split
 ·exact wu hs h1 h2 bw hq cW hi
 ·split
  ·exact xI hs h1 bw cW hi
  ·split
   ·exact ui hs h2 bw cW hkw
   ·exact wq hs ak
theorem SZ{q:Wht}(h:1≤q.kind∧q.kind≤4):lD q.kind=A0 q:=by
 unfold lD;rw [if_pos h];rfl
theorem LZ{q:Wht}(h:iy s q):1≤q.kind∧q.kind≤4:=by
 rcases ug.1 h with h|h|h|h<;>omega
set_option maxHeartbeats 1000000 in
theorem lj{w:World}{q:Wht}{vst vwa:Value}(hs:St H w σ)(h1:RI H vst s.st)(h2:RI H vwa s.wa)(bw:fV s):
  aaq 57 [.agg #[I s.id,I s.src,vst,vwa,I s.al,I s.up],.agg #[I q.kind,I q.st,I q.wa]] w fun u w'=>∃H1 vl L d b en,HLe H H1∧u= .tuple #[vl,I d,.bool b]∧bE 1 vl (Is L) en∧((b=true∧iy s q∧L=sv s q∧d=A0 q)∨(b=false∧¬iy s q∧L=[]∧d=0))∧St H1 w' (en::σ):=by
 have sX:=gx bw;obtain ⟨ast,cst,rfl⟩:=RI.shape h1;obtain ⟨awa,cwa,rfl⟩:=RI.shape h2;refine Cl.o func57 ntmps57 ag2 ?_;refine .af (.bx hs fun b2 w hs=>?_);refine .bx hs fun b3 w hs=>?_
 refine .z zg (.z zg (.zn zg (.cut (fun fs w=>∃b7,ob fs ⟨46,[],[(8,.bool (decide (1≤q.kind∧q.kind≤4))),(7,Pt b7),(2,Pt b2),(3,Pt b3)]⟩∧St H w (.blk b7 [lF1 q.kind,lF2 q.kind,I (lD q.kind)]:: .blk b3 [I q.kind,I q.st,I q.wa]:: .blk b2 [I s.id,I s.src,(.slice ast s.st.length cst),(.slice awa s.wa.length cwa),I s.al,I s.up]::σ)) ?_ ?_)))
 ·refine .draw mix rfl hs fun w hs=>?_
  refine .zw 1 rfl (zfa BY) ?_;refine .y 2 rfl hs aj ?_;refine .e2 (i:=0) (j:=7) aF rfl rfl rfl rfl .none .none hs ?_ ?_
  ·refine .call call105 rfl (mj hs) ?_;rintro _ w ⟨lJ,rfl,hs⟩;refine .go (.q (i:=3) [.obj lJ (.map RR.toArray 4)] rfl aF .none (JC (H:= .bot) q.kind rfl rfl) ?_);refine .zw 4 rfl zm ?_;refine .z 5 rfl zex ?_;refine .z 6 rfl zex ?_;refine .E 7 hs ?_;refine .alloc hs zeroValue225 rfl ?_;intro b7 w hs;refine .go (.E 8 hs ?_);refine .aL (vs:=[lF1 q.kind,lF2 q.kind,I (lD q.kind)]) hs rfl rfl sizeOf225 ?_ (hv:=Gx _);intro w hs;refine .go (.zw 9 rfl zg ?_);refine .D hs ?_;exact nT ⟨b7,bg,hs.sb⟩
  ·refine .alloc hs zeroValue225 rfl ?_;intro b7 w hs;refine .go (.E 0 hs ?_);refine .call call105 rfl (mj hs) ?_;rintro _ w ⟨lJ,rfl,hs⟩;refine .go (.q (i:=3) [.obj lJ (.map RR.toArray 4)] rfl aF .none (JC (H:= .bot) q.kind rfl rfl) ?_);refine .zw 4 rfl zm ?_;refine .z 5 rfl zex ?_;refine .z 6 rfl zex ?_;refine .E 8 hs ?_;refine .aL (vs:=[lF1 q.kind,lF2 q.kind,I (lD q.kind)]) hs rfl rfl sizeOf225 ?_ (hv:=Gx _);intro w hs;refine .go (.zw 9 rfl zg ?_);refine .D hs ?_;exact nT ⟨b7,bg,hs.sb⟩
 ·rintro fs w ⟨b7,j8,hs⟩;refine WE.sub ?_ j8;refine .af (.y hs (zls [_,_,_] isAgg84 sizeOf84) (.y hs (zls [_,_,_,_,_,_] bC aM) (.z (zbd (vs:=[(0,.agg #[I q.kind,I q.st,I q.wa]),(1,.agg #[I s.id,I s.src,(.slice ast s.st.length cst),(.slice awa s.wa.length cwa),I s.al,I s.up])]) [I q.kind,I q.st,I q.wa,I s.id,I s.src,(.slice ast s.st.length cst),(.slice awa s.wa.length cwa),I s.al,I s.up] xh rfl aF) (.o (.alloc hs zeroValue230 rfl fun b9 w hs=>?_)))));refine .o (.aL (vs:=[_,_,_,_,_,_,_,_,_]) hs rfl rfl Av fun w hs=>?_);refine .nil (.seq (.af (.z zm (.z fF (.z zm (.bif (t':=24) rfl (fun QZ=>?_) (fun QZ=>?_)))))))
  ·refine .Fs 5 2 false (.zn zpT (.cT (.af (.z zg (.z zg (.zn zg (.ret (rT (?_)))))))));have hn:¬iy s q:=fun h=>by have:=LZ h;simp [this] at QZ
   exact Fin.ki [] [] hs fun w hs=>⟨_,results3 results57 rfl rfl rfl,H,_,[],_,_,.nul,HLe.refl H,rfl,.nil 1 none,.inr ⟨rfl,hn,rfl,rfl⟩,hs.out.nul⟩
  ·refine .T ?_;have hk:1≤q.kind∧q.kind≤4:=by simpa using QZ
   rw [show lF1 q.kind= .func (.func (Ht q.kind)) #[] #[] from if_pos hk,show lF2 q.kind= .func (.func (Hi q.kind)) #[] #[] from if_pos hk,SZ hk] at hs;refine .z (zfa uV) (.T (.y hs (zld isAgg222) (.T (.y hs (zls [_,_,_,_,_,_,_,_,_] PH Av) (.T (.o (.jN (first:=[]) (cap:=[]) rfl rfl (Ml q.kind) (Mk (s:=s) hs h1 h2 hk) ?_)))))));rintro _ w ⟨UR,rfl,Nt,hs⟩;refine .T (.z fF (.zn zpF (.cond rfl (fun rU=>?_) (fun rU=>?_))))
   ·refine .af (.z zg (.z zg (.zn zg (.ret (rT (?_))))));have hn:¬iy s q:=fun h=>by rw [Nt.2 h] at rU;cases rU
    exact Fin.ki [] [] hs fun w hs=>⟨_,results3 results57 rfl rfl rfl,H,_,[],_,_,.nul,HLe.refl H,rfl,.nil 1 none,.inr ⟨rfl,hn,rfl,rfl⟩,hs.out.nul⟩
   ·refine .skip (nT (.af (.o (.buildSlice (cells:=[_]) hs bO rfl rfl fun Li w hs=>?_))));refine .o (.alloc hs mQ rfl fun jr w hs=>?_);refine .o (.store hs rfl rfl aP fun w hs=>?_);refine .nil (.seq (.af (.y hs (zls [_,_,_,_,_,_] bC aM) ?_)));have hq:iy s q:=Nt.1 (by simpa using rU);refine .o (.call call58 rfl (gy (s:=s) hs h1 h2 ⟨ak,ak⟩) ?_);rintro _ w ⟨H1,ba,az,rfl,sq,hs⟩;have LF:=jX s q;refine .nil (.block ?_);refine .rangeFunc (gf:=106) (cap:=[Pt ba]) (xs:=CE s) (σb:=[.blk jr [.slice (some ⟨Li,0,none⟩) 1 1],.blk Li (Is [0]),.blk b7 [.func (.func (Ht q.kind)) #[] #[],.func (.func (Hi q.kind)) #[] #[],I (A0 q)],.blk b9 [I q.kind,I q.st,I q.wa,I s.id,I s.src,(.slice ast s.st.length cst),(.slice awa s.wa.length cwa),I s.al,I s.up]]) (σf:=σ) (hs.sb) trivial rfl sq call106 (fun x hx=>by
      simp only [CE,List.mem_map] at hx;obtain ⟨j,_,rfl⟩:=hx;rfl) rfl
     (I:=fun p H' σb=>∃vo en,σb=[.blk jr [vo],en,.blk b7 [.func (.func (Ht q.kind)) #[] #[],.func (.func (Hi q.kind)) #[] #[],I (A0 q)],.blk b9 [I q.kind,I q.st,I q.wa,I s.id,I s.src,(.slice ast s.st.length cst),(.slice awa s.wa.length cwa),I s.al,I s.up]]∧bE 1 vo (Is ((sv s q).take (p+1))) en) (Ix:=fun _ _ _=>False)
     (fun j _ _ σ g1 g2=>g2) (fun _ _ _ _ _ h=>h) ⟨_,_,rfl,.full rfl⟩ ?_ ?_ (fun D c H' σb w _ h _=>h.elim)
    ·rintro ly p hp H2 Cx zB w aN ⟨vo,en,rfl,hO⟩ hs ⟨rr,LH⟩;have HP:p<s.many:=by rw [eF] at hp;exact hp
     have fH:p/s.wa.length<s.st.length:=Nat.div_lt_of_lt_mul (by rw [Nat.mul_comm];exact HP);have OV:=Nat.mod_lt p sX.2.2.1;have hws:=CT s q HP;have HW:(sv s q)[p+1]? =some (qM s q (p/s.wa.length) (p%s.wa.length)):=by rw [←hws];exact ck ak
     rw [qj hp];obtain ⟨al,ll,cl,rfl,vS⟩:=hO.shape;generalize p/s.wa.length=i at*;generalize p%s.wa.length=k at*;refine .region (.o (.alloc hs EE rfl fun EU w hs=>?_));refine .o (.aL (vs:=[_,_,_]) hs rfl rfl U5 fun w hs=>?_);refine .nil (nT ⟨H2,[.blk EU [I (i:Int),I (k:Int),I ((p+1:Nat):Int)],.blk jr [Value.slice al ll cl],en,.blk b7 [.func (.func (Ht q.kind)) #[] #[],.func (.func (Hi q.kind)) #[] #[],I (A0 q)],.blk b9 [I q.kind,I q.st,I q.wa,I s.id,I s.src,(.slice ast s.st.length cst),(.slice awa s.wa.length cwa),I s.al,I s.up]],HLe.refl _,hs,?_⟩);rintro w zA - hs;refine .block (.draw mix rfl hs fun w hs=>?_);refine .y 0 rfl hs aC ?_;refine .z 1 rfl (zfa uU) ?_;refine .zv 2 rfl hs (uM isAgg223) (.ys 3 rfl hs [_,_,_,_,_,_,_,_,_] PH Av ?_);refine .ys 4 rfl hs [_,_,_] isAgg166 U5 ?_;refine .E 5 hs ?_;refine .jN (first:=[]) (cap:=[]) rfl rfl (L4 q.kind) (L3 (s:=s) (q:=q) (i:=i) (k:=k) hs (h1.mono (az.trans aN)) (h2.mono (az.trans aN)) bw hq hk fH OV) ?_;rintro _ w ⟨H3,bA,rfl,hs⟩;refine .go (.E 6 hs ?_);refine .buildSlice (cells:=[_]) hs bO rfl rfl ?_;intro YA w hs;refine .go (.E 7 hs ?_);refine .append (ys:=Is [qM s q i k]) hs bJ rfl rfl hO (.own .here rfl rfl) (pV _) (fun l h=>by simp at h;omega) ?_;intro v42 en42 w gM hs;rw [show Is ((sv s q).take (p+1))++Is [qM s q i k]=Is ((sv s q).take (p+1+1)) by rw [eH HW];simp [Is]] at gM;obtain ⟨a42,l42,c42,rfl,h42⟩:=gM.shape;refine .go (.E 8 hs ?_);refine .store hs rfl rfl aP ?_;intro w hs;exact .go (.D hs (nB ⟨H3,[.blk jr [.slice a42 l42 c42],en42,.blk b7 [.func (.func (Ht q.kind)) #[] #[],.func (.func (Hi q.kind)) #[] #[],I (A0 q)],.blk b9 [I q.kind,I q.st,I q.wa,I s.id,I s.src,(.slice ast s.st.length cst),(.slice awa s.wa.length cwa),I s.al,I s.up]],bA,(hs.sb:St H3 w (.blk jr _::en42:: .blk b7 _:: .blk b9 _::zA)),_,_,rfl,gM⟩))
    ·rintro D H2 Cx w aN ⟨vo,en,rfl,hO⟩ hs;rw [eF,←LF,List.take_length] at hO;replace hs:St H2 w (.obj D (.deferred (some [])):: .blk jr [vo]::en:: .blk b7 [.func (.func (Ht q.kind)) #[] #[],.func (.func (Hi q.kind)) #[] #[],I (A0 q)]:: .blk b9 [I q.kind,I q.st,I q.wa,I s.id,I s.src,(.slice ast s.st.length cst),(.slice awa s.wa.length cwa),I s.al,I s.up]::σ):=hs;obtain ⟨al,ll,cl,rfl,vS⟩:=hO.shape;refine nB (nT (.seq (.draw mix rfl hs fun w hs=>?_)));refine .y 0 rfl hs aC ?_;refine .z 1 rfl (zfa uT) ?_;refine .y 2 rfl hs aj ?_;refine .z 3 rfl zg ?_;refine .z 4 rfl zg ?_;refine .z 5 rfl zg ?_;refine .D hs ?_;exact .ret (Fin.ki [D] [] hs fun w hs=>⟨_,results3 results57 rfl rfl rfl,H2,_,_,_,_,en,az.trans aN,rfl,hO,.inl ⟨rfl,hq,rfl,rfl⟩,hs.sb⟩)
theorem j6{w:World}{d:Int}(hs:St H w σ)(hd:1≤d)(ha: -4608000000000000000≤a∧a≤4608000000000000000):
  aaq 59 [I a,I d] w fun v w'=>v=I (a/d)∧St H w' σ:=by
 have hq: -4608000000000000000≤a.tdiv d∧a.tdiv d≤4608000000000000000:=by
  have h1:=GM (n:=a) (d:=d) ak;have h2:a/d≤4608000000000000000:=Int.ediv_le_of_le_mul ak (by
   have:=Int.mul_le_mul_of_nonneg_left hd (show (0:Int)≤4608000000000000000 by omega);omega)
  have h3: -4608000000000000000≤a/d:=Int.le_ediv_of_mul_le ak (by
   have:=Int.mul_le_mul_of_nonneg_left hd (show (0:Int)≤4608000000000000000 by omega);omega)
  by_cases h0:0≤a
  ·rw [Int.tdiv_eq_ediv_of_nonneg h0];omega
  ·split at h1
   ·have:a/d<0:=Int.ediv_neg_of_neg_of_pos ak ak;omega
   ·omega
 have Kq:=GM (n:=a) (d:=d) ak;refine Cl.o func59 ntmps59 ag2 ?_;refine .af (.zn zg (.af (.z zm (.z zm (.q hs (Gh rfl rfl ak ⟨ak,ak⟩) (.zn zg (.seq (.af (.z zm (.z zm (.z IQ (.zn fT (.bQ rfl (fun kD=>?_) (fun kD=>?_))))))))))))))
 ·refine .region (.z zm (.z jj (.zn zg (nT (.af (.z zm (.zn zg (.ret (Fin.aW results59 rfl ?_)))))))));rw [if_pos kD] at Kq;exact ⟨by rw [Kq],hs⟩
 ·refine .skip (nT (.af (.z zm (.zn zg (.ret (Fin.aW results59 rfl ?_))))));rw [if_neg kD,Int.sub_zero] at Kq;exact ⟨by rw [Kq],hs⟩
theorem rC{w:World}{s:Srv}{vst vwa:Value}(hs:St H w σ)(h1:RI H vst s.sp.st)(h2:RI H vwa s.sp.wa)(h3:RRd H vr s.rs)(h4:RCm H vc s.cs)(bw:iE s):
  aaq 298 [.agg #[I s.sp.id,I s.sp.src,vst,vwa,I s.sp.al,I s.sp.up,vr,vc]] w fun u w'=>∃H1,∃b:Bool,HLe H H1∧u= .bool b∧(b=true↔s.sys.Sound)∧St H1 w' σ:=by
 refine Cl.o func298 ntmps298 ag1 ?_;refine .af (.bx hs fun b1 w hs=>?_);refine .zn zg (.af (.y hs (zls [_,_,_,_,_,_,_,_] df bu) (.o (.call call294 rfl (jd (s:=s) hs h1 h2 h3 h4 bw.early) ?_))));rintro v7 w ⟨H1,az,hS,hs⟩;refine .o (.call call322 rfl (xf (s:=s.sys) hs hS) ?_);rintro _ w ⟨H2,vx,xs,e,aN,rfl,rx,hC,hs⟩;obtain ⟨ax,cx,rfl⟩:=RI.shape rx;have XA:s.sys.check=0:=s.sys.jz.2 bw.sys;obtain rfl:e=0:=by
  cases hC with
  |bad h=>exact (h XA).elim
  |sound=>rfl
  |chain=>rfl
 have HV:=hC.Jk;refine .z zm (.z zex (.z zex (.z zg (.zn zg (.af (.z zm (.z fW (.z zm (.jK (t':=13) rfl (fun KK=>?_) (fun KK=>?_))))))))))
 ·refine .T (.z zm (.T (.z (bT ai) (.T (.z fW (.z zpT (.zn zg (.ret (Fin.aW results298 rfl ?_)))))))));first
  |exact ⟨H2,_,az.trans aN,rfl,by rw [←HV,decide_eq_true_eq];exact ⟨fun h=>List.length_eq_zero_iff.1 ak,fun h=>by rw [h];rfl⟩,hs.out⟩
  |exact (KK rfl).elim
 ·refine .Fs 3 2 true (.z zpF (.zn zg (.ret (Fin.aW results298 rfl ?_))));first
  |exact ⟨H2,_,az.trans aN,rfl,by rw [←HV,decide_eq_true_eq];exact ⟨fun h=>List.length_eq_zero_iff.1 ak,fun h=>by rw [h];rfl⟩,hs.out⟩
  |exact (KK rfl).elim
theorem N2(L:List Int)(j:Nat):L++List.replicate j 0++[0]=L++List.replicate (j+1) 0:=by
 rw [List.append_assoc,←List.replicate_succ']
set_option maxHeartbeats 1000000 in
theorem wH{w:World}{s:Srv}{q:Wht}{vst vwa:Value}(hs:St H w σ)(h1:RI H vst s.sp.st)(h2:RI H vwa s.sp.wa)(h3:RRd H vr s.rs)(h4:RCm H vc s.cs)(bw:iE s):
  aaq 297 [.agg #[I s.sp.id,I s.sp.src,vst,vwa,I s.sp.al,I s.sp.up,vr,vc],.agg #[I q.kind,I q.st,I q.wa]] w fun u w'=>∃H1 ul vw L d b,HLe H H1∧u= .tuple #[.agg #[I s.sys.many,ul,vw,I d],.bool b]∧RL H1 ul s.dU∧RI H1 vw L∧L.length=s.sys.n∧((b=true∧iy s.sp q∧L=s.w q∧d=A0 q)∨(b=false∧¬iy s.sp q))∧St H1 w' σ:=by
 have hn:=C7 s;have hm:=bw.many;have sX:s.sys.many+1=(s.sys.n:Int):=by rw [hn];show ((s.sp.many+s.bN.length:Nat):Int)+1=_;omega
 refine Cl.o func297 ntmps297 ag2 ?_;refine .af (.bx hs fun b2 w hs=>?_);refine .bx hs fun b3 w hs=>?_
 refine .o (.alloc hs Sh rfl fun b4 w hs=>?_);refine .zn zg (.af (.y hs (zls [_,_,_,_,_,_,_,_] df bu) (.o (.call call294 rfl (jd (s:=s) hs h1 h2 h3 h4 bw.early) ?_))));rintro _ w ⟨H1,az,⟨ul,rfl,hL⟩,hs⟩;obtain ⟨al,cl,rfl⟩:=RL.shape hL;refine .o (.alloc hs oh rfl fun b6 w hs=>?_);refine .o (.aL (vs:=[_,_]) hs rfl rfl bR fun w hs=>?_);refine .nil (.af (.z (zfa bq) (.y hs (zls [_,_,_,_,_,_] bC aM) (.y hs (zls [_,_,_] isAgg84 sizeOf84) (.o (.call call57 rfl (lj (s:=s.sp) (q:=q) hs (h1.mono az) (h2.mono az) bw.early.1) ?_))))));rintro _ w ⟨H2,vl,L0,d,b,en,aN,rfl,hO,kC,hs⟩;have hL0:L0.length≤s.sys.n:=by
  rcases kC with ⟨_,_,rfl,_⟩|⟨_,_,rfl,_⟩
  ·rw [jX,hn];omega
  ·simp
 have eI:=az.trans aN;refine .z zm (.z zex (.z zex (.z zex (.z zg (.z zg (.zn zg (.seq (.block ?_))))))));refine .loop (fun p:Nat×Value=>⟨34,[],[(7,p.2),(8,I d),(9,.bool b),(6,Pt b6),(4,Pt b4)]⟩)
  (fun p w=>L0.length+p.1≤s.sys.n∧∃en,bE 1 p.2 (Is (L0++List.replicate p.1 0)) en∧St H2 w (en:: .blk b6 [I s.sys.many,.slice al s.dU.length cl]:: .blk b4 [I 0,.slice none 0 0,.slice none 0 0,I 0]::σ)) (fun p=>s.sys.n - (L0.length+p.1)) (0,vl) bg
  ⟨by simpa using hL0,en,by simpa using hO,hs.sb⟩ ?_
 clear hO hs;rintro ⟨j,vo⟩ w ⟨hj,en,hO,hs⟩;dsimp only at hj hO ⊢;obtain ⟨ao,lo,co,rfl,Vu⟩:=hO.shape;have hlo':lo=L0.length+j:=by simp [Is] at Vu;omega
 refine .seq (.af (.z zm (.z (bT ai) (.z (zfa bS) (.y hs (zld aj) (.z cC (.zn fT (.bQ rfl (fun jq=>?_) (fun jq=>?_)))))))))
 ·refine .skip (nT (.block (.region (.z zm (.o (.buildSlice (cells:=[_]) hs bO rfl rfl fun Aq w hs=>?_))))));refine .o (.append (ys:=Is [0]) hs bJ rfl rfl hO (.own .here rfl rfl) (pV _) (fun l' h=>by simp [Is] at h;omega) ?_);intro v28 en28 w gM hs;rw [show Is (L0++List.replicate j 0)++Is [0]=Is (L0++List.replicate (j+1) 0) by rw [←N2];simp [Is]] at gM;exact .zn zg (nB (nT ⟨(j+1,v28),bg,⟨by dsimp only;omega,_,gM,hs.sb⟩,by dsimp only;omega⟩))
 ·refine .exit (xT (xT (xB (nT (.af (.y hs (zls [_,_] ea bR) (.z zm (.z zm (.z (zbd [_,_,_,_] fM) (.z zm (.o (.aL (vs:=[_,_,_,_]) hs rfl rfl ju fun w hs=>?_))))))))))));refine .zn zg (.ret ?_);have hjn:L0.length+j=s.sys.n:=by omega
  obtain ⟨H3,bA,hR,hs⟩:=bE.bX hO (by simp;omega) hs cg;exact Fin.ki [] [] hs fun w hs=>⟨_,results2 results297 (dK (vs:=[_,_,_,_]) hs rfl isAgg400 ju) rfl,H3,_,_,_,d,b,eI.trans bA,rfl,hL.mono (aN.trans bA),hR,by simp;omega,by
   rcases kC with ⟨g1,g2,rfl,g3⟩|⟨g1,g2,_,_⟩
   ·refine .inl ⟨g1,g2,?_,g3⟩;rw [jX,hn] at hjn;unfold Srv.w;rw [show j=s.bN.length by omega]
   ·exact .inr ⟨g1,g2⟩,hs.out⟩
inductive Cw(v:Srv)(q:Wht):Int→Prop
 |bad {e:Int} (h:G6 v e) (he:e≠0):Cw v q e
 |what (h:iE v) (h1:¬iy v.sp q):Cw v q 33
 |fls (h:iE v) (h1:iy v.sp q) (h2:¬v.sys.Sound):Cw v q 35
 |ok (h:iE v) (h1:iy v.sp q) (h2:v.sys.Sound):Cw v q 0
theorem Cw.zero{v:Srv}{q:Wht}(h:Cw v q 0):iE v∧iy v.sp q∧v.sys.Sound:=by
 generalize hz:(0:Int)=z at h
 cases h with
 |bad h he=>exact (he hz.symm).elim
 |what=>omega
 |fls=>omega
 |ok h h1 h2=>exact ⟨h,h1,h2⟩
theorem Cw.qty{v:Srv}{q:Wht}(h:Cw v q e)(he:e≠0):ID v q 0 0 e:=by
 cases h with
 |bad h he=>exact .bad h he
 |what h h1=>exact .what h h1
 |fls h h1 h2=>exact .fls h h1 h2
 |ok=>exact (he rfl).elim
set_option maxHeartbeats 1000000 in
theorem sN{w:World}{s:Srv}{q:Wht}{vst vwa:Value}(hs:St H w σ)(h1:RI H vst s.sp.st)(h2:RI H vwa s.sp.wa)(h3:RRd H vr s.rs)(h4:RCm H vc s.cs):
  aaq 268 [.agg #[I s.sp.id,I s.sp.src,vst,vwa,I s.sp.al,I s.sp.up,vr,vc],.agg #[I q.kind,I q.st,I q.wa]] w fun u w'=>∃H1 m ul vw d e,HLe H H1∧u= .tuple #[.agg #[I m,ul,vw,I d],I e]∧(∃a l c,ul= .slice a l c)∧(∃a l c,vw= .slice a l c)∧Cw s q e∧(e=0→m=s.sys.many∧RL H1 ul s.dU∧RI H1 vw (s.w q)∧d=A0 q)∧St H1 w' σ:=by
 refine Cl.o func268 ntmps268 ag2 ?_;refine .af (.bx hs fun b2 w hs=>?_);refine .bx hs fun b3 w hs=>?_
 refine .o (.alloc hs Sh rfl fun b4 w hs=>?_);refine .zn zg (.seq (.af (.y hs (zls [_,_,_,_,_,_,_,_] df bu) (.o (.call call262 rfl (jA (s:=s) hs h1 h2 h3 h4) ?_)))));rintro _ w ⟨H1,e,az,rfl,hC,hs⟩;refine .zn zg (.af (.z zm (.zn gv (.gN rfl (fun kD=>?_) (fun kD=>?_)))))
 ·refine .af (.z (zbd [_,_,_,_] fM) (.z zm (.o (.aL (vs:=[_,_,_,_]) hs rfl rfl ju fun w hs=>?_))));exact .zn zg (.ret (rT ((Fin.ki [] [] hs fun w hs=>⟨_,results2 results268 (dK (vs:=[_,_,_,_]) hs rfl isAgg400 ju) rfl,H1,_,_,_,_,e,az,rfl,⟨_,_,_,rfl⟩,⟨_,_,_,rfl⟩,.bad hC kD,fun h=>(kD h).elim,hs.out⟩))))
 ·refine .skip (nT (.af (.y hs (zls [_,_,_,_,_,_,_,_] df bu) (.y hs (zls [_,_,_] isAgg84 sizeOf84) ?_))));have bw:iE s:=hC.jz.1 (by simpa using kD);refine .o (.call call297 rfl (wH (s:=s) (q:=q) hs (h1.mono az) (h2.mono az) (h3.mono az) (h4.mono az) bw) ?_);rintro _ w ⟨H2,ul,vw,L,d,b,aN,rfl,hL,hR,Z6,kC,hs⟩;have eI:=az.trans aN;obtain ⟨al,cl,rfl⟩:=RL.shape hL;obtain ⟨aw,cw,rfl⟩:=RI.shape hR;refine .z zm (.z zex (.z zex (.o (.alloc hs Sh rfl fun b7 w hs=>?_))));refine .o (.aL (vs:=[_,_,_,_]) hs rfl rfl ju fun w hs=>?_);refine .zn zg (.seq (.block (.af (.z zm (.z fF (.zn zg (.cond rfl (fun s9=>?_) (fun s9=>?_))))))))
  ·refine .af (.z (zbd [_,_,_,_] fM) (.o (.aL (vs:=[_,_,_,_]) hs rfl rfl ju fun w hs=>?_)));refine .zn zg (.ret (rB (rT (?_))));have hq:¬iy s.sp q:=by
    rcases kC with ⟨g,_⟩|⟨_,g⟩
    ·subst g;cases s9
    ·exact g
   exact Fin.ki [] [] hs fun w hs=>⟨_,results2 results268 (dK (vs:=[_,_,_,_]) hs rfl isAgg400 ju) rfl,H2,_,_,_,_,_,eI,rfl,⟨_,_,_,rfl⟩,⟨_,_,_,rfl⟩,.what bw hq,fun h=>by omega,hs.out⟩
  ·refine .af (.y hs (zls [_,_,_,_,_,_,_,_] df bu) ?_);obtain ⟨rfl,hq,rfl,rfl⟩:b=true∧iy s.sp q∧L=s.w q∧d=A0 q:=kC.resolve_right fun h=>by rw [h.1] at s9;cases s9
   refine .o (.call call298 rfl (rC (s:=s) hs (h1.mono eI) (h2.mono eI) (h3.mono eI) (h4.mono eI) bw) ?_);rintro _ w ⟨H3,Aq,bA,rfl,rW,hs⟩;refine .z fF (.zn zg (.cond rfl (fun jq=>?_) (fun jq=>?_)))
   ·refine .af (.z (zbd [_,_,_,_] fM) (.o (.aL (vs:=[_,_,_,_]) hs rfl rfl ju fun w hs=>?_)));exact .zn zg (.ret (rB (rT ((Fin.ki [] [] hs fun w hs=>⟨_,results2 results268 (dK (vs:=[_,_,_,_]) hs rfl isAgg400 ju) rfl,H3,_,_,_,_,_,eI.trans bA,rfl,⟨_,_,_,rfl⟩,⟨_,_,_,rfl⟩,.fls bw hq (fun h=>by rw [rW.2 h] at jq;cases jq),fun h=>by omega,hs.out⟩)))))
   ·refine .skip (nB (nT (.af (.y hs (zls [_,_,_,_] isAgg400 ju) (.o (.aL (vs:=[_,_,_,_]) hs rfl rfl ju fun w hs=>?_))))));exact .zn zg (.ret (Fin.ki [] [] hs fun w hs=>⟨_,results2 results268 (dK (vs:=[_,_,_,_]) hs rfl isAgg400 ju) rfl,H3,_,_,_,_,_,eI.trans bA,rfl,⟨_,_,_,rfl⟩,⟨_,_,_,rfl⟩,.ok bw hq (rW.1 (by simpa using jq)),fun _=>⟨rfl,hL.mono bA,hR.mono bA,rfl⟩,hs.out⟩))
set_option maxHeartbeats 1000000 in
theorem sQ{w:World}{s:Srv}{q:Wht}{vst vwa:Value}(hs:St H w σ)(h1:RI H vst s.sp.st)(h2:RI H vwa s.sp.wa)(h3:RRd H vr s.rs)(h4:RCm H vc s.cs):
  aaq 215 [.agg #[I s.sp.id,I s.sp.src,vst,vwa,I s.sp.al,I s.sp.up,vr,vc],.agg #[I q.kind,I q.st,I q.wa]] w fun u w'=>∃H1 lo hi e,HLe H H1∧u= .tuple #[.agg #[I lo,I hi],I e]∧ID s q lo hi e∧St H1 w' σ:=by
 refine Cl.o func215 ntmps215 ag2 ?_;refine .af (.bx hs fun b2 w hs=>?_);refine .bx hs fun b3 w hs=>?_
 refine .o (.alloc hs qJ rfl fun b4 w hs=>?_);refine .zn zg (.af (.y hs (zls [_,_,_,_,_,_,_,_] df bu) (.y hs (zls [_,_,_] isAgg84 sizeOf84) (.o (.call call268 rfl (sN (s:=s) (q:=q) hs h1 h2 h3 h4) ?_)))));rintro _ w ⟨H1,m,ul,vw,d,e,az,rfl,⟨al,ll,cl,rfl⟩,⟨aw,lw,cw,rfl⟩,hA,Uu,hs⟩;refine .z zm (.z zex (.z zex (.o (.alloc hs Sh rfl fun b6 w hs=>?_))));refine .o (.aL (vs:=[_,_,_,_]) hs rfl rfl ju fun w hs=>?_);refine .zn zg (.seq (.af (.z zm (.zn gv (.gN rfl (fun kS=>?_) (fun kS=>?_))))))
 ·refine .af (.z (zbd [_,_] lH) (.z zm (.o (.aL (vs:=[_,_]) hs rfl rfl cD fun w hs=>?_))));exact .zn zg (.ret (rT ((Fin.ki [] [] hs fun w hs=>⟨_,results2 results215 (dK (vs:=[_,_]) hs rfl om cD) rfl,H1,_,_,_,az,rfl,hA.qty kS,hs.out⟩))))
 ·refine .skip (nT (.af (.z (zfa pF) (.y hs (zls [_,_] ea bR) (.z (zfa pE) (.y hs (zld aC) ?_))))));obtain rfl:e=0:=by simpa using kS
  obtain ⟨rfl,hL,hR,rfl⟩:=Uu rfl;obtain ⟨bw,hq,GA⟩:=hA.zero;refine .o (.call call269 rfl (w9 (s:=s.sys) hs ⟨_,rfl,hL⟩ hR) ?_);rintro _ w ⟨H2,lo,hi,f,aN,rfl,X6,hs⟩;obtain rfl:=Cc (bw.ask hq) GA (fun b=>s.both) X6;have IW:=X6.bd;have hdp:=GW q;refine .z zm (.z zex (.z zex (.z zex (.z zg (.z zg (.zn zg (.seq (.af (.z zm (.zn gv (.gN rfl (fun rU=>?_) (fun rU=>?_))))))))))))
  ·refine .af (.z (zbd [_,_] lH) (.z zm (.o (.aL (vs:=[_,_]) hs rfl rfl cD fun w hs=>?_))));exact .zn zg (.ret (rT (((rU rfl).elim))))
  ·refine .skip (nT (.seq (.draw mix rfl hs fun w hs=>?_)));refine .zw 0 rfl zm ?_;refine .z 1 rfl (zfa kG) ?_;refine .y 2 rfl hs aj ?_;refine .z 4 rfl zm ?_;refine .z 5 rfl (zfa kG) ?_;refine .y 6 rfl hs aj ?_;refine .E 3 hs ?_;refine .call call59 rfl (j6 hs ak ak) ?_;rintro _ w ⟨rfl,hs⟩;refine .go (.E 7 hs ?_);refine .call call59 rfl (j6 hs ak ak) ?_;rintro _ w ⟨rfl,hs⟩;refine .go (.zw 8 rfl (zbd [_,_] lH) (.E 9 hs ?_));refine .aL (vs:=[_,_]) hs rfl rfl cD ?_;intro w hs;refine .go (.zw 10 rfl zg ?_);refine .D hs ?_;exact .ret (Fin.ki [] [] hs fun w hs=>⟨_,results2 results215 (dK (vs:=[_,_]) hs rfl om cD) rfl,H2,_,_,_,az.trans aN,rfl,.ok bw hq GA X6,hs.out⟩)
theorem ph{w:World}{v:Value}{rs:List (List Int)}(q:List Int→Prop)(hs:St H w σ)(hR:RT H v rs)(hl:rs.length≤9223372036854775807)(hc:∀args w,(callFunc g args).run Tryz.prog w= .ok (.enter g args) w)
  (hp:∀H' w σ r u,HLe H H'→RI H' u r→St H' w σ→aaq g ([u]++cap) w fun z w'=>∃H1 b,HLe H' H1∧z= .bool b∧(b=true↔q r)∧St H1 w' σ):
  aaq 168 [v,.func (.func g) #[] cap.toArray] w fun u w'=>∃H1 i,HLe H H1∧u=I i∧(0≤i↔∃x∈rs,q x)∧St H1 w' σ:=by
 obtain ⟨a,c,rfl⟩:=hR.shape;refine Cl.o func168 ntmps168 ag2 ?_;refine .af (.zn zg (.seq (.af (.z zm (.z (bT aK) (.zn zm (.for (N:=rs.length) (J:=fun k fr w=>fr=[(1,.func (.func g) #[] cap.toArray),(0,.slice a rs.length c)]∧∃H1,HLe H H1∧(∀j<k,∀y,rs[j]? =some y→¬q y)∧St H1 w σ) ak ?_ ?_ ?_)))))))
 ·exact .mk ⟨rfl,H,HLe.refl H,fun j hj=>by omega,hs⟩
 ·rintro k fr w hk ⟨rfl,H1,az,ew,hs⟩;have hx:=vW (rs:=rs) hk;refine .block (.af (.z zm (.zn zg (.af (.z zm (.z zm (.z zm (.ixT hs (hR.mono az) rfl rfl aK aP (show k<_ by omega) eu ?_))))))));intro tZ o14 a14 c14 fq Yg;refine .q hs (aR rfl aC fq) (.o (.jN (first:=[]) (cap:=cap) rfl rfl hc (hp _ _ _ (gr rs k) _ az Yg hs) ?_));rintro _ w ⟨H2,vC,aN,rfl,mJ,hs⟩;refine .nil (.cond rfl (fun dO=>?_) (fun dO=>?_))
  ·exact .af (.z zm (.zn zg (.ret (rB (rT (rB (rT (Fin.aW results168 rfl ⟨H2,_,az.trans aN,rfl,⟨fun _=>⟨_,List.mem_of_getElem? hx,mJ.1 dO⟩,fun _=>by omega⟩,hs⟩))))))))
  ·exact .skip (nB (nT (.mk ⟨rfl,H2,az.trans aN,eU ew hx (fun h=>by rw [mJ.2 h] at dO;cases dO),hs⟩)))
 ·rintro fr w ⟨rfl,H1,az,ew,hs⟩;refine nT (.af (.zn zg (.ret (Fin.aW results168 rfl ?_))));exact ⟨H1,_,az,rfl,⟨fun h=>by omega,fun ⟨x,h1,h2⟩=>by
   obtain ⟨j,hj⟩:=List.getElem?_of_mem h1;exact (ew j (List.getElem?_eq_some_iff.1 hj).1 x hj h2).elim⟩,hs⟩
theorem mY{w:World}{v:Value}{rs:List (List Int)}(q:List Int→Prop)(hs:St H w σ)(hR:RT H v rs)(hl:rs.length≤9223372036854775807)(hc:∀args w,(callFunc g args).run Tryz.prog w= .ok (.enter g args) w)
  (hp:∀H' w σ r u,HLe H H'→RI H' u r→St H' w σ→aaq g ([u]++cap) w fun z w'=>∃H1 b,HLe H' H1∧z= .bool b∧(b=true↔q r)∧St H1 w' σ):
  aaq 102 [v,.func (.func g) #[] cap.toArray] w fun u w'=>∃H1 b,HLe H H1∧u= .bool b∧(b=true↔∃x∈rs,q x)∧St H1 w' σ:=by
 refine Cl.o func102 ntmps102 ag2 ?_;refine .af (.zn zg (.af (.z zm (.z zm (.o (.call call168 rfl (ph q hs hR hl hc hp) ?_))))));rintro _ w ⟨H1,i,az,rfl,hi,hs⟩;exact .z zC (.zn zg (.ret (Fin.aW results102 rfl ⟨H1,_,az,rfl,by simp only [decide_eq_true_eq];exact hi,hs⟩)))
theorem yG{w:World}{n:Int}(hs:St H w σ):
  aaq 104 [I n] w fun u w'=>u= .bool (!decide (0≤n∧n≤20000))∧St H w' σ:=by
 refine Cl.o func104 ntmps104 ag1 ?_;refine .af (.zn zg (.af (.z zm (.o (.call gQ rfl (a8 hs) ?_)))));rintro _ w ⟨rfl,hs⟩;exact .z fF (.zn zg (.ret (Fin.aW results104 rfl ⟨rfl,hs⟩)))
theorem BI{w:World}{v vst vwa:Value}{r:List Int}(hs:St H w σ)(hb:Row H b [I s.id,I s.src,vst,vwa,I s.al,I s.up])(h2:RI H vwa s.wa)(hr:RI H v r):
  aaq 103 [v,Pt b] w fun u w'=>∃H1 bb,HLe H H1∧u= .bool bb∧(bb=true↔¬(r.length=s.wa.length∧∀x∈r,0≤x∧x≤20000))∧St H1 w' σ:=by
 obtain ⟨a,c,rfl⟩:=RI.shape hr;obtain ⟨awa,cwa,rfl⟩:=RI.shape h2;have R6:=hb.at 3;refine Cl.o func103 ntmps103 ag2 ?_;refine .af (.zn zg (.af (.z zm (.z (bT ai) (.z (zfa aV) (.y hs (zld aC) (.z (bT ai) (.z gv (.z zm (.G2 (t':=10) rfl (fun nL=>?_) (fun nL=>?_)))))))))))
 ·exact .Fs 2 6 false (.z zpT (.zn zg (.ret (Fin.aW results103 rfl ⟨H,true,HLe.refl H,rfl,⟨fun _ h=>by have:=h.1;simp_all,fun _=>rfl⟩,hs⟩))))
 ·refine .T (.z zm (.T (.o (.call call81 rfl (mD (g:=104) (cap:=[]) (fun n=>¬(0≤n∧n≤20000)) hs hr call104 (fun H' w σ n _ _ hs=>(yG hs).mono fun u w' ⟨g1,g2⟩=>⟨H',_,HLe.refl _,g1,by simp;omega,g2⟩)) ?_))));rintro _ w ⟨H1,oE,az,rfl,yR,hs⟩;refine .z zpF (.zn zg (.ret (Fin.aW results103 rfl ?_)));have hlen:r.length=s.wa.length:=by simp_all;omega
  exact ⟨H1,_,az,rfl,by
   rw [yR];constructor
   ·rintro ⟨x,h1,h2⟩ h;exact h2 (h.2 x h1)
   ·intro h;refine Classical.byContradiction fun hn=>h ⟨hlen,fun x hx=>Classical.byContradiction fun Wy=>hn ⟨x,hx,Wy⟩⟩,hs⟩
theorem M7:tL s rows↔rows.length=s.st.length∧∀r∈rows,r.length=s.wa.length∧∀x∈r,0≤x∧x≤20000:=by
 constructor
 ·rintro ⟨h1,h2,h3⟩;refine ⟨h1,fun r hr=>?_⟩;obtain ⟨i,hi⟩:=List.getElem?_of_mem hr;have Km:=(List.getElem?_eq_some_iff.1 hi).1;have hg:=vW Km;rw [hi] at hg;obtain rfl:=Option.some.inj hg;have hl:=h2 i ak;refine ⟨hl,fun x hx=>?_⟩;obtain ⟨k,hk⟩:=List.getElem?_of_mem hx;have EN:=(List.getElem?_eq_some_iff.1 hk).1;have ZD:=ck EN;rw [hk] at ZD;obtain rfl:=Option.some.inj ZD;exact h3 i ak k ak
 ·rintro ⟨h1,h2⟩;have hm:∀i<s.st.length,gr rows i∈rows:=fun i hi=>List.mem_of_getElem? (vW ak)
  refine ⟨h1,fun i hi=>(h2 _ (hm i hi)).1,fun i hi k hk=>?_⟩;have hl:=(h2 _ (hm i hi)).1;exact (h2 _ (hm i hi)).2 _ (List.mem_of_getElem? (ck ak))
theorem rD{w:World}{vst vwa vh:Value}(hs:St H w σ)(h1:RI H vst s.st)(h2:RI H vwa s.wa)(hr:RT H vh rows):
  aaq 56 [.agg #[I s.id,I s.src,vst,vwa,I s.al,I s.up],.agg #[vh]] w fun u w'=>∃H1 b,HLe H H1∧u= .bool b∧(b=true↔tL s rows)∧St H1 w' σ:=by
 obtain ⟨ast,cst,rfl⟩:=RI.shape h1;obtain ⟨awa,cwa,rfl⟩:=RI.shape h2;obtain ⟨ah,ch,rfl⟩:=hr.shape;have EL:=(hr.len).2.2;refine Cl.o func56 ntmps56 ag2 ?_;refine .af (.bx hs fun b2 w hs=>?_);refine .bx hs fun b3 w hs=>?_
 refine .zn zg (.af (.z (zfa nQ) (.y hs (zld isAgg79) (.z (bT aK) (.z (zfa bh) (.y hs (zld aC) (.z (bT ai) (.z fW (.z zm (.jK (t':=12) rfl (fun yR=>?_) (fun yR=>?_)))))))))))
 ·refine .T (.z (zfa nQ) (.T (.y hs (zld isAgg79) (.T (.q hs (dv (f:=[]) (c:=[_]) rfl rfl) (.T ?_))))));obtain ⟨H0,fA,AV,hs⟩:=hs.bG (b:=b2) cg;refine .o (.call call102 rfl (mY (g:=103) (cap:=[Pt b2]) (fun r=>¬(r.length=s.wa.length∧∀x∈r,0≤x∧x≤20000)) hs (hr.mono fA) EL call103 (fun H' w σ r u hle hu hs=>BI (s:=s) hs (AV.mono hle) (h2.mono (fA.trans hle)) hu)) ?_);rintro _ w ⟨H1,vC,az,rfl,mJ,hs⟩;refine .T (.z fF (.z zpT (.zn zg (.ret (Fin.aW results56 rfl ?_)))));exact ⟨H1,_,fA.trans az,rfl,by
   rw [M7];have hlen:rows.length=s.st.length:=by omega
   cases Ab:vC with
   |true=>
    obtain ⟨x,hx,hn⟩:=mJ.1 Ab;exact ⟨fun h=>(by cases h),fun h=>(hn (h.2 x hx)).elim⟩
   |false=>exact ⟨fun _=>⟨hlen,fun r hr=>Classical.byContradiction fun hn=>by rw [mJ.2 ⟨r,hr,hn⟩] at Ab;cases Ab⟩,fun _=>rfl⟩,hs.out⟩
 ·exact .Fs 5 7 true (.z zpF (.zn zg (.ret (Fin.aW results56 rfl ⟨H,_,HLe.refl H,rfl,⟨fun h=>(by cases h),fun h=>by have:=h.len;omega⟩,hs.out⟩))))
set_option maxHeartbeats 1000000 in
theorem sP{w:World}{q:Wht}{vst vwa vh:Value}(hs:St H w σ)(h1:RI H vst s.st)(h2:RI H vwa s.wa)(hr:RT H vh rows):
  aaq 17 [.agg #[I s.id,I s.src,vst,vwa,I s.al,I s.up],.agg #[vh],.agg #[I q.kind,I q.st,I q.wa]] w fun u w'=>∃H1 n e,HLe H H1∧u= .tuple #[I n,I e]∧Cm s rows q n e∧St H1 w' σ:=by
 obtain ⟨ah,ch,rfl⟩:=hr.shape;refine Cl.o func17 ntmps17 ag3 ?_;refine .af (.bx hs fun b3 w hs=>?_);refine .bx hs fun b4 w hs=>?_
 refine .bx hs fun b5 w hs=>?_
 refine .z zg (.zn zg (.seq (.af (.y hs (zls [_,_,_,_,_,_] bC aM) (.o (.call call55 rfl (fZ (s:=s) hs h1 h2) ?_))))));rintro _ w ⟨H1,e,az,rfl,he,hs⟩;refine .zn zg (.af (.z zm (.zn gv (.gN rfl (fun kS=>?_) (fun kS=>?_)))))
 ·refine .af (.z zm (.z zg (.zn zg (.ret (rT (?_))))));have hq:¬fV s∧e=30:=he.resolve_left fun h=>kS h.2
  exact Fin.ki [] [] hs fun w hs=>⟨_,results2 results17 rfl rfl,H1,_,_,az,rfl,by rw [hq.2];exact .space hq.1,hs.out⟩
 ·refine .skip (nT (.seq (.af (.y hs (zls [_,_,_,_,_,_] bC aM) (.y hs (zls [_] isAgg81 sizeOf81) ?_)))));have bw:fV s:=(he.resolve_right fun h=>by omega).1;have sX:=gx bw;refine .o (.call call56 rfl (rD (s:=s) hs (h1.mono az) (h2.mono az) (hr.mono az)) ?_);rintro _ w ⟨H2,aao,aN,rfl,Ig,hs⟩;have eI:=az.trans aN;refine .zn fF (.cond rfl (fun ny=>?_) (fun ny=>?_))
  ·exact .af (.z zg (.zn zg (.ret (rT ((Fin.ki [] [] hs fun w hs=>⟨_,results2 results17 rfl rfl,H2,_,_,eI,rfl,.hull bw (fun h=>by rw [Ig.2 h] at ny;cases ny),hs.out⟩))))))
  ·refine .skip (nT (.af (.y hs (zls [_,_,_,_,_,_] bC aM) (.y hs (zls [_,_,_] isAgg84 sizeOf84) ?_))));have hh:tL s rows:=Ig.1 (by simpa using ny);refine .o (.call call57 rfl (lj (s:=s) (q:=q) hs (h1.mono eI) (h2.mono eI) bw) ?_);rintro _ w ⟨H3,vl,L,d,b,en,bA,rfl,hO,kC,hs⟩;have jm:=eI.trans bA;obtain ⟨al,cl,rfl⟩:=hO.Sr;refine .z zm (.z zex (.z zex (.z zex (.o (.alloc hs mQ rfl fun b9 w hs=>?_)))));refine .o (.store hs rfl rfl aP fun w hs=>?_);refine .z zg (.zn zg (.seq (.af (.z zm (.zn fF (.cond rfl (fun s8=>?_) (fun s8=>?_)))))))
   ·refine .af (.z zg (.zn zg (.ret (rT (?_)))));have hq:¬iy s q:=by
     rcases kC with ⟨g,_⟩|⟨_,g,_⟩
     ·subst g;cases s8
     ·exact g
    exact Fin.ki [] [] hs fun w hs=>⟨_,results2 results17 rfl rfl,H3,_,_,jm,rfl,.what bw hh hq,hs.out⟩
   ·refine .skip (nT (.af (.o (.alloc hs dM rfl fun oE w hs=>?_))));refine .o (.store hs rfl rfl an fun w hs=>?_);refine .nil (.seq (.af (.y hs (zls [_,_,_,_,_,_] bC aM) ?_)));obtain ⟨rfl,hq,rfl,rfl⟩:b=true∧iy s q∧L=sv s q∧d=A0 q:=kC.resolve_right fun h=>by rw [h.1] at s8;cases s8
    have LF:=jX s q;obtain ⟨H4,gz,hW,hs⟩:=bE.bX hO ak hs cg;have vU:=jm.trans gz;refine .o (.call call58 rfl (gy (s:=s) hs (h1.mono vU) (h2.mono vU) ⟨ak,ak⟩) ?_);rintro _ w ⟨H5,ba,ib,rfl,sq,hs⟩;have vT:=vU.trans ib;replace hW:=hW.mono ib;have hr5:=hr.mono vT;refine .nil (.block ?_);refine .rangeFunc (gf:=106) (cap:=[Pt ba]) (xs:=CE s) (σb:=[.blk oE [I (iB s q rows 0)],.blk b9 [.slice al (sv s q).length cl],.blk b4 [.slice ah rows.length ch]]) (σf:=σ) (hs.sb) trivial rfl sq call106 (fun x hx=>by
      simp only [CE,List.mem_map] at hx;obtain ⟨j,_,rfl⟩:=hx;rfl) rfl
     (I:=fun p H' σb=>σb=[.blk oE [I (iB s q rows p)],.blk b9 [.slice al (sv s q).length cl],.blk b4 [.slice ah rows.length ch]]) (Ix:=fun _ _ _=>False)
     (fun j _ _ σ g1 g2=>g2) (fun _ _ _ _ _ h=>h) rfl ?_ ?_ (fun D c H' σb w _ h _=>h.elim)
    ·rintro ly p hp H6 Cx zB w l7 rfl hs ⟨rr,LH⟩;have HP:p<s.many:=by rw [eF] at hp;exact hp
     have fH:p/s.wa.length<s.st.length:=Nat.div_lt_of_lt_mul (by rw [Nat.mul_comm];exact HP);have OV:=Nat.mod_lt p sX.2.2.1;have oz:iB s q rows (p+1)=iB s q rows p+gi (sv s q) (p+1)*gt rows (p/s.wa.length) (p%s.wa.length):=rfl;have KM:=qh bw hq hh p ak;have D6:=qh bw hq hh (p+1) ak;have Vh:=uh bw hq;have hwz2:=pZ (sv s q) (v:=p+1) (n:=s.many+1) ak;have HQ:=hh.num _ fH _ OV;have sY:=hh.row _ fH;have Zo:=hh.len;have W2:=pv (a:=gi (sv s q) (p+1)) (b:=gt rows (p/s.wa.length) (p%s.wa.length)) (A:=3456000000000) (B:=20000) ak ak;have Xp:gt rows (p/s.wa.length) (p%s.wa.length)=gi (gr rows (p/s.wa.length)) (p%s.wa.length):=rfl;rw [qj hp];generalize p/s.wa.length=i at*;generalize p%s.wa.length=k at*;rw [Xp] at oz W2 HQ;refine .region (.o (.alloc hs EE rfl fun lJ w hs=>?_));refine .o (.aL (vs:=[_,_,_]) hs rfl rfl U5 fun w hs=>?_);refine .nil (nT ⟨H6,[.blk lJ [I (i:Int),I (k:Int),I ((p+1:Nat):Int)],.blk oE [I (iB s q rows p)],.blk b9 [.slice al (sv s q).length cl],.blk b4 [.slice ah rows.length ch]],HLe.refl _,hs,?_⟩);rintro w zA - hs;refine .block (.draw mix rfl hs fun w hs=>?_);refine .y 0 rfl hs aj ?_;refine .y 1 rfl hs aC ?_;refine .z 2 rfl (zfa ef) ?_;refine .y 3 rfl hs aj ?_;refine .ixX (enc:=fun x=>[I x]) (i:=4) hs rfl aF .none (hW.mono l7) rfl rfl ai an (ck (l:=(sv s q)) (i:=(p+1)) ak) eu ?_;intro YB o39 wO;replace wO:=bI.one wO;refine .r (i:=5) hs rfl aF .none (aR rfl aj wO) ?_;refine .zw 6 rfl (zfa nQ) ?_;refine .y 7 rfl hs isAgg79 ?_;refine .z 8 rfl (zfa dj) ?_;refine .y 9 rfl hs aj ?_;refine .ixT (i:=10) hs rfl aF .none (hr5.mono l7) rfl rfl aK aP (show i<_ by omega) eu ?_;intro aan o45 a45 c45 Nn Yb;refine .r (i:=11) hs rfl aF .none (aR rfl aC Nn) ?_;refine .zw 12 rfl (zfa cV) ?_;refine .y 13 rfl hs aj ?_;refine .ixX (enc:=fun x=>[I x]) (i:=14) hs rfl aF .none Yb rfl rfl ai an (ck (l:=(gr rows i)) (i:=k) ak) eu ?_;intro Yz o49 DY;replace DY:=bI.one DY;refine .r (i:=15) hs rfl aF .none (aR rfl aj DY) ?_;refine .zw 16 rfl oq ?_;refine .z 17 rfl cC ?_;refine .E 18 hs ?_;refine .store hs rfl rfl an ?_;intro w hs;exact .go (.D hs (nB ⟨H6,[.blk oE [I (iB s q rows (p+1))],.blk b9 [.slice al (sv s q).length cl],.blk b4 [.slice ah rows.length ch]],HLe.refl _,by rw [oz];exact (hs.sb:St H6 w (.blk oE _:: .blk b9 _:: .blk b4 _::zA)),rfl⟩))
    ·rintro D H6 Cx w l7 rfl hs;rw [eF] at hs;replace hs:St H6 w (.obj D (.deferred (some [])):: .blk oE [I (iB s q rows s.many)]:: .blk b9 [.slice al (sv s q).length cl]:: .blk b4 [.slice ah rows.length ch]::σ):=hs;have IW:=qh bw hq hh s.many ak;have hdp:=GW q;refine nB (nT (.af (.y hs (zld aj) (.z zm (.o (.call call59 rfl (j6 hs ak ak) ?_))))));rintro _ w ⟨rfl,hs⟩;exact .z zg (.zn zg (.ret (Fin.ki [D] [] hs fun w hs=>⟨_,results2 results17 rfl rfl,H6,_,_,vT.trans l7,rfl,.ok bw hh hq,hs.out⟩)))
theorem ja{w:World}{G4 bs:List Int}(hs:St H w σ)(h1:RI H v1 G4)(h2:RI H v2 bs):
  aaq 26 [v1,v2] w fun u w'=>u= .bool (decide (G4=bs))∧St H w' σ:=by
 obtain ⟨a1,c1,rfl⟩:=RI.shape h1;obtain ⟨a2,c2,rfl⟩:=RI.shape h2;have l1:=(RI.len h1).2.2;refine Cl.o func26 ntmps26 ag2 ?_;refine .af (.zn zg (.af (.z zm (.z (bT ai) (.z zm (.z (bT ai) (.z fW (.zn zg (.seq (.af (.zn zg (.block ?_))))))))))));refine .loop (fun p:Nat×Bool=>⟨31,[],[(6,I (p.1:Int)),(5,.bool p.2),(0,.slice a1 G4.length c1),(1,.slice a2 bs.length c2)]⟩)
  (fun p w=>p.1≤G4.length∧(p.2=true↔G4.length=bs.length∧∀j<p.1,gi G4 j=gi bs j)∧St H w σ) (fun p=>G4.length - p.1) (0,decide ((G4.length:Int)=bs.length)) bg
  ⟨Nat.zero_le _,by dsimp only;rw [decide_eq_true_eq];exact ⟨fun h=>⟨ak,fun j hj=>by omega⟩,fun h=>by omega⟩,hs⟩ ?_
 rintro ⟨k,b⟩ w ⟨hk,hb,hs⟩;dsimp only at hk hb ⊢;refine .seq (.af (.z zm (.z zm (.z (bT ai) (.z fT (.z zm (.jK (t':=16) rfl (fun mJ=>?_) (fun mJ=>?_))))))))
 ·refine .T (.z zm (.zn zpT (.cond rfl (fun oQ=>?_) (fun oQ=>?_))))
  ·refine .skip (nT (.seq (.block (.draw mix rfl hs fun w hs=>?_))));refine .zw 0 rfl zm ?_;refine .z 1 rfl zm ?_;obtain rfl:b=true:=by assumption
   obtain ⟨hlen,rX⟩:=hb.1 rfl;refine .ixX (enc:=fun x=>[I x]) (i:=2) hs rfl aF .none h1 rfl rfl ai an (ck (l:=G4) (i:=k) ak) eu ?_;intro Iv o23 jM;replace jM:=bI.one jM;refine .r (i:=3) hs rfl aF .none (aR rfl aj jM) ?_;refine .zw 4 rfl zm ?_;refine .z 5 rfl zm ?_;refine .ixX (enc:=fun x=>[I x]) (i:=6) hs rfl aF .none h2 rfl rfl ai an (ck (l:=bs) (i:=k) ak) eu ?_;intro Aq o27 rV;replace rV:=bI.one rV;refine .r (i:=7) hs rfl aF .none (aR rfl aj rV) ?_;refine .zw 8 rfl fW ?_;refine .z 9 rfl zg ?_;refine .D hs ?_;refine nB (nT (.region (.z zm (.z cC (.zn zg (nT ?_))))));exact ⟨(k+1,decide (gi G4 k=gi bs k)),.dw rfl aU bg,⟨by dsimp only;omega,by
    dsimp only;rw [decide_eq_true_eq];exact ⟨fun h=>⟨hlen,fun j hj=>by
     by_cases e:j=k
     ·subst e;exact h
     ·exact rX j ak⟩,fun h=>h.2 k ak⟩,hs⟩,by dsimp only;omega⟩
  ·refine .exit (xT (xT (xB (nT (.af (.z zm (.zn zg (.ret (Fin.aW results26 rfl ?_)))))))));have hf:b=false:=by simpa using oQ
   exact ⟨by rw [hf,decide_eq_false (fun h=>by subst h;rw [hb.2 ⟨rfl,fun j _=>rfl⟩] at hf;cases hf)],hs⟩
 ·refine .Fs 1 4 true (.zn zpF (.cF (.exit (xT (xT (xB (nT (.af (.z zm (.zn zg (.ret (Fin.aW results26 rfl ⟨?_,hs⟩))))))))))))
  congr 1
  cases Ab:b with
  |true=>
   obtain ⟨hl,ha⟩:=hb.1 Ab;rw [decide_eq_true (Pp hl fun j hj=>ha j ak)]
  |false=>rw [decide_eq_false (fun h=>by subst h;rw [hb.2 ⟨rfl,fun j _=>rfl⟩] at Ab;cases Ab)]
theorem da{w:World}{n:Int}(hs:St H w σ)(hm:1≤m∧m≤4611686018427387904):
  aaq 10 [I n,I m] w fun u w'=>∃k:Nat,(k:Int)<m∧u=I (k:Int)∧St H w' σ:=by
 have h1:=Int.tmod_lt_of_pos n (show 0<m by omega);have h2:=Int.lt_tmod_of_pos n (show 0<m by omega);have h3:=Int.tmod_lt_of_pos (n.tmod m+m) (show 0<m by omega);have h4:=Int.tmod_nonneg m (show 0≤n.tmod m+m by omega);refine Cl.o func10 ntmps10 ag2 ?_;exact .af (.zn zg (.af (.z zm (.z zm (.z IQ (.z zm (.z cC (.z zm (.z IQ (.zn zg (.ret (Fin.aW results10 rfl ⟨((n.tmod m+m).tmod m).toNat,ak,by rw [show (((n.tmod m+m).tmod m).toNat:Int)=(n.tmod m+m).tmod m by omega],hs⟩))))))))))))
theorem cK{w:World}{v:Value}{i n:Int}(hs:St H w σ)(hr:RI H v l)(hi:0≤i)(hn:1≤n∧n≤4611686018427387904):
  aaq 75 [v,I i,I n] w fun u w'=>∃k:Nat,(k:Int)<n∧u=I (k:Int)∧St H w' σ:=by
 obtain ⟨a,c,rfl⟩:=RI.shape hr;refine Cl.o func75 ntmps75 ag3 ?_;refine .af (.zn zg (.seq (.af (.z zm (.z (bT ai) (.zn fW (.bQ rfl (fun sr=>?_) (fun sr=>?_))))))))
 ·exact .af (.zn zg (.ret (rT (Fin.aW results75 rfl ⟨0,ak,rfl,hs⟩))))
 ·refine .skip (nT (.af (.z zm (.z zm (.z zm (.z (bT ai) (.z IQ ?_)))))));have g1:=Int.tmod_lt_of_pos i (show 0<(l.length:Int) by omega);have g2:=Int.tmod_nonneg (l.length:Int) hi;refine .ixY hs hr rfl rfl ai an (ck (l:=l) (i:=(i.tmod l.length).toNat) ak) ak ?_;intro Ll o15 pA;refine .q hs (aR rfl aj pA) (.z zm (.o (.call kP rfl (da hs hn) ?_)));rintro _ w ⟨k,hk,rfl,hs⟩;exact .zn zg (.ret (Fin.aW results75 rfl ⟨k,hk,rfl,hs⟩))
theorem yf{w:World}{v:Value}{s:dL}{kA:List Int}(hs:St H w σ)(hr:RSy H v s)(hp:RI H vp kA)(nx:s.Ok∧s.Sound):
  aaq 78 [v,vp] w fun u w'=>∃H1 vx x en,HLe H H1∧u= .tuple #[vx,I 0]∧bE 1 vx (Is x) en∧A7 s kA x∧St H1 w' (en::σ):=by
 obtain ⟨ul,rfl,hl⟩:=hr;obtain ⟨al,cl,rfl⟩:=RL.shape hl;obtain ⟨ap,cp,rfl⟩:=RI.shape hp;refine Cl.o func78 ntmps78 ag2 ?_;refine .af (.bx hs fun b2 w hs=>?_);refine .z zg (.zn zg (.af (.y hs (zls [_,_] ea bR) (.o (.call call76 rfl (ou (s:=s) hs ⟨_,rfl,hl⟩) ?_)))));rintro _ w ⟨H1,vt,e,az,rfl,kC,hs⟩;refine .z zm (.z zex (.z zex (.z zg (.zn zg (.seq (.af (.z zm (.zn gv (.gN rfl (fun uR=>?_) (fun uR=>?_))))))))))
 ·refine .af (.z zm (.z zg (.zn zg (.ret (rT (Fin.mh results78 rfl rfl ?_))))))
  rcases kC with ⟨h1,rfl,rfl⟩|⟨h1,h2,rfl,rfl⟩|⟨_,_,rfl,_⟩
  ·exact (h1 (s.jz.2 nx.1)).elim
  ·exact (h2 nx.2).elim
  ·exact (uR rfl).elim
 ·refine .skip (nT (.af ?_));subst uR;obtain ⟨bw,GA,rs,KP,R7,Uj⟩:s.Ok∧s.Sound∧∃rs,RT H1 vt rs∧Sq s.n rs∧ma s.n s.de (gt rs):=by
   rcases kC with ⟨h1,h2,_⟩|⟨_,_,h2,_⟩|⟨h1,h2,_,h3⟩
   ·exact (h1 h2.symm).elim
   ·omega
   ·exact ⟨h1,h2,h3⟩
  obtain ⟨at',ct,rfl⟩:=KP.shape;have Nv:=bw.U7 GA Uj;have EL:=R7.1;have HR:=bw.m0;have LK:=bw.m1;have LJ:(s.n:Int)=s.many+1:=by simp only [dL.n];omega
  refine .o (.buildSlice (cells:=[_]) hs bO rfl rfl fun Iw w hs=>?_);refine .zn zg (.seq (.af (.zn zg (.block ?_))));refine .loop (fun p:List Int×Value=>⟨109,[],[(9,I (p.1.length:Int)),(8,p.2),(6,.slice at' rs.length ct),(2,Pt b2),(1,.slice ap kA.length cp)]⟩)
   (fun p w=>RG (gt rs) (sJ kA) p.1∧p.1.length≤s.n∧∃en,bE 1 p.2 (Is p.1) en∧St H1 w (en:: .blk b2 [I s.many,.slice al s.dU.length cl]::σ))
   (fun p=>s.n - p.1.length) ([0],.slice (some ⟨Iw,0,none⟩) 1 1) bg
   ⟨.start,s.JN,_,.full (len:=1) rfl,hs⟩ ?_
  rintro ⟨X,v8⟩ w ⟨hP,ZV,en,hO,hs⟩;dsimp only at hP ZV hO ⊢;have hI:=hP.inv (fun i n hn=>Bv kA i hn) Nv ZV;have hX0:=hI.l0;have NA:=hO;obtain ⟨b,cap,sp,rfl,rfl,mI⟩:=hO.some hX0;refine .seq (.af (.z zm (.z (zfa bS) (.y hs (zld aj) (.zn ql (.bQ rfl (fun jo=>?_) (fun jo=>?_)))))))
  ·refine .skip (nT (.seq (.block (.af (.zn zg ?_)))));have Ih:X.length<s.n:=by omega
   refine .af (.zn zg (.seq (.af (.z zm (.z (bT ai) (.zn zm (.for (N:=X.length) (J:=fun k fr w=>∃lo hi,fr=[(10,I lo),(11,I hi),(9,I (X.length:Int)),(8,.slice (some ⟨b,0,none⟩) X.length cap),(6,.slice at' rs.length ct),(2,Pt b2),(1,.slice ap kA.length cp)]∧LoI (gt rs) X X.length k lo∧HiI (gt rs) X X.length k hi∧St H1 w (.blk b (Is X++sp):: .blk b2 [I s.many,.slice al s.dU.length cl]::σ)) ak ?_ ?_ ?_)))))))
   ·exact .mk ⟨_,_,rfl,.start _ _ _,.start _ _ _,hs⟩
   ·rintro k fr w hk ⟨lo,hi,rfl,R9,Sb,hs⟩;have ZW:=hI.bd k hk;have OI:(gr rs X.length).length=s.n:=R7.2 _ Ih;have BO:(gr rs k).length=s.n:=R7.2 _ ak;have D6:gi (gr rs X.length) k≠1000000000→-1400000≤gi (gr rs X.length) k∧gi (gr rs X.length) k≤1400000:=fun h=>Nv.bd X.length k Ih ak h
    have AV:gi (gr rs k) X.length≠1000000000→-1400000≤gi (gr rs k) X.length∧gi (gr rs k) X.length≤1400000:=fun h=>Nv.bd k X.length ak Ih h
    refine .block (.af (.z zm (.zn zg (.cut (fun fs w=>∃lo',ob fs ⟨109,[],[(10,I lo'),(12,I (k:Int)),(31,I (k:Int)),(30,I (X.length:Int)),(11,I hi),(9,I (X.length:Int)),(8,.slice (some ⟨b,0,none⟩) X.length cap),(6,.slice at' rs.length ct),(2,Pt b2),(1,.slice ap kA.length cp)]⟩∧LoI (gt rs) X X.length (k+1) lo'∧St H1 w (.blk b (Is X++sp):: .blk b2 [I s.many,.slice al s.dU.length cl]::σ)) ?_ ?_))))
    ·refine .af (.z zm (.z zm (.ixT hs KP rfl rfl aK aP (show X.length<rs.length by omega) rfl ?_)));intro YC o36 a36 c36 BT Ye;refine .q hs (aR rfl aC BT) (.z zm (.ixY hs Ye rfl rfl ai an (ck (l:=gr rs X.length) (i:=k) ak) rfl ?_));intro YB o39 wO;refine .q hs (aR rfl aj wO) (.zn gv (.gN rfl (fun z8=>?_) (fun z8=>?_)))
     ·refine .draw mix rfl hs fun w hs=>?_
      refine .zw 0 rfl zm ?_;refine .z 1 rfl zm ?_;refine .z 2 rfl zm ?_;refine .z 3 rfl (zix ai an) ?_;refine .load (i:=4) hs rfl aF .none rfl aj ?_ (hv:=gV hk sp);refine .zw 5 rfl zm ?_;refine .z 6 rfl zm ?_;refine .ixT (i:=7) hs rfl aF .none KP rfl rfl aK aP (show X.length<rs.length by omega) rfl ?_;intro Yz o49 a49 c49 DY Ya;refine .r (i:=8) hs rfl aF .none (aR rfl aC DY) ?_;refine .zw 9 rfl zm (.ixX (enc:=fun x=>[I x]) (i:=10) hs rfl aF .none Ya rfl rfl ai an (ck (l:=gr rs X.length) (i:=k) ak) rfl ?_);intro b52 o52 Kv;replace Kv:=bI.one Kv;refine .r (i:=11) hs rfl aF .none (aR rfl aj Kv) ?_;refine .zw 12 rfl jj ?_;refine .z 13 rfl RO ?_;refine .z 14 rfl zg ?_;refine .D hs ?_;exact nT ⟨_,bg,R9.put z8 (by have:=D6 z8;have:=ZW;have:=Nv.n65;show -1000000000≤gi X k - gi (gr rs X.length) k;omega),hs⟩
     ·exact .skip (nT ⟨_,bg,R9.skip z8,hs⟩)
    ·rintro fs w ⟨lo',j8,Uo,hs⟩;refine WE.sub ?_ j8;refine .af (.z zm (.z zm (.ixT hs KP rfl rfl aK aP (show k<rs.length by omega) rfl ?_)));intro UM o58 a58 c58 s6 X9;refine .q hs (aR rfl aC s6) (.z zm (.ixY hs X9 rfl rfl ai an (ck (l:=gr rs k) (i:=X.length) ak) rfl ?_));intro b61 o61 Ku;refine .q hs (aR rfl aj Ku) (.zn gv (.gN rfl (fun wN=>?_) (fun wN=>?_)))
     ·refine .draw mix rfl hs fun w hs=>?_
      refine .zw 0 rfl zm ?_;refine .z 1 rfl zm ?_;refine .z 2 rfl zm ?_;refine .z 3 rfl (zix ai an) ?_;refine .load (i:=4) hs rfl aF .none rfl aj ?_ (hv:=gV hk sp);refine .zw 5 rfl zm ?_;refine .z 6 rfl zm ?_;refine .ixT (i:=7) hs rfl aF .none KP rfl rfl aK aP (show k<rs.length by omega) rfl ?_;intro b71 o71 a71 c71 XH X8;refine .r (i:=8) hs rfl aF .none (aR rfl aC XH) ?_;refine .zw 9 rfl zm (.ixX (enc:=fun x=>[I x]) (i:=10) hs rfl aF .none X8 rfl rfl ai an (ck (l:=gr rs k) (i:=X.length) ak) rfl ?_);intro b74 o74 QP;replace QP:=bI.one QP;refine .r (i:=11) hs rfl aF .none (aR rfl aj QP) ?_;refine .zw 12 rfl cC ?_;refine .z 13 rfl LW ?_;refine .z 14 rfl zg ?_;refine .D hs ?_;exact nB (nT (.mk ⟨lo',_,rfl,Uo,Sb.put wN (by have:=AV wN;have:=ZW;have:=Nv.n65;show gi X k+gi (gr rs k) X.length≤1000000000;omega),hs⟩))
     ·exact .skip (nB (nT (.mk ⟨lo',_,rfl,Uo,Sb.skip wN,hs⟩)))
   ·rintro fr w ⟨lo,hi,rfl,R9,Sb,hs⟩;have IV:=R9.bd hI Nv Ih (Nat.le_refl _);have hhb:=Sb.bd hI Nv Ih (Nat.le_refl _);have hle:=hI.le Nv Ih rfl R9 Sb;simp only [free] at IV hhb hle;have Vp:=Bv kA ((X.length:Int) - 1) (n:=hi - lo+1);refine nT (.af (.zn zg (.cut (fun fs w=>ob fs ⟨109,[],[(13,I (kY lo hi (sJ kA ((X.length:Int) - 1) (hi - lo+1)))),(9,I (X.length:Int)),(8,.slice (some ⟨b,0,none⟩) X.length cap),(6,.slice at' rs.length ct),(2,Pt b2),(1,.slice ap kA.length cp)]⟩∧St H1 w (.blk b (Is X++sp):: .blk b2 [I s.many,.slice al s.dU.length cl]::σ)) ?_ ?_)))
    ·refine .block (.af (.z zm (.z gv (.z zm (.G2 (t':=82) rfl (fun Ud=>?_) (fun Ud=>?_))))))
     ·refine .T (.z zm (.T (.z gv (.z zpT (.zn zg (.gN rfl (fun TX=>?_) (fun TX=>?_)))))))
      ·refine .region (.z zm (.z zm (.z zm (.z jj (.z zm (.z zm (.z jj (.z cC (.o (.call call138 rfl (yg hs (hp.mono az) ak ak) ?_))))))))));rintro _ w ⟨rfl,hs⟩;have OK:hi≠1000000000:=by simpa using TX
       have hq2:=hle (by simpa using Ud) OK;have hq3:=Vp ak;refine .z cC (.zn zg (nB (nT ⟨.dw rfl ?_ bg,hs⟩)));unfold kY;simp only [free] at*;split<;>(try split)<;>first|rfl|omega|(simp_all;done)|(exfalso;simp_all;omega)
      ·refine .af (.z zm (.z gv (.zn zg (.gN rfl (fun Nk=>?_) (fun Nk=>?_)))))
       ·refine .region (.z zm (.zn zg (nB (nT ⟨.dw rfl ?_ bg,hs⟩))));unfold kY;simp only [free] at*;split<;>(try split)<;>first|rfl|omega|(simp_all;done)|(exfalso;simp_all;omega)
       ·refine .af (.z zm (.z gv (.zn zg (.gN rfl (fun D2=>?_) (fun D2=>?_)))))
        ·refine .region (.z zm (.zn zg (nB (nT ⟨.dw rfl ?_ bg,hs⟩))));unfold kY;simp only [free] at*;split<;>(try split)<;>first|rfl|omega|(simp_all;done)|(exfalso;simp_all;omega)
        ·refine .skip (nB (nT ⟨.dw rfl ?_ bg,hs⟩));unfold kY;simp only [free] at*;split<;>(try split)<;>first|rfl|omega|(simp_all;done)|(exfalso;simp_all;omega)
     ·refine .Fs 2 2 true (.z zpF (.zn zg (.cF (.af (.z zm (.z gv (.zn zg (.gN rfl (fun Nk=>?_) (fun Nk=>?_)))))))))
      ·refine .region (.z zm (.zn zg (nB (nT ⟨.dw rfl ?_ bg,hs⟩))));unfold kY;simp only [free] at*;split<;>(try split)<;>first|rfl|omega|(simp_all;done)|(exfalso;simp_all;omega)
      ·refine .af (.z zm (.z gv (.zn zg (.gN rfl (fun D2=>?_) (fun D2=>?_)))))
       ·refine .region (.z zm (.zn zg (nB (nT ⟨.dw rfl ?_ bg,hs⟩))));unfold kY;simp only [free] at*;split<;>(try split)<;>first|rfl|omega|(simp_all;done)|(exfalso;simp_all;omega)
       ·refine .skip (nB (nT ⟨.dw rfl ?_ bg,hs⟩));unfold kY;simp only [free] at*;split<;>(try split)<;>first|rfl|omega|(simp_all;done)|(exfalso;simp_all;omega)
    ·rintro fs w ⟨j8,hs⟩;refine WE.sub ?_ j8;refine .region (.z zm (.z zm (.o (.buildSlice (cells:=[_]) hs bO rfl rfl fun YM w hs=>?_))));refine .o (.append (ys:=Is [kY lo hi (sJ kA ((X.length:Int) - 1) (hi - lo+1))]) hs bJ rfl rfl NA (.own .here rfl rfl) (pV _) (fun l' h=>by simp at h;have:=Nv.n65;omega) ?_);intro v107 en107 w gM hs;rw [←List.map_append] at gM;exact .zn zg (nB (nT (.region (.z zm (.z cC (.zn zg (nT ⟨(X++[kY lo hi (sJ kA ((X.length:Int) - 1) (hi - lo+1))],v107),.dw rfl aU bg,⟨hP.snoc R9 Sb,by simp;omega,_,gM,hs.sb⟩,by simp;omega⟩)))))))
  ·exact .exit (xT (xT (xB (nT (.af (.z zm (.z zg (.zn zg (.ret (Fin.mh results78 rfl rfl ⟨H1,_,X,_,az,rfl,NA,⟨gt rs,Uj,hP,ak⟩,hs.sb⟩))))))))))
theorem pn{w:World}{s:Srv}{vst vwa:Value}(hs:St H w σ)(h1:RI H vst s.sp.st)(h2:RI H vwa s.sp.wa)(h3:RRd H vr s.rs)(h4:RCm H vc s.cs)(he:s.early):
  aaq 77 [.agg #[I s.sp.id,I s.sp.src,vst,vwa,I s.sp.al,I s.sp.up,vr,vc]] w fun u w'=>∃H1,HLe H H1∧RSy H1 u s.qw∧St H1 w' σ:=by
 obtain ⟨ar,cr,rfl⟩:=RRd.shape h3;have Kq:=GL s;have EL:=he.2.1;refine Cl.o func77 ntmps77 ag1 ?_;refine .af (.bx hs fun b1 w hs=>?_);refine .o (.alloc hs oh rfl fun b2 w hs=>?_);refine .nil (.af (.y hs (zls [_,_,_,_,_,_,_,_] df bu) (.o (.call call137 rfl (uB (s:=s) hs h1 h2 h3 h4 he) ?_))));rintro _ w ⟨H1,az,⟨ul,rfl,hL⟩,hs⟩;have hL:RL H1 ul s.dU:=hL;obtain ⟨al,cl,rfl⟩:=RL.shape hL;have Zx:=RS.len hL;rw [List.length_map] at Zx;refine .o (.alloc hs oh rfl fun b3 w hs=>?_);refine .o (.aL (vs:=[_,_]) hs rfl rfl bR fun w hs=>?_);refine .nil (.af (.z (zfa cN) (.y hs (zld lg) (.z (zfa cN) (.y hs (zld lg) (.z (bT bK) (.z (zfa aS) (.y hs (zld eB) (.z (bT aT) (.z oq (.z jj (.q hs (pq (k:=s.pC.length) rfl rfl bK eL ak ak) ?_))))))))))));have hT:=RS.head hL (k:=s.pC.length) ak;rw [←List.map_take,Eb] at hT;refine .z (zfa cN) (.o (.store hs rfl rfl sizeOf99 fun w hs=>?_));refine .nil (.af (.y hs (zls [_,_] ea bR) (.o (.aL (vs:=[_,_]) hs rfl rfl bR fun w hs=>?_))));exact .nil (.ret (Fin.ki [] [] hs fun w hs=>⟨_,results1 results77 (dK (vs:=[_,_]) hs rfl ea bR),H1,az,⟨_,rfl,hT⟩,hs.out⟩))
theorem xZ{w:World}{s:Srv}{vst vwa:Value}(hs:St H w σ)(h1:RI H vst s.sp.st)(h2:RI H vwa s.sp.wa)(h3:RRd H vr s.rs)(h4:RCm H vc s.cs)(he:s.early)(bw:s.qw.Ok):
  aaq 31 [.agg #[I s.sp.id,I s.sp.src,vst,vwa,I s.sp.al,I s.sp.up,vr,vc]] w fun u w'=>∃H1,∃b:Bool,HLe H H1∧u= .bool b∧(b=false→s.qw.Sound)∧St H1 w' σ:=by
 refine Cl.o func31 ntmps31 ag1 ?_;refine .af (.bx hs fun b1 w hs=>?_);refine .zn zg (.af (.y hs (zls [_,_,_,_,_,_,_,_] df bu) (.o (.call call77 rfl (pn (s:=s) hs h1 h2 h3 h4 he) ?_))));rintro _ w ⟨H1,az,hS,hs⟩;refine .o (.call call76 rfl (ou (s:=s.qw) hs hS) ?_);rintro _ w ⟨H2,vt,e,aN,rfl,kC,hs⟩;refine .z zm (.z zex (.z zex (.z zg (.zn zg (.af (.z zm (.z gv (.zn zg (.ret (Fin.aW results31 rfl ?_))))))))));exact ⟨H2,_,az.trans aN,rfl,fun h=>by
  rcases kC with ⟨k1,_,_⟩|⟨_,_,k3,_⟩|⟨_,k2,_,_⟩
  ·exact (k1 (s.qw.jz.2 bw)).elim
  ·subst k3;simp at h
  ·exact k2,hs.out⟩
theorem xY{w:World}{s:Srv}{vst vwa:Value}{kA:List Int}(hs:St H w σ)(h1:RI H vst s.sp.st)(h2:RI H vwa s.sp.wa)(h3:RRd H vr s.rs)(h4:RCm H vc s.cs)(hp:RI H vp kA)(he:s.early)(bw:s.qw.Ok∧s.qw.Sound):
  aaq 32 [.agg #[I s.sp.id,I s.sp.src,vst,vwa,I s.sp.al,I s.sp.up,vr,vc],vp] w fun u w'=>∃H1 x en,HLe H H1∧bE 1 u (Is x) en∧A7 s.qw kA x∧St H1 w' (en::σ):=by
 obtain ⟨ap,cp,rfl⟩:=RI.shape hp;refine Cl.o func32 ntmps32 ag2 ?_;refine .af (.bx hs fun b2 w hs=>?_);refine .zn zg (.af (.y hs (zls [_,_,_,_,_,_,_,_] df bu) (.o (.call call77 rfl (pn (s:=s) hs h1 h2 h3 h4 he) ?_))));rintro _ w ⟨H1,az,hS,hs⟩;refine .z zm (.o (.call call78 rfl (yf (s:=s.qw) hs hS (hp.mono az) bw) ?_));rintro _ w ⟨H2,vx,x,en,aN,rfl,hO,hP,hs⟩;exact .z zm (.z zex (.z zex (.z zg (.zn zg (.af (.z zm (.zn zg (.ret (Fin.aW results32 rfl ⟨H2,x,en,az.trans aN,hO,hP,hs.sb⟩)))))))))
structure Grow(d D:Int)(L:List Int)(x:Int):Prop where
 low:d≤x
 high:x≤d+D*L.length
 all:∀i<L.length,d≤gi L i∧gi L i<x
 rise:∀i,i+1<L.length→gi L i<gi L (i+1)
theorem Grow.start(d D:Int):Grow d D [] d:=⟨ak,aU,fun i h=>by simp at h,fun i h=>by simp at h⟩
theorem Grow.snoc{d D x y:Int}{L:List Int}(h:Grow d D L x)(h1:x<y)(h2:y≤x+D):Grow d D (L++[x]) y:=by
 obtain ⟨g1,g2,g3,g4⟩:=h;refine ⟨ak,?_,fun i hi=>?_,fun i hi=>?_⟩
 ·rw [List.length_append,List.length_singleton,Int.natCast_add,Int.mul_add];omega
 ·rw [List.length_append,List.length_singleton] at hi;rw [FO];split
  ·have:=g3 i cW;omega
  ·rw [if_pos ak];omega
 ·rw [List.length_append,List.length_singleton] at hi;rw [FO,FO,if_pos ak];split
  ·exact g4 i cW
  ·rw [if_pos ak];exact (g3 i ak).2
theorem Grow.plc{d D x:Int}{many:Nat}{L:List Int}(h:Grow d D L x)(hd:0≤d)(h2:2≤L.length)(hm:L.length≤many)(hx:d+D*L.length≤most):gX many most L:=
 ⟨h2,hm,by have:=(h.all 0 ak).1;omega,by have:=(h.all (L.length - 1) ak).2;have:=h.high;omega,h.rise⟩
structure UY(s:Spc):Prop where
 ok:fV s
 st:s.st.length≤4
 wa:s.wa.length≤3
set_option maxHeartbeats 1000000 in
theorem rz{w:World}{v:Value}(hs:St H w σ)(hr:RI H v l):
  aaq 30 [v] w fun u w'=>∃s vst vwa e1 e2,u= .agg #[I s.id,I s.src,vst,vwa,I s.al,I s.up]∧UY s∧bE 1 vst (Is s.st) e1∧bE 1 vwa (Is s.wa) e2∧St H w' (e1::e2::σ):=by
 obtain ⟨av,cv,rfl⟩:=RI.shape hr;refine Cl.o func30 ntmps30 ag1 ?_;refine .af (.o (.alloc hs fR rfl fun b2 w hs=>?_));refine .nil (.af (.z zm (.o (.call uf rfl (cK hs hr ak ak) ?_))));rintro _ w ⟨Ws,g11,rfl,hs⟩;refine .z cC (.z zm (.o (.call uf rfl (cK hs hr ak ak) ?_)));rintro _ w ⟨Wp,g14,rfl,hs⟩;refine .z cC (.z (zbd [_,_,_,_,_,_] nZ) (.o (.alloc hs fR rfl fun b3 w hs=>?_)));refine .o (.aL (vs:=[_,_,_,_,_,_]) hs rfl rfl aM fun w hs=>?_);refine .nil (.af (.z zm (.o (.call uf rfl (cK hs hr ak ak) ?_))));rintro _ w ⟨Ve,g18,rfl,hs⟩;refine .z cC (.z oq (.zn zg (.af (.zn zg (.seq (.af (.zn zg (.block ?_))))))));refine .loop (fun p:List Int×Int×Value=>⟨90,[],[(6,I (p.1.length:Int)),(5,I p.2.1),(4,I (100*(1+(Ve:Int)))),(0,.slice av l.length cv),(3,Pt b3),(2,Pt b2)]⟩)
  (fun p w=>p.1.length≤4∧Grow 0 2707 p.1 p.2.1∧∃en,bE 1 p.2.2 (Is p.1) en∧St H w (en:: .blk b3 [I (1+(Ws:Int)),I (1+(Wp:Int)),p.2.2,.slice none 0 0,I 0,I 0]:: .blk b2 [I 0,I 0,.slice none 0 0,.slice none 0 0,I 0,I 0]::σ)) (fun p=>4 - p.1.length) ([],0,.slice none 0 0) bg
  ⟨aU,.start _ _,_,.nil 1 none,hs.nul⟩ ?_
 clear hs;rintro ⟨L,x,vo⟩ w ⟨Z7,hG,en,hO,hs⟩;dsimp only at Z7 hG hO hs ⊢;obtain ⟨ao,lo,co,rfl,-⟩:=hO.shape;have CB:=hG.low;have BM:=hG.high;refine .seq (.af (.z zm (.z zm (.o (.call uf rfl (cK hs hr ak ak) ?_)))));rintro _ w ⟨k23,g23,rfl,hs⟩;refine .z cC (.zn fT (.bQ rfl (fun jq=>?_) (fun jq=>?_)))
 ·refine .skip (nT (.seq (.block (.af (.z (zfa bh) (.y hs (zld aC) (.z zm (.o (.buildSlice (cells:=[_]) hs bO rfl rfl fun Li w hs=>?_)))))))));refine .o (.append (ys:=Is [x]) hs bJ rfl rfl hO (.own .here rfl rfl) (pV _) (fun l' h=>by simp at h;omega) ?_);intro v32 en32 w gM hs;rw [←List.map_append] at gM;obtain ⟨a32,l32,c32,rfl,-⟩:=gM.shape;refine .z (zfa bh) (.o (.store hs rfl rfl aP fun w hs=>?_));refine .nil (.region (.z zm (.z zm (.z zm (.z zm (.z cC (.o (.call uf rfl (cK hs hr ak ak) ?_))))))));rintro _ w ⟨Wo,g39,rfl,hs⟩;have m41:=pv (a:=100*(1+(Ve:Int))) (b:=1+(Wo:Int)) (A:=900) (B:=3) ak ak;have m41':100≤100*(1+(Ve:Int))*(1+(Wo:Int)):=by
   have:=Int.mul_le_mul (a:=100) (c:=100*(1+(Ve:Int))) (b:=1) (d:=1+(Wo:Int)) ak ak ak ak;omega
  refine .z cC (.z oq (.z cC (.z zm (.o (.call uf rfl (cK hs hr ak ak) ?_)))));rintro _ w ⟨OB,g44,rfl,hs⟩;refine .z zm (.z zm (.z cC (.o (.call uf rfl (cK hs hr ak ak) ?_))));rintro _ w ⟨OA,g48,rfl,hs⟩;have m49:0≤(OB:Int)*(OA:Int)∧(OB:Int)*(OA:Int)≤1:=by
   have e1:OB=0∨OB=1:=by omega
   rcases e1 with rfl|rfl<;>simp<;>omega
  exact .z oq (.z oq (.z cC (.zn zg (nB (nT (.region (.z zm (.z cC (.zn zg (nT ⟨(L++[x],_,.slice a32 l32 c32),.dw rfl aU bg,⟨by simp;omega,hG.snoc (by dsimp only;omega) (by dsimp only;omega),_,gM,hs.sb⟩,by simp;omega⟩))))))))))
 ·refine .exit (xT (xT (xB (nT (.af (.z zm ?_))))));have Uq:2≤L.length:=by omega
  refine .o (.call uf rfl (cK hs hr ak ak) ?_);rintro _ w ⟨Vd,g53,rfl,hs⟩;refine .z cC (.z oq (.zn zg (.af (.z zm (.o (.call uf rfl (cK hs hr ak ak) ?_))))));rintro _ w ⟨Ze,g57,rfl,hs⟩;refine .z oq (.zn zg (.seq (.af (.zn zg (.block ?_)))));refine .loop (fun p:List Int×Int×Value=>⟨90,[],[(9,I (p.1.length:Int)),(8,I p.2.1),(7,I (50*(1+(Vd:Int)))),(0,.slice av l.length cv),(3,Pt b3),(2,Pt b2)]⟩)
   (fun p w=>p.1.length≤3∧Grow (10*(Ze:Int)) 1350 p.1 p.2.1∧∃en2,bE 1 p.2.2 (Is p.1) en2∧St H w (en2:: .blk b3 [I (1+(Ws:Int)),I (1+(Wp:Int)),.slice ao lo co,p.2.2,I 0,I 0]:: .blk b2 [I 0,I 0,.slice none 0 0,.slice none 0 0,I 0,I 0]::en::σ)) (fun p=>3 - p.1.length) ([],10*(Ze:Int),.slice none 0 0) bg
   ⟨aU,.start _ _,_,.nil 1 none,(hs.sb).nul⟩ ?_
  clear hs;rintro ⟨L2,y,vo2⟩ w ⟨Z5,Us,en2,gM,hs⟩;dsimp only at Z5 Us gM hs ⊢;obtain ⟨ap,lp,cp,rfl,-⟩:=gM.shape;have hy0:=Us.low;have Wv:=Us.high;refine .seq (.af (.z zm (.z zm (.o (.call uf rfl (cK hs hr ak ak) ?_)))));rintro _ w ⟨k61,g61,rfl,hs⟩;refine .z cC (.zn fT (.bQ rfl (fun wN=>?_) (fun wN=>?_)))
  ·refine .skip (nT (.seq (.block (.af (.z (zfa aV) (.y hs (zld aC) (.z zm (.o (.buildSlice (cells:=[_]) hs bO rfl rfl fun b69 w hs=>?_)))))))));refine .o (.append (ys:=Is [y]) hs bJ rfl rfl gM (.own .here rfl rfl) (pV _) (fun l' h=>by simp at h;omega) ?_);intro v70 en70 w lq hs;rw [←List.map_append] at lq;obtain ⟨a70,l70,c70,rfl,-⟩:=lq.shape;refine .z (zfa aV) (.o (.store hs rfl rfl aP fun w hs=>?_));refine .nil (.region (.z zm (.z zm (.z zm (.z zm (.z cC (.o (.call uf rfl (cK hs hr ak ak) ?_))))))));rintro _ w ⟨Wn,g77,rfl,hs⟩;have m79:=pv (a:=50*(1+(Vd:Int))) (b:=1+(Wn:Int)) (A:=450) (B:=3) ak ak;have m79':50≤50*(1+(Vd:Int))*(1+(Wn:Int)):=by
    have:=Int.mul_le_mul (a:=50) (c:=50*(1+(Vd:Int))) (b:=1) (d:=1+(Wn:Int)) ak ak ak ak;omega
   exact .z cC (.z oq (.z cC (.zn zg (nB (nT (.region (.z zm (.z cC (.zn zg (nT ⟨(L2++[y],_,.slice a70 l70 c70),.dw rfl aU bg,⟨by simp;omega,Us.snoc (by dsimp only;omega) (by dsimp only;omega),_,lq,hs.sb⟩,by simp;omega⟩))))))))))
  ·refine .exit (xT (xT (xB (nT (.af (.z zm (.o (.call uf rfl (cK hs hr ak ak) ?_))))))));rintro _ w ⟨k83,g83,rfl,hs⟩;refine .z oq (.z zm (.o (.call uf rfl (cK hs hr ak ak) ?_)));rintro _ w ⟨k86,g86,rfl,hs⟩;refine .z oq (.z (zbd [_,_] wi) (.z (zfa eh) (.o (.aL (vs:=[_,_]) hs rfl rfl sizeOf36 fun w hs=>?_))));refine .nil (.af (.y hs (zls [_,_,_,_,_,_] bC aM) (.o (.aL (vs:=[_,_,_,_,_,_]) hs rfl rfl aM fun w hs=>?_))));refine .nil (.ret ?_);exact Fin.ki [] [] hs fun w hs=>⟨_,results1 results30 (dK (vs:=[_,_,_,_,_,_]) hs rfl bC aM),⟨1+(Ws:Int),1+(Wp:Int),L,L2,100*(k83:Int),100*(k86:Int)⟩,.slice ao lo co,.slice ap lp cp,en,en2,rfl,
    ⟨⟨hG.plc ak Uq ak ak,Us.plc ak ak ak ak,by dsimp only;omega,by dsimp only;omega,by dsimp only;omega,by dsimp only;omega⟩,Z7,Z5⟩,hO,gM,hs.sb⟩
instance (s:Spc) (r:Rdg):Decidable (k8 s r):=
 decidable_of_iff ((1≤r.src∧r.src≤99999)∧(0≤r.st∧r.st≤(s.st.length:Int) - 1)∧(0≤r.wa∧r.wa≤(s.wa.length:Int) - 1)∧(0≤r.tol∧r.tol≤1000)∧(0≤r.val∧r.val≤20000 - r.tol)∧(1≤r.tape∧r.tape≤99)∧(0≤r.day∧r.day≤100000))
  ⟨fun ⟨a,b,c,d,e,f,g⟩=>⟨a,b,c,d,e,f,g⟩,fun ⟨a,b,c,d,e,f,g⟩=>⟨a,b,c,d,e,f,g⟩⟩
def iA(s:Spc)(rs:List Rdg):List Rdg:=rs.filter fun r=>decide (k8 s r)
theorem HN(s:Spc){rs:List Rdg}{k:Nat}{r:Rdg}(h:rs[k]? =some r):iA s (rs.take (k+1))=if k8 s r then iA s (rs.take k)++[r] else iA s (rs.take k):=by
 unfold iA;rw [eH h,List.filter_append];by_cases e:k8 s r
 ·simp [e]
 ·simp [e]
theorem yF(s:Spc)(rs:List Rdg):(iA s rs).length≤rs.length:=List.length_filter_le _ _
theorem DJ{rs:List Rdg}{r:Rdg}(h:r∈iA s rs):r∈rs∧k8 s r:=by
 unfold iA at h;simpa using List.mem_filter.1 h
theorem M3{rs:List Rdg}(h:t∈aO (iA s rs)):t∈aO rs:=by
 obtain ⟨r,h1,h2⟩:=ee.1 h;exact ee.2 ⟨r,(DJ h1).1,h2⟩
def oR(v:Srv)(x:List Int)(t:TD):Int:=gi x (v.sp.many+1+(lz v.bN t).toNat)
def S3(v:Srv)(x:List Int):List Int:=x.take (v.sp.many+1)++(aO (iA v.sp v.rs)).map (oR v x)
set_option maxHeartbeats 1000000 in
theorem xX{w:World}{rs:List Rdg}(hs:St H w σ)(hr:RRd H vr rs)(hl:rs.length≤1000000):
  aaq 36 [vr] w fun u w'=>∃en,bE 2 u (tdc (aO rs)).flatten en∧St H w' (en::σ):=by
 obtain ⟨ar,cr,rfl⟩:=RRd.shape hr;refine Cl.o func36 ntmps36 ag1 ?_;refine .af (.zn zg (.af (.zn zg (.seq (.af (.zn zg (.block ?_)))))));refine .loop (fun p:Nat×Value=>⟨32,[],[(4,I (p.1:Int)),(3,p.2),(0,.slice ar rs.length cr)]⟩)
  (fun p w=>p.1≤rs.length∧∃en,bE 2 p.2 (tdc (aO (rs.take p.1))).flatten en∧St H w (en::σ)) (fun p=>rs.length - p.1) (0,.slice none 0 0) bg
  ⟨Nat.zero_le _,_,.nil 2 none,hs.nul⟩ ?_
 rintro ⟨k,vo⟩ w ⟨hk,en,hO,hs⟩;dsimp only at hk hO ⊢;have xC:=lQ rs k ak;obtain ⟨ao,co,rfl⟩:=hO.jx (rl _) ak;rw [eb] at hO ⊢;refine .seq (.af (.z zm (.z zm (.z (bT aT) (.zn fT (.bQ rfl (fun sr=>?_) (fun sr=>?_)))))))
 ·refine .skip (nT (.seq (.block (.seq (.draw mix rfl hs fun w hs=>?_)))));refine .zw 0 rfl zm ?_;refine .z 1 rfl zm ?_;obtain ⟨r,hx⟩:=nth (l:=rs) (k:=k) ak;have DP:=ky hx;refine .ixX (enc:=Rdg.c) (i:=2) hs rfl aF .none hr rfl rfl aT br hx eu ?_;intro tZ o14 fq;have d14:cellAt H tZ (o14+5)=some (I r.tape):=fq 5 _ rfl;refine .zw 3 rfl (zfa dV) ?_;refine .y 4 rfl hs aj ?_;refine .z 5 rfl zm ?_;refine .z 6 rfl zm ?_;refine .ixX (enc:=Rdg.c) (i:=7) hs rfl aF .none hr rfl rfl aT br hx eu ?_;intro Cj o19 j9;have d19:cellAt H Cj (o19+6)=some (I r.day):=j9 6 _ rfl;refine .zw 8 rfl (zfa dI) ?_;refine .y 9 rfl hs aj ?_;refine .z 10 rfl (zbd [_,_] ik) ?_;refine .E 11 hs ?_;refine .alloc hs ue rfl ?_;intro b5 w hs;refine .go (.E 12 hs ?_);refine .aL (vs:=[_,_]) hs rfl rfl bU ?_;intro w hs;refine .go (.D hs (.af (.z zm (.y hs (zls [_,_] iq bU) (.o (.call call35 rfl (pj (t:=r.td) (hs.sb:St H w (en:: .blk b5 [I r.tape,I r.day]::σ)) hO ak) ?_))))));rintro _ w ⟨rfl,hs⟩;have LJ:=vK (l:=aO (rs.take k)) (t:=r.td);refine .zn fT (.bQ rfl (fun jo=>?_) (fun jo=>?_))
  ·refine .region (.z zm (.y hs (zls [_,_] iq bU) (.o (.buildSlice (cells:=[_,_]) hs iC rfl rfl fun UQ w hs=>?_))));refine .o (.append (ys:=r.td.c) hs eA rfl rfl hO (.own .here rfl rfl) (by simp [TD.c,Value.oneCell']) (fun l h=>by rw [a7 _ (rl _),eb] at h;omega) ?_);intro v30 en30 w gM hs;refine .zn zg (nB (nT (.region (.z zm (.z cC (.zn zg (nT ?_)))))));have hn:r.td∉aO (rs.take k):=fun hm=>by have:=LJ.2 hm;omega
   rw [←Bc,show aO (rs.take k)++[r.td]=aO (rs.take (k+1)) by rw [DP];unfold tK;rw [if_neg hn]] at gM;exact ⟨(k+1,v30),.dw rfl aU bg,⟨by dsimp only;omega,_,gM,hs.sb⟩,by dsimp only;omega⟩
  ·refine .skip (nB (nT (.region (.z zm (.z cC (.zn zg (nT ?_)))))));have hm:r.td∈aO (rs.take k):=LJ.1 ak;exact ⟨(k+1,_),.dw rfl aU bg,⟨by dsimp only;omega,en,by dsimp only;rw [DP];unfold tK;rw [if_pos hm];exact hO,hs.sb⟩,by dsimp only;omega⟩
 ·refine .exit (xT (xT (xB (nT (.af (.z zm (.zn zg (.ret (Fin.aW results36 rfl ?_)))))))));obtain rfl:k=rs.length:=by omega
  rw [List.take_length] at hO;exact ⟨en,by rw [List.take_length];exact hO,hs⟩
set_option maxHeartbeats 2000000 in
theorem sG{w:World}{s:Srv}{x:List Int}{vst vwa vx:Value}(hs:St H w σ)(h1:RI H vst s.sp.st)(h2:RI H vwa s.sp.wa)(h3:RRd H vr s.rs)(hc:∃a l c,vc= .slice a l c)(hx:RI H vx x)(AR:x.length=s.sys.n)(hb:s.sp.st.length≤1000∧s.sp.wa.length≤1000∧s.rs.length≤1000):
  aaq 37 [.agg #[I s.sp.id,I s.sp.src,vst,vwa,I s.sp.al,I s.sp.up,vr,vc],vx] w fun u w'=>∃H1 vr' vy e1 e2,HLe H H1∧u= .tuple #[.agg #[I s.sp.id,I s.sp.src,vst,vwa,I s.sp.al,I s.sp.up,vr',vc],vy]∧bE 7 vr' (rdc (iA s.sp s.rs)).flatten e1∧bE 1 vy (Is (S3 s x)) e2∧St H1 w' (e1::e2::σ):=by
 obtain ⟨ast,cst,rfl⟩:=RI.shape h1;obtain ⟨awa,cwa,rfl⟩:=RI.shape h2;obtain ⟨ar,cr,rfl⟩:=RRd.shape h3;obtain ⟨ac,lc,cc,rfl⟩:=hc;obtain ⟨ax,cx,rfl⟩:=RI.shape hx;have hm:s.sp.many≤1000000:=Nat.mul_le_mul hb.1 hb.2.1;have hn:=C7 s;have xC:=dq s.rs;refine Cl.o func37 ntmps37 ag2 ?_;refine .af (.bx hs fun b2 w hs=>?_);refine .o (.alloc hs mP rfl fun b4 w hs=>?_);refine .zn zg (.af (.z (zfa aS) (.y hs (zld eB) (.o (.call call36 rfl (iT (rs:=s.rs) hs h3 ak) ?_)))));rintro v15 w ⟨H1,az,hT,hs⟩;obtain ⟨at',ct,rfl⟩:=RTd.shape hT;refine .zn zg (.af (.z (zfa bq) (.y hs (zls [_,_,_,_,_,_] bC aM) (.o (.call call34 rfl (gR (s:=s.sp) hs (h1.mono az) (h2.mono az) ⟨hb.1,hb.2.1⟩) ?_)))));rintro _ w ⟨rfl,hs⟩;refine .zn zg (.af (.y hs (zls [_,_,_,_,_,_,_,_] df bu) (.o (.alloc hs mP rfl fun b8 w hs=>?_))));refine .o (.aL (vs:=[_,_,_,_,_,_,_,_]) hs rfl rfl bu fun w hs=>?_);refine .nil (.af (.z (zfa aS) (.o (.store hs rfl rfl F2 fun w hs=>?_))));refine .nil (.seq (.af (.zn zg (.block ?_))));refine .loop (fun p:Nat×Value=>⟨78,[],[(9,I (p.1:Int)),(8,Pt b8),(7,I (s.sp.many:Int)),(6,.slice at' (aO s.rs).length ct),(4,Pt b4),(2,Pt b2),(1,.slice ax x.length cx)]⟩)
  (fun p w=>p.1≤s.rs.length∧∃en,bE 7 p.2 (rdc (iA s.sp (s.rs.take p.1))).flatten en∧St H1 w (en:: .blk b8 [I s.sp.id,I s.sp.src,.slice ast s.sp.st.length cst,.slice awa s.sp.wa.length cwa,I s.sp.al,I s.sp.up,p.2,.slice ac lc cc]:: .blk b4 [I 0,I 0,.slice none 0 0,.slice none 0 0,I 0,I 0,.slice none 0 0,.slice none 0 0]:: .blk b2 [I s.sp.id,I s.sp.src,.slice ast s.sp.st.length cst,.slice awa s.sp.wa.length cwa,I s.sp.al,I s.sp.up,.slice ar s.rs.length cr,.slice ac lc cc]::σ)) (fun p=>s.rs.length - p.1) (0,.slice none 0 0) bg
  ⟨Nat.zero_le _,_,.nil 7 none,hs.nul⟩ ?_
 clear hs;rintro ⟨k,vo⟩ w ⟨hk,en,hO,hs⟩;dsimp only at hk hO hs ⊢;have EN:=yF s.sp (s.rs.take k);rw [List.length_take] at EN;obtain ⟨ao,lo,co,rfl,-⟩:=hO.shape;refine .seq (.af (.z zm (.z (zfa aS) (.y hs (zld eB) (.z (bT aT) (.zn fT (.bQ rfl (fun jq=>?_) (fun jq=>?_))))))))
 ·refine .skip (nT (.seq (.block (.seq (.draw mix rfl hs fun w hs=>?_)))));refine .zw 0 rfl (zfa bq) ?_;refine .ys 1 rfl hs [_,_,_,_,_,_] bC aM ?_;refine .z 2 rfl (zfa aS) ?_;refine .y 3 rfl hs eB ?_;refine .z 4 rfl zm ?_;obtain ⟨r,hr⟩:=nth (l:=s.rs) (k:=k) ak;have Zn:=HN s.sp hr;refine .ixX (enc:=Rdg.c) (i:=5) hs rfl aF .none (h3.mono az) rfl rfl aT br hr eu ?_;intro b33 o33 s7;refine .r (i:=6) hs rfl aF .none (bj (vs:=r.c) rfl gP br s7) ?_;refine .E 7 hs ?_;refine .call call79 rfl (nF (s:=s.sp) (r:=r) hs (h1.mono az) (h2.mono az)) ?_;rintro _ w ⟨Rw,rfl,yQ,hs⟩;refine .go (.D hs (.cond rfl (fun uP=>?_) (fun uP=>?_)))
  ·refine .draw mix rfl hs fun w hs=>?_
   refine .zw 0 rfl (zfa aS) ?_;refine .y 1 rfl hs eB ?_;refine .z 2 rfl (zfa aS) ?_;refine .y 3 rfl hs eB ?_;refine .z 4 rfl zm ?_;refine .ixX (enc:=Rdg.c) (i:=5) hs rfl aF .none (h3.mono az) rfl rfl aT br hr eu ?_;intro YA o41 z8;refine .r (i:=6) hs rfl aF .none (bj (vs:=r.c) rfl gP br z8) ?_;refine .E 7 hs ?_;refine .buildSlice (cells:=r.c) hs dS rfl aF ?_;intro UN w hs;refine .go (.E 8 hs ?_);refine .append (ys:=r.c) hs bL rfl rfl hO (.own .here rfl rfl) (by simp [Rdg.c,Value.oneCell']) (fun l' h=>by rw [a7 _ (lB _),cL] at h;omega) ?_;intro v44 en44 w gM hs;rw [←p7,show iA s.sp (s.rs.take k)++[r]=iA s.sp (s.rs.take (k+1)) by rw [Zn,if_pos (yQ.1 (by simpa using uP))]] at gM;obtain ⟨a44,l44,c44,rfl,-⟩:=gM.shape;refine .go (.zw 9 rfl (zfa aS) (.E 10 hs ?_));refine .store hs rfl rfl F2 ?_;intro w hs;exact .go (.D hs (nB (nT (.region (.z zm (.z cC (.zn zg (nT ⟨(k+1,.slice a44 l44 c44),.dw rfl aU bg,⟨by dsimp only;omega,_,gM,hs.sb⟩,by dsimp only;omega⟩))))))))
  ·exact .skip (nB (nT (.region (.z zm (.z cC (.zn zg (nT ⟨(k+1,.slice ao lo co),.dw rfl aU bg,⟨by dsimp only;omega,en,by dsimp only;rw [Zn,if_neg (fun h=>by rw [yQ.2 h] at uP;cases uP)];exact hO,hs.sb⟩,by dsimp only;omega⟩)))))))
 ·refine .exit (xT (xT (xB (nT (.af ?_)))));obtain rfl:k=s.rs.length:=by omega
  rw [List.take_length] at hO;refine .o (.buildSlice (cells:=[]) hs pQ rfl rfl fun b46 w hs=>?_);refine .z zm (.z zm (.z cC (.q hs (pq (k:=s.sp.many+1) rfl rfl ai an rfl (by have:=(RS.len hx).2.1;omega)) ?_)));refine .o (.append (xs:=[]) (ys:=Is (x.take (s.sp.many+1))) hs bJ rfl rfl (.full (len:=0) rfl) (.ints (RI.head (hx.mono az) (k:=s.sp.many+1) ak)) (pV _) (fun l h=>by simp at h;rw [List.length_take];omega) ?_);intro v51 en51 w lq hs;rw [List.nil_append] at lq;refine .zn zg (.af (.z (zfa aS) (.y hs (zld eB) ?_)));have EN:=yF s.sp s.rs;obtain ⟨H2,aN,hRR,CD,back⟩:=hO.Fp (lB _) ak (by rw [cL];omega) (hs.sb:St H1 w (en::en51:: .blk b8 [I s.sp.id,I s.sp.src,.slice ast s.sp.st.length cst,.slice awa s.sp.wa.length cwa,I s.sp.al,I s.sp.up,.slice ao lo co,.slice ac lc cc]:: .blk b4 [I 0,I 0,.slice none 0 0,.slice none 0 0,I 0,I 0,.slice none 0 0,.slice none 0 0]:: .blk b2 [I s.sp.id,I s.sp.src,.slice ast s.sp.st.length cst,.slice awa s.sp.wa.length cwa,I s.sp.al,I s.sp.up,.slice ar s.rs.length cr,.slice ac lc cc]::σ));refine .o (.call call36 rfl (xX (rs:=iA s.sp s.rs) CD hRR ak) ?_);rintro v54 w ⟨enT,hOT,hsT⟩;have hs:=back (HLe.refl _) hsT;have WD:=dq (iA s.sp s.rs);obtain ⟨H3,bA,VI,hs⟩:=bE.bG (m:=2) (cs:=tdc (aO (iA s.sp s.rs))) hOT (rl _) ak (by rw [eb];omega) hs (.there .here);have VI:RTd H3 v54 (aO (iA s.sp s.rs)):=VI;obtain ⟨a54,c54,rfl⟩:=RTd.shape VI;refine .zn zg (.seq (.af (.zn zg (.block ?_))));refine .loop (fun p:Nat×Value=>⟨78,[],[(12,I (p.1:Int)),(10,p.2),(11,.slice a54 (aO (iA s.sp s.rs)).length c54),(8,Pt b8),(7,I (s.sp.many:Int)),(6,.slice at' (aO s.rs).length ct),(4,Pt b4),(1,.slice ax x.length cx)]⟩)
   (fun p w=>p.1≤(aO (iA s.sp s.rs)).length∧∃en2,bE 1 p.2 (Is (x.take (s.sp.many+1)++((aO (iA s.sp s.rs)).take p.1).map (oR s x))) en2∧St H3 w (en2:: .blk b8 [I s.sp.id,I s.sp.src,.slice ast s.sp.st.length cst,.slice awa s.sp.wa.length cwa,I s.sp.al,I s.sp.up,.slice ao lo co,.slice ac lc cc]:: .blk b4 [I 0,I 0,.slice none 0 0,.slice none 0 0,I 0,I 0,.slice none 0 0,.slice none 0 0]::en::σ)) (fun p=>(aO (iA s.sp s.rs)).length - p.1) (0,v51) bg
   ⟨Nat.zero_le _,en51,by simpa using lq,hs.sb⟩ ?_
  clear hs;rintro ⟨j,vy⟩ w ⟨hj,en2,tY,hs⟩;dsimp only at hj tY hs ⊢;obtain ⟨ay,ly,cy,rfl,-⟩:=tY.shape;refine .seq (.af (.z zm (.z zm (.z (bT bB) (.zn fT (.bQ rfl (fun s6=>?_) (fun s6=>?_)))))))
  ·refine .skip (nT (.seq (.block (.region (.z zm (.z zm (.z zm (.z cC (.z zm (.z zm (.z zm ?_)))))))))));obtain ⟨t,ht⟩:=nth (l:=aO (iA s.sp s.rs)) (k:=j) ak;have htm:t∈s.bN:=M3 (List.mem_of_getElem? ht);obtain ⟨q,q1,q2,q3⟩:=iF htm;have q3':q<(aO s.rs).length:=q3;have q1':lz (aO s.rs) t=(q:Int):=q1;have hnt:s.sys.n=s.sp.many+(aO s.rs).length+1:=hn;have Xr:oR s x t=gi x (s.sp.many+1+q):=by unfold oR;rw [q1,Int.toNat_natCast]
   refine .ixX (enc:=TD.c) hs VI rfl rfl bB bU ht eu ?_;intro b68 o68 XJ;refine .q hs (bj (vs:=t.c) rfl iq bU XJ) (.o (.call call35 rfl (kQ (t:=t) hs (hT.mono bA) ak) ?_));rintro _ w ⟨rfl,hs⟩;rw [q1'];refine .z cC (.ixY hs (hx.mono (az.trans bA)) rfl rfl ai an (ck (l:=x) (i:=s.sp.many+1+q) ak) ak ?_);intro b72 o72 Kt;refine .q hs (aR rfl aj Kt) (.o (.buildSlice (cells:=[_]) hs bO rfl rfl fun b74 w hs=>?_));refine .o (.append (ys:=Is [gi x (s.sp.many+1+q)]) hs bJ rfl rfl tY (.own .here rfl rfl) (pV _) (fun l' h=>by simp at h;omega) ?_);intro v75 en75 w zF hs;rw [←List.map_append,List.append_assoc,←Xr,show ((aO (iA s.sp s.rs)).take j).map (oR s x)++[oR s x t]=((aO (iA s.sp s.rs)).take (j+1)).map (oR s x) by rw [eH ht];simp] at zF;obtain ⟨a75,l75,c75,rfl,-⟩:=zF.shape;exact .zn zg (nB (nT (.region (.z zm (.z cC (.zn zg (nT ⟨(j+1,.slice a75 l75 c75),.dw rfl aU bg,⟨by dsimp only;omega,_,zF,hs.sb⟩,by dsimp only;omega⟩)))))))
  ·refine .exit (xT (xT (xB (nT (.af (.y hs (zls [_,_,_,_,_,_,_,_] df bu) (.z zm (.o (.aL (vs:=[_,_,_,_,_,_,_,_]) hs rfl rfl bu fun w hs=>?_)))))))));refine .zn zg (.ret ?_);obtain rfl:j=(aO (iA s.sp s.rs)).length:=by omega
   rw [List.take_length] at tY;exact Fin.ki [] [] hs fun w hs=>⟨_,results2 results37 (dK (vs:=[_,_,_,_,_,_,_,_]) hs rfl df bu) rfl,H3,_,_,en,en2,az.trans bA,rfl,hO,tY,hs.sb⟩
theorem HM{rs R:List Rdg}{cs:List Cmp}{x:List Int}(hf:jt (Srv.qw ⟨s,rs,cs⟩).de (gi x))(CB:gi x 0=0)(AR:x.length=s.many+(aO rs).length+1)(ht:aO R=aO rs)(hS:∀r∈R,RdS s r)(hR:∀r∈R,Lq s (aO rs) x r):
  ra ⟨s,iA s R,cs⟩ (S3 ⟨s,R,cs⟩ x):=by
 have hl:(x.take (s.many+1)).length=s.many+1:=by rw [List.length_take];omega
 refine JR (R:=R) (x:=x) List.filter_sublist hS CB (KU hf ht hR) ?_ (fun b hb=>?_) fun j hj=>?_
 ·show (x.take (s.many+1)++(aO (iA s R)).map (oR ⟨s,R,cs⟩ x)).length=_;rw [List.length_append,hl,List.length_map]
 ·show gi (x.take (s.many+1)++(aO (iA s R)).map (oR ⟨s,R,cs⟩ x)) b=_;unfold gi;simp only [List.getD];rw [List.getElem?_append_left ak,List.getElem?_take_of_lt ak]
 ·show gi (x.take (s.many+1)++(aO (iA s R)).map (oR ⟨s,R,cs⟩ x)) (s.many+1+j)=_;have e:∀t,(aO (iA s R))[j]? =some t→gi (x.take (s.many+1)++(aO (iA s R)).map (oR ⟨s,R,cs⟩ x)) (s.many+1+j)=oR ⟨s,R,cs⟩ x t:=fun t ht=>by
   unfold gi;simp only [List.getD];rw [List.getElem?_append_right ak,hl,show s.many+1+j - (s.many+1)=j by omega,List.getElem?_map,ht];rfl
  rw [e _ (E4 hj)];rfl
set_option maxHeartbeats 2000000 in
theorem zP{w:World}{sl:List Int}(hs:St H w σ)(g1:RI H vs sl)(g2:RF5 H v5 fG)(g3:RF4 H v4 fL)(g4:RI H vp pk):
  aaq 7 [.agg #[vs,v5,v4,vp,I z1,I z2,I z3]] w fun u w'=>∃H1 s y vst vwa vr vc vy e1 e2 e3 e4 e5,HLe H H1∧u= .tuple #[.agg #[I s.sp.id,I s.sp.src,vst,vwa,I s.sp.al,I s.sp.up,vr,vc],vy]∧xj s∧Px s vst vwa vr vc e1 e2 e3 e4∧bE 1 vy (Is y) e5∧ra s y∧St H1 w' (e1::e2::e3::e4::e5::σ):=by
 obtain ⟨avs,cvs,rfl⟩:=RI.shape g1;obtain ⟨av5,cv5,rfl⟩:=g2.shape;obtain ⟨av4,cv4,rfl⟩:=g3.shape;obtain ⟨avp,cvp,rfl⟩:=RI.shape g4;refine Cl.o func7 ntmps7 ag1 ?_;refine .af (.bx hs fun b1 w hs=>?_);refine .o (.alloc hs mP rfl fun b2 w hs=>?_);refine .zn zg (.af (.z (zfa pL) (.y hs (zld aC) (.o (.call call30 rfl (rz hs g1) ?_)))));rintro _ w ⟨s,vst,vwa,e1,e2,rfl,O7,NA,gM,hs⟩;have Uk:=O7.st;have Ui:=O7.wa;have hSt2:=O7.ok.st.two;have hWa2:=O7.ok.wa.two;obtain ⟨ast,lst,cst,rfl,Xc⟩:=NA.shape;obtain ⟨awa,lwa,cwa,rfl,Xb⟩:=gM.shape;obtain rfl:s.st.length=lst:=by simpa [Is] using Xc
 obtain rfl:s.wa.length=lwa:=by simpa [Is] using Xb
 refine .z (zbd [_,_,_,_,_,_,_,_] q7) (.o (.alloc hs mP rfl fun b4 w hs=>?_));refine .o (.aL (vs:=[_,_,_,_,_,_,_,_]) hs rfl rfl bu fun w hs=>?_);refine .nil (.af (.z (zfa bq) (.y hs (zls [_,_,_,_,_,_] bC aM) (.o (.alloc hs fR rfl fun b5 w hs=>?_)))));refine .o (.aL (vs:=[_,_,_,_,_,_]) hs rfl rfl aM fun w hs=>?_);refine .nil (.cut (fun fs w=>∃rs e3 ar cr,ob fs ⟨208,[],[(5,Pt b5),(4,Pt b4),(2,Pt b2),(1,Pt b1)]⟩∧rs.length≤14∧rs.length≤fG.length∧(∀r∈rs,k8 s r)∧bE 7 (.slice ar rs.length cr) (rdc rs).flatten e3∧St H w (e3:: .blk b5 [I s.id,I s.src,.slice ast s.st.length cst,.slice awa s.wa.length cwa,I s.al,I s.up]:: .blk b4 [I s.id,I s.src,.slice ast s.st.length cst,.slice awa s.wa.length cwa,I s.al,I s.up,.slice ar rs.length cr,.slice none 0 0]::e1::e2:: .blk b2 [I 0,I 0,.slice none 0 0,.slice none 0 0,I 0,I 0,.slice none 0 0,.slice none 0 0]:: .blk b1 [.slice avs sl.length cvs,.slice av5 fG.length cv5,.slice av4 fL.length cv4,.slice avp pk.length cvp,I z1,I z2,I z3]::σ)) ?_ ?_)
 ·refine .af (.zn zg (.block ?_));refine .loop (fun p:List Rdg×Option Addr×Nat=>⟨208,[],[(6,I (p.1.length:Int)),(5,Pt b5),(4,Pt b4),(2,Pt b2),(1,Pt b1)]⟩)
   (fun p w=>p.1.length≤14∧p.1.length≤fG.length∧(∀r∈p.1,k8 s r)∧∃e3,bE 7 (.slice p.2.1 p.1.length p.2.2) (rdc p.1).flatten e3∧
    St H w (e3:: .blk b5 [I s.id,I s.src,.slice ast s.st.length cst,.slice awa s.wa.length cwa,I s.al,I s.up]:: .blk b4 [I s.id,I s.src,.slice ast s.st.length cst,.slice awa s.wa.length cwa,I s.al,I s.up,.slice p.2.1 p.1.length p.2.2,.slice none 0 0]::e1::e2:: .blk b2 [I 0,I 0,.slice none 0 0,.slice none 0 0,I 0,I 0,.slice none 0 0,.slice none 0 0]:: .blk b1 [.slice avs sl.length cvs,.slice av5 fG.length cv5,.slice av4 fL.length cv4,.slice avp pk.length cvp,I z1,I z2,I z3]::σ)) (fun p=>14 - p.1.length) ([],none,0) bg
   ⟨aU,aU,aU,_,.nil 7 none,(hs.sb).nul⟩ ?_
  clear hs;rintro ⟨rs,ar,cr⟩ w ⟨Fw,Vn,yH,e3,lq,hs⟩;dsimp only at Fw Vn yH lq hs ⊢;refine .seq (.af (.z zm (.z (zfa ic) (.y hs (zld isAgg23) (.z (bT runUnderlying23) (.z fT (.z zm (.jK (t':=31) rfl (fun ta=>?_) (fun ta=>?_)))))))))
  ·refine .T (.z zm (.T (.z fT (.zn zpT (.bQ rfl (fun qu=>?_) (fun qu=>?_))))))
   ·refine .skip (nT (.seq (.block (.af (.z (zfa ic) (.y hs (zld isAgg23) (.z zm ?_)))))));obtain ⟨n,hn⟩:=nth (l:=fG) (k:=rs.length) ak;refine .ixX (enc:=F5.v) hs g2 rfl rfl runUnderlying23 oV hn eu ?_;intro UO o40 uO;refine .q hs (bj (vs:=n.v) rfl isAgg111 oV uO) (.o (.alloc hs zeroValue111 rfl fun b7 w hs=>?_));refine .o (.aL (vs:=[_,_,_,_,_]) hs rfl rfl oV fun w hs=>?_);refine .nil (.seq (.draw mix rfl hs fun w hs=>?_));refine .zw 0 rfl (zia 4 fb an) (.zv 1 rfl hs (uM aj) (.zw 3 rfl (zia 4 fb an) (.y 4 rfl hs aj ?_)));refine .z 5 rfl RN ?_;refine .E 2 hs ?_;refine .call kP rfl (da hs ak) ?_;rintro _ w ⟨OB,g44,rfl,hs⟩;refine .go (.E 6 hs ?_);refine .call kP rfl (da hs ak) ?_;rintro _ w ⟨OA,g48,rfl,hs⟩;have m49:0≤(OB:Int)*(OA:Int)∧(OB:Int)*(OA:Int)≤39:=by
     have e1:OA=0∨OA=1:=by omega
     rcases e1 with rfl|rfl<;>simp<;>omega
    refine .go (.zw 7 rfl oq ?_);refine .z 8 rfl zg ?_;refine .D hs ?_;refine .draw mix rfl hs fun w hs=>?_
    refine .zw 0 rfl (zfa aS) ?_;refine .y 1 rfl hs eB ?_;refine .z 2 rfl zm ?_;refine .z 3 rfl cC ?_;refine .zw 4 rfl (zia 0 fb an) (.y 5 rfl hs aj ?_);refine .z 6 rfl (zfa bh) ?_;refine .y 7 rfl hs aC ?_;refine .z 8 rfl (bT ai) ?_;refine .zw 10 rfl (zia 1 fb an) (.y 11 rfl hs aj ?_);refine .z 12 rfl (zfa aV) ?_;refine .y 13 rfl hs aC ?_;refine .z 14 rfl (bT ai) ?_;refine .z 16 rfl zm ?_;refine .zw 17 rfl (zia 2 fb an) (.zv 18 rfl hs (uM aj) (.zw 21 rfl (zia 3 fb an) (.zv 22 rfl hs (uM aj) (.E 9 hs ?_))));refine .call kP rfl (da hs ak) ?_;rintro _ w ⟨k59,g59,rfl,hs⟩;refine .go (.E 15 hs ?_);refine .call kP rfl (da hs ak) ?_;rintro _ w ⟨k65,g65,rfl,hs⟩;refine .go (.E 19 hs ?_);refine .call kP rfl (da hs ak) ?_;rintro _ w ⟨k69,g69,rfl,hs⟩;refine .go (.zw 20 rfl cC (.E 23 hs ?_));refine .call kP rfl (da hs ak) ?_;rintro _ w ⟨k73,g73,rfl,hs⟩;obtain ⟨r,hr⟩:∃r:Rdg,r=⟨10+(rs.length:Int),(k59:Int),(k65:Int),0,(OB:Int)*(OA:Int),1+(k69:Int),(k73:Int)⟩:=⟨_,rfl⟩;have W0:k8 s r:=by subst hr;exact ⟨by dsimp only;omega,by dsimp only;omega,by dsimp only;omega,by dsimp only;omega,by dsimp only;omega,by dsimp only;omega,by dsimp only;omega⟩
    refine .go (.zw 24 rfl (zbd [_,_,_,_,_,_,_] zh) (.E 25 hs ?_));refine .buildSlice (cells:=r.c) hs dS rfl (by subst hr;kernel_rfl) ?_;intro b75 w hs;refine .go (.E 26 hs ?_);refine .append (ys:=r.c) hs bL rfl rfl lq (.own .here rfl rfl) (by simp [Rdg.c,Value.oneCell']) (fun l' h=>by rw [a7 _ (lB _),cL] at h;omega) ?_;intro v76 en76 w tY hs;rw [←p7] at tY;obtain ⟨a76,c76,rfl⟩:=tY.jx (lB _) ak;rw [cL] at tY ⊢;refine .go (.zw 27 rfl (zfa aS) (.E 28 hs ?_));refine .store hs rfl rfl F2 ?_;intro w hs;refine .go (.D hs (nB (nT (.region (.z zm (.z cC (.zn zg (nT ?_))))))));exact ⟨(rs++[r],a76,c76),.dw rfl aU bg,⟨by simp;omega,by simp;omega,fun q hq=>by
      simp only [List.mem_append,List.mem_singleton] at hq
      rcases hq with hq|rfl
      ·exact yH q hq
      ·exact W0,_,tY,hs.sb⟩,by simp;omega⟩
   ·exact .exit (xT (xT (xB (nT ⟨rs,e3,ar,cr,bg,Fw,Vn,yH,lq,hs⟩))))
  ·exact .Fs 2 5 true (.zn zpF (.cF (.exit (xT (xT (xB (nT ⟨rs,e3,ar,cr,bg,Fw,Vn,yH,lq,hs⟩)))))))
 ·clear hs;rintro fs w ⟨rs,e3,ar,cr,j8,Fw,Vn,yH,lq,hs⟩;refine WE.sub ?_ j8;clear j8;refine .cut (fun fs w=>∃cs e4 ac cc,ob fs ⟨208,[],[(5,Pt b5),(4,Pt b4),(2,Pt b2),(1,Pt b1)]⟩∧cs.length≤5∧(∀c∈cs,qH c)∧(Srv.qw ⟨s,rs,cs⟩).Sound∧bE 6 (.slice ac cs.length cc) (cmc cs).flatten e4∧St H w (e1::e2::e3::e4:: .blk b5 [I s.id,I s.src,.slice ast s.st.length cst,.slice awa s.wa.length cwa,I s.al,I s.up]:: .blk b4 [I s.id,I s.src,.slice ast s.st.length cst,.slice awa s.wa.length cwa,I s.al,I s.up,.slice ar rs.length cr,.slice ac cs.length cc]:: .blk b2 [I 0,I 0,.slice none 0 0,.slice none 0 0,I 0,I 0,.slice none 0 0,.slice none 0 0]:: .blk b1 [.slice avs sl.length cvs,.slice av5 fG.length cv5,.slice av4 fL.length cv4,.slice avp pk.length cvp,I z1,I z2,I z3]::σ)) ?_ ?_
  ·refine .af (.zn zg (.block ?_));refine .loop (fun p:Nat×List Cmp×Option Addr×Nat=>⟨208,[],[(9,I (p.1:Int)),(5,Pt b5),(4,Pt b4),(2,Pt b2),(1,Pt b1)]⟩)
    (fun p w=>p.1≤5∧p.1≤fL.length∧p.2.1.length≤p.1∧(∀c∈p.2.1,qH c)∧(Srv.qw ⟨s,rs,p.2.1⟩).Sound∧∃e4,bE 6 (.slice p.2.2.1 p.2.1.length p.2.2.2) (cmc p.2.1).flatten e4∧
     St H w (e1::e2::e3::e4:: .blk b5 [I s.id,I s.src,.slice ast s.st.length cst,.slice awa s.wa.length cwa,I s.al,I s.up]:: .blk b4 [I s.id,I s.src,.slice ast s.st.length cst,.slice awa s.wa.length cwa,I s.al,I s.up,.slice ar rs.length cr,.slice p.2.2.1 p.2.1.length p.2.2.2]:: .blk b2 [I 0,I 0,.slice none 0 0,.slice none 0 0,I 0,I 0,.slice none 0 0,.slice none 0 0]:: .blk b1 [.slice avs sl.length cvs,.slice av5 fG.length cv5,.slice av4 fL.length cv4,.slice avp pk.length cvp,I z1,I z2,I z3]::σ)) (fun p=>5 - p.1) (0,[],none,0) bg
    ⟨aU,aU,aU,aU,KV (BF O7.ok Uk Ui Fw aU yH aU) rfl,.nul,.nil 6 none,(hs.nul).sb⟩ ?_
   clear hs;rintro ⟨k,cs,ac,cc⟩ w ⟨hk5,hkf,OZ,DW,GA,e4,tY,hs⟩;dsimp only at hk5 hkf OZ DW GA tY hs ⊢;refine .seq (.af (.z zm (.z (zfa kH) (.y hs (zld isAgg24) (.z (bT runUnderlying24) (.z fT (.z zm (.jK (t':=83) rfl (fun XP=>?_) (fun XP=>?_)))))))))
   ·refine .T (.z zm (.T (.z fT (.zn zpT (.bQ rfl (fun XF=>?_) (fun XF=>?_))))))
    ·refine .skip (nT (.seq (.block (.af (.z (zfa kH) (.y hs (zld isAgg24) (.z zm ?_)))))));obtain ⟨n,hn⟩:=nth (l:=fL) (k:=k) ak;refine .ixX (enc:=F4.v) hs g3 rfl rfl runUnderlying24 sizeOf112 hn eu ?_;intro b92 o92 XE;refine .q hs (bj (vs:=n.v) rfl isAgg112 sizeOf112 XE) (.o (.alloc hs zeroValue112 rfl fun jr w hs=>?_));refine .o (.aL (vs:=[_,_,_,_]) hs rfl rfl sizeOf112 fun w hs=>?_);refine .nil (.af (.z (zia 1 CP an) (.y hs (zld aj) (.o (.call kP rfl (da hs ak) ?_)))));rintro _ w ⟨Zd,g96,rfl,hs⟩;refine .z jj (.zn zg (.af (.z (zia 3 CP an) (.y hs (zld aj) (.o (.call kP rfl (da hs ak) ?_))))));rintro _ w ⟨S5,g100,rfl,hs⟩;refine .zn zg (.seq (.draw mix rfl hs fun w hs=>?_));refine .zw 0 rfl (zfa dm) ?_;refine .y 1 rfl hs qL ?_;refine .z 2 rfl zm ?_;refine .z 3 rfl cC ?_;refine .zw 4 rfl (zia 0 CP an) (.y 5 rfl hs aj ?_);refine .z 8 rfl zm ?_;refine .z 9 rfl zm ?_;refine .zw 10 rfl (zia 3 CP an) (.y 11 rfl hs aj ?_);refine .z 12 rfl RN ?_;refine .z 15 rfl zm ?_;refine .z 16 rfl zm ?_;refine .zw 17 rfl (zia 2 CP an) (.zv 18 rfl hs (uM aj) (.E 6 hs ?_));refine .call kP rfl (da hs ak) ?_;rintro _ w ⟨Wu,g107,rfl,hs⟩;refine .go (.zw 7 rfl cC (.E 13 hs ?_));refine .call kP rfl (da hs ak) ?_;rintro _ w ⟨Wr,g114,rfl,hs⟩;refine .go (.zw 14 rfl cC (.E 19 hs ?_));refine .call kP rfl (da hs ak) ?_;rintro _ w ⟨Wq,g120,rfl,hs⟩;obtain ⟨c,hc⟩:∃c:Cmp,c=⟨30+(k:Int),1+(Wu:Int),(S5:Int),(S5:Int)+(Wr:Int),(Zd:Int) - 40,(Zd:Int) - 40+(Wq:Int)⟩:=⟨_,rfl⟩;have XC:qH c:=by subst hc;exact ⟨by dsimp only;omega,by dsimp only;omega,by dsimp only;omega,by dsimp only;omega,by dsimp only;omega,by dsimp only;omega⟩
     refine .go (.zw 20 rfl cC ?_);refine .z 21 rfl (zbd [_,_,_,_,_,_] zk) ?_;refine .E 22 hs ?_;refine .buildSlice (cells:=c.c) hs iD rfl (by subst hc;kernel_rfl) ?_;intro b123 w hs;refine .go (.E 23 hs ?_);refine .append (ys:=c.c) hs cS rfl rfl tY (.own .here rfl rfl) (by simp [Cmp.c,Value.oneCell']) (fun l' h=>by rw [a7 _ (w7 _),iw] at h;omega) ?_;intro v124 en124 w zF hs;rw [←tw] at zF;obtain ⟨a124,c124,rfl⟩:=zF.jx (w7 _) ak;rw [iw] at zF ⊢;have tX:(cs++[c]).length=cs.length+1:=by simp
     have OY:∀d∈cs++[c],qH d:=fun d hd=>by
      simp only [List.mem_append,List.mem_singleton] at hd
      rcases hd with hd|rfl
      ·exact DW d hd
      ·exact XC
     have Fv:iE ⟨s,rs,cs++[c]⟩:=BF O7.ok Uk Ui Fw ak yH OY;refine .go (.zw 24 rfl (zfa dm) (.E 25 hs ?_));refine .store hs rfl rfl PF ?_;intro w hs;refine .go (.D hs (.af (.y hs (zls [_,_,_,_,_,_,_,_] df bu) ?_)));obtain ⟨Hx,HS,r1,r2,r3,r4,CD,back⟩:=Px.Fp (s:=⟨s,rs,cs++[c]⟩) ⟨NA,gM,lq,zF⟩ (by show s.st.length≤_;omega) (by show s.wa.length≤_;omega) (by show rs.length≤_;omega) (by show (cs++[c]).length≤_;omega) (hs.sb:St H w (e1::e2::e3::en124:: .blk b5 [I s.id,I s.src,.slice ast s.st.length cst,.slice awa s.wa.length cwa,I s.al,I s.up]:: .blk b4 [I s.id,I s.src,.slice ast s.st.length cst,.slice awa s.wa.length cwa,I s.al,I s.up,.slice ar rs.length cr,.slice a124 (cs++[c]).length c124]:: .blk b2 [I 0,I 0,.slice none 0 0,.slice none 0 0,I 0,I 0,.slice none 0 0,.slice none 0 0]:: .blk b1 [.slice avs sl.length cvs,.slice av5 fG.length cv5,.slice av4 fL.length cv4,.slice avp pk.length cvp,I z1,I z2,I z3]::σ));refine .o (.call call31 rfl (xZ (s:=⟨s,rs,cs++[c]⟩) CD r1 r2 r3 r4 Fv.early (FP Fv)) ?_);rintro _ w ⟨Hy,b127,Kg,rfl,Ug,OF⟩;have hs:=back Kg OF;clear CD OF back;refine .nil (.cond rfl (fun O2=>?_) (fun O2=>?_))
     ·refine .region (.z (zfa dm) (.y hs (zld qL) (.z (zfa dm) (.y hs (zld qL) (.z (bT cH) (.z jj (.q hs (pq (k:=cs.length) rfl rfl cH dC ak (by have:=zF.le;omega)) ?_)))))));refine .z (zfa dm) (.o (.store hs rfl rfl PF fun w hs=>?_));exact .nil (nB (nT (.region (.z zm (.z cC (.zn zg (nT ⟨(k+1,cs,a124,c124),.dw rfl aU bg,⟨by dsimp only;omega,by dsimp only;omega,by dsimp only;omega,DW,GA,_,zF.Rg,hs.sb⟩,by dsimp only;omega⟩)))))))
     ·exact .skip (nB (nT (.region (.z zm (.z cC (.zn zg (nT ⟨(k+1,cs++[c],a124,c124),.dw rfl aU bg,⟨by dsimp only;omega,by dsimp only;omega,by dsimp only;omega,OY,Ug (by simpa using O2),_,zF,hs.sb⟩,by dsimp only;omega⟩)))))))
    ·exact .exit (xT (xT (xB (nT ⟨cs,e4,ac,cc,bg,ak,DW,GA,tY,hs⟩))))
   ·exact .Fs 2 5 true (.zn zpF (.cF (.exit (xT (xT (xB (nT ⟨cs,e4,ac,cc,bg,ak,DW,GA,tY,hs⟩)))))))
  ·clear hs;rintro fs w ⟨cs,e4,ac,cc,j8,QU,DW,GA,tY,hs⟩;refine WE.sub ?_ j8;clear j8;have Fv:iE ⟨s,rs,cs⟩:=BF O7.ok Uk Ui Fw QU yH DW;refine .af (.y hs (zls [_,_,_,_,_,_,_,_] df bu) (.z (zfa pK) (.y hs (zld aC) ?_)));obtain ⟨Hx,HS,r1,r2,r3,r4,CD,back⟩:=Px.Fp (s:=⟨s,rs,cs⟩) ⟨NA,gM,lq,tY⟩ (by show s.st.length≤_;omega) (by show s.wa.length≤_;omega) (by show rs.length≤_;omega) (by show cs.length≤_;omega) hs;refine .o (.call call32 rfl (xY (s:=⟨s,rs,cs⟩) CD r1 r2 r3 r4 (g4.mono HS) Fv.early ⟨FP Fv,GA⟩) ?_);rintro v139 w ⟨Hy,x,ex,Kg,hOx,hP,OF⟩;have hs:=back Kg OF;clear CD OF back r1 r2 r3 r4;obtain ⟨AR,CB,Ww,VB⟩:=hP.Po (FP Fv) GA;have sX:=Fv.many;have R0:(Srv.qw ⟨s,rs,cs⟩).n=s.many+(aO rs).length+1:=C7 ⟨s,rs,cs⟩;have AR:x.length=s.many+(aO rs).length+1:=by rw [AR];exact R0
   rw [R0] at Ww;have sX:s.many+(aO rs).length≤64:=sX;obtain ⟨Hz,TC,hX,hs⟩:=bE.bX hOx ak hs cg;obtain ⟨ax,cx,rfl⟩:=RI.shape hX;refine .zn zg (.seq (.af (.zn zg (.block ?_))));refine .loop (fun p:Nat×List Rdg=>⟨208,[],[(14,I (p.1:Int)),(13,.slice ax x.length cx),(5,Pt b5),(4,Pt b4),(2,Pt b2),(1,Pt b1)]⟩)
    (fun p w=>p.1≤rs.length∧p.2.length=rs.length∧aO p.2=aO rs∧(∀r∈p.2,RdS s r)∧(∀j<p.1,∀r,p.2[j]? =some r→Lq s (aO rs) x r)∧∃e3,bE 7 (.slice ar rs.length cr) (rdc p.2).flatten e3∧
     St Hz w (e1::e2::e3::e4:: .blk b5 [I s.id,I s.src,.slice ast s.st.length cst,.slice awa s.wa.length cwa,I s.al,I s.up]:: .blk b4 [I s.id,I s.src,.slice ast s.st.length cst,.slice awa s.wa.length cwa,I s.al,I s.up,.slice ar rs.length cr,.slice ac cs.length cc]:: .blk b2 [I 0,I 0,.slice none 0 0,.slice none 0 0,I 0,I 0,.slice none 0 0,.slice none 0 0]:: .blk b1 [.slice avs sl.length cvs,.slice av5 fG.length cv5,.slice av4 fL.length cv4,.slice avp pk.length cvp,I z1,I z2,I z3]::σ)) (fun p=>rs.length - p.1) (0,rs) bg
    ⟨aU,rfl,rfl,fun r hr=>⟨(yH r hr).st,(yH r hr).wa,(yH r hr).tol⟩,fun j hj=>by omega,e3,lq,hs⟩ ?_
   clear hs lq;rintro ⟨k,R⟩ w ⟨hk,Z0,ES,VJ,X3,e3,lq,hs⟩;dsimp only at hk Z0 ES VJ X3 lq hs ⊢;refine .seq (.af (.z zm (.z (zfa aS) (.y hs (zld eB) (.z (bT aT) (.zn fT (.bQ rfl (fun T6=>?_) (fun T6=>?_))))))))
   ·refine .skip (nT (.seq (.block (.af (.z (zfa ic) (.y hs (zld isAgg23) (.z zm ?_)))))));obtain ⟨n,hn⟩:=nth (l:=fG) (k:=k) ak;obtain ⟨r,hr⟩:=nth (l:=R) (k:=k) ak;have Vo:=VJ r (List.mem_of_getElem? hr);obtain ⟨u,Qw,Qv⟩:=Vo.u;have WW:=Vo.st;have WU:=Vo.wa;have Tj:=Vo.tol;have s4:r.td∈aO R:=ee.2 ⟨r,List.mem_of_getElem? hr,rfl⟩;obtain ⟨q,q1,q2,q3⟩:=iF s4;rw [ES] at q3;have D6:=Ww u ak;have AV:=Ww (s.many+1+q) ak;obtain ⟨bo,co,sp,hv,rfl,mI⟩:=lq.Sd (lB _) ak (by rw [cL];omega);simp only [Value.slice.injEq] at hv;obtain ⟨rfl,WC,rfl⟩:=hv;obtain ⟨Hx,HS,r1,r2,r3,r4,CD,back⟩:=Px.Fp (s:=⟨s,R,cs⟩) ⟨NA,gM,lq,tY⟩ (by show s.st.length≤_;omega) (by show s.wa.length≤_;omega) (by show R.length≤_;omega) (by show cs.length≤_;omega) hs;clear hs;have hs:=CD;clear CD;refine .ixX (enc:=F5.v) hs (g2.mono (TC.trans HS)) rfl rfl runUnderlying23 oV hn eu ?_;intro b150 o150 Kz;refine .q hs (bj (vs:=n.v) rfl isAgg111 oV Kz) (.o (.alloc hs zeroValue111 rfl fun Ll w hs=>?_));refine .o (.aL (vs:=[_,_,_,_,_]) hs rfl rfl oV fun w hs=>?_);refine .nil (.af (.z (zfa aS) (.y hs (zld eB) (.z zm (.ixX (enc:=Rdg.c) hs r3 rfl rfl aT br hr eu ?_)))));intro b155 o155 T5;refine .q hs (bj (vs:=r.c) rfl gP br T5) (.o (.alloc hs ji rfl fun vC w hs=>?_));refine .o (.aL (vs:=[_,_,_,_,_,_,_]) hs rfl rfl br fun w hs=>?_);refine .nil (.af (.y hs (zls [_,_,_,_,_,_] bC aM) (.z (zfa fi) (.y hs (zld aj) (.z (zfa fh) (.y hs (zld aj) (.o (.call call33 rfl (ed (s:=s) hs r2 ak ak ak) ?_))))))));rintro _ w ⟨rfl,hs⟩;rw [Qw];refine .zn zg (.seq (.draw mix rfl hs fun w hs=>?_));refine .ys 0 rfl hs [_,_,_,_,_,_] bC aM ?_;refine .z 3 rfl (zfa aS) ?_;refine .y 4 rfl hs eB ?_;refine .z 6 rfl (zfa dV) ?_;refine .y 7 rfl hs aj ?_;refine .z 8 rfl (zfa dI) ?_;refine .y 9 rfl hs aj ?_;refine .z 10 rfl (zbd [_,_] ik) ?_;refine .E 1 hs ?_;refine .call call34 rfl (gR (s:=s) hs r1 r2 ⟨ak,ak⟩) ?_;rintro _ w ⟨rfl,hs⟩;refine .go (.zw 2 rfl cC (.E 5 hs ?_));refine .call call36 rfl (iT (rs:=R) hs r3 ak) ?_;rintro v168 w ⟨Hw,Xg,hT,hs⟩;refine .go (.E 11 hs ?_);refine .call call35 rfl (kQ (t:=r.td) hs hT (by rw [ES];omega)) ?_;rintro _ w ⟨rfl,hs⟩;rw [q1];refine .go (.zw 12 rfl cC ?_);refine .z 13 rfl zg ?_;refine .D hs ?_;refine .seq (.draw mix rfl hs fun w hs=>?_);refine .zw 0 rfl (zia 4 fb an) (.y 1 rfl hs aj ?_);refine .z 2 rfl RN ?_;refine .z 3 rfl (zfa cI) ?_;refine .y 4 rfl hs aj ?_;refine .z 5 rfl oq ?_;refine .z 6 rfl cC ?_;refine .z 8 rfl (zfa cI) ?_;refine .y 9 rfl hs aj ?_;refine .E 7 hs ?_;refine .call kP rfl (da hs ak) ?_;rintro _ w ⟨S4,g183,rfl,hs⟩;refine .go (.zw 10 rfl jj ?_);refine .z 11 rfl zg ?_;refine .D hs ?_;refine .draw mix rfl hs fun w hs=>?_
    refine .zw 0 rfl (zfa aS) ?_;refine .y 1 rfl hs eB ?_;refine .z 2 rfl zm ?_;refine .z 3 rfl zm ?_;refine .z 4 rfl zm ?_;have hs:=back Xg hs;refine .ixX (enc:=fun x=>[I x]) (i:=5) hs rfl aF .none hX rfl rfl ai an (ck (l:=x) (i:=u) ak) rfl ?_;intro b192 o192 Ky;replace Ky:=bI.one Ky;refine .r (i:=6) hs rfl aF .none (aR rfl aj Ky) ?_;refine .zw 7 rfl zm ?_;refine .z 8 rfl zm ?_;refine .ixX (enc:=fun x=>[I x]) (i:=9) hs rfl aF .none hX rfl rfl ai an (ck (l:=x) (i:=s.many+1+q) ak) (by push_cast;rfl) ?_;intro b196 o196 Kx;replace Kx:=bI.one Kx;refine .r (i:=10) hs rfl aF .none (aR rfl aj Kx) ?_;refine .zw 11 rfl jj ?_;refine .z 12 rfl zm ?_;refine .z 13 rfl cC ?_;first|(refine .ixw 14 rfl hs aT br ?_;intro YF o201 O1)|refine .z 14 rfl (wo aT br) ?_
    refine .zw 15 rfl (zfa dW) (.E 16 hs ?_);refine .store (c':=(rdc (R.set k {r with val:=gi x u - gi x (s.many+1+q)+((S4:Int) - r.tol)})).flatten++sp) hs rfl rfl an ?_ cg (Nat.ble_eq_true_of_le (by rw [List.length_append,a7 _ (lB _),cL];omega)) (Fc hr sp _);intro w hs;refine .go (.D hs (nB (nT (.region (.z zm (.z cC (.zn zg (nT ?_))))))));exact ⟨(k+1,R.set k {r with val:=gi x u - gi x (s.many+1+q)+((S4:Int) - r.tol)}),.dw rfl aU bg,⟨by dsimp only;omega,by dsimp only;rw [List.length_set];exact Z0,by dsimp only;rw [CY hr];exact ES,fun y hy=>by
      rcases List.mem_or_eq_of_mem_set hy with h|h
      ·exact VJ y h
      ·subst h;exact ⟨WW,WU,Tj⟩,fun j hj y hy=>by
      dsimp only at hj hy;by_cases e:j=k
      ·subst e;rw [List.getElem?_set_self ak] at hy;obtain rfl:=Option.some.inj hy;have q1':lz (aO rs) r.td=q:=by rw [←ES];exact q1
       unfold Lq;show gi x (1+r.st*s.wa.length+r.wa).toNat - gi x (s.many+1+lz (aO rs) r.td).toNat - r.tol≤_∧_≤gi x (1+r.st*s.wa.length+r.wa).toNat - gi x (s.many+1+lz (aO rs) r.td).toNat+r.tol;rw [Qw,q1',show ((s.many:Int)+1+(q:Int)).toNat=s.many+1+q by omega,Int.toNat_natCast];dsimp only;omega
      ·rw [List.getElem?_set_ne ak] at hy;exact X3 j ak y hy,_,MI lq _,hs.sb⟩,by dsimp only;omega⟩
   ·refine .exit (xT (xT (xB (nT (.af (.y hs (zls [_,_,_,_,_,_,_,_] df bu) (.z zm ?_)))))));obtain rfl:k=rs.length:=by omega
    obtain ⟨Hx,HS,r1,r2,r3,r4,CD,back⟩:=Px.Fp (s:=⟨s,R,cs⟩) ⟨NA,gM,lq,tY⟩ (by show s.st.length≤_;omega) (by show s.wa.length≤_;omega) (by show R.length≤_;omega) (by show cs.length≤_;omega) hs;refine .o (.call call37 rfl (sG (s:=⟨s,R,cs⟩) (x:=x) CD r1 r2 r3 ⟨_,_,_,rfl⟩ (hX.mono HS) (by rw [C7];show _=s.many+(aO R).length+1;rw [ES];exact AR) ⟨by show s.st.length≤_;omega,by show s.wa.length≤_;omega,by show R.length≤_;omega⟩) ?_);rintro _ w ⟨Hy,vr',vy,er,ey,Kg,rfl,hOr,VK,OF⟩;have hs:=back Kg OF;clear CD OF back r1 r2 r3 r4;have EN:=yF s R;obtain ⟨arr,crr,rfl⟩:=hOr.jx (lB _) ak;obtain ⟨ayy,lyy,cyy,rfl,-⟩:=VK.shape;refine .z zex (.z zex (.o (.aL (vs:=[_,_,_,_,_,_,_,_]) hs rfl rfl bu fun w hs=>?_)));refine .zn zg (.ret ?_);exact Fin.ki [] [] hs fun w hs=>⟨_,results2 results7 (dK (vs:=[_,_,_,_,_,_,_,_]) hs rfl df bu) rfl,Hz,⟨s,iA s R,cs⟩,_,_,_,_,_,_,e1,e2,er,e4,ey,TC,rfl,
     ⟨Uk,Ui,by show (iA s R).length≤14;omega,QU,BF O7.ok Uk Ui ak QU (fun r h=>(DJ h).2) DW⟩,⟨NA,gM,hOr,tY⟩,VK,HM VB CB AR ES VJ (fun r hr=>by
      obtain ⟨j,hj⟩:=List.getElem?_of_mem hr;have:=(List.getElem?_eq_some_iff.1 hj).1;exact X3 j ak r hj),hs.sb⟩
theorem iR{w:World}{v:Value}{xs:List Rdg}(hs:St H w σ)(hr:RRd H v xs)(hx:xs.length≤1000000):aaq 261 [v] w fun v w'=>∃en,bE 7 v (rdc xs).flatten en∧St H w' (en::σ):=by
 obtain ⟨a,c,rfl⟩:=RRd.shape hr;refine Cl.o func261 ntmps261 ag1 ?_;refine .af (.zn zg (.seq (.af (.z zm (.q hs (Dh rfl rfl aT) (.nil (.cond rfl (fun FG=>?_) (fun FG=>?_))))))))
 ·refine .af (.zn zg (.ret (rT (Fin.aW results261 rfl ?_))));obtain rfl:a=none:=by simpa using FG
  obtain rfl:=RRd.HJ hr;exact ⟨.nul,.nil 7 none,hs.nul⟩
 ·refine .skip (nT (.af (.o (.buildSlice (cells:=[]) hs qB rfl rfl fun b5 w hs=>?_))));refine .z zm (.o (.append (xs:=[]) (ys:=(rdc xs).flatten) hs bL rfl rfl (.full (len:=0) rfl) (RE hr) (Mt xs) (fun l h=>by simp at h;omega) ?_));intro v7 en7 w hO hs;exact .zn zg (.ret (Fin.aW results261 rfl ⟨en7,hO,hs⟩))
theorem wB{w:World}{v:Value}{xs:List Cmp}(hs:St H w σ)(hr:RCm H v xs)(hx:xs.length≤1000000):aaq 287 [v] w fun v w'=>∃en,bE 6 v (cmc xs).flatten en∧St H w' (en::σ):=by
 obtain ⟨a,c,rfl⟩:=RCm.shape hr;refine Cl.o func287 ntmps287 ag1 ?_;refine .af (.zn zg (.seq (.af (.z zm (.q hs (Dh rfl rfl cH) (.nil (.cond rfl (fun FG=>?_) (fun FG=>?_))))))))
 ·refine .af (.zn zg (.ret (rT (Fin.aW results287 rfl ?_))));obtain rfl:a=none:=by simpa using FG
  obtain rfl:=RCm.HJ hr;exact ⟨.nul,.nil 6 none,hs.nul⟩
 ·refine .skip (nT (.af (.o (.buildSlice (cells:=[]) hs qE rfl rfl fun b5 w hs=>?_))));refine .z zm (.o (.append (xs:=[]) (ys:=(cmc xs).flatten) hs cS rfl rfl (.full (len:=0) rfl) (RF hr) (NQ xs) (fun l h=>by simp at h;omega) ?_));intro v7 en7 w hO hs;exact .zn zg (.ret (Fin.aW results287 rfl ⟨en7,hO,hs⟩))
theorem qP{w:World}{v:Value}(hs:St H w (en::σ))(hO:bE 1 v (Is xs) en)(hl:xs.length≤17592186044416):
  aaq 126 [v] w fun u w'=>∃jn,u= .tuple #[]∧bE 1 v (Is (xs.mergeSort fun x y=>decide (x≤y))) jn∧St H w' (jn::σ):=by
 rcases hO with ⟨a,rfl,h0,rfl⟩|⟨b,len,cap,sp,rfl,rfl,h3,h4,h5⟩
 ·obtain rfl:xs=[]:=by simpa using h0
  exact (wz hs).mono fun u w' ⟨h,hs⟩=>⟨.nul,h,by simpa using bE.nil 1 a,hs⟩
 ·obtain rfl:len=xs.length:=by simpa using h3.symm
  exact (xS hs hl).mono fun u w' ⟨h,hs⟩=>⟨_,h,.inr ⟨b,_,cap,sp,rfl,rfl,aU,by simpa using h4,h5⟩,hs⟩
theorem mZ{w:World}{v:Value}(hs:St H w (en::σ))(hO:bE 1 v (Is xs) en)(hl:xs.length≤17592186044416):
  aaq 127 [v] w fun u w'=>∃jn,bE 1 u (Is (Go.Lib.compact xs)) jn∧St H w' (jn::σ):=by
 rcases hO with ⟨a,rfl,h0,rfl⟩|⟨b,len,cap,sp,rfl,rfl,h3,h4,h5⟩
 ·obtain rfl:xs=[]:=by simpa using h0
  exact (rq hs).mono fun u w' ⟨h,hs⟩=>⟨.nul,by rw [h];exact .nil 1 a,hs⟩
 ·obtain rfl:len=xs.length:=by simpa using h3.symm
  have tX:=Go.Lib.compact_length_le xs;have h4':xs.length+sp.length=cap:=by simpa using h4
  exact (sD hs hl h5).mono fun u w' ⟨h,hs⟩=>⟨_,.inr ⟨b,_,cap,Is (List.replicate (xs.length - (Go.Lib.compact xs).length) 0)++sp,h,rfl,aU,by simp;omega,ak⟩,hs⟩
theorem zO{w:World}{sl:List Int}(hs:St H w σ)(g1:RI H vs sl)(g2:RF5 H v5 fG)(g3:RF4 H v4 fL)(g4:RI H vp pk):
  aaq 7 [.agg #[vs,v5,v4,vp,I z1,I z2,I z3]] w fun u w'=>∃H1 s y vst vwa vr vc vy,HLe H H1∧u= .tuple #[.agg #[I s.sp.id,I s.sp.src,vst,vwa,I s.sp.al,I s.sp.up,vr,vc],vy]∧xj s∧ra s y∧RI H1 vst s.sp.st∧RI H1 vwa s.sp.wa∧RRd H1 vr s.rs∧RCm H1 vc s.cs∧RI H1 vy y∧St H1 w' σ:=by
 refine (zP hs g1 g2 g3 g4).mono ?_;rintro _ w ⟨H3,m,y,ust,uwa,ur,uc,uy,e1,e2,e3,e4,e5,bA,rfl,hM,hOV,VK,hK,hs⟩;have Te:=hM.st;have hwa3:=hM.wa;have hmr:=hM.rs;have hmc:=hM.cs;obtain ⟨H4,gz,r1,r2,r3,r4,hs,-⟩:=Px.Fp hOV ak ak ak ak hs;obtain ⟨qg,-,hyb⟩:=hK.bd;have Zv:=hM.ok.many;obtain ⟨H5,ib,hY,hs⟩:=bE.bX VK ak hs .here;exact ⟨H5,m,y,_,_,_,_,_,bA.trans (gz.trans ib),rfl,hM,hK,r1.mono ib,r2.mono ib,r3.mono ib,r4.mono ib,hY,hs⟩
theorem Ot{P:Program}{s:FS}{t gL:TypeId}{x y:Operand}{p:Int}(hx:FS.ev s x=some (.int .u64 p))(hy:FS.ev s y=some (.int .u64 1)):QJ P H σ s (.binOp .shr t x y gL) (.int .u64 (p/2)):=by
 have h1:=Ff (P:=P) (H:=H) (σ:=σ) (t:=t) (gL:=gL) hx hy ak;have h2:p.fdiv (2 ^min (1:Int).toNat IntKind.u64.bits)=p/2:=by
  have:(2:Int) ^min (1:Int).toNat IntKind.u64.bits=2:=by decide
  rw [this,Int.fdiv_eq_ediv_of_nonneg _ ak]
 rw [h2] at h1;exact h1
end Go.Proofs.YtfnfiekkdpphjaaGreat
namespace Go.MW
variable{H H':bp}{k a b known room:Int}{i j:Nat}{kd:Int→Int}
structure Ev where
 off:Int
 seq:Int
 kind:Int
 ship:Int
 day:Int
 known:Int
 room:Int
 num:Int
 opn:Int
 crew:Int
 sp:Spc
 ast:Option Addr
 cst:Nat
 awa:Option Addr
 cwa:Nat
 rd:Rdg
 cm:Cmp
 oo:Int
 os:Int
abbrev Ev.vst(x:Ev):Value:= .slice x.ast x.sp.st.length x.cst
abbrev Ev.vwa(x:Ev):Value:= .slice x.awa x.sp.wa.length x.cwa
def Ev.c(x:Ev):List Value:=[I x.off,I x.seq,I x.kind,I x.ship,I x.day,I x.known,I x.room,I x.num,I x.opn,I x.crew,I x.sp.id,I x.sp.src,.slice x.ast x.sp.st.length x.cst,.slice x.awa x.sp.wa.length x.cwa,I x.sp.al,I x.sp.up,
 I x.rd.src,I x.rd.st,I x.rd.wa,I x.rd.val,I x.rd.tol,I x.rd.tape,I x.rd.day,I x.cm.src,I x.cm.tape,I x.cm.fr,I x.cm.to,I x.cm.lo,I x.cm.hi,I x.oo,I x.os]
def Ev.agg(x:Ev):Value:= .agg #[I x.off,I x.seq,I x.kind,I x.ship,I x.day,I x.known,I x.room,I x.num,I x.opn,I x.crew,I x.sp.id,I x.sp.src,.slice x.ast x.sp.st.length x.cst,.slice x.awa x.sp.wa.length x.cwa,I x.sp.al,I x.sp.up,
 I x.rd.src,I x.rd.st,I x.rd.wa,I x.rd.val,I x.rd.tol,I x.rd.tape,I x.rd.day,I x.cm.src,I x.cm.tape,I x.cm.fr,I x.cm.to,I x.cm.lo,I x.cm.hi,I x.oo,I x.os]
structure EvM(H:bp)(x:Ev):Prop where
 st:RI H x.vst x.sp.st
 wa:RI H x.vwa x.sp.wa
theorem EvM.mono{x:Ev}(h:EvM H x)(hl:HLe H H'):EvM H' x:=⟨h.st.mono hl,h.wa.mono hl⟩
def evc(l:List Ev):List (List Value):=l.map Ev.c
theorem ig(l:List Ev):∀c∈evc l,c.length=31:=fun c hc=>by simp only [evc,List.mem_map] at hc;obtain ⟨x,_,rfl⟩:=hc;rfl
theorem dN(l:List Ev):(evc l).length=l.length:=by simp [evc]
theorem rY{l:List Ev}{k:Nat}{x:Ev}(h:l[k]? =some x):(evc l)[k]? =some x.c:=by simp [evc,h]
theorem B6(l:List Ev)(x:Ev):(evc (l++[x])).flatten=(evc l).flatten++x.c:=by simp [evc]
structure REv(H:bp)(v:Value)(l:List Ev):Prop where
 rs:RS H 31 v (l.map Ev.c)
 all:∀x∈l,EvM H x
theorem REv.mono{v:Value}{l:List Ev}(h:REv H v l)(hl:HLe H H'):REv H' v l:=⟨RS.mono h.rs hl,fun x hx=>(h.all x hx).mono hl⟩
theorem REv.shape{v:Value}{l:List Ev}(h:REv H v l):∃a cap,v= .slice a l.length cap:=by
 obtain ⟨a,c,rfl⟩:=h.rs.shape;exact ⟨a,c,by rw [List.length_map]⟩
def sp0:Spc:=⟨0,0,[],[],0,0⟩
def rd0:Rdg:=⟨0,0,0,0,0,0,0⟩
def cm0:Cmp:=⟨0,0,0,0,0,0⟩
structure IG(x:Ev):Prop where
 ok:fV x.sp
 id:x.sp.id≤999
 src:x.sp.src=x.seq+1
structure tM(x:Ev):Prop where
 kind:x.kind=1
 num:1≤x.num∧x.num≤9
 new:IG x
 room:x.room=0
 opn:x.opn=0
 crew:x.crew=0
 rd:x.rd=rd0
 cm:x.cm=cm0
structure xH(x:Ev):Prop where
 kind:x.kind=2
 num:1≤x.num∧x.num≤9
 new:IG x
 room:x.room=0
 opn:0≤x.opn∧x.opn≤1000
 crew:0≤x.crew∧x.crew≤999
 rd:x.rd=rd0
 cm:x.cm=cm0
structure jJ(x:Ev):Prop where
 kind:x.kind=8
 room:1≤x.room∧x.room≤999
 src:x.rd.src=x.seq+1
 day:x.rd.day=x.day
 st:0≤x.rd.st∧x.rd.st≤8
 wa:0≤x.rd.wa∧x.rd.wa≤6
 tol:0≤x.rd.tol∧x.rd.tol≤1000
 val:0≤x.rd.val∧x.rd.val≤20000 - x.rd.tol
 tape:1≤x.rd.tape∧x.rd.tape≤99
 num:x.num=0
 opn:x.opn=0
 crew:x.crew=0
 sp:x.sp=sp0
 ast:x.ast=none
 cst:x.cst=0
 awa:x.awa=none
 cwa:x.cwa=0
 cm:x.cm=cm0
structure Cu(x:Ev):Prop where
 kind:x.kind=9
 src:x.cm.src=x.seq+1
 tape:1≤x.cm.tape∧x.cm.tape≤99
 fr:0≤x.cm.fr∧x.cm.fr≤x.cm.to
 to:x.cm.to≤100000
 lo: -1000≤x.cm.lo∧x.cm.lo≤x.cm.hi
 hi:x.cm.hi≤1000
 room:x.room=0
 num:x.num=0
 opn:x.opn=0
 crew:x.crew=0
 sp:x.sp=sp0
 ast:x.ast=none
 cst:x.cst=0
 awa:x.awa=none
 cwa:x.cwa=0
 rd:x.rd=rd0
structure oH(x:Ev):Prop where
 off:x.off=0
 seq:0≤x.seq∧x.seq≤9999
 ship:1≤x.ship∧x.ship≤999
 day:0≤x.day∧x.day≤100000
 known:0≤x.known∧x.known≤100000
 oo:x.oo=0
 os:x.os=0
 what:tM x∨xH x∨jJ x∨Cu x
theorem oH.kind{x:Ev}(h:oH x):x.kind=1∨x.kind=2∨x.kind=8∨x.kind=9:=by
 rcases h.what with g|g|g|g
 ·exact .inl g.kind
 ·exact .inr (.inl g.kind)
 ·exact .inr (.inr (.inl g.kind))
 ·exact .inr (.inr (.inr g.kind))
theorem oH.build{x:Ev}(h:oH x)(hk:x.kind=1):tM x:=by
 rcases h.what with g|g|g|g
 ·exact g
 all_goals have:=g.kind;omega
theorem oH.Gz{x:Ev}(h:oH x)(hk:x.kind=2):xH x:=by
 rcases h.what with g|g|g|g
 case inr.inl=>exact g
 all_goals have:=g.kind;omega
theorem oH.read{x:Ev}(h:oH x)(hk:x.kind=8):jJ x:=by
 rcases h.what with g|g|g|g
 case inr.inr.inl=>exact g
 all_goals have:=g.kind;omega
theorem oH.tape{x:Ev}(h:oH x)(hk:x.kind=9):Cu x:=by
 rcases h.what with g|g|g|g
 case inr.inr.inr=>exact g
 all_goals have:=g.kind;omega
def ev0:Ev:=⟨0,0,0,0,0,0,0,0,0,0,sp0,none,0,none,0,rd0,cm0,0,0⟩
def evG(l:List Ev)(i:Nat):Ev:=l.getD i ev0
theorem dp{l:List Ev}(h:i<l.length):l[i]? =some (evG l i):=by simp [evG,List.getD,List.getElem?_eq_getElem h]
theorem mM{l:List Ev}(h:i<l.length):evG l i∈l:=List.mem_of_getElem? (dp h)
def lh(l:List Ev):Nat→Int
 |0=>0
 |n+1=>if (evG l n).kind=9 then lh l n+1 else lh l n
theorem C0(l:List Ev):∀n,0≤lh l n∧lh l n≤n
 |0=>by simp [lh]
 |n+1=>by have:=C0 l n;simp only [lh];split<;>omega
structure ub(l:List Ev):Prop where
 good:∀x∈l,oH x
 inc:∀i,i+1<l.length→(evG l i).seq<(evG l (i+1)).seq
 len:l.length≤80
 bN:lh l l.length≤20
end Go.MW
namespace Go.MW
section
variable{P:Program}{ro:Option Nat}{Q:Exit→FS→World→Prop}{K:FS→World→Prop}{s:FS}{w:World}{H:bp}{σ τ:List Ent}{n d:Nat}{ds:List Deferred}{e:List (Nat×Value)}{ty t:TypeId}{pos:String}{eZ:Array Edge}{v:Value}{x y z:Operand}{b:Nat}
theorem Mf:∀{c vs:List Value},c.length=vs.length→so c 0 vs=vs:=by
 intro c vs h;have:=sE vs [] [] c h;simpa using this
theorem OJ.fy{c vs:List Value}(hs:St H w σ)(hx:FS.ev s x=some (.pointer (some ⟨b,0,none⟩)))(hy:FS.ev s y=some (.agg vs.toArray))(hz:∀w,(sizeOf t).run P w= .ok vs.length w)
  (k:∀w',St H w' τ→K s w') (hu:Upd σ (.blk b c) (.blk b vs) τ:=by repeat constructor) (hl:c.length=vs.length:=by rfl) (hv:vs.all Value.oneCell'=true:=by rfl):OJ P ro ⟨none,.store t x y,ty,pos,eZ,none⟩ K s w:=
 .aL hs hx hy hz k hu (by rw [Nat.zero_add,hl];exact Nat.ble_eq_true_of_le (Nat.le_refl _)) (Mf hl) hv
theorem Jz{key elem:TypeId}{kv zv:Value}{c:Nat}(hx:FS.ev s x=some (.map (some b)))(hy:FS.ev s y=some kv)(hm:Mem σ (.obj b (.map #[] c)))(hu:∀w,(underlying t).run P w= .ok (.map key elem) w)
  (hk:∀w,(Instr.checkKey true 10000 key kv).run P w= .ok () w) {kd:TypeDesc} (DU:∀w,(underlying key).run P w= .ok kd w) (hz:∀w,(zeroValue elem).run P w= .ok zv w):QJ P H σ s (.lookup t x y false) zv:=
 ⟨fun _=>by simp,fun a w _ _ _ _ _ hs zD=>by
  simp [execOp,hs.ev hx,hs.ev hy,Instr.lookup,Sem.run_bind,Result.andThen,hu w,j5 (P:=P) zD hm,hk w,Instr.findKey,DU w,Instr.findNow,hz w]⟩
theorem JA{mo ko:Operand}{kt et:TypeId}{i:Int}{es:List MapEntry}{c j:Nat}(hm:FS.ev s mo=some (.map (some b)))(hk:FS.ev s ko=some (I i))
  (hu:∀w,(underlying t).run P w= .ok (.map kt et) w) (DU:∀w,(underlying kt).run P w= .ok (.int .i64) w) (hf:Instr.findNow (.int .i64) (I i) es 0=some (some (j,v)))
  (h:Mem σ (.obj b (.map es.toArray c)):=by repeat (first|exact .here|refine .there ?_)):QJ P H σ s (.lookup t mo ko false) v:=
 ⟨fun _=>by simp,fun a w _ _ _ _ _ ha hs=>by
  simp [execOp,ha.ev hm,ha.ev hk,Instr.lookup,Sem.run_bind,hu w,Result.andThen,j5 hs h,p6 DU,sF DU hf]⟩
end
end Go.MW
namespace Go.MW
variable{H H':bp}{k a b known room:Int}{i j:Nat}{kd:Int→Int}
def Bz(l:List Bool):List Value:=l.map Value.bool
theorem PB(l:List Bool)(k:Nat)(b:Bool):(Bz l).set k (.bool b)=Bz (l.set k b):=by simp [Bz,List.map_set]
theorem PD{l:List Bool}{k:Nat}(h:k<l.length):Nat.blt k (Bz l).length=true:=Nat.ble_eq_true_of_le (by simp [Bz];omega)
theorem PC{l:List Bool}{k:Nat}{b:Bool}(h:l[k]? =some b):(Bz l)[k]? =some (.bool b):=by simp [Bz,h]
theorem Lu(l:List Bool):(l.map fun b=>[Value.bool b]).flatten=Bz l:=by
 induction l with
 |nil=>rfl
 |cons a l ih=>simp only [List.map_cons,List.flatten_cons,ih];rfl
theorem U0(l:List Bool):∀c∈l.map fun b=>[Value.bool b],c.length=1:=fun c hc=>by
 simp only [List.mem_map] at hc;obtain ⟨x,_,rfl⟩:=hc;rfl
def RBo(H:bp)(v:Value)(l:List Bool):Prop:=RS H 1 v (l.map fun b=>[Value.bool b])
def PW(l:List Ev)(known:Int):List Bool:=l.map fun x=>decide (x.known≤known)
theorem rm(l:List Ev)(k:Int):(PW l k).length=l.length:=by simp [PW]
theorem Bf{l:List Ev}(h:i<l.length):(PW l k)[i]? =some (decide ((evG l i).known≤k)):=by simp [PW,dp h]
def EJ(l:List Ev)(known:Int)(m:Nat):List Bool:=(List.range l.length).map fun j=>if m≤j then decide ((evG l j).known≤known) else false
theorem iY(l:List Ev)(k:Int)(m:Nat):(EJ l k m).length=l.length:=by simp [EJ]
theorem Jg(l:List Ev)(k:Int):EJ l k 0=PW l k:=by
 refine List.ext_getElem? fun i=>?_
 by_cases h:i<l.length
 ·rw [Bf h];simp [EJ,h]
 ·rw [List.getElem?_eq_none (by rw [iY];omega),List.getElem?_eq_none (by rw [rm];omega)]
theorem L9(l:List Ev)(k:Int):EJ l k l.length=List.replicate l.length false:=by
 refine List.ext_getElem? fun i=>?_
 by_cases h:i<l.length
 ·simp [EJ,h];omega
 ·rw [List.getElem?_eq_none (by rw [iY];omega),List.getElem?_eq_none (by simp;omega)]
theorem C5{l:List Ev}{m:Nat}(h:m<l.length):(EJ l k (m+1)).set m (decide ((evG l m).known≤k))=EJ l k m:=by
 refine List.ext_getElem? fun i=>?_
 by_cases hi:i<l.length
 ·by_cases e:i=m
  ·subst e;rw [List.getElem?_set_self (by rw [iY];exact h)];simp [EJ,h]
  ·rw [List.getElem?_set_ne (by omega)];simp only [EJ,List.getElem?_map,List.getElem?_range hi,Option.map_some];by_cases e2:m≤i
   ·rw [if_pos (by omega),if_pos e2]
   ·rw [if_neg (by omega),if_neg e2]
 ·rw [List.getElem?_eq_none (by rw [List.length_set,iY];omega),List.getElem?_eq_none (by rw [iY];omega)]
theorem Ga{l:List Ev}{m:Nat}(h:m<l.length):(EJ l k m)[m]? =some (decide ((evG l m).known≤k)):=by simp [EJ,h]
def shC(n fl:Int)(s:Srv)(a b c d vc:Value)(th:Bool)(cmp tap dn vd:Value):List Value:=
 [I n,I fl,I s.sp.id,I s.sp.src,a,b,I s.sp.al,I s.sp.up,c,d,vc,.bool th,cmp,tap,dn,vd]
structure Rm where
 id:Int
 kind:Int
 opn:Int
 crew:Int
def ceC(r:Rm)(s:Srv)(a b c d:Value):List Value:=[I r.id,I r.kind,I r.opn,I r.crew,I 0,I 0,I s.sp.id,I s.sp.src,a,b,I s.sp.al,I s.sp.up,c,d]
def Br(x:Ev)(P:List Ev):Nat→Nat
 |0=>0
 |j+1=>if x.day<(evG P j).day then Br x P j else j+1
theorem Bq(x:Ev)(P:List Ev):∀j,Br x P j≤j
 |0=>Nat.le_refl _
 |j+1=>by have:=Bq x P j;simp only [Br];split<;>omega
def IT(x:Ev)(P:List Ev):List Ev:=P.take (Br x P P.length)++x::P.drop (Br x P P.length)
def dc(l:List Ev):Nat→List Ev
 |0=>[]
 |n+1=>IT (evG l n) (dc l n)
theorem Ft(x:Ev)(P:List Ev):(IT x P).length=P.length+1:=by
 have:=Bq x P P.length;simp [IT];omega
theorem fo(l:List Ev):∀n,(dc l n).length=n
 |0=>rfl
 |n+1=>by simp only [dc];rw [Ft,fo l n]
theorem J2(x:Ev)(P:List Ev):(IT x P).Perm (x::P):=by
 unfold IT;refine List.perm_middle.trans ?_;rw [List.take_append_drop]
theorem jl{l:List Ev}{n:Nat}(h:n<l.length):l.take (n+1)=l.take n++[evG l n]:=by
 rw [List.take_add_one,dp h];rfl
theorem mX(l:List Ev):∀{n:Nat},n≤l.length→(dc l n).Perm (l.take n)
 |0,_=>by simp [dc]
 |n+1,h=>by
  simp only [dc];rw [jl (by omega)];refine (J2 _ _).trans ?_;refine (List.Perm.cons _ (mX l (n:=n) (by omega))).trans ?_;exact (List.perm_append_singleton _ _).symm
theorem Fh{x:Ev}{P:List Ev}{p:Nat}(hx:0≤x.day)(h:∀i<p,(evG P i).day=0):∀{j:Nat},p≤j→p≤Br x P j
 |0,hj=>hj
 |j+1,hj=>by
  simp only [Br];by_cases e:p=j+1
  ·rw [if_neg];omega;have:=h j (by omega);omega
  ·split
   ·exact Fh hx h (by omega)
   ·exact hj
theorem B7{l:List Ev}{n:Nat}(h:i<n):evG (l.take n) i=evG l i:=by
 unfold evG;simp only [List.getD];rw [List.getElem?_take,if_pos h]
theorem pY{l:List Ev}(hd:∀x∈l,0≤x.day){p:Nat}(h:∀i<p,(evG l i).day=0):∀{n:Nat},n≤l.length→p≤n→(dc l n).take p=l.take p
 |0,_,hp=>by have:p=0:=by omega
             subst this;rfl
 |n+1,hn,hp=>by
  by_cases e:p≤n
  ·have ih:=pY hd h (n:=n) (by omega) e;have hl:=fo l n;have hz:∀i<p,(evG (dc l n) i).day=0:=fun i hi=>by
    rw [←B7 (l:=dc l n) hi,ih,B7 hi];exact h i hi
   have hg:=Fh (x:=evG l n) (P:=dc l n) (p:=p) (hd _ (mM (by omega))) hz (j:=(dc l n).length) (by omega);have hle:=Bq (evG l n) (dc l n) (dc l n).length;simp only [dc,IT];rw [List.take_append_of_le_length (by rw [List.length_take];omega),List.take_take,show min p (Br (evG l n) (dc l n) (dc l n).length)=p by omega,ih]
  ·obtain rfl:p=n+1:=by omega
   have ih:=pY hd (fun i hi=>h i (by omega)) (p:=n) (n:=n) (by omega) (Nat.le_refl _);have hl:=fo l n;rw [List.take_of_length_le (by omega)] at ih;have hz:∀i<n,(evG (dc l n) i).day=0:=fun i hi=>by
    rw [ih,B7 hi];exact h i (by omega)
   have hg:=Fh (x:=evG l n) (P:=dc l n) (p:=n) (hd _ (mM (by omega))) hz (j:=(dc l n).length) (by omega);have hle:=Bq (evG l n) (dc l n) (dc l n).length;simp only [dc,IT];have hS:(dc l n).take n=dc l n:=List.take_of_length_le (by omega);have hD:(dc l n).drop n=[]:=List.drop_of_length_le (by omega);rw [show Br (evG l n) (dc l n) (dc l n).length=n by omega,hS,hD,ih,←jl (by omega),List.take_take,Nat.min_self]
def stA(P:List Ev)(x:Ev)(j:Nat)(R:List Ev):List Ev:=P.take j++x::(P.drop j++R)
theorem Hm{P:List Ev}{x:Ev}{R:List Ev}(h:j≤P.length):(stA P x j R).length=P.length+1+R.length:=by simp [stA];omega
theorem Sn{P:List Ev}{x:Ev}{R:List Ev}(h:j≤P.length):(stA P x j R)[j]? =some x:=by
 unfold stA;rw [List.getElem?_append_right (by rw [List.length_take];omega),List.length_take,show j - min j P.length=0 by omega];rfl
theorem PX{P:List Ev}{x:Ev}{R:List Ev}(h:j+1≤P.length):(stA P x (j+1) R)[j]? =some (evG P j):=by
 unfold stA;rw [List.getElem?_append_left (by rw [List.length_take];omega),List.getElem?_take,if_pos (by omega),dp (by omega)]
theorem Ma{P:List Ev}{x:Ev}{R:List Ev}(h:j+1≤P.length):((stA P x (j+1) R).set (j+1) (evG P j)).set j x=stA P x j R:=by
 have hd:P.drop j=evG P j::P.drop (j+1):=by
  rw [List.drop_eq_getElem_cons (by omega)];congr 1;have:=dp (l:=P) (i:=j) (by omega);rw [List.getElem?_eq_getElem (by omega)] at this;exact Option.some.inj this
 unfold stA;rw [jl (by omega),hd,List.append_assoc];have hl:(P.take j).length=j:=by rw [List.length_take];omega
 rw [List.set_append_right _ _ (by omega),List.set_append_right _ _ (by omega),hl,show j+1 - j=1 by omega,show j - j=0 by omega];rfl
theorem Jj{P:List Ev}{x:Ev}{R:List Ev}(h:j=Br x P P.length):stA P x j R=IT x P++R:=by
 subst h;simp [stA,IT]
theorem Ji(P:List Ev)(x:Ev)(R:List Ev):stA P x P.length R=P++x::R:=by simp [stA]
theorem KZ{L:List Ev}{k:Nat}(h:k<L.length)(y:Ev)(sp:List Value):so ((evc L).flatten++sp) (k*31) y.c=(evc (L.set k y)).flatten++sp:=by
 have e1:L=L.take k++evG L k::L.drop (k+1):=by
  have hd:L.drop k=evG L k::L.drop (k+1):=by
   rw [List.drop_eq_getElem_cons h];congr 1;have:=dp (l:=L) (i:=k) h;rw [List.getElem?_eq_getElem h] at this;exact Option.some.inj this
  rw [←hd,List.take_append_drop]
 have hl:((evc (L.take k)).flatten).length=k*31:=by rw [a7 _ (ig _),dN,List.length_take];congr 1;omega
 have key:=sE y.c (evc (L.take k)).flatten ((evc (L.drop (k+1))).flatten++sp) (evG L k).c rfl;rw [hl] at key;have e2:(evc L).flatten++sp=(evc (L.take k)).flatten++(evG L k).c++((evc (L.drop (k+1))).flatten++sp):=by
  conv=>lhs;rw [e1]
  simp [evc]
 rw [e2,key,List.set_eq_take_append_cons_drop,if_pos h];simp [evc]
theorem Pq{L:List Ev}{k:Nat}(h:k<L.length)(y:Ev)(sp:List Value):Nat.ble (k*31+y.c.length) ((evc L).flatten++sp).length=true:=by
 refine Nat.ble_eq_true_of_le ?_;rw [List.length_append,a7 _ (ig _),dN];have:y.c.length=31:=rfl;omega
def kh(l:List Ev)(number day known:Int)(n:Nat):List Ev:=(l.take n).filter fun x=>decide ((x.known≤known∧x.kind≠9)∧x.ship=number∧x.day≤day)
theorem I9{l:List Ev}{c:Int}{n:Nat}(h:n<l.length):kh l a b c (n+1)=if ((evG l n).known≤c∧(evG l n).kind≠9)∧(evG l n).ship=a∧(evG l n).day≤b then kh l a b c n++[evG l n] else kh l a b c n:=by
 unfold kh;rw [jl h,List.filter_append];split
 ·next h=>rw [List.filter_cons_of_pos (by simpa using h)];rfl
 ·next h=>rw [List.filter_cons_of_neg (by simpa using h)];simp
theorem Ja(l:List Ev)(a b c:Int):∀{n m:Nat},n≤m→m≤l.length→(kh l a b c n).length≤(kh l a b c m).length:=by
 intro n m h hm;unfold kh;have:l.take n=(l.take m).take n:=by rw [List.take_take];congr 1;omega
 rw [this];exact ((List.take_sublist n (l.take m)).filter _).length_le
structure Liv where
 there:Bool
 flag:Int
 hu:Srv
 cells:List (Rm×Srv)
def fK:Liv:=⟨false,0,⟨sp0,[],[]⟩,[]⟩
def Ss(x:Ev):Rm:=⟨x.sp.id,x.num,x.opn,x.crew⟩
def eJ(cs:List Cmp)(L:Liv)(x:Ev):Liv:=
 if x.kind=1 then ⟨true,x.num,⟨x.sp,[],cs⟩,L.cells⟩
 else if L.there=false then L
 else if x.kind=2 then {L with cells:=[(Ss x,⟨x.sp,[],cs⟩)]}
 else if L.hu.sp.id=x.room then {L with hu:=L.hu.add x.rd} else {L with cells:=L.cells.map fun c=>(c.1,c.2.add x.rd)}
inductive OkE(L:Liv)(x:Ev):Prop
 |build (h:tM x) (h1:L.there=false) (h2:L.cells=[])
 |room (h:xH x) (h1:L.there=true) (h2:L.cells=[]) (h3:L.hu.sp.id≠x.sp.id)
 |hull (h:jJ x) (h1:L.there=true) (h2:L.hu.sp.id=x.room) (h3:iE (L.hu.add x.rd)) (h4:L.hu.rs.length≤1000)
 |cell {r:Rm} {u:Srv} (h:jJ x) (h1:L.there=true) (h2:L.hu.sp.id≠x.room) (hc:L.cells=[(r,u)]) (h3:r.id=x.room) (h4:iE (u.add x.rd)) (h5:u.rs.length≤1000)
def pU(cs:List Cmp):Liv→List Ev→Prop
 |_,[]=>True
 |L,x::xs=>OkE L x∧pU cs (eJ cs L x) xs
inductive VdE(L:Liv)(x:Ev):Prop
 |early (h:L.there=false) (hk:x.kind≠1)
 |lost (h:jJ x) (h1:L.there=true) (h2:L.hu.sp.id≠x.room) (hc:L.cells=[])
theorem VdE.app{cs:List Cmp}{L:Liv}{x:Ev}(h:VdE L x):eJ cs L x=L:=by
 cases h with
 |early h hk=>unfold eJ;rw [if_neg hk,if_pos h]
 |lost h h1 h2 hc=>
  have hk:=h.kind;unfold eJ;rw [if_neg (by omega),if_neg (by simp [h1]),if_neg (by omega),if_neg h2,hc,←hc];cases L;simp_all
theorem OkE.Zc{L:Liv}{x:Ev}(h:OkE L x)(k:VdE L x):False:=by
 cases k with
 |early k hk=>cases h with
  |build h=>exact hk h.kind
  |room _ h=>rw [k] at h;cases h
  |hull _ h=>rw [k] at h;cases h
  |cell _ h=>rw [k] at h;cases h
 |lost g k k2 kc=>cases h with
  |build _ h=>rw [k] at h;cases h
  |room h=>have:=h.kind;have:=g.kind;omega
  |hull _ _ h=>exact k2 h
  |cell _ _ _ h=>rw [kc] at h;cases h
def kN(cs:List Cmp):Liv→List Ev→Prop
 |_,[]=>True
 |L,x::xs=>(OkE L x∨VdE L x)∧kN cs (eJ cs L x) xs
theorem pU.v{cs:List Cmp}:∀{xs:List Ev} {L:Liv},pU cs L xs→kN cs L xs
 |[],_,_=>trivial
 |_::_,_,⟨h1,h2⟩=>⟨.inl h1,h2.v⟩
theorem kN.at_{cs:List Cmp}:∀{xs:List Ev} {L:Liv},kN cs L xs→∀{k:Nat} {x:Ev},xs[k]? =some x→OkE ((xs.take k).foldl (eJ cs) L) x∨VdE ((xs.take k).foldl (eJ cs) L) x
 |[],_,_,k,x,h=>by simp at h
 |y::ys,L,⟨h1,h2⟩,0,x,h=>by simp at h;subst h;exact h1
 |y::ys,L,⟨h1,h2⟩,k+1,x,h=>by
  simp only [List.take_succ_cons,List.foldl_cons];exact kN.at_ h2 (by simpa using h)
theorem pU.at_{cs:List Cmp}:∀{xs:List Ev} {L:Liv},pU cs L xs→∀{k:Nat} {x:Ev},xs[k]? =some x→OkE ((xs.take k).foldl (eJ cs) L) x
 |[],_,_,k,x,h=>by simp at h
 |y::ys,L,⟨h1,h2⟩,0,x,h=>by simp at h;subst h;exact h1
 |y::ys,L,⟨h1,h2⟩,k+1,x,h=>by
  simp only [List.take_succ_cons,List.foldl_cons];exact pU.at_ h2 (by simpa using h)
def yr(x:Ev):List Value:=[I x.off,I x.seq]
theorem Qg(L:List Ev):∀c∈L.map yr,c.length=2:=fun c hc=>by simp only [List.mem_map] at hc;obtain ⟨x,_,rfl⟩:=hc;rfl
theorem Bs(L:List Ev):(L.map yr).flatten.length=L.length*2:=by rw [a7 _ (Qg _),List.length_map]
theorem xt(L:List Ev)(x:Ev):((L++[x]).map yr).flatten=(L.map yr).flatten++[I x.off,I x.seq]:=by simp [yr]
def vL(l:List Ev)(known:Int)(n:Nat):List Ev:=(l.take n).filter fun x=>decide (x.known≤known∧x.kind=9)
theorem fold_succ{cs:List Cmp}{xs:List Ev}{L:Liv}{k:Nat}{x:Ev}(h:xs[k]? =some x):(xs.take (k+1)).foldl (eJ cs) L=eJ cs ((xs.take k).foldl (eJ cs) L) x:=by
 rw [List.take_add_one,h,List.foldl_append];rfl
inductive Au(H:bp):List (Rm×Srv)→Value→Ent→Prop
 |nil:Au H [] (.slice none 0 0) .nul
 |one {r:Rm} {u:Srv} {a b c d:Value} {bc cap:Nat} {sp:List Value} (h:SvM H u a b c d) (hc:14+sp.length=cap*14):Au H [(r,u)] (.slice (some ⟨bc,0,none⟩) 1 cap) (.blk bc (ceC r u a b c d++sp))
theorem Au.mono{l:List (Rm×Srv)}{v:Value}{e:Ent}(h:Au H l v e)(hl:HLe H H'):Au H' l v e:=by
 cases h with
 |nil=>exact .nil
 |one h hc=>exact .one (h.mono hl) hc
theorem Au.shape{l:List (Rm×Srv)}{v:Value}{e:Ent}(h:Au H l v e):∃a n k,v= .slice a n k:=by
 cases h<;>exact ⟨_,_,_,rfl⟩
structure ShM(H:bp)(n:Int)(L:Liv)(cmp tap dn vd:Value)(blk:List Value)(ce:Ent):Prop where
 ex:∃a b c d vc,blk=shC n L.flag L.hu a b c d vc L.there cmp tap dn vd∧(L.there=true→SvM H L.hu a b c d)∧Au H L.cells vc ce
theorem ShM.mono{n:Int}{L:Liv}{cmp tap dn vd:Value}{blk:List Value}{ce:Ent}(h:ShM H n L cmp tap dn vd blk ce)(hl:HLe H H'):ShM H' n L cmp tap dn vd blk ce:=by
 obtain ⟨a,b,c,d,vc,h1,h2,h3⟩:=h.ex;exact ⟨a,b,c,d,vc,h1,fun h=>(h2 h).mono hl,h3.mono hl⟩
def lF(l:List Ev)(known:Int)(n:Nat):List Cmp:=(vL l known n).map (·.cm)
theorem C1{l:List Ev}{n:Nat}(h:n<l.length):vL l known (n+1)=if (evG l n).known≤known∧(evG l n).kind=9 then vL l known n++[evG l n] else vL l known n:=by
 unfold vL;rw [List.take_add_one,dp h,List.filter_append];by_cases e:(evG l n).known≤known∧(evG l n).kind=9
 ·rw [if_pos e,Option.toList_some,List.filter_cons_of_pos (by simpa using e)];rfl
 ·rw [if_neg e,Option.toList_some,List.filter_cons_of_neg (by simpa using e)];simp
theorem Iq{l:List Ev}{n:Nat}(h:n<l.length):lF l known (n+1)=if (evG l n).known≤known∧(evG l n).kind=9 then lF l known n++[(evG l n).cm] else lF l known n:=by
 unfold lF;rw [C1 h];split<;>simp
theorem E5(l:List Ev)(known:Int)(n:Nat):(vL l known n).length≤n:=
 Nat.le_trans (List.length_filter_le _ _) (by rw [List.length_take];omega)
theorem GY(l:List Ev)(known:Int)(n:Nat):(lF l known n).length≤n:=by
 unfold lF;rw [List.length_map];exact E5 l known n
inductive EB(H:bp):List (Rm×Srv)→Value→Prop
 |nil:EB H [] (.slice none 0 0)
 |one {r:Rm} {u:Srv} {a b c d:Value} {bc cap:Nat} (h:SvM H u a b c d) (hr:RS H 14 (.slice (some ⟨bc,0,none⟩) 1 cap) [ceC r u a b c d]):EB H [(r,u)] (.slice (some ⟨bc,0,none⟩) 1 cap)
theorem Au.bG{w:World}{l:List (Rm×Srv)}{v:Value}{ce:Ent}{σ:List Ent}(h:Au H l v ce)(hs:St H w (ce::σ)):∃H',HLe H H'∧EB H' l v∧St H' w σ:=by
 cases h with
 |nil=>exact ⟨H,HLe.refl _,.nil,hs.tail⟩
 | @one r u a b c d bc cap sp h hc=>
  have hO:bE 14 (.slice (some ⟨bc,0,none⟩) 1 cap) [ceC r u a b c d].flatten (.blk bc ([ceC r u a b c d].flatten++sp)):=
   .inr ⟨bc,1,cap,sp,rfl,rfl,rfl,by rw [List.length_append,show [ceC r u a b c d].flatten.length=14 from rfl];exact hc,by omega⟩
  obtain ⟨H',h1,h2,h3⟩:=bE.bG hO (fun x hx=>by rw [List.mem_singleton] at hx;rw [hx];rfl) (by omega) (by simp) (by simpa using hs) .here;exact ⟨H',h1,.one (h.mono h1) h2,h3⟩
structure vF(l S:List Ev)(cs:List Cmp)(number day known:Int):Prop where
 hist:ub l
 few:(kh l number day known l.length).length≤19
 sorted:dc (kh l number day known l.length) (kh l number day known l.length).length=S
 cmps:lF l known l.length=cs
 ok:kN cs fK S
def spE(s:Spc)(id src:Int):Spc:=⟨id,src,s.st,s.wa,s.al,s.up⟩
structure At4 where
 ast:Option Addr
 cst:Nat
 awa:Option Addr
 cwa:Nat
def evB(s:Spc)(q:At4):Ev:=⟨0,0,1,9,0,0,0,1,0,0,spE s 900 1,q.ast,q.cst,q.awa,q.cwa,rd0,cm0,0,0⟩
def evR(s:Spc)(q:At4):Ev:=⟨0,1,2,9,0,0,0,1,0,0,spE s 5 2,q.ast,q.cst,q.awa,q.cwa,rd0,cm0,0,0⟩
def rdK(r:Rdg)(n:Nat):Rdg:=⟨(n:Int)+1,r.st,r.wa,r.val,r.tol,r.tape,r.day⟩
def Ah(room kn:Int)(n:Nat)(r:Rdg):Ev:=⟨0,n,8,9,r.day,kn,room,0,0,0,sp0,none,0,none,0,rdK r n,cm0,0,0⟩
def cmK(c:Cmp)(n:Nat):Cmp:=⟨(n:Int)+1,c.tape,c.fr,c.to,c.lo,c.hi⟩
def K3(kn:Int)(n:Nat)(c:Cmp):Ev:=⟨0,n,9,9,0,kn,0,0,0,0,sp0,none,0,none,0,rd0,cmK c n,0,0⟩
def rdE(room:Int)(kd:Int→Int)(rs:List Rdg):Nat→List Ev
 |0=>[]
 |k+1=>rdE room kd rs k++[Ah room (kd k) (k+2) (vO rs k)]
def tpE(kd:Int→Int)(m:Nat)(cs:List Cmp):Nat→List Ev
 |0=>[]
 |k+1=>tpE kd m cs k++[K3 (kd ((m:Int)+k)) (k+(m+2)) (w6 cs k)]
def FU(room:Int)(kd:Int→Int)(v:Srv)(q:At4)(k:Nat):List Ev:=[evB v.sp q,evR v.sp q]++rdE room kd v.rs k
def jV(room:Int)(kd:Int→Int)(v:Srv)(q:At4)(k:Nat):List Ev:=FU room kd v q v.rs.length++tpE kd v.rs.length v.cs k
theorem nj(room:Int)(kd:Int→Int)(rs:List Rdg):∀k,(rdE room kd rs k).length=k
 |0=>rfl
 |k+1=>by simp [rdE,nj room kd rs k]
theorem pX(kd:Int→Int)(m:Nat)(cs:List Cmp):∀k,(tpE kd m cs k).length=k
 |0=>rfl
 |k+1=>by simp [tpE,pX kd m cs k]
theorem nW(room:Int)(kd:Int→Int)(v:Srv)(q:At4)(k:Nat):(FU room kd v q k).length=k+2:=by simp [FU,nj]
theorem kf(room:Int)(kd:Int→Int)(v:Srv)(q:At4)(k:Nat):(jV room kd v q k).length=k+(v.rs.length+2):=by simp [jV,nW,pX];omega
theorem rF{room:Int}{kd:Int→Int}{rs:List Rdg}{x:Ev}:∀{k:Nat},x∈rdE room kd rs k↔∃i<k,x=Ah room (kd i) (i+2) (vO rs i)
 |0=>by simp [rdE]
 |k+1=>by
  simp only [rdE,List.mem_append,List.mem_singleton,rF (k:=k)];constructor
  ·rintro (⟨i,h,rfl⟩|rfl)
   ·exact ⟨i,by omega,rfl⟩
   ·exact ⟨k,by omega,rfl⟩
  ·rintro ⟨i,h,rfl⟩;by_cases e:i=k
   ·subst e;exact .inr rfl
   ·exact .inl ⟨i,by omega,rfl⟩
theorem BC{kd:Int→Int}{m:Nat}{cs:List Cmp}{x:Ev}:∀{k:Nat},x∈tpE kd m cs k↔∃i<k,x=K3 (kd ((m:Int)+(i:Nat))) (i+(m+2)) (w6 cs i)
 |0=>by simp [tpE]
 |k+1=>by
  simp only [tpE,List.mem_append,List.mem_singleton,BC (k:=k)];constructor
  ·rintro (⟨i,h,rfl⟩|rfl)
   ·exact ⟨i,by omega,rfl⟩
   ·exact ⟨k,by omega,rfl⟩
  ·rintro ⟨i,h,rfl⟩;by_cases e:i=k
   ·subst e;exact .inr rfl
   ·exact .inl ⟨i,by omega,rfl⟩
theorem lC{v:Srv}{q:At4}{x:Ev}{k:Nat}:x∈jV room kd v q k↔(x=evB v.sp q∨x=evR v.sp q)∨(∃i<v.rs.length,x=Ah room (kd i) (i+2) (vO v.rs i))∨∃i<k,x=K3 (kd ((v.rs.length:Int)+(i:Nat))) (i+(v.rs.length+2)) (w6 v.cs i):=by
 simp only [jV,FU,List.mem_append,List.mem_cons,List.not_mem_nil,or_false,rF,BC,or_assoc]
theorem Gb{s:Spc}(h:fV s){a b:Int}(ha:1≤a∧a≤99999)(hb:1≤b∧b≤99999):fV (spE s a b):=⟨h.st,h.wa,ha,hb,h.al,h.up⟩
theorem B4{v:Srv}{q:At4}(hM:xj v)(hr:1≤room∧room≤999)(hk:∀i,0≤kd i∧kd i<50):∀x∈jV room kd v q v.cs.length,oH x:=by
 intro x hx;have h1:=hM.st;have h2:=hM.wa;have h3:=hM.rs;have h4:=hM.cs;have hS:=hM.ok.early.1
 rcases lC.1 hx with (rfl|rfl)|⟨i,hi,rfl⟩|⟨i,hi,rfl⟩
 ·exact ⟨rfl,by simp [evB],by simp [evB],by simp [evB],by simp [evB],rfl,rfl,.inl ⟨rfl,by simp [evB],⟨Gb hS (by omega) (by omega),by simp [evB,spE],rfl⟩,rfl,rfl,rfl,rfl,rfl⟩⟩
 ·exact ⟨rfl,by simp [evR],by simp [evR],by simp [evR],by simp [evR],rfl,rfl,.inr (.inl ⟨rfl,by simp [evR],⟨Gb hS (by omega) (by omega),by simp [evR,spE],rfl⟩,rfl,by simp [evR],by simp [evR],rfl,rfl⟩)⟩
 ·have g:=hM.ok.early.2.2.2.1 _ (List.mem_of_getElem? (jy hi));have:=hk i;obtain ⟨g1,g2,g3,g4,g5,g6,g7⟩:=g;exact ⟨rfl,by simp only [Ah];omega,by simp [Ah],g7,by simp only [Ah];omega,rfl,rfl,.inr (.inr (.inl ⟨rfl,hr,rfl,rfl,by simp only [Ah,rdK];omega,by simp only [Ah,rdK];omega,g4,g5,g6,rfl,rfl,rfl,rfl,rfl,rfl,rfl,rfl,rfl⟩))⟩
 ·have g:=hM.ok.early.2.2.2.2 _ (List.mem_of_getElem? (qi hi));have:=hk ((v.rs.length:Int)+i);exact ⟨rfl,by simp only [K3];omega,by simp [K3],by simp [K3],by simp only [K3];omega,rfl,rfl,.inr (.inr (.inr ⟨rfl,rfl,g.tape,g.fr,g.to,g.lo,g.hi,rfl,rfl,rfl,rfl,rfl,rfl,rfl,rfl,rfl,rfl⟩))⟩
def FZ(l:List Ev):Prop:=∀i<l.length,(evG l i).seq=i
theorem FZ.snoc{l:List Ev}(h:FZ l){x:Ev}(hx:x.seq=l.length):FZ (l++[x]):=by
 intro i hi;by_cases e:i<l.length
 ·have:evG (l++[x]) i=evG l i:=by unfold evG;rw [List.getD_eq_getElem?_getD,List.getD_eq_getElem?_getD,List.getElem?_append_left e]
  rw [this];exact h i e
 ·simp at hi;obtain rfl:i=l.length:=by omega
  have:evG (l++[x]) l.length=x:=by unfold evG;rw [List.getD_eq_getElem?_getD,List.getElem?_append_right (Nat.le_refl _)];simp
  rw [this];exact hx
theorem AG(room:Int)(kd:Int→Int)(v:Srv)(q:At4):∀k,FZ (FU room kd v q k)
 |0=>fun i hi=>by
  have:i=0∨i=1:=by simp [FU,rdE] at hi;omega
  rcases this with rfl|rfl<;>rfl
 |k+1=>by
  have:=(AG room kd v q k).snoc (x:=Ah room (kd k) (k+2) (vO v.rs k)) (by rw [nW];rfl);simpa [FU,rdE] using this
theorem p4(room:Int)(kd:Int→Int)(v:Srv)(q:At4):∀k,FZ (jV room kd v q k)
 |0=>by simpa [jV,tpE] using AG room kd v q v.rs.length
 |k+1=>by
  have:=(p4 room kd v q k).snoc (x:=K3 (kd ((v.rs.length:Int)+k)) (k+(v.rs.length+2)) (w6 v.cs k)) (by rw [kf];rfl);simpa [jV,tpE] using this
theorem FZ.pair{l:List Ev}(h:FZ l):l.Pairwise fun x y=>x.seq<y.seq:=by
 rw [List.pairwise_iff_getElem];intro i j hi hj OW;have a:=h i hi;have b:=h j hj;have e1:evG l i=l[i]:=by have:=dp hi;rw [List.getElem?_eq_getElem hi] at this;exact (Option.some.inj this).symm
 have e2:evG l j=l[j]:=by have:=dp hj;rw [List.getElem?_eq_getElem hj] at this;exact (Option.some.inj this).symm
 rw [e1] at a;rw [e2] at b;omega
theorem CZ(l:List Ev):∀{n:Nat},n≤l.length→lh l n=((l.take n).filter fun x=>decide (x.kind=9)).length
 |0,_=>rfl
 |n+1,h=>by
  rw [jl (by omega),List.filter_append,List.length_append];simp only [lh];rw [CZ l (n:=n) (by omega)];by_cases e:(evG l n).kind=9
  ·rw [if_pos e,List.filter_cons_of_pos (by simpa using e)];simp
  ·rw [if_neg e,List.filter_cons_of_neg (by simpa using e)];simp
theorem QH{l:List Ev}(h1:∀x∈l,oH x)(h2:l.Pairwise fun x y=>x.seq<y.seq)(h3:l.length≤80)(h4:(l.filter fun x=>decide (x.kind=9)).length≤20):ub l:=by
 refine ⟨h1,fun i hi=>?_,h3,?_⟩
 ·rw [List.pairwise_iff_getElem] at h2;have:=h2 i (i+1) (by omega) hi (by omega);have e1:evG l i=l[i]:=by have:=dp (l:=l) (i:=i) (by omega);rw [List.getElem?_eq_getElem (by omega)] at this;exact (Option.some.inj this).symm
  have e2:evG l (i+1)=l[i+1]:=by have:=dp hi;rw [List.getElem?_eq_getElem hi] at this;exact (Option.some.inj this).symm
  rw [e1,e2];exact this
 ·rw [CZ l (Nat.le_refl _),List.take_length];omega
theorem Mu{rs:List Rdg}{k:Nat}{x:Ev}(h:x∈rdE room kd rs k):x.kind=8:=by obtain ⟨i,_,rfl⟩:=rF.1 h;rfl
theorem Bb{m:Nat}{cs:List Cmp}{k:Nat}{x:Ev}(h:x∈tpE kd m cs k):x.kind=9:=by obtain ⟨i,_,rfl⟩:=BC.1 h;rfl
theorem Eh(room:Int)(kd:Int→Int)(v:Srv)(q:At4)(k:Nat):((jV room kd v q k).filter fun x=>decide (x.kind=9))=tpE kd v.rs.length v.cs k:=by
 have e1:((rdE room kd v.rs v.rs.length).filter fun x=>decide (x.kind=9))=[]:=List.filter_eq_nil_iff.2 fun x hx=>by rw [Mu hx];decide
 have e2:((tpE kd v.rs.length v.cs k).filter fun x=>decide (x.kind=9))=tpE kd v.rs.length v.cs k:=List.filter_eq_self.2 fun x hx=>by rw [Bb hx];decide
 unfold jV FU;rw [List.filter_append,List.filter_append,e1,e2];rfl
theorem GP{v:Srv}{q:At4}(hM:xj v)(hr:1≤room∧room≤999)(hk:∀i,0≤kd i∧kd i<50)(p:Ev→Bool):ub ((jV room kd v q v.cs.length).filter p):=by
 have h3:=hM.rs;have h4:=hM.cs;have BN:((jV room kd v q v.cs.length).filter p).Sublist (jV room kd v q v.cs.length):=List.filter_sublist;refine QH (fun x hx=>B4 hM hr hk x (BN.subset hx)) ((p4 room kd v q _).pair.sublist BN) ?_ ?_
 ·have:=BN.length_le;rw [kf] at this;omega
 ·have:=(BN.filter fun x=>decide (x.kind=9)).length_le;rw [Eh,pX] at this;omega
structure KnU(v:Srv)(kd:Int→Int)(k a b:Int)(u:Srv):Prop where
 sp:u.sp=spE v.sp a b
 ok:iE u
 rs:∀r,r∈u.rs↔∃i<v.rs.length,(kd (i:Nat)≤k∧(vO v.rs i).day≤10)∧r=rdK (vO v.rs i) (i+2)
 cs:∀c,c∈u.cs↔∃j<v.cs.length,kd ((v.rs.length:Int)+(j:Nat))≤k∧c=cmK (w6 v.cs j) (j+(v.rs.length+2))
theorem KnU.bN{v u:Srv}(h:KnU v kd k a b u){t:TD}(ht:t∈u.bN):t∈v.bN:=by
 obtain ⟨r,h1,rfl⟩:=ee.1 ht;obtain ⟨i,hi,-,rfl⟩:=(h.rs r).1 h1;exact ee.2 ⟨_,List.mem_of_getElem? (jy hi),rfl⟩
theorem KnU.kp{v u:Srv}(h:KnU v kd k a b u){g:Nat→Nat→Int}{f:TD→Int}(hk:Kp v g f):Kp u g f:=by
 obtain ⟨k1,k2,k3,k4,k5,k6⟩:=hk;refine ⟨?_,?_,?_,fun t ht=>k4 t (h.bN ht),fun c hc t ht=>?_,fun r hr=>?_⟩
 ·rw [h.sp];exact k1
 ·rw [h.sp];exact k2
 ·rw [h.sp];exact k3
 ·obtain ⟨j,hj,-,rfl⟩:=(h.cs c).1 hc;exact k5 (w6 v.cs j) (List.mem_of_getElem? (qi hj)) t (h.bN ht)
 ·obtain ⟨i,hi,-,rfl⟩:=(h.rs r).1 hr;exact k6 (vO v.rs i) (List.mem_of_getElem? (jy hi))
theorem KnU.sound{v u:Srv}(h:KnU v kd k a b u)(hM:xj v){y:List Int}(hk:ra v y):u.sys.Sound:=by
 obtain ⟨h1,⟨f,h2⟩,-⟩:=DI hM.ok hk;exact (Gc h.ok.early).2 ⟨_,f,h.kp h2⟩
def o9(k:Int):Ev→Bool:=fun x=>decide ((x.known≤k∧x.kind≠9)∧x.ship=9∧x.day≤10)
theorem FT{v:Srv}{q:At4}(hk:0≤k)(n:Nat):(jV room kd v q n).filter (o9 k)=evB v.sp q::evR v.sp q::(rdE room kd v.rs v.rs.length).filter (o9 k):=by
 have e2:(tpE kd v.rs.length v.cs n).filter (o9 k)=[]:=List.filter_eq_nil_iff.2 fun x hx=>by simp [o9,Bb hx]
 unfold jV FU;rw [List.filter_append,List.filter_append,e2,List.filter_eq_self.2 (fun x hx=>by
  simp only [List.mem_cons,List.not_mem_nil,or_false] at hx
  rcases hx with rfl|rfl<;>simp [o9,evB,evR,hk]),List.append_nil]
 rfl
theorem F9{v:Srv}{q:At4}(hM:xj v)(p:Ev→Bool)(T:List Ev)(hT:T=evB v.sp q::evR v.sp q::(rdE room kd v.rs v.rs.length).filter p):∃S,dc T T.length=evB v.sp q::evR v.sp q::S∧S.Perm ((rdE room kd v.rs v.rs.length).filter p):=by
 have hd:∀x∈T,0≤x.day:=fun x hx=>by
  rw [hT] at hx;simp only [List.mem_cons,List.mem_filter] at hx
  rcases hx with rfl|rfl|⟨hx,-⟩
  ·exact Int.le_refl _
  ·exact Int.le_refl _
  ·obtain ⟨i,hi,rfl⟩:=rF.1 hx;exact (hM.ok.early.2.2.2.1 _ (List.mem_of_getElem? (jy hi))).day.1
 have h2:2≤T.length:=by rw [hT];simp
 have h0:∀i<2,(evG T i).day=0:=fun i hi=>by
  rw [hT];have:i=0∨i=1:=by omega
  rcases this with rfl|rfl<;>rfl
 have e1:=pY hd h0 (n:=T.length) (Nat.le_refl _) h2;have e2:=mX T (n:=T.length) (Nat.le_refl _);rw [List.take_length] at e2;refine ⟨(dc T T.length).drop 2,?_,?_⟩
 ·have e3:T.take 2=[evB v.sp q,evR v.sp q]:=by rw [hT];rfl
  have:=(List.take_append_drop 2 (dc T T.length)).symm;rw [e1,e3] at this;exact this
 ·rw [←List.take_append_drop 2 (dc T T.length),e1] at e2;rw [hT] at e2 ⊢;exact (List.perm_cons _).1 ((List.perm_cons _).1 e2)
theorem FQ{cs:List Cmp}{r:Rm}:∀{S:List Ev} {L:Liv} {u:Srv},L.cells=[(r,u)]→L.there=true→(∀x∈S,x.kind=8∧L.hu.sp.id≠x.room)→S.foldl (eJ cs) L={L with cells:=[(r,⟨u.sp,u.rs++S.map (·.rd),u.cs⟩)]}
 |[],L,u,h,_,_=>by simp [←h]
 |x::S,L,u,h,ht,hx=>by
  obtain ⟨a,b⟩:=hx x (by simp);have e:eJ cs L x={L with cells:=[(r,u.add x.rd)]}:=by
   unfold eJ;rw [if_neg (by omega),if_neg (by simp [ht]),if_neg (by omega),if_neg b,h];rfl
  rw [List.foldl_cons,e,FQ (r:=r) (L:={L with cells:=[(r,u.add x.rd)]}) (u:=u.add x.rd) rfl ht (fun y hy=>hx y (by simp [hy]))];simp [Srv.add]
theorem Qj{cs:List Cmp}{r:Rm}{sp:Spc}(z6:fV sp)(h1:sp.st.length≤4)(h2:sp.wa.length≤3)(AU:cs.length≤6)(QL:∀c∈cs,qH c):∀{S:List Ev} {L:Liv} {rs:List Rdg},L.cells=[(r,⟨sp,rs,cs⟩)]→L.there=true→rs.length+S.length≤15→(∀x∈rs,k8 sp x)→
  (∀x∈S,jJ x∧L.hu.sp.id≠x.room∧r.id=x.room∧k8 sp x.rd)→pU cs L S
 |[],_,_,_,_,_,_,_=>trivial
 |x::S,L,rs,h,ht,hl,OG,hx=>by
  obtain ⟨a,b,c,d⟩:=hx x (by simp);have e:eJ cs L x={L with cells:=[(r,⟨sp,rs++[x.rd],cs⟩)]}:=by
   have:=a.kind;unfold eJ;rw [if_neg (by omega),if_neg (by simp [ht]),if_neg (by omega),if_neg b,h];rfl
  have Tk:∀y∈rs++[x.rd],k8 sp y:=fun y hy=>by
   rcases List.mem_append.1 hy with h|h
   ·exact OG y h
   ·rw [List.mem_singleton] at h;subst h;exact d
  simp only [List.length_cons] at hl;refine ⟨.cell a ht b h c (Bi z6 h1 h2 (by simp;omega) AU Tk QL) (by show rs.length≤1000;omega),?_⟩;rw [e];exact Qj z6 h1 h2 AU QL rfl ht (by simp;omega) Tk (fun y hy=>hx y (by simp [hy]))
def tpK(kd:Int→Int)(v:Srv)(k:Int):List Cmp:=((tpE kd v.rs.length v.cs v.cs.length).filter fun x=>decide (x.known≤k)).map (·.cm)
theorem B5{v:Srv}{q:At4}:((jV room kd v q v.cs.length).filter fun x=>decide (x.known≤k∧x.kind=9)).map (·.cm)=tpK kd v k:=by
 have e1:((jV room kd v q v.cs.length).filter fun x=>decide (x.known≤k∧x.kind=9))=((jV room kd v q v.cs.length).filter fun x=>decide (x.kind=9)).filter fun x=>decide (x.known≤k):=by
  rw [List.filter_filter];congr 1;funext x;simp [Bool.decide_and]
 rw [e1,Eh];rfl
theorem Fl{v:Srv}{c:Cmp}:c∈tpK kd v k↔∃j<v.cs.length,kd ((v.rs.length:Int)+(j:Nat))≤k∧c=cmK (w6 v.cs j) (j+(v.rs.length+2)):=by
 unfold tpK;simp only [List.mem_map,List.mem_filter,BC,decide_eq_true_eq];constructor
 ·rintro ⟨x,⟨⟨i,h1,rfl⟩,h2⟩,rfl⟩;exact ⟨i,h1,h2,rfl⟩
 ·rintro ⟨j,h1,h2,rfl⟩;exact ⟨_,⟨⟨j,h1,rfl⟩,h2⟩,rfl⟩
theorem E3{v:Srv}:(tpK kd v k).length≤v.cs.length:=by
 unfold tpK;rw [List.length_map];have:=List.length_filter_le (fun x:Ev=>decide (x.known≤k)) (tpE kd v.rs.length v.cs v.cs.length)
 rwa [pX] at this
theorem I6{v:Srv}(hM:xj v){k:Int}:∀c∈tpK kd v k,qH c:=fun c hc=>by
 obtain ⟨j,h1,-,rfl⟩:=Fl.1 hc;have g:=hM.ok.early.2.2.2.2 _ (List.mem_of_getElem? (qi h1));have:=hM.rs;have:=hM.cs;exact ⟨by simp only [cmK];omega,g.tape,g.fr,g.to,g.lo,g.hi⟩
theorem Ol{v:Srv}(hM:xj v){i:Nat}(h:i<v.rs.length){a b:Int}:k8 (spE v.sp a b) (rdK (vO v.rs i) (i+2)):=by
 have g:=hM.ok.early.2.2.2.1 _ (List.mem_of_getElem? (jy h));have:=hM.rs;exact ⟨by simp only [rdK];omega,g.st,g.wa,g.tol,g.val,g.tape,g.day⟩
theorem N0{v:Srv}{q:At4}(hM:xj v)(hk:∀i,0≤kd i∧kd i<50){k:Int}(DV:0≤k∧k≤100000):∃S cs u,vF (jV 5 kd v q v.cs.length) S cs 9 10 k∧vF ((jV 5 kd v q v.cs.length).filter fun x=>decide (x.known≤k)) S cs 9 10 100000∧
  S.foldl (eJ cs) fK=⟨true,1,⟨spE v.sp 900 1,[],cs⟩,[(⟨5,1,0,0⟩,u)]⟩∧KnU v kd k 5 2 u∧pU cs fK S:=by
 have hH:=GP (room:=5) (q:=q) hM (by omega) hk;have nx:=B4 (room:=5) (q:=q) hM (by omega) hk;obtain ⟨S,hS,hP⟩:=F9 (room:=5) (kd:=kd) (q:=q) hM (o9 k) _ rfl;have e1:kh (jV 5 kd v q v.cs.length) 9 10 k (jV 5 kd v q v.cs.length).length=evB v.sp q::evR v.sp q::(rdE 5 kd v.rs v.rs.length).filter (o9 k):=by
  unfold kh;rw [List.take_length];exact FT DV.1 _
 have e2:kh ((jV 5 kd v q v.cs.length).filter fun x=>decide (x.known≤k)) 9 10 100000 ((jV 5 kd v q v.cs.length).filter fun x=>decide (x.known≤k)).length=evB v.sp q::evR v.sp q::(rdE 5 kd v.rs v.rs.length).filter (o9 k):=by
  unfold kh;rw [List.take_length,List.filter_filter,←FT DV.1 v.cs.length];refine List.filter_congr fun x hx=>?_
  have:=(nx x hx).known;unfold o9;rw [←Bool.decide_and]
  congr 1
  exact propext ⟨fun h=>⟨⟨by omega,h.1.1.2⟩,h.1.2⟩,fun h=>⟨⟨⟨by omega,h.1.2⟩,h.2⟩,h.1.1⟩⟩
 have c1:lF (jV 5 kd v q v.cs.length) k (jV 5 kd v q v.cs.length).length=tpK kd v k:=by
  unfold lF vL;rw [List.take_length];exact B5
 have c2:lF ((jV 5 kd v q v.cs.length).filter fun x=>decide (x.known≤k)) 100000 ((jV 5 kd v q v.cs.length).filter fun x=>decide (x.known≤k)).length=tpK kd v k:=by
  unfold lF vL;rw [List.take_length,←B5 (room:=5) (q:=q),List.filter_filter]
  congr 1
  refine List.filter_congr fun x hx=>?_
  have:=(nx x hx).known;rw [←Bool.decide_and]
  congr 1
  exact propext ⟨fun h=>⟨h.2,h.1.2⟩,fun h=>⟨⟨by omega,h.2⟩,h.1⟩⟩
 have hlen:S.length≤v.rs.length:=by
  rw [hP.length_eq];have:=List.length_filter_le (o9 k) (rdE 5 kd v.rs v.rs.length)
  rwa [nj] at this
 have aag:=hM.rs;have h5:=hM.cs;have s4:∀x∈S,∃i<v.rs.length,(kd (i:Nat)≤k∧(vO v.rs i).day≤10)∧x=Ah 5 (kd i) (i+2) (vO v.rs i):=fun x hx=>by
  obtain ⟨h1,h2⟩:=List.mem_filter.1 (hP.mem_iff.1 hx);obtain ⟨i,hi,rfl⟩:=rF.1 h1;simp only [o9,decide_eq_true_eq] at h2;exact ⟨i,hi,⟨h2.1.1,h2.2.2⟩,rfl⟩
 have FB:(evB v.sp q::evR v.sp q::(rdE 5 kd v.rs v.rs.length).filter (o9 k)).length≤19:=by
  have:=hP.length_eq;simp only [List.length_cons];omega
 have Nh:∀x∈S,jJ x∧(900:Int)≠x.room∧(5:Int)=x.room∧k8 (spE v.sp 5 2) x.rd:=fun x hx=>by
  obtain ⟨i,hi,-,rfl⟩:=s4 x hx;exact ⟨(nx _ (lC.2 (.inr (.inl ⟨i,hi,rfl⟩)))).read rfl,by simp [Ah],rfl,Ol hM hi⟩
 have z6:=Gb hM.ok.early.1 (a:=5) (b:=2) (by omega) (by omega);have Q4:pU (tpK kd v k) fK (evB v.sp q::evR v.sp q::S):=by
  refine ⟨.build ((nx _ (lC.2 (.inl (.inl rfl)))).build rfl) rfl rfl,.room ((nx _ (lC.2 (.inl (.inr rfl)))).Gz rfl) rfl rfl (by show (900:Int)≠5;omega),?_⟩;exact Qj (rs:=[]) z6 hM.st hM.wa (by have:=E3 (kd:=kd) (v:=v) (k:=k);omega) (I6 hM) rfl rfl (by simp;omega) (fun x hx=>by cases hx) Nh
 have hF:(evB v.sp q::evR v.sp q::S).foldl (eJ (tpK kd v k)) fK=⟨true,1,⟨spE v.sp 900 1,[],tpK kd v k⟩,[(⟨5,1,0,0⟩,⟨spE v.sp 5 2,S.map (·.rd),tpK kd v k⟩)]⟩:=by
  have:=FQ (cs:=tpK kd v k) (r:=⟨5,1,0,0⟩) (S:=S) (L:=⟨true,1,⟨spE v.sp 900 1,[],tpK kd v k⟩,[(⟨5,1,0,0⟩,⟨spE v.sp 5 2,[],tpK kd v k⟩)]⟩) (u:=⟨spE v.sp 5 2,[],tpK kd v k⟩) rfl rfl (fun x hx=>⟨(Nh x hx).1.kind,(Nh x hx).2.1⟩);exact this
 refine ⟨evB v.sp q::evR v.sp q::S,tpK kd v k,⟨spE v.sp 5 2,S.map (·.rd),tpK kd v k⟩,⟨?_,?_,?_,c1,Q4.v⟩,⟨hH _,?_,?_,c2,Q4.v⟩,hF,⟨rfl,?_,fun r=>?_,fun c=>Fl⟩,Q4⟩
 ·have:=hH fun _=>true
  rwa [List.filter_eq_self.2 (fun _ _=>rfl)] at this
 ·rw [e1];exact FB
 ·rw [e1];exact hS
 ·rw [e2];exact FB
 ·rw [e2];exact hS
 ·refine Bi z6 hM.st hM.wa (by rw [List.length_map];omega) (by have:=E3 (kd:=kd) (v:=v) (k:=k);omega) (fun x hx=>?_) (I6 hM);obtain ⟨y,hy,rfl⟩:=List.mem_map.1 hx;exact (Nh y hy).2.2.2
 ·constructor
  ·intro hr;obtain ⟨y,hy,rfl⟩:=List.mem_map.1 hr;obtain ⟨i,hi,h,rfl⟩:=s4 y hy;exact ⟨i,hi,h,rfl⟩
  ·rintro ⟨i,hi,h,rfl⟩;refine List.mem_map.2 ⟨Ah 5 (kd i) (i+2) (vO v.rs i),hP.mem_iff.2 (List.mem_filter.2 ⟨rF.2 ⟨i,hi,rfl⟩,?_⟩),rfl⟩;simp only [o9,Ah,decide_eq_true_eq];exact ⟨⟨h.1,by omega⟩,trivial,h.2⟩
end Go.MW
namespace Go.Proofs.YtfnfiekkdpphjaaGreat
open Go.MW Tryz
variable{H:bp}{σ:List Ent}{a0 a1 a2 m a most hi lo f e z1 z2 z3 known fl id number day:Int}{ls:List Lim}{g b k b1 bf bt bl cl i bm bc bn:Nat}{cap sp:List Value}{s:Spc}{xs lf ws l X Y pk days:List Int}{en:Ent}{ts:List TD}{vl vt vd vp vw v1 v2 vr vc d vs v5 v4 b' tap dn b2 c2 d2 ve:Value}{t:TD}{rows:List (List Int)}{fG:List F5}{fL:List F4}{th:Bool}
theorem di{w:World}{n b:Int}(hs:St H w σ)(h:a≤n∧n≤b):aaq 196 [I n,I a,I b] w fun v w'=>v= .bool true∧St H w' σ:=by
 refine Cl.o func196 ntmps196 ag3 ?_;refine .af (.zn zg (.af (.z zm (.z zm (.z zC ?_)))));rw [decide_eq_true h.1];refine .z zm (.T (.z zm (.T (.z zm (.T (.z ql ?_))))));rw [decide_eq_true h.2];exact .z zpT (.zn zg (.ret (Fin.aW results196 rfl ⟨rfl,hs.out⟩)))
theorem Fm{w:World}{n b:Int}(hs:St H w σ):aaq 196 [I n,I a,I b] w fun v w'=>∃p:Bool,v= .bool p∧(a≤n∧n≤b→p=true)∧St H w' σ:=by
 refine Cl.o func196 ntmps196 ag3 ?_;refine .af (.zn zg (.af (.z zm (.z zm (.z zC (.z zm (.jK (t':=10) rfl (fun nL=>?_) (fun nL=>?_))))))))
 ·exact .T (.z zm (.T (.z zm (.T (.z ql (.z zpT (.zn zg (.ret (Fin.aW results196 rfl ⟨_,rfl,fun h=>by first|rfl|(simp;omega),hs.out⟩)))))))))
 ·exact .Fs 3 3 true (.z zpF (.zn zg (.ret (Fin.aW results196 rfl ⟨_,rfl,fun h=>by first|rfl|(simp;omega),hs.out⟩))))
theorem ia{w:World}{n:Int}(hs:St H w σ)(h:0≤n∧n≤100000):aaq 125 [I n] w fun v w'=>v= .bool true∧St H w' σ:=by
 refine Cl.o func125 ntmps125 ag1 ?_;refine .af (.zn zg (.af (.z zm (.o (.call jU rfl (di hs h) ?_)))));rintro _ w ⟨rfl,hs⟩;exact .zn zg (.ret (Fin.aW results125 rfl ⟨rfl,hs.out⟩))
theorem ox{w:World}{n:Int}(hs:St H w σ)(h:1≤n∧n≤999):aaq 124 [I n] w fun v w'=>v= .bool true∧St H w' σ:=by
 refine Cl.o func124 ntmps124 ag1 ?_;refine .af (.zn zg (.af (.z zm (.o (.call jU rfl (di hs h) ?_)))));rintro _ w ⟨rfl,hs⟩;exact .zn zg (.ret (Fin.aW results124 rfl ⟨rfl,hs.out⟩))
theorem nt{w:World}{b:Int}(hs:St H w σ)(h:0≤a∧a≤8)(k:0≤b∧b≤9999):aaq 156 [.agg #[I a,I b]] w fun v w'=>v= .bool true∧St H w' σ:=by
 refine Cl.o func156 ntmps156 ag1 ?_;refine .af (.bx hs fun b1 w hs=>?_);refine .zn zg (.af (.z (zfa kl) (.y hs (zld aj) (.o (.call jU rfl (di hs h) ?_)))));rintro _ w ⟨rfl,hs⟩;refine .z zm (.T (.z (zfa kj) (.T (.y hs (zld aj) (.T (.o (.call jU rfl (di hs k) ?_)))))));rintro _ w ⟨rfl,hs⟩;exact .z zpT (.zn zg (.ret (Fin.aW results156 rfl ⟨rfl,hs.out⟩)))
theorem kR{w:World}{b:Int}(hs:St H w σ)(h:0≤a∧a≤8)(k:0≤b∧b≤9999):aaq 271 [.agg #[I a,I b]] w fun v w'=>v=I (10000*a+b+1)∧St H w' σ:=by
 refine Cl.o func271 ntmps271 ag1 ?_;refine .af (.bx hs fun b1 w hs=>?_);refine .zn zg (.seq (.af (.y hs (zls [_,_] cj bk) (.o (.call call156 rfl (nt hs h k) ?_)))));rintro _ w ⟨rfl,hs⟩;exact .zn fF (.cF (.skip (nT (.af (.z (zfa kl) (.y hs (zld aj) (.z oq (.z (zfa kj) (.y hs (zld aj) (.z cC (.z cC (.zn zg (.ret (Fin.aW results271 rfl ⟨rfl,hs.out⟩))))))))))))))
theorem cmp_isNaN_int{w:World}(hs:St H w σ):aaq 154 [I a] w fun v w'=>v= .bool false∧St H w' σ:=by
 refine Cl.o func154 ntmps154 ag1 ?_;exact .af (.zn zg (.af (.z zm (.z zm (.z gv (.zn zg (.ret (Fin.aW results154 rfl ⟨aU,hs.out⟩))))))))
def oW(a b:Int):Int:=if a<b then -1 else if b<a then 1 else 0
theorem jG{w:World}{b:Int}(hs:St H w σ):aaq 89 [I a,I b] w fun v w'=>v=I (oW a b)∧St H w' σ:=by
 refine Cl.o func89 ntmps89 ag2 ?_;refine .af (.zn zg (.af (.z zm (.o (.call call154 rfl (cmp_isNaN_int hs) ?_)))));rintro _ w ⟨rfl,hs⟩;refine .zn zg (.af (.z zm (.o (.call call154 rfl (cmp_isNaN_int hs) ?_))));rintro _ w ⟨rfl,hs⟩;refine .zn zg (.seq (.af (.zn zm (.cF (.skip (nT (.seq (.af (.zn zm (.cF (.skip (nT (.seq (.af (.z zm (.z zm (.zn fT (.bQ rfl (fun dO=>?_) (fun dO=>?_)))))))))))))))))))
 ·exact .af (.zn zg (.ret (rT (Fin.aW results89 rfl ⟨by unfold oW;rw [if_pos ak],hs.out⟩))))
 ·refine .skip (nT (.seq (.af (.z zm (.z zm (.zn nE (.bQ rfl (fun j9=>?_) (fun j9=>?_))))))))
  ·exact .af (.zn zg (.ret (rT (Fin.aW results89 rfl ⟨by unfold oW;rw [if_neg ak,if_pos ak],hs.out⟩))))
  ·exact .skip (nT (.af (.zn zg (.ret (Fin.aW results89 rfl ⟨by unfold oW;rw [if_neg ak,if_neg ak],hs.out⟩)))))
def orL:List Int→Int
 |[]=>0
 |a::l=>if a=0 then orL l else a
theorem Ir{w:World}{v:Value}(hs:St H w σ)(hr:RI H v l):aaq 88 [v] w fun u w'=>u=I (orL l)∧St H w' σ:=by
 obtain ⟨a,c,rfl⟩:=RI.shape hr;refine Cl.o func88 ntmps88 ag1 ?_;refine .af (.zn zg (.af (.zn zg (.seq (.af (.z zm (.z (bT ai) (.zn zm (.for (N:=l.length) (J:=fun k fr w=>fr=[(6,.slice a l.length c),(3,I 0)]∧orL l=orL (l.drop k)∧St H w σ) (by have:=(RS.len hr).2.2;omega) ?_ ?_ ?_)))))))))
 ·exact .mk ⟨rfl,rfl,hs⟩
 ·rintro k fr w hk ⟨rfl,hd,hs⟩;have hx:=ck (l:=l) (i:=k) hk;have R4:l.drop k=gi l k::l.drop (k+1):=by rw [List.drop_eq_getElem_cons hk];congr 1;exact (by rw [List.getElem?_eq_getElem hk] at hx;exact Option.some.inj hx)
  rw [R4,show orL (gi l k::l.drop (k+1))=if gi l k=0 then orL (l.drop (k+1)) else gi l k from rfl] at hd;refine .block (.af (.ixX (enc:=fun x=>[I x]) hs hr rfl rfl ai an hx rfl ?_));intro jr o10 wQ;replace wQ:=bI.one wQ;refine .y hs (zld aj) (.zn zg (.af (.z zm (.z zm (.zn gv (.gN rfl (fun fq=>?_) (fun fq=>?_)))))))
  ·exact .af (.z zm (.zn zg (.ret (rB (rT (rB (rT (Fin.aW results88 rfl ⟨by rw [hd,if_neg ak],hs.out⟩))))))))
  ·exact .skip (nB (nT (.mk ⟨rfl,by rw [hd,if_pos ak],hs.out⟩)))
 ·rintro fr w ⟨rfl,hd,hs⟩;exact nT (.af (.z zm (.zn zg (.ret (Fin.aW results88 rfl ⟨by rw [hd,List.drop_length];rfl,hs.out⟩)))))
theorem j7{w:World}{b c d:Int}(hs:St H w σ):aaq 47 [.agg #[I a,I b],.agg #[I c,I d]] w fun v w'=>v=I (orL [oW a c,oW b d])∧∃H1,HLe H H1∧St H1 w' σ:=by
 refine Cl.o func47 ntmps47 ag2 ?_;refine .af (.bx hs fun b2 w hs=>?_);refine .bx hs fun b3 w hs=>?_
 refine .zn zg (.seq (.draw mix rfl hs fun w hs=>?_));refine .zw 0 rfl (zfa kl) ?_;refine .y 1 rfl hs aj ?_;refine .z 2 rfl (zfa kl) ?_;refine .y 3 rfl hs aj ?_;refine .z 5 rfl (zfa kj) ?_;refine .y 6 rfl hs aj ?_;refine .z 7 rfl (zfa kj) ?_;refine .y 8 rfl hs aj ?_;refine .E 4 hs ?_;refine .call call89 rfl (jG hs) ?_;rintro _ w ⟨rfl,hs⟩;refine .go (.E 9 hs ?_);refine .call call89 rfl (jG hs) ?_;rintro _ w ⟨rfl,hs⟩;refine .go (.E 10 hs ?_);refine .buildSlice (cells:=Is [oW a c,oW b d]) hs dX rfl aF ?_;intro Ll w hs;refine .go (.E 11 hs ?_);obtain ⟨H1,az,hR,hs⟩:=bE.bX (bE.full (len:=2) rfl) aU hs .here;refine .call call88 rfl (Ir hs hR) ?_;rintro _ w ⟨rfl,hs⟩;refine .go (.zw 12 rfl zg ?_);refine .D hs ?_;exact .ret (Fin.aW results47 rfl ⟨rfl,H1,az,hs.out⟩)
theorem A1{o s t:Int}(h:s<t):orL [oW o o,oW s t]= -1:=by
 have h1:oW o o=0:=by unfold oW;rw [if_neg ak,if_neg ak]
 have h2:oW s t= -1:=by unfold oW;rw [if_pos h]
 rw [h1,h2];rfl
theorem Ik:Tryz.prog.stoodInHeld 36=false:=by kernel_rfl
theorem Il:Tryz.prog.eqGuardType Tryz.prog.depth 36=false:=by kernel_rfl
theorem yt:Tryz.prog.stoodInHeld 65=false:=by kernel_rfl
theorem yu:Tryz.prog.eqGuardType Tryz.prog.depth 65=false:=by kernel_rfl
theorem Hv:Tryz.prog.stoodInHeld 67=false:=by kernel_rfl
theorem HA:Tryz.prog.eqGuardType Tryz.prog.depth 67=false:=by kernel_rfl
theorem It:Tryz.prog.stoodInHeld 69=false:=by kernel_rfl
theorem Iu:Tryz.prog.eqGuardType Tryz.prog.depth 69=false:=by kernel_rfl
theorem rL{w:World}{vst vwa:Value}(hs:St H w σ)(h1:RI H vst s.st)(h2:RI H vwa s.wa):
  aaq 209 [.agg #[I s.id,I s.src,vst,vwa,I s.al,I s.up],.agg #[I s.id,I s.src,vst,vwa,I s.al,I s.up]] w fun v w'=>v= .bool true∧St H w' σ:=by
 obtain ⟨ast,cst,rfl⟩:=RI.shape h1;obtain ⟨awa,cwa,rfl⟩:=RI.shape h2;refine Cl.o func209 ntmps209 ag2 ?_;refine .af (.bx hs fun b2 w hs=>?_);refine .bx hs fun b3 w hs=>?_
 refine .zn zg (.af (.z (zfa dr) (.y hs (zld aj) (.z (zfa dr) (.y hs (zld aj) (.z fW ?_))))));rw [decide_eq_true rfl];refine .z zm (.T (.z (zfa cP) (.T (.y hs (zld aj) (.T (.z (zfa cP) (.T (.y hs (zld aj) (.T (.z fW ?_))))))))));rw [decide_eq_true rfl];refine .z zpT (.z zm (.T (.z (zfa eh) (.T (.y hs (zls [_,_] isAgg36 sizeOf36) (.T (.z (zfa eh) (.T (.y hs (zls [_,_] isAgg36 sizeOf36) (.T ?_))))))))));refine .q hs (sI Ik Il runUnderlying36 (fun f hf=>by
  simp only [List.mem_cons,List.not_mem_nil,or_false] at hf
  rcases hf with rfl|rfl<;>exact ⟨by decide,aJ,aj⟩) rfl rfl) ?_
 rw [decide_eq_true ⟨rfl,rfl⟩];refine .z zpT (.z zm (.T (.z (zfa bh) (.T (.y hs (zld aC) (.T (.z (zfa bh) (.T (.y hs (zld aC) (.T (.o (.call call264 rfl (ot hs h1 h1) ?_))))))))))));rintro _ w ⟨rfl,hs⟩;rw [decide_eq_true rfl];refine .z zpT (.z zm (.T (.z (zfa aV) (.T (.y hs (zld aC) (.T (.z (zfa aV) (.T (.y hs (zld aC) (.T (.o (.call call264 rfl (ot hs h2 h2) ?_))))))))))));rintro _ w ⟨rfl,hs⟩;rw [decide_eq_true rfl];exact .z zpT (.zn zg (.ret (Fin.aW results209 rfl ⟨rfl,hs.out⟩)))
set_option maxHeartbeats 2000000 in
theorem rM{w:World}{x:Ev}(hs:St H w σ)(hx:EvM H x):aaq 157 [x.agg,x.agg] w fun v w'=>v= .bool true∧St H w' σ:=by
 refine Cl.o func157 ntmps157 ag2 ?_;refine .af (.bx hs fun b2 w hs=>?_);refine .bx hs fun b3 w hs=>?_
 refine .zn zg (.seq (.af (.z (zfa cn) (.y hs (zls [_,_,_,_,_,_] bC aM) (.z (zfa cn) (.y hs (zls [_,_,_,_,_,_] bC aM) (.o (.call call209 rfl (rL (s:=x.sp) hs hx.st hx.wa) ?_))))))));rintro _ w ⟨rfl,hs⟩;refine .zn fF (.cF (.skip (nT (.af (.z (zfa bM) (.y hs (zls [_,_] cj bk) (.z (zfa bM) (.y hs (zls [_,_] cj bk) (.q hs (sI yt yu jS (fun f hf=>by simp only [List.mem_cons,List.not_mem_nil,or_false] at hf;rcases hf with rfl|rfl<;>exact ⟨by decide,aJ,aj⟩) rfl rfl) ?_)))))))));rw [decide_eq_true ⟨rfl,rfl⟩];refine .z zm (.T (.z (zfa cQ) (.T (.y hs (zld aj) (.T (.z (zfa cQ) (.T (.y hs (zld aj) (.T (.z fW ?_))))))))));rw [decide_eq_true rfl];refine .z zpT (.z zm (.T (.z (zfa fE) (.T (.y hs (zld aj) (.T (.z (zfa fE) (.T (.y hs (zld aj) (.T (.z fW ?_)))))))))));rw [decide_eq_true rfl];refine .z zpT (.z zm (.T (.z (zfa ep) (.T (.y hs (zld aj) (.T (.z (zfa ep) (.T (.y hs (zld aj) (.T (.z fW ?_)))))))))));rw [decide_eq_true rfl];refine .z zpT (.z zm (.T (.z (zfa iO) (.T (.y hs (zld aj) (.T (.z (zfa iO) (.T (.y hs (zld aj) (.T (.z fW ?_)))))))))));rw [decide_eq_true rfl];refine .z zpT (.z zm (.T (.z (zfa eo) (.T (.y hs (zld aj) (.T (.z (zfa eo) (.T (.y hs (zld aj) (.T (.z fW ?_)))))))))));rw [decide_eq_true rfl];refine .z zpT (.z zm (.T (.z (zfa dP) (.T (.y hs (zld aj) (.T (.z (zfa dP) (.T (.y hs (zld aj) (.T (.z fW ?_)))))))))));rw [decide_eq_true rfl];refine .z zpT (.z zm (.T (.z (zfa gK) (.T (.y hs (zld aj) (.T (.z (zfa gK) (.T (.y hs (zld aj) (.T (.z fW ?_)))))))))));rw [decide_eq_true rfl];refine .z zpT (.z zm (.T (.z (zfa gJ) (.T (.y hs (zld aj) (.T (.z (zfa gJ) (.T (.y hs (zld aj) (.T (.z fW ?_)))))))))));rw [decide_eq_true rfl];refine .z zpT (.z zm (.T (.z (zfa ez) (.T (.y hs (zls [_,_,_,_,_,_,_] gP br) (.T (.z (zfa ez) (.T (.y hs (zls [_,_,_,_,_,_,_] gP br) (.T (.q hs (SH Hv HA im (fun f hf=>by simp only [List.mem_cons,List.not_mem_nil,or_false] at hf;rcases hf with rfl|rfl|rfl|rfl|rfl|rfl|rfl<;>exact ⟨by decide,aJ,aj⟩) rfl rfl) ?_)))))))))));rw [decide_eq_true ⟨rfl,rfl,rfl,rfl,rfl,rfl,rfl⟩];refine .z zpT (.z zm (.T (.z (zfa eX) (.T (.y hs (zls [_,_,_,_,_,_] vI dC) (.T (.z (zfa eX) (.T (.y hs (zls [_,_,_,_,_,_] vI dC) (.T (.q hs (SI It Iu jR (fun f hf=>by simp only [List.mem_cons,List.not_mem_nil,or_false] at hf;rcases hf with rfl|rfl|rfl|rfl|rfl|rfl<;>exact ⟨by decide,aJ,aj⟩) rfl rfl) ?_)))))))))));rw [decide_eq_true ⟨rfl,rfl,rfl,rfl,rfl,rfl⟩];refine .z zpT (.z zm (.T (.z (zfa pN) (.T (.y hs (zls [_,_] cj bk) (.T (.z (zfa pN) (.T (.y hs (zls [_,_] cj bk) (.T (.q hs (sI yt yu jS (fun f hf=>by simp only [List.mem_cons,List.not_mem_nil,or_false] at hf;rcases hf with rfl|rfl<;>exact ⟨by decide,aJ,aj⟩) rfl rfl) ?_)))))))))));rw [decide_eq_true ⟨rfl,rfl⟩];exact .z zpT (.zn zg (.ret (Fin.aW results157 rfl ⟨rfl,hs.out⟩)))
theorem px{w:World}{x:Ev}(hs:St H w σ)(hx:EvM H x)(hg:oH x)(hn:IG x):aaq 221 [x.agg] w fun v w'=>v= .bool true∧∃H1,HLe H H1∧St H1 w' σ:=by
 have h1:=hg.seq;have h2:=hg.off;have h3:=hn.ok.id;refine Cl.o func221 ntmps221 ag1 ?_;refine .af (.bx hs fun b1 w hs=>?_);refine .zn zg (.seq (.draw mix rfl hs fun w hs=>?_));refine .zw 0 rfl (zfa cn) ?_;refine .ys 1 rfl hs [_,_,_,_,_,_] bC aM ?_;refine .E 2 hs ?_;refine .call call55 rfl (fZ (s:=x.sp) hs hx.st hx.wa) ?_;rintro _ w ⟨H1,e,az,rfl,he,hs⟩;obtain rfl:e=0:=by
  rcases he with ⟨_,h⟩|⟨h,_⟩
  ·exact h
  ·exact (h hn.ok).elim
 refine .go (.zw 3 rfl fW ?_);rw [decide_eq_true rfl];refine .zw 4 rfl zm ?_;refine .z 5 rfl (zfa cn) ?_;refine .z 6 rfl (zfa dr) ?_;refine .y 7 rfl hs aj ?_;refine .E 8 hs ?_;refine .call jU rfl (di hs ⟨h3.1,hn.id⟩) ?_;rintro _ w ⟨rfl,hs⟩;refine .go (.zw 9 rfl zpT ?_);refine .z 10 rfl zm ?_;refine .z 11 rfl (zfa cn) ?_;refine .z 12 rfl (zfa cP) ?_;refine .y 13 rfl hs aj ?_;refine .z 14 rfl (zfa bM) ?_;refine .ys 15 rfl hs [_,_] cj bk ?_;refine .E 16 hs ?_;refine .call call271 rfl (kR hs ak h1) ?_;rintro _ w ⟨rfl,hs⟩;refine .go (.zw 17 rfl fW ?_);rw [decide_eq_true (by have:=hn.src;omega)];refine .zw 18 rfl zpT ?_;refine .z 19 rfl zg ?_;refine .D hs ?_;exact .ret (Fin.aW results221 rfl ⟨rfl,H1,az,hs.out⟩)
theorem rN{w:World}{x:Ev}(hs:St H w σ)(hg:oH x)(hr:jJ x):aaq 222 [x.agg] w fun v w'=>v= .bool true∧St H w' σ:=by
 have h1:=hg.seq;have h2:=hg.off;have h3:=hr.tol;refine Cl.o func222 ntmps222 ag1 ?_;refine .af (.bx hs fun b1 w hs=>?_);refine .zn zg (.af (.z (zfa ez) (.y hs (zls [_,_,_,_,_,_,_] gP br) (.o (.alloc hs ji rfl fun b3 w hs=>?_)))));refine .o (.aL (vs:=[_,_,_,_,_,_,_]) hs rfl rfl br fun w hs=>?_);refine .nil (.seq (.draw mix rfl hs fun w hs=>?_));refine .zw 0 rfl (zfa eE) ?_;refine .y 1 rfl hs aj ?_;refine .z 2 rfl (zfa bM) ?_;refine .ys 3 rfl hs [_,_] cj bk ?_;refine .E 4 hs ?_;refine .call call271 rfl (kR hs ak h1) ?_;rintro _ w ⟨rfl,hs⟩;refine .go (.zw 5 rfl fW ?_);rw [decide_eq_true (by have:=hr.src;omega)];refine .zw 6 rfl zm ?_;refine .z 7 rfl (zfa dI) ?_;refine .y 8 rfl hs aj ?_;refine .z 9 rfl (zfa ep) ?_;refine .y 10 rfl hs aj ?_;refine .z 11 rfl fW ?_;rw [decide_eq_true hr.day];refine .zw 12 rfl zpT ?_;refine .z 13 rfl zm ?_;refine .z 14 rfl (zfa fi) ?_;refine .y 15 rfl hs aj ?_;refine .E 16 hs ?_;refine .call jU rfl (di hs hr.st) ?_;rintro _ w ⟨rfl,hs⟩;refine .go (.zw 17 rfl zpT ?_);refine .z 18 rfl zm ?_;refine .z 19 rfl (zfa fh) ?_;refine .y 20 rfl hs aj ?_;refine .E 21 hs ?_;refine .call jU rfl (di hs hr.wa) ?_;rintro _ w ⟨rfl,hs⟩;refine .go (.zw 22 rfl zpT ?_);refine .z 23 rfl zm ?_;refine .z 24 rfl (zfa cI) ?_;refine .y 25 rfl hs aj ?_;refine .E 26 hs ?_;refine .call jU rfl (di hs hr.tol) ?_;rintro _ w ⟨rfl,hs⟩;refine .go (.zw 27 rfl zpT ?_);refine .z 28 rfl zm ?_;refine .z 29 rfl (zfa dW) ?_;refine .y 30 rfl hs aj ?_;refine .z 31 rfl (zfa cI) ?_;refine .y 32 rfl hs aj ?_;refine .z 33 rfl jj ?_;refine .E 34 hs ?_;refine .call jU rfl (di hs hr.val) ?_;rintro _ w ⟨rfl,hs⟩;refine .go (.zw 35 rfl zpT ?_);refine .z 36 rfl zm ?_;refine .z 37 rfl (zfa dV) ?_;refine .y 38 rfl hs aj ?_;refine .E 39 hs ?_;refine .call jU rfl (di hs hr.tape) ?_;rintro _ w ⟨rfl,hs⟩;refine .go (.zw 40 rfl zpT ?_);refine .z 41 rfl zg ?_;refine .D hs ?_;exact .ret (Fin.aW results222 rfl ⟨rfl,hs.out⟩)
theorem rO{w:World}{x:Ev}(hs:St H w σ)(hg:oH x)(hr:Cu x):aaq 223 [x.agg] w fun v w'=>v= .bool true∧St H w' σ:=by
 have h1:=hg.seq;have h2:=hg.off;have h3:=hr.fr;have h4:=hr.to;have h5:=hr.lo;have h6:=hr.hi;refine Cl.o func223 ntmps223 ag1 ?_;refine .af (.bx hs fun b1 w hs=>?_);refine .zn zg (.af (.z (zfa eX) (.y hs (zls [_,_,_,_,_,_] vI dC) (.o (.alloc hs qI rfl fun b3 w hs=>?_)))));refine .o (.aL (vs:=[_,_,_,_,_,_]) hs rfl rfl dC fun w hs=>?_);refine .nil (.seq (.draw mix rfl hs fun w hs=>?_));refine .zw 0 rfl (zfa fm) ?_;refine .y 1 rfl hs aj ?_;refine .z 2 rfl (zfa bM) ?_;refine .ys 3 rfl hs [_,_] cj bk ?_;refine .E 4 hs ?_;refine .call call271 rfl (kR hs ak h1) ?_;rintro _ w ⟨rfl,hs⟩;refine .go (.zw 5 rfl fW ?_);rw [decide_eq_true (by have:=hr.src;omega)];refine .zw 6 rfl zm ?_;refine .z 7 rfl (zfa iW) ?_;refine .y 8 rfl hs aj ?_;refine .E 9 hs ?_;refine .call jU rfl (di hs hr.tape) ?_;rintro _ w ⟨rfl,hs⟩;refine .go (.zw 10 rfl zpT ?_);refine .z 11 rfl zm ?_;refine .z 12 rfl (zfa gB) ?_;refine .y 13 rfl hs aj ?_;refine .E 14 hs ?_;refine .call call125 rfl (ia hs ak) ?_;rintro _ w ⟨rfl,hs⟩;refine .go (.zw 15 rfl zpT ?_);refine .z 16 rfl zm ?_;refine .z 17 rfl (zfa fk) ?_;refine .y 18 rfl hs aj ?_;refine .E 19 hs ?_;refine .call call125 rfl (ia hs ak) ?_;rintro _ w ⟨rfl,hs⟩;refine .go (.zw 20 rfl zpT ?_);refine .z 21 rfl zm ?_;refine .z 22 rfl (zfa gB) ?_;refine .y 23 rfl hs aj ?_;refine .z 24 rfl (zfa fk) ?_;refine .y 25 rfl hs aj ?_;refine .z 26 rfl ql ?_;rw [decide_eq_true h3.2];refine .zw 27 rfl zpT ?_;refine .z 28 rfl zm ?_;refine .z 29 rfl (zfa gA) ?_;refine .y 30 rfl hs aj ?_;refine .z 31 rfl zC ?_;rw [decide_eq_true h5.1];refine .zw 32 rfl zpT ?_;refine .z 33 rfl zm ?_;refine .z 34 rfl (zfa gA) ?_;refine .y 35 rfl hs aj ?_;refine .z 36 rfl (zfa fj) ?_;refine .y 37 rfl hs aj ?_;refine .z 38 rfl ql ?_;rw [decide_eq_true h5.2];refine .zw 39 rfl zpT ?_;refine .z 40 rfl zm ?_;refine .z 41 rfl (zfa fj) ?_;refine .y 42 rfl hs aj ?_;refine .z 43 rfl ql ?_;rw [decide_eq_true h6];refine .zw 44 rfl zpT ?_;refine .z 45 rfl zg ?_;refine .D hs ?_;exact .ret (Fin.aW results223 rfl ⟨rfl,hs.out⟩)
set_option maxHeartbeats 8000000 in
theorem zV{w:World}{x:Ev}(hs:St H w σ)(hx:EvM H x)(hg:oH x):aaq 155 [x.agg] w fun v w'=>v= .tuple #[x.agg,.bool true]∧∃H1,HLe H H1∧St H1 w' σ:=by
 have hk:=hg.kind;refine Cl.o func155 ntmps155 ag1 ?_;refine .af (.bx hs fun b1 w hs=>?_);refine .o (.alloc hs cz rfl fun b2 w hs=>?_);refine .zn zg (.af (.z (zfa bM) (.y hs (zls [_,_] cj bk) (.z (zfa cQ) (.y hs (zld aj) (.z (zfa iO) (.y hs (zld aj) (.z (zfa fE) (.y hs (zld aj) (.z (zfa ep) (.y hs (zld aj) (.z (zbd [I x.off,I x.seq,I x.kind,I x.ship,I x.day,I x.known,I 0,I 0,I 0,I 0,I 0,I 0,.slice none 0 0,.slice none 0 0,I 0,I 0,I 0,I 0,I 0,I 0,I 0,I 0,I 0,I 0,I 0,I 0,I 0,I 0,I 0,I 0,I 0] fw rfl aF) (.o (.alloc hs cz rfl fun b4 w hs=>?_))))))))))))));refine .o (.fy (vs:=[_,_,_,_,_,_,_,_,_,_,_,_,_,_,_,_,_,_,_,_,_,_,_,_,_,_,_,_,_,_,_]) hs rfl rfl aH fun w hs=>?_);refine .nil (.af (.z (zfa fE) (.y hs (zld aj) (.o (.call call124 rfl (ox hs hg.ship) ?_)))));rintro _ w ⟨rfl,hs⟩;refine .z zm (.T (.z (zfa ep) (.T (.y hs (zld aj) (.T (.o (.call call125 rfl (ia hs hg.day) ?_)))))));rintro _ w ⟨rfl,hs⟩;refine .z zpT (.zn zg (.af (.z (zfa eo) (.y hs (zld aj) (.o (.call jU rfl (Fm hs) ?_))))));rintro _ w ⟨pr,rfl,OL,hs⟩;refine .zn zg (.seq (.af (.z (zfa cQ) (.y hs (zld aj) (.nil (.block (.af (.z fW (.zn zg (.bQ rfl (fun s7=>?_) (fun s7=>?_)))))))))))
 ·refine .seq (.draw mix rfl hs fun w hs=>?_);refine .zw 0 rfl (zfa dP) ?_;refine .y 1 rfl hs aj ?_;refine .z 2 rfl (zfa cn) ?_;refine .ys 3 rfl hs [_,_,_,_,_,_] bC aM ?_;refine .z 4 rfl (zfa dP) ?_;refine .E 5 hs ?_;refine .store hs rfl rfl an ?_;intro w hs;refine .go (.zw 6 rfl (zfa cn) (.E 7 hs ?_));refine .aL (vs:=[_,_,_,_,_,_]) hs rfl rfl aM ?_;intro w hs;refine .go (.D hs (.seq (.draw mix rfl hs fun w hs=>?_)));refine .ys 0 rfl hs [_,_,_,_,_,_,_,_,_,_,_,_,_,_,_,_,_,_,_,_,_,_,_,_,_,_,_,_,_,_,_] bV aH ?_;refine .z 1 rfl zm ?_;refine .z 2 rfl zm ?_;refine .z 3 rfl (zfa dP) ?_;refine .y 4 rfl hs aj ?_;refine .E 5 hs ?_;have hq:=hg.build cW;refine .call jU rfl (di hs hq.num) ?_;rintro _ w ⟨rfl,hs⟩;refine .go (.zw 6 rfl zpT ?_);refine .z 7 rfl zm ?_;refine .ys 8 rfl hs [_,_,_,_,_,_,_,_,_,_,_,_,_,_,_,_,_,_,_,_,_,_,_,_,_,_,_,_,_,_,_] bV aH ?_;refine .E 9 hs ?_;refine .call call221 rfl (px hs hx hg hq.new) ?_;rintro _ w ⟨rfl,H1,az,hs⟩;refine .go (.zw 10 rfl zpT (.E 11 hs ?_));refine .fy (vs:=[_,_,_,_,_,_,_,_,_,_,_,_,_,_,_,_,_,_,_,_,_,_,_,_,_,_,_,_,_,_,_]) hs rfl rfl aH ?_;intro w hs;refine .go (.zw 12 rfl zg ?_);refine .D hs ?_;exact .ret (rB (rT ((Fin.ki [] [] hs fun w hs=>⟨_,results2 results155 (dK (vs:=[_,_,_,_,_,_,_,_,_,_,_,_,_,_,_,_,_,_,_,_,_,_,_,_,_,_,_,_,_,_,_]) hs rfl bV aH) rfl,by simp [Ev.agg,hq.room,hq.opn,hq.crew,hq.rd,hq.cm,hg.oo,hg.os,rd0,cm0],H1,az,hs.out⟩))))
 ·refine .af (.z fW (.zn zg (.bQ rfl (fun Kv=>?_) (fun Kv=>?_))))
  ·refine .seq (.draw mix rfl hs fun w hs=>?_);refine .zw 0 rfl (zfa dP) ?_;refine .y 1 rfl hs aj ?_;refine .z 2 rfl (zfa gK) ?_;refine .y 3 rfl hs aj ?_;refine .z 4 rfl (zfa gJ) ?_;refine .y 5 rfl hs aj ?_;refine .z 6 rfl (zfa cn) ?_;refine .ys 7 rfl hs [_,_,_,_,_,_] bC aM ?_;refine .z 8 rfl (zfa dP) ?_;refine .E 9 hs ?_;refine .store hs rfl rfl an ?_;intro w hs;refine .go (.zw 10 rfl (zfa gK) (.E 11 hs ?_));refine .store hs rfl rfl an ?_;intro w hs;refine .go (.zw 12 rfl (zfa gJ) (.E 13 hs ?_));refine .store hs rfl rfl an ?_;intro w hs;refine .go (.zw 14 rfl (zfa cn) (.E 15 hs ?_));refine .aL (vs:=[_,_,_,_,_,_]) hs rfl rfl aM ?_;intro w hs;refine .go (.D hs (.seq (.draw mix rfl hs fun w hs=>?_)));refine .ys 0 rfl hs [_,_,_,_,_,_,_,_,_,_,_,_,_,_,_,_,_,_,_,_,_,_,_,_,_,_,_,_,_,_,_] bV aH ?_;refine .z 1 rfl zm ?_;refine .z 2 rfl zm ?_;refine .z 3 rfl (zfa dP) ?_;refine .y 4 rfl hs aj ?_;refine .E 5 hs ?_;have hq:=hg.Gz cW;refine .call jU rfl (di hs hq.num) ?_;rintro _ w ⟨rfl,hs⟩;refine .go (.zw 6 rfl zpT ?_);refine .z 7 rfl zm ?_;refine .z 8 rfl (zfa gK) ?_;refine .y 9 rfl hs aj ?_;refine .E 10 hs ?_;refine .call jU rfl (di hs hq.opn) ?_;rintro _ w ⟨rfl,hs⟩;refine .go (.zw 11 rfl zpT ?_);refine .z 12 rfl zm ?_;refine .z 13 rfl (zfa gJ) ?_;refine .y 14 rfl hs aj ?_;refine .E 15 hs ?_;refine .call jU rfl (di hs hq.crew) ?_;rintro _ w ⟨rfl,hs⟩;refine .go (.zw 16 rfl zpT ?_);refine .z 17 rfl zm ?_;refine .ys 18 rfl hs [_,_,_,_,_,_,_,_,_,_,_,_,_,_,_,_,_,_,_,_,_,_,_,_,_,_,_,_,_,_,_] bV aH ?_;refine .E 19 hs ?_;refine .call call221 rfl (px hs hx hg hq.new) ?_;rintro _ w ⟨rfl,H1,az,hs⟩;refine .go (.zw 20 rfl zpT (.E 21 hs ?_));refine .fy (vs:=[_,_,_,_,_,_,_,_,_,_,_,_,_,_,_,_,_,_,_,_,_,_,_,_,_,_,_,_,_,_,_]) hs rfl rfl aH ?_;intro w hs;refine .go (.zw 22 rfl zg ?_);refine .D hs ?_;exact .ret (rB (rT ((Fin.ki [] [] hs fun w hs=>⟨_,results2 results155 (dK (vs:=[_,_,_,_,_,_,_,_,_,_,_,_,_,_,_,_,_,_,_,_,_,_,_,_,_,_,_,_,_,_,_]) hs rfl bV aH) rfl,by simp [Ev.agg,hq.room,hq.rd,hq.cm,hg.oo,hg.os,rd0,cm0],H1,az,hs.out⟩))))
  ·refine .af (.z fW ?_);rw [decide_eq_false ak];refine .zn zg (.cF (.seq (.af (.z fW ?_))));rw [decide_eq_false ak];refine .zn zg (.cF (.af (.z fW ?_)));rw [decide_eq_false ak];refine .zn zg (.cF (.region (.z fW ?_)));rw [decide_eq_false ak];refine .zn zg (nT (.cF (.af (.z fW ?_))));rw [decide_eq_false ak];refine .zn zg (.cF (.af (.z fW (.zn zg (.bQ rfl (fun T7=>?_) (fun T7=>?_))))))
   ·refine .seq (.draw mix rfl hs fun w hs=>?_);refine .zw 0 rfl (zfa eo) ?_;refine .y 1 rfl hs aj ?_;refine .z 2 rfl (zfa ez) ?_;refine .ys 3 rfl hs [_,_,_,_,_,_,_] gP br ?_;refine .z 4 rfl (zfa eo) ?_;refine .E 5 hs ?_;refine .store hs rfl rfl an ?_;intro w hs;refine .go (.zw 6 rfl (zfa ez) (.E 7 hs ?_));refine .aL (vs:=[_,_,_,_,_,_,_]) hs rfl rfl br ?_;intro w hs;refine .go (.D hs (.seq (.draw mix rfl hs fun w hs=>?_)));have hq:=hg.read cW;obtain rfl:=OL hq.room;refine .ys 0 rfl hs [_,_,_,_,_,_,_,_,_,_,_,_,_,_,_,_,_,_,_,_,_,_,_,_,_,_,_,_,_,_,_] bV aH ?_;refine .z 1 rfl zm ?_;refine .z 2 rfl zm ?_;refine .z 3 rfl zm ?_;refine .z 4 rfl zpT ?_;refine .z 5 rfl zm ?_;refine .ys 6 rfl hs [_,_,_,_,_,_,_,_,_,_,_,_,_,_,_,_,_,_,_,_,_,_,_,_,_,_,_,_,_,_,_] bV aH ?_;refine .E 7 hs ?_;refine .call call222 rfl (rN hs hg hq) ?_;rintro _ w ⟨rfl,hs⟩;refine .go (.zw 8 rfl zpT (.E 9 hs ?_));refine .fy (vs:=[_,_,_,_,_,_,_,_,_,_,_,_,_,_,_,_,_,_,_,_,_,_,_,_,_,_,_,_,_,_,_]) hs rfl rfl aH ?_;intro w hs;refine .go (.zw 10 rfl zg ?_);refine .D hs ?_;exact .ret (rB (rT ((Fin.ki [] [] hs fun w hs=>⟨_,results2 results155 (dK (vs:=[_,_,_,_,_,_,_,_,_,_,_,_,_,_,_,_,_,_,_,_,_,_,_,_,_,_,_,_,_,_,_]) hs rfl bV aH) rfl,by simp [Ev.agg,hq.num,hq.opn,hq.crew,hq.sp,hq.ast,hq.cst,hq.awa,hq.cwa,hq.cm,hg.oo,hg.os,sp0,cm0],H,HLe.refl _,hs.out⟩))))
   ·refine .af (.z fW ?_);rw [decide_eq_true ak];refine .zn zg (.cT (.af (.z (zfa eX) (.y hs (zls [_,_,_,_,_,_] vI dC) (.z (zfa eX) (.o (.aL (vs:=[_,_,_,_,_,_]) hs rfl rfl dC fun w hs=>?_)))))));refine .nil (.seq (.draw mix rfl hs fun w hs=>?_));refine .ys 0 rfl hs [_,_,_,_,_,_,_,_,_,_,_,_,_,_,_,_,_,_,_,_,_,_,_,_,_,_,_,_,_,_,_] bV aH ?_;refine .z 1 rfl zm ?_;refine .z 2 rfl zm ?_;refine .ys 3 rfl hs [_,_,_,_,_,_,_,_,_,_,_,_,_,_,_,_,_,_,_,_,_,_,_,_,_,_,_,_,_,_,_] bV aH ?_;refine .E 4 hs ?_;have hq:=hg.tape ak;refine .call call223 rfl (rO hs hg hq) ?_;rintro _ w ⟨rfl,hs⟩;refine .go (.zw 5 rfl zpT (.E 6 hs ?_));refine .fy (vs:=[_,_,_,_,_,_,_,_,_,_,_,_,_,_,_,_,_,_,_,_,_,_,_,_,_,_,_,_,_,_,_]) hs rfl rfl aH ?_;intro w hs;refine .go (.zw 7 rfl zg ?_);refine .D hs ?_;exact .ret (rB (rT ((Fin.ki [] [] hs fun w hs=>⟨_,results2 results155 (dK (vs:=[_,_,_,_,_,_,_,_,_,_,_,_,_,_,_,_,_,_,_,_,_,_,_,_,_,_,_,_,_,_,_]) hs rfl bV aH) rfl,by simp [Ev.agg,hq.room,hq.num,hq.opn,hq.crew,hq.sp,hq.ast,hq.cst,hq.awa,hq.cwa,hq.rd,hg.oo,hg.os,sp0,rd0],H,HLe.refl _,hs.out⟩))))
set_option maxHeartbeats 4000000 in
theorem qq{w:World}{x:Ev}(hs:St H w σ)(hx:EvM H x)(hg:oH x):aaq 91 [x.agg] w fun v w'=>v=I 0∧∃H1,HLe H H1∧St H1 w' σ:=by
 have h1:=hg.off;refine Cl.o func91 ntmps91 ag1 ?_;refine .af (.bx hs fun b1 w hs=>?_);refine .zn zg (.af (.y hs (zls [_,_,_,_,_,_,_,_,_,_,_,_,_,_,_,_,_,_,_,_,_,_,_,_,_,_,_,_,_,_,_] bV aH) (.o (.call call155 rfl (zV hs hx hg) ?_))));rintro _ w ⟨rfl,H1,az,hs⟩;refine .z zm (.z zex (.z zex (.o (.alloc hs cz rfl fun b3 w hs=>?_))));refine .o (.fy (vs:=[_,_,_,_,_,_,_,_,_,_,_,_,_,_,_,_,_,_,_,_,_,_,_,_,_,_,_,_,_,_,_]) hs rfl rfl aH fun w hs=>?_);refine .zn zg (.seq (.af (.z zm (.z fF (.z zm (.T (.z (zfa bM) (.T (.y hs (zls [_,_] cj bk) (.T (.o (.call call156 rfl (nt hs ak hg.seq) ?_))))))))))));rintro _ w ⟨rfl,hs⟩;refine .T (.z fF (.z zpF (.z zm (.T (.z (zfa iO) (.T (.y hs (zld aj) (.T (.o (.call call125 rfl (ia hs hg.known) ?_))))))))));rintro _ w ⟨rfl,hs⟩;refine .T (.z fF (.z zpF (.z zm (.T (.y hs (zls [_,_,_,_,_,_,_,_,_,_,_,_,_,_,_,_,_,_,_,_,_,_,_,_,_,_,_,_,_,_,_] bV aH) (.T (.y hs (zls [_,_,_,_,_,_,_,_,_,_,_,_,_,_,_,_,_,_,_,_,_,_,_,_,_,_,_,_,_,_,_] bV aH) (.T (.o (.call call157 rfl (rM hs (hx.mono az)) ?_))))))))));rintro _ w ⟨rfl,hs⟩;exact .T (.z fF (.zn zpF (.cF (.skip (nT (.af (.zn zg (.ret (Fin.aW results91 rfl ⟨rfl,H1,az,hs.out⟩)))))))))
set_option maxHeartbeats 2000000 in
theorem uL{w:World}{v:Value}{l:List Ev}(hs:St H w σ)(hr:REv H v l)(hl:ub l):aaq 90 [v] w fun u w'=>u= .bool true∧St H w' σ:=by
 obtain ⟨a,c,rfl⟩:=hr.shape;have h1:=hl.len;have h2:=hl.bN;refine Cl.o func90 ntmps90 ag1 ?_;refine .af (.zn zg (.af (.zn zg (.seq (.af (.z zm (.z (bT aD) (.zn zm (.for (N:=l.length) (J:=fun k fr w=>fr=[(6,.slice a l.length c),(3,I (lh l k)),(0,.slice a l.length c)]∧St H w σ) ak ?_ ?_ ?_)))))))))
 ·exact .mk ⟨rfl,hs⟩
 ·rintro k fr w hk ⟨rfl,hs⟩;have hx:=dp (l:=l) (i:=k) hk;have hb:=C0 l k;refine .block (.af (.ixX (enc:=Ev.c) hs hr.rs rfl rfl aD aH hx rfl ?_));intro jr o10 wQ;refine .q hs (bj (vs:=(evG l k).c) rfl bV aH wQ) (.o (.alloc hs cz rfl fun b5 w hs=>?_));refine .o (.fy (vs:=[_,_,_,_,_,_,_,_,_,_,_,_,_,_,_,_,_,_,_,_,_,_,_,_,_,_,_,_,_,_,_]) hs rfl rfl aH fun w hs=>?_);refine .nil (.af (.z (zfa cQ) (.y hs (zld aj) (.zn fW (.bQ rfl (fun fq=>?_) (fun fq=>?_))))))
  ·exact .region (.z zm (.z cC (.zn zg (nB (nT (.mk ⟨by simp only [lh];rw [if_pos cW],hs.out⟩))))))
  ·exact .skip (nB (nT (.mk ⟨by simp only [lh];rw [if_neg cW],hs.out⟩)))
 ·rintro fr w ⟨rfl,hs⟩;refine nT (.af (.z zm (.z (bT aD) (.z ql ?_))));rw [decide_eq_true ak];refine .z zm (.T (.z zm (.T (.z ql ?_))));rw [decide_eq_true ak];exact .z zpT (.zn zg (.ret (Fin.aW results90 rfl ⟨rfl,hs.out⟩)))
set_option maxHeartbeats 4000000 in
theorem lV{w:World}{v:Value}{l:List Ev}(hs:St H w σ)(hr:REv H v l)(hl:ub l):aaq 48 [v] w fun u w'=>u=I 0∧∃H1,HLe H H1∧St H1 w' σ:=by
 obtain ⟨a,c,rfl⟩:=hr.shape;have h1:=hl.len;refine Cl.o func48 ntmps48 ag1 ?_;refine .af (.zn zg (.seq (.af (.z zm (.z (bT aD) (.z nE ?_))))));rw [decide_eq_false ak];refine .z zm (.T (.z zm (.T (.o (.call call90 rfl (uL hs hr hl) ?_)))));rintro _ w ⟨rfl,hs⟩;refine .T (.z fF (.zn zpF (.cF (.skip (nT (.seq (.af (.z zm (.z (bT aD) (.zn zm (.for (N:=l.length) (J:=fun k fr w=>∃H1,fr=[(13,.slice a l.length c),(0,.slice a l.length c)]∧HLe H H1∧St H1 w σ) ak ?_ ?_ ?_)))))))))))
 ·exact .mk ⟨H,rfl,HLe.refl _,hs⟩
 ·rintro k fr w hk ⟨H1,rfl,az,hs⟩;have hx:=dp (l:=l) (i:=k) hk;have hm:=mM (l:=l) (i:=k) hk;refine .block (.af (.z zm (.ixX (enc:=Ev.c) hs (hr.rs.mono az) rfl rfl aD aH hx rfl ?_)));intro vB o18 oQ;refine .q hs (bj (vs:=(evG l k).c) rfl bV aH oQ) (.o (.alloc hs cz rfl fun b4 w hs=>?_));refine .z zg (.o (.fy (vs:=[_,_,_,_,_,_,_,_,_,_,_,_,_,_,_,_,_,_,_,_,_,_,_,_,_,_,_,_,_,_,_]) hs rfl rfl aH fun w hs=>?_));refine .nil (.seq (.draw mix rfl hs fun w hs=>?_));refine .zv 0 rfl hs (sW [_,_,_,_,_,_,_,_,_,_,_,_,_,_,_,_,_,_,_,_,_,_,_,_,_,_,_,_,_,_,_] bV aH) (.E 1 hs ?_);refine .call call91 rfl (qq (x:=evG l k) hs ((hr.all _ hm).mono az) (hl.good _ hm)) ?_;rintro _ w ⟨rfl,H2,aN,hs⟩;refine .go (.zw 2 rfl gv ?_);rw [decide_eq_true rfl];refine .zw 3 rfl zm ?_;refine .z 4 rfl zm ?_;refine .z 5 rfl nE ?_;refine .z 6 rfl zm ?_;refine .jK (t':=26) rfl (fun BU=>?_) (fun BU=>?_)
  ·refine .zw 7 rfl zm ?_;refine .z 8 rfl zm ?_;have EO:0<k:=by omega
   have BM:=dp (l:=l) (i:=k - 1) ak;refine .zw 9 rfl jj ?_;rw [show ((k:Int) - 1)=((k - 1:Nat):Int) by omega];refine .ixX (enc:=Ev.c) (i:=10) hs rfl aF (.some rfl rfl) (hr.rs.mono (az.trans aN)) rfl rfl aD aH BM rfl ?_;intro LR o30 rU;refine .zw 11 rfl (zfa bM) (.r (i:=12) hs rfl aF (.some rfl rfl) (bj (vs:=[I (evG l (k - 1)).off,I (evG l (k - 1)).seq]) rfl cj bk (rU.sub 0 _)) ?_);refine .zw 13 rfl (zfa bM) ?_;refine .ys 14 rfl hs [_,_] cj bk ?_;refine .E 15 hs ?_;refine .call call47 rfl (j7 (a:=(evG l (k - 1)).off) (b:=(evG l (k - 1)).seq) (c:=(evG l k).off) (d:=(evG l k).seq) hs) ?_;rintro _ w ⟨rfl,H3,bA,hs⟩;have hcm:orL [oW (evG l (k - 1)).off (evG l k).off,oW (evG l (k - 1)).seq (evG l k).seq]= -1:=by
    rw [(hl.good _ (mM (l:=l) (i:=k - 1) ak)).off,(hl.good _ hm).off];exact A1 (by have:=hl.inc (k - 1) ak;rwa [show k - 1+1=k by omega] at this)
   rw [hcm];refine .go (.zw 16 rfl zC ?_);rw [decide_eq_false cR];refine .zw 17 rfl zpT ?_;refine .z 18 rfl zpF ?_;refine .D hs ?_;exact (.cF (.skip (nB (nT (.mk ⟨_,rfl,by first|exact az.trans (aN.trans bA)|exact az.trans aN,hs.out⟩)))))
  ·refine .F 7 rfl (.F 8 rfl (.F 9 rfl (.F 10 rfl (.F 11 rfl (.F 12 rfl (.F 13 rfl (.F 14 rfl (.F 15 rfl (.F 16 rfl (.zw 17 rfl zpF ?_))))))))));refine .z 18 rfl zpF ?_;refine .D hs ?_;exact (.cF (.skip (nB (nT (.mk ⟨_,rfl,by first|exact az.trans (aN.trans bA)|exact az.trans aN,hs.out⟩)))))
 ·rintro fr w ⟨H1,rfl,az,hs⟩;exact nT (.af (.zn zg (.ret (Fin.aW results48 rfl ⟨rfl,H1,az,hs.out⟩))))
theorem lU{w:World}{v:Value}{l:List Ev}{n:Int}{ds:List Int}(hs:St H w σ)(hr:REv H v l)(hl:ub l)(hn:1≤n∧n≤999)(hd:RI H vd ds)(Xv:∀d∈ds,0≤d∧d≤100000):
  aaq 70 [v,I n,vd] w fun u w'=>u=I 0∧∃H1,HLe H H1∧St H1 w' σ:=by
 obtain ⟨a,c,rfl⟩:=hr.shape;obtain ⟨ad,cd,rfl⟩:=RI.shape hd;refine Cl.o func70 ntmps70 ag3 ?_;refine .af (.zn zg (.seq (.af (.z zm (.o (.call call48 rfl (lV hs hr hl) ?_))))));rintro _ w ⟨rfl,H1,az,hs⟩;refine .zn zg (.af (.z zm (.z gv ?_)));rw [decide_eq_true rfl];refine .nil (.cF (.skip (nT (.seq (.af (.z zm (.o (.call call124 rfl (ox hs hn) ?_))))))));rintro _ w ⟨rfl,hs⟩;refine .zn fF (.cF (.skip (nT (.seq (.af (.z zm (.z (bT ai) (.zn zm (.for (N:=ds.length) (J:=fun k fr w=>fr=[(18,.slice ad ds.length cd)]∧St H1 w σ) (by have:=(RS.len hd).2.2;omega) ?_ ?_ ?_)))))))))
 ·exact .mk ⟨rfl,hs⟩
 ·rintro k fr w hk ⟨rfl,hs⟩;have hx:=ck (l:=ds) (i:=k) hk;refine .block (.af (.ixX (enc:=fun x=>[I x]) hs (hd.mono az) rfl rfl ai an hx rfl ?_));intro Iw o22 ny;replace ny:=bI.one ny;refine .y hs (zld aj) (.zn zg (.af (.z zm (.o (.call call125 rfl (ia hs (Xv _ (List.mem_of_getElem? hx))) ?_)))));rintro _ w ⟨rfl,hs⟩;exact .zn fF (.cF (.skip (nB (nT (.mk ⟨rfl,hs.out⟩)))))
 ·rintro fr w ⟨rfl,hs⟩;exact nT (.af (.zn zg (.ret (Fin.aW results70 rfl ⟨rfl,H1,az,hs.out⟩))))
theorem JZ{b:Int}(w:World):(Instr.checkKey true 10000 65 (.agg #[I a,I b])).run Tryz.prog w= .ok () w:=by
 have h0:(part 3 #[I a,I b] 0).run Tryz.prog w= .ok (I a) w:=p5 aj rfl;have h1:(part 3 #[I a,I b] 1).run Tryz.prog w= .ok (I b) w:=p5 aj rfl;unfold Instr.checkKey;simp [Result.andThen,h0,h1,p6 aJ]
set_option maxHeartbeats 4000000 in
theorem mm{w:World}{v:Value}{l:List Ev}(hs:St H w σ)(hr:REv H v l)(hl:ub l):aaq 128 [v,I known] w fun u w'=>∃H1 a c,HLe H H1∧u= .slice a l.length c∧RBo H1 u (PW l known)∧St H1 w' σ:=by
 obtain ⟨a,c,rfl⟩:=hr.shape;have h1:=hl.len;refine Cl.o func128 ntmps128 ag2 ?_;refine .af (.zn zg (.af (.z zm (.z (bT aD) (.o (.makeSlice (bytes:=1) hs rfl rfl dx typeInfo4 rfl eg CH rfl cR ak ak fun EU w hs=>?_))))));refine .zn zg (.af (.o (.makeMap hs fun oE w hs=>?_)));refine .zn zg (.seq (.af (.z zm (.z (bT aD) (.z jj (.zn zg (.block ?_)))))));rw [show ((l.length:Int)).toNat=l.length by omega] at hs ⊢;rw [show (List.replicate l.length (Value.bool false).cells.toList).flatten=Bz (EJ l known l.length) by rw [L9];simp [Bz,Value.cells]] at hs;refine .loop (fun p:Int=>⟨51,[],[(7,I p),(6,.map (some oE)),(5,.slice (some ⟨EU,0,none⟩) l.length l.length),(1,I known),(0,.slice a l.length c)]⟩)
  (fun p w=>(-1≤p∧p<l.length)∧St H w (.obj oE (.map #[] 0):: .blk EU (Bz (EJ l known (p+1).toNat))::σ)) (fun p=>(p+1).toNat) ((l.length:Int) - 1) bg
  ⟨ak,by rw [show ((l.length:Int) - 1+1).toNat=l.length by omega];exact hs.sb⟩ ?_
 rintro p w ⟨hp,hs⟩;refine .seq (.af (.z zm (.zn zC (.bQ rfl (fun kS=>?_) (fun kS=>?_)))))
 ·refine .skip (nT (.seq (.block (.af ?_))));obtain ⟨k,rfl⟩:∃k:Nat,p=(k:Int):=⟨p.toNat,ak⟩;have hk:k<l.length:=by omega
  have hx:=dp (l:=l) (i:=k) hk;have hg:=hl.good _ (mM (l:=l) (i:=k) hk);have Vx:=hg.kind;rw [show ((k:Int)+1).toNat=k+1 by omega] at hs;refine .z zm (.z zm (.ixX (enc:=Ev.c) hs hr.rs rfl rfl aD aH hx rfl ?_));intro Iw o22 ny;refine .q hs (bj (vs:=(evG l k).c) rfl bV aH ny) (.o (.alloc hs cz rfl fun b8 w hs=>?_));refine .o (.fy (vs:=[_,_,_,_,_,_,_,_,_,_,_,_,_,_,_,_,_,_,_,_,_,_,_,_,_,_,_,_,_,_,_]) hs rfl rfl aH fun w hs=>?_);refine .nil (.af (.z zm (.z zm (.z (zfa iO) (.y hs (zld aj) (.z zm (.z ql (.z zm (.jK (t':=30) rfl (fun KF=>?_) (fun KF=>?_))))))))))
  ·refine .T (.z zm (.T (.z (zfa bM) (.T (.y hs (zls [_,_] cj bk) (.T (.q hs (Jz (c:=0) rfl rfl (by repeat (first|exact .here|refine .there ?_)) runUnderlying340 JZ jS CH) ?_)))))));refine .T (.z fF (.z zpT ?_));first|(refine .ixw hs dx eg ?_;intro VU o37 rR)|refine .z (zix dx eg) ?_
   refine .o (.store (c':=Bz (EJ l known k)) hs rfl rfl eg ?_ cg (PD (by rw [iY];exact hk)) (by rw [PB,←C5 hk];congr 2;first|(exact (decide_eq_true cW).symm)|(exact (decide_eq_false cW).symm)|simp_all));intro w hs;refine .nil (.af (.z zm (.z zm ?_)));first|(refine .ixw hs dx eg ?_;intro UO o40 uO)|refine .z (zix dx eg) ?_
   refine .q hs (eM rfl lN (hv:=PC (Ga hk))) (.z zm (.bif (t':=42) rfl (fun KD=>?_) (fun KD=>?_)))
   ·refine .T (.z (zfa cQ) (.T (.y hs (zld aj) (.T (.z fW ?_)))));rw [decide_eq_false ak];exact .zn zpT (.cF (.skip (nB (nT (.region (.z zm (.z jj (.zn zg (nT ⟨(k:Int) - 1,bg,⟨ak,by rw [show ((k:Int) - 1+1).toNat=k by omega];exact hs.sb⟩,ak⟩)))))))))
   ·exact .Fs 3 4 true (.zn zpF (.cF (.skip (nB (nT (.region (.z zm (.z jj (.zn zg (nT ⟨(k:Int) - 1,bg,⟨ak,by rw [show ((k:Int) - 1+1).toNat=k by omega];exact hs.sb⟩,ak⟩))))))))))
  ·refine .Fs 5 6 true (.z zpF ?_);first|(refine .ixw hs dx eg ?_;intro VU o37 rR)|refine .z (zix dx eg) ?_
   refine .o (.store (c':=Bz (EJ l known k)) hs rfl rfl eg ?_ cg (PD (by rw [iY];exact hk)) (by rw [PB,←C5 hk];congr 2;first|(exact (decide_eq_true cW).symm)|(exact (decide_eq_false cW).symm)|simp_all));intro w hs;refine .nil (.af (.z zm (.z zm ?_)));first|(refine .ixw hs dx eg ?_;intro UO o40 uO)|refine .z (zix dx eg) ?_
   refine .q hs (eM rfl lN (hv:=PC (Ga hk))) (.z zm (.bif (t':=42) rfl (fun KD=>?_) (fun KD=>?_)))
   ·refine .T (.z (zfa cQ) (.T (.y hs (zld aj) (.T (.z fW ?_)))));rw [decide_eq_false ak];exact .zn zpT (.cF (.skip (nB (nT (.region (.z zm (.z jj (.zn zg (nT ⟨(k:Int) - 1,bg,⟨ak,by rw [show ((k:Int) - 1+1).toNat=k by omega];exact hs.sb⟩,ak⟩)))))))))
   ·exact .Fs 3 4 true (.zn zpF (.cF (.skip (nB (nT (.region (.z zm (.z jj (.zn zg (nT ⟨(k:Int) - 1,bg,⟨ak,by rw [show ((k:Int) - 1+1).toNat=k by omega];exact hs.sb⟩,ak⟩))))))))))
 ·refine .exit (xT (xT (xB (nT (.af (.z zm (.zn zg (.ret (Fin.aW results128 rfl ?_)))))))));rw [show (p+1).toNat=0 by omega,Jg,←Lu] at hs;obtain ⟨H1,az,hR,hs⟩:=bE.bG (m:=1) (cs:=(PW l known).map fun b=>[Value.bool b]) (bE.full (len:=l.length) (by rw [Lu];simp [Bz,rm])) (U0 _) ak (by simp [rm];omega) hs cg;exact ⟨H1,_,_,az,rfl,hR,hs.out⟩
set_option maxHeartbeats 2000000 in
theorem rK{w:World}{vst vwa:Value}(hs:St H w σ)(h1:RI H vst s.st)(h2:RI H vwa s.wa)(BP:s.st.length≤1000)(LL:s.wa.length≤1000):
  aaq 161 [.agg #[I s.id,I s.src,vst,vwa,I s.al,I s.up]] w fun u w'=>∃H1 a1 c1 a2 c2,HLe H H1∧u= .agg #[I s.id,I s.src,.slice a1 s.st.length c1,.slice a2 s.wa.length c2,I s.al,I s.up]∧RI H1 (.slice a1 s.st.length c1) s.st∧RI H1 (.slice a2 s.wa.length c2) s.wa∧St H1 w' σ:=by
 obtain ⟨ast,cst,rfl⟩:=RI.shape h1;obtain ⟨awa,cwa,rfl⟩:=RI.shape h2;refine Cl.o func161 ntmps161 ag1 ?_;refine .af (.bx hs fun b1 w hs=>?_);refine .o (.alloc hs fR rfl fun b2 w hs=>?_);refine .nil (.seq (.draw mix rfl hs fun w hs=>?_));refine .zw 0 rfl (zfa bh) ?_;refine .y 1 rfl hs aC ?_;refine .z 3 rfl (zfa aV) ?_;refine .y 4 rfl hs aC ?_;refine .E 2 hs ?_;refine .call call193 rfl (iS hs h1 ak) ?_;rintro v5 w ⟨e5,zF,hs⟩;obtain ⟨H1,az,Nz,hs⟩:=bE.bX zF ak hs .here;obtain ⟨a1,c1,rfl⟩:=RI.shape Nz;refine .go (.zw 6 rfl (zfa bh) (.E 5 hs ?_));refine .call call193 rfl (iS hs (h2.mono az) ak) ?_;rintro v8 w ⟨e8,Yj,hs⟩;obtain ⟨H2,aN,zE,hs⟩:=bE.bX Yj ak hs .here;obtain ⟨a2,c2,rfl⟩:=RI.shape zE;refine .go (.E 7 hs ?_);refine .store hs rfl rfl aP ?_;intro w hs;refine .go (.zw 8 rfl (zfa aV) (.E 9 hs ?_));refine .store hs rfl rfl aP ?_;intro w hs;refine .go (.D hs (.af (.y hs (zls [_,_,_,_,_,_] bC aM) (.o (.aL (vs:=[_,_,_,_,_,_]) hs rfl rfl aM fun w hs=>?_)))));exact .nil (.ret (Fin.ki [] [] hs fun w hs=>⟨_,results1 results161 (dK (vs:=[_,_,_,_,_,_]) hs rfl bC aM),H2,a1,c1,a2,c2,az.trans aN,rfl,RI.mono Nz aN,zE,hs.out⟩))
set_option maxHeartbeats 2000000 in
theorem ow{w:World}{x:Ev}{n:Int}{s:Srv}{a c cmp:Value}{cs:List Cmp}(hs:St H w σ)(hm:Mem σ (.blk b (shC n fl s a b' c d vc th cmp tap dn vd)))(hx:EvM H x)(hn:IG x)(hc:RCm H cmp cs)(hl:cs.length≤100):
  aaq 252 [Pt b,x.agg] w fun u w'=>∃H1 a1 c1 a2 c2 a3 c3,HLe H H1∧u= .agg #[I x.sp.id,I x.sp.src,.slice a1 x.sp.st.length c1,.slice a2 x.sp.wa.length c2,I x.sp.al,I x.sp.up,.slice none 0 0,.slice a3 cs.length c3]∧
   SvM H1 ⟨x.sp,[],cs⟩ (.slice a1 x.sp.st.length c1) (.slice a2 x.sp.wa.length c2) (.slice none 0 0) (.slice a3 cs.length c3)∧St H1 w' σ:=by
 obtain ⟨acm,ccm,rfl⟩:=RCm.shape hc;have h1:=hn.ok.st.many;have h2:=hn.ok.wa.many;refine Cl.o func252 ntmps252 ag2 ?_;refine .af (.bx hs fun b3 w hs=>?_);refine .o (.alloc hs mP rfl fun b4 w hs=>?_);refine .nil (.seq (.draw mix rfl hs fun w hs=>?_));refine .zw 0 rfl (zfa cn) ?_;refine .ys 1 rfl hs [_,_,_,_,_,_] bC aM ?_;refine .z 3 rfl zm ?_;refine .z 4 rfl znc ?_;refine .z 5 rfl (zfa iK) ?_;first|refine .load (i:=6) hs rfl aF .none rfl qL ?_ (by repeat (first|exact .here|assumption|exact Mem.row ak ak|refine .there ?_|refine Mem.xi ?_)) (by first|rfl|exact ff ak|exact mb cW ak ak|exact js l9)|refine .r (i:=6) hs rfl aF .none (aR rfl qL cW) ?_
 refine .ET 2 hs ?_;refine .call call161 rfl (rK (s:=x.sp) hs hx.st hx.wa ak ak) ?_;rintro _ w ⟨H1,a1,c1,a2,c2,az,rfl,Nz,zE,hs⟩;refine .go (.ET 7 hs ?_);refine .call call287 rfl (wB hs (hc.mono az) ak) ?_;rintro v12 w ⟨e12,Ym,hs⟩;obtain ⟨H2,aN,IZ,hs⟩:=bE.bG (m:=6) (cs:=cmc cs) Ym (w7 _) ak (by rw [iw];omega) hs .here;obtain ⟨a3,c3,rfl⟩:=RCm.shape IZ;refine .go (.zw 8 rfl (zbd [_,_,_,_,_,_,_,_] q7) (.ET 9 hs ?_));refine .aL (vs:=[_,_,_,_,_,_,_,_]) hs rfl rfl bu ?_;intro w hs;exact .go (.DT hs (.ret (Fin.ki [] [] hs fun w hs=>⟨_,results1 results252 (dK (vs:=[_,_,_,_,_,_,_,_]) hs rfl df bu),H2,a1,c1,a2,c2,a3,c3,az.trans aN,rfl,⟨RI.mono Nz aN,RI.mono zE aN,RS.nil H2 7 none 0,IZ⟩,hs.out⟩)))
set_option maxHeartbeats 2000000 in
theorem yC{w:World}{x:Ev}{n:Int}{s:Srv}{a c cmp:Value}{cs:List Cmp}(hs:St H w (.blk b (shC n fl s a b' c d vc false cmp tap dn vd)::σ))(hx:EvM H x)(hn:IG x)(hc:RCm H cmp cs)(hl:cs.length≤100):
  aaq 198 [Pt b,x.agg] w fun u w'=>∃H1 a1 c1 a2 c2 a3 c3,HLe H H1∧u= .bool true∧
   SvM H1 ⟨x.sp,[],cs⟩ (.slice a1 x.sp.st.length c1) (.slice a2 x.sp.wa.length c2) (.slice none 0 0) (.slice a3 cs.length c3)∧St H1 w' (.blk b (shC n x.num ⟨x.sp,[],cs⟩ (.slice a1 x.sp.st.length c1) (.slice a2 x.sp.wa.length c2) (.slice none 0 0) (.slice a3 cs.length c3) vc true cmp tap dn vd)::σ):=by
 refine Cl.o func198 ntmps198 ag2 ?_;refine .af (.bx hs fun b3 w hs=>?_);refine .zn zg (.seq (.af (.z zm (.z znc (.z (zfa eP) (.y hs (zld lN) (.nil (.cF (.skip (nT (.seq (.draw mix rfl hs fun w hs=>?_))))))))))));refine .zw 0 rfl zm ?_;refine .z 1 rfl zm ?_;refine .z 2 rfl zm ?_;refine .z 3 rfl (zfa dP) ?_;refine .y 4 rfl hs aj ?_;refine .z 5 rfl zm ?_;refine .ys 6 rfl hs [_,_,_,_,_,_,_,_,_,_,_,_,_,_,_,_,_,_,_,_,_,_,_,_,_,_,_,_,_,_,_] bV aH ?_;refine .E 7 hs ?_;refine .call call252 rfl (ow hs (.there .here) hx hn hc hl) ?_;rintro _ w ⟨H1,a1,c1,a2,c2,a3,c3,az,rfl,uS,hs⟩;refine .go (.zw 8 rfl znc ?_);refine .z 9 rfl (zfa eP) ?_;refine .E 10 hs ?_;refine .store hs rfl rfl eg ?_;intro w hs;refine .go (.zw 11 rfl znc ?_);refine .z 12 rfl (zfa cO) ?_;refine .z 13 rfl (zfa mL) ?_;refine .E 14 hs ?_;refine .store hs rfl rfl an ?_;intro w hs;refine .go (.zw 15 rfl znc ?_);refine .z 16 rfl (zfa cO) ?_;refine .z 17 rfl (zfa gG) ?_;refine .E 18 hs ?_;refine .aL (vs:=[_,_,_,_,_,_,_,_]) hs rfl rfl bu ?_;intro w hs;exact .go (.D hs (.af (.zn zg (.ret (Fin.aW results198 rfl ⟨H1,a1,c1,a2,c2,a3,c3,az,rfl,uS,hs.out⟩)))))
theorem yB{w:World}{r:Rm}{s:Srv}{a b c:Value}(hs:St H w σ):aaq 289 [.agg (ceC r s a b c d).toArray,I id] w fun u w'=>u=I (oW r.id id)∧St H w' σ:=by
 refine Cl.o func289 ntmps289 ag2 ?_;refine .af (.bx hs fun b2 w hs=>?_);refine .zn zg (.af (.z (zfa nV) (.z (zfa lE) (.y hs (zld aj) (.z zm (.o (.call call89 rfl (jG hs) ?_)))))));rintro _ w ⟨rfl,hs⟩;exact .zn zg (.ret (Fin.aW results289 rfl ⟨rfl,hs.out⟩))
theorem tv(a:Int):oW a a=0:=by unfold oW;rw [if_neg ak,if_neg ak]
theorem Hq{w:World}(hs:St H w σ):aaq 288 [.slice none 0 0,I id,.func (.func 289) #[] #[]] w fun u w'=>u= .tuple #[I 0,.bool false]∧St H w' σ:=by
 refine Cl.o func288 ntmps288 ag3 ?_;refine .af (.z zg (.zn zg (.af (.z zm (.z (bT cJ) (.zn zg (.af (.z zm (.z zg (.zn zg (.seq (.block (.loop (fun _:Unit=>⟨49,[],[(10,I 0),(9,I 0),(8,I 0)]⟩) (fun _ w=>St H w σ) (fun _=>0) () bg hs.sb ?_)))))))))))));rintro _ w hs;refine .seq (.af (.z zm (.z zm (.z fT ?_))));rw [decide_eq_false ak];refine .nil (.cF (.exit (xT (xT (xB (nT (.af (.z zm (.z zm (.z zm (.z fT ?_)))))))))));rw [decide_eq_false ak];exact .z zm (.Fs 8 4 true (.z zpF (.z zg (.zn zg (.ret (Fin.mh results288 rfl rfl ⟨rfl,hs.out⟩))))))
set_option maxHeartbeats 2000000 in
theorem Hp{w:World}{cap:Nat}{r:Rm}{s:Srv}{a b c:Value}(hs:St H w σ)(hm:Mem σ (.blk bc (ceC r s a b c d++sp))):
  aaq 288 [.slice (some ⟨bc,0,none⟩) 1 cap,I r.id,.func (.func 289) #[] #[]] w fun u w'=>u= .tuple #[I 0,.bool true]∧St H w' σ:=by
 refine Cl.o func288 ntmps288 ag3 ?_;refine .af (.z zg (.zn zg (.af (.z zm (.z (bT cJ) (.zn zg (.af (.z zm (.z zg (.zn zg (.seq (.block (.loop (fun j:Nat=>⟨49,[],[(10,I (j:Int)),(9,I 0),(8,I 1),(2,.func (.func 289) #[] #[]),(1,I r.id),(0,.slice (some ⟨bc,0,none⟩) 1 cap)]⟩) (fun j w=>j≤1∧St H w σ) (fun j=>j) 1 bg ⟨Nat.le_refl 1,hs.sb⟩ ?_)))))))))))));rintro j w ⟨hj,hs⟩;refine .seq (.af (.z zm (.z zm (.zn fT (.bQ rfl (fun kS=>?_) (fun kS=>?_))))))
 ·refine .skip (nT (.block (.af (.z zm (.z zm ?_)))));obtain rfl:j=1:=by omega
  refine .z cC (.q hs (yk rfl aJ dy ⟨ak,ak⟩) (.q hs (Ot rfl rfl) ?_));rw [show ((0:Int)+((1:Nat):Int))/2=0 by decide];refine .q hs (yn rfl dy aJ ⟨ak,ak⟩) (.zn zg (.af (.z zm (.z zm (.z zm (.z (wo (j:=0) cJ me) (.q hs (gY (vs:=ceC r s a b c d) rfl isAgg280 me (hm:=hm) (hv:=rfl)) (.z zm (.o (.jN (first:=[]) (cap:=[]) rfl rfl call289 (yB hs) ?_))))))))));rintro _ w ⟨rfl,hs⟩;rw [tv];refine .z fT ?_;rw [decide_eq_false ak];exact .nil (.cF (.region (.z zm (.zn zg (nB (nT ⟨0,bg,⟨ak,hs.sb⟩,ak⟩))))))
 ·refine .exit (xT (xT (xB (nT (.af (.z zm (.z zm (.z zm (.z fT ?_)))))))));rw [decide_eq_true ak];refine .z zm (.T ?_);refine .z zm (.T (.z zm (.T (.z zm (.T (.z (wo (j:=0) cJ me) (.T (.q hs (gY (vs:=ceC r s a b c d) rfl isAgg280 me (hm:=hm) (hv:=rfl)) (.T (.z zm (.T (.o (.jN (first:=[]) (cap:=[]) rfl rfl call289 (yB hs) ?_)))))))))))));rintro _ w ⟨rfl,hs⟩;rw [tv];refine .T (.z fW ?_);rw [decide_eq_true rfl];exact .z zpT (.z zg (.zn zg (.ret (Fin.mh results288 rfl rfl ⟨rfl,hs.out⟩))))
theorem sV{w:World}{n:Int}{s:Srv}{a c cmp:Value}(hs:St H w σ)(hm:Mem σ (.blk b (shC n fl s a b' c d (.slice none 0 0) th cmp tap dn vd))):
  aaq 253 [Pt b,I id] w fun u w'=>u= .tuple #[I 0,.bool false]∧St H w' σ:=by
 refine Cl.o func253 ntmps253 ag2 ?_;refine .af (.z zg (.zn zg (.af (.z zm (.z znc (.z (zfa cO) (.z (zfa eQ) (.q hs (eM rfl PL (hm:=hm) (hv:=rfl)) (.z zm (.o (.call call288 rfl (Hq hs) ?_)))))))))));rintro _ w ⟨rfl,hs⟩;exact .z zex (.z zex (.z zg (.zn zg (.ret (Fin.mh results253 rfl rfl ⟨rfl,hs.out⟩)))))
theorem BG{w:World}{cap:Nat}{n:Int}{r:Rm}{s u:Srv}{a c cmp a2:Value}(hs:St H w σ)(hm:Mem σ (.blk b (shC n fl s a b' c d (.slice (some ⟨bc,0,none⟩) 1 cap) th cmp tap dn vd)))(OO:Mem σ (.blk bc (ceC r u a2 b2 c2 d2++sp))):
  aaq 253 [Pt b,I r.id] w fun u w'=>u= .tuple #[I 0,.bool true]∧St H w' σ:=by
 refine Cl.o func253 ntmps253 ag2 ?_;refine .af (.z zg (.zn zg (.af (.z zm (.z znc (.z (zfa cO) (.z (zfa eQ) (.q hs (eM rfl PL (hm:=hm) (hv:=rfl)) (.z zm (.o (.call call288 rfl (Hp hs OO) ?_)))))))))));rintro _ w ⟨rfl,hs⟩;exact .z zex (.z zex (.z zg (.zn zg (.ret (Fin.mh results253 rfl rfl ⟨rfl,hs.out⟩)))))
theorem Dx{w:World}{n:Int}{s:Srv}{a c cmp:Value}(hs:St H w σ)(hm:Mem σ (.blk b (shC n fl s a b' c d vc th cmp tap dn vd))):
  aaq 260 [Pt b,I s.sp.id] w fun u w'=>u= .pointer (some ⟨b,2,none⟩)∧St H w' σ:=by
 refine Cl.o func260 ntmps260 ag2 ?_;refine .af (.zn zg (.seq (.af (.z zm (.z znc (.z (zfa cO) (.z (zfa gG) (.z (zfa bq) (.z (zfa dr) (.q hs (eM rfl aj (hm:=hm) (hv:=rfl)) (.z zm (.z fW ?_))))))))))));rw [decide_eq_true rfl];exact .nil (.cT (.af (.z zm (.z znc (.z (zfa cO) (.z (zfa gG) (.zn zg (.ret (rT (Fin.aW results260 rfl ⟨rfl,hs.out⟩))))))))))
theorem Dv{w:World}{cap:Nat}{n:Int}{r:Rm}{s u:Srv}{a c cmp a2:Value}(hs:St H w σ)(hm:Mem σ (.blk b (shC n fl s a b' c d (.slice (some ⟨bc,0,none⟩) 1 cap) th cmp tap dn vd)))(OO:Mem σ (.blk bc (ceC r u a2 b2 c2 d2++sp)))(eG:s.sp.id≠r.id):
  aaq 260 [Pt b,I r.id] w fun u w'=>u= .pointer (some ⟨bc,6,none⟩)∧St H w' σ:=by
 refine Cl.o func260 ntmps260 ag2 ?_;refine .af (.zn zg (.seq (.af (.z zm (.z znc (.z (zfa cO) (.z (zfa gG) (.z (zfa bq) (.z (zfa dr) (.q hs (eM rfl aj (hm:=hm) (hv:=rfl)) (.z zm (.z fW ?_))))))))))));rw [decide_eq_false eG];refine .nil (.cF (.skip (nT (.af (.z zm (.z zm (.o (.call call253 rfl (BG hs hm OO) ?_))))))));rintro _ w ⟨rfl,hs⟩;exact .z zm (.z zex (.z zex (.z zg (.zn zg (.seq (.af (.z zm (.zn fF (.cF (.skip (nT (.af (.z zm (.z znc (.z (zfa cO) (.z (zfa eQ) (.q hs (eM rfl PL (hm:=hm) (hv:=rfl)) (.z zm (.z (wo (j:=0) cJ me) (.z (zfa nU) (.zn zg (.ret (Fin.aW results260 rfl ⟨rfl,hs.out⟩)))))))))))))))))))))))
set_option maxHeartbeats 2000000 in
theorem DL{w:World}{c:List Value}(hs:St H w (.blk bn c::σ))(hc:c.length=14)(hv:∀v∈c,v.oneCell'=true):
  aaq 254 [.slice none 0 0,I 0,.slice (some ⟨bn,0,none⟩) 1 1] w fun u w'=>∃bc cap sp,u= .slice (some ⟨bc,0,none⟩) 1 cap∧14+sp.length=cap*14∧St H w' (.blk bc (c++sp)::σ):=by
 refine Cl.o func254 ntmps254 ag3 ?_;refine .af (.zn zg (.af (.z zm (.z zm (.q hs (Bl rfl rfl cJ me ⟨ak,ak⟩) (.nil (.af (.z zm (.z (bT cJ) (.zn zg (.seq (.af (.z zm (.z fW ?_))))))))))))));rw [decide_eq_false ak];refine .nil (.cF (.skip (nT (.af (.z zm (.z (bT cJ) (.zn zg (.seq (.af (.z zm (.z zm (.z fW ?_))))))))))));rw [decide_eq_true (show (0:Int)=((0:Nat):Int) from rfl)];refine .nil (.cT (.af (.z zm (.z zm (.o (.append (xs:=[]) (ys:=c) hs.nul nC rfl rfl (.nil 14 none) (.own (.there .here) aU (by rw [hc])) hv (fun l' h=>by simp at h;omega) ?_))))));intro v25 en25 w hO hs;rw [List.nil_append] at hO;refine .zn zg (.ret (rT (Fin.aW results254 rfl ?_)));have hf:[c].flatten=c:=by simp
 rw [←hf] at hO;obtain ⟨bc,cap,sp,rfl,rfl,-⟩:=hO.Sd (m:=14) (fun x hx=>by rw [List.mem_singleton] at hx;rw [hx];exact hc) ak aU;rw [hf] at hs hO;have mI:14+sp.length=cap*14:=by
  rcases hO with ⟨_,_,_,h3⟩|⟨b',len,w8,PZ,h1,h2,h3,h4,h5⟩
  ·cases h3
  ·simp only [Value.slice.injEq] at h1;obtain ⟨-,-,rfl⟩:=h1;simp only [Ent.blk.injEq] at h2;rw [←h2.2,List.length_append,hc] at h4;exact h4
 exact ⟨bc,cap,sp,rfl,mI,hs.sb⟩
set_option maxHeartbeats 4000000 in
theorem zT{w:World}{x:Ev}{n:Int}{s:Srv}{a c cmp:Value}{cs:List Cmp}(hs:St H w (.blk b (shC n fl s a b' c d (.slice none 0 0) th cmp tap dn vd)::σ))(hx:EvM H x)(hn:IG x)(eG:s.sp.id≠x.sp.id)(hc:RCm H cmp cs)(hl:cs.length≤100):
  aaq 199 [Pt b,x.agg] w fun u w'=>∃H1 a1 c1 a2 c2 a3 c3 bc cap sp,HLe H H1∧u= .bool true∧14+sp.length=cap*14∧
   SvM H1 ⟨x.sp,[],cs⟩ (.slice a1 x.sp.st.length c1) (.slice a2 x.sp.wa.length c2) (.slice none 0 0) (.slice a3 cs.length c3)∧
   St H1 w' (.blk b (shC n fl s a b' c d (.slice (some ⟨bc,0,none⟩) 1 cap) th cmp tap dn vd):: .blk bc (ceC ⟨x.sp.id,x.num,x.opn,x.crew⟩ ⟨x.sp,[],cs⟩ (.slice a1 x.sp.st.length c1) (.slice a2 x.sp.wa.length c2) (.slice none 0 0) (.slice a3 cs.length c3)++sp)::σ):=by
 refine Cl.o func199 ntmps199 ag2 ?_;refine .af (.bx hs fun b3 w hs=>?_);refine .zn zg (.af (.z zm (.z (zfa cn) (.z (zfa dr) (.y hs (zld aj) (.o (.call call253 rfl (sV hs (.there .here)) ?_)))))));rintro _ w ⟨rfl,hs⟩;refine .z zm (.z zex (.z zex (.z zg (.zn zg (.seq (.seq (.draw mix rfl hs fun w hs=>?_)))))));refine .zw 0 rfl zm ?_;refine .z 1 rfl zm ?_;refine .z 2 rfl zm ?_;refine .z 3 rfl znc ?_;refine .z 4 rfl (zfa cO) ?_;refine .z 5 rfl (zfa gG) ?_;refine .z 6 rfl (zfa bq) ?_;refine .z 7 rfl (zfa dr) ?_;refine .y 8 rfl hs aj ?_;refine .z 9 rfl (zfa cn) ?_;refine .zw 10 rfl (zfa dr) ?_;refine .y 11 rfl hs aj ?_;refine .z 12 rfl fW ?_;rw [decide_eq_false eG];refine .zw 13 rfl zpF ?_;refine .z 14 rfl zm ?_;refine .z 15 rfl zm ?_;refine .z 16 rfl znc ?_;refine .z 17 rfl (zfa cO) ?_;refine .z 18 rfl (zfa eQ) ?_;refine .y 19 rfl hs PL ?_;refine .z 20 rfl (bT cJ) ?_;refine .z 21 rfl fW ?_;rw [decide_eq_false ak];refine .zw 22 rfl zpF ?_;refine .D hs ?_;refine (.cF (.skip (nT (.seq (.draw mix rfl hs fun w hs=>?_)))));refine .zw 0 rfl zm ?_;refine .z 1 rfl zm ?_;refine .z 2 rfl znc ?_;refine .z 3 rfl (zfa cO) ?_;refine .z 4 rfl (zfa eQ) ?_;refine .y 5 rfl hs PL ?_;refine .z 6 rfl zm ?_;refine .z 7 rfl (zfa cn) ?_;refine .z 8 rfl (zfa dr) ?_;refine .y 9 rfl hs aj ?_;refine .zw 10 rfl (zfa dP) ?_;refine .y 11 rfl hs aj ?_;refine .z 12 rfl (zfa gK) ?_;refine .y 13 rfl hs aj ?_;refine .z 14 rfl (zfa gJ) ?_;refine .y 15 rfl hs aj ?_;refine .z 16 rfl (zbd [_,_,_,_,_,_] Ep) ?_;refine .z 17 rfl zm ?_;refine .ys 18 rfl hs [_,_,_,_,_,_,_,_,_,_,_,_,_,_,_,_,_,_,_,_,_,_,_,_,_,_,_,_,_,_,_] bV aH ?_;refine .E 19 hs ?_;refine .call call252 rfl (ow hs (.there .here) hx hn hc hl) ?_;rintro _ w ⟨H1,a1,c1,a2,c2,a3,c3,az,rfl,uS,hs⟩;refine .go (.zw 20 rfl (zbd [I x.sp.id,I x.num,I x.opn,I x.crew,I 0,I 0,I x.sp.id,I x.sp.src,.slice a1 x.sp.st.length c1,.slice a2 x.sp.wa.length c2,I x.sp.al,I x.sp.up,.slice none 0 0,.slice a3 cs.length c3] Et rfl aF) (.E 21 hs ?_));refine .buildSlice (cells:=ceC ⟨x.sp.id,x.num,x.opn,x.crew⟩ ⟨x.sp,[],cs⟩ (.slice a1 x.sp.st.length c1) (.slice a2 x.sp.wa.length c2) (.slice none 0 0) (.slice a3 cs.length c3)) hs vv rfl aF ?_;intro b59 w hs;refine .go (.E 22 hs ?_);refine .call call254 rfl (DL hs rfl (by simp [ceC,Value.oneCell'])) ?_;rintro _ w ⟨bc,cap,sp,rfl,mI,hs⟩;refine .go (.zw 23 rfl znc ?_);refine .z 24 rfl (zfa cO) ?_;refine .z 25 rfl (zfa eQ) ?_;refine .E 26 hs ?_;refine .store hs rfl rfl sizeOf105 ?_;intro w hs;exact .go (.D hs (.af (.zn zg (.ret (Fin.aW results199 rfl ⟨H1,a1,c1,a2,c2,a3,c3,bc,cap,sp,az,rfl,mI,uS,hs.sub (.cons (.there (.there .here)) (.cons .here (Sub.weaken (Sub.refl _))))⟩)))))
set_option maxHeartbeats 4000000 in
theorem uI{w:World}{x:Ev}{cap:Nat}{n:Int}{r:Rm}{s u:Srv}{a c cmp a2:Value}
  (hs:St H w (.blk b (shC n fl s a b' c d (.slice (some ⟨bc,0,none⟩) 1 cap) th cmp tap dn vd):: .blk bc (ceC r u a2 b2 c2 d2++sp)::σ)) (g:SvM H u a2 b2 c2 d2) (hx:x.room=r.id) (eG:s.sp.id≠r.id) (bw:iE (u.add x.rd)) (hl:u.rs.length≤1000):
  aaq 205 [Pt b,x.agg] w fun v w'=>∃H1 q k,HLe H H1∧v= .bool true∧SvM H1 (u.add x.rd) a2 b2 (.slice q (u.rs.length+1) k) d2∧
   St H1 w' (.blk b (shC n fl s a b' c d (.slice (some ⟨bc,0,none⟩) 1 cap) th cmp tap dn vd):: .blk bc (ceC r (u.add x.rd) a2 b2 (.slice q (u.rs.length+1) k) d2++sp)::σ):=by
 obtain ⟨qa,ka,rfl⟩:=RI.shape g.st;obtain ⟨qb,kb,rfl⟩:=RI.shape g.wa;obtain ⟨qc,kc,rfl⟩:=RRd.shape g.rd;obtain ⟨qd,kd,rfl⟩:=RCm.shape g.cm;refine Cl.o func205 ntmps205 ag2 ?_;refine .af (.bx hs fun b3 w hs=>?_);refine .zn zg (.af (.z zm (.z (zfa eo) (.y hs (zld aj) ?_))));rw [hx];refine .o (.call call260 rfl (Dv hs (.there .here) (.there (.there .here)) eG) ?_);rintro _ w ⟨rfl,hs⟩;refine .zn zg (.seq (.af (.z zm (.q hs (AL rfl rfl runUnderlying392) (.nil (.cF (.skip (nT (.af (.z zm (.z znc (.q hs (gY (vs:=svC u (.slice qa u.sp.st.length ka) (.slice qb u.sp.wa.length kb) (.slice qc u.rs.length kc) (.slice qd u.cs.length kd)) rfl df bu (hm:= .there (.there .here)) (hv:=rfl)) (.o (.alloc hs mP rfl fun b6 w hs=>?_))))))))))))));refine .o (.aL (vs:=[_,_,_,_,_,_,_,_]) hs rfl rfl bu fun w hs=>?_);refine .nil (.cut (fun fs w=>∃H1 b6 q k,ob fs ⟨32,[],[(6,Pt b6),(5,.pointer (some ⟨bc,6,none⟩))]⟩∧HLe H H1∧RRd H1 (.slice q (u.rs.length+1) k) (u.rs++[x.rd])∧St H1 w (.blk b6 (svC u (.slice qa u.sp.st.length ka) (.slice qb u.sp.wa.length kb) (.slice q (u.rs.length+1) k) (.slice qd u.cs.length kd)):: .blk b (shC n fl s a b' c d (.slice (some ⟨bc,0,none⟩) 1 cap) th cmp tap dn vd):: .blk bc (ceC r u (.slice qa u.sp.st.length ka) (.slice qb u.sp.wa.length kb) (.slice qc u.rs.length kc) (.slice qd u.cs.length kd)++sp)::σ)) ?_ ?_)
 ·refine .draw mix rfl hs fun w hs=>?_
  refine .zw 0 rfl zm ?_;refine .z 1 rfl znc ?_;refine .z 2 rfl (zfa aS) ?_;refine .y 3 rfl hs eB ?_;refine .z 5 rfl (zfa ez) ?_;refine .ys 6 rfl hs [_,_,_,_,_,_,_] gP br ?_;refine .e2 (i:=4) (j:=7) aF rfl rfl rfl rfl .none .none hs ?_ ?_
  ·refine .call call261 rfl (iR hs g.rd ak) ?_;rintro v20 w ⟨e20,FN,hs⟩;refine .go (.E 7 hs ?_);refine .buildSlice (cells:=x.rd.c) hs dS rfl aF ?_;intro Iv w hs;refine .go (.E 8 hs ?_);refine .append (ys:=x.rd.c) hs bL rfl rfl FN (.own cg rfl rfl) (by simp [Rdg.c,Value.oneCell']) (fun l' h=>by rw [a7 _ (lB _),cL] at h;omega) ?_;intro v24 en24 w nM hs;rw [←p7] at nM;obtain ⟨a24,c24,rfl⟩:=nM.jx (lB _) ak;rw [cL,List.length_append,List.length_singleton] at nM ⊢;refine .go (.zw 9 rfl (zfa aS) (.E 10 hs ?_));refine .store hs rfl rfl F2 ?_;intro w hs;refine .go (.D hs ?_);obtain ⟨H1,az,hR,hs⟩:=bE.bG (m:=7) (cs:=rdc (u.rs++[x.rd])) nM (lB _) ak (by rw [cL,List.length_append,List.length_singleton];omega) hs cg;exact nT ⟨H1,b6,_,_,bg,az,hR,hs.sb⟩
  ·refine .buildSlice (cells:=x.rd.c) hs dS rfl aF ?_;intro Iv w hs;refine .go (.E 4 hs ?_);refine .call call261 rfl (iR hs g.rd ak) ?_;rintro v20 w ⟨e20,FN,hs⟩;refine .go (.E 8 hs ?_);refine .append (ys:=x.rd.c) hs bL rfl rfl FN (.own cg rfl rfl) (by simp [Rdg.c,Value.oneCell']) (fun l' h=>by rw [a7 _ (lB _),cL] at h;omega) ?_;intro v24 en24 w nM hs;rw [←p7] at nM;obtain ⟨a24,c24,rfl⟩:=nM.jx (lB _) ak;rw [cL,List.length_append,List.length_singleton] at nM ⊢;refine .go (.zw 9 rfl (zfa aS) (.E 10 hs ?_));refine .store hs rfl rfl F2 ?_;intro w hs;refine .go (.D hs ?_);obtain ⟨H1,az,hR,hs⟩:=bE.bG (m:=7) (cs:=rdc (u.rs++[x.rd])) nM (lB _) ak (by rw [cL,List.length_append,List.length_singleton];omega) hs cg;exact nT ⟨H1,b6,_,_,bg,az,hR,hs.sb⟩
 ·rintro fs w ⟨H1,b6,q,k,j8,az,hR,hs⟩;refine WE.sub ?_ j8;clear j8;have gk:SvM H1 (u.add x.rd) (.slice qa u.sp.st.length ka) (.slice qb u.sp.wa.length kb) (.slice q (u.rs.length+1) k) (.slice qd u.cs.length kd):=⟨(g.mono az).st,(g.mono az).wa,hR,(g.mono az).cm⟩;refine .seq (.af (.y hs (zls [_,_,_,_,_,_,_,_] df bu) (.o (.call call262 rfl (jA (s:=u.add x.rd) hs gk.st gk.wa gk.rd gk.cm) ?_))));rintro _ w ⟨H2,e,aN,rfl,hE,hs⟩;obtain rfl:e=0:=hE.jz.2 bw;refine .z gv ?_;rw [decide_eq_true rfl];refine .nil (.cF (.skip (nT (.af (.z zm (.y hs (zls [_,_,_,_,_,_,_,_] df bu) (.z znc (.o (.aL (vs:=[_,_,_,_,_,_,_,_]) hs rfl rfl bu fun w hs=>?_)))))))));exact .nil (.af (.zn zg (.ret (Fin.aW results205 rfl ⟨H2,q,k,az.trans aN,rfl,gk.mono aN,hs.out⟩))))
theorem Jd{w:World}{x y:Ev}(hs:St H w σ):aaq 208 [.agg x.c.toArray,.agg y.c.toArray] w fun u w'=>u=I (oW x.day y.day)∧St H w' σ:=by
 refine Cl.o func208 ntmps208 ag2 ?_;refine .af (.bx hs fun b2 w hs=>?_);refine .bx hs fun b3 w hs=>?_
 refine .zn zg (.af (.z (zfa ep) (.y hs (zld aj) (.z (zfa ep) (.y hs (zld aj) (.o (.call call89 rfl (jG hs) ?_)))))));rintro _ w ⟨rfl,hs⟩;exact .zn zg (.ret (Fin.aW results208 rfl ⟨rfl,hs.out⟩))
theorem Lb(a b:Int):oW a b<0↔a<b:=by unfold oW;split<;>(try split)<;>omega
set_option maxHeartbeats 8000000 in
theorem DK{w:World}{l:List Ev}{cap:Nat}(hs:St H w (.blk bn ((evc l).flatten++sp)::σ))(hl:l.length≤1000)(BP:1≤l.length):
  aaq 295 [.slice (some ⟨bn,0,none⟩) l.length cap,I 0,I (l.length:Int),.func (.func 208) #[] #[]] w fun _ w'=>St H w' (.blk bn ((evc (dc l l.length)).flatten++sp)::σ):=by
 refine Cl.o func295 ntmps295 ag4 ?_;refine .af (.z zm (.z cC (.zn zg (.block ?_))));refine .loop (fun i:Nat=>⟨53,[],[(8,I (i:Int)),(3,.func (.func 208) #[] #[]),(2,I (l.length:Int)),(1,I 0),(0,.slice (some ⟨bn,0,none⟩) l.length cap)]⟩)
  (fun i w=>(1≤i∧i≤l.length)∧St H w (.blk bn ((evc (dc l i++l.drop i)).flatten++sp)::σ)) (fun i=>l.length - i) 1 (bg) ⟨ak,by
   rw [show dc l 1++l.drop 1=l by
    have:=jl (l:=l) (n:=0) ak;rw [show dc l 1=l.take 1 by rw [this];rfl,List.take_append_drop]]
   exact hs.sb⟩ ?_
 rintro i w ⟨hi,hs⟩;refine .seq (.af (.z zm (.z zm (.zn fT (.bQ rfl (fun fq=>?_) (fun fq=>?_))))))
 ·refine .skip (nT (.seq (.block (.af (.z zm (.zn zg (.block ?_)))))));have Km:i<l.length:=by omega
  have hP:=fo l i;have R4:l.drop i=evG l i::l.drop (i+1):=by
   rw [List.drop_eq_getElem_cons Km];congr 1;have:=dp (l:=l) (i:=i) Km;rw [List.getElem?_eq_getElem Km] at this;exact Option.some.inj this
  rw [R4,←Ji,hP] at hs;refine .loop (fun j:Nat=>⟨53,[],[(9,I (j:Int)),(8,I (i:Int)),(3,.func (.func 208) #[] #[]),(2,I (l.length:Int)),(1,I 0),(0,.slice (some ⟨bn,0,none⟩) l.length cap)]⟩)
   (fun j w=>(j≤i∧Br (evG l i) (dc l i) j=Br (evG l i) (dc l i) i)∧St H w (.blk bn ((evc (stA (dc l i) (evG l i) j (l.drop (i+1)))).flatten++sp)::σ)) (fun j=>j) i bg ⟨⟨Nat.le_refl _,rfl⟩,hs.sb⟩ ?_
  rintro j w ⟨⟨Nd,Ke⟩,hs⟩;have WQ:(stA (dc l i) (evG l i) j (l.drop (i+1))).length=l.length:=by rw [Hm ak,List.length_drop];omega
  refine .seq (.seq (.draw mix rfl hs fun w hs=>?_));refine .zw 0 rfl zm ?_;refine .z 1 rfl zm ?_;refine .z 2 rfl nE ?_;refine .z 3 rfl zm ?_;refine .jK (t':=21) rfl (fun Ig=>?_) (fun Ig=>?_)
  ·obtain ⟨k,rfl⟩:∃k,j=k+1:=⟨j - 1,ak⟩;have BM:=Sn (P:=dc l i) (x:=evG l i) (j:=k+1) (R:=l.drop (i+1)) ak;have Qu:=PX (P:=dc l i) (x:=evG l i) (j:=k) (R:=l.drop (i+1)) ak;refine .zw 4 rfl zm ?_;refine .z 5 rfl zm ?_;refine .z 6 rfl zm ?_;refine .z 7 rfl (wo (j:=k+1) aD aH) ?_;refine .zR (i:=8) (vs:=(evG l i).c) hs rfl aF (.some rfl rfl) rfl bV aH ?_ (hv:=sK (ig _) (rY BM) sp);refine .zw 9 rfl zm ?_;refine .z 10 rfl zm ?_;refine .z 11 rfl jj ?_;rw [show (((k+1:Nat):Int) - 1)=(k:Int) by omega];refine .zw 12 rfl (wo (j:=k) aD aH) (.zR (i:=13) (vs:=(evG (dc l i) k).c) hs rfl aF (.some rfl rfl) rfl bV aH ?_ (hv:=sK (ig _) (rY Qu) sp));refine .E 14 hs ?_;refine .jN (first:=[]) (cap:=[]) rfl rfl call208 (Jd hs) ?_;rintro _ w ⟨rfl,hs⟩;refine .go (.zw 15 rfl fT ?_);refine .z 16 rfl zpT ?_;refine .D hs ?_;refine (.bQ rfl (fun qu=>?_) (fun qu=>?_))
   ·refine .skip (nT (.seq (.block (.draw mix rfl hs fun w hs=>?_))));refine .zw 0 rfl zm ?_;refine .z 1 rfl zm ?_;refine .z 2 rfl zm ?_;refine .z 3 rfl zm ?_;refine .z 4 rfl jj ?_;rw [show (((k+1:Nat):Int) - 1)=(k:Int) by omega];refine .zw 5 rfl zm ?_;refine .z 6 rfl zm ?_;refine .z 7 rfl jj ?_;rw [show (((k+1:Nat):Int) - 1)=(k:Int) by omega];refine .zw 8 rfl (wo (j:=k) aD aH) (.zR (i:=9) (vs:=(evG (dc l i) k).c) hs rfl aF .none rfl bV aH ?_ (hv:=sK (ig _) (rY Qu) sp));refine .zw 10 rfl zm ?_;refine .z 11 rfl zm ?_;refine .z 12 rfl (wo (j:=k+1) aD aH) ?_;refine .zR (i:=13) (vs:=(evG l i).c) hs rfl aF .none rfl bV aH ?_ (hv:=sK (ig _) (rY BM) sp);refine .zw 14 rfl (wo (j:=k+1) aD aH) (.E 15 hs ?_);refine .aL (vs:=(evG (dc l i) k).c) (c':=(evc ((stA (dc l i) (evG l i) (k+1) (l.drop (i+1))).set (k+1) (evG (dc l i) k))).flatten++sp) hs rfl rfl aH ?_ cg (Pq ak _ _) (KZ ak _ _);intro w hs;refine .go (.zw 16 rfl (wo (j:=k) aD aH) (.E 17 hs ?_));refine .aL (vs:=(evG l i).c) (c':=(evc (stA (dc l i) (evG l i) k (l.drop (i+1)))).flatten++sp) hs rfl rfl aH ?_ cg (Pq (by rw [List.length_set];omega) _ _) (by rw [KZ (by rw [List.length_set];omega),Ma ak]);intro w hs;exact .go (.D hs (nB (nT (.region (.z zm (.z jj (.zn zg (nT ⟨k,.dw rfl (by push_cast;omega) bg,⟨⟨ak,by rw [←Ke];simp only [Br];rw [if_pos ((Lb _ _).1 cW)]⟩,hs.sb⟩,ak⟩))))))))
   ·refine .exit (xT (xT (xB (nB (nT (.region (.z zm (.z cC (.zn zg (nT ?_))))))))));have hj:k+1=Br (evG l i) (dc l i) (dc l i).length:=by
     rw [hP,←Ke];simp only [Br];rw [if_neg fun h=>by have:=(Lb _ _).2 h;omega]
    rw [Jj hj] at hs;exact ⟨i+1,.dw rfl aU bg,⟨ak,by simp only [dc];exact hs.sb⟩,ak⟩
  ·refine .F 4 rfl (.F 5 rfl (.F 6 rfl (.F 7 rfl (.F 8 rfl (.F 9 rfl (.F 10 rfl (.F 11 rfl (.F 12 rfl (.F 13 rfl (.F 14 rfl (.F 15 rfl (.zw 16 rfl zpF ?_))))))))))));refine .D hs ?_;refine (.cF (.exit (xT (xT (xB (nB (nT (.region (.z zm (.z cC (.zn zg (nT ?_))))))))))));obtain rfl:j=0:=by omega
   have hj:0=Br (evG l i) (dc l i) (dc l i).length:=by
    rw [hP,←Ke];rfl
   rw [Jj hj] at hs;exact ⟨i+1,.dw rfl aU bg,⟨ak,by simp only [dc];exact hs.sb⟩,ak⟩
 ·refine .exit (xT (xT (xB ?_)));obtain rfl:i=l.length:=by omega
  rw [List.drop_length,List.append_nil] at hs;exact Fin.zG results295 hs.out
set_option maxHeartbeats 2000000 in
theorem Jh{w:World}{l:List Ev}{cap:Nat}(hs:St H w (.blk bn ((evc l).flatten++sp)::σ))(hl:l.length≤19)(BP:1≤l.length):
  aaq 263 [.slice (some ⟨bn,0,none⟩) l.length cap,I (l.length:Int),.func (.func 208) #[] #[]] w fun _ w'=>St H w' (.blk bn ((evc (dc l l.length)).flatten++sp)::σ):=by
 refine Cl.o func263 ntmps263 ag3 ?_;refine .af (.zn zg (.af (.z zm (.z zg (.zn zg (.seq (.block (.loop (fun _:Unit=>⟨63,[],[(8,I 20),(7,I 0),(6,I 20),(2,.func (.func 208) #[] #[]),(1,I (l.length:Int)),(0,.slice (some ⟨bn,0,none⟩) l.length cap)]⟩) (fun _ w=>St H w (.blk bn ((evc l).flatten++sp)::σ)) (fun _=>0) () bg hs.sb ?_))))))));rintro _ w hs;refine .seq (.af (.z zm (.z zm (.z ql ?_))));rw [decide_eq_false ak];refine .nil (.cF (.exit (xT (xT (xB (nT (.af (.z zm (.z zm (.z zm (.z zm (.o (.call call295 rfl (DK hs ak BP) ?_)))))))))))));rintro _ w hs;refine .nil (.block (.loop (fun _:Unit=>⟨63,[],[(6,I 20),(1,I (l.length:Int))]⟩) (fun _ w=>St H w (.blk bn ((evc (dc l l.length)).flatten++sp)::σ)) (fun _=>0) () bg hs.sb ?_));rintro _ w hs;refine .seq (.af (.z zm (.z zm (.z fT ?_))));rw [decide_eq_false ak];exact .nil (.cF (.exit (xT (xT (xB (Fin.zG results263 hs.out))))))
theorem Bh{w:World}{l:List Ev}{cap:Nat}(hs:St H w (.blk bn ((evc l).flatten++sp)::σ))(hl:l.length≤19)(BP:1≤l.length):
  aaq 207 [.slice (some ⟨bn,0,none⟩) l.length cap,.func (.func 208) #[] #[]] w fun _ w'=>St H w' (.blk bn ((evc (dc l l.length)).flatten++sp)::σ):=by
 refine Cl.o func207 ntmps207 ag2 ?_;refine .region (.z zm (.z zm (.z (bT aD) (.z zm (.o (.call call263 rfl (Jh hs hl BP) ?_))))));rintro _ w hs;exact .nil (Fin.zG results207 hs.out)
theorem BJ{w:World}(hs:St H w σ):aaq 295 [.slice none 0 0,I 0,I 0,.func (.func 208) #[] #[]] w fun _ w'=>St H w' σ:=by
 refine Cl.o func295 ntmps295 ag4 ?_;refine .af (.z zm (.z cC (.zn zg (.block (.loop (fun _:Unit=>⟨53,[],[(8,I (0+1)),(2,I 0)]⟩) (fun _ w=>St H w σ) (fun _=>0) () bg hs.sb ?_)))));rintro _ w hs;refine .seq (.af (.z zm (.z zm (.z fT ?_))));rw [decide_eq_false ak];exact .nil (.cF (.exit (xT (xT (xB (Fin.zG results295 hs.out))))))
theorem Hl{w:World}(hs:St H w σ):aaq 263 [.slice none 0 0,I 0,.func (.func 208) #[] #[]] w fun _ w'=>St H w' σ:=by
 refine Cl.o func263 ntmps263 ag3 ?_;refine .af (.zn zg (.af (.z zm (.z zg (.zn zg (.seq (.block (.loop (fun _:Unit=>⟨63,[],[(8,I 20),(7,I 0),(6,I 20),(2,.func (.func 208) #[] #[]),(1,I 0),(0,.slice none 0 0)]⟩) (fun _ w=>St H w σ) (fun _=>0) () bg hs.sb ?_))))))));rintro _ w hs;refine .seq (.af (.z zm (.z zm (.z ql ?_))));rw [decide_eq_false ak];refine .nil (.cF (.exit (xT (xT (xB (nT (.af (.z zm (.z zm (.z zm (.z zm (.o (.call call295 rfl (BJ hs) ?_)))))))))))));rintro _ w hs;refine .nil (.block (.loop (fun _:Unit=>⟨63,[],[(6,I 20),(1,I 0)]⟩) (fun _ w=>St H w σ) (fun _=>0) () bg hs.sb ?_));rintro _ w hs;refine .seq (.af (.z zm (.z zm (.z fT ?_))));rw [decide_eq_false ak];exact .nil (.cF (.exit (xT (xT (xB (Fin.zG results263 hs.out))))))
theorem zM{w:World}(hs:St H w σ):aaq 207 [.slice none 0 0,.func (.func 208) #[] #[]] w fun _ w'=>St H w' σ:=by
 refine Cl.o func207 ntmps207 ag2 ?_;refine .region (.z zm (.z zm (.z (bT aD) (.z zm (.o (.call call263 rfl (Hl hs) ?_))))));rintro _ w hs;exact .nil (Fin.zG results207 hs.out)
end Go.Proofs.YtfnfiekkdpphjaaGreat
