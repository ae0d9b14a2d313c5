/-
  Texts of these claims, joined: Rb Mzt Rc.
-/
import Derived.Test.YteajddicacjkhaaGreatFe
namespace Go.Proofs.YteajddicacjkhaaGreat
open Go.MW
set_option maxHeartbeats 4000000 in
theorem qJ{W:World}{H:bM}{vs v5 v4 vp:Value}{sl pk:List Int}{fs5:List F5}{fs4:List F4}{z1 z2 z3 wt x y:Int}{m:Rng}(hs:St H W [])(g1:RI H vs sl)(g2:RF5 H v5 fs5)(g3:RF4 H v4 fs4)(g4:RI H vp pk):
  Cl Tryz.prog 12 [.agg #[vs,v5,v4,vp,I z1,I z2,I z3],.agg #[I wt,I m.lo,I m.hi,I x,I y]] W fun v w'=>v= .bool true∧∃H',HLe H H'∧St H' w' []:=by
 refine Cl.o Tryz.func12 Tryz.ntmps12 ag2 ?_
 refine .aj (.bx hs fun b2 w hs=>?_)
 refine .bx hs fun b3 w hs=>?_
 refine .zn zg (.aj (.o (.call Tryz.call18 rfl (oI hs) ?_)));rintro _ w ⟨rfl,H1,hle1,hs⟩
 refine .zn zg (.aj (.y hs (zls [_,_,_,_,_,_,_] Tryz.isAgg39 Tryz.sizeOf39) (.o (.call Tryz.call55 rfl (sM hs (g1.mono hle1) (g2.mono hle1) (g3.mono hle1) (g4.mono hle1)) ?_))));rintro _ w ⟨H2,s,a,b,c,d,hle2,rfl,r1,r2,r3,r4,hSpl,hs⟩
 have g:SvM H2 s a b c d:=⟨r1,r2,r3,r4⟩
 have hle02:=hle1.trans hle2
 clear r1 r2 r3 r4
 obtain ⟨aa,ca,rfl⟩:=RI.shape g.st
 obtain ⟨ab,cb,rfl⟩:=RI.shape g.wa
 obtain ⟨ac,cc,rfl⟩:=RRd.shape g.rd
 obtain ⟨ad,cd,rfl⟩:=RCm.shape g.cm
 refine .o (.alloc hs eG rfl fun b6 w hs=>?_)
 refine .o (.aO (vs:=[_,_,_,_,_,_,_,_]) hs rfl rfl aB fun w hs=>?_)
 refine .nil (.aj (.y hs (zls [_,_,_,_,_,_,_,_] aI aB) (.o (.call Tryz.call56 rfl (wh (s:=s) hs g) ?_))));rintro _ w ⟨H3,v1,l1,e1,hle3,rfl,hR1,h1,hs⟩
 replace g:=g.mono hle3
 have hle03:=hle02.trans hle3
 refine .z zm (.z zex (.z zex (.z zg (.zn zg (.aj (.y hs (zls [_,_,_,_,_,_,_,_] aI aB) (.o (.call Tryz.call57 rfl (nq (s:=s) hs g) ?_))))))));rintro _ w ⟨H4,v2,l2,e2,hle4,rfl,hR2,h2,hs⟩
 obtain ⟨rfl,rfl⟩:=h1.uniq h2
 replace g:=g.mono hle4
 replace hR1:=hR1.mono hle4
 have hle04:=hle03.trans hle4
 obtain ⟨a1,c1,rfl⟩:=hR1.shape
 obtain ⟨a2,c2,rfl⟩:=hR2.shape
 have hl:=hR1.len
 refine .z zm (.z zex (.z zex (.z zg (.zn zg (.aj (.z zm (.z (cJ ck) (.z zm (.z (cJ ck) (.z gw ?_))))))))))
 rw [decide_eq_true rfl]
 refine .zn zg (.seq (.aj (.zn zg (.block ?_))))
 refine .loop (fun k:Nat=>⟨122,[],[(12,I (k:Int)),(11,.bool true),(7,.slice a1 l1.length c1),(9,.slice a2 l1.length c2),(5,.bool true),(8,I e1),(10,I e1),(6,Pt b6),(3,Pt b3)]⟩)
  (fun k w=>k≤l1.length∧St H4 w [.blk b6 (svC s (.slice aa s.sp.st.length ca) (.slice ab s.sp.wa.length cb) (.slice ac s.rs.length cc) (.slice ad s.cs.length cd)),.blk b3 [I wt,I m.lo,I m.hi,I x,I y]]) (fun k=>l1.length - k) 0 aR
  ⟨Nat.zero_le _,hs.sb⟩ ?_
 rintro k w ⟨hk,hs⟩
 refine .seq (.aj (.z zm (.z zm (.z (cJ ck) (.z fi (.z zm (.fF (t':=43) rfl (fun hb43=>?_) (fun hb43=>?_))))))))
 ·refine .T (.z zm (.zn zpT (.cT (.skip (nT (.seq (.block (.draw mix rfl hs fun w hs=>?_))))))))
  have hkl:k<l1.length:=by omega
  obtain ⟨q,hx⟩:=nth hkl
  refine .zw 0 rfl zm ?_;refine .z 1 rfl zm ?_
  refine .ixX (enc:=Rng.c) (i:=2) hs rfl aD .none hR1 rfl rfl ck an hx rfl ?_;intro b50 o50 hc50
  refine .r (i:=3) hs rfl aD .none (bO (vs:=q.c) rfl aC an hc50) ?_
  refine .zw 4 rfl zm ?_;refine .z 5 rfl zm ?_
  refine .ixX (enc:=Rng.c) (i:=6) hs rfl aD .none hR2 rfl rfl ck an hx rfl ?_;intro b54 o54 hc54
  refine .r (i:=7) hs rfl aD .none (bO (vs:=q.c) rfl aC an hc54) ?_
  refine .z 8 rfl (tC pn po jh (fun f hf=>by
   simp only [List.mem_cons,List.not_mem_nil,or_false] at hf
   rcases hf with rfl|rfl<;>exact ⟨by decide,bj,af⟩) rfl rfl) ?_
  rw [decide_eq_true ⟨rfl,rfl⟩]
  refine .zw 9 rfl zg ?_;refine .D hs ?_
  refine nB (nT (.region (.z zm (.z cn (.zn zg (nT ?_))))))
  exact ⟨k+1,.bT rfl bJ aR,⟨ak,hs⟩,ak⟩
 ·refine .Fs 1 4 true (.zn zpF (.cF (.exit (xT (xT (xB (nT (.aj (.y hs (zls [_,_,_,_,_,_,_,_] aI aB) (.z (zfa ke) (.y hs (zld af) (.z (zfa eh) (.y hs (zls [_,_] aC an) (.o (.call Tryz.call58 rfl (jG (s:=s) (x:=x) (y:=y) hs g) ?_)))))))))))))));rintro _ w ⟨H5,lo5,hi5,e5,hle5,rfl,h5,hs⟩
  replace g:=g.mono hle5
  have hle05:=hle04.trans hle5
  refine .z zm (.z zex (.z zex (.o (.alloc hs aW rfl fun b13 w hs=>?_))))
  refine .o (.aO (vs:=[_,_]) hs rfl rfl an fun w hs=>?_)
  refine .zn zg (.aj (.y hs (zls [_,_,_,_,_,_,_,_] aI aB) (.z (zfa ke) (.y hs (zld af) (.z (zfa eh) (.y hs (zls [_,_] aC an) (.o (.call Tryz.call59 rfl (mX (s:=s) (x:=x) (y:=y) hs g) ?_))))))));rintro _ w ⟨H6,lo6,hi6,e6,hle6,rfl,h6,hs⟩
  obtain ⟨rfl,rfl,rfl⟩:=h5.uniq h6
  replace g:=g.mono hle6
  have hle06:=hle05.trans hle6
  refine .z zm (.z zex (.z zex (.o (.alloc hs aW rfl fun b15 w hs=>?_))))
  refine .o (.aO (vs:=[_,_]) hs rfl rfl an fun w hs=>?_)
  refine .zn zg (.aj (.y hs (zls [_,_,_,_,_,_,_,_] aI aB) (.z (zfa fT) (.y hs (zls [_,_] aC an) (.z (zfa eh) (.y hs (zls [_,_] aC an) (.o (.call Tryz.call49 rfl (mL (s:=s) (m:=m) (x:=x) (y:=y) hs g) ?_))))))));rintro _ w ⟨H7,lo7,hi7,e7,hle7,rfl,h7,hs⟩
  replace g:=g.mono hle7
  have hle07:=hle06.trans hle7
  refine .z zm (.z zex (.z zex (.o (.alloc hs aW rfl fun b17 w hs=>?_))))
  refine .o (.aO (vs:=[_,_]) hs rfl rfl an fun w hs=>?_)
  refine .zn zg (.aj (.y hs (zls [_,_,_,_,_,_,_,_] aI aB) (.z (zfa fT) (.y hs (zls [_,_] aC an) (.z (zfa eh) (.y hs (zls [_,_] aC an) (.o (.call Tryz.call60 rfl (rf (s:=s) (m:=m) (x:=x) (y:=y) hs g) ?_))))))));rintro _ w ⟨H8,lo8,hi8,e8,hle8,rfl,h8,hs⟩
  obtain ⟨rfl,rfl,rfl⟩:=h7.uniq h8
  have hle08:=hle07.trans hle8
  refine .z zm (.z zex (.z zex (.o (.alloc hs aW rfl fun b19 w hs=>?_))))
  refine .o (.aO (vs:=[_,_]) hs rfl rfl an fun w hs=>?_)
  refine .zn zg (.aj (.z zm (.z zm (.T (.z zm (.z zpT (.z zm (.T (.z zm (.T (.z zm (.T (.z gw ?_)))))))))))))
  rw [decide_eq_true rfl]
  refine .z zpT (.z zm (.T (.y hs (zls [_,_] aC an) (.T (.y hs (zls [_,_] aC an) (.T ?_))))))
  refine .q hs (tC pn po jh (fun f hf=>by
   simp only [List.mem_cons,List.not_mem_nil,or_false] at hf
   rcases hf with rfl|rfl<;>exact ⟨by decide,bj,af⟩) rfl rfl) ?_
  rw [decide_eq_true ⟨rfl,rfl⟩]
  refine .z zpT (.z zm (.T (.z zm (.T (.z zm (.T (.z gw ?_)))))))
  rw [decide_eq_true rfl]
  refine .z zpT (.z zm (.T (.y hs (zls [_,_] aC an) (.T (.y hs (zls [_,_] aC an) (.T ?_))))))
  refine .q hs (tC pn po jh (fun f hf=>by
   simp only [List.mem_cons,List.not_mem_nil,or_false] at hf
   rcases hf with rfl|rfl<;>exact ⟨by decide,bj,af⟩) rfl rfl) ?_
  rw [decide_eq_true ⟨rfl,rfl⟩]
  refine .z zpT (.z zm (.T (.z zm (.T (.z zm (.T (.z gw ?_)))))))
  rw [decide_eq_true rfl]
  refine .z zpT (.zn zg (.ret (Fin.bu Tryz.results12 rfl ?_)))
  exact ⟨rfl,H8,hle08,hs.out⟩
theorem Ak{f:Nat→Bool}:∀{n:Nat},0≤dw f n→∃k:Nat,dw f n=(k:Int)∧k<n∧f k=true
 |0,h=>by simp [dw] at h
 |n+1,h=>by
  simp only [dw] at h ⊢
  by_cases e:dw f n<0∧f n=true
  ·rw [if_pos e];exact ⟨n,rfl,ak,e.2⟩
  ·rw [if_neg e] at h ⊢
   obtain ⟨k,h1,h2,h3⟩:=Ak h
   exact ⟨k,h1,ak,h3⟩
theorem Aj{f:Nat→Bool}:∀{n k:Nat},k<n→f k=true→0≤dw f n∧dw f n≤(k:Int)
 |n+1,k,hk,hf=>by
  simp only [dw]
  by_cases e:k=n
  ·subst e
   by_cases h:dw f k<0
   ·rw [if_pos ⟨h,hf⟩];omega
   ·rw [if_neg fun g=>h g.1]
    have:=mQ f k;omega
  ·have h:=Aj (n:=n) ak hf
   rw [if_neg fun g=>by omega];exact h
theorem wz{n n' d:Int}(h:n≤n')(hd:0≤d):fb n d≤fb n' d:=Int.ediv_le_ediv fA (Int.mul_le_mul_of_nonneg_right h hd)
theorem tE{n d x y:Int}(h1:x≤d)(h2:d≤y):min (fb n x) (fb n y)≤fb n d∧fb n d≤max (fb n x) (fb n y):=by
 unfold fb
 rcases Int.le_total 0 n with h|h
 ·have a1:n*x/1000≤n*d/1000:=Int.ediv_le_ediv fA (Int.mul_le_mul_of_nonneg_left h1 h)
  have a2:n*d/1000≤n*y/1000:=Int.ediv_le_ediv fA (Int.mul_le_mul_of_nonneg_left h2 h)
  omega
 ·have a1:n*d/1000≤n*x/1000:=Int.ediv_le_ediv fA (Int.mul_le_mul_of_nonpos_left h h1)
  have a2:n*y/1000≤n*d/1000:=Int.ediv_le_ediv fA (Int.mul_le_mul_of_nonpos_left h h2)
  omega
theorem G4{a b n d x y:Int}(h1:a≤n)(h2:n≤b)(h3:x≤d)(h4:d≤y)(h0:0≤x):dJ a x y≤fb n d∧fb n d≤dK b x y:=by
 have e1:=wz (n:=a) (n':=n) (d:=d) h1 ak
 have e2:=wz (n:=n) (n':=b) (d:=d) h2 ak
 have e3:=(tE (n:=a) h3 h4).1
 have e4:=(tE (n:=b) h3 h4).2
 unfold dJ dK
 omega
def sD(s:Srv)(y:List Int)(k:Nat):Int:=if k=0 then 0 else fJ s.sp ⟨1,0,k⟩ (jZ s.sp y s.sp.st.length) s.sp.many/ma ⟨1,0,k⟩
theorem G1{s:Srv}{y:List Int}(hok:dq s)(hK:kN s y){k:Nat}(hk:k<s.sp.wa.length):HlR s (jZ s.sp y s.sp.st.length) k (sD s y k):=by
 unfold sD
 by_cases e:k=0
 ·rw [if_pos e];exact .zero e
 ·rw [if_neg e];exact .up ak (xL hok hK (yA ak hk))
theorem C6{s:Srv}{y:List Int}(hok:dq s)(hK:kN s y){k:Nat}{a b:Int}(h:uZ s k a b 0):a≤sD s y k∧sD s y k≤b:=by
 unfold sD
 generalize h0:(0:Int)=e0 at h
 cases h with
 |up h g=>
  subst h0
  rw [if_neg ak]
  exact F2 hok hK g
 |fls=>omega
 |zero h=>rw [if_pos h];exact ⟨Int.le_refl _,Int.le_refl _⟩
theorem zx{s:Srv}{y:List Int}(hok:dq s)(hK:kN s y){k:Nat}{x z a b d:Int}(hd:ea x z)(h:iS s k x z a b 0)(h1:x≤d)(h2:d≤z):a≤fb (sD s y k) d∧fb (sD s y k) d≤b:=by
 unfold ea at hd
 generalize h0:(0:Int)=e0 at h
 cases h with
 |fls h g=>exact (g h0.symm).elim
 |ok h=>
  have:=C6 hok hK h
  exact G4 this.1 this.2 h1 h2 ak
theorem G2{s:Srv}{y:List Int}(hok:dq s)(hK:kN s y){k:Nat}{x z a b:Int}(h:iS s k x z a b 0): -200000000≤sD s y k∧sD s y k≤200000000:=by
 generalize h0:(0:Int)=e0 at h
 cases h with
 |fls h g=>exact (g h0.symm).elim
 |ok h=>
  have h1:=C6 hok hK h
  have h2:=h.bd
  omega
theorem Gc{s:Srv}{y:List Int}{m:Rng}{x z lo hi e:Int}(h:CZ s m x z lo hi e)(hok:dq s)(hK:kN s y):
  (e=3∨e=63∨e=64)∨(e=0∧fI m.lo m.hi∧ea x z∧(∀k<s.sp.wa.length,-200000000≤sD s y k∧sD s y k≤200000000)∧
   ∀m1 d,m.lo≤m1→m1≤m.hi→x≤d→d≤z→∃q:Nat,hi=(q:Int)∧q<s.sp.wa.length∧m1≤fb (sD s y q) d∧∀k<s.sp.wa.length,m1≤fb (sD s y k) d→lo≤(k:Int)):=by
 have hsd:=CF hok hK
 cases h with
 |bad h he=>exact (he (h.cz.2 hok)).elim
 |qB=>exact .inl ak
 |dense=>exact .inl ak
 |fls _ _ _ h=>exact (h hsd).elim
 |none=>exact .inl ak
 | @ok dd uu _ hm hdn _ h4 h5 h6=>
  refine .inr ⟨rfl,hm,hdn,fun k hk=>G2 hok hK (h4 k hk),fun m1 d a1 a2 a3 a4=>?_⟩
  obtain ⟨q,q1,q2,q3⟩:=Ak (Int.not_lt.1 h6)
  refine ⟨q,q1,q2,?_,fun k hk g=>?_⟩
  ·have:=(zx hok hK hdn (h4 q q2) a3 a4).1
   have:=of_decide_eq_true q3
   omega
  ·have:=(zx hok hK hdn (h4 k hk) a3 a4).2
   exact (Aj hk (decide_eq_true ak)).2
end Go.Proofs.YteajddicacjkhaaGreat
namespace Go.Proofs.YteajddicacjkhaaGreat
open Go.MW
variable{H:bM}{w:World}{σ:List Ent}
theorem s5{s:Srv}{k:Nat}{vst vwa vh:Value}{rows:List (List Int)}(hs:St H w σ)(h1:RI H vst s.sp.st)(h2:RI H vwa s.sp.wa)(hr:RT H vh rows):
  Cl Tryz.prog 51 [spA s.sp vst vwa,.agg #[vh],I (k:Int)] w fun u w'=>∃H1 n e,HLe H H1∧u= .tuple #[I n,I e]∧((e=0∧HlR s rows k n)∨(e≠0∧0<k∧sh s.sp rows ⟨1,0,k⟩ n e))∧St H1 w' σ:=by
 obtain ⟨ah,ch,rfl⟩:=hr.shape
 refine Cl.o Tryz.func51 Tryz.ntmps51 ag3 ?_
 refine .aj (.bx hs fun b3 w hs=>?_)
 refine .bx hs fun b4 w hs=>?_
 refine .z zg (.zn zg (.seq (.aj (.z zm (.zn gw (.bw rfl (fun hc9=>?_) (fun hc9=>?_)))))))
 ·refine .aj (.z zg (.zn zg (.ret (rT (Fin.iO Tryz.results51 rfl rfl ?_)))))
  exact ⟨H,_,_,HLe.refl _,rfl,.inl ⟨rfl,.zero ak⟩,hs.out⟩
 ·refine .skip (nT (.aj (.y hs (zls [_,_,_,_,_,_] aV aJ) (.y hs (zls [_] p5 gH) (.z zm (.z (zbd [I 1,I 0,I (k:Int)] oZ) (.o (.call Tryz.call64 rfl (lY (s:=s.sp) (q:=⟨1,0,k⟩) hs h1 h2 hr) ?_))))))));rintro _ w ⟨H1,n,e,hle1,rfl,hQ,hs⟩
  refine .z zex (.z zex (.z zg (.zn zg (.ret (Fin.iO Tryz.results51 rfl rfl ?_)))))
  exact ⟨H1,_,_,hle1,rfl,by
   by_cases h:e=0
   ·subst h;exact .inl ⟨rfl,.up ak hQ⟩
   ·exact .inr ⟨h,ak,hQ⟩,hs.out⟩
theorem qd{m:Rng}{n:Int}(hs:St H w σ)(hm:0≤m.lo∧m.lo≤m.hi∧m.hi≤1000000000000):
  Cl Tryz.prog 50 [.agg #[I m.lo,I m.hi],I n] w fun u w'=>∃z,u=I z∧(m.lo≤z∧z≤m.hi)∧St H w' σ:=by
 have hb:=Hn n (m:=m.hi - m.lo+1) ak
 refine Cl.o Tryz.func50 Tryz.ntmps50 ag2 ?_
 refine .aj (.bx hs fun b2 w hs=>?_)
 refine .zn zg (.seq (.draw mix rfl hs fun w hs=>?_))
 refine .zw 0 rfl (zfa aQ) ?_;refine .y 1 rfl hs af ?_;refine .z 2 rfl zm ?_;refine .z 3 rfl (zfa aN) ?_;refine .y 4 rfl hs af ?_;refine .z 5 rfl (zfa aQ) ?_;refine .y 6 rfl hs af ?_;refine .z 7 rfl gz ?_;refine .z 8 rfl cn ?_
 refine .E 9 hs ?_
 refine .call Tryz.call36 rfl (w6 hs ak) ?_;rintro _ w ⟨rfl,hs⟩
 refine .go (.zw 10 rfl cn ?_);refine .z 11 rfl zg ?_;refine .D hs ?_
 refine .ret (Fin.bu Tryz.results50 rfl ?_)
 exact ⟨_,rfl,ak,hs.out⟩
set_option maxHeartbeats 1000000 in
theorem oH{W:World}{H:bM}{vs v5 v4 vp:Value}{sl pk:List Int}{fs5:List F5}{fs4:List F4}{z1 z2 z3 wt x y n1 n2:Int}{m:Rng}(hs:St H W [])(g1:RI H vs sl)(g2:RF5 H v5 fs5)(g3:RF4 H v4 fs4)(g4:RI H vp pk):
  Cl Tryz.prog 10 [.agg #[vs,v5,v4,vp,I z1,I z2,I z3],.agg #[I wt,I m.lo,I m.hi,I x,I y],.agg #[I n1,I n2]] W fun v w'=>v= .bool true∧∃H',HLe H H'∧St H' w' []:=by
 refine Cl.o Tryz.func10 Tryz.ntmps10 ag3 ?_
 refine .aj (.bx hs fun b3 w hs=>?_)
 refine .bx hs fun b4 w hs=>?_
 refine .bx hs fun b5 w hs=>?_
 refine .zn zg (.aj (.o (.call Tryz.call18 rfl (oI hs) ?_)));rintro _ w ⟨rfl,H1,hle1,hs⟩
 refine .zn zg (.aj (.y hs (zls [_,_,_,_,_,_,_] Tryz.isAgg39 Tryz.sizeOf39) (.o (.call Tryz.call31 rfl (w9 hs (g1.mono hle1) (g2.mono hle1) (g3.mono hle1) (g4.mono hle1)) ?_))));rintro _ w ⟨H2,s,yy,a,b,c,d,vy,hle2,rfl,hM,hK,r1,r2,r3,r4,hY,hs⟩
 have g:SvM H2 s a b c d:=⟨r1,r2,r3,r4⟩
 have hle02:=hle1.trans hle2
 clear r1 r2 r3 r4
 obtain ⟨aa,ca,rfl⟩:=RI.shape g.st
 obtain ⟨ab,cb,rfl⟩:=RI.shape g.wa
 obtain ⟨ac,cc,rfl⟩:=RRd.shape g.rd
 obtain ⟨ad,cd,rfl⟩:=RCm.shape g.cm
 obtain ⟨ay,cy,rfl⟩:=RI.shape hY
 have hok:=hM.ok
 have hsm:=dN hok.early.1
 refine .z zm (.z zex (.z zex (.o (.alloc hs eG rfl fun b8 w hs=>?_))))
 refine .o (.aO (vs:=[_,_,_,_,_,_,_,_]) hs rfl rfl aB fun w hs=>?_)
 refine .zn zg (.aj (.y hs (zls [_,_,_,_,_,_,_,_] aI aB) (.z (zfa fT) (.y hs (zls [_,_] aC an) (.z (zfa eh) (.y hs (zls [_,_] aC an) (.o (.call Tryz.call49 rfl (mL (s:=s) (m:=m) (x:=x) (y:=y) hs g) ?_))))))));rintro _ w ⟨H3,lo,hi,e,hle3,rfl,hD,hs⟩
 replace g:=g.mono hle3
 replace hY:=RI.mono hY hle3
 have hle03:=hle02.trans hle3
 have hD:=Gc hD hok hK
 refine .z zm (.z zex (.z zex (.o (.alloc hs aW rfl fun b10 w hs=>?_))))
 refine .o (.aO (vs:=[_,_]) hs rfl rfl an fun w hs=>?_)
 refine .zn zg (.seq (.aj (.z zm (.zn gv (.dP rfl (fun hc34=>?_) (fun hc34=>?_))))))
 ·refine .aj (.z zm (.z zm (.T (.z zm (.T (.z gw (.T (.z zm (.fF (t':=39) rfl (fun hb39=>?_) (fun hb39=>?_))))))))))
  ·refine .Fs 2 4 false (.T (.z zpT (.T (.z zm (.Fs 2 8 false (.T (.z zpT (.z zpT (.zn zg (.ret (rT (Fin.bu xu rfl ?_))))))))))))
   exact ⟨by first|rfl|(exfalso;omega)|(simp_all;done)|(simp_all;omega),_,by assumption,hs.out⟩
  ·refine .T (.z zm (.T (.z gw (.T (.z zpF (.T (.z zm (.fF (t':=43) rfl (fun hb43=>?_) (fun hb43=>?_)))))))))
   ·refine .Fs 2 8 false (.T (.z zpT (.z zpT (.zn zg (.ret (rT (Fin.bu xu rfl ?_)))))))
    exact ⟨by first|rfl|(exfalso;omega)|(simp_all;done)|(simp_all;omega),_,by assumption,hs.out⟩
   ·refine .T (.z zm (.T (.z gw (.T (.z zpF (.z zpT (.zn zg (.ret (rT (Fin.bu xu rfl ?_))))))))))
    exact ⟨by first|rfl|(exfalso;omega)|(simp_all;done)|(simp_all;omega),_,by assumption,hs.out⟩
 ·refine .skip (nT ?_)
  obtain ⟨rfl,hm,hdn,hbd,hT⟩:=hD.resolve_left fun h=>by omega
  refine .aj (.z (zfa aT) (.y hs (zls [_,_,_,_,_,_] aV aJ) (.z zm (.o (.call Tryz.call34 rfl (w7 (s:=s.sp) hs g.st g.wa hY ak ak (by have:=hK.bd.1;omega)) ?_)))));rintro _ w ⟨H4,vh,hle4,rfl,hRT,hs⟩
  replace g:=g.mono hle4
  have hle04:=hle03.trans hle4
  obtain ⟨ah,ch,rfl⟩:=hRT.shape
  unfold fI at hm
  unfold ea at hdn
  refine .o (.alloc hs Tryz.zeroValue64 rfl fun b12 w hs=>?_)
  refine .o (.aO (vs:=[_]) hs rfl rfl gH fun w hs=>?_)
  refine .nil (.aj (.z (zfa fT) (.y hs (zls [_,_] aC an) (.z (zia 0 tq ai) (.y hs (zld af) (.o (.call Tryz.call50 rfl (qd (m:=m) hs ak) ?_)))))));rintro _ w ⟨m1,rfl,hm1,hs⟩
  refine .zn zg (.aj (.z (zfa eh) (.y hs (zls [_,_] aC an) (.z (zia 1 tq ai) (.y hs (zld af) (.o (.call Tryz.call50 rfl (qd (m:=⟨x,y⟩) hs (by dsimp only;omega)) ?_)))))));rintro _ w ⟨d1,rfl,hd1,hs⟩
  dsimp only at hd1
  obtain ⟨q,rfl,hq,hqf,hqk⟩:=hT m1 d1 hm1.1 hm1.2 hd1.1 hd1.2
  refine .zn zg (.seq (.aj (.zn zg (.block ?_))))
  refine .loop (fun p:Nat×bM=>⟨98,[],[(15,I (p.1:Int)),(14,I d1),(13,I m1),(12,Pt b12),(10,Pt b10),(8,Pt b8),(7,.bool true)]⟩)
   (fun p w=>p.1≤q∧HLe H4 p.2∧St p.2 w [.blk b12 [.slice ah (jZ s.sp yy s.sp.st.length).length ch],.blk b10 [I lo,I (q:Int)],.blk b8 (svC s (.slice aa s.sp.st.length ca) (.slice ab s.sp.wa.length cb) (.slice ac s.rs.length cc) (.slice ad s.cs.length cd))]) (fun p=>s.sp.wa.length - p.1) (0,H4) aR
   ⟨Nat.zero_le _,HLe.refl _,hs.sb⟩ ?_
  rintro ⟨k,H5⟩ w ⟨hk,hle5,hs⟩
  dsimp only at hk hle5 hs ⊢
  have hle05:=hle04.trans hle5
  have hkw:k<s.sp.wa.length:=by omega
  have htl:=G1 hok hK hkw
  have hbk:=hbd k hkw
  have hqk:=hqk k hkw
  refine .seq (.aj (.z zm (.z (zfa aT) (.z (zfa aU) (.y hs (zld aq) (.z (cJ ae) (.zn fi (.bw rfl (fun hc67=>?_) (fun hc67=>?_)))))))))
  ·refine .skip (nT (.seq (.block (.aj (.z (zfa aT) (.y hs (zls [_,_,_,_,_,_] aV aJ) (.y hs (zls [_] p5 gH) (.z zm (.o (.call Tryz.call51 rfl (s5 (s:=s) (k:=k) hs (g.mono hle5).st (g.mono hle5).wa (hRT.mono hle5)) ?_))))))))));rintro _ w ⟨H6,tl,e6,hle6,rfl,hLi,hs⟩
   obtain ⟨rfl,hHl⟩:e6=0∧HlR s (jZ s.sp yy s.sp.st.length) k tl:=by
    rcases hLi with h|⟨h1,h2,h3⟩
    ·exact h
    ·exact (h1 (h3.uniq (xL hok hK (yA h2 hkw))).2).elim
   obtain rfl:=hHl.uniq htl
   have hle56:=hle5.trans hle6
   have hle06:=hle04.trans hle56
   refine .z zm (.z zex (.z zex (.z zg (.zn zg (.seq (.aj (.z zm (.z gv ?_))))))))
   rw [decide_eq_true rfl]
   refine .nil (.cF (.skip (nT (.aj (.z zm (.z zm (.o (.call Tryz.call52 rfl (gD hs ak ak) ?_))))))));rintro _ w ⟨rfl,hs⟩
   refine .z zm (.zn nY (.bw rfl (fun hc84=>?_) (fun hc84=>?_)))
   ·refine .aj (.z zm (.z zm (.T (.z (zfa aQ) (.T (.y hs (zld af) (.T (.z zm (.T (.z pc (.z zpT (.z zm (.fF (t':=92) rfl (fun hb92=>?_) (fun hb92=>?_))))))))))))))
    ·refine .T (.z zm (.T (.z (zfa aN) (.T (.y hs (zld af) (.T (.z pc (.z zpT (.zn zg (.ret (rB (rT (rT (rB (rT (Fin.bu xu rfl ?_))))))))))))))))
     exact ⟨by first|rfl|(exfalso;omega)|(simp_all;done)|(simp_all;omega),_,by assumption,hs.out⟩
    ·refine .Fs 4 7 true (.z zpF (.zn zg (.ret (rB (rT (rT (rB (rT (Fin.bu xu rfl ?_)))))))))
     exact ⟨by first|rfl|(exfalso;omega)|(simp_all;done)|(simp_all;omega),_,by assumption,hs.out⟩
   ·refine .skip (nB (nT (.region (.z zm (.z cn (.zn zg (nT ?_)))))))
    have hne:k≠q:=fun h=>by subst h;omega
    exact ⟨(k+1,H6),.bT rfl bJ aR,⟨by dsimp only;omega,hle56,hs.sb⟩,by dsimp only;omega⟩
  ·refine .exit (xT (xT (xB (nT (.aj (.zn zg (.ret (Fin.bu xu rfl ?_))))))))
   exact ⟨by first|rfl|(exfalso;omega)|(simp_all;done)|(simp_all;omega),_,by assumption,hs.out⟩
end Go.Proofs.YteajddicacjkhaaGreat
