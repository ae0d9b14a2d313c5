/-
  Texts of these claims, joined: Zn Zo Zp Zq Zr Zs Zt Zv Zw Zx Zy Zz Na Nb Nh Ni No Nq Ns Nt Nu.
-/
import Derived.Test.YtddaejgfjlneoaaGreatGd
namespace Go.Proofs.YtddaejgfjlneoaaGreat
open Go.MW
variable{H:bX}{w:World}{σ:List Ent}
theorem je{a d:Int}(hs:St H w σ)(hd:1≤d)(ha: -4608000000000000000≤a∧a≤4608000000000000000):
  Cl Tryz.prog 86 [I a,I d] w fun v w'=>v=I (a/d)∧St H w' σ:=by
 have hq: -4608000000000000000≤a.tdiv d∧a.tdiv d≤4608000000000000000:=by
  have h1:=so (n:=a) (d:=d) ak
  have h2:a/d≤4608000000000000000:=Int.ediv_le_of_le_mul ak (by
   have:=Int.mul_le_mul_of_nonneg_left hd (show (0:Int)≤4608000000000000000 by omega);omega)
  have h3: -4608000000000000000≤a/d:=Int.le_ediv_of_mul_le ak (by
   have:=Int.mul_le_mul_of_nonneg_left hd (show (0:Int)≤4608000000000000000 by omega);omega)
  by_cases h0:0≤a
  ·rw [Int.tdiv_eq_ediv_of_nonneg h0];omega
  ·split at h1
   ·have:a/d<0:=Int.ediv_neg_of_neg_of_pos ak ak
    omega
   ·omega
 have hfl:=so (n:=a) (d:=d) ak
 refine Cl.o Tryz.func86 Tryz.ntmps86 ag2 ?_
 refine .aj (.z zg (.nil (.aj (.z zm (.z zm ?_)))))
 refine .q hs (te rfl rfl ak ⟨ak,ak⟩) ?_
 refine .z zg (.nil (.seq (.aj (.z zm (.z zm (.z BQ (.z fH (.nil ?_))))))))
 refine (.bB rfl (fun hc12=>?_) (fun hc12=>?_))
 ·refine .region (.z zm (.z gL (.z zg (.nil ?_))))
  refine nT ?_
  refine .aj (.z zm (.z zg (.nil ?_)))
  refine .ret (Fin.bH Tryz.results86 rfl ?_)
  rw [if_pos hc12] at hfl
  exact ⟨by rw [hfl],hs⟩
 ·refine .skip ?_
  refine nT ?_
  refine .aj (.z zm (.z zg (.nil ?_)))
  refine .ret (Fin.bH Tryz.results86 rfl ?_)
  rw [if_neg hc12,Int.sub_zero] at hfl
  exact ⟨by rw [hfl],hs⟩
theorem oU{s:Srv}{vst vwa vr vc:Value}(hs:St H w σ)(h1:RI H vst s.sp.st)(h2:RI H vwa s.sp.wa)(h3:RRd H vr s.rs)(h4:RCm H vc s.cs)(hok:eh s):
  Cl Tryz.prog 169 [.agg #[I s.sp.id,I s.sp.src,vst,vwa,I s.sp.al,I s.sp.up,vr,vc]] w fun u w'=>∃H1,∃b:Bool,HLe H H1∧u= .bool b∧(b=true↔s.sys.Sound)∧St H1 w' σ:=by
 refine Cl.o Tryz.func169 Tryz.ntmps169 ag1 ?_
 refine .aj ?_
 refine .bx hs fun b1 w hs=>?_
 refine .z zg (.nil (.aj (.y hs (zls [_,_,_,_,_,_,_,_] aP aE) ?_)))
 refine .o (.call wx rfl (ew (s:=s) hs h1 h2 h3 h4 hok.early) ?_);rintro v7 w ⟨H1,hle1,hS,hs⟩
 refine .o (.call Tryz.call51 rfl (jQ (s:=s.sys) hs hS) ?_);rintro _ w ⟨H2,vx,xs,e,hle2,rfl,rx,hC,hs⟩
 obtain ⟨ax,cx,rfl⟩:=RI.shape rx
 have hchk:s.sys.check=0:=s.sys.cu.2 hok.sys
 obtain rfl:e=0:=by
  cases hC with
  |bad h=>exact (h hchk).elim
  |sound=>rfl
  |chain=>rfl
 have hiff:=hC.sP
 refine .z zm (.z zex (.z zex (.z zg (.z zg (.nil (.aj (.z zm (.z fo (.z zm ?_)))))))))
 refine .iD (t':=13) rfl (fun hb13=>?_) (fun hb13=>?_)
 ·refine .gT rfl rfl ?_
  refine .z zm ?_
  refine .gT rfl rfl ?_
  refine .z (cB ae) ?_
  refine .gT rfl rfl ?_
  refine .z fo (.z zpT (.z zg (.nil ?_)))
  refine .ret (Fin.bH Tryz.results169 rfl ?_)
  first
  |exact ⟨H2,_,hle1.trans hle2,rfl,by rw [←hiff,decide_eq_true_eq];exact ⟨fun h=>List.length_eq_zero_iff.1 ak,fun h=>by rw [h];rfl⟩,hs.out⟩
  |exact (hb13 rfl).elim
 ·refine .gFs 3 2 true rfl rfl rfl ?_
  refine .z zpF (.z zg (.nil ?_))
  refine .ret (Fin.bH Tryz.results169 rfl ?_)
  first
  |exact ⟨H2,_,hle1.trans hle2,rfl,by rw [←hiff,decide_eq_true_eq];exact ⟨fun h=>List.length_eq_zero_iff.1 ak,fun h=>by rw [h];rfl⟩,hs.out⟩
  |exact (hb13 rfl).elim
theorem zh(L:List Int)(j:Nat):L++List.replicate j 0++[0]=L++List.replicate (j+1) 0:=by
 rw [List.append_assoc,←List.replicate_succ']
set_option maxHeartbeats 1000000 in
theorem rR{s:Srv}{q:Wht}{vst vwa vr vc:Value}(hs:St H w σ)(h1:RI H vst s.sp.st)(h2:RI H vwa s.sp.wa)(h3:RRd H vr s.rs)(h4:RCm H vc s.cs)(hok:eh s):
  Cl Tryz.prog 155 [.agg #[I s.sp.id,I s.sp.src,vst,vwa,I s.sp.al,I s.sp.up,vr,vc],.agg #[I q.kind,I q.st,I q.wa]] w fun u w'=>∃H1 ul vw L d b,HLe H H1∧u= .tuple #[.agg #[I s.sys.many,ul,vw,I d],.bool b]∧RL H1 ul s.bP∧RI H1 vw L∧L.length=s.sys.n∧((b=true∧fk s.sp q∧L=s.w q∧d=my q)∨(b=false∧¬fk s.sp q))∧St H1 w' σ:=by
 have hn:=qG s
 have hm:=hok.many
 have hsm:s.sys.many+1=(s.sys.n:Int):=by rw [hn];show ((s.sp.many+s.bq.length:Nat):Int)+1=_;omega
 refine Cl.o Tryz.func155 Tryz.ntmps155 ag2 ?_
 refine .aj ?_
 refine .bx hs fun b2 w hs=>?_
 refine .bx hs fun b3 w hs=>?_
 refine .o (.alloc hs oo rfl fun b4 w hs=>?_)
 refine .z zg (.nil (.aj (.y hs (zls [_,_,_,_,_,_,_,_] aP aE) ?_)))
 refine .o (.call wx rfl (ew (s:=s) hs h1 h2 h3 h4 hok.early) ?_);rintro _ w ⟨H1,hle1,⟨ul,rfl,hL⟩,hs⟩
 obtain ⟨al,cl,rfl⟩:=RL.shape hL
 refine .o (.alloc hs bV rfl fun b6 w hs=>?_)
 refine .o (.aZ (vs:=[_,_]) hs rfl rfl aB fun w hs=>?_)
 refine .nil (.aj (.z (zfa aO) (.y hs (zls [_,_,_,_,_,_] aH aC) (.y hs (zls [_,_,_] cJ bA) ?_))))
 refine .o (.call Tryz.call102 rfl (jX (s:=s.sp) (q:=q) hs (h1.mono hle1) (h2.mono hle1) hok.early.1) ?_);rintro _ w ⟨H2,vl,L0,d,b,en,hle2,rfl,hO,hcase,hs⟩
 have hL0:L0.length≤s.sys.n:=by
  rcases hcase with ⟨_,_,rfl,_⟩|⟨_,_,rfl,_⟩
  ·rw [eJ,hn];omega
  ·simp
 have hle02:=hle1.trans hle2
 refine .z zm (.z zex (.z zex (.z zex (.z zg (.z zg (.z zg (.nil (.seq (.block ?_)))))))))
 refine .loop (fun p:Nat×Value=>⟨34,[],[(7,p.2),(8,I d),(9,.bool b),(6,.pointer (some ⟨b6,0,none⟩)),(4,.pointer (some ⟨b4,0,none⟩))]⟩)
  (fun p w=>L0.length+p.1≤s.sys.n∧∃en,cf 1 p.2 (Is (L0++List.replicate p.1 0)) en∧St H2 w (en:: .blk b6 [I s.sys.many,.slice al s.bP.length cl]:: .blk b4 [I 0,.slice none 0 0,.slice none 0 0,I 0]::σ)) (fun p=>s.sys.n - (L0.length+p.1)) (0,vl) aR
  ⟨by simpa using hL0,en,by simpa using hO,hs.sb⟩ ?_
 clear hO hs
 rintro ⟨j,vo⟩ w ⟨hj,en,hO,hs⟩
 dsimp only at hj hO ⊢
 obtain ⟨ao,lo,co,rfl,hlo⟩:=hO.shape
 have hlo':lo=L0.length+j:=by simp [Is] at hlo;omega
 refine .seq (.aj (.z zm (.z (cB ae) (.z (zfa bI) (.y hs (zld af) (.z ck (.z fH (.nil ?_))))))))
 refine (.bB rfl (fun hc25=>?_) (fun hc25=>?_))
 ·refine .skip ?_
  refine nT ?_
  refine .block (.region (.z zm ?_))
  refine .o (.buildSlice (cells:=[_]) hs cQ rfl rfl fun b27 w hs=>?_)
  refine .o (.append (ys:=Is [0]) hs bZ rfl rfl hO (.own .here rfl rfl) (gU _) (fun l' h=>by simp [Is] at h;omega) ?_);intro v28 en28 w hO2 hs
  rw [show Is (L0++List.replicate j 0)++Is [0]=Is (L0++List.replicate (j+1) 0) by rw [←zh];simp [Is]] at hO2
  refine .z zg (.nil ?_)
  refine nB (nT ?_)
  exact ⟨(j+1,v28),aR,⟨by dsimp only;omega,_,hO2,hs.sb⟩,by dsimp only;omega⟩
 ·refine .exit ?_
  refine xT (xT (xB (nT ?_)))
  refine .aj (.y hs (zls [_,_] aN aB) (.z zm (.z zm (.z (zbd [_,_,_,_] fJ) (.z zm ?_)))))
  refine .o (.aZ (vs:=[_,_,_,_]) hs rfl rfl dT fun w hs=>?_)
  refine .z zg (.nil ?_)
  refine .ret ?_
  have hjn:L0.length+j=s.sys.n:=by omega
  obtain ⟨H3,hle3,hR,hs⟩:=cf.de hO (by simp;omega) hs cP
  exact Fin.iA [] [] hs fun w hs=>⟨_,results2 Tryz.results155 (dF (vs:=[_,_,_,_]) hs rfl qw dT) rfl,H3,_,_,_,d,b,hle02.trans hle3,rfl,hL.mono (hle2.trans hle3),hR,by simp;omega,by
   rcases hcase with ⟨g1,g2,rfl,g3⟩|⟨g1,g2,_,_⟩
   ·refine .inl ⟨g1,g2,?_,g3⟩
    rw [eJ,hn] at hjn
    unfold Srv.w;rw [show j=s.bq.length by omega]
   ·exact .inr ⟨g1,g2⟩,hs.out⟩
inductive sa(v:Srv)(q:Wht):Int→Prop
 |bad {e:Int} (h:tT v e) (he:e≠0):sa v q e
 |what (h:eh v) (h1:¬fk v.sp q):sa v q 33
 |fls (h:eh v) (h1:fk v.sp q) (h2:¬v.sys.Sound):sa v q 35
 |ok (h:eh v) (h1:fk v.sp q) (h2:v.sys.Sound):sa v q 0
theorem sa.zero{v:Srv}{q:Wht}(h:sa v q 0):eh v∧fk v.sp q∧v.sys.Sound:=by
 generalize hz:(0:Int)=z at h
 cases h with
 |bad h he=>exact (he hz.symm).elim
 |what=>omega
 |fls=>omega
 |ok h h1 h2=>exact ⟨h,h1,h2⟩
theorem sa.qty{v:Srv}{q:Wht}{e:Int}(h:sa v q e)(he:e≠0):xv v q 0 0 e:=by
 cases h with
 |bad h he=>exact .bad h he
 |what h h1=>exact .what h h1
 |fls h h1 h2=>exact .fls h h1 h2
 |ok=>exact (he rfl).elim
set_option maxHeartbeats 1000000 in
theorem kS{s:Srv}{q:Wht}{vst vwa vr vc:Value}(hs:St H w σ)(h1:RI H vst s.sp.st)(h2:RI H vwa s.sp.wa)(h3:RRd H vr s.rs)(h4:RCm H vc s.cs):
  Cl Tryz.prog 85 [.agg #[I s.sp.id,I s.sp.src,vst,vwa,I s.sp.al,I s.sp.up,vr,vc],.agg #[I q.kind,I q.st,I q.wa]] w fun u w'=>∃H1 m ul vw d e,HLe H H1∧u= .tuple #[.agg #[I m,ul,vw,I d],I e]∧(∃a l c,ul= .slice a l c)∧(∃a l c,vw= .slice a l c)∧sa s q e∧(e=0→m=s.sys.many∧RL H1 ul s.bP∧RI H1 vw (s.w q)∧d=my q)∧St H1 w' σ:=by
 refine Cl.o Tryz.func85 Tryz.ntmps85 ag2 ?_
 refine .aj ?_
 refine .bx hs fun b2 w hs=>?_
 refine .bx hs fun b3 w hs=>?_
 refine .o (.alloc hs oo rfl fun b4 w hs=>?_)
 refine .z zg (.nil (.seq (.aj (.y hs (zls [_,_,_,_,_,_,_,_] aP aE) ?_))))
 refine .o (.call wy rfl (dY (s:=s) hs h1 h2 h3 h4) ?_);rintro _ w ⟨H1,e,hle1,rfl,hC,hs⟩
 refine .z zg (.nil (.aj (.z zm (.z gx (.nil ?_)))))
 refine (.eH rfl (fun hc12=>?_) (fun hc12=>?_))
 ·refine .aj (.z (zbd [_,_,_,_] fJ) (.z zm ?_))
  refine .o (.aZ (vs:=[_,_,_,_]) hs rfl rfl dT fun w hs=>?_)
  refine .z zg (.nil ?_)
  refine .ret (rT (?_))
  exact Fin.iA [] [] hs fun w hs=>⟨_,results2 Tryz.results85 (dF (vs:=[_,_,_,_]) hs rfl qw dT) rfl,H1,_,_,_,_,e,hle1,rfl,⟨_,_,_,rfl⟩,⟨_,_,_,rfl⟩,.bad hC hc12,fun h=>(hc12 h).elim,hs.out⟩
 ·refine .skip ?_
  refine nT ?_
  refine .aj (.y hs (zls [_,_,_,_,_,_,_,_] aP aE) (.y hs (zls [_,_,_] cJ bA) ?_))
  have hok:eh s:=hC.cu.1 (by simpa using hc12)
  refine .o (.call Tryz.call155 rfl (rR (s:=s) (q:=q) hs (h1.mono hle1) (h2.mono hle1) (h3.mono hle1) (h4.mono hle1) hok) ?_);rintro _ w ⟨H2,ul,vw,L,d,b,hle2,rfl,hL,hR,hLl,hcase,hs⟩
  have hle02:=hle1.trans hle2
  obtain ⟨al,cl,rfl⟩:=RL.shape hL
  obtain ⟨aw,cw,rfl⟩:=RI.shape hR
  refine .z zm (.z zex (.z zex ?_))
  refine .o (.alloc hs oo rfl fun b7 w hs=>?_)
  refine .o (.aZ (vs:=[_,_,_,_]) hs rfl rfl dT fun w hs=>?_)
  refine .z zg (.nil (.seq (.block (.aj (.z zm (.z gV (.z zg (.nil ?_))))))))
  refine (.cond rfl (fun hc21=>?_) (fun hc21=>?_))
  ·refine .aj (.z (zbd [_,_,_,_] fJ) ?_)
   refine .o (.aZ (vs:=[_,_,_,_]) hs rfl rfl dT fun w hs=>?_)
   refine .z zg (.nil ?_)
   refine .ret (rB (rT (?_)))
   have hq:¬fk s.sp q:=by
    rcases hcase with ⟨g,_⟩|⟨_,g⟩
    ·subst g;cases hc21
    ·exact g
   exact Fin.iA [] [] hs fun w hs=>⟨_,results2 Tryz.results85 (dF (vs:=[_,_,_,_]) hs rfl qw dT) rfl,H2,_,_,_,_,_,hle02,rfl,⟨_,_,_,rfl⟩,⟨_,_,_,rfl⟩,.what hok hq,fun h=>by omega,hs.out⟩
  ·refine .aj (.y hs (zls [_,_,_,_,_,_,_,_] aP aE) ?_)
   obtain ⟨rfl,hq,rfl,rfl⟩:b=true∧fk s.sp q∧L=s.w q∧d=my q:=hcase.resolve_right fun h=>by rw [h.1] at hc21;cases hc21
   refine .o (.call Tryz.call169 rfl (oU (s:=s) hs (h1.mono hle02) (h2.mono hle02) (h3.mono hle02) (h4.mono hle02) hok) ?_);rintro _ w ⟨H3,b27,hle3,rfl,hb27,hs⟩
   refine .z gV (.z zg (.nil ?_))
   refine (.cond rfl (fun hc25=>?_) (fun hc25=>?_))
   ·refine .aj (.z (zbd [_,_,_,_] fJ) ?_)
    refine .o (.aZ (vs:=[_,_,_,_]) hs rfl rfl dT fun w hs=>?_)
    refine .z zg (.nil ?_)
    refine .ret (rB (rT (?_)))
    exact Fin.iA [] [] hs fun w hs=>⟨_,results2 Tryz.results85 (dF (vs:=[_,_,_,_]) hs rfl qw dT) rfl,H3,_,_,_,_,_,hle02.trans hle3,rfl,⟨_,_,_,rfl⟩,⟨_,_,_,rfl⟩,.fls hok hq (fun h=>by rw [hb27.2 h] at hc25;cases hc25),fun h=>by omega,hs.out⟩
   ·refine .skip ?_
    refine nB (nT ?_)
    refine .aj (.y hs (zls [_,_,_,_] qw dT) ?_)
    refine .o (.aZ (vs:=[_,_,_,_]) hs rfl rfl dT fun w hs=>?_)
    refine .z zg (.nil ?_)
    refine .ret ?_
    exact Fin.iA [] [] hs fun w hs=>⟨_,results2 Tryz.results85 (dF (vs:=[_,_,_,_]) hs rfl qw dT) rfl,H3,_,_,_,_,_,hle02.trans hle3,rfl,⟨_,_,_,rfl⟩,⟨_,_,_,rfl⟩,.ok hok hq (hb27.1 (by simpa using hc25)),fun _=>⟨rfl,hL.mono hle3,hR.mono hle3,rfl⟩,hs.out⟩
set_option maxHeartbeats 1000000 in
theorem kU{s:Srv}{q:Wht}{vst vwa vr vc:Value}(hs:St H w σ)(h1:RI H vst s.sp.st)(h2:RI H vwa s.sp.wa)(h3:RRd H vr s.rs)(h4:RCm H vc s.cs):
  Cl Tryz.prog 26 [.agg #[I s.sp.id,I s.sp.src,vst,vwa,I s.sp.al,I s.sp.up,vr,vc],.agg #[I q.kind,I q.st,I q.wa]] w fun u w'=>∃H1 lo hi e,HLe H H1∧u= .tuple #[.agg #[I lo,I hi],I e]∧xv s q lo hi e∧St H1 w' σ:=by
 refine Cl.o Tryz.func26 Tryz.ntmps26 ag2 ?_
 refine .aj ?_
 refine .bx hs fun b2 w hs=>?_
 refine .bx hs fun b3 w hs=>?_
 refine .o (.alloc hs eU rfl fun b4 w hs=>?_)
 refine .z zg (.nil (.aj (.y hs (zls [_,_,_,_,_,_,_,_] aP aE) (.y hs (zls [_,_,_] cJ bA) ?_))))
 refine .o (.call Tryz.call85 rfl (kS (s:=s) (q:=q) hs h1 h2 h3 h4) ?_);rintro _ w ⟨H1,m,ul,vw,d,e,hle1,rfl,⟨al,ll,cl,rfl⟩,⟨aw,lw,cw,rfl⟩,hA,hA0,hs⟩
 refine .z zm (.z zex (.z zex ?_))
 refine .o (.alloc hs oo rfl fun b6 w hs=>?_)
 refine .o (.aZ (vs:=[_,_,_,_]) hs rfl rfl dT fun w hs=>?_)
 refine .z zg (.nil (.seq (.aj (.z zm (.z gx (.nil ?_))))))
 refine (.eH rfl (fun hc17=>?_) (fun hc17=>?_))
 ·refine .aj (.z (zbd [_,_] cn) (.z zm ?_))
  refine .o (.aZ (vs:=[_,_]) hs rfl rfl aT fun w hs=>?_)
  refine .z zg (.nil ?_)
  refine .ret (rT (?_))
  exact Fin.iA [] [] hs fun w hs=>⟨_,results2 Tryz.results26 (dF (vs:=[_,_]) hs rfl dw aT) rfl,H1,_,_,_,hle1,rfl,hA.qty hc17,hs.out⟩
 ·refine .skip ?_
  refine nT ?_
  refine .aj (.z (zfa jz) (.y hs (zls [_,_] aN aB) (.z (zfa jy) (.y hs (zld an) ?_))))
  obtain rfl:e=0:=by simpa using hc17
  obtain ⟨rfl,hL,hR,rfl⟩:=hA0 rfl
  obtain ⟨hok,hq,hsd⟩:=hA.zero
  refine .o (.call Tryz.call74 rfl (jP (s:=s.sys) hs ⟨_,rfl,hL⟩ hR) ?_);rintro _ w ⟨H2,lo,hi,f,hle2,rfl,hRg,hs⟩
  obtain rfl:=me (hok.ask hq) hsd (fun b=>s.both) hRg
  have hbd:=hRg.bd
  have hdp:=ss q
  refine .z zm (.z zex (.z zex (.z zex (.z zg (.z zg (.z zg (.nil (.seq (.aj ?_)))))))))
  refine .z zm (.z gx (.nil ?_))
  refine (.eH rfl (fun hc30=>?_) (fun hc30=>?_))
  ·refine .aj (.z (zbd [_,_] cn) (.z zm ?_))
   refine .o (.aZ (vs:=[_,_]) hs rfl rfl aT fun w hs=>?_)
   refine .z zg (.nil ?_)
   refine .ret (rT (?_))
   exact (hc30 rfl).elim
  ·refine .skip ?_
   refine nT ?_
   refine .seq (.draw mix rfl hs fun w hs=>?_)
   refine .z 0 rfl zm ?_;refine .z 1 rfl (zfa jx) ?_;refine .y 2 rfl hs af ?_;refine .z 4 rfl zm ?_;refine .z 5 rfl (zfa jx) ?_;refine .y 6 rfl hs af ?_
   refine .E 3 hs ?_
   refine .call Tryz.call86 rfl (je hs ak ak) ?_;rintro _ w ⟨rfl,hs⟩
   refine .go ?_
   refine .E 7 hs ?_
   refine .call Tryz.call86 rfl (je hs ak ak) ?_;rintro _ w ⟨rfl,hs⟩
   refine .go ?_
   refine .z 8 rfl (zbd [_,_] cn) ?_
   refine .E 9 hs ?_
   refine .aZ (vs:=[_,_]) hs rfl rfl aT ?_;intro w hs
   refine .go ?_
   refine .z 10 rfl zg ?_;refine .D hs ?_
   refine .ret ?_
   exact Fin.iA [] [] hs fun w hs=>⟨_,results2 Tryz.results26 (dF (vs:=[_,_]) hs rfl dw aT) rfl,H2,_,_,_,hle1.trans hle2,rfl,.ok hok hq hsd hRg,hs.out⟩
inductive uU(v:Srv)(out:List Int):Int→Prop
 |bad {e:Int} (h:tT v e) (he:e≠0) (h1:out=[]):uU v out e
 |ok {e:Int} (h:eh v) (h1:om v.sys out e):uU v out e
theorem kT{s:Srv}{vst vwa vr vc:Value}(hs:St H w σ)(h1:RI H vst s.sp.st)(h2:RI H vwa s.sp.wa)(h3:RRd H vr s.rs)(h4:RCm H vc s.cs):
  Cl Tryz.prog 32 [.agg #[I s.sp.id,I s.sp.src,vst,vwa,I s.sp.al,I s.sp.up,vr,vc]] w fun u w'=>∃H1 vx out e,HLe H H1∧u= .tuple #[vx,I e]∧RI H1 vx out∧uU s out e∧St H1 w' σ:=by
 refine Cl.o Tryz.func32 Tryz.ntmps32 ag1 ?_
 refine .aj ?_
 refine .bx hs fun b1 w hs=>?_
 refine .z zg (.z zg (.nil (.seq (.aj (.y hs (zls [_,_,_,_,_,_,_,_] aP aE) ?_)))))
 refine .o (.call wy rfl (dY (s:=s) hs h1 h2 h3 h4) ?_);rintro _ w ⟨H1,e,hle1,rfl,hC,hs⟩
 refine .z zg (.nil (.aj (.z zm (.z gx (.nil ?_)))))
 refine (.eH rfl (fun hc10=>?_) (fun hc10=>?_))
 ·refine .aj (.z zm (.z zg (.z zg (.nil ?_))))
  refine .ret (rT (Fin.lq Tryz.results32 rfl rfl ?_))
  exact ⟨H1,_,[],_,hle1,rfl,RS.nil H1 1 none 0,.bad hC hc10 rfl,hs.out⟩
 ·refine .skip ?_
  refine nT ?_
  refine .aj (.y hs (zls [_,_,_,_,_,_,_,_] aP aE) ?_)
  have hok:eh s:=hC.cu.1 (by simpa using hc10)
  refine .o (.call wx rfl (ew (s:=s) hs (h1.mono hle1) (h2.mono hle1) (h3.mono hle1) (h4.mono hle1) hok.early) ?_);rintro v14 w ⟨H2,hle2,hS,hs⟩
  refine .o (.call Tryz.call98 rfl (pa (s:=s.sys) hs hS) ?_);rintro _ w ⟨H3,vx,out,f,hle3,rfl,hR,hCf,hs⟩
  refine .z zm (.z zex (.z zex (.z zg (.z zg (.nil (.aj (.z zm (.z zm (.z zg ?_)))))))))
  refine .z zg (.nil ?_)
  refine .ret (Fin.lq Tryz.results32 rfl rfl ?_)
  exact ⟨H3,_,out,_,hle1.trans (hle2.trans hle3),rfl,hR,.ok hok hCf,hs.out⟩
set_option maxHeartbeats 1000000 in
theorem qQ{s:Srv}{t:TD}{vst vwa vr vc:Value}(hs:St H w σ)(h1:RI H vst s.sp.st)(h2:RI H vwa s.sp.wa)(h3:RRd H vr s.rs)(h4:RCm H vc s.cs):
  Cl Tryz.prog 28 [.agg #[I s.sp.id,I s.sp.src,vst,vwa,I s.sp.al,I s.sp.up,vr,vc],.agg #[I t.tape,I t.day]] w fun u w'=>∃H1 lo hi e,HLe H H1∧u= .tuple #[.agg #[I lo,I hi],I e]∧wb s t lo hi e∧St H1 w' σ:=by
 refine Cl.o Tryz.func28 Tryz.ntmps28 ag2 ?_
 refine .aj ?_
 refine .bx hs fun b2 w hs=>?_
 refine .bx hs fun b3 w hs=>?_
 refine .o (.alloc hs eU rfl fun b4 w hs=>?_)
 refine .z zg (.nil (.seq (.aj (.y hs (zls [_,_,_,_,_,_,_,_] aP aE) ?_))))
 refine .o (.call wy rfl (dY (s:=s) hs h1 h2 h3 h4) ?_);rintro _ w ⟨H1,e,hle1,rfl,hC,hs⟩
 refine .z zg (.nil (.aj (.z zm (.z gx (.nil ?_)))))
 refine (.eH rfl (fun hc15=>?_) (fun hc15=>?_))
 ·refine .aj (.z (zbd [_,_] cn) (.z zm ?_))
  refine .o (.aZ (vs:=[_,_]) hs rfl rfl aT fun w hs=>?_)
  refine .z zg (.nil ?_)
  refine .ret (rT (?_))
  exact Fin.iA [] [] hs fun w hs=>⟨_,results2 Tryz.results28 (dF (vs:=[_,_]) hs rfl dw aT) rfl,H1,_,_,_,hle1,rfl,.bad hC hc15,hs.out⟩
 ·refine .skip ?_
  refine nT ?_
  refine .seq (.draw mix rfl hs fun w hs=>?_)
  refine .ys 0 rfl hs [_,_,_,_,_,_,_,_] aP aE ?_;refine .ys 2 rfl hs [_,_] dC bw ?_
  refine .E 1 hs ?_
  have hok:eh s:=hC.cu.1 (by simpa using hc15)
  have hsm:=dW hok.early.1
  have hrl:=hok.early.2.1
  have hn:=qG s
  have htl:s.bq.length≤60:=by have:=dp s.rs;unfold Srv.bq;omega
  refine .call Tryz.call90 rfl (iM (s:=s) hs (h3.mono hle1) ak) ?_;rintro v19 w ⟨H2,hle2,hT,hs⟩
  have hle02:=hle1.trans hle2
  refine .go ?_
  refine .E 3 hs ?_
  refine .call Tryz.call89 rfl (mZ (t:=t) hs hT ak) ?_;rintro _ w ⟨rfl,hs⟩
  have hnn:=kN (l:=s.bq) (t:=t)
  refine .go ?_
  refine .z 4 rfl zg ?_;refine .D hs ?_
  refine .seq (.aj (.z zm (.z fH (.nil ?_))))
  refine (.bB rfl (fun hc23=>?_) (fun hc23=>?_))
  ·refine .aj (.z (zbd [_,_] cn) ?_)
   refine .o (.aZ (vs:=[_,_]) hs rfl rfl aT fun w hs=>?_)
   refine .z zg (.nil ?_)
   refine .ret (rT (?_))
   exact Fin.iA [] [] hs fun w hs=>⟨_,results2 Tryz.results28 (dF (vs:=[_,_]) hs rfl dw aT) rfl,H2,_,_,_,hle02,rfl,.none hok (fun h=>by have:=hnn.2 h;omega),hs.out⟩
  ·refine .skip ?_
   refine nT ?_
   refine .seq (.draw mix rfl hs fun w hs=>?_)
   refine .z 0 rfl (zfa aO) ?_;refine .ys 1 rfl hs [_,_,_,_,_,_] aH aC ?_;refine .ys 4 rfl hs [_,_,_,_,_,_,_,_] aP aE ?_
   refine .E 2 hs ?_
   have hmem:t∈s.bq:=hnn.1 ak
   obtain ⟨k,k1,k2,k3⟩:=fa hmem
   have hlt:=eh.DK hmem
   rw [k1,Int.toNat_natCast] at hlt
   rw [k1] at hc23 ⊢
   refine .call Tryz.call91 rfl (fM (s:=s.sp) hs (h1.mono hle02) (h2.mono hle02) ⟨ak,ak⟩) ?_;rintro _ w ⟨rfl,hs⟩
   refine .go ?_
   refine .z 3 rfl ck ?_
   refine .E 5 hs ?_
   refine .call Tryz.call90 rfl (iM (s:=s) hs (h3.mono hle02) ak) ?_;rintro v30 w ⟨H3,hle3,hT2,hs⟩
   have hle03:=hle02.trans hle3
   obtain ⟨at_,ct,rfl⟩:=RTd.shape hT2
   refine .go ?_
   refine .z 6 rfl (cB aU) ?_;refine .z 7 rfl ck ?_
   refine .E 8 hs ?_
   refine .pZ s.sys.n hs (by show some (I _)=some (I _);congr 2;rw [hn];show _=((s.sp.many+s.bq.length+1:Nat):Int);omega) (by show some (I _)=some (I _);congr 2;rw [hn];show _=((s.sp.many+s.bq.length+1:Nat):Int);omega) ae dS rfl ai bJ ak ?_;intro b33 w hs
   refine .go ?_
   refine .z 9 rfl zg ?_;refine .D hs ?_
   refine .aj (.z zm (.z (zfa aO) (.y hs (zls [_,_,_,_,_,_] aH aC) ?_)))
   refine .o (.call Tryz.call91 rfl (fM (s:=s.sp) hs (h1.mono hle03) (h2.mono hle03) ⟨ak,ak⟩) ?_);rintro _ w ⟨rfl,hs⟩
   refine .z ck (.z zm (.z ck ?_))
   refine .q hs (dH (k:=s.sp.many+1+k) rfl rfl ae ai ak ak) ?_
   refine .o (.store (c':=Is (qC s.sys.n (s.sp.many+1+k) 1)) hs rfl rfl ai ?_ cP (by simp [Is];omega) (mA _ _ _));intro w hs
   refine .nil (.aj (.y hs (zls [_,_,_,_,_,_,_,_] aP aE) ?_))
   obtain ⟨H4,hle4,hW,hs⟩:=cf.de (xs:=qC s.sys.n (s.sp.many+1+k) 1) (v:= .slice (some ⟨b33,0,none⟩) s.sys.n s.sys.n) (.full (by simp [Is,iz])) (by rw [iz];omega) hs cP
   have hle04:=hle03.trans hle4
   refine .o (.call wx rfl (ew (s:=s) hs (h1.mono hle04) (h2.mono hle04) (h3.mono hle04) (h4.mono hle04) hok.early) ?_);rintro v44 w ⟨H5,hle5,hS,hs⟩
   refine .z zm ?_
   refine .o (.call Tryz.call74 rfl (jP (s:=s.sys) hs hS (hW.mono hle5)) ?_);rintro _ w ⟨H6,lo,hi,f,hle6,rfl,hRg,hs⟩
   have hbd:=hRg.bd
   have hleF:=hle04.trans (hle5.trans hle6)
   have hA:=hok.B4 hlt (x:=1) ak
   refine .z zm (.z zex (.z zex (.z zex (.z zg (.z zg (.z zg (.nil (.seq (.aj ?_)))))))))
   refine .z zm (.z gx (.nil ?_))
   refine (.eH rfl (fun hc51=>?_) (fun hc51=>?_))
   ·refine .aj (.z (zbd [_,_] cn) ?_)
    refine .o (.aZ (vs:=[_,_]) hs rfl rfl aT fun w hs=>?_)
    refine .z zg (.nil ?_)
    refine .ret (rT (?_))
    have hns:¬s.sys.Sound:=fun h=>hc51 (me hA h (fun b=>s.both) hRg)
    exact Fin.iA [] [] hs fun w hs=>⟨_,results2 Tryz.results28 (dF (vs:=[_,_]) hs rfl dw aT) rfl,H6,_,_,_,hleF,rfl,.fls hok hmem hns,hs.out⟩
   ·refine .skip ?_
    refine nT ?_
    refine .aj (.z zm (.z xr (.z zm (.z xr (.z (zbd [_,_] cn) ?_)))))
    refine .o (.aZ (vs:=[_,_]) hs rfl rfl aT fun w hs=>?_)
    refine .z zg (.nil ?_)
    refine .ret ?_
    obtain rfl:f=0:=by simpa using hc51
    have hsd:s.sys.Sound:=Classical.byContradiction fun h=>by have:=tB hA h hRg;omega
    exact Fin.iA [] [] hs fun w hs=>⟨_,results2 Tryz.results28 (dF (vs:=[_,_]) hs rfl dw aT) rfl,H6,_,_,_,hleF,rfl,.ok hok hmem hsd (by rw [k1,Int.toNat_natCast];exact hRg),hs.out⟩
theorem m6{v:Value}{rs:List (List Int)}{g:Nat}{cap:List Value}(q:List Int→Prop)(hs:St H w σ)(hR:RT H v rs)(hl:rs.length≤9223372036854775807)(hc:∀args w,(callFunc g args).run Tryz.prog w= .ok (.enter g args) w)
  (hp:∀H' w σ r u,HLe H H'→RI H' u r→St H' w σ→Cl Tryz.prog g ([u]++cap) w fun z w'=>∃H1 b,HLe H' H1∧z= .bool b∧(b=true↔q r)∧St H1 w' σ):
  Cl Tryz.prog 236 [v,.func (.func g) #[] cap.toArray] w fun u w'=>∃H1 i,HLe H H1∧u=I i∧(0≤i↔∃x∈rs,q x)∧St H1 w' σ:=by
 obtain ⟨a,c,rfl⟩:=hR.shape
 refine Cl.o Tryz.func236 Tryz.ntmps236 ag2 ?_
 refine .aj (.z zg (.nil (.seq (.aj (.z zm (.z (cB aq) (.z zm (.nil ?_))))))))
 refine .for (N:=rs.length) (J:=fun k fr w=>fr=[(1,.func (.func g) #[] cap.toArray),(0,.slice a rs.length c)]∧∃H1,HLe H H1∧(∀j<k,∀y,rs[j]? =some y→¬q y)∧St H1 w σ) ak ?_ ?_ ?_
 ·exact .mk ⟨rfl,H,HLe.refl H,fun j hj=>by omega,hs⟩
 ·rintro k fr w hk ⟨rfl,H1,hle1,hno,hs⟩
  have hx:=rn (rs:=rs) hk
  refine .block (.aj (.z zm (.z zg (.nil (.aj (.z zm (.z zm (.z zm ?_))))))))
  refine .ixT hs (hR.mono hle1) rfl rfl aq az (show k<_ by omega) cD ?_;intro b14 o14 a14 c14 hc14 hR14
  refine .q hs (aJ rfl an hc14) ?_
  refine .o (.o8 (first:=[]) (cap:=cap) rfl rfl hc (hp _ _ _ (gr rs k) _ hle1 hR14 hs) ?_);rintro _ w ⟨H2,b16,hle2,rfl,hb16,hs⟩
  refine .nil ?_
  refine (.cond rfl (fun hc16=>?_) (fun hc16=>?_))
  ·refine .aj (.z zm (.z zg (.nil ?_)))
   refine .ret (rB (rT (rB (rT (Fin.bH Tryz.results236 rfl ?_)))))
   exact ⟨H2,_,hle1.trans hle2,rfl,⟨fun _=>⟨_,List.mem_of_getElem? hx,hb16.1 hc16⟩,fun _=>by omega⟩,hs⟩
  ·refine .skip ?_
   refine nB (nT ?_)
   exact .mk ⟨rfl,H2,hle1.trans hle2,e9 hno hx (fun h=>by rw [hb16.2 h] at hc16;cases hc16),hs⟩
 ·rintro fr w ⟨rfl,H1,hle1,hno,hs⟩
  refine nT ?_
  refine .aj (.z zg (.nil ?_))
  refine .ret (Fin.bH Tryz.results236 rfl ?_)
  exact ⟨H1,_,hle1,rfl,⟨fun h=>by omega,fun ⟨x,h1,h2⟩=>by
   obtain ⟨j,hj⟩:=List.getElem?_of_mem h1
   exact (hno j (List.getElem?_eq_some_iff.1 hj).1 x hj h2).elim⟩,hs⟩
theorem lB{v:Value}{rs:List (List Int)}{g:Nat}{cap:List Value}(q:List Int→Prop)(hs:St H w σ)(hR:RT H v rs)(hl:rs.length≤9223372036854775807)(hc:∀args w,(callFunc g args).run Tryz.prog w= .ok (.enter g args) w)
  (hp:∀H' w σ r u,HLe H H'→RI H' u r→St H' w σ→Cl Tryz.prog g ([u]++cap) w fun z w'=>∃H1 b,HLe H' H1∧z= .bool b∧(b=true↔q r)∧St H1 w' σ):
  Cl Tryz.prog 186 [v,.func (.func g) #[] cap.toArray] w fun u w'=>∃H1 b,HLe H H1∧u= .bool b∧(b=true↔∃x∈rs,q x)∧St H1 w' σ:=by
 refine Cl.o Tryz.func186 Tryz.ntmps186 ag2 ?_
 refine .aj (.z zg (.nil (.aj (.z zm (.z zm ?_)))))
 refine .o (.call Tryz.call236 rfl (m6 q hs hR hl hc hp) ?_);rintro _ w ⟨H1,i,hle1,rfl,hi,hs⟩
 refine .z xt (.z zg (.nil ?_))
 refine .ret (Fin.bH Tryz.results186 rfl ?_)
 exact ⟨H1,_,hle1,rfl,by simp only [decide_eq_true_eq];exact hi,hs⟩
theorem tp{n:Int}(hs:St H w σ):
  Cl Tryz.prog 188 [I n] w fun u w'=>u= .bool (!decide (0≤n∧n≤20000))∧St H w' σ:=by
 refine Cl.o Tryz.func188 Tryz.ntmps188 ag1 ?_
 refine .aj (.z zg (.nil (.aj (.z zm ?_))))
 refine .o (.call dD rfl (br hs) ?_);rintro _ w ⟨rfl,hs⟩
 refine .z gV (.z zg (.nil ?_))
 refine .ret (Fin.bH Tryz.results188 rfl ?_)
 exact ⟨rfl,hs⟩
theorem vG{s:Spc}{v vst vwa:Value}{r:List Int}{b:Nat}(hs:St H w σ)(hb:Row H b [I s.id,I s.src,vst,vwa,I s.al,I s.up])(h2:RI H vwa s.wa)(hr:RI H v r):
  Cl Tryz.prog 187 [v,.pointer (some ⟨b,0,none⟩)] w fun u w'=>∃H1 bb,HLe H H1∧u= .bool bb∧(bb=true↔¬(r.length=s.wa.length∧∀x∈r,0≤x∧x≤20000))∧St H1 w' σ:=by
 obtain ⟨a,c,rfl⟩:=RI.shape hr
 obtain ⟨awa,cwa,rfl⟩:=RI.shape h2
 have hb3:=hb.at 3
 refine Cl.o Tryz.func187 Tryz.ntmps187 ag2 ?_
 refine .aj (.z zg (.nil (.aj (.z zm (.z (cB ae) (.z (zfa aW) (.y hs (zld an) (.z (cB ae) (.z gx ?_)))))))))
 refine .z zm ?_
 refine .yf (t':=10) rfl (fun hb10=>?_) (fun hb10=>?_)
 ·refine .gFs 2 6 false rfl rfl rfl ?_
  refine .z zpT (.z zg (.nil ?_))
  refine .ret (Fin.bH Tryz.results187 rfl ?_)
  exact ⟨H,true,HLe.refl H,rfl,⟨fun _ h=>by have:=h.1;simp_all,fun _=>rfl⟩,hs⟩
 ·refine .gT rfl rfl ?_
  refine .z zm ?_
  refine .gT rfl rfl ?_
  refine .o (.call Tryz.call134 rfl (gW (g:=188) (cap:=[]) (fun n=>¬(0≤n∧n≤20000)) hs hr Tryz.call188 (fun H' w σ n _ _ hs=>(tp hs).mono fun u w' ⟨g1,g2⟩=>⟨H',_,HLe.refl _,g1,by simp;omega,g2⟩)) ?_);rintro _ w ⟨H1,b12,hle1,rfl,hb12,hs⟩
  refine .z zpF (.z zg (.nil ?_))
  refine .ret (Fin.bH Tryz.results187 rfl ?_)
  have hlen:r.length=s.wa.length:=by simp_all;omega
  exact ⟨H1,_,hle1,rfl,by
   rw [hb12]
   constructor
   ·rintro ⟨x,h1,h2⟩ h;exact h2 (h.2 x h1)
   ·intro h
    refine Classical.byContradiction fun hn=>h ⟨hlen,fun x hx=>Classical.byContradiction fun hx'=>hn ⟨x,hx,hx'⟩⟩,hs⟩
theorem CM{s:Spc}{rows:List (List Int)}:iZ s rows↔rows.length=s.st.length∧∀r∈rows,r.length=s.wa.length∧∀x∈r,0≤x∧x≤20000:=by
 constructor
 ·rintro ⟨h1,h2,h3⟩
  refine ⟨h1,fun r hr=>?_⟩
  obtain ⟨i,hi⟩:=List.getElem?_of_mem hr
  have hil:=(List.getElem?_eq_some_iff.1 hi).1
  have hg:=rn hil
  rw [hi] at hg
  obtain rfl:=Option.some.inj hg
  have hl:=h2 i ak
  refine ⟨hl,fun x hx=>?_⟩
  obtain ⟨k,hk⟩:=List.getElem?_of_mem hx
  have hkl:=(List.getElem?_eq_some_iff.1 hk).1
  have hgk:=bn hkl
  rw [hk] at hgk
  obtain rfl:=Option.some.inj hgk
  exact h3 i ak k ak
 ·rintro ⟨h1,h2⟩
  have hm:∀i<s.st.length,gr rows i∈rows:=fun i hi=>List.mem_of_getElem? (rn ak)
  refine ⟨h1,fun i hi=>(h2 _ (hm i hi)).1,fun i hi k hk=>?_⟩
  have hl:=(h2 _ (hm i hi)).1
  exact (h2 _ (hm i hi)).2 _ (List.mem_of_getElem? (bn ak))
theorem oV{s:Spc}{vst vwa vh:Value}{rows:List (List Int)}(hs:St H w σ)(h1:RI H vst s.st)(h2:RI H vwa s.wa)(hr:RT H vh rows):
  Cl Tryz.prog 101 [.agg #[I s.id,I s.src,vst,vwa,I s.al,I s.up],.agg #[vh]] w fun u w'=>∃H1 b,HLe H H1∧u= .bool b∧(b=true↔iZ s rows)∧St H1 w' σ:=by
 obtain ⟨ast,cst,rfl⟩:=RI.shape h1
 obtain ⟨awa,cwa,rfl⟩:=RI.shape h2
 obtain ⟨ah,ch,rfl⟩:=hr.shape
 have hrl:=(hr.len).2.2
 refine Cl.o Tryz.func101 Tryz.ntmps101 ag2 ?_
 refine .aj ?_
 refine .bx hs fun b2 w hs=>?_
 refine .bx hs fun b3 w hs=>?_
 refine .z zg (.nil (.aj (.z (zfa dz) (.y hs (zld ep) (.z (cB aq) (.z (zfa bp) (.y hs (zld an) (.z (cB ae) (.z fo ?_)))))))))
 refine .z zm ?_
 refine .iD (t':=12) rfl (fun hb12=>?_) (fun hb12=>?_)
 ·refine .gT rfl rfl ?_
  refine .z (zfa dz) ?_
  refine .gT rfl rfl ?_
  refine .y hs (zld ep) ?_
  refine .gT rfl rfl ?_
  refine .q hs (du (f:=[]) (c:=[_]) rfl rfl) ?_
  refine .gT rfl rfl ?_
  obtain ⟨H0,hle0,hb2,hs⟩:=hs.cq (b:=b2) cP
  refine .o (.call Tryz.call186 rfl (lB (g:=187) (cap:=[.pointer (some ⟨b2,0,none⟩)]) (fun r=>¬(r.length=s.wa.length∧∀x∈r,0≤x∧x≤20000)) hs (hr.mono hle0) hrl Tryz.call187 (fun H' w σ r u hle hu hs=>vG (s:=s) hs (hb2.mono hle) (h2.mono (hle0.trans hle)) hu)) ?_);rintro _ w ⟨H1,b16,hle1,rfl,hb16,hs⟩
  refine .gT rfl rfl ?_
  refine .z gV (.z zpT (.z zg (.nil ?_)))
  refine .ret (Fin.bH Tryz.results101 rfl ?_)
  exact ⟨H1,_,hle0.trans hle1,rfl,by
   rw [CM]
   have hlen:rows.length=s.st.length:=by omega
   cases hbb:b16 with
   |true=>
    obtain ⟨x,hx,hn⟩:=hb16.1 hbb
    exact ⟨fun h=>(by cases h),fun h=>(hn (h.2 x hx)).elim⟩
   |false=>exact ⟨fun _=>⟨hlen,fun r hr=>Classical.byContradiction fun hn=>by rw [hb16.2 ⟨r,hr,hn⟩] at hbb;cases hbb⟩,fun _=>rfl⟩,hs.out⟩
 ·refine .gFs 5 7 true rfl rfl rfl ?_
  refine .z zpF (.z zg (.nil ?_))
  refine .ret (Fin.bH Tryz.results101 rfl ?_)
  exact ⟨H,_,HLe.refl H,rfl,⟨fun h=>(by cases h),fun h=>by have:=h.len;omega⟩,hs.out⟩
set_option maxHeartbeats 1000000 in
theorem pS{s:Spc}{q:Wht}{vst vwa vh:Value}{rows:List (List Int)}(hs:St H w σ)(h1:RI H vst s.st)(h2:RI H vwa s.wa)(hr:RT H vh rows):
  Cl Tryz.prog 37 [.agg #[I s.id,I s.src,vst,vwa,I s.al,I s.up],.agg #[vh],.agg #[I q.kind,I q.st,I q.wa]] w fun u w'=>∃H1 n e,HLe H H1∧u= .tuple #[I n,I e]∧rZ s rows q n e∧St H1 w' σ:=by
 obtain ⟨ah,ch,rfl⟩:=hr.shape
 refine Cl.o Tryz.func37 Tryz.ntmps37 ag3 ?_
 refine .aj ?_
 refine .bx hs fun b3 w hs=>?_
 refine .bx hs fun b4 w hs=>?_
 refine .bx hs fun b5 w hs=>?_
 refine .z zg (.z zg (.nil (.seq (.aj (.y hs (zls [_,_,_,_,_,_] aH aC) ?_)))))
 refine .o (.call Tryz.call41 rfl (iN (s:=s) hs h1 h2) ?_);rintro _ w ⟨H1,e,hle1,rfl,he,hs⟩
 refine .z zg (.nil (.aj (.z zm (.z gx (.nil ?_)))))
 refine (.eH rfl (fun hc17=>?_) (fun hc17=>?_))
 ·refine .aj (.z zm (.z zg (.z zg (.nil ?_))))
  refine .ret (rT (?_))
  have hq:¬fl s∧e=30:=he.resolve_left fun h=>hc17 h.2
  exact Fin.iA [] [] hs fun w hs=>⟨_,results2 Tryz.results37 rfl rfl,H1,_,_,hle1,rfl,by rw [hq.2];exact .space hq.1,hs.out⟩
 ·refine .skip ?_
  refine nT ?_
  refine .seq (.aj (.y hs (zls [_,_,_,_,_,_] aH aC) (.y hs (zls [_] eR c9) ?_)))
  have hok:fl s:=(he.resolve_right fun h=>by omega).1
  have hsm:=dW hok
  refine .o (.call Tryz.call101 rfl (oV (s:=s) hs (h1.mono hle1) (h2.mono hle1) (hr.mono hle1)) ?_);rintro _ w ⟨H2,b21,hle2,rfl,hb21,hs⟩
  have hle02:=hle1.trans hle2
  refine .z gV (.nil ?_)
  refine (.cond rfl (fun hc22=>?_) (fun hc22=>?_))
  ·refine .aj (.z zg (.z zg (.nil ?_)))
   refine .ret (rT (?_))
   exact Fin.iA [] [] hs fun w hs=>⟨_,results2 Tryz.results37 rfl rfl,H2,_,_,hle02,rfl,.hull hok (fun h=>by rw [hb21.2 h] at hc22;cases hc22),hs.out⟩
  ·refine .skip ?_
   refine nT ?_
   refine .aj (.y hs (zls [_,_,_,_,_,_] aH aC) (.y hs (zls [_,_,_] cJ bA) ?_))
   have hh:iZ s rows:=hb21.1 (by simpa using hc22)
   refine .o (.call Tryz.call102 rfl (jX (s:=s) (q:=q) hs (h1.mono hle02) (h2.mono hle02) hok) ?_);rintro _ w ⟨H3,vl,L,d,b,en,hle3,rfl,hO,hcase,hs⟩
   have hle03:=hle02.trans hle3
   obtain ⟨al,cl,rfl⟩:=hO.uy
   refine .z zm (.z zex (.z zex (.z zex ?_)))
   refine .o (.alloc hs dV rfl fun b9 w hs=>?_)
   refine .o (.store hs rfl rfl az fun w hs=>?_)
   refine .z zg (.z zg (.nil (.seq (.aj (.z zm (.z gV (.nil ?_)))))))
   refine (.cond rfl (fun hc31=>?_) (fun hc31=>?_))
   ·refine .aj (.z zg (.z zg (.nil ?_)))
    refine .ret (rT (?_))
    have hq:¬fk s q:=by
     rcases hcase with ⟨g,_⟩|⟨_,g,_⟩
     ·subst g;cases hc31
     ·exact g
    exact Fin.iA [] [] hs fun w hs=>⟨_,results2 Tryz.results37 rfl rfl,H3,_,_,hle03,rfl,.what hok hh hq,hs.out⟩
   ·refine .skip ?_
    refine nT ?_
    refine .aj ?_
    refine .o (.alloc hs bJ rfl fun b12 w hs=>?_)
    refine .o (.store hs rfl rfl ai fun w hs=>?_)
    refine .nil (.seq (.aj (.y hs (zls [_,_,_,_,_,_] aH aC) ?_)))
    obtain ⟨rfl,hq,rfl,rfl⟩:b=true∧fk s q∧L=jT s q∧d=my q:=hcase.resolve_right fun h=>by rw [h.1] at hc31;cases hc31
    have hwl:=eJ s q
    obtain ⟨H4,hle4,hW,hs⟩:=cf.de hO ak hs cP
    have hle04:=hle03.trans hle4
    refine .o (.call Ag rfl (fp (s:=s) hs (h1.mono hle04) (h2.mono hle04) ⟨ak,ak⟩) ?_);rintro _ w ⟨H5,ba,hle5,rfl,hit,hs⟩
    have hle05:=hle04.trans hle5
    replace hW:=hW.mono hle5
    have hr5:=hr.mono hle05
    refine .nil (.block ?_)
    refine .rangeFunc (gf:=190) (cap:=[.pointer (some ⟨ba,0,none⟩)]) (xs:=uQ s) (σb:=[.blk b12 [I (fX s q rows 0)],.blk b9 [.slice al (jT s q).length cl],.blk b4 [.slice ah rows.length ch]]) (σf:=σ) (hs.sb) trivial rfl hit Af (fun x hx=>by
      simp only [uQ,List.mem_map] at hx
      obtain ⟨j,_,rfl⟩:=hx;rfl) rfl
     (I:=fun p H' σb=>σb=[.blk b12 [I (fX s q rows p)],.blk b9 [.slice al (jT s q).length cl],.blk b4 [.slice ah rows.length ch]]) (Ix:=fun _ _ _=>False)
     (fun j _ _ σ g1 g2=>g2) (fun _ _ _ _ _ h=>h) rfl ?_ ?_ (fun D c H' σb w _ h _=>h.elim)
    ·rintro ly p hp H6 σb2 σf2 w hle6 rfl hs ⟨rr,hrr⟩
     have hpm:p<s.many:=by rw [ea] at hp;exact hp
     have hin:p/s.wa.length<s.st.length:=Nat.div_lt_of_lt_mul (by rw [Nat.mul_comm];exact hpm)
     have hkm:=Nat.mod_lt p hsm.2.2.1
     have hsucc:fX s q rows (p+1)=fX s q rows p+gi (jT s q) (p+1)*gt rows (p/s.wa.length) (p%s.wa.length):=rfl
     have hb0:=jf hok hq hh p ak
     have hb1:=jf hok hq hh (p+1) ak
     have hwz:=lr hok hq
     have hwz2:=gM (jT s q) (v:=p+1) (n:=s.many+1) ak
     have hnum:=hh.num _ hin _ hkm
     have hrow:=hh.row _ hin
     have hrlen:=hh.len
     have hprd:=kr (a:=gi (jT s q) (p+1)) (b:=gt rows (p/s.wa.length) (p%s.wa.length)) (A:=3456000000000) (B:=20000) ak ak
     have hgt:gt rows (p/s.wa.length) (p%s.wa.length)=gi (gr rows (p/s.wa.length)) (p%s.wa.length):=rfl
     rw [mg hp]
     generalize p/s.wa.length=i at*
     generalize p%s.wa.length=k at*
     rw [hgt] at hsucc hprd hnum
     refine .region ?_
     refine .o (.alloc hs kh rfl fun b13 w hs=>?_)
     refine .o (.aZ (vs:=[_,_,_]) hs rfl rfl ou fun w hs=>?_)
     refine .nil ?_
     refine nT ?_
     refine ⟨H6,[.blk b13 [I (i:Int),I (k:Int),I ((p+1:Nat):Int)],.blk b12 [I (fX s q rows p)],.blk b9 [.slice al (jT s q).length cl],.blk b4 [.slice ah rows.length ch]],HLe.refl _,hs,?_⟩;rintro w σf4 - hs
     refine .block ?_
     refine .draw mix rfl hs fun w hs=>?_
     refine .y 0 rfl hs af ?_;refine .y 1 rfl hs an ?_;refine .z 2 rfl (zfa dU) ?_;refine .y 3 rfl hs af ?_
     refine .ixX (enc:=fun x=>[I x]) (i:=4) hs rfl au .none (hW.mono hle6) rfl rfl ae ai (bn (l:=(jT s q)) (i:=(p+1)) ak) cD ?_;intro b39 o39 hc39;replace hc39:=bu.one hc39
     refine .r (i:=5) hs rfl au .none (aJ rfl af hc39) ?_
     refine .z 6 rfl (zfa dz) ?_;refine .y 7 rfl hs ep ?_;refine .z 8 rfl (zfa cZ) ?_;refine .y 9 rfl hs af ?_
     refine .ixT (i:=10) hs rfl au .none (hr5.mono hle6) rfl rfl aq az (show i<_ by omega) cD ?_;intro b45 o45 a45 c45 hc45 hR45
     refine .r (i:=11) hs rfl au .none (aJ rfl an hc45) ?_
     refine .z 12 rfl (zfa cV) ?_;refine .y 13 rfl hs af ?_
     refine .ixX (enc:=fun x=>[I x]) (i:=14) hs rfl au .none hR45 rfl rfl ae ai (bn (l:=(gr rows i)) (i:=k) ak) cD ?_;intro b49 o49 hc49;replace hc49:=bu.one hc49
     refine .r (i:=15) hs rfl au .none (aJ rfl af hc49) ?_
     refine .z 16 rfl jS ?_;refine .z 17 rfl ck ?_
     refine .E 18 hs ?_
     refine .store hs rfl rfl ai ?_;intro w hs
     refine .go ?_
     refine .D hs ?_
     refine nB ?_
     exact ⟨H6,[.blk b12 [I (fX s q rows (p+1))],.blk b9 [.slice al (jT s q).length cl],.blk b4 [.slice ah rows.length ch]],HLe.refl _,by rw [hsucc];exact (hs.sb:St H6 w (.blk b12 _:: .blk b9 _:: .blk b4 _::σf4)),rfl⟩
    ·rintro D H6 σb2 w hle6 rfl hs
     rw [ea] at hs
     replace hs:St H6 w (.obj D (.deferred (some [])):: .blk b12 [I (fX s q rows s.many)]:: .blk b9 [.slice al (jT s q).length cl]:: .blk b4 [.slice ah rows.length ch]::σ):=hs
     have hbd:=jf hok hq hh s.many ak
     have hdp:=ss q
     refine nB (nT ?_)
     refine .aj (.y hs (zld af) (.z zm ?_))
     refine .o (.call Tryz.call86 rfl (je hs ak ak) ?_);rintro _ w ⟨rfl,hs⟩
     refine .z zg (.z zg (.nil ?_))
     refine .ret ?_
     exact Fin.iA [D] [] hs fun w hs=>⟨_,results2 Tryz.results37 rfl rfl,H6,_,_,hle05.trans hle6,rfl,.ok hok hh hq,hs.out⟩
set_option maxHeartbeats 4000000 in
theorem qP{s:Srv}{r:Rdg}{vst vwa vr vc:Value}{z:Int}(hs:St H w σ)(h1:RI H vst s.sp.st)(h2:RI H vwa s.sp.wa)(h3:RRd H vr s.rs)(h4:RCm H vc s.cs)(hr0:r.val=0):
  Cl Tryz.prog 46 [.agg #[I s.sp.id,I s.sp.src,vst,vwa,I s.sp.al,I s.sp.up,vr,vc],.agg #[I r.src,I r.st,I r.wa,I z,I r.tol,I r.tape,I r.day]] w fun u w'=>∃H1 lo hi e,HLe H H1∧u= .tuple #[.agg #[I lo,I hi],I e]∧tI s r lo hi e∧St H1 w' σ:=by
 obtain ⟨ast,cst,rfl⟩:=RI.shape h1
 obtain ⟨awa,cwa,rfl⟩:=RI.shape h2
 obtain ⟨ar,cr,rfl⟩:=RRd.shape h3
 obtain ⟨ac,cc,rfl⟩:=RCm.shape h4
 refine Cl.o Tryz.func46 Tryz.ntmps46 ag2 ?_
 refine .aj ?_
 refine .bx hs fun b2 w hs=>?_
 refine .bx hs fun b3 w hs=>?_
 refine .o (.alloc hs eU rfl fun b4 w hs=>?_)
 refine .z zg (.nil (.seq (.aj (.y hs (zls [_,_,_,_,_,_,_,_] aP aE) ?_))))
 refine .o (.call wy rfl (dY (s:=s) hs h1 h2 h3 h4) ?_);rintro _ w ⟨H1,e,hle1,rfl,hC,hs⟩
 refine .z zg (.nil (.aj (.z zm (.z gx (.nil ?_)))))
 refine (.eH rfl (fun hc19=>?_) (fun hc19=>?_))
 ·refine .aj (.z (zbd [_,_] cn) (.z zm ?_))
  refine .o (.aZ (vs:=[_,_]) hs rfl rfl aT fun w hs=>?_)
  refine .z zg (.nil ?_)
  refine .ret (rT (?_))
  exact Fin.iA [] [] hs fun w hs=>⟨_,results2 ow (dF (vs:=[_,_]) hs rfl dw aT) rfl,H1,_,_,_,hle1,rfl,.bad hC hc19,hs.out⟩
 ·refine .skip ?_
  refine nT ?_
  refine .aj (.z (zfa cM) ?_)
  refine .o (.store hs rfl rfl ai fun w hs=>?_)
  refine .nil (.seq (.aj (.z (zfa aO) (.y hs (zls [_,_,_,_,_,_] aH aC) (.y hs (zls [_,_,_,_,_,_,_] dB aF) ?_)))))
  have hok:eh s:=hC.cu.1 (by simpa using hc19)
  have hsm:=dW hok.early.1
  have hrl:=hok.early.2.1
  have hcl:=hok.early.2.2.1
  have hmm:=hok.many
  have hll:=hok.bP
  have hn:=qG s
  have htl:s.bq.length≤60:=by have:=dp s.rs;unfold Srv.bq;omega
  change St _ _ (.blk b4 _:: .blk b3 [I r.src,I r.st,I r.wa,I 0,I r.tol,I r.tape,I r.day]::_) at hs
  refine .o (.call Tryz.call107 rfl (iW (s:=s.sp) (r:=⟨r.src,r.st,r.wa,0,r.tol,r.tape,r.day⟩) hs (h1.mono hle1) (h2.mono hle1)) ?_);rintro _ w ⟨b26,rfl,hb26,hs⟩
  rw [show (⟨r.src,r.st,r.wa,0,r.tol,r.tape,r.day⟩:Rdg)=r by rw [←hr0]] at hb26
  refine .z gV (.nil ?_)
  refine (.cond rfl (fun hc27=>?_) (fun hc27=>?_))
  ·refine .aj (.z (zbd [_,_] cn) ?_)
   refine .o (.aZ (vs:=[_,_]) hs rfl rfl aT fun w hs=>?_)
   refine .z zg (.nil ?_)
   refine .ret (rT (?_))
   exact Fin.iA [] [] hs fun w hs=>⟨_,results2 ow (dF (vs:=[_,_]) hs rfl dw aT) rfl,H1,_,_,_,hle1,rfl,.rdg hok (fun h=>by rw [hb26.2 h] at hc27;cases hc27),hs.out⟩
  ·refine .skip ?_
   refine nT ?_
   refine .aj (.y hs (zls [_,_,_,_,_,_,_,_] aP aE) ?_)
   have hr:jh s.sp r:=hb26.1 (by simpa using hc27)
   obtain ⟨g1,g2,g3,g4,g5,g6,g7⟩:=id hr
   refine .o (.call wx rfl (kQ (s:=s) hs (h1.mono hle1) (h2.mono hle1) (h3.mono hle1) (h4.mono hle1) hok.early) ?_);rintro _ w ⟨H2,vl,enL,hle2,rfl,hOL,hs⟩
   have hle02:=hle1.trans hle2
   obtain ⟨al,ll,cl,rfl,hlL⟩:=hOL.shape
   rw [dx] at hlL
   refine .o (.alloc hs bV rfl fun b7 w hs=>?_)
   refine .o (.aZ (vs:=[_,_]) hs rfl rfl aB fun w hs=>?_)
   refine .nil (.aj (.y hs (zls [_,_,_,_,_,_,_,_] aP aE) ?_))
   refine .o (.call Tryz.call90 rfl (lP (s:=s) hs (h3.mono hle02) ak) ?_);rintro v32 w ⟨H3,enT,hle3,hOT,hs⟩
   have hle03:=hle02.trans hle3
   obtain ⟨at_,ct,rfl⟩:=hOT.jV (kE _) ak
   rw [dr] at hOT ⊢
   refine .z zg (.nil (.aj (.z zm (.y hs (zls [_,_,_,_,_,_,_] dB aF) ?_))))
   refine .o (.call Gg rfl (fb (r:=⟨r.src,r.st,r.wa,0,r.tol,r.tape,r.day⟩) hs) ?_);rintro _ w ⟨rfl,hs⟩
   refine .o (.call Tryz.call89 rfl (pG (t:=r.td) hs hOT ak) ?_);rintro _ w ⟨rfl,hs⟩
   have hnn:=kN (l:=s.bq) (t:=r.td)
   have hcap2:s.sys.many=((s.sp.many+s.bq.length:Nat):Int):=rfl
   refine .z zg (.nil ?_)
   refine .cut (fun fs w=>∃H4 al ll cl enL,kg fs ⟨134,[],[(9,I (s.tJ r.td:Int)),(7,.pointer (some ⟨b7,0,none⟩)),(4,.pointer (some ⟨b4,0,none⟩)),(3,.pointer (some ⟨b3,0,none⟩)),(2,.pointer (some ⟨b2,0,none⟩))]⟩∧HLe H3 H4∧cf 4 (.slice al ll cl) (fV (s.mH r.td).bP) enL∧St H4 w (.blk b7 [I (s.mH r.td).many,.slice al ll cl]::enL:: .blk b4 [I 0,I 0]:: .blk b3 [I r.src,I r.st,I r.wa,I 0,I r.tol,I r.tape,I r.day]:: .blk b2 [I s.sp.id,I s.sp.src,.slice ast s.sp.st.length cst,.slice awa s.sp.wa.length cwa,I s.sp.al,I s.sp.up,.slice ar s.rs.length cr,.slice ac s.cs.length cc]::σ)) ?_ ?_
   ·refine .aj (.z zm (.z fH (.nil ?_)))
    refine (.bB rfl (fun hc38=>?_) (fun hc38=>?_))
    ·refine .aj (.z zm (.z (cB aU) (.z zg (.nil ?_))))
     refine .seq (.draw mix rfl hs fun w hs=>?_)
     refine .ys 0 rfl hs [_,_,_,_,_,_,_,_] aP aE ?_;refine .z 1 rfl zm ?_;refine .ys 2 rfl hs [_,_,_,_,_,_,_] dB aF ?_
     refine .E 3 hs ?_
     refine .call Gg rfl (fb (r:=⟨r.src,r.st,r.wa,0,r.tol,r.tape,r.day⟩) hs) ?_;rintro _ w ⟨rfl,hs⟩
     refine .go ?_
     refine .E 4 hs ?_
     refine .buildSlice (cells:=[_,_]) hs fI rfl rfl ?_;intro b45 w hs
     refine .go ?_
     refine .E 5 hs ?_
     refine .append (ys:=r.td.c) hs dK rfl rfl hOT (.own .here rfl rfl) (by simp [TD.c,Value.oneCell']) (fun l h=>by rw [bT _ (kE _),dr] at h;omega) ?_;intro v46 en46 w hO46 hs
     rw [←se] at hO46
     obtain ⟨H4,hle4,hT4,hs⟩:=cf.cq (m:=2) (cs:=tdc (s.bq++[r.td])) hO46 (kE _) ak (by rw [dr];simp;omega) hs cP
     replace hT4:RTd H4 v46 (s.bq++[r.td]):=hT4
     obtain ⟨a46,c46,rfl⟩:=RTd.shape hT4
     have hle04:=hle03.trans hle4
     have hk4:MkK H4 s (s.bq++[r.td]) (.slice ast s.sp.st.length cst) (.slice awa s.sp.wa.length cwa) (.slice ar s.rs.length cr) (.slice ac s.cs.length cc) (.slice a46 (s.bq++[r.td]).length c46):=⟨h1.mono hle04,h2.mono hle04,h3.mono hle04,h4.mono hle04,hT4⟩
     refine .go ?_
     refine .z 6 rfl (zbd (vs:=[(0,.agg #[I s.sp.id,I s.sp.src,.slice ast s.sp.st.length cst,.slice awa s.sp.wa.length cwa,I s.sp.al,I s.sp.up,.slice ar s.rs.length cr,.slice ac s.cs.length cc]),(1,.slice a46 (s.bq++[r.td]).length c46)]) [I s.sp.id,I s.sp.src,.slice ast s.sp.st.length cst,.slice awa s.sp.wa.length cwa,I s.sp.al,I s.sp.up,.slice ar s.rs.length cr,.slice ac s.cs.length cc,.slice a46 (s.bq++[r.td]).length c46,.slice none 0 0] lY rfl au) ?_
     refine .E 7 hs ?_
     refine .box hs rfl rfl ?_;intro b48 w hs
     refine .go ?_
     refine .z 8 rfl zg ?_;refine .D hs ?_
     refine .seq (.draw mix rfl hs fun w hs=>?_)
     refine .z 0 rfl zm ?_;refine .z 1 rfl zm ?_;refine .z 2 rfl zm ?_;refine .z 4 rfl (zfa aO) ?_;refine .z 5 rfl (zfa dv) ?_;refine .y 6 rfl hs af ?_
     refine .E 3 hs ?_
     refine .call Tryz.call116 rfl (iO (s:=s.sp) hs .here hk4.st hk4.wa ⟨ak,ak⟩ ⟨ak,ak⟩) ?_;rintro _ w ⟨rfl,hs⟩
     refine .go ?_
     refine .E 7 hs ?_
     refine .call tQ rfl (fC (ls:=[]) (hs.nul.sb:St H4 w (.blk b48 _:: .nul:: .blk b7 [I s.sys.many,.slice al ll cl]::enL:: .blk b4 [I 0,I 0]:: .blk b3 [I r.src,I r.st,I r.wa,I 0,I r.tol,I r.tape,I r.day]:: .blk b2 [I s.sp.id,I s.sp.src,.slice ast s.sp.st.length cst,.slice awa s.sp.wa.length cwa,I s.sp.al,I s.sp.up,.slice ar s.rs.length cr,.slice ac s.cs.length cc]::σ)) (.nil 4 none) bL) ?_;rintro _ w ⟨vl5,en5,hO5,hs⟩
     rw [List.nil_append] at hO5
     refine .go ?_
     refine .D hs ?_
     refine .aj (.z zm (.z zm ?_))
     refine .o (.call Tryz.call117 rfl (ku (s:=s) (ts:=s.bq++[r.td]) (j0:=s.bq.length) hs hk4 hO5 (by simp [two]) hok.early.1 (by simp;omega) hcl hok.early.2.2.2.2 bL) ?_);rintro _ w ⟨H5,vl6,en6,hle5,hO6,hs⟩
     obtain ⟨a6,l6,c6,rfl,hl6⟩:=hO6.shape
     have hnot:r.td∉s.bq:=fun h=>by have:=hnn.2 h;omega
     have hsys:s.mH r.td=⟨s.sys.many+1,s.bP++(two 0 ((s.sp.many:Int)+1+(s.bq.length:Int)) 1000 1000 s.sp.src++qZ s.sp (s.bq++[r.td]) s.cs s.bq.length s.cs.length)⟩:=if_neg hnot
     have hlen6:=B6 hok r.td
     rw [hsys,List.length_append] at hlen6
     rw [dx] at hl6
     refine .nil ?_
     refine .draw mix rfl hs fun w hs=>?_
     refine .z 0 rfl (zfa bI) ?_;refine .y 1 rfl hs af ?_;refine .z 2 rfl ck ?_;refine .z 3 rfl (zfa bE) ?_;refine .y 4 rfl hs cA ?_;refine .z 5 rfl zm ?_;refine .z 6 rfl znc ?_;refine .z 7 rfl (zfa gq) ?_;refine .y 8 rfl hs cA ?_;refine .z 10 rfl (zfa bI) ?_
     refine .E 9 hs ?_
     refine .append (ys:=fV (two 0 ((s.sp.many:Int)+1+(s.bq.length:Int)) 1000 1000 s.sp.src++qZ s.sp (s.bq++[r.td]) s.cs s.bq.length s.cs.length)) hs bM rfl rfl hOL (Src.E9 hO6 (.there .here)) (jF _) (fun l h=>by rw [dx] at h;omega) ?_;intro v69 en69 w hO69 hs
     rw [←fG] at hO69
     obtain ⟨a69,l69,c69,rfl,h69⟩:=hO69.shape
     refine .go ?_
     refine .E 11 hs ?_
     refine .store hs rfl rfl ai ?_;intro w hs
     refine .go ?_
     refine .z 12 rfl (zfa bE) ?_
     refine .E 13 hs ?_
     refine .store hs rfl rfl j7 ?_;intro w hs
     refine .go ?_
     refine .D hs ?_
     refine nT ?_
     refine ⟨H5,a69,l69,c69,en69,?_,hle4.trans hle5,by rw [hsys];exact hO69,by rw [hsys];exact hs.sb⟩
     refine .bU rfl ?_ aR
     unfold Srv.tJ;rw [if_neg hnot]
    ·refine .skip ?_
     refine nT ?_
     have hmem:r.td∈s.bq:=hnn.1 ak
     have hsys:s.mH r.td=s.sys:=if_pos hmem
     obtain ⟨k,k1,_,_⟩:=fa hmem
     refine ⟨H3,al,ll,cl,enL,?_,HLe.refl _,by rw [hsys];exact hOL,by rw [hsys];exact hs.sb⟩
     refine .bU rfl ?_ aR
     unfold Srv.tJ;rw [if_pos hmem,k1];rfl
   ·clear hOL hOT hlL hnn
    rintro fs w ⟨H4,al,ll,cl,enL,hfs,hle4,hOL,hs⟩
    refine WE.sub ?_ hfs
    have hle04:=hle03.trans hle4
    obtain ⟨_,_,_,e0,hlL⟩:=hOL.shape
    cases e0
    rw [dx] at hlL
    have htn:=Dj s r.td
    have hjlt:=FE s r.td
    have hmany:(s.mH r.td).many+1=((s.mH r.td).n:Int):=by
     unfold Srv.mH
     split
     ·simp only [cj.n,Srv.sys];omega
     ·simp only [cj.n,Srv.sys];omega
    have hn70:(s.mH r.td).n≤200:=by rw [htn];split<;>omega
    have hll6:ll=(s.mH r.td).bP.length:=by omega
    refine .seq (.aj (.z (zfa bI) (.y hs (zld af) (.z kD (.z zm ?_)))))
    refine .iD (t':=75) rfl (fun hb75=>?_) (fun hb75=>?_)
    ·refine .gFs 4 3 false rfl rfl rfl ?_
     refine .z zpT (.nil ?_)
     refine (.cT ?_)
     refine .aj (.z (zbd [_,_] cn) ?_)
     refine .o (.aZ (vs:=[_,_]) hs rfl rfl aT fun w hs=>?_)
     refine .z zg (.nil ?_)
     refine .ret (rT (?_))
     exact Fin.iA [] [] hs fun w hs=>⟨_,results2 ow (dF (vs:=[_,_]) hs rfl dw aT) rfl,H4,_,_,_,hle04,rfl,.long hok hr ak,hs.out⟩
    ·refine .gT rfl rfl ?_
     refine .z (zfa bE) ?_
     refine .gT rfl rfl ?_
     refine .y hs (zld cA) ?_
     refine .gT rfl rfl ?_
     refine .z (cB aI) ?_
     refine .gT rfl rfl ?_
     refine .z kD (.z zpF (.nil ?_))
     refine (.bB rfl (fun hc80=>?_) (fun hc80=>?_))
     ·refine .aj (.z (zbd [_,_] cn) ?_)
      refine .o (.aZ (vs:=[_,_]) hs rfl rfl aT fun w hs=>?_)
      refine .z zg (.nil ?_)
      refine .ret (rT (?_))
      exact Fin.iA [] [] hs fun w hs=>⟨_,results2 ow (dF (vs:=[_,_]) hs rfl dw aT) rfl,H4,_,_,_,hle04,rfl,.long hok hr ak,hs.out⟩
     ·refine .skip ?_
      refine nT ?_
      refine .aj (.z (zfa bI) (.y hs (zld af) (.z ck ?_)))
      have hfit:(s.mH r.td).many≤64∧(s.mH r.td).bP.length≤400:=by omega
      refine .o (.pZ (s.mH r.td).n hs (by show some (I _)=some (I _);rw [←hmany]) (by show some (I _)=some (I _);rw [←hmany]) ae dS rfl ai bJ ak ?_);intro b85 w hs
      obtain ⟨u1,u2,u3⟩:=zF hr
      have hub:=sE u1 u2
      refine .z zg (.nil (.aj (.z zm (.z (zfa aO) (.y hs (zls [_,_,_,_,_,_] aH aC) (.z (zfa eM) (.y hs (zld af) (.z (zfa eL) (.y hs (zld af) ?_)))))))))
      refine .o (.call Tryz.call118 rfl (jY (s:=s.sp) hs (h2.mono hle04) ak ⟨ak,ak⟩ ⟨ak,ak⟩) ?_);rintro _ w ⟨rfl,hs⟩
      rw [u3]
      refine .q hs (dH (k:=s.sp.u r.st.toNat r.wa.toNat) rfl rfl ae ai rfl ak) ?_
      refine .o (.store (c':=Is (qC (s.mH r.td).n (s.sp.u r.st.toNat r.wa.toNat) 1)) hs rfl rfl ai ?_ cP (by simp [Is];omega) (mA _ _ _));intro w hs
      refine .nil (.aj (.z zm (.z (zfa aO) (.y hs (zls [_,_,_,_,_,_] aH aC) ?_))))
      refine .o (.call Tryz.call91 rfl (fM (s:=s.sp) hs (h1.mono hle04) (h2.mono hle04) ⟨ak,ak⟩) ?_);rintro _ w ⟨rfl,hs⟩
      refine .z ck (.z zm (.z ck ?_))
      refine .q hs (dH (k:=s.sp.many+1+s.tJ r.td) rfl rfl ae ai ak ak) ?_
      refine .o (.store (c':=Is (s.tW r)) hs rfl rfl ai ?_ cP (by simp [Is,iz];omega) (mA _ _ _));intro w hs
      refine .nil (.aj (.y hs (zls [_,_] aN aB) (.z zm ?_)))
      have hwl:(s.tW r).length=(s.mH r.td).n:=by simp [Srv.tW,iz]
      obtain ⟨H5,hle5,hW,hs⟩:=cf.de (xs:=s.tW r) (v:= .slice (some ⟨b85,0,none⟩) (s.mH r.td).n (s.mH r.td).n) (.full (by simp [Is,hwl])) ak hs cP
      obtain ⟨H6,hle6,hL6,hs⟩:=cf.cq (m:=4) (cs:=(s.mH r.td).bP.map Lim.c) hOL (fun c hc=>by simp only [List.mem_map] at hc;obtain ⟨x,_,rfl⟩:=hc;rfl) ak (by rw [List.length_map];omega) hs cP
      refine .o (.call Tryz.call74 rfl (jP (s:=s.mH r.td) hs ⟨_,rfl,hL6⟩ (hW.mono hle6)) ?_);rintro _ w ⟨H7,a,b,f,hle7,rfl,hRg,hs⟩
      have hbd:=hRg.bd
      have hleF:=hle04.trans (hle5.trans (hle6.trans hle7))
      refine .z zm (.z zex (.z zex (.z zex (.z zg (.z zg (.z zg (.nil (.seq (.aj ?_)))))))))
      refine .z zm (.z gx (.nil ?_))
      refine (.eH rfl (fun hc111=>?_) (fun hc111=>?_))
      ·refine .aj (.z (zbd [_,_] cn) ?_)
       refine .o (.aZ (vs:=[_,_]) hs rfl rfl aT fun w hs=>?_)
       refine .z zg (.nil ?_)
       refine .ret (rT (?_))
       exact Fin.iA [] [] hs fun w hs=>⟨_,results2 ow (dF (vs:=[_,_]) hs rfl dw aT) rfl,H7,_,_,_,hleF,rfl,.fls hok hr hfit hRg hc111,hs.out⟩
      ·refine .skip ?_
       refine nT ?_
       refine .aj ?_
       obtain rfl:f=0:=by simpa using hc111
       refine .z zm (.z (zfa bY) (.y hs (zld af) (.z gL (.z Dd (.z zm (.z (zfa bY) (.y hs (zld af) (.z ck (.z (zfa bY) ?_)))))))))
       refine .y hs (zld af) (.z gL (.z zr (.z (zbd [_,_] cn) ?_)))
       refine .o (.alloc hs eU rfl fun b15 w hs=>?_)
       refine .o (.aZ (vs:=[_,_]) hs rfl rfl aT fun w hs=>?_)
       refine .nil (.seq (.aj (.z (zfa lh) (.y hs (zld af) (.z (zfa oA) (.y hs (zld af) (.z kD (.nil ?_))))))))
       refine (.bB rfl (fun hc131=>?_) (fun hc131=>?_))
       ·refine .aj (.z (zbd [_,_] cn) ?_)
        refine .o (.aZ (vs:=[_,_]) hs rfl rfl aT fun w hs=>?_)
        refine .z zg (.nil ?_)
        refine .ret (rT (?_))
        exact Fin.iA [] [] hs fun w hs=>⟨_,results2 ow (dF (vs:=[_,_]) hs rfl dw aT) rfl,H7,_,_,_,hleF,rfl,.none hok hr hfit hRg ak,hs.out⟩
       ·refine .skip ?_
        refine nT ?_
        refine .aj (.y hs (zls [_,_] dw aT) ?_)
        refine .o (.aZ (vs:=[_,_]) hs rfl rfl aT fun w hs=>?_)
        refine .z zg (.nil ?_)
        refine .ret ?_
        exact Fin.iA [] [] hs fun w hs=>⟨_,results2 ow (dF (vs:=[_,_]) hs rfl dw aT) rfl,H7,_,_,_,hleF,rfl,.ok hok hr hfit hRg ak,hs.out⟩
set_option maxRecDepth 100000 in
theorem qK:Tryz.prog.stoodInHeld 44=false:=by kernel_rfl
set_option maxRecDepth 100000 in
theorem qL:Tryz.prog.eqGuardType Tryz.prog.depth 44=false:=by kernel_rfl
theorem oO{v1 v2:Value}{as_ bs:List Int}(hs:St H w σ)(h1:RI H v1 as_)(h2:RI H v2 bs):
  Cl Tryz.prog 34 [v1,v2] w fun u w'=>u= .bool (decide (as_=bs))∧St H w' σ:=by
 obtain ⟨a1,c1,rfl⟩:=RI.shape h1
 obtain ⟨a2,c2,rfl⟩:=RI.shape h2
 have l1:=(RI.len h1).2.2
 refine Cl.o Tryz.func34 Tryz.ntmps34 ag2 ?_
 refine .aj (.z zg (.nil (.aj (.z zm (.z (cB ae) (.z zm (.z (cB ae) (.z fo (.z zg ?_)))))))))
 refine .nil (.seq (.aj (.z zg (.nil (.block ?_)))))
 refine .loop (fun p:Nat×Bool=>⟨31,[],[(6,I (p.1:Int)),(5,.bool p.2),(0,.slice a1 as_.length c1),(1,.slice a2 bs.length c2)]⟩)
  (fun p w=>p.1≤as_.length∧(p.2=true↔as_.length=bs.length∧∀j<p.1,gi as_ j=gi bs j)∧St H w σ) (fun p=>as_.length - p.1) (0,decide ((as_.length:Int)=bs.length)) aR
  ⟨Nat.zero_le _,by dsimp only;rw [decide_eq_true_eq];exact ⟨fun h=>⟨ak,fun j hj=>by omega⟩,fun h=>by omega⟩,hs⟩ ?_
 rintro ⟨k,b⟩ w ⟨hk,hb,hs⟩
 dsimp only at hk hb ⊢
 refine .seq (.aj (.z zm (.z zm (.z (cB ae) (.z fH (.z zm ?_))))))
 refine .iD (t':=16) rfl (fun hb16=>?_) (fun hb16=>?_)
 ·refine .gT rfl rfl ?_
  refine .z zm (.z zpT (.nil ?_))
  refine (.cond rfl (fun hc18=>?_) (fun hc18=>?_))
  ·refine .skip ?_
   refine nT ?_
   refine .seq (.block ?_)
   refine .draw mix rfl hs fun w hs=>?_
   refine .z 0 rfl zm ?_;refine .z 1 rfl zm ?_
   obtain rfl:b=true:=by assumption
   obtain ⟨hlen,hall⟩:=hb.1 rfl
   refine .ixX (enc:=fun x=>[I x]) (i:=2) hs rfl au .none h1 rfl rfl ae ai (bn (l:=as_) (i:=k) ak) cD ?_;intro b23 o23 hc23;replace hc23:=bu.one hc23
   refine .r (i:=3) hs rfl au .none (aJ rfl af hc23) ?_
   refine .z 4 rfl zm ?_;refine .z 5 rfl zm ?_
   refine .ixX (enc:=fun x=>[I x]) (i:=6) hs rfl au .none h2 rfl rfl ae ai (bn (l:=bs) (i:=k) ak) cD ?_;intro b27 o27 hc27;replace hc27:=bu.one hc27
   refine .r (i:=7) hs rfl au .none (aJ rfl af hc27) ?_
   refine .z 8 rfl fo ?_;refine .z 9 rfl zg ?_;refine .D hs ?_
   refine nB (nT ?_)
   refine .region (.z zm (.z ck (.z zg (.nil ?_))))
   refine nT ?_
   exact ⟨(k+1,decide (gi as_ k=gi bs k)),.bU rfl bL aR,⟨by dsimp only;omega,by
    dsimp only
    rw [decide_eq_true_eq]
    exact ⟨fun h=>⟨hlen,fun j hj=>by
     by_cases e:j=k
     ·subst e;exact h
     ·exact hall j ak⟩,fun h=>h.2 k ak⟩,hs⟩,by dsimp only;omega⟩
  ·refine .exit ?_
   refine xT (xT (xB (nT ?_)))
   refine .aj (.z zm (.z zg (.nil ?_)))
   refine .ret (Fin.bH Tryz.results34 rfl ?_)
   have hf:b=false:=by simpa using hc18
   exact ⟨by rw [hf,decide_eq_false (fun h=>by subst h;rw [hb.2 ⟨rfl,fun j _=>rfl⟩] at hf;cases hf)],hs⟩
 ·refine .gFs 1 4 true rfl rfl rfl ?_
  refine .z zpF (.nil ?_)
  refine (.cF ?_)
  refine .exit ?_
  refine xT (xT (xB (nT ?_)))
  refine .aj (.z zm (.z zg (.nil ?_)))
  refine .ret (Fin.bH Tryz.results34 rfl ?_)
  refine ⟨?_,hs⟩
  congr 1
  cases hbb:b with
  |true=>
   obtain ⟨hl,ha⟩:=hb.1 hbb
   rw [decide_eq_true (xe hl fun j hj=>ha j ak)]
  |false=>rw [decide_eq_false (fun h=>by subst h;rw [hb.2 ⟨rfl,fun j _=>rfl⟩] at hbb;cases hbb)]
theorem p8(hs:St H w σ):
  Cl Tryz.prog 82 [] w fun u w'=>∃H1 vst vwa vr vc,HLe H H1∧u= .agg #[I 1,I 1,vst,vwa,I 100,I 200,vr,vc]∧RI H1 vst exV.sp.st∧RI H1 vwa exV.sp.wa∧RRd H1 vr exV.rs∧RCm H1 vc exV.cs∧St H1 w' σ:=by
 refine Cl.of Tryz.func82 rfl Tryz.ntmps82 bL (vZ) ?_
 refine .aj ?_
 refine .o (.alloc hs eo rfl fun b0 w hs=>?_)
 refine .nil (.aj ?_)
 refine .o (.buildSlice (cells:=Is [0,1000]) hs iC rfl au fun b2 w hs=>?_)
 refine .o (.buildSlice (cells:=Is [0,1000]) hs iC rfl au fun b3 w hs=>?_)
 refine .z (zbd [_,_] ru) (.z (zbd [_,_,_,_,_,_] qm) ?_)
 refine .o (.alloc hs gK rfl fun b1 w hs=>?_)
 refine .o (.aZ (vs:=[_,_,_,_,_,_]) hs rfl rfl aC fun w hs=>?_)
 refine .nil (.aj (.y hs (zls [_,_,_,_,_,_] aH aC) (.z (zbd [_,_,_,_,_,_,_] fh) (.z (zbd [_,_,_,_,_,_,_] fh) (.z (zbd [_,_,_,_,_,_,_] fh) (.z (zbd [_,_,_,_,_,_,_] fh) ?_))))))
 refine .o (.buildSlice (cells:=(rdc BR).flatten) hs od rfl au fun b11 w hs=>?_)
 refine .z (zbd [_,_,_,_,_,_] nz) ?_
 refine .o (.buildSlice (cells:=(cmc exV.cs).flatten) hs j5 rfl au fun b13 w hs=>?_)
 refine .z (zbd (vs:=[(0,.agg #[I 1,I 1,.slice (some ⟨b2,0,none⟩) 2 2,.slice (some ⟨b3,0,none⟩) 2 2,I 100,I 200]),(1,.slice (some ⟨b11,0,none⟩) 4 4),(2,.slice (some ⟨b13,0,none⟩) 1 1)]) [I 1,I 1,.slice (some ⟨b2,0,none⟩) 2 2,.slice (some ⟨b3,0,none⟩) 2 2,I 100,I 200,.slice (some ⟨b11,0,none⟩) 4 4,.slice (some ⟨b13,0,none⟩) 1 1] oE rfl au) ?_
 refine .o (.aZ (vs:=[_,_,_,_,_,_,_,_]) hs rfl rfl aE fun w hs=>?_)
 refine .nil ?_
 refine .ret ?_
 obtain ⟨H1,g1,r1,hs⟩:=cf.de (xs:=[0,1000]) (v:= .slice (some ⟨b2,0,none⟩) 2 2) (.full rfl) bL hs cP
 obtain ⟨H2,g2,r2,hs⟩:=cf.de (xs:=[0,1000]) (v:= .slice (some ⟨b3,0,none⟩) 2 2) (.full rfl) bL hs cP
 obtain ⟨H3,g3,r3,hs⟩:=cf.cq (m:=7) (cs:=rdc BR) (v:= .slice (some ⟨b11,0,none⟩) 4 4) (.full au) (iG _) ak gd hs cP
 obtain ⟨H4,g4,r4,hs⟩:=cf.cq (m:=6) (cs:=cmc exV.cs) (v:= .slice (some ⟨b13,0,none⟩) 1 1) (.full au) (q5 _) ak gd hs cP
 exact Fin.iA [] [] hs fun w hs=>⟨_,results1 Tryz.results82 (dF (vs:=[_,_,_,_,_,_,_,_]) hs rfl aP aE),H4,_,_,_,_,g1.trans (g2.trans (g3.trans g4)),rfl,r1.mono (g2.trans (g3.trans g4)),r2.mono (g3.trans g4),r3.mono g4,r4,hs.out⟩
theorem C0{out:List Int}{e:Int}(h:uU exW out e):out=[11,15]∧e=0:=by
 cases h with
 |bad h he=>exact (he (h.cu.2 Fh)).elim
 |ok _ h=>rw [D7] at h;exact Bm h
set_option maxHeartbeats 4000000 in
theorem ng(hs:St H w σ):
  Cl Tryz.prog 22 [] w fun u w'=>u= .bool true∧∃H1,HLe H H1∧St H1 w' σ:=by
 refine Cl.of Tryz.func22 rfl Tryz.ntmps22 bL (vZ) ?_
 refine .aj (.z zg (.nil (.aj ?_)))
 refine .o (.call Tryz.call82 rfl (p8 hs) ?_);rintro _ w ⟨H1,vst,vwa,vr,vc,hle1,rfl,h1,h2,h3,h4,hs⟩
 obtain ⟨ast,cst,rfl⟩:=RI.shape h1
 obtain ⟨awa,cwa,rfl⟩:=RI.shape h2
 obtain ⟨ar,cr,rfl⟩:=RRd.shape h3
 obtain ⟨ac,cc,rfl⟩:=RCm.shape h4
 refine .o (.alloc hs eo rfl fun b1 w hs=>?_)
 refine .o (.aZ (vs:=[_,_,_,_,_,_,_,_]) hs rfl rfl aE fun w hs=>?_)
 refine .nil (.aj (.y hs (zls [_,_,_,_,_,_,_,_] aP aE) (.z (zbd [_,_,_] jD) ?_)))
 refine .o (.call Tryz.call26 rfl (kU (s:=exV) (q:=⟨1,0,1⟩) hs h1 h2 h3 h4) ?_);rintro _ w ⟨H2,lo,hi,e,hle2,rfl,hQ,hs⟩
 obtain ⟨rfl,rfl,rfl⟩:=Bl hQ
 have hle02:=hle1.trans hle2
 replace h1:=h1.mono hle2
 replace h2:=h2.mono hle2
 replace h3:=h3.mono hle2
 replace h4:=h4.mono hle2
 refine .z zm (.z zex (.z zex ?_))
 refine .o (.alloc hs eU rfl fun b2 w hs=>?_)
 refine .o (.aZ (vs:=[_,_]) hs rfl rfl aT fun w hs=>?_)
 refine .z zg (.nil (.aj (.y hs (zls [_,_,_,_,_,_,_,_] aP aE) (.z (zbd [_,_] fO) ?_))))
 refine .o (.call Tryz.call28 rfl (qQ (s:=exV) (t:=⟨2,5⟩) hs h1 h2 h3 h4) ?_);rintro _ w ⟨H3,lo,hi,e,hle3,rfl,hQ,hs⟩
 obtain ⟨rfl,rfl,rfl⟩:=D6 hQ
 have hle03:=hle02.trans hle3
 replace h1:=h1.mono hle3
 replace h2:=h2.mono hle3
 replace h3:=h3.mono hle3
 replace h4:=h4.mono hle3
 refine .z zm (.z zex (.z zex ?_))
 refine .o (.alloc hs eU rfl fun b4 w hs=>?_)
 refine .o (.aZ (vs:=[_,_]) hs rfl rfl aT fun w hs=>?_)
 refine .z zg (.nil (.aj (.z (zfa aO) (.y hs (zls [_,_,_,_,_,_] aH aC) ?_))))
 refine .o (.buildSlice (cells:=Is [100,200]) hs iC rfl au fun b30 w hs=>?_)
 refine .o (.buildSlice (cells:=Is [150,300]) hs iC rfl au fun b31 w hs=>?_)
 refine .o (.buildSlice (cells:=[.slice (some ⟨b30,0,none⟩) 2 2,.slice (some ⟨b31,0,none⟩) 2 2]) hs ug rfl au fun b32 w hs=>?_)
 refine .z (zbd [_] ny) (.z (zbd [_,_,_] jD) ?_)
 obtain ⟨H4,g1,r1,hs⟩:=cf.de (xs:=[100,200]) (v:= .slice (some ⟨b30,0,none⟩) 2 2) (.full rfl) bL hs cP
 obtain ⟨H5,g2,r2,hs⟩:=cf.de (xs:=[150,300]) (v:= .slice (some ⟨b31,0,none⟩) 2 2) (.full rfl) bL hs cP
 have hRL:RLs H5 [.slice (some ⟨b30,0,none⟩) 2 2,.slice (some ⟨b31,0,none⟩) 2 2] y0:=((RLs.nil H5).snoc (r1.mono g2)).snoc r2
 obtain ⟨H6,g3,hRT,hs⟩:=hRL.cq (v:= .slice (some ⟨b32,0,none⟩) 2 2) (en:= .blk b32 [.slice (some ⟨b30,0,none⟩) 2 2,.slice (some ⟨b31,0,none⟩) 2 2]) (.full rfl) bL hs cP
 have hle4:=g1.trans (g2.trans g3)
 have hle06:=hle03.trans hle4
 replace h1:=h1.mono hle4
 replace h2:=h2.mono hle4
 replace h3:=h3.mono hle4
 replace h4:=h4.mono hle4
 refine .o (.call Tryz.call37 rfl (pS (s:=zX) (q:=⟨1,0,1⟩) hs h1 h2 hRT) ?_);rintro _ w ⟨H7,n,e,hle7,rfl,hQ,hs⟩
 obtain ⟨rfl,rfl⟩:=CR hQ
 have hle07:=hle06.trans hle7
 replace h1:=h1.mono hle7
 replace h2:=h2.mono hle7
 replace h3:=h3.mono hle7
 replace h4:=h4.mono hle7
 refine .z zm (.z zex (.z zex (.z zg (.z zg (.nil (.aj (.y hs (zls [_,_,_,_,_,_,_,_] aP aE) (.z (zbd [_,_,_,_,_,_,_] fh) ?_))))))))
 refine .o (.call Tryz.call46 rfl (qP (s:=exV) (r:=⟨30,1,0,0,5,1,5⟩) hs h1 h2 h3 h4 rfl) ?_);rintro _ w ⟨H8,lo,hi,e,hle8,rfl,hQ,hs⟩
 obtain ⟨rfl,rfl,rfl⟩:=D5 hQ
 have hle08:=hle07.trans hle8
 replace h1:=h1.mono hle8
 replace h2:=h2.mono hle8
 replace h3:=h3.mono hle8
 replace h4:=h4.mono hle8
 refine .z zm (.z zex (.z zex ?_))
 refine .o (.alloc hs eU rfl fun b8 w hs=>?_)
 refine .o (.aZ (vs:=[_,_]) hs rfl rfl aT fun w hs=>?_)
 refine .z zg (.nil (.aj (.y hs (zls [_,_,_,_,_,_,_,_] aP aE) ?_)))
 refine .o (.alloc hs eo rfl fun b10 w hs=>?_)
 refine .o (.aZ (vs:=[_,_,_,_,_,_,_,_]) hs rfl rfl aE fun w hs=>?_)
 refine .nil (.aj ?_)
 refine .o (.buildSlice (cells:=[]) hs oe rfl rfl fun b45 w hs=>?_)
 refine .z (zfa aM) (.y hs (zld bj) ?_)
 refine .o (.append (xs:=[]) (ys:=(rdc BR).flatten) hs cE rfl rfl (.full (b:=b45) (len:=0) rfl) (.rs h3) gd (fun l' h=>by have hl:l'=0:=(by simp at h;omega);subst hl;decide) ?_);intro v48 en48 w hO48 hs
 rw [List.nil_append] at hO48
 obtain ⟨a48,c48,rfl⟩:=hO48.jV (iG BR) ak
 refine .z (zbd [_,_,_,_,_,_,_] fh) ?_
 refine .o (.buildSlice (cells:=Rdg.c ⟨15,0,0,300,10,1,5⟩) hs eS rfl au fun b50 w hs=>?_)
 refine .o (.append (ys:=Rdg.c ⟨15,0,0,300,10,1,5⟩) hs cE rfl rfl hO48 (.own .here rfl rfl) gd (fun l' h=>by rw [bT _ (iG _)] at h;simp [rdc,BR] at h;omega) ?_);intro v51 en51 w hO51 hs
 rw [←pM] at hO51
 obtain ⟨H9,hle9,h3w,hs⟩:=cf.cq (m:=7) (cs:=rdc (BR++[⟨15,0,0,300,10,1,5⟩])) hO51 (iG _) ak gd hs cP
 replace h3w:RRd H9 v51 exW.rs:=h3w
 obtain ⟨a51,c51,rfl⟩:=RRd.shape h3w
 have hle09:=hle08.trans hle9
 replace h1:=h1.mono hle9
 replace h2:=h2.mono hle9
 replace h4:=h4.mono hle9
 refine .z (zfa aM) ?_
 refine .o (.store hs rfl rfl ml fun w hs=>?_)
 refine .nil (.aj (.y hs (zls [_,_,_,_,_,_,_,_] aP aE) ?_))
 refine .o (.call Tryz.call32 rfl (kT (s:=exW) hs h1 h2 h3w h4) ?_);rintro _ w ⟨H10,vx,out,e,hle10,rfl,hR,hQ,hs⟩
 obtain ⟨rfl,rfl⟩:=C0 hQ
 have hle010:=hle09.trans hle10
 refine .z zm (.z zex (.z zex (.z zg (.z zg (.nil (.aj (.z zm ?_)))))))
 refine .o (.buildSlice (cells:=Is [11,15]) hs iC rfl au fun b59 w hs=>?_)
 obtain ⟨H11,hle11,r59,hs⟩:=cf.de (xs:=[11,15]) (v:= .slice (some ⟨b59,0,none⟩) 2 2) (.full rfl) bL hs cP
 have hleF:=hle010.trans hle11
 refine .o (.call Tryz.call34 rfl (oO hs (hR.mono hle11) r59) ?_);rintro _ w ⟨rfl,hs⟩
 refine .z zg (.nil (.aj (.z zm (.z fo (.z zm ?_)))))
 refine .iD (t':=63) rfl (fun hb63=>?_) (fun hb63=>?_)
 ·refine .gT rfl rfl ?_
  refine .y hs (zls [_,_] dw aT) ?_
  refine .gT rfl rfl ?_
  refine .z (zbd [_,_] cn) ?_
  refine .gT rfl rfl ?_
  refine .q hs (rm qK qL kI (fun f hf=>by
   simp only [List.mem_cons,List.not_mem_nil,or_false] at hf
   rcases hf with rfl|rfl<;>exact ⟨by decide,bh,af⟩) rfl rfl) ?_
  refine .z zpT (.z zm ?_)
  refine .bif (t':=68) rfl (fun hb68=>?_) (fun hb68=>?_)
  ·refine .gT rfl rfl ?_
   refine .z zm ?_
   refine .gT rfl rfl ?_
   refine .z fo (.z zpT (.z zm ?_))
   refine .iD (t':=72) rfl (fun hb72=>?_) (fun hb72=>?_)
   ·refine .gT rfl rfl ?_
    refine .y hs (zls [_,_] dw aT) ?_
    refine .gT rfl rfl ?_
    refine .z (zbd [_,_] cn) ?_
    refine .gT rfl rfl ?_
    refine .q hs (rm qK qL kI (fun f hf=>by
     simp only [List.mem_cons,List.not_mem_nil,or_false] at hf
     rcases hf with rfl|rfl<;>exact ⟨by decide,bh,af⟩) rfl rfl) ?_
    refine .z zpT (.z zm ?_)
    refine .bif (t':=77) rfl (fun hb77=>?_) (fun hb77=>?_)
    ·refine .gT rfl rfl ?_
     refine .z zm ?_
     refine .gT rfl rfl ?_
     refine .z fo (.z zpT (.z zm ?_))
     refine .iD (t':=81) rfl (fun hb81=>?_) (fun hb81=>?_)
     ·refine .gT rfl rfl ?_
      refine .z zm ?_
      refine .gT rfl rfl ?_
      refine .z fo (.z zpT (.z zm ?_))
      refine .iD (t':=85) rfl (fun hb85=>?_) (fun hb85=>?_)
      ·refine .gT rfl rfl ?_
       refine .z zm ?_
       refine .gT rfl rfl ?_
       refine .z fo (.z zpT (.z zm ?_))
       refine .iD (t':=89) rfl (fun hb89=>?_) (fun hb89=>?_)
       ·refine .gT rfl rfl ?_
        refine .y hs (zls [_,_] dw aT) ?_
        refine .gT rfl rfl ?_
        refine .z (zbd [_,_] cn) ?_
        refine .gT rfl rfl ?_
        refine .q hs (rm qK qL kI (fun f hf=>by
         simp only [List.mem_cons,List.not_mem_nil,or_false] at hf
         rcases hf with rfl|rfl<;>exact ⟨by decide,bh,af⟩) rfl rfl) ?_
        refine .z zpT (.z zm ?_)
        refine .bif (t':=94) rfl (fun hb94=>?_) (fun hb94=>?_)
        ·refine .gT rfl rfl ?_
         refine .z zm ?_
         refine .gT rfl rfl ?_
         refine .z fo (.z zpT (.z zm ?_))
         refine .iD (t':=98) rfl (fun hb98=>?_) (fun hb98=>?_)
         ·refine .gT rfl rfl ?_
          refine .z zm (.z zpT (.z zg (.nil ?_)))
          refine .ret (Fin.bH gN rfl ?_)
          first
          |exact ⟨rfl,H11,hleF,hs.out⟩
          |contradiction
          |(exfalso;simp_all;done)
         ·refine .gFs 1 37 true rfl rfl rfl ?_
          refine .z zpF (.z zg (.nil ?_))
          refine .ret (Fin.bH gN rfl ?_)
          first
          |exact ⟨rfl,H11,hleF,hs.out⟩
          |contradiction
          |(exfalso;simp_all;done)
        ·refine .gFs 2 33 true rfl rfl rfl ?_
         refine .z zpF (.z zm ?_)
         refine .gFs 1 37 true rfl rfl rfl ?_
         refine .z zpF (.z zg (.nil ?_))
         refine .ret (Fin.bH gN rfl ?_)
         first
         |exact ⟨rfl,H11,hleF,hs.out⟩
         |contradiction
         |(exfalso;simp_all;done)
       ·refine .gFs 3 28 true rfl rfl rfl ?_
        refine .z zpF (.z zm ?_)
        refine .gFs 2 33 true rfl rfl rfl ?_
        refine .z zpF (.z zm ?_)
        refine .gFs 1 37 true rfl rfl rfl ?_
        refine .z zpF (.z zg (.nil ?_))
        refine .ret (Fin.bH gN rfl ?_)
        first
        |exact ⟨rfl,H11,hleF,hs.out⟩
        |contradiction
        |(exfalso;simp_all;done)
      ·refine .gFs 2 24 true rfl rfl rfl ?_
       refine .z zpF (.z zm ?_)
       refine .gFs 3 28 true rfl rfl rfl ?_
       refine .z zpF (.z zm ?_)
       refine .gFs 2 33 true rfl rfl rfl ?_
       refine .z zpF (.z zm ?_)
       refine .gFs 1 37 true rfl rfl rfl ?_
       refine .z zpF (.z zg (.nil ?_))
       refine .ret (Fin.bH gN rfl ?_)
       first
       |exact ⟨rfl,H11,hleF,hs.out⟩
       |contradiction
       |(exfalso;simp_all;done)
     ·refine .gFs 2 20 true rfl rfl rfl ?_
      refine .z zpF (.z zm ?_)
      refine .gFs 2 24 true rfl rfl rfl ?_
      refine .z zpF (.z zm ?_)
      refine .gFs 3 28 true rfl rfl rfl ?_
      refine .z zpF (.z zm ?_)
      refine .gFs 2 33 true rfl rfl rfl ?_
      refine .z zpF (.z zm ?_)
      refine .gFs 1 37 true rfl rfl rfl ?_
      refine .z zpF (.z zg (.nil ?_))
      refine .ret (Fin.bH gN rfl ?_)
      first
      |exact ⟨rfl,H11,hleF,hs.out⟩
      |contradiction
      |(exfalso;simp_all;done)
    ·refine .gFs 2 16 true rfl rfl rfl ?_
     refine .z zpF (.z zm ?_)
     refine .gFs 2 20 true rfl rfl rfl ?_
     refine .z zpF (.z zm ?_)
     refine .gFs 2 24 true rfl rfl rfl ?_
     refine .z zpF (.z zm ?_)
     refine .gFs 3 28 true rfl rfl rfl ?_
     refine .z zpF (.z zm ?_)
     refine .gFs 2 33 true rfl rfl rfl ?_
     refine .z zpF (.z zm ?_)
     refine .gFs 1 37 true rfl rfl rfl ?_
     refine .z zpF (.z zg (.nil ?_))
     refine .ret (Fin.bH gN rfl ?_)
     first
     |exact ⟨rfl,H11,hleF,hs.out⟩
     |contradiction
     |(exfalso;simp_all;done)
   ·refine .gFs 3 11 true rfl rfl rfl ?_
    refine .z zpF (.z zm ?_)
    refine .gFs 2 16 true rfl rfl rfl ?_
    refine .z zpF (.z zm ?_)
    refine .gFs 2 20 true rfl rfl rfl ?_
    refine .z zpF (.z zm ?_)
    refine .gFs 2 24 true rfl rfl rfl ?_
    refine .z zpF (.z zm ?_)
    refine .gFs 3 28 true rfl rfl rfl ?_
    refine .z zpF (.z zm ?_)
    refine .gFs 2 33 true rfl rfl rfl ?_
    refine .z zpF (.z zm ?_)
    refine .gFs 1 37 true rfl rfl rfl ?_
    refine .z zpF (.z zg (.nil ?_))
    refine .ret (Fin.bH gN rfl ?_)
    first
    |exact ⟨rfl,H11,hleF,hs.out⟩
    |contradiction
    |(exfalso;simp_all;done)
  ·refine .gFs 2 7 true rfl rfl rfl ?_
   refine .z zpF (.z zm ?_)
   refine .gFs 3 11 true rfl rfl rfl ?_
   refine .z zpF (.z zm ?_)
   refine .gFs 2 16 true rfl rfl rfl ?_
   refine .z zpF (.z zm ?_)
   refine .gFs 2 20 true rfl rfl rfl ?_
   refine .z zpF (.z zm ?_)
   refine .gFs 2 24 true rfl rfl rfl ?_
   refine .z zpF (.z zm ?_)
   refine .gFs 3 28 true rfl rfl rfl ?_
   refine .z zpF (.z zm ?_)
   refine .gFs 2 33 true rfl rfl rfl ?_
   refine .z zpF (.z zm ?_)
   refine .gFs 1 37 true rfl rfl rfl ?_
   refine .z zpF (.z zg (.nil ?_))
   refine .ret (Fin.bH gN rfl ?_)
   first
   |exact ⟨rfl,H11,hleF,hs.out⟩
   |contradiction
   |(exfalso;simp_all;done)
 ·refine .gFs 3 2 true rfl rfl rfl ?_
  refine .z zpF (.z zm ?_)
  refine .gFs 2 7 true rfl rfl rfl ?_
  refine .z zpF (.z zm ?_)
  refine .gFs 3 11 true rfl rfl rfl ?_
  refine .z zpF (.z zm ?_)
  refine .gFs 2 16 true rfl rfl rfl ?_
  refine .z zpF (.z zm ?_)
  refine .gFs 2 20 true rfl rfl rfl ?_
  refine .z zpF (.z zm ?_)
  refine .gFs 2 24 true rfl rfl rfl ?_
  refine .z zpF (.z zm ?_)
  refine .gFs 3 28 true rfl rfl rfl ?_
  refine .z zpF (.z zm ?_)
  refine .gFs 2 33 true rfl rfl rfl ?_
  refine .z zpF (.z zm ?_)
  refine .gFs 1 37 true rfl rfl rfl ?_
  refine .z zpF (.z zg (.nil ?_))
  refine .ret (Fin.bH gN rfl ?_)
  first
  |exact ⟨rfl,H11,hleF,hs.out⟩
  |contradiction
  |(exfalso;simp_all;done)
def SysR(v:Srv)(s:cj)(e:Int):Prop:=tT v e∧(e=0→s=v.sys)∧(e≠0→s=⟨0,[]⟩)
theorem oW{s:Srv}{vst vwa vr vc:Value}(hs:St H w σ)(h1:RI H vst s.sp.st)(h2:RI H vwa s.sp.wa)(h3:RRd H vr s.rs)(h4:RCm H vc s.cs):
  Cl Tryz.prog 38 [.agg #[I s.sp.id,I s.sp.src,vst,vwa,I s.sp.al,I s.sp.up,vr,vc]] w fun u w'=>∃H1 t ul e,HLe H H1∧u= .tuple #[.agg #[I t.many,ul],I e]∧RL H1 ul t.bP∧SysR s t e∧St H1 w' σ:=by
 refine Cl.o Tryz.func38 Tryz.ntmps38 ag1 ?_
 refine .aj ?_
 refine .bx hs fun b1 w hs=>?_
 refine .o (.alloc hs bV rfl fun b2 w hs=>?_)
 refine .z zg (.nil (.seq (.aj (.y hs (zls [_,_,_,_,_,_,_,_] aP aE) ?_))))
 refine .o (.call wy rfl (dY (s:=s) hs h1 h2 h3 h4) ?_);rintro _ w ⟨H1,e,hle1,rfl,hC,hs⟩
 refine .z zg (.nil (.aj (.z zm (.z gx (.nil ?_)))))
 refine (.eH rfl (fun hc8=>?_) (fun hc8=>?_))
 ·refine .aj (.z (zbd [_,_] fF) (.z zm ?_))
  refine .o (.aZ (vs:=[_,_]) hs rfl rfl aB fun w hs=>?_)
  refine .z zg (.nil ?_)
  refine .ret (rT (?_))
  exact Fin.iA [] [] hs fun w hs=>⟨_,results2 Tryz.results38 (dF (vs:=[_,_]) hs rfl aN aB) rfl,H1,⟨0,[]⟩,_,_,hle1,rfl,RS.nil H1 4 none 0,⟨hC,fun h=>(hc8 h).elim,fun _=>rfl⟩,hs.out⟩
 ·refine .skip ?_
  refine nT ?_
  refine .aj (.y hs (zls [_,_,_,_,_,_,_,_] aP aE) ?_)
  have hok:eh s:=hC.cu.1 (by simpa using hc8)
  refine .o (.call wx rfl (ew (s:=s) hs (h1.mono hle1) (h2.mono hle1) (h3.mono hle1) (h4.mono hle1) hok.early) ?_);rintro _ w ⟨H2,hle2,⟨ul,rfl,hL⟩,hs⟩
  obtain ⟨al,cl,rfl⟩:=RL.shape hL
  refine .o (.aZ (vs:=[_,_]) hs rfl rfl aB fun w hs=>?_)
  refine .z zg (.nil ?_)
  refine .ret ?_
  exact Fin.iA [] [] hs fun w hs=>⟨_,results2 Tryz.results38 (dF (vs:=[_,_]) hs rfl aN aB) rfl,H2,s.sys,_,_,hle1.trans hle2,rfl,hL,⟨.ok hok.early ⟨hok.many,hok.bP⟩,fun _=>rfl,fun h=>(h rfl).elim⟩,hs.out⟩
structure WI(s:Spc)(L:List Int)(f:Nat→Nat→Int):Prop where
 len:L.length=s.many+1
 zero:gi L 0=0
 at_:∀i k,i<s.st.length→k<s.wa.length→gi L (s.u i k)=f i k
theorem WI.start(s:Spc):WI s (List.replicate (s.many+1) 0) fun _ _=>0:=
 ⟨bL,dA _ _ ak,fun i k hi hk=>by have:=sE hi hk;exact dA _ _ ak⟩
theorem WI.set{s:Spc}{L:List Int}{f:Nat→Nat→Int}(h:WI s L f){i k:Nat}(hi:i<s.st.length)(hk:k<s.wa.length)(x:Int):WI s (L.set (s.u i k) x) fun i' k'=>if i'=i∧k'=k then x else f i' k':=by
 have hb:=sE hi hk
 refine ⟨by rw [List.length_set];exact h.len,by rw [qb ak];exact h.zero,fun i' k' hi' hk'=>?_⟩
 have hb':=sE hi' hk'
 rw [ed (by rw [h.len];omega)]
 by_cases e:i'=i∧k'=k
 ·obtain ⟨rfl,rfl⟩:=e
  rw [if_pos rfl,if_pos ⟨rfl,rfl⟩]
 ·rw [if_neg e,if_neg,h.at_ i' k' hi' hk']
  intro e2
  obtain ⟨d1,d2⟩:=DI (nw:=s.wa.length) (i:=i) hk
  obtain ⟨d3,d4⟩:=DI (nw:=s.wa.length) (i:=i') hk'
  have e3:i'*s.wa.length+k'=i*s.wa.length+k:=by unfold Spc.u at e2;omega
  rw [e3] at d3 d4
  exact e ⟨d3.symm.trans d1,d4.symm.trans d2⟩
theorem WI.congr{s:Spc}{L:List Int}{f g:Nat→Nat→Int}(h:WI s L f)(e:∀i k,i<s.st.length→k<s.wa.length→f i k=g i k):WI s L g:=
 ⟨h.len,h.zero,fun i k hi hk=>(h.at_ i k hi hk).trans (e i k hi hk)⟩
theorem WI.fin{s:Spc}{q:Wht}{L:List Int}(h:WI s L (jG s q)):L=jT s q:=BZ h.len h.zero h.at_
theorem lI{s:Spc}{q:Wht}{vst vwa:Value}(hs:St H w σ)(h1:RI H vst s.st)(h2:RI H vwa s.wa):
  Cl Tryz.prog 112 [.agg #[I s.id,I s.src,vst,vwa,I s.al,I s.up],.agg #[I q.kind,I q.st,I q.wa]] w fun v w'=>∃b:Bool,v= .bool b∧(b=true↔fk s q)∧St H w' σ:=by
 obtain ⟨ast,cst,rfl⟩:=RI.shape h1
 obtain ⟨awa,cwa,rfl⟩:=RI.shape h2
 have l1:=(RI.len h1).2.2
 have l2:=(RI.len h2).2.2
 have hi:=mS (s:=s) (q:=q)
 simp only [Spc.isW,Spc.isS] at hi
 refine Cl.o Tryz.func112 Tryz.ntmps112 ag2 ?_
 refine .aj ?_
 refine .bx hs fun b2 w hs=>?_
 refine .bx hs fun b3 w hs=>?_
 refine .z zg (.nil (.aj (.z (zfa df) (.y hs (zld af) (.z (zfa aW) (.y hs (zld an) (.z (cB ae) (.z gL ?_))))))))
 refine .o (.call eV rfl (dd hs) ?_);rintro _ w ⟨rfl,hs⟩
 refine .z zg (.nil (.aj (.z (zfa dR) (.y hs (zld af) (.z (zfa bp) (.y hs (zld an) (.z (cB ae) (.z gL ?_))))))))
 refine .o (.call eV rfl (dd hs) ?_);rintro _ w ⟨rfl,hs⟩
 refine .z zg (.nil (.seq (.aj (.z (zfa kc) (.y hs (zld af) (.nil (.block (.aj (.z fo ?_)))))))))
 refine .z zg (.nil ?_)
 refine (.bB rfl (fun hc23=>?_) (fun hc23=>?_))
 ·refine .aj (.z (zfa dR) (.y hs (zld af) (.z fo (.z zm ?_))))
  refine .iD (t':=28) rfl (fun hb28=>?_) (fun hb28=>?_)
  ·refine .gT rfl rfl ?_
   refine .z zm (.z zpT (.z zm ?_))
   refine .bif (t':=31) rfl (fun hb31=>?_) (fun hb31=>?_)
   ·refine .gT rfl rfl ?_
    refine .z (zfa df) ?_
    refine .gT rfl rfl ?_
    refine .y hs (zld af) ?_
    refine .gT rfl rfl ?_
    refine .z kD (.z zpT (.z zg (.nil ?_)))
    refine .ret (rB (rT (Fin.bH gh rfl ?_)))
    exact ⟨_,rfl,by rw [hi];simp_all<;>omega,hs.out⟩
   ·refine .gFs 3 6 true rfl rfl rfl ?_
    refine .z zpF (.z zg (.nil ?_))
    refine .ret (rB (rT (Fin.bH gh rfl ?_)))
    exact ⟨_,rfl,by rw [hi];simp_all<;>omega,hs.out⟩
  ·refine .gFs 1 3 true rfl rfl rfl ?_
   refine .z zpF (.z zm ?_)
   refine .gFs 3 6 true rfl rfl rfl ?_
   refine .z zpF (.z zg (.nil ?_))
   refine .ret (rB (rT (Fin.bH gh rfl ?_)))
   exact ⟨_,rfl,by rw [hi];simp_all<;>omega,hs.out⟩
 ·refine .aj (.z fo (.z zg (.nil ?_)))
  refine (.bB rfl (fun hc36=>?_) (fun hc36=>?_))
  ·refine .aj (.z (zfa dR) (.y hs (zld af) (.z fo (.z zm ?_))))
   refine .iD (t':=41) rfl (fun hb41=>?_) (fun hb41=>?_)
   ·refine .gT rfl rfl ?_
    refine .z zm (.z zpT (.z zg (.nil ?_)))
    refine .ret (rB (rT (Fin.bH gh rfl ?_)))
    exact ⟨_,rfl,by rw [hi];simp_all<;>omega,hs.out⟩
   ·refine .gFs 1 3 true rfl rfl rfl ?_
    refine .z zpF (.z zg (.nil ?_))
    refine .ret (rB (rT (Fin.bH gh rfl ?_)))
    exact ⟨_,rfl,by rw [hi];simp_all<;>omega,hs.out⟩
  ·refine .aj (.z fo (.z zg (.nil ?_)))
   refine (.bB rfl (fun hc44=>?_) (fun hc44=>?_))
   ·refine .aj (.z zm (.z zm ?_))
    refine .bif (t':=47) rfl (fun hb47=>?_) (fun hb47=>?_)
    ·refine .gT rfl rfl ?_
     refine .z (zfa df) ?_
     refine .gT rfl rfl ?_
     refine .y hs (zld af) ?_
     refine .gT rfl rfl ?_
     refine .z fo (.z zpT (.z zg (.nil ?_)))
     refine .ret (rB (rT (Fin.bH gh rfl ?_)))
     exact ⟨_,rfl,by rw [hi];simp_all<;>omega,hs.out⟩
    ·refine .gFs 3 1 true rfl rfl rfl ?_
     refine .z zpF (.z zg (.nil ?_))
     refine .ret (rB (rT (Fin.bH gh rfl ?_)))
     exact ⟨_,rfl,by rw [hi];simp_all<;>omega,hs.out⟩
   ·refine .aj (.z fo (.z zg (.nil ?_)))
    refine (.bB rfl (fun hc52=>?_) (fun hc52=>?_))
    ·refine .aj (.z zm (.z zm ?_))
     refine .bif (t':=55) rfl (fun hb55=>?_) (fun hb55=>?_)
     ·refine .gT rfl rfl ?_
      refine .z zm (.z zpT (.z zg (.nil ?_)))
      refine .ret (rB (rT (Fin.bH gh rfl ?_)))
      exact ⟨_,rfl,by rw [hi];simp_all<;>omega,hs.out⟩
     ·refine .gFs 1 1 true rfl rfl rfl ?_
      refine .z zpF (.z zg (.nil ?_))
      refine .ret (rB (rT (Fin.bH gh rfl ?_)))
      exact ⟨_,rfl,by rw [hi];simp_all<;>omega,hs.out⟩
    ·refine .skip ?_
     refine nB (nT ?_)
     refine .aj (.z zg (.nil ?_))
     refine .ret (Fin.bH gh rfl ?_)
     exact ⟨_,rfl,by rw [hi];simp_all<;>omega,hs.out⟩
set_option maxHeartbeats 2000000 in
theorem lG{s:Spc}{q:Wht}{vst vwa:Value}(hs:St H w σ)(h1:RI H vst s.st)(h2:RI H vwa s.wa)(hok:fl s)(hq:fk s q):
  Cl Tryz.prog 113 [.agg #[I s.id,I s.src,vst,vwa,I s.al,I s.up],.agg #[I q.kind,I q.st,I q.wa]] w fun v w'=>∃H1 vl en,HLe H H1∧v= .tuple #[vl,I (my q)]∧cf 1 vl (Is (jT s q)) en∧St H1 w' (en::σ):=by
 obtain ⟨ast,cst,rfl⟩:=RI.shape h1
 obtain ⟨awa,cwa,rfl⟩:=RI.shape h2
 have hsm:=dW hok
 have hcap:=(RI.len h2).2.1
 have hn1:=hok.st.many
 have hn2:=hok.wa.many
 have hlen:=eJ s q
 have hqq:=mS.1 hq
 simp only [Spc.isW,Spc.isS] at hqq
 refine Cl.o Tryz.func113 Tryz.ntmps113 ag2 ?_
 refine .aj ?_
 refine .bx hs fun b2 w hs=>?_
 refine .bx hs fun b3 w hs=>?_
 refine .z zg (.z zg (.nil (.aj (.y hs (zls [_,_,_,_,_,_] aH aC) ?_))))
 refine .o (.call rh rfl (dJ (s:=s) hs h1 h2 ⟨ak,ak⟩) ?_);rintro _ w ⟨rfl,hs⟩
 refine .z ck ?_
 refine .o (.pZ (s.many+1) hs rfl rfl ae dS rfl ai bJ ak fun b20 w hs=>?_)
 have hW0:=WI.start s
 generalize List.replicate (s.many+1) (0:Int)=L0 at hs hW0
 refine .z zg (.nil (.seq (.aj (.z (zfa kc) (.y hs (zld af) (.nil (.block (.aj (.z fo ?_)))))))))
 refine .z zg (.nil ?_)
 refine (.bB rfl (fun hc23=>?_) (fun hc23=>?_))
 ·refine .seq (.draw mix rfl hs fun w hs=>?_)
  refine .z 0 rfl (zfa bp) ?_;refine .y 1 rfl hs an ?_;refine .z 2 rfl (zfa aW) ?_;refine .y 3 rfl hs an ?_;refine .z 4 rfl (zfa df) ?_;refine .y 5 rfl hs af ?_;refine .z 6 rfl ck ?_
  obtain ⟨hk1,_,⟨hw2,hw3⟩,hw1⟩:q.kind=1∧q.st=0∧(0≤q.wa∧q.wa≤(s.wa.length:Int) - 1)∧0<q.wa:=by omega
  obtain ⟨m,hm⟩:∃m:Nat,q.wa=m:=⟨q.wa.toNat,ak⟩
  have hmt:q.wa.toNat=m:=by omega
  have hP:eI 7 15000 (s.wa.take (m+1)):=hok.wa.take ak ak
  have hdv:my q=648000000:=by unfold my;rw [if_pos hk1]
  refine .z 7 rfl (lO (k:=m+1) rfl rfl ae ai ak ak) ?_
  refine .E 8 hs ?_
  refine .call Tryz.call195 rfl (s6 hs h1 (h2.head (k:=m+1) ak) hok.st hP) ?_;rintro _ w ⟨H1,vo,hle1,rfl,hG,hs⟩
  have hgl:=ju (wts s.st) (wts (s.wa.take (m+1))) s.st.length
  have hyl:(wts (s.wa.take (m+1))).length=m+1:=by rw [eu,List.length_take];omega
  have hgr:∀i<s.st.length,(gr (lW (wts s.st) (wts (s.wa.take (m+1))) s.st.length) i).length=m+1:=fun i hi=>by rw [vI hi,jb,hyl]
  have hgt:∀i<s.st.length,∀k≤m,gi (gr (lW (wts s.st) (wts (s.wa.take (m+1))) s.st.length) i) k=jG s q i k:=fun i hi k hk=>by
   have:=yT (X:=wts s.st) (Y:=wts (s.wa.take (m+1))) (n:=s.st.length) (k:=k) hi ak
   unfold gt at this
   rw [this];unfold jG;rw [if_pos hk1,if_pos ak,hmt]
  have hgz:∀i k,m<k→jG s q i k=0:=fun i k hk=>by unfold jG;rw [if_pos hk1,if_neg ak]
  generalize lW (wts s.st) (wts (s.wa.take (m+1))) s.st.length=G at*
  obtain ⟨aG,cG,rfl⟩:=hG.shape
  refine .go ?_
  refine .z 9 rfl zm ?_;refine .z 10 rfl zex ?_;refine .z 11 rfl zex ?_;refine .z 12 rfl zg ?_;refine .z 13 rfl zg ?_;refine .D hs ?_
  refine .seq (.aj (.z zg (.nil (.block ?_))))
  refine .loop (fun i:Nat=>⟨127,[],[(9,I (i:Int)),(7,.slice aG G.length cG),(6,.slice (some ⟨b20,0,none⟩) (s.many+1) (s.many+1)),(3,.pointer (some ⟨b3,0,none⟩)),(2,.pointer (some ⟨b2,0,none⟩))]⟩)
   (fun i w=>i≤s.st.length∧∃L,WI s L (fun i' k'=>if i'<i then jG s q i' k' else 0)∧St H1 w (.blk b20 (Is L):: .blk b3 [I q.kind,I q.st,I q.wa]:: .blk b2 [I s.id,I s.src,.slice ast s.st.length cst,.slice awa s.wa.length cwa,I s.al,I s.up]::σ)) (fun i=>s.st.length - i) 0 (.bU rfl bL aR)
   ⟨Nat.zero_le _,L0,hW0.congr fun i k _ _=>by rw [if_neg ak],hs⟩ ?_
  clear hs hW0
  rintro i w ⟨hi,L,hW,hs⟩
  refine .seq (.aj (.z zm (.z zm (.z (cB aq) (.z fH (.nil ?_))))))
  refine (.bB rfl (fun hc40=>?_) (fun hc40=>?_))
  ·refine .skip ?_
   refine nT ?_
   refine .seq (.block (.aj (.z zg (.nil (.block ?_)))))
   refine .loop (fun k:Nat=>⟨127,[],[(10,I (k:Int)),(9,I (i:Int)),(7,.slice aG G.length cG),(6,.slice (some ⟨b20,0,none⟩) (s.many+1) (s.many+1)),(3,.pointer (some ⟨b3,0,none⟩)),(2,.pointer (some ⟨b2,0,none⟩))]⟩)
    (fun k w=>k≤m+1∧∃L,WI s L (fun i' k'=>if i'<i∨(i'=i∧k'<k) then jG s q i' k' else 0)∧St H1 w (.blk b20 (Is L):: .blk b3 [I q.kind,I q.st,I q.wa]:: .blk b2 [I s.id,I s.src,.slice ast s.st.length cst,.slice awa s.wa.length cwa,I s.al,I s.up]::σ)) (fun k=>m+1 - k) 0 (.bU rfl bL aR)
    ⟨Nat.zero_le _,L,hW.congr fun i' k' _ _=>by
     by_cases e:i'<i
     ·rw [if_pos e,if_pos (.inl e)]
     ·rw [if_neg e,if_neg ak],hs⟩ ?_
   clear hs hW
   rintro k w ⟨hk,L,hW,hs⟩
   have hWl:=hW.len
   have hil:i<s.st.length:=by omega
   have hgri:=hgr i hil
   refine .seq (.aj (.z zm (.z zm (.z zm ?_))))
   refine .ixT hs hG rfl rfl aq az (show i<_ by omega) cD ?_;intro b46 o46 a46 c46 hc46 hR46
   refine .q hs (aJ rfl an hc46) ?_
   refine .z (cB ae) ?_
   rw [hgri]
   refine .z fH (.nil ?_)
   refine (.bB rfl (fun hc49=>?_) (fun hc49=>?_))
   ·refine .skip ?_
    refine nT ?_
    refine .seq (.block ?_)
    refine .draw mix rfl hs fun w hs=>?_
    have hk':k<m+1:=by omega
    have hub:=sE (s:=s) (i:=i) (k:=k) hil ak
    refine .z 0 rfl zm ?_;refine .ys 1 rfl hs [_,_,_,_,_,_] aH aC ?_;refine .z 2 rfl zm ?_;refine .z 3 rfl zm ?_;refine .z 5 rfl zm ?_;refine .z 6 rfl zm ?_
    refine .ixT (i:=7) hs rfl au .none hG rfl rfl aq az (show i<_ by omega) cD ?_;intro b59 o59 a59 c59 hc59 hR59
    refine .r (i:=8) hs rfl au .none (aJ rfl an hc59) ?_
    refine .z 9 rfl zm ?_
    refine .ixX (enc:=fun x=>[I x]) (i:=10) hs rfl au .none hR59 rfl rfl ae ai (bn (l:=(gr G i)) (i:=k) ak) cD ?_;intro b62 o62 hc62;replace hc62:=bu.one hc62
    refine .r (i:=11) hs rfl au .none (aJ rfl af hc62) ?_
    refine .E 4 hs ?_
    refine .call iy rfl (dj (s:=s) hs (h2.mono hle1) ak ⟨ak,ak⟩ ⟨ak,ak⟩) ?_;rintro _ w ⟨rfl,hs⟩
    rw [u4]
    refine .go ?_
    refine .z 12 rfl (dH (k:=s.u i k) rfl rfl ae ai rfl ak) ?_
    refine .E 13 hs ?_
    refine .store hs rfl rfl ai ?_ cP (by simp [Is];omega);intro w hs
    refine .go ?_
    refine .D hs ?_
    refine nB (nT ?_)
    refine .region (.z zm (.z ck (.z zg (.nil ?_))))
    refine nT ?_
    exact ⟨k+1,.bU rfl bL aR,⟨ak,_,(hW.set hil ak _).congr fun i' k' _ _=>by
     rw [hgt i hil k ak]
     by_cases e:i'=i∧k'=k
     ·obtain ⟨rfl,rfl⟩:=e
      rw [if_pos ⟨rfl,rfl⟩,if_pos (.inr ⟨rfl,ak⟩)]
     ·rw [if_neg e]
      by_cases e2:i'<i∨(i'=i∧k'<k)
      ·rw [if_pos e2,if_pos ak]
      ·rw [if_neg e2,if_neg ak],hs⟩,ak⟩
   ·refine .exit ?_
    refine xT (xT (xB (nB (nT ?_))))
    refine .region (.z zm (.z ck (.z zg (.nil ?_))))
    refine nT ?_
    exact ⟨i+1,.bU rfl bL aR,⟨ak,L,hW.congr fun i' k' _ _=>by
     by_cases e:i'<i+1
     ·rw [if_pos e]
      by_cases e2:i'<i∨(i'=i∧k'<k)
      ·rw [if_pos e2]
      ·rw [if_neg e2,hgz i' k' ak]
     ·rw [if_neg e,if_neg ak],hs⟩,ak⟩
  ·refine .exit ?_
   refine xT (xT (xB (nT ?_)))
   refine .aj (.z zm (.z zg (.z zg (.nil ?_))))
   refine .ret (rB (rT (Fin.lq Tryz.results113 rfl rfl ?_)))
   obtain rfl:=(hW.congr (g:=jG s q) fun i' k' hi' _=>by rw [if_pos ak]).fin
   rw [←hdv]
   exact ⟨H1,_,_,hle1,rfl,.full (by simp [Is,hlen]),hs.sb⟩
 ·refine .aj (.z fo (.z zg (.nil ?_)))
  refine (.bB rfl (fun hc66=>?_) (fun hc66=>?_))
  ·refine .aj (.z (zfa bp) (.y hs (zld an) ?_))
   have hk1:q.kind=2:=by omega
   obtain ⟨m,hm⟩:∃m:Nat,q.wa=m:=⟨q.wa.toNat,ak⟩
   have hdv:my q=180000:=by unfold my;rw [if_neg ak,if_pos ak]
   have hl:=eu s.st
   have hwt:∀i k,jG s q i k=if k=m then gi (wts s.st) i else 0:=fun i k=>by
    unfold jG;rw [if_neg ak,if_pos hk1]
    by_cases e:k=m
    ·rw [if_pos e,if_pos ak]
    ·rw [if_neg e,if_neg ak]
   refine .o (.call Tryz.call196 rfl (kP hs h1 hok.st) ?_);rintro _ w ⟨H1,vo,hle1,rfl,hX,hs⟩
   obtain ⟨aX,cX,rfl⟩:=RI.shape hX
   rw [hl]
   refine .z zm (.z zex (.z zex (.z zg (.z zg (.nil (.seq (.aj (.z zg (.nil ?_)))))))))
   refine .block ?_
   refine .loop (fun i:Nat=>⟨127,[],[(13,I (i:Int)),(11,.slice aX s.st.length cX),(6,.slice (some ⟨b20,0,none⟩) (s.many+1) (s.many+1)),(3,.pointer (some ⟨b3,0,none⟩)),(2,.pointer (some ⟨b2,0,none⟩))]⟩)
    (fun i w=>i≤s.st.length∧∃L,WI s L (fun i' k'=>if i'<i then jG s q i' k' else 0)∧St H1 w (.blk b20 (Is L):: .blk b3 [I q.kind,I q.st,I q.wa]:: .blk b2 [I s.id,I s.src,.slice ast s.st.length cst,.slice awa s.wa.length cwa,I s.al,I s.up]::σ)) (fun i=>s.st.length - i) 0 (.bU rfl bL aR)
    ⟨Nat.zero_le _,L0,hW0.congr fun i k _ _=>by rw [if_neg ak],hs⟩ ?_
   clear hs hW0
   rintro i w ⟨hi,L,hW,hs⟩
   have hWl:=hW.len
   rw [hl] at hX
   refine .seq (.aj (.z zm (.z zm (.z (cB ae) (.z fH (.nil ?_))))))
   refine (.bB rfl (fun hc77=>?_) (fun hc77=>?_))
   ·refine .skip ?_
    refine nT ?_
    refine .seq (.block ?_)
    refine .draw mix rfl hs fun w hs=>?_
    refine .z 0 rfl zm ?_;refine .ys 1 rfl hs [_,_,_,_,_,_] aH aC ?_;refine .z 2 rfl zm ?_;refine .z 3 rfl (zfa df) ?_;refine .y 4 rfl hs af ?_;refine .z 6 rfl zm ?_;refine .z 7 rfl zm ?_
    refine .ixX (enc:=fun x=>[I x]) (i:=8) hs rfl au .none (by rw [hl] at*;exact hX) rfl rfl ae ai (bn (l:=wts s.st) (i:=i) ak) cD ?_;intro b88 o88 hc88;replace hc88:=bu.one hc88
    refine .y 9 rfl hs af ?_
    refine .E 5 hs ?_
    have hil:i<s.st.length:=by omega
    have hub:=sE (s:=s) (i:=i) (k:=m) hil ak
    refine .call iy rfl (dj (s:=s) hs (h2.mono hle1) ak ⟨ak,ak⟩ ⟨ak,ak⟩) ?_;rintro _ w ⟨rfl,hs⟩
    rw [show 1+(i:Int)*(s.wa.length:Int)+q.wa=(s.u i m:Int) by rw [hm,u4]]
    refine .go ?_
    refine .z 10 rfl (dH (k:=s.u i m) rfl rfl ae ai rfl ak) ?_
    refine .E 11 hs ?_
    refine .store hs rfl rfl ai ?_ cP (by simp [Is];omega);intro w hs
    refine .go ?_
    refine .D hs ?_
    refine nB (nT ?_)
    refine .region (.z zm (.z ck (.z zg (.nil ?_))))
    refine nT ?_
    exact ⟨i+1,.bU rfl bL aR,⟨ak,_,(hW.set hil (show m<s.wa.length by omega) _).congr fun i' k' _ _=>by
     rw [hwt i' k']
     by_cases e:i'=i∧k'=m
     ·obtain ⟨rfl,rfl⟩:=e
      rw [if_pos ⟨rfl,rfl⟩,if_pos (Nat.lt_succ_self _),if_pos rfl]
     ·rw [if_neg e]
      by_cases e2:i'<i
      ·rw [if_pos e2,if_pos (show i'<i+1 by omega)]
      ·rw [if_neg e2]
       by_cases e3:i'<i+1
       ·rw [if_pos e3,if_neg (show ¬k'=m by omega)]
       ·rw [if_neg e3],hs⟩,ak⟩
   ·refine .exit ?_
    refine xT (xT (xB (nT ?_)))
    refine .aj (.z zm (.z zg (.z zg (.nil ?_))))
    refine .ret (rB (rT (Fin.lq Tryz.results113 rfl rfl ?_)))
    obtain rfl:=(hW.congr (g:=jG s q) fun i' k' hi' _=>by rw [if_pos ak]).fin
    rw [←hdv]
    exact ⟨H1,_,_,hle1,rfl,.full (by simp [Is,hlen]),hs.sb⟩
  ·refine .aj (.z fo (.z zg (.nil ?_)))
   refine (.bB rfl (fun hc92=>?_) (fun hc92=>?_))
   ·refine .aj (.z (zfa aW) (.y hs (zld an) ?_))
    have hk1:q.kind=3:=by omega
    obtain ⟨m,hm⟩:∃m:Nat,q.st=m:=⟨q.st.toNat,ak⟩
    have hdv:my q=180000:=by unfold my;rw [if_neg ak,if_pos ak]
    have hl:=eu s.wa
    have hwt:∀i k,jG s q i k=if i=m then gi (wts s.wa) k else 0:=fun i k=>by
     unfold jG;rw [if_neg ak,if_neg ak,if_pos hk1]
     by_cases e:i=m
     ·rw [if_pos e,if_pos ak]
     ·rw [if_neg e,if_neg ak]
    refine .o (.call Tryz.call196 rfl (kP hs h2 (xF hok)) ?_);rintro _ w ⟨H1,vo,hle1,rfl,hX,hs⟩
    obtain ⟨aX,cX,rfl⟩:=RI.shape hX
    rw [hl]
    refine .z zm (.z zex (.z zex (.z zg (.z zg (.nil (.seq (.aj (.z zg (.nil ?_)))))))))
    refine .block ?_
    refine .loop (fun k:Nat=>⟨127,[],[(16,I (k:Int)),(14,.slice aX s.wa.length cX),(6,.slice (some ⟨b20,0,none⟩) (s.many+1) (s.many+1)),(3,.pointer (some ⟨b3,0,none⟩)),(2,.pointer (some ⟨b2,0,none⟩))]⟩)
     (fun k w=>k≤s.wa.length∧∃L,WI s L (fun i' k'=>if k'<k then jG s q i' k' else 0)∧St H1 w (.blk b20 (Is L):: .blk b3 [I q.kind,I q.st,I q.wa]:: .blk b2 [I s.id,I s.src,.slice ast s.st.length cst,.slice awa s.wa.length cwa,I s.al,I s.up]::σ)) (fun k=>s.wa.length - k) 0 (.bU rfl bL aR)
     ⟨Nat.zero_le _,L0,hW0.congr fun i k _ _=>by rw [if_neg ak],hs⟩ ?_
    clear hs hW0
    rintro k w ⟨hi,L,hW,hs⟩
    have hWl:=hW.len
    rw [hl] at hX
    refine .seq (.aj (.z zm (.z zm (.z (cB ae) (.z fH (.nil ?_))))))
    refine (.bB rfl (fun hc103=>?_) (fun hc103=>?_))
    ·refine .skip ?_
     refine nT ?_
     refine .seq (.block ?_)
     refine .draw mix rfl hs fun w hs=>?_
     refine .z 0 rfl zm ?_;refine .ys 1 rfl hs [_,_,_,_,_,_] aH aC ?_;refine .z 2 rfl (zfa dR) ?_;refine .y 3 rfl hs af ?_;refine .z 4 rfl zm ?_;refine .z 6 rfl zm ?_;refine .z 7 rfl zm ?_
     refine .ixX (enc:=fun x=>[I x]) (i:=8) hs rfl au .none (by rw [hl] at*;exact hX) rfl rfl ae ai (bn (l:=wts s.wa) (i:=k) ak) cD ?_;intro b114 o114 hc114;replace hc114:=bu.one hc114
     refine .y 9 rfl hs af ?_
     refine .E 5 hs ?_
     have hil:k<s.wa.length:=by omega
     have hub:=sE (s:=s) (i:=m) (k:=k) ak hil
     refine .call iy rfl (dj (s:=s) hs (h2.mono hle1) ak ⟨ak,ak⟩ ⟨ak,ak⟩) ?_;rintro _ w ⟨rfl,hs⟩
     rw [show 1+q.st*(s.wa.length:Int)+(k:Int)=(s.u m k:Int) by rw [hm,u4]]
     refine .go ?_
     refine .z 10 rfl (dH (k:=s.u m k) rfl rfl ae ai rfl ak) ?_
     refine .E 11 hs ?_
     refine .store hs rfl rfl ai ?_ cP (by simp [Is];omega);intro w hs
     refine .go ?_
     refine .D hs ?_
     refine nB (nT ?_)
     refine .region (.z zm (.z ck (.z zg (.nil ?_))))
     refine nT ?_
     exact ⟨k+1,.bU rfl bL aR,⟨ak,_,(hW.set (show m<s.st.length by omega) hil _).congr fun i' k' _ _=>by
      rw [hwt i' k']
      by_cases e:i'=m∧k'=k
      ·obtain ⟨rfl,rfl⟩:=e
       rw [if_pos ⟨rfl,rfl⟩,if_pos (Nat.lt_succ_self _),if_pos rfl]
      ·rw [if_neg e]
       by_cases e2:k'<k
       ·rw [if_pos e2,if_pos (show k'<k+1 by omega)]
       ·rw [if_neg e2]
        by_cases e3:k'<k+1
        ·rw [if_pos e3,if_neg (show ¬i'=m by omega)]
        ·rw [if_neg e3],hs⟩,ak⟩
    ·refine .exit ?_
     refine xT (xT (xB (nT ?_)))
     refine .aj (.z zm (.z zg (.z zg (.nil ?_))))
     refine .ret (rB (rT (Fin.lq Tryz.results113 rfl rfl ?_)))
     obtain rfl:=(hW.congr (g:=jG s q) fun i' k' _ hk'=>by rw [if_pos ak]).fin
     rw [←hdv]
     exact ⟨H1,_,_,hle1,rfl,.full (by simp [Is,hlen]),hs.sb⟩
   ·refine .skip ?_
    refine nB (nT ?_)
    refine .aj (.z zm (.y hs (zls [_,_,_,_,_,_] aH aC) (.z (zfa dR) (.y hs (zld af) (.z (zfa df) (.y hs (zld af) ?_))))))
    have hk1:q.kind=4:=by omega
    obtain ⟨m,hm⟩:∃m:Nat,q.st=m:=⟨q.st.toNat,ak⟩
    obtain ⟨c,hc⟩:∃c:Nat,q.wa=c:=⟨q.wa.toNat,ak⟩
    have hdv:my q=1:=by unfold my;rw [if_neg ak,if_neg ak]
    have hub:=sE (s:=s) (i:=m) (k:=c) ak ak
    have hWl:=hW0.len
    refine .o (.call iy rfl (dj (s:=s) hs h2 ak ⟨ak,ak⟩ ⟨ak,ak⟩) ?_);rintro _ w ⟨rfl,hs⟩
    rw [hm,hc,u4]
    refine .q hs (dH (k:=s.u m c) rfl rfl ae ai rfl ak) ?_
    refine .o (.store hs rfl rfl ai ?_ cP (by simp [Is];omega));intro w hs
    refine .nil (.aj (.z zm (.z zg (.z zg (.nil ?_)))))
    refine .ret (Fin.lq Tryz.results113 rfl rfl ?_)
    have hfin:=((hW0.set (show m<s.st.length by omega) (show c<s.wa.length by omega) 1).congr (g:=jG s q) fun i' k' _ _=>by
     unfold jG
     rw [if_neg (show ¬q.kind=1 by omega),if_neg (show ¬q.kind=2 by omega),if_neg (show ¬q.kind=3 by omega)]
     by_cases e:i'=m∧k'=c
     ·rw [if_pos e,if_pos ak]
     ·rw [if_neg e,if_neg ak]).fin
    rw [hfin] at hs
    rw [←hdv]
    exact ⟨H,_,_,HLe.refl H,rfl,.full (by simp [Is,hlen]),hs.sb⟩
theorem kn{a d:Int}(hs:St H w σ)(hd:1≤d)(ha: -4608000000000000000≤a∧a≤4608000000000000000):
  Cl Tryz.prog 78 [I a,I d] w fun v w'=>v=I (a/d)∧St H w' σ:=by
 have hq: -4608000000000000000≤a.tdiv d∧a.tdiv d≤4608000000000000000:=by
  have h1:=so (n:=a) (d:=d) ak
  have h2:a/d≤4608000000000000000:=Int.ediv_le_of_le_mul ak (by
   have:=Int.mul_le_mul_of_nonneg_left hd (show (0:Int)≤4608000000000000000 by omega);omega)
  have h3: -4608000000000000000≤a/d:=Int.le_ediv_of_mul_le ak (by
   have:=Int.mul_le_mul_of_nonneg_left hd (show (0:Int)≤4608000000000000000 by omega);omega)
  by_cases h0:0≤a
  ·rw [Int.tdiv_eq_ediv_of_nonneg h0];omega
  ·split at h1
   ·have:a/d<0:=Int.ediv_neg_of_neg_of_pos ak ak
    omega
   ·omega
 have hfl:=so (n:=a) (d:=d) ak
 refine Cl.o Tryz.func78 Tryz.ntmps78 ag2 ?_
 refine .aj (.z zg (.nil (.aj (.z zm (.z zm ?_)))))
 refine .q hs (te rfl rfl ak ⟨ak,ak⟩) ?_
 refine .z zg (.nil (.seq (.aj (.z zm (.z zm (.z BQ (.z fH (.nil ?_))))))))
 refine (.bB rfl (fun hc12=>?_) (fun hc12=>?_))
 ·refine .region (.z zm (.z gL (.z zg (.nil ?_))))
  refine nT ?_
  refine .aj (.z zm (.z zg (.nil ?_)))
  refine .ret (Fin.bH Tryz.results78 rfl ?_)
  rw [if_pos hc12] at hfl
  exact ⟨by rw [hfl],hs⟩
 ·refine .skip ?_
  refine nT ?_
  refine .aj (.z zm (.z zg (.nil ?_)))
  refine .ret (Fin.bH Tryz.results78 rfl ?_)
  rw [if_neg hc12,Int.sub_zero] at hfl
  exact ⟨by rw [hfl],hs⟩
inductive xo(v:Srv)(q:Wht):Int→Prop
 |bad {e:Int} (h:tT v e) (he:e≠0):xo v q e
 |what (h:eh v) (h1:¬fk v.sp q):xo v q 33
 |ok (h:eh v) (h1:fk v.sp q):xo v q 0
theorem xo.zero{v:Srv}{q:Wht}(h:xo v q 0):eh v∧fk v.sp q:=by
 generalize hz:(0:Int)=z at h
 cases h with
 |bad h he=>exact (he hz.symm).elim
 |what=>omega
 |ok h h1=>exact ⟨h,h1⟩
theorem xo.qty{v:Srv}{q:Wht}{e:Int}(h:xo v q e)(he:e≠0):xv v q 0 0 e:=by
 cases h with
 |bad h he=>exact .bad h he
 |what h h1=>exact .what h h1
 |ok=>exact (he rfl).elim
theorem yt{v:Srv}(h:eh v){q:Wht}(hq:fk v.sp q)(i:Nat): -3456000000000≤gi (v.w q) i∧gi (v.w q) i≤3456000000000:=by
 unfold Srv.w
 rw [jw]
 by_cases hi:i<v.sp.many+1
 ·have h1:=lr h.early.1 hq
  have h2:=gM (jT v.sp q) hi
  omega
 ·have:gi (jT v.sp q) i=0:=by simp [gi,List.getD,List.getElem?_eq_none (show (jT v.sp q).length≤i by rw [eJ];omega)]
  rw [this];omega
def vS(w:List Int)(high:Bool):List Int:=if high then w else pX w
set_option maxHeartbeats 2000000 in
theorem rI{s:Srv}{q:Wht}{vst vwa vr vc:Value}{high:Bool}(hs:St H w σ)(h1:RI H vst s.sp.st)(h2:RI H vwa s.sp.wa)(h3:RRd H vr s.rs)(h4:RCm H vc s.cs):
  Cl Tryz.prog 87 [.agg #[I s.sp.id,I s.sp.src,vst,vwa,I s.sp.al,I s.sp.up,vr,vc],.agg #[I q.kind,I q.st,I q.wa],.bool high] w fun u w'=>∃H1 m ul vw d e,HLe H H1∧u= .tuple #[.agg #[I m,ul],vw,I d,I e]∧(∃a l c,ul= .slice a l c)∧(∃a l c,vw= .slice a l c)∧xo s q e∧(e=0→m=s.sys.many∧RL H1 ul s.bP∧RI H1 vw (vS (s.w q) high)∧d=my q)∧St H1 w' σ:=by
 have hn:=qG s
 refine Cl.o Tryz.func87 Tryz.ntmps87 ag3 ?_
 refine .aj ?_
 refine .bx hs fun b3 w hs=>?_
 refine .bx hs fun b4 w hs=>?_
 refine .o (.alloc hs bV rfl fun b6 w hs=>?_)
 refine .z zg (.z zg (.z zg (.nil (.aj (.y hs (zls [_,_,_,_,_,_,_,_] aP aE) ?_)))))
 refine .o (.call Tryz.call43 rfl (mn (s:=s) hs h1 h2 h3 h4) ?_);rintro _ w ⟨H1,e,hle1,rfl,hC,hs⟩
 refine .z zg (.nil (.seq (.aj (.z zm (.z gx (.nil ?_))))))
 refine (.eH rfl (fun hc18=>?_) (fun hc18=>?_))
 ·refine .aj (.z (zbd [_,_] fF) (.z zm ?_))
  refine .o (.aZ (vs:=[_,_]) hs rfl rfl aB fun w hs=>?_)
  refine .z zg (.z zg (.z zg (.nil ?_)))
  refine .ret (rT (?_))
  exact Fin.iA [] [] hs fun w hs=>⟨_,results4 Tryz.results87 (dF (vs:=[_,_]) hs rfl aN aB) rfl rfl rfl,H1,_,_,_,_,e,hle1,rfl,⟨_,_,_,rfl⟩,⟨_,_,_,rfl⟩,.bad hC hc18,fun h=>(hc18 h).elim,hs.out⟩
 ·refine .skip ?_
  refine nT ?_
  refine .seq (.aj (.z (zfa aO) (.y hs (zls [_,_,_,_,_,_] aH aC) (.y hs (zls [_,_,_] cJ bA) ?_))))
  have hok:eh s:=hC.cu.1 (by simpa using hc18)
  have hm:=hok.many
  have hsm:s.sys.many+1=(s.sys.n:Int):=by rw [hn];show ((s.sp.many+s.bq.length:Nat):Int)+1=_;omega
  refine .o (.call Tryz.call112 rfl (lI (s:=s.sp) (q:=q) hs (h1.mono hle1) (h2.mono hle1)) ?_);rintro _ w ⟨b24,rfl,hb24,hs⟩
  refine .z gV (.nil ?_)
  refine (.cond rfl (fun hc25=>?_) (fun hc25=>?_))
  ·refine .aj (.z (zbd [_,_] fF) ?_)
   refine .o (.aZ (vs:=[_,_]) hs rfl rfl aB fun w hs=>?_)
   refine .z zg (.z zg (.z zg (.nil ?_)))
   refine .ret (rT (?_))
   exact Fin.iA [] [] hs fun w hs=>⟨_,results4 Tryz.results87 (dF (vs:=[_,_]) hs rfl aN aB) rfl rfl rfl,H1,_,_,_,_,_,hle1,rfl,⟨_,_,_,rfl⟩,⟨_,_,_,rfl⟩,.what hok (fun h=>by rw [hb24.2 h] at hc25;cases hc25),fun h=>by omega,hs.out⟩
  ·refine .skip ?_
   refine nT ?_
   refine .aj (.y hs (zls [_,_,_,_,_,_,_,_] aP aE) ?_)
   have hq:fk s.sp q:=hb24.1 (by simpa using hc25)
   have hwb:=yt hok hq
   have hwl:=mY s q
   refine .o (.call Tryz.call95 rfl (lH (s:=s) hs (h1.mono hle1) (h2.mono hle1) (h3.mono hle1) (h4.mono hle1) hok.early) ?_);rintro _ w ⟨H2,hle2,⟨ul,rfl,hL⟩,hs⟩
   obtain ⟨al,cl,rfl⟩:=RL.shape hL
   have hle02:=hle1.trans hle2
   refine .o (.alloc hs bV rfl fun b11 w hs=>?_)
   refine .o (.aZ (vs:=[_,_]) hs rfl rfl aB fun w hs=>?_)
   refine .nil (.aj (.z (zfa aO) (.y hs (zls [_,_,_,_,_,_] aH aC) (.y hs (zls [_,_,_] cJ bA) ?_))))
   refine .o (.call Tryz.call113 rfl (lG (s:=s.sp) (q:=q) hs (h1.mono hle02) (h2.mono hle02) hok.early.1 hq) ?_);rintro _ w ⟨H3,vl,en,hle3,rfl,hO,hs⟩
   have hle03:=hle02.trans hle3
   have hL0:=eJ s.sp q
   refine .z zm (.z zex (.z zex (.z zg (.z zg (.nil (.seq (.block ?_)))))))
   refine .loop (fun p:Nat×Value=>⟨64,[],[(12,p.2),(13,I (my q)),(11,.pointer (some ⟨b11,0,none⟩)),(6,.pointer (some ⟨b6,0,none⟩)),(2,.bool high)]⟩)
    (fun p w=>(jT s.sp q).length+p.1≤s.sys.n∧∃en,cf 1 p.2 (Is (jT s.sp q++List.replicate p.1 0)) en∧St H3 w (en:: .blk b11 [I s.sys.many,.slice al s.bP.length cl]:: .blk b6 [I 0,.slice none 0 0]::σ)) (fun p=>s.sys.n - ((jT s.sp q).length+p.1)) (0,vl) aR
    ⟨by dsimp only;omega,en,by simpa using hO,hs.sb⟩ ?_
   clear hO hs
   rintro ⟨j,vo⟩ w ⟨hj,en,hO,hs⟩
   dsimp only at hj hO ⊢
   obtain ⟨bo,cap,sp,hv,rfl,hcap⟩:=hO.blk (by simp;omega)
   cases hv
   have hWxl:(jT s.sp q++List.replicate j 0).length=(jT s.sp q).length+j:=by simp
   generalize hWx:jT s.sp q++List.replicate j 0=Wx at*
   refine .seq (.aj (.z zm (.z (cB ae) (.z (zfa bI) (.y hs (zld af) (.z ck (.z fH (.nil ?_))))))))
   refine (.bB rfl (fun hc41=>?_) (fun hc41=>?_))
   ·refine .skip ?_
    refine nT ?_
    refine .block (.region (.z zm ?_))
    refine .o (.buildSlice (cells:=[_]) hs cQ rfl rfl fun b43 w hs=>?_)
    refine .o (.append (ys:=Is [0]) hs bZ rfl rfl hO (.own .here rfl rfl) (gU _) (fun l' h=>by simp [Is] at h;omega) ?_);intro v44 en44 w hO2 hs
    rw [←hWx,show Is (jT s.sp q++List.replicate j 0)++Is [0]=Is (jT s.sp q++List.replicate (j+1) 0) by rw [←zh];simp [Is]] at hO2
    refine .z zg (.nil ?_)
    refine nB (nT ?_)
    exact ⟨(j+1,v44),aR,⟨by dsimp only;omega,_,hO2,hs.sb⟩,by dsimp only;omega⟩
   ·refine .exit ?_
    refine xT (xT (xB (nT ?_)))
    refine .cut (fun fs w=>∃W',W'=vS Wx high∧kg fs ⟨64,[],[(12,.slice (some ⟨bo,0,none⟩) Wx.length cap),(13,I (my q)),(11,.pointer (some ⟨b11,0,none⟩)),(6,.pointer (some ⟨b6,0,none⟩))]⟩∧St H3 w (.blk bo (Is W'++sp):: .blk b11 [I s.sys.many,.slice al s.bP.length cl]:: .blk b6 [I 0,.slice none 0 0]::σ)) ?_ ?_
    ·refine .aj (.z zm (.z gV (.nil ?_)))
     refine (.cond rfl (fun hc46=>?_) (fun hc46=>?_))
     ·refine .aj (.z zg (.nil (.block ?_)))
      have hWeq:Wx=s.w q:=by rw [←hWx];unfold Srv.w;rw [show j=s.bq.length by omega]
      subst hWeq
      refine .loop (fun k:Nat=>⟨64,[],[(14,I (k:Int)),(12,.slice (some ⟨bo,0,none⟩) (s.w q).length cap),(13,I (my q)),(11,.pointer (some ⟨b11,0,none⟩)),(6,.pointer (some ⟨b6,0,none⟩))]⟩)
       (fun k w=>k≤s.sys.n∧∃L,L.length=s.sys.n∧(∀v<s.sys.n,gi L v=if v<k then -gi (s.w q) v else gi (s.w q) v)∧St H3 w (.blk bo (Is L++sp):: .blk b11 [I s.sys.many,.slice al s.bP.length cl]:: .blk b6 [I 0,.slice none 0 0]::σ)) (fun k=>s.sys.n - k) 0 (.bU rfl bL aR)
       ⟨Nat.zero_le _,s.w q,hwl,fun v _=>by rw [if_neg ak],hs⟩ ?_
      clear hs
      rintro k w ⟨hk,L,hLl,hLg,hs⟩
      refine .seq (.aj (.z zm (.z zm (.z (cB ae) (.z fH (.nil ?_))))))
      refine (.bB rfl (fun hc50=>?_) (fun hc50=>?_))
      ·refine .skip ?_
       refine nT ?_
       refine .seq (.block (.region (.z zm (.z zm (.z zm (.z zm ?_))))))
       have hkn:k<s.sys.n:=by omega
       have hgk:=hLg k hkn
       rw [if_neg ak] at hgk
       have hbk:=hwb k
       refine .q hs (dH (k:=k) rfl rfl ae ai rfl ak) ?_
       refine .q hs (dG rfl af (hv:=fB ak sp)) ?_
       refine .z xr ?_
       refine .q hs (dH (k:=k) rfl rfl ae ai rfl ak) ?_
       refine .o (.store (c':=Is (L.set k (-gi L k))++sp) hs rfl rfl ai ?_ cP (by simp [Is];omega) (gZ ak sp _));intro w hs
       refine .nil ?_
       refine nB (nT ?_)
       refine .region (.z zm (.z ck (.z zg (.nil ?_))))
       refine nT ?_
       exact ⟨k+1,.bU rfl bL aR,⟨ak,_,by rw [List.length_set];exact hLl,fun v hv=>by
        rw [ed ak]
        by_cases e:v=k
        ·subst e;rw [if_pos rfl,if_pos ak,hgk]
        ·rw [if_neg e,hLg v hv]
         by_cases e2:v<k
         ·rw [if_pos e2,if_pos ak]
         ·rw [if_neg e2,if_neg ak],hs⟩,ak⟩
      ·refine .exit ?_
       refine xT (xT (xB (nT ?_)))
       have hf:high=false:=by simpa using hc46
       refine ⟨L,?_,aR,hs⟩
       unfold vS;rw [hf]
       refine xe (by rw [hLl];simp [pX,hwl]) fun v hv=>?_
       rw [hLg v ak,if_pos ak]
       show _=gi ((s.w q).map fun x=> -x) v
       simp [gi,List.getD,List.getElem?_map]
       cases (s.w q)[v]? <;>simp
     ·refine .skip ?_
      refine nT ?_
      have hf:high=true:=by simpa using hc46
      exact ⟨Wx,by unfold vS;rw [hf];rfl,aR,hs⟩
    ·clear hO hs
     rintro fs w ⟨W',hW',hfs,hs⟩
     refine WE.sub ?_ hfs
     have hWeq:Wx=s.w q:=by rw [←hWx];unfold Srv.w;rw [show j=s.bq.length by omega]
     subst hWeq
     have hWl:W'.length=(s.w q).length:=by rw [hW'];unfold vS;split<;>simp [pX]
     refine .aj (.y hs (zls [_,_] aN aB) (.z zm (.z zm ?_)))
     refine .o (.aZ (vs:=[_,_]) hs rfl rfl aB fun w hs=>?_)
     refine .z zg (.z zg (.z zg (.nil ?_)))
     refine .ret ?_
     obtain ⟨H4,hle4,hR,hs⟩:=cf.de (xs:=W') (v:= .slice (some ⟨bo,0,none⟩) (s.w q).length cap) (.inr ⟨bo,_,cap,sp,rfl,rfl,by simp [Is,hWl],by simp [Is];omega,ak⟩) ak hs cP
     exact Fin.iA [] [] hs fun w hs=>⟨_,results4 Tryz.results87 (dF (vs:=[_,_]) hs rfl aN aB) rfl rfl rfl,H4,_,_,_,_,_,hle03.trans hle4,rfl,⟨_,_,_,rfl⟩,⟨_,_,_,rfl⟩,.ok hok hq,fun _=>⟨rfl,hL.mono (hle3.trans hle4),by rw [←hW'];exact hR,rfl⟩,hs.out⟩
set_option maxHeartbeats 1000000 in
theorem rK{s:Srv}{q:Wht}{vst vwa vr vc:Value}(hs:St H w σ)(h1:RI H vst s.sp.st)(h2:RI H vwa s.sp.wa)(h3:RRd H vr s.rs)(h4:RCm H vc s.cs):
  Cl Tryz.prog 27 [.agg #[I s.sp.id,I s.sp.src,vst,vwa,I s.sp.al,I s.sp.up,vr,vc],.agg #[I q.kind,I q.st,I q.wa]] w fun u w'=>∃H1 lo hi e,HLe H H1∧u= .tuple #[.agg #[I lo,I hi],I e]∧xv s q lo hi e∧St H1 w' σ:=by
 refine Cl.o Tryz.func27 Tryz.ntmps27 ag2 ?_
 refine .aj ?_
 refine .bx hs fun b2 w hs=>?_
 refine .bx hs fun b3 w hs=>?_
 refine .o (.alloc hs eU rfl fun b4 w hs=>?_)
 refine .z zg (.nil (.aj (.y hs (zls [_,_,_,_,_,_,_,_] aP aE) (.y hs (zls [_,_,_] cJ bA) ?_))))
 refine .o (.call Tryz.call87 rfl (rI (s:=s) (q:=q) (high:=true) hs h1 h2 h3 h4) ?_);rintro _ w ⟨H1,m,ul,vw,d,e,hle1,rfl,⟨al,ll,cl,rfl⟩,⟨aw,lw,cw,rfl⟩,hA,hA0,hs⟩
 refine .z zm (.z zex (.z zex (.z zex (.z zex ?_))))
 refine .o (.alloc hs bV rfl fun b6 w hs=>?_)
 refine .o (.aZ (vs:=[_,_]) hs rfl rfl aB fun w hs=>?_)
 refine .z zg (.z zg (.z zg (.nil (.seq (.aj (.z zm (.z gx (.nil ?_))))))))
 refine (.eH rfl (fun hc22=>?_) (fun hc22=>?_))
 ·refine .aj (.z (zbd [_,_] cn) (.z zm ?_))
  refine .o (.aZ (vs:=[_,_]) hs rfl rfl aT fun w hs=>?_)
  refine .z zg (.nil ?_)
  refine .ret (rT (?_))
  exact Fin.iA [] [] hs fun w hs=>⟨_,results2 Tryz.results27 (dF (vs:=[_,_]) hs rfl dw aT) rfl,H1,_,_,_,hle1,rfl,hA.qty hc22,hs.out⟩
 ·refine .skip ?_
  refine nT ?_
  refine .aj (.y hs (zls [_,_] aN aB) (.z zm ?_))
  obtain rfl:e=0:=by simpa using hc22
  obtain ⟨rfl,hL,hR,rfl⟩:=hA0 rfl
  obtain ⟨hok,hq⟩:=hA.zero
  refine .o (.call Tryz.call88 rfl (rP (s:=s.sys) hs ⟨_,rfl,hL⟩ hR) ?_);rintro _ w ⟨H2,lo,hi,f,hle2,rfl,hRg,hs⟩
  have hRg:eY s.sys (s.w q) lo hi f:=hRg
  have hbd:=hRg.bd
  have hdp:=ss q
  refine .z zm (.z zex (.z zex (.z zex (.z zg (.z zg (.z zg (.nil (.seq (.aj ?_)))))))))
  refine .z zm (.z gx (.nil ?_))
  refine (.eH rfl (fun hc33=>?_) (fun hc33=>?_))
  ·refine .aj (.z (zbd [_,_] cn) ?_)
   refine .o (.aZ (vs:=[_,_]) hs rfl rfl aT fun w hs=>?_)
   refine .z zg (.nil ?_)
   refine .ret (rT (?_))
   have hns:¬s.sys.Sound:=fun h=>hc33 (me (hok.ask hq) h (fun b=>s.both) hRg)
   exact Fin.iA [] [] hs fun w hs=>⟨_,results2 Tryz.results27 (dF (vs:=[_,_]) hs rfl dw aT) rfl,H2,_,_,_,hle1.trans hle2,rfl,.fls hok hq hns,hs.out⟩
  ·refine .skip ?_
   refine nT ?_
   refine .aj (.z zm (.z zm ?_))
   obtain rfl:f=0:=by simpa using hc33
   have hsd:s.sys.Sound:=Classical.byContradiction fun h=>by have:=tB (hok.ask hq) h hRg;omega
   refine .o (.call Tryz.call78 rfl (kn hs ak ak) ?_);rintro _ w ⟨rfl,hs⟩
   refine .z zm (.z zm ?_)
   refine .o (.call Tryz.call78 rfl (kn hs ak ak) ?_);rintro _ w ⟨rfl,hs⟩
   refine .z (zbd [_,_] cn) ?_
   refine .o (.aZ (vs:=[_,_]) hs rfl rfl aT fun w hs=>?_)
   refine .z zg (.nil ?_)
   refine .ret ?_
   exact Fin.iA [] [] hs fun w hs=>⟨_,results2 Tryz.results27 (dF (vs:=[_,_]) hs rfl dw aT) rfl,H2,_,_,_,hle1.trans hle2,rfl,.ok hok hq hsd hRg,hs.out⟩
theorem bK{n m:Int}(hs:St H w σ)(hm:1≤m∧m≤4611686018427387904):
  Cl Tryz.prog 31 [I n,I m] w fun u w'=>∃k:Nat,(k:Int)<m∧u=I (k:Int)∧St H w' σ:=by
 have h1:=Int.tmod_lt_of_pos n (show 0<m by omega)
 have h2:=Int.lt_tmod_of_pos n (show 0<m by omega)
 have h3:=Int.tmod_lt_of_pos (n.tmod m+m) (show 0<m by omega)
 have h4:=Int.tmod_nonneg m (show 0≤n.tmod m+m by omega)
 refine Cl.o Tryz.func31 Tryz.ntmps31 ag2 ?_
 refine .aj (.z zg (.nil (.aj (.z zm (.z zm (.z BQ (.z zm (.z ck (.z zm ?_)))))))))
 refine .z BQ (.z zg (.nil ?_))
 refine .ret (Fin.bH Tryz.results31 rfl ?_)
 exact ⟨((n.tmod m+m).tmod m).toNat,ak,by rw [show (((n.tmod m+m).tmod m).toNat:Int)=(n.tmod m+m).tmod m by omega],hs⟩
theorem di{v:Value}{l:List Int}{i n:Int}(hs:St H w σ)(hr:RI H v l)(hi:0≤i)(hn:1≤n∧n≤4611686018427387904):
  Cl Tryz.prog 100 [v,I i,I n] w fun u w'=>∃k:Nat,(k:Int)<n∧u=I (k:Int)∧St H w' σ:=by
 obtain ⟨a,c,rfl⟩:=RI.shape hr
 refine Cl.o Tryz.func100 Tryz.ntmps100 ag3 ?_
 refine .aj (.z zg (.nil (.seq (.aj (.z zm (.z (cB ae) (.z fo (.nil ?_))))))))
 refine (.bB rfl (fun hc9=>?_) (fun hc9=>?_))
 ·refine .aj (.z zg (.nil ?_))
  refine .ret (rT (Fin.bH Tryz.results100 rfl ?_))
  exact ⟨0,ak,rfl,hs⟩
 ·refine .skip ?_
  refine nT ?_
  refine .aj (.z zm (.z zm (.z zm (.z (cB ae) (.z BQ ?_)))))
  have g1:=Int.tmod_lt_of_pos i (show 0<(l.length:Int) by omega)
  have g2:=Int.tmod_nonneg (l.length:Int) hi
  refine .ixY hs hr rfl rfl ae ai (bn (l:=l) (i:=(i.tmod l.length).toNat) ak) ak ?_;intro b15 o15 hc15
  refine .q hs (aJ rfl af hc15) ?_
  refine .z zm ?_
  refine .o (.call da rfl (bK hs hn) ?_);rintro _ w ⟨k,hk,rfl,hs⟩
  refine .z zg (.nil ?_)
  refine .ret (Fin.bH Tryz.results100 rfl ?_)
  exact ⟨k,hk,rfl,hs⟩
theorem s4{v vp:Value}{s:cj}{jo:List Int}(hs:St H w σ)(hr:RSy H v s)(hp:RI H vp jo)(hgood:s.Ok∧s.Sound):
  Cl Tryz.prog 212 [v,vp] w fun u w'=>∃H1 vx x en,HLe H H1∧u= .tuple #[vx,I 0]∧cf 1 vx (Is x) en∧uT s jo x∧St H1 w' (en::σ):=by
 obtain ⟨ul,rfl,hl⟩:=hr
 obtain ⟨al,cl,rfl⟩:=RL.shape hl
 obtain ⟨ap,cp,rfl⟩:=RI.shape hp
 refine Cl.o Tryz.func212 Tryz.ntmps212 ag2 ?_
 refine .aj ?_
 refine .bx hs fun b2 w hs=>?_
 refine .z zg (.z zg (.nil (.aj (.y hs (zls [_,_] aN aB) ?_))))
 refine .o (.call Tryz.call210 rfl (mr (s:=s) hs ⟨_,rfl,hl⟩) ?_);rintro _ w ⟨H1,vt,e,hle1,rfl,hcase,hs⟩
 refine .z zm (.z zex (.z zex (.z zg (.z zg (.nil (.seq (.aj (.z zm (.z gx ?_)))))))))
 refine .nil ?_
 refine (.eH rfl (fun hc20=>?_) (fun hc20=>?_))
 ·refine .aj (.z zm (.z zg (.z zg (.nil ?_))))
  refine .ret (rT (Fin.lq Tryz.results212 rfl rfl ?_))
  rcases hcase with ⟨h1,rfl,rfl⟩|⟨h1,h2,rfl,rfl⟩|⟨_,_,rfl,_⟩
  ·exact (h1 (s.cu.2 hgood.1)).elim
  ·exact (h2 hgood.2).elim
  ·exact (hc20 rfl).elim
 ·refine .skip ?_
  refine nT ?_
  refine .aj ?_
  subst hc20
  obtain ⟨hok,hsd,rs,hRT,hSq,hWT⟩:s.Ok∧s.Sound∧∃rs,RT H1 vt rs∧Sq s.n rs∧iw s.n s.dc (gt rs):=by
   rcases hcase with ⟨h1,h2,_⟩|⟨_,_,h2,_⟩|⟨h1,h2,_,h3⟩
   ·exact (h1 h2.symm).elim
   ·omega
   ·exact ⟨h1,h2,h3⟩
  obtain ⟨at',ct,rfl⟩:=hRT.shape
  have hTS:=hok.Fu hsd hWT
  have hrl:=hSq.1
  have hm0:=hok.m0
  have hm1:=hok.m1
  have hnn:(s.n:Int)=s.many+1:=by simp only [cj.n];omega
  refine .o (.buildSlice (cells:=[_]) hs cQ rfl rfl fun b22 w hs=>?_)
  refine .z zg (.nil (.seq (.aj (.z zg (.nil (.block ?_))))))
  refine .loop (fun p:List Int×Value=>⟨109,[],[(9,I (p.1.length:Int)),(8,p.2),(6,.slice at' rs.length ct),(2,.pointer (some ⟨b2,0,none⟩)),(1,.slice ap jo.length cp)]⟩)
   (fun p w=>Es (gt rs) (pO jo) p.1∧p.1.length≤s.n∧∃en,cf 1 p.2 (Is p.1) en∧St H1 w (en:: .blk b2 [I s.many,.slice al s.bP.length cl]::σ))
   (fun p=>s.n - p.1.length) ([0],.slice (some ⟨b22,0,none⟩) 1 1) aR
   ⟨.start,s.zO,_,.full (len:=1) rfl,hs⟩ ?_
  rintro ⟨X,v8⟩ w ⟨hP,hXn,en,hO,hs⟩
  dsimp only at hP hXn hO ⊢
  have hI:=hP.inv (fun i n hn=>vu jo i hn) hTS hXn
  have hX0:=hI.l0
  have hO1:=hO
  obtain ⟨b,cap,sp,rfl,rfl,hcap⟩:=hO.some hX0
  refine .seq (.aj (.z zm (.z (zfa bI) (.y hs (zld af) (.z wh (.nil ?_))))))
  refine (.bB rfl (fun hc26=>?_) (fun hc26=>?_))
  ·refine .skip ?_
   refine nT ?_
   refine .seq (.block (.aj (.z zg (.nil ?_))))
   have hXl:X.length<s.n:=by omega
   refine .aj (.z zg (.nil (.seq (.aj (.z zm (.z (cB ae) (.z zm (.nil ?_))))))))
   refine .for (N:=X.length) (J:=fun k fr w=>∃lo hi,fr=[(10,I lo),(11,I hi),(9,I (X.length:Int)),(8,.slice (some ⟨b,0,none⟩) X.length cap),(6,.slice at' rs.length ct),(2,.pointer (some ⟨b2,0,none⟩)),(1,.slice ap jo.length cp)]∧LoI (gt rs) X X.length k lo∧HiI (gt rs) X X.length k hi∧St H1 w (.blk b (Is X++sp):: .blk b2 [I s.many,.slice al s.bP.length cl]::σ)) ak ?_ ?_ ?_
   ·exact .mk ⟨_,_,rfl,.start _ _ _,.start _ _ _,hs⟩
   ·rintro k fr w hk ⟨lo,hi,rfl,hLo,hHi,hs⟩
    have hXk:=hI.bd k hk
    have hr1:(gr rs X.length).length=s.n:=hSq.2 _ hXl
    have hr2:(gr rs k).length=s.n:=hSq.2 _ ak
    have hb1:gi (gr rs X.length) k≠1000000000→-1400000≤gi (gr rs X.length) k∧gi (gr rs X.length) k≤1400000:=fun h=>hTS.bd X.length k hXl ak h
    have hb2:gi (gr rs k) X.length≠1000000000→-1400000≤gi (gr rs k) X.length∧gi (gr rs k) X.length≤1400000:=fun h=>hTS.bd k X.length ak hXl h
    refine .block (.aj (.z zm (.z zg (.nil ?_))))
    refine .cut (fun fs w=>∃lo',kg fs ⟨109,[],[(10,I lo'),(12,I (k:Int)),(31,I (k:Int)),(30,I (X.length:Int)),(11,I hi),(9,I (X.length:Int)),(8,.slice (some ⟨b,0,none⟩) X.length cap),(6,.slice at' rs.length ct),(2,.pointer (some ⟨b2,0,none⟩)),(1,.slice ap jo.length cp)]⟩∧LoI (gt rs) X X.length (k+1) lo'∧St H1 w (.blk b (Is X++sp):: .blk b2 [I s.many,.slice al s.bP.length cl]::σ)) ?_ ?_
    ·refine .aj (.z zm (.z zm ?_))
     refine .ixT hs hRT rfl rfl aq az (show X.length<rs.length by omega) rfl ?_;intro b36 o36 a36 c36 hc36 hR36
     refine .q hs (aJ rfl an hc36) ?_
     refine .z zm ?_
     refine .ixY hs hR36 rfl rfl ae ai (bn (l:=gr rs X.length) (i:=k) ak) rfl ?_;intro b39 o39 hc39
     refine .q hs (aJ rfl af hc39) ?_
     refine .z gx (.nil ?_)
     refine (.eH rfl (fun hc41=>?_) (fun hc41=>?_))
     ·refine .draw mix rfl hs fun w hs=>?_
      refine .z 0 rfl zm ?_;refine .z 1 rfl zm ?_;refine .z 2 rfl zm ?_;refine .z 3 rfl (zix ae ai) ?_
      refine .load (i:=4) hs rfl au .none rfl af ?_ (hv:=fB hk sp)
      refine .z 5 rfl zm ?_;refine .z 6 rfl zm ?_
      refine .ixT (i:=7) hs rfl au .none hRT rfl rfl aq az (show X.length<rs.length by omega) rfl ?_;intro b49 o49 a49 c49 hc49 hR49
      refine .r (i:=8) hs rfl au .none (aJ rfl an hc49) ?_
      refine .z 9 rfl zm ?_
      refine .ixX (enc:=fun x=>[I x]) (i:=10) hs rfl au .none hR49 rfl rfl ae ai (bn (l:=gr rs X.length) (i:=k) ak) rfl ?_;intro b52 o52 hc52;replace hc52:=bu.one hc52
      refine .r (i:=11) hs rfl au .none (aJ rfl af hc52) ?_
      refine .z 12 rfl gL ?_;refine .z 13 rfl Dd ?_;refine .z 14 rfl zg ?_;refine .D hs ?_
      refine nT ?_
      exact ⟨_,aR,hLo.put hc41 (by have:=hb1 hc41;have:=hXk;have:=hTS.n65;show -1000000000≤gi X k - gi (gr rs X.length) k;omega),hs⟩
     ·refine .skip ?_
      refine nT ?_
      exact ⟨_,aR,hLo.skip hc41,hs⟩
    ·rintro fs w ⟨lo',hfs,hLo',hs⟩
     refine WE.sub ?_ hfs
     refine .aj (.z zm (.z zm ?_))
     refine .ixT hs hRT rfl rfl aq az (show k<rs.length by omega) rfl ?_;intro b58 o58 a58 c58 hc58 hR58
     refine .q hs (aJ rfl an hc58) ?_
     refine .z zm ?_
     refine .ixY hs hR58 rfl rfl ae ai (bn (l:=gr rs k) (i:=X.length) ak) rfl ?_;intro b61 o61 hc61
     refine .q hs (aJ rfl af hc61) ?_
     refine .z gx (.nil ?_)
     refine (.eH rfl (fun hc63=>?_) (fun hc63=>?_))
     ·refine .draw mix rfl hs fun w hs=>?_
      refine .z 0 rfl zm ?_;refine .z 1 rfl zm ?_;refine .z 2 rfl zm ?_;refine .z 3 rfl (zix ae ai) ?_
      refine .load (i:=4) hs rfl au .none rfl af ?_ (hv:=fB hk sp)
      refine .z 5 rfl zm ?_;refine .z 6 rfl zm ?_
      refine .ixT (i:=7) hs rfl au .none hRT rfl rfl aq az (show k<rs.length by omega) rfl ?_;intro b71 o71 a71 c71 hc71 hR71
      refine .r (i:=8) hs rfl au .none (aJ rfl an hc71) ?_
      refine .z 9 rfl zm ?_
      refine .ixX (enc:=fun x=>[I x]) (i:=10) hs rfl au .none hR71 rfl rfl ae ai (bn (l:=gr rs k) (i:=X.length) ak) rfl ?_;intro b74 o74 hc74;replace hc74:=bu.one hc74
      refine .r (i:=11) hs rfl au .none (aJ rfl af hc74) ?_
      refine .z 12 rfl ck ?_;refine .z 13 rfl zr ?_;refine .z 14 rfl zg ?_;refine .D hs ?_
      refine nB (nT ?_)
      exact .mk ⟨lo',_,rfl,hLo',hHi.put hc63 (by have:=hb2 hc63;have:=hXk;have:=hTS.n65;show gi X k+gi (gr rs k) X.length≤1000000000;omega),hs⟩
     ·refine .skip ?_
      refine nB (nT ?_)
      exact .mk ⟨lo',_,rfl,hLo',hHi.skip hc63,hs⟩
   ·rintro fr w ⟨lo,hi,rfl,hLo,hHi,hs⟩
    have hlb:=hLo.bd hI hTS hXl (Nat.le_refl _)
    have hhb:=hHi.bd hI hTS hXl (Nat.le_refl _)
    have hle:=hI.le hTS hXl rfl hLo hHi
    simp only [free] at hlb hhb hle
    have hpk:=vu jo ((X.length:Int) - 1) (n:=hi - lo+1)
    refine nT ?_
    refine .aj (.z zg (.nil ?_))
    refine .cut (fun fs w=>kg fs ⟨109,[],[(13,I (jM lo hi (pO jo ((X.length:Int) - 1) (hi - lo+1)))),(9,I (X.length:Int)),(8,.slice (some ⟨b,0,none⟩) X.length cap),(6,.slice at' rs.length ct),(2,.pointer (some ⟨b2,0,none⟩)),(1,.slice ap jo.length cp)]⟩∧St H1 w (.blk b (Is X++sp):: .blk b2 [I s.many,.slice al s.bP.length cl]::σ)) ?_ ?_
    ·refine .block (.aj (.z zm (.z gx (.z zm ?_))))
     refine .yf (t':=82) rfl (fun hb82=>?_) (fun hb82=>?_)
     ·refine .gT rfl rfl ?_
      refine .z zm ?_
      refine .gT rfl rfl ?_
      refine .z gx (.z zpT (.z zg (.nil ?_)))
      refine (.eH rfl (fun hc79=>?_) (fun hc79=>?_))
      ·refine .region (.z zm (.z zm (.z zm (.z gL (.z zm (.z zm (.z gL (.z ck ?_))))))))
       refine .o (.call Tryz.call264 rfl (s5 hs (hp.mono hle1) ak ak) ?_);rintro _ w ⟨rfl,hs⟩
       have hq1:hi≠1000000000:=by simpa using hc79
       have hq2:=hle (by simpa using hb82) hq1
       have hq3:=hpk ak
       refine .z ck (.z zg (.nil ?_))
       refine nB (nT ?_)
       refine ⟨.bU rfl ?_ aR,hs⟩
       unfold jM
       simp only [free] at*
       split<;>(try split)<;>first|rfl|omega|(simp_all;done)|(exfalso;simp_all;omega)
      ·refine .aj (.z zm (.z gx (.z zg (.nil ?_))))
       refine (.eH rfl (fun hc96=>?_) (fun hc96=>?_))
       ·refine .region (.z zm (.z zg (.nil ?_)))
        refine nB (nT ?_)
        refine ⟨.bU rfl ?_ aR,hs⟩
        unfold jM
        simp only [free] at*
        split<;>(try split)<;>first|rfl|omega|(simp_all;done)|(exfalso;simp_all;omega)
       ·refine .aj (.z zm (.z gx (.z zg (.nil ?_))))
        refine (.eH rfl (fun hc100=>?_) (fun hc100=>?_))
        ·refine .region (.z zm (.z zg (.nil ?_)))
         refine nB (nT ?_)
         refine ⟨.bU rfl ?_ aR,hs⟩
         unfold jM
         simp only [free] at*
         split<;>(try split)<;>first|rfl|omega|(simp_all;done)|(exfalso;simp_all;omega)
        ·refine .skip ?_
         refine nB (nT ?_)
         refine ⟨.bU rfl ?_ aR,hs⟩
         unfold jM
         simp only [free] at*
         split<;>(try split)<;>first|rfl|omega|(simp_all;done)|(exfalso;simp_all;omega)
     ·refine .gFs 2 2 true rfl rfl rfl ?_
      refine .z zpF (.z zg (.nil ?_))
      refine (.cF ?_)
      refine .aj (.z zm (.z gx (.z zg (.nil ?_))))
      refine (.eH rfl (fun hc96=>?_) (fun hc96=>?_))
      ·refine .region (.z zm (.z zg (.nil ?_)))
       refine nB (nT ?_)
       refine ⟨.bU rfl ?_ aR,hs⟩
       unfold jM
       simp only [free] at*
       split<;>(try split)<;>first|rfl|omega|(simp_all;done)|(exfalso;simp_all;omega)
      ·refine .aj (.z zm (.z gx (.z zg (.nil ?_))))
       refine (.eH rfl (fun hc100=>?_) (fun hc100=>?_))
       ·refine .region (.z zm (.z zg (.nil ?_)))
        refine nB (nT ?_)
        refine ⟨.bU rfl ?_ aR,hs⟩
        unfold jM
        simp only [free] at*
        split<;>(try split)<;>first|rfl|omega|(simp_all;done)|(exfalso;simp_all;omega)
       ·refine .skip ?_
        refine nB (nT ?_)
        refine ⟨.bU rfl ?_ aR,hs⟩
        unfold jM
        simp only [free] at*
        split<;>(try split)<;>first|rfl|omega|(simp_all;done)|(exfalso;simp_all;omega)
    ·rintro fs w ⟨hfs,hs⟩
     refine WE.sub ?_ hfs
     refine .region (.z zm (.z zm ?_))
     refine .o (.buildSlice (cells:=[_]) hs cQ rfl rfl fun b106 w hs=>?_)
     refine .o (.append (ys:=Is [jM lo hi (pO jo ((X.length:Int) - 1) (hi - lo+1))]) hs bZ rfl rfl hO1 (.own .here rfl rfl) (gU _) (fun l' h=>by simp at h;have:=hTS.n65;omega) ?_);intro v107 en107 w hO2 hs
     rw [←List.map_append] at hO2
     refine .z zg (.nil ?_)
     refine nB (nT ?_)
     refine .region (.z zm (.z ck (.z zg (.nil ?_))))
     refine nT ?_
     exact ⟨(X++[jM lo hi (pO jo ((X.length:Int) - 1) (hi - lo+1))],v107),.bU rfl bL aR,⟨hP.snoc hLo hHi,by simp;omega,_,hO2,hs.sb⟩,by simp;omega⟩
  ·refine .exit ?_
   refine xT (xT (xB (nT ?_)))
   refine .aj (.z zm (.z zg (.z zg (.nil ?_))))
   refine .ret (Fin.lq Tryz.results212 rfl rfl ?_)
   exact ⟨H1,_,X,_,hle1,rfl,hO1,⟨gt rs,hWT,hP,ak⟩,hs.sb⟩
theorem m9{s:Srv}{vst vwa vr vc:Value}(hs:St H w σ)(h1:RI H vst s.sp.st)(h2:RI H vwa s.sp.wa)(h3:RRd H vr s.rs)(h4:RCm H vc s.cs)(he:s.early):
  Cl Tryz.prog 211 [.agg #[I s.sp.id,I s.sp.src,vst,vwa,I s.sp.al,I s.sp.up,vr,vc]] w fun u w'=>∃H1,HLe H H1∧RSy H1 u s.nZ∧St H1 w' σ:=by
 obtain ⟨ar,cr,rfl⟩:=RRd.shape h3
 have hfl:=yX s
 have hrl:=he.2.1
 refine Cl.o Tryz.func211 Tryz.ntmps211 ag1 ?_
 refine .aj ?_
 refine .bx hs fun b1 w hs=>?_
 refine .o (.alloc hs bV rfl fun b2 w hs=>?_)
 refine .nil (.aj (.y hs (zls [_,_,_,_,_,_,_,_] aP aE) ?_))
 refine .o (.call Tryz.call95 rfl (lH (s:=s) hs h1 h2 h3 h4 he) ?_);rintro _ w ⟨H1,hle1,⟨ul,rfl,hL⟩,hs⟩
 have hL:RL H1 ul s.bP:=hL
 obtain ⟨al,cl,rfl⟩:=RL.shape hL
 have hln:=RS.len hL
 rw [List.length_map] at hln
 refine .o (.alloc hs bV rfl fun b3 w hs=>?_)
 refine .o (.aZ (vs:=[_,_]) hs rfl rfl aB fun w hs=>?_)
 refine .nil (.aj (.z (zfa bE) (.y hs (zld cA) (.z (zfa bE) (.y hs (zld cA) (.z (cB aI) (.z (zfa aM) (.y hs (zld bj) (.z (cB aA) ?_)))))))))
 refine .z jS (.z gL ?_)
 refine .q hs (lO (k:=s.nm.length) rfl rfl aI aS ak ak) ?_
 have hT:=RS.head hL (k:=s.nm.length) ak
 rw [←List.map_take,w8] at hT
 refine .z (zfa bE) ?_
 refine .o (.store hs rfl rfl j7 fun w hs=>?_)
 refine .nil (.aj (.y hs (zls [_,_] aN aB) ?_))
 refine .o (.aZ (vs:=[_,_]) hs rfl rfl aB fun w hs=>?_)
 refine .nil ?_
 refine .ret ?_
 exact Fin.iA [] [] hs fun w hs=>⟨_,results1 Tryz.results211 (dF (vs:=[_,_]) hs rfl aN aB),H1,hle1,⟨_,rfl,hT⟩,hs.out⟩
theorem sW{s:Srv}{vst vwa vr vc:Value}(hs:St H w σ)(h1:RI H vst s.sp.st)(h2:RI H vwa s.sp.wa)(h3:RRd H vr s.rs)(h4:RCm H vc s.cs)(he:s.early)(hok:s.nZ.Ok):
  Cl Tryz.prog 142 [.agg #[I s.sp.id,I s.sp.src,vst,vwa,I s.sp.al,I s.sp.up,vr,vc]] w fun u w'=>∃H1,∃b:Bool,HLe H H1∧u= .bool b∧(b=false→s.nZ.Sound)∧St H1 w' σ:=by
 refine Cl.o Tryz.func142 Tryz.ntmps142 ag1 ?_
 refine .aj ?_
 refine .bx hs fun b1 w hs=>?_
 refine .z zg (.nil (.aj (.y hs (zls [_,_,_,_,_,_,_,_] aP aE) ?_)))
 refine .o (.call Tryz.call211 rfl (m9 (s:=s) hs h1 h2 h3 h4 he) ?_);rintro _ w ⟨H1,hle1,hS,hs⟩
 refine .o (.call Tryz.call210 rfl (mr (s:=s.nZ) hs hS) ?_);rintro _ w ⟨H2,vt,e,hle2,rfl,hcase,hs⟩
 refine .z zm (.z zex (.z zex (.z zg (.z zg (.nil (.aj (.z zm (.z gx (.z zg ?_)))))))))
 refine .nil ?_
 refine .ret (Fin.bH Tryz.results142 rfl ?_)
 exact ⟨H2,_,hle1.trans hle2,rfl,fun h=>by
  rcases hcase with ⟨k1,_,_⟩|⟨_,_,k3,_⟩|⟨_,k2,_,_⟩
  ·exact (k1 (s.nZ.cu.2 hok)).elim
  ·subst k3;simp at h
  ·exact k2,hs.out⟩
theorem sV{s:Srv}{vst vwa vr vc vp:Value}{jo:List Int}(hs:St H w σ)(h1:RI H vst s.sp.st)(h2:RI H vwa s.sp.wa)(h3:RRd H vr s.rs)(h4:RCm H vc s.cs)(hp:RI H vp jo)(he:s.early)(hok:s.nZ.Ok∧s.nZ.Sound):
  Cl Tryz.prog 143 [.agg #[I s.sp.id,I s.sp.src,vst,vwa,I s.sp.al,I s.sp.up,vr,vc],vp] w fun u w'=>∃H1 x en,HLe H H1∧cf 1 u (Is x) en∧uT s.nZ jo x∧St H1 w' (en::σ):=by
 obtain ⟨ap,cp,rfl⟩:=RI.shape hp
 refine Cl.o Tryz.func143 Tryz.ntmps143 ag2 ?_
 refine .aj ?_
 refine .bx hs fun b2 w hs=>?_
 refine .z zg (.nil (.aj (.y hs (zls [_,_,_,_,_,_,_,_] aP aE) ?_)))
 refine .o (.call Tryz.call211 rfl (m9 (s:=s) hs h1 h2 h3 h4 he) ?_);rintro _ w ⟨H1,hle1,hS,hs⟩
 refine .z zm ?_
 refine .o (.call Tryz.call212 rfl (s4 (s:=s.nZ) hs hS (hp.mono hle1) hok) ?_);rintro _ w ⟨H2,vx,x,en,hle2,rfl,hO,hP,hs⟩
 refine .z zm (.z zex (.z zex (.z zg (.z zg (.nil (.aj (.z zm (.z zg (.nil ?_)))))))))
 refine .ret (Fin.bH Tryz.results143 rfl ?_)
 exact ⟨H2,x,en,hle1.trans hle2,hO,hP,hs.sb⟩
set_option maxHeartbeats 1000000 in
theorem oP{s:Spc}{vst vwa:Value}{a b c:Int}(hs:St H w σ)(h1:RI H vst s.st)(h2:RI H vwa s.wa)(hk:fl s):
  Cl Tryz.prog 25 [.agg #[I s.id,I s.src,vst,vwa,I s.al,I s.up],.agg #[I a,I b,I c]] w fun u w'=>∃q:Wht,u= .agg #[I q.kind,I q.st,I q.wa]∧fk s q∧St H w' σ:=by
 obtain ⟨ast,cst,rfl⟩:=RI.shape h1
 obtain ⟨awa,cwa,rfl⟩:=RI.shape h2
 have hl1:=hk.st.two
 have hl2:=hk.wa.two
 have hl3:=hk.st.many
 have hl4:=hk.wa.many
 refine Cl.o Tryz.func25 Tryz.ntmps25 ag2 ?_
 refine .aj ?_
 refine .bx hs fun b2 w hs=>?_
 refine .bx hs fun b3 w hs=>?_
 refine .o (.alloc hs Tryz.zeroValue29 rfl fun b4 w hs=>?_)
 refine .nil (.aj ?_)
 refine .z (zia 0 aQ ai) ?_
 refine .y hs (zld af) ?_
 refine .o (.call da rfl (bK hs ak) ?_);rintro _ w ⟨k,hk4,rfl,hs⟩
 refine .z ck (.z (zbd [_,_,_] jD) ?_)
 refine .o (.alloc hs Tryz.zeroValue29 rfl fun b5 w hs=>?_)
 refine .o (.aZ (vs:=[_,_,_]) hs rfl rfl bA fun w hs=>?_)
 refine .nil (.aj ?_)
 refine .z (zia 1 aQ ai) ?_
 refine .y hs (zld af) (.z (zfa bp) (.y hs (zld an) (.z (cB ae) ?_)))
 refine .o (.call da rfl (bK hs ak) ?_);rintro _ w ⟨i,hi,rfl,hs⟩
 refine .z zg (.nil (.aj ?_))
 refine .z (zia 2 aQ ai) ?_
 refine .y hs (zld af) (.z (zfa aW) (.y hs (zld an) (.z (cB ae) ?_)))
 refine .o (.call da rfl (bK hs ak) ?_);rintro _ w ⟨j,hj,rfl,hs⟩
 refine .z zg (.nil (.seq (.aj (.z (zfa kc) (.y hs (zld af) (.nil (.block (.aj (.z fo ?_)))))))))
 refine .z zg (.nil ?_)
 refine (.bB rfl (fun hc27=>?_) (fun hc27=>?_))
 ·refine .region (.z zm (.z Dd (.z (zfa df) ?_)))
  refine .o (.store hs rfl rfl ai fun w hs=>?_)
  refine .nil ?_
  refine nB (nT ?_)
  refine .aj (.y hs (zls [_,_,_] cJ bA) ?_)
  refine .o (.aZ (vs:=[_,_,_]) hs rfl rfl bA fun w hs=>?_)
  refine .nil ?_
  refine .ret ?_
  exact Fin.iA [] [] hs fun w hs=>⟨_,results1 Tryz.results25 (dF (vs:=[_,_,_]) hs rfl cJ bA),⟨1+(k:Int),0,max 1 (j:Int)⟩,rfl,.litres (by show (1:Int)+k=1;omega) rfl ⟨by dsimp only;omega,by dsimp only;omega⟩ (by dsimp only;omega),hs.out⟩
 ·refine .aj (.z fo (.z zg (.nil ?_)))
  refine (.bB rfl (fun hc32=>?_) (fun hc32=>?_))
  ·refine .region (.z zm (.z (zfa df) ?_))
   refine .o (.store hs rfl rfl ai fun w hs=>?_)
   refine .nil ?_
   refine nB (nT ?_)
   refine .aj (.y hs (zls [_,_,_] cJ bA) ?_)
   refine .o (.aZ (vs:=[_,_,_]) hs rfl rfl bA fun w hs=>?_)
   refine .nil ?_
   refine .ret ?_
   exact Fin.iA [] [] hs fun w hs=>⟨_,results1 Tryz.results25 (dF (vs:=[_,_,_]) hs rfl cJ bA),⟨1+(k:Int),0,(j:Int)⟩,rfl,.plane (by show (1:Int)+k=2;omega) rfl ⟨by dsimp only;omega,by dsimp only;omega⟩,hs.out⟩
  ·refine .aj (.z fo (.z zg (.nil ?_)))
   refine (.bB rfl (fun hc36=>?_) (fun hc36=>?_))
   ·refine .region (.z zm (.z (zfa dR) ?_))
    refine .o (.store hs rfl rfl ai fun w hs=>?_)
    refine .nil ?_
    refine nB (nT ?_)
    refine .aj (.y hs (zls [_,_,_] cJ bA) ?_)
    refine .o (.aZ (vs:=[_,_,_]) hs rfl rfl bA fun w hs=>?_)
    refine .nil ?_
    refine .ret ?_
    exact Fin.iA [] [] hs fun w hs=>⟨_,results1 Tryz.results25 (dF (vs:=[_,_,_]) hs rfl cJ bA),⟨1+(k:Int),(i:Int),0⟩,rfl,.section_ (by show (1:Int)+k=3;omega) rfl ⟨by dsimp only;omega,by dsimp only;omega⟩,hs.out⟩
   ·refine .aj (.z fo (.z zg (.nil ?_)))
    refine (.bB rfl (fun hc40=>?_) (fun hc40=>?_))
    ·refine .aj (.z zm (.z (zfa dR) ?_))
     refine .o (.store hs rfl rfl ai fun w hs=>?_)
     refine .nil (.region (.z zm (.z (zfa df) ?_)))
     refine .o (.store hs rfl rfl ai fun w hs=>?_)
     refine .nil ?_
     refine nB (nT ?_)
     refine .aj (.y hs (zls [_,_,_] cJ bA) ?_)
     refine .o (.aZ (vs:=[_,_,_]) hs rfl rfl bA fun w hs=>?_)
     refine .nil ?_
     refine .ret ?_
     exact Fin.iA [] [] hs fun w hs=>⟨_,results1 Tryz.results25 (dF (vs:=[_,_,_]) hs rfl cJ bA),⟨1+(k:Int),(i:Int),(j:Int)⟩,rfl,.offset (by show (1:Int)+k=4;omega) ⟨by dsimp only;omega,by dsimp only;omega⟩ ⟨by dsimp only;omega,by dsimp only;omega⟩,hs.out⟩
    ·refine .skip ?_
     refine nB (nT ?_)
     refine .aj (.y hs (zls [_,_,_] cJ bA) ?_)
     refine .o (.aZ (vs:=[_,_,_]) hs rfl rfl bA fun w hs=>?_)
     refine .nil ?_
     refine .ret ?_
     omega
structure Grow(d D:Int)(L:List Int)(x:Int):Prop where
 low:d≤x
 high:x≤d+D*L.length
 all:∀i<L.length,d≤gi L i∧gi L i<x
 rise:∀i,i+1<L.length→gi L i<gi L (i+1)
theorem Grow.start(d D:Int):Grow d D [] d:=⟨ak,bL,fun i h=>by simp at h,fun i h=>by simp at h⟩
theorem Grow.snoc{d D x y:Int}{L:List Int}(h:Grow d D L x)(h1:x<y)(h2:y≤x+D):Grow d D (L++[x]) y:=by
 obtain ⟨g1,g2,g3,g4⟩:=h
 refine ⟨ak,?_,fun i hi=>?_,fun i hi=>?_⟩
 ·rw [List.length_append,List.length_singleton,Int.natCast_add,Int.mul_add];omega
 ·rw [List.length_append,List.length_singleton] at hi
  rw [vK]
  split
  ·have:=g3 i cz;omega
  ·rw [if_pos ak];omega
 ·rw [List.length_append,List.length_singleton] at hi
  rw [vK,vK,if_pos ak]
  split
  ·exact g4 i cz
  ·rw [if_pos ak];exact (g3 i ak).2
theorem Grow.plc{d D x most:Int}{many:Nat}{L:List Int}(h:Grow d D L x)(hd:0≤d)(h2:2≤L.length)(hm:L.length≤many)(hx:d+D*L.length≤most):eI many most L:=
 ⟨h2,hm,by have:=(h.all 0 ak).1;omega,by have:=(h.all (L.length - 1) ak).2;have:=h.high;omega,h.rise⟩
structure Fp(s:Spc):Prop where
 ok:fl s
 st:s.st.length≤4
 wa:s.wa.length≤3
set_option maxHeartbeats 1000000 in
theorem oQ{v:Value}{l:List Int}(hs:St H w σ)(hr:RI H v l):
  Cl Tryz.prog 35 [v] w fun u w'=>∃s vst vwa e1 e2,u= .agg #[I s.id,I s.src,vst,vwa,I s.al,I s.up]∧Fp s∧cf 1 vst (Is s.st) e1∧cf 1 vwa (Is s.wa) e2∧St H w' (e1::e2::σ):=by
 obtain ⟨av,cv,rfl⟩:=RI.shape hr
 refine Cl.o Tryz.func35 Tryz.ntmps35 ag1 ?_
 refine .aj ?_
 refine .o (.alloc hs gK rfl fun b2 w hs=>?_)
 refine .nil (.aj (.z zm ?_))
 refine .o (.call fP rfl (di hs hr ak ak) ?_);rintro _ w ⟨k11,g11,rfl,hs⟩
 refine .z ck (.z zm ?_)
 refine .o (.call fP rfl (di hs hr ak ak) ?_);rintro _ w ⟨k14,g14,rfl,hs⟩
 refine .z ck (.z (zbd [_,_,_,_,_,_] qm) ?_)
 refine .o (.alloc hs gK rfl fun b3 w hs=>?_)
 refine .o (.aZ (vs:=[_,_,_,_,_,_]) hs rfl rfl aC fun w hs=>?_)
 refine .nil (.aj (.z zm ?_))
 refine .o (.call fP rfl (di hs hr ak ak) ?_);rintro _ w ⟨k18,g18,rfl,hs⟩
 refine .z ck (.z jS (.z zg (.nil (.aj (.z zg (.nil (.seq (.aj (.z zg ?_)))))))))
 refine .nil (.block ?_)
 refine .loop (fun p:List Int×Int×Value=>⟨90,[],[(6,I (p.1.length:Int)),(5,I p.2.1),(4,I (100*(1+(k18:Int)))),(0,.slice av l.length cv),(3,.pointer (some ⟨b3,0,none⟩)),(2,.pointer (some ⟨b2,0,none⟩))]⟩)
  (fun p w=>p.1.length≤4∧Grow 0 2707 p.1 p.2.1∧∃en,cf 1 p.2.2 (Is p.1) en∧St H w (en:: .blk b3 [I (1+(k11:Int)),I (1+(k14:Int)),p.2.2,.slice none 0 0,I 0,I 0]:: .blk b2 [I 0,I 0,.slice none 0 0,.slice none 0 0,I 0,I 0]::σ)) (fun p=>4 - p.1.length) ([],0,.slice none 0 0) aR
  ⟨bL,.start _ _,_,.nil 1 none,hs.nul⟩ ?_
 clear hs
 rintro ⟨L,x,vo⟩ w ⟨hL4,hG,en,hO,hs⟩
 dsimp only at hL4 hG hO hs ⊢
 obtain ⟨ao,lo,co,rfl,-⟩:=hO.shape
 have hx0:=hG.low
 have hx1:=hG.high
 refine .seq (.aj (.z zm (.z zm ?_)))
 refine .o (.call fP rfl (di hs hr ak ak) ?_);rintro _ w ⟨k23,g23,rfl,hs⟩
 refine .z ck (.z fH (.nil ?_))
 refine (.bB rfl (fun hc25=>?_) (fun hc25=>?_))
 ·refine .skip ?_
  refine nT ?_
  refine .seq (.block (.aj (.z (zfa bp) (.y hs (zld an) (.z zm ?_)))))
  refine .o (.buildSlice (cells:=[_]) hs cQ rfl rfl fun b31 w hs=>?_)
  refine .o (.append (ys:=Is [x]) hs bZ rfl rfl hO (.own .here rfl rfl) (gU _) (fun l' h=>by simp at h;omega) ?_);intro v32 en32 w hO2 hs
  rw [←List.map_append] at hO2
  obtain ⟨a32,l32,c32,rfl,-⟩:=hO2.shape
  refine .z (zfa bp) ?_
  refine .o (.store hs rfl rfl az fun w hs=>?_)
  refine .nil (.region (.z zm (.z zm (.z zm (.z zm (.z ck ?_))))))
  refine .o (.call fP rfl (di hs hr ak ak) ?_);rintro _ w ⟨k39,g39,rfl,hs⟩
  have m41:=kr (a:=100*(1+(k18:Int))) (b:=1+(k39:Int)) (A:=900) (B:=3) ak ak
  have m41':100≤100*(1+(k18:Int))*(1+(k39:Int)):=by
   have:=Int.mul_le_mul (a:=100) (c:=100*(1+(k18:Int))) (b:=1) (d:=1+(k39:Int)) ak ak ak ak
   omega
  refine .z ck (.z jS (.z ck (.z zm ?_)))
  refine .o (.call fP rfl (di hs hr ak ak) ?_);rintro _ w ⟨k44,g44,rfl,hs⟩
  refine .z zm (.z zm (.z ck ?_))
  refine .o (.call fP rfl (di hs hr ak ak) ?_);rintro _ w ⟨k48,g48,rfl,hs⟩
  have m49:0≤(k44:Int)*(k48:Int)∧(k44:Int)*(k48:Int)≤1:=by
   have e1:k44=0∨k44=1:=by omega
   rcases e1 with rfl|rfl<;>simp<;>omega
  refine .z jS (.z jS (.z ck (.z zg (.nil ?_))))
  refine nB (nT ?_)
  refine .region (.z zm (.z ck (.z zg (.nil ?_))))
  refine nT ?_
  exact ⟨(L++[x],_,.slice a32 l32 c32),.bU rfl bL aR,⟨by simp;omega,hG.snoc (by dsimp only;omega) (by dsimp only;omega),_,hO2,hs.sb⟩,by simp;omega⟩
 ·refine .exit ?_
  refine xT (xT (xB (nT ?_)))
  refine .aj (.z zm ?_)
  have hL2:2≤L.length:=by omega
  refine .o (.call fP rfl (di hs hr ak ak) ?_);rintro _ w ⟨k53,g53,rfl,hs⟩
  refine .z ck (.z jS (.z zg (.nil (.aj (.z zm ?_)))))
  refine .o (.call fP rfl (di hs hr ak ak) ?_);rintro _ w ⟨k57,g57,rfl,hs⟩
  refine .z jS (.z zg (.nil (.seq (.aj (.z zg (.nil (.block ?_)))))))
  refine .loop (fun p:List Int×Int×Value=>⟨90,[],[(9,I (p.1.length:Int)),(8,I p.2.1),(7,I (50*(1+(k53:Int)))),(0,.slice av l.length cv),(3,.pointer (some ⟨b3,0,none⟩)),(2,.pointer (some ⟨b2,0,none⟩))]⟩)
   (fun p w=>p.1.length≤3∧Grow (10*(k57:Int)) 1350 p.1 p.2.1∧∃en2,cf 1 p.2.2 (Is p.1) en2∧St H w (en2:: .blk b3 [I (1+(k11:Int)),I (1+(k14:Int)),.slice ao lo co,p.2.2,I 0,I 0]:: .blk b2 [I 0,I 0,.slice none 0 0,.slice none 0 0,I 0,I 0]::en::σ)) (fun p=>3 - p.1.length) ([],10*(k57:Int),.slice none 0 0) aR
   ⟨bL,.start _ _,_,.nil 1 none,(hs.sb).nul⟩ ?_
  clear hs
  rintro ⟨L2,y,vo2⟩ w ⟨hM4,hG2,en2,hO2,hs⟩
  dsimp only at hM4 hG2 hO2 hs ⊢
  obtain ⟨ap,lp,cp,rfl,-⟩:=hO2.shape
  have hy0:=hG2.low
  have hy1:=hG2.high
  refine .seq (.aj (.z zm (.z zm ?_)))
  refine .o (.call fP rfl (di hs hr ak ak) ?_);rintro _ w ⟨k61,g61,rfl,hs⟩
  refine .z ck (.z fH (.nil ?_))
  refine (.bB rfl (fun hc63=>?_) (fun hc63=>?_))
  ·refine .skip ?_
   refine nT ?_
   refine .seq (.block (.aj (.z (zfa aW) (.y hs (zld an) (.z zm ?_)))))
   refine .o (.buildSlice (cells:=[_]) hs cQ rfl rfl fun b69 w hs=>?_)
   refine .o (.append (ys:=Is [y]) hs bZ rfl rfl hO2 (.own .here rfl rfl) (gU _) (fun l' h=>by simp at h;omega) ?_);intro v70 en70 w hO3 hs
   rw [←List.map_append] at hO3
   obtain ⟨a70,l70,c70,rfl,-⟩:=hO3.shape
   refine .z (zfa aW) ?_
   refine .o (.store hs rfl rfl az fun w hs=>?_)
   refine .nil (.region (.z zm (.z zm (.z zm (.z zm (.z ck ?_))))))
   refine .o (.call fP rfl (di hs hr ak ak) ?_);rintro _ w ⟨k77,g77,rfl,hs⟩
   have m79:=kr (a:=50*(1+(k53:Int))) (b:=1+(k77:Int)) (A:=450) (B:=3) ak ak
   have m79':50≤50*(1+(k53:Int))*(1+(k77:Int)):=by
    have:=Int.mul_le_mul (a:=50) (c:=50*(1+(k53:Int))) (b:=1) (d:=1+(k77:Int)) ak ak ak ak
    omega
   refine .z ck (.z jS (.z ck (.z zg (.nil ?_))))
   refine nB (nT ?_)
   refine .region (.z zm (.z ck (.z zg (.nil ?_))))
   refine nT ?_
   exact ⟨(L2++[y],_,.slice a70 l70 c70),.bU rfl bL aR,⟨by simp;omega,hG2.snoc (by dsimp only;omega) (by dsimp only;omega),_,hO3,hs.sb⟩,by simp;omega⟩
  ·refine .exit ?_
   refine xT (xT (xB (nT ?_)))
   refine .aj (.z zm ?_)
   refine .o (.call fP rfl (di hs hr ak ak) ?_);rintro _ w ⟨k83,g83,rfl,hs⟩
   refine .z jS (.z zm ?_)
   refine .o (.call fP rfl (di hs hr ak ak) ?_);rintro _ w ⟨k86,g86,rfl,hs⟩
   refine .z jS (.z (zbd [_,_] ru) (.z (zfa dO) ?_))
   refine .o (.aZ (vs:=[_,_]) hs rfl rfl Tryz.sizeOf32 fun w hs=>?_)
   refine .nil (.aj (.y hs (zls [_,_,_,_,_,_] aH aC) ?_))
   refine .o (.aZ (vs:=[_,_,_,_,_,_]) hs rfl rfl aC fun w hs=>?_)
   refine .nil ?_
   refine .ret ?_
   exact Fin.iA [] [] hs fun w hs=>⟨_,results1 Tryz.results35 (dF (vs:=[_,_,_,_,_,_]) hs rfl aH aC),⟨1+(k11:Int),1+(k14:Int),L,L2,100*(k83:Int),100*(k86:Int)⟩,.slice ao lo co,.slice ap lp cp,en,en2,rfl,
    ⟨⟨hG.plc ak hL2 ak ak,hG2.plc ak ak ak ak,by dsimp only;omega,by dsimp only;omega,by dsimp only;omega,by dsimp only;omega⟩,hL4,hM4⟩,hO,hO2,hs.sb⟩
instance (s:Spc) (r:Rdg):Decidable (jh s r):=
 decidable_of_iff ((1≤r.src∧r.src≤99999)∧(0≤r.st∧r.st≤(s.st.length:Int) - 1)∧(0≤r.wa∧r.wa≤(s.wa.length:Int) - 1)∧(0≤r.tol∧r.tol≤1000)∧(0≤r.val∧r.val≤20000 - r.tol)∧(1≤r.tape∧r.tape≤99)∧(0≤r.day∧r.day≤100000))
  ⟨fun ⟨a,b,c,d,e,f,g⟩=>⟨a,b,c,d,e,f,g⟩,fun ⟨a,b,c,d,e,f,g⟩=>⟨a,b,c,d,e,f,g⟩⟩
def gS(s:Spc)(rs:List Rdg):List Rdg:=rs.filter fun r=>decide (jh s r)
theorem zS(s:Spc){rs:List Rdg}{k:Nat}{r:Rdg}(h:rs[k]? =some r):gS s (rs.take (k+1))=if jh s r then gS s (rs.take k)++[r] else gS s (rs.take k):=by
 unfold gS
 rw [dh h,List.filter_append]
 by_cases e:jh s r
 ·simp [e]
 ·simp [e]
theorem tn(s:Spc)(rs:List Rdg):(gS s rs).length≤rs.length:=List.length_filter_le _ _
theorem w5{s:Spc}{rs:List Rdg}{r:Rdg}(h:r∈gS s rs):r∈rs∧jh s r:=by
 unfold gS at h;simpa using List.mem_filter.1 h
theorem CL{s:Spc}{rs:List Rdg}{t:TD}(h:t∈bg (gS s rs)):t∈bg rs:=by
 obtain ⟨r,h1,h2⟩:=fW.1 h
 exact fW.2 ⟨r,(w5 h1).1,h2⟩
def mO(v:Srv)(x:List Int)(t:TD):Int:=gi x (v.sp.many+1+(ij v.bq t).toNat)
def Ff(v:Srv)(x:List Int):List Int:=x.take (v.sp.many+1)++(bg (gS v.sp v.rs)).map (mO v x)
set_option maxHeartbeats 1000000 in
theorem m7{vr:Value}{rs:List Rdg}(hs:St H w σ)(hr:RRd H vr rs)(hl:rs.length≤1000000):
  Cl Tryz.prog 94 [vr] w fun u w'=>∃en,cf 2 u (tdc (bg rs)).flatten en∧St H w' (en::σ):=by
 obtain ⟨ar,cr,rfl⟩:=RRd.shape hr
 refine Cl.o Tryz.func94 Tryz.ntmps94 ag1 ?_
 refine .aj (.z zg (.nil (.aj (.z zg (.nil (.seq (.aj (.z zg (.nil ?_)))))))))
 refine .block ?_
 refine .loop (fun p:Nat×Value=>⟨32,[],[(4,I (p.1:Int)),(3,p.2),(0,.slice ar rs.length cr)]⟩)
  (fun p w=>p.1≤rs.length∧∃en,cf 2 p.2 (tdc (bg (rs.take p.1))).flatten en∧St H w (en::σ)) (fun p=>rs.length - p.1) (0,.slice none 0 0) aR
  ⟨Nat.zero_le _,_,.nil 2 none,hs.nul⟩ ?_
 rintro ⟨k,vo⟩ w ⟨hk,en,hO,hs⟩
 dsimp only at hk hO ⊢
 have htl:=kl rs k ak
 obtain ⟨ao,co,rfl⟩:=hO.jV (kE _) ak
 rw [dr] at hO ⊢
 refine .seq (.aj (.z zm (.z zm (.z (cB aA) (.z fH (.nil ?_))))))
 refine (.bB rfl (fun hc9=>?_) (fun hc9=>?_))
 ·refine .skip ?_
  refine nT ?_
  refine .seq (.block ?_)
  refine .seq (.draw mix rfl hs fun w hs=>?_)
  refine .z 0 rfl zm ?_;refine .z 1 rfl zm ?_
  obtain ⟨r,hx⟩:=nth (l:=rs) (k:=k) ak
  have htk:=jm hx
  refine .ixX (enc:=Rdg.c) (i:=2) hs rfl au .none hr rfl rfl aA aF hx cD ?_;intro b14 o14 hc14
  have d14:cellAt H b14 (o14+5)=some (I r.tape):=hc14 5 _ rfl
  refine .z 3 rfl (zfa ef) ?_;refine .y 4 rfl hs af ?_;refine .z 5 rfl zm ?_;refine .z 6 rfl zm ?_
  refine .ixX (enc:=Rdg.c) (i:=7) hs rfl au .none hr rfl rfl aA aF hx cD ?_;intro b19 o19 hc19
  have d19:cellAt H b19 (o19+6)=some (I r.day):=hc19 6 _ rfl
  refine .z 8 rfl (zfa ee) ?_;refine .y 9 rfl hs af ?_;refine .z 10 rfl (zbd [_,_] fO) ?_
  refine .E 11 hs ?_
  refine .alloc hs lk rfl ?_;intro b5 w hs
  refine .go ?_
  refine .E 12 hs ?_
  refine .aZ (vs:=[_,_]) hs rfl rfl bw ?_;intro w hs
  refine .go ?_
  refine .D hs ?_
  refine .aj (.z zm (.y hs (zls [_,_] dC bw) ?_))
  refine .o (.call Tryz.call93 rfl (m8 (t:=r.td) (hs.sb:St H w (en:: .blk b5 [I r.tape,I r.day]::σ)) hO ak) ?_);rintro _ w ⟨rfl,hs⟩
  have hnn:=kN (l:=bg (rs.take k)) (t:=r.td)
  refine .z fH (.nil ?_)
  refine (.bB rfl (fun hc26=>?_) (fun hc26=>?_))
  ·refine .region (.z zm (.y hs (zls [_,_] dC bw) ?_))
   refine .o (.buildSlice (cells:=[_,_]) hs fI rfl rfl fun b29 w hs=>?_)
   refine .o (.append (ys:=r.td.c) hs dK rfl rfl hO (.own .here rfl rfl) (by simp [TD.c,Value.oneCell']) (fun l h=>by rw [bT _ (kE _),dr] at h;omega) ?_);intro v30 en30 w hO2 hs
   refine .z zg (.nil ?_)
   refine nB (nT ?_)
   refine .region (.z zm (.z ck (.z zg (.nil ?_))))
   refine nT ?_
   have hn:r.td∉bg (rs.take k):=fun hm=>by have:=hnn.2 hm;omega
   rw [←se,show bg (rs.take k)++[r.td]=bg (rs.take (k+1)) by rw [htk];unfold qp;rw [if_neg hn]] at hO2
   exact ⟨(k+1,v30),.bU rfl bL aR,⟨by dsimp only;omega,_,hO2,hs.sb⟩,by dsimp only;omega⟩
  ·refine .skip ?_
   refine nB (nT ?_)
   refine .region (.z zm (.z ck (.z zg (.nil ?_))))
   refine nT ?_
   have hm:r.td∈bg (rs.take k):=hnn.1 ak
   exact ⟨(k+1,_),.bU rfl bL aR,⟨by dsimp only;omega,en,by dsimp only;rw [htk];unfold qp;rw [if_pos hm];exact hO,hs.sb⟩,by dsimp only;omega⟩
 ·refine .exit ?_
  refine xT (xT (xB (nT ?_)))
  refine .aj (.z zm (.z zg (.nil ?_)))
  refine .ret (Fin.bH Tryz.results94 rfl ?_)
  obtain rfl:k=rs.length:=by omega
  rw [List.take_length] at hO
  exact ⟨en,by rw [List.take_length];exact hO,hs⟩
set_option maxHeartbeats 2000000 in
theorem pI{s:Srv}{x:List Int}{vst vwa vr vc vx:Value}(hs:St H w σ)(h1:RI H vst s.sp.st)(h2:RI H vwa s.sp.wa)(h3:RRd H vr s.rs)(hc:∃a l c,vc= .slice a l c)(hx:RI H vx x)(hxl:x.length=s.sys.n)(hb:s.sp.st.length≤1000∧s.sp.wa.length≤1000∧s.rs.length≤1000):
  Cl Tryz.prog 144 [.agg #[I s.sp.id,I s.sp.src,vst,vwa,I s.sp.al,I s.sp.up,vr,vc],vx] w fun u w'=>∃H1 vr' vy e1 e2,HLe H H1∧u= .tuple #[.agg #[I s.sp.id,I s.sp.src,vst,vwa,I s.sp.al,I s.sp.up,vr',vc],vy]∧cf 7 vr' (rdc (gS s.sp s.rs)).flatten e1∧cf 1 vy (Is (Ff s x)) e2∧St H1 w' (e1::e2::σ):=by
 obtain ⟨ast,cst,rfl⟩:=RI.shape h1
 obtain ⟨awa,cwa,rfl⟩:=RI.shape h2
 obtain ⟨ar,cr,rfl⟩:=RRd.shape h3
 obtain ⟨ac,lc,cc,rfl⟩:=hc
 obtain ⟨ax,cx,rfl⟩:=RI.shape hx
 have hm:s.sp.many≤1000000:=Nat.mul_le_mul hb.1 hb.2.1
 have hn:=qG s
 have htl:=dp s.rs
 refine Cl.o Tryz.func144 Tryz.ntmps144 ag2 ?_
 refine .aj ?_
 refine .bx hs fun b2 w hs=>?_
 refine .o (.alloc hs eo rfl fun b4 w hs=>?_)
 refine .z zg (.nil (.aj (.z (zfa aM) (.y hs (zld bj) ?_))))
 refine .o (.call wv rfl (fY (rs:=s.rs) hs h3 ak) ?_);rintro v15 w ⟨H1,hle1,hT,hs⟩
 obtain ⟨at',ct,rfl⟩:=RTd.shape hT
 refine .z zg (.nil (.aj (.z (zfa aO) (.y hs (zls [_,_,_,_,_,_] aH aC) ?_))))
 refine .o (.call rh rfl (dJ (s:=s.sp) hs (h1.mono hle1) (h2.mono hle1) ⟨hb.1,hb.2.1⟩) ?_);rintro _ w ⟨rfl,hs⟩
 refine .z zg (.nil (.aj (.y hs (zls [_,_,_,_,_,_,_,_] aP aE) ?_)))
 refine .o (.alloc hs eo rfl fun b8 w hs=>?_)
 refine .o (.aZ (vs:=[_,_,_,_,_,_,_,_]) hs rfl rfl aE fun w hs=>?_)
 refine .nil (.aj (.z (zfa aM) ?_))
 refine .o (.store hs rfl rfl ml fun w hs=>?_)
 refine .nil (.seq (.aj (.z zg (.nil (.block ?_)))))
 refine .loop (fun p:Nat×Value=>⟨78,[],[(9,I (p.1:Int)),(8,.pointer (some ⟨b8,0,none⟩)),(7,I (s.sp.many:Int)),(6,.slice at' (bg s.rs).length ct),(4,.pointer (some ⟨b4,0,none⟩)),(2,.pointer (some ⟨b2,0,none⟩)),(1,.slice ax x.length cx)]⟩)
  (fun p w=>p.1≤s.rs.length∧∃en,cf 7 p.2 (rdc (gS s.sp (s.rs.take p.1))).flatten en∧St H1 w (en:: .blk b8 [I s.sp.id,I s.sp.src,.slice ast s.sp.st.length cst,.slice awa s.sp.wa.length cwa,I s.sp.al,I s.sp.up,p.2,.slice ac lc cc]:: .blk b4 [I 0,I 0,.slice none 0 0,.slice none 0 0,I 0,I 0,.slice none 0 0,.slice none 0 0]:: .blk b2 [I s.sp.id,I s.sp.src,.slice ast s.sp.st.length cst,.slice awa s.sp.wa.length cwa,I s.sp.al,I s.sp.up,.slice ar s.rs.length cr,.slice ac lc cc]::σ)) (fun p=>s.rs.length - p.1) (0,.slice none 0 0) aR
  ⟨Nat.zero_le _,_,.nil 7 none,hs.nul⟩ ?_
 clear hs
 rintro ⟨k,vo⟩ w ⟨hk,en,hO,hs⟩
 dsimp only at hk hO hs ⊢
 have hkl:=tn s.sp (s.rs.take k)
 rw [List.length_take] at hkl
 obtain ⟨ao,lo,co,rfl,-⟩:=hO.shape
 refine .seq (.aj (.z zm (.z (zfa aM) (.y hs (zld bj) (.z (cB aA) (.z fH (.nil ?_)))))))
 refine (.bB rfl (fun hc25=>?_) (fun hc25=>?_))
 ·refine .skip ?_
  refine nT ?_
  refine .seq (.block ?_)
  refine .seq (.draw mix rfl hs fun w hs=>?_)
  refine .z 0 rfl (zfa aO) ?_;refine .ys 1 rfl hs [_,_,_,_,_,_] aH aC ?_;refine .z 2 rfl (zfa aM) ?_;refine .y 3 rfl hs bj ?_;refine .z 4 rfl zm ?_
  obtain ⟨r,hr⟩:=nth (l:=s.rs) (k:=k) ak
  have hsn:=zS s.sp hr
  refine .ixX (enc:=Rdg.c) (i:=5) hs rfl au .none (h3.mono hle1) rfl rfl aA aF hr cD ?_;intro b33 o33 hc33
  refine .r (i:=6) hs rfl au .none (cI (vs:=r.c) rfl dB aF hc33) ?_
  refine .E 7 hs ?_
  refine .call Tryz.call109 rfl (iJ (s:=s.sp) (r:=r) hs (h1.mono hle1) (h2.mono hle1)) ?_;rintro _ w ⟨b35,rfl,hb35,hs⟩
  refine .go ?_
  refine .D hs ?_
  refine (.cond rfl (fun hc35=>?_) (fun hc35=>?_))
  ·refine .draw mix rfl hs fun w hs=>?_
   refine .z 0 rfl (zfa aM) ?_;refine .y 1 rfl hs bj ?_;refine .z 2 rfl (zfa aM) ?_;refine .y 3 rfl hs bj ?_;refine .z 4 rfl zm ?_
   refine .ixX (enc:=Rdg.c) (i:=5) hs rfl au .none (h3.mono hle1) rfl rfl aA aF hr cD ?_;intro b41 o41 hc41
   refine .r (i:=6) hs rfl au .none (cI (vs:=r.c) rfl dB aF hc41) ?_
   refine .E 7 hs ?_
   refine .buildSlice (cells:=r.c) hs eS rfl au ?_;intro b43 w hs
   refine .go ?_
   refine .E 8 hs ?_
   refine .append (ys:=r.c) hs cE rfl rfl hO (.own .here rfl rfl) (by simp [Rdg.c,Value.oneCell']) (fun l' h=>by rw [bT _ (iG _),dk] at h;omega) ?_;intro v44 en44 w hO2 hs
   rw [←pM,show gS s.sp (s.rs.take k)++[r]=gS s.sp (s.rs.take (k+1)) by rw [hsn,if_pos (hb35.1 (by simpa using hc35))]] at hO2
   obtain ⟨a44,l44,c44,rfl,-⟩:=hO2.shape
   refine .go ?_
   refine .z 9 rfl (zfa aM) ?_
   refine .E 10 hs ?_
   refine .store hs rfl rfl ml ?_;intro w hs
   refine .go ?_
   refine .D hs ?_
   refine nB (nT ?_)
   refine .region (.z zm (.z ck (.z zg (.nil ?_))))
   refine nT ?_
   exact ⟨(k+1,.slice a44 l44 c44),.bU rfl bL aR,⟨by dsimp only;omega,_,hO2,hs.sb⟩,by dsimp only;omega⟩
  ·refine .skip ?_
   refine nB (nT ?_)
   refine .region (.z zm (.z ck (.z zg (.nil ?_))))
   refine nT ?_
   exact ⟨(k+1,.slice ao lo co),.bU rfl bL aR,⟨by dsimp only;omega,en,by dsimp only;rw [hsn,if_neg (fun h=>by rw [hb35.2 h] at hc35;cases hc35)];exact hO,hs.sb⟩,by dsimp only;omega⟩
 ·refine .exit ?_
  refine xT (xT (xB (nT ?_)))
  refine .aj ?_
  obtain rfl:k=s.rs.length:=by omega
  rw [List.take_length] at hO
  refine .o (.buildSlice (cells:=[]) hs kZ rfl rfl fun b46 w hs=>?_)
  refine .z zm (.z zm (.z ck ?_))
  refine .q hs (lO (k:=s.sp.many+1) rfl rfl ae ai rfl (by have:=(RS.len hx).2.1;omega)) ?_
  refine .o (.append (xs:=[]) (ys:=Is (x.take (s.sp.many+1))) hs bZ rfl rfl (.full (len:=0) rfl) (.ints (RI.head (hx.mono hle1) (k:=s.sp.many+1) ak)) (gU _) (fun l h=>by simp at h;rw [List.length_take];omega) ?_);intro v51 en51 w hO3 hs
  rw [List.nil_append] at hO3
  refine .z zg (.nil (.aj (.z (zfa aM) (.y hs (zld bj) ?_))))
  have hkl:=tn s.sp s.rs
  obtain ⟨H2,hle2,hRR,hs2,back⟩:=hO.yJ (iG _) ak (by rw [dk];omega) (hs.sb:St H1 w (en::en51:: .blk b8 [I s.sp.id,I s.sp.src,.slice ast s.sp.st.length cst,.slice awa s.sp.wa.length cwa,I s.sp.al,I s.sp.up,.slice ao lo co,.slice ac lc cc]:: .blk b4 [I 0,I 0,.slice none 0 0,.slice none 0 0,I 0,I 0,.slice none 0 0,.slice none 0 0]:: .blk b2 [I s.sp.id,I s.sp.src,.slice ast s.sp.st.length cst,.slice awa s.sp.wa.length cwa,I s.sp.al,I s.sp.up,.slice ar s.rs.length cr,.slice ac lc cc]::σ))
  refine .o (.call wv rfl (m7 (rs:=gS s.sp s.rs) hs2 hRR ak) ?_);rintro v54 w ⟨enT,hOT,hsT⟩
  have hs:=back (HLe.refl _) hsT
  have htl':=dp (gS s.sp s.rs)
  obtain ⟨H3,hle3,hT3,hs⟩:=cf.cq (m:=2) (cs:=tdc (bg (gS s.sp s.rs))) hOT (kE _) ak (by rw [dr];omega) hs (.there .here)
  have hT3:RTd H3 v54 (bg (gS s.sp s.rs)):=hT3
  obtain ⟨a54,c54,rfl⟩:=RTd.shape hT3
  refine .z zg (.nil (.seq (.aj (.z zg (.nil (.block ?_))))))
  refine .loop (fun p:Nat×Value=>⟨78,[],[(12,I (p.1:Int)),(10,p.2),(11,.slice a54 (bg (gS s.sp s.rs)).length c54),(8,.pointer (some ⟨b8,0,none⟩)),(7,I (s.sp.many:Int)),(6,.slice at' (bg s.rs).length ct),(4,.pointer (some ⟨b4,0,none⟩)),(1,.slice ax x.length cx)]⟩)
   (fun p w=>p.1≤(bg (gS s.sp s.rs)).length∧∃en2,cf 1 p.2 (Is (x.take (s.sp.many+1)++((bg (gS s.sp s.rs)).take p.1).map (mO s x))) en2∧St H3 w (en2:: .blk b8 [I s.sp.id,I s.sp.src,.slice ast s.sp.st.length cst,.slice awa s.sp.wa.length cwa,I s.sp.al,I s.sp.up,.slice ao lo co,.slice ac lc cc]:: .blk b4 [I 0,I 0,.slice none 0 0,.slice none 0 0,I 0,I 0,.slice none 0 0,.slice none 0 0]::en::σ)) (fun p=>(bg (gS s.sp s.rs)).length - p.1) (0,v51) aR
   ⟨Nat.zero_le _,en51,by simpa using hO3,hs.sb⟩ ?_
  clear hs
  rintro ⟨j,vy⟩ w ⟨hj,en2,hO4,hs⟩
  dsimp only at hj hO4 hs ⊢
  obtain ⟨ay,ly,cy,rfl,-⟩:=hO4.shape
  refine .seq (.aj (.z zm (.z zm (.z (cB aU) (.z fH (.nil ?_))))))
  refine (.bB rfl (fun hc58=>?_) (fun hc58=>?_))
  ·refine .skip ?_
   refine nT ?_
   refine .seq (.block (.region (.z zm (.z zm (.z zm (.z ck (.z zm (.z zm (.z zm ?_)))))))))
   obtain ⟨t,ht⟩:=nth (l:=bg (gS s.sp s.rs)) (k:=j) ak
   have htm:t∈s.bq:=CL (List.mem_of_getElem? ht)
   obtain ⟨q,q1,q2,q3⟩:=fa htm
   have q3':q<(bg s.rs).length:=q3
   have q1':ij (bg s.rs) t=(q:Int):=q1
   have hnt:s.sys.n=s.sp.many+(bg s.rs).length+1:=hn
   have herr:mO s x t=gi x (s.sp.many+1+q):=by unfold mO;rw [q1,Int.toNat_natCast]
   refine .ixX (enc:=TD.c) hs hT3 rfl rfl aU bw ht cD ?_;intro b68 o68 hc68
   refine .q hs (cI (vs:=t.c) rfl dC bw hc68) ?_
   refine .o (.call Tryz.call93 rfl (jJ (t:=t) hs (hT.mono hle3) ak) ?_);rintro _ w ⟨rfl,hs⟩
   rw [q1']
   refine .z ck ?_
   refine .ixY hs (hx.mono (hle1.trans hle3)) rfl rfl ae ai (bn (l:=x) (i:=s.sp.many+1+q) ak) ak ?_;intro b72 o72 hc72
   refine .q hs (aJ rfl af hc72) ?_
   refine .o (.buildSlice (cells:=[_]) hs cQ rfl rfl fun b74 w hs=>?_)
   refine .o (.append (ys:=Is [gi x (s.sp.many+1+q)]) hs bZ rfl rfl hO4 (.own .here rfl rfl) (gU _) (fun l' h=>by simp at h;omega) ?_);intro v75 en75 w hO5 hs
   rw [←List.map_append,List.append_assoc,←herr,show ((bg (gS s.sp s.rs)).take j).map (mO s x)++[mO s x t]=((bg (gS s.sp s.rs)).take (j+1)).map (mO s x) by rw [dh ht];simp] at hO5
   obtain ⟨a75,l75,c75,rfl,-⟩:=hO5.shape
   refine .z zg (.nil ?_)
   refine nB (nT ?_)
   refine .region (.z zm (.z ck (.z zg (.nil ?_))))
   refine nT ?_
   exact ⟨(j+1,.slice a75 l75 c75),.bU rfl bL aR,⟨by dsimp only;omega,_,hO5,hs.sb⟩,by dsimp only;omega⟩
  ·refine .exit ?_
   refine xT (xT (xB (nT ?_)))
   refine .aj (.y hs (zls [_,_,_,_,_,_,_,_] aP aE) (.z zm ?_))
   refine .o (.aZ (vs:=[_,_,_,_,_,_,_,_]) hs rfl rfl aE fun w hs=>?_)
   refine .z zg (.nil ?_)
   refine .ret ?_
   obtain rfl:j=(bg (gS s.sp s.rs)).length:=by omega
   rw [List.take_length] at hO4
   exact Fin.iA [] [] hs fun w hs=>⟨_,results2 Tryz.results144 (dF (vs:=[_,_,_,_,_,_,_,_]) hs rfl aP aE) rfl,H3,_,_,en,en2,hle1.trans hle3,rfl,hO,hO4,hs.sb⟩
theorem zR{s:Spc}{rs R:List Rdg}{cs:List Cmp}{x:List Int}(hf:gp (Srv.nZ ⟨s,rs,cs⟩).dc (gi x))(hx0:gi x 0=0)(hxl:x.length=s.many+(bg rs).length+1)(ht:bg R=bg rs)(hS:∀r∈R,RdS s r)(hR:∀r∈R,BF s (bg rs) x r):
  BH ⟨s,gS s R,cs⟩ (Ff ⟨s,R,cs⟩ x):=by
 have hl:(x.take (s.many+1)).length=s.many+1:=by rw [List.length_take];omega
 refine A7 (R:=R) (x:=x) List.filter_sublist hS hx0 (Bi hf ht hR) ?_ (fun b hb=>?_) fun j hj=>?_
 ·show (x.take (s.many+1)++(bg (gS s R)).map (mO ⟨s,R,cs⟩ x)).length=_
  rw [List.length_append,hl,List.length_map]
 ·show gi (x.take (s.many+1)++(bg (gS s R)).map (mO ⟨s,R,cs⟩ x)) b=_
  unfold gi
  simp only [List.getD]
  rw [List.getElem?_append_left ak,List.getElem?_take_of_lt ak]
 ·show gi (x.take (s.many+1)++(bg (gS s R)).map (mO ⟨s,R,cs⟩ x)) (s.many+1+j)=_
  have e:∀t,(bg (gS s R))[j]? =some t→gi (x.take (s.many+1)++(bg (gS s R)).map (mO ⟨s,R,cs⟩ x)) (s.many+1+j)=mO ⟨s,R,cs⟩ x t:=fun t ht=>by
   unfold gi
   simp only [List.getD]
   rw [List.getElem?_append_right ak,hl,show s.many+1+j - (s.many+1)=j by omega,List.getElem?_map,ht]
   rfl
  rw [e _ (xA hj)];rfl
set_option maxHeartbeats 2000000 in
theorem ub{vs v5 v4 vp:Value}{sl pk:List Int}{fs5:List F5}{fs4:List F4}{z1 z2 z3:Int}(hs:St H w σ)(g1:RI H vs sl)(g2:RF5 H v5 fs5)(g3:RF4 H v4 fs4)(g4:RI H vp pk):
  Cl Tryz.prog 60 [.agg #[vs,v5,v4,vp,I z1,I z2,I z3]] w fun u w'=>∃H1 s y vst vwa vr vc vy e1 e2 e3 e4 e5,HLe H H1∧u= .tuple #[.agg #[I s.sp.id,I s.sp.src,vst,vwa,I s.sp.al,I s.sp.up,vr,vc],vy]∧F7 s∧DA s vst vwa vr vc e1 e2 e3 e4∧cf 1 vy (Is y) e5∧BH s y∧St H1 w' (e1::e2::e3::e4::e5::σ):=by
 obtain ⟨avs,cvs,rfl⟩:=RI.shape g1
 obtain ⟨av5,cv5,rfl⟩:=g2.shape
 obtain ⟨av4,cv4,rfl⟩:=g3.shape
 obtain ⟨avp,cvp,rfl⟩:=RI.shape g4
 refine Cl.o Tryz.func60 Tryz.ntmps60 ag1 ?_
 refine .aj ?_
 refine .bx hs fun b1 w hs=>?_
 refine .o (.alloc hs eo rfl fun b2 w hs=>?_)
 refine .z zg (.nil (.aj (.z (zfa ns) (.y hs (zld an) ?_))))
 refine .o (.call Tryz.call35 rfl (oQ hs g1) ?_);rintro _ w ⟨s,vst,vwa,e1,e2,rfl,hSp,hO1,hO2,hs⟩
 have hSt:=hSp.st
 have hWa:=hSp.wa
 have hSt2:=hSp.ok.st.two
 have hWa2:=hSp.ok.wa.two
 obtain ⟨ast,lst,cst,rfl,hlst⟩:=hO1.shape
 obtain ⟨awa,lwa,cwa,rfl,hlwa⟩:=hO2.shape
 obtain rfl:s.st.length=lst:=by simpa [Is] using hlst
 obtain rfl:s.wa.length=lwa:=by simpa [Is] using hlwa
 refine .z (zbd [_,_,_,_,_,_,_,_] oE) ?_
 refine .o (.alloc hs eo rfl fun b4 w hs=>?_)
 refine .o (.aZ (vs:=[_,_,_,_,_,_,_,_]) hs rfl rfl aE fun w hs=>?_)
 refine .nil (.aj (.z (zfa aO) (.y hs (zls [_,_,_,_,_,_] aH aC) ?_)))
 refine .o (.alloc hs gK rfl fun b5 w hs=>?_)
 refine .o (.aZ (vs:=[_,_,_,_,_,_]) hs rfl rfl aC fun w hs=>?_)
 refine .nil ?_
 refine .cut (fun fs w=>∃rs e3 ar cr,kg fs ⟨208,[],[(5,.pointer (some ⟨b5,0,none⟩)),(4,.pointer (some ⟨b4,0,none⟩)),(2,.pointer (some ⟨b2,0,none⟩)),(1,.pointer (some ⟨b1,0,none⟩))]⟩∧rs.length≤14∧rs.length≤fs5.length∧(∀r∈rs,jh s r)∧cf 7 (.slice ar rs.length cr) (rdc rs).flatten e3∧St H w (e3:: .blk b5 [I s.id,I s.src,.slice ast s.st.length cst,.slice awa s.wa.length cwa,I s.al,I s.up]:: .blk b4 [I s.id,I s.src,.slice ast s.st.length cst,.slice awa s.wa.length cwa,I s.al,I s.up,.slice ar rs.length cr,.slice none 0 0]::e1::e2:: .blk b2 [I 0,I 0,.slice none 0 0,.slice none 0 0,I 0,I 0,.slice none 0 0,.slice none 0 0]:: .blk b1 [.slice avs sl.length cvs,.slice av5 fs5.length cv5,.slice av4 fs4.length cv4,.slice avp pk.length cvp,I z1,I z2,I z3]::σ)) ?_ ?_
 ·refine .aj (.z zg (.nil (.block ?_)))
  refine .loop (fun p:List Rdg×Option Addr×Nat=>⟨208,[],[(6,I (p.1.length:Int)),(5,.pointer (some ⟨b5,0,none⟩)),(4,.pointer (some ⟨b4,0,none⟩)),(2,.pointer (some ⟨b2,0,none⟩)),(1,.pointer (some ⟨b1,0,none⟩))]⟩)
   (fun p w=>p.1.length≤14∧p.1.length≤fs5.length∧(∀r∈p.1,jh s r)∧∃e3,cf 7 (.slice p.2.1 p.1.length p.2.2) (rdc p.1).flatten e3∧
    St H w (e3:: .blk b5 [I s.id,I s.src,.slice ast s.st.length cst,.slice awa s.wa.length cwa,I s.al,I s.up]:: .blk b4 [I s.id,I s.src,.slice ast s.st.length cst,.slice awa s.wa.length cwa,I s.al,I s.up,.slice p.2.1 p.1.length p.2.2,.slice none 0 0]::e1::e2:: .blk b2 [I 0,I 0,.slice none 0 0,.slice none 0 0,I 0,I 0,.slice none 0 0,.slice none 0 0]:: .blk b1 [.slice avs sl.length cvs,.slice av5 fs5.length cv5,.slice av4 fs4.length cv4,.slice avp pk.length cvp,I z1,I z2,I z3]::σ)) (fun p=>14 - p.1.length) ([],none,0) aR
   ⟨bL,bL,bL,_,.nil 7 none,(hs.sb).nul⟩ ?_
  clear hs
  rintro ⟨rs,ar,cr⟩ w ⟨hr14,hrf,hrok,e3,hO3,hs⟩
  dsimp only at hr14 hrf hrok hO3 hs ⊢
  refine .seq (.aj (.z zm (.z (zfa gG) (.y hs (zld Tryz.isAgg23) (.z (cB Tryz.runUnderlying23) (.z fH (.z zm ?_)))))))
  refine .iD (t':=31) rfl (fun hb31=>?_) (fun hb31=>?_)
  ·refine .gT rfl rfl ?_
   refine .z zm ?_
   refine .gT rfl rfl ?_
   refine .z fH (.z zpT (.nil ?_))
   refine (.bB rfl (fun hc34=>?_) (fun hc34=>?_))
   ·refine .skip ?_
    refine nT ?_
    refine .seq (.block (.aj (.z (zfa gG) (.y hs (zld Tryz.isAgg23) (.z zm ?_)))))
    obtain ⟨n,hn⟩:=nth (l:=fs5) (k:=rs.length) ak
    refine .ixX (enc:=F5.v) hs g2 rfl rfl Tryz.runUnderlying23 uk hn cD ?_;intro b40 o40 hc40
    refine .q hs (cI (vs:=n.v) rfl Tryz.isAgg106 uk hc40) ?_
    refine .o (.alloc hs Tryz.zeroValue106 rfl fun b7 w hs=>?_)
    refine .o (.aZ (vs:=[_,_,_,_,_]) hs rfl rfl uk fun w hs=>?_)
    refine .nil ?_
    refine .seq (.draw mix rfl hs fun w hs=>?_)
    refine .z 0 rfl (zia 4 gQ ai) ?_
    refine .y 1 rfl hs af ?_
    refine .z 3 rfl (zia 4 gQ ai) ?_
    refine .y 4 rfl hs af ?_;refine .z 5 rfl EC ?_
    refine .E 2 hs ?_
    refine .call da rfl (bK hs ak) ?_;rintro _ w ⟨k44,g44,rfl,hs⟩
    refine .go ?_
    refine .E 6 hs ?_
    refine .call da rfl (bK hs ak) ?_;rintro _ w ⟨k48,g48,rfl,hs⟩
    have m49:0≤(k44:Int)*(k48:Int)∧(k44:Int)*(k48:Int)≤39:=by
     have e1:k48=0∨k48=1:=by omega
     rcases e1 with rfl|rfl<;>simp<;>omega
    refine .go ?_
    refine .z 7 rfl jS ?_;refine .z 8 rfl zg ?_;refine .D hs ?_
    refine .draw mix rfl hs fun w hs=>?_
    refine .z 0 rfl (zfa aM) ?_;refine .y 1 rfl hs bj ?_;refine .z 2 rfl zm ?_;refine .z 3 rfl ck ?_
    refine .z 4 rfl (zia 0 gQ ai) ?_
    refine .y 5 rfl hs af ?_;refine .z 6 rfl (zfa bp) ?_;refine .y 7 rfl hs an ?_;refine .z 8 rfl (cB ae) ?_
    refine .z 10 rfl (zia 1 gQ ai) ?_
    refine .y 11 rfl hs af ?_;refine .z 12 rfl (zfa aW) ?_;refine .y 13 rfl hs an ?_;refine .z 14 rfl (cB ae) ?_;refine .z 16 rfl zm ?_
    refine .z 17 rfl (zia 2 gQ ai) ?_
    refine .y 18 rfl hs af ?_
    refine .z 21 rfl (zia 3 gQ ai) ?_
    refine .y 22 rfl hs af ?_
    refine .E 9 hs ?_
    refine .call da rfl (bK hs ak) ?_;rintro _ w ⟨k59,g59,rfl,hs⟩
    refine .go ?_
    refine .E 15 hs ?_
    refine .call da rfl (bK hs ak) ?_;rintro _ w ⟨k65,g65,rfl,hs⟩
    refine .go ?_
    refine .E 19 hs ?_
    refine .call da rfl (bK hs ak) ?_;rintro _ w ⟨k69,g69,rfl,hs⟩
    refine .go ?_
    refine .z 20 rfl ck ?_
    refine .E 23 hs ?_
    refine .call da rfl (bK hs ak) ?_;rintro _ w ⟨k73,g73,rfl,hs⟩
    obtain ⟨r,hr⟩:∃r:Rdg,r=⟨10+(rs.length:Int),(k59:Int),(k65:Int),0,(k44:Int)*(k48:Int),1+(k69:Int),(k73:Int)⟩:=⟨_,rfl⟩
    have hrOk:jh s r:=by subst hr;exact ⟨by dsimp only;omega,by dsimp only;omega,by dsimp only;omega,by dsimp only;omega,by dsimp only;omega,by dsimp only;omega,by dsimp only;omega⟩
    refine .go ?_
    refine .z 24 rfl (zbd [_,_,_,_,_,_,_] fh) ?_
    refine .E 25 hs ?_
    refine .buildSlice (cells:=r.c) hs eS rfl (by subst hr;kernel_rfl) ?_;intro b75 w hs
    refine .go ?_
    refine .E 26 hs ?_
    refine .append (ys:=r.c) hs cE rfl rfl hO3 (.own .here rfl rfl) (by simp [Rdg.c,Value.oneCell']) (fun l' h=>by rw [bT _ (iG _),dk] at h;omega) ?_;intro v76 en76 w hO4 hs
    rw [←pM] at hO4
    obtain ⟨a76,c76,rfl⟩:=hO4.jV (iG _) ak
    rw [dk] at hO4 ⊢
    refine .go ?_
    refine .z 27 rfl (zfa aM) ?_
    refine .E 28 hs ?_
    refine .store hs rfl rfl ml ?_;intro w hs
    refine .go ?_
    refine .D hs ?_
    refine nB (nT ?_)
    refine .region (.z zm (.z ck (.z zg (.nil ?_))))
    refine nT ?_
    exact ⟨(rs++[r],a76,c76),.bU rfl bL aR,⟨by simp;omega,by simp;omega,fun q hq=>by
      simp only [List.mem_append,List.mem_singleton] at hq
      rcases hq with hq|rfl
      ·exact hrok q hq
      ·exact hrOk,_,hO4,hs.sb⟩,by simp;omega⟩
   ·refine .exit ?_
    refine xT (xT (xB (nT ?_)))
    exact ⟨rs,e3,ar,cr,aR,hr14,hrf,hrok,hO3,hs⟩
  ·refine .gFs 2 5 true rfl rfl rfl ?_
   refine .z zpF (.nil ?_)
   refine (.cF ?_)
   refine .exit ?_
   refine xT (xT (xB (nT ?_)))
   exact ⟨rs,e3,ar,cr,aR,hr14,hrf,hrok,hO3,hs⟩
 ·clear hs
  rintro fs w ⟨rs,e3,ar,cr,hfs,hr14,hrf,hrok,hO3,hs⟩
  refine WE.sub ?_ hfs
  clear hfs
  refine .cut (fun fs w=>∃cs e4 ac cc,kg fs ⟨208,[],[(5,.pointer (some ⟨b5,0,none⟩)),(4,.pointer (some ⟨b4,0,none⟩)),(2,.pointer (some ⟨b2,0,none⟩)),(1,.pointer (some ⟨b1,0,none⟩))]⟩∧cs.length≤5∧(∀c∈cs,po c)∧(Srv.nZ ⟨s,rs,cs⟩).Sound∧cf 6 (.slice ac cs.length cc) (cmc cs).flatten e4∧St H w (e1::e2::e3::e4:: .blk b5 [I s.id,I s.src,.slice ast s.st.length cst,.slice awa s.wa.length cwa,I s.al,I s.up]:: .blk b4 [I s.id,I s.src,.slice ast s.st.length cst,.slice awa s.wa.length cwa,I s.al,I s.up,.slice ar rs.length cr,.slice ac cs.length cc]:: .blk b2 [I 0,I 0,.slice none 0 0,.slice none 0 0,I 0,I 0,.slice none 0 0,.slice none 0 0]:: .blk b1 [.slice avs sl.length cvs,.slice av5 fs5.length cv5,.slice av4 fs4.length cv4,.slice avp pk.length cvp,I z1,I z2,I z3]::σ)) ?_ ?_
  ·refine .aj (.z zg (.nil (.block ?_)))
   refine .loop (fun p:Nat×List Cmp×Option Addr×Nat=>⟨208,[],[(9,I (p.1:Int)),(5,.pointer (some ⟨b5,0,none⟩)),(4,.pointer (some ⟨b4,0,none⟩)),(2,.pointer (some ⟨b2,0,none⟩)),(1,.pointer (some ⟨b1,0,none⟩))]⟩)
    (fun p w=>p.1≤5∧p.1≤fs4.length∧p.2.1.length≤p.1∧(∀c∈p.2.1,po c)∧(Srv.nZ ⟨s,rs,p.2.1⟩).Sound∧∃e4,cf 6 (.slice p.2.2.1 p.2.1.length p.2.2.2) (cmc p.2.1).flatten e4∧
     St H w (e1::e2::e3::e4:: .blk b5 [I s.id,I s.src,.slice ast s.st.length cst,.slice awa s.wa.length cwa,I s.al,I s.up]:: .blk b4 [I s.id,I s.src,.slice ast s.st.length cst,.slice awa s.wa.length cwa,I s.al,I s.up,.slice ar rs.length cr,.slice p.2.2.1 p.2.1.length p.2.2.2]:: .blk b2 [I 0,I 0,.slice none 0 0,.slice none 0 0,I 0,I 0,.slice none 0 0,.slice none 0 0]:: .blk b1 [.slice avs sl.length cvs,.slice av5 fs5.length cv5,.slice av4 fs4.length cv4,.slice avp pk.length cvp,I z1,I z2,I z3]::σ)) (fun p=>5 - p.1) (0,[],none,0) aR
    ⟨bL,bL,bL,bL,Bj (vE hSp.ok hSt hWa hr14 bL hrok bL) rfl,.nul,.nil 6 none,(hs.nul).sb⟩ ?_
   clear hs
   rintro ⟨k,cs,ac,cc⟩ w ⟨hk5,hkf,hck,hcok,hsd,e4,hO4,hs⟩
   dsimp only at hk5 hkf hck hcok hsd hO4 hs ⊢
   refine .seq (.aj (.z zm (.z (zfa jA) (.y hs (zld Tryz.isAgg24) (.z (cB Tryz.runUnderlying24) (.z fH (.z zm ?_)))))))
   refine .iD (t':=83) rfl (fun hb83=>?_) (fun hb83=>?_)
   ·refine .gT rfl rfl ?_
    refine .z zm ?_
    refine .gT rfl rfl ?_
    refine .z fH (.z zpT (.nil ?_))
    refine (.bB rfl (fun hc86=>?_) (fun hc86=>?_))
    ·refine .skip ?_
     refine nT ?_
     refine .seq (.block (.aj (.z (zfa jA) (.y hs (zld Tryz.isAgg24) (.z zm ?_)))))
     obtain ⟨n,hn⟩:=nth (l:=fs4) (k:=k) ak
     refine .ixX (enc:=F4.v) hs g3 rfl rfl Tryz.runUnderlying24 Tryz.sizeOf199 hn cD ?_;intro b92 o92 hc92
     refine .q hs (cI (vs:=n.v) rfl Tryz.isAgg199 Tryz.sizeOf199 hc92) ?_
     refine .o (.alloc hs Tryz.zeroValue199 rfl fun b10 w hs=>?_)
     refine .o (.aZ (vs:=[_,_,_,_]) hs rfl rfl Tryz.sizeOf199 fun w hs=>?_)
     refine .nil (.aj ?_)
     refine .z (zia 1 pq ai) ?_
     refine .y hs (zld af) ?_
     refine .o (.call da rfl (bK hs ak) ?_);rintro _ w ⟨k96,g96,rfl,hs⟩
     refine .z gL (.z zg (.nil (.aj ?_)))
     refine .z (zia 3 pq ai) ?_
     refine .y hs (zld af) ?_
     refine .o (.call da rfl (bK hs ak) ?_);rintro _ w ⟨k100,g100,rfl,hs⟩
     refine .z zg (.nil ?_)
     refine .seq (.draw mix rfl hs fun w hs=>?_)
     refine .z 0 rfl (zfa bO) ?_;refine .y 1 rfl hs dL ?_;refine .z 2 rfl zm ?_;refine .z 3 rfl ck ?_
     refine .z 4 rfl (zia 0 pq ai) ?_
     refine .y 5 rfl hs af ?_;refine .z 8 rfl zm ?_;refine .z 9 rfl zm ?_
     refine .z 10 rfl (zia 3 pq ai) ?_
     refine .y 11 rfl hs af ?_;refine .z 12 rfl EC ?_;refine .z 15 rfl zm ?_;refine .z 16 rfl zm ?_
     refine .z 17 rfl (zia 2 pq ai) ?_
     refine .y 18 rfl hs af ?_
     refine .E 6 hs ?_
     refine .call da rfl (bK hs ak) ?_;rintro _ w ⟨k107,g107,rfl,hs⟩
     refine .go ?_
     refine .z 7 rfl ck ?_
     refine .E 13 hs ?_
     refine .call da rfl (bK hs ak) ?_;rintro _ w ⟨k114,g114,rfl,hs⟩
     refine .go ?_
     refine .z 14 rfl ck ?_
     refine .E 19 hs ?_
     refine .call da rfl (bK hs ak) ?_;rintro _ w ⟨k120,g120,rfl,hs⟩
     obtain ⟨c,hc⟩:∃c:Cmp,c=⟨30+(k:Int),1+(k107:Int),(k100:Int),(k100:Int)+(k114:Int),(k96:Int) - 40,(k96:Int) - 40+(k120:Int)⟩:=⟨_,rfl⟩
     have hcOk:po c:=by subst hc;exact ⟨by dsimp only;omega,by dsimp only;omega,by dsimp only;omega,by dsimp only;omega,by dsimp only;omega,by dsimp only;omega⟩
     refine .go ?_
     refine .z 20 rfl ck ?_;refine .z 21 rfl (zbd [_,_,_,_,_,_] nz) ?_
     refine .E 22 hs ?_
     refine .buildSlice (cells:=c.c) hs j5 rfl (by subst hc;kernel_rfl) ?_;intro b123 w hs
     refine .go ?_
     refine .E 23 hs ?_
     refine .append (ys:=c.c) hs jE rfl rfl hO4 (.own .here rfl rfl) (by simp [Cmp.c,Value.oneCell']) (fun l' h=>by rw [bT _ (q5 _),ft] at h;omega) ?_;intro v124 en124 w hO5 hs
     rw [←y9] at hO5
     obtain ⟨a124,c124,rfl⟩:=hO5.jV (q5 _) ak
     rw [ft] at hO5 ⊢
     have hcl:(cs++[c]).length=cs.length+1:=by simp
     have hcok':∀d∈cs++[c],po d:=fun d hd=>by
      simp only [List.mem_append,List.mem_singleton] at hd
      rcases hd with hd|rfl
      ·exact hcok d hd
      ·exact hcOk
     have hsok:eh ⟨s,rs,cs++[c]⟩:=vE hSp.ok hSt hWa hr14 ak hrok hcok'
     refine .go ?_
     refine .z 24 rfl (zfa bO) ?_
     refine .E 25 hs ?_
     refine .store hs rfl rfl Tryz.sizeOf36 ?_;intro w hs
     refine .go ?_
     refine .D hs ?_
     refine .aj (.y hs (zls [_,_,_,_,_,_,_,_] aP aE) ?_)
     obtain ⟨Hx,hlex,r1,r2,r3,r4,hs2,back⟩:=DA.yJ (s:=⟨s,rs,cs++[c]⟩) ⟨hO1,hO2,hO3,hO5⟩ (by show s.st.length≤_;omega) (by show s.wa.length≤_;omega) (by show rs.length≤_;omega) (by show (cs++[c]).length≤_;omega) (hs.sb:St H w (e1::e2::e3::en124:: .blk b5 [I s.id,I s.src,.slice ast s.st.length cst,.slice awa s.wa.length cwa,I s.al,I s.up]:: .blk b4 [I s.id,I s.src,.slice ast s.st.length cst,.slice awa s.wa.length cwa,I s.al,I s.up,.slice ar rs.length cr,.slice a124 (cs++[c]).length c124]:: .blk b2 [I 0,I 0,.slice none 0 0,.slice none 0 0,I 0,I 0,.slice none 0 0,.slice none 0 0]:: .blk b1 [.slice avs sl.length cvs,.slice av5 fs5.length cv5,.slice av4 fs4.length cv4,.slice avp pk.length cvp,I z1,I z2,I z3]::σ))
     refine .o (.call Tryz.call142 rfl (sW (s:=⟨s,rs,cs++[c]⟩) hs2 r1 r2 r3 r4 hsok.early (xY hsok)) ?_);rintro _ w ⟨Hy,b127,hley,rfl,hb127,hs3⟩
     have hs:=back hley hs3
     clear hs2 hs3 back
     refine .nil ?_
     refine (.cond rfl (fun hc127=>?_) (fun hc127=>?_))
     ·refine .region (.z (zfa bO) (.y hs (zld dL) (.z (zfa bO) (.y hs (zld dL) (.z (cB aV) (.z gL ?_))))))
      refine .q hs (lO (k:=cs.length) rfl rfl aV bQ ak (by have:=hO5.le;omega)) ?_
      refine .z (zfa bO) ?_
      refine .o (.store hs rfl rfl Tryz.sizeOf36 fun w hs=>?_)
      refine .nil ?_
      refine nB (nT ?_)
      refine .region (.z zm (.z ck (.z zg (.nil ?_))))
      refine nT ?_
      exact ⟨(k+1,cs,a124,c124),.bU rfl bL aR,⟨by dsimp only;omega,by dsimp only;omega,by dsimp only;omega,hcok,hsd,_,hO5.Ec,hs.sb⟩,by dsimp only;omega⟩
     ·refine .skip ?_
      refine nB (nT ?_)
      refine .region (.z zm (.z ck (.z zg (.nil ?_))))
      refine nT ?_
      exact ⟨(k+1,cs++[c],a124,c124),.bU rfl bL aR,⟨by dsimp only;omega,by dsimp only;omega,by dsimp only;omega,hcok',hb127 (by simpa using hc127),_,hO5,hs.sb⟩,by dsimp only;omega⟩
    ·refine .exit ?_
     refine xT (xT (xB (nT ?_)))
     exact ⟨cs,e4,ac,cc,aR,ak,hcok,hsd,hO4,hs⟩
   ·refine .gFs 2 5 true rfl rfl rfl ?_
    refine .z zpF (.nil ?_)
    refine (.cF ?_)
    refine .exit ?_
    refine xT (xT (xB (nT ?_)))
    exact ⟨cs,e4,ac,cc,aR,ak,hcok,hsd,hO4,hs⟩
  ·clear hs
   rintro fs w ⟨cs,e4,ac,cc,hfs,hc5,hcok,hsd,hO4,hs⟩
   refine WE.sub ?_ hfs
   clear hfs
   have hsok:eh ⟨s,rs,cs⟩:=vE hSp.ok hSt hWa hr14 hc5 hrok hcok
   refine .aj (.y hs (zls [_,_,_,_,_,_,_,_] aP aE) (.z (zfa nr) (.y hs (zld an) ?_)))
   obtain ⟨Hx,hlex,r1,r2,r3,r4,hs2,back⟩:=DA.yJ (s:=⟨s,rs,cs⟩) ⟨hO1,hO2,hO3,hO4⟩ (by show s.st.length≤_;omega) (by show s.wa.length≤_;omega) (by show rs.length≤_;omega) (by show cs.length≤_;omega) hs
   refine .o (.call Tryz.call143 rfl (sV (s:=⟨s,rs,cs⟩) hs2 r1 r2 r3 r4 (g4.mono hlex) hsok.early ⟨xY hsok,hsd⟩) ?_);rintro v139 w ⟨Hy,x,ex,hley,hOx,hP,hs3⟩
   have hs:=back hley hs3
   clear hs2 hs3 back r1 r2 r3 r4
   obtain ⟨hxl,hx0,hxb,hfe⟩:=hP.zU (xY hsok) hsd
   have hsm:=hsok.many
   have hfn:(Srv.nZ ⟨s,rs,cs⟩).n=s.many+(bg rs).length+1:=qG ⟨s,rs,cs⟩
   have hxl:x.length=s.many+(bg rs).length+1:=by rw [hxl];exact hfn
   rw [hfn] at hxb
   have hsm:s.many+(bg rs).length≤64:=hsm
   obtain ⟨Hz,hlez,hX,hs⟩:=cf.de hOx ak hs cP
   obtain ⟨ax,cx,rfl⟩:=RI.shape hX
   refine .z zg (.nil (.seq (.aj (.z zg (.nil (.block ?_))))))
   refine .loop (fun p:Nat×List Rdg=>⟨208,[],[(14,I (p.1:Int)),(13,.slice ax x.length cx),(5,.pointer (some ⟨b5,0,none⟩)),(4,.pointer (some ⟨b4,0,none⟩)),(2,.pointer (some ⟨b2,0,none⟩)),(1,.pointer (some ⟨b1,0,none⟩))]⟩)
    (fun p w=>p.1≤rs.length∧p.2.length=rs.length∧bg p.2=bg rs∧(∀r∈p.2,RdS s r)∧(∀j<p.1,∀r,p.2[j]? =some r→BF s (bg rs) x r)∧∃e3,cf 7 (.slice ar rs.length cr) (rdc p.2).flatten e3∧
     St Hz w (e1::e2::e3::e4:: .blk b5 [I s.id,I s.src,.slice ast s.st.length cst,.slice awa s.wa.length cwa,I s.al,I s.up]:: .blk b4 [I s.id,I s.src,.slice ast s.st.length cst,.slice awa s.wa.length cwa,I s.al,I s.up,.slice ar rs.length cr,.slice ac cs.length cc]:: .blk b2 [I 0,I 0,.slice none 0 0,.slice none 0 0,I 0,I 0,.slice none 0 0,.slice none 0 0]:: .blk b1 [.slice avs sl.length cvs,.slice av5 fs5.length cv5,.slice av4 fs4.length cv4,.slice avp pk.length cvp,I z1,I z2,I z3]::σ)) (fun p=>rs.length - p.1) (0,rs) aR
    ⟨bL,rfl,rfl,fun r hr=>⟨(hrok r hr).st,(hrok r hr).wa,(hrok r hr).tol⟩,fun j hj=>by omega,e3,hO3,hs⟩ ?_
   clear hs hO3
   rintro ⟨k,R⟩ w ⟨hk,hRl,hRt,hRs,hRv,e3,hO3,hs⟩
   dsimp only at hk hRl hRt hRs hRv hO3 hs ⊢
   refine .seq (.aj (.z zm (.z (zfa aM) (.y hs (zld bj) (.z (cB aA) (.z fH (.nil ?_)))))))
   refine (.bB rfl (fun hc144=>?_) (fun hc144=>?_))
   ·refine .skip ?_
    refine nT ?_
    refine .seq (.block (.aj (.z (zfa gG) (.y hs (zld Tryz.isAgg23) (.z zm ?_)))))
    obtain ⟨n,hn⟩:=nth (l:=fs5) (k:=k) ak
    obtain ⟨r,hr⟩:=nth (l:=R) (k:=k) ak
    have hrS:=hRs r (List.mem_of_getElem? hr)
    obtain ⟨u,hu1,hu2⟩:=hrS.u
    have hrst:=hrS.st
    have hrwa:=hrS.wa
    have hrtol:=hrS.tol
    have hmem:r.td∈bg R:=fW.2 ⟨r,List.mem_of_getElem? hr,rfl⟩
    obtain ⟨q,q1,q2,q3⟩:=fa hmem
    rw [hRt] at q3
    have hb1:=hxb u ak
    have hb2:=hxb (s.many+1+q) ak
    obtain ⟨bo,co,sp,hv,rfl,hcap⟩:=hO3.Ey (iG _) ak (by rw [dk];omega)
    simp only [Value.slice.injEq] at hv
    obtain ⟨rfl,hv2,rfl⟩:=hv
    obtain ⟨Hx,hlex,r1,r2,r3,r4,hs2,back⟩:=DA.yJ (s:=⟨s,R,cs⟩) ⟨hO1,hO2,hO3,hO4⟩ (by show s.st.length≤_;omega) (by show s.wa.length≤_;omega) (by show R.length≤_;omega) (by show cs.length≤_;omega) hs
    clear hs
    have hs:=hs2
    clear hs2
    refine .ixX (enc:=F5.v) hs (g2.mono (hlez.trans hlex)) rfl rfl Tryz.runUnderlying23 uk hn cD ?_;intro b150 o150 hc150
    refine .q hs (cI (vs:=n.v) rfl Tryz.isAgg106 uk hc150) ?_
    refine .o (.alloc hs Tryz.zeroValue106 rfl fun b15 w hs=>?_)
    refine .o (.aZ (vs:=[_,_,_,_,_]) hs rfl rfl uk fun w hs=>?_)
    refine .nil (.aj (.z (zfa aM) (.y hs (zld bj) (.z zm ?_))))
    refine .ixX (enc:=Rdg.c) hs r3 rfl rfl aA aF hr cD ?_;intro b155 o155 hc155
    refine .q hs (cI (vs:=r.c) rfl dB aF hc155) ?_
    refine .o (.alloc hs ek rfl fun b16 w hs=>?_)
    refine .o (.aZ (vs:=[_,_,_,_,_,_,_]) hs rfl rfl aF fun w hs=>?_)
    refine .nil (.aj (.y hs (zls [_,_,_,_,_,_] aH aC) (.z (zfa eM) (.y hs (zld af) (.z (zfa eL) (.y hs (zld af) ?_))))))
    refine .o (.call iy rfl (dj (s:=s) hs r2 ak ak ak) ?_);rintro _ w ⟨rfl,hs⟩
    rw [hu1]
    refine .z zg (.nil ?_)
    refine .seq (.draw mix rfl hs fun w hs=>?_)
    refine .ys 0 rfl hs [_,_,_,_,_,_] aH aC ?_;refine .z 3 rfl (zfa aM) ?_;refine .y 4 rfl hs bj ?_;refine .z 6 rfl (zfa ef) ?_;refine .y 7 rfl hs af ?_;refine .z 8 rfl (zfa ee) ?_;refine .y 9 rfl hs af ?_;refine .z 10 rfl (zbd [_,_] fO) ?_
    refine .E 1 hs ?_
    refine .call rh rfl (dJ (s:=s) hs r1 r2 ⟨ak,ak⟩) ?_;rintro _ w ⟨rfl,hs⟩
    refine .go ?_
    refine .z 2 rfl ck ?_
    refine .E 5 hs ?_
    refine .call wv rfl (fY (rs:=R) hs r3 ak) ?_;rintro v168 w ⟨Hw,hlew,hT,hs⟩
    refine .go ?_
    refine .E 11 hs ?_
    refine .call Tryz.call93 rfl (jJ (t:=r.td) hs hT (by rw [hRt];omega)) ?_;rintro _ w ⟨rfl,hs⟩
    rw [q1]
    refine .go ?_
    refine .z 12 rfl ck ?_;refine .z 13 rfl zg ?_;refine .D hs ?_
    refine .seq (.draw mix rfl hs fun w hs=>?_)
    refine .z 0 rfl (zia 4 gQ ai) ?_
    refine .y 1 rfl hs af ?_;refine .z 2 rfl EC ?_;refine .z 3 rfl (zfa bY) ?_;refine .y 4 rfl hs af ?_;refine .z 5 rfl jS ?_;refine .z 6 rfl ck ?_;refine .z 8 rfl (zfa bY) ?_;refine .y 9 rfl hs af ?_
    refine .E 7 hs ?_
    refine .call da rfl (bK hs ak) ?_;rintro _ w ⟨k183,g183,rfl,hs⟩
    refine .go ?_
    refine .z 10 rfl gL ?_;refine .z 11 rfl zg ?_;refine .D hs ?_
    refine .draw mix rfl hs fun w hs=>?_
    refine .z 0 rfl (zfa aM) ?_;refine .y 1 rfl hs bj ?_;refine .z 2 rfl zm ?_;refine .z 3 rfl zm ?_;refine .z 4 rfl zm ?_
    have hs:=back hlew hs
    refine .ixX (enc:=fun x=>[I x]) (i:=5) hs rfl au .none hX rfl rfl ae ai (bn (l:=x) (i:=u) ak) rfl ?_;intro b192 o192 hc192;replace hc192:=bu.one hc192
    refine .r (i:=6) hs rfl au .none (aJ rfl af hc192) ?_
    refine .z 7 rfl zm ?_;refine .z 8 rfl zm ?_
    refine .ixX (enc:=fun x=>[I x]) (i:=9) hs rfl au .none hX rfl rfl ae ai (bn (l:=x) (i:=s.many+1+q) ak) (by push_cast;rfl) ?_;intro b196 o196 hc196;replace hc196:=bu.one hc196
    refine .r (i:=10) hs rfl au .none (aJ rfl af hc196) ?_
    refine .z 11 rfl gL ?_;refine .z 12 rfl zm ?_;refine .z 13 rfl ck ?_
    first|(refine .ixw 14 rfl hs aA aF ?_;intro b201 o201 hc201)|refine .z 14 rfl (nQ aA aF) ?_
    refine .z 15 rfl (zfa cM) ?_
    refine .E 16 hs ?_
    refine .store (c':=(rdc (R.set k {r with val:=gi x u - gi x (s.many+1+q)+((k183:Int) - r.tol)})).flatten++sp) hs rfl rfl ai ?_ cP (Nat.ble_eq_true_of_le (by rw [List.length_append,bT _ (iG _),dk];omega)) (xI hr sp _);intro w hs
    refine .go ?_
    refine .D hs ?_
    refine nB (nT ?_)
    refine .region (.z zm (.z ck (.z zg (.nil ?_))))
    refine nT ?_
    exact ⟨(k+1,R.set k {r with val:=gi x u - gi x (s.many+1+q)+((k183:Int) - r.tol)}),.bU rfl bL aR,⟨by dsimp only;omega,by dsimp only;rw [List.length_set];exact hRl,by dsimp only;rw [wB hr];exact hRt,fun y hy=>by
      rcases List.mem_or_eq_of_mem_set hy with h|h
      ·exact hRs y h
      ·subst h;exact ⟨hrst,hrwa,hrtol⟩,fun j hj y hy=>by
      dsimp only at hj hy
      by_cases e:j=k
      ·subst e
       rw [List.getElem?_set_self ak] at hy
       obtain rfl:=Option.some.inj hy
       have q1':ij (bg rs) r.td=q:=by rw [←hRt];exact q1
       unfold BF
       show gi x (1+r.st*s.wa.length+r.wa).toNat - gi x (s.many+1+ij (bg rs) r.td).toNat - r.tol≤_∧_≤gi x (1+r.st*s.wa.length+r.wa).toNat - gi x (s.many+1+ij (bg rs) r.td).toNat+r.tol
       rw [hu1,q1',show ((s.many:Int)+1+(q:Int)).toNat=s.many+1+q by omega,Int.toNat_natCast]
       dsimp only
       omega
      ·rw [List.getElem?_set_ne ak] at hy
       exact hRv j ak y hy,_,Cx hO3 _,hs.sb⟩,by dsimp only;omega⟩
   ·refine .exit ?_
    refine xT (xT (xB (nT ?_)))
    refine .aj (.y hs (zls [_,_,_,_,_,_,_,_] aP aE) (.z zm ?_))
    obtain rfl:k=rs.length:=by omega
    obtain ⟨Hx,hlex,r1,r2,r3,r4,hs2,back⟩:=DA.yJ (s:=⟨s,R,cs⟩) ⟨hO1,hO2,hO3,hO4⟩ (by show s.st.length≤_;omega) (by show s.wa.length≤_;omega) (by show R.length≤_;omega) (by show cs.length≤_;omega) hs
    refine .o (.call Tryz.call144 rfl (pI (s:=⟨s,R,cs⟩) (x:=x) hs2 r1 r2 r3 ⟨_,_,_,rfl⟩ (hX.mono hlex) (by rw [qG];show _=s.many+(bg R).length+1;rw [hRt];exact hxl) ⟨by show s.st.length≤_;omega,by show s.wa.length≤_;omega,by show R.length≤_;omega⟩) ?_);rintro _ w ⟨Hy,vr',vy,er,ey,hley,rfl,hOr,hOy,hs3⟩
    have hs:=back hley hs3
    clear hs2 hs3 back r1 r2 r3 r4
    have hkl:=tn s R
    obtain ⟨arr,crr,rfl⟩:=hOr.jV (iG _) ak
    obtain ⟨ayy,lyy,cyy,rfl,-⟩:=hOy.shape
    refine .z zex (.z zex ?_)
    refine .o (.aZ (vs:=[_,_,_,_,_,_,_,_]) hs rfl rfl aE fun w hs=>?_)
    refine .z zg (.nil ?_)
    refine .ret ?_
    exact Fin.iA [] [] hs fun w hs=>⟨_,results2 Tryz.results60 (dF (vs:=[_,_,_,_,_,_,_,_]) hs rfl aP aE) rfl,Hz,⟨s,gS s R,cs⟩,_,_,_,_,_,_,e1,e2,er,e4,ey,hlez,rfl,
     ⟨hSt,hWa,by show (gS s R).length≤14;omega,hc5,vE hSp.ok hSt hWa ak hc5 (fun r h=>(w5 h).2) hcok⟩,⟨hO1,hO2,hOr,hO4⟩,hOy,zR hfe hx0 hxl hRt hRs (fun r hr=>by
      obtain ⟨j,hj⟩:=List.getElem?_of_mem hr
      have:=(List.getElem?_eq_some_iff.1 hj).1
      exact hRv j ak r hj),hs.sb⟩
structure Spl(s:Srv):Prop where
 st:2≤s.sp.st.length∧s.sp.st.length≤4
 wa:2≤s.sp.wa.length∧s.sp.wa.length≤3
 rs:s.rs.length≤15
 cs:s.cs.length≤5
theorem yF{b n cap k:Nat}{xs:List Int}{sp:List Value}(h:cf 1 (.slice (some ⟨b,0,none⟩) n cap) (Is xs) (.blk b (Is xs++sp)))(x:Int):
  cf 1 (.slice (some ⟨b,0,none⟩) n cap) (Is (xs.set k x)) (.blk b (Is (xs.set k x)++sp)):=by
 rcases h with ⟨a,_,_,h3⟩|⟨b',len,cap',sp',h1,h2,h3,h4,h5⟩
 ·cases h3
 ·simp only [Value.slice.injEq] at h1
  obtain ⟨-,rfl,rfl⟩:=h1
  simp only [Ent.blk.injEq] at h2
  rw [←h2.2] at h4
  exact .inr ⟨b,n,cap,sp,rfl,rfl,by simpa [Is] using h3,by simpa [Is] using h4,h5⟩
theorem j9{l:List Rdg}{k j:Nat}{r r':Rdg}(h:l[k]? =some r)(hj:j<7){v:Value}(hc:r.c.set j v=r'.c)(sp:List Value):((rdc l).flatten++sp).set (k*7+j) v=(rdc (l.set k r')).flatten++sp:=by
 have hk:=(List.getElem?_eq_some_iff.1 h).1
 rw [List.set_append_left _ _ (by rw [bT _ (iG _),dk];omega),sq (rdc l) k j v (iG l) (by rw [dk];exact hk) hj r.c (vj h),hc]
 unfold rdc
 rw [List.map_set]
theorem ka{b n cap k:Nat}{R:List Rdg}{r':Rdg}{sp:List Value}(h:cf 7 (.slice (some ⟨b,0,none⟩) n cap) (rdc R).flatten (.blk b ((rdc R).flatten++sp))):
  cf 7 (.slice (some ⟨b,0,none⟩) n cap) (rdc (R.set k r')).flatten (.blk b ((rdc (R.set k r')).flatten++sp)):=by
 have hl:(rdc (R.set k r')).flatten.length=(rdc R).flatten.length:=by
  rw [bT _ (iG _),bT _ (iG _),dk,dk,List.length_set]
 rcases h with ⟨a,_,_,h3⟩|⟨b',len,cap',sp',h1,h2,h3,h4,h5⟩
 ·cases h3
 ·simp only [Value.slice.injEq] at h1
  obtain ⟨-,rfl,rfl⟩:=h1
  simp only [Ent.blk.injEq] at h2
  rw [←h2.2] at h4
  exact .inr ⟨b,n,cap,sp,rfl,rfl,by rw [hl];exact h3,by rw [List.length_append,hl,←List.length_append];exact h4,h5⟩
theorem qf{l:List Cmp}{k j:Nat}{r r':Cmp}(h:l[k]? =some r)(hj:j<6){v:Value}(hc:r.c.set j v=r'.c)(sp:List Value):((cmc l).flatten++sp).set (k*6+j) v=(cmc (l.set k r')).flatten++sp:=by
 have hk:=(List.getElem?_eq_some_iff.1 h).1
 rw [List.set_append_left _ _ (by rw [bT _ (q5 _),ft];omega),sq (cmc l) k j v (q5 l) (by rw [ft];exact hk) hj r.c (Eh h),hc]
 unfold cmc
 rw [List.map_set]
theorem pP{b n cap k:Nat}{R:List Cmp}{r':Cmp}{sp:List Value}(h:cf 6 (.slice (some ⟨b,0,none⟩) n cap) (cmc R).flatten (.blk b ((cmc R).flatten++sp))):
  cf 6 (.slice (some ⟨b,0,none⟩) n cap) (cmc (R.set k r')).flatten (.blk b ((cmc (R.set k r')).flatten++sp)):=by
 have hl:(cmc (R.set k r')).flatten.length=(cmc R).flatten.length:=by
  rw [bT _ (q5 _),bT _ (q5 _),ft,ft,List.length_set]
 rcases h with ⟨a,_,_,h3⟩|⟨b',len,cap',sp',h1,h2,h3,h4,h5⟩
 ·cases h3
 ·simp only [Value.slice.injEq] at h1
  obtain ⟨-,rfl,rfl⟩:=h1
  simp only [Ent.blk.injEq] at h2
  rw [←h2.2] at h4
  exact .inr ⟨b,n,cap,sp,rfl,rfl,by rw [hl];exact h3,by rw [List.length_append,hl,←List.length_append];exact h4,h5⟩
set_option maxHeartbeats 2000000 in
theorem lK{vs v5 v4 vp:Value}{sl pk:List Int}{fs5:List F5}{fs4:List F4}{z1 z2 z3:Int}(hs:St H w σ)(g1:RI H vs sl)(g2:RF5 H v5 fs5)(g3:RF4 H v4 fs4)(g4:RI H vp pk):
  Cl Tryz.prog 23 [.agg #[vs,v5,v4,vp,I z1,I z2,I z3]] w fun u w'=>∃H1 s vst vwa vr vc,HLe H H1∧u= .agg #[I s.sp.id,I s.sp.src,vst,vwa,I s.sp.al,I s.sp.up,vr,vc]∧RI H1 vst s.sp.st∧RI H1 vwa s.sp.wa∧RRd H1 vr s.rs∧RCm H1 vc s.cs∧Spl s∧St H1 w' σ:=by
 obtain ⟨avs,cvs,rfl⟩:=RI.shape g1
 obtain ⟨av5,cv5,rfl⟩:=g2.shape
 obtain ⟨av4,cv4,rfl⟩:=g3.shape
 obtain ⟨avp,cvp,rfl⟩:=RI.shape g4
 refine Cl.o Tryz.func23 Tryz.ntmps23 ag1 ?_
 refine .aj ?_
 refine .bx hs fun b1 w hs=>?_
 refine .o (.alloc hs eo rfl fun b2 w hs=>?_)
 refine .nil (.aj (.y hs (zls [_,_,_,_,_,_,_] Tryz.isAgg27 Tryz.sizeOf27) ?_))
 refine .o (.call Tryz.call60 rfl (ub hs g1 g2 g3 g4) ?_);rintro _ w ⟨H1,s,y,vst,vwa,vr,vc,vy,e1,e2,e3,e4,e5,hle1,rfl,hM,⟨hO1,hO2,hO3,hO4⟩,hOy,-,hs⟩
 have hst2:=hM.ok.early.1.st.two
 have hwa2:=hM.ok.early.1.wa.two
 have hst4:=hM.st
 have hwa3:=hM.wa
 have hrs:=hM.rs
 have hcs:=hM.cs
 obtain ⟨bS,cS,spS,rfl,rfl,hcapS⟩:=hO1.some ak
 obtain ⟨bW,cW,spW,rfl,rfl,hcapW⟩:=hO2.some ak
 obtain ⟨ar,cr,rfl⟩:=hO3.jV (iG _) ak
 obtain ⟨ac,cc,rfl⟩:=hO4.jV (q5 _) ak
 rw [dk] at hO3 ⊢
 rw [ft] at hO4 ⊢
 obtain ⟨ay,ly,cy,rfl,-⟩:=hOy.shape
 refine .z zm (.z zex (.z zex ?_))
 refine .o (.alloc hs eo rfl fun b3 w hs=>?_)
 refine .o (.aZ (vs:=[_,_,_,_,_,_,_,_]) hs rfl rfl aE fun w hs=>?_)
 refine .z zg (.nil (.aj (.z (zfa nq) (.y hs (zls [_,_,_] Tryz.isAgg25 Tryz.sizeOf25) ?_))))
 refine .o (.alloc hs Tryz.zeroValue25 rfl fun b5 w hs=>?_)
 refine .o (.aZ (vs:=[_,_,_]) hs rfl rfl Tryz.sizeOf25 fun w hs=>?_)
 refine .nil (.aj ?_)
 refine .z (zia 0 aQ ai) ?_
 refine .y hs (zld af) ?_
 refine .o (.call da rfl (bK hs ak) ?_);rintro _ w ⟨k,gk,rfl,hs⟩
 refine .z zg (.nil ?_)
 refine .cut (fun fs w=>∃(sp':Spc) (f1 f2:Ent),kg fs ⟨225,[],[(6,I (k:Int)),(5,.pointer (some ⟨b5,0,none⟩)),(3,.pointer (some ⟨b3,0,none⟩)),(2,.pointer (some ⟨b2,0,none⟩)),(1,.pointer (some ⟨b1,0,none⟩))]⟩∧sp'.st.length=s.sp.st.length∧sp'.wa.length=s.sp.wa.length∧cf 1 (.slice (some ⟨bS,0,none⟩) s.sp.st.length cS) (Is sp'.st) f1∧cf 1 (.slice (some ⟨bW,0,none⟩) s.sp.wa.length cW) (Is sp'.wa) f2∧St H1 w (f1::f2::e3::e4:: .blk b5 [I z1,I z2,I z3]:: .blk b3 [I sp'.id,I sp'.src,.slice (some ⟨bS,0,none⟩) s.sp.st.length cS,.slice (some ⟨bW,0,none⟩) s.sp.wa.length cW,I sp'.al,I sp'.up,.slice ar s.rs.length cr,.slice ac s.cs.length cc]:: .blk b2 [I 0,I 0,.slice none 0 0,.slice none 0 0,I 0,I 0,.slice none 0 0,.slice none 0 0]::σ)) ?_ ?_
 ·refine .aj (.z zm (.nil (.block (.aj (.z fo (.z zg (.nil ?_)))))))
  refine (.bB rfl (fun hc21=>?_) (fun hc21=>?_))
  ·refine .region ?_
   refine .z (zia 2 aQ ai) ?_
   refine .y hs (zld af) (.z (zfa aO) (.z (zfa lg) ?_))
   refine .o (.store hs rfl rfl ai fun w hs=>?_)
   refine .nil ?_
   refine nB (nT ?_)
   exact ⟨{s.sp with id:=z3},_,_,aR,rfl,rfl,hO1,hO2,hs.sb⟩
  ·refine .aj (.z fo (.z zg (.nil ?_)))
   refine (.bB rfl (fun hc27=>?_) (fun hc27=>?_))
   ·refine .region ?_
    refine .z (zia 2 aQ ai) ?_
    refine .y hs (zld af) (.z (zfa aO) (.z (zfa dv) ?_))
    refine .o (.store hs rfl rfl ai fun w hs=>?_)
    refine .nil ?_
    refine nB (nT ?_)
    exact ⟨{s.sp with src:=z3},_,_,aR,rfl,rfl,hO1,hO2,hs.sb⟩
   ·refine .aj (.z fo (.z zg (.nil ?_)))
    refine (.bB rfl (fun hc33=>?_) (fun hc33=>?_))
    ·refine .draw mix rfl hs fun w hs=>?_
     refine .z 0 rfl (zfa aO) ?_;refine .z 1 rfl (zfa bp) ?_;refine .y 2 rfl hs an ?_
     refine .z 3 rfl (zia 1 aQ ai) ?_
     refine .y 4 rfl hs af ?_;refine .z 5 rfl (zfa aO) ?_;refine .z 6 rfl (zfa bp) ?_;refine .y 7 rfl hs an ?_;refine .z 8 rfl (cB ae) ?_
     refine .z 10 rfl (zia 2 aQ ai) ?_
     refine .y 11 rfl hs af ?_
     refine .E 9 hs ?_
     refine .call da rfl (bK hs ak) ?_;rintro _ w ⟨k44,g44,rfl,hs⟩
     refine .go ?_
     first|(refine .ixv 12 rfl hs ae ai ?_;intro b47 o47 hc47)|refine .z 12 rfl (zix ae ai) ?_
     refine .E 13 hs ?_
     refine .store (c':=Is (s.sp.st.set k44 z3)++spS) hs rfl rfl ai ?_ cP (ky ak spS) (gZ ak spS _);intro w hs
     refine .go ?_
     refine .D hs ?_
     refine nB (nT ?_)
     exact ⟨{s.sp with st:=s.sp.st.set k44 z3},_,_,aR,bL,rfl,yF hO1 _,hO2,hs.sb⟩
    ·refine .aj (.z fo (.z zg (.nil ?_)))
     refine (.bB rfl (fun hc48=>?_) (fun hc48=>?_))
     ·refine .draw mix rfl hs fun w hs=>?_
      refine .z 0 rfl (zfa aO) ?_;refine .z 1 rfl (zfa aW) ?_;refine .y 2 rfl hs an ?_
      refine .z 3 rfl (zia 1 aQ ai) ?_
      refine .y 4 rfl hs af ?_;refine .z 5 rfl (zfa aO) ?_;refine .z 6 rfl (zfa aW) ?_;refine .y 7 rfl hs an ?_;refine .z 8 rfl (cB ae) ?_
      refine .z 10 rfl (zia 2 aQ ai) ?_
      refine .y 11 rfl hs af ?_
      refine .E 9 hs ?_
      refine .call da rfl (bK hs ak) ?_;rintro _ w ⟨k59,g59,rfl,hs⟩
      refine .go ?_
      first|(refine .ixv 12 rfl hs ae ai ?_;intro b62 o62 hc62)|refine .z 12 rfl (zix ae ai) ?_
      refine .E 13 hs ?_
      refine .store (c':=Is (s.sp.wa.set k59 z3)++spW) hs rfl rfl ai ?_ cP (ky ak spW) (gZ ak spW _);intro w hs
      refine .go ?_
      refine .D hs ?_
      refine nB (nT ?_)
      exact ⟨{s.sp with wa:=s.sp.wa.set k59 z3},_,_,aR,rfl,bL,hO1,yF hO2 _,hs.sb⟩
     ·refine .aj (.z fo (.z zg (.nil ?_)))
      refine (.bB rfl (fun hc63=>?_) (fun hc63=>?_))
      ·refine .region ?_
       refine .z (zia 2 aQ ai) ?_
       refine .y hs (zld af) (.z (zfa aO) (.z (zfa dO) (.z (zfa iQ) ?_)))
       refine .o (.store hs rfl rfl ai fun w hs=>?_)
       refine .nil ?_
       refine nB (nT ?_)
       exact ⟨{s.sp with al:=z3},_,_,aR,rfl,rfl,hO1,hO2,hs.sb⟩
      ·refine .aj (.z fo (.z zg (.nil ?_)))
       refine (.bB rfl (fun hc70=>?_) (fun hc70=>?_))
       ·refine .region ?_
        refine .z (zia 2 aQ ai) ?_
        refine .y hs (zld af) (.z (zfa aO) (.z (zfa dO) (.z (zfa iP) ?_)))
        refine .o (.store hs rfl rfl ai fun w hs=>?_)
        refine .nil ?_
        refine nB (nT ?_)
        exact ⟨{s.sp with up:=z3},_,_,aR,rfl,rfl,hO1,hO2,hs.sb⟩
       ·refine .skip ?_
        refine nB (nT ?_)
        exact ⟨s.sp,_,_,aR,rfl,rfl,hO1,hO2,hs.sb⟩
 ·clear hs hO1 hO2
  rintro fs w ⟨sp',f1,f2,hfs,hl1,hl2,hO1,hO2,hs⟩
  refine WE.sub ?_ hfs
  clear hfs
  refine .cut (fun fs w=>∃(R:List Rdg) (f3:Ent) (ar':Option Addr) (cr':Nat),kg fs ⟨225,[],[(6,I (k:Int)),(5,.pointer (some ⟨b5,0,none⟩)),(3,.pointer (some ⟨b3,0,none⟩)),(2,.pointer (some ⟨b2,0,none⟩))]⟩∧R.length≤15∧cf 7 (.slice ar' R.length cr') (rdc R).flatten f3∧St H1 w (f1::f2::f3::e4:: .blk b5 [I z1,I z2,I z3]:: .blk b3 [I sp'.id,I sp'.src,.slice (some ⟨bS,0,none⟩) s.sp.st.length cS,.slice (some ⟨bW,0,none⟩) s.sp.wa.length cW,I sp'.al,I sp'.up,.slice ar' R.length cr',.slice ac s.cs.length cc]:: .blk b2 [I 0,I 0,.slice none 0 0,.slice none 0 0,I 0,I 0,.slice none 0 0,.slice none 0 0]::σ)) ?_ ?_
  ·refine .aj (.z (zfa aM) (.y hs (zld bj) (.z (cB aA) (.z kD (.nil ?_)))))
   refine (.bB rfl (fun hc80=>?_) (fun hc80=>?_))
   ·refine .aj ?_
    refine .z (zia 1 aQ ai) ?_
    refine .y hs (zld af) (.z (zfa aM) (.y hs (zld bj) (.z (cB aA) ?_)))
    obtain ⟨bR,cR,spR,hv,rfl,hcapR⟩:=hO3.Ey (iG _) ak (by rw [dk];omega)
    simp only [Value.slice.injEq] at hv
    obtain ⟨rfl,hv2,rfl⟩:=hv
    refine .o (.call da rfl (bK hs ak) ?_);rintro _ w ⟨i,gi_,rfl,hs⟩
    obtain ⟨r,hr⟩:=nth (l:=s.rs) (k:=i) ak
    have hbR:∀j<7,Nat.blt (i*7+j) ((rdc s.rs).flatten++spR).length=true:=fun j hj=>Nat.ble_eq_true_of_le (by rw [List.length_append,bT _ (iG _),dk];omega)
    refine .z zg (.nil (.aj (.z zm (.nil (.block (.seq (.aj (.z fo (.z zg ?_)))))))))
    refine .nil ?_
    refine (.bB rfl (fun hc88=>?_) (fun hc88=>?_))
    ·refine .skip ?_
     refine nT ?_
     refine (.cT ?_)
     refine .region (.z (zfa aM) (.y hs (zld bj) (.z zm ?_)))
     refine .z (zia 2 aQ ai) ?_
     refine .y hs (zld af) ?_
     first|(refine .ixw hs aA aF ?_;intro b97 o97 hc97)|refine .z (nQ aA aF) ?_
     refine .z (zfa cM) ?_
     refine .o (.store (c':=(rdc (s.rs.set i {r with val:=z3})).flatten++spR) hs rfl rfl ai ?_ cP (hbR 3 ak) (j9 hr ak rfl spR));intro w hs
     refine .nil ?_
     refine nB (nT ?_)
     exact ⟨s.rs.set i {r with val:=z3},_,some ⟨bR,0,none⟩,cr,aR,by rw [List.length_set];omega,by rw [List.length_set];exact ka hO3,by rw [List.length_set];exact hs.sb⟩
    ·refine .aj (.z fo (.z zg (.nil ?_)))
     refine (.bB rfl (fun hc88=>?_) (fun hc88=>?_))
     ·refine .skip ?_
      refine nT ?_
      refine (.cT ?_)
      refine .region (.z (zfa aM) (.y hs (zld bj) (.z zm ?_)))
      refine .z (zia 2 aQ ai) ?_
      refine .y hs (zld af) ?_
      first|(refine .ixw hs aA aF ?_;intro b97 o97 hc97)|refine .z (nQ aA aF) ?_
      refine .z (zfa cM) ?_
      refine .o (.store (c':=(rdc (s.rs.set i {r with val:=z3})).flatten++spR) hs rfl rfl ai ?_ cP (hbR 3 ak) (j9 hr ak rfl spR));intro w hs
      refine .nil ?_
      refine nB (nT ?_)
      exact ⟨s.rs.set i {r with val:=z3},_,some ⟨bR,0,none⟩,cr,aR,by rw [List.length_set];omega,by rw [List.length_set];exact ka hO3,by rw [List.length_set];exact hs.sb⟩
     ·refine .region (.z fo (.z zg (.nil ?_)))
      refine nT ?_
      refine (.bB rfl (fun hc88=>?_) (fun hc88=>?_))
      ·refine .region (.z (zfa aM) (.y hs (zld bj) (.z zm ?_)))
       refine .z (zia 2 aQ ai) ?_
       refine .y hs (zld af) ?_
       first|(refine .ixw hs aA aF ?_;intro b97 o97 hc97)|refine .z (nQ aA aF) ?_
       refine .z (zfa cM) ?_
       refine .o (.store (c':=(rdc (s.rs.set i {r with val:=z3})).flatten++spR) hs rfl rfl ai ?_ cP (hbR 3 ak) (j9 hr ak rfl spR));intro w hs
       refine .nil ?_
       refine nB (nT ?_)
       exact ⟨s.rs.set i {r with val:=z3},_,some ⟨bR,0,none⟩,cr,aR,by rw [List.length_set];omega,by rw [List.length_set];exact ka hO3,by rw [List.length_set];exact hs.sb⟩
      ·refine .aj (.z fo (.z zg (.nil ?_)))
       refine (.bB rfl (fun hc99=>?_) (fun hc99=>?_))
       ·refine .region (.z (zfa aM) (.y hs (zld bj) (.z zm ?_)))
        refine .z (zia 2 aQ ai) ?_
        refine .y hs (zld af) ?_
        first|(refine .ixw hs aA aF ?_;intro b106 o106 hc106)|refine .z (nQ aA aF) ?_
        refine .z (zfa bY) ?_
        refine .o (.store (c':=(rdc (s.rs.set i {r with tol:=z3})).flatten++spR) hs rfl rfl ai ?_ cP (hbR 4 ak) (j9 hr ak rfl spR));intro w hs
        refine .nil ?_
        refine nB (nT ?_)
        exact ⟨s.rs.set i {r with tol:=z3},_,some ⟨bR,0,none⟩,cr,aR,by rw [List.length_set];omega,by rw [List.length_set];exact ka hO3,by rw [List.length_set];exact hs.sb⟩
       ·refine .aj (.z fo (.z zg (.nil ?_)))
        refine (.bB rfl (fun hc108=>?_) (fun hc108=>?_))
        ·refine .region (.z (zfa aM) (.y hs (zld bj) (.z zm ?_)))
         refine .z (zia 2 aQ ai) ?_
         refine .y hs (zld af) ?_
         first|(refine .ixw hs aA aF ?_;intro b115 o115 hc115)|refine .z (nQ aA aF) ?_
         refine .z (zfa ef) ?_
         refine .o (.store (c':=(rdc (s.rs.set i {r with tape:=z3})).flatten++spR) hs rfl rfl ai ?_ cP (hbR 5 ak) (j9 hr ak rfl spR));intro w hs
         refine .nil ?_
         refine nB (nT ?_)
         exact ⟨s.rs.set i {r with tape:=z3},_,some ⟨bR,0,none⟩,cr,aR,by rw [List.length_set];omega,by rw [List.length_set];exact ka hO3,by rw [List.length_set];exact hs.sb⟩
        ·refine .aj (.z fo (.z zg (.nil ?_)))
         refine (.bB rfl (fun hc117=>?_) (fun hc117=>?_))
         ·refine .region (.z (zfa aM) (.y hs (zld bj) (.z zm ?_)))
          refine .z (zia 2 aQ ai) ?_
          refine .y hs (zld af) ?_
          first|(refine .ixw hs aA aF ?_;intro b124 o124 hc124)|refine .z (nQ aA aF) ?_
          refine .z (zfa ee) ?_
          refine .o (.store (c':=(rdc (s.rs.set i {r with day:=z3})).flatten++spR) hs rfl rfl ai ?_ cP (hbR 6 ak) (j9 hr ak rfl spR));intro w hs
          refine .nil ?_
          refine nB (nT ?_)
          exact ⟨s.rs.set i {r with day:=z3},_,some ⟨bR,0,none⟩,cr,aR,by rw [List.length_set];omega,by rw [List.length_set];exact ka hO3,by rw [List.length_set];exact hs.sb⟩
         ·refine .aj (.z fo (.z zg (.nil ?_)))
          refine (.bB rfl (fun hc126=>?_) (fun hc126=>?_))
          ·refine .region (.z (zfa aM) (.y hs (zld bj) (.z zm ?_)))
           refine .z (zia 2 aQ ai) ?_
           refine .y hs (zld af) ?_
           first|(refine .ixw hs aA aF ?_;intro b133 o133 hc133)|refine .z (nQ aA aF) ?_
           refine .z (zfa eM) ?_
           refine .o (.store (c':=(rdc (s.rs.set i {r with st:=z3})).flatten++spR) hs rfl rfl ai ?_ cP (hbR 1 ak) (j9 hr ak rfl spR));intro w hs
           refine .nil ?_
           refine nB (nT ?_)
           exact ⟨s.rs.set i {r with st:=z3},_,some ⟨bR,0,none⟩,cr,aR,by rw [List.length_set];omega,by rw [List.length_set];exact ka hO3,by rw [List.length_set];exact hs.sb⟩
          ·refine .aj (.z fo (.z zg (.nil ?_)))
           refine (.bB rfl (fun hc135=>?_) (fun hc135=>?_))
           ·refine .region (.z (zfa aM) (.y hs (zld bj) (.z zm ?_)))
            refine .z (zia 2 aQ ai) ?_
            refine .y hs (zld af) ?_
            first|(refine .ixw hs aA aF ?_;intro b142 o142 hc142)|refine .z (nQ aA aF) ?_
            refine .z (zfa eL) ?_
            refine .o (.store (c':=(rdc (s.rs.set i {r with wa:=z3})).flatten++spR) hs rfl rfl ai ?_ cP (hbR 2 ak) (j9 hr ak rfl spR));intro w hs
            refine .nil ?_
            refine nB (nT ?_)
            exact ⟨s.rs.set i {r with wa:=z3},_,some ⟨bR,0,none⟩,cr,aR,by rw [List.length_set];omega,by rw [List.length_set];exact ka hO3,by rw [List.length_set];exact hs.sb⟩
           ·refine .aj (.z fo (.z zg (.nil ?_)))
            refine (.bB rfl (fun hc144=>?_) (fun hc144=>?_))
            ·refine .region (.z (zfa aM) (.y hs (zld bj) (.z zm ?_)))
             refine .z (zia 2 aQ ai) ?_
             refine .y hs (zld af) ?_
             first|(refine .ixw hs aA aF ?_;intro b151 o151 hc151)|refine .z (nQ aA aF) ?_
             refine .z (zfa eg) ?_
             refine .o (.store (c':=(rdc (s.rs.set i {r with src:=z3})).flatten++spR) hs rfl rfl ai ?_ cP (hbR 0 ak) (j9 hr ak rfl spR));intro w hs
             refine .nil ?_
             refine nB (nT ?_)
             exact ⟨s.rs.set i {r with src:=z3},_,some ⟨bR,0,none⟩,cr,aR,by rw [List.length_set];omega,by rw [List.length_set];exact ka hO3,by rw [List.length_set];exact hs.sb⟩
            ·refine .seq (.aj (.z fo (.z zg (.nil ?_))))
             refine (.bB rfl (fun hc153=>?_) (fun hc153=>?_))
             ·refine .skip ?_
              refine nT ?_
              refine (.cT ?_)
              refine .aj (.z (zfa aM) (.y hs (zld bj) (.z zm ?_)))
              first|(refine .ixw hs aA aF ?_;intro b159 o159 hc159)|refine .z (nQ aA aF) ?_
              refine .y hs (zls r.c dB aF (hr:= .own (by repeat (first|exact .here|refine .there ?_)) (uE (iG _) (vj hr) spR))) ?_
              have hrOk:=hM.ok.early.2.2.2.1 r (List.mem_of_getElem? hr)
              have hrtol:=hrOk.tol
              refine .o (.alloc hs ek rfl fun b8 w hs=>?_)
              refine .o (.aZ (vs:=[_,_,_,_,_,_,_]) hs rfl rfl aF fun w hs=>?_)
              refine .nil (.aj (.z (zfa eg) ?_))
              refine .o (.store hs rfl rfl ai fun w hs=>?_)
              refine .nil (.aj ?_)
              refine .z (zia 2 aQ ai) ?_
              refine .y hs (zld af) (.z (zfa bY) (.y hs (zld af) (.z gL (.z ck ?_))))
              refine .o (.call da rfl (bK hs ak) ?_);rintro _ w ⟨k168,g168,rfl,hs⟩
              refine .z (zfa cM) ?_
              refine .o (.store hs rfl rfl ai fun w hs=>?_)
              refine .nil (.region (.z (zfa aM) (.y hs (zld bj) (.y hs (zls [_,_,_,_,_,_,_] dB aF) ?_))))
              refine .o (.buildSlice (cells:=Rdg.c ⟨50,r.st,r.wa,(k168:Int),r.tol,r.tape,r.day⟩) hs eS rfl au fun b173 w hs=>?_)
              refine .o (.append (ys:=Rdg.c ⟨50,r.st,r.wa,(k168:Int),r.tol,r.tape,r.day⟩) hs cE rfl rfl hO3 (.own .here rfl rfl) (by simp [Rdg.c,Value.oneCell']) (fun l' h=>by rw [bT _ (iG _),dk] at h;omega) ?_);intro v174 en174 w hO5 hs
              rw [←pM] at hO5
              obtain ⟨a174,c174,rfl⟩:=hO5.jV (iG _) ak
              rw [dk] at hO5 ⊢
              refine .z (zfa aM) ?_
              refine .o (.store hs rfl rfl ml fun w hs=>?_)
              refine .nil ?_
              refine nB (nT ?_)
              exact ⟨s.rs++[⟨50,r.st,r.wa,(k168:Int),r.tol,r.tape,r.day⟩],_,a174,c174,aR,by simp;omega,hO5,hs.sb⟩
             ·refine .region (.z fo (.z zg (.nil ?_)))
              refine nT ?_
              refine (.bB rfl (fun hc153=>?_) (fun hc153=>?_))
              ·refine .aj (.z (zfa aM) (.y hs (zld bj) (.z zm ?_)))
               first|(refine .ixw hs aA aF ?_;intro b159 o159 hc159)|refine .z (nQ aA aF) ?_
               refine .y hs (zls r.c dB aF (hr:= .own (by repeat (first|exact .here|refine .there ?_)) (uE (iG _) (vj hr) spR))) ?_
               have hrOk:=hM.ok.early.2.2.2.1 r (List.mem_of_getElem? hr)
               have hrtol:=hrOk.tol
               refine .o (.alloc hs ek rfl fun b8 w hs=>?_)
               refine .o (.aZ (vs:=[_,_,_,_,_,_,_]) hs rfl rfl aF fun w hs=>?_)
               refine .nil (.aj (.z (zfa eg) ?_))
               refine .o (.store hs rfl rfl ai fun w hs=>?_)
               refine .nil (.aj ?_)
               refine .z (zia 2 aQ ai) ?_
               refine .y hs (zld af) (.z (zfa bY) (.y hs (zld af) (.z gL (.z ck ?_))))
               refine .o (.call da rfl (bK hs ak) ?_);rintro _ w ⟨k168,g168,rfl,hs⟩
               refine .z (zfa cM) ?_
               refine .o (.store hs rfl rfl ai fun w hs=>?_)
               refine .nil (.region (.z (zfa aM) (.y hs (zld bj) (.y hs (zls [_,_,_,_,_,_,_] dB aF) ?_))))
               refine .o (.buildSlice (cells:=Rdg.c ⟨50,r.st,r.wa,(k168:Int),r.tol,r.tape,r.day⟩) hs eS rfl au fun b173 w hs=>?_)
               refine .o (.append (ys:=Rdg.c ⟨50,r.st,r.wa,(k168:Int),r.tol,r.tape,r.day⟩) hs cE rfl rfl hO3 (.own .here rfl rfl) (by simp [Rdg.c,Value.oneCell']) (fun l' h=>by rw [bT _ (iG _),dk] at h;omega) ?_);intro v174 en174 w hO5 hs
               rw [←pM] at hO5
               obtain ⟨a174,c174,rfl⟩:=hO5.jV (iG _) ak
               rw [dk] at hO5 ⊢
               refine .z (zfa aM) ?_
               refine .o (.store hs rfl rfl ml fun w hs=>?_)
               refine .nil ?_
               refine nB (nT ?_)
               exact ⟨s.rs++[⟨50,r.st,r.wa,(k168:Int),r.tol,r.tape,r.day⟩],_,a174,c174,aR,by simp;omega,hO5,hs.sb⟩
              ·refine .skip ?_
               refine nB (nT ?_)
               exact ⟨s.rs,_,some ⟨bR,0,none⟩,cr,aR,ak,hO3,hs.sb⟩
   ·refine .skip ?_
    refine nT ?_
    exact ⟨s.rs,_,ar,cr,aR,ak,hO3,hs.sb⟩
  ·clear hs hO3
   rintro fs w ⟨R,f3,ar',cr',hfs,hRl,hO3,hs⟩
   refine WE.sub ?_ hfs
   clear hfs
   refine .cut (fun fs w=>∃(C:List Cmp) (f4:Ent) (ac':Option Addr) (cc':Nat),kg fs ⟨225,[],[(3,.pointer (some ⟨b3,0,none⟩)),(2,.pointer (some ⟨b2,0,none⟩))]⟩∧C.length≤5∧cf 6 (.slice ac' C.length cc') (cmc C).flatten f4∧St H1 w (f1::f2::f3::f4:: .blk b3 [I sp'.id,I sp'.src,.slice (some ⟨bS,0,none⟩) s.sp.st.length cS,.slice (some ⟨bW,0,none⟩) s.sp.wa.length cW,I sp'.al,I sp'.up,.slice ar' R.length cr',.slice ac' C.length cc']:: .blk b2 [I 0,I 0,.slice none 0 0,.slice none 0 0,I 0,I 0,.slice none 0 0,.slice none 0 0]::σ)) ?_ ?_
   ·refine .aj (.z (zfa bO) (.y hs (zld dL) (.z (cB aV) (.z kD (.nil ?_)))))
    refine (.bB rfl (fun hc179=>?_) (fun hc179=>?_))
    ·refine .aj ?_
     refine .z (zia 1 aQ ai) ?_
     refine .y hs (zld af) (.z (zfa bO) (.y hs (zld dL) (.z (cB aV) ?_)))
     obtain ⟨bC,cC,spC,hv,rfl,hcapC⟩:=hO4.Ey (q5 _) ak (by rw [ft];omega)
     simp only [Value.slice.injEq] at hv
     obtain ⟨rfl,hv2,rfl⟩:=hv
     refine .o (.call da rfl (bK hs ak) ?_);rintro _ w ⟨i,gi_,rfl,hs⟩
     obtain ⟨c,hc⟩:=nth (l:=s.cs) (k:=i) ak
     have hbC:∀j<6,Nat.blt (i*6+j) ((cmc s.cs).flatten++spC).length=true:=fun j hj=>Nat.ble_eq_true_of_le (by rw [List.length_append,bT _ (q5 _),ft];omega)
     refine .z zg (.nil (.aj (.z zm (.nil (.block (.seq (.aj (.z fo (.z zg ?_)))))))))
     refine .nil ?_
     refine (.bB rfl (fun hc187=>?_) (fun hc187=>?_))
     ·refine .skip ?_
      refine nT ?_
      refine (.cT ?_)
      refine .region (.z (zfa bO) (.y hs (zld dL) (.z zm ?_)))
      refine .z (zia 2 aQ ai) ?_
      refine .y hs (zld af) ?_
      first|(refine .ixw hs aV bQ ?_;intro b195 o195 hc195)|refine .z (nQ aV bQ) ?_
      refine .z (zfa eO) ?_
      refine .o (.store (c':=(cmc (s.cs.set i {c with lo:=z3})).flatten++spC) hs rfl rfl ai ?_ cP (hbC 4 ak) (qf hc ak rfl spC));intro w hs
      refine .nil ?_
      refine nB (nT ?_)
      exact ⟨s.cs.set i {c with lo:=z3},_,some ⟨bC,0,none⟩,cc,aR,by rw [List.length_set];omega,by rw [List.length_set];exact pP hO4,by rw [List.length_set];exact hs.sb⟩
     ·refine .region (.z fo (.z zg (.nil ?_)))
      refine nT ?_
      refine (.bB rfl (fun hc187=>?_) (fun hc187=>?_))
      ·refine .region (.z (zfa bO) (.y hs (zld dL) (.z zm ?_)))
       refine .z (zia 2 aQ ai) ?_
       refine .y hs (zld af) ?_
       first|(refine .ixw hs aV bQ ?_;intro b195 o195 hc195)|refine .z (nQ aV bQ) ?_
       refine .z (zfa eO) ?_
       refine .o (.store (c':=(cmc (s.cs.set i {c with lo:=z3})).flatten++spC) hs rfl rfl ai ?_ cP (hbC 4 ak) (qf hc ak rfl spC));intro w hs
       refine .nil ?_
       refine nB (nT ?_)
       exact ⟨s.cs.set i {c with lo:=z3},_,some ⟨bC,0,none⟩,cc,aR,by rw [List.length_set];omega,by rw [List.length_set];exact pP hO4,by rw [List.length_set];exact hs.sb⟩
      ·refine .aj (.z fo (.z zg (.nil ?_)))
       refine (.bB rfl (fun hc197=>?_) (fun hc197=>?_))
       ·refine .region (.z (zfa bO) (.y hs (zld dL) (.z zm ?_)))
        refine .z (zia 2 aQ ai) ?_
        refine .y hs (zld af) ?_
        first|(refine .ixw hs aV bQ ?_;intro b204 o204 hc204)|refine .z (nQ aV bQ) ?_
        refine .z (zfa eN) ?_
        refine .o (.store (c':=(cmc (s.cs.set i {c with hi:=z3})).flatten++spC) hs rfl rfl ai ?_ cP (hbC 5 ak) (qf hc ak rfl spC));intro w hs
        refine .nil ?_
        refine nB (nT ?_)
        exact ⟨s.cs.set i {c with hi:=z3},_,some ⟨bC,0,none⟩,cc,aR,by rw [List.length_set];omega,by rw [List.length_set];exact pP hO4,by rw [List.length_set];exact hs.sb⟩
       ·refine .aj (.z fo (.z zg (.nil ?_)))
        refine (.bB rfl (fun hc206=>?_) (fun hc206=>?_))
        ·refine .region (.z (zfa bO) (.y hs (zld dL) (.z zm ?_)))
         refine .z (zia 2 aQ ai) ?_
         refine .y hs (zld af) ?_
         first|(refine .ixw hs aV bQ ?_;intro b213 o213 hc213)|refine .z (nQ aV bQ) ?_
         refine .z (zfa fq) ?_
         refine .o (.store (c':=(cmc (s.cs.set i {c with fr:=z3})).flatten++spC) hs rfl rfl ai ?_ cP (hbC 2 ak) (qf hc ak rfl spC));intro w hs
         refine .nil ?_
         refine nB (nT ?_)
         exact ⟨s.cs.set i {c with fr:=z3},_,some ⟨bC,0,none⟩,cc,aR,by rw [List.length_set];omega,by rw [List.length_set];exact pP hO4,by rw [List.length_set];exact hs.sb⟩
        ·refine .aj (.z fo (.z zg (.nil ?_)))
         refine (.bB rfl (fun hc215=>?_) (fun hc215=>?_))
         ·refine .region (.z (zfa bO) (.y hs (zld dL) (.z zm ?_)))
          refine .z (zia 2 aQ ai) ?_
          refine .y hs (zld af) ?_
          first|(refine .ixw hs aV bQ ?_;intro b222 o222 hc222)|refine .z (nQ aV bQ) ?_
          refine .z (zfa eP) ?_
          refine .o (.store (c':=(cmc (s.cs.set i {c with to:=z3})).flatten++spC) hs rfl rfl ai ?_ cP (hbC 3 ak) (qf hc ak rfl spC));intro w hs
          refine .nil ?_
          refine nB (nT ?_)
          exact ⟨s.cs.set i {c with to:=z3},_,some ⟨bC,0,none⟩,cc,aR,by rw [List.length_set];omega,by rw [List.length_set];exact pP hO4,by rw [List.length_set];exact hs.sb⟩
         ·refine .skip ?_
          refine nB (nT ?_)
          exact ⟨s.cs,_,some ⟨bC,0,none⟩,cc,aR,ak,hO4,hs.sb⟩
    ·refine .skip ?_
     refine nT ?_
     exact ⟨s.cs,_,ac,cc,aR,ak,hO4,hs.sb⟩
   ·clear hs hO4
    rintro fs w ⟨C,f4,ac',cc',hfs,hCl,hO4,hs⟩
    refine WE.sub ?_ hfs
    clear hfs
    refine .aj (.y hs (zls [_,_,_,_,_,_,_,_] aP aE) ?_)
    refine .o (.aZ (vs:=[_,_,_,_,_,_,_,_]) hs rfl rfl aE fun w hs=>?_)
    refine .nil ?_
    refine .ret ?_
    have hV:DA ⟨sp',R,C⟩ (.slice (some ⟨bS,0,none⟩) s.sp.st.length cS) (.slice (some ⟨bW,0,none⟩) s.sp.wa.length cW) (.slice ar' R.length cr') (.slice ac' C.length cc') f1 f2 f3 f4:=⟨hO1,hO2,hO3,hO4⟩
    obtain ⟨Ha,hla,ra,hs⟩:=hO1.de ak hs cP
    obtain ⟨Hb,hlb,rb,hs⟩:=hO2.de ak hs cP
    obtain ⟨Hc,hlc,rc,hs⟩:=cf.cq (m:=7) (cs:=rdc R) hO3 (iG _) ak (by rw [dk];omega) hs cP
    obtain ⟨Hd,hld,rd,hs⟩:=cf.cq (m:=6) (cs:=cmc C) hO4 (q5 _) ak (by rw [ft];omega) hs cP
    exact Fin.iA [] [] hs fun w hs=>⟨_,results1 Tryz.results23 (dF (vs:=[_,_,_,_,_,_,_,_]) hs rfl aP aE),Hd,⟨sp',R,C⟩,_,_,_,_,hle1.trans (hla.trans (hlb.trans (hlc.trans hld))),rfl,ra.mono (hlb.trans (hlc.trans hld)),rb.mono (hlc.trans hld),RRd.mono rc hld,rd,⟨by show 2≤sp'.st.length∧sp'.st.length≤4;omega,by show 2≤sp'.wa.length∧sp'.wa.length≤3;omega,hRl,hCl⟩,hs.out⟩
theorem lM{s:Spc}{vst vwa vh:Value}{rows:List (List Int)}(hs:St H w σ)(h1:RI H vst s.st)(h2:RI H vwa s.wa)(hr:RT H vh rows):
  Cl Tryz.prog 145 [.agg #[I s.id,I s.src,vst,vwa,I s.al,I s.up],.agg #[vh]] w fun u w'=>∃b:Bool,u= .bool b∧(b=true↔iZ s rows)∧St H w' σ:=by
 obtain ⟨ast,cst,rfl⟩:=RI.shape h1
 obtain ⟨awa,cwa,rfl⟩:=RI.shape h2
 obtain ⟨ah,ch,rfl⟩:=hr.shape
 have hrl:=(hr.len).2.2
 have hwl:=(RI.len h2).2.2
 refine Cl.o Tryz.func145 Tryz.ntmps145 ag2 ?_
 refine .aj ?_
 refine .bx hs fun b2 w hs=>?_
 refine .bx hs fun b3 w hs=>?_
 refine .z zg (.nil (.seq (.aj (.z (zfa dz) (.y hs (zld ep) (.z (cB aq) (.z (zfa bp) (.y hs (zld an) (.z (cB ae) ?_)))))))))
 refine .z gx (.nil ?_)
 refine (.eH rfl (fun hc13=>?_) (fun hc13=>?_))
 ·refine .aj (.z zg (.nil ?_))
  refine .ret (rT (Fin.bH Tryz.results145 rfl ?_))
  exact ⟨false,rfl,⟨fun h=>(by cases h),fun h=>by have:=h.len;simp_all⟩,hs.out⟩
 ·refine .skip ?_
  refine nT ?_
  refine .seq (.aj (.z zg (.nil (.block ?_))))
  have hrows:rows.length=s.st.length:=by omega
  refine .loop (fun i:Nat=>⟨51,[],[(5,I (i:Int)),(3,.pointer (some ⟨b3,0,none⟩)),(2,.pointer (some ⟨b2,0,none⟩))]⟩)
   (fun i w=>i≤rows.length∧(∀j<i,(gr rows j).length=s.wa.length∧∀k<s.wa.length,0≤gt rows j k∧gt rows j k≤20000)∧St H w (.blk b3 [.slice ah rows.length ch]:: .blk b2 [I s.id,I s.src,.slice ast s.st.length cst,.slice awa s.wa.length cwa,I s.al,I s.up]::σ)) (fun i=>rows.length - i) 0 aR
   ⟨Nat.zero_le _,fun j hj=>by omega,hs⟩ ?_
  clear hs
  rintro i w ⟨hi,hall,hs⟩
  refine .seq (.aj (.z zm (.z (zfa dz) (.y hs (zld ep) (.z (cB aq) (.z fH (.nil ?_)))))))
  refine (.bB rfl (fun hc18=>?_) (fun hc18=>?_))
  ·refine .skip ?_
   refine nT ?_
   refine .seq (.block (.seq ?_))
   refine .seq (.draw mix rfl hs fun w hs=>?_)
   refine .z 0 rfl (zfa dz) ?_;refine .y 1 rfl hs ep ?_;refine .z 2 rfl zm ?_
   refine .ixT (i:=3) hs rfl au .none hr rfl rfl aq az (show i<_ by omega) cD ?_;intro b24 o24 a24 c24 hc24 hR24
   refine .r (i:=4) hs rfl au .none (aJ rfl an hc24) ?_
   refine .z 5 rfl (cB ae) ?_;refine .z 6 rfl (zfa aW) ?_;refine .y 7 rfl hs an ?_;refine .z 8 rfl (cB ae) ?_;refine .z 9 rfl gx ?_;refine .D hs ?_
   refine (.eH rfl (fun hc30=>?_) (fun hc30=>?_))
   ·refine .aj (.z zg (.nil ?_))
    refine .ret (rT (rB (rT (rT (rB (rT (Fin.bH Tryz.results145 rfl ?_)))))))
    exact ⟨false,rfl,⟨fun h=>(by cases h),fun h=>by have:=h.row i ak;simp_all⟩,hs.out⟩
   ·refine .skip ?_
    refine nT ?_
    refine .aj (.z zg (.nil (.block ?_)))
    have hrow:(gr rows i).length=s.wa.length:=by simp_all;omega
    refine .loop (fun k:Nat=>⟨51,[],[(6,I (k:Int)),(5,I (i:Int)),(3,.pointer (some ⟨b3,0,none⟩)),(2,.pointer (some ⟨b2,0,none⟩))]⟩)
     (fun k w=>k≤s.wa.length∧(∀j<k,0≤gt rows i j∧gt rows i j≤20000)∧St H w (.blk b3 [.slice ah rows.length ch]:: .blk b2 [I s.id,I s.src,.slice ast s.st.length cst,.slice awa s.wa.length cwa,I s.al,I s.up]::σ)) (fun k=>s.wa.length - k) 0 aR
     ⟨Nat.zero_le _,fun j hj=>by omega,hs⟩ ?_
    clear hs
    rintro k w ⟨hk,hin,hs⟩
    refine .seq (.aj (.z zm (.z (zfa dz) (.y hs (zld ep) (.z zm ?_)))))
    refine .ixT hs hr rfl rfl aq az (show i<_ by omega) cD ?_;intro b35 o35 a35 c35 hc35 hR35
    refine .q hs (aJ rfl an hc35) ?_
    refine .z (cB ae) (.z fH (.nil ?_))
    refine (.bB rfl (fun hc38=>?_) (fun hc38=>?_))
    ·refine .skip ?_
     refine nT ?_
     refine .seq (.block (.aj (.z (zfa dz) (.y hs (zld ep) (.z zm ?_)))))
     refine .ixT hs hr rfl rfl aq az (show i<_ by omega) cD ?_;intro b44 o44 a44 c44 hc44 hR44
     refine .q hs (aJ rfl an hc44) ?_
     refine .z zm ?_
     refine .ixY hs hR44 rfl rfl ae ai (bn (l:=(gr rows i)) (i:=k) ak) cD ?_;intro b47 o47 hc47
     refine .q hs (aJ rfl af hc47) ?_
     refine .o (.call eV rfl (dd hs) ?_);rintro _ w ⟨rfl,hs⟩
     refine .z gV (.nil ?_)
     refine (.cond rfl (fun hc50=>?_) (fun hc50=>?_))
     ·refine .aj (.z zg (.nil ?_))
      refine .ret (rB (rT (rT (rB (rB (rT (rT (rB (rT (Fin.bH Tryz.results145 rfl ?_))))))))))
      exact ⟨false,rfl,⟨fun h=>(by cases h),fun h=>by
       have:=h.num i ak k ak
       unfold gt at this
       simp_all⟩,hs.out⟩
     ·refine .skip ?_
      refine nB (nT ?_)
      refine .region (.z zm (.z ck (.z zg (.nil ?_))))
      refine nT ?_
      exact ⟨k+1,.bU rfl bL aR,⟨ak,fun j hj=>by
       by_cases e:j=k
       ·subst e
        have:0≤gi (gr rows i) j∧gi (gr rows i) j≤20000:=by simp_all
        exact this
       ·exact hin j ak,hs⟩,ak⟩
    ·refine .exit ?_
     refine xT (xT (xB (nB (nT ?_))))
     refine .region (.z zm (.z ck (.z zg (.nil ?_))))
     refine nT ?_
     exact ⟨i+1,.bU rfl bL aR,⟨ak,fun j hj=>by
      by_cases e:j=i
      ·subst e;exact ⟨hrow,fun k' hk'=>hin k' ak⟩
      ·exact hall j ak,hs⟩,ak⟩
  ·refine .exit ?_
   refine xT (xT (xB (nT ?_)))
   refine .aj (.z zg (.nil ?_))
   refine .ret (Fin.bH Tryz.results145 rfl ?_)
   exact ⟨true,rfl,⟨fun _=>⟨hrows,fun j hj=>(hall j ak).1,fun j hj=>(hall j ak).2⟩,fun _=>rfl⟩,hs.out⟩
theorem fL{s:Spc}{vst vwa vh:Value}{rows:List (List Int)}{b:Nat}(hs:St H w σ)(h2:RI H vwa s.wa)(hr:RT H vh rows)(hh:iZ s rows)(hb:b≤s.many)(hbd:s.many≤1000000):
  Cl Tryz.prog 146 [.agg #[I s.id,I s.src,vst,vwa,I s.al,I s.up],.agg #[vh],I (b:Int)] w fun u w'=>u=I (hpt s (gt rows) b)∧St H w' σ:=by
 obtain ⟨awa,cwa,rfl⟩:=RI.shape h2
 obtain ⟨ah,ch,rfl⟩:=hr.shape
 have hrl:=hh.len
 by_cases hb0:b=0
 ·subst hb0
  refine Cl.o Tryz.func146 Tryz.ntmps146 ag3 ?_
  refine .aj ?_
  refine .bx hs fun b3 w hs=>?_
  refine .bx hs fun b4 w hs=>?_
  refine .z zg (.nil (.seq (.aj (.z zm (.z fo (.nil ?_))))))
  refine (.bB rfl (fun hc8=>?_) (fun hc8=>?_))
  ·refine .aj (.z zg (.nil ?_))
   refine .ret (rT (Fin.bH Tryz.results146 rfl ?_))
   exact ⟨rfl,hs.out⟩
  ·exact absurd hc8 bL
 have hm:b - 1<s.st.length*s.wa.length:=by unfold Spc.many at hb;omega
 have hw:0<s.wa.length:=by
  rcases Nat.eq_zero_or_pos s.wa.length with e|e
  ·rw [e,Nat.mul_zero] at hm;omega
  ·exact e
 have e0:(b:Int) - 1=((b - 1:Nat):Int):=by omega
 have e1:((b:Int) - 1).tdiv (s.wa.length:Int)=(((b - 1)/s.wa.length:Nat):Int):=by rw [e0];exact (Int.ofNat_tdiv _ _).symm
 have e2:((b:Int) - 1).tmod (s.wa.length:Int)=(((b - 1)%s.wa.length:Nat):Int):=by rw [e0];exact (Int.ofNat_tmod _ _).symm
 have hi:(b - 1)/s.wa.length<s.st.length:=Nat.div_lt_of_lt_mul (by rw [Nat.mul_comm];exact hm)
 have hk:=Nat.mod_lt (b - 1) hw
 have hrow:=hh.row _ hi
 have hpt':hpt s (gt rows) b=gi (gr rows ((b - 1)/s.wa.length)) ((b - 1)%s.wa.length):=by unfold hpt;rw [if_neg hb0];rfl
 have hd1:(b - 1)/s.wa.length≤1000000:=Nat.le_trans (Nat.div_le_self _ _) ak
 generalize (b - 1)/s.wa.length=i at*
 generalize (b - 1)%s.wa.length=k at*
 refine Cl.o Tryz.func146 Tryz.ntmps146 ag3 ?_
 refine .aj ?_
 refine .bx hs fun b3 w hs=>?_
 refine .bx hs fun b4 w hs=>?_
 refine .z zg (.nil (.seq (.aj (.z zm (.z fo (.nil ?_))))))
 refine (.bB rfl (fun hc8=>?_) (fun hc8=>?_))
 ·refine .aj (.z zg (.nil ?_))
  refine .ret (rT (Fin.bH Tryz.results146 rfl ?_))
  exact absurd hc8 ak
 ·refine .skip ?_
  refine nT ?_
  refine .seq (.draw mix rfl hs fun w hs=>?_)
  refine .z 0 rfl (zfa dz) ?_;refine .y 1 rfl hs ep ?_;refine .z 2 rfl zm ?_;refine .z 3 rfl gL ?_;refine .z 4 rfl (zfa aW) ?_;refine .y 5 rfl hs an ?_;refine .z 6 rfl (cB ae) ?_
  refine .z 7 rfl (te rfl rfl ak (by rw [e1];exact ⟨ak,ak⟩)) ?_
  rw [e1]
  refine .ixT (i:=8) hs rfl au .none hr rfl rfl aq az (show i<_ by omega) cD ?_;intro b17 o17 a17 c17 hc17 hR17
  refine .r (i:=9) hs rfl au .none (aJ rfl an hc17) ?_
  refine .z 10 rfl zm ?_;refine .z 11 rfl gL ?_;refine .z 12 rfl (zfa aW) ?_;refine .y 13 rfl hs an ?_;refine .z 14 rfl (cB ae) ?_;refine .z 15 rfl BQ ?_
  rw [e2]
  refine .ixX (enc:=fun x=>[I x]) (i:=16) hs rfl au .none hR17 rfl rfl ae ai (bn (l:=(gr rows i)) (i:=k) ak) cD ?_;intro b25 o25 hc25;replace hc25:=bu.one hc25
  refine .r (i:=17) hs rfl au .none (aJ rfl af hc25) ?_
  refine .z 18 rfl zg ?_;refine .D hs ?_
  refine .ret (Fin.bH Tryz.results146 rfl ?_)
  exact ⟨by rw [hpt'],hs.out⟩
theorem sX{s:Spc}{vst vwa vh:Value}{rows:List (List Int)}{l:Lim}(hs:St H w σ)(h1:RI H vst s.st)(h2:RI H vwa s.wa)(hr:RT H vh rows)(hok:fl s)(hh:iZ s rows)(hA:0≤l.A)(hB:0≤l.B):
  Cl Tryz.prog 147 [.agg #[I s.id,I s.src,vst,vwa,I s.al,I s.up],.agg #[vh],.agg #[I l.A,I l.B,I l.M,I l.S]] w fun u w'=>∃b:Bool,u= .bool b∧(b=true↔(l.A.toNat≤s.many→l.B.toNat≤s.many→hpt s (gt rows) l.B.toNat≤hpt s (gt rows) l.A.toNat+l.M))∧St H w' σ:=by
 obtain ⟨ast,cst,rfl⟩:=RI.shape h1
 obtain ⟨awa,cwa,rfl⟩:=RI.shape h2
 have hsm:=dW hok
 have hmm:s.many≤1000000:=by
  have:s.st.length*s.wa.length≤1000*1000:=Nat.mul_le_mul ak ak
  unfold Spc.many;omega
 have hbd:=fun b hb=>Bf (b:=b) hh hb
 obtain ⟨a,ha⟩:∃a:Nat,l.A=a:=⟨_,(Int.toNat_of_nonneg hA).symm⟩
 obtain ⟨b,hb⟩:∃b:Nat,l.B=b:=⟨_,(Int.toNat_of_nonneg hB).symm⟩
 rw [ha,hb,Int.toNat_natCast,Int.toNat_natCast]
 refine Cl.o Tryz.func147 Tryz.ntmps147 ag3 ?_
 refine .aj ?_
 refine .bx hs fun b3 w hs=>?_
 refine .bx hs fun b4 w hs=>?_
 refine .bx hs fun b5 w hs=>?_
 refine .z zg (.nil (.aj (.y hs (zls [_,_,_,_,_,_] aH aC) ?_)))
 refine .o (.call rh rfl (dJ (s:=s) hs h1 h2 ⟨ak,ak⟩) ?_);rintro _ w ⟨rfl,hs⟩
 refine .z zg (.nil (.seq (.aj (.z (zfa dE) (.y hs (zld af) (.z zm (.z kD (.z zm ?_))))))))
 refine .iD (t':=14) rfl (fun hb14=>?_) (fun hb14=>?_)
 ·refine .gFs 4 4 false rfl rfl rfl ?_
  refine .z zpT (.nil ?_)
  refine (.cT ?_)
  refine .aj (.z zg (.nil ?_))
  refine .ret (rT (Fin.bH Tryz.results147 rfl ?_))
  exact ⟨true,rfl,⟨fun _ g1 g2=>by omega,fun _=>rfl⟩,hs.out⟩
 ·refine .gT rfl rfl ?_
  refine .z (zfa dP) ?_
  refine .gT rfl rfl ?_
  refine .y hs (zld af) ?_
  refine .gT rfl rfl ?_
  refine .z zm ?_
  refine .gT rfl rfl ?_
  refine .z kD (.z zpF (.nil ?_))
  refine (.bB rfl (fun hc19=>?_) (fun hc19=>?_))
  ·refine .aj (.z zg (.nil ?_))
   refine .ret (rT (Fin.bH Tryz.results147 rfl ?_))
   exact ⟨true,rfl,⟨fun _ g1 g2=>by omega,fun _=>rfl⟩,hs.out⟩
  ·refine .skip ?_
   refine nT ?_
   refine .seq (.draw mix rfl hs fun w hs=>?_)
   refine .ys 0 rfl hs [_,_,_,_,_,_] aH aC ?_;refine .ys 1 rfl hs [_] eR c9 ?_;refine .z 2 rfl (zfa dP) ?_;refine .y 3 rfl hs af ?_;refine .ys 5 rfl hs [_,_,_,_,_,_] aH aC ?_;refine .ys 6 rfl hs [_] eR c9 ?_;refine .z 7 rfl (zfa dE) ?_;refine .y 8 rfl hs af ?_;refine .z 11 rfl (zfa eX) ?_;refine .y 12 rfl hs af ?_
   refine .E 4 hs ?_
   have hb1:=hbd b ak
   have ha1:=hbd a ak
   refine .call Ge rfl (fL (s:=s) (b:=b) hs h2 hr hh ak hmm) ?_;rintro _ w ⟨rfl,hs⟩
   refine .go ?_
   refine .E 9 hs ?_
   refine .call Ge rfl (fL (s:=s) (b:=a) hs h2 hr hh ak hmm) ?_;rintro _ w ⟨rfl,hs⟩
   refine .go ?_
   refine .z 10 rfl gL ?_;refine .z 13 rfl wh ?_;refine .z 14 rfl zg ?_;refine .D hs ?_
   refine .ret (Fin.bH Tryz.results147 rfl ?_)
   exact ⟨_,rfl,by rw [decide_eq_true_eq];exact ⟨fun g _ _=>by omega,fun g=>by have:=g ak ak;omega⟩,hs.out⟩
set_option maxHeartbeats 1000000 in
theorem rJ{s:Spc}{q:Wht}{vst vwa vh:Value}{rows:List (List Int)}(hs:St H w σ)(h1:RI H vst s.st)(h2:RI H vwa s.wa)(hr:RT H vh rows):
  Cl Tryz.prog 62 [.agg #[I s.id,I s.src,vst,vwa,I s.al,I s.up],.agg #[vh],.agg #[I q.kind,I q.st,I q.wa]] w fun u w'=>∃H1 n e,HLe H H1∧u= .tuple #[I n,I e]∧rZ s rows q n e∧St H1 w' σ:=by
 obtain ⟨ast,cst,rfl⟩:=RI.shape h1
 obtain ⟨awa,cwa,rfl⟩:=RI.shape h2
 obtain ⟨ah,ch,rfl⟩:=hr.shape
 refine Cl.o Tryz.func62 Tryz.ntmps62 ag3 ?_
 refine .aj ?_
 refine .bx hs fun b3 w hs=>?_
 refine .bx hs fun b4 w hs=>?_
 refine .bx hs fun b5 w hs=>?_
 refine .z zg (.z zg (.nil (.seq (.aj (.y hs (zls [_,_,_,_,_,_] aH aC) ?_)))))
 refine .o (.call Tryz.call24 rfl (gz (s:=s) hs h1 h2) ?_);rintro _ w ⟨e,rfl,he,hs⟩
 refine .z gx (.nil ?_)
 refine (.eH rfl (fun hc14=>?_) (fun hc14=>?_))
 ·refine .aj (.z zg (.z zg (.nil ?_)))
  refine .ret (rT (Fin.lq Tryz.results62 rfl rfl ?_))
  have hq:¬fl s∧e=30:=he.resolve_left fun h=>hc14 h.2
  exact ⟨H,_,_,HLe.refl H,rfl,.space hq.1,hs.out⟩
 ·refine .skip ?_
  refine nT ?_
  refine .seq (.aj (.y hs (zls [_,_,_,_,_,_] aH aC) (.y hs (zls [_] eR c9) ?_)))
  have hok:fl s:=(he.resolve_right fun h=>by omega).1
  have hsm:=dW hok
  refine .o (.call Tryz.call145 rfl (lM (s:=s) hs h1 h2 hr) ?_);rintro _ w ⟨b17,rfl,hb17,hs⟩
  refine .z gV (.nil ?_)
  refine (.cond rfl (fun hc18=>?_) (fun hc18=>?_))
  ·refine .aj (.z zg (.z zg (.nil ?_)))
   refine .ret (rT (Fin.lq Tryz.results62 rfl rfl ?_))
   exact ⟨H,_,_,HLe.refl H,rfl,.hull hok (fun h=>by rw [hb17.2 h] at hc18;cases hc18),hs.out⟩
  ·refine .skip ?_
   refine nT ?_
   refine .seq (.aj (.y hs (zls [_,_,_,_,_,_] aH aC) (.y hs (zls [_,_,_] cJ bA) ?_)))
   have hh:iZ s rows:=hb17.1 (by simpa using hc18)
   refine .o (.call Tryz.call112 rfl (lI (s:=s) (q:=q) hs h1 h2) ?_);rintro _ w ⟨b21,rfl,hb21,hs⟩
   refine .z gV (.nil ?_)
   refine (.cond rfl (fun hc22=>?_) (fun hc22=>?_))
   ·refine .aj (.z zg (.z zg (.nil ?_)))
    refine .ret (rT (Fin.lq Tryz.results62 rfl rfl ?_))
    exact ⟨H,_,_,HLe.refl H,rfl,.what hok hh (fun h=>by rw [hb21.2 h] at hc22;cases hc22),hs.out⟩
   ·refine .skip ?_
    refine nT ?_
    refine .aj (.y hs (zls [_,_,_,_,_,_] aH aC) (.y hs (zls [_,_,_] cJ bA) ?_))
    have hq:fk s q:=hb21.1 (by simpa using hc22)
    have hmm:s.many≤1000000:=by
     have:s.st.length*s.wa.length≤1000*1000:=Nat.mul_le_mul ak ak
     unfold Spc.many;omega
    have hwl:=eJ s q
    have hwz:=lr hok hq
    refine .o (.call Tryz.call113 rfl (lG (s:=s) (q:=q) hs h1 h2 hok hq) ?_);rintro _ w ⟨H1,vl,en,hle1,rfl,hO,hs⟩
    obtain ⟨H2,hle2,hW,hs⟩:=cf.de hO ak hs cP
    obtain ⟨aw,cw,rfl⟩:=RI.shape hW
    have hle02:=hle1.trans hle2
    replace h1:=h1.mono hle02
    replace h2:=h2.mono hle02
    replace hr:=hr.mono hle02
    refine .z zm (.z zex (.z zex (.z zg (.z zg (.nil (.aj (.z zg (.nil (.seq ?_)))))))))
    refine .aj (.z zg (.nil (.block ?_)))
    refine .loop (fun p:Nat=>⟨49,[],[(11,I ((p+1:Nat):Int)),(10,I (fX s q rows p)),(9,I (my q)),(8,.slice aw (jT s q).length cw),(4,.pointer (some ⟨b4,0,none⟩)),(3,.pointer (some ⟨b3,0,none⟩))]⟩)
     (fun p w=>p≤s.many∧St H2 w (.blk b5 [I q.kind,I q.st,I q.wa]:: .blk b4 [.slice ah rows.length ch]:: .blk b3 [I s.id,I s.src,.slice ast s.st.length cst,.slice awa s.wa.length cwa,I s.al,I s.up]::σ)) (fun p=>s.many - p) 0 aR
     ⟨Nat.zero_le _,hs⟩ ?_
    clear hs hO
    rintro p w ⟨hp,hs⟩
    refine .seq (.aj (.z zm (.z zm (.z (cB ae) (.z fH (.nil ?_))))))
    refine (.bB rfl (fun hc32=>?_) (fun hc32=>?_))
    ·refine .skip ?_
     refine nT ?_
     refine .seq (.block ?_)
     refine .draw mix rfl hs fun w hs=>?_
     refine .z 0 rfl zm ?_;refine .z 1 rfl zm ?_;refine .z 2 rfl zm ?_
     have hpm:p<s.many:=by omega
     have hsucc:fX s q rows (p+1)=fX s q rows p+gi (jT s q) (p+1)*hpt s (gt rows) (p+1):=rfl
     have hb0:=jf hok hq hh p ak
     have hb1:=jf hok hq hh (p+1) ak
     have hwz2:=gM (jT s q) (v:=p+1) (n:=s.many+1) ak
     have hnum:=Bf (b:=p+1) hh ak
     have hprd:=kr (a:=gi (jT s q) (p+1)) (b:=hpt s (gt rows) (p+1)) (A:=3456000000000) (B:=20000) ak ak
     refine .ixX (enc:=fun x=>[I x]) (i:=3) hs rfl au .none hW rfl rfl ae ai (bn (l:=(jT s q)) (i:=(p+1)) ak) cD ?_;intro b38 o38 hc38;replace hc38:=bu.one hc38
     refine .r (i:=4) hs rfl au .none (aJ rfl af hc38) ?_
     refine .ys 5 rfl hs [_,_,_,_,_,_] aH aC ?_;refine .ys 6 rfl hs [_] eR c9 ?_;refine .z 7 rfl zm ?_
     refine .E 8 hs ?_
     refine .call Ge rfl (fL (s:=s) (b:=p+1) hs h2 hr hh ak hmm) ?_;rintro _ w ⟨rfl,hs⟩
     refine .go ?_
     refine .z 9 rfl jS ?_;refine .z 10 rfl ck ?_;refine .z 11 rfl zg ?_;refine .D hs ?_
     refine nB (nT ?_)
     refine .region (.z zm (.z ck (.z zg (.nil ?_))))
     refine nT ?_
     exact ⟨p+1,.bU rfl bL (.bU rfl (by rw [hsucc]) aR),⟨ak,hs⟩,ak⟩
    ·refine .exit ?_
     refine xT (xT (xB (nT ?_)))
     refine .aj (.z zm (.z zm ?_))
     obtain rfl:p=s.many:=by omega
     have hbd:=jf hok hq hh s.many ak
     have hdp:=ss q
     refine .o (.call Tryz.call78 rfl (kn hs ak ak) ?_);rintro _ w ⟨rfl,hs⟩
     refine .z zg (.z zg (.nil ?_))
     refine .ret (Fin.lq Tryz.results62 rfl rfl ?_)
     exact ⟨H2,_,_,hle02,rfl,.ok hok hh hq,hs.out⟩
set_option maxHeartbeats 4000000 in
theorem nV{s:Srv}{rows:List (List Int)}{vst vwa vr vc vh:Value}(hs:St H w σ)(h1:RI H vst s.sp.st)(h2:RI H vwa s.sp.wa)(h3:RRd H vr s.rs)(h4:RCm H vc s.cs)(hh:RT H vh rows):
  Cl Tryz.prog 64 [.agg #[I s.sp.id,I s.sp.src,vst,vwa,I s.sp.al,I s.sp.up,vr,vc],.agg #[vh]] w fun u w'=>∃H1 e,HLe H H1∧u=I e∧C8 s rows e∧St H1 w' σ:=by
 obtain ⟨ast,cst,rfl⟩:=RI.shape h1
 obtain ⟨awa,cwa,rfl⟩:=RI.shape h2
 obtain ⟨ar,cr,rfl⟩:=RRd.shape h3
 obtain ⟨ac,cc,rfl⟩:=RCm.shape h4
 obtain ⟨ah,ch,rfl⟩:=hh.shape
 refine Cl.o Tryz.func64 Tryz.ntmps64 ag2 ?_
 refine .aj ?_
 refine .bx hs fun b2 w hs=>?_
 refine .bx hs fun b3 w hs=>?_
 refine .z zg (.nil (.aj (.y hs (zls [_,_,_,_,_,_,_,_] aP aE) ?_)))
 refine .o (.call Tryz.call43 rfl (mn (s:=s) hs h1 h2 h3 h4) ?_);rintro _ w ⟨H1,e,hle1,rfl,hC,hs⟩
 refine .z zg (.nil (.seq (.aj (.z zm (.z gx (.nil ?_))))))
 refine (.eH rfl (fun hc17=>?_) (fun hc17=>?_))
 ·refine .aj (.z zm (.z zg (.nil ?_)))
  refine .ret (rT (Fin.bH Dc rfl ?_))
  exact ⟨H1,_,hle1,rfl,.bad hC hc17,hs.out⟩
 ·refine .skip ?_
  refine nT ?_
  refine .aj (.z (zfa aO) (.y hs (zls [_,_,_,_,_,_] aH aC) ?_))
  refine .o (.alloc hs gK rfl fun b6 w hs=>?_)
  refine .o (.aZ (vs:=[_,_,_,_,_,_]) hs rfl rfl aC fun w hs=>?_)
  refine .nil (.seq (.aj (.y hs (zls [_,_,_,_,_,_] aH aC) (.y hs (zls [_] eR c9) ?_))))
  have hok:eh s:=hC.cu.1 (by simpa using hc17)
  have hsm:=dW hok.early.1
  have hrl:=hok.early.2.1
  refine .o (.call Tryz.call145 rfl (lM (s:=s.sp) hs (h1.mono hle1) (h2.mono hle1) (hh.mono hle1)) ?_);rintro _ w ⟨b23,rfl,hb23,hs⟩
  refine .z gV (.nil ?_)
  refine (.cond rfl (fun hc24=>?_) (fun hc24=>?_))
  ·refine .aj (.z zg (.nil ?_))
   refine .ret (rT (Fin.bH Dc rfl ?_))
   exact ⟨H1,_,hle1,rfl,.hull hok (fun h=>by rw [hb23.2 h] at hc24;cases hc24),hs.out⟩
  ·refine .skip ?_
   refine nT ?_
   refine .aj (.y hs (zls [_,_,_,_,_,_,_,_] aP aE) ?_)
   have hhull:iZ s.sp rows:=hb23.1 (by simpa using hc24)
   have hll:=hok.bP
   have hmm:s.sp.many≤64:=by have:=hok.many;omega
   refine .o (.call Tryz.call111 rfl (jI (s:=s) hs (h1.mono hle1) (h2.mono hle1) (h3.mono hle1) (h4.mono hle1) hok.early) ?_);rintro v26 w ⟨H2,en,hle2,hO,hs⟩
   obtain ⟨H3,hle3,hL,hs⟩:=cf.cq (m:=4) (cs:=s.bP.map Lim.c) hO (fun c hc=>by simp only [List.mem_map] at hc;obtain ⟨x,_,rfl⟩:=hc;rfl) ak (by rw [List.length_map];omega) hs .here
   replace hL:RL H3 v26 s.bP:=hL
   obtain ⟨al,cl,rfl⟩:=RL.shape hL
   have hle03:=hle1.trans (hle2.trans hle3)
   replace h1:=h1.mono hle03
   replace h2:=h2.mono hle03
   replace h3:=h3.mono hle03
   replace h4:=h4.mono hle03
   replace hh:=hh.mono hle03
   have hbd:=fun b hb=>Bf (b:=b) hhull hb
   have hlim:=fun l hl=>hok.sys.lim l hl
   refine .z zg (.nil (.aj (.y hs (zls [_,_,_,_,_,_] aH aC) ?_)))
   refine .o (.call rh rfl (dJ (s:=s.sp) hs h1 h2 ⟨ak,ak⟩) ?_);rintro _ w ⟨rfl,hs⟩
   refine .z zg (.nil (.seq (.aj (.z zg (.nil (.block ?_))))))
   refine .loop (fun k:Nat=>⟨112,[],[(9,I (k:Int)),(8,I (s.sp.many:Int)),(7,.slice al s.bP.length cl),(6,.pointer (some ⟨b6,0,none⟩)),(3,.pointer (some ⟨b3,0,none⟩)),(2,.pointer (some ⟨b2,0,none⟩))]⟩)
    (fun k w=>k≤s.bP.length∧(∀l∈s.bP.take k,l.A.toNat≤s.sp.many→l.B.toNat≤s.sp.many→hpt s.sp (gt rows) l.B.toNat≤hpt s.sp (gt rows) l.A.toNat+l.M)∧St H3 w (.blk b6 [I s.sp.id,I s.sp.src,.slice ast s.sp.st.length cst,.slice awa s.sp.wa.length cwa,I s.sp.al,I s.sp.up]:: .blk b3 [.slice ah rows.length ch]:: .blk b2 [I s.sp.id,I s.sp.src,.slice ast s.sp.st.length cst,.slice awa s.sp.wa.length cwa,I s.sp.al,I s.sp.up,.slice ar s.rs.length cr,.slice ac s.cs.length cc]::σ)) (fun k=>s.bP.length - k) 0 aR
    ⟨Nat.zero_le _,bL,hs⟩ ?_
   clear hs hO
   rintro k w ⟨hk,hin,hs⟩
   refine .seq (.aj (.z zm (.z zm (.z (cB aI) (.z fH (.nil ?_))))))
   refine (.bB rfl (fun hc32=>?_) (fun hc32=>?_))
   ·refine .skip ?_
    refine nT ?_
    refine .seq (.block ?_)
    refine .seq (.draw mix rfl hs fun w hs=>?_)
    refine .ys 0 rfl hs [_,_,_,_,_,_] aH aC ?_;refine .ys 1 rfl hs [_] eR c9 ?_;refine .z 2 rfl zm ?_;refine .z 3 rfl zm ?_
    obtain ⟨l,hx⟩:=nth (l:=s.bP) (k:=k) ak
    have hlm:=List.mem_of_getElem? hx
    obtain ⟨⟨gA,gB⟩,hsd⟩:=lT hok.early hlm
    refine .ixX (enc:=Lim.c) (i:=4) hs rfl au .none hL rfl rfl aI aS hx cD ?_;intro b39 o39 hc39
    refine .r (i:=5) hs rfl au .none (cI (vs:=l.c) rfl fj aS hc39) ?_
    refine .E 6 hs ?_
    refine .call Tryz.call147 rfl (sX (s:=s.sp) (l:=l) hs h1 h2 hh hok.early.1 hhull gA gB) ?_;rintro _ w ⟨b41,rfl,hb41,hs⟩
    refine .go ?_
    refine .z 7 rfl gV ?_;refine .D hs ?_
    refine (.cond rfl (fun hc42=>?_) (fun hc42=>?_))
    ·refine .aj (.z zg (.nil ?_))
     refine .ret (rB (rT (rT (rB (rT (Fin.bH Dc rfl ?_))))))
     exact ⟨H3,_,hle03,rfl,.no hok hhull (fun h=>by
      rw [hb41.2 (((tm hok.early).1 h).1 l hlm)] at hc42;cases hc42),hs.out⟩
    ·refine .skip ?_
     refine nB (nT ?_)
     refine .region (.z zm (.z ck (.z zg (.nil ?_))))
     refine nT ?_
     exact ⟨k+1,.bU rfl bL aR,⟨ak,fun y hy=>by
      rw [dh hx] at hy
      simp only [List.mem_append,List.mem_singleton] at hy
      rcases hy with hy|rfl
      ·exact hin y hy
      ·exact hb41.1 (by simpa using hc42),hs⟩,ak⟩
   ·refine .exit ?_
    refine xT (xT (xB (nT ?_)))
    refine .seq (.aj (.z zg (.nil (.block ?_))))
    obtain rfl:k=s.bP.length:=by omega
    rw [List.take_length] at hin
    have hInner:Ab s (hpt s.sp (gt rows)):=hin
    refine .loop (fun j:Nat=>⟨112,[],[(10,I (j:Int)),(8,I (s.sp.many:Int)),(7,.slice al s.bP.length cl),(6,.pointer (some ⟨b6,0,none⟩)),(3,.pointer (some ⟨b3,0,none⟩)),(2,.pointer (some ⟨b2,0,none⟩))]⟩)
     (fun j w=>j≤s.bq.length∧(∀i<j,uJ (hpt s.sp (gt rows)) (s.sp.many+1+i:Nat) s.bP≤nk (hpt s.sp (gt rows)) (s.sp.many+1+i:Nat) s.bP)∧St H3 w (.blk b6 [I s.sp.id,I s.sp.src,.slice ast s.sp.st.length cst,.slice awa s.sp.wa.length cwa,I s.sp.al,I s.sp.up]:: .blk b3 [.slice ah rows.length ch]:: .blk b2 [I s.sp.id,I s.sp.src,.slice ast s.sp.st.length cst,.slice awa s.sp.wa.length cwa,I s.sp.al,I s.sp.up,.slice ar s.rs.length cr,.slice ac s.cs.length cc]::σ)) (fun j=>s.bq.length - j) 0 aR
     ⟨Nat.zero_le _,fun i hi=>by omega,hs⟩ ?_
    clear hs hin
    rintro j w ⟨hj,hlow,hs⟩
    refine .seq (.aj (.z zm (.z (zfa aM) (.y hs (zld bj) ?_))))
    refine .o (.call wv rfl (m7 hs h3 ak) ?_);rintro v46 w ⟨en46,hO46,hs⟩
    replace hO46:cf 2 v46 (tdc s.bq).flatten en46:=hO46
    obtain ⟨a46,c46,rfl⟩:=hO46.jV (kE _) ak
    rw [dr]
    have htl:=hok.many
    refine .z (cB aU) (.z fH (.nil ?_))
    refine (.bB rfl (fun hc48=>?_) (fun hc48=>?_))
    ·refine .skip ?_
     refine nT ?_
     refine .seq (.block (.aj (.z zg (.nil (.aj (.z zg (.nil (.seq (.aj ?_)))))))))
     refine .z zg (.nil (.block ?_))
     refine .loop (fun p:Nat×Int×Int=>⟨112,[],[(13,I (p.1:Int)),(12,I p.2.2),(11,I p.2.1),(10,I (j:Int)),(8,I (s.sp.many:Int)),(7,.slice al s.bP.length cl),(6,.pointer (some ⟨b6,0,none⟩)),(3,.pointer (some ⟨b3,0,none⟩)),(2,.pointer (some ⟨b2,0,none⟩))]⟩)
      (fun p w=>p.1≤s.bP.length∧p.2.1=uJ (hpt s.sp (gt rows)) (s.sp.many+1+j:Nat) (s.bP.take p.1)∧p.2.2=nk (hpt s.sp (gt rows)) (s.sp.many+1+j:Nat) (s.bP.take p.1)∧St H3 w (.blk b6 [I s.sp.id,I s.sp.src,.slice ast s.sp.st.length cst,.slice awa s.sp.wa.length cwa,I s.sp.al,I s.sp.up]:: .blk b3 [.slice ah rows.length ch]:: .blk b2 [I s.sp.id,I s.sp.src,.slice ast s.sp.st.length cst,.slice awa s.sp.wa.length cwa,I s.sp.al,I s.sp.up,.slice ar s.rs.length cr,.slice ac s.cs.length cc]::σ)) (fun p=>s.bP.length - p.1) (0,-1000,1000) aR
      ⟨Nat.zero_le _,rfl,rfl,hs.sb⟩ ?_
     clear hs hO46
     rintro ⟨k,lo,hi⟩ w ⟨hk,hlo0,hhi0,hs⟩
     dsimp only at hk hlo0 hhi0 hs ⊢
     subst hlo0;subst hhi0
     refine .seq (.aj (.z zm (.z zm (.z (cB aI) (.z fH (.nil ?_))))))
     refine (.bB rfl (fun hc54=>?_) (fun hc54=>?_))
     ·refine .skip ?_
      refine nT ?_
      refine .seq (.block ?_)
      refine .cut (fun fs w=>∃hi',kg fs ⟨112,[],[(13,I (k:Int)),(12,I hi'),(11,I (uJ (hpt s.sp (gt rows)) (s.sp.many+1+j:Nat) (s.bP.take k))),(10,I (j:Int)),(8,I (s.sp.many:Int)),(7,.slice al s.bP.length cl),(6,.pointer (some ⟨b6,0,none⟩)),(3,.pointer (some ⟨b3,0,none⟩)),(2,.pointer (some ⟨b2,0,none⟩))]⟩∧hi'=nk (hpt s.sp (gt rows)) (s.sp.many+1+j:Nat) (s.bP.take (k+1))∧St H3 w (.blk b6 [I s.sp.id,I s.sp.src,.slice ast s.sp.st.length cst,.slice awa s.sp.wa.length cwa,I s.sp.al,I s.sp.up]:: .blk b3 [.slice ah rows.length ch]:: .blk b2 [I s.sp.id,I s.sp.src,.slice ast s.sp.st.length cst,.slice awa s.sp.wa.length cwa,I s.sp.al,I s.sp.up,.slice ar s.rs.length cr,.slice ac s.cs.length cc]::σ)) ?_ ?_
      ·refine .aj (.z zm (.z zm ?_))
       obtain ⟨l,hx⟩:=nth (l:=s.bP) (k:=k) ak
       have hlm:=List.mem_of_getElem? hx
       obtain ⟨⟨gA,gB⟩,hsd⟩:=lT hok.early hlm
       have hM:=(hlim l hlm).2.2.2.1
       obtain ⟨eA,hA⟩:∃a:Nat,l.A=a:=⟨_,(Int.toNat_of_nonneg gA).symm⟩
       obtain ⟨eB,hB⟩:∃b:Nat,l.B=b:=⟨_,(Int.toNat_of_nonneg gB).symm⟩
       have hA1:l.A.toNat=eA:=by rw [hA,Int.toNat_natCast]
       have hB1:l.B.toNat=eB:=by rw [hB,Int.toNat_natCast]
       rw [hA1,hB1] at hsd
       refine .ixX (enc:=Lim.c) hs hL rfl rfl aI aS hx cD ?_;intro b59 o59 hc59
       refine .z (zfa dP) ?_
       refine .q hs (aJ rfl af (hc59.get 1 rfl)) ?_
       refine .z zm (.z ck (.z zm (.z ck (.z fo (.nil ?_)))))
       refine (.bB rfl (fun hc66=>?_) (fun hc66=>?_))
       ·refine .draw mix rfl hs fun w hs=>?_
        refine .z 0 rfl zm ?_;refine .ys 1 rfl hs [_,_,_,_,_,_] aH aC ?_;refine .ys 2 rfl hs [_] eR c9 ?_;refine .z 3 rfl zm ?_;refine .z 4 rfl zm ?_
        refine .ixX (enc:=Lim.c) (i:=5) hs rfl au .none hL rfl rfl aI aS hx cD ?_;intro b72 o72 hc72
        have q72:=hc72.get 0 rfl
        refine .z 6 rfl (zfa dE) ?_;refine .y 7 rfl hs af ?_;refine .z 9 rfl zm ?_;refine .z 10 rfl zm ?_
        refine .ixX (enc:=Lim.c) (i:=11) hs rfl au .none hL rfl rfl aI aS hx cD ?_;intro b78 o78 hc78
        have q78:=hc78.get 2 rfl
        refine .z 12 rfl (zfa eX) ?_;refine .y 13 rfl hs af ?_
        refine .E 8 hs ?_
        have hbA:=hbd eA ak
        rw [hA]
        refine .call Ge rfl (fL (s:=s.sp) (b:=eA) hs h2 hh hhull ak ak) ?_;rintro _ w ⟨rfl,hs⟩
        refine .go ?_
        refine .z 14 rfl ck ?_;refine .z 15 rfl zr ?_;refine .z 16 rfl zg ?_;refine .D hs ?_
        refine nT ?_
        exact ⟨_,aR,by rw [dh hx,qT,if_pos ak,hA1],hs⟩
       ·refine .skip ?_
        refine nT ?_
        exact ⟨_,aR,by rw [dh hx,qT,if_neg ak],hs⟩
      ·clear hs
       rintro fs w ⟨hi',hfs,hhi,hs⟩
       refine WE.sub ?_ hfs
       clear hfs
       obtain ⟨l,hx⟩:=nth (l:=s.bP) (k:=k) ak
       have hlm:=List.mem_of_getElem? hx
       obtain ⟨⟨gA,gB⟩,hsd⟩:=lT hok.early hlm
       have hM:=(hlim l hlm).2.2.2.1
       obtain ⟨eA,hA⟩:∃a:Nat,l.A=a:=⟨_,(Int.toNat_of_nonneg gA).symm⟩
       obtain ⟨eB,hB⟩:∃b:Nat,l.B=b:=⟨_,(Int.toNat_of_nonneg gB).symm⟩
       have hA1:l.A.toNat=eA:=by rw [hA,Int.toNat_natCast]
       have hB1:l.B.toNat=eB:=by rw [hB,Int.toNat_natCast]
       rw [hA1,hB1] at hsd
       refine .aj (.z zm (.z zm ?_))
       refine .ixX (enc:=Lim.c) hs hL rfl rfl aI aS hx cD ?_;intro b85 o85 hc85
       refine .z (zfa dE) ?_
       refine .q hs (aJ rfl af (hc85.get 0 rfl)) ?_
       refine .z zm (.z ck (.z zm (.z ck (.z fo (.nil ?_)))))
       refine (.bB rfl (fun hc92=>?_) (fun hc92=>?_))
       ·refine .draw mix rfl hs fun w hs=>?_
        refine .z 0 rfl zm ?_;refine .ys 1 rfl hs [_,_,_,_,_,_] aH aC ?_;refine .ys 2 rfl hs [_] eR c9 ?_;refine .z 3 rfl zm ?_;refine .z 4 rfl zm ?_
        refine .ixX (enc:=Lim.c) (i:=5) hs rfl au .none hL rfl rfl aI aS hx cD ?_;intro b98 o98 hc98
        have q98:=hc98.get 1 rfl
        refine .z 6 rfl (zfa dP) ?_;refine .y 7 rfl hs af ?_;refine .z 9 rfl zm ?_;refine .z 10 rfl zm ?_
        refine .ixX (enc:=Lim.c) (i:=11) hs rfl au .none hL rfl rfl aI aS hx cD ?_;intro b104 o104 hc104
        have q104:=hc104.get 2 rfl
        refine .z 12 rfl (zfa eX) ?_;refine .y 13 rfl hs af ?_
        refine .E 8 hs ?_
        have hbB:=hbd eB ak
        rw [hB]
        refine .call Ge rfl (fL (s:=s.sp) (b:=eB) hs h2 hh hhull ak ak) ?_;rintro _ w ⟨rfl,hs⟩
        refine .go ?_
        refine .z 14 rfl gL ?_;refine .z 15 rfl Dd ?_;refine .z 16 rfl zg ?_;refine .D hs ?_
        refine nB (nT ?_)
        refine .region (.z zm (.z ck (.z zg (.nil ?_))))
        refine nT ?_
        exact ⟨(k+1,_,hi'),.bU rfl bL aR,⟨by dsimp only;omega,by dsimp only;rw [dh hx,tj,if_pos ak,hB1],hhi,hs⟩,by dsimp only;omega⟩
       ·refine .skip ?_
        refine nB (nT ?_)
        refine .region (.z zm (.z ck (.z zg (.nil ?_))))
        refine nT ?_
        exact ⟨(k+1,uJ (hpt s.sp (gt rows)) (s.sp.many+1+j:Nat) (s.bP.take k),hi'),.bU rfl bL aR,⟨by dsimp only;omega,by dsimp only;rw [dh hx,tj,if_neg ak],hhi,hs⟩,by dsimp only;omega⟩
     ·refine .exit ?_
      refine xT (xT (xB (nT ?_)))
      refine .aj (.z zm (.z zm (.z kD (.nil ?_))))
      refine (.bB rfl (fun hc111=>?_) (fun hc111=>?_))
      ·refine .aj (.z zg (.nil ?_))
       refine .ret (rB (rT (rT (rB (rT (Fin.bH Dc rfl ?_))))))
       obtain rfl:k=s.bP.length:=by omega
       rw [List.take_length] at hc111
       exact ⟨H3,_,hle03,rfl,.no hok hhull (fun h=>by
        have:=((tm hok.early).1 h).2 j ak
        omega),hs.out⟩
      ·refine .skip ?_
       refine nB (nT ?_)
       refine .region (.z zm (.z ck (.z zg (.nil ?_))))
       refine nT ?_
       obtain rfl:k=s.bP.length:=by omega
       rw [List.take_length] at hc111
       exact ⟨j+1,.bU rfl bL aR,⟨ak,fun i hi=>by
        by_cases e:i=j
        ·subst e;exact Int.not_lt.1 hc111
        ·exact hlow i ak,hs⟩,ak⟩
    ·refine .exit ?_
     refine xT (xT (xB (nT ?_)))
     refine .aj (.z zg (.nil ?_))
     refine .ret (Fin.bH Dc rfl ?_)
     exact ⟨H3,_,hle03,rfl,.ok hok hhull ((tm hok.early).2 ⟨hInner,fun i hi=>hlow i ak⟩),hs.out⟩
end Go.Proofs.YtddaejgfjlneoaaGreat
namespace Go.Proofs.YtddaejgfjlneoaaGreat
open Go.MW
theorem C4{v:Srv}(h:eh v){q:Wht}(hq:fk v.sp q)(high:Bool):dZ v.sys (vS (v.w q) high)=0:=by
 unfold vS;split
 ·exact h.ask hq
 ·rw [nP];exact h.ask hq
theorem js{w:World}{H:bX}{σ:List Ent}{x:Int}(hs:St H w σ)(hx: -3456000000000≤x∧x≤3456000000000):
  Cl Tryz.prog 217 [I x] w fun v w'=>v=I (-x)∧St H w' σ:=by
 refine Cl.o Tryz.func217 Tryz.ntmps217 ag1 ?_
 refine .aj (.z zg (.nil (.aj (.z zm (.z xr (.z zg (.nil ?_)))))))
 refine .ret (Fin.bH Tryz.results217 rfl ?_)
 exact ⟨rfl,hs.out⟩
theorem jr{w:World}{H:bX}{σ:List Ent}{x:Int}(hs:St H w σ):
  Cl Tryz.prog 218 [I x] w fun v w'=>v=I x∧St H w' σ:=by
 refine Cl.o Tryz.func218 Tryz.ntmps218 ag1 ?_
 refine .aj (.z zg (.nil (.aj (.z zm (.z zg (.nil ?_))))))
 refine .ret (Fin.bH Tryz.results218 rfl ?_)
 exact ⟨rfl,hs.out⟩
theorem Bq{high:Bool}{L:List Int}{x:Int}{k:Nat}(hx:L[k]? =some x):vS (L.take k) high++[if high then x else -x]=vS (L.take (k+1)) high:=by
 rw [dh hx]
 unfold vS pX
 cases high<;>simp
theorem tA{high:Bool}{L:List Int}:(vS L high).length=L.length:=by unfold vS pX;split<;>simp
theorem kb{w:World}{H:bX}{σ:List Ent}{m d:Int}{ul vw:Value}{L:List Int}{high:Bool}(hs:St H w σ)(hR:RI H vw L)(hb:∀i,-3456000000000≤gi L i∧gi L i≤3456000000000)(hl:L.length≤1000):
  Cl Tryz.prog 153 [.agg #[I m,ul,vw,I d],.bool high] w fun v w'=>∃H1,HLe H H1∧RI H1 v (vS L high)∧St H1 w' σ:=by
 obtain ⟨aw,cw,rfl⟩:=RI.shape hR
 refine Cl.o Tryz.func153 Tryz.ntmps153 ag2 ?_
 refine .aj ?_
 refine .bx hs fun b2 w hs=>?_
 refine .z zg (.nil (.aj (.z zg (.nil ?_))))
 refine .cut (fun fs w=>∃f,kg fs ⟨25,[],[(5,.func (.func f) #[] #[]),(2,.pointer (some ⟨b2,0,none⟩))]⟩∧(∀args w,(callFunc f args).run Tryz.prog w= .ok (.enter f args) w)∧(∀{σ:List Ent} {w:World} {x:Int},St H w σ→-3456000000000≤x∧x≤3456000000000→Cl Tryz.prog f [I x] w fun v w'=>v=I (if high then x else -x)∧St H w' σ)∧St H w (.blk b2 [I m,ul,.slice aw L.length cw,I d]::σ)) ?_ ?_
 ·refine .aj (.z zm (.nil ?_))
  refine (.cond rfl (fun hc9=>?_) (fun hc9=>?_))
  ·refine .region (.z zg (.nil ?_))
   refine nT ?_
   subst hc9
   exact ⟨218,aR,Tryz.call218,fun hs hx=>(jr hs).mono fun v w' h=>h,hs⟩
  ·refine .skip ?_
   refine nT ?_
   obtain rfl:high=false:=by simpa using hc9
   exact ⟨217,aR,Tryz.call217,fun hs hx=>(js hs hx).mono fun v w' h=>h,hs⟩
 ·clear hs
  rintro fs w ⟨f,hfs,hcf,hsp,hs⟩
  refine WE.sub ?_ hfs
  clear hfs
  refine .aj (.z zg (.nil (.seq (.aj (.z (zfa jy) (.y hs (zld an) (.z (cB ae) (.z zm (.nil ?_)))))))))
  refine .for (N:=L.length) (J:=fun k fr w=>∃vo en,fr=[(11,.slice aw L.length cw),(6,vo),(5,.func (.func f) #[] #[]),(2,.pointer (some ⟨b2,0,none⟩))]∧cf 1 vo (Is (vS (L.take k) high)) en∧St H w (en:: .blk b2 [I m,ul,.slice aw L.length cw,I d]::σ)) ak ?_ ?_ ?_
  ·exact .mk ⟨_,_,rfl,by have:vS (L.take 0) high=[]:=(by unfold vS pX;cases high<;>simp);rw [this];exact .nil 1 none,hs.nul⟩
  ·rintro k fr w hk ⟨vo,en,rfl,hO,hs⟩
   obtain ⟨x,hx⟩:=nth hk
   have hxb:=hb k
   rw [show gi L k=x by simp [gi,List.getD,hx]] at hxb
   refine .block (.aj ?_)
   refine .ixX (enc:=fun x=>[I x]) hs hR rfl rfl ae ai hx rfl ?_;intro b15 o15 hc15;replace hc15:=bu.one hc15
   refine .q hs (aJ rfl af hc15) ?_
   refine .z zg (.nil (.region (.z zm (.z zm (.z zm ?_)))))
   refine .o (.o8 (first:=[]) (cap:=[]) rfl rfl hcf (hsp hs hxb) ?_);rintro _ w ⟨rfl,hs⟩
   refine .o (.buildSlice (cells:=[_]) hs cQ rfl rfl fun b21 w hs=>?_)
   refine .o (.append (ys:=Is [if high then x else -x]) hs bZ rfl rfl hO (.own .here rfl rfl) (gU _) (fun l h=>by simp [Is,tA] at h;omega) ?_);intro v22 en22 w hO2 hs
   rw [←List.map_append,Bq hx] at hO2
   refine .z zg (.nil ?_)
   refine nB (nT ?_)
   exact .mk ⟨_,_,rfl,hO2,hs.sb⟩
  ·rintro fr w ⟨vo,en,rfl,hO,hs⟩
   rw [List.take_length] at hO
   refine nT ?_
   refine .aj (.z zm (.z zg (.nil ?_)))
   refine .ret (Fin.bH Tryz.results153 rfl ?_)
   obtain ⟨H1,hle1,hR1,hs⟩:=cf.de hO (by rw [tA];omega) hs .here
   exact ⟨H1,hle1,hR1,hs.out⟩
theorem sa.same{v:Srv}{q:Wht}{lo hi e f:Int}(h:sa v q e)(g:xv v q lo hi f):e=f:=by
 by_cases e0:e=0
 ·subst e0
  obtain ⟨h1,h2,h3⟩:=h.zero
  cases g with
  |bad g ge=>exact (ge (g.cu.2 h1)).elim
  |what _ g=>exact (g h2).elim
  |fls _ _ g=>exact (g h3).elim
  |ok=>rfl
 ·exact ((h.qty e0).uniq g).2.2
theorem DM{v:Srv}{q:Wht}{lo hi:Int}(g:xv v q lo hi 0):∃a b,lo=a/my q∧hi=b/my q∧eh v∧fk v.sp q∧eY v.sys (v.w q) a b 0:=by
 generalize hz:(0:Int)=z at g
 cases g with
 |bad g ge=>exact (ge hz.symm).elim
 |what=>omega
 |fls=>omega
 |ok h1 h2 h3 h4=>exact ⟨_,_,rfl,rfl,h1,h2,h4⟩
end Go.Proofs.YtddaejgfjlneoaaGreat
namespace Go.Proofs.YtddaejgfjlneoaaGreat
open Go.MW
variable{H:bX}{w:World}{σ:List Ent}
set_option maxHeartbeats 2000000 in
theorem qO{s:Spc}{vst vwa vx:Value}{x:List Int}(hs:St H w σ)(h1:RI H vst s.st)(h2:RI H vwa s.wa)(hx:RI H vx x)(hsp:fl s)(hxl:s.many+1≤x.length):
  Cl Tryz.prog 154 [.agg #[I s.id,I s.src,vst,vwa,I s.al,I s.up],vx] w fun u w'=>∃H1 va,HLe H H1∧u= .agg #[va]∧RT H1 va (jH s x s.st.length)∧St H1 w' σ:=by
 have hsm:=dW hsp
 have hw:=hsm.2.2.1
 obtain ⟨ast,cst,rfl⟩:=RI.shape h1
 obtain ⟨awa,cwa,rfl⟩:=RI.shape h2
 obtain ⟨ax,cx,rfl⟩:=RI.shape hx
 refine Cl.o Tryz.func154 Tryz.ntmps154 ag2 ?_
 refine .aj ?_
 refine .bx hs fun b2 w hs=>?_
 refine .bx hs fun b3 w hs=>?_
 refine .o (.alloc hs ym rfl fun b4 w hs=>?_)
 refine .nil (.aj ?_)
 refine .o (.alloc hs ym rfl fun b5 w hs=>?_)
 refine .nil (.seq (.aj (.y hs (zls [_,_,_,_,_,_] aH aC) ?_)))
 refine .o (.call Ag rfl (fp (s:=s) hs h1 h2 ⟨ak,ak⟩) ?_);rintro _ w ⟨H1,ba,hle1,rfl,hit,hs⟩
 replace hx:=hx.mono hle1
 refine .nil (.block ?_)
 refine .rangeFunc (gf:=190) (cap:=[.pointer (some ⟨ba,0,none⟩)]) (xs:=uQ s) (σb:=[.blk b5 [.slice none 0 0],.nul,.blk b4 [.slice none 0 0],.blk b3 [.slice ax x.length cx]]) (σf:=σ) (hs.nul.sb) trivial rfl hit Af (fun x hx=>by
   simp only [uQ,List.mem_map] at hx
   obtain ⟨j,_,rfl⟩:=hx;rfl) rfl
  (I:=fun p H' σb=>∃va us en ens,σb= .blk b5 [va]::en:: .blk b4 [.slice none 0 0]:: .blk b3 [.slice ax x.length cx]::ens∧cf 1 va us en∧pn us (wE s x p) ens) (Ix:=fun _ _ _=>False)
  (fun j _ _ σ g1 g2=>g2) (fun _ _ _ _ _ h=>h) ⟨_,[],_,[],rfl,.nil 1 none,by rw [zx];exact .nil⟩ ?_ ?_ (fun D c H' σb w _ h _=>h.elim)
 ·rintro ly p hp H5 σb2 σf2 w hle5 ⟨va,us,en,ens,rfl,hO,hR⟩ hs ⟨rr,hrr⟩
  have hpm:p<s.many:=by rw [ea] at hp;exact hp
  have hin:p/s.wa.length<s.st.length:=Nat.div_lt_of_lt_mul (by rw [Nat.mul_comm];exact hpm)
  have hkm:=Nat.mod_lt p hw
  have hnext:=zy s x p hw
  have hrow:=AG s x p
  have hRW:wE s x p=jH s x (p/s.wa.length)++if p%s.wa.length=0 then [] else [lE s x (p/s.wa.length) (p%s.wa.length)]:=rfl
  have hu:s.u (p/s.wa.length) (p%s.wa.length)=p+1:=by
   unfold Spc.u
   have:=Nat.div_add_mod p s.wa.length
   rw [Nat.mul_comm] at this;omega
  rw [hRW] at hR
  have hul:us.length≤1001:=by
   have:=hR.length
   rw [List.length_append,fU] at this
   split at this<;>simp at this<;>omega
  rw [mg hp]
  obtain ⟨aa,la,ca,rfl,hla⟩:=hO.shape
  have hx5:=hx.mono hle5
  generalize p/s.wa.length=i at*
  generalize p%s.wa.length=k at*
  refine .region ?_
  refine .o (.alloc hs kh rfl fun b6 w hs=>?_)
  refine .o (.aZ (vs:=[_,_,_]) hs rfl rfl ou fun w hs=>?_)
  refine .nil ?_
  refine nT ?_
  refine ⟨H5,.blk b6 [I (i:Int),I (k:Int),I ((p+1:Nat):Int)]:: .blk b5 [.slice aa la ca]::en:: .blk b4 [.slice none 0 0]:: .blk b3 [.slice ax x.length cx]::ens,HLe.refl _,hs,?_⟩;rintro w σf4 - hs
  replace hs:St H5 w (.blk b6 [I (i:Int),I (k:Int),I ((p+1:Nat):Int)]:: .blk b5 [.slice aa la ca]::en:: .blk b4 [.slice none 0 0]:: .blk b3 [.slice ax x.length cx]::(ens++σf4)):=hs
  refine .block ?_
  refine .cut (fun fs w=>∃va us en ens,kg fs ⟨37,[],[(6,.pointer (some ⟨b6,0,none⟩)),(5,.pointer (some ⟨b5,0,none⟩)),(4,.pointer (some ⟨b4,0,none⟩)),(3,.pointer (some ⟨b3,0,none⟩))]⟩∧cf 1 va us en∧pn us (jH s x i++[lE s x i k]) ens∧St H5 w (.blk b6 [I (i:Int),I (k:Int),I ((p+1:Nat):Int)]:: .blk b5 [va]::en:: .blk b4 [.slice none 0 0]:: .blk b3 [.slice ax x.length cx]::(ens++σf4))) ?_ ?_
  ·refine .aj (.z (zfa cV) (.y hs (zld af) (.z fo (.nil ?_))))
   refine (.bB rfl (fun hc12=>?_) (fun hc12=>?_))
   ·refine .region (.z (zfa dz) (.y hs (zld ep) ?_))
    refine .o (.buildSlice (cells:=[.slice none 0 0]) hs oB rfl rfl fun b15 w hs=>?_)
    refine .o (.append (ys:=[.slice none 0 0]) hs kA rfl rfl hO (.own .here rfl rfl) (by simp [Value.oneCell']) (fun l h=>by omega) fun v16 en16 w hO3 hs=>?_)
    obtain ⟨a16,l16,c16,rfl,h16⟩:=hO3.shape
    refine .z (zfa dz) ?_
    refine .o (.store hs rfl rfl Tryz.sizeOf61 fun w hs=>?_)
    refine .nil ?_
    refine nT ?_
    obtain rfl:k=0:=by omega
    rw [if_pos rfl,List.append_nil] at hR
    refine ⟨_,_,en16,ens++[.nul],aR,hO3,hR.snoc (show cf 1 (.slice none 0 0) (Is (lE s x i 0)) .nul from .nil 1 none),?_⟩
    replace hs:St H5 w (.blk b6 [I (i:Int),I ((0:Nat):Int),I ((p+1:Nat):Int)]:: .blk b5 [.slice a16 l16 c16]::en16:: .blk b4 [.slice none 0 0]:: .blk b3 [.slice ax x.length cx]::(ens++σf4)):=hs.sb
    replace hs:=hs.nul
    rw [List.append_assoc]
    exact hs.perm (List.perm_middle (l₁:= .blk b6 _:: .blk b5 _::en16:: .blk b4 _:: .blk b3 _::ens) (l₂:=σf4)).symm
   ·refine .skip ?_
    refine nT ?_
    rw [if_neg ak] at hR
    exact ⟨_,us,en,ens,aR,hO,hR,hs⟩
  ·clear hs hO hR
   rintro fs w ⟨va,us,en,ens,hfs,hO,hR,hs⟩
   refine WE.sub ?_ hfs
   clear hfs
   have hul:=hR.length
   rw [List.length_append,fU,List.length_singleton] at hul
   obtain ⟨u,er,A,B,hu',hOr,rfl,hupd⟩:=hR.rowS hrow
   rcases hO with ⟨_,_,h0,_⟩|⟨bo,lo,cap,sp,rfl,rfl,h5,h6,h7⟩
   ·exfalso;rw [h0] at hul;simp at hul
   obtain rfl:lo=i+1:=by omega
   obtain ⟨ar,cr,rfl⟩:=hOr.uy
   rw [jn] at hOr hu'
   rw [show (A++er::B)++σf4=A++er::(B++σf4) by simp] at hs
   replace hs:St H5 w (er:: .blk b6 [I (i:Int),I (k:Int),I ((p+1:Nat):Int)]:: .blk b5 [.slice (some ⟨bo,0,none⟩) (i+1) cap]:: .blk bo (us++sp):: .blk b4 [.slice none 0 0]:: .blk b3 [.slice ax x.length cx]::(A++(B++σf4))):=hs.perm (List.perm_middle (l₁:= .blk b6 _:: .blk b5 _:: .blk bo _:: .blk b4 _:: .blk b3 _::A) (l₂:=B++σf4))
   have hu2:(us++sp)[i]? =some (.slice ar k cr):=by rw [List.getElem?_append_left ak];exact hu'
   refine .draw mix rfl hs fun w hs=>?_
   refine .z 0 rfl (zfa dz) ?_;refine .y 1 rfl hs ep ?_;refine .z 2 rfl (zfa cZ) ?_;refine .y 3 rfl hs af ?_;refine .z 4 rfl (zfa dz) ?_;refine .y 5 rfl hs ep ?_;refine .z 6 rfl (zfa cZ) ?_;refine .y 7 rfl hs af ?_;refine .z 8 rfl (zix (j:=i) aq az) ?_
   refine .load (i:=9) hs rfl au .none rfl an ?_ (hv:=hu2)
   refine .y 10 rfl hs an ?_;refine .z 11 rfl (zfa dU) ?_;refine .y 12 rfl hs af ?_
   refine .ixX (enc:=fun x=>[I x]) (i:=13) hs rfl au .none hx5 rfl rfl ae ai (bn (l:=x) (i:=(p+1)) ak) cD ?_;intro b31 o31 hc31;replace hc31:=bu.one hc31
   refine .r (i:=14) hs rfl au .none (aJ rfl af hc31) ?_
   refine .E 15 hs ?_
   refine .buildSlice (cells:=[_]) hs cQ rfl rfl ?_;intro b33 w hs
   refine .go ?_
   refine .E 16 hs ?_
   refine .append (ys:=Is [gi x (p+1)]) hs bZ rfl rfl hOr (.own .here rfl rfl) (gU _) (fun l h=>by simp [jn] at h;omega) ?_;intro v34 en34 w hO2 hs
   rw [←List.map_append,←hu,←zC] at hO2
   obtain ⟨a34,c34,rfl⟩:=hO2.uy
   rw [jn] at hO2 ⊢
   have hR':=hupd _ _ _ hO2
   rw [hnext] at hR'
   refine .go ?_
   refine .z 17 rfl (zix (j:=i) aq az) ?_
   refine .E 18 hs ?_
   refine .store (c':=us.set i (.slice a34 (k+1) c34)++sp) hs rfl rfl az ?_ cP (Nat.ble_eq_true_of_le (by rw [List.length_append];omega)) (by rw [List.set_append_left _ _ ak]);intro w hs
   refine .go ?_
   refine .D hs ?_
   refine nB ?_
   refine ⟨H5,.blk b5 [.slice (some ⟨bo,0,none⟩) (i+1) cap]:: .blk bo (us.set i (.slice a34 (k+1) c34)++sp):: .blk b4 [.slice none 0 0]:: .blk b3 [.slice ax x.length cx]::(A++en34::B),HLe.refl _,?_,_,_,_,_,rfl,.inr ⟨bo,i+1,cap,sp,rfl,rfl,by rw [List.length_set];omega,by rw [List.length_append,List.length_set,←List.length_append];exact h6,h7⟩,hR'⟩
   replace hs:St H5 w (en34:: .blk b5 [.slice (some ⟨bo,0,none⟩) (i+1) cap]:: .blk bo (us.set i (.slice a34 (k+1) c34)++sp):: .blk b4 [.slice none 0 0]:: .blk b3 [.slice ax x.length cx]::(A++(B++σf4))):=hs.sb
   replace hs:=hs.perm (List.perm_middle (l₁:= .blk b5 _:: .blk bo _:: .blk b4 _:: .blk b3 _::A) (l₂:=B++σf4)).symm
   rw [show (.blk b5 [.slice (some ⟨bo,0,none⟩) (i+1) cap]:: .blk bo (us.set i (.slice a34 (k+1) c34)++sp):: .blk b4 [.slice none 0 0]:: .blk b3 [.slice ax x.length cx]::(A++en34::B))++σf4=(.blk b5 [.slice (some ⟨bo,0,none⟩) (i+1) cap]:: .blk bo (us.set i (.slice a34 (k+1) c34)++sp):: .blk b4 [.slice none 0 0]:: .blk b3 [.slice ax x.length cx]::A)++en34::(B++σf4) by simp]
   exact hs
 ·rintro D H5 σb2 w hle5 ⟨va,us,en,ens,rfl,hO,hR⟩ hs
  rw [ea,zA s x hw] at hR
  replace hs:St H5 w (.obj D (.deferred (some [])):: .blk b5 [va]::en:: .blk b4 [.slice none 0 0]:: .blk b3 [.slice ax x.length cx]::(ens++σ)):=hs
  have hul:=hR.length
  rw [fU] at hul
  obtain ⟨aa,la,ca,rfl,hla⟩:=hO.shape
  refine nB (nT ?_)
  refine .aj (.y hs (zls [_] eR c9) ?_)
  refine .o (.aZ (vs:=[_]) hs rfl rfl c9 fun w hs=>?_)
  refine .nil ?_
  refine .ret ?_
  replace hs:St H5 w (ens++(.obj D (.deferred (some [])):: .blk b5 [.slice aa la ca]::en:: .blk b4 [.slice aa la ca]:: .blk b3 [.slice ax x.length cx]::σ)):=(show St H5 w ([.obj D (.deferred (some [])),.blk b5 [.slice aa la ca],en,.blk b4 [.slice aa la ca],.blk b3 [.slice ax x.length cx]]++(ens++σ)) from hs).perm (List.perm_append_comm_assoc _ ens σ)
  obtain ⟨H6,hle6,hRL,hs⟩:=hR.cq (fun r hr=>by
   obtain ⟨j,hj⟩:=List.getElem?_of_mem hr
   have hjl:=(List.getElem?_eq_some_iff.1 hj).1
   rw [fU] at hjl
   rw [wF hjl] at hj
   obtain rfl:=Option.some.inj hj
   rw [jn];omega) hs
  obtain ⟨H7,hle7,hRT,hs⟩:=hRL.cq hO ak hs (.there (.there .here))
  exact Fin.iA [D] [] hs fun w hs=>⟨_,results1 Tryz.results154 (dF (vs:=[_]) hs rfl eR c9),H7,_,hle1.trans (hle5.trans (hle6.trans hle7)),rfl,hRT,hs.out⟩
set_option maxHeartbeats 1000000 in
theorem oX{s:Srv}{q:Wht}{vst vwa vr vc:Value}{high:Bool}(hs:St H w σ)(h1:RI H vst s.sp.st)(h2:RI H vwa s.sp.wa)(h3:RRd H vr s.rs)(h4:RCm H vc s.cs):
  Cl Tryz.prog 69 [.agg #[I s.sp.id,I s.sp.src,vst,vwa,I s.sp.al,I s.sp.up,vr,vc],.agg #[I q.kind,I q.st,I q.wa],.bool high] w fun u w'=>∃H1 vh rows e,HLe H H1∧u= .tuple #[.agg #[vh],I e]∧RT H1 vh rows∧sa s q e∧(e≠0→rows=[])∧(e=0→∃x,Ac s.sys (vS (s.w q) high) x∧rows=jH s.sp x s.sp.st.length)∧St H1 w' σ:=by
 refine Cl.o Tryz.func69 Tryz.ntmps69 ag3 ?_
 refine .aj ?_
 refine .bx hs fun b3 w hs=>?_
 refine .bx hs fun b4 w hs=>?_
 refine .o (.alloc hs ym rfl fun b6 w hs=>?_)
 refine .z zg (.nil (.aj (.y hs (zls [_,_,_,_,_,_,_,_] aP aE) (.y hs (zls [_,_,_] cJ bA) ?_))))
 refine .o (.call Tryz.call85 rfl (kS (s:=s) (q:=q) hs h1 h2 h3 h4) ?_);rintro _ w ⟨H1,m,ul,vw,d,e,hle1,rfl,⟨al,ll,cl,rfl⟩,⟨aw,lw,cw,rfl⟩,hA,hA0,hs⟩
 refine .z zm (.z zex (.z zex ?_))
 refine .o (.alloc hs oo rfl fun b8 w hs=>?_)
 refine .o (.aZ (vs:=[_,_,_,_]) hs rfl rfl dT fun w hs=>?_)
 refine .z zg (.nil (.seq (.aj (.z zm (.z gx (.nil ?_))))))
 refine (.eH rfl (fun hc18=>?_) (fun hc18=>?_))
 ·refine .aj (.z (zbd [_] ny) (.z zm ?_))
  refine .o (.aZ (vs:=[_]) hs rfl rfl c9 fun w hs=>?_)
  refine .z zg (.nil ?_)
  refine .ret (rT (?_))
  exact Fin.iA [] [] hs fun w hs=>⟨_,results2 Tryz.results69 (dF (vs:=[_]) hs rfl eR c9) rfl,H1,_,[],_,hle1,rfl,RT.nil _,hA,fun _=>rfl,fun h=>(hc18 h).elim,hs.out⟩
 ·refine .skip ?_
  refine nT ?_
  refine .seq (.draw mix rfl hs fun w hs=>?_)
  refine .z 0 rfl (zfa jz) ?_;refine .ys 1 rfl hs [_,_] aN aB ?_;refine .ys 2 rfl hs [_,_,_,_] qw dT ?_;refine .z 3 rfl zm ?_
  refine .E 4 hs ?_
  obtain rfl:e=0:=by simpa using hc18
  obtain ⟨rfl,hL,hR,rfl⟩:=hA0 rfl
  obtain ⟨hok,hq,hsd⟩:=hA.zero
  have hn65:=hok.sys.n65
  have hwl:=mY s q
  refine .call Tryz.call153 rfl (kb (high:=high) hs hR (yt hok hq) ak) ?_;rintro _ w ⟨H2,hle2,hRt,hs⟩
  refine .go ?_
  refine .E 5 hs ?_
  refine .call Tryz.call152 rfl (tE (s:=s.sys) hs ⟨_,rfl,hL.mono hle2⟩ hRt) ?_;rintro _ w ⟨H3,vx,x,f,hle3,rfl,hF,hX,-,hB,hs⟩
  obtain ⟨ax,cx,rfl⟩:=RI.shape hX
  obtain rfl:=ye (C4 hok hq high) hsd (fun b=>s.both) hF
  have hBe:=hB rfl
  have hle03:=hle1.trans (hle2.trans hle3)
  refine .go ?_
  refine .z 6 rfl zm ?_;refine .z 7 rfl zex ?_;refine .z 8 rfl zex ?_;refine .z 9 rfl zg ?_;refine .z 10 rfl zg ?_;refine .D hs ?_
  refine .seq (.aj (.z zm (.z gx (.nil ?_))))
  refine (.eH rfl (fun hc31=>?_) (fun hc31=>?_))
  ·refine .aj (.z (zbd [_] ny) (.z zm ?_))
   refine .o (.aZ (vs:=[_]) hs rfl rfl c9 fun w hs=>?_)
   refine .z zg (.nil ?_)
   refine .ret (rT (?_))
   exact (hc31 rfl).elim
  ·refine .skip ?_
   refine nT ?_
   refine .aj (.z (zfa aO) (.y hs (zls [_,_,_,_,_,_] aH aC) (.z zm ?_)))
   refine .o (.call Tryz.call154 rfl (qO (s:=s.sp) hs (h1.mono hle03) (h2.mono hle03) hX hok.early.1 (by rw [hBe.len,qG];omega)) ?_);rintro _ w ⟨H4,va,hle4,rfl,hT,hs⟩
   obtain ⟨aa,ca,rfl⟩:=hT.shape
   refine .o (.aZ (vs:=[_]) hs rfl rfl c9 fun w hs=>?_)
   refine .z zg (.nil ?_)
   refine .ret ?_
   exact Fin.iA [] [] hs fun w hs=>⟨_,results2 Tryz.results69 (dF (vs:=[_]) hs rfl eR c9) rfl,H4,_,_,_,hle03.trans hle4,rfl,hT,hA,fun h=>(h rfl).elim,fun _=>⟨x,hBe,rfl⟩,hs.out⟩
theorem El{s:Srv}{q:Wht}{high:Bool}{lo hi:Int}{x:List Int}(g:xv s q lo hi 0)(hB:Ac s.sys (vS (s.w q) high) x):
  rZ s.sp (jH s.sp x s.sp.st.length) q (if high=true then hi else lo) 0∧C8 s (jH s.sp x s.sp.st.length) 0:=by
 obtain ⟨a,b,rfl,rfl,hok,hq,hR⟩:=DM g
 obtain ⟨hH,hK,hsum⟩:=BA hok hB.zero hB.zU q
 refine ⟨?_,.ok hok hH hK⟩
 have h:=rZ.ok hok.early.1 hH hq
 rw [hsum] at h
 unfold vS at hB
 cases high with
 |true=>rw [if_pos rfl] at hB ⊢;rw [Ek hR hB] at h;exact h
 |false=>rw [if_neg bL] at hB ⊢;rw [Ej hR hB] at h;exact h
set_option maxHeartbeats 4000000 in
theorem nX{v:Value}{g:Ez}{a b c:Int}{high:Bool}(hs:St H w σ)(hg:BG H v g):
  Cl Tryz.prog 14 [v,.agg #[I a,I b,I c],.bool high] w fun v w'=>v= .bool true∧∃H',HLe H H'∧St H' w' σ:=by
 obtain ⟨vs,v5,v4,vp,rfl,g1,g2,g3,g4⟩:=hg
 refine Cl.o Tryz.func14 Tryz.ntmps14 ag3 ?_
 refine .aj ?_
 refine .bx hs fun b3 w hs=>?_
 refine .bx hs fun b4 w hs=>?_
 refine .z zg (.nil (.aj ?_))
 refine .o (.call Tryz.call22 rfl (ng hs) ?_);rintro _ w ⟨rfl,H1,hle1,hs⟩
 refine .z zg (.nil (.aj (.y hs (zls [_,_,_,_,_,_,_] Tryz.isAgg27 Tryz.sizeOf27) ?_)))
 refine .o (.call Tryz.call23 rfl (lK hs (g1.mono hle1) (g2.mono hle1) (g3.mono hle1) (g4.mono hle1)) ?_);rintro _ w ⟨H2,s,vst,vwa,vr,vc,hle2,rfl,h1,h2,h3,h4,hSpl,hs⟩
 obtain ⟨ast,cst,rfl⟩:=RI.shape h1
 obtain ⟨awa,cwa,rfl⟩:=RI.shape h2
 obtain ⟨ar,cr,rfl⟩:=RRd.shape h3
 obtain ⟨ac,cc,rfl⟩:=RCm.shape h4
 have hle02:=hle1.trans hle2
 refine .o (.alloc hs eo rfl fun b8 w hs=>?_)
 refine .o (.aZ (vs:=[_,_,_,_,_,_,_,_]) hs rfl rfl aE fun w hs=>?_)
 refine .nil (.aj (.z (zbd [_,_,_] jD) ?_))
 refine .o (.alloc hs Tryz.zeroValue29 rfl fun b9 w hs=>?_)
 refine .o (.aZ (vs:=[_,_,_]) hs rfl rfl bA fun w hs=>?_)
 refine .nil ?_
 refine .cut (fun fs w=>∃q1:Wht,kg fs ⟨89,[],[(9,.pointer (some ⟨b9,0,none⟩)),(8,.pointer (some ⟨b8,0,none⟩)),(7,.bool true),(2,.bool high)]⟩∧St H2 w (.blk b9 [I q1.kind,I q1.st,I q1.wa]:: .blk b8 [I s.sp.id,I s.sp.src,.slice ast s.sp.st.length cst,.slice awa s.sp.wa.length cwa,I s.sp.al,I s.sp.up,.slice ar s.rs.length cr,.slice ac s.cs.length cc]::σ)) ?_ ?_
 ·refine .aj (.z (zfa aO) (.y hs (zls [_,_,_,_,_,_] aH aC) ?_))
  refine .o (.call Tryz.call24 rfl (gz (s:=s.sp) hs h1 h2) ?_);rintro _ w ⟨e24,rfl,hcase,hs⟩
  refine .z fo (.nil ?_)
  refine (.bB rfl (fun hc23=>?_) (fun hc23=>?_))
  ·refine .region (.z (zfa aO) (.y hs (zls [_,_,_,_,_,_] aH aC) (.y hs (zls [_,_,_] Tryz.isAgg25 Tryz.sizeOf25) ?_)))
   have hok:fl s.sp:=by
    rcases hcase with ⟨h,_⟩|⟨_,h⟩
    ·exact h
    ·omega
   refine .o (.call Tryz.call25 rfl (oP (s:=s.sp) hs h1 h2 hok) ?_);rintro _ w ⟨q1,rfl,hq1,hs⟩
   refine .o (.aZ (vs:=[_,_,_]) hs rfl rfl bA fun w hs=>?_)
   refine .nil ?_
   refine nT ?_
   exact ⟨q1,aR,hs.sb⟩
  ·refine .skip ?_
   refine nT ?_
   exact ⟨⟨1,0,0⟩,aR,hs.sb⟩
 ·clear hs
  rintro fs w ⟨q,hfs,hs⟩
  refine WE.sub ?_ hfs
  clear hfs
  refine .aj (.y hs (zls [_,_,_,_,_,_,_,_] aP aE) (.y hs (zls [_,_,_] cJ bA) (.z zm ?_)))
  refine .o (.call Tryz.call69 rfl (oX (s:=s) (q:=q) (high:=high) hs h1 h2 h3 h4) ?_);rintro _ w ⟨H3,vh,rows,e,hle3,rfl,hT,hA,hne,hat,hs⟩
  obtain ⟨ah,ch,rfl⟩:=hT.shape
  replace h1:=h1.mono hle3
  replace h2:=h2.mono hle3
  replace h3:=h3.mono hle3
  replace h4:=h4.mono hle3
  refine .z zm (.z zex (.z zex ?_))
  refine .o (.alloc hs ym rfl fun b10 w hs=>?_)
  refine .o (.aZ (vs:=[_]) hs rfl rfl c9 fun w hs=>?_)
  refine .z zg (.nil (.aj (.y hs (zls [_,_,_,_,_,_,_,_] aP aE) (.y hs (zls [_,_,_] cJ bA) ?_))))
  refine .o (.call Tryz.call27 rfl (rK (s:=s) (q:=q) hs h1 h2 h3 h4) ?_);rintro _ w ⟨H4,lo,hi,f,hle4,rfl,hB,hs⟩
  obtain rfl:=hA.same hB
  replace hT:=hT.mono hle4
  replace h1:=h1.mono hle4
  replace h2:=h2.mono hle4
  replace h3:=h3.mono hle4
  replace h4:=h4.mono hle4
  have hle04:=hle02.trans (hle3.trans hle4)
  refine .z zm (.z zex (.z zex ?_))
  refine .o (.alloc hs eU rfl fun b12 w hs=>?_)
  refine .o (.aZ (vs:=[_,_]) hs rfl rfl aT fun w hs=>?_)
  refine .z zg (.nil (.seq (.aj (.z zm (.z gV (.z zm ?_))))))
  refine .gT rfl rfl ?_
  refine .z zm ?_
  refine .gT rfl rfl ?_
  refine .z zm ?_
  refine .gT rfl rfl ?_
  refine .z gx ?_
  rw [decide_eq_true rfl]
  refine .z zpF (.nil ?_)
  refine (.cF ?_)
  refine .skip ?_
  refine nT ?_
  refine .seq (.aj (.z zm (.z gx (.nil ?_))))
  refine (.eH rfl (fun hc49=>?_) (fun hc49=>?_))
  ·refine .aj (.z (zfa dz) (.y hs (zld ep) (.z (cB aq) (.z fo (.z zg (.nil ?_))))))
   refine .ret (rT (Fin.bH uq rfl ?_))
   obtain rfl:=hne hc49
   exact ⟨bL,H4,hle04,hs.out⟩
  ·refine .skip ?_
   refine nT ?_
   refine .aj (.z (zfa aO) (.y hs (zls [_,_,_,_,_,_] aH aC) (.y hs (zls [_] eR c9) (.y hs (zls [_,_,_] cJ bA) ?_))))
   obtain rfl:e=0:=by simpa using hc49
   obtain ⟨x,hBe,rfl⟩:=hat rfl
   obtain ⟨hQ,hC⟩:=El hB hBe
   refine .o (.call Tryz.call62 rfl (rJ (s:=s.sp) (q:=q) hs h1 h2 hT) ?_);rintro _ w ⟨H5,n,e60,hle5,rfl,hQ5,hs⟩
   obtain ⟨rfl,rfl⟩:=hQ5.uniq hQ
   replace hT:=hT.mono hle5
   replace h1:=h1.mono hle5
   replace h2:=h2.mono hle5
   replace h3:=h3.mono hle5
   replace h4:=h4.mono hle5
   refine .z zm (.z zex (.z zex (.z zg (.z zg (.nil (.aj (.z zm (.z fo ?_))))))))
   rw [decide_eq_true rfl]
   refine .z zm ?_
   refine .gT rfl rfl ?_
   refine .y hs (zls [_,_,_,_,_,_,_,_] aP aE) ?_
   refine .gT rfl rfl ?_
   refine .y hs (zls [_] eR c9) ?_
   refine .gT rfl rfl ?_
   refine .o (.call Tryz.call64 rfl (nV (s:=s) hs h1 h2 h3 h4 hT) ?_);rintro _ w ⟨H6,e67,hle6,rfl,hC6,hs⟩
   obtain rfl:=hC6.uniq hC
   have hle06:=hle04.trans (hle5.trans hle6)
   refine .gT rfl rfl ?_
   refine .z fo ?_
   rw [decide_eq_true rfl]
   refine .z zpT (.z zm ?_)
   refine .gT rfl rfl ?_
   refine .z zm ?_
   refine .gT rfl rfl ?_
   refine .z zm ?_
   refine .bif (t':=72) rfl (fun hb72=>?_) (fun hb72=>?_)
   ·refine .gT rfl rfl ?_
    refine .z zm ?_
    refine .gT rfl rfl ?_
    refine .z (zfa oA) ?_
    refine .gT rfl rfl ?_
    refine .y hs (zld af) ?_
    refine .gT rfl rfl ?_
    refine .z fo ?_
    refine .gT rfl rfl ?_
    refine .z zpT ?_
    refine .gT rfl rfl ?_
    refine .z zm ?_
    refine .iD (t':=78) rfl (fun hb78=>?_) (fun hb78=>?_)
    ·refine .gFs 3 16 false rfl rfl rfl ?_
     refine .gFs 4 19 true rfl rfl rfl ?_
     refine .gFs 1 16 false rfl rfl rfl ?_
     refine .gT rfl rfl ?_
     refine .z zpT (.z zpT (.z zg (.nil ?_)))
     refine .ret (Fin.bH uq rfl ?_)
     exact ⟨by simp_all,H6,hle06,hs.out⟩
    ·refine .gT rfl rfl ?_
     refine .z zm ?_
     refine .gT rfl rfl ?_
     refine .z gV ?_
     refine .gT rfl rfl ?_
     refine .z zm ?_
     refine .bif (t':=81) rfl (fun hb81=>?_) (fun hb81=>?_)
     ·refine .gT rfl rfl ?_
      refine .z zm ?_
      refine .gT rfl rfl ?_
      refine .z (zfa lh) ?_
      refine .gT rfl rfl ?_
      refine .y hs (zld af) ?_
      refine .gT rfl rfl ?_
      refine .z fo ?_
      refine .gT rfl rfl ?_
      refine .z zpT ?_
      refine .gT rfl rfl ?_
      refine .z zpF (.z zpT (.z zg (.nil ?_)))
      refine .ret (Fin.bH uq rfl ?_)
      exact ⟨by simp_all,H6,hle06,hs.out⟩
     ·refine .gFs 4 19 true rfl rfl rfl ?_
      refine .gT rfl rfl ?_
      refine .z zpF ?_
      refine .gT rfl rfl ?_
      refine .z zpF (.z zpT (.z zg (.nil ?_)))
      refine .ret (Fin.bH uq rfl ?_)
      exact ⟨by simp_all,H6,hle06,hs.out⟩
   ·refine .gFs 4 10 true rfl rfl rfl ?_
    refine .gT rfl rfl ?_
    refine .z zpF ?_
    refine .gT rfl rfl ?_
    refine .z zm ?_
    refine .gT rfl rfl ?_
    refine .z zm ?_
    refine .gT rfl rfl ?_
    refine .z gV ?_
    refine .gT rfl rfl ?_
    refine .z zm ?_
    refine .bif (t':=81) rfl (fun hb81=>?_) (fun hb81=>?_)
    ·refine .gT rfl rfl ?_
     refine .z zm ?_
     refine .gT rfl rfl ?_
     refine .z (zfa lh) ?_
     refine .gT rfl rfl ?_
     refine .y hs (zld af) ?_
     refine .gT rfl rfl ?_
     refine .z fo ?_
     refine .gT rfl rfl ?_
     refine .z zpT ?_
     refine .gT rfl rfl ?_
     refine .z zpF (.z zpT (.z zg (.nil ?_)))
     refine .ret (Fin.bH uq rfl ?_)
     exact ⟨by simp_all,H6,hle06,hs.out⟩
    ·refine .gFs 4 19 true rfl rfl rfl ?_
     refine .gT rfl rfl ?_
     refine .z zpF ?_
     refine .gT rfl rfl ?_
     refine .z zpF (.z zpT (.z zg (.nil ?_)))
     refine .ret (Fin.bH uq rfl ?_)
     exact ⟨by simp_all,H6,hle06,hs.out⟩
theorem Bv{s:Srv}{out:List Int}{e f:Int}(h:tT s f)(hf:f≠0)(g:uU s out e):e=f:=by
 cases g with
 |bad g _ _=>exact g.uniq h
 |ok g _=>exact (hf (h.cu.2 g)).elim
theorem CZ{s:Srv}{out:List Int}{e:Int}(h:eh s)(g:uU s out e):(e=3∧s.sys.Sound∧out=[])∨(e=0∧¬s.sys.Sound∧om s.sys out 0):=by
 cases g with
 |bad g ge _=>exact (ge (g.cu.2 h)).elim
 |ok _ g=>exact Ed h.sys g
theorem ud{vb:Value}{bs:List Int}{x:Int}(hs:St H w σ)(hb:RI H vb bs):
  Cl Tryz.prog 70 [vb,I x] w fun u w'=>u= .bool (decide (x∈bs))∧St H w' σ:=by
 obtain ⟨ab,cb,rfl⟩:=RI.shape hb
 have hbl:=(RI.len hb).2.2
 refine Cl.o Tryz.func70 Tryz.ntmps70 ag2 ?_
 refine .aj (.z zg (.nil (.seq (.aj (.z zg (.nil (.block ?_)))))))
 refine .loop (fun i:Nat=>⟨18,[],[(5,I (i:Int)),(0,.slice ab bs.length cb),(1,I x)]⟩)
  (fun i w=>i≤bs.length∧(∀j<i,gi bs j≠x)∧St H w σ) (fun i=>bs.length - i) 0 aR
  ⟨Nat.zero_le _,fun j hj=>by omega,hs⟩ ?_
 clear hs
 rintro i w ⟨hi,hall,hs⟩
 refine .seq (.aj (.z zm (.z zm (.z (cB ae) (.z fH (.nil ?_))))))
 refine (.bB rfl (fun hc9=>?_) (fun hc9=>?_))
 ·refine .skip ?_
  refine nT ?_
  refine .seq (.block (.aj (.z zm (.z zm ?_))))
  refine .ixY hs hb rfl rfl ae ai (bn (l:=bs) (i:=i) ak) cD ?_;intro b14 o14 hc14
  refine .q hs (aJ rfl af hc14) ?_
  refine .z zm (.z fo (.nil ?_))
  refine (.bB rfl (fun hc17=>?_) (fun hc17=>?_))
  ·refine .aj (.z zg (.nil ?_))
   refine .ret (rB (rT (rT (rB (rT (Fin.bH Tryz.results70 rfl ?_))))))
   exact ⟨by rw [decide_eq_true (by rw [←hc17];exact List.mem_of_getElem? (bn ak))],hs⟩
  ·refine .skip ?_
   refine nB (nT ?_)
   refine .region (.z zm (.z ck (.z zg (.nil ?_))))
   refine nT ?_
   exact ⟨i+1,.bU rfl bL aR,⟨ak,fun j hj=>by
    by_cases e:j=i
    ·subst e;exact hc17
    ·exact hall j ak,hs⟩,ak⟩
 ·refine .exit ?_
  refine xT (xT (xB (nT ?_)))
  refine .aj (.z zg (.nil ?_))
  refine .ret (Fin.bH Tryz.results70 rfl ?_)
  exact ⟨by rw [decide_eq_false (fun h=>by
   obtain ⟨j,hj⟩:=List.getElem?_of_mem h
   have hjl:=(List.getElem?_eq_some_iff.1 hj).1
   have hg:=bn hjl
   rw [hj] at hg
   exact hall j ak (Option.some.inj hg).symm)],hs⟩
set_option maxHeartbeats 1000000 in
theorem nh{ul vb:Value}{s:cj}{bs:List Int}(hs:St H w σ)(hL:RL H ul s.bP)(hb:RI H vb bs)(hl:s.bP.length≤10000):
  Cl Tryz.prog 52 [.agg #[I s.many,ul],vb] w fun u w'=>∃H1 ul',HLe H H1∧u= .agg #[I s.many,ul']∧RL H1 ul' (s.only bs).bP∧St H1 w' σ:=by
 obtain ⟨al,cl,rfl⟩:=RL.shape hL
 obtain ⟨ab,cb,rfl⟩:=RI.shape hb
 refine Cl.o Tryz.func52 Tryz.ntmps52 ag2 ?_
 refine .aj ?_
 refine .bx hs fun b2 w hs=>?_
 refine .o (.alloc hs bV rfl fun b4 w hs=>?_)
 refine .nil (.aj (.z (zfa bI) (.y hs (zld af) (.z (zbd [_,_] fF) ?_))))
 refine .o (.alloc hs bV rfl fun b5 w hs=>?_)
 refine .o (.aZ (vs:=[_,_]) hs rfl rfl aB fun w hs=>?_)
 refine .nil (.seq (.aj (.z zg (.nil (.block ?_)))))
 refine .loop (fun i:Nat=>⟨36,[],[(6,I (i:Int)),(5,.pointer (some ⟨b5,0,none⟩)),(4,.pointer (some ⟨b4,0,none⟩)),(2,.pointer (some ⟨b2,0,none⟩)),(1,.slice ab bs.length cb)]⟩)
  (fun i w=>i≤s.bP.length∧∃vo en,cf 4 vo (fV (pQ s bs i)) en∧St H w (en:: .blk b5 [I s.many,vo]:: .blk b4 [I 0,.slice none 0 0]:: .blk b2 [I s.many,.slice al s.bP.length cl]::σ)) (fun i=>s.bP.length - i) 0 aR
  ⟨Nat.zero_le _,_,_,.nil 4 none,hs.nul⟩ ?_
 clear hs
 rintro i w ⟨hi,vo,en,hO,hs⟩
 have hol:=vz s bs i
 obtain ⟨ao,lo,co,rfl,hlo⟩:=hO.shape
 refine .seq (.aj (.z zm (.z (zfa bE) (.y hs (zld cA) (.z (cB aI) (.z fH (.nil ?_)))))))
 refine (.bB rfl (fun hc14=>?_) (fun hc14=>?_))
 ·refine .skip ?_
  refine nT ?_
  refine .seq (.block (.aj (.z zm (.z (zfa bE) (.y hs (zld cA) (.z zm ?_))))))
  obtain ⟨l,hx⟩:=nth (l:=s.bP) (k:=i) ak
  have hsn:=xQ (bs:=bs) hx
  refine .ixX (enc:=Lim.c) hs hL rfl rfl aI aS hx rfl ?_;intro b21 o21 hc21
  refine .z (zfa gj) ?_
  refine .q hs (aJ rfl af (hc21.get 3 rfl)) ?_
  refine .o (.call Tryz.call70 rfl (ud hs hb) ?_);rintro _ w ⟨rfl,hs⟩
  refine .nil ?_
  refine (.cond rfl (fun hc24=>?_) (fun hc24=>?_))
  ·refine .draw mix rfl hs fun w hs=>?_
   refine .z 0 rfl (zfa bE) ?_;refine .y 1 rfl hs cA ?_;refine .z 2 rfl (zfa bE) ?_;refine .y 3 rfl hs cA ?_;refine .z 4 rfl zm ?_
   refine .ixX (enc:=Lim.c) (i:=5) hs rfl au .none hL rfl rfl aI aS hx rfl ?_;intro b30 o30 hc30
   refine .r (i:=6) hs rfl au .none (cI (vs:=l.c) rfl fj aS hc30) ?_
   refine .E 7 hs ?_
   refine .buildSlice (cells:=l.c) hs k7 rfl au ?_;intro b32 w hs
   refine .go ?_
   refine .E 8 hs ?_
   refine .append (ys:=l.c) hs bM rfl rfl hO (.own .here rfl rfl) (by simp [Lim.c,Value.oneCell']) (fun l' h=>by rw [dx] at h;omega) ?_;intro v33 en33 w hO2 hs
   rw [←zo l,←fG] at hO2
   obtain ⟨a33,l33,c33,rfl,h33⟩:=hO2.shape
   refine .go ?_
   refine .z 9 rfl (zfa bE) ?_
   refine .E 10 hs ?_
   refine .store hs rfl rfl j7 ?_;intro w hs
   refine .go ?_
   refine .D hs ?_
   refine nB (nT ?_)
   refine .region (.z zm (.z ck (.z zg (.nil ?_))))
   refine nT ?_
   exact ⟨i+1,.bU rfl bL aR,⟨ak,_,_,by rw [hsn,if_pos (of_decide_eq_true hc24)];exact hO2,hs.sb⟩,ak⟩
  ·refine .skip ?_
   refine nB (nT ?_)
   refine .region (.z zm (.z ck (.z zg (.nil ?_))))
   refine nT ?_
   exact ⟨i+1,.bU rfl bL aR,⟨ak,_,_,by rw [hsn,if_neg (of_decide_eq_false hc24)];exact hO,hs.sb⟩,ak⟩
 ·refine .exit ?_
  refine xT (xT (xB (nT ?_)))
  refine .aj (.y hs (zls [_,_] aN aB) ?_)
  refine .o (.aZ (vs:=[_,_]) hs rfl rfl aB fun w hs=>?_)
  refine .nil ?_
  refine .ret ?_
  obtain rfl:i=s.bP.length:=by omega
  rw [zN] at hO hol
  obtain ⟨H1,hle1,hR,hs⟩:=cf.cq (m:=4) (cs:=(s.only bs).bP.map Lim.c) hO (fun c hc=>by simp only [List.mem_map] at hc;obtain ⟨x,_,rfl⟩:=hc;rfl) ak (by rw [List.length_map];omega) hs .here
  exact Fin.iA [] [] hs fun w hs=>⟨_,results1 Tryz.results52 (dF (vs:=[_,_]) hs rfl aN aB),H1,_,hle1,rfl,hR,hs.out⟩
set_option maxHeartbeats 4000000 in
theorem p6{v:Value}{g:Ez}{n:Int}(hs:St H w σ)(hg:BG H v g):
  Cl Tryz.prog 10 [v,I n] w fun v w'=>v= .bool true∧∃H',HLe H H'∧St H' w' σ:=by
 obtain ⟨vs,v5,v4,vp,rfl,g1,g2,g3,g4⟩:=hg
 refine Cl.o Tryz.func10 Tryz.ntmps10 ag2 ?_
 refine .aj ?_
 refine .bx hs fun b2 w hs=>?_
 refine .z zg (.nil (.aj ?_))
 refine .o (.call Tryz.call22 rfl (ng hs) ?_);rintro _ w ⟨rfl,H1,hle1,hs⟩
 refine .z zg (.nil (.aj (.y hs (zls [_,_,_,_,_,_,_] Tryz.isAgg27 Tryz.sizeOf27) ?_)))
 refine .o (.call Tryz.call23 rfl (lK hs (g1.mono hle1) (g2.mono hle1) (g3.mono hle1) (g4.mono hle1)) ?_);rintro _ w ⟨H2,s,vst,vwa,vr,vc,hle2,rfl,h1,h2,h3,h4,hSpl,hs⟩
 obtain ⟨ast,cst,rfl⟩:=RI.shape h1
 obtain ⟨awa,cwa,rfl⟩:=RI.shape h2
 obtain ⟨ar,cr,rfl⟩:=RRd.shape h3
 obtain ⟨ac,cc,rfl⟩:=RCm.shape h4
 have hle02:=hle1.trans hle2
 refine .o (.alloc hs eo rfl fun b6 w hs=>?_)
 refine .o (.aZ (vs:=[_,_,_,_,_,_,_,_]) hs rfl rfl aE fun w hs=>?_)
 refine .nil (.aj (.y hs (zls [_,_,_,_,_,_,_,_] aP aE) ?_))
 refine .o (.call Tryz.call32 rfl (kT (s:=s) hs h1 h2 h3 h4) ?_);rintro _ w ⟨H3,vx,out,e8,hle3,rfl,hX,hCl,hs⟩
 obtain ⟨ax,cx,rfl⟩:=RI.shape hX
 replace h1:=h1.mono hle3
 replace h2:=h2.mono hle3
 replace h3:=h3.mono hle3
 replace h4:=h4.mono hle3
 refine .z zm (.z zex (.z zex (.z zg (.z zg (.nil (.seq (.aj (.y hs (zls [_,_,_,_,_,_,_,_] aP aE) ?_))))))))
 refine .o (.call wy rfl (dY (s:=s) hs h1 h2 h3 h4) ?_);rintro _ w ⟨H4,e27,hle4,rfl,hC,hs⟩
 replace hX:=hX.mono hle4
 replace h1:=h1.mono hle4
 replace h2:=h2.mono hle4
 replace h3:=h3.mono hle4
 replace h4:=h4.mono hle4
 have hle04:=hle02.trans (hle3.trans hle4)
 refine .z gx (.nil ?_)
 refine (.eH rfl (fun hc28=>?_) (fun hc28=>?_))
 ·refine .aj (.z zm (.z zm ?_))
  refine .gT rfl rfl ?_
  refine .z zm ?_
  refine .gT rfl rfl ?_
  refine .y hs (zls [_,_,_,_,_,_,_,_] aP aE) ?_
  refine .gT rfl rfl ?_
  obtain rfl:=Bv hC hc28 hCl
  refine .o (.call wy rfl (dY (s:=s) hs h1 h2 h3 h4) ?_);rintro _ w ⟨H5,e33,hle5,rfl,hC2,hs⟩
  obtain rfl:=hC.uniq hC2
  refine .gT rfl rfl ?_
  refine .z fo (.z zpT (.z zg (.nil ?_)))
  refine .ret (rT (Fin.bH Tryz.results10 rfl ?_))
  exact ⟨bL,H5,hle04.trans hle5,hs.out⟩
 ·refine .skip ?_
  refine nT ?_
  refine .aj (.y hs (zls [_,_,_,_,_,_,_,_] aP aE) (.z (zbd [_,_,_] jD) ?_))
  have hok:eh s:=hC.cu.1 (by simpa using hc28)
  have hll:=hok.bP
  have hwt:=hok.early.1.wa.two
  have hq:fk s.sp ⟨1,0,1⟩:= .litres rfl rfl ⟨by decide,by show (1:Int)≤_;omega⟩ gd
  have hcl:=CZ hok hCl
  refine .o (.call Tryz.call26 rfl (kU (s:=s) (q:=⟨1,0,1⟩) hs h1 h2 h3 h4) ?_);rintro _ w ⟨H5,lo,hi,e10,hle5,rfl,hQ,hs⟩
  have hqf:=AM hQ hok hq
  replace hX:=hX.mono hle5
  replace h1:=h1.mono hle5
  replace h2:=h2.mono hle5
  replace h3:=h3.mono hle5
  replace h4:=h4.mono hle5
  have hle05:=hle04.trans hle5
  refine .z zm (.z zex (.z zex ?_))
  refine .o (.alloc hs eU rfl fun b9 w hs=>?_)
  refine .o (.aZ (vs:=[_,_]) hs rfl rfl aT fun w hs=>?_)
  refine .z zg (.nil (.seq (.aj (.z zm (.z fo (.nil ?_))))))
  refine (.bB rfl (fun hc43=>?_) (fun hc43=>?_))
  ·refine .aj (.z zm (.z zm ?_))
   refine .gT rfl rfl ?_
   obtain ⟨hsd,rfl⟩:s.sys.Sound∧out=[]:=by
    rcases hcl with ⟨_,h⟩|⟨h,_⟩
    ·exact h
    ·omega
   obtain rfl:=hqf.1 hsd
   refine .z zm ?_
   refine .gT rfl rfl ?_
   refine .z fo ?_
   rw [decide_eq_true rfl]
   refine .z zpT (.z zm ?_)
   refine .gT rfl rfl ?_
   refine .z zm ?_
   refine .gT rfl rfl ?_
   refine .z (cB ae) ?_
   refine .gT rfl rfl ?_
   refine .z fo (.z zpT (.z zg (.nil ?_)))
   refine .ret (rT (Fin.bH Tryz.results10 rfl ?_))
   exact ⟨bL,H5,hle05,hs.out⟩
  ·refine .skip ?_
   refine nT ?_
   refine .aj (.y hs (zls [_,_,_,_,_,_,_,_] aP aE) ?_)
   obtain ⟨rfl,hns,hcf⟩:e8=0∧¬s.sys.Sound∧om s.sys out 0:=by
    rcases hcl with ⟨h,_⟩|h
    ·exact (hc43 h).elim
    ·exact h
   obtain rfl:=hqf.2 hns
   obtain ⟨hsok,-,hP,hne⟩:=hcf.Gm
   have holen:=hP.len
   have hsl:s.sys.bP.length=s.bP.length:=rfl
   have hopos:=List.length_pos_iff.2 hne
   refine .o (.call Tryz.call38 rfl (oW (s:=s) hs h1 h2 h3 h4) ?_);rintro _ w ⟨H6,t,ul,e12,hle6,rfl,hL,hSy,hs⟩
   obtain rfl:e12=0:=hSy.1.cu.2 hok
   obtain rfl:t=s.sys:=hSy.2.1 rfl
   obtain ⟨al,cl,rfl⟩:=RL.shape hL
   replace hX:=hX.mono hle6
   replace h1:=h1.mono hle6
   replace h2:=h2.mono hle6
   replace h3:=h3.mono hle6
   replace h4:=h4.mono hle6
   have hle06:=hle05.trans hle6
   refine .z zm (.z zex (.z zex ?_))
   refine .o (.alloc hs bV rfl fun b11 w hs=>?_)
   refine .o (.aZ (vs:=[_,_]) hs rfl rfl aB fun w hs=>?_)
   refine .z zg (.nil (.seq (.aj (.z zm (.z gx ?_)))))
   rw [decide_eq_true rfl]
   refine .z zm ?_
   refine .gT rfl rfl ?_
   refine .z zm ?_
   refine .gT rfl rfl ?_
   refine .z gx ?_
   rw [decide_eq_true rfl]
   refine .z zpF (.z zm ?_)
   refine .gT rfl rfl ?_
   refine .z zm ?_
   refine .gT rfl rfl ?_
   refine .z gx ?_
   rw [decide_eq_true rfl]
   refine .z zpF (.z zm ?_)
   refine .gT rfl rfl ?_
   refine .z zm ?_
   refine .gT rfl rfl ?_
   refine .z (cB ae) ?_
   refine .gT rfl rfl ?_
   refine .z fo (.z zpF (.nil ?_))
   refine (.bB rfl (fun hc73=>?_) (fun hc73=>?_))
   ·refine .aj (.z zg (.nil ?_))
    refine .ret (rT (Fin.bH Tryz.results10 rfl ?_))
    omega
   ·refine .skip ?_
    refine nT ?_
    refine .aj (.y hs (zls [_,_] aN aB) (.z zm ?_))
    refine .o (.call Tryz.call52 rfl (nh (s:=s.sys) (bs:=out) hs hL hX ak) ?_);rintro _ w ⟨H7,ul7,hle7,rfl,hL7,hs⟩
    obtain ⟨al7,cl7,rfl⟩:=RL.shape hL7
    have hle07:=hle06.trans hle7
    refine .o (.call Tryz.call51 rfl (jQ (s:=s.sys.only out) hs ⟨_,rfl,hL7⟩) ?_);rintro _ w ⟨H8,vx8,xs8,e14,hle8,rfl,hX8,hC8,hs⟩
    obtain ⟨ax8,cx8,rfl⟩:=RI.shape hX8
    obtain rfl:e14=0:=hC8.err.trans ((s.sys.only out).cu.2 (hsok.only out))
    have hxs8:0<xs8.length:=List.length_pos_iff.2 fun h=>hP.bad (hC8.sP.1 h)
    have hle08:=hle07.trans hle8
    replace hX:=hX.mono (hle7.trans hle8)
    replace hL:=RS.mono hL (hle7.trans hle8)
    refine .z zm (.z zex (.z zex (.z zg (.z zg (.nil (.aj (.z zm (.z zm (.z (cB ae) ?_)))))))))
    refine .o (.call da rfl (bK hs ak) ?_);rintro _ w ⟨k,hk,rfl,hs⟩
    have hsc:=CV (k:=k) hcf ak
    have hxc:=(RI.len hX).2.1
    refine .z zg (.nil ?_)
    refine .seq (.draw mix rfl hs fun w hs=>?_)
    refine .ys 0 rfl hs [_,_] aN aB ?_;refine .z 2 rfl zm ?_;refine .z 3 rfl zm ?_
    refine .z 4 rfl (lO (k:=k) rfl rfl ae ai rfl ak) ?_
    refine .z 6 rfl zm ?_;refine .z 7 rfl zm ?_;refine .z 8 rfl ck ?_
    refine .z 9 rfl (ta (k:=k+1) rfl rfl ae ai (by push_cast;omega) ak) ?_
    refine .E 1 hs ?_
    refine .buildSlice (cells:=[]) hs kZ rfl rfl ?_;intro b87 w hs
    refine .go ?_
    refine .E 5 hs ?_
    refine .append (xs:=[]) hs bZ rfl rfl (.full (len:=0) rfl) (Src.ints (hX.head (k:=k) ak)) (gU _) (fun l' h=>by simp at h;obtain rfl:l'=0:=ak;rw [List.length_take];omega) ?_;intro v91 en91 w hO hs
    rw [List.nil_append] at hO
    obtain ⟨a91,c91,rfl⟩:=hO.uy
    rw [List.length_take,Nat.min_eq_left ak] at hO ⊢
    refine .go ?_
    refine .E 10 hs ?_
    refine .append hs bZ rfl rfl hO (Src.ints (hX.tail (k:=k+1) ak)) (gU _) (fun l' h=>by simp [List.length_take] at h;rw [List.length_drop];omega) ?_;intro v96 en96 w hO2 hs
    rw [←List.map_append] at hO2
    obtain ⟨H9,hle9,hR9,hs⟩:=cf.de hO2 (by rw [List.length_append,List.length_take,List.length_drop];omega) hs cP
    obtain ⟨a96,c96,rfl⟩:=RI.shape hR9
    have hle09:=hle08.trans hle9
    replace hX:=hX.mono hle9
    replace hL:=RS.mono hL hle9
    refine .go ?_
    refine .E 11 hs ?_
    refine .call Tryz.call52 rfl (nh (s:=s.sys) (bs:=out.take k++out.drop (k+1)) hs hL hR9 ak) ?_;rintro _ w ⟨H10,ul10,hle10,rfl,hL10,hs⟩
    obtain ⟨al10,cl10,rfl⟩:=RL.shape hL10
    have hle010:=hle09.trans hle10
    refine .go ?_
    refine .E 12 hs ?_
    refine .call Tryz.call51 rfl (jQ (s:=s.sys.only (out.take k++out.drop (k+1))) hs ⟨_,rfl,hL10⟩) ?_;rintro _ w ⟨H11,vx11,xs11,e17,hle11,rfl,hX11,hC11,hs⟩
    obtain ⟨ax11,cx11,rfl⟩:=RI.shape hX11
    obtain rfl:e17=0:=hC11.err.trans ((s.sys.only _).cu.2 (hsok.only _))
    obtain rfl:xs11=[]:=hC11.sP.2 hsc
    have hle011:=hle010.trans hle11
    replace hX:=hX.mono (hle10.trans hle11)
    replace hL:=RS.mono hL (hle10.trans hle11)
    refine .go ?_
    refine .z 13 rfl zm ?_;refine .z 14 rfl zex ?_;refine .z 15 rfl zex ?_;refine .z 16 rfl zg ?_;refine .z 17 rfl zg ?_;refine .D hs ?_
    refine .aj (.z zm (.z zm ?_))
    refine .gT rfl rfl ?_
    refine .z zm ?_
    refine .gT rfl rfl ?_
    refine .z fo ?_
    rw [decide_eq_true rfl]
    refine .z zpT (.z zm ?_)
    refine .gT rfl rfl ?_
    refine .z zm ?_
    refine .gT rfl rfl ?_
    refine .z fo ?_
    rw [decide_eq_true rfl]
    refine .z zpT (.z zm ?_)
    refine .gT rfl rfl ?_
    refine .z zm ?_
    refine .gT rfl rfl ?_
    refine .z (cB ae) ?_
    refine .gT rfl rfl ?_
    refine .z kD ?_
    rw [decide_eq_true ak]
    refine .z zpT (.z zm ?_)
    refine .gT rfl rfl ?_
    refine .z zm ?_
    refine .gT rfl rfl ?_
    refine .z (cB ae) ?_
    refine .gT rfl rfl ?_
    refine .z fo (.z zpT (.z zm ?_))
    refine .gT rfl rfl ?_
    refine .y hs (zls [_,_] aN aB) ?_
    refine .gT rfl rfl ?_
    refine .z zm ?_
    refine .gT rfl rfl ?_
    refine .o (.call Tryz.call53 rfl (lX (s:=s.sys) (bs:=out) hs ⟨_,rfl,hL⟩ hX) ?_);rintro _ w ⟨H12,e123,hle12,rfl,hC12,hs⟩
    obtain rfl:=hC12.uniq (.ok hsok hP)
    refine .gT rfl rfl ?_
    refine .z fo (.z zpT (.z zg (.nil ?_)))
    refine .ret (Fin.bH Tryz.results10 rfl ?_)
    exact ⟨bL,H12,hle011.trans hle12,hs.out⟩
end Go.Proofs.YtddaejgfjlneoaaGreat
