/-
  Texts of these claims, joined: Zn Zo Zp Zq Zr Zs Zt Zv Zx Zy Zz Na Nb Nc Nd Ne Nf.
-/
import Derived.Test.YtddaejgfjlneoaaGreatDd
namespace Go.Proofs.YtddaejgfjlneoaaGreat
open Go.MW
variable{H:cE}{w:World}{σ:List Ent}
theorem jK{a d:Int}(hs:St H w σ)(hd:1≤d)(ha: -4608000000000000000≤a∧a≤4608000000000000000):
  Cl Tryz.prog 86 [I a,I d] w fun v w'=>v=I (a/d)∧St H w' σ:=by
 have hq: -4608000000000000000≤a.tdiv d∧a.tdiv d≤4608000000000000000:=by
  have h1:=te (n:=a) (d:=d) ak
  have h2:a/d≤4608000000000000000:=Int.ediv_le_of_le_mul ak (by
   have:=Int.mul_le_mul_of_nonneg_left hd (show (0:Int)≤4608000000000000000 by omega);omega)
  have h3: -4608000000000000000≤a/d:=Int.le_ediv_of_mul_le ak (by
   have:=Int.mul_le_mul_of_nonneg_left hd (show (0:Int)≤4608000000000000000 by omega);omega)
  by_cases h0:0≤a
  ·rw [Int.tdiv_eq_ediv_of_nonneg h0];omega
  ·split at h1
   ·have:a/d<0:=Int.ediv_neg_of_neg_of_pos ak ak
    omega
   ·omega
 have hfl:=te (n:=a) (d:=d) ak
 refine Cl.o Tryz.func86 Tryz.ntmps86 ag2 ?_
 refine .aj (.z zg (.nil (.aj (.z zm (.z zm ?_)))))
 refine .q hs (ue rfl rfl ak ⟨ak,ak⟩) ?_
 refine .z zg (.nil (.seq (.aj (.z zm (.z zm (.z CI (.z fD (.nil ?_))))))))
 refine (.bJ rfl (fun hc12=>?_) (fun hc12=>?_))
 ·refine .region (.z zm (.z gO (.z zg (.nil ?_))))
  refine nT ?_
  refine .aj (.z zm (.z zg (.nil ?_)))
  refine .ret (Fin.bK Tryz.results86 rfl ?_)
  rw [if_pos hc12] at hfl
  exact ⟨by rw [hfl],hs⟩
 ·refine .skip ?_
  refine nT ?_
  refine .aj (.z zm (.z zg (.nil ?_)))
  refine .ret (Fin.bK Tryz.results86 rfl ?_)
  rw [if_neg hc12,Int.sub_zero] at hfl
  exact ⟨by rw [hfl],hs⟩
theorem px{s:Srv}{vst vwa vr vc:Value}(hs:St H w σ)(h1:RI H vst s.sp.st)(h2:RI H vwa s.sp.wa)(h3:RRd H vr s.rs)(h4:RCm H vc s.cs)(hok:eD s):
  Cl Tryz.prog 169 [.agg #[I s.sp.id,I s.sp.src,vst,vwa,I s.sp.al,I s.sp.up,vr,vc]] w fun u w'=>∃H1,∃b:Bool,HLe H H1∧u= .bool b∧(b=true↔s.sys.Sound)∧St H1 w' σ:=by
 refine Cl.o Tryz.func169 Tryz.ntmps169 ag1 ?_
 refine .aj ?_
 refine .bx hs fun b1 w hs=>?_
 refine .z zg (.nil (.aj (.y hs (zls [_,_,_,_,_,_,_,_] aD az) ?_)))
 refine .o (.call se rfl (eC (s:=s) hs h1 h2 h3 h4 hok.early) ?_);rintro v7 w ⟨H1,hle1,hS,hs⟩
 refine .o (.call Tryz.call51 rfl (sP (s:=s.sys) hs hS) ?_);rintro _ w ⟨H2,vx,xs,e,hle2,rfl,rx,hC,hs⟩
 obtain ⟨ax,cx,rfl⟩:=RI.shape rx
 have hchk:s.sys.check=0:=s.sys.cD.2 hok.sys
 obtain rfl:e=0:=by
  cases hC with
  |bad h=>exact (h hchk).elim
  |sound=>rfl
  |chain=>rfl
 have hiff:=hC.Bp
 refine .z zm (.z zex (.z zex (.z zg (.z zg (.nil (.aj (.z zm (.z fw (.z zm ?_)))))))))
 refine .iB (t':=13) rfl (fun hb13=>?_) (fun hb13=>?_)
 ·refine .gT rfl rfl ?_
  refine .z zm ?_
  refine .gT rfl rfl ?_
  refine .z (cN ae) ?_
  refine .gT rfl rfl ?_
  refine .z fw (.z zpT (.z zg (.nil ?_)))
  refine .ret (Fin.bK Tryz.results169 rfl ?_)
  first
  |exact ⟨H2,_,hle1.trans hle2,rfl,by rw [←hiff,decide_eq_true_eq];exact ⟨fun h=>List.length_eq_zero_iff.1 ak,fun h=>by rw [h];rfl⟩,hs.out⟩
  |exact (hb13 rfl).elim
 ·refine .gFs 3 2 true rfl rfl rfl ?_
  refine .z zpF (.z zg (.nil ?_))
  refine .ret (Fin.bK Tryz.results169 rfl ?_)
  first
  |exact ⟨H2,_,hle1.trans hle2,rfl,by rw [←hiff,decide_eq_true_eq];exact ⟨fun h=>List.length_eq_zero_iff.1 ak,fun h=>by rw [h];rfl⟩,hs.out⟩
  |exact (hb13 rfl).elim
theorem Ea(L:List Int)(j:Nat):L++List.replicate j 0++[0]=L++List.replicate (j+1) 0:=by
 rw [List.append_assoc,←List.replicate_succ']
set_option maxHeartbeats 1000000 in
theorem sL{s:Srv}{q:Wht}{vst vwa vr vc:Value}(hs:St H w σ)(h1:RI H vst s.sp.st)(h2:RI H vwa s.sp.wa)(h3:RRd H vr s.rs)(h4:RCm H vc s.cs)(hok:eD s):
  Cl Tryz.prog 155 [.agg #[I s.sp.id,I s.sp.src,vst,vwa,I s.sp.al,I s.sp.up,vr,vc],.agg #[I q.kind,I q.st,I q.wa]] w fun u w'=>∃H1 ul vw L d b,HLe H H1∧u= .tuple #[.agg #[I s.sys.many,ul,vw,I d],.bool b]∧RL H1 ul s.bU∧RI H1 vw L∧L.length=s.sys.n∧((b=true∧gW s.sp q∧L=s.w q∧d=oU q)∨(b=false∧¬gW s.sp q))∧St H1 w' σ:=by
 have hn:=rj s
 have hm:=hok.many
 have hsm:s.sys.many+1=(s.sys.n:Int):=by rw [hn];show ((s.sp.many+s.bD.length:Nat):Int)+1=_;omega
 refine Cl.o Tryz.func155 Tryz.ntmps155 ag2 ?_
 refine .aj ?_
 refine .bx hs fun b2 w hs=>?_
 refine .bx hs fun b3 w hs=>?_
 refine .o (.alloc hs xr rfl fun b4 w hs=>?_)
 refine .z zg (.nil (.aj (.y hs (zls [_,_,_,_,_,_,_,_] aD az) ?_)))
 refine .o (.call se rfl (eC (s:=s) hs h1 h2 h3 h4 hok.early) ?_);rintro _ w ⟨H1,hle1,⟨ul,rfl,hL⟩,hs⟩
 obtain ⟨al,cl,rfl⟩:=RL.shape hL
 refine .o (.alloc hs dd rfl fun b6 w hs=>?_)
 refine .o (.aZ (vs:=[_,_]) hs rfl rfl aM fun w hs=>?_)
 refine .nil (.aj (.z (zfa aJ) (.y hs (zls [_,_,_,_,_,_] aF aB) (.y hs (zls [_,_,_] dP bV) ?_))))
 refine .o (.call Tryz.call102 rfl (km (s:=s.sp) (q:=q) hs (h1.mono hle1) (h2.mono hle1) hok.early.1) ?_);rintro _ w ⟨H2,vl,L0,d,b,en,hle2,rfl,hO,hcase,hs⟩
 have hL0:L0.length≤s.sys.n:=by
  rcases hcase with ⟨_,_,rfl,_⟩|⟨_,_,rfl,_⟩
  ·rw [gG,hn];omega
  ·simp
 have hle02:=hle1.trans hle2
 refine .z zm (.z zex (.z zex (.z zex (.z zg (.z zg (.z zg (.nil (.seq (.block ?_)))))))))
 refine .loop (fun p:Nat×Value=>⟨34,[],[(7,p.2),(8,I d),(9,.bool b),(6,.pointer (some ⟨b6,0,none⟩)),(4,.pointer (some ⟨b4,0,none⟩))]⟩)
  (fun p w=>L0.length+p.1≤s.sys.n∧∃en,cz 1 p.2 (Is (L0++List.replicate p.1 0)) en∧St H2 w (en:: .blk b6 [I s.sys.many,.slice al s.bU.length cl]:: .blk b4 [I 0,.slice none 0 0,.slice none 0 0,I 0]::σ)) (fun p=>s.sys.n - (L0.length+p.1)) (0,vl) a8
  ⟨by simpa using hL0,en,by simpa using hO,hs.sb⟩ ?_
 clear hO hs
 rintro ⟨j,vo⟩ w ⟨hj,en,hO,hs⟩
 dsimp only at hj hO ⊢
 obtain ⟨ao,lo,co,rfl,hlo⟩:=hO.shape
 have hlo':lo=L0.length+j:=by simp [Is] at hlo;omega
 refine .seq (.aj (.z zm (.z (cN ae) (.z (zfa bA) (.y hs (zld af) (.z cH (.z fD (.nil ?_))))))))
 refine (.bJ rfl (fun hc25=>?_) (fun hc25=>?_))
 ·refine .skip ?_
  refine nT ?_
  refine .block (.region (.z zm ?_))
  refine .o (.buildSlice (cells:=[_]) hs bX rfl rfl fun b27 w hs=>?_)
  refine .o (.append (ys:=Is [0]) hs bg rfl rfl hO (.own .here rfl rfl) (dM _) (fun l' h=>by simp [Is] at h;omega) ?_);intro v28 en28 w hO2 hs
  rw [show Is (L0++List.replicate j 0)++Is [0]=Is (L0++List.replicate (j+1) 0) by rw [←Ea];simp [Is]] at hO2
  refine .z zg (.nil ?_)
  refine nB (nT ?_)
  exact ⟨(j+1,v28),a8,⟨by dsimp only;omega,_,hO2,hs.sb⟩,by dsimp only;omega⟩
 ·refine .exit ?_
  refine xT (xT (xB (nT ?_)))
  refine .aj (.y hs (zls [_,_] bp aM) (.z zm (.z zm (.z (zbd [_,_,_,_] gq) (.z zm ?_)))))
  refine .o (.aZ (vs:=[_,_,_,_]) hs rfl rfl fb fun w hs=>?_)
  refine .z zg (.nil ?_)
  refine .ret ?_
  have hjn:L0.length+j=s.sys.n:=by omega
  obtain ⟨H3,hle3,hR,hs⟩:=cz.cK hO (by simp;omega) hs cU
  exact Fin.gR [] [] hs fun w hs=>⟨_,results2 Tryz.results155 (dv (vs:=[_,_,_,_]) hs rfl yz fb) rfl,H3,_,_,_,d,b,hle02.trans hle3,rfl,hL.mono (hle2.trans hle3),hR,by simp;omega,by
   rcases hcase with ⟨g1,g2,rfl,g3⟩|⟨g1,g2,_,_⟩
   ·refine .inl ⟨g1,g2,?_,g3⟩
    rw [gG,hn] at hjn
    unfold Srv.w;rw [show j=s.bD.length by omega]
   ·exact .inr ⟨g1,g2⟩,hs.out⟩
inductive xk(v:Srv)(q:Wht):Int→Prop
 |bad {e:Int} (h:tl v e) (he:e≠0):xk v q e
 |what (h:eD v) (h1:¬gW v.sp q):xk v q 33
 |fls (h:eD v) (h1:gW v.sp q) (h2:¬v.sys.Sound):xk v q 35
 |ok (h:eD v) (h1:gW v.sp q) (h2:v.sys.Sound):xk v q 0
theorem xk.zero{v:Srv}{q:Wht}(h:xk v q 0):eD v∧gW v.sp q∧v.sys.Sound:=by
 generalize hz:(0:Int)=z at h
 cases h with
 |bad h he=>exact (he hz.symm).elim
 |what=>omega
 |fls=>omega
 |ok h h1 h2=>exact ⟨h,h1,h2⟩
theorem xk.qty{v:Srv}{q:Wht}{e:Int}(h:xk v q e)(he:e≠0):CN v q 0 0 e:=by
 cases h with
 |bad h he=>exact .bad h he
 |what h h1=>exact .what h h1
 |fls h h1 h2=>exact .fls h h1 h2
 |ok=>exact (he rfl).elim
set_option maxHeartbeats 1000000 in
theorem qj{s:Srv}{q:Wht}{vst vwa vr vc:Value}(hs:St H w σ)(h1:RI H vst s.sp.st)(h2:RI H vwa s.sp.wa)(h3:RRd H vr s.rs)(h4:RCm H vc s.cs):
  Cl Tryz.prog 85 [.agg #[I s.sp.id,I s.sp.src,vst,vwa,I s.sp.al,I s.sp.up,vr,vc],.agg #[I q.kind,I q.st,I q.wa]] w fun u w'=>∃H1 m ul vw d e,HLe H H1∧u= .tuple #[.agg #[I m,ul,vw,I d],I e]∧(∃a l c,ul= .slice a l c)∧(∃a l c,vw= .slice a l c)∧xk s q e∧(e=0→m=s.sys.many∧RL H1 ul s.bU∧RI H1 vw (s.w q)∧d=oU q)∧St H1 w' σ:=by
 refine Cl.o Tryz.func85 Tryz.ntmps85 ag2 ?_
 refine .aj ?_
 refine .bx hs fun b2 w hs=>?_
 refine .bx hs fun b3 w hs=>?_
 refine .o (.alloc hs xr rfl fun b4 w hs=>?_)
 refine .z zg (.nil (.seq (.aj (.y hs (zls [_,_,_,_,_,_,_,_] aD az) ?_))))
 refine .o (.call jQ rfl (dp (s:=s) hs h1 h2 h3 h4) ?_);rintro _ w ⟨H1,e,hle1,rfl,hC,hs⟩
 refine .z zg (.nil (.aj (.z zm (.z gP (.nil ?_)))))
 refine (.eI rfl (fun hc12=>?_) (fun hc12=>?_))
 ·refine .aj (.z (zbd [_,_,_,_] gq) (.z zm ?_))
  refine .o (.aZ (vs:=[_,_,_,_]) hs rfl rfl fb fun w hs=>?_)
  refine .z zg (.nil ?_)
  refine .ret (rT (?_))
  exact Fin.gR [] [] hs fun w hs=>⟨_,results2 Tryz.results85 (dv (vs:=[_,_,_,_]) hs rfl yz fb) rfl,H1,_,_,_,_,e,hle1,rfl,⟨_,_,_,rfl⟩,⟨_,_,_,rfl⟩,.bad hC hc12,fun h=>(hc12 h).elim,hs.out⟩
 ·refine .skip ?_
  refine nT ?_
  refine .aj (.y hs (zls [_,_,_,_,_,_,_,_] aD az) (.y hs (zls [_,_,_] dP bV) ?_))
  have hok:eD s:=hC.cD.1 (by simpa using hc12)
  refine .o (.call Tryz.call155 rfl (sL (s:=s) (q:=q) hs (h1.mono hle1) (h2.mono hle1) (h3.mono hle1) (h4.mono hle1) hok) ?_);rintro _ w ⟨H2,ul,vw,L,d,b,hle2,rfl,hL,hR,hLl,hcase,hs⟩
  have hle02:=hle1.trans hle2
  obtain ⟨al,cl,rfl⟩:=RL.shape hL
  obtain ⟨aw,cw,rfl⟩:=RI.shape hR
  refine .z zm (.z zex (.z zex ?_))
  refine .o (.alloc hs xr rfl fun b7 w hs=>?_)
  refine .o (.aZ (vs:=[_,_,_,_]) hs rfl rfl fb fun w hs=>?_)
  refine .z zg (.nil (.seq (.block (.aj (.z zm (.z iD (.z zg (.nil ?_))))))))
  refine (.cond rfl (fun hc21=>?_) (fun hc21=>?_))
  ·refine .aj (.z (zbd [_,_,_,_] gq) ?_)
   refine .o (.aZ (vs:=[_,_,_,_]) hs rfl rfl fb fun w hs=>?_)
   refine .z zg (.nil ?_)
   refine .ret (rB (rT (?_)))
   have hq:¬gW s.sp q:=by
    rcases hcase with ⟨g,_⟩|⟨_,g⟩
    ·subst g;cases hc21
    ·exact g
   exact Fin.gR [] [] hs fun w hs=>⟨_,results2 Tryz.results85 (dv (vs:=[_,_,_,_]) hs rfl yz fb) rfl,H2,_,_,_,_,_,hle02,rfl,⟨_,_,_,rfl⟩,⟨_,_,_,rfl⟩,.what hok hq,fun h=>by omega,hs.out⟩
  ·refine .aj (.y hs (zls [_,_,_,_,_,_,_,_] aD az) ?_)
   obtain ⟨rfl,hq,rfl,rfl⟩:b=true∧gW s.sp q∧L=s.w q∧d=oU q:=hcase.resolve_right fun h=>by rw [h.1] at hc21;cases hc21
   refine .o (.call Tryz.call169 rfl (px (s:=s) hs (h1.mono hle02) (h2.mono hle02) (h3.mono hle02) (h4.mono hle02) hok) ?_);rintro _ w ⟨H3,b27,hle3,rfl,hb27,hs⟩
   refine .z iD (.z zg (.nil ?_))
   refine (.cond rfl (fun hc25=>?_) (fun hc25=>?_))
   ·refine .aj (.z (zbd [_,_,_,_] gq) ?_)
    refine .o (.aZ (vs:=[_,_,_,_]) hs rfl rfl fb fun w hs=>?_)
    refine .z zg (.nil ?_)
    refine .ret (rB (rT (?_)))
    exact Fin.gR [] [] hs fun w hs=>⟨_,results2 Tryz.results85 (dv (vs:=[_,_,_,_]) hs rfl yz fb) rfl,H3,_,_,_,_,_,hle02.trans hle3,rfl,⟨_,_,_,rfl⟩,⟨_,_,_,rfl⟩,.fls hok hq (fun h=>by rw [hb27.2 h] at hc25;cases hc25),fun h=>by omega,hs.out⟩
   ·refine .skip ?_
    refine nB (nT ?_)
    refine .aj (.y hs (zls [_,_,_,_] yz fb) ?_)
    refine .o (.aZ (vs:=[_,_,_,_]) hs rfl rfl fb fun w hs=>?_)
    refine .z zg (.nil ?_)
    refine .ret ?_
    exact Fin.gR [] [] hs fun w hs=>⟨_,results2 Tryz.results85 (dv (vs:=[_,_,_,_]) hs rfl yz fb) rfl,H3,_,_,_,_,_,hle02.trans hle3,rfl,⟨_,_,_,rfl⟩,⟨_,_,_,rfl⟩,.ok hok hq (hb27.1 (by simpa using hc25)),fun _=>⟨rfl,hL.mono hle3,hR.mono hle3,rfl⟩,hs.out⟩
set_option maxHeartbeats 1000000 in
theorem qn{s:Srv}{q:Wht}{vst vwa vr vc:Value}(hs:St H w σ)(h1:RI H vst s.sp.st)(h2:RI H vwa s.sp.wa)(h3:RRd H vr s.rs)(h4:RCm H vc s.cs):
  Cl Tryz.prog 26 [.agg #[I s.sp.id,I s.sp.src,vst,vwa,I s.sp.al,I s.sp.up,vr,vc],.agg #[I q.kind,I q.st,I q.wa]] w fun u w'=>∃H1 lo hi e,HLe H H1∧u= .tuple #[.agg #[I lo,I hi],I e]∧CN s q lo hi e∧St H1 w' σ:=by
 refine Cl.o Tryz.func26 Tryz.ntmps26 ag2 ?_
 refine .aj ?_
 refine .bx hs fun b2 w hs=>?_
 refine .bx hs fun b3 w hs=>?_
 refine .o (.alloc hs eQ rfl fun b4 w hs=>?_)
 refine .z zg (.nil (.aj (.y hs (zls [_,_,_,_,_,_,_,_] aD az) (.y hs (zls [_,_,_] dP bV) ?_))))
 refine .o (.call Tryz.call85 rfl (qj (s:=s) (q:=q) hs h1 h2 h3 h4) ?_);rintro _ w ⟨H1,m,ul,vw,d,e,hle1,rfl,⟨al,ll,cl,rfl⟩,⟨aw,lw,cw,rfl⟩,hA,hA0,hs⟩
 refine .z zm (.z zex (.z zex ?_))
 refine .o (.alloc hs xr rfl fun b6 w hs=>?_)
 refine .o (.aZ (vs:=[_,_,_,_]) hs rfl rfl fb fun w hs=>?_)
 refine .z zg (.nil (.seq (.aj (.z zm (.z gP (.nil ?_))))))
 refine (.eI rfl (fun hc17=>?_) (fun hc17=>?_))
 ·refine .aj (.z (zbd [_,_] cq) (.z zm ?_))
  refine .o (.aZ (vs:=[_,_]) hs rfl rfl aR fun w hs=>?_)
  refine .z zg (.nil ?_)
  refine .ret (rT (?_))
  exact Fin.gR [] [] hs fun w hs=>⟨_,results2 Tryz.results26 (dv (vs:=[_,_]) hs rfl cI aR) rfl,H1,_,_,_,hle1,rfl,hA.qty hc17,hs.out⟩
 ·refine .skip ?_
  refine nT ?_
  refine .aj (.z (zfa nI) (.y hs (zls [_,_] bp aM) (.z (zfa nH) (.y hs (zld an) ?_))))
  obtain rfl:e=0:=by simpa using hc17
  obtain ⟨rfl,hL,hR,rfl⟩:=hA0 rfl
  obtain ⟨hok,hq,hsd⟩:=hA.zero
  refine .o (.call Tryz.call74 rfl (kg (s:=s.sys) hs ⟨_,rfl,hL⟩ hR) ?_);rintro _ w ⟨H2,lo,hi,f,hle2,rfl,hRg,hs⟩
  obtain rfl:=qG (hok.ask hq) hsd (fun b=>s.both) hRg
  have hbd:=hRg.bd
  have hdp:=wT q
  refine .z zm (.z zex (.z zex (.z zex (.z zg (.z zg (.z zg (.nil (.seq (.aj ?_)))))))))
  refine .z zm (.z gP (.nil ?_))
  refine (.eI rfl (fun hc30=>?_) (fun hc30=>?_))
  ·refine .aj (.z (zbd [_,_] cq) (.z zm ?_))
   refine .o (.aZ (vs:=[_,_]) hs rfl rfl aR fun w hs=>?_)
   refine .z zg (.nil ?_)
   refine .ret (rT (?_))
   exact (hc30 rfl).elim
  ·refine .skip ?_
   refine nT ?_
   refine .seq (.draw mix rfl hs fun w hs=>?_)
   refine .z 0 rfl zm ?_;refine .z 1 rfl (zfa j5) ?_;refine .y 2 rfl hs af ?_;refine .z 4 rfl zm ?_;refine .z 5 rfl (zfa j5) ?_;refine .y 6 rfl hs af ?_
   refine .E 3 hs ?_
   refine .call Tryz.call86 rfl (jK hs ak ak) ?_;rintro _ w ⟨rfl,hs⟩
   refine .go ?_
   refine .E 7 hs ?_
   refine .call Tryz.call86 rfl (jK hs ak ak) ?_;rintro _ w ⟨rfl,hs⟩
   refine .go ?_
   refine .z 8 rfl (zbd [_,_] cq) ?_
   refine .E 9 hs ?_
   refine .aZ (vs:=[_,_]) hs rfl rfl aR ?_;intro w hs
   refine .go ?_
   refine .z 10 rfl zg ?_;refine .D hs ?_
   refine .ret ?_
   exact Fin.gR [] [] hs fun w hs=>⟨_,results2 Tryz.results26 (dv (vs:=[_,_]) hs rfl cI aR) rfl,H2,_,_,_,hle1.trans hle2,rfl,.ok hok hq hsd hRg,hs.out⟩
inductive Ap(v:Srv)(out:List Int):Int→Prop
 |bad {e:Int} (h:tl v e) (he:e≠0) (h1:out=[]):Ap v out e
 |ok {e:Int} (h:eD v) (h1:xi v.sys out e):Ap v out e
theorem qm{s:Srv}{vst vwa vr vc:Value}(hs:St H w σ)(h1:RI H vst s.sp.st)(h2:RI H vwa s.sp.wa)(h3:RRd H vr s.rs)(h4:RCm H vc s.cs):
  Cl Tryz.prog 32 [.agg #[I s.sp.id,I s.sp.src,vst,vwa,I s.sp.al,I s.sp.up,vr,vc]] w fun u w'=>∃H1 vx out e,HLe H H1∧u= .tuple #[vx,I e]∧RI H1 vx out∧Ap s out e∧St H1 w' σ:=by
 refine Cl.o Tryz.func32 Tryz.ntmps32 ag1 ?_
 refine .aj ?_
 refine .bx hs fun b1 w hs=>?_
 refine .z zg (.z zg (.nil (.seq (.aj (.y hs (zls [_,_,_,_,_,_,_,_] aD az) ?_)))))
 refine .o (.call jQ rfl (dp (s:=s) hs h1 h2 h3 h4) ?_);rintro _ w ⟨H1,e,hle1,rfl,hC,hs⟩
 refine .z zg (.nil (.aj (.z zm (.z gP (.nil ?_)))))
 refine (.eI rfl (fun hc10=>?_) (fun hc10=>?_))
 ·refine .aj (.z zm (.z zg (.z zg (.nil ?_))))
  refine .ret (rT (Fin.jx Tryz.results32 rfl rfl ?_))
  exact ⟨H1,_,[],_,hle1,rfl,RS.nil H1 1 none 0,.bad hC hc10 rfl,hs.out⟩
 ·refine .skip ?_
  refine nT ?_
  refine .aj (.y hs (zls [_,_,_,_,_,_,_,_] aD az) ?_)
  have hok:eD s:=hC.cD.1 (by simpa using hc10)
  refine .o (.call se rfl (eC (s:=s) hs (h1.mono hle1) (h2.mono hle1) (h3.mono hle1) (h4.mono hle1) hok.early) ?_);rintro v14 w ⟨H2,hle2,hS,hs⟩
  refine .o (.call Tryz.call98 rfl (pJ (s:=s.sys) hs hS) ?_);rintro _ w ⟨H3,vx,out,f,hle3,rfl,hR,hCf,hs⟩
  refine .z zm (.z zex (.z zex (.z zg (.z zg (.nil (.aj (.z zm (.z zm (.z zg ?_)))))))))
  refine .z zg (.nil ?_)
  refine .ret (Fin.jx Tryz.results32 rfl rfl ?_)
  exact ⟨H3,_,out,_,hle1.trans (hle2.trans hle3),rfl,hR,.ok hok hCf,hs.out⟩
set_option maxHeartbeats 1000000 in
theorem rG{s:Srv}{t:TD}{vst vwa vr vc:Value}(hs:St H w σ)(h1:RI H vst s.sp.st)(h2:RI H vwa s.sp.wa)(h3:RRd H vr s.rs)(h4:RCm H vc s.cs):
  Cl Tryz.prog 28 [.agg #[I s.sp.id,I s.sp.src,vst,vwa,I s.sp.al,I s.sp.up,vr,vc],.agg #[I t.tape,I t.day]] w fun u w'=>∃H1 lo hi e,HLe H H1∧u= .tuple #[.agg #[I lo,I hi],I e]∧xc s t lo hi e∧St H1 w' σ:=by
 refine Cl.o Tryz.func28 Tryz.ntmps28 ag2 ?_
 refine .aj ?_
 refine .bx hs fun b2 w hs=>?_
 refine .bx hs fun b3 w hs=>?_
 refine .o (.alloc hs eQ rfl fun b4 w hs=>?_)
 refine .z zg (.nil (.seq (.aj (.y hs (zls [_,_,_,_,_,_,_,_] aD az) ?_))))
 refine .o (.call jQ rfl (dp (s:=s) hs h1 h2 h3 h4) ?_);rintro _ w ⟨H1,e,hle1,rfl,hC,hs⟩
 refine .z zg (.nil (.aj (.z zm (.z gP (.nil ?_)))))
 refine (.eI rfl (fun hc15=>?_) (fun hc15=>?_))
 ·refine .aj (.z (zbd [_,_] cq) (.z zm ?_))
  refine .o (.aZ (vs:=[_,_]) hs rfl rfl aR fun w hs=>?_)
  refine .z zg (.nil ?_)
  refine .ret (rT (?_))
  exact Fin.gR [] [] hs fun w hs=>⟨_,results2 Tryz.results28 (dv (vs:=[_,_]) hs rfl cI aR) rfl,H1,_,_,_,hle1,rfl,.bad hC hc15,hs.out⟩
 ·refine .skip ?_
  refine nT ?_
  refine .seq (.draw mix rfl hs fun w hs=>?_)
  refine .ys 0 rfl hs [_,_,_,_,_,_,_,_] aD az ?_;refine .ys 2 rfl hs [_,_] da bn ?_
  refine .E 1 hs ?_
  have hok:eD s:=hC.cD.1 (by simpa using hc15)
  have hsm:=dK hok.early.1
  have hrl:=hok.early.2.1
  have hn:=rj s
  have htl:s.bD.length≤60:=by have:=db s.rs;unfold Srv.bD;omega
  refine .call Tryz.call90 rfl (gX (s:=s) hs (h3.mono hle1) ak) ?_;rintro v19 w ⟨H2,hle2,hT,hs⟩
  have hle02:=hle1.trans hle2
  refine .go ?_
  refine .E 3 hs ?_
  refine .call Tryz.call89 rfl (nk (t:=t) hs hT ak) ?_;rintro _ w ⟨rfl,hs⟩
  have hnn:=jR (l:=s.bD) (t:=t)
  refine .go ?_
  refine .z 4 rfl zg ?_;refine .D hs ?_
  refine .seq (.aj (.z zm (.z fD (.nil ?_))))
  refine (.bJ rfl (fun hc23=>?_) (fun hc23=>?_))
  ·refine .aj (.z (zbd [_,_] cq) ?_)
   refine .o (.aZ (vs:=[_,_]) hs rfl rfl aR fun w hs=>?_)
   refine .z zg (.nil ?_)
   refine .ret (rT (?_))
   exact Fin.gR [] [] hs fun w hs=>⟨_,results2 Tryz.results28 (dv (vs:=[_,_]) hs rfl cI aR) rfl,H2,_,_,_,hle02,rfl,.none hok (fun h=>by have:=hnn.2 h;omega),hs.out⟩
  ·refine .skip ?_
   refine nT ?_
   refine .seq (.draw mix rfl hs fun w hs=>?_)
   refine .z 0 rfl (zfa aJ) ?_;refine .ys 1 rfl hs [_,_,_,_,_,_] aF aB ?_;refine .ys 4 rfl hs [_,_,_,_,_,_,_,_] aD az ?_
   refine .E 2 hs ?_
   have hmem:t∈s.bD:=hnn.1 ak
   obtain ⟨k,k1,k2,k3⟩:=eY hmem
   have hlt:=eD.EM hmem
   rw [k1,Int.toNat_natCast] at hlt
   rw [k1] at hc23 ⊢
   refine .call Tryz.call91 rfl (gw (s:=s.sp) hs (h1.mono hle02) (h2.mono hle02) ⟨ak,ak⟩) ?_;rintro _ w ⟨rfl,hs⟩
   refine .go ?_
   refine .z 3 rfl cH ?_
   refine .E 5 hs ?_
   refine .call Tryz.call90 rfl (gX (s:=s) hs (h3.mono hle02) ak) ?_;rintro v30 w ⟨H3,hle3,hT2,hs⟩
   have hle03:=hle02.trans hle3
   obtain ⟨at_,ct,rfl⟩:=RTd.shape hT2
   refine .go ?_
   refine .z 6 rfl (cN aT) ?_;refine .z 7 rfl cH ?_
   refine .E 8 hs ?_
   refine .pD s.sys.n hs (by show some (I _)=some (I _);congr 2;rw [hn];show _=((s.sp.many+s.bD.length+1:Nat):Int);omega) (by show some (I _)=some (I _);congr 2;rw [hn];show _=((s.sp.many+s.bD.length+1:Nat):Int);omega) ae dW rfl ai bO ak ?_;intro b33 w hs
   refine .go ?_
   refine .z 9 rfl zg ?_;refine .D hs ?_
   refine .aj (.z zm (.z (zfa aJ) (.y hs (zls [_,_,_,_,_,_] aF aB) ?_)))
   refine .o (.call Tryz.call91 rfl (gw (s:=s.sp) hs (h1.mono hle03) (h2.mono hle03) ⟨ak,ak⟩) ?_);rintro _ w ⟨rfl,hs⟩
   refine .z cH (.z zm (.z cH ?_))
   refine .q hs (ef (k:=s.sp.many+1+k) rfl rfl ae ai ak ak) ?_
   refine .o (.store (c':=Is (pa s.sys.n (s.sp.many+1+k) 1)) hs rfl rfl ai ?_ cU (by simp [Is];omega) (lF _ _ _));intro w hs
   refine .nil (.aj (.y hs (zls [_,_,_,_,_,_,_,_] aD az) ?_))
   obtain ⟨H4,hle4,hW,hs⟩:=cz.cK (xs:=pa s.sys.n (s.sp.many+1+k) 1) (v:= .slice (some ⟨b33,0,none⟩) s.sys.n s.sys.n) (.full (by simp [Is,gD])) (by rw [gD];omega) hs cU
   have hle04:=hle03.trans hle4
   refine .o (.call se rfl (eC (s:=s) hs (h1.mono hle04) (h2.mono hle04) (h3.mono hle04) (h4.mono hle04) hok.early) ?_);rintro v44 w ⟨H5,hle5,hS,hs⟩
   refine .z zm ?_
   refine .o (.call Tryz.call74 rfl (kg (s:=s.sys) hs hS (hW.mono hle5)) ?_);rintro _ w ⟨H6,lo,hi,f,hle6,rfl,hRg,hs⟩
   have hbd:=hRg.bd
   have hleF:=hle04.trans (hle5.trans hle6)
   have hA:=hok.CY hlt (x:=1) ak
   refine .z zm (.z zex (.z zex (.z zex (.z zg (.z zg (.z zg (.nil (.seq (.aj ?_)))))))))
   refine .z zm (.z gP (.nil ?_))
   refine (.eI rfl (fun hc51=>?_) (fun hc51=>?_))
   ·refine .aj (.z (zbd [_,_] cq) ?_)
    refine .o (.aZ (vs:=[_,_]) hs rfl rfl aR fun w hs=>?_)
    refine .z zg (.nil ?_)
    refine .ret (rT (?_))
    have hns:¬s.sys.Sound:=fun h=>hc51 (qG hA h (fun b=>s.both) hRg)
    exact Fin.gR [] [] hs fun w hs=>⟨_,results2 Tryz.results28 (dv (vs:=[_,_]) hs rfl cI aR) rfl,H6,_,_,_,hleF,rfl,.fls hok hmem hns,hs.out⟩
   ·refine .skip ?_
    refine nT ?_
    refine .aj (.z zm (.z zv (.z zm (.z zv (.z (zbd [_,_] cq) ?_)))))
    refine .o (.aZ (vs:=[_,_]) hs rfl rfl aR fun w hs=>?_)
    refine .z zg (.nil ?_)
    refine .ret ?_
    obtain rfl:f=0:=by simpa using hc51
    have hsd:s.sys.Sound:=Classical.byContradiction fun h=>by have:=zd hA h hRg;omega
    exact Fin.gR [] [] hs fun w hs=>⟨_,results2 Tryz.results28 (dv (vs:=[_,_]) hs rfl cI aR) rfl,H6,_,_,_,hleF,rfl,.ok hok hmem hsd (by rw [k1,Int.toNat_natCast];exact hRg),hs.out⟩
theorem nm{v:Value}{rs:List (List Int)}{g:Nat}{cap:List Value}(q:List Int→Prop)(hs:St H w σ)(hR:RT H v rs)(hl:rs.length≤9223372036854775807)(hc:∀args w,(callFunc g args).run Tryz.prog w= .ok (.enter g args) w)
  (hp:∀H' w σ r u,HLe H H'→RI H' u r→St H' w σ→Cl Tryz.prog g ([u]++cap) w fun z w'=>∃H1 b,HLe H' H1∧z= .bool b∧(b=true↔q r)∧St H1 w' σ):
  Cl Tryz.prog 236 [v,.func (.func g) #[] cap.toArray] w fun u w'=>∃H1 i,HLe H H1∧u=I i∧(0≤i↔∃x∈rs,q x)∧St H1 w' σ:=by
 obtain ⟨a,c,rfl⟩:=hR.shape
 refine Cl.o Tryz.func236 Tryz.ntmps236 ag2 ?_
 refine .aj (.z zg (.nil (.seq (.aj (.z zm (.z (cN au) (.z zm (.nil ?_))))))))
 refine .for (N:=rs.length) (J:=fun k fr w=>fr=[(1,.func (.func g) #[] cap.toArray),(0,.slice a rs.length c)]∧∃H1,HLe H H1∧(∀j<k,∀y,rs[j]? =some y→¬q y)∧St H1 w σ) ak ?_ ?_ ?_
 ·exact .mk ⟨rfl,H,HLe.refl H,fun j hj=>by omega,hs⟩
 ·rintro k fr w hk ⟨rfl,H1,hle1,hno,hs⟩
  have hx:=so (rs:=rs) hk
  refine .block (.aj (.z zm (.z zg (.nil (.aj (.z zm (.z zm (.z zm ?_))))))))
  refine .ixT hs (hR.mono hle1) rfl rfl au aC (show k<_ by omega) cJ ?_;intro b14 o14 a14 c14 hc14 hR14
  refine .q hs (aO rfl an hc14) ?_
  refine .o (.pH (first:=[]) (cap:=cap) rfl rfl hc (hp _ _ _ (gr rs k) _ hle1 hR14 hs) ?_);rintro _ w ⟨H2,b16,hle2,rfl,hb16,hs⟩
  refine .nil ?_
  refine (.cond rfl (fun hc16=>?_) (fun hc16=>?_))
  ·refine .aj (.z zm (.z zg (.nil ?_)))
   refine .ret (rB (rT (rB (rT (Fin.bK Tryz.results236 rfl ?_)))))
   exact ⟨H2,_,hle1.trans hle2,rfl,⟨fun _=>⟨_,List.mem_of_getElem? hx,hb16.1 hc16⟩,fun _=>by omega⟩,hs⟩
  ·refine .skip ?_
   refine nB (nT ?_)
   exact .mk ⟨rfl,H2,hle1.trans hle2,fl hno hx (fun h=>by rw [hb16.2 h] at hc16;cases hc16),hs⟩
 ·rintro fr w ⟨rfl,H1,hle1,hno,hs⟩
  refine nT ?_
  refine .aj (.z zg (.nil ?_))
  refine .ret (Fin.bK Tryz.results236 rfl ?_)
  exact ⟨H1,_,hle1,rfl,⟨fun h=>by omega,fun ⟨x,h1,h2⟩=>by
   obtain ⟨j,hj⟩:=List.getElem?_of_mem h1
   exact (hno j (List.getElem?_eq_some_iff.1 hj).1 x hj h2).elim⟩,hs⟩
theorem lS{v:Value}{rs:List (List Int)}{g:Nat}{cap:List Value}(q:List Int→Prop)(hs:St H w σ)(hR:RT H v rs)(hl:rs.length≤9223372036854775807)(hc:∀args w,(callFunc g args).run Tryz.prog w= .ok (.enter g args) w)
  (hp:∀H' w σ r u,HLe H H'→RI H' u r→St H' w σ→Cl Tryz.prog g ([u]++cap) w fun z w'=>∃H1 b,HLe H' H1∧z= .bool b∧(b=true↔q r)∧St H1 w' σ):
  Cl Tryz.prog 186 [v,.func (.func g) #[] cap.toArray] w fun u w'=>∃H1 b,HLe H H1∧u= .bool b∧(b=true↔∃x∈rs,q x)∧St H1 w' σ:=by
 refine Cl.o Tryz.func186 Tryz.ntmps186 ag2 ?_
 refine .aj (.z zg (.nil (.aj (.z zm (.z zm ?_)))))
 refine .o (.call Tryz.call236 rfl (nm q hs hR hl hc hp) ?_);rintro _ w ⟨H1,i,hle1,rfl,hi,hs⟩
 refine .z yA (.z zg (.nil ?_))
 refine .ret (Fin.bK Tryz.results186 rfl ?_)
 exact ⟨H1,_,hle1,rfl,by simp only [decide_eq_true_eq];exact hi,hs⟩
theorem uo{n:Int}(hs:St H w σ):
  Cl Tryz.prog 188 [I n] w fun u w'=>u= .bool (!decide (0≤n∧n≤20000))∧St H w' σ:=by
 refine Cl.o Tryz.func188 Tryz.ntmps188 ag1 ?_
 refine .aj (.z zg (.nil (.aj (.z zm ?_))))
 refine .o (.call dF rfl (bG hs) ?_);rintro _ w ⟨rfl,hs⟩
 refine .z iD (.z zg (.nil ?_))
 refine .ret (Fin.bK Tryz.results188 rfl ?_)
 exact ⟨rfl,hs⟩
theorem wK{s:Spc}{v vst vwa:Value}{r:List Int}{b:Nat}(hs:St H w σ)(hb:Row H b [I s.id,I s.src,vst,vwa,I s.al,I s.up])(h2:RI H vwa s.wa)(hr:RI H v r):
  Cl Tryz.prog 187 [v,.pointer (some ⟨b,0,none⟩)] w fun u w'=>∃H1 bb,HLe H H1∧u= .bool bb∧(bb=true↔¬(r.length=s.wa.length∧∀x∈r,0≤x∧x≤20000))∧St H1 w' σ:=by
 obtain ⟨a,c,rfl⟩:=RI.shape hr
 obtain ⟨awa,cwa,rfl⟩:=RI.shape h2
 have hb3:=hb.at 3
 refine Cl.o Tryz.func187 Tryz.ntmps187 ag2 ?_
 refine .aj (.z zg (.nil (.aj (.z zm (.z (cN ae) (.z (zfa aS) (.y hs (zld an) (.z (cN ae) (.z gP ?_)))))))))
 refine .z zm ?_
 refine .yq (t':=10) rfl (fun hb10=>?_) (fun hb10=>?_)
 ·refine .gFs 2 6 false rfl rfl rfl ?_
  refine .z zpT (.z zg (.nil ?_))
  refine .ret (Fin.bK Tryz.results187 rfl ?_)
  exact ⟨H,true,HLe.refl H,rfl,⟨fun _ h=>by have:=h.1;simp_all,fun _=>rfl⟩,hs⟩
 ·refine .gT rfl rfl ?_
  refine .z zm ?_
  refine .gT rfl rfl ?_
  refine .o (.call Tryz.call134 rfl (lH (g:=188) (cap:=[]) (fun n=>¬(0≤n∧n≤20000)) hs hr Tryz.call188 (fun H' w σ n _ _ hs=>(uo hs).mono fun u w' ⟨g1,g2⟩=>⟨H',_,HLe.refl _,g1,by simp;omega,g2⟩)) ?_);rintro _ w ⟨H1,b12,hle1,rfl,hb12,hs⟩
  refine .z zpF (.z zg (.nil ?_))
  refine .ret (Fin.bK Tryz.results187 rfl ?_)
  have hlen:r.length=s.wa.length:=by simp_all;omega
  exact ⟨H1,_,hle1,rfl,by
   rw [hb12]
   constructor
   ·rintro ⟨x,h1,h2⟩ h;exact h2 (h.2 x h1)
   ·intro h
    refine Classical.byContradiction fun hn=>h ⟨hlen,fun x hx=>Classical.byContradiction fun hx'=>hn ⟨x,hx,hx'⟩⟩,hs⟩
theorem DR{s:Spc}{rows:List (List Int)}:jv s rows↔rows.length=s.st.length∧∀r∈rows,r.length=s.wa.length∧∀x∈r,0≤x∧x≤20000:=by
 constructor
 ·rintro ⟨h1,h2,h3⟩
  refine ⟨h1,fun r hr=>?_⟩
  obtain ⟨i,hi⟩:=List.getElem?_of_mem hr
  have hil:=(List.getElem?_eq_some_iff.1 hi).1
  have hg:=so hil
  rw [hi] at hg
  obtain rfl:=Option.some.inj hg
  have hl:=h2 i ak
  refine ⟨hl,fun x hx=>?_⟩
  obtain ⟨k,hk⟩:=List.getElem?_of_mem hx
  have hkl:=(List.getElem?_eq_some_iff.1 hk).1
  have hgk:=bE hkl
  rw [hk] at hgk
  obtain rfl:=Option.some.inj hgk
  exact h3 i ak k ak
 ·rintro ⟨h1,h2⟩
  have hm:∀i<s.st.length,gr rows i∈rows:=fun i hi=>List.mem_of_getElem? (so ak)
  refine ⟨h1,fun i hi=>(h2 _ (hm i hi)).1,fun i hi k hk=>?_⟩
  have hl:=(h2 _ (hm i hi)).1
  exact (h2 _ (hm i hi)).2 _ (List.mem_of_getElem? (bE ak))
theorem kO{s:Spc}{vst vwa vh:Value}{rows:List (List Int)}(hs:St H w σ)(h1:RI H vst s.st)(h2:RI H vwa s.wa)(hr:RT H vh rows):
  Cl Tryz.prog 101 [.agg #[I s.id,I s.src,vst,vwa,I s.al,I s.up],.agg #[vh]] w fun u w'=>∃H1 b,HLe H H1∧u= .bool b∧(b=true↔jv s rows)∧St H1 w' σ:=by
 obtain ⟨ast,cst,rfl⟩:=RI.shape h1
 obtain ⟨awa,cwa,rfl⟩:=RI.shape h2
 obtain ⟨ah,ch,rfl⟩:=hr.shape
 have hrl:=(hr.len).2.2
 refine Cl.o Tryz.func101 Tryz.ntmps101 ag2 ?_
 refine .aj ?_
 refine .bx hs fun b2 w hs=>?_
 refine .bx hs fun b3 w hs=>?_
 refine .z zg (.nil (.aj (.z (zfa dz) (.y hs (zld eg) (.z (cN au) (.z (zfa bj) (.y hs (zld an) (.z (cN ae) (.z fw ?_)))))))))
 refine .z zm ?_
 refine .iB (t':=12) rfl (fun hb12=>?_) (fun hb12=>?_)
 ·refine .gT rfl rfl ?_
  refine .z (zfa dz) ?_
  refine .gT rfl rfl ?_
  refine .y hs (zld eg) ?_
  refine .gT rfl rfl ?_
  refine .q hs (dX (f:=[]) (c:=[_]) rfl rfl) ?_
  refine .gT rfl rfl ?_
  obtain ⟨H0,hle0,hb2,hs⟩:=hs.cO (b:=b2) cU
  refine .o (.call Tryz.call186 rfl (lS (g:=187) (cap:=[.pointer (some ⟨b2,0,none⟩)]) (fun r=>¬(r.length=s.wa.length∧∀x∈r,0≤x∧x≤20000)) hs (hr.mono hle0) hrl Tryz.call187 (fun H' w σ r u hle hu hs=>wK (s:=s) hs (hb2.mono hle) (h2.mono (hle0.trans hle)) hu)) ?_);rintro _ w ⟨H1,b16,hle1,rfl,hb16,hs⟩
  refine .gT rfl rfl ?_
  refine .z iD (.z zpT (.z zg (.nil ?_)))
  refine .ret (Fin.bK Tryz.results101 rfl ?_)
  exact ⟨H1,_,hle0.trans hle1,rfl,by
   rw [DR]
   have hlen:rows.length=s.st.length:=by omega
   cases hbb:b16 with
   |true=>
    obtain ⟨x,hx,hn⟩:=hb16.1 hbb
    exact ⟨fun h=>(by cases h),fun h=>(hn (h.2 x hx)).elim⟩
   |false=>exact ⟨fun _=>⟨hlen,fun r hr=>Classical.byContradiction fun hn=>by rw [hb16.2 ⟨r,hr,hn⟩] at hbb;cases hbb⟩,fun _=>rfl⟩,hs.out⟩
 ·refine .gFs 5 7 true rfl rfl rfl ?_
  refine .z zpF (.z zg (.nil ?_))
  refine .ret (Fin.bK Tryz.results101 rfl ?_)
  exact ⟨H,_,HLe.refl H,rfl,⟨fun h=>(by cases h),fun h=>by have:=h.len;omega⟩,hs.out⟩
set_option maxHeartbeats 1000000 in
theorem jq{s:Spc}{q:Wht}{vst vwa vh:Value}{rows:List (List Int)}(hs:St H w σ)(h1:RI H vst s.st)(h2:RI H vwa s.wa)(hr:RT H vh rows):
  Cl Tryz.prog 37 [.agg #[I s.id,I s.src,vst,vwa,I s.al,I s.up],.agg #[vh],.agg #[I q.kind,I q.st,I q.wa]] w fun u w'=>∃H1 n e,HLe H H1∧u= .tuple #[I n,I e]∧vi s rows q n e∧St H1 w' σ:=by
 obtain ⟨ah,ch,rfl⟩:=hr.shape
 refine Cl.o Tryz.func37 Tryz.ntmps37 ag3 ?_
 refine .aj ?_
 refine .bx hs fun b3 w hs=>?_
 refine .bx hs fun b4 w hs=>?_
 refine .bx hs fun b5 w hs=>?_
 refine .z zg (.z zg (.nil (.seq (.aj (.y hs (zls [_,_,_,_,_,_] aF aB) ?_)))))
 refine .o (.call Tryz.call41 rfl (fo (s:=s) hs h1 h2) ?_);rintro _ w ⟨H1,e,hle1,rfl,he,hs⟩
 refine .z zg (.nil (.aj (.z zm (.z gP (.nil ?_)))))
 refine (.eI rfl (fun hc17=>?_) (fun hc17=>?_))
 ·refine .aj (.z zm (.z zg (.z zg (.nil ?_))))
  refine .ret (rT (?_))
  have hq:¬eT s∧e=30:=he.resolve_left fun h=>hc17 h.2
  exact Fin.gR [] [] hs fun w hs=>⟨_,results2 Tryz.results37 rfl rfl,H1,_,_,hle1,rfl,by rw [hq.2];exact .space hq.1,hs.out⟩
 ·refine .skip ?_
  refine nT ?_
  refine .seq (.aj (.y hs (zls [_,_,_,_,_,_] aF aB) (.y hs (zls [_] dw cM) ?_)))
  have hok:eT s:=(he.resolve_right fun h=>by omega).1
  have hsm:=dK hok
  refine .o (.call Tryz.call101 rfl (kO (s:=s) hs (h1.mono hle1) (h2.mono hle1) (hr.mono hle1)) ?_);rintro _ w ⟨H2,b21,hle2,rfl,hb21,hs⟩
  have hle02:=hle1.trans hle2
  refine .z iD (.nil ?_)
  refine (.cond rfl (fun hc22=>?_) (fun hc22=>?_))
  ·refine .aj (.z zg (.z zg (.nil ?_)))
   refine .ret (rT (?_))
   exact Fin.gR [] [] hs fun w hs=>⟨_,results2 Tryz.results37 rfl rfl,H2,_,_,hle02,rfl,.hull hok (fun h=>by rw [hb21.2 h] at hc22;cases hc22),hs.out⟩
  ·refine .skip ?_
   refine nT ?_
   refine .aj (.y hs (zls [_,_,_,_,_,_] aF aB) (.y hs (zls [_,_,_] dP bV) ?_))
   have hh:jv s rows:=hb21.1 (by simpa using hc22)
   refine .o (.call Tryz.call102 rfl (km (s:=s) (q:=q) hs (h1.mono hle02) (h2.mono hle02) hok) ?_);rintro _ w ⟨H3,vl,L,d,b,en,hle3,rfl,hO,hcase,hs⟩
   have hle03:=hle02.trans hle3
   obtain ⟨al,cl,rfl⟩:=hO.kL
   refine .z zm (.z zex (.z zex (.z zex ?_)))
   refine .o (.alloc hs dV rfl fun b9 w hs=>?_)
   refine .o (.store hs rfl rfl aC fun w hs=>?_)
   refine .z zg (.z zg (.nil (.seq (.aj (.z zm (.z iD (.nil ?_)))))))
   refine (.cond rfl (fun hc31=>?_) (fun hc31=>?_))
   ·refine .aj (.z zg (.z zg (.nil ?_)))
    refine .ret (rT (?_))
    have hq:¬gW s q:=by
     rcases hcase with ⟨g,_⟩|⟨_,g,_⟩
     ·subst g;cases hc31
     ·exact g
    exact Fin.gR [] [] hs fun w hs=>⟨_,results2 Tryz.results37 rfl rfl,H3,_,_,hle03,rfl,.what hok hh hq,hs.out⟩
   ·refine .skip ?_
    refine nT ?_
    refine .aj ?_
    refine .o (.alloc hs bO rfl fun b12 w hs=>?_)
    refine .o (.store hs rfl rfl ai fun w hs=>?_)
    refine .nil (.seq (.aj (.y hs (zls [_,_,_,_,_,_] aF aB) ?_)))
    obtain ⟨rfl,hq,rfl,rfl⟩:b=true∧gW s q∧L=mQ s q∧d=oU q:=hcase.resolve_right fun h=>by rw [h.1] at hc31;cases hc31
    have hwl:=gG s q
    obtain ⟨H4,hle4,hW,hs⟩:=cz.cK hO ak hs cU
    have hle04:=hle03.trans hle4
    refine .o (.call A4 rfl (fN (s:=s) hs (h1.mono hle04) (h2.mono hle04) ⟨ak,ak⟩) ?_);rintro _ w ⟨H5,ba,hle5,rfl,hit,hs⟩
    have hle05:=hle04.trans hle5
    replace hW:=hW.mono hle5
    have hr5:=hr.mono hle05
    refine .nil (.block ?_)
    refine .rangeFunc (gf:=190) (cap:=[.pointer (some ⟨ba,0,none⟩)]) (xs:=vX s) (σb:=[.blk b12 [I (im s q rows 0)],.blk b9 [.slice al (mQ s q).length cl],.blk b4 [.slice ah rows.length ch]]) (σf:=σ) (hs.sb) trivial rfl hit A2 (fun x hx=>by
      simp only [vX,List.mem_map] at hx
      obtain ⟨j,_,rfl⟩:=hx;rfl) rfl
     (I:=fun p H' σb=>σb=[.blk b12 [I (im s q rows p)],.blk b9 [.slice al (mQ s q).length cl],.blk b4 [.slice ah rows.length ch]]) (Ix:=fun _ _ _=>False)
     (fun j _ _ σ g1 g2=>g2) (fun _ _ _ _ _ h=>h) rfl ?_ ?_ (fun D c H' σb w _ h _=>h.elim)
    ·rintro ly p hp H6 σb2 σf2 w hle6 rfl hs ⟨rr,hrr⟩
     have hpm:p<s.many:=by rw [eJ] at hp;exact hp
     have hin:p/s.wa.length<s.st.length:=Nat.div_lt_of_lt_mul (by rw [Nat.mul_comm];exact hpm)
     have hkm:=Nat.mod_lt p hsm.2.2.1
     have hsucc:im s q rows (p+1)=im s q rows p+gi (mQ s q) (p+1)*gt rows (p/s.wa.length) (p%s.wa.length):=rfl
     have hb0:=jL hok hq hh p ak
     have hb1:=jL hok hq hh (p+1) ak
     have hwz:=nV hok hq
     have hwz2:=iU (mQ s q) (v:=p+1) (n:=s.many+1) ak
     have hnum:=hh.num _ hin _ hkm
     have hrow:=hh.row _ hin
     have hrlen:=hh.len
     have hprd:=kP (a:=gi (mQ s q) (p+1)) (b:=gt rows (p/s.wa.length) (p%s.wa.length)) (A:=3456000000000) (B:=20000) ak ak
     have hgt:gt rows (p/s.wa.length) (p%s.wa.length)=gi (gr rows (p/s.wa.length)) (p%s.wa.length):=rfl
     rw [mx hp]
     generalize p/s.wa.length=i at*
     generalize p%s.wa.length=k at*
     rw [hgt] at hsucc hprd hnum
     refine .region ?_
     refine .o (.alloc hs kF rfl fun b13 w hs=>?_)
     refine .o (.aZ (vs:=[_,_,_]) hs rfl rfl oL fun w hs=>?_)
     refine .nil ?_
     refine nT ?_
     refine ⟨H6,[.blk b13 [I (i:Int),I (k:Int),I ((p+1:Nat):Int)],.blk b12 [I (im s q rows p)],.blk b9 [.slice al (mQ s q).length cl],.blk b4 [.slice ah rows.length ch]],HLe.refl _,hs,?_⟩;rintro w σf4 - hs
     refine .block ?_
     refine .draw mix rfl hs fun w hs=>?_
     refine .y 0 rfl hs af ?_;refine .y 1 rfl hs an ?_;refine .z 2 rfl (zfa eS) ?_;refine .y 3 rfl hs af ?_
     refine .ixX (enc:=fun x=>[I x]) (i:=4) hs rfl aq .none (hW.mono hle6) rfl rfl ae ai (bE (l:=(mQ s q)) (i:=(p+1)) ak) cJ ?_;intro b39 o39 hc39;replace hc39:=bI.one hc39
     refine .r (i:=5) hs rfl aq .none (aO rfl af hc39) ?_
     refine .z 6 rfl (zfa dz) ?_;refine .y 7 rfl hs eg ?_;refine .z 8 rfl (zfa dJ) ?_;refine .y 9 rfl hs af ?_
     refine .ixT (i:=10) hs rfl aq .none (hr5.mono hle6) rfl rfl au aC (show i<_ by omega) cJ ?_;intro b45 o45 a45 c45 hc45 hR45
     refine .r (i:=11) hs rfl aq .none (aO rfl an hc45) ?_
     refine .z 12 rfl (zfa dt) ?_;refine .y 13 rfl hs af ?_
     refine .ixX (enc:=fun x=>[I x]) (i:=14) hs rfl aq .none hR45 rfl rfl ae ai (bE (l:=(gr rows i)) (i:=k) ak) cJ ?_;intro b49 o49 hc49;replace hc49:=bI.one hc49
     refine .r (i:=15) hs rfl aq .none (aO rfl af hc49) ?_
     refine .z 16 rfl ki ?_;refine .z 17 rfl cH ?_
     refine .E 18 hs ?_
     refine .store hs rfl rfl ai ?_;intro w hs
     refine .go ?_
     refine .D hs ?_
     refine nB ?_
     exact ⟨H6,[.blk b12 [I (im s q rows (p+1))],.blk b9 [.slice al (mQ s q).length cl],.blk b4 [.slice ah rows.length ch]],HLe.refl _,by rw [hsucc];exact (hs.sb:St H6 w (.blk b12 _:: .blk b9 _:: .blk b4 _::σf4)),rfl⟩
    ·rintro D H6 σb2 w hle6 rfl hs
     rw [eJ] at hs
     replace hs:St H6 w (.obj D (.deferred (some [])):: .blk b12 [I (im s q rows s.many)]:: .blk b9 [.slice al (mQ s q).length cl]:: .blk b4 [.slice ah rows.length ch]::σ):=hs
     have hbd:=jL hok hq hh s.many ak
     have hdp:=wT q
     refine nB (nT ?_)
     refine .aj (.y hs (zld af) (.z zm ?_))
     refine .o (.call Tryz.call86 rfl (jK hs ak ak) ?_);rintro _ w ⟨rfl,hs⟩
     refine .z zg (.z zg (.nil ?_))
     refine .ret ?_
     exact Fin.gR [D] [] hs fun w hs=>⟨_,results2 Tryz.results37 rfl rfl,H6,_,_,hle05.trans hle6,rfl,.ok hok hh hq,hs.out⟩
set_option maxHeartbeats 4000000 in
theorem l7{s:Srv}{r:Rdg}{vst vwa vr vc:Value}{z:Int}(hs:St H w σ)(h1:RI H vst s.sp.st)(h2:RI H vwa s.sp.wa)(h3:RRd H vr s.rs)(h4:RCm H vc s.cs)(hr0:r.val=0):
  Cl Tryz.prog 46 [.agg #[I s.sp.id,I s.sp.src,vst,vwa,I s.sp.al,I s.sp.up,vr,vc],.agg #[I r.src,I r.st,I r.wa,I z,I r.tol,I r.tape,I r.day]] w fun u w'=>∃H1 lo hi e,HLe H H1∧u= .tuple #[.agg #[I lo,I hi],I e]∧sS s r lo hi e∧St H1 w' σ:=by
 obtain ⟨ast,cst,rfl⟩:=RI.shape h1
 obtain ⟨awa,cwa,rfl⟩:=RI.shape h2
 obtain ⟨ar,cr,rfl⟩:=RRd.shape h3
 obtain ⟨ac,cc,rfl⟩:=RCm.shape h4
 refine Cl.o Tryz.func46 Tryz.ntmps46 ag2 ?_
 refine .aj ?_
 refine .bx hs fun b2 w hs=>?_
 refine .bx hs fun b3 w hs=>?_
 refine .o (.alloc hs eQ rfl fun b4 w hs=>?_)
 refine .z zg (.nil (.seq (.aj (.y hs (zls [_,_,_,_,_,_,_,_] aD az) ?_))))
 refine .o (.call jQ rfl (dp (s:=s) hs h1 h2 h3 h4) ?_);rintro _ w ⟨H1,e,hle1,rfl,hC,hs⟩
 refine .z zg (.nil (.aj (.z zm (.z gP (.nil ?_)))))
 refine (.eI rfl (fun hc19=>?_) (fun hc19=>?_))
 ·refine .aj (.z (zbd [_,_] cq) (.z zm ?_))
  refine .o (.aZ (vs:=[_,_]) hs rfl rfl aR fun w hs=>?_)
  refine .z zg (.nil ?_)
  refine .ret (rT (?_))
  exact Fin.gR [] [] hs fun w hs=>⟨_,results2 oN (dv (vs:=[_,_]) hs rfl cI aR) rfl,H1,_,_,_,hle1,rfl,.bad hC hc19,hs.out⟩
 ·refine .skip ?_
  refine nT ?_
  refine .aj (.z (zfa de) ?_)
  refine .o (.store hs rfl rfl ai fun w hs=>?_)
  refine .nil (.seq (.aj (.z (zfa aJ) (.y hs (zls [_,_,_,_,_,_] aF aB) (.y hs (zls [_,_,_,_,_,_,_] bZ aE) ?_)))))
  have hok:eD s:=hC.cD.1 (by simpa using hc19)
  have hsm:=dK hok.early.1
  have hrl:=hok.early.2.1
  have hcl:=hok.early.2.2.1
  have hmm:=hok.many
  have hll:=hok.bU
  have hn:=rj s
  have htl:s.bD.length≤60:=by have:=db s.rs;unfold Srv.bD;omega
  change St _ _ (.blk b4 _:: .blk b3 [I r.src,I r.st,I r.wa,I 0,I r.tol,I r.tape,I r.day]::_) at hs
  refine .o (.call Tryz.call107 rfl (gU (s:=s.sp) (r:=⟨r.src,r.st,r.wa,0,r.tol,r.tape,r.day⟩) hs (h1.mono hle1) (h2.mono hle1)) ?_);rintro _ w ⟨b26,rfl,hb26,hs⟩
  rw [show (⟨r.src,r.st,r.wa,0,r.tol,r.tape,r.day⟩:Rdg)=r by rw [←hr0]] at hb26
  refine .z iD (.nil ?_)
  refine (.cond rfl (fun hc27=>?_) (fun hc27=>?_))
  ·refine .aj (.z (zbd [_,_] cq) ?_)
   refine .o (.aZ (vs:=[_,_]) hs rfl rfl aR fun w hs=>?_)
   refine .z zg (.nil ?_)
   refine .ret (rT (?_))
   exact Fin.gR [] [] hs fun w hs=>⟨_,results2 oN (dv (vs:=[_,_]) hs rfl cI aR) rfl,H1,_,_,_,hle1,rfl,.rdg hok (fun h=>by rw [hb26.2 h] at hc27;cases hc27),hs.out⟩
  ·refine .skip ?_
   refine nT ?_
   refine .aj (.y hs (zls [_,_,_,_,_,_,_,_] aD az) ?_)
   have hr:iM s.sp r:=hb26.1 (by simpa using hc27)
   obtain ⟨g1,g2,g3,g4,g5,g6,g7⟩:=id hr
   refine .o (.call se rfl (lq (s:=s) hs (h1.mono hle1) (h2.mono hle1) (h3.mono hle1) (h4.mono hle1) hok.early) ?_);rintro _ w ⟨H2,vl,enL,hle2,rfl,hOL,hs⟩
   have hle02:=hle1.trans hle2
   obtain ⟨al,ll,cl,rfl,hlL⟩:=hOL.shape
   rw [cV] at hlL
   refine .o (.alloc hs dd rfl fun b7 w hs=>?_)
   refine .o (.aZ (vs:=[_,_]) hs rfl rfl aM fun w hs=>?_)
   refine .nil (.aj (.y hs (zls [_,_,_,_,_,_,_,_] aD az) ?_))
   refine .o (.call Tryz.call90 rfl (lZ (s:=s) hs (h3.mono hle02) ak) ?_);rintro v32 w ⟨H3,enT,hle3,hOT,hs⟩
   have hle03:=hle02.trans hle3
   obtain ⟨at_,ct,rfl⟩:=hOT.fM (kX _) ak
   rw [dI] at hOT ⊢
   refine .z zg (.nil (.aj (.z zm (.y hs (zls [_,_,_,_,_,_,_] bZ aE) ?_))))
   refine .o (.call Hi rfl (fE (r:=⟨r.src,r.st,r.wa,0,r.tol,r.tape,r.day⟩) hs) ?_);rintro _ w ⟨rfl,hs⟩
   refine .o (.call Tryz.call89 rfl (pY (t:=r.td) hs hOT ak) ?_);rintro _ w ⟨rfl,hs⟩
   have hnn:=jR (l:=s.bD) (t:=r.td)
   have hcap2:s.sys.many=((s.sp.many+s.bD.length:Nat):Int):=rfl
   refine .z zg (.nil ?_)
   refine .cut (fun fs w=>∃H4 al ll cl enL,kB fs ⟨134,[],[(9,I (s.tJ r.td:Int)),(7,.pointer (some ⟨b7,0,none⟩)),(4,.pointer (some ⟨b4,0,none⟩)),(3,.pointer (some ⟨b3,0,none⟩)),(2,.pointer (some ⟨b2,0,none⟩))]⟩∧HLe H3 H4∧cz 4 (.slice al ll cl) (gg (s.jD r.td).bU) enL∧St H4 w (.blk b7 [I (s.jD r.td).many,.slice al ll cl]::enL:: .blk b4 [I 0,I 0]:: .blk b3 [I r.src,I r.st,I r.wa,I 0,I r.tol,I r.tape,I r.day]:: .blk b2 [I s.sp.id,I s.sp.src,.slice ast s.sp.st.length cst,.slice awa s.sp.wa.length cwa,I s.sp.al,I s.sp.up,.slice ar s.rs.length cr,.slice ac s.cs.length cc]::σ)) ?_ ?_
   ·refine .aj (.z zm (.z fD (.nil ?_)))
    refine (.bJ rfl (fun hc38=>?_) (fun hc38=>?_))
    ·refine .aj (.z zm (.z (cN aT) (.z zg (.nil ?_))))
     refine .seq (.draw mix rfl hs fun w hs=>?_)
     refine .ys 0 rfl hs [_,_,_,_,_,_,_,_] aD az ?_;refine .z 1 rfl zm ?_;refine .ys 2 rfl hs [_,_,_,_,_,_,_] bZ aE ?_
     refine .E 3 hs ?_
     refine .call Hi rfl (fE (r:=⟨r.src,r.st,r.wa,0,r.tol,r.tape,r.day⟩) hs) ?_;rintro _ w ⟨rfl,hs⟩
     refine .go ?_
     refine .E 4 hs ?_
     refine .buildSlice (cells:=[_,_]) hs gj rfl rfl ?_;intro b45 w hs
     refine .go ?_
     refine .E 5 hs ?_
     refine .append (ys:=r.td.c) hs ee rfl rfl hOT (.own .here rfl rfl) (by simp [TD.c,Value.oneCell']) (fun l h=>by rw [cu _ (kX _),dI] at h;omega) ?_;intro v46 en46 w hO46 hs
     rw [←s4] at hO46
     obtain ⟨H4,hle4,hT4,hs⟩:=cz.cO (m:=2) (cs:=tdc (s.bD++[r.td])) hO46 (kX _) ak (by rw [dI];simp;omega) hs cU
     replace hT4:RTd H4 v46 (s.bD++[r.td]):=hT4
     obtain ⟨a46,c46,rfl⟩:=RTd.shape hT4
     have hle04:=hle03.trans hle4
     have hk4:MkK H4 s (s.bD++[r.td]) (.slice ast s.sp.st.length cst) (.slice awa s.sp.wa.length cwa) (.slice ar s.rs.length cr) (.slice ac s.cs.length cc) (.slice a46 (s.bD++[r.td]).length c46):=⟨h1.mono hle04,h2.mono hle04,h3.mono hle04,h4.mono hle04,hT4⟩
     refine .go ?_
     refine .z 6 rfl (zbd (vs:=[(0,.agg #[I s.sp.id,I s.sp.src,.slice ast s.sp.st.length cst,.slice awa s.sp.wa.length cwa,I s.sp.al,I s.sp.up,.slice ar s.rs.length cr,.slice ac s.cs.length cc]),(1,.slice a46 (s.bD++[r.td]).length c46)]) [I s.sp.id,I s.sp.src,.slice ast s.sp.st.length cst,.slice awa s.sp.wa.length cwa,I s.sp.al,I s.sp.up,.slice ar s.rs.length cr,.slice ac s.cs.length cc,.slice a46 (s.bD++[r.td]).length c46,.slice none 0 0] mf rfl aq) ?_
     refine .E 7 hs ?_
     refine .box hs rfl rfl ?_;intro b48 w hs
     refine .go ?_
     refine .z 8 rfl zg ?_;refine .D hs ?_
     refine .seq (.draw mix rfl hs fun w hs=>?_)
     refine .z 0 rfl zm ?_;refine .z 1 rfl zm ?_;refine .z 2 rfl zm ?_;refine .z 4 rfl (zfa aJ) ?_;refine .z 5 rfl (zfa cQ) ?_;refine .y 6 rfl hs af ?_
     refine .E 3 hs ?_
     refine .call Tryz.call116 rfl (jr (s:=s.sp) hs .here hk4.st hk4.wa ⟨ak,ak⟩ ⟨ak,ak⟩) ?_;rintro _ w ⟨rfl,hs⟩
     refine .go ?_
     refine .E 7 hs ?_
     refine .call uN rfl (fW (ls:=[]) (hs.nul.sb:St H4 w (.blk b48 _:: .nul:: .blk b7 [I s.sys.many,.slice al ll cl]::enL:: .blk b4 [I 0,I 0]:: .blk b3 [I r.src,I r.st,I r.wa,I 0,I r.tol,I r.tape,I r.day]:: .blk b2 [I s.sp.id,I s.sp.src,.slice ast s.sp.st.length cst,.slice awa s.sp.wa.length cwa,I s.sp.al,I s.sp.up,.slice ar s.rs.length cr,.slice ac s.cs.length cc]::σ)) (.nil 4 none) bQ) ?_;rintro _ w ⟨vl5,en5,hO5,hs⟩
     rw [List.nil_append] at hO5
     refine .go ?_
     refine .D hs ?_
     refine .aj (.z zm (.z zm ?_))
     refine .o (.call Tryz.call117 rfl (kQ (s:=s) (ts:=s.bD++[r.td]) (j0:=s.bD.length) hs hk4 hO5 (by simp [two]) hok.early.1 (by simp;omega) hcl hok.early.2.2.2.2 bQ) ?_);rintro _ w ⟨H5,vl6,en6,hle5,hO6,hs⟩
     obtain ⟨a6,l6,c6,rfl,hl6⟩:=hO6.shape
     have hnot:r.td∉s.bD:=fun h=>by have:=hnn.2 h;omega
     have hsys:s.jD r.td=⟨s.sys.many+1,s.bU++(two 0 ((s.sp.many:Int)+1+(s.bD.length:Int)) 1000 1000 s.sp.src++qD s.sp (s.bD++[r.td]) s.cs s.bD.length s.cs.length)⟩:=if_neg hnot
     have hlen6:=C0 hok r.td
     rw [hsys,List.length_append] at hlen6
     rw [cV] at hl6
     refine .nil ?_
     refine .draw mix rfl hs fun w hs=>?_
     refine .z 0 rfl (zfa bA) ?_;refine .y 1 rfl hs af ?_;refine .z 2 rfl cH ?_;refine .z 3 rfl (zfa bh) ?_;refine .y 4 rfl hs bT ?_;refine .z 5 rfl zm ?_;refine .z 6 rfl znc ?_;refine .z 7 rfl (zfa gY) ?_;refine .y 8 rfl hs bT ?_;refine .z 10 rfl (zfa bA) ?_
     refine .E 9 hs ?_
     refine .append (ys:=gg (two 0 ((s.sp.many:Int)+1+(s.bD.length:Int)) 1000 1000 s.sp.src++qD s.sp (s.bD++[r.td]) s.cs s.bD.length s.cs.length)) hs bM rfl rfl hOL (Src.DB hO6 (.there .here)) (iz _) (fun l h=>by rw [cV] at h;omega) ?_;intro v69 en69 w hO69 hs
     rw [←fj] at hO69
     obtain ⟨a69,l69,c69,rfl,h69⟩:=hO69.shape
     refine .go ?_
     refine .E 11 hs ?_
     refine .store hs rfl rfl ai ?_;intro w hs
     refine .go ?_
     refine .z 12 rfl (zfa bh) ?_
     refine .E 13 hs ?_
     refine .store hs rfl rfl ji ?_;intro w hs
     refine .go ?_
     refine .D hs ?_
     refine nT ?_
     refine ⟨H5,a69,l69,c69,en69,?_,hle4.trans hle5,by rw [hsys];exact hO69,by rw [hsys];exact hs.sb⟩
     refine .cn rfl ?_ a8
     unfold Srv.tJ;rw [if_neg hnot]
    ·refine .skip ?_
     refine nT ?_
     have hmem:r.td∈s.bD:=hnn.1 ak
     have hsys:s.jD r.td=s.sys:=if_pos hmem
     obtain ⟨k,k1,_,_⟩:=eY hmem
     refine ⟨H3,al,ll,cl,enL,?_,HLe.refl _,by rw [hsys];exact hOL,by rw [hsys];exact hs.sb⟩
     refine .cn rfl ?_ a8
     unfold Srv.tJ;rw [if_pos hmem,k1];rfl
   ·clear hOL hOT hlL hnn
    rintro fs w ⟨H4,al,ll,cl,enL,hfs,hle4,hOL,hs⟩
    refine WE.sub ?_ hfs
    have hle04:=hle03.trans hle4
    obtain ⟨_,_,_,e0,hlL⟩:=hOL.shape
    cases e0
    rw [cV] at hlL
    have htn:=Bk s r.td
    have hjlt:=FM s r.td
    have hmany:(s.jD r.td).many+1=((s.jD r.td).n:Int):=by
     unfold Srv.jD
     split
     ·simp only [dj.n,Srv.sys];omega
     ·simp only [dj.n,Srv.sys];omega
    have hn70:(s.jD r.td).n≤200:=by rw [htn];split<;>omega
    have hll6:ll=(s.jD r.td).bU.length:=by omega
    refine .seq (.aj (.z (zfa bA) (.y hs (zld af) (.z kD (.z zm ?_)))))
    refine .iB (t':=75) rfl (fun hb75=>?_) (fun hb75=>?_)
    ·refine .gFs 4 3 false rfl rfl rfl ?_
     refine .z zpT (.nil ?_)
     refine (.cT ?_)
     refine .aj (.z (zbd [_,_] cq) ?_)
     refine .o (.aZ (vs:=[_,_]) hs rfl rfl aR fun w hs=>?_)
     refine .z zg (.nil ?_)
     refine .ret (rT (?_))
     exact Fin.gR [] [] hs fun w hs=>⟨_,results2 oN (dv (vs:=[_,_]) hs rfl cI aR) rfl,H4,_,_,_,hle04,rfl,.long hok hr ak,hs.out⟩
    ·refine .gT rfl rfl ?_
     refine .z (zfa bh) ?_
     refine .gT rfl rfl ?_
     refine .y hs (zld bT) ?_
     refine .gT rfl rfl ?_
     refine .z (cN aH) ?_
     refine .gT rfl rfl ?_
     refine .z kD (.z zpF (.nil ?_))
     refine (.bJ rfl (fun hc80=>?_) (fun hc80=>?_))
     ·refine .aj (.z (zbd [_,_] cq) ?_)
      refine .o (.aZ (vs:=[_,_]) hs rfl rfl aR fun w hs=>?_)
      refine .z zg (.nil ?_)
      refine .ret (rT (?_))
      exact Fin.gR [] [] hs fun w hs=>⟨_,results2 oN (dv (vs:=[_,_]) hs rfl cI aR) rfl,H4,_,_,_,hle04,rfl,.long hok hr ak,hs.out⟩
     ·refine .skip ?_
      refine nT ?_
      refine .aj (.z (zfa bA) (.y hs (zld af) (.z cH ?_)))
      have hfit:(s.jD r.td).many≤64∧(s.jD r.td).bU.length≤400:=by omega
      refine .o (.pD (s.jD r.td).n hs (by show some (I _)=some (I _);rw [←hmany]) (by show some (I _)=some (I _);rw [←hmany]) ae dW rfl ai bO ak ?_);intro b85 w hs
      obtain ⟨u1,u2,u3⟩:=yN hr
      have hub:=sh u1 u2
      refine .z zg (.nil (.aj (.z zm (.z (zfa aJ) (.y hs (zls [_,_,_,_,_,_] aF aB) (.z (zfa eO) (.y hs (zld af) (.z (zfa eN) (.y hs (zld af) ?_)))))))))
      refine .o (.call Tryz.call118 rfl (iK (s:=s.sp) hs (h2.mono hle04) ak ⟨ak,ak⟩ ⟨ak,ak⟩) ?_);rintro _ w ⟨rfl,hs⟩
      rw [u3]
      refine .q hs (ef (k:=s.sp.u r.st.toNat r.wa.toNat) rfl rfl ae ai rfl ak) ?_
      refine .o (.store (c':=Is (pa (s.jD r.td).n (s.sp.u r.st.toNat r.wa.toNat) 1)) hs rfl rfl ai ?_ cU (by simp [Is];omega) (lF _ _ _));intro w hs
      refine .nil (.aj (.z zm (.z (zfa aJ) (.y hs (zls [_,_,_,_,_,_] aF aB) ?_))))
      refine .o (.call Tryz.call91 rfl (gw (s:=s.sp) hs (h1.mono hle04) (h2.mono hle04) ⟨ak,ak⟩) ?_);rintro _ w ⟨rfl,hs⟩
      refine .z cH (.z zm (.z cH ?_))
      refine .q hs (ef (k:=s.sp.many+1+s.tJ r.td) rfl rfl ae ai ak ak) ?_
      refine .o (.store (c':=Is (s.tW r)) hs rfl rfl ai ?_ cU (by simp [Is,gD];omega) (lF _ _ _));intro w hs
      refine .nil (.aj (.y hs (zls [_,_] bp aM) (.z zm ?_)))
      have hwl:(s.tW r).length=(s.jD r.td).n:=by simp [Srv.tW,gD]
      obtain ⟨H5,hle5,hW,hs⟩:=cz.cK (xs:=s.tW r) (v:= .slice (some ⟨b85,0,none⟩) (s.jD r.td).n (s.jD r.td).n) (.full (by simp [Is,hwl])) ak hs cU
      obtain ⟨H6,hle6,hL6,hs⟩:=cz.cO (m:=4) (cs:=(s.jD r.td).bU.map Lim.c) hOL (fun c hc=>by simp only [List.mem_map] at hc;obtain ⟨x,_,rfl⟩:=hc;rfl) ak (by rw [List.length_map];omega) hs cU
      refine .o (.call Tryz.call74 rfl (kg (s:=s.jD r.td) hs ⟨_,rfl,hL6⟩ (hW.mono hle6)) ?_);rintro _ w ⟨H7,a,b,f,hle7,rfl,hRg,hs⟩
      have hbd:=hRg.bd
      have hleF:=hle04.trans (hle5.trans (hle6.trans hle7))
      refine .z zm (.z zex (.z zex (.z zex (.z zg (.z zg (.z zg (.nil (.seq (.aj ?_)))))))))
      refine .z zm (.z gP (.nil ?_))
      refine (.eI rfl (fun hc111=>?_) (fun hc111=>?_))
      ·refine .aj (.z (zbd [_,_] cq) ?_)
       refine .o (.aZ (vs:=[_,_]) hs rfl rfl aR fun w hs=>?_)
       refine .z zg (.nil ?_)
       refine .ret (rT (?_))
       exact Fin.gR [] [] hs fun w hs=>⟨_,results2 oN (dv (vs:=[_,_]) hs rfl cI aR) rfl,H7,_,_,_,hleF,rfl,.fls hok hr hfit hRg hc111,hs.out⟩
      ·refine .skip ?_
       refine nT ?_
       refine .aj ?_
       obtain rfl:f=0:=by simpa using hc111
       refine .z zm (.z (zfa cf) (.y hs (zld af) (.z gO (.z CJ (.z zm (.z (zfa cf) (.y hs (zld af) (.z cH (.z (zfa cf) ?_)))))))))
       refine .y hs (zld af) (.z gO (.z zw (.z (zbd [_,_] cq) ?_)))
       refine .o (.alloc hs eQ rfl fun b15 w hs=>?_)
       refine .o (.aZ (vs:=[_,_]) hs rfl rfl aR fun w hs=>?_)
       refine .nil (.seq (.aj (.z (zfa oT) (.y hs (zld af) (.z (zfa oS) (.y hs (zld af) (.z kD (.nil ?_))))))))
       refine (.bJ rfl (fun hc131=>?_) (fun hc131=>?_))
       ·refine .aj (.z (zbd [_,_] cq) ?_)
        refine .o (.aZ (vs:=[_,_]) hs rfl rfl aR fun w hs=>?_)
        refine .z zg (.nil ?_)
        refine .ret (rT (?_))
        exact Fin.gR [] [] hs fun w hs=>⟨_,results2 oN (dv (vs:=[_,_]) hs rfl cI aR) rfl,H7,_,_,_,hleF,rfl,.none hok hr hfit hRg ak,hs.out⟩
       ·refine .skip ?_
        refine nT ?_
        refine .aj (.y hs (zls [_,_] cI aR) ?_)
        refine .o (.aZ (vs:=[_,_]) hs rfl rfl aR fun w hs=>?_)
        refine .z zg (.nil ?_)
        refine .ret ?_
        exact Fin.gR [] [] hs fun w hs=>⟨_,results2 oN (dv (vs:=[_,_]) hs rfl cI aR) rfl,H7,_,_,_,hleF,rfl,.ok hok hr hfit hRg ak,hs.out⟩
set_option maxRecDepth 100000 in
theorem rn:Tryz.prog.stoodInHeld 44=false:=by kernel_rfl
set_option maxRecDepth 100000 in
theorem rp:Tryz.prog.eqGuardType Tryz.prog.depth 44=false:=by kernel_rfl
theorem gI{v1 v2:Value}{as_ bs:List Int}(hs:St H w σ)(h1:RI H v1 as_)(h2:RI H v2 bs):
  Cl Tryz.prog 34 [v1,v2] w fun u w'=>u= .bool (decide (as_=bs))∧St H w' σ:=by
 obtain ⟨a1,c1,rfl⟩:=RI.shape h1
 obtain ⟨a2,c2,rfl⟩:=RI.shape h2
 have l1:=(RI.len h1).2.2
 refine Cl.o Tryz.func34 Tryz.ntmps34 ag2 ?_
 refine .aj (.z zg (.nil (.aj (.z zm (.z (cN ae) (.z zm (.z (cN ae) (.z fw (.z zg ?_)))))))))
 refine .nil (.seq (.aj (.z zg (.nil (.block ?_)))))
 refine .loop (fun p:Nat×Bool=>⟨31,[],[(6,I (p.1:Int)),(5,.bool p.2),(0,.slice a1 as_.length c1),(1,.slice a2 bs.length c2)]⟩)
  (fun p w=>p.1≤as_.length∧(p.2=true↔as_.length=bs.length∧∀j<p.1,gi as_ j=gi bs j)∧St H w σ) (fun p=>as_.length - p.1) (0,decide ((as_.length:Int)=bs.length)) a8
  ⟨Nat.zero_le _,by dsimp only;rw [decide_eq_true_eq];exact ⟨fun h=>⟨ak,fun j hj=>by omega⟩,fun h=>by omega⟩,hs⟩ ?_
 rintro ⟨k,b⟩ w ⟨hk,hb,hs⟩
 dsimp only at hk hb ⊢
 refine .seq (.aj (.z zm (.z zm (.z (cN ae) (.z fD (.z zm ?_))))))
 refine .iB (t':=16) rfl (fun hb16=>?_) (fun hb16=>?_)
 ·refine .gT rfl rfl ?_
  refine .z zm (.z zpT (.nil ?_))
  refine (.cond rfl (fun hc18=>?_) (fun hc18=>?_))
  ·refine .skip ?_
   refine nT ?_
   refine .seq (.block ?_)
   refine .draw mix rfl hs fun w hs=>?_
   refine .z 0 rfl zm ?_;refine .z 1 rfl zm ?_
   obtain rfl:b=true:=by assumption
   obtain ⟨hlen,hall⟩:=hb.1 rfl
   refine .ixX (enc:=fun x=>[I x]) (i:=2) hs rfl aq .none h1 rfl rfl ae ai (bE (l:=as_) (i:=k) ak) cJ ?_;intro b23 o23 hc23;replace hc23:=bI.one hc23
   refine .r (i:=3) hs rfl aq .none (aO rfl af hc23) ?_
   refine .z 4 rfl zm ?_;refine .z 5 rfl zm ?_
   refine .ixX (enc:=fun x=>[I x]) (i:=6) hs rfl aq .none h2 rfl rfl ae ai (bE (l:=bs) (i:=k) ak) cJ ?_;intro b27 o27 hc27;replace hc27:=bI.one hc27
   refine .r (i:=7) hs rfl aq .none (aO rfl af hc27) ?_
   refine .z 8 rfl fw ?_;refine .z 9 rfl zg ?_;refine .D hs ?_
   refine nB (nT ?_)
   refine .region (.z zm (.z cH (.z zg (.nil ?_))))
   refine nT ?_
   exact ⟨(k+1,decide (gi as_ k=gi bs k)),.cn rfl bQ a8,⟨by dsimp only;omega,by
    dsimp only
    rw [decide_eq_true_eq]
    exact ⟨fun h=>⟨hlen,fun j hj=>by
     by_cases e:j=k
     ·subst e;exact h
     ·exact hall j ak⟩,fun h=>h.2 k ak⟩,hs⟩,by dsimp only;omega⟩
  ·refine .exit ?_
   refine xT (xT (xB (nT ?_)))
   refine .aj (.z zm (.z zg (.nil ?_)))
   refine .ret (Fin.bK Tryz.results34 rfl ?_)
   have hf:b=false:=by simpa using hc18
   exact ⟨by rw [hf,decide_eq_false (fun h=>by subst h;rw [hb.2 ⟨rfl,fun j _=>rfl⟩] at hf;cases hf)],hs⟩
 ·refine .gFs 1 4 true rfl rfl rfl ?_
  refine .z zpF (.nil ?_)
  refine (.cF ?_)
  refine .exit ?_
  refine xT (xT (xB (nT ?_)))
  refine .aj (.z zm (.z zg (.nil ?_)))
  refine .ret (Fin.bK Tryz.results34 rfl ?_)
  refine ⟨?_,hs⟩
  congr 1
  cases hbb:b with
  |true=>
   obtain ⟨hl,ha⟩:=hb.1 hbb
   rw [decide_eq_true (Ad hl fun j hj=>ha j ak)]
  |false=>rw [decide_eq_false (fun h=>by subst h;rw [hb.2 ⟨rfl,fun j _=>rfl⟩] at hbb;cases hbb)]
theorem qv(hs:St H w σ):
  Cl Tryz.prog 82 [] w fun u w'=>∃H1 vst vwa vr vc,HLe H H1∧u= .agg #[I 1,I 1,vst,vwa,I 100,I 200,vr,vc]∧RI H1 vst exV.sp.st∧RI H1 vwa exV.sp.wa∧RRd H1 vr exV.rs∧RCm H1 vc exV.cs∧St H1 w' σ:=by
 refine Cl.of Tryz.func82 rfl Tryz.ntmps82 bQ (w9) ?_
 refine .aj ?_
 refine .o (.alloc hs ck rfl fun b0 w hs=>?_)
 refine .nil (.aj ?_)
 refine .o (.buildSlice (cells:=Is [0,1000]) hs jg rfl aq fun b2 w hs=>?_)
 refine .o (.buildSlice (cells:=Is [0,1000]) hs jg rfl aq fun b3 w hs=>?_)
 refine .z (zbd [_,_] su) (.z (zbd [_,_,_,_,_,_] qP) ?_)
 refine .o (.alloc hs gh rfl fun b1 w hs=>?_)
 refine .o (.aZ (vs:=[_,_,_,_,_,_]) hs rfl rfl aB fun w hs=>?_)
 refine .nil (.aj (.y hs (zls [_,_,_,_,_,_] aF aB) (.z (zbd [_,_,_,_,_,_,_] fH) (.z (zbd [_,_,_,_,_,_,_] fH) (.z (zbd [_,_,_,_,_,_,_] fH) (.z (zbd [_,_,_,_,_,_,_] fH) ?_))))))
 refine .o (.buildSlice (cells:=(rdc CK).flatten) hs oH rfl aq fun b11 w hs=>?_)
 refine .z (zbd [_,_,_,_,_,_] nP) ?_
 refine .o (.buildSlice (cells:=(cmc exV.cs).flatten) hs kn rfl aq fun b13 w hs=>?_)
 refine .z (zbd (vs:=[(0,.agg #[I 1,I 1,.slice (some ⟨b2,0,none⟩) 2 2,.slice (some ⟨b3,0,none⟩) 2 2,I 100,I 200]),(1,.slice (some ⟨b11,0,none⟩) 4 4),(2,.slice (some ⟨b13,0,none⟩) 1 1)]) [I 1,I 1,.slice (some ⟨b2,0,none⟩) 2 2,.slice (some ⟨b3,0,none⟩) 2 2,I 100,I 200,.slice (some ⟨b11,0,none⟩) 4 4,.slice (some ⟨b13,0,none⟩) 1 1] eo rfl aq) ?_
 refine .o (.aZ (vs:=[_,_,_,_,_,_,_,_]) hs rfl rfl az fun w hs=>?_)
 refine .nil ?_
 refine .ret ?_
 obtain ⟨H1,g1,r1,hs⟩:=cz.cK (xs:=[0,1000]) (v:= .slice (some ⟨b2,0,none⟩) 2 2) (.full rfl) bQ hs cU
 obtain ⟨H2,g2,r2,hs⟩:=cz.cK (xs:=[0,1000]) (v:= .slice (some ⟨b3,0,none⟩) 2 2) (.full rfl) bQ hs cU
 obtain ⟨H3,g3,r3,hs⟩:=cz.cO (m:=7) (cs:=rdc CK) (v:= .slice (some ⟨b11,0,none⟩) 4 4) (.full aq) (gd _) ak gK hs cU
 obtain ⟨H4,g4,r4,hs⟩:=cz.cO (m:=6) (cs:=cmc exV.cs) (v:= .slice (some ⟨b13,0,none⟩) 1 1) (.full aq) (lK _) ak gK hs cU
 exact Fin.gR [] [] hs fun w hs=>⟨_,results1 Tryz.results82 (dv (vs:=[_,_,_,_,_,_,_,_]) hs rfl aD az),H4,_,_,_,_,g1.trans (g2.trans (g3.trans g4)),rfl,r1.mono (g2.trans (g3.trans g4)),r2.mono (g3.trans g4),r3.mono g4,r4,hs.out⟩
theorem D6{out:List Int}{e:Int}(h:Ap exW out e):out=[11,15]∧e=0:=by
 cases h with
 |bad h he=>exact (he (h.cD.2 Gj)).elim
 |ok _ h=>rw [E9] at h;exact Cg h
set_option maxHeartbeats 4000000 in
theorem kR(hs:St H w σ):
  Cl Tryz.prog 22 [] w fun u w'=>u= .bool true∧∃H1,HLe H H1∧St H1 w' σ:=by
 refine Cl.of Tryz.func22 rfl Tryz.ntmps22 bQ (w9) ?_
 refine .aj (.z zg (.nil (.aj ?_)))
 refine .o (.call Tryz.call82 rfl (qv hs) ?_);rintro _ w ⟨H1,vst,vwa,vr,vc,hle1,rfl,h1,h2,h3,h4,hs⟩
 obtain ⟨ast,cst,rfl⟩:=RI.shape h1
 obtain ⟨awa,cwa,rfl⟩:=RI.shape h2
 obtain ⟨ar,cr,rfl⟩:=RRd.shape h3
 obtain ⟨ac,cc,rfl⟩:=RCm.shape h4
 refine .o (.alloc hs ck rfl fun b1 w hs=>?_)
 refine .o (.aZ (vs:=[_,_,_,_,_,_,_,_]) hs rfl rfl az fun w hs=>?_)
 refine .nil (.aj (.y hs (zls [_,_,_,_,_,_,_,_] aD az) (.z (zbd [_,_,_] nO) ?_)))
 refine .o (.call Tryz.call26 rfl (qn (s:=exV) (q:=⟨1,0,1⟩) hs h1 h2 h3 h4) ?_);rintro _ w ⟨H2,lo,hi,e,hle2,rfl,hQ,hs⟩
 obtain ⟨rfl,rfl,rfl⟩:=Cf hQ
 have hle02:=hle1.trans hle2
 replace h1:=h1.mono hle2
 replace h2:=h2.mono hle2
 replace h3:=h3.mono hle2
 replace h4:=h4.mono hle2
 refine .z zm (.z zex (.z zex ?_))
 refine .o (.alloc hs eQ rfl fun b2 w hs=>?_)
 refine .o (.aZ (vs:=[_,_]) hs rfl rfl aR fun w hs=>?_)
 refine .z zg (.nil (.aj (.y hs (zls [_,_,_,_,_,_,_,_] aD az) (.z (zbd [_,_] fG) ?_))))
 refine .o (.call Tryz.call28 rfl (rG (s:=exV) (t:=⟨2,5⟩) hs h1 h2 h3 h4) ?_);rintro _ w ⟨H3,lo,hi,e,hle3,rfl,hQ,hs⟩
 obtain ⟨rfl,rfl,rfl⟩:=E8 hQ
 have hle03:=hle02.trans hle3
 replace h1:=h1.mono hle3
 replace h2:=h2.mono hle3
 replace h3:=h3.mono hle3
 replace h4:=h4.mono hle3
 refine .z zm (.z zex (.z zex ?_))
 refine .o (.alloc hs eQ rfl fun b4 w hs=>?_)
 refine .o (.aZ (vs:=[_,_]) hs rfl rfl aR fun w hs=>?_)
 refine .z zg (.nil (.aj (.z (zfa aJ) (.y hs (zls [_,_,_,_,_,_] aF aB) ?_))))
 refine .o (.buildSlice (cells:=Is [100,200]) hs jg rfl aq fun b30 w hs=>?_)
 refine .o (.buildSlice (cells:=Is [150,300]) hs jg rfl aq fun b31 w hs=>?_)
 refine .o (.buildSlice (cells:=[.slice (some ⟨b30,0,none⟩) 2 2,.slice (some ⟨b31,0,none⟩) 2 2]) hs vf rfl aq fun b32 w hs=>?_)
 refine .z (zbd [_] yp) (.z (zbd [_,_,_] nO) ?_)
 obtain ⟨H4,g1,r1,hs⟩:=cz.cK (xs:=[100,200]) (v:= .slice (some ⟨b30,0,none⟩) 2 2) (.full rfl) bQ hs cU
 obtain ⟨H5,g2,r2,hs⟩:=cz.cK (xs:=[150,300]) (v:= .slice (some ⟨b31,0,none⟩) 2 2) (.full rfl) bQ hs cU
 have hRL:RLs H5 [.slice (some ⟨b30,0,none⟩) 2 2,.slice (some ⟨b31,0,none⟩) 2 2] Ag:=((RLs.nil H5).snoc (r1.mono g2)).snoc r2
 obtain ⟨H6,g3,hRT,hs⟩:=hRL.cO (v:= .slice (some ⟨b32,0,none⟩) 2 2) (en:= .blk b32 [.slice (some ⟨b30,0,none⟩) 2 2,.slice (some ⟨b31,0,none⟩) 2 2]) (.full rfl) bQ hs cU
 have hle4:=g1.trans (g2.trans g3)
 have hle06:=hle03.trans hle4
 replace h1:=h1.mono hle4
 replace h2:=h2.mono hle4
 replace h3:=h3.mono hle4
 replace h4:=h4.mono hle4
 refine .o (.call Tryz.call37 rfl (jq (s:=AT) (q:=⟨1,0,1⟩) hs h1 h2 hRT) ?_);rintro _ w ⟨H7,n,e,hle7,rfl,hQ,hs⟩
 obtain ⟨rfl,rfl⟩:=DX hQ
 have hle07:=hle06.trans hle7
 replace h1:=h1.mono hle7
 replace h2:=h2.mono hle7
 replace h3:=h3.mono hle7
 replace h4:=h4.mono hle7
 refine .z zm (.z zex (.z zex (.z zg (.z zg (.nil (.aj (.y hs (zls [_,_,_,_,_,_,_,_] aD az) (.z (zbd [_,_,_,_,_,_,_] fH) ?_))))))))
 refine .o (.call Tryz.call46 rfl (l7 (s:=exV) (r:=⟨30,1,0,0,5,1,5⟩) hs h1 h2 h3 h4 rfl) ?_);rintro _ w ⟨H8,lo,hi,e,hle8,rfl,hQ,hs⟩
 obtain ⟨rfl,rfl,rfl⟩:=E7 hQ
 have hle08:=hle07.trans hle8
 replace h1:=h1.mono hle8
 replace h2:=h2.mono hle8
 replace h3:=h3.mono hle8
 replace h4:=h4.mono hle8
 refine .z zm (.z zex (.z zex ?_))
 refine .o (.alloc hs eQ rfl fun b8 w hs=>?_)
 refine .o (.aZ (vs:=[_,_]) hs rfl rfl aR fun w hs=>?_)
 refine .z zg (.nil (.aj (.y hs (zls [_,_,_,_,_,_,_,_] aD az) ?_)))
 refine .o (.alloc hs ck rfl fun b10 w hs=>?_)
 refine .o (.aZ (vs:=[_,_,_,_,_,_,_,_]) hs rfl rfl az fun w hs=>?_)
 refine .nil (.aj ?_)
 refine .o (.buildSlice (cells:=[]) hs gn rfl rfl fun b45 w hs=>?_)
 refine .z (zfa aI) (.y hs (zld aU) ?_)
 refine .o (.append (xs:=[]) (ys:=(rdc CK).flatten) hs bH rfl rfl (.full (b:=b45) (len:=0) rfl) (.rs h3) gK (fun l' h=>by have hl:l'=0:=(by simp at h;omega);subst hl;decide) ?_);intro v48 en48 w hO48 hs
 rw [List.nil_append] at hO48
 obtain ⟨a48,c48,rfl⟩:=hO48.fM (gd CK) ak
 refine .z (zbd [_,_,_,_,_,_,_] fH) ?_
 refine .o (.buildSlice (cells:=Rdg.c ⟨15,0,0,300,10,1,5⟩) hs dZ rfl aq fun b50 w hs=>?_)
 refine .o (.append (ys:=Rdg.c ⟨15,0,0,300,10,1,5⟩) hs bH rfl rfl hO48 (.own .here rfl rfl) gK (fun l' h=>by rw [cu _ (gd _)] at h;simp [rdc,CK] at h;omega) ?_);intro v51 en51 w hO51 hs
 rw [←mn] at hO51
 obtain ⟨H9,hle9,h3w,hs⟩:=cz.cO (m:=7) (cs:=rdc (CK++[⟨15,0,0,300,10,1,5⟩])) hO51 (gd _) ak gK hs cU
 replace h3w:RRd H9 v51 exW.rs:=h3w
 obtain ⟨a51,c51,rfl⟩:=RRd.shape h3w
 have hle09:=hle08.trans hle9
 replace h1:=h1.mono hle9
 replace h2:=h2.mono hle9
 replace h4:=h4.mono hle9
 refine .z (zfa aI) ?_
 refine .o (.store hs rfl rfl ib fun w hs=>?_)
 refine .nil (.aj (.y hs (zls [_,_,_,_,_,_,_,_] aD az) ?_))
 refine .o (.call Tryz.call32 rfl (qm (s:=exW) hs h1 h2 h3w h4) ?_);rintro _ w ⟨H10,vx,out,e,hle10,rfl,hR,hQ,hs⟩
 obtain ⟨rfl,rfl⟩:=D6 hQ
 have hle010:=hle09.trans hle10
 refine .z zm (.z zex (.z zex (.z zg (.z zg (.nil (.aj (.z zm ?_)))))))
 refine .o (.buildSlice (cells:=Is [11,15]) hs jg rfl aq fun b59 w hs=>?_)
 obtain ⟨H11,hle11,r59,hs⟩:=cz.cK (xs:=[11,15]) (v:= .slice (some ⟨b59,0,none⟩) 2 2) (.full rfl) bQ hs cU
 have hleF:=hle010.trans hle11
 refine .o (.call Tryz.call34 rfl (gI hs (hR.mono hle11) r59) ?_);rintro _ w ⟨rfl,hs⟩
 refine .z zg (.nil (.aj (.z zm (.z fw (.z zm ?_)))))
 refine .iB (t':=63) rfl (fun hb63=>?_) (fun hb63=>?_)
 ·refine .gT rfl rfl ?_
  refine .y hs (zls [_,_] cI aR) ?_
  refine .gT rfl rfl ?_
  refine .z (zbd [_,_] cq) ?_
  refine .gT rfl rfl ?_
  refine .q hs (nA rn rp je (fun f hf=>by
   simp only [List.mem_cons,List.not_mem_nil,or_false] at hf
   rcases hf with rfl|rfl<;>exact ⟨by decide,aV,af⟩) rfl rfl) ?_
  refine .z zpT (.z zm ?_)
  refine .bif (t':=68) rfl (fun hb68=>?_) (fun hb68=>?_)
  ·refine .gT rfl rfl ?_
   refine .z zm ?_
   refine .gT rfl rfl ?_
   refine .z fw (.z zpT (.z zm ?_))
   refine .iB (t':=72) rfl (fun hb72=>?_) (fun hb72=>?_)
   ·refine .gT rfl rfl ?_
    refine .y hs (zls [_,_] cI aR) ?_
    refine .gT rfl rfl ?_
    refine .z (zbd [_,_] cq) ?_
    refine .gT rfl rfl ?_
    refine .q hs (nA rn rp je (fun f hf=>by
     simp only [List.mem_cons,List.not_mem_nil,or_false] at hf
     rcases hf with rfl|rfl<;>exact ⟨by decide,aV,af⟩) rfl rfl) ?_
    refine .z zpT (.z zm ?_)
    refine .bif (t':=77) rfl (fun hb77=>?_) (fun hb77=>?_)
    ·refine .gT rfl rfl ?_
     refine .z zm ?_
     refine .gT rfl rfl ?_
     refine .z fw (.z zpT (.z zm ?_))
     refine .iB (t':=81) rfl (fun hb81=>?_) (fun hb81=>?_)
     ·refine .gT rfl rfl ?_
      refine .z zm ?_
      refine .gT rfl rfl ?_
      refine .z fw (.z zpT (.z zm ?_))
      refine .iB (t':=85) rfl (fun hb85=>?_) (fun hb85=>?_)
      ·refine .gT rfl rfl ?_
       refine .z zm ?_
       refine .gT rfl rfl ?_
       refine .z fw (.z zpT (.z zm ?_))
       refine .iB (t':=89) rfl (fun hb89=>?_) (fun hb89=>?_)
       ·refine .gT rfl rfl ?_
        refine .y hs (zls [_,_] cI aR) ?_
        refine .gT rfl rfl ?_
        refine .z (zbd [_,_] cq) ?_
        refine .gT rfl rfl ?_
        refine .q hs (nA rn rp je (fun f hf=>by
         simp only [List.mem_cons,List.not_mem_nil,or_false] at hf
         rcases hf with rfl|rfl<;>exact ⟨by decide,aV,af⟩) rfl rfl) ?_
        refine .z zpT (.z zm ?_)
        refine .bif (t':=94) rfl (fun hb94=>?_) (fun hb94=>?_)
        ·refine .gT rfl rfl ?_
         refine .z zm ?_
         refine .gT rfl rfl ?_
         refine .z fw (.z zpT (.z zm ?_))
         refine .iB (t':=98) rfl (fun hb98=>?_) (fun hb98=>?_)
         ·refine .gT rfl rfl ?_
          refine .z zm (.z zpT (.z zg (.nil ?_)))
          refine .ret (Fin.bK iC rfl ?_)
          first
          |exact ⟨rfl,H11,hleF,hs.out⟩
          |contradiction
          |(exfalso;simp_all;done)
         ·refine .gFs 1 37 true rfl rfl rfl ?_
          refine .z zpF (.z zg (.nil ?_))
          refine .ret (Fin.bK iC rfl ?_)
          first
          |exact ⟨rfl,H11,hleF,hs.out⟩
          |contradiction
          |(exfalso;simp_all;done)
        ·refine .gFs 2 33 true rfl rfl rfl ?_
         refine .z zpF (.z zm ?_)
         refine .gFs 1 37 true rfl rfl rfl ?_
         refine .z zpF (.z zg (.nil ?_))
         refine .ret (Fin.bK iC rfl ?_)
         first
         |exact ⟨rfl,H11,hleF,hs.out⟩
         |contradiction
         |(exfalso;simp_all;done)
       ·refine .gFs 3 28 true rfl rfl rfl ?_
        refine .z zpF (.z zm ?_)
        refine .gFs 2 33 true rfl rfl rfl ?_
        refine .z zpF (.z zm ?_)
        refine .gFs 1 37 true rfl rfl rfl ?_
        refine .z zpF (.z zg (.nil ?_))
        refine .ret (Fin.bK iC rfl ?_)
        first
        |exact ⟨rfl,H11,hleF,hs.out⟩
        |contradiction
        |(exfalso;simp_all;done)
      ·refine .gFs 2 24 true rfl rfl rfl ?_
       refine .z zpF (.z zm ?_)
       refine .gFs 3 28 true rfl rfl rfl ?_
       refine .z zpF (.z zm ?_)
       refine .gFs 2 33 true rfl rfl rfl ?_
       refine .z zpF (.z zm ?_)
       refine .gFs 1 37 true rfl rfl rfl ?_
       refine .z zpF (.z zg (.nil ?_))
       refine .ret (Fin.bK iC rfl ?_)
       first
       |exact ⟨rfl,H11,hleF,hs.out⟩
       |contradiction
       |(exfalso;simp_all;done)
     ·refine .gFs 2 20 true rfl rfl rfl ?_
      refine .z zpF (.z zm ?_)
      refine .gFs 2 24 true rfl rfl rfl ?_
      refine .z zpF (.z zm ?_)
      refine .gFs 3 28 true rfl rfl rfl ?_
      refine .z zpF (.z zm ?_)
      refine .gFs 2 33 true rfl rfl rfl ?_
      refine .z zpF (.z zm ?_)
      refine .gFs 1 37 true rfl rfl rfl ?_
      refine .z zpF (.z zg (.nil ?_))
      refine .ret (Fin.bK iC rfl ?_)
      first
      |exact ⟨rfl,H11,hleF,hs.out⟩
      |contradiction
      |(exfalso;simp_all;done)
    ·refine .gFs 2 16 true rfl rfl rfl ?_
     refine .z zpF (.z zm ?_)
     refine .gFs 2 20 true rfl rfl rfl ?_
     refine .z zpF (.z zm ?_)
     refine .gFs 2 24 true rfl rfl rfl ?_
     refine .z zpF (.z zm ?_)
     refine .gFs 3 28 true rfl rfl rfl ?_
     refine .z zpF (.z zm ?_)
     refine .gFs 2 33 true rfl rfl rfl ?_
     refine .z zpF (.z zm ?_)
     refine .gFs 1 37 true rfl rfl rfl ?_
     refine .z zpF (.z zg (.nil ?_))
     refine .ret (Fin.bK iC rfl ?_)
     first
     |exact ⟨rfl,H11,hleF,hs.out⟩
     |contradiction
     |(exfalso;simp_all;done)
   ·refine .gFs 3 11 true rfl rfl rfl ?_
    refine .z zpF (.z zm ?_)
    refine .gFs 2 16 true rfl rfl rfl ?_
    refine .z zpF (.z zm ?_)
    refine .gFs 2 20 true rfl rfl rfl ?_
    refine .z zpF (.z zm ?_)
    refine .gFs 2 24 true rfl rfl rfl ?_
    refine .z zpF (.z zm ?_)
    refine .gFs 3 28 true rfl rfl rfl ?_
    refine .z zpF (.z zm ?_)
    refine .gFs 2 33 true rfl rfl rfl ?_
    refine .z zpF (.z zm ?_)
    refine .gFs 1 37 true rfl rfl rfl ?_
    refine .z zpF (.z zg (.nil ?_))
    refine .ret (Fin.bK iC rfl ?_)
    first
    |exact ⟨rfl,H11,hleF,hs.out⟩
    |contradiction
    |(exfalso;simp_all;done)
  ·refine .gFs 2 7 true rfl rfl rfl ?_
   refine .z zpF (.z zm ?_)
   refine .gFs 3 11 true rfl rfl rfl ?_
   refine .z zpF (.z zm ?_)
   refine .gFs 2 16 true rfl rfl rfl ?_
   refine .z zpF (.z zm ?_)
   refine .gFs 2 20 true rfl rfl rfl ?_
   refine .z zpF (.z zm ?_)
   refine .gFs 2 24 true rfl rfl rfl ?_
   refine .z zpF (.z zm ?_)
   refine .gFs 3 28 true rfl rfl rfl ?_
   refine .z zpF (.z zm ?_)
   refine .gFs 2 33 true rfl rfl rfl ?_
   refine .z zpF (.z zm ?_)
   refine .gFs 1 37 true rfl rfl rfl ?_
   refine .z zpF (.z zg (.nil ?_))
   refine .ret (Fin.bK iC rfl ?_)
   first
   |exact ⟨rfl,H11,hleF,hs.out⟩
   |contradiction
   |(exfalso;simp_all;done)
 ·refine .gFs 3 2 true rfl rfl rfl ?_
  refine .z zpF (.z zm ?_)
  refine .gFs 2 7 true rfl rfl rfl ?_
  refine .z zpF (.z zm ?_)
  refine .gFs 3 11 true rfl rfl rfl ?_
  refine .z zpF (.z zm ?_)
  refine .gFs 2 16 true rfl rfl rfl ?_
  refine .z zpF (.z zm ?_)
  refine .gFs 2 20 true rfl rfl rfl ?_
  refine .z zpF (.z zm ?_)
  refine .gFs 2 24 true rfl rfl rfl ?_
  refine .z zpF (.z zm ?_)
  refine .gFs 3 28 true rfl rfl rfl ?_
  refine .z zpF (.z zm ?_)
  refine .gFs 2 33 true rfl rfl rfl ?_
  refine .z zpF (.z zm ?_)
  refine .gFs 1 37 true rfl rfl rfl ?_
  refine .z zpF (.z zg (.nil ?_))
  refine .ret (Fin.bK iC rfl ?_)
  first
  |exact ⟨rfl,H11,hleF,hs.out⟩
  |contradiction
  |(exfalso;simp_all;done)
set_option maxRecDepth 100000 in
theorem vQ:Tryz.prog.stoodInHeld 160=false:=by kernel_rfl
set_option maxRecDepth 100000 in
theorem vR:Tryz.prog.eqGuardType Tryz.prog.depth 160=false:=by kernel_rfl
theorem Ev{a b:Lim}:(a.A=b.A∧a.B=b.B∧a.M=b.M∧a.S=b.S)↔a=b:=by
 cases a;cases b;simp
theorem nv{v1 v2:Value}{a b:dj}(hs:St H w σ)(h1:RSy H v1 a)(h2:RSy H v2 b):
  Cl Tryz.prog 40 [v1,v2] w fun u w'=>∃bb:Bool,u= .bool bb∧(bb=true↔a=b)∧St H w' σ:=by
 obtain ⟨u1,rfl,g1⟩:=h1
 obtain ⟨u2,rfl,g2⟩:=h2
 obtain ⟨a1,c1,rfl⟩:=RL.shape g1
 obtain ⟨a2,c2,rfl⟩:=RL.shape g2
 have l1:=(RS.len g1).2.2
 have hiff:a=b↔a.many=b.many∧a.bU.length=b.bU.length∧∀j<a.bU.length,a.bU[j]? =b.bU[j]? :=by
  constructor
  ·rintro rfl;exact ⟨rfl,rfl,fun _ _=>rfl⟩
  ·rintro ⟨e1,e2,e3⟩
   have:a.bU=b.bU:=List.ext_getElem? fun j=>by
    by_cases hj:j<a.bU.length
    ·exact e3 j hj
    ·rw [List.getElem?_eq_none ak,List.getElem?_eq_none ak]
   cases a;cases b;simp_all
 refine Cl.o Tryz.func40 Tryz.ntmps40 ag2 ?_
 refine .aj ?_
 refine .bx hs fun b2 w hs=>?_
 refine .bx hs fun b3 w hs=>?_
 refine .z zg (.nil (.aj (.z (zfa bA) (.y hs (zld af) (.z (zfa bA) (.y hs (zld af) (.z fw (.z zm ?_))))))))
 refine .iB (t':=12) rfl (fun hb12=>?_) (fun hb12=>?_)
 ·refine .gT rfl rfl ?_
  refine .z (zfa bh) ?_
  refine .gT rfl rfl ?_
  refine .y hs (zld bT) ?_
  refine .gT rfl rfl ?_
  refine .z (cN aH) ?_
  refine .gT rfl rfl ?_
  refine .z (zfa bh) ?_
  refine .gT rfl rfl ?_
  refine .y hs (zld bT) ?_
  refine .gT rfl rfl ?_
  refine .z (cN aH) ?_
  refine .gT rfl rfl ?_
  refine .z fw (.z zpT (.z zg (.nil (.seq (.aj (.z zg (.nil (.block ?_))))))))
  refine .loop (fun p:Nat×Bool=>⟨43,[],[(6,I (p.1:Int)),(5,.bool p.2),(2,.pointer (some ⟨b2,0,none⟩)),(3,.pointer (some ⟨b3,0,none⟩))]⟩)
   (fun p w=>p.1≤a.bU.length∧(p.2=true↔a.many=b.many∧a.bU.length=b.bU.length∧∀j<p.1,a.bU[j]? =b.bU[j]?)∧St H w (.blk b3 [I b.many,.slice a2 b.bU.length c2]:: .blk b2 [I a.many,.slice a1 a.bU.length c1]::σ)) (fun p=>a.bU.length - p.1) (0,decide (a.many=b.many∧a.bU.length=b.bU.length)) (.cons rfl (.D1 rfl (congrArg Value.bool (decide_eq_decide.2 ⟨fun h=>⟨hb12,ak⟩,fun h=>by omega⟩)) a8))
   ⟨Nat.zero_le _,by dsimp only;rw [decide_eq_true_eq];exact ⟨fun h=>⟨h.1,h.2,fun j hj=>by omega⟩,fun h=>⟨h.1,h.2.1⟩⟩,hs⟩ ?_
  rintro ⟨k,bb⟩ w ⟨hk,hb,hs⟩
  dsimp only at hk hb ⊢
  refine .seq (.aj (.z zm (.z (zfa bh) (.y hs (zld bT) (.z (cN aH) (.z fD (.z zm ?_)))))))
  refine .iB (t':=26) rfl (fun hb26=>?_) (fun hb26=>?_)
  ·refine .gT rfl rfl ?_
   refine .z zm (.z zpT (.nil ?_))
   refine (.cond rfl (fun hc28=>?_) (fun hc28=>?_))
   ·refine .skip ?_
    refine nT ?_
    refine .seq (.block ?_)
    refine .draw mix rfl hs fun w hs=>?_
    refine .z 0 rfl (zfa bh) ?_;refine .y 1 rfl hs bT ?_;refine .z 2 rfl zm ?_
    obtain rfl:bb=true:=by assumption
    obtain ⟨hm,hlen,hall⟩:=hb.1 rfl
    obtain ⟨x,hx⟩:=nth (l:=a.bU) (k:=k) ak
    obtain ⟨y,hy⟩:=nth (l:=b.bU) (k:=k) ak
    refine .ixX (enc:=Lim.c) (i:=3) hs rfl aq .none g1 rfl rfl aH aQ hx cJ ?_;intro b34 o34 hc34
    refine .r (i:=4) hs rfl aq .none (cj (vs:=x.c) rfl dS aQ hc34) ?_
    refine .z 5 rfl (zfa bh) ?_;refine .y 6 rfl hs bT ?_;refine .z 7 rfl zm ?_
    refine .ixX (enc:=Lim.c) (i:=8) hs rfl aq .none g2 rfl rfl aH aQ hy cJ ?_;intro b39 o39 hc39
    refine .r (i:=9) hs rfl aq .none (cj (vs:=y.c) rfl dS aQ hc39) ?_
    refine .z 10 rfl (Et vQ vR iF (fun f hf=>by
     simp only [List.mem_cons,List.not_mem_nil,or_false] at hf
     rcases hf with rfl|rfl|rfl|rfl<;>exact ⟨by decide,aV,af⟩) rfl rfl) ?_
    refine .z 11 rfl zg ?_;refine .D hs ?_
    refine nB (nT ?_)
    refine .region (.z zm (.z cH (.z zg (.nil ?_))))
    refine nT ?_
    exact ⟨(k+1,decide (x.A=y.A∧x.B=y.B∧x.M=y.M∧x.S=y.S)),.cn rfl bQ a8,⟨by dsimp only;omega,by
     dsimp only
     rw [decide_eq_true_eq,Ev]
     constructor
     ·intro h
      refine ⟨hm,hlen,fun j hj=>?_⟩
      by_cases e:j=k
      ·subst e;rw [hx,hy,h]
      ·exact hall j ak
     ·intro h
      have:=h.2.2 k ak
      rw [hx,hy] at this
      exact Option.some.inj this,hs⟩,by dsimp only;omega⟩
   ·refine .exit ?_
    refine xT (xT (xB (nT ?_)))
    refine .aj (.z zm (.z zg (.nil ?_)))
    refine .ret (Fin.bK Tryz.results40 rfl ?_)
    have hf:bb=false:=by simpa using hc28
    subst hf
    exact ⟨false,rfl,by rw [hiff];exact ⟨fun h=>(by cases h),fun h=>hb.2 ⟨h.1,h.2.1,fun j hj=>h.2.2 j ak⟩⟩,hs.out⟩
  ·refine .gFs 1 5 true rfl rfl rfl ?_
   refine .z zpF (.nil ?_)
   refine (.cF ?_)
   refine .exit ?_
   refine xT (xT (xB (nT ?_)))
   refine .aj (.z zm (.z zg (.nil ?_)))
   refine .ret (Fin.bK Tryz.results40 rfl ?_)
   obtain rfl:k=a.bU.length:=by omega
   exact ⟨bb,rfl,by rw [hiff];exact hb,hs.out⟩
 ·refine .gFs 7 5 true rfl rfl rfl ?_
  refine .z zpF (.z zg (.nil (.seq (.aj (.z zg (.nil (.block ?_)))))))
  refine .loop (fun p:Nat×Bool=>⟨43,[],[(6,I (p.1:Int)),(5,.bool p.2),(2,.pointer (some ⟨b2,0,none⟩)),(3,.pointer (some ⟨b3,0,none⟩))]⟩)
   (fun p w=>p.1≤a.bU.length∧(p.2=true↔a.many=b.many∧a.bU.length=b.bU.length∧∀j<p.1,a.bU[j]? =b.bU[j]?)∧St H w (.blk b3 [I b.many,.slice a2 b.bU.length c2]:: .blk b2 [I a.many,.slice a1 a.bU.length c1]::σ)) (fun p=>a.bU.length - p.1) (0,decide (a.many=b.many∧a.bU.length=b.bU.length)) (.cons rfl (.D1 rfl (congrArg Value.bool (decide_eq_false fun h=>hb12 h.1).symm) a8))
   ⟨Nat.zero_le _,by dsimp only;rw [decide_eq_true_eq];exact ⟨fun h=>⟨h.1,h.2,fun j hj=>by omega⟩,fun h=>⟨h.1,h.2.1⟩⟩,hs⟩ ?_
  rintro ⟨k,bb⟩ w ⟨hk,hb,hs⟩
  dsimp only at hk hb ⊢
  refine .seq (.aj (.z zm (.z (zfa bh) (.y hs (zld bT) (.z (cN aH) (.z fD (.z zm ?_)))))))
  refine .iB (t':=26) rfl (fun hb26=>?_) (fun hb26=>?_)
  ·refine .gT rfl rfl ?_
   refine .z zm (.z zpT (.nil ?_))
   refine (.cond rfl (fun hc28=>?_) (fun hc28=>?_))
   ·refine .skip ?_
    refine nT ?_
    refine .seq (.block ?_)
    refine .draw mix rfl hs fun w hs=>?_
    refine .z 0 rfl (zfa bh) ?_;refine .y 1 rfl hs bT ?_;refine .z 2 rfl zm ?_
    obtain rfl:bb=true:=by assumption
    obtain ⟨hm,hlen,hall⟩:=hb.1 rfl
    obtain ⟨x,hx⟩:=nth (l:=a.bU) (k:=k) ak
    obtain ⟨y,hy⟩:=nth (l:=b.bU) (k:=k) ak
    refine .ixX (enc:=Lim.c) (i:=3) hs rfl aq .none g1 rfl rfl aH aQ hx cJ ?_;intro b34 o34 hc34
    refine .r (i:=4) hs rfl aq .none (cj (vs:=x.c) rfl dS aQ hc34) ?_
    refine .z 5 rfl (zfa bh) ?_;refine .y 6 rfl hs bT ?_;refine .z 7 rfl zm ?_
    refine .ixX (enc:=Lim.c) (i:=8) hs rfl aq .none g2 rfl rfl aH aQ hy cJ ?_;intro b39 o39 hc39
    refine .r (i:=9) hs rfl aq .none (cj (vs:=y.c) rfl dS aQ hc39) ?_
    refine .z 10 rfl (Et vQ vR iF (fun f hf=>by
     simp only [List.mem_cons,List.not_mem_nil,or_false] at hf
     rcases hf with rfl|rfl|rfl|rfl<;>exact ⟨by decide,aV,af⟩) rfl rfl) ?_
    refine .z 11 rfl zg ?_;refine .D hs ?_
    refine nB (nT ?_)
    refine .region (.z zm (.z cH (.z zg (.nil ?_))))
    refine nT ?_
    exact ⟨(k+1,decide (x.A=y.A∧x.B=y.B∧x.M=y.M∧x.S=y.S)),.cn rfl bQ a8,⟨by dsimp only;omega,by
     dsimp only
     rw [decide_eq_true_eq,Ev]
     constructor
     ·intro h
      refine ⟨hm,hlen,fun j hj=>?_⟩
      by_cases e:j=k
      ·subst e;rw [hx,hy,h]
      ·exact hall j ak
     ·intro h
      have:=h.2.2 k ak
      rw [hx,hy] at this
      exact Option.some.inj this,hs⟩,by dsimp only;omega⟩
   ·refine .exit ?_
    refine xT (xT (xB (nT ?_)))
    refine .aj (.z zm (.z zg (.nil ?_)))
    refine .ret (Fin.bK Tryz.results40 rfl ?_)
    have hf:bb=false:=by simpa using hc28
    subst hf
    exact ⟨false,rfl,by rw [hiff];exact ⟨fun h=>(by cases h),fun h=>hb.2 ⟨h.1,h.2.1,fun j hj=>h.2.2 j ak⟩⟩,hs.out⟩
  ·refine .gFs 1 5 true rfl rfl rfl ?_
   refine .z zpF (.nil ?_)
   refine (.cF ?_)
   refine .exit ?_
   refine xT (xT (xB (nT ?_)))
   refine .aj (.z zm (.z zg (.nil ?_)))
   refine .ret (Fin.bK Tryz.results40 rfl ?_)
   obtain rfl:k=a.bU.length:=by omega
   exact ⟨bb,rfl,by rw [hiff];exact hb,hs.out⟩
def Gq(v:Srv)(s:dj)(e:Int):Prop:=tl v e∧(e=0→s=v.sys)∧(e≠0→s=⟨0,[]⟩)
theorem Gq.uniq{v:Srv}{s t:dj}{e f:Int}(h:Gq v s e)(g:Gq v t f):s=t∧e=f:=by
 obtain rfl:=h.1.uniq g.1
 by_cases h0:e=0
 ·exact ⟨(h.2.1 h0).trans (g.2.1 h0).symm,rfl⟩
 ·exact ⟨(h.2.2 h0).trans (g.2.2 h0).symm,rfl⟩
theorem pz{s:Srv}{vst vwa vr vc:Value}(hs:St H w σ)(h1:RI H vst s.sp.st)(h2:RI H vwa s.sp.wa)(h3:RRd H vr s.rs)(h4:RCm H vc s.cs):
  Cl Tryz.prog 38 [.agg #[I s.sp.id,I s.sp.src,vst,vwa,I s.sp.al,I s.sp.up,vr,vc]] w fun u w'=>∃H1 t ul e,HLe H H1∧u= .tuple #[.agg #[I t.many,ul],I e]∧RL H1 ul t.bU∧Gq s t e∧St H1 w' σ:=by
 refine Cl.o Tryz.func38 Tryz.ntmps38 ag1 ?_
 refine .aj ?_
 refine .bx hs fun b1 w hs=>?_
 refine .o (.alloc hs dd rfl fun b2 w hs=>?_)
 refine .z zg (.nil (.seq (.aj (.y hs (zls [_,_,_,_,_,_,_,_] aD az) ?_))))
 refine .o (.call jQ rfl (dp (s:=s) hs h1 h2 h3 h4) ?_);rintro _ w ⟨H1,e,hle1,rfl,hC,hs⟩
 refine .z zg (.nil (.aj (.z zm (.z gP (.nil ?_)))))
 refine (.eI rfl (fun hc8=>?_) (fun hc8=>?_))
 ·refine .aj (.z (zbd [_,_] iQ) (.z zm ?_))
  refine .o (.aZ (vs:=[_,_]) hs rfl rfl aM fun w hs=>?_)
  refine .z zg (.nil ?_)
  refine .ret (rT (?_))
  exact Fin.gR [] [] hs fun w hs=>⟨_,results2 Tryz.results38 (dv (vs:=[_,_]) hs rfl bp aM) rfl,H1,⟨0,[]⟩,_,_,hle1,rfl,RS.nil H1 4 none 0,⟨hC,fun h=>(hc8 h).elim,fun _=>rfl⟩,hs.out⟩
 ·refine .skip ?_
  refine nT ?_
  refine .aj (.y hs (zls [_,_,_,_,_,_,_,_] aD az) ?_)
  have hok:eD s:=hC.cD.1 (by simpa using hc8)
  refine .o (.call se rfl (eC (s:=s) hs (h1.mono hle1) (h2.mono hle1) (h3.mono hle1) (h4.mono hle1) hok.early) ?_);rintro _ w ⟨H2,hle2,⟨ul,rfl,hL⟩,hs⟩
  obtain ⟨al,cl,rfl⟩:=RL.shape hL
  refine .o (.aZ (vs:=[_,_]) hs rfl rfl aM fun w hs=>?_)
  refine .z zg (.nil ?_)
  refine .ret ?_
  exact Fin.gR [] [] hs fun w hs=>⟨_,results2 Tryz.results38 (dv (vs:=[_,_]) hs rfl bp aM) rfl,H2,s.sys,_,_,hle1.trans hle2,rfl,hL,⟨.ok hok.early ⟨hok.many,hok.bU⟩,fun _=>rfl,fun h=>(h rfl).elim⟩,hs.out⟩
theorem rA{s:Srv}{vst vwa vr vc:Value}(hs:St H w σ)(h1:RI H vst s.sp.st)(h2:RI H vwa s.sp.wa)(h3:RRd H vr s.rs)(h4:RCm H vc s.cs):
  Cl Tryz.prog 39 [.agg #[I s.sp.id,I s.sp.src,vst,vwa,I s.sp.al,I s.sp.up,vr,vc]] w fun u w'=>∃H1 t ul e,HLe H H1∧u= .tuple #[.agg #[I t.many,ul],I e]∧RL H1 ul t.bU∧Gq s t e∧St H1 w' σ:=by
 refine Cl.o Tryz.func39 Tryz.ntmps39 ag1 ?_
 refine .aj ?_
 refine .bx hs fun b1 w hs=>?_
 refine .o (.alloc hs dd rfl fun b2 w hs=>?_)
 refine .z zg (.nil (.aj (.y hs (zls [_,_,_,_,_,_,_,_] aD az) ?_)))
 refine .o (.call sf rfl (eM (s:=s) hs h1 h2 h3 h4) ?_);rintro _ w ⟨H1,e,hle1,rfl,hC,hs⟩
 refine .z zg (.nil (.seq (.aj (.z zm (.z gP (.nil ?_))))))
 refine (.eI rfl (fun hc8=>?_) (fun hc8=>?_))
 ·refine .aj (.z (zbd [_,_] iQ) (.z zm ?_))
  refine .o (.aZ (vs:=[_,_]) hs rfl rfl aM fun w hs=>?_)
  refine .z zg (.nil ?_)
  refine .ret (rT (?_))
  exact Fin.gR [] [] hs fun w hs=>⟨_,results2 Tryz.results39 (dv (vs:=[_,_]) hs rfl bp aM) rfl,H1,⟨0,[]⟩,_,_,hle1,rfl,RS.nil H1 4 none 0,⟨hC,fun h=>(hc8 h).elim,fun _=>rfl⟩,hs.out⟩
 ·refine .skip ?_
  refine nT ?_
  refine .aj (.y hs (zls [_,_,_,_,_,_,_,_] aD az) ?_)
  have hok:eD s:=hC.cD.1 (by simpa using hc8)
  refine .o (.call Tryz.call95 rfl (lW (s:=s) hs (h1.mono hle1) (h2.mono hle1) (h3.mono hle1) (h4.mono hle1) hok.early) ?_);rintro _ w ⟨H2,hle2,⟨ul,rfl,hL⟩,hs⟩
  obtain ⟨al,cl,rfl⟩:=RL.shape hL
  refine .o (.aZ (vs:=[_,_]) hs rfl rfl aM fun w hs=>?_)
  refine .z zg (.nil ?_)
  refine .ret ?_
  exact Fin.gR [] [] hs fun w hs=>⟨_,results2 Tryz.results39 (dv (vs:=[_,_]) hs rfl bp aM) rfl,H2,s.sys,_,_,hle1.trans hle2,rfl,hL,⟨.ok hok.early ⟨hok.many,hok.bU⟩,fun _=>rfl,fun h=>(h rfl).elim⟩,hs.out⟩
theorem C4{s:Spc}{e f:Int}(h:(eT s∧e=0)∨(¬eT s∧e=30))(g:(eT s∧f=0)∨(¬eT s∧f=30)):e=f:=by
 rcases h with ⟨h,rfl⟩|⟨h,rfl⟩<;>rcases g with ⟨g,rfl⟩|⟨g,rfl⟩<;>first|rfl|contradiction
structure WI(s:Spc)(L:List Int)(f:Nat→Nat→Int):Prop where
 len:L.length=s.many+1
 zero:gi L 0=0
 at_:∀i k,i<s.st.length→k<s.wa.length→gi L (s.u i k)=f i k
theorem WI.start(s:Spc):WI s (List.replicate (s.many+1) 0) fun _ _=>0:=
 ⟨bQ,dT _ _ ak,fun i k hi hk=>by have:=sh hi hk;exact dT _ _ ak⟩
theorem WI.set{s:Spc}{L:List Int}{f:Nat→Nat→Int}(h:WI s L f){i k:Nat}(hi:i<s.st.length)(hk:k<s.wa.length)(x:Int):WI s (L.set (s.u i k) x) fun i' k'=>if i'=i∧k'=k then x else f i' k':=by
 have hb:=sh hi hk
 refine ⟨by rw [List.length_set];exact h.len,by rw [qz ak];exact h.zero,fun i' k' hi' hk'=>?_⟩
 have hb':=sh hi' hk'
 rw [eU (by rw [h.len];omega)]
 by_cases e:i'=i∧k'=k
 ·obtain ⟨rfl,rfl⟩:=e
  rw [if_pos rfl,if_pos ⟨rfl,rfl⟩]
 ·rw [if_neg e,if_neg,h.at_ i' k' hi' hk']
  intro e2
  obtain ⟨d1,d2⟩:=EK (nw:=s.wa.length) (i:=i) hk
  obtain ⟨d3,d4⟩:=EK (nw:=s.wa.length) (i:=i') hk'
  have e3:i'*s.wa.length+k'=i*s.wa.length+k:=by unfold Spc.u at e2;omega
  rw [e3] at d3 d4
  exact e ⟨d3.symm.trans d1,d4.symm.trans d2⟩
theorem WI.congr{s:Spc}{L:List Int}{f g:Nat→Nat→Int}(h:WI s L f)(e:∀i k,i<s.st.length→k<s.wa.length→f i k=g i k):WI s L g:=
 ⟨h.len,h.zero,fun i k hi hk=>(h.at_ i k hi hk).trans (e i k hi hk)⟩
theorem WI.fin{s:Spc}{q:Wht}{L:List Int}(h:WI s L (ka s q)):L=mQ s q:=CU h.len h.zero h.at_
theorem rz{s:Spc}{q:Wht}{vst vwa:Value}(hs:St H w σ)(h1:RI H vst s.st)(h2:RI H vwa s.wa):
  Cl Tryz.prog 112 [.agg #[I s.id,I s.src,vst,vwa,I s.al,I s.up],.agg #[I q.kind,I q.st,I q.wa]] w fun v w'=>∃b:Bool,v= .bool b∧(b=true↔gW s q)∧St H w' σ:=by
 obtain ⟨ast,cst,rfl⟩:=RI.shape h1
 obtain ⟨awa,cwa,rfl⟩:=RI.shape h2
 have l1:=(RI.len h1).2.2
 have l2:=(RI.len h2).2.2
 have hi:=na (s:=s) (q:=q)
 simp only [Spc.isW,Spc.isS] at hi
 refine Cl.o Tryz.func112 Tryz.ntmps112 ag2 ?_
 refine .aj ?_
 refine .bx hs fun b2 w hs=>?_
 refine .bx hs fun b3 w hs=>?_
 refine .z zg (.nil (.aj (.z (zfa dy) (.y hs (zld af) (.z (zfa aS) (.y hs (zld an) (.z (cN ae) (.z gO ?_))))))))
 refine .o (.call eK rfl (dh hs) ?_);rintro _ w ⟨rfl,hs⟩
 refine .z zg (.nil (.aj (.z (zfa eu) (.y hs (zld af) (.z (zfa bj) (.y hs (zld an) (.z (cN ae) (.z gO ?_))))))))
 refine .o (.call eK rfl (dh hs) ?_);rintro _ w ⟨rfl,hs⟩
 refine .z zg (.nil (.seq (.aj (.z (zfa ky) (.y hs (zld af) (.nil (.block (.aj (.z fw ?_)))))))))
 refine .z zg (.nil ?_)
 refine (.bJ rfl (fun hc23=>?_) (fun hc23=>?_))
 ·refine .aj (.z (zfa eu) (.y hs (zld af) (.z fw (.z zm ?_))))
  refine .iB (t':=28) rfl (fun hb28=>?_) (fun hb28=>?_)
  ·refine .gT rfl rfl ?_
   refine .z zm (.z zpT (.z zm ?_))
   refine .bif (t':=31) rfl (fun hb31=>?_) (fun hb31=>?_)
   ·refine .gT rfl rfl ?_
    refine .z (zfa dy) ?_
    refine .gT rfl rfl ?_
    refine .y hs (zld af) ?_
    refine .gT rfl rfl ?_
    refine .z kD (.z zpT (.z zg (.nil ?_)))
    refine .ret (rB (rT (Fin.bK gN rfl ?_)))
    exact ⟨_,rfl,by rw [hi];simp_all<;>omega,hs.out⟩
   ·refine .gFs 3 6 true rfl rfl rfl ?_
    refine .z zpF (.z zg (.nil ?_))
    refine .ret (rB (rT (Fin.bK gN rfl ?_)))
    exact ⟨_,rfl,by rw [hi];simp_all<;>omega,hs.out⟩
  ·refine .gFs 1 3 true rfl rfl rfl ?_
   refine .z zpF (.z zm ?_)
   refine .gFs 3 6 true rfl rfl rfl ?_
   refine .z zpF (.z zg (.nil ?_))
   refine .ret (rB (rT (Fin.bK gN rfl ?_)))
   exact ⟨_,rfl,by rw [hi];simp_all<;>omega,hs.out⟩
 ·refine .aj (.z fw (.z zg (.nil ?_)))
  refine (.bJ rfl (fun hc36=>?_) (fun hc36=>?_))
  ·refine .aj (.z (zfa eu) (.y hs (zld af) (.z fw (.z zm ?_))))
   refine .iB (t':=41) rfl (fun hb41=>?_) (fun hb41=>?_)
   ·refine .gT rfl rfl ?_
    refine .z zm (.z zpT (.z zg (.nil ?_)))
    refine .ret (rB (rT (Fin.bK gN rfl ?_)))
    exact ⟨_,rfl,by rw [hi];simp_all<;>omega,hs.out⟩
   ·refine .gFs 1 3 true rfl rfl rfl ?_
    refine .z zpF (.z zg (.nil ?_))
    refine .ret (rB (rT (Fin.bK gN rfl ?_)))
    exact ⟨_,rfl,by rw [hi];simp_all<;>omega,hs.out⟩
  ·refine .aj (.z fw (.z zg (.nil ?_)))
   refine (.bJ rfl (fun hc44=>?_) (fun hc44=>?_))
   ·refine .aj (.z zm (.z zm ?_))
    refine .bif (t':=47) rfl (fun hb47=>?_) (fun hb47=>?_)
    ·refine .gT rfl rfl ?_
     refine .z (zfa dy) ?_
     refine .gT rfl rfl ?_
     refine .y hs (zld af) ?_
     refine .gT rfl rfl ?_
     refine .z fw (.z zpT (.z zg (.nil ?_)))
     refine .ret (rB (rT (Fin.bK gN rfl ?_)))
     exact ⟨_,rfl,by rw [hi];simp_all<;>omega,hs.out⟩
    ·refine .gFs 3 1 true rfl rfl rfl ?_
     refine .z zpF (.z zg (.nil ?_))
     refine .ret (rB (rT (Fin.bK gN rfl ?_)))
     exact ⟨_,rfl,by rw [hi];simp_all<;>omega,hs.out⟩
   ·refine .aj (.z fw (.z zg (.nil ?_)))
    refine (.bJ rfl (fun hc52=>?_) (fun hc52=>?_))
    ·refine .aj (.z zm (.z zm ?_))
     refine .bif (t':=55) rfl (fun hb55=>?_) (fun hb55=>?_)
     ·refine .gT rfl rfl ?_
      refine .z zm (.z zpT (.z zg (.nil ?_)))
      refine .ret (rB (rT (Fin.bK gN rfl ?_)))
      exact ⟨_,rfl,by rw [hi];simp_all<;>omega,hs.out⟩
     ·refine .gFs 1 1 true rfl rfl rfl ?_
      refine .z zpF (.z zg (.nil ?_))
      refine .ret (rB (rT (Fin.bK gN rfl ?_)))
      exact ⟨_,rfl,by rw [hi];simp_all<;>omega,hs.out⟩
    ·refine .skip ?_
     refine nB (nT ?_)
     refine .aj (.z zg (.nil ?_))
     refine .ret (Fin.bK gN rfl ?_)
     exact ⟨_,rfl,by rw [hi];simp_all<;>omega,hs.out⟩
set_option maxHeartbeats 2000000 in
theorem ru{s:Spc}{q:Wht}{vst vwa:Value}(hs:St H w σ)(h1:RI H vst s.st)(h2:RI H vwa s.wa)(hok:eT s)(hq:gW s q):
  Cl Tryz.prog 113 [.agg #[I s.id,I s.src,vst,vwa,I s.al,I s.up],.agg #[I q.kind,I q.st,I q.wa]] w fun v w'=>∃H1 vl en,HLe H H1∧v= .tuple #[vl,I (oU q)]∧cz 1 vl (Is (mQ s q)) en∧St H1 w' (en::σ):=by
 obtain ⟨ast,cst,rfl⟩:=RI.shape h1
 obtain ⟨awa,cwa,rfl⟩:=RI.shape h2
 have hsm:=dK hok
 have hcap:=(RI.len h2).2.1
 have hn1:=hok.st.many
 have hn2:=hok.wa.many
 have hlen:=gG s q
 have hqq:=na.1 hq
 simp only [Spc.isW,Spc.isS] at hqq
 refine Cl.o Tryz.func113 Tryz.ntmps113 ag2 ?_
 refine .aj ?_
 refine .bx hs fun b2 w hs=>?_
 refine .bx hs fun b3 w hs=>?_
 refine .z zg (.z zg (.nil (.aj (.y hs (zls [_,_,_,_,_,_] aF aB) ?_))))
 refine .o (.call m7 rfl (dQ (s:=s) hs h1 h2 ⟨ak,ak⟩) ?_);rintro _ w ⟨rfl,hs⟩
 refine .z cH ?_
 refine .o (.pD (s.many+1) hs rfl rfl ae dW rfl ai bO ak fun b20 w hs=>?_)
 have hW0:=WI.start s
 generalize List.replicate (s.many+1) (0:Int)=L0 at hs hW0
 refine .z zg (.nil (.seq (.aj (.z (zfa ky) (.y hs (zld af) (.nil (.block (.aj (.z fw ?_)))))))))
 refine .z zg (.nil ?_)
 refine (.bJ rfl (fun hc23=>?_) (fun hc23=>?_))
 ·refine .seq (.draw mix rfl hs fun w hs=>?_)
  refine .z 0 rfl (zfa bj) ?_;refine .y 1 rfl hs an ?_;refine .z 2 rfl (zfa aS) ?_;refine .y 3 rfl hs an ?_;refine .z 4 rfl (zfa dy) ?_;refine .y 5 rfl hs af ?_;refine .z 6 rfl cH ?_
  obtain ⟨hk1,_,⟨hw2,hw3⟩,hw1⟩:q.kind=1∧q.st=0∧(0≤q.wa∧q.wa≤(s.wa.length:Int) - 1)∧0<q.wa:=by omega
  obtain ⟨m,hm⟩:∃m:Nat,q.wa=m:=⟨q.wa.toNat,ak⟩
  have hmt:q.wa.toNat=m:=by omega
  have hP:fa 7 15000 (s.wa.take (m+1)):=hok.wa.take ak ak
  have hdv:oU q=648000000:=by unfold oU;rw [if_pos hk1]
  refine .z 7 rfl (kM (k:=m+1) rfl rfl ae ai ak ak) ?_
  refine .E 8 hs ?_
  refine .call Tryz.call195 rfl (tX hs h1 (h2.head (k:=m+1) ak) hok.st hP) ?_;rintro _ w ⟨H1,vo,hle1,rfl,hG,hs⟩
  have hgl:=jY (wts s.st) (wts (s.wa.take (m+1))) s.st.length
  have hyl:(wts (s.wa.take (m+1))).length=m+1:=by rw [eR,List.length_take];omega
  have hgr:∀i<s.st.length,(gr (me (wts s.st) (wts (s.wa.take (m+1))) s.st.length) i).length=m+1:=fun i hi=>by rw [wM hi,jG,hyl]
  have hgt:∀i<s.st.length,∀k≤m,gi (gr (me (wts s.st) (wts (s.wa.take (m+1))) s.st.length) i) k=ka s q i k:=fun i hi k hk=>by
   have:=z7 (X:=wts s.st) (Y:=wts (s.wa.take (m+1))) (n:=s.st.length) (k:=k) hi ak
   unfold gt at this
   rw [this];unfold ka;rw [if_pos hk1,if_pos ak,hmt]
  have hgz:∀i k,m<k→ka s q i k=0:=fun i k hk=>by unfold ka;rw [if_pos hk1,if_neg ak]
  generalize me (wts s.st) (wts (s.wa.take (m+1))) s.st.length=G at*
  obtain ⟨aG,cG,rfl⟩:=hG.shape
  refine .go ?_
  refine .z 9 rfl zm ?_;refine .z 10 rfl zex ?_;refine .z 11 rfl zex ?_;refine .z 12 rfl zg ?_;refine .z 13 rfl zg ?_;refine .D hs ?_
  refine .seq (.aj (.z zg (.nil (.block ?_))))
  refine .loop (fun i:Nat=>⟨127,[],[(9,I (i:Int)),(7,.slice aG G.length cG),(6,.slice (some ⟨b20,0,none⟩) (s.many+1) (s.many+1)),(3,.pointer (some ⟨b3,0,none⟩)),(2,.pointer (some ⟨b2,0,none⟩))]⟩)
   (fun i w=>i≤s.st.length∧∃L,WI s L (fun i' k'=>if i'<i then ka s q i' k' else 0)∧St H1 w (.blk b20 (Is L):: .blk b3 [I q.kind,I q.st,I q.wa]:: .blk b2 [I s.id,I s.src,.slice ast s.st.length cst,.slice awa s.wa.length cwa,I s.al,I s.up]::σ)) (fun i=>s.st.length - i) 0 (.cn rfl bQ a8)
   ⟨Nat.zero_le _,L0,hW0.congr fun i k _ _=>by rw [if_neg ak],hs⟩ ?_
  clear hs hW0
  rintro i w ⟨hi,L,hW,hs⟩
  refine .seq (.aj (.z zm (.z zm (.z (cN au) (.z fD (.nil ?_))))))
  refine (.bJ rfl (fun hc40=>?_) (fun hc40=>?_))
  ·refine .skip ?_
   refine nT ?_
   refine .seq (.block (.aj (.z zg (.nil (.block ?_)))))
   refine .loop (fun k:Nat=>⟨127,[],[(10,I (k:Int)),(9,I (i:Int)),(7,.slice aG G.length cG),(6,.slice (some ⟨b20,0,none⟩) (s.many+1) (s.many+1)),(3,.pointer (some ⟨b3,0,none⟩)),(2,.pointer (some ⟨b2,0,none⟩))]⟩)
    (fun k w=>k≤m+1∧∃L,WI s L (fun i' k'=>if i'<i∨(i'=i∧k'<k) then ka s q i' k' else 0)∧St H1 w (.blk b20 (Is L):: .blk b3 [I q.kind,I q.st,I q.wa]:: .blk b2 [I s.id,I s.src,.slice ast s.st.length cst,.slice awa s.wa.length cwa,I s.al,I s.up]::σ)) (fun k=>m+1 - k) 0 (.cn rfl bQ a8)
    ⟨Nat.zero_le _,L,hW.congr fun i' k' _ _=>by
     by_cases e:i'<i
     ·rw [if_pos e,if_pos (.inl e)]
     ·rw [if_neg e,if_neg ak],hs⟩ ?_
   clear hs hW
   rintro k w ⟨hk,L,hW,hs⟩
   have hWl:=hW.len
   have hil:i<s.st.length:=by omega
   have hgri:=hgr i hil
   refine .seq (.aj (.z zm (.z zm (.z zm ?_))))
   refine .ixT hs hG rfl rfl au aC (show i<_ by omega) cJ ?_;intro b46 o46 a46 c46 hc46 hR46
   refine .q hs (aO rfl an hc46) ?_
   refine .z (cN ae) ?_
   rw [hgri]
   refine .z fD (.nil ?_)
   refine (.bJ rfl (fun hc49=>?_) (fun hc49=>?_))
   ·refine .skip ?_
    refine nT ?_
    refine .seq (.block ?_)
    refine .draw mix rfl hs fun w hs=>?_
    have hk':k<m+1:=by omega
    have hub:=sh (s:=s) (i:=i) (k:=k) hil ak
    refine .z 0 rfl zm ?_;refine .ys 1 rfl hs [_,_,_,_,_,_] aF aB ?_;refine .z 2 rfl zm ?_;refine .z 3 rfl zm ?_;refine .z 5 rfl zm ?_;refine .z 6 rfl zm ?_
    refine .ixT (i:=7) hs rfl aq .none hG rfl rfl au aC (show i<_ by omega) cJ ?_;intro b59 o59 a59 c59 hc59 hR59
    refine .r (i:=8) hs rfl aq .none (aO rfl an hc59) ?_
    refine .z 9 rfl zm ?_
    refine .ixX (enc:=fun x=>[I x]) (i:=10) hs rfl aq .none hR59 rfl rfl ae ai (bE (l:=(gr G i)) (i:=k) ak) cJ ?_;intro b62 o62 hc62;replace hc62:=bI.one hc62
    refine .r (i:=11) hs rfl aq .none (aO rfl af hc62) ?_
    refine .E 4 hs ?_
    refine .call fL rfl (cP (s:=s) hs (h2.mono hle1) ak ⟨ak,ak⟩ ⟨ak,ak⟩) ?_;rintro _ w ⟨rfl,hs⟩
    rw [wk]
    refine .go ?_
    refine .z 12 rfl (ef (k:=s.u i k) rfl rfl ae ai rfl ak) ?_
    refine .E 13 hs ?_
    refine .store hs rfl rfl ai ?_ cU (by simp [Is];omega);intro w hs
    refine .go ?_
    refine .D hs ?_
    refine nB (nT ?_)
    refine .region (.z zm (.z cH (.z zg (.nil ?_))))
    refine nT ?_
    exact ⟨k+1,.cn rfl bQ a8,⟨ak,_,(hW.set hil ak _).congr fun i' k' _ _=>by
     rw [hgt i hil k ak]
     by_cases e:i'=i∧k'=k
     ·obtain ⟨rfl,rfl⟩:=e
      rw [if_pos ⟨rfl,rfl⟩,if_pos (.inr ⟨rfl,ak⟩)]
     ·rw [if_neg e]
      by_cases e2:i'<i∨(i'=i∧k'<k)
      ·rw [if_pos e2,if_pos ak]
      ·rw [if_neg e2,if_neg ak],hs⟩,ak⟩
   ·refine .exit ?_
    refine xT (xT (xB (nB (nT ?_))))
    refine .region (.z zm (.z cH (.z zg (.nil ?_))))
    refine nT ?_
    exact ⟨i+1,.cn rfl bQ a8,⟨ak,L,hW.congr fun i' k' _ _=>by
     by_cases e:i'<i+1
     ·rw [if_pos e]
      by_cases e2:i'<i∨(i'=i∧k'<k)
      ·rw [if_pos e2]
      ·rw [if_neg e2,hgz i' k' ak]
     ·rw [if_neg e,if_neg ak],hs⟩,ak⟩
  ·refine .exit ?_
   refine xT (xT (xB (nT ?_)))
   refine .aj (.z zm (.z zg (.z zg (.nil ?_))))
   refine .ret (rB (rT (Fin.jx Tryz.results113 rfl rfl ?_)))
   obtain rfl:=(hW.congr (g:=ka s q) fun i' k' hi' _=>by rw [if_pos ak]).fin
   rw [←hdv]
   exact ⟨H1,_,_,hle1,rfl,.full (by simp [Is,hlen]),hs.sb⟩
 ·refine .aj (.z fw (.z zg (.nil ?_)))
  refine (.bJ rfl (fun hc66=>?_) (fun hc66=>?_))
  ·refine .aj (.z (zfa bj) (.y hs (zld an) ?_))
   have hk1:q.kind=2:=by omega
   obtain ⟨m,hm⟩:∃m:Nat,q.wa=m:=⟨q.wa.toNat,ak⟩
   have hdv:oU q=180000:=by unfold oU;rw [if_neg ak,if_pos ak]
   have hl:=eR s.st
   have hwt:∀i k,ka s q i k=if k=m then gi (wts s.st) i else 0:=fun i k=>by
    unfold ka;rw [if_neg ak,if_pos hk1]
    by_cases e:k=m
    ·rw [if_pos e,if_pos ak]
    ·rw [if_neg e,if_neg ak]
   refine .o (.call Tryz.call196 rfl (ln hs h1 hok.st) ?_);rintro _ w ⟨H1,vo,hle1,rfl,hX,hs⟩
   obtain ⟨aX,cX,rfl⟩:=RI.shape hX
   rw [hl]
   refine .z zm (.z zex (.z zex (.z zg (.z zg (.nil (.seq (.aj (.z zg (.nil ?_)))))))))
   refine .block ?_
   refine .loop (fun i:Nat=>⟨127,[],[(13,I (i:Int)),(11,.slice aX s.st.length cX),(6,.slice (some ⟨b20,0,none⟩) (s.many+1) (s.many+1)),(3,.pointer (some ⟨b3,0,none⟩)),(2,.pointer (some ⟨b2,0,none⟩))]⟩)
    (fun i w=>i≤s.st.length∧∃L,WI s L (fun i' k'=>if i'<i then ka s q i' k' else 0)∧St H1 w (.blk b20 (Is L):: .blk b3 [I q.kind,I q.st,I q.wa]:: .blk b2 [I s.id,I s.src,.slice ast s.st.length cst,.slice awa s.wa.length cwa,I s.al,I s.up]::σ)) (fun i=>s.st.length - i) 0 (.cn rfl bQ a8)
    ⟨Nat.zero_le _,L0,hW0.congr fun i k _ _=>by rw [if_neg ak],hs⟩ ?_
   clear hs hW0
   rintro i w ⟨hi,L,hW,hs⟩
   have hWl:=hW.len
   rw [hl] at hX
   refine .seq (.aj (.z zm (.z zm (.z (cN ae) (.z fD (.nil ?_))))))
   refine (.bJ rfl (fun hc77=>?_) (fun hc77=>?_))
   ·refine .skip ?_
    refine nT ?_
    refine .seq (.block ?_)
    refine .draw mix rfl hs fun w hs=>?_
    refine .z 0 rfl zm ?_;refine .ys 1 rfl hs [_,_,_,_,_,_] aF aB ?_;refine .z 2 rfl zm ?_;refine .z 3 rfl (zfa dy) ?_;refine .y 4 rfl hs af ?_;refine .z 6 rfl zm ?_;refine .z 7 rfl zm ?_
    refine .ixX (enc:=fun x=>[I x]) (i:=8) hs rfl aq .none (by rw [hl] at*;exact hX) rfl rfl ae ai (bE (l:=wts s.st) (i:=i) ak) cJ ?_;intro b88 o88 hc88;replace hc88:=bI.one hc88
    refine .y 9 rfl hs af ?_
    refine .E 5 hs ?_
    have hil:i<s.st.length:=by omega
    have hub:=sh (s:=s) (i:=i) (k:=m) hil ak
    refine .call fL rfl (cP (s:=s) hs (h2.mono hle1) ak ⟨ak,ak⟩ ⟨ak,ak⟩) ?_;rintro _ w ⟨rfl,hs⟩
    rw [show 1+(i:Int)*(s.wa.length:Int)+q.wa=(s.u i m:Int) by rw [hm,wk]]
    refine .go ?_
    refine .z 10 rfl (ef (k:=s.u i m) rfl rfl ae ai rfl ak) ?_
    refine .E 11 hs ?_
    refine .store hs rfl rfl ai ?_ cU (by simp [Is];omega);intro w hs
    refine .go ?_
    refine .D hs ?_
    refine nB (nT ?_)
    refine .region (.z zm (.z cH (.z zg (.nil ?_))))
    refine nT ?_
    exact ⟨i+1,.cn rfl bQ a8,⟨ak,_,(hW.set hil (show m<s.wa.length by omega) _).congr fun i' k' _ _=>by
     rw [hwt i' k']
     by_cases e:i'=i∧k'=m
     ·obtain ⟨rfl,rfl⟩:=e
      rw [if_pos ⟨rfl,rfl⟩,if_pos (Nat.lt_succ_self _),if_pos rfl]
     ·rw [if_neg e]
      by_cases e2:i'<i
      ·rw [if_pos e2,if_pos (show i'<i+1 by omega)]
      ·rw [if_neg e2]
       by_cases e3:i'<i+1
       ·rw [if_pos e3,if_neg (show ¬k'=m by omega)]
       ·rw [if_neg e3],hs⟩,ak⟩
   ·refine .exit ?_
    refine xT (xT (xB (nT ?_)))
    refine .aj (.z zm (.z zg (.z zg (.nil ?_))))
    refine .ret (rB (rT (Fin.jx Tryz.results113 rfl rfl ?_)))
    obtain rfl:=(hW.congr (g:=ka s q) fun i' k' hi' _=>by rw [if_pos ak]).fin
    rw [←hdv]
    exact ⟨H1,_,_,hle1,rfl,.full (by simp [Is,hlen]),hs.sb⟩
  ·refine .aj (.z fw (.z zg (.nil ?_)))
   refine (.bJ rfl (fun hc92=>?_) (fun hc92=>?_))
   ·refine .aj (.z (zfa aS) (.y hs (zld an) ?_))
    have hk1:q.kind=3:=by omega
    obtain ⟨m,hm⟩:∃m:Nat,q.st=m:=⟨q.st.toNat,ak⟩
    have hdv:oU q=180000:=by unfold oU;rw [if_neg ak,if_pos ak]
    have hl:=eR s.wa
    have hwt:∀i k,ka s q i k=if i=m then gi (wts s.wa) k else 0:=fun i k=>by
     unfold ka;rw [if_neg ak,if_neg ak,if_pos hk1]
     by_cases e:i=m
     ·rw [if_pos e,if_pos ak]
     ·rw [if_neg e,if_neg ak]
    refine .o (.call Tryz.call196 rfl (ln hs h2 (yL hok)) ?_);rintro _ w ⟨H1,vo,hle1,rfl,hX,hs⟩
    obtain ⟨aX,cX,rfl⟩:=RI.shape hX
    rw [hl]
    refine .z zm (.z zex (.z zex (.z zg (.z zg (.nil (.seq (.aj (.z zg (.nil ?_)))))))))
    refine .block ?_
    refine .loop (fun k:Nat=>⟨127,[],[(16,I (k:Int)),(14,.slice aX s.wa.length cX),(6,.slice (some ⟨b20,0,none⟩) (s.many+1) (s.many+1)),(3,.pointer (some ⟨b3,0,none⟩)),(2,.pointer (some ⟨b2,0,none⟩))]⟩)
     (fun k w=>k≤s.wa.length∧∃L,WI s L (fun i' k'=>if k'<k then ka s q i' k' else 0)∧St H1 w (.blk b20 (Is L):: .blk b3 [I q.kind,I q.st,I q.wa]:: .blk b2 [I s.id,I s.src,.slice ast s.st.length cst,.slice awa s.wa.length cwa,I s.al,I s.up]::σ)) (fun k=>s.wa.length - k) 0 (.cn rfl bQ a8)
     ⟨Nat.zero_le _,L0,hW0.congr fun i k _ _=>by rw [if_neg ak],hs⟩ ?_
    clear hs hW0
    rintro k w ⟨hi,L,hW,hs⟩
    have hWl:=hW.len
    rw [hl] at hX
    refine .seq (.aj (.z zm (.z zm (.z (cN ae) (.z fD (.nil ?_))))))
    refine (.bJ rfl (fun hc103=>?_) (fun hc103=>?_))
    ·refine .skip ?_
     refine nT ?_
     refine .seq (.block ?_)
     refine .draw mix rfl hs fun w hs=>?_
     refine .z 0 rfl zm ?_;refine .ys 1 rfl hs [_,_,_,_,_,_] aF aB ?_;refine .z 2 rfl (zfa eu) ?_;refine .y 3 rfl hs af ?_;refine .z 4 rfl zm ?_;refine .z 6 rfl zm ?_;refine .z 7 rfl zm ?_
     refine .ixX (enc:=fun x=>[I x]) (i:=8) hs rfl aq .none (by rw [hl] at*;exact hX) rfl rfl ae ai (bE (l:=wts s.wa) (i:=k) ak) cJ ?_;intro b114 o114 hc114;replace hc114:=bI.one hc114
     refine .y 9 rfl hs af ?_
     refine .E 5 hs ?_
     have hil:k<s.wa.length:=by omega
     have hub:=sh (s:=s) (i:=m) (k:=k) ak hil
     refine .call fL rfl (cP (s:=s) hs (h2.mono hle1) ak ⟨ak,ak⟩ ⟨ak,ak⟩) ?_;rintro _ w ⟨rfl,hs⟩
     rw [show 1+q.st*(s.wa.length:Int)+(k:Int)=(s.u m k:Int) by rw [hm,wk]]
     refine .go ?_
     refine .z 10 rfl (ef (k:=s.u m k) rfl rfl ae ai rfl ak) ?_
     refine .E 11 hs ?_
     refine .store hs rfl rfl ai ?_ cU (by simp [Is];omega);intro w hs
     refine .go ?_
     refine .D hs ?_
     refine nB (nT ?_)
     refine .region (.z zm (.z cH (.z zg (.nil ?_))))
     refine nT ?_
     exact ⟨k+1,.cn rfl bQ a8,⟨ak,_,(hW.set (show m<s.st.length by omega) hil _).congr fun i' k' _ _=>by
      rw [hwt i' k']
      by_cases e:i'=m∧k'=k
      ·obtain ⟨rfl,rfl⟩:=e
       rw [if_pos ⟨rfl,rfl⟩,if_pos (Nat.lt_succ_self _),if_pos rfl]
      ·rw [if_neg e]
       by_cases e2:k'<k
       ·rw [if_pos e2,if_pos (show k'<k+1 by omega)]
       ·rw [if_neg e2]
        by_cases e3:k'<k+1
        ·rw [if_pos e3,if_neg (show ¬i'=m by omega)]
        ·rw [if_neg e3],hs⟩,ak⟩
    ·refine .exit ?_
     refine xT (xT (xB (nT ?_)))
     refine .aj (.z zm (.z zg (.z zg (.nil ?_))))
     refine .ret (rB (rT (Fin.jx Tryz.results113 rfl rfl ?_)))
     obtain rfl:=(hW.congr (g:=ka s q) fun i' k' _ hk'=>by rw [if_pos ak]).fin
     rw [←hdv]
     exact ⟨H1,_,_,hle1,rfl,.full (by simp [Is,hlen]),hs.sb⟩
   ·refine .skip ?_
    refine nB (nT ?_)
    refine .aj (.z zm (.y hs (zls [_,_,_,_,_,_] aF aB) (.z (zfa eu) (.y hs (zld af) (.z (zfa dy) (.y hs (zld af) ?_))))))
    have hk1:q.kind=4:=by omega
    obtain ⟨m,hm⟩:∃m:Nat,q.st=m:=⟨q.st.toNat,ak⟩
    obtain ⟨c,hc⟩:∃c:Nat,q.wa=c:=⟨q.wa.toNat,ak⟩
    have hdv:oU q=1:=by unfold oU;rw [if_neg ak,if_neg ak]
    have hub:=sh (s:=s) (i:=m) (k:=c) ak ak
    have hWl:=hW0.len
    refine .o (.call fL rfl (cP (s:=s) hs h2 ak ⟨ak,ak⟩ ⟨ak,ak⟩) ?_);rintro _ w ⟨rfl,hs⟩
    rw [hm,hc,wk]
    refine .q hs (ef (k:=s.u m c) rfl rfl ae ai rfl ak) ?_
    refine .o (.store hs rfl rfl ai ?_ cU (by simp [Is];omega));intro w hs
    refine .nil (.aj (.z zm (.z zg (.z zg (.nil ?_)))))
    refine .ret (Fin.jx Tryz.results113 rfl rfl ?_)
    have hfin:=((hW0.set (show m<s.st.length by omega) (show c<s.wa.length by omega) 1).congr (g:=ka s q) fun i' k' _ _=>by
     unfold ka
     rw [if_neg (show ¬q.kind=1 by omega),if_neg (show ¬q.kind=2 by omega),if_neg (show ¬q.kind=3 by omega)]
     by_cases e:i'=m∧k'=c
     ·rw [if_pos e,if_pos ak]
     ·rw [if_neg e,if_neg ak]).fin
    rw [hfin] at hs
    rw [←hdv]
    exact ⟨H,_,_,HLe.refl H,rfl,.full (by simp [Is,hlen]),hs.sb⟩
theorem tQ{a d:Int}(hs:St H w σ)(hd:1≤d)(ha: -4608000000000000000≤a∧a≤4608000000000000000):
  Cl Tryz.prog 78 [I a,I d] w fun v w'=>v=I (a/d)∧St H w' σ:=by
 have hq: -4608000000000000000≤a.tdiv d∧a.tdiv d≤4608000000000000000:=by
  have h1:=te (n:=a) (d:=d) ak
  have h2:a/d≤4608000000000000000:=Int.ediv_le_of_le_mul ak (by
   have:=Int.mul_le_mul_of_nonneg_left hd (show (0:Int)≤4608000000000000000 by omega);omega)
  have h3: -4608000000000000000≤a/d:=Int.le_ediv_of_mul_le ak (by
   have:=Int.mul_le_mul_of_nonneg_left hd (show (0:Int)≤4608000000000000000 by omega);omega)
  by_cases h0:0≤a
  ·rw [Int.tdiv_eq_ediv_of_nonneg h0];omega
  ·split at h1
   ·have:a/d<0:=Int.ediv_neg_of_neg_of_pos ak ak
    omega
   ·omega
 have hfl:=te (n:=a) (d:=d) ak
 refine Cl.o Tryz.func78 Tryz.ntmps78 ag2 ?_
 refine .aj (.z zg (.nil (.aj (.z zm (.z zm ?_)))))
 refine .q hs (ue rfl rfl ak ⟨ak,ak⟩) ?_
 refine .z zg (.nil (.seq (.aj (.z zm (.z zm (.z CI (.z fD (.nil ?_))))))))
 refine (.bJ rfl (fun hc12=>?_) (fun hc12=>?_))
 ·refine .region (.z zm (.z gO (.z zg (.nil ?_))))
  refine nT ?_
  refine .aj (.z zm (.z zg (.nil ?_)))
  refine .ret (Fin.bK Tryz.results78 rfl ?_)
  rw [if_pos hc12] at hfl
  exact ⟨by rw [hfl],hs⟩
 ·refine .skip ?_
  refine nT ?_
  refine .aj (.z zm (.z zg (.nil ?_)))
  refine .ret (Fin.bK Tryz.results78 rfl ?_)
  rw [if_neg hc12,Int.sub_zero] at hfl
  exact ⟨by rw [hfl],hs⟩
theorem uW{n u:Nat}{m z:Int}(hs:St H w σ)(hm:m+1=n)(hn:n≤1000)(hu:u<n):
  Cl Tryz.prog 96 [I m,I (u:Int),I z] w fun v w'=>∃b,v= .slice (some ⟨b,0,none⟩) n n∧St H w' (.blk b (Is (pa n u z))::σ):=by
 refine Cl.o Tryz.func96 Tryz.ntmps96 ag3 ?_
 refine .aj (.z zg (.nil (.aj (.z zm (.z cH ?_)))))
 refine .o (.pD n hs (by show some (I _)=some (I _);rw [←hm]) (by show some (I _)=some (I _);rw [←hm]) ae dW rfl ai bO ak ?_);intro b10 w hs
 refine .z zg (.nil (.aj (.z zm (.z zm (.z zm ?_)))))
 refine .q hs (ef (k:=u) rfl rfl ae ai rfl hu) ?_
 refine .o (.store (c':=Is (pa n u z)) hs rfl rfl ai ?_ cU (by simp [Is];omega) (lF _ _ _));intro w hs
 refine .nil (.aj (.z zm (.z zg (.nil ?_))))
 refine .ret (Fin.bK Tryz.results96 rfl ?_)
 exact ⟨b10,rfl,hs⟩
theorem bP{n m:Int}(hs:St H w σ)(hm:1≤m∧m≤4611686018427387904):
  Cl Tryz.prog 31 [I n,I m] w fun u w'=>∃k:Nat,(k:Int)<m∧u=I (k:Int)∧St H w' σ:=by
 have h1:=Int.tmod_lt_of_pos n (show 0<m by omega)
 have h2:=Int.lt_tmod_of_pos n (show 0<m by omega)
 have h3:=Int.tmod_lt_of_pos (n.tmod m+m) (show 0<m by omega)
 have h4:=Int.tmod_nonneg m (show 0≤n.tmod m+m by omega)
 refine Cl.o Tryz.func31 Tryz.ntmps31 ag2 ?_
 refine .aj (.z zg (.nil (.aj (.z zm (.z zm (.z CI (.z zm (.z cH (.z zm ?_)))))))))
 refine .z CI (.z zg (.nil ?_))
 refine .ret (Fin.bK Tryz.results31 rfl ?_)
 exact ⟨((n.tmod m+m).tmod m).toNat,ak,by rw [show (((n.tmod m+m).tmod m).toNat:Int)=(n.tmod m+m).tmod m by omega],hs⟩
theorem dA{v:Value}{l:List Int}{i n:Int}(hs:St H w σ)(hr:RI H v l)(hi:0≤i)(hn:1≤n∧n≤4611686018427387904):
  Cl Tryz.prog 100 [v,I i,I n] w fun u w'=>∃k:Nat,(k:Int)<n∧u=I (k:Int)∧St H w' σ:=by
 obtain ⟨a,c,rfl⟩:=RI.shape hr
 refine Cl.o Tryz.func100 Tryz.ntmps100 ag3 ?_
 refine .aj (.z zg (.nil (.seq (.aj (.z zm (.z (cN ae) (.z fw (.nil ?_))))))))
 refine (.bJ rfl (fun hc9=>?_) (fun hc9=>?_))
 ·refine .aj (.z zg (.nil ?_))
  refine .ret (rT (Fin.bK Tryz.results100 rfl ?_))
  exact ⟨0,ak,rfl,hs⟩
 ·refine .skip ?_
  refine nT ?_
  refine .aj (.z zm (.z zm (.z zm (.z (cN ae) (.z CI ?_)))))
  have g1:=Int.tmod_lt_of_pos i (show 0<(l.length:Int) by omega)
  have g2:=Int.tmod_nonneg (l.length:Int) hi
  refine .ixY hs hr rfl rfl ae ai (bE (l:=l) (i:=(i.tmod l.length).toNat) ak) ak ?_;intro b15 o15 hc15
  refine .q hs (aO rfl af hc15) ?_
  refine .z zm ?_
  refine .o (.call di rfl (bP hs hn) ?_);rintro _ w ⟨k,hk,rfl,hs⟩
  refine .z zg (.nil ?_)
  refine .ret (Fin.bK Tryz.results100 rfl ?_)
  exact ⟨k,hk,rfl,hs⟩
theorem tU{v vp:Value}{s:dj}{jT:List Int}(hs:St H w σ)(hr:RSy H v s)(hp:RI H vp jT)(hgood:s.Ok∧s.Sound):
  Cl Tryz.prog 212 [v,vp] w fun u w'=>∃H1 vx x en,HLe H H1∧u= .tuple #[vx,I 0]∧cz 1 vx (Is x) en∧wb s jT x∧St H1 w' (en::σ):=by
 obtain ⟨ul,rfl,hl⟩:=hr
 obtain ⟨al,cl,rfl⟩:=RL.shape hl
 obtain ⟨ap,cp,rfl⟩:=RI.shape hp
 refine Cl.o Tryz.func212 Tryz.ntmps212 ag2 ?_
 refine .aj ?_
 refine .bx hs fun b2 w hs=>?_
 refine .z zg (.z zg (.nil (.aj (.y hs (zls [_,_] bp aM) ?_))))
 refine .o (.call Tryz.call210 rfl (mF (s:=s) hs ⟨_,rfl,hl⟩) ?_);rintro _ w ⟨H1,vt,e,hle1,rfl,hcase,hs⟩
 refine .z zm (.z zex (.z zex (.z zg (.z zg (.nil (.seq (.aj (.z zm (.z gP ?_)))))))))
 refine .nil ?_
 refine (.eI rfl (fun hc20=>?_) (fun hc20=>?_))
 ·refine .aj (.z zm (.z zg (.z zg (.nil ?_))))
  refine .ret (rT (Fin.jx Tryz.results212 rfl rfl ?_))
  rcases hcase with ⟨h1,rfl,rfl⟩|⟨h1,h2,rfl,rfl⟩|⟨_,_,rfl,_⟩
  ·exact (h1 (s.cD.2 hgood.1)).elim
  ·exact (h2 hgood.2).elim
  ·exact (hc20 rfl).elim
 ·refine .skip ?_
  refine nT ?_
  refine .aj ?_
  subst hc20
  obtain ⟨hok,hsd,rs,hRT,hSq,hWT⟩:s.Ok∧s.Sound∧∃rs,RT H1 vt rs∧Sq s.n rs∧jc s.n s.dG (gt rs):=by
   rcases hcase with ⟨h1,h2,_⟩|⟨_,_,h2,_⟩|⟨h1,h2,_,h3⟩
   ·exact (h1 h2.symm).elim
   ·omega
   ·exact ⟨h1,h2,h3⟩
  obtain ⟨at',ct,rfl⟩:=hRT.shape
  have hTS:=hok.Gx hsd hWT
  have hrl:=hSq.1
  have hm0:=hok.m0
  have hm1:=hok.m1
  have hnn:(s.n:Int)=s.many+1:=by simp only [dj.n];omega
  refine .o (.buildSlice (cells:=[_]) hs bX rfl rfl fun b22 w hs=>?_)
  refine .z zg (.nil (.seq (.aj (.z zg (.nil (.block ?_))))))
  refine .loop (fun p:List Int×Value=>⟨109,[],[(9,I (p.1.length:Int)),(8,p.2),(6,.slice at' rs.length ct),(2,.pointer (some ⟨b2,0,none⟩)),(1,.slice ap jT.length cp)]⟩)
   (fun p w=>Fq (gt rs) (qh jT) p.1∧p.1.length≤s.n∧∃en,cz 1 p.2 (Is p.1) en∧St H1 w (en:: .blk b2 [I s.many,.slice al s.bU.length cl]::σ))
   (fun p=>s.n - p.1.length) ([0],.slice (some ⟨b22,0,none⟩) 1 1) a8
   ⟨.start,s.AJ,_,.full (len:=1) rfl,hs⟩ ?_
  rintro ⟨X,v8⟩ w ⟨hP,hXn,en,hO,hs⟩
  dsimp only at hP hXn hO ⊢
  have hI:=hP.inv (fun i n hn=>wC jT i hn) hTS hXn
  have hX0:=hI.l0
  have hO1:=hO
  obtain ⟨b,cap,sp,rfl,rfl,hcap⟩:=hO.some hX0
  refine .seq (.aj (.z zm (.z (zfa bA) (.y hs (zld af) (.z wc (.nil ?_))))))
  refine (.bJ rfl (fun hc26=>?_) (fun hc26=>?_))
  ·refine .skip ?_
   refine nT ?_
   refine .seq (.block (.aj (.z zg (.nil ?_))))
   have hXl:X.length<s.n:=by omega
   refine .aj (.z zg (.nil (.seq (.aj (.z zm (.z (cN ae) (.z zm (.nil ?_))))))))
   refine .for (N:=X.length) (J:=fun k fr w=>∃lo hi,fr=[(10,I lo),(11,I hi),(9,I (X.length:Int)),(8,.slice (some ⟨b,0,none⟩) X.length cap),(6,.slice at' rs.length ct),(2,.pointer (some ⟨b2,0,none⟩)),(1,.slice ap jT.length cp)]∧LoI (gt rs) X X.length k lo∧HiI (gt rs) X X.length k hi∧St H1 w (.blk b (Is X++sp):: .blk b2 [I s.many,.slice al s.bU.length cl]::σ)) ak ?_ ?_ ?_
   ·exact .mk ⟨_,_,rfl,.start _ _ _,.start _ _ _,hs⟩
   ·rintro k fr w hk ⟨lo,hi,rfl,hLo,hHi,hs⟩
    have hXk:=hI.bd k hk
    have hr1:(gr rs X.length).length=s.n:=hSq.2 _ hXl
    have hr2:(gr rs k).length=s.n:=hSq.2 _ ak
    have hb1:gi (gr rs X.length) k≠1000000000→-1400000≤gi (gr rs X.length) k∧gi (gr rs X.length) k≤1400000:=fun h=>hTS.bd X.length k hXl ak h
    have hb2:gi (gr rs k) X.length≠1000000000→-1400000≤gi (gr rs k) X.length∧gi (gr rs k) X.length≤1400000:=fun h=>hTS.bd k X.length ak hXl h
    refine .block (.aj (.z zm (.z zg (.nil ?_))))
    refine .cut (fun fs w=>∃lo',kB fs ⟨109,[],[(10,I lo'),(12,I (k:Int)),(31,I (k:Int)),(30,I (X.length:Int)),(11,I hi),(9,I (X.length:Int)),(8,.slice (some ⟨b,0,none⟩) X.length cap),(6,.slice at' rs.length ct),(2,.pointer (some ⟨b2,0,none⟩)),(1,.slice ap jT.length cp)]⟩∧LoI (gt rs) X X.length (k+1) lo'∧St H1 w (.blk b (Is X++sp):: .blk b2 [I s.many,.slice al s.bU.length cl]::σ)) ?_ ?_
    ·refine .aj (.z zm (.z zm ?_))
     refine .ixT hs hRT rfl rfl au aC (show X.length<rs.length by omega) rfl ?_;intro b36 o36 a36 c36 hc36 hR36
     refine .q hs (aO rfl an hc36) ?_
     refine .z zm ?_
     refine .ixY hs hR36 rfl rfl ae ai (bE (l:=gr rs X.length) (i:=k) ak) rfl ?_;intro b39 o39 hc39
     refine .q hs (aO rfl af hc39) ?_
     refine .z gP (.nil ?_)
     refine (.eI rfl (fun hc41=>?_) (fun hc41=>?_))
     ·refine .draw mix rfl hs fun w hs=>?_
      refine .z 0 rfl zm ?_;refine .z 1 rfl zm ?_;refine .z 2 rfl zm ?_;refine .z 3 rfl (zix ae ai) ?_
      refine .load (i:=4) hs rfl aq .none rfl af ?_ (hv:=fI hk sp)
      refine .z 5 rfl zm ?_;refine .z 6 rfl zm ?_
      refine .ixT (i:=7) hs rfl aq .none hRT rfl rfl au aC (show X.length<rs.length by omega) rfl ?_;intro b49 o49 a49 c49 hc49 hR49
      refine .r (i:=8) hs rfl aq .none (aO rfl an hc49) ?_
      refine .z 9 rfl zm ?_
      refine .ixX (enc:=fun x=>[I x]) (i:=10) hs rfl aq .none hR49 rfl rfl ae ai (bE (l:=gr rs X.length) (i:=k) ak) rfl ?_;intro b52 o52 hc52;replace hc52:=bI.one hc52
      refine .r (i:=11) hs rfl aq .none (aO rfl af hc52) ?_
      refine .z 12 rfl gO ?_;refine .z 13 rfl CJ ?_;refine .z 14 rfl zg ?_;refine .D hs ?_
      refine nT ?_
      exact ⟨_,a8,hLo.put hc41 (by have:=hb1 hc41;have:=hXk;have:=hTS.n65;show -1000000000≤gi X k - gi (gr rs X.length) k;omega),hs⟩
     ·refine .skip ?_
      refine nT ?_
      exact ⟨_,a8,hLo.skip hc41,hs⟩
    ·rintro fs w ⟨lo',hfs,hLo',hs⟩
     refine WE.sub ?_ hfs
     refine .aj (.z zm (.z zm ?_))
     refine .ixT hs hRT rfl rfl au aC (show k<rs.length by omega) rfl ?_;intro b58 o58 a58 c58 hc58 hR58
     refine .q hs (aO rfl an hc58) ?_
     refine .z zm ?_
     refine .ixY hs hR58 rfl rfl ae ai (bE (l:=gr rs k) (i:=X.length) ak) rfl ?_;intro b61 o61 hc61
     refine .q hs (aO rfl af hc61) ?_
     refine .z gP (.nil ?_)
     refine (.eI rfl (fun hc63=>?_) (fun hc63=>?_))
     ·refine .draw mix rfl hs fun w hs=>?_
      refine .z 0 rfl zm ?_;refine .z 1 rfl zm ?_;refine .z 2 rfl zm ?_;refine .z 3 rfl (zix ae ai) ?_
      refine .load (i:=4) hs rfl aq .none rfl af ?_ (hv:=fI hk sp)
      refine .z 5 rfl zm ?_;refine .z 6 rfl zm ?_
      refine .ixT (i:=7) hs rfl aq .none hRT rfl rfl au aC (show k<rs.length by omega) rfl ?_;intro b71 o71 a71 c71 hc71 hR71
      refine .r (i:=8) hs rfl aq .none (aO rfl an hc71) ?_
      refine .z 9 rfl zm ?_
      refine .ixX (enc:=fun x=>[I x]) (i:=10) hs rfl aq .none hR71 rfl rfl ae ai (bE (l:=gr rs k) (i:=X.length) ak) rfl ?_;intro b74 o74 hc74;replace hc74:=bI.one hc74
      refine .r (i:=11) hs rfl aq .none (aO rfl af hc74) ?_
      refine .z 12 rfl cH ?_;refine .z 13 rfl zw ?_;refine .z 14 rfl zg ?_;refine .D hs ?_
      refine nB (nT ?_)
      exact .mk ⟨lo',_,rfl,hLo',hHi.put hc63 (by have:=hb2 hc63;have:=hXk;have:=hTS.n65;show gi X k+gi (gr rs k) X.length≤1000000000;omega),hs⟩
     ·refine .skip ?_
      refine nB (nT ?_)
      exact .mk ⟨lo',_,rfl,hLo',hHi.skip hc63,hs⟩
   ·rintro fr w ⟨lo,hi,rfl,hLo,hHi,hs⟩
    have hlb:=hLo.bd hI hTS hXl (Nat.le_refl _)
    have hhb:=hHi.bd hI hTS hXl (Nat.le_refl _)
    have hle:=hI.le hTS hXl rfl hLo hHi
    simp only [free] at hlb hhb hle
    have hpk:=wC jT ((X.length:Int) - 1) (n:=hi - lo+1)
    refine nT ?_
    refine .aj (.z zg (.nil ?_))
    refine .cut (fun fs w=>kB fs ⟨109,[],[(13,I (ke lo hi (qh jT ((X.length:Int) - 1) (hi - lo+1)))),(9,I (X.length:Int)),(8,.slice (some ⟨b,0,none⟩) X.length cap),(6,.slice at' rs.length ct),(2,.pointer (some ⟨b2,0,none⟩)),(1,.slice ap jT.length cp)]⟩∧St H1 w (.blk b (Is X++sp):: .blk b2 [I s.many,.slice al s.bU.length cl]::σ)) ?_ ?_
    ·refine .block (.aj (.z zm (.z gP (.z zm ?_))))
     refine .yq (t':=82) rfl (fun hb82=>?_) (fun hb82=>?_)
     ·refine .gT rfl rfl ?_
      refine .z zm ?_
      refine .gT rfl rfl ?_
      refine .z gP (.z zpT (.z zg (.nil ?_)))
      refine (.eI rfl (fun hc79=>?_) (fun hc79=>?_))
      ·refine .region (.z zm (.z zm (.z zm (.z gO (.z zm (.z zm (.z gO (.z cH ?_))))))))
       refine .o (.call Tryz.call264 rfl (tV hs (hp.mono hle1) ak ak) ?_);rintro _ w ⟨rfl,hs⟩
       have hq1:hi≠1000000000:=by simpa using hc79
       have hq2:=hle (by simpa using hb82) hq1
       have hq3:=hpk ak
       refine .z cH (.z zg (.nil ?_))
       refine nB (nT ?_)
       refine ⟨.cn rfl ?_ a8,hs⟩
       unfold ke
       simp only [free] at*
       split<;>(try split)<;>first|rfl|omega|(simp_all;done)|(exfalso;simp_all;omega)
      ·refine .aj (.z zm (.z gP (.z zg (.nil ?_))))
       refine (.eI rfl (fun hc96=>?_) (fun hc96=>?_))
       ·refine .region (.z zm (.z zg (.nil ?_)))
        refine nB (nT ?_)
        refine ⟨.cn rfl ?_ a8,hs⟩
        unfold ke
        simp only [free] at*
        split<;>(try split)<;>first|rfl|omega|(simp_all;done)|(exfalso;simp_all;omega)
       ·refine .aj (.z zm (.z gP (.z zg (.nil ?_))))
        refine (.eI rfl (fun hc100=>?_) (fun hc100=>?_))
        ·refine .region (.z zm (.z zg (.nil ?_)))
         refine nB (nT ?_)
         refine ⟨.cn rfl ?_ a8,hs⟩
         unfold ke
         simp only [free] at*
         split<;>(try split)<;>first|rfl|omega|(simp_all;done)|(exfalso;simp_all;omega)
        ·refine .skip ?_
         refine nB (nT ?_)
         refine ⟨.cn rfl ?_ a8,hs⟩
         unfold ke
         simp only [free] at*
         split<;>(try split)<;>first|rfl|omega|(simp_all;done)|(exfalso;simp_all;omega)
     ·refine .gFs 2 2 true rfl rfl rfl ?_
      refine .z zpF (.z zg (.nil ?_))
      refine (.cF ?_)
      refine .aj (.z zm (.z gP (.z zg (.nil ?_))))
      refine (.eI rfl (fun hc96=>?_) (fun hc96=>?_))
      ·refine .region (.z zm (.z zg (.nil ?_)))
       refine nB (nT ?_)
       refine ⟨.cn rfl ?_ a8,hs⟩
       unfold ke
       simp only [free] at*
       split<;>(try split)<;>first|rfl|omega|(simp_all;done)|(exfalso;simp_all;omega)
      ·refine .aj (.z zm (.z gP (.z zg (.nil ?_))))
       refine (.eI rfl (fun hc100=>?_) (fun hc100=>?_))
       ·refine .region (.z zm (.z zg (.nil ?_)))
        refine nB (nT ?_)
        refine ⟨.cn rfl ?_ a8,hs⟩
        unfold ke
        simp only [free] at*
        split<;>(try split)<;>first|rfl|omega|(simp_all;done)|(exfalso;simp_all;omega)
       ·refine .skip ?_
        refine nB (nT ?_)
        refine ⟨.cn rfl ?_ a8,hs⟩
        unfold ke
        simp only [free] at*
        split<;>(try split)<;>first|rfl|omega|(simp_all;done)|(exfalso;simp_all;omega)
    ·rintro fs w ⟨hfs,hs⟩
     refine WE.sub ?_ hfs
     refine .region (.z zm (.z zm ?_))
     refine .o (.buildSlice (cells:=[_]) hs bX rfl rfl fun b106 w hs=>?_)
     refine .o (.append (ys:=Is [ke lo hi (qh jT ((X.length:Int) - 1) (hi - lo+1))]) hs bg rfl rfl hO1 (.own .here rfl rfl) (dM _) (fun l' h=>by simp at h;have:=hTS.n65;omega) ?_);intro v107 en107 w hO2 hs
     rw [←List.map_append] at hO2
     refine .z zg (.nil ?_)
     refine nB (nT ?_)
     refine .region (.z zm (.z cH (.z zg (.nil ?_))))
     refine nT ?_
     exact ⟨(X++[ke lo hi (qh jT ((X.length:Int) - 1) (hi - lo+1))],v107),.cn rfl bQ a8,⟨hP.snoc hLo hHi,by simp;omega,_,hO2,hs.sb⟩,by simp;omega⟩
  ·refine .exit ?_
   refine xT (xT (xB (nT ?_)))
   refine .aj (.z zm (.z zg (.z zg (.nil ?_))))
   refine .ret (Fin.jx Tryz.results212 rfl rfl ?_)
   exact ⟨H1,_,X,_,hle1,rfl,hO1,⟨gt rs,hWT,hP,ak⟩,hs.sb⟩
theorem nu{s:Srv}{vst vwa vr vc:Value}(hs:St H w σ)(h1:RI H vst s.sp.st)(h2:RI H vwa s.sp.wa)(h3:RRd H vr s.rs)(h4:RCm H vc s.cs)(he:s.early):
  Cl Tryz.prog 211 [.agg #[I s.sp.id,I s.sp.src,vst,vwa,I s.sp.al,I s.sp.up,vr,vc]] w fun u w'=>∃H1,HLe H H1∧RSy H1 u s.oD∧St H1 w' σ:=by
 obtain ⟨ar,cr,rfl⟩:=RRd.shape h3
 have hfl:=Ac s
 have hrl:=he.2.1
 refine Cl.o Tryz.func211 Tryz.ntmps211 ag1 ?_
 refine .aj ?_
 refine .bx hs fun b1 w hs=>?_
 refine .o (.alloc hs dd rfl fun b2 w hs=>?_)
 refine .nil (.aj (.y hs (zls [_,_,_,_,_,_,_,_] aD az) ?_))
 refine .o (.call Tryz.call95 rfl (lW (s:=s) hs h1 h2 h3 h4 he) ?_);rintro _ w ⟨H1,hle1,⟨ul,rfl,hL⟩,hs⟩
 have hL:RL H1 ul s.bU:=hL
 obtain ⟨al,cl,rfl⟩:=RL.shape hL
 have hln:=RS.len hL
 rw [List.length_map] at hln
 refine .o (.alloc hs dd rfl fun b3 w hs=>?_)
 refine .o (.aZ (vs:=[_,_]) hs rfl rfl aM fun w hs=>?_)
 refine .nil (.aj (.z (zfa bh) (.y hs (zld bT) (.z (zfa bh) (.y hs (zld bT) (.z (cN aH) (.z (zfa aI) (.y hs (zld aU) (.z (cN aA) ?_)))))))))
 refine .z ki (.z gO ?_)
 refine .q hs (kM (k:=s.nF.length) rfl rfl aH aQ ak ak) ?_
 have hT:=RS.head hL (k:=s.nF.length) ak
 rw [←List.map_take,ya] at hT
 refine .z (zfa bh) ?_
 refine .o (.store hs rfl rfl ji fun w hs=>?_)
 refine .nil (.aj (.y hs (zls [_,_] bp aM) ?_))
 refine .o (.aZ (vs:=[_,_]) hs rfl rfl aM fun w hs=>?_)
 refine .nil ?_
 refine .ret ?_
 exact Fin.gR [] [] hs fun w hs=>⟨_,results1 Tryz.results211 (dv (vs:=[_,_]) hs rfl bp aM),H1,hle1,⟨_,rfl,hT⟩,hs.out⟩
theorem tM{s:Srv}{vst vwa vr vc:Value}(hs:St H w σ)(h1:RI H vst s.sp.st)(h2:RI H vwa s.sp.wa)(h3:RRd H vr s.rs)(h4:RCm H vc s.cs)(he:s.early)(hok:s.oD.Ok):
  Cl Tryz.prog 142 [.agg #[I s.sp.id,I s.sp.src,vst,vwa,I s.sp.al,I s.sp.up,vr,vc]] w fun u w'=>∃H1,∃b:Bool,HLe H H1∧u= .bool b∧(b=false→s.oD.Sound)∧St H1 w' σ:=by
 refine Cl.o Tryz.func142 Tryz.ntmps142 ag1 ?_
 refine .aj ?_
 refine .bx hs fun b1 w hs=>?_
 refine .z zg (.nil (.aj (.y hs (zls [_,_,_,_,_,_,_,_] aD az) ?_)))
 refine .o (.call Tryz.call211 rfl (nu (s:=s) hs h1 h2 h3 h4 he) ?_);rintro _ w ⟨H1,hle1,hS,hs⟩
 refine .o (.call Tryz.call210 rfl (mF (s:=s.oD) hs hS) ?_);rintro _ w ⟨H2,vt,e,hle2,rfl,hcase,hs⟩
 refine .z zm (.z zex (.z zex (.z zg (.z zg (.nil (.aj (.z zm (.z gP (.z zg ?_)))))))))
 refine .nil ?_
 refine .ret (Fin.bK Tryz.results142 rfl ?_)
 exact ⟨H2,_,hle1.trans hle2,rfl,fun h=>by
  rcases hcase with ⟨k1,_,_⟩|⟨_,_,k3,_⟩|⟨_,k2,_,_⟩
  ·exact (k1 (s.oD.cD.2 hok)).elim
  ·subst k3;simp at h
  ·exact k2,hs.out⟩
theorem tL{s:Srv}{vst vwa vr vc vp:Value}{jT:List Int}(hs:St H w σ)(h1:RI H vst s.sp.st)(h2:RI H vwa s.sp.wa)(h3:RRd H vr s.rs)(h4:RCm H vc s.cs)(hp:RI H vp jT)(he:s.early)(hok:s.oD.Ok∧s.oD.Sound):
  Cl Tryz.prog 143 [.agg #[I s.sp.id,I s.sp.src,vst,vwa,I s.sp.al,I s.sp.up,vr,vc],vp] w fun u w'=>∃H1 x en,HLe H H1∧cz 1 u (Is x) en∧wb s.oD jT x∧St H1 w' (en::σ):=by
 obtain ⟨ap,cp,rfl⟩:=RI.shape hp
 refine Cl.o Tryz.func143 Tryz.ntmps143 ag2 ?_
 refine .aj ?_
 refine .bx hs fun b2 w hs=>?_
 refine .z zg (.nil (.aj (.y hs (zls [_,_,_,_,_,_,_,_] aD az) ?_)))
 refine .o (.call Tryz.call211 rfl (nu (s:=s) hs h1 h2 h3 h4 he) ?_);rintro _ w ⟨H1,hle1,hS,hs⟩
 refine .z zm ?_
 refine .o (.call Tryz.call212 rfl (tU (s:=s.oD) hs hS (hp.mono hle1) hok) ?_);rintro _ w ⟨H2,vx,x,en,hle2,rfl,hO,hP,hs⟩
 refine .z zm (.z zex (.z zex (.z zg (.z zg (.nil (.aj (.z zm (.z zg (.nil ?_)))))))))
 refine .ret (Fin.bK Tryz.results143 rfl ?_)
 exact ⟨H2,x,en,hle1.trans hle2,hO,hP,hs.sb⟩
set_option maxHeartbeats 1000000 in
theorem pn{s:Spc}{vst vwa:Value}{a b c:Int}(hs:St H w σ)(h1:RI H vst s.st)(h2:RI H vwa s.wa)(hk:eT s):
  Cl Tryz.prog 25 [.agg #[I s.id,I s.src,vst,vwa,I s.al,I s.up],.agg #[I a,I b,I c]] w fun u w'=>∃q:Wht,u= .agg #[I q.kind,I q.st,I q.wa]∧gW s q∧St H w' σ:=by
 obtain ⟨ast,cst,rfl⟩:=RI.shape h1
 obtain ⟨awa,cwa,rfl⟩:=RI.shape h2
 have hl1:=hk.st.two
 have hl2:=hk.wa.two
 have hl3:=hk.st.many
 have hl4:=hk.wa.many
 refine Cl.o Tryz.func25 Tryz.ntmps25 ag2 ?_
 refine .aj ?_
 refine .bx hs fun b2 w hs=>?_
 refine .bx hs fun b3 w hs=>?_
 refine .o (.alloc hs Tryz.zeroValue29 rfl fun b4 w hs=>?_)
 refine .nil (.aj ?_)
 refine .z (zia 0 aW ai) ?_
 refine .y hs (zld af) ?_
 refine .o (.call di rfl (bP hs ak) ?_);rintro _ w ⟨k,hk4,rfl,hs⟩
 refine .z cH (.z (zbd [_,_,_] nO) ?_)
 refine .o (.alloc hs Tryz.zeroValue29 rfl fun b5 w hs=>?_)
 refine .o (.aZ (vs:=[_,_,_]) hs rfl rfl bV fun w hs=>?_)
 refine .nil (.aj ?_)
 refine .z (zia 1 aW ai) ?_
 refine .y hs (zld af) (.z (zfa bj) (.y hs (zld an) (.z (cN ae) ?_)))
 refine .o (.call di rfl (bP hs ak) ?_);rintro _ w ⟨i,hi,rfl,hs⟩
 refine .z zg (.nil (.aj ?_))
 refine .z (zia 2 aW ai) ?_
 refine .y hs (zld af) (.z (zfa aS) (.y hs (zld an) (.z (cN ae) ?_)))
 refine .o (.call di rfl (bP hs ak) ?_);rintro _ w ⟨j,hj,rfl,hs⟩
 refine .z zg (.nil (.seq (.aj (.z (zfa ky) (.y hs (zld af) (.nil (.block (.aj (.z fw ?_)))))))))
 refine .z zg (.nil ?_)
 refine (.bJ rfl (fun hc27=>?_) (fun hc27=>?_))
 ·refine .region (.z zm (.z CJ (.z (zfa dy) ?_)))
  refine .o (.store hs rfl rfl ai fun w hs=>?_)
  refine .nil ?_
  refine nB (nT ?_)
  refine .aj (.y hs (zls [_,_,_] dP bV) ?_)
  refine .o (.aZ (vs:=[_,_,_]) hs rfl rfl bV fun w hs=>?_)
  refine .nil ?_
  refine .ret ?_
  exact Fin.gR [] [] hs fun w hs=>⟨_,results1 Tryz.results25 (dv (vs:=[_,_,_]) hs rfl dP bV),⟨1+(k:Int),0,max 1 (j:Int)⟩,rfl,.litres (by show (1:Int)+k=1;omega) rfl ⟨by dsimp only;omega,by dsimp only;omega⟩ (by dsimp only;omega),hs.out⟩
 ·refine .aj (.z fw (.z zg (.nil ?_)))
  refine (.bJ rfl (fun hc32=>?_) (fun hc32=>?_))
  ·refine .region (.z zm (.z (zfa dy) ?_))
   refine .o (.store hs rfl rfl ai fun w hs=>?_)
   refine .nil ?_
   refine nB (nT ?_)
   refine .aj (.y hs (zls [_,_,_] dP bV) ?_)
   refine .o (.aZ (vs:=[_,_,_]) hs rfl rfl bV fun w hs=>?_)
   refine .nil ?_
   refine .ret ?_
   exact Fin.gR [] [] hs fun w hs=>⟨_,results1 Tryz.results25 (dv (vs:=[_,_,_]) hs rfl dP bV),⟨1+(k:Int),0,(j:Int)⟩,rfl,.plane (by show (1:Int)+k=2;omega) rfl ⟨by dsimp only;omega,by dsimp only;omega⟩,hs.out⟩
  ·refine .aj (.z fw (.z zg (.nil ?_)))
   refine (.bJ rfl (fun hc36=>?_) (fun hc36=>?_))
   ·refine .region (.z zm (.z (zfa eu) ?_))
    refine .o (.store hs rfl rfl ai fun w hs=>?_)
    refine .nil ?_
    refine nB (nT ?_)
    refine .aj (.y hs (zls [_,_,_] dP bV) ?_)
    refine .o (.aZ (vs:=[_,_,_]) hs rfl rfl bV fun w hs=>?_)
    refine .nil ?_
    refine .ret ?_
    exact Fin.gR [] [] hs fun w hs=>⟨_,results1 Tryz.results25 (dv (vs:=[_,_,_]) hs rfl dP bV),⟨1+(k:Int),(i:Int),0⟩,rfl,.section_ (by show (1:Int)+k=3;omega) rfl ⟨by dsimp only;omega,by dsimp only;omega⟩,hs.out⟩
   ·refine .aj (.z fw (.z zg (.nil ?_)))
    refine (.bJ rfl (fun hc40=>?_) (fun hc40=>?_))
    ·refine .aj (.z zm (.z (zfa eu) ?_))
     refine .o (.store hs rfl rfl ai fun w hs=>?_)
     refine .nil (.region (.z zm (.z (zfa dy) ?_)))
     refine .o (.store hs rfl rfl ai fun w hs=>?_)
     refine .nil ?_
     refine nB (nT ?_)
     refine .aj (.y hs (zls [_,_,_] dP bV) ?_)
     refine .o (.aZ (vs:=[_,_,_]) hs rfl rfl bV fun w hs=>?_)
     refine .nil ?_
     refine .ret ?_
     exact Fin.gR [] [] hs fun w hs=>⟨_,results1 Tryz.results25 (dv (vs:=[_,_,_]) hs rfl dP bV),⟨1+(k:Int),(i:Int),(j:Int)⟩,rfl,.offset (by show (1:Int)+k=4;omega) ⟨by dsimp only;omega,by dsimp only;omega⟩ ⟨by dsimp only;omega,by dsimp only;omega⟩,hs.out⟩
    ·refine .skip ?_
     refine nB (nT ?_)
     refine .aj (.y hs (zls [_,_,_] dP bV) ?_)
     refine .o (.aZ (vs:=[_,_,_]) hs rfl rfl bV fun w hs=>?_)
     refine .nil ?_
     refine .ret ?_
     omega
structure Grow(d D:Int)(L:List Int)(x:Int):Prop where
 low:d≤x
 high:x≤d+D*L.length
 all:∀i<L.length,d≤gi L i∧gi L i<x
 rise:∀i,i+1<L.length→gi L i<gi L (i+1)
theorem Grow.start(d D:Int):Grow d D [] d:=⟨ak,bQ,fun i h=>by simp at h,fun i h=>by simp at h⟩
theorem Grow.snoc{d D x y:Int}{L:List Int}(h:Grow d D L x)(h1:x<y)(h2:y≤x+D):Grow d D (L++[x]) y:=by
 obtain ⟨g1,g2,g3,g4⟩:=h
 refine ⟨ak,?_,fun i hi=>?_,fun i hi=>?_⟩
 ·rw [List.length_append,List.length_singleton,Int.natCast_add,Int.mul_add];omega
 ·rw [List.length_append,List.length_singleton] at hi
  rw [wO]
  split
  ·have:=g3 i cZ;omega
  ·rw [if_pos ak];omega
 ·rw [List.length_append,List.length_singleton] at hi
  rw [wO,wO,if_pos ak]
  split
  ·exact g4 i cZ
  ·rw [if_pos ak];exact (g3 i ak).2
theorem Grow.plc{d D x most:Int}{many:Nat}{L:List Int}(h:Grow d D L x)(hd:0≤d)(h2:2≤L.length)(hm:L.length≤many)(hx:d+D*L.length≤most):fa many most L:=
 ⟨h2,hm,by have:=(h.all 0 ak).1;omega,by have:=(h.all (L.length - 1) ak).2;have:=h.high;omega,h.rise⟩
structure Gu(s:Spc):Prop where
 ok:eT s
 st:s.st.length≤4
 wa:s.wa.length≤3
set_option maxHeartbeats 1000000 in
theorem po{v:Value}{l:List Int}(hs:St H w σ)(hr:RI H v l):
  Cl Tryz.prog 35 [v] w fun u w'=>∃s vst vwa e1 e2,u= .agg #[I s.id,I s.src,vst,vwa,I s.al,I s.up]∧Gu s∧cz 1 vst (Is s.st) e1∧cz 1 vwa (Is s.wa) e2∧St H w' (e1::e2::σ):=by
 obtain ⟨av,cv,rfl⟩:=RI.shape hr
 refine Cl.o Tryz.func35 Tryz.ntmps35 ag1 ?_
 refine .aj ?_
 refine .o (.alloc hs gh rfl fun b2 w hs=>?_)
 refine .nil (.aj (.z zm ?_))
 refine .o (.call gz rfl (dA hs hr ak ak) ?_);rintro _ w ⟨k11,g11,rfl,hs⟩
 refine .z cH (.z zm ?_)
 refine .o (.call gz rfl (dA hs hr ak ak) ?_);rintro _ w ⟨k14,g14,rfl,hs⟩
 refine .z cH (.z (zbd [_,_,_,_,_,_] qP) ?_)
 refine .o (.alloc hs gh rfl fun b3 w hs=>?_)
 refine .o (.aZ (vs:=[_,_,_,_,_,_]) hs rfl rfl aB fun w hs=>?_)
 refine .nil (.aj (.z zm ?_))
 refine .o (.call gz rfl (dA hs hr ak ak) ?_);rintro _ w ⟨k18,g18,rfl,hs⟩
 refine .z cH (.z ki (.z zg (.nil (.aj (.z zg (.nil (.seq (.aj (.z zg ?_)))))))))
 refine .nil (.block ?_)
 refine .loop (fun p:List Int×Int×Value=>⟨90,[],[(6,I (p.1.length:Int)),(5,I p.2.1),(4,I (100*(1+(k18:Int)))),(0,.slice av l.length cv),(3,.pointer (some ⟨b3,0,none⟩)),(2,.pointer (some ⟨b2,0,none⟩))]⟩)
  (fun p w=>p.1.length≤4∧Grow 0 2707 p.1 p.2.1∧∃en,cz 1 p.2.2 (Is p.1) en∧St H w (en:: .blk b3 [I (1+(k11:Int)),I (1+(k14:Int)),p.2.2,.slice none 0 0,I 0,I 0]:: .blk b2 [I 0,I 0,.slice none 0 0,.slice none 0 0,I 0,I 0]::σ)) (fun p=>4 - p.1.length) ([],0,.slice none 0 0) a8
  ⟨bQ,.start _ _,_,.nil 1 none,hs.nul⟩ ?_
 clear hs
 rintro ⟨L,x,vo⟩ w ⟨hL4,hG,en,hO,hs⟩
 dsimp only at hL4 hG hO hs ⊢
 obtain ⟨ao,lo,co,rfl,-⟩:=hO.shape
 have hx0:=hG.low
 have hx1:=hG.high
 refine .seq (.aj (.z zm (.z zm ?_)))
 refine .o (.call gz rfl (dA hs hr ak ak) ?_);rintro _ w ⟨k23,g23,rfl,hs⟩
 refine .z cH (.z fD (.nil ?_))
 refine (.bJ rfl (fun hc25=>?_) (fun hc25=>?_))
 ·refine .skip ?_
  refine nT ?_
  refine .seq (.block (.aj (.z (zfa bj) (.y hs (zld an) (.z zm ?_)))))
  refine .o (.buildSlice (cells:=[_]) hs bX rfl rfl fun b31 w hs=>?_)
  refine .o (.append (ys:=Is [x]) hs bg rfl rfl hO (.own .here rfl rfl) (dM _) (fun l' h=>by simp at h;omega) ?_);intro v32 en32 w hO2 hs
  rw [←List.map_append] at hO2
  obtain ⟨a32,l32,c32,rfl,-⟩:=hO2.shape
  refine .z (zfa bj) ?_
  refine .o (.store hs rfl rfl aC fun w hs=>?_)
  refine .nil (.region (.z zm (.z zm (.z zm (.z zm (.z cH ?_))))))
  refine .o (.call gz rfl (dA hs hr ak ak) ?_);rintro _ w ⟨k39,g39,rfl,hs⟩
  have m41:=kP (a:=100*(1+(k18:Int))) (b:=1+(k39:Int)) (A:=900) (B:=3) ak ak
  have m41':100≤100*(1+(k18:Int))*(1+(k39:Int)):=by
   have:=Int.mul_le_mul (a:=100) (c:=100*(1+(k18:Int))) (b:=1) (d:=1+(k39:Int)) ak ak ak ak
   omega
  refine .z cH (.z ki (.z cH (.z zm ?_)))
  refine .o (.call gz rfl (dA hs hr ak ak) ?_);rintro _ w ⟨k44,g44,rfl,hs⟩
  refine .z zm (.z zm (.z cH ?_))
  refine .o (.call gz rfl (dA hs hr ak ak) ?_);rintro _ w ⟨k48,g48,rfl,hs⟩
  have m49:0≤(k44:Int)*(k48:Int)∧(k44:Int)*(k48:Int)≤1:=by
   have e1:k44=0∨k44=1:=by omega
   rcases e1 with rfl|rfl<;>simp<;>omega
  refine .z ki (.z ki (.z cH (.z zg (.nil ?_))))
  refine nB (nT ?_)
  refine .region (.z zm (.z cH (.z zg (.nil ?_))))
  refine nT ?_
  exact ⟨(L++[x],_,.slice a32 l32 c32),.cn rfl bQ a8,⟨by simp;omega,hG.snoc (by dsimp only;omega) (by dsimp only;omega),_,hO2,hs.sb⟩,by simp;omega⟩
 ·refine .exit ?_
  refine xT (xT (xB (nT ?_)))
  refine .aj (.z zm ?_)
  have hL2:2≤L.length:=by omega
  refine .o (.call gz rfl (dA hs hr ak ak) ?_);rintro _ w ⟨k53,g53,rfl,hs⟩
  refine .z cH (.z ki (.z zg (.nil (.aj (.z zm ?_)))))
  refine .o (.call gz rfl (dA hs hr ak ak) ?_);rintro _ w ⟨k57,g57,rfl,hs⟩
  refine .z ki (.z zg (.nil (.seq (.aj (.z zg (.nil (.block ?_)))))))
  refine .loop (fun p:List Int×Int×Value=>⟨90,[],[(9,I (p.1.length:Int)),(8,I p.2.1),(7,I (50*(1+(k53:Int)))),(0,.slice av l.length cv),(3,.pointer (some ⟨b3,0,none⟩)),(2,.pointer (some ⟨b2,0,none⟩))]⟩)
   (fun p w=>p.1.length≤3∧Grow (10*(k57:Int)) 1350 p.1 p.2.1∧∃en2,cz 1 p.2.2 (Is p.1) en2∧St H w (en2:: .blk b3 [I (1+(k11:Int)),I (1+(k14:Int)),.slice ao lo co,p.2.2,I 0,I 0]:: .blk b2 [I 0,I 0,.slice none 0 0,.slice none 0 0,I 0,I 0]::en::σ)) (fun p=>3 - p.1.length) ([],10*(k57:Int),.slice none 0 0) a8
   ⟨bQ,.start _ _,_,.nil 1 none,(hs.sb).nul⟩ ?_
  clear hs
  rintro ⟨L2,y,vo2⟩ w ⟨hM4,hG2,en2,hO2,hs⟩
  dsimp only at hM4 hG2 hO2 hs ⊢
  obtain ⟨ap,lp,cp,rfl,-⟩:=hO2.shape
  have hy0:=hG2.low
  have hy1:=hG2.high
  refine .seq (.aj (.z zm (.z zm ?_)))
  refine .o (.call gz rfl (dA hs hr ak ak) ?_);rintro _ w ⟨k61,g61,rfl,hs⟩
  refine .z cH (.z fD (.nil ?_))
  refine (.bJ rfl (fun hc63=>?_) (fun hc63=>?_))
  ·refine .skip ?_
   refine nT ?_
   refine .seq (.block (.aj (.z (zfa aS) (.y hs (zld an) (.z zm ?_)))))
   refine .o (.buildSlice (cells:=[_]) hs bX rfl rfl fun b69 w hs=>?_)
   refine .o (.append (ys:=Is [y]) hs bg rfl rfl hO2 (.own .here rfl rfl) (dM _) (fun l' h=>by simp at h;omega) ?_);intro v70 en70 w hO3 hs
   rw [←List.map_append] at hO3
   obtain ⟨a70,l70,c70,rfl,-⟩:=hO3.shape
   refine .z (zfa aS) ?_
   refine .o (.store hs rfl rfl aC fun w hs=>?_)
   refine .nil (.region (.z zm (.z zm (.z zm (.z zm (.z cH ?_))))))
   refine .o (.call gz rfl (dA hs hr ak ak) ?_);rintro _ w ⟨k77,g77,rfl,hs⟩
   have m79:=kP (a:=50*(1+(k53:Int))) (b:=1+(k77:Int)) (A:=450) (B:=3) ak ak
   have m79':50≤50*(1+(k53:Int))*(1+(k77:Int)):=by
    have:=Int.mul_le_mul (a:=50) (c:=50*(1+(k53:Int))) (b:=1) (d:=1+(k77:Int)) ak ak ak ak
    omega
   refine .z cH (.z ki (.z cH (.z zg (.nil ?_))))
   refine nB (nT ?_)
   refine .region (.z zm (.z cH (.z zg (.nil ?_))))
   refine nT ?_
   exact ⟨(L2++[y],_,.slice a70 l70 c70),.cn rfl bQ a8,⟨by simp;omega,hG2.snoc (by dsimp only;omega) (by dsimp only;omega),_,hO3,hs.sb⟩,by simp;omega⟩
  ·refine .exit ?_
   refine xT (xT (xB (nT ?_)))
   refine .aj (.z zm ?_)
   refine .o (.call gz rfl (dA hs hr ak ak) ?_);rintro _ w ⟨k83,g83,rfl,hs⟩
   refine .z ki (.z zm ?_)
   refine .o (.call gz rfl (dA hs hr ak ak) ?_);rintro _ w ⟨k86,g86,rfl,hs⟩
   refine .z ki (.z (zbd [_,_] su) (.z (zfa dN) ?_))
   refine .o (.aZ (vs:=[_,_]) hs rfl rfl FE fun w hs=>?_)
   refine .nil (.aj (.y hs (zls [_,_,_,_,_,_] aF aB) ?_))
   refine .o (.aZ (vs:=[_,_,_,_,_,_]) hs rfl rfl aB fun w hs=>?_)
   refine .nil ?_
   refine .ret ?_
   exact Fin.gR [] [] hs fun w hs=>⟨_,results1 Tryz.results35 (dv (vs:=[_,_,_,_,_,_]) hs rfl aF aB),⟨1+(k11:Int),1+(k14:Int),L,L2,100*(k83:Int),100*(k86:Int)⟩,.slice ao lo co,.slice ap lp cp,en,en2,rfl,
    ⟨⟨hG.plc ak hL2 ak ak,hG2.plc ak ak ak ak,by dsimp only;omega,by dsimp only;omega,by dsimp only;omega,by dsimp only;omega⟩,hL4,hM4⟩,hO,hO2,hs.sb⟩
instance (s:Spc) (r:Rdg):Decidable (iM s r):=
 decidable_of_iff ((1≤r.src∧r.src≤99999)∧(0≤r.st∧r.st≤(s.st.length:Int) - 1)∧(0≤r.wa∧r.wa≤(s.wa.length:Int) - 1)∧(0≤r.tol∧r.tol≤1000)∧(0≤r.val∧r.val≤20000 - r.tol)∧(1≤r.tape∧r.tape≤99)∧(0≤r.day∧r.day≤100000))
  ⟨fun ⟨a,b,c,d,e,f,g⟩=>⟨a,b,c,d,e,f,g⟩,fun ⟨a,b,c,d,e,f,g⟩=>⟨a,b,c,d,e,f,g⟩⟩
def iL(s:Spc)(rs:List Rdg):List Rdg:=rs.filter fun r=>decide (iM s r)
theorem AN(s:Spc){rs:List Rdg}{k:Nat}{r:Rdg}(h:rs[k]? =some r):iL s (rs.take (k+1))=if iM s r then iL s (rs.take k)++[r] else iL s (rs.take k):=by
 unfold iL
 rw [df h,List.filter_append]
 by_cases e:iM s r
 ·simp [e]
 ·simp [e]
theorem um(s:Spc)(rs:List Rdg):(iL s rs).length≤rs.length:=List.length_filter_le _ _
theorem xY{s:Spc}{rs:List Rdg}{r:Rdg}(h:r∈iL s rs):r∈rs∧iM s r:=by
 unfold iL at h;simpa using List.mem_filter.1 h
theorem DQ{s:Spc}{rs:List Rdg}{t:TD}(h:t∈bw (iL s rs)):t∈bw rs:=by
 obtain ⟨r,h1,h2⟩:=gJ.1 h
 exact gJ.2 ⟨r,(xY h1).1,h2⟩
def mY(v:Srv)(x:List Int)(t:TD):Int:=gi x (v.sp.many+1+(iI v.bD t).toNat)
def Gh(v:Srv)(x:List Int):List Int:=x.take (v.sp.many+1)++(bw (iL v.sp v.rs)).map (mY v x)
set_option maxHeartbeats 1000000 in
theorem ns{vr:Value}{rs:List Rdg}(hs:St H w σ)(hr:RRd H vr rs)(hl:rs.length≤1000000):
  Cl Tryz.prog 94 [vr] w fun u w'=>∃en,cz 2 u (tdc (bw rs)).flatten en∧St H w' (en::σ):=by
 obtain ⟨ar,cr,rfl⟩:=RRd.shape hr
 refine Cl.o Tryz.func94 Tryz.ntmps94 ag1 ?_
 refine .aj (.z zg (.nil (.aj (.z zg (.nil (.seq (.aj (.z zg (.nil ?_)))))))))
 refine .block ?_
 refine .loop (fun p:Nat×Value=>⟨32,[],[(4,I (p.1:Int)),(3,p.2),(0,.slice ar rs.length cr)]⟩)
  (fun p w=>p.1≤rs.length∧∃en,cz 2 p.2 (tdc (bw (rs.take p.1))).flatten en∧St H w (en::σ)) (fun p=>rs.length - p.1) (0,.slice none 0 0) a8
  ⟨Nat.zero_le _,_,.nil 2 none,hs.nul⟩ ?_
 rintro ⟨k,vo⟩ w ⟨hk,en,hO,hs⟩
 dsimp only at hk hO ⊢
 have htl:=kJ rs k ak
 obtain ⟨ao,co,rfl⟩:=hO.fM (kX _) ak
 rw [dI] at hO ⊢
 refine .seq (.aj (.z zm (.z zm (.z (cN aA) (.z fD (.nil ?_))))))
 refine (.bJ rfl (fun hc9=>?_) (fun hc9=>?_))
 ·refine .skip ?_
  refine nT ?_
  refine .seq (.block ?_)
  refine .seq (.draw mix rfl hs fun w hs=>?_)
  refine .z 0 rfl zm ?_;refine .z 1 rfl zm ?_
  obtain ⟨r,hx⟩:=nth (l:=rs) (k:=k) ak
  have htk:=jS hx
  refine .ixX (enc:=Rdg.c) (i:=2) hs rfl aq .none hr rfl rfl aA aE hx cJ ?_;intro b14 o14 hc14
  have d14:cellAt H b14 (o14+5)=some (I r.tape):=hc14 5 _ rfl
  refine .z 3 rfl (zfa ez) ?_;refine .y 4 rfl hs af ?_;refine .z 5 rfl zm ?_;refine .z 6 rfl zm ?_
  refine .ixX (enc:=Rdg.c) (i:=7) hs rfl aq .none hr rfl rfl aA aE hx cJ ?_;intro b19 o19 hc19
  have d19:cellAt H b19 (o19+6)=some (I r.day):=hc19 6 _ rfl
  refine .z 8 rfl (zfa ew) ?_;refine .y 9 rfl hs af ?_;refine .z 10 rfl (zbd [_,_] fG) ?_
  refine .E 11 hs ?_
  refine .alloc hs jy rfl ?_;intro b5 w hs
  refine .go ?_
  refine .E 12 hs ?_
  refine .aZ (vs:=[_,_]) hs rfl rfl bn ?_;intro w hs
  refine .go ?_
  refine .D hs ?_
  refine .aj (.z zm (.y hs (zls [_,_] da bn) ?_))
  refine .o (.call xt rfl (nt (t:=r.td) (hs.sb:St H w (en:: .blk b5 [I r.tape,I r.day]::σ)) hO ak) ?_);rintro _ w ⟨rfl,hs⟩
  have hnn:=jR (l:=bw (rs.take k)) (t:=r.td)
  refine .z fD (.nil ?_)
  refine (.bJ rfl (fun hc26=>?_) (fun hc26=>?_))
  ·refine .region (.z zm (.y hs (zls [_,_] da bn) ?_))
   refine .o (.buildSlice (cells:=[_,_]) hs gj rfl rfl fun b29 w hs=>?_)
   refine .o (.append (ys:=r.td.c) hs ee rfl rfl hO (.own .here rfl rfl) (by simp [TD.c,Value.oneCell']) (fun l h=>by rw [cu _ (kX _),dI] at h;omega) ?_);intro v30 en30 w hO2 hs
   refine .z zg (.nil ?_)
   refine nB (nT ?_)
   refine .region (.z zm (.z cH (.z zg (.nil ?_))))
   refine nT ?_
   have hn:r.td∉bw (rs.take k):=fun hm=>by have:=hnn.2 hm;omega
   rw [←s4,show bw (rs.take k)++[r.td]=bw (rs.take (k+1)) by rw [htk];unfold qS;rw [if_neg hn]] at hO2
   exact ⟨(k+1,v30),.cn rfl bQ a8,⟨by dsimp only;omega,_,hO2,hs.sb⟩,by dsimp only;omega⟩
  ·refine .skip ?_
   refine nB (nT ?_)
   refine .region (.z zm (.z cH (.z zg (.nil ?_))))
   refine nT ?_
   have hm:r.td∈bw (rs.take k):=hnn.1 ak
   exact ⟨(k+1,_),.cn rfl bQ a8,⟨by dsimp only;omega,en,by dsimp only;rw [htk];unfold qS;rw [if_pos hm];exact hO,hs.sb⟩,by dsimp only;omega⟩
 ·refine .exit ?_
  refine xT (xT (xB (nT ?_)))
  refine .aj (.z zm (.z zg (.nil ?_)))
  refine .ret (Fin.bK Tryz.results94 rfl ?_)
  obtain rfl:k=rs.length:=by omega
  rw [List.take_length] at hO
  exact ⟨en,by rw [List.take_length];exact hO,hs⟩
set_option maxHeartbeats 2000000 in
theorem p5{s:Srv}{x:List Int}{vst vwa vr vc vx:Value}(hs:St H w σ)(h1:RI H vst s.sp.st)(h2:RI H vwa s.sp.wa)(h3:RRd H vr s.rs)(hc:∃a l c,vc= .slice a l c)(hx:RI H vx x)(hxl:x.length=s.sys.n)(hb:s.sp.st.length≤1000∧s.sp.wa.length≤1000∧s.rs.length≤1000):
  Cl Tryz.prog 144 [.agg #[I s.sp.id,I s.sp.src,vst,vwa,I s.sp.al,I s.sp.up,vr,vc],vx] w fun u w'=>∃H1 vr' vy e1 e2,HLe H H1∧u= .tuple #[.agg #[I s.sp.id,I s.sp.src,vst,vwa,I s.sp.al,I s.sp.up,vr',vc],vy]∧cz 7 vr' (rdc (iL s.sp s.rs)).flatten e1∧cz 1 vy (Is (Gh s x)) e2∧St H1 w' (e1::e2::σ):=by
 obtain ⟨ast,cst,rfl⟩:=RI.shape h1
 obtain ⟨awa,cwa,rfl⟩:=RI.shape h2
 obtain ⟨ar,cr,rfl⟩:=RRd.shape h3
 obtain ⟨ac,lc,cc,rfl⟩:=hc
 obtain ⟨ax,cx,rfl⟩:=RI.shape hx
 have hm:s.sp.many≤1000000:=Nat.mul_le_mul hb.1 hb.2.1
 have hn:=rj s
 have htl:=db s.rs
 refine Cl.o Tryz.func144 Tryz.ntmps144 ag2 ?_
 refine .aj ?_
 refine .bx hs fun b2 w hs=>?_
 refine .o (.alloc hs ck rfl fun b4 w hs=>?_)
 refine .z zg (.nil (.aj (.z (zfa aI) (.y hs (zld aU) ?_))))
 refine .o (.call lg rfl (eL (rs:=s.rs) hs h3 ak) ?_);rintro v15 w ⟨H1,hle1,hT,hs⟩
 obtain ⟨at',ct,rfl⟩:=RTd.shape hT
 refine .z zg (.nil (.aj (.z (zfa aJ) (.y hs (zls [_,_,_,_,_,_] aF aB) ?_))))
 refine .o (.call m7 rfl (dQ (s:=s.sp) hs (h1.mono hle1) (h2.mono hle1) ⟨hb.1,hb.2.1⟩) ?_);rintro _ w ⟨rfl,hs⟩
 refine .z zg (.nil (.aj (.y hs (zls [_,_,_,_,_,_,_,_] aD az) ?_)))
 refine .o (.alloc hs ck rfl fun b8 w hs=>?_)
 refine .o (.aZ (vs:=[_,_,_,_,_,_,_,_]) hs rfl rfl az fun w hs=>?_)
 refine .nil (.aj (.z (zfa aI) ?_))
 refine .o (.store hs rfl rfl ib fun w hs=>?_)
 refine .nil (.seq (.aj (.z zg (.nil (.block ?_)))))
 refine .loop (fun p:Nat×Value=>⟨78,[],[(9,I (p.1:Int)),(8,.pointer (some ⟨b8,0,none⟩)),(7,I (s.sp.many:Int)),(6,.slice at' (bw s.rs).length ct),(4,.pointer (some ⟨b4,0,none⟩)),(2,.pointer (some ⟨b2,0,none⟩)),(1,.slice ax x.length cx)]⟩)
  (fun p w=>p.1≤s.rs.length∧∃en,cz 7 p.2 (rdc (iL s.sp (s.rs.take p.1))).flatten en∧St H1 w (en:: .blk b8 [I s.sp.id,I s.sp.src,.slice ast s.sp.st.length cst,.slice awa s.sp.wa.length cwa,I s.sp.al,I s.sp.up,p.2,.slice ac lc cc]:: .blk b4 [I 0,I 0,.slice none 0 0,.slice none 0 0,I 0,I 0,.slice none 0 0,.slice none 0 0]:: .blk b2 [I s.sp.id,I s.sp.src,.slice ast s.sp.st.length cst,.slice awa s.sp.wa.length cwa,I s.sp.al,I s.sp.up,.slice ar s.rs.length cr,.slice ac lc cc]::σ)) (fun p=>s.rs.length - p.1) (0,.slice none 0 0) a8
  ⟨Nat.zero_le _,_,.nil 7 none,hs.nul⟩ ?_
 clear hs
 rintro ⟨k,vo⟩ w ⟨hk,en,hO,hs⟩
 dsimp only at hk hO hs ⊢
 have hkl:=um s.sp (s.rs.take k)
 rw [List.length_take] at hkl
 obtain ⟨ao,lo,co,rfl,-⟩:=hO.shape
 refine .seq (.aj (.z zm (.z (zfa aI) (.y hs (zld aU) (.z (cN aA) (.z fD (.nil ?_)))))))
 refine (.bJ rfl (fun hc25=>?_) (fun hc25=>?_))
 ·refine .skip ?_
  refine nT ?_
  refine .seq (.block ?_)
  refine .seq (.draw mix rfl hs fun w hs=>?_)
  refine .z 0 rfl (zfa aJ) ?_;refine .ys 1 rfl hs [_,_,_,_,_,_] aF aB ?_;refine .z 2 rfl (zfa aI) ?_;refine .y 3 rfl hs aU ?_;refine .z 4 rfl zm ?_
  obtain ⟨r,hr⟩:=nth (l:=s.rs) (k:=k) ak
  have hsn:=AN s.sp hr
  refine .ixX (enc:=Rdg.c) (i:=5) hs rfl aq .none (h3.mono hle1) rfl rfl aA aE hr cJ ?_;intro b33 o33 hc33
  refine .r (i:=6) hs rfl aq .none (cj (vs:=r.c) rfl bZ aE hc33) ?_
  refine .E 7 hs ?_
  refine .call Tryz.call109 rfl (fm (s:=s.sp) (r:=r) hs (h1.mono hle1) (h2.mono hle1)) ?_;rintro _ w ⟨b35,rfl,hb35,hs⟩
  refine .go ?_
  refine .D hs ?_
  refine (.cond rfl (fun hc35=>?_) (fun hc35=>?_))
  ·refine .draw mix rfl hs fun w hs=>?_
   refine .z 0 rfl (zfa aI) ?_;refine .y 1 rfl hs aU ?_;refine .z 2 rfl (zfa aI) ?_;refine .y 3 rfl hs aU ?_;refine .z 4 rfl zm ?_
   refine .ixX (enc:=Rdg.c) (i:=5) hs rfl aq .none (h3.mono hle1) rfl rfl aA aE hr cJ ?_;intro b41 o41 hc41
   refine .r (i:=6) hs rfl aq .none (cj (vs:=r.c) rfl bZ aE hc41) ?_
   refine .E 7 hs ?_
   refine .buildSlice (cells:=r.c) hs dZ rfl aq ?_;intro b43 w hs
   refine .go ?_
   refine .E 8 hs ?_
   refine .append (ys:=r.c) hs bH rfl rfl hO (.own .here rfl rfl) (by simp [Rdg.c,Value.oneCell']) (fun l' h=>by rw [cu _ (gd _),cA] at h;omega) ?_;intro v44 en44 w hO2 hs
   rw [←mn,show iL s.sp (s.rs.take k)++[r]=iL s.sp (s.rs.take (k+1)) by rw [hsn,if_pos (hb35.1 (by simpa using hc35))]] at hO2
   obtain ⟨a44,l44,c44,rfl,-⟩:=hO2.shape
   refine .go ?_
   refine .z 9 rfl (zfa aI) ?_
   refine .E 10 hs ?_
   refine .store hs rfl rfl ib ?_;intro w hs
   refine .go ?_
   refine .D hs ?_
   refine nB (nT ?_)
   refine .region (.z zm (.z cH (.z zg (.nil ?_))))
   refine nT ?_
   exact ⟨(k+1,.slice a44 l44 c44),.cn rfl bQ a8,⟨by dsimp only;omega,_,hO2,hs.sb⟩,by dsimp only;omega⟩
  ·refine .skip ?_
   refine nB (nT ?_)
   refine .region (.z zm (.z cH (.z zg (.nil ?_))))
   refine nT ?_
   exact ⟨(k+1,.slice ao lo co),.cn rfl bQ a8,⟨by dsimp only;omega,en,by dsimp only;rw [hsn,if_neg (fun h=>by rw [hb35.2 h] at hc35;cases hc35)];exact hO,hs.sb⟩,by dsimp only;omega⟩
 ·refine .exit ?_
  refine xT (xT (xB (nT ?_)))
  refine .aj ?_
  obtain rfl:k=s.rs.length:=by omega
  rw [List.take_length] at hO
  refine .o (.buildSlice (cells:=[]) hs fT rfl rfl fun b46 w hs=>?_)
  refine .z zm (.z zm (.z cH ?_))
  refine .q hs (kM (k:=s.sp.many+1) rfl rfl ae ai rfl (by have:=(RS.len hx).2.1;omega)) ?_
  refine .o (.append (xs:=[]) (ys:=Is (x.take (s.sp.many+1))) hs bg rfl rfl (.full (len:=0) rfl) (.ints (RI.head (hx.mono hle1) (k:=s.sp.many+1) ak)) (dM _) (fun l h=>by simp at h;rw [List.length_take];omega) ?_);intro v51 en51 w hO3 hs
  rw [List.nil_append] at hO3
  refine .z zg (.nil (.aj (.z (zfa aI) (.y hs (zld aU) ?_))))
  have hkl:=um s.sp s.rs
  obtain ⟨H2,hle2,hRR,hs2,back⟩:=hO.yX (gd _) ak (by rw [cA];omega) (hs.sb:St H1 w (en::en51:: .blk b8 [I s.sp.id,I s.sp.src,.slice ast s.sp.st.length cst,.slice awa s.sp.wa.length cwa,I s.sp.al,I s.sp.up,.slice ao lo co,.slice ac lc cc]:: .blk b4 [I 0,I 0,.slice none 0 0,.slice none 0 0,I 0,I 0,.slice none 0 0,.slice none 0 0]:: .blk b2 [I s.sp.id,I s.sp.src,.slice ast s.sp.st.length cst,.slice awa s.sp.wa.length cwa,I s.sp.al,I s.sp.up,.slice ar s.rs.length cr,.slice ac lc cc]::σ))
  refine .o (.call lg rfl (ns (rs:=iL s.sp s.rs) hs2 hRR ak) ?_);rintro v54 w ⟨enT,hOT,hsT⟩
  have hs:=back (HLe.refl _) hsT
  have htl':=db (iL s.sp s.rs)
  obtain ⟨H3,hle3,hT3,hs⟩:=cz.cO (m:=2) (cs:=tdc (bw (iL s.sp s.rs))) hOT (kX _) ak (by rw [dI];omega) hs (.there .here)
  have hT3:RTd H3 v54 (bw (iL s.sp s.rs)):=hT3
  obtain ⟨a54,c54,rfl⟩:=RTd.shape hT3
  refine .z zg (.nil (.seq (.aj (.z zg (.nil (.block ?_))))))
  refine .loop (fun p:Nat×Value=>⟨78,[],[(12,I (p.1:Int)),(10,p.2),(11,.slice a54 (bw (iL s.sp s.rs)).length c54),(8,.pointer (some ⟨b8,0,none⟩)),(7,I (s.sp.many:Int)),(6,.slice at' (bw s.rs).length ct),(4,.pointer (some ⟨b4,0,none⟩)),(1,.slice ax x.length cx)]⟩)
   (fun p w=>p.1≤(bw (iL s.sp s.rs)).length∧∃en2,cz 1 p.2 (Is (x.take (s.sp.many+1)++((bw (iL s.sp s.rs)).take p.1).map (mY s x))) en2∧St H3 w (en2:: .blk b8 [I s.sp.id,I s.sp.src,.slice ast s.sp.st.length cst,.slice awa s.sp.wa.length cwa,I s.sp.al,I s.sp.up,.slice ao lo co,.slice ac lc cc]:: .blk b4 [I 0,I 0,.slice none 0 0,.slice none 0 0,I 0,I 0,.slice none 0 0,.slice none 0 0]::en::σ)) (fun p=>(bw (iL s.sp s.rs)).length - p.1) (0,v51) a8
   ⟨Nat.zero_le _,en51,by simpa using hO3,hs.sb⟩ ?_
  clear hs
  rintro ⟨j,vy⟩ w ⟨hj,en2,hO4,hs⟩
  dsimp only at hj hO4 hs ⊢
  obtain ⟨ay,ly,cy,rfl,-⟩:=hO4.shape
  refine .seq (.aj (.z zm (.z zm (.z (cN aT) (.z fD (.nil ?_))))))
  refine (.bJ rfl (fun hc58=>?_) (fun hc58=>?_))
  ·refine .skip ?_
   refine nT ?_
   refine .seq (.block (.region (.z zm (.z zm (.z zm (.z cH (.z zm (.z zm (.z zm ?_)))))))))
   obtain ⟨t,ht⟩:=nth (l:=bw (iL s.sp s.rs)) (k:=j) ak
   have htm:t∈s.bD:=DQ (List.mem_of_getElem? ht)
   obtain ⟨q,q1,q2,q3⟩:=eY htm
   have q3':q<(bw s.rs).length:=q3
   have q1':iI (bw s.rs) t=(q:Int):=q1
   have hnt:s.sys.n=s.sp.many+(bw s.rs).length+1:=hn
   have herr:mY s x t=gi x (s.sp.many+1+q):=by unfold mY;rw [q1,Int.toNat_natCast]
   refine .ixX (enc:=TD.c) hs hT3 rfl rfl aT bn ht cJ ?_;intro b68 o68 hc68
   refine .q hs (cj (vs:=t.c) rfl da bn hc68) ?_
   refine .o (.call xt rfl (gL (t:=t) hs (hT.mono hle3) ak) ?_);rintro _ w ⟨rfl,hs⟩
   rw [q1']
   refine .z cH ?_
   refine .ixY hs (hx.mono (hle1.trans hle3)) rfl rfl ae ai (bE (l:=x) (i:=s.sp.many+1+q) ak) ak ?_;intro b72 o72 hc72
   refine .q hs (aO rfl af hc72) ?_
   refine .o (.buildSlice (cells:=[_]) hs bX rfl rfl fun b74 w hs=>?_)
   refine .o (.append (ys:=Is [gi x (s.sp.many+1+q)]) hs bg rfl rfl hO4 (.own .here rfl rfl) (dM _) (fun l' h=>by simp at h;omega) ?_);intro v75 en75 w hO5 hs
   rw [←List.map_append,List.append_assoc,←herr,show ((bw (iL s.sp s.rs)).take j).map (mY s x)++[mY s x t]=((bw (iL s.sp s.rs)).take (j+1)).map (mY s x) by rw [df ht];simp] at hO5
   obtain ⟨a75,l75,c75,rfl,-⟩:=hO5.shape
   refine .z zg (.nil ?_)
   refine nB (nT ?_)
   refine .region (.z zm (.z cH (.z zg (.nil ?_))))
   refine nT ?_
   exact ⟨(j+1,.slice a75 l75 c75),.cn rfl bQ a8,⟨by dsimp only;omega,_,hO5,hs.sb⟩,by dsimp only;omega⟩
  ·refine .exit ?_
   refine xT (xT (xB (nT ?_)))
   refine .aj (.y hs (zls [_,_,_,_,_,_,_,_] aD az) (.z zm ?_))
   refine .o (.aZ (vs:=[_,_,_,_,_,_,_,_]) hs rfl rfl az fun w hs=>?_)
   refine .z zg (.nil ?_)
   refine .ret ?_
   obtain rfl:j=(bw (iL s.sp s.rs)).length:=by omega
   rw [List.take_length] at hO4
   exact Fin.gR [] [] hs fun w hs=>⟨_,results2 Tryz.results144 (dv (vs:=[_,_,_,_,_,_,_,_]) hs rfl aD az) rfl,H3,_,_,en,en2,hle1.trans hle3,rfl,hO,hO4,hs.sb⟩
theorem AM{s:Spc}{rs R:List Rdg}{cs:List Cmp}{x:List Int}(hf:ia (Srv.oD ⟨s,rs,cs⟩).dG (gi x))(hx0:gi x 0=0)(hxl:x.length=s.many+(bw rs).length+1)(ht:bw R=bw rs)(hS:∀r∈R,RdS s r)(hR:∀r∈R,Cx s (bw rs) x r):
  yv ⟨s,iL s R,cs⟩ (Gh ⟨s,R,cs⟩ x):=by
 have hl:(x.take (s.many+1)).length=s.many+1:=by rw [List.length_take];omega
 refine B1 (R:=R) (x:=x) List.filter_sublist hS hx0 (Cc hf ht hR) ?_ (fun b hb=>?_) fun j hj=>?_
 ·show (x.take (s.many+1)++(bw (iL s R)).map (mY ⟨s,R,cs⟩ x)).length=_
  rw [List.length_append,hl,List.length_map]
 ·show gi (x.take (s.many+1)++(bw (iL s R)).map (mY ⟨s,R,cs⟩ x)) b=_
  unfold gi
  simp only [List.getD]
  rw [List.getElem?_append_left ak,List.getElem?_take_of_lt ak]
 ·show gi (x.take (s.many+1)++(bw (iL s R)).map (mY ⟨s,R,cs⟩ x)) (s.many+1+j)=_
  have e:∀t,(bw (iL s R))[j]? =some t→gi (x.take (s.many+1)++(bw (iL s R)).map (mY ⟨s,R,cs⟩ x)) (s.many+1+j)=mY ⟨s,R,cs⟩ x t:=fun t ht=>by
   unfold gi
   simp only [List.getD]
   rw [List.getElem?_append_right ak,hl,show s.many+1+j - (s.many+1)=j by omega,List.getElem?_map,ht]
   rfl
  rw [e _ (yH hj)];rfl
set_option maxHeartbeats 2000000 in
theorem oQ{vs v5 v4 vp:Value}{sl pk:List Int}{fs5:List F5}{fs4:List F4}{z1 z2 z3:Int}(hs:St H w σ)(g1:RI H vs sl)(g2:RF5 H v5 fs5)(g3:RF4 H v4 fs4)(g4:RI H vp pk):
  Cl Tryz.prog 60 [.agg #[vs,v5,v4,vp,I z1,I z2,I z3]] w fun u w'=>∃H1 s y vst vwa vr vc vy e1 e2 e3 e4 e5,HLe H H1∧u= .tuple #[.agg #[I s.sp.id,I s.sp.src,vst,vwa,I s.sp.al,I s.sp.up,vr,vc],vy]∧G5 s∧Cy s vst vwa vr vc e1 e2 e3 e4∧cz 1 vy (Is y) e5∧yv s y∧St H1 w' (e1::e2::e3::e4::e5::σ):=by
 obtain ⟨avs,cvs,rfl⟩:=RI.shape g1
 obtain ⟨av5,cv5,rfl⟩:=g2.shape
 obtain ⟨av4,cv4,rfl⟩:=g3.shape
 obtain ⟨avp,cvp,rfl⟩:=RI.shape g4
 refine Cl.o Tryz.func60 Tryz.ntmps60 ag1 ?_
 refine .aj ?_
 refine .bx hs fun b1 w hs=>?_
 refine .o (.alloc hs ck rfl fun b2 w hs=>?_)
 refine .z zg (.nil (.aj (.z (zfa nL) (.y hs (zld an) ?_))))
 refine .o (.call Tryz.call35 rfl (po hs g1) ?_);rintro _ w ⟨s,vst,vwa,e1,e2,rfl,hSp,hO1,hO2,hs⟩
 have hSt:=hSp.st
 have hWa:=hSp.wa
 have hSt2:=hSp.ok.st.two
 have hWa2:=hSp.ok.wa.two
 obtain ⟨ast,lst,cst,rfl,hlst⟩:=hO1.shape
 obtain ⟨awa,lwa,cwa,rfl,hlwa⟩:=hO2.shape
 obtain rfl:s.st.length=lst:=by simpa [Is] using hlst
 obtain rfl:s.wa.length=lwa:=by simpa [Is] using hlwa
 refine .z (zbd [_,_,_,_,_,_,_,_] eo) ?_
 refine .o (.alloc hs ck rfl fun b4 w hs=>?_)
 refine .o (.aZ (vs:=[_,_,_,_,_,_,_,_]) hs rfl rfl az fun w hs=>?_)
 refine .nil (.aj (.z (zfa aJ) (.y hs (zls [_,_,_,_,_,_] aF aB) ?_)))
 refine .o (.alloc hs gh rfl fun b5 w hs=>?_)
 refine .o (.aZ (vs:=[_,_,_,_,_,_]) hs rfl rfl aB fun w hs=>?_)
 refine .nil ?_
 refine .cut (fun fs w=>∃rs e3 ar cr,kB fs ⟨208,[],[(5,.pointer (some ⟨b5,0,none⟩)),(4,.pointer (some ⟨b4,0,none⟩)),(2,.pointer (some ⟨b2,0,none⟩)),(1,.pointer (some ⟨b1,0,none⟩))]⟩∧rs.length≤14∧rs.length≤fs5.length∧(∀r∈rs,iM s r)∧cz 7 (.slice ar rs.length cr) (rdc rs).flatten e3∧St H w (e3:: .blk b5 [I s.id,I s.src,.slice ast s.st.length cst,.slice awa s.wa.length cwa,I s.al,I s.up]:: .blk b4 [I s.id,I s.src,.slice ast s.st.length cst,.slice awa s.wa.length cwa,I s.al,I s.up,.slice ar rs.length cr,.slice none 0 0]::e1::e2:: .blk b2 [I 0,I 0,.slice none 0 0,.slice none 0 0,I 0,I 0,.slice none 0 0,.slice none 0 0]:: .blk b1 [.slice avs sl.length cvs,.slice av5 fs5.length cv5,.slice av4 fs4.length cv4,.slice avp pk.length cvp,I z1,I z2,I z3]::σ)) ?_ ?_
 ·refine .aj (.z zg (.nil (.block ?_)))
  refine .loop (fun p:List Rdg×Option Addr×Nat=>⟨208,[],[(6,I (p.1.length:Int)),(5,.pointer (some ⟨b5,0,none⟩)),(4,.pointer (some ⟨b4,0,none⟩)),(2,.pointer (some ⟨b2,0,none⟩)),(1,.pointer (some ⟨b1,0,none⟩))]⟩)
   (fun p w=>p.1.length≤14∧p.1.length≤fs5.length∧(∀r∈p.1,iM s r)∧∃e3,cz 7 (.slice p.2.1 p.1.length p.2.2) (rdc p.1).flatten e3∧
    St H w (e3:: .blk b5 [I s.id,I s.src,.slice ast s.st.length cst,.slice awa s.wa.length cwa,I s.al,I s.up]:: .blk b4 [I s.id,I s.src,.slice ast s.st.length cst,.slice awa s.wa.length cwa,I s.al,I s.up,.slice p.2.1 p.1.length p.2.2,.slice none 0 0]::e1::e2:: .blk b2 [I 0,I 0,.slice none 0 0,.slice none 0 0,I 0,I 0,.slice none 0 0,.slice none 0 0]:: .blk b1 [.slice avs sl.length cvs,.slice av5 fs5.length cv5,.slice av4 fs4.length cv4,.slice avp pk.length cvp,I z1,I z2,I z3]::σ)) (fun p=>14 - p.1.length) ([],none,0) a8
   ⟨bQ,bQ,bQ,_,.nil 7 none,(hs.sb).nul⟩ ?_
  clear hs
  rintro ⟨rs,ar,cr⟩ w ⟨hr14,hrf,hrok,e3,hO3,hs⟩
  dsimp only at hr14 hrf hrok hO3 hs ⊢
  refine .seq (.aj (.z zm (.z (zfa iq) (.y hs (zld Tryz.isAgg23) (.z (cN Tryz.runUnderlying23) (.z fD (.z zm ?_)))))))
  refine .iB (t':=31) rfl (fun hb31=>?_) (fun hb31=>?_)
  ·refine .gT rfl rfl ?_
   refine .z zm ?_
   refine .gT rfl rfl ?_
   refine .z fD (.z zpT (.nil ?_))
   refine (.bJ rfl (fun hc34=>?_) (fun hc34=>?_))
   ·refine .skip ?_
    refine nT ?_
    refine .seq (.block (.aj (.z (zfa iq) (.y hs (zld Tryz.isAgg23) (.z zm ?_)))))
    obtain ⟨n,hn⟩:=nth (l:=fs5) (k:=rs.length) ak
    refine .ixX (enc:=F5.v) hs g2 rfl rfl Tryz.runUnderlying23 vu hn cJ ?_;intro b40 o40 hc40
    refine .q hs (cj (vs:=n.v) rfl Tryz.isAgg106 vu hc40) ?_
    refine .o (.alloc hs Tryz.zeroValue106 rfl fun b7 w hs=>?_)
    refine .o (.aZ (vs:=[_,_,_,_,_]) hs rfl rfl vu fun w hs=>?_)
    refine .nil ?_
    refine .seq (.draw mix rfl hs fun w hs=>?_)
    refine .z 0 rfl (zia 4 iG ai) ?_
    refine .y 1 rfl hs af ?_
    refine .z 3 rfl (zia 4 iG ai) ?_
    refine .y 4 rfl hs af ?_;refine .z 5 rfl FH ?_
    refine .E 2 hs ?_
    refine .call di rfl (bP hs ak) ?_;rintro _ w ⟨k44,g44,rfl,hs⟩
    refine .go ?_
    refine .E 6 hs ?_
    refine .call di rfl (bP hs ak) ?_;rintro _ w ⟨k48,g48,rfl,hs⟩
    have m49:0≤(k44:Int)*(k48:Int)∧(k44:Int)*(k48:Int)≤39:=by
     have e1:k48=0∨k48=1:=by omega
     rcases e1 with rfl|rfl<;>simp<;>omega
    refine .go ?_
    refine .z 7 rfl ki ?_;refine .z 8 rfl zg ?_;refine .D hs ?_
    refine .draw mix rfl hs fun w hs=>?_
    refine .z 0 rfl (zfa aI) ?_;refine .y 1 rfl hs aU ?_;refine .z 2 rfl zm ?_;refine .z 3 rfl cH ?_
    refine .z 4 rfl (zia 0 iG ai) ?_
    refine .y 5 rfl hs af ?_;refine .z 6 rfl (zfa bj) ?_;refine .y 7 rfl hs an ?_;refine .z 8 rfl (cN ae) ?_
    refine .z 10 rfl (zia 1 iG ai) ?_
    refine .y 11 rfl hs af ?_;refine .z 12 rfl (zfa aS) ?_;refine .y 13 rfl hs an ?_;refine .z 14 rfl (cN ae) ?_;refine .z 16 rfl zm ?_
    refine .z 17 rfl (zia 2 iG ai) ?_
    refine .y 18 rfl hs af ?_
    refine .z 21 rfl (zia 3 iG ai) ?_
    refine .y 22 rfl hs af ?_
    refine .E 9 hs ?_
    refine .call di rfl (bP hs ak) ?_;rintro _ w ⟨k59,g59,rfl,hs⟩
    refine .go ?_
    refine .E 15 hs ?_
    refine .call di rfl (bP hs ak) ?_;rintro _ w ⟨k65,g65,rfl,hs⟩
    refine .go ?_
    refine .E 19 hs ?_
    refine .call di rfl (bP hs ak) ?_;rintro _ w ⟨k69,g69,rfl,hs⟩
    refine .go ?_
    refine .z 20 rfl cH ?_
    refine .E 23 hs ?_
    refine .call di rfl (bP hs ak) ?_;rintro _ w ⟨k73,g73,rfl,hs⟩
    obtain ⟨r,hr⟩:∃r:Rdg,r=⟨10+(rs.length:Int),(k59:Int),(k65:Int),0,(k44:Int)*(k48:Int),1+(k69:Int),(k73:Int)⟩:=⟨_,rfl⟩
    have hrOk:iM s r:=by subst hr;exact ⟨by dsimp only;omega,by dsimp only;omega,by dsimp only;omega,by dsimp only;omega,by dsimp only;omega,by dsimp only;omega,by dsimp only;omega⟩
    refine .go ?_
    refine .z 24 rfl (zbd [_,_,_,_,_,_,_] fH) ?_
    refine .E 25 hs ?_
    refine .buildSlice (cells:=r.c) hs dZ rfl (by subst hr;kernel_rfl) ?_;intro b75 w hs
    refine .go ?_
    refine .E 26 hs ?_
    refine .append (ys:=r.c) hs bH rfl rfl hO3 (.own .here rfl rfl) (by simp [Rdg.c,Value.oneCell']) (fun l' h=>by rw [cu _ (gd _),cA] at h;omega) ?_;intro v76 en76 w hO4 hs
    rw [←mn] at hO4
    obtain ⟨a76,c76,rfl⟩:=hO4.fM (gd _) ak
    rw [cA] at hO4 ⊢
    refine .go ?_
    refine .z 27 rfl (zfa aI) ?_
    refine .E 28 hs ?_
    refine .store hs rfl rfl ib ?_;intro w hs
    refine .go ?_
    refine .D hs ?_
    refine nB (nT ?_)
    refine .region (.z zm (.z cH (.z zg (.nil ?_))))
    refine nT ?_
    exact ⟨(rs++[r],a76,c76),.cn rfl bQ a8,⟨by simp;omega,by simp;omega,fun q hq=>by
      simp only [List.mem_append,List.mem_singleton] at hq
      rcases hq with hq|rfl
      ·exact hrok q hq
      ·exact hrOk,_,hO4,hs.sb⟩,by simp;omega⟩
   ·refine .exit ?_
    refine xT (xT (xB (nT ?_)))
    exact ⟨rs,e3,ar,cr,a8,hr14,hrf,hrok,hO3,hs⟩
  ·refine .gFs 2 5 true rfl rfl rfl ?_
   refine .z zpF (.nil ?_)
   refine (.cF ?_)
   refine .exit ?_
   refine xT (xT (xB (nT ?_)))
   exact ⟨rs,e3,ar,cr,a8,hr14,hrf,hrok,hO3,hs⟩
 ·clear hs
  rintro fs w ⟨rs,e3,ar,cr,hfs,hr14,hrf,hrok,hO3,hs⟩
  refine WE.sub ?_ hfs
  clear hfs
  refine .cut (fun fs w=>∃cs e4 ac cc,kB fs ⟨208,[],[(5,.pointer (some ⟨b5,0,none⟩)),(4,.pointer (some ⟨b4,0,none⟩)),(2,.pointer (some ⟨b2,0,none⟩)),(1,.pointer (some ⟨b1,0,none⟩))]⟩∧cs.length≤5∧(∀c∈cs,oJ c)∧(Srv.oD ⟨s,rs,cs⟩).Sound∧cz 6 (.slice ac cs.length cc) (cmc cs).flatten e4∧St H w (e1::e2::e3::e4:: .blk b5 [I s.id,I s.src,.slice ast s.st.length cst,.slice awa s.wa.length cwa,I s.al,I s.up]:: .blk b4 [I s.id,I s.src,.slice ast s.st.length cst,.slice awa s.wa.length cwa,I s.al,I s.up,.slice ar rs.length cr,.slice ac cs.length cc]:: .blk b2 [I 0,I 0,.slice none 0 0,.slice none 0 0,I 0,I 0,.slice none 0 0,.slice none 0 0]:: .blk b1 [.slice avs sl.length cvs,.slice av5 fs5.length cv5,.slice av4 fs4.length cv4,.slice avp pk.length cvp,I z1,I z2,I z3]::σ)) ?_ ?_
  ·refine .aj (.z zg (.nil (.block ?_)))
   refine .loop (fun p:Nat×List Cmp×Option Addr×Nat=>⟨208,[],[(9,I (p.1:Int)),(5,.pointer (some ⟨b5,0,none⟩)),(4,.pointer (some ⟨b4,0,none⟩)),(2,.pointer (some ⟨b2,0,none⟩)),(1,.pointer (some ⟨b1,0,none⟩))]⟩)
    (fun p w=>p.1≤5∧p.1≤fs4.length∧p.2.1.length≤p.1∧(∀c∈p.2.1,oJ c)∧(Srv.oD ⟨s,rs,p.2.1⟩).Sound∧∃e4,cz 6 (.slice p.2.2.1 p.2.1.length p.2.2.2) (cmc p.2.1).flatten e4∧
     St H w (e1::e2::e3::e4:: .blk b5 [I s.id,I s.src,.slice ast s.st.length cst,.slice awa s.wa.length cwa,I s.al,I s.up]:: .blk b4 [I s.id,I s.src,.slice ast s.st.length cst,.slice awa s.wa.length cwa,I s.al,I s.up,.slice ar rs.length cr,.slice p.2.2.1 p.2.1.length p.2.2.2]:: .blk b2 [I 0,I 0,.slice none 0 0,.slice none 0 0,I 0,I 0,.slice none 0 0,.slice none 0 0]:: .blk b1 [.slice avs sl.length cvs,.slice av5 fs5.length cv5,.slice av4 fs4.length cv4,.slice avp pk.length cvp,I z1,I z2,I z3]::σ)) (fun p=>5 - p.1) (0,[],none,0) a8
    ⟨bQ,bQ,bQ,bQ,Cd (wI hSp.ok hSt hWa hr14 bQ hrok bQ) rfl,.nul,.nil 6 none,(hs.nul).sb⟩ ?_
   clear hs
   rintro ⟨k,cs,ac,cc⟩ w ⟨hk5,hkf,hck,hcok,hsd,e4,hO4,hs⟩
   dsimp only at hk5 hkf hck hcok hsd hO4 hs ⊢
   refine .seq (.aj (.z zm (.z (zfa j6) (.y hs (zld Tryz.isAgg24) (.z (cN Tryz.runUnderlying24) (.z fD (.z zm ?_)))))))
   refine .iB (t':=83) rfl (fun hb83=>?_) (fun hb83=>?_)
   ·refine .gT rfl rfl ?_
    refine .z zm ?_
    refine .gT rfl rfl ?_
    refine .z fD (.z zpT (.nil ?_))
    refine (.bJ rfl (fun hc86=>?_) (fun hc86=>?_))
    ·refine .skip ?_
     refine nT ?_
     refine .seq (.block (.aj (.z (zfa j6) (.y hs (zld Tryz.isAgg24) (.z zm ?_)))))
     obtain ⟨n,hn⟩:=nth (l:=fs4) (k:=k) ak
     refine .ixX (enc:=F4.v) hs g3 rfl rfl Tryz.runUnderlying24 Tryz.sizeOf199 hn cJ ?_;intro b92 o92 hc92
     refine .q hs (cj (vs:=n.v) rfl Tryz.isAgg199 Tryz.sizeOf199 hc92) ?_
     refine .o (.alloc hs Tryz.zeroValue199 rfl fun b10 w hs=>?_)
     refine .o (.aZ (vs:=[_,_,_,_]) hs rfl rfl Tryz.sizeOf199 fun w hs=>?_)
     refine .nil (.aj ?_)
     refine .z (zia 1 pP ai) ?_
     refine .y hs (zld af) ?_
     refine .o (.call di rfl (bP hs ak) ?_);rintro _ w ⟨k96,g96,rfl,hs⟩
     refine .z gO (.z zg (.nil (.aj ?_)))
     refine .z (zia 3 pP ai) ?_
     refine .y hs (zld af) ?_
     refine .o (.call di rfl (bP hs ak) ?_);rintro _ w ⟨k100,g100,rfl,hs⟩
     refine .z zg (.nil ?_)
     refine .seq (.draw mix rfl hs fun w hs=>?_)
     refine .z 0 rfl (zfa bq) ?_;refine .y 1 rfl hs cB ?_;refine .z 2 rfl zm ?_;refine .z 3 rfl cH ?_
     refine .z 4 rfl (zia 0 pP ai) ?_
     refine .y 5 rfl hs af ?_;refine .z 8 rfl zm ?_;refine .z 9 rfl zm ?_
     refine .z 10 rfl (zia 3 pP ai) ?_
     refine .y 11 rfl hs af ?_;refine .z 12 rfl FH ?_;refine .z 15 rfl zm ?_;refine .z 16 rfl zm ?_
     refine .z 17 rfl (zia 2 pP ai) ?_
     refine .y 18 rfl hs af ?_
     refine .E 6 hs ?_
     refine .call di rfl (bP hs ak) ?_;rintro _ w ⟨k107,g107,rfl,hs⟩
     refine .go ?_
     refine .z 7 rfl cH ?_
     refine .E 13 hs ?_
     refine .call di rfl (bP hs ak) ?_;rintro _ w ⟨k114,g114,rfl,hs⟩
     refine .go ?_
     refine .z 14 rfl cH ?_
     refine .E 19 hs ?_
     refine .call di rfl (bP hs ak) ?_;rintro _ w ⟨k120,g120,rfl,hs⟩
     obtain ⟨c,hc⟩:∃c:Cmp,c=⟨30+(k:Int),1+(k107:Int),(k100:Int),(k100:Int)+(k114:Int),(k96:Int) - 40,(k96:Int) - 40+(k120:Int)⟩:=⟨_,rfl⟩
     have hcOk:oJ c:=by subst hc;exact ⟨by dsimp only;omega,by dsimp only;omega,by dsimp only;omega,by dsimp only;omega,by dsimp only;omega,by dsimp only;omega⟩
     refine .go ?_
     refine .z 20 rfl cH ?_;refine .z 21 rfl (zbd [_,_,_,_,_,_] nP) ?_
     refine .E 22 hs ?_
     refine .buildSlice (cells:=c.c) hs kn rfl (by subst hc;kernel_rfl) ?_;intro b123 w hs
     refine .go ?_
     refine .E 23 hs ?_
     refine .append (ys:=c.c) hs dH rfl rfl hO4 (.own .here rfl rfl) (by simp [Cmp.c,Value.oneCell']) (fun l' h=>by rw [cu _ (lK _),dY] at h;omega) ?_;intro v124 en124 w hO5 hs
     rw [←Al] at hO5
     obtain ⟨a124,c124,rfl⟩:=hO5.fM (lK _) ak
     rw [dY] at hO5 ⊢
     have hcl:(cs++[c]).length=cs.length+1:=by simp
     have hcok':∀d∈cs++[c],oJ d:=fun d hd=>by
      simp only [List.mem_append,List.mem_singleton] at hd
      rcases hd with hd|rfl
      ·exact hcok d hd
      ·exact hcOk
     have hsok:eD ⟨s,rs,cs++[c]⟩:=wI hSp.ok hSt hWa hr14 ak hrok hcok'
     refine .go ?_
     refine .z 24 rfl (zfa bq) ?_
     refine .E 25 hs ?_
     refine .store hs rfl rfl FD ?_;intro w hs
     refine .go ?_
     refine .D hs ?_
     refine .aj (.y hs (zls [_,_,_,_,_,_,_,_] aD az) ?_)
     obtain ⟨Hx,hlex,r1,r2,r3,r4,hs2,back⟩:=Cy.yX (s:=⟨s,rs,cs++[c]⟩) ⟨hO1,hO2,hO3,hO5⟩ (by show s.st.length≤_;omega) (by show s.wa.length≤_;omega) (by show rs.length≤_;omega) (by show (cs++[c]).length≤_;omega) (hs.sb:St H w (e1::e2::e3::en124:: .blk b5 [I s.id,I s.src,.slice ast s.st.length cst,.slice awa s.wa.length cwa,I s.al,I s.up]:: .blk b4 [I s.id,I s.src,.slice ast s.st.length cst,.slice awa s.wa.length cwa,I s.al,I s.up,.slice ar rs.length cr,.slice a124 (cs++[c]).length c124]:: .blk b2 [I 0,I 0,.slice none 0 0,.slice none 0 0,I 0,I 0,.slice none 0 0,.slice none 0 0]:: .blk b1 [.slice avs sl.length cvs,.slice av5 fs5.length cv5,.slice av4 fs4.length cv4,.slice avp pk.length cvp,I z1,I z2,I z3]::σ))
     refine .o (.call Tryz.call142 rfl (tM (s:=⟨s,rs,cs++[c]⟩) hs2 r1 r2 r3 r4 hsok.early (y0 hsok)) ?_);rintro _ w ⟨Hy,b127,hley,rfl,hb127,hs3⟩
     have hs:=back hley hs3
     clear hs2 hs3 back
     refine .nil ?_
     refine (.cond rfl (fun hc127=>?_) (fun hc127=>?_))
     ·refine .region (.z (zfa bq) (.y hs (zld cB) (.z (zfa bq) (.y hs (zld cB) (.z (cN aN) (.z gO ?_))))))
      refine .q hs (kM (k:=cs.length) rfl rfl aN bB ak (by have:=hO5.le;omega)) ?_
      refine .z (zfa bq) ?_
      refine .o (.store hs rfl rfl FD fun w hs=>?_)
      refine .nil ?_
      refine nB (nT ?_)
      refine .region (.z zm (.z cH (.z zg (.nil ?_))))
      refine nT ?_
      exact ⟨(k+1,cs,a124,c124),.cn rfl bQ a8,⟨by dsimp only;omega,by dsimp only;omega,by dsimp only;omega,hcok,hsd,_,hO5.Ff,hs.sb⟩,by dsimp only;omega⟩
     ·refine .skip ?_
      refine nB (nT ?_)
      refine .region (.z zm (.z cH (.z zg (.nil ?_))))
      refine nT ?_
      exact ⟨(k+1,cs++[c],a124,c124),.cn rfl bQ a8,⟨by dsimp only;omega,by dsimp only;omega,by dsimp only;omega,hcok',hb127 (by simpa using hc127),_,hO5,hs.sb⟩,by dsimp only;omega⟩
    ·refine .exit ?_
     refine xT (xT (xB (nT ?_)))
     exact ⟨cs,e4,ac,cc,a8,ak,hcok,hsd,hO4,hs⟩
   ·refine .gFs 2 5 true rfl rfl rfl ?_
    refine .z zpF (.nil ?_)
    refine (.cF ?_)
    refine .exit ?_
    refine xT (xT (xB (nT ?_)))
    exact ⟨cs,e4,ac,cc,a8,ak,hcok,hsd,hO4,hs⟩
  ·clear hs
   rintro fs w ⟨cs,e4,ac,cc,hfs,hc5,hcok,hsd,hO4,hs⟩
   refine WE.sub ?_ hfs
   clear hfs
   have hsok:eD ⟨s,rs,cs⟩:=wI hSp.ok hSt hWa hr14 hc5 hrok hcok
   refine .aj (.y hs (zls [_,_,_,_,_,_,_,_] aD az) (.z (zfa nK) (.y hs (zld an) ?_)))
   obtain ⟨Hx,hlex,r1,r2,r3,r4,hs2,back⟩:=Cy.yX (s:=⟨s,rs,cs⟩) ⟨hO1,hO2,hO3,hO4⟩ (by show s.st.length≤_;omega) (by show s.wa.length≤_;omega) (by show rs.length≤_;omega) (by show cs.length≤_;omega) hs
   refine .o (.call Tryz.call143 rfl (tL (s:=⟨s,rs,cs⟩) hs2 r1 r2 r3 r4 (g4.mono hlex) hsok.early ⟨y0 hsok,hsd⟩) ?_);rintro v139 w ⟨Hy,x,ex,hley,hOx,hP,hs3⟩
   have hs:=back hley hs3
   clear hs2 hs3 back r1 r2 r3 r4
   obtain ⟨hxl,hx0,hxb,hfe⟩:=hP.xm (y0 hsok) hsd
   have hsm:=hsok.many
   have hfn:(Srv.oD ⟨s,rs,cs⟩).n=s.many+(bw rs).length+1:=rj ⟨s,rs,cs⟩
   have hxl:x.length=s.many+(bw rs).length+1:=by rw [hxl];exact hfn
   rw [hfn] at hxb
   have hsm:s.many+(bw rs).length≤64:=hsm
   obtain ⟨Hz,hlez,hX,hs⟩:=cz.cK hOx ak hs cU
   obtain ⟨ax,cx,rfl⟩:=RI.shape hX
   refine .z zg (.nil (.seq (.aj (.z zg (.nil (.block ?_))))))
   refine .loop (fun p:Nat×List Rdg=>⟨208,[],[(14,I (p.1:Int)),(13,.slice ax x.length cx),(5,.pointer (some ⟨b5,0,none⟩)),(4,.pointer (some ⟨b4,0,none⟩)),(2,.pointer (some ⟨b2,0,none⟩)),(1,.pointer (some ⟨b1,0,none⟩))]⟩)
    (fun p w=>p.1≤rs.length∧p.2.length=rs.length∧bw p.2=bw rs∧(∀r∈p.2,RdS s r)∧(∀j<p.1,∀r,p.2[j]? =some r→Cx s (bw rs) x r)∧∃e3,cz 7 (.slice ar rs.length cr) (rdc p.2).flatten e3∧
     St Hz w (e1::e2::e3::e4:: .blk b5 [I s.id,I s.src,.slice ast s.st.length cst,.slice awa s.wa.length cwa,I s.al,I s.up]:: .blk b4 [I s.id,I s.src,.slice ast s.st.length cst,.slice awa s.wa.length cwa,I s.al,I s.up,.slice ar rs.length cr,.slice ac cs.length cc]:: .blk b2 [I 0,I 0,.slice none 0 0,.slice none 0 0,I 0,I 0,.slice none 0 0,.slice none 0 0]:: .blk b1 [.slice avs sl.length cvs,.slice av5 fs5.length cv5,.slice av4 fs4.length cv4,.slice avp pk.length cvp,I z1,I z2,I z3]::σ)) (fun p=>rs.length - p.1) (0,rs) a8
    ⟨bQ,rfl,rfl,fun r hr=>⟨(hrok r hr).st,(hrok r hr).wa,(hrok r hr).tol⟩,fun j hj=>by omega,e3,hO3,hs⟩ ?_
   clear hs hO3
   rintro ⟨k,R⟩ w ⟨hk,hRl,hRt,hRs,hRv,e3,hO3,hs⟩
   dsimp only at hk hRl hRt hRs hRv hO3 hs ⊢
   refine .seq (.aj (.z zm (.z (zfa aI) (.y hs (zld aU) (.z (cN aA) (.z fD (.nil ?_)))))))
   refine (.bJ rfl (fun hc144=>?_) (fun hc144=>?_))
   ·refine .skip ?_
    refine nT ?_
    refine .seq (.block (.aj (.z (zfa iq) (.y hs (zld Tryz.isAgg23) (.z zm ?_)))))
    obtain ⟨n,hn⟩:=nth (l:=fs5) (k:=k) ak
    obtain ⟨r,hr⟩:=nth (l:=R) (k:=k) ak
    have hrS:=hRs r (List.mem_of_getElem? hr)
    obtain ⟨u,hu1,hu2⟩:=hrS.u
    have hrst:=hrS.st
    have hrwa:=hrS.wa
    have hrtol:=hrS.tol
    have hmem:r.td∈bw R:=gJ.2 ⟨r,List.mem_of_getElem? hr,rfl⟩
    obtain ⟨q,q1,q2,q3⟩:=eY hmem
    rw [hRt] at q3
    have hb1:=hxb u ak
    have hb2:=hxb (s.many+1+q) ak
    obtain ⟨bo,co,sp,hv,rfl,hcap⟩:=hO3.Fx (gd _) ak (by rw [cA];omega)
    simp only [Value.slice.injEq] at hv
    obtain ⟨rfl,hv2,rfl⟩:=hv
    obtain ⟨Hx,hlex,r1,r2,r3,r4,hs2,back⟩:=Cy.yX (s:=⟨s,R,cs⟩) ⟨hO1,hO2,hO3,hO4⟩ (by show s.st.length≤_;omega) (by show s.wa.length≤_;omega) (by show R.length≤_;omega) (by show cs.length≤_;omega) hs
    clear hs
    have hs:=hs2
    clear hs2
    refine .ixX (enc:=F5.v) hs (g2.mono (hlez.trans hlex)) rfl rfl Tryz.runUnderlying23 vu hn cJ ?_;intro b150 o150 hc150
    refine .q hs (cj (vs:=n.v) rfl Tryz.isAgg106 vu hc150) ?_
    refine .o (.alloc hs Tryz.zeroValue106 rfl fun b15 w hs=>?_)
    refine .o (.aZ (vs:=[_,_,_,_,_]) hs rfl rfl vu fun w hs=>?_)
    refine .nil (.aj (.z (zfa aI) (.y hs (zld aU) (.z zm ?_))))
    refine .ixX (enc:=Rdg.c) hs r3 rfl rfl aA aE hr cJ ?_;intro b155 o155 hc155
    refine .q hs (cj (vs:=r.c) rfl bZ aE hc155) ?_
    refine .o (.alloc hs eE rfl fun b16 w hs=>?_)
    refine .o (.aZ (vs:=[_,_,_,_,_,_,_]) hs rfl rfl aE fun w hs=>?_)
    refine .nil (.aj (.y hs (zls [_,_,_,_,_,_] aF aB) (.z (zfa eO) (.y hs (zld af) (.z (zfa eN) (.y hs (zld af) ?_))))))
    refine .o (.call fL rfl (cP (s:=s) hs r2 ak ak ak) ?_);rintro _ w ⟨rfl,hs⟩
    rw [hu1]
    refine .z zg (.nil ?_)
    refine .seq (.draw mix rfl hs fun w hs=>?_)
    refine .ys 0 rfl hs [_,_,_,_,_,_] aF aB ?_;refine .z 3 rfl (zfa aI) ?_;refine .y 4 rfl hs aU ?_;refine .z 6 rfl (zfa ez) ?_;refine .y 7 rfl hs af ?_;refine .z 8 rfl (zfa ew) ?_;refine .y 9 rfl hs af ?_;refine .z 10 rfl (zbd [_,_] fG) ?_
    refine .E 1 hs ?_
    refine .call m7 rfl (dQ (s:=s) hs r1 r2 ⟨ak,ak⟩) ?_;rintro _ w ⟨rfl,hs⟩
    refine .go ?_
    refine .z 2 rfl cH ?_
    refine .E 5 hs ?_
    refine .call lg rfl (eL (rs:=R) hs r3 ak) ?_;rintro v168 w ⟨Hw,hlew,hT,hs⟩
    refine .go ?_
    refine .E 11 hs ?_
    refine .call xt rfl (gL (t:=r.td) hs hT (by rw [hRt];omega)) ?_;rintro _ w ⟨rfl,hs⟩
    rw [q1]
    refine .go ?_
    refine .z 12 rfl cH ?_;refine .z 13 rfl zg ?_;refine .D hs ?_
    refine .seq (.draw mix rfl hs fun w hs=>?_)
    refine .z 0 rfl (zia 4 iG ai) ?_
    refine .y 1 rfl hs af ?_;refine .z 2 rfl FH ?_;refine .z 3 rfl (zfa cf) ?_;refine .y 4 rfl hs af ?_;refine .z 5 rfl ki ?_;refine .z 6 rfl cH ?_;refine .z 8 rfl (zfa cf) ?_;refine .y 9 rfl hs af ?_
    refine .E 7 hs ?_
    refine .call di rfl (bP hs ak) ?_;rintro _ w ⟨k183,g183,rfl,hs⟩
    refine .go ?_
    refine .z 10 rfl gO ?_;refine .z 11 rfl zg ?_;refine .D hs ?_
    refine .draw mix rfl hs fun w hs=>?_
    refine .z 0 rfl (zfa aI) ?_;refine .y 1 rfl hs aU ?_;refine .z 2 rfl zm ?_;refine .z 3 rfl zm ?_;refine .z 4 rfl zm ?_
    have hs:=back hlew hs
    refine .ixX (enc:=fun x=>[I x]) (i:=5) hs rfl aq .none hX rfl rfl ae ai (bE (l:=x) (i:=u) ak) rfl ?_;intro b192 o192 hc192;replace hc192:=bI.one hc192
    refine .r (i:=6) hs rfl aq .none (aO rfl af hc192) ?_
    refine .z 7 rfl zm ?_;refine .z 8 rfl zm ?_
    refine .ixX (enc:=fun x=>[I x]) (i:=9) hs rfl aq .none hX rfl rfl ae ai (bE (l:=x) (i:=s.many+1+q) ak) (by push_cast;rfl) ?_;intro b196 o196 hc196;replace hc196:=bI.one hc196
    refine .r (i:=10) hs rfl aq .none (aO rfl af hc196) ?_
    refine .z 11 rfl gO ?_;refine .z 12 rfl zm ?_;refine .z 13 rfl cH ?_
    first|(refine .ixw 14 rfl hs aA aE ?_;intro b201 o201 hc201)|refine .z 14 rfl (ou aA aE) ?_
    refine .z 15 rfl (zfa de) ?_
    refine .E 16 hs ?_
    refine .store (c':=(rdc (R.set k {r with val:=gi x u - gi x (s.many+1+q)+((k183:Int) - r.tol)})).flatten++sp) hs rfl rfl ai ?_ cU (Nat.ble_eq_true_of_le (by rw [List.length_append,cu _ (gd _),cA];omega)) (yO hr sp _);intro w hs
    refine .go ?_
    refine .D hs ?_
    refine nB (nT ?_)
    refine .region (.z zm (.z cH (.z zg (.nil ?_))))
    refine nT ?_
    exact ⟨(k+1,R.set k {r with val:=gi x u - gi x (s.many+1+q)+((k183:Int) - r.tol)}),.cn rfl bQ a8,⟨by dsimp only;omega,by dsimp only;rw [List.length_set];exact hRl,by dsimp only;rw [xv hr];exact hRt,fun y hy=>by
      rcases List.mem_or_eq_of_mem_set hy with h|h
      ·exact hRs y h
      ·subst h;exact ⟨hrst,hrwa,hrtol⟩,fun j hj y hy=>by
      dsimp only at hj hy
      by_cases e:j=k
      ·subst e
       rw [List.getElem?_set_self ak] at hy
       obtain rfl:=Option.some.inj hy
       have q1':iI (bw rs) r.td=q:=by rw [←hRt];exact q1
       unfold Cx
       show gi x (1+r.st*s.wa.length+r.wa).toNat - gi x (s.many+1+iI (bw rs) r.td).toNat - r.tol≤_∧_≤gi x (1+r.st*s.wa.length+r.wa).toNat - gi x (s.many+1+iI (bw rs) r.td).toNat+r.tol
       rw [hu1,q1',show ((s.many:Int)+1+(q:Int)).toNat=s.many+1+q by omega,Int.toNat_natCast]
       dsimp only
       omega
      ·rw [List.getElem?_set_ne ak] at hy
       exact hRv j ak y hy,_,Dw hO3 _,hs.sb⟩,by dsimp only;omega⟩
   ·refine .exit ?_
    refine xT (xT (xB (nT ?_)))
    refine .aj (.y hs (zls [_,_,_,_,_,_,_,_] aD az) (.z zm ?_))
    obtain rfl:k=rs.length:=by omega
    obtain ⟨Hx,hlex,r1,r2,r3,r4,hs2,back⟩:=Cy.yX (s:=⟨s,R,cs⟩) ⟨hO1,hO2,hO3,hO4⟩ (by show s.st.length≤_;omega) (by show s.wa.length≤_;omega) (by show R.length≤_;omega) (by show cs.length≤_;omega) hs
    refine .o (.call Tryz.call144 rfl (p5 (s:=⟨s,R,cs⟩) (x:=x) hs2 r1 r2 r3 ⟨_,_,_,rfl⟩ (hX.mono hlex) (by rw [rj];show _=s.many+(bw R).length+1;rw [hRt];exact hxl) ⟨by show s.st.length≤_;omega,by show s.wa.length≤_;omega,by show R.length≤_;omega⟩) ?_);rintro _ w ⟨Hy,vr',vy,er,ey,hley,rfl,hOr,hOy,hs3⟩
    have hs:=back hley hs3
    clear hs2 hs3 back r1 r2 r3 r4
    have hkl:=um s R
    obtain ⟨arr,crr,rfl⟩:=hOr.fM (gd _) ak
    obtain ⟨ayy,lyy,cyy,rfl,-⟩:=hOy.shape
    refine .z zex (.z zex ?_)
    refine .o (.aZ (vs:=[_,_,_,_,_,_,_,_]) hs rfl rfl az fun w hs=>?_)
    refine .z zg (.nil ?_)
    refine .ret ?_
    exact Fin.gR [] [] hs fun w hs=>⟨_,results2 Tryz.results60 (dv (vs:=[_,_,_,_,_,_,_,_]) hs rfl aD az) rfl,Hz,⟨s,iL s R,cs⟩,_,_,_,_,_,_,e1,e2,er,e4,ey,hlez,rfl,
     ⟨hSt,hWa,by show (iL s R).length≤14;omega,hc5,wI hSp.ok hSt hWa ak hc5 (fun r h=>(xY h).2) hcok⟩,⟨hO1,hO2,hOr,hO4⟩,hOy,AM hfe hx0 hxl hRt hRs (fun r hr=>by
      obtain ⟨j,hj⟩:=List.getElem?_of_mem hr
      have:=(List.getElem?_eq_some_iff.1 hj).1
      exact hRv j ak r hj),hs.sb⟩
structure Spl(s:Srv):Prop where
 st:2≤s.sp.st.length∧s.sp.st.length≤4
 wa:2≤s.sp.wa.length∧s.sp.wa.length≤3
 rs:s.rs.length≤15
 cs:s.cs.length≤5
theorem zP{b n cap k:Nat}{xs:List Int}{sp:List Value}(h:cz 1 (.slice (some ⟨b,0,none⟩) n cap) (Is xs) (.blk b (Is xs++sp)))(x:Int):
  cz 1 (.slice (some ⟨b,0,none⟩) n cap) (Is (xs.set k x)) (.blk b (Is (xs.set k x)++sp)):=by
 rcases h with ⟨a,_,_,h3⟩|⟨b',len,cap',sp',h1,h2,h3,h4,h5⟩
 ·cases h3
 ·simp only [Value.slice.injEq] at h1
  obtain ⟨-,rfl,rfl⟩:=h1
  simp only [Ent.blk.injEq] at h2
  rw [←h2.2] at h4
  exact .inr ⟨b,n,cap,sp,rfl,rfl,by simpa [Is] using h3,by simpa [Is] using h4,h5⟩
theorem kv{l:List Rdg}{k j:Nat}{r r':Rdg}(h:l[k]? =some r)(hj:j<7){v:Value}(hc:r.c.set j v=r'.c)(sp:List Value):((rdc l).flatten++sp).set (k*7+j) v=(rdc (l.set k r')).flatten++sp:=by
 have hk:=(List.getElem?_eq_some_iff.1 h).1
 rw [List.set_append_left _ _ (by rw [cu _ (gd _),cA];omega),tf (rdc l) k j v (gd l) (by rw [cA];exact hk) hj r.c (wA h),hc]
 unfold rdc
 rw [List.map_set]
theorem kx{b n cap k:Nat}{R:List Rdg}{r':Rdg}{sp:List Value}(h:cz 7 (.slice (some ⟨b,0,none⟩) n cap) (rdc R).flatten (.blk b ((rdc R).flatten++sp))):
  cz 7 (.slice (some ⟨b,0,none⟩) n cap) (rdc (R.set k r')).flatten (.blk b ((rdc (R.set k r')).flatten++sp)):=by
 have hl:(rdc (R.set k r')).flatten.length=(rdc R).flatten.length:=by
  rw [cu _ (gd _),cu _ (gd _),cA,cA,List.length_set]
 rcases h with ⟨a,_,_,h3⟩|⟨b',len,cap',sp',h1,h2,h3,h4,h5⟩
 ·cases h3
 ·simp only [Value.slice.injEq] at h1
  obtain ⟨-,rfl,rfl⟩:=h1
  simp only [Ent.blk.injEq] at h2
  rw [←h2.2] at h4
  exact .inr ⟨b,n,cap,sp,rfl,rfl,by rw [hl];exact h3,by rw [List.length_append,hl,←List.length_append];exact h4,h5⟩
theorem qE{l:List Cmp}{k j:Nat}{r r':Cmp}(h:l[k]? =some r)(hj:j<6){v:Value}(hc:r.c.set j v=r'.c)(sp:List Value):((cmc l).flatten++sp).set (k*6+j) v=(cmc (l.set k r')).flatten++sp:=by
 have hk:=(List.getElem?_eq_some_iff.1 h).1
 rw [List.set_append_left _ _ (by rw [cu _ (lK _),dY];omega),tf (cmc l) k j v (lK l) (by rw [dY];exact hk) hj r.c (Fj h),hc]
 unfold cmc
 rw [List.map_set]
theorem qi{b n cap k:Nat}{R:List Cmp}{r':Cmp}{sp:List Value}(h:cz 6 (.slice (some ⟨b,0,none⟩) n cap) (cmc R).flatten (.blk b ((cmc R).flatten++sp))):
  cz 6 (.slice (some ⟨b,0,none⟩) n cap) (cmc (R.set k r')).flatten (.blk b ((cmc (R.set k r')).flatten++sp)):=by
 have hl:(cmc (R.set k r')).flatten.length=(cmc R).flatten.length:=by
  rw [cu _ (lK _),cu _ (lK _),dY,dY,List.length_set]
 rcases h with ⟨a,_,_,h3⟩|⟨b',len,cap',sp',h1,h2,h3,h4,h5⟩
 ·cases h3
 ·simp only [Value.slice.injEq] at h1
  obtain ⟨-,rfl,rfl⟩:=h1
  simp only [Ent.blk.injEq] at h2
  rw [←h2.2] at h4
  exact .inr ⟨b,n,cap,sp,rfl,rfl,by rw [hl];exact h3,by rw [List.length_append,hl,←List.length_append];exact h4,h5⟩
set_option maxHeartbeats 2000000 in
theorem jH{vs v5 v4 vp:Value}{sl pk:List Int}{fs5:List F5}{fs4:List F4}{z1 z2 z3:Int}(hs:St H w σ)(g1:RI H vs sl)(g2:RF5 H v5 fs5)(g3:RF4 H v4 fs4)(g4:RI H vp pk):
  Cl Tryz.prog 23 [.agg #[vs,v5,v4,vp,I z1,I z2,I z3]] w fun u w'=>∃H1 s vst vwa vr vc,HLe H H1∧u= .agg #[I s.sp.id,I s.sp.src,vst,vwa,I s.sp.al,I s.sp.up,vr,vc]∧RI H1 vst s.sp.st∧RI H1 vwa s.sp.wa∧RRd H1 vr s.rs∧RCm H1 vc s.cs∧Spl s∧St H1 w' σ:=by
 obtain ⟨avs,cvs,rfl⟩:=RI.shape g1
 obtain ⟨av5,cv5,rfl⟩:=g2.shape
 obtain ⟨av4,cv4,rfl⟩:=g3.shape
 obtain ⟨avp,cvp,rfl⟩:=RI.shape g4
 refine Cl.o Tryz.func23 Tryz.ntmps23 ag1 ?_
 refine .aj ?_
 refine .bx hs fun b1 w hs=>?_
 refine .o (.alloc hs ck rfl fun b2 w hs=>?_)
 refine .nil (.aj (.y hs (zls [_,_,_,_,_,_,_] He FG) ?_))
 refine .o (.call Tryz.call60 rfl (oQ hs g1 g2 g3 g4) ?_);rintro _ w ⟨H1,s,y,vst,vwa,vr,vc,vy,e1,e2,e3,e4,e5,hle1,rfl,hM,⟨hO1,hO2,hO3,hO4⟩,hOy,-,hs⟩
 have hst2:=hM.ok.early.1.st.two
 have hwa2:=hM.ok.early.1.wa.two
 have hst4:=hM.st
 have hwa3:=hM.wa
 have hrs:=hM.rs
 have hcs:=hM.cs
 obtain ⟨bS,cS,spS,rfl,rfl,hcapS⟩:=hO1.some ak
 obtain ⟨bW,cW,spW,rfl,rfl,hcapW⟩:=hO2.some ak
 obtain ⟨ar,cr,rfl⟩:=hO3.fM (gd _) ak
 obtain ⟨ac,cc,rfl⟩:=hO4.fM (lK _) ak
 rw [cA] at hO3 ⊢
 rw [dY] at hO4 ⊢
 obtain ⟨ay,ly,cy,rfl,-⟩:=hOy.shape
 refine .z zm (.z zex (.z zex ?_))
 refine .o (.alloc hs ck rfl fun b3 w hs=>?_)
 refine .o (.aZ (vs:=[_,_,_,_,_,_,_,_]) hs rfl rfl az fun w hs=>?_)
 refine .z zg (.nil (.aj (.z (zfa nJ) (.y hs (zls [_,_,_] Tryz.isAgg25 Tryz.sizeOf25) ?_))))
 refine .o (.alloc hs Tryz.zeroValue25 rfl fun b5 w hs=>?_)
 refine .o (.aZ (vs:=[_,_,_]) hs rfl rfl Tryz.sizeOf25 fun w hs=>?_)
 refine .nil (.aj ?_)
 refine .z (zia 0 aW ai) ?_
 refine .y hs (zld af) ?_
 refine .o (.call di rfl (bP hs ak) ?_);rintro _ w ⟨k,gk,rfl,hs⟩
 refine .z zg (.nil ?_)
 refine .cut (fun fs w=>∃(sp':Spc) (f1 f2:Ent),kB fs ⟨225,[],[(6,I (k:Int)),(5,.pointer (some ⟨b5,0,none⟩)),(3,.pointer (some ⟨b3,0,none⟩)),(2,.pointer (some ⟨b2,0,none⟩)),(1,.pointer (some ⟨b1,0,none⟩))]⟩∧sp'.st.length=s.sp.st.length∧sp'.wa.length=s.sp.wa.length∧cz 1 (.slice (some ⟨bS,0,none⟩) s.sp.st.length cS) (Is sp'.st) f1∧cz 1 (.slice (some ⟨bW,0,none⟩) s.sp.wa.length cW) (Is sp'.wa) f2∧St H1 w (f1::f2::e3::e4:: .blk b5 [I z1,I z2,I z3]:: .blk b3 [I sp'.id,I sp'.src,.slice (some ⟨bS,0,none⟩) s.sp.st.length cS,.slice (some ⟨bW,0,none⟩) s.sp.wa.length cW,I sp'.al,I sp'.up,.slice ar s.rs.length cr,.slice ac s.cs.length cc]:: .blk b2 [I 0,I 0,.slice none 0 0,.slice none 0 0,I 0,I 0,.slice none 0 0,.slice none 0 0]::σ)) ?_ ?_
 ·refine .aj (.z zm (.nil (.block (.aj (.z fw (.z zg (.nil ?_)))))))
  refine (.bJ rfl (fun hc21=>?_) (fun hc21=>?_))
  ·refine .region ?_
   refine .z (zia 2 aW ai) ?_
   refine .y hs (zld af) (.z (zfa aJ) (.z (zfa iO) ?_))
   refine .o (.store hs rfl rfl ai fun w hs=>?_)
   refine .nil ?_
   refine nB (nT ?_)
   exact ⟨{s.sp with id:=z3},_,_,a8,rfl,rfl,hO1,hO2,hs.sb⟩
  ·refine .aj (.z fw (.z zg (.nil ?_)))
   refine (.bJ rfl (fun hc27=>?_) (fun hc27=>?_))
   ·refine .region ?_
    refine .z (zia 2 aW ai) ?_
    refine .y hs (zld af) (.z (zfa aJ) (.z (zfa cQ) ?_))
    refine .o (.store hs rfl rfl ai fun w hs=>?_)
    refine .nil ?_
    refine nB (nT ?_)
    exact ⟨{s.sp with src:=z3},_,_,a8,rfl,rfl,hO1,hO2,hs.sb⟩
   ·refine .aj (.z fw (.z zg (.nil ?_)))
    refine (.bJ rfl (fun hc33=>?_) (fun hc33=>?_))
    ·refine .draw mix rfl hs fun w hs=>?_
     refine .z 0 rfl (zfa aJ) ?_;refine .z 1 rfl (zfa bj) ?_;refine .y 2 rfl hs an ?_
     refine .z 3 rfl (zia 1 aW ai) ?_
     refine .y 4 rfl hs af ?_;refine .z 5 rfl (zfa aJ) ?_;refine .z 6 rfl (zfa bj) ?_;refine .y 7 rfl hs an ?_;refine .z 8 rfl (cN ae) ?_
     refine .z 10 rfl (zia 2 aW ai) ?_
     refine .y 11 rfl hs af ?_
     refine .E 9 hs ?_
     refine .call di rfl (bP hs ak) ?_;rintro _ w ⟨k44,g44,rfl,hs⟩
     refine .go ?_
     first|(refine .ixv 12 rfl hs ae ai ?_;intro b47 o47 hc47)|refine .z 12 rfl (zix ae ai) ?_
     refine .E 13 hs ?_
     refine .store (c':=Is (s.sp.st.set k44 z3)++spS) hs rfl rfl ai ?_ cU (j9 ak spS) (iR ak spS _);intro w hs
     refine .go ?_
     refine .D hs ?_
     refine nB (nT ?_)
     exact ⟨{s.sp with st:=s.sp.st.set k44 z3},_,_,a8,bQ,rfl,zP hO1 _,hO2,hs.sb⟩
    ·refine .aj (.z fw (.z zg (.nil ?_)))
     refine (.bJ rfl (fun hc48=>?_) (fun hc48=>?_))
     ·refine .draw mix rfl hs fun w hs=>?_
      refine .z 0 rfl (zfa aJ) ?_;refine .z 1 rfl (zfa aS) ?_;refine .y 2 rfl hs an ?_
      refine .z 3 rfl (zia 1 aW ai) ?_
      refine .y 4 rfl hs af ?_;refine .z 5 rfl (zfa aJ) ?_;refine .z 6 rfl (zfa aS) ?_;refine .y 7 rfl hs an ?_;refine .z 8 rfl (cN ae) ?_
      refine .z 10 rfl (zia 2 aW ai) ?_
      refine .y 11 rfl hs af ?_
      refine .E 9 hs ?_
      refine .call di rfl (bP hs ak) ?_;rintro _ w ⟨k59,g59,rfl,hs⟩
      refine .go ?_
      first|(refine .ixv 12 rfl hs ae ai ?_;intro b62 o62 hc62)|refine .z 12 rfl (zix ae ai) ?_
      refine .E 13 hs ?_
      refine .store (c':=Is (s.sp.wa.set k59 z3)++spW) hs rfl rfl ai ?_ cU (j9 ak spW) (iR ak spW _);intro w hs
      refine .go ?_
      refine .D hs ?_
      refine nB (nT ?_)
      exact ⟨{s.sp with wa:=s.sp.wa.set k59 z3},_,_,a8,rfl,bQ,hO1,zP hO2 _,hs.sb⟩
     ·refine .aj (.z fw (.z zg (.nil ?_)))
      refine (.bJ rfl (fun hc63=>?_) (fun hc63=>?_))
      ·refine .region ?_
       refine .z (zia 2 aW ai) ?_
       refine .y hs (zld af) (.z (zfa aJ) (.z (zfa dN) (.z (zfa jt) ?_)))
       refine .o (.store hs rfl rfl ai fun w hs=>?_)
       refine .nil ?_
       refine nB (nT ?_)
       exact ⟨{s.sp with al:=z3},_,_,a8,rfl,rfl,hO1,hO2,hs.sb⟩
      ·refine .aj (.z fw (.z zg (.nil ?_)))
       refine (.bJ rfl (fun hc70=>?_) (fun hc70=>?_))
       ·refine .region ?_
        refine .z (zia 2 aW ai) ?_
        refine .y hs (zld af) (.z (zfa aJ) (.z (zfa dN) (.z (zfa js) ?_)))
        refine .o (.store hs rfl rfl ai fun w hs=>?_)
        refine .nil ?_
        refine nB (nT ?_)
        exact ⟨{s.sp with up:=z3},_,_,a8,rfl,rfl,hO1,hO2,hs.sb⟩
       ·refine .skip ?_
        refine nB (nT ?_)
        exact ⟨s.sp,_,_,a8,rfl,rfl,hO1,hO2,hs.sb⟩
 ·clear hs hO1 hO2
  rintro fs w ⟨sp',f1,f2,hfs,hl1,hl2,hO1,hO2,hs⟩
  refine WE.sub ?_ hfs
  clear hfs
  refine .cut (fun fs w=>∃(R:List Rdg) (f3:Ent) (ar':Option Addr) (cr':Nat),kB fs ⟨225,[],[(6,I (k:Int)),(5,.pointer (some ⟨b5,0,none⟩)),(3,.pointer (some ⟨b3,0,none⟩)),(2,.pointer (some ⟨b2,0,none⟩))]⟩∧R.length≤15∧cz 7 (.slice ar' R.length cr') (rdc R).flatten f3∧St H1 w (f1::f2::f3::e4:: .blk b5 [I z1,I z2,I z3]:: .blk b3 [I sp'.id,I sp'.src,.slice (some ⟨bS,0,none⟩) s.sp.st.length cS,.slice (some ⟨bW,0,none⟩) s.sp.wa.length cW,I sp'.al,I sp'.up,.slice ar' R.length cr',.slice ac s.cs.length cc]:: .blk b2 [I 0,I 0,.slice none 0 0,.slice none 0 0,I 0,I 0,.slice none 0 0,.slice none 0 0]::σ)) ?_ ?_
  ·refine .aj (.z (zfa aI) (.y hs (zld aU) (.z (cN aA) (.z kD (.nil ?_)))))
   refine (.bJ rfl (fun hc80=>?_) (fun hc80=>?_))
   ·refine .aj ?_
    refine .z (zia 1 aW ai) ?_
    refine .y hs (zld af) (.z (zfa aI) (.y hs (zld aU) (.z (cN aA) ?_)))
    obtain ⟨bR,cR,spR,hv,rfl,hcapR⟩:=hO3.Fx (gd _) ak (by rw [cA];omega)
    simp only [Value.slice.injEq] at hv
    obtain ⟨rfl,hv2,rfl⟩:=hv
    refine .o (.call di rfl (bP hs ak) ?_);rintro _ w ⟨i,gi_,rfl,hs⟩
    obtain ⟨r,hr⟩:=nth (l:=s.rs) (k:=i) ak
    have hbR:∀j<7,Nat.blt (i*7+j) ((rdc s.rs).flatten++spR).length=true:=fun j hj=>Nat.ble_eq_true_of_le (by rw [List.length_append,cu _ (gd _),cA];omega)
    refine .z zg (.nil (.aj (.z zm (.nil (.block (.seq (.aj (.z fw (.z zg ?_)))))))))
    refine .nil ?_
    refine (.bJ rfl (fun hc88=>?_) (fun hc88=>?_))
    ·refine .skip ?_
     refine nT ?_
     refine (.cT ?_)
     refine .region (.z (zfa aI) (.y hs (zld aU) (.z zm ?_)))
     refine .z (zia 2 aW ai) ?_
     refine .y hs (zld af) ?_
     first|(refine .ixw hs aA aE ?_;intro b97 o97 hc97)|refine .z (ou aA aE) ?_
     refine .z (zfa de) ?_
     refine .o (.store (c':=(rdc (s.rs.set i {r with val:=z3})).flatten++spR) hs rfl rfl ai ?_ cU (hbR 3 ak) (kv hr ak rfl spR));intro w hs
     refine .nil ?_
     refine nB (nT ?_)
     exact ⟨s.rs.set i {r with val:=z3},_,some ⟨bR,0,none⟩,cr,a8,by rw [List.length_set];omega,by rw [List.length_set];exact kx hO3,by rw [List.length_set];exact hs.sb⟩
    ·refine .aj (.z fw (.z zg (.nil ?_)))
     refine (.bJ rfl (fun hc88=>?_) (fun hc88=>?_))
     ·refine .skip ?_
      refine nT ?_
      refine (.cT ?_)
      refine .region (.z (zfa aI) (.y hs (zld aU) (.z zm ?_)))
      refine .z (zia 2 aW ai) ?_
      refine .y hs (zld af) ?_
      first|(refine .ixw hs aA aE ?_;intro b97 o97 hc97)|refine .z (ou aA aE) ?_
      refine .z (zfa de) ?_
      refine .o (.store (c':=(rdc (s.rs.set i {r with val:=z3})).flatten++spR) hs rfl rfl ai ?_ cU (hbR 3 ak) (kv hr ak rfl spR));intro w hs
      refine .nil ?_
      refine nB (nT ?_)
      exact ⟨s.rs.set i {r with val:=z3},_,some ⟨bR,0,none⟩,cr,a8,by rw [List.length_set];omega,by rw [List.length_set];exact kx hO3,by rw [List.length_set];exact hs.sb⟩
     ·refine .region (.z fw (.z zg (.nil ?_)))
      refine nT ?_
      refine (.bJ rfl (fun hc88=>?_) (fun hc88=>?_))
      ·refine .region (.z (zfa aI) (.y hs (zld aU) (.z zm ?_)))
       refine .z (zia 2 aW ai) ?_
       refine .y hs (zld af) ?_
       first|(refine .ixw hs aA aE ?_;intro b97 o97 hc97)|refine .z (ou aA aE) ?_
       refine .z (zfa de) ?_
       refine .o (.store (c':=(rdc (s.rs.set i {r with val:=z3})).flatten++spR) hs rfl rfl ai ?_ cU (hbR 3 ak) (kv hr ak rfl spR));intro w hs
       refine .nil ?_
       refine nB (nT ?_)
       exact ⟨s.rs.set i {r with val:=z3},_,some ⟨bR,0,none⟩,cr,a8,by rw [List.length_set];omega,by rw [List.length_set];exact kx hO3,by rw [List.length_set];exact hs.sb⟩
      ·refine .aj (.z fw (.z zg (.nil ?_)))
       refine (.bJ rfl (fun hc99=>?_) (fun hc99=>?_))
       ·refine .region (.z (zfa aI) (.y hs (zld aU) (.z zm ?_)))
        refine .z (zia 2 aW ai) ?_
        refine .y hs (zld af) ?_
        first|(refine .ixw hs aA aE ?_;intro b106 o106 hc106)|refine .z (ou aA aE) ?_
        refine .z (zfa cf) ?_
        refine .o (.store (c':=(rdc (s.rs.set i {r with tol:=z3})).flatten++spR) hs rfl rfl ai ?_ cU (hbR 4 ak) (kv hr ak rfl spR));intro w hs
        refine .nil ?_
        refine nB (nT ?_)
        exact ⟨s.rs.set i {r with tol:=z3},_,some ⟨bR,0,none⟩,cr,a8,by rw [List.length_set];omega,by rw [List.length_set];exact kx hO3,by rw [List.length_set];exact hs.sb⟩
       ·refine .aj (.z fw (.z zg (.nil ?_)))
        refine (.bJ rfl (fun hc108=>?_) (fun hc108=>?_))
        ·refine .region (.z (zfa aI) (.y hs (zld aU) (.z zm ?_)))
         refine .z (zia 2 aW ai) ?_
         refine .y hs (zld af) ?_
         first|(refine .ixw hs aA aE ?_;intro b115 o115 hc115)|refine .z (ou aA aE) ?_
         refine .z (zfa ez) ?_
         refine .o (.store (c':=(rdc (s.rs.set i {r with tape:=z3})).flatten++spR) hs rfl rfl ai ?_ cU (hbR 5 ak) (kv hr ak rfl spR));intro w hs
         refine .nil ?_
         refine nB (nT ?_)
         exact ⟨s.rs.set i {r with tape:=z3},_,some ⟨bR,0,none⟩,cr,a8,by rw [List.length_set];omega,by rw [List.length_set];exact kx hO3,by rw [List.length_set];exact hs.sb⟩
        ·refine .aj (.z fw (.z zg (.nil ?_)))
         refine (.bJ rfl (fun hc117=>?_) (fun hc117=>?_))
         ·refine .region (.z (zfa aI) (.y hs (zld aU) (.z zm ?_)))
          refine .z (zia 2 aW ai) ?_
          refine .y hs (zld af) ?_
          first|(refine .ixw hs aA aE ?_;intro b124 o124 hc124)|refine .z (ou aA aE) ?_
          refine .z (zfa ew) ?_
          refine .o (.store (c':=(rdc (s.rs.set i {r with day:=z3})).flatten++spR) hs rfl rfl ai ?_ cU (hbR 6 ak) (kv hr ak rfl spR));intro w hs
          refine .nil ?_
          refine nB (nT ?_)
          exact ⟨s.rs.set i {r with day:=z3},_,some ⟨bR,0,none⟩,cr,a8,by rw [List.length_set];omega,by rw [List.length_set];exact kx hO3,by rw [List.length_set];exact hs.sb⟩
         ·refine .aj (.z fw (.z zg (.nil ?_)))
          refine (.bJ rfl (fun hc126=>?_) (fun hc126=>?_))
          ·refine .region (.z (zfa aI) (.y hs (zld aU) (.z zm ?_)))
           refine .z (zia 2 aW ai) ?_
           refine .y hs (zld af) ?_
           first|(refine .ixw hs aA aE ?_;intro b133 o133 hc133)|refine .z (ou aA aE) ?_
           refine .z (zfa eO) ?_
           refine .o (.store (c':=(rdc (s.rs.set i {r with st:=z3})).flatten++spR) hs rfl rfl ai ?_ cU (hbR 1 ak) (kv hr ak rfl spR));intro w hs
           refine .nil ?_
           refine nB (nT ?_)
           exact ⟨s.rs.set i {r with st:=z3},_,some ⟨bR,0,none⟩,cr,a8,by rw [List.length_set];omega,by rw [List.length_set];exact kx hO3,by rw [List.length_set];exact hs.sb⟩
          ·refine .aj (.z fw (.z zg (.nil ?_)))
           refine (.bJ rfl (fun hc135=>?_) (fun hc135=>?_))
           ·refine .region (.z (zfa aI) (.y hs (zld aU) (.z zm ?_)))
            refine .z (zia 2 aW ai) ?_
            refine .y hs (zld af) ?_
            first|(refine .ixw hs aA aE ?_;intro b142 o142 hc142)|refine .z (ou aA aE) ?_
            refine .z (zfa eN) ?_
            refine .o (.store (c':=(rdc (s.rs.set i {r with wa:=z3})).flatten++spR) hs rfl rfl ai ?_ cU (hbR 2 ak) (kv hr ak rfl spR));intro w hs
            refine .nil ?_
            refine nB (nT ?_)
            exact ⟨s.rs.set i {r with wa:=z3},_,some ⟨bR,0,none⟩,cr,a8,by rw [List.length_set];omega,by rw [List.length_set];exact kx hO3,by rw [List.length_set];exact hs.sb⟩
           ·refine .aj (.z fw (.z zg (.nil ?_)))
            refine (.bJ rfl (fun hc144=>?_) (fun hc144=>?_))
            ·refine .region (.z (zfa aI) (.y hs (zld aU) (.z zm ?_)))
             refine .z (zia 2 aW ai) ?_
             refine .y hs (zld af) ?_
             first|(refine .ixw hs aA aE ?_;intro b151 o151 hc151)|refine .z (ou aA aE) ?_
             refine .z (zfa dU) ?_
             refine .o (.store (c':=(rdc (s.rs.set i {r with src:=z3})).flatten++spR) hs rfl rfl ai ?_ cU (hbR 0 ak) (kv hr ak rfl spR));intro w hs
             refine .nil ?_
             refine nB (nT ?_)
             exact ⟨s.rs.set i {r with src:=z3},_,some ⟨bR,0,none⟩,cr,a8,by rw [List.length_set];omega,by rw [List.length_set];exact kx hO3,by rw [List.length_set];exact hs.sb⟩
            ·refine .seq (.aj (.z fw (.z zg (.nil ?_))))
             refine (.bJ rfl (fun hc153=>?_) (fun hc153=>?_))
             ·refine .skip ?_
              refine nT ?_
              refine (.cT ?_)
              refine .aj (.z (zfa aI) (.y hs (zld aU) (.z zm ?_)))
              first|(refine .ixw hs aA aE ?_;intro b159 o159 hc159)|refine .z (ou aA aE) ?_
              refine .y hs (zls r.c bZ aE (hr:= .own (by repeat (first|exact .here|refine .there ?_)) (vN (gd _) (wA hr) spR))) ?_
              have hrOk:=hM.ok.early.2.2.2.1 r (List.mem_of_getElem? hr)
              have hrtol:=hrOk.tol
              refine .o (.alloc hs eE rfl fun b8 w hs=>?_)
              refine .o (.aZ (vs:=[_,_,_,_,_,_,_]) hs rfl rfl aE fun w hs=>?_)
              refine .nil (.aj (.z (zfa dU) ?_))
              refine .o (.store hs rfl rfl ai fun w hs=>?_)
              refine .nil (.aj ?_)
              refine .z (zia 2 aW ai) ?_
              refine .y hs (zld af) (.z (zfa cf) (.y hs (zld af) (.z gO (.z cH ?_))))
              refine .o (.call di rfl (bP hs ak) ?_);rintro _ w ⟨k168,g168,rfl,hs⟩
              refine .z (zfa de) ?_
              refine .o (.store hs rfl rfl ai fun w hs=>?_)
              refine .nil (.region (.z (zfa aI) (.y hs (zld aU) (.y hs (zls [_,_,_,_,_,_,_] bZ aE) ?_))))
              refine .o (.buildSlice (cells:=Rdg.c ⟨50,r.st,r.wa,(k168:Int),r.tol,r.tape,r.day⟩) hs dZ rfl aq fun b173 w hs=>?_)
              refine .o (.append (ys:=Rdg.c ⟨50,r.st,r.wa,(k168:Int),r.tol,r.tape,r.day⟩) hs bH rfl rfl hO3 (.own .here rfl rfl) (by simp [Rdg.c,Value.oneCell']) (fun l' h=>by rw [cu _ (gd _),cA] at h;omega) ?_);intro v174 en174 w hO5 hs
              rw [←mn] at hO5
              obtain ⟨a174,c174,rfl⟩:=hO5.fM (gd _) ak
              rw [cA] at hO5 ⊢
              refine .z (zfa aI) ?_
              refine .o (.store hs rfl rfl ib fun w hs=>?_)
              refine .nil ?_
              refine nB (nT ?_)
              exact ⟨s.rs++[⟨50,r.st,r.wa,(k168:Int),r.tol,r.tape,r.day⟩],_,a174,c174,a8,by simp;omega,hO5,hs.sb⟩
             ·refine .region (.z fw (.z zg (.nil ?_)))
              refine nT ?_
              refine (.bJ rfl (fun hc153=>?_) (fun hc153=>?_))
              ·refine .aj (.z (zfa aI) (.y hs (zld aU) (.z zm ?_)))
               first|(refine .ixw hs aA aE ?_;intro b159 o159 hc159)|refine .z (ou aA aE) ?_
               refine .y hs (zls r.c bZ aE (hr:= .own (by repeat (first|exact .here|refine .there ?_)) (vN (gd _) (wA hr) spR))) ?_
               have hrOk:=hM.ok.early.2.2.2.1 r (List.mem_of_getElem? hr)
               have hrtol:=hrOk.tol
               refine .o (.alloc hs eE rfl fun b8 w hs=>?_)
               refine .o (.aZ (vs:=[_,_,_,_,_,_,_]) hs rfl rfl aE fun w hs=>?_)
               refine .nil (.aj (.z (zfa dU) ?_))
               refine .o (.store hs rfl rfl ai fun w hs=>?_)
               refine .nil (.aj ?_)
               refine .z (zia 2 aW ai) ?_
               refine .y hs (zld af) (.z (zfa cf) (.y hs (zld af) (.z gO (.z cH ?_))))
               refine .o (.call di rfl (bP hs ak) ?_);rintro _ w ⟨k168,g168,rfl,hs⟩
               refine .z (zfa de) ?_
               refine .o (.store hs rfl rfl ai fun w hs=>?_)
               refine .nil (.region (.z (zfa aI) (.y hs (zld aU) (.y hs (zls [_,_,_,_,_,_,_] bZ aE) ?_))))
               refine .o (.buildSlice (cells:=Rdg.c ⟨50,r.st,r.wa,(k168:Int),r.tol,r.tape,r.day⟩) hs dZ rfl aq fun b173 w hs=>?_)
               refine .o (.append (ys:=Rdg.c ⟨50,r.st,r.wa,(k168:Int),r.tol,r.tape,r.day⟩) hs bH rfl rfl hO3 (.own .here rfl rfl) (by simp [Rdg.c,Value.oneCell']) (fun l' h=>by rw [cu _ (gd _),cA] at h;omega) ?_);intro v174 en174 w hO5 hs
               rw [←mn] at hO5
               obtain ⟨a174,c174,rfl⟩:=hO5.fM (gd _) ak
               rw [cA] at hO5 ⊢
               refine .z (zfa aI) ?_
               refine .o (.store hs rfl rfl ib fun w hs=>?_)
               refine .nil ?_
               refine nB (nT ?_)
               exact ⟨s.rs++[⟨50,r.st,r.wa,(k168:Int),r.tol,r.tape,r.day⟩],_,a174,c174,a8,by simp;omega,hO5,hs.sb⟩
              ·refine .skip ?_
               refine nB (nT ?_)
               exact ⟨s.rs,_,some ⟨bR,0,none⟩,cr,a8,ak,hO3,hs.sb⟩
   ·refine .skip ?_
    refine nT ?_
    exact ⟨s.rs,_,ar,cr,a8,ak,hO3,hs.sb⟩
  ·clear hs hO3
   rintro fs w ⟨R,f3,ar',cr',hfs,hRl,hO3,hs⟩
   refine WE.sub ?_ hfs
   clear hfs
   refine .cut (fun fs w=>∃(C:List Cmp) (f4:Ent) (ac':Option Addr) (cc':Nat),kB fs ⟨225,[],[(3,.pointer (some ⟨b3,0,none⟩)),(2,.pointer (some ⟨b2,0,none⟩))]⟩∧C.length≤5∧cz 6 (.slice ac' C.length cc') (cmc C).flatten f4∧St H1 w (f1::f2::f3::f4:: .blk b3 [I sp'.id,I sp'.src,.slice (some ⟨bS,0,none⟩) s.sp.st.length cS,.slice (some ⟨bW,0,none⟩) s.sp.wa.length cW,I sp'.al,I sp'.up,.slice ar' R.length cr',.slice ac' C.length cc']:: .blk b2 [I 0,I 0,.slice none 0 0,.slice none 0 0,I 0,I 0,.slice none 0 0,.slice none 0 0]::σ)) ?_ ?_
   ·refine .aj (.z (zfa bq) (.y hs (zld cB) (.z (cN aN) (.z kD (.nil ?_)))))
    refine (.bJ rfl (fun hc179=>?_) (fun hc179=>?_))
    ·refine .aj ?_
     refine .z (zia 1 aW ai) ?_
     refine .y hs (zld af) (.z (zfa bq) (.y hs (zld cB) (.z (cN aN) ?_)))
     obtain ⟨bC,cC,spC,hv,rfl,hcapC⟩:=hO4.Fx (lK _) ak (by rw [dY];omega)
     simp only [Value.slice.injEq] at hv
     obtain ⟨rfl,hv2,rfl⟩:=hv
     refine .o (.call di rfl (bP hs ak) ?_);rintro _ w ⟨i,gi_,rfl,hs⟩
     obtain ⟨c,hc⟩:=nth (l:=s.cs) (k:=i) ak
     have hbC:∀j<6,Nat.blt (i*6+j) ((cmc s.cs).flatten++spC).length=true:=fun j hj=>Nat.ble_eq_true_of_le (by rw [List.length_append,cu _ (lK _),dY];omega)
     refine .z zg (.nil (.aj (.z zm (.nil (.block (.seq (.aj (.z fw (.z zg ?_)))))))))
     refine .nil ?_
     refine (.bJ rfl (fun hc187=>?_) (fun hc187=>?_))
     ·refine .skip ?_
      refine nT ?_
      refine (.cT ?_)
      refine .region (.z (zfa bq) (.y hs (zld cB) (.z zm ?_)))
      refine .z (zia 2 aW ai) ?_
      refine .y hs (zld af) ?_
      first|(refine .ixw hs aN bB ?_;intro b195 o195 hc195)|refine .z (ou aN bB) ?_
      refine .z (zfa fg) ?_
      refine .o (.store (c':=(cmc (s.cs.set i {c with lo:=z3})).flatten++spC) hs rfl rfl ai ?_ cU (hbC 4 ak) (qE hc ak rfl spC));intro w hs
      refine .nil ?_
      refine nB (nT ?_)
      exact ⟨s.cs.set i {c with lo:=z3},_,some ⟨bC,0,none⟩,cc,a8,by rw [List.length_set];omega,by rw [List.length_set];exact qi hO4,by rw [List.length_set];exact hs.sb⟩
     ·refine .region (.z fw (.z zg (.nil ?_)))
      refine nT ?_
      refine (.bJ rfl (fun hc187=>?_) (fun hc187=>?_))
      ·refine .region (.z (zfa bq) (.y hs (zld cB) (.z zm ?_)))
       refine .z (zia 2 aW ai) ?_
       refine .y hs (zld af) ?_
       first|(refine .ixw hs aN bB ?_;intro b195 o195 hc195)|refine .z (ou aN bB) ?_
       refine .z (zfa fg) ?_
       refine .o (.store (c':=(cmc (s.cs.set i {c with lo:=z3})).flatten++spC) hs rfl rfl ai ?_ cU (hbC 4 ak) (qE hc ak rfl spC));intro w hs
       refine .nil ?_
       refine nB (nT ?_)
       exact ⟨s.cs.set i {c with lo:=z3},_,some ⟨bC,0,none⟩,cc,a8,by rw [List.length_set];omega,by rw [List.length_set];exact qi hO4,by rw [List.length_set];exact hs.sb⟩
      ·refine .aj (.z fw (.z zg (.nil ?_)))
       refine (.bJ rfl (fun hc197=>?_) (fun hc197=>?_))
       ·refine .region (.z (zfa bq) (.y hs (zld cB) (.z zm ?_)))
        refine .z (zia 2 aW ai) ?_
        refine .y hs (zld af) ?_
        first|(refine .ixw hs aN bB ?_;intro b204 o204 hc204)|refine .z (ou aN bB) ?_
        refine .z (zfa ff) ?_
        refine .o (.store (c':=(cmc (s.cs.set i {c with hi:=z3})).flatten++spC) hs rfl rfl ai ?_ cU (hbC 5 ak) (qE hc ak rfl spC));intro w hs
        refine .nil ?_
        refine nB (nT ?_)
        exact ⟨s.cs.set i {c with hi:=z3},_,some ⟨bC,0,none⟩,cc,a8,by rw [List.length_set];omega,by rw [List.length_set];exact qi hO4,by rw [List.length_set];exact hs.sb⟩
       ·refine .aj (.z fw (.z zg (.nil ?_)))
        refine (.bJ rfl (fun hc206=>?_) (fun hc206=>?_))
        ·refine .region (.z (zfa bq) (.y hs (zld cB) (.z zm ?_)))
         refine .z (zia 2 aW ai) ?_
         refine .y hs (zld af) ?_
         first|(refine .ixw hs aN bB ?_;intro b213 o213 hc213)|refine .z (ou aN bB) ?_
         refine .z (zfa fO) ?_
         refine .o (.store (c':=(cmc (s.cs.set i {c with fr:=z3})).flatten++spC) hs rfl rfl ai ?_ cU (hbC 2 ak) (qE hc ak rfl spC));intro w hs
         refine .nil ?_
         refine nB (nT ?_)
         exact ⟨s.cs.set i {c with fr:=z3},_,some ⟨bC,0,none⟩,cc,a8,by rw [List.length_set];omega,by rw [List.length_set];exact qi hO4,by rw [List.length_set];exact hs.sb⟩
        ·refine .aj (.z fw (.z zg (.nil ?_)))
         refine (.bJ rfl (fun hc215=>?_) (fun hc215=>?_))
         ·refine .region (.z (zfa bq) (.y hs (zld cB) (.z zm ?_)))
          refine .z (zia 2 aW ai) ?_
          refine .y hs (zld af) ?_
          first|(refine .ixw hs aN bB ?_;intro b222 o222 hc222)|refine .z (ou aN bB) ?_
          refine .z (zfa fh) ?_
          refine .o (.store (c':=(cmc (s.cs.set i {c with to:=z3})).flatten++spC) hs rfl rfl ai ?_ cU (hbC 3 ak) (qE hc ak rfl spC));intro w hs
          refine .nil ?_
          refine nB (nT ?_)
          exact ⟨s.cs.set i {c with to:=z3},_,some ⟨bC,0,none⟩,cc,a8,by rw [List.length_set];omega,by rw [List.length_set];exact qi hO4,by rw [List.length_set];exact hs.sb⟩
         ·refine .skip ?_
          refine nB (nT ?_)
          exact ⟨s.cs,_,some ⟨bC,0,none⟩,cc,a8,ak,hO4,hs.sb⟩
    ·refine .skip ?_
     refine nT ?_
     exact ⟨s.cs,_,ac,cc,a8,ak,hO4,hs.sb⟩
   ·clear hs hO4
    rintro fs w ⟨C,f4,ac',cc',hfs,hCl,hO4,hs⟩
    refine WE.sub ?_ hfs
    clear hfs
    refine .aj (.y hs (zls [_,_,_,_,_,_,_,_] aD az) ?_)
    refine .o (.aZ (vs:=[_,_,_,_,_,_,_,_]) hs rfl rfl az fun w hs=>?_)
    refine .nil ?_
    refine .ret ?_
    have hV:Cy ⟨sp',R,C⟩ (.slice (some ⟨bS,0,none⟩) s.sp.st.length cS) (.slice (some ⟨bW,0,none⟩) s.sp.wa.length cW) (.slice ar' R.length cr') (.slice ac' C.length cc') f1 f2 f3 f4:=⟨hO1,hO2,hO3,hO4⟩
    obtain ⟨Ha,hla,ra,hs⟩:=hO1.cK ak hs cU
    obtain ⟨Hb,hlb,rb,hs⟩:=hO2.cK ak hs cU
    obtain ⟨Hc,hlc,rc,hs⟩:=cz.cO (m:=7) (cs:=rdc R) hO3 (gd _) ak (by rw [cA];omega) hs cU
    obtain ⟨Hd,hld,rd,hs⟩:=cz.cO (m:=6) (cs:=cmc C) hO4 (lK _) ak (by rw [dY];omega) hs cU
    exact Fin.gR [] [] hs fun w hs=>⟨_,results1 Tryz.results23 (dv (vs:=[_,_,_,_,_,_,_,_]) hs rfl aD az),Hd,⟨sp',R,C⟩,_,_,_,_,hle1.trans (hla.trans (hlb.trans (hlc.trans hld))),rfl,ra.mono (hlb.trans (hlc.trans hld)),rb.mono (hlc.trans hld),RRd.mono rc hld,rd,⟨by show 2≤sp'.st.length∧sp'.st.length≤4;omega,by show 2≤sp'.wa.length∧sp'.wa.length≤3;omega,hRl,hCl⟩,hs.out⟩
end Go.Proofs.YtddaejgfjlneoaaGreat
namespace Go.Proofs.YtddaejgfjlneoaaGreat
open Go.MW
theorem Bu:Tryz.prog.stoodInHeld 44=false:=by kernel_rfl
theorem Bv:Tryz.prog.eqGuardType Tryz.prog.depth 44=false:=by kernel_rfl
end Go.Proofs.YtddaejgfjlneoaaGreat
namespace Go.Proofs.YtddaejgfjlneoaaGreat
open Go.MW
variable{H:cE}{w:World}{σ:List Ent}
theorem sF{s:Srv}{vst vwa vr vc:Value}(hs:St H w σ)(h1:RI H vst s.sp.st)(h2:RI H vwa s.sp.wa)(h3:RRd H vr s.rs)(h4:RCm H vc s.cs):
  Cl Tryz.prog 30 [.agg #[I s.sp.id,I s.sp.src,vst,vwa,I s.sp.al,I s.sp.up,vr,vc]] w fun u w'=>∃H1 vt ts e,HLe H H1∧u= .tuple #[vt,I e]∧RTd H1 vt ts∧tl s e∧ts.length≤60∧(ts=if e=0 then s.bD else [])∧St H1 w' σ:=by
 refine Cl.o Tryz.func30 Tryz.ntmps30 ag1 ?_
 refine .aj ?_
 refine .bx hs fun b1 w hs=>?_
 refine .z zg (.z zg (.nil (.aj (.y hs (zls [_,_,_,_,_,_,_,_] aD az) ?_))))
 refine .o (.call sf rfl (eM (s:=s) hs h1 h2 h3 h4) ?_);rintro _ w ⟨H1,e,hle1,rfl,hC,hs⟩
 refine .z zg (.nil (.seq (.aj (.z zm (.z gP (.nil ?_))))))
 refine (.eI rfl (fun hc8=>?_) (fun hc8=>?_))
 ·refine .aj (.z zm (.z zg (.z zg (.nil ?_))))
  refine .ret (rT (Fin.jx Tryz.results30 rfl rfl ?_))
  exact ⟨H1,_,[],_,hle1,rfl,RS.nil H1 2 none 0,hC,bQ,by rw [if_neg hc8],hs.out⟩
 ·refine .skip ?_
  refine nT ?_
  refine .aj (.z (zfa aI) (.y hs (zld aU) ?_))
  have hok:eD s:=hC.cD.1 (by simpa using hc8)
  have hrl:=hok.early.2.1
  refine .o (.call lg rfl (eL hs (h3.mono hle1) ak) ?_);rintro v12 w ⟨H2,hle2,hT,hs⟩
  refine .z zg (.z zg (.nil ?_))
  refine .ret (Fin.jx Tryz.results30 rfl rfl ?_)
  exact ⟨H2,_,s.bD,_,hle1.trans hle2,rfl,hT,hC.cD.2 hok▸hC,by have:=db s.rs;unfold Srv.bD;omega,by rw [if_pos rfl],hs.out⟩
def cdL(cs:List Cmp)(t:TD)(f:Int):Nat→List Lim
 |0=>[]
 |i+1=>cdL cs t f i++kr (ym cs i) t f
theorem rX(cs:List Cmp)(t:TD)(f:Int):∀i,(cdL cs t f i).length≤2*i
 |0=>by simp [cdL]
 |i+1=>by
  simp only [cdL,List.length_append]
  have:=rX cs t f i
  have:=pT (ym cs i) t f
  omega
theorem EB(s:Spc)(ts:List TD)(t:TD)(cs:List Cmp):∀i,qD s (ts++[t]) cs ts.length i=cdL cs t ((s.many:Int)+1+(ts.length:Int)) i
 |0=>rfl
 |i+1=>by
  simp only [qD,cdL]
  rw [EB s ts t cs i,show (ts++[t]).length - ts.length=1 by simp]
  simp only [kz,List.nil_append,Nat.add_zero]
  rw [show td0 (ts++[t]) ts.length=t by simp [td0,List.getD]]
  congr 2
theorem p6{vc:Value}{cs:List Cmp}{t:TD}{f:Int}(hs:St H w σ)(h4:RCm H vc cs)(hl:cs.length≤20)(hcs:∀c∈cs,oJ c):
  Cl Tryz.prog 120 [vc,.agg #[I t.tape,I t.day],I f] w fun u w'=>∃en,cz 4 u (gg (cdL cs t f cs.length)) en∧St H w' (en::σ):=by
 obtain ⟨ac,cc,rfl⟩:=RCm.shape h4
 refine Cl.o Tryz.func120 Tryz.ntmps120 ag3 ?_
 refine .aj ?_
 refine .bx hs fun b4 w hs=>?_
 refine .z zg (.nil (.aj (.z zg (.nil (.seq (.aj (.z zg (.nil (.block ?_)))))))))
 refine .loop (fun p:Nat×Value=>⟨25,[],[(8,I (p.1:Int)),(7,p.2),(0,.slice ac cs.length cc),(2,I f),(4,.pointer (some ⟨b4,0,none⟩))]⟩)
  (fun p w=>p.1≤cs.length∧∃en,cz 4 p.2 (gg (cdL cs t f p.1)) en∧St H w (en:: .blk b4 [I t.tape,I t.day]::σ)) (fun p=>cs.length - p.1) (0,.slice none 0 0) a8
  ⟨Nat.zero_le _,_,.nil 4 none,hs.nul⟩ ?_
 clear hs
 rintro ⟨i,vo⟩ w ⟨hi,en,hO,hs⟩
 dsimp only at hi hO ⊢
 have hl1:=rX cs t f i
 refine .seq (.aj (.z zm (.z zm (.z (cN aN) (.z fD (.nil ?_))))))
 refine (.bJ rfl (fun hc12=>?_) (fun hc12=>?_))
 ·refine .skip ?_
  refine nT ?_
  refine .seq (.block ?_)
  refine .draw mix rfl hs fun w hs=>?_
  refine .z 0 rfl zm ?_;refine .z 1 rfl zm ?_;refine .z 2 rfl zm ?_
  obtain ⟨c,hx⟩:=nth (l:=cs) (k:=i) ak
  obtain ⟨g1,g2,g3,g4,g5,g6⟩:=hcs c (List.mem_of_getElem? hx)
  have ec:=zc hx
  refine .ixX (enc:=Cmp.c) (i:=3) hs rfl aq .none h4 rfl rfl aN bB hx cJ ?_;intro b18 o18 hc18
  refine .r (i:=4) hs rfl aq .none (cj (vs:=c.c) rfl kq bB hc18) ?_
  refine .ys 5 rfl hs [_,_] da bn ?_;refine .z 6 rfl zm ?_
  refine .E 7 hs ?_
  refine .call Tryz.call194 rfl (nr (c:=c) (t:=t) hs ⟨ak,ak⟩) ?_;rintro v22 w ⟨en22,hO22,hs⟩
  obtain ⟨a22,l22,c22,rfl,h22⟩:=hO22.shape
  refine .go ?_
  refine .E 8 hs ?_
  refine .append (ys:=gg (kr c t f)) hs bM rfl rfl hO (Src.DB hO22 .here) (iz _) (fun l h=>by rw [cV] at h;have:=pT c t f;rw [cV] at h22;omega) ?_;intro v23 en23 w hO2 hs
  rw [←fj,show cdL cs t f i++kr c t f=cdL cs t f (i+1) by rw [←ec];rfl] at hO2
  refine .go ?_
  refine .z 9 rfl zg ?_;refine .D hs ?_
  refine nB (nT ?_)
  refine .region (.z zm (.z cH (.z zg (.nil ?_))))
  refine nT ?_
  exact ⟨(i+1,v23),.cn rfl bQ a8,⟨by dsimp only;omega,_,hO2,hs.sb⟩,by dsimp only;omega⟩
 ·refine .exit ?_
  refine xT (xT (xB (nT ?_)))
  refine .aj (.z zm (.z zg (.nil ?_)))
  refine .ret (Fin.bK Tryz.results120 rfl ?_)
  obtain rfl:i=cs.length:=by omega
  exact ⟨en,hO,hs.sb⟩
set_option maxHeartbeats 4000000 in
theorem tP{s:Srv}{r:Rdg}{vst vwa vr vc:Value}{z:Int}(hs:St H w σ)(h1:RI H vst s.sp.st)(h2:RI H vwa s.sp.wa)(h3:RRd H vr s.rs)(h4:RCm H vc s.cs)(hr0:r.val=0):
  Cl Tryz.prog 47 [.agg #[I s.sp.id,I s.sp.src,vst,vwa,I s.sp.al,I s.sp.up,vr,vc],.agg #[I r.src,I r.st,I r.wa,I z,I r.tol,I r.tape,I r.day]] w fun u w'=>∃H1 lo hi e,HLe H H1∧u= .tuple #[.agg #[I lo,I hi],I e]∧sS s r lo hi e∧St H1 w' σ:=by
 obtain ⟨ast,cst,rfl⟩:=RI.shape h1
 obtain ⟨awa,cwa,rfl⟩:=RI.shape h2
 obtain ⟨ar,cr,rfl⟩:=RRd.shape h3
 obtain ⟨ac,cc,rfl⟩:=RCm.shape h4
 refine Cl.o Tryz.func47 Tryz.ntmps47 ag2 ?_
 refine .aj ?_
 refine .bx hs fun b2 w hs=>?_
 refine .bx hs fun b3 w hs=>?_
 refine .o (.alloc hs eQ rfl fun b4 w hs=>?_)
 refine .z zg (.nil (.aj (.y hs (zls [_,_,_,_,_,_,_,_] aD az) ?_)))
 refine .o (.call sf rfl (eM (s:=s) hs h1 h2 h3 h4) ?_);rintro _ w ⟨H1,e,hle1,rfl,hC,hs⟩
 refine .z zg (.nil (.seq (.aj (.z zm (.z gP (.nil ?_))))))
 refine (.eI rfl (fun hc18=>?_) (fun hc18=>?_))
 ·refine .aj (.z (zbd [_,_] cq) (.z zm ?_))
  refine .o (.aZ (vs:=[_,_]) hs rfl rfl aR fun w hs=>?_)
  refine .z zg (.nil ?_)
  refine .ret (rT (?_))
  exact Fin.gR [] [] hs fun w hs=>⟨_,results2 oM (dv (vs:=[_,_]) hs rfl cI aR) rfl,H1,_,_,_,hle1,rfl,.bad hC hc18,hs.out⟩
 ·refine .skip ?_
  refine nT ?_
  refine .aj (.z (zfa de) ?_)
  refine .o (.store hs rfl rfl ai fun w hs=>?_)
  refine .nil (.seq (.aj (.z (zfa aJ) (.y hs (zls [_,_,_,_,_,_] aF aB) (.y hs (zls [_,_,_,_,_,_,_] bZ aE) ?_)))))
  have hok:eD s:=hC.cD.1 (by simpa using hc18)
  have hsm:=dK hok.early.1
  have hrl:=hok.early.2.1
  have hcl:=hok.early.2.2.1
  have hmm:=hok.many
  have hll:=hok.bU
  have hn:=rj s
  have htl:s.bD.length≤60:=by have:=db s.rs;unfold Srv.bD;omega
  change St _ _ (.blk b4 _:: .blk b3 [I r.src,I r.st,I r.wa,I 0,I r.tol,I r.tape,I r.day]::_) at hs
  refine .o (.call Tryz.call109 rfl (fm (s:=s.sp) (r:=⟨r.src,r.st,r.wa,0,r.tol,r.tape,r.day⟩) hs (h1.mono hle1) (h2.mono hle1)) ?_);rintro _ w ⟨b25,rfl,hb25,hs⟩
  rw [show (⟨r.src,r.st,r.wa,0,r.tol,r.tape,r.day⟩:Rdg)=r by rw [←hr0]] at hb25
  refine .z iD (.nil ?_)
  refine (.cond rfl (fun hc26=>?_) (fun hc26=>?_))
  ·refine .aj (.z (zbd [_,_] cq) ?_)
   refine .o (.aZ (vs:=[_,_]) hs rfl rfl aR fun w hs=>?_)
   refine .z zg (.nil ?_)
   refine .ret (rT (?_))
   exact Fin.gR [] [] hs fun w hs=>⟨_,results2 oM (dv (vs:=[_,_]) hs rfl cI aR) rfl,H1,_,_,_,hle1,rfl,.rdg hok (fun h=>by rw [hb25.2 h] at hc26;cases hc26),hs.out⟩
  ·refine .skip ?_
   refine nT ?_
   refine .aj (.y hs (zls [_,_,_,_,_,_,_,_] aD az) ?_)
   have hr:iM s.sp r:=hb25.1 (by simpa using hc26)
   obtain ⟨g1,g2,g3,g4,g5,g6,g7⟩:=id hr
   refine .o (.call Tryz.call95 rfl (mC (s:=s) hs (h1.mono hle1) (h2.mono hle1) (h3.mono hle1) (h4.mono hle1) hok.early) ?_);rintro _ w ⟨H2,vl,enL,hle2,rfl,hOL,hs⟩
   have hle02:=hle1.trans hle2
   obtain ⟨al,ll,cl,rfl,hlL⟩:=hOL.shape
   rw [cV] at hlL
   refine .o (.alloc hs dd rfl fun b7 w hs=>?_)
   refine .o (.aZ (vs:=[_,_]) hs rfl rfl aM fun w hs=>?_)
   refine .nil (.aj (.z (zfa ez) (.y hs (zld af) (.z (zfa ew) (.y hs (zld af) (.z (zbd [_,_] fG) ?_))))))
   refine .o (.alloc hs jy rfl fun b8 w hs=>?_)
   refine .o (.aZ (vs:=[_,_]) hs rfl rfl bn fun w hs=>?_)
   refine .nil ?_
   refine .seq (.draw mix rfl hs fun w hs=>?_)
   refine .z 0 rfl (zfa aJ) ?_;refine .ys 1 rfl hs [_,_,_,_,_,_] aF aB ?_;refine .z 4 rfl (zfa aI) ?_;refine .y 5 rfl hs aU ?_;refine .ys 7 rfl hs [_,_] da bn ?_
   refine .E 2 hs ?_
   refine .call m7 rfl (dQ (s:=s.sp) hs (h1.mono hle02) (h2.mono hle02) ⟨ak,ak⟩) ?_;rintro _ w ⟨rfl,hs⟩
   refine .go ?_
   refine .z 3 rfl cH ?_
   refine .E 6 hs ?_
   refine .call lg rfl (eL (rs:=s.rs) hs (h3.mono hle02) ak) ?_;rintro v41 w ⟨H3,hle3,hT,hs⟩
   replace hT:RTd H3 v41 s.bD:=hT
   have hle03:=hle02.trans hle3
   refine .go ?_
   refine .E 8 hs ?_
   refine .call xt rfl (gL (t:=r.td) hs hT ak) ?_;rintro _ w ⟨rfl,hs⟩
   have hnn:=jR (l:=s.bD) (t:=r.td)
   have hidx: -1≤iI s.bD r.td∧iI s.bD r.td≤60:=by
    by_cases hm:r.td∈s.bD
    ·obtain ⟨k,k1,_,k3⟩:=eY hm
     omega
    ·rw [re hm];omega
   refine .go ?_
   refine .z 9 rfl cH ?_;refine .z 10 rfl zg ?_;refine .D hs ?_
   refine .cut (fun fs w=>∃H4 al ll cl enL,kB fs ⟨129,[],[(9,I (s.sp.many+1+s.tJ r.td:Int)),(7,.pointer (some ⟨b7,0,none⟩)),(4,.pointer (some ⟨b4,0,none⟩)),(3,.pointer (some ⟨b3,0,none⟩)),(2,.pointer (some ⟨b2,0,none⟩))]⟩∧HLe H3 H4∧cz 4 (.slice al ll cl) (gg (s.jD r.td).bU) enL∧St H4 w (.blk b7 [I (s.jD r.td).many,.slice al ll cl]::enL:: .blk b4 [I 0,I 0]:: .blk b3 [I r.src,I r.st,I r.wa,I 0,I r.tol,I r.tape,I r.day]:: .blk b2 [I s.sp.id,I s.sp.src,.slice ast s.sp.st.length cst,.slice awa s.sp.wa.length cwa,I s.sp.al,I s.sp.up,.slice ar s.rs.length cr,.slice ac s.cs.length cc]::σ)) ?_ ?_
   ·refine .seq (.draw mix rfl hs fun w hs=>?_)
    refine .z 0 rfl (zfa aI) ?_;refine .y 1 rfl hs aU ?_;refine .ys 3 rfl hs [_,_] da bn ?_
    refine .E 2 hs ?_
    refine .call lg rfl (eL (rs:=s.rs) hs (h3.mono hle03) ak) ?_;rintro v47 w ⟨H4,hle4,hT4,hs⟩
    replace hT4:RTd H4 v47 s.bD:=hT4
    have hle04:=hle03.trans hle4
    have hmany:s.sys.many=((s.sp.many+s.bD.length:Nat):Int):=rfl
    refine .go ?_
    refine .E 4 hs ?_
    refine .call xt rfl (gL (t:=r.td) hs hT4 ak) ?_;rintro _ w ⟨rfl,hs⟩
    refine .go ?_
    refine .z 5 rfl fD ?_;refine .D hs ?_
    refine (.bJ rfl (fun hc50=>?_) (fun hc50=>?_))
    ·refine .aj (.z (zfa bA) (.y hs (zld af) (.z cH (.z (zfa bA) ?_))))
     refine .o (.store hs rfl rfl ai fun w hs=>?_)
     refine .nil (.aj (.z (zfa bA) (.y hs (zld af) (.z zg (.nil ?_)))))
     refine .seq (.draw mix rfl hs fun w hs=>?_)
     refine .z 0 rfl (zfa bh) ?_;refine .y 1 rfl hs bT ?_;refine .z 2 rfl zm ?_;refine .z 3 rfl (zfa aJ) ?_;refine .z 4 rfl (zfa cQ) ?_;refine .y 5 rfl hs af ?_
     refine .E 6 hs ?_
     refine .call Tryz.call119 rfl (jm hs) ?_;rintro _ w ⟨b63,rfl,hs⟩
     refine .go ?_
     refine .E 7 hs ?_
     refine .append (ys:=gg (two 0 (s.sys.many+1) 1000 1000 s.sp.src)) hs bM rfl rfl hOL (.own .here rfl rfl) (iz _) (fun l h=>by rw [cV] at h;omega) ?_;intro v64 en64 w hO64 hs
     rw [←fj] at hO64
     obtain ⟨a64,l64,c64,rfl,h64⟩:=hO64.shape
     rw [cV,List.length_append] at h64
     simp only [two,List.length_cons,List.length_nil] at h64
     refine .go ?_
     refine .z 8 rfl (zfa bh) ?_
     refine .E 9 hs ?_
     refine .store hs rfl rfl ji ?_;intro w hs
     refine .go ?_
     refine .D hs ?_
     refine .draw mix rfl hs fun w hs=>?_
     refine .z 0 rfl (zfa bh) ?_;refine .y 1 rfl hs bT ?_;refine .z 2 rfl (zfa bq) ?_;refine .y 3 rfl hs cB ?_;refine .ys 4 rfl hs [_,_] da bn ?_;refine .z 5 rfl zm ?_
     refine .E 6 hs ?_
     refine .call Tryz.call120 rfl (p6 (cs:=s.cs) (t:=r.td) (f:=s.sys.many+1) hs (h4.mono hle04) hcl hok.early.2.2.2.2) ?_;rintro v72 w ⟨en72,hO72,hs⟩
     have hl72:=rX s.cs r.td (s.sys.many+1) s.cs.length
     obtain ⟨a72,l72,c72,rfl,h72⟩:=hO72.shape
     rw [cV] at h72
     refine .go ?_
     refine .E 7 hs ?_
     refine .append (ys:=gg (cdL s.cs r.td (s.sys.many+1) s.cs.length)) hs bM rfl rfl hO64 (Src.DB hO72 .here) (iz _) (fun l h=>by rw [cV,List.length_append] at h;simp only [two,List.length_cons,List.length_nil] at h;omega) ?_;intro v73 en73 w hO73 hs
     rw [←fj,List.append_assoc] at hO73
     obtain ⟨a73,l73,c73,rfl,h73⟩:=hO73.shape
     refine .go ?_
     refine .z 8 rfl (zfa bh) ?_
     refine .E 9 hs ?_
     refine .store hs rfl rfl ji ?_;intro w hs
     refine .go ?_
     refine .D hs ?_
     refine nT ?_
     have hnot:r.td∉s.bD:=fun h=>by have:=hnn.2 h;omega
     have e1:s.sys.many+1=(s.sp.many:Int)+1+(s.bD.length:Int):=by omega
     have hsys:s.jD r.td=⟨s.sys.many+1,s.bU++(two 0 (s.sys.many+1) 1000 1000 s.sp.src++cdL s.cs r.td (s.sys.many+1) s.cs.length)⟩:=by
      rw [show s.jD r.td=_ from if_neg hnot,EB,e1]
     refine ⟨H4,a73,l73,c73,en73,?_,hle4,by rw [hsys];exact hO73,by rw [hsys];exact hs.sb⟩
     refine .cn rfl ?_ a8
     unfold Srv.tJ;rw [if_neg hnot];omega
    ·refine .skip ?_
     refine nT ?_
     have hmem:r.td∈s.bD:=hnn.1 ak
     have hsys:s.jD r.td=s.sys:=if_pos hmem
     obtain ⟨k,k1,_,_⟩:=eY hmem
     refine ⟨H4,al,ll,cl,enL,?_,hle4,by rw [hsys];exact hOL,by rw [hsys];exact hs.sb⟩
     refine .cn rfl ?_ a8
     unfold Srv.tJ;rw [if_pos hmem,k1];rfl
   ·clear hOL hlL hnn hs hidx
    rintro fs w ⟨H4,al,ll,cl,enL,hfs,hle4,hOL,hs⟩
    refine WE.sub ?_ hfs
    have hle04:=hle03.trans hle4
    have hmany:s.sys.many=((s.sp.many+s.bD.length:Nat):Int):=rfl
    obtain ⟨_,_,_,e0,hlL⟩:=hOL.shape
    cases e0
    rw [cV] at hlL
    have htn:=Bk s r.td
    have hjlt:=FM s r.td
    have hmany1:(s.jD r.td).many+1=((s.jD r.td).n:Int):=by
     unfold Srv.jD
     split
     ·simp only [dj.n,Srv.sys];omega
     ·simp only [dj.n,Srv.sys];omega
    have hn70:(s.jD r.td).n≤200:=by rw [htn];split<;>omega
    have hll6:ll=(s.jD r.td).bU.length:=by omega
    refine .seq (.aj (.z (zfa bA) (.y hs (zld af) (.z kD (.z zm ?_)))))
    refine .iB (t':=78) rfl (fun hb78=>?_) (fun hb78=>?_)
    ·refine .gFs 4 3 false rfl rfl rfl ?_
     refine .z zpT (.nil ?_)
     refine (.cT ?_)
     refine .aj (.z (zbd [_,_] cq) ?_)
     refine .o (.aZ (vs:=[_,_]) hs rfl rfl aR fun w hs=>?_)
     refine .z zg (.nil ?_)
     refine .ret (rT (?_))
     exact Fin.gR [] [] hs fun w hs=>⟨_,results2 oM (dv (vs:=[_,_]) hs rfl cI aR) rfl,H4,_,_,_,hle04,rfl,.long hok hr ak,hs.out⟩
    ·refine .gT rfl rfl ?_
     refine .z (zfa bh) ?_
     refine .gT rfl rfl ?_
     refine .y hs (zld bT) ?_
     refine .gT rfl rfl ?_
     refine .z (cN aH) ?_
     refine .gT rfl rfl ?_
     refine .z kD (.z zpF (.nil ?_))
     refine (.bJ rfl (fun hc83=>?_) (fun hc83=>?_))
     ·refine .aj (.z (zbd [_,_] cq) ?_)
      refine .o (.aZ (vs:=[_,_]) hs rfl rfl aR fun w hs=>?_)
      refine .z zg (.nil ?_)
      refine .ret (rT (?_))
      exact Fin.gR [] [] hs fun w hs=>⟨_,results2 oM (dv (vs:=[_,_]) hs rfl cI aR) rfl,H4,_,_,_,hle04,rfl,.long hok hr ak,hs.out⟩
     ·refine .skip ?_
      refine nT ?_
      refine .seq (.draw mix rfl hs fun w hs=>?_)
      refine .z 0 rfl (zfa bA) ?_;refine .y 1 rfl hs af ?_;refine .z 2 rfl (zfa aJ) ?_;refine .ys 3 rfl hs [_,_,_,_,_,_] aF aB ?_;refine .z 4 rfl (zfa eO) ?_;refine .y 5 rfl hs af ?_;refine .z 6 rfl (zfa eN) ?_;refine .y 7 rfl hs af ?_
      refine .E 8 hs ?_
      have hfit:(s.jD r.td).many≤64∧(s.jD r.td).bU.length≤400:=by omega
      obtain ⟨u1,u2,u3⟩:=yN hr
      have hub:=sh u1 u2
      refine .call fL rfl (cP (s:=s.sp) hs (h2.mono hle04) ak ⟨ak,ak⟩ ⟨ak,ak⟩) ?_;rintro _ w ⟨rfl,hs⟩
      rw [u3]
      refine .go ?_
      refine .E 9 hs ?_
      refine .call Tryz.call96 rfl (uW (n:=(s.jD r.td).n) (u:=s.sp.u r.st.toNat r.wa.toNat) hs hmany1 ak ak) ?_;rintro _ w ⟨b94,rfl,hs⟩
      refine .go ?_
      refine .z 10 rfl zg ?_;refine .D hs ?_
      refine .aj (.z zm (.z zm ?_))
      refine .q hs (ef (k:=s.sp.many+1+s.tJ r.td) rfl rfl ae ai ak ak) ?_
      refine .o (.store (c':=Is (s.tW r)) hs rfl rfl ai ?_ cU (by simp [Is,gD];omega) (lF _ _ _));intro w hs
      refine .nil (.aj (.y hs (zls [_,_] bp aM) (.z zm ?_)))
      have hwl:(s.tW r).length=(s.jD r.td).n:=by simp [Srv.tW,gD]
      obtain ⟨H5,hle5,hW,hs⟩:=cz.cK (xs:=s.tW r) (v:= .slice (some ⟨b94,0,none⟩) (s.jD r.td).n (s.jD r.td).n) (.full (by simp [Is,hwl])) ak hs cU
      obtain ⟨H6,hle6,hL6,hs⟩:=cz.cO (m:=4) (cs:=(s.jD r.td).bU.map Lim.c) hOL (fun c hc=>by simp only [List.mem_map] at hc;obtain ⟨x,_,rfl⟩:=hc;rfl) ak (by rw [List.length_map];omega) hs cU
      refine .o (.call Tryz.call88 rfl (sJ (s:=s.jD r.td) hs ⟨_,rfl,hL6⟩ (hW.mono hle6)) ?_);rintro _ w ⟨H7,a,b,f,hle7,rfl,hRg,hs⟩
      have hbd:=hRg.bd
      have hleF:=hle04.trans (hle5.trans (hle6.trans hle7))
      refine .z zm (.z zex (.z zex (.z zex (.z zg (.z zg (.z zg (.nil (.seq (.aj ?_)))))))))
      refine .z zm (.z gP (.nil ?_))
      refine (.eI rfl (fun hc106=>?_) (fun hc106=>?_))
      ·refine .aj (.z (zbd [_,_] cq) ?_)
       refine .o (.aZ (vs:=[_,_]) hs rfl rfl aR fun w hs=>?_)
       refine .z zg (.nil ?_)
       refine .ret (rT (?_))
       exact Fin.gR [] [] hs fun w hs=>⟨_,results2 oM (dv (vs:=[_,_]) hs rfl cI aR) rfl,H7,_,_,_,hleF,rfl,.fls hok hr hfit hRg hc106,hs.out⟩
      ·refine .skip ?_
       refine nT ?_
       refine .aj ?_
       obtain rfl:f=0:=by simpa using hc106
       refine .z zm (.z (zfa cf) (.y hs (zld af) (.z gO (.z CJ (.z zm (.z (zfa cf) (.y hs (zld af) (.z cH (.z (zfa cf) ?_)))))))))
       refine .y hs (zld af) (.z gO (.z zw (.z (zbd [_,_] cq) ?_)))
       refine .o (.alloc hs eQ rfl fun b14 w hs=>?_)
       refine .o (.aZ (vs:=[_,_]) hs rfl rfl aR fun w hs=>?_)
       refine .nil (.seq (.aj (.z (zfa oT) (.y hs (zld af) (.z (zfa oS) (.y hs (zld af) (.z kD (.nil ?_))))))))
       refine (.bJ rfl (fun hc126=>?_) (fun hc126=>?_))
       ·refine .aj (.z (zbd [_,_] cq) ?_)
        refine .o (.aZ (vs:=[_,_]) hs rfl rfl aR fun w hs=>?_)
        refine .z zg (.nil ?_)
        refine .ret (rT (?_))
        exact Fin.gR [] [] hs fun w hs=>⟨_,results2 oM (dv (vs:=[_,_]) hs rfl cI aR) rfl,H7,_,_,_,hleF,rfl,.none hok hr hfit hRg ak,hs.out⟩
       ·refine .skip ?_
        refine nT ?_
        refine .aj (.y hs (zls [_,_] cI aR) ?_)
        refine .o (.aZ (vs:=[_,_]) hs rfl rfl aR fun w hs=>?_)
        refine .z zg (.nil ?_)
        refine .ret ?_
        rw [Int.max_comm] at hs
        exact Fin.gR [] [] hs fun w hs=>⟨_,results2 oM (dv (vs:=[_,_]) hs rfl cI aR) rfl,H7,_,_,_,hleF,rfl,.ok hok hr hfit hRg ak,hs.out⟩
theorem sC{v:Value}{xs:List Rdg}(hs:St H w σ)(hr:RRd H v xs)(hx:xs.length≤1000000):Cl Tryz.prog 198 [v] w fun v w'=>∃en,cz 7 v (rdc xs).flatten en∧St H w' (en::σ):=by
 obtain ⟨a,c,rfl⟩:=RRd.shape hr
 refine Cl.o Tryz.func198 Tryz.ntmps198 ag1 ?_
 refine .aj (.z zg (.nil (.seq (.aj (.z zm ?_)))))
 refine .q hs (BH rfl rfl aA) ?_
 refine .nil ?_
 refine (.cond rfl (fun hc4=>?_) (fun hc4=>?_))
 ·refine .aj (.z zg (.nil ?_))
  refine .ret (rT (Fin.bK Tryz.results198 rfl ?_))
  obtain rfl:a=none:=by simpa using hc4
  obtain rfl:=RRd.BT hr
  exact ⟨.nul,.nil 7 none,hs.nul⟩
 ·refine .skip ?_
  refine nT ?_
  refine .aj ?_
  refine .o (.buildSlice (cells:=[]) hs gn rfl rfl fun b5 w hs=>?_)
  refine .z zm ?_
  refine .o (.append (xs:=[]) (ys:=(rdc xs).flatten) hs bH rfl rfl (.full (len:=0) rfl) (xd hr) (s6 xs) (fun l h=>by simp at h;omega) ?_);intro v7 en7 w hO hs
  refine .z zg (.nil ?_)
  refine .ret (Fin.bK Tryz.results198 rfl ?_)
  exact ⟨en7,hO,hs⟩
theorem sD{v:Value}{xs:List Cmp}(hs:St H w σ)(hr:RCm H v xs)(hx:xs.length≤1000000):Cl Tryz.prog 199 [v] w fun v w'=>∃en,cz 6 v (cmc xs).flatten en∧St H w' (en::σ):=by
 obtain ⟨a,c,rfl⟩:=RCm.shape hr
 refine Cl.o Tryz.func199 Tryz.ntmps199 ag1 ?_
 refine .aj (.z zg (.nil (.seq (.aj (.z zm ?_)))))
 refine .q hs (BH rfl rfl aN) ?_
 refine .nil ?_
 refine (.cond rfl (fun hc4=>?_) (fun hc4=>?_))
 ·refine .aj (.z zg (.nil ?_))
  refine .ret (rT (Fin.bK Tryz.results199 rfl ?_))
  obtain rfl:a=none:=by simpa using hc4
  obtain rfl:=RCm.BT hr
  exact ⟨.nul,.nil 6 none,hs.nul⟩
 ·refine .skip ?_
  refine nT ?_
  refine .aj ?_
  refine .o (.buildSlice (cells:=[]) hs gp rfl rfl fun b5 w hs=>?_)
  refine .z zm ?_
  refine .o (.append (xs:=[]) (ys:=(cmc xs).flatten) hs dH rfl rfl (.full (len:=0) rfl) (xe hr) (tj xs) (fun l h=>by simp at h;omega) ?_);intro v7 en7 w hO hs
  refine .z zg (.nil ?_)
  refine .ret (Fin.bK Tryz.results199 rfl ?_)
  exact ⟨en7,hO,hs⟩
set_option maxHeartbeats 1000000 in
theorem py{s:Srv}{vst vwa vr vc:Value}(hs:St H w σ)(h1:RI H vst s.sp.st)(h2:RI H vwa s.sp.wa)(h3:RRd H vr s.rs)(h4:RCm H vc s.cs)
  (l1:s.sp.st.length≤1000000) (l2:s.sp.wa.length≤1000000) (l3:s.rs.length≤1000000) (l4:s.cs.length≤1000000):
  Cl Tryz.prog 122 [.agg #[I s.sp.id,I s.sp.src,vst,vwa,I s.sp.al,I s.sp.up,vr,vc]] w fun u w'=>∃ust uwa ur uc e1 e2 e3 e4,u= .agg #[I s.sp.id,I s.sp.src,ust,uwa,I s.sp.al,I s.sp.up,ur,uc]∧Cy s ust uwa ur uc e1 e2 e3 e4∧St H w' (e1::e2::e3::e4::σ):=by
 obtain ⟨ast,cst,rfl⟩:=RI.shape h1
 obtain ⟨awa,cwa,rfl⟩:=RI.shape h2
 obtain ⟨ar,cr,rfl⟩:=RRd.shape h3
 obtain ⟨ac,cc,rfl⟩:=RCm.shape h4
 refine Cl.o Tryz.func122 Tryz.ntmps122 ag1 ?_
 refine .aj ?_
 refine .bx hs fun b1 w hs=>?_
 refine .o (.alloc hs ck rfl fun b2 w hs=>?_)
 refine .nil ?_
 refine .seq (.draw mix rfl hs fun w hs=>?_)
 refine .z 0 rfl (zfa aJ) ?_;refine .z 1 rfl (zfa bj) ?_;refine .y 2 rfl hs an ?_;refine .z 4 rfl (zfa aJ) ?_;refine .z 5 rfl (zfa aS) ?_;refine .y 6 rfl hs an ?_
 refine .E 3 hs ?_
 refine .call Tryz.call197 rfl (iT hs h1 ak) ?_;rintro v6 w ⟨e1,hO1,hs⟩
 obtain ⟨a6,c6,rfl⟩:=hO1.kL
 refine .go ?_
 refine .z 8 rfl (zfa aJ) ?_;refine .z 9 rfl (zfa bj) ?_
 refine .E 7 hs ?_
 refine .call Tryz.call197 rfl (iT hs h2 ak) ?_;rintro v10 w ⟨e2,hO2,hs⟩
 obtain ⟨a10,c10,rfl⟩:=hO2.kL
 refine .go ?_
 refine .E 10 hs ?_
 refine .store hs rfl rfl aC ?_;intro w hs
 refine .go ?_
 refine .z 11 rfl (zfa aJ) ?_;refine .z 12 rfl (zfa aS) ?_
 refine .E 13 hs ?_
 refine .store hs rfl rfl aC ?_;intro w hs
 refine .go ?_
 refine .D hs ?_
 refine .seq (.draw mix rfl hs fun w hs=>?_)
 refine .z 0 rfl (zfa aI) ?_;refine .y 1 rfl hs aU ?_;refine .z 3 rfl (zfa bq) ?_;refine .y 4 rfl hs cB ?_
 refine .E 2 hs ?_
 refine .call Tryz.call198 rfl (sC hs h3 ak) ?_;rintro v17 w ⟨e3,hO3,hs⟩
 obtain ⟨a17,c17,rfl⟩:=hO3.fM (gd _) ak
 refine .go ?_
 refine .z 6 rfl (zfa aI) ?_
 refine .E 5 hs ?_
 refine .call Tryz.call199 rfl (sD hs h4 ak) ?_;rintro v20 w ⟨e4,hO4,hs⟩
 obtain ⟨a20,c20,rfl⟩:=hO4.fM (lK _) ak
 refine .go ?_
 refine .E 7 hs ?_
 refine .store hs rfl rfl ib ?_;intro w hs
 refine .go ?_
 refine .z 8 rfl (zfa bq) ?_
 refine .E 9 hs ?_
 refine .store hs rfl rfl FD ?_;intro w hs
 refine .go ?_
 refine .D hs ?_
 refine .aj (.y hs (zls [_,_,_,_,_,_,_,_] aD az) ?_)
 refine .o (.aZ (vs:=[_,_,_,_,_,_,_,_]) hs rfl rfl az fun w hs=>?_)
 refine .nil ?_
 refine .ret ?_
 exact Fin.gR [] [] hs fun w hs=>⟨_,results1 Tryz.results122 (dv (vs:=[_,_,_,_,_,_,_,_]) hs rfl aD az),_,_,_,_,e1,e2,e3,e4,rfl,⟨hO1,hO2,hO3,hO4⟩,hs.sb⟩
set_option maxHeartbeats 1000000 in
theorem tR{s:Srv}{vst vwa vr vc:Value}(hs:St H w σ)(h1:RI H vst s.sp.st)(h2:RI H vwa s.sp.wa)(h3:RRd H vr s.rs)(h4:RCm H vc s.cs)
  (l1:s.sp.st.length≤1000000) (l2:s.sp.wa.length≤1000000) (l3:s.rs.length≤1000000) (l4:s.cs.length≤1000000):
  Cl Tryz.prog 123 [.agg #[I s.sp.id,I s.sp.src,vst,vwa,I s.sp.al,I s.sp.up,vr,vc]] w fun u w'=>∃ust uwa ur uc e1 e2 e3 e4,u= .agg #[I s.sp.id,I s.sp.src,ust,uwa,I s.sp.al,I s.sp.up,ur,uc]∧Cy s ust uwa ur uc e1 e2 e3 e4∧St H w' (e1::e2::e3::e4::σ):=by
 obtain ⟨ast,cst,rfl⟩:=RI.shape h1
 obtain ⟨awa,cwa,rfl⟩:=RI.shape h2
 obtain ⟨ar,cr,rfl⟩:=RRd.shape h3
 obtain ⟨ac,cc,rfl⟩:=RCm.shape h4
 refine Cl.o Tryz.func123 Tryz.ntmps123 ag1 ?_
 refine .aj ?_
 refine .bx hs fun b1 w hs=>?_
 refine .o (.alloc hs ck rfl fun b2 w hs=>?_)
 refine .nil (.aj (.z (zfa aJ) (.y hs (zls [_,_,_,_,_,_] aF aB) ?_)))
 refine .o (.alloc hs gh rfl fun b3 w hs=>?_)
 refine .o (.aZ (vs:=[_,_,_,_,_,_]) hs rfl rfl aB fun w hs=>?_)
 refine .nil (.aj ?_)
 refine .o (.buildSlice (cells:=[]) hs fT rfl rfl fun b6 w hs=>?_)
 refine .z (zfa bj) (.y hs (zld an) ?_)
 refine .o (.append (xs:=[]) (ys:=Is s.sp.st) hs bg rfl rfl (.full (len:=0) rfl) (.ints h1) (dM _) (fun l h=>by simp at h;omega) ?_);intro v9 e1 w hO1 hs
 rw [List.nil_append] at hO1
 obtain ⟨a9,c9,rfl⟩:=hO1.kL
 refine .z (zfa bj) ?_
 refine .o (.store hs rfl rfl aC fun w hs=>?_)
 refine .nil (.aj ?_)
 refine .o (.buildSlice (cells:=[]) hs fT rfl rfl fun b11 w hs=>?_)
 refine .z (zfa aS) (.y hs (zld an) ?_)
 refine .o (.append (xs:=[]) (ys:=Is s.sp.wa) hs bg rfl rfl (.full (len:=0) rfl) (.ints h2) (dM _) (fun l h=>by simp at h;omega) ?_);intro v14 e2 w hO2 hs
 rw [List.nil_append] at hO2
 obtain ⟨a14,c14,rfl⟩:=hO2.kL
 refine .z (zfa aS) ?_
 refine .o (.store hs rfl rfl aC fun w hs=>?_)
 refine .nil ?_
 refine .seq (.draw mix rfl hs fun w hs=>?_)
 refine .ys 0 rfl hs [_,_,_,_,_,_] aF aB ?_;refine .z 2 rfl (zfa aI) ?_;refine .y 3 rfl hs aU ?_;refine .z 6 rfl (zfa bq) ?_;refine .y 7 rfl hs cB ?_
 refine .e2 (i:=1) (j:=5) aq rfl rfl rfl rfl .none .none hs ?_ ?_
 ·refine .buildSlice (cells:=[]) hs gn rfl rfl ?_;intro b17 w hs
  refine .go ?_
  refine .e2 (i:=4) (j:=5) aq rfl rfl rfl rfl .none .none hs ?_ ?_
  ·refine .append (xs:=[]) (ys:=(rdc s.rs).flatten) hs bH rfl rfl (.full (len:=0) rfl) (xd h3) (s6 _) (fun l h=>by simp at h;omega) ?_;intro v20 e3 w hO3 hs
   rw [List.nil_append] at hO3
   obtain ⟨a20,c20,rfl⟩:=hO3.fM (gd _) ak
   rw [cA] at hO3 ⊢
   refine .go ?_
   refine .E 5 hs ?_
   refine .buildSlice (cells:=[]) hs gp rfl rfl ?_;intro b21 w hs
   refine .go ?_
   refine .E 8 hs ?_
   refine .append (xs:=[]) (ys:=(cmc s.cs).flatten) hs dH rfl rfl (.full (len:=0) rfl) (xe h4) (tj _) (fun l h=>by simp at h;omega) ?_;intro v24 e4 w hO4 hs
   rw [List.nil_append] at hO4
   obtain ⟨a24,c24,rfl⟩:=hO4.fM (lK _) ak
   rw [dY] at hO4 ⊢
   refine .go ?_
   refine .z 9 rfl (zbd (vs:=[(0,.agg #[I s.sp.id,I s.sp.src,.slice a9 s.sp.st.length c9,.slice a14 s.sp.wa.length c14,I s.sp.al,I s.sp.up]),(1,.slice a20 s.rs.length c20),(2,.slice a24 s.cs.length c24)]) [I s.sp.id,I s.sp.src,.slice a9 s.sp.st.length c9,.slice a14 s.sp.wa.length c14,I s.sp.al,I s.sp.up,.slice a20 s.rs.length c20,.slice a24 s.cs.length c24] eo rfl aq) ?_
   refine .E 10 hs ?_
   refine .aZ (vs:=[_,_,_,_,_,_,_,_]) hs rfl rfl az ?_;intro w hs
   refine .go ?_
   refine .D hs ?_
   refine .ret ?_
   exact Fin.gR [] [] hs fun w hs=>⟨_,results1 Tryz.results123 (dv (vs:=[_,_,_,_,_,_,_,_]) hs rfl aD az),_,_,_,_,e1,e2,e3,e4,rfl,⟨hO1,hO2,hO3,hO4⟩,hs.sb⟩
  ·refine .buildSlice (cells:=[]) hs gp rfl rfl ?_;intro b21 w hs
   refine .go ?_
   refine .E 4 hs ?_
   refine .append (xs:=[]) (ys:=(rdc s.rs).flatten) hs bH rfl rfl (.full (len:=0) rfl) (xd h3) (s6 _) (fun l h=>by simp at h;omega) ?_;intro v20 e3 w hO3 hs
   rw [List.nil_append] at hO3
   obtain ⟨a20,c20,rfl⟩:=hO3.fM (gd _) ak
   rw [cA] at hO3 ⊢
   refine .go ?_
   refine .E 8 hs ?_
   refine .append (xs:=[]) (ys:=(cmc s.cs).flatten) hs dH rfl rfl (.full (len:=0) rfl) (xe h4) (tj _) (fun l h=>by simp at h;omega) ?_;intro v24 e4 w hO4 hs
   rw [List.nil_append] at hO4
   obtain ⟨a24,c24,rfl⟩:=hO4.fM (lK _) ak
   rw [dY] at hO4 ⊢
   refine .go ?_
   refine .z 9 rfl (zbd (vs:=[(0,.agg #[I s.sp.id,I s.sp.src,.slice a9 s.sp.st.length c9,.slice a14 s.sp.wa.length c14,I s.sp.al,I s.sp.up]),(1,.slice a20 s.rs.length c20),(2,.slice a24 s.cs.length c24)]) [I s.sp.id,I s.sp.src,.slice a9 s.sp.st.length c9,.slice a14 s.sp.wa.length c14,I s.sp.al,I s.sp.up,.slice a20 s.rs.length c20,.slice a24 s.cs.length c24] eo rfl aq) ?_
   refine .E 10 hs ?_
   refine .aZ (vs:=[_,_,_,_,_,_,_,_]) hs rfl rfl az ?_;intro w hs
   refine .go ?_
   refine .D hs ?_
   refine .ret ?_
   exact Fin.gR [] [] hs fun w hs=>⟨_,results1 Tryz.results123 (dv (vs:=[_,_,_,_,_,_,_,_]) hs rfl aD az),_,_,_,_,e1,e2,e3,e4,rfl,⟨hO1,hO2,hO3,hO4⟩,hs.sb⟩
 ·refine .buildSlice (cells:=[]) hs gp rfl rfl ?_;intro b21 w hs
  refine .go ?_
  refine .E 1 hs ?_
  refine .buildSlice (cells:=[]) hs gn rfl rfl ?_;intro b17 w hs
  refine .go ?_
  refine .E 4 hs ?_
  refine .append (xs:=[]) (ys:=(rdc s.rs).flatten) hs bH rfl rfl (.full (len:=0) rfl) (xd h3) (s6 _) (fun l h=>by simp at h;omega) ?_;intro v20 e3 w hO3 hs
  rw [List.nil_append] at hO3
  obtain ⟨a20,c20,rfl⟩:=hO3.fM (gd _) ak
  rw [cA] at hO3 ⊢
  refine .go ?_
  refine .E 8 hs ?_
  refine .append (xs:=[]) (ys:=(cmc s.cs).flatten) hs dH rfl rfl (.full (len:=0) rfl) (xe h4) (tj _) (fun l h=>by simp at h;omega) ?_;intro v24 e4 w hO4 hs
  rw [List.nil_append] at hO4
  obtain ⟨a24,c24,rfl⟩:=hO4.fM (lK _) ak
  rw [dY] at hO4 ⊢
  refine .go ?_
  refine .z 9 rfl (zbd (vs:=[(0,.agg #[I s.sp.id,I s.sp.src,.slice a9 s.sp.st.length c9,.slice a14 s.sp.wa.length c14,I s.sp.al,I s.sp.up]),(1,.slice a20 s.rs.length c20),(2,.slice a24 s.cs.length c24)]) [I s.sp.id,I s.sp.src,.slice a9 s.sp.st.length c9,.slice a14 s.sp.wa.length c14,I s.sp.al,I s.sp.up,.slice a20 s.rs.length c20,.slice a24 s.cs.length c24] eo rfl aq) ?_
  refine .E 10 hs ?_
  refine .aZ (vs:=[_,_,_,_,_,_,_,_]) hs rfl rfl az ?_;intro w hs
  refine .go ?_
  refine .D hs ?_
  refine .ret ?_
  exact Fin.gR [] [] hs fun w hs=>⟨_,results1 Tryz.results123 (dv (vs:=[_,_,_,_,_,_,_,_]) hs rfl aD az),_,_,_,_,e1,e2,e3,e4,rfl,⟨hO1,hO2,hO3,hO4⟩,hs.sb⟩
set_option maxHeartbeats 2000000 in
theorem rF{s:Srv}{r:Rdg}{vst vwa vr vc:Value}(hs:St H w σ)(h1:RI H vst s.sp.st)(h2:RI H vwa s.sp.wa)(h3:RRd H vr s.rs)(h4:RCm H vc s.cs):
  Cl Tryz.prog 48 [.agg #[I s.sp.id,I s.sp.src,vst,vwa,I s.sp.al,I s.sp.up,vr,vc],.agg #[I r.src,I r.st,I r.wa,I r.val,I r.tol,I r.tape,I r.day]] w fun u w'=>∃H1 v t e,HLe H H1∧u= .tuple #[v,I e]∧RSv H1 v t∧xb s r t e∧St H1 w' σ:=by
 obtain ⟨ast,cst,rfl⟩:=RI.shape h1
 obtain ⟨awa,cwa,rfl⟩:=RI.shape h2
 obtain ⟨ar,cr,rfl⟩:=RRd.shape h3
 obtain ⟨ac,cc,rfl⟩:=RCm.shape h4
 refine Cl.o Tryz.func48 Tryz.ntmps48 ag2 ?_
 refine .aj ?_
 refine .bx hs fun b2 w hs=>?_
 refine .bx hs fun b3 w hs=>?_
 refine .o (.alloc hs ck rfl fun b4 w hs=>?_)
 refine .z zg (.nil (.seq (.aj (.y hs (zls [_,_,_,_,_,_,_,_] aD az) ?_))))
 refine .o (.call jQ rfl (dp (s:=s) hs h1 h2 h3 h4) ?_);rintro _ w ⟨H1,e,hle1,rfl,hC,hs⟩
 refine .z zg (.nil (.aj (.z zm (.z gP (.nil ?_)))))
 refine (.eI rfl (fun hc11=>?_) (fun hc11=>?_))
 ·refine .aj (.z (zbd [_,_,_,_,_,_,_,_] eo) (.z zm ?_))
  refine .o (.aZ (vs:=[_,_,_,_,_,_,_,_]) hs rfl rfl az fun w hs=>?_)
  refine .z zg (.nil ?_)
  refine .ret (rT (?_))
  exact Fin.gR [] [] hs fun w hs=>⟨_,results2 Tryz.results48 (dv (vs:=[_,_,_,_,_,_,_,_]) hs rfl aD az) rfl,H1,_,_,_,hle1,rfl,Fy _,.bad hC hc11,hs.out⟩
 ·refine .skip ?_
  refine nT ?_
  refine .seq (.aj (.z (zfa aJ) (.y hs (zls [_,_,_,_,_,_] aF aB) (.y hs (zls [_,_,_,_,_,_,_] bZ aE) ?_))))
  have hok:eD s:=hC.cD.1 (by simpa using hc11)
  have hsm:=dK hok.early.1
  have hrl:=hok.early.2.1
  have hcl:=hok.early.2.2.1
  refine .o (.call Tryz.call107 rfl (gU (s:=s.sp) (r:=r) hs (h1.mono hle1) (h2.mono hle1)) ?_);rintro _ w ⟨b17,rfl,hb17,hs⟩
  refine .z iD (.nil ?_)
  refine (.cond rfl (fun hc18=>?_) (fun hc18=>?_))
  ·refine .aj (.z (zbd [_,_,_,_,_,_,_,_] eo) ?_)
   refine .o (.aZ (vs:=[_,_,_,_,_,_,_,_]) hs rfl rfl az fun w hs=>?_)
   refine .z zg (.nil ?_)
   refine .ret (rT (?_))
   exact Fin.gR [] [] hs fun w hs=>⟨_,results2 Tryz.results48 (dv (vs:=[_,_,_,_,_,_,_,_]) hs rfl aD az) rfl,H1,_,_,_,hle1,rfl,Fy _,.rdg hok (fun h=>by rw [hb17.2 h] at hc18;cases hc18),hs.out⟩
  ·refine .skip ?_
   refine nT ?_
   refine .aj (.y hs (zls [_,_,_,_,_,_,_,_] aD az) ?_)
   have hr:iM s.sp r:=hb17.1 (by simpa using hc18)
   refine .o (.call Tryz.call122 rfl (py (s:=s) hs (h1.mono hle1) (h2.mono hle1) (h3.mono hle1) (h4.mono hle1) ak ak ak ak) ?_);rintro _ w ⟨ust,uwa,ur,uc,e1,e2,e3,e4,rfl,⟨hO1,hO2,hO3,hO4⟩,hs⟩
   obtain ⟨a1,c1,rfl⟩:=hO1.kL
   obtain ⟨a2,c2,rfl⟩:=hO2.kL
   obtain ⟨a3,c3,rfl⟩:=hO3.fM (gd _) ak
   obtain ⟨a4,c4,rfl⟩:=hO4.fM (lK _) ak
   rw [cA] at hO3 ⊢
   rw [dY] at hO4 ⊢
   refine .o (.alloc hs ck rfl fun b7 w hs=>?_)
   refine .o (.aZ (vs:=[_,_,_,_,_,_,_,_]) hs rfl rfl az fun w hs=>?_)
   refine .nil (.aj (.z (zfa aI) (.y hs (zld aU) (.y hs (zls [_,_,_,_,_,_,_] bZ aE) ?_))))
   refine .o (.buildSlice (cells:=r.c) hs dZ rfl aq fun b25 w hs=>?_)
   refine .o (.append (ys:=r.c) hs bH rfl rfl hO3 (.own .here rfl rfl) (by simp [Rdg.c,Value.oneCell']) (fun l' h=>by rw [cu _ (gd _),cA] at h;omega) ?_);intro v26 e3' w hO26 hs
   rw [←mn] at hO26
   obtain ⟨a26,c26,rfl⟩:=hO26.fM (gd _) ak
   rw [cA] at hO26 ⊢
   refine .z (zfa aI) ?_
   refine .o (.store hs rfl rfl ib fun w hs=>?_)
   refine .nil (.seq (.aj (.y hs (zls [_,_,_,_,_,_,_,_] aD az) ?_)))
   obtain ⟨H2,g1,r1,hs⟩:=cz.cK hO1 ak hs cU
   obtain ⟨H3,g2,r2,hs⟩:=cz.cK hO2 ak hs cU
   obtain ⟨H4,g3,r3,hs⟩:=cz.cO (m:=7) (cs:=rdc (s.rs++[r])) hO26 (gd _) ak (by rw [cA];simp;omega) hs cU
   obtain ⟨H5,g4,r4,hs⟩:=cz.cO (m:=6) (cs:=cmc s.cs) hO4 (lK _) ak (by rw [dY];omega) hs cU
   replace r1:=r1.mono (g2.trans (g3.trans g4))
   replace r2:=r2.mono (g3.trans g4)
   replace r3:RRd H5 _ (s.rs++[r]):=RRd.mono r3 g4
   replace r4:RCm H5 _ s.cs:=r4
   have hle5:=hle1.trans (g1.trans (g2.trans (g3.trans g4)))
   refine .o (.call jQ rfl (dp (s:=s.add r) hs r1 r2 r3 r4) ?_);rintro _ w ⟨H6,e,hle6,rfl,hC2,hs⟩
   have hleF:=hle5.trans hle6
   refine .z gP (.nil ?_)
   refine (.eI rfl (fun hc30=>?_) (fun hc30=>?_))
   ·refine .aj (.z (zbd [_,_,_,_,_,_,_,_] eo) ?_)
    refine .o (.aZ (vs:=[_,_,_,_,_,_,_,_]) hs rfl rfl az fun w hs=>?_)
    refine .z zg (.nil ?_)
    refine .ret (rT (?_))
    exact Fin.gR [] [] hs fun w hs=>⟨_,results2 Tryz.results48 (dv (vs:=[_,_,_,_,_,_,_,_]) hs rfl aD az) rfl,H6,_,_,_,hleF,rfl,Fy _,.long hok hr (fun h=>hc30 (hC2.cD.2 h)),hs.out⟩
   ·refine .skip ?_
    refine nT ?_
    refine .aj (.y hs (zls [_,_,_,_,_,_,_,_] aD az) ?_)
    refine .o (.aZ (vs:=[_,_,_,_,_,_,_,_]) hs rfl rfl az fun w hs=>?_)
    refine .z zg (.nil ?_)
    refine .ret ?_
    exact Fin.gR [] [] hs fun w hs=>⟨_,results2 Tryz.results48 (dv (vs:=[_,_,_,_,_,_,_,_]) hs rfl aD az) rfl,H6,_,s.add r,_,hleF,rfl,⟨_,_,_,_,rfl,r1.mono hle6,r2.mono hle6,r3.mono hle6,r4.mono hle6⟩,.ok hok hr (hC2.cD.1 (by simpa using hc30)),hs.out⟩
set_option maxHeartbeats 2000000 in
theorem tO{s:Srv}{r:Rdg}{vst vwa vr vc:Value}(hs:St H w σ)(h1:RI H vst s.sp.st)(h2:RI H vwa s.sp.wa)(h3:RRd H vr s.rs)(h4:RCm H vc s.cs):
  Cl Tryz.prog 49 [.agg #[I s.sp.id,I s.sp.src,vst,vwa,I s.sp.al,I s.sp.up,vr,vc],.agg #[I r.src,I r.st,I r.wa,I r.val,I r.tol,I r.tape,I r.day]] w fun u w'=>∃H1 v t e,HLe H H1∧u= .tuple #[v,I e]∧RSv H1 v t∧xb s r t e∧St H1 w' σ:=by
 obtain ⟨ast,cst,rfl⟩:=RI.shape h1
 obtain ⟨awa,cwa,rfl⟩:=RI.shape h2
 obtain ⟨ar,cr,rfl⟩:=RRd.shape h3
 obtain ⟨ac,cc,rfl⟩:=RCm.shape h4
 refine Cl.o Tryz.func49 Tryz.ntmps49 ag2 ?_
 refine .aj ?_
 refine .bx hs fun b2 w hs=>?_
 refine .bx hs fun b3 w hs=>?_
 refine .o (.alloc hs ck rfl fun b4 w hs=>?_)
 refine .z zg (.nil (.aj (.y hs (zls [_,_,_,_,_,_,_,_] aD az) ?_)))
 refine .o (.call sf rfl (eM (s:=s) hs h1 h2 h3 h4) ?_);rintro _ w ⟨H1,e,hle1,rfl,hC,hs⟩
 refine .z zg (.nil (.seq (.aj (.z zm (.z gP (.nil ?_))))))
 refine (.eI rfl (fun hc11=>?_) (fun hc11=>?_))
 ·refine .aj (.z (zbd [_,_,_,_,_,_,_,_] eo) (.z zm ?_))
  refine .o (.aZ (vs:=[_,_,_,_,_,_,_,_]) hs rfl rfl az fun w hs=>?_)
  refine .z zg (.nil ?_)
  refine .ret (rT (?_))
  exact Fin.gR [] [] hs fun w hs=>⟨_,results2 Tryz.results49 (dv (vs:=[_,_,_,_,_,_,_,_]) hs rfl aD az) rfl,H1,_,_,_,hle1,rfl,Fy _,.bad hC hc11,hs.out⟩
 ·refine .skip ?_
  refine nT ?_
  refine .seq (.aj (.z (zfa aJ) (.y hs (zls [_,_,_,_,_,_] aF aB) (.y hs (zls [_,_,_,_,_,_,_] bZ aE) ?_))))
  have hok:eD s:=hC.cD.1 (by simpa using hc11)
  have hsm:=dK hok.early.1
  have hrl:=hok.early.2.1
  have hcl:=hok.early.2.2.1
  refine .o (.call Tryz.call109 rfl (fm (s:=s.sp) (r:=r) hs (h1.mono hle1) (h2.mono hle1)) ?_);rintro _ w ⟨b17,rfl,hb17,hs⟩
  refine .z iD (.nil ?_)
  refine (.cond rfl (fun hc18=>?_) (fun hc18=>?_))
  ·refine .aj (.z (zbd [_,_,_,_,_,_,_,_] eo) ?_)
   refine .o (.aZ (vs:=[_,_,_,_,_,_,_,_]) hs rfl rfl az fun w hs=>?_)
   refine .z zg (.nil ?_)
   refine .ret (rT (?_))
   exact Fin.gR [] [] hs fun w hs=>⟨_,results2 Tryz.results49 (dv (vs:=[_,_,_,_,_,_,_,_]) hs rfl aD az) rfl,H1,_,_,_,hle1,rfl,Fy _,.rdg hok (fun h=>by rw [hb17.2 h] at hc18;cases hc18),hs.out⟩
  ·refine .skip ?_
   refine nT ?_
   refine .aj (.y hs (zls [_,_,_,_,_,_,_,_] aD az) ?_)
   have hr:iM s.sp r:=hb17.1 (by simpa using hc18)
   refine .o (.call Tryz.call123 rfl (tR (s:=s) hs (h1.mono hle1) (h2.mono hle1) (h3.mono hle1) (h4.mono hle1) ak ak ak ak) ?_);rintro _ w ⟨ust,uwa,ur,uc,e1,e2,e3,e4,rfl,⟨hO1,hO2,hO3,hO4⟩,hs⟩
   obtain ⟨a1,c1,rfl⟩:=hO1.kL
   obtain ⟨a2,c2,rfl⟩:=hO2.kL
   obtain ⟨a3,c3,rfl⟩:=hO3.fM (gd _) ak
   obtain ⟨a4,c4,rfl⟩:=hO4.fM (lK _) ak
   rw [cA] at hO3 ⊢
   rw [dY] at hO4 ⊢
   refine .o (.alloc hs ck rfl fun b7 w hs=>?_)
   refine .o (.aZ (vs:=[_,_,_,_,_,_,_,_]) hs rfl rfl az fun w hs=>?_)
   refine .nil (.aj (.z (zfa aI) (.y hs (zld aU) (.y hs (zls [_,_,_,_,_,_,_] bZ aE) ?_))))
   refine .o (.buildSlice (cells:=r.c) hs dZ rfl aq fun b25 w hs=>?_)
   refine .o (.append (ys:=r.c) hs bH rfl rfl hO3 (.own .here rfl rfl) (by simp [Rdg.c,Value.oneCell']) (fun l' h=>by rw [cu _ (gd _),cA] at h;omega) ?_);intro v26 e3' w hO26 hs
   rw [←mn] at hO26
   obtain ⟨a26,c26,rfl⟩:=hO26.fM (gd _) ak
   rw [cA] at hO26 ⊢
   refine .z (zfa aI) ?_
   refine .o (.store hs rfl rfl ib fun w hs=>?_)
   refine .nil (.seq (.aj (.y hs (zls [_,_,_,_,_,_,_,_] aD az) ?_)))
   obtain ⟨H2,g1,r1,hs⟩:=cz.cK hO1 ak hs cU
   obtain ⟨H3,g2,r2,hs⟩:=cz.cK hO2 ak hs cU
   obtain ⟨H4,g3,r3,hs⟩:=cz.cO (m:=7) (cs:=rdc (s.rs++[r])) hO26 (gd _) ak (by rw [cA];simp;omega) hs cU
   obtain ⟨H5,g4,r4,hs⟩:=cz.cO (m:=6) (cs:=cmc s.cs) hO4 (lK _) ak (by rw [dY];omega) hs cU
   replace r1:=r1.mono (g2.trans (g3.trans g4))
   replace r2:=r2.mono (g3.trans g4)
   replace r3:RRd H5 _ (s.rs++[r]):=RRd.mono r3 g4
   replace r4:RCm H5 _ s.cs:=r4
   have hle5:=hle1.trans (g1.trans (g2.trans (g3.trans g4)))
   refine .o (.call sf rfl (eM (s:=s.add r) hs r1 r2 r3 r4) ?_);rintro _ w ⟨H6,e,hle6,rfl,hC2,hs⟩
   have hleF:=hle5.trans hle6
   refine .z gP (.nil ?_)
   refine (.eI rfl (fun hc30=>?_) (fun hc30=>?_))
   ·refine .aj (.z (zbd [_,_,_,_,_,_,_,_] eo) ?_)
    refine .o (.aZ (vs:=[_,_,_,_,_,_,_,_]) hs rfl rfl az fun w hs=>?_)
    refine .z zg (.nil ?_)
    refine .ret (rT (?_))
    exact Fin.gR [] [] hs fun w hs=>⟨_,results2 Tryz.results49 (dv (vs:=[_,_,_,_,_,_,_,_]) hs rfl aD az) rfl,H6,_,_,_,hleF,rfl,Fy _,.long hok hr (fun h=>hc30 (hC2.cD.2 h)),hs.out⟩
   ·refine .skip ?_
    refine nT ?_
    refine .aj (.y hs (zls [_,_,_,_,_,_,_,_] aD az) ?_)
    refine .o (.aZ (vs:=[_,_,_,_,_,_,_,_]) hs rfl rfl az fun w hs=>?_)
    refine .z zg (.nil ?_)
    refine .ret ?_
    exact Fin.gR [] [] hs fun w hs=>⟨_,results2 Tryz.results49 (dv (vs:=[_,_,_,_,_,_,_,_]) hs rfl aD az) rfl,H6,_,s.add r,_,hleF,rfl,⟨_,_,_,_,rfl,r1.mono hle6,r2.mono hle6,r3.mono hle6,r4.mono hle6⟩,.ok hok hr (hC2.cD.1 (by simpa using hc30)),hs.out⟩
set_option maxRecDepth 100000 in
theorem AP:Tryz.prog.stoodInHeld 32=false:=by kernel_rfl
set_option maxRecDepth 100000 in
theorem AQ:Tryz.prog.eqGuardType Tryz.prog.depth 32=false:=by kernel_rfl
set_option maxRecDepth 100000 in
theorem By:Tryz.prog.stoodInHeld 80=false:=by kernel_rfl
set_option maxRecDepth 100000 in
theorem Bz:Tryz.prog.eqGuardType Tryz.prog.depth 80=false:=by kernel_rfl
set_option maxRecDepth 100000 in
theorem Co:Tryz.prog.stoodInHeld 108=false:=by kernel_rfl
set_option maxRecDepth 100000 in
theorem Cp:Tryz.prog.eqGuardType Tryz.prog.depth 108=false:=by kernel_rfl
theorem qb{s:Spc}{vst vwa ust uwa:Value}(hs:St H w σ)(h1:RI H vst s.st)(h2:RI H vwa s.wa)(k1:RI H ust s.st)(k2:RI H uwa s.wa):
  Cl Tryz.prog 124 [.agg #[I s.id,I s.src,vst,vwa,I s.al,I s.up],.agg #[I s.id,I s.src,ust,uwa,I s.al,I s.up]] w fun u w'=>u= .bool true∧St H w' σ:=by
 refine Cl.o Tryz.func124 Tryz.ntmps124 ag2 ?_
 refine .aj ?_
 refine .bx hs fun b2 w hs=>?_
 refine .bx hs fun b3 w hs=>?_
 refine .z zg (.nil (.aj (.z (zfa bj) (.y hs (zld an) (.z (zfa bj) (.y hs (zld an) ?_))))))
 refine .o (.call Tryz.call34 rfl (gI hs h1 k1) ?_);rintro _ w ⟨rfl,hs⟩
 rw [decide_eq_true rfl]
 refine .z zg (.nil (.aj (.z (zfa aS) (.y hs (zld an) (.z (zfa aS) (.y hs (zld an) ?_))))))
 refine .o (.call Tryz.call34 rfl (gI hs h2 k2) ?_);rintro _ w ⟨rfl,hs⟩
 rw [decide_eq_true rfl]
 refine .z zg (.nil (.aj (.z zm (.z zm ?_))))
 refine .gT rfl rfl ?_
 refine .z zm (.z zpT (.z zm ?_))
 refine .gT rfl rfl ?_
 refine .z (zfa iO) ?_
 refine .gT rfl rfl ?_
 refine .y hs (zld af) ?_
 refine .gT rfl rfl ?_
 refine .z (zfa iO) ?_
 refine .gT rfl rfl ?_
 refine .y hs (zld af) ?_
 refine .gT rfl rfl ?_
 refine .z fw ?_;rw [decide_eq_true rfl]
 refine .z zpT (.z zm ?_)
 refine .gT rfl rfl ?_
 refine .z (zfa cQ) ?_
 refine .gT rfl rfl ?_
 refine .y hs (zld af) ?_
 refine .gT rfl rfl ?_
 refine .z (zfa cQ) ?_
 refine .gT rfl rfl ?_
 refine .y hs (zld af) ?_
 refine .gT rfl rfl ?_
 refine .z fw ?_;rw [decide_eq_true rfl]
 refine .z zpT (.z zm ?_)
 refine .gT rfl rfl ?_
 refine .z (zfa dN) ?_
 refine .gT rfl rfl ?_
 refine .y hs (zls [_,_] Tryz.isAgg32 FE) ?_
 refine .gT rfl rfl ?_
 refine .z (zfa dN) ?_
 refine .gT rfl rfl ?_
 refine .y hs (zls [_,_] Tryz.isAgg32 FE) ?_
 refine .gT rfl rfl ?_
 refine .q hs (nA AP AQ Ei (fun f hf=>by
  simp only [List.mem_cons,List.not_mem_nil,or_false] at hf
  rcases hf with rfl|rfl<;>exact ⟨by decide,aV,af⟩) rfl rfl) ?_
 refine .z zpT (.z zg (.nil ?_))
 refine .ret (Fin.bK Tryz.results124 rfl ?_)
 exact ⟨bQ,hs.out⟩
set_option maxHeartbeats 2000000 in
theorem wz{s:Srv}{v1 v2:Value}(hs:St H w σ)(g1:RSv H v1 s)(g2:RSv H v2 s):
  Cl Tryz.prog 50 [v1,v2] w fun u w'=>u= .bool true∧St H w' σ:=by
 obtain ⟨vst,vwa,vr,vc,rfl,h1,h2,h3,h4⟩:=g1
 obtain ⟨ust,uwa,ur,uc,rfl,k1,k2,k3,k4⟩:=g2
 obtain ⟨ar,cr,rfl⟩:=RRd.shape h3
 obtain ⟨ac,cc,rfl⟩:=RCm.shape h4
 obtain ⟨br,dr,rfl⟩:=RRd.shape k3
 obtain ⟨bc,dc,rfl⟩:=RCm.shape k4
 have l3:=(RS.len h3).2.2
 have l4:=(RS.len h4).2.2
 refine Cl.o Tryz.func50 Tryz.ntmps50 ag2 ?_
 refine .aj ?_
 refine .bx hs fun b2 w hs=>?_
 refine .bx hs fun b3 w hs=>?_
 refine .z zg (.nil (.aj (.z (zfa aJ) (.y hs (zls [_,_,_,_,_,_] aF aB) (.z (zfa aJ) (.y hs (zls [_,_,_,_,_,_] aF aB) ?_))))))
 refine .o (.call Tryz.call124 rfl (qb (s:=s.sp) hs h1 h2 k1 k2) ?_);rintro _ w ⟨rfl,hs⟩
 refine .z zm ?_
 refine .gT rfl rfl ?_
 refine .z (zfa aI) ?_
 refine .gT rfl rfl ?_
 refine .y hs (zld aU) ?_
 refine .gT rfl rfl ?_
 refine .z (cN aA) ?_
 refine .gT rfl rfl ?_
 refine .z (zfa aI) ?_
 refine .gT rfl rfl ?_
 refine .y hs (zld aU) ?_
 refine .gT rfl rfl ?_
 refine .z (cN aA) ?_
 refine .gT rfl rfl ?_
 refine .z fw ?_;rw [decide_eq_true rfl]
 refine .z zpT (.z zm ?_)
 refine .gT rfl rfl ?_
 refine .z (zfa bq) ?_
 refine .gT rfl rfl ?_
 refine .y hs (zld cB) ?_
 refine .gT rfl rfl ?_
 refine .z (cN aN) ?_
 refine .gT rfl rfl ?_
 refine .z (zfa bq) ?_
 refine .gT rfl rfl ?_
 refine .y hs (zld cB) ?_
 refine .gT rfl rfl ?_
 refine .z (cN aN) ?_
 refine .gT rfl rfl ?_
 refine .z fw (.z zpT (.z zg (.nil (.seq (.aj (.z zg (.nil (.block ?_))))))))
 refine .loop (fun k:Nat=>⟨74,[],[(6,I (k:Int)),(5,.bool true),(3,.pointer (some ⟨b3,0,none⟩)),(2,.pointer (some ⟨b2,0,none⟩))]⟩)
  (fun k w=>k≤s.rs.length∧St H w (.blk b3 [I s.sp.id,I s.sp.src,ust,uwa,I s.sp.al,I s.sp.up,.slice br s.rs.length dr,.slice bc s.cs.length dc]:: .blk b2 [I s.sp.id,I s.sp.src,vst,vwa,I s.sp.al,I s.sp.up,.slice ar s.rs.length cr,.slice ac s.cs.length cc]::σ)) (fun k=>s.rs.length - k) 0 (.cn rfl bQ (.AV rfl bQ a8))
  ⟨Nat.zero_le _,hs⟩ ?_
 rintro k w ⟨hk,hs⟩
 refine .seq (.aj (.z zm (.z (zfa aI) (.y hs (zld aU) (.z (cN aA) (.z fD (.z zm ?_)))))))
 refine .iB (t':=36) rfl (fun hb36=>?_) (fun hb36=>?_)
 ·refine .gT rfl rfl ?_
  refine .z zm (.z zpT (.nil ?_))
  refine (.cT ?_)
  refine .skip ?_
  refine nT ?_
  refine .seq (.block ?_)
  refine .draw mix rfl hs fun w hs=>?_
  refine .z 0 rfl (zfa aI) ?_;refine .y 1 rfl hs aU ?_;refine .z 2 rfl zm ?_
  obtain ⟨x,hx⟩:=nth (l:=s.rs) (k:=k) ak
  refine .ixX (enc:=Rdg.c) (i:=3) hs rfl aq .none h3 rfl rfl aA aE hx cJ ?_;intro b44 o44 hc44
  refine .r (i:=4) hs rfl aq .none (cj (vs:=x.c) rfl bZ aE hc44) ?_
  refine .z 5 rfl (zfa aI) ?_;refine .y 6 rfl hs aU ?_;refine .z 7 rfl zm ?_
  refine .ixX (enc:=Rdg.c) (i:=8) hs rfl aq .none k3 rfl rfl aA aE hx cJ ?_;intro b49 o49 hc49
  refine .r (i:=9) hs rfl aq .none (cj (vs:=x.c) rfl bZ aE hc49) ?_
  refine .z 10 rfl (F8 By Bz ft (fun f hf=>by
   simp only [List.mem_cons,List.not_mem_nil,or_false] at hf
   rcases hf with rfl|rfl|rfl|rfl|rfl|rfl|rfl<;>exact ⟨by decide,aV,af⟩) rfl rfl) ?_
  refine .z 11 rfl zg ?_;refine .D hs ?_
  refine nB (nT ?_)
  refine .region (.z zm (.z cH (.z zg (.nil ?_))))
  refine nT ?_
  exact ⟨k+1,.cn rfl bQ (.AV rfl bQ a8),⟨ak,hs⟩,ak⟩
 ·refine .gFs 1 5 true rfl rfl rfl ?_
  refine .z zpF (.nil ?_)
  refine (.cF ?_)
  refine .exit ?_
  refine xT (xT (xB (nT ?_)))
  refine .seq (.aj (.z zg (.nil (.block ?_))))
  refine .loop (fun k:Nat=>⟨74,[],[(7,I (k:Int)),(5,.bool true),(3,.pointer (some ⟨b3,0,none⟩)),(2,.pointer (some ⟨b2,0,none⟩))]⟩)
   (fun k w=>k≤s.cs.length∧St H w (.blk b3 [I s.sp.id,I s.sp.src,ust,uwa,I s.sp.al,I s.sp.up,.slice br s.rs.length dr,.slice bc s.cs.length dc]:: .blk b2 [I s.sp.id,I s.sp.src,vst,vwa,I s.sp.al,I s.sp.up,.slice ar s.rs.length cr,.slice ac s.cs.length cc]::σ)) (fun k=>s.cs.length - k) 0 (.cn rfl bQ (.AV rfl bQ a8))
   ⟨Nat.zero_le _,hs⟩ ?_
  rintro k w ⟨hk,hs⟩
  refine .seq (.aj (.z zm (.z (zfa bq) (.y hs (zld cB) (.z (cN aN) (.z fD (.z zm ?_)))))))
  refine .iB (t':=57) rfl (fun hb57=>?_) (fun hb57=>?_)
  ·refine .gT rfl rfl ?_
   refine .z zm (.z zpT (.nil ?_))
   refine (.cT ?_)
   refine .skip ?_
   refine nT ?_
   refine .seq (.block ?_)
   refine .draw mix rfl hs fun w hs=>?_
   refine .z 0 rfl (zfa bq) ?_;refine .y 1 rfl hs cB ?_;refine .z 2 rfl zm ?_
   obtain ⟨x,hx⟩:=nth (l:=s.cs) (k:=k) ak
   refine .ixX (enc:=Cmp.c) (i:=3) hs rfl aq .none h4 rfl rfl aN bB hx cJ ?_;intro b65 o65 hc65
   refine .r (i:=4) hs rfl aq .none (cj (vs:=x.c) rfl kq bB hc65) ?_
   refine .z 5 rfl (zfa bq) ?_;refine .y 6 rfl hs cB ?_;refine .z 7 rfl zm ?_
   refine .ixX (enc:=Cmp.c) (i:=8) hs rfl aq .none k4 rfl rfl aN bB hx cJ ?_;intro b70 o70 hc70
   refine .r (i:=9) hs rfl aq .none (cj (vs:=x.c) rfl kq bB hc70) ?_
   refine .z 10 rfl (F9 Co Cp fZ (fun f hf=>by
    simp only [List.mem_cons,List.not_mem_nil,or_false] at hf
    rcases hf with rfl|rfl|rfl|rfl|rfl|rfl<;>exact ⟨by decide,aV,af⟩) rfl rfl) ?_
   refine .z 11 rfl zg ?_;refine .D hs ?_
   refine nB (nT ?_)
   refine .region (.z zm (.z cH (.z zg (.nil ?_))))
   refine nT ?_
   exact ⟨k+1,.cn rfl bQ (.AV rfl bQ a8),⟨ak,hs⟩,ak⟩
  ·refine .gFs 1 5 true rfl rfl rfl ?_
   refine .z zpF (.nil ?_)
   refine (.cF ?_)
   refine .exit ?_
   refine xT (xT (xB (nT ?_)))
   refine .aj (.z zm (.z zg (.nil ?_)))
   refine .ret (Fin.bK Tryz.results50 rfl ?_)
   exact ⟨rfl,hs.out⟩
set_option maxHeartbeats 2000000 in
theorem rL{v:Value}{g:EE}{r:Rdg}(hs:St H w σ)(hg:zo H v g):
  Cl Tryz.prog 9 [v,.agg #[I r.src,I r.st,I r.wa,I r.val,I r.tol,I r.tape,I r.day]] w fun v w'=>v= .bool true∧∃H',HLe H H'∧St H' w' σ:=by
 obtain ⟨vs,v5,v4,vp,rfl,g1,g2,g3,g4⟩:=hg
 refine Cl.o Tryz.func9 Tryz.ntmps9 ag2 ?_
 refine .aj ?_
 refine .bx hs fun b2 w hs=>?_
 refine .bx hs fun b3 w hs=>?_
 refine .z zg (.nil (.aj ?_))
 refine .o (.call Tryz.call22 rfl (kR hs) ?_);rintro _ w ⟨rfl,H1,hle1,hs⟩
 refine .z zg (.nil (.aj (.y hs (zls [_,_,_,_,_,_,_] He FG) ?_)))
 refine .o (.call Tryz.call23 rfl (jH hs (g1.mono hle1) (g2.mono hle1) (g3.mono hle1) (g4.mono hle1)) ?_);rintro _ w ⟨H2,s,vst,vwa,vr,vc,hle2,rfl,h1,h2,h3,h4,hSpl,hs⟩
 obtain ⟨ast,cst,rfl⟩:=RI.shape h1
 obtain ⟨awa,cwa,rfl⟩:=RI.shape h2
 obtain ⟨ar,cr,rfl⟩:=RRd.shape h3
 obtain ⟨ac,cc,rfl⟩:=RCm.shape h4
 have hle02:=hle1.trans hle2
 refine .o (.alloc hs ck rfl fun b6 w hs=>?_)
 refine .o (.aZ (vs:=[_,_,_,_,_,_,_,_]) hs rfl rfl az fun w hs=>?_)
 refine .nil (.aj (.y hs (zls [_,_,_,_,_,_,_,_] aD az) (.y hs (zls [_,_,_,_,_,_,_] bZ aE) ?_)))
 refine .o (.call Tryz.call46 rfl (l7 (s:=s) (r:=⟨r.src,r.st,r.wa,0,r.tol,r.tape,r.day⟩) hs h1 h2 h3 h4 rfl) ?_);rintro _ w ⟨H3,lo1,hi1,e1,hle3,rfl,hA,hs⟩
 replace h1:=h1.mono hle3
 replace h2:=h2.mono hle3
 replace h3:=h3.mono hle3
 replace h4:=h4.mono hle3
 refine .z zm (.z zex (.z zex ?_))
 refine .o (.alloc hs eQ rfl fun b7 w hs=>?_)
 refine .o (.aZ (vs:=[_,_]) hs rfl rfl aR fun w hs=>?_)
 refine .z zg (.nil (.aj (.y hs (zls [_,_,_,_,_,_,_,_] aD az) (.y hs (zls [_,_,_,_,_,_,_] bZ aE) ?_))))
 refine .o (.call Tryz.call47 rfl (tP (s:=s) (r:=⟨r.src,r.st,r.wa,0,r.tol,r.tape,r.day⟩) hs h1 h2 h3 h4 rfl) ?_);rintro _ w ⟨H4,lo2,hi2,e2,hle4,rfl,hB,hs⟩
 obtain ⟨rfl,rfl,rfl⟩:=hA.uniq hB
 replace h1:=h1.mono hle4
 replace h2:=h2.mono hle4
 replace h3:=h3.mono hle4
 replace h4:=h4.mono hle4
 refine .z zm (.z zex (.z zex ?_))
 refine .o (.alloc hs eQ rfl fun b9 w hs=>?_)
 refine .o (.aZ (vs:=[_,_]) hs rfl rfl aR fun w hs=>?_)
 refine .z zg (.nil (.aj (.y hs (zls [_,_,_,_,_,_,_,_] aD az) (.y hs (zls [_,_,_,_,_,_,_] bZ aE) ?_))))
 refine .o (.call Tryz.call48 rfl (rF (s:=s) (r:=r) hs h1 h2 h3 h4) ?_);rintro _ w ⟨H5,vA,tA,e3,hle5,rfl,hS5,hC,hs⟩
 obtain ⟨p1,p2,p3,p4,rfl,q1,q2,q3,q4⟩:=hS5
 obtain ⟨_,_,rfl⟩:=RI.shape q1
 obtain ⟨_,_,rfl⟩:=RI.shape q2
 obtain ⟨_,_,rfl⟩:=RRd.shape q3
 obtain ⟨_,_,rfl⟩:=RCm.shape q4
 replace h1:=h1.mono hle5
 replace h2:=h2.mono hle5
 replace h3:=h3.mono hle5
 replace h4:=h4.mono hle5
 refine .z zm (.z zex (.z zex ?_))
 refine .o (.alloc hs ck rfl fun b11 w hs=>?_)
 refine .o (.aZ (vs:=[_,_,_,_,_,_,_,_]) hs rfl rfl az fun w hs=>?_)
 refine .z zg (.nil (.aj (.y hs (zls [_,_,_,_,_,_,_,_] aD az) (.y hs (zls [_,_,_,_,_,_,_] bZ aE) ?_))))
 refine .o (.call Tryz.call49 rfl (tO (s:=s) (r:=r) hs h1 h2 h3 h4) ?_);rintro _ w ⟨H6,vB,tB,e4,hle6,rfl,hS6,hD,hs⟩
 obtain ⟨rfl,rfl⟩:=hC.uniq hD
 obtain ⟨u1,u2,u3,u4,rfl,x1,x2,x3,x4⟩:=hS6
 obtain ⟨_,_,rfl⟩:=RI.shape x1
 obtain ⟨_,_,rfl⟩:=RI.shape x2
 obtain ⟨_,_,rfl⟩:=RRd.shape x3
 obtain ⟨_,_,rfl⟩:=RCm.shape x4
 have hleF:=hle02.trans (hle3.trans (hle4.trans (hle5.trans hle6)))
 refine .z zm (.z zex (.z zex ?_))
 refine .o (.alloc hs ck rfl fun b13 w hs=>?_)
 refine .o (.aZ (vs:=[_,_,_,_,_,_,_,_]) hs rfl rfl az fun w hs=>?_)
 refine .z zg (.nil (.aj (.y hs (zls [_,_,_,_,_,_,_,_] aD az) (.y hs (zls [_,_,_,_,_,_,_,_] aD az) ?_))))
 refine .o (.call Tryz.call50 rfl (wz (s:=tA) hs ⟨_,_,_,_,rfl,q1.mono hle6,q2.mono hle6,q3.mono hle6,q4.mono hle6⟩ ⟨_,_,_,_,rfl,x1,x2,x3,x4⟩) ?_);rintro _ w ⟨rfl,hs⟩
 refine .z zg (.nil (.aj (.z zm (.z zm ?_))))
 refine .gT rfl rfl ?_
 refine .y hs (zls [_,_] cI aR) ?_
 refine .gT rfl rfl ?_
 refine .y hs (zls [_,_] cI aR) ?_
 refine .gT rfl rfl ?_
 refine .q hs (nA Bu Bv je (fun f hf=>by
  simp only [List.mem_cons,List.not_mem_nil,or_false] at hf
  rcases hf with rfl|rfl<;>exact ⟨by decide,aV,af⟩) rfl rfl) ?_
 rw [decide_eq_true ⟨rfl,rfl⟩]
 refine .z zpT (.z zm ?_)
 refine .gT rfl rfl ?_
 refine .z zm ?_
 refine .gT rfl rfl ?_
 refine .z zm ?_
 refine .gT rfl rfl ?_
 refine .z fw ?_;rw [decide_eq_true rfl]
 refine .z zpT (.z zm ?_)
 refine .gT rfl rfl ?_
 refine .z zm (.z zpT (.z zm ?_))
 refine .gT rfl rfl ?_
 refine .z zm ?_
 refine .gT rfl rfl ?_
 refine .z zm ?_
 refine .gT rfl rfl ?_
 refine .z fw (.z zpT (.z zg (.nil ?_)))
 refine .ret (Fin.bK Tryz.results9 rfl ?_)
 exact ⟨bQ,H6,hleF,hs.out⟩
end Go.Proofs.YtddaejgfjlneoaaGreat
