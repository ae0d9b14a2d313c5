/-
  Texts of these claims, joined: Zo Zp Zq Zr Zt Zv Zw Zx Zy Zz Na Nb Nc Nf Ng Nl Nm.
-/
import Derived.Test.YtddaejgfjlneoaaGreatEd
namespace Go.Proofs.YtddaejgfjlneoaaGreat
open Go.MW
variable{H:cu}{w:World}{σ:List Ent}
inductive vW(v:Srv)(q:Wht):Int→Prop
 |bad {e:Int} (h:uF v e) (he:e≠0):vW v q e
 |what (h:ez v) (h1:¬fR v.sp q):vW v q 33
 |fls (h:ez v) (h1:fR v.sp q) (h2:¬v.sys.Sound):vW v q 35
 |ok (h:ez v) (h1:fR v.sp q) (h2:v.sys.Sound):vW v q 0
theorem vW.zero{v:Srv}{q:Wht}(h:vW v q 0):ez v∧fR v.sp q∧v.sys.Sound:=by
 generalize hz:(0:Int)=z at h
 cases h with
 |bad h he=>exact (he hz.symm).elim
 |what=>omega
 |fls=>omega
 |ok h h1 h2=>exact ⟨h,h1,h2⟩
theorem vW.qty{v:Srv}{q:Wht}{e:Int}(h:vW v q e)(he:e≠0):oV v q 0 0 e:=by
 cases h with
 |bad h he=>exact .bad h he
 |what h h1=>exact .what h h1
 |fls h h1 h2=>exact .fls h h1 h2
 |ok=>exact (he rfl).elim
set_option maxHeartbeats 1000000 in
theorem pH{s:Srv}{q:Wht}{vst vwa vr vc:Value}(hs:St H w σ)(h1:RI H vst s.sp.st)(h2:RI H vwa s.sp.wa)(h3:RRd H vr s.rs)(h4:RCm H vc s.cs):
  Cl Tryz.prog 85 [.agg #[I s.sp.id,I s.sp.src,vst,vwa,I s.sp.al,I s.sp.up,vr,vc],.agg #[I q.kind,I q.st,I q.wa]] w fun u w'=>∃H1 m ul vw d e,HLe H H1∧u= .tuple #[.agg #[I m,ul,vw,I d],I e]∧(∃a l c,ul= .slice a l c)∧(∃a l c,vw= .slice a l c)∧vW s q e∧(e=0→m=s.sys.many∧RL H1 ul s.db∧RI H1 vw (s.w q)∧d=m7 q)∧St H1 w' σ:=by
 refine Cl.o Tryz.func85 Tryz.ntmps85 ag2 ?_
 refine .ai ?_
 refine .bx hs fun b2 w hs=>?_
 refine .bx hs fun b3 w hs=>?_
 refine .o (.alloc hs wh rfl fun b4 w hs=>?_)
 refine .z zg (.nil (.seq (.ai (.y hs (zls [_,_,_,_,_,_,_,_] aF az) ?_))))
 refine .o (.call Tryz.call42 rfl (fo (s:=s) hs h1 h2 h3 h4) ?_);rintro _ w ⟨H1,e,hle1,rfl,hC,hs⟩
 refine .z zg (.nil (.ai (.z zm (.z iw (.nil ?_)))))
 refine (.fc rfl (fun hc12=>?_) (fun hc12=>?_))
 ·refine .ai (.z (zbd [_,_,_,_] fK) (.z zm ?_))
  refine .o (.aV (vs:=[_,_,_,_]) hs rfl rfl eI fun w hs=>?_)
  refine .z zg (.nil ?_)
  refine .ret (rT (?_))
  exact Fin.gO [] [] hs fun w hs=>⟨_,results2 Tryz.results85 (dA (vs:=[_,_,_,_]) hs rfl xi eI) rfl,H1,_,_,_,_,e,hle1,rfl,⟨_,_,_,rfl⟩,⟨_,_,_,rfl⟩,.bad hC hc12,fun h=>(hc12 h).elim,hs.out⟩
 ·refine .skip ?_
  refine nT ?_
  refine .ai (.y hs (zls [_,_,_,_,_,_,_,_] aF az) (.y hs (zls [_,_,_] cP bE) ?_))
  have hok:ez s:=hC.dG.1 (by simpa using hc12)
  refine .o (.call Tryz.call155 rfl (rK (s:=s) (q:=q) hs (h1.mono hle1) (h2.mono hle1) (h3.mono hle1) (h4.mono hle1) hok) ?_);rintro _ w ⟨H2,ul,vw,L,d,b,hle2,rfl,hL,hR,hLl,hcase,hs⟩
  have hle02:=hle1.trans hle2
  obtain ⟨al,cl,rfl⟩:=RL.shape hL
  obtain ⟨aw,cw,rfl⟩:=RI.shape hR
  refine .z zm (.z zex (.z zex ?_))
  refine .o (.alloc hs wh rfl fun b7 w hs=>?_)
  refine .o (.aV (vs:=[_,_,_,_]) hs rfl rfl eI fun w hs=>?_)
  refine .z zg (.nil (.seq (.block (.ai (.z zm (.z iO (.z zg (.nil ?_))))))))
  refine (.cond rfl (fun hc21=>?_) (fun hc21=>?_))
  ·refine .ai (.z (zbd [_,_,_,_] fK) ?_)
   refine .o (.aV (vs:=[_,_,_,_]) hs rfl rfl eI fun w hs=>?_)
   refine .z zg (.nil ?_)
   refine .ret (rB (rT (?_)))
   have hq:¬fR s.sp q:=by
    rcases hcase with ⟨g,_⟩|⟨_,g⟩
    ·subst g;cases hc21
    ·exact g
   exact Fin.gO [] [] hs fun w hs=>⟨_,results2 Tryz.results85 (dA (vs:=[_,_,_,_]) hs rfl xi eI) rfl,H2,_,_,_,_,_,hle02,rfl,⟨_,_,_,rfl⟩,⟨_,_,_,rfl⟩,.what hok hq,fun h=>by omega,hs.out⟩
  ·refine .ai (.y hs (zls [_,_,_,_,_,_,_,_] aF az) ?_)
   obtain ⟨rfl,hq,rfl,rfl⟩:b=true∧fR s.sp q∧L=s.w q∧d=m7 q:=hcase.resolve_right fun h=>by rw [h.1] at hc21;cases hc21
   refine .o (.call Tryz.call169 rfl (oB (s:=s) hs (h1.mono hle02) (h2.mono hle02) (h3.mono hle02) (h4.mono hle02) hok) ?_);rintro _ w ⟨H3,b27,hle3,rfl,hb27,hs⟩
   refine .z iO (.z zg (.nil ?_))
   refine (.cond rfl (fun hc25=>?_) (fun hc25=>?_))
   ·refine .ai (.z (zbd [_,_,_,_] fK) ?_)
    refine .o (.aV (vs:=[_,_,_,_]) hs rfl rfl eI fun w hs=>?_)
    refine .z zg (.nil ?_)
    refine .ret (rB (rT (?_)))
    exact Fin.gO [] [] hs fun w hs=>⟨_,results2 Tryz.results85 (dA (vs:=[_,_,_,_]) hs rfl xi eI) rfl,H3,_,_,_,_,_,hle02.trans hle3,rfl,⟨_,_,_,rfl⟩,⟨_,_,_,rfl⟩,.fls hok hq (fun h=>by rw [hb27.2 h] at hc25;cases hc25),fun h=>by omega,hs.out⟩
   ·refine .skip ?_
    refine nB (nT ?_)
    refine .ai (.y hs (zls [_,_,_,_] xi eI) ?_)
    refine .o (.aV (vs:=[_,_,_,_]) hs rfl rfl eI fun w hs=>?_)
    refine .z zg (.nil ?_)
    refine .ret ?_
    exact Fin.gO [] [] hs fun w hs=>⟨_,results2 Tryz.results85 (dA (vs:=[_,_,_,_]) hs rfl xi eI) rfl,H3,_,_,_,_,_,hle02.trans hle3,rfl,⟨_,_,_,rfl⟩,⟨_,_,_,rfl⟩,.ok hok hq (hb27.1 (by simpa using hc25)),fun _=>⟨rfl,hL.mono hle3,hR.mono hle3,rfl⟩,hs.out⟩
set_option maxHeartbeats 1000000 in
theorem fp{s:Srv}{q:Wht}{vst vwa vr vc:Value}(hs:St H w σ)(h1:RI H vst s.sp.st)(h2:RI H vwa s.sp.wa)(h3:RRd H vr s.rs)(h4:RCm H vc s.cs):
  Cl Tryz.prog 26 [.agg #[I s.sp.id,I s.sp.src,vst,vwa,I s.sp.al,I s.sp.up,vr,vc],.agg #[I q.kind,I q.st,I q.wa]] w fun u w'=>∃H1 lo hi e,HLe H H1∧u= .tuple #[.agg #[I lo,I hi],I e]∧oV s q lo hi e∧St H1 w' σ:=by
 refine Cl.o Tryz.func26 Tryz.ntmps26 ag2 ?_
 refine .ai ?_
 refine .bx hs fun b2 w hs=>?_
 refine .bx hs fun b3 w hs=>?_
 refine .o (.alloc hs cO rfl fun b4 w hs=>?_)
 refine .z zg (.nil (.ai (.y hs (zls [_,_,_,_,_,_,_,_] aF az) (.y hs (zls [_,_,_] cP bE) ?_))))
 refine .o (.call Tryz.call85 rfl (pH (s:=s) (q:=q) hs h1 h2 h3 h4) ?_);rintro _ w ⟨H1,m,ul,vw,d,e,hle1,rfl,⟨al,ll,cl,rfl⟩,⟨aw,lw,cw,rfl⟩,hA,hA0,hs⟩
 refine .z zm (.z zex (.z zex ?_))
 refine .o (.alloc hs wh rfl fun b6 w hs=>?_)
 refine .o (.aV (vs:=[_,_,_,_]) hs rfl rfl eI fun w hs=>?_)
 refine .z zg (.nil (.seq (.ai (.z zm (.z iw (.nil ?_))))))
 refine (.fc rfl (fun hc17=>?_) (fun hc17=>?_))
 ·refine .ai (.z (zbd [_,_] cD) (.z zm ?_))
  refine .o (.aV (vs:=[_,_]) hs rfl rfl aM fun w hs=>?_)
  refine .z zg (.nil ?_)
  refine .ret (rT (?_))
  exact Fin.gO [] [] hs fun w hs=>⟨_,results2 Tryz.results26 (dA (vs:=[_,_]) hs rfl cj aM) rfl,H1,_,_,_,hle1,rfl,hA.qty hc17,hs.out⟩
 ·refine .skip ?_
  refine nT ?_
  refine .ai (.z (zfa mX) (.y hs (zls [_,_] bp aI) (.z (zfa mW) (.y hs (zld ak) ?_))))
  obtain rfl:e=0:=by simpa using hc17
  obtain ⟨rfl,hL,hR,rfl⟩:=hA0 rfl
  obtain ⟨hok,hq,hsd⟩:=hA.zero
  refine .o (.call Tryz.call74 rfl (jN (s:=s.sys) hs ⟨_,rfl,hL⟩ hR) ?_);rintro _ w ⟨H2,lo,hi,f,hle2,rfl,hRg,hs⟩
  obtain rfl:=lJ (hok.ask hq) hsd (fun b=>s.both) hRg
  have hbd:=hRg.bd
  have hdp:=sj q
  refine .z zm (.z zex (.z zex (.z zex (.z zg (.z zg (.z zg (.nil (.seq (.ai ?_)))))))))
  refine .z zm (.z iw (.nil ?_))
  refine (.fc rfl (fun hc30=>?_) (fun hc30=>?_))
  ·refine .ai (.z (zbd [_,_] cD) (.z zm ?_))
   refine .o (.aV (vs:=[_,_]) hs rfl rfl aM fun w hs=>?_)
   refine .z zg (.nil ?_)
   refine .ret (rT (?_))
   exact (hc30 rfl).elim
  ·refine .skip ?_
   refine nT ?_
   refine .seq (.draw mix rfl hs fun w hs=>?_)
   refine .z 0 rfl zm ?_;refine .z 1 rfl (zfa jB) ?_;refine .y 2 rfl hs ae ?_;refine .z 4 rfl zm ?_;refine .z 5 rfl (zfa jB) ?_;refine .y 6 rfl hs ae ?_
   refine .E 3 hs ?_
   refine .call Tryz.call86 rfl (jn hs aj aj) ?_;rintro _ w ⟨rfl,hs⟩
   refine .go ?_
   refine .E 7 hs ?_
   refine .call Tryz.call86 rfl (jn hs aj aj) ?_;rintro _ w ⟨rfl,hs⟩
   refine .go ?_
   refine .z 8 rfl (zbd [_,_] cD) ?_
   refine .E 9 hs ?_
   refine .aV (vs:=[_,_]) hs rfl rfl aM ?_;intro w hs
   refine .go ?_
   refine .z 10 rfl zg ?_;refine .D hs ?_
   refine .ret ?_
   exact Fin.gO [] [] hs fun w hs=>⟨_,results2 Tryz.results26 (dA (vs:=[_,_]) hs rfl cj aM) rfl,H2,_,_,_,hle1.trans hle2,rfl,.ok hok hq hsd hRg,hs.out⟩
inductive y5(v:Srv)(out:List Int):Int→Prop
 |bad {e:Int} (h:uF v e) (he:e≠0) (h1:out=[]):y5 v out e
 |ok {e:Int} (h:ez v) (h1:vU v.sys out e):y5 v out e
theorem pL{s:Srv}{vst vwa vr vc:Value}(hs:St H w σ)(h1:RI H vst s.sp.st)(h2:RI H vwa s.sp.wa)(h3:RRd H vr s.rs)(h4:RCm H vc s.cs):
  Cl Tryz.prog 32 [.agg #[I s.sp.id,I s.sp.src,vst,vwa,I s.sp.al,I s.sp.up,vr,vc]] w fun u w'=>∃H1 vx out e,HLe H H1∧u= .tuple #[vx,I e]∧RI H1 vx out∧y5 s out e∧St H1 w' σ:=by
 refine Cl.o Tryz.func32 Tryz.ntmps32 ag1 ?_
 refine .ai ?_
 refine .bx hs fun b1 w hs=>?_
 refine .z zg (.z zg (.nil (.seq (.ai (.y hs (zls [_,_,_,_,_,_,_,_] aF az) ?_)))))
 refine .o (.call Tryz.call42 rfl (fo (s:=s) hs h1 h2 h3 h4) ?_);rintro _ w ⟨H1,e,hle1,rfl,hC,hs⟩
 refine .z zg (.nil (.ai (.z zm (.z iw (.nil ?_)))))
 refine (.fc rfl (fun hc10=>?_) (fun hc10=>?_))
 ·refine .ai (.z zm (.z zg (.z zg (.nil ?_))))
  refine .ret (rT (Fin.lz Tryz.results32 rfl rfl ?_))
  exact ⟨H1,_,[],_,hle1,rfl,RS.nil H1 1 none 0,.bad hC hc10 rfl,hs.out⟩
 ·refine .skip ?_
  refine nT ?_
  refine .ai (.y hs (zls [_,_,_,_,_,_,_,_] aF az) ?_)
  have hok:ez s:=hC.dG.1 (by simpa using hc10)
  refine .o (.call CT rfl (fa (s:=s) hs (h1.mono hle1) (h2.mono hle1) (h3.mono hle1) (h4.mono hle1) hok.early) ?_);rintro v14 w ⟨H2,hle2,hS,hs⟩
  refine .o (.call Tryz.call98 rfl (oM (s:=s.sys) hs hS) ?_);rintro _ w ⟨H3,vx,out,f,hle3,rfl,hR,hCf,hs⟩
  refine .z zm (.z zex (.z zex (.z zg (.z zg (.nil (.ai (.z zm (.z zm (.z zg ?_)))))))))
  refine .z zg (.nil ?_)
  refine .ret (Fin.lz Tryz.results32 rfl rfl ?_)
  exact ⟨H3,_,out,_,hle1.trans (hle2.trans hle3),rfl,hR,.ok hok hCf,hs.out⟩
set_option maxHeartbeats 1000000 in
theorem qJ{s:Srv}{t:TD}{vst vwa vr vc:Value}(hs:St H w σ)(h1:RI H vst s.sp.st)(h2:RI H vwa s.sp.wa)(h3:RRd H vr s.rs)(h4:RCm H vc s.cs):
  Cl Tryz.prog 28 [.agg #[I s.sp.id,I s.sp.src,vst,vwa,I s.sp.al,I s.sp.up,vr,vc],.agg #[I t.tape,I t.day]] w fun u w'=>∃H1 lo hi e,HLe H H1∧u= .tuple #[.agg #[I lo,I hi],I e]∧vO s t lo hi e∧St H1 w' σ:=by
 refine Cl.o Tryz.func28 Tryz.ntmps28 ag2 ?_
 refine .ai ?_
 refine .bx hs fun b2 w hs=>?_
 refine .bx hs fun b3 w hs=>?_
 refine .o (.alloc hs cO rfl fun b4 w hs=>?_)
 refine .z zg (.nil (.seq (.ai (.y hs (zls [_,_,_,_,_,_,_,_] aF az) ?_))))
 refine .o (.call Tryz.call42 rfl (fo (s:=s) hs h1 h2 h3 h4) ?_);rintro _ w ⟨H1,e,hle1,rfl,hC,hs⟩
 refine .z zg (.nil (.ai (.z zm (.z iw (.nil ?_)))))
 refine (.fc rfl (fun hc15=>?_) (fun hc15=>?_))
 ·refine .ai (.z (zbd [_,_] cD) (.z zm ?_))
  refine .o (.aV (vs:=[_,_]) hs rfl rfl aM fun w hs=>?_)
  refine .z zg (.nil ?_)
  refine .ret (rT (?_))
  exact Fin.gO [] [] hs fun w hs=>⟨_,results2 Tryz.results28 (dA (vs:=[_,_]) hs rfl cj aM) rfl,H1,_,_,_,hle1,rfl,.bad hC hc15,hs.out⟩
 ·refine .skip ?_
  refine nT ?_
  refine .seq (.draw mix rfl hs fun w hs=>?_)
  refine .ys 0 rfl hs [_,_,_,_,_,_,_,_] aF az ?_;refine .ys 2 rfl hs [_,_] dM bD ?_
  refine .E 1 hs ?_
  have hok:ez s:=hC.dG.1 (by simpa using hc15)
  have hsm:=ea hok.early.1
  have hrl:=hok.early.2.1
  have hn:=rn s
  have htl:s.bw.length≤60:=by have:=dq s.rs;unfold Srv.bw;omega
  refine .call Tryz.call90 rfl (iU (s:=s) hs (h3.mono hle1) aj) ?_;rintro v19 w ⟨H2,hle2,hT,hs⟩
  have hle02:=hle1.trans hle2
  refine .go ?_
  refine .E 3 hs ?_
  refine .call Tryz.call89 rfl (mG (t:=t) hs hT aj) ?_;rintro _ w ⟨rfl,hs⟩
  have hnn:=kz (l:=s.bw) (t:=t)
  refine .go ?_
  refine .z 4 rfl zg ?_;refine .D hs ?_
  refine .seq (.ai (.z zm (.z fj (.nil ?_))))
  refine (.bJ rfl (fun hc23=>?_) (fun hc23=>?_))
  ·refine .ai (.z (zbd [_,_] cD) ?_)
   refine .o (.aV (vs:=[_,_]) hs rfl rfl aM fun w hs=>?_)
   refine .z zg (.nil ?_)
   refine .ret (rT (?_))
   exact Fin.gO [] [] hs fun w hs=>⟨_,results2 Tryz.results28 (dA (vs:=[_,_]) hs rfl cj aM) rfl,H2,_,_,_,hle02,rfl,.none hok (fun h=>by have:=hnn.2 h;omega),hs.out⟩
  ·refine .skip ?_
   refine nT ?_
   refine .seq (.draw mix rfl hs fun w hs=>?_)
   refine .z 0 rfl (zfa aN) ?_;refine .ys 1 rfl hs [_,_,_,_,_,_] aQ aH ?_;refine .ys 4 rfl hs [_,_,_,_,_,_,_,_] aF az ?_
   refine .E 2 hs ?_
   have hmem:t∈s.bw:=hnn.1 aj
   obtain ⟨k,k1,k2,k3⟩:=fm hmem
   have hlt:=ez.Dl hmem
   rw [k1,Int.toNat_natCast] at hlt
   rw [k1] at hc23 ⊢
   refine .call Tryz.call91 rfl (fN (s:=s.sp) hs (h1.mono hle02) (h2.mono hle02) ⟨aj,aj⟩) ?_;rintro _ w ⟨rfl,hs⟩
   refine .go ?_
   refine .z 3 rfl cA ?_
   refine .E 5 hs ?_
   refine .call Tryz.call90 rfl (iU (s:=s) hs (h3.mono hle02) aj) ?_;rintro v30 w ⟨H3,hle3,hT2,hs⟩
   have hle03:=hle02.trans hle3
   obtain ⟨at_,ct,rfl⟩:=RTd.shape hT2
   refine .go ?_
   refine .z 6 rfl (cH bg) ?_;refine .z 7 rfl cA ?_
   refine .E 8 hs ?_
   refine .pR s.sys.n hs (by show some (I _)=some (I _);congr 2;rw [hn];show _=((s.sp.many+s.bw.length+1:Nat):Int);omega) (by show some (I _)=some (I _);congr 2;rw [hn];show _=((s.sp.many+s.bw.length+1:Nat):Int);omega) aa dY rfl af bO aj ?_;intro b33 w hs
   refine .go ?_
   refine .z 9 rfl zg ?_;refine .D hs ?_
   refine .ai (.z zm (.z (zfa aN) (.y hs (zls [_,_,_,_,_,_] aQ aH) ?_)))
   refine .o (.call Tryz.call91 rfl (fN (s:=s.sp) hs (h1.mono hle03) (h2.mono hle03) ⟨aj,aj⟩) ?_);rintro _ w ⟨rfl,hs⟩
   refine .z cA (.z zm (.z cA ?_))
   refine .q hs (dS (k:=s.sp.many+1+k) rfl rfl aa af aj aj) ?_
   refine .o (.store (c':=Is (qq s.sys.n (s.sp.many+1+k) 1)) hs rfl rfl af ?_ cJ (by simp [Is];omega) (ma _ _ _));intro w hs
   refine .nil (.ai (.y hs (zls [_,_,_,_,_,_,_,_] aF az) ?_))
   obtain ⟨H4,hle4,hW,hs⟩:=cn.cN (xs:=qq s.sys.n (s.sp.many+1+k) 1) (v:= .slice (some ⟨b33,0,none⟩) s.sys.n s.sys.n) (.full (by simp [Is,iI])) (by rw [iI];omega) hs cJ
   have hle04:=hle03.trans hle4
   refine .o (.call CT rfl (fa (s:=s) hs (h1.mono hle04) (h2.mono hle04) (h3.mono hle04) (h4.mono hle04) hok.early) ?_);rintro v44 w ⟨H5,hle5,hS,hs⟩
   refine .z zm ?_
   refine .o (.call Tryz.call74 rfl (jN (s:=s.sys) hs hS (hW.mono hle5)) ?_);rintro _ w ⟨H6,lo,hi,f,hle6,rfl,hRg,hs⟩
   have hbd:=hRg.bd
   have hleF:=hle04.trans (hle5.trans hle6)
   have hA:=hok.BD hlt (x:=1) aj
   refine .z zm (.z zex (.z zex (.z zex (.z zg (.z zg (.z zg (.nil (.seq (.ai ?_)))))))))
   refine .z zm (.z iw (.nil ?_))
   refine (.fc rfl (fun hc51=>?_) (fun hc51=>?_))
   ·refine .ai (.z (zbd [_,_] cD) ?_)
    refine .o (.aV (vs:=[_,_]) hs rfl rfl aM fun w hs=>?_)
    refine .z zg (.nil ?_)
    refine .ret (rT (?_))
    have hns:¬s.sys.Sound:=fun h=>hc51 (lJ hA h (fun b=>s.both) hRg)
    exact Fin.gO [] [] hs fun w hs=>⟨_,results2 Tryz.results28 (dA (vs:=[_,_]) hs rfl cj aM) rfl,H6,_,_,_,hleF,rfl,.fls hok hmem hns,hs.out⟩
   ·refine .skip ?_
    refine nT ?_
    refine .ai (.z zm (.z xn (.z zm (.z xn (.z (zbd [_,_] cD) ?_)))))
    refine .o (.aV (vs:=[_,_]) hs rfl rfl aM fun w hs=>?_)
    refine .z zg (.nil ?_)
    refine .ret ?_
    obtain rfl:f=0:=by simpa using hc51
    have hsd:s.sys.Sound:=Classical.byContradiction fun h=>by have:=tk hA h hRg;omega
    exact Fin.gO [] [] hs fun w hs=>⟨_,results2 Tryz.results28 (dA (vs:=[_,_]) hs rfl cj aM) rfl,H6,_,_,_,hleF,rfl,.ok hok hmem hsd (by rw [k1,Int.toNat_natCast];exact hRg),hs.out⟩
theorem mH{v:Value}{rs:List (List Int)}{g:Nat}{cap:List Value}(q:List Int→Prop)(hs:St H w σ)(hR:RT H v rs)(hl:rs.length≤9223372036854775807)(hc:∀args w,(callFunc g args).run Tryz.prog w= .ok (.enter g args) w)
  (hp:∀H' w σ r u,HLe H H'→RI H' u r→St H' w σ→Cl Tryz.prog g ([u]++cap) w fun z w'=>∃H1 b,HLe H' H1∧z= .bool b∧(b=true↔q r)∧St H1 w' σ):
  Cl Tryz.prog 236 [v,.func (.func g) #[] cap.toArray] w fun u w'=>∃H1 i,HLe H H1∧u=I i∧(0≤i↔∃x∈rs,q x)∧St H1 w' σ:=by
 obtain ⟨a,c,rfl⟩:=hR.shape
 refine Cl.o Tryz.func236 Tryz.ntmps236 ag2 ?_
 refine .ai (.z zg (.nil (.seq (.ai (.z zm (.z (cH au) (.z zm (.nil ?_))))))))
 refine .for (N:=rs.length) (J:=fun k fr w=>fr=[(1,.func (.func g) #[] cap.toArray),(0,.slice a rs.length c)]∧∃H1,HLe H H1∧(∀j<k,∀y,rs[j]? =some y→¬q y)∧St H1 w σ) aj ?_ ?_ ?_
 ·exact .mk ⟨rfl,H,HLe.refl H,fun j hj=>by omega,hs⟩
 ·rintro k fr w hk ⟨rfl,H1,hle1,hno,hs⟩
  have hx:=q7 (rs:=rs) hk
  refine .block (.ai (.z zm (.z zg (.nil (.ai (.z zm (.z zm (.z zm ?_))))))))
  refine .ixT hs (hR.mono hle1) rfl rfl au aB (show k<_ by omega) cM ?_;intro b14 o14 a14 c14 hc14 hR14
  refine .q hs (aK rfl ak hc14) ?_
  refine .o (.mr (first:=[]) (cap:=cap) rfl rfl hc (hp _ _ _ (gr rs k) _ hle1 hR14 hs) ?_);rintro _ w ⟨H2,b16,hle2,rfl,hb16,hs⟩
  refine .nil ?_
  refine (.cond rfl (fun hc16=>?_) (fun hc16=>?_))
  ·refine .ai (.z zm (.z zg (.nil ?_)))
   refine .ret (rB (rT (rB (rT (Fin.bL Tryz.results236 rfl ?_)))))
   exact ⟨H2,_,hle1.trans hle2,rfl,⟨fun _=>⟨_,List.mem_of_getElem? hx,hb16.1 hc16⟩,fun _=>by omega⟩,hs⟩
  ·refine .skip ?_
   refine nB (nT ?_)
   exact .mk ⟨rfl,H2,hle1.trans hle2,eE hno hx (fun h=>by rw [hb16.2 h] at hc16;cases hc16),hs⟩
 ·rintro fr w ⟨rfl,H1,hle1,hno,hs⟩
  refine nT ?_
  refine .ai (.z zg (.nil ?_))
  refine .ret (Fin.bL Tryz.results236 rfl ?_)
  exact ⟨H1,_,hle1,rfl,⟨fun h=>by omega,fun ⟨x,h1,h2⟩=>by
   obtain ⟨j,hj⟩:=List.getElem?_of_mem h1
   exact (hno j (List.getElem?_eq_some_iff.1 hj).1 x hj h2).elim⟩,hs⟩
theorem kX{v:Value}{rs:List (List Int)}{g:Nat}{cap:List Value}(q:List Int→Prop)(hs:St H w σ)(hR:RT H v rs)(hl:rs.length≤9223372036854775807)(hc:∀args w,(callFunc g args).run Tryz.prog w= .ok (.enter g args) w)
  (hp:∀H' w σ r u,HLe H H'→RI H' u r→St H' w σ→Cl Tryz.prog g ([u]++cap) w fun z w'=>∃H1 b,HLe H' H1∧z= .bool b∧(b=true↔q r)∧St H1 w' σ):
  Cl Tryz.prog 186 [v,.func (.func g) #[] cap.toArray] w fun u w'=>∃H1 b,HLe H H1∧u= .bool b∧(b=true↔∃x∈rs,q x)∧St H1 w' σ:=by
 refine Cl.o Tryz.func186 Tryz.ntmps186 ag2 ?_
 refine .ai (.z zg (.nil (.ai (.z zm (.z zm ?_)))))
 refine .o (.call Tryz.call236 rfl (mH q hs hR hl hc hp) ?_);rintro _ w ⟨H1,i,hle1,rfl,hi,hs⟩
 refine .z xo (.z zg (.nil ?_))
 refine .ret (Fin.bL Tryz.results186 rfl ?_)
 exact ⟨H1,_,hle1,rfl,by simp only [decide_eq_true_eq];exact hi,hs⟩
theorem ta{n:Int}(hs:St H w σ):
  Cl Tryz.prog 188 [I n] w fun u w'=>u= .bool (!decide (0≤n∧n≤20000))∧St H w' σ:=by
 refine Cl.o Tryz.func188 Tryz.ntmps188 ag1 ?_
 refine .ai (.z zg (.nil (.ai (.z zm ?_))))
 refine .o (.call dN rfl (bB hs) ?_);rintro _ w ⟨rfl,hs⟩
 refine .z iO (.z zg (.nil ?_))
 refine .ret (Fin.bL Tryz.results188 rfl ?_)
 exact ⟨rfl,hs⟩
theorem vi{s:Spc}{v vst vwa:Value}{r:List Int}{b:Nat}(hs:St H w σ)(hb:Row H b [I s.id,I s.src,vst,vwa,I s.al,I s.up])(h2:RI H vwa s.wa)(hr:RI H v r):
  Cl Tryz.prog 187 [v,.pointer (some ⟨b,0,none⟩)] w fun u w'=>∃H1 bb,HLe H H1∧u= .bool bb∧(bb=true↔¬(r.length=s.wa.length∧∀x∈r,0≤x∧x≤20000))∧St H1 w' σ:=by
 obtain ⟨a,c,rfl⟩:=RI.shape hr
 obtain ⟨awa,cwa,rfl⟩:=RI.shape h2
 have hb3:=hb.at 3
 refine Cl.o Tryz.func187 Tryz.ntmps187 ag2 ?_
 refine .ai (.z zg (.nil (.ai (.z zm (.z (cH aa) (.z (zfa aW) (.y hs (zld ak) (.z (cH aa) (.z iw ?_)))))))))
 refine .z zm ?_
 refine .xW (t':=10) rfl (fun hb10=>?_) (fun hb10=>?_)
 ·refine .gFs 2 6 false rfl rfl rfl ?_
  refine .z zpT (.z zg (.nil ?_))
  refine .ret (Fin.bL Tryz.results187 rfl ?_)
  exact ⟨H,true,HLe.refl H,rfl,⟨fun _ h=>by have:=h.1;simp_all,fun _=>rfl⟩,hs⟩
 ·refine .gT rfl rfl ?_
  refine .z zm ?_
  refine .gT rfl rfl ?_
  refine .o (.call Tryz.call134 rfl (kO (g:=188) (cap:=[]) (fun n=>¬(0≤n∧n≤20000)) hs hr Tryz.call188 (fun H' w σ n _ _ hs=>(ta hs).mono fun u w' ⟨g1,g2⟩=>⟨H',_,HLe.refl _,g1,by simp;omega,g2⟩)) ?_);rintro _ w ⟨H1,b12,hle1,rfl,hb12,hs⟩
  refine .z zpF (.z zg (.nil ?_))
  refine .ret (Fin.bL Tryz.results187 rfl ?_)
  have hlen:r.length=s.wa.length:=by simp_all;omega
  exact ⟨H1,_,hle1,rfl,by
   rw [hb12]
   constructor
   ·rintro ⟨x,h1,h2⟩ h;exact h2 (h.2 x h1)
   ·intro h
    refine Classical.byContradiction fun hn=>h ⟨hlen,fun x hx=>Classical.byContradiction fun hx'=>hn ⟨x,hx,hx'⟩⟩,hs⟩
theorem Cq{s:Spc}{rows:List (List Int)}:rh s rows↔rows.length=s.st.length∧∀r∈rows,r.length=s.wa.length∧∀x∈r,0≤x∧x≤20000:=by
 constructor
 ·rintro ⟨h1,h2,h3⟩
  refine ⟨h1,fun r hr=>?_⟩
  obtain ⟨i,hi⟩:=List.getElem?_of_mem hr
  have hil:=(List.getElem?_eq_some_iff.1 hi).1
  have hg:=q7 hil
  rw [hi] at hg
  obtain rfl:=Option.some.inj hg
  have hl:=h2 i aj
  refine ⟨hl,fun x hx=>?_⟩
  obtain ⟨k,hk⟩:=List.getElem?_of_mem hx
  have hkl:=(List.getElem?_eq_some_iff.1 hk).1
  have hgk:=bu hkl
  rw [hk] at hgk
  obtain rfl:=Option.some.inj hgk
  exact h3 i aj k aj
 ·rintro ⟨h1,h2⟩
  have hm:∀i<s.st.length,gr rows i∈rows:=fun i hi=>List.mem_of_getElem? (q7 aj)
  refine ⟨h1,fun i hi=>(h2 _ (hm i hi)).1,fun i hi k hk=>?_⟩
  have hl:=(h2 _ (hm i hi)).1
  exact (h2 _ (hm i hi)).2 _ (List.mem_of_getElem? (bu aj))
theorem oC{s:Spc}{vst vwa vh:Value}{rows:List (List Int)}(hs:St H w σ)(h1:RI H vst s.st)(h2:RI H vwa s.wa)(hr:RT H vh rows):
  Cl Tryz.prog 101 [.agg #[I s.id,I s.src,vst,vwa,I s.al,I s.up],.agg #[vh]] w fun u w'=>∃H1 b,HLe H H1∧u= .bool b∧(b=true↔rh s rows)∧St H1 w' σ:=by
 obtain ⟨ast,cst,rfl⟩:=RI.shape h1
 obtain ⟨awa,cwa,rfl⟩:=RI.shape h2
 obtain ⟨ah,ch,rfl⟩:=hr.shape
 have hrl:=(hr.len).2.2
 refine Cl.o Tryz.func101 Tryz.ntmps101 ag2 ?_
 refine .ai ?_
 refine .bx hs fun b2 w hs=>?_
 refine .bx hs fun b3 w hs=>?_
 refine .z zg (.nil (.ai (.z (zfa lI) (.y hs (zld zJ) (.z (cH au) (.z (zfa bn) (.y hs (zld ak) (.z (cH aa) (.z fL ?_)))))))))
 refine .z zm ?_
 refine .iq (t':=12) rfl (fun hb12=>?_) (fun hb12=>?_)
 ·refine .gT rfl rfl ?_
  refine .z (zfa lI) ?_
  refine .gT rfl rfl ?_
  refine .y hs (zld zJ) ?_
  refine .gT rfl rfl ?_
  refine .q hs (dx (f:=[]) (c:=[_]) rfl rfl) ?_
  refine .gT rfl rfl ?_
  obtain ⟨H0,hle0,hb2,hs⟩:=hs.cI (b:=b2) cJ
  refine .o (.call Tryz.call186 rfl (kX (g:=187) (cap:=[.pointer (some ⟨b2,0,none⟩)]) (fun r=>¬(r.length=s.wa.length∧∀x∈r,0≤x∧x≤20000)) hs (hr.mono hle0) hrl Tryz.call187 (fun H' w σ r u hle hu hs=>vi (s:=s) hs (hb2.mono hle) (h2.mono (hle0.trans hle)) hu)) ?_);rintro _ w ⟨H1,b16,hle1,rfl,hb16,hs⟩
  refine .gT rfl rfl ?_
  refine .z iO (.z zpT (.z zg (.nil ?_)))
  refine .ret (Fin.bL Tryz.results101 rfl ?_)
  exact ⟨H1,_,hle0.trans hle1,rfl,by
   rw [Cq]
   have hlen:rows.length=s.st.length:=by omega
   cases hbb:b16 with
   |true=>
    obtain ⟨x,hx,hn⟩:=hb16.1 hbb
    exact ⟨fun h=>(by cases h),fun h=>(hn (h.2 x hx)).elim⟩
   |false=>exact ⟨fun _=>⟨hlen,fun r hr=>Classical.byContradiction fun hn=>by rw [hb16.2 ⟨r,hr,hn⟩] at hbb;cases hbb⟩,fun _=>rfl⟩,hs.out⟩
 ·refine .gFs 5 7 true rfl rfl rfl ?_
  refine .z zpF (.z zg (.nil ?_))
  refine .ret (Fin.bL Tryz.results101 rfl ?_)
  exact ⟨H,_,HLe.refl H,rfl,⟨fun h=>(by cases h),fun h=>by have:=h.len;omega⟩,hs.out⟩
set_option maxHeartbeats 1000000 in
theorem pJ{s:Spc}{q:Wht}{vst vwa vh:Value}{rows:List (List Int)}(hs:St H w σ)(h1:RI H vst s.st)(h2:RI H vwa s.wa)(hr:RT H vh rows):
  Cl Tryz.prog 37 [.agg #[I s.id,I s.src,vst,vwa,I s.al,I s.up],.agg #[vh],.agg #[I q.kind,I q.st,I q.wa]] w fun u w'=>∃H1 n e,HLe H H1∧u= .tuple #[I n,I e]∧vR s rows q n e∧St H1 w' σ:=by
 obtain ⟨ah,ch,rfl⟩:=hr.shape
 refine Cl.o Tryz.func37 Tryz.ntmps37 ag3 ?_
 refine .ai ?_
 refine .bx hs fun b3 w hs=>?_
 refine .bx hs fun b4 w hs=>?_
 refine .bx hs fun b5 w hs=>?_
 refine .z zg (.z zg (.nil (.seq (.ai (.y hs (zls [_,_,_,_,_,_] aQ aH) ?_)))))
 refine .o (.call Tryz.call41 rfl (iV (s:=s) hs h1 h2) ?_);rintro _ w ⟨H1,e,hle1,rfl,he,hs⟩
 refine .z zg (.nil (.ai (.z zm (.z iw (.nil ?_)))))
 refine (.fc rfl (fun hc17=>?_) (fun hc17=>?_))
 ·refine .ai (.z zm (.z zg (.z zg (.nil ?_))))
  refine .ret (rT (?_))
  have hq:¬fG s∧e=30:=he.resolve_left fun h=>hc17 h.2
  exact Fin.gO [] [] hs fun w hs=>⟨_,results2 Tryz.results37 rfl rfl,H1,_,_,hle1,rfl,by rw [hq.2];exact .space hq.1,hs.out⟩
 ·refine .skip ?_
  refine nT ?_
  refine .seq (.ai (.y hs (zls [_,_,_,_,_,_] aQ aH) (.y hs (zls [_] Tryz.isAgg63 Tryz.sizeOf63) ?_)))
  have hok:fG s:=(he.resolve_right fun h=>by omega).1
  have hsm:=ea hok
  refine .o (.call Tryz.call101 rfl (oC (s:=s) hs (h1.mono hle1) (h2.mono hle1) (hr.mono hle1)) ?_);rintro _ w ⟨H2,b21,hle2,rfl,hb21,hs⟩
  have hle02:=hle1.trans hle2
  refine .z iO (.nil ?_)
  refine (.cond rfl (fun hc22=>?_) (fun hc22=>?_))
  ·refine .ai (.z zg (.z zg (.nil ?_)))
   refine .ret (rT (?_))
   exact Fin.gO [] [] hs fun w hs=>⟨_,results2 Tryz.results37 rfl rfl,H2,_,_,hle02,rfl,.hull hok (fun h=>by rw [hb21.2 h] at hc22;cases hc22),hs.out⟩
  ·refine .skip ?_
   refine nT ?_
   refine .ai (.y hs (zls [_,_,_,_,_,_] aQ aH) (.y hs (zls [_,_,_] cP bE) ?_))
   have hh:rh s rows:=hb21.1 (by simpa using hc22)
   refine .o (.call Tryz.call102 rfl (jS (s:=s) (q:=q) hs (h1.mono hle02) (h2.mono hle02) hok) ?_);rintro _ w ⟨H3,vl,L,d,b,en,hle3,rfl,hO,hcase,hs⟩
   have hle03:=hle02.trans hle3
   obtain ⟨al,cl,rfl⟩:=hO.mK
   refine .z zm (.z zex (.z zex (.z zex ?_)))
   refine .o (.alloc hs dZ rfl fun b9 w hs=>?_)
   refine .o (.store hs rfl rfl aB fun w hs=>?_)
   refine .z zg (.z zg (.nil (.seq (.ai (.z zm (.z iO (.nil ?_)))))))
   refine (.cond rfl (fun hc31=>?_) (fun hc31=>?_))
   ·refine .ai (.z zg (.z zg (.nil ?_)))
    refine .ret (rT (?_))
    have hq:¬fR s q:=by
     rcases hcase with ⟨g,_⟩|⟨_,g,_⟩
     ·subst g;cases hc31
     ·exact g
    exact Fin.gO [] [] hs fun w hs=>⟨_,results2 Tryz.results37 rfl rfl,H3,_,_,hle03,rfl,.what hok hh hq,hs.out⟩
   ·refine .skip ?_
    refine nT ?_
    refine .ai ?_
    refine .o (.alloc hs bO rfl fun b12 w hs=>?_)
    refine .o (.store hs rfl rfl af fun w hs=>?_)
    refine .nil (.seq (.ai (.y hs (zls [_,_,_,_,_,_] aQ aH) ?_)))
    obtain ⟨rfl,hq,rfl,rfl⟩:b=true∧fR s q∧L=kn s q∧d=m7 q:=hcase.resolve_right fun h=>by rw [h.1] at hc31;cases hc31
    have hwl:=e8 s q
    obtain ⟨H4,hle4,hW,hs⟩:=cn.cN hO aj hs cJ
    have hle04:=hle03.trans hle4
    refine .o (.call FU rfl (gn (s:=s) hs (h1.mono hle04) (h2.mono hle04) ⟨aj,aj⟩) ?_);rintro _ w ⟨H5,ba,hle5,rfl,hit,hs⟩
    have hle05:=hle04.trans hle5
    replace hW:=hW.mono hle5
    have hr5:=hr.mono hle05
    refine .nil (.block ?_)
    refine .rangeFunc (gf:=190) (cap:=[.pointer (some ⟨ba,0,none⟩)]) (xs:=vY s) (σb:=[.blk b12 [I (iX s q rows 0)],.blk b9 [.slice al (kn s q).length cl],.blk b4 [.slice ah rows.length ch]]) (σf:=σ) (hs.sb) trivial rfl hit FQ (fun x hx=>by
      simp only [vY,List.mem_map] at hx
      obtain ⟨j,_,rfl⟩:=hx;rfl) rfl
     (I:=fun p H' σb=>σb=[.blk b12 [I (iX s q rows p)],.blk b9 [.slice al (kn s q).length cl],.blk b4 [.slice ah rows.length ch]]) (Ix:=fun _ _ _=>False)
     (fun j _ _ σ g1 g2=>g2) (fun _ _ _ _ _ h=>h) rfl ?_ ?_ (fun D c H' σb w _ h _=>h.elim)
    ·rintro ly p hp H6 σb2 σf2 w hle6 rfl hs ⟨rr,hrr⟩
     have hpm:p<s.many:=by rw [eR] at hp;exact hp
     have hin:p/s.wa.length<s.st.length:=Nat.div_lt_of_lt_mul (by rw [Nat.mul_comm];exact hpm)
     have hkm:=Nat.mod_lt p hsm.2.2.1
     have hsucc:iX s q rows (p+1)=iX s q rows p+gi (kn s q) (p+1)*gt rows (p/s.wa.length) (p%s.wa.length):=rfl
     have hb0:=nu hok hq hh p aj
     have hb1:=nu hok hq hh (p+1) aj
     have hwz:=nh hok hq
     have hwz2:=ig (kn s q) (v:=p+1) (n:=s.many+1) aj
     have hnum:=hh.num _ hin _ hkm
     have hrow:=hh.row _ hin
     have hrlen:=hh.len
     have hprd:=kG (a:=gi (kn s q) (p+1)) (b:=gt rows (p/s.wa.length) (p%s.wa.length)) (A:=3456000000000) (B:=20000) aj aj
     have hgt:gt rows (p/s.wa.length) (p%s.wa.length)=gi (gr rows (p/s.wa.length)) (p%s.wa.length):=rfl
     rw [nz hp]
     generalize p/s.wa.length=i at*
     generalize p%s.wa.length=k at*
     rw [hgt] at hsucc hprd hnum
     refine .region ?_
     refine .o (.alloc hs nQ rfl fun b13 w hs=>?_)
     refine .o (.aV (vs:=[_,_,_]) hs rfl rfl tZ fun w hs=>?_)
     refine .nil ?_
     refine nT ?_
     refine ⟨H6,[.blk b13 [I (i:Int),I (k:Int),I ((p+1:Nat):Int)],.blk b12 [I (iX s q rows p)],.blk b9 [.slice al (kn s q).length cl],.blk b4 [.slice ah rows.length ch]],HLe.refl _,hs,?_⟩;rintro w σf4 - hs
     refine .block ?_
     refine .draw mix rfl hs fun w hs=>?_
     refine .y 0 rfl hs ae ?_;refine .y 1 rfl hs ak ?_;refine .z 2 rfl (zfa ew) ?_;refine .y 3 rfl hs ae ?_
     refine .ixX (enc:=fun x=>[I x]) (i:=4) hs rfl aq .none (hW.mono hle6) rfl rfl aa af (bu (l:=(kn s q)) (i:=(p+1)) aj) cM ?_;intro b39 o39 hc39;replace hc39:=bH.one hc39
     refine .r (i:=5) hs rfl aq .none (aK rfl ae hc39) ?_
     refine .z 6 rfl (zfa lI) ?_;refine .y 7 rfl hs zJ ?_;refine .z 8 rfl (zfa dJ) ?_;refine .y 9 rfl hs ae ?_
     refine .ixT (i:=10) hs rfl aq .none (hr5.mono hle6) rfl rfl au aB (show i<_ by omega) cM ?_;intro b45 o45 a45 c45 hc45 hR45
     refine .r (i:=11) hs rfl aq .none (aK rfl ak hc45) ?_
     refine .z 12 rfl (zfa dz) ?_;refine .y 13 rfl hs ae ?_
     refine .ixX (enc:=fun x=>[I x]) (i:=14) hs rfl aq .none hR45 rfl rfl aa af (bu (l:=(gr rows i)) (i:=k) aj) cM ?_;intro b49 o49 hc49;replace hc49:=bH.one hc49
     refine .r (i:=15) hs rfl aq .none (aK rfl ae hc49) ?_
     refine .z 16 rfl jV ?_;refine .z 17 rfl cA ?_
     refine .E 18 hs ?_
     refine .store hs rfl rfl af ?_;intro w hs
     refine .go ?_
     refine .D hs ?_
     refine nB ?_
     exact ⟨H6,[.blk b12 [I (iX s q rows (p+1))],.blk b9 [.slice al (kn s q).length cl],.blk b4 [.slice ah rows.length ch]],HLe.refl _,by rw [hsucc];exact (hs.sb:St H6 w (.blk b12 _:: .blk b9 _:: .blk b4 _::σf4)),rfl⟩
    ·rintro D H6 σb2 w hle6 rfl hs
     rw [eR] at hs
     replace hs:St H6 w (.obj D (.deferred (some [])):: .blk b12 [I (iX s q rows s.many)]:: .blk b9 [.slice al (kn s q).length cl]:: .blk b4 [.slice ah rows.length ch]::σ):=hs
     have hbd:=nu hok hq hh s.many aj
     have hdp:=sj q
     refine nB (nT ?_)
     refine .ai (.y hs (zld ae) (.z zm ?_))
     refine .o (.call Tryz.call86 rfl (jn hs aj aj) ?_);rintro _ w ⟨rfl,hs⟩
     refine .z zg (.z zg (.nil ?_))
     refine .ret ?_
     exact Fin.gO [D] [] hs fun w hs=>⟨_,results2 Tryz.results37 rfl rfl,H6,_,_,hle05.trans hle6,rfl,.ok hok hh hq,hs.out⟩
set_option maxHeartbeats 4000000 in
theorem qI{s:Srv}{r:Rdg}{vst vwa vr vc:Value}{z:Int}(hs:St H w σ)(h1:RI H vst s.sp.st)(h2:RI H vwa s.sp.wa)(h3:RRd H vr s.rs)(h4:RCm H vc s.cs)(hr0:r.val=0):
  Cl Tryz.prog 46 [.agg #[I s.sp.id,I s.sp.src,vst,vwa,I s.sp.al,I s.sp.up,vr,vc],.agg #[I r.src,I r.st,I r.wa,I z,I r.tol,I r.tape,I r.day]] w fun u w'=>∃H1 lo hi e,HLe H H1∧u= .tuple #[.agg #[I lo,I hi],I e]∧tt s r lo hi e∧St H1 w' σ:=by
 obtain ⟨ast,cst,rfl⟩:=RI.shape h1
 obtain ⟨awa,cwa,rfl⟩:=RI.shape h2
 obtain ⟨ar,cr,rfl⟩:=RRd.shape h3
 obtain ⟨ac,cc,rfl⟩:=RCm.shape h4
 refine Cl.o Tryz.func46 Tryz.ntmps46 ag2 ?_
 refine .ai ?_
 refine .bx hs fun b2 w hs=>?_
 refine .bx hs fun b3 w hs=>?_
 refine .o (.alloc hs cO rfl fun b4 w hs=>?_)
 refine .z zg (.nil (.seq (.ai (.y hs (zls [_,_,_,_,_,_,_,_] aF az) ?_))))
 refine .o (.call Tryz.call42 rfl (fo (s:=s) hs h1 h2 h3 h4) ?_);rintro _ w ⟨H1,e,hle1,rfl,hC,hs⟩
 refine .z zg (.nil (.ai (.z zm (.z iw (.nil ?_)))))
 refine (.fc rfl (fun hc19=>?_) (fun hc19=>?_))
 ·refine .ai (.z (zbd [_,_] cD) (.z zm ?_))
  refine .o (.aV (vs:=[_,_]) hs rfl rfl aM fun w hs=>?_)
  refine .z zg (.nil ?_)
  refine .ret (rT (?_))
  exact Fin.gO [] [] hs fun w hs=>⟨_,results2 nS (dA (vs:=[_,_]) hs rfl cj aM) rfl,H1,_,_,_,hle1,rfl,.bad hC hc19,hs.out⟩
 ·refine .skip ?_
  refine nT ?_
  refine .ai (.z (zfa cU) ?_)
  refine .o (.store hs rfl rfl af fun w hs=>?_)
  refine .nil (.seq (.ai (.z (zfa aN) (.y hs (zls [_,_,_,_,_,_] aQ aH) (.y hs (zls [_,_,_,_,_,_,_] cq aA) ?_)))))
  have hok:ez s:=hC.dG.1 (by simpa using hc19)
  have hsm:=ea hok.early.1
  have hrl:=hok.early.2.1
  have hcl:=hok.early.2.2.1
  have hmm:=hok.many
  have hll:=hok.db
  have hn:=rn s
  have htl:s.bw.length≤60:=by have:=dq s.rs;unfold Srv.bw;omega
  change St _ _ (.blk b4 _:: .blk b3 [I r.src,I r.st,I r.wa,I 0,I r.tol,I r.tape,I r.day]::_) at hs
  refine .o (.call Tryz.call107 rfl (jf (s:=s.sp) (r:=⟨r.src,r.st,r.wa,0,r.tol,r.tape,r.day⟩) hs (h1.mono hle1) (h2.mono hle1)) ?_);rintro _ w ⟨b26,rfl,hb26,hs⟩
  rw [show (⟨r.src,r.st,r.wa,0,r.tol,r.tape,r.day⟩:Rdg)=r by rw [←hr0]] at hb26
  refine .z iO (.nil ?_)
  refine (.cond rfl (fun hc27=>?_) (fun hc27=>?_))
  ·refine .ai (.z (zbd [_,_] cD) ?_)
   refine .o (.aV (vs:=[_,_]) hs rfl rfl aM fun w hs=>?_)
   refine .z zg (.nil ?_)
   refine .ret (rT (?_))
   exact Fin.gO [] [] hs fun w hs=>⟨_,results2 nS (dA (vs:=[_,_]) hs rfl cj aM) rfl,H1,_,_,_,hle1,rfl,.rdg hok (fun h=>by rw [hb26.2 h] at hc27;cases hc27),hs.out⟩
  ·refine .skip ?_
   refine nT ?_
   refine .ai (.y hs (zls [_,_,_,_,_,_,_,_] aF az) ?_)
   have hr:jo s.sp r:=hb26.1 (by simpa using hc27)
   obtain ⟨g1,g2,g3,g4,g5,g6,g7⟩:=id hr
   refine .o (.call CT rfl (kD (s:=s) hs (h1.mono hle1) (h2.mono hle1) (h3.mono hle1) (h4.mono hle1) hok.early) ?_);rintro _ w ⟨H2,vl,enL,hle2,rfl,hOL,hs⟩
   have hle02:=hle1.trans hle2
   obtain ⟨al,ll,cl,rfl,hlL⟩:=hOL.shape
   rw [dK] at hlL
   refine .o (.alloc hs dD rfl fun b7 w hs=>?_)
   refine .o (.aV (vs:=[_,_]) hs rfl rfl aI fun w hs=>?_)
   refine .nil (.ai (.y hs (zls [_,_,_,_,_,_,_,_] aF az) ?_))
   refine .o (.call Tryz.call90 rfl (la (s:=s) hs (h3.mono hle02) aj) ?_);rintro v32 w ⟨H3,enT,hle3,hOT,hs⟩
   have hle03:=hle02.trans hle3
   obtain ⟨at_,ct,rfl⟩:=hOT.ek (kN _) aj
   rw [dE] at hOT ⊢
   refine .z zg (.nil (.ai (.z zm (.y hs (zls [_,_,_,_,_,_,_] cq aA) ?_))))
   refine .o (.call FT rfl (e9 (r:=⟨r.src,r.st,r.wa,0,r.tol,r.tape,r.day⟩) hs) ?_);rintro _ w ⟨rfl,hs⟩
   refine .o (.call Tryz.call89 rfl (pn (t:=r.td) hs hOT aj) ?_);rintro _ w ⟨rfl,hs⟩
   have hnn:=kz (l:=s.bw) (t:=r.td)
   have hcap2:s.sys.many=((s.sp.many+s.bw.length:Nat):Int):=rfl
   refine .z zg (.nil ?_)
   refine .cut (fun fs w=>∃H4 al ll cl enL,jU fs ⟨134,[],[(9,I (s.tJ r.td:Int)),(7,.pointer (some ⟨b7,0,none⟩)),(4,.pointer (some ⟨b4,0,none⟩)),(3,.pointer (some ⟨b3,0,none⟩)),(2,.pointer (some ⟨b2,0,none⟩))]⟩∧HLe H3 H4∧cn 4 (.slice al ll cl) (gg (s.mh r.td).db) enL∧St H4 w (.blk b7 [I (s.mh r.td).many,.slice al ll cl]::enL:: .blk b4 [I 0,I 0]:: .blk b3 [I r.src,I r.st,I r.wa,I 0,I r.tol,I r.tape,I r.day]:: .blk b2 [I s.sp.id,I s.sp.src,.slice ast s.sp.st.length cst,.slice awa s.sp.wa.length cwa,I s.sp.al,I s.sp.up,.slice ar s.rs.length cr,.slice ac s.cs.length cc]::σ)) ?_ ?_
   ·refine .ai (.z zm (.z fj (.nil ?_)))
    refine (.bJ rfl (fun hc38=>?_) (fun hc38=>?_))
    ·refine .ai (.z zm (.z (cH bg) (.z zg (.nil ?_))))
     refine .seq (.draw mix rfl hs fun w hs=>?_)
     refine .ys 0 rfl hs [_,_,_,_,_,_,_,_] aF az ?_;refine .z 1 rfl zm ?_;refine .ys 2 rfl hs [_,_,_,_,_,_,_] cq aA ?_
     refine .E 3 hs ?_
     refine .call FT rfl (e9 (r:=⟨r.src,r.st,r.wa,0,r.tol,r.tape,r.day⟩) hs) ?_;rintro _ w ⟨rfl,hs⟩
     refine .go ?_
     refine .E 4 hs ?_
     refine .buildSlice (cells:=[_,_]) hs fH rfl rfl ?_;intro b45 w hs
     refine .go ?_
     refine .E 5 hs ?_
     refine .append (ys:=r.td.c) hs dR rfl rfl hOT (.own .here rfl rfl) (by simp [TD.c,Value.oneCell']) (fun l h=>by rw [bq _ (kN _),dE] at h;omega) ?_;intro v46 en46 w hO46 hs
     rw [←rX] at hO46
     obtain ⟨H4,hle4,hT4,hs⟩:=cn.cI (m:=2) (cs:=tdc (s.bw++[r.td])) hO46 (kN _) aj (by rw [dE];simp;omega) hs cJ
     replace hT4:RTd H4 v46 (s.bw++[r.td]):=hT4
     obtain ⟨a46,c46,rfl⟩:=RTd.shape hT4
     have hle04:=hle03.trans hle4
     have hk4:MkK H4 s (s.bw++[r.td]) (.slice ast s.sp.st.length cst) (.slice awa s.sp.wa.length cwa) (.slice ar s.rs.length cr) (.slice ac s.cs.length cc) (.slice a46 (s.bw++[r.td]).length c46):=⟨h1.mono hle04,h2.mono hle04,h3.mono hle04,h4.mono hle04,hT4⟩
     refine .go ?_
     refine .z 6 rfl (zbd (vs:=[(0,.agg #[I s.sp.id,I s.sp.src,.slice ast s.sp.st.length cst,.slice awa s.sp.wa.length cwa,I s.sp.al,I s.sp.up,.slice ar s.rs.length cr,.slice ac s.cs.length cc]),(1,.slice a46 (s.bw++[r.td]).length c46)]) [I s.sp.id,I s.sp.src,.slice ast s.sp.st.length cst,.slice awa s.sp.wa.length cwa,I s.sp.al,I s.sp.up,.slice ar s.rs.length cr,.slice ac s.cs.length cc,.slice a46 (s.bw++[r.td]).length c46,.slice none 0 0] lq rfl aq) ?_
     refine .E 7 hs ?_
     refine .box hs rfl rfl ?_;intro b48 w hs
     refine .go ?_
     refine .z 8 rfl zg ?_;refine .D hs ?_
     refine .seq (.draw mix rfl hs fun w hs=>?_)
     refine .z 0 rfl zm ?_;refine .z 1 rfl zm ?_;refine .z 2 rfl zm ?_;refine .z 4 rfl (zfa aN) ?_;refine .z 5 rfl (zfa df) ?_;refine .y 6 rfl hs ae ?_
     refine .E 3 hs ?_
     refine .call Tryz.call116 rfl (iW (s:=s.sp) hs .here hk4.st hk4.wa ⟨aj,aj⟩ ⟨aj,aj⟩) ?_;rintro _ w ⟨rfl,hs⟩
     refine .go ?_
     refine .E 7 hs ?_
     refine .call tz rfl (fB (ls:=[]) (hs.nul.sb:St H4 w (.blk b48 _:: .nul:: .blk b7 [I s.sys.many,.slice al ll cl]::enL:: .blk b4 [I 0,I 0]:: .blk b3 [I r.src,I r.st,I r.wa,I 0,I r.tol,I r.tape,I r.day]:: .blk b2 [I s.sp.id,I s.sp.src,.slice ast s.sp.st.length cst,.slice awa s.sp.wa.length cwa,I s.sp.al,I s.sp.up,.slice ar s.rs.length cr,.slice ac s.cs.length cc]::σ)) (.nil 4 none) bQ) ?_;rintro _ w ⟨vl5,en5,hO5,hs⟩
     rw [List.nil_append] at hO5
     refine .go ?_
     refine .D hs ?_
     refine .ai (.z zm (.z zm ?_))
     refine .o (.call Tryz.call117 rfl (kg (s:=s) (ts:=s.bw++[r.td]) (j0:=s.bw.length) hs hk4 hO5 (by simp [two]) hok.early.1 (by simp;omega) hcl hok.early.2.2.2.2 bQ) ?_);rintro _ w ⟨H5,vl6,en6,hle5,hO6,hs⟩
     obtain ⟨a6,l6,c6,rfl,hl6⟩:=hO6.shape
     have hnot:r.td∉s.bw:=fun h=>by have:=hnn.2 h;omega
     have hsys:s.mh r.td=⟨s.sys.many+1,s.db++(two 0 ((s.sp.many:Int)+1+(s.bw.length:Int)) 1000 1000 s.sp.src++oU s.sp (s.bw++[r.td]) s.cs s.bw.length s.cs.length)⟩:=if_neg hnot
     have hlen6:=BG hok r.td
     rw [hsys,List.length_append] at hlen6
     rw [dK] at hl6
     refine .nil ?_
     refine .draw mix rfl hs fun w hs=>?_
     refine .z 0 rfl (zfa bP) ?_;refine .y 1 rfl hs ae ?_;refine .z 2 rfl cA ?_;refine .z 3 rfl (zfa bV) ?_;refine .y 4 rfl hs du ?_;refine .z 5 rfl zm ?_;refine .z 6 rfl znc ?_;refine .z 7 rfl (zfa gx) ?_;refine .y 8 rfl hs du ?_;refine .z 10 rfl (zfa bP) ?_
     refine .E 9 hs ?_
     refine .append (ys:=gg (two 0 ((s.sp.many:Int)+1+(s.bw.length:Int)) 1000 1000 s.sp.src++oU s.sp (s.bw++[r.td]) s.cs s.bw.length s.cs.length)) hs ck rfl rfl hOL (Src.EK hO6 (.there .here)) (jG _) (fun l h=>by rw [dK] at h;omega) ?_;intro v69 en69 w hO69 hs
     rw [←gd] at hO69
     obtain ⟨a69,l69,c69,rfl,h69⟩:=hO69.shape
     refine .go ?_
     refine .E 11 hs ?_
     refine .store hs rfl rfl af ?_;intro w hs
     refine .go ?_
     refine .z 12 rfl (zfa bV) ?_
     refine .E 13 hs ?_
     refine .store hs rfl rfl lP ?_;intro w hs
     refine .go ?_
     refine .D hs ?_
     refine nT ?_
     refine ⟨H5,a69,l69,c69,en69,?_,hle4.trans hle5,by rw [hsys];exact hO69,by rw [hsys];exact hs.sb⟩
     refine .bX rfl ?_ aU
     unfold Srv.tJ;rw [if_neg hnot]
    ·refine .skip ?_
     refine nT ?_
     have hmem:r.td∈s.bw:=hnn.1 aj
     have hsys:s.mh r.td=s.sys:=if_pos hmem
     obtain ⟨k,k1,_,_⟩:=fm hmem
     refine ⟨H3,al,ll,cl,enL,?_,HLe.refl _,by rw [hsys];exact hOL,by rw [hsys];exact hs.sb⟩
     refine .bX rfl ?_ aU
     unfold Srv.tJ;rw [if_pos hmem,k1];rfl
   ·clear hOL hOT hlL hnn
    rintro fs w ⟨H4,al,ll,cl,enL,hfs,hle4,hOL,hs⟩
    refine WE.sub ?_ hfs
    have hle04:=hle03.trans hle4
    obtain ⟨_,_,_,e0,hlL⟩:=hOL.shape
    cases e0
    rw [dK] at hlL
    have htn:=CZ s r.td
    have hjlt:=Fk s r.td
    have hmany:(s.mh r.td).many+1=((s.mh r.td).n:Int):=by
     unfold Srv.mh
     split
     ·simp only [de.n,Srv.sys];omega
     ·simp only [de.n,Srv.sys];omega
    have hn70:(s.mh r.td).n≤200:=by rw [htn];split<;>omega
    have hll6:ll=(s.mh r.td).db.length:=by omega
    refine .seq (.ai (.z (zfa bP) (.y hs (zld ae) (.z kT (.z zm ?_)))))
    refine .iq (t':=75) rfl (fun hb75=>?_) (fun hb75=>?_)
    ·refine .gFs 4 3 false rfl rfl rfl ?_
     refine .z zpT (.nil ?_)
     refine (.cT ?_)
     refine .ai (.z (zbd [_,_] cD) ?_)
     refine .o (.aV (vs:=[_,_]) hs rfl rfl aM fun w hs=>?_)
     refine .z zg (.nil ?_)
     refine .ret (rT (?_))
     exact Fin.gO [] [] hs fun w hs=>⟨_,results2 nS (dA (vs:=[_,_]) hs rfl cj aM) rfl,H4,_,_,_,hle04,rfl,.long hok hr aj,hs.out⟩
    ·refine .gT rfl rfl ?_
     refine .z (zfa bV) ?_
     refine .gT rfl rfl ?_
     refine .y hs (zld du) ?_
     refine .gT rfl rfl ?_
     refine .z (cH a8) ?_
     refine .gT rfl rfl ?_
     refine .z kT (.z zpF (.nil ?_))
     refine (.bJ rfl (fun hc80=>?_) (fun hc80=>?_))
     ·refine .ai (.z (zbd [_,_] cD) ?_)
      refine .o (.aV (vs:=[_,_]) hs rfl rfl aM fun w hs=>?_)
      refine .z zg (.nil ?_)
      refine .ret (rT (?_))
      exact Fin.gO [] [] hs fun w hs=>⟨_,results2 nS (dA (vs:=[_,_]) hs rfl cj aM) rfl,H4,_,_,_,hle04,rfl,.long hok hr aj,hs.out⟩
     ·refine .skip ?_
      refine nT ?_
      refine .ai (.z (zfa bP) (.y hs (zld ae) (.z cA ?_)))
      have hfit:(s.mh r.td).many≤64∧(s.mh r.td).db.length≤400:=by omega
      refine .o (.pR (s.mh r.td).n hs (by show some (I _)=some (I _);rw [←hmany]) (by show some (I _)=some (I _);rw [←hmany]) aa dY rfl af bO aj ?_);intro b85 w hs
      obtain ⟨u1,u2,u3⟩:=BW hr
      have hub:=xj u1 u2
      refine .z zg (.nil (.ai (.z zm (.z (zfa aN) (.y hs (zls [_,_,_,_,_,_] aQ aH) (.z (zfa eN) (.y hs (zld ae) (.z (zfa eM) (.y hs (zld ae) ?_)))))))))
      refine .o (.call Tryz.call118 rfl (jT (s:=s.sp) hs (h2.mono hle04) aj ⟨aj,aj⟩ ⟨aj,aj⟩) ?_);rintro _ w ⟨rfl,hs⟩
      rw [u3]
      refine .q hs (dS (k:=s.sp.u r.st.toNat r.wa.toNat) rfl rfl aa af rfl aj) ?_
      refine .o (.store (c':=Is (qq (s.mh r.td).n (s.sp.u r.st.toNat r.wa.toNat) 1)) hs rfl rfl af ?_ cJ (by simp [Is];omega) (ma _ _ _));intro w hs
      refine .nil (.ai (.z zm (.z (zfa aN) (.y hs (zls [_,_,_,_,_,_] aQ aH) ?_))))
      refine .o (.call Tryz.call91 rfl (fN (s:=s.sp) hs (h1.mono hle04) (h2.mono hle04) ⟨aj,aj⟩) ?_);rintro _ w ⟨rfl,hs⟩
      refine .z cA (.z zm (.z cA ?_))
      refine .q hs (dS (k:=s.sp.many+1+s.tJ r.td) rfl rfl aa af aj aj) ?_
      refine .o (.store (c':=Is (s.tW r)) hs rfl rfl af ?_ cJ (by simp [Is,iI];omega) (ma _ _ _));intro w hs
      refine .nil (.ai (.y hs (zls [_,_] bp aI) (.z zm ?_)))
      have hwl:(s.tW r).length=(s.mh r.td).n:=by simp [Srv.tW,iI]
      obtain ⟨H5,hle5,hW,hs⟩:=cn.cN (xs:=s.tW r) (v:= .slice (some ⟨b85,0,none⟩) (s.mh r.td).n (s.mh r.td).n) (.full (by simp [Is,hwl])) aj hs cJ
      obtain ⟨H6,hle6,hL6,hs⟩:=cn.cI (m:=4) (cs:=(s.mh r.td).db.map Lim.c) hOL (fun c hc=>by simp only [List.mem_map] at hc;obtain ⟨x,_,rfl⟩:=hc;rfl) aj (by rw [List.length_map];omega) hs cJ
      refine .o (.call Tryz.call74 rfl (jN (s:=s.mh r.td) hs ⟨_,rfl,hL6⟩ (hW.mono hle6)) ?_);rintro _ w ⟨H7,a,b,f,hle7,rfl,hRg,hs⟩
      have hbd:=hRg.bd
      have hleF:=hle04.trans (hle5.trans (hle6.trans hle7))
      refine .z zm (.z zex (.z zex (.z zex (.z zg (.z zg (.z zg (.nil (.seq (.ai ?_)))))))))
      refine .z zm (.z iw (.nil ?_))
      refine (.fc rfl (fun hc111=>?_) (fun hc111=>?_))
      ·refine .ai (.z (zbd [_,_] cD) ?_)
       refine .o (.aV (vs:=[_,_]) hs rfl rfl aM fun w hs=>?_)
       refine .z zg (.nil ?_)
       refine .ret (rT (?_))
       exact Fin.gO [] [] hs fun w hs=>⟨_,results2 nS (dA (vs:=[_,_]) hs rfl cj aM) rfl,H7,_,_,_,hleF,rfl,.fls hok hr hfit hRg hc111,hs.out⟩
      ·refine .skip ?_
       refine nT ?_
       refine .ai ?_
       obtain rfl:f=0:=by simpa using hc111
       refine .z zm (.z (zfa cz) (.y hs (zld ae) (.z ir (.z Dd (.z zm (.z (zfa cz) (.y hs (zld ae) (.z cA (.z (zfa cz) ?_)))))))))
       refine .y hs (zld ae) (.z ir (.z zL (.z (zbd [_,_] cD) ?_)))
       refine .o (.alloc hs cO rfl fun b15 w hs=>?_)
       refine .o (.aV (vs:=[_,_]) hs rfl rfl aM fun w hs=>?_)
       refine .nil (.seq (.ai (.z (zfa tQ) (.y hs (zld ae) (.z (zfa tP) (.y hs (zld ae) (.z kT (.nil ?_))))))))
       refine (.bJ rfl (fun hc131=>?_) (fun hc131=>?_))
       ·refine .ai (.z (zbd [_,_] cD) ?_)
        refine .o (.aV (vs:=[_,_]) hs rfl rfl aM fun w hs=>?_)
        refine .z zg (.nil ?_)
        refine .ret (rT (?_))
        exact Fin.gO [] [] hs fun w hs=>⟨_,results2 nS (dA (vs:=[_,_]) hs rfl cj aM) rfl,H7,_,_,_,hleF,rfl,.none hok hr hfit hRg aj,hs.out⟩
       ·refine .skip ?_
        refine nT ?_
        refine .ai (.y hs (zls [_,_] cj aM) ?_)
        refine .o (.aV (vs:=[_,_]) hs rfl rfl aM fun w hs=>?_)
        refine .z zg (.nil ?_)
        refine .ret ?_
        exact Fin.gO [] [] hs fun w hs=>⟨_,results2 nS (dA (vs:=[_,_]) hs rfl cj aM) rfl,H7,_,_,_,hleF,rfl,.ok hok hr hfit hRg aj,hs.out⟩
set_option maxRecDepth 100000 in
theorem qy:Tryz.prog.stoodInHeld 44=false:=by kernel_rfl
set_option maxRecDepth 100000 in
theorem qz:Tryz.prog.eqGuardType Tryz.prog.depth 44=false:=by kernel_rfl
theorem fY{v1 v2:Value}{as_ bs:List Int}(hs:St H w σ)(h1:RI H v1 as_)(h2:RI H v2 bs):
  Cl Tryz.prog 34 [v1,v2] w fun u w'=>u= .bool (decide (as_=bs))∧St H w' σ:=by
 obtain ⟨a1,c1,rfl⟩:=RI.shape h1
 obtain ⟨a2,c2,rfl⟩:=RI.shape h2
 have l1:=(RI.len h1).2.2
 refine Cl.o Tryz.func34 Tryz.ntmps34 ag2 ?_
 refine .ai (.z zg (.nil (.ai (.z zm (.z (cH aa) (.z zm (.z (cH aa) (.z fL (.z zg ?_)))))))))
 refine .nil (.seq (.ai (.z zg (.nil (.block ?_)))))
 refine .loop (fun p:Nat×Bool=>⟨31,[],[(6,I (p.1:Int)),(5,.bool p.2),(0,.slice a1 as_.length c1),(1,.slice a2 bs.length c2)]⟩)
  (fun p w=>p.1≤as_.length∧(p.2=true↔as_.length=bs.length∧∀j<p.1,gi as_ j=gi bs j)∧St H w σ) (fun p=>as_.length - p.1) (0,decide ((as_.length:Int)=bs.length)) aU
  ⟨Nat.zero_le _,by dsimp only;rw [decide_eq_true_eq];exact ⟨fun h=>⟨aj,fun j hj=>by omega⟩,fun h=>by omega⟩,hs⟩ ?_
 rintro ⟨k,b⟩ w ⟨hk,hb,hs⟩
 dsimp only at hk hb ⊢
 refine .seq (.ai (.z zm (.z zm (.z (cH aa) (.z fj (.z zm ?_))))))
 refine .iq (t':=16) rfl (fun hb16=>?_) (fun hb16=>?_)
 ·refine .gT rfl rfl ?_
  refine .z zm (.z zpT (.nil ?_))
  refine (.cond rfl (fun hc18=>?_) (fun hc18=>?_))
  ·refine .skip ?_
   refine nT ?_
   refine .seq (.block ?_)
   refine .draw mix rfl hs fun w hs=>?_
   refine .z 0 rfl zm ?_;refine .z 1 rfl zm ?_
   obtain rfl:b=true:=by assumption
   obtain ⟨hlen,hall⟩:=hb.1 rfl
   refine .ixX (enc:=fun x=>[I x]) (i:=2) hs rfl aq .none h1 rfl rfl aa af (bu (l:=as_) (i:=k) aj) cM ?_;intro b23 o23 hc23;replace hc23:=bH.one hc23
   refine .r (i:=3) hs rfl aq .none (aK rfl ae hc23) ?_
   refine .z 4 rfl zm ?_;refine .z 5 rfl zm ?_
   refine .ixX (enc:=fun x=>[I x]) (i:=6) hs rfl aq .none h2 rfl rfl aa af (bu (l:=bs) (i:=k) aj) cM ?_;intro b27 o27 hc27;replace hc27:=bH.one hc27
   refine .r (i:=7) hs rfl aq .none (aK rfl ae hc27) ?_
   refine .z 8 rfl fL ?_;refine .z 9 rfl zg ?_;refine .D hs ?_
   refine nB (nT ?_)
   refine .region (.z zm (.z cA (.z zg (.nil ?_))))
   refine nT ?_
   exact ⟨(k+1,decide (gi as_ k=gi bs k)),.bX rfl bQ aU,⟨by dsimp only;omega,by
    dsimp only
    rw [decide_eq_true_eq]
    exact ⟨fun h=>⟨hlen,fun j hj=>by
     by_cases e:j=k
     ·subst e;exact h
     ·exact hall j aj⟩,fun h=>h.2 k aj⟩,hs⟩,by dsimp only;omega⟩
  ·refine .exit ?_
   refine xT (xT (xB (nT ?_)))
   refine .ai (.z zm (.z zg (.nil ?_)))
   refine .ret (Fin.bL Tryz.results34 rfl ?_)
   have hf:b=false:=by simpa using hc18
   exact ⟨by rw [hf,decide_eq_false (fun h=>by subst h;rw [hb.2 ⟨rfl,fun j _=>rfl⟩] at hf;cases hf)],hs⟩
 ·refine .gFs 1 4 true rfl rfl rfl ?_
  refine .z zpF (.nil ?_)
  refine (.cF ?_)
  refine .exit ?_
  refine xT (xT (xB (nT ?_)))
  refine .ai (.z zm (.z zg (.nil ?_)))
  refine .ret (Fin.bL Tryz.results34 rfl ?_)
  refine ⟨?_,hs⟩
  congr 1
  cases hbb:b with
  |true=>
   obtain ⟨hl,ha⟩:=hb.1 hbb
   rw [decide_eq_true (wX hl fun j hj=>ha j aj)]
  |false=>rw [decide_eq_false (fun h=>by subst h;rw [hb.2 ⟨rfl,fun j _=>rfl⟩] at hbb;cases hbb)]
theorem pS(hs:St H w σ):
  Cl Tryz.prog 82 [] w fun u w'=>∃H1 vst vwa vr vc,HLe H H1∧u= .agg #[I 1,I 1,vst,vwa,I 100,I 200,vr,vc]∧RI H1 vst exV.sp.st∧RI H1 vwa exV.sp.wa∧RRd H1 vr exV.rs∧RCm H1 vc exV.cs∧St H1 w' σ:=by
 refine Cl.of Tryz.func82 rfl Tryz.ntmps82 bQ (vN) ?_
 refine .ai ?_
 refine .o (.alloc hs bZ rfl fun b0 w hs=>?_)
 refine .nil (.ai ?_)
 refine .o (.buildSlice (cells:=Is [0,1000]) hs iL rfl aq fun b2 w hs=>?_)
 refine .o (.buildSlice (cells:=Is [0,1000]) hs iL rfl aq fun b3 w hs=>?_)
 refine .z (zbd [_,_] re) (.z (zbd [_,_,_,_,_,_] qc) ?_)
 refine .o (.alloc hs gN rfl fun b1 w hs=>?_)
 refine .o (.aV (vs:=[_,_,_,_,_,_]) hs rfl rfl aH fun w hs=>?_)
 refine .nil (.ai (.y hs (zls [_,_,_,_,_,_] aQ aH) (.z (zbd [_,_,_,_,_,_,_] ff) (.z (zbd [_,_,_,_,_,_,_] ff) (.z (zbd [_,_,_,_,_,_,_] ff) (.z (zbd [_,_,_,_,_,_,_] ff) ?_))))))
 refine .o (.buildSlice (cells:=(rdc Br).flatten) hs nN rfl aq fun b11 w hs=>?_)
 refine .z (zbd [_,_,_,_,_,_] m9) ?_
 refine .o (.buildSlice (cells:=(cmc exV.cs).flatten) hs gW rfl aq fun b13 w hs=>?_)
 refine .z (zbd (vs:=[(0,.agg #[I 1,I 1,.slice (some ⟨b2,0,none⟩) 2 2,.slice (some ⟨b3,0,none⟩) 2 2,I 100,I 200]),(1,.slice (some ⟨b11,0,none⟩) 4 4),(2,.slice (some ⟨b13,0,none⟩) 1 1)]) [I 1,I 1,.slice (some ⟨b2,0,none⟩) 2 2,.slice (some ⟨b3,0,none⟩) 2 2,I 100,I 200,.slice (some ⟨b11,0,none⟩) 4 4,.slice (some ⟨b13,0,none⟩) 1 1] eC rfl aq) ?_
 refine .o (.aV (vs:=[_,_,_,_,_,_,_,_]) hs rfl rfl az fun w hs=>?_)
 refine .nil ?_
 refine .ret ?_
 obtain ⟨H1,g1,r1,hs⟩:=cn.cN (xs:=[0,1000]) (v:= .slice (some ⟨b2,0,none⟩) 2 2) (.full rfl) bQ hs cJ
 obtain ⟨H2,g2,r2,hs⟩:=cn.cN (xs:=[0,1000]) (v:= .slice (some ⟨b3,0,none⟩) 2 2) (.full rfl) bQ hs cJ
 obtain ⟨H3,g3,r3,hs⟩:=cn.cI (m:=7) (cs:=rdc Br) (v:= .slice (some ⟨b11,0,none⟩) 4 4) (.full aq) (eK _) aj gp hs cJ
 obtain ⟨H4,g4,r4,hs⟩:=cn.cI (m:=6) (cs:=cmc exV.cs) (v:= .slice (some ⟨b13,0,none⟩) 1 1) (.full aq) (gP _) aj gp hs cJ
 exact Fin.gO [] [] hs fun w hs=>⟨_,results1 Tryz.results82 (dA (vs:=[_,_,_,_,_,_,_,_]) hs rfl aF az),H4,_,_,_,_,g1.trans (g2.trans (g3.trans g4)),rfl,r1.mono (g2.trans (g3.trans g4)),r2.mono (g3.trans g4),r3.mono g4,r4,hs.out⟩
theorem CA{out:List Int}{e:Int}(h:y5 exW out e):out=[11,15]∧e=0:=by
 cases h with
 |bad h he=>exact (he (h.dG.2 ER)).elim
 |ok _ h=>rw [DM] at h;exact A2 h
set_option maxHeartbeats 4000000 in
theorem s8(hs:St H w σ):
  Cl Tryz.prog 22 [] w fun u w'=>u= .bool true∧∃H1,HLe H H1∧St H1 w' σ:=by
 refine Cl.of Tryz.func22 rfl Tryz.ntmps22 bQ (vN) ?_
 refine .ai (.z zg (.nil (.ai ?_)))
 refine .o (.call Tryz.call82 rfl (pS hs) ?_);rintro _ w ⟨H1,vst,vwa,vr,vc,hle1,rfl,h1,h2,h3,h4,hs⟩
 obtain ⟨ast,cst,rfl⟩:=RI.shape h1
 obtain ⟨awa,cwa,rfl⟩:=RI.shape h2
 obtain ⟨ar,cr,rfl⟩:=RRd.shape h3
 obtain ⟨ac,cc,rfl⟩:=RCm.shape h4
 refine .o (.alloc hs bZ rfl fun b1 w hs=>?_)
 refine .o (.aV (vs:=[_,_,_,_,_,_,_,_]) hs rfl rfl az fun w hs=>?_)
 refine .nil (.ai (.y hs (zls [_,_,_,_,_,_,_,_] aF az) (.z (zbd [_,_,_] kL) ?_)))
 refine .o (.call Tryz.call26 rfl (fp (s:=exV) (q:=⟨1,0,1⟩) hs h1 h2 h3 h4) ?_);rintro _ w ⟨H2,lo,hi,e,hle2,rfl,hQ,hs⟩
 obtain ⟨rfl,rfl,rfl⟩:=A1 hQ
 have hle02:=hle1.trans hle2
 replace h1:=h1.mono hle2
 replace h2:=h2.mono hle2
 replace h3:=h3.mono hle2
 replace h4:=h4.mono hle2
 refine .z zm (.z zex (.z zex ?_))
 refine .o (.alloc hs cO rfl fun b2 w hs=>?_)
 refine .o (.aV (vs:=[_,_]) hs rfl rfl aM fun w hs=>?_)
 refine .z zg (.nil (.ai (.y hs (zls [_,_,_,_,_,_,_,_] aF az) (.z (zbd [_,_] fQ) ?_))))
 refine .o (.call Tryz.call28 rfl (qJ (s:=exV) (t:=⟨2,5⟩) hs h1 h2 h3 h4) ?_);rintro _ w ⟨H3,lo,hi,e,hle3,rfl,hQ,hs⟩
 obtain ⟨rfl,rfl,rfl⟩:=DL hQ
 have hle03:=hle02.trans hle3
 replace h1:=h1.mono hle3
 replace h2:=h2.mono hle3
 replace h3:=h3.mono hle3
 replace h4:=h4.mono hle3
 refine .z zm (.z zex (.z zex ?_))
 refine .o (.alloc hs cO rfl fun b4 w hs=>?_)
 refine .o (.aV (vs:=[_,_]) hs rfl rfl aM fun w hs=>?_)
 refine .z zg (.nil (.ai (.z (zfa aN) (.y hs (zls [_,_,_,_,_,_] aQ aH) ?_))))
 refine .o (.buildSlice (cells:=Is [100,200]) hs iL rfl aq fun b30 w hs=>?_)
 refine .o (.buildSlice (cells:=Is [150,300]) hs iL rfl aq fun b31 w hs=>?_)
 refine .o (.buildSlice (cells:=[.slice (some ⟨b30,0,none⟩) 2 2,.slice (some ⟨b31,0,none⟩) 2 2]) hs tS rfl aq fun b32 w hs=>?_)
 refine .z (zbd [_] xa) (.z (zbd [_,_,_] kL) ?_)
 obtain ⟨H4,g1,r1,hs⟩:=cn.cN (xs:=[100,200]) (v:= .slice (some ⟨b30,0,none⟩) 2 2) (.full rfl) bQ hs cJ
 obtain ⟨H5,g2,r2,hs⟩:=cn.cN (xs:=[150,300]) (v:= .slice (some ⟨b31,0,none⟩) 2 2) (.full rfl) bQ hs cJ
 have hRL:RLs H5 [.slice (some ⟨b30,0,none⟩) 2 2,.slice (some ⟨b31,0,none⟩) 2 2] yP:=((RLs.nil H5).snoc (r1.mono g2)).snoc r2
 obtain ⟨H6,g3,hRT,hs⟩:=hRL.cI (v:= .slice (some ⟨b32,0,none⟩) 2 2) (en:= .blk b32 [.slice (some ⟨b30,0,none⟩) 2 2,.slice (some ⟨b31,0,none⟩) 2 2]) (.full rfl) bQ hs cJ
 have hle4:=g1.trans (g2.trans g3)
 have hle06:=hle03.trans hle4
 replace h1:=h1.mono hle4
 replace h2:=h2.mono hle4
 replace h3:=h3.mono hle4
 replace h4:=h4.mono hle4
 refine .o (.call Tryz.call37 rfl (pJ (s:=zC) (q:=⟨1,0,1⟩) hs h1 h2 hRT) ?_);rintro _ w ⟨H7,n,e,hle7,rfl,hQ,hs⟩
 obtain ⟨rfl,rfl⟩:=Ct hQ
 have hle07:=hle06.trans hle7
 replace h1:=h1.mono hle7
 replace h2:=h2.mono hle7
 replace h3:=h3.mono hle7
 replace h4:=h4.mono hle7
 refine .z zm (.z zex (.z zex (.z zg (.z zg (.nil (.ai (.y hs (zls [_,_,_,_,_,_,_,_] aF az) (.z (zbd [_,_,_,_,_,_,_] ff) ?_))))))))
 refine .o (.call Tryz.call46 rfl (qI (s:=exV) (r:=⟨30,1,0,0,5,1,5⟩) hs h1 h2 h3 h4 rfl) ?_);rintro _ w ⟨H8,lo,hi,e,hle8,rfl,hQ,hs⟩
 obtain ⟨rfl,rfl,rfl⟩:=DK hQ
 have hle08:=hle07.trans hle8
 replace h1:=h1.mono hle8
 replace h2:=h2.mono hle8
 replace h3:=h3.mono hle8
 replace h4:=h4.mono hle8
 refine .z zm (.z zex (.z zex ?_))
 refine .o (.alloc hs cO rfl fun b8 w hs=>?_)
 refine .o (.aV (vs:=[_,_]) hs rfl rfl aM fun w hs=>?_)
 refine .z zg (.nil (.ai (.y hs (zls [_,_,_,_,_,_,_,_] aF az) ?_)))
 refine .o (.alloc hs bZ rfl fun b10 w hs=>?_)
 refine .o (.aV (vs:=[_,_,_,_,_,_,_,_]) hs rfl rfl az fun w hs=>?_)
 refine .nil (.ai ?_)
 refine .o (.buildSlice (cells:=[]) hs fI rfl rfl fun b45 w hs=>?_)
 refine .z (zfa aD) (.y hs (zld aO) ?_)
 refine .o (.append (xs:=[]) (ys:=(rdc Br).flatten) hs bA rfl rfl (.full (b:=b45) (len:=0) rfl) (.rs h3) gp (fun l' h=>by have hl:l'=0:=(by simp at h;omega);subst hl;decide) ?_);intro v48 en48 w hO48 hs
 rw [List.nil_append] at hO48
 obtain ⟨a48,c48,rfl⟩:=hO48.ek (eK Br) aj
 refine .z (zbd [_,_,_,_,_,_,_] ff) ?_
 refine .o (.buildSlice (cells:=Rdg.c ⟨15,0,0,300,10,1,5⟩) hs ee rfl aq fun b50 w hs=>?_)
 refine .o (.append (ys:=Rdg.c ⟨15,0,0,300,10,1,5⟩) hs bA rfl rfl hO48 (.own .here rfl rfl) gp (fun l' h=>by rw [bq _ (eK _)] at h;simp [rdc,Br] at h;omega) ?_);intro v51 en51 w hO51 hs
 rw [←np] at hO51
 obtain ⟨H9,hle9,h3w,hs⟩:=cn.cI (m:=7) (cs:=rdc (Br++[⟨15,0,0,300,10,1,5⟩])) hO51 (eK _) aj gp hs cJ
 replace h3w:RRd H9 v51 exW.rs:=h3w
 obtain ⟨a51,c51,rfl⟩:=RRd.shape h3w
 have hle09:=hle08.trans hle9
 replace h1:=h1.mono hle9
 replace h2:=h2.mono hle9
 replace h4:=h4.mono hle9
 refine .z (zfa aD) ?_
 refine .o (.store hs rfl rfl fT fun w hs=>?_)
 refine .nil (.ai (.y hs (zls [_,_,_,_,_,_,_,_] aF az) ?_))
 refine .o (.call Tryz.call32 rfl (pL (s:=exW) hs h1 h2 h3w h4) ?_);rintro _ w ⟨H10,vx,out,e,hle10,rfl,hR,hQ,hs⟩
 obtain ⟨rfl,rfl⟩:=CA hQ
 have hle010:=hle09.trans hle10
 refine .z zm (.z zex (.z zex (.z zg (.z zg (.nil (.ai (.z zm ?_)))))))
 refine .o (.buildSlice (cells:=Is [11,15]) hs iL rfl aq fun b59 w hs=>?_)
 obtain ⟨H11,hle11,r59,hs⟩:=cn.cN (xs:=[11,15]) (v:= .slice (some ⟨b59,0,none⟩) 2 2) (.full rfl) bQ hs cJ
 have hleF:=hle010.trans hle11
 refine .o (.call Tryz.call34 rfl (fY hs (hR.mono hle11) r59) ?_);rintro _ w ⟨rfl,hs⟩
 refine .z zg (.nil (.ai (.z zm (.z fL (.z zm ?_)))))
 refine .iq (t':=63) rfl (fun hb63=>?_) (fun hb63=>?_)
 ·refine .gT rfl rfl ?_
  refine .y hs (zls [_,_] cj aM) ?_
  refine .gT rfl rfl ?_
  refine .z (zbd [_,_] cD) ?_
  refine .gT rfl rfl ?_
  refine .q hs (lY qy qz ef (fun f hf=>by
   simp only [List.mem_cons,List.not_mem_nil,or_false] at hf
   rcases hf with rfl|rfl<;>exact ⟨by decide,aS,ae⟩) rfl rfl) ?_
  refine .z zpT (.z zm ?_)
  refine .bif (t':=68) rfl (fun hb68=>?_) (fun hb68=>?_)
  ·refine .gT rfl rfl ?_
   refine .z zm ?_
   refine .gT rfl rfl ?_
   refine .z fL (.z zpT (.z zm ?_))
   refine .iq (t':=72) rfl (fun hb72=>?_) (fun hb72=>?_)
   ·refine .gT rfl rfl ?_
    refine .y hs (zls [_,_] cj aM) ?_
    refine .gT rfl rfl ?_
    refine .z (zbd [_,_] cD) ?_
    refine .gT rfl rfl ?_
    refine .q hs (lY qy qz ef (fun f hf=>by
     simp only [List.mem_cons,List.not_mem_nil,or_false] at hf
     rcases hf with rfl|rfl<;>exact ⟨by decide,aS,ae⟩) rfl rfl) ?_
    refine .z zpT (.z zm ?_)
    refine .bif (t':=77) rfl (fun hb77=>?_) (fun hb77=>?_)
    ·refine .gT rfl rfl ?_
     refine .z zm ?_
     refine .gT rfl rfl ?_
     refine .z fL (.z zpT (.z zm ?_))
     refine .iq (t':=81) rfl (fun hb81=>?_) (fun hb81=>?_)
     ·refine .gT rfl rfl ?_
      refine .z zm ?_
      refine .gT rfl rfl ?_
      refine .z fL (.z zpT (.z zm ?_))
      refine .iq (t':=85) rfl (fun hb85=>?_) (fun hb85=>?_)
      ·refine .gT rfl rfl ?_
       refine .z zm ?_
       refine .gT rfl rfl ?_
       refine .z fL (.z zpT (.z zm ?_))
       refine .iq (t':=89) rfl (fun hb89=>?_) (fun hb89=>?_)
       ·refine .gT rfl rfl ?_
        refine .y hs (zls [_,_] cj aM) ?_
        refine .gT rfl rfl ?_
        refine .z (zbd [_,_] cD) ?_
        refine .gT rfl rfl ?_
        refine .q hs (lY qy qz ef (fun f hf=>by
         simp only [List.mem_cons,List.not_mem_nil,or_false] at hf
         rcases hf with rfl|rfl<;>exact ⟨by decide,aS,ae⟩) rfl rfl) ?_
        refine .z zpT (.z zm ?_)
        refine .bif (t':=94) rfl (fun hb94=>?_) (fun hb94=>?_)
        ·refine .gT rfl rfl ?_
         refine .z zm ?_
         refine .gT rfl rfl ?_
         refine .z fL (.z zpT (.z zm ?_))
         refine .iq (t':=98) rfl (fun hb98=>?_) (fun hb98=>?_)
         ·refine .gT rfl rfl ?_
          refine .z zm (.z zpT (.z zg (.nil ?_)))
          refine .ret (Fin.bL gQ rfl ?_)
          first
          |exact ⟨rfl,H11,hleF,hs.out⟩
          |contradiction
          |(exfalso;simp_all;done)
         ·refine .gFs 1 37 true rfl rfl rfl ?_
          refine .z zpF (.z zg (.nil ?_))
          refine .ret (Fin.bL gQ rfl ?_)
          first
          |exact ⟨rfl,H11,hleF,hs.out⟩
          |contradiction
          |(exfalso;simp_all;done)
        ·refine .gFs 2 33 true rfl rfl rfl ?_
         refine .z zpF (.z zm ?_)
         refine .gFs 1 37 true rfl rfl rfl ?_
         refine .z zpF (.z zg (.nil ?_))
         refine .ret (Fin.bL gQ rfl ?_)
         first
         |exact ⟨rfl,H11,hleF,hs.out⟩
         |contradiction
         |(exfalso;simp_all;done)
       ·refine .gFs 3 28 true rfl rfl rfl ?_
        refine .z zpF (.z zm ?_)
        refine .gFs 2 33 true rfl rfl rfl ?_
        refine .z zpF (.z zm ?_)
        refine .gFs 1 37 true rfl rfl rfl ?_
        refine .z zpF (.z zg (.nil ?_))
        refine .ret (Fin.bL gQ rfl ?_)
        first
        |exact ⟨rfl,H11,hleF,hs.out⟩
        |contradiction
        |(exfalso;simp_all;done)
      ·refine .gFs 2 24 true rfl rfl rfl ?_
       refine .z zpF (.z zm ?_)
       refine .gFs 3 28 true rfl rfl rfl ?_
       refine .z zpF (.z zm ?_)
       refine .gFs 2 33 true rfl rfl rfl ?_
       refine .z zpF (.z zm ?_)
       refine .gFs 1 37 true rfl rfl rfl ?_
       refine .z zpF (.z zg (.nil ?_))
       refine .ret (Fin.bL gQ rfl ?_)
       first
       |exact ⟨rfl,H11,hleF,hs.out⟩
       |contradiction
       |(exfalso;simp_all;done)
     ·refine .gFs 2 20 true rfl rfl rfl ?_
      refine .z zpF (.z zm ?_)
      refine .gFs 2 24 true rfl rfl rfl ?_
      refine .z zpF (.z zm ?_)
      refine .gFs 3 28 true rfl rfl rfl ?_
      refine .z zpF (.z zm ?_)
      refine .gFs 2 33 true rfl rfl rfl ?_
      refine .z zpF (.z zm ?_)
      refine .gFs 1 37 true rfl rfl rfl ?_
      refine .z zpF (.z zg (.nil ?_))
      refine .ret (Fin.bL gQ rfl ?_)
      first
      |exact ⟨rfl,H11,hleF,hs.out⟩
      |contradiction
      |(exfalso;simp_all;done)
    ·refine .gFs 2 16 true rfl rfl rfl ?_
     refine .z zpF (.z zm ?_)
     refine .gFs 2 20 true rfl rfl rfl ?_
     refine .z zpF (.z zm ?_)
     refine .gFs 2 24 true rfl rfl rfl ?_
     refine .z zpF (.z zm ?_)
     refine .gFs 3 28 true rfl rfl rfl ?_
     refine .z zpF (.z zm ?_)
     refine .gFs 2 33 true rfl rfl rfl ?_
     refine .z zpF (.z zm ?_)
     refine .gFs 1 37 true rfl rfl rfl ?_
     refine .z zpF (.z zg (.nil ?_))
     refine .ret (Fin.bL gQ rfl ?_)
     first
     |exact ⟨rfl,H11,hleF,hs.out⟩
     |contradiction
     |(exfalso;simp_all;done)
   ·refine .gFs 3 11 true rfl rfl rfl ?_
    refine .z zpF (.z zm ?_)
    refine .gFs 2 16 true rfl rfl rfl ?_
    refine .z zpF (.z zm ?_)
    refine .gFs 2 20 true rfl rfl rfl ?_
    refine .z zpF (.z zm ?_)
    refine .gFs 2 24 true rfl rfl rfl ?_
    refine .z zpF (.z zm ?_)
    refine .gFs 3 28 true rfl rfl rfl ?_
    refine .z zpF (.z zm ?_)
    refine .gFs 2 33 true rfl rfl rfl ?_
    refine .z zpF (.z zm ?_)
    refine .gFs 1 37 true rfl rfl rfl ?_
    refine .z zpF (.z zg (.nil ?_))
    refine .ret (Fin.bL gQ rfl ?_)
    first
    |exact ⟨rfl,H11,hleF,hs.out⟩
    |contradiction
    |(exfalso;simp_all;done)
  ·refine .gFs 2 7 true rfl rfl rfl ?_
   refine .z zpF (.z zm ?_)
   refine .gFs 3 11 true rfl rfl rfl ?_
   refine .z zpF (.z zm ?_)
   refine .gFs 2 16 true rfl rfl rfl ?_
   refine .z zpF (.z zm ?_)
   refine .gFs 2 20 true rfl rfl rfl ?_
   refine .z zpF (.z zm ?_)
   refine .gFs 2 24 true rfl rfl rfl ?_
   refine .z zpF (.z zm ?_)
   refine .gFs 3 28 true rfl rfl rfl ?_
   refine .z zpF (.z zm ?_)
   refine .gFs 2 33 true rfl rfl rfl ?_
   refine .z zpF (.z zm ?_)
   refine .gFs 1 37 true rfl rfl rfl ?_
   refine .z zpF (.z zg (.nil ?_))
   refine .ret (Fin.bL gQ rfl ?_)
   first
   |exact ⟨rfl,H11,hleF,hs.out⟩
   |contradiction
   |(exfalso;simp_all;done)
 ·refine .gFs 3 2 true rfl rfl rfl ?_
  refine .z zpF (.z zm ?_)
  refine .gFs 2 7 true rfl rfl rfl ?_
  refine .z zpF (.z zm ?_)
  refine .gFs 3 11 true rfl rfl rfl ?_
  refine .z zpF (.z zm ?_)
  refine .gFs 2 16 true rfl rfl rfl ?_
  refine .z zpF (.z zm ?_)
  refine .gFs 2 20 true rfl rfl rfl ?_
  refine .z zpF (.z zm ?_)
  refine .gFs 2 24 true rfl rfl rfl ?_
  refine .z zpF (.z zm ?_)
  refine .gFs 3 28 true rfl rfl rfl ?_
  refine .z zpF (.z zm ?_)
  refine .gFs 2 33 true rfl rfl rfl ?_
  refine .z zpF (.z zm ?_)
  refine .gFs 1 37 true rfl rfl rfl ?_
  refine .z zpF (.z zg (.nil ?_))
  refine .ret (Fin.bL gQ rfl ?_)
  first
  |exact ⟨rfl,H11,hleF,hs.out⟩
  |contradiction
  |(exfalso;simp_all;done)
structure WI(s:Spc)(L:List Int)(f:Nat→Nat→Int):Prop where
 len:L.length=s.many+1
 zero:gi L 0=0
 at_:∀i k,i<s.st.length→k<s.wa.length→gi L (s.u i k)=f i k
theorem WI.start(s:Spc):WI s (List.replicate (s.many+1) 0) fun _ _=>0:=
 ⟨bQ,dI _ _ aj,fun i k hi hk=>by have:=xj hi hk;exact dI _ _ aj⟩
theorem WI.set{s:Spc}{L:List Int}{f:Nat→Nat→Int}(h:WI s L f){i k:Nat}(hi:i<s.st.length)(hk:k<s.wa.length)(x:Int):WI s (L.set (s.u i k) x) fun i' k'=>if i'=i∧k'=k then x else f i' k':=by
 have hb:=xj hi hk
 refine ⟨by rw [List.length_set];exact h.len,by rw [pU aj];exact h.zero,fun i' k' hi' hk'=>?_⟩
 have hb':=xj hi' hk'
 rw [eo (by rw [h.len];omega)]
 by_cases e:i'=i∧k'=k
 ·obtain ⟨rfl,rfl⟩:=e
  rw [if_pos rfl,if_pos ⟨rfl,rfl⟩]
 ·rw [if_neg e,if_neg,h.at_ i' k' hi' hk']
  intro e2
  obtain ⟨d1,d2⟩:=Dj (nw:=s.wa.length) (i:=i) hk
  obtain ⟨d3,d4⟩:=Dj (nw:=s.wa.length) (i:=i') hk'
  have e3:i'*s.wa.length+k'=i*s.wa.length+k:=by unfold Spc.u at e2;omega
  rw [e3] at d3 d4
  exact e ⟨d3.symm.trans d1,d4.symm.trans d2⟩
theorem WI.congr{s:Spc}{L:List Int}{f g:Nat→Nat→Int}(h:WI s L f)(e:∀i k,i<s.st.length→k<s.wa.length→f i k=g i k):WI s L g:=
 ⟨h.len,h.zero,fun i k hi hk=>(h.at_ i k hi hk).trans (e i k hi hk)⟩
theorem WI.fin{s:Spc}{q:Wht}{L:List Int}(h:WI s L (jH s q)):L=kn s q:=By h.len h.zero h.at_
theorem qB{s:Spc}{q:Wht}{vst vwa:Value}(hs:St H w σ)(h1:RI H vst s.st)(h2:RI H vwa s.wa):
  Cl Tryz.prog 112 [.agg #[I s.id,I s.src,vst,vwa,I s.al,I s.up],.agg #[I q.kind,I q.st,I q.wa]] w fun v w'=>∃b:Bool,v= .bool b∧(b=true↔fR s q)∧St H w' σ:=by
 obtain ⟨ast,cst,rfl⟩:=RI.shape h1
 obtain ⟨awa,cwa,rfl⟩:=RI.shape h2
 have l1:=(RI.len h1).2.2
 have l2:=(RI.len h2).2.2
 have hi:=my (s:=s) (q:=q)
 simp only [Spc.isW,Spc.isS] at hi
 refine Cl.o Tryz.func112 Tryz.ntmps112 ag2 ?_
 refine .ai ?_
 refine .bx hs fun b2 w hs=>?_
 refine .bx hs fun b3 w hs=>?_
 refine .z zg (.nil (.ai (.z (zfa dj) (.y hs (zld ae) (.z (zfa aW) (.y hs (zld ak) (.z (cH aa) (.z ir ?_))))))))
 refine .o (.call fl rfl (dy hs) ?_);rintro _ w ⟨rfl,hs⟩
 refine .z zg (.nil (.ai (.z (zfa dW) (.y hs (zld ae) (.z (zfa bn) (.y hs (zld ak) (.z (cH aa) (.z ir ?_))))))))
 refine .o (.call fl rfl (dy hs) ?_);rintro _ w ⟨rfl,hs⟩
 refine .z zg (.nil (.seq (.ai (.z (zfa jZ) (.y hs (zld ae) (.nil (.block (.ai (.z fL ?_)))))))))
 refine .z zg (.nil ?_)
 refine (.bJ rfl (fun hc23=>?_) (fun hc23=>?_))
 ·refine .ai (.z (zfa dW) (.y hs (zld ae) (.z fL (.z zm ?_))))
  refine .iq (t':=28) rfl (fun hb28=>?_) (fun hb28=>?_)
  ·refine .gT rfl rfl ?_
   refine .z zm (.z zpT (.z zm ?_))
   refine .bif (t':=31) rfl (fun hb31=>?_) (fun hb31=>?_)
   ·refine .gT rfl rfl ?_
    refine .z (zfa dj) ?_
    refine .gT rfl rfl ?_
    refine .y hs (zld ae) ?_
    refine .gT rfl rfl ?_
    refine .z kT (.z zpT (.z zg (.nil ?_)))
    refine .ret (rB (rT (Fin.bL gv rfl ?_)))
    exact ⟨_,rfl,by rw [hi];simp_all<;>omega,hs.out⟩
   ·refine .gFs 3 6 true rfl rfl rfl ?_
    refine .z zpF (.z zg (.nil ?_))
    refine .ret (rB (rT (Fin.bL gv rfl ?_)))
    exact ⟨_,rfl,by rw [hi];simp_all<;>omega,hs.out⟩
  ·refine .gFs 1 3 true rfl rfl rfl ?_
   refine .z zpF (.z zm ?_)
   refine .gFs 3 6 true rfl rfl rfl ?_
   refine .z zpF (.z zg (.nil ?_))
   refine .ret (rB (rT (Fin.bL gv rfl ?_)))
   exact ⟨_,rfl,by rw [hi];simp_all<;>omega,hs.out⟩
 ·refine .ai (.z fL (.z zg (.nil ?_)))
  refine (.bJ rfl (fun hc36=>?_) (fun hc36=>?_))
  ·refine .ai (.z (zfa dW) (.y hs (zld ae) (.z fL (.z zm ?_))))
   refine .iq (t':=41) rfl (fun hb41=>?_) (fun hb41=>?_)
   ·refine .gT rfl rfl ?_
    refine .z zm (.z zpT (.z zg (.nil ?_)))
    refine .ret (rB (rT (Fin.bL gv rfl ?_)))
    exact ⟨_,rfl,by rw [hi];simp_all<;>omega,hs.out⟩
   ·refine .gFs 1 3 true rfl rfl rfl ?_
    refine .z zpF (.z zg (.nil ?_))
    refine .ret (rB (rT (Fin.bL gv rfl ?_)))
    exact ⟨_,rfl,by rw [hi];simp_all<;>omega,hs.out⟩
  ·refine .ai (.z fL (.z zg (.nil ?_)))
   refine (.bJ rfl (fun hc44=>?_) (fun hc44=>?_))
   ·refine .ai (.z zm (.z zm ?_))
    refine .bif (t':=47) rfl (fun hb47=>?_) (fun hb47=>?_)
    ·refine .gT rfl rfl ?_
     refine .z (zfa dj) ?_
     refine .gT rfl rfl ?_
     refine .y hs (zld ae) ?_
     refine .gT rfl rfl ?_
     refine .z fL (.z zpT (.z zg (.nil ?_)))
     refine .ret (rB (rT (Fin.bL gv rfl ?_)))
     exact ⟨_,rfl,by rw [hi];simp_all<;>omega,hs.out⟩
    ·refine .gFs 3 1 true rfl rfl rfl ?_
     refine .z zpF (.z zg (.nil ?_))
     refine .ret (rB (rT (Fin.bL gv rfl ?_)))
     exact ⟨_,rfl,by rw [hi];simp_all<;>omega,hs.out⟩
   ·refine .ai (.z fL (.z zg (.nil ?_)))
    refine (.bJ rfl (fun hc52=>?_) (fun hc52=>?_))
    ·refine .ai (.z zm (.z zm ?_))
     refine .bif (t':=55) rfl (fun hb55=>?_) (fun hb55=>?_)
     ·refine .gT rfl rfl ?_
      refine .z zm (.z zpT (.z zg (.nil ?_)))
      refine .ret (rB (rT (Fin.bL gv rfl ?_)))
      exact ⟨_,rfl,by rw [hi];simp_all<;>omega,hs.out⟩
     ·refine .gFs 1 1 true rfl rfl rfl ?_
      refine .z zpF (.z zg (.nil ?_))
      refine .ret (rB (rT (Fin.bL gv rfl ?_)))
      exact ⟨_,rfl,by rw [hi];simp_all<;>omega,hs.out⟩
    ·refine .skip ?_
     refine nB (nT ?_)
     refine .ai (.z zg (.nil ?_))
     refine .ret (Fin.bL gv rfl ?_)
     exact ⟨_,rfl,by rw [hi];simp_all<;>omega,hs.out⟩
set_option maxHeartbeats 2000000 in
theorem qA{s:Spc}{q:Wht}{vst vwa:Value}(hs:St H w σ)(h1:RI H vst s.st)(h2:RI H vwa s.wa)(hok:fG s)(hq:fR s q):
  Cl Tryz.prog 113 [.agg #[I s.id,I s.src,vst,vwa,I s.al,I s.up],.agg #[I q.kind,I q.st,I q.wa]] w fun v w'=>∃H1 vl en,HLe H H1∧v= .tuple #[vl,I (m7 q)]∧cn 1 vl (Is (kn s q)) en∧St H1 w' (en::σ):=by
 obtain ⟨ast,cst,rfl⟩:=RI.shape h1
 obtain ⟨awa,cwa,rfl⟩:=RI.shape h2
 have hsm:=ea hok
 have hcap:=(RI.len h2).2.1
 have hn1:=hok.st.many
 have hn2:=hok.wa.many
 have hlen:=e8 s q
 have hqq:=my.1 hq
 simp only [Spc.isW,Spc.isS] at hqq
 refine Cl.o Tryz.func113 Tryz.ntmps113 ag2 ?_
 refine .ai ?_
 refine .bx hs fun b2 w hs=>?_
 refine .bx hs fun b3 w hs=>?_
 refine .z zg (.z zg (.nil (.ai (.y hs (zls [_,_,_,_,_,_] aQ aH) ?_))))
 refine .o (.call CR rfl (eJ (s:=s) hs h1 h2 ⟨aj,aj⟩) ?_);rintro _ w ⟨rfl,hs⟩
 refine .z cA ?_
 refine .o (.pR (s.many+1) hs rfl rfl aa dY rfl af bO aj fun b20 w hs=>?_)
 have hW0:=WI.start s
 generalize List.replicate (s.many+1) (0:Int)=L0 at hs hW0
 refine .z zg (.nil (.seq (.ai (.z (zfa jZ) (.y hs (zld ae) (.nil (.block (.ai (.z fL ?_)))))))))
 refine .z zg (.nil ?_)
 refine (.bJ rfl (fun hc23=>?_) (fun hc23=>?_))
 ·refine .seq (.draw mix rfl hs fun w hs=>?_)
  refine .z 0 rfl (zfa bn) ?_;refine .y 1 rfl hs ak ?_;refine .z 2 rfl (zfa aW) ?_;refine .y 3 rfl hs ak ?_;refine .z 4 rfl (zfa dj) ?_;refine .y 5 rfl hs ae ?_;refine .z 6 rfl cA ?_
  obtain ⟨hk1,_,⟨hw2,hw3⟩,hw1⟩:q.kind=1∧q.st=0∧(0≤q.wa∧q.wa≤(s.wa.length:Int) - 1)∧0<q.wa:=by omega
  obtain ⟨m,hm⟩:∃m:Nat,q.wa=m:=⟨q.wa.toNat,aj⟩
  have hmt:q.wa.toNat=m:=by omega
  have hP:eH 7 15000 (s.wa.take (m+1)):=hok.wa.take aj aj
  have hdv:m7 q=648000000:=by unfold m7;rw [if_pos hk1]
  refine .z 7 rfl (kf (k:=m+1) rfl rfl aa af aj aj) ?_
  refine .E 8 hs ?_
  refine .call Tryz.call195 rfl (sV hs h1 (h2.head (k:=m+1) aj) hok.st hP) ?_;rintro _ w ⟨H1,vo,hle1,rfl,hG,hs⟩
  have hgl:=jy (wts s.st) (wts (s.wa.take (m+1))) s.st.length
  have hyl:(wts (s.wa.take (m+1))).length=m+1:=by rw [eu,List.length_take];omega
  have hgr:∀i<s.st.length,(gr (ln (wts s.st) (wts (s.wa.take (m+1))) s.st.length) i).length=m+1:=fun i hi=>by rw [vk hi,jj,hyl]
  have hgt:∀i<s.st.length,∀k≤m,gi (gr (ln (wts s.st) (wts (s.wa.take (m+1))) s.st.length) i) k=jH s q i k:=fun i hi k hk=>by
   have:=yJ (X:=wts s.st) (Y:=wts (s.wa.take (m+1))) (n:=s.st.length) (k:=k) hi aj
   unfold gt at this
   rw [this];unfold jH;rw [if_pos hk1,if_pos aj,hmt]
  have hgz:∀i k,m<k→jH s q i k=0:=fun i k hk=>by unfold jH;rw [if_pos hk1,if_neg aj]
  generalize ln (wts s.st) (wts (s.wa.take (m+1))) s.st.length=G at*
  obtain ⟨aG,cG,rfl⟩:=hG.shape
  refine .go ?_
  refine .z 9 rfl zm ?_;refine .z 10 rfl zex ?_;refine .z 11 rfl zex ?_;refine .z 12 rfl zg ?_;refine .z 13 rfl zg ?_;refine .D hs ?_
  refine .seq (.ai (.z zg (.nil (.block ?_))))
  refine .loop (fun i:Nat=>⟨127,[],[(9,I (i:Int)),(7,.slice aG G.length cG),(6,.slice (some ⟨b20,0,none⟩) (s.many+1) (s.many+1)),(3,.pointer (some ⟨b3,0,none⟩)),(2,.pointer (some ⟨b2,0,none⟩))]⟩)
   (fun i w=>i≤s.st.length∧∃L,WI s L (fun i' k'=>if i'<i then jH s q i' k' else 0)∧St H1 w (.blk b20 (Is L):: .blk b3 [I q.kind,I q.st,I q.wa]:: .blk b2 [I s.id,I s.src,.slice ast s.st.length cst,.slice awa s.wa.length cwa,I s.al,I s.up]::σ)) (fun i=>s.st.length - i) 0 (.bX rfl bQ aU)
   ⟨Nat.zero_le _,L0,hW0.congr fun i k _ _=>by rw [if_neg aj],hs⟩ ?_
  clear hs hW0
  rintro i w ⟨hi,L,hW,hs⟩
  refine .seq (.ai (.z zm (.z zm (.z (cH au) (.z fj (.nil ?_))))))
  refine (.bJ rfl (fun hc40=>?_) (fun hc40=>?_))
  ·refine .skip ?_
   refine nT ?_
   refine .seq (.block (.ai (.z zg (.nil (.block ?_)))))
   refine .loop (fun k:Nat=>⟨127,[],[(10,I (k:Int)),(9,I (i:Int)),(7,.slice aG G.length cG),(6,.slice (some ⟨b20,0,none⟩) (s.many+1) (s.many+1)),(3,.pointer (some ⟨b3,0,none⟩)),(2,.pointer (some ⟨b2,0,none⟩))]⟩)
    (fun k w=>k≤m+1∧∃L,WI s L (fun i' k'=>if i'<i∨(i'=i∧k'<k) then jH s q i' k' else 0)∧St H1 w (.blk b20 (Is L):: .blk b3 [I q.kind,I q.st,I q.wa]:: .blk b2 [I s.id,I s.src,.slice ast s.st.length cst,.slice awa s.wa.length cwa,I s.al,I s.up]::σ)) (fun k=>m+1 - k) 0 (.bX rfl bQ aU)
    ⟨Nat.zero_le _,L,hW.congr fun i' k' _ _=>by
     by_cases e:i'<i
     ·rw [if_pos e,if_pos (.inl e)]
     ·rw [if_neg e,if_neg aj],hs⟩ ?_
   clear hs hW
   rintro k w ⟨hk,L,hW,hs⟩
   have hWl:=hW.len
   have hil:i<s.st.length:=by omega
   have hgri:=hgr i hil
   refine .seq (.ai (.z zm (.z zm (.z zm ?_))))
   refine .ixT hs hG rfl rfl au aB (show i<_ by omega) cM ?_;intro b46 o46 a46 c46 hc46 hR46
   refine .q hs (aK rfl ak hc46) ?_
   refine .z (cH aa) ?_
   rw [hgri]
   refine .z fj (.nil ?_)
   refine (.bJ rfl (fun hc49=>?_) (fun hc49=>?_))
   ·refine .skip ?_
    refine nT ?_
    refine .seq (.block ?_)
    refine .draw mix rfl hs fun w hs=>?_
    have hk':k<m+1:=by omega
    have hub:=xj (s:=s) (i:=i) (k:=k) hil aj
    refine .z 0 rfl zm ?_;refine .ys 1 rfl hs [_,_,_,_,_,_] aQ aH ?_;refine .z 2 rfl zm ?_;refine .z 3 rfl zm ?_;refine .z 5 rfl zm ?_;refine .z 6 rfl zm ?_
    refine .ixT (i:=7) hs rfl aq .none hG rfl rfl au aB (show i<_ by omega) cM ?_;intro b59 o59 a59 c59 hc59 hR59
    refine .r (i:=8) hs rfl aq .none (aK rfl ak hc59) ?_
    refine .z 9 rfl zm ?_
    refine .ixX (enc:=fun x=>[I x]) (i:=10) hs rfl aq .none hR59 rfl rfl aa af (bu (l:=(gr G i)) (i:=k) aj) cM ?_;intro b62 o62 hc62;replace hc62:=bH.one hc62
    refine .r (i:=11) hs rfl aq .none (aK rfl ae hc62) ?_
    refine .E 4 hs ?_
    refine .call iH rfl (dn (s:=s) hs (h2.mono hle1) aj ⟨aj,aj⟩ ⟨aj,aj⟩) ?_;rintro _ w ⟨rfl,hs⟩
    rw [uM]
    refine .go ?_
    refine .z 12 rfl (dS (k:=s.u i k) rfl rfl aa af rfl aj) ?_
    refine .E 13 hs ?_
    refine .store hs rfl rfl af ?_ cJ (by simp [Is];omega);intro w hs
    refine .go ?_
    refine .D hs ?_
    refine nB (nT ?_)
    refine .region (.z zm (.z cA (.z zg (.nil ?_))))
    refine nT ?_
    exact ⟨k+1,.bX rfl bQ aU,⟨aj,_,(hW.set hil aj _).congr fun i' k' _ _=>by
     rw [hgt i hil k aj]
     by_cases e:i'=i∧k'=k
     ·obtain ⟨rfl,rfl⟩:=e
      rw [if_pos ⟨rfl,rfl⟩,if_pos (.inr ⟨rfl,aj⟩)]
     ·rw [if_neg e]
      by_cases e2:i'<i∨(i'=i∧k'<k)
      ·rw [if_pos e2,if_pos aj]
      ·rw [if_neg e2,if_neg aj],hs⟩,aj⟩
   ·refine .exit ?_
    refine xT (xT (xB (nB (nT ?_))))
    refine .region (.z zm (.z cA (.z zg (.nil ?_))))
    refine nT ?_
    exact ⟨i+1,.bX rfl bQ aU,⟨aj,L,hW.congr fun i' k' _ _=>by
     by_cases e:i'<i+1
     ·rw [if_pos e]
      by_cases e2:i'<i∨(i'=i∧k'<k)
      ·rw [if_pos e2]
      ·rw [if_neg e2,hgz i' k' aj]
     ·rw [if_neg e,if_neg aj],hs⟩,aj⟩
  ·refine .exit ?_
   refine xT (xT (xB (nT ?_)))
   refine .ai (.z zm (.z zg (.z zg (.nil ?_))))
   refine .ret (rB (rT (Fin.lz Tryz.results113 rfl rfl ?_)))
   obtain rfl:=(hW.congr (g:=jH s q) fun i' k' hi' _=>by rw [if_pos aj]).fin
   rw [←hdv]
   exact ⟨H1,_,_,hle1,rfl,.full (by simp [Is,hlen]),hs.sb⟩
 ·refine .ai (.z fL (.z zg (.nil ?_)))
  refine (.bJ rfl (fun hc66=>?_) (fun hc66=>?_))
  ·refine .ai (.z (zfa bn) (.y hs (zld ak) ?_))
   have hk1:q.kind=2:=by omega
   obtain ⟨m,hm⟩:∃m:Nat,q.wa=m:=⟨q.wa.toNat,aj⟩
   have hdv:m7 q=180000:=by unfold m7;rw [if_neg aj,if_pos aj]
   have hl:=eu s.st
   have hwt:∀i k,jH s q i k=if k=m then gi (wts s.st) i else 0:=fun i k=>by
    unfold jH;rw [if_neg aj,if_pos hk1]
    by_cases e:k=m
    ·rw [if_pos e,if_pos aj]
    ·rw [if_neg e,if_neg aj]
   refine .o (.call Tryz.call196 rfl (kC hs h1 hok.st) ?_);rintro _ w ⟨H1,vo,hle1,rfl,hX,hs⟩
   obtain ⟨aX,cX,rfl⟩:=RI.shape hX
   rw [hl]
   refine .z zm (.z zex (.z zex (.z zg (.z zg (.nil (.seq (.ai (.z zg (.nil ?_)))))))))
   refine .block ?_
   refine .loop (fun i:Nat=>⟨127,[],[(13,I (i:Int)),(11,.slice aX s.st.length cX),(6,.slice (some ⟨b20,0,none⟩) (s.many+1) (s.many+1)),(3,.pointer (some ⟨b3,0,none⟩)),(2,.pointer (some ⟨b2,0,none⟩))]⟩)
    (fun i w=>i≤s.st.length∧∃L,WI s L (fun i' k'=>if i'<i then jH s q i' k' else 0)∧St H1 w (.blk b20 (Is L):: .blk b3 [I q.kind,I q.st,I q.wa]:: .blk b2 [I s.id,I s.src,.slice ast s.st.length cst,.slice awa s.wa.length cwa,I s.al,I s.up]::σ)) (fun i=>s.st.length - i) 0 (.bX rfl bQ aU)
    ⟨Nat.zero_le _,L0,hW0.congr fun i k _ _=>by rw [if_neg aj],hs⟩ ?_
   clear hs hW0
   rintro i w ⟨hi,L,hW,hs⟩
   have hWl:=hW.len
   rw [hl] at hX
   refine .seq (.ai (.z zm (.z zm (.z (cH aa) (.z fj (.nil ?_))))))
   refine (.bJ rfl (fun hc77=>?_) (fun hc77=>?_))
   ·refine .skip ?_
    refine nT ?_
    refine .seq (.block ?_)
    refine .draw mix rfl hs fun w hs=>?_
    refine .z 0 rfl zm ?_;refine .ys 1 rfl hs [_,_,_,_,_,_] aQ aH ?_;refine .z 2 rfl zm ?_;refine .z 3 rfl (zfa dj) ?_;refine .y 4 rfl hs ae ?_;refine .z 6 rfl zm ?_;refine .z 7 rfl zm ?_
    refine .ixX (enc:=fun x=>[I x]) (i:=8) hs rfl aq .none (by rw [hl] at*;exact hX) rfl rfl aa af (bu (l:=wts s.st) (i:=i) aj) cM ?_;intro b88 o88 hc88;replace hc88:=bH.one hc88
    refine .y 9 rfl hs ae ?_
    refine .E 5 hs ?_
    have hil:i<s.st.length:=by omega
    have hub:=xj (s:=s) (i:=i) (k:=m) hil aj
    refine .call iH rfl (dn (s:=s) hs (h2.mono hle1) aj ⟨aj,aj⟩ ⟨aj,aj⟩) ?_;rintro _ w ⟨rfl,hs⟩
    rw [show 1+(i:Int)*(s.wa.length:Int)+q.wa=(s.u i m:Int) by rw [hm,uM]]
    refine .go ?_
    refine .z 10 rfl (dS (k:=s.u i m) rfl rfl aa af rfl aj) ?_
    refine .E 11 hs ?_
    refine .store hs rfl rfl af ?_ cJ (by simp [Is];omega);intro w hs
    refine .go ?_
    refine .D hs ?_
    refine nB (nT ?_)
    refine .region (.z zm (.z cA (.z zg (.nil ?_))))
    refine nT ?_
    exact ⟨i+1,.bX rfl bQ aU,⟨aj,_,(hW.set hil (show m<s.wa.length by omega) _).congr fun i' k' _ _=>by
     rw [hwt i' k']
     by_cases e:i'=i∧k'=m
     ·obtain ⟨rfl,rfl⟩:=e
      rw [if_pos ⟨rfl,rfl⟩,if_pos (Nat.lt_succ_self _),if_pos rfl]
     ·rw [if_neg e]
      by_cases e2:i'<i
      ·rw [if_pos e2,if_pos (show i'<i+1 by omega)]
      ·rw [if_neg e2]
       by_cases e3:i'<i+1
       ·rw [if_pos e3,if_neg (show ¬k'=m by omega)]
       ·rw [if_neg e3],hs⟩,aj⟩
   ·refine .exit ?_
    refine xT (xT (xB (nT ?_)))
    refine .ai (.z zm (.z zg (.z zg (.nil ?_))))
    refine .ret (rB (rT (Fin.lz Tryz.results113 rfl rfl ?_)))
    obtain rfl:=(hW.congr (g:=jH s q) fun i' k' hi' _=>by rw [if_pos aj]).fin
    rw [←hdv]
    exact ⟨H1,_,_,hle1,rfl,.full (by simp [Is,hlen]),hs.sb⟩
  ·refine .ai (.z fL (.z zg (.nil ?_)))
   refine (.bJ rfl (fun hc92=>?_) (fun hc92=>?_))
   ·refine .ai (.z (zfa aW) (.y hs (zld ak) ?_))
    have hk1:q.kind=3:=by omega
    obtain ⟨m,hm⟩:∃m:Nat,q.st=m:=⟨q.st.toNat,aj⟩
    have hdv:m7 q=180000:=by unfold m7;rw [if_neg aj,if_pos aj]
    have hl:=eu s.wa
    have hwt:∀i k,jH s q i k=if i=m then gi (wts s.wa) k else 0:=fun i k=>by
     unfold jH;rw [if_neg aj,if_neg aj,if_pos hk1]
     by_cases e:i=m
     ·rw [if_pos e,if_pos aj]
     ·rw [if_neg e,if_neg aj]
    refine .o (.call Tryz.call196 rfl (kC hs h2 (xw hok)) ?_);rintro _ w ⟨H1,vo,hle1,rfl,hX,hs⟩
    obtain ⟨aX,cX,rfl⟩:=RI.shape hX
    rw [hl]
    refine .z zm (.z zex (.z zex (.z zg (.z zg (.nil (.seq (.ai (.z zg (.nil ?_)))))))))
    refine .block ?_
    refine .loop (fun k:Nat=>⟨127,[],[(16,I (k:Int)),(14,.slice aX s.wa.length cX),(6,.slice (some ⟨b20,0,none⟩) (s.many+1) (s.many+1)),(3,.pointer (some ⟨b3,0,none⟩)),(2,.pointer (some ⟨b2,0,none⟩))]⟩)
     (fun k w=>k≤s.wa.length∧∃L,WI s L (fun i' k'=>if k'<k then jH s q i' k' else 0)∧St H1 w (.blk b20 (Is L):: .blk b3 [I q.kind,I q.st,I q.wa]:: .blk b2 [I s.id,I s.src,.slice ast s.st.length cst,.slice awa s.wa.length cwa,I s.al,I s.up]::σ)) (fun k=>s.wa.length - k) 0 (.bX rfl bQ aU)
     ⟨Nat.zero_le _,L0,hW0.congr fun i k _ _=>by rw [if_neg aj],hs⟩ ?_
    clear hs hW0
    rintro k w ⟨hi,L,hW,hs⟩
    have hWl:=hW.len
    rw [hl] at hX
    refine .seq (.ai (.z zm (.z zm (.z (cH aa) (.z fj (.nil ?_))))))
    refine (.bJ rfl (fun hc103=>?_) (fun hc103=>?_))
    ·refine .skip ?_
     refine nT ?_
     refine .seq (.block ?_)
     refine .draw mix rfl hs fun w hs=>?_
     refine .z 0 rfl zm ?_;refine .ys 1 rfl hs [_,_,_,_,_,_] aQ aH ?_;refine .z 2 rfl (zfa dW) ?_;refine .y 3 rfl hs ae ?_;refine .z 4 rfl zm ?_;refine .z 6 rfl zm ?_;refine .z 7 rfl zm ?_
     refine .ixX (enc:=fun x=>[I x]) (i:=8) hs rfl aq .none (by rw [hl] at*;exact hX) rfl rfl aa af (bu (l:=wts s.wa) (i:=k) aj) cM ?_;intro b114 o114 hc114;replace hc114:=bH.one hc114
     refine .y 9 rfl hs ae ?_
     refine .E 5 hs ?_
     have hil:k<s.wa.length:=by omega
     have hub:=xj (s:=s) (i:=m) (k:=k) aj hil
     refine .call iH rfl (dn (s:=s) hs (h2.mono hle1) aj ⟨aj,aj⟩ ⟨aj,aj⟩) ?_;rintro _ w ⟨rfl,hs⟩
     rw [show 1+q.st*(s.wa.length:Int)+(k:Int)=(s.u m k:Int) by rw [hm,uM]]
     refine .go ?_
     refine .z 10 rfl (dS (k:=s.u m k) rfl rfl aa af rfl aj) ?_
     refine .E 11 hs ?_
     refine .store hs rfl rfl af ?_ cJ (by simp [Is];omega);intro w hs
     refine .go ?_
     refine .D hs ?_
     refine nB (nT ?_)
     refine .region (.z zm (.z cA (.z zg (.nil ?_))))
     refine nT ?_
     exact ⟨k+1,.bX rfl bQ aU,⟨aj,_,(hW.set (show m<s.st.length by omega) hil _).congr fun i' k' _ _=>by
      rw [hwt i' k']
      by_cases e:i'=m∧k'=k
      ·obtain ⟨rfl,rfl⟩:=e
       rw [if_pos ⟨rfl,rfl⟩,if_pos (Nat.lt_succ_self _),if_pos rfl]
      ·rw [if_neg e]
       by_cases e2:k'<k
       ·rw [if_pos e2,if_pos (show k'<k+1 by omega)]
       ·rw [if_neg e2]
        by_cases e3:k'<k+1
        ·rw [if_pos e3,if_neg (show ¬i'=m by omega)]
        ·rw [if_neg e3],hs⟩,aj⟩
    ·refine .exit ?_
     refine xT (xT (xB (nT ?_)))
     refine .ai (.z zm (.z zg (.z zg (.nil ?_))))
     refine .ret (rB (rT (Fin.lz Tryz.results113 rfl rfl ?_)))
     obtain rfl:=(hW.congr (g:=jH s q) fun i' k' _ hk'=>by rw [if_pos aj]).fin
     rw [←hdv]
     exact ⟨H1,_,_,hle1,rfl,.full (by simp [Is,hlen]),hs.sb⟩
   ·refine .skip ?_
    refine nB (nT ?_)
    refine .ai (.z zm (.y hs (zls [_,_,_,_,_,_] aQ aH) (.z (zfa dW) (.y hs (zld ae) (.z (zfa dj) (.y hs (zld ae) ?_))))))
    have hk1:q.kind=4:=by omega
    obtain ⟨m,hm⟩:∃m:Nat,q.st=m:=⟨q.st.toNat,aj⟩
    obtain ⟨c,hc⟩:∃c:Nat,q.wa=c:=⟨q.wa.toNat,aj⟩
    have hdv:m7 q=1:=by unfold m7;rw [if_neg aj,if_neg aj]
    have hub:=xj (s:=s) (i:=m) (k:=c) aj aj
    have hWl:=hW0.len
    refine .o (.call iH rfl (dn (s:=s) hs h2 aj ⟨aj,aj⟩ ⟨aj,aj⟩) ?_);rintro _ w ⟨rfl,hs⟩
    rw [hm,hc,uM]
    refine .q hs (dS (k:=s.u m c) rfl rfl aa af rfl aj) ?_
    refine .o (.store hs rfl rfl af ?_ cJ (by simp [Is];omega));intro w hs
    refine .nil (.ai (.z zm (.z zg (.z zg (.nil ?_)))))
    refine .ret (Fin.lz Tryz.results113 rfl rfl ?_)
    have hfin:=((hW0.set (show m<s.st.length by omega) (show c<s.wa.length by omega) 1).congr (g:=jH s q) fun i' k' _ _=>by
     unfold jH
     rw [if_neg (show ¬q.kind=1 by omega),if_neg (show ¬q.kind=2 by omega),if_neg (show ¬q.kind=3 by omega)]
     by_cases e:i'=m∧k'=c
     ·rw [if_pos e,if_pos aj]
     ·rw [if_neg e,if_neg aj]).fin
    rw [hfin] at hs
    rw [←hdv]
    exact ⟨H,_,_,HLe.refl H,rfl,.full (by simp [Is,hlen]),hs.sb⟩
theorem mN{a d:Int}(hs:St H w σ)(hd:1≤d)(ha: -4608000000000000000≤a∧a≤4608000000000000000):
  Cl Tryz.prog 78 [I a,I d] w fun v w'=>v=I (a/d)∧St H w' σ:=by
 have hq: -4608000000000000000≤a.tdiv d∧a.tdiv d≤4608000000000000000:=by
  have h1:=sf (n:=a) (d:=d) aj
  have h2:a/d≤4608000000000000000:=Int.ediv_le_of_le_mul aj (by
   have:=Int.mul_le_mul_of_nonneg_left hd (show (0:Int)≤4608000000000000000 by omega);omega)
  have h3: -4608000000000000000≤a/d:=Int.le_ediv_of_mul_le aj (by
   have:=Int.mul_le_mul_of_nonneg_left hd (show (0:Int)≤4608000000000000000 by omega);omega)
  by_cases h0:0≤a
  ·rw [Int.tdiv_eq_ediv_of_nonneg h0];omega
  ·split at h1
   ·have:a/d<0:=Int.ediv_neg_of_neg_of_pos aj aj
    omega
   ·omega
 have hfl:=sf (n:=a) (d:=d) aj
 refine Cl.o Tryz.func78 Tryz.ntmps78 ag2 ?_
 refine .ai (.z zg (.nil (.ai (.z zm (.z zm ?_)))))
 refine .q hs (uq rfl rfl aj ⟨aj,aj⟩) ?_
 refine .z zg (.nil (.seq (.ai (.z zm (.z zm (.z Bv (.z fj (.nil ?_))))))))
 refine (.bJ rfl (fun hc12=>?_) (fun hc12=>?_))
 ·refine .region (.z zm (.z ir (.z zg (.nil ?_))))
  refine nT ?_
  refine .ai (.z zm (.z zg (.nil ?_)))
  refine .ret (Fin.bL Tryz.results78 rfl ?_)
  rw [if_pos hc12] at hfl
  exact ⟨by rw [hfl],hs⟩
 ·refine .skip ?_
  refine nT ?_
  refine .ai (.z zm (.z zg (.nil ?_)))
  refine .ret (Fin.bL Tryz.results78 rfl ?_)
  rw [if_neg hc12,Int.sub_zero] at hfl
  exact ⟨by rw [hfl],hs⟩
inductive xf(v:Srv)(q:Wht):Int→Prop
 |bad {e:Int} (h:uF v e) (he:e≠0):xf v q e
 |what (h:ez v) (h1:¬fR v.sp q):xf v q 33
 |ok (h:ez v) (h1:fR v.sp q):xf v q 0
theorem xf.zero{v:Srv}{q:Wht}(h:xf v q 0):ez v∧fR v.sp q:=by
 generalize hz:(0:Int)=z at h
 cases h with
 |bad h he=>exact (he hz.symm).elim
 |what=>omega
 |ok h h1=>exact ⟨h,h1⟩
theorem xf.qty{v:Srv}{q:Wht}{e:Int}(h:xf v q e)(he:e≠0):oV v q 0 0 e:=by
 cases h with
 |bad h he=>exact .bad h he
 |what h h1=>exact .what h h1
 |ok=>exact (he rfl).elim
theorem BJ{v:Srv}(h:ez v){q:Wht}(hq:fR v.sp q)(i:Nat): -3456000000000≤gi (v.w q) i∧gi (v.w q) i≤3456000000000:=by
 unfold Srv.w
 rw [jA]
 by_cases hi:i<v.sp.many+1
 ·have h1:=nh h.early.1 hq
  have h2:=ig (kn v.sp q) hi
  omega
 ·have:gi (kn v.sp q) i=0:=by simp [gi,List.getD,List.getElem?_eq_none (show (kn v.sp q).length≤i by rw [e8];omega)]
  rw [this];omega
def ES(w:List Int)(high:Bool):List Int:=if high then w else rL w
set_option maxHeartbeats 2000000 in
theorem rC{s:Srv}{q:Wht}{vst vwa vr vc:Value}{high:Bool}(hs:St H w σ)(h1:RI H vst s.sp.st)(h2:RI H vwa s.sp.wa)(h3:RRd H vr s.rs)(h4:RCm H vc s.cs):
  Cl Tryz.prog 87 [.agg #[I s.sp.id,I s.sp.src,vst,vwa,I s.sp.al,I s.sp.up,vr,vc],.agg #[I q.kind,I q.st,I q.wa],.bool high] w fun u w'=>∃H1 m ul vw d e,HLe H H1∧u= .tuple #[.agg #[I m,ul],vw,I d,I e]∧(∃a l c,ul= .slice a l c)∧(∃a l c,vw= .slice a l c)∧xf s q e∧(e=0→m=s.sys.many∧RL H1 ul s.db∧RI H1 vw (ES (s.w q) high)∧d=m7 q)∧St H1 w' σ:=by
 have hn:=rn s
 refine Cl.o Tryz.func87 Tryz.ntmps87 ag3 ?_
 refine .ai ?_
 refine .bx hs fun b3 w hs=>?_
 refine .bx hs fun b4 w hs=>?_
 refine .o (.alloc hs dD rfl fun b6 w hs=>?_)
 refine .z zg (.z zg (.z zg (.nil (.ai (.y hs (zls [_,_,_,_,_,_,_,_] aF az) ?_)))))
 refine .o (.call Tryz.call43 rfl (lT (s:=s) hs h1 h2 h3 h4) ?_);rintro _ w ⟨H1,e,hle1,rfl,hC,hs⟩
 refine .z zg (.nil (.seq (.ai (.z zm (.z iw (.nil ?_))))))
 refine (.fc rfl (fun hc18=>?_) (fun hc18=>?_))
 ·refine .ai (.z (zbd [_,_] ia) (.z zm ?_))
  refine .o (.aV (vs:=[_,_]) hs rfl rfl aI fun w hs=>?_)
  refine .z zg (.z zg (.z zg (.nil ?_)))
  refine .ret (rT (?_))
  exact Fin.gO [] [] hs fun w hs=>⟨_,results4 Tryz.results87 (dA (vs:=[_,_]) hs rfl bp aI) rfl rfl rfl,H1,_,_,_,_,e,hle1,rfl,⟨_,_,_,rfl⟩,⟨_,_,_,rfl⟩,.bad hC hc18,fun h=>(hc18 h).elim,hs.out⟩
 ·refine .skip ?_
  refine nT ?_
  refine .seq (.ai (.z (zfa aN) (.y hs (zls [_,_,_,_,_,_] aQ aH) (.y hs (zls [_,_,_] cP bE) ?_))))
  have hok:ez s:=hC.dG.1 (by simpa using hc18)
  have hm:=hok.many
  have hsm:s.sys.many+1=(s.sys.n:Int):=by rw [hn];show ((s.sp.many+s.bw.length:Nat):Int)+1=_;omega
  refine .o (.call Tryz.call112 rfl (qB (s:=s.sp) (q:=q) hs (h1.mono hle1) (h2.mono hle1)) ?_);rintro _ w ⟨b24,rfl,hb24,hs⟩
  refine .z iO (.nil ?_)
  refine (.cond rfl (fun hc25=>?_) (fun hc25=>?_))
  ·refine .ai (.z (zbd [_,_] ia) ?_)
   refine .o (.aV (vs:=[_,_]) hs rfl rfl aI fun w hs=>?_)
   refine .z zg (.z zg (.z zg (.nil ?_)))
   refine .ret (rT (?_))
   exact Fin.gO [] [] hs fun w hs=>⟨_,results4 Tryz.results87 (dA (vs:=[_,_]) hs rfl bp aI) rfl rfl rfl,H1,_,_,_,_,_,hle1,rfl,⟨_,_,_,rfl⟩,⟨_,_,_,rfl⟩,.what hok (fun h=>by rw [hb24.2 h] at hc25;cases hc25),fun h=>by omega,hs.out⟩
  ·refine .skip ?_
   refine nT ?_
   refine .ai (.y hs (zls [_,_,_,_,_,_,_,_] aF az) ?_)
   have hq:fR s.sp q:=hb24.1 (by simpa using hc25)
   have hwb:=BJ hok hq
   have hwl:=qZ s q
   refine .o (.call Tryz.call95 rfl (k8 (s:=s) hs (h1.mono hle1) (h2.mono hle1) (h3.mono hle1) (h4.mono hle1) hok.early) ?_);rintro _ w ⟨H2,hle2,⟨ul,rfl,hL⟩,hs⟩
   obtain ⟨al,cl,rfl⟩:=RL.shape hL
   have hle02:=hle1.trans hle2
   refine .o (.alloc hs dD rfl fun b11 w hs=>?_)
   refine .o (.aV (vs:=[_,_]) hs rfl rfl aI fun w hs=>?_)
   refine .nil (.ai (.z (zfa aN) (.y hs (zls [_,_,_,_,_,_] aQ aH) (.y hs (zls [_,_,_] cP bE) ?_))))
   refine .o (.call Tryz.call113 rfl (qA (s:=s.sp) (q:=q) hs (h1.mono hle02) (h2.mono hle02) hok.early.1 hq) ?_);rintro _ w ⟨H3,vl,en,hle3,rfl,hO,hs⟩
   have hle03:=hle02.trans hle3
   have hL0:=e8 s.sp q
   refine .z zm (.z zex (.z zex (.z zg (.z zg (.nil (.seq (.block ?_)))))))
   refine .loop (fun p:Nat×Value=>⟨64,[],[(12,p.2),(13,I (m7 q)),(11,.pointer (some ⟨b11,0,none⟩)),(6,.pointer (some ⟨b6,0,none⟩)),(2,.bool high)]⟩)
    (fun p w=>(kn s.sp q).length+p.1≤s.sys.n∧∃en,cn 1 p.2 (Is (kn s.sp q++List.replicate p.1 0)) en∧St H3 w (en:: .blk b11 [I s.sys.many,.slice al s.db.length cl]:: .blk b6 [I 0,.slice none 0 0]::σ)) (fun p=>s.sys.n - ((kn s.sp q).length+p.1)) (0,vl) aU
    ⟨by dsimp only;omega,en,by simpa using hO,hs.sb⟩ ?_
   clear hO hs
   rintro ⟨j,vo⟩ w ⟨hj,en,hO,hs⟩
   dsimp only at hj hO ⊢
   obtain ⟨bo,cap,sp,hv,rfl,hcap⟩:=hO.blk (by simp;omega)
   cases hv
   have hWxl:(kn s.sp q++List.replicate j 0).length=(kn s.sp q).length+j:=by simp
   generalize hWx:kn s.sp q++List.replicate j 0=Wx at*
   refine .seq (.ai (.z zm (.z (cH aa) (.z (zfa bP) (.y hs (zld ae) (.z cA (.z fj (.nil ?_))))))))
   refine (.bJ rfl (fun hc41=>?_) (fun hc41=>?_))
   ·refine .skip ?_
    refine nT ?_
    refine .block (.region (.z zm ?_))
    refine .o (.buildSlice (cells:=[_]) hs cf rfl rfl fun b43 w hs=>?_)
    refine .o (.append (ys:=Is [0]) hs aZ rfl rfl hO (.own .here rfl rfl) (dL _) (fun l' h=>by simp [Is] at h;omega) ?_);intro v44 en44 w hO2 hs
    rw [←hWx,show Is (kn s.sp q++List.replicate j 0)++Is [0]=Is (kn s.sp q++List.replicate (j+1) 0) by rw [←yW];simp [Is]] at hO2
    refine .z zg (.nil ?_)
    refine nB (nT ?_)
    exact ⟨(j+1,v44),aU,⟨by dsimp only;omega,_,hO2,hs.sb⟩,by dsimp only;omega⟩
   ·refine .exit ?_
    refine xT (xT (xB (nT ?_)))
    refine .cut (fun fs w=>∃W',W'=ES Wx high∧jU fs ⟨64,[],[(12,.slice (some ⟨bo,0,none⟩) Wx.length cap),(13,I (m7 q)),(11,.pointer (some ⟨b11,0,none⟩)),(6,.pointer (some ⟨b6,0,none⟩))]⟩∧St H3 w (.blk bo (Is W'++sp):: .blk b11 [I s.sys.many,.slice al s.db.length cl]:: .blk b6 [I 0,.slice none 0 0]::σ)) ?_ ?_
    ·refine .ai (.z zm (.z iO (.nil ?_)))
     refine (.cond rfl (fun hc46=>?_) (fun hc46=>?_))
     ·refine .ai (.z zg (.nil (.block ?_)))
      have hWeq:Wx=s.w q:=by rw [←hWx];unfold Srv.w;rw [show j=s.bw.length by omega]
      subst hWeq
      refine .loop (fun k:Nat=>⟨64,[],[(14,I (k:Int)),(12,.slice (some ⟨bo,0,none⟩) (s.w q).length cap),(13,I (m7 q)),(11,.pointer (some ⟨b11,0,none⟩)),(6,.pointer (some ⟨b6,0,none⟩))]⟩)
       (fun k w=>k≤s.sys.n∧∃L,L.length=s.sys.n∧(∀v<s.sys.n,gi L v=if v<k then -gi (s.w q) v else gi (s.w q) v)∧St H3 w (.blk bo (Is L++sp):: .blk b11 [I s.sys.many,.slice al s.db.length cl]:: .blk b6 [I 0,.slice none 0 0]::σ)) (fun k=>s.sys.n - k) 0 (.bX rfl bQ aU)
       ⟨Nat.zero_le _,s.w q,hwl,fun v _=>by rw [if_neg aj],hs⟩ ?_
      clear hs
      rintro k w ⟨hk,L,hLl,hLg,hs⟩
      refine .seq (.ai (.z zm (.z zm (.z (cH aa) (.z fj (.nil ?_))))))
      refine (.bJ rfl (fun hc50=>?_) (fun hc50=>?_))
      ·refine .skip ?_
       refine nT ?_
       refine .seq (.block (.region (.z zm (.z zm (.z zm (.z zm ?_))))))
       have hkn:k<s.sys.n:=by omega
       have hgk:=hLg k hkn
       rw [if_neg aj] at hgk
       have hbk:=hwb k
       refine .q hs (dS (k:=k) rfl rfl aa af rfl aj) ?_
       refine .q hs (dO rfl ae (hv:=fA aj sp)) ?_
       refine .z xn ?_
       refine .q hs (dS (k:=k) rfl rfl aa af rfl aj) ?_
       refine .o (.store (c':=Is (L.set k (-gi L k))++sp) hs rfl rfl af ?_ cJ (by simp [Is];omega) (ib aj sp _));intro w hs
       refine .nil ?_
       refine nB (nT ?_)
       refine .region (.z zm (.z cA (.z zg (.nil ?_))))
       refine nT ?_
       exact ⟨k+1,.bX rfl bQ aU,⟨aj,_,by rw [List.length_set];exact hLl,fun v hv=>by
        rw [eo aj]
        by_cases e:v=k
        ·subst e;rw [if_pos rfl,if_pos aj,hgk]
        ·rw [if_neg e,hLg v hv]
         by_cases e2:v<k
         ·rw [if_pos e2,if_pos aj]
         ·rw [if_neg e2,if_neg aj],hs⟩,aj⟩
      ·refine .exit ?_
       refine xT (xT (xB (nT ?_)))
       have hf:high=false:=by simpa using hc46
       refine ⟨L,?_,aU,hs⟩
       unfold ES;rw [hf]
       refine wX (by rw [hLl];simp [rL,hwl]) fun v hv=>?_
       rw [hLg v aj,if_pos aj]
       show _=gi ((s.w q).map fun x=> -x) v
       simp [gi,List.getD,List.getElem?_map]
       cases (s.w q)[v]? <;>simp
     ·refine .skip ?_
      refine nT ?_
      have hf:high=true:=by simpa using hc46
      exact ⟨Wx,by unfold ES;rw [hf];rfl,aU,hs⟩
    ·clear hO hs
     rintro fs w ⟨W',hW',hfs,hs⟩
     refine WE.sub ?_ hfs
     have hWeq:Wx=s.w q:=by rw [←hWx];unfold Srv.w;rw [show j=s.bw.length by omega]
     subst hWeq
     have hWl:W'.length=(s.w q).length:=by rw [hW'];unfold ES;split<;>simp [rL]
     refine .ai (.y hs (zls [_,_] bp aI) (.z zm (.z zm ?_)))
     refine .o (.aV (vs:=[_,_]) hs rfl rfl aI fun w hs=>?_)
     refine .z zg (.z zg (.z zg (.nil ?_)))
     refine .ret ?_
     obtain ⟨H4,hle4,hR,hs⟩:=cn.cN (xs:=W') (v:= .slice (some ⟨bo,0,none⟩) (s.w q).length cap) (.inr ⟨bo,_,cap,sp,rfl,rfl,by simp [Is,hWl],by simp [Is];omega,aj⟩) aj hs cJ
     exact Fin.gO [] [] hs fun w hs=>⟨_,results4 Tryz.results87 (dA (vs:=[_,_]) hs rfl bp aI) rfl rfl rfl,H4,_,_,_,_,_,hle03.trans hle4,rfl,⟨_,_,_,rfl⟩,⟨_,_,_,rfl⟩,.ok hok hq,fun _=>⟨rfl,hL.mono (hle3.trans hle4),by rw [←hW'];exact hR,rfl⟩,hs.out⟩
set_option maxHeartbeats 1000000 in
theorem ij{s:Srv}{q:Wht}{vst vwa vr vc:Value}(hs:St H w σ)(h1:RI H vst s.sp.st)(h2:RI H vwa s.sp.wa)(h3:RRd H vr s.rs)(h4:RCm H vc s.cs):
  Cl Tryz.prog 27 [.agg #[I s.sp.id,I s.sp.src,vst,vwa,I s.sp.al,I s.sp.up,vr,vc],.agg #[I q.kind,I q.st,I q.wa]] w fun u w'=>∃H1 lo hi e,HLe H H1∧u= .tuple #[.agg #[I lo,I hi],I e]∧oV s q lo hi e∧St H1 w' σ:=by
 refine Cl.o Tryz.func27 Tryz.ntmps27 ag2 ?_
 refine .ai ?_
 refine .bx hs fun b2 w hs=>?_
 refine .bx hs fun b3 w hs=>?_
 refine .o (.alloc hs cO rfl fun b4 w hs=>?_)
 refine .z zg (.nil (.ai (.y hs (zls [_,_,_,_,_,_,_,_] aF az) (.y hs (zls [_,_,_] cP bE) ?_))))
 refine .o (.call Tryz.call87 rfl (rC (s:=s) (q:=q) (high:=true) hs h1 h2 h3 h4) ?_);rintro _ w ⟨H1,m,ul,vw,d,e,hle1,rfl,⟨al,ll,cl,rfl⟩,⟨aw,lw,cw,rfl⟩,hA,hA0,hs⟩
 refine .z zm (.z zex (.z zex (.z zex (.z zex ?_))))
 refine .o (.alloc hs dD rfl fun b6 w hs=>?_)
 refine .o (.aV (vs:=[_,_]) hs rfl rfl aI fun w hs=>?_)
 refine .z zg (.z zg (.z zg (.nil (.seq (.ai (.z zm (.z iw (.nil ?_))))))))
 refine (.fc rfl (fun hc22=>?_) (fun hc22=>?_))
 ·refine .ai (.z (zbd [_,_] cD) (.z zm ?_))
  refine .o (.aV (vs:=[_,_]) hs rfl rfl aM fun w hs=>?_)
  refine .z zg (.nil ?_)
  refine .ret (rT (?_))
  exact Fin.gO [] [] hs fun w hs=>⟨_,results2 Tryz.results27 (dA (vs:=[_,_]) hs rfl cj aM) rfl,H1,_,_,_,hle1,rfl,hA.qty hc22,hs.out⟩
 ·refine .skip ?_
  refine nT ?_
  refine .ai (.y hs (zls [_,_] bp aI) (.z zm ?_))
  obtain rfl:e=0:=by simpa using hc22
  obtain ⟨rfl,hL,hR,rfl⟩:=hA0 rfl
  obtain ⟨hok,hq⟩:=hA.zero
  refine .o (.call Tryz.call88 rfl (rH (s:=s.sys) hs ⟨_,rfl,hL⟩ hR) ?_);rintro _ w ⟨H2,lo,hi,f,hle2,rfl,hRg,hs⟩
  have hRg:eY s.sys (s.w q) lo hi f:=hRg
  have hbd:=hRg.bd
  have hdp:=sj q
  refine .z zm (.z zex (.z zex (.z zex (.z zg (.z zg (.z zg (.nil (.seq (.ai ?_)))))))))
  refine .z zm (.z iw (.nil ?_))
  refine (.fc rfl (fun hc33=>?_) (fun hc33=>?_))
  ·refine .ai (.z (zbd [_,_] cD) ?_)
   refine .o (.aV (vs:=[_,_]) hs rfl rfl aM fun w hs=>?_)
   refine .z zg (.nil ?_)
   refine .ret (rT (?_))
   have hns:¬s.sys.Sound:=fun h=>hc33 (lJ (hok.ask hq) h (fun b=>s.both) hRg)
   exact Fin.gO [] [] hs fun w hs=>⟨_,results2 Tryz.results27 (dA (vs:=[_,_]) hs rfl cj aM) rfl,H2,_,_,_,hle1.trans hle2,rfl,.fls hok hq hns,hs.out⟩
  ·refine .skip ?_
   refine nT ?_
   refine .ai (.z zm (.z zm ?_))
   obtain rfl:f=0:=by simpa using hc33
   have hsd:s.sys.Sound:=Classical.byContradiction fun h=>by have:=tk (hok.ask hq) h hRg;omega
   refine .o (.call Tryz.call78 rfl (mN hs aj aj) ?_);rintro _ w ⟨rfl,hs⟩
   refine .z zm (.z zm ?_)
   refine .o (.call Tryz.call78 rfl (mN hs aj aj) ?_);rintro _ w ⟨rfl,hs⟩
   refine .z (zbd [_,_] cD) ?_
   refine .o (.aV (vs:=[_,_]) hs rfl rfl aM fun w hs=>?_)
   refine .z zg (.nil ?_)
   refine .ret ?_
   exact Fin.gO [] [] hs fun w hs=>⟨_,results2 Tryz.results27 (dA (vs:=[_,_]) hs rfl cj aM) rfl,H2,_,_,_,hle1.trans hle2,rfl,.ok hok hq hsd hRg,hs.out⟩
theorem bT{n m:Int}(hs:St H w σ)(hm:1≤m∧m≤4611686018427387904):
  Cl Tryz.prog 31 [I n,I m] w fun u w'=>∃k:Nat,(k:Int)<m∧u=I (k:Int)∧St H w' σ:=by
 have h1:=Int.tmod_lt_of_pos n (show 0<m by omega)
 have h2:=Int.lt_tmod_of_pos n (show 0<m by omega)
 have h3:=Int.tmod_lt_of_pos (n.tmod m+m) (show 0<m by omega)
 have h4:=Int.tmod_nonneg m (show 0≤n.tmod m+m by omega)
 refine Cl.o Tryz.func31 Tryz.ntmps31 ag2 ?_
 refine .ai (.z zg (.nil (.ai (.z zm (.z zm (.z Bv (.z zm (.z cA (.z zm ?_)))))))))
 refine .z Bv (.z zg (.nil ?_))
 refine .ret (Fin.bL Tryz.results31 rfl ?_)
 exact ⟨((n.tmod m+m).tmod m).toNat,aj,by rw [show (((n.tmod m+m).tmod m).toNat:Int)=(n.tmod m+m).tmod m by omega],hs⟩
theorem dm{v:Value}{l:List Int}{i n:Int}(hs:St H w σ)(hr:RI H v l)(hi:0≤i)(hn:1≤n∧n≤4611686018427387904):
  Cl Tryz.prog 100 [v,I i,I n] w fun u w'=>∃k:Nat,(k:Int)<n∧u=I (k:Int)∧St H w' σ:=by
 obtain ⟨a,c,rfl⟩:=RI.shape hr
 refine Cl.o Tryz.func100 Tryz.ntmps100 ag3 ?_
 refine .ai (.z zg (.nil (.seq (.ai (.z zm (.z (cH aa) (.z fL (.nil ?_))))))))
 refine (.bJ rfl (fun hc9=>?_) (fun hc9=>?_))
 ·refine .ai (.z zg (.nil ?_))
  refine .ret (rT (Fin.bL Tryz.results100 rfl ?_))
  exact ⟨0,aj,rfl,hs⟩
 ·refine .skip ?_
  refine nT ?_
  refine .ai (.z zm (.z zm (.z zm (.z (cH aa) (.z Bv ?_)))))
  have g1:=Int.tmod_lt_of_pos i (show 0<(l.length:Int) by omega)
  have g2:=Int.tmod_nonneg (l.length:Int) hi
  refine .ixY hs hr rfl rfl aa af (bu (l:=l) (i:=(i.tmod l.length).toNat) aj) aj ?_;intro b15 o15 hc15
  refine .q hs (aK rfl ae hc15) ?_
  refine .z zm ?_
  refine .o (.call dv rfl (bT hs hn) ?_);rintro _ w ⟨k,hk,rfl,hs⟩
  refine .z zg (.nil ?_)
  refine .ret (Fin.bL Tryz.results100 rfl ?_)
  exact ⟨k,hk,rfl,hs⟩
theorem sS{v vp:Value}{s:de}{ju:List Int}(hs:St H w σ)(hr:RSy H v s)(hp:RI H vp ju)(hgood:s.Ok∧s.Sound):
  Cl Tryz.prog 212 [v,vp] w fun u w'=>∃H1 vx x en,HLe H H1∧u= .tuple #[vx,I 0]∧cn 1 vx (Is x) en∧uG s ju x∧St H1 w' (en::σ):=by
 obtain ⟨ul,rfl,hl⟩:=hr
 obtain ⟨al,cl,rfl⟩:=RL.shape hl
 obtain ⟨ap,cp,rfl⟩:=RI.shape hp
 refine Cl.o Tryz.func212 Tryz.ntmps212 ag2 ?_
 refine .ai ?_
 refine .bx hs fun b2 w hs=>?_
 refine .z zg (.z zg (.nil (.ai (.y hs (zls [_,_] bp aI) ?_))))
 refine .o (.call Tryz.call210 rfl (lV (s:=s) hs ⟨_,rfl,hl⟩) ?_);rintro _ w ⟨H1,vt,e,hle1,rfl,hcase,hs⟩
 refine .z zm (.z zex (.z zex (.z zg (.z zg (.nil (.seq (.ai (.z zm (.z iw ?_)))))))))
 refine .nil ?_
 refine (.fc rfl (fun hc20=>?_) (fun hc20=>?_))
 ·refine .ai (.z zm (.z zg (.z zg (.nil ?_))))
  refine .ret (rT (Fin.lz Tryz.results212 rfl rfl ?_))
  rcases hcase with ⟨h1,rfl,rfl⟩|⟨h1,h2,rfl,rfl⟩|⟨_,_,rfl,_⟩
  ·exact (h1 (s.dG.2 hgood.1)).elim
  ·exact (h2 hgood.2).elim
  ·exact (hc20 rfl).elim
 ·refine .skip ?_
  refine nT ?_
  refine .ai ?_
  subst hc20
  obtain ⟨hok,hsd,rs,hRT,hSq,hWT⟩:s.Ok∧s.Sound∧∃rs,RT H1 vt rs∧Sq s.n rs∧iG s.n s.dw (gt rs):=by
   rcases hcase with ⟨h1,h2,_⟩|⟨_,_,h2,_⟩|⟨h1,h2,_,h3⟩
   ·exact (h1 h2.symm).elim
   ·omega
   ·exact ⟨h1,h2,h3⟩
  obtain ⟨at',ct,rfl⟩:=hRT.shape
  have hTS:=hok.E7 hsd hWT
  have hrl:=hSq.1
  have hm0:=hok.m0
  have hm1:=hok.m1
  have hnn:(s.n:Int)=s.many+1:=by simp only [de.n];omega
  refine .o (.buildSlice (cells:=[_]) hs cf rfl rfl fun b22 w hs=>?_)
  refine .z zg (.nil (.seq (.ai (.z zg (.nil (.block ?_))))))
  refine .loop (fun p:List Int×Value=>⟨109,[],[(9,I (p.1.length:Int)),(8,p.2),(6,.slice at' rs.length ct),(2,.pointer (some ⟨b2,0,none⟩)),(1,.slice ap ju.length cp)]⟩)
   (fun p w=>D8 (gt rs) (pF ju) p.1∧p.1.length≤s.n∧∃en,cn 1 p.2 (Is p.1) en∧St H1 w (en:: .blk b2 [I s.many,.slice al s.db.length cl]::σ))
   (fun p=>s.n - p.1.length) ([0],.slice (some ⟨b22,0,none⟩) 1 1) aU
   ⟨.start,s.zq,_,.full (len:=1) rfl,hs⟩ ?_
  rintro ⟨X,v8⟩ w ⟨hP,hXn,en,hO,hs⟩
  dsimp only at hP hXn hO ⊢
  have hI:=hP.inv (fun i n hn=>uY ju i hn) hTS hXn
  have hX0:=hI.l0
  have hO1:=hO
  obtain ⟨b,cap,sp,rfl,rfl,hcap⟩:=hO.some hX0
  refine .seq (.ai (.z zm (.z (zfa bP) (.y hs (zld ae) (.z wi (.nil ?_))))))
  refine (.bJ rfl (fun hc26=>?_) (fun hc26=>?_))
  ·refine .skip ?_
   refine nT ?_
   refine .seq (.block (.ai (.z zg (.nil ?_))))
   have hXl:X.length<s.n:=by omega
   refine .ai (.z zg (.nil (.seq (.ai (.z zm (.z (cH aa) (.z zm (.nil ?_))))))))
   refine .for (N:=X.length) (J:=fun k fr w=>∃lo hi,fr=[(10,I lo),(11,I hi),(9,I (X.length:Int)),(8,.slice (some ⟨b,0,none⟩) X.length cap),(6,.slice at' rs.length ct),(2,.pointer (some ⟨b2,0,none⟩)),(1,.slice ap ju.length cp)]∧LoI (gt rs) X X.length k lo∧HiI (gt rs) X X.length k hi∧St H1 w (.blk b (Is X++sp):: .blk b2 [I s.many,.slice al s.db.length cl]::σ)) aj ?_ ?_ ?_
   ·exact .mk ⟨_,_,rfl,.start _ _ _,.start _ _ _,hs⟩
   ·rintro k fr w hk ⟨lo,hi,rfl,hLo,hHi,hs⟩
    have hXk:=hI.bd k hk
    have hr1:(gr rs X.length).length=s.n:=hSq.2 _ hXl
    have hr2:(gr rs k).length=s.n:=hSq.2 _ aj
    have hb1:gi (gr rs X.length) k≠1000000000→-1400000≤gi (gr rs X.length) k∧gi (gr rs X.length) k≤1400000:=fun h=>hTS.bd X.length k hXl aj h
    have hb2:gi (gr rs k) X.length≠1000000000→-1400000≤gi (gr rs k) X.length∧gi (gr rs k) X.length≤1400000:=fun h=>hTS.bd k X.length aj hXl h
    refine .block (.ai (.z zm (.z zg (.nil ?_))))
    refine .cut (fun fs w=>∃lo',jU fs ⟨109,[],[(10,I lo'),(12,I (k:Int)),(31,I (k:Int)),(30,I (X.length:Int)),(11,I hi),(9,I (X.length:Int)),(8,.slice (some ⟨b,0,none⟩) X.length cap),(6,.slice at' rs.length ct),(2,.pointer (some ⟨b2,0,none⟩)),(1,.slice ap ju.length cp)]⟩∧LoI (gt rs) X X.length (k+1) lo'∧St H1 w (.blk b (Is X++sp):: .blk b2 [I s.many,.slice al s.db.length cl]::σ)) ?_ ?_
    ·refine .ai (.z zm (.z zm ?_))
     refine .ixT hs hRT rfl rfl au aB (show X.length<rs.length by omega) rfl ?_;intro b36 o36 a36 c36 hc36 hR36
     refine .q hs (aK rfl ak hc36) ?_
     refine .z zm ?_
     refine .ixY hs hR36 rfl rfl aa af (bu (l:=gr rs X.length) (i:=k) aj) rfl ?_;intro b39 o39 hc39
     refine .q hs (aK rfl ae hc39) ?_
     refine .z iw (.nil ?_)
     refine (.fc rfl (fun hc41=>?_) (fun hc41=>?_))
     ·refine .draw mix rfl hs fun w hs=>?_
      refine .z 0 rfl zm ?_;refine .z 1 rfl zm ?_;refine .z 2 rfl zm ?_;refine .z 3 rfl (zix aa af) ?_
      refine .load (i:=4) hs rfl aq .none rfl ae ?_ (hv:=fA hk sp)
      refine .z 5 rfl zm ?_;refine .z 6 rfl zm ?_
      refine .ixT (i:=7) hs rfl aq .none hRT rfl rfl au aB (show X.length<rs.length by omega) rfl ?_;intro b49 o49 a49 c49 hc49 hR49
      refine .r (i:=8) hs rfl aq .none (aK rfl ak hc49) ?_
      refine .z 9 rfl zm ?_
      refine .ixX (enc:=fun x=>[I x]) (i:=10) hs rfl aq .none hR49 rfl rfl aa af (bu (l:=gr rs X.length) (i:=k) aj) rfl ?_;intro b52 o52 hc52;replace hc52:=bH.one hc52
      refine .r (i:=11) hs rfl aq .none (aK rfl ae hc52) ?_
      refine .z 12 rfl ir ?_;refine .z 13 rfl Dd ?_;refine .z 14 rfl zg ?_;refine .D hs ?_
      refine nT ?_
      exact ⟨_,aU,hLo.put hc41 (by have:=hb1 hc41;have:=hXk;have:=hTS.n65;show -1000000000≤gi X k - gi (gr rs X.length) k;omega),hs⟩
     ·refine .skip ?_
      refine nT ?_
      exact ⟨_,aU,hLo.skip hc41,hs⟩
    ·rintro fs w ⟨lo',hfs,hLo',hs⟩
     refine WE.sub ?_ hfs
     refine .ai (.z zm (.z zm ?_))
     refine .ixT hs hRT rfl rfl au aB (show k<rs.length by omega) rfl ?_;intro b58 o58 a58 c58 hc58 hR58
     refine .q hs (aK rfl ak hc58) ?_
     refine .z zm ?_
     refine .ixY hs hR58 rfl rfl aa af (bu (l:=gr rs k) (i:=X.length) aj) rfl ?_;intro b61 o61 hc61
     refine .q hs (aK rfl ae hc61) ?_
     refine .z iw (.nil ?_)
     refine (.fc rfl (fun hc63=>?_) (fun hc63=>?_))
     ·refine .draw mix rfl hs fun w hs=>?_
      refine .z 0 rfl zm ?_;refine .z 1 rfl zm ?_;refine .z 2 rfl zm ?_;refine .z 3 rfl (zix aa af) ?_
      refine .load (i:=4) hs rfl aq .none rfl ae ?_ (hv:=fA hk sp)
      refine .z 5 rfl zm ?_;refine .z 6 rfl zm ?_
      refine .ixT (i:=7) hs rfl aq .none hRT rfl rfl au aB (show k<rs.length by omega) rfl ?_;intro b71 o71 a71 c71 hc71 hR71
      refine .r (i:=8) hs rfl aq .none (aK rfl ak hc71) ?_
      refine .z 9 rfl zm ?_
      refine .ixX (enc:=fun x=>[I x]) (i:=10) hs rfl aq .none hR71 rfl rfl aa af (bu (l:=gr rs k) (i:=X.length) aj) rfl ?_;intro b74 o74 hc74;replace hc74:=bH.one hc74
      refine .r (i:=11) hs rfl aq .none (aK rfl ae hc74) ?_
      refine .z 12 rfl cA ?_;refine .z 13 rfl zL ?_;refine .z 14 rfl zg ?_;refine .D hs ?_
      refine nB (nT ?_)
      exact .mk ⟨lo',_,rfl,hLo',hHi.put hc63 (by have:=hb2 hc63;have:=hXk;have:=hTS.n65;show gi X k+gi (gr rs k) X.length≤1000000000;omega),hs⟩
     ·refine .skip ?_
      refine nB (nT ?_)
      exact .mk ⟨lo',_,rfl,hLo',hHi.skip hc63,hs⟩
   ·rintro fr w ⟨lo,hi,rfl,hLo,hHi,hs⟩
    have hlb:=hLo.bd hI hTS hXl (Nat.le_refl _)
    have hhb:=hHi.bd hI hTS hXl (Nat.le_refl _)
    have hle:=hI.le hTS hXl rfl hLo hHi
    simp only [free] at hlb hhb hle
    have hpk:=uY ju ((X.length:Int) - 1) (n:=hi - lo+1)
    refine nT ?_
    refine .ai (.z zg (.nil ?_))
    refine .cut (fun fs w=>jU fs ⟨109,[],[(13,I (jL lo hi (pF ju ((X.length:Int) - 1) (hi - lo+1)))),(9,I (X.length:Int)),(8,.slice (some ⟨b,0,none⟩) X.length cap),(6,.slice at' rs.length ct),(2,.pointer (some ⟨b2,0,none⟩)),(1,.slice ap ju.length cp)]⟩∧St H1 w (.blk b (Is X++sp):: .blk b2 [I s.many,.slice al s.db.length cl]::σ)) ?_ ?_
    ·refine .block (.ai (.z zm (.z iw (.z zm ?_))))
     refine .xW (t':=82) rfl (fun hb82=>?_) (fun hb82=>?_)
     ·refine .gT rfl rfl ?_
      refine .z zm ?_
      refine .gT rfl rfl ?_
      refine .z iw (.z zpT (.z zg (.nil ?_)))
      refine (.fc rfl (fun hc79=>?_) (fun hc79=>?_))
      ·refine .region (.z zm (.z zm (.z zm (.z ir (.z zm (.z zm (.z ir (.z cA ?_))))))))
       refine .o (.call Tryz.call264 rfl (sU hs (hp.mono hle1) aj aj) ?_);rintro _ w ⟨rfl,hs⟩
       have hq1:hi≠1000000000:=by simpa using hc79
       have hq2:=hle (by simpa using hb82) hq1
       have hq3:=hpk aj
       refine .z cA (.z zg (.nil ?_))
       refine nB (nT ?_)
       refine ⟨.bX rfl ?_ aU,hs⟩
       unfold jL
       simp only [free] at*
       split<;>(try split)<;>first|rfl|omega|(simp_all;done)|(exfalso;simp_all;omega)
      ·refine .ai (.z zm (.z iw (.z zg (.nil ?_))))
       refine (.fc rfl (fun hc96=>?_) (fun hc96=>?_))
       ·refine .region (.z zm (.z zg (.nil ?_)))
        refine nB (nT ?_)
        refine ⟨.bX rfl ?_ aU,hs⟩
        unfold jL
        simp only [free] at*
        split<;>(try split)<;>first|rfl|omega|(simp_all;done)|(exfalso;simp_all;omega)
       ·refine .ai (.z zm (.z iw (.z zg (.nil ?_))))
        refine (.fc rfl (fun hc100=>?_) (fun hc100=>?_))
        ·refine .region (.z zm (.z zg (.nil ?_)))
         refine nB (nT ?_)
         refine ⟨.bX rfl ?_ aU,hs⟩
         unfold jL
         simp only [free] at*
         split<;>(try split)<;>first|rfl|omega|(simp_all;done)|(exfalso;simp_all;omega)
        ·refine .skip ?_
         refine nB (nT ?_)
         refine ⟨.bX rfl ?_ aU,hs⟩
         unfold jL
         simp only [free] at*
         split<;>(try split)<;>first|rfl|omega|(simp_all;done)|(exfalso;simp_all;omega)
     ·refine .gFs 2 2 true rfl rfl rfl ?_
      refine .z zpF (.z zg (.nil ?_))
      refine (.cF ?_)
      refine .ai (.z zm (.z iw (.z zg (.nil ?_))))
      refine (.fc rfl (fun hc96=>?_) (fun hc96=>?_))
      ·refine .region (.z zm (.z zg (.nil ?_)))
       refine nB (nT ?_)
       refine ⟨.bX rfl ?_ aU,hs⟩
       unfold jL
       simp only [free] at*
       split<;>(try split)<;>first|rfl|omega|(simp_all;done)|(exfalso;simp_all;omega)
      ·refine .ai (.z zm (.z iw (.z zg (.nil ?_))))
       refine (.fc rfl (fun hc100=>?_) (fun hc100=>?_))
       ·refine .region (.z zm (.z zg (.nil ?_)))
        refine nB (nT ?_)
        refine ⟨.bX rfl ?_ aU,hs⟩
        unfold jL
        simp only [free] at*
        split<;>(try split)<;>first|rfl|omega|(simp_all;done)|(exfalso;simp_all;omega)
       ·refine .skip ?_
        refine nB (nT ?_)
        refine ⟨.bX rfl ?_ aU,hs⟩
        unfold jL
        simp only [free] at*
        split<;>(try split)<;>first|rfl|omega|(simp_all;done)|(exfalso;simp_all;omega)
    ·rintro fs w ⟨hfs,hs⟩
     refine WE.sub ?_ hfs
     refine .region (.z zm (.z zm ?_))
     refine .o (.buildSlice (cells:=[_]) hs cf rfl rfl fun b106 w hs=>?_)
     refine .o (.append (ys:=Is [jL lo hi (pF ju ((X.length:Int) - 1) (hi - lo+1))]) hs aZ rfl rfl hO1 (.own .here rfl rfl) (dL _) (fun l' h=>by simp at h;have:=hTS.n65;omega) ?_);intro v107 en107 w hO2 hs
     rw [←List.map_append] at hO2
     refine .z zg (.nil ?_)
     refine nB (nT ?_)
     refine .region (.z zm (.z cA (.z zg (.nil ?_))))
     refine nT ?_
     exact ⟨(X++[jL lo hi (pF ju ((X.length:Int) - 1) (hi - lo+1))],v107),.bX rfl bQ aU,⟨hP.snoc hLo hHi,by simp;omega,_,hO2,hs.sb⟩,by simp;omega⟩
  ·refine .exit ?_
   refine xT (xT (xB (nT ?_)))
   refine .ai (.z zm (.z zg (.z zg (.nil ?_))))
   refine .ret (Fin.lz Tryz.results212 rfl rfl ?_)
   exact ⟨H1,_,X,_,hle1,rfl,hO1,⟨gt rs,hWT,hP,aj⟩,hs.sb⟩
theorem mM{s:Srv}{vst vwa vr vc:Value}(hs:St H w σ)(h1:RI H vst s.sp.st)(h2:RI H vwa s.sp.wa)(h3:RRd H vr s.rs)(h4:RCm H vc s.cs)(he:s.early):
  Cl Tryz.prog 211 [.agg #[I s.sp.id,I s.sp.src,vst,vwa,I s.sp.al,I s.sp.up,vr,vc]] w fun u w'=>∃H1,HLe H H1∧RSy H1 u s.nJ∧St H1 w' σ:=by
 obtain ⟨ar,cr,rfl⟩:=RRd.shape h3
 have hfl:=yM s
 have hrl:=he.2.1
 refine Cl.o Tryz.func211 Tryz.ntmps211 ag1 ?_
 refine .ai ?_
 refine .bx hs fun b1 w hs=>?_
 refine .o (.alloc hs dD rfl fun b2 w hs=>?_)
 refine .nil (.ai (.y hs (zls [_,_,_,_,_,_,_,_] aF az) ?_))
 refine .o (.call Tryz.call95 rfl (k8 (s:=s) hs h1 h2 h3 h4 he) ?_);rintro _ w ⟨H1,hle1,⟨ul,rfl,hL⟩,hs⟩
 have hL:RL H1 ul s.db:=hL
 obtain ⟨al,cl,rfl⟩:=RL.shape hL
 have hln:=RS.len hL
 rw [List.length_map] at hln
 refine .o (.alloc hs dD rfl fun b3 w hs=>?_)
 refine .o (.aV (vs:=[_,_]) hs rfl rfl aI fun w hs=>?_)
 refine .nil (.ai (.z (zfa bV) (.y hs (zld du) (.z (zfa bV) (.y hs (zld du) (.z (cH a8) (.z (zfa aD) (.y hs (zld aO) (.z (cH an) ?_)))))))))
 refine .z jV (.z ir ?_)
 refine .q hs (kf (k:=s.mU.length) rfl rfl a8 bK aj aj) ?_
 have hT:=RS.head hL (k:=s.mU.length) aj
 rw [←List.map_take,wR] at hT
 refine .z (zfa bV) ?_
 refine .o (.store hs rfl rfl lP fun w hs=>?_)
 refine .nil (.ai (.y hs (zls [_,_] bp aI) ?_))
 refine .o (.aV (vs:=[_,_]) hs rfl rfl aI fun w hs=>?_)
 refine .nil ?_
 refine .ret ?_
 exact Fin.gO [] [] hs fun w hs=>⟨_,results1 Tryz.results211 (dA (vs:=[_,_]) hs rfl bp aI),H1,hle1,⟨_,rfl,hT⟩,hs.out⟩
theorem sO{s:Srv}{vst vwa vr vc:Value}(hs:St H w σ)(h1:RI H vst s.sp.st)(h2:RI H vwa s.sp.wa)(h3:RRd H vr s.rs)(h4:RCm H vc s.cs)(he:s.early)(hok:s.nJ.Ok):
  Cl Tryz.prog 142 [.agg #[I s.sp.id,I s.sp.src,vst,vwa,I s.sp.al,I s.sp.up,vr,vc]] w fun u w'=>∃H1,∃b:Bool,HLe H H1∧u= .bool b∧(b=false→s.nJ.Sound)∧St H1 w' σ:=by
 refine Cl.o Tryz.func142 Tryz.ntmps142 ag1 ?_
 refine .ai ?_
 refine .bx hs fun b1 w hs=>?_
 refine .z zg (.nil (.ai (.y hs (zls [_,_,_,_,_,_,_,_] aF az) ?_)))
 refine .o (.call Tryz.call211 rfl (mM (s:=s) hs h1 h2 h3 h4 he) ?_);rintro _ w ⟨H1,hle1,hS,hs⟩
 refine .o (.call Tryz.call210 rfl (lV (s:=s.nJ) hs hS) ?_);rintro _ w ⟨H2,vt,e,hle2,rfl,hcase,hs⟩
 refine .z zm (.z zex (.z zex (.z zg (.z zg (.nil (.ai (.z zm (.z iw (.z zg ?_)))))))))
 refine .nil ?_
 refine .ret (Fin.bL Tryz.results142 rfl ?_)
 exact ⟨H2,_,hle1.trans hle2,rfl,fun h=>by
  rcases hcase with ⟨k1,_,_⟩|⟨_,_,k3,_⟩|⟨_,k2,_,_⟩
  ·exact (k1 (s.nJ.dG.2 hok)).elim
  ·subst k3;simp at h
  ·exact k2,hs.out⟩
theorem sN{s:Srv}{vst vwa vr vc vp:Value}{ju:List Int}(hs:St H w σ)(h1:RI H vst s.sp.st)(h2:RI H vwa s.sp.wa)(h3:RRd H vr s.rs)(h4:RCm H vc s.cs)(hp:RI H vp ju)(he:s.early)(hok:s.nJ.Ok∧s.nJ.Sound):
  Cl Tryz.prog 143 [.agg #[I s.sp.id,I s.sp.src,vst,vwa,I s.sp.al,I s.sp.up,vr,vc],vp] w fun u w'=>∃H1 x en,HLe H H1∧cn 1 u (Is x) en∧uG s.nJ ju x∧St H1 w' (en::σ):=by
 obtain ⟨ap,cp,rfl⟩:=RI.shape hp
 refine Cl.o Tryz.func143 Tryz.ntmps143 ag2 ?_
 refine .ai ?_
 refine .bx hs fun b2 w hs=>?_
 refine .z zg (.nil (.ai (.y hs (zls [_,_,_,_,_,_,_,_] aF az) ?_)))
 refine .o (.call Tryz.call211 rfl (mM (s:=s) hs h1 h2 h3 h4 he) ?_);rintro _ w ⟨H1,hle1,hS,hs⟩
 refine .z zm ?_
 refine .o (.call Tryz.call212 rfl (sS (s:=s.nJ) hs hS (hp.mono hle1) hok) ?_);rintro _ w ⟨H2,vx,x,en,hle2,rfl,hO,hP,hs⟩
 refine .z zm (.z zex (.z zex (.z zg (.z zg (.nil (.ai (.z zm (.z zg (.nil ?_)))))))))
 refine .ret (Fin.bL Tryz.results143 rfl ?_)
 exact ⟨H2,x,en,hle1.trans hle2,hO,hP,hs.sb⟩
set_option maxHeartbeats 1000000 in
theorem ow{s:Spc}{vst vwa:Value}{a b c:Int}(hs:St H w σ)(h1:RI H vst s.st)(h2:RI H vwa s.wa)(hk:fG s):
  Cl Tryz.prog 25 [.agg #[I s.id,I s.src,vst,vwa,I s.al,I s.up],.agg #[I a,I b,I c]] w fun u w'=>∃q:Wht,u= .agg #[I q.kind,I q.st,I q.wa]∧fR s q∧St H w' σ:=by
 obtain ⟨ast,cst,rfl⟩:=RI.shape h1
 obtain ⟨awa,cwa,rfl⟩:=RI.shape h2
 have hl1:=hk.st.two
 have hl2:=hk.wa.two
 have hl3:=hk.st.many
 have hl4:=hk.wa.many
 refine Cl.o Tryz.func25 Tryz.ntmps25 ag2 ?_
 refine .ai ?_
 refine .bx hs fun b2 w hs=>?_
 refine .bx hs fun b3 w hs=>?_
 refine .o (.alloc hs Tryz.zeroValue29 rfl fun b4 w hs=>?_)
 refine .nil (.ai ?_)
 refine .z (zia 0 aT af) ?_
 refine .y hs (zld ae) ?_
 refine .o (.call dv rfl (bT hs aj) ?_);rintro _ w ⟨k,hk4,rfl,hs⟩
 refine .z cA (.z (zbd [_,_,_] kL) ?_)
 refine .o (.alloc hs Tryz.zeroValue29 rfl fun b5 w hs=>?_)
 refine .o (.aV (vs:=[_,_,_]) hs rfl rfl bE fun w hs=>?_)
 refine .nil (.ai ?_)
 refine .z (zia 1 aT af) ?_
 refine .y hs (zld ae) (.z (zfa bn) (.y hs (zld ak) (.z (cH aa) ?_)))
 refine .o (.call dv rfl (bT hs aj) ?_);rintro _ w ⟨i,hi,rfl,hs⟩
 refine .z zg (.nil (.ai ?_))
 refine .z (zia 2 aT af) ?_
 refine .y hs (zld ae) (.z (zfa aW) (.y hs (zld ak) (.z (cH aa) ?_)))
 refine .o (.call dv rfl (bT hs aj) ?_);rintro _ w ⟨j,hj,rfl,hs⟩
 refine .z zg (.nil (.seq (.ai (.z (zfa jZ) (.y hs (zld ae) (.nil (.block (.ai (.z fL ?_)))))))))
 refine .z zg (.nil ?_)
 refine (.bJ rfl (fun hc27=>?_) (fun hc27=>?_))
 ·refine .region (.z zm (.z Dd (.z (zfa dj) ?_)))
  refine .o (.store hs rfl rfl af fun w hs=>?_)
  refine .nil ?_
  refine nB (nT ?_)
  refine .ai (.y hs (zls [_,_,_] cP bE) ?_)
  refine .o (.aV (vs:=[_,_,_]) hs rfl rfl bE fun w hs=>?_)
  refine .nil ?_
  refine .ret ?_
  exact Fin.gO [] [] hs fun w hs=>⟨_,results1 Tryz.results25 (dA (vs:=[_,_,_]) hs rfl cP bE),⟨1+(k:Int),0,max 1 (j:Int)⟩,rfl,.litres (by show (1:Int)+k=1;omega) rfl ⟨by dsimp only;omega,by dsimp only;omega⟩ (by dsimp only;omega),hs.out⟩
 ·refine .ai (.z fL (.z zg (.nil ?_)))
  refine (.bJ rfl (fun hc32=>?_) (fun hc32=>?_))
  ·refine .region (.z zm (.z (zfa dj) ?_))
   refine .o (.store hs rfl rfl af fun w hs=>?_)
   refine .nil ?_
   refine nB (nT ?_)
   refine .ai (.y hs (zls [_,_,_] cP bE) ?_)
   refine .o (.aV (vs:=[_,_,_]) hs rfl rfl bE fun w hs=>?_)
   refine .nil ?_
   refine .ret ?_
   exact Fin.gO [] [] hs fun w hs=>⟨_,results1 Tryz.results25 (dA (vs:=[_,_,_]) hs rfl cP bE),⟨1+(k:Int),0,(j:Int)⟩,rfl,.plane (by show (1:Int)+k=2;omega) rfl ⟨by dsimp only;omega,by dsimp only;omega⟩,hs.out⟩
  ·refine .ai (.z fL (.z zg (.nil ?_)))
   refine (.bJ rfl (fun hc36=>?_) (fun hc36=>?_))
   ·refine .region (.z zm (.z (zfa dW) ?_))
    refine .o (.store hs rfl rfl af fun w hs=>?_)
    refine .nil ?_
    refine nB (nT ?_)
    refine .ai (.y hs (zls [_,_,_] cP bE) ?_)
    refine .o (.aV (vs:=[_,_,_]) hs rfl rfl bE fun w hs=>?_)
    refine .nil ?_
    refine .ret ?_
    exact Fin.gO [] [] hs fun w hs=>⟨_,results1 Tryz.results25 (dA (vs:=[_,_,_]) hs rfl cP bE),⟨1+(k:Int),(i:Int),0⟩,rfl,.section_ (by show (1:Int)+k=3;omega) rfl ⟨by dsimp only;omega,by dsimp only;omega⟩,hs.out⟩
   ·refine .ai (.z fL (.z zg (.nil ?_)))
    refine (.bJ rfl (fun hc40=>?_) (fun hc40=>?_))
    ·refine .ai (.z zm (.z (zfa dW) ?_))
     refine .o (.store hs rfl rfl af fun w hs=>?_)
     refine .nil (.region (.z zm (.z (zfa dj) ?_)))
     refine .o (.store hs rfl rfl af fun w hs=>?_)
     refine .nil ?_
     refine nB (nT ?_)
     refine .ai (.y hs (zls [_,_,_] cP bE) ?_)
     refine .o (.aV (vs:=[_,_,_]) hs rfl rfl bE fun w hs=>?_)
     refine .nil ?_
     refine .ret ?_
     exact Fin.gO [] [] hs fun w hs=>⟨_,results1 Tryz.results25 (dA (vs:=[_,_,_]) hs rfl cP bE),⟨1+(k:Int),(i:Int),(j:Int)⟩,rfl,.offset (by show (1:Int)+k=4;omega) ⟨by dsimp only;omega,by dsimp only;omega⟩ ⟨by dsimp only;omega,by dsimp only;omega⟩,hs.out⟩
    ·refine .skip ?_
     refine nB (nT ?_)
     refine .ai (.y hs (zls [_,_,_] cP bE) ?_)
     refine .o (.aV (vs:=[_,_,_]) hs rfl rfl bE fun w hs=>?_)
     refine .nil ?_
     refine .ret ?_
     omega
structure Grow(d D:Int)(L:List Int)(x:Int):Prop where
 low:d≤x
 high:x≤d+D*L.length
 all:∀i<L.length,d≤gi L i∧gi L i<x
 rise:∀i,i+1<L.length→gi L i<gi L (i+1)
theorem Grow.start(d D:Int):Grow d D [] d:=⟨aj,bQ,fun i h=>by simp at h,fun i h=>by simp at h⟩
theorem Grow.snoc{d D x y:Int}{L:List Int}(h:Grow d D L x)(h1:x<y)(h2:y≤x+D):Grow d D (L++[x]) y:=by
 obtain ⟨g1,g2,g3,g4⟩:=h
 refine ⟨aj,?_,fun i hi=>?_,fun i hi=>?_⟩
 ·rw [List.length_append,List.length_singleton,Int.natCast_add,Int.mul_add];omega
 ·rw [List.length_append,List.length_singleton] at hi
  rw [vu]
  split
  ·have:=g3 i cE;omega
  ·rw [if_pos aj];omega
 ·rw [List.length_append,List.length_singleton] at hi
  rw [vu,vu,if_pos aj]
  split
  ·exact g4 i cE
  ·rw [if_pos aj];exact (g3 i aj).2
theorem Grow.plc{d D x most:Int}{many:Nat}{L:List Int}(h:Grow d D L x)(hd:0≤d)(h2:2≤L.length)(hm:L.length≤many)(hx:d+D*L.length≤most):eH many most L:=
 ⟨h2,hm,by have:=(h.all 0 aj).1;omega,by have:=(h.all (L.length - 1) aj).2;have:=h.high;omega,h.rise⟩
structure E3(s:Spc):Prop where
 ok:fG s
 st:s.st.length≤4
 wa:s.wa.length≤3
set_option maxHeartbeats 1000000 in
theorem ox{v:Value}{l:List Int}(hs:St H w σ)(hr:RI H v l):
  Cl Tryz.prog 35 [v] w fun u w'=>∃s vst vwa e1 e2,u= .agg #[I s.id,I s.src,vst,vwa,I s.al,I s.up]∧E3 s∧cn 1 vst (Is s.st) e1∧cn 1 vwa (Is s.wa) e2∧St H w' (e1::e2::σ):=by
 obtain ⟨av,cv,rfl⟩:=RI.shape hr
 refine Cl.o Tryz.func35 Tryz.ntmps35 ag1 ?_
 refine .ai ?_
 refine .o (.alloc hs gN rfl fun b2 w hs=>?_)
 refine .nil (.ai (.z zm ?_))
 refine .o (.call fU rfl (dm hs hr aj aj) ?_);rintro _ w ⟨k11,g11,rfl,hs⟩
 refine .z cA (.z zm ?_)
 refine .o (.call fU rfl (dm hs hr aj aj) ?_);rintro _ w ⟨k14,g14,rfl,hs⟩
 refine .z cA (.z (zbd [_,_,_,_,_,_] qc) ?_)
 refine .o (.alloc hs gN rfl fun b3 w hs=>?_)
 refine .o (.aV (vs:=[_,_,_,_,_,_]) hs rfl rfl aH fun w hs=>?_)
 refine .nil (.ai (.z zm ?_))
 refine .o (.call fU rfl (dm hs hr aj aj) ?_);rintro _ w ⟨k18,g18,rfl,hs⟩
 refine .z cA (.z jV (.z zg (.nil (.ai (.z zg (.nil (.seq (.ai (.z zg ?_)))))))))
 refine .nil (.block ?_)
 refine .loop (fun p:List Int×Int×Value=>⟨90,[],[(6,I (p.1.length:Int)),(5,I p.2.1),(4,I (100*(1+(k18:Int)))),(0,.slice av l.length cv),(3,.pointer (some ⟨b3,0,none⟩)),(2,.pointer (some ⟨b2,0,none⟩))]⟩)
  (fun p w=>p.1.length≤4∧Grow 0 2707 p.1 p.2.1∧∃en,cn 1 p.2.2 (Is p.1) en∧St H w (en:: .blk b3 [I (1+(k11:Int)),I (1+(k14:Int)),p.2.2,.slice none 0 0,I 0,I 0]:: .blk b2 [I 0,I 0,.slice none 0 0,.slice none 0 0,I 0,I 0]::σ)) (fun p=>4 - p.1.length) ([],0,.slice none 0 0) aU
  ⟨bQ,.start _ _,_,.nil 1 none,hs.nul⟩ ?_
 clear hs
 rintro ⟨L,x,vo⟩ w ⟨hL4,hG,en,hO,hs⟩
 dsimp only at hL4 hG hO hs ⊢
 obtain ⟨ao,lo,co,rfl,-⟩:=hO.shape
 have hx0:=hG.low
 have hx1:=hG.high
 refine .seq (.ai (.z zm (.z zm ?_)))
 refine .o (.call fU rfl (dm hs hr aj aj) ?_);rintro _ w ⟨k23,g23,rfl,hs⟩
 refine .z cA (.z fj (.nil ?_))
 refine (.bJ rfl (fun hc25=>?_) (fun hc25=>?_))
 ·refine .skip ?_
  refine nT ?_
  refine .seq (.block (.ai (.z (zfa bn) (.y hs (zld ak) (.z zm ?_)))))
  refine .o (.buildSlice (cells:=[_]) hs cf rfl rfl fun b31 w hs=>?_)
  refine .o (.append (ys:=Is [x]) hs aZ rfl rfl hO (.own .here rfl rfl) (dL _) (fun l' h=>by simp at h;omega) ?_);intro v32 en32 w hO2 hs
  rw [←List.map_append] at hO2
  obtain ⟨a32,l32,c32,rfl,-⟩:=hO2.shape
  refine .z (zfa bn) ?_
  refine .o (.store hs rfl rfl aB fun w hs=>?_)
  refine .nil (.region (.z zm (.z zm (.z zm (.z zm (.z cA ?_))))))
  refine .o (.call fU rfl (dm hs hr aj aj) ?_);rintro _ w ⟨k39,g39,rfl,hs⟩
  have m41:=kG (a:=100*(1+(k18:Int))) (b:=1+(k39:Int)) (A:=900) (B:=3) aj aj
  have m41':100≤100*(1+(k18:Int))*(1+(k39:Int)):=by
   have:=Int.mul_le_mul (a:=100) (c:=100*(1+(k18:Int))) (b:=1) (d:=1+(k39:Int)) aj aj aj aj
   omega
  refine .z cA (.z jV (.z cA (.z zm ?_)))
  refine .o (.call fU rfl (dm hs hr aj aj) ?_);rintro _ w ⟨k44,g44,rfl,hs⟩
  refine .z zm (.z zm (.z cA ?_))
  refine .o (.call fU rfl (dm hs hr aj aj) ?_);rintro _ w ⟨k48,g48,rfl,hs⟩
  have m49:0≤(k44:Int)*(k48:Int)∧(k44:Int)*(k48:Int)≤1:=by
   have e1:k44=0∨k44=1:=by omega
   rcases e1 with rfl|rfl<;>simp<;>omega
  refine .z jV (.z jV (.z cA (.z zg (.nil ?_))))
  refine nB (nT ?_)
  refine .region (.z zm (.z cA (.z zg (.nil ?_))))
  refine nT ?_
  exact ⟨(L++[x],_,.slice a32 l32 c32),.bX rfl bQ aU,⟨by simp;omega,hG.snoc (by dsimp only;omega) (by dsimp only;omega),_,hO2,hs.sb⟩,by simp;omega⟩
 ·refine .exit ?_
  refine xT (xT (xB (nT ?_)))
  refine .ai (.z zm ?_)
  have hL2:2≤L.length:=by omega
  refine .o (.call fU rfl (dm hs hr aj aj) ?_);rintro _ w ⟨k53,g53,rfl,hs⟩
  refine .z cA (.z jV (.z zg (.nil (.ai (.z zm ?_)))))
  refine .o (.call fU rfl (dm hs hr aj aj) ?_);rintro _ w ⟨k57,g57,rfl,hs⟩
  refine .z jV (.z zg (.nil (.seq (.ai (.z zg (.nil (.block ?_)))))))
  refine .loop (fun p:List Int×Int×Value=>⟨90,[],[(9,I (p.1.length:Int)),(8,I p.2.1),(7,I (50*(1+(k53:Int)))),(0,.slice av l.length cv),(3,.pointer (some ⟨b3,0,none⟩)),(2,.pointer (some ⟨b2,0,none⟩))]⟩)
   (fun p w=>p.1.length≤3∧Grow (10*(k57:Int)) 1350 p.1 p.2.1∧∃en2,cn 1 p.2.2 (Is p.1) en2∧St H w (en2:: .blk b3 [I (1+(k11:Int)),I (1+(k14:Int)),.slice ao lo co,p.2.2,I 0,I 0]:: .blk b2 [I 0,I 0,.slice none 0 0,.slice none 0 0,I 0,I 0]::en::σ)) (fun p=>3 - p.1.length) ([],10*(k57:Int),.slice none 0 0) aU
   ⟨bQ,.start _ _,_,.nil 1 none,(hs.sb).nul⟩ ?_
  clear hs
  rintro ⟨L2,y,vo2⟩ w ⟨hM4,hG2,en2,hO2,hs⟩
  dsimp only at hM4 hG2 hO2 hs ⊢
  obtain ⟨ap,lp,cp,rfl,-⟩:=hO2.shape
  have hy0:=hG2.low
  have hy1:=hG2.high
  refine .seq (.ai (.z zm (.z zm ?_)))
  refine .o (.call fU rfl (dm hs hr aj aj) ?_);rintro _ w ⟨k61,g61,rfl,hs⟩
  refine .z cA (.z fj (.nil ?_))
  refine (.bJ rfl (fun hc63=>?_) (fun hc63=>?_))
  ·refine .skip ?_
   refine nT ?_
   refine .seq (.block (.ai (.z (zfa aW) (.y hs (zld ak) (.z zm ?_)))))
   refine .o (.buildSlice (cells:=[_]) hs cf rfl rfl fun b69 w hs=>?_)
   refine .o (.append (ys:=Is [y]) hs aZ rfl rfl hO2 (.own .here rfl rfl) (dL _) (fun l' h=>by simp at h;omega) ?_);intro v70 en70 w hO3 hs
   rw [←List.map_append] at hO3
   obtain ⟨a70,l70,c70,rfl,-⟩:=hO3.shape
   refine .z (zfa aW) ?_
   refine .o (.store hs rfl rfl aB fun w hs=>?_)
   refine .nil (.region (.z zm (.z zm (.z zm (.z zm (.z cA ?_))))))
   refine .o (.call fU rfl (dm hs hr aj aj) ?_);rintro _ w ⟨k77,g77,rfl,hs⟩
   have m79:=kG (a:=50*(1+(k53:Int))) (b:=1+(k77:Int)) (A:=450) (B:=3) aj aj
   have m79':50≤50*(1+(k53:Int))*(1+(k77:Int)):=by
    have:=Int.mul_le_mul (a:=50) (c:=50*(1+(k53:Int))) (b:=1) (d:=1+(k77:Int)) aj aj aj aj
    omega
   refine .z cA (.z jV (.z cA (.z zg (.nil ?_))))
   refine nB (nT ?_)
   refine .region (.z zm (.z cA (.z zg (.nil ?_))))
   refine nT ?_
   exact ⟨(L2++[y],_,.slice a70 l70 c70),.bX rfl bQ aU,⟨by simp;omega,hG2.snoc (by dsimp only;omega) (by dsimp only;omega),_,hO3,hs.sb⟩,by simp;omega⟩
  ·refine .exit ?_
   refine xT (xT (xB (nT ?_)))
   refine .ai (.z zm ?_)
   refine .o (.call fU rfl (dm hs hr aj aj) ?_);rintro _ w ⟨k83,g83,rfl,hs⟩
   refine .z jV (.z zm ?_)
   refine .o (.call fU rfl (dm hs hr aj aj) ?_);rintro _ w ⟨k86,g86,rfl,hs⟩
   refine .z jV (.z (zbd [_,_] re) (.z (zfa dF) ?_))
   refine .o (.aV (vs:=[_,_]) hs rfl rfl Ef fun w hs=>?_)
   refine .nil (.ai (.y hs (zls [_,_,_,_,_,_] aQ aH) ?_))
   refine .o (.aV (vs:=[_,_,_,_,_,_]) hs rfl rfl aH fun w hs=>?_)
   refine .nil ?_
   refine .ret ?_
   exact Fin.gO [] [] hs fun w hs=>⟨_,results1 Tryz.results35 (dA (vs:=[_,_,_,_,_,_]) hs rfl aQ aH),⟨1+(k11:Int),1+(k14:Int),L,L2,100*(k83:Int),100*(k86:Int)⟩,.slice ao lo co,.slice ap lp cp,en,en2,rfl,
    ⟨⟨hG.plc aj hL2 aj aj,hG2.plc aj aj aj aj,by dsimp only;omega,by dsimp only;omega,by dsimp only;omega,by dsimp only;omega⟩,hL4,hM4⟩,hO,hO2,hs.sb⟩
instance (s:Spc) (r:Rdg):Decidable (jo s r):=
 decidable_of_iff ((1≤r.src∧r.src≤99999)∧(0≤r.st∧r.st≤(s.st.length:Int) - 1)∧(0≤r.wa∧r.wa≤(s.wa.length:Int) - 1)∧(0≤r.tol∧r.tol≤1000)∧(0≤r.val∧r.val≤20000 - r.tol)∧(1≤r.tape∧r.tape≤99)∧(0≤r.day∧r.day≤100000))
  ⟨fun ⟨a,b,c,d,e,f,g⟩=>⟨a,b,c,d,e,f,g⟩,fun ⟨a,b,c,d,e,f,g⟩=>⟨a,b,c,d,e,f,g⟩⟩
def gV(s:Spc)(rs:List Rdg):List Rdg:=rs.filter fun r=>decide (jo s r)
theorem zv(s:Spc){rs:List Rdg}{k:Nat}{r:Rdg}(h:rs[k]? =some r):gV s (rs.take (k+1))=if jo s r then gV s (rs.take k)++[r] else gV s (rs.take k):=by
 unfold gV
 rw [cB h,List.filter_append]
 by_cases e:jo s r
 ·simp [e]
 ·simp [e]
theorem s9(s:Spc)(rs:List Rdg):(gV s rs).length≤rs.length:=List.length_filter_le _ _
theorem wP{s:Spc}{rs:List Rdg}{r:Rdg}(h:r∈gV s rs):r∈rs∧jo s r:=by
 unfold gV at h;simpa using List.mem_filter.1 h
theorem Cp{s:Spc}{rs:List Rdg}{t:TD}(h:t∈bj (gV s rs)):t∈bj rs:=by
 obtain ⟨r,h1,h2⟩:=fZ.1 h
 exact fZ.2 ⟨r,(wP h1).1,h2⟩
def mq(v:Srv)(x:List Int)(t:TD):Int:=gi x (v.sp.many+1+(iN v.bw t).toNat)
def EO(v:Srv)(x:List Int):List Int:=x.take (v.sp.many+1)++(bj (gV v.sp v.rs)).map (mq v x)
set_option maxHeartbeats 1000000 in
theorem sM{vr:Value}{rs:List Rdg}(hs:St H w σ)(hr:RRd H vr rs)(hl:rs.length≤1000000):
  Cl Tryz.prog 94 [vr] w fun u w'=>∃en,cn 2 u (tdc (bj rs)).flatten en∧St H w' (en::σ):=by
 obtain ⟨ar,cr,rfl⟩:=RRd.shape hr
 refine Cl.o Tryz.func94 Tryz.ntmps94 ag1 ?_
 refine .ai (.z zg (.nil (.ai (.z zg (.nil (.seq (.ai (.z zg (.nil ?_)))))))))
 refine .block ?_
 refine .loop (fun p:Nat×Value=>⟨32,[],[(4,I (p.1:Int)),(3,p.2),(0,.slice ar rs.length cr)]⟩)
  (fun p w=>p.1≤rs.length∧∃en,cn 2 p.2 (tdc (bj (rs.take p.1))).flatten en∧St H w (en::σ)) (fun p=>rs.length - p.1) (0,.slice none 0 0) aU
  ⟨Nat.zero_le _,_,.nil 2 none,hs.nul⟩ ?_
 rintro ⟨k,vo⟩ w ⟨hk,en,hO,hs⟩
 dsimp only at hk hO ⊢
 have htl:=kb rs k aj
 obtain ⟨ao,co,rfl⟩:=hO.ek (kN _) aj
 rw [dE] at hO ⊢
 refine .seq (.ai (.z zm (.z zm (.z (cH an) (.z fj (.nil ?_))))))
 refine (.bJ rfl (fun hc9=>?_) (fun hc9=>?_))
 ·refine .skip ?_
  refine nT ?_
  refine .seq (.block ?_)
  refine .seq (.draw mix rfl hs fun w hs=>?_)
  refine .z 0 rfl zm ?_;refine .z 1 rfl zm ?_
  obtain ⟨r,hx⟩:=nth (l:=rs) (k:=k) aj
  have htk:=iJ hx
  refine .ixX (enc:=Rdg.c) (i:=2) hs rfl aq .none hr rfl rfl an aA hx cM ?_;intro b14 o14 hc14
  have d14:cellAt H b14 (o14+5)=some (I r.tape):=hc14 5 _ rfl
  refine .z 3 rfl (zfa eh) ?_;refine .y 4 rfl hs ae ?_;refine .z 5 rfl zm ?_;refine .z 6 rfl zm ?_
  refine .ixX (enc:=Rdg.c) (i:=7) hs rfl aq .none hr rfl rfl an aA hx cM ?_;intro b19 o19 hc19
  have d19:cellAt H b19 (o19+6)=some (I r.day):=hc19 6 _ rfl
  refine .z 8 rfl (zfa eg) ?_;refine .y 9 rfl hs ae ?_;refine .z 10 rfl (zbd [_,_] fQ) ?_
  refine .E 11 hs ?_
  refine .alloc hs kR rfl ?_;intro b5 w hs
  refine .go ?_
  refine .E 12 hs ?_
  refine .aV (vs:=[_,_]) hs rfl rfl bD ?_;intro w hs
  refine .go ?_
  refine .D hs ?_
  refine .ai (.z zm (.y hs (zls [_,_] dM bD) ?_))
  refine .o (.call Tryz.call93 rfl (mL (t:=r.td) (hs.sb:St H w (en:: .blk b5 [I r.tape,I r.day]::σ)) hO aj) ?_);rintro _ w ⟨rfl,hs⟩
  have hnn:=kz (l:=bj (rs.take k)) (t:=r.td)
  refine .z fj (.nil ?_)
  refine (.bJ rfl (fun hc26=>?_) (fun hc26=>?_))
  ·refine .region (.z zm (.y hs (zls [_,_] dM bD) ?_))
   refine .o (.buildSlice (cells:=[_,_]) hs fH rfl rfl fun b29 w hs=>?_)
   refine .o (.append (ys:=r.td.c) hs dR rfl rfl hO (.own .here rfl rfl) (by simp [TD.c,Value.oneCell']) (fun l h=>by rw [bq _ (kN _),dE] at h;omega) ?_);intro v30 en30 w hO2 hs
   refine .z zg (.nil ?_)
   refine nB (nT ?_)
   refine .region (.z zm (.z cA (.z zg (.nil ?_))))
   refine nT ?_
   have hn:r.td∉bj (rs.take k):=fun hm=>by have:=hnn.2 hm;omega
   rw [←rX,show bj (rs.take k)++[r.td]=bj (rs.take (k+1)) by rw [htk];unfold nO;rw [if_neg hn]] at hO2
   exact ⟨(k+1,v30),.bX rfl bQ aU,⟨by dsimp only;omega,_,hO2,hs.sb⟩,by dsimp only;omega⟩
  ·refine .skip ?_
   refine nB (nT ?_)
   refine .region (.z zm (.z cA (.z zg (.nil ?_))))
   refine nT ?_
   have hm:r.td∈bj (rs.take k):=hnn.1 aj
   exact ⟨(k+1,_),.bX rfl bQ aU,⟨by dsimp only;omega,en,by dsimp only;rw [htk];unfold nO;rw [if_pos hm];exact hO,hs.sb⟩,by dsimp only;omega⟩
 ·refine .exit ?_
  refine xT (xT (xB (nT ?_)))
  refine .ai (.z zm (.z zg (.nil ?_)))
  refine .ret (Fin.bL Tryz.results94 rfl ?_)
  obtain rfl:k=rs.length:=by omega
  rw [List.take_length] at hO
  exact ⟨en,by rw [List.take_length];exact hO,hs⟩
set_option maxHeartbeats 2000000 in
theorem pw{s:Srv}{x:List Int}{vst vwa vr vc vx:Value}(hs:St H w σ)(h1:RI H vst s.sp.st)(h2:RI H vwa s.sp.wa)(h3:RRd H vr s.rs)(hc:∃a l c,vc= .slice a l c)(hx:RI H vx x)(hxl:x.length=s.sys.n)(hb:s.sp.st.length≤1000∧s.sp.wa.length≤1000∧s.rs.length≤1000):
  Cl Tryz.prog 144 [.agg #[I s.sp.id,I s.sp.src,vst,vwa,I s.sp.al,I s.sp.up,vr,vc],vx] w fun u w'=>∃H1 vr' vy e1 e2,HLe H H1∧u= .tuple #[.agg #[I s.sp.id,I s.sp.src,vst,vwa,I s.sp.al,I s.sp.up,vr',vc],vy]∧cn 7 vr' (rdc (gV s.sp s.rs)).flatten e1∧cn 1 vy (Is (EO s x)) e2∧St H1 w' (e1::e2::σ):=by
 obtain ⟨ast,cst,rfl⟩:=RI.shape h1
 obtain ⟨awa,cwa,rfl⟩:=RI.shape h2
 obtain ⟨ar,cr,rfl⟩:=RRd.shape h3
 obtain ⟨ac,lc,cc,rfl⟩:=hc
 obtain ⟨ax,cx,rfl⟩:=RI.shape hx
 have hm:s.sp.many≤1000000:=Nat.mul_le_mul hb.1 hb.2.1
 have hn:=rn s
 have htl:=dq s.rs
 refine Cl.o Tryz.func144 Tryz.ntmps144 ag2 ?_
 refine .ai ?_
 refine .bx hs fun b2 w hs=>?_
 refine .o (.alloc hs bZ rfl fun b4 w hs=>?_)
 refine .z zg (.nil (.ai (.z (zfa aD) (.y hs (zld aO) ?_))))
 refine .o (.call CS rfl (gj (rs:=s.rs) hs h3 aj) ?_);rintro v15 w ⟨H1,hle1,hT,hs⟩
 obtain ⟨at',ct,rfl⟩:=RTd.shape hT
 refine .z zg (.nil (.ai (.z (zfa aN) (.y hs (zls [_,_,_,_,_,_] aQ aH) ?_))))
 refine .o (.call CR rfl (eJ (s:=s.sp) hs (h1.mono hle1) (h2.mono hle1) ⟨hb.1,hb.2.1⟩) ?_);rintro _ w ⟨rfl,hs⟩
 refine .z zg (.nil (.ai (.y hs (zls [_,_,_,_,_,_,_,_] aF az) ?_)))
 refine .o (.alloc hs bZ rfl fun b8 w hs=>?_)
 refine .o (.aV (vs:=[_,_,_,_,_,_,_,_]) hs rfl rfl az fun w hs=>?_)
 refine .nil (.ai (.z (zfa aD) ?_))
 refine .o (.store hs rfl rfl fT fun w hs=>?_)
 refine .nil (.seq (.ai (.z zg (.nil (.block ?_)))))
 refine .loop (fun p:Nat×Value=>⟨78,[],[(9,I (p.1:Int)),(8,.pointer (some ⟨b8,0,none⟩)),(7,I (s.sp.many:Int)),(6,.slice at' (bj s.rs).length ct),(4,.pointer (some ⟨b4,0,none⟩)),(2,.pointer (some ⟨b2,0,none⟩)),(1,.slice ax x.length cx)]⟩)
  (fun p w=>p.1≤s.rs.length∧∃en,cn 7 p.2 (rdc (gV s.sp (s.rs.take p.1))).flatten en∧St H1 w (en:: .blk b8 [I s.sp.id,I s.sp.src,.slice ast s.sp.st.length cst,.slice awa s.sp.wa.length cwa,I s.sp.al,I s.sp.up,p.2,.slice ac lc cc]:: .blk b4 [I 0,I 0,.slice none 0 0,.slice none 0 0,I 0,I 0,.slice none 0 0,.slice none 0 0]:: .blk b2 [I s.sp.id,I s.sp.src,.slice ast s.sp.st.length cst,.slice awa s.sp.wa.length cwa,I s.sp.al,I s.sp.up,.slice ar s.rs.length cr,.slice ac lc cc]::σ)) (fun p=>s.rs.length - p.1) (0,.slice none 0 0) aU
  ⟨Nat.zero_le _,_,.nil 7 none,hs.nul⟩ ?_
 clear hs
 rintro ⟨k,vo⟩ w ⟨hk,en,hO,hs⟩
 dsimp only at hk hO hs ⊢
 have hkl:=s9 s.sp (s.rs.take k)
 rw [List.length_take] at hkl
 obtain ⟨ao,lo,co,rfl,-⟩:=hO.shape
 refine .seq (.ai (.z zm (.z (zfa aD) (.y hs (zld aO) (.z (cH an) (.z fj (.nil ?_)))))))
 refine (.bJ rfl (fun hc25=>?_) (fun hc25=>?_))
 ·refine .skip ?_
  refine nT ?_
  refine .seq (.block ?_)
  refine .seq (.draw mix rfl hs fun w hs=>?_)
  refine .z 0 rfl (zfa aN) ?_;refine .ys 1 rfl hs [_,_,_,_,_,_] aQ aH ?_;refine .z 2 rfl (zfa aD) ?_;refine .y 3 rfl hs aO ?_;refine .z 4 rfl zm ?_
  obtain ⟨r,hr⟩:=nth (l:=s.rs) (k:=k) aj
  have hsn:=zv s.sp hr
  refine .ixX (enc:=Rdg.c) (i:=5) hs rfl aq .none (h3.mono hle1) rfl rfl an aA hr cM ?_;intro b33 o33 hc33
  refine .r (i:=6) hs rfl aq .none (bY (vs:=r.c) rfl cq aA hc33) ?_
  refine .E 7 hs ?_
  refine .call Tryz.call109 rfl (iR (s:=s.sp) (r:=r) hs (h1.mono hle1) (h2.mono hle1)) ?_;rintro _ w ⟨b35,rfl,hb35,hs⟩
  refine .go ?_
  refine .D hs ?_
  refine (.cond rfl (fun hc35=>?_) (fun hc35=>?_))
  ·refine .draw mix rfl hs fun w hs=>?_
   refine .z 0 rfl (zfa aD) ?_;refine .y 1 rfl hs aO ?_;refine .z 2 rfl (zfa aD) ?_;refine .y 3 rfl hs aO ?_;refine .z 4 rfl zm ?_
   refine .ixX (enc:=Rdg.c) (i:=5) hs rfl aq .none (h3.mono hle1) rfl rfl an aA hr cM ?_;intro b41 o41 hc41
   refine .r (i:=6) hs rfl aq .none (bY (vs:=r.c) rfl cq aA hc41) ?_
   refine .E 7 hs ?_
   refine .buildSlice (cells:=r.c) hs ee rfl aq ?_;intro b43 w hs
   refine .go ?_
   refine .E 8 hs ?_
   refine .append (ys:=r.c) hs bA rfl rfl hO (.own .here rfl rfl) (by simp [Rdg.c,Value.oneCell']) (fun l' h=>by rw [bq _ (eK _),bU] at h;omega) ?_;intro v44 en44 w hO2 hs
   rw [←np,show gV s.sp (s.rs.take k)++[r]=gV s.sp (s.rs.take (k+1)) by rw [hsn,if_pos (hb35.1 (by simpa using hc35))]] at hO2
   obtain ⟨a44,l44,c44,rfl,-⟩:=hO2.shape
   refine .go ?_
   refine .z 9 rfl (zfa aD) ?_
   refine .E 10 hs ?_
   refine .store hs rfl rfl fT ?_;intro w hs
   refine .go ?_
   refine .D hs ?_
   refine nB (nT ?_)
   refine .region (.z zm (.z cA (.z zg (.nil ?_))))
   refine nT ?_
   exact ⟨(k+1,.slice a44 l44 c44),.bX rfl bQ aU,⟨by dsimp only;omega,_,hO2,hs.sb⟩,by dsimp only;omega⟩
  ·refine .skip ?_
   refine nB (nT ?_)
   refine .region (.z zm (.z cA (.z zg (.nil ?_))))
   refine nT ?_
   exact ⟨(k+1,.slice ao lo co),.bX rfl bQ aU,⟨by dsimp only;omega,en,by dsimp only;rw [hsn,if_neg (fun h=>by rw [hb35.2 h] at hc35;cases hc35)];exact hO,hs.sb⟩,by dsimp only;omega⟩
 ·refine .exit ?_
  refine xT (xT (xB (nT ?_)))
  refine .ai ?_
  obtain rfl:k=s.rs.length:=by omega
  rw [List.take_length] at hO
  refine .o (.buildSlice (cells:=[]) hs fu rfl rfl fun b46 w hs=>?_)
  refine .z zm (.z zm (.z cA ?_))
  refine .q hs (kf (k:=s.sp.many+1) rfl rfl aa af rfl (by have:=(RS.len hx).2.1;omega)) ?_
  refine .o (.append (xs:=[]) (ys:=Is (x.take (s.sp.many+1))) hs aZ rfl rfl (.full (len:=0) rfl) (.ints (RI.head (hx.mono hle1) (k:=s.sp.many+1) aj)) (dL _) (fun l h=>by simp at h;rw [List.length_take];omega) ?_);intro v51 en51 w hO3 hs
  rw [List.nil_append] at hO3
  refine .z zg (.nil (.ai (.z (zfa aD) (.y hs (zld aO) ?_))))
  have hkl:=s9 s.sp s.rs
  obtain ⟨H2,hle2,hRR,hs2,back⟩:=hO.ux (eK _) aj (by rw [bU];omega) (hs.sb:St H1 w (en::en51:: .blk b8 [I s.sp.id,I s.sp.src,.slice ast s.sp.st.length cst,.slice awa s.sp.wa.length cwa,I s.sp.al,I s.sp.up,.slice ao lo co,.slice ac lc cc]:: .blk b4 [I 0,I 0,.slice none 0 0,.slice none 0 0,I 0,I 0,.slice none 0 0,.slice none 0 0]:: .blk b2 [I s.sp.id,I s.sp.src,.slice ast s.sp.st.length cst,.slice awa s.sp.wa.length cwa,I s.sp.al,I s.sp.up,.slice ar s.rs.length cr,.slice ac lc cc]::σ))
  refine .o (.call CS rfl (sM (rs:=gV s.sp s.rs) hs2 hRR aj) ?_);rintro v54 w ⟨enT,hOT,hsT⟩
  have hs:=back (HLe.refl _) hsT
  have htl':=dq (gV s.sp s.rs)
  obtain ⟨H3,hle3,hT3,hs⟩:=cn.cI (m:=2) (cs:=tdc (bj (gV s.sp s.rs))) hOT (kN _) aj (by rw [dE];omega) hs (.there .here)
  have hT3:RTd H3 v54 (bj (gV s.sp s.rs)):=hT3
  obtain ⟨a54,c54,rfl⟩:=RTd.shape hT3
  refine .z zg (.nil (.seq (.ai (.z zg (.nil (.block ?_))))))
  refine .loop (fun p:Nat×Value=>⟨78,[],[(12,I (p.1:Int)),(10,p.2),(11,.slice a54 (bj (gV s.sp s.rs)).length c54),(8,.pointer (some ⟨b8,0,none⟩)),(7,I (s.sp.many:Int)),(6,.slice at' (bj s.rs).length ct),(4,.pointer (some ⟨b4,0,none⟩)),(1,.slice ax x.length cx)]⟩)
   (fun p w=>p.1≤(bj (gV s.sp s.rs)).length∧∃en2,cn 1 p.2 (Is (x.take (s.sp.many+1)++((bj (gV s.sp s.rs)).take p.1).map (mq s x))) en2∧St H3 w (en2:: .blk b8 [I s.sp.id,I s.sp.src,.slice ast s.sp.st.length cst,.slice awa s.sp.wa.length cwa,I s.sp.al,I s.sp.up,.slice ao lo co,.slice ac lc cc]:: .blk b4 [I 0,I 0,.slice none 0 0,.slice none 0 0,I 0,I 0,.slice none 0 0,.slice none 0 0]::en::σ)) (fun p=>(bj (gV s.sp s.rs)).length - p.1) (0,v51) aU
   ⟨Nat.zero_le _,en51,by simpa using hO3,hs.sb⟩ ?_
  clear hs
  rintro ⟨j,vy⟩ w ⟨hj,en2,hO4,hs⟩
  dsimp only at hj hO4 hs ⊢
  obtain ⟨ay,ly,cy,rfl,-⟩:=hO4.shape
  refine .seq (.ai (.z zm (.z zm (.z (cH bg) (.z fj (.nil ?_))))))
  refine (.bJ rfl (fun hc58=>?_) (fun hc58=>?_))
  ·refine .skip ?_
   refine nT ?_
   refine .seq (.block (.region (.z zm (.z zm (.z zm (.z cA (.z zm (.z zm (.z zm ?_)))))))))
   obtain ⟨t,ht⟩:=nth (l:=bj (gV s.sp s.rs)) (k:=j) aj
   have htm:t∈s.bw:=Cp (List.mem_of_getElem? ht)
   obtain ⟨q,q1,q2,q3⟩:=fm htm
   have q3':q<(bj s.rs).length:=q3
   have q1':iN (bj s.rs) t=(q:Int):=q1
   have hnt:s.sys.n=s.sp.many+(bj s.rs).length+1:=hn
   have herr:mq s x t=gi x (s.sp.many+1+q):=by unfold mq;rw [q1,Int.toNat_natCast]
   refine .ixX (enc:=TD.c) hs hT3 rfl rfl bg bD ht cM ?_;intro b68 o68 hc68
   refine .q hs (bY (vs:=t.c) rfl dM bD hc68) ?_
   refine .o (.call Tryz.call93 rfl (jI (t:=t) hs (hT.mono hle3) aj) ?_);rintro _ w ⟨rfl,hs⟩
   rw [q1']
   refine .z cA ?_
   refine .ixY hs (hx.mono (hle1.trans hle3)) rfl rfl aa af (bu (l:=x) (i:=s.sp.many+1+q) aj) aj ?_;intro b72 o72 hc72
   refine .q hs (aK rfl ae hc72) ?_
   refine .o (.buildSlice (cells:=[_]) hs cf rfl rfl fun b74 w hs=>?_)
   refine .o (.append (ys:=Is [gi x (s.sp.many+1+q)]) hs aZ rfl rfl hO4 (.own .here rfl rfl) (dL _) (fun l' h=>by simp at h;omega) ?_);intro v75 en75 w hO5 hs
   rw [←List.map_append,List.append_assoc,←herr,show ((bj (gV s.sp s.rs)).take j).map (mq s x)++[mq s x t]=((bj (gV s.sp s.rs)).take (j+1)).map (mq s x) by rw [cB ht];simp] at hO5
   obtain ⟨a75,l75,c75,rfl,-⟩:=hO5.shape
   refine .z zg (.nil ?_)
   refine nB (nT ?_)
   refine .region (.z zm (.z cA (.z zg (.nil ?_))))
   refine nT ?_
   exact ⟨(j+1,.slice a75 l75 c75),.bX rfl bQ aU,⟨by dsimp only;omega,_,hO5,hs.sb⟩,by dsimp only;omega⟩
  ·refine .exit ?_
   refine xT (xT (xB (nT ?_)))
   refine .ai (.y hs (zls [_,_,_,_,_,_,_,_] aF az) (.z zm ?_))
   refine .o (.aV (vs:=[_,_,_,_,_,_,_,_]) hs rfl rfl az fun w hs=>?_)
   refine .z zg (.nil ?_)
   refine .ret ?_
   obtain rfl:j=(bj (gV s.sp s.rs)).length:=by omega
   rw [List.take_length] at hO4
   exact Fin.gO [] [] hs fun w hs=>⟨_,results2 Tryz.results144 (dA (vs:=[_,_,_,_,_,_,_,_]) hs rfl aF az) rfl,H3,_,_,en,en2,hle1.trans hle3,rfl,hO,hO4,hs.sb⟩
theorem zu{s:Spc}{rs R:List Rdg}{cs:List Cmp}{x:List Int}(hf:gz (Srv.nJ ⟨s,rs,cs⟩).dw (gi x))(hx0:gi x 0=0)(hxl:x.length=s.many+(bj rs).length+1)(ht:bj R=bj rs)(hS:∀r∈R,RdS s r)(hR:∀r∈R,Bh s (bj rs) x r):
  Bi ⟨s,gV s R,cs⟩ (EO ⟨s,R,cs⟩ x):=by
 have hl:(x.take (s.many+1)).length=s.many+1:=by rw [List.length_take];omega
 refine AK (R:=R) (x:=x) List.filter_sublist hS hx0 (AW hf ht hR) ?_ (fun b hb=>?_) fun j hj=>?_
 ·show (x.take (s.many+1)++(bj (gV s R)).map (mq ⟨s,R,cs⟩ x)).length=_
  rw [List.length_append,hl,List.length_map]
 ·show gi (x.take (s.many+1)++(bj (gV s R)).map (mq ⟨s,R,cs⟩ x)) b=_
  unfold gi
  simp only [List.getD]
  rw [List.getElem?_append_left aj,List.getElem?_take_of_lt aj]
 ·show gi (x.take (s.many+1)++(bj (gV s R)).map (mq ⟨s,R,cs⟩ x)) (s.many+1+j)=_
  have e:∀t,(bj (gV s R))[j]? =some t→gi (x.take (s.many+1)++(bj (gV s R)).map (mq ⟨s,R,cs⟩ x)) (s.many+1+j)=mq ⟨s,R,cs⟩ x t:=fun t ht=>by
   unfold gi
   simp only [List.getD]
   rw [List.getElem?_append_right aj,hl,show s.many+1+j - (s.many+1)=j by omega,List.getElem?_map,ht]
   rfl
  rw [e _ (uP hj)];rfl
set_option maxHeartbeats 2000000 in
theorem tM{vs v5 v4 vp:Value}{sl pk:List Int}{fs5:List F5}{fs4:List F4}{z1 z2 z3:Int}(hs:St H w σ)(g1:RI H vs sl)(g2:RF5 H v5 fs5)(g3:RF4 H v4 fs4)(g4:RI H vp pk):
  Cl Tryz.prog 60 [.agg #[vs,v5,v4,vp,I z1,I z2,I z3]] w fun u w'=>∃H1 s y vst vwa vr vc vy e1 e2 e3 e4 e5,HLe H H1∧u= .tuple #[.agg #[I s.sp.id,I s.sp.src,vst,vwa,I s.sp.al,I s.sp.up,vr,vc],vy]∧FK s∧wc s vst vwa vr vc e1 e2 e3 e4∧cn 1 vy (Is y) e5∧Bi s y∧St H1 w' (e1::e2::e3::e4::e5::σ):=by
 obtain ⟨avs,cvs,rfl⟩:=RI.shape g1
 obtain ⟨av5,cv5,rfl⟩:=g2.shape
 obtain ⟨av4,cv4,rfl⟩:=g3.shape
 obtain ⟨avp,cvp,rfl⟩:=RI.shape g4
 refine Cl.o Tryz.func60 Tryz.ntmps60 ag1 ?_
 refine .ai ?_
 refine .bx hs fun b1 w hs=>?_
 refine .o (.alloc hs bZ rfl fun b2 w hs=>?_)
 refine .z zg (.nil (.ai (.z (zfa m6) (.y hs (zld ak) ?_))))
 refine .o (.call Tryz.call35 rfl (ox hs g1) ?_);rintro _ w ⟨s,vst,vwa,e1,e2,rfl,hSp,hO1,hO2,hs⟩
 have hSt:=hSp.st
 have hWa:=hSp.wa
 have hSt2:=hSp.ok.st.two
 have hWa2:=hSp.ok.wa.two
 obtain ⟨ast,lst,cst,rfl,hlst⟩:=hO1.shape
 obtain ⟨awa,lwa,cwa,rfl,hlwa⟩:=hO2.shape
 obtain rfl:s.st.length=lst:=by simpa [Is] using hlst
 obtain rfl:s.wa.length=lwa:=by simpa [Is] using hlwa
 refine .z (zbd [_,_,_,_,_,_,_,_] eC) ?_
 refine .o (.alloc hs bZ rfl fun b4 w hs=>?_)
 refine .o (.aV (vs:=[_,_,_,_,_,_,_,_]) hs rfl rfl az fun w hs=>?_)
 refine .nil (.ai (.z (zfa aN) (.y hs (zls [_,_,_,_,_,_] aQ aH) ?_)))
 refine .o (.alloc hs gN rfl fun b5 w hs=>?_)
 refine .o (.aV (vs:=[_,_,_,_,_,_]) hs rfl rfl aH fun w hs=>?_)
 refine .nil ?_
 refine .cut (fun fs w=>∃rs e3 ar cr,jU fs ⟨208,[],[(5,.pointer (some ⟨b5,0,none⟩)),(4,.pointer (some ⟨b4,0,none⟩)),(2,.pointer (some ⟨b2,0,none⟩)),(1,.pointer (some ⟨b1,0,none⟩))]⟩∧rs.length≤14∧rs.length≤fs5.length∧(∀r∈rs,jo s r)∧cn 7 (.slice ar rs.length cr) (rdc rs).flatten e3∧St H w (e3:: .blk b5 [I s.id,I s.src,.slice ast s.st.length cst,.slice awa s.wa.length cwa,I s.al,I s.up]:: .blk b4 [I s.id,I s.src,.slice ast s.st.length cst,.slice awa s.wa.length cwa,I s.al,I s.up,.slice ar rs.length cr,.slice none 0 0]::e1::e2:: .blk b2 [I 0,I 0,.slice none 0 0,.slice none 0 0,I 0,I 0,.slice none 0 0,.slice none 0 0]:: .blk b1 [.slice avs sl.length cvs,.slice av5 fs5.length cv5,.slice av4 fs4.length cv4,.slice avp pk.length cvp,I z1,I z2,I z3]::σ)) ?_ ?_
 ·refine .ai (.z zg (.nil (.block ?_)))
  refine .loop (fun p:List Rdg×Option Addr×Nat=>⟨208,[],[(6,I (p.1.length:Int)),(5,.pointer (some ⟨b5,0,none⟩)),(4,.pointer (some ⟨b4,0,none⟩)),(2,.pointer (some ⟨b2,0,none⟩)),(1,.pointer (some ⟨b1,0,none⟩))]⟩)
   (fun p w=>p.1.length≤14∧p.1.length≤fs5.length∧(∀r∈p.1,jo s r)∧∃e3,cn 7 (.slice p.2.1 p.1.length p.2.2) (rdc p.1).flatten e3∧
    St H w (e3:: .blk b5 [I s.id,I s.src,.slice ast s.st.length cst,.slice awa s.wa.length cwa,I s.al,I s.up]:: .blk b4 [I s.id,I s.src,.slice ast s.st.length cst,.slice awa s.wa.length cwa,I s.al,I s.up,.slice p.2.1 p.1.length p.2.2,.slice none 0 0]::e1::e2:: .blk b2 [I 0,I 0,.slice none 0 0,.slice none 0 0,I 0,I 0,.slice none 0 0,.slice none 0 0]:: .blk b1 [.slice avs sl.length cvs,.slice av5 fs5.length cv5,.slice av4 fs4.length cv4,.slice avp pk.length cvp,I z1,I z2,I z3]::σ)) (fun p=>14 - p.1.length) ([],none,0) aU
   ⟨bQ,bQ,bQ,_,.nil 7 none,(hs.sb).nul⟩ ?_
  clear hs
  rintro ⟨rs,ar,cr⟩ w ⟨hr14,hrf,hrok,e3,hO3,hs⟩
  dsimp only at hr14 hrf hrok hO3 hs ⊢
  refine .seq (.ai (.z zm (.z (zfa gI) (.y hs (zld Tryz.isAgg23) (.z (cH Tryz.runUnderlying23) (.z fj (.z zm ?_)))))))
  refine .iq (t':=31) rfl (fun hb31=>?_) (fun hb31=>?_)
  ·refine .gT rfl rfl ?_
   refine .z zm ?_
   refine .gT rfl rfl ?_
   refine .z fj (.z zpT (.nil ?_))
   refine (.bJ rfl (fun hc34=>?_) (fun hc34=>?_))
   ·refine .skip ?_
    refine nT ?_
    refine .seq (.block (.ai (.z (zfa gI) (.y hs (zld Tryz.isAgg23) (.z zm ?_)))))
    obtain ⟨n,hn⟩:=nth (l:=fs5) (k:=rs.length) aj
    refine .ixX (enc:=F5.v) hs g2 rfl rfl Tryz.runUnderlying23 ub hn cM ?_;intro b40 o40 hc40
    refine .q hs (bY (vs:=n.v) rfl Tryz.isAgg106 ub hc40) ?_
    refine .o (.alloc hs Tryz.zeroValue106 rfl fun b7 w hs=>?_)
    refine .o (.aV (vs:=[_,_,_,_,_]) hs rfl rfl ub fun w hs=>?_)
    refine .nil ?_
    refine .seq (.draw mix rfl hs fun w hs=>?_)
    refine .z 0 rfl (zia 4 gS af) ?_
    refine .y 1 rfl hs ae ?_
    refine .z 3 rfl (zia 4 gS af) ?_
    refine .y 4 rfl hs ae ?_;refine .z 5 rfl Eg ?_
    refine .E 2 hs ?_
    refine .call dv rfl (bT hs aj) ?_;rintro _ w ⟨k44,g44,rfl,hs⟩
    refine .go ?_
    refine .E 6 hs ?_
    refine .call dv rfl (bT hs aj) ?_;rintro _ w ⟨k48,g48,rfl,hs⟩
    have m49:0≤(k44:Int)*(k48:Int)∧(k44:Int)*(k48:Int)≤39:=by
     have e1:k48=0∨k48=1:=by omega
     rcases e1 with rfl|rfl<;>simp<;>omega
    refine .go ?_
    refine .z 7 rfl jV ?_;refine .z 8 rfl zg ?_;refine .D hs ?_
    refine .draw mix rfl hs fun w hs=>?_
    refine .z 0 rfl (zfa aD) ?_;refine .y 1 rfl hs aO ?_;refine .z 2 rfl zm ?_;refine .z 3 rfl cA ?_
    refine .z 4 rfl (zia 0 gS af) ?_
    refine .y 5 rfl hs ae ?_;refine .z 6 rfl (zfa bn) ?_;refine .y 7 rfl hs ak ?_;refine .z 8 rfl (cH aa) ?_
    refine .z 10 rfl (zia 1 gS af) ?_
    refine .y 11 rfl hs ae ?_;refine .z 12 rfl (zfa aW) ?_;refine .y 13 rfl hs ak ?_;refine .z 14 rfl (cH aa) ?_;refine .z 16 rfl zm ?_
    refine .z 17 rfl (zia 2 gS af) ?_
    refine .y 18 rfl hs ae ?_
    refine .z 21 rfl (zia 3 gS af) ?_
    refine .y 22 rfl hs ae ?_
    refine .E 9 hs ?_
    refine .call dv rfl (bT hs aj) ?_;rintro _ w ⟨k59,g59,rfl,hs⟩
    refine .go ?_
    refine .E 15 hs ?_
    refine .call dv rfl (bT hs aj) ?_;rintro _ w ⟨k65,g65,rfl,hs⟩
    refine .go ?_
    refine .E 19 hs ?_
    refine .call dv rfl (bT hs aj) ?_;rintro _ w ⟨k69,g69,rfl,hs⟩
    refine .go ?_
    refine .z 20 rfl cA ?_
    refine .E 23 hs ?_
    refine .call dv rfl (bT hs aj) ?_;rintro _ w ⟨k73,g73,rfl,hs⟩
    obtain ⟨r,hr⟩:∃r:Rdg,r=⟨10+(rs.length:Int),(k59:Int),(k65:Int),0,(k44:Int)*(k48:Int),1+(k69:Int),(k73:Int)⟩:=⟨_,rfl⟩
    have hrOk:jo s r:=by subst hr;exact ⟨by dsimp only;omega,by dsimp only;omega,by dsimp only;omega,by dsimp only;omega,by dsimp only;omega,by dsimp only;omega,by dsimp only;omega⟩
    refine .go ?_
    refine .z 24 rfl (zbd [_,_,_,_,_,_,_] ff) ?_
    refine .E 25 hs ?_
    refine .buildSlice (cells:=r.c) hs ee rfl (by subst hr;kernel_rfl) ?_;intro b75 w hs
    refine .go ?_
    refine .E 26 hs ?_
    refine .append (ys:=r.c) hs bA rfl rfl hO3 (.own .here rfl rfl) (by simp [Rdg.c,Value.oneCell']) (fun l' h=>by rw [bq _ (eK _),bU] at h;omega) ?_;intro v76 en76 w hO4 hs
    rw [←np] at hO4
    obtain ⟨a76,c76,rfl⟩:=hO4.ek (eK _) aj
    rw [bU] at hO4 ⊢
    refine .go ?_
    refine .z 27 rfl (zfa aD) ?_
    refine .E 28 hs ?_
    refine .store hs rfl rfl fT ?_;intro w hs
    refine .go ?_
    refine .D hs ?_
    refine nB (nT ?_)
    refine .region (.z zm (.z cA (.z zg (.nil ?_))))
    refine nT ?_
    exact ⟨(rs++[r],a76,c76),.bX rfl bQ aU,⟨by simp;omega,by simp;omega,fun q hq=>by
      simp only [List.mem_append,List.mem_singleton] at hq
      rcases hq with hq|rfl
      ·exact hrok q hq
      ·exact hrOk,_,hO4,hs.sb⟩,by simp;omega⟩
   ·refine .exit ?_
    refine xT (xT (xB (nT ?_)))
    exact ⟨rs,e3,ar,cr,aU,hr14,hrf,hrok,hO3,hs⟩
  ·refine .gFs 2 5 true rfl rfl rfl ?_
   refine .z zpF (.nil ?_)
   refine (.cF ?_)
   refine .exit ?_
   refine xT (xT (xB (nT ?_)))
   exact ⟨rs,e3,ar,cr,aU,hr14,hrf,hrok,hO3,hs⟩
 ·clear hs
  rintro fs w ⟨rs,e3,ar,cr,hfs,hr14,hrf,hrok,hO3,hs⟩
  refine WE.sub ?_ hfs
  clear hfs
  refine .cut (fun fs w=>∃cs e4 ac cc,jU fs ⟨208,[],[(5,.pointer (some ⟨b5,0,none⟩)),(4,.pointer (some ⟨b4,0,none⟩)),(2,.pointer (some ⟨b2,0,none⟩)),(1,.pointer (some ⟨b1,0,none⟩))]⟩∧cs.length≤5∧(∀c∈cs,oT c)∧(Srv.nJ ⟨s,rs,cs⟩).Sound∧cn 6 (.slice ac cs.length cc) (cmc cs).flatten e4∧St H w (e1::e2::e3::e4:: .blk b5 [I s.id,I s.src,.slice ast s.st.length cst,.slice awa s.wa.length cwa,I s.al,I s.up]:: .blk b4 [I s.id,I s.src,.slice ast s.st.length cst,.slice awa s.wa.length cwa,I s.al,I s.up,.slice ar rs.length cr,.slice ac cs.length cc]:: .blk b2 [I 0,I 0,.slice none 0 0,.slice none 0 0,I 0,I 0,.slice none 0 0,.slice none 0 0]:: .blk b1 [.slice avs sl.length cvs,.slice av5 fs5.length cv5,.slice av4 fs4.length cv4,.slice avp pk.length cvp,I z1,I z2,I z3]::σ)) ?_ ?_
  ·refine .ai (.z zg (.nil (.block ?_)))
   refine .loop (fun p:Nat×List Cmp×Option Addr×Nat=>⟨208,[],[(9,I (p.1:Int)),(5,.pointer (some ⟨b5,0,none⟩)),(4,.pointer (some ⟨b4,0,none⟩)),(2,.pointer (some ⟨b2,0,none⟩)),(1,.pointer (some ⟨b1,0,none⟩))]⟩)
    (fun p w=>p.1≤5∧p.1≤fs4.length∧p.2.1.length≤p.1∧(∀c∈p.2.1,oT c)∧(Srv.nJ ⟨s,rs,p.2.1⟩).Sound∧∃e4,cn 6 (.slice p.2.2.1 p.2.1.length p.2.2.2) (cmc p.2.1).flatten e4∧
     St H w (e1::e2::e3::e4:: .blk b5 [I s.id,I s.src,.slice ast s.st.length cst,.slice awa s.wa.length cwa,I s.al,I s.up]:: .blk b4 [I s.id,I s.src,.slice ast s.st.length cst,.slice awa s.wa.length cwa,I s.al,I s.up,.slice ar rs.length cr,.slice p.2.2.1 p.2.1.length p.2.2.2]:: .blk b2 [I 0,I 0,.slice none 0 0,.slice none 0 0,I 0,I 0,.slice none 0 0,.slice none 0 0]:: .blk b1 [.slice avs sl.length cvs,.slice av5 fs5.length cv5,.slice av4 fs4.length cv4,.slice avp pk.length cvp,I z1,I z2,I z3]::σ)) (fun p=>5 - p.1) (0,[],none,0) aU
    ⟨bQ,bQ,bQ,bQ,AX (vg hSp.ok hSt hWa hr14 bQ hrok bQ) rfl,.nul,.nil 6 none,(hs.nul).sb⟩ ?_
   clear hs
   rintro ⟨k,cs,ac,cc⟩ w ⟨hk5,hkf,hck,hcok,hsd,e4,hO4,hs⟩
   dsimp only at hk5 hkf hck hcok hsd hO4 hs ⊢
   refine .seq (.ai (.z zm (.z (zfa jC) (.y hs (zld Tryz.isAgg24) (.z (cH Tryz.runUnderlying24) (.z fj (.z zm ?_)))))))
   refine .iq (t':=83) rfl (fun hb83=>?_) (fun hb83=>?_)
   ·refine .gT rfl rfl ?_
    refine .z zm ?_
    refine .gT rfl rfl ?_
    refine .z fj (.z zpT (.nil ?_))
    refine (.bJ rfl (fun hc86=>?_) (fun hc86=>?_))
    ·refine .skip ?_
     refine nT ?_
     refine .seq (.block (.ai (.z (zfa jC) (.y hs (zld Tryz.isAgg24) (.z zm ?_)))))
     obtain ⟨n,hn⟩:=nth (l:=fs4) (k:=k) aj
     refine .ixX (enc:=F4.v) hs g3 rfl rfl Tryz.runUnderlying24 Tryz.sizeOf199 hn cM ?_;intro b92 o92 hc92
     refine .q hs (bY (vs:=n.v) rfl Tryz.isAgg199 Tryz.sizeOf199 hc92) ?_
     refine .o (.alloc hs Tryz.zeroValue199 rfl fun b10 w hs=>?_)
     refine .o (.aV (vs:=[_,_,_,_]) hs rfl rfl Tryz.sizeOf199 fun w hs=>?_)
     refine .nil (.ai ?_)
     refine .z (zia 1 oW af) ?_
     refine .y hs (zld ae) ?_
     refine .o (.call dv rfl (bT hs aj) ?_);rintro _ w ⟨k96,g96,rfl,hs⟩
     refine .z ir (.z zg (.nil (.ai ?_)))
     refine .z (zia 3 oW af) ?_
     refine .y hs (zld ae) ?_
     refine .o (.call dv rfl (bT hs aj) ?_);rintro _ w ⟨k100,g100,rfl,hs⟩
     refine .z zg (.nil ?_)
     refine .seq (.draw mix rfl hs fun w hs=>?_)
     refine .z 0 rfl (zfa aR) ?_;refine .y 1 rfl hs bI ?_;refine .z 2 rfl zm ?_;refine .z 3 rfl cA ?_
     refine .z 4 rfl (zia 0 oW af) ?_
     refine .y 5 rfl hs ae ?_;refine .z 8 rfl zm ?_;refine .z 9 rfl zm ?_
     refine .z 10 rfl (zia 3 oW af) ?_
     refine .y 11 rfl hs ae ?_;refine .z 12 rfl Eg ?_;refine .z 15 rfl zm ?_;refine .z 16 rfl zm ?_
     refine .z 17 rfl (zia 2 oW af) ?_
     refine .y 18 rfl hs ae ?_
     refine .E 6 hs ?_
     refine .call dv rfl (bT hs aj) ?_;rintro _ w ⟨k107,g107,rfl,hs⟩
     refine .go ?_
     refine .z 7 rfl cA ?_
     refine .E 13 hs ?_
     refine .call dv rfl (bT hs aj) ?_;rintro _ w ⟨k114,g114,rfl,hs⟩
     refine .go ?_
     refine .z 14 rfl cA ?_
     refine .E 19 hs ?_
     refine .call dv rfl (bT hs aj) ?_;rintro _ w ⟨k120,g120,rfl,hs⟩
     obtain ⟨c,hc⟩:∃c:Cmp,c=⟨30+(k:Int),1+(k107:Int),(k100:Int),(k100:Int)+(k114:Int),(k96:Int) - 40,(k96:Int) - 40+(k120:Int)⟩:=⟨_,rfl⟩
     have hcOk:oT c:=by subst hc;exact ⟨by dsimp only;omega,by dsimp only;omega,by dsimp only;omega,by dsimp only;omega,by dsimp only;omega,by dsimp only;omega⟩
     refine .go ?_
     refine .z 20 rfl cA ?_;refine .z 21 rfl (zbd [_,_,_,_,_,_] m9) ?_
     refine .E 22 hs ?_
     refine .buildSlice (cells:=c.c) hs gW rfl (by subst hc;kernel_rfl) ?_;intro b123 w hs
     refine .go ?_
     refine .E 23 hs ?_
     refine .append (ys:=c.c) hs cK rfl rfl hO4 (.own .here rfl rfl) (by simp [Cmp.c,Value.oneCell']) (fun l' h=>by rw [bq _ (gP _),cV] at h;omega) ?_;intro v124 en124 w hO5 hs
     rw [←vG] at hO5
     obtain ⟨a124,c124,rfl⟩:=hO5.ek (gP _) aj
     rw [cV] at hO5 ⊢
     have hcl:(cs++[c]).length=cs.length+1:=by simp
     have hcok':∀d∈cs++[c],oT d:=fun d hd=>by
      simp only [List.mem_append,List.mem_singleton] at hd
      rcases hd with hd|rfl
      ·exact hcok d hd
      ·exact hcOk
     have hsok:ez ⟨s,rs,cs++[c]⟩:=vg hSp.ok hSt hWa hr14 aj hrok hcok'
     refine .go ?_
     refine .z 24 rfl (zfa aR) ?_
     refine .E 25 hs ?_
     refine .store hs rfl rfl lQ ?_;intro w hs
     refine .go ?_
     refine .D hs ?_
     refine .ai (.y hs (zls [_,_,_,_,_,_,_,_] aF az) ?_)
     obtain ⟨Hx,hlex,r1,r2,r3,r4,hs2,back⟩:=wc.ux (s:=⟨s,rs,cs++[c]⟩) ⟨hO1,hO2,hO3,hO5⟩ (by show s.st.length≤_;omega) (by show s.wa.length≤_;omega) (by show rs.length≤_;omega) (by show (cs++[c]).length≤_;omega) (hs.sb:St H w (e1::e2::e3::en124:: .blk b5 [I s.id,I s.src,.slice ast s.st.length cst,.slice awa s.wa.length cwa,I s.al,I s.up]:: .blk b4 [I s.id,I s.src,.slice ast s.st.length cst,.slice awa s.wa.length cwa,I s.al,I s.up,.slice ar rs.length cr,.slice a124 (cs++[c]).length c124]:: .blk b2 [I 0,I 0,.slice none 0 0,.slice none 0 0,I 0,I 0,.slice none 0 0,.slice none 0 0]:: .blk b1 [.slice avs sl.length cvs,.slice av5 fs5.length cv5,.slice av4 fs4.length cv4,.slice avp pk.length cvp,I z1,I z2,I z3]::σ))
     refine .o (.call Tryz.call142 rfl (sO (s:=⟨s,rs,cs++[c]⟩) hs2 r1 r2 r3 r4 hsok.early (xL hsok)) ?_);rintro _ w ⟨Hy,b127,hley,rfl,hb127,hs3⟩
     have hs:=back hley hs3
     clear hs2 hs3 back
     refine .nil ?_
     refine (.cond rfl (fun hc127=>?_) (fun hc127=>?_))
     ·refine .region (.z (zfa aR) (.y hs (zld bI) (.z (zfa aR) (.y hs (zld bI) (.z (cH aC) (.z ir ?_))))))
      refine .q hs (kf (k:=cs.length) rfl rfl aC aP aj (by have:=hO5.le;omega)) ?_
      refine .z (zfa aR) ?_
      refine .o (.store hs rfl rfl lQ fun w hs=>?_)
      refine .nil ?_
      refine nB (nT ?_)
      refine .region (.z zm (.z cA (.z zg (.nil ?_))))
      refine nT ?_
      exact ⟨(k+1,cs,a124,c124),.bX rfl bQ aU,⟨by dsimp only;omega,by dsimp only;omega,by dsimp only;omega,hcok,hsd,_,hO5.DS,hs.sb⟩,by dsimp only;omega⟩
     ·refine .skip ?_
      refine nB (nT ?_)
      refine .region (.z zm (.z cA (.z zg (.nil ?_))))
      refine nT ?_
      exact ⟨(k+1,cs++[c],a124,c124),.bX rfl bQ aU,⟨by dsimp only;omega,by dsimp only;omega,by dsimp only;omega,hcok',hb127 (by simpa using hc127),_,hO5,hs.sb⟩,by dsimp only;omega⟩
    ·refine .exit ?_
     refine xT (xT (xB (nT ?_)))
     exact ⟨cs,e4,ac,cc,aU,aj,hcok,hsd,hO4,hs⟩
   ·refine .gFs 2 5 true rfl rfl rfl ?_
    refine .z zpF (.nil ?_)
    refine (.cF ?_)
    refine .exit ?_
    refine xT (xT (xB (nT ?_)))
    exact ⟨cs,e4,ac,cc,aU,aj,hcok,hsd,hO4,hs⟩
  ·clear hs
   rintro fs w ⟨cs,e4,ac,cc,hfs,hc5,hcok,hsd,hO4,hs⟩
   refine WE.sub ?_ hfs
   clear hfs
   have hsok:ez ⟨s,rs,cs⟩:=vg hSp.ok hSt hWa hr14 hc5 hrok hcok
   refine .ai (.y hs (zls [_,_,_,_,_,_,_,_] aF az) (.z (zfa mZ) (.y hs (zld ak) ?_)))
   obtain ⟨Hx,hlex,r1,r2,r3,r4,hs2,back⟩:=wc.ux (s:=⟨s,rs,cs⟩) ⟨hO1,hO2,hO3,hO4⟩ (by show s.st.length≤_;omega) (by show s.wa.length≤_;omega) (by show rs.length≤_;omega) (by show cs.length≤_;omega) hs
   refine .o (.call Tryz.call143 rfl (sN (s:=⟨s,rs,cs⟩) hs2 r1 r2 r3 r4 (g4.mono hlex) hsok.early ⟨xL hsok,hsd⟩) ?_);rintro v139 w ⟨Hy,x,ex,hley,hOx,hP,hs3⟩
   have hs:=back hley hs3
   clear hs2 hs3 back r1 r2 r3 r4
   obtain ⟨hxl,hx0,hxb,hfe⟩:=hP.A0 (xL hsok) hsd
   have hsm:=hsok.many
   have hfn:(Srv.nJ ⟨s,rs,cs⟩).n=s.many+(bj rs).length+1:=rn ⟨s,rs,cs⟩
   have hxl:x.length=s.many+(bj rs).length+1:=by rw [hxl];exact hfn
   rw [hfn] at hxb
   have hsm:s.many+(bj rs).length≤64:=hsm
   obtain ⟨Hz,hlez,hX,hs⟩:=cn.cN hOx aj hs cJ
   obtain ⟨ax,cx,rfl⟩:=RI.shape hX
   refine .z zg (.nil (.seq (.ai (.z zg (.nil (.block ?_))))))
   refine .loop (fun p:Nat×List Rdg=>⟨208,[],[(14,I (p.1:Int)),(13,.slice ax x.length cx),(5,.pointer (some ⟨b5,0,none⟩)),(4,.pointer (some ⟨b4,0,none⟩)),(2,.pointer (some ⟨b2,0,none⟩)),(1,.pointer (some ⟨b1,0,none⟩))]⟩)
    (fun p w=>p.1≤rs.length∧p.2.length=rs.length∧bj p.2=bj rs∧(∀r∈p.2,RdS s r)∧(∀j<p.1,∀r,p.2[j]? =some r→Bh s (bj rs) x r)∧∃e3,cn 7 (.slice ar rs.length cr) (rdc p.2).flatten e3∧
     St Hz w (e1::e2::e3::e4:: .blk b5 [I s.id,I s.src,.slice ast s.st.length cst,.slice awa s.wa.length cwa,I s.al,I s.up]:: .blk b4 [I s.id,I s.src,.slice ast s.st.length cst,.slice awa s.wa.length cwa,I s.al,I s.up,.slice ar rs.length cr,.slice ac cs.length cc]:: .blk b2 [I 0,I 0,.slice none 0 0,.slice none 0 0,I 0,I 0,.slice none 0 0,.slice none 0 0]:: .blk b1 [.slice avs sl.length cvs,.slice av5 fs5.length cv5,.slice av4 fs4.length cv4,.slice avp pk.length cvp,I z1,I z2,I z3]::σ)) (fun p=>rs.length - p.1) (0,rs) aU
    ⟨bQ,rfl,rfl,fun r hr=>⟨(hrok r hr).st,(hrok r hr).wa,(hrok r hr).tol⟩,fun j hj=>by omega,e3,hO3,hs⟩ ?_
   clear hs hO3
   rintro ⟨k,R⟩ w ⟨hk,hRl,hRt,hRs,hRv,e3,hO3,hs⟩
   dsimp only at hk hRl hRt hRs hRv hO3 hs ⊢
   refine .seq (.ai (.z zm (.z (zfa aD) (.y hs (zld aO) (.z (cH an) (.z fj (.nil ?_)))))))
   refine (.bJ rfl (fun hc144=>?_) (fun hc144=>?_))
   ·refine .skip ?_
    refine nT ?_
    refine .seq (.block (.ai (.z (zfa gI) (.y hs (zld Tryz.isAgg23) (.z zm ?_)))))
    obtain ⟨n,hn⟩:=nth (l:=fs5) (k:=k) aj
    obtain ⟨r,hr⟩:=nth (l:=R) (k:=k) aj
    have hrS:=hRs r (List.mem_of_getElem? hr)
    obtain ⟨u,hu1,hu2⟩:=hrS.u
    have hrst:=hrS.st
    have hrwa:=hrS.wa
    have hrtol:=hrS.tol
    have hmem:r.td∈bj R:=fZ.2 ⟨r,List.mem_of_getElem? hr,rfl⟩
    obtain ⟨q,q1,q2,q3⟩:=fm hmem
    rw [hRt] at q3
    have hb1:=hxb u aj
    have hb2:=hxb (s.many+1+q) aj
    obtain ⟨bo,co,sp,hv,rfl,hcap⟩:=hO3.Bt (eK _) aj (by rw [bU];omega)
    simp only [Value.slice.injEq] at hv
    obtain ⟨rfl,hv2,rfl⟩:=hv
    obtain ⟨Hx,hlex,r1,r2,r3,r4,hs2,back⟩:=wc.ux (s:=⟨s,R,cs⟩) ⟨hO1,hO2,hO3,hO4⟩ (by show s.st.length≤_;omega) (by show s.wa.length≤_;omega) (by show R.length≤_;omega) (by show cs.length≤_;omega) hs
    clear hs
    have hs:=hs2
    clear hs2
    refine .ixX (enc:=F5.v) hs (g2.mono (hlez.trans hlex)) rfl rfl Tryz.runUnderlying23 ub hn cM ?_;intro b150 o150 hc150
    refine .q hs (bY (vs:=n.v) rfl Tryz.isAgg106 ub hc150) ?_
    refine .o (.alloc hs Tryz.zeroValue106 rfl fun b15 w hs=>?_)
    refine .o (.aV (vs:=[_,_,_,_,_]) hs rfl rfl ub fun w hs=>?_)
    refine .nil (.ai (.z (zfa aD) (.y hs (zld aO) (.z zm ?_))))
    refine .ixX (enc:=Rdg.c) hs r3 rfl rfl an aA hr cM ?_;intro b155 o155 hc155
    refine .q hs (bY (vs:=r.c) rfl cq aA hc155) ?_
    refine .o (.alloc hs dC rfl fun b16 w hs=>?_)
    refine .o (.aV (vs:=[_,_,_,_,_,_,_]) hs rfl rfl aA fun w hs=>?_)
    refine .nil (.ai (.y hs (zls [_,_,_,_,_,_] aQ aH) (.z (zfa eN) (.y hs (zld ae) (.z (zfa eM) (.y hs (zld ae) ?_))))))
    refine .o (.call iH rfl (dn (s:=s) hs r2 aj aj aj) ?_);rintro _ w ⟨rfl,hs⟩
    rw [hu1]
    refine .z zg (.nil ?_)
    refine .seq (.draw mix rfl hs fun w hs=>?_)
    refine .ys 0 rfl hs [_,_,_,_,_,_] aQ aH ?_;refine .z 3 rfl (zfa aD) ?_;refine .y 4 rfl hs aO ?_;refine .z 6 rfl (zfa eh) ?_;refine .y 7 rfl hs ae ?_;refine .z 8 rfl (zfa eg) ?_;refine .y 9 rfl hs ae ?_;refine .z 10 rfl (zbd [_,_] fQ) ?_
    refine .E 1 hs ?_
    refine .call CR rfl (eJ (s:=s) hs r1 r2 ⟨aj,aj⟩) ?_;rintro _ w ⟨rfl,hs⟩
    refine .go ?_
    refine .z 2 rfl cA ?_
    refine .E 5 hs ?_
    refine .call CS rfl (gj (rs:=R) hs r3 aj) ?_;rintro v168 w ⟨Hw,hlew,hT,hs⟩
    refine .go ?_
    refine .E 11 hs ?_
    refine .call Tryz.call93 rfl (jI (t:=r.td) hs hT (by rw [hRt];omega)) ?_;rintro _ w ⟨rfl,hs⟩
    rw [q1]
    refine .go ?_
    refine .z 12 rfl cA ?_;refine .z 13 rfl zg ?_;refine .D hs ?_
    refine .seq (.draw mix rfl hs fun w hs=>?_)
    refine .z 0 rfl (zia 4 gS af) ?_
    refine .y 1 rfl hs ae ?_;refine .z 2 rfl Eg ?_;refine .z 3 rfl (zfa cz) ?_;refine .y 4 rfl hs ae ?_;refine .z 5 rfl jV ?_;refine .z 6 rfl cA ?_;refine .z 8 rfl (zfa cz) ?_;refine .y 9 rfl hs ae ?_
    refine .E 7 hs ?_
    refine .call dv rfl (bT hs aj) ?_;rintro _ w ⟨k183,g183,rfl,hs⟩
    refine .go ?_
    refine .z 10 rfl ir ?_;refine .z 11 rfl zg ?_;refine .D hs ?_
    refine .draw mix rfl hs fun w hs=>?_
    refine .z 0 rfl (zfa aD) ?_;refine .y 1 rfl hs aO ?_;refine .z 2 rfl zm ?_;refine .z 3 rfl zm ?_;refine .z 4 rfl zm ?_
    have hs:=back hlew hs
    refine .ixX (enc:=fun x=>[I x]) (i:=5) hs rfl aq .none hX rfl rfl aa af (bu (l:=x) (i:=u) aj) rfl ?_;intro b192 o192 hc192;replace hc192:=bH.one hc192
    refine .r (i:=6) hs rfl aq .none (aK rfl ae hc192) ?_
    refine .z 7 rfl zm ?_;refine .z 8 rfl zm ?_
    refine .ixX (enc:=fun x=>[I x]) (i:=9) hs rfl aq .none hX rfl rfl aa af (bu (l:=x) (i:=s.many+1+q) aj) (by push_cast;rfl) ?_;intro b196 o196 hc196;replace hc196:=bH.one hc196
    refine .r (i:=10) hs rfl aq .none (aK rfl ae hc196) ?_
    refine .z 11 rfl ir ?_;refine .z 12 rfl zm ?_;refine .z 13 rfl cA ?_
    first|(refine .ixw 14 rfl hs an aA ?_;intro b201 o201 hc201)|refine .z 14 rfl (lA an aA) ?_
    refine .z 15 rfl (zfa cU) ?_
    refine .E 16 hs ?_
    refine .store (c':=(rdc (R.set k {r with val:=gi x u - gi x (s.many+1+q)+((k183:Int) - r.tol)})).flatten++sp) hs rfl rfl af ?_ cJ (Nat.ble_eq_true_of_le (by rw [List.length_append,bq _ (eK _),bU];omega)) (xy hr sp _);intro w hs
    refine .go ?_
    refine .D hs ?_
    refine nB (nT ?_)
    refine .region (.z zm (.z cA (.z zg (.nil ?_))))
    refine nT ?_
    exact ⟨(k+1,R.set k {r with val:=gi x u - gi x (s.many+1+q)+((k183:Int) - r.tol)}),.bX rfl bQ aU,⟨by dsimp only;omega,by dsimp only;rw [List.length_set];exact hRl,by dsimp only;rw [wq hr];exact hRt,fun y hy=>by
      rcases List.mem_or_eq_of_mem_set hy with h|h
      ·exact hRs y h
      ·subst h;exact ⟨hrst,hrwa,hrtol⟩,fun j hj y hy=>by
      dsimp only at hj hy
      by_cases e:j=k
      ·subst e
       rw [List.getElem?_set_self aj] at hy
       obtain rfl:=Option.some.inj hy
       have q1':iN (bj rs) r.td=q:=by rw [←hRt];exact q1
       unfold Bh
       show gi x (1+r.st*s.wa.length+r.wa).toNat - gi x (s.many+1+iN (bj rs) r.td).toNat - r.tol≤_∧_≤gi x (1+r.st*s.wa.length+r.wa).toNat - gi x (s.many+1+iN (bj rs) r.td).toNat+r.tol
       rw [hu1,q1',show ((s.many:Int)+1+(q:Int)).toNat=s.many+1+q by omega,Int.toNat_natCast]
       dsimp only
       omega
      ·rw [List.getElem?_set_ne aj] at hy
       exact hRv j aj y hy,_,Ca hO3 _,hs.sb⟩,by dsimp only;omega⟩
   ·refine .exit ?_
    refine xT (xT (xB (nT ?_)))
    refine .ai (.y hs (zls [_,_,_,_,_,_,_,_] aF az) (.z zm ?_))
    obtain rfl:k=rs.length:=by omega
    obtain ⟨Hx,hlex,r1,r2,r3,r4,hs2,back⟩:=wc.ux (s:=⟨s,R,cs⟩) ⟨hO1,hO2,hO3,hO4⟩ (by show s.st.length≤_;omega) (by show s.wa.length≤_;omega) (by show R.length≤_;omega) (by show cs.length≤_;omega) hs
    refine .o (.call Tryz.call144 rfl (pw (s:=⟨s,R,cs⟩) (x:=x) hs2 r1 r2 r3 ⟨_,_,_,rfl⟩ (hX.mono hlex) (by rw [rn];show _=s.many+(bj R).length+1;rw [hRt];exact hxl) ⟨by show s.st.length≤_;omega,by show s.wa.length≤_;omega,by show R.length≤_;omega⟩) ?_);rintro _ w ⟨Hy,vr',vy,er,ey,hley,rfl,hOr,hOy,hs3⟩
    have hs:=back hley hs3
    clear hs2 hs3 back r1 r2 r3 r4
    have hkl:=s9 s R
    obtain ⟨arr,crr,rfl⟩:=hOr.ek (eK _) aj
    obtain ⟨ayy,lyy,cyy,rfl,-⟩:=hOy.shape
    refine .z zex (.z zex ?_)
    refine .o (.aV (vs:=[_,_,_,_,_,_,_,_]) hs rfl rfl az fun w hs=>?_)
    refine .z zg (.nil ?_)
    refine .ret ?_
    exact Fin.gO [] [] hs fun w hs=>⟨_,results2 Tryz.results60 (dA (vs:=[_,_,_,_,_,_,_,_]) hs rfl aF az) rfl,Hz,⟨s,gV s R,cs⟩,_,_,_,_,_,_,e1,e2,er,e4,ey,hlez,rfl,
     ⟨hSt,hWa,by show (gV s R).length≤14;omega,hc5,vg hSp.ok hSt hWa aj hc5 (fun r h=>(wP h).2) hcok⟩,⟨hO1,hO2,hOr,hO4⟩,hOy,zu hfe hx0 hxl hRt hRs (fun r hr=>by
      obtain ⟨j,hj⟩:=List.getElem?_of_mem hr
      have:=(List.getElem?_eq_some_iff.1 hj).1
      exact hRv j aj r hj),hs.sb⟩
structure Spl(s:Srv):Prop where
 st:2≤s.sp.st.length∧s.sp.st.length≤4
 wa:2≤s.sp.wa.length∧s.sp.wa.length≤3
 rs:s.rs.length≤15
 cs:s.cs.length≤5
theorem yv{b n cap k:Nat}{xs:List Int}{sp:List Value}(h:cn 1 (.slice (some ⟨b,0,none⟩) n cap) (Is xs) (.blk b (Is xs++sp)))(x:Int):
  cn 1 (.slice (some ⟨b,0,none⟩) n cap) (Is (xs.set k x)) (.blk b (Is (xs.set k x)++sp)):=by
 rcases h with ⟨a,_,_,h3⟩|⟨b',len,cap',sp',h1,h2,h3,h4,h5⟩
 ·cases h3
 ·simp only [Value.slice.injEq] at h1
  obtain ⟨-,rfl,rfl⟩:=h1
  simp only [Ent.blk.injEq] at h2
  rw [←h2.2] at h4
  exact .inr ⟨b,n,cap,sp,rfl,rfl,by simpa [Is] using h3,by simpa [Is] using h4,h5⟩
theorem jX{l:List Rdg}{k j:Nat}{r r':Rdg}(h:l[k]? =some r)(hj:j<7){v:Value}(hc:r.c.set j v=r'.c)(sp:List Value):((rdc l).flatten++sp).set (k*7+j) v=(rdc (l.set k r')).flatten++sp:=by
 have hk:=(List.getElem?_eq_some_iff.1 h).1
 rw [List.set_append_left _ _ (by rw [bq _ (eK _),bU];omega),sh (rdc l) k j v (eK l) (by rw [bU];exact hk) hj r.c (qE h),hc]
 unfold rdc
 rw [List.map_set]
theorem jY{b n cap k:Nat}{R:List Rdg}{r':Rdg}{sp:List Value}(h:cn 7 (.slice (some ⟨b,0,none⟩) n cap) (rdc R).flatten (.blk b ((rdc R).flatten++sp))):
  cn 7 (.slice (some ⟨b,0,none⟩) n cap) (rdc (R.set k r')).flatten (.blk b ((rdc (R.set k r')).flatten++sp)):=by
 have hl:(rdc (R.set k r')).flatten.length=(rdc R).flatten.length:=by
  rw [bq _ (eK _),bq _ (eK _),bU,bU,List.length_set]
 rcases h with ⟨a,_,_,h3⟩|⟨b',len,cap',sp',h1,h2,h3,h4,h5⟩
 ·cases h3
 ·simp only [Value.slice.injEq] at h1
  obtain ⟨-,rfl,rfl⟩:=h1
  simp only [Ent.blk.injEq] at h2
  rw [←h2.2] at h4
  exact .inr ⟨b,n,cap,sp,rfl,rfl,by rw [hl];exact h3,by rw [List.length_append,hl,←List.length_append];exact h4,h5⟩
theorem pY{l:List Cmp}{k j:Nat}{r r':Cmp}(h:l[k]? =some r)(hj:j<6){v:Value}(hc:r.c.set j v=r'.c)(sp:List Value):((cmc l).flatten++sp).set (k*6+j) v=(cmc (l.set k r')).flatten++sp:=by
 have hk:=(List.getElem?_eq_some_iff.1 h).1
 rw [List.set_append_left _ _ (by rw [bq _ (gP _),cV];omega),sh (cmc l) k j v (gP l) (by rw [cV];exact hk) hj r.c (xV h),hc]
 unfold cmc
 rw [List.map_set]
theorem pG{b n cap k:Nat}{R:List Cmp}{r':Cmp}{sp:List Value}(h:cn 6 (.slice (some ⟨b,0,none⟩) n cap) (cmc R).flatten (.blk b ((cmc R).flatten++sp))):
  cn 6 (.slice (some ⟨b,0,none⟩) n cap) (cmc (R.set k r')).flatten (.blk b ((cmc (R.set k r')).flatten++sp)):=by
 have hl:(cmc (R.set k r')).flatten.length=(cmc R).flatten.length:=by
  rw [bq _ (gP _),bq _ (gP _),cV,cV,List.length_set]
 rcases h with ⟨a,_,_,h3⟩|⟨b',len,cap',sp',h1,h2,h3,h4,h5⟩
 ·cases h3
 ·simp only [Value.slice.injEq] at h1
  obtain ⟨-,rfl,rfl⟩:=h1
  simp only [Ent.blk.injEq] at h2
  rw [←h2.2] at h4
  exact .inr ⟨b,n,cap,sp,rfl,rfl,by rw [hl];exact h3,by rw [List.length_append,hl,←List.length_append];exact h4,h5⟩
set_option maxHeartbeats 2000000 in
theorem qC{vs v5 v4 vp:Value}{sl pk:List Int}{fs5:List F5}{fs4:List F4}{z1 z2 z3:Int}(hs:St H w σ)(g1:RI H vs sl)(g2:RF5 H v5 fs5)(g3:RF4 H v4 fs4)(g4:RI H vp pk):
  Cl Tryz.prog 23 [.agg #[vs,v5,v4,vp,I z1,I z2,I z3]] w fun u w'=>∃H1 s vst vwa vr vc,HLe H H1∧u= .agg #[I s.sp.id,I s.sp.src,vst,vwa,I s.sp.al,I s.sp.up,vr,vc]∧RI H1 vst s.sp.st∧RI H1 vwa s.sp.wa∧RRd H1 vr s.rs∧RCm H1 vc s.cs∧Spl s∧St H1 w' σ:=by
 obtain ⟨avs,cvs,rfl⟩:=RI.shape g1
 obtain ⟨av5,cv5,rfl⟩:=g2.shape
 obtain ⟨av4,cv4,rfl⟩:=g3.shape
 obtain ⟨avp,cvp,rfl⟩:=RI.shape g4
 refine Cl.o Tryz.func23 Tryz.ntmps23 ag1 ?_
 refine .ai ?_
 refine .bx hs fun b1 w hs=>?_
 refine .o (.alloc hs bZ rfl fun b2 w hs=>?_)
 refine .nil (.ai (.y hs (zls [_,_,_,_,_,_,_] Tryz.isAgg27 Tryz.sizeOf27) ?_))
 refine .o (.call Tryz.call60 rfl (tM hs g1 g2 g3 g4) ?_);rintro _ w ⟨H1,s,y,vst,vwa,vr,vc,vy,e1,e2,e3,e4,e5,hle1,rfl,hM,⟨hO1,hO2,hO3,hO4⟩,hOy,-,hs⟩
 have hst2:=hM.ok.early.1.st.two
 have hwa2:=hM.ok.early.1.wa.two
 have hst4:=hM.st
 have hwa3:=hM.wa
 have hrs:=hM.rs
 have hcs:=hM.cs
 obtain ⟨bS,cS,spS,rfl,rfl,hcapS⟩:=hO1.some aj
 obtain ⟨bW,cW,spW,rfl,rfl,hcapW⟩:=hO2.some aj
 obtain ⟨ar,cr,rfl⟩:=hO3.ek (eK _) aj
 obtain ⟨ac,cc,rfl⟩:=hO4.ek (gP _) aj
 rw [bU] at hO3 ⊢
 rw [cV] at hO4 ⊢
 obtain ⟨ay,ly,cy,rfl,-⟩:=hOy.shape
 refine .z zm (.z zex (.z zex ?_))
 refine .o (.alloc hs bZ rfl fun b3 w hs=>?_)
 refine .o (.aV (vs:=[_,_,_,_,_,_,_,_]) hs rfl rfl az fun w hs=>?_)
 refine .z zg (.nil (.ai (.z (zfa mY) (.y hs (zls [_,_,_] Tryz.isAgg25 Tryz.sizeOf25) ?_))))
 refine .o (.alloc hs Tryz.zeroValue25 rfl fun b5 w hs=>?_)
 refine .o (.aV (vs:=[_,_,_]) hs rfl rfl Tryz.sizeOf25 fun w hs=>?_)
 refine .nil (.ai ?_)
 refine .z (zia 0 aT af) ?_
 refine .y hs (zld ae) ?_
 refine .o (.call dv rfl (bT hs aj) ?_);rintro _ w ⟨k,gk,rfl,hs⟩
 refine .z zg (.nil ?_)
 refine .cut (fun fs w=>∃(sp':Spc) (f1 f2:Ent),jU fs ⟨225,[],[(6,I (k:Int)),(5,.pointer (some ⟨b5,0,none⟩)),(3,.pointer (some ⟨b3,0,none⟩)),(2,.pointer (some ⟨b2,0,none⟩)),(1,.pointer (some ⟨b1,0,none⟩))]⟩∧sp'.st.length=s.sp.st.length∧sp'.wa.length=s.sp.wa.length∧cn 1 (.slice (some ⟨bS,0,none⟩) s.sp.st.length cS) (Is sp'.st) f1∧cn 1 (.slice (some ⟨bW,0,none⟩) s.sp.wa.length cW) (Is sp'.wa) f2∧St H1 w (f1::f2::e3::e4:: .blk b5 [I z1,I z2,I z3]:: .blk b3 [I sp'.id,I sp'.src,.slice (some ⟨bS,0,none⟩) s.sp.st.length cS,.slice (some ⟨bW,0,none⟩) s.sp.wa.length cW,I sp'.al,I sp'.up,.slice ar s.rs.length cr,.slice ac s.cs.length cc]:: .blk b2 [I 0,I 0,.slice none 0 0,.slice none 0 0,I 0,I 0,.slice none 0 0,.slice none 0 0]::σ)) ?_ ?_
 ·refine .ai (.z zm (.nil (.block (.ai (.z fL (.z zg (.nil ?_)))))))
  refine (.bJ rfl (fun hc21=>?_) (fun hc21=>?_))
  ·refine .region ?_
   refine .z (zia 2 aT af) ?_
   refine .y hs (zld ae) (.z (zfa aN) (.z (zfa gY) ?_))
   refine .o (.store hs rfl rfl af fun w hs=>?_)
   refine .nil ?_
   refine nB (nT ?_)
   exact ⟨{s.sp with id:=z3},_,_,aU,rfl,rfl,hO1,hO2,hs.sb⟩
  ·refine .ai (.z fL (.z zg (.nil ?_)))
   refine (.bJ rfl (fun hc27=>?_) (fun hc27=>?_))
   ·refine .region ?_
    refine .z (zia 2 aT af) ?_
    refine .y hs (zld ae) (.z (zfa aN) (.z (zfa df) ?_))
    refine .o (.store hs rfl rfl af fun w hs=>?_)
    refine .nil ?_
    refine nB (nT ?_)
    exact ⟨{s.sp with src:=z3},_,_,aU,rfl,rfl,hO1,hO2,hs.sb⟩
   ·refine .ai (.z fL (.z zg (.nil ?_)))
    refine (.bJ rfl (fun hc33=>?_) (fun hc33=>?_))
    ·refine .draw mix rfl hs fun w hs=>?_
     refine .z 0 rfl (zfa aN) ?_;refine .z 1 rfl (zfa bn) ?_;refine .y 2 rfl hs ak ?_
     refine .z 3 rfl (zia 1 aT af) ?_
     refine .y 4 rfl hs ae ?_;refine .z 5 rfl (zfa aN) ?_;refine .z 6 rfl (zfa bn) ?_;refine .y 7 rfl hs ak ?_;refine .z 8 rfl (cH aa) ?_
     refine .z 10 rfl (zia 2 aT af) ?_
     refine .y 11 rfl hs ae ?_
     refine .E 9 hs ?_
     refine .call dv rfl (bT hs aj) ?_;rintro _ w ⟨k44,g44,rfl,hs⟩
     refine .go ?_
     first|(refine .ixv 12 rfl hs aa af ?_;intro b47 o47 hc47)|refine .z 12 rfl (zix aa af) ?_
     refine .E 13 hs ?_
     refine .store (c':=Is (s.sp.st.set k44 z3)++spS) hs rfl rfl af ?_ cJ (ki aj spS) (ib aj spS _);intro w hs
     refine .go ?_
     refine .D hs ?_
     refine nB (nT ?_)
     exact ⟨{s.sp with st:=s.sp.st.set k44 z3},_,_,aU,bQ,rfl,yv hO1 _,hO2,hs.sb⟩
    ·refine .ai (.z fL (.z zg (.nil ?_)))
     refine (.bJ rfl (fun hc48=>?_) (fun hc48=>?_))
     ·refine .draw mix rfl hs fun w hs=>?_
      refine .z 0 rfl (zfa aN) ?_;refine .z 1 rfl (zfa aW) ?_;refine .y 2 rfl hs ak ?_
      refine .z 3 rfl (zia 1 aT af) ?_
      refine .y 4 rfl hs ae ?_;refine .z 5 rfl (zfa aN) ?_;refine .z 6 rfl (zfa aW) ?_;refine .y 7 rfl hs ak ?_;refine .z 8 rfl (cH aa) ?_
      refine .z 10 rfl (zia 2 aT af) ?_
      refine .y 11 rfl hs ae ?_
      refine .E 9 hs ?_
      refine .call dv rfl (bT hs aj) ?_;rintro _ w ⟨k59,g59,rfl,hs⟩
      refine .go ?_
      first|(refine .ixv 12 rfl hs aa af ?_;intro b62 o62 hc62)|refine .z 12 rfl (zix aa af) ?_
      refine .E 13 hs ?_
      refine .store (c':=Is (s.sp.wa.set k59 z3)++spW) hs rfl rfl af ?_ cJ (ki aj spW) (ib aj spW _);intro w hs
      refine .go ?_
      refine .D hs ?_
      refine nB (nT ?_)
      exact ⟨{s.sp with wa:=s.sp.wa.set k59 z3},_,_,aU,rfl,bQ,hO1,yv hO2 _,hs.sb⟩
     ·refine .ai (.z fL (.z zg (.nil ?_)))
      refine (.bJ rfl (fun hc63=>?_) (fun hc63=>?_))
      ·refine .region ?_
       refine .z (zia 2 aT af) ?_
       refine .y hs (zld ae) (.z (zfa aN) (.z (zfa dF) (.z (zfa iZ) ?_)))
       refine .o (.store hs rfl rfl af fun w hs=>?_)
       refine .nil ?_
       refine nB (nT ?_)
       exact ⟨{s.sp with al:=z3},_,_,aU,rfl,rfl,hO1,hO2,hs.sb⟩
      ·refine .ai (.z fL (.z zg (.nil ?_)))
       refine (.bJ rfl (fun hc70=>?_) (fun hc70=>?_))
       ·refine .region ?_
        refine .z (zia 2 aT af) ?_
        refine .y hs (zld ae) (.z (zfa aN) (.z (zfa dF) (.z (zfa iY) ?_)))
        refine .o (.store hs rfl rfl af fun w hs=>?_)
        refine .nil ?_
        refine nB (nT ?_)
        exact ⟨{s.sp with up:=z3},_,_,aU,rfl,rfl,hO1,hO2,hs.sb⟩
       ·refine .skip ?_
        refine nB (nT ?_)
        exact ⟨s.sp,_,_,aU,rfl,rfl,hO1,hO2,hs.sb⟩
 ·clear hs hO1 hO2
  rintro fs w ⟨sp',f1,f2,hfs,hl1,hl2,hO1,hO2,hs⟩
  refine WE.sub ?_ hfs
  clear hfs
  refine .cut (fun fs w=>∃(R:List Rdg) (f3:Ent) (ar':Option Addr) (cr':Nat),jU fs ⟨225,[],[(6,I (k:Int)),(5,.pointer (some ⟨b5,0,none⟩)),(3,.pointer (some ⟨b3,0,none⟩)),(2,.pointer (some ⟨b2,0,none⟩))]⟩∧R.length≤15∧cn 7 (.slice ar' R.length cr') (rdc R).flatten f3∧St H1 w (f1::f2::f3::e4:: .blk b5 [I z1,I z2,I z3]:: .blk b3 [I sp'.id,I sp'.src,.slice (some ⟨bS,0,none⟩) s.sp.st.length cS,.slice (some ⟨bW,0,none⟩) s.sp.wa.length cW,I sp'.al,I sp'.up,.slice ar' R.length cr',.slice ac s.cs.length cc]:: .blk b2 [I 0,I 0,.slice none 0 0,.slice none 0 0,I 0,I 0,.slice none 0 0,.slice none 0 0]::σ)) ?_ ?_
  ·refine .ai (.z (zfa aD) (.y hs (zld aO) (.z (cH an) (.z kT (.nil ?_)))))
   refine (.bJ rfl (fun hc80=>?_) (fun hc80=>?_))
   ·refine .ai ?_
    refine .z (zia 1 aT af) ?_
    refine .y hs (zld ae) (.z (zfa aD) (.y hs (zld aO) (.z (cH an) ?_)))
    obtain ⟨bR,cR,spR,hv,rfl,hcapR⟩:=hO3.Bt (eK _) aj (by rw [bU];omega)
    simp only [Value.slice.injEq] at hv
    obtain ⟨rfl,hv2,rfl⟩:=hv
    refine .o (.call dv rfl (bT hs aj) ?_);rintro _ w ⟨i,gi_,rfl,hs⟩
    obtain ⟨r,hr⟩:=nth (l:=s.rs) (k:=i) aj
    have hbR:∀j<7,Nat.blt (i*7+j) ((rdc s.rs).flatten++spR).length=true:=fun j hj=>Nat.ble_eq_true_of_le (by rw [List.length_append,bq _ (eK _),bU];omega)
    refine .z zg (.nil (.ai (.z zm (.nil (.block (.seq (.ai (.z fL (.z zg ?_)))))))))
    refine .nil ?_
    refine (.bJ rfl (fun hc88=>?_) (fun hc88=>?_))
    ·refine .skip ?_
     refine nT ?_
     refine (.cT ?_)
     refine .region (.z (zfa aD) (.y hs (zld aO) (.z zm ?_)))
     refine .z (zia 2 aT af) ?_
     refine .y hs (zld ae) ?_
     first|(refine .ixw hs an aA ?_;intro b97 o97 hc97)|refine .z (lA an aA) ?_
     refine .z (zfa cU) ?_
     refine .o (.store (c':=(rdc (s.rs.set i {r with val:=z3})).flatten++spR) hs rfl rfl af ?_ cJ (hbR 3 aj) (jX hr aj rfl spR));intro w hs
     refine .nil ?_
     refine nB (nT ?_)
     exact ⟨s.rs.set i {r with val:=z3},_,some ⟨bR,0,none⟩,cr,aU,by rw [List.length_set];omega,by rw [List.length_set];exact jY hO3,by rw [List.length_set];exact hs.sb⟩
    ·refine .ai (.z fL (.z zg (.nil ?_)))
     refine (.bJ rfl (fun hc88=>?_) (fun hc88=>?_))
     ·refine .skip ?_
      refine nT ?_
      refine (.cT ?_)
      refine .region (.z (zfa aD) (.y hs (zld aO) (.z zm ?_)))
      refine .z (zia 2 aT af) ?_
      refine .y hs (zld ae) ?_
      first|(refine .ixw hs an aA ?_;intro b97 o97 hc97)|refine .z (lA an aA) ?_
      refine .z (zfa cU) ?_
      refine .o (.store (c':=(rdc (s.rs.set i {r with val:=z3})).flatten++spR) hs rfl rfl af ?_ cJ (hbR 3 aj) (jX hr aj rfl spR));intro w hs
      refine .nil ?_
      refine nB (nT ?_)
      exact ⟨s.rs.set i {r with val:=z3},_,some ⟨bR,0,none⟩,cr,aU,by rw [List.length_set];omega,by rw [List.length_set];exact jY hO3,by rw [List.length_set];exact hs.sb⟩
     ·refine .region (.z fL (.z zg (.nil ?_)))
      refine nT ?_
      refine (.bJ rfl (fun hc88=>?_) (fun hc88=>?_))
      ·refine .region (.z (zfa aD) (.y hs (zld aO) (.z zm ?_)))
       refine .z (zia 2 aT af) ?_
       refine .y hs (zld ae) ?_
       first|(refine .ixw hs an aA ?_;intro b97 o97 hc97)|refine .z (lA an aA) ?_
       refine .z (zfa cU) ?_
       refine .o (.store (c':=(rdc (s.rs.set i {r with val:=z3})).flatten++spR) hs rfl rfl af ?_ cJ (hbR 3 aj) (jX hr aj rfl spR));intro w hs
       refine .nil ?_
       refine nB (nT ?_)
       exact ⟨s.rs.set i {r with val:=z3},_,some ⟨bR,0,none⟩,cr,aU,by rw [List.length_set];omega,by rw [List.length_set];exact jY hO3,by rw [List.length_set];exact hs.sb⟩
      ·refine .ai (.z fL (.z zg (.nil ?_)))
       refine (.bJ rfl (fun hc99=>?_) (fun hc99=>?_))
       ·refine .region (.z (zfa aD) (.y hs (zld aO) (.z zm ?_)))
        refine .z (zia 2 aT af) ?_
        refine .y hs (zld ae) ?_
        first|(refine .ixw hs an aA ?_;intro b106 o106 hc106)|refine .z (lA an aA) ?_
        refine .z (zfa cz) ?_
        refine .o (.store (c':=(rdc (s.rs.set i {r with tol:=z3})).flatten++spR) hs rfl rfl af ?_ cJ (hbR 4 aj) (jX hr aj rfl spR));intro w hs
        refine .nil ?_
        refine nB (nT ?_)
        exact ⟨s.rs.set i {r with tol:=z3},_,some ⟨bR,0,none⟩,cr,aU,by rw [List.length_set];omega,by rw [List.length_set];exact jY hO3,by rw [List.length_set];exact hs.sb⟩
       ·refine .ai (.z fL (.z zg (.nil ?_)))
        refine (.bJ rfl (fun hc108=>?_) (fun hc108=>?_))
        ·refine .region (.z (zfa aD) (.y hs (zld aO) (.z zm ?_)))
         refine .z (zia 2 aT af) ?_
         refine .y hs (zld ae) ?_
         first|(refine .ixw hs an aA ?_;intro b115 o115 hc115)|refine .z (lA an aA) ?_
         refine .z (zfa eh) ?_
         refine .o (.store (c':=(rdc (s.rs.set i {r with tape:=z3})).flatten++spR) hs rfl rfl af ?_ cJ (hbR 5 aj) (jX hr aj rfl spR));intro w hs
         refine .nil ?_
         refine nB (nT ?_)
         exact ⟨s.rs.set i {r with tape:=z3},_,some ⟨bR,0,none⟩,cr,aU,by rw [List.length_set];omega,by rw [List.length_set];exact jY hO3,by rw [List.length_set];exact hs.sb⟩
        ·refine .ai (.z fL (.z zg (.nil ?_)))
         refine (.bJ rfl (fun hc117=>?_) (fun hc117=>?_))
         ·refine .region (.z (zfa aD) (.y hs (zld aO) (.z zm ?_)))
          refine .z (zia 2 aT af) ?_
          refine .y hs (zld ae) ?_
          first|(refine .ixw hs an aA ?_;intro b124 o124 hc124)|refine .z (lA an aA) ?_
          refine .z (zfa eg) ?_
          refine .o (.store (c':=(rdc (s.rs.set i {r with day:=z3})).flatten++spR) hs rfl rfl af ?_ cJ (hbR 6 aj) (jX hr aj rfl spR));intro w hs
          refine .nil ?_
          refine nB (nT ?_)
          exact ⟨s.rs.set i {r with day:=z3},_,some ⟨bR,0,none⟩,cr,aU,by rw [List.length_set];omega,by rw [List.length_set];exact jY hO3,by rw [List.length_set];exact hs.sb⟩
         ·refine .ai (.z fL (.z zg (.nil ?_)))
          refine (.bJ rfl (fun hc126=>?_) (fun hc126=>?_))
          ·refine .region (.z (zfa aD) (.y hs (zld aO) (.z zm ?_)))
           refine .z (zia 2 aT af) ?_
           refine .y hs (zld ae) ?_
           first|(refine .ixw hs an aA ?_;intro b133 o133 hc133)|refine .z (lA an aA) ?_
           refine .z (zfa eN) ?_
           refine .o (.store (c':=(rdc (s.rs.set i {r with st:=z3})).flatten++spR) hs rfl rfl af ?_ cJ (hbR 1 aj) (jX hr aj rfl spR));intro w hs
           refine .nil ?_
           refine nB (nT ?_)
           exact ⟨s.rs.set i {r with st:=z3},_,some ⟨bR,0,none⟩,cr,aU,by rw [List.length_set];omega,by rw [List.length_set];exact jY hO3,by rw [List.length_set];exact hs.sb⟩
          ·refine .ai (.z fL (.z zg (.nil ?_)))
           refine (.bJ rfl (fun hc135=>?_) (fun hc135=>?_))
           ·refine .region (.z (zfa aD) (.y hs (zld aO) (.z zm ?_)))
            refine .z (zia 2 aT af) ?_
            refine .y hs (zld ae) ?_
            first|(refine .ixw hs an aA ?_;intro b142 o142 hc142)|refine .z (lA an aA) ?_
            refine .z (zfa eM) ?_
            refine .o (.store (c':=(rdc (s.rs.set i {r with wa:=z3})).flatten++spR) hs rfl rfl af ?_ cJ (hbR 2 aj) (jX hr aj rfl spR));intro w hs
            refine .nil ?_
            refine nB (nT ?_)
            exact ⟨s.rs.set i {r with wa:=z3},_,some ⟨bR,0,none⟩,cr,aU,by rw [List.length_set];omega,by rw [List.length_set];exact jY hO3,by rw [List.length_set];exact hs.sb⟩
           ·refine .ai (.z fL (.z zg (.nil ?_)))
            refine (.bJ rfl (fun hc144=>?_) (fun hc144=>?_))
            ·refine .region (.z (zfa aD) (.y hs (zld aO) (.z zm ?_)))
             refine .z (zia 2 aT af) ?_
             refine .y hs (zld ae) ?_
             first|(refine .ixw hs an aA ?_;intro b151 o151 hc151)|refine .z (lA an aA) ?_
             refine .z (zfa dk) ?_
             refine .o (.store (c':=(rdc (s.rs.set i {r with src:=z3})).flatten++spR) hs rfl rfl af ?_ cJ (hbR 0 aj) (jX hr aj rfl spR));intro w hs
             refine .nil ?_
             refine nB (nT ?_)
             exact ⟨s.rs.set i {r with src:=z3},_,some ⟨bR,0,none⟩,cr,aU,by rw [List.length_set];omega,by rw [List.length_set];exact jY hO3,by rw [List.length_set];exact hs.sb⟩
            ·refine .seq (.ai (.z fL (.z zg (.nil ?_))))
             refine (.bJ rfl (fun hc153=>?_) (fun hc153=>?_))
             ·refine .skip ?_
              refine nT ?_
              refine (.cT ?_)
              refine .ai (.z (zfa aD) (.y hs (zld aO) (.z zm ?_)))
              first|(refine .ixw hs an aA ?_;intro b159 o159 hc159)|refine .z (lA an aA) ?_
              refine .y hs (zls r.c cq aA (hr:= .own (by repeat (first|exact .here|refine .there ?_)) (nW (eK _) (qE hr) spR))) ?_
              have hrOk:=hM.ok.early.2.2.2.1 r (List.mem_of_getElem? hr)
              have hrtol:=hrOk.tol
              refine .o (.alloc hs dC rfl fun b8 w hs=>?_)
              refine .o (.aV (vs:=[_,_,_,_,_,_,_]) hs rfl rfl aA fun w hs=>?_)
              refine .nil (.ai (.z (zfa dk) ?_))
              refine .o (.store hs rfl rfl af fun w hs=>?_)
              refine .nil (.ai ?_)
              refine .z (zia 2 aT af) ?_
              refine .y hs (zld ae) (.z (zfa cz) (.y hs (zld ae) (.z ir (.z cA ?_))))
              refine .o (.call dv rfl (bT hs aj) ?_);rintro _ w ⟨k168,g168,rfl,hs⟩
              refine .z (zfa cU) ?_
              refine .o (.store hs rfl rfl af fun w hs=>?_)
              refine .nil (.region (.z (zfa aD) (.y hs (zld aO) (.y hs (zls [_,_,_,_,_,_,_] cq aA) ?_))))
              refine .o (.buildSlice (cells:=Rdg.c ⟨50,r.st,r.wa,(k168:Int),r.tol,r.tape,r.day⟩) hs ee rfl aq fun b173 w hs=>?_)
              refine .o (.append (ys:=Rdg.c ⟨50,r.st,r.wa,(k168:Int),r.tol,r.tape,r.day⟩) hs bA rfl rfl hO3 (.own .here rfl rfl) (by simp [Rdg.c,Value.oneCell']) (fun l' h=>by rw [bq _ (eK _),bU] at h;omega) ?_);intro v174 en174 w hO5 hs
              rw [←np] at hO5
              obtain ⟨a174,c174,rfl⟩:=hO5.ek (eK _) aj
              rw [bU] at hO5 ⊢
              refine .z (zfa aD) ?_
              refine .o (.store hs rfl rfl fT fun w hs=>?_)
              refine .nil ?_
              refine nB (nT ?_)
              exact ⟨s.rs++[⟨50,r.st,r.wa,(k168:Int),r.tol,r.tape,r.day⟩],_,a174,c174,aU,by simp;omega,hO5,hs.sb⟩
             ·refine .region (.z fL (.z zg (.nil ?_)))
              refine nT ?_
              refine (.bJ rfl (fun hc153=>?_) (fun hc153=>?_))
              ·refine .ai (.z (zfa aD) (.y hs (zld aO) (.z zm ?_)))
               first|(refine .ixw hs an aA ?_;intro b159 o159 hc159)|refine .z (lA an aA) ?_
               refine .y hs (zls r.c cq aA (hr:= .own (by repeat (first|exact .here|refine .there ?_)) (nW (eK _) (qE hr) spR))) ?_
               have hrOk:=hM.ok.early.2.2.2.1 r (List.mem_of_getElem? hr)
               have hrtol:=hrOk.tol
               refine .o (.alloc hs dC rfl fun b8 w hs=>?_)
               refine .o (.aV (vs:=[_,_,_,_,_,_,_]) hs rfl rfl aA fun w hs=>?_)
               refine .nil (.ai (.z (zfa dk) ?_))
               refine .o (.store hs rfl rfl af fun w hs=>?_)
               refine .nil (.ai ?_)
               refine .z (zia 2 aT af) ?_
               refine .y hs (zld ae) (.z (zfa cz) (.y hs (zld ae) (.z ir (.z cA ?_))))
               refine .o (.call dv rfl (bT hs aj) ?_);rintro _ w ⟨k168,g168,rfl,hs⟩
               refine .z (zfa cU) ?_
               refine .o (.store hs rfl rfl af fun w hs=>?_)
               refine .nil (.region (.z (zfa aD) (.y hs (zld aO) (.y hs (zls [_,_,_,_,_,_,_] cq aA) ?_))))
               refine .o (.buildSlice (cells:=Rdg.c ⟨50,r.st,r.wa,(k168:Int),r.tol,r.tape,r.day⟩) hs ee rfl aq fun b173 w hs=>?_)
               refine .o (.append (ys:=Rdg.c ⟨50,r.st,r.wa,(k168:Int),r.tol,r.tape,r.day⟩) hs bA rfl rfl hO3 (.own .here rfl rfl) (by simp [Rdg.c,Value.oneCell']) (fun l' h=>by rw [bq _ (eK _),bU] at h;omega) ?_);intro v174 en174 w hO5 hs
               rw [←np] at hO5
               obtain ⟨a174,c174,rfl⟩:=hO5.ek (eK _) aj
               rw [bU] at hO5 ⊢
               refine .z (zfa aD) ?_
               refine .o (.store hs rfl rfl fT fun w hs=>?_)
               refine .nil ?_
               refine nB (nT ?_)
               exact ⟨s.rs++[⟨50,r.st,r.wa,(k168:Int),r.tol,r.tape,r.day⟩],_,a174,c174,aU,by simp;omega,hO5,hs.sb⟩
              ·refine .skip ?_
               refine nB (nT ?_)
               exact ⟨s.rs,_,some ⟨bR,0,none⟩,cr,aU,aj,hO3,hs.sb⟩
   ·refine .skip ?_
    refine nT ?_
    exact ⟨s.rs,_,ar,cr,aU,aj,hO3,hs.sb⟩
  ·clear hs hO3
   rintro fs w ⟨R,f3,ar',cr',hfs,hRl,hO3,hs⟩
   refine WE.sub ?_ hfs
   clear hfs
   refine .cut (fun fs w=>∃(C:List Cmp) (f4:Ent) (ac':Option Addr) (cc':Nat),jU fs ⟨225,[],[(3,.pointer (some ⟨b3,0,none⟩)),(2,.pointer (some ⟨b2,0,none⟩))]⟩∧C.length≤5∧cn 6 (.slice ac' C.length cc') (cmc C).flatten f4∧St H1 w (f1::f2::f3::f4:: .blk b3 [I sp'.id,I sp'.src,.slice (some ⟨bS,0,none⟩) s.sp.st.length cS,.slice (some ⟨bW,0,none⟩) s.sp.wa.length cW,I sp'.al,I sp'.up,.slice ar' R.length cr',.slice ac' C.length cc']:: .blk b2 [I 0,I 0,.slice none 0 0,.slice none 0 0,I 0,I 0,.slice none 0 0,.slice none 0 0]::σ)) ?_ ?_
   ·refine .ai (.z (zfa aR) (.y hs (zld bI) (.z (cH aC) (.z kT (.nil ?_)))))
    refine (.bJ rfl (fun hc179=>?_) (fun hc179=>?_))
    ·refine .ai ?_
     refine .z (zia 1 aT af) ?_
     refine .y hs (zld ae) (.z (zfa aR) (.y hs (zld bI) (.z (cH aC) ?_)))
     obtain ⟨bC,cC,spC,hv,rfl,hcapC⟩:=hO4.Bt (gP _) aj (by rw [cV];omega)
     simp only [Value.slice.injEq] at hv
     obtain ⟨rfl,hv2,rfl⟩:=hv
     refine .o (.call dv rfl (bT hs aj) ?_);rintro _ w ⟨i,gi_,rfl,hs⟩
     obtain ⟨c,hc⟩:=nth (l:=s.cs) (k:=i) aj
     have hbC:∀j<6,Nat.blt (i*6+j) ((cmc s.cs).flatten++spC).length=true:=fun j hj=>Nat.ble_eq_true_of_le (by rw [List.length_append,bq _ (gP _),cV];omega)
     refine .z zg (.nil (.ai (.z zm (.nil (.block (.seq (.ai (.z fL (.z zg ?_)))))))))
     refine .nil ?_
     refine (.bJ rfl (fun hc187=>?_) (fun hc187=>?_))
     ·refine .skip ?_
      refine nT ?_
      refine (.cT ?_)
      refine .region (.z (zfa aR) (.y hs (zld bI) (.z zm ?_)))
      refine .z (zia 2 aT af) ?_
      refine .y hs (zld ae) ?_
      first|(refine .ixw hs aC aP ?_;intro b195 o195 hc195)|refine .z (lA aC aP) ?_
      refine .z (zfa eP) ?_
      refine .o (.store (c':=(cmc (s.cs.set i {c with lo:=z3})).flatten++spC) hs rfl rfl af ?_ cJ (hbC 4 aj) (pY hc aj rfl spC));intro w hs
      refine .nil ?_
      refine nB (nT ?_)
      exact ⟨s.cs.set i {c with lo:=z3},_,some ⟨bC,0,none⟩,cc,aU,by rw [List.length_set];omega,by rw [List.length_set];exact pG hO4,by rw [List.length_set];exact hs.sb⟩
     ·refine .region (.z fL (.z zg (.nil ?_)))
      refine nT ?_
      refine (.bJ rfl (fun hc187=>?_) (fun hc187=>?_))
      ·refine .region (.z (zfa aR) (.y hs (zld bI) (.z zm ?_)))
       refine .z (zia 2 aT af) ?_
       refine .y hs (zld ae) ?_
       first|(refine .ixw hs aC aP ?_;intro b195 o195 hc195)|refine .z (lA aC aP) ?_
       refine .z (zfa eP) ?_
       refine .o (.store (c':=(cmc (s.cs.set i {c with lo:=z3})).flatten++spC) hs rfl rfl af ?_ cJ (hbC 4 aj) (pY hc aj rfl spC));intro w hs
       refine .nil ?_
       refine nB (nT ?_)
       exact ⟨s.cs.set i {c with lo:=z3},_,some ⟨bC,0,none⟩,cc,aU,by rw [List.length_set];omega,by rw [List.length_set];exact pG hO4,by rw [List.length_set];exact hs.sb⟩
      ·refine .ai (.z fL (.z zg (.nil ?_)))
       refine (.bJ rfl (fun hc197=>?_) (fun hc197=>?_))
       ·refine .region (.z (zfa aR) (.y hs (zld bI) (.z zm ?_)))
        refine .z (zia 2 aT af) ?_
        refine .y hs (zld ae) ?_
        first|(refine .ixw hs aC aP ?_;intro b204 o204 hc204)|refine .z (lA aC aP) ?_
        refine .z (zfa eO) ?_
        refine .o (.store (c':=(cmc (s.cs.set i {c with hi:=z3})).flatten++spC) hs rfl rfl af ?_ cJ (hbC 5 aj) (pY hc aj rfl spC));intro w hs
        refine .nil ?_
        refine nB (nT ?_)
        exact ⟨s.cs.set i {c with hi:=z3},_,some ⟨bC,0,none⟩,cc,aU,by rw [List.length_set];omega,by rw [List.length_set];exact pG hO4,by rw [List.length_set];exact hs.sb⟩
       ·refine .ai (.z fL (.z zg (.nil ?_)))
        refine (.bJ rfl (fun hc206=>?_) (fun hc206=>?_))
        ·refine .region (.z (zfa aR) (.y hs (zld bI) (.z zm ?_)))
         refine .z (zia 2 aT af) ?_
         refine .y hs (zld ae) ?_
         first|(refine .ixw hs aC aP ?_;intro b213 o213 hc213)|refine .z (lA aC aP) ?_
         refine .z (zfa fk) ?_
         refine .o (.store (c':=(cmc (s.cs.set i {c with fr:=z3})).flatten++spC) hs rfl rfl af ?_ cJ (hbC 2 aj) (pY hc aj rfl spC));intro w hs
         refine .nil ?_
         refine nB (nT ?_)
         exact ⟨s.cs.set i {c with fr:=z3},_,some ⟨bC,0,none⟩,cc,aU,by rw [List.length_set];omega,by rw [List.length_set];exact pG hO4,by rw [List.length_set];exact hs.sb⟩
        ·refine .ai (.z fL (.z zg (.nil ?_)))
         refine (.bJ rfl (fun hc215=>?_) (fun hc215=>?_))
         ·refine .region (.z (zfa aR) (.y hs (zld bI) (.z zm ?_)))
          refine .z (zia 2 aT af) ?_
          refine .y hs (zld ae) ?_
          first|(refine .ixw hs aC aP ?_;intro b222 o222 hc222)|refine .z (lA aC aP) ?_
          refine .z (zfa eQ) ?_
          refine .o (.store (c':=(cmc (s.cs.set i {c with to:=z3})).flatten++spC) hs rfl rfl af ?_ cJ (hbC 3 aj) (pY hc aj rfl spC));intro w hs
          refine .nil ?_
          refine nB (nT ?_)
          exact ⟨s.cs.set i {c with to:=z3},_,some ⟨bC,0,none⟩,cc,aU,by rw [List.length_set];omega,by rw [List.length_set];exact pG hO4,by rw [List.length_set];exact hs.sb⟩
         ·refine .skip ?_
          refine nB (nT ?_)
          exact ⟨s.cs,_,some ⟨bC,0,none⟩,cc,aU,aj,hO4,hs.sb⟩
    ·refine .skip ?_
     refine nT ?_
     exact ⟨s.cs,_,ac,cc,aU,aj,hO4,hs.sb⟩
   ·clear hs hO4
    rintro fs w ⟨C,f4,ac',cc',hfs,hCl,hO4,hs⟩
    refine WE.sub ?_ hfs
    clear hfs
    refine .ai (.y hs (zls [_,_,_,_,_,_,_,_] aF az) ?_)
    refine .o (.aV (vs:=[_,_,_,_,_,_,_,_]) hs rfl rfl az fun w hs=>?_)
    refine .nil ?_
    refine .ret ?_
    have hV:wc ⟨sp',R,C⟩ (.slice (some ⟨bS,0,none⟩) s.sp.st.length cS) (.slice (some ⟨bW,0,none⟩) s.sp.wa.length cW) (.slice ar' R.length cr') (.slice ac' C.length cc') f1 f2 f3 f4:=⟨hO1,hO2,hO3,hO4⟩
    obtain ⟨Ha,hla,ra,hs⟩:=hO1.cN aj hs cJ
    obtain ⟨Hb,hlb,rb,hs⟩:=hO2.cN aj hs cJ
    obtain ⟨Hc,hlc,rc,hs⟩:=cn.cI (m:=7) (cs:=rdc R) hO3 (eK _) aj (by rw [bU];omega) hs cJ
    obtain ⟨Hd,hld,rd,hs⟩:=cn.cI (m:=6) (cs:=cmc C) hO4 (gP _) aj (by rw [cV];omega) hs cJ
    exact Fin.gO [] [] hs fun w hs=>⟨_,results1 Tryz.results23 (dA (vs:=[_,_,_,_,_,_,_,_]) hs rfl aF az),Hd,⟨sp',R,C⟩,_,_,_,_,hle1.trans (hla.trans (hlb.trans (hlc.trans hld))),rfl,ra.mono (hlb.trans (hlc.trans hld)),rb.mono (hlc.trans hld),RRd.mono rc hld,rd,⟨by show 2≤sp'.st.length∧sp'.st.length≤4;omega,by show 2≤sp'.wa.length∧sp'.wa.length≤3;omega,hRl,hCl⟩,hs.out⟩
end Go.Proofs.YtddaejgfjlneoaaGreat
namespace Go.Proofs.YtddaejgfjlneoaaGreat
open Go.MW
theorem po:Tryz.prog.stoodInHeld 44=false:=by kernel_rfl
theorem pq:Tryz.prog.eqGuardType Tryz.prog.depth 44=false:=by kernel_rfl
end Go.Proofs.YtddaejgfjlneoaaGreat
namespace Go.Proofs.YtddaejgfjlneoaaGreat
open Go.MW
variable{H:cu}{w:World}{σ:List Ent}
theorem ru{v:Value}{xs:List Rdg}(hs:St H w σ)(hr:RRd H v xs)(hx:xs.length≤1000000):Cl Tryz.prog 198 [v] w fun v w'=>∃en,cn 7 v (rdc xs).flatten en∧St H w' (en::σ):=by
 obtain ⟨a,c,rfl⟩:=RRd.shape hr
 refine Cl.o Tryz.func198 Tryz.ntmps198 ag1 ?_
 refine .ai (.z zg (.nil (.seq (.ai (.z zm ?_)))))
 refine .q hs (Ar rfl rfl an) ?_
 refine .nil ?_
 refine (.cond rfl (fun hc4=>?_) (fun hc4=>?_))
 ·refine .ai (.z zg (.nil ?_))
  refine .ret (rT (Fin.bL Tryz.results198 rfl ?_))
  obtain rfl:a=none:=by simpa using hc4
  obtain rfl:=RRd.AB hr
  exact ⟨.nul,.nil 7 none,hs.nul⟩
 ·refine .skip ?_
  refine nT ?_
  refine .ai ?_
  refine .o (.buildSlice (cells:=[]) hs fI rfl rfl fun b5 w hs=>?_)
  refine .z zm ?_
  refine .o (.append (xs:=[]) (ys:=(rdc xs).flatten) hs bA rfl rfl (.full (len:=0) rfl) (vP hr) (r6 xs) (fun l h=>by simp at h;omega) ?_);intro v7 en7 w hO hs
  refine .z zg (.nil ?_)
  refine .ret (Fin.bL Tryz.results198 rfl ?_)
  exact ⟨en7,hO,hs⟩
theorem rz{v:Value}{xs:List Cmp}(hs:St H w σ)(hr:RCm H v xs)(hx:xs.length≤1000000):Cl Tryz.prog 199 [v] w fun v w'=>∃en,cn 6 v (cmc xs).flatten en∧St H w' (en::σ):=by
 obtain ⟨a,c,rfl⟩:=RCm.shape hr
 refine Cl.o Tryz.func199 Tryz.ntmps199 ag1 ?_
 refine .ai (.z zg (.nil (.seq (.ai (.z zm ?_)))))
 refine .q hs (Ar rfl rfl aC) ?_
 refine .nil ?_
 refine (.cond rfl (fun hc4=>?_) (fun hc4=>?_))
 ·refine .ai (.z zg (.nil ?_))
  refine .ret (rT (Fin.bL Tryz.results199 rfl ?_))
  obtain rfl:a=none:=by simpa using hc4
  obtain rfl:=RCm.AB hr
  exact ⟨.nul,.nil 6 none,hs.nul⟩
 ·refine .skip ?_
  refine nT ?_
  refine .ai ?_
  refine .o (.buildSlice (cells:=[]) hs fJ rfl rfl fun b5 w hs=>?_)
  refine .z zm ?_
  refine .o (.append (xs:=[]) (ys:=(cmc xs).flatten) hs cK rfl rfl (.full (len:=0) rfl) (vQ hr) (so xs) (fun l h=>by simp at h;omega) ?_);intro v7 en7 w hO hs
  refine .z zg (.nil ?_)
  refine .ret (Fin.bL Tryz.results199 rfl ?_)
  exact ⟨en7,hO,hs⟩
set_option maxHeartbeats 1000000 in
theorem oD{s:Srv}{vst vwa vr vc:Value}(hs:St H w σ)(h1:RI H vst s.sp.st)(h2:RI H vwa s.sp.wa)(h3:RRd H vr s.rs)(h4:RCm H vc s.cs)
  (l1:s.sp.st.length≤1000000) (l2:s.sp.wa.length≤1000000) (l3:s.rs.length≤1000000) (l4:s.cs.length≤1000000):
  Cl Tryz.prog 122 [.agg #[I s.sp.id,I s.sp.src,vst,vwa,I s.sp.al,I s.sp.up,vr,vc]] w fun u w'=>∃ust uwa ur uc e1 e2 e3 e4,u= .agg #[I s.sp.id,I s.sp.src,ust,uwa,I s.sp.al,I s.sp.up,ur,uc]∧wc s ust uwa ur uc e1 e2 e3 e4∧St H w' (e1::e2::e3::e4::σ):=by
 obtain ⟨ast,cst,rfl⟩:=RI.shape h1
 obtain ⟨awa,cwa,rfl⟩:=RI.shape h2
 obtain ⟨ar,cr,rfl⟩:=RRd.shape h3
 obtain ⟨ac,cc,rfl⟩:=RCm.shape h4
 refine Cl.o Tryz.func122 Tryz.ntmps122 ag1 ?_
 refine .ai ?_
 refine .bx hs fun b1 w hs=>?_
 refine .o (.alloc hs bZ rfl fun b2 w hs=>?_)
 refine .nil ?_
 refine .seq (.draw mix rfl hs fun w hs=>?_)
 refine .z 0 rfl (zfa aN) ?_;refine .z 1 rfl (zfa bn) ?_;refine .y 2 rfl hs ak ?_;refine .z 4 rfl (zfa aN) ?_;refine .z 5 rfl (zfa aW) ?_;refine .y 6 rfl hs ak ?_
 refine .E 3 hs ?_
 refine .call Tryz.call197 rfl (ie hs h1 aj) ?_;rintro v6 w ⟨e1,hO1,hs⟩
 obtain ⟨a6,c6,rfl⟩:=hO1.mK
 refine .go ?_
 refine .z 8 rfl (zfa aN) ?_;refine .z 9 rfl (zfa bn) ?_
 refine .E 7 hs ?_
 refine .call Tryz.call197 rfl (ie hs h2 aj) ?_;rintro v10 w ⟨e2,hO2,hs⟩
 obtain ⟨a10,c10,rfl⟩:=hO2.mK
 refine .go ?_
 refine .E 10 hs ?_
 refine .store hs rfl rfl aB ?_;intro w hs
 refine .go ?_
 refine .z 11 rfl (zfa aN) ?_;refine .z 12 rfl (zfa aW) ?_
 refine .E 13 hs ?_
 refine .store hs rfl rfl aB ?_;intro w hs
 refine .go ?_
 refine .D hs ?_
 refine .seq (.draw mix rfl hs fun w hs=>?_)
 refine .z 0 rfl (zfa aD) ?_;refine .y 1 rfl hs aO ?_;refine .z 3 rfl (zfa aR) ?_;refine .y 4 rfl hs bI ?_
 refine .E 2 hs ?_
 refine .call Tryz.call198 rfl (ru hs h3 aj) ?_;rintro v17 w ⟨e3,hO3,hs⟩
 obtain ⟨a17,c17,rfl⟩:=hO3.ek (eK _) aj
 refine .go ?_
 refine .z 6 rfl (zfa aD) ?_
 refine .E 5 hs ?_
 refine .call Tryz.call199 rfl (rz hs h4 aj) ?_;rintro v20 w ⟨e4,hO4,hs⟩
 obtain ⟨a20,c20,rfl⟩:=hO4.ek (gP _) aj
 refine .go ?_
 refine .E 7 hs ?_
 refine .store hs rfl rfl fT ?_;intro w hs
 refine .go ?_
 refine .z 8 rfl (zfa aR) ?_
 refine .E 9 hs ?_
 refine .store hs rfl rfl lQ ?_;intro w hs
 refine .go ?_
 refine .D hs ?_
 refine .ai (.y hs (zls [_,_,_,_,_,_,_,_] aF az) ?_)
 refine .o (.aV (vs:=[_,_,_,_,_,_,_,_]) hs rfl rfl az fun w hs=>?_)
 refine .nil ?_
 refine .ret ?_
 exact Fin.gO [] [] hs fun w hs=>⟨_,results1 Tryz.results122 (dA (vs:=[_,_,_,_,_,_,_,_]) hs rfl aF az),_,_,_,_,e1,e2,e3,e4,rfl,⟨hO1,hO2,hO3,hO4⟩,hs.sb⟩
set_option maxHeartbeats 1000000 in
theorem sP{s:Srv}{vst vwa vr vc:Value}(hs:St H w σ)(h1:RI H vst s.sp.st)(h2:RI H vwa s.sp.wa)(h3:RRd H vr s.rs)(h4:RCm H vc s.cs)
  (l1:s.sp.st.length≤1000000) (l2:s.sp.wa.length≤1000000) (l3:s.rs.length≤1000000) (l4:s.cs.length≤1000000):
  Cl Tryz.prog 123 [.agg #[I s.sp.id,I s.sp.src,vst,vwa,I s.sp.al,I s.sp.up,vr,vc]] w fun u w'=>∃ust uwa ur uc e1 e2 e3 e4,u= .agg #[I s.sp.id,I s.sp.src,ust,uwa,I s.sp.al,I s.sp.up,ur,uc]∧wc s ust uwa ur uc e1 e2 e3 e4∧St H w' (e1::e2::e3::e4::σ):=by
 obtain ⟨ast,cst,rfl⟩:=RI.shape h1
 obtain ⟨awa,cwa,rfl⟩:=RI.shape h2
 obtain ⟨ar,cr,rfl⟩:=RRd.shape h3
 obtain ⟨ac,cc,rfl⟩:=RCm.shape h4
 refine Cl.o Tryz.func123 Tryz.ntmps123 ag1 ?_
 refine .ai ?_
 refine .bx hs fun b1 w hs=>?_
 refine .o (.alloc hs bZ rfl fun b2 w hs=>?_)
 refine .nil (.ai (.z (zfa aN) (.y hs (zls [_,_,_,_,_,_] aQ aH) ?_)))
 refine .o (.alloc hs gN rfl fun b3 w hs=>?_)
 refine .o (.aV (vs:=[_,_,_,_,_,_]) hs rfl rfl aH fun w hs=>?_)
 refine .nil (.ai ?_)
 refine .o (.buildSlice (cells:=[]) hs fu rfl rfl fun b6 w hs=>?_)
 refine .z (zfa bn) (.y hs (zld ak) ?_)
 refine .o (.append (xs:=[]) (ys:=Is s.sp.st) hs aZ rfl rfl (.full (len:=0) rfl) (.ints h1) (dL _) (fun l h=>by simp at h;omega) ?_);intro v9 e1 w hO1 hs
 rw [List.nil_append] at hO1
 obtain ⟨a9,c9,rfl⟩:=hO1.mK
 refine .z (zfa bn) ?_
 refine .o (.store hs rfl rfl aB fun w hs=>?_)
 refine .nil (.ai ?_)
 refine .o (.buildSlice (cells:=[]) hs fu rfl rfl fun b11 w hs=>?_)
 refine .z (zfa aW) (.y hs (zld ak) ?_)
 refine .o (.append (xs:=[]) (ys:=Is s.sp.wa) hs aZ rfl rfl (.full (len:=0) rfl) (.ints h2) (dL _) (fun l h=>by simp at h;omega) ?_);intro v14 e2 w hO2 hs
 rw [List.nil_append] at hO2
 obtain ⟨a14,c14,rfl⟩:=hO2.mK
 refine .z (zfa aW) ?_
 refine .o (.store hs rfl rfl aB fun w hs=>?_)
 refine .nil ?_
 refine .seq (.draw mix rfl hs fun w hs=>?_)
 refine .ys 0 rfl hs [_,_,_,_,_,_] aQ aH ?_;refine .z 2 rfl (zfa aD) ?_;refine .y 3 rfl hs aO ?_;refine .z 6 rfl (zfa aR) ?_;refine .y 7 rfl hs bI ?_
 refine .e2 (i:=1) (j:=5) aq rfl rfl rfl rfl .none .none hs ?_ ?_
 ·refine .buildSlice (cells:=[]) hs fI rfl rfl ?_;intro b17 w hs
  refine .go ?_
  refine .e2 (i:=4) (j:=5) aq rfl rfl rfl rfl .none .none hs ?_ ?_
  ·refine .append (xs:=[]) (ys:=(rdc s.rs).flatten) hs bA rfl rfl (.full (len:=0) rfl) (vP h3) (r6 _) (fun l h=>by simp at h;omega) ?_;intro v20 e3 w hO3 hs
   rw [List.nil_append] at hO3
   obtain ⟨a20,c20,rfl⟩:=hO3.ek (eK _) aj
   rw [bU] at hO3 ⊢
   refine .go ?_
   refine .E 5 hs ?_
   refine .buildSlice (cells:=[]) hs fJ rfl rfl ?_;intro b21 w hs
   refine .go ?_
   refine .E 8 hs ?_
   refine .append (xs:=[]) (ys:=(cmc s.cs).flatten) hs cK rfl rfl (.full (len:=0) rfl) (vQ h4) (so _) (fun l h=>by simp at h;omega) ?_;intro v24 e4 w hO4 hs
   rw [List.nil_append] at hO4
   obtain ⟨a24,c24,rfl⟩:=hO4.ek (gP _) aj
   rw [cV] at hO4 ⊢
   refine .go ?_
   refine .z 9 rfl (zbd (vs:=[(0,.agg #[I s.sp.id,I s.sp.src,.slice a9 s.sp.st.length c9,.slice a14 s.sp.wa.length c14,I s.sp.al,I s.sp.up]),(1,.slice a20 s.rs.length c20),(2,.slice a24 s.cs.length c24)]) [I s.sp.id,I s.sp.src,.slice a9 s.sp.st.length c9,.slice a14 s.sp.wa.length c14,I s.sp.al,I s.sp.up,.slice a20 s.rs.length c20,.slice a24 s.cs.length c24] eC rfl aq) ?_
   refine .E 10 hs ?_
   refine .aV (vs:=[_,_,_,_,_,_,_,_]) hs rfl rfl az ?_;intro w hs
   refine .go ?_
   refine .D hs ?_
   refine .ret ?_
   exact Fin.gO [] [] hs fun w hs=>⟨_,results1 Tryz.results123 (dA (vs:=[_,_,_,_,_,_,_,_]) hs rfl aF az),_,_,_,_,e1,e2,e3,e4,rfl,⟨hO1,hO2,hO3,hO4⟩,hs.sb⟩
  ·refine .buildSlice (cells:=[]) hs fJ rfl rfl ?_;intro b21 w hs
   refine .go ?_
   refine .E 4 hs ?_
   refine .append (xs:=[]) (ys:=(rdc s.rs).flatten) hs bA rfl rfl (.full (len:=0) rfl) (vP h3) (r6 _) (fun l h=>by simp at h;omega) ?_;intro v20 e3 w hO3 hs
   rw [List.nil_append] at hO3
   obtain ⟨a20,c20,rfl⟩:=hO3.ek (eK _) aj
   rw [bU] at hO3 ⊢
   refine .go ?_
   refine .E 8 hs ?_
   refine .append (xs:=[]) (ys:=(cmc s.cs).flatten) hs cK rfl rfl (.full (len:=0) rfl) (vQ h4) (so _) (fun l h=>by simp at h;omega) ?_;intro v24 e4 w hO4 hs
   rw [List.nil_append] at hO4
   obtain ⟨a24,c24,rfl⟩:=hO4.ek (gP _) aj
   rw [cV] at hO4 ⊢
   refine .go ?_
   refine .z 9 rfl (zbd (vs:=[(0,.agg #[I s.sp.id,I s.sp.src,.slice a9 s.sp.st.length c9,.slice a14 s.sp.wa.length c14,I s.sp.al,I s.sp.up]),(1,.slice a20 s.rs.length c20),(2,.slice a24 s.cs.length c24)]) [I s.sp.id,I s.sp.src,.slice a9 s.sp.st.length c9,.slice a14 s.sp.wa.length c14,I s.sp.al,I s.sp.up,.slice a20 s.rs.length c20,.slice a24 s.cs.length c24] eC rfl aq) ?_
   refine .E 10 hs ?_
   refine .aV (vs:=[_,_,_,_,_,_,_,_]) hs rfl rfl az ?_;intro w hs
   refine .go ?_
   refine .D hs ?_
   refine .ret ?_
   exact Fin.gO [] [] hs fun w hs=>⟨_,results1 Tryz.results123 (dA (vs:=[_,_,_,_,_,_,_,_]) hs rfl aF az),_,_,_,_,e1,e2,e3,e4,rfl,⟨hO1,hO2,hO3,hO4⟩,hs.sb⟩
 ·refine .buildSlice (cells:=[]) hs fJ rfl rfl ?_;intro b21 w hs
  refine .go ?_
  refine .E 1 hs ?_
  refine .buildSlice (cells:=[]) hs fI rfl rfl ?_;intro b17 w hs
  refine .go ?_
  refine .E 4 hs ?_
  refine .append (xs:=[]) (ys:=(rdc s.rs).flatten) hs bA rfl rfl (.full (len:=0) rfl) (vP h3) (r6 _) (fun l h=>by simp at h;omega) ?_;intro v20 e3 w hO3 hs
  rw [List.nil_append] at hO3
  obtain ⟨a20,c20,rfl⟩:=hO3.ek (eK _) aj
  rw [bU] at hO3 ⊢
  refine .go ?_
  refine .E 8 hs ?_
  refine .append (xs:=[]) (ys:=(cmc s.cs).flatten) hs cK rfl rfl (.full (len:=0) rfl) (vQ h4) (so _) (fun l h=>by simp at h;omega) ?_;intro v24 e4 w hO4 hs
  rw [List.nil_append] at hO4
  obtain ⟨a24,c24,rfl⟩:=hO4.ek (gP _) aj
  rw [cV] at hO4 ⊢
  refine .go ?_
  refine .z 9 rfl (zbd (vs:=[(0,.agg #[I s.sp.id,I s.sp.src,.slice a9 s.sp.st.length c9,.slice a14 s.sp.wa.length c14,I s.sp.al,I s.sp.up]),(1,.slice a20 s.rs.length c20),(2,.slice a24 s.cs.length c24)]) [I s.sp.id,I s.sp.src,.slice a9 s.sp.st.length c9,.slice a14 s.sp.wa.length c14,I s.sp.al,I s.sp.up,.slice a20 s.rs.length c20,.slice a24 s.cs.length c24] eC rfl aq) ?_
  refine .E 10 hs ?_
  refine .aV (vs:=[_,_,_,_,_,_,_,_]) hs rfl rfl az ?_;intro w hs
  refine .go ?_
  refine .D hs ?_
  refine .ret ?_
  exact Fin.gO [] [] hs fun w hs=>⟨_,results1 Tryz.results123 (dA (vs:=[_,_,_,_,_,_,_,_]) hs rfl aF az),_,_,_,_,e1,e2,e3,e4,rfl,⟨hO1,hO2,hO3,hO4⟩,hs.sb⟩
set_option maxRecDepth 100000 in
theorem zx:Tryz.prog.stoodInHeld 32=false:=by kernel_rfl
set_option maxRecDepth 100000 in
theorem zy:Tryz.prog.eqGuardType Tryz.prog.depth 32=false:=by kernel_rfl
set_option maxRecDepth 100000 in
theorem Ai:Tryz.prog.stoodInHeld 80=false:=by kernel_rfl
set_option maxRecDepth 100000 in
theorem Aj:Tryz.prog.eqGuardType Tryz.prog.depth 80=false:=by kernel_rfl
set_option maxRecDepth 100000 in
theorem A9:Tryz.prog.stoodInHeld 108=false:=by kernel_rfl
set_option maxRecDepth 100000 in
theorem Ba:Tryz.prog.eqGuardType Tryz.prog.depth 108=false:=by kernel_rfl
theorem py{s:Spc}{vst vwa ust uwa:Value}(hs:St H w σ)(h1:RI H vst s.st)(h2:RI H vwa s.wa)(k1:RI H ust s.st)(k2:RI H uwa s.wa):
  Cl Tryz.prog 124 [.agg #[I s.id,I s.src,vst,vwa,I s.al,I s.up],.agg #[I s.id,I s.src,ust,uwa,I s.al,I s.up]] w fun u w'=>u= .bool true∧St H w' σ:=by
 refine Cl.o Tryz.func124 Tryz.ntmps124 ag2 ?_
 refine .ai ?_
 refine .bx hs fun b2 w hs=>?_
 refine .bx hs fun b3 w hs=>?_
 refine .z zg (.nil (.ai (.z (zfa bn) (.y hs (zld ak) (.z (zfa bn) (.y hs (zld ak) ?_))))))
 refine .o (.call Tryz.call34 rfl (fY hs h1 k1) ?_);rintro _ w ⟨rfl,hs⟩
 rw [decide_eq_true rfl]
 refine .z zg (.nil (.ai (.z (zfa aW) (.y hs (zld ak) (.z (zfa aW) (.y hs (zld ak) ?_))))))
 refine .o (.call Tryz.call34 rfl (fY hs h2 k2) ?_);rintro _ w ⟨rfl,hs⟩
 rw [decide_eq_true rfl]
 refine .z zg (.nil (.ai (.z zm (.z zm ?_))))
 refine .gT rfl rfl ?_
 refine .z zm (.z zpT (.z zm ?_))
 refine .gT rfl rfl ?_
 refine .z (zfa gY) ?_
 refine .gT rfl rfl ?_
 refine .y hs (zld ae) ?_
 refine .gT rfl rfl ?_
 refine .z (zfa gY) ?_
 refine .gT rfl rfl ?_
 refine .y hs (zld ae) ?_
 refine .gT rfl rfl ?_
 refine .z fL ?_;rw [decide_eq_true rfl]
 refine .z zpT (.z zm ?_)
 refine .gT rfl rfl ?_
 refine .z (zfa df) ?_
 refine .gT rfl rfl ?_
 refine .y hs (zld ae) ?_
 refine .gT rfl rfl ?_
 refine .z (zfa df) ?_
 refine .gT rfl rfl ?_
 refine .y hs (zld ae) ?_
 refine .gT rfl rfl ?_
 refine .z fL ?_;rw [decide_eq_true rfl]
 refine .z zpT (.z zm ?_)
 refine .gT rfl rfl ?_
 refine .z (zfa dF) ?_
 refine .gT rfl rfl ?_
 refine .y hs (zls [_,_] Tryz.isAgg32 Ef) ?_
 refine .gT rfl rfl ?_
 refine .z (zfa dF) ?_
 refine .gT rfl rfl ?_
 refine .y hs (zls [_,_] Tryz.isAgg32 Ef) ?_
 refine .gT rfl rfl ?_
 refine .q hs (lY zx zy CP (fun f hf=>by
  simp only [List.mem_cons,List.not_mem_nil,or_false] at hf
  rcases hf with rfl|rfl<;>exact ⟨by decide,aS,ae⟩) rfl rfl) ?_
 refine .z zpT (.z zg (.nil ?_))
 refine .ret (Fin.bL Tryz.results124 rfl ?_)
 exact ⟨bQ,hs.out⟩
set_option maxHeartbeats 2000000 in
theorem uV{s:Srv}{v1 v2:Value}(hs:St H w σ)(g1:RSv H v1 s)(g2:RSv H v2 s):
  Cl Tryz.prog 50 [v1,v2] w fun u w'=>u= .bool true∧St H w' σ:=by
 obtain ⟨vst,vwa,vr,vc,rfl,h1,h2,h3,h4⟩:=g1
 obtain ⟨ust,uwa,ur,uc,rfl,k1,k2,k3,k4⟩:=g2
 obtain ⟨ar,cr,rfl⟩:=RRd.shape h3
 obtain ⟨ac,cc,rfl⟩:=RCm.shape h4
 obtain ⟨br,dr,rfl⟩:=RRd.shape k3
 obtain ⟨bc,dc,rfl⟩:=RCm.shape k4
 have l3:=(RS.len h3).2.2
 have l4:=(RS.len h4).2.2
 refine Cl.o Tryz.func50 Tryz.ntmps50 ag2 ?_
 refine .ai ?_
 refine .bx hs fun b2 w hs=>?_
 refine .bx hs fun b3 w hs=>?_
 refine .z zg (.nil (.ai (.z (zfa aN) (.y hs (zls [_,_,_,_,_,_] aQ aH) (.z (zfa aN) (.y hs (zls [_,_,_,_,_,_] aQ aH) ?_))))))
 refine .o (.call Tryz.call124 rfl (py (s:=s.sp) hs h1 h2 k1 k2) ?_);rintro _ w ⟨rfl,hs⟩
 refine .z zm ?_
 refine .gT rfl rfl ?_
 refine .z (zfa aD) ?_
 refine .gT rfl rfl ?_
 refine .y hs (zld aO) ?_
 refine .gT rfl rfl ?_
 refine .z (cH an) ?_
 refine .gT rfl rfl ?_
 refine .z (zfa aD) ?_
 refine .gT rfl rfl ?_
 refine .y hs (zld aO) ?_
 refine .gT rfl rfl ?_
 refine .z (cH an) ?_
 refine .gT rfl rfl ?_
 refine .z fL ?_;rw [decide_eq_true rfl]
 refine .z zpT (.z zm ?_)
 refine .gT rfl rfl ?_
 refine .z (zfa aR) ?_
 refine .gT rfl rfl ?_
 refine .y hs (zld bI) ?_
 refine .gT rfl rfl ?_
 refine .z (cH aC) ?_
 refine .gT rfl rfl ?_
 refine .z (zfa aR) ?_
 refine .gT rfl rfl ?_
 refine .y hs (zld bI) ?_
 refine .gT rfl rfl ?_
 refine .z (cH aC) ?_
 refine .gT rfl rfl ?_
 refine .z fL (.z zpT (.z zg (.nil (.seq (.ai (.z zg (.nil (.block ?_))))))))
 refine .loop (fun k:Nat=>⟨74,[],[(6,I (k:Int)),(5,.bool true),(3,.pointer (some ⟨b3,0,none⟩)),(2,.pointer (some ⟨b2,0,none⟩))]⟩)
  (fun k w=>k≤s.rs.length∧St H w (.blk b3 [I s.sp.id,I s.sp.src,ust,uwa,I s.sp.al,I s.sp.up,.slice br s.rs.length dr,.slice bc s.cs.length dc]:: .blk b2 [I s.sp.id,I s.sp.src,vst,vwa,I s.sp.al,I s.sp.up,.slice ar s.rs.length cr,.slice ac s.cs.length cc]::σ)) (fun k=>s.rs.length - k) 0 (.bX rfl bQ (.Cx rfl bQ aU))
  ⟨Nat.zero_le _,hs⟩ ?_
 rintro k w ⟨hk,hs⟩
 refine .seq (.ai (.z zm (.z (zfa aD) (.y hs (zld aO) (.z (cH an) (.z fj (.z zm ?_)))))))
 refine .iq (t':=36) rfl (fun hb36=>?_) (fun hb36=>?_)
 ·refine .gT rfl rfl ?_
  refine .z zm (.z zpT (.nil ?_))
  refine (.cT ?_)
  refine .skip ?_
  refine nT ?_
  refine .seq (.block ?_)
  refine .draw mix rfl hs fun w hs=>?_
  refine .z 0 rfl (zfa aD) ?_;refine .y 1 rfl hs aO ?_;refine .z 2 rfl zm ?_
  obtain ⟨x,hx⟩:=nth (l:=s.rs) (k:=k) aj
  refine .ixX (enc:=Rdg.c) (i:=3) hs rfl aq .none h3 rfl rfl an aA hx cM ?_;intro b44 o44 hc44
  refine .r (i:=4) hs rfl aq .none (bY (vs:=x.c) rfl cq aA hc44) ?_
  refine .z 5 rfl (zfa aD) ?_;refine .y 6 rfl hs aO ?_;refine .z 7 rfl zm ?_
  refine .ixX (enc:=Rdg.c) (i:=8) hs rfl aq .none k3 rfl rfl an aA hx cM ?_;intro b49 o49 hc49
  refine .r (i:=9) hs rfl aq .none (bY (vs:=x.c) rfl cq aA hc49) ?_
  refine .z 10 rfl (EE Ai Aj eV (fun f hf=>by
   simp only [List.mem_cons,List.not_mem_nil,or_false] at hf
   rcases hf with rfl|rfl|rfl|rfl|rfl|rfl|rfl<;>exact ⟨by decide,aS,ae⟩) rfl rfl) ?_
  refine .z 11 rfl zg ?_;refine .D hs ?_
  refine nB (nT ?_)
  refine .region (.z zm (.z cA (.z zg (.nil ?_))))
  refine nT ?_
  exact ⟨k+1,.bX rfl bQ (.Cx rfl bQ aU),⟨aj,hs⟩,aj⟩
 ·refine .gFs 1 5 true rfl rfl rfl ?_
  refine .z zpF (.nil ?_)
  refine (.cF ?_)
  refine .exit ?_
  refine xT (xT (xB (nT ?_)))
  refine .seq (.ai (.z zg (.nil (.block ?_))))
  refine .loop (fun k:Nat=>⟨74,[],[(7,I (k:Int)),(5,.bool true),(3,.pointer (some ⟨b3,0,none⟩)),(2,.pointer (some ⟨b2,0,none⟩))]⟩)
   (fun k w=>k≤s.cs.length∧St H w (.blk b3 [I s.sp.id,I s.sp.src,ust,uwa,I s.sp.al,I s.sp.up,.slice br s.rs.length dr,.slice bc s.cs.length dc]:: .blk b2 [I s.sp.id,I s.sp.src,vst,vwa,I s.sp.al,I s.sp.up,.slice ar s.rs.length cr,.slice ac s.cs.length cc]::σ)) (fun k=>s.cs.length - k) 0 (.bX rfl bQ (.Cx rfl bQ aU))
   ⟨Nat.zero_le _,hs⟩ ?_
  rintro k w ⟨hk,hs⟩
  refine .seq (.ai (.z zm (.z (zfa aR) (.y hs (zld bI) (.z (cH aC) (.z fj (.z zm ?_)))))))
  refine .iq (t':=57) rfl (fun hb57=>?_) (fun hb57=>?_)
  ·refine .gT rfl rfl ?_
   refine .z zm (.z zpT (.nil ?_))
   refine (.cT ?_)
   refine .skip ?_
   refine nT ?_
   refine .seq (.block ?_)
   refine .draw mix rfl hs fun w hs=>?_
   refine .z 0 rfl (zfa aR) ?_;refine .y 1 rfl hs bI ?_;refine .z 2 rfl zm ?_
   obtain ⟨x,hx⟩:=nth (l:=s.cs) (k:=k) aj
   refine .ixX (enc:=Cmp.c) (i:=3) hs rfl aq .none h4 rfl rfl aC aP hx cM ?_;intro b65 o65 hc65
   refine .r (i:=4) hs rfl aq .none (bY (vs:=x.c) rfl fh aP hc65) ?_
   refine .z 5 rfl (zfa aR) ?_;refine .y 6 rfl hs bI ?_;refine .z 7 rfl zm ?_
   refine .ixX (enc:=Cmp.c) (i:=8) hs rfl aq .none k4 rfl rfl aC aP hx cM ?_;intro b70 o70 hc70
   refine .r (i:=9) hs rfl aq .none (bY (vs:=x.c) rfl fh aP hc70) ?_
   refine .z 10 rfl (EF A9 Ba fF (fun f hf=>by
    simp only [List.mem_cons,List.not_mem_nil,or_false] at hf
    rcases hf with rfl|rfl|rfl|rfl|rfl|rfl<;>exact ⟨by decide,aS,ae⟩) rfl rfl) ?_
   refine .z 11 rfl zg ?_;refine .D hs ?_
   refine nB (nT ?_)
   refine .region (.z zm (.z cA (.z zg (.nil ?_))))
   refine nT ?_
   exact ⟨k+1,.bX rfl bQ (.Cx rfl bQ aU),⟨aj,hs⟩,aj⟩
  ·refine .gFs 1 5 true rfl rfl rfl ?_
   refine .z zpF (.nil ?_)
   refine (.cF ?_)
   refine .exit ?_
   refine xT (xT (xB (nT ?_)))
   refine .ai (.z zm (.z zg (.nil ?_)))
   refine .ret (Fin.bL Tryz.results50 rfl ?_)
   exact ⟨rfl,hs.out⟩
theorem tK{v:Value}{xs:List Int}{en:Ent}(hs:St H w (en::σ))(hO:cn 1 v (Is xs) en)(hl:xs.length≤17592186044416):
  Cl Tryz.prog 138 [v] w fun u w'=>∃en',u= .tuple #[]∧cn 1 v (Is (xs.mergeSort fun x y=>decide (x≤y))) en'∧St H w' (en'::σ):=by
 rcases hO with ⟨a,rfl,h0,rfl⟩|⟨b,len,cap,sp,rfl,rfl,h3,h4,h5⟩
 ·obtain rfl:xs=[]:=by simpa using h0
  exact (lR hs).mono fun u w' ⟨h,hs⟩=>⟨.nul,h,by simpa using cn.nil 1 a,hs⟩
 ·obtain rfl:len=xs.length:=by simpa using h3.symm
  exact (mF hs hl).mono fun u w' ⟨h,hs⟩=>⟨_,h,.inr ⟨b,_,cap,sp,rfl,rfl,bQ,by simpa using h4,h5⟩,hs⟩
theorem qv{v:Value}{xs:List Int}{en:Ent}(hs:St H w (en::σ))(hO:cn 1 v (Is xs) en)(hl:xs.length≤17592186044416):
  Cl Tryz.prog 139 [v] w fun u w'=>∃en',cn 1 u (Is (Go.Lib.compact xs)) en'∧St H w' (en'::σ):=by
 rcases hO with ⟨a,rfl,h0,rfl⟩|⟨b,len,cap,sp,rfl,rfl,h3,h4,h5⟩
 ·obtain rfl:xs=[]:=by simpa using h0
  exact (kd hs).mono fun u w' ⟨h,hs⟩=>⟨.nul,by rw [h];exact .nil 1 a,hs⟩
 ·obtain rfl:len=xs.length:=by simpa using h3.symm
  have hcl:=Go.Lib.compact_length_le xs
  have h4':xs.length+sp.length=cap:=by simpa using h4
  exact (kB hs hl h5).mono fun u w' ⟨h,hs⟩=>⟨_,.inr ⟨b,_,cap,Is (List.replicate (xs.length - (Go.Lib.compact xs).length) 0)++sp,h,rfl,bQ,by simp;omega,aj⟩,hs⟩
set_option maxHeartbeats 1000000 in
theorem jw{s:Srv}{vst vwa vr vc:Value}(hs:St H w σ)(h3:RRd H vr s.rs)(h4:RCm H vc s.cs)(l3:s.rs.length≤1000000)(l4:s.cs.length≤1000000):
  Cl Tryz.prog 137 [.agg #[I s.sp.id,I s.sp.src,vst,vwa,I s.sp.al,I s.sp.up,vr,vc]] w fun u w'=>∃L en,cn 1 u (Is L) en∧L.length≤s.rs.length+s.cs.length∧fS s.Src L∧St H w' (en::σ):=by
 obtain ⟨ar,cr,rfl⟩:=RRd.shape h3
 obtain ⟨ac,cc,rfl⟩:=RCm.shape h4
 refine Cl.o Tryz.func137 Tryz.ntmps137 ag1 ?_
 refine .ai ?_
 refine .bx hs fun b1 w hs=>?_
 refine .z zg (.nil (.ai (.z zg (.nil (.seq (.ai (.z (zfa aD) (.y hs (zld aO) (.z (cH an) ?_)))))))))
 refine .z zm (.nil ?_)
 refine .for (N:=s.rs.length) (J:=fun k fr w=>∃v3 en,cn 1 v3 (Is ((s.rs.take k).map Rdg.src)) en∧fr=[(3,v3),(9,.slice ar s.rs.length cr),(1,.pointer (some ⟨b1,0,none⟩))]∧St H w (en:: .blk b1 [I s.sp.id,I s.sp.src,vst,vwa,I s.sp.al,I s.sp.up,.slice ar s.rs.length cr,.slice ac s.cs.length cc]::σ)) aj ?_ ?_ ?_
 ·exact .mk ⟨_,_,.nil 1 none,rfl,hs.nul.sb⟩
 ·rintro k fr w hk ⟨v3,en,hO,rfl,hs⟩
  obtain ⟨x,hx⟩:=nth (l:=s.rs) hk
  obtain ⟨a3,l3',c3,rfl,h3'⟩:=hO.shape
  refine .block (.ai ?_)
  refine .ixX (enc:=Rdg.c) hs h3 rfl rfl an aA hx rfl ?_;intro b13 o13 hc13
  refine .q hs (bY (vs:=x.c) rfl cq aA hc13) ?_
  refine .o (.alloc hs dC rfl fun b5 w hs=>?_)
  refine .o (.aV (vs:=x.c) hs rfl rfl aA fun w hs=>?_)
  refine .nil (.region (.z zm (.z (zfa dk) (.y hs (zld ae) ?_))))
  refine .o (.buildSlice (cells:=[_]) hs cf rfl rfl fun b18 w hs=>?_)
  refine .o (.append (ys:=Is [x.src]) hs aZ rfl rfl hO (.own .here rfl rfl) (dL _) (fun l' h=>by simp at h;omega) ?_);intro v19 en19 w hO2 hs
  rw [←List.map_append] at hO2
  refine .z zg (.nil ?_)
  refine nB (nT ?_)
  exact .mk ⟨_,_,by rw [cB hx,List.map_append];exact hO2,rfl,hs.sb⟩
 ·rintro fr w ⟨v3,en,hO,rfl,hs⟩
  rw [List.take_length] at hO
  refine nT ?_
  refine .seq (.ai (.z (zfa aR) (.y hs (zld bI) (.z (cH aC) (.z zm (.nil ?_))))))
  refine .for (N:=s.cs.length) (J:=fun k fr w=>∃v3 en,cn 1 v3 (Is (s.rs.map Rdg.src++(s.cs.take k).map Cmp.src)) en∧fr=[(3,v3),(22,.slice ac s.cs.length cc),(1,.pointer (some ⟨b1,0,none⟩))]∧St H w (en:: .blk b1 [I s.sp.id,I s.sp.src,vst,vwa,I s.sp.al,I s.sp.up,.slice ar s.rs.length cr,.slice ac s.cs.length cc]::σ)) aj ?_ ?_ ?_
  ·exact .mk ⟨_,_,by simpa using hO,rfl,hs⟩
  ·rintro k fr w hk ⟨v3,en,hO,rfl,hs⟩
   obtain ⟨x,hx⟩:=nth (l:=s.cs) hk
   obtain ⟨a3,l3',c3,rfl,h3'⟩:=hO.shape
   refine .block (.ai ?_)
   refine .ixX (enc:=Cmp.c) hs h4 rfl rfl aC aP hx rfl ?_;intro b26 o26 hc26
   refine .q hs (bY (vs:=x.c) rfl fh aP hc26) ?_
   refine .o (.alloc hs gh rfl fun b7 w hs=>?_)
   refine .o (.aV (vs:=x.c) hs rfl rfl aP fun w hs=>?_)
   refine .nil (.region (.z zm (.z (zfa dX) (.y hs (zld ae) ?_))))
   refine .o (.buildSlice (cells:=[_]) hs cf rfl rfl fun b31 w hs=>?_)
   refine .o (.append (ys:=Is [x.src]) hs aZ rfl rfl hO (.own .here rfl rfl) (dL _) (fun l' h=>by simp at h;omega) ?_);intro v32 en32 w hO2 hs
   rw [←List.map_append] at hO2
   refine .z zg (.nil ?_)
   refine nB (nT ?_)
   exact .mk ⟨_,_,by rw [cB hx,List.map_append,←List.append_assoc];exact hO2,rfl,hs.sb⟩
  ·rintro fr w ⟨v3,en,hO,rfl,hs⟩
   rw [List.take_length] at hO
   have hlen:(s.rs.map Rdg.src++s.cs.map Cmp.src).length=s.rs.length+s.cs.length:=by simp
   refine nT ?_
   refine .ai (.z zm ?_)
   refine .o (.call Tryz.call138 rfl (tK hs hO aj) ?_);rintro _ w ⟨en2,rfl,hO2,hs⟩
   have hml:((s.rs.map Rdg.src++s.cs.map Cmp.src).mergeSort fun x y=>decide (x≤y)).length=s.rs.length+s.cs.length:=by rw [List.length_mergeSort,hlen]
   refine .nil (.ai (.z zm ?_))
   refine .o (.call Tryz.call139 rfl (qv hs hO2 aj) ?_);rintro v37 w ⟨en3,hO3,hs⟩
   have hcl:=Go.Lib.compact_length_le ((s.rs.map Rdg.src++s.cs.map Cmp.src).mergeSort fun x y=>decide (x≤y))
   refine .z zg (.nil ?_)
   refine .ret (Fin.bL Tryz.results137 rfl ?_)
   exact ⟨_,en3,hO3,aj,sI.congr fun x=>Dq,hs.sb⟩
set_option maxHeartbeats 1000000 in
theorem nV{v:Value}{ls:List Int}{n:Int}{S:Int→Prop}(hs:St H w σ)(hr:RI H v ls)(hR:fS S ls)(hlen:ls.length≤17592186044000):
  Cl Tryz.prog 140 [v,I n] w fun u w'=>∃H1 L,HLe H H1∧RI H1 u L∧fS (fun x=>S x∨x=n) L∧L.length≤ls.length+1∧St H1 w' σ:=by
 obtain ⟨a,c,rfl⟩:=RI.shape hr
 have hcap:=RI.len hr
 refine Cl.o Tryz.func140 Tryz.ntmps140 ag2 ?_
 refine .ai (.z zg (.nil (.ai (.z zg (.nil ?_)))))
 refine .cut (fun fs w=>∃t:Nat,jU fs ⟨45,[],[(5,I (t:Int)),(1,I n),(0,.slice a ls.length c)]⟩∧t≤ls.length∧(∀j,t≤j→j<ls.length→n≤gi ls j)∧(∀j<t,j<ls.length→gi ls j<n)∧St H w σ) ?_ ?_
 ·refine .block ?_
  refine .loop (fun t:Nat=>⟨45,[],[(5,I (t:Int)),(1,I n),(0,.slice a ls.length c)]⟩)
   (fun t w=>t≤ls.length∧(∀j<t,gi ls j<n)∧St H w σ) (fun t=>ls.length - t) 0 aU ⟨Nat.zero_le _,fun j hj=>by omega,hs⟩ ?_
  clear hs
  rintro t w ⟨ht,hlt,hs⟩
  refine .seq (.ai (.z zm (.z zm (.z (cH aa) (.z fj (.z zm ?_))))))
  refine .iq (t':=10) rfl (fun hb10=>?_) (fun hb10=>?_)
  ·refine .gT rfl rfl ?_
   refine .z zm ?_
   refine .gT rfl rfl ?_
   refine .z zm ?_
   refine .gT rfl rfl ?_
   refine .ixY hs hr rfl rfl aa af (bu (l:=ls) (i:=t) aj) cM ?_;intro b13 o13 hc13
   refine .gT rfl rfl ?_
   refine .q hs (aK rfl ae hc13) ?_
   refine .gT rfl rfl ?_
   refine .z zm ?_
   refine .gT rfl rfl ?_
   refine .z fj (.z zpT (.nil ?_))
   refine (.bJ rfl (fun hc17=>?_) (fun hc17=>?_))
   ·refine .skip ?_
    refine nT ?_
    refine .block (.region (.z zm (.z cA (.z zg (.nil ?_)))))
    refine nB (nT ?_)
    exact ⟨t+1,.bX rfl aj aU,⟨aj,fun j h1=>by
     by_cases e:j=t
     ·subst e;omega
     ·exact hlt j aj,hs⟩,aj⟩
   ·refine .exit ?_
    refine xT (xT (xB (nT ?_)))
    exact ⟨t,aU,ht,fun j h1 h2=>by
     by_cases e:j=t
     ·subst e;omega
     ·have:=ou hR (i:=t) (j:=j) aj h2;omega,fun j h1 _=>hlt j h1,hs⟩
  ·refine .gFs 6 4 true rfl rfl rfl ?_
   refine .z zpF (.nil ?_)
   refine (.cF ?_)
   refine .exit ?_
   refine xT (xT (xB (nT ?_)))
   exact ⟨t,aU,ht,fun j h1 h2=>by omega,fun j h1 _=>hlt j h1,hs⟩
 ·rintro fs w ⟨t,hfs,ht,hge,hlt,hs⟩
  refine WE.sub ?_ hfs
  refine .seq (.ai (.z zm (.z zm (.z (cH aa) (.z fj (.z zm ?_))))))
  refine .iq (t':=24) rfl (fun hb24=>?_) (fun hb24=>?_)
  ·refine .gT rfl rfl ?_
   refine .z zm ?_
   refine .gT rfl rfl ?_
   refine .z zm ?_
   refine .gT rfl rfl ?_
   refine .ixY hs hr rfl rfl aa af (bu (l:=ls) (i:=t) aj) cM ?_;intro b27 o27 hc27
   refine .gT rfl rfl ?_
   refine .q hs (aK rfl ae hc27) ?_
   refine .gT rfl rfl ?_
   refine .z zm ?_
   refine .gT rfl rfl ?_
   refine .z fL (.z zpT (.nil ?_))
   refine (.bJ rfl (fun hc31=>?_) (fun hc31=>?_))
   ·refine .ai (.z zm (.z zg (.nil ?_)))
    refine .ret (rT (Fin.bL mc rfl ?_))
    exact ⟨H,ls,HLe.refl H,hr,hR.congr fun x=>⟨.inl,fun h=>h.elim id fun e=>by
     subst e
     rw [←hc31]
     exact (hR.mem _).1 (List.mem_of_getElem? (bu aj))⟩,aj,hs⟩
   ·refine .skip ?_
    refine nT ?_
    refine .seq (.draw mix rfl hs fun w hs=>?_)
    refine .z 1 rfl zm ?_;refine .z 2 rfl zm ?_
    refine .z 3 rfl (kf (k:=t) rfl rfl aa af rfl aj) ?_
    refine .z 5 rfl zm ?_;refine .z 8 rfl zm ?_;refine .z 9 rfl zm ?_
    refine .z 10 rfl (pC (k:=t) rfl rfl aa af aj aj) ?_
    refine .e2 (i:=0) (j:=6) aq rfl rfl rfl rfl .none .none hs ?_ ?_
    ·refine .buildSlice (cells:=[]) hs fu rfl rfl ?_;intro b33 w hs
     refine .go ?_
     refine .e2 (i:=4) (j:=6) aq rfl rfl rfl rfl .none .none hs ?_ ?_
     ·refine .append (xs:=[]) (ys:=Is (ls.take t)) hs aZ rfl rfl (.full (len:=0) rfl) (.ints (RI.head hr (k:=t) ht)) (dL _) (fun l h=>by simp at h;rw [List.length_take];omega) ?_;intro v37 en37 w hO1 hs
      rw [List.nil_append] at hO1
      obtain ⟨a37,l37,c37,rfl,h37⟩:=hO1.shape
      refine .go ?_
      refine .E 6 hs ?_
      refine .buildSlice (cells:=Is [n]) hs cf rfl rfl ?_;intro b39 w hs
      refine .go ?_
      refine .E 7 hs ?_
      refine .append (ys:=Is [n]) hs aZ rfl rfl hO1 (.own (c:=Is [n]) (by first|exact .here|exact .there .here|exact .there (.there .here)) rfl rfl) (dL _) (fun l h=>by simp at h;omega) ?_;intro v40 en40 w hO2 hs
      rw [←List.map_append] at hO2
      obtain ⟨a40,l40,c40,rfl,h40⟩:=hO2.shape
      refine .go ?_
      refine .E 11 hs ?_
      refine .append (ys:=Is (ls.drop t)) hs aZ rfl rfl hO2 (.ints (RI.tail hr (k:=t) ht)) (dL _) (fun l h=>by simp at h;rw [List.length_drop];omega) ?_;intro v44 en44 w hO3 hs
      rw [←List.map_append,List.append_assoc,List.singleton_append] at hO3
      refine .go ?_
      refine .z 12 rfl zg ?_;refine .D hs ?_
      refine .ret (Fin.bL mc rfl ?_)
      have hfin:¬(t<ls.length∧gi ls t=n):=fun h=>by first|omega|(exact hc31 h.2)
      have hR3:=hR.put (k:=t) (z:=n) (ni hlt) (nx fun j h1 h2=>by
       have h3:=hge j h1 h2
       by_cases e:j=t
       ·subst e;omega
       ·have:=ou hR (i:=t) (j:=j) aj h2
        have:=hge t (Nat.le_refl _) aj
        omega)
      obtain ⟨H1,g1,r1,hs⟩:=cn.cN hO3 (by simp;omega) hs cJ
      exact ⟨H1,_,g1,r1,hR3,by simp;omega,hs.out⟩
     ·refine .buildSlice (cells:=Is [n]) hs cf rfl rfl ?_;intro b39 w hs
      refine .go ?_
      refine .E 4 hs ?_
      refine .append (xs:=[]) (ys:=Is (ls.take t)) hs aZ rfl rfl (.full (len:=0) rfl) (.ints (RI.head hr (k:=t) ht)) (dL _) (fun l h=>by simp at h;rw [List.length_take];omega) ?_;intro v37 en37 w hO1 hs
      rw [List.nil_append] at hO1
      obtain ⟨a37,l37,c37,rfl,h37⟩:=hO1.shape
      refine .go ?_
      refine .E 7 hs ?_
      refine .append (ys:=Is [n]) hs aZ rfl rfl hO1 (.own (c:=Is [n]) (by first|exact .here|exact .there .here|exact .there (.there .here)) rfl rfl) (dL _) (fun l h=>by simp at h;omega) ?_;intro v40 en40 w hO2 hs
      rw [←List.map_append] at hO2
      obtain ⟨a40,l40,c40,rfl,h40⟩:=hO2.shape
      refine .go ?_
      refine .E 11 hs ?_
      refine .append (ys:=Is (ls.drop t)) hs aZ rfl rfl hO2 (.ints (RI.tail hr (k:=t) ht)) (dL _) (fun l h=>by simp at h;rw [List.length_drop];omega) ?_;intro v44 en44 w hO3 hs
      rw [←List.map_append,List.append_assoc,List.singleton_append] at hO3
      refine .go ?_
      refine .z 12 rfl zg ?_;refine .D hs ?_
      refine .ret (Fin.bL mc rfl ?_)
      have hfin:¬(t<ls.length∧gi ls t=n):=fun h=>by first|omega|(exact hc31 h.2)
      have hR3:=hR.put (k:=t) (z:=n) (ni hlt) (nx fun j h1 h2=>by
       have h3:=hge j h1 h2
       by_cases e:j=t
       ·subst e;omega
       ·have:=ou hR (i:=t) (j:=j) aj h2
        have:=hge t (Nat.le_refl _) aj
        omega)
      obtain ⟨H1,g1,r1,hs⟩:=cn.cN hO3 (by simp;omega) hs cJ
      exact ⟨H1,_,g1,r1,hR3,by simp;omega,hs.out⟩
    ·refine .buildSlice (cells:=Is [n]) hs cf rfl rfl ?_;intro b39 w hs
     refine .go ?_
     refine .E 0 hs ?_
     refine .buildSlice (cells:=[]) hs fu rfl rfl ?_;intro b33 w hs
     refine .go ?_
     refine .E 4 hs ?_
     refine .append (xs:=[]) (ys:=Is (ls.take t)) hs aZ rfl rfl (.full (len:=0) rfl) (.ints (RI.head hr (k:=t) ht)) (dL _) (fun l h=>by simp at h;rw [List.length_take];omega) ?_;intro v37 en37 w hO1 hs
     rw [List.nil_append] at hO1
     obtain ⟨a37,l37,c37,rfl,h37⟩:=hO1.shape
     refine .go ?_
     refine .E 7 hs ?_
     refine .append (ys:=Is [n]) hs aZ rfl rfl hO1 (.own (c:=Is [n]) (by first|exact .here|exact .there .here|exact .there (.there .here)) rfl rfl) (dL _) (fun l h=>by simp at h;omega) ?_;intro v40 en40 w hO2 hs
     rw [←List.map_append] at hO2
     obtain ⟨a40,l40,c40,rfl,h40⟩:=hO2.shape
     refine .go ?_
     refine .E 11 hs ?_
     refine .append (ys:=Is (ls.drop t)) hs aZ rfl rfl hO2 (.ints (RI.tail hr (k:=t) ht)) (dL _) (fun l h=>by simp at h;rw [List.length_drop];omega) ?_;intro v44 en44 w hO3 hs
     rw [←List.map_append,List.append_assoc,List.singleton_append] at hO3
     refine .go ?_
     refine .z 12 rfl zg ?_;refine .D hs ?_
     refine .ret (Fin.bL mc rfl ?_)
     have hfin:¬(t<ls.length∧gi ls t=n):=fun h=>by first|omega|(exact hc31 h.2)
     have hR3:=hR.put (k:=t) (z:=n) (ni hlt) (nx fun j h1 h2=>by
      have h3:=hge j h1 h2
      by_cases e:j=t
      ·subst e;omega
      ·have:=ou hR (i:=t) (j:=j) aj h2
       have:=hge t (Nat.le_refl _) aj
       omega)
     obtain ⟨H1,g1,r1,hs⟩:=cn.cN hO3 (by simp;omega) hs cJ
     exact ⟨H1,_,g1,r1,hR3,by simp;omega,hs.out⟩
  ·refine .gFs 6 4 true rfl rfl rfl ?_
   refine .z zpF (.nil ?_)
   refine (.cF ?_)
   refine .skip ?_
   refine nT ?_
   refine .seq (.draw mix rfl hs fun w hs=>?_)
   refine .z 1 rfl zm ?_;refine .z 2 rfl zm ?_
   refine .z 3 rfl (kf (k:=t) rfl rfl aa af rfl aj) ?_
   refine .z 5 rfl zm ?_;refine .z 8 rfl zm ?_;refine .z 9 rfl zm ?_
   refine .z 10 rfl (pC (k:=t) rfl rfl aa af aj aj) ?_
   refine .e2 (i:=0) (j:=6) aq rfl rfl rfl rfl .none .none hs ?_ ?_
   ·refine .buildSlice (cells:=[]) hs fu rfl rfl ?_;intro b33 w hs
    refine .go ?_
    refine .e2 (i:=4) (j:=6) aq rfl rfl rfl rfl .none .none hs ?_ ?_
    ·refine .append (xs:=[]) (ys:=Is (ls.take t)) hs aZ rfl rfl (.full (len:=0) rfl) (.ints (RI.head hr (k:=t) ht)) (dL _) (fun l h=>by simp at h;rw [List.length_take];omega) ?_;intro v37 en37 w hO1 hs
     rw [List.nil_append] at hO1
     obtain ⟨a37,l37,c37,rfl,h37⟩:=hO1.shape
     refine .go ?_
     refine .E 6 hs ?_
     refine .buildSlice (cells:=Is [n]) hs cf rfl rfl ?_;intro b39 w hs
     refine .go ?_
     refine .E 7 hs ?_
     refine .append (ys:=Is [n]) hs aZ rfl rfl hO1 (.own (c:=Is [n]) (by first|exact .here|exact .there .here|exact .there (.there .here)) rfl rfl) (dL _) (fun l h=>by simp at h;omega) ?_;intro v40 en40 w hO2 hs
     rw [←List.map_append] at hO2
     obtain ⟨a40,l40,c40,rfl,h40⟩:=hO2.shape
     refine .go ?_
     refine .E 11 hs ?_
     refine .append (ys:=Is (ls.drop t)) hs aZ rfl rfl hO2 (.ints (RI.tail hr (k:=t) ht)) (dL _) (fun l h=>by simp at h;rw [List.length_drop];omega) ?_;intro v44 en44 w hO3 hs
     rw [←List.map_append,List.append_assoc,List.singleton_append] at hO3
     refine .go ?_
     refine .z 12 rfl zg ?_;refine .D hs ?_
     refine .ret (Fin.bL mc rfl ?_)
     have hfin:¬(t<ls.length∧gi ls t=n):=fun h=>by first|omega|(exact hc31 h.2)
     have hR3:=hR.put (k:=t) (z:=n) (ni hlt) (nx fun j h1 h2=>by
      have h3:=hge j h1 h2
      by_cases e:j=t
      ·subst e;omega
      ·have:=ou hR (i:=t) (j:=j) aj h2
       have:=hge t (Nat.le_refl _) aj
       omega)
     obtain ⟨H1,g1,r1,hs⟩:=cn.cN hO3 (by simp;omega) hs cJ
     exact ⟨H1,_,g1,r1,hR3,by simp;omega,hs.out⟩
    ·refine .buildSlice (cells:=Is [n]) hs cf rfl rfl ?_;intro b39 w hs
     refine .go ?_
     refine .E 4 hs ?_
     refine .append (xs:=[]) (ys:=Is (ls.take t)) hs aZ rfl rfl (.full (len:=0) rfl) (.ints (RI.head hr (k:=t) ht)) (dL _) (fun l h=>by simp at h;rw [List.length_take];omega) ?_;intro v37 en37 w hO1 hs
     rw [List.nil_append] at hO1
     obtain ⟨a37,l37,c37,rfl,h37⟩:=hO1.shape
     refine .go ?_
     refine .E 7 hs ?_
     refine .append (ys:=Is [n]) hs aZ rfl rfl hO1 (.own (c:=Is [n]) (by first|exact .here|exact .there .here|exact .there (.there .here)) rfl rfl) (dL _) (fun l h=>by simp at h;omega) ?_;intro v40 en40 w hO2 hs
     rw [←List.map_append] at hO2
     obtain ⟨a40,l40,c40,rfl,h40⟩:=hO2.shape
     refine .go ?_
     refine .E 11 hs ?_
     refine .append (ys:=Is (ls.drop t)) hs aZ rfl rfl hO2 (.ints (RI.tail hr (k:=t) ht)) (dL _) (fun l h=>by simp at h;rw [List.length_drop];omega) ?_;intro v44 en44 w hO3 hs
     rw [←List.map_append,List.append_assoc,List.singleton_append] at hO3
     refine .go ?_
     refine .z 12 rfl zg ?_;refine .D hs ?_
     refine .ret (Fin.bL mc rfl ?_)
     have hfin:¬(t<ls.length∧gi ls t=n):=fun h=>by first|omega|(exact hc31 h.2)
     have hR3:=hR.put (k:=t) (z:=n) (ni hlt) (nx fun j h1 h2=>by
      have h3:=hge j h1 h2
      by_cases e:j=t
      ·subst e;omega
      ·have:=ou hR (i:=t) (j:=j) aj h2
       have:=hge t (Nat.le_refl _) aj
       omega)
     obtain ⟨H1,g1,r1,hs⟩:=cn.cN hO3 (by simp;omega) hs cJ
     exact ⟨H1,_,g1,r1,hR3,by simp;omega,hs.out⟩
   ·refine .buildSlice (cells:=Is [n]) hs cf rfl rfl ?_;intro b39 w hs
    refine .go ?_
    refine .E 0 hs ?_
    refine .buildSlice (cells:=[]) hs fu rfl rfl ?_;intro b33 w hs
    refine .go ?_
    refine .E 4 hs ?_
    refine .append (xs:=[]) (ys:=Is (ls.take t)) hs aZ rfl rfl (.full (len:=0) rfl) (.ints (RI.head hr (k:=t) ht)) (dL _) (fun l h=>by simp at h;rw [List.length_take];omega) ?_;intro v37 en37 w hO1 hs
    rw [List.nil_append] at hO1
    obtain ⟨a37,l37,c37,rfl,h37⟩:=hO1.shape
    refine .go ?_
    refine .E 7 hs ?_
    refine .append (ys:=Is [n]) hs aZ rfl rfl hO1 (.own (c:=Is [n]) (by first|exact .here|exact .there .here|exact .there (.there .here)) rfl rfl) (dL _) (fun l h=>by simp at h;omega) ?_;intro v40 en40 w hO2 hs
    rw [←List.map_append] at hO2
    obtain ⟨a40,l40,c40,rfl,h40⟩:=hO2.shape
    refine .go ?_
    refine .E 11 hs ?_
    refine .append (ys:=Is (ls.drop t)) hs aZ rfl rfl hO2 (.ints (RI.tail hr (k:=t) ht)) (dL _) (fun l h=>by simp at h;rw [List.length_drop];omega) ?_;intro v44 en44 w hO3 hs
    rw [←List.map_append,List.append_assoc,List.singleton_append] at hO3
    refine .go ?_
    refine .z 12 rfl zg ?_;refine .D hs ?_
    refine .ret (Fin.bL mc rfl ?_)
    have hfin:¬(t<ls.length∧gi ls t=n):=fun h=>by first|omega|(exact hc31 h.2)
    have hR3:=hR.put (k:=t) (z:=n) (ni hlt) (nx fun j h1 h2=>by
     have h3:=hge j h1 h2
     by_cases e:j=t
     ·subst e;omega
     ·have:=ou hR (i:=t) (j:=j) aj h2
      have:=hge t (Nat.le_refl _) aj
      omega)
    obtain ⟨H1,g1,r1,hs⟩:=cn.cN hO3 (by simp;omega) hs cJ
    exact ⟨H1,_,g1,r1,hR3,by simp;omega,hs.out⟩
set_option maxHeartbeats 1000000 in
theorem pv{s:Srv}{vst vwa vr vc:Value}(hs:St H w σ)(h3:RRd H vr s.rs)(h4:RCm H vc s.cs)(l3:s.rs.length≤1000000)(l4:s.cs.length≤1000000):
  Cl Tryz.prog 141 [.agg #[I s.sp.id,I s.sp.src,vst,vwa,I s.sp.al,I s.sp.up,vr,vc]] w fun u w'=>∃H1 L,HLe H H1∧RI H1 u L∧L.length≤s.rs.length+s.cs.length∧fS s.Src L∧St H1 w' σ:=by
 obtain ⟨ar,cr,rfl⟩:=RRd.shape h3
 obtain ⟨ac,cc,rfl⟩:=RCm.shape h4
 refine Cl.o Tryz.func141 Tryz.ntmps141 ag1 ?_
 refine .ai ?_
 refine .bx hs fun b1 w hs=>?_
 refine .z zg (.nil (.ai (.z zg (.nil (.seq (.ai (.z zg (.nil (.block ?_)))))))))
 refine .loop (fun p:Nat×Value=>⟨37,[],[(4,I (p.1:Int)),(3,p.2),(1,.pointer (some ⟨b1,0,none⟩))]⟩)
  (fun p w=>p.1≤s.rs.length∧∃H1 L,HLe H H1∧RI H1 p.2 L∧L.length≤p.1∧fS (fun x=>∃r∈s.rs.take p.1,r.src=x) L∧St H1 w (.blk b1 [I s.sp.id,I s.sp.src,vst,vwa,I s.sp.al,I s.sp.up,.slice ar s.rs.length cr,.slice ac s.cs.length cc]::σ)) (fun p=>s.rs.length - p.1) (0,.slice none 0 0) aU
  ⟨Nat.zero_le _,H,[],HLe.refl H,RS.nil H 1 none 0,bQ,.nil bQ,hs⟩ ?_
 clear hs
 rintro ⟨k,vo⟩ w ⟨hk,H1,L,hle1,hL,hLl,hR,hs⟩
 dsimp only at hk hL hLl hR ⊢
 refine .seq (.ai (.z zm (.z (zfa aD) (.y hs (zld aO) (.z (cH an) (.z fj (.nil ?_)))))))
 refine (.bJ rfl (fun hc10=>?_) (fun hc10=>?_))
 ·refine .skip ?_
  refine nT ?_
  refine .seq (.block (.region (.z zm (.z (zfa aD) (.y hs (zld aO) (.z zm ?_))))))
  obtain ⟨x,hx⟩:=nth (l:=s.rs) (k:=k) aj
  refine .ixX (enc:=Rdg.c) hs (h3.mono hle1) rfl rfl an aA hx cM ?_;intro b17 o17 hc17
  refine .z (zfa dk) ?_
  refine .q hs (aK rfl ae (hc17.get 0 rfl)) ?_
  refine .o (.call Tryz.call140 rfl (nV hs hL hR aj) ?_);rintro v20 w ⟨H2,L2,hle2,hL2,hR2,hl2,hs⟩
  refine .z zg (.nil ?_)
  refine nB (nT ?_)
  refine .region (.z zm (.z cA (.z zg (.nil ?_))))
  refine nT ?_
  exact ⟨(k+1,v20),.bX rfl bQ aU,⟨by dsimp only;omega,H2,L2,hle1.trans hle2,hL2,by dsimp only;omega,hR2.congr fun y=>by
   dsimp only
   rw [cB hx]
   simp only [List.mem_append,List.mem_singleton]
   constructor
   ·rintro (⟨r,g1,g2⟩|h)
    ·exact ⟨r,.inl g1,g2⟩
    ·exact ⟨x,.inr rfl,h.symm⟩
   ·rintro ⟨r,g1|g1,g2⟩
    ·exact .inl ⟨r,g1,g2⟩
    ·subst g1;exact .inr g2.symm,hs⟩,by dsimp only;omega⟩
 ·refine .exit ?_
  refine xT (xT (xB (nT ?_)))
  refine .seq (.ai (.z zg (.nil (.block ?_))))
  obtain rfl:k=s.rs.length:=by omega
  rw [List.take_length] at hR
  refine .loop (fun p:Nat×Value=>⟨37,[],[(5,I (p.1:Int)),(3,p.2),(1,.pointer (some ⟨b1,0,none⟩))]⟩)
   (fun p w=>p.1≤s.cs.length∧∃H1 L,HLe H H1∧RI H1 p.2 L∧L.length≤s.rs.length+p.1∧fS (fun x=>(∃r∈s.rs,r.src=x)∨∃c∈s.cs.take p.1,c.src=x) L∧St H1 w (.blk b1 [I s.sp.id,I s.sp.src,vst,vwa,I s.sp.al,I s.sp.up,.slice ar s.rs.length cr,.slice ac s.cs.length cc]::σ)) (fun p=>s.cs.length - p.1) (0,vo) aU
   ⟨Nat.zero_le _,H1,L,hle1,hL,by dsimp only;omega,hR.congr fun x=>by simp,hs⟩ ?_
  clear hs hle1 hL hLl hR
  rintro ⟨k,vo⟩ w ⟨hk,H1,L,hle1,hL,hLl,hR,hs⟩
  dsimp only at hk hL hLl hR ⊢
  refine .seq (.ai (.z zm (.z (zfa aR) (.y hs (zld bI) (.z (cH aC) (.z fj (.nil ?_)))))))
  refine (.bJ rfl (fun hc25=>?_) (fun hc25=>?_))
  ·refine .skip ?_
   refine nT ?_
   refine .seq (.block (.region (.z zm (.z (zfa aR) (.y hs (zld bI) (.z zm ?_))))))
   obtain ⟨x,hx⟩:=nth (l:=s.cs) (k:=k) aj
   refine .ixX (enc:=Cmp.c) hs (h4.mono hle1) rfl rfl aC aP hx cM ?_;intro b32 o32 hc32
   refine .z (zfa dX) ?_
   refine .q hs (aK rfl ae (hc32.get 0 rfl)) ?_
   refine .o (.call Tryz.call140 rfl (nV hs hL hR aj) ?_);rintro v35 w ⟨H2,L2,hle2,hL2,hR2,hl2,hs⟩
   refine .z zg (.nil ?_)
   refine nB (nT ?_)
   refine .region (.z zm (.z cA (.z zg (.nil ?_))))
   refine nT ?_
   exact ⟨(k+1,v35),.bX rfl bQ aU,⟨by dsimp only;omega,H2,L2,hle1.trans hle2,hL2,by dsimp only;omega,hR2.congr fun y=>by
    dsimp only
    rw [cB hx]
    simp only [List.mem_append,List.mem_singleton]
    constructor
    ·rintro ((h|⟨r,g1,g2⟩)|h)
     ·exact .inl h
     ·exact .inr ⟨r,.inl g1,g2⟩
     ·exact .inr ⟨x,.inr rfl,h.symm⟩
    ·rintro (h|⟨r,g1|g1,g2⟩)
     ·exact .inl (.inl h)
     ·exact .inl (.inr ⟨r,g1,g2⟩)
     ·subst g1;exact .inr g2.symm,hs⟩,by dsimp only;omega⟩
  ·refine .exit ?_
   refine xT (xT (xB (nT ?_)))
   refine .ai (.z zm (.z zg (.nil ?_)))
   refine .ret (Fin.bL Tryz.results141 rfl ?_)
   obtain rfl:k=s.cs.length:=by omega
   rw [List.take_length] at hR
   exact ⟨H1,L,hle1,hL,hLl,hR,hs.out⟩
theorem nC{v:Value}{en:Ent}{xs:List Rdg}{g:Nat}{cap:List Value}(q:Rdg→Bool)(hs:St H w (en::σ))(hO:cn 7 v (rdc xs).flatten en)(hl:xs.length≤1000000)(hc:∀args w,(callFunc g args).run Tryz.prog w= .ok (.enter g args) w)
  (hp:∀H' w σ (r:Rdg),HLe H H'→St H' w σ→Cl Tryz.prog g ([.agg r.c.toArray]++cap) w fun u w'=>∃H1,HLe H' H1∧u= .bool (q r)∧St H1 w' σ):
  Cl Tryz.prog 265 [v,.func (.func g) #[] cap.toArray] w fun u w'=>∃H1 i,HLe H H1∧u=I i∧((i= -1∧∀x∈xs,q x=false)∨(∃(k:Nat) (x:Rdg),i=k∧xs[k]? =some x∧q x=true∧∀j<k,∀y,xs[j]? =some y→q y=false))∧St H1 w' (en::σ):=by
 obtain ⟨a,c,rfl⟩:=hO.ek (eK _) aj
 rw [bU] at hO ⊢
 refine Cl.o Tryz.func265 Tryz.ntmps265 ag2 ?_
 refine .ai (.z zg (.nil (.seq (.ai (.z zm (.z (cH an) (.z zm (.nil ?_))))))))
 refine .for (N:=xs.length) (J:=fun k fr w=>fr=[(1,.func (.func g) #[] cap.toArray),(0,.slice a xs.length c)]∧∃H1,HLe H H1∧(∀j<k,∀y,xs[j]? =some y→q y=false)∧St H1 w (en::σ)) aj ?_ ?_ ?_
 ·exact .mk ⟨rfl,H,HLe.refl H,fun j hj=>by omega,hs⟩
 ·rintro k fr w hk ⟨rfl,H1,hle1,hno,hs⟩
  obtain ⟨x,hx⟩:=nth (l:=xs) hk
  obtain ⟨b,c',sp,hv,rfl,_⟩:=hO.Bt (eK _) aj (by rw [bU];omega)
  simp only [Value.slice.injEq] at hv
  obtain ⟨rfl,-,rfl⟩:=hv
  refine .block (.ai (.z zm (.z zg (.nil (.ai (.z zm (.z zm (.z zm (.z (lA an aA) ?_)))))))))
  refine .q hs (iC (vs:=x.c) rfl cq aA .here (nW (eK xs) (qE hx) sp)) ?_
  refine .o (.mr (first:=[]) (cap:=cap) rfl rfl hc (hp _ _ _ x hle1 hs) ?_);rintro _ w ⟨H2,hle2,rfl,hs⟩
  refine .nil ?_
  refine (.cond rfl (fun hc16=>?_) (fun hc16=>?_))
  ·refine .ai (.z zm (.z zg (.nil ?_)))
   refine .ret (rB (rT (rB (rT (Fin.bL Tryz.results265 rfl ?_)))))
   exact ⟨H2,_,hle1.trans hle2,rfl,.inr ⟨k,_,rfl,hx,hc16,hno⟩,hs⟩
  ·refine .skip ?_
   refine nB (nT ?_)
   exact .mk ⟨rfl,H2,hle1.trans hle2,eE hno hx hc16,hs⟩
 ·rintro fr w ⟨rfl,H1,hle1,hno,hs⟩
  refine nT ?_
  refine .ai (.z zg (.nil ?_))
  refine .ret (Fin.bL Tryz.results265 rfl ?_)
  exact ⟨H1,_,hle1,rfl,.inl ⟨rfl,fun x hx=>by
   obtain ⟨j,hj⟩:=List.getElem?_of_mem hx
   exact hno j (List.getElem?_eq_some_iff.1 hj).1 x hj⟩,hs⟩
set_option maxHeartbeats 1000000 in
theorem mI{v:Value}{en:Ent}{xs:List Rdg}{g:Nat}{cap:List Value}(q:Rdg→Bool)(hs:St H w (en::σ))(hO:cn 7 v (rdc xs).flatten en)(hl:xs.length≤1000000)(hc:∀args w,(callFunc g args).run Tryz.prog w= .ok (.enter g args) w)
  (hp:∀H' w σ (r:Rdg),HLe H H'→St H' w σ→Cl Tryz.prog g ([.agg r.c.toArray]++cap) w fun u w'=>∃H1,HLe H' H1∧u= .bool (q r)∧St H1 w' σ):
  Cl Tryz.prog 213 [v,.func (.func g) #[] cap.toArray] w fun u w'=>∃H1 en',HLe H H1∧cn 7 u (rdc (xs.filter fun x=> !q x)).flatten en'∧St H1 w' (en'::σ):=by
 obtain ⟨a,c,rfl⟩:=hO.ek (eK _) aj
 rw [bU] at hO ⊢
 refine Cl.o Tryz.func213 Tryz.ntmps213 ag2 ?_
 refine .ai (.z zg (.nil (.ai (.z zm (.z zm ?_)))))
 refine .o (.call Tryz.call265 rfl (nC q hs hO hl hc hp) ?_);rintro _ w ⟨H1,i0,hle1,rfl,hcase,hs⟩
 refine .z zg (.nil (.seq (.ai (.z zm (.z fL (.nil ?_))))))
 refine (.bJ rfl (fun hc12=>?_) (fun hc12=>?_))
 ·refine .ai (.z zm (.z zg (.nil ?_)))
  refine .ret (rT (Fin.bL Tryz.results213 rfl ?_))
  have hno:∀x∈xs,q x=false:=by
   rcases hcase with ⟨_,h⟩|⟨k,x,h,_⟩
   ·exact h
   ·omega
  have e:xs.filter (fun x=> !q x)=xs:=List.filter_eq_self.2 fun x hx=>by simp [hno x hx]
  exact ⟨H1,en,hle1,by rw [e];exact hO,hs⟩
 ·refine .skip ?_
  refine nT ?_
  refine .seq (.ai (.z zm ?_))
  obtain ⟨k0,x0,rfl,hx0,hq0,hno⟩:∃(k:Nat) (x:Rdg),i0=k∧xs[k]? =some x∧q x=true∧∀j<k,∀y,xs[j]? =some y→q y=false:=hcase.resolve_left fun h=>hc12 h.1
  have hk0:=(List.getElem?_eq_some_iff.1 hx0).1
  obtain ⟨b,c',sp,hv,rfl,hc'⟩:=hO.Bt (eK _) aj (by rw [bU];omega)
  simp only [Value.slice.injEq] at hv
  obtain ⟨rfl,-,rfl⟩:=hv
  have hcc:∀Y:List Rdg,((rdc Y).flatten++sp).length=Y.length*7+sp.length:=fun Y=>by rw [List.length_append,bq _ (eK _),bU]
  have hcap:xs.length≤c:=hO.le
  refine .z cA (.z zg (.nil (.block ?_)))
  refine .loop (fun p:Nat×Nat=>⟨42,[],[(5,I (p.1:Int)),(6,I (p.2:Int)),(1,.func (.func g) #[] cap.toArray),(0,.slice (some ⟨b,0,none⟩) xs.length c)]⟩)
   (fun p w=>k0<p.2∧∃Y H1,HLe H H1∧xl q xs Y p.1 p.2∧St H1 w (.blk b ((rdc Y).flatten++sp)::σ))
   (fun p=>xs.length - p.2) (k0,k0+1) (.cons rfl (.bX rfl (by dsimp only;omega) aU))
   ⟨by dsimp only;omega,xs,H1,hle1,.start hx0 hq0 hno,hs⟩ ?_
  clear hs hle1 hcase
  rintro ⟨i,j⟩ w ⟨hkj,Y,H1,hle1,hD,hs⟩
  dsimp only at hkj hD ⊢
  have hYl:=hD.len
  have hij:=hD.le
  have hjl:=hD.jl
  have hilt:=hD.lt hx0 hq0 hkj
  refine .seq (.ai (.z zm (.z zm (.z (cH an) (.z fj (.nil ?_))))))
  refine (.bJ rfl (fun hc19=>?_) (fun hc19=>?_))
  ·refine .skip ?_
   refine nT ?_
   refine .seq (.block (.ai (.z zm (.z zm ?_))))
   obtain ⟨x,hxY⟩:=nth (l:=Y) (k:=j) aj
   have hx:xs[j]? =some x:=by rw [←hD.rest j (Nat.le_refl _)];exact hxY
   refine .z (lA an aA) ?_
   refine .q hs (iC (vs:=x.c) rfl cq aA .here (nW (eK Y) (qE hxY) sp)) ?_
   refine .o (.alloc hs dC rfl fun b7 w hs=>?_)
   refine .o (.aV (vs:=x.c) hs rfl rfl aA fun w hs=>?_)
   refine .nil (.ai (.z zm (.y hs (zls [_,_,_,_,_,_,_] cq aA) ?_)))
   refine .o (.mr (first:=[]) (cap:=cap) rfl rfl hc (hp _ _ _ x hle1 hs) ?_);rintro _ w ⟨H2,hle2,rfl,hs⟩
   refine .z iO (.nil ?_)
   refine (.cond rfl (fun hc29=>?_) (fun hc29=>?_))
   ·refine .ai (.z zm (.z zm (.y hs (zls [_,_,_,_,_,_,_] cq aA) (.z (lA an aA) ?_))))
    refine .o (.aV (vs:=x.c) (c':=(rdc (Y.set i x)).flatten++sp) hs rfl rfl aA ?_ cJ (Nat.ble_eq_true_of_le (by rw [hcc];show i*7+7≤_;omega)) (by rw [wv (eK Y) (by rw [bU];omega) rfl sp];unfold rdc;rw [List.map_set]));intro w hs
    refine .nil (.region (.z zm (.z cA (.z zg (.nil ?_)))))
    refine nB (nT ?_)
    refine .region (.z zm (.z cA (.z zg (.nil ?_))))
    refine nT ?_
    exact ⟨(i+1,j+1),.bX rfl (by dsimp only;omega) (.bX rfl (by dsimp only;omega) aU),⟨by dsimp only;omega,_,H2,hle1.trans hle2,hD.keep hx (by simpa using hc29),hs.sb⟩,by dsimp only;omega⟩
   ·refine .skip ?_
    refine nB (nT ?_)
    refine .region (.z zm (.z cA (.z zg (.nil ?_))))
    refine nT ?_
    exact ⟨(i,j+1),.cons rfl (.bX rfl (by dsimp only;omega) aU),⟨by dsimp only;omega,_,H2,hle1.trans hle2,hD.skip hx (by simpa using hc29),hs.sb⟩,by dsimp only;omega⟩
  ·refine .exit ?_
   refine xT (xT (xB (nT ?_)))
   refine .ai (.z zm (.z zm ?_))
   obtain rfl:xs.length=j:=by omega
   refine .q hs (pD (k:=i) rfl rfl an aA aj aj) ?_
   rw [show 0+i*7=i*7 by omega]
   refine .o (.Da (c:=(rdc Y).flatten++sp) (m:=7) (zl:=List.replicate 7 (I 0)) hs rfl an dC rfl (fun v hv=>by rw [List.eq_of_mem_replicate hv];rfl) rfl aj (by rw [hcc];have:=Nat.sub_mul xs.length i 7;omega) ?_);intro w hs
   have hdone:=hD.done
   have hil:=hD.il
   rw [List.take_length] at hil
   have hfl:((rdc (xs.filter fun x=> !q x)).flatten).length=i*7:=by rw [bq _ (eK _),bU,←hil]
   rw [show (rdc Y).flatten++sp=(rdc (xs.filter fun x=> !q x)).flatten++(rdc (Y.drop i)).flatten++sp by
    rw [←hdone];unfold rdc;rw [←List.flatten_append,←List.map_append,List.take_append_drop]] at hs
   have hmid:=rZ (List.replicate (xs.length - i) (List.replicate 7 (I 0))).flatten (rdc (xs.filter fun x=> !q x)).flatten sp (rdc (Y.drop i)).flatten (by
    rw [bq _ (eK _),bU,List.length_drop,bq (m:=7) _ (fun c hc=>by rw [List.eq_of_mem_replicate hc];rfl),List.length_replicate,hYl])
   rw [hfl] at hmid
   rw [hmid,List.append_assoc] at hs
   refine .nil (.ai (.z zm (.z zm ?_)))
   refine .q hs (mR (k:=i) rfl rfl an aA aj) ?_
   refine .z zg (.nil ?_)
   refine .ret (Fin.bL Tryz.results213 rfl ?_)
   refine ⟨H1,_,hle1,.inr ⟨b,i,c,_,rfl,rfl,hfl,?_,aj⟩,hs⟩
   have h1:=hcc xs
   rcases hO with ⟨_,h,_⟩|⟨_,_,_,sp',e1,e2,e3,e4,e5⟩
   ·simp only [Value.slice.injEq] at h;omega
   ·cases e1
    simp only [Ent.blk.injEq,true_and] at e2
    have:=List.append_cancel_left e2
    subst this
    have hfx:(rdc xs).flatten.length=xs.length*7:=by rw [bq _ (eK _),bU]
    rw [List.length_append,List.length_append,hfl,bq (m:=7) _ (fun c hc=>by rw [List.eq_of_mem_replicate hc];rfl),List.length_replicate]
    have:=Nat.sub_mul xs.length i 7
    have:i*7≤xs.length*7:=Nat.mul_le_mul_right _ aj
    omega
theorem nE{v:Value}{en:Ent}{xs:List Cmp}{g:Nat}{cap:List Value}(q:Cmp→Bool)(hs:St H w (en::σ))(hO:cn 6 v (cmc xs).flatten en)(hl:xs.length≤1000000)(hc:∀args w,(callFunc g args).run Tryz.prog w= .ok (.enter g args) w)
  (hp:∀H' w σ (r:Cmp),HLe H H'→St H' w σ→Cl Tryz.prog g ([.agg r.c.toArray]++cap) w fun u w'=>∃H1,HLe H' H1∧u= .bool (q r)∧St H1 w' σ):
  Cl Tryz.prog 266 [v,.func (.func g) #[] cap.toArray] w fun u w'=>∃H1 i,HLe H H1∧u=I i∧((i= -1∧∀x∈xs,q x=false)∨(∃(k:Nat) (x:Cmp),i=k∧xs[k]? =some x∧q x=true∧∀j<k,∀y,xs[j]? =some y→q y=false))∧St H1 w' (en::σ):=by
 obtain ⟨a,c,rfl⟩:=hO.ek (gP _) aj
 rw [cV] at hO ⊢
 refine Cl.o Tryz.func266 Tryz.ntmps266 ag2 ?_
 refine .ai (.z zg (.nil (.seq (.ai (.z zm (.z (cH aC) (.z zm (.nil ?_))))))))
 refine .for (N:=xs.length) (J:=fun k fr w=>fr=[(1,.func (.func g) #[] cap.toArray),(0,.slice a xs.length c)]∧∃H1,HLe H H1∧(∀j<k,∀y,xs[j]? =some y→q y=false)∧St H1 w (en::σ)) aj ?_ ?_ ?_
 ·exact .mk ⟨rfl,H,HLe.refl H,fun j hj=>by omega,hs⟩
 ·rintro k fr w hk ⟨rfl,H1,hle1,hno,hs⟩
  obtain ⟨x,hx⟩:=nth (l:=xs) hk
  obtain ⟨b,c',sp,hv,rfl,_⟩:=hO.Bt (gP _) aj (by rw [cV];omega)
  simp only [Value.slice.injEq] at hv
  obtain ⟨rfl,-,rfl⟩:=hv
  refine .block (.ai (.z zm (.z zg (.nil (.ai (.z zm (.z zm (.z zm (.z (lA aC aP) ?_)))))))))
  refine .q hs (iC (vs:=x.c) rfl fh aP .here (nW (gP xs) (xV hx) sp)) ?_
  refine .o (.mr (first:=[]) (cap:=cap) rfl rfl hc (hp _ _ _ x hle1 hs) ?_);rintro _ w ⟨H2,hle2,rfl,hs⟩
  refine .nil ?_
  refine (.cond rfl (fun hc16=>?_) (fun hc16=>?_))
  ·refine .ai (.z zm (.z zg (.nil ?_)))
   refine .ret (rB (rT (rB (rT (Fin.bL Tryz.results266 rfl ?_)))))
   exact ⟨H2,_,hle1.trans hle2,rfl,.inr ⟨k,_,rfl,hx,hc16,hno⟩,hs⟩
  ·refine .skip ?_
   refine nB (nT ?_)
   exact .mk ⟨rfl,H2,hle1.trans hle2,eE hno hx hc16,hs⟩
 ·rintro fr w ⟨rfl,H1,hle1,hno,hs⟩
  refine nT ?_
  refine .ai (.z zg (.nil ?_))
  refine .ret (Fin.bL Tryz.results266 rfl ?_)
  exact ⟨H1,_,hle1,rfl,.inl ⟨rfl,fun x hx=>by
   obtain ⟨j,hj⟩:=List.getElem?_of_mem hx
   exact hno j (List.getElem?_eq_some_iff.1 hj).1 x hj⟩,hs⟩
set_option maxHeartbeats 1000000 in
theorem mJ{v:Value}{en:Ent}{xs:List Cmp}{g:Nat}{cap:List Value}(q:Cmp→Bool)(hs:St H w (en::σ))(hO:cn 6 v (cmc xs).flatten en)(hl:xs.length≤1000000)(hc:∀args w,(callFunc g args).run Tryz.prog w= .ok (.enter g args) w)
  (hp:∀H' w σ (r:Cmp),HLe H H'→St H' w σ→Cl Tryz.prog g ([.agg r.c.toArray]++cap) w fun u w'=>∃H1,HLe H' H1∧u= .bool (q r)∧St H1 w' σ):
  Cl Tryz.prog 215 [v,.func (.func g) #[] cap.toArray] w fun u w'=>∃H1 en',HLe H H1∧cn 6 u (cmc (xs.filter fun x=> !q x)).flatten en'∧St H1 w' (en'::σ):=by
 obtain ⟨a,c,rfl⟩:=hO.ek (gP _) aj
 rw [cV] at hO ⊢
 refine Cl.o Tryz.func215 Tryz.ntmps215 ag2 ?_
 refine .ai (.z zg (.nil (.ai (.z zm (.z zm ?_)))))
 refine .o (.call Tryz.call266 rfl (nE q hs hO hl hc hp) ?_);rintro _ w ⟨H1,i0,hle1,rfl,hcase,hs⟩
 refine .z zg (.nil (.seq (.ai (.z zm (.z fL (.nil ?_))))))
 refine (.bJ rfl (fun hc12=>?_) (fun hc12=>?_))
 ·refine .ai (.z zm (.z zg (.nil ?_)))
  refine .ret (rT (Fin.bL Tryz.results215 rfl ?_))
  have hno:∀x∈xs,q x=false:=by
   rcases hcase with ⟨_,h⟩|⟨k,x,h,_⟩
   ·exact h
   ·omega
  have e:xs.filter (fun x=> !q x)=xs:=List.filter_eq_self.2 fun x hx=>by simp [hno x hx]
  exact ⟨H1,en,hle1,by rw [e];exact hO,hs⟩
 ·refine .skip ?_
  refine nT ?_
  refine .seq (.ai (.z zm ?_))
  obtain ⟨k0,x0,rfl,hx0,hq0,hno⟩:∃(k:Nat) (x:Cmp),i0=k∧xs[k]? =some x∧q x=true∧∀j<k,∀y,xs[j]? =some y→q y=false:=hcase.resolve_left fun h=>hc12 h.1
  have hk0:=(List.getElem?_eq_some_iff.1 hx0).1
  obtain ⟨b,c',sp,hv,rfl,hc'⟩:=hO.Bt (gP _) aj (by rw [cV];omega)
  simp only [Value.slice.injEq] at hv
  obtain ⟨rfl,-,rfl⟩:=hv
  have hcc:∀Y:List Cmp,((cmc Y).flatten++sp).length=Y.length*6+sp.length:=fun Y=>by rw [List.length_append,bq _ (gP _),cV]
  have hcap:xs.length≤c:=hO.le
  refine .z cA (.z zg (.nil (.block ?_)))
  refine .loop (fun p:Nat×Nat=>⟨42,[],[(5,I (p.1:Int)),(6,I (p.2:Int)),(1,.func (.func g) #[] cap.toArray),(0,.slice (some ⟨b,0,none⟩) xs.length c)]⟩)
   (fun p w=>k0<p.2∧∃Y H1,HLe H H1∧xl q xs Y p.1 p.2∧St H1 w (.blk b ((cmc Y).flatten++sp)::σ))
   (fun p=>xs.length - p.2) (k0,k0+1) (.cons rfl (.bX rfl (by dsimp only;omega) aU))
   ⟨by dsimp only;omega,xs,H1,hle1,.start hx0 hq0 hno,hs⟩ ?_
  clear hs hle1 hcase
  rintro ⟨i,j⟩ w ⟨hkj,Y,H1,hle1,hD,hs⟩
  dsimp only at hkj hD ⊢
  have hYl:=hD.len
  have hij:=hD.le
  have hjl:=hD.jl
  have hilt:=hD.lt hx0 hq0 hkj
  refine .seq (.ai (.z zm (.z zm (.z (cH aC) (.z fj (.nil ?_))))))
  refine (.bJ rfl (fun hc19=>?_) (fun hc19=>?_))
  ·refine .skip ?_
   refine nT ?_
   refine .seq (.block (.ai (.z zm (.z zm ?_))))
   obtain ⟨x,hxY⟩:=nth (l:=Y) (k:=j) aj
   have hx:xs[j]? =some x:=by rw [←hD.rest j (Nat.le_refl _)];exact hxY
   refine .z (lA aC aP) ?_
   refine .q hs (iC (vs:=x.c) rfl fh aP .here (nW (gP Y) (xV hxY) sp)) ?_
   refine .o (.alloc hs gh rfl fun b7 w hs=>?_)
   refine .o (.aV (vs:=x.c) hs rfl rfl aP fun w hs=>?_)
   refine .nil (.ai (.z zm (.y hs (zls [_,_,_,_,_,_] fh aP) ?_)))
   refine .o (.mr (first:=[]) (cap:=cap) rfl rfl hc (hp _ _ _ x hle1 hs) ?_);rintro _ w ⟨H2,hle2,rfl,hs⟩
   refine .z iO (.nil ?_)
   refine (.cond rfl (fun hc29=>?_) (fun hc29=>?_))
   ·refine .ai (.z zm (.z zm (.y hs (zls [_,_,_,_,_,_] fh aP) (.z (lA aC aP) ?_))))
    refine .o (.aV (vs:=x.c) (c':=(cmc (Y.set i x)).flatten++sp) hs rfl rfl aP ?_ cJ (Nat.ble_eq_true_of_le (by rw [hcc];show i*6+6≤_;omega)) (by rw [wv (gP Y) (by rw [cV];omega) rfl sp];unfold cmc;rw [List.map_set]));intro w hs
    refine .nil (.region (.z zm (.z cA (.z zg (.nil ?_)))))
    refine nB (nT ?_)
    refine .region (.z zm (.z cA (.z zg (.nil ?_))))
    refine nT ?_
    exact ⟨(i+1,j+1),.bX rfl (by dsimp only;omega) (.bX rfl (by dsimp only;omega) aU),⟨by dsimp only;omega,_,H2,hle1.trans hle2,hD.keep hx (by simpa using hc29),hs.sb⟩,by dsimp only;omega⟩
   ·refine .skip ?_
    refine nB (nT ?_)
    refine .region (.z zm (.z cA (.z zg (.nil ?_))))
    refine nT ?_
    exact ⟨(i,j+1),.cons rfl (.bX rfl (by dsimp only;omega) aU),⟨by dsimp only;omega,_,H2,hle1.trans hle2,hD.skip hx (by simpa using hc29),hs.sb⟩,by dsimp only;omega⟩
  ·refine .exit ?_
   refine xT (xT (xB (nT ?_)))
   refine .ai (.z zm (.z zm ?_))
   obtain rfl:xs.length=j:=by omega
   refine .q hs (pD (k:=i) rfl rfl aC aP aj aj) ?_
   rw [show 0+i*6=i*6 by omega]
   refine .o (.Da (c:=(cmc Y).flatten++sp) (m:=6) (zl:=List.replicate 6 (I 0)) hs rfl aC gh rfl (fun v hv=>by rw [List.eq_of_mem_replicate hv];rfl) rfl aj (by rw [hcc];have:=Nat.sub_mul xs.length i 6;omega) ?_);intro w hs
   have hdone:=hD.done
   have hil:=hD.il
   rw [List.take_length] at hil
   have hfl:((cmc (xs.filter fun x=> !q x)).flatten).length=i*6:=by rw [bq _ (gP _),cV,←hil]
   rw [show (cmc Y).flatten++sp=(cmc (xs.filter fun x=> !q x)).flatten++(cmc (Y.drop i)).flatten++sp by
    rw [←hdone];unfold cmc;rw [←List.flatten_append,←List.map_append,List.take_append_drop]] at hs
   have hmid:=rZ (List.replicate (xs.length - i) (List.replicate 6 (I 0))).flatten (cmc (xs.filter fun x=> !q x)).flatten sp (cmc (Y.drop i)).flatten (by
    rw [bq _ (gP _),cV,List.length_drop,bq (m:=6) _ (fun c hc=>by rw [List.eq_of_mem_replicate hc];rfl),List.length_replicate,hYl])
   rw [hfl] at hmid
   rw [hmid,List.append_assoc] at hs
   refine .nil (.ai (.z zm (.z zm ?_)))
   refine .q hs (mR (k:=i) rfl rfl aC aP aj) ?_
   refine .z zg (.nil ?_)
   refine .ret (Fin.bL Tryz.results215 rfl ?_)
   refine ⟨H1,_,hle1,.inr ⟨b,i,c,_,rfl,rfl,hfl,?_,aj⟩,hs⟩
   have h1:=hcc xs
   rcases hO with ⟨_,h,_⟩|⟨_,_,_,sp',e1,e2,e3,e4,e5⟩
   ·simp only [Value.slice.injEq] at h;omega
   ·cases e1
    simp only [Ent.blk.injEq,true_and] at e2
    have:=List.append_cancel_left e2
    subst this
    have hfx:(cmc xs).flatten.length=xs.length*6:=by rw [bq _ (gP _),cV]
    rw [List.length_append,List.length_append,hfl,bq (m:=6) _ (fun c hc=>by rw [List.eq_of_mem_replicate hc];rfl),List.length_replicate]
    have:=Nat.sub_mul xs.length i 6
    have:i*6≤xs.length*6:=Nat.mul_le_mul_right _ aj
    omega
theorem qH{b:Nat}{x:Int}{r:Rdg}(hs:St H w σ)(hb:Row H b [I x]):
  Cl Tryz.prog 214 [.agg r.c.toArray,.pointer (some ⟨b,0,none⟩)] w fun u w'=>∃H1,HLe H H1∧u= .bool (decide (r.src=x))∧St H1 w' σ:=by
 have hb0:=hb.at 0
 refine Cl.o Tryz.func214 Tryz.ntmps214 ag2 ?_
 refine .ai ?_
 refine .o (.box (cl:=r.c) hs rfl rfl fun b2 w hs=>?_)
 refine .z zg (.nil (.ai (.z (zfa dk) (.y hs (zld ae) (.y hs (zld ae) (.z fL (.z zg (.nil ?_))))))))
 refine .ret (Fin.bL Tryz.results214 rfl ?_)
 exact ⟨H,HLe.refl H,rfl,hs.out⟩
theorem qG{b:Nat}{x:Int}{r:Cmp}(hs:St H w σ)(hb:Row H b [I x]):
  Cl Tryz.prog 216 [.agg r.c.toArray,.pointer (some ⟨b,0,none⟩)] w fun u w'=>∃H1,HLe H H1∧u= .bool (decide (r.src=x))∧St H1 w' σ:=by
 have hb0:=hb.at 0
 refine Cl.o Tryz.func216 Tryz.ntmps216 ag2 ?_
 refine .ai ?_
 refine .o (.box (cl:=r.c) hs rfl rfl fun b2 w hs=>?_)
 refine .z zg (.nil (.ai (.z (zfa dX) (.y hs (zld ae) (.y hs (zld ae) (.z fL (.z zg (.nil ?_))))))))
 refine .ret (Fin.bL Tryz.results216 rfl ?_)
 exact ⟨H,HLe.refl H,rfl,hs.out⟩
set_option maxHeartbeats 1000000 in
theorem iD{s:Srv}{x:Int}{vst vwa vr vc:Value}(hs:St H w σ)(h1:RI H vst s.sp.st)(h2:RI H vwa s.sp.wa)(h3:RRd H vr s.rs)(h4:RCm H vc s.cs)
  (l1:s.sp.st.length≤1000000) (l2:s.sp.wa.length≤1000000) (l3:s.rs.length≤1000000) (l4:s.cs.length≤1000000):
  Cl Tryz.prog 148 [.agg #[I s.sp.id,I s.sp.src,vst,vwa,I s.sp.al,I s.sp.up,vr,vc],I x] w fun u w'=>∃H1 ust uwa ur uc e1 e2 e3 e4,HLe H H1∧u= .agg #[I s.sp.id,I s.sp.src,ust,uwa,I s.sp.al,I s.sp.up,ur,uc]∧wc (s.no x) ust uwa ur uc e1 e2 e3 e4∧St H1 w' (e1::e2::e3::e4::σ):=by
 obtain ⟨ast,cst,rfl⟩:=RI.shape h1
 obtain ⟨awa,cwa,rfl⟩:=RI.shape h2
 obtain ⟨ar,cr,rfl⟩:=RRd.shape h3
 obtain ⟨ac,cc,rfl⟩:=RCm.shape h4
 refine Cl.o Tryz.func148 Tryz.ntmps148 ag2 ?_
 refine .ai ?_
 refine .bx hs fun b2 w hs=>?_
 refine .bx hs fun b3 w hs=>?_
 refine .o (.alloc hs bZ rfl fun b4 w hs=>?_)
 refine .nil (.ai (.y hs (zls [_,_,_,_,_,_,_,_] aF az) ?_))
 refine .o (.call Tryz.call122 rfl (oD (s:=s) hs h1 h2 h3 h4 l1 l2 l3 l4) ?_);rintro _ w ⟨ust,uwa,ur,uc,e1,e2,e3,e4,rfl,⟨hO1,hO2,hO3,hO4⟩,hs⟩
 obtain ⟨a1,c1,rfl⟩:=hO1.mK
 obtain ⟨a2,c2,rfl⟩:=hO2.mK
 obtain ⟨a3,c3,rfl⟩:=hO3.ek (eK _) aj
 obtain ⟨a4,c4,rfl⟩:=hO4.ek (gP _) aj
 refine .o (.aV (vs:=[_,_,_,_,_,_,_,_]) hs rfl rfl az fun w hs=>?_)
 refine .nil (.ai (.z (zfa aD) (.y hs (zld aO) ?_)))
 refine .q hs (dx (f:=[]) (c:=[_]) rfl rfl) ?_
 obtain ⟨H1,hle1,hb3,hs⟩:=hs.cI (b:=b3) cJ
 replace hs:=hs.sub (τ:=e3::e1::e2::e4:: .blk b4 _:: .blk b2 _::σ) (by repeat (first|exact Sub.refl _|constructor|apply Sub.weaken))
 refine .o (.call Tryz.call213 rfl (mI (g:=214) (cap:=[.pointer (some ⟨b3,0,none⟩)]) (fun r=>decide (r.src=x)) hs hO3 l3 Tryz.call214 (fun H' w σ r hle hs=>qH hs (hb3.mono hle))) ?_);rintro v10 w ⟨H2,e3',hle2,hO3',hs⟩
 obtain ⟨a10,c10,rfl⟩:=hO3'.ek (eK _) aj
 refine .z (zfa aD) ?_
 refine .o (.store hs rfl rfl fT fun w hs=>?_)
 refine .nil (.ai (.z (zfa aR) (.y hs (zld bI) ?_)))
 refine .q hs (dx (f:=[]) (c:=[_]) rfl rfl) ?_
 replace hs:=hs.sub (τ:=e4::e1::e2::e3':: .blk b4 _:: .blk b2 _::σ) (by repeat (first|exact Sub.refl _|constructor|apply Sub.weaken))
 refine .o (.call Tryz.call215 rfl (mJ (g:=216) (cap:=[.pointer (some ⟨b3,0,none⟩)]) (fun r=>decide (r.src=x)) hs hO4 l4 Tryz.call216 (fun H' w σ r hle hs=>qG hs (hb3.mono (hle2.trans hle)))) ?_);rintro v15 w ⟨H3,e4',hle3,hO4',hs⟩
 obtain ⟨a15,c15,rfl⟩:=hO4'.ek (gP _) aj
 refine .z (zfa aR) ?_
 refine .o (.store hs rfl rfl lQ fun w hs=>?_)
 refine .nil (.ai (.y hs (zls [_,_,_,_,_,_,_,_] aF az) ?_))
 refine .o (.aV (vs:=[_,_,_,_,_,_,_,_]) hs rfl rfl az fun w hs=>?_)
 refine .nil ?_
 refine .ret ?_
 exact Fin.gO [] [] hs fun w hs=>⟨_,results1 Tryz.results148 (dA (vs:=[_,_,_,_,_,_,_,_]) hs rfl aF az),H3,_,_,_,_,e1,e2,e3',e4',hle1.trans (hle2.trans hle3),rfl,⟨hO1,hO2,hO3',hO4'⟩,hs.sb⟩
set_option maxHeartbeats 1000000 in
theorem nH{s:Srv}{x:Int}{vst vwa vr vc:Value}(hs:St H w σ)(h1:RI H vst s.sp.st)(h2:RI H vwa s.sp.wa)(h3:RRd H vr s.rs)(h4:RCm H vc s.cs):
  Cl Tryz.prog 65 [.agg #[I s.sp.id,I s.sp.src,vst,vwa,I s.sp.al,I s.sp.up,vr,vc],I x] w fun u w'=>∃H1 v t e,HLe H H1∧u= .tuple #[v,I e]∧RSv H1 v t∧xe s x t e∧St H1 w' σ:=by
 obtain ⟨ast,cst,rfl⟩:=RI.shape h1
 obtain ⟨awa,cwa,rfl⟩:=RI.shape h2
 obtain ⟨ar,cr,rfl⟩:=RRd.shape h3
 obtain ⟨ac,cc,rfl⟩:=RCm.shape h4
 refine Cl.o Tryz.func65 Tryz.ntmps65 ag2 ?_
 refine .ai ?_
 refine .bx hs fun b2 w hs=>?_
 refine .o (.alloc hs bZ rfl fun b4 w hs=>?_)
 refine .z zg (.nil (.seq (.ai (.y hs (zls [_,_,_,_,_,_,_,_] aF az) ?_))))
 refine .o (.call Tryz.call42 rfl (fo (s:=s) hs h1 h2 h3 h4) ?_);rintro _ w ⟨H1,e,hle1,rfl,hC,hs⟩
 refine .z zg (.nil (.ai (.z zm (.z iw (.nil ?_)))))
 refine (.fc rfl (fun hc10=>?_) (fun hc10=>?_))
 ·refine .ai (.z (zbd [_,_,_,_,_,_,_,_] eC) (.z zm ?_))
  refine .o (.aV (vs:=[_,_,_,_,_,_,_,_]) hs rfl rfl az fun w hs=>?_)
  refine .z zg (.nil ?_)
  refine .ret (rT (?_))
  exact Fin.gO [] [] hs fun w hs=>⟨_,results2 Tryz.results65 (dA (vs:=[_,_,_,_,_,_,_,_]) hs rfl aF az) rfl,H1,_,Dp,_,hle1,rfl,Fe _,.bad hC hc10,hs.out⟩
 ·refine .skip ?_
  refine nT ?_
  refine .seq (.ai (.y hs (zls [_,_,_,_,_,_,_,_] aF az) ?_))
  have hok:ez s:=hC.dG.1 (by simpa using hc10)
  have hsm:=ea hok.early.1
  have hrl:=hok.early.2.1
  have hcl:=hok.early.2.2.1
  refine .o (.call Tryz.call137 rfl (jw (s:=s) hs (h3.mono hle1) (h4.mono hle1) aj aj) ?_);rintro v14 w ⟨L,en,hO,hLl,hR,hs⟩
  obtain ⟨H2,hle2,hL,hs⟩:=cn.cN hO aj hs .here
  have hle02:=hle1.trans hle2
  refine .z zm ?_
  refine .o (.call Tryz.call130 rfl (kc hs hL) ?_);rintro _ w ⟨rfl,hs⟩
  refine .z iO (.nil ?_)
  refine (.cond rfl (fun hc17=>?_) (fun hc17=>?_))
  ·refine .ai (.z (zbd [_,_,_,_,_,_,_,_] eC) ?_)
   refine .o (.aV (vs:=[_,_,_,_,_,_,_,_]) hs rfl rfl az fun w hs=>?_)
   refine .z zg (.nil ?_)
   refine .ret (rT (?_))
   exact Fin.gO [] [] hs fun w hs=>⟨_,results2 Tryz.results65 (dA (vs:=[_,_,_,_,_,_,_,_]) hs rfl aF az) rfl,H2,_,Dp,_,hle02,rfl,Fe _,.none hok (fun h=>by have:=(hR.mem x).2 h;simp_all),hs.out⟩
  ·refine .skip ?_
   refine nT ?_
   refine .ai (.y hs (zls [_,_,_,_,_,_,_,_] aF az) (.z zm ?_))
   have hx:s.Src x:=(hR.mem x).1 (by simp_all)
   refine .o (.call Tryz.call148 rfl (iD (s:=s) (x:=x) hs (h1.mono hle02) (h2.mono hle02) (h3.mono hle02) (h4.mono hle02) aj aj aj aj) ?_);rintro _ w ⟨H3,ust,uwa,ur,uc,e1,e2,e3,e4,hle3,rfl,hV,hs⟩
   have hle03:=hle02.trans hle3
   have hokn:=(va s x).ok hok
   obtain ⟨H4,hle4,r1,r2,r3,r4,hs,-⟩:=wc.ux hV (by show s.sp.st.length≤_;omega) (by show s.sp.wa.length≤_;omega) (by have:=hokn.early.2.1;omega) (by have:=hokn.early.2.2.1;omega) hs
   obtain ⟨_,_,rfl⟩:=RI.shape r1
   obtain ⟨_,_,rfl⟩:=RI.shape r2
   obtain ⟨_,_,rfl⟩:=RRd.shape r3
   obtain ⟨_,_,rfl⟩:=RCm.shape r4
   refine .o (.aV (vs:=[_,_,_,_,_,_,_,_]) hs rfl rfl az fun w hs=>?_)
   refine .z zg (.nil ?_)
   refine .ret ?_
   exact Fin.gO [] [] hs fun w hs=>⟨_,results2 Tryz.results65 (dA (vs:=[_,_,_,_,_,_,_,_]) hs rfl aF az) rfl,H4,_,s.no x,_,hle03.trans hle4,rfl,⟨_,_,_,_,rfl,r1,r2,r3,r4⟩,.ok hok hx,hs.out⟩
set_option maxHeartbeats 2000000 in
theorem jk{s:Srv}{x:Int}{vst vwa vr vc:Value}(hs:St H w σ)(h1:RI H vst s.sp.st)(h2:RI H vwa s.sp.wa)(h3:RRd H vr s.rs)(h4:RCm H vc s.cs)
  (l1:s.sp.st.length≤1000000) (l2:s.sp.wa.length≤1000000) (l3:s.rs.length≤1000000) (l4:s.cs.length≤1000000):
  Cl Tryz.prog 149 [.agg #[I s.sp.id,I s.sp.src,vst,vwa,I s.sp.al,I s.sp.up,vr,vc],I x] w fun u w'=>∃ust uwa ur uc e1 e2 e3 e4,u= .agg #[I s.sp.id,I s.sp.src,ust,uwa,I s.sp.al,I s.sp.up,ur,uc]∧wc (s.no x) ust uwa ur uc e1 e2 e3 e4∧St H w' (e1::e2::e3::e4::σ):=by
 obtain ⟨ast,cst,rfl⟩:=RI.shape h1
 obtain ⟨awa,cwa,rfl⟩:=RI.shape h2
 obtain ⟨ar,cr,rfl⟩:=RRd.shape h3
 obtain ⟨ac,cc,rfl⟩:=RCm.shape h4
 refine Cl.o Tryz.func149 Tryz.ntmps149 ag2 ?_
 refine .ai ?_
 refine .bx hs fun b2 w hs=>?_
 refine .o (.alloc hs bZ rfl fun b4 w hs=>?_)
 refine .nil (.ai (.y hs (zls [_,_,_,_,_,_,_,_] aF az) ?_))
 refine .o (.call Tryz.call123 rfl (sP (s:=s) hs h1 h2 h3 h4 l1 l2 l3 l4) ?_);rintro _ w ⟨ust,uwa,ur,uc,e1,e2,e3,e4,rfl,⟨hO1,hO2,hO3,hO4⟩,hs⟩
 obtain ⟨a1,c1,rfl⟩:=hO1.mK
 obtain ⟨a2,c2,rfl⟩:=hO2.mK
 obtain ⟨a3,c3,rfl⟩:=hO3.ek (eK _) aj
 obtain ⟨a4,c4,rfl⟩:=hO4.ek (gP _) aj
 clear hO3 hO4
 refine .o (.alloc hs bZ rfl fun b5 w hs=>?_)
 refine .o (.aV (vs:=[_,_,_,_,_,_,_,_]) hs rfl rfl az fun w hs=>?_)
 refine .nil (.ai (.z (zfa aD) ?_))
 refine .o (.store hs rfl rfl fT fun w hs=>?_)
 refine .nil (.ai (.z (zfa aR) ?_))
 refine .o (.store hs rfl rfl lQ fun w hs=>?_)
 refine .nil (.seq (.ai (.z zg (.nil (.block ?_)))))
 refine .loop (fun k:Nat=>⟨63,[],[(6,I (k:Int)),(1,I x),(5,.pointer (some ⟨b5,0,none⟩)),(4,.pointer (some ⟨b4,0,none⟩)),(2,.pointer (some ⟨b2,0,none⟩))]⟩)
  (fun k w=>k≤s.rs.length∧∃vr en,cn 7 vr (rdc ((s.rs.take k).filter fun r=> !decide (r.src=x))).flatten en∧St H w (.blk b5 [I s.sp.id,I s.sp.src,.slice a1 s.sp.st.length c1,.slice a2 s.sp.wa.length c2,I s.sp.al,I s.sp.up,vr,.slice none 0 0]::en::e1::e2:: .blk b4 [I 0,I 0,.slice none 0 0,.slice none 0 0,I 0,I 0,.slice none 0 0,.slice none 0 0]:: .blk b2 [I s.sp.id,I s.sp.src,.slice ast s.sp.st.length cst,.slice awa s.sp.wa.length cwa,I s.sp.al,I s.sp.up,.slice ar s.rs.length cr,.slice ac s.cs.length cc]::σ)) (fun k=>s.rs.length - k) 0 aU
  ⟨Nat.zero_le _,_,.nul,.nil 7 none,hs.nul.sb⟩ ?_
 clear hs
 rintro k w ⟨hk,vr,en,hO,hs⟩
 obtain ⟨ao,co,rfl⟩:=hO.ek (eK _) aj
 have hfl:=List.length_filter_le (fun r:Rdg=> !decide (r.src=x)) (s.rs.take k)
 rw [List.length_take] at hfl
 refine .seq (.ai (.z zm (.z (zfa aD) (.y hs (zld aO) (.z (cH an) (.z fj (.nil ?_)))))))
 refine (.bJ rfl (fun hc16=>?_) (fun hc16=>?_))
 ·refine .skip ?_
  refine nT ?_
  refine .seq (.block (.ai (.z (zfa aD) (.y hs (zld aO) (.z zm ?_)))))
  obtain ⟨r,hx⟩:=nth (l:=s.rs) (k:=k) aj
  refine .ixX (enc:=Rdg.c) hs h3 rfl rfl an aA hx cM ?_;intro b22 o22 hc22
  refine .z (zfa dk) ?_
  refine .q hs (aK rfl ae (hc22.get 0 rfl)) ?_
  refine .z zm (.z iw (.nil ?_))
  refine (.fc rfl (fun hc26=>?_) (fun hc26=>?_))
  ·refine .draw mix rfl hs fun w hs=>?_
   refine .z 0 rfl (zfa aD) ?_;refine .y 1 rfl hs aO ?_;refine .z 2 rfl (zfa aD) ?_;refine .y 3 rfl hs aO ?_;refine .z 4 rfl zm ?_
   refine .ixX (enc:=Rdg.c) (i:=5) hs rfl aq .none h3 rfl rfl an aA hx cM ?_;intro b32 o32 hc32
   refine .r (i:=6) hs rfl aq .none (bY (vs:=r.c) rfl cq aA hc32) ?_
   refine .E 7 hs ?_
   refine .buildSlice (cells:=r.c) hs ee rfl aq ?_;intro b34 w hs
   refine .go ?_
   refine .E 8 hs ?_
   refine .append (ys:=r.c) hs bA rfl rfl hO (.own (c:=r.c) (by first|exact .here|exact .there .here) rfl rfl) (by simp [Rdg.c,Value.oneCell']) (fun l' h=>by rw [bq _ (eK _),bU] at h;omega) ?_;intro v35 en35 w hO2 hs
   rw [←np] at hO2
   obtain ⟨a35,c35,rfl⟩:=hO2.ek (eK _) aj
   refine .go ?_
   refine .z 9 rfl (zfa aD) ?_
   refine .E 10 hs ?_
   refine .store hs rfl rfl fT ?_;intro w hs
   refine .go ?_
   refine .D hs ?_
   refine nB (nT ?_)
   refine .region (.z zm (.z cA (.z zg (.nil ?_))))
   refine nT ?_
   exact ⟨k+1,.bX rfl bQ aU,⟨aj,_,en35,by
    rw [cB hx,List.filter_append,show [r].filter (fun r=> !decide (r.src=x))=[r] by simp;simpa using hc26];exact hO2,hs.sb⟩,aj⟩
  ·refine .skip ?_
   refine nB (nT ?_)
   refine .region (.z zm (.z cA (.z zg (.nil ?_))))
   refine nT ?_
   exact ⟨k+1,.bX rfl bQ aU,⟨aj,_,en,by
    rw [cB hx,List.filter_append,show [r].filter (fun r=> !decide (r.src=x))=[] by simp;simpa using hc26,List.append_nil];exact hO,hs.sb⟩,aj⟩
 ·refine .exit ?_
  refine xT (xT (xB (nT ?_)))
  refine .seq (.ai (.z zg (.nil (.block ?_))))
  obtain rfl:k=s.rs.length:=by omega
  rw [List.take_length] at hO hs hfl
  refine .loop (fun k:Nat=>⟨63,[],[(7,I (k:Int)),(1,I x),(5,.pointer (some ⟨b5,0,none⟩)),(4,.pointer (some ⟨b4,0,none⟩)),(2,.pointer (some ⟨b2,0,none⟩))]⟩)
   (fun k w=>k≤s.cs.length∧∃vc ec,cn 6 vc (cmc ((s.cs.take k).filter fun r=> !decide (r.src=x))).flatten ec∧St H w (.blk b5 [I s.sp.id,I s.sp.src,.slice a1 s.sp.st.length c1,.slice a2 s.sp.wa.length c2,I s.sp.al,I s.sp.up,.slice ao (rdc (s.rs.filter fun r=> !decide (r.src=x))).length co,vc]::ec::en::e1::e2:: .blk b4 [I 0,I 0,.slice none 0 0,.slice none 0 0,I 0,I 0,.slice none 0 0,.slice none 0 0]:: .blk b2 [I s.sp.id,I s.sp.src,.slice ast s.sp.st.length cst,.slice awa s.sp.wa.length cwa,I s.sp.al,I s.sp.up,.slice ar s.rs.length cr,.slice ac s.cs.length cc]::σ)) (fun k=>s.cs.length - k) 0 aU
   ⟨Nat.zero_le _,_,.nul,.nil 6 none,hs.nul.sb⟩ ?_
  clear hs
  rintro k w ⟨hk,vc,ec,hOc,hs⟩
  obtain ⟨ap,cp,rfl⟩:=hOc.ek (gP _) aj
  have hfc:=List.length_filter_le (fun r:Cmp=> !decide (r.src=x)) (s.cs.take k)
  rw [List.length_take] at hfc
  refine .seq (.ai (.z zm (.z (zfa aR) (.y hs (zld bI) (.z (cH aC) (.z fj (.nil ?_)))))))
  refine (.bJ rfl (fun hc41=>?_) (fun hc41=>?_))
  ·refine .skip ?_
   refine nT ?_
   refine .seq (.block (.ai (.z (zfa aR) (.y hs (zld bI) (.z zm ?_)))))
   obtain ⟨r,hx⟩:=nth (l:=s.cs) (k:=k) aj
   refine .ixX (enc:=Cmp.c) hs h4 rfl rfl aC aP hx cM ?_;intro b47 o47 hc47
   refine .z (zfa dX) ?_
   refine .q hs (aK rfl ae (hc47.get 0 rfl)) ?_
   refine .z zm (.z iw (.nil ?_))
   refine (.fc rfl (fun hc51=>?_) (fun hc51=>?_))
   ·refine .draw mix rfl hs fun w hs=>?_
    refine .z 0 rfl (zfa aR) ?_;refine .y 1 rfl hs bI ?_;refine .z 2 rfl (zfa aR) ?_;refine .y 3 rfl hs bI ?_;refine .z 4 rfl zm ?_
    refine .ixX (enc:=Cmp.c) (i:=5) hs rfl aq .none h4 rfl rfl aC aP hx cM ?_;intro b57 o57 hc57
    refine .r (i:=6) hs rfl aq .none (bY (vs:=r.c) rfl fh aP hc57) ?_
    refine .E 7 hs ?_
    refine .buildSlice (cells:=r.c) hs gW rfl aq ?_;intro b59 w hs
    refine .go ?_
    refine .E 8 hs ?_
    refine .append (ys:=r.c) hs cK rfl rfl hOc (.own (c:=r.c) (by first|exact .here|exact .there .here) rfl rfl) (by simp [Cmp.c,Value.oneCell']) (fun l' h=>by rw [bq _ (gP _),cV] at h;omega) ?_;intro v60 en60 w hO2 hs
    rw [←vG] at hO2
    obtain ⟨a60,c60,rfl⟩:=hO2.ek (gP _) aj
    refine .go ?_
    refine .z 9 rfl (zfa aR) ?_
    refine .E 10 hs ?_
    refine .store hs rfl rfl lQ ?_;intro w hs
    refine .go ?_
    refine .D hs ?_
    refine nB (nT ?_)
    refine .region (.z zm (.z cA (.z zg (.nil ?_))))
    refine nT ?_
    exact ⟨k+1,.bX rfl bQ aU,⟨aj,_,en60,by
     rw [cB hx,List.filter_append,show [r].filter (fun r=> !decide (r.src=x))=[r] by simp;simpa using hc51];exact hO2,hs.sb⟩,aj⟩
   ·refine .skip ?_
    refine nB (nT ?_)
    refine .region (.z zm (.z cA (.z zg (.nil ?_))))
    refine nT ?_
    exact ⟨k+1,.bX rfl bQ aU,⟨aj,_,ec,by
     rw [cB hx,List.filter_append,show [r].filter (fun r=> !decide (r.src=x))=[] by simp;simpa using hc51,List.append_nil];exact hOc,hs.sb⟩,aj⟩
  ·refine .exit ?_
   refine xT (xT (xB (nT ?_)))
   refine .ai (.y hs (zls [_,_,_,_,_,_,_,_] aF az) ?_)
   refine .o (.aV (vs:=[_,_,_,_,_,_,_,_]) hs rfl rfl az fun w hs=>?_)
   refine .nil ?_
   refine .ret ?_
   obtain rfl:k=s.cs.length:=by omega
   rw [List.take_length] at hOc hs
   exact Fin.gO [] [] hs fun w hs=>⟨_,results1 Tryz.results149 (dA (vs:=[_,_,_,_,_,_,_,_]) hs rfl aF az),_,_,_,_,e1,e2,en,ec,rfl,⟨hO1,hO2,hO,hOc⟩,hs.sb⟩
set_option maxHeartbeats 1000000 in
theorem px{s:Srv}{x:Int}{vst vwa vr vc:Value}(hs:St H w σ)(h1:RI H vst s.sp.st)(h2:RI H vwa s.sp.wa)(h3:RRd H vr s.rs)(h4:RCm H vc s.cs):
  Cl Tryz.prog 66 [.agg #[I s.sp.id,I s.sp.src,vst,vwa,I s.sp.al,I s.sp.up,vr,vc],I x] w fun u w'=>∃H1 v t e,HLe H H1∧u= .tuple #[v,I e]∧RSv H1 v t∧xe s x t e∧St H1 w' σ:=by
 obtain ⟨ast,cst,rfl⟩:=RI.shape h1
 obtain ⟨awa,cwa,rfl⟩:=RI.shape h2
 obtain ⟨ar,cr,rfl⟩:=RRd.shape h3
 obtain ⟨ac,cc,rfl⟩:=RCm.shape h4
 refine Cl.o Tryz.func66 Tryz.ntmps66 ag2 ?_
 refine .ai ?_
 refine .bx hs fun b2 w hs=>?_
 refine .o (.alloc hs bZ rfl fun b4 w hs=>?_)
 refine .z zg (.nil (.ai (.y hs (zls [_,_,_,_,_,_,_,_] aF az) ?_)))
 refine .o (.call Tryz.call43 rfl (lT (s:=s) hs h1 h2 h3 h4) ?_);rintro _ w ⟨H1,e,hle1,rfl,hC,hs⟩
 refine .z zg (.nil (.seq (.ai (.z zm (.z iw (.nil ?_))))))
 refine (.fc rfl (fun hc11=>?_) (fun hc11=>?_))
 ·refine .ai (.z (zbd [_,_,_,_,_,_,_,_] eC) (.z zm ?_))
  refine .o (.aV (vs:=[_,_,_,_,_,_,_,_]) hs rfl rfl az fun w hs=>?_)
  refine .z zg (.nil ?_)
  refine .ret (rT (?_))
  exact Fin.gO [] [] hs fun w hs=>⟨_,results2 Tryz.results66 (dA (vs:=[_,_,_,_,_,_,_,_]) hs rfl aF az) rfl,H1,_,Dp,_,hle1,rfl,Fe _,.bad hC hc11,hs.out⟩
 ·refine .skip ?_
  refine nT ?_
  refine .ai (.y hs (zls [_,_,_,_,_,_,_,_] aF az) (.z zm ?_))
  have hok:ez s:=hC.dG.1 (by simpa using hc11)
  have hsm:=ea hok.early.1
  have hrl:=hok.early.2.1
  have hcl:=hok.early.2.2.1
  refine .o (.call Tryz.call149 rfl (jk (s:=s) (x:=x) hs (h1.mono hle1) (h2.mono hle1) (h3.mono hle1) (h4.mono hle1) aj aj aj aj) ?_);rintro _ w ⟨ust,uwa,ur,uc,e1,e2,e3,e4,rfl,hV,hs⟩
  have hokn:=(va s x).ok hok
  obtain ⟨H2,hle2,r1,r2,r3,r4,hs,-⟩:=wc.ux hV (by show s.sp.st.length≤_;omega) (by show s.sp.wa.length≤_;omega) (by have:=hokn.early.2.1;omega) (by have:=hokn.early.2.2.1;omega) hs
  have hle02:=hle1.trans hle2
  obtain ⟨_,_,rfl⟩:=RI.shape r1
  obtain ⟨_,_,rfl⟩:=RI.shape r2
  obtain ⟨_,_,rfl⟩:=RRd.shape r3
  obtain ⟨_,_,rfl⟩:=RCm.shape r4
  refine .o (.alloc hs bZ rfl fun b7 w hs=>?_)
  refine .o (.aV (vs:=[_,_,_,_,_,_,_,_]) hs rfl rfl az fun w hs=>?_)
  refine .nil (.seq (.ai (.z (zfa aD) (.y hs (zld aO) (.z (cH an) (.z (zfa aD) (.y hs (zld aO) (.z (cH an) (.z fL ?_)))))))))
  refine .z zm ?_
  refine .iq (t':=24) rfl (fun hb24=>?_) (fun hb24=>?_)
  ·refine .gT rfl rfl ?_
   refine .z (zfa aR) ?_
   refine .gT rfl rfl ?_
   refine .y hs (zld bI) ?_
   refine .gT rfl rfl ?_
   refine .z (cH aC) ?_
   refine .gT rfl rfl ?_
   refine .z (zfa aR) ?_
   refine .gT rfl rfl ?_
   refine .y hs (zld bI) ?_
   refine .gT rfl rfl ?_
   refine .z (cH aC) ?_
   refine .gT rfl rfl ?_
   refine .z fL (.z zpT (.nil ?_))
   refine (.bJ rfl (fun hc32=>?_) (fun hc32=>?_))
   ·refine .ai (.z (zbd [_,_,_,_,_,_,_,_] eC) ?_)
    refine .o (.aV (vs:=[_,_,_,_,_,_,_,_]) hs rfl rfl az fun w hs=>?_)
    refine .z zg (.nil ?_)
    refine .ret (rT (?_))
    exact Fin.gO [] [] hs fun w hs=>⟨_,results2 Tryz.results66 (dA (vs:=[_,_,_,_,_,_,_,_]) hs rfl aF az) rfl,H2,_,Dp,_,hle02,rfl,Fe _,.none hok (fun h=>DC h aj),hs.out⟩
   ·refine .skip ?_
    refine nT ?_
    refine .ai (.y hs (zls [_,_,_,_,_,_,_,_] aF az) ?_)
    refine .o (.aV (vs:=[_,_,_,_,_,_,_,_]) hs rfl rfl az fun w hs=>?_)
    refine .z zg (.nil ?_)
    refine .ret ?_
    exact Fin.gO [] [] hs fun w hs=>⟨_,results2 Tryz.results66 (dA (vs:=[_,_,_,_,_,_,_,_]) hs rfl aF az) rfl,H2,_,s.no x,_,hle02,rfl,⟨_,_,_,_,rfl,r1,r2,r3,r4⟩,.ok hok (Classical.byContradiction fun h=>by have:=AA h;omega),hs.out⟩
  ·refine .gFs 7 7 true rfl rfl rfl ?_
   refine .z zpF (.nil ?_)
   refine (.cF ?_)
   refine .skip ?_
   refine nT ?_
   refine .ai (.y hs (zls [_,_,_,_,_,_,_,_] aF az) ?_)
   refine .o (.aV (vs:=[_,_,_,_,_,_,_,_]) hs rfl rfl az fun w hs=>?_)
   refine .z zg (.nil ?_)
   refine .ret ?_
   exact Fin.gO [] [] hs fun w hs=>⟨_,results2 Tryz.results66 (dA (vs:=[_,_,_,_,_,_,_,_]) hs rfl aF az) rfl,H2,_,s.no x,_,hle02,rfl,⟨_,_,_,_,rfl,r1,r2,r3,r4⟩,.ok hok (Classical.byContradiction fun h=>by have:=AA h;omega),hs.out⟩
end Go.Proofs.YtddaejgfjlneoaaGreat
