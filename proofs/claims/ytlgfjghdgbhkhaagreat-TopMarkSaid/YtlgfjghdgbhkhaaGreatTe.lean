/-
  Texts of these claims, joined: Of Og Oh Oi Oj Ok Ol Ov Oy Mzt Mzu Rf Mzv Mzz Ua Ub Uc Ud Ue Uf Ug Ui Sa Sc Sb Sd Se Sf Sg Sh Si Sj Sk Sl Sm Sn So Opg.
-/
import Derived.Test.YtlgfjghdgbhkhaaGreatTd
namespace Go.Proofs.YtlgfjghdgbhkhaaGreat
open Go.MW Tryz
variable{H:bB}{σ:List Ent}{a0 a1 a2 x most a hi lo j f e known fl id number:Int}{l:Lns}{ls:List Lim}{g b k b1 bf bt bl cl i bm bc bn:Nat}{cap sp:List Value}{s:Srv}{xs lf ws bs L X Y cn ks days:List Int}{en:Ent}{ts:List TD}{vl vt vd vp vw vb vx v1 v2 vr vc d vh vs v5 v4 fu b' tap dn b2 c2 d2:Value}{m:Rng}{t:TD}{rows:List (List Int)}{high th:Bool}{kd:Int→Int}
def AY(x:Lg):List (List Value):=(List.range (ti x)).map fun j=>[I (1+(x.fr+(j:Nat))%365)]
theorem qN(x:Lg):(AY x).length=ti x:=by simp [AY]
theorem EB{x:Lg}{j:Nat}(h:j<(AY x).length):(AY x)[j]=[I (1+(x.fr+j)%365)]:=by simp [AY]
theorem xr{x:Lg}(hb:Row H b [I x.zone,I x.fr,I x.to,I x.dlo,I x.dhi,I x.blo,I x.bhi])(hx:Jc x):
  Iter Tryz.prog 201 [Pt b] H (AY x):=by
 intro ly II Ix Ec _ hy H0 Dr σf w hle Ak hs;have g1:cellAt H0 b 1=some (I x.fr):=cellAt.mono (hb.at 1) hle;have hd:=LK hx;have IE:(ti x:Int)=min x.to (x.fr+364) - x.fr+1:=by have:=hx.fr;unfold ti;omega
 have hf:=hx.fr;have ht:=hx.to;refine Cl.o func201 ntmps201 ag2 ?_;refine .ae (.z (zfa lX) (.y hs (zld ai) (.zn zg (.block ?_))));refine .loop (fun j:Nat=>⟨22,[],[(3,I (x.fr+(j:Int))),(0,.func (.yield ly) #[] #[]),(1,Pt b)]⟩)
  (fun j w=>j≤ti x∧∃H1 σb,HLe H H1∧HLe H0 H1∧II j H1 σb∧St H1 w (σb++σf)) (fun j=>ti x - j) 0 (.cons (by show some (I _)=some (I _);congr 2;omega) bk)
  ⟨Nat.zero_le _,H0,Dr,hle,HLe.refl _,Ak,hs⟩ ?_
 rintro j w ⟨hj,H1,σb,aq,eZ,hI,hs⟩;have h1:cellAt H1 b 1=some (I x.fr):=cellAt.mono (hb.at 1) aq;have h2:cellAt H1 b 2=some (I x.to):=cellAt.mono (hb.at 2) aq;refine .seq (.ae (.z zm (.z (zfa kx) (.y hs (zld ai) (.z (zfa lX) (.y hs (zld ai) (.z cz (.z iw (.z Ju (.zn rl (.bX rfl (fun iW=>?_) (fun iW=>?_))))))))))))
 ·refine .skip (nT (.seq (.block (.ae (.z zm (.z zm (.o (.call call202 rfl (y8 hs aj) ?_))))))));rintro _ w ⟨rfl,hs⟩;have rG:j<(AY x).length:=by rw [qN];omega
  have xx:=hy j rG H1 σb σf w aq hI hs;rw [EB rG] at xx;refine .o (.yield rfl rfl xx ?_);rintro v20 w ⟨H5,σ5,g1,hs,g3'⟩;obtain ⟨bb,rfl,gT,gF⟩:=oH g3';refine .zn im (.cond rfl (fun kf=>?_) (fun kf=>?_))
  ·exact .ret (rB (rT (rT (rB (Fin.Qu results201 ⟨H5,σ5,eZ.trans g1,hs,.inr (gF (by simpa using kf))⟩)))))
  ·exact .skip (nB (nT (.region (.z zm (.z cz (.zn zg (nT ⟨j+1,.cons (by show some (I _)=some (I _);congr 2;omega) bk,⟨aj,H5,σ5,aq.trans g1,eZ.trans g1,gT (by simpa using kf),hs⟩,aj⟩)))))))
 ·refine .exit (xT (xT (xB ?_)));obtain rfl:j=ti x:=by omega
  exact Fin.yg results201 ⟨H1,σb,eZ,hs,.inl (by rw [qN];exact hI)⟩
theorem AI{w:World}{x:Lg}(hs:St H w σ)(hx:Jc x):
  aaA 130 [.agg #[I x.zone,I x.fr,I x.to,I x.dlo,I x.dhi,I x.blo,I x.bhi]] w fun u w'=>∃H1 b,HLe H H1∧u= .func (.func 201) #[] #[Pt b]∧Iter Tryz.prog 201 [Pt b] H1 (AY x)∧St H1 w' σ:=by
 refine Cl.o func130 ntmps130 ag1 ?_;refine .ae (.bx hs fun b1 w hs=>?_);refine .zn zg (.ae (.q hs (cV (f:=[]) (c:=[_]) rfl rfl) (.zn zg (.ret (Fin.bp results130 rfl ?_)))));obtain ⟨H1,g1,g2,hs⟩:=hs.bQ .here;exact ⟨H1,b1,g1,rfl,xr g2 hx,hs⟩
set_option maxHeartbeats 1000000 in
theorem pv{w:World}{s:Spc}{x:Lg}{vst vwa:Value}(hs:St H w σ)(g2:RI H vwa s.wa)(h1:RFb H vt l.table)(h2:RSn H vs l.seasons)(rj:fm s)(hl:nk l)(hx:Jc x):
  aaA 69 [.agg #[I s.id,I s.src,vst,vwa,I s.al,I s.up],.agg #[I l.length,I l.depth,vt,vs],.agg #[I x.zone,I x.fr,I x.to,I x.dlo,I x.dhi,I x.blo,I x.bhi]] w fun u w'=>∃H1 k e,HLe H H1∧u= .tuple #[I k,I e]∧ES s.wa l x k e∧St H1 w' σ:=by
 refine Cl.o func69 ntmps69 ag3 ?_;refine .ae (.bx hs fun b3 w hs=>?_);refine .bx hs fun b4 w hs=>?_
 refine .bx hs fun b5 w hs=>?_
 refine .z zg (.zn zg (.ae (.y hs (zls [_,_,_,_] iO eu) (.o (.call call129 rfl (sV hs h1 hl) ?_)))));rintro _ w ⟨n,b,rfl,hF,hs⟩;refine .z zm (.z zex (.z zex (.z zg (.zn zg (.seq (.ae (.z zm (.zn im (.cond rfl (fun mB=>?_) (fun mB=>?_))))))))))
 ·refine .ae (.z zg (.zn zg (.ret (rT (?_)))));obtain rfl:b=false:=by simpa using mB
  exact Fin.mi results69 rfl rfl ⟨H,_,_,HLe.refl H,rfl,.none hF,hs.out⟩
 ·refine .skip (nT (.ae (.o (.alloc hs du rfl fun jx w hs=>?_))));refine .o (.store hs rfl rfl ak fun w hs=>?_);refine .nil (.seq (.ae (.y hs (zls [_,_,_,_,_,_,_] jY bI) ?_)));obtain rfl:b=true:=by simpa using mB
  have hn:=hF.bd hl;have ZN:=hl.depth;refine .o (.call call130 rfl (AI hs hx) ?_);rintro _ w ⟨H1,bd,aq,rfl,oG,hs⟩;refine .nil (.block ?_);refine .rangeFunc (gf:=201) (cap:=[Pt bd]) (xs:=AY x) (σb:=[.blk jx [I 0],.blk b5 [I x.zone,I x.fr,I x.to,I x.dlo,I x.dhi,I x.blo,I x.bhi],.blk b4 [I l.length,I l.depth,vt,vs],.blk b3 [I s.id,I s.src,vst,vwa,I s.al,I s.up]]) (σf:=σ) hs trivial rfl oG call201 (fun y hy=>by
    simp only [AY,List.mem_map] at hy;obtain ⟨j,_,rfl⟩:=hy;rfl) rfl
   (I:=fun p H' σb=>σb=[.blk jx [I (AG l.seasons x.zone x.fr p)],.blk b5 [I x.zone,I x.fr,I x.to,I x.dlo,I x.dhi,I x.blo,I x.bhi],.blk b4 [I l.length,I l.depth,vt,vs],.blk b3 [I s.id,I s.src,vst,vwa,I s.al,I s.up]]) (Ix:=fun _ _ _=>False)
   (fun j _ _ σ g1 g2=>g2) (fun _ _ _ _ _ h=>h) rfl ?_ ?_ (fun D c H' σb w _ h _=>h.elim)
  ·rintro ly p hp H2 wH wG w aO rfl hs ⟨rr,GV⟩;rw [EB hp];refine .region (.zn zg (nT ⟨H2,_,HLe.refl _,hs,?_⟩));rintro w nJ - hs;replace hs:St H2 w (.blk jx [I (AG l.seasons x.zone x.fr p)]:: .blk b5 [I x.zone,I x.fr,I x.to,I x.dlo,I x.dhi,I x.blo,I x.bhi]:: .blk b4 [I l.length,I l.depth,vt,vs]:: .blk b3 [I s.id,I s.src,vst,vwa,I s.al,I s.up]::nJ):=hs;refine .block (.draw mix rfl hs fun w hs=>?_);refine .y 0 rfl hs ai ?_;refine .ys 1 rfl hs [_,_,_,_] iO eu ?_;refine .z 2 rfl (zfa wY) ?_;refine .y 3 rfl hs ai ?_;refine .z 4 rfl zm ?_;refine .E 5 hs ?_;refine .call call131 rfl (y7 hs (h2.mono (aq.trans aO)) hl) ?_;rintro _ w ⟨rfl,hs⟩;refine .go (.zw 6 rfl HM (.E 7 hs ?_));refine .store hs rfl rfl ak ?_;intro w hs;exact .go (.D hs (nB ⟨H2,_,HLe.refl _,hs,rfl⟩))
  ·rintro D H2 wH w aO rfl hs;rw [qN] at hs;have cK:=aq.trans aO;have hE:=GO hl.seasons x.zone x.fr (ti x);replace hs:St H2 w (.obj D (.deferred (some [])):: .blk jx [I (AG l.seasons x.zone x.fr (ti x))]:: .blk b5 [I x.zone,I x.fr,I x.to,I x.dlo,I x.dhi,I x.blo,I x.bhi]:: .blk b4 [I l.length,I l.depth,vt,vs]:: .blk b3 [I s.id,I s.src,vst,vwa,I s.al,I s.up]::σ):=hs;refine nB (nT (.seq (.ae (.y hs (zls [_,_,_,_,_,_] bu aI) (.z (zfa so) (.y hs (zld ai) (.z zm (.z iw (.y hs (zld ai) (.z iw (.o (.call call132 rfl (y9 (s:=s) hs (g2.mono cK) rj) ?_))))))))))));rintro _ w ⟨k,rfl,hB,hs⟩;refine .zn zg (.ae (.z zm (.zn Bd (.bX rfl (fun oD=>?_) (fun oD=>?_)))))
   ·exact .ae (.z zm (.z zg (.zn zg (.ret (rT ((Fin.iz [D] [] hs fun w hs=>⟨_,results2 results69 rfl rfl,H2,_,_,cK,rfl,.ok hF hB oD,hs.out⟩)))))))
   ·refine .skip (nT (.ae (.z zg (.zn zg (.ret ?_)))));have hk:=hB.low;obtain rfl:k= -1:=by omega
    exact Fin.iz [D] [] hs fun w hs=>⟨_,results2 results69 rfl rfl,H2,_,_,cK,rfl,.above hF hB,hs.out⟩
theorem xt{w:World}{s:Spc}{x:Lg}{vst vwa:Value}(hs:St H w σ)(g1:RI H vst s.st)(g2:RI H vwa s.wa)(h1:RFb H vt l.table)(h2:RSn H vs l.seasons):
  aaA 25 [.agg #[I s.id,I s.src,vst,vwa,I s.al,I s.up],.agg #[I l.length,I l.depth,vt,vs],.agg #[I x.zone,I x.fr,I x.to,I x.dlo,I x.dhi,I x.blo,I x.bhi]] w fun u w'=>∃H1 k e,HLe H H1∧u= .tuple #[I k,I e]∧SA s l x k e∧St H1 w' σ:=by
 refine Cl.o func25 ntmps25 ag3 ?_;refine .ae (.bx hs fun b3 w hs=>?_);refine .bx hs fun b4 w hs=>?_
 refine .bx hs fun b5 w hs=>?_
 refine .z zg (.zn zg (.seq (.ae (.y hs (zls [_,_,_,_,_,_] bu aI) (.o (.call call41 rfl (fo (s:=s) hs g1 g2) ?_))))));rintro _ w ⟨H1,e,aq,rfl,he,hs⟩;refine .zn zg (.ae (.z zm (.zn gE (.eN rfl (fun iX=>?_) (fun iX=>?_)))))
 ·refine .ae (.z zm (.z zg (.zn zg (.ret (rT (Fin.mi results25 rfl rfl ?_))))));have h:=he.resolve_left fun h=>iX h.2
  exact ⟨H1,_,_,aq,rfl,by rw [h.2];exact .space h.1,hs.out⟩
 ·refine .skip (nT (.seq (.ae (.y hs (zls [_,_,_,_] iO eu) ?_))));have bh:fm s:=(he.resolve_right fun h=>by omega).1;refine .o (.call call67 rfl (mn hs (h1.mono aq) (h2.mono aq)) ?_);rintro _ w ⟨e,rfl,he,hs⟩;refine .zn zg (.ae (.z zm (.zn gE (.eN rfl (fun kI=>?_) (fun kI=>?_)))))
  ·refine .ae (.z zm (.z zg (.zn zg (.ret (rT (Fin.mi results25 rfl rfl ?_))))));have h:=he.resolve_left fun h=>kI h.2
   exact ⟨H1,_,_,aq,rfl,by rw [h.2];exact .lines bh h.1,hs.out⟩
  ·refine .skip (nT (.seq (.ae (.y hs (zls [_,_,_,_,_,_,_] jY bI) ?_))));have hl:nk l:=(he.resolve_right fun h=>by omega).1;refine .o (.call call68 rfl (qj (x:=x) hs) ?_);rintro _ w ⟨b,rfl,hb,hs⟩;refine .zn im (.cond rfl (fun jv=>?_) (fun jv=>?_))
   ·exact .ae (.z zg (.zn zg (.ret (rT (Fin.mi results25 rfl rfl ⟨H1,_,_,aq,rfl,.leg bh hl (fun h=>by rw [hb.2 h] at jv;cases jv),hs.out⟩)))))
   ·refine .skip (nT (.ae (.y hs (zls [_,_,_,_,_,_] bu aI) (.y hs (zls [_,_,_,_] iO eu) (.y hs (zls [_,_,_,_,_,_,_] jY bI) ?_)))));have hx:Jc x:=hb.1 (by simpa using jv);refine .o (.call call69 rfl (pv (s:=s) (x:=x) hs (g2.mono aq) (h1.mono aq) (h2.mono aq) bh hl hx) ?_);rintro _ w ⟨H2,k,e,aO,rfl,hL,hs⟩;exact .z zex (.z zex (.z zg (.zn zg (.ret (Fin.mi results25 rfl rfl ⟨H2,_,_,aq.trans aO,rfl,.go bh hl hx hL,hs.out⟩)))))
theorem yF{w:World}{v:Value}{l:List Rng}(hs:St H w σ)(hr:RRg H v l):aaA 193 [v] w fun u w'=>RRg H u l∧St H w' σ:=by
 obtain ⟨a,c,rfl⟩:=hr.shape;have hc:=RS.clip hr;refine Cl.o func193 ntmps193 ag1 ?_;exact .ae (.zn zg (.ae (.z zm (.z zm (.z (cJ fT) (.z zm (.z (cJ fT) (.q hs (J3 rfl rfl rfl fT a8 (Nat.le_refl _) hc.1) (.zn zg (.ret (Fin.bp results193 rfl ⟨hc.2,hs⟩)))))))))))
theorem pq{w:World}{r:List Lg}(hs:St H w σ)(h1:RLg H vr r)(hr:A5 r)(hm:kS m.lo m.hi):
  aaA 120 [.agg #[vr],.agg #[I m.lo,I m.hi]] w fun u w'=>∃H1,HLe H H1∧RRg H1 u (msL m r r.length)∧St H1 w' σ:=by
 obtain ⟨ar,cr,rfl⟩:=h1.shape;have hn:=hr.many;refine Cl.o func120 ntmps120 ag2 ?_;refine .ae (.bx hs fun b2 w hs=>?_);refine .bx hs fun b3 w hs=>?_
 refine .zn zg (.ae (.y hs (zls [_,_] dL a8) (.o (.buildSlice (cells:=m.c) hs nG rfl au fun b9 w hs=>?_))));refine .zn zg (.seq (.ae (.z (zfa dj) (.y hs (zld kY) (.z (cJ bN) (.zn zm (.for (N:=r.length) (J:=fun k fr w=>∃vo en,fr=[(5,vo),(11,.slice ar r.length cr),(3,Pt b3)]∧bM 2 vo (rgc (msL m r k)).flatten en∧St H w (en:: .blk b3 [I (nY m r k).lo,I (nY m r k).hi]::σ)) aj ?_ ?_ ?_)))))))
 ·exact .mk ⟨_,.blk b9 m.c,rfl,.full rfl,hs.sb⟩
 ·rintro k fr w hk ⟨vo,en,rfl,hO,hs⟩;have hx:=qs (l:=r) hk;have hb:=yZ hm (fun i hi=>(hr.leg i hi).1) (i:=k) aj;have xY:=(hr.leg k hk).1.burn;unfold kS at hb xY;have TF:=oy m r k;obtain ⟨ao,co,rfl⟩:=hO.iQ (Qt _) aj;refine .block (.ae (.ixX (enc:=Lg.c) hs h1 rfl rfl bN bI hx dD ?_));intro Df o15 iL;refine .q hs (bD (vs:=(Lg.c (lg0 r k))) rfl jY bI iL) (.o (.alloc hs eF rfl fun b7 w hs=>?_));refine .o (.aD (vs:=(lg0 r k).c) hs rfl rfl bI fun w hs=>?_);change St _ _ (.blk b7 [I (lg0 r k).zone,I (lg0 r k).fr,I (lg0 r k).to,I (lg0 r k).dlo,I (lg0 r k).dhi,I (lg0 r k).blo,I (lg0 r k).bhi]::_) at hs;refine .nil (.ae (.z (zfa bR) (.y hs (zld ai) (.z (zfa jk) (.z (zfa cg) (.y hs (zld ai) (.z iw (.z HM (.z (zfa cg) (.y hs (zld ai) (.z (zfa jk) (.z (zfa bR) (.y hs (zld ai) (.z iw (.z HM (.z (zbd [_,_] ew) (.o (.aD (vs:=(nY m r (k+1)).c) hs rfl rfl a8 fun w hs=>?_))))))))))))))))));change St _ _ (.blk b7 _::en:: .blk b3 [I (nY m r (k+1)).lo,I (nY m r (k+1)).hi]::σ) at hs;refine .nil (.region (.z zm (.y hs (zls [_,_] dL a8) (.o (.buildSlice (cells:=(nY m r (k+1)).c) hs nG rfl au fun RK w hs=>?_)))));refine .o (.append (ys:=(nY m r (k+1)).c) hs ni rfl rfl hO (.own .here rfl rfl) (by simp [Rng.c,Value.oneCell']) (fun l h=>by rw [bH _ (Qt _),vB] at h;omega) ?_);intro v35 en35 w eh hs;rw [←MU,←Np] at eh;exact .zn zg (nB (nT (.mk ⟨_,_,rfl,eh,hs.sb⟩)))
 ·rintro fr w ⟨vo,en,rfl,hO,hs⟩;obtain ⟨H1,aq,hR,hs⟩:=bM.bQ (m:=2) hO (Qt _) aj (by rw [vB,oy];omega) hs .here;refine nT (.ae (.z zm (.o (.call call193 rfl (yF (l:=msL m r r.length) hs hR) ?_))));rintro v38 w ⟨PG,hs⟩;exact .zn zg (.ret (Fin.bp results120 rfl ⟨H1,aq,PG,hs.out⟩))
theorem LP{v:Srv}{out:List Int}(h:HJ v out e)(hv:eg v):(e=0∧0<out.length∧¬v.sys.Sound)∨(e=3∧v.sys.Sound):=by
 cases h with
 |bad h he=>exact (he (h.dt.2 hv)).elim
 |ok _ h=>
  by_cases e0:e=0
  ·subst e0;obtain ⟨_,h1,_,h2⟩:=h.conf;exact .inl ⟨rfl,(by cases out with|nil=>exact (h2 rfl).elim|cons=>simp),h1⟩
  ·cases h with
   |bad h=>exact (h (v.sys.dt.2 hv.sys)).elim
   |none _ h=>exact .inr ⟨rfl,h⟩
   |ok=>exact (e0 rfl).elim
theorem iS{w:World}{k:Int}(hs:St H w σ):aaA 63 [I k] w fun u w'=>u= .agg #[I 1,I 0,I k]∧St H w' σ:=by
 refine Cl.o func63 ntmps63 ag1 ?_;refine .ae (.o (.alloc hs zeroValue51 rfl fun b2 w hs=>?_));refine .nil (.ae (.z zm (.z (zbd [_,_,_] qR) (.o (.aD (vs:=[_,_,_]) hs rfl rfl Aq fun w hs=>?_)))));exact .nil (.ret (Fin.iz [] [] hs fun w hs=>⟨_,results1 results63 (cO (vs:=[_,_,_]) hs rfl Zc Aq),rfl,hs.out⟩))
theorem pw{w:World}{a b c:Value}(hs:St H w σ)(g:SvM H s a b c d)(bh:eg s):
  aaA 64 [svA s a b c d,I (k:Int)] w fun u w'=>∃H1 lo hi e,HLe H H1∧u= .tuple #[.agg #[I lo,I hi],I e]∧C0 s k lo hi e∧St H1 w' σ:=by
 refine Cl.o func64 ntmps64 ag2 ?_;refine .ae (.bx hs fun b2 w hs=>?_);refine .o (.alloc hs gW rfl fun b4 w hs=>?_);refine .zn zg (.seq (.ae (.z zm (.zn q5 (.bX rfl (fun nP=>?_) (fun nP=>?_))))))
 ·refine .seq (.draw mix rfl hs fun w hs=>?_);refine .ys 0 rfl hs [_,_,_,_,_,_,_,_] bA aM ?_;refine .z 1 rfl zm ?_;refine .E 2 hs ?_;refine .call call63 rfl (iS hs) ?_;rintro _ w ⟨rfl,hs⟩;refine .go (.E 3 hs ?_);refine .call call17 rfl (tY (s:=s) (q:=⟨1,0,k⟩) hs g.st g.wa g.rd g.cm) ?_;rintro _ w ⟨H1,lo,hi,e,aq,rfl,hQ,hs⟩;refine .go (.zw 4 rfl zex ?_);refine .z 5 rfl zex ?_;refine .E 6 hs ?_;refine .aD (vs:=[_,_]) hs rfl rfl a8 ?_;intro w hs;refine .go (.zw 7 rfl zg ?_);refine .D hs ?_;exact .ret (rT ((Fin.iz [] [] hs fun w hs=>⟨_,results2 results64 (cO (vs:=[_,_]) hs rfl dL a8) rfl,H1,_,_,_,aq,rfl,.up aj hQ,hs.out⟩)))
 ·refine .skip (nT (.seq (.ae (.y hs (zls [_,_,_,_,_,_,_,_] bA aM) ?_))));obtain rfl:k=0:=by omega
  refine .o (.call call125 rfl (tX (s:=s) hs g.st g.wa g.rd g.cm) ?_);rintro _ w ⟨H1,vx,out,e,aq,rfl,hX,hC,hs⟩;have Ai:=LP hC bh;obtain ⟨ax,cx,rfl⟩:=RI.shape hX;refine .z zm (.z zex (.z zex (.z zg (.zn zg (.ae (.z zm (.z gO (.z zm (.mW (t':=23) rfl (fun zH=>?_) (fun zH=>?_))))))))))
  ·refine .T (.z zm (.T (.z (cJ af) (.T (.z q5 (.zn zpT (.bX rfl (fun xC=>?_) (fun xC=>?_))))))))
   ·refine .ae (.z (zbd [_,_] ew) (.o (.aD (vs:=[_,_]) hs rfl rfl a8 fun w hs=>?_)));exact .zn zg (.ret (rT ((Fin.iz [] [] hs fun w hs=>⟨_,results2 results64 (cO (vs:=[_,_]) hs rfl dL a8) rfl,H1,_,_,_,aq,rfl,.fls rfl bh (by rcases Ai with h|h;exact h.2.2;omega),hs.out⟩))))
   ·refine .skip (nT (.ae (.z (zbd [_,_] ew) (.o (.aD (vs:=[_,_]) hs rfl rfl a8 fun w hs=>?_)))));exact .zn zg (.ret (Fin.iz [] [] hs fun w hs=>⟨_,results2 results64 (cO (vs:=[_,_]) hs rfl dL a8) rfl,H1,_,_,_,aq,rfl,.zero rfl bh (by rcases Ai with h|h;omega;exact h.2),hs.out⟩))
  ·refine .Fs 3 2 true (.zn zpF (.cF (.skip (nT (.ae (.z (zbd [_,_] ew) (.o (.aD (vs:=[_,_]) hs rfl rfl a8 fun w hs=>?_))))))));exact .zn zg (.ret (Fin.iz [] [] hs fun w hs=>⟨_,results2 results64 (cO (vs:=[_,_]) hs rfl dL a8) rfl,H1,_,_,_,aq,rfl,.zero rfl bh (by rcases Ai with h|h;omega;exact h.2),hs.out⟩))
theorem fg{w:World}{n d:Int}(hs:St H w σ)(hn: -4000000000000≤n∧n≤4000000000000)(hd: -100000≤d∧d≤100000):aaA 65 [I n,I d] w fun v w'=>v=I (fp n d)∧St H w' σ:=by
 have hm:=ox (a:=n) (b:=d) (A:=4000000000000) (B:=100000) aj aj;refine Cl.o func65 ntmps65 ag2 ?_;refine .ae (.zn zg (.ae (.z zm (.z zm (.z nf (.o (.call call126 rfl (sd hs aj aj) ?_)))))));rintro _ w ⟨rfl,hs⟩;exact .zn zg (.ret (Fin.bp results65 rfl ⟨rfl,hs⟩))
theorem vN{w:World}{y:Int}(hs:St H w σ)(h1: -200000000≤lo∧lo≤200000000)(h2: -200000000≤hi∧hi≤200000000)(hd:iM x y):
  aaA 194 [.agg #[I lo,I hi],.agg #[I x,I y]] w fun v w'=>v= .agg #[I (wK lo x y),I (Bl hi x y)]∧St H w' σ:=by
 unfold iM at hd;refine Cl.o func194 ntmps194 ag2 ?_;refine .ae (.bx hs fun b2 w hs=>?_);refine .bx hs fun b3 w hs=>?_
 refine .o (.alloc hs gW rfl fun b4 w hs=>?_);refine .nil (.seq (.draw mix rfl hs fun w hs=>?_));refine .zw 0 rfl (zfa bR) ?_;refine .y 1 rfl hs ai ?_;refine .z 2 rfl (zfa bR) ?_;refine .y 3 rfl hs ai ?_;refine .z 5 rfl (zfa bR) ?_;refine .y 6 rfl hs ai ?_;refine .z 7 rfl (zfa cg) ?_;refine .y 8 rfl hs ai ?_;refine .z 11 rfl (zfa cg) ?_;refine .y 12 rfl hs ai ?_;refine .zw 13 rfl (zfa bR) ?_;refine .y 14 rfl hs ai ?_;refine .z 16 rfl (zfa cg) ?_;refine .y 17 rfl hs ai ?_;refine .z 18 rfl (zfa cg) ?_;refine .y 19 rfl hs ai ?_;refine .E 4 hs ?_;refine .call call65 rfl (fg hs aj aj) ?_;rintro _ w ⟨rfl,hs⟩;refine .go (.E 9 hs ?_);refine .call call65 rfl (fg hs aj aj) ?_;rintro _ w ⟨rfl,hs⟩;refine .go (.zw 10 rfl Ju (.E 15 hs ?_));refine .call call65 rfl (fg hs aj aj) ?_;rintro _ w ⟨rfl,hs⟩;refine .go (.E 20 hs ?_);refine .call call65 rfl (fg hs aj aj) ?_;rintro _ w ⟨rfl,hs⟩;refine .go (.zw 21 rfl HM ?_);refine .z 22 rfl (zbd [_,_] ew) ?_;refine .E 23 hs ?_;refine .aD (vs:=[_,_]) hs rfl rfl a8 ?_;intro w hs;exact .go (.D hs (.ret (Fin.iz [] [] hs fun w hs=>⟨_,results1 results194 (cO (vs:=[_,_]) hs rfl dL a8),rfl,hs.out⟩)))
theorem k9{w:World}{a b c:Value}{y:Int}(hs:St H w σ)(g:SvM H s a b c d)(bh:eg s)(hd:iM x y):
  aaA 121 [svA s a b c d,I (k:Int),.agg #[I x,I y]] w fun u w'=>∃H1 lo hi e,HLe H H1∧u= .tuple #[.agg #[I lo,I hi],I e]∧pW s k x y lo hi e∧St H1 w' σ:=by
 refine Cl.o func121 ntmps121 ag3 ?_;refine .ae (.bx hs fun b3 w hs=>?_);refine .bx hs fun b5 w hs=>?_
 refine .o (.alloc hs gW rfl fun b6 w hs=>?_);refine .zn zg (.ae (.y hs (zls [_,_,_,_,_,_,_,_] bA aM) (.z zm (.o (.call call64 rfl (pw (s:=s) hs g bh) ?_)))));rintro _ w ⟨H1,lo,hi,e,aq,rfl,hL,hs⟩;have hb:=hL.bd;refine .z zm (.z zex (.z zex (.o (.alloc hs gW rfl fun b8 w hs=>?_))));refine .o (.aD (vs:=[_,_]) hs rfl rfl a8 fun w hs=>?_);refine .zn zg (.seq (.ae (.z zm (.zn gE (.eN rfl (fun kV=>?_) (fun kV=>?_))))))
 ·refine .ae (.z (zbd [_,_] ew) (.z zm (.o (.aD (vs:=[_,_]) hs rfl rfl a8 fun w hs=>?_))));exact .zn zg (.ret (rT ((Fin.iz [] [] hs fun w hs=>⟨_,results2 results121 (cO (vs:=[_,_]) hs rfl dL a8) rfl,H1,_,_,_,aq,rfl,.fls hL kV,hs.out⟩))))
 ·refine .skip (nT (.ae (.y hs (zls [_,_] dL a8) (.y hs (zls [_,_] dL a8) ?_))));obtain rfl:e=0:=by omega
  refine .o (.call call194 rfl (vN hs aj aj hd) ?_);rintro _ w ⟨rfl,hs⟩;refine .o (.aD (vs:=[_,_]) hs rfl rfl a8 fun w hs=>?_);exact .zn zg (.ret (Fin.iz [] [] hs fun w hs=>⟨_,results2 results121 (cO (vs:=[_,_]) hs rfl dL a8) rfl,H1,_,_,_,aq,rfl,.ok hL,hs.out⟩))
set_option maxHeartbeats 2000000 in
theorem za{w:World}{r:List Lg}{a b c:Value}(hs:St H w σ)(g:SvM H s a b c d)(gl:LnM H l vt vs)(pX:RLg H fu r):
  aaA 60 [svA s a b c d,lnA l vt vs,.agg #[fu],.agg #[I m.lo,I m.hi]] w fun u w'=>∃(H1:bB) (z:RtV) (ks:List Int) (e:Int),HLe H H1∧u= .tuple #[z.agg,I e]∧z.cs.all Value.oneCell'=true∧qZ s l r m ks e∧(e=0→∃vms vmk,z=⟨s,l,a,b,c,d,vt,vs,fu,vms,vmk⟩∧RRg H1 vms (msL m r r.length)∧RI H1 vmk ks)∧St H1 w' σ:=by
 obtain ⟨wC,wv,rfl⟩:=pX.shape;refine Cl.o func60 ntmps60 ag4 ?_;refine .ae (.bx hs fun b4 w hs=>?_);refine .bx hs fun b5 w hs=>?_
 refine .bx hs fun b6 w hs=>?_
 refine .bx hs fun b7 w hs=>?_
 refine .o (.alloc hs uV rfl fun b8 w hs=>?_);refine .zn zg (.seq (.ae (.y hs (zls [_,_,_,_,_,_,_,_] bA aM) (.o (.call call53 rfl (fb (s:=s) hs g.st g.wa g.rd g.cm) ?_)))));rintro _ w ⟨H1,e,aq,rfl,hC,hs⟩;refine .zn zg (.ae (.z zm (.zn gE (.eN rfl (fun kf=>?_) (fun kf=>?_)))))
 ·refine .ae (.z (zbd RtV.zero.cs gK rfl au) (.z zm (.o (.aD (vs:=RtV.zero.cs) hs rfl rfl eA fun w hs=>?_))));exact .zn zg (.ret (rT ((Fin.iz [] [] hs fun w hs=>⟨_,results2 UX (cO (vs:=RtV.zero.cs) hs rfl Ar eA) rfl,H1,RtV.zero,_,_,aq,rfl,rfl,.bad hC kf,fun h=>(kf h).elim,hs.out⟩))))
 ·refine .skip (nT (.seq (.ae (.y hs (zls [_,_,_,_] iO eu) ?_))));have bh:eg s:=hC.dt.1 aj;have rj:=bh.early.1;refine .o (.call call67 rfl (mn hs (gl.tb.mono aq) (gl.sn.mono aq)) ?_);rintro _ w ⟨f,rfl,hL,hs⟩;refine .zn zg (.ae (.z zm (.zn gE (.eN rfl (fun xC=>?_) (fun xC=>?_)))))
  ·refine .ae (.z (zbd RtV.zero.cs gK rfl au) (.z zm ?_));have hl:=hL.resolve_left fun h=>xC h.2
   refine .o (.aD (vs:=RtV.zero.cs) hs rfl rfl eA fun w hs=>?_);exact .zn zg (.ret (rT ((Fin.iz [] [] hs fun w hs=>⟨_,results2 UX (cO (vs:=RtV.zero.cs) hs rfl Ar eA) rfl,H1,RtV.zero,_,_,aq,rfl,rfl,by rw [hl.2];exact .lines bh hl.1,fun h=>(xC h).elim,hs.out⟩))))
  ·refine .skip (nT (.seq (.ae (.y hs (zls [_] iN dN) ?_))));have hl:nk l:=(hL.resolve_right fun h=>by omega).1;refine .o (.call call118 rfl (rC hs (pX.mono aq)) ?_);rintro _ w ⟨q,rfl,hR,hs⟩;refine .zn zg (.ae (.z zm (.zn gE (.eN rfl (fun wg=>?_) (fun wg=>?_)))))
   ·refine .ae (.z (zbd RtV.zero.cs gK rfl au) (.z zm ?_));have s9:=hR.resolve_left fun h=>wg h.2
    refine .o (.aD (vs:=RtV.zero.cs) hs rfl rfl eA fun w hs=>?_);exact .zn zg (.ret (rT ((Fin.iz [] [] hs fun w hs=>⟨_,results2 UX (cO (vs:=RtV.zero.cs) hs rfl Ar eA) rfl,H1,RtV.zero,_,_,aq,rfl,rfl,by rw [s9.2];exact .route bh hl s9.1,fun h=>(wg h).elim,hs.out⟩))))
   ·refine .skip (nT (.seq (.ae (.y hs (zls [_,_] dL a8) ?_))));have s9:A5 r:=(hR.resolve_right fun h=>by omega).1;have hn:=s9.many;refine .o (.call call119 rfl (pz hs) ?_);rintro _ w ⟨rfl,hs⟩;refine .zn im (.cond rfl (fun AV=>?_) (fun AV=>?_))
    ·refine .ae (.z (zbd RtV.zero.cs gK rfl au) (.o (.aD (vs:=RtV.zero.cs) hs rfl rfl eA fun w hs=>?_)));exact .zn zg (.ret (rT ((Fin.iz [] [] hs fun w hs=>⟨_,results2 UX (cO (vs:=RtV.zero.cs) hs rfl Ar eA) rfl,H1,RtV.zero,_,_,aq,rfl,rfl,.tC bh hl s9 (by simpa using AV),fun h=>by omega,hs.out⟩))))
    ·refine .skip (nT (.cut (fun fs w=>∃H2 vms jG,np fs ⟨76,[],[(13,Pt jG),(8,Pt b8),(5,Pt b5),(6,Pt b6)]⟩∧HLe H1 H2∧RRg H2 vms (msL m r r.length)∧St H2 w (.blk jG (RtV.cs ⟨s,l,a,b,c,d,vt,vs,.slice wC r.length wv,vms,.slice none 0 0⟩):: .blk b8 RtV.zero.cs:: .blk b6 [.slice wC r.length wv]:: .blk b5 (lnC l vt vs)::σ)) ?_ ?_))
     ·refine .draw mix rfl hs fun w hs=>?_
      refine .ys 0 rfl hs [_,_,_,_,_,_,_,_] bA aM ?_;refine .ys 1 rfl hs [_,_,_,_] iO eu ?_;refine .z 2 rfl (zfa dj) ?_;refine .y 3 rfl hs kY ?_;refine .ys 4 rfl hs [_] iN dN ?_;refine .ys 5 rfl hs [_,_] dL a8 ?_;refine .e2 (i:=6) (j:=8) au rfl rfl rfl rfl .none .none hs ?_ ?_
      ·refine .call call120 rfl (pq hs (pX.mono aq) s9 (by simpa using AV)) ?_;rintro vms w ⟨H2,aO,Lo,hs⟩;obtain ⟨EL,EC,rfl⟩:=Lo.shape;refine .go (.zw 7 rfl (zbd (vs:=[(0,svA s a b c d),(1,lnA l vt vs),(2,.slice wC r.length wv),(3,.slice EL (msL m r r.length).length EC)]) (RtV.cs ⟨s,l,a,b,c,d,vt,vs,.slice wC r.length wv,.slice EL (msL m r r.length).length EC,.slice none 0 0⟩) gK rfl au) (.E 8 hs ?_));refine .alloc hs uV rfl ?_;intro jG w hs;refine .go (.E 9 hs ?_);refine .aD (vs:=RtV.cs ⟨s,l,a,b,c,d,vt,vs,.slice wC r.length wv,.slice EL (msL m r r.length).length EC,.slice none 0 0⟩) hs rfl rfl eA ?_ (hv:=RtV.one g gl pX (RS.one Lo) rfl);intro w hs;exact .go (.D hs (nT ⟨H2,_,jG,bk,aO,Lo,hs.sb⟩))
      ·refine .alloc hs uV rfl ?_;intro jG w hs;refine .go (.E 6 hs ?_);refine .call call120 rfl (pq hs (pX.mono aq) s9 (by simpa using AV)) ?_;rintro vms w ⟨H2,aO,Lo,hs⟩;obtain ⟨EL,EC,rfl⟩:=Lo.shape;refine .go (.zw 7 rfl (zbd (vs:=[(0,svA s a b c d),(1,lnA l vt vs),(2,.slice wC r.length wv),(3,.slice EL (msL m r r.length).length EC)]) (RtV.cs ⟨s,l,a,b,c,d,vt,vs,.slice wC r.length wv,.slice EL (msL m r r.length).length EC,.slice none 0 0⟩) gK rfl au) (.E 9 hs ?_));refine .aD (vs:=RtV.cs ⟨s,l,a,b,c,d,vt,vs,.slice wC r.length wv,.slice EL (msL m r r.length).length EC,.slice none 0 0⟩) hs rfl rfl eA ?_ (hv:=RtV.one g gl pX (RS.one Lo) rfl);intro w hs;exact .go (.D hs (nT ⟨H2,_,jG,bk,aO,Lo,hs.sb⟩))
     ·rintro fs w ⟨H2,vms,jG,i7,aO,Lo,hs⟩;refine WE.sub ?_ i7;clear i7;have cK:=aq.trans aO;have hm:kS m.lo m.hi:=by simpa using AV
      refine .seq (.ae (.z (zfa dj) (.y hs (zld kY) (.z (cJ bN) (.zn zm (.for (N:=r.length) (J:=fun k fr w=>∃H3 ks vmk en,fr=[(49,.slice wC r.length wv),(13,Pt jG),(8,Pt b8),(5,Pt b5)]∧HLe H2 H3∧ks.length=k∧(∀i<k,ES s.sp.wa l (lg0 r i) (gi ks i) 0)∧bM 1 vmk (Is ks) en∧St H3 w (en:: .blk jG (RtV.cs ⟨s,l,a,b,c,d,vt,vs,.slice wC r.length wv,vms,vmk⟩):: .blk b8 RtV.zero.cs:: .blk b6 [.slice wC r.length wv]:: .blk b5 (lnC l vt vs)::σ)) aj ?_ ?_ ?_))))))
      ·exact .mk ⟨H2,[],_,.nul,rfl,HLe.refl _,rfl,fun i hi=>by omega,.nil 1 none,hs.nul⟩
      ·rintro k fr w hk ⟨H3,ks,vmk,en,rfl,bP,rF,Vl,hO,hs⟩;have hx:=qs (l:=r) hk;have eO:=cK.trans bP;obtain ⟨ao,lo',co,rfl,Da⟩:=hO.shape;refine .block (.ae (.ixX (enc:=Lg.c) hs (pX.mono eO) rfl rfl bN bI hx dD ?_));intro aau o53 F2;refine .q hs (bD (vs:=(Lg.c (lg0 r k))) rfl jY bI F2) (.o (.alloc hs eF rfl fun Df w hs=>?_));refine .o (.aD (vs:=(lg0 r k).c) hs rfl rfl bI fun w hs=>?_);change St _ _ (.blk Df (lgC (lg0 r k))::_) at hs;refine .nil (.ae (.z (zfa mR) (.z (zfa bj) (.y hs (zls [_,_,_,_,_,_] bu aI) (.y hs (zls [_,_,_,_] iO eu) (.y hs (zls [_,_,_,_,_,_,_] jY bI) (.o (.call call69 rfl (pv (s:=s.sp) (x:=lg0 r k) hs (g.wa.mono eO) (gl.tb.mono eO) (gl.sn.mono eO) rj hl (s9.leg k hk).1) ?_))))))));rintro _ w ⟨H4,n,e,eL,rfl,aad,hs⟩;have jI:=eO.trans eL;refine .z zm (.z zex (.z zex (.z zg (.zn zg (.seq (.ae (.z zm (.zn gE (.eN rfl (fun Re=>?_) (fun Re=>?_))))))))))
       ·refine .ae (.z (zbd RtV.zero.cs gK rfl au) (.z zm (.o (.aD (vs:=RtV.zero.cs) hs rfl rfl eA fun w hs=>?_))));exact .zn zg (.ret (rT (rB (rT (rB (rT ((Fin.iz [] [] hs fun w hs=>⟨_,results2 UX (cO (vs:=RtV.zero.cs) hs rfl Ar eA) rfl,H4,RtV.zero,_,_,jI,rfl,rfl,.low bh hl s9 hm hk (fun j hj=>⟨_,Vl j hj⟩) aad Re,fun h=>(Re h).elim,hs.out⟩))))))))
       ·refine .skip (nT (.region (.z (zfa ji) (.y hs (zld an) (.z zm (.o (.buildSlice (cells:=Is [n]) hs bJ rfl au fun b71 w hs=>?_)))))));refine .o (.append (ys:=Is [n]) hs bO rfl rfl hO (.own .here rfl rfl) (jF _) (fun l h=>by simp [Is] at h;omega) ?_);intro v72 en72 w eh hs;rw [←List.map_append] at eh;obtain ⟨a72,l72,c72,rfl,h72⟩:=eh.shape;refine .z (zfa ji) (.o (.store hs rfl rfl aJ fun w hs=>?_));refine .nil (nB (nT ?_));obtain rfl:e=0:=by omega
        exact .mk ⟨H4,ks++[n],_,_,rfl,bP.trans eL,by simp [rF],fun i hi=>by
         by_cases e:i=k
         ·subst e;rw [qA,if_neg aj,if_pos aj];exact aad
         ·rw [qA,if_pos aj];exact Vl i aj,eh,hs.sb⟩
      ·rintro fr w ⟨H3,ks,vmk,en,rfl,bP,rF,Vl,hO,hs⟩;obtain ⟨H4,eL,Uq,hs⟩:=hO.ck aj hs .here;have jI:=cK.trans (bP.trans eL);refine nT (.ae (.y hs (zls [_,_,_,_,_,_,_,_,_,_,_,_,_,_,_] Ar eA) (.o (.aD (vs:=RtV.cs ⟨s,l,a,b,c,d,vt,vs,.slice wC r.length wv,vms,vmk⟩) hs rfl rfl eA ?_ (hv:=RtV.one g gl pX (RS.one Lo) (RS.one Uq))))));intro w hs;exact .zn zg (.ret (Fin.iz [] [] hs fun w hs=>⟨_,results2 UX (cO (vs:=RtV.cs ⟨s,l,a,b,c,d,vt,vs,.slice wC r.length wv,vms,vmk⟩) hs rfl Ar eA) rfl,H4,⟨s,l,a,b,c,d,vt,vs,.slice wC r.length wv,vms,vmk⟩,_,_,jI,rfl,RtV.one g gl pX (RS.one Lo) (RS.one Uq),.ok bh hl s9 hm rF Vl,fun _=>⟨_,_,rfl,Lo.mono (bP.trans eL),Uq⟩,hs.out⟩))
structure RtM(H:bB)(s:Srv)(l:Lns)(r:List Lg)(m:Rng)(ks:List Int)(z:RtV):Prop where
 es:z.s=s
 el:z.l=l
 sv:SvM H s z.a z.b z.c z.d
 ln:LnM H l z.t z.n
 lg:RLg H z.lg r
 ms:RRg H z.ms (msL m r r.length)
 mr:RI H z.mr ks
 one:z.cs.all Value.oneCell'=true
 beg:qZ s l r m ks 0
set_option maxHeartbeats 1000000 in
theorem oz{w:World}{r:List Lg}{z:RtV}(hs:St H w σ)(h:RtM H s l r m ks z):
  aaA 61 [z.agg] w fun u w'=>∃H1 v cn e,HLe H H1∧u= .tuple #[v,I e]∧RI H1 v cn∧Ff s l r m cn e∧St H1 w' σ:=by
 obtain ⟨s',l',a,b,c,d,t,n,lg,ms,mr⟩:=z;obtain ⟨rfl,rfl,g,gl,hr,E9,GX,Q2,hB⟩:=h;dsimp only at g gl hr E9 GX Q2;obtain ⟨wC,wv,rfl⟩:=hr.shape;obtain ⟨EL,EC,rfl⟩:=E9.shape;obtain ⟨OE,Om,rfl⟩:=RI.shape GX;obtain ⟨bh,hl,s9,hm,rF,zu⟩:=hB.ok';have hn:=s9.many;have TF:=oy m r r.length;refine Cl.o func61 ntmps61 ag1 ?_;refine .ae (.bx hs fun b1 w hs=>?_);refine .z zg (.zn zg (.ae (.zn zg (.seq (.ae (.z (zfa gU) (.y hs (zld kY) (.z (cJ bN) (.zn zm (.for (N:=r.length) (J:=fun k fr w=>∃H1 vo cn en,fr=[(4,vo),(11,.slice wC r.length wv),(1,Pt b1)]∧HLe H H1∧cn.length=k∧(∀i<k,∃lo hi,pW s' (gi ks i).toNat (lg0 r i).dlo (lg0 r i).dhi lo hi 0∧gi cn i=HD (nY m r i) lo hi)∧(0<k→s'.sys.Sound)∧bM 1 vo (Is cn) en∧St H1 w (en:: .blk b1 (RtV.cs ⟨s',l',a,b,c,d,t,n,.slice wC r.length wv,.slice EL (msL m r r.length).length EC,.slice OE ks.length Om⟩)::σ)) aj ?_ ?_ ?_))))))))))
 ·exact .mk ⟨H,_,[],.nul,rfl,HLe.refl _,rfl,fun i hi=>by omega,fun h=>by omega,.nil 1 none,hs.nul⟩
 ·rintro k fr w hk ⟨H1,vo,cn,en,rfl,aq,En,has,xy,hO,hs⟩;have hx:=qs (l:=r) hk;have O6:=FD m r (k:=r.length) (i:=k) aj;have IE:=(s9.leg k hk).1.dense;obtain ⟨q,hq,Pd⟩:=hB.mark hk;obtain ⟨ao,lo',co,rfl,Da⟩:=hO.shape;refine .block (.ae (.z zm (.ixX (enc:=Lg.c) hs (hr.mono aq) rfl rfl bN bI hx dD ?_)));intro w7 o16 ee;refine .q hs (bD (vs:=(Lg.c (lg0 r k))) rfl jY bI ee) (.o (.alloc hs eF rfl fun b6 w hs=>?_));refine .z zg (.o (.aD (vs:=(lg0 r k).c) hs rfl rfl bI fun w hs=>?_));change St _ _ (.blk b6 (lgC (lg0 r k))::_) at hs;refine .nil (.cut (fun fs w=>∃H2 lo hi e b7,np fs ⟨60,[],[(8,I e),(7,Pt b7),(6,Pt b6),(5,I (k:Int)),(4,.slice ao lo' co),(1,Pt b1),(11,.slice wC r.length wv),(13,I (k:Int)),(12,I (r.length:Int))]⟩∧HLe H1 H2∧pW s' q (lg0 r k).dlo (lg0 r k).dhi lo hi e∧St H2 w (.blk b7 [I lo,I hi]:: .blk b6 (lgC (lg0 r k))::en:: .blk b1 (RtV.cs ⟨s',l',a,b,c,d,t,n,.slice wC r.length wv,.slice EL (msL m r r.length).length EC,.slice OE ks.length Om⟩)::σ)) ?_ ?_)
  ·refine .draw mix rfl hs fun w hs=>?_
   refine .zw 0 rfl (zfa mR) ?_;refine .ys 1 rfl hs [_,_,_,_,_,_,_,_] bA aM ?_;refine .z 2 rfl (zfa ji) ?_;refine .y 3 rfl hs an ?_;refine .z 4 rfl zm ?_;refine .ixX (enc:=fun x=>[I x]) (i:=5) hs rfl au .none (GX.mono aq) rfl rfl af ak (bG (l:=ks) (i:=k) aj) rfl ?_;intro Hv o24 rI;replace rI:=bE.one rI;refine .y 6 rfl hs ai ?_;refine .z 7 rfl (zfa eW) ?_;refine .ys 8 rfl hs [_,_] dL a8 ?_;refine .e2 (i:=9) (j:=13) au rfl rfl rfl rfl .none .none hs ?_ ?_
   ·rw [hq];refine .call call121 rfl (k9 (s:=s') hs (g.mono aq) bh IE) ?_;rintro _ w ⟨H2,lo,hi,e,aO,rfl,hS,hs⟩;refine .go (.zw 10 rfl zm ?_);refine .z 11 rfl zex ?_;refine .z 12 rfl zex ?_;refine .E 13 hs ?_;refine .alloc hs gW rfl ?_;intro b7 w hs;refine .go (.E 14 hs ?_);refine .aD (vs:=[_,_]) hs rfl rfl a8 ?_;intro w hs;refine .go (.zw 15 rfl zg ?_);refine .D hs ?_;exact nT ⟨H2,lo,hi,e,b7,bk,aO,hS,hs.sb⟩
   ·refine .alloc hs gW rfl ?_;intro b7 w hs;refine .go (.E 9 hs ?_);rw [hq];refine .call call121 rfl (k9 (s:=s') hs (g.mono aq) bh IE) ?_;rintro _ w ⟨H2,lo,hi,e,aO,rfl,hS,hs⟩;refine .go (.zw 10 rfl zm ?_);refine .z 11 rfl zex ?_;refine .z 12 rfl zex ?_;refine .E 14 hs ?_;refine .aD (vs:=[_,_]) hs rfl rfl a8 ?_;intro w hs;refine .go (.zw 15 rfl zg ?_);refine .D hs ?_;exact nT ⟨H2,lo,hi,e,b7,bk,aO,hS,hs.sb⟩
  ·rintro fs w ⟨H2,lo,hi,e,b7,i7,aO,hS,hs⟩;refine WE.sub ?_ i7;clear i7;have cK:=aq.trans aO;refine .seq (.ae (.z zm (.zn gE (.eN rfl (fun Cx=>?_) (fun Cx=>?_)))))
   ·exact .ae (.z zm (.z zg (.zn zg (.ret (rT (rB (rT (rB (rT (Fin.mi results61 rfl rfl ⟨H2,_,[],_,cK,rfl,RS.nil H2 1 none 0,by rcases hS.err bh Pd with h|h;exact (Cx h.1).elim;rw [h.1];exact .fls hB h.2.1,hs.out⟩))))))))))
   ·refine .skip (nT (.ae (.zn zg (.cut (fun fs w=>∃x,np fs ⟨60,[],[(9,I x),(4,.slice ao lo' co),(1,Pt b1),(11,.slice wC r.length wv),(13,I (k:Int)),(12,I (r.length:Int))]⟩∧x=HD (nY m r k) lo hi∧St H2 w (.blk b7 [I lo,I hi]:: .blk b6 (lgC (lg0 r k))::en:: .blk b1 (RtV.cs ⟨s',l',a,b,c,d,t,n,.slice wC r.length wv,.slice EL (msL m r r.length).length EC,.slice OE ks.length Om⟩)::σ)) ?_ ?_))))
    ·refine .block (.seq (.draw mix rfl hs fun w hs=>?_));refine .zw 0 rfl (zfa kK) ?_;refine .y 1 rfl hs isAgg165 ?_;refine .z 2 rfl zm ?_;refine .ixX (enc:=Rng.c) (i:=3) hs rfl au .none (RS.mono E9 cK) rfl rfl fT a8 O6 rfl ?_;intro b38 o38 AV;refine .zw 4 rfl (zfa cg) (.r (i:=5) hs rfl au .none (aP rfl ai (AV.get 1 rfl)) ?_);refine .zw 6 rfl (zfa bR) ?_;refine .y 7 rfl hs ai ?_;refine .z 8 rfl rl ?_;refine .z 9 rfl zg ?_;refine .D hs ?_;refine (.bX rfl (fun ma=>?_) (fun ma=>?_))
     ·exact .region (.zn zg (nB (nT ⟨_,bk,by unfold HD;simp [*],hs⟩)))
     ·refine .seq (.draw mix rfl hs fun w hs=>?_);refine .zw 0 rfl (zfa kK) ?_;refine .y 1 rfl hs isAgg165 ?_;refine .z 2 rfl zm ?_;refine .ixX (enc:=Rng.c) (i:=3) hs rfl au .none (RS.mono E9 cK) rfl rfl fT a8 O6 rfl ?_;intro b48 o48 zD;refine .zw 4 rfl (zfa bR) (.r (i:=5) hs rfl au .none (aP rfl ai (zD.get 0 rfl)) ?_);refine .zw 6 rfl (zfa cg) ?_;refine .y 7 rfl hs ai ?_;refine .z 8 rfl q5 ?_;refine .z 9 rfl zg ?_;refine .D hs ?_;refine (.bX rfl (fun AU=>?_) (fun AU=>?_))
      ·exact .region (.zn zg (nB (nT ⟨_,bk,by unfold HD;simp [*],hs⟩)))
      ·exact .skip (nB (nT ⟨_,bk,by unfold HD;simp [*],hs⟩))
    ·rintro fs w ⟨x,i7,hx9,hs⟩;refine WE.sub ?_ i7;clear i7;refine .region (.z zm (.z zm (.o (.buildSlice (cells:=Is [x]) hs bJ rfl au fun aat w hs=>?_))));refine .o (.append (ys:=Is [x]) hs bO rfl rfl hO (.own .here rfl rfl) (jF _) (fun l h=>by simp [Is] at h;omega) ?_);intro v57 en57 w eh hs;rw [←List.map_append] at eh;refine .zn zg (nB (nT ?_));obtain rfl:e=0:=by omega
     exact .mk ⟨H2,_,cn++[x],_,rfl,cK,by simp [En],fun i hi=>by
      by_cases e:i=k
      ·subst e;exact ⟨_,_,by rw [hq,Int.toNat_natCast];exact hS,by rw [qA,if_neg aj,if_pos aj];exact hx9⟩
      ·rw [qA,if_pos aj];exact has i aj,fun _=>(hS.err bh Pd).elim (fun h=>h.2) (fun h=>by omega),eh,hs.sb⟩
 ·rintro fr w ⟨H1,vo,cn,en,rfl,aq,En,has,xy,hO,hs⟩;obtain ⟨H4,eL,Uq,hs⟩:=hO.ck aj hs .here;exact nT (.ae (.z zm (.z zg (.zn zg (.ret (Fin.mi results61 rfl rfl ⟨H4,_,_,_,aq.trans eL,rfl,Uq,.ok hB (xy aj) En has,hs.out⟩))))))
theorem ql{w:World}{r:List Lg}{a b c:Value}(hs:St H w σ)(g:SvM H s a b c d)(gl:LnM H l vt vs)(pX:RLg H fu r):
  aaA 60 [svA s a b c d,lnA l vt vs,.agg #[fu],.agg #[I m.lo,I m.hi]] w fun u w'=>∃(H1:bB) (z:RtV) (ks:List Int) (e:Int),HLe H H1∧u= .tuple #[z.agg,I e]∧z.cs.all Value.oneCell'=true∧qZ s l r m ks e∧(e=0→RtM H1 s l r m ks z)∧St H1 w' σ:=by
 refine (za hs g gl pX).mono ?_;rintro u w' ⟨H1,z,ks,e,hle,hu,ho,hB,h0,hs⟩;exact ⟨H1,z,ks,e,hle,hu,ho,hB,fun he=>by
  obtain ⟨vms,vmk,rfl,h1,h2⟩:=h0 he;subst he;exact ⟨rfl,rfl,g.mono hle,gl.mono hle,pX.mono hle,h1,h2,ho,hB⟩,hs⟩
theorem vQ{w:World}{r:List Lg}{a b c:Value}(hs:St H w σ)(g:SvM H s a b c d)(gl:LnM H l vt vs)(pX:RLg H fu r):
  aaA 58 [svA s a b c d,lnA l vt vs,.agg #[fu],.agg #[I m.lo,I m.hi]] w fun u w'=>∃H1 v cn e,HLe H H1∧u= .tuple #[v,I e]∧RI H1 v cn∧Ff s l r m cn e∧St H1 w' σ:=by
 refine Cl.o func58 ntmps58 ag4 ?_;refine .ae (.bx hs fun b4 w hs=>?_);refine .bx hs fun b5 w hs=>?_
 refine .bx hs fun b6 w hs=>?_
 refine .bx hs fun b7 w hs=>?_
 refine .z zg (.zn zg (.ae (.y hs (zls [_,_,_,_,_,_,_,_] bA aM) (.y hs (zls [_,_,_,_] iO eu) (.y hs (zls [_] iN dN) (.y hs (zls [_,_] dL a8) (.o (.call call60 rfl (ql (s:=s) (l:=l) (m:=m) hs g gl pX) ?_))))))));rintro _ w ⟨H1,z,ks,e,aq,rfl,ho,hB,h0,hs⟩;refine .z zm (.z zex (.z zex (.o (.alloc hs uV rfl fun jx w hs=>?_))));refine .o (.aD (vs:=z.cs) hs rfl rfl eA ?_ (hv:=ho));intro w hs;refine .zn zg (.seq (.ae (.z zm (.zn gE (.eN rfl (fun kf=>?_) (fun kf=>?_))))))
 ·exact .ae (.z zm (.z zg (.zn zg (.ret (rT (Fin.mi results58 rfl rfl ⟨H1,_,[],_,aq,rfl,RS.nil H1 1 none 0,.bad hB kf,hs.out⟩))))))
 ·refine .skip (nT (.ae (.y hs (zls [_,_,_,_,_,_,_,_,_,_,_,_,_,_,_] Ar eA) ?_)));obtain rfl:e=0:=by omega
  refine .o (.call call61 rfl (oz hs (h0 rfl)) ?_);rintro _ w ⟨H2,v,cn,e,aO,rfl,hR,hA,hs⟩;exact .z zex (.z zex (.z zg (.zn zg (.ret (Fin.mi results58 rfl rfl ⟨H2,_,_,_,aq.trans aO,rfl,hR,hA,hs.out⟩)))))
theorem xq{w:World}{v:Value}(hs:St H w σ)(hr:RI H v cn):aaA 59 [v] w fun u w'=>u=I (Cr cn)∧St H w' σ:=by
 obtain ⟨a,c,rfl⟩:=RI.shape hr;have hl:=(RI.len hr).2.2;refine Cl.o func59 ntmps59 ag1 ?_;refine .ae (.zn zg (.ae (.zn zg (.seq (.ae (.z zm (.z (cJ af) (.zn zm (.for (N:=cn.length) (J:=fun k fr w=>fr=[(3,I (if (2:Int)∈cn.take k then 2 else 1)),(6,.slice a cn.length c)]∧(∀i<k,gi cn i≠0)∧St H w σ) aj ?_ ?_ ?_)))))))))
 ·exact .mk ⟨rfl,fun i hi=>by omega,hs⟩
 ·rintro k fr w hk ⟨rfl,fF,hs⟩;have ht:=dv (bG hk);refine .block (.ae (.ixY hs hr rfl rfl af ak (bG (l:=cn) (i:=k) aj) dD ?_));intro jx o10 pR;refine .q hs (aP rfl ai pR) (.zn zg (.ae (.zn zm (.block (.ae (.z gO (.zn zg (.bX rfl (fun iX=>?_) (fun iX=>?_)))))))))
  ·exact .ae (.zn zg (.ret (rB (rB (rT (rB (rT (Fin.bp results59 rfl ⟨by unfold Cr;rw [if_pos (by rw [←iX];exact List.mem_of_getElem? (bG hk))],hs⟩))))))))
  ·refine .ae (.z gO (.zn zg (.bX rfl (fun iL=>?_) (fun iL=>?_))))
   ·refine .region (.zn zg (nB (nB (nT ?_))));exact .mk ⟨by rw [ht,if_pos (List.mem_append.2 (.inr (by rw [iL];exact .head _)))],fun i hi=>by
     by_cases e:i=k
     ·subst e;exact iX
     ·exact fF i aj,hs⟩
   ·refine .skip (nB (nB (nT ?_)));have e2:(if (2:Int)∈cn.take (k+1) then (2:Int) else 1)=if (2:Int)∈cn.take k then 2 else 1:=by
     have e:(2:Int)∈cn.take (k+1)↔(2:Int)∈cn.take k:=by
      rw [ht,List.mem_append];exact ⟨fun h=>h.elim id fun h=>by rw [List.mem_singleton] at h;exact (iL h.symm).elim,.inl⟩
     simp only [e]
    exact .mk ⟨by rw [e2],fun i hi=>by
     by_cases e:i=k
     ·subst e;exact iX
     ·exact fF i aj,hs⟩
 ·rintro fr w ⟨rfl,fF,hs⟩;rw [List.take_length];refine nT (.ae (.z zm (.zn zg (.ret (Fin.bp results59 rfl ?_)))));have h0:¬(0:Int)∈cn:=fun h=>by
   obtain ⟨i,hi⟩:=List.getElem?_of_mem h;have fk:=(List.getElem?_eq_some_iff.1 hi).1;rw [bG fk] at hi;exact fF i fk (Option.some.inj hi)
  exact ⟨by unfold Cr;rw [if_neg h0],hs⟩
theorem qm{w:World}{r:List Lg}{a b c:Value}(hs:St H w σ)(g:SvM H s a b c d)(gl:LnM H l vt vs)(pX:RLg H fu r):
  aaA 22 [svA s a b c d,lnA l vt vs,.agg #[fu],.agg #[I m.lo,I m.hi]] w fun u w'=>∃H1 n e,HLe H H1∧u= .tuple #[I n,I e]∧HI s l r m n e∧St H1 w' σ:=by
 refine Cl.o func22 ntmps22 ag4 ?_;refine .ae (.bx hs fun b4 w hs=>?_);refine .bx hs fun b5 w hs=>?_
 refine .bx hs fun b6 w hs=>?_
 refine .bx hs fun b7 w hs=>?_
 refine .z zg (.zn zg (.ae (.y hs (zls [_,_,_,_,_,_,_,_] bA aM) (.y hs (zls [_,_,_,_] iO eu) (.y hs (zls [_] iN dN) (.y hs (zls [_,_] dL a8) (.o (.call call58 rfl (vQ (s:=s) (l:=l) (m:=m) hs g gl pX) ?_))))))));rintro _ w ⟨H1,v,cn,e,aq,rfl,hR,hA,hs⟩;refine .z zm (.z zex (.z zex (.z zg (.zn zg (.seq (.ae (.z zm (.zn gE (.eN rfl (fun kf=>?_) (fun kf=>?_))))))))))
 ·exact .ae (.z zm (.z zg (.zn zg (.ret (rT (Fin.mi results22 rfl rfl ⟨H1,_,_,aq,rfl,.bad hA kf,hs.out⟩))))))
 ·refine .skip (nT (.ae (.z zm ?_)));obtain rfl:e=0:=by omega
  refine .o (.call call59 rfl (xq hs hR) ?_);rintro _ w ⟨rfl,hs⟩;exact .z zg (.zn zg (.ret (Fin.mi results22 rfl rfl ⟨H1,_,_,aq,rfl,.ok hA,hs.out⟩)))
set_option maxHeartbeats 1000000 in
theorem rA{w:World}{r:List Lg}{x:Wit}{a b c:Value}(hs:St H w σ)(g:SvM H s a b c d)(gl:LnM H l vt vs)(pX:RLg H fu r)(gh:RT H vh x.rows):
  aaA 24 [svA s a b c d,lnA l vt vs,.agg #[fu],.agg #[I m.lo,I m.hi],.agg #[I x.leg,I x.dense,I x.tC,vh]] w fun u w'=>∃H1 e,HLe H H1∧u=I e∧UL s l r m x e∧St H1 w' σ:=by
 refine Cl.o func24 ntmps24 ag5 ?_;refine .ae (.bx hs fun b5 w hs=>?_);refine .bx hs fun b6 w hs=>?_
 refine .bx hs fun b7 w hs=>?_
 refine .bx hs fun b8 w hs=>?_
 refine .bx hs fun b9 w hs=>?_
 refine .zn zg (.ae (.y hs (zls [_,_,_,_,_,_,_,_] bA aM) (.y hs (zls [_,_,_,_] iO eu) (.y hs (zls [_] iN dN) (.y hs (zls [_,_] dL a8) (.o (.call call60 rfl (ql (s:=s) (l:=l) (m:=m) hs g gl pX) ?_)))))));rintro _ w ⟨H1,z,ks,e,aq,rfl,ho,hB,h0,hs⟩;refine .z zm (.z zex (.z zex (.o (.alloc hs uV rfl fun EJ w hs=>?_))));refine .o (.aD (vs:=z.cs) hs rfl rfl eA ?_ (hv:=ho));intro w hs;refine .zn zg (.seq (.ae (.z zm (.zn gE (.eN rfl (fun jC=>?_) (fun jC=>?_))))))
 ·exact .ae (.z zm (.zn zg (.ret (rT (Fin.bp Jk rfl ⟨H1,_,aq,rfl,.bad hB jC,hs.out⟩)))))
 ·refine .skip (nT (.seq (.ae ?_)));obtain rfl:e=0:=by omega
  obtain ⟨s',l',a',b',c',d',t',n',lg',ms',mr'⟩:=z;obtain ⟨rfl,rfl,g',-,Ag,E9,GX,Q2,-⟩:=h0 rfl;dsimp only at g' Ag E9 GX;obtain ⟨wC,wv,rfl⟩:=Ag.shape;obtain ⟨EL,EC,rfl⟩:=E9.shape;obtain ⟨OE,Om,rfl⟩:=RI.shape GX;obtain ⟨bh,hl,s9,hm,rF,zu⟩:=hB.ok';have hn:=s9.many;have TF:=oy m r r.length;replace gh:=gh.mono aq;refine .z (zfa dh) (.y hs (zld ai) (.z (zfa gU) (.y hs (zld kY) (.z (cJ bN) (.z iw (.o (.call nW rfl (bY hs) ?_)))))));rintro _ w ⟨rfl,hs⟩;refine .z im (.z zm (.bif (t':=36) rfl (fun Rn=>?_) (fun Rn=>?_)))
  ·exact .Fs 5 8 false (.zn zpT (.cT (.ae (.zn zg (.ret (rT (Fin.bp Jk rfl ⟨H1,_,aq,rfl,.no hB (fun h=>by have:=h.leg;simp_all),hs.out⟩)))))))
  ·refine .T (.y hs (zls [_,_,_,_,_,_,_,_] bA aM) (.T (.z (zfa jS) (.T (.y hs (zls [_] pc ea) (.T (.o (.call call18 rfl (k8 (s:=s') (rows:=x.rows) hs (g.mono aq).st (g.mono aq).wa (g.mono aq).rd (g.mono aq).cm gh) ?_))))))));rintro _ w ⟨H2,e,aO,rfl,Yz,hs⟩;have cK:=aq.trans aO;refine .T (.z gE (.zn zpF (.eN rfl (fun IJ=>?_) (fun IJ=>?_))))
   ·exact .ae (.zn zg (.ret (rT (Fin.bp Jk rfl ⟨H2,_,cK,rfl,.no hB (fun h=>IJ (Yz.uniq h.hull)),hs.out⟩))))
   ·refine .skip (nT (.cut (fun fs w=>∃jG tt,np fs ⟨101,[],[(14,Pt tt),(13,Pt jG),(11,Pt EJ),(9,Pt b9)]⟩∧St H2 w (.blk tt (nY m r x.leg.toNat).c:: .blk jG (lg0 r x.leg.toNat).c:: .blk EJ (RtV.cs ⟨s',l',a',b',c',d',t',n',.slice wC r.length wv,.slice EL (msL m r r.length).length EC,.slice OE ks.length Om⟩):: .blk b9 [I x.leg,I x.dense,I x.tC,vh]::σ)) ?_ ?_))
    ·refine .draw mix rfl hs fun w hs=>?_
     have TK:0≤x.leg∧x.leg≤(r.length:Int) - 1:=by simpa using Rn
     obtain rfl:e=0:=by omega
     have fk:x.leg.toNat<r.length:=by omega
     have sf:=qs (l:=r) fk;have O6:=FD m r (k:=r.length) (i:=x.leg.toNat) aj;refine .zw 0 rfl (zfa gU) ?_;refine .y 1 rfl hs kY ?_;refine .z 2 rfl (zfa dh) ?_;refine .y 3 rfl hs ai ?_;refine .ixX (enc:=Lg.c) (i:=4) hs rfl au .none (RS.mono Ag aO) rfl rfl bN bI sf aj ?_;intro VI o47 pQ;refine .r (i:=5) hs rfl au .none (bD (vs:=(lg0 r x.leg.toNat).c) rfl jY bI pQ) ?_;refine .zw 6 rfl (zfa kK) ?_;refine .y 7 rfl hs isAgg165 ?_;refine .z 8 rfl (zfa dh) ?_;refine .y 9 rfl hs ai ?_;refine .ixX (enc:=Rng.c) (i:=10) hs rfl au .none (RS.mono E9 aO) rfl rfl fT a8 O6 aj ?_;intro aau o53 F2;refine .r (i:=11) hs rfl au .none (bD (vs:=(nY m r x.leg.toNat).c) rfl dL a8 F2) ?_;refine .e2 (i:=12) (j:=13) au rfl rfl rfl rfl .none .none hs ?_ ?_
     ·refine .alloc hs eF rfl ?_;intro jG w hs;refine .go (.E 13 hs ?_);refine .alloc hs gW rfl ?_;intro tt w hs;refine .go (.E 14 hs ?_);refine .aD (vs:=(lg0 r x.leg.toNat).c) hs rfl rfl bI ?_;intro w hs;refine .go (.E 15 hs ?_);refine .aD (vs:=(nY m r x.leg.toNat).c) hs rfl rfl a8 ?_;intro w hs;exact .go (.D hs (nT ⟨jG,tt,bk,hs.sb⟩))
     ·refine .alloc hs gW rfl ?_;intro tt w hs;refine .go (.E 12 hs ?_);refine .alloc hs eF rfl ?_;intro jG w hs;refine .go (.E 14 hs ?_);refine .aD (vs:=(lg0 r x.leg.toNat).c) hs rfl rfl bI ?_;intro w hs;refine .go (.E 15 hs ?_);refine .aD (vs:=(nY m r x.leg.toNat).c) hs rfl rfl a8 ?_;intro w hs;exact .go (.D hs (nT ⟨jG,tt,bk,hs.sb⟩))
    ·rintro fs w ⟨jG,tt,i7,hs⟩;refine WE.sub ?_ i7;clear i7;have TK:0≤x.leg∧x.leg≤(r.length:Int) - 1:=by simpa using Rn
     obtain rfl:e=0:=by omega
     have fk:x.leg.toNat<r.length:=by omega
     obtain ⟨q,hq,Pd⟩:=hB.mark fk;have IE:=(s9.leg _ fk).1.dense;unfold iM at IE;change St _ _ (.blk tt [I (nY m r x.leg.toNat).lo,I (nY m r x.leg.toNat).hi]:: .blk jG (lgC (lg0 r x.leg.toNat))::_) at hs;refine .seq (.ae (.z (zfa iA) (.y hs (zld ai) (.z (zfa eW) (.z (zfa bR) (.y hs (zld ai) (.z (zfa eW) (.z (zfa cg) (.y hs (zld ai) (.o (.call nW rfl (bY hs) ?_)))))))))));rintro _ w ⟨rfl,hs⟩;refine .z im (.z zm (.bif (t':=65) rfl (fun Uh=>?_) (fun Uh=>?_)))
     ·exact .Fs 8 10 false (.zn zpT (.cT (.ae (.zn zg (.ret (rT (Fin.bp Jk rfl ⟨H2,_,cK,rfl,.no hB (fun h=>by have:=h.dense;simp_all),hs.out⟩)))))))
     ·refine .T ?_;refine .z (zfa mc) (.T (.y hs (zld ai) (.T (.z (zfa bR) (.T (.y hs (zld ai) (.T (.z (zfa cg) (.T (.y hs (zld ai) (.T (.o (.call nW rfl (bY hs) ?_)))))))))))));rintro _ w ⟨rfl,hs⟩;refine .T (.z im (.zn zpF (.cond rfl (fun IH=>?_) (fun IH=>?_))))
      ·exact .ae (.zn zg (.ret (rT (Fin.bp Jk rfl ⟨H2,_,cK,rfl,.no hB (fun h=>by have:=h.tC;simp_all),hs.out⟩))))
      ·refine .skip (nT (.ae (.zn zg (.cut (fun fs w=>∃n H3,np fs ⟨101,[],[(15,I n),(9,Pt b9)]⟩∧HLe H H3∧HlR s' x.rows q n∧(-7000000000≤n∧n≤7000000000)∧St H3 w (.blk b9 [I x.leg,I x.dense,I x.tC,vh]::σ)) ?_ ?_))))
       ·refine .ae (.z (zfa ji) (.y hs (zld an) (.z (zfa dh) (.y hs (zld ai) (.ixX (enc:=fun x=>[I x]) hs (RS.mono GX aO) rfl rfl af ak (bG (l:=ks) (i:=x.leg.toNat) aj) aj ?_)))));intro b79 o79 IG;replace IG:=bE.one IG;rw [hq] at IG;refine .y hs (zld ai) (.zn zg (.ae (.z zm (.zn q5 (.bX rfl (fun XD=>?_) (fun XD=>?_))))))
        ·refine .draw mix rfl hs fun w hs=>?_
         refine .zw 0 rfl (zfa mR) ?_;refine .z 1 rfl (zfa bj) ?_;refine .ys 2 rfl hs [_,_,_,_,_,_] bu aI ?_;refine .z 3 rfl (zfa jS) ?_;refine .ys 4 rfl hs [_] pc ea ?_;refine .z 5 rfl zm ?_;refine .E 6 hs ?_;refine .call call63 rfl (iS hs) ?_;rintro _ w ⟨rfl,hs⟩;refine .go (.E 7 hs ?_);refine .call call11 rfl (kF (s:=s'.sp) (rows:=x.rows) (q:=⟨1,0,q⟩) hs (g'.mono aO).st (g'.mono aO).wa (gh.mono aO)) ?_;rintro _ w ⟨H3,n,f,bP,rfl,hV,hs⟩;refine .go (.zw 8 rfl zm ?_);refine .z 9 rfl zex ?_;refine .z 10 rfl zex ?_;refine .z 11 rfl zg ?_;refine .D hs ?_;refine nT ?_;obtain rfl:f=0:=by
          have Xn:=Yz.Tj
          cases hV with
          |space h=>exact (h bh.early.1).elim
          |hull _ h=>exact (h Xn).elim
          |what _ _ h=>exact (h (B7 (v:=s') aj Pd)).elim
          |ok=>rfl
         exact ⟨n,H3,bk,cK.trans bP,.up aj hV,hV.bd rfl,hs.sb⟩
        ·exact .skip (nT ⟨0,H2,bk,cK,.zero aj,aj,hs.sb⟩)
       ·rintro fs w ⟨n,H3,i7,eO,aai,Zx,hs⟩;refine WE.sub ?_ i7;clear i7;have hdw:(lg0 r x.leg.toNat).dlo≤x.dense∧x.dense≤(lg0 r x.leg.toNat).dhi:=by simpa using Uh
        have hmw:(nY m r x.leg.toNat).lo≤x.tC∧x.tC≤(nY m r x.leg.toNat).hi:=by simpa using IH
        refine .seq (.seq (.draw mix rfl hs fun w hs=>?_));refine .zw 0 rfl (zfa mc) ?_;refine .y 1 rfl hs ai ?_;refine .z 2 rfl zm ?_;refine .z 3 rfl (zfa iA) ?_;refine .y 4 rfl hs ai ?_;refine .E 5 hs ?_;refine .call call65 rfl (fg hs aj aj) ?_;rintro _ w ⟨rfl,hs⟩;refine .go (.zw 6 rfl rl ?_);refine .D hs ?_;refine (.bX rfl (fun zE=>?_) (fun zE=>?_))
        ·refine .ae (.zn zg (.ret (rT (Fin.bp Jk rfl ?_))));exact ⟨H3,_,eO,rfl,.no hB (fun h=>by
          obtain ⟨n',g1,g2⟩:=h.sinks;rw [hq,Int.toNat_natCast] at g1;rw [←aai.uniq g1] at g2;omega),hs.out⟩
        ·exact .skip (nT (.ae (.zn zg (.ret (Fin.bp Jk rfl ⟨H3,_,eO,rfl,.ok hB ⟨TK,Yz,hdw,hmw,n,by rw [hq,Int.toNat_natCast];exact aai,aj⟩,hs.out⟩)))))
theorem dC{w:World}{n m:Int}(hs:St H w σ)(hm:1≤m∧m≤4611686018427387904):aaA 191 [I n,I m] w fun u w'=>u=I (xp n m)∧St H w' σ:=by
 have h1:=Int.tmod_lt_of_pos n (show 0<m by omega);have h2:=Int.lt_tmod_of_pos n (show 0<m by omega);refine Cl.o func191 ntmps191 ag2 ?_;exact .ae (.zn zg (.ae (.z zm (.z zm (.z E2 (.z zm (.z cz (.z zm (.z E2 (.zn zg (.ret (Fin.bp results191 rfl ⟨rfl,hs⟩))))))))))))
theorem dw{w:World}{v:Value}{l:List Int}{i n:Int}(hs:St H w σ)(hr:RI H v l)(hi:0≤i)(hn:1≤n∧n≤1000000):aaA 116 [v,I i,I n] w fun u w'=>∃x,u=I x∧(0≤x∧x<n)∧St H w' σ:=by
 obtain ⟨a,c,rfl⟩:=RI.shape hr;refine Cl.o func116 ntmps116 ag3 ?_;refine .ae (.zn zg (.seq (.ae (.z zm (.z (cJ af) (.zn gO (.bX rfl (fun nP=>?_) (fun nP=>?_))))))))
 ·exact .ae (.zn zg (.ret (rT (Fin.bp results116 rfl ⟨0,rfl,aj,hs⟩))))
 ·refine .skip (nT (.ae (.z zm (.z zm (.z zm (.z (cJ af) (.z E2 ?_)))))));have h1:=Int.tmod_lt_of_pos i (show 0<(l.length:Int) by omega);have h2:=Int.tmod_nonneg (l.length:Int) hi;refine .ixX (enc:=fun x=>[I x]) hs hr rfl rfl af ak (bG (l:=l) (i:=(i.tmod l.length).toNat) aj) aj ?_;intro Df o15 iL;replace iL:=bE.one iL;refine .y hs (zld ai) (.z zm (.o (.call rX rfl (dC hs aj) ?_)));rintro _ w ⟨rfl,hs⟩;exact .zn zg (.ret (Fin.bp results116 rfl ⟨_,rfl,qi _ hn.1,hs⟩))
theorem kE{w:World}{b c d fr:Int}(hs:St H w σ)(hf:0≤fr∧fr≤1000000):aaA 117 [.agg #[I a,I b,I c,I d,I e,I f],I fr] w fun u w'=>∃x,u=lgA x∧L5 x fr∧St H w' σ:=by
 have m1:=qi a (m:=3) aj;have m2:=qi b (m:=40) aj;have m3:=qi c (m:=60) aj;have m4:=qi d (m:=100) aj;have m5:=qi (IntKind.i64.wrap (d.tdiv 100)) (m:=40) aj;have m6:=qi e (m:=500) aj;have m7:=qi f (m:=200) aj;refine Cl.o func117 ntmps117 ag2 ?_;refine .ae (.bx hs fun b2 w hs=>?_);refine .o (.alloc hs eF rfl fun b4 w hs=>?_);refine .nil (.cut (fun fs w=>∃b5,np fs ⟨50,[],[(5,Pt b5),(4,Pt b4),(2,Pt b2)]⟩∧St H w (.blk b5 [I (1+xp a 3),I (fr+xp b 40),I 0,I 0,I 0,I 0,I 0]:: .blk b4 [I 0,I 0,I 0,I 0,I 0,I 0,I 0]:: .blk b2 [I a,I b,I c,I d,I e,I f]::σ)) ?_ ?_)
 ·refine .draw mix rfl hs fun w hs=>?_
  refine .zw 0 rfl (zia 0 fS ak) (.y 1 rfl hs ai ?_);refine .z 4 rfl zm ?_;refine .zw 5 rfl (zia 1 fS ak) (.zv 6 rfl hs (rE ai) (.e2 (i:=2) (j:=10) au rfl rfl rfl rfl .none .none hs ?_ ?_))
  ·refine .call rX rfl (dC hs aj) ?_;rintro _ w ⟨rfl,hs⟩;refine .go (.zw 3 rfl cz (.e2 (i:=7) (j:=10) au rfl rfl rfl rfl .none .none hs ?_ ?_))
   ·refine .call rX rfl (dC hs aj) ?_;rintro _ w ⟨rfl,hs⟩;refine .go (.zw 8 rfl cz ?_);refine .z 9 rfl (zbd [_,_,_,_,_,_,_] tn) ?_;refine .E 10 hs ?_;refine .alloc hs eF rfl ?_;intro b5 w hs;refine .go (.E 11 hs ?_);refine .aD (vs:=[_,_,_,_,_,_,_]) hs rfl rfl bI ?_;intro w hs;exact .go (.D hs (nT ⟨b5,bk,hs.sb⟩))
   ·refine .alloc hs eF rfl ?_;intro b5 w hs;refine .go (.E 7 hs ?_);refine .call rX rfl (dC hs aj) ?_;rintro _ w ⟨rfl,hs⟩;refine .go (.zw 8 rfl cz ?_);refine .z 9 rfl (zbd [_,_,_,_,_,_,_] tn) ?_;refine .E 11 hs ?_;refine .aD (vs:=[_,_,_,_,_,_,_]) hs rfl rfl bI ?_;intro w hs;exact .go (.D hs (nT ⟨b5,bk,hs.sb⟩))
  ·refine .alloc hs eF rfl ?_;intro b5 w hs;refine .go (.E 2 hs ?_);refine .call rX rfl (dC hs aj) ?_;rintro _ w ⟨rfl,hs⟩;refine .go (.zw 3 rfl cz (.E 7 hs ?_));refine .call rX rfl (dC hs aj) ?_;rintro _ w ⟨rfl,hs⟩;refine .go (.zw 8 rfl cz ?_);refine .z 9 rfl (zbd [_,_,_,_,_,_,_] tn) ?_;refine .E 11 hs ?_;refine .aD (vs:=[_,_,_,_,_,_,_]) hs rfl rfl bI ?_;intro w hs;exact .go (.D hs (nT ⟨b5,bk,hs.sb⟩))
 ·rintro fs w ⟨b5,i7,hs⟩;refine WE.sub ?_ i7;clear i7;refine .seq (.draw mix rfl hs fun w hs=>?_);refine .zw 0 rfl (zfa lX) ?_;refine .y 1 rfl hs ai ?_;refine .zw 2 rfl (zia 2 fS ak) (.zv 3 rfl hs (rE ai) (.E 4 hs ?_));refine .call rX rfl (dC hs aj) ?_;rintro _ w ⟨rfl,hs⟩;refine .go (.zw 5 rfl cz ?_);refine .z 6 rfl (zfa kx) ?_;refine .E 7 hs ?_;refine .store hs rfl rfl ak ?_;intro w hs;refine .go (.D hs (.ae (.z (zia 3 fS ak) (.y hs (zld ai) (.o (.call rX rfl (dC hs aj) ?_))))));rintro _ w ⟨rfl,hs⟩;refine .z cz (.zn zg (.ae (.z zm (.z zm (.z (zia 3 fS ak) (.y hs (zld ai) (.z R5 (.o (.call rX rfl (dC hs aj) ?_)))))))));rintro _ w ⟨rfl,hs⟩;refine .z cz (.z (zbd [_,_] ew) (.z (zfa eW) (.o (.aD (vs:=[_,_]) hs rfl rfl a8 fun w hs=>?_))));refine .nil (.seq (.draw mix rfl hs fun w hs=>?_));refine .zw 0 rfl (zia 4 fS ak) (.zv 1 rfl hs (rE ai) (.zw 3 rfl (zia 4 fS ak) (.zv 4 rfl hs (rE ai) (.zw 6 rfl (zia 5 fS ak) (.zv 7 rfl hs (rE ai) (.E 2 hs ?_))))));refine .call rX rfl (dC hs aj) ?_;rintro _ w ⟨rfl,hs⟩;refine .go (.E 5 hs ?_);refine .call rX rfl (dC hs aj) ?_;rintro _ w ⟨rfl,hs⟩;refine .go (.E 8 hs ?_);refine .call rX rfl (dC hs aj) ?_;rintro _ w ⟨rfl,hs⟩;refine .go (.zw 9 rfl cz ?_);refine .z 10 rfl (zbd [_,_] ew) ?_;refine .z 11 rfl (zfa jk) ?_;refine .E 12 hs ?_;refine .aD (vs:=[_,_]) hs rfl rfl a8 ?_;intro w hs;refine .go (.D hs (.ae (.y hs (zls [_,_,_,_,_,_,_] jY bI) (.o (.aD (vs:=[_,_,_,_,_,_,_]) hs rfl rfl bI fun w hs=>?_)))));exact .nil (.ret (Fin.iz [] [] hs fun w hs=>⟨_,results1 results117 (cO (vs:=lgC ⟨1+xp a 3,fr+xp b 40,fr+xp b 40+xp c 60,950+xp d 100,950+xp d 100+xp (IntKind.i64.wrap (d.tdiv 100)) 40,xp e 500,xp e 500+xp f 200⟩) hs rfl jY bI),⟨1+xp a 3,fr+xp b 40,fr+xp b 40+xp c 60,950+xp d 100,950+xp d 100+xp (IntKind.i64.wrap (d.tdiv 100)) 40,xp e 500,xp e 500+xp f 200⟩,rfl,⟨by dsimp only;omega,by dsimp only;omega,by dsimp only;omega,by dsimp only;omega,by dsimp only;omega,by dsimp only;omega,by dsimp only;omega⟩,hs.out⟩))
theorem sO{w:World}{v:Value}{ns:List Int}(hs:St H w σ)(hr:RI H v ns):
  aaA 56 [v] w fun u w'=>∃l vt vs e1 e2,u=lnA l vt vs∧L4 l∧bM 2 vt (fbc l.table).flatten e1∧bM 4 vs (snc l.seasons).flatten e2∧St H w' (e2::e1::σ):=by
 refine Cl.o func56 ntmps56 ag1 ?_;refine .ae (.o (.alloc hs Y5 rfl fun b2 w hs=>?_));refine .nil (.ae (.z zm (.o (.call wF rfl (dw hs hr aj aj) ?_))));rintro _ w ⟨x6,rfl,g6,hs⟩;refine .z cz (.z zm (.o (.call wF rfl (dw hs hr aj aj) ?_)));rintro _ w ⟨x9,rfl,g9,hs⟩;refine .z cz (.z (zbd [I (100+x6),I (200+x9),.slice none 0 0,.slice none 0 0] CU rfl au) (.o (.alloc hs Y5 rfl fun b3 w hs=>?_)));refine .o (.aD (vs:=[_,_,_,_]) hs rfl rfl eu fun w hs=>?_);refine .nil (.ae (.z zm (.o (.call wF rfl (dw hs hr aj aj) ?_))));rintro _ w ⟨x13,rfl,g13,hs⟩;refine .z (zbd [_,_] lq) (.z zm (.o (.call wF rfl (dw hs hr aj aj) ?_)));rintro _ w ⟨x16,rfl,g16,hs⟩;refine .z cz (.z zm (.o (.call wF rfl (dw hs hr aj aj) ?_)));rintro _ w ⟨x19,rfl,g19,hs⟩;refine .z (zbd [_,_] lq) (.z zm (.o (.call wF rfl (dw hs hr aj aj) ?_)));rintro _ w ⟨x22,rfl,g22,hs⟩;refine .z (zbd [_,_] lq) (.o (.buildSlice (cells:=(fbc [⟨100,x13⟩,⟨400+x16,x19⟩,⟨1000,x22⟩]).flatten) hs pU rfl au fun Hv w hs=>?_));refine .z (zfa dU) (.o (.store hs rfl rfl sizeOf87 fun w hs=>?_));refine .nil (.seq (.ae (.zn zg (.block ?_))));replace hs:St H w (.blk Hv (fbc [⟨100,x13⟩,⟨400+x16,x19⟩,⟨1000,x22⟩]).flatten:: .blk b3 [I (100+x6),I (200+x9),.slice (some ⟨Hv,0,none⟩) 3 3,.slice none 0 0]:: .blk b2 [I 0,I 0,.slice none 0 0,.slice none 0 0]::σ):=hs;refine .loop (fun p:Nat×List Ssn×Value×Ent=>⟨62,[],[(4,I (p.1:Int)),(3,Pt b3),(2,Pt b2),(0,v)]⟩)
  (fun p w=>p.1≤4∧p.2.1.length=p.1∧(∀s∈p.2.1,I8 s)∧bM 4 p.2.2.1 (snc p.2.1).flatten p.2.2.2∧St H w (p.2.2.2:: .blk Hv (fbc [⟨100,x13⟩,⟨400+x16,x19⟩,⟨1000,x22⟩]).flatten:: .blk b3 [I (100+x6),I (200+x9),.slice (some ⟨Hv,0,none⟩) 3 3,p.2.2.1]:: .blk b2 [I 0,I 0,.slice none 0 0,.slice none 0 0]::σ)) (fun p=>4 - p.1) (0,[],_,.nul) bk
  ⟨by dsimp only;omega,rfl,fun s hs=>(by cases hs),.nil 4 none,hs.nul⟩ ?_
 rintro ⟨k,ss,vo,en⟩ w ⟨hk,rF,WB,hO,hs⟩;dsimp only at hk rF WB hO hs ⊢;obtain ⟨ao,co,rfl⟩:=hO.iQ (MK _) aj;rw [vv] at hO hs;refine .seq (.ae (.z zm (.z zm (.o (.call wF rfl (dw hs hr aj aj) ?_)))));rintro _ w ⟨x28,rfl,g28,hs⟩;refine .zn jt (.bX rfl (fun nQ=>?_) (fun nQ=>?_))
 ·refine .skip (nT (.seq (.block (.draw mix rfl hs fun w hs=>?_))));refine .zw 0 rfl (zfa jL) ?_;refine .y 1 rfl hs isAgg88 ?_;refine .z 2 rfl zm ?_;refine .z 3 rfl zm ?_;refine .z 4 rfl nf ?_;refine .z 5 rfl cz ?_;refine .z 8 rfl zm ?_;refine .z 9 rfl zm ?_;refine .z 10 rfl nf ?_;refine .z 11 rfl cz ?_;refine .zw 14 rfl zm ?_;refine .z 15 rfl zm ?_;refine .z 16 rfl nf ?_;refine .z 17 rfl cz ?_;refine .z 20 rfl zm ?_;refine .z 21 rfl zm ?_;refine .z 22 rfl nf ?_;refine .z 23 rfl cz ?_;refine .E 6 hs ?_;refine .call wF rfl (dw hs hr aj aj) ?_;rintro _ w ⟨x38,rfl,g38,hs⟩;refine .go (.zw 7 rfl cz (.E 12 hs ?_));refine .call wF rfl (dw hs hr aj aj) ?_;rintro _ w ⟨x44,rfl,g44,hs⟩;refine .go (.zw 13 rfl cz (.E 18 hs ?_));refine .call wF rfl (dw hs hr aj aj) ?_;rintro _ w ⟨x50,rfl,g50,hs⟩;refine .go (.zw 19 rfl cz (.E 24 hs ?_));refine .call wF rfl (dw hs hr aj aj) ?_;rintro _ w ⟨x56,rfl,g56,hs⟩;refine .go (.zw 25 rfl (zbd (Ssn.c ⟨1+x38,1+x44,1+x50,x56⟩) A2 rfl au) (.E 26 hs ?_));refine .buildSlice (cells:=Ssn.c ⟨1+x38,1+x44,1+x50,x56⟩) hs tm rfl au ?_;intro Sw w hs;refine .go (.E 27 hs ?_);refine .append (ys:=Ssn.c ⟨1+x38,1+x44,1+x50,x56⟩) hs mD rfl rfl hO (.own .here rfl rfl) (by simp [Ssn.c,Value.oneCell']) (fun l' h=>by rw [bH _ (MK _),vv] at h;omega) ?_;intro v59 en59 w eh hs;rw [←MJ] at eh;obtain ⟨a59,c59,rfl⟩:=eh.iQ (MK _) aj;refine .go (.zw 28 rfl (zfa jL) (.E 29 hs ?_));refine .store hs rfl rfl sizeOf88 ?_;intro w hs;refine .go (.D hs (nB (nT (.region (.z zm (.z cz (.zn zg (nT ?_))))))));exact ⟨(k+1,ss++[⟨1+x38,1+x44,1+x50,x56⟩],_,en59),.dP rfl br bk,⟨by dsimp only;omega,by simp [rF],fun s hs=>by
   rcases List.mem_append.1 hs with h|h
   ·exact WB s h
   ·rw [List.mem_singleton] at h;subst h;exact ⟨by dsimp only;omega,by dsimp only;omega,by dsimp only;omega,by dsimp only;omega⟩,eh,hs.sb⟩,by dsimp only;omega⟩
 ·refine .exit (xT (xT (xB (nT (.ae (.y hs (zls [_,_,_,_] iO eu) (.o (.aD (vs:=[_,_,_,_]) hs rfl rfl eu fun w hs=>?_))))))));refine .nil (.ret ?_);exact Fin.iz [] [] hs fun w hs=>⟨_,results1 results56 (cO (vs:=[I (100+x6),I (200+x9),.slice (some ⟨Hv,0,none⟩) 3 3,.slice ao ss.length co]) hs rfl iO eu),⟨100+x6,200+x9,[⟨100,x13⟩,⟨400+x16,x19⟩,⟨1000,x22⟩],ss⟩,_,_,.blk Hv (fbc [⟨100,x13⟩,⟨400+x16,x19⟩,⟨1000,x22⟩]).flatten,en,rfl,⟨⟨by dsimp only;omega,by dsimp only;omega,br,by dsimp only;omega,fun i hi=>by
   have h:i=0∨i=1∨i=2:=by simp at hi;omega
   rcases h with rfl|rfl|rfl
   ·exact ⟨by simp [fb0],by simp [fb0];omega,br⟩
   ·exact ⟨by simp [fb0];omega,by simp [fb0];omega,by simp [fb0];omega⟩
   ·exact ⟨by simp [fb0],by simp [fb0];omega,by simp [fb0];omega⟩,WB⟩,by dsimp only;omega,rfl,⟨rfl,rfl⟩,by dsimp only;omega⟩,.full rfl,hO,hs.sb⟩
set_option maxHeartbeats 1000000 in
theorem sM{w:World}{v:Value}{ns:List Sx}(hs:St H w σ)(hr:RS H 6 v (ns.map Sx.v)):
  aaA 57 [v] w fun u w'=>∃r vr en,u= .agg #[vr]∧L3 r∧bM 7 vr (lgc r).flatten en∧St H w' (en::σ):=by
 obtain ⟨a,c,rfl⟩:=hr.shape;have hlr:=hr.len;rw [List.length_map] at hr ⊢;refine Cl.o func57 ntmps57 ag1 ?_;refine .ae (.o (.alloc hs zeroValue93 rfl fun b2 w hs=>?_));refine .nil (.ae (.o (.alloc hs zeroValue93 rfl fun b3 w hs=>?_)));refine .nil (.ae (.zn zg (.seq (.ae (.zn zg (.block ?_))))));refine .loop (fun p:Nat×Int×List Lg×Value×Ent=>⟨40,[],[(5,I (p.1:Int)),(4,I p.2.1),(3,Pt b3),(2,Pt b2),(0,.slice a ns.length c)]⟩)
  (fun p w=>(p.1≤4∧p.1≤ns.length)∧p.2.2.1.length=p.1∧(0≤p.2.1∧p.2.1≤p.1*100)∧(0<p.1→(lg0 p.2.2.1 (p.1 - 1)).to=p.2.1)∧(∀i<p.1,(Jc (lg0 p.2.2.1 i)∧(0<i→(lg0 p.2.2.1 (i - 1)).to≤(lg0 p.2.2.1 i).fr))∧(lg0 p.2.2.1 i).bhi≤1000)∧bM 7 p.2.2.2.1 (lgc p.2.2.1).flatten p.2.2.2.2∧St H w (p.2.2.2.2:: .blk b3 [p.2.2.2.1]:: .blk b2 [.slice none 0 0]::σ)) (fun p=>4 - p.1) (0,0,[],_,.nul) bk
  ⟨by dsimp only;omega,rfl,by dsimp only;omega,fun h=>(by dsimp only at h;omega),fun i hi=>(by dsimp only at hi;omega),.nil 7 none,hs.nul⟩ ?_
 rintro ⟨k,fr,r,vo,en⟩ w ⟨hk,rF,ZL,s8,bh,hO,hs⟩;dsimp only at hk rF ZL s8 bh hO hs ⊢;obtain ⟨ao,co,rfl⟩:=hO.iQ (NC _) aj;rw [vX] at hO hs;refine .seq (.ae (.z zm (.z zm (.z (cJ runUnderlying82) (.z jt (.z zm (.mW (t':=11) rfl (fun zI=>?_) (fun zI=>?_))))))))
 ·refine .T (.z zm (.T (.z jt (.zn zpT (.bX rfl (fun iW=>?_) (fun iW=>?_))))))
  ·refine .skip (nT (.seq (.block (.ae ?_))));obtain ⟨q,hx⟩:=nth (l:=ns) (k:=k) aj;refine .z zm (.z zm (.ixX (enc:=Sx.v) hs hr rfl rfl runUnderlying82 sizeOf229 hx rfl ?_));intro Gl o19 mB;refine .q hs (bD (vs:=q.v) rfl isAgg229 sizeOf229 mB) (.z zm (.o (.call call117 rfl (kE (a:=q.a) (b:=q.b) (c:=q.c) (d:=q.d) (e:=q.e) (f:=q.f) hs aj) ?_)));rintro _ w ⟨x,rfl,hM,hs⟩;have hMo:=hM.ok aj;have aac:=hM.fr;have hM3:=hM.to;have Sn:=hM.blo;have aaa:=hM.bhi;refine .o (.alloc hs eF rfl fun b6 w hs=>?_);refine .o (.aD (vs:=[_,_,_,_,_,_,_]) hs rfl rfl bI fun w hs=>?_);refine .nil (.ae (.z (zfa kx) (.y hs (zld ai) (.zn zg (.region (.z (zfa dj) (.y hs (zld kY) (.y hs (zls [_,_,_,_,_,_,_] jY bI) (.o (.buildSlice (cells:=lgC x) hs mh rfl au fun Sy w hs=>?_))))))))));refine .o (.append (ys:=x.c) hs pV rfl rfl hO (.own .here rfl rfl) (by simp [Lg.c,Value.oneCell']) (fun l' h=>by rw [bH _ (NC _),vX] at h;omega) ?_);intro v29 en29 w eh hs;rw [←NB] at eh;obtain ⟨a29,c29,rfl⟩:=eh.iQ (NC _) aj;refine .z (zfa dj) (.o (.store hs rfl rfl sizeOf91 fun w hs=>?_));refine .nil (nB (nT (.region (.z zm (.z cz (.zn zg (nT ?_)))))));exact ⟨(k+1,x.to,r++[x],_,en29),.dP rfl br bk,⟨by dsimp only;omega,by simp [rF],by dsimp only;omega,fun _=>by dsimp only;rw [ug,if_neg aj,if_pos aj],fun i hi=>by
    dsimp only at hi ⊢;by_cases e:i=k
    ·subst e;rw [ug,if_neg aj,if_pos aj,ug];refine ⟨⟨hMo,fun h=>?_⟩,aj⟩;rw [if_pos aj];have:=s8 h;omega
    ·rw [ug,if_pos aj,ug,if_pos aj];exact bh i aj,eh,hs.sb⟩,by dsimp only;omega⟩
  ·refine .exit (xT (xT (xB (nT (.seq (.ae (.z (zfa dj) (.y hs (zld kY) (.z (cJ bN) (.zn gO (.bX rfl (fun ma=>?_) (fun ma=>?_))))))))))))
   ·refine .region ?_;obtain rfl:k=0:=by omega
    obtain rfl:r=[]:=List.length_eq_zero_iff.1 rF;refine .q hs (Ca (vs:=[]) (cells:=[I 0,I 0,I 0,I 0,I 0,I 0]) zeroValue229 rfl fS ak rfl) (.o (.call call117 rfl (kE (a:=0) (b:=0) (c:=0) (d:=0) (e:=0) (f:=0) hs aj) ?_));rintro _ w ⟨x,rfl,hM,hs⟩;have Sn:=hM.blo;have aaa:=hM.bhi;refine .o (.buildSlice (cells:=(lgc [x]).flatten) hs mh rfl au fun OB w hs=>?_);refine .z (zfa dj) (.o (.store hs rfl rfl sizeOf91 fun w hs=>?_));refine .nil (nT (.ae (.y hs (zls [_] iN dN) (.o (.aD (vs:=[_]) hs rfl rfl dN fun w hs=>?_)))));refine .nil (.ret ?_);exact Fin.iz [] [] hs fun w hs=>⟨_,results1 results57 (cO (vs:=[.slice (some ⟨OB,0,none⟩) 1 1]) hs rfl iN dN),[x],_,.blk OB (lgc [x]).flatten,rfl,⟨⟨br,fun i hi=>by
     obtain rfl:i=0:=by simp at hi;omega
     exact ⟨hM.ok aj,fun h=>by omega⟩⟩,br,fun i hi=>by
     obtain rfl:i=0:=by simp at hi;omega
     show x.bhi≤1000;omega⟩,.full rfl,hs.sb⟩
   ·refine .skip (nT (.ae (.y hs (zls [_] iN dN) (.o (.aD (vs:=[_]) hs rfl rfl dN fun w hs=>?_)))));exact .nil (.ret (Fin.iz [] [] hs fun w hs=>⟨_,results1 results57 (cO (vs:=[.slice ao r.length co]) hs rfl iN dN),r,_,en,rfl,⟨⟨aj,fun i hi=>(bh i aj).1⟩,aj,fun i hi=>(bh i aj).2⟩,hO,hs.sb⟩))
 ·refine .Fs 2 4 true (.zn zpF (.cF (.exit (xT (xT (xB (nT (.seq (.ae (.z (zfa dj) (.y hs (zld kY) (.z (cJ bN) (.zn gO (.bX rfl (fun ma=>?_) (fun ma=>?_)))))))))))))))
  ·refine .region ?_;obtain rfl:k=0:=by omega
   obtain rfl:r=[]:=List.length_eq_zero_iff.1 rF;refine .q hs (Ca (vs:=[]) (cells:=[I 0,I 0,I 0,I 0,I 0,I 0]) zeroValue229 rfl fS ak rfl) (.o (.call call117 rfl (kE (a:=0) (b:=0) (c:=0) (d:=0) (e:=0) (f:=0) hs aj) ?_));rintro _ w ⟨x,rfl,hM,hs⟩;have Sn:=hM.blo;have aaa:=hM.bhi;refine .o (.buildSlice (cells:=(lgc [x]).flatten) hs mh rfl au fun OB w hs=>?_);refine .z (zfa dj) (.o (.store hs rfl rfl sizeOf91 fun w hs=>?_));refine .nil (nT (.ae (.y hs (zls [_] iN dN) (.o (.aD (vs:=[_]) hs rfl rfl dN fun w hs=>?_)))));refine .nil (.ret ?_);exact Fin.iz [] [] hs fun w hs=>⟨_,results1 results57 (cO (vs:=[.slice (some ⟨OB,0,none⟩) 1 1]) hs rfl iN dN),[x],_,.blk OB (lgc [x]).flatten,rfl,⟨⟨br,fun i hi=>by
    obtain rfl:i=0:=by simp at hi;omega
    exact ⟨hM.ok aj,fun h=>by omega⟩⟩,br,fun i hi=>by
    obtain rfl:i=0:=by simp at hi;omega
    show x.bhi≤1000;omega⟩,.full rfl,hs.sb⟩
  ·refine .skip (nT (.ae (.y hs (zls [_] iN dN) (.o (.aD (vs:=[_]) hs rfl rfl dN fun w hs=>?_)))));exact .nil (.ret (Fin.iz [] [] hs fun w hs=>⟨_,results1 results57 (cO (vs:=[.slice ao r.length co]) hs rfl iN dN),r,_,en,rfl,⟨⟨aj,fun i hi=>(bh i aj).1⟩,aj,fun i hi=>(bh i aj).2⟩,hO,hs.sb⟩))
theorem Qv{P:Program}{s:FS}{w:World}{fn:Func}{r1 r2 r3 r4:ResultVar}{v3:Value}(hr:fn.results=#[r1,r2,r3,r4])(h1:HF P s w r1 v1)(h2:HF P s w r2 v2)(h3:HF P s w r3 v3)(h4:HF P s w r4 v4):∀a,Sim s a→(results fn a.tmps).run P w= .ok (.tuple #[v1,v2,v3,v4]) w:=fun a ha=>by
 have e1:=h1.run ha;have e2:=h2.run ha;have e3:=h3.run ha;have e4:=h4.run ha;rw [q9,hr];simp only [Array.mapM_eq_mapM_toList,List.mapM_cons,List.mapM_nil,Sem.run_bind,e1,e2,e3,e4,Result.andThen,Sem.run_pure,map_eq_pure_bind];simp
theorem sN{w:World}{v:Value}{ns:List Int}(hs:St H w σ)(hr:RI H v ns):
  aaA 56 [v] w fun u w'=>∃H1 l a n b c,HLe H H1∧u=lnA l (.slice a l.table.length n) (.slice b l.seasons.length c)∧L4 l∧LnM H1 l (.slice a l.table.length n) (.slice b l.seasons.length c)∧St H1 w' σ:=by
 refine (sO hs hr).mono ?_;rintro _ w ⟨l,vt,vn,e1,e2,rfl,hL,IQ,eh,hs⟩;have h1:=hL.tbl;have h2:=hL.sns;obtain ⟨H2,q2,p2,hs⟩:=bM.bQ (m:=4) eh (MK _) aj (by rw [vv];omega) hs .here;obtain ⟨H3,q3,p3,hs⟩:=bM.bQ (m:=2) IQ (YF _) aj (by rw [IV];omega) hs .here;have g:LnM H3 l vt vn:=⟨p3,RSn.mono p2 q3⟩;obtain ⟨a,n,rfl⟩:=g.tb.shape;obtain ⟨b,c,rfl⟩:=g.sn.shape;exact ⟨H3,l,a,n,b,c,q2.trans q3,rfl,hL,g,hs.sb⟩
theorem sL{w:World}{v:Value}{ns:List Sx}(hs:St H w σ)(hr:RS H 6 v (ns.map Sx.v)):
  aaA 57 [v] w fun u w'=>∃H1 r a n,HLe H H1∧u= .agg #[.slice a r.length n]∧L3 r∧RLg H1 (.slice a r.length n) r∧St H1 w' σ:=by
 refine (sM hs hr).mono ?_;rintro _ w ⟨r,vr,e1,rfl,hR,IQ,hs⟩;have h1:=hR.many;obtain ⟨H2,q2,p2,hs⟩:=bM.bQ (m:=7) IQ (NC _) aj (by rw [vX];omega) hs .here;have g:RLg H2 vr r:=p2;obtain ⟨a,n,rfl⟩:=g.shape;exact ⟨H2,r,a,n,q2,rfl,hR,g,hs.sb⟩
theorem yI{w:World}{x:Mn}{vn vg:Value}(hs:St H w σ)(hx:Gq H x vs v5 v4 vp vn vg):
  aaA 21 [x.agg vs v5 v4 vp vn vg] w fun u w'=>∃H1 s y aa ca ab cb ac cc ad cd ay cy l at_ ct cn cs r ar cr,HLe H H1∧u= .tuple #[svA s (.slice aa s.sp.st.length ca) (.slice ab s.sp.wa.length cb) (.slice ac s.rs.length cc) (.slice ad s.cs.length cd),.slice ay y.length cy,lnA l (.slice at_ l.table.length ct) (.slice cn l.seasons.length cs),.agg #[.slice ar r.length cr]]∧
   uN s∧oF s y∧SvM H1 s (.slice aa s.sp.st.length ca) (.slice ab s.sp.wa.length cb) (.slice ac s.rs.length cc) (.slice ad s.cs.length cd)∧RI H1 (.slice ay y.length cy) y∧L4 l∧LnM H1 l (.slice at_ l.table.length ct) (.slice cn l.seasons.length cs)∧L3 r∧RLg H1 (.slice ar r.length cr) r∧St H1 w' σ:=by
 obtain ⟨avs,cvs,rfl⟩:=RI.shape hx.sp;obtain ⟨av5,cv5,rfl⟩:=hx.rs.shape;obtain ⟨av4,cv4,rfl⟩:=hx.cs.shape;obtain ⟨avp,cvp,rfl⟩:=RI.shape hx.pk;obtain ⟨avn,cvn,rfl⟩:=RI.shape hx.ln;obtain ⟨avg,cvg,rfl⟩:=hx.lg.shape;rw [List.length_map] at hx ⊢;refine Cl.o func21 ntmps21 ag1 ?_;refine .ae (.bx hs fun b1 w hs=>?_);refine .o (.alloc hs kl rfl fun b2 w hs=>?_);refine .z zg (.o (.alloc hs Y5 rfl fun b4 w hs=>?_));refine .o (.alloc hs zeroValue93 rfl fun b5 w hs=>?_);refine .nil (.ae (.z (zfa qG) (.y hs (zls [_,_,_,_,_,_,_] isAgg27 sizeOf27) (.o (.call call7 rfl (AA hs hx.sp hx.rs hx.cs hx.pk) ?_)))));rintro _ w ⟨H1,s,y,a,b,c,d,vy,aq,rfl,hM,hK,r1,r2,r3,r4,hY,hs⟩;have Cz:SvM H1 s a b c d:=⟨r1,r2,r3,r4⟩;obtain ⟨aa,ca,rfl⟩:=RI.shape r1;obtain ⟨ab,cb,rfl⟩:=RI.shape r2;obtain ⟨ac,cc,rfl⟩:=RRd.shape r3;obtain ⟨ad,cd,rfl⟩:=RCm.shape r4;obtain ⟨ay,cy,rfl⟩:=RI.shape hY;replace hx:=hx.mono aq;refine .z zm (.z zex (.z zex (.o (.alloc hs kl rfl fun b6 w hs=>?_))));refine .o (.aD (vs:=[_,_,_,_,_,_,_,_]) hs rfl rfl aM fun w hs=>?_);refine .zn zg (.seq (.draw mix rfl hs fun w hs=>?_));refine .ys 0 rfl hs [_,_,_,_,_,_,_,_] bA aM ?_;refine .z 1 rfl zm ?_;refine .z 2 rfl (zfa qE) ?_;refine .y 3 rfl hs an ?_;refine .z 5 rfl (zfa qD) ?_;refine .y 6 rfl hs isAgg82 ?_;refine .E 4 hs ?_;refine .call call56 rfl (sN hs hx.ln) ?_;rintro _ w ⟨H2,l,at_,ct,cn,cs,aO,rfl,hL,gl,hs⟩;replace hx:=hx.mono aO;refine .go (.E 7 hs ?_);refine .call call57 rfl (sL hs hx.lg) ?_;rintro _ w ⟨H3,r,ar,cr,bP,rfl,hR,pX,hs⟩;refine .go (.E 8 hs ?_);refine .aD (vs:=[_,_,_,_,_,_,_,_]) hs rfl rfl aM ?_;intro w hs;refine .go (.zw 9 rfl zg (.E 10 hs ?_));refine .aD (vs:=[_,_,_,_]) hs rfl rfl eu ?_;intro w hs;refine .go (.E 11 hs ?_);refine .aD (vs:=[_]) hs rfl rfl dN ?_;intro w hs;refine .go (.D hs (.ret ?_));exact Fin.iz [] [] hs fun w hs=>⟨_,Qv results21 (cO (vs:=svC s (.slice aa s.sp.st.length ca) (.slice ab s.sp.wa.length cb) (.slice ac s.rs.length cc) (.slice ad s.cs.length cd)) hs rfl bA aM) rfl (cO (vs:=lnC l (.slice at_ l.table.length ct) (.slice cn l.seasons.length cs)) hs rfl iO eu) (cO (vs:=[.slice ar r.length cr]) hs rfl iN dN),
  H3,s,y,aa,ca,ab,cb,ac,cc,ad,cd,ay,cy,l,at_,ct,cn,cs,r,ar,cr,aq.trans (aO.trans bP),rfl,hM,hK,Cz.mono (aO.trans bP),RI.mono hY (aO.trans bP),hL,gl.mono bP,hR,pX,hs.out⟩
theorem kg{n n' d:Int}(h:n≤n')(hd:0≤d):fp n d≤fp n' d:=Int.ediv_le_ediv e9 (Int.mul_le_mul_of_nonneg_right h hd)
theorem wW{n d y:Int}(h1:x≤d)(h2:d≤y):min (fp n x) (fp n y)≤fp n d∧fp n d≤max (fp n x) (fp n y):=by
 unfold fp
 rcases Int.le_total 0 n with h|h
 ·have a1:n*x/1000≤n*d/1000:=Int.ediv_le_ediv e9 (Int.mul_le_mul_of_nonneg_left h1 h);have a2:n*d/1000≤n*y/1000:=Int.ediv_le_ediv e9 (Int.mul_le_mul_of_nonneg_left h2 h);omega
 ·have a1:n*d/1000≤n*x/1000:=Int.ediv_le_ediv e9 (Int.mul_le_mul_of_nonpos_left h h1);have a2:n*y/1000≤n*d/1000:=Int.ediv_le_ediv e9 (Int.mul_le_mul_of_nonpos_left h h2);omega
theorem Qn{b n d y:Int}(h1:a≤n)(h2:n≤b)(h3:x≤d)(h4:d≤y)(h0:0≤x):wK a x y≤fp n d∧fp n d≤Bl b x y:=by
 have e1:=kg (n:=a) (n':=n) (d:=d) h1 aj;have e2:=kg (n:=n) (n':=b) (d:=d) h2 aj;have e3:=(wW (n:=a) h3 h4).1;have e4:=(wW (n:=b) h3 h4).2;unfold wK Bl;omega
def vi(s:Srv)(y:List Int)(k:Nat):Int:=if k=0 then 0 else fW s.sp ⟨1,0,k⟩ (fD s.sp y s.sp.st.length) s.sp.many/tE ⟨1,0,k⟩
theorem HB{v:Srv}{r:List Lg}(h:Ff v l r m cn 0)(hB:qZ v l r m ks 0):v.sys.Sound∧cn.length=r.length∧∀i<r.length,∃lo hi,pW v (gi ks i).toNat (lg0 r i).dlo (lg0 r i).dhi lo hi 0∧gi cn i=HD (nY m r i) lo hi:=by
 generalize h0:(0:Int)=e0 at h
 cases h with
 |bad _ h=>exact (h h0.symm).elim
 |fls=>omega
 |ok g g1 g2 g3=>
  obtain ⟨rfl,_⟩:=hB.uniq g;exact ⟨g1,g2,g3⟩
def R2(cn:List Int)(z:Int):Prop:=(z= -1∧∀i<cn.length,gi cn i=1)∨∃i:Nat,z=(i:Int)∧i<cn.length∧gi cn i≠1∧∀j<i,gi cn j=1
inductive RY(v:Srv)(l:Lns)(r:List Lg)(m:Rng):Wit→Int→Prop
 |bad {cn:List Int} {e:Int} (h:Ff v l r m cn e) (he:e≠0):RY v l r m ⟨0,0,0,[]⟩ e
 |none {cn:List Int} (h:Ff v l r m cn 0) (h1:∀i<cn.length,gi cn i=1):RY v l r m ⟨0,0,0,[]⟩ 3
 |ok {cn ks:List Int} {x:Wit} {i:Nat} (h:Ff v l r m cn 0) (hi:i<cn.length) (h1:gi cn i≠1) (h2:∀j<i,gi cn j=1) (hl:x.leg=(i:Int)) (hB:qZ v l r m ks 0) (hw:OF v r m ks x):RY v l r m x 0
theorem OR{v:Srv}{r:List Lg}{q:Nat}{b d:Int}{y:List Int}(h:Ff v l r m cn 0)(hB:qZ v l r m ks 0)(hi:i<r.length)(h1:gi cn i≠1)(hq:gi ks i=(q:Int))(hy:EV v.sys (Fb (v.w ⟨1,0,(max q 1:Nat)⟩) false) y)
  (hL:C0 v q a b 0) (hd:(d=(lg0 r i).dlo∧fp a (lg0 r i).dlo≤fp a (lg0 r i).dhi)∨(d=(lg0 r i).dhi∧fp a (lg0 r i).dhi≤fp a (lg0 r i).dlo)):OF v r m ks ⟨(i:Int),d,(nY m r i).hi,fD v.sp y v.sp.st.length⟩:=by
 obtain ⟨bh,_,s9,hm,_,_⟩:=hB.ok';obtain ⟨xy,En,has⟩:=HB h hB;obtain ⟨lo,AR,hS,hA⟩:=has i hi;rw [hq,Int.toNat_natCast] at hS;have IE:=(s9.leg i hi).1.dense;unfold iM at IE;obtain ⟨hH,hK,_⟩:=EH bh hy.zero hy.De ⟨1,0,(max q 1:Nat)⟩;have Iw:=yZ hm (fun i hi=>(s9.leg i hi).1) (i:=i) aj;unfold kS at Iw;have rj:lo=wK a (lg0 r i).dlo (lg0 r i).dhi:=(hS.uniq (.ok hL)).1;have fF:¬(nY m r i).hi≤lo:=fun g=>h1 (hA.trans (CX.2 g))
 have G3:fp a d=lo:=by
  rw [rj];unfold wK
  rcases hd with ⟨rfl,g⟩|⟨rfl,g⟩<;>omega
 have Xn:HlR v (fD v.sp y v.sp.st.length) q a:=by
  by_cases e:q=0
  ·subst e;generalize h0:(0:Int)=e0 at hL
   cases hL with
   |up h=>omega
   |fls=>omega
   |zero=>exact .zero rfl
  ·have e1:max q 1=q:=by omega
   rw [e1] at hy;generalize h0:(0:Int)=e0 at hL
   cases hL with
   |up h g=>subst h0;have:=(RN g hy).1;rw [if_neg br] at this;exact .up h this
   |fls=>omega
   |zero h=>omega
 refine ⟨by dsimp only;omega,.ok bh hH hK,?_,?_,a,?_,?_⟩
 ·dsimp only;rw [Int.toNat_natCast];omega
 ·dsimp only;rw [Int.toNat_natCast];omega
 ·dsimp only;rw [Int.toNat_natCast,hq,Int.toNat_natCast];exact Xn
 ·dsimp only;omega
theorem Qp{v:Srv}{r:List Lg}{x:Wit}(h:RY v l r m x 0)(g:UL v l r m x f):f=0:=by
 generalize h0:(0:Int)=e0 at h
 cases h with
 |bad _ he=>exact (he h0.symm).elim
 |none=>omega
 |ok _ _ _ _ _ hB hw=>cases g with
  |bad g ge=>exact (ge (g.uniq hB).2).elim
  |no g g1=>obtain ⟨rfl,_⟩:=hB.uniq g;exact (g1 hw).elim
  |ok=>rfl
set_option maxHeartbeats 4000000 in
theorem zb{w:World}{r:List Lg}{a b c:Value}(hs:St H w σ)(g:SvM H s a b c d)(gl:LnM H l vt vs)(pX:RLg H fu r):
  aaA 23 [svA s a b c d,lnA l vt vs,.agg #[fu],.agg #[I m.lo,I m.hi]] w fun u w'=>∃H1 vh x e,HLe H H1∧u= .tuple #[.agg #[I x.leg,I x.dense,I x.tC,vh],I e]∧RT H1 vh x.rows∧RY s l r m x e∧St H1 w' σ:=by
 refine Cl.o func23 ntmps23 ag4 ?_;refine .ae (.bx hs fun b4 w hs=>?_);refine .bx hs fun b5 w hs=>?_
 refine .bx hs fun b6 w hs=>?_
 refine .bx hs fun b7 w hs=>?_
 refine .o (.alloc hs zeroValue98 rfl fun b8 w hs=>?_);refine .zn zg (.scope (.ae (.y hs (zls [_,_,_,_,_,_,_,_] bA aM) (.y hs (zls [_,_,_,_] iO eu) (.y hs (zls [_] iN dN) (.y hs (zls [_,_] dL a8) (.o (.call call60 rfl (ql (s:=s) (l:=l) (m:=m) hs g gl pX) ?_))))))));rintro _ w ⟨H1,z,ks,e,aq,rfl,ho,hB,h0,hs⟩;refine .z zm (.z zex (.z zex (.o (.alloc hs uV rfl fun jx w hs=>?_))));refine .o (.aD (vs:=z.cs) hs rfl rfl eA ?_ (hv:=ho));intro w hs;refine .zn zg (.seq (.ae (.z zm (.zn gE (.eN rfl (fun nQ=>?_) (fun nQ=>?_))))))
 ·refine .ae (.z (zbd [_,_,_,_] kR) (.z zm (.o (.aD (vs:=[_,_,_,_]) hs rfl rfl jX fun w hs=>?_))));exact .zn zg (.ret (rT (rS ((Fin.iz [] [] hs fun w hs=>⟨_,results2 results23 (cO (vs:=[_,_,_,_]) hs rfl OM jX) rfl,H1,_,⟨0,0,0,[]⟩,_,aq,rfl,RT.nil _,.bad (.bad hB nQ) nQ,hs.out⟩)))))
 ·refine .skip (nT (.ae (.y hs (zls [_,_,_,_,_,_,_,_,_,_,_,_,_,_,_] Ar eA) ?_)));obtain rfl:e=0:=by omega
  refine .o (.call call61 rfl (oz hs (h0 rfl)) ?_);rintro _ w ⟨H2,va,cn,e,aO,rfl,hR,hA,hs⟩;have cK:=aq.trans aO;refine .z zm (.z zex (.z zex (.z zg (.zn zg (.seq (.ae (.z zm (.zn gE (.eN rfl (fun AV=>?_) (fun AV=>?_))))))))))
  ·refine .ae (.z (zbd [_,_,_,_] kR) (.z zm (.o (.aD (vs:=[_,_,_,_]) hs rfl rfl jX fun w hs=>?_))));exact .zn zg (.ret (rT (rS ((Fin.iz [] [] hs fun w hs=>⟨_,results2 results23 (cO (vs:=[_,_,_,_]) hs rfl OM jX) rfl,H2,_,⟨0,0,0,[]⟩,_,cK,rfl,RT.nil _,.bad hA AV,hs.out⟩)))))
  ·refine .skip (nT (.ae ?_));obtain rfl:e=0:=by omega
   obtain ⟨s',l',a',b',c',d',t',n',lg',ms',mr'⟩:=z;obtain ⟨rfl,rfl,g',-,Ag,E9,GX,Q2,-⟩:=h0 rfl;dsimp only at g' Ag E9 GX hB hA g;obtain ⟨wC,wv,rfl⟩:=Ag.shape;obtain ⟨EL,EC,rfl⟩:=E9.shape;obtain ⟨OE,Om,rfl⟩:=RI.shape GX;obtain ⟨bh,hl,s9,hm,rF,zu⟩:=hB.ok';have hn:=s9.many;have TF:=oy m r r.length;obtain ⟨xy,En,has⟩:=HB hA hB;obtain ⟨aas,cas,rfl⟩:=RI.shape hR;replace g:=g.mono cK;replace Ag:=RS.mono Ag aO;replace E9:=RS.mono E9 aO;replace GX:=RS.mono GX aO;have rk:=fI bh.early.1;refine .z (zbd [I (-1),I 0,I 0,.slice none 0 0] kR) (.o (.alloc hs zeroValue98 rfl fun jG w hs=>?_));refine .o (.aD (vs:=[_,_,_,_]) hs rfl rfl jX fun w hs=>?_);refine .nil (.seq (.label (nT (.cut (fun fs w=>∃z:Int,np fs ⟨128,[],[(13,Pt jG),(10,Pt jx),(8,Pt b8),(4,Pt b4)]⟩∧R2 cn z∧St H2 w (.blk jG [I z,I 0,I 0,.slice none 0 0]:: .blk jx (RtV.cs ⟨s',l',a',b',c',d',t',n',.slice wC r.length wv,.slice EL (msL m r r.length).length EC,.slice OE ks.length Om⟩):: .blk b8 [I 0,I 0,I 0,.slice none 0 0]:: .blk b4 (svC s' a b c d)::σ)) ?_ ?_))))
   ·refine .ae (.z zm (.z (cJ af) (.zn zm (.for (N:=cn.length) (J:=fun k fr w=>fr=[(13,Pt jG),(42,.slice aas cn.length cas),(10,Pt jx),(8,Pt b8),(4,Pt b4)]∧(∀j<k,gi cn j=1)∧St H2 w (.blk jG [I (-1),I 0,I 0,.slice none 0 0]:: .blk jx (RtV.cs ⟨s',l',a',b',c',d',t',n',.slice wC r.length wv,.slice EL (msL m r r.length).length EC,.slice OE ks.length Om⟩):: .blk b8 [I 0,I 0,I 0,.slice none 0 0]:: .blk b4 (svC s' a b c d)::σ)) aj ?_ ?_ ?_))))
    ·exact .mk ⟨rfl,fun j hj=>by omega,hs.sb⟩
    ·rintro k fr w hk ⟨rfl,oR,hs⟩;refine .block (.ae (.z zm (.ixY hs hR rfl rfl af ak (bG (l:=cn) (i:=k) aj) dD ?_)));intro VI o47 pQ;refine .q hs (aP rfl ai pQ) (.z zg (.zn zg (.ae (.z zm (.zn gE (.eN rfl (fun T0=>?_) (fun T0=>?_)))))))
     ·refine .ae (.z zm (.z (zfa dh) (.o (.store hs rfl rfl ak fun w hs=>?_))));exact .nil (.exit (xN (xT (xB (nT ⟨(k:Int),bk,.inr ⟨k,rfl,aj,T0,oR⟩,hs.sb⟩)))))
     ·refine .skip (nB (nT ?_));exact .mk ⟨rfl,fun j hj=>by
       by_cases e:j=k
       ·subst e;omega
       ·exact oR j aj,hs.sb⟩
    ·rintro fr w ⟨rfl,oR,hs⟩;exact nT ⟨-1,bk,.inl ⟨rfl,oR⟩,hs.sb⟩
   ·clear hs;rintro fs w ⟨z,i7,hF,hs⟩;refine WE.sub ?_ i7;clear i7;refine .seq (.ae (.z (zfa dh) (.y hs (zld ai) (.zn jt (.bX rfl (fun K7=>?_) (fun K7=>?_))))))
    ·refine .ae (.z (zbd [_,_,_,_] kR) (.o (.aD (vs:=[_,_,_,_]) hs rfl rfl jX fun w hs=>?_)));exact .zn zg (.ret (rT (rS ((Fin.iz [] [] hs fun w hs=>⟨_,results2 results23 (cO (vs:=[_,_,_,_]) hs rfl OM jX) rfl,H2,_,⟨0,0,0,[]⟩,_,cK,rfl,RT.nil _,.none hA (by rcases hF with h|⟨i,rfl,_⟩;exact h.2;omega),hs.out⟩)))))
    ·refine .skip (nT (.ae ?_));obtain ⟨i,rfl,si,fF,oR⟩:=hF.resolve_left fun h=>by omega
     have fk:i<r.length:=by omega
     obtain ⟨q,hq,Pd⟩:=hB.mark fk;have sf:=qs (l:=r) fk;have O6:=FD m r (k:=r.length) (i:=i) aj;have IE:=(s9.leg i fk).1.dense;unfold iM at IE;have hw2:=bh.early.1.wa.two;have Zz:0<max q 1∧max q 1<s'.sp.wa.length:=by omega
     have Tm:=B7 (v:=s') Zz.1 Zz.2;have Vj:max (q:Int) 1=((max q 1:Nat):Int):=by omega
     refine .z (zfa ji) (.y hs (zld an) (.z (zfa dh) (.y hs (zld ai) (.ixX (enc:=fun x=>[I x]) hs GX rfl rfl af ak (bG (l:=ks) (i:=i) aj) rfl ?_))));intro b62 o62 N1;replace N1:=bE.one N1;rw [hq] at N1;refine .y hs (zld ai) (.zn zg (.cut (fun fs w=>∃(H3:bB) (ah:Option Addr) (ch:Nat) (y:List Int) (tr:Nat),np fs ⟨128,[],[(17,Pt tr),(16,I (q:Int)),(11,I 0),(13,Pt jG),(10,Pt jx),(8,Pt b8),(4,Pt b4)]⟩∧HLe H2 H3∧RT H3 (.slice ah (fD s'.sp y s'.sp.st.length).length ch) (fD s'.sp y s'.sp.st.length)∧EV s'.sys (Fb (s'.w ⟨1,0,(max q 1:Nat)⟩) false) y∧St H3 w (.blk tr [.slice ah (fD s'.sp y s'.sp.st.length).length ch]:: .blk jG [I (i:Int),I 0,I 0,.slice none 0 0]:: .blk jx (RtV.cs ⟨s',l',a',b',c',d',t',n',.slice wC r.length wv,.slice EL (msL m r r.length).length EC,.slice OE ks.length Om⟩):: .blk b8 [I 0,I 0,I 0,.slice none 0 0]:: .blk b4 (svC s' a b c d)::σ)) ?_ ?_))
     ·refine .draw mix rfl hs fun w hs=>?_
      refine .ys 0 rfl hs [_,_,_,_,_,_,_,_] bA aM ?_;refine .z 1 rfl zm ?_;refine .z 2 rfl HM ?_;refine .e2 (i:=3) (j:=8) au rfl rfl rfl rfl .none .none hs ?_ ?_
      ·rw [Vj];refine .call call63 rfl (iS hs) ?_;rintro _ w ⟨rfl,hs⟩;refine .go (.e2 (i:=4) (j:=8) au rfl rfl rfl rfl .none .none hs ?_ ?_)
       ·refine .call call62 rfl (j9 (s:=s') (q:=⟨1,0,(max q 1:Nat)⟩) (high:=false) hs g.st g.wa g.rd g.cm) ?_;rintro _ w ⟨H3,vh,rows,e,bP,rfl,wi,Rs,-,PL,hs⟩;obtain rfl:e=0:=by
         cases Rs with
         |bad h he=>exact (he (h.dt.2 bh)).elim
         |what _ h=>exact (h Tm).elim
         |fls _ _ h=>exact (h xy).elim
         |ok=>rfl
        obtain ⟨y,PK,rfl⟩:=PL rfl;obtain ⟨ah,ch,rfl⟩:=wi.shape;refine .go (.zw 5 rfl zm ?_);refine .z 6 rfl zex ?_;refine .z 7 rfl zex ?_;refine .E 8 hs ?_;refine .alloc hs l5 rfl ?_;intro tr w hs;refine .go (.E 9 hs ?_);refine .aD (vs:=[_]) hs rfl rfl ea ?_;intro w hs;refine .go (.zw 10 rfl zg ?_);refine .D hs ?_;exact nT ⟨H3,ah,ch,y,tr,bk,bP,wi,PK,hs.sb⟩
       ·refine .alloc hs l5 rfl ?_;intro tr w hs;refine .go (.E 4 hs ?_);refine .call call62 rfl (j9 (s:=s') (q:=⟨1,0,(max q 1:Nat)⟩) (high:=false) hs g.st g.wa g.rd g.cm) ?_;rintro _ w ⟨H3,vh,rows,e,bP,rfl,wi,Rs,-,PL,hs⟩;obtain rfl:e=0:=by
         cases Rs with
         |bad h he=>exact (he (h.dt.2 bh)).elim
         |what _ h=>exact (h Tm).elim
         |fls _ _ h=>exact (h xy).elim
         |ok=>rfl
        obtain ⟨y,PK,rfl⟩:=PL rfl;obtain ⟨ah,ch,rfl⟩:=wi.shape;refine .go (.zw 5 rfl zm ?_);refine .z 6 rfl zex ?_;refine .z 7 rfl zex ?_;refine .E 9 hs ?_;refine .aD (vs:=[_]) hs rfl rfl ea ?_;intro w hs;refine .go (.zw 10 rfl zg ?_);refine .D hs ?_;exact nT ⟨H3,ah,ch,y,tr,bk,bP,wi,PK,hs.sb⟩
      ·refine .alloc hs l5 rfl ?_;intro tr w hs;refine .go (.E 3 hs ?_);rw [Vj];refine .call call63 rfl (iS hs) ?_;rintro _ w ⟨rfl,hs⟩;refine .go (.E 4 hs ?_);refine .call call62 rfl (j9 (s:=s') (q:=⟨1,0,(max q 1:Nat)⟩) (high:=false) hs g.st g.wa g.rd g.cm) ?_;rintro _ w ⟨H3,vh,rows,e,bP,rfl,wi,Rs,-,PL,hs⟩;obtain rfl:e=0:=by
        cases Rs with
        |bad h he=>exact (he (h.dt.2 bh)).elim
        |what _ h=>exact (h Tm).elim
        |fls _ _ h=>exact (h xy).elim
        |ok=>rfl
       obtain ⟨y,PK,rfl⟩:=PL rfl;obtain ⟨ah,ch,rfl⟩:=wi.shape;refine .go (.zw 5 rfl zm ?_);refine .z 6 rfl zex ?_;refine .z 7 rfl zex ?_;refine .E 9 hs ?_;refine .aD (vs:=[_]) hs rfl rfl ea ?_;intro w hs;refine .go (.zw 10 rfl zg ?_);refine .D hs ?_;exact nT ⟨H3,ah,ch,y,tr,bk,bP,wi,PK,hs.sb⟩
     ·rintro fs w ⟨H3,ah,ch,y,tr,i7,bP,wi,PK,hs⟩;refine WE.sub ?_ i7;clear i7;have eO:=cK.trans bP;replace g:=g.mono bP;replace Ag:=RS.mono Ag bP;replace E9:=RS.mono E9 bP;refine .seq (.ae (.z zm (.z gE ?_)));rw [decide_eq_true rfl];refine .nil (.cF (.skip (nT (.seq (.draw mix rfl hs fun w hs=>?_)))));refine .ys 0 rfl hs [_] pc ea ?_;refine .z 1 rfl (zfa kK) ?_;refine .y 2 rfl hs isAgg165 ?_;refine .z 3 rfl (zfa dh) ?_;refine .y 4 rfl hs ai ?_;refine .ixX (enc:=Rng.c) (i:=5) hs rfl au .none E9 rfl rfl fT a8 O6 rfl ?_;intro b81 o81 TW;refine .zw 6 rfl (zfa cg) (.r (i:=7) hs rfl au .none (aP rfl ai (TW.get 1 rfl)) ?_);refine .zw 8 rfl (zfa gU) ?_;refine .y 9 rfl hs kY ?_;refine .z 10 rfl (zfa dh) ?_;refine .y 11 rfl hs ai ?_;refine .ixX (enc:=Lg.c) (i:=12) hs rfl au .none Ag rfl rfl bN bI sf rfl ?_;intro b88 o88 TV;refine .zw 13 rfl (zfa eW) ?_;refine .z 14 rfl (zfa bR) ?_;refine .r (i:=15) hs rfl au .none (aP rfl ai (TV.get 3 rfl)) ?_;refine .zw 16 rfl (zfa jS) (.E 17 hs ?_);refine .aD (vs:=[_]) hs rfl rfl ea ?_;intro w hs;refine .go (.zw 18 rfl (zfa mc) (.E 19 hs ?_));refine .store hs rfl rfl ak ?_;intro w hs;refine .go (.zw 20 rfl (zfa iA) (.E 21 hs ?_));refine .store hs rfl rfl ak ?_;intro w hs;refine .go (.D hs (.seq (.ae ?_)));change St _ _ (_:: .blk jG [I (i:Int),I (lg0 r i).dlo,I (nY m r i).hi,.slice ah (fD s'.sp y s'.sp.st.length).length ch]::_) at hs;refine .y hs (zls [_,_,_,_,_,_,_,_] bA aM) (.z zm (.o (.call call64 rfl (pw (s:=s') (k:=q) hs g bh) ?_)));rintro _ w ⟨H4,la,lb,e,eL,rfl,hL,hs⟩;obtain rfl:e=0:=(hL.err bh Pd).elim (fun h=>h.1) (fun h=>(h.2.1 xy).elim);have hb:=hL.bd;have jI:=eO.trans eL;replace Ag:=RS.mono Ag eL;refine .z zm (.z zex (.z zex (.o (.alloc hs gW rfl fun uT w hs=>?_))));refine .o (.aD (vs:=[_,_]) hs rfl rfl a8 fun w hs=>?_);refine .zn zg (.seq (.draw mix rfl hs fun w hs=>?_));refine .zw 0 rfl (zfa bR) ?_;refine .y 1 rfl hs ai ?_;refine .z 2 rfl (zfa iA) ?_;refine .y 3 rfl hs ai ?_;refine .z 5 rfl (zfa bR) ?_;refine .y 6 rfl hs ai ?_;refine .z 7 rfl (zfa gU) ?_;refine .y 8 rfl hs kY ?_;refine .z 9 rfl (zfa dh) ?_;refine .y 10 rfl hs ai ?_;refine .ixX (enc:=Lg.c) (i:=11) hs rfl au .none Ag rfl rfl bN bI sf rfl ?_;intro UK o112 Le;refine .zw 12 rfl (zfa eW) ?_;refine .z 13 rfl (zfa cg) ?_;refine .r (i:=14) hs rfl au .none (aP rfl ai (Le.get 4 rfl)) ?_;refine .E 4 hs ?_;refine .call call65 rfl (fg hs aj aj) ?_;rintro _ w ⟨rfl,hs⟩;refine .go (.E 15 hs ?_);refine .call call65 rfl (fg hs aj aj) ?_;rintro _ w ⟨rfl,hs⟩;refine .go (.zw 16 rfl q5 ?_);refine .D hs ?_;refine (.bX rfl (fun Pw=>?_) (fun Pw=>?_))
      ·refine .region (.z (zfa gU) (.y hs (zld kY) (.z (zfa dh) (.y hs (zld ai) (.ixX (enc:=Lg.c) hs Ag rfl rfl bN bI sf rfl ?_)))));intro YQ o122 Pv;refine .z (zfa eW) (.z (zfa cg) (.q hs (aP rfl ai (Pv.get 4 rfl)) (.z (zfa iA) (.o (.store hs rfl rfl ak fun w hs=>?_)))));refine .nil (nT (.ae (.y hs (zls [_,_,_,_] OM jX) (.o (.aD (vs:=[_,_,_,_]) hs rfl rfl jX fun w hs=>?_)))));exact .zn zg (.ret (rS ((Fin.iz [] [] hs fun w hs=>⟨_,results2 results23 (cO (vs:=[_,_,_,_]) hs rfl OM jX) rfl,H4,_,⟨(i:Int),(lg0 r i).dhi,(nY m r i).hi,fD s'.sp y s'.sp.st.length⟩,_,jI,rfl,wi.mono eL,.ok hA si fF oR rfl hB (OR hA hB fk fF hq PK hL (.inr ⟨rfl,aj⟩)),hs.out⟩))))
      ·refine .skip (nT (.ae (.y hs (zls [_,_,_,_] OM jX) (.o (.aD (vs:=[_,_,_,_]) hs rfl rfl jX fun w hs=>?_)))));exact .zn zg (.ret (rS ((Fin.iz [] [] hs fun w hs=>⟨_,results2 results23 (cO (vs:=[_,_,_,_]) hs rfl OM jX) rfl,H4,_,⟨(i:Int),(lg0 r i).dlo,(nY m r i).hi,fD s'.sp y s'.sp.st.length⟩,_,jI,rfl,wi.mono eL,.ok hA si fF oR rfl hB (OR hA hB fk fF hq PK hL (.inl ⟨rfl,aj⟩)),hs.out⟩))))
theorem Gn{v:Srv}{r:List Lg}(h:Ff v l r m cn 0):Cr cn=1↔∀i<cn.length,gi cn i=1:=by
 generalize h0:(0:Int)=e0 at h
 cases h with
 |bad _ h=>exact (h h0.symm).elim
 |fls=>omega
 |ok g g1 g2 g3=>exact D6 fun i hi=>by obtain ⟨lo,AR,_,e⟩:=g3 i aj;rw [e];exact HC _ _ _
theorem QP{v:Srv}{r:List Lg}{x:Wit}(h:HI v l r m a 0)(g:RY v l r m x f)(ha:a≠1):f=0:=by
 generalize h0:(0:Int)=e0 at h
 cases h with
 |bad _ h=>exact (h h0.symm).elim
 |ok h=>cases g with
  |bad g ge=>exact (ge (g.uniq h).2).elim
  |none g g1=>obtain ⟨rfl,_⟩:=h.uniq g;exact (ha ((Gn h).2 g1)).elim
  |ok=>rfl
theorem Nu{v:Srv}{r:List Lg}{k:Int}(hB:qZ v l r m ks 0)(hi:i<r.length)(h:SA v.sp l (lg0 r i) k e):k=gi ks i∧e=0:=by
 obtain ⟨bh,hl,s9,_,_,zu⟩:=hB.ok'
 cases h with
 |space h=>exact (h bh.early.1).elim
 |lines _ h=>exact (h hl).elim
 |leg _ _ h=>exact (h (s9.leg i hi).1).elim
 |go _ _ _ h=>exact h.uniq hl (zu i hi)
theorem KC{r:List Lg}{mm b:Int}(h:(nY m r k).lo≤mm∧mm≤(nY m r k).hi)(hb:(lg0 r k).blo≤b∧b≤(lg0 r k).bhi):(nY m r (k+1)).lo≤max 0 (mm - b)∧max 0 (mm - b)≤(nY m r (k+1)).hi:=by
 simp only [nY,RG];omega
theorem FK{v:Srv}{b:Int}(h:C0 v 0 a b e):a=0∧b=0:=by
 cases h with
 |up h=>omega
 |fls=>exact ⟨rfl,rfl⟩
 |zero=>exact ⟨rfl,rfl⟩
theorem FJ{v:Srv}{b:Int}(h:C0 v k a b e)(hk:0<k):Fc v ⟨1,0,k⟩ a b e:=by
 cases h with
 |up _ g=>exact g
 |fls h=>omega
 |zero h=>omega
theorem Qm{v:Srv}{y b:Int}(hd:iM x y)(h:pW v k x y a b e):a≤b:=by
 cases h with
 |fls=>exact Int.le_refl _
 | @ok a b h=>
  have:=h.bd;unfold iM at hd;have:=kg (n:=a) (n':=b) (d:=x) aj aj;unfold wK Bl;omega
end Go.Proofs.YtlgfjghdgbhkhaaGreat
namespace Go.MW
variable{i k m j:Nat}{H H':bB}{a b e f room:Int}{ks:List Int}{rows:List (List Int)}{kd:Int→Int}
structure Ev where
 off:Int
 seq:Int
 kind:Int
 ship:Int
 day:Int
 known:Int
 room:Int
 num:Int
 opn:Int
 crew:Int
 sp:Spc
 ast:Option Addr
 cst:Nat
 awa:Option Addr
 cwa:Nat
 rd:Rdg
 cm:Cmp
 oo:Int
 os:Int
abbrev Ev.vst(x:Ev):Value:= .slice x.ast x.sp.st.length x.cst
abbrev Ev.vwa(x:Ev):Value:= .slice x.awa x.sp.wa.length x.cwa
def Ev.c(x:Ev):List Value:=[I x.off,I x.seq,I x.kind,I x.ship,I x.day,I x.known,I x.room,I x.num,I x.opn,I x.crew,I x.sp.id,I x.sp.src,.slice x.ast x.sp.st.length x.cst,.slice x.awa x.sp.wa.length x.cwa,I x.sp.al,I x.sp.up,
 I x.rd.src,I x.rd.st,I x.rd.wa,I x.rd.val,I x.rd.tol,I x.rd.tape,I x.rd.day,I x.cm.src,I x.cm.tape,I x.cm.fr,I x.cm.to,I x.cm.lo,I x.cm.hi,I x.oo,I x.os]
def Ev.agg(x:Ev):Value:= .agg #[I x.off,I x.seq,I x.kind,I x.ship,I x.day,I x.known,I x.room,I x.num,I x.opn,I x.crew,I x.sp.id,I x.sp.src,.slice x.ast x.sp.st.length x.cst,.slice x.awa x.sp.wa.length x.cwa,I x.sp.al,I x.sp.up,
 I x.rd.src,I x.rd.st,I x.rd.wa,I x.rd.val,I x.rd.tol,I x.rd.tape,I x.rd.day,I x.cm.src,I x.cm.tape,I x.cm.fr,I x.cm.to,I x.cm.lo,I x.cm.hi,I x.oo,I x.os]
structure EvM(H:bB)(x:Ev):Prop where
 st:RI H x.vst x.sp.st
 wa:RI H x.vwa x.sp.wa
theorem EvM.mono{x:Ev}(h:EvM H x)(hl:HLe H H'):EvM H' x:=⟨h.st.mono hl,h.wa.mono hl⟩
def evc(l:List Ev):List (List Value):=l.map Ev.c
theorem ky(l:List Ev):∀c∈evc l,c.length=31:=fun c hc=>by simp only [evc,List.mem_map] at hc;obtain ⟨x,_,rfl⟩:=hc;rfl
theorem eM(l:List Ev):(evc l).length=l.length:=by simp [evc]
theorem zO{l:List Ev}{x:Ev}(h:l[k]? =some x):(evc l)[k]? =some x.c:=by simp [evc,h]
theorem CK(l:List Ev)(x:Ev):(evc (l++[x])).flatten=(evc l).flatten++x.c:=by simp [evc]
structure REv(H:bB)(v:Value)(l:List Ev):Prop where
 rs:RS H 31 v (l.map Ev.c)
 all:∀x∈l,EvM H x
theorem REv.mono{v:Value}{l:List Ev}(h:REv H v l)(hl:HLe H H'):REv H' v l:=⟨RS.mono h.rs hl,fun x hx=>(h.all x hx).mono hl⟩
theorem REv.shape{v:Value}{l:List Ev}(h:REv H v l):∃a cap,v= .slice a l.length cap:=by
 obtain ⟨a,c,rfl⟩:=h.rs.shape;exact ⟨a,c,by rw [List.length_map]⟩
def sp0:Spc:=⟨0,0,[],[],0,0⟩
def rd0:Rdg:=⟨0,0,0,0,0,0,0⟩
def cm0:Cmp:=⟨0,0,0,0,0,0⟩
structure Jb(x:Ev):Prop where
 ok:fm x.sp
 id:x.sp.id≤999
 src:x.sp.src=x.seq+1
structure z8(x:Ev):Prop where
 kind:x.kind=1
 num:1≤x.num∧x.num≤9
 new:Jb x
 room:x.room=0
 opn:x.opn=0
 crew:x.crew=0
 rd:x.rd=rd0
 cm:x.cm=cm0
structure C4(x:Ev):Prop where
 kind:x.kind=2
 num:1≤x.num∧x.num≤9
 new:Jb x
 room:x.room=0
 opn:0≤x.opn∧x.opn≤1000
 crew:0≤x.crew∧x.crew≤999
 rd:x.rd=rd0
 cm:x.cm=cm0
structure pa(x:Ev):Prop where
 kind:x.kind=8
 room:1≤x.room∧x.room≤999
 src:x.rd.src=x.seq+1
 day:x.rd.day=x.day
 st:0≤x.rd.st∧x.rd.st≤8
 wa:0≤x.rd.wa∧x.rd.wa≤6
 tol:0≤x.rd.tol∧x.rd.tol≤1000
 val:0≤x.rd.val∧x.rd.val≤20000 - x.rd.tol
 tape:1≤x.rd.tape∧x.rd.tape≤99
 num:x.num=0
 opn:x.opn=0
 crew:x.crew=0
 sp:x.sp=sp0
 ast:x.ast=none
 cst:x.cst=0
 awa:x.awa=none
 cwa:x.cwa=0
 cm:x.cm=cm0
structure C3(x:Ev):Prop where
 kind:x.kind=9
 src:x.cm.src=x.seq+1
 tape:1≤x.cm.tape∧x.cm.tape≤99
 fr:0≤x.cm.fr∧x.cm.fr≤x.cm.to
 to:x.cm.to≤100000
 lo: -1000≤x.cm.lo∧x.cm.lo≤x.cm.hi
 hi:x.cm.hi≤1000
 room:x.room=0
 num:x.num=0
 opn:x.opn=0
 crew:x.crew=0
 sp:x.sp=sp0
 ast:x.ast=none
 cst:x.cst=0
 awa:x.awa=none
 cwa:x.cwa=0
 rd:x.rd=rd0
structure yo(x:Ev):Prop where
 off:x.off=0
 seq:0≤x.seq∧x.seq≤9999
 ship:1≤x.ship∧x.ship≤999
 day:0≤x.day∧x.day≤100000
 known:0≤x.known∧x.known≤100000
 oo:x.oo=0
 os:x.os=0
 what:z8 x∨C4 x∨pa x∨C3 x
theorem yo.kind{x:Ev}(h:yo x):x.kind=1∨x.kind=2∨x.kind=8∨x.kind=9:=by
 rcases h.what with g|g|g|g
 ·exact .inl g.kind
 ·exact .inr (.inl g.kind)
 ·exact .inr (.inr (.inl g.kind))
 ·exact .inr (.inr (.inr g.kind))
theorem yo.build{x:Ev}(h:yo x)(hk:x.kind=1):z8 x:=by
 rcases h.what with g|g|g|g
 ·exact g
 all_goals have:=g.kind;omega
theorem yo.O3{x:Ev}(h:yo x)(hk:x.kind=2):C4 x:=by
 rcases h.what with g|g|g|g
 case inr.inl=>exact g
 all_goals have:=g.kind;omega
theorem yo.read{x:Ev}(h:yo x)(hk:x.kind=8):pa x:=by
 rcases h.what with g|g|g|g
 case inr.inr.inl=>exact g
 all_goals have:=g.kind;omega
theorem yo.tape{x:Ev}(h:yo x)(hk:x.kind=9):C3 x:=by
 rcases h.what with g|g|g|g
 case inr.inr.inr=>exact g
 all_goals have:=g.kind;omega
def ev0:Ev:=⟨0,0,0,0,0,0,0,0,0,0,sp0,none,0,none,0,rd0,cm0,0,0⟩
def evG(l:List Ev)(i:Nat):Ev:=l.getD i ev0
theorem gV{l:List Ev}(h:i<l.length):l[i]? =some (evG l i):=by simp [evG,List.getD,List.getElem?_eq_getElem h]
theorem tg{l:List Ev}(h:i<l.length):evG l i∈l:=List.mem_of_getElem? (gV h)
def ob(l:List Ev):Nat→Int
 |0=>0
 |n+1=>if (evG l n).kind=9 then ob l n+1 else ob l n
theorem Dz(l:List Ev):∀n,0≤ob l n∧ob l n≤n
 |0=>by simp [ob]
 |n+1=>by have:=Dz l n;simp only [ob];split<;>omega
structure L9(l:List Ev):Prop where
 good:∀x∈l,yo x
 inc:∀i,i+1<l.length→(evG l i).seq<(evG l (i+1)).seq
 len:l.length≤80
 bV:ob l l.length≤20
end Go.MW
namespace Go.MW
section
variable{P:Program}{ro:Option Nat}{Q:Exit→FS→World→Prop}{K:FS→World→Prop}{s:FS}{w:World}{H:bB}{σ τ:List Ent}{n d:Nat}{ds:List Deferred}{e:List (Nat×Value)}{ty t:TypeId}{pos:String}{gL:Array Edge}{v:Value}{x y z:Operand}{b:Nat}
theorem MN:∀{c vs:List Value},c.length=vs.length→wM c 0 vs=vs:=by
 intro c vs h;have:=B5 vs [] [] c h;simpa using this
theorem OJ.iK{c vs:List Value}(hs:St H w σ)(hx:FS.ev s x=some (.pointer (some ⟨b,0,none⟩)))(hy:FS.ev s y=some (.agg vs.toArray))(hz:∀w,(sizeOf t).run P w= .ok vs.length w)
  (k:∀w',St H w' τ→K s w') (hu:Upd σ (.blk b c) (.blk b vs) τ:=by repeat constructor) (hl:c.length=vs.length:=by rfl) (hv:vs.all Value.oneCell'=true:=by rfl):OJ P ro ⟨none,.store t x y,ty,pos,gL,none⟩ K s w:=
 .aD hs hx hy hz k hu (by rw [Nat.zero_add,hl];exact Nat.ble_eq_true_of_le (Nat.le_refl _)) (MN hl) hv
theorem J6{key elem:TypeId}{kv zv:Value}{c:Nat}(hx:FS.ev s x=some (.map (some b)))(hy:FS.ev s y=some kv)(hm:Mem σ (.obj b (.map #[] c)))(hu:∀w,(underlying t).run P w= .ok (.map key elem) w)
  (hk:∀w,(Instr.checkKey true 10000 key kv).run P w= .ok () w) {kd:TypeDesc} (Iz:∀w,(underlying key).run P w= .ok kd w) (hz:∀w,(zeroValue elem).run P w= .ok zv w):QJ P H σ s (.lookup t x y false) zv:=
 ⟨fun _=>by simp,fun a w _ _ _ _ _ hs KL=>by
  simp [execOp,hs.ev hx,hs.ev hy,Instr.lookup,Sem.run_bind,Result.andThen,hu w,oh (P:=P) KL hm,hk w,Instr.findKey,Iz w,Instr.findNow,hz w]⟩
theorem J7{mo ko:Operand}{kt et:TypeId}{i:Int}{es:List MapEntry}{c j:Nat}(hm:FS.ev s mo=some (.map (some b)))(hk:FS.ev s ko=some (I i))
  (hu:∀w,(underlying t).run P w= .ok (.map kt et) w) (Iz:∀w,(underlying kt).run P w= .ok (.int .i64) w) (hf:Instr.findNow (.int .i64) (I i) es 0=some (some (j,v)))
  (h:Mem σ (.obj b (.map es.toArray c)):=by repeat (first|exact .here|refine .there ?_)):QJ P H σ s (.lookup t mo ko false) v:=
 ⟨fun _=>by simp,fun a w _ _ _ _ _ ha hs=>by
  simp [execOp,ha.ev hm,ha.ev hk,Instr.lookup,Sem.run_bind,hu w,Result.andThen,oh hs h,tO Iz,tP Iz hf]⟩
end
end Go.MW
namespace Go.MW
variable{i k m j:Nat}{H H':bB}{a b e f room:Int}{ks:List Int}{rows:List (List Int)}{kd:Int→Int}
def Bz(l:List Bool):List Value:=l.map Value.bool
theorem PZ(l:List Bool)(k:Nat)(b:Bool):(Bz l).set k (.bool b)=Bz (l.set k b):=by simp [Bz,List.map_set]
theorem P1{l:List Bool}(h:k<l.length):Nat.blt k (Bz l).length=true:=Nat.ble_eq_true_of_le (by simp [Bz];omega)
theorem P0{l:List Bool}{b:Bool}(h:l[k]? =some b):(Bz l)[k]? =some (.bool b):=by simp [Bz,h]
theorem Mb(l:List Bool):(l.map fun b=>[Value.bool b]).flatten=Bz l:=by
 induction l with
 |nil=>rfl
 |cons a l ih=>simp only [List.map_cons,List.flatten_cons,ih];rfl
theorem UR(l:List Bool):∀c∈l.map fun b=>[Value.bool b],c.length=1:=fun c hc=>by
 simp only [List.mem_map] at hc;obtain ⟨x,_,rfl⟩:=hc;rfl
def RBo(H:bB)(v:Value)(l:List Bool):Prop:=RS H 1 v (l.map fun b=>[Value.bool b])
def Qj(l:List Ev)(known:Int):List Bool:=l.map fun x=>decide (x.known≤known)
theorem sG(l:List Ev)(k:Int):(Qj l k).length=l.length:=by simp [Qj]
theorem B1{l:List Ev}{k:Int}(h:i<l.length):(Qj l k)[i]? =some (decide ((evG l i).known≤k)):=by simp [Qj,gV h]
def E5(l:List Ev)(known:Int)(m:Nat):List Bool:=(List.range l.length).map fun j=>if m≤j then decide ((evG l j).known≤known) else false
theorem jZ(l:List Ev)(k:Int)(m:Nat):(E5 l k m).length=l.length:=by simp [E5]
theorem JL(l:List Ev)(k:Int):E5 l k 0=Qj l k:=by
 refine List.ext_getElem? fun i=>?_
 by_cases h:i<l.length
 ·rw [B1 h];simp [E5,h]
 ·rw [List.getElem?_eq_none (by rw [jZ];omega),List.getElem?_eq_none (by rw [sG];omega)]
theorem MC(l:List Ev)(k:Int):E5 l k l.length=List.replicate l.length false:=by
 refine List.ext_getElem? fun i=>?_
 by_cases h:i<l.length
 ·simp [E5,h];omega
 ·rw [List.getElem?_eq_none (by rw [jZ];omega),List.getElem?_eq_none (by simp;omega)]
theorem DB{l:List Ev}{k:Int}(h:m<l.length):(E5 l k (m+1)).set m (decide ((evG l m).known≤k))=E5 l k m:=by
 refine List.ext_getElem? fun i=>?_
 by_cases hi:i<l.length
 ·by_cases e:i=m
  ·subst e;rw [List.getElem?_set_self (by rw [jZ];exact h)];simp [E5,h]
  ·rw [List.getElem?_set_ne (by omega)];simp only [E5,List.getElem?_map,List.getElem?_range hi,Option.map_some];by_cases e2:m≤i
   ·rw [if_pos (by omega),if_pos e2]
   ·rw [if_neg (by omega),if_neg e2]
 ·rw [List.getElem?_eq_none (by rw [List.length_set,jZ];omega),List.getElem?_eq_none (by rw [jZ];omega)]
theorem GA{l:List Ev}{k:Int}(h:m<l.length):(E5 l k m)[m]? =some (decide ((evG l m).known≤k)):=by simp [E5,h]
def shC(n fl:Int)(s:Srv)(a b c d vc:Value)(th:Bool)(cmp tap dn vd:Value):List Value:=
 [I n,I fl,I s.sp.id,I s.sp.src,a,b,I s.sp.al,I s.sp.up,c,d,vc,.bool th,cmp,tap,dn,vd]
structure Rm where
 id:Int
 kind:Int
 opn:Int
 crew:Int
def ceC(r:Rm)(s:Srv)(a b c d:Value):List Value:=[I r.id,I r.kind,I r.opn,I r.crew,I 0,I 0,I s.sp.id,I s.sp.src,a,b,I s.sp.al,I s.sp.up,c,d]
def E8(x:Ev)(P:List Ev):Nat→Nat
 |0=>0
 |j+1=>if x.day<(evG P j).day then E8 x P j else j+1
theorem Cb(x:Ev)(P:List Ev):∀j,E8 x P j≤j
 |0=>Nat.le_refl _
 |j+1=>by have:=Cb x P j;simp only [E8];split<;>omega
def NG(x:Ev)(P:List Ev):List Ev:=P.take (E8 x P P.length)++x::P.drop (E8 x P P.length)
def eb(l:List Ev):Nat→List Ev
 |0=>[]
 |n+1=>NG (evG l n) (eb l n)
theorem FR(x:Ev)(P:List Ev):(NG x P).length=P.length+1:=by
 have:=Cb x P P.length;simp [NG];omega
theorem hZ(l:List Ev):∀n,(eb l n).length=n
 |0=>rfl
 |n+1=>by simp only [eb];rw [FR,hZ l n]
theorem KD(x:Ev)(P:List Ev):(NG x P).Perm (x::P):=by
 unfold NG;refine List.perm_middle.trans ?_;rw [List.take_append_drop]
theorem ku{l:List Ev}{n:Nat}(h:n<l.length):l.take (n+1)=l.take n++[evG l n]:=by
 rw [List.take_add_one,gV h];rfl
theorem vu(l:List Ev):∀{n:Nat},n≤l.length→(eb l n).Perm (l.take n)
 |0,_=>by simp [eb]
 |n+1,h=>by
  simp only [eb];rw [ku (by omega)];refine (KD _ _).trans ?_;refine (List.Perm.cons _ (vu l (n:=n) (by omega))).trans ?_;exact (List.perm_append_singleton _ _).symm
theorem Fz{x:Ev}{P:List Ev}{p:Nat}(hx:0≤x.day)(h:∀i<p,(evG P i).day=0):∀{j:Nat},p≤j→p≤E8 x P j
 |0,hj=>hj
 |j+1,hj=>by
  simp only [E8];by_cases e:p=j+1
  ·rw [if_neg];omega;have:=h j (by omega);omega
  ·split
   ·exact Fz hx h (by omega)
   ·exact hj
theorem CL{l:List Ev}{n:Nat}(h:i<n):evG (l.take n) i=evG l i:=by
 unfold evG;simp only [List.getD];rw [List.getElem?_take,if_pos h]
theorem vq{l:List Ev}(hd:∀x∈l,0≤x.day){p:Nat}(h:∀i<p,(evG l i).day=0):∀{n:Nat},n≤l.length→p≤n→(eb l n).take p=l.take p
 |0,_,hp=>by have:p=0:=by omega
             subst this;rfl
 |n+1,hn,hp=>by
  by_cases e:p≤n
  ·have ih:=vq hd h (n:=n) (by omega) e;have hl:=hZ l n;have hz:∀i<p,(evG (eb l n) i).day=0:=fun i hi=>by
    rw [←CL (l:=eb l n) hi,ih,CL hi];exact h i hi
   have hg:=Fz (x:=evG l n) (P:=eb l n) (p:=p) (hd _ (tg (by omega))) hz (j:=(eb l n).length) (by omega);have hle:=Cb (evG l n) (eb l n) (eb l n).length;simp only [eb,NG];rw [List.take_append_of_le_length (by rw [List.length_take];omega),List.take_take,show min p (E8 (evG l n) (eb l n) (eb l n).length)=p by omega,ih]
  ·obtain rfl:p=n+1:=by omega
   have ih:=vq hd (fun i hi=>h i (by omega)) (p:=n) (n:=n) (by omega) (Nat.le_refl _);have hl:=hZ l n;rw [List.take_of_length_le (by omega)] at ih;have hz:∀i<n,(evG (eb l n) i).day=0:=fun i hi=>by
    rw [ih,CL hi];exact h i (by omega)
   have hg:=Fz (x:=evG l n) (P:=eb l n) (p:=n) (hd _ (tg (by omega))) hz (j:=(eb l n).length) (by omega);have hle:=Cb (evG l n) (eb l n) (eb l n).length;simp only [eb,NG];have hS:(eb l n).take n=eb l n:=List.take_of_length_le (by omega);have hD:(eb l n).drop n=[]:=List.drop_of_length_le (by omega);rw [show E8 (evG l n) (eb l n) (eb l n).length=n by omega,hS,hD,ih,←ku (by omega),List.take_take,Nat.min_self]
def stA(P:List Ev)(x:Ev)(j:Nat)(R:List Ev):List Ev:=P.take j++x::(P.drop j++R)
theorem HS{P:List Ev}{x:Ev}{R:List Ev}(h:j≤P.length):(stA P x j R).length=P.length+1+R.length:=by simp [stA];omega
theorem SL{P:List Ev}{x:Ev}{R:List Ev}(h:j≤P.length):(stA P x j R)[j]? =some x:=by
 unfold stA;rw [List.getElem?_append_right (by rw [List.length_take];omega),List.length_take,show j - min j P.length=0 by omega];rfl
theorem Qk{P:List Ev}{x:Ev}{R:List Ev}(h:j+1≤P.length):(stA P x (j+1) R)[j]? =some (evG P j):=by
 unfold stA;rw [List.getElem?_append_left (by rw [List.length_take];omega),List.getElem?_take,if_pos (by omega),gV (by omega)]
theorem MD{P:List Ev}{x:Ev}{R:List Ev}(h:j+1≤P.length):((stA P x (j+1) R).set (j+1) (evG P j)).set j x=stA P x j R:=by
 have hd:P.drop j=evG P j::P.drop (j+1):=by
  rw [List.drop_eq_getElem_cons (by omega)];congr 1;have:=gV (l:=P) (i:=j) (by omega);rw [List.getElem?_eq_getElem (by omega)] at this;exact Option.some.inj this
 unfold stA;rw [ku (by omega),hd,List.append_assoc];have hl:(P.take j).length=j:=by rw [List.length_take];omega
 rw [List.set_append_right _ _ (by omega),List.set_append_right _ _ (by omega),hl,show j+1 - j=1 by omega,show j - j=0 by omega];rfl
theorem JO{P:List Ev}{x:Ev}{R:List Ev}(h:j=E8 x P P.length):stA P x j R=NG x P++R:=by
 subst h;simp [stA,NG]
theorem JN(P:List Ev)(x:Ev)(R:List Ev):stA P x P.length R=P++x::R:=by simp [stA]
theorem LD{L:List Ev}(h:k<L.length)(y:Ev)(sp:List Value):wM ((evc L).flatten++sp) (k*31) y.c=(evc (L.set k y)).flatten++sp:=by
 have e1:L=L.take k++evG L k::L.drop (k+1):=by
  have hd:L.drop k=evG L k::L.drop (k+1):=by
   rw [List.drop_eq_getElem_cons h];congr 1;have:=gV (l:=L) (i:=k) h;rw [List.getElem?_eq_getElem h] at this;exact Option.some.inj this
  rw [←hd,List.take_append_drop]
 have hl:((evc (L.take k)).flatten).length=k*31:=by rw [bH _ (ky _),eM,List.length_take];congr 1;omega
 have key:=B5 y.c (evc (L.take k)).flatten ((evc (L.drop (k+1))).flatten++sp) (evG L k).c rfl;rw [hl] at key;have e2:(evc L).flatten++sp=(evc (L.take k)).flatten++(evG L k).c++((evc (L.drop (k+1))).flatten++sp):=by
  conv=>lhs;rw [e1]
  simp [evc]
 rw [e2,key,List.set_eq_take_append_cons_drop,if_pos h];simp [evc]
theorem PT{L:List Ev}(h:k<L.length)(y:Ev)(sp:List Value):Nat.ble (k*31+y.c.length) ((evc L).flatten++sp).length=true:=by
 refine Nat.ble_eq_true_of_le ?_;rw [List.length_append,bH _ (ky _),eM];have:y.c.length=31:=rfl;omega
def q7(l:List Ev)(number day known:Int)(n:Nat):List Ev:=(l.take n).filter fun x=>decide ((x.known≤known∧x.kind≠9)∧x.ship=number∧x.day≤day)
theorem JE{l:List Ev}{c:Int}{n:Nat}(h:n<l.length):q7 l a b c (n+1)=if ((evG l n).known≤c∧(evG l n).kind≠9)∧(evG l n).ship=a∧(evG l n).day≤b then q7 l a b c n++[evG l n] else q7 l a b c n:=by
 unfold q7;rw [ku h,List.filter_append];split
 ·next h=>rw [List.filter_cons_of_pos (by simpa using h)];rfl
 ·next h=>rw [List.filter_cons_of_neg (by simpa using h)];simp
theorem JF(l:List Ev)(a b c:Int):∀{n m:Nat},n≤m→m≤l.length→(q7 l a b c n).length≤(q7 l a b c m).length:=by
 intro n m h hm;unfold q7;have:l.take n=(l.take m).take n:=by rw [List.take_take];congr 1;omega
 rw [this];exact ((List.take_sublist n (l.take m)).filter _).length_le
structure Liv where
 there:Bool
 flag:Int
 hu:Srv
 cells:List (Rm×Srv)
def se:Liv:=⟨false,0,⟨sp0,[],[]⟩,[]⟩
def SN(x:Ev):Rm:=⟨x.sp.id,x.num,x.opn,x.crew⟩
def m9(cs:List Cmp)(L:Liv)(x:Ev):Liv:=
 if x.kind=1 then ⟨true,x.num,⟨x.sp,[],cs⟩,L.cells⟩
 else if x.kind=2 then {L with cells:=[(SN x,⟨x.sp,[],cs⟩)]}
 else if L.hu.sp.id=x.room then {L with hu:=L.hu.add x.rd} else {L with cells:=L.cells.map fun c=>(c.1,c.2.add x.rd)}
inductive OkE(L:Liv)(x:Ev):Prop
 |build (h:z8 x) (h1:L.there=false) (h2:L.cells=[])
 |room (h:C4 x) (h1:L.there=true) (h2:L.cells=[]) (h3:L.hu.sp.id≠x.sp.id)
 |hull (h:pa x) (h1:L.there=true) (h2:L.hu.sp.id=x.room) (h3:eg (L.hu.add x.rd)) (h4:L.hu.rs.length≤1000)
 |cell {r:Rm} {u:Srv} (h:pa x) (h1:L.there=true) (h2:L.hu.sp.id≠x.room) (hc:L.cells=[(r,u)]) (h3:r.id=x.room) (h4:eg (u.add x.rd)) (h5:u.rs.length≤1000)
def ER(cs:List Cmp):Liv→List Ev→Prop
 |_,[]=>True
 |L,x::xs=>OkE L x∧ER cs (m9 cs L x) xs
theorem ER.at_{cs:List Cmp}:∀{xs:List Ev} {L:Liv},ER cs L xs→∀{k:Nat} {x:Ev},xs[k]? =some x→OkE ((xs.take k).foldl (m9 cs) L) x
 |[],_,_,k,x,h=>by simp at h
 |y::ys,L,⟨h1,h2⟩,0,x,h=>by simp at h;subst h;exact h1
 |y::ys,L,⟨h1,h2⟩,k+1,x,h=>by
  simp only [List.take_succ_cons,List.foldl_cons];exact ER.at_ h2 (by simpa using h)
theorem fold_succ{cs:List Cmp}{xs:List Ev}{L:Liv}{x:Ev}(h:xs[k]? =some x):(xs.take (k+1)).foldl (m9 cs) L=m9 cs ((xs.take k).foldl (m9 cs) L) x:=by
 rw [List.take_add_one,h,List.foldl_append];rfl
inductive A6(H:bB):List (Rm×Srv)→Value→Ent→Prop
 |nil:A6 H [] (.slice none 0 0) .nul
 |one {r:Rm} {u:Srv} {a b c d:Value} {bc cap:Nat} {sp:List Value} (h:SvM H u a b c d) (hc:14+sp.length=cap*14):A6 H [(r,u)] (.slice (some ⟨bc,0,none⟩) 1 cap) (.blk bc (ceC r u a b c d++sp))
theorem A6.mono{l:List (Rm×Srv)}{v:Value}{e:Ent}(h:A6 H l v e)(hl:HLe H H'):A6 H' l v e:=by
 cases h with
 |nil=>exact .nil
 |one h hc=>exact .one (h.mono hl) hc
theorem A6.shape{l:List (Rm×Srv)}{v:Value}{e:Ent}(h:A6 H l v e):∃a n k,v= .slice a n k:=by
 cases h<;>exact ⟨_,_,_,rfl⟩
structure ShM(H:bB)(n:Int)(L:Liv)(cmp tap dn vd:Value)(blk:List Value)(ce:Ent):Prop where
 ex:∃a b c d vc,blk=shC n L.flag L.hu a b c d vc L.there cmp tap dn vd∧(L.there=true→SvM H L.hu a b c d)∧A6 H L.cells vc ce
theorem ShM.mono{n:Int}{L:Liv}{cmp tap dn vd:Value}{blk:List Value}{ce:Ent}(h:ShM H n L cmp tap dn vd blk ce)(hl:HLe H H'):ShM H' n L cmp tap dn vd blk ce:=by
 obtain ⟨a,b,c,d,vc,h1,h2,h3⟩:=h.ex;exact ⟨a,b,c,d,vc,h1,fun h=>(h2 h).mono hl,h3.mono hl⟩
def wu(l:List Ev)(known:Int)(n:Nat):List Cmp:=((l.take n).filter fun x=>decide (x.known≤known∧x.kind=9)).map (·.cm)
theorem I0{l:List Ev}{known:Int}{n:Nat}(h:n<l.length):wu l known (n+1)=if (evG l n).known≤known∧(evG l n).kind=9 then wu l known n++[(evG l n).cm] else wu l known n:=by
 unfold wu;rw [List.take_add_one,gV h,List.filter_append,List.map_append];by_cases e:(evG l n).known≤known∧(evG l n).kind=9
 ·rw [if_pos e,Option.toList_some,List.filter_cons_of_pos (by simpa using e)];rfl
 ·rw [if_neg e,Option.toList_some,List.filter_cons_of_neg (by simpa using e)];simp
theorem Hp(l:List Ev)(known:Int)(n:Nat):(wu l known n).length≤n:=by
 unfold wu;rw [List.length_map];exact Nat.le_trans (List.length_filter_le _ _) (by rw [List.length_take];omega)
theorem OkE.first{L:Liv}{x:Ev}(h:OkE L x)(hn:L.there=false):x.kind=1:=by
 cases h with
 |build h=>exact h.kind
 |room _ h=>rw [hn] at h;cases h
 |hull _ h=>rw [hn] at h;cases h
 |cell _ h=>rw [hn] at h;cases h
inductive Jf(H:bB):List (Rm×Srv)→Value→Prop
 |nil:Jf H [] (.slice none 0 0)
 |one {r:Rm} {u:Srv} {a b c d:Value} {bc cap:Nat} (h:SvM H u a b c d) (hr:RS H 14 (.slice (some ⟨bc,0,none⟩) 1 cap) [ceC r u a b c d]):Jf H [(r,u)] (.slice (some ⟨bc,0,none⟩) 1 cap)
theorem A6.bQ{w:World}{l:List (Rm×Srv)}{v:Value}{ce:Ent}{σ:List Ent}(h:A6 H l v ce)(hs:St H w (ce::σ)):∃H',HLe H H'∧Jf H' l v∧St H' w σ:=by
 cases h with
 |nil=>exact ⟨H,HLe.refl _,.nil,hs.tail⟩
 | @one r u a b c d bc cap sp h hc=>
  have hO:bM 14 (.slice (some ⟨bc,0,none⟩) 1 cap) [ceC r u a b c d].flatten (.blk bc ([ceC r u a b c d].flatten++sp)):=
   .inr ⟨bc,1,cap,sp,rfl,rfl,rfl,by rw [List.length_append,show [ceC r u a b c d].flatten.length=14 from rfl];exact hc,by omega⟩
  obtain ⟨H',h1,h2,h3⟩:=bM.bQ hO (fun x hx=>by rw [List.mem_singleton] at hx;rw [hx];rfl) (by omega) (by simp) (by simpa using hs) .here;exact ⟨H',h1,.one (h.mono h1) h2,h3⟩
structure SD(l S:List Ev)(cs:List Cmp)(number day known:Int):Prop where
 hist:L9 l
 few:(q7 l number day known l.length).length≤19
 sorted:eb (q7 l number day known l.length) (q7 l number day known l.length).length=S
 cmps:wu l known l.length=cs
 ok:ER cs se S
theorem Jf.shape{l:List (Rm×Srv)}{v:Value}(h:Jf H l v):∃a n k,v= .slice a n k:=by cases h<;>exact ⟨_,_,_,rfl⟩
def spE(s:Spc)(id src:Int):Spc:=⟨id,src,s.st,s.wa,s.al,s.up⟩
structure At4 where
 ast:Option Addr
 cst:Nat
 awa:Option Addr
 cwa:Nat
def evB(s:Spc)(q:At4):Ev:=⟨0,0,1,9,0,0,0,1,0,0,spE s 900 1,q.ast,q.cst,q.awa,q.cwa,rd0,cm0,0,0⟩
def evR(s:Spc)(q:At4):Ev:=⟨0,1,2,9,0,0,0,1,0,0,spE s 5 2,q.ast,q.cst,q.awa,q.cwa,rd0,cm0,0,0⟩
def rdK(r:Rdg)(n:Nat):Rdg:=⟨(n:Int)+1,r.st,r.wa,r.val,r.tol,r.tape,r.day⟩
def Hl(room kn:Int)(n:Nat)(r:Rdg):Ev:=⟨0,n,8,9,r.day,kn,room,0,0,0,sp0,none,0,none,0,rdK r n,cm0,0,0⟩
def cmK(c:Cmp)(n:Nat):Cmp:=⟨(n:Int)+1,c.tape,c.fr,c.to,c.lo,c.hi⟩
def Mm(kn:Int)(n:Nat)(c:Cmp):Ev:=⟨0,n,9,9,0,kn,0,0,0,0,sp0,none,0,none,0,rd0,cmK c n,0,0⟩
def rdE(room:Int)(kd:Int→Int)(rs:List Rdg):Nat→List Ev
 |0=>[]
 |k+1=>rdE room kd rs k++[Hl room (kd k) (k+2) (AD rs k)]
def tpE(kd:Int→Int)(m:Nat)(cs:List Cmp):Nat→List Ev
 |0=>[]
 |k+1=>tpE kd m cs k++[Mm (kd ((m:Int)+k)) (k+(m+2)) (zQ cs k)]
def Hk(room:Int)(kd:Int→Int)(v:Srv)(q:At4)(k:Nat):List Ev:=[evB v.sp q,evR v.sp q]++rdE room kd v.rs k
def tD(room:Int)(kd:Int→Int)(v:Srv)(q:At4)(k:Nat):List Ev:=Hk room kd v q v.rs.length++tpE kd v.rs.length v.cs k
theorem vE(room:Int)(kd:Int→Int)(rs:List Rdg):∀k,(rdE room kd rs k).length=k
 |0=>rfl
 |k+1=>by simp [rdE,vE room kd rs k]
theorem q6(kd:Int→Int)(m:Nat)(cs:List Cmp):∀k,(tpE kd m cs k).length=k
 |0=>rfl
 |k+1=>by simp [tpE,q6 kd m cs k]
theorem oV(room:Int)(kd:Int→Int)(v:Srv)(q:At4)(k:Nat):(Hk room kd v q k).length=k+2:=by simp [Hk,vE]
theorem mS(room:Int)(kd:Int→Int)(v:Srv)(q:At4)(k:Nat):(tD room kd v q k).length=k+(v.rs.length+2):=by simp [tD,oV,q6];omega
theorem vK{room:Int}{kd:Int→Int}{rs:List Rdg}{x:Ev}:∀{k:Nat},x∈rdE room kd rs k↔∃i<k,x=Hl room (kd i) (i+2) (AD rs i)
 |0=>by simp [rdE]
 |k+1=>by
  simp only [rdE,List.mem_append,List.mem_singleton,vK (k:=k)];constructor
  ·rintro (⟨i,h,rfl⟩|rfl)
   ·exact ⟨i,by omega,rfl⟩
   ·exact ⟨k,by omega,rfl⟩
  ·rintro ⟨i,h,rfl⟩;by_cases e:i=k
   ·subst e;exact .inr rfl
   ·exact .inl ⟨i,by omega,rfl⟩
theorem Ch{kd:Int→Int}{m:Nat}{cs:List Cmp}{x:Ev}:∀{k:Nat},x∈tpE kd m cs k↔∃i<k,x=Mm (kd ((m:Int)+(i:Nat))) (i+(m+2)) (zQ cs i)
 |0=>by simp [tpE]
 |k+1=>by
  simp only [tpE,List.mem_append,List.mem_singleton,Ch (k:=k)];constructor
  ·rintro (⟨i,h,rfl⟩|rfl)
   ·exact ⟨i,by omega,rfl⟩
   ·exact ⟨k,by omega,rfl⟩
  ·rintro ⟨i,h,rfl⟩;by_cases e:i=k
   ·subst e;exact .inr rfl
   ·exact .inl ⟨i,by omega,rfl⟩
theorem uf{v:Srv}{q:At4}{x:Ev}:x∈tD room kd v q k↔(x=evB v.sp q∨x=evR v.sp q)∨(∃i<v.rs.length,x=Hl room (kd i) (i+2) (AD v.rs i))∨∃i<k,x=Mm (kd ((v.rs.length:Int)+(i:Nat))) (i+(v.rs.length+2)) (zQ v.cs i):=by
 simp only [tD,Hk,List.mem_append,List.mem_cons,List.not_mem_nil,or_false,vK,Ch,or_assoc]
theorem JP{s:Spc}(h:fm s){a b:Int}(ha:1≤a∧a≤99999)(hb:1≤b∧b≤99999):fm (spE s a b):=⟨h.st,h.wa,ha,hb,h.al,h.up⟩
theorem Hj{v:Srv}{q:At4}(hM:uN v)(hr:1≤room∧room≤999)(hk:∀i,0≤kd i∧kd i<50):∀x∈tD room kd v q v.cs.length,yo x:=by
 intro x hx;have h1:=hM.st;have h2:=hM.wa;have h3:=hM.rs;have h4:=hM.cs;have hS:=hM.ok.early.1
 rcases uf.1 hx with (rfl|rfl)|⟨i,hi,rfl⟩|⟨i,hi,rfl⟩
 ·exact ⟨rfl,by simp [evB],by simp [evB],by simp [evB],by simp [evB],rfl,rfl,.inl ⟨rfl,by simp [evB],⟨JP hS (by omega) (by omega),by simp [evB,spE],rfl⟩,rfl,rfl,rfl,rfl,rfl⟩⟩
 ·exact ⟨rfl,by simp [evR],by simp [evR],by simp [evR],by simp [evR],rfl,rfl,.inr (.inl ⟨rfl,by simp [evR],⟨JP hS (by omega) (by omega),by simp [evR,spE],rfl⟩,rfl,by simp [evR],by simp [evR],rfl,rfl⟩)⟩
 ·have g:=hM.ok.early.2.2.2.1 _ (List.mem_of_getElem? (nv hi));have:=hk i;obtain ⟨g1,g2,g3,g4,g5,g6,g7⟩:=g;exact ⟨rfl,by simp only [Hl];omega,by simp [Hl],g7,by simp only [Hl];omega,rfl,rfl,.inr (.inr (.inl ⟨rfl,hr,rfl,rfl,by simp only [Hl,rdK];omega,by simp only [Hl,rdK];omega,g4,g5,g6,rfl,rfl,rfl,rfl,rfl,rfl,rfl,rfl,rfl⟩))⟩
 ·have g:=hM.ok.early.2.2.2.2 _ (List.mem_of_getElem? (uz hi));have:=hk ((v.rs.length:Int)+i);exact ⟨rfl,by simp only [Mm];omega,by simp [Mm],by simp [Mm],by simp only [Mm];omega,rfl,rfl,.inr (.inr (.inr ⟨rfl,rfl,g.tape,g.fr,g.to,g.lo,g.hi,rfl,rfl,rfl,rfl,rfl,rfl,rfl,rfl,rfl,rfl⟩))⟩
def Gp(l:List Ev):Prop:=∀i<l.length,(evG l i).seq=i
theorem Gp.snoc{l:List Ev}(h:Gp l){x:Ev}(hx:x.seq=l.length):Gp (l++[x]):=by
 intro i hi;by_cases e:i<l.length
 ·have:evG (l++[x]) i=evG l i:=by unfold evG;rw [List.getD_eq_getElem?_getD,List.getD_eq_getElem?_getD,List.getElem?_append_left e]
  rw [this];exact h i e
 ·simp at hi;obtain rfl:i=l.length:=by omega
  have:evG (l++[x]) l.length=x:=by unfold evG;rw [List.getD_eq_getElem?_getD,List.getElem?_append_right (Nat.le_refl _)];simp
  rw [this];exact hx
theorem Bo(room:Int)(kd:Int→Int)(v:Srv)(q:At4):∀k,Gp (Hk room kd v q k)
 |0=>fun i hi=>by
  have:i=0∨i=1:=by simp [Hk,rdE] at hi;omega
  rcases this with rfl|rfl<;>rfl
 |k+1=>by
  have:=(Bo room kd v q k).snoc (x:=Hl room (kd k) (k+2) (AD v.rs k)) (by rw [oV];rfl);simpa [Hk,rdE] using this
theorem Bn(room:Int)(kd:Int→Int)(v:Srv)(q:At4):∀k,Gp (tD room kd v q k)
 |0=>by simpa [tD,tpE] using Bo room kd v q v.rs.length
 |k+1=>by
  have:=(Bn room kd v q k).snoc (x:=Mm (kd ((v.rs.length:Int)+k)) (k+(v.rs.length+2)) (zQ v.cs k)) (by rw [mS];rfl);simpa [tD,tpE] using this
theorem Gp.pair{l:List Ev}(h:Gp l):l.Pairwise fun x y=>x.seq<y.seq:=by
 rw [List.pairwise_iff_getElem];intro i j hi hj IA;have a:=h i hi;have b:=h j hj;have e1:evG l i=l[i]:=by have:=gV hi;rw [List.getElem?_eq_getElem hi] at this;exact (Option.some.inj this).symm
 have e2:evG l j=l[j]:=by have:=gV hj;rw [List.getElem?_eq_getElem hj] at this;exact (Option.some.inj this).symm
 rw [e1] at a;rw [e2] at b;omega
theorem Dy(l:List Ev):∀{n:Nat},n≤l.length→ob l n=((l.take n).filter fun x=>decide (x.kind=9)).length
 |0,_=>rfl
 |n+1,h=>by
  rw [ku (by omega),List.filter_append,List.length_append];simp only [ob];rw [Dy l (n:=n) (by omega)];by_cases e:(evG l n).kind=9
  ·rw [if_pos e,List.filter_cons_of_pos (by simpa using e)];simp
  ·rw [if_neg e,List.filter_cons_of_neg (by simpa using e)];simp
theorem Q6{l:List Ev}(h1:∀x∈l,yo x)(h2:l.Pairwise fun x y=>x.seq<y.seq)(h3:l.length≤80)(h4:(l.filter fun x=>decide (x.kind=9)).length≤20):L9 l:=by
 refine ⟨h1,fun i hi=>?_,h3,?_⟩
 ·rw [List.pairwise_iff_getElem] at h2;have:=h2 i (i+1) (by omega) hi (by omega);have e1:evG l i=l[i]:=by have:=gV (l:=l) (i:=i) (by omega);rw [List.getElem?_eq_getElem (by omega)] at this;exact (Option.some.inj this).symm
  have e2:evG l (i+1)=l[i+1]:=by have:=gV hi;rw [List.getElem?_eq_getElem hi] at this;exact (Option.some.inj this).symm
  rw [e1,e2];exact this
 ·rw [Dy l (Nat.le_refl _),List.take_length];omega
theorem M4{rs:List Rdg}{x:Ev}(h:x∈rdE room kd rs k):x.kind=8:=by obtain ⟨i,_,rfl⟩:=vK.1 h;rfl
theorem Gz{cs:List Cmp}{x:Ev}(h:x∈tpE kd m cs k):x.kind=9:=by obtain ⟨i,_,rfl⟩:=Ch.1 h;rfl
theorem EA(room:Int)(kd:Int→Int)(v:Srv)(q:At4)(k:Nat):((tD room kd v q k).filter fun x=>decide (x.kind=9))=tpE kd v.rs.length v.cs k:=by
 have e1:((rdE room kd v.rs v.rs.length).filter fun x=>decide (x.kind=9))=[]:=List.filter_eq_nil_iff.2 fun x hx=>by rw [M4 hx];decide
 have e2:((tpE kd v.rs.length v.cs k).filter fun x=>decide (x.kind=9))=tpE kd v.rs.length v.cs k:=List.filter_eq_self.2 fun x hx=>by rw [Gz hx];decide
 unfold tD Hk;rw [List.filter_append,List.filter_append,e1,e2];rfl
theorem Oj{v:Srv}{q:At4}(hM:uN v)(hr:1≤room∧room≤999)(hk:∀i,0≤kd i∧kd i<50)(p:Ev→Bool):L9 ((tD room kd v q v.cs.length).filter p):=by
 have h3:=hM.rs;have h4:=hM.cs;have Ir:((tD room kd v q v.cs.length).filter p).Sublist (tD room kd v q v.cs.length):=List.filter_sublist;refine Q6 (fun x hx=>Hj hM hr hk x (Ir.subset hx)) ((Bn room kd v q _).pair.sublist Ir) ?_ ?_
 ·have:=Ir.length_le;rw [mS] at this;omega
 ·have:=(Ir.filter fun x=>decide (x.kind=9)).length_le;rw [EA,q6] at this;omega
structure KnU(v:Srv)(kd:Int→Int)(k a b:Int)(u:Srv):Prop where
 sp:u.sp=spE v.sp a b
 ok:eg u
 rs:∀r,r∈u.rs↔∃i<v.rs.length,(kd (i:Nat)≤k∧(AD v.rs i).day≤10)∧r=rdK (AD v.rs i) (i+2)
 cs:∀c,c∈u.cs↔∃j<v.cs.length,kd ((v.rs.length:Int)+(j:Nat))≤k∧c=cmK (zQ v.cs j) (j+(v.rs.length+2))
theorem KnU.bV{v u:Srv}{k:Int}(h:KnU v kd k a b u){t:TD}(ht:t∈u.bV):t∈v.bV:=by
 obtain ⟨r,h1,rfl⟩:=eK.1 ht;obtain ⟨i,hi,-,rfl⟩:=(h.rs r).1 h1;exact eK.2 ⟨_,List.mem_of_getElem? (nv hi),rfl⟩
theorem KnU.kp{v u:Srv}{k:Int}(h:KnU v kd k a b u){g:Nat→Nat→Int}{f:TD→Int}(hk:Kp v g f):Kp u g f:=by
 obtain ⟨k1,k2,k3,k4,k5,k6⟩:=hk;refine ⟨?_,?_,?_,fun t ht=>k4 t (h.bV ht),fun c hc t ht=>?_,fun r hr=>?_⟩
 ·rw [h.sp];exact k1
 ·rw [h.sp];exact k2
 ·rw [h.sp];exact k3
 ·obtain ⟨j,hj,-,rfl⟩:=(h.cs c).1 hc;exact k5 (zQ v.cs j) (List.mem_of_getElem? (uz hj)) t (h.bV ht)
 ·obtain ⟨i,hi,-,rfl⟩:=(h.rs r).1 hr;exact k6 (AD v.rs i) (List.mem_of_getElem? (nv hi))
theorem KnU.kp2{v u u2:Srv}{k k2:Int}(h:KnU v kd k a b u)(h2:KnU v kd k2 a b u2)(hle:k≤k2){g:Nat→Nat→Int}{f:TD→Int}(hk:Kp u2 g f):Kp u g f:=by
 have hr:∀r∈u.rs,r∈u2.rs:=fun r hr=>by
  obtain ⟨i,h1,h3,h4⟩:=(h.rs r).1 hr;exact (h2.rs r).2 ⟨i,h1,⟨by omega,h3.2⟩,h4⟩
 have hc:∀c∈u.cs,c∈u2.cs:=fun r hr=>by
  obtain ⟨i,h1,h3,h4⟩:=(h.cs r).1 hr;exact (h2.cs r).2 ⟨i,h1,by omega,h4⟩
 have ht:∀t∈u.bV,t∈u2.bV:=fun t ht=>by
  obtain ⟨r,h1,rfl⟩:=eK.1 ht;exact eK.2 ⟨r,hr r h1,rfl⟩
 obtain ⟨k1,k2,k3,k4,k5,k6⟩:=hk;rw [h2.sp,←h.sp] at k1 k2 k3;exact ⟨k1,k2,k3,fun t h=>k4 t (ht t h),fun c h t h3=>k5 c (hc c h) t (ht t h3),fun r h=>k6 r (hr r h)⟩
theorem KnU.sound{v u:Srv}{k:Int}(h:KnU v kd k a b u)(hM:uN v){y:List Int}(hk:oF v y):u.sys.Sound:=by
 obtain ⟨h1,⟨f,h2⟩,-⟩:=zk hM.ok hk;exact (MH h.ok.early).2 ⟨_,f,h.kp h2⟩
def Me(k:Int):Ev→Bool:=fun x=>decide ((x.known≤k∧x.kind≠9)∧x.ship=9∧x.day≤10)
theorem Rw{v:Srv}{q:At4}{k:Int}(hk:0≤k)(n:Nat):(tD room kd v q n).filter (Me k)=evB v.sp q::evR v.sp q::(rdE room kd v.rs v.rs.length).filter (Me k):=by
 have e2:(tpE kd v.rs.length v.cs n).filter (Me k)=[]:=List.filter_eq_nil_iff.2 fun x hx=>by simp [Me,Gz hx]
 unfold tD Hk;rw [List.filter_append,List.filter_append,e2,List.filter_eq_self.2 (fun x hx=>by
  simp only [List.mem_cons,List.not_mem_nil,or_false] at hx
  rcases hx with rfl|rfl<;>simp [Me,evB,evR,hk]),List.append_nil]
 rfl
theorem Mz{v:Srv}{q:At4}(hM:uN v)(p:Ev→Bool)(T:List Ev)(hT:T=evB v.sp q::evR v.sp q::(rdE room kd v.rs v.rs.length).filter p):∃S,eb T T.length=evB v.sp q::evR v.sp q::S∧S.Perm ((rdE room kd v.rs v.rs.length).filter p):=by
 have hd:∀x∈T,0≤x.day:=fun x hx=>by
  rw [hT] at hx;simp only [List.mem_cons,List.mem_filter] at hx
  rcases hx with rfl|rfl|⟨hx,-⟩
  ·exact Int.le_refl _
  ·exact Int.le_refl _
  ·obtain ⟨i,hi,rfl⟩:=vK.1 hx;exact (hM.ok.early.2.2.2.1 _ (List.mem_of_getElem? (nv hi))).day.1
 have h2:2≤T.length:=by rw [hT];simp
 have h0:∀i<2,(evG T i).day=0:=fun i hi=>by
  rw [hT];have:i=0∨i=1:=by omega
  rcases this with rfl|rfl<;>rfl
 have e1:=vq hd h0 (n:=T.length) (Nat.le_refl _) h2;have e2:=vu T (n:=T.length) (Nat.le_refl _);rw [List.take_length] at e2;refine ⟨(eb T T.length).drop 2,?_,?_⟩
 ·have e3:T.take 2=[evB v.sp q,evR v.sp q]:=by rw [hT];rfl
  have:=(List.take_append_drop 2 (eb T T.length)).symm;rw [e1,e3] at this;exact this
 ·rw [←List.take_append_drop 2 (eb T T.length),e1] at e2;rw [hT] at e2 ⊢;exact (List.perm_cons _).1 ((List.perm_cons _).1 e2)
def tpK(kd:Int→Int)(v:Srv)(k:Int):List Cmp:=((tpE kd v.rs.length v.cs v.cs.length).filter fun x=>decide (x.known≤k)).map (·.cm)
theorem Ol{v:Srv}{q:At4}{k:Int}:((tD room kd v q v.cs.length).filter fun x=>decide (x.known≤k∧x.kind=9)).map (·.cm)=tpK kd v k:=by
 have e1:((tD room kd v q v.cs.length).filter fun x=>decide (x.known≤k∧x.kind=9))=((tD room kd v q v.cs.length).filter fun x=>decide (x.kind=9)).filter fun x=>decide (x.known≤k):=by
  rw [List.filter_filter];congr 1;funext x;simp [Bool.decide_and]
 rw [e1,EA];rfl
theorem Kn{v:Srv}{k:Int}{c:Cmp}:c∈tpK kd v k↔∃j<v.cs.length,kd ((v.rs.length:Int)+(j:Nat))≤k∧c=cmK (zQ v.cs j) (j+(v.rs.length+2)):=by
 unfold tpK;simp only [List.mem_map,List.mem_filter,Ch,decide_eq_true_eq];constructor
 ·rintro ⟨x,⟨⟨i,h1,rfl⟩,h2⟩,rfl⟩;exact ⟨i,h1,h2,rfl⟩
 ·rintro ⟨j,h1,h2,rfl⟩;exact ⟨_,⟨⟨j,h1,rfl⟩,h2⟩,rfl⟩
theorem Qd{v:Srv}{k:Int}:(tpK kd v k).length≤v.cs.length:=by
 unfold tpK;rw [List.length_map];have:=List.length_filter_le (fun x:Ev=>decide (x.known≤k)) (tpE kd v.rs.length v.cs v.cs.length)
 rwa [q6] at this
theorem OS{v:Srv}(hM:uN v){k:Int}:∀c∈tpK kd v k,tB c:=fun c hc=>by
 obtain ⟨j,h1,-,rfl⟩:=Kn.1 hc;have g:=hM.ok.early.2.2.2.2 _ (List.mem_of_getElem? (uz h1));have:=hM.rs;have:=hM.cs;exact ⟨by simp only [cmK];omega,g.tape,g.fr,g.to,g.lo,g.hi⟩
theorem SO{v:Srv}(hM:uN v){i:Nat}(h:i<v.rs.length){a b:Int}:mE (spE v.sp a b) (rdK (AD v.rs i) (i+2)):=by
 have g:=hM.ok.early.2.2.2.1 _ (List.mem_of_getElem? (nv h));have:=hM.rs;exact ⟨by simp only [rdK];omega,g.st,g.wa,g.tol,g.val,g.tape,g.day⟩
theorem Ly{cs:List Cmp}:∀{S:List Ev} {L:Liv},(∀x∈S,x.kind=8∧L.hu.sp.id=x.room)→S.foldl (m9 cs) L={L with hu:=⟨L.hu.sp,L.hu.rs++S.map (·.rd),L.hu.cs⟩}
 |[],L,_=>by simp
 |x::S,L,hx=>by
  obtain ⟨a,b⟩:=hx x (by simp);have e:m9 cs L x={L with hu:=L.hu.add x.rd}:=by
   unfold m9;rw [if_neg (by omega),if_neg (by omega),if_pos b]
  rw [List.foldl_cons,e,Ly (L:={L with hu:=L.hu.add x.rd}) (fun y hy=>hx y (by simp [hy]))];simp [Srv.add]
theorem S8{cs:List Cmp}{sp:Spc}(rj:fm sp)(h1:sp.st.length≤4)(h2:sp.wa.length≤3)(K3:cs.length≤6)(ZP:∀c∈cs,tB c):∀{S:List Ev} {L:Liv} {rs:List Rdg},L.hu=⟨sp,rs,cs⟩→L.there=true→rs.length+S.length≤15→(∀x∈rs,mE sp x)→
  (∀x∈S,pa x∧sp.id=x.room∧mE sp x.rd)→ER cs L S
 |[],_,_,_,_,_,_,_=>trivial
 |x::S,L,rs,h,ht,hl,QY,hx=>by
  obtain ⟨a,b,d⟩:=hx x (by simp);have hb:L.hu.sp.id=x.room:=by rw [h];exact b
  have e:m9 cs L x={L with hu:=⟨sp,rs++[x.rd],cs⟩}:=by
   have:=a.kind;unfold m9;rw [if_neg (by omega),if_neg (by omega),if_pos hb,h];rfl
  have Tx:∀y∈rs++[x.rd],mE sp y:=fun y hy=>by
   rcases List.mem_append.1 hy with h|h
   ·exact QY y h
   ·rw [List.mem_singleton] at h;subst h;exact d
  simp only [List.length_cons] at hl;refine ⟨.hull a ht hb (by rw [h];exact GB rj h1 h2 (by simp;omega) K3 Tx ZP) (by rw [h];show rs.length≤1000;omega),?_⟩;rw [e];exact S8 rj h1 h2 K3 ZP rfl ht (by simp;omega) Tx (fun y hy=>hx y (by simp [hy]))
theorem RO{v:Srv}{q:At4}(hM:uN v)(hk:∀i,0≤kd i∧kd i<50){k:Int}(K0:0≤k):∃S cs u,SD (tD 900 kd v q v.cs.length) S cs 9 10 k∧S.foldl (m9 cs) se=⟨true,1,u,[(⟨5,1,0,0⟩,⟨spE v.sp 5 2,[],cs⟩)]⟩∧KnU v kd k 900 1 u:=by
 have hH:=Oj (room:=900) (q:=q) hM (by omega) hk;have BG:=Hj (room:=900) (q:=q) hM (by omega) hk;obtain ⟨S,hS,hP⟩:=Mz (room:=900) (kd:=kd) (q:=q) hM (Me k) _ rfl;have e1:q7 (tD 900 kd v q v.cs.length) 9 10 k (tD 900 kd v q v.cs.length).length=evB v.sp q::evR v.sp q::(rdE 900 kd v.rs v.rs.length).filter (Me k):=by
  unfold q7;rw [List.take_length];exact Rw K0 _
 have c1:wu (tD 900 kd v q v.cs.length) k (tD 900 kd v q v.cs.length).length=tpK kd v k:=by
  unfold wu;rw [List.take_length];exact Ol
 have hlen:S.length≤v.rs.length:=by
  rw [hP.length_eq];have:=List.length_filter_le (Me k) (rdE 900 kd v.rs v.rs.length)
  rwa [vE] at this
 have h14:=hM.rs;have h5:=hM.cs;have AQ:=Qd (kd:=kd) (v:=v) (k:=k);have zt:∀x∈S,∃i<v.rs.length,(kd (i:Nat)≤k∧(AD v.rs i).day≤10)∧x=Hl 900 (kd i) (i+2) (AD v.rs i):=fun x hx=>by
  obtain ⟨h1,h2⟩:=List.mem_filter.1 (hP.mem_iff.1 hx);obtain ⟨i,hi,rfl⟩:=vK.1 h1;simp only [Me,decide_eq_true_eq] at h2;exact ⟨i,hi,⟨h2.1.1,h2.2.2⟩,rfl⟩
 have Vo:∀x∈S,pa x∧(900:Int)=x.room∧mE (spE v.sp 900 1) x.rd:=fun x hx=>by
  obtain ⟨i,hi,-,rfl⟩:=zt x hx;exact ⟨(BG _ (uf.2 (.inr (.inl ⟨i,hi,rfl⟩)))).read rfl,rfl,SO hM hi⟩
 have rj:=JP hM.ok.early.1 (a:=900) (b:=1) (by omega) (by omega);have hOk:ER (tpK kd v k) se (evB v.sp q::evR v.sp q::S):=by
  refine ⟨.build ((BG _ (uf.2 (.inl (.inl rfl)))).build rfl) rfl rfl,.room ((BG _ (uf.2 (.inl (.inr rfl)))).O3 rfl) rfl rfl (by show (900:Int)≠5;omega),?_⟩;exact S8 (rs:=[]) rj hM.st hM.wa (by omega) (OS hM) rfl rfl (by simp;omega) (fun x hx=>by cases hx) Vo
 refine ⟨evB v.sp q::evR v.sp q::S,tpK kd v k,⟨spE v.sp 900 1,S.map (·.rd),tpK kd v k⟩,⟨?_,?_,?_,c1,hOk⟩,?_,rfl,?_,fun r=>?_,fun c=>Kn⟩
 ·have:=hH fun _=>true
  rwa [List.filter_eq_self.2 (fun _ _=>rfl)] at this
 ·rw [e1];have:=hP.length_eq;simp only [List.length_cons];omega
 ·rw [e1];exact hS
 ·exact Ly (cs:=tpK kd v k) (S:=S) (L:=⟨true,1,⟨spE v.sp 900 1,[],tpK kd v k⟩,[(⟨5,1,0,0⟩,⟨spE v.sp 5 2,[],tpK kd v k⟩)]⟩) (fun x hx=>⟨(Vo x hx).1.kind,(Vo x hx).2.1⟩)
 ·refine GB rj hM.st hM.wa (by rw [List.length_map];omega) (by omega) (fun x hx=>?_) (OS hM);obtain ⟨y,hy,rfl⟩:=List.mem_map.1 hx;exact (Vo y hy).2.2
 ·constructor
  ·intro hr;obtain ⟨y,hy,rfl⟩:=List.mem_map.1 hr;obtain ⟨i,hi,h,rfl⟩:=zt y hy;exact ⟨i,hi,h,rfl⟩
  ·rintro ⟨i,hi,h,rfl⟩;refine List.mem_map.2 ⟨Hl 900 (kd i) (i+2) (AD v.rs i),hP.mem_iff.2 (List.mem_filter.2 ⟨vK.2 ⟨i,hi,rfl⟩,?_⟩),rfl⟩;simp only [Me,Hl,decide_eq_true_eq];exact ⟨⟨h.1,by omega⟩,trivial,h.2⟩
end Go.MW
namespace Go.Proofs.YtlgfjghdgbhkhaaGreat
open Go.MW Tryz
variable{H:bB}{σ:List Ent}{a0 a1 a2 x most a hi lo j f e known fl id number:Int}{l:Lns}{ls:List Lim}{g b k b1 bf bt bl cl i bm bc bn:Nat}{cap sp:List Value}{s:Srv}{xs lf ws bs L X Y cn ks days:List Int}{en:Ent}{ts:List TD}{vl vt vd vp vw vb vx v1 v2 vr vc d vh vs v5 v4 fu b' tap dn b2 c2 d2:Value}{m:Rng}{t:TD}{rows:List (List Int)}{high th:Bool}{kd:Int→Int}
theorem dx{w:World}{n b:Int}(hs:St H w σ)(h:a≤n∧n≤b):aaA 170 [I n,I a,I b] w fun v w'=>v= .bool true∧St H w' σ:=by
 refine Cl.o func170 ntmps170 ag3 ?_;refine .ae (.zn zg (.ae (.z zm (.z zm (.z Bd ?_)))));rw [decide_eq_true h.1];refine .z zm (.T (.z zm (.T (.z zm (.T (.z rl ?_))))));rw [decide_eq_true h.2];exact .z zpT (.zn zg (.ret (Fin.bp results170 rfl ⟨rfl,hs.out⟩)))
theorem FL{w:World}{n b:Int}(hs:St H w σ):aaA 170 [I n,I a,I b] w fun v w'=>∃p:Bool,v= .bool p∧(a≤n∧n≤b→p=true)∧St H w' σ:=by
 refine Cl.o func170 ntmps170 ag3 ?_;refine .ae (.zn zg (.ae (.z zm (.z zm (.z Bd (.z zm (.mW (t':=10) rfl (fun qy=>?_) (fun qy=>?_))))))))
 ·exact .T (.z zm (.T (.z zm (.T (.z rl (.z zpT (.zn zg (.ret (Fin.bp results170 rfl ⟨_,rfl,fun h=>by first|rfl|(simp;omega),hs.out⟩)))))))))
 ·exact .Fs 3 3 true (.z zpF (.zn zg (.ret (Fin.bp results170 rfl ⟨_,rfl,fun h=>by first|rfl|(simp;omega),hs.out⟩))))
theorem jg{w:World}{n:Int}(hs:St H w σ)(h:0≤n∧n≤100000):aaA 95 [I n] w fun v w'=>v= .bool true∧St H w' σ:=by
 refine Cl.o func95 ntmps95 ag1 ?_;refine .ae (.zn zg (.ae (.z zm (.o (.call k7 rfl (dx hs h) ?_)))));rintro _ w ⟨rfl,hs⟩;exact .zn zg (.ret (Fin.bp results95 rfl ⟨rfl,hs.out⟩))
theorem pB{w:World}{n:Int}(hs:St H w σ)(h:1≤n∧n≤999):aaA 141 [I n] w fun v w'=>v= .bool true∧St H w' σ:=by
 refine Cl.o func141 ntmps141 ag1 ?_;refine .ae (.zn zg (.ae (.z zm (.o (.call k7 rfl (dx hs h) ?_)))));rintro _ w ⟨rfl,hs⟩;exact .zn zg (.ret (Fin.bp results141 rfl ⟨rfl,hs.out⟩))
theorem oA{w:World}{b:Int}(hs:St H w σ)(h:0≤a∧a≤8)(k:0≤b∧b≤9999):aaA 94 [.agg #[I a,I b]] w fun v w'=>v= .bool true∧St H w' σ:=by
 refine Cl.o func94 ntmps94 ag1 ?_;refine .ae (.bx hs fun b1 w hs=>?_);refine .zn zg (.ae (.z (zfa lB) (.y hs (zld ai) (.o (.call k7 rfl (dx hs h) ?_)))));rintro _ w ⟨rfl,hs⟩;refine .z zm (.T (.z (zfa lA) (.T (.y hs (zld ai) (.T (.o (.call k7 rfl (dx hs k) ?_)))))));rintro _ w ⟨rfl,hs⟩;exact .z zpT (.zn zg (.ret (Fin.bp results94 rfl ⟨rfl,hs.out⟩)))
theorem l9{w:World}{b:Int}(hs:St H w σ)(h:0≤a∧a≤8)(k:0≤b∧b≤9999):aaA 232 [.agg #[I a,I b]] w fun v w'=>v=I (10000*a+b+1)∧St H w' σ:=by
 refine Cl.o func232 ntmps232 ag1 ?_;refine .ae (.bx hs fun b1 w hs=>?_);refine .zn zg (.seq (.ae (.y hs (zls [_,_] kZ fq) (.o (.call call94 rfl (oA hs h k) ?_)))));rintro _ w ⟨rfl,hs⟩;exact .zn im (.cF (.skip (nT (.ae (.z (zfa lB) (.y hs (zld ai) (.z nf (.z (zfa lA) (.y hs (zld ai) (.z cz (.z cz (.zn zg (.ret (Fin.bp results232 rfl ⟨rfl,hs.out⟩))))))))))))))
theorem cmp_isNaN_int{w:World}(hs:St H w σ):aaA 175 [I a] w fun v w'=>v= .bool false∧St H w' σ:=by
 refine Cl.o func175 ntmps175 ag1 ?_;exact .ae (.zn zg (.ae (.z zm (.z zm (.z gE (.zn zg (.ret (Fin.bp results175 rfl ⟨br,hs.out⟩))))))))
def Al(a b:Int):Int:=if a<b then -1 else if b<a then 1 else 0
theorem kO{w:World}{b:Int}(hs:St H w σ):aaA 98 [I a,I b] w fun v w'=>v=I (Al a b)∧St H w' σ:=by
 refine Cl.o func98 ntmps98 ag2 ?_;refine .ae (.zn zg (.ae (.z zm (.o (.call call175 rfl (cmp_isNaN_int hs) ?_)))));rintro _ w ⟨rfl,hs⟩;refine .zn zg (.ae (.z zm (.o (.call call175 rfl (cmp_isNaN_int hs) ?_))));rintro _ w ⟨rfl,hs⟩;refine .zn zg (.seq (.ae (.zn zm (.cF (.skip (nT (.seq (.ae (.zn zm (.cF (.skip (nT (.seq (.ae (.z zm (.z zm (.zn jt (.bX rfl (fun ee=>?_) (fun ee=>?_)))))))))))))))))))
 ·exact .ae (.zn zg (.ret (rT (Fin.bp results98 rfl ⟨by unfold Al;rw [if_pos aj],hs.out⟩))))
 ·refine .skip (nT (.seq (.ae (.z zm (.z zm (.zn q5 (.bX rfl (fun mB=>?_) (fun mB=>?_))))))))
  ·exact .ae (.zn zg (.ret (rT (Fin.bp results98 rfl ⟨by unfold Al;rw [if_neg aj,if_pos aj],hs.out⟩))))
  ·exact .skip (nT (.ae (.zn zg (.ret (Fin.bp results98 rfl ⟨by unfold Al;rw [if_neg aj,if_neg aj],hs.out⟩)))))
def orL:List Int→Int
 |[]=>0
 |a::l=>if a=0 then orL l else a
theorem I1{w:World}{v:Value}{l:List Int}(hs:St H w σ)(hr:RI H v l):aaA 97 [v] w fun u w'=>u=I (orL l)∧St H w' σ:=by
 obtain ⟨a,c,rfl⟩:=RI.shape hr;refine Cl.o func97 ntmps97 ag1 ?_;refine .ae (.zn zg (.ae (.zn zg (.seq (.ae (.z zm (.z (cJ af) (.zn zm (.for (N:=l.length) (J:=fun k fr w=>fr=[(6,.slice a l.length c),(3,I 0)]∧orL l=orL (l.drop k)∧St H w σ) (by have:=(RS.len hr).2.2;omega) ?_ ?_ ?_)))))))))
 ·exact .mk ⟨rfl,rfl,hs⟩
 ·rintro k fr w hk ⟨rfl,hd,hs⟩;have hx:=bG (l:=l) (i:=k) hk;have Xu:l.drop k=gi l k::l.drop (k+1):=by rw [List.drop_eq_getElem_cons hk];congr 1;exact (by rw [List.getElem?_eq_getElem hk] at hx;exact Option.some.inj hx)
  rw [Xu,show orL (gi l k::l.drop (k+1))=if gi l k=0 then orL (l.drop (k+1)) else gi l k from rfl] at hd;refine .block (.ae (.ixX (enc:=fun x=>[I x]) hs hr rfl rfl af ak hx rfl ?_));intro jx o10 pR;replace pR:=bE.one pR;refine .y hs (zld ai) (.zn zg (.ae (.z zm (.z zm (.zn gE (.eN rfl (fun iW=>?_) (fun iW=>?_)))))))
  ·exact .ae (.z zm (.zn zg (.ret (rB (rT (rB (rT (Fin.bp results97 rfl ⟨by rw [hd,if_neg aj],hs.out⟩))))))))
  ·exact .skip (nB (nT (.mk ⟨rfl,by rw [hd,if_pos aj],hs.out⟩)))
 ·rintro fr w ⟨rfl,hd,hs⟩;exact nT (.ae (.z zm (.zn zg (.ret (Fin.bp results97 rfl ⟨by rw [hd,List.drop_length];rfl,hs.out⟩)))))
theorem vW{w:World}{b c d:Int}(hs:St H w σ):aaA 48 [.agg #[I a,I b],.agg #[I c,I d]] w fun v w'=>v=I (orL [Al a c,Al b d])∧∃H1,HLe H H1∧St H1 w' σ:=by
 refine Cl.o func48 ntmps48 ag2 ?_;refine .ae (.bx hs fun b2 w hs=>?_);refine .bx hs fun b3 w hs=>?_
 refine .zn zg (.seq (.draw mix rfl hs fun w hs=>?_));refine .zw 0 rfl (zfa lB) ?_;refine .y 1 rfl hs ai ?_;refine .z 2 rfl (zfa lB) ?_;refine .y 3 rfl hs ai ?_;refine .z 5 rfl (zfa lA) ?_;refine .y 6 rfl hs ai ?_;refine .z 7 rfl (zfa lA) ?_;refine .y 8 rfl hs ai ?_;refine .E 4 hs ?_;refine .call call98 rfl (kO hs) ?_;rintro _ w ⟨rfl,hs⟩;refine .go (.E 9 hs ?_);refine .call call98 rfl (kO hs) ?_;rintro _ w ⟨rfl,hs⟩;refine .go (.E 10 hs ?_);refine .buildSlice (cells:=Is [Al a c,Al b d]) hs fC rfl au ?_;intro Df w hs;refine .go (.E 11 hs ?_);obtain ⟨H1,aq,hR,hs⟩:=bM.ck (bM.full (len:=2) rfl) br hs .here;refine .call call97 rfl (I1 hs hR) ?_;rintro _ w ⟨rfl,hs⟩;refine .go (.zw 12 rfl zg ?_);refine .D hs ?_;exact .ret (Fin.bp results48 rfl ⟨rfl,H1,aq,hs.out⟩)
theorem IZ{o s t:Int}(h:s<t):orL [Al o o,Al s t]= -1:=by
 have h1:Al o o=0:=by unfold Al;rw [if_neg aj,if_neg aj]
 have h2:Al s t= -1:=by unfold Al;rw [if_pos h]
 rw [h1,h2];rfl
theorem IW:Tryz.prog.stoodInHeld 31=false:=by kernel_rfl
theorem IX:Tryz.prog.eqGuardType Tryz.prog.depth 31=false:=by kernel_rfl
theorem yX:Tryz.prog.stoodInHeld 74=false:=by kernel_rfl
theorem yY:Tryz.prog.eqGuardType Tryz.prog.depth 74=false:=by kernel_rfl
theorem Ic:Tryz.prog.stoodInHeld 76=false:=by kernel_rfl
theorem Ie:Tryz.prog.eqGuardType Tryz.prog.depth 76=false:=by kernel_rfl
theorem I2:Tryz.prog.stoodInHeld 78=false:=by kernel_rfl
theorem I3:Tryz.prog.eqGuardType Tryz.prog.depth 78=false:=by kernel_rfl
theorem s4{w:World}{s:Spc}{vst vwa:Value}(hs:St H w σ)(h1:RI H vst s.st)(h2:RI H vwa s.wa):
  aaA 174 [.agg #[I s.id,I s.src,vst,vwa,I s.al,I s.up],.agg #[I s.id,I s.src,vst,vwa,I s.al,I s.up]] w fun v w'=>v= .bool true∧St H w' σ:=by
 obtain ⟨ast,cst,rfl⟩:=RI.shape h1;obtain ⟨awa,cwa,rfl⟩:=RI.shape h2;refine Cl.o func174 ntmps174 ag2 ?_;refine .ae (.bx hs fun b2 w hs=>?_);refine .bx hs fun b3 w hs=>?_
 refine .zn zg (.ae (.z (zfa dT) (.y hs (zld ai) (.z (zfa dT) (.y hs (zld ai) (.z gO ?_))))));rw [decide_eq_true rfl];refine .z zm (.T (.z (zfa db) (.T (.y hs (zld ai) (.T (.z (zfa db) (.T (.y hs (zld ai) (.T (.z gO ?_))))))))));rw [decide_eq_true rfl];refine .z zpT (.z zm (.T (.z (zfa eQ) (.T (.y hs (zls [_,_] isAgg31 sizeOf31) (.T (.z (zfa eQ) (.T (.y hs (zls [_,_] isAgg31 sizeOf31) (.T ?_))))))))));refine .q hs (yT IW IX runUnderlying31 (fun f hf=>by
  simp only [List.mem_cons,List.not_mem_nil,or_false] at hf
  rcases hf with rfl|rfl<;>exact ⟨by decide,aF,ai⟩) rfl rfl) ?_
 rw [decide_eq_true ⟨rfl,rfl⟩];refine .z zpT (.z zm (.T (.z (zfa bw) (.T (.y hs (zld an) (.T (.z (zfa bw) (.T (.y hs (zld an) (.T (.o (.call call233 rfl (pn hs h1 h1) ?_))))))))))));rintro _ w ⟨rfl,hs⟩;rw [decide_eq_true rfl];refine .z zpT (.z zm (.T (.z (zfa bg) (.T (.y hs (zld an) (.T (.z (zfa bg) (.T (.y hs (zld an) (.T (.o (.call call233 rfl (pn hs h2 h2) ?_))))))))))));rintro _ w ⟨rfl,hs⟩;rw [decide_eq_true rfl];exact .z zpT (.zn zg (.ret (Fin.bp results174 rfl ⟨rfl,hs.out⟩)))
set_option maxHeartbeats 2000000 in
theorem s5{w:World}{x:Ev}(hs:St H w σ)(hx:EvM H x):aaA 96 [x.agg,x.agg] w fun v w'=>v= .bool true∧St H w' σ:=by
 refine Cl.o func96 ntmps96 ag2 ?_;refine .ae (.bx hs fun b2 w hs=>?_);refine .bx hs fun b3 w hs=>?_
 refine .zn zg (.seq (.ae (.z (zfa dk) (.y hs (zls [_,_,_,_,_,_] bu aI) (.z (zfa dk) (.y hs (zls [_,_,_,_,_,_] bu aI) (.o (.call call174 rfl (s4 (s:=x.sp) hs hx.st hx.wa) ?_))))))));rintro _ w ⟨rfl,hs⟩;refine .zn im (.cF (.skip (nT (.ae (.z (zfa dm) (.y hs (zls [_,_] kZ fq) (.z (zfa dm) (.y hs (zls [_,_] kZ fq) (.q hs (yT yX yY uR (fun f hf=>by simp only [List.mem_cons,List.not_mem_nil,or_false] at hf;rcases hf with rfl|rfl<;>exact ⟨by decide,aF,ai⟩) rfl rfl) ?_)))))))));rw [decide_eq_true ⟨rfl,rfl⟩];refine .z zm (.T (.z (zfa dc) (.T (.y hs (zld ai) (.T (.z (zfa dc) (.T (.y hs (zld ai) (.T (.z gO ?_))))))))));rw [decide_eq_true rfl];refine .z zpT (.z zm (.T (.z (zfa gJ) (.T (.y hs (zld ai) (.T (.z (zfa gJ) (.T (.y hs (zld ai) (.T (.z gO ?_)))))))))));rw [decide_eq_true rfl];refine .z zpT (.z zm (.T (.z (zfa eT) (.T (.y hs (zld ai) (.T (.z (zfa eT) (.T (.y hs (zld ai) (.T (.z gO ?_)))))))))));rw [decide_eq_true rfl];refine .z zpT (.z zm (.T (.z (zfa jM) (.T (.y hs (zld ai) (.T (.z (zfa jM) (.T (.y hs (zld ai) (.T (.z gO ?_)))))))))));rw [decide_eq_true rfl];refine .z zpT (.z zm (.T (.z (zfa fB) (.T (.y hs (zld ai) (.T (.z (zfa fB) (.T (.y hs (zld ai) (.T (.z gO ?_)))))))))));rw [decide_eq_true rfl];refine .z zpT (.z zm (.T (.z (zfa ep) (.T (.y hs (zld ai) (.T (.z (zfa ep) (.T (.y hs (zld ai) (.T (.z gO ?_)))))))))));rw [decide_eq_true rfl];refine .z zpT (.z zm (.T (.z (zfa iJ) (.T (.y hs (zld ai) (.T (.z (zfa iJ) (.T (.y hs (zld ai) (.T (.z gO ?_)))))))))));rw [decide_eq_true rfl];refine .z zpT (.z zm (.T (.z (zfa iI) (.T (.y hs (zld ai) (.T (.z (zfa iI) (.T (.y hs (zld ai) (.T (.z gO ?_)))))))))));rw [decide_eq_true rfl];refine .z zpT (.z zm (.T (.z (zfa eX) (.T (.y hs (zls [_,_,_,_,_,_,_] iP bF) (.T (.z (zfa eX) (.T (.y hs (zls [_,_,_,_,_,_,_] iP bF) (.T (.q hs (S5 Ic Ie jr (fun f hf=>by simp only [List.mem_cons,List.not_mem_nil,or_false] at hf;rcases hf with rfl|rfl|rfl|rfl|rfl|rfl|rfl<;>exact ⟨by decide,aF,ai⟩) rfl rfl) ?_)))))))))));rw [decide_eq_true ⟨rfl,rfl,rfl,rfl,rfl,rfl,rfl⟩];refine .z zpT (.z zm (.T (.z (zfa fN) (.T (.y hs (zls [_,_,_,_,_,_] wD dO) (.T (.z (zfa fN) (.T (.y hs (zls [_,_,_,_,_,_] wD dO) (.T (.q hs (S6 I2 I3 kX (fun f hf=>by simp only [List.mem_cons,List.not_mem_nil,or_false] at hf;rcases hf with rfl|rfl|rfl|rfl|rfl|rfl<;>exact ⟨by decide,aF,ai⟩) rfl rfl) ?_)))))))))));rw [decide_eq_true ⟨rfl,rfl,rfl,rfl,rfl,rfl⟩];refine .z zpT (.z zm (.T (.z (zfa qL) (.T (.y hs (zls [_,_] kZ fq) (.T (.z (zfa qL) (.T (.y hs (zls [_,_] kZ fq) (.T (.q hs (yT yX yY uR (fun f hf=>by simp only [List.mem_cons,List.not_mem_nil,or_false] at hf;rcases hf with rfl|rfl<;>exact ⟨by decide,aF,ai⟩) rfl rfl) ?_)))))))))));rw [decide_eq_true ⟨rfl,rfl⟩];exact .z zpT (.zn zg (.ret (Fin.bp results96 rfl ⟨rfl,hs.out⟩)))
theorem qp{w:World}{x:Ev}(hs:St H w σ)(hx:EvM H x)(hg:yo x)(hn:Jb x):aaA 171 [x.agg] w fun v w'=>v= .bool true∧∃H1,HLe H H1∧St H1 w' σ:=by
 have h1:=hg.seq;have h2:=hg.off;have h3:=hn.ok.id;refine Cl.o func171 ntmps171 ag1 ?_;refine .ae (.bx hs fun b1 w hs=>?_);refine .zn zg (.seq (.draw mix rfl hs fun w hs=>?_));refine .zw 0 rfl (zfa dk) ?_;refine .ys 1 rfl hs [_,_,_,_,_,_] bu aI ?_;refine .E 2 hs ?_;refine .call call41 rfl (fo (s:=x.sp) hs hx.st hx.wa) ?_;rintro _ w ⟨H1,e,aq,rfl,he,hs⟩;obtain rfl:e=0:=by
  rcases he with ⟨_,h⟩|⟨h,_⟩
  ·exact h
  ·exact (h hn.ok).elim
 refine .go (.zw 3 rfl gO ?_);rw [decide_eq_true rfl];refine .zw 4 rfl zm ?_;refine .z 5 rfl (zfa dk) ?_;refine .z 6 rfl (zfa dT) ?_;refine .y 7 rfl hs ai ?_;refine .E 8 hs ?_;refine .call k7 rfl (dx hs ⟨h3.1,hn.id⟩) ?_;rintro _ w ⟨rfl,hs⟩;refine .go (.zw 9 rfl zpT ?_);refine .z 10 rfl zm ?_;refine .z 11 rfl (zfa dk) ?_;refine .z 12 rfl (zfa db) ?_;refine .y 13 rfl hs ai ?_;refine .z 14 rfl (zfa dm) ?_;refine .ys 15 rfl hs [_,_] kZ fq ?_;refine .E 16 hs ?_;refine .call call232 rfl (l9 hs aj h1) ?_;rintro _ w ⟨rfl,hs⟩;refine .go (.zw 17 rfl gO ?_);rw [decide_eq_true (by have:=hn.src;omega)];refine .zw 18 rfl zpT ?_;refine .z 19 rfl zg ?_;refine .D hs ?_;exact .ret (Fin.bp results171 rfl ⟨rfl,H1,aq,hs.out⟩)
theorem s6{w:World}{x:Ev}(hs:St H w σ)(hg:yo x)(hr:pa x):aaA 172 [x.agg] w fun v w'=>v= .bool true∧St H w' σ:=by
 have h1:=hg.seq;have h2:=hg.off;have h3:=hr.tol;refine Cl.o func172 ntmps172 ag1 ?_;refine .ae (.bx hs fun b1 w hs=>?_);refine .zn zg (.ae (.z (zfa eX) (.y hs (zls [_,_,_,_,_,_,_] iP bF) (.o (.alloc hs kj rfl fun b3 w hs=>?_)))));refine .o (.aD (vs:=[_,_,_,_,_,_,_]) hs rfl rfl bF fun w hs=>?_);refine .nil (.seq (.draw mix rfl hs fun w hs=>?_));refine .zw 0 rfl (zfa fi) ?_;refine .y 1 rfl hs ai ?_;refine .z 2 rfl (zfa dm) ?_;refine .ys 3 rfl hs [_,_] kZ fq ?_;refine .E 4 hs ?_;refine .call call232 rfl (l9 hs aj h1) ?_;rintro _ w ⟨rfl,hs⟩;refine .go (.zw 5 rfl gO ?_);rw [decide_eq_true (by have:=hr.src;omega)];refine .zw 6 rfl zm ?_;refine .z 7 rfl (zfa dW) ?_;refine .y 8 rfl hs ai ?_;refine .z 9 rfl (zfa eT) ?_;refine .y 10 rfl hs ai ?_;refine .z 11 rfl gO ?_;rw [decide_eq_true hr.day];refine .zw 12 rfl zpT ?_;refine .z 13 rfl zm ?_;refine .z 14 rfl (zfa gg) ?_;refine .y 15 rfl hs ai ?_;refine .E 16 hs ?_;refine .call k7 rfl (dx hs hr.st) ?_;rintro _ w ⟨rfl,hs⟩;refine .go (.zw 17 rfl zpT ?_);refine .z 18 rfl zm ?_;refine .z 19 rfl (zfa fZ) ?_;refine .y 20 rfl hs ai ?_;refine .E 21 hs ?_;refine .call k7 rfl (dx hs hr.wa) ?_;rintro _ w ⟨rfl,hs⟩;refine .go (.zw 22 rfl zpT ?_);refine .z 23 rfl zm ?_;refine .z 24 rfl (zfa cR) ?_;refine .y 25 rfl hs ai ?_;refine .E 26 hs ?_;refine .call k7 rfl (dx hs hr.tol) ?_;rintro _ w ⟨rfl,hs⟩;refine .go (.zw 27 rfl zpT ?_);refine .z 28 rfl zm ?_;refine .z 29 rfl (zfa eE) ?_;refine .y 30 rfl hs ai ?_;refine .z 31 rfl (zfa cR) ?_;refine .y 32 rfl hs ai ?_;refine .z 33 rfl iw ?_;refine .E 34 hs ?_;refine .call k7 rfl (dx hs hr.val) ?_;rintro _ w ⟨rfl,hs⟩;refine .go (.zw 35 rfl zpT ?_);refine .z 36 rfl zm ?_;refine .z 37 rfl (zfa eD) ?_;refine .y 38 rfl hs ai ?_;refine .E 39 hs ?_;refine .call k7 rfl (dx hs hr.tape) ?_;rintro _ w ⟨rfl,hs⟩;refine .go (.zw 40 rfl zpT ?_);refine .z 41 rfl zg ?_;refine .D hs ?_;exact .ret (Fin.bp results172 rfl ⟨rfl,hs.out⟩)
theorem s7{w:World}{x:Ev}(hs:St H w σ)(hg:yo x)(hr:C3 x):aaA 173 [x.agg] w fun v w'=>v= .bool true∧St H w' σ:=by
 have h1:=hg.seq;have h2:=hg.off;have h3:=hr.fr;have h4:=hr.to;have h5:=hr.lo;have h6:=hr.hi;refine Cl.o func173 ntmps173 ag1 ?_;refine .ae (.bx hs fun b1 w hs=>?_);refine .zn zg (.ae (.z (zfa fN) (.y hs (zls [_,_,_,_,_,_] wD dO) (.o (.alloc hs rR rfl fun b3 w hs=>?_)))));refine .o (.aD (vs:=[_,_,_,_,_,_]) hs rfl rfl dO fun w hs=>?_);refine .nil (.seq (.draw mix rfl hs fun w hs=>?_));refine .zw 0 rfl (zfa gu) ?_;refine .y 1 rfl hs ai ?_;refine .z 2 rfl (zfa dm) ?_;refine .ys 3 rfl hs [_,_] kZ fq ?_;refine .E 4 hs ?_;refine .call call232 rfl (l9 hs aj h1) ?_;rintro _ w ⟨rfl,hs⟩;refine .go (.zw 5 rfl gO ?_);rw [decide_eq_true (by have:=hr.src;omega)];refine .zw 6 rfl zm ?_;refine .z 7 rfl (zfa jT) ?_;refine .y 8 rfl hs ai ?_;refine .E 9 hs ?_;refine .call k7 rfl (dx hs hr.tape) ?_;rintro _ w ⟨rfl,hs⟩;refine .go (.zw 10 rfl zpT ?_);refine .z 11 rfl zm ?_;refine .z 12 rfl (zfa iC) ?_;refine .y 13 rfl hs ai ?_;refine .E 14 hs ?_;refine .call call95 rfl (jg hs aj) ?_;rintro _ w ⟨rfl,hs⟩;refine .go (.zw 15 rfl zpT ?_);refine .z 16 rfl zm ?_;refine .z 17 rfl (zfa gq) ?_;refine .y 18 rfl hs ai ?_;refine .E 19 hs ?_;refine .call call95 rfl (jg hs aj) ?_;rintro _ w ⟨rfl,hs⟩;refine .go (.zw 20 rfl zpT ?_);refine .z 21 rfl zm ?_;refine .z 22 rfl (zfa iC) ?_;refine .y 23 rfl hs ai ?_;refine .z 24 rfl (zfa gq) ?_;refine .y 25 rfl hs ai ?_;refine .z 26 rfl rl ?_;rw [decide_eq_true h3.2];refine .zw 27 rfl zpT ?_;refine .z 28 rfl zm ?_;refine .z 29 rfl (zfa iB) ?_;refine .y 30 rfl hs ai ?_;refine .z 31 rfl Bd ?_;rw [decide_eq_true h5.1];refine .zw 32 rfl zpT ?_;refine .z 33 rfl zm ?_;refine .z 34 rfl (zfa iB) ?_;refine .y 35 rfl hs ai ?_;refine .z 36 rfl (zfa gj) ?_;refine .y 37 rfl hs ai ?_;refine .z 38 rfl rl ?_;rw [decide_eq_true h5.2];refine .zw 39 rfl zpT ?_;refine .z 40 rfl zm ?_;refine .z 41 rfl (zfa gj) ?_;refine .y 42 rfl hs ai ?_;refine .z 43 rfl rl ?_;rw [decide_eq_true h6];refine .zw 44 rfl zpT ?_;refine .z 45 rfl zg ?_;refine .D hs ?_;exact .ret (Fin.bp results173 rfl ⟨rfl,hs.out⟩)
set_option maxHeartbeats 8000000 in
theorem AN{w:World}{x:Ev}(hs:St H w σ)(hx:EvM H x)(hg:yo x):aaA 93 [x.agg] w fun v w'=>v= .tuple #[x.agg,.bool true]∧∃H1,HLe H H1∧St H1 w' σ:=by
 have hk:=hg.kind;refine Cl.o func93 ntmps93 ag1 ?_;refine .ae (.bx hs fun b1 w hs=>?_);refine .o (.alloc hs dA rfl fun b2 w hs=>?_);refine .zn zg (.ae (.z (zfa dm) (.y hs (zls [_,_] kZ fq) (.z (zfa dc) (.y hs (zld ai) (.z (zfa jM) (.y hs (zld ai) (.z (zfa gJ) (.y hs (zld ai) (.z (zfa eT) (.y hs (zld ai) (.z (zbd [I x.off,I x.seq,I x.kind,I x.ship,I x.day,I x.known,I 0,I 0,I 0,I 0,I 0,I 0,.slice none 0 0,.slice none 0 0,I 0,I 0,I 0,I 0,I 0,I 0,I 0,I 0,I 0,I 0,I 0,I 0,I 0,I 0,I 0,I 0,I 0] gC rfl au) (.o (.alloc hs dA rfl fun b4 w hs=>?_))))))))))))));refine .o (.iK (vs:=[_,_,_,_,_,_,_,_,_,_,_,_,_,_,_,_,_,_,_,_,_,_,_,_,_,_,_,_,_,_,_]) hs rfl rfl aH fun w hs=>?_);refine .nil (.ae (.z (zfa gJ) (.y hs (zld ai) (.o (.call call141 rfl (pB hs hg.ship) ?_)))));rintro _ w ⟨rfl,hs⟩;refine .z zm (.T (.z (zfa eT) (.T (.y hs (zld ai) (.T (.o (.call call95 rfl (jg hs hg.day) ?_)))))));rintro _ w ⟨rfl,hs⟩;refine .z zpT (.zn zg (.ae (.z (zfa fB) (.y hs (zld ai) (.o (.call k7 rfl (FL hs) ?_))))));rintro _ w ⟨pr,rfl,Zr,hs⟩;refine .zn zg (.seq (.ae (.z (zfa dc) (.y hs (zld ai) (.nil (.block (.ae (.z gO (.zn zg (.bX rfl (fun wg=>?_) (fun wg=>?_)))))))))))
 ·refine .seq (.draw mix rfl hs fun w hs=>?_);refine .zw 0 rfl (zfa ep) ?_;refine .y 1 rfl hs ai ?_;refine .z 2 rfl (zfa dk) ?_;refine .ys 3 rfl hs [_,_,_,_,_,_] bu aI ?_;refine .z 4 rfl (zfa ep) ?_;refine .E 5 hs ?_;refine .store hs rfl rfl ak ?_;intro w hs;refine .go (.zw 6 rfl (zfa dk) (.E 7 hs ?_));refine .aD (vs:=[_,_,_,_,_,_]) hs rfl rfl aI ?_;intro w hs;refine .go (.D hs (.seq (.draw mix rfl hs fun w hs=>?_)));refine .ys 0 rfl hs [_,_,_,_,_,_,_,_,_,_,_,_,_,_,_,_,_,_,_,_,_,_,_,_,_,_,_,_,_,_,_] cP aH ?_;refine .z 1 rfl zm ?_;refine .z 2 rfl zm ?_;refine .z 3 rfl (zfa ep) ?_;refine .y 4 rfl hs ai ?_;refine .E 5 hs ?_;have hq:=hg.build dQ;refine .call k7 rfl (dx hs hq.num) ?_;rintro _ w ⟨rfl,hs⟩;refine .go (.zw 6 rfl zpT ?_);refine .z 7 rfl zm ?_;refine .ys 8 rfl hs [_,_,_,_,_,_,_,_,_,_,_,_,_,_,_,_,_,_,_,_,_,_,_,_,_,_,_,_,_,_,_] cP aH ?_;refine .E 9 hs ?_;refine .call call171 rfl (qp hs hx hg hq.new) ?_;rintro _ w ⟨rfl,H1,aq,hs⟩;refine .go (.zw 10 rfl zpT (.E 11 hs ?_));refine .iK (vs:=[_,_,_,_,_,_,_,_,_,_,_,_,_,_,_,_,_,_,_,_,_,_,_,_,_,_,_,_,_,_,_]) hs rfl rfl aH ?_;intro w hs;refine .go (.zw 12 rfl zg ?_);refine .D hs ?_;exact .ret (rB (rT ((Fin.iz [] [] hs fun w hs=>⟨_,results2 results93 (cO (vs:=[_,_,_,_,_,_,_,_,_,_,_,_,_,_,_,_,_,_,_,_,_,_,_,_,_,_,_,_,_,_,_]) hs rfl cP aH) rfl,by simp [Ev.agg,hq.room,hq.opn,hq.crew,hq.rd,hq.cm,hg.oo,hg.os,rd0,cm0],H1,aq,hs.out⟩))))
 ·refine .ae (.z gO (.zn zg (.bX rfl (fun K8=>?_) (fun K8=>?_))))
  ·refine .seq (.draw mix rfl hs fun w hs=>?_);refine .zw 0 rfl (zfa ep) ?_;refine .y 1 rfl hs ai ?_;refine .z 2 rfl (zfa iJ) ?_;refine .y 3 rfl hs ai ?_;refine .z 4 rfl (zfa iI) ?_;refine .y 5 rfl hs ai ?_;refine .z 6 rfl (zfa dk) ?_;refine .ys 7 rfl hs [_,_,_,_,_,_] bu aI ?_;refine .z 8 rfl (zfa ep) ?_;refine .E 9 hs ?_;refine .store hs rfl rfl ak ?_;intro w hs;refine .go (.zw 10 rfl (zfa iJ) (.E 11 hs ?_));refine .store hs rfl rfl ak ?_;intro w hs;refine .go (.zw 12 rfl (zfa iI) (.E 13 hs ?_));refine .store hs rfl rfl ak ?_;intro w hs;refine .go (.zw 14 rfl (zfa dk) (.E 15 hs ?_));refine .aD (vs:=[_,_,_,_,_,_]) hs rfl rfl aI ?_;intro w hs;refine .go (.D hs (.seq (.draw mix rfl hs fun w hs=>?_)));refine .ys 0 rfl hs [_,_,_,_,_,_,_,_,_,_,_,_,_,_,_,_,_,_,_,_,_,_,_,_,_,_,_,_,_,_,_] cP aH ?_;refine .z 1 rfl zm ?_;refine .z 2 rfl zm ?_;refine .z 3 rfl (zfa ep) ?_;refine .y 4 rfl hs ai ?_;refine .E 5 hs ?_;have hq:=hg.O3 dQ;refine .call k7 rfl (dx hs hq.num) ?_;rintro _ w ⟨rfl,hs⟩;refine .go (.zw 6 rfl zpT ?_);refine .z 7 rfl zm ?_;refine .z 8 rfl (zfa iJ) ?_;refine .y 9 rfl hs ai ?_;refine .E 10 hs ?_;refine .call k7 rfl (dx hs hq.opn) ?_;rintro _ w ⟨rfl,hs⟩;refine .go (.zw 11 rfl zpT ?_);refine .z 12 rfl zm ?_;refine .z 13 rfl (zfa iI) ?_;refine .y 14 rfl hs ai ?_;refine .E 15 hs ?_;refine .call k7 rfl (dx hs hq.crew) ?_;rintro _ w ⟨rfl,hs⟩;refine .go (.zw 16 rfl zpT ?_);refine .z 17 rfl zm ?_;refine .ys 18 rfl hs [_,_,_,_,_,_,_,_,_,_,_,_,_,_,_,_,_,_,_,_,_,_,_,_,_,_,_,_,_,_,_] cP aH ?_;refine .E 19 hs ?_;refine .call call171 rfl (qp hs hx hg hq.new) ?_;rintro _ w ⟨rfl,H1,aq,hs⟩;refine .go (.zw 20 rfl zpT (.E 21 hs ?_));refine .iK (vs:=[_,_,_,_,_,_,_,_,_,_,_,_,_,_,_,_,_,_,_,_,_,_,_,_,_,_,_,_,_,_,_]) hs rfl rfl aH ?_;intro w hs;refine .go (.zw 22 rfl zg ?_);refine .D hs ?_;exact .ret (rB (rT ((Fin.iz [] [] hs fun w hs=>⟨_,results2 results93 (cO (vs:=[_,_,_,_,_,_,_,_,_,_,_,_,_,_,_,_,_,_,_,_,_,_,_,_,_,_,_,_,_,_,_]) hs rfl cP aH) rfl,by simp [Ev.agg,hq.room,hq.rd,hq.cm,hg.oo,hg.os,rd0,cm0],H1,aq,hs.out⟩))))
  ·refine .ae (.z gO ?_);rw [decide_eq_false aj];refine .zn zg (.cF (.seq (.ae (.z gO ?_))));rw [decide_eq_false aj];refine .zn zg (.cF (.ae (.z gO ?_)));rw [decide_eq_false aj];refine .zn zg (.cF (.region (.z gO ?_)));rw [decide_eq_false aj];refine .zn zg (nT (.cF (.ae (.z gO ?_))));rw [decide_eq_false aj];refine .zn zg (.cF (.ae (.z gO (.zn zg (.bX rfl (fun Ub=>?_) (fun Ub=>?_))))))
   ·refine .seq (.draw mix rfl hs fun w hs=>?_);refine .zw 0 rfl (zfa fB) ?_;refine .y 1 rfl hs ai ?_;refine .z 2 rfl (zfa eX) ?_;refine .ys 3 rfl hs [_,_,_,_,_,_,_] iP bF ?_;refine .z 4 rfl (zfa fB) ?_;refine .E 5 hs ?_;refine .store hs rfl rfl ak ?_;intro w hs;refine .go (.zw 6 rfl (zfa eX) (.E 7 hs ?_));refine .aD (vs:=[_,_,_,_,_,_,_]) hs rfl rfl bF ?_;intro w hs;refine .go (.D hs (.seq (.draw mix rfl hs fun w hs=>?_)));have hq:=hg.read dQ;obtain rfl:=Zr hq.room;refine .ys 0 rfl hs [_,_,_,_,_,_,_,_,_,_,_,_,_,_,_,_,_,_,_,_,_,_,_,_,_,_,_,_,_,_,_] cP aH ?_;refine .z 1 rfl zm ?_;refine .z 2 rfl zm ?_;refine .z 3 rfl zm ?_;refine .z 4 rfl zpT ?_;refine .z 5 rfl zm ?_;refine .ys 6 rfl hs [_,_,_,_,_,_,_,_,_,_,_,_,_,_,_,_,_,_,_,_,_,_,_,_,_,_,_,_,_,_,_] cP aH ?_;refine .E 7 hs ?_;refine .call call172 rfl (s6 hs hg hq) ?_;rintro _ w ⟨rfl,hs⟩;refine .go (.zw 8 rfl zpT (.E 9 hs ?_));refine .iK (vs:=[_,_,_,_,_,_,_,_,_,_,_,_,_,_,_,_,_,_,_,_,_,_,_,_,_,_,_,_,_,_,_]) hs rfl rfl aH ?_;intro w hs;refine .go (.zw 10 rfl zg ?_);refine .D hs ?_;exact .ret (rB (rT ((Fin.iz [] [] hs fun w hs=>⟨_,results2 results93 (cO (vs:=[_,_,_,_,_,_,_,_,_,_,_,_,_,_,_,_,_,_,_,_,_,_,_,_,_,_,_,_,_,_,_]) hs rfl cP aH) rfl,by simp [Ev.agg,hq.num,hq.opn,hq.crew,hq.sp,hq.ast,hq.cst,hq.awa,hq.cwa,hq.cm,hg.oo,hg.os,sp0,cm0],H,HLe.refl _,hs.out⟩))))
   ·refine .ae (.z gO ?_);rw [decide_eq_true aj];refine .zn zg (.cT (.ae (.z (zfa fN) (.y hs (zls [_,_,_,_,_,_] wD dO) (.z (zfa fN) (.o (.aD (vs:=[_,_,_,_,_,_]) hs rfl rfl dO fun w hs=>?_)))))));refine .nil (.seq (.draw mix rfl hs fun w hs=>?_));refine .ys 0 rfl hs [_,_,_,_,_,_,_,_,_,_,_,_,_,_,_,_,_,_,_,_,_,_,_,_,_,_,_,_,_,_,_] cP aH ?_;refine .z 1 rfl zm ?_;refine .z 2 rfl zm ?_;refine .ys 3 rfl hs [_,_,_,_,_,_,_,_,_,_,_,_,_,_,_,_,_,_,_,_,_,_,_,_,_,_,_,_,_,_,_] cP aH ?_;refine .E 4 hs ?_;have hq:=hg.tape aj;refine .call call173 rfl (s7 hs hg hq) ?_;rintro _ w ⟨rfl,hs⟩;refine .go (.zw 5 rfl zpT (.E 6 hs ?_));refine .iK (vs:=[_,_,_,_,_,_,_,_,_,_,_,_,_,_,_,_,_,_,_,_,_,_,_,_,_,_,_,_,_,_,_]) hs rfl rfl aH ?_;intro w hs;refine .go (.zw 7 rfl zg ?_);refine .D hs ?_;exact .ret (rB (rT ((Fin.iz [] [] hs fun w hs=>⟨_,results2 results93 (cO (vs:=[_,_,_,_,_,_,_,_,_,_,_,_,_,_,_,_,_,_,_,_,_,_,_,_,_,_,_,_,_,_,_]) hs rfl cP aH) rfl,by simp [Ev.agg,hq.room,hq.num,hq.opn,hq.crew,hq.sp,hq.ast,hq.cst,hq.awa,hq.cwa,hq.rd,hg.oo,hg.os,sp0,rd0],H,HLe.refl _,hs.out⟩))))
set_option maxHeartbeats 4000000 in
theorem rD{w:World}{x:Ev}(hs:St H w σ)(hx:EvM H x)(hg:yo x):aaA 47 [x.agg] w fun v w'=>v=I 0∧∃H1,HLe H H1∧St H1 w' σ:=by
 have h1:=hg.off;refine Cl.o func47 ntmps47 ag1 ?_;refine .ae (.bx hs fun b1 w hs=>?_);refine .zn zg (.ae (.y hs (zls [_,_,_,_,_,_,_,_,_,_,_,_,_,_,_,_,_,_,_,_,_,_,_,_,_,_,_,_,_,_,_] cP aH) (.o (.call call93 rfl (AN hs hx hg) ?_))));rintro _ w ⟨rfl,H1,aq,hs⟩;refine .z zm (.z zex (.z zex (.o (.alloc hs dA rfl fun b3 w hs=>?_))));refine .o (.iK (vs:=[_,_,_,_,_,_,_,_,_,_,_,_,_,_,_,_,_,_,_,_,_,_,_,_,_,_,_,_,_,_,_]) hs rfl rfl aH fun w hs=>?_);refine .zn zg (.seq (.ae (.z zm (.z im (.z zm (.T (.z (zfa dm) (.T (.y hs (zls [_,_] kZ fq) (.T (.o (.call call94 rfl (oA hs aj hg.seq) ?_))))))))))));rintro _ w ⟨rfl,hs⟩;refine .T (.z im (.z zpF (.z zm (.T (.z (zfa jM) (.T (.y hs (zld ai) (.T (.o (.call call95 rfl (jg hs hg.known) ?_))))))))));rintro _ w ⟨rfl,hs⟩;refine .T (.z im (.z zpF (.z zm (.T (.y hs (zls [_,_,_,_,_,_,_,_,_,_,_,_,_,_,_,_,_,_,_,_,_,_,_,_,_,_,_,_,_,_,_] cP aH) (.T (.y hs (zls [_,_,_,_,_,_,_,_,_,_,_,_,_,_,_,_,_,_,_,_,_,_,_,_,_,_,_,_,_,_,_] cP aH) (.T (.o (.call call96 rfl (s5 hs (hx.mono aq)) ?_))))))))));rintro _ w ⟨rfl,hs⟩;exact .T (.z im (.zn zpF (.cF (.skip (nT (.ae (.zn zg (.ret (Fin.bp results47 rfl ⟨rfl,H1,aq,hs.out⟩)))))))))
set_option maxHeartbeats 2000000 in
theorem vV{w:World}{v:Value}{l:List Ev}(hs:St H w σ)(hr:REv H v l)(hl:L9 l):aaA 46 [v] w fun u w'=>u= .bool true∧St H w' σ:=by
 obtain ⟨a,c,rfl⟩:=hr.shape;have h1:=hl.len;have h2:=hl.bV;refine Cl.o func46 ntmps46 ag1 ?_;refine .ae (.zn zg (.ae (.zn zg (.seq (.ae (.z zm (.z (cJ aN) (.zn zm (.for (N:=l.length) (J:=fun k fr w=>fr=[(6,.slice a l.length c),(3,I (ob l k)),(0,.slice a l.length c)]∧St H w σ) aj ?_ ?_ ?_)))))))))
 ·exact .mk ⟨rfl,hs⟩
 ·rintro k fr w hk ⟨rfl,hs⟩;have hx:=gV (l:=l) (i:=k) hk;have hb:=Dz l k;refine .block (.ae (.ixX (enc:=Ev.c) hs hr.rs rfl rfl aN aH hx rfl ?_));intro jx o10 pR;refine .q hs (bD (vs:=(evG l k).c) rfl cP aH pR) (.o (.alloc hs dA rfl fun b5 w hs=>?_));refine .o (.iK (vs:=[_,_,_,_,_,_,_,_,_,_,_,_,_,_,_,_,_,_,_,_,_,_,_,_,_,_,_,_,_,_,_]) hs rfl rfl aH fun w hs=>?_);refine .nil (.ae (.z (zfa dc) (.y hs (zld ai) (.zn gO (.bX rfl (fun iW=>?_) (fun iW=>?_))))))
  ·exact .region (.z zm (.z cz (.zn zg (nB (nT (.mk ⟨by simp only [ob];rw [if_pos dQ],hs.out⟩))))))
  ·exact .skip (nB (nT (.mk ⟨by simp only [ob];rw [if_neg dQ],hs.out⟩)))
 ·rintro fr w ⟨rfl,hs⟩;refine nT (.ae (.z zm (.z (cJ aN) (.z rl ?_))));rw [decide_eq_true aj];refine .z zm (.T (.z zm (.T (.z rl ?_))));rw [decide_eq_true aj];exact .z zpT (.zn zg (.ret (Fin.bp results46 rfl ⟨rfl,hs.out⟩)))
set_option maxHeartbeats 4000000 in
theorem zj{w:World}{v:Value}{l:List Ev}(hs:St H w σ)(hr:REv H v l)(hl:L9 l):aaA 13 [v] w fun u w'=>u=I 0∧∃H1,HLe H H1∧St H1 w' σ:=by
 obtain ⟨a,c,rfl⟩:=hr.shape;have h1:=hl.len;refine Cl.o func13 ntmps13 ag1 ?_;refine .ae (.zn zg (.seq (.ae (.z zm (.z (cJ aN) (.z q5 ?_))))));rw [decide_eq_false aj];refine .z zm (.T (.z zm (.T (.o (.call call46 rfl (vV hs hr hl) ?_)))));rintro _ w ⟨rfl,hs⟩;refine .T (.z im (.zn zpF (.cF (.skip (nT (.seq (.ae (.z zm (.z (cJ aN) (.zn zm (.for (N:=l.length) (J:=fun k fr w=>∃H1,fr=[(13,.slice a l.length c),(0,.slice a l.length c)]∧HLe H H1∧St H1 w σ) aj ?_ ?_ ?_)))))))))))
 ·exact .mk ⟨H,rfl,HLe.refl _,hs⟩
 ·rintro k fr w hk ⟨H1,rfl,aq,hs⟩;have hx:=gV (l:=l) (i:=k) hk;have hm:=tg (l:=l) (i:=k) hk;refine .block (.ae (.z zm (.ixX (enc:=Ev.c) hs (hr.rs.mono aq) rfl rfl aN aH hx rfl ?_)));intro uT o18 kI;refine .q hs (bD (vs:=(evG l k).c) rfl cP aH kI) (.o (.alloc hs dA rfl fun b4 w hs=>?_));refine .z zg (.o (.iK (vs:=[_,_,_,_,_,_,_,_,_,_,_,_,_,_,_,_,_,_,_,_,_,_,_,_,_,_,_,_,_,_,_]) hs rfl rfl aH fun w hs=>?_));refine .nil (.seq (.draw mix rfl hs fun w hs=>?_));refine .zv 0 rfl hs (GP [_,_,_,_,_,_,_,_,_,_,_,_,_,_,_,_,_,_,_,_,_,_,_,_,_,_,_,_,_,_,_] cP aH) (.E 1 hs ?_);refine .call call47 rfl (rD (x:=evG l k) hs ((hr.all _ hm).mono aq) (hl.good _ hm)) ?_;rintro _ w ⟨rfl,H2,aO,hs⟩;refine .go (.zw 2 rfl gE ?_);rw [decide_eq_true rfl];refine .zw 3 rfl zm ?_;refine .z 4 rfl zm ?_;refine .z 5 rfl q5 ?_;refine .z 6 rfl zm ?_;refine .mW (t':=26) rfl (fun F9=>?_) (fun F9=>?_)
  ·refine .zw 7 rfl zm ?_;refine .z 8 rfl zm ?_;have KZ:0<k:=by omega
   have AP:=gV (l:=l) (i:=k - 1) aj;refine .zw 9 rfl iw ?_;rw [show ((k:Int) - 1)=((k - 1:Nat):Int) by omega];refine .ixX (enc:=Ev.c) (i:=10) hs rfl au (.some rfl rfl) (hr.rs.mono (aq.trans aO)) rfl rfl aN aH AP rfl ?_;intro LV o30 rH;refine .zw 11 rfl (zfa dm) (.r (i:=12) hs rfl au (.some rfl rfl) (bD (vs:=[I (evG l (k - 1)).off,I (evG l (k - 1)).seq]) rfl kZ fq (rH.sub 0 _)) ?_);refine .zw 13 rfl (zfa dm) ?_;refine .ys 14 rfl hs [_,_] kZ fq ?_;refine .E 15 hs ?_;refine .call call48 rfl (vW (a:=(evG l (k - 1)).off) (b:=(evG l (k - 1)).seq) (c:=(evG l k).off) (d:=(evG l k).seq) hs) ?_;rintro _ w ⟨rfl,H3,bP,hs⟩;have hcm:orL [Al (evG l (k - 1)).off (evG l k).off,Al (evG l (k - 1)).seq (evG l k).seq]= -1:=by
    rw [(hl.good _ (tg (l:=l) (i:=k - 1) aj)).off,(hl.good _ hm).off];exact IZ (by have:=hl.inc (k - 1) aj;rwa [show k - 1+1=k by omega] at this)
   rw [hcm];refine .go (.zw 16 rfl Bd ?_);rw [decide_eq_false e9];refine .zw 17 rfl zpT ?_;refine .z 18 rfl zpF ?_;refine .D hs ?_;exact (.cF (.skip (nB (nT (.mk ⟨_,rfl,by first|exact aq.trans (aO.trans bP)|exact aq.trans aO,hs.out⟩)))))
  ·refine .F 7 rfl (.F 8 rfl (.F 9 rfl (.F 10 rfl (.F 11 rfl (.F 12 rfl (.F 13 rfl (.F 14 rfl (.F 15 rfl (.F 16 rfl (.zw 17 rfl zpF ?_))))))))));refine .z 18 rfl zpF ?_;refine .D hs ?_;exact (.cF (.skip (nB (nT (.mk ⟨_,rfl,by first|exact aq.trans (aO.trans bP)|exact aq.trans aO,hs.out⟩)))))
 ·rintro fr w ⟨H1,rfl,aq,hs⟩;exact nT (.ae (.zn zg (.ret (Fin.bp results13 rfl ⟨rfl,H1,aq,hs.out⟩))))
theorem mQ{w:World}{v:Value}{l:List Ev}{n:Int}{ds:List Int}(hs:St H w σ)(hr:REv H v l)(hl:L9 l)(hn:1≤n∧n≤999)(hd:RI H vd ds)(hds:∀d∈ds,0≤d∧d≤100000):
  aaA 74 [v,I n,vd] w fun u w'=>u=I 0∧∃H1,HLe H H1∧St H1 w' σ:=by
 obtain ⟨a,c,rfl⟩:=hr.shape;obtain ⟨ad,cd,rfl⟩:=RI.shape hd;refine Cl.o func74 ntmps74 ag3 ?_;refine .ae (.zn zg (.seq (.ae (.z zm (.o (.call call13 rfl (zj hs hr hl) ?_))))));rintro _ w ⟨rfl,H1,aq,hs⟩;refine .zn zg (.ae (.z zm (.z gE ?_)));rw [decide_eq_true rfl];refine .nil (.cF (.skip (nT (.seq (.ae (.z zm (.o (.call call141 rfl (pB hs hn) ?_))))))));rintro _ w ⟨rfl,hs⟩;refine .zn im (.cF (.skip (nT (.seq (.ae (.z zm (.z (cJ af) (.zn zm (.for (N:=ds.length) (J:=fun k fr w=>fr=[(18,.slice ad ds.length cd)]∧St H1 w σ) (by have:=(RS.len hd).2.2;omega) ?_ ?_ ?_)))))))))
 ·exact .mk ⟨rfl,hs⟩
 ·rintro k fr w hk ⟨rfl,hs⟩;have hx:=bG (l:=ds) (i:=k) hk;refine .block (.ae (.ixX (enc:=fun x=>[I x]) hs (hd.mono aq) rfl rfl af ak hx rfl ?_));intro RM o22 jv;replace jv:=bE.one jv;refine .y hs (zld ai) (.zn zg (.ae (.z zm (.o (.call call95 rfl (jg hs (hds _ (List.mem_of_getElem? hx))) ?_)))));rintro _ w ⟨rfl,hs⟩;exact .zn im (.cF (.skip (nB (nT (.mk ⟨rfl,hs.out⟩)))))
 ·rintro fr w ⟨rfl,hs⟩;exact nT (.ae (.zn zg (.ret (Fin.bp results74 rfl ⟨rfl,H1,aq,hs.out⟩))))
theorem Kz{b:Int}(w:World):(Instr.checkKey true 10000 74 (.agg #[I a,I b])).run Tryz.prog w= .ok () w:=by
 have h0:(part 3 #[I a,I b] 0).run Tryz.prog w= .ok (I a) w:=GF ai rfl;have h1:(part 3 #[I a,I b] 1).run Tryz.prog w= .ok (I b) w:=GF ai rfl;unfold Instr.checkKey;simp [Result.andThen,h0,h1,tO aF]
set_option maxHeartbeats 4000000 in
theorem nC{w:World}{v:Value}{l:List Ev}(hs:St H w σ)(hr:REv H v l)(hl:L9 l):aaA 144 [v,I known] w fun u w'=>∃H1 a c,HLe H H1∧u= .slice a l.length c∧RBo H1 u (Qj l known)∧St H1 w' σ:=by
 obtain ⟨a,c,rfl⟩:=hr.shape;have h1:=hl.len;refine Cl.o func144 ntmps144 ag2 ?_;refine .ae (.zn zg (.ae (.z zm (.z (cJ aN) (.o (.makeSlice (bytes:=1) hs rfl rfl dH typeInfo4 rfl fQ OI rfl e9 aj aj fun EJ w hs=>?_))))));refine .zn zg (.ae (.o (.makeMap hs fun rP w hs=>?_)));refine .zn zg (.seq (.ae (.z zm (.z (cJ aN) (.z iw (.zn zg (.block ?_)))))));rw [show ((l.length:Int)).toNat=l.length by omega] at hs ⊢;rw [show (List.replicate l.length (Value.bool false).cells.toList).flatten=Bz (E5 l known l.length) by rw [MC];simp [Bz,Value.cells]] at hs;refine .loop (fun p:Int=>⟨51,[],[(7,I p),(6,.map (some rP)),(5,.slice (some ⟨EJ,0,none⟩) l.length l.length),(1,I known),(0,.slice a l.length c)]⟩)
  (fun p w=>(-1≤p∧p<l.length)∧St H w (.obj rP (.map #[] 0):: .blk EJ (Bz (E5 l known (p+1).toNat))::σ)) (fun p=>(p+1).toNat) ((l.length:Int) - 1) bk
  ⟨aj,by rw [show ((l.length:Int) - 1+1).toNat=l.length by omega];exact hs.sb⟩ ?_
 rintro p w ⟨hp,hs⟩;refine .seq (.ae (.z zm (.zn Bd (.bX rfl (fun kV=>?_) (fun kV=>?_)))))
 ·refine .skip (nT (.seq (.block (.ae ?_))));obtain ⟨k,rfl⟩:∃k:Nat,p=(k:Int):=⟨p.toNat,aj⟩;have hk:k<l.length:=by omega
  have hx:=gV (l:=l) (i:=k) hk;have hg:=hl.good _ (tg (l:=l) (i:=k) hk);have ZH:=hg.kind;rw [show ((k:Int)+1).toNat=k+1 by omega] at hs;refine .z zm (.z zm (.ixX (enc:=Ev.c) hs hr.rs rfl rfl aN aH hx rfl ?_));intro RM o22 jv;refine .q hs (bD (vs:=(evG l k).c) rfl cP aH jv) (.o (.alloc hs dA rfl fun b8 w hs=>?_));refine .o (.iK (vs:=[_,_,_,_,_,_,_,_,_,_,_,_,_,_,_,_,_,_,_,_,_,_,_,_,_,_,_,_,_,_,_]) hs rfl rfl aH fun w hs=>?_);refine .nil (.ae (.z zm (.z zm (.z (zfa jM) (.y hs (zld ai) (.z zm (.z rl (.z zm (.mW (t':=30) rfl (fun Ro=>?_) (fun Ro=>?_))))))))))
  ·refine .T (.z zm (.T (.z (zfa dm) (.T (.y hs (zls [_,_] kZ fq) (.T (.q hs (J6 (c:=0) rfl rfl (by repeat (first|exact .here|refine .there ?_)) runUnderlying307 Kz uR OI) ?_)))))));refine .T (.z im (.z zpT ?_));first|(refine .ixw hs dH fQ ?_;intro OB o37 wb)|refine .z (zix dH fQ) ?_
   refine .o (.store (c':=Bz (E5 l known k)) hs rfl rfl fQ ?_ dr (P1 (by rw [jZ];exact hk)) (by rw [PZ,←DB hk];congr 2;first|(exact (decide_eq_true dQ).symm)|(exact (decide_eq_false dQ).symm)|simp_all));intro w hs;refine .nil (.ae (.z zm (.z zm ?_)));first|(refine .ixw hs dH fQ ?_;intro UI o40 vZ)|refine .z (zix dH fQ) ?_
   refine .q hs (fJ rfl pG (hv:=P0 (GA hk))) (.z zm (.bif (t':=42) rfl (fun F3=>?_) (fun F3=>?_)))
   ·refine .T (.z (zfa dc) (.T (.y hs (zld ai) (.T (.z gO ?_)))));rw [decide_eq_false aj];exact .zn zpT (.cF (.skip (nB (nT (.region (.z zm (.z iw (.zn zg (nT ⟨(k:Int) - 1,bk,⟨aj,by rw [show ((k:Int) - 1+1).toNat=k by omega];exact hs.sb⟩,aj⟩)))))))))
   ·exact .Fs 3 4 true (.zn zpF (.cF (.skip (nB (nT (.region (.z zm (.z iw (.zn zg (nT ⟨(k:Int) - 1,bk,⟨aj,by rw [show ((k:Int) - 1+1).toNat=k by omega];exact hs.sb⟩,aj⟩))))))))))
  ·refine .Fs 5 6 true (.z zpF ?_);first|(refine .ixw hs dH fQ ?_;intro OB o37 wb)|refine .z (zix dH fQ) ?_
   refine .o (.store (c':=Bz (E5 l known k)) hs rfl rfl fQ ?_ dr (P1 (by rw [jZ];exact hk)) (by rw [PZ,←DB hk];congr 2;first|(exact (decide_eq_true dQ).symm)|(exact (decide_eq_false dQ).symm)|simp_all));intro w hs;refine .nil (.ae (.z zm (.z zm ?_)));first|(refine .ixw hs dH fQ ?_;intro UI o40 vZ)|refine .z (zix dH fQ) ?_
   refine .q hs (fJ rfl pG (hv:=P0 (GA hk))) (.z zm (.bif (t':=42) rfl (fun F3=>?_) (fun F3=>?_)))
   ·refine .T (.z (zfa dc) (.T (.y hs (zld ai) (.T (.z gO ?_)))));rw [decide_eq_false aj];exact .zn zpT (.cF (.skip (nB (nT (.region (.z zm (.z iw (.zn zg (nT ⟨(k:Int) - 1,bk,⟨aj,by rw [show ((k:Int) - 1+1).toNat=k by omega];exact hs.sb⟩,aj⟩)))))))))
   ·exact .Fs 3 4 true (.zn zpF (.cF (.skip (nB (nT (.region (.z zm (.z iw (.zn zg (nT ⟨(k:Int) - 1,bk,⟨aj,by rw [show ((k:Int) - 1+1).toNat=k by omega];exact hs.sb⟩,aj⟩))))))))))
 ·refine .exit (xT (xT (xB (nT (.ae (.z zm (.zn zg (.ret (Fin.bp results144 rfl ?_)))))))));rw [show (p+1).toNat=0 by omega,JL,←Mb] at hs;obtain ⟨H1,aq,hR,hs⟩:=bM.bQ (m:=1) (cs:=(Qj l known).map fun b=>[Value.bool b]) (bM.full (len:=l.length) (by rw [Mb];simp [Bz,sG])) (UR _) aj (by simp [sG];omega) hs dr;exact ⟨H1,_,_,aq,rfl,hR,hs.out⟩
set_option maxHeartbeats 2000000 in
theorem sZ{w:World}{s:Spc}{vst vwa:Value}(hs:St H w σ)(h1:RI H vst s.st)(h2:RI H vwa s.wa)(GZ:s.st.length≤1000)(NR:s.wa.length≤1000):
  aaA 283 [.agg #[I s.id,I s.src,vst,vwa,I s.al,I s.up]] w fun u w'=>∃H1 a1 c1 a2 c2,HLe H H1∧u= .agg #[I s.id,I s.src,.slice a1 s.st.length c1,.slice a2 s.wa.length c2,I s.al,I s.up]∧RI H1 (.slice a1 s.st.length c1) s.st∧RI H1 (.slice a2 s.wa.length c2) s.wa∧St H1 w' σ:=by
 obtain ⟨ast,cst,rfl⟩:=RI.shape h1;obtain ⟨awa,cwa,rfl⟩:=RI.shape h2;refine Cl.o func283 ntmps283 ag1 ?_;refine .ae (.bx hs fun b1 w hs=>?_);refine .o (.alloc hs i6 rfl fun b2 w hs=>?_);refine .nil (.seq (.draw mix rfl hs fun w hs=>?_));refine .zw 0 rfl (zfa bw) ?_;refine .y 1 rfl hs an ?_;refine .z 3 rfl (zfa bg) ?_;refine .y 4 rfl hs an ?_;refine .E 2 hs ?_;refine .call call210 rfl (jQ hs h1 aj) ?_;rintro v5 w ⟨e5,IP,hs⟩;obtain ⟨H1,aq,PH,hs⟩:=bM.ck IP aj hs .here;obtain ⟨a1,c1,rfl⟩:=RI.shape PH;refine .go (.zw 6 rfl (zfa bw) (.E 5 hs ?_));refine .call call210 rfl (jQ hs (h2.mono aq) aj) ?_;rintro v8 w ⟨e8,hO8,hs⟩;obtain ⟨H2,aO,PG,hs⟩:=bM.ck hO8 aj hs .here;obtain ⟨a2,c2,rfl⟩:=RI.shape PG;refine .go (.E 7 hs ?_);refine .store hs rfl rfl aJ ?_;intro w hs;refine .go (.zw 8 rfl (zfa bg) (.E 9 hs ?_));refine .store hs rfl rfl aJ ?_;intro w hs;refine .go (.D hs (.ae (.y hs (zls [_,_,_,_,_,_] bu aI) (.o (.aD (vs:=[_,_,_,_,_,_]) hs rfl rfl aI fun w hs=>?_)))));exact .nil (.ret (Fin.iz [] [] hs fun w hs=>⟨_,results1 results283 (cO (vs:=[_,_,_,_,_,_]) hs rfl bu aI),H2,a1,c1,a2,c2,aq.trans aO,rfl,RI.mono PH aO,PG,hs.out⟩))
set_option maxHeartbeats 2000000 in
theorem pA{w:World}{x:Ev}{n:Int}{a c cmp:Value}{cs:List Cmp}(hs:St H w σ)(hm:Mem σ (.blk b (shC n fl s a b' c d vc th cmp tap dn vd)))(hx:EvM H x)(hn:Jb x)(hc:RCm H cmp cs)(hl:cs.length≤100):
  aaA 257 [Pt b,x.agg] w fun u w'=>∃H1 a1 c1 a2 c2 a3 c3,HLe H H1∧u= .agg #[I x.sp.id,I x.sp.src,.slice a1 x.sp.st.length c1,.slice a2 x.sp.wa.length c2,I x.sp.al,I x.sp.up,.slice none 0 0,.slice a3 cs.length c3]∧
   SvM H1 ⟨x.sp,[],cs⟩ (.slice a1 x.sp.st.length c1) (.slice a2 x.sp.wa.length c2) (.slice none 0 0) (.slice a3 cs.length c3)∧St H1 w' σ:=by
 obtain ⟨acm,ccm,rfl⟩:=RCm.shape hc;have h1:=hn.ok.st.many;have h2:=hn.ok.wa.many;refine Cl.o func257 ntmps257 ag2 ?_;refine .ae (.bx hs fun b3 w hs=>?_);refine .o (.alloc hs kl rfl fun b4 w hs=>?_);refine .nil (.seq (.draw mix rfl hs fun w hs=>?_));refine .zw 0 rfl (zfa dk) ?_;refine .ys 1 rfl hs [_,_,_,_,_,_] bu aI ?_;refine .z 3 rfl zm ?_;refine .z 4 rfl znc ?_;refine .z 5 rfl (zfa jK) ?_;first|refine .load (i:=6) hs rfl au .none rfl rW ?_ (by repeat (first|exact .here|assumption|exact Mem.row aj aj|refine .there ?_|refine Mem.xJ ?_)) (by first|rfl|exact fV aj|exact nm dQ aj aj|exact kB nh)|refine .r (i:=6) hs rfl au .none (aP rfl rW dQ) ?_
 refine .ET 2 hs ?_;refine .call call283 rfl (sZ (s:=x.sp) hs hx.st hx.wa aj aj) ?_;rintro _ w ⟨H1,a1,c1,a2,c2,aq,rfl,PH,PG,hs⟩;refine .go (.ET 7 hs ?_);refine .call call284 rfl (xj hs (hc.mono aq) aj) ?_;rintro v12 w ⟨e12,Yn,hs⟩;obtain ⟨H2,aO,VA,hs⟩:=bM.bQ (m:=6) (cs:=cmc cs) Yn (xE _) aj (by rw [jw];omega) hs .here;obtain ⟨a3,c3,rfl⟩:=RCm.shape VA;refine .go (.zw 8 rfl (zbd [_,_,_,_,_,_,_,_] sy) (.ET 9 hs ?_));refine .aD (vs:=[_,_,_,_,_,_,_,_]) hs rfl rfl aM ?_;intro w hs;exact .go (.DT hs (.ret (Fin.iz [] [] hs fun w hs=>⟨_,results1 results257 (cO (vs:=[_,_,_,_,_,_,_,_]) hs rfl bA aM),H2,a1,c1,a2,c2,a3,c3,aq.trans aO,rfl,⟨RI.mono PH aO,RI.mono PG aO,RS.nil H2 7 none 0,VA⟩,hs.out⟩)))
set_option maxHeartbeats 2000000 in
theorem zi{w:World}{x:Ev}{n:Int}{a c cmp:Value}{cs:List Cmp}(hs:St H w (.blk b (shC n fl s a b' c d vc false cmp tap dn vd)::σ))(hx:EvM H x)(hn:Jb x)(hc:RCm H cmp cs)(hl:cs.length≤100):
  aaA 215 [Pt b,x.agg] w fun u w'=>∃H1 a1 c1 a2 c2 a3 c3,HLe H H1∧u= .bool true∧
   SvM H1 ⟨x.sp,[],cs⟩ (.slice a1 x.sp.st.length c1) (.slice a2 x.sp.wa.length c2) (.slice none 0 0) (.slice a3 cs.length c3)∧St H1 w' (.blk b (shC n x.num ⟨x.sp,[],cs⟩ (.slice a1 x.sp.st.length c1) (.slice a2 x.sp.wa.length c2) (.slice none 0 0) (.slice a3 cs.length c3) vc true cmp tap dn vd)::σ):=by
 refine Cl.o func215 ntmps215 ag2 ?_;refine .ae (.bx hs fun b3 w hs=>?_);refine .zn zg (.seq (.ae (.z zm (.z znc (.z (zfa fA) (.y hs (zld pG) (.nil (.cF (.skip (nT (.seq (.draw mix rfl hs fun w hs=>?_))))))))))));refine .zw 0 rfl zm ?_;refine .z 1 rfl zm ?_;refine .z 2 rfl zm ?_;refine .z 3 rfl (zfa ep) ?_;refine .y 4 rfl hs ai ?_;refine .z 5 rfl zm ?_;refine .ys 6 rfl hs [_,_,_,_,_,_,_,_,_,_,_,_,_,_,_,_,_,_,_,_,_,_,_,_,_,_,_,_,_,_,_] cP aH ?_;refine .E 7 hs ?_;refine .call call257 rfl (pA hs (.there .here) hx hn hc hl) ?_;rintro _ w ⟨H1,a1,c1,a2,c2,a3,c3,aq,rfl,Cz,hs⟩;refine .go (.zw 8 rfl znc ?_);refine .z 9 rfl (zfa fA) ?_;refine .E 10 hs ?_;refine .store hs rfl rfl fQ ?_;intro w hs;refine .go (.zw 11 rfl znc ?_);refine .z 12 rfl (zfa di) ?_;refine .z 13 rfl (zfa AX) ?_;refine .E 14 hs ?_;refine .store hs rfl rfl ak ?_;intro w hs;refine .go (.zw 15 rfl znc ?_);refine .z 16 rfl (zfa di) ?_;refine .z 17 rfl (zfa ek) ?_;refine .E 18 hs ?_;refine .aD (vs:=[_,_,_,_,_,_,_,_]) hs rfl rfl aM ?_;intro w hs;exact .go (.D hs (.ae (.zn zg (.ret (Fin.bp results215 rfl ⟨H1,a1,c1,a2,c2,a3,c3,aq,rfl,Cz,hs.out⟩)))))
theorem zh{w:World}{r:Rm}{a b c:Value}(hs:St H w σ):aaA 177 [.agg (ceC r s a b c d).toArray,I id] w fun u w'=>u=I (Al r.id id)∧St H w' σ:=by
 refine Cl.o func177 ntmps177 ag2 ?_;refine .ae (.bx hs fun b2 w hs=>?_);refine .zn zg (.ae (.z (zfa CI) (.z (zfa CG) (.y hs (zld ai) (.z zm (.o (.call call98 rfl (kO hs) ?_)))))));rintro _ w ⟨rfl,hs⟩;exact .zn zg (.ret (Fin.bp results177 rfl ⟨rfl,hs.out⟩))
theorem ED(a:Int):Al a a=0:=by unfold Al;rw [if_neg aj,if_neg aj]
theorem HV{w:World}(hs:St H w σ):aaA 176 [.slice none 0 0,I id,.func (.func 177) #[] #[]] w fun u w'=>u= .tuple #[I 0,.bool false]∧St H w' σ:=by
 refine Cl.o func176 ntmps176 ag3 ?_;refine .ae (.z zg (.zn zg (.ae (.z zm (.z (cJ eI) (.zn zg (.ae (.z zm (.z zg (.zn zg (.seq (.block (.loop (fun _:Unit=>⟨49,[],[(10,I 0),(9,I 0),(8,I 0)]⟩) (fun _ w=>St H w σ) (fun _=>0) () bk hs.sb ?_)))))))))))));rintro _ w hs;refine .seq (.ae (.z zm (.z zm (.z jt ?_))));rw [decide_eq_false aj];refine .nil (.cF (.exit (xT (xT (xB (nT (.ae (.z zm (.z zm (.z zm (.z jt ?_)))))))))));rw [decide_eq_false aj];exact .z zm (.Fs 8 4 true (.z zpF (.z zg (.zn zg (.ret (Fin.mi results176 rfl rfl ⟨rfl,hs.out⟩))))))
set_option maxHeartbeats 2000000 in
theorem HU{w:World}{cap:Nat}{r:Rm}{a b c:Value}(hs:St H w σ)(hm:Mem σ (.blk bc (ceC r s a b c d++sp))):
  aaA 176 [.slice (some ⟨bc,0,none⟩) 1 cap,I r.id,.func (.func 177) #[] #[]] w fun u w'=>u= .tuple #[I 0,.bool true]∧St H w' σ:=by
 refine Cl.o func176 ntmps176 ag3 ?_;refine .ae (.z zg (.zn zg (.ae (.z zm (.z (cJ eI) (.zn zg (.ae (.z zm (.z zg (.zn zg (.seq (.block (.loop (fun j:Nat=>⟨49,[],[(10,I (j:Int)),(9,I 0),(8,I 1),(2,.func (.func 177) #[] #[]),(1,I r.id),(0,.slice (some ⟨bc,0,none⟩) 1 cap)]⟩) (fun j w=>j≤1∧St H w σ) (fun j=>j) 1 bk ⟨Nat.le_refl 1,hs.sb⟩ ?_)))))))))))));rintro j w ⟨hj,hs⟩;refine .seq (.ae (.z zm (.z zm (.zn jt (.bX rfl (fun kV=>?_) (fun kV=>?_))))))
 ·refine .skip (nT (.block (.ae (.z zm (.z zm ?_)))));obtain rfl:j=1:=by omega
  refine .z cz (.q hs (yU rfl aF dG ⟨aj,aj⟩) (.q hs (OX rfl rfl) ?_));rw [show ((0:Int)+((1:Nat):Int))/2=0 by decide];refine .q hs (yV rfl dG aF ⟨aj,aj⟩) (.zn zg (.ae (.z zm (.z zm (.z zm (.z (yp (j:=0) eI A9) (.q hs (jA (vs:=ceC r s a b c d) rfl isAgg149 A9 (hm:=hm) (hv:=rfl)) (.z zm (.o (.ng (first:=[]) (cap:=[]) rfl rfl call177 (zh hs) ?_))))))))));rintro _ w ⟨rfl,hs⟩;rw [ED];refine .z jt ?_;rw [decide_eq_false aj];exact .nil (.cF (.region (.z zm (.zn zg (nB (nT ⟨0,bk,⟨aj,hs.sb⟩,aj⟩))))))
 ·refine .exit (xT (xT (xB (nT (.ae (.z zm (.z zm (.z zm (.z jt ?_)))))))));rw [decide_eq_true aj];refine .z zm (.T ?_);refine .z zm (.T (.z zm (.T (.z zm (.T (.z (yp (j:=0) eI A9) (.T (.q hs (jA (vs:=ceC r s a b c d) rfl isAgg149 A9 (hm:=hm) (hv:=rfl)) (.T (.z zm (.T (.o (.ng (first:=[]) (cap:=[]) rfl rfl call177 (zh hs) ?_)))))))))))));rintro _ w ⟨rfl,hs⟩;rw [ED];refine .T (.z gO ?_);rw [decide_eq_true rfl];exact .z zpT (.z zg (.zn zg (.ret (Fin.mi results176 rfl rfl ⟨rfl,hs.out⟩))))
theorem Co{w:World}{n:Int}{a c cmp:Value}(hs:St H w σ)(hm:Mem σ (.blk b (shC n fl s a b' c d (.slice none 0 0) th cmp tap dn vd))):
  aaA 99 [Pt b,I id] w fun u w'=>u= .tuple #[I 0,.bool false]∧St H w' σ:=by
 refine Cl.o func99 ntmps99 ag2 ?_;refine .ae (.z zg (.zn zg (.ae (.z zm (.z znc (.z (zfa di) (.z (zfa iG) (.q hs (fJ rfl isAgg56 (hm:=hm) (hv:=rfl)) (.z zm (.o (.call call176 rfl (HV hs) ?_)))))))))));rintro _ w ⟨rfl,hs⟩;exact .z zex (.z zex (.z zg (.zn zg (.ret (Fin.mi results99 rfl rfl ⟨rfl,hs.out⟩)))))
theorem Cn{w:World}{cap:Nat}{n:Int}{r:Rm}{u:Srv}{a c cmp a2:Value}(hs:St H w σ)(hm:Mem σ (.blk b (shC n fl s a b' c d (.slice (some ⟨bc,0,none⟩) 1 cap) th cmp tap dn vd)))(Mg:Mem σ (.blk bc (ceC r u a2 b2 c2 d2++sp))):
  aaA 99 [Pt b,I r.id] w fun u w'=>u= .tuple #[I 0,.bool true]∧St H w' σ:=by
 refine Cl.o func99 ntmps99 ag2 ?_;refine .ae (.z zg (.zn zg (.ae (.z zm (.z znc (.z (zfa di) (.z (zfa iG) (.q hs (fJ rfl isAgg56 (hm:=hm) (hv:=rfl)) (.z zm (.o (.call call176 rfl (HU hs Mg) ?_)))))))))));rintro _ w ⟨rfl,hs⟩;exact .z zex (.z zex (.z zg (.zn zg (.ret (Fin.mi results99 rfl rfl ⟨rfl,hs.out⟩)))))
theorem DW{w:World}{n:Int}{a c cmp:Value}(hs:St H w σ)(hm:Mem σ (.blk b (shC n fl s a b' c d vc th cmp tap dn vd))):
  aaA 50 [Pt b,I s.sp.id] w fun u w'=>u= .pointer (some ⟨b,2,none⟩)∧St H w' σ:=by
 refine Cl.o func50 ntmps50 ag2 ?_;refine .ae (.zn zg (.seq (.ae (.z zm (.z znc (.z (zfa di) (.z (zfa ek) (.z (zfa bj) (.z (zfa dT) (.q hs (fJ rfl ai (hm:=hm) (hv:=rfl)) (.z zm (.z gO ?_))))))))))));rw [decide_eq_true rfl];exact .nil (.cT (.ae (.z zm (.z znc (.z (zfa di) (.z (zfa ek) (.zn zg (.ret (rT (Fin.bp results50 rfl ⟨rfl,hs.out⟩))))))))))
theorem DV{w:World}{cap:Nat}{n:Int}{r:Rm}{u:Srv}{a c cmp a2:Value}(hs:St H w σ)(hm:Mem σ (.blk b (shC n fl s a b' c d (.slice (some ⟨bc,0,none⟩) 1 cap) th cmp tap dn vd)))(Mg:Mem σ (.blk bc (ceC r u a2 b2 c2 d2++sp)))(fX:s.sp.id≠r.id):
  aaA 50 [Pt b,I r.id] w fun u w'=>u= .pointer (some ⟨bc,6,none⟩)∧St H w' σ:=by
 refine Cl.o func50 ntmps50 ag2 ?_;refine .ae (.zn zg (.seq (.ae (.z zm (.z znc (.z (zfa di) (.z (zfa ek) (.z (zfa bj) (.z (zfa dT) (.q hs (fJ rfl ai (hm:=hm) (hv:=rfl)) (.z zm (.z gO ?_))))))))))));rw [decide_eq_false fX];refine .nil (.cF (.skip (nT (.ae (.z zm (.z zm (.o (.call call99 rfl (Cn hs hm Mg) ?_))))))));rintro _ w ⟨rfl,hs⟩;exact .z zm (.z zex (.z zex (.z zg (.zn zg (.seq (.ae (.z zm (.zn im (.cF (.skip (nT (.ae (.z zm (.z znc (.z (zfa di) (.z (zfa iG) (.q hs (fJ rfl isAgg56 (hm:=hm) (hv:=rfl)) (.z zm (.z (yp (j:=0) eI A9) (.z (zfa CH) (.zn zg (.ret (Fin.bp results50 rfl ⟨rfl,hs.out⟩)))))))))))))))))))))))
set_option maxHeartbeats 2000000 in
theorem D8{w:World}{c:List Value}(hs:St H w (.blk bn c::σ))(hc:c.length=14)(hv:∀v∈c,v.oneCell'=true):
  aaA 258 [.slice none 0 0,I 0,.slice (some ⟨bn,0,none⟩) 1 1] w fun u w'=>∃bc cap sp,u= .slice (some ⟨bc,0,none⟩) 1 cap∧14+sp.length=cap*14∧St H w' (.blk bc (c++sp)::σ):=by
 refine Cl.o func258 ntmps258 ag3 ?_;refine .ae (.zn zg (.ae (.z zm (.z zm (.q hs (B8 rfl rfl eI A9 ⟨aj,aj⟩) (.nil (.ae (.z zm (.z (cJ eI) (.zn zg (.seq (.ae (.z zm (.z gO ?_))))))))))))));rw [decide_eq_false aj];refine .nil (.cF (.skip (nT (.ae (.z zm (.z (cJ eI) (.zn zg (.seq (.ae (.z zm (.z zm (.z gO ?_))))))))))));rw [decide_eq_true (show (0:Int)=((0:Nat):Int) from rfl)];refine .nil (.cT (.ae (.z zm (.z zm (.o (.append (xs:=[]) (ys:=c) hs.nul oE rfl rfl (.nil 14 none) (.own (.there .here) br (by rw [hc])) hv (fun l' h=>by simp at h;omega) ?_))))));intro v25 en25 w hO hs;rw [List.nil_append] at hO;refine .zn zg (.ret (rT (Fin.bp results258 rfl ?_)));have hf:[c].flatten=c:=by simp
 rw [←hf] at hO;obtain ⟨bc,cap,sp,rfl,rfl,-⟩:=hO.Sv (m:=14) (fun x hx=>by rw [List.mem_singleton] at hx;rw [hx];exact hc) aj br;rw [hf] at hs hO;have qw:14+sp.length=cap*14:=by
  rcases hO with ⟨_,_,_,h3⟩|⟨b',len,wx,Zh,h1,h2,h3,h4,h5⟩
  ·cases h3
  ·simp only [Value.slice.injEq] at h1;obtain ⟨-,-,rfl⟩:=h1;simp only [Ent.blk.injEq] at h2;rw [←h2.2,List.length_append,hc] at h4;exact h4
 exact ⟨bc,cap,sp,rfl,qw,hs.sb⟩
set_option maxHeartbeats 4000000 in
theorem AM{w:World}{x:Ev}{n:Int}{a c cmp:Value}{cs:List Cmp}(hs:St H w (.blk b (shC n fl s a b' c d (.slice none 0 0) th cmp tap dn vd)::σ))(hx:EvM H x)(hn:Jb x)(fX:s.sp.id≠x.sp.id)(hc:RCm H cmp cs)(hl:cs.length≤100):
  aaA 216 [Pt b,x.agg] w fun u w'=>∃H1 a1 c1 a2 c2 a3 c3 bc cap sp,HLe H H1∧u= .bool true∧14+sp.length=cap*14∧
   SvM H1 ⟨x.sp,[],cs⟩ (.slice a1 x.sp.st.length c1) (.slice a2 x.sp.wa.length c2) (.slice none 0 0) (.slice a3 cs.length c3)∧
   St H1 w' (.blk b (shC n fl s a b' c d (.slice (some ⟨bc,0,none⟩) 1 cap) th cmp tap dn vd):: .blk bc (ceC ⟨x.sp.id,x.num,x.opn,x.crew⟩ ⟨x.sp,[],cs⟩ (.slice a1 x.sp.st.length c1) (.slice a2 x.sp.wa.length c2) (.slice none 0 0) (.slice a3 cs.length c3)++sp)::σ):=by
 refine Cl.o func216 ntmps216 ag2 ?_;refine .ae (.bx hs fun b3 w hs=>?_);refine .zn zg (.ae (.z zm (.z (zfa dk) (.z (zfa dT) (.y hs (zld ai) (.o (.call call99 rfl (Co hs (.there .here)) ?_)))))));rintro _ w ⟨rfl,hs⟩;refine .z zm (.z zex (.z zex (.z zg (.zn zg (.seq (.seq (.draw mix rfl hs fun w hs=>?_)))))));refine .zw 0 rfl zm ?_;refine .z 1 rfl zm ?_;refine .z 2 rfl zm ?_;refine .z 3 rfl znc ?_;refine .z 4 rfl (zfa di) ?_;refine .z 5 rfl (zfa ek) ?_;refine .z 6 rfl (zfa bj) ?_;refine .z 7 rfl (zfa dT) ?_;refine .y 8 rfl hs ai ?_;refine .z 9 rfl (zfa dk) ?_;refine .zw 10 rfl (zfa dT) ?_;refine .y 11 rfl hs ai ?_;refine .z 12 rfl gO ?_;rw [decide_eq_false fX];refine .zw 13 rfl zpF ?_;refine .z 14 rfl zm ?_;refine .z 15 rfl zm ?_;refine .z 16 rfl znc ?_;refine .z 17 rfl (zfa di) ?_;refine .z 18 rfl (zfa iG) ?_;refine .y 19 rfl hs isAgg56 ?_;refine .z 20 rfl (cJ eI) ?_;refine .z 21 rfl gO ?_;rw [decide_eq_false aj];refine .zw 22 rfl zpF ?_;refine .D hs ?_;refine (.cF (.skip (nT (.seq (.draw mix rfl hs fun w hs=>?_)))));refine .zw 0 rfl zm ?_;refine .z 1 rfl zm ?_;refine .z 2 rfl znc ?_;refine .z 3 rfl (zfa di) ?_;refine .z 4 rfl (zfa iG) ?_;refine .y 5 rfl hs isAgg56 ?_;refine .z 6 rfl zm ?_;refine .z 7 rfl (zfa dk) ?_;refine .z 8 rfl (zfa dT) ?_;refine .y 9 rfl hs ai ?_;refine .zw 10 rfl (zfa ep) ?_;refine .y 11 rfl hs ai ?_;refine .z 12 rfl (zfa iJ) ?_;refine .y 13 rfl hs ai ?_;refine .z 14 rfl (zfa iI) ?_;refine .y 15 rfl hs ai ?_;refine .z 16 rfl (zbd [_,_,_,_,_,_] EF) ?_;refine .z 17 rfl zm ?_;refine .ys 18 rfl hs [_,_,_,_,_,_,_,_,_,_,_,_,_,_,_,_,_,_,_,_,_,_,_,_,_,_,_,_,_,_,_] cP aH ?_;refine .E 19 hs ?_;refine .call call257 rfl (pA hs (.there .here) hx hn hc hl) ?_;rintro _ w ⟨H1,a1,c1,a2,c2,a3,c3,aq,rfl,Cz,hs⟩;refine .go (.zw 20 rfl (zbd [I x.sp.id,I x.num,I x.opn,I x.crew,I 0,I 0,I x.sp.id,I x.sp.src,.slice a1 x.sp.st.length c1,.slice a2 x.sp.wa.length c2,I x.sp.al,I x.sp.up,.slice none 0 0,.slice a3 cs.length c3] EG rfl au) (.E 21 hs ?_));refine .buildSlice (cells:=ceC ⟨x.sp.id,x.num,x.opn,x.crew⟩ ⟨x.sp,[],cs⟩ (.slice a1 x.sp.st.length c1) (.slice a2 x.sp.wa.length c2) (.slice none 0 0) (.slice a3 cs.length c3)) hs wz rfl au ?_;intro b59 w hs;refine .go (.E 22 hs ?_);refine .call call258 rfl (D8 hs rfl (by simp [ceC,Value.oneCell'])) ?_;rintro _ w ⟨bc,cap,sp,rfl,qw,hs⟩;refine .go (.zw 23 rfl znc ?_);refine .z 24 rfl (zfa di) ?_;refine .z 25 rfl (zfa iG) ?_;refine .E 26 hs ?_;refine .store hs rfl rfl sizeOf56 ?_;intro w hs;exact .go (.D hs (.ae (.zn zg (.ret (Fin.bp results216 rfl ⟨H1,a1,c1,a2,c2,a3,c3,bc,cap,sp,aq,rfl,qw,Cz,hs.sub (.cons (.there (.there .here)) (.cons .here (Sub.weaken (Sub.refl _))))⟩)))))
set_option maxHeartbeats 4000000 in
theorem vT{w:World}{x:Ev}{cap:Nat}{n:Int}{r:Rm}{u:Srv}{a c cmp a2:Value}
  (hs:St H w (.blk b (shC n fl s a b' c d (.slice (some ⟨bc,0,none⟩) 1 cap) th cmp tap dn vd):: .blk bc (ceC r u a2 b2 c2 d2++sp)::σ)) (g:SvM H u a2 b2 c2 d2) (hx:x.room=r.id) (fX:s.sp.id≠r.id) (bh:eg (u.add x.rd)) (hl:u.rs.length≤1000):
  aaA 222 [Pt b,x.agg] w fun v w'=>∃H1 q k,HLe H H1∧v= .bool true∧SvM H1 (u.add x.rd) a2 b2 (.slice q (u.rs.length+1) k) d2∧
   St H1 w' (.blk b (shC n fl s a b' c d (.slice (some ⟨bc,0,none⟩) 1 cap) th cmp tap dn vd):: .blk bc (ceC r (u.add x.rd) a2 b2 (.slice q (u.rs.length+1) k) d2++sp)::σ):=by
 obtain ⟨qa,ka,rfl⟩:=RI.shape g.st;obtain ⟨qb,kb,rfl⟩:=RI.shape g.wa;obtain ⟨qc,kc,rfl⟩:=RRd.shape g.rd;obtain ⟨qd,kd,rfl⟩:=RCm.shape g.cm;refine Cl.o func222 ntmps222 ag2 ?_;refine .ae (.bx hs fun b3 w hs=>?_);refine .zn zg (.ae (.z zm (.z (zfa fB) (.y hs (zld ai) ?_))));rw [hx];refine .o (.call call50 rfl (DV hs (.there .here) (.there (.there .here)) fX) ?_);rintro _ w ⟨rfl,hs⟩;refine .zn zg (.seq (.ae (.z zm (.q hs (DM rfl rfl runUnderlying150) (.nil (.cF (.skip (nT (.ae (.z zm (.z znc (.q hs (jA (vs:=svC u (.slice qa u.sp.st.length ka) (.slice qb u.sp.wa.length kb) (.slice qc u.rs.length kc) (.slice qd u.cs.length kd)) rfl bA aM (hm:= .there (.there .here)) (hv:=rfl)) (.o (.alloc hs kl rfl fun b6 w hs=>?_))))))))))))));refine .o (.aD (vs:=[_,_,_,_,_,_,_,_]) hs rfl rfl aM fun w hs=>?_);refine .nil (.cut (fun fs w=>∃H1 b6 q k,np fs ⟨32,[],[(6,Pt b6),(5,.pointer (some ⟨bc,6,none⟩))]⟩∧HLe H H1∧RRd H1 (.slice q (u.rs.length+1) k) (u.rs++[x.rd])∧St H1 w (.blk b6 (svC u (.slice qa u.sp.st.length ka) (.slice qb u.sp.wa.length kb) (.slice q (u.rs.length+1) k) (.slice qd u.cs.length kd)):: .blk b (shC n fl s a b' c d (.slice (some ⟨bc,0,none⟩) 1 cap) th cmp tap dn vd):: .blk bc (ceC r u (.slice qa u.sp.st.length ka) (.slice qb u.sp.wa.length kb) (.slice qc u.rs.length kc) (.slice qd u.cs.length kd)++sp)::σ)) ?_ ?_)
 ·refine .draw mix rfl hs fun w hs=>?_
  refine .zw 0 rfl zm ?_;refine .z 1 rfl znc ?_;refine .z 2 rfl (zfa aS) ?_;refine .y 3 rfl hs fa ?_;refine .z 5 rfl (zfa eX) ?_;refine .ys 6 rfl hs [_,_,_,_,_,_,_] iP bF ?_;refine .e2 (i:=4) (j:=7) au rfl rfl rfl rfl .none .none hs ?_ ?_
  ·refine .call call264 rfl (jP hs g.rd aj) ?_;rintro v20 w ⟨e20,Ge,hs⟩;refine .go (.E 7 hs ?_);refine .buildSlice (cells:=x.rd.c) hs ez rfl au ?_;intro LW w hs;refine .go (.E 8 hs ?_);refine .append (ys:=x.rd.c) hs cf rfl rfl Ge (.own dr rfl rfl) (by simp [Rdg.c,Value.oneCell']) (fun l' h=>by rw [bH _ (mz _),cU] at h;omega) ?_;intro v24 en24 w oS hs;rw [←ra] at oS;obtain ⟨a24,c24,rfl⟩:=oS.iQ (mz _) aj;rw [cU,List.length_append,List.length_singleton] at oS ⊢;refine .go (.zw 9 rfl (zfa aS) (.E 10 hs ?_));refine .store hs rfl rfl Gu ?_;intro w hs;refine .go (.D hs ?_);obtain ⟨H1,aq,hR,hs⟩:=bM.bQ (m:=7) (cs:=rdc (u.rs++[x.rd])) oS (mz _) aj (by rw [cU,List.length_append,List.length_singleton];omega) hs dr;exact nT ⟨H1,b6,_,_,bk,aq,hR,hs.sb⟩
  ·refine .buildSlice (cells:=x.rd.c) hs ez rfl au ?_;intro LW w hs;refine .go (.E 4 hs ?_);refine .call call264 rfl (jP hs g.rd aj) ?_;rintro v20 w ⟨e20,Ge,hs⟩;refine .go (.E 8 hs ?_);refine .append (ys:=x.rd.c) hs cf rfl rfl Ge (.own dr rfl rfl) (by simp [Rdg.c,Value.oneCell']) (fun l' h=>by rw [bH _ (mz _),cU] at h;omega) ?_;intro v24 en24 w oS hs;rw [←ra] at oS;obtain ⟨a24,c24,rfl⟩:=oS.iQ (mz _) aj;rw [cU,List.length_append,List.length_singleton] at oS ⊢;refine .go (.zw 9 rfl (zfa aS) (.E 10 hs ?_));refine .store hs rfl rfl Gu ?_;intro w hs;refine .go (.D hs ?_);obtain ⟨H1,aq,hR,hs⟩:=bM.bQ (m:=7) (cs:=rdc (u.rs++[x.rd])) oS (mz _) aj (by rw [cU,List.length_append,List.length_singleton];omega) hs dr;exact nT ⟨H1,b6,_,_,bk,aq,hR,hs.sb⟩
 ·rintro fs w ⟨H1,b6,q,k,i7,aq,hR,hs⟩;refine WE.sub ?_ i7;clear i7;have gk:SvM H1 (u.add x.rd) (.slice qa u.sp.st.length ka) (.slice qb u.sp.wa.length kb) (.slice q (u.rs.length+1) k) (.slice qd u.cs.length kd):=⟨(g.mono aq).st,(g.mono aq).wa,hR,(g.mono aq).cm⟩;refine .seq (.ae (.y hs (zls [_,_,_,_,_,_,_,_] bA aM) (.o (.call call53 rfl (fb (s:=u.add x.rd) hs gk.st gk.wa gk.rd gk.cm) ?_))));rintro _ w ⟨H2,e,aO,rfl,hE,hs⟩;obtain rfl:e=0:=hE.dt.2 bh;refine .z gE ?_;rw [decide_eq_true rfl];refine .nil (.cF (.skip (nT (.ae (.z zm (.y hs (zls [_,_,_,_,_,_,_,_] bA aM) (.z znc (.o (.aD (vs:=[_,_,_,_,_,_,_,_]) hs rfl rfl aM fun w hs=>?_)))))))));exact .nil (.ae (.zn zg (.ret (Fin.bp results222 rfl ⟨H2,q,k,aq.trans aO,rfl,gk.mono aO,hs.out⟩))))
theorem JI{w:World}{x y:Ev}(hs:St H w σ):aaA 225 [.agg x.c.toArray,.agg y.c.toArray] w fun u w'=>u=I (Al x.day y.day)∧St H w' σ:=by
 refine Cl.o func225 ntmps225 ag2 ?_;refine .ae (.bx hs fun b2 w hs=>?_);refine .bx hs fun b3 w hs=>?_
 refine .zn zg (.ae (.z (zfa eT) (.y hs (zld ai) (.z (zfa eT) (.y hs (zld ai) (.o (.call call98 rfl (kO hs) ?_)))))));rintro _ w ⟨rfl,hs⟩;exact .zn zg (.ret (Fin.bp results225 rfl ⟨rfl,hs.out⟩))
theorem LN(a b:Int):Al a b<0↔a<b:=by unfold Al;split<;>(try split)<;>omega
set_option maxHeartbeats 8000000 in
theorem D7{w:World}{l:List Ev}{cap:Nat}(hs:St H w (.blk bn ((evc l).flatten++sp)::σ))(hl:l.length≤1000)(GZ:1≤l.length):
  aaA 287 [.slice (some ⟨bn,0,none⟩) l.length cap,I 0,I (l.length:Int),.func (.func 225) #[] #[]] w fun _ w'=>St H w' (.blk bn ((evc (eb l l.length)).flatten++sp)::σ):=by
 refine Cl.o func287 ntmps287 ag4 ?_;refine .ae (.z zm (.z cz (.zn zg (.block ?_))));refine .loop (fun i:Nat=>⟨53,[],[(8,I (i:Int)),(3,.func (.func 225) #[] #[]),(2,I (l.length:Int)),(1,I 0),(0,.slice (some ⟨bn,0,none⟩) l.length cap)]⟩)
  (fun i w=>(1≤i∧i≤l.length)∧St H w (.blk bn ((evc (eb l i++l.drop i)).flatten++sp)::σ)) (fun i=>l.length - i) 1 (bk) ⟨aj,by
   rw [show eb l 1++l.drop 1=l by
    have:=ku (l:=l) (n:=0) aj;rw [show eb l 1=l.take 1 by rw [this];rfl,List.take_append_drop]]
   exact hs.sb⟩ ?_
 rintro i w ⟨hi,hs⟩;refine .seq (.ae (.z zm (.z zm (.zn jt (.bX rfl (fun iW=>?_) (fun iW=>?_))))))
 ·refine .skip (nT (.seq (.block (.ae (.z zm (.zn zg (.block ?_)))))));have si:i<l.length:=by omega
  have hP:=hZ l i;have Xu:l.drop i=evG l i::l.drop (i+1):=by
   rw [List.drop_eq_getElem_cons si];congr 1;have:=gV (l:=l) (i:=i) si;rw [List.getElem?_eq_getElem si] at this;exact Option.some.inj this
  rw [Xu,←JN,hP] at hs;refine .loop (fun j:Nat=>⟨53,[],[(9,I (j:Int)),(8,I (i:Int)),(3,.func (.func 225) #[] #[]),(2,I (l.length:Int)),(1,I 0),(0,.slice (some ⟨bn,0,none⟩) l.length cap)]⟩)
   (fun j w=>(j≤i∧E8 (evG l i) (eb l i) j=E8 (evG l i) (eb l i) i)∧St H w (.blk bn ((evc (stA (eb l i) (evG l i) j (l.drop (i+1)))).flatten++sp)::σ)) (fun j=>j) i bk ⟨⟨Nat.le_refl _,rfl⟩,hs.sb⟩ ?_
  rintro j w ⟨⟨NU,KQ⟩,hs⟩;have WI:(stA (eb l i) (evG l i) j (l.drop (i+1))).length=l.length:=by rw [HS aj,List.length_drop];omega
  refine .seq (.seq (.draw mix rfl hs fun w hs=>?_));refine .zw 0 rfl zm ?_;refine .z 1 rfl zm ?_;refine .z 2 rfl q5 ?_;refine .z 3 rfl zm ?_;refine .mW (t':=21) rfl (fun wh=>?_) (fun wh=>?_)
  ·obtain ⟨k,rfl⟩:∃k,j=k+1:=⟨j - 1,aj⟩;have AP:=SL (P:=eb l i) (x:=evG l i) (j:=k+1) (R:=l.drop (i+1)) aj;have NH:=Qk (P:=eb l i) (x:=evG l i) (j:=k) (R:=l.drop (i+1)) aj;refine .zw 4 rfl zm ?_;refine .z 5 rfl zm ?_;refine .z 6 rfl zm ?_;refine .z 7 rfl (yp (j:=k+1) aN aH) ?_;refine .AJ (i:=8) (vs:=(evG l i).c) hs rfl au (.some rfl rfl) rfl cP aH ?_ (hv:=wO (ky _) (zO AP) sp);refine .zw 9 rfl zm ?_;refine .z 10 rfl zm ?_;refine .z 11 rfl iw ?_;rw [show (((k+1:Nat):Int) - 1)=(k:Int) by omega];refine .zw 12 rfl (yp (j:=k) aN aH) (.AJ (i:=13) (vs:=(evG (eb l i) k).c) hs rfl au (.some rfl rfl) rfl cP aH ?_ (hv:=wO (ky _) (zO NH) sp));refine .E 14 hs ?_;refine .ng (first:=[]) (cap:=[]) rfl rfl call225 (JI hs) ?_;rintro _ w ⟨rfl,hs⟩;refine .go (.zw 15 rfl jt ?_);refine .z 16 rfl zpT ?_;refine .D hs ?_;refine (.bX rfl (fun ma=>?_) (fun ma=>?_))
   ·refine .skip (nT (.seq (.block (.draw mix rfl hs fun w hs=>?_))));refine .zw 0 rfl zm ?_;refine .z 1 rfl zm ?_;refine .z 2 rfl zm ?_;refine .z 3 rfl zm ?_;refine .z 4 rfl iw ?_;rw [show (((k+1:Nat):Int) - 1)=(k:Int) by omega];refine .zw 5 rfl zm ?_;refine .z 6 rfl zm ?_;refine .z 7 rfl iw ?_;rw [show (((k+1:Nat):Int) - 1)=(k:Int) by omega];refine .zw 8 rfl (yp (j:=k) aN aH) (.AJ (i:=9) (vs:=(evG (eb l i) k).c) hs rfl au .none rfl cP aH ?_ (hv:=wO (ky _) (zO NH) sp));refine .zw 10 rfl zm ?_;refine .z 11 rfl zm ?_;refine .z 12 rfl (yp (j:=k+1) aN aH) ?_;refine .AJ (i:=13) (vs:=(evG l i).c) hs rfl au .none rfl cP aH ?_ (hv:=wO (ky _) (zO AP) sp);refine .zw 14 rfl (yp (j:=k+1) aN aH) (.E 15 hs ?_);refine .aD (vs:=(evG (eb l i) k).c) (c':=(evc ((stA (eb l i) (evG l i) (k+1) (l.drop (i+1))).set (k+1) (evG (eb l i) k))).flatten++sp) hs rfl rfl aH ?_ dr (PT aj _ _) (LD aj _ _);intro w hs;refine .go (.zw 16 rfl (yp (j:=k) aN aH) (.E 17 hs ?_));refine .aD (vs:=(evG l i).c) (c':=(evc (stA (eb l i) (evG l i) k (l.drop (i+1)))).flatten++sp) hs rfl rfl aH ?_ dr (PT (by rw [List.length_set];omega) _ _) (by rw [LD (by rw [List.length_set];omega),MD aj]);intro w hs;exact .go (.D hs (nB (nT (.region (.z zm (.z iw (.zn zg (nT ⟨k,.dP rfl (by push_cast;omega) bk,⟨⟨aj,by rw [←KQ];simp only [E8];rw [if_pos ((LN _ _).1 dQ)]⟩,hs.sb⟩,aj⟩))))))))
   ·refine .exit (xT (xT (xB (nB (nT (.region (.z zm (.z cz (.zn zg (nT ?_))))))))));have hj:k+1=E8 (evG l i) (eb l i) (eb l i).length:=by
     rw [hP,←KQ];simp only [E8];rw [if_neg fun h=>by have:=(LN _ _).2 h;omega]
    rw [JO hj] at hs;exact ⟨i+1,.dP rfl br bk,⟨aj,by simp only [eb];exact hs.sb⟩,aj⟩
  ·refine .F 4 rfl (.F 5 rfl (.F 6 rfl (.F 7 rfl (.F 8 rfl (.F 9 rfl (.F 10 rfl (.F 11 rfl (.F 12 rfl (.F 13 rfl (.F 14 rfl (.F 15 rfl (.zw 16 rfl zpF ?_))))))))))));refine .D hs ?_;refine (.cF (.exit (xT (xT (xB (nB (nT (.region (.z zm (.z cz (.zn zg (nT ?_))))))))))));obtain rfl:j=0:=by omega
   have hj:0=E8 (evG l i) (eb l i) (eb l i).length:=by
    rw [hP,←KQ];rfl
   rw [JO hj] at hs;exact ⟨i+1,.dP rfl br bk,⟨aj,by simp only [eb];exact hs.sb⟩,aj⟩
 ·refine .exit (xT (xT (xB ?_)));obtain rfl:i=l.length:=by omega
  rw [List.drop_length,List.append_nil] at hs;exact Fin.yg results287 hs.out
set_option maxHeartbeats 2000000 in
theorem JM{w:World}{l:List Ev}{cap:Nat}(hs:St H w (.blk bn ((evc l).flatten++sp)::σ))(hl:l.length≤19)(GZ:1≤l.length):
  aaA 265 [.slice (some ⟨bn,0,none⟩) l.length cap,I (l.length:Int),.func (.func 225) #[] #[]] w fun _ w'=>St H w' (.blk bn ((evc (eb l l.length)).flatten++sp)::σ):=by
 refine Cl.o func265 ntmps265 ag3 ?_;refine .ae (.zn zg (.ae (.z zm (.z zg (.zn zg (.seq (.block (.loop (fun _:Unit=>⟨63,[],[(8,I 20),(7,I 0),(6,I 20),(2,.func (.func 225) #[] #[]),(1,I (l.length:Int)),(0,.slice (some ⟨bn,0,none⟩) l.length cap)]⟩) (fun _ w=>St H w (.blk bn ((evc l).flatten++sp)::σ)) (fun _=>0) () bk hs.sb ?_))))))));rintro _ w hs;refine .seq (.ae (.z zm (.z zm (.z rl ?_))));rw [decide_eq_false aj];refine .nil (.cF (.exit (xT (xT (xB (nT (.ae (.z zm (.z zm (.z zm (.z zm (.o (.call call287 rfl (D7 hs aj GZ) ?_)))))))))))));rintro _ w hs;refine .nil (.block (.loop (fun _:Unit=>⟨63,[],[(6,I 20),(1,I (l.length:Int))]⟩) (fun _ w=>St H w (.blk bn ((evc (eb l l.length)).flatten++sp)::σ)) (fun _=>0) () bk hs.sb ?_));rintro _ w hs;refine .seq (.ae (.z zm (.z zm (.z jt ?_))));rw [decide_eq_false aj];exact .nil (.cF (.exit (xT (xT (xB (Fin.yg results265 hs.out))))))
theorem B3{w:World}{l:List Ev}{cap:Nat}(hs:St H w (.blk bn ((evc l).flatten++sp)::σ))(hl:l.length≤19)(GZ:1≤l.length):
  aaA 224 [.slice (some ⟨bn,0,none⟩) l.length cap,.func (.func 225) #[] #[]] w fun _ w'=>St H w' (.blk bn ((evc (eb l l.length)).flatten++sp)::σ):=by
 refine Cl.o func224 ntmps224 ag2 ?_;refine .region (.z zm (.z zm (.z (cJ aN) (.z zm (.o (.call call265 rfl (JM hs hl GZ) ?_))))));rintro _ w hs;exact .nil (Fin.yg results224 hs.out)
theorem Ct{w:World}(hs:St H w σ):aaA 287 [.slice none 0 0,I 0,I 0,.func (.func 225) #[] #[]] w fun _ w'=>St H w' σ:=by
 refine Cl.o func287 ntmps287 ag4 ?_;refine .ae (.z zm (.z cz (.zn zg (.block (.loop (fun _:Unit=>⟨53,[],[(8,I (0+1)),(2,I 0)]⟩) (fun _ w=>St H w σ) (fun _=>0) () bk hs.sb ?_)))));rintro _ w hs;refine .seq (.ae (.z zm (.z zm (.z jt ?_))));rw [decide_eq_false aj];exact .nil (.cF (.exit (xT (xT (xB (Fin.yg results287 hs.out))))))
theorem HR{w:World}(hs:St H w σ):aaA 265 [.slice none 0 0,I 0,.func (.func 225) #[] #[]] w fun _ w'=>St H w' σ:=by
 refine Cl.o func265 ntmps265 ag3 ?_;refine .ae (.zn zg (.ae (.z zm (.z zg (.zn zg (.seq (.block (.loop (fun _:Unit=>⟨63,[],[(8,I 20),(7,I 0),(6,I 20),(2,.func (.func 225) #[] #[]),(1,I 0),(0,.slice none 0 0)]⟩) (fun _ w=>St H w σ) (fun _=>0) () bk hs.sb ?_))))))));rintro _ w hs;refine .seq (.ae (.z zm (.z zm (.z rl ?_))));rw [decide_eq_false aj];refine .nil (.cF (.exit (xT (xT (xB (nT (.ae (.z zm (.z zm (.z zm (.z zm (.o (.call call287 rfl (Ct hs) ?_)))))))))))));rintro _ w hs;refine .nil (.block (.loop (fun _:Unit=>⟨63,[],[(6,I 20),(1,I 0)]⟩) (fun _ w=>St H w σ) (fun _=>0) () bk hs.sb ?_));rintro _ w hs;refine .seq (.ae (.z zm (.z zm (.z jt ?_))));rw [decide_eq_false aj];exact .nil (.cF (.exit (xT (xT (xB (Fin.yg results265 hs.out))))))
theorem Ax{w:World}(hs:St H w σ):aaA 224 [.slice none 0 0,.func (.func 225) #[] #[]] w fun _ w'=>St H w' σ:=by
 refine Cl.o func224 ntmps224 ag2 ?_;refine .region (.z zm (.z zm (.z (cJ aN) (.z zm (.o (.call call265 rfl (HR hs) ?_))))));rintro _ w hs;exact .nil (Fin.yg results224 hs.out)
theorem Ng{n cap:Nat}{xs ys:List Value}(h:bM 31 (.slice (some ⟨b,0,none⟩) n cap) xs (.blk b (xs++sp)))(hl:ys.length=xs.length):bM 31 (.slice (some ⟨b,0,none⟩) n cap) ys (.blk b (ys++sp)):=by
 rcases h with ⟨a,_,_,h3⟩|⟨b',len,wx,Zh,h1,h2,h3,h4,h5⟩
 ·cases h3
 ·simp only [Value.slice.injEq] at h1;obtain ⟨-,rfl,rfl⟩:=h1;simp only [Ent.blk.injEq] at h2;rw [←h2.2] at h4;exact .inr ⟨b,n,cap,sp,rfl,rfl,by rw [hl];exact h3,by rw [List.length_append,hl,←List.length_append];exact h4,h5⟩
theorem Aw{w:World}{l:List Ev}{v:Value}(hs:St H w (en::σ))(hO:bM 31 v (evc l).flatten en)(h0:l=[]→v= .slice none 0 0)(hl:l.length≤19):
  aaA 224 [v,.func (.func 225) #[] #[]] w fun _ w'=>∃iY,bM 31 v (evc (eb l l.length)).flatten iY∧St H w' (iY::σ):=by
 by_cases e:l=[]
 ·subst e;obtain rfl:=h0 rfl;exact (Ax hs).mono fun _ _ hs=>⟨en,hO,hs⟩
 ·have hp:0<l.length:=List.length_pos_iff.2 e;obtain ⟨b,cap,sp,rfl,rfl,-⟩:=hO.Sv (ky _) aj (by rw [eM];exact hp);rw [eM] at hO ⊢;exact (B3 hs hl hp).mono fun _ _ hs=>⟨_,Ng hO (by rw [bH _ (ky _),bH _ (ky _),eM,eM,hZ]),hs⟩
set_option maxHeartbeats 8000000 in
theorem DA{b2 b3 b4:Nat}{v:Value}{l:List Ev}{day:Int}(BH:Row H b1 [v])(xY:Row H b2 [I known])(Sj:Row H b3 [I number])(Vv:Row H b4 [I day])(hr:REv H v l)(hl:L9 l)(hT:(q7 l number day known l.length).length≤19):
  Iter Tryz.prog 223 [Pt b1,Pt b2,Pt b3,Pt b4] H ((eb (q7 l number day known l.length) (q7 l number day known l.length).length).map fun x=>[x.agg]):=by
 intro ly II Ix Ec _ hy H0 Dr σf w hle Ak hs;obtain ⟨a,c,rfl⟩:=hr.shape;have YE:cellAt H0 b1 0=some (.slice a l.length c):=cellAt.mono (BH.at 0) hle;have aar:cellAt H0 b2 0=some (I known):=cellAt.mono (xY.at 0) hle;have aaq:cellAt H0 b3 0=some (I number):=cellAt.mono (Sj.at 0) hle;have aap:cellAt H0 b4 0=some (I day):=cellAt.mono (Vv.at 0) hle;have h1:=hl.len;refine Cl.o func223 ntmps223 ag5 ?_;refine .ae (.zn zg (.seq (.ae (.y hs (zld isAgg44) (.y hs (zld ai) (.o (.call call144 rfl (nC hs (hr.mono hle) hl) ?_)))))));rintro _ w ⟨H1,cn,cs,aq,rfl,hB,hs⟩;replace YE:=cellAt.mono YE aq;replace aaq:=cellAt.mono aaq aq;replace aap:=cellAt.mono aap aq;refine .z (cJ dH) (.zn zm (.for (N:=l.length) (J:=fun k fr w=>∃v en,fr=[(14,.slice cn l.length cs),(6,v),(0,.func (.yield ly) #[] #[]),(1,Pt b1),(3,Pt b3),(4,Pt b4)]∧bM 31 v (evc (q7 l number day known k)).flatten en∧(q7 l number day known k=[]→v= .slice none 0 0)∧St H1 w (en::(Dr++σf))) aj ?_ ?_ ?_))
 ·exact .mk ⟨_,.nul,rfl,.nil 31 none,fun _=>rfl,hs.nul⟩
 ·rintro k fr w hk ⟨v,en,rfl,hO,h0,hs⟩;have hx:=gV (l:=l) (i:=k) hk;have ZH:=(hl.good _ (tg (l:=l) (i:=k) hk)).kind;have Pz:=B1 (l:=l) (k:=known) hk;obtain ⟨av,cv,rfl⟩:=hO.iQ (ky _) aj;rw [eM] at hO h0 ⊢;have hm:=JF l number day known (n:=k) (m:=l.length) aj (Nat.le_refl _);have C8:=JE (a:=number) (b:=day) (c:=known) hk;refine .block (.ae (.z zm (.ixX (enc:=fun b=>[Value.bool b]) hs hB rfl rfl dH fQ Pz rfl ?_)));intro Gl o19 mB;replace mB:=bE.one mB;refine .y hs (zld pG) (.z zg (.zn zg (.ae (.y hs (zld isAgg44) (.z zm (.ixX (enc:=Ev.c) hs ((hr.mono hle).mono aq).rs rfl rfl aN aH hx rfl ?_))))));intro LW o23 qx;refine .q hs (bD (vs:=(evG l k).c) rfl cP aH qx) (.o (.alloc hs dA rfl fun b9 w hs=>?_));refine .o (.iK (vs:=[_,_,_,_,_,_,_,_,_,_,_,_,_,_,_,_,_,_,_,_,_,_,_,_,_,_,_,_,_,_,_]) hs rfl rfl aH fun w hs=>?_);refine .nil (.ae (.z zm (.z zm (.bif (t':=26) rfl (fun F9=>?_) (fun F9=>?_)))))
  ·refine .T (.z (zfa dc) (.T (.y hs (zld ai) (.T (.z gE (.z zpT (.z zm (.Js (t':=31) rfl (fun F7=>?_) (fun F7=>?_)))))))))
   ·refine .T (.z (zfa dc) (.T (.y hs (zld ai) (.T (.z gE ?_)))));rw [decide_eq_false aj];refine .z zpT (.z zm (.T (.z (zfa gJ) (.T (.y hs (zld ai) (.T (.y hs (zld ai) (.T (.z gO (.z zpT (.z zm (.mW (t':=42) rfl (fun F3=>?_) (fun F3=>?_)))))))))))))
    ·refine .T (.z (zfa eT) (.T (.y hs (zld ai) (.T (.y hs (zld ai) (.T (.z rl (.zn zpT (.bX rfl (fun pQ=>?_) (fun pQ=>?_))))))))))
     ·refine .region (.z zm (.y hs (zls [_,_,_,_,_,_,_,_,_,_,_,_,_,_,_,_,_,_,_,_,_,_,_,_,_,_,_,_,_,_,_] cP aH) (.o (.buildSlice (cells:=(evG l k).c) hs iV rfl au fun YJ w hs=>?_))));refine .o (.append (ys:=(evG l k).c) hs fY rfl rfl hO (.own dr rfl rfl) (by simp [Ev.c,Value.oneCell']) (fun l' h=>by rw [bH _ (ky _),eM] at h;omega) ?_);intro v51 en51 w eh hs;rw [←CK] at eh;exact .zn zg (nB (nT (.mk ⟨_,en51,rfl,by rw [C8,if_pos ⟨⟨of_decide_eq_true dQ,by assumption⟩,by assumption,by assumption⟩];exact eh,fun h=>by rw [C8,if_pos ⟨⟨of_decide_eq_true dQ,by assumption⟩,by assumption,by assumption⟩] at h;simp at h,hs.sb⟩)))
     ·exact .skip (nB (nT (.mk ⟨_,en,rfl,by rw [C8,if_neg (by first|(simp_all;done)|(simp_all;omega))];exact hO,by rw [C8,if_neg (by first|(simp_all;done)|(simp_all;omega))];exact h0,hs.sb⟩)))
    ·exact .Fs 4 17 true (.zn zpF (.cF (.skip (nB (nT (.mk ⟨_,en,rfl,by rw [C8,if_neg (by first|(simp_all;done)|(simp_all;omega))];exact hO,by rw [C8,if_neg (by first|(simp_all;done)|(simp_all;omega))];exact h0,hs.sb⟩))))))
   ·exact .Fs 3 6 true (.z zpF (.z zm (.Fs 4 11 true (.z zpF (.z zm (.Fs 4 17 true (.zn zpF (.cF (.skip (nB (nT (.mk ⟨_,en,rfl,by rw [C8,if_neg (by first|(simp_all;done)|(simp_all;omega))];exact hO,by rw [C8,if_neg (by first|(simp_all;done)|(simp_all;omega))];exact h0,hs.sb⟩))))))))))))
  ·exact .Fs 3 1 true (.z zpF (.z zm (.Fs 3 6 true (.z zpF (.z zm (.Fs 4 11 true (.z zpF (.z zm (.Fs 4 17 true (.zn zpF (.cF (.skip (nB (nT (.mk ⟨_,en,rfl,by rw [C8,if_neg (by first|(simp_all;done)|(simp_all;omega))];exact hO,by rw [C8,if_neg (by first|(simp_all;done)|(simp_all;omega))];exact h0,hs.sb⟩)))))))))))))))
 ·rintro fr w ⟨v,en,rfl,hO,h0,hs⟩;refine nT (.ae (.z zm (.o (.call call224 rfl (Aw hs hO h0 hT) ?_))));rintro _ w ⟨iY,Ob,hs⟩;obtain ⟨av,cv,rfl⟩:=Ob.iQ (ky _) aj;rw [eM,hZ] at Ob ⊢;have WI:=hZ (q7 l number day known l.length) (q7 l number day known l.length).length;generalize hS:eb (q7 l number day known l.length) (q7 l number day known l.length).length=S at*;generalize hTl:(q7 l number day known l.length).length=N at*;refine .nil (.ae (.z zm (.z (cJ aN) (.zn zm (.for (N:=N) (J:=fun k fr w=>fr=[(55,.slice av N cv),(0,.func (.yield ly) #[] #[])]∧∃H2 σb,HLe H1 H2∧II k H2 σb∧St H2 w (σb++(iY::σf))) aj ?_ ?_ ?_)))))
  ·exact .mk ⟨rfl,H1,Dr,HLe.refl _,Ec _ _ _ _ aq Ak,hs.perm List.perm_middle.symm⟩
  ·rintro k fr w hk ⟨rfl,H2,σb,aO,Yv,hs⟩;obtain ⟨bn,cap,sp,hv,rfl,-⟩:=Ob.Sv (ky _) aj (by rw [eM];omega);simp only [Value.slice.injEq] at hv;obtain ⟨rfl,-,rfl⟩:=hv;have hx:=gV (l:=S) (i:=k) aj;refine .block (.ae (.z (yp (j:=k) aN aH) (.q hs (jA (vs:=(evG S k).c) rfl cP aH (hm:=Mem.xJ .here) (hv:=wO (ky _) (zO hx) sp)) (.o (.alloc hs dA rfl fun EJ w hs=>?_)))));refine .o (.iK (vs:=[_,_,_,_,_,_,_,_,_,_,_,_,_,_,_,_,_,_,_,_,_,_,_,_,_,_,_,_,_,_,_]) hs rfl rfl aH fun w hs=>?_);refine .nil (.ae (.z zm (.y hs (zls [_,_,_,_,_,_,_,_,_,_,_,_,_,_,_,_,_,_,_,_,_,_,_,_,_,_,_,_,_,_,_] cP aH) ?_)));have xx:=hy k (by rw [List.length_map];omega) H2 σb (.blk bn ((evc S).flatten++sp)::σf) w (hle.trans (aq.trans aO)) Yv hs.tail;have Sg:((S.map fun x=>[x.agg])[k]'(by rw [List.length_map];omega))=[(evG S k).agg]:=by
    rw [List.getElem_map];rw [List.getElem?_eq_getElem aj] at hx;rw [Option.some.inj hx]
   rw [Sg] at xx;refine .o (.yield rfl rfl xx ?_);rintro v63 w ⟨H3,σ3,g1,hs,g3⟩;obtain ⟨bb,rfl,gT,gF⟩:=oH g3;refine .zn im (.cond rfl (fun K6=>?_) (fun K6=>?_))
   ·exact .ret (rB (rT (rB (Fin.Qu results223 ⟨H3,σ3,aq.trans (aO.trans g1),(hs.perm List.perm_middle).tail,.inr (gF (by simpa using K6))⟩))))
   ·exact .skip (nB (nT (.mk ⟨rfl,H3,σ3,aO.trans g1,gT (by simpa using K6),hs⟩)))
  ·rintro fr w ⟨rfl,H2,σb,aO,Yv,hs⟩;exact Fin.yg results223 ⟨H2,σb,aq.trans aO,(hs.perm List.perm_middle).tail,.inl (by rw [List.length_map,WI];exact Yv)⟩
theorem ze{w:World}{v:Value}{l:List Ev}{day:Int}(hs:St H w σ)(hr:REv H v l)(hl:L9 l)(hT:(q7 l number day known l.length).length≤19):
  aaA 146 [v,I number,I day,I known] w fun u w'=>∃H1 b1 b2 b3 b4,HLe H H1∧u= .func (.func 223) #[] #[Pt b1,Pt b2,Pt b3,Pt b4]∧
   Iter Tryz.prog 223 [Pt b1,Pt b2,Pt b3,Pt b4] H1 ((eb (q7 l number day known l.length) (q7 l number day known l.length).length).map fun x=>[x.agg])∧St H1 w' σ:=by
 obtain ⟨a,c,rfl⟩:=hr.shape;refine Cl.o func146 ntmps146 ag4 ?_;refine .ae (.bx hs fun b4 w hs=>?_);refine .bx hs fun b5 w hs=>?_
 refine .bx hs fun b6 w hs=>?_
 refine .bx hs fun b7 w hs=>?_
 refine .zn zg (.ae (.q hs (cV (f:=[]) (c:=[_,_,_,_]) rfl rfl) (.zn zg (.ret (Fin.bp results146 rfl ?_)))));obtain ⟨H1,g1,r1,hs⟩:=hs.bQ (b:=b4) dr;obtain ⟨H2,g2,r2,hs⟩:=hs.bQ (b:=b5) dr;obtain ⟨H3,g3,r3,hs⟩:=hs.bQ (b:=b6) dr;obtain ⟨H4,g4,r4,hs⟩:=hs.bQ (b:=b7) dr;exact ⟨H4,b4,b7,b5,b6,g1.trans (g2.trans (g3.trans g4)),rfl,DA (r1.mono (g2.trans (g3.trans g4))) r4 (r2.mono (g3.trans g4)) (r3.mono g4) (hr.mono (g1.trans (g2.trans (g3.trans g4)))) hl hT,hs⟩
set_option maxHeartbeats 4000000 in
theorem vU{w:World}{x:Ev}{n:Int}{u:Srv}{a2 cmp:Value}
  (hs:St H w (.blk b (shC n fl u a2 b2 c2 d2 vc th cmp tap dn vd)::σ)) (g:SvM H u a2 b2 c2 d2) (hx:x.room=u.sp.id) (bh:eg (u.add x.rd)) (hl:u.rs.length≤1000):
  aaA 222 [Pt b,x.agg] w fun v w'=>∃H1 q k,HLe H H1∧v= .bool true∧SvM H1 (u.add x.rd) a2 b2 (.slice q (u.rs.length+1) k) d2∧
   St H1 w' (.blk b (shC n fl (u.add x.rd) a2 b2 (.slice q (u.rs.length+1) k) d2 vc th cmp tap dn vd)::σ):=by
 obtain ⟨qa,ka,rfl⟩:=RI.shape g.st;obtain ⟨qb,kb,rfl⟩:=RI.shape g.wa;obtain ⟨qc,kc,rfl⟩:=RRd.shape g.rd;obtain ⟨qd,kd,rfl⟩:=RCm.shape g.cm;refine Cl.o func222 ntmps222 ag2 ?_;refine .ae (.bx hs fun b3 w hs=>?_);refine .zn zg (.ae (.z zm (.z (zfa fB) (.y hs (zld ai) ?_))));rw [hx];refine .o (.call call50 rfl (DW hs (.there .here)) ?_);rintro _ w ⟨rfl,hs⟩;refine .zn zg (.seq (.ae (.z zm (.q hs (DM rfl rfl runUnderlying150) (.nil (.cF (.skip (nT (.ae (.z zm (.z znc (.q hs (jA (vs:=svC u (.slice qa u.sp.st.length ka) (.slice qb u.sp.wa.length kb) (.slice qc u.rs.length kc) (.slice qd u.cs.length kd)) rfl bA aM (hm:= .there .here) (hv:=rfl)) (.o (.alloc hs kl rfl fun b6 w hs=>?_))))))))))))));refine .o (.aD (vs:=[_,_,_,_,_,_,_,_]) hs rfl rfl aM fun w hs=>?_);refine .nil (.cut (fun fs w=>∃H1 b6 q k,np fs ⟨32,[],[(6,Pt b6),(5,.pointer (some ⟨b,2,none⟩))]⟩∧HLe H H1∧RRd H1 (.slice q (u.rs.length+1) k) (u.rs++[x.rd])∧St H1 w (.blk b6 (svC u (.slice qa u.sp.st.length ka) (.slice qb u.sp.wa.length kb) (.slice q (u.rs.length+1) k) (.slice qd u.cs.length kd)):: .blk b (shC n fl u (.slice qa u.sp.st.length ka) (.slice qb u.sp.wa.length kb) (.slice qc u.rs.length kc) (.slice qd u.cs.length kd) vc th cmp tap dn vd)::σ)) ?_ ?_)
 ·refine .draw mix rfl hs fun w hs=>?_
  refine .zw 0 rfl zm ?_;refine .z 1 rfl znc ?_;refine .z 2 rfl (zfa aS) ?_;refine .y 3 rfl hs fa ?_;refine .z 5 rfl (zfa eX) ?_;refine .ys 6 rfl hs [_,_,_,_,_,_,_] iP bF ?_;refine .e2 (i:=4) (j:=7) au rfl rfl rfl rfl .none .none hs ?_ ?_
  ·refine .call call264 rfl (jP hs g.rd aj) ?_;rintro v20 w ⟨e20,Ge,hs⟩;refine .go (.E 7 hs ?_);refine .buildSlice (cells:=x.rd.c) hs ez rfl au ?_;intro LW w hs;refine .go (.E 8 hs ?_);refine .append (ys:=x.rd.c) hs cf rfl rfl Ge (.own dr rfl rfl) (by simp [Rdg.c,Value.oneCell']) (fun l' h=>by rw [bH _ (mz _),cU] at h;omega) ?_;intro v24 en24 w oS hs;rw [←ra] at oS;obtain ⟨a24,c24,rfl⟩:=oS.iQ (mz _) aj;rw [cU,List.length_append,List.length_singleton] at oS ⊢;refine .go (.zw 9 rfl (zfa aS) (.E 10 hs ?_));refine .store hs rfl rfl Gu ?_;intro w hs;refine .go (.D hs ?_);obtain ⟨H1,aq,hR,hs⟩:=bM.bQ (m:=7) (cs:=rdc (u.rs++[x.rd])) oS (mz _) aj (by rw [cU,List.length_append,List.length_singleton];omega) hs dr;exact nT ⟨H1,b6,_,_,bk,aq,hR,hs.sb⟩
  ·refine .buildSlice (cells:=x.rd.c) hs ez rfl au ?_;intro LW w hs;refine .go (.E 4 hs ?_);refine .call call264 rfl (jP hs g.rd aj) ?_;rintro v20 w ⟨e20,Ge,hs⟩;refine .go (.E 8 hs ?_);refine .append (ys:=x.rd.c) hs cf rfl rfl Ge (.own dr rfl rfl) (by simp [Rdg.c,Value.oneCell']) (fun l' h=>by rw [bH _ (mz _),cU] at h;omega) ?_;intro v24 en24 w oS hs;rw [←ra] at oS;obtain ⟨a24,c24,rfl⟩:=oS.iQ (mz _) aj;rw [cU,List.length_append,List.length_singleton] at oS ⊢;refine .go (.zw 9 rfl (zfa aS) (.E 10 hs ?_));refine .store hs rfl rfl Gu ?_;intro w hs;refine .go (.D hs ?_);obtain ⟨H1,aq,hR,hs⟩:=bM.bQ (m:=7) (cs:=rdc (u.rs++[x.rd])) oS (mz _) aj (by rw [cU,List.length_append,List.length_singleton];omega) hs dr;exact nT ⟨H1,b6,_,_,bk,aq,hR,hs.sb⟩
 ·rintro fs w ⟨H1,b6,q,k,i7,aq,hR,hs⟩;refine WE.sub ?_ i7;clear i7;have gk:SvM H1 (u.add x.rd) (.slice qa u.sp.st.length ka) (.slice qb u.sp.wa.length kb) (.slice q (u.rs.length+1) k) (.slice qd u.cs.length kd):=⟨(g.mono aq).st,(g.mono aq).wa,hR,(g.mono aq).cm⟩;refine .seq (.ae (.y hs (zls [_,_,_,_,_,_,_,_] bA aM) (.o (.call call53 rfl (fb (s:=u.add x.rd) hs gk.st gk.wa gk.rd gk.cm) ?_))));rintro _ w ⟨H2,e,aO,rfl,hE,hs⟩;obtain rfl:e=0:=hE.dt.2 bh;refine .z gE ?_;rw [decide_eq_true rfl];refine .nil (.cF (.skip (nT (.ae (.z zm (.y hs (zls [_,_,_,_,_,_,_,_] bA aM) (.z znc (.o (.aD (vs:=[_,_,_,_,_,_,_,_]) hs rfl rfl aM fun w hs=>?_)))))))));exact .nil (.ae (.zn zg (.ret (Fin.bp results222 rfl ⟨H2,q,k,aq.trans aO,rfl,gk.mono aO,hs.out⟩))))
abbrev dF(f:Nat):Value:= .func (.func f) #[] #[]
def mT:List MapEntry:=[⟨I 1,dF 215,0⟩,⟨I 2,dF 216,1⟩,⟨I 3,dF 217,2⟩,⟨I 4,dF 218,3⟩,⟨I 5,dF 219,4⟩,⟨I 6,dF 220,5⟩,⟨I 7,dF 221,6⟩,⟨I 8,dF 222,7⟩]
set_option maxHeartbeats 4000000 in
theorem zf{w:World}(hs:St H w σ):aaA 145 [] w fun u w'=>∃b,u= .map (some b)∧St H w' (.obj b (.map mT.toArray 8)::σ):=by
 refine Cl.of func145 rfl ntmps145 br (A4) (.ae (.zn zg (.ae (.o (.makeMap hs fun b1 w hs=>?_)))));refine .o (.insert (es:=[]) hs rfl rfl rfl fR aF rfl fun w hs=>?_);refine .o (.insert (es:=mT.take 1) hs rfl rfl rfl fR aF rfl fun w hs=>?_);refine .o (.insert (es:=mT.take 2) hs rfl rfl rfl fR aF rfl fun w hs=>?_);refine .o (.insert (es:=mT.take 3) hs rfl rfl rfl fR aF rfl fun w hs=>?_);refine .o (.insert (es:=mT.take 4) hs rfl rfl rfl fR aF rfl fun w hs=>?_);refine .o (.insert (es:=mT.take 5) hs rfl rfl rfl fR aF rfl fun w hs=>?_);refine .o (.insert (es:=mT.take 6) hs rfl rfl rfl fR aF rfl fun w hs=>?_);refine .o (.insert (es:=mT.take 7) hs rfl rfl rfl fR aF rfl fun w hs=>?_);exact .z zm (.zn zg (.ret (Fin.bp results145 rfl ⟨b1,rfl,hs.out⟩)))
theorem LJ{w:World}{x:Ev}{L:Liv}{n:Int}{cmp:Value}{blk:List Value}{ce:Ent}{cs:List Cmp}(hs:St H w (.blk b blk::ce::σ))(hM:ShM H n L cmp tap dn vd blk ce)(bh:OkE L x)(hx:EvM H x)(hc:RCm H cmp cs)(hl:cs.length≤100):
  ∃i f,Instr.findNow (.int .i64) (I x.kind) mT 0=some (some (i,dF f))∧(∀args w,(callFunc f args).run Tryz.prog w= .ok (.enter f args) w)∧
   aaA f [Pt b,x.agg] w fun v w'=>v= .bool true∧∃H' blk' ce',HLe H H'∧ShM H' n (m9 cs L x) cmp tap dn vd blk' ce'∧St H' w' (.blk b blk'::ce'::σ):=by
 obtain ⟨a,b',c,d,vc,rfl,hS,hC⟩:=hM.ex
 cases bh with
 |build h h1 h2=>
  rw [h1] at hs;refine ⟨0,215,by rw [h.kind];rfl,call215,?_⟩;refine (zi hs hx h.new hc hl).mono ?_;rintro _ w ⟨H1,a1,c1,a2,c2,a3,c3,aq,rfl,Cz,hs⟩;have e:m9 cs L x=⟨true,x.num,⟨x.sp,[],cs⟩,L.cells⟩:=by unfold m9;rw [if_pos h.kind]
  rw [e];exact ⟨rfl,H1,_,_,aq,⟨_,_,_,_,_,rfl,fun _=>Cz,hC.mono aq⟩,hs⟩
 |room h h1 h2 h3=>
  rw [h2] at hC;cases hC
  refine ⟨1,216,by rw [h.kind];rfl,call216,?_⟩;refine (AM hs hx h.new h3 hc hl).mono ?_;rintro _ w ⟨H1,a1,c1,a2,c2,a3,c3,bc,cap,sp,aq,rfl,qw,Cz,hs⟩;have e:m9 cs L x={L with cells:=[(SN x,⟨x.sp,[],cs⟩)]}:=by unfold m9;rw [if_neg (by have:=h.kind;omega),if_pos h.kind]
  rw [e];exact ⟨rfl,H1,_,_,aq,⟨_,_,_,_,_,rfl,fun h=>(hS h).mono aq,.one Cz qw⟩,hs.sub (.cons .here (.cons .here (Sub.weaken (Sub.refl _))))⟩
 |hull h h1 h2 h3 h4=>
  refine ⟨7,222,by rw [h.kind];rfl,call222,?_⟩;refine (vU hs (hS h1) h2.symm h3 h4).mono ?_;rintro _ w ⟨H1,q,k,aq,rfl,Cz,hs⟩;have e:m9 cs L x={L with hu:=L.hu.add x.rd}:=by unfold m9;rw [if_neg (by have:=h.kind;omega),if_neg (by have:=h.kind;omega),if_pos h2]
  rw [e];exact ⟨rfl,H1,_,_,aq,⟨_,_,_,_,_,rfl,fun _=>Cz,hC.mono aq⟩,hs⟩
 | @cell r u h h1 h2 Ai h3 h4 h5=>
  rw [Ai] at hC
  cases hC with
  |one hu qw=>
   refine ⟨7,222,by rw [h.kind];rfl,call222,?_⟩;refine (vT hs hu h3.symm (by rw [h3];exact h2) h4 h5).mono ?_;rintro _ w ⟨H1,q,k,aq,rfl,Cz,hs⟩;have e:m9 cs L x={L with cells:=[(r,u.add x.rd)]}:=by unfold m9;rw [if_neg (by have:=h.kind;omega),if_neg (by have:=h.kind;omega),if_neg h2,Ai];rfl
   rw [e];exact ⟨rfl,H1,_,_,aq,⟨_,_,_,_,_,rfl,fun h=>(hS h).mono aq,.one Cz qw⟩,hs⟩
set_option maxHeartbeats 16000000 in
theorem kG{w:World}{v:Value}{l S:List Ev}{cs:List Cmp}{day:Int}(hs:St H w σ)(hr:REv H v l)(hl:L9 l)(hT:(q7 l number day known l.length).length≤19)
  (hS:eb (q7 l number day known l.length) (q7 l number day known l.length).length=S) (K3:wu l known l.length=cs) (bh:ER cs se S):
  aaA 76 [v,I number,I day,I known] w fun u w'=>∃H1 b blk ce cmp tap dn,HLe H H1∧u=Pt b∧ShM H1 number (S.foldl (m9 cs) se) cmp tap dn (.slice none 0 0) blk ce∧St H1 w' (.blk b blk::ce::σ):=by
 obtain ⟨a,c,rfl⟩:=hr.shape;have h1:=hl.len;have hSl:S.length≤19:=by rw [←hS,hZ];exact hT
 have Ai:=Hp l known l.length;rw [K3] at Ai;refine Cl.o func76 ntmps76 ag4 ?_;refine .ae (.zn zg (.ae (.z zm (.z (zbd [I number,I 0,I 0,I 0,.slice none 0 0,.slice none 0 0,I 0,I 0,.slice none 0 0,.slice none 0 0,.slice none 0 0] uK rfl au) (.z (zbd [I number,I 0,I 0,I 0,.slice none 0 0,.slice none 0 0,I 0,I 0,.slice none 0 0,.slice none 0 0,.slice none 0 0,.bool false,.slice none 0 0,.slice none 0 0,.slice none 0 0,.slice none 0 0] CT rfl au) (.bx hs fun tr w hs=>?_))))));refine .o (.alloc hs zeroValue142 rfl fun b9 w hs=>?_);refine .o (.store hs rfl rfl sizeOf142 fun w hs=>?_);refine .nil (.seq (.ae (.z zm (.z zm (.o (.call call144 rfl (nC hs hr hl) ?_))))));rintro _ w ⟨H1,cn,ks,aq,rfl,hB,hs⟩;replace hr:=hr.mono aq;refine .z (cJ dH) (.zn zm (.for (N:=l.length) (J:=fun k fr w=>∃vc vt ec et xs,fr=[(20,.slice cn l.length ks),(9,Pt b9),(0,.slice a l.length c),(1,I number),(2,I day),(3,I known)]∧bM 6 vc (cmc (wu l known k)).flatten ec∧bM 2 vt xs et∧xs.length≤2*k∧St H1 w (ec::et:: .blk b9 [Pt tr]:: .blk tr (shC number 0 ⟨sp0,[],[]⟩ (.slice none 0 0) (.slice none 0 0) (.slice none 0 0) (.slice none 0 0) (.slice none 0 0) false vc vt (.slice none 0 0) (.slice none 0 0))::σ)) aj ?_ ?_ ?_))
 ·exact .mk ⟨_,_,.nul,.nul,[],rfl,.nil 6 none,.nil 2 none,br,hs.nul.nul⟩
 ·rintro k fr w hk ⟨vc,vt,ec,et,xs,rfl,PI,Sl,hxs,hs⟩;have hx:=gV (l:=l) (i:=k) hk;have Pz:=B1 (l:=l) (k:=known) hk;have C8:=I0 (known:=known) hk;have Vr:=Hp l known k;refine .block (.ae (.z zm (.ixX (enc:=fun b=>[Value.bool b]) hs hB rfl rfl dH fQ Pz rfl ?_)));intro I4 o25 kA;replace kA:=bE.one kA;refine .y hs (zld pG) (.z zg (.zn zg (.ae (.z zm (.z zm (.bif (t':=28) rfl (fun F8=>?_) (fun F8=>?_)))))))
  ·refine .T (.z zm (.T (.z zm (.T (.ixX (enc:=Ev.c) hs hr.rs rfl rfl aN aH hx rfl ?_)))));intro Hu o31 oQ;refine .T (.z (zfa dc) (.T (.q hs (aP rfl ai (oQ.get 2 rfl)) (.T (.z gO (.zn zpT (.bX rfl (fun we=>?_) (fun we=>?_))))))))
   ·refine .draw mix rfl hs fun w hs=>?_
    refine .y 0 rfl hs nV ?_;refine .y 1 rfl hs nV ?_;refine .y 2 rfl hs nV ?_;refine .z 3 rfl znc ?_;refine .z 4 rfl (zfa jK) ?_;refine .y 5 rfl hs rW ?_;refine .z 6 rfl zm ?_;refine .z 7 rfl zm ?_;refine .ixX (enc:=Ev.c) (i:=8) hs rfl au .none hr.rs rfl rfl aN aH hx rfl ?_;intro b44 o44 AU;refine .zw 9 rfl (zfa fN) (.r (i:=10) hs rfl au .none (bD (vs:=(evG l k).cm.c) rfl wD dO (AU.sub 23 _)) ?_);refine .y 13 rfl hs nV ?_;refine .z 14 rfl znc ?_;refine .z 15 rfl (zfa lz) ?_;refine .y 16 rfl hs isAgg145 ?_;refine .z 17 rfl zm ?_;refine .z 18 rfl zm ?_;refine .ixX (enc:=Ev.c) (i:=19) hs rfl au .none hr.rs rfl rfl aN aH hx rfl ?_;intro b55 o55 TZ;refine .zw 20 rfl (zfa dm) (.r (i:=21) hs rfl au .none (bD (vs:=[I (evG l k).off,I (evG l k).seq]) rfl kZ fq (TZ.sub 0 _)) ?_);refine .e2 (i:=11) (j:=22) au rfl rfl rfl rfl .none .none hs ?_ ?_
    ·refine .buildSlice (cells:=(evG l k).cm.c) hs jE rfl au ?_;intro VI w hs;refine .go (.e2 (i:=12) (j:=22) au rfl rfl rfl rfl .none .none hs ?_ ?_)
     ·refine .append (ys:=(evG l k).cm.c) hs dd rfl rfl PI (.own dr rfl rfl) (by simp [Cmp.c,Value.oneCell']) (fun l' h=>by rw [bH _ (xE _),jw] at h;omega) ?_;intro v48 en48 w zJ hs;rw [←uA] at zJ;obtain ⟨a48,c48,rfl⟩:=zJ.iQ (xE _) aj;refine .go (.E 22 hs ?_);refine .buildSlice (cells:=[I (evG l k).off,I (evG l k).seq]) hs gz rfl au ?_;intro Sw w hs;refine .go (.E 23 hs ?_);refine .append (ys:=[I (evG l k).off,I (evG l k).seq]) hs dI rfl rfl Sl (.own dr rfl rfl) (by simp [Value.oneCell']) (fun l' h=>by omega) ?_;intro v59 en59 w Eo hs;obtain ⟨a59,n59,c59,rfl,-⟩:=Eo.shape;refine .go (.zw 24 rfl znc ?_);refine .z 25 rfl (zfa jK) ?_;refine .E 26 hs ?_;refine .store hs rfl rfl P3 ?_;intro w hs;refine .go (.zw 27 rfl znc ?_);refine .z 28 rfl (zfa lz) ?_;refine .E 29 hs ?_;refine .store hs rfl rfl Ji ?_;intro w hs;exact .go (.D hs (nB (nT (.mk ⟨_,_,en48,en59,_,rfl,by rw [C8,if_pos (by first|(simp_all;done)|(simp_all;omega))];exact zJ,Eo,by simp;omega,hs.sb⟩))))
     ·refine .buildSlice (cells:=[I (evG l k).off,I (evG l k).seq]) hs gz rfl au ?_;intro Sw w hs;refine .go (.E 12 hs ?_);refine .append (ys:=(evG l k).cm.c) hs dd rfl rfl PI (.own dr rfl rfl) (by simp [Cmp.c,Value.oneCell']) (fun l' h=>by rw [bH _ (xE _),jw] at h;omega) ?_;intro v48 en48 w zJ hs;rw [←uA] at zJ;obtain ⟨a48,c48,rfl⟩:=zJ.iQ (xE _) aj;refine .go (.E 23 hs ?_);refine .append (ys:=[I (evG l k).off,I (evG l k).seq]) hs dI rfl rfl Sl (.own dr rfl rfl) (by simp [Value.oneCell']) (fun l' h=>by omega) ?_;intro v59 en59 w Eo hs;obtain ⟨a59,n59,c59,rfl,-⟩:=Eo.shape;refine .go (.zw 24 rfl znc ?_);refine .z 25 rfl (zfa jK) ?_;refine .E 26 hs ?_;refine .store hs rfl rfl P3 ?_;intro w hs;refine .go (.zw 27 rfl znc ?_);refine .z 28 rfl (zfa lz) ?_;refine .E 29 hs ?_;refine .store hs rfl rfl Ji ?_;intro w hs;exact .go (.D hs (nB (nT (.mk ⟨_,_,en48,en59,_,rfl,by rw [C8,if_pos (by first|(simp_all;done)|(simp_all;omega))];exact zJ,Eo,by simp;omega,hs.sb⟩))))
    ·refine .buildSlice (cells:=[I (evG l k).off,I (evG l k).seq]) hs gz rfl au ?_;intro Sw w hs;refine .go (.E 11 hs ?_);refine .buildSlice (cells:=(evG l k).cm.c) hs jE rfl au ?_;intro VI w hs;refine .go (.E 12 hs ?_);refine .append (ys:=(evG l k).cm.c) hs dd rfl rfl PI (.own dr rfl rfl) (by simp [Cmp.c,Value.oneCell']) (fun l' h=>by rw [bH _ (xE _),jw] at h;omega) ?_;intro v48 en48 w zJ hs;rw [←uA] at zJ;obtain ⟨a48,c48,rfl⟩:=zJ.iQ (xE _) aj;refine .go (.E 23 hs ?_);refine .append (ys:=[I (evG l k).off,I (evG l k).seq]) hs dI rfl rfl Sl (.own dr rfl rfl) (by simp [Value.oneCell']) (fun l' h=>by omega) ?_;intro v59 en59 w Eo hs;obtain ⟨a59,n59,c59,rfl,-⟩:=Eo.shape;refine .go (.zw 24 rfl znc ?_);refine .z 25 rfl (zfa jK) ?_;refine .E 26 hs ?_;refine .store hs rfl rfl P3 ?_;intro w hs;refine .go (.zw 27 rfl znc ?_);refine .z 28 rfl (zfa lz) ?_;refine .E 29 hs ?_;refine .store hs rfl rfl Ji ?_;intro w hs;exact .go (.D hs (nB (nT (.mk ⟨_,_,en48,en59,_,rfl,by rw [C8,if_pos (by first|(simp_all;done)|(simp_all;omega))];exact zJ,Eo,by simp;omega,hs.sb⟩))))
   ·exact .skip (nB (nT (.mk ⟨vc,vt,ec,et,xs,rfl,by rw [C8,if_neg (by first|(simp_all;done)|(simp_all;omega))];exact PI,Sl,aj,hs.sb⟩)))
  ·exact .Fs 6 1 true (.zn zpF (.cF (.skip (nB (nT (.mk ⟨vc,vt,ec,et,xs,rfl,by rw [C8,if_neg (by first|(simp_all;done)|(simp_all;omega))];exact PI,Sl,aj,hs.sb⟩))))))
 ·rintro fr w ⟨vc,vt,ec,et,xs,rfl,PI,Sl,hxs,hs⟩;rw [K3] at PI;obtain ⟨H2,aO,Ur,hs⟩:=bM.bQ (m:=6) PI (xE _) aj (by rw [jw];omega) hs .here;replace Ur:RCm H2 vc cs:=Ur;replace hr:=hr.mono aO;refine nT (.ae (.o (.call call145 rfl (zf hs) ?_)));rintro _ w ⟨bm,rfl,hs⟩;refine .o (.alloc hs zeroValue258 rfl fun rP w hs=>?_);refine .o (.store hs rfl rfl sizeOf258 fun w hs=>?_);refine .nil (.seq (.ae (.z zm (.z zm (.z zm (.z zm (.o (.call call146 rfl (ze hs hr hl hT) ?_))))))));rintro _ w ⟨H3,q1,q2,q3,q4,bP,rfl,oG,hs⟩;rw [hS] at oG;replace hr:=hr.mono bP;replace Ur:=Ur.mono bP;refine .nil (.block ?_);refine .rangeFunc (gf:=223) (cap:=[Pt q1,Pt q2,Pt q3,Pt q4]) (xs:=S.map fun x=>[x.agg])
   (σb:=[.blk b9 [Pt tr],.blk tr (shC number 0 ⟨sp0,[],[]⟩ (.slice none 0 0) (.slice none 0 0) (.slice none 0 0) (.slice none 0 0) (.slice none 0 0) false vc vt (.slice none 0 0) (.slice none 0 0)),.nul,.nul,.obj bm (.map mT.toArray 8),.blk rP [.map (some bm)]]) (σf:=σ)
   ((show St H3 w (.blk b9 [Pt tr]:: .blk tr (shC number 0 ⟨sp0,[],[]⟩ (.slice none 0 0) (.slice none 0 0) (.slice none 0 0) (.slice none 0 0) (.slice none 0 0) false vc vt (.slice none 0 0) (.slice none 0 0)):: .nul:: .nul:: .obj bm (.map mT.toArray 8):: .blk rP [.map (some bm)]::σ) from hs.nul.nul.sb)) trivial rfl oG call223 (fun x hx=>by
    simp only [List.mem_map] at hx;obtain ⟨j,_,rfl⟩:=hx;rfl) rfl
   (I:=fun k H' σb=>∃dn edn blk ce xs,σb=[.blk b9 [Pt tr],.blk tr blk,ce,edn,.obj bm (.map mT.toArray 8),.blk rP [.map (some bm)]]∧bM 2 dn xs edn∧xs.length=2*k∧ShM H' number ((S.take k).foldl (m9 cs) se) vc vt dn (.slice none 0 0) blk ce) (Ix:=fun _ _ _=>False)
   (fun k _ _ σ g1 ⟨dn,edn,blk,ce,xs,g2,g3,g4,g5⟩=>⟨dn,edn,blk,ce,xs,g2,g3,g4,g5.mono g1⟩) (fun _ _ _ _ _ h=>h)
   ⟨.slice none 0 0,.nul,_,.nul,[],rfl,.nil 2 none,rfl,⟨_,_,_,_,_,rfl,fun h=>(by cases h),.nil⟩⟩ ?_ ?_ (fun D c H' σb w _ h _=>h.elim)
  ·rintro ly k hk H5 σb5 σf5 w eV ⟨dn,edn,blk,ce,xs,rfl,Yl,sf,hM⟩ hs ⟨rr,GV⟩;have rF:k<S.length:=by simpa using hk
   have hx:=gV (l:=S) (i:=k) rF;have Sg:((S.map fun x=>[x.agg])[k]'hk)=[(evG S k).agg]:=by
    rw [List.getElem_map];rw [List.getElem?_eq_getElem rF] at hx;rw [Option.some.inj hx]
   rw [Sg];have hE:=bh.at_ hx;have i7:=fold_succ (cs:=cs) (L:=se) hx;have O6:EvM H5 (evG S k):=by
    have zt:evG S k∈q7 l number day known l.length:=by
     have h2:=(vu (q7 l number day known l.length) (Nat.le_refl _)).mem_iff (a:=evG S k);rw [hS,List.take_length] at h2;exact h2.1 (tg rF)
    have h3:evG S k∈l:=List.mem_of_mem_take (List.mem_filter.1 zt).1;exact (hr.all _ h3).mono eV
   generalize Yp:(S.take k).foldl (m9 cs) se=Lk at*;obtain ⟨ha,hb,hc,hd,Ws,rfl,hS5,hC5⟩:=hM.ex;refine .region (.o (.alloc hs dA rfl fun jG w hs=>?_));refine .o (.iK (vs:=[_,_,_,_,_,_,_,_,_,_,_,_,_,_,_,_,_,_,_,_,_,_,_,_,_,_,_,_,_,_,_]) hs rfl rfl aH fun w hs=>?_);refine .nil (nT ⟨H5,.blk jG (evG S k).c::[.blk b9 [Pt tr],.blk tr (shC number Lk.flag Lk.hu ha hb hc hd Ws Lk.there vc vt dn (.slice none 0 0)),ce,edn,.obj bm (.map mT.toArray 8),.blk rP [.map (some bm)]],HLe.refl _,hs,?_⟩);rintro w U0 - hs;replace hs:St H5 w (.blk jG (evG S k).c:: .blk b9 [Pt tr]:: .blk tr (shC number Lk.flag Lk.hu ha hb hc hd Ws Lk.there vc vt dn (.slice none 0 0))::ce::edn:: .obj bm (.map mT.toArray 8):: .blk rP [.map (some bm)]::U0):=hs;have C9:St H5 w (.blk tr (shC number Lk.flag Lk.hu ha hb hc hd Ws Lk.there vc vt dn (.slice none 0 0))::ce:: .blk jG (evG S k).c:: .blk b9 [Pt tr]::edn:: .obj bm (.map mT.toArray 8):: .blk rP [.map (some bm)]::U0):=(hs.pick (.there (.there (.there .here)))).pick (.there (.there (.there .here)));obtain ⟨ix,fn,TS,Vs,Yy⟩:=LJ C9 hM hE O6 (Ur.mono eV) aj;rw [←i7] at Yy;refine .block (.ae (.y hs (zld nV) (.z znc (.z (zfa fA) (.y hs (zld pG) (.z zm (.bif (t':=76) rfl (fun Ri=>?_) (fun Ri=>?_))))))))
   ·refine .Fs 3 4 false (.z zpT (.z zm (.T ?_)));refine .y hs (zld isAgg258) (.T (.z (zfa dc) (.T (.y hs (zld ai) (.T (.q hs (J7 rfl rfl fR aF TS) (.T (.y hs (zld nV) (.T (.y hs (zls [_,_,_,_,_,_,_,_,_,_,_,_,_,_,_,_,_,_,_,_,_,_,_,_,_,_,_,_,_,_,_] cP aH) (.T (.o (.ng (first:=[]) (cap:=[]) rfl rfl Vs Yy ?_)))))))))))));rintro _ w ⟨rfl,H6,blk6,ce6,kH,Sn,hs⟩;obtain ⟨a6,b6,c6,d6,vc6,rfl,X6,YC⟩:=Sn.ex;refine .zn zpT (.cT (.draw mix rfl hs fun w hs=>?_));refine .y 0 rfl hs nV ?_;refine .y 1 rfl hs nV ?_;refine .z 2 rfl znc ?_;refine .z 3 rfl (zfa lx) ?_;refine .y 4 rfl hs isAgg145 ?_;refine .z 5 rfl (zfa dm) ?_;refine .ys 6 rfl hs [_,_] kZ fq ?_;refine .E 7 hs ?_;refine .buildSlice (cells:=[I (evG S k).off,I (evG S k).seq]) hs gz rfl au ?_;intro b97 w hs;refine .go (.E 8 hs ?_);refine .append (ys:=[I (evG S k).off,I (evG S k).seq]) hs dI rfl rfl Yl (.own dr rfl rfl) (by simp [Value.oneCell']) (fun l' h=>by omega) ?_;intro v98 en98 w Ln hs;obtain ⟨a98,n98,c98,rfl,-⟩:=Ln.shape;refine .go (.zw 9 rfl znc ?_);refine .z 10 rfl (zfa lx) ?_;refine .E 11 hs ?_;refine .store hs rfl rfl Ji ?_;intro w hs;exact .go (.D hs (nB ⟨H6,_,kH,(hs.sb:St H6 w (.blk b9 _:: .blk tr _::ce6::en98:: .obj bm _:: .blk rP _::U0)),⟨_,en98,_,ce6,_,rfl,Ln,by simp;omega,⟨a6,b6,c6,d6,vc6,rfl,X6,YC⟩⟩⟩))
   ·refine .T (.z (zfa dc) (.T (.y hs (zld ai) (.T (.z gO ?_)))));rw [decide_eq_true (hE.first dQ)];refine .z zpF (.z zm (.T ?_));refine .y hs (zld isAgg258) (.T (.z (zfa dc) (.T (.y hs (zld ai) (.T (.q hs (J7 rfl rfl fR aF TS) (.T (.y hs (zld nV) (.T (.y hs (zls [_,_,_,_,_,_,_,_,_,_,_,_,_,_,_,_,_,_,_,_,_,_,_,_,_,_,_,_,_,_,_] cP aH) (.T (.o (.ng (first:=[]) (cap:=[]) rfl rfl Vs Yy ?_)))))))))))));rintro _ w ⟨rfl,H6,blk6,ce6,kH,Sn,hs⟩;obtain ⟨a6,b6,c6,d6,vc6,rfl,X6,YC⟩:=Sn.ex;refine .zn zpT (.cT (.draw mix rfl hs fun w hs=>?_));refine .y 0 rfl hs nV ?_;refine .y 1 rfl hs nV ?_;refine .z 2 rfl znc ?_;refine .z 3 rfl (zfa lx) ?_;refine .y 4 rfl hs isAgg145 ?_;refine .z 5 rfl (zfa dm) ?_;refine .ys 6 rfl hs [_,_] kZ fq ?_;refine .E 7 hs ?_;refine .buildSlice (cells:=[I (evG S k).off,I (evG S k).seq]) hs gz rfl au ?_;intro b97 w hs;refine .go (.E 8 hs ?_);refine .append (ys:=[I (evG S k).off,I (evG S k).seq]) hs dI rfl rfl Yl (.own dr rfl rfl) (by simp [Value.oneCell']) (fun l' h=>by omega) ?_;intro v98 en98 w Ln hs;obtain ⟨a98,n98,c98,rfl,-⟩:=Ln.shape;refine .go (.zw 9 rfl znc ?_);refine .z 10 rfl (zfa lx) ?_;refine .E 11 hs ?_;refine .store hs rfl rfl Ji ?_;intro w hs;exact .go (.D hs (nB ⟨H6,_,kH,(hs.sb:St H6 w (.blk b9 _:: .blk tr _::ce6::en98:: .obj bm _:: .blk rP _::U0)),⟨_,en98,_,ce6,_,rfl,Ln,by simp;omega,⟨a6,b6,c6,d6,vc6,rfl,X6,YC⟩⟩⟩))
  ·rintro D H7 σb7 w zx ⟨dn,edn,blk,ce,xs7,rfl,Yl,sf,hM⟩ hs;rw [List.length_map,List.take_length] at hM;exact nB (nT (.ae (.y hs (zld nV) (.zn zg (.ret (Fin.iz [D] [] hs fun w hs=>⟨_,results1 results76 rfl,H7,tr,blk,ce,vc,vt,dn,aq.trans (aO.trans (bP.trans zx)),rfl,hM,hs.sb⟩))))))
theorem qo{w:World}{v:Value}{l S:List Ev}{cs:List Cmp}{day:Int}(hs:St H w σ)(hr:REv H v l)(hA:SD l S cs number day known)(hn:1≤number∧number≤999)(hd:0≤day∧day≤100000)(hk:0≤known∧known≤100000):
  aaA 49 [v,I number,I day,I known] w fun u w'=>∃H1,HLe H H1∧(((S.foldl (m9 cs) se).there=false∧u= .tuple #[.pointer none,I 52]∧St H1 w' σ)∨
   ((S.foldl (m9 cs) se).there=true∧∃b blk ce cmp tap dn,u= .tuple #[Pt b,I 0]∧ShM H1 number (S.foldl (m9 cs) se) cmp tap dn (.slice none 0 0) blk ce∧St H1 w' (.blk b blk::ce::σ))):=by
 obtain ⟨a,c,rfl⟩:=hr.shape;refine Cl.o func49 ntmps49 ag4 ?_;refine .ae (.z zg (.zn zg (.seq (.ae (.z zm (.z zm (.z zm (.z zm (.o (.buildSlice (cells:=Is [day,known]) hs fC rfl au fun w7 w hs=>?_))))))))));obtain ⟨H1,aq,hR,hs⟩:=bM.ck (bM.full (len:=2) rfl) br hs .here;refine .o (.call call74 rfl (mQ hs (hr.mono aq) hA.hist hn hR (fun d h=>by simp at h;omega)) ?_);rintro _ w ⟨rfl,H2,aO,hs⟩;refine .zn zg (.ae (.z zm (.z gE ?_)));rw [decide_eq_true rfl];refine .nil (.cF (.skip (nT (.ae (.z zm (.z zm (.z zm (.z zm (.o (.call call76 rfl (kG hs (hr.mono (aq.trans aO)) hA.hist hA.few hA.sorted hA.cmps hA.ok) ?_))))))))));rintro _ w ⟨H3,b,blk,ce,cmp,tap,dn,bP,rfl,hM,hs⟩;obtain ⟨a',b',c',d',vc,rfl,hS,hC⟩:=hM.ex;refine .zn zg (.seq (.ae (.z zm (.z znc (.z (zfa fA) (.y hs (zld pG) (.zn im (.cond rfl (fun rH=>?_) (fun rH=>?_)))))))))
 ·exact .ae (.z zg (.zn zg (.ret (rT (Fin.mi results49 rfl rfl ⟨H3,aq.trans (aO.trans bP),.inl ⟨by simpa using rH,rfl,hs.out⟩⟩)))))
 ·exact .skip (nT (.ae (.z zm (.z zg (.zn zg (.ret (Fin.mi results49 rfl rfl ⟨H3,aq.trans (aO.trans bP),.inr ⟨by simpa using rH,b,_,ce,cmp,tap,dn,rfl,⟨a',b',c',d',vc,rfl,hS,hC⟩,hs.out⟩⟩)))))))
set_option maxHeartbeats 4000000 in
theorem qq{w:World}{v:Value}{l S:List Ev}{cs:List Cmp}{day:Int}(hs:St H w σ)(hr:REv H v l)(hA:SD l S cs number day known)(hn:1≤number∧number≤999)(hd:0≤day∧day≤100000)(hk:0≤known∧known≤100000)(ht:(S.foldl (m9 cs) se).there=true):
  aaA 14 [v,I number,I day,I known] w fun u w'=>∃H1 a b c d vc,HLe H H1∧u= .tuple #[.agg #[I number,I (S.foldl (m9 cs) se).flag,I (S.foldl (m9 cs) se).hu.sp.id,I (S.foldl (m9 cs) se).hu.sp.src,a,b,I (S.foldl (m9 cs) se).hu.sp.al,I (S.foldl (m9 cs) se).hu.sp.up,c,d,vc],I 0]∧
   SvM H1 (S.foldl (m9 cs) se).hu a b c d∧Jf H1 (S.foldl (m9 cs) se).cells vc∧St H1 w' σ:=by
 refine Cl.o func14 ntmps14 ag4 ?_;refine .ae (.o (.alloc hs Jh rfl fun b8 w hs=>?_));refine .zn zg (.ae (.z zm (.z zm (.z zm (.z zm (.o (.call call49 rfl (qo hs hr hA hn hd hk) ?_)))))));rintro _ w ⟨H1,aq,hq⟩;obtain ⟨-,b,blk,ce,cmp,tap,dn,rfl,hM,hs⟩:=hq.resolve_left fun h=>by rw [ht] at h;cases h.1
 generalize S.foldl (m9 cs) se=L at*;obtain ⟨a',b',c',d',vc,rfl,hS,hC⟩:=hM.ex;have Cz:=hS ht;obtain ⟨xa,ya,rfl⟩:=RI.shape Cz.st;obtain ⟨xb,yb,rfl⟩:=RI.shape Cz.wa;obtain ⟨xc,yc,rfl⟩:=RRd.shape Cz.rd;obtain ⟨xd,yd,rfl⟩:=RCm.shape Cz.cm;obtain ⟨xe,ne,ye,rfl⟩:=hC.shape;refine .z zm (.z zex (.z zex (.z zg (.zn zg (.seq (.ae (.z zm (.z gE ?_))))))));rw [decide_eq_true rfl];refine .nil (.cF (.skip (nT (.ae (.z zm (.z znc (.z (zfa di) (.y hs (zls [_,_,_,_,_,_,_,_,_,_,_] isAgg58 Ap) (.o (.aD (vs:=[_,_,_,_,_,_,_,_,_,_,_]) hs rfl rfl Ap fun w hs=>?_))))))))));refine .zn zg (.ret ?_);exact Fin.iz [] [] hs fun w hs=>by
  obtain ⟨H2,aO,hCR,hs⟩:=hC.bQ (σ:=_) ((hs.pick (x:=ce) dr));exact ⟨_,results2 results14 (cO (vs:=[_,_,_,_,_,_,_,_,_,_,_]) hs rfl isAgg58 Ap) rfl,H2,_,_,_,_,_,aq.trans aO,rfl,Cz.mono aO,hCR,hs.sb⟩
theorem Rx(x:Ev):evG [x] 0=x:=rfl
theorem G0{x:Ev}(h:yo x)(hk:x.kind=1):L9 [x]:=
 ⟨fun y hy=>by rw [List.mem_singleton] at hy;rw [hy];exact h,fun i hi=>by simp at hi,br,by simp [ob,Rx,hk]⟩
theorem HA{x:Ev}(h:yo x)(hk:x.kind=1){day known:Int}(h1:x.day≤day)(h2:x.known≤known):SD [x] [x] [] x.ship day known:=by
 have hT:q7 [x] x.ship day known [x].length=[x]:=by simp [q7,h1,h2,hk]
 refine ⟨G0 h hk,by rw [hT];simp,by rw [hT];rfl,by simp [wu,hk],?_,trivial⟩;exact .build (h.build hk) rfl rfl
theorem EK{x:Ev}(h:yo x)(hk:x.kind=1){day known:Int}(h1:¬(x.known≤known∧x.day≤day)):SD [x] [] [] x.ship day known:=by
 have hT:q7 [x] x.ship day known [x].length=[]:=by
  simp only [q7,List.length_singleton,List.take_succ_cons,List.take_zero];rw [List.filter_cons_of_neg (by simp [hk];omega)];rfl
 exact ⟨G0 h hk,by rw [hT];simp,by rw [hT];rfl,by simp [wu,hk],trivial⟩
theorem DP{x:Ev}(hk:x.kind=1):([x].foldl (m9 []) se).there=true:=by simp [m9,hk]
theorem AL{w:World}{v:Value}{x:Ev}(hs:St H w σ)(hr:REv H v [x])(hk:x.kind=1):
  aaA 75 [v] w fun u w'=>∃H1 a c,HLe H H1∧u= .slice a 1 c∧RI H1 u [x.ship]∧St H1 w' σ:=by
 obtain ⟨a,c,rfl⟩:=hr.shape;refine Cl.o func75 ntmps75 ag1 ?_;refine .ae (.zn zg (.ae (.zn zg (.seq (.ae (.z zm (.z (cJ aN) (.zn zm (.for (N:=1) (J:=fun k fr w=>∃v en,fr=[(6,.slice a 1 c),(3,v)]∧(k=0→v= .slice none 0 0∧en= .nul)∧(k=1→bM 1 v (Is [x.ship]) en)∧St H w (en::σ)) aj ?_ ?_ ?_)))))))))
 ·exact .mk ⟨_,.nul,rfl,fun _=>⟨rfl,rfl⟩,fun h=>by omega,hs.nul⟩
 ·rintro k fr w KZ ⟨v,en,rfl,h0,-,hs⟩;obtain rfl:k=0:=by omega
  obtain ⟨rfl,rfl⟩:=h0 rfl;refine .block (.ae (.ixX (enc:=Ev.c) (xs:=[x]) (k:=0) (x':=x) hs hr.rs rfl rfl aN aH rfl rfl ?_));intro jx o10 pR;refine .q hs (bD (vs:=x.c) rfl cP aH pR) (.o (.alloc hs dA rfl fun b5 w hs=>?_));refine .o (.iK (vs:=[_,_,_,_,_,_,_,_,_,_,_,_,_,_,_,_,_,_,_,_,_,_,_,_,_,_,_,_,_,_,_]) hs rfl rfl aH fun w hs=>?_);refine .nil (.ae (.z (zfa dc) (.y hs (zld ai) (.z gE ?_))));rw [decide_eq_false aj];refine .nil (.cT (.region (.z zm (.z (zfa gJ) (.y hs (zld ai) (.o (.buildSlice (cells:=Is [x.ship]) hs bJ rfl au fun uT w hs=>?_)))))));refine .o (.append (xs:=[]) (ys:=Is [x.ship]) hs.nul bO rfl rfl (.nil 1 none) (.own (.there .here) rfl rfl) (by simp [Is,Value.oneCell']) (fun l' h=>by simp at h;omega) ?_);intro v19 en19 w hO hs;exact .zn zg (nB (nT (.mk ⟨_,en19,rfl,fun h=>by omega,fun _=>hO,hs.sb⟩)))
 ·rintro fr w ⟨v,en,rfl,-,h1,hs⟩;have hO:=h1 rfl;refine nT (.ae (.z zm (.o (.call call142 rfl (sc hs hO br) ?_))));rintro _ w ⟨en2,rfl,eh,hs⟩;rw [show ([x.ship].mergeSort fun a b=>decide (a≤b))=[x.ship] by simp] at eh;refine .nil (.ae (.z zm (.o (.call call143 rfl (og hs eh br) ?_))));rintro v24 w ⟨en3,ld,hs⟩;rw [show Go.Lib.compact [x.ship]=[x.ship] from rfl] at ld;obtain ⟨H1,aq,hR,hs⟩:=bM.ck ld br hs .here;obtain ⟨a3,c3,rfl⟩:=RI.shape hR;exact .zn zg (.ret (Fin.bp results75 rfl ⟨H1,a3,c3,aq,rfl,hR,hs.out⟩))
theorem xv{w:World}{v:Value}{x:Ev}(hs:St H w σ)(hr:REv H v [x]):
  aaA 77 [v,I x.ship] w fun u w'=>∃H1 a c,HLe H H1∧u= .slice a 1 c∧RI H1 u [x.day]∧St H1 w' σ:=by
 obtain ⟨a,c,rfl⟩:=hr.shape;refine Cl.o func77 ntmps77 ag2 ?_;refine .ae (.zn zg (.ae (.zn zg (.seq (.ae (.z zm (.z (cJ aN) (.zn zm (.for (N:=1) (J:=fun k fr w=>∃v en,fr=[(8,.slice a 1 c),(5,v),(1,I x.ship)]∧(k=0→v= .slice none 0 0∧en= .nul)∧(k=1→bM 1 v (Is [x.day]) en)∧St H w (en::σ)) aj ?_ ?_ ?_)))))))))
 ·exact .mk ⟨_,.nul,rfl,fun _=>⟨rfl,rfl⟩,fun h=>by omega,hs.nul⟩
 ·rintro k fr w KZ ⟨v,en,rfl,h0,-,hs⟩;obtain rfl:k=0:=by omega
  obtain ⟨rfl,rfl⟩:=h0 rfl;refine .block (.ae (.ixX (enc:=Ev.c) (xs:=[x]) (k:=0) (x':=x) hs hr.rs rfl rfl aN aH rfl rfl ?_));intro rP o12 gS;refine .q hs (bD (vs:=x.c) rfl cP aH gS) (.o (.alloc hs dA rfl fun b7 w hs=>?_));refine .o (.iK (vs:=[_,_,_,_,_,_,_,_,_,_,_,_,_,_,_,_,_,_,_,_,_,_,_,_,_,_,_,_,_,_,_]) hs rfl rfl aH fun w hs=>?_);refine .nil (.ae (.z (zfa gJ) (.y hs (zld ai) (.z zm (.z gO ?_)))));rw [decide_eq_true rfl];refine .nil (.cT (.region (.z zm (.z (zfa eT) (.y hs (zld ai) (.o (.buildSlice (cells:=Is [x.day]) hs bJ rfl au fun UJ w hs=>?_)))))));refine .o (.append (xs:=[]) (ys:=Is [x.day]) hs.nul bO rfl rfl (.nil 1 none) (.own (.there .here) rfl rfl) (by simp [Is,Value.oneCell']) (fun l' h=>by simp at h;omega) ?_);intro v22 en22 w hO hs;exact .zn zg (nB (nT (.mk ⟨_,en22,rfl,fun h=>by omega,fun _=>hO,hs.sb⟩)))
 ·rintro fr w ⟨v,en,rfl,-,h1,hs⟩;have hO:=h1 rfl;refine nT (.ae (.z zm (.o (.call call142 rfl (sc hs hO br) ?_))));rintro _ w ⟨en2,rfl,eh,hs⟩;rw [show ([x.day].mergeSort fun a b=>decide (a≤b))=[x.day] by simp] at eh;refine .nil (.ae (.z zm (.o (.call call143 rfl (og hs eh br) ?_))));rintro v27 w ⟨en3,ld,hs⟩;rw [show Go.Lib.compact [x.day]=[x.day] from rfl] at ld;obtain ⟨H1,aq,hR,hs⟩:=bM.ck ld br hs .here;obtain ⟨a3,c3,rfl⟩:=RI.shape hR;exact .zn zg (.ret (Fin.bp results77 rfl ⟨H1,a3,c3,aq,rfl,hR,hs.out⟩))
theorem DU{w:World}{p q:Nat}{n m g:Int}{t:Srv}{a b c cm tp a' c' d' vc' cm' tp' dn' vd':Value}(hs:St H w σ)(h1:Mem σ (.blk p (shC n f s a b c d vc false cm tp dn vd)))(h2:Mem σ (.blk q (shC m g t a' b' c' d' vc' true cm' tp' dn' vd'))):
  aaA 78 [Pt p,Pt q] w fun u w'=>u= .bool false∧St H w' σ:=by
 refine Cl.o func78 ntmps78 ag2 ?_;refine .ae (.zn zg (.seq (.ae (.z zm (.z znc (.z (zfa fA) (.q hs (fJ rfl pG (hm:=h1) (hv:=rfl)) (.z im (.z zm (.Fs 5 5 false (.zn zpT (.cT (.seq (.draw mix rfl hs fun w hs=>?_))))))))))))));refine .zw 0 rfl zm ?_;refine .z 1 rfl znc ?_;refine .z 2 rfl (zfa fA) ?_;refine .load (i:=3) hs rfl au .none rfl pG ?_ h1 rfl;refine .zw 4 rfl zm ?_;refine .z 5 rfl znc ?_;refine .z 6 rfl (zfa fA) ?_;refine .load (i:=7) hs rfl au .none rfl pG ?_ h2 rfl;exact .zw 8 rfl (V7 rfl rfl runUnderlying4) (.zw 9 rfl zg (.DT hs (.ret (rT (Fin.bp results78 rfl ⟨rfl,hs.out⟩)))))
set_option maxHeartbeats 4000000 in
theorem AO{w:World}{v:Value}{x:Ev}{day:Int}(hs:St H w σ)(hr:REv H v [x])(hg:yo x)(hk:x.kind=1)(h1:x.day≤day)(h2:x.known≤known)(hd:0≤day∧day≤100000)(NS:0≤known∧known≤100000):
  aaA 29 [v,I day,I known] w fun u w'=>∃H1 a c,HLe H H1∧u= .tuple #[.slice a 1 c,I 0]∧RI H1 (.slice a 1 c) [x.ship]∧St H1 w' σ:=by
 obtain ⟨a,c,rfl⟩:=hr.shape;have hA:=HA hg hk h1 h2;refine Cl.o func29 ntmps29 ag3 ?_;refine .ae (.z zg (.zn zg (.seq (.ae (.z zm (.z zm (.z zm (.o (.buildSlice (cells:=Is [day,known]) hs fC rfl au fun Df w hs=>?_)))))))));obtain ⟨H1,aq,hR,hs⟩:=bM.ck (bM.full (len:=2) rfl) br hs .here;refine .o (.call call74 rfl (mQ hs (hr.mono aq) hA.hist aj hR (fun d h=>by simp at h;omega)) ?_);rintro _ w ⟨rfl,H2,aO,hs⟩;have cK:=aq.trans aO;refine .zn zg (.ae (.z zm (.z gE ?_)));rw [decide_eq_true rfl];refine .nil (.cF (.skip (nT (.ae (.zn zg (.seq (.ae (.z zm (.o (.call call75 rfl (AL hs (hr.mono cK) hk) ?_))))))))));rintro _ w ⟨H3,a3,c3,bP,rfl,VA,hs⟩;have eO:=cK.trans bP;refine .z (cJ af) (.zn zm (.for (N:=1) (J:=fun k fr w=>∃H4 v en,fr=[(21,.slice a3 1 c3),(9,v),(0,.slice a 1 c),(1,I day),(2,I known)]∧HLe H3 H4∧(k=0→v= .slice none 0 0∧en= .nul)∧(k=1→bM 1 v (Is [x.ship]) en)∧St H4 w (en::σ)) aj ?_ ?_ ?_))
 ·exact .mk ⟨H3,_,.nul,rfl,HLe.refl _,fun _=>⟨rfl,rfl⟩,fun h=>by omega,hs.nul.sb⟩
 ·rintro k fr w KZ ⟨H4,v,en,rfl,eL,h0,-,hs⟩;obtain rfl:k=0:=by omega
  obtain ⟨rfl,rfl⟩:=h0 rfl;refine .block (.ae (.ixX (enc:=fun x=>[I x]) (xs:=[x.ship]) (k:=0) (x':=x.ship) hs (VA.mono eL) rfl rfl af ak rfl rfl ?_));intro I4 o25 kA;replace kA:=bE.one kA;refine .y hs (zld ai) (.zn zg (.ae (.z zm (.z zm (.z zm (.z zm (.o (.call call76 rfl (kG hs (hr.mono (eO.trans eL)) hA.hist hA.few hA.sorted hA.cmps hA.ok) ?_))))))));rintro _ w ⟨H5,b,blk,ce,cmp,tap,dn,eV,rfl,hM,hs⟩;have ht:=DP (x:=x) hk;generalize [x].foldl (m9 []) se=L at*;obtain ⟨a',b',c',d',vc,rfl,hS,hC⟩:=hM.ex;rw [ht] at hs;refine .z znc (.z (zfa fA) (.y hs (zld pG) (.nil (.cT (.region (.z zm (.z zm (.o (.buildSlice (cells:=Is [x.ship]) hs bJ rfl au fun OB w hs=>?_)))))))));refine .o (.append (xs:=[]) (ys:=Is [x.ship]) hs.nul bO rfl rfl (.nil 1 none) (.own (.there .here) rfl rfl) (by simp [Is,Value.oneCell']) (fun l' h=>by simp at h;omega) ?_);intro v38 en38 w hO hs;exact .zn zg (nB (nT (.mk ⟨H5,_,en38,rfl,eL.trans eV,fun h=>by omega,fun _=>hO,hs.sb⟩)))
 ·rintro fr w ⟨H4,v,en,rfl,eL,-,h1,hs⟩;obtain ⟨H5,eV,Vz,hs⟩:=bM.ck (h1 rfl) br hs .here;obtain ⟨a5,c5,rfl⟩:=RI.shape Vz;exact nT (.ae (.z zm (.z zg (.zn zg (.ret (Fin.mi results29 rfl rfl ⟨H5,a5,c5,eO.trans (eL.trans eV),rfl,Vz,hs.out⟩))))))
set_option maxHeartbeats 4000000 in
theorem Cq{w:World}{v:Value}{x:Ev}(hs:St H w σ)(hr:REv H v [x])(hg:yo x)(hk:x.kind=1)(h2:x.known≤known)(NS:0≤known∧known≤100000):
  aaA 30 [v,I x.ship,I known] w fun u w'=>∃H1 a c,HLe H H1∧u= .tuple #[.slice a 1 c,I 0]∧RI H1 (.slice a 1 c) [x.day]∧St H1 w' σ:=by
 obtain ⟨a,c,rfl⟩:=hr.shape;have hA:=HA hg hk (Int.le_refl x.day) h2;have hgd:=hg.day;have hN:=EK hg hk (day:= -1) (known:=known) aj;refine Cl.o func30 ntmps30 ag3 ?_;refine .ae (.z zg (.zn zg (.seq (.ae (.z zm (.z zm (.z zm (.o (.buildSlice (cells:=Is [known]) hs bJ rfl au fun tr w hs=>?_)))))))));obtain ⟨H1,aq,hR,hs⟩:=bM.ck (bM.full (len:=1) rfl) br hs .here;refine .o (.call call74 rfl (mQ hs (hr.mono aq) hA.hist hg.ship hR (fun d h=>by simp at h;omega)) ?_);rintro _ w ⟨rfl,H2,aO,hs⟩;have cK:=aq.trans aO;refine .zn zg (.ae (.z zm (.z gE ?_)));rw [decide_eq_true rfl];refine .nil (.cF (.skip (nT (.ae (.zn zg (.ae (.z zm (.z zm (.z zm (.o (.call call76 rfl (kG hs (hr.mono cK) hN.hist hN.few hN.sorted hN.cmps hN.ok) ?_)))))))))));rintro _ w ⟨H3,b1,blk,ce1,cmp,tap,dn,bP,rfl,hM1,hs⟩;obtain ⟨a1,b1',c1,d1,vc1,rfl,-,-⟩:=hM1.ex;replace hs:St H3 w (.blk b1 (shC x.ship 0 se.hu a1 b1' c1 d1 vc1 false cmp tap dn (.slice none 0 0))::ce1::σ):=hs;have eO:=cK.trans bP;refine .zn zg (.seq (.ae (.z zm (.z zm (.o (.call call77 rfl (xv hs (hr.mono eO)) ?_))))));rintro _ w ⟨H4,a4,c4,eL,rfl,hR4,hs⟩;have jI:=eO.trans eL;refine .z (cJ af) (.zn zm (.for (N:=1) (J:=fun k fr w=>∃H5 v en p,fr=[(28,.slice a4 1 c4),(10,Pt p),(9,v),(0,.slice a 1 c),(1,I x.ship),(2,I known)]∧HLe H4 H5∧(k=0→v= .slice none 0 0∧en= .nul∧p=b1)∧(k=1→bM 1 v (Is [x.day]) en)∧St H5 w (en:: .blk b1 (shC x.ship 0 se.hu a1 b1' c1 d1 vc1 false cmp tap dn (.slice none 0 0))::ce1::σ)) aj ?_ ?_ ?_))
 ·exact .mk ⟨H4,_,.nul,b1,rfl,HLe.refl _,fun _=>⟨rfl,rfl,rfl⟩,fun h=>by omega,hs.nul.sb⟩
 ·rintro k fr w KZ ⟨H5,v,en,p,rfl,eV,h0,-,hs⟩;obtain rfl:k=0:=by omega
  obtain ⟨rfl,rfl,rfl⟩:=h0 rfl;refine .block (.ae (.ixX (enc:=fun x=>[I x]) (xs:=[x.day]) (k:=0) (x':=x.day) hs (hR4.mono eV) rfl rfl af ak rfl rfl ?_));intro VO o32 Cx;replace Cx:=bE.one Cx;refine .y hs (zld ai) (.zn zg (.ae (.z zm (.z zm (.z zm (.z zm (.o (.call call76 rfl (kG hs (hr.mono (jI.trans eV)) hA.hist hA.few hA.sorted hA.cmps hA.ok) ?_))))))));rintro _ w ⟨H6,b2,blk2,ce2,cmp2,tap2,dn2,kH,rfl,aac,hs⟩;have ht:=DP (x:=x) hk;generalize [x].foldl (m9 []) se=L at*;obtain ⟨a2,b2',c2,d2,vc2,rfl,-,-⟩:=aac.ex;rw [ht] at hs;refine .zn zg (.seq (.ae (.z zm (.z zm (.o (.call call78 rfl (DU hs dr .here) ?_))))));rintro _ w ⟨rfl,hs⟩;refine .zn im (.cT (.region (.z zm (.z zm (.o (.buildSlice (cells:=Is [x.day]) hs bJ rfl au fun aaw w hs=>?_))))));refine .o (.append (xs:=[]) (ys:=Is [x.day]) hs.nul bO rfl rfl (.nil 1 none) (.own (.there .here) rfl rfl) (by simp [Is,Value.oneCell']) (fun l' h=>by simp at h;omega) ?_);intro v46 en46 w hO hs;exact .zn zg (nT (.region (.z zm (.zn zg (nB (nT (.mk ⟨H6,_,en46,b2,rfl,eV.trans kH,fun h=>by omega,fun _=>hO,hs.sb⟩)))))))
 ·rintro fr w ⟨H5,v,en,p,rfl,eV,-,h1,hs⟩;obtain ⟨H6,kH,Z6,hs⟩:=bM.ck (h1 rfl) br hs .here;obtain ⟨a6,c6,rfl⟩:=RI.shape Z6;exact nT (.ae (.z zm (.z zg (.zn zg (.ret (Fin.mi results30 rfl rfl ⟨H6,a6,c6,jI.trans (eV.trans kH),rfl,Z6,hs.out⟩))))))
set_option maxHeartbeats 4000000 in
theorem Cp{w:World}{v:Value}{l S:List Ev}{cs:List Cmp}{day:Int}(hs:St H w σ)(hr:REv H v l)(hA:SD l S cs number day known)(hn:1≤number∧number≤999)(hd:0≤day∧day≤100000)(hk:0≤known∧known≤100000)(ht:(S.foldl (m9 cs) se).there=false):
  aaA 14 [v,I number,I day,I known] w fun u w'=>∃H1,HLe H H1∧u= .tuple #[.agg #[I 0,I 0,I 0,I 0,.slice none 0 0,.slice none 0 0,I 0,I 0,.slice none 0 0,.slice none 0 0,.slice none 0 0],I 52]∧St H1 w' σ:=by
 refine Cl.o func14 ntmps14 ag4 ?_;refine .ae (.o (.alloc hs Jh rfl fun b8 w hs=>?_));refine .zn zg (.ae (.z zm (.z zm (.z zm (.z zm (.o (.call call49 rfl (qo hs hr hA hn hd hk) ?_)))))));rintro _ w ⟨H1,aq,hq⟩;obtain ⟨-,rfl,hs⟩:=hq.resolve_right fun h=>by rw [ht] at h;cases h.1
 refine .z zm (.z zex (.z zex (.z zg (.zn zg (.seq (.ae (.z zm (.zn gE (.cT (.ae (.z (zbd [_,_,_,_,_,_,_,_,_,_,_] uK) (.z zm (.o (.aD (vs:=[_,_,_,_,_,_,_,_,_,_,_]) hs rfl rfl Ap fun w hs=>?_))))))))))))));exact .zn zg (.ret (rT ((Fin.iz [] [] hs fun w hs=>⟨_,results2 results14 (cO (vs:=[_,_,_,_,_,_,_,_,_,_,_]) hs rfl isAgg58 Ap) rfl,H1,aq,rfl,hs.out⟩))))
def OZ(n m:Int):Int:=(n.tmod m+m).tmod m
theorem FE(n:Int){m:Int}(h:0<m):0≤OZ n m∧OZ n m<m:=by
 have h2:=Int.lt_tmod_of_pos n h;exact ⟨Int.tmod_nonneg m aj,Int.tmod_lt_of_pos _ h⟩
theorem lJ{w:World}{n m:Int}(hs:St H w σ)(hm:1≤m∧m≤4611686018427387904):
  aaA 10 [I n,I m] w fun u w'=>u=I (OZ n m)∧St H w' σ:=by
 have h1:=Int.tmod_lt_of_pos n (show 0<m by omega);have h2:=Int.lt_tmod_of_pos n (show 0<m by omega);refine Cl.o func10 ntmps10 ag2 ?_;exact .ae (.zn zg (.ae (.z zm (.z zm (.z E2 (.z zm (.z cz (.z zm (.z E2 (.zn zg (.ret (Fin.bp results10 rfl ⟨rfl,hs⟩))))))))))))
theorem p6{w:World}{sp:Spc}{aa ab ar ac:Option Addr}{na nb nr nc ca cb cr cc:Nat}{seq:Int}(hs:St H w σ)(hq:0≤seq∧seq≤100000):
  aaA 39 [.agg #[I sp.id,I sp.src,.slice aa na ca,.slice ab nb cb,I sp.al,I sp.up,.slice ar nr cr,.slice ac nc cc],I id,I seq] w fun u w'=>u= .agg #[I id,I (seq+1),.slice aa na ca,.slice ab nb cb,I sp.al,I sp.up]∧St H w' σ:=by
 refine Cl.o func39 ntmps39 ag3 ?_;refine .ae (.bx hs fun b3 w hs=>?_);refine .o (.alloc hs i6 rfl fun b6 w hs=>?_);refine .nil (.ae (.z (zfa bj) (.y hs (zls [_,_,_,_,_,_] bu aI) (.o (.alloc hs i6 rfl fun b7 w hs=>?_)))));refine .o (.aD (vs:=[_,_,_,_,_,_]) hs rfl rfl aI fun w hs=>?_);refine .nil (.ae (.z zm (.z (zfa dT) (.o (.store hs rfl rfl ak fun w hs=>?_)))));refine .nil (.ae (.z zm (.z cz (.z (zfa db) (.o (.store hs rfl rfl ak fun w hs=>?_))))));refine .nil (.ae (.y hs (zls [_,_,_,_,_,_] bu aI) (.o (.aD (vs:=[_,_,_,_,_,_]) hs rfl rfl aI fun w hs=>?_))));exact .nil (.ret (Fin.iz [] [] hs fun w hs=>⟨_,results1 results39 (cO (vs:=[_,_,_,_,_,_]) hs rfl bu aI),rfl,hs.out⟩))
def fU(days:List Int)(i:Int):Int:=if days.length=0 then 0 else OZ (gi days (i.tmod days.length).toNat) 50
theorem Ky(days:List Int)(i:Int):0≤fU days i∧fU days i<50:=by
 unfold fU;split
 ·omega
 ·exact FE _ aj
theorem lr{w:World}{v:Value}{i:Int}(hs:St H w σ)(hr:RI H v days)(hi:0≤i):
  aaA 40 [v,I i] w fun u w'=>u=I (fU days i)∧St H w' σ:=by
 obtain ⟨a,c,rfl⟩:=RI.shape hr;refine Cl.o func40 ntmps40 ag2 ?_;refine .ae (.zn zg (.seq (.ae (.z zm (.z (cJ af) (.zn gO (.bX rfl (fun XG=>?_) (fun XG=>?_))))))))
 ·exact .ae (.zn zg (.ret (rT (Fin.bp results40 rfl ⟨by rw [fU,if_pos aj],hs⟩))))
 ·refine .skip (nT (.ae (.z zm (.z zm (.z zm (.z (cJ af) (.z E2 ?_)))))));have g1:=Int.tmod_lt_of_pos i (show 0<(days.length:Int) by omega);have g2:=Int.tmod_nonneg (days.length:Int) hi;refine .ixY hs hr rfl rfl af ak (bG (l:=days) (i:=(i.tmod days.length).toNat) aj) aj ?_;intro jG o13 iX;refine .q hs (aP rfl ai iX) (.o (.call jy rfl (lJ hs aj) ?_));rintro _ w ⟨rfl,hs⟩;exact .zn zg (.ret (Fin.bp results40 rfl ⟨by rw [fU,if_neg aj],hs⟩))
def smS:cN:=⟨2,[⟨0,1,10,1⟩,⟨1,2,3,2⟩]⟩
theorem GC{p:Nat→Int}:ja smS.da p↔p 1≤p 0+10∧p 2≤p 1+3:=by
 rw [fO];simp [smS]
theorem ML{n:Int}(h:tA smS [0,1,1] n e):n=23∧e=0:=
 h.uniq (Nq (p:=pt 10 13) (zZ ⟨by decide,by decide,by decide,by decide⟩ rfl (by unfold lh;decide)) (by rw [GC];decide) e9 (fun x hx=>by rw [GC] at hx;rw [show smS.n=3 from rfl,Uz];omega) e9)
theorem SM:iZ 9 100000 [0,10,40]:=⟨by decide,by decide,by decide,by decide,fun i hi=>by
 have:i=0∨i=1:=by simp at hi;omega
 rcases this with rfl|rfl<;>decide⟩
theorem Qq:wts [0,10,40]=[-240,1280,400]:=by decide
def Te:Spc:=⟨3,1,[0,1000],[0,1000],0,0⟩
theorem QM:fm Te:=⟨⟨by decide,by decide,by decide,by decide,fun i hi=>by
 have:i=0:=by simp [Te] at hi;omega
 subst this;decide⟩,⟨by decide,by decide,by decide,by decide,fun i hi=>by
 have:i=0:=by simp [Te] at hi;omega
 subst this;decide⟩,by decide,by decide,by decide,by decide⟩
def liX(a b:Nat):Ev:=⟨0,0,1,2,4,6,0,1,0,0,Te,some ⟨a,0,none⟩,2,some ⟨b,0,none⟩,2,rd0,cm0,0,0⟩
theorem NA(a b:Nat):yo (liX a b):=
 ⟨rfl,by simp [liX],by simp [liX],by simp [liX],by simp [liX],rfl,rfl,.inl ⟨rfl,by simp [liX],⟨QM,by simp [liX,Te],rfl⟩,rfl,rfl,rfl,rfl,rfl⟩⟩
set_option maxHeartbeats 4000000 in
theorem Av{w:World}(hs:St H w σ):
  aaA 6 [] w fun u w'=>u= .bool true∧∃H1,HLe H H1∧St H1 w' σ:=by
 refine Cl.of func6 rfl ntmps6 br (A4) (.ae (.zn zg (.ae (.o (.buildSlice (cells:=Is [0,1000]) hs fC rfl au fun b9 w hs=>?_)))));refine .o (.buildSlice (cells:=Is [0,1000]) hs fC rfl au fun jx w hs=>?_);refine .z (zbd [_,_,_,_,_,_] oY) (.o (.alloc hs i6 rfl fun b1 w hs=>?_));refine .o (.aD (vs:=[_,_,_,_,_,_]) hs rfl rfl aI fun w hs=>?_);refine .nil (.ae (.y hs (zls [_,_,_,_,_,_] bu aI) (.z (zbd (vs:=[(1,I 1),(2,I 2),(3,I 4),(4,I 6),(6,I 1),(9,.agg #[I 3,I 1,.slice (some ⟨b9,0,none⟩) 2 2,.slice (some ⟨jx,0,none⟩) 2 2,I 0,I 0])]) (liX b9 jx).c gC rfl au) (.o (.buildSlice (cells:=(liX b9 jx).c) hs iV rfl au fun tt w hs=>?_)))));refine .zn zg (.ae ?_);obtain ⟨H1,g1,r1,hs⟩:=bM.ck (xs:=[0,1000]) (v:= .slice (some ⟨b9,0,none⟩) 2 2) (.full rfl) br hs dr;obtain ⟨H2,g2,r2,hs⟩:=bM.ck (xs:=[0,1000]) (v:= .slice (some ⟨jx,0,none⟩) 2 2) (.full rfl) br hs dr;obtain ⟨H3,g3,r3,hs⟩:=bM.bQ (m:=31) (cs:=evc [liX b9 jx]) (v:= .slice (some ⟨tt,0,none⟩) 1 1) (.full au) (ky _) aj (by simp [evc]) hs dr;have hg:=NA b9 jx;have hR:REv H3 (.slice (some ⟨tt,0,none⟩) 1 1) [liX b9 jx]:=⟨r3,fun x hx=>by
  rw [List.mem_singleton] at hx;subst hx;exact ⟨r1.mono (g2.trans g3),r2.mono g3⟩⟩
 have bP:=g1.trans (g2.trans g3);refine .z zm (.o (.call call29 rfl (AO (x:=liX b9 jx) hs hR hg rfl (day:=4) (known:=6) (Int.le_refl _) (Int.le_refl _) aj aj) ?_));rintro _ w ⟨H4,a4,c4,eL,rfl,h4,hs⟩;have jI:=bP.trans eL;refine .z zm (.z zex (.z zex (.z zg (.zn zg (.ae (.z zm (.o (.call call30 rfl (Cq (x:=liX b9 jx) hs (hR.mono eL) hg rfl (known:=6) (Int.le_refl _) aj) ?_))))))));rintro _ w ⟨H5,a5,c5,eV,rfl,h5,hs⟩;have BE:=jI.trans eV;refine .z zm (.z zex (.z zex (.z zg (.zn zg (.ae (.z zm (.o (.call call14 rfl (Cp hs (hR.mono (eL.trans eV)) (EK hg rfl (day:=4) (known:=5) (fun h=>absurd h.1 (by show ¬(6:Int)≤5;omega))) hg.ship aj aj rfl) ?_))))))));rintro _ w ⟨H6,kH,rfl,hs⟩;have Eg:=BE.trans kH;refine .z zm (.z zex (.z zex (.o (.alloc hs Jh rfl fun b7 w hs=>?_))));refine .o (.aD (vs:=[_,_,_,_,_,_,_,_,_,_,_]) hs rfl rfl Ap fun w hs=>?_);refine .zn zg (.ae (.z zm (.z gO (.z zm (.mW (t':=32) rfl (fun X1=>?_) (fun X1=>?_))))))
 ·refine .T (.z zm (.T (.o (.buildSlice (cells:=Is [2]) hs bJ rfl au fun RK w hs=>?_))));refine .T ?_;obtain ⟨H7,g7,r7,hs⟩:=bM.ck (xs:=[2]) (v:= .slice (some ⟨RK,0,none⟩) 1 1) (.full rfl) br hs .here;refine .o (.call call28 rfl (j6 hs (h4.mono (eV.trans (kH.trans g7))) r7) ?_);rintro _ w ⟨rfl,hs⟩;refine .z zpT (.z zm (.bif (t':=37) rfl (fun XZ=>?_) (fun XZ=>?_)))
  ·refine .T (.z zm (.T (.z gO (.z zpT (.z zm (.mW (t':=41) rfl (fun XY=>?_) (fun XY=>?_)))))))
   ·refine .T (.z zm (.T (.o (.buildSlice (cells:=Is [4]) hs bJ rfl au fun VJ w hs=>?_))));refine .T ?_;obtain ⟨H8,g8,r8,hs⟩:=bM.ck (xs:=[4]) (v:= .slice (some ⟨VJ,0,none⟩) 1 1) (.full rfl) br hs .here;refine .o (.call call28 rfl (j6 hs (h5.mono (kH.trans (g7.trans g8))) r8) ?_);rintro _ w ⟨rfl,hs⟩;refine .z zpT (.z zm (.bif (t':=46) rfl (fun N6=>?_) (fun N6=>?_)))
    ·refine .T (.z zm (.T (.z gO (.z zpT (.zn zg (.ret (Fin.bp results6 rfl ?_)))))));first
     |exact ⟨rfl,H8,Eg.trans (g7.trans g8),hs.out⟩
     |contradiction
     |(exfalso;simp_all;done)
    ·refine .Fs 2 16 true (.z zpF (.zn zg (.ret (Fin.bp results6 rfl ?_))));first
     |exact ⟨rfl,H8,Eg.trans (g7.trans g8),hs.out⟩
     |contradiction
     |(exfalso;simp_all;done)
   ·refine .Fs 3 11 true (.z zpF (.z zm (.Fs 2 16 true (.z zpF (.zn zg (.ret (Fin.bp results6 rfl ?_)))))));first
    |exact ⟨rfl,H8,Eg.trans (g7.trans g8),hs.out⟩
    |contradiction
    |(exfalso;simp_all;done)
  ·refine .Fs 2 7 true (.z zpF (.z zm (.Fs 3 11 true (.z zpF (.z zm (.Fs 2 16 true (.z zpF (.zn zg (.ret (Fin.bp results6 rfl ?_))))))))));first
   |exact ⟨rfl,H8,Eg.trans (g7.trans g8),hs.out⟩
   |contradiction
   |(exfalso;simp_all;done)
 ·refine .Fs 3 2 true (.z zpF (.z zm (.Fs 2 7 true (.z zpF (.z zm (.Fs 3 11 true (.z zpF (.z zm (.Fs 2 16 true (.z zpF (.zn zg (.ret (Fin.bp results6 rfl ?_)))))))))))));first
  |exact ⟨rfl,H8,Eg.trans (g7.trans g8),hs.out⟩
  |contradiction
  |(exfalso;simp_all;done)
set_option maxHeartbeats 4000000 in
theorem Au{w:World}(hs:St H w σ):
  aaA 5 [] w fun u w'=>u= .bool true∧∃H1,HLe H H1∧St H1 w' σ:=by
 refine Cl.of func5 rfl ntmps5 br (A4) (.ae (.zn zg (.ae (.o (.buildSlice (cells:=Is [0,10,40]) hs nF rfl au fun jx w hs=>?_)))));obtain ⟨H1,g1,r1,hs⟩:=bM.ck (xs:=[0,10,40]) (v:= .slice (some ⟨jx,0,none⟩) 3 3) (.full rfl) br hs .here;refine .o (.call call26 rfl (kD hs r1) ?_);rintro _ w ⟨H2,vo,e,aO,rfl,hW,hs⟩;obtain ⟨rfl,X3⟩:=hW SM;rw [Qq] at X3;obtain ⟨aw,cw,rfl⟩:=RI.shape X3;have cK:=g1.trans aO;refine .z zm (.z zex (.z zex (.z zg (.zn zg (.ae (.z (zbd [_,_,_,_] dX) (.z (zbd [_,_,_,_] dX) (.o (.buildSlice (cells:=iq smS.cu) hs fc rfl au fun w7 w hs=>?_)))))))));refine .z (zbd [_,_] lG) (.o (.alloc hs fP rfl fun b3 w hs=>?_));refine .o (.aD (vs:=[_,_]) hs rfl rfl aZ fun w hs=>?_);refine .nil (.ae (.y hs (zls [_,_] bZ aZ) (.o (.buildSlice (cells:=Is [0,1,1]) hs nF rfl au fun PV w hs=>?_))));obtain ⟨H3,g3,r3,hs⟩:=bM.bQ (m:=4) (v:= .slice (some ⟨w7,0,none⟩) 2 2) (cs:=smS.cu.map Lim.c) (.full rfl) e9 e9 e9 hs dr;obtain ⟨H4,g4,r4,hs⟩:=bM.ck (xs:=[0,1,1]) (v:= .slice (some ⟨PV,0,none⟩) 3 3) (.full rfl) br hs dr;refine .o (.call call27 rfl (zU (s:=smS) hs ⟨_,rfl,RS.mono r3 g4⟩ r4) ?_);rintro _ w ⟨H5,n,e,eV,rfl,hM,hs⟩;obtain ⟨rfl,rfl⟩:=ML hM;have TM:=g3.trans (g4.trans eV);refine .z zm (.z zex (.z zex (.z zg (.zn zg (.ae (.o (.buildSlice (cells:=Is [0,1000]) hs fC rfl au fun Hv w hs=>?_)))))));refine .o (.buildSlice (cells:=Is [0,1000]) hs fC rfl au fun I4 w hs=>?_);refine .z (zbd [_,_] w6) (.z (zbd [_,_,_,_,_,_] oY) (.o (.alloc hs i6 rfl fun b6 w hs=>?_)));refine .o (.aD (vs:=[_,_,_,_,_,_]) hs rfl rfl aI fun w hs=>?_);refine .nil (.ae (.y hs (zls [_,_,_,_,_,_] bu aI) (.o (.buildSlice (cells:=Is [100,200]) hs fC rfl au fun LV w hs=>?_))));refine .o (.buildSlice (cells:=Is [150,300]) hs fC rfl au fun Hu w hs=>?_);refine .o (.buildSlice (cells:=[.slice (some ⟨LV,0,none⟩) 2 2,.slice (some ⟨Hu,0,none⟩) 2 2]) hs A1 rfl au fun VO w hs=>?_);refine .z (zbd [_] qS) (.z (zbd [_,_,_] qR) ?_);obtain ⟨H6,g6,r6,hs⟩:=bM.ck (xs:=[0,1000]) (v:= .slice (some ⟨Hv,0,none⟩) 2 2) (.full rfl) br hs dr;obtain ⟨H7,g7,r7,hs⟩:=bM.ck (xs:=[0,1000]) (v:= .slice (some ⟨I4,0,none⟩) 2 2) (.full rfl) br hs dr;obtain ⟨H8,g8,r8,hs⟩:=bM.ck (xs:=[100,200]) (v:= .slice (some ⟨LV,0,none⟩) 2 2) (.full rfl) br hs dr;obtain ⟨H9,g9,r9,hs⟩:=bM.ck (xs:=[150,300]) (v:= .slice (some ⟨Hu,0,none⟩) 2 2) (.full rfl) br hs dr;have Us:RLs H9 [.slice (some ⟨LV,0,none⟩) 2 2,.slice (some ⟨Hu,0,none⟩) 2 2] Hi:=((RLs.nil H9).snoc (r8.mono g9)).snoc r9;obtain ⟨H10,g10,wi,hs⟩:=Us.bQ (v:= .slice (some ⟨VO,0,none⟩) 2 2) (en:= .blk VO [.slice (some ⟨LV,0,none⟩) 2 2,.slice (some ⟨Hu,0,none⟩) 2 2]) (.full rfl) br hs dr;have g69:=g8.trans (g9.trans g10);refine .o (.call call11 rfl (kF (s:=LC) (q:=⟨1,0,1⟩) hs (r6.mono (g7.trans g69)) (r7.mono g69) wi) ?_);rintro _ w ⟨H11,n,e,sh,rfl,hQ,hs⟩;obtain ⟨rfl,rfl⟩:=Oi hQ;have zy:=TM.trans (g6.trans (g7.trans (g69.trans sh)));refine .z zm (.z zex (.z zex (.z zg (.zn zg (.ae (.z zm (.z gO (.z zm (.mW (t':=40) rfl (fun Rk=>?_) (fun Rk=>?_))))))))))
 ·refine .T (.z zm (.T (.o (.buildSlice (cells:=Is [-240,1280,400]) hs nF rfl au fun VK w hs=>?_))));refine .T ?_;obtain ⟨H12,g12,r12,hs⟩:=bM.ck (xs:=[-240,1280,400]) (v:= .slice (some ⟨VK,0,none⟩) 3 3) (.full rfl) br hs .here;refine .o (.call call28 rfl (j6 hs (X3.mono (zy.trans g12)) r12) ?_);rintro _ w ⟨rfl,hs⟩;refine .z zpT (.z zm (.bif (t':=45) rfl (fun XX=>?_) (fun XX=>?_)))
  ·refine .T (.z zm (.T (.z gO (.z zpT (.z zm (.mW (t':=49) rfl (fun XV=>?_) (fun XV=>?_)))))))
   ·refine .T (.z zm (.T (.z gO (.z zpT (.z zm (.mW (t':=53) rfl (fun XT=>?_) (fun XT=>?_)))))))
    ·refine .T (.z zm (.T (.z gO (.z zpT (.z zm (.mW (t':=57) rfl (fun XR=>?_) (fun XR=>?_)))))))
     ·refine .T (.z zm (.T (.z gO (.z zpT (.zn zg (.ret (Fin.bp results5 rfl ?_)))))));first
      |exact ⟨rfl,H12,cK.trans (zy.trans g12),hs.out⟩
      |contradiction
      |(exfalso;simp_all;done)
     ·refine .Fs 2 19 true (.z zpF (.zn zg (.ret (Fin.bp results5 rfl ?_))));first
      |exact ⟨rfl,H12,cK.trans (zy.trans g12),hs.out⟩
      |contradiction
      |(exfalso;simp_all;done)
    ·refine .Fs 2 15 true (.z zpF (.z zm (.Fs 2 19 true (.z zpF (.zn zg (.ret (Fin.bp results5 rfl ?_)))))));first
     |exact ⟨rfl,H12,cK.trans (zy.trans g12),hs.out⟩
     |contradiction
     |(exfalso;simp_all;done)
   ·refine .Fs 2 11 true (.z zpF (.z zm (.Fs 2 15 true (.z zpF (.z zm (.Fs 2 19 true (.z zpF (.zn zg (.ret (Fin.bp results5 rfl ?_))))))))));first
    |exact ⟨rfl,H12,cK.trans (zy.trans g12),hs.out⟩
    |contradiction
    |(exfalso;simp_all;done)
  ·refine .Fs 2 7 true (.z zpF (.z zm (.Fs 2 11 true (.z zpF (.z zm (.Fs 2 15 true (.z zpF (.z zm (.Fs 2 19 true (.z zpF (.zn zg (.ret (Fin.bp results5 rfl ?_)))))))))))));first
   |exact ⟨rfl,H12,cK.trans (zy.trans g12),hs.out⟩
   |contradiction
   |(exfalso;simp_all;done)
 ·refine .Fs 3 2 true (.z zpF (.z zm (.Fs 2 7 true (.z zpF (.z zm (.Fs 2 11 true (.z zpF (.z zm (.Fs 2 15 true (.z zpF (.z zm (.Fs 2 19 true (.z zpF (.zn zg (.ret (Fin.bp results5 rfl ?_))))))))))))))));first
  |exact ⟨rfl,H12,cK.trans (zy.trans g12),hs.out⟩
  |contradiction
  |(exfalso;simp_all;done)
theorem QO{v u:Srv}{k i:Int}(h:KnU v kd k i j u)(hM:uN v){y:List Int}(hk:oF v y){q:Wht}{lo hi:Int}(hB:Fc u q lo hi 0):lo≤fW v.sp q (fD v.sp y v.sp.st.length) v.sp.many/tE q∧fW v.sp q (fD v.sp y v.sp.st.length) v.sp.many/tE q≤hi:=by
 obtain ⟨a,b,rfl,rfl,h1,_,hR⟩:=B6 hB;obtain ⟨_,_,h3⟩:=zk hM.ok hk;obtain ⟨g,f,h4,h5⟩:=h3 q;have hd:=yi q;have:=(hR.U3 h1.early).all g f (h.kp h4);rw [h.sp,show E7 (spE v.sp i j) q g=E7 v.sp q g from rfl,←h5] at this;exact ⟨Int.ediv_le_ediv aj this.1,Int.ediv_le_ediv aj this.2⟩
set_option maxHeartbeats 4000000 in
theorem vj{w:World}{aa ab ac ad:Option Addr}{na nb nc nd ca cb cc cd:Nat}{hull:Bool}{room:Int}(hs:St H w σ)(h1:RI H (.slice aa na ca) s.sp.st)(h2:RI H (.slice ab nb cb) s.sp.wa)(h3:RRd H (.slice ac nc cc) s.rs)(h4:RCm H (.slice ad nd cd) s.cs)(hd:RI H vd days)(hM:uN s)(Pb:room=if hull then 900 else 5):
  aaA 9 [.agg #[I s.sp.id,I s.sp.src,.slice aa na ca,.slice ab nb cb,I s.sp.al,I s.sp.up,.slice ac nc cc,.slice ad nd cd],vd,.bool hull] w fun u w'=>∃H1,HLe H H1∧REv H1 u (tD room (fU days) s ⟨aa,ca,ab,cb⟩ s.cs.length)∧St H1 w' σ:=by
 obtain ⟨adx,cdx,rfl⟩:=RI.shape hd;obtain ⟨_,_,e1⟩:=RI.shape h1;cases e1
 obtain ⟨_,_,e2⟩:=RI.shape h2;cases e2
 obtain ⟨_,_,e3⟩:=RRd.shape h3;cases e3
 obtain ⟨_,_,e4⟩:=RCm.shape h4;cases e4
 have QY:=hM.rs;have K3:=hM.cs;have Vd:=hs;refine Cl.o func9 ntmps9 ag3 ?_;refine .ae (.bx hs fun b3 w hs=>?_);refine .zn zg (.seq (.draw mix rfl hs fun w hs=>?_));refine .ys 0 rfl hs [_,_,_,_,_,_,_,_] bA aM ?_;refine .z 3 rfl (zbd [_,_] oZ) ?_;refine .ys 4 rfl hs [_,_,_,_,_,_,_,_] bA aM ?_;refine .E 1 hs ?_;refine .call call39 rfl (p6 hs aj) ?_;rintro _ w ⟨rfl,hs⟩;refine .go (.zw 2 rfl (zbd (vs:=[(1,I 1),(2,I 9),(6,I 1),(9,.agg #[I 900,I (0+1),.slice aa s.sp.st.length ca,.slice ab s.sp.wa.length cb,I s.sp.al,I s.sp.up])]) (evB s.sp ⟨aa,ca,ab,cb⟩).c gC rfl au) (.E 5 hs ?_));refine .call call39 rfl (p6 hs aj) ?_;rintro _ w ⟨rfl,hs⟩;refine .go (.zw 6 rfl (zbd (vs:=[(0,.agg #[I 0,I 1]),(1,I 2),(2,I 9),(6,I 1),(9,.agg #[I 5,I (1+1),.slice aa s.sp.st.length ca,.slice ab s.sp.wa.length cb,I s.sp.al,I s.sp.up])]) (evR s.sp ⟨aa,ca,ab,cb⟩).c gC rfl au) (.E 7 hs ?_));refine .buildSlice (cells:=(evc (Hk room (fU days) s ⟨aa,ca,ab,cb⟩ 0)).flatten) hs uI rfl au ?_;intro UJ w hs;refine .go (.zw 8 rfl zg ?_);refine .D hs ?_;refine .seq (.ae (.z (zfa aS) (.y hs (zld fa) (.z (cJ aV) (.zn zm (.for (N:=s.rs.length) (J:=fun k fr w=>∃a c en,fr=[(23,.slice ac s.rs.length cc),(7,.slice a (k+2) c),(3,Pt b3),(1,.slice adx days.length cdx),(2,.bool hull)]∧bM 31 (.slice a (k+2) c) (evc (Hk room (fU days) s ⟨aa,ca,ab,cb⟩ k)).flatten en∧St H w (en:: .blk b3 [I s.sp.id,I s.sp.src,.slice aa s.sp.st.length ca,.slice ab s.sp.wa.length cb,I s.sp.al,I s.sp.up,.slice ac s.rs.length cc,.slice ad s.cs.length cd]::σ)) aj ?_ ?_ ?_))))))
 ·exact .mk ⟨_,_,_,rfl,.full (len:=2) rfl,hs⟩
 ·rintro k fr w hk ⟨a,c,en,rfl,hO,hs⟩;have hx:=nv hk;generalize hr:AD s.rs k=r at hx;refine .block (.ae (.z zm (.ixX (enc:=Rdg.c) hs h3 rfl rfl aV bF hx rfl ?_)));intro Sy o28 lP;refine .q hs (bD (vs:=r.c) rfl iP bF lP) (.o (.alloc hs kj rfl fun b9 w hs=>?_));refine .z zg (.o (.aD (vs:=[_,_,_,_,_,_,_]) hs rfl rfl bF fun w hs=>?_));refine .nil (.cut (fun fs w=>∃b9 jx,np fs ⟨83,[],[(25,I (k:Int)),(24,I (s.rs.length:Int)),(10,Pt jx),(23,.slice ac s.rs.length cc),(7,.slice a (k+2) c),(3,Pt b3),(1,.slice adx days.length cdx),(2,.bool hull)]⟩∧St H w (.blk jx (⟨0,((k+2:Nat):Int),8,9,r.day,fU days k,5,0,0,0,sp0,none,0,none,0,r,cm0,0,0⟩:Ev).c:: .blk b9 r.c::en:: .blk b3 [I s.sp.id,I s.sp.src,.slice aa s.sp.st.length ca,.slice ab s.sp.wa.length cb,I s.sp.al,I s.sp.up,.slice ac s.rs.length cc,.slice ad s.cs.length cd]::σ)) ?_ ?_)
  ·refine .draw mix rfl hs fun w hs=>?_
   refine .zw 0 rfl zm ?_;refine .z 1 rfl (cJ aN) ?_;refine .z 2 rfl (zbd [_,_] oZ) ?_;refine .z 3 rfl (zfa dW) ?_;refine .y 4 rfl hs ai ?_;refine .z 5 rfl zm ?_;refine .z 6 rfl zm ?_;refine .ys 8 rfl hs [_,_,_,_,_,_,_] iP bF ?_;refine .e2 (i:=7) (j:=10) au rfl rfl rfl rfl .none .none hs ?_ ?_
   ·refine .call call40 rfl (lr hs hd aj) ?_;rintro _ w ⟨rfl,hs⟩;refine .go (.zw 9 rfl (zbd (vs:=[(0,.agg #[I 0,I ((k+2:Nat):Int)]),(1,I 8),(2,I 9),(3,I r.day),(4,I (fU days k)),(5,I 5),(10,.agg #[I r.src,I r.st,I r.wa,I r.val,I r.tol,I r.tape,I r.day])]) (⟨0,((k+2:Nat):Int),8,9,r.day,fU days k,5,0,0,0,sp0,none,0,none,0,r,cm0,0,0⟩:Ev).c gC rfl au) (.E 10 hs ?_));refine .alloc hs dA rfl ?_;intro jx w hs;refine .go (.E 11 hs ?_);refine .iK (vs:=[_,_,_,_,_,_,_,_,_,_,_,_,_,_,_,_,_,_,_,_,_,_,_,_,_,_,_,_,_,_,_]) hs rfl rfl aH ?_;intro w hs;exact .go (.D hs (nT ⟨b9,jx,bk,hs.sb⟩))
   ·refine .alloc hs dA rfl ?_;intro jx w hs;refine .go (.E 7 hs ?_);refine .call call40 rfl (lr hs hd aj) ?_;rintro _ w ⟨rfl,hs⟩;refine .go (.zw 9 rfl (zbd (vs:=[(0,.agg #[I 0,I ((k+2:Nat):Int)]),(1,I 8),(2,I 9),(3,I r.day),(4,I (fU days k)),(5,I 5),(10,.agg #[I r.src,I r.st,I r.wa,I r.val,I r.tol,I r.tape,I r.day])]) (⟨0,((k+2:Nat):Int),8,9,r.day,fU days k,5,0,0,0,sp0,none,0,none,0,r,cm0,0,0⟩:Ev).c gC rfl au) (.E 11 hs ?_));refine .iK (vs:=[_,_,_,_,_,_,_,_,_,_,_,_,_,_,_,_,_,_,_,_,_,_,_,_,_,_,_,_,_,_,_]) hs rfl rfl aH ?_;intro w hs;exact .go (.D hs (nT ⟨b9,jx,bk,hs.sb⟩))
  ·rintro fs w ⟨b9,jx,i7,hs⟩;refine WE.sub ?_ i7;clear i7;refine .cut (fun fs w=>np fs ⟨83,[],[(25,I (k:Int)),(24,I (s.rs.length:Int)),(10,Pt jx),(23,.slice ac s.rs.length cc),(7,.slice a (k+2) c),(3,Pt b3),(1,.slice adx days.length cdx),(2,.bool hull)]⟩∧St H w (.blk jx (⟨0,((k+2:Nat):Int),8,9,r.day,fU days k,room,0,0,0,sp0,none,0,none,0,r,cm0,0,0⟩:Ev).c:: .blk b9 r.c::en:: .blk b3 [I s.sp.id,I s.sp.src,.slice aa s.sp.st.length ca,.slice ab s.sp.wa.length cb,I s.sp.al,I s.sp.up,.slice ac s.rs.length cc,.slice ad s.cs.length cd]::σ)) ?_ ?_
   ·refine .ae (.zn zm (.cond rfl (fun vZ=>?_) (fun vZ=>?_)))
    ·refine .region (.z (zfa fB) (.o (.store hs rfl rfl ak fun w hs=>?_)));exact .nil (nT ⟨bk,by rw [Pb,if_pos dQ];exact hs⟩)
    ·exact .skip (nT ⟨bk,by rw [Pb,vZ];exact hs⟩)
   ·rintro fs w ⟨i7,hs⟩;refine WE.sub ?_ i7;clear i7;refine .ae (.z zm (.z (cJ aN) (.z cz (.z (zfa eX) (.z (zfa fi) (.o (.store hs rfl rfl ak fun w hs=>?_)))))));refine .nil (.region (.z zm (.y hs (zls [_,_,_,_,_,_,_,_,_,_,_,_,_,_,_,_,_,_,_,_,_,_,_,_,_,_,_,_,_,_,_] cP aH) (.o (.buildSlice (cells:=(Hl room (fU days k) (k+2) r).c) hs iV rfl au fun YK w hs=>?_)))));refine .o (.append (ys:=(Hl room (fU days k) (k+2) r).c) hs fY rfl rfl hO (.own dr rfl rfl) (by simp [Ev.c,Value.oneCell']) (fun l' h=>by rw [bH _ (ky _),eM,oV] at h;omega) ?_);intro v50 en50 w Gd hs;rw [←CK] at Gd;replace Gd:bM 31 v50 (evc (Hk room (fU days) s ⟨aa,ca,ab,cb⟩ (k+1))).flatten en50:=by rw [←hr] at Gd;simpa [Hk,rdE] using Gd
    obtain ⟨a50,c50,rfl⟩:=Gd.iQ (ky _) aj;rw [eM,oV] at Gd ⊢;exact .zn zg (nB (nT (.mk ⟨a50,c50,en50,rfl,Gd,hs.sb⟩)))
 ·rintro fr w ⟨a,c,en,rfl,hO,hs⟩;rw [show Hk room (fU days) s ⟨aa,ca,ab,cb⟩ s.rs.length=tD room (fU days) s ⟨aa,ca,ab,cb⟩ 0 by simp [tD,tpE]] at hO;refine nT (.seq (.ae (.z (zfa dz) (.y hs (zld rW) (.z (cJ cQ) (.zn zm (.for (N:=s.cs.length) (J:=fun k fr w=>∃a c en,fr=[(53,.slice ad s.cs.length cd),(7,.slice a (k+(s.rs.length+2)) c),(3,Pt b3),(1,.slice adx days.length cdx)]∧bM 31 (.slice a (k+(s.rs.length+2)) c) (evc (tD room (fU days) s ⟨aa,ca,ab,cb⟩ k)).flatten en∧St H w (en:: .blk b3 [I s.sp.id,I s.sp.src,.slice aa s.sp.st.length ca,.slice ab s.sp.wa.length cb,I s.sp.al,I s.sp.up,.slice ac s.rs.length cc,.slice ad s.cs.length cd]::σ)) aj ?_ ?_ ?_)))))))
  ·exact .mk ⟨a,c,en,by rw [Nat.zero_add],by rw [Nat.zero_add];exact hO,hs⟩
  ·rintro k fr w hk ⟨a,c,en,rfl,hO,hs⟩;have hx:=uz hk;generalize hr:zQ s.cs k=r at hx;refine .block (.ae (.z zm (.ixX (enc:=Cmp.c) hs h4 rfl rfl cQ dO hx rfl ?_)));intro Sw o58 AS;refine .q hs (bD (vs:=r.c) rfl wD dO AS) (.o (.alloc hs rR rfl fun rP w hs=>?_));refine .z zg (.o (.aD (vs:=[_,_,_,_,_,_]) hs rfl rfl dO fun w hs=>?_));refine .nil (.cut (fun fs w=>∃rP jG,np fs ⟨83,[],[(55,I (k:Int)),(54,I (s.cs.length:Int)),(13,Pt jG),(53,.slice ad s.cs.length cd),(7,.slice a (k+(s.rs.length+2)) c),(3,Pt b3),(1,.slice adx days.length cdx)]⟩∧St H w (.blk jG (⟨0,((k+(s.rs.length+2):Nat):Int),9,9,0,fU days ((s.rs.length:Int)+k),0,0,0,0,sp0,none,0,none,0,rd0,r,0,0⟩:Ev).c:: .blk rP r.c::en:: .blk b3 [I s.sp.id,I s.sp.src,.slice aa s.sp.st.length ca,.slice ab s.sp.wa.length cb,I s.sp.al,I s.sp.up,.slice ac s.rs.length cc,.slice ad s.cs.length cd]::σ)) ?_ ?_)
   ·refine .draw mix rfl hs fun w hs=>?_
    refine .zw 0 rfl zm ?_;refine .z 1 rfl (cJ aN) ?_;refine .z 2 rfl (zbd [_,_] oZ) ?_;refine .z 3 rfl zm ?_;refine .z 4 rfl (zfa aS) ?_;refine .y 5 rfl hs fa ?_;refine .z 6 rfl (cJ aV) ?_;refine .z 7 rfl zm ?_;refine .z 8 rfl cz ?_;refine .ys 10 rfl hs [_,_,_,_,_,_] wD dO ?_;refine .e2 (i:=9) (j:=12) au rfl rfl rfl rfl .none .none hs ?_ ?_
    ·refine .call call40 rfl (lr hs hd aj) ?_;rintro _ w ⟨rfl,hs⟩;refine .go (.zw 11 rfl (zbd (vs:=[(0,.agg #[I 0,I ((k+(s.rs.length+2):Nat):Int)]),(1,I 9),(2,I 9),(4,I (fU days ((s.rs.length:Int)+k))),(11,.agg #[I r.src,I r.tape,I r.fr,I r.to,I r.lo,I r.hi])]) (⟨0,((k+(s.rs.length+2):Nat):Int),9,9,0,fU days ((s.rs.length:Int)+k),0,0,0,0,sp0,none,0,none,0,rd0,r,0,0⟩:Ev).c gC rfl au) (.E 12 hs ?_));refine .alloc hs dA rfl ?_;intro jG w hs;refine .go (.E 13 hs ?_);refine .iK (vs:=[_,_,_,_,_,_,_,_,_,_,_,_,_,_,_,_,_,_,_,_,_,_,_,_,_,_,_,_,_,_,_]) hs rfl rfl aH ?_;intro w hs;exact .go (.D hs (nT ⟨rP,jG,bk,hs.sb⟩))
    ·refine .alloc hs dA rfl ?_;intro jG w hs;refine .go (.E 9 hs ?_);refine .call call40 rfl (lr hs hd aj) ?_;rintro _ w ⟨rfl,hs⟩;refine .go (.zw 11 rfl (zbd (vs:=[(0,.agg #[I 0,I ((k+(s.rs.length+2):Nat):Int)]),(1,I 9),(2,I 9),(4,I (fU days ((s.rs.length:Int)+k))),(11,.agg #[I r.src,I r.tape,I r.fr,I r.to,I r.lo,I r.hi])]) (⟨0,((k+(s.rs.length+2):Nat):Int),9,9,0,fU days ((s.rs.length:Int)+k),0,0,0,0,sp0,none,0,none,0,rd0,r,0,0⟩:Ev).c gC rfl au) (.E 13 hs ?_));refine .iK (vs:=[_,_,_,_,_,_,_,_,_,_,_,_,_,_,_,_,_,_,_,_,_,_,_,_,_,_,_,_,_,_,_]) hs rfl rfl aH ?_;intro w hs;exact .go (.D hs (nT ⟨rP,jG,bk,hs.sb⟩))
   ·rintro fs w ⟨rP,jG,i7,hs⟩;refine WE.sub ?_ i7;clear i7;refine .ae (.z zm (.z (cJ aN) (.z cz (.z (zfa fN) (.z (zfa gu) (.o (.store hs rfl rfl ak fun w hs=>?_)))))));refine .nil (.region (.z zm (.y hs (zls [_,_,_,_,_,_,_,_,_,_,_,_,_,_,_,_,_,_,_,_,_,_,_,_,_,_,_,_,_,_,_] cP aH) (.o (.buildSlice (cells:=(Mm (fU days ((s.rs.length:Int)+k)) (k+(s.rs.length+2)) r).c) hs iV rfl au fun b79 w hs=>?_)))));refine .o (.append (ys:=(Mm (fU days ((s.rs.length:Int)+k)) (k+(s.rs.length+2)) r).c) hs fY rfl rfl hO (.own dr rfl rfl) (by simp [Ev.c,Value.oneCell']) (fun l' h=>by rw [bH _ (ky _),eM,mS] at h;omega) ?_);intro v80 en80 w Gc hs;rw [←CK] at Gc;replace Gc:bM 31 v80 (evc (tD room (fU days) s ⟨aa,ca,ab,cb⟩ (k+1))).flatten en80:=by rw [←hr] at Gc;simpa [tD,tpE] using Gc
    obtain ⟨a80,c80,rfl⟩:=Gc.iQ (ky _) aj;rw [eM,mS] at Gc ⊢;exact .zn zg (nB (nT (.mk ⟨a80,c80,en80,rfl,Gc,hs.sb⟩)))
  ·rintro fr w ⟨a,c,en,rfl,hO,hs⟩;obtain ⟨H1,aq,hR,hs⟩:=bM.bQ (m:=31) hO (ky _) aj (by rw [eM,mS];omega) hs .here;refine nT (.ae (.z zm (.zn zg (.ret (Fin.bp results9 rfl ?_)))));exact ⟨H1,aq,⟨hR,fun x hx=>by
    rcases uf.1 hx with (rfl|rfl)|⟨i,hi,rfl⟩|⟨i,hi,rfl⟩
    ·exact ⟨h1.mono aq,h2.mono aq⟩
    ·exact ⟨h1.mono aq,h2.mono aq⟩
    ·exact ⟨RS.nil H1 1 none 0,RS.nil H1 1 none 0⟩
    ·exact ⟨RS.nil H1 1 none 0,RS.nil H1 1 none 0⟩⟩,hs.out⟩
end Go.Proofs.YtlgfjghdgbhkhaaGreat
namespace Go.Proofs.YtlgfjghdgbhkhaaGreat
open Go.MW Go.ChangeShapes Go.WideShapes Tryz
set_option maxRecDepth 100000
theorem YG:Tryz.prog.cellsOf 86=20:=by kernel_rfl
theorem Wb{α:Type}{l:List α}(h:l.length=20):∃a b c d e f g i j k m n o p q r s t u v,l=[a,b,c,d,e,f,g,i,j,k,m,n,o,p,q,r,s,t,u,v]:=by match l,h with|[a,b,c,d,e,f,g,i,j,k,m,n,o,p,q,r,s,t,u,v],_=>exact ⟨a,b,c,d,e,f,g,i,j,k,m,n,o,p,q,r,s,t,u,v,rfl⟩
structure Dep where
 x:Mn
 days:List Int
 a1:Int
 a2:Int
 p1:Int
 p2:Int
 p3:Int
def aaz(H:bB)(v:Value)(d:Dep):Prop:=∃vs v5 v4 vp vn vg vd,v= .agg #[vs,v5,v4,vp,I d.x.y1,I d.x.y2,I d.x.y3,vn,vg,I d.x.m1,I d.x.m2,I d.x.z1,I d.x.z2,I d.x.z3,vd,I d.a1,I d.a2,I d.p1,I d.p2,I d.p3]∧Gq H d.x vs v5 v4 vp vn vg∧RI H vd d.days
section
variable{H:Type}{enc:TypeId×Value→H}{w:World}{sp:Nat→Bool}{held:Bool}{n:Nat}{cs:List Value}{y:DataW H×List MemPlace}{v:Value}{d:DataW H}{p:List MemPlace}{r:Reach}{base:Nat}
theorem S9(hw:Wt Tryz.prog 84 y.1)(h:DataW.trod enc Tryz.prog w 0 sp held n 84 cs=some y):∃(x:Mn) (vs v5 v4 vp vn vg:Value),cs=[vs,v5,v4,vp,I x.y1,I x.y2,I x.y3,vn,vg,I x.m1,I x.m2,I x.z1,I x.z2,I x.z3]∧Gq (hp w) x vs v5 v4 vp vn vg∧I64 x.m1∧I64 x.m2:=by
 obtain ⟨ys,m,_,rfl,hlen,uh,hg⟩:=DataW.trod_struct E0 h;rw [LS] at hlen;obtain ⟨c0,c1,c2,c3,c4,c5,c6,c7,c8,c9,c10,c11,c12,c13,rfl⟩:=Wc hlen;obtain ⟨_,h0,k0⟩:=fld hg uh 0 rfl rfl rfl LU E0 hw;obtain ⟨_,h1,k1⟩:=fld hg uh 1 rfl rfl rfl Hq E0 hw;obtain ⟨_,h2,k2⟩:=fld hg uh 2 rfl rfl rfl Ox E0 hw;obtain ⟨_,h3,k3⟩:=fld hg uh 3 rfl rfl rfl Hr E0 hw;obtain ⟨_,h4,k4⟩:=fld hg uh 4 rfl rfl rfl Su E0 hw;obtain ⟨q,vs,v5,v4,vp,e0,r0,r1,r2,r3⟩:=Ta k0 h0;obtain ⟨vn,ns,e1,r4,_⟩:=GL k1 h1;obtain ⟨vg,sx,e2,r5⟩:=Nk k2 h2;obtain ⟨m1,m2,e3,i1,i2⟩:=No h3;obtain ⟨xs,g1,e4,g3⟩:=tI underlying25 kq CO Su h4;obtain ⟨a,b,c,rfl⟩:=Wa g1;cases e0;cases e1;cases e2;cases e3;cases e4
 exact ⟨⟨q.sp,q.rs,q.cs,q.pk,q.x,q.y,q.z,ns,sx,m1,m2,a,b,c⟩,_,_,_,_,_,_,rfl,⟨r0,r1,r2,r3,r4,r5⟩,i1,i2⟩
theorem AF(hv:Value.okWide Tryz.prog w r base 86 v)(h:DataW.Trod enc Tryz.prog w 0 sp held 86 v d p)(hw:Wt Tryz.prog 86 d):∃x:Dep,aaz (hp w) v x∧I64 x.x.m1∧I64 x.x.m2:=by
 obtain ⟨cs,n,rfl,hn,_⟩:=I5 EZ hv h;obtain ⟨ys,m,_,e,hlen,uh,hg⟩:=DataW.trod_struct EZ hn;cases e
 rw [YG] at hlen;obtain ⟨c0,c1,c2,c3,c4,c5,c6,c7,c8,c9,c10,c11,c12,c13,c14,c15,c16,c17,c18,c19,rfl⟩:=Wb hlen;obtain ⟨_,h0,k0⟩:=fld hg uh 0 rfl rfl rfl LS EZ hw;obtain ⟨_,h1,k1⟩:=fld hg uh 1 rfl rfl rfl Hq EZ hw;obtain ⟨_,h2,k2⟩:=fld hg uh 2 rfl rfl rfl c_2 EZ hw;obtain ⟨_,h3,k3⟩:=fld hg uh 3 rfl rfl rfl Su EZ hw;obtain ⟨x,vs,v5,v4,vp,vn,vg,e0,r0,i0,i1⟩:=S9 k0 h0;obtain ⟨vd,days,e1,r1,_⟩:=GL k1 h1;obtain ⟨xs,g1,e2,_⟩:=tI underlying28 kq CO c_2 h2;obtain ⟨a1,a2,rfl⟩:=Zi g1;obtain ⟨xs,g2,e3,_⟩:=tI underlying25 kq CO Su h3;obtain ⟨p1,p2,p3,rfl⟩:=Wa g2;cases e0;cases e1;cases e2;cases e3
 exact ⟨⟨x,days,a1,a2,p1,p2,p3⟩,⟨_,_,_,_,_,_,_,rfl,r0,r1⟩,i0,i1⟩
end
end Go.Proofs.YtlgfjghdgbhkhaaGreat
