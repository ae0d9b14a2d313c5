/-
  Texts of these claims, joined: Of Og Oh Oi Oj Ok Ol Om Ov Oy Mzt Rc Mzu Rf Mzv Rh.
-/
import Derived.Test.YteajddicacjkhaaGreatId
namespace Go.Proofs.YteajddicacjkhaaGreat
open Go.MW
variable{H:bw}{w:World}{σ:List Ent}
def u5(x:Lg):List (List Value):=(List.range (nH x)).map fun j=>[I (1+(x.fr+(j:Nat))%365)]
theorem nG(x:Lg):(u5 x).length=nH x:=by simp [u5]
theorem yr{x:Lg}{j:Nat}(h:j<(u5 x).length):(u5 x)[j]=[I (1+(x.fr+j)%365)]:=by simp [u5]
theorem sC{H:bw}{b:Nat}{x:Lg}(hb:Row H b [I x.zone,I x.fr,I x.to,I x.dlo,I x.dhi,I x.blo,I x.bhi])(hx:Bc x):
  Iter Tryz.prog 218 [Pt b] H (u5 x):=by
 intro ly II Ix hmI _ hy H0 σb0 σf w hle hI0 hs
 have g1:cellAt H0 b 1=some (I x.fr):=cellAt.mono (hb.at 1) hle
 have hd:=CR hx
 have hdn:(nH x:Int)=min x.to (x.fr+364) - x.fr+1:=by have:=hx.fr;unfold nH;omega
 have hf:=hx.fr
 have ht:=hx.to
 refine Cl.o Tryz.func218 Tryz.ntmps218 ag2 ?_
 refine .ai (.z (zfa jy) (.y hs (zld af) (.zn zg (.block ?_))))
 refine .loop (fun j:Nat=>⟨22,[],[(3,I (x.fr+(j:Int))),(0,.func (.yield ly) #[] #[]),(1,Pt b)]⟩)
  (fun j w=>j≤nH x∧∃H1 σb,HLe H H1∧HLe H0 H1∧II j H1 σb∧St H1 w (σb++σf)) (fun j=>nH x - j) 0 (.cons (by show some (I _)=some (I _);congr 2;omega) bn)
  ⟨Nat.zero_le _,H0,σb0,hle,HLe.refl _,hI0,hs⟩ ?_
 rintro j w ⟨hj,H1,σb,hle1,hle0,hI,hs⟩
 have h1:cellAt H1 b 1=some (I x.fr):=cellAt.mono (hb.at 1) hle1
 have h2:cellAt H1 b 2=some (I x.to):=cellAt.mono (hb.at 2) hle1
 refine .seq (.ai (.z zm (.z (zfa iI) (.y hs (zld af) (.z (zfa jy) (.y hs (zld af) (.z cq (.z ib (.z Bj (.zn uJ (.bO rfl (fun hc14=>?_) (fun hc14=>?_))))))))))))
 ·refine .skip (nT (.seq (.block (.ai (.z zm (.z zm (.o (.call Tryz.call106 rfl (np hs ak) ?_))))))));rintro _ w ⟨rfl,hs⟩
  have hk':j<(u5 x).length:=by rw [nG];omega
  have hyd:=hy j hk' H1 σb σf w hle1 hI hs
  rw [yr hk'] at hyd
  refine .o (.yield rfl rfl hyd ?_);rintro v20 w ⟨H5,σ5,g1,hs,g3'⟩
  obtain ⟨bb,rfl,gT,gF⟩:=mY g3'
  refine .zn gP (.cond rfl (fun hc21=>?_) (fun hc21=>?_))
  ·refine .ret (rB (rT (rT (rB (Fin.GI Tryz.results218 ?_)))))
   exact ⟨H5,σ5,hle0.trans g1,hs,.inr (gF (by simpa using hc21))⟩
  ·refine .skip (nB (nT (.region (.z zm (.z cq (.zn zg (nT ?_)))))))
   exact ⟨j+1,.cons (by show some (I _)=some (I _);congr 2;omega) bn,⟨ak,H5,σ5,hle1.trans g1,hle0.trans g1,gT (by simpa using hc21),hs⟩,ak⟩
 ·refine .exit (xT (xT (xB ?_)))
  obtain rfl:j=nH x:=by omega
  exact Fin.yq Tryz.results218 ⟨H1,σb,hle0,hs,.inl (by rw [nG];exact hI)⟩
theorem uX{x:Lg}(hs:St H w σ)(hx:Bc x):
  Cl Tryz.prog 169 [.agg #[I x.zone,I x.fr,I x.to,I x.dlo,I x.dhi,I x.blo,I x.bhi]] w fun u w'=>∃H1 b,HLe H H1∧u= .func (.func 218) #[] #[Pt b]∧Iter Tryz.prog 218 [Pt b] H1 (u5 x)∧St H1 w' σ:=by
 refine Cl.o Tryz.func169 Tryz.ntmps169 ag1 ?_
 refine .ai (.bx hs fun b1 w hs=>?_)
 refine .zn zg (.ai (.q hs (cJ (f:=[]) (c:=[_]) rfl rfl) (.zn zg (.ret (Fin.bu Tryz.results169 rfl ?_)))))
 obtain ⟨H1,g1,g2,hs⟩:=hs.bU .here
 exact ⟨H1,b1,g1,rfl,sC g2 hx,hs⟩
set_option maxHeartbeats 1000000 in
theorem mv{s:Spc}{l:Lns}{x:Lg}{vst vwa vt vs:Value}(hs:St H w σ)(g2:RI H vwa s.wa)(h1:RFb H vt l.table)(h2:RSn H vs l.seasons)(hsp:eZ s)(hl:hZ l)(hx:Bc x):
  Cl Tryz.prog 115 [.agg #[I s.id,I s.src,vst,vwa,I s.al,I s.up],.agg #[I l.length,I l.depth,vt,vs],.agg #[I x.zone,I x.fr,I x.to,I x.dlo,I x.dhi,I x.blo,I x.bhi]] w fun u w'=>∃H1 k e,HLe H H1∧u= .tuple #[I k,I e]∧xq s.wa l x k e∧St H1 w' σ:=by
 refine Cl.o Tryz.func115 Tryz.ntmps115 ag3 ?_
 refine .ai (.bx hs fun b3 w hs=>?_)
 refine .bx hs fun b4 w hs=>?_
 refine .bx hs fun b5 w hs=>?_
 refine .z zg (.zn zg (.ai (.y hs (zls [_,_,_,_] bp aK) (.o (.call Tryz.call102 rfl (iB hs h1 hl) ?_)))));rintro _ w ⟨n,b,rfl,hF,hs⟩
 refine .z zm (.z zex (.z zex (.z zg (.zn zg (.seq (.ai (.z zm (.zn gP (.cond rfl (fun hc19=>?_) (fun hc19=>?_))))))))))
 ·refine .ai (.z zg (.zn zg (.ret (rT (?_)))))
  obtain rfl:b=false:=by simpa using hc19
  exact Fin.jG Tryz.results115 rfl rfl ⟨H,_,_,HLe.refl H,rfl,.none hF,hs.out⟩
 ·refine .skip (nT (.ai (.o (.alloc hs bL rfl fun b10 w hs=>?_))))
  refine .o (.store hs rfl rfl aj fun w hs=>?_)
  refine .nil (.seq (.ai (.y hs (zls [_,_,_,_,_,_,_] dQ aN) ?_)))
  obtain rfl:b=true:=by simpa using hc19
  have hn:=hF.bd hl
  have hdp:=hl.depth
  refine .o (.call Tryz.call169 rfl (uX hs hx) ?_);rintro _ w ⟨H1,bd,hle1,rfl,hit,hs⟩
  refine .nil (.block ?_)
  refine .rangeFunc (gf:=218) (cap:=[Pt bd]) (xs:=u5 x) (σb:=[.blk b10 [I 0],.blk b5 [I x.zone,I x.fr,I x.to,I x.dlo,I x.dhi,I x.blo,I x.bhi],.blk b4 [I l.length,I l.depth,vt,vs],.blk b3 [I s.id,I s.src,vst,vwa,I s.al,I s.up]]) (σf:=σ) hs trivial rfl hit Tryz.call218 (fun y hy=>by
    simp only [u5,List.mem_map] at hy
    obtain ⟨j,_,rfl⟩:=hy;rfl) rfl
   (I:=fun p H' σb=>σb=[.blk b10 [I (sz l.seasons x.zone x.fr p)],.blk b5 [I x.zone,I x.fr,I x.to,I x.dlo,I x.dhi,I x.blo,I x.bhi],.blk b4 [I l.length,I l.depth,vt,vs],.blk b3 [I s.id,I s.src,vst,vwa,I s.al,I s.up]]) (Ix:=fun _ _ _=>False)
   (fun j _ _ σ g1 g2=>g2) (fun _ _ _ _ _ h=>h) rfl ?_ ?_ (fun D c H' σb w _ h _=>h.elim)
  ·rintro ly p hp H2 σb2 σf2 w hle2 rfl hs ⟨rr,hrr⟩
   rw [yr hp]
   refine .region (.zn zg (nT (⟨H2,_,HLe.refl _,hs,?_⟩)));rintro w σf4 - hs
   replace hs:St H2 w (.blk b10 [I (sz l.seasons x.zone x.fr p)]:: .blk b5 [I x.zone,I x.fr,I x.to,I x.dlo,I x.dhi,I x.blo,I x.bhi]:: .blk b4 [I l.length,I l.depth,vt,vs]:: .blk b3 [I s.id,I s.src,vst,vwa,I s.al,I s.up]::σf4):=hs
   refine .block (.draw mix rfl hs fun w hs=>?_)
   refine .y 0 rfl hs af ?_;refine .ys 1 rfl hs [_,_,_,_] bp aK ?_;refine .z 2 rfl (zfa rZ) ?_;refine .y 3 rfl hs af ?_;refine .z 4 rfl zm ?_
   refine .E 5 hs ?_
   refine .call Tryz.call105 rfl (nm hs (h2.mono (hle1.trans hle2)) hl) ?_;rintro _ w ⟨rfl,hs⟩
   refine .go (.zw 6 rfl Bk (.E 7 hs ?_))
   refine .store hs rfl rfl aj ?_;intro w hs
   refine .go (.D hs (nB ?_))
   exact ⟨H2,_,HLe.refl _,hs,rfl⟩
  ·rintro D H2 σb2 w hle2 rfl hs
   rw [nG] at hs
   have hle02:=hle1.trans hle2
   have hE:=zT hl.seasons x.zone x.fr (nH x)
   replace hs:St H2 w (.obj D (.deferred (some [])):: .blk b10 [I (sz l.seasons x.zone x.fr (nH x))]:: .blk b5 [I x.zone,I x.fr,I x.to,I x.dlo,I x.dhi,I x.blo,I x.bhi]:: .blk b4 [I l.length,I l.depth,vt,vs]:: .blk b3 [I s.id,I s.src,vst,vwa,I s.al,I s.up]::σ):=hs
   refine nB (nT (.seq (.ai (.y hs (zls [_,_,_,_,_,_] aM aD) (.z (zfa lr) (.y hs (zld af) (.z zm (.z ib (.y hs (zld af) (.z ib (.o (.call Tryz.call112 rfl (tT (s:=s) hs (g2.mono hle02) hsp) ?_))))))))))));rintro _ w ⟨k,rfl,hB,hs⟩
   refine .zn zg (.ai (.z zm (.zn yM (.bO rfl (fun hc39=>?_) (fun hc39=>?_)))))
   ·refine .ai (.z zm (.z zg (.zn zg (.ret (rT (?_))))))
    exact Fin.gj [D] [] hs fun w hs=>⟨_,results2 Tryz.results115 rfl rfl,H2,_,_,hle02,rfl,.ok hF hB hc39,hs.out⟩
   ·refine .skip (nT (.ai (.z zg (.zn zg (.ret ?_)))))
    have hk:=hB.low
    obtain rfl:k= -1:=by omega
    exact Fin.gj [D] [] hs fun w hs=>⟨_,results2 Tryz.results115 rfl rfl,H2,_,_,hle02,rfl,.above hF hB,hs.out⟩
theorem sD{s:Spc}{l:Lns}{x:Lg}{vst vwa vt vs:Value}(hs:St H w σ)(g1:RI H vst s.st)(g2:RI H vwa s.wa)(h1:RFb H vt l.table)(h2:RSn H vs l.seasons):
  Cl Tryz.prog 47 [.agg #[I s.id,I s.src,vst,vwa,I s.al,I s.up],.agg #[I l.length,I l.depth,vt,vs],.agg #[I x.zone,I x.fr,I x.to,I x.dlo,I x.dhi,I x.blo,I x.bhi]] w fun u w'=>∃H1 k e,HLe H H1∧u= .tuple #[I k,I e]∧GQ s l x k e∧St H1 w' σ:=by
 refine Cl.o Tryz.func47 Tryz.ntmps47 ag3 ?_
 refine .ai (.bx hs fun b3 w hs=>?_)
 refine .bx hs fun b4 w hs=>?_
 refine .bx hs fun b5 w hs=>?_
 refine .z zg (.zn zg (.seq (.ai (.y hs (zls [_,_,_,_,_,_] aM aD) (.o (.call Tryz.call111 rfl (fJ (s:=s) hs g1 g2) ?_))))));rintro _ w ⟨H1,e,hle1,rfl,he,hs⟩
 refine .zn zg (.ai (.z zm (.zn gg (.dO rfl (fun hc13=>?_) (fun hc13=>?_)))))
 ·refine .ai (.z zm (.z zg (.zn zg (.ret (rT (Fin.jG Tryz.results47 rfl rfl ?_))))))
  have h:=he.resolve_left fun h=>hc13 h.2
  exact ⟨H1,_,_,hle1,rfl,by rw [h.2];exact .space h.1,hs.out⟩
 ·refine .skip (nT (.seq (.ai (.y hs (zls [_,_,_,_] bp aK) ?_))))
  have hok:eZ s:=(he.resolve_right fun h=>by omega).1
  refine .o (.call Tryz.call19 rfl (fm hs (h1.mono hle1) (h2.mono hle1)) ?_);rintro _ w ⟨e,rfl,he,hs⟩
  refine .zn zg (.ai (.z zm (.zn gg (.dO rfl (fun hc18=>?_) (fun hc18=>?_)))))
  ·refine .ai (.z zm (.z zg (.zn zg (.ret (rT (Fin.jG Tryz.results47 rfl rfl ?_))))))
   have h:=he.resolve_left fun h=>hc18 h.2
   exact ⟨H1,_,_,hle1,rfl,by rw [h.2];exact .lines hok h.1,hs.out⟩
  ·refine .skip (nT (.seq (.ai (.y hs (zls [_,_,_,_,_,_,_] dQ aN) ?_))))
   have hl:hZ l:=(he.resolve_right fun h=>by omega).1
   refine .o (.call Tryz.call75 rfl (nj (x:=x) hs) ?_);rintro _ w ⟨b,rfl,hb,hs⟩
   refine .zn gP (.cond rfl (fun hc22=>?_) (fun hc22=>?_))
   ·refine .ai (.z zg (.zn zg (.ret (rT (Fin.jG Tryz.results47 rfl rfl ?_)))))
    exact ⟨H1,_,_,hle1,rfl,.leg hok hl (fun h=>by rw [hb.2 h] at hc22;cases hc22),hs.out⟩
   ·refine .skip (nT (.ai (.y hs (zls [_,_,_,_,_,_] aM aD) (.y hs (zls [_,_,_,_] bp aK) (.y hs (zls [_,_,_,_,_,_,_] dQ aN) ?_)))))
    have hx:Bc x:=hb.1 (by simpa using hc22)
    refine .o (.call Tryz.call115 rfl (mv (s:=s) (x:=x) hs (g2.mono hle1) (h1.mono hle1) (h2.mono hle1) hok hl hx) ?_);rintro _ w ⟨H2,k,e,hle2,rfl,hL,hs⟩
    refine .z zex (.z zex (.z zg (.zn zg (.ret (Fin.jG Tryz.results47 rfl rfl ?_)))))
    exact ⟨H2,_,_,hle1.trans hle2,rfl,.go hok hl hx hL,hs.out⟩
theorem tB{v:Value}{l:List Rng}(hs:St H w σ)(hr:RRg H v l):Cl Tryz.prog 162 [v] w fun u w'=>RRg H u l∧St H w' σ:=by
 obtain ⟨a,c,rfl⟩:=hr.shape
 have hc:=RS.clip hr
 refine Cl.o Tryz.func162 Tryz.ntmps162 ag1 ?_
 refine .ai (.zn zg (.ai (.z zm (.z zm (.z (cU dL) (.z zm (.z (cU dL) (.q hs (BZ rfl rfl rfl dL aq (Nat.le_refl _) hc.1) (.zn zg (.ret (Fin.bu Tryz.results162 rfl ?_)))))))))))
 exact ⟨hc.2,hs⟩
theorem mu{r:List Lg}{vr:Value}{m:Rng}(hs:St H w σ)(h1:RLg H vr r)(hr:uz r)(hm:gR m.lo m.hi):
  Cl Tryz.prog 110 [.agg #[vr],.agg #[I m.lo,I m.hi]] w fun u w'=>∃H1,HLe H H1∧RRg H1 u (msL m r r.length)∧St H1 w' σ:=by
 obtain ⟨ar,cr,rfl⟩:=h1.shape
 have hn:=hr.many
 refine Cl.o Tryz.func110 Tryz.ntmps110 ag2 ?_
 refine .ai (.bx hs fun b2 w hs=>?_)
 refine .bx hs fun b3 w hs=>?_
 refine .zn zg (.ai (.y hs (zls [_,_] aR aq) (.o (.buildSlice (cells:=m.c) hs kZ rfl aE fun b9 w hs=>?_))))
 refine .zn zg (.seq (.ai (.z (zfa cH) (.y hs (zld dm) (.z (cU aS) (.zn zm (.for (N:=r.length) (J:=fun k fr w=>∃vo en,fr=[(5,vo),(11,.slice ar r.length cr),(3,Pt b3)]∧bS 2 vo (rgc (msL m r k)).flatten en∧St H w (en:: .blk b3 [I (ke m r k).lo,I (ke m r k).hi]::σ)) ak ?_ ?_ ?_)))))))
 ·exact .mk ⟨_,.blk b9 m.c,rfl,.full rfl,hs.sb⟩
 ·rintro k fr w hk ⟨vo,en,rfl,hO,hs⟩
  have hx:=mc (l:=r) hk
  have hb:=wH hm (fun i hi=>(hr.leg i hi).1) (i:=k) ak
  have hb2:=(hr.leg k hk).1.burn
  unfold gR at hb hb2
  have hml:=lR m r k
  obtain ⟨ao,co,rfl⟩:=hO.lK (FO _) ak
  refine .block (.ai (.ixX (enc:=Lg.c) hs h1 rfl rfl aS aN hx df ?_));intro b15 o15 hc15
  refine .q hs (bI (vs:=(Lg.c (lg0 r k))) rfl dQ aN hc15) (.o (.alloc hs cj rfl fun b7 w hs=>?_))
  refine .o (.aH (vs:=(lg0 r k).c) hs rfl rfl aN fun w hs=>?_)
  change St _ _ (.blk b7 [I (lg0 r k).zone,I (lg0 r k).fr,I (lg0 r k).to,I (lg0 r k).dlo,I (lg0 r k).dhi,I (lg0 r k).blo,I (lg0 r k).bhi]::_) at hs
  refine .nil (.ai (.z (zfa bD) (.y hs (zld af) (.z (zfa gJ) (.z (zfa cg) (.y hs (zld af) (.z ib (.z Bk (.z (zfa cg) (.y hs (zld af) (.z (zfa gJ) (.z (zfa bD) (.y hs (zld af) (.z ib (.z Bk (.z (zbd [_,_] bJ) (.o (.aH (vs:=(ke m r (k+1)).c) hs rfl rfl aq fun w hs=>?_))))))))))))))))))
  change St _ _ (.blk b7 _::en:: .blk b3 [I (ke m r (k+1)).lo,I (ke m r (k+1)).hi]::σ) at hs
  refine .nil (.region (.z zm (.y hs (zls [_,_] aR aq) (.o (.buildSlice (cells:=(ke m r (k+1)).c) hs kZ rfl aE fun b34 w hs=>?_)))))
  refine .o (.append (ys:=(ke m r (k+1)).c) hs kG rfl rfl hO (.own .here rfl rfl) (by simp [Rng.c,Value.oneCell']) (fun l h=>by rw [cK _ (FO _),q7] at h;omega) ?_);intro v35 en35 w hO2 hs
  rw [←DL,←Ed] at hO2
  refine .zn zg (nB (nT ?_))
  exact .mk ⟨_,_,rfl,hO2,hs.sb⟩
 ·rintro fr w ⟨vo,en,rfl,hO,hs⟩
  obtain ⟨H1,hle1,hR,hs⟩:=bS.bU (m:=2) hO (FO _) ak (by rw [q7,lR];omega) hs .here
  refine nT (.ai (.z zm (.o (.call Tryz.call162 rfl (tB (l:=msL m r r.length) hs hR) ?_))));rintro v38 w ⟨hR2,hs⟩
  refine .zn zg (.ret (Fin.bu Tryz.results110 rfl ?_))
  exact ⟨H1,hle1,hR2,hs.out⟩
theorem CW{v:Srv}{out:List Int}{e:Int}(h:Aw v out e)(hv:dC v):(e=0∧0<out.length∧¬v.sys.Sound)∨(e=3∧v.sys.Sound):=by
 cases h with
 |bad h he=>exact (he (h.db.2 hv)).elim
 |ok _ h=>
  by_cases e0:e=0
  ·subst e0
   obtain ⟨_,h1,_,h2⟩:=h.conf
   exact .inl ⟨rfl,(by cases out with|nil=>exact (h2 rfl).elim|cons=>simp),h1⟩
  ·cases h with
   |bad h=>exact (h (v.sys.db.2 hv.sys)).elim
   |none _ h=>exact .inr ⟨rfl,h⟩
   |ok=>exact (e0 rfl).elim
theorem fY{k:Int}(hs:St H w σ):Cl Tryz.prog 98 [I k] w fun u w'=>u= .agg #[I 1,I 0,I k]∧St H w' σ:=by
 refine Cl.o Tryz.func98 Tryz.ntmps98 ag1 ?_
 refine .ai (.o (.alloc hs Tryz.zeroValue113 rfl fun b2 w hs=>?_))
 refine .nil (.ai (.z zm (.z (zbd [_,_,_] sa) (.o (.aH (vs:=[_,_,_]) hs rfl rfl gQ fun w hs=>?_)))))
 refine .nil (.ret ?_)
 exact Fin.gj [] [] hs fun w hs=>⟨_,results1 Tryz.results98 (cC (vs:=[_,_,_]) hs rfl qR gQ),rfl,hs.out⟩
theorem mw{s:Srv}{k:Nat}{a b c d:Value}(hs:St H w σ)(g:SvM H s a b c d)(hok:dC s):
  Cl Tryz.prog 122 [svA s a b c d,I (k:Int)] w fun u w'=>∃H1 lo hi e,HLe H H1∧u= .tuple #[.agg #[I lo,I hi],I e]∧wb s k lo hi e∧St H1 w' σ:=by
 refine Cl.o Tryz.func122 Tryz.ntmps122 ag2 ?_
 refine .ai (.bx hs fun b2 w hs=>?_)
 refine .o (.alloc hs bN rfl fun b4 w hs=>?_)
 refine .zn zg (.seq (.ai (.z zm (.zn pQ (.bO rfl (fun hc9=>?_) (fun hc9=>?_))))))
 ·refine .seq (.draw mix rfl hs fun w hs=>?_)
  refine .ys 0 rfl hs [_,_,_,_,_,_,_,_] aI aB ?_;refine .z 1 rfl zm ?_
  refine .E 2 hs ?_
  refine .call Tryz.call98 rfl (fY hs) ?_;rintro _ w ⟨rfl,hs⟩
  refine .go (.E 3 hs ?_)
  refine .call Tryz.call174 rfl (qe (s:=s) (q:=⟨1,0,k⟩) hs g.st g.wa g.rd g.cm) ?_;rintro _ w ⟨H1,lo,hi,e,hle1,rfl,hQ,hs⟩
  refine .go (.zw 4 rfl zex ?_);refine .z 5 rfl zex ?_
  refine .E 6 hs ?_
  refine .aH (vs:=[_,_]) hs rfl rfl aq ?_;intro w hs
  refine .go (.zw 7 rfl zg ?_);refine .D hs ?_
  refine .ret (rT (?_))
  exact Fin.gj [] [] hs fun w hs=>⟨_,results2 Tryz.results122 (cC (vs:=[_,_]) hs rfl aR aq) rfl,H1,_,_,_,hle1,rfl,.up ak hQ,hs.out⟩
 ·refine .skip (nT (.seq (.ai (.y hs (zls [_,_,_,_,_,_,_,_] aI aB) ?_))))
  obtain rfl:k=0:=by omega
  refine .o (.call Tryz.call175 rfl (qd (s:=s) hs g.st g.wa g.rd g.cm) ?_);rintro _ w ⟨H1,vx,out,e,hle1,rfl,hX,hC,hs⟩
  have hcl:=CW hC hok
  obtain ⟨ax,cx,rfl⟩:=RI.shape hX
  refine .z zm (.z zex (.z zex (.z zg (.zn zg (.ai (.z zm (.z kd (.z zm (.kF (t':=23) rfl (fun hb23=>?_) (fun hb23=>?_))))))))))
  ·refine .T (.z zm (.T (.z (cU ae) (.T (.z pQ (.zn zpT (.bO rfl (fun hc27=>?_) (fun hc27=>?_))))))))
   ·refine .ai (.z (zbd [_,_] bJ) (.o (.aH (vs:=[_,_]) hs rfl rfl aq fun w hs=>?_)))
    refine .zn zg (.ret (rT (?_)))
    exact Fin.gj [] [] hs fun w hs=>⟨_,results2 Tryz.results122 (cC (vs:=[_,_]) hs rfl aR aq) rfl,H1,_,_,_,hle1,rfl,.fls rfl hok (by rcases hcl with h|h;exact h.2.2;omega),hs.out⟩
   ·refine .skip (nT (.ai (.z (zbd [_,_] bJ) (.o (.aH (vs:=[_,_]) hs rfl rfl aq fun w hs=>?_)))))
    refine .zn zg (.ret ?_)
    exact Fin.gj [] [] hs fun w hs=>⟨_,results2 Tryz.results122 (cC (vs:=[_,_]) hs rfl aR aq) rfl,H1,_,_,_,hle1,rfl,.zero rfl hok (by rcases hcl with h|h;omega;exact h.2),hs.out⟩
  ·refine .Fs 3 2 true (.zn zpF (.cF (.skip (nT (.ai (.z (zbd [_,_] bJ) (.o (.aH (vs:=[_,_]) hs rfl rfl aq fun w hs=>?_))))))))
   refine .zn zg (.ret ?_)
   exact Fin.gj [] [] hs fun w hs=>⟨_,results2 Tryz.results122 (cC (vs:=[_,_]) hs rfl aR aq) rfl,H1,_,_,_,hle1,rfl,.zero rfl hok (by rcases hcl with h|h;omega;exact h.2),hs.out⟩
theorem eg{n d:Int}(hs:St H w σ)(hn: -4000000000000≤n∧n≤4000000000000)(hd: -100000≤d∧d≤100000):Cl Tryz.prog 99 [I n,I d] w fun v w'=>v=I (dD n d)∧St H w' σ:=by
 have hm:=kV (a:=n) (b:=d) (A:=4000000000000) (B:=100000) ak ak
 refine Cl.o Tryz.func99 Tryz.ntmps99 ag2 ?_
 refine .ai (.zn zg (.ai (.z zm (.z zm (.z kM (.o (.call Tryz.call140 rfl (oK hs ak ak) ?_)))))));rintro _ w ⟨rfl,hs⟩
 refine .zn zg (.ret (Fin.bu Tryz.results99 rfl ?_))
 exact ⟨rfl,hs⟩
theorem rk{lo hi x y:Int}(hs:St H w σ)(h1: -200000000≤lo∧lo≤200000000)(h2: -200000000≤hi∧hi≤200000000)(hd:eS x y):
  Cl Tryz.prog 145 [.agg #[I lo,I hi],.agg #[I x,I y]] w fun v w'=>v= .agg #[I (pZ lo x y),I (tx hi x y)]∧St H w' σ:=by
 unfold eS at hd
 refine Cl.o Tryz.func145 Tryz.ntmps145 ag2 ?_
 refine .ai (.bx hs fun b2 w hs=>?_)
 refine .bx hs fun b3 w hs=>?_
 refine .o (.alloc hs bN rfl fun b4 w hs=>?_)
 refine .nil (.seq (.draw mix rfl hs fun w hs=>?_))
 refine .zw 0 rfl (zfa bD) ?_;refine .y 1 rfl hs af ?_;refine .z 2 rfl (zfa bD) ?_;refine .y 3 rfl hs af ?_;refine .z 5 rfl (zfa bD) ?_;refine .y 6 rfl hs af ?_;refine .z 7 rfl (zfa cg) ?_;refine .y 8 rfl hs af ?_;refine .z 11 rfl (zfa cg) ?_;refine .y 12 rfl hs af ?_
 refine .zw 13 rfl (zfa bD) ?_;refine .y 14 rfl hs af ?_;refine .z 16 rfl (zfa cg) ?_;refine .y 17 rfl hs af ?_;refine .z 18 rfl (zfa cg) ?_;refine .y 19 rfl hs af ?_
 refine .E 4 hs ?_
 refine .call xu rfl (eg hs ak ak) ?_;rintro _ w ⟨rfl,hs⟩
 refine .go (.E 9 hs ?_)
 refine .call xu rfl (eg hs ak ak) ?_;rintro _ w ⟨rfl,hs⟩
 refine .go (.zw 10 rfl Bj (.E 15 hs ?_))
 refine .call xu rfl (eg hs ak ak) ?_;rintro _ w ⟨rfl,hs⟩
 refine .go (.E 20 hs ?_)
 refine .call xu rfl (eg hs ak ak) ?_;rintro _ w ⟨rfl,hs⟩
 refine .go (.zw 21 rfl Bk ?_);refine .z 22 rfl (zbd [_,_] bJ) ?_
 refine .E 23 hs ?_
 refine .aH (vs:=[_,_]) hs rfl rfl aq ?_;intro w hs
 refine .go (.D hs (.ret ?_))
 exact Fin.gj [] [] hs fun w hs=>⟨_,results1 Tryz.results145 (cC (vs:=[_,_]) hs rfl aR aq),rfl,hs.out⟩
theorem dP{s:Srv}{k:Nat}{a b c d:Value}{x y:Int}(hs:St H w σ)(g:SvM H s a b c d)(hok:dC s)(hd:eS x y):
  Cl Tryz.prog 88 [svA s a b c d,I (k:Int),.agg #[I x,I y]] w fun u w'=>∃H1 lo hi e,HLe H H1∧u= .tuple #[.agg #[I lo,I hi],I e]∧jD s k x y lo hi e∧St H1 w' σ:=by
 refine Cl.o Tryz.func88 Tryz.ntmps88 ag3 ?_
 refine .ai (.bx hs fun b3 w hs=>?_)
 refine .bx hs fun b5 w hs=>?_
 refine .o (.alloc hs bN rfl fun b6 w hs=>?_)
 refine .zn zg (.ai (.y hs (zls [_,_,_,_,_,_,_,_] aI aB) (.z zm (.o (.call Tryz.call122 rfl (mw (s:=s) hs g hok) ?_)))));rintro _ w ⟨H1,lo,hi,e,hle1,rfl,hL,hs⟩
 have hb:=hL.bd
 refine .z zm (.z zex (.z zex (.o (.alloc hs bN rfl fun b8 w hs=>?_))))
 refine .o (.aH (vs:=[_,_]) hs rfl rfl aq fun w hs=>?_)
 refine .zn zg (.seq (.ai (.z zm (.zn gg (.dO rfl (fun hc17=>?_) (fun hc17=>?_))))))
 ·refine .ai (.z (zbd [_,_] bJ) (.z zm (.o (.aH (vs:=[_,_]) hs rfl rfl aq fun w hs=>?_))))
  refine .zn zg (.ret (rT (?_)))
  exact Fin.gj [] [] hs fun w hs=>⟨_,results2 Tryz.results88 (cC (vs:=[_,_]) hs rfl aR aq) rfl,H1,_,_,_,hle1,rfl,.fls hL hc17,hs.out⟩
 ·refine .skip (nT (.ai (.y hs (zls [_,_] aR aq) (.y hs (zls [_,_] aR aq) ?_))))
  obtain rfl:e=0:=by omega
  refine .o (.call Tryz.call145 rfl (rk hs ak ak hd) ?_);rintro _ w ⟨rfl,hs⟩
  refine .o (.aH (vs:=[_,_]) hs rfl rfl aq fun w hs=>?_)
  refine .zn zg (.ret ?_)
  exact Fin.gj [] [] hs fun w hs=>⟨_,results2 Tryz.results88 (cC (vs:=[_,_]) hs rfl aR aq) rfl,H1,_,_,_,hle1,rfl,.ok hL,hs.out⟩
theorem mQ{s:Srv}{k:Int}{a b c d:Value}{x y:Int}(hs:St H w σ)(g:SvM H s a b c d):
  Cl Tryz.prog 58 [svA s a b c d,I k,.agg #[I x,I y]] w fun u w'=>∃H1 lo hi e,HLe H H1∧u= .tuple #[.agg #[I lo,I hi],I e]∧Bd s k x y lo hi e∧St H1 w' σ:=by
 obtain ⟨aw,cw,rfl⟩:=RI.shape g.wa
 refine Cl.o Tryz.func58 Tryz.ntmps58 ag3 ?_
 refine .ai (.bx hs fun b3 w hs=>?_)
 refine .bx hs fun b5 w hs=>?_
 refine .o (.alloc hs bN rfl fun b6 w hs=>?_)
 refine .zn zg (.seq (.ai (.y hs (zls [_,_,_,_,_,_,_,_] aI aB) (.o (.call IM rfl (eU (s:=s) hs g.st g.wa g.rd g.cm) ?_)))));rintro _ w ⟨H1,e,hle1,rfl,hC,hs⟩
 refine .zn zg (.ai (.z zm (.zn gg (.dO rfl (fun hc12=>?_) (fun hc12=>?_)))))
 ·refine .ai (.z (zbd [_,_] bJ) (.z zm (.o (.aH (vs:=[_,_]) hs rfl rfl aq fun w hs=>?_))))
  refine .zn zg (.ret (rT (?_)))
  exact Fin.gj [] [] hs fun w hs=>⟨_,results2 Tryz.results58 (cC (vs:=[_,_]) hs rfl aR aq) rfl,H1,_,_,_,hle1,rfl,.bad hC hc12,hs.out⟩
 ·refine .skip (nT (.seq (.block (.ai ?_))))
  have hok:dC s:=hC.db.1 ak
  have hsm:=dX hok.early.1
  refine .z zm (.z (zfa bj) (.z (zfa bg) (.y hs (zld an) (.z (cU ae) (.z ib (.o (.call dM rfl (bE hs) ?_)))))));rintro _ w ⟨rfl,hs⟩
  refine .z gP (.zn zg (.cond rfl (fun hc15=>?_) (fun hc15=>?_)))
  ·refine .ai (.z (zbd [_,_] bJ) (.o (.aH (vs:=[_,_]) hs rfl rfl aq fun w hs=>?_)))
   refine .zn zg (.ret (rB (rT (?_))))
   exact Fin.gj [] [] hs fun w hs=>⟨_,results2 Tryz.results58 (cC (vs:=[_,_]) hs rfl aR aq) rfl,H1,_,_,_,hle1,rfl,.water hok (by simp at hc15;omega),hs.out⟩
  ·refine .ai (.y hs (zls [_,_] aR aq) ?_)
   have hk:0≤k∧k≤(s.sp.wa.length:Int) - 1:=by simpa using hc15
   refine .o (.call Tryz.call118 rfl (lS hs) ?_);rintro _ w ⟨rfl,hs⟩
   refine .z gP (.zn zg (.cond rfl (fun hc25=>?_) (fun hc25=>?_)))
   ·refine .ai (.z (zbd [_,_] bJ) (.o (.aH (vs:=[_,_]) hs rfl rfl aq fun w hs=>?_)))
    refine .zn zg (.ret (rB (rT (?_))))
    exact Fin.gj [] [] hs fun w hs=>⟨_,results2 Tryz.results58 (cC (vs:=[_,_]) hs rfl aR aq) rfl,H1,_,_,_,hle1,rfl,.dense hok hk (by simpa using hc25),hs.out⟩
   ·refine .skip (nB (nT (.ai (.y hs (zls [_,_,_,_,_,_,_,_] aI aB) (.z zm (.y hs (zls [_,_] aR aq) ?_))))))
    have hdn:eS x y:=by simpa using hc25
    obtain ⟨j,rfl⟩:∃j:Nat,k=(j:Int):=⟨k.toNat,ak⟩
    refine .o (.call Tryz.call88 rfl (dP (s:=s) hs (g.mono hle1) hok hdn) ?_);rintro _ w ⟨H2,lo,hi,e,hle2,rfl,hS,hs⟩
    refine .z zex (.z zex (.o (.aH (vs:=[_,_]) hs rfl rfl aq fun w hs=>?_)))
    refine .zn zg (.ret ?_)
    exact Fin.gj [] [] hs fun w hs=>⟨_,results2 Tryz.results58 (cC (vs:=[_,_]) hs rfl aR aq) rfl,H2,_,_,_,hle1.trans hle2,rfl,.go hok hk hdn (by rw [Int.toNat_natCast];exact hS),hs.out⟩
set_option maxHeartbeats 2000000 in
theorem tU{s:Srv}{l:Lns}{r:List Lg}{m:Rng}{a b c d vt vs vlg:Value}(hs:St H w σ)(g:SvM H s a b c d)(gl:LnM H l vt vs)(gr_:RLg H vlg r):
  Cl Tryz.prog 79 [svA s a b c d,lnA l vt vs,.agg #[vlg],.agg #[I m.lo,I m.hi]] w fun u w'=>∃(H1:bw) (z:RtV) (ks:List Int) (e:Int),HLe H H1∧u= .tuple #[z.agg,I e]∧z.cs.all Value.oneCell'=true∧mC s l r m ks e∧(e=0→∃vms vmk,z=⟨s,l,a,b,c,d,vt,vs,vlg,vms,vmk⟩∧RRg H1 vms (msL m r r.length)∧RI H1 vmk ks)∧St H1 w' σ:=by
 obtain ⟨alg,clg,rfl⟩:=gr_.shape
 refine Cl.o Tryz.func79 Tryz.ntmps79 ag4 ?_
 refine .ai (.bx hs fun b4 w hs=>?_)
 refine .bx hs fun b5 w hs=>?_
 refine .bx hs fun b6 w hs=>?_
 refine .bx hs fun b7 w hs=>?_
 refine .o (.alloc hs iD rfl fun b8 w hs=>?_)
 refine .zn zg (.seq (.ai (.y hs (zls [_,_,_,_,_,_,_,_] aI aB) (.o (.call IM rfl (eU (s:=s) hs g.st g.wa g.rd g.cm) ?_)))));rintro _ w ⟨H1,e,hle1,rfl,hC,hs⟩
 refine .zn zg (.ai (.z zm (.zn gg (.dO rfl (fun hc21=>?_) (fun hc21=>?_)))))
 ·refine .ai (.z (zbd RtV.zero.cs fi rfl aE) (.z zm (.o (.aH (vs:=RtV.zero.cs) hs rfl rfl bT fun w hs=>?_))))
  refine .zn zg (.ret (rT (?_)))
  exact Fin.gj [] [] hs fun w hs=>⟨_,results2 vk (cC (vs:=RtV.zero.cs) hs rfl j8 bT) rfl,H1,RtV.zero,_,_,hle1,rfl,rfl,.bad hC hc21,fun h=>(hc21 h).elim,hs.out⟩
 ·refine .skip (nT (.seq (.ai (.y hs (zls [_,_,_,_] bp aK) ?_))))
  have hok:dC s:=hC.db.1 ak
  have hsp:=hok.early.1
  refine .o (.call Tryz.call19 rfl (fm hs (gl.tb.mono hle1) (gl.sn.mono hle1)) ?_);rintro _ w ⟨f,rfl,hL,hs⟩
  refine .zn zg (.ai (.z zm (.zn gg (.dO rfl (fun hc27=>?_) (fun hc27=>?_)))))
  ·refine .ai (.z (zbd RtV.zero.cs fi rfl aE) (.z zm ?_))
   have hl:=hL.resolve_left fun h=>hc27 h.2
   refine .o (.aH (vs:=RtV.zero.cs) hs rfl rfl bT fun w hs=>?_)
   refine .zn zg (.ret (rT (?_)))
   exact Fin.gj [] [] hs fun w hs=>⟨_,results2 vk (cC (vs:=RtV.zero.cs) hs rfl j8 bT) rfl,H1,RtV.zero,_,_,hle1,rfl,rfl,by rw [hl.2];exact .lines hok hl.1,fun h=>(hc27 h).elim,hs.out⟩
  ·refine .skip (nT (.seq (.ai (.y hs (zls [_] bR aW) ?_))))
   have hl:hZ l:=(hL.resolve_right fun h=>by omega).1
   refine .o (.call Tryz.call21 rfl (ot hs (gr_.mono hle1)) ?_);rintro _ w ⟨q,rfl,hR,hs⟩
   refine .zn zg (.ai (.z zm (.zn gg (.dO rfl (fun hc33=>?_) (fun hc33=>?_)))))
   ·refine .ai (.z (zbd RtV.zero.cs fi rfl aE) (.z zm ?_))
    have hrt:=hR.resolve_left fun h=>hc33 h.2
    refine .o (.aH (vs:=RtV.zero.cs) hs rfl rfl bT fun w hs=>?_)
    refine .zn zg (.ret (rT (?_)))
    exact Fin.gj [] [] hs fun w hs=>⟨_,results2 vk (cC (vs:=RtV.zero.cs) hs rfl j8 bT) rfl,H1,RtV.zero,_,_,hle1,rfl,rfl,by rw [hrt.2];exact .route hok hl hrt.1,fun h=>(hc33 h).elim,hs.out⟩
   ·refine .skip (nT (.seq (.ai (.y hs (zls [_,_] aR aq) ?_))))
    have hrt:uz r:=(hR.resolve_right fun h=>by omega).1
    have hn:=hrt.many
    refine .o (.call Tryz.call109 rfl (mz hs) ?_);rintro _ w ⟨rfl,hs⟩
    refine .zn gP (.cond rfl (fun hc38=>?_) (fun hc38=>?_))
    ·refine .ai (.z (zbd RtV.zero.cs fi rfl aE) (.o (.aH (vs:=RtV.zero.cs) hs rfl rfl bT fun w hs=>?_)))
     refine .zn zg (.ret (rT (?_)))
     exact Fin.gj [] [] hs fun w hs=>⟨_,results2 vk (cC (vs:=RtV.zero.cs) hs rfl j8 bT) rfl,H1,RtV.zero,_,_,hle1,rfl,rfl,.qj hok hl hrt (by simpa using hc38),fun h=>by omega,hs.out⟩
    ·refine .skip (nT (.cut (fun fs w=>∃H2 vms b13,lZ fs ⟨76,[],[(13,Pt b13),(8,Pt b8),(5,Pt b5),(6,Pt b6)]⟩∧HLe H1 H2∧RRg H2 vms (msL m r r.length)∧St H2 w (.blk b13 (RtV.cs ⟨s,l,a,b,c,d,vt,vs,.slice alg r.length clg,vms,.slice none 0 0⟩):: .blk b8 RtV.zero.cs:: .blk b6 [.slice alg r.length clg]:: .blk b5 (lnC l vt vs)::σ)) ?_ ?_))
     ·refine .draw mix rfl hs fun w hs=>?_
      refine .ys 0 rfl hs [_,_,_,_,_,_,_,_] aI aB ?_;refine .ys 1 rfl hs [_,_,_,_] bp aK ?_;refine .z 2 rfl (zfa cH) ?_;refine .y 3 rfl hs dm ?_;refine .ys 4 rfl hs [_] bR aW ?_;refine .ys 5 rfl hs [_,_] aR aq ?_
      refine .e2 (i:=6) (j:=8) aE rfl rfl rfl rfl .none .none hs ?_ ?_
      ·refine .call Tryz.call110 rfl (mu hs (gr_.mono hle1) hrt (by simpa using hc38)) ?_;rintro vms w ⟨H2,hle2,hMs,hs⟩
       obtain ⟨ams,cms,rfl⟩:=hMs.shape
       refine .go (.zw 7 rfl (zbd (vs:=[(0,svA s a b c d),(1,lnA l vt vs),(2,.slice alg r.length clg),(3,.slice ams (msL m r r.length).length cms)]) (RtV.cs ⟨s,l,a,b,c,d,vt,vs,.slice alg r.length clg,.slice ams (msL m r r.length).length cms,.slice none 0 0⟩) fi rfl aE) (.E 8 hs ?_))
       refine .alloc hs iD rfl ?_;intro b13 w hs
       refine .go (.E 9 hs ?_)
       refine .aH (vs:=RtV.cs ⟨s,l,a,b,c,d,vt,vs,.slice alg r.length clg,.slice ams (msL m r r.length).length cms,.slice none 0 0⟩) hs rfl rfl bT ?_ (hv:=RtV.one g gl gr_ (RS.one hMs) rfl);intro w hs
       refine .go (.D hs ?_)
       exact nT ⟨H2,_,b13,bn,hle2,hMs,hs.sb⟩
      ·refine .alloc hs iD rfl ?_;intro b13 w hs
       refine .go (.E 6 hs ?_)
       refine .call Tryz.call110 rfl (mu hs (gr_.mono hle1) hrt (by simpa using hc38)) ?_;rintro vms w ⟨H2,hle2,hMs,hs⟩
       obtain ⟨ams,cms,rfl⟩:=hMs.shape
       refine .go (.zw 7 rfl (zbd (vs:=[(0,svA s a b c d),(1,lnA l vt vs),(2,.slice alg r.length clg),(3,.slice ams (msL m r r.length).length cms)]) (RtV.cs ⟨s,l,a,b,c,d,vt,vs,.slice alg r.length clg,.slice ams (msL m r r.length).length cms,.slice none 0 0⟩) fi rfl aE) (.E 9 hs ?_))
       refine .aH (vs:=RtV.cs ⟨s,l,a,b,c,d,vt,vs,.slice alg r.length clg,.slice ams (msL m r r.length).length cms,.slice none 0 0⟩) hs rfl rfl bT ?_ (hv:=RtV.one g gl gr_ (RS.one hMs) rfl);intro w hs
       refine .go (.D hs ?_)
       exact nT ⟨H2,_,b13,bn,hle2,hMs,hs.sb⟩
     ·rintro fs w ⟨H2,vms,b13,hfs,hle2,hMs,hs⟩
      refine WE.sub ?_ hfs
      clear hfs
      have hle02:=hle1.trans hle2
      have hm:gR m.lo m.hi:=by simpa using hc38
      refine .seq (.ai (.z (zfa cH) (.y hs (zld dm) (.z (cU aS) (.zn zm (.for (N:=r.length) (J:=fun k fr w=>∃H3 ks vmk en,fr=[(49,.slice alg r.length clg),(13,Pt b13),(8,Pt b8),(5,Pt b5)]∧HLe H2 H3∧ks.length=k∧(∀i<k,xq s.sp.wa l (lg0 r i) (gi ks i) 0)∧bS 1 vmk (Is ks) en∧St H3 w (en:: .blk b13 (RtV.cs ⟨s,l,a,b,c,d,vt,vs,.slice alg r.length clg,vms,vmk⟩):: .blk b8 RtV.zero.cs:: .blk b6 [.slice alg r.length clg]:: .blk b5 (lnC l vt vs)::σ)) ak ?_ ?_ ?_))))))
      ·exact .mk ⟨H2,[],_,.nul,rfl,HLe.refl _,rfl,fun i hi=>by omega,.nil 1 none,hs.nul⟩
      ·rintro k fr w hk ⟨H3,ks,vmk,en,rfl,hle3,hkl,hks,hO,hs⟩
       have hx:=mc (l:=r) hk
       have hle03:=hle02.trans hle3
       obtain ⟨ao,lo',co,rfl,hlo⟩:=hO.shape
       refine .block (.ai (.ixX (enc:=Lg.c) hs (gr_.mono hle03) rfl rfl aS aN hx df ?_));intro b53 o53 hc53
       refine .q hs (bI (vs:=(Lg.c (lg0 r k))) rfl dQ aN hc53) (.o (.alloc hs cj rfl fun b15 w hs=>?_))
       refine .o (.aH (vs:=(lg0 r k).c) hs rfl rfl aN fun w hs=>?_)
       change St _ _ (.blk b15 (lgC (lg0 r k))::_) at hs
       refine .nil (.ai (.z (zfa kx) (.z (zfa bj) (.y hs (zls [_,_,_,_,_,_] aM aD) (.y hs (zls [_,_,_,_] bp aK) (.y hs (zls [_,_,_,_,_,_,_] dQ aN) (.o (.call Tryz.call115 rfl (mv (s:=s.sp) (x:=lg0 r k) hs (g.wa.mono hle03) (gl.tb.mono hle03) (gl.sn.mono hle03) hsp hl (hrt.leg k hk).1) ?_))))))));rintro _ w ⟨H4,n,e,hle4,rfl,hLw,hs⟩
       have hle04:=hle03.trans hle4
       refine .z zm (.z zex (.z zex (.z zg (.zn zg (.seq (.ai (.z zm (.zn gg (.dO rfl (fun hc65=>?_) (fun hc65=>?_))))))))))
       ·refine .ai (.z (zbd RtV.zero.cs fi rfl aE) (.z zm (.o (.aH (vs:=RtV.zero.cs) hs rfl rfl bT fun w hs=>?_))))
        refine .zn zg (.ret (rT (rB (rT (rB (rT (?_)))))))
        exact Fin.gj [] [] hs fun w hs=>⟨_,results2 vk (cC (vs:=RtV.zero.cs) hs rfl j8 bT) rfl,H4,RtV.zero,_,_,hle04,rfl,rfl,.low hok hl hrt hm hk (fun j hj=>⟨_,hks j hj⟩) hLw hc65,fun h=>(hc65 h).elim,hs.out⟩
       ·refine .skip (nT (.region (.z (zfa ft) (.y hs (zld an) (.z zm (.o (.buildSlice (cells:=Is [n]) hs bX rfl aE fun b71 w hs=>?_)))))))
        refine .o (.append (ys:=Is [n]) hs bP rfl rfl hO (.own .here rfl rfl) (ia _) (fun l h=>by simp [Is] at h;omega) ?_);intro v72 en72 w hO2 hs
        rw [←List.map_append] at hO2
        obtain ⟨a72,l72,c72,rfl,h72⟩:=hO2.shape
        refine .z (zfa ft) (.o (.store hs rfl rfl au fun w hs=>?_))
        refine .nil (nB (nT ?_))
        obtain rfl:e=0:=by omega
        exact .mk ⟨H4,ks++[n],_,_,rfl,hle3.trans hle4,by simp [hkl],fun i hi=>by
         by_cases e:i=k
         ·subst e;rw [nu,if_neg ak,if_pos ak];exact hLw
         ·rw [nu,if_pos ak];exact hks i ak,hO2,hs.sb⟩
      ·rintro fr w ⟨H3,ks,vmk,en,rfl,hle3,hkl,hks,hO,hs⟩
       obtain ⟨H4,hle4,hRk,hs⟩:=hO.dJ ak hs .here
       have hle04:=hle02.trans (hle3.trans hle4)
       refine nT (.ai (.y hs (zls [_,_,_,_,_,_,_,_,_,_,_,_,_,_,_] j8 bT) (.o (.aH (vs:=RtV.cs ⟨s,l,a,b,c,d,vt,vs,.slice alg r.length clg,vms,vmk⟩) hs rfl rfl bT ?_ (hv:=RtV.one g gl gr_ (RS.one hMs) (RS.one hRk))))));intro w hs
       refine .zn zg (.ret ?_)
       exact Fin.gj [] [] hs fun w hs=>⟨_,results2 vk (cC (vs:=RtV.cs ⟨s,l,a,b,c,d,vt,vs,.slice alg r.length clg,vms,vmk⟩) hs rfl j8 bT) rfl,H4,⟨s,l,a,b,c,d,vt,vs,.slice alg r.length clg,vms,vmk⟩,_,_,hle04,rfl,RtV.one g gl gr_ (RS.one hMs) (RS.one hRk),.ok hok hl hrt hm hkl hks,fun _=>⟨_,_,rfl,hMs.mono (hle3.trans hle4),hRk⟩,hs.out⟩
structure RtM(H:bw)(s:Srv)(l:Lns)(r:List Lg)(m:Rng)(ks:List Int)(z:RtV):Prop where
 es:z.s=s
 el:z.l=l
 sv:SvM H s z.a z.b z.c z.d
 ln:LnM H l z.t z.n
 lg:RLg H z.lg r
 ms:RRg H z.ms (msL m r r.length)
 mr:RI H z.mr ks
 one:z.cs.all Value.oneCell'=true
 beg:mC s l r m ks 0
set_option maxHeartbeats 1000000 in
theorem lT{s:Srv}{l:Lns}{r:List Lg}{m:Rng}{ks:List Int}{z:RtV}(hs:St H w σ)(h:RtM H s l r m ks z):
  Cl Tryz.prog 80 [z.agg] w fun u w'=>∃H1 v as_ e,HLe H H1∧u= .tuple #[v,I e]∧RI H1 v as_∧yL s l r m as_ e∧St H1 w' σ:=by
 obtain ⟨s',l',a,b,c,d,t,n,lg,ms,mr⟩:=z
 obtain ⟨rfl,rfl,g,gl,hr,hms,hmr,hone,hB⟩:=h
 dsimp only at g gl hr hms hmr hone
 obtain ⟨alg,clg,rfl⟩:=hr.shape
 obtain ⟨ams,cms,rfl⟩:=hms.shape
 obtain ⟨amr,cmr,rfl⟩:=RI.shape hmr
 obtain ⟨hok,hl,hrt,hm,hkl,hlow⟩:=hB.ok'
 have hn:=hrt.many
 have hml:=lR m r r.length
 refine Cl.o Tryz.func80 Tryz.ntmps80 ag1 ?_
 refine .ai (.bx hs fun b1 w hs=>?_)
 refine .z zg (.zn zg (.ai (.zn zg (.seq (.ai (.z (zfa eI) (.y hs (zld dm) (.z (cU aS) (.zn zm (.for (N:=r.length) (J:=fun k fr w=>∃H1 vo as_ en,fr=[(4,vo),(11,.slice alg r.length clg),(1,Pt b1)]∧HLe H H1∧as_.length=k∧(∀i<k,∃lo hi,jD s' (gi ks i).toNat (lg0 r i).dlo (lg0 r i).dhi lo hi 0∧gi as_ i=xd (ke m r i) lo hi)∧(0<k→s'.sys.Sound)∧bS 1 vo (Is as_) en∧St H1 w (en:: .blk b1 (RtV.cs ⟨s',l',a,b,c,d,t,n,.slice alg r.length clg,.slice ams (msL m r r.length).length cms,.slice amr ks.length cmr⟩)::σ)) ak ?_ ?_ ?_))))))))))
 ·exact .mk ⟨H,_,[],.nul,rfl,HLe.refl _,rfl,fun i hi=>by omega,fun h=>by omega,.nil 1 none,hs.nul⟩
 ·rintro k fr w hk ⟨H1,vo,as_,en,rfl,hle1,hal,has,hsd,hO,hs⟩
  have hx:=mc (l:=r) hk
  have hxm:=y9 m r (k:=r.length) (i:=k) ak
  have hdn:=(hrt.leg k hk).1.dense
  obtain ⟨q,hq,hqw⟩:=hB.mark hk
  obtain ⟨ao,lo',co,rfl,hlo⟩:=hO.shape
  refine .block (.ai (.z zm (.ixX (enc:=Lg.c) hs (hr.mono hle1) rfl rfl aS aN hx df ?_)));intro b16 o16 hc16
  refine .q hs (bI (vs:=(Lg.c (lg0 r k))) rfl dQ aN hc16) (.o (.alloc hs cj rfl fun b6 w hs=>?_))
  refine .z zg (.o (.aH (vs:=(lg0 r k).c) hs rfl rfl aN fun w hs=>?_))
  change St _ _ (.blk b6 (lgC (lg0 r k))::_) at hs
  refine .nil (.cut (fun fs w=>∃H2 lo hi e b7,lZ fs ⟨60,[],[(8,I e),(7,Pt b7),(6,Pt b6),(5,I (k:Int)),(4,.slice ao lo' co),(1,Pt b1),(11,.slice alg r.length clg),(13,I (k:Int)),(12,I (r.length:Int))]⟩∧HLe H1 H2∧jD s' q (lg0 r k).dlo (lg0 r k).dhi lo hi e∧St H2 w (.blk b7 [I lo,I hi]:: .blk b6 (lgC (lg0 r k))::en:: .blk b1 (RtV.cs ⟨s',l',a,b,c,d,t,n,.slice alg r.length clg,.slice ams (msL m r r.length).length cms,.slice amr ks.length cmr⟩)::σ)) ?_ ?_)
  ·refine .draw mix rfl hs fun w hs=>?_
   refine .zw 0 rfl (zfa kx) ?_;refine .ys 1 rfl hs [_,_,_,_,_,_,_,_] aI aB ?_;refine .z 2 rfl (zfa ft) ?_;refine .y 3 rfl hs an ?_;refine .z 4 rfl zm ?_
   refine .ixX (enc:=fun x=>[I x]) (i:=5) hs rfl aE .none (hmr.mono hle1) rfl rfl ae aj (bB (l:=ks) (i:=k) ak) rfl ?_;intro b24 o24 hc24;replace hc24:=bK.one hc24
   refine .y 6 rfl hs af ?_;refine .z 7 rfl (zfa eC) ?_;refine .ys 8 rfl hs [_,_] aR aq ?_
   refine .e2 (i:=9) (j:=13) aE rfl rfl rfl rfl .none .none hs ?_ ?_
   ·rw [hq]
    refine .call Tryz.call88 rfl (dP (s:=s') hs (g.mono hle1) hok hdn) ?_;rintro _ w ⟨H2,lo,hi,e,hle2,rfl,hS,hs⟩
    refine .go (.zw 10 rfl zm ?_);refine .z 11 rfl zex ?_;refine .z 12 rfl zex ?_
    refine .E 13 hs ?_
    refine .alloc hs bN rfl ?_;intro b7 w hs
    refine .go (.E 14 hs ?_)
    refine .aH (vs:=[_,_]) hs rfl rfl aq ?_;intro w hs
    refine .go (.zw 15 rfl zg ?_);refine .D hs ?_
    exact nT ⟨H2,lo,hi,e,b7,bn,hle2,hS,hs.sb⟩
   ·refine .alloc hs bN rfl ?_;intro b7 w hs
    refine .go (.E 9 hs ?_)
    rw [hq]
    refine .call Tryz.call88 rfl (dP (s:=s') hs (g.mono hle1) hok hdn) ?_;rintro _ w ⟨H2,lo,hi,e,hle2,rfl,hS,hs⟩
    refine .go (.zw 10 rfl zm ?_);refine .z 11 rfl zex ?_;refine .z 12 rfl zex ?_
    refine .E 14 hs ?_
    refine .aH (vs:=[_,_]) hs rfl rfl aq ?_;intro w hs
    refine .go (.zw 15 rfl zg ?_);refine .D hs ?_
    exact nT ⟨H2,lo,hi,e,b7,bn,hle2,hS,hs.sb⟩
  ·rintro fs w ⟨H2,lo,hi,e,b7,hfs,hle2,hS,hs⟩
   refine WE.sub ?_ hfs
   clear hfs
   have hle02:=hle1.trans hle2
   refine .seq (.ai (.z zm (.zn gg (.dO rfl (fun hc32=>?_) (fun hc32=>?_)))))
   ·refine .ai (.z zm (.z zg (.zn zg (.ret (rT (rB (rT (rB (rT (Fin.jG Tryz.results80 rfl rfl ?_))))))))))
    exact ⟨H2,_,[],_,hle02,rfl,RS.nil H2 1 none 0,by rcases hS.err hok hqw with h|h;exact (hc32 h.1).elim;rw [h.1];exact .fls hB h.2.1,hs.out⟩
   ·refine .skip (nT (.ai (.zn zg (.cut (fun fs w=>∃x,lZ fs ⟨60,[],[(9,I x),(4,.slice ao lo' co),(1,Pt b1),(11,.slice alg r.length clg),(13,I (k:Int)),(12,I (r.length:Int))]⟩∧x=xd (ke m r k) lo hi∧St H2 w (.blk b7 [I lo,I hi]:: .blk b6 (lgC (lg0 r k))::en:: .blk b1 (RtV.cs ⟨s',l',a,b,c,d,t,n,.slice alg r.length clg,.slice ams (msL m r r.length).length cms,.slice amr ks.length cmr⟩)::σ)) ?_ ?_))))
    ·refine .block (.seq (.draw mix rfl hs fun w hs=>?_))
     refine .zw 0 rfl (zfa iN) ?_;refine .y 1 rfl hs Tryz.isAgg80 ?_;refine .z 2 rfl zm ?_
     refine .ixX (enc:=Rng.c) (i:=3) hs rfl aE .none (RS.mono hms hle02) rfl rfl dL aq hxm rfl ?_;intro b38 o38 hc38
     refine .zw 4 rfl (zfa cg) (.r (i:=5) hs rfl aE .none (aQ rfl af (hc38.get 1 rfl)) ?_)
     refine .zw 6 rfl (zfa bD) ?_;refine .y 7 rfl hs af ?_;refine .z 8 rfl uJ ?_;refine .z 9 rfl zg ?_;refine .D hs ?_
     refine (.bO rfl (fun hc34=>?_) (fun hc34=>?_))
     ·refine .region (.zn zg (nB (nT ?_)))
      exact ⟨_,bn,by unfold xd;simp [*],hs⟩
     ·refine .seq (.draw mix rfl hs fun w hs=>?_)
      refine .zw 0 rfl (zfa iN) ?_;refine .y 1 rfl hs Tryz.isAgg80 ?_;refine .z 2 rfl zm ?_
      refine .ixX (enc:=Rng.c) (i:=3) hs rfl aE .none (RS.mono hms hle02) rfl rfl dL aq hxm rfl ?_;intro b48 o48 hc48
      refine .zw 4 rfl (zfa bD) (.r (i:=5) hs rfl aE .none (aQ rfl af (hc48.get 0 rfl)) ?_)
      refine .zw 6 rfl (zfa cg) ?_;refine .y 7 rfl hs af ?_;refine .z 8 rfl pQ ?_;refine .z 9 rfl zg ?_;refine .D hs ?_
      refine (.bO rfl (fun hc44=>?_) (fun hc44=>?_))
      ·refine .region (.zn zg (nB (nT ?_)))
       exact ⟨_,bn,by unfold xd;simp [*],hs⟩
      ·refine .skip (nB (nT ?_))
       exact ⟨_,bn,by unfold xd;simp [*],hs⟩
    ·rintro fs w ⟨x,hfs,hx9,hs⟩
     refine WE.sub ?_ hfs
     clear hfs
     refine .region (.z zm (.z zm (.o (.buildSlice (cells:=Is [x]) hs bX rfl aE fun b56 w hs=>?_))))
     refine .o (.append (ys:=Is [x]) hs bP rfl rfl hO (.own .here rfl rfl) (ia _) (fun l h=>by simp [Is] at h;omega) ?_);intro v57 en57 w hO2 hs
     rw [←List.map_append] at hO2
     refine .zn zg (nB (nT ?_))
     obtain rfl:e=0:=by omega
     exact .mk ⟨H2,_,as_++[x],_,rfl,hle02,by simp [hal],fun i hi=>by
      by_cases e:i=k
      ·subst e;exact ⟨_,_,by rw [hq,Int.toNat_natCast];exact hS,by rw [nu,if_neg ak,if_pos ak];exact hx9⟩
      ·rw [nu,if_pos ak];exact has i ak,fun _=>(hS.err hok hqw).elim (fun h=>h.2) (fun h=>by omega),hO2,hs.sb⟩
 ·rintro fr w ⟨H1,vo,as_,en,rfl,hle1,hal,has,hsd,hO,hs⟩
  obtain ⟨H4,hle4,hRk,hs⟩:=hO.dJ ak hs .here
  refine nT (.ai (.z zm (.z zg (.zn zg (.ret (Fin.jG Tryz.results80 rfl rfl ?_))))))
  exact ⟨H4,_,_,_,hle1.trans hle4,rfl,hRk,.ok hB (hsd ak) hal has,hs.out⟩
theorem kW{s:Srv}{l:Lns}{r:List Lg}{m:Rng}{a b c d vt vs vlg:Value}(hs:St H w σ)(g:SvM H s a b c d)(gl:LnM H l vt vs)(gr_:RLg H vlg r):
  Cl Tryz.prog 79 [svA s a b c d,lnA l vt vs,.agg #[vlg],.agg #[I m.lo,I m.hi]] w fun u w'=>∃(H1:bw) (z:RtV) (ks:List Int) (e:Int),HLe H H1∧u= .tuple #[z.agg,I e]∧z.cs.all Value.oneCell'=true∧mC s l r m ks e∧(e=0→RtM H1 s l r m ks z)∧St H1 w' σ:=by
 refine (tU hs g gl gr_).mono ?_
 rintro u w' ⟨H1,z,ks,e,hle,hu,ho,hB,h0,hs⟩
 exact ⟨H1,z,ks,e,hle,hu,ho,hB,fun he=>by
  obtain ⟨vms,vmk,rfl,h1,h2⟩:=h0 he
  subst he
  exact ⟨rfl,rfl,g.mono hle,gl.mono hle,gr_.mono hle,h1,h2,ho,hB⟩,hs⟩
theorem rm{s:Srv}{l:Lns}{r:List Lg}{m:Rng}{a b c d vt vs vlg:Value}(hs:St H w σ)(g:SvM H s a b c d)(gl:LnM H l vt vs)(gr_:RLg H vlg r):
  Cl Tryz.prog 24 [svA s a b c d,lnA l vt vs,.agg #[vlg],.agg #[I m.lo,I m.hi]] w fun u w'=>∃H1 v as_ e,HLe H H1∧u= .tuple #[v,I e]∧RI H1 v as_∧yL s l r m as_ e∧St H1 w' σ:=by
 refine Cl.o Tryz.func24 Tryz.ntmps24 ag4 ?_
 refine .ai (.bx hs fun b4 w hs=>?_)
 refine .bx hs fun b5 w hs=>?_
 refine .bx hs fun b6 w hs=>?_
 refine .bx hs fun b7 w hs=>?_
 refine .z zg (.zn zg (.ai (.y hs (zls [_,_,_,_,_,_,_,_] aI aB) (.y hs (zls [_,_,_,_] bp aK) (.y hs (zls [_] bR aW) (.y hs (zls [_,_] aR aq) (.o (.call Tryz.call79 rfl (kW (s:=s) (l:=l) (m:=m) hs g gl gr_) ?_))))))));rintro _ w ⟨H1,z,ks,e,hle1,rfl,ho,hB,h0,hs⟩
 refine .z zm (.z zex (.z zex (.o (.alloc hs iD rfl fun b10 w hs=>?_))))
 refine .o (.aH (vs:=z.cs) hs rfl rfl bT ?_ (hv:=ho));intro w hs
 refine .zn zg (.seq (.ai (.z zm (.zn gg (.dO rfl (fun hc21=>?_) (fun hc21=>?_))))))
 ·refine .ai (.z zm (.z zg (.zn zg (.ret (rT (Fin.jG Tryz.results24 rfl rfl ?_))))))
  exact ⟨H1,_,[],_,hle1,rfl,RS.nil H1 1 none 0,.bad hB hc21,hs.out⟩
 ·refine .skip (nT (.ai (.y hs (zls [_,_,_,_,_,_,_,_,_,_,_,_,_,_,_] j8 bT) ?_)))
  obtain rfl:e=0:=by omega
  refine .o (.call Tryz.call80 rfl (lT hs (h0 rfl)) ?_);rintro _ w ⟨H2,v,as_,e,hle2,rfl,hR,hA,hs⟩
  refine .z zex (.z zex (.z zg (.zn zg (.ret (Fin.jG Tryz.results24 rfl rfl ?_)))))
  exact ⟨H2,_,_,_,hle1.trans hle2,rfl,hR,hA,hs.out⟩
theorem sB{v:Value}{as_:List Int}(hs:St H w σ)(hr:RI H v as_):Cl Tryz.prog 86 [v] w fun u w'=>u=I (uZ as_)∧St H w' σ:=by
 obtain ⟨a,c,rfl⟩:=RI.shape hr
 have hl:=(RI.len hr).2.2
 refine Cl.o Tryz.func86 Tryz.ntmps86 ag1 ?_
 refine .ai (.zn zg (.ai (.zn zg (.seq (.ai (.z zm (.z (cU ae) (.zn zm (.for (N:=as_.length) (J:=fun k fr w=>fr=[(3,I (if (2:Int)∈as_.take k then 2 else 1)),(6,.slice a as_.length c)]∧(∀i<k,gi as_ i≠0)∧St H w σ) ak ?_ ?_ ?_)))))))))
 ·exact .mk ⟨rfl,fun i hi=>by omega,hs⟩
 ·rintro k fr w hk ⟨rfl,hno,hs⟩
  have ht:=cZ (bB hk)
  refine .block (.ai (.ixY hs hr rfl rfl ae aj (bB (l:=as_) (i:=k) ak) df ?_));intro b10 o10 hc10
  refine .q hs (aQ rfl af hc10) (.zn zg (.ai (.zn zm (.block (.ai (.z kd (.zn zg (.bO rfl (fun hc13=>?_) (fun hc13=>?_)))))))))
  ·refine .ai (.zn zg (.ret (rB (rB (rT (rB (rT (Fin.bu Tryz.results86 rfl ?_))))))))
   exact ⟨by unfold uZ;rw [if_pos (by rw [←hc13];exact List.mem_of_getElem? (bB hk))],hs⟩
  ·refine .ai (.z kd (.zn zg (.bO rfl (fun hc15=>?_) (fun hc15=>?_))))
   ·refine .region (.zn zg (nB (nB (nT ?_))))
    exact .mk ⟨by rw [ht,if_pos (List.mem_append.2 (.inr (by rw [hc15];exact .head _)))],fun i hi=>by
     by_cases e:i=k
     ·subst e;exact hc13
     ·exact hno i ak,hs⟩
   ·refine .skip (nB (nB (nT ?_)))
    have e2:(if (2:Int)∈as_.take (k+1) then (2:Int) else 1)=if (2:Int)∈as_.take k then 2 else 1:=by
     have e:(2:Int)∈as_.take (k+1)↔(2:Int)∈as_.take k:=by
      rw [ht,List.mem_append]
      exact ⟨fun h=>h.elim id fun h=>by rw [List.mem_singleton] at h;exact (hc15 h.symm).elim,.inl⟩
     simp only [e]
    exact .mk ⟨by rw [e2],fun i hi=>by
     by_cases e:i=k
     ·subst e;exact hc13
     ·exact hno i ak,hs⟩
 ·rintro fr w ⟨rfl,hno,hs⟩
  rw [List.take_length]
  refine nT (.ai (.z zm (.zn zg (.ret (Fin.bu Tryz.results86 rfl ?_)))))
  have h0:¬(0:Int)∈as_:=fun h=>by
   obtain ⟨i,hi⟩:=List.getElem?_of_mem h
   have hlt:=(List.getElem?_eq_some_iff.1 hi).1
   rw [bB hlt] at hi
   exact hno i hlt (Option.some.inj hi)
  exact ⟨by unfold uZ;rw [if_neg h0],hs⟩
theorem ku{s:Srv}{l:Lns}{r:List Lg}{m:Rng}{a b c d vt vs vlg:Value}(hs:St H w σ)(g:SvM H s a b c d)(gl:LnM H l vt vs)(gr_:RLg H vlg r):
  Cl Tryz.prog 26 [svA s a b c d,lnA l vt vs,.agg #[vlg],.agg #[I m.lo,I m.hi]] w fun u w'=>∃H1 n e,HLe H H1∧u= .tuple #[I n,I e]∧Av s l r m n e∧St H1 w' σ:=by
 refine Cl.o Tryz.func26 Tryz.ntmps26 ag4 ?_
 refine .ai (.bx hs fun b4 w hs=>?_)
 refine .bx hs fun b5 w hs=>?_
 refine .bx hs fun b6 w hs=>?_
 refine .bx hs fun b7 w hs=>?_
 refine .z zg (.zn zg (.ai (.y hs (zls [_,_,_,_,_,_,_,_] aI aB) (.y hs (zls [_,_,_,_] bp aK) (.y hs (zls [_] bR aW) (.y hs (zls [_,_] aR aq) (.o (.call Tryz.call24 rfl (rm (s:=s) (l:=l) (m:=m) hs g gl gr_) ?_))))))));rintro _ w ⟨H1,v,as_,e,hle1,rfl,hR,hA,hs⟩
 refine .z zm (.z zex (.z zex (.z zg (.zn zg (.seq (.ai (.z zm (.zn gg (.dO rfl (fun hc21=>?_) (fun hc21=>?_))))))))))
 ·refine .ai (.z zm (.z zg (.zn zg (.ret (rT (Fin.jG Tryz.results26 rfl rfl ?_))))))
  exact ⟨H1,_,_,hle1,rfl,.bad hA hc21,hs.out⟩
 ·refine .skip (nT (.ai (.z zm ?_)))
  obtain rfl:e=0:=by omega
  refine .o (.call Tryz.call86 rfl (sB hs hR) ?_);rintro _ w ⟨rfl,hs⟩
  refine .z zg (.zn zg (.ret (Fin.jG Tryz.results26 rfl rfl ?_)))
  exact ⟨H1,_,_,hle1,rfl,.ok hA,hs.out⟩
set_option maxHeartbeats 1000000 in
theorem uY{s:Srv}{l:Lns}{r:List Lg}{a b c d vt vs vlg:Value}(hs:St H w σ)(g:SvM H s a b c d)(gl:LnM H l vt vs)(gr_:RLg H vlg r):
  Cl Tryz.prog 28 [svA s a b c d,lnA l vt vs,.agg #[vlg]] w fun u w'=>∃H1 n e,HLe H H1∧u= .tuple #[I n,I e]∧xf s l r n e∧St H1 w' σ:=by
 refine Cl.o Tryz.func28 Tryz.ntmps28 ag3 ?_
 refine .ai (.bx hs fun b3 w hs=>?_)
 refine .bx hs fun b4 w hs=>?_
 refine .bx hs fun b5 w hs=>?_
 refine .z zg (.zn zg (.ai (.y hs (zls [_,_,_,_,_,_,_,_] aI aB) (.y hs (zls [_,_,_,_] bp aK) (.y hs (zls [_] bR aW) (.z (zbd [I 0,I 0] bJ) (.o (.call Tryz.call79 rfl (kW (s:=s) (l:=l) (m:=⟨0,0⟩) hs g gl gr_) ?_))))))));rintro _ w ⟨H1,z,ks,e,hle1,rfl,ho,hB,h0,hs⟩
 refine .z zm (.z zex (.z zex (.o (.alloc hs iD rfl fun b8 w hs=>?_))))
 refine .o (.aH (vs:=z.cs) hs rfl rfl bT ?_ (hv:=ho));intro w hs
 refine .zn zg (.seq (.ai (.z zm (.zn gg (.dO rfl (fun hc25=>?_) (fun hc25=>?_))))))
 ·refine .ai (.z zm (.z zg (.zn zg (.ret (rT (Fin.jG Tryz.results28 rfl rfl ?_))))))
  exact ⟨H1,_,_,hle1,rfl,.bad hB hc25,hs.out⟩
 ·refine .skip (nT (.ai (.z zg (.zn zg (.seq (.ai ?_))))))
  obtain rfl:e=0:=by omega
  obtain ⟨s',l',a',b',c',d',t',n',lg',ms',mr'⟩:=z
  obtain ⟨rfl,rfl,-,-,hr',hms,hmr,hone,-⟩:=h0 rfl
  dsimp only at hr' hms hmr
  obtain ⟨alg,clg,rfl⟩:=hr'.shape
  obtain ⟨amr,cmr,rfl⟩:=RI.shape hmr
  obtain ⟨hok,hl,hrt,hm,hkl,hlow⟩:=hB.ok'
  have hn:=hrt.many
  refine .z (zfa eI) (.y hs (zld dm) (.z (cU aS) (.zn zm (.for (N:=r.length) (J:=fun k fr w=>∃H2 dd best,fr=[(10,I best),(11,I (aP (fun i=>(lg0 r i).blo) k)),(28,.slice alg r.length clg),(8,Pt b8),(3,Pt b3)]∧HLe H1 H2∧(∀i<k,∃hi,jD s' (gi ks i).toNat (lg0 r i).dlo (lg0 r i).dhi (dd i) hi 0)∧GO dd (fun i=>(lg0 r i).blo) k best∧((-300000000≤best∧best≤1000000000000)∧0≤aP (fun i=>(lg0 r i).blo) k∧aP (fun i=>(lg0 r i).blo) k≤k*1000000000000)∧(0<k→s'.sys.Sound)∧St H2 w (.blk b8 (RtV.cs ⟨s',l',a',b',c',d',t',n',.slice alg r.length clg,ms',.slice amr ks.length cmr⟩):: .blk b3 (svC s' a b c d)::σ)) ak ?_ ?_ ?_))))
  ·exact .mk ⟨H1,fun _=>0,1000000000000,rfl,HLe.refl _,fun i hi=>by omega,.inl ⟨fun i hi=>by omega,rfl⟩,by simp [aP],fun h=>by omega,hs.sb⟩
  ·rintro k fr w hk ⟨H2,dd,best,rfl,hle2,hds,hSI,hbd,hsd,hs⟩
   have hx:=mc (l:=r) hk
   have hdn:=(hrt.leg k hk).1.dense
   have hbn:=(hrt.leg k hk).1.burn
   unfold gR at hbn
   obtain ⟨q,hq,hqw⟩:=hB.mark hk
   have hsS:aP (fun i=>(lg0 r i).blo) (k+1)=aP (fun i=>(lg0 r i).blo) k+(lg0 r k).blo:=rfl
   generalize hSe:aP (fun i=>(lg0 r i).blo) k=S at*
   refine .block (.ai (.z zm (.ixX (enc:=Lg.c) hs (hr'.mono hle2) rfl rfl aS aN hx df ?_)));intro b33 o33 hc33
   refine .q hs (bI (vs:=(Lg.c (lg0 r k))) rfl dQ aN hc33) (.o (.alloc hs cj rfl fun b13 w hs=>?_))
   refine .z zg (.o (.aH (vs:=(lg0 r k).c) hs rfl rfl aN fun w hs=>?_))
   change St _ _ (.blk b13 (lgC (lg0 r k))::_) at hs
   refine .nil (.cut (fun fs w=>∃H3 lo hi e b14,lZ fs ⟨68,[],[(15,I e),(14,Pt b14),(13,Pt b13),(10,I best),(11,I S),(28,.slice alg r.length clg),(8,Pt b8),(3,Pt b3),(30,I (k:Int)),(29,I (r.length:Int))]⟩∧HLe H2 H3∧jD s' q (lg0 r k).dlo (lg0 r k).dhi lo hi e∧St H3 w (.blk b14 [I lo,I hi]:: .blk b13 (lgC (lg0 r k)):: .blk b8 (RtV.cs ⟨s',l',a',b',c',d',t',n',.slice alg r.length clg,ms',.slice amr ks.length cmr⟩):: .blk b3 (svC s' a b c d)::σ)) ?_ ?_)
   ·refine .draw mix rfl hs fun w hs=>?_
    refine .ys 0 rfl hs [_,_,_,_,_,_,_,_] aI aB ?_;refine .z 1 rfl (zfa ft) ?_;refine .y 2 rfl hs an ?_;refine .z 3 rfl zm ?_
    refine .ixX (enc:=fun x=>[I x]) (i:=4) hs rfl aE .none (RS.mono hmr hle2) rfl rfl ae aj (bB (l:=ks) (i:=k) ak) rfl ?_;intro b40 o40 hc40;replace hc40:=bK.one hc40
    refine .y 5 rfl hs af ?_;refine .z 6 rfl (zfa eC) ?_;refine .ys 7 rfl hs [_,_] aR aq ?_
    refine .e2 (i:=8) (j:=12) aE rfl rfl rfl rfl .none .none hs ?_ ?_
    ·rw [hq]
     refine .call Tryz.call88 rfl (dP (s:=s') hs (g.mono (hle1.trans hle2)) hok hdn) ?_;rintro _ w ⟨H3,lo,hi,e,hle3,rfl,hS,hs⟩
     refine .go (.zw 9 rfl zm ?_);refine .z 10 rfl zex ?_;refine .z 11 rfl zex ?_
     refine .E 12 hs ?_
     refine .alloc hs bN rfl ?_;intro b14 w hs
     refine .go (.E 13 hs ?_)
     refine .aH (vs:=[_,_]) hs rfl rfl aq ?_;intro w hs
     refine .go (.zw 14 rfl zg ?_);refine .D hs ?_
     exact nT ⟨H3,lo,hi,e,b14,bn,hle3,hS,hs.sb⟩
    ·refine .alloc hs bN rfl ?_;intro b14 w hs
     refine .go (.E 8 hs ?_)
     rw [hq]
     refine .call Tryz.call88 rfl (dP (s:=s') hs (g.mono (hle1.trans hle2)) hok hdn) ?_;rintro _ w ⟨H3,lo,hi,e,hle3,rfl,hS,hs⟩
     refine .go (.zw 9 rfl zm ?_);refine .z 10 rfl zex ?_;refine .z 11 rfl zex ?_
     refine .E 13 hs ?_
     refine .aH (vs:=[_,_]) hs rfl rfl aq ?_;intro w hs
     refine .go (.zw 14 rfl zg ?_);refine .D hs ?_
     exact nT ⟨H3,lo,hi,e,b14,bn,hle3,hS,hs.sb⟩
   ·rintro fs w ⟨H3,lo,hi,e,b14,hfs,hle3,hS,hs⟩
    refine WE.sub ?_ hfs
    clear hfs
    have hle03:=hle1.trans (hle2.trans hle3)
    have hSb:=hS.bd hdn
    refine .seq (.ai (.z zm (.zn gg (.dO rfl (fun hc48=>?_) (fun hc48=>?_)))))
    ·refine .ai (.z zm (.z zg (.zn zg (.ret (rT (rB (rT (rB (rT (Fin.jG Tryz.results28 rfl rfl ?_))))))))))
     exact ⟨H3,_,_,hle03,rfl,by rcases hS.err hok hqw with h|h;exact (hc48 h.1).elim;rw [h.1];exact .fls hB h.2.1,hs.out⟩
    ·refine .skip (nT (.seq (.ai (.z (zfa bD) ?_))))
     obtain rfl:e=0:=by omega
     have hnx:∀i<k+1,∃hi,jD s' (gi ks i).toNat (lg0 r i).dlo (lg0 r i).dhi (Dx dd k lo i) hi 0:=fun i hi=>by
      by_cases e:i=k
      ·subst e;rw [wi,hq,Int.toNat_natCast];exact ⟨_,hS⟩
      ·rw [wh _ _ ak];exact hds i ak
     have hsd':s'.sys.Sound:=(hS.err hok hqw).elim (fun h=>h.2) (fun h=>by omega)
     refine .y hs (zld af) (.zn iJ (.bO rfl (fun hc52=>?_) (fun hc52=>?_)))
     ·refine .region (.zn zg (nT (.ai (.z zm (.z (zfa bD) (.y hs (zld af) (.z zm (.z cq (.z Bj (.zn zg (.region (.z zm (.z (zfa gJ) (.z (zfa bD) (.y hs (zld af) (.z cq (.zn zg (nB (nT ?_)))))))))))))))))))
      exact .mk ⟨H3,Dx dd k lo,min (-1) (lo+S),by rw [hsS],hle2.trans hle3,hnx,.neg hc52,ak,fun _=>hsd',hs.sb⟩
     ·refine .skip (nT (.ai (.z zm (.z (zfa bD) (.y hs (zld af) (.z zm (.z cq (.z Bj (.zn zg (.region (.z zm (.z (zfa gJ) (.z (zfa bD) (.y hs (zld af) (.z cq (.zn zg (nB (nT ?_))))))))))))))))))
      exact .mk ⟨H3,Dx dd k lo,min best (lo+S),by rw [hsS],hle2.trans hle3,hnx,by rw [←hSe];exact hSI.pos ak,ak,fun _=>hsd',hs.sb⟩
  ·rintro fr w ⟨H2,dd,best,rfl,hle2,hds,hSI,hbd,hsd,hs⟩
   refine nT (.seq (.ai (.z zm (.zn iJ (.bO rfl (fun hc66=>?_) (fun hc66=>?_))))))
   ·refine .ai (.z zg (.zn zg (.ret (rT (Fin.jG Tryz.results28 rfl rfl ?_)))))
    rcases hSI with ⟨h1,h2⟩|⟨⟨i,h1,h3⟩,h2⟩
    ·exfalso
     have key:∀n,n≤r.length→0≤tq dd (fun i=>(lg0 r i).blo) n:=fun n=>by
      induction n with
      |zero=>intro _;simp [tq]
      |succ n ih=>
       intro hn
       have:=ih ak
       have:=h1 n ak
       have:0≤aP (fun i=>(lg0 r i).blo) n:=cI fun i hi=>(hrt.leg i ak).1.burn.1
       simp only [tq];omega
     have:=key _ (Nat.le_refl _)
     omega
    ·obtain ⟨hi,hS⟩:=hds i h1
     exact ⟨H2,_,_,hle1.trans hle2,rfl,.none hB (hsd ak) h1 hS h3,hs.out⟩
   ·refine .skip (nT (.ai (.z zm (.z zg (.zn zg (.ret (Fin.jG Tryz.results28 rfl rfl ?_)))))))
    rcases hSI with ⟨h1,h2⟩|⟨_,h2⟩
    ·rw [h2]
     exact ⟨H2,_,_,hle1.trans hle2,rfl,.ok hB (hsd ak) fun i hi=>⟨hds i hi,h1 i hi⟩,hs.out⟩
    ·omega
set_option maxHeartbeats 1000000 in
theorem gX{s:Srv}{l:Lns}{r:List Lg}{m:Rng}{x:Wit}{a b c d vt vs vlg vh:Value}(hs:St H w σ)(g:SvM H s a b c d)(gl:LnM H l vt vs)(gr_:RLg H vlg r)(gh:RT H vh x.rows):
  Cl Tryz.prog 32 [svA s a b c d,lnA l vt vs,.agg #[vlg],.agg #[I m.lo,I m.hi],.agg #[I x.leg,I x.dense,I x.qj,vh]] w fun u w'=>∃H1 e,HLe H H1∧u=I e∧Dk s l r m x e∧St H1 w' σ:=by
 refine Cl.o Tryz.func32 Tryz.ntmps32 ag5 ?_
 refine .ai (.bx hs fun b5 w hs=>?_)
 refine .bx hs fun b6 w hs=>?_
 refine .bx hs fun b7 w hs=>?_
 refine .bx hs fun b8 w hs=>?_
 refine .bx hs fun b9 w hs=>?_
 refine .zn zg (.ai (.y hs (zls [_,_,_,_,_,_,_,_] aI aB) (.y hs (zls [_,_,_,_] bp aK) (.y hs (zls [_] bR aW) (.y hs (zls [_,_] aR aq) (.o (.call Tryz.call79 rfl (kW (s:=s) (l:=l) (m:=m) hs g gl gr_) ?_)))))));rintro _ w ⟨H1,z,ks,e,hle1,rfl,ho,hB,h0,hs⟩
 refine .z zm (.z zex (.z zex (.o (.alloc hs iD rfl fun b11 w hs=>?_))))
 refine .o (.aH (vs:=z.cs) hs rfl rfl bT ?_ (hv:=ho));intro w hs
 refine .zn zg (.seq (.ai (.z zm (.zn gg (.dO rfl (fun hc26=>?_) (fun hc26=>?_))))))
 ·refine .ai (.z zm (.zn zg (.ret (rT (Fin.bu oF rfl ?_)))))
  exact ⟨H1,_,hle1,rfl,.bad hB hc26,hs.out⟩
 ·refine .skip (nT (.seq (.ai ?_)))
  obtain rfl:e=0:=by omega
  obtain ⟨s',l',a',b',c',d',t',n',lg',ms',mr'⟩:=z
  obtain ⟨rfl,rfl,g',-,hr',hms,hmr,hone,-⟩:=h0 rfl
  dsimp only at g' hr' hms hmr
  obtain ⟨alg,clg,rfl⟩:=hr'.shape
  obtain ⟨ams,cms,rfl⟩:=hms.shape
  obtain ⟨amr,cmr,rfl⟩:=RI.shape hmr
  obtain ⟨hok,hl,hrt,hm,hkl,hlow⟩:=hB.ok'
  have hn:=hrt.many
  have hml:=lR m r r.length
  replace gh:=gh.mono hle1
  refine .z (zfa cN) (.y hs (zld af) (.z (zfa eI) (.y hs (zld dm) (.z (cU aS) (.z ib (.o (.call dM rfl (bE hs) ?_)))))));rintro _ w ⟨rfl,hs⟩
  refine .z gP (.z zm (.bif (t':=36) rfl (fun hb36=>?_) (fun hb36=>?_)))
  ·refine .Fs 5 8 false (.zn zpT (.cT (.ai (.zn zg (.ret (rT (Fin.bu oF rfl ?_)))))))
   exact ⟨H1,_,hle1,rfl,.no hB (fun h=>by have:=h.leg;simp_all),hs.out⟩
  ·refine .T (.y hs (zls [_,_,_,_,_,_,_,_] aI aB) (.T (.z (zfa jL) (.T (.y hs (zls [_] eR bH) (.T (.o (.call Tryz.call65 rfl (mP (s:=s') (rows:=x.rows) hs (g.mono hle1).st (g.mono hle1).wa (g.mono hle1).rd (g.mono hle1).cm gh) ?_))))))));rintro _ w ⟨H2,e,hle2,rfl,hCh,hs⟩
   have hle02:=hle1.trans hle2
   refine .T (.z gg (.zn zpF (.dO rfl (fun hc42=>?_) (fun hc42=>?_))))
   ·refine .ai (.zn zg (.ret (rT (Fin.bu oF rfl ?_))))
    exact ⟨H2,_,hle02,rfl,.no hB (fun h=>hc42 (hCh.uniq h.hull)),hs.out⟩
   ·refine .skip (nT (.cut (fun fs w=>∃b13 b14,lZ fs ⟨101,[],[(14,Pt b14),(13,Pt b13),(11,Pt b11),(9,Pt b9)]⟩∧St H2 w (.blk b14 (ke m r x.leg.toNat).c:: .blk b13 (lg0 r x.leg.toNat).c:: .blk b11 (RtV.cs ⟨s',l',a',b',c',d',t',n',.slice alg r.length clg,.slice ams (msL m r r.length).length cms,.slice amr ks.length cmr⟩):: .blk b9 [I x.leg,I x.dense,I x.qj,vh]::σ)) ?_ ?_))
    ·refine .draw mix rfl hs fun w hs=>?_
     have hleg:0≤x.leg∧x.leg≤(r.length:Int) - 1:=by simpa using hb36
     obtain rfl:e=0:=by omega
     have hlt:x.leg.toNat<r.length:=by omega
     have hxl:=mc (l:=r) hlt
     have hxm:=y9 m r (k:=r.length) (i:=x.leg.toNat) ak
     refine .zw 0 rfl (zfa eI) ?_;refine .y 1 rfl hs dm ?_;refine .z 2 rfl (zfa cN) ?_;refine .y 3 rfl hs af ?_
     refine .ixX (enc:=Lg.c) (i:=4) hs rfl aE .none (RS.mono hr' hle2) rfl rfl aS aN hxl ak ?_;intro b47 o47 hc47
     refine .r (i:=5) hs rfl aE .none (bI (vs:=(lg0 r x.leg.toNat).c) rfl dQ aN hc47) ?_
     refine .zw 6 rfl (zfa iN) ?_;refine .y 7 rfl hs Tryz.isAgg80 ?_;refine .z 8 rfl (zfa cN) ?_;refine .y 9 rfl hs af ?_
     refine .ixX (enc:=Rng.c) (i:=10) hs rfl aE .none (RS.mono hms hle2) rfl rfl dL aq hxm ak ?_;intro b53 o53 hc53
     refine .r (i:=11) hs rfl aE .none (bI (vs:=(ke m r x.leg.toNat).c) rfl aR aq hc53) ?_
     refine .e2 (i:=12) (j:=13) aE rfl rfl rfl rfl .none .none hs ?_ ?_
     ·refine .alloc hs cj rfl ?_;intro b13 w hs
      refine .go (.E 13 hs ?_)
      refine .alloc hs bN rfl ?_;intro b14 w hs
      refine .go (.E 14 hs ?_)
      refine .aH (vs:=(lg0 r x.leg.toNat).c) hs rfl rfl aN ?_;intro w hs
      refine .go (.E 15 hs ?_)
      refine .aH (vs:=(ke m r x.leg.toNat).c) hs rfl rfl aq ?_;intro w hs
      refine .go (.D hs ?_)
      exact nT ⟨b13,b14,bn,hs.sb⟩
     ·refine .alloc hs bN rfl ?_;intro b14 w hs
      refine .go (.E 12 hs ?_)
      refine .alloc hs cj rfl ?_;intro b13 w hs
      refine .go (.E 14 hs ?_)
      refine .aH (vs:=(lg0 r x.leg.toNat).c) hs rfl rfl aN ?_;intro w hs
      refine .go (.E 15 hs ?_)
      refine .aH (vs:=(ke m r x.leg.toNat).c) hs rfl rfl aq ?_;intro w hs
      refine .go (.D hs ?_)
      exact nT ⟨b13,b14,bn,hs.sb⟩
    ·rintro fs w ⟨b13,b14,hfs,hs⟩
     refine WE.sub ?_ hfs
     clear hfs
     have hleg:0≤x.leg∧x.leg≤(r.length:Int) - 1:=by simpa using hb36
     obtain rfl:e=0:=by omega
     have hlt:x.leg.toNat<r.length:=by omega
     obtain ⟨q,hq,hqw⟩:=hB.mark hlt
     have hdn:=(hrt.leg _ hlt).1.dense
     unfold eS at hdn
     change St _ _ (.blk b14 [I (ke m r x.leg.toNat).lo,I (ke m r x.leg.toNat).hi]:: .blk b13 (lgC (lg0 r x.leg.toNat))::_) at hs
     refine .seq (.ai (.z (zfa fP) (.y hs (zld af) (.z (zfa eC) (.z (zfa bD) (.y hs (zld af) (.z (zfa eC) (.z (zfa cg) (.y hs (zld af) (.o (.call dM rfl (bE hs) ?_)))))))))));rintro _ w ⟨rfl,hs⟩
     refine .z gP (.z zm (.bif (t':=65) rfl (fun hb65=>?_) (fun hb65=>?_)))
     ·refine .Fs 8 10 false (.zn zpT (.cT (.ai (.zn zg (.ret (rT (Fin.bu oF rfl ?_)))))))
      exact ⟨H2,_,hle02,rfl,.no hB (fun h=>by have:=h.dense;simp_all),hs.out⟩
     ·refine .T ?_
      refine .z (zfa jM) (.T (.y hs (zld af) (.T (.z (zfa bD) (.T (.y hs (zld af) (.T (.z (zfa cg) (.T (.y hs (zld af) (.T (.o (.call dM rfl (bE hs) ?_)))))))))))));rintro _ w ⟨rfl,hs⟩
      refine .T (.z gP (.zn zpF (.cond rfl (fun hc74=>?_) (fun hc74=>?_))))
      ·refine .ai (.zn zg (.ret (rT (Fin.bu oF rfl ?_))))
       exact ⟨H2,_,hle02,rfl,.no hB (fun h=>by have:=h.qj;simp_all),hs.out⟩
      ·refine .skip (nT (.ai (.zn zg (.cut (fun fs w=>∃n H3,lZ fs ⟨101,[],[(15,I n),(9,Pt b9)]⟩∧HLe H H3∧HlR s' x.rows q n∧(-7000000000≤n∧n≤7000000000)∧St H3 w (.blk b9 [I x.leg,I x.dense,I x.qj,vh]::σ)) ?_ ?_))))
       ·refine .ai (.z (zfa ft) (.y hs (zld an) (.z (zfa cN) (.y hs (zld af) (.ixX (enc:=fun x=>[I x]) hs (RS.mono hmr hle2) rfl rfl ae aj (bB (l:=ks) (i:=x.leg.toNat) ak) ak ?_)))));intro b79 o79 hc79;replace hc79:=bK.one hc79
        rw [hq] at hc79
        refine .y hs (zld af) (.zn zg (.ai (.z zm (.zn pQ (.bO rfl (fun hc82=>?_) (fun hc82=>?_))))))
        ·refine .draw mix rfl hs fun w hs=>?_
         refine .zw 0 rfl (zfa kx) ?_;refine .z 1 rfl (zfa bj) ?_;refine .ys 2 rfl hs [_,_,_,_,_,_] aM aD ?_;refine .z 3 rfl (zfa jL) ?_;refine .ys 4 rfl hs [_] eR bH ?_;refine .z 5 rfl zm ?_
         refine .E 6 hs ?_
         refine .call Tryz.call98 rfl (fY hs) ?_;rintro _ w ⟨rfl,hs⟩
         refine .go (.E 7 hs ?_)
         refine .call Tryz.call64 rfl (kT (s:=s'.sp) (rows:=x.rows) (q:=⟨1,0,q⟩) hs (g'.mono hle2).st (g'.mono hle2).wa (gh.mono hle2)) ?_;rintro _ w ⟨H3,n,f,hle3,rfl,hV,hs⟩
         refine .go (.zw 8 rfl zm ?_);refine .z 9 rfl zex ?_;refine .z 10 rfl zex ?_;refine .z 11 rfl zg ?_;refine .D hs ?_
         refine nT ?_
         obtain rfl:f=0:=by
          have hhl:=hCh.Hs
          cases hV with
          |space h=>exact (h hok.early.1).elim
          |hull _ h=>exact (h hhl).elim
          |what _ _ h=>exact (h (tO (v:=s') ak hqw)).elim
          |ok=>rfl
         exact ⟨n,H3,bn,hle02.trans hle3,.up ak hV,hV.bd rfl,hs.sb⟩
        ·refine .skip (nT ?_)
         exact ⟨0,H2,bn,hle02,.zero ak,ak,hs.sb⟩
       ·rintro fs w ⟨n,H3,hfs,hle03,hHl,hnb,hs⟩
        refine WE.sub ?_ hfs
        clear hfs
        have hdw:(lg0 r x.leg.toNat).dlo≤x.dense∧x.dense≤(lg0 r x.leg.toNat).dhi:=by simpa using hb65
        have hmw:(ke m r x.leg.toNat).lo≤x.qj∧x.qj≤(ke m r x.leg.toNat).hi:=by simpa using hc74
        refine .seq (.seq (.draw mix rfl hs fun w hs=>?_))
        refine .zw 0 rfl (zfa jM) ?_;refine .y 1 rfl hs af ?_;refine .z 2 rfl zm ?_;refine .z 3 rfl (zfa fP) ?_;refine .y 4 rfl hs af ?_
        refine .E 5 hs ?_
        refine .call xu rfl (eg hs ak ak) ?_;rintro _ w ⟨rfl,hs⟩
        refine .go (.zw 6 rfl uJ ?_);refine .D hs ?_
        refine (.bO rfl (fun hc100=>?_) (fun hc100=>?_))
        ·refine .ai (.zn zg (.ret (rT (Fin.bu oF rfl ?_))))
         exact ⟨H3,_,hle03,rfl,.no hB (fun h=>by
          obtain ⟨n',g1,g2⟩:=h.sinks
          rw [hq,Int.toNat_natCast] at g1
          rw [←hHl.uniq g1] at g2;omega),hs.out⟩
        ·refine .skip (nT (.ai (.zn zg (.ret (Fin.bu oF rfl ?_)))))
         exact ⟨H3,_,hle03,rfl,.ok hB ⟨hleg,hCh,hdw,hmw,n,by rw [hq,Int.toNat_natCast];exact hHl,ak⟩,hs.out⟩
theorem qo(hs:St H w σ):
  Cl Tryz.prog 71 [] w fun u w'=>∃H1 a b c d vt vs vlg,HLe H H1∧u= .tuple #[.agg #[I 1,I 1,a,b,I 100,I 200,c,d],.agg #[I 1000,I 1200,vt,vs],.agg #[vlg]]∧SvM H1 exV a b c d∧LnM H1 oN vt vs∧RLg H1 vlg lX∧St H1 w' σ:=by
 refine Cl.of Tryz.func71 rfl Tryz.ntmps71 bV (xb) (.ai (.o (.alloc hs ez rfl fun b0 w hs=>?_)))
 refine .o (.alloc hs iW rfl fun b1 w hs=>?_)
 refine .o (.alloc hs lC rfl fun b2 w hs=>?_)
 refine .nil (.ai (.o (.buildSlice (cells:=Is [0,1000]) hs jB rfl aE fun b8 w hs=>?_)))
 refine .o (.buildSlice (cells:=Is [0,1000]) hs jB rfl aE fun b9 w hs=>?_)
 refine .z (zbd [_,_] sc) (.z (zbd [_,_,_,_,_,_] qD) (.o (.alloc hs iV rfl fun b3 w hs=>?_)))
 refine .o (.aH (vs:=[_,_,_,_,_,_]) hs rfl rfl aD fun w hs=>?_)
 refine .nil (.ai (.y hs (zls [_,_,_,_,_,_] aM aD) (.z (zbd [_,_,_,_,_,_,_] gM) (.z (zbd [_,_,_,_,_,_,_] gM) (.z (zbd [_,_,_,_,_,_,_] gM) (.z (zbd [_,_,_,_,_,_,_] gM) (.o (.buildSlice (cells:=(rdc GL).flatten) hs oz rfl aE fun b17 w hs=>?_))))))))
 refine .z (zbd [_,_,_,_,_,_] nN) (.o (.buildSlice (cells:=(cmc exV.cs).flatten) hs j6 rfl aE fun b19 w hs=>?_))
 refine .z (zbd (vs:=[(0,.agg #[I 1,I 1,.slice (some ⟨b8,0,none⟩) 2 2,.slice (some ⟨b9,0,none⟩) 2 2,I 100,I 200]),(1,.slice (some ⟨b17,0,none⟩) 4 4),(2,.slice (some ⟨b19,0,none⟩) 1 1)]) [I 1,I 1,.slice (some ⟨b8,0,none⟩) 2 2,.slice (some ⟨b9,0,none⟩) 2 2,I 100,I 200,.slice (some ⟨b17,0,none⟩) 4 4,.slice (some ⟨b19,0,none⟩) 1 1] oR rfl aE) (.o (.alloc hs ez rfl fun b4 w hs=>?_))
 refine .o (.aH (vs:=[_,_,_,_,_,_,_,_]) hs rfl rfl aB fun w hs=>?_)
 refine .nil (.ai (.z (zbd [_,_] fw) (.z (zbd [_,_] fw) (.o (.buildSlice (cells:=(fbc oN.table).flatten) hs mV rfl aE fun b23 w hs=>?_)))))
 refine .z (zbd [_,_,_,_] oS) (.o (.buildSlice (cells:=(snc oN.seasons).flatten) hs kz rfl aE fun b25 w hs=>?_))
 refine .z (zbd (vs:=[(0,I 1000),(1,I 1200),(2,.slice (some ⟨b23,0,none⟩) 2 2),(3,.slice (some ⟨b25,0,none⟩) 1 1)]) [I 1000,I 1200,.slice (some ⟨b23,0,none⟩) 2 2,.slice (some ⟨b25,0,none⟩) 1 1] qE rfl aE) (.o (.alloc hs iW rfl fun b5 w hs=>?_))
 refine .o (.aH (vs:=[_,_,_,_]) hs rfl rfl aK fun w hs=>?_)
 refine .nil (.ai (.z (zbd [_,_] bJ) (.o (.alloc hs bN rfl fun b6 w hs=>?_))))
 refine .o (.aH (vs:=[_,_]) hs rfl rfl aq fun w hs=>?_)
 refine .nil (.ai (.z (zbd [_,_] bJ) (.o (.alloc hs bN rfl fun b7 w hs=>?_))))
 refine .o (.aH (vs:=[_,_]) hs rfl rfl aq fun w hs=>?_)
 refine .nil (.cut (fun fs w=>∃b37,lZ fs ⟨39,[],[(2,Pt b2),(1,Pt b1),(0,Pt b0)]⟩∧St H w (.blk b2 [.slice (some ⟨b37,0,none⟩) 2 2]:: .blk b1 [I 1000,I 1200,.slice (some ⟨b23,0,none⟩) 2 2,.slice (some ⟨b25,0,none⟩) 1 1]:: .blk b0 [I 1,I 1,.slice (some ⟨b8,0,none⟩) 2 2,.slice (some ⟨b9,0,none⟩) 2 2,I 100,I 200,.slice (some ⟨b17,0,none⟩) 4 4,.slice (some ⟨b19,0,none⟩) 1 1]:: .blk b37 (lgc lX).flatten:: .blk b25 (snc oN.seasons).flatten:: .blk b23 (fbc oN.table).flatten:: .blk b19 (cmc exV.cs).flatten:: .blk b17 (rdc GL).flatten:: .blk b9 (Is [0,1000]):: .blk b8 (Is [0,1000])::σ)) ?_ ?_)
 ·refine .draw mix rfl hs fun w hs=>?_
  refine .ys 0 rfl hs [_,_,_,_,_,_,_,_] aI aB ?_;refine .ys 1 rfl hs [_,_,_,_] bp aK ?_;refine .ys 2 rfl hs [_,_] aR aq ?_;refine .ys 3 rfl hs [_,_] aR aq ?_;refine .z 4 rfl (zbd (lg0 lX 0).c kA rfl aE) ?_;refine .ys 5 rfl hs [_,_] aR aq ?_;refine .ys 6 rfl hs [_,_] aR aq ?_;refine .z 7 rfl (zbd (lg0 lX 1).c kA rfl aE) ?_
  refine .e2 (i:=8) (j:=10) aE rfl rfl rfl rfl .none .none hs ?_ ?_
  ·refine .buildSlice (cells:=(lgc lX).flatten) hs jU rfl aE ?_;intro b37 w hs
   refine .go (.zw 9 rfl (zbd [_] mi) (.E 10 hs ?_))
   refine .aH (vs:=[_,_,_,_,_,_,_,_]) hs rfl rfl aB ?_;intro w hs
   refine .go (.E 11 hs ?_)
   refine .aH (vs:=[_,_,_,_]) hs rfl rfl aK ?_;intro w hs
   refine .go (.E 12 hs ?_)
   refine .aH (vs:=[_]) hs rfl rfl aW ?_;intro w hs
   refine .go (.D hs ?_)
   exact nT ⟨b37,bn,hs.sb⟩
  ·refine .aH (vs:=[_,_,_,_,_,_,_,_]) hs rfl rfl aB ?_;intro w hs
   refine .go (.e2 (i:=8) (j:=11) aE rfl rfl rfl rfl .none .none hs ?_ ?_)
   ·refine .buildSlice (cells:=(lgc lX).flatten) hs jU rfl aE ?_;intro b37 w hs
    refine .go (.zw 9 rfl (zbd [_] mi) (.E 11 hs ?_))
    refine .aH (vs:=[_,_,_,_]) hs rfl rfl aK ?_;intro w hs
    refine .go (.E 12 hs ?_)
    refine .aH (vs:=[_]) hs rfl rfl aW ?_;intro w hs
    refine .go (.D hs ?_)
    exact nT ⟨b37,bn,hs.sb⟩
   ·refine .aH (vs:=[_,_,_,_]) hs rfl rfl aK ?_;intro w hs
    refine .go (.E 8 hs ?_)
    refine .buildSlice (cells:=(lgc lX).flatten) hs jU rfl aE ?_;intro b37 w hs
    refine .go (.zw 9 rfl (zbd [_] mi) (.E 12 hs ?_))
    refine .aH (vs:=[_]) hs rfl rfl aW ?_;intro w hs
    refine .go (.D hs ?_)
    exact nT ⟨b37,bn,hs.sb⟩
 ·rintro fs w ⟨b37,hfs,hs⟩
  refine WE.sub ?_ hfs
  clear hfs
  refine .ret ?_
  obtain ⟨H1,g1,r1,hs⟩:=bS.dJ (xs:=[0,1000]) (v:= .slice (some ⟨b8,0,none⟩) 2 2) (.full rfl) bV hs fh
  obtain ⟨H2,g2,r2,hs⟩:=bS.dJ (xs:=[0,1000]) (v:= .slice (some ⟨b9,0,none⟩) 2 2) (.full rfl) bV hs fh
  obtain ⟨H3,g3,r3,hs⟩:=bS.bU (m:=7) (cs:=rdc GL) (v:= .slice (some ⟨b17,0,none⟩) 4 4) (.full aE) (ra _) ak ew hs fh
  obtain ⟨H4,g4,r4,hs⟩:=bS.bU (m:=6) (cs:=cmc exV.cs) (v:= .slice (some ⟨b19,0,none⟩) 1 1) (.full aE) (CV _) ak ew hs fh
  obtain ⟨H5,g5,r5,hs⟩:=bS.bU (m:=2) (cs:=fbc oN.table) (v:= .slice (some ⟨b23,0,none⟩) 2 2) (.full aE) (Ht _) ak ew hs fh
  obtain ⟨H6,g6,r6,hs⟩:=bS.bU (m:=4) (cs:=snc oN.seasons) (v:= .slice (some ⟨b25,0,none⟩) 1 1) (.full aE) (BI _) ak ew hs fh
  obtain ⟨H7,g7,r7,hs⟩:=bS.bU (m:=7) (cs:=lgc lX) (v:= .slice (some ⟨b37,0,none⟩) 2 2) (.full aE) (Cn _) ak ew hs fh
  have k6:=g6.trans g7
  have k5:=g5.trans k6
  have k4:=g4.trans k5
  have k3:=g3.trans k4
  have k2:=g2.trans k3
  exact Fin.gj [] [] hs fun w hs=>⟨_,results3 Tryz.results71 (cC (vs:=[I 1,I 1,.slice (some ⟨b8,0,none⟩) 2 2,.slice (some ⟨b9,0,none⟩) 2 2,I 100,I 200,.slice (some ⟨b17,0,none⟩) 4 4,.slice (some ⟨b19,0,none⟩) 1 1]) hs rfl aI aB) (cC (vs:=[I 1000,I 1200,.slice (some ⟨b23,0,none⟩) 2 2,.slice (some ⟨b25,0,none⟩) 1 1]) hs rfl bp aK) (cC (vs:=[.slice (some ⟨b37,0,none⟩) 2 2]) hs rfl bR aW),H7,_,_,_,_,_,_,_,g1.trans k2,rfl,⟨r1.mono k2,r2.mono k3,r3.mono k4,r4.mono k5⟩,⟨r5.mono k6,r6.mono g7⟩,r7,hs.out⟩
set_option maxRecDepth 100000 in
theorem AL:Tryz.prog.stoodInHeld 42=false:=by kernel_rfl
set_option maxRecDepth 100000 in
theorem AM:Tryz.prog.eqGuardType Tryz.prog.depth 42=false:=by kernel_rfl
set_option maxHeartbeats 4000000 in
theorem tY(hs:St H w σ):
  Cl Tryz.prog 18 [] w fun u w'=>u= .bool true∧∃H1,HLe H H1∧St H1 w' σ:=by
 refine Cl.of Tryz.func18 rfl Tryz.ntmps18 bV (xb) (.ai (.zn zg (.ai (.o (.call Tryz.call71 rfl (qo hs) ?_)))));rintro _ w ⟨H1,a,b,c,d,vt,vs,vlg,hle1,rfl,g,gl,gr_,hs⟩
 obtain ⟨aa,ca,rfl⟩:=RI.shape g.st
 obtain ⟨ab,cb,rfl⟩:=RI.shape g.wa
 obtain ⟨ac,cc,rfl⟩:=RRd.shape g.rd
 obtain ⟨ad,cd,rfl⟩:=RCm.shape g.cm
 obtain ⟨at_,ct,rfl⟩:=gl.tb.shape
 obtain ⟨as_,cs,rfl⟩:=gl.sn.shape
 obtain ⟨ar,cr,rfl⟩:=gr_.shape
 refine .z zm (.z zex (.z zex (.z zex (.o (.alloc hs ez rfl fun b1 w hs=>?_)))))
 refine .o (.alloc hs iW rfl fun b2 w hs=>?_)
 refine .o (.alloc hs lC rfl fun b3 w hs=>?_)
 refine .o (.aH (vs:=[_,_,_,_,_,_,_,_]) hs rfl rfl aB fun w hs=>?_)
 refine .o (.aH (vs:=[_,_,_,_]) hs rfl rfl aK fun w hs=>?_)
 refine .o (.aH (vs:=[_]) hs rfl rfl aW fun w hs=>?_)
 refine .nil (.ai (.y hs (zls [_,_,_,_] bp aK) (.o (.call Tryz.call37 rfl (py (l:=oN) hs gl.tb gl.sn) ?_))));rintro _ w ⟨n,e,rfl,hF,hs⟩
 obtain ⟨rfl,rfl⟩:=CL hF
 refine .z zm (.z zex (.z zex (.z zg (.zn zg (.ai (.y hs (zls [_,_,_,_] bp aK) (.o (.call Tryz.call41 rfl (sE (l:=oN) hs gl.tb gl.sn) ?_))))))));rintro _ w ⟨n,e,rfl,hF,hs⟩
 obtain ⟨rfl,rfl⟩:=zr hF
 refine .z zm (.z zex (.z zex (.z zg (.zn zg (.ai (.y hs (zls [_,_,_,_,_,_,_,_] aI aB) (.z (zbd [I 1000,I 1025] bJ) (.o (.call Tryz.call58 rfl (mQ (s:=exV) hs g) ?_)))))))));rintro _ w ⟨H2,lo,hi,e,hle2,rfl,hD,hs⟩
 obtain ⟨rfl,rfl,rfl,hL⟩:=CM hD
 replace g:=g.mono hle2
 replace gl:=gl.mono hle2
 replace gr_:=gr_.mono hle2
 refine .z zm (.z zex (.z zex (.o (.alloc hs bN rfl fun b8 w hs=>?_))))
 refine .o (.aH (vs:=[_,_]) hs rfl rfl aq fun w hs=>?_)
 refine .zn zg (.ai (.y hs (zls [_,_,_,_,_,_,_,_] aI aB) (.y hs (zls [_,_,_,_] bp aK) (.y hs (zls [_] bR aW) (.z (zbd [I 150,I 160] bJ) (.o (.call Tryz.call26 rfl (ku (s:=exV) (l:=oN) (r:=lX) (m:=⟨150,160⟩) hs g gl gr_) ?_)))))));rintro _ w ⟨H3,n,e,hle3,rfl,hJ,hs⟩
 obtain ⟨rfl,rfl⟩:=vU hL ew hJ
 rw [show uZ [xd (ke ⟨150,160⟩ lX 0) 190 404,xd (ke ⟨150,160⟩ lX 1) 190 404]=1 by decide]
 replace g:=g.mono hle3
 replace gl:=gl.mono hle3
 replace gr_:=gr_.mono hle3
 refine .z zm (.z zex (.z zex (.z zg (.zn zg (.ai (.y hs (zls [_,_,_,_,_,_,_,_] aI aB) (.y hs (zls [_,_,_,_] bp aK) (.y hs (zls [_] bR aW) (.z (zbd [I 180,I 200] bJ) (.o (.call Tryz.call26 rfl (ku (s:=exV) (l:=oN) (r:=lX) (m:=⟨180,200⟩) hs g gl gr_) ?_)))))))))));rintro _ w ⟨H4,n,e,hle4,rfl,hJ,hs⟩
 obtain ⟨rfl,rfl⟩:=vU hL ew hJ
 rw [show uZ [xd (ke ⟨180,200⟩ lX 0) 190 404,xd (ke ⟨180,200⟩ lX 1) 190 404]=2 by decide]
 replace g:=g.mono hle4
 replace gl:=gl.mono hle4
 replace gr_:=gr_.mono hle4
 refine .z zm (.z zex (.z zex (.z zg (.zn zg (.ai (.y hs (zls [_,_,_,_,_,_,_,_] aI aB) (.y hs (zls [_,_,_,_] bp aK) (.y hs (zls [_] bR aW) (.o (.call Tryz.call28 rfl (uY (s:=exV) (l:=oN) (r:=lX) hs g gl gr_) ?_))))))))));rintro _ w ⟨H5,n,e,hle5,rfl,hS,hs⟩
 obtain ⟨rfl,rfl⟩:=CK hL hS
 replace g:=g.mono hle5
 replace gl:=gl.mono hle5
 replace gr_:=gr_.mono hle5
 have hle05:=hle1.trans (hle2.trans (hle3.trans (hle4.trans hle5)))
 refine .z zm (.z zex (.z zex (.z zg (.zn zg (.ai (.o (.buildSlice (cells:=Is [75,175]) hs jB rfl aE fun b61 w hs=>?_)))))))
 refine .o (.buildSlice (cells:=Is [0,130]) hs jB rfl aE fun b62 w hs=>?_)
 refine .o (.buildSlice (cells:=[.slice (some ⟨b61,0,none⟩) 2 2,.slice (some ⟨b62,0,none⟩) 2 2]) hs u9 rfl aE fun b63 w hs=>?_)
 refine .z (zbd [_] nM) ?_
 obtain ⟨H6,g6,r6,hs⟩:=bS.dJ (xs:=[75,175]) (v:= .slice (some ⟨b61,0,none⟩) 2 2) (.full rfl) bV hs fh
 obtain ⟨H7,g7,r7,hs⟩:=bS.dJ (xs:=[0,130]) (v:= .slice (some ⟨b62,0,none⟩) 2 2) (.full rfl) bV hs fh
 have hRL:RLs H7 [.slice (some ⟨b61,0,none⟩) 2 2,.slice (some ⟨b62,0,none⟩) 2 2] GM:=((RLs.nil H7).snoc (r6.mono g7)).snoc r7
 obtain ⟨H8,g8,hRT,hs⟩:=hRL.bU (v:= .slice (some ⟨b63,0,none⟩) 2 2) (en:= .blk b63 [.slice (some ⟨b61,0,none⟩) 2 2,.slice (some ⟨b62,0,none⟩) 2 2]) (.full rfl) bV hs fh
 have hle8:=g6.trans (g7.trans g8)
 replace g:=g.mono hle8
 replace gl:=gl.mono hle8
 replace gr_:=gr_.mono hle8
 refine .z (zbd [_,_,_,_] fu) (.o (.alloc hs zD rfl fun b16 w hs=>?_))
 refine .o (.aH (vs:=[_,_,_,_]) hs rfl rfl dh fun w hs=>?_)
 refine .nil (.ai (.z zm (.z kd (.z zm (.kF (t':=68) rfl (fun hb68=>?_) (fun hb68=>?_))))))
 ·refine .T (.z zm (.T (.z kd (.z zpT (.z zm (.kF (t':=72) rfl (fun hb72=>?_) (fun hb72=>?_)))))))
  ·refine .T (.z zm (.T (.z kd (.z zpT (.z zm (.kF (t':=76) rfl (fun hb76=>?_) (fun hb76=>?_)))))))
   ·refine .T (.z zm (.T (.z kd (.z zpT (.z zm (.kF (t':=80) rfl (fun hb80=>?_) (fun hb80=>?_)))))))
    ·refine .T (.z zm (.T (.z kd (.z zpT (.z zm (.kF (t':=84) rfl (fun hb84=>?_) (fun hb84=>?_)))))))
     ·refine .T (.y hs (zls [_,_] aR aq) (.T (.z (zbd [_,_] bJ) (.T ?_))))
      refine .q hs (xK AL AM E0 (fun f hf=>by
       simp only [List.mem_cons,List.not_mem_nil,or_false] at hf
       rcases hf with rfl|rfl<;>exact ⟨by decide,aV,af⟩) rfl rfl) ?_
      refine .z zpT (.z zm (.bif (t':=89) rfl (fun hb89=>?_) (fun hb89=>?_)))
      ·refine .T (.z zm (.T (.z kd (.z zpT (.z zm (.kF (t':=93) rfl (fun hb93=>?_) (fun hb93=>?_)))))))
       ·refine .T (.z zm (.T (.z kd (.z zpT (.z zm (.kF (t':=97) rfl (fun hb97=>?_) (fun hb97=>?_)))))))
        ·refine .T (.z zm (.T (.z kd (.z zpT (.z zm (.kF (t':=101) rfl (fun hb101=>?_) (fun hb101=>?_)))))))
         ·refine .T (.z zm (.T (.z kd (.z zpT (.z zm (.kF (t':=105) rfl (fun hb105=>?_) (fun hb105=>?_)))))))
          ·refine .T (.z zm (.T (.z kd (.z zpT (.z zm (.kF (t':=109) rfl (fun hb109=>?_) (fun hb109=>?_)))))))
           ·refine .T (.z zm (.T (.z kd (.z zpT (.z zm (.kF (t':=113) rfl (fun hb113=>?_) (fun hb113=>?_)))))))
            ·refine .T (.y hs (zls [_,_,_,_,_,_,_,_] aI aB) (.T (.y hs (zls [_,_,_,_] bp aK) (.T (.y hs (zls [_] bR aW) (.T (.z (zbd [I 180,I 200] bJ) (.T (.y hs (zls [_,_,_,_] lE dh) (.T (.o (.call Tryz.call32 rfl (gX (s:=exV) (l:=oN) (r:=lX) (m:=⟨180,200⟩) (x:=⟨0,1000,200,GM⟩) hs g gl gr_ hRT) ?_))))))))))));rintro _ w ⟨H9,e,hle9,rfl,hW,hs⟩
             obtain rfl:=EE hW
             have hleF:=(hle05.trans hle8).trans hle9
             refine .T (.z kd (.z zpT (.zn zg (.ret (Fin.bu ed rfl ?_)))))
             first
             |exact ⟨rfl,H9,hleF,hs.out⟩
             |contradiction
             |(exfalso;simp_all;done)
            ·refine .Fs 7 47 true (.z zpF (.zn zg (.ret (Fin.bu ed rfl ?_))))
             first
             |exact ⟨rfl,H9,hleF,hs.out⟩
             |contradiction
             |(exfalso;simp_all;done)
           ·refine .Fs 2 43 true (.z zpF (.z zm (.Fs 7 47 true (.z zpF (.zn zg (.ret (Fin.bu ed rfl ?_)))))))
            first
            |exact ⟨rfl,H9,hleF,hs.out⟩
            |contradiction
            |(exfalso;simp_all;done)
          ·refine .Fs 2 39 true (.z zpF (.z zm (.Fs 2 43 true (.z zpF (.z zm (.Fs 7 47 true (.z zpF (.zn zg (.ret (Fin.bu ed rfl ?_))))))))))
           first
           |exact ⟨rfl,H9,hleF,hs.out⟩
           |contradiction
           |(exfalso;simp_all;done)
         ·refine .Fs 2 35 true (.z zpF (.z zm (.Fs 2 39 true (.z zpF (.z zm (.Fs 2 43 true (.z zpF (.z zm (.Fs 7 47 true (.z zpF (.zn zg (.ret (Fin.bu ed rfl ?_)))))))))))))
          first
          |exact ⟨rfl,H9,hleF,hs.out⟩
          |contradiction
          |(exfalso;simp_all;done)
        ·refine .Fs 2 31 true (.z zpF (.z zm (.Fs 2 35 true (.z zpF (.z zm (.Fs 2 39 true (.z zpF (.z zm (.Fs 2 43 true (.z zpF (.z zm (.Fs 7 47 true (.z zpF (.zn zg (.ret (Fin.bu ed rfl ?_))))))))))))))))
         first
         |exact ⟨rfl,H9,hleF,hs.out⟩
         |contradiction
         |(exfalso;simp_all;done)
       ·refine .Fs 2 27 true (.z zpF (.z zm (.Fs 2 31 true (.z zpF (.z zm (.Fs 2 35 true (.z zpF (.z zm (.Fs 2 39 true (.z zpF (.z zm (.Fs 2 43 true (.z zpF (.z zm (.Fs 7 47 true (.z zpF (.zn zg (.ret (Fin.bu ed rfl ?_)))))))))))))))))))
        first
        |exact ⟨rfl,H9,hleF,hs.out⟩
        |contradiction
        |(exfalso;simp_all;done)
      ·refine .Fs 2 23 true (.z zpF (.z zm ?_))
       refine .Fs 2 27 true (.z zpF (.z zm (.Fs 2 31 true (.z zpF (.z zm (.Fs 2 35 true (.z zpF (.z zm (.Fs 2 39 true (.z zpF (.z zm (.Fs 2 43 true (.z zpF (.z zm (.Fs 7 47 true (.z zpF (.zn zg (.ret (Fin.bu ed rfl ?_)))))))))))))))))))
       first
       |exact ⟨rfl,H9,hleF,hs.out⟩
       |contradiction
       |(exfalso;simp_all;done)
     ·refine .Fs 3 18 true (.z zpF (.z zm (.Fs 2 23 true (.z zpF (.z zm ?_)))))
      refine .Fs 2 27 true (.z zpF (.z zm (.Fs 2 31 true (.z zpF (.z zm (.Fs 2 35 true (.z zpF (.z zm (.Fs 2 39 true (.z zpF (.z zm (.Fs 2 43 true (.z zpF (.z zm (.Fs 7 47 true (.z zpF (.zn zg (.ret (Fin.bu ed rfl ?_)))))))))))))))))))
      first
      |exact ⟨rfl,H9,hleF,hs.out⟩
      |contradiction
      |(exfalso;simp_all;done)
    ·refine .Fs 2 14 true (.z zpF (.z zm (.Fs 3 18 true (.z zpF (.z zm (.Fs 2 23 true (.z zpF (.z zm ?_))))))))
     refine .Fs 2 27 true (.z zpF (.z zm (.Fs 2 31 true (.z zpF (.z zm (.Fs 2 35 true (.z zpF (.z zm (.Fs 2 39 true (.z zpF (.z zm (.Fs 2 43 true (.z zpF (.z zm (.Fs 7 47 true (.z zpF (.zn zg (.ret (Fin.bu ed rfl ?_)))))))))))))))))))
     first
     |exact ⟨rfl,H9,hleF,hs.out⟩
     |contradiction
     |(exfalso;simp_all;done)
   ·refine .Fs 2 10 true (.z zpF (.z zm (.Fs 2 14 true (.z zpF (.z zm (.Fs 3 18 true (.z zpF (.z zm (.Fs 2 23 true (.z zpF (.z zm ?_)))))))))))
    refine .Fs 2 27 true (.z zpF (.z zm (.Fs 2 31 true (.z zpF (.z zm (.Fs 2 35 true (.z zpF (.z zm (.Fs 2 39 true (.z zpF (.z zm (.Fs 2 43 true (.z zpF (.z zm (.Fs 7 47 true (.z zpF (.zn zg (.ret (Fin.bu ed rfl ?_)))))))))))))))))))
    first
    |exact ⟨rfl,H9,hleF,hs.out⟩
    |contradiction
    |(exfalso;simp_all;done)
  ·refine .Fs 2 6 true (.z zpF (.z zm (.Fs 2 10 true (.z zpF (.z zm (.Fs 2 14 true (.z zpF (.z zm (.Fs 3 18 true (.z zpF (.z zm (.Fs 2 23 true (.z zpF (.z zm ?_))))))))))))))
   refine .Fs 2 27 true (.z zpF (.z zm (.Fs 2 31 true (.z zpF (.z zm (.Fs 2 35 true (.z zpF (.z zm (.Fs 2 39 true (.z zpF (.z zm (.Fs 2 43 true (.z zpF (.z zm (.Fs 7 47 true (.z zpF (.zn zg (.ret (Fin.bu ed rfl ?_)))))))))))))))))))
   first
   |exact ⟨rfl,H9,hleF,hs.out⟩
   |contradiction
   |(exfalso;simp_all;done)
 ·refine .Fs 2 2 true (.z zpF (.z zm (.Fs 2 6 true (.z zpF (.z zm (.Fs 2 10 true (.z zpF (.z zm (.Fs 2 14 true (.z zpF (.z zm (.Fs 3 18 true (.z zpF (.z zm (.Fs 2 23 true (.z zpF (.z zm ?_)))))))))))))))))
  refine .Fs 2 27 true (.z zpF (.z zm (.Fs 2 31 true (.z zpF (.z zm (.Fs 2 35 true (.z zpF (.z zm (.Fs 2 39 true (.z zpF (.z zm (.Fs 2 43 true (.z zpF (.z zm (.Fs 7 47 true (.z zpF (.zn zg (.ret (Fin.bu ed rfl ?_)))))))))))))))))))
  first
  |exact ⟨rfl,H9,hleF,hs.out⟩
  |contradiction
  |(exfalso;simp_all;done)
theorem cO{n m:Int}(hs:St H w σ)(hm:1≤m∧m≤4611686018427387904):Cl Tryz.prog 36 [I n,I m] w fun u w'=>u=I (sA n m)∧St H w' σ:=by
 have h1:=Int.tmod_lt_of_pos n (show 0<m by omega)
 have h2:=Int.lt_tmod_of_pos n (show 0<m by omega)
 refine Cl.o Tryz.func36 Tryz.ntmps36 ag2 ?_
 refine .ai (.zn zg (.ai (.z zm (.z zm (.z Az (.z zm (.z cq (.z zm (.z Az (.zn zg (.ret (Fin.bu Tryz.results36 rfl ?_))))))))))))
 exact ⟨rfl,hs⟩
theorem da{v:Value}{l:List Int}{i n:Int}(hs:St H w σ)(hr:RI H v l)(hi:0≤i)(hn:1≤n∧n≤1000000):Cl Tryz.prog 141 [v,I i,I n] w fun u w'=>∃x,u=I x∧(0≤x∧x<n)∧St H w' σ:=by
 obtain ⟨a,c,rfl⟩:=RI.shape hr
 refine Cl.o Tryz.func141 Tryz.ntmps141 ag3 ?_
 refine .ai (.zn zg (.seq (.ai (.z zm (.z (cU ae) (.zn kd (.bO rfl (fun hc9=>?_) (fun hc9=>?_))))))))
 ·refine .ai (.zn zg (.ret (rT (Fin.bu Tryz.results141 rfl ?_))))
  exact ⟨0,rfl,ak,hs⟩
 ·refine .skip (nT (.ai (.z zm (.z zm (.z zm (.z (cU ae) (.z Az ?_)))))))
  have h1:=Int.tmod_lt_of_pos i (show 0<(l.length:Int) by omega)
  have h2:=Int.tmod_nonneg (l.length:Int) hi
  refine .ixX (enc:=fun x=>[I x]) hs hr rfl rfl ae aj (bB (l:=l) (i:=(i.tmod l.length).toNat) ak) ak ?_;intro b15 o15 hc15;replace hc15:=bK.one hc15
  refine .y hs (zld af) (.z zm (.o (.call gw rfl (cO hs ak) ?_)));rintro _ w ⟨rfl,hs⟩
  refine .zn zg (.ret (Fin.bu Tryz.results141 rfl ?_))
  exact ⟨_,rfl,mb _ hn.1,hs⟩
theorem iL{a b c d e f fr:Int}(hs:St H w σ)(hf:0≤fr∧fr≤1000000):Cl Tryz.prog 142 [.agg #[I a,I b,I c,I d,I e,I f],I fr] w fun u w'=>∃x,u=lgA x∧C6 x fr∧St H w' σ:=by
 have m1:=mb a (m:=3) ak
 have m2:=mb b (m:=40) ak
 have m3:=mb c (m:=60) ak
 have m4:=mb d (m:=100) ak
 have m5:=mb (IntKind.i64.wrap (d.tdiv 100)) (m:=40) ak
 have m6:=mb e (m:=500) ak
 have m7:=mb f (m:=200) ak
 refine Cl.o Tryz.func142 Tryz.ntmps142 ag2 ?_
 refine .ai (.bx hs fun b2 w hs=>?_)
 refine .o (.alloc hs cj rfl fun b4 w hs=>?_)
 refine .nil (.cut (fun fs w=>∃b5,lZ fs ⟨50,[],[(5,Pt b5),(4,Pt b4),(2,Pt b2)]⟩∧St H w (.blk b5 [I (1+sA a 3),I (fr+sA b 40),I 0,I 0,I 0,I 0,I 0]:: .blk b4 [I 0,I 0,I 0,I 0,I 0,I 0,I 0]:: .blk b2 [I a,I b,I c,I d,I e,I f]::σ)) ?_ ?_)
 ·refine .draw mix rfl hs fun w hs=>?_
  refine .zw 0 rfl (zia 0 dK aj) (.y 1 rfl hs af ?_);refine .z 4 rfl zm ?_
  refine .zw 5 rfl (zia 1 dK aj) (.zv 6 rfl hs (qm af) (.e2 (i:=2) (j:=10) aE rfl rfl rfl rfl .none .none hs ?_ ?_))
  ·refine .call gw rfl (cO hs ak) ?_;rintro _ w ⟨rfl,hs⟩
   refine .go (.zw 3 rfl cq (.e2 (i:=7) (j:=10) aE rfl rfl rfl rfl .none .none hs ?_ ?_))
   ·refine .call gw rfl (cO hs ak) ?_;rintro _ w ⟨rfl,hs⟩
    refine .go (.zw 8 rfl cq ?_);refine .z 9 rfl (zbd [_,_,_,_,_,_,_] kA) ?_
    refine .E 10 hs ?_
    refine .alloc hs cj rfl ?_;intro b5 w hs
    refine .go (.E 11 hs ?_)
    refine .aH (vs:=[_,_,_,_,_,_,_]) hs rfl rfl aN ?_;intro w hs
    refine .go (.D hs ?_)
    exact nT ⟨b5,bn,hs.sb⟩
   ·refine .alloc hs cj rfl ?_;intro b5 w hs
    refine .go (.E 7 hs ?_)
    refine .call gw rfl (cO hs ak) ?_;rintro _ w ⟨rfl,hs⟩
    refine .go (.zw 8 rfl cq ?_);refine .z 9 rfl (zbd [_,_,_,_,_,_,_] kA) ?_
    refine .E 11 hs ?_
    refine .aH (vs:=[_,_,_,_,_,_,_]) hs rfl rfl aN ?_;intro w hs
    refine .go (.D hs ?_)
    exact nT ⟨b5,bn,hs.sb⟩
  ·refine .alloc hs cj rfl ?_;intro b5 w hs
   refine .go (.E 2 hs ?_)
   refine .call gw rfl (cO hs ak) ?_;rintro _ w ⟨rfl,hs⟩
   refine .go (.zw 3 rfl cq (.E 7 hs ?_))
   refine .call gw rfl (cO hs ak) ?_;rintro _ w ⟨rfl,hs⟩
   refine .go (.zw 8 rfl cq ?_);refine .z 9 rfl (zbd [_,_,_,_,_,_,_] kA) ?_
   refine .E 11 hs ?_
   refine .aH (vs:=[_,_,_,_,_,_,_]) hs rfl rfl aN ?_;intro w hs
   refine .go (.D hs ?_)
   exact nT ⟨b5,bn,hs.sb⟩
 ·rintro fs w ⟨b5,hfs,hs⟩
  refine WE.sub ?_ hfs
  clear hfs
  refine .seq (.draw mix rfl hs fun w hs=>?_)
  refine .zw 0 rfl (zfa jy) ?_;refine .y 1 rfl hs af ?_
  refine .zw 2 rfl (zia 2 dK aj) (.zv 3 rfl hs (qm af) (.E 4 hs ?_))
  refine .call gw rfl (cO hs ak) ?_;rintro _ w ⟨rfl,hs⟩
  refine .go (.zw 5 rfl cq ?_);refine .z 6 rfl (zfa iI) ?_
  refine .E 7 hs ?_
  refine .store hs rfl rfl aj ?_;intro w hs
  refine .go (.D hs (.ai (.z (zia 3 dK aj) (.y hs (zld af) (.o (.call gw rfl (cO hs ak) ?_))))));rintro _ w ⟨rfl,hs⟩
  refine .z cq (.zn zg (.ai (.z zm (.z zm (.z (zia 3 dK aj) (.y hs (zld af) (.z GH (.o (.call gw rfl (cO hs ak) ?_)))))))));rintro _ w ⟨rfl,hs⟩
  refine .z cq (.z (zbd [_,_] bJ) (.z (zfa eC) (.o (.aH (vs:=[_,_]) hs rfl rfl aq fun w hs=>?_))))
  refine .nil (.seq (.draw mix rfl hs fun w hs=>?_))
  refine .zw 0 rfl (zia 4 dK aj) (.zv 1 rfl hs (qm af) (.zw 3 rfl (zia 4 dK aj) (.zv 4 rfl hs (qm af) (.zw 6 rfl (zia 5 dK aj) (.zv 7 rfl hs (qm af) (.E 2 hs ?_))))))
  refine .call gw rfl (cO hs ak) ?_;rintro _ w ⟨rfl,hs⟩
  refine .go (.E 5 hs ?_)
  refine .call gw rfl (cO hs ak) ?_;rintro _ w ⟨rfl,hs⟩
  refine .go (.E 8 hs ?_)
  refine .call gw rfl (cO hs ak) ?_;rintro _ w ⟨rfl,hs⟩
  refine .go (.zw 9 rfl cq ?_);refine .z 10 rfl (zbd [_,_] bJ) ?_;refine .z 11 rfl (zfa gJ) ?_
  refine .E 12 hs ?_
  refine .aH (vs:=[_,_]) hs rfl rfl aq ?_;intro w hs
  refine .go (.D hs (.ai (.y hs (zls [_,_,_,_,_,_,_] dQ aN) (.o (.aH (vs:=[_,_,_,_,_,_,_]) hs rfl rfl aN fun w hs=>?_)))))
  refine .nil (.ret ?_)
  exact Fin.gj [] [] hs fun w hs=>⟨_,results1 Tryz.results142 (cC (vs:=lgC ⟨1+sA a 3,fr+sA b 40,fr+sA b 40+sA c 60,950+sA d 100,950+sA d 100+sA (IntKind.i64.wrap (d.tdiv 100)) 40,sA e 500,sA e 500+sA f 200⟩) hs rfl dQ aN),⟨1+sA a 3,fr+sA b 40,fr+sA b 40+sA c 60,950+sA d 100,950+sA d 100+sA (IntKind.i64.wrap (d.tdiv 100)) 40,sA e 500,sA e 500+sA f 200⟩,rfl,⟨by dsimp only;omega,by dsimp only;omega,by dsimp only;omega,by dsimp only;omega,by dsimp only;omega,by dsimp only;omega,by dsimp only;omega⟩,hs.out⟩
theorem pn{v:Value}{ns:List Int}(hs:St H w σ)(hr:RI H v ns):
  Cl Tryz.prog 77 [v] w fun u w'=>∃l vt vs e1 e2,u=lnA l vt vs∧C5 l∧bS 2 vt (fbc l.table).flatten e1∧bS 4 vs (snc l.seasons).flatten e2∧St H w' (e2::e1::σ):=by
 refine Cl.o Tryz.func77 Tryz.ntmps77 ag1 ?_
 refine .ai (.o (.alloc hs iW rfl fun b2 w hs=>?_))
 refine .nil (.ai (.z zm (.o (.call iG rfl (da hs hr ak ak) ?_))));rintro _ w ⟨x6,rfl,g6,hs⟩
 refine .z cq (.z zm (.o (.call iG rfl (da hs hr ak ak) ?_)));rintro _ w ⟨x9,rfl,g9,hs⟩
 refine .z cq (.z (zbd [I (100+x6),I (200+x9),.slice none 0 0,.slice none 0 0] qE rfl aE) (.o (.alloc hs iW rfl fun b3 w hs=>?_)))
 refine .o (.aH (vs:=[_,_,_,_]) hs rfl rfl aK fun w hs=>?_)
 refine .nil (.ai (.z zm (.o (.call iG rfl (da hs hr ak ak) ?_))));rintro _ w ⟨x13,rfl,g13,hs⟩
 refine .z (zbd [_,_] fw) (.z zm (.o (.call iG rfl (da hs hr ak ak) ?_)));rintro _ w ⟨x16,rfl,g16,hs⟩
 refine .z cq (.z zm (.o (.call iG rfl (da hs hr ak ak) ?_)));rintro _ w ⟨x19,rfl,g19,hs⟩
 refine .z (zbd [_,_] fw) (.z zm (.o (.call iG rfl (da hs hr ak ak) ?_)));rintro _ w ⟨x22,rfl,g22,hs⟩
 refine .z (zbd [_,_] fw) (.o (.buildSlice (cells:=(fbc [⟨100,x13⟩,⟨400+x16,x19⟩,⟨1000,x22⟩]).flatten) hs mU rfl aE fun b24 w hs=>?_))
 refine .z (zfa dt) (.o (.store hs rfl rfl Tryz.sizeOf22 fun w hs=>?_))
 refine .nil (.seq (.ai (.zn zg (.block ?_))))
 replace hs:St H w (.blk b24 (fbc [⟨100,x13⟩,⟨400+x16,x19⟩,⟨1000,x22⟩]).flatten:: .blk b3 [I (100+x6),I (200+x9),.slice (some ⟨b24,0,none⟩) 3 3,.slice none 0 0]:: .blk b2 [I 0,I 0,.slice none 0 0,.slice none 0 0]::σ):=hs
 refine .loop (fun p:Nat×List Ssn×Value×Ent=>⟨62,[],[(4,I (p.1:Int)),(3,Pt b3),(2,Pt b2),(0,v)]⟩)
  (fun p w=>p.1≤4∧p.2.1.length=p.1∧(∀s∈p.2.1,A9 s)∧bS 4 p.2.2.1 (snc p.2.1).flatten p.2.2.2∧St H w (p.2.2.2:: .blk b24 (fbc [⟨100,x13⟩,⟨400+x16,x19⟩,⟨1000,x22⟩]).flatten:: .blk b3 [I (100+x6),I (200+x9),.slice (some ⟨b24,0,none⟩) 3 3,p.2.2.1]:: .blk b2 [I 0,I 0,.slice none 0 0,.slice none 0 0]::σ)) (fun p=>4 - p.1) (0,[],_,.nul) bn
  ⟨by dsimp only;omega,rfl,fun s hs=>(by cases hs),.nil 4 none,hs.nul⟩ ?_
 rintro ⟨k,ss,vo,en⟩ w ⟨hk,hkl,hss,hO,hs⟩
 dsimp only at hk hkl hss hO hs ⊢
 obtain ⟨ao,co,rfl⟩:=hO.lK (BI _) ak
 rw [qY] at hO hs
 refine .seq (.ai (.z zm (.z zm (.o (.call iG rfl (da hs hr ak ak) ?_)))));rintro _ w ⟨x28,rfl,g28,hs⟩
 refine .zn iJ (.bO rfl (fun hc29=>?_) (fun hc29=>?_))
 ·refine .skip (nT (.seq (.block (.draw mix rfl hs fun w hs=>?_))))
  refine .zw 0 rfl (zfa ie) ?_;refine .y 1 rfl hs Tryz.isAgg23 ?_;refine .z 2 rfl zm ?_;refine .z 3 rfl zm ?_;refine .z 4 rfl kM ?_;refine .z 5 rfl cq ?_;refine .z 8 rfl zm ?_;refine .z 9 rfl zm ?_;refine .z 10 rfl kM ?_;refine .z 11 rfl cq ?_
  refine .zw 14 rfl zm ?_;refine .z 15 rfl zm ?_;refine .z 16 rfl kM ?_;refine .z 17 rfl cq ?_;refine .z 20 rfl zm ?_;refine .z 21 rfl zm ?_;refine .z 22 rfl kM ?_;refine .z 23 rfl cq ?_
  refine .E 6 hs ?_
  refine .call iG rfl (da hs hr ak ak) ?_;rintro _ w ⟨x38,rfl,g38,hs⟩
  refine .go (.zw 7 rfl cq (.E 12 hs ?_))
  refine .call iG rfl (da hs hr ak ak) ?_;rintro _ w ⟨x44,rfl,g44,hs⟩
  refine .go (.zw 13 rfl cq (.E 18 hs ?_))
  refine .call iG rfl (da hs hr ak ak) ?_;rintro _ w ⟨x50,rfl,g50,hs⟩
  refine .go (.zw 19 rfl cq (.E 24 hs ?_))
  refine .call iG rfl (da hs hr ak ak) ?_;rintro _ w ⟨x56,rfl,g56,hs⟩
  refine .go (.zw 25 rfl (zbd (Ssn.c ⟨1+x38,1+x44,1+x50,x56⟩) oS rfl aE) (.E 26 hs ?_))
  refine .buildSlice (cells:=Ssn.c ⟨1+x38,1+x44,1+x50,x56⟩) hs kz rfl aE ?_;intro b58 w hs
  refine .go (.E 27 hs ?_)
  refine .append (ys:=Ssn.c ⟨1+x38,1+x44,1+x50,x56⟩) hs kc rfl rfl hO (.own .here rfl rfl) (by simp [Ssn.c,Value.oneCell']) (fun l' h=>by rw [cK _ (BI _),qY] at h;omega) ?_;intro v59 en59 w hO2 hs
  rw [←DD] at hO2
  obtain ⟨a59,c59,rfl⟩:=hO2.lK (BI _) ak
  refine .go (.zw 28 rfl (zfa ie) (.E 29 hs ?_))
  refine .store hs rfl rfl Tryz.sizeOf23 ?_;intro w hs
  refine .go (.D hs (nB (nT (.region (.z zm (.z cq (.zn zg (nT ?_))))))))
  exact ⟨(k+1,ss++[⟨1+x38,1+x44,1+x50,x56⟩],_,en59),.dy rfl bV bn,⟨by dsimp only;omega,by simp [hkl],fun s hs=>by
   rcases List.mem_append.1 hs with h|h
   ·exact hss s h
   ·rw [List.mem_singleton] at h;subst h;exact ⟨by dsimp only;omega,by dsimp only;omega,by dsimp only;omega,by dsimp only;omega⟩,hO2,hs.sb⟩,by dsimp only;omega⟩
 ·refine .exit (xT (xT (xB (nT (.ai (.y hs (zls [_,_,_,_] bp aK) (.o (.aH (vs:=[_,_,_,_]) hs rfl rfl aK fun w hs=>?_))))))))
  refine .nil (.ret ?_)
  exact Fin.gj [] [] hs fun w hs=>⟨_,results1 Tryz.results77 (cC (vs:=[I (100+x6),I (200+x9),.slice (some ⟨b24,0,none⟩) 3 3,.slice ao ss.length co]) hs rfl bp aK),⟨100+x6,200+x9,[⟨100,x13⟩,⟨400+x16,x19⟩,⟨1000,x22⟩],ss⟩,_,_,.blk b24 (fbc [⟨100,x13⟩,⟨400+x16,x19⟩,⟨1000,x22⟩]).flatten,en,rfl,⟨⟨by dsimp only;omega,by dsimp only;omega,bV,by dsimp only;omega,fun i hi=>by
   have h:i=0∨i=1∨i=2:=by simp at hi;omega
   rcases h with rfl|rfl|rfl
   ·exact ⟨by simp [fb0],by simp [fb0];omega,bV⟩
   ·exact ⟨by simp [fb0];omega,by simp [fb0];omega,by simp [fb0];omega⟩
   ·exact ⟨by simp [fb0],by simp [fb0];omega,by simp [fb0];omega⟩,hss⟩,by dsimp only;omega,rfl,⟨rfl,rfl⟩,by dsimp only;omega⟩,.full rfl,hO,hs.sb⟩
set_option maxHeartbeats 1000000 in
theorem ph{v:Value}{ns:List Sx}(hs:St H w σ)(hr:RS H 6 v (ns.map Sx.v)):
  Cl Tryz.prog 78 [v] w fun u w'=>∃r vr en,u= .agg #[vr]∧C4 r∧bS 7 vr (lgc r).flatten en∧St H w' (en::σ):=by
 obtain ⟨a,c,rfl⟩:=hr.shape
 have hlr:=hr.len
 rw [List.length_map] at hr ⊢
 refine Cl.o Tryz.func78 Tryz.ntmps78 ag1 ?_
 refine .ai (.o (.alloc hs lC rfl fun b2 w hs=>?_))
 refine .nil (.ai (.o (.alloc hs lC rfl fun b3 w hs=>?_)))
 refine .nil (.ai (.zn zg (.seq (.ai (.zn zg (.block ?_))))))
 refine .loop (fun p:Nat×Int×List Lg×Value×Ent=>⟨40,[],[(5,I (p.1:Int)),(4,I p.2.1),(3,Pt b3),(2,Pt b2),(0,.slice a ns.length c)]⟩)
  (fun p w=>(p.1≤4∧p.1≤ns.length)∧p.2.2.1.length=p.1∧(0≤p.2.1∧p.2.1≤p.1*100)∧(0<p.1→(lg0 p.2.2.1 (p.1 - 1)).to=p.2.1)∧(∀i<p.1,(Bc (lg0 p.2.2.1 i)∧(0<i→(lg0 p.2.2.1 (i - 1)).to≤(lg0 p.2.2.1 i).fr))∧(lg0 p.2.2.1 i).bhi≤1000)∧bS 7 p.2.2.2.1 (lgc p.2.2.1).flatten p.2.2.2.2∧St H w (p.2.2.2.2:: .blk b3 [p.2.2.2.1]:: .blk b2 [.slice none 0 0]::σ)) (fun p=>4 - p.1) (0,0,[],_,.nul) bn
  ⟨by dsimp only;omega,rfl,by dsimp only;omega,fun h=>(by dsimp only at h;omega),fun i hi=>(by dsimp only at hi;omega),.nil 7 none,hs.nul⟩ ?_
 rintro ⟨k,fr,r,vo,en⟩ w ⟨hk,hkl,hfr,hto,hok,hO,hs⟩
 dsimp only at hk hkl hfr hto hok hO hs ⊢
 obtain ⟨ao,co,rfl⟩:=hO.lK (Cn _) ak
 rw [rq] at hO hs
 refine .seq (.ai (.z zm (.z zm (.z (cU Tryz.runUnderlying40) (.z iJ (.z zm (.kF (t':=11) rfl (fun hb11=>?_) (fun hb11=>?_))))))))
 ·refine .T (.z zm (.T (.z iJ (.zn zpT (.bO rfl (fun hc14=>?_) (fun hc14=>?_))))))
  ·refine .skip (nT (.seq (.block (.ai ?_))))
   obtain ⟨q,hx⟩:=nth (l:=ns) (k:=k) ak
   refine .z zm (.z zm (.ixX (enc:=Sx.v) hs hr rfl rfl Tryz.runUnderlying40 Tryz.sizeOf96 hx rfl ?_));intro b19 o19 hc19
   refine .q hs (bI (vs:=q.v) rfl Tryz.isAgg96 Tryz.sizeOf96 hc19) (.z zm (.o (.call Tryz.call142 rfl (iL (a:=q.a) (b:=q.b) (c:=q.c) (d:=q.d) (e:=q.e) (f:=q.f) hs ak) ?_)));rintro _ w ⟨x,rfl,hM,hs⟩
   have hMo:=hM.ok ak
   have hM2:=hM.fr
   have hM3:=hM.to
   have hM6:=hM.blo
   have hM7:=hM.bhi
   refine .o (.alloc hs cj rfl fun b6 w hs=>?_)
   refine .o (.aH (vs:=[_,_,_,_,_,_,_]) hs rfl rfl aN fun w hs=>?_)
   refine .nil (.ai (.z (zfa iI) (.y hs (zld af) (.zn zg (.region (.z (zfa cH) (.y hs (zld dm) (.y hs (zls [_,_,_,_,_,_,_] dQ aN) (.o (.buildSlice (cells:=lgC x) hs jV rfl aE fun b28 w hs=>?_))))))))))
   refine .o (.append (ys:=x.c) hs mW rfl rfl hO (.own .here rfl rfl) (by simp [Lg.c,Value.oneCell']) (fun l' h=>by rw [cK _ (Cn _),rq] at h;omega) ?_);intro v29 en29 w hO2 hs
   rw [←Em] at hO2
   obtain ⟨a29,c29,rfl⟩:=hO2.lK (Cn _) ak
   refine .z (zfa cH) (.o (.store hs rfl rfl qM fun w hs=>?_))
   refine .nil (nB (nT (.region (.z zm (.z cq (.zn zg (nT ?_)))))))
   exact ⟨(k+1,x.to,r++[x],_,en29),.dy rfl bV bn,⟨by dsimp only;omega,by simp [hkl],by dsimp only;omega,fun _=>by dsimp only;rw [ql,if_neg ak,if_pos ak],fun i hi=>by
    dsimp only at hi ⊢
    by_cases e:i=k
    ·subst e
     rw [ql,if_neg ak,if_pos ak,ql]
     refine ⟨⟨hMo,fun h=>?_⟩,ak⟩
     rw [if_pos ak]
     have:=hto h;omega
    ·rw [ql,if_pos ak,ql,if_pos ak]
     exact hok i ak,hO2,hs.sb⟩,by dsimp only;omega⟩
  ·refine .exit (xT (xT (xB (nT (.seq (.ai (.z (zfa cH) (.y hs (zld dm) (.z (cU aS) (.zn kd (.bO rfl (fun hc34=>?_) (fun hc34=>?_))))))))))))
   ·refine .region ?_
    obtain rfl:k=0:=by omega
    obtain rfl:r=[]:=List.length_eq_zero_iff.1 hkl
    refine .q hs (wB (vs:=[]) (cells:=[I 0,I 0,I 0,I 0,I 0,I 0]) Tryz.zeroValue96 rfl dK aj rfl) (.o (.call Tryz.call142 rfl (iL (a:=0) (b:=0) (c:=0) (d:=0) (e:=0) (f:=0) hs ak) ?_));rintro _ w ⟨x,rfl,hM,hs⟩
    have hM6:=hM.blo
    have hM7:=hM.bhi
    refine .o (.buildSlice (cells:=(lgc [x]).flatten) hs jV rfl aE fun b37 w hs=>?_)
    refine .z (zfa cH) (.o (.store hs rfl rfl qM fun w hs=>?_))
    refine .nil (nT (.ai (.y hs (zls [_] bR aW) (.o (.aH (vs:=[_]) hs rfl rfl aW fun w hs=>?_)))))
    refine .nil (.ret ?_)
    exact Fin.gj [] [] hs fun w hs=>⟨_,results1 Tryz.results78 (cC (vs:=[.slice (some ⟨b37,0,none⟩) 1 1]) hs rfl bR aW),[x],_,.blk b37 (lgc [x]).flatten,rfl,⟨⟨bV,fun i hi=>by
     obtain rfl:i=0:=by simp at hi;omega
     exact ⟨hM.ok ak,fun h=>by omega⟩⟩,bV,fun i hi=>by
     obtain rfl:i=0:=by simp at hi;omega
     show x.bhi≤1000;omega⟩,.full rfl,hs.sb⟩
   ·refine .skip (nT (.ai (.y hs (zls [_] bR aW) (.o (.aH (vs:=[_]) hs rfl rfl aW fun w hs=>?_)))))
    refine .nil (.ret ?_)
    exact Fin.gj [] [] hs fun w hs=>⟨_,results1 Tryz.results78 (cC (vs:=[.slice ao r.length co]) hs rfl bR aW),r,_,en,rfl,⟨⟨ak,fun i hi=>(hok i ak).1⟩,ak,fun i hi=>(hok i ak).2⟩,hO,hs.sb⟩
 ·refine .Fs 2 4 true (.zn zpF (.cF (.exit (xT (xT (xB (nT (.seq (.ai (.z (zfa cH) (.y hs (zld dm) (.z (cU aS) (.zn kd (.bO rfl (fun hc34=>?_) (fun hc34=>?_)))))))))))))))
  ·refine .region ?_
   obtain rfl:k=0:=by omega
   obtain rfl:r=[]:=List.length_eq_zero_iff.1 hkl
   refine .q hs (wB (vs:=[]) (cells:=[I 0,I 0,I 0,I 0,I 0,I 0]) Tryz.zeroValue96 rfl dK aj rfl) (.o (.call Tryz.call142 rfl (iL (a:=0) (b:=0) (c:=0) (d:=0) (e:=0) (f:=0) hs ak) ?_));rintro _ w ⟨x,rfl,hM,hs⟩
   have hM6:=hM.blo
   have hM7:=hM.bhi
   refine .o (.buildSlice (cells:=(lgc [x]).flatten) hs jV rfl aE fun b37 w hs=>?_)
   refine .z (zfa cH) (.o (.store hs rfl rfl qM fun w hs=>?_))
   refine .nil (nT (.ai (.y hs (zls [_] bR aW) (.o (.aH (vs:=[_]) hs rfl rfl aW fun w hs=>?_)))))
   refine .nil (.ret ?_)
   exact Fin.gj [] [] hs fun w hs=>⟨_,results1 Tryz.results78 (cC (vs:=[.slice (some ⟨b37,0,none⟩) 1 1]) hs rfl bR aW),[x],_,.blk b37 (lgc [x]).flatten,rfl,⟨⟨bV,fun i hi=>by
    obtain rfl:i=0:=by simp at hi;omega
    exact ⟨hM.ok ak,fun h=>by omega⟩⟩,bV,fun i hi=>by
    obtain rfl:i=0:=by simp at hi;omega
    show x.bhi≤1000;omega⟩,.full rfl,hs.sb⟩
  ·refine .skip (nT (.ai (.y hs (zls [_] bR aW) (.o (.aH (vs:=[_]) hs rfl rfl aW fun w hs=>?_)))))
   refine .nil (.ret ?_)
   exact Fin.gj [] [] hs fun w hs=>⟨_,results1 Tryz.results78 (cC (vs:=[.slice ao r.length co]) hs rfl bR aW),r,_,en,rfl,⟨⟨ak,fun i hi=>(hok i ak).1⟩,ak,fun i hi=>(hok i ak).2⟩,hO,hs.sb⟩
theorem results4{P:Program}{s:FS}{w:World}{fn:Func}{r1 r2 r3 r4:ResultVar}{v1 v2 v3 v4:Value}(hr:fn.results=#[r1,r2,r3,r4])(h1:Aq P s w r1 v1)(h2:Aq P s w r2 v2)(h3:Aq P s w r3 v3)(h4:Aq P s w r4 v4):∀a,Sim s a→(results fn a.tmps).run P w= .ok (.tuple #[v1,v2,v3,v4]) w:=fun a ha=>by
 have e1:=h1.run ha
 have e2:=h2.run ha
 have e3:=h3.run ha
 have e4:=h4.run ha
 rw [nV,hr]
 simp only [Array.mapM_eq_mapM_toList,List.mapM_cons,List.mapM_nil,Sem.run_bind,e1,e2,e3,e4,Result.andThen,Sem.run_pure,map_eq_pure_bind]
 simp
theorem pj{v:Value}{ns:List Int}(hs:St H w σ)(hr:RI H v ns):
  Cl Tryz.prog 77 [v] w fun u w'=>∃H1 l a n b c,HLe H H1∧u=lnA l (.slice a l.table.length n) (.slice b l.seasons.length c)∧C5 l∧LnM H1 l (.slice a l.table.length n) (.slice b l.seasons.length c)∧St H1 w' σ:=by
 refine (pn hs hr).mono ?_
 rintro _ w ⟨l,vt,vn,e1,e2,rfl,hL,hO1,hO2,hs⟩
 have h1:=hL.tbl
 have h2:=hL.sns
 obtain ⟨H2,q2,p2,hs⟩:=bS.bU (m:=4) hO2 (BI _) ak (by rw [qY];omega) hs .here
 obtain ⟨H3,q3,p3,hs⟩:=bS.bU (m:=2) hO1 (Ht _) ak (by rw [A3];omega) hs .here
 have g:LnM H3 l vt vn:=⟨p3,RSn.mono p2 q3⟩
 obtain ⟨a,n,rfl⟩:=g.tb.shape
 obtain ⟨b,c,rfl⟩:=g.sn.shape
 exact ⟨H3,l,a,n,b,c,q2.trans q3,rfl,hL,g,hs.sb⟩
theorem pc{v:Value}{ns:List Sx}(hs:St H w σ)(hr:RS H 6 v (ns.map Sx.v)):
  Cl Tryz.prog 78 [v] w fun u w'=>∃H1 r a n,HLe H H1∧u= .agg #[.slice a r.length n]∧C4 r∧RLg H1 (.slice a r.length n) r∧St H1 w' σ:=by
 refine (ph hs hr).mono ?_
 rintro _ w ⟨r,vr,e1,rfl,hR,hO1,hs⟩
 have h1:=hR.many
 obtain ⟨H2,q2,p2,hs⟩:=bS.bU (m:=7) hO1 (Cn _) ak (by rw [rq];omega) hs .here
 have g:RLg H2 vr r:=p2
 obtain ⟨a,n,rfl⟩:=g.shape
 exact ⟨H2,r,a,n,q2,rfl,hR,g,hs.sb⟩
theorem tF{x:Dl}{vs v5 v4 vp vn vg:Value}(hs:St H w σ)(hx:zA H x vs v5 v4 vp vn vg):
  Cl Tryz.prog 35 [x.agg vs v5 v4 vp vn vg] w fun u w'=>∃H1 s y aa ca ab cb ac cc ad cd ay cy l at_ ct as_ cs r ar cr,HLe H H1∧u= .tuple #[svA s (.slice aa s.sp.st.length ca) (.slice ab s.sp.wa.length cb) (.slice ac s.rs.length cc) (.slice ad s.cs.length cd),.slice ay y.length cy,lnA l (.slice at_ l.table.length ct) (.slice as_ l.seasons.length cs),.agg #[.slice ar r.length cr]]∧
   GA s∧j7 s y∧SvM H1 s (.slice aa s.sp.st.length ca) (.slice ab s.sp.wa.length cb) (.slice ac s.rs.length cc) (.slice ad s.cs.length cd)∧RI H1 (.slice ay y.length cy) y∧C5 l∧LnM H1 l (.slice at_ l.table.length ct) (.slice as_ l.seasons.length cs)∧C4 r∧RLg H1 (.slice ar r.length cr) r∧St H1 w' σ:=by
 obtain ⟨avs,cvs,rfl⟩:=RI.shape hx.sp
 obtain ⟨av5,cv5,rfl⟩:=hx.rs.shape
 obtain ⟨av4,cv4,rfl⟩:=hx.cs.shape
 obtain ⟨avp,cvp,rfl⟩:=RI.shape hx.pk
 obtain ⟨avn,cvn,rfl⟩:=RI.shape hx.ln
 obtain ⟨avg,cvg,rfl⟩:=hx.lg.shape
 rw [List.length_map] at hx ⊢
 refine Cl.o Tryz.func35 Tryz.ntmps35 ag1 ?_
 refine .ai (.bx hs fun b1 w hs=>?_)
 refine .o (.alloc hs ez rfl fun b2 w hs=>?_)
 refine .z zg (.o (.alloc hs iW rfl fun b4 w hs=>?_))
 refine .o (.alloc hs lC rfl fun b5 w hs=>?_)
 refine .nil (.ai (.z (zfa nA) (.y hs (zls [_,_,_,_,_,_,_] Tryz.isAgg39 Tryz.sizeOf39) (.o (.call Tryz.call31 rfl (uS hs hx.sp hx.rs hx.cs hx.pk) ?_)))));rintro _ w ⟨H1,s,y,a,b,c,d,vy,hle1,rfl,hM,hK,r1,r2,r3,r4,hY,hs⟩
 have hSv:SvM H1 s a b c d:=⟨r1,r2,r3,r4⟩
 obtain ⟨aa,ca,rfl⟩:=RI.shape r1
 obtain ⟨ab,cb,rfl⟩:=RI.shape r2
 obtain ⟨ac,cc,rfl⟩:=RRd.shape r3
 obtain ⟨ad,cd,rfl⟩:=RCm.shape r4
 obtain ⟨ay,cy,rfl⟩:=RI.shape hY
 replace hx:=hx.mono hle1
 refine .z zm (.z zex (.z zex (.o (.alloc hs ez rfl fun b6 w hs=>?_))))
 refine .o (.aH (vs:=[_,_,_,_,_,_,_,_]) hs rfl rfl aB fun w hs=>?_)
 refine .zn zg (.seq (.draw mix rfl hs fun w hs=>?_))
 refine .ys 0 rfl hs [_,_,_,_,_,_,_,_] aI aB ?_;refine .z 1 rfl zm ?_;refine .z 2 rfl (zfa nz) ?_;refine .y 3 rfl hs an ?_;refine .z 5 rfl (zfa ny) ?_;refine .y 6 rfl hs Tryz.isAgg40 ?_
 refine .E 4 hs ?_
 refine .call Tryz.call77 rfl (pj hs hx.ln) ?_;rintro _ w ⟨H2,l,at_,ct,as_,cs,hle2,rfl,hL,gl,hs⟩
 replace hx:=hx.mono hle2
 refine .go (.E 7 hs ?_)
 refine .call Tryz.call78 rfl (pc hs hx.lg) ?_;rintro _ w ⟨H3,r,ar,cr,hle3,rfl,hR,gr_,hs⟩
 refine .go (.E 8 hs ?_)
 refine .aH (vs:=[_,_,_,_,_,_,_,_]) hs rfl rfl aB ?_;intro w hs
 refine .go (.zw 9 rfl zg (.E 10 hs ?_))
 refine .aH (vs:=[_,_,_,_]) hs rfl rfl aK ?_;intro w hs
 refine .go (.E 11 hs ?_)
 refine .aH (vs:=[_]) hs rfl rfl aW ?_;intro w hs
 refine .go (.D hs (.ret ?_))
 exact Fin.gj [] [] hs fun w hs=>⟨_,results4 Tryz.results35 (cC (vs:=svC s (.slice aa s.sp.st.length ca) (.slice ab s.sp.wa.length cb) (.slice ac s.rs.length cc) (.slice ad s.cs.length cd)) hs rfl aI aB) rfl (cC (vs:=lnC l (.slice at_ l.table.length ct) (.slice as_ l.seasons.length cs)) hs rfl bp aK) (cC (vs:=[.slice ar r.length cr]) hs rfl bR aW),
  H3,s,y,aa,ca,ab,cb,ac,cc,ad,cd,ay,cy,l,at_,ct,as_,cs,r,ar,cr,hle1.trans (hle2.trans hle3),rfl,hM,hK,hSv.mono (hle2.trans hle3),RI.mono hY (hle2.trans hle3),hL,gl.mono hle3,hR,gr_,hs.out⟩
end Go.Proofs.YteajddicacjkhaaGreat
namespace Go.Proofs.YteajddicacjkhaaGreat
open Go.MW
theorem ue{n n' d:Int}(h:n≤n')(hd:0≤d):dD n d≤dD n' d:=Int.ediv_le_ediv ew (Int.mul_le_mul_of_nonneg_right h hd)
theorem rX{n d x y:Int}(h1:x≤d)(h2:d≤y):min (dD n x) (dD n y)≤dD n d∧dD n d≤max (dD n x) (dD n y):=by
 unfold dD
 rcases Int.le_total 0 n with h|h
 ·have a1:n*x/1000≤n*d/1000:=Int.ediv_le_ediv ew (Int.mul_le_mul_of_nonneg_left h1 h)
  have a2:n*d/1000≤n*y/1000:=Int.ediv_le_ediv ew (Int.mul_le_mul_of_nonneg_left h2 h)
  omega
 ·have a1:n*d/1000≤n*x/1000:=Int.ediv_le_ediv ew (Int.mul_le_mul_of_nonpos_left h h1)
  have a2:n*y/1000≤n*d/1000:=Int.ediv_le_ediv ew (Int.mul_le_mul_of_nonpos_left h h2)
  omega
theorem FJ{a b n d x y:Int}(h1:a≤n)(h2:n≤b)(h3:x≤d)(h4:d≤y)(h0:0≤x):pZ a x y≤dD n d∧dD n d≤tx b x y:=by
 have e1:=ue (n:=a) (n':=n) (d:=d) h1 ak
 have e2:=ue (n:=n) (n':=b) (d:=d) h2 ak
 have e3:=(rX (n:=a) h3 h4).1
 have e4:=(rX (n:=b) h3 h4).2
 unfold pZ tx
 omega
def si(s:Srv)(y:List Int)(k:Nat):Int:=if k=0 then 0 else eH s.sp ⟨1,0,k⟩ (ee s.sp y s.sp.st.length) s.sp.many/pD ⟨1,0,k⟩
theorem FB{s:Srv}{y:List Int}(hok:dC s)(hK:j7 s y){k:Nat}(hk:k<s.sp.wa.length):HlR s (ee s.sp y s.sp.st.length) k (si s y k):=by
 unfold si
 by_cases e:k=0
 ·rw [if_pos e];exact .zero e
 ·rw [if_neg e];exact .up ak (vN hok hK (tO ak hk))
theorem Bv{s:Srv}{y:List Int}(hok:dC s)(hK:j7 s y){k:Nat}{a b:Int}(h:wb s k a b 0):a≤si s y k∧si s y k≤b:=by
 unfold si
 generalize h0:(0:Int)=e0 at h
 cases h with
 |up h g=>
  subst h0
  rw [if_neg ak]
  exact Ep hok hK g
 |fls=>omega
 |zero h=>rw [if_pos h];exact ⟨Int.le_refl _,Int.le_refl _⟩
theorem Bu{s:Srv}{y:List Int}(hok:dC s)(hK:j7 s y){k:Nat}{x z a b d:Int}(hd:eS x z)(h:jD s k x z a b 0)(h1:x≤d)(h2:d≤z):a≤dD (si s y k) d∧dD (si s y k) d≤b:=by
 unfold eS at hd
 generalize h0:(0:Int)=e0 at h
 cases h with
 |fls h g=>exact (g h0.symm).elim
 |ok h=>
  have:=Bv hok hK h
  exact FJ this.1 this.2 h1 h2 ak
theorem FC{s:Srv}{y:List Int}(hok:dC s)(hK:j7 s y){k:Nat}{x z a b:Int}(h:jD s k x z a b 0): -200000000≤si s y k∧si s y k≤200000000:=by
 generalize h0:(0:Int)=e0 at h
 cases h with
 |fls h g=>exact (g h0.symm).elim
 |ok h=>
  have h1:=Bv hok hK h
  have h2:=h.bd
  omega
end Go.Proofs.YteajddicacjkhaaGreat
namespace Go.Proofs.YteajddicacjkhaaGreat
open Go.MW
variable{H:bw}{w:World}{σ:List Ent}
theorem ru{s:Srv}{k:Nat}{vst vwa vh:Value}{rows:List (List Int)}(hs:St H w σ)(h1:RI H vst s.sp.st)(h2:RI H vwa s.sp.wa)(hr:RT H vh rows):
  Cl Tryz.prog 51 [spA s.sp vst vwa,.agg #[vh],I (k:Int)] w fun u w'=>∃H1 n e,HLe H H1∧u= .tuple #[I n,I e]∧((e=0∧HlR s rows k n)∨(e≠0∧0<k∧oA s.sp rows ⟨1,0,k⟩ n e))∧St H1 w' σ:=by
 obtain ⟨ah,ch,rfl⟩:=hr.shape
 refine Cl.o Tryz.func51 Tryz.ntmps51 ag3 ?_
 refine .ai (.bx hs fun b3 w hs=>?_)
 refine .bx hs fun b4 w hs=>?_
 refine .z zg (.zn zg (.seq (.ai (.z zm (.zn kd (.bO rfl (fun hc9=>?_) (fun hc9=>?_)))))))
 ·refine .ai (.z zg (.zn zg (.ret (rT (Fin.jG Tryz.results51 rfl rfl ?_)))))
  exact ⟨H,_,_,HLe.refl _,rfl,.inl ⟨rfl,.zero ak⟩,hs.out⟩
 ·refine .skip (nT (.ai (.y hs (zls [_,_,_,_,_,_] aM aD) (.y hs (zls [_] eR bH) (.z zm (.z (zbd [I 1,I 0,I (k:Int)] sa) (.o (.call Tryz.call64 rfl (kT (s:=s.sp) (q:=⟨1,0,k⟩) hs h1 h2 hr) ?_))))))));rintro _ w ⟨H1,n,e,hle1,rfl,hQ,hs⟩
  refine .z zex (.z zex (.z zg (.zn zg (.ret (Fin.jG Tryz.results51 rfl rfl ?_)))))
  exact ⟨H1,_,_,hle1,rfl,by
   by_cases h:e=0
   ·subst h;exact .inl ⟨rfl,.up ak hQ⟩
   ·exact .inr ⟨h,ak,hQ⟩,hs.out⟩
theorem lk{m:Rng}{n:Int}(hs:St H w σ)(hm:0≤m.lo∧m.lo≤m.hi∧m.hi≤1000000000000):
  Cl Tryz.prog 50 [.agg #[I m.lo,I m.hi],I n] w fun u w'=>∃z,u=I z∧(m.lo≤z∧z≤m.hi)∧St H w' σ:=by
 have hb:=mb n (m:=m.hi - m.lo+1) ak
 refine Cl.o Tryz.func50 Tryz.ntmps50 ag2 ?_
 refine .ai (.bx hs fun b2 w hs=>?_)
 refine .zn zg (.seq (.draw mix rfl hs fun w hs=>?_))
 refine .zw 0 rfl (zfa bD) ?_;refine .y 1 rfl hs af ?_;refine .z 2 rfl zm ?_;refine .z 3 rfl (zfa cg) ?_;refine .y 4 rfl hs af ?_;refine .z 5 rfl (zfa bD) ?_;refine .y 6 rfl hs af ?_;refine .z 7 rfl ib ?_;refine .z 8 rfl cq ?_
 refine .E 9 hs ?_
 refine .call gw rfl (cO hs ak) ?_;rintro _ w ⟨rfl,hs⟩
 refine .go (.zw 10 rfl cq ?_);refine .z 11 rfl zg ?_;refine .D hs ?_
 refine .ret (Fin.bu Tryz.results50 rfl ?_)
 exact ⟨_,rfl,ak,hs.out⟩
end Go.Proofs.YteajddicacjkhaaGreat
namespace Go.Proofs.YteajddicacjkhaaGreat
open Go.MW
theorem Fp{v:Srv}{l:Lns}{r:List Lg}{m:Rng}{as_ ks:List Int}(h:yL v l r m as_ 0)(hB:mC v l r m ks 0):v.sys.Sound∧as_.length=r.length∧∀i<r.length,∃lo hi,jD v (gi ks i).toNat (lg0 r i).dlo (lg0 r i).dhi lo hi 0∧gi as_ i=xd (ke m r i) lo hi:=by
 generalize h0:(0:Int)=e0 at h
 cases h with
 |bad _ h=>exact (h h0.symm).elim
 |fls=>omega
 |ok g g1 g2 g3=>
  obtain ⟨rfl,_⟩:=hB.uniq g
  exact ⟨g1,g2,g3⟩
def GD(as_:List Int)(z:Int):Prop:=(z= -1∧∀i<as_.length,gi as_ i=1)∨∃i:Nat,z=(i:Int)∧i<as_.length∧gi as_ i≠1∧∀j<i,gi as_ j=1
inductive Ft(v:Srv)(l:Lns)(r:List Lg)(m:Rng):Wit→Int→Prop
 |bad {as_:List Int} {e:Int} (h:yL v l r m as_ e) (he:e≠0):Ft v l r m ⟨0,0,0,[]⟩ e
 |none {as_:List Int} (h:yL v l r m as_ 0) (h1:∀i<as_.length,gi as_ i=1):Ft v l r m ⟨0,0,0,[]⟩ 3
 |ok {as_ ks:List Int} {x:Wit} {i:Nat} (h:yL v l r m as_ 0) (hi:i<as_.length) (h1:gi as_ i≠1) (h2:∀j<i,gi as_ j=1) (hl:x.leg=(i:Int)) (hB:mC v l r m ks 0) (hw:EU v r m ks x):Ft v l r m x 0
theorem E8{v:Srv}{l:Lns}{r:List Lg}{m:Rng}{as_ ks:List Int}{i q:Nat}{a b d:Int}{y:List Int}(h:yL v l r m as_ 0)(hB:mC v l r m ks 0)(hi:i<r.length)(h1:gi as_ i≠1)(hq:gi ks i=(q:Int))(hy:yE v.sys (yJ (v.w ⟨1,0,(max q 1:Nat)⟩) false) y)
  (hL:wb v q a b 0) (hd:(d=(lg0 r i).dlo∧dD a (lg0 r i).dlo≤dD a (lg0 r i).dhi)∨(d=(lg0 r i).dhi∧dD a (lg0 r i).dhi≤dD a (lg0 r i).dlo)):EU v r m ks ⟨(i:Int),d,(ke m r i).hi,ee v.sp y v.sp.st.length⟩:=by
 obtain ⟨hok,_,hrt,hm,_,_⟩:=hB.ok'
 obtain ⟨hsd,hal,has⟩:=Fp h hB
 obtain ⟨lo,hi',hS,hA⟩:=has i hi
 rw [hq,Int.toNat_natCast] at hS
 have hdn:=(hrt.leg i hi).1.dense
 unfold eS at hdn
 obtain ⟨hH,hK,_⟩:=yw hok hy.zero hy.xm ⟨1,0,(max q 1:Nat)⟩
 have hmm:=wH hm (fun i hi=>(hrt.leg i hi).1) (i:=i) ak
 unfold gR at hmm
 have hsp:lo=pZ a (lg0 r i).dlo (lg0 r i).dhi:=(hS.uniq (.ok hL)).1
 have hno:¬(ke m r i).hi≤lo:=fun g=>h1 (hA.trans (xc.2 g))
 have hfl:dD a d=lo:=by
  rw [hsp];unfold pZ
  rcases hd with ⟨rfl,g⟩|⟨rfl,g⟩<;>omega
 have hhl:HlR v (ee v.sp y v.sp.st.length) q a:=by
  by_cases e:q=0
  ·subst e
   generalize h0:(0:Int)=e0 at hL
   cases hL with
   |up h=>omega
   |fls=>omega
   |zero=>exact .zero rfl
  ·have e1:max q 1=q:=by omega
   rw [e1] at hy
   generalize h0:(0:Int)=e0 at hL
   cases hL with
   |up h g=>subst h0;have:=(Gs g hy).1;rw [if_neg bV] at this;exact .up h this
   |fls=>omega
   |zero h=>omega
 refine ⟨by dsimp only;omega,.ok hok hH hK,?_,?_,a,?_,?_⟩
 ·dsimp only;rw [Int.toNat_natCast];omega
 ·dsimp only;rw [Int.toNat_natCast];omega
 ·dsimp only;rw [Int.toNat_natCast,hq,Int.toNat_natCast];exact hhl
 ·dsimp only;omega
theorem FL{v:Srv}{l:Lns}{r:List Lg}{m:Rng}{x:Wit}{f:Int}(h:Ft v l r m x 0)(g:Dk v l r m x f):f=0:=by
 generalize h0:(0:Int)=e0 at h
 cases h with
 |bad _ he=>exact (he h0.symm).elim
 |none=>omega
 |ok _ _ _ _ _ hB hw=>cases g with
  |bad g ge=>exact (ge (g.uniq hB).2).elim
  |no g g1=>obtain ⟨rfl,_⟩:=hB.uniq g;exact (g1 hw).elim
  |ok=>rfl
end Go.Proofs.YteajddicacjkhaaGreat
namespace Go.Proofs.YteajddicacjkhaaGreat
open Go.MW
variable{H:bw}{w:World}{σ:List Ent}
set_option maxHeartbeats 4000000 in
theorem tV{s:Srv}{l:Lns}{r:List Lg}{m:Rng}{a b c d vt vs vlg:Value}(hs:St H w σ)(g:SvM H s a b c d)(gl:LnM H l vt vs)(gr_:RLg H vlg r):
  Cl Tryz.prog 61 [svA s a b c d,lnA l vt vs,.agg #[vlg],.agg #[I m.lo,I m.hi]] w fun u w'=>∃H1 vh x e,HLe H H1∧u= .tuple #[.agg #[I x.leg,I x.dense,I x.qj,vh],I e]∧RT H1 vh x.rows∧Ft s l r m x e∧St H1 w' σ:=by
 refine Cl.o Tryz.func61 Tryz.ntmps61 ag4 ?_
 refine .ai (.bx hs fun b4 w hs=>?_)
 refine .bx hs fun b5 w hs=>?_
 refine .bx hs fun b6 w hs=>?_
 refine .bx hs fun b7 w hs=>?_
 refine .o (.alloc hs zD rfl fun b8 w hs=>?_)
 refine .zn zg (.scope (.ai (.y hs (zls [_,_,_,_,_,_,_,_] aI aB) (.y hs (zls [_,_,_,_] bp aK) (.y hs (zls [_] bR aW) (.y hs (zls [_,_] aR aq) (.o (.call Tryz.call79 rfl (kW (s:=s) (l:=l) (m:=m) hs g gl gr_) ?_))))))));rintro _ w ⟨H1,z,ks,e,hle1,rfl,ho,hB,h0,hs⟩
 refine .z zm (.z zex (.z zex (.o (.alloc hs iD rfl fun b10 w hs=>?_))))
 refine .o (.aH (vs:=z.cs) hs rfl rfl bT ?_ (hv:=ho));intro w hs
 refine .zn zg (.seq (.ai (.z zm (.zn gg (.dO rfl (fun hc29=>?_) (fun hc29=>?_))))))
 ·refine .ai (.z (zbd [_,_,_,_] fu) (.z zm (.o (.aH (vs:=[_,_,_,_]) hs rfl rfl dh fun w hs=>?_))))
  refine .zn zg (.ret (rT (rS (?_))))
  exact Fin.gj [] [] hs fun w hs=>⟨_,results2 E3 (cC (vs:=[_,_,_,_]) hs rfl lE dh) rfl,H1,_,⟨0,0,0,[]⟩,_,hle1,rfl,RT.nil _,.bad (.bad hB hc29) hc29,hs.out⟩
 ·refine .skip (nT (.ai (.y hs (zls [_,_,_,_,_,_,_,_,_,_,_,_,_,_,_] j8 bT) ?_)))
  obtain rfl:e=0:=by omega
  refine .o (.call Tryz.call80 rfl (lT hs (h0 rfl)) ?_);rintro _ w ⟨H2,va,as_,e,hle2,rfl,hR,hA,hs⟩
  have hle02:=hle1.trans hle2
  refine .z zm (.z zex (.z zex (.z zg (.zn zg (.seq (.ai (.z zm (.zn gg (.dO rfl (fun hc38=>?_) (fun hc38=>?_))))))))))
  ·refine .ai (.z (zbd [_,_,_,_] fu) (.z zm (.o (.aH (vs:=[_,_,_,_]) hs rfl rfl dh fun w hs=>?_))))
   refine .zn zg (.ret (rT (rS (?_))))
   exact Fin.gj [] [] hs fun w hs=>⟨_,results2 E3 (cC (vs:=[_,_,_,_]) hs rfl lE dh) rfl,H2,_,⟨0,0,0,[]⟩,_,hle02,rfl,RT.nil _,.bad hA hc38,hs.out⟩
  ·refine .skip (nT (.ai ?_))
   obtain rfl:e=0:=by omega
   obtain ⟨s',l',a',b',c',d',t',n',lg',ms',mr'⟩:=z
   obtain ⟨rfl,rfl,g',-,hr',hms,hmr,hone,-⟩:=h0 rfl
   dsimp only at g' hr' hms hmr hB hA g
   obtain ⟨alg,clg,rfl⟩:=hr'.shape
   obtain ⟨ams,cms,rfl⟩:=hms.shape
   obtain ⟨amr,cmr,rfl⟩:=RI.shape hmr
   obtain ⟨hok,hl,hrt,hm,hkl,hlow⟩:=hB.ok'
   have hn:=hrt.many
   have hml:=lR m r r.length
   obtain ⟨hsd,hal,has⟩:=Fp hA hB
   obtain ⟨aas,cas,rfl⟩:=RI.shape hR
   replace g:=g.mono hle02
   replace hr':=RS.mono hr' hle2
   replace hms:=RS.mono hms hle2
   replace hmr:=RS.mono hmr hle2
   have hsm:=dX hok.early.1
   refine .z (zbd [I (-1),I 0,I 0,.slice none 0 0] fu) (.o (.alloc hs zD rfl fun b13 w hs=>?_))
   refine .o (.aH (vs:=[_,_,_,_]) hs rfl rfl dh fun w hs=>?_)
   refine .nil (.seq (.label (nT (.cut (fun fs w=>∃z:Int,lZ fs ⟨128,[],[(13,Pt b13),(10,Pt b10),(8,Pt b8),(4,Pt b4)]⟩∧GD as_ z∧St H2 w (.blk b13 [I z,I 0,I 0,.slice none 0 0]:: .blk b10 (RtV.cs ⟨s',l',a',b',c',d',t',n',.slice alg r.length clg,.slice ams (msL m r r.length).length cms,.slice amr ks.length cmr⟩):: .blk b8 [I 0,I 0,I 0,.slice none 0 0]:: .blk b4 (svC s' a b c d)::σ)) ?_ ?_))))
   ·refine .ai (.z zm (.z (cU ae) (.zn zm (.for (N:=as_.length) (J:=fun k fr w=>fr=[(13,Pt b13),(42,.slice aas as_.length cas),(10,Pt b10),(8,Pt b8),(4,Pt b4)]∧(∀j<k,gi as_ j=1)∧St H2 w (.blk b13 [I (-1),I 0,I 0,.slice none 0 0]:: .blk b10 (RtV.cs ⟨s',l',a',b',c',d',t',n',.slice alg r.length clg,.slice ams (msL m r r.length).length cms,.slice amr ks.length cmr⟩):: .blk b8 [I 0,I 0,I 0,.slice none 0 0]:: .blk b4 (svC s' a b c d)::σ)) ak ?_ ?_ ?_))))
    ·exact .mk ⟨rfl,fun j hj=>by omega,hs.sb⟩
    ·rintro k fr w hk ⟨rfl,hall,hs⟩
     refine .block (.ai (.z zm (.ixY hs hR rfl rfl ae aj (bB (l:=as_) (i:=k) ak) df ?_)));intro b47 o47 hc47
     refine .q hs (aQ rfl af hc47) (.z zg (.zn zg (.ai (.z zm (.zn gg (.dO rfl (fun hc50=>?_) (fun hc50=>?_)))))))
     ·refine .ai (.z zm (.z (zfa cN) (.o (.store hs rfl rfl aj fun w hs=>?_))))
      refine .nil (.exit (xN (xT (xB (nT ?_)))))
      exact ⟨(k:Int),bn,.inr ⟨k,rfl,ak,hc50,hall⟩,hs.sb⟩
     ·refine .skip (nB (nT ?_))
      exact .mk ⟨rfl,fun j hj=>by
       by_cases e:j=k
       ·subst e;omega
       ·exact hall j ak,hs.sb⟩
    ·rintro fr w ⟨rfl,hall,hs⟩
     refine nT ?_
     exact ⟨-1,bn,.inl ⟨rfl,hall⟩,hs.sb⟩
   ·clear hs
    rintro fs w ⟨z,hfs,hF,hs⟩
    refine WE.sub ?_ hfs
    clear hfs
    refine .seq (.ai (.z (zfa cN) (.y hs (zld af) (.zn iJ (.bO rfl (fun hc56=>?_) (fun hc56=>?_))))))
    ·refine .ai (.z (zbd [_,_,_,_] fu) (.o (.aH (vs:=[_,_,_,_]) hs rfl rfl dh fun w hs=>?_)))
     refine .zn zg (.ret (rT (rS (?_))))
     exact Fin.gj [] [] hs fun w hs=>⟨_,results2 E3 (cC (vs:=[_,_,_,_]) hs rfl lE dh) rfl,H2,_,⟨0,0,0,[]⟩,_,hle02,rfl,RT.nil _,.none hA (by rcases hF with h|⟨i,rfl,_⟩;exact h.2;omega),hs.out⟩
    ·refine .skip (nT (.ai ?_))
     obtain ⟨i,rfl,hil,hno,hall⟩:=hF.resolve_left fun h=>by omega
     have hlt:i<r.length:=by omega
     obtain ⟨q,hq,hqw⟩:=hB.mark hlt
     have hxl:=mc (l:=r) hlt
     have hxm:=y9 m r (k:=r.length) (i:=i) ak
     have hdn:=(hrt.leg i hlt).1.dense
     unfold eS at hdn
     have hw2:=hok.early.1.wa.two
     have hmq:0<max q 1∧max q 1<s'.sp.wa.length:=by omega
     have hwq:=tO (v:=s') hmq.1 hmq.2
     have hmx:max (q:Int) 1=((max q 1:Nat):Int):=by omega
     refine .z (zfa ft) (.y hs (zld an) (.z (zfa cN) (.y hs (zld af) (.ixX (enc:=fun x=>[I x]) hs hmr rfl rfl ae aj (bB (l:=ks) (i:=i) ak) rfl ?_))));intro b62 o62 hc62;replace hc62:=bK.one hc62
     rw [hq] at hc62
     refine .y hs (zld af) (.zn zg (.cut (fun fs w=>∃(H3:bw) (ah:Option Addr) (ch:Nat) (y:List Int) (b17:Nat),lZ fs ⟨128,[],[(17,Pt b17),(16,I (q:Int)),(11,I 0),(13,Pt b13),(10,Pt b10),(8,Pt b8),(4,Pt b4)]⟩∧HLe H2 H3∧RT H3 (.slice ah (ee s'.sp y s'.sp.st.length).length ch) (ee s'.sp y s'.sp.st.length)∧yE s'.sys (yJ (s'.w ⟨1,0,(max q 1:Nat)⟩) false) y∧St H3 w (.blk b17 [.slice ah (ee s'.sp y s'.sp.st.length).length ch]:: .blk b13 [I (i:Int),I 0,I 0,.slice none 0 0]:: .blk b10 (RtV.cs ⟨s',l',a',b',c',d',t',n',.slice alg r.length clg,.slice ams (msL m r r.length).length cms,.slice amr ks.length cmr⟩):: .blk b8 [I 0,I 0,I 0,.slice none 0 0]:: .blk b4 (svC s' a b c d)::σ)) ?_ ?_))
     ·refine .draw mix rfl hs fun w hs=>?_
      refine .ys 0 rfl hs [_,_,_,_,_,_,_,_] aI aB ?_;refine .z 1 rfl zm ?_;refine .z 2 rfl Bk ?_
      refine .e2 (i:=3) (j:=8) aE rfl rfl rfl rfl .none .none hs ?_ ?_
      ·rw [hmx]
       refine .call Tryz.call98 rfl (fY hs) ?_;rintro _ w ⟨rfl,hs⟩
       refine .go (.e2 (i:=4) (j:=8) aE rfl rfl rfl rfl .none .none hs ?_ ?_)
       ·refine .call Tryz.call63 rfl (iz (s:=s') (q:=⟨1,0,(max q 1:Nat)⟩) (high:=false) hs g.st g.wa g.rd g.cm) ?_;rintro _ w ⟨H3,vh,rows,e,hle3,rfl,hRT,hAk,-,hBe,hs⟩
        obtain rfl:e=0:=by
         cases hAk with
         |bad h he=>exact (he (h.db.2 hok)).elim
         |what _ h=>exact (h hwq).elim
         |fls _ _ h=>exact (h hsd).elim
         |ok=>rfl
        obtain ⟨y,hBy,rfl⟩:=hBe rfl
        obtain ⟨ah,ch,rfl⟩:=hRT.shape
        refine .go (.zw 5 rfl zm ?_);refine .z 6 rfl zex ?_;refine .z 7 rfl zex ?_
        refine .E 8 hs ?_
        refine .alloc hs fk rfl ?_;intro b17 w hs
        refine .go (.E 9 hs ?_)
        refine .aH (vs:=[_]) hs rfl rfl bH ?_;intro w hs
        refine .go (.zw 10 rfl zg ?_);refine .D hs ?_
        exact nT ⟨H3,ah,ch,y,b17,bn,hle3,hRT,hBy,hs.sb⟩
       ·refine .alloc hs fk rfl ?_;intro b17 w hs
        refine .go (.E 4 hs ?_)
        refine .call Tryz.call63 rfl (iz (s:=s') (q:=⟨1,0,(max q 1:Nat)⟩) (high:=false) hs g.st g.wa g.rd g.cm) ?_;rintro _ w ⟨H3,vh,rows,e,hle3,rfl,hRT,hAk,-,hBe,hs⟩
        obtain rfl:e=0:=by
         cases hAk with
         |bad h he=>exact (he (h.db.2 hok)).elim
         |what _ h=>exact (h hwq).elim
         |fls _ _ h=>exact (h hsd).elim
         |ok=>rfl
        obtain ⟨y,hBy,rfl⟩:=hBe rfl
        obtain ⟨ah,ch,rfl⟩:=hRT.shape
        refine .go (.zw 5 rfl zm ?_);refine .z 6 rfl zex ?_;refine .z 7 rfl zex ?_
        refine .E 9 hs ?_
        refine .aH (vs:=[_]) hs rfl rfl bH ?_;intro w hs
        refine .go (.zw 10 rfl zg ?_);refine .D hs ?_
        exact nT ⟨H3,ah,ch,y,b17,bn,hle3,hRT,hBy,hs.sb⟩
      ·refine .alloc hs fk rfl ?_;intro b17 w hs
       refine .go (.E 3 hs ?_)
       rw [hmx]
       refine .call Tryz.call98 rfl (fY hs) ?_;rintro _ w ⟨rfl,hs⟩
       refine .go (.E 4 hs ?_)
       refine .call Tryz.call63 rfl (iz (s:=s') (q:=⟨1,0,(max q 1:Nat)⟩) (high:=false) hs g.st g.wa g.rd g.cm) ?_;rintro _ w ⟨H3,vh,rows,e,hle3,rfl,hRT,hAk,-,hBe,hs⟩
       obtain rfl:e=0:=by
        cases hAk with
        |bad h he=>exact (he (h.db.2 hok)).elim
        |what _ h=>exact (h hwq).elim
        |fls _ _ h=>exact (h hsd).elim
        |ok=>rfl
       obtain ⟨y,hBy,rfl⟩:=hBe rfl
       obtain ⟨ah,ch,rfl⟩:=hRT.shape
       refine .go (.zw 5 rfl zm ?_);refine .z 6 rfl zex ?_;refine .z 7 rfl zex ?_
       refine .E 9 hs ?_
       refine .aH (vs:=[_]) hs rfl rfl bH ?_;intro w hs
       refine .go (.zw 10 rfl zg ?_);refine .D hs ?_
       exact nT ⟨H3,ah,ch,y,b17,bn,hle3,hRT,hBy,hs.sb⟩
     ·rintro fs w ⟨H3,ah,ch,y,b17,hfs,hle3,hRT,hBy,hs⟩
      refine WE.sub ?_ hfs
      clear hfs
      have hle03:=hle02.trans hle3
      replace g:=g.mono hle3
      replace hr':=RS.mono hr' hle3
      replace hms:=RS.mono hms hle3
      refine .seq (.ai (.z zm (.z gg ?_)))
      rw [decide_eq_true rfl]
      refine .nil (.cF (.skip (nT (.seq (.draw mix rfl hs fun w hs=>?_)))))
      refine .ys 0 rfl hs [_] eR bH ?_;refine .z 1 rfl (zfa iN) ?_;refine .y 2 rfl hs Tryz.isAgg80 ?_;refine .z 3 rfl (zfa cN) ?_;refine .y 4 rfl hs af ?_
      refine .ixX (enc:=Rng.c) (i:=5) hs rfl aE .none hms rfl rfl dL aq hxm rfl ?_;intro b81 o81 hc81
      refine .zw 6 rfl (zfa cg) (.r (i:=7) hs rfl aE .none (aQ rfl af (hc81.get 1 rfl)) ?_)
      refine .zw 8 rfl (zfa eI) ?_;refine .y 9 rfl hs dm ?_;refine .z 10 rfl (zfa cN) ?_;refine .y 11 rfl hs af ?_
      refine .ixX (enc:=Lg.c) (i:=12) hs rfl aE .none hr' rfl rfl aS aN hxl rfl ?_;intro b88 o88 hc88
      refine .zw 13 rfl (zfa eC) ?_;refine .z 14 rfl (zfa bD) ?_
      refine .r (i:=15) hs rfl aE .none (aQ rfl af (hc88.get 3 rfl)) ?_
      refine .zw 16 rfl (zfa jL) (.E 17 hs ?_)
      refine .aH (vs:=[_]) hs rfl rfl bH ?_;intro w hs
      refine .go (.zw 18 rfl (zfa jM) (.E 19 hs ?_))
      refine .store hs rfl rfl aj ?_;intro w hs
      refine .go (.zw 20 rfl (zfa fP) (.E 21 hs ?_))
      refine .store hs rfl rfl aj ?_;intro w hs
      refine .go (.D hs (.seq (.ai ?_)))
      change St _ _ (_:: .blk b13 [I (i:Int),I (lg0 r i).dlo,I (ke m r i).hi,.slice ah (ee s'.sp y s'.sp.st.length).length ch]::_) at hs
      refine .y hs (zls [_,_,_,_,_,_,_,_] aI aB) (.z zm (.o (.call Tryz.call122 rfl (mw (s:=s') (k:=q) hs g hok) ?_)));rintro _ w ⟨H4,la,lb,e,hle4,rfl,hL,hs⟩
      obtain rfl:e=0:=(hL.err hok hqw).elim (fun h=>h.1) (fun h=>(h.2.1 hsd).elim)
      have hb:=hL.bd
      have hle04:=hle03.trans hle4
      replace hr':=RS.mono hr' hle4
      refine .z zm (.z zex (.z zex (.o (.alloc hs bN rfl fun b18 w hs=>?_))))
      refine .o (.aH (vs:=[_,_]) hs rfl rfl aq fun w hs=>?_)
      refine .zn zg (.seq (.draw mix rfl hs fun w hs=>?_))
      refine .zw 0 rfl (zfa bD) ?_;refine .y 1 rfl hs af ?_;refine .z 2 rfl (zfa fP) ?_;refine .y 3 rfl hs af ?_;refine .z 5 rfl (zfa bD) ?_;refine .y 6 rfl hs af ?_;refine .z 7 rfl (zfa eI) ?_;refine .y 8 rfl hs dm ?_;refine .z 9 rfl (zfa cN) ?_;refine .y 10 rfl hs af ?_
      refine .ixX (enc:=Lg.c) (i:=11) hs rfl aE .none hr' rfl rfl aS aN hxl rfl ?_;intro b112 o112 hc112
      refine .zw 12 rfl (zfa eC) ?_;refine .z 13 rfl (zfa cg) ?_
      refine .r (i:=14) hs rfl aE .none (aQ rfl af (hc112.get 4 rfl)) ?_
      refine .E 4 hs ?_
      refine .call xu rfl (eg hs ak ak) ?_;rintro _ w ⟨rfl,hs⟩
      refine .go (.E 15 hs ?_)
      refine .call xu rfl (eg hs ak ak) ?_;rintro _ w ⟨rfl,hs⟩
      refine .go (.zw 16 rfl pQ ?_);refine .D hs ?_
      refine (.bO rfl (fun hc117=>?_) (fun hc117=>?_))
      ·refine .region (.z (zfa eI) (.y hs (zld dm) (.z (zfa cN) (.y hs (zld af) (.ixX (enc:=Lg.c) hs hr' rfl rfl aS aN hxl rfl ?_)))));intro b122 o122 hc122
       refine .z (zfa eC) (.z (zfa cg) (.q hs (aQ rfl af (hc122.get 4 rfl)) (.z (zfa fP) (.o (.store hs rfl rfl aj fun w hs=>?_)))))
       refine .nil (nT (.ai (.y hs (zls [_,_,_,_] lE dh) (.o (.aH (vs:=[_,_,_,_]) hs rfl rfl dh fun w hs=>?_)))))
       refine .zn zg (.ret (rS (?_)))
       exact Fin.gj [] [] hs fun w hs=>⟨_,results2 E3 (cC (vs:=[_,_,_,_]) hs rfl lE dh) rfl,H4,_,⟨(i:Int),(lg0 r i).dhi,(ke m r i).hi,ee s'.sp y s'.sp.st.length⟩,_,hle04,rfl,hRT.mono hle4,.ok hA hil hno hall rfl hB (E8 hA hB hlt hno hq hBy hL (.inr ⟨rfl,ak⟩)),hs.out⟩
      ·refine .skip (nT (.ai (.y hs (zls [_,_,_,_] lE dh) (.o (.aH (vs:=[_,_,_,_]) hs rfl rfl dh fun w hs=>?_)))))
       refine .zn zg (.ret (rS (?_)))
       exact Fin.gj [] [] hs fun w hs=>⟨_,results2 E3 (cC (vs:=[_,_,_,_]) hs rfl lE dh) rfl,H4,_,⟨(i:Int),(lg0 r i).dlo,(ke m r i).hi,ee s'.sp y s'.sp.st.length⟩,_,hle04,rfl,hRT.mono hle4,.ok hA hil hno hall rfl hB (E8 hA hB hlt hno hq hBy hL (.inl ⟨rfl,ak⟩)),hs.out⟩
end Go.Proofs.YteajddicacjkhaaGreat
namespace Go.Proofs.YteajddicacjkhaaGreat
open Go.MW
theorem Eu{v:Srv}{l:Lns}{r:List Lg}{m:Rng}{a e f:Int}{x:Wit}(h:Av v l r m a e)(g:Ft v l r m x f)(he:e≠0):f=e:=by
 cases h with
 |bad h _=>cases g with
  |bad g=>exact (g.uniq h).2
  |none g=>exact (he (h.uniq g).2).elim
  |ok g=>exact (he (h.uniq g).2).elim
 |ok=>exact (he rfl).elim
theorem C1{v:Srv}{l:Lns}{r:List Lg}{m:Rng}{as_:List Int}(h:yL v l r m as_ 0):uZ as_=1↔∀i<as_.length,gi as_ i=1:=by
 generalize h0:(0:Int)=e0 at h
 cases h with
 |bad _ h=>exact (h h0.symm).elim
 |fls=>omega
 |ok g g1 g2 g3=>exact yb fun i hi=>by obtain ⟨lo,hi',_,e⟩:=g3 i ak;rw [e];exact Ao _ _ _
theorem F8{v:Srv}{l:Lns}{r:List Lg}{m:Rng}{a f:Int}{x:Wit}(h:Av v l r m a 0)(g:Ft v l r m x f)(ha:a≠1):f=0:=by
 generalize h0:(0:Int)=e0 at h
 cases h with
 |bad _ h=>exact (h h0.symm).elim
 |ok h=>cases g with
  |bad g ge=>exact (ge (g.uniq h).2).elim
  |none g g1=>obtain ⟨rfl,_⟩:=h.uniq g;exact (ha ((C1 h).2 g1)).elim
  |ok=>rfl
theorem Er{v:Srv}{l:Lns}{r:List Lg}{m:Rng}{f:Int}{x:Wit}(h:Av v l r m 1 0)(g:Ft v l r m x f):f=3∧∃ks,mC v l r m ks 0∧∀i<r.length,∃lo hi,jD v (gi ks i).toNat (lg0 r i).dlo (lg0 r i).dhi lo hi 0∧(ke m r i).hi≤lo:=by
 obtain ⟨ks,hB,hv⟩:∃ks,mC v l r m ks 0∧v.sys.Sound:=by
  rcases h.err with ⟨_,_,g⟩|⟨_,_,_,g⟩|⟨ks,g,g1,_⟩
  ·exact (g rfl).elim
  ·omega
  ·exact ⟨ks,g,g1⟩
 refine ⟨?_,ks,hB,(h.yes hB hv).2.1 rfl⟩
 generalize h0:(0:Int)=e0 at h
 generalize h1:(1:Int)=a0 at h
 cases h with
 |bad _ h=>exact (h h0.symm).elim
 |ok h=>cases g with
  |bad g ge=>exact (ge (g.uniq h).2).elim
  |none=>rfl
  |ok g gi' g1=>obtain ⟨rfl,_⟩:=h.uniq g;exact (g1 ((C1 h).1 h1.symm _ gi')).elim
theorem Eh{v:Srv}{l:Lns}{r:List Lg}{m:Rng}{ks:List Int}{i:Nat}{k e:Int}(hB:mC v l r m ks 0)(hi:i<r.length)(h:GQ v.sp l (lg0 r i) k e):k=gi ks i∧e=0:=by
 obtain ⟨hok,hl,hrt,_,_,hlow⟩:=hB.ok'
 cases h with
 |space h=>exact (h hok.early.1).elim
 |lines _ h=>exact (h hl).elim
 |leg _ _ h=>exact (h (hrt.leg i hi).1).elim
 |go _ _ _ h=>exact h.uniq hl (hlow i hi)
theorem Et{v:Srv}{y:List Int}{q:Nat}{x z lo hi mm d:Int}(hok:dC v)(hK:j7 v y)(hd:eS x z)(h:jD v q x z lo hi 0)(h1:x≤d)(h2:d≤z)(hm:mm≤lo):1000*mm≤si v y q*d∧¬dD (si v y q) d<mm:=by
 have:=(Bu hok hK hd h h1 h2).1
 unfold dD at this ⊢
 omega
theorem Es{v:Srv}{l:Lns}{r:List Lg}{m:Rng}{ks:List Int}{i q:Nat}{d mm e n:Int}{rows:List (List Int)}(hB:mC v l r m ks 0)(hq:gi ks i=(q:Int))(hn:HlR v rows q n)(hno:¬dD n d<mm)(h:Dk v l r m ⟨(i:Int),d,mm,rows⟩ e):e≠0:=by
 cases h with
 |bad _ h=>exact h
 |no=>omega
 |ok g g1=>
  obtain ⟨rfl,_⟩:=hB.uniq g
  obtain ⟨n',h1,h2⟩:=g1.sinks
  dsimp only at h1 h2
  rw [Int.toNat_natCast,hq,Int.toNat_natCast] at h1
  rw [←hn.uniq h1] at h2
  exact (hno h2).elim
theorem Cu{m:Rng}{r:List Lg}{k:Nat}{mm b:Int}(h:(ke m r k).lo≤mm∧mm≤(ke m r k).hi)(hb:(lg0 r k).blo≤b∧b≤(lg0 r k).bhi):(ke m r (k+1)).lo≤max 0 (mm - b)∧max 0 (mm - b)≤(ke m r (k+1)).hi:=by
 simp only [ke,Gp];omega
set_option maxHeartbeats 4000000 in
theorem qn{W:World}{H:bw}{x:Dl}{vs v5 v4 vp vn vg:Value}{n1 n2 n3:Int}(hs:St H W [])(hx:zA H x vs v5 v4 vp vn vg):
  Cl Tryz.prog 15 [x.agg vs v5 v4 vp vn vg,.agg #[I n1,I n2,I n3]] W fun v w'=>v= .bool true∧∃H',HLe H H'∧St H' w' []:=by
 refine Cl.o Tryz.func15 Tryz.ntmps15 ag2 ?_
 refine .ai (.bx hs fun b2 w hs=>?_)
 refine .bx hs fun b3 w hs=>?_
 refine .zn zg (.ai (.o (.call Tryz.call18 rfl (tY hs) ?_)));rintro _ w ⟨rfl,H1,hle1,hs⟩
 replace hx:=hx.mono hle1
 refine .zn zg (.ai (.y hs (zls [_,_,_,_,_,_,_,_,_,_,_,_,_,_] Tryz.isAgg44 Tryz.sizeOf44) (.o (.call Tryz.call35 rfl (tF hs hx) ?_))));rintro _ w ⟨H2,s,y,aa,ca,ab,cb,ac,cc,ad,cd,ay,cy,l,at_,ct,as_,cs,r,ar,cr,hle2,rfl,hM,hK,g,hY,hL,gl,hR,gr_,hs⟩
 have hle02:=hle1.trans hle2
 have hok:=hM.ok
 have hsm:=dX hok.early.1
 have hr4:=hR.many
 refine .z zm (.z zex (.z zex (.z zex (.z zex (.o (.alloc hs ez rfl fun b6 w hs=>?_))))))
 refine .o (.alloc hs iW rfl fun b8 w hs=>?_)
 refine .o (.alloc hs lC rfl fun b9 w hs=>?_)
 refine .o (.aH (vs:=[_,_,_,_,_,_,_,_]) hs rfl rfl aB fun w hs=>?_)
 refine .z zg (.o (.aH (vs:=[_,_,_,_]) hs rfl rfl aK fun w hs=>?_))
 refine .o (.aH (vs:=[_]) hs rfl rfl aW fun w hs=>?_)
 refine .nil (.ai (.y hs (zls [_,_,_,_,_,_,_,_] aI aB) (.y hs (zls [_,_,_,_] bp aK) (.y hs (zls [_] bR aW) (.z (zfa dY) (.y hs (zls [_,_] aR aq) (.o (.call Tryz.call26 rfl (ku (s:=s) (l:=l) (r:=r) (m:=x.qj) hs g gl gr_) ?_))))))));rintro _ w ⟨H3,a,e,hle3,rfl,hJ,hs⟩
 replace g:=g.mono hle3
 replace gl:=gl.mono hle3
 replace gr_:=gr_.mono hle3
 refine .z zm (.z zex (.z zex (.z zg (.zn zg (.ai (.y hs (zls [_,_,_,_,_,_,_,_] aI aB) (.y hs (zls [_,_,_,_] bp aK) (.y hs (zls [_] bR aW) (.z (zfa dY) (.y hs (zls [_,_] aR aq) (.o (.call Tryz.call61 rfl (tV (s:=s) (l:=l) (r:=r) (m:=x.qj) hs g gl gr_) ?_))))))))))));rintro _ w ⟨H4,vh,z,f,hle4,rfl,gh,hSn,hs⟩
 obtain ⟨ah,ch,rfl⟩:=gh.shape
 replace g:=g.mono hle4
 replace gl:=gl.mono hle4
 replace gr_:=gr_.mono hle4
 replace hY:=RI.mono hY (hle3.trans hle4)
 have hle04:=hle02.trans (hle3.trans hle4)
 refine .z zm (.z zex (.z zex (.o (.alloc hs zD rfl fun b12 w hs=>?_))))
 refine .o (.aH (vs:=[_,_,_,_]) hs rfl rfl dh fun w hs=>?_)
 refine .zn zg (.seq (.ai (.z zm (.zn gg (.dO rfl (fun hc50=>?_) (fun hc50=>?_))))))
 ·refine .ai ?_
  obtain rfl:=Eu hJ hSn eb
  refine .z zm (.z zm (.T (.z zm (.T (.z zm (.T (.z kd ?_)))))))
  rw [decide_eq_true rfl]
  refine .z zpT (.zn zg (.ret (rT (Fin.bu E4 rfl ?_))))
  exact ⟨rfl,H4,hle04,hs.out⟩
 ·refine .skip (nT (.seq (.ai ?_)))
  obtain rfl:e=0:=by omega
  refine .z zm (.zn gg (.dO rfl (fun hc58=>?_) (fun hc58=>?_)))
  ·refine .ai ?_
   obtain rfl:=F8 hJ hSn eb
   refine .z zm (.z zm (.T (.z zm (.T (.z kd ?_)))))
   rw [decide_eq_true rfl]
   refine .z zpT (.z zm (.T ?_))
   refine .y hs (zls [_,_,_,_,_,_,_,_] aI aB) (.T (.y hs (zls [_,_,_,_] bp aK) (.T (.y hs (zls [_] bR aW) (.T (.z (zfa dY) (.T (.y hs (zls [_,_] aR aq) (.T (.y hs (zls [_,_,_,_] lE dh) (.T (.o (.call Tryz.call32 rfl (gX (s:=s) (l:=l) (r:=r) (m:=x.qj) (x:=z) hs g gl gr_ gh) ?_)))))))))))));rintro _ w ⟨H5,e5,hle5,rfl,h5,hs⟩
   obtain rfl:=FL hSn h5
   refine .T (.z kd ?_)
   rw [decide_eq_true rfl]
   refine .z zpT (.zn zg (.ret (rT (Fin.bu E4 rfl ?_))))
   exact ⟨rfl,H5,hle04.trans hle5,hs.out⟩
  ·refine .skip (nT (.seq (.ai ?_)))
   obtain rfl:a=1:=by omega
   obtain ⟨rfl,ks,hB,hyes⟩:=Er hJ hSn
   obtain ⟨-,hl,hrt,hm,hkl,-⟩:=hB.ok'
   have hmm:=hm
   unfold gR at hmm
   refine .z zm (.z gP (.z zm (.T (.z zm (.T (.z gg ?_))))))
   rw [decide_eq_true rfl]
   refine .zn zpF (.cF (.skip (nT (.ai (.z (zfa bj) (.y hs (zls [_,_,_,_,_,_] aM aD) (.z zm (.o (.call Tryz.call34 rfl (uQ (s:=s.sp) hs g.st g.wa hY ak ak (by have:=hK.bd.1;omega)) ?_)))))))));rintro _ w ⟨H5,vr,hle5,rfl,hRT,hs⟩
   replace g:=g.mono hle5
   replace gl:=gl.mono hle5
   replace gr_:=gr_.mono hle5
   have hle05:=hle04.trans hle5
   obtain ⟨at2,ct2,rfl⟩:=hRT.shape
   refine .o (.alloc hs fk rfl fun b14 w hs=>?_)
   refine .o (.aH (vs:=[_]) hs rfl rfl bH fun w hs=>?_)
   refine .nil (.ai (.z (zfa dY) (.y hs (zls [_,_] aR aq) (.z (zia 0 Tryz.runUnderlying37 aj) (.y hs (zld af) (.o (.call Tryz.call50 rfl (lk (m:=x.qj) hs ak) ?_)))))));rintro _ w ⟨m0,rfl,hm0,hs⟩
   refine .zn zg (.seq (.ai (.zn zg (.block ?_))))
   refine .loop (fun p:Nat×Int×bw=>⟨160,[],[(16,I (p.1:Int)),(15,I p.2.1),(14,Pt b14),(9,Pt b9),(8,Pt b8),(6,Pt b6),(3,Pt b3),(2,Pt b2)]⟩)
    (fun p w=>p.1≤r.length∧((ke x.qj r p.1).lo≤p.2.1∧p.2.1≤(ke x.qj r p.1).hi)∧HLe H5 p.2.2∧St p.2.2 w [.blk b14 [.slice at2 (ee s.sp y s.sp.st.length).length ct2],.blk b9 [.slice ar r.length cr],.blk b8 (lnC l (.slice at_ l.table.length ct) (.slice as_ l.seasons.length cs)),.blk b6 (svC s (.slice aa s.sp.st.length ca) (.slice ab s.sp.wa.length cb) (.slice ac s.rs.length cc) (.slice ad s.cs.length cd)),.blk b3 [I n1,I n2,I n3],.blk b2 [vs,v5,v4,vp,I x.y1,I x.y2,I x.y3,vn,vg,I x.m1,I x.m2,I x.z1,I x.z2,I x.z3]]) (fun p=>r.length - p.1) (0,m0,H5) bn
    ⟨Nat.zero_le _,hm0,HLe.refl _,hs.sb⟩ ?_
   rintro ⟨k,mm,H6⟩ w ⟨hk,hmk,hle6,hs⟩
   dsimp only at hk hmk hle6 hs ⊢
   have hle06:=hle05.trans hle6
   have hmb:=wH hm (fun i hi=>(hrt.leg i hi).1) (i:=k) hk
   unfold gR at hmb
   refine .seq (.ai (.z zm (.z (zfa cH) (.y hs (zld dm) (.z (cU aS) (.zn iJ (.bO rfl (fun hc93=>?_) (fun hc93=>?_))))))))
   ·refine .skip (nT (.seq (.block (.ai ?_))))
    have hkl:k<r.length:=by omega
    have hxk:=mc (l:=r) hkl
    obtain ⟨q,hq,hqw⟩:=hB.mark hkl
    obtain ⟨lo,hi,hS,hmh⟩:=hyes k hkl
    rw [hq,Int.toNat_natCast] at hS
    have hdn:=(hrt.leg k hkl).1.dense
    have hbn:=(hrt.leg k hkl).1.burn
    have hdo:=hdn
    unfold eS at hdn
    unfold gR at hbn
    have htl:=FB hok hK hqw
    have htb:=FC hok hK hS
    refine .z (zfa cH) (.y hs (zld dm) (.z zm (.ixX (enc:=Lg.c) hs (gr_.mono hle6) rfl rfl aS aN hxk rfl ?_)));intro b99 o99 hc99
    refine .q hs (bI (vs:=lgC (lg0 r k)) rfl dQ aN hc99) (.o (.alloc hs cj rfl fun b17 w hs=>?_))
    refine .o (.aH (vs:=[_,_,_,_,_,_,_]) hs rfl rfl aN fun w hs=>?_)
    refine .nil (.ai (.z (zfa bj) (.y hs (zls [_,_,_,_,_,_] aM aD) (.y hs (zls [_,_,_,_] bp aK) (.y hs (zls [_,_,_,_,_,_,_] dQ aN) (.o (.call Tryz.call47 rfl (sD (s:=s.sp) (l:=l) (x:=lg0 r k) hs (g.mono hle6).st (g.mono hle6).wa (gl.mono hle6).tb (gl.mono hle6).sn) ?_)))))));rintro _ w ⟨H7,kk,e7,hle7,rfl,h7,hs⟩
    obtain ⟨rfl,rfl⟩:=Eh hB hkl h7
    rw [hq]
    have hle67:=hle6.trans hle7
    refine .z zm (.z zex (.z zex (.z zg (.zn zg (.ai (.z (zfa bj) (.y hs (zls [_,_,_,_,_,_] aM aD) (.y hs (zls [_] eR bH) (.z zm (.o (.call Tryz.call51 rfl (ru (s:=s) (k:=q) hs (g.mono hle67).st (g.mono hle67).wa (hRT.mono hle67)) ?_)))))))))));rintro _ w ⟨H8,tl,e8,hle8,rfl,hLi,hs⟩
    obtain ⟨rfl,hHl⟩:e8=0∧HlR s (ee s.sp y s.sp.st.length) q tl:=by
     rcases hLi with h|⟨h1,h2,h3⟩
     ·exact h
     ·exact (h1 (h3.uniq (vN hok hK (tO h2 hqw))).2).elim
    obtain rfl:=hHl.uniq htl
    have hle68:=hle67.trans hle8
    have hle08:=hle05.trans hle68
    refine .z zm (.z zex (.z zex (.z zg (.zn zg (.ai (.z (zfa eC) (.y hs (zls [_,_] aR aq) (.z (zia 1 Tryz.runUnderlying37 aj) (.y hs (zld af) (.z zm (.z cq (.o (.call Tryz.call50 rfl (lk (m:=⟨(lg0 r k).dlo,(lg0 r k).dhi⟩) hs (by dsimp only;omega)) ?_)))))))))))));rintro _ w ⟨dd,rfl,hdd,hs⟩
    dsimp only at hdd
    obtain ⟨hf1,hf2⟩:=Et hok hK hdo hS hdd.1 hdd.2 (mm:=mm) ak
    have hmul:=kV (a:=si s y q) (b:=dd) (A:=200000000) (B:=100000) ak ak
    refine .zn zg (.seq (.ai (.z zm (.z gg ?_))))
    rw [decide_eq_true rfl]
    refine .z zm (.T (.z zm (.T (.z gg ?_))))
    rw [decide_eq_true rfl]
    refine .z zpF (.z zm ?_)
    refine .T (.z zm (.T (.z kM (.T (.z zm (.T (.z zm (.T (.z kM (.T (.z pQ (.zn zpF (.bO rfl (fun hc137=>?_) (fun hc137=>?_))))))))))))))
    ·refine .ai (.zn zg (.ret (rT (rB (rT (rT (rB (rT (Fin.bu E4 rfl ?_)))))))))
     exact ⟨by first|rfl|(exfalso;omega),_,by first|assumption|exact hle05.trans hle69,hs.out⟩
    ·refine .skip (nT (.seq (.ai (.y hs (zls [_,_,_,_,_,_,_,_] aI aB) (.y hs (zls [_,_,_,_] bp aK) (.y hs (zls [_] bR aW) (.z (zfa dY) (.y hs (zls [_,_] aR aq) (.z zm (.z zm (.z zm (.y hs (zls [_] eR bH) (.z (zbd [_,_,_,_] fu) (.o (.call Tryz.call32 rfl (gX (s:=s) (l:=l) (r:=r) (m:=x.qj) (x:=⟨(k:Int),dd,mm,ee s.sp y s.sp.st.length⟩) hs (g.mono hle68) (gl.mono hle68) (gr_.mono hle68) (hRT.mono hle68)) ?_)))))))))))))));rintro _ w ⟨H9,e9,hle9,rfl,h9,hs⟩
     have hne:=Es hB hq htl hf2 h9
     have hle69:=hle68.trans hle9
     refine .zn kd (.bO rfl (fun hc149=>?_) (fun hc149=>?_))
     ·refine .ai (.zn zg (.ret (rT (rB (rT (rT (rB (rT (Fin.bu E4 rfl ?_)))))))))
      exact ⟨by first|rfl|(exfalso;omega),_,by first|assumption|exact hle05.trans hle69,hs.out⟩
     ·refine .skip (nT (.region (.z zm (.z (zfa gJ) (.y hs (zls [_,_] aR aq) (.z (zia 2 Tryz.runUnderlying37 aj) (.y hs (zld af) (.z zm (.z cq (.o (.call Tryz.call50 rfl (lk (m:=⟨(lg0 r k).blo,(lg0 r k).bhi⟩) hs (by dsimp only;omega)) ?_)))))))))));rintro _ w ⟨bb,rfl,hbb,hs⟩
      dsimp only at hbb
      have hnx:=Cu hmk hbb
      refine .z ib (.z Bk (.zn zg (nB (nT (.region (.z zm (.z cq (.zn zg (nT ?_)))))))))
      exact ⟨(k+1,max 0 (mm - bb),H9),.dy rfl bV bn,⟨by dsimp only;omega,hnx,hle69,hs.sb⟩,by dsimp only;omega⟩
   ·refine .exit (xT (xT (xB (nT (.ai (.zn zg (.ret (Fin.bu E4 rfl ?_))))))))
    exact ⟨by first|rfl|(exfalso;omega),_,by first|assumption|exact hle05.trans hle69,hs.out⟩
end Go.Proofs.YteajddicacjkhaaGreat
