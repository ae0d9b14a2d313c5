/-
  Texts of these claims, joined: Ot Ou Ov Ow Ox.
-/
import Derived.Test.YteajddicacjkhaaGreatDe
namespace Go.Proofs.YteajddicacjkhaaGreat
open Go.MW
variable{H:cD}{w:World}{σ:List Ent}
theorem uP{s:Srv}{a b c d:Value}(hs:St H w σ)(g:SvM H s a b c d)(hok:eW s):
  Cl Tryz.prog 144 [svA s a b c d] w fun u w'=>∃H1 bb,HLe H H1∧u= .bool bb∧(bb=true↔¬s.sys.Sound)∧St H1 w' σ:=by
 refine Cl.o Tryz.func144 Tryz.ntmps144 ag1 ?_
 refine .aj (.bx hs fun b1 w hs=>?_)
 refine .zn zg (.aj (.y hs (zls [_,_,_,_,_,_,_,_] aN aC) (.o (.call Tryz.call205 rfl (kv (s:=s) hs g.st g.wa g.rd g.cm hok.early) ?_))));rintro v7 w ⟨H1,hle1,hS,hs⟩
 refine .o (.call Tryz.call147 rfl (k7 (s:=s.sys) hs hS) ?_);rintro _ w ⟨H2,vt,e,hle2,rfl,hC,hs⟩
 refine .z zm (.z zex (.z zex (.z zg (.zn zg (.aj (.z zm (.z gE (.zn zg (.ret (Fin.bE Tryz.results144 rfl (⟨H2,_,hle1.trans hle2,rfl,?_,hs.out⟩)))))))))))
 rcases hC with ⟨h,_⟩|⟨_,h,rfl,_⟩|⟨_,h,rfl,_⟩
 ·exact (h (s.sys.dU.2 hok.sys)).elim
 ·simp [h]
 ·simp [h]
theorem jn{s:Srv}{k:Nat}{a b c d:Value}(hs:St H w σ)(g:SvM H s a b c d)(hok:eW s):
  Cl Tryz.prog 83 [svA s a b c d,I (k:Int)] w fun u w'=>∃H1 lo hi e,HLe H H1∧u= .tuple #[.agg #[I lo,I hi],I e]∧xY s k lo hi e∧St H1 w' σ:=by
 refine Cl.o Tryz.func83 Tryz.ntmps83 ag2 ?_
 refine .aj (.bx hs fun b2 w hs=>?_)
 refine .o (.alloc hs bP rfl fun b4 w hs=>?_)
 refine .zn zg (.seq (.aj (.z zm (.zn km (.bA rfl (fun hc7=>?_) (fun hc7=>?_))))))
 ·refine .aj (.y hs (zls [_,_,_,_,_,_,_,_] aN aC) (.z zm (.z (zbd [I 1,I 0,I (k:Int)] uz) (.o (.call Tryz.call143 rfl (uQ (s:=s) (q:=⟨1,0,k⟩) hs g.st g.wa g.rd g.cm) ?_)))));rintro _ w ⟨H1,lo,hi,e,hle1,rfl,hQ,hs⟩
  refine .z zex (.z zex (.o (.aP (vs:=[_,_]) hs rfl rfl au fun w hs=>?_)))
  refine .zn zg (.ret (rT (?_)))
  exact Fin.iM [] [] hs fun w hs=>⟨_,results2 Tryz.results83 (dy (vs:=[_,_]) hs rfl aW au) rfl,H1,_,_,_,hle1,rfl,.up an hQ,hs.out⟩
 ·refine .skip (nT (.seq (.aj (.y hs (zls [_,_,_,_,_,_,_,_] aN aC) ?_))))
  obtain rfl:k=0:=by omega
  refine .o (.call Tryz.call144 rfl (uP (s:=s) hs g hok) ?_);rintro _ w ⟨H1,bb,hle1,rfl,hF,hs⟩
  refine .nil (.cond rfl (fun hc15=>?_) (fun hc15=>?_))
  ·refine .aj (.z (zbd [_,_] bU) (.o (.aP (vs:=[_,_]) hs rfl rfl au fun w hs=>?_)))
   refine .zn zg (.ret (rT (?_)))
   exact Fin.iM [] [] hs fun w hs=>⟨_,results2 Tryz.results83 (dy (vs:=[_,_]) hs rfl aW au) rfl,H1,_,_,_,hle1,rfl,.fls rfl hok (hF.1 (by simpa using hc15)),hs.out⟩
  ·refine .skip (nT (.aj (.z (zbd [_,_] bU) (.o (.aP (vs:=[_,_]) hs rfl rfl au fun w hs=>?_)))))
   refine .zn zg (.ret ?_)
   exact Fin.iM [] [] hs fun w hs=>⟨_,results2 Tryz.results83 (dy (vs:=[_,_]) hs rfl aW au) rfl,H1,_,_,_,hle1,rfl,.zero rfl hok (Classical.byContradiction fun h=>by rw [hF.2 h] at hc15;cases hc15),hs.out⟩
theorem jo{n d:Int}(hs:St H w σ)(hn: -4000000000000≤n∧n≤4000000000000)(hd: -100000≤d∧d≤100000):Cl Tryz.prog 52 [I n,I d] w fun v w'=>v=I (mV n d)∧St H w' σ:=by
 have hm:=j5 (a:=n) (b:=d) (A:=4000000000000) (B:=100000) an an
 refine Cl.o Tryz.func52 Tryz.ntmps52 ag2 ?_
 refine .aj (.zn zg (.aj (.z zm (.z zm (.z kd (.o (.call Tryz.call119 rfl (ma hs an an) ?_)))))));rintro _ w ⟨rfl,hs⟩
 refine .zn zg (.ret (Fin.bE Tryz.results52 rfl ?_))
 exact ⟨rfl,hs⟩
theorem ku{lo hi x y:Int}(hs:St H w σ)(h1: -200000000≤lo∧lo≤200000000)(h2: -200000000≤hi∧hi≤200000000)(hd:gD x y):
  Cl Tryz.prog 85 [.agg #[I lo,I hi],.agg #[I x,I y]] w fun v w'=>v= .agg #[I (o9 lo x y),I (pa hi x y)]∧St H w' σ:=by
 unfold gD at hd
 refine Cl.o Tryz.func85 Tryz.ntmps85 ag2 ?_
 refine .aj (.bx hs fun b2 w hs=>?_)
 refine .bx hs fun b3 w hs=>?_
 refine .o (.alloc hs bP rfl fun b4 w hs=>?_)
 refine .nil (.seq (.draw mix rfl hs fun w hs=>?_))
 refine .zw 0 rfl (zfa bG) ?_;refine .y 1 rfl hs af ?_;refine .z 2 rfl (zfa bG) ?_;refine .y 3 rfl hs af ?_;refine .z 5 rfl (zfa bG) ?_;refine .y 6 rfl hs af ?_;refine .z 7 rfl (zfa cf) ?_;refine .y 8 rfl hs af ?_;refine .z 11 rfl (zfa cf) ?_;refine .y 12 rfl hs af ?_
 refine .zw 13 rfl (zfa bG) ?_;refine .y 14 rfl hs af ?_;refine .z 16 rfl (zfa cf) ?_;refine .y 17 rfl hs af ?_;refine .z 18 rfl (zfa cf) ?_;refine .y 19 rfl hs af ?_
 refine .E 4 hs ?_
 refine .call Tryz.call52 rfl (jo hs an an) ?_;rintro _ w ⟨rfl,hs⟩
 refine .go (.E 9 hs ?_)
 refine .call Tryz.call52 rfl (jo hs an an) ?_;rintro _ w ⟨rfl,hs⟩
 refine .go (.zw 10 rfl zR (.E 15 hs ?_))
 refine .call Tryz.call52 rfl (jo hs an an) ?_;rintro _ w ⟨rfl,hs⟩
 refine .go (.E 20 hs ?_)
 refine .call Tryz.call52 rfl (jo hs an an) ?_;rintro _ w ⟨rfl,hs⟩
 refine .go (.zw 21 rfl A5 ?_);refine .z 22 rfl (zbd [_,_] bU) ?_
 refine .E 23 hs ?_
 refine .aP (vs:=[_,_]) hs rfl rfl au ?_;intro w hs
 refine .go (.D hs (.ret ?_))
 exact Fin.iM [] [] hs fun w hs=>⟨_,results1 Tryz.results85 (dy (vs:=[_,_]) hs rfl aW au),rfl,hs.out⟩
theorem tz{m:Rng}{lo hi:Int}(hs:St H w σ):Cl Tryz.prog 84 [.agg #[I m.lo,I m.hi],.agg #[I lo,I hi]] w fun v w'=>v=I (yH m lo hi)∧St H w' σ:=by
 refine Cl.o Tryz.func84 Tryz.ntmps84 ag2 ?_
 refine .aj (.bx hs fun b2 w hs=>?_)
 refine .bx hs fun b3 w hs=>?_
 refine .zn zg (.seq (.aj (.z (zfa cf) (.y hs (zld af) (.z (zfa bG) (.y hs (zld af) (.zn nF (.bA rfl (fun hc9=>?_) (fun hc9=>?_)))))))))
 ·refine .aj (.zn zg (.ret (rT (Fin.bE Tryz.results84 rfl ?_))))
  exact ⟨by unfold yH;simp [*],hs.out⟩
 ·refine .skip (nT (.seq (.aj (.z (zfa bG) (.y hs (zld af) (.z (zfa cf) (.y hs (zld af) (.zn km (.bA rfl (fun hc14=>?_) (fun hc14=>?_))))))))))
  ·refine .aj (.zn zg (.ret (rT (Fin.bE Tryz.results84 rfl ?_))))
   exact ⟨by unfold yH;simp [*],hs.out⟩
  ·refine .skip (nT (.aj (.zn zg (.ret (Fin.bE Tryz.results84 rfl ?_)))))
   exact ⟨by unfold yH;simp [*],hs.out⟩
theorem qE{v:Value}{as_:List Int}{n:Int}(hs:St H w σ)(hr:RI H v as_):Cl Tryz.prog 87 [v,I n] w fun u w'=>u= .bool (decide (n∈as_))∧St H w' σ:=by
 obtain ⟨a,c,rfl⟩:=RI.shape hr
 have hl:=(RI.len hr).2.2
 refine Cl.o Tryz.func87 Tryz.ntmps87 ag2 ?_
 refine .aj (.zn zg (.seq (.aj (.zn zg (.block ?_)))))
 refine .loop (fun k:Nat=>⟨18,[],[(5,I (k:Int)),(0,.slice a as_.length c),(1,I n)]⟩)
  (fun k w=>k≤as_.length∧(∀i<k,gi as_ i≠n)∧St H w σ) (fun k=>as_.length - k) 0 aU
  ⟨Nat.zero_le _,fun i hi=>by omega,hs⟩ ?_
 rintro k w ⟨hk,hno,hs⟩
 refine .seq (.aj (.z zm (.z zm (.z (dc ae) (.zn fM (.bA rfl (fun hc9=>?_) (fun hc9=>?_)))))))
 ·refine .skip (nT (.seq (.block (.aj ?_))))
  have hkl:k<as_.length:=by omega
  refine .z zm (.z zm (.ixY hs hr rfl rfl ae ai (bB (l:=as_) (i:=k) an) da ?_));intro b14 o14 hc14
  refine .q hs (aJ rfl af hc14) (.z zm (.zn fm (.bA rfl (fun hc17=>?_) (fun hc17=>?_))))
  ·refine .aj (.zn zg (.ret (rB (rT (rT (rB (rT (Fin.bE Tryz.results87 rfl ?_))))))))
   exact ⟨by rw [decide_eq_true (by rw [←hc17];exact List.mem_of_getElem? (bB hkl))],hs⟩
  ·refine .skip (nB (nT (.region (.z zm (.z cK (.zn zg (nT ?_)))))))
   exact ⟨k+1,.cJ rfl cq aU,⟨an,fun i hi=>by
    by_cases e:i=k
    ·subst e;exact hc17
    ·exact hno i an,hs⟩,an⟩
 ·refine .exit (xT (xT (xB (nT (.aj (.zn zg (.ret (Fin.bE Tryz.results87 rfl ?_))))))))
  have h0:¬n∈as_:=fun h=>by
   obtain ⟨i,hi⟩:=List.getElem?_of_mem h
   have hlt:=(List.getElem?_eq_some_iff.1 hi).1
   rw [bB hlt] at hi
   exact hno i an (Option.some.inj hi)
  exact ⟨by rw [decide_eq_false h0],hs⟩
theorem nZ{s:Srv}{l:Lns}{r:List Lg}{m:Rng}{a b c d vt vs vlg:Value}(hs:St H w σ)(g:SvM H s a b c d)(gl:LnM H l vt vs)(gr_:RLg H vlg r):
  Cl Tryz.prog 81 [svA s a b c d,lnA l vt vs,.agg #[vlg],.agg #[I m.lo,I m.hi]] w fun u w'=>∃H1 v ks e,HLe H H1∧u= .tuple #[v,I e]∧RI H1 v ks∧ta s l r m ks e∧St H1 w' σ:=by
 obtain ⟨alg,clg,rfl⟩:=gr_.shape
 refine Cl.o Tryz.func81 Tryz.ntmps81 ag4 ?_
 refine .aj (.bx hs fun b4 w hs=>?_)
 refine .bx hs fun b5 w hs=>?_
 refine .bx hs fun b6 w hs=>?_
 refine .bx hs fun b7 w hs=>?_
 refine .z zg (.zn zg (.aj (.y hs (zls [_,_,_,_,_,_,_,_] aN aC) (.o (.call Tryz.call123 rfl (ob (s:=s) hs g.st g.wa g.rd g.cm) ?_)))));rintro _ w ⟨H1,e,hle1,rfl,hC,hs⟩
 refine .zn zg (.seq (.aj (.z zm (.zn gE (.dV rfl (fun hc18=>?_) (fun hc18=>?_))))))
 ·refine .aj (.z zm (.z zg (.zn zg (.ret (rT (Fin.gL yd rfl rfl ?_))))))
  exact ⟨H1,_,[],_,hle1,rfl,RS.nil H1 1 none 0,.bad hC hc18,hs.out⟩
 ·refine .skip (nT (.seq (.aj (.y hs (zls [_,_,_,_] bw aV) ?_))))
  have hok:eW s:=hC.dU.1 an
  have hsp:=hok.early.1
  refine .o (.call Tryz.call20 rfl (iV hs (gl.mono hle1)) ?_);rintro _ w ⟨f,rfl,hL,hs⟩
  refine .zn gE (.dV rfl (fun hc22=>?_) (fun hc22=>?_))
  ·refine .aj (.z zg (.zn zg (.ret (rT (Fin.gL yd rfl rfl ?_)))))
   have hl:=hL.resolve_left fun h=>hc22 h.2
   exact ⟨H1,_,[],_,hle1,rfl,RS.nil H1 1 none 0,.lines hok hl.1,hs.out⟩
  ·refine .skip (nT (.seq (.aj (.y hs (zls [_] cA bp) ?_))))
   have hl:iK l:=(hL.resolve_right fun h=>by omega).1
   refine .o (.call Tryz.call22 rfl (pc hs (gr_.mono hle1)) ?_);rintro _ w ⟨q,rfl,hR,hs⟩
   refine .zn gE (.dV rfl (fun hc25=>?_) (fun hc25=>?_))
   ·refine .aj (.z zg (.zn zg (.ret (rT (Fin.gL yd rfl rfl ?_)))))
    have hrt:=hR.resolve_left fun h=>hc25 h.2
    exact ⟨H1,_,[],_,hle1,rfl,RS.nil H1 1 none 0,.route hok hl hrt.1,hs.out⟩
   ·refine .skip (nT (.seq (.aj (.y hs (zls [_,_] aW au) ?_))))
    have hrt:ub r:=(hR.resolve_right fun h=>by omega).1
    have hn:=hrt.many
    refine .o (.call Tryz.call53 rfl (nj hs) ?_);rintro _ w ⟨rfl,hs⟩
    refine .zn fZ (.cond rfl (fun hc28=>?_) (fun hc28=>?_))
    ·refine .aj (.z zg (.zn zg (.ret (rT (Fin.gL yd rfl rfl ?_)))))
     exact ⟨H1,_,[],_,hle1,rfl,RS.nil H1 1 none 0,.uv hok hl hrt (by simpa using hc28),hs.out⟩
    ·refine .skip (nT (.aj (.zn zg (.seq (.aj (.zn zg (.block ?_)))))))
     have hm:iy m.lo m.hi:=by simpa using hc28
     refine .loop (fun p:Nat×List Int×Value×Ent=>⟨56,[],[(12,I (p.1:Int)),(11,p.2.2.1),(6,Pt b6),(5,Pt b5),(4,Pt b4)]⟩)
      (fun p w=>p.1≤r.length∧p.2.1.length=p.1∧(∀i<p.1,xX s.sp.wa l (lg0 r i) (gi p.2.1 i) 0)∧cZ 1 p.2.2.1 (Is p.2.1) p.2.2.2∧St H1 w (p.2.2.2:: .blk b6 [.slice alg r.length clg]:: .blk b5 (lnC l vt vs):: .blk b4 (svC s a b c d)::σ)) (fun p=>r.length - p.1) (0,[],_,.nul) aU
      ⟨Nat.zero_le _,rfl,fun i hi=>by dsimp only at hi;omega,.nil 1 none,hs.nul.sb⟩ ?_
     rintro ⟨k,ks,vo,en⟩ w ⟨hk,hkl,hks,hO,hs⟩
     dsimp only at hk hkl hks hO hs ⊢
     obtain ⟨ao,lo',co,rfl,hlo⟩:=hO.shape
     refine .seq (.aj (.z zm (.z (zfa bI) (.y hs (zld cu) (.z (dc aF) (.zn fM (.bA rfl (fun hc33=>?_) (fun hc33=>?_))))))))
     ·refine .skip (nT (.seq (.block (.seq (.draw mix rfl hs fun w hs=>?_)))))
      have hklt:k<r.length:=by omega
      have hx:=j6 (l:=r) hklt
      refine .zw 0 rfl (zfa bn) ?_;refine .ys 1 rfl hs [_,_,_,_,_,_] bg aM ?_;refine .ys 2 rfl hs [_,_,_,_] bw aV ?_;refine .z 3 rfl (zfa bI) ?_;refine .y 4 rfl hs cu ?_;refine .z 5 rfl zm ?_
      refine .ixX (enc:=Lg.c) (i:=6) hs rfl aD .none (gr_.mono hle1) rfl rfl aF aQ hx rfl ?_;intro b43 o43 hc43
      refine .r (i:=7) hs rfl aD .none (cj (vs:=lgC (lg0 r k)) rfl gC aQ hc43) ?_
      refine .E 8 hs ?_
      refine .call Tryz.call116 rfl (tx (s:=s.sp) (x:=lg0 r k) hs (g.mono hle1).st (g.mono hle1).wa (gl.mono hle1) hsp hl (hrt.leg k hklt).1) ?_;rintro _ w ⟨n,e,rfl,hLw,hs⟩
      refine .go (.zw 9 rfl zm ?_);refine .z 10 rfl zex ?_;refine .z 11 rfl zex ?_;refine .z 12 rfl zg ?_;refine .z 13 rfl zg ?_;refine .D hs ?_
      refine .seq (.aj (.z zm (.zn gE (.dV rfl (fun hc49=>?_) (fun hc49=>?_)))))
      ·refine .aj (.z zm (.z zg (.zn zg (.ret (rT (rB (rT (rT (rB (rT (Fin.gL yd rfl rfl ?_)))))))))))
       exact ⟨H1,_,[],_,hle1,rfl,RS.nil H1 1 none 0,.low hok hl hrt hm hklt (fun j hj=>⟨_,hks j hj⟩) hLw hc49,hs.out⟩
      ·refine .skip (nT (.region (.z zm (.z zm (.o (.buildSlice (cells:=Is [n]) hs db rfl aD fun b53 w hs=>?_))))))
       refine .o (.append (ys:=Is [n]) hs cM rfl rfl hO (.own .here rfl rfl) (iL _) (fun l h=>by simp [Is] at h;omega) ?_);intro v54 en54 w hO2 hs
       rw [←List.map_append] at hO2
       refine .zn zg (nB (nT (.region (.z zm (.z cK (.zn zg (nT ?_)))))))
       obtain rfl:e=0:=by omega
       exact ⟨(k+1,ks++[n],v54,en54),.cJ rfl cq aU,⟨by dsimp only;omega,by simp [hkl],fun i hi=>by
        dsimp only at hi ⊢
        by_cases e:i=k
        ·subst e;rw [ld,if_neg an,if_pos an];exact hLw
        ·rw [ld,if_pos an];exact hks i an,hO2,hs.sb⟩,by dsimp only;omega⟩
     ·refine .exit (xT (xT (xB (nT (.aj (.z zm (.z zg (.zn zg (.ret (Fin.gL yd rfl rfl ?_))))))))))
      obtain rfl:k=r.length:=by omega
      obtain ⟨H2,hle2,hRk,hs⟩:=hO.dS an hs .here
      exact ⟨H2,_,ks,_,hle1.trans hle2,rfl,hRk,.ok hok hl hrt hm hkl hks,hs.out⟩
set_option maxHeartbeats 1000000 in
theorem mI{s:Srv}{l:Lns}{r:List Lg}{m:Rng}{a b c d vt vs vlg:Value}(hs:St H w σ)(g:SvM H s a b c d)(gl:LnM H l vt vs)(gr_:RLg H vlg r):
  Cl Tryz.prog 25 [svA s a b c d,lnA l vt vs,.agg #[vlg],.agg #[I m.lo,I m.hi]] w fun u w'=>∃H1 v as_ e,HLe H H1∧u= .tuple #[v,I e]∧RI H1 v as_∧Ff s l r m as_ e∧St H1 w' σ:=by
 obtain ⟨alg,clg,rfl⟩:=gr_.shape
 refine Cl.o Tryz.func25 Tryz.ntmps25 ag4 ?_
 refine .aj (.bx hs fun b4 w hs=>?_)
 refine .bx hs fun b5 w hs=>?_
 refine .bx hs fun b6 w hs=>?_
 refine .bx hs fun b7 w hs=>?_
 refine .z zg (.zn zg (.aj (.y hs (zls [_,_,_,_,_,_,_,_] aN aC) (.y hs (zls [_,_,_,_] bw aV) (.y hs (zls [_] cA bp) (.y hs (zls [_,_] aW au) (.o (.call Tryz.call81 rfl (nZ (s:=s) (l:=l) (m:=m) hs g gl gr_) ?_))))))));rintro _ w ⟨H1,vk,ks,e,hle1,rfl,hK,hB,hs⟩
 refine .z zm (.z zex (.z zex (.z zg (.zn zg (.seq (.aj (.z zm (.zn gE (.dV rfl (fun hc26=>?_) (fun hc26=>?_))))))))))
 ·refine .aj (.z zm (.z zg (.zn zg (.ret (rT (Fin.gL Tryz.results25 rfl rfl ?_))))))
  exact ⟨H1,_,[],_,hle1,rfl,RS.nil H1 1 none 0,.bad hB hc26,hs.out⟩
 ·refine .skip (nT (.aj (.y hs (zls [_] cA bp) (.y hs (zls [_,_] aW au) ?_))))
  obtain rfl:e=0:=by omega
  obtain ⟨hok,hl,hrt,hm,hkl,hlow⟩:=hB.ok'
  have hn:=hrt.many
  have hml:=kB m r r.length
  refine .o (.call Tryz.call82 rfl (tw (r:=r) (m:=m) hs (gr_.mono hle1) hrt hm) ?_);rintro vm w ⟨H2,hle2,hMs,hs⟩
  have hle02:=hle1.trans hle2
  replace hK:=RS.mono hK hle2
  obtain ⟨ak,ck,rfl⟩:=RI.shape hK
  obtain ⟨am,cm,rfl⟩:=hMs.shape
  refine .zn zg (.aj (.zn zg (.seq (.aj (.zn zg (.block ?_))))))
  refine .loop (fun p:Nat×List Int×Value×Ent×cD=>⟨66,[],[(14,I (p.1:Int)),(13,p.2.2.1),(12,.slice am (msL m r r.length).length cm),(10,.slice ak ks.length ck),(6,Pt b6),(4,Pt b4)]⟩)
   (fun p w=>p.1≤r.length∧HLe H2 p.2.2.2.2∧p.2.1.length=p.1∧(∀i<p.1,∃lo hi,lS s (gi ks i).toNat (lg0 r i).dlo (lg0 r i).dhi lo hi 0∧gi p.2.1 i=yH (lI m r i) lo hi)∧(0<p.1→s.sys.Sound)∧cZ 1 p.2.2.1 (Is p.2.1) p.2.2.2.1∧St p.2.2.2.2 w (p.2.2.2.1:: .blk b6 [.slice alg r.length clg]:: .blk b4 (svC s a b c d)::σ)) (fun p=>r.length - p.1) (0,[],_,.nul,H2) aU
   ⟨Nat.zero_le _,HLe.refl _,rfl,fun i hi=>by dsimp only at hi;omega,fun h=>by dsimp only at h;omega,.nil 1 none,hs.nul.sb⟩ ?_
  rintro ⟨k,as_,vo,en,H3⟩ w ⟨hk,hle3,hal,has,hsd,hO,hs⟩
  dsimp only at hk hle3 hal has hsd hO hs ⊢
  obtain ⟨ao,lo',co,rfl,hlo⟩:=hO.shape
  have hle03:=hle02.trans hle3
  refine .seq (.aj (.z zm (.z zm (.z (dc ae) (.zn fM (.bA rfl (fun hc34=>?_) (fun hc34=>?_)))))))
  ·refine .skip (nT (.seq (.block ?_)))
   have hklt:k<r.length:=by omega
   have hx:=j6 (l:=r) hklt
   have hxm:=zj m r (k:=r.length) (i:=k) an
   have hdn:=(hrt.leg k hklt).1.dense
   obtain ⟨q,hq,hqw⟩:=hB.mark hklt
   refine .cut (fun fs w=>∃H4 lo hi e b15,ke fs ⟨66,[],[(16,I e),(15,Pt b15),(14,I (k:Int)),(13,.slice ao lo' co),(12,.slice am (msL m r r.length).length cm),(10,.slice ak ks.length ck),(6,Pt b6),(4,Pt b4)]⟩∧HLe H3 H4∧xY s q lo hi e∧St H4 w (.blk b15 [I lo,I hi]::en:: .blk b6 [.slice alg r.length clg]:: .blk b4 (svC s a b c d)::σ)) ?_ ?_
   ·refine .draw mix rfl hs fun w hs=>?_
    refine .ys 0 rfl hs [_,_,_,_,_,_,_,_] aN aC ?_;refine .z 1 rfl zm ?_;refine .z 2 rfl zm ?_
    refine .ixX (enc:=fun x=>[I x]) (i:=3) hs rfl aD .none (RS.mono hK hle3) rfl rfl ae ai (bB (l:=ks) (i:=k) an) rfl ?_;intro b41 o41 hc41;replace hc41:=bL.one hc41
    refine .zv 4 rfl hs (nx af) (.e2 (i:=5) (j:=9) aD rfl rfl rfl rfl .none .none hs ?_ ?_)
    ·rw [hq]
     refine .call Tryz.call83 rfl (jn (s:=s) hs (g.mono hle03) hok) ?_;rintro _ w ⟨H4,lo,hi,e,hle4,rfl,hL,hs⟩
     refine .go (.zw 6 rfl zm ?_);refine .z 7 rfl zex ?_;refine .z 8 rfl zex ?_
     refine .E 9 hs ?_
     refine .alloc hs bP rfl ?_;intro b15 w hs
     refine .go (.E 10 hs ?_)
     refine .aP (vs:=[_,_]) hs rfl rfl au ?_;intro w hs
     refine .go (.zw 11 rfl zg ?_);refine .D hs ?_
     exact nT ⟨H4,lo,hi,e,b15,aU,hle4,hL,hs.sb⟩
    ·refine .alloc hs bP rfl ?_;intro b15 w hs
     refine .go (.E 5 hs ?_)
     rw [hq]
     refine .call Tryz.call83 rfl (jn (s:=s) hs (g.mono hle03) hok) ?_;rintro _ w ⟨H4,lo,hi,e,hle4,rfl,hL,hs⟩
     refine .go (.zw 6 rfl zm ?_);refine .z 7 rfl zex ?_;refine .z 8 rfl zex ?_
     refine .E 10 hs ?_
     refine .aP (vs:=[_,_]) hs rfl rfl au ?_;intro w hs
     refine .go (.zw 11 rfl zg ?_);refine .D hs ?_
     exact nT ⟨H4,lo,hi,e,b15,aU,hle4,hL,hs.sb⟩
   ·rintro fs w ⟨H4,lo,hi,e,b15,hfs,hle4,hL,hs⟩
    refine WE.sub ?_ hfs
    clear hfs
    have hle04:=hle03.trans hle4
    have hLb:=hL.bd
    refine .seq (.aj (.z zm (.zn gE (.dV rfl (fun hc47=>?_) (fun hc47=>?_)))))
    ·refine .aj (.z zm (.z zg (.zn zg (.ret (rT (rB (rT (rT (rB (rT (Fin.gL Tryz.results25 rfl rfl ?_)))))))))))
     exact ⟨H4,_,[],_,hle04,rfl,RS.nil H4 1 none 0,by rcases hL.err hok hqw with h|h;exact (hc47 h.1).elim;rw [h.1];exact .fls hB h.2.1,hs.out⟩
    ·refine .skip (nT (.draw mix rfl hs fun w hs=>?_))
     obtain rfl:e=0:=by omega
     have hS:lS s q (lg0 r k).dlo (lg0 r k).dhi _ _ 0:= .ok hL
     refine .zw 0 rfl zm ?_;refine .z 1 rfl zm ?_;refine .z 2 rfl zm ?_
     refine .ixX (enc:=Rng.c) (i:=3) hs rfl aD .none (RS.mono hMs (hle3.trans hle4)) rfl rfl ek au hxm rfl ?_;intro b52 o52 hc52
     refine .r (i:=4) hs rfl aD .none (cj (vs:=(lI m r k).c) rfl aW au hc52) ?_
     refine .ys 5 rfl hs [_,_] aW au ?_;refine .z 6 rfl (zfa bI) ?_;refine .y 7 rfl hs cu ?_;refine .z 8 rfl zm ?_
     refine .ixX (enc:=Lg.c) (i:=9) hs rfl aD .none (gr_.mono hle04) rfl rfl aF aQ hx rfl ?_;intro b58 o58 hc58
     refine .zw 10 rfl (zfa fq) (.r (i:=11) hs rfl aD .none (cj (vs:=[I (lg0 r k).dlo,I (lg0 r k).dhi]) rfl aW au (hc58.sub 3 _)) ?_)
     refine .E 12 hs ?_
     refine .call Tryz.call85 rfl (ku hs an an hdn) ?_;rintro _ w ⟨rfl,hs⟩
     refine .go (.E 13 hs ?_)
     refine .call Tryz.call84 rfl (tz (m:=lI m r k) hs) ?_;rintro _ w ⟨rfl,hs⟩
     refine .go (.E 14 hs ?_)
     refine .buildSlice (cells:=Is [yH (lI m r k) (o9 lo (lg0 r k).dlo (lg0 r k).dhi) (pa hi (lg0 r k).dlo (lg0 r k).dhi)]) hs db rfl aD ?_;intro b63 w hs
     refine .go (.E 15 hs ?_)
     refine .append (ys:=Is [yH (lI m r k) (o9 lo (lg0 r k).dlo (lg0 r k).dhi) (pa hi (lg0 r k).dlo (lg0 r k).dhi)]) hs cM rfl rfl hO (.own .here rfl rfl) (iL _) (fun l h=>by simp [Is] at h;omega) ?_;intro v64 en64 w hO2 hs
     rw [←List.map_append] at hO2
     refine .go (.zw 16 rfl zg ?_);refine .D hs ?_
     refine nB (nT (.region (.z zm (.z cK (.zn zg (nT ?_))))))
     exact ⟨(k+1,as_++[yH (lI m r k) (o9 lo (lg0 r k).dlo (lg0 r k).dhi) (pa hi (lg0 r k).dlo (lg0 r k).dhi)],v64,en64,H4),.cJ rfl cq aU,⟨by dsimp only;omega,hle3.trans hle4,by simp [hal],fun i hi=>by
      dsimp only at hi ⊢
      by_cases e:i=k
      ·subst e;exact ⟨_,_,by rw [hq,Int.toNat_natCast];exact hS,by rw [ld,if_neg an,if_pos an]⟩
      ·rw [ld,if_pos an];exact has i an,fun _=>(hS.err hok hqw).elim (fun h=>h.2) (fun h=>by omega),hO2,hs.sb⟩,by dsimp only;omega⟩
  ·refine .exit (xT (xT (xB (nT (.aj (.z zm (.z zg (.zn zg (.ret (Fin.gL Tryz.results25 rfl rfl ?_))))))))))
   obtain rfl:k=r.length:=by omega
   obtain ⟨H4,hle4,hRk,hs⟩:=hO.dS an hs .here
   exact ⟨H4,_,as_,_,hle03.trans hle4,rfl,hRk,.ok hB (hsd an) hal has,hs.out⟩
theorem uL{s:Srv}{l:Lns}{r:List Lg}{m:Rng}{a b c d vt vs vlg:Value}(hs:St H w σ)(g:SvM H s a b c d)(gl:LnM H l vt vs)(gr_:RLg H vlg r):
  Cl Tryz.prog 27 [svA s a b c d,lnA l vt vs,.agg #[vlg],.agg #[I m.lo,I m.hi]] w fun u w'=>∃H1 n e,HLe H H1∧u= .tuple #[I n,I e]∧GQ s l r m n e∧St H1 w' σ:=by
 refine Cl.o Tryz.func27 Tryz.ntmps27 ag4 ?_
 refine .aj (.bx hs fun b4 w hs=>?_)
 refine .bx hs fun b5 w hs=>?_
 refine .bx hs fun b6 w hs=>?_
 refine .bx hs fun b7 w hs=>?_
 refine .z zg (.zn zg (.aj (.y hs (zls [_,_,_,_,_,_,_,_] aN aC) (.y hs (zls [_,_,_,_] bw aV) (.y hs (zls [_] cA bp) (.y hs (zls [_,_] aW au) (.o (.call Tryz.call25 rfl (mI (s:=s) (l:=l) (m:=m) hs g gl gr_) ?_))))))));rintro _ w ⟨H1,v,as_,e,hle1,rfl,hR,hA,hs⟩
 refine .z zm (.z zex (.z zex (.z zg (.zn zg (.seq (.aj (.z zm (.zn gE (.dV rfl (fun hc21=>?_) (fun hc21=>?_))))))))))
 ·refine .aj (.z zm (.z zg (.zn zg (.ret (rT (Fin.gL Tryz.results27 rfl rfl ?_))))))
  exact ⟨H1,_,_,hle1,rfl,.bad hA hc21,hs.out⟩
 ·refine .skip (nT (.seq (.aj (.z zm ?_))))
  obtain rfl:e=0:=by omega
  have hJ:=GQ.ok hA
  unfold Az at hJ
  refine .o (.call Tryz.call87 rfl (qE hs hR) ?_);rintro _ w ⟨rfl,hs⟩
  refine .nil (.cond rfl (fun hc24=>?_) (fun hc24=>?_))
  ·refine .aj (.z zg (.zn zg (.ret (rT (Fin.gL Tryz.results27 rfl rfl ?_)))))
   rw [if_pos (by simpa using hc24)] at hJ
   exact ⟨H1,_,_,hle1,rfl,hJ,hs.out⟩
  ·refine .skip (nT (.seq (.aj (.z zm (.o (.call Tryz.call87 rfl (qE hs hR) ?_))))));rintro _ w ⟨rfl,hs⟩
   refine .nil (.cond rfl (fun hc26=>?_) (fun hc26=>?_))
   ·refine .aj (.z zg (.zn zg (.ret (rT (Fin.gL Tryz.results27 rfl rfl ?_)))))
    rw [if_neg (by simpa using hc24),if_pos (by simpa using hc26)] at hJ
    exact ⟨H1,_,_,hle1,rfl,hJ,hs.out⟩
   ·refine .skip (nT (.aj (.z zg (.zn zg (.ret (Fin.gL Tryz.results27 rfl rfl ?_))))))
    rw [if_neg (by simpa using hc24),if_neg (by simpa using hc26)] at hJ
    exact ⟨H1,_,_,hle1,rfl,hJ,hs.out⟩
set_option maxHeartbeats 1000000 in
theorem wF{s:Srv}{l:Lns}{r:List Lg}{a b c d vt vs vlg:Value}(hs:St H w σ)(g:SvM H s a b c d)(gl:LnM H l vt vs)(gr_:RLg H vlg r):
  Cl Tryz.prog 29 [svA s a b c d,lnA l vt vs,.agg #[vlg]] w fun u w'=>∃H1 n e,HLe H H1∧u= .tuple #[I n,I e]∧xW s l r n e∧St H1 w' σ:=by
 obtain ⟨alg,clg,rfl⟩:=gr_.shape
 refine Cl.o Tryz.func29 Tryz.ntmps29 ag3 ?_
 refine .aj (.bx hs fun b3 w hs=>?_)
 refine .bx hs fun b4 w hs=>?_
 refine .bx hs fun b5 w hs=>?_
 refine .z zg (.zn zg (.aj (.y hs (zls [_,_,_,_,_,_,_,_] aN aC) (.y hs (zls [_,_,_,_] bw aV) (.y hs (zls [_] cA bp) (.z (zbd [I 0,I 0] bU) (.o (.call Tryz.call81 rfl (nZ (s:=s) (l:=l) (m:=⟨0,0⟩) hs g gl gr_) ?_))))))));rintro _ w ⟨H1,vk,ks,e,hle1,rfl,hK,hB,hs⟩
 refine .z zm (.z zex (.z zex (.z zg (.zn zg (.seq (.aj (.z zm (.zn gE (.dV rfl (fun hc25=>?_) (fun hc25=>?_))))))))))
 ·refine .aj (.z zm (.z zg (.zn zg (.ret (rT (Fin.gL Tryz.results29 rfl rfl ?_))))))
  exact ⟨H1,_,_,hle1,rfl,.bad hB hc25,hs.out⟩
 ·refine .skip (nT (.aj (.zn zg (.aj (.zn zg (.seq (.aj (.zn zg (.block ?_)))))))))
  obtain rfl:e=0:=by omega
  obtain ⟨hok,hl,hrt,hm,hkl,hlow⟩:=hB.ok'
  have hn:=hrt.many
  obtain ⟨ak,ck,rfl⟩:=RI.shape hK
  refine .loop (fun p:Nat×Int×(Nat→Int)×cD=>⟨72,[],[(12,I (p.1:Int)),(11,I (bj (fun i=>(lg0 r i).blo) p.1)),(10,I p.2.1),(8,.slice ak ks.length ck),(5,Pt b5),(3,Pt b3)]⟩)
   (fun p w=>p.1≤r.length∧HLe H1 p.2.2.2∧(∀i<p.1,(∃hi,lS s (gi ks i).toNat (lg0 r i).dlo (lg0 r i).dhi (p.2.2.1 i) hi 0)∧0≤p.2.2.1 i)∧p.2.1=tr p.2.2.1 (fun i=>(lg0 r i).blo) p.1∧((-300000000≤p.2.1∧p.2.1≤1000000000000)∧0≤bj (fun i=>(lg0 r i).blo) p.1∧bj (fun i=>(lg0 r i).blo) p.1≤p.1*1000000000000)∧(0<p.1→s.sys.Sound)∧St p.2.2.2 w (.blk b5 [.slice alg r.length clg]:: .blk b3 (svC s a b c d)::σ)) (fun p=>r.length - p.1) (0,1000000000000,fun _=>0,H1) aU
   ⟨Nat.zero_le _,HLe.refl _,fun i hi=>by dsimp only at hi;omega,rfl,by simp [bj],fun h=>by dsimp only at h;omega,hs.sb⟩ ?_
  rintro ⟨k,best,dd,H3⟩ w ⟨hk,hle3,hds,hbe,hbd,hsd,hs⟩
  dsimp only at hk hle3 hds hbe hbd hsd hs ⊢
  have hle03:=hle1.trans hle3
  refine .seq (.aj (.z zm (.z zm (.z (dc ae) (.zn fM (.bA rfl (fun hc30=>?_) (fun hc30=>?_)))))))
  ·refine .skip (nT (.seq (.block ?_)))
   have hklt:k<r.length:=by omega
   have hx:=j6 (l:=r) hklt
   have hdn:=(hrt.leg k hklt).1.dense
   have hbn:=(hrt.leg k hklt).1.burn
   unfold iy at hbn
   obtain ⟨q,hq,hqw⟩:=hB.mark hklt
   have hsS:bj (fun i=>(lg0 r i).blo) (k+1)=bj (fun i=>(lg0 r i).blo) k+(lg0 r k).blo:=rfl
   have hbe':=hbe
   generalize hSe:bj (fun i=>(lg0 r i).blo) k=S at*
   refine .cut (fun fs w=>∃H4 lo hi e b13,ke fs ⟨72,[],[(14,I e),(13,Pt b13),(12,I (k:Int)),(11,I S),(10,I best),(8,.slice ak ks.length ck),(5,Pt b5),(3,Pt b3)]⟩∧HLe H3 H4∧xY s q lo hi e∧St H4 w (.blk b13 [I lo,I hi]:: .blk b5 [.slice alg r.length clg]:: .blk b3 (svC s a b c d)::σ)) ?_ ?_
   ·refine .draw mix rfl hs fun w hs=>?_
    refine .ys 0 rfl hs [_,_,_,_,_,_,_,_] aN aC ?_;refine .z 1 rfl zm ?_;refine .z 2 rfl zm ?_
    refine .ixX (enc:=fun x=>[I x]) (i:=3) hs rfl aD .none (RS.mono hK hle3) rfl rfl ae ai (bB (l:=ks) (i:=k) an) rfl ?_;intro b37 o37 hc37;replace hc37:=bL.one hc37
    refine .zv 4 rfl hs (nx af) (.e2 (i:=5) (j:=9) aD rfl rfl rfl rfl .none .none hs ?_ ?_)
    ·rw [hq]
     refine .call Tryz.call83 rfl (jn (s:=s) hs (g.mono hle03) hok) ?_;rintro _ w ⟨H4,lo,hi,e,hle4,rfl,hL,hs⟩
     refine .go (.zw 6 rfl zm ?_);refine .z 7 rfl zex ?_;refine .z 8 rfl zex ?_
     refine .E 9 hs ?_
     refine .alloc hs bP rfl ?_;intro b13 w hs
     refine .go (.E 10 hs ?_)
     refine .aP (vs:=[_,_]) hs rfl rfl au ?_;intro w hs
     refine .go (.zw 11 rfl zg ?_);refine .D hs ?_
     exact nT ⟨H4,lo,hi,e,b13,aU,hle4,hL,hs.sb⟩
    ·refine .alloc hs bP rfl ?_;intro b13 w hs
     refine .go (.E 5 hs ?_)
     rw [hq]
     refine .call Tryz.call83 rfl (jn (s:=s) hs (g.mono hle03) hok) ?_;rintro _ w ⟨H4,lo,hi,e,hle4,rfl,hL,hs⟩
     refine .go (.zw 6 rfl zm ?_);refine .z 7 rfl zex ?_;refine .z 8 rfl zex ?_
     refine .E 10 hs ?_
     refine .aP (vs:=[_,_]) hs rfl rfl au ?_;intro w hs
     refine .go (.zw 11 rfl zg ?_);refine .D hs ?_
     exact nT ⟨H4,lo,hi,e,b13,aU,hle4,hL,hs.sb⟩
   ·rintro fs w ⟨H4,lo,hi,e,b13,hfs,hle4,hL,hs⟩
    refine WE.sub ?_ hfs
    clear hfs
    have hle04:=hle03.trans hle4
    have hLb:=hL.bd
    refine .seq (.aj (.z zm (.zn gE (.dV rfl (fun hc43=>?_) (fun hc43=>?_)))))
    ·refine .aj (.z zm (.z zg (.zn zg (.ret (rT (rB (rT (rT (rB (rT (Fin.gL Tryz.results29 rfl rfl ?_)))))))))))
     exact ⟨H4,_,_,hle04,rfl,by rcases hL.err hok hqw with h|h;exact (hc43 h.1).elim;rw [h.1];exact .fls hB h.2.1,hs.out⟩
    ·refine .skip (nT (.cut (fun fs w=>∃b15,ke fs ⟨72,[],[(15,Pt b15),(12,I (k:Int)),(11,I S),(10,I best),(8,.slice ak ks.length ck),(5,Pt b5),(3,Pt b3)]⟩∧St H4 w (.blk b15 [I (o9 lo (lg0 r k).dlo (lg0 r k).dhi),I (pa hi (lg0 r k).dlo (lg0 r k).dhi)]:: .blk b5 [.slice alg r.length clg]:: .blk b3 (svC s a b c d)::σ)) ?_ ?_))
     ·refine .draw mix rfl hs fun w hs=>?_
      refine .ys 0 rfl hs [_,_] aW au ?_;refine .z 1 rfl (zfa bI) ?_;refine .y 2 rfl hs cu ?_;refine .z 3 rfl zm ?_
      refine .ixX (enc:=Lg.c) (i:=4) hs rfl aD .none (gr_.mono hle04) rfl rfl aF aQ hx rfl ?_;intro b49 o49 hc49
      refine .zw 5 rfl (zfa fq) (.r (i:=6) hs rfl aD .none (cj (vs:=[I (lg0 r k).dlo,I (lg0 r k).dhi]) rfl aW au (hc49.sub 3 _)) ?_)
      refine .e2 (i:=7) (j:=8) aD rfl rfl rfl rfl .none .none hs ?_ ?_
      ·refine .call Tryz.call85 rfl (ku hs an an hdn) ?_;rintro _ w ⟨rfl,hs⟩
       refine .go (.E 8 hs ?_)
       refine .alloc hs bP rfl ?_;intro b15 w hs
       refine .go (.E 9 hs ?_)
       refine .aP (vs:=[_,_]) hs rfl rfl au ?_;intro w hs
       refine .go (.D hs ?_)
       exact nT ⟨b15,aU,hs.sb⟩
      ·refine .alloc hs bP rfl ?_;intro b15 w hs
       refine .go (.E 7 hs ?_)
       refine .call Tryz.call85 rfl (ku hs an an hdn) ?_;rintro _ w ⟨rfl,hs⟩
       refine .go (.E 9 hs ?_)
       refine .aP (vs:=[_,_]) hs rfl rfl au ?_;intro w hs
       refine .go (.D hs ?_)
       exact nT ⟨b15,aU,hs.sb⟩
     ·rintro fs w ⟨b15,hfs,hs⟩
      refine WE.sub ?_ hfs
      clear hfs
      obtain rfl:e=0:=by omega
      have hS:lS s q (lg0 r k).dlo (lg0 r k).dhi _ _ 0:= .ok hL
      have hSb:=hS.bd hdn
      have hsd':s.sys.Sound:=(hS.err hok hqw).elim (fun h=>h.2) (fun h=>by omega)
      generalize o9 lo (lg0 r k).dlo (lg0 r k).dhi=L at*
      generalize pa hi (lg0 r k).dlo (lg0 r k).dhi=U at*
      refine .seq (.aj (.z (zfa bG) (.y hs (zld af) (.zn fM (.bA rfl (fun hc55=>?_) (fun hc55=>?_))))))
      ·refine .aj (.z zg (.zn zg (.ret (rT (rB (rT (rT (rB (rT (Fin.gL Tryz.results29 rfl rfl ?_))))))))))
       exact ⟨H4,_,_,hle04,rfl,.none hB hsd' hklt (by rw [hq,Int.toNat_natCast];exact hS) hc55,hs.out⟩
      ·refine .skip (nT (.aj (.z zm (.z (zfa bG) (.y hs (zld af) (.z zm (.z cK (.z zR (.zn zg (.region (.z zm (.z (zfa bI) (.y hs (zld cu) (.z zm (.ixX (enc:=Lg.c) hs (gr_.mono hle04) rfl rfl aF aQ hx rfl ?_)))))))))))))));intro b66 o66 hc66
       refine .z (zfa fp) (.z (zfa bG) (.q hs (aJ rfl af (hc66.get 5 rfl)) (.z cK (.zn zg (nB (nT (.region (.z zm (.z cK (.zn zg (nT ?_)))))))))))
       exact ⟨(k+1,min best (L+S),Fm dd k L,H4),.cJ rfl cq (.cons (by show some (I _)=some (I _);rw [hsS]) aU),⟨by dsimp only;omega,hle3.trans hle4,fun i hi=>by
        dsimp only at hi ⊢
        by_cases e:i=k
        ·subst e;rw [tn,hq,Int.toNat_natCast];exact ⟨⟨_,hS⟩,an⟩
        ·rw [tm _ _ an];exact hds i an,by
        dsimp only
        simp only [tr]
        rw [tn,hSe,hbe',nH (d':=dd) fun i hi=>tm dd L hi],by dsimp only;rw [hsS];omega,fun _=>hsd',hs.sb⟩,by dsimp only;omega⟩
  ·refine .exit (xT (xT (xB (nT (.aj (.z zm (.z zg (.zn zg (.ret (Fin.gL Tryz.results29 rfl rfl ?_))))))))))
   obtain rfl:k=r.length:=by omega
   rw [hbe]
   exact ⟨H3,_,_,hle03,rfl,.ok hB (hsd an) hds,hs.out⟩
theorem dj{n m:Int}(hs:St H w σ)(hm:1≤m∧m≤4611686018427387904):Cl Tryz.prog 36 [I n,I m] w fun u w'=>u=I (s8 n m)∧St H w' σ:=by
 have h1:=Int.tmod_lt_of_pos n (show 0<m by omega)
 have h2:=Int.lt_tmod_of_pos n (show 0<m by omega)
 refine Cl.o Tryz.func36 Tryz.ntmps36 ag2 ?_
 refine .aj (.zn zg (.aj (.z zm (.z zm (.z A4 (.z zm (.z cK (.z zm (.z A4 (.zn zg (.ret (Fin.bE Tryz.results36 rfl ?_))))))))))))
 exact ⟨rfl,hs⟩
theorem dX{v:Value}{l:List Int}{i n:Int}(hs:St H w σ)(hr:RI H v l)(hi:0≤i)(hn:1≤n∧n≤1000000):Cl Tryz.prog 141 [v,I i,I n] w fun u w'=>∃x,u=I x∧(0≤x∧x<n)∧St H w' σ:=by
 obtain ⟨a,c,rfl⟩:=RI.shape hr
 refine Cl.o Tryz.func141 Tryz.ntmps141 ag3 ?_
 refine .aj (.zn zg (.seq (.aj (.z zm (.z (dc ae) (.zn fm (.bA rfl (fun hc9=>?_) (fun hc9=>?_))))))))
 ·refine .aj (.zn zg (.ret (rT (Fin.bE Tryz.results141 rfl ?_))))
  exact ⟨0,rfl,an,hs⟩
 ·refine .skip (nT (.aj (.z zm (.z zm (.z zm (.z (dc ae) (.z A4 ?_)))))))
  have h1:=Int.tmod_lt_of_pos i (show 0<(l.length:Int) by omega)
  have h2:=Int.tmod_nonneg (l.length:Int) hi
  refine .ixX (enc:=fun x=>[I x]) hs hr rfl rfl ae ai (bB (l:=l) (i:=(i.tmod l.length).toNat) an) an ?_;intro b15 o15 hc15;replace hc15:=bL.one hc15
  refine .y hs (zld af) (.z zm (.o (.call fl rfl (dj hs an) ?_)));rintro _ w ⟨rfl,hs⟩
  refine .zn zg (.ret (Fin.bE Tryz.results141 rfl ?_))
  exact ⟨_,rfl,mc _ hn.1,hs⟩
theorem jV{a b c d e f fr:Int}(hs:St H w σ)(hf:0≤fr∧fr≤1000000):Cl Tryz.prog 142 [.agg #[I a,I b,I c,I d,I e,I f],I fr] w fun u w'=>∃x,u=lgA x∧E6 x fr∧St H w' σ:=by
 have m1:=mc a (m:=3) an
 have m2:=mc b (m:=40) an
 have m3:=mc c (m:=60) an
 have m4:=mc d (m:=100) an
 have m5:=mc (IntKind.i64.wrap (d.tdiv 100)) (m:=40) an
 have m6:=mc e (m:=500) an
 have m7:=mc f (m:=200) an
 refine Cl.o Tryz.func142 Tryz.ntmps142 ag2 ?_
 refine .aj (.bx hs fun b2 w hs=>?_)
 refine .o (.alloc hs dB rfl fun b4 w hs=>?_)
 refine .nil (.cut (fun fs w=>∃b5,ke fs ⟨50,[],[(5,Pt b5),(4,Pt b4),(2,Pt b2)]⟩∧St H w (.blk b5 [I (1+s8 a 3),I (fr+s8 b 40),I 0,I 0,I 0,I 0,I 0]:: .blk b4 [I 0,I 0,I 0,I 0,I 0,I 0,I 0]:: .blk b2 [I a,I b,I c,I d,I e,I f]::σ)) ?_ ?_)
 ·refine .draw mix rfl hs fun w hs=>?_
  refine .zw 0 rfl (zia 0 eR ai) (.y 1 rfl hs af ?_);refine .z 4 rfl zm ?_
  refine .zw 5 rfl (zia 1 eR ai) (.zv 6 rfl hs (nx af) (.e2 (i:=2) (j:=10) aD rfl rfl rfl rfl .none .none hs ?_ ?_))
  ·refine .call fl rfl (dj hs an) ?_;rintro _ w ⟨rfl,hs⟩
   refine .go (.zw 3 rfl cK (.e2 (i:=7) (j:=10) aD rfl rfl rfl rfl .none .none hs ?_ ?_))
   ·refine .call fl rfl (dj hs an) ?_;rintro _ w ⟨rfl,hs⟩
    refine .go (.zw 8 rfl cK ?_);refine .z 9 rfl (zbd [_,_,_,_,_,_,_] mn) ?_
    refine .E 10 hs ?_
    refine .alloc hs dB rfl ?_;intro b5 w hs
    refine .go (.E 11 hs ?_)
    refine .aP (vs:=[_,_,_,_,_,_,_]) hs rfl rfl aQ ?_;intro w hs
    refine .go (.D hs ?_)
    exact nT ⟨b5,aU,hs.sb⟩
   ·refine .alloc hs dB rfl ?_;intro b5 w hs
    refine .go (.E 7 hs ?_)
    refine .call fl rfl (dj hs an) ?_;rintro _ w ⟨rfl,hs⟩
    refine .go (.zw 8 rfl cK ?_);refine .z 9 rfl (zbd [_,_,_,_,_,_,_] mn) ?_
    refine .E 11 hs ?_
    refine .aP (vs:=[_,_,_,_,_,_,_]) hs rfl rfl aQ ?_;intro w hs
    refine .go (.D hs ?_)
    exact nT ⟨b5,aU,hs.sb⟩
  ·refine .alloc hs dB rfl ?_;intro b5 w hs
   refine .go (.E 2 hs ?_)
   refine .call fl rfl (dj hs an) ?_;rintro _ w ⟨rfl,hs⟩
   refine .go (.zw 3 rfl cK (.E 7 hs ?_))
   refine .call fl rfl (dj hs an) ?_;rintro _ w ⟨rfl,hs⟩
   refine .go (.zw 8 rfl cK ?_);refine .z 9 rfl (zbd [_,_,_,_,_,_,_] mn) ?_
   refine .E 11 hs ?_
   refine .aP (vs:=[_,_,_,_,_,_,_]) hs rfl rfl aQ ?_;intro w hs
   refine .go (.D hs ?_)
   exact nT ⟨b5,aU,hs.sb⟩
 ·rintro fs w ⟨b5,hfs,hs⟩
  refine WE.sub ?_ hfs
  clear hfs
  refine .seq (.draw mix rfl hs fun w hs=>?_)
  refine .zw 0 rfl (zfa fu) ?_;refine .y 1 rfl hs af ?_
  refine .zw 2 rfl (zia 2 eR ai) (.zv 3 rfl hs (nx af) (.E 4 hs ?_))
  refine .call fl rfl (dj hs an) ?_;rintro _ w ⟨rfl,hs⟩
  refine .go (.zw 5 rfl cK ?_);refine .z 6 rfl (zfa ft) ?_
  refine .E 7 hs ?_
  refine .store hs rfl rfl ai ?_;intro w hs
  refine .go (.D hs (.aj (.z (zia 3 eR ai) (.y hs (zld af) (.o (.call fl rfl (dj hs an) ?_))))));rintro _ w ⟨rfl,hs⟩
  refine .z cK (.zn zg (.aj (.z zm (.z zm (.z (zia 3 eR ai) (.y hs (zld af) (.z Ir (.o (.call fl rfl (dj hs an) ?_)))))))));rintro _ w ⟨rfl,hs⟩
  refine .z cK (.z (zbd [_,_] bU) (.z (zfa fq) (.o (.aP (vs:=[_,_]) hs rfl rfl au fun w hs=>?_))))
  refine .nil (.seq (.draw mix rfl hs fun w hs=>?_))
  refine .zw 0 rfl (zia 4 eR ai) (.zv 1 rfl hs (nx af) (.zw 3 rfl (zia 4 eR ai) (.zv 4 rfl hs (nx af) (.zw 6 rfl (zia 5 eR ai) (.zv 7 rfl hs (nx af) (.E 2 hs ?_))))))
  refine .call fl rfl (dj hs an) ?_;rintro _ w ⟨rfl,hs⟩
  refine .go (.E 5 hs ?_)
  refine .call fl rfl (dj hs an) ?_;rintro _ w ⟨rfl,hs⟩
  refine .go (.E 8 hs ?_)
  refine .call fl rfl (dj hs an) ?_;rintro _ w ⟨rfl,hs⟩
  refine .go (.zw 9 rfl cK ?_);refine .z 10 rfl (zbd [_,_] bU) ?_;refine .z 11 rfl (zfa fp) ?_
  refine .E 12 hs ?_
  refine .aP (vs:=[_,_]) hs rfl rfl au ?_;intro w hs
  refine .go (.D hs (.aj (.y hs (zls [_,_,_,_,_,_,_] gC aQ) (.o (.aP (vs:=[_,_,_,_,_,_,_]) hs rfl rfl aQ fun w hs=>?_)))))
  refine .nil (.ret ?_)
  exact Fin.iM [] [] hs fun w hs=>⟨_,results1 Tryz.results142 (dy (vs:=lgC ⟨1+s8 a 3,fr+s8 b 40,fr+s8 b 40+s8 c 60,950+s8 d 100,950+s8 d 100+s8 (IntKind.i64.wrap (d.tdiv 100)) 40,s8 e 500,s8 e 500+s8 f 200⟩) hs rfl gC aQ),⟨1+s8 a 3,fr+s8 b 40,fr+s8 b 40+s8 c 60,950+s8 d 100,950+s8 d 100+s8 (IntKind.i64.wrap (d.tdiv 100)) 40,s8 e 500,s8 e 500+s8 f 200⟩,rfl,⟨by dsimp only;omega,by dsimp only;omega,by dsimp only;omega,by dsimp only;omega,by dsimp only;omega,by dsimp only;omega,by dsimp only;omega⟩,hs.out⟩
theorem qZ{v:Value}{ns:List Int}(hs:St H w σ)(hr:RI H v ns):
  Cl Tryz.prog 77 [v] w fun u w'=>∃l vt vs e1 e2,u=lnA l vt vs∧Jw l∧cZ 2 vt (fbc l.table).flatten e1∧cZ 4 vs (snc l.seasons).flatten e2∧St H w' (e2::e1::σ):=by
 refine Cl.o Tryz.func77 Tryz.ntmps77 ag1 ?_
 refine .aj (.o (.alloc hs jk rfl fun b2 w hs=>?_))
 refine .nil (.aj (.z zm (.o (.call jQ rfl (dX hs hr an an) ?_))));rintro _ w ⟨x6,rfl,g6,hs⟩
 refine .z cK (.z zm (.o (.call jQ rfl (dX hs hr an an) ?_)));rintro _ w ⟨x9,rfl,g9,hs⟩
 refine .z cK (.z (zbd [I (100+x6),I (200+x9),.slice none 0 0,.slice none 0 0] sX rfl aD) (.o (.alloc hs jk rfl fun b3 w hs=>?_)))
 refine .o (.aP (vs:=[_,_,_,_]) hs rfl rfl aV fun w hs=>?_)
 refine .nil (.aj (.z zm (.o (.call jQ rfl (dX hs hr an an) ?_))));rintro _ w ⟨x13,rfl,g13,hs⟩
 refine .z (zbd [_,_] ik) (.z zm (.o (.call jQ rfl (dX hs hr an an) ?_)));rintro _ w ⟨x16,rfl,g16,hs⟩
 refine .z cK (.z zm (.o (.call jQ rfl (dX hs hr an an) ?_)));rintro _ w ⟨x19,rfl,g19,hs⟩
 refine .z (zbd [_,_] ik) (.z zm (.o (.call jQ rfl (dX hs hr an an) ?_)));rintro _ w ⟨x22,rfl,g22,hs⟩
 refine .z (zbd [_,_] ik) (.o (.buildSlice (cells:=(fbc [⟨100,x13⟩,⟨400+x16,x19⟩,⟨1000,x22⟩]).flatten) hs oQ rfl aD fun b24 w hs=>?_))
 refine .z (zfa cU) (.o (.store hs rfl rfl Tryz.sizeOf22 fun w hs=>?_))
 refine .nil (.seq (.aj (.zn zg (.block ?_))))
 replace hs:St H w (.blk b24 (fbc [⟨100,x13⟩,⟨400+x16,x19⟩,⟨1000,x22⟩]).flatten:: .blk b3 [I (100+x6),I (200+x9),.slice (some ⟨b24,0,none⟩) 3 3,.slice none 0 0]:: .blk b2 [I 0,I 0,.slice none 0 0,.slice none 0 0]::σ):=hs
 refine .loop (fun p:Nat×List Ssn×Value×Ent=>⟨62,[],[(4,I (p.1:Int)),(3,Pt b3),(2,Pt b2),(0,v)]⟩)
  (fun p w=>p.1≤4∧p.2.1.length=p.1∧(∀s∈p.2.1,BH s)∧cZ 4 p.2.2.1 (snc p.2.1).flatten p.2.2.2∧St H w (p.2.2.2:: .blk b24 (fbc [⟨100,x13⟩,⟨400+x16,x19⟩,⟨1000,x22⟩]).flatten:: .blk b3 [I (100+x6),I (200+x9),.slice (some ⟨b24,0,none⟩) 3 3,p.2.2.1]:: .blk b2 [I 0,I 0,.slice none 0 0,.slice none 0 0]::σ)) (fun p=>4 - p.1) (0,[],_,.nul) aU
  ⟨by dsimp only;omega,rfl,fun s hs=>(by cases hs),.nil 4 none,hs.nul⟩ ?_
 rintro ⟨k,ss,vo,en⟩ w ⟨hk,hkl,hss,hO,hs⟩
 dsimp only at hk hkl hss hO hs ⊢
 obtain ⟨ao,co,rfl⟩:=hO.jz (Ab _) an
 rw [lU] at hO hs
 refine .seq (.aj (.z zm (.z zm (.o (.call jQ rfl (dX hs hr an an) ?_)))));rintro _ w ⟨x28,rfl,g28,hs⟩
 refine .zn fM (.bA rfl (fun hc29=>?_) (fun hc29=>?_))
 ·refine .skip (nT (.seq (.block (.draw mix rfl hs fun w hs=>?_))))
  refine .zw 0 rfl (zfa de) ?_;refine .y 1 rfl hs eM ?_;refine .z 2 rfl zm ?_;refine .z 3 rfl zm ?_;refine .z 4 rfl kd ?_;refine .z 5 rfl cK ?_;refine .z 8 rfl zm ?_;refine .z 9 rfl zm ?_;refine .z 10 rfl kd ?_;refine .z 11 rfl cK ?_
  refine .zw 14 rfl zm ?_;refine .z 15 rfl zm ?_;refine .z 16 rfl kd ?_;refine .z 17 rfl cK ?_;refine .z 20 rfl zm ?_;refine .z 21 rfl zm ?_;refine .z 22 rfl kd ?_;refine .z 23 rfl cK ?_
  refine .E 6 hs ?_
  refine .call jQ rfl (dX hs hr an an) ?_;rintro _ w ⟨x38,rfl,g38,hs⟩
  refine .go (.zw 7 rfl cK (.E 12 hs ?_))
  refine .call jQ rfl (dX hs hr an an) ?_;rintro _ w ⟨x44,rfl,g44,hs⟩
  refine .go (.zw 13 rfl cK (.E 18 hs ?_))
  refine .call jQ rfl (dX hs hr an an) ?_;rintro _ w ⟨x50,rfl,g50,hs⟩
  refine .go (.zw 19 rfl cK (.E 24 hs ?_))
  refine .call jQ rfl (dX hs hr an an) ?_;rintro _ w ⟨x56,rfl,g56,hs⟩
  refine .go (.zw 25 rfl (zbd (Ssn.c ⟨1+x38,1+x44,1+x50,x56⟩) qN rfl aD) (.E 26 hs ?_))
  refine .buildSlice (cells:=Ssn.c ⟨1+x38,1+x44,1+x50,x56⟩) hs mm rfl aD ?_;intro b58 w hs
  refine .go (.E 27 hs ?_)
  refine .append (ys:=Ssn.c ⟨1+x38,1+x44,1+x50,x56⟩) hs lR rfl rfl hO (.own .here rfl rfl) (by simp [Ssn.c,Value.oneCell']) (fun l' h=>by rw [cz _ (Ab _),lU] at h;omega) ?_;intro v59 en59 w hO2 hs
  rw [←FH] at hO2
  obtain ⟨a59,c59,rfl⟩:=hO2.jz (Ab _) an
  refine .go (.zw 28 rfl (zfa de) (.E 29 hs ?_))
  refine .store hs rfl rfl Tryz.sizeOf23 ?_;intro w hs
  refine .go (.D hs (nB (nT (.region (.z zm (.z cK (.zn zg (nT ?_))))))))
  exact ⟨(k+1,ss++[⟨1+x38,1+x44,1+x50,x56⟩],_,en59),.cJ rfl cq aU,⟨by dsimp only;omega,by simp [hkl],fun s hs=>by
   rcases List.mem_append.1 hs with h|h
   ·exact hss s h
   ·rw [List.mem_singleton] at h;subst h;exact ⟨by dsimp only;omega,by dsimp only;omega,by dsimp only;omega,by dsimp only;omega⟩,hO2,hs.sb⟩,by dsimp only;omega⟩
 ·refine .exit (xT (xT (xB (nT (.aj (.y hs (zls [_,_,_,_] bw aV) (.o (.aP (vs:=[_,_,_,_]) hs rfl rfl aV fun w hs=>?_))))))))
  refine .nil (.ret ?_)
  exact Fin.iM [] [] hs fun w hs=>⟨_,results1 Tryz.results77 (dy (vs:=[I (100+x6),I (200+x9),.slice (some ⟨b24,0,none⟩) 3 3,.slice ao ss.length co]) hs rfl bw aV),⟨100+x6,200+x9,[⟨100,x13⟩,⟨400+x16,x19⟩,⟨1000,x22⟩],ss⟩,_,_,.blk b24 (fbc [⟨100,x13⟩,⟨400+x16,x19⟩,⟨1000,x22⟩]).flatten,en,rfl,⟨⟨by dsimp only;omega,by dsimp only;omega,cq,by dsimp only;omega,fun i hi=>by
   have h:i=0∨i=1∨i=2:=by simp at hi;omega
   rcases h with rfl|rfl|rfl
   ·exact ⟨by simp [fb0],by simp [fb0];omega,cq⟩
   ·exact ⟨by simp [fb0];omega,by simp [fb0];omega,by simp [fb0];omega⟩
   ·exact ⟨by simp [fb0],by simp [fb0];omega,by simp [fb0];omega⟩,hss⟩,by dsimp only;omega,rfl,⟨rfl,rfl⟩,by dsimp only;omega⟩,.full rfl,hO,hs.sb⟩
set_option maxHeartbeats 1000000 in
theorem qY{v:Value}{ns:List Sx}(hs:St H w σ)(hr:RS H 6 v (ns.map Sx.v)):
  Cl Tryz.prog 78 [v] w fun u w'=>∃r vr en,u= .agg #[vr]∧Jv r∧cZ 7 vr (lgc r).flatten en∧St H w' (en::σ):=by
 obtain ⟨a,c,rfl⟩:=hr.shape
 have hlr:=hr.len
 rw [List.length_map] at hr ⊢
 refine Cl.o Tryz.func78 Tryz.ntmps78 ag1 ?_
 refine .aj (.o (.alloc hs ki rfl fun b2 w hs=>?_))
 refine .nil (.aj (.o (.alloc hs ki rfl fun b3 w hs=>?_)))
 refine .nil (.aj (.zn zg (.seq (.aj (.zn zg (.block ?_))))))
 refine .loop (fun p:Nat×Int×List Lg×Value×Ent=>⟨40,[],[(5,I (p.1:Int)),(4,I p.2.1),(3,Pt b3),(2,Pt b2),(0,.slice a ns.length c)]⟩)
  (fun p w=>(p.1≤4∧p.1≤ns.length)∧p.2.2.1.length=p.1∧(0≤p.2.1∧p.2.1≤p.1*100)∧(0<p.1→(lg0 p.2.2.1 (p.1 - 1)).to=p.2.1)∧(∀i<p.1,(BK (lg0 p.2.2.1 i)∧(0<i→(lg0 p.2.2.1 (i - 1)).to≤(lg0 p.2.2.1 i).fr))∧(lg0 p.2.2.1 i).bhi≤1000)∧cZ 7 p.2.2.2.1 (lgc p.2.2.1).flatten p.2.2.2.2∧St H w (p.2.2.2.2:: .blk b3 [p.2.2.2.1]:: .blk b2 [.slice none 0 0]::σ)) (fun p=>4 - p.1) (0,0,[],_,.nul) aU
  ⟨by dsimp only;omega,rfl,by dsimp only;omega,fun h=>(by dsimp only at h;omega),fun i hi=>(by dsimp only at hi;omega),.nil 7 none,hs.nul⟩ ?_
 rintro ⟨k,fr,r,vo,en⟩ w ⟨hk,hkl,hfr,hto,hok,hO,hs⟩
 dsimp only at hk hkl hfr hto hok hO hs ⊢
 obtain ⟨ao,co,rfl⟩:=hO.jz (Bq _) an
 rw [lV] at hO hs
 refine .seq (.aj (.z zm (.z zm (.z (dc Tryz.runUnderlying40) (.z fM (.z zm (.gX (t':=11) rfl (fun hb11=>?_) (fun hb11=>?_))))))))
 ·refine .T (.z zm (.T (.z fM (.zn zpT (.bA rfl (fun hc14=>?_) (fun hc14=>?_))))))
  ·refine .skip (nT (.seq (.block (.aj ?_))))
   obtain ⟨q,hx⟩:=nth (l:=ns) (k:=k) an
   refine .z zm (.z zm (.ixX (enc:=Sx.v) hs hr rfl rfl Tryz.runUnderlying40 Tryz.sizeOf96 hx rfl ?_));intro b19 o19 hc19
   refine .q hs (cj (vs:=q.v) rfl Tryz.isAgg96 Tryz.sizeOf96 hc19) (.z zm (.o (.call Tryz.call142 rfl (jV (a:=q.a) (b:=q.b) (c:=q.c) (d:=q.d) (e:=q.e) (f:=q.f) hs an) ?_)));rintro _ w ⟨x,rfl,hM,hs⟩
   have hMo:=hM.ok an
   have hM2:=hM.fr
   have hM3:=hM.to
   have hM6:=hM.blo
   have hM7:=hM.bhi
   refine .o (.alloc hs dB rfl fun b6 w hs=>?_)
   refine .o (.aP (vs:=[_,_,_,_,_,_,_]) hs rfl rfl aQ fun w hs=>?_)
   refine .nil (.aj (.z (zfa ft) (.y hs (zld af) (.zn zg (.region (.z (zfa bI) (.y hs (zld cu) (.y hs (zls [_,_,_,_,_,_,_] gC aQ) (.o (.buildSlice (cells:=lgC x) hs lz rfl aD fun b28 w hs=>?_))))))))))
   refine .o (.append (ys:=x.c) hs oS rfl rfl hO (.own .here rfl rfl) (by simp [Lg.c,Value.oneCell']) (fun l' h=>by rw [cz _ (Bq _),lV] at h;omega) ?_);intro v29 en29 w hO2 hs
   rw [←Gp] at hO2
   obtain ⟨a29,c29,rfl⟩:=hO2.jz (Bq _) an
   refine .z (zfa bI) (.o (.store hs rfl rfl nV fun w hs=>?_))
   refine .nil (nB (nT (.region (.z zm (.z cK (.zn zg (nT ?_)))))))
   exact ⟨(k+1,x.to,r++[x],_,en29),.cJ rfl cq aU,⟨by dsimp only;omega,by simp [hkl],by dsimp only;omega,fun _=>by dsimp only;rw [sz,if_neg an,if_pos an],fun i hi=>by
    dsimp only at hi ⊢
    by_cases e:i=k
    ·subst e
     rw [sz,if_neg an,if_pos an,sz]
     refine ⟨⟨hMo,fun h=>?_⟩,an⟩
     rw [if_pos an]
     have:=hto h;omega
    ·rw [sz,if_pos an,sz,if_pos an]
     exact hok i an,hO2,hs.sb⟩,by dsimp only;omega⟩
  ·refine .exit (xT (xT (xB (nT (.seq (.aj (.z (zfa bI) (.y hs (zld cu) (.z (dc aF) (.zn fm (.bA rfl (fun hc34=>?_) (fun hc34=>?_))))))))))))
   ·refine .region ?_
    obtain rfl:k=0:=by omega
    obtain rfl:r=[]:=List.length_eq_zero_iff.1 hkl
    refine .q hs (ze (vs:=[]) (cells:=[I 0,I 0,I 0,I 0,I 0,I 0]) Tryz.zeroValue96 rfl eR ai rfl) (.o (.call Tryz.call142 rfl (jV (a:=0) (b:=0) (c:=0) (d:=0) (e:=0) (f:=0) hs an) ?_));rintro _ w ⟨x,rfl,hM,hs⟩
    have hM6:=hM.blo
    have hM7:=hM.bhi
    refine .o (.buildSlice (cells:=(lgc [x]).flatten) hs lz rfl aD fun b37 w hs=>?_)
    refine .z (zfa bI) (.o (.store hs rfl rfl nV fun w hs=>?_))
    refine .nil (nT (.aj (.y hs (zls [_] cA bp) (.o (.aP (vs:=[_]) hs rfl rfl bp fun w hs=>?_)))))
    refine .nil (.ret ?_)
    exact Fin.iM [] [] hs fun w hs=>⟨_,results1 Tryz.results78 (dy (vs:=[.slice (some ⟨b37,0,none⟩) 1 1]) hs rfl cA bp),[x],_,.blk b37 (lgc [x]).flatten,rfl,⟨⟨cq,fun i hi=>by
     obtain rfl:i=0:=by simp at hi;omega
     exact ⟨hM.ok an,fun h=>by omega⟩⟩,cq,fun i hi=>by
     obtain rfl:i=0:=by simp at hi;omega
     show x.bhi≤1000;omega⟩,.full rfl,hs.sb⟩
   ·refine .skip (nT (.aj (.y hs (zls [_] cA bp) (.o (.aP (vs:=[_]) hs rfl rfl bp fun w hs=>?_)))))
    refine .nil (.ret ?_)
    exact Fin.iM [] [] hs fun w hs=>⟨_,results1 Tryz.results78 (dy (vs:=[.slice ao r.length co]) hs rfl cA bp),r,_,en,rfl,⟨⟨an,fun i hi=>(hok i an).1⟩,an,fun i hi=>(hok i an).2⟩,hO,hs.sb⟩
 ·refine .Fs 2 4 true (.zn zpF (.cF (.exit (xT (xT (xB (nT (.seq (.aj (.z (zfa bI) (.y hs (zld cu) (.z (dc aF) (.zn fm (.bA rfl (fun hc34=>?_) (fun hc34=>?_)))))))))))))))
  ·refine .region ?_
   obtain rfl:k=0:=by omega
   obtain rfl:r=[]:=List.length_eq_zero_iff.1 hkl
   refine .q hs (ze (vs:=[]) (cells:=[I 0,I 0,I 0,I 0,I 0,I 0]) Tryz.zeroValue96 rfl eR ai rfl) (.o (.call Tryz.call142 rfl (jV (a:=0) (b:=0) (c:=0) (d:=0) (e:=0) (f:=0) hs an) ?_));rintro _ w ⟨x,rfl,hM,hs⟩
   have hM6:=hM.blo
   have hM7:=hM.bhi
   refine .o (.buildSlice (cells:=(lgc [x]).flatten) hs lz rfl aD fun b37 w hs=>?_)
   refine .z (zfa bI) (.o (.store hs rfl rfl nV fun w hs=>?_))
   refine .nil (nT (.aj (.y hs (zls [_] cA bp) (.o (.aP (vs:=[_]) hs rfl rfl bp fun w hs=>?_)))))
   refine .nil (.ret ?_)
   exact Fin.iM [] [] hs fun w hs=>⟨_,results1 Tryz.results78 (dy (vs:=[.slice (some ⟨b37,0,none⟩) 1 1]) hs rfl cA bp),[x],_,.blk b37 (lgc [x]).flatten,rfl,⟨⟨cq,fun i hi=>by
    obtain rfl:i=0:=by simp at hi;omega
    exact ⟨hM.ok an,fun h=>by omega⟩⟩,cq,fun i hi=>by
    obtain rfl:i=0:=by simp at hi;omega
    show x.bhi≤1000;omega⟩,.full rfl,hs.sb⟩
  ·refine .skip (nT (.aj (.y hs (zls [_] cA bp) (.o (.aP (vs:=[_]) hs rfl rfl bp fun w hs=>?_)))))
   refine .nil (.ret ?_)
   exact Fin.iM [] [] hs fun w hs=>⟨_,results1 Tryz.results78 (dy (vs:=[.slice ao r.length co]) hs rfl cA bp),r,_,en,rfl,⟨⟨an,fun i hi=>(hok i an).1⟩,an,fun i hi=>(hok i an).2⟩,hO,hs.sb⟩
set_option maxHeartbeats 4000000 in
theorem tA{vs v5 v4 vp vn vg:Value}{sl pk ns:List Int}{fs5:List F5}{fs4:List F4}{sx:List Sx}{y1 y2 y3 m1 m2 z1 z2 z3:Int}(hs:St H w σ)(g1:RI H vs sl)(g2:RF5 H v5 fs5)(g3:RF4 H v4 fs4)(g4:RI H vp pk)(g5:RI H vn ns)(g6:RS H 6 vg (sx.map Sx.v)):
  Cl Tryz.prog 23 [.agg #[vs,v5,v4,vp,I y1,I y2,I y3,vn,vg,I m1,I m2,I z1,I z2,I z3]] w fun u w'=>∃H1 s a b c d l vt vs r vl,HLe H H1∧u= .tuple #[svA s a b c d,lnA l vt vs,.agg #[vl]]∧SvM H1 s a b c d∧LnM H1 l vt vs∧RLg H1 vl r∧Spl s∧St H1 w' σ:=by
 obtain ⟨avs,cvs,rfl⟩:=RI.shape g1
 obtain ⟨av5,cv5,rfl⟩:=g2.shape
 obtain ⟨av4,cv4,rfl⟩:=g3.shape
 obtain ⟨avp,cvp,rfl⟩:=RI.shape g4
 obtain ⟨avn,cvn,rfl⟩:=RI.shape g5
 obtain ⟨avg,cvg,rfl⟩:=g6.shape
 refine Cl.o Tryz.func23 Tryz.ntmps23 ag1 ?_
 refine .aj (.bx hs fun b1 w hs=>?_)
 refine .o (.alloc hs eG rfl fun b2 w hs=>?_)
 refine .o (.alloc hs jk rfl fun b3 w hs=>?_)
 refine .o (.alloc hs ki rfl fun b4 w hs=>?_)
 refine .nil (.aj (.z (zfa pK) (.y hs (zls [_,_,_,_,_,_,_] Tryz.isAgg39 Tryz.sizeOf39) (.o (.call Tryz.call55 rfl (tE hs g1 g2 g3 g4) ?_)))));rintro _ w ⟨H1,s,a,b,c,d,hle1,rfl,r1,r2,r3,r4,hSpl,hs⟩
 have hSv:SvM H1 s a b c d:=⟨r1,r2,r3,r4⟩
 obtain ⟨aa,ca,rfl⟩:=RI.shape r1
 obtain ⟨ab,cb,rfl⟩:=RI.shape r2
 obtain ⟨ac,cc,rfl⟩:=RRd.shape r3
 obtain ⟨ad,cd,rfl⟩:=RCm.shape r4
 refine .o (.alloc hs eG rfl fun b5 w hs=>?_)
 refine .o (.aP (vs:=[_,_,_,_,_,_,_,_]) hs rfl rfl aC fun w hs=>?_)
 refine .nil (.aj (.z (zfa pJ) (.y hs (zld aq) (.o (.call Tryz.call77 rfl (qZ hs (g5.mono hle1)) ?_)))));rintro _ w ⟨l,vt,vsn,e1,e2,rfl,hL,hO1,hO2,hs⟩
 obtain ⟨bt,ct,spT,rfl,rfl,hct⟩:=hO1.GL (Gw _) an (by rw [qc,hL.tbl];omega)
 obtain ⟨asn,csn,rfl⟩:=hO2.jz (Ab _) an
 rw [qc] at hO1 ⊢
 rw [lU] at hO2 ⊢
 have hLt:=hL.tbl
 refine .o (.alloc hs jk rfl fun b6 w hs=>?_)
 refine .o (.aP (vs:=[_,_,_,_]) hs rfl rfl aV fun w hs=>?_)
 refine .nil (.aj (.z (zfa pI) (.y hs (zld Tryz.isAgg40) (.o (.call Tryz.call78 rfl (qY hs (RS.mono g6 hle1)) ?_)))));rintro _ w ⟨r,vr,e3,rfl,hR,hO3,hs⟩
 have hRm:=hR.ok.many
 have hR4:=hR.many
 obtain ⟨br,cr,spR,rfl,rfl,hcr⟩:=hO3.GL (Bq _) an (by rw [lV];omega)
 rw [lV] at hO3 ⊢
 refine .o (.alloc hs ki rfl fun b7 w hs=>?_)
 refine .o (.aP (vs:=[_]) hs rfl rfl bp fun w hs=>?_)
 refine .nil (.aj (.z (zfa pH) (.y hs (zls [_,_,_] Tryz.isAgg37 A0) (.o (.alloc hs Tryz.zeroValue37 rfl fun b8 w hs=>?_)))))
 refine .o (.aP (vs:=[_,_,_]) hs rfl rfl A0 fun w hs=>?_)
 refine .nil (.aj (.z (zia 1 aE ai) (.y hs (zld af) (.z (zfa bI) (.y hs (zld cu) (.z (dc aF) ?_))))))
 have hbi:=mc z2 (m:=(r.length:Int)) an
 refine .o (.call fl rfl (dj hs an) ?_);rintro _ w ⟨rfl,hs⟩
 generalize s8 z2 (r.length:Int)=ii at*
 obtain ⟨i,rfl⟩:∃i:Nat,ii=(i:Int):=⟨ii.toNat,an⟩
 refine .zn zg (.aj (.z (zia 1 aE ai) (.y hs (zld af) (.z (zfa cU) (.y hs (zld ew) (.z (dc a6) ?_))))))
 have hbk:=mc z2 (m:=(l.table.length:Int)) an
 refine .o (.call fl rfl (dj hs an) ?_);rintro _ w ⟨rfl,hs⟩
 generalize s8 z2 (l.table.length:Int)=kk at*
 obtain ⟨k,rfl⟩:∃k:Nat,kk=(k:Int):=⟨kk.toNat,an⟩
 have hxT:=mW (l:=l.table) (i:=k) an
 have hxR:=j6 (l:=r) (i:=i) an
 generalize fb0 l.table k=fT at*
 generalize lg0 r i=fR at*
 refine .zn zg (.cut (fun fs w=>∃(x1 x2:Int) (T:List Fbd) (R:List Lg) (f1 f2:Ent) (vt vr:Value),ke fs ⟨191,[],[(8,Pt b8),(7,Pt b7),(6,Pt b6),(5,Pt b5),(4,Pt b4),(3,Pt b3),(2,Pt b2)]⟩∧T.length≤3∧R.length≤4∧cZ 2 vt (fbc T).flatten f1∧cZ 7 vr (lgc R).flatten f2∧St H1 w (f2::f1::e2:: .blk b8 [I z1,I z2,I z3]:: .blk b7 [vr]:: .blk b6 [I x1,I x2,vt,.slice asn l.seasons.length csn]:: .blk b5 (svC s (.slice aa s.sp.st.length ca) (.slice ab s.sp.wa.length cb) (.slice ac s.rs.length cc) (.slice ad s.cs.length cd)):: .blk b4 [.slice none 0 0]:: .blk b3 [I 0,I 0,.slice none 0 0,.slice none 0 0]:: .blk b2 [I 0,I 0,.slice none 0 0,.slice none 0 0,I 0,I 0,.slice none 0 0,.slice none 0 0]::σ)) ?_ ?_)
 ·refine .aj (.z (zia 0 aE ai) (.y hs (zld af) (.o (.call fl rfl (dj hs an) ?_))));rintro _ w ⟨rfl,hs⟩
  refine .nil (.block (.aj (.z fm (.zn zg (.bA rfl (fun hc38=>?_) (fun hc38=>?_))))))
  ·refine .region (.z (zia 2 aE ai) (.y hs (zld af) (.z (zfa eD) (.o (.store hs rfl rfl ai fun w hs=>?_)))))
   refine .nil (nB (nT ?_))
   exact ⟨z3,l.depth,l.table,r,_,_,_,_,aU,an,hR4,hO1,hO3,hs.sb⟩
  ·refine .aj (.z fm (.zn zg (.bA rfl (fun hc43=>?_) (fun hc43=>?_))))
   ·refine .region (.z (zia 2 aE ai) (.y hs (zld af) (.z (zfa iI) (.o (.store hs rfl rfl ai fun w hs=>?_)))))
    refine .nil (nB (nT ?_))
    exact ⟨l.length,z3,l.table,r,_,_,_,_,aU,an,hR4,hO1,hO3,hs.sb⟩
   ·refine .aj (.z fm (.zn zg (.bA rfl (fun hc48=>?_) (fun hc48=>?_))))
    ·refine .region (.z (zfa cU) (.y hs (zld ew) (.z zm (.z (zia 2 aE ai) (.y hs (zld af) ?_)))))
     first|(refine .ixw hs a6 bK ?_;intro b55 o55 hc55)|refine .z (mA a6 bK) ?_
     refine .z (zfa bY) (.o (.store (c':=((l.table.set k {fT with len:=z3}).map Fbd.c).flatten++spT) hs rfl rfl ai ?_ dn (ij (enc:=Fbd.c) (fun _=>rfl) an dY spT) (ic (enc:=Fbd.c) (fun _=>rfl) hxT dY rfl spT)));intro w hs
     refine .nil (nB (nT ?_))
     exact ⟨l.length,l.depth,l.table.set k {fT with len:=z3},r,_,_,_,_,aU,by rw [List.length_set];omega,hR4,ie (enc:=Fbd.c) (fun _=>rfl) hO1,hO3,hs.sb⟩
    ·refine .aj (.z fm (.zn zg (.bA rfl (fun hc57=>?_) (fun hc57=>?_))))
     ·refine .region (.z (zfa cU) (.y hs (zld ew) (.z zm (.z (zia 2 aE ai) (.y hs (zld af) ?_)))))
      first|(refine .ixw hs a6 bK ?_;intro b64 o64 hc64)|refine .z (mA a6 bK) ?_
      refine .z (zfa dJ) (.o (.store (c':=((l.table.set k {fT with least:=z3}).map Fbd.c).flatten++spT) hs rfl rfl ai ?_ dn (ij (enc:=Fbd.c) (fun _=>rfl) an dY spT) (ic (enc:=Fbd.c) (fun _=>rfl) hxT dY rfl spT)));intro w hs
      refine .nil (nB (nT ?_))
      exact ⟨l.length,l.depth,l.table.set k {fT with least:=z3},r,_,_,_,_,aU,by rw [List.length_set];omega,hR4,ie (enc:=Fbd.c) (fun _=>rfl) hO1,hO3,hs.sb⟩
     ·refine .aj (.z fm (.zn zg (.bA rfl (fun hc66=>?_) (fun hc66=>?_))))
      ·refine .region (.z (zfa bI) (.y hs (zld cu) (.z zm (.z (zia 2 aE ai) (.y hs (zld af) ?_)))))
       first|(refine .ixw hs aF aQ ?_;intro b73 o73 hc73)|refine .z (mA aF aQ) ?_
       refine .z (zfa kS) (.o (.store (c':=((r.set i {fR with zone:=z3}).map Lg.c).flatten++spR) hs rfl rfl ai ?_ dn (ij (enc:=Lg.c) (fun _=>rfl) an dY spR) (ic (enc:=Lg.c) (fun _=>rfl) hxR dY rfl spR)));intro w hs
       refine .nil (nB (nT ?_))
       exact ⟨l.length,l.depth,l.table,r.set i {fR with zone:=z3},_,_,_,_,aU,an,by rw [List.length_set];exact hR4,hO1,ie (enc:=Lg.c) (fun _=>rfl) hO3,hs.sb⟩
      ·refine .aj (.z fm (.zn zg (.bA rfl (fun hc75=>?_) (fun hc75=>?_))))
       ·refine .region (.z (zfa bI) (.y hs (zld cu) (.z zm (.z (zia 2 aE ai) (.y hs (zld af) ?_)))))
        first|(refine .ixw hs aF aQ ?_;intro b82 o82 hc82)|refine .z (mA aF aQ) ?_
        refine .z (zfa fu) (.o (.store (c':=((r.set i {fR with fr:=z3}).map Lg.c).flatten++spR) hs rfl rfl ai ?_ dn (ij (enc:=Lg.c) (fun _=>rfl) an dY spR) (ic (enc:=Lg.c) (fun _=>rfl) hxR dY rfl spR)));intro w hs
        refine .nil (nB (nT ?_))
        exact ⟨l.length,l.depth,l.table,r.set i {fR with fr:=z3},_,_,_,_,aU,an,by rw [List.length_set];exact hR4,hO1,ie (enc:=Lg.c) (fun _=>rfl) hO3,hs.sb⟩
       ·refine .aj (.z fm (.zn zg (.bA rfl (fun hc84=>?_) (fun hc84=>?_))))
        ·refine .region (.z (zfa bI) (.y hs (zld cu) (.z zm (.z (zia 2 aE ai) (.y hs (zld af) ?_)))))
         first|(refine .ixw hs aF aQ ?_;intro b91 o91 hc91)|refine .z (mA aF aQ) ?_
         refine .z (zfa ft) (.o (.store (c':=((r.set i {fR with to:=z3}).map Lg.c).flatten++spR) hs rfl rfl ai ?_ dn (ij (enc:=Lg.c) (fun _=>rfl) an dY spR) (ic (enc:=Lg.c) (fun _=>rfl) hxR dY rfl spR)));intro w hs
         refine .nil (nB (nT ?_))
         exact ⟨l.length,l.depth,l.table,r.set i {fR with to:=z3},_,_,_,_,aU,an,by rw [List.length_set];exact hR4,hO1,ie (enc:=Lg.c) (fun _=>rfl) hO3,hs.sb⟩
        ·refine .aj (.z fm (.zn zg (.bA rfl (fun hc93=>?_) (fun hc93=>?_))))
         ·refine .region (.z (zfa bI) (.y hs (zld cu) (.z zm (.z (zia 2 aE ai) (.y hs (zld af) ?_)))))
          first|(refine .ixw hs aF aQ ?_;intro b100 o100 hc100)|refine .z (mA aF aQ) ?_
          refine .z (zfa fq) (.z (zfa bG) (.o (.store (c':=((r.set i {fR with dlo:=z3}).map Lg.c).flatten++spR) hs rfl rfl ai ?_ dn (ij (enc:=Lg.c) (fun _=>rfl) an dY spR) (ic (enc:=Lg.c) (fun _=>rfl) hxR dY rfl spR))));intro w hs
          refine .nil (nB (nT ?_))
          exact ⟨l.length,l.depth,l.table,r.set i {fR with dlo:=z3},_,_,_,_,aU,an,by rw [List.length_set];exact hR4,hO1,ie (enc:=Lg.c) (fun _=>rfl) hO3,hs.sb⟩
         ·refine .aj (.z fm (.zn zg (.bA rfl (fun hc103=>?_) (fun hc103=>?_))))
          ·refine .region (.z (zfa bI) (.y hs (zld cu) (.z zm (.z (zia 2 aE ai) (.y hs (zld af) ?_)))))
           first|(refine .ixw hs aF aQ ?_;intro b110 o110 hc110)|refine .z (mA aF aQ) ?_
           refine .z (zfa fq) (.z (zfa cf) (.o (.store (c':=((r.set i {fR with dhi:=z3}).map Lg.c).flatten++spR) hs rfl rfl ai ?_ dn (ij (enc:=Lg.c) (m:=7) (k:=i) (j:=4) (fun _=>rfl) an dY spR) (ic (enc:=Lg.c) (m:=7) (k:=i) (j:=4) (x':={fR with dhi:=z3}) (v:=I z3) (fun _=>rfl) hxR dY rfl spR))));intro w hs
           refine .nil (nB (nT ?_))
           exact ⟨l.length,l.depth,l.table,r.set i {fR with dhi:=z3},_,_,_,_,aU,an,by rw [List.length_set];exact hR4,hO1,ie (enc:=Lg.c) (fun _=>rfl) hO3,hs.sb⟩
          ·refine .aj (.z fm (.zn zg (.bA rfl (fun hc113=>?_) (fun hc113=>?_))))
           ·refine .region (.z (zfa bI) (.y hs (zld cu) (.z zm (.z (zia 2 aE ai) (.y hs (zld af) ?_)))))
            first|(refine .ixw hs aF aQ ?_;intro b120 o120 hc120)|refine .z (mA aF aQ) ?_
            refine .z (zfa fp) (.z (zfa bG) (.o (.store (c':=((r.set i {fR with blo:=z3}).map Lg.c).flatten++spR) hs rfl rfl ai ?_ dn (ij (enc:=Lg.c) (fun _=>rfl) an dY spR) (ic (enc:=Lg.c) (fun _=>rfl) hxR dY rfl spR))));intro w hs
            refine .nil (nB (nT ?_))
            exact ⟨l.length,l.depth,l.table,r.set i {fR with blo:=z3},_,_,_,_,aU,an,by rw [List.length_set];exact hR4,hO1,ie (enc:=Lg.c) (fun _=>rfl) hO3,hs.sb⟩
           ·refine .aj (.z fm (.zn zg (.bA rfl (fun hc123=>?_) (fun hc123=>?_))))
            ·refine .region (.z (zfa bI) (.y hs (zld cu) (.z zm (.z (zia 2 aE ai) (.y hs (zld af) ?_)))))
             first|(refine .ixw hs aF aQ ?_;intro b130 o130 hc130)|refine .z (mA aF aQ) ?_
             refine .z (zfa fp) (.z (zfa cf) (.o (.store (c':=((r.set i {fR with bhi:=z3}).map Lg.c).flatten++spR) hs rfl rfl ai ?_ dn (ij (enc:=Lg.c) (m:=7) (k:=i) (j:=6) (fun _=>rfl) an dY spR) (ic (enc:=Lg.c) (m:=7) (k:=i) (j:=6) (x':={fR with bhi:=z3}) (v:=I z3) (fun _=>rfl) hxR dY rfl spR))));intro w hs
             refine .nil (nB (nT ?_))
             exact ⟨l.length,l.depth,l.table,r.set i {fR with bhi:=z3},_,_,_,_,aU,an,by rw [List.length_set];exact hR4,hO1,ie (enc:=Lg.c) (fun _=>rfl) hO3,hs.sb⟩
            ·refine .aj (.z fm (.zn zg (.bA rfl (fun hc133=>?_) (fun hc133=>?_))))
             ·refine .region (.z (zfa bI) (.o (.store hs rfl rfl nV fun w hs=>?_)))
              refine .nil (nB (nT ?_))
              exact ⟨l.length,l.depth,l.table,[],_,.nul,_,_,aU,an,cq,hO1,.nil 7 none,hs.nul.sb⟩
             ·refine .aj (.z fm (.zn zg (.bA rfl (fun hc136=>?_) (fun hc136=>?_))))
              ·refine .region (.z (zfa cU) (.o (.store hs rfl rfl Tryz.sizeOf22 fun w hs=>?_)))
               refine .nil (nB (nT ?_))
               exact ⟨l.length,l.depth,[],r,.nul,_,_,_,aU,cq,hR4,.nil 2 none,hO3,hs.nul.sb⟩
              ·refine .skip (nB (nT ?_))
               exact ⟨l.length,l.depth,l.table,r,_,_,_,_,aU,an,hR4,hO1,hO3,hs.sb⟩
 ·clear hs hO1 hO3
  rintro fs w ⟨x1,x2,T,R,f1,f2,vt,vr,hfs,hT3,hR4',hO1,hO3,hs⟩
  refine WE.sub ?_ hfs
  clear hfs
  obtain ⟨aT,cT,rfl⟩:=hO1.jz (Gw _) an
  obtain ⟨aR,cR,rfl⟩:=hO3.jz (Bq _) an
  rw [qc] at hO1 hs
  rw [lV] at hO3 hs
  refine .cut (fun fs w=>∃(S:List Ssn) (f3:Ent) (vq:Value),ke fs ⟨191,[],[(7,Pt b7),(6,Pt b6),(5,Pt b5),(4,Pt b4),(3,Pt b3),(2,Pt b2)]⟩∧S.length≤4∧cZ 4 vq (snc S).flatten f3∧St H1 w (f2::f1::f3:: .blk b7 [.slice aR R.length cR]:: .blk b6 [I x1,I x2,.slice aT T.length cT,vq]:: .blk b5 (svC s (.slice aa s.sp.st.length ca) (.slice ab s.sp.wa.length cb) (.slice ac s.rs.length cc) (.slice ad s.cs.length cd)):: .blk b4 [.slice none 0 0]:: .blk b3 [I 0,I 0,.slice none 0 0,.slice none 0 0]:: .blk b2 [I 0,I 0,.slice none 0 0,.slice none 0 0,I 0,I 0,.slice none 0 0,.slice none 0 0]::σ)) ?_ ?_
  ·refine .aj (.z (zfa de) (.y hs (zld eM) (.z (dc bD) (.zn km (.bA rfl (fun hc142=>?_) (fun hc142=>?_))))))
   ·refine .aj (.z (zia 1 aE ai) (.y hs (zld af) (.z (zfa de) (.y hs (zld eM) (.z (dc bD) ?_)))))
    have hL4:=hL.sns
    obtain ⟨bS,cS,spS,hv,rfl,hcS⟩:=hO2.GL (Ab _) an (by rw [lU];omega)
    simp only [Value.slice.injEq] at hv
    obtain ⟨rfl,hv2,rfl⟩:=hv
    have hbj:=mc z2 (m:=(l.seasons.length:Int)) an
    refine .o (.call fl rfl (dj hs an) ?_);rintro _ w ⟨rfl,hs⟩
    generalize s8 z2 (l.seasons.length:Int)=jj at*
    obtain ⟨j,rfl⟩:∃j:Nat,jj=(j:Int):=⟨jj.toNat,an⟩
    obtain ⟨fS,hxS⟩:=nth (l:=l.seasons) (k:=j) an
    refine .zn zg (.aj (.z (zia 0 aE ai) (.y hs (zld af) (.o (.call fl rfl (dj hs an) ?_)))));rintro _ w ⟨rfl,hs⟩
    refine .nil (.block (.aj (.z fm (.zn zg (.bA rfl (fun hc152=>?_) (fun hc152=>?_))))))
    ·refine .region (.z (zfa de) (.y hs (zld eM) (.z zm (.z (zia 2 aE ai) (.y hs (zld af) ?_)))))
     first|(refine .ixw hs bD cP ?_;intro b159 o159 hc159)|refine .z (mA bD cP) ?_
     refine .z (zfa jd) (.o (.store (c':=((l.seasons.set j {fS with zone:=z3}).map Ssn.c).flatten++spS) hs rfl rfl ai ?_ dn (ij (enc:=Ssn.c) (fun _=>rfl) an dY spS) (ic (enc:=Ssn.c) (fun _=>rfl) hxS dY rfl spS)));intro w hs
     refine .nil (nB (nT ?_))
     exact ⟨l.seasons.set j {fS with zone:=z3},_,_,aU,by rw [List.length_set];omega,ie (enc:=Ssn.c) (fun _=>rfl) hO2,hs.sb⟩
    ·refine .aj (.z fm (.zn zg (.bA rfl (fun hc161=>?_) (fun hc161=>?_))))
     ·refine .region (.z (zfa de) (.y hs (zld eM) (.z zm (.z (zia 2 aE ai) (.y hs (zld af) ?_)))))
      first|(refine .ixw hs bD cP ?_;intro b168 o168 hc168)|refine .z (mA bD cP) ?_
      refine .z (zfa eP) (.o (.store (c':=((l.seasons.set j {fS with fr:=z3}).map Ssn.c).flatten++spS) hs rfl rfl ai ?_ dn (ij (enc:=Ssn.c) (fun _=>rfl) an dY spS) (ic (enc:=Ssn.c) (fun _=>rfl) hxS dY rfl spS)));intro w hs
      refine .nil (nB (nT ?_))
      exact ⟨l.seasons.set j {fS with fr:=z3},_,_,aU,by rw [List.length_set];omega,ie (enc:=Ssn.c) (fun _=>rfl) hO2,hs.sb⟩
     ·refine .aj (.z fm (.zn zg (.bA rfl (fun hc170=>?_) (fun hc170=>?_))))
      ·refine .region (.z (zfa de) (.y hs (zld eM) (.z zm (.z (zia 2 aE ai) (.y hs (zld af) ?_)))))
       first|(refine .ixw hs bD cP ?_;intro b177 o177 hc177)|refine .z (mA bD cP) ?_
       refine .z (zfa eO) (.o (.store (c':=((l.seasons.set j {fS with to:=z3}).map Ssn.c).flatten++spS) hs rfl rfl ai ?_ dn (ij (enc:=Ssn.c) (fun _=>rfl) an dY spS) (ic (enc:=Ssn.c) (fun _=>rfl) hxS dY rfl spS)));intro w hs
       refine .nil (nB (nT ?_))
       exact ⟨l.seasons.set j {fS with to:=z3},_,_,aU,by rw [List.length_set];omega,ie (enc:=Ssn.c) (fun _=>rfl) hO2,hs.sb⟩
      ·refine .aj (.z fm (.zn zg (.bA rfl (fun hc179=>?_) (fun hc179=>?_))))
       ·refine .region (.z (zfa de) (.y hs (zld eM) (.z zm (.z (zia 2 aE ai) (.y hs (zld af) ?_)))))
        first|(refine .ixw hs bD cP ?_;intro b186 o186 hc186)|refine .z (mA bD cP) ?_
        refine .z (zfa jc) (.o (.store (c':=((l.seasons.set j {fS with extra:=z3}).map Ssn.c).flatten++spS) hs rfl rfl ai ?_ dn (ij (enc:=Ssn.c) (fun _=>rfl) an dY spS) (ic (enc:=Ssn.c) (fun _=>rfl) hxS dY rfl spS)));intro w hs
        refine .nil (nB (nT ?_))
        exact ⟨l.seasons.set j {fS with extra:=z3},_,_,aU,by rw [List.length_set];omega,ie (enc:=Ssn.c) (fun _=>rfl) hO2,hs.sb⟩
       ·refine .skip (nB (nT ?_))
        exact ⟨l.seasons,_,_,aU,an,hO2,hs.sb⟩
   ·refine .skip (nT ?_)
    exact ⟨l.seasons,_,_,aU,an,hO2,hs.sb⟩
  ·have hL4:=hL.sns
   clear hs hO2
   rintro fs w ⟨S,f3,vq,hfs,hS4,hO2,hs⟩
   refine WE.sub ?_ hfs
   clear hfs
   obtain ⟨aS,cS,rfl⟩:=hO2.jz (Ab _) an
   rw [lU] at hO2 hs
   refine .cut (fun fs w=>ke fs ⟨191,[],[(4,Pt b4),(3,Pt b3),(2,Pt b2)]⟩∧St H1 w (f2::f1::f3:: .blk b4 [.slice aR R.length cR]:: .blk b3 [I x1,I x2,.slice aT T.length cT,.slice aS S.length cS]:: .blk b2 (svC s (.slice aa s.sp.st.length ca) (.slice ab s.sp.wa.length cb) (.slice ac s.rs.length cc) (.slice ad s.cs.length cd))::σ)) ?_ ?_
   ·refine .draw mix rfl hs fun w hs=>?_
    refine .ys 0 rfl hs [_,_,_,_,_,_,_,_] aN aC ?_;refine .ys 1 rfl hs [_,_,_,_] bw aV ?_;refine .ys 2 rfl hs [_] cA bp ?_
    refine .E 3 hs ?_
    refine .aP (vs:=[_,_,_,_,_,_,_,_]) hs rfl rfl aC ?_;intro w hs
    refine .go (.E 4 hs ?_)
    refine .aP (vs:=[_,_,_,_]) hs rfl rfl aV ?_;intro w hs
    refine .go (.E 5 hs ?_)
    refine .aP (vs:=[_]) hs rfl rfl bp ?_;intro w hs
    refine .go (.D hs ?_)
    exact nT ⟨aU,hs.sb⟩
   ·rintro fs w ⟨hfs,hs⟩
    refine WE.sub ?_ hfs
    clear hfs
    refine .ret ?_
    obtain ⟨H2,q2,p2,hs⟩:=cZ.di (m:=7) hO3 (Bq _) an (by rw [lV];omega) hs .here
    obtain ⟨H3,q3,p3,hs⟩:=cZ.di (m:=2) hO1 (Gw _) an (by rw [qc];omega) hs .here
    obtain ⟨H4,q4,p4,hs⟩:=cZ.di (m:=4) hO2 (Ab _) an (by rw [lU];omega) hs .here
    have k3:=q3.trans q4
    have k2:=q2.trans k3
    exact Fin.iM [] [] hs fun w hs=>⟨_,results3 Tryz.results23 (dy (vs:=svC s (.slice aa s.sp.st.length ca) (.slice ab s.sp.wa.length cb) (.slice ac s.rs.length cc) (.slice ad s.cs.length cd)) hs rfl aN aC) (dy (vs:=[I x1,I x2,.slice aT T.length cT,.slice aS S.length cS]) hs rfl bw aV) (dy (vs:=[.slice aR R.length cR]) hs rfl cA bp),H4,s,_,_,_,_,⟨x1,x2,T,S⟩,_,_,R,_,hle1.trans k2,rfl,hSv.mono k2,⟨RFb.mono p3 q4,p4⟩,RLg.mono p2 k3,hSpl,hs.out⟩
end Go.Proofs.YteajddicacjkhaaGreat
namespace Go.Proofs.YteajddicacjkhaaGreat
open Go.MW
set_option maxHeartbeats 2000000 in
theorem qn{W:World}{H:cD}{x:GO}{vs v5 v4 vp vn vg:Value}(hs:St H W [])(hx:Dc H x vs v5 v4 vp vn vg):
  Cl Tryz.prog 4 [x.agg vs v5 v4 vp vn vg] W fun v w'=>v= .bool true∧∃H',HLe H H'∧St H' w' []:=by
 refine Cl.o Tryz.func4 Tryz.ntmps4 ag1 ?_
 refine .aj (.bx hs fun b1 w hs=>?_)
 refine .zn zg (.aj (.o (.call Tryz.call18 rfl (w8 hs) ?_)));rintro _ w ⟨rfl,H1,hle1,hs⟩
 replace hx:=hx.mono hle1
 refine .zn zg (.aj (.y hs (zls [_,_,_,_,_,_,_,_,_,_,_,_,_,_] Tryz.isAgg44 Tryz.sizeOf44) (.o (.call Tryz.call23 rfl (tA hs hx.sp hx.rs hx.cs hx.pk hx.ln hx.lg) ?_))));rintro _ w ⟨H2,s,a,b,c,d,l,vt,vsn,r,vl,hle2,rfl,g,gl,gr_,-,hs⟩
 have hle02:=hle1.trans hle2
 obtain ⟨aa,ca,rfl⟩:=RI.shape g.st
 obtain ⟨ab,cb,rfl⟩:=RI.shape g.wa
 obtain ⟨ac,cc,rfl⟩:=RRd.shape g.rd
 obtain ⟨ad,cd,rfl⟩:=RCm.shape g.cm
 obtain ⟨at_,ct,rfl⟩:=gl.tb.shape
 obtain ⟨as_,cs,rfl⟩:=gl.sn.shape
 obtain ⟨ar,cr,rfl⟩:=gr_.shape
 refine .z zm (.z zex (.z zex (.z zex (.o (.alloc hs eG rfl fun b4 w hs=>?_)))))
 refine .o (.alloc hs jk rfl fun b5 w hs=>?_)
 refine .o (.alloc hs ki rfl fun b6 w hs=>?_)
 refine .o (.aP (vs:=[_,_,_,_,_,_,_,_]) hs rfl rfl aC fun w hs=>?_)
 refine .o (.aP (vs:=[_,_,_,_]) hs rfl rfl aV fun w hs=>?_)
 refine .o (.aP (vs:=[_]) hs rfl rfl bp fun w hs=>?_)
 refine .nil (.aj (.y hs (zls [_,_,_,_,_,_,_,_] aN aC) (.y hs (zls [_,_,_,_] bw aV) (.y hs (zls [_] cA bp) (.z (zfa gP) (.y hs (zls [_,_] aW au) (.o (.call Tryz.call24 rfl (nu (s:=s) (l:=l) (r:=r) (m:=x.uv) hs g gl gr_) ?_))))))));rintro _ w ⟨H3,v1,l1,e1,hle3,rfl,hR1,h1,hs⟩
 replace g:=g.mono hle3
 replace gl:=gl.mono hle3
 replace gr_:=gr_.mono hle3
 refine .z zm (.z zex (.z zex (.z zg (.zn zg (.aj (.y hs (zls [_,_,_,_,_,_,_,_] aN aC) (.y hs (zls [_,_,_,_] bw aV) (.y hs (zls [_] cA bp) (.z (zfa gP) (.y hs (zls [_,_] aW au) (.o (.call Tryz.call25 rfl (mI (s:=s) (l:=l) (r:=r) (m:=x.uv) hs g gl gr_) ?_))))))))))));rintro _ w ⟨H4,v2,l2,e2,hle4,rfl,hR2,h2,hs⟩
 replace g:=g.mono hle4
 replace gl:=gl.mono hle4
 replace gr_:=gr_.mono hle4
 obtain ⟨rfl,rfl⟩:=h1.uniq h2
 refine .z zm (.z zex (.z zex (.z zg (.zn zg (.aj (.y hs (zls [_,_,_,_,_,_,_,_] aN aC) (.y hs (zls [_,_,_,_] bw aV) (.y hs (zls [_] cA bp) (.z (zfa gP) (.y hs (zls [_,_] aW au) (.o (.call Tryz.call26 rfl (me (s:=s) (l:=l) (r:=r) (m:=x.uv) hs g gl gr_) ?_))))))))))));rintro _ w ⟨H5,n5,e5,hle5,rfl,h5,hs⟩
 replace g:=g.mono hle5
 replace gl:=gl.mono hle5
 replace gr_:=gr_.mono hle5
 refine .z zm (.z zex (.z zex (.z zg (.zn zg (.aj (.y hs (zls [_,_,_,_,_,_,_,_] aN aC) (.y hs (zls [_,_,_,_] bw aV) (.y hs (zls [_] cA bp) (.z (zfa gP) (.y hs (zls [_,_] aW au) (.o (.call Tryz.call27 rfl (uL (s:=s) (l:=l) (r:=r) (m:=x.uv) hs g gl gr_) ?_))))))))))));rintro _ w ⟨H6,n6,e6,hle6,rfl,h6,hs⟩
 replace g:=g.mono hle6
 replace gl:=gl.mono hle6
 replace gr_:=gr_.mono hle6
 obtain ⟨rfl,rfl⟩:=h5.uniq h6
 refine .z zm (.z zex (.z zex (.z zg (.zn zg (.aj (.y hs (zls [_,_,_,_,_,_,_,_] aN aC) (.y hs (zls [_,_,_,_] bw aV) (.y hs (zls [_] cA bp) (.o (.call Tryz.call28 rfl (qH (s:=s) (l:=l) (r:=r) hs g gl gr_) ?_))))))))));rintro _ w ⟨H7,n7,e7,hle7,rfl,h7,hs⟩
 replace g:=g.mono hle7
 replace gl:=gl.mono hle7
 replace gr_:=gr_.mono hle7
 refine .z zm (.z zex (.z zex (.z zg (.zn zg (.aj (.y hs (zls [_,_,_,_,_,_,_,_] aN aC) (.y hs (zls [_,_,_,_] bw aV) (.y hs (zls [_] cA bp) (.o (.call Tryz.call29 rfl (wF (s:=s) (l:=l) (r:=r) hs g gl gr_) ?_))))))))));rintro _ w ⟨H8,n8,e8,hle8,rfl,h8,hs⟩
 obtain ⟨rfl,rfl⟩:=h7.uniq h8
 have k8:=hle5.trans (hle6.trans (hle7.trans hle8))
 refine .z zm (.z zex (.z zex (.z zg (.zn zg (.aj (.z zm (.z zm (.o (.call Tryz.call30 rfl (q5 hs (RI.mono hR1 (hle4.trans k8)) (RI.mono hR2 k8)) ?_)))))))));rintro _ w ⟨rfl,hs⟩
 rw [decide_eq_true rfl]
 refine .zn zg (.aj (.z zm (.z zm (.T (.z zm (.z zpT (.z zm (.T (.z zm (.T (.z zm (.T (.z fm ?_)))))))))))))
 rw [decide_eq_true rfl]
 refine .z zpT (.z zm (.T (.z zm (.T (.z zm (.T (.z fm ?_)))))))
 rw [decide_eq_true rfl]
 refine .z zpT (.z zm (.T (.z zm (.T (.z zm (.T (.z fm ?_)))))))
 rw [decide_eq_true rfl]
 refine .z zpT (.z zm (.T (.z zm (.T (.z zm (.T (.z fm ?_)))))))
 rw [decide_eq_true rfl]
 refine .z zpT (.z zm (.T (.z zm (.T (.z zm (.T (.z fm ?_)))))))
 rw [decide_eq_true rfl]
 refine .z zpT (.zn zg (.ret (Fin.bE Tryz.results4 rfl ?_)))
 exact ⟨rfl,H8,hle02.trans (hle3.trans (hle4.trans k8)),hs.out⟩
end Go.Proofs.YteajddicacjkhaaGreat
