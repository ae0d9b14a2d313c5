/-
  Texts of these claims, joined: Zx Zy Zz Na Nb Nh Ni Nj No Nq Ns Nt Oc Od Oe Of Og Oh Oi Oj Ok Ol Om On.
-/
import Derived.Test.YteajddicacjkhaaGreatHd
namespace Go.Proofs.YteajddicacjkhaaGreat
open Go.MW Tryz
variable{H:cu}{σ:List Ent}{a0 a1 a2 x most a hi lo f d e z1 z2 z3:Int}{l:Lns}{ls:List Lim}{g b k bf bt bl cl i j bm:Nat}{cap sp:List Value}{s:Spc}{xs ts lf ws L X Y l1 l2 sl pk ks dC:List Int}{en:Ent}{vl vt vp vw vm vx v1 v2 cE cB vr vc vh vs v5 v4 fX:Value}{m:Rng}{Ms rows:List (List Int)}{t:TD}{high:Bool}{ie:List F5}{ir:List F4}
theorem da{w:World}{n m:Int}(hs:St H w σ)(hm:1≤m∧m≤4611686018427387904):
  aaR 90 [I n,I m] w fun u w'=>∃k:Nat,(k:Int)<m∧u=I (k:Int)∧St H w' σ:=by
 have h1:=Int.tmod_lt_of_pos n (show 0<m by omega);have h2:=Int.lt_tmod_of_pos n (show 0<m by omega);have h3:=Int.tmod_lt_of_pos (n.tmod m+m) (show 0<m by omega);have h4:=Int.tmod_nonneg m (show 0≤n.tmod m+m by omega);refine Cl.o func90 ntmps90 ag2 ?_;exact .af (.zn zg (.af (.z zm (.z zm (.z E9 (.z zm (.z cH (.z zm (.z E9 (.zn zg (.ret (Fin.bj results90 rfl ⟨((n.tmod m+m).tmod m).toNat,ai,by rw [show (((n.tmod m+m).tmod m).toNat:Int)=(n.tmod m+m).tmod m by omega],hs⟩))))))))))))
theorem dM{w:World}{v:Value}{l:List Int}{i n:Int}(hs:St H w σ)(hr:RI H v l)(hi:0≤i)(hn:1≤n∧n≤4611686018427387904):
  aaR 146 [v,I i,I n] w fun u w'=>∃k:Nat,(k:Int)<n∧u=I (k:Int)∧St H w' σ:=by
 obtain ⟨a,c,rfl⟩:=RI.shape hr;refine Cl.o func146 ntmps146 ag3 ?_;refine .af (.zn zg (.seq (.af (.z zm (.z (de ae) (.zn fy (.bh rfl (fun nv=>?_) (fun nv=>?_))))))))
 ·exact .af (.zn zg (.ret (rT (Fin.bj results146 rfl ⟨0,ai,rfl,hs⟩))))
 ·refine .skip (nT (.af (.z zm (.z zm (.z zm (.z (de ae) (.z E9 ?_)))))));have g1:=Int.tmod_lt_of_pos i (show 0<(l.length:Int) by omega);have g2:=Int.tmod_nonneg (l.length:Int) hi;refine .ixY hs hr rfl rfl ae an (bu (l:=l) (i:=(i.tmod l.length).toNat) ai) ai ?_;intro yM o15 e7;refine .q hs (aC rfl aj e7) (.z zm (.o (.call kK rfl (da hs hn) ?_)));rintro _ w ⟨k,hk,rfl,hs⟩;exact .zn zg (.ret (Fin.bj results146 rfl ⟨k,hk,rfl,hs⟩))
theorem zU{w:World}{v:Value}{s:dv}{l5:List Int}(hs:St H w σ)(hr:RSy H v s)(hp:RI H vp l5)(OY:s.Ok∧s.Sound):
  aaR 149 [v,vp] w fun u w'=>∃H1 vx x en,HLe H H1∧u= .tuple #[vx,I 0]∧cU 1 vx (Is x) en∧Ch s l5 x∧St H1 w' (en::σ):=by
 obtain ⟨ul,rfl,hl⟩:=hr;obtain ⟨al,cl,rfl⟩:=RL.shape hl;obtain ⟨ap,cp,rfl⟩:=RI.shape hp;refine Cl.o func149 ntmps149 ag2 ?_;refine .af (.bx hs fun b2 w hs=>?_);refine .z zg (.zn zg (.af (.y hs (zls [_,_] cn aV) (.o (.call call147 rfl (mF (s:=s) hs ⟨_,rfl,hl⟩) ?_)))));rintro _ w ⟨H1,vt,e,az,rfl,jt,hs⟩;refine .z zm (.z zex (.z zex (.z zg (.zn zg (.seq (.af (.z zm (.zn fV (.dK rfl (fun qR=>?_) (fun qR=>?_))))))))))
 ·refine .af (.z zm (.z zg (.zn zg (.ret (rT (Fin.gU results149 rfl rfl ?_))))))
  rcases jt with ⟨h1,rfl,rfl⟩|⟨h1,h2,rfl,rfl⟩|⟨_,_,rfl,_⟩
  ·exact (h1 (s.dX.2 OY.1)).elim
  ·exact (h2 OY.2).elim
  ·exact (qR rfl).elim
 ·refine .skip (nT (.af ?_));subst qR;obtain ⟨aZ,oX,rs,yG,RQ,TX⟩:s.Ok∧s.Sound∧∃rs,RT H1 vt rs∧Sq s.n rs∧kF s.n s.dG (gt rs):=by
   rcases jt with ⟨h1,h2,_⟩|⟨_,_,h2,_⟩|⟨h1,h2,_,h3⟩
   ·exact (h1 h2.symm).elim
   ·omega
   ·exact ⟨h1,h2,h3⟩
  obtain ⟨at',ct,rfl⟩:=yG.shape;have NN:=aZ.UK oX TX;have BY:=RQ.1;have Fh:=aZ.m0;have Jo:=aZ.m1;have Hi:(s.n:Int)=s.many+1:=by simp only [dv.n];omega
  refine .o (.buildSlice (cells:=[_]) hs cV rfl rfl fun Vt w hs=>?_);refine .zn zg (.seq (.af (.zn zg (.block ?_))));refine .loop (fun p:List Int×Value=>⟨109,[],[(9,I (p.1.length:Int)),(8,p.2),(6,.slice at' rs.length ct),(2,Pt b2),(1,.slice ap l5.length cp)]⟩)
   (fun p w=>Rp (gt rs) (uQ l5) p.1∧p.1.length≤s.n∧∃en,cU 1 p.2 (Is p.1) en∧St H1 w (en:: .blk b2 [I s.many,.slice al s.df.length cl]::σ))
   (fun p=>s.n - p.1.length) ([0],.slice (some ⟨Vt,0,none⟩) 1 1) aH
   ⟨.start,s.Iv,_,.full (len:=1) rfl,hs⟩ ?_
  rintro ⟨X,v8⟩ w ⟨hP,aak,en,hO,hs⟩;dsimp only at hP aak hO ⊢;have hI:=hP.inv (fun i n hn=>CG l5 i hn) NN aak;have aam:=hI.l0;have oP:=hO;obtain ⟨b,cap,sp,rfl,rfl,yB⟩:=hO.some aam;refine .seq (.af (.z zm (.z (zfa cz) (.y hs (zld aj) (.zn oY (.bh rfl (fun iV=>?_) (fun iV=>?_)))))))
  ·refine .skip (nT (.seq (.block (.af (.zn zg ?_)))));have Gc:X.length<s.n:=by omega
   refine .af (.zn zg (.seq (.af (.z zm (.z (de ae) (.zn zm (.for (N:=X.length) (J:=fun k fr w=>∃lo hi,fr=[(10,I lo),(11,I hi),(9,I (X.length:Int)),(8,.slice (some ⟨b,0,none⟩) X.length cap),(6,.slice at' rs.length ct),(2,Pt b2),(1,.slice ap l5.length cp)]∧LoI (gt rs) X X.length k lo∧HiI (gt rs) X X.length k hi∧St H1 w (.blk b (Is X++sp):: .blk b2 [I s.many,.slice al s.df.length cl]::σ)) ai ?_ ?_ ?_)))))))
   ·exact .mk ⟨_,_,rfl,.start _ _ _,.start _ _ _,hs⟩
   ·rintro k fr w hk ⟨lo,hi,rfl,RV,RW,hs⟩;have aal:=hI.bd k hk;have Jl:(gr rs X.length).length=s.n:=RQ.2 _ Gc;have Am:(gr rs k).length=s.n:=RQ.2 _ ai;have B3:gi (gr rs X.length) k≠1000000000→-1400000≤gi (gr rs X.length) k∧gi (gr rs X.length) k≤1400000:=fun h=>NN.bd X.length k Gc ai h
    have y8:gi (gr rs k) X.length≠1000000000→-1400000≤gi (gr rs k) X.length∧gi (gr rs k) X.length≤1400000:=fun h=>NN.bd k X.length ai Gc h
    refine .block (.af (.z zm (.zn zg (.cut (fun fs w=>∃lo',kG fs ⟨109,[],[(10,I lo'),(12,I (k:Int)),(31,I (k:Int)),(30,I (X.length:Int)),(11,I hi),(9,I (X.length:Int)),(8,.slice (some ⟨b,0,none⟩) X.length cap),(6,.slice at' rs.length ct),(2,Pt b2),(1,.slice ap l5.length cp)]⟩∧LoI (gt rs) X X.length (k+1) lo'∧St H1 w (.blk b (Is X++sp):: .blk b2 [I s.many,.slice al s.df.length cl]::σ)) ?_ ?_))))
    ·refine .af (.z zm (.z zm (.ixT hs yG rfl rfl au aI (show X.length<rs.length by omega) rfl ?_)));intro Vs o36 a36 c36 oN QN;refine .q hs (aC rfl aq oN) (.z zm (.ixY hs QN rfl rfl ae an (bu (l:=gr rs X.length) (i:=k) ai) rfl ?_));intro Py o39 kd;refine .q hs (aC rfl aj kd) (.zn fV (.dK rfl (fun rO=>?_) (fun rO=>?_)))
     ·refine .draw mix rfl hs fun w hs=>?_
      refine .zw 0 rfl zm ?_;refine .z 1 rfl zm ?_;refine .z 2 rfl zm ?_;refine .z 3 rfl (zix ae an) ?_;refine .load (i:=4) hs rfl aA .none rfl aj ?_ (hv:=gQ hk sp);refine .zw 5 rfl zm ?_;refine .z 6 rfl zm ?_;refine .ixT (i:=7) hs rfl aA .none yG rfl rfl au aI (show X.length<rs.length by omega) rfl ?_;intro Yu o49 a49 c49 sX XZ;refine .r (i:=8) hs rfl aA .none (aC rfl aq sX) ?_;refine .zw 9 rfl zm (.ixX (enc:=fun x=>[I x]) (i:=10) hs rfl aA .none XZ rfl rfl ae an (bu (l:=gr rs X.length) (i:=k) ai) rfl ?_);intro Ys o52 vB;replace vB:=bD.one vB;refine .r (i:=11) hs rfl aA .none (aC rfl aj vB) ?_;refine .zw 12 rfl gx ?_;refine .z 13 rfl DK ?_;refine .z 14 rfl zg ?_;refine .D hs ?_;exact nT ⟨_,aH,RV.put rO (by have:=B3 rO;have:=aal;have:=NN.n65;show -1000000000≤gi X k - gi (gr rs X.length) k;omega),hs⟩
     ·exact .skip (nT ⟨_,aH,RV.skip rO,hs⟩)
    ·rintro fs w ⟨lo',fM,T7,hs⟩;refine WE.sub ?_ fM;refine .af (.z zm (.z zm (.ixT hs yG rfl rfl au aI (show k<rs.length by omega) rfl ?_)));intro Yq o58 a58 c58 Bn XY;refine .q hs (aC rfl aq Bn) (.z zm (.ixY hs XY rfl rfl ae an (bu (l:=gr rs k) (i:=X.length) ai) rfl ?_));intro Px o61 tU;refine .q hs (aC rfl aj tU) (.zn fV (.dK rfl (fun pK=>?_) (fun pK=>?_)))
     ·refine .draw mix rfl hs fun w hs=>?_
      refine .zw 0 rfl zm ?_;refine .z 1 rfl zm ?_;refine .z 2 rfl zm ?_;refine .z 3 rfl (zix ae an) ?_;refine .load (i:=4) hs rfl aA .none rfl aj ?_ (hv:=gQ hk sp);refine .zw 5 rfl zm ?_;refine .z 6 rfl zm ?_;refine .ixT (i:=7) hs rfl aA .none yG rfl rfl au aI (show k<rs.length by omega) rfl ?_;intro Vp o71 a71 c71 w8 XV;refine .r (i:=8) hs rfl aA .none (aC rfl aq w8) ?_;refine .zw 9 rfl zm (.ixX (enc:=fun x=>[I x]) (i:=10) hs rfl aA .none XV rfl rfl ae an (bu (l:=gr rs k) (i:=X.length) ai) rfl ?_);intro b74 o74 IN;replace IN:=bD.one IN;refine .r (i:=11) hs rfl aA .none (aC rfl aj IN) ?_;refine .zw 12 rfl cH ?_;refine .z 13 rfl Dq ?_;refine .z 14 rfl zg ?_;refine .D hs ?_;exact nB (nT (.mk ⟨lo',_,rfl,T7,RW.put pK (by have:=y8 pK;have:=aal;have:=NN.n65;show gi X k+gi (gr rs k) X.length≤1000000000;omega),hs⟩))
     ·exact .skip (nB (nT (.mk ⟨lo',_,rfl,T7,RW.skip pK,hs⟩)))
   ·rintro fr w ⟨lo,hi,rfl,RV,RW,hs⟩;have Dw:=RV.bd hI NN Gc (Nat.le_refl _);have hhb:=RW.bd hI NN Gc (Nat.le_refl _);have hle:=hI.le NN Gc rfl RV RW;simp only [free] at Dw hhb hle;have U0:=CG l5 ((X.length:Int) - 1) (n:=hi - lo+1);refine nT (.af (.zn zg (.cut (fun fs w=>kG fs ⟨109,[],[(13,I (mQ lo hi (uQ l5 ((X.length:Int) - 1) (hi - lo+1)))),(9,I (X.length:Int)),(8,.slice (some ⟨b,0,none⟩) X.length cap),(6,.slice at' rs.length ct),(2,Pt b2),(1,.slice ap l5.length cp)]⟩∧St H1 w (.blk b (Is X++sp):: .blk b2 [I s.many,.slice al s.df.length cl]::σ)) ?_ ?_)))
    ·refine .block (.af (.z zm (.z fV (.z zm (.EX (t':=82) rfl (fun NG=>?_) (fun NG=>?_))))))
     ·refine .T (.z zm (.T (.z fV (.z zpT (.zn zg (.dK rfl (fun vA=>?_) (fun vA=>?_)))))))
      ·refine .region (.z zm (.z zm (.z zm (.z gx (.z zm (.z zm (.z gx (.z cH (.o (.call call209 rfl (zV hs (hp.mono az) ai ai) ?_))))))))));rintro _ w ⟨rfl,hs⟩;have Nn:hi≠1000000000:=by simpa using vA
       have Zy:=hle (by simpa using NG) Nn;have hq3:=U0 ai;refine .z cH (.zn zg (nB (nT ⟨.cD rfl ?_ aH,hs⟩)));unfold mQ;simp only [free] at*;split<;>(try split)<;>first|rfl|omega|(simp_all;done)|(exfalso;simp_all;omega)
      ·refine .af (.z zm (.z fV (.zn zg (.dK rfl (fun NA=>?_) (fun NA=>?_)))))
       ·refine .region (.z zm (.zn zg (nB (nT ⟨.cD rfl ?_ aH,hs⟩))));unfold mQ;simp only [free] at*;split<;>(try split)<;>first|rfl|omega|(simp_all;done)|(exfalso;simp_all;omega)
       ·refine .af (.z zm (.z fV (.zn zg (.dK rfl (fun nP=>?_) (fun nP=>?_)))))
        ·refine .region (.z zm (.zn zg (nB (nT ⟨.cD rfl ?_ aH,hs⟩))));unfold mQ;simp only [free] at*;split<;>(try split)<;>first|rfl|omega|(simp_all;done)|(exfalso;simp_all;omega)
        ·refine .skip (nB (nT ⟨.cD rfl ?_ aH,hs⟩));unfold mQ;simp only [free] at*;split<;>(try split)<;>first|rfl|omega|(simp_all;done)|(exfalso;simp_all;omega)
     ·refine .Fs 2 2 true (.z zpF (.zn zg (.cF (.af (.z zm (.z fV (.zn zg (.dK rfl (fun NA=>?_) (fun NA=>?_)))))))))
      ·refine .region (.z zm (.zn zg (nB (nT ⟨.cD rfl ?_ aH,hs⟩))));unfold mQ;simp only [free] at*;split<;>(try split)<;>first|rfl|omega|(simp_all;done)|(exfalso;simp_all;omega)
      ·refine .af (.z zm (.z fV (.zn zg (.dK rfl (fun nP=>?_) (fun nP=>?_)))))
       ·refine .region (.z zm (.zn zg (nB (nT ⟨.cD rfl ?_ aH,hs⟩))));unfold mQ;simp only [free] at*;split<;>(try split)<;>first|rfl|omega|(simp_all;done)|(exfalso;simp_all;omega)
       ·refine .skip (nB (nT ⟨.cD rfl ?_ aH,hs⟩));unfold mQ;simp only [free] at*;split<;>(try split)<;>first|rfl|omega|(simp_all;done)|(exfalso;simp_all;omega)
    ·rintro fs w ⟨fM,hs⟩;refine WE.sub ?_ fM;refine .region (.z zm (.z zm (.o (.buildSlice (cells:=[_]) hs cV rfl rfl fun Uv w hs=>?_))));refine .o (.append (ys:=Is [mQ lo hi (uQ l5 ((X.length:Int) - 1) (hi - lo+1))]) hs cA rfl rfl oP (.own .here rfl rfl) (iP _) (fun l' h=>by simp at h;have:=NN.n65;omega) ?_);intro v107 en107 w dY hs;rw [←List.map_append] at dY;exact .zn zg (nB (nT (.region (.z zm (.z cH (.zn zg (nT ⟨(X++[mQ lo hi (uQ l5 ((X.length:Int) - 1) (hi - lo+1))],v107),.cD rfl bH aH,⟨hP.snoc RV RW,by simp;omega,_,dY,hs.sb⟩,by simp;omega⟩)))))))
  ·exact .exit (xT (xT (xB (nT (.af (.z zm (.z zg (.zn zg (.ret (Fin.gU results149 rfl rfl ⟨H1,_,X,_,az,rfl,oP,⟨gt rs,TX,hP,ai⟩,hs.sb⟩))))))))))
theorem rz{w:World}{s:Srv}(hs:St H w σ)(h1:RI H cE s.sp.st)(h2:RI H cB s.sp.wa)(h3:RRd H vr s.rs)(h4:RCm H vc s.cs)(he:s.early):
  aaR 148 [.agg #[I s.sp.id,I s.sp.src,cE,cB,I s.sp.al,I s.sp.up,vr,vc]] w fun u w'=>∃H1,HLe H H1∧RSy H1 u s.s5∧St H1 w' σ:=by
 obtain ⟨ar,cr,rfl⟩:=RRd.shape h3;have A2:=HD s;have BY:=he.2.1;refine Cl.o func148 ntmps148 ag1 ?_;refine .af (.bx hs fun b1 w hs=>?_);refine .o (.alloc hs fk rfl fun b2 w hs=>?_);refine .nil (.af (.y hs (zls [_,_,_,_,_,_,_,_] bA aM) (.o (.call call205 rfl (lP (s:=s) hs h1 h2 h3 h4 he) ?_))));rintro _ w ⟨H1,az,⟨ul,rfl,hL⟩,hs⟩;have hL:RL H1 ul s.df:=hL;obtain ⟨al,cl,rfl⟩:=RL.shape hL;have WV:=RS.len hL;rw [List.length_map] at WV;refine .o (.alloc hs fk rfl fun b3 w hs=>?_);refine .o (.aE (vs:=[_,_]) hs rfl rfl aV fun w hs=>?_);refine .nil (.af (.z (zfa cO) (.y hs (zld gz) (.z (zfa cO) (.y hs (zld gz) (.z (de aO) (.z (zfa aN) (.y hs (zld dm) (.z (de aD) (.z kV (.z gx (.q hs (rE (k:=s.rQ.length) rfl rfl aO bU ai ai) ?_))))))))))));have hT:=RS.head hL (k:=s.rQ.length) ai;rw [←List.map_take,EF] at hT;refine .z (zfa cO) (.o (.store hs rfl rfl sizeOf175 fun w hs=>?_));refine .nil (.af (.y hs (zls [_,_] cn aV) (.o (.aE (vs:=[_,_]) hs rfl rfl aV fun w hs=>?_))));exact .nil (.ret (Fin.iT [] [] hs fun w hs=>⟨_,results1 results148 (dp (vs:=[_,_]) hs rfl cn aV),H1,az,⟨_,rfl,hT⟩,hs.out⟩))
theorem zQ{w:World}{s:Srv}(hs:St H w σ)(h1:RI H cE s.sp.st)(h2:RI H cB s.sp.wa)(h3:RRd H vr s.rs)(h4:RCm H vc s.cs)(he:s.early)(aZ:s.s5.Ok):
  aaR 91 [.agg #[I s.sp.id,I s.sp.src,cE,cB,I s.sp.al,I s.sp.up,vr,vc]] w fun u w'=>∃H1,∃b:Bool,HLe H H1∧u= .bool b∧(b=false→s.s5.Sound)∧St H1 w' σ:=by
 refine Cl.o func91 ntmps91 ag1 ?_;refine .af (.bx hs fun b1 w hs=>?_);refine .zn zg (.af (.y hs (zls [_,_,_,_,_,_,_,_] bA aM) (.o (.call call148 rfl (rz (s:=s) hs h1 h2 h3 h4 he) ?_))));rintro _ w ⟨H1,az,hS,hs⟩;refine .o (.call call147 rfl (mF (s:=s.s5) hs hS) ?_);rintro _ w ⟨H2,vt,e,bg,rfl,jt,hs⟩;refine .z zm (.z zex (.z zex (.z zg (.zn zg (.af (.z zm (.z fV (.zn zg (.ret (Fin.bj results91 rfl ?_))))))))));exact ⟨H2,_,az.trans bg,rfl,fun h=>by
  rcases jt with ⟨k1,_,_⟩|⟨_,_,k3,_⟩|⟨_,k2,_,_⟩
  ·exact (k1 (s.s5.dX.2 aZ)).elim
  ·subst k3;simp at h
  ·exact k2,hs.out⟩
theorem zP{w:World}{s:Srv}{l5:List Int}(hs:St H w σ)(h1:RI H cE s.sp.st)(h2:RI H cB s.sp.wa)(h3:RRd H vr s.rs)(h4:RCm H vc s.cs)(hp:RI H vp l5)(he:s.early)(aZ:s.s5.Ok∧s.s5.Sound):
  aaR 92 [.agg #[I s.sp.id,I s.sp.src,cE,cB,I s.sp.al,I s.sp.up,vr,vc],vp] w fun u w'=>∃H1 x en,HLe H H1∧cU 1 u (Is x) en∧Ch s.s5 l5 x∧St H1 w' (en::σ):=by
 obtain ⟨ap,cp,rfl⟩:=RI.shape hp;refine Cl.o func92 ntmps92 ag2 ?_;refine .af (.bx hs fun b2 w hs=>?_);refine .zn zg (.af (.y hs (zls [_,_,_,_,_,_,_,_] bA aM) (.o (.call call148 rfl (rz (s:=s) hs h1 h2 h3 h4 he) ?_))));rintro _ w ⟨H1,az,hS,hs⟩;refine .z zm (.o (.call call149 rfl (zU (s:=s.s5) hs hS (hp.mono az) aZ) ?_));rintro _ w ⟨H2,vx,x,en,bg,rfl,hO,hP,hs⟩;exact .z zm (.z zex (.z zex (.z zg (.zn zg (.af (.z zm (.zn zg (.ret (Fin.bj results92 rfl ⟨H2,x,en,az.trans bg,hO,hP,hs.sb⟩)))))))))
structure Grow(d D:Int)(L:List Int)(x:Int):Prop where
 low:d≤x
 high:x≤d+D*L.length
 all:∀i<L.length,d≤gi L i∧gi L i<x
 rise:∀i,i+1<L.length→gi L i<gi L (i+1)
theorem Grow.start(d D:Int):Grow d D [] d:=⟨ai,bH,fun i h=>by simp at h,fun i h=>by simp at h⟩
theorem Grow.snoc{D y:Int}(h:Grow d D L x)(h1:x<y)(h2:y≤x+D):Grow d D (L++[x]) y:=by
 obtain ⟨g1,g2,g3,g4⟩:=h;refine ⟨ai,?_,fun i hi=>?_,fun i hi=>?_⟩
 ·rw [List.length_append,List.length_singleton,Int.natCast_add,Int.mul_add];omega
 ·rw [List.length_append,List.length_singleton] at hi;rw [C1];split
  ·have:=g3 i di;omega
  ·rw [if_pos ai];omega
 ·rw [List.length_append,List.length_singleton] at hi;rw [C1,C1,if_pos ai];split
  ·exact g4 i di
  ·rw [if_pos ai];exact (g3 i ai).2
theorem Grow.plc{D:Int}{many:Nat}(h:Grow d D L x)(hd:0≤d)(h2:2≤L.length)(hm:L.length≤many)(hx:d+D*L.length≤most):fP many most L:=
 ⟨h2,hm,by have:=(h.all 0 ai).1;omega,by have:=(h.all (L.length - 1) ai).2;have:=h.high;omega,h.rise⟩
structure Uz(s:Spc):Prop where
 ok:ft s
 st:s.st.length≤4
 wa:s.wa.length≤3
set_option maxHeartbeats 1000000 in
theorem tI{w:World}{v:Value}{l:List Int}(hs:St H w σ)(hr:RI H v l):
  aaR 89 [v] w fun u w'=>∃s cE cB e1 e2,u= .agg #[I s.id,I s.src,cE,cB,I s.al,I s.up]∧Uz s∧cU 1 cE (Is s.st) e1∧cU 1 cB (Is s.wa) e2∧St H w' (e1::e2::σ):=by
 obtain ⟨av,cv,rfl⟩:=RI.shape hr;refine Cl.o func89 ntmps89 ag1 ?_;refine .af (.o (.alloc hs oT rfl fun b2 w hs=>?_));refine .nil (.af (.z zm (.o (.call qk rfl (dM hs hr ai ai) ?_))));rintro _ w ⟨VW,g11,rfl,hs⟩;refine .z cH (.z zm (.o (.call qk rfl (dM hs hr ai ai) ?_)));rintro _ w ⟨VT,g14,rfl,hs⟩;refine .z cH (.z (zbd [_,_,_,_,_,_] vW) (.o (.alloc hs oT rfl fun b3 w hs=>?_)));refine .o (.aE (vs:=[_,_,_,_,_,_]) hs rfl rfl aP fun w hs=>?_);refine .nil (.af (.z zm (.o (.call qk rfl (dM hs hr ai ai) ?_))));rintro _ w ⟨UR,g18,rfl,hs⟩;refine .z cH (.z kV (.zn zg (.af (.zn zg (.seq (.af (.zn zg (.block ?_))))))));refine .loop (fun p:List Int×Int×Value=>⟨90,[],[(6,I (p.1.length:Int)),(5,I p.2.1),(4,I (100*(1+(UR:Int)))),(0,.slice av l.length cv),(3,Pt b3),(2,Pt b2)]⟩)
  (fun p w=>p.1.length≤4∧Grow 0 2707 p.1 p.2.1∧∃en,cU 1 p.2.2 (Is p.1) en∧St H w (en:: .blk b3 [I (1+(VW:Int)),I (1+(VT:Int)),p.2.2,.slice none 0 0,I 0,I 0]:: .blk b2 [I 0,I 0,.slice none 0 0,.slice none 0 0,I 0,I 0]::σ)) (fun p=>4 - p.1.length) ([],0,.slice none 0 0) aH
  ⟨bH,.start _ _,_,.nil 1 none,hs.nul⟩ ?_
 clear hs;rintro ⟨L,x,vo⟩ w ⟨Vj,hG,en,hO,hs⟩;dsimp only at Vj hG hO hs ⊢;obtain ⟨ao,lo,co,rfl,-⟩:=hO.shape;have Dt:=hG.low;have wZ:=hG.high;refine .seq (.af (.z zm (.z zm (.o (.call qk rfl (dM hs hr ai ai) ?_)))));rintro _ w ⟨k23,g23,rfl,hs⟩;refine .z cH (.zn fN (.bh rfl (fun fc=>?_) (fun fc=>?_)))
 ·refine .skip (nT (.seq (.block (.af (.z (zfa bO) (.y hs (zld aq) (.z zm (.o (.buildSlice (cells:=[_]) hs cV rfl rfl fun Mc w hs=>?_)))))))));refine .o (.append (ys:=Is [x]) hs cA rfl rfl hO (.own .here rfl rfl) (iP _) (fun l' h=>by simp at h;omega) ?_);intro v32 en32 w dY hs;rw [←List.map_append] at dY;obtain ⟨a32,l32,c32,rfl,-⟩:=dY.shape;refine .z (zfa bO) (.o (.store hs rfl rfl aI fun w hs=>?_));refine .nil (.region (.z zm (.z zm (.z zm (.z zm (.z cH (.o (.call qk rfl (dM hs hr ai ai) ?_))))))));rintro _ w ⟨VS,g39,rfl,hs⟩;have m41:=kL (a:=100*(1+(UR:Int))) (b:=1+(VS:Int)) (A:=900) (B:=3) ai ai;have m41':100≤100*(1+(UR:Int))*(1+(VS:Int)):=by
   have:=Int.mul_le_mul (a:=100) (c:=100*(1+(UR:Int))) (b:=1) (d:=1+(VS:Int)) ai ai ai ai;omega
  refine .z cH (.z kV (.z cH (.z zm (.o (.call qk rfl (dM hs hr ai ai) ?_)))));rintro _ w ⟨Kw,g44,rfl,hs⟩;refine .z zm (.z zm (.z cH (.o (.call qk rfl (dM hs hr ai ai) ?_))));rintro _ w ⟨OG,g48,rfl,hs⟩;have m49:0≤(Kw:Int)*(OG:Int)∧(Kw:Int)*(OG:Int)≤1:=by
   have e1:Kw=0∨Kw=1:=by omega
   rcases e1 with rfl|rfl<;>simp<;>omega
  exact .z kV (.z kV (.z cH (.zn zg (nB (nT (.region (.z zm (.z cH (.zn zg (nT ⟨(L++[x],_,.slice a32 l32 c32),.cD rfl bH aH,⟨by simp;omega,hG.snoc (by dsimp only;omega) (by dsimp only;omega),_,dY,hs.sb⟩,by simp;omega⟩))))))))))
 ·refine .exit (xT (xT (xB (nT (.af (.z zm ?_))))));have Ma:2≤L.length:=by omega
  refine .o (.call qk rfl (dM hs hr ai ai) ?_);rintro _ w ⟨UQ,g53,rfl,hs⟩;refine .z cH (.z kV (.zn zg (.af (.z zm (.o (.call qk rfl (dM hs hr ai ai) ?_))))));rintro _ w ⟨Zh,g57,rfl,hs⟩;refine .z kV (.zn zg (.seq (.af (.zn zg (.block ?_)))));refine .loop (fun p:List Int×Int×Value=>⟨90,[],[(9,I (p.1.length:Int)),(8,I p.2.1),(7,I (50*(1+(UQ:Int)))),(0,.slice av l.length cv),(3,Pt b3),(2,Pt b2)]⟩)
   (fun p w=>p.1.length≤3∧Grow (10*(Zh:Int)) 1350 p.1 p.2.1∧∃en2,cU 1 p.2.2 (Is p.1) en2∧St H w (en2:: .blk b3 [I (1+(VW:Int)),I (1+(VT:Int)),.slice ao lo co,p.2.2,I 0,I 0]:: .blk b2 [I 0,I 0,.slice none 0 0,.slice none 0 0,I 0,I 0]::en::σ)) (fun p=>3 - p.1.length) ([],10*(Zh:Int),.slice none 0 0) aH
   ⟨bH,.start _ _,_,.nil 1 none,(hs.sb).nul⟩ ?_
  clear hs;rintro ⟨L2,y,vo2⟩ w ⟨aav,Ua,en2,dY,hs⟩;dsimp only at aav Ua dY hs ⊢;obtain ⟨ap,lp,cp,rfl,-⟩:=dY.shape;have hy0:=Ua.low;have VZ:=Ua.high;refine .seq (.af (.z zm (.z zm (.o (.call qk rfl (dM hs hr ai ai) ?_)))));rintro _ w ⟨k61,g61,rfl,hs⟩;refine .z cH (.zn fN (.bh rfl (fun pK=>?_) (fun pK=>?_)))
  ·refine .skip (nT (.seq (.block (.af (.z (zfa aQ) (.y hs (zld aq) (.z zm (.o (.buildSlice (cells:=[_]) hs cV rfl rfl fun b69 w hs=>?_)))))))));refine .o (.append (ys:=Is [y]) hs cA rfl rfl dY (.own .here rfl rfl) (iP _) (fun l' h=>by simp at h;omega) ?_);intro v70 en70 w ic hs;rw [←List.map_append] at ic;obtain ⟨a70,l70,c70,rfl,-⟩:=ic.shape;refine .z (zfa aQ) (.o (.store hs rfl rfl aI fun w hs=>?_));refine .nil (.region (.z zm (.z zm (.z zm (.z zm (.z cH (.o (.call qk rfl (dM hs hr ai ai) ?_))))))));rintro _ w ⟨VR,g77,rfl,hs⟩;have m79:=kL (a:=50*(1+(UQ:Int))) (b:=1+(VR:Int)) (A:=450) (B:=3) ai ai;have m79':50≤50*(1+(UQ:Int))*(1+(VR:Int)):=by
    have:=Int.mul_le_mul (a:=50) (c:=50*(1+(UQ:Int))) (b:=1) (d:=1+(VR:Int)) ai ai ai ai;omega
   exact .z cH (.z kV (.z cH (.zn zg (nB (nT (.region (.z zm (.z cH (.zn zg (nT ⟨(L2++[y],_,.slice a70 l70 c70),.cD rfl bH aH,⟨by simp;omega,Ua.snoc (by dsimp only;omega) (by dsimp only;omega),_,ic,hs.sb⟩,by simp;omega⟩))))))))))
  ·refine .exit (xT (xT (xB (nT (.af (.z zm (.o (.call qk rfl (dM hs hr ai ai) ?_))))))));rintro _ w ⟨k83,g83,rfl,hs⟩;refine .z kV (.z zm (.o (.call qk rfl (dM hs hr ai ai) ?_)));rintro _ w ⟨k86,g86,rfl,hs⟩;refine .z kV (.z (zbd [_,_] xL) (.z (zfa eP) (.o (.aE (vs:=[_,_]) hs rfl rfl sizeOf46 fun w hs=>?_))));refine .nil (.af (.y hs (zls [_,_,_,_,_,_] bE aP) (.o (.aE (vs:=[_,_,_,_,_,_]) hs rfl rfl aP fun w hs=>?_))));refine .nil (.ret ?_);exact Fin.iT [] [] hs fun w hs=>⟨_,results1 results89 (dp (vs:=[_,_,_,_,_,_]) hs rfl bE aP),⟨1+(VW:Int),1+(VT:Int),L,L2,100*(k83:Int),100*(k86:Int)⟩,.slice ao lo co,.slice ap lp cp,en,en2,rfl,
    ⟨⟨hG.plc ai Ma ai ai,Ua.plc ai ai ai ai,by dsimp only;omega,by dsimp only;omega,by dsimp only;omega,by dsimp only;omega⟩,Vj,aav⟩,hO,dY,hs.sb⟩
instance (s:Spc) (r:Rdg):Decidable (pV s r):=
 decidable_of_iff ((1≤r.src∧r.src≤99999)∧(0≤r.st∧r.st≤(s.st.length:Int) - 1)∧(0≤r.wa∧r.wa≤(s.wa.length:Int) - 1)∧(0≤r.tol∧r.tol≤1000)∧(0≤r.val∧r.val≤20000 - r.tol)∧(1≤r.tape∧r.tape≤99)∧(0≤r.day∧r.day≤100000))
  ⟨fun ⟨a,b,c,d,e,f,g⟩=>⟨a,b,c,d,e,f,g⟩,fun ⟨a,b,c,d,e,f,g⟩=>⟨a,b,c,d,e,f,g⟩⟩
def kc(s:Spc)(rs:List Rdg):List Rdg:=rs.filter fun r=>decide (pV s r)
theorem IB(s:Spc){rs:List Rdg}{k:Nat}{r:Rdg}(h:rs[k]? =some r):kc s (rs.take (k+1))=if pV s r then kc s (rs.take k)++[r] else kc s (rs.take k):=by
 unfold kc;rw [dr h,List.filter_append];by_cases e:pV s r
 ·simp [e]
 ·simp [e]
theorem Ai(s:Spc)(rs:List Rdg):(kc s rs).length≤rs.length:=List.length_filter_le _ _
theorem Eh{rs:List Rdg}{r:Rdg}(h:r∈kc s rs):r∈rs∧pV s r:=by
 unfold kc at h;simpa using List.mem_filter.1 h
theorem Nf{rs:List Rdg}(h:t∈bB (kc s rs)):t∈bB rs:=by
 obtain ⟨r,h1,h2⟩:=i6.1 h;exact i6.2 ⟨r,(Eh h1).1,h2⟩
def qU(v:Srv)(x:List Int)(t:TD):Int:=gi x (v.sp.many+1+(mB v.cQ t).toNat)
def SG(v:Srv)(x:List Int):List Int:=x.take (v.sp.many+1)++(bB (kc v.sp v.rs)).map (qU v x)
set_option maxHeartbeats 1000000 in
theorem rq{w:World}{rs:List Rdg}(hs:St H w σ)(hr:RRd H vr rs)(hl:rs.length≤1000000):
  aaR 96 [vr] w fun u w'=>∃en,cU 2 u (tdc (bB rs)).flatten en∧St H w' (en::σ):=by
 obtain ⟨ar,cr,rfl⟩:=RRd.shape hr;refine Cl.o func96 ntmps96 ag1 ?_;refine .af (.zn zg (.af (.zn zg (.seq (.af (.zn zg (.block ?_)))))));refine .loop (fun p:Nat×Value=>⟨32,[],[(4,I (p.1:Int)),(3,p.2),(0,.slice ar rs.length cr)]⟩)
  (fun p w=>p.1≤rs.length∧∃en,cU 2 p.2 (tdc (bB (rs.take p.1))).flatten en∧St H w (en::σ)) (fun p=>rs.length - p.1) (0,.slice none 0 0) aH
  ⟨Nat.zero_le _,_,.nil 2 none,hs.nul⟩ ?_
 rintro ⟨k,vo⟩ w ⟨hk,en,hO,hs⟩;dsimp only at hk hO ⊢;have xC:=nH rs k ai;obtain ⟨ao,co,rfl⟩:=hO.j6 (sL _) ai;rw [fa] at hO ⊢;refine .seq (.af (.z zm (.z zm (.z (de aD) (.zn fN (.bh rfl (fun nv=>?_) (fun nv=>?_)))))))
 ·refine .skip (nT (.seq (.block (.seq (.draw mix rfl hs fun w hs=>?_)))));refine .zw 0 rfl zm ?_;refine .z 1 rfl zm ?_;obtain ⟨r,hx⟩:=nth (l:=rs) (k:=k) ai;have ON:=lY hx;refine .ixX (enc:=Rdg.c) (i:=2) hs rfl aA .none hr rfl rfl aD a6 hx cK ?_;intro oh o14 jH;have d14:cellAt H oh (o14+5)=some (I r.tape):=jH 5 _ rfl;refine .zw 3 rfl (zfa fh) ?_;refine .y 4 rfl hs aj ?_;refine .z 5 rfl zm ?_;refine .z 6 rfl zm ?_;refine .ixX (enc:=Rdg.c) (i:=7) hs rfl aA .none hr rfl rfl aD a6 hx cK ?_;intro pU o19 mL;have d19:cellAt H pU (o19+6)=some (I r.day):=mL 6 _ rfl;refine .zw 8 rfl (zfa fg) ?_;refine .y 9 rfl hs aj ?_;refine .z 10 rfl (zbd [_,_] jQ) ?_;refine .E 11 hs ?_;refine .alloc hs wv rfl ?_;intro b5 w hs;refine .go (.E 12 hs ?_);refine .aE (vs:=[_,_]) hs rfl rfl dw ?_;intro w hs;refine .go (.D hs (.af (.z zm (.y hs (zls [_,_] jT dw) (.o (.call call95 rfl (ru (t:=r.td) (hs.sb:St H w (en:: .blk b5 [I r.tape,I r.day]::σ)) hO ai) ?_))))));rintro _ w ⟨rfl,hs⟩;have Hi:=xw (l:=bB (rs.take k)) (t:=r.td);refine .zn fN (.bh rfl (fun iV=>?_) (fun iV=>?_))
  ·refine .region (.z zm (.y hs (zls [_,_] jT dw) (.o (.buildSlice (cells:=[_,_]) hs ke rfl rfl fun aaN w hs=>?_))));refine .o (.append (ys:=r.td.c) hs fK rfl rfl hO (.own .here rfl rfl) (by simp [TD.c,Value.oneCell']) (fun l h=>by rw [cj _ (sL _),fa] at h;omega) ?_);intro v30 en30 w dY hs;refine .zn zg (nB (nT (.region (.z zm (.z cH (.zn zg (nT ?_)))))));have hn:r.td∉bB (rs.take k):=fun hm=>by have:=Hi.2 hm;omega
   rw [←Ct,show bB (rs.take k)++[r.td]=bB (rs.take (k+1)) by rw [ON];unfold wb;rw [if_neg hn]] at dY;exact ⟨(k+1,v30),.cD rfl bH aH,⟨by dsimp only;omega,_,dY,hs.sb⟩,by dsimp only;omega⟩
  ·refine .skip (nB (nT (.region (.z zm (.z cH (.zn zg (nT ?_)))))));have hm:r.td∈bB (rs.take k):=Hi.1 ai;exact ⟨(k+1,_),.cD rfl bH aH,⟨by dsimp only;omega,en,by dsimp only;rw [ON];unfold wb;rw [if_pos hm];exact hO,hs.sb⟩,by dsimp only;omega⟩
 ·refine .exit (xT (xT (xB (nT (.af (.z zm (.zn zg (.ret (Fin.bj results96 rfl ?_)))))))));obtain rfl:k=rs.length:=by omega
  rw [List.take_length] at hO;exact ⟨en,by rw [List.take_length];exact hO,hs⟩
set_option maxHeartbeats 2000000 in
theorem uK{w:World}{s:Srv}{x:List Int}(hs:St H w σ)(h1:RI H cE s.sp.st)(h2:RI H cB s.sp.wa)(h3:RRd H vr s.rs)(hc:∃a l c,vc= .slice a l c)(hx:RI H vx x)(sV:x.length=s.sys.n)(hb:s.sp.st.length≤1000∧s.sp.wa.length≤1000∧s.rs.length≤1000):
  aaR 97 [.agg #[I s.sp.id,I s.sp.src,cE,cB,I s.sp.al,I s.sp.up,vr,vc],vx] w fun u w'=>∃H1 vr' vy e1 e2,HLe H H1∧u= .tuple #[.agg #[I s.sp.id,I s.sp.src,cE,cB,I s.sp.al,I s.sp.up,vr',vc],vy]∧cU 7 vr' (rdc (kc s.sp s.rs)).flatten e1∧cU 1 vy (Is (SG s x)) e2∧St H1 w' (e1::e2::σ):=by
 obtain ⟨gv,gu,rfl⟩:=RI.shape h1;obtain ⟨fq,fp,rfl⟩:=RI.shape h2;obtain ⟨ar,cr,rfl⟩:=RRd.shape h3;obtain ⟨ac,lc,cc,rfl⟩:=hc;obtain ⟨ax,cx,rfl⟩:=RI.shape hx;have hm:s.sp.many≤1000000:=Nat.mul_le_mul hb.1 hb.2.1;have hn:=Bc s;have xC:=ew s.rs;refine Cl.o func97 ntmps97 ag2 ?_;refine .af (.bx hs fun b2 w hs=>?_);refine .o (.alloc hs iQ rfl fun b4 w hs=>?_);refine .zn zg (.af (.z (zfa aN) (.y hs (zld dm) (.o (.call call96 rfl (jd (rs:=s.rs) hs h3 ai) ?_)))));rintro v15 w ⟨H1,az,hT,hs⟩;obtain ⟨at',ct,rfl⟩:=RTd.shape hT;refine .zn zg (.af (.z (zfa aW) (.y hs (zls [_,_,_,_,_,_] bE aP) (.o (.call Za rfl (eK (s:=s.sp) hs (h1.mono az) (h2.mono az) ⟨hb.1,hb.2.1⟩) ?_)))));rintro _ w ⟨rfl,hs⟩;refine .zn zg (.af (.y hs (zls [_,_,_,_,_,_,_,_] bA aM) (.o (.alloc hs iQ rfl fun b8 w hs=>?_))));refine .o (.aE (vs:=[_,_,_,_,_,_,_,_]) hs rfl rfl aM fun w hs=>?_);refine .nil (.af (.z (zfa aN) (.o (.store hs rfl rfl sizeOf49 fun w hs=>?_))));refine .nil (.seq (.af (.zn zg (.block ?_))));refine .loop (fun p:Nat×Value=>⟨78,[],[(9,I (p.1:Int)),(8,Pt b8),(7,I (s.sp.many:Int)),(6,.slice at' (bB s.rs).length ct),(4,Pt b4),(2,Pt b2),(1,.slice ax x.length cx)]⟩)
  (fun p w=>p.1≤s.rs.length∧∃en,cU 7 p.2 (rdc (kc s.sp (s.rs.take p.1))).flatten en∧St H1 w (en:: .blk b8 [I s.sp.id,I s.sp.src,.slice gv s.sp.st.length gu,.slice fq s.sp.wa.length fp,I s.sp.al,I s.sp.up,p.2,.slice ac lc cc]:: .blk b4 [I 0,I 0,.slice none 0 0,.slice none 0 0,I 0,I 0,.slice none 0 0,.slice none 0 0]:: .blk b2 [I s.sp.id,I s.sp.src,.slice gv s.sp.st.length gu,.slice fq s.sp.wa.length fp,I s.sp.al,I s.sp.up,.slice ar s.rs.length cr,.slice ac lc cc]::σ)) (fun p=>s.rs.length - p.1) (0,.slice none 0 0) aH
  ⟨Nat.zero_le _,_,.nil 7 none,hs.nul⟩ ?_
 clear hs;rintro ⟨k,vo⟩ w ⟨hk,en,hO,hs⟩;dsimp only at hk hO hs ⊢;have lB:=Ai s.sp (s.rs.take k);rw [List.length_take] at lB;obtain ⟨ao,lo,co,rfl,-⟩:=hO.shape;refine .seq (.af (.z zm (.z (zfa aN) (.y hs (zld dm) (.z (de aD) (.zn fN (.bh rfl (fun fc=>?_) (fun fc=>?_))))))))
 ·refine .skip (nT (.seq (.block (.seq (.draw mix rfl hs fun w hs=>?_)))));refine .zw 0 rfl (zfa aW) ?_;refine .ys 1 rfl hs [_,_,_,_,_,_] bE aP ?_;refine .z 2 rfl (zfa aN) ?_;refine .y 3 rfl hs dm ?_;refine .z 4 rfl zm ?_;obtain ⟨r,hr⟩:=nth (l:=s.rs) (k:=k) ai;have Zt:=IB s.sp hr;refine .ixX (enc:=Rdg.c) (i:=5) hs rfl aA .none (h3.mono az) rfl rfl aD a6 hr cK ?_;intro Uq o33 mJ;refine .r (i:=6) hs rfl aA .none (bQ (vs:=r.c) rfl jU a6 mJ) ?_;refine .E 7 hs ?_;refine .call call150 rfl (k7 (s:=s.sp) (r:=r) hs (h1.mono az) (h2.mono az)) ?_;rintro _ w ⟨Oa,rfl,Ga,hs⟩;refine .go (.D hs (.cond rfl (fun nj=>?_) (fun nj=>?_)))
  ·refine .draw mix rfl hs fun w hs=>?_
   refine .zw 0 rfl (zfa aN) ?_;refine .y 1 rfl hs dm ?_;refine .z 2 rfl (zfa aN) ?_;refine .y 3 rfl hs dm ?_;refine .z 4 rfl zm ?_;refine .ixX (enc:=Rdg.c) (i:=5) hs rfl aA .none (h3.mono az) rfl rfl aD a6 hr cK ?_;intro Rg o41 rO;refine .r (i:=6) hs rfl aA .none (bQ (vs:=r.c) rfl jU a6 rO) ?_;refine .E 7 hs ?_;refine .buildSlice (cells:=r.c) hs iE rfl aA ?_;intro Uo w hs;refine .go (.E 8 hs ?_);refine .append (ys:=r.c) hs eL rfl rfl hO (.own .here rfl rfl) (by simp [Rdg.c,Value.oneCell']) (fun l' h=>by rw [cj _ (lS _),dO] at h;omega) ?_;intro v44 en44 w dY hs;rw [←yT,show kc s.sp (s.rs.take k)++[r]=kc s.sp (s.rs.take (k+1)) by rw [Zt,if_pos (Ga.1 (by simpa using nj))]] at dY;obtain ⟨a44,l44,c44,rfl,-⟩:=dY.shape;refine .go (.zw 9 rfl (zfa aN) (.E 10 hs ?_));refine .store hs rfl rfl sizeOf49 ?_;intro w hs;exact .go (.D hs (nB (nT (.region (.z zm (.z cH (.zn zg (nT ⟨(k+1,.slice a44 l44 c44),.cD rfl bH aH,⟨by dsimp only;omega,_,dY,hs.sb⟩,by dsimp only;omega⟩))))))))
  ·exact .skip (nB (nT (.region (.z zm (.z cH (.zn zg (nT ⟨(k+1,.slice ao lo co),.cD rfl bH aH,⟨by dsimp only;omega,en,by dsimp only;rw [Zt,if_neg (fun h=>by rw [Ga.2 h] at nj;cases nj)];exact hO,hs.sb⟩,by dsimp only;omega⟩)))))))
 ·refine .exit (xT (xT (xB (nT (.af ?_)))));obtain rfl:k=s.rs.length:=by omega
  rw [List.take_length] at hO;refine .o (.buildSlice (cells:=[]) hs se rfl rfl fun Vq w hs=>?_);refine .z zm (.z zm (.z cH (.q hs (rE (k:=s.sp.many+1) rfl rfl ae an rfl (by have:=(RS.len hx).2.1;omega)) ?_)));refine .o (.append (xs:=[]) (ys:=Is (x.take (s.sp.many+1))) hs cA rfl rfl (.full (len:=0) rfl) (.ints (RI.head (hx.mono az) (k:=s.sp.many+1) ai)) (iP _) (fun l h=>by simp at h;rw [List.length_take];omega) ?_);intro v51 en51 w ic hs;rw [List.nil_append] at ic;refine .zn zg (.af (.z (zfa aN) (.y hs (zld dm) ?_)));have lB:=Ai s.sp s.rs;obtain ⟨H2,bg,hRR,Ff,back⟩:=hO.G6 (lS _) ai (by rw [dO];omega) (hs.sb:St H1 w (en::en51:: .blk b8 [I s.sp.id,I s.sp.src,.slice gv s.sp.st.length gu,.slice fq s.sp.wa.length fp,I s.sp.al,I s.sp.up,.slice ao lo co,.slice ac lc cc]:: .blk b4 [I 0,I 0,.slice none 0 0,.slice none 0 0,I 0,I 0,.slice none 0 0,.slice none 0 0]:: .blk b2 [I s.sp.id,I s.sp.src,.slice gv s.sp.st.length gu,.slice fq s.sp.wa.length fp,I s.sp.al,I s.sp.up,.slice ar s.rs.length cr,.slice ac lc cc]::σ));refine .o (.call call96 rfl (rq (rs:=kc s.sp s.rs) Ff hRR ai) ?_);rintro v54 w ⟨enT,hOT,hsT⟩;have hs:=back (HLe.refl _) hsT;have V8:=ew (kc s.sp s.rs);obtain ⟨H3,bZ,TY,hs⟩:=cU.dh (m:=2) (cs:=tdc (bB (kc s.sp s.rs))) hOT (sL _) ai (by rw [fa];omega) hs (.there .here);have TY:RTd H3 v54 (bB (kc s.sp s.rs)):=TY;obtain ⟨a54,c54,rfl⟩:=RTd.shape TY;refine .zn zg (.seq (.af (.zn zg (.block ?_))));refine .loop (fun p:Nat×Value=>⟨78,[],[(12,I (p.1:Int)),(10,p.2),(11,.slice a54 (bB (kc s.sp s.rs)).length c54),(8,Pt b8),(7,I (s.sp.many:Int)),(6,.slice at' (bB s.rs).length ct),(4,Pt b4),(1,.slice ax x.length cx)]⟩)
   (fun p w=>p.1≤(bB (kc s.sp s.rs)).length∧∃en2,cU 1 p.2 (Is (x.take (s.sp.many+1)++((bB (kc s.sp s.rs)).take p.1).map (qU s x))) en2∧St H3 w (en2:: .blk b8 [I s.sp.id,I s.sp.src,.slice gv s.sp.st.length gu,.slice fq s.sp.wa.length fp,I s.sp.al,I s.sp.up,.slice ao lo co,.slice ac lc cc]:: .blk b4 [I 0,I 0,.slice none 0 0,.slice none 0 0,I 0,I 0,.slice none 0 0,.slice none 0 0]::en::σ)) (fun p=>(bB (kc s.sp s.rs)).length - p.1) (0,v51) aH
   ⟨Nat.zero_le _,en51,by simpa using ic,hs.sb⟩ ?_
  clear hs;rintro ⟨j,vy⟩ w ⟨hj,en2,qT,hs⟩;dsimp only at hj qT hs ⊢;obtain ⟨ay,ly,cy,rfl,-⟩:=qT.shape;refine .seq (.af (.z zm (.z zm (.z (de cf) (.zn fN (.bh rfl (fun Bn=>?_) (fun Bn=>?_)))))))
  ·refine .skip (nT (.seq (.block (.region (.z zm (.z zm (.z zm (.z cH (.z zm (.z zm (.z zm ?_)))))))))));obtain ⟨t,ht⟩:=nth (l:=bB (kc s.sp s.rs)) (k:=j) ai;have htm:t∈s.cQ:=Nf (List.mem_of_getElem? ht);obtain ⟨q,q1,q2,q3⟩:=jA htm;have q3':q<(bB s.rs).length:=q3;have q1':mB (bB s.rs) t=(q:Int):=q1;have hnt:s.sys.n=s.sp.many+(bB s.rs).length+1:=hn;have Xb:qU s x t=gi x (s.sp.many+1+q):=by unfold qU;rw [q1,Int.toNat_natCast]
   refine .ixX (enc:=TD.c) hs TY rfl rfl cf dw ht cK ?_;intro b68 o68 KW;refine .q hs (bQ (vs:=t.c) rfl jT dw KW) (.o (.call call95 rfl (mD (t:=t) hs (hT.mono bZ) ai) ?_));rintro _ w ⟨rfl,hs⟩;rw [q1'];refine .z cH (.ixY hs (hx.mono (az.trans bZ)) rfl rfl ae an (bu (l:=x) (i:=s.sp.many+1+q) ai) ai ?_);intro b72 o72 KV;refine .q hs (aC rfl aj KV) (.o (.buildSlice (cells:=[_]) hs cV rfl rfl fun b74 w hs=>?_));refine .o (.append (ys:=Is [gi x (s.sp.many+1+q)]) hs cA rfl rfl qT (.own .here rfl rfl) (iP _) (fun l' h=>by simp at h;omega) ?_);intro v75 en75 w Bq hs;rw [←List.map_append,List.append_assoc,←Xb,show ((bB (kc s.sp s.rs)).take j).map (qU s x)++[qU s x t]=((bB (kc s.sp s.rs)).take (j+1)).map (qU s x) by rw [dr ht];simp] at Bq;obtain ⟨a75,l75,c75,rfl,-⟩:=Bq.shape;exact .zn zg (nB (nT (.region (.z zm (.z cH (.zn zg (nT ⟨(j+1,.slice a75 l75 c75),.cD rfl bH aH,⟨by dsimp only;omega,_,Bq,hs.sb⟩,by dsimp only;omega⟩)))))))
  ·refine .exit (xT (xT (xB (nT (.af (.y hs (zls [_,_,_,_,_,_,_,_] bA aM) (.z zm (.o (.aE (vs:=[_,_,_,_,_,_,_,_]) hs rfl rfl aM fun w hs=>?_)))))))));refine .zn zg (.ret ?_);obtain rfl:j=(bB (kc s.sp s.rs)).length:=by omega
   rw [List.take_length] at qT;exact Fin.iT [] [] hs fun w hs=>⟨_,results2 results97 (dp (vs:=[_,_,_,_,_,_,_,_]) hs rfl bA aM) rfl,H3,_,_,en,en2,az.trans bZ,rfl,hO,qT,hs.sb⟩
theorem IA{rs R:List Rdg}{cs:List Cmp}{x:List Int}(hf:ja (Srv.s5 ⟨s,rs,cs⟩).dG (gi x))(Dt:gi x 0=0)(sV:x.length=s.many+(bB rs).length+1)(ht:bB R=bB rs)(hS:∀r∈R,RdS s r)(hR:∀r∈R,LV s (bB rs) x r):
  LX ⟨s,kc s R,cs⟩ (SG ⟨s,R,cs⟩ x):=by
 have hl:(x.take (s.many+1)).length=s.many+1:=by rw [List.length_take];omega
 refine Kn (R:=R) (x:=x) List.filter_sublist hS Dt (Lq hf ht hR) ?_ (fun b hb=>?_) fun j hj=>?_
 ·show (x.take (s.many+1)++(bB (kc s R)).map (qU ⟨s,R,cs⟩ x)).length=_;rw [List.length_append,hl,List.length_map]
 ·show gi (x.take (s.many+1)++(bB (kc s R)).map (qU ⟨s,R,cs⟩ x)) b=_;unfold gi;simp only [List.getD];rw [List.getElem?_append_left ai,List.getElem?_take_of_lt ai]
 ·show gi (x.take (s.many+1)++(bB (kc s R)).map (qU ⟨s,R,cs⟩ x)) (s.many+1+j)=_;have e:∀t,(bB (kc s R))[j]? =some t→gi (x.take (s.many+1)++(bB (kc s R)).map (qU ⟨s,R,cs⟩ x)) (s.many+1+j)=qU ⟨s,R,cs⟩ x t:=fun t ht=>by
   unfold gi;simp only [List.getD];rw [List.getElem?_append_right ai,hl,show s.many+1+j - (s.many+1)=j by omega,List.getElem?_map,ht];rfl
  rw [e _ (Fq hj)];rfl
set_option maxHeartbeats 2000000 in
theorem Be{w:World}(hs:St H w σ)(g1:RI H vs sl)(g2:RF5 H v5 ie)(g3:RF4 H v4 ir)(g4:RI H vp pk):
  aaR 31 [.agg #[vs,v5,v4,vp,I z1,I z2,I z3]] w fun u w'=>∃H1 s y cE cB vr vc vy e1 e2 e3 e4 e5,HLe H H1∧u= .tuple #[.agg #[I s.sp.id,I s.sp.src,cE,cB,I s.sp.al,I s.sp.up,vr,vc],vy]∧YX s∧PD s cE cB vr vc e1 e2 e3 e4∧cU 1 vy (Is y) e5∧LX s y∧St H1 w' (e1::e2::e3::e4::e5::σ):=by
 obtain ⟨avs,cvs,rfl⟩:=RI.shape g1;obtain ⟨av5,cv5,rfl⟩:=g2.shape;obtain ⟨av4,cv4,rfl⟩:=g3.shape;obtain ⟨avp,cvp,rfl⟩:=RI.shape g4;refine Cl.o func31 ntmps31 ag1 ?_;refine .af (.bx hs fun b1 w hs=>?_);refine .o (.alloc hs iQ rfl fun b2 w hs=>?_);refine .zn zg (.af (.z (zfa r8) (.y hs (zld aq) (.o (.call call89 rfl (tI hs g1) ?_)))));rintro _ w ⟨s,cE,cB,e1,e2,rfl,Pe,oP,dY,hs⟩;have TZ:=Pe.st;have TW:=Pe.wa;have hSt2:=Pe.ok.st.two;have hWa2:=Pe.ok.wa.two;obtain ⟨gv,lst,gu,rfl,WT⟩:=oP.shape;obtain ⟨fq,lwa,fp,rfl,WS⟩:=dY.shape;obtain rfl:s.st.length=lst:=by simpa [Is] using WT
 obtain rfl:s.wa.length=lwa:=by simpa [Is] using WS
 refine .z (zbd [_,_,_,_,_,_,_,_] tr) (.o (.alloc hs iQ rfl fun b4 w hs=>?_));refine .o (.aE (vs:=[_,_,_,_,_,_,_,_]) hs rfl rfl aM fun w hs=>?_);refine .nil (.af (.z (zfa aW) (.y hs (zls [_,_,_,_,_,_] bE aP) (.o (.alloc hs oT rfl fun b5 w hs=>?_)))));refine .o (.aE (vs:=[_,_,_,_,_,_]) hs rfl rfl aP fun w hs=>?_);refine .nil (.cut (fun fs w=>∃rs e3 ar cr,kG fs ⟨208,[],[(5,Pt b5),(4,Pt b4),(2,Pt b2),(1,Pt b1)]⟩∧rs.length≤14∧rs.length≤ie.length∧(∀r∈rs,pV s r)∧cU 7 (.slice ar rs.length cr) (rdc rs).flatten e3∧St H w (e3:: .blk b5 [I s.id,I s.src,.slice gv s.st.length gu,.slice fq s.wa.length fp,I s.al,I s.up]:: .blk b4 [I s.id,I s.src,.slice gv s.st.length gu,.slice fq s.wa.length fp,I s.al,I s.up,.slice ar rs.length cr,.slice none 0 0]::e1::e2:: .blk b2 [I 0,I 0,.slice none 0 0,.slice none 0 0,I 0,I 0,.slice none 0 0,.slice none 0 0]:: .blk b1 [.slice avs sl.length cvs,.slice av5 ie.length cv5,.slice av4 ir.length cv4,.slice avp pk.length cvp,I z1,I z2,I z3]::σ)) ?_ ?_)
 ·refine .af (.zn zg (.block ?_));refine .loop (fun p:List Rdg×Option Addr×Nat=>⟨208,[],[(6,I (p.1.length:Int)),(5,Pt b5),(4,Pt b4),(2,Pt b2),(1,Pt b1)]⟩)
   (fun p w=>p.1.length≤14∧p.1.length≤ie.length∧(∀r∈p.1,pV s r)∧∃e3,cU 7 (.slice p.2.1 p.1.length p.2.2) (rdc p.1).flatten e3∧
    St H w (e3:: .blk b5 [I s.id,I s.src,.slice gv s.st.length gu,.slice fq s.wa.length fp,I s.al,I s.up]:: .blk b4 [I s.id,I s.src,.slice gv s.st.length gu,.slice fq s.wa.length fp,I s.al,I s.up,.slice p.2.1 p.1.length p.2.2,.slice none 0 0]::e1::e2:: .blk b2 [I 0,I 0,.slice none 0 0,.slice none 0 0,I 0,I 0,.slice none 0 0,.slice none 0 0]:: .blk b1 [.slice avs sl.length cvs,.slice av5 ie.length cv5,.slice av4 ir.length cv4,.slice avp pk.length cvp,I z1,I z2,I z3]::σ)) (fun p=>14 - p.1.length) ([],none,0) aH
   ⟨bH,bH,bH,_,.nil 7 none,(hs.sb).nul⟩ ?_
  clear hs;rintro ⟨rs,ar,cr⟩ w ⟨FQ,UY,Al,e3,ic,hs⟩;dsimp only at FQ UY Al ic hs ⊢;refine .seq (.af (.z zm (.z (zfa jJ) (.y hs (zld isAgg35) (.z (de runUnderlying35) (.z fN (.z zm (.iz (t':=31) rfl (fun yE=>?_) (fun yE=>?_)))))))))
  ·refine .T (.z zm (.T (.z fN (.zn zpT (.bh rfl (fun jx=>?_) (fun jx=>?_))))))
   ·refine .skip (nT (.seq (.block (.af (.z (zfa jJ) (.y hs (zld isAgg35) (.z zm ?_)))))));obtain ⟨n,hn⟩:=nth (l:=ie) (k:=rs.length) ai;refine .ixX (enc:=F5.v) hs g2 rfl rfl runUnderlying35 UG hn cK ?_;intro Up o40 nN;refine .q hs (bQ (vs:=n.v) rfl isAgg151 UG nN) (.o (.alloc hs zeroValue151 rfl fun b7 w hs=>?_));refine .o (.aE (vs:=[_,_,_,_,_]) hs rfl rfl UG fun w hs=>?_);refine .nil (.seq (.draw mix rfl hs fun w hs=>?_));refine .zw 0 rfl (zia 4 nD an) (.zv 1 rfl hs (p8 aj) (.zw 3 rfl (zia 4 nD an) (.y 4 rfl hs aj ?_)));refine .z 5 rfl Ru ?_;refine .E 2 hs ?_;refine .call kK rfl (da hs ai) ?_;rintro _ w ⟨Kw,g44,rfl,hs⟩;refine .go (.E 6 hs ?_);refine .call kK rfl (da hs ai) ?_;rintro _ w ⟨OG,g48,rfl,hs⟩;have m49:0≤(Kw:Int)*(OG:Int)∧(Kw:Int)*(OG:Int)≤39:=by
     have e1:OG=0∨OG=1:=by omega
     rcases e1 with rfl|rfl<;>simp<;>omega
    refine .go (.zw 7 rfl kV ?_);refine .z 8 rfl zg ?_;refine .D hs ?_;refine .draw mix rfl hs fun w hs=>?_
    refine .zw 0 rfl (zfa aN) ?_;refine .y 1 rfl hs dm ?_;refine .z 2 rfl zm ?_;refine .z 3 rfl cH ?_;refine .zw 4 rfl (zia 0 nD an) (.y 5 rfl hs aj ?_);refine .z 6 rfl (zfa bO) ?_;refine .y 7 rfl hs aq ?_;refine .z 8 rfl (de ae) ?_;refine .zw 10 rfl (zia 1 nD an) (.y 11 rfl hs aj ?_);refine .z 12 rfl (zfa aQ) ?_;refine .y 13 rfl hs aq ?_;refine .z 14 rfl (de ae) ?_;refine .z 16 rfl zm ?_;refine .zw 17 rfl (zia 2 nD an) (.zv 18 rfl hs (p8 aj) (.zw 21 rfl (zia 3 nD an) (.zv 22 rfl hs (p8 aj) (.E 9 hs ?_))));refine .call kK rfl (da hs ai) ?_;rintro _ w ⟨UP,g59,rfl,hs⟩;refine .go (.E 15 hs ?_);refine .call kK rfl (da hs ai) ?_;rintro _ w ⟨k65,g65,rfl,hs⟩;refine .go (.E 19 hs ?_);refine .call kK rfl (da hs ai) ?_;rintro _ w ⟨k69,g69,rfl,hs⟩;refine .go (.zw 20 rfl cH (.E 23 hs ?_));refine .call kK rfl (da hs ai) ?_;rintro _ w ⟨k73,g73,rfl,hs⟩;obtain ⟨r,hr⟩:∃r:Rdg,r=⟨10+(rs.length:Int),(UP:Int),(k65:Int),0,(Kw:Int)*(OG:Int),1+(k69:Int),(k73:Int)⟩:=⟨_,rfl⟩;have KI:pV s r:=by subst hr;exact ⟨by dsimp only;omega,by dsimp only;omega,by dsimp only;omega,by dsimp only;omega,by dsimp only;omega,by dsimp only;omega,by dsimp only;omega⟩
    refine .go (.zw 24 rfl (zbd [_,_,_,_,_,_,_] jR) (.E 25 hs ?_));refine .buildSlice (cells:=r.c) hs iE rfl (by subst hr;kernel_rfl) ?_;intro Yp w hs;refine .go (.E 26 hs ?_);refine .append (ys:=r.c) hs eL rfl rfl ic (.own .here rfl rfl) (by simp [Rdg.c,Value.oneCell']) (fun l' h=>by rw [cj _ (lS _),dO] at h;omega) ?_;intro v76 en76 w qT hs;rw [←yT] at qT;obtain ⟨a76,c76,rfl⟩:=qT.j6 (lS _) ai;rw [dO] at qT ⊢;refine .go (.zw 27 rfl (zfa aN) (.E 28 hs ?_));refine .store hs rfl rfl sizeOf49 ?_;intro w hs;refine .go (.D hs (nB (nT (.region (.z zm (.z cH (.zn zg (nT ?_))))))));exact ⟨(rs++[r],a76,c76),.cD rfl bH aH,⟨by simp;omega,by simp;omega,fun q hq=>by
      simp only [List.mem_append,List.mem_singleton] at hq
      rcases hq with hq|rfl
      ·exact Al q hq
      ·exact KI,_,qT,hs.sb⟩,by simp;omega⟩
   ·exact .exit (xT (xT (xB (nT ⟨rs,e3,ar,cr,aH,FQ,UY,Al,ic,hs⟩))))
  ·exact .Fs 2 5 true (.zn zpF (.cF (.exit (xT (xT (xB (nT ⟨rs,e3,ar,cr,aH,FQ,UY,Al,ic,hs⟩)))))))
 ·clear hs;rintro fs w ⟨rs,e3,ar,cr,fM,FQ,UY,Al,ic,hs⟩;refine WE.sub ?_ fM;clear fM;refine .cut (fun fs w=>∃cs e4 ac cc,kG fs ⟨208,[],[(5,Pt b5),(4,Pt b4),(2,Pt b2),(1,Pt b1)]⟩∧cs.length≤5∧(∀c∈cs,uk c)∧(Srv.s5 ⟨s,rs,cs⟩).Sound∧cU 6 (.slice ac cs.length cc) (cmc cs).flatten e4∧St H w (e1::e2::e3::e4:: .blk b5 [I s.id,I s.src,.slice gv s.st.length gu,.slice fq s.wa.length fp,I s.al,I s.up]:: .blk b4 [I s.id,I s.src,.slice gv s.st.length gu,.slice fq s.wa.length fp,I s.al,I s.up,.slice ar rs.length cr,.slice ac cs.length cc]:: .blk b2 [I 0,I 0,.slice none 0 0,.slice none 0 0,I 0,I 0,.slice none 0 0,.slice none 0 0]:: .blk b1 [.slice avs sl.length cvs,.slice av5 ie.length cv5,.slice av4 ir.length cv4,.slice avp pk.length cvp,I z1,I z2,I z3]::σ)) ?_ ?_
  ·refine .af (.zn zg (.block ?_));refine .loop (fun p:Nat×List Cmp×Option Addr×Nat=>⟨208,[],[(9,I (p.1:Int)),(5,Pt b5),(4,Pt b4),(2,Pt b2),(1,Pt b1)]⟩)
    (fun p w=>p.1≤5∧p.1≤ir.length∧p.2.1.length≤p.1∧(∀c∈p.2.1,uk c)∧(Srv.s5 ⟨s,rs,p.2.1⟩).Sound∧∃e4,cU 6 (.slice p.2.2.1 p.2.1.length p.2.2.2) (cmc p.2.1).flatten e4∧
     St H w (e1::e2::e3::e4:: .blk b5 [I s.id,I s.src,.slice gv s.st.length gu,.slice fq s.wa.length fp,I s.al,I s.up]:: .blk b4 [I s.id,I s.src,.slice gv s.st.length gu,.slice fq s.wa.length fp,I s.al,I s.up,.slice ar rs.length cr,.slice p.2.2.1 p.2.1.length p.2.2.2]:: .blk b2 [I 0,I 0,.slice none 0 0,.slice none 0 0,I 0,I 0,.slice none 0 0,.slice none 0 0]:: .blk b1 [.slice avs sl.length cvs,.slice av5 ie.length cv5,.slice av4 ir.length cv4,.slice avp pk.length cvp,I z1,I z2,I z3]::σ)) (fun p=>5 - p.1) (0,[],none,0) aH
    ⟨bH,bH,bH,bH,Lr (CN Pe.ok TZ TW FQ bH Al bH) rfl,.nul,.nil 6 none,(hs.nul).sb⟩ ?_
   clear hs;rintro ⟨k,cs,ac,cc⟩ w ⟨hk5,hkf,Xj,Es,oX,e4,qT,hs⟩;dsimp only at hk5 hkf Xj Es oX qT hs ⊢;refine .seq (.af (.z zm (.z (zfa mj) (.y hs (zld isAgg36) (.z (de runUnderlying36) (.z fN (.z zm (.iz (t':=83) rfl (fun XB=>?_) (fun XB=>?_)))))))))
   ·refine .T (.z zm (.T (.z fN (.zn zpT (.bh rfl (fun Xp=>?_) (fun Xp=>?_))))))
    ·refine .skip (nT (.seq (.block (.af (.z (zfa mj) (.y hs (zld isAgg36) (.z zm ?_)))))));obtain ⟨n,hn⟩:=nth (l:=ir) (k:=k) ai;refine .ixX (enc:=F4.v) hs g3 rfl rfl runUnderlying36 sizeOf97 hn cK ?_;intro b92 o92 KS;refine .q hs (bQ (vs:=n.v) rfl isAgg97 sizeOf97 KS) (.o (.alloc hs zeroValue97 rfl fun ny w hs=>?_));refine .o (.aE (vs:=[_,_,_,_]) hs rfl rfl sizeOf97 fun w hs=>?_);refine .nil (.af (.z (zia 1 GC an) (.y hs (zld aj) (.o (.call kK rfl (da hs ai) ?_)))));rintro _ w ⟨Zg,g96,rfl,hs⟩;refine .z gx (.zn zg (.af (.z (zia 3 GC an) (.y hs (zld aj) (.o (.call kK rfl (da hs ai) ?_))))));rintro _ w ⟨SI,g100,rfl,hs⟩;refine .zn zg (.seq (.draw mix rfl hs fun w hs=>?_));refine .zw 0 rfl (zfa cJ) ?_;refine .y 1 rfl hs jZ ?_;refine .z 2 rfl zm ?_;refine .z 3 rfl cH ?_;refine .zw 4 rfl (zia 0 GC an) (.y 5 rfl hs aj ?_);refine .z 8 rfl zm ?_;refine .z 9 rfl zm ?_;refine .zw 10 rfl (zia 3 GC an) (.y 11 rfl hs aj ?_);refine .z 12 rfl Ru ?_;refine .z 15 rfl zm ?_;refine .z 16 rfl zm ?_;refine .zw 17 rfl (zia 2 GC an) (.zv 18 rfl hs (p8 aj) (.E 6 hs ?_));refine .call kK rfl (da hs ai) ?_;rintro _ w ⟨VX,g107,rfl,hs⟩;refine .go (.zw 7 rfl cH (.E 13 hs ?_));refine .call kK rfl (da hs ai) ?_;rintro _ w ⟨VV,g114,rfl,hs⟩;refine .go (.zw 14 rfl cH (.E 19 hs ?_));refine .call kK rfl (da hs ai) ?_;rintro _ w ⟨VU,g120,rfl,hs⟩;obtain ⟨c,hc⟩:∃c:Cmp,c=⟨30+(k:Int),1+(VX:Int),(SI:Int),(SI:Int)+(VV:Int),(Zg:Int) - 40,(Zg:Int) - 40+(VU:Int)⟩:=⟨_,rfl⟩;have Xl:uk c:=by subst hc;exact ⟨by dsimp only;omega,by dsimp only;omega,by dsimp only;omega,by dsimp only;omega,by dsimp only;omega,by dsimp only;omega⟩
     refine .go (.zw 20 rfl cH ?_);refine .z 21 rfl (zbd [_,_,_,_,_,_] si) ?_;refine .E 22 hs ?_;refine .buildSlice (cells:=c.c) hs m9 rfl (by subst hc;kernel_rfl) ?_;intro b123 w hs;refine .go (.E 23 hs ?_);refine .append (ys:=c.c) hs mv rfl rfl qT (.own .here rfl rfl) (by simp [Cmp.c,Value.oneCell']) (fun l' h=>by rw [cj _ (xh _),hZ] at h;omega) ?_;intro v124 en124 w Bq hs;rw [←HL] at Bq;obtain ⟨a124,c124,rfl⟩:=Bq.j6 (xh _) ai;rw [hZ] at Bq ⊢;have Et:(cs++[c]).length=cs.length+1:=by simp
     have O0:∀d∈cs++[c],uk d:=fun d hd=>by
      simp only [List.mem_append,List.mem_singleton] at hd
      rcases hd with hd|rfl
      ·exact Es d hd
      ·exact Xl
     have FP:eW ⟨s,rs,cs++[c]⟩:=CN Pe.ok TZ TW FQ ai Al O0;refine .go (.zw 24 rfl (zfa cJ) (.E 25 hs ?_));refine .store hs rfl rfl sizeOf50 ?_;intro w hs;refine .go (.D hs (.af (.y hs (zls [_,_,_,_,_,_,_,_] bA aM) ?_)));obtain ⟨Hx,IH,r1,r2,r3,r4,Ff,back⟩:=PD.G6 (s:=⟨s,rs,cs++[c]⟩) ⟨oP,dY,ic,Bq⟩ (by show s.st.length≤_;omega) (by show s.wa.length≤_;omega) (by show rs.length≤_;omega) (by show (cs++[c]).length≤_;omega) (hs.sb:St H w (e1::e2::e3::en124:: .blk b5 [I s.id,I s.src,.slice gv s.st.length gu,.slice fq s.wa.length fp,I s.al,I s.up]:: .blk b4 [I s.id,I s.src,.slice gv s.st.length gu,.slice fq s.wa.length fp,I s.al,I s.up,.slice ar rs.length cr,.slice a124 (cs++[c]).length c124]:: .blk b2 [I 0,I 0,.slice none 0 0,.slice none 0 0,I 0,I 0,.slice none 0 0,.slice none 0 0]:: .blk b1 [.slice avs sl.length cvs,.slice av5 ie.length cv5,.slice av4 ir.length cv4,.slice avp pk.length cvp,I z1,I z2,I z3]::σ));refine .o (.call call91 rfl (zQ (s:=⟨s,rs,cs++[c]⟩) Ff r1 r2 r3 r4 FP.early (Gd FP)) ?_);rintro _ w ⟨Hy,YF,KM,rfl,TO,OP⟩;have hs:=back KM OP;clear Ff OP back;refine .nil (.cond rfl (fun B0=>?_) (fun B0=>?_))
     ·refine .region (.z (zfa cJ) (.y hs (zld jZ) (.z (zfa cJ) (.y hs (zld jZ) (.z (de bL) (.z gx (.q hs (rE (k:=cs.length) rfl rfl bL eg ai (by have:=Bq.le;omega)) ?_)))))));refine .z (zfa cJ) (.o (.store hs rfl rfl sizeOf50 fun w hs=>?_));exact .nil (nB (nT (.region (.z zm (.z cH (.zn zg (nT ⟨(k+1,cs,a124,c124),.cD rfl bH aH,⟨by dsimp only;omega,by dsimp only;omega,by dsimp only;omega,Es,oX,_,Bq.Q2,hs.sb⟩,by dsimp only;omega⟩)))))))
     ·exact .skip (nB (nT (.region (.z zm (.z cH (.zn zg (nT ⟨(k+1,cs++[c],a124,c124),.cD rfl bH aH,⟨by dsimp only;omega,by dsimp only;omega,by dsimp only;omega,O0,TO (by simpa using B0),_,Bq,hs.sb⟩,by dsimp only;omega⟩)))))))
    ·exact .exit (xT (xT (xB (nT ⟨cs,e4,ac,cc,aH,ai,Es,oX,qT,hs⟩))))
   ·exact .Fs 2 5 true (.zn zpF (.cF (.exit (xT (xT (xB (nT ⟨cs,e4,ac,cc,aH,ai,Es,oX,qT,hs⟩)))))))
  ·clear hs;rintro fs w ⟨cs,e4,ac,cc,fM,KY,Es,oX,qT,hs⟩;refine WE.sub ?_ fM;clear fM;have FP:eW ⟨s,rs,cs⟩:=CN Pe.ok TZ TW FQ KY Al Es;refine .af (.y hs (zls [_,_,_,_,_,_,_,_] bA aM) (.z (zfa rZ) (.y hs (zld aq) ?_)));obtain ⟨Hx,IH,r1,r2,r3,r4,Ff,back⟩:=PD.G6 (s:=⟨s,rs,cs⟩) ⟨oP,dY,ic,qT⟩ (by show s.st.length≤_;omega) (by show s.wa.length≤_;omega) (by show rs.length≤_;omega) (by show cs.length≤_;omega) hs;refine .o (.call call92 rfl (zP (s:=⟨s,rs,cs⟩) Ff r1 r2 r3 r4 (g4.mono IH) FP.early ⟨Gd FP,oX⟩) ?_);rintro v139 w ⟨Hy,x,ex,KM,hOx,hP,OP⟩;have hs:=back KM OP;clear Ff OP back r1 r2 r3 r4;obtain ⟨sV,Dt,Ng,OZ⟩:=hP.Bs (Gd FP) oX;have pG:=FP.many;have ZO:(Srv.s5 ⟨s,rs,cs⟩).n=s.many+(bB rs).length+1:=Bc ⟨s,rs,cs⟩;have sV:x.length=s.many+(bB rs).length+1:=by rw [sV];exact ZO
   rw [ZO] at Ng;have pG:s.many+(bB rs).length≤64:=pG;obtain ⟨Hz,Te,hX,hs⟩:=cU.dR hOx ai hs dy;obtain ⟨ax,cx,rfl⟩:=RI.shape hX;refine .zn zg (.seq (.af (.zn zg (.block ?_))));refine .loop (fun p:Nat×List Rdg=>⟨208,[],[(14,I (p.1:Int)),(13,.slice ax x.length cx),(5,Pt b5),(4,Pt b4),(2,Pt b2),(1,Pt b1)]⟩)
    (fun p w=>p.1≤rs.length∧p.2.length=rs.length∧bB p.2=bB rs∧(∀r∈p.2,RdS s r)∧(∀j<p.1,∀r,p.2[j]? =some r→LV s (bB rs) x r)∧∃e3,cU 7 (.slice ar rs.length cr) (rdc p.2).flatten e3∧
     St Hz w (e1::e2::e3::e4:: .blk b5 [I s.id,I s.src,.slice gv s.st.length gu,.slice fq s.wa.length fp,I s.al,I s.up]:: .blk b4 [I s.id,I s.src,.slice gv s.st.length gu,.slice fq s.wa.length fp,I s.al,I s.up,.slice ar rs.length cr,.slice ac cs.length cc]:: .blk b2 [I 0,I 0,.slice none 0 0,.slice none 0 0,I 0,I 0,.slice none 0 0,.slice none 0 0]:: .blk b1 [.slice avs sl.length cvs,.slice av5 ie.length cv5,.slice av4 ir.length cv4,.slice avp pk.length cvp,I z1,I z2,I z3]::σ)) (fun p=>rs.length - p.1) (0,rs) aH
    ⟨bH,rfl,rfl,fun r hr=>⟨(Al r hr).st,(Al r hr).wa,(Al r hr).tol⟩,fun j hj=>by omega,e3,ic,hs⟩ ?_
   clear hs ic;rintro ⟨k,R⟩ w ⟨hk,Vf,NO,Ve,XQ,e3,ic,hs⟩;dsimp only at hk Vf NO Ve XQ ic hs ⊢;refine .seq (.af (.z zm (.z (zfa aN) (.y hs (zld dm) (.z (de aD) (.zn fN (.bh rfl (fun Ey=>?_) (fun Ey=>?_))))))))
   ·refine .skip (nT (.seq (.block (.af (.z (zfa jJ) (.y hs (zld isAgg35) (.z zm ?_)))))));obtain ⟨n,hn⟩:=nth (l:=ie) (k:=k) ai;obtain ⟨r,hr⟩:=nth (l:=R) (k:=k) ai;have UZ:=Ve r (List.mem_of_getElem? hr);obtain ⟨u,Qb,Nj⟩:=UZ.u;have Wp:=UZ.st;have Wn:=UZ.wa;have KG:=UZ.tol;have Eo:r.td∈bB R:=i6.2 ⟨r,List.mem_of_getElem? hr,rfl⟩;obtain ⟨q,q1,q2,q3⟩:=jA Eo;rw [NO] at q3;have B3:=Ng u ai;have y8:=Ng (s.many+1+q) ai;obtain ⟨bo,co,sp,hv,rfl,yB⟩:=ic.N8 (lS _) ai (by rw [dO];omega);simp only [Value.slice.injEq] at hv;obtain ⟨rfl,Rz,rfl⟩:=hv;obtain ⟨Hx,IH,r1,r2,r3,r4,Ff,back⟩:=PD.G6 (s:=⟨s,R,cs⟩) ⟨oP,dY,ic,qT⟩ (by show s.st.length≤_;omega) (by show s.wa.length≤_;omega) (by show R.length≤_;omega) (by show cs.length≤_;omega) hs;clear hs;have hs:=Ff;clear Ff;refine .ixX (enc:=F5.v) hs (g2.mono (Te.trans IH)) rfl rfl runUnderlying35 UG hn cK ?_;intro Yz o150 Hk;refine .q hs (bQ (vs:=n.v) rfl isAgg151 UG Hk) (.o (.alloc hs zeroValue151 rfl fun yM w hs=>?_));refine .o (.aE (vs:=[_,_,_,_,_]) hs rfl rfl UG fun w hs=>?_);refine .nil (.af (.z (zfa aN) (.y hs (zld dm) (.z zm (.ixX (enc:=Rdg.c) hs r3 rfl rfl aD a6 hr cK ?_)))));intro Yy o155 O4;refine .q hs (bQ (vs:=r.c) rfl jU a6 O4) (.o (.alloc hs jy rfl fun nx w hs=>?_));refine .o (.aE (vs:=[_,_,_,_,_,_,_]) hs rfl rfl a6 fun w hs=>?_);refine .nil (.af (.y hs (zls [_,_,_,_,_,_] bE aP) (.z (zfa gY) (.y hs (zld aj) (.z (zfa gX) (.y hs (zld aj) (.o (.call DJ rfl (dN (s:=s) hs r2 ai ai ai) ?_))))))));rintro _ w ⟨rfl,hs⟩;rw [Qb];refine .zn zg (.seq (.draw mix rfl hs fun w hs=>?_));refine .ys 0 rfl hs [_,_,_,_,_,_] bE aP ?_;refine .z 3 rfl (zfa aN) ?_;refine .y 4 rfl hs dm ?_;refine .z 6 rfl (zfa fh) ?_;refine .y 7 rfl hs aj ?_;refine .z 8 rfl (zfa fg) ?_;refine .y 9 rfl hs aj ?_;refine .z 10 rfl (zbd [_,_] jQ) ?_;refine .E 1 hs ?_;refine .call Za rfl (eK (s:=s) hs r1 r2 ⟨ai,ai⟩) ?_;rintro _ w ⟨rfl,hs⟩;refine .go (.zw 2 rfl cH (.E 5 hs ?_));refine .call call96 rfl (jd (rs:=R) hs r3 ai) ?_;rintro v168 w ⟨Hw,WX,hT,hs⟩;refine .go (.E 11 hs ?_);refine .call call95 rfl (mD (t:=r.td) hs hT (by rw [NO];omega)) ?_;rintro _ w ⟨rfl,hs⟩;rw [q1];refine .go (.zw 12 rfl cH ?_);refine .z 13 rfl zg ?_;refine .D hs ?_;refine .seq (.draw mix rfl hs fun w hs=>?_);refine .zw 0 rfl (zia 4 nD an) (.y 1 rfl hs aj ?_);refine .z 2 rfl Ru ?_;refine .z 3 rfl (zfa dB) ?_;refine .y 4 rfl hs aj ?_;refine .z 5 rfl kV ?_;refine .z 6 rfl cH ?_;refine .z 8 rfl (zfa dB) ?_;refine .y 9 rfl hs aj ?_;refine .E 7 hs ?_;refine .call kK rfl (da hs ai) ?_;rintro _ w ⟨SH,g183,rfl,hs⟩;refine .go (.zw 10 rfl gx ?_);refine .z 11 rfl zg ?_;refine .D hs ?_;refine .draw mix rfl hs fun w hs=>?_
    refine .zw 0 rfl (zfa aN) ?_;refine .y 1 rfl hs dm ?_;refine .z 2 rfl zm ?_;refine .z 3 rfl zm ?_;refine .z 4 rfl zm ?_;have hs:=back WX hs;refine .ixX (enc:=fun x=>[I x]) (i:=5) hs rfl aA .none hX rfl rfl ae an (bu (l:=x) (i:=u) ai) rfl ?_;intro b192 o192 K3;replace K3:=bD.one K3;refine .r (i:=6) hs rfl aA .none (aC rfl aj K3) ?_;refine .zw 7 rfl zm ?_;refine .z 8 rfl zm ?_;refine .ixX (enc:=fun x=>[I x]) (i:=9) hs rfl aA .none hX rfl rfl ae an (bu (l:=x) (i:=s.many+1+q) ai) (by push_cast;rfl) ?_;intro b196 o196 KZ;replace KZ:=bD.one KZ;refine .r (i:=10) hs rfl aA .none (aC rfl aj KZ) ?_;refine .zw 11 rfl gx ?_;refine .z 12 rfl zm ?_;refine .z 13 rfl cH ?_;first|(refine .ixw 14 rfl hs aD a6 ?_;intro Yv o201 O2)|refine .z 14 rfl (oe aD a6) ?_
    refine .zw 15 rfl (zfa dL) (.E 16 hs ?_);refine .store (c':=(rdc (R.set k {r with val:=gi x u - gi x (s.many+1+q)+((SH:Int) - r.tol)})).flatten++sp) hs rfl rfl an ?_ dy (Nat.ble_eq_true_of_le (by rw [List.length_append,cj _ (lS _),dO];omega)) (FB hr sp _);intro w hs;refine .go (.D hs (nB (nT (.region (.z zm (.z cH (.zn zg (nT ?_))))))));exact ⟨(k+1,R.set k {r with val:=gi x u - gi x (s.many+1+q)+((SH:Int) - r.tol)}),.cD rfl bH aH,⟨by dsimp only;omega,by dsimp only;rw [List.length_set];exact Vf,by dsimp only;rw [DN hr];exact NO,fun y hy=>by
      rcases List.mem_or_eq_of_mem_set hy with h|h
      ·exact Ve y h
      ·subst h;exact ⟨Wp,Wn,KG⟩,fun j hj y hy=>by
      dsimp only at hj hy;by_cases e:j=k
      ·subst e;rw [List.getElem?_set_self ai] at hy;obtain rfl:=Option.some.inj hy;have q1':mB (bB rs) r.td=q:=by rw [←NO];exact q1
       unfold LV;show gi x (1+r.st*s.wa.length+r.wa).toNat - gi x (s.many+1+mB (bB rs) r.td).toNat - r.tol≤_∧_≤gi x (1+r.st*s.wa.length+r.wa).toNat - gi x (s.many+1+mB (bB rs) r.td).toNat+r.tol;rw [Qb,q1',show ((s.many:Int)+1+(q:Int)).toNat=s.many+1+q by omega,Int.toNat_natCast];dsimp only;omega
      ·rw [List.getElem?_set_ne ai] at hy;exact XQ j ai y hy,_,MT ic _,hs.sb⟩,by dsimp only;omega⟩
   ·refine .exit (xT (xT (xB (nT (.af (.y hs (zls [_,_,_,_,_,_,_,_] bA aM) (.z zm ?_)))))));obtain rfl:k=rs.length:=by omega
    obtain ⟨Hx,IH,r1,r2,r3,r4,Ff,back⟩:=PD.G6 (s:=⟨s,R,cs⟩) ⟨oP,dY,ic,qT⟩ (by show s.st.length≤_;omega) (by show s.wa.length≤_;omega) (by show R.length≤_;omega) (by show cs.length≤_;omega) hs;refine .o (.call call97 rfl (uK (s:=⟨s,R,cs⟩) (x:=x) Ff r1 r2 r3 ⟨_,_,_,rfl⟩ (hX.mono IH) (by rw [Bc];show _=s.many+(bB R).length+1;rw [NO];exact sV) ⟨by show s.st.length≤_;omega,by show s.wa.length≤_;omega,by show R.length≤_;omega⟩) ?_);rintro _ w ⟨Hy,vr',vy,er,ey,KM,rfl,hOr,Vg,OP⟩;have hs:=back KM OP;clear Ff OP back r1 r2 r3 r4;have lB:=Ai s R;obtain ⟨arr,crr,rfl⟩:=hOr.j6 (lS _) ai;obtain ⟨ayy,lyy,cyy,rfl,-⟩:=Vg.shape;refine .z zex (.z zex (.o (.aE (vs:=[_,_,_,_,_,_,_,_]) hs rfl rfl aM fun w hs=>?_)));refine .zn zg (.ret ?_);exact Fin.iT [] [] hs fun w hs=>⟨_,results2 results31 (dp (vs:=[_,_,_,_,_,_,_,_]) hs rfl bA aM) rfl,Hz,⟨s,kc s R,cs⟩,_,_,_,_,_,_,e1,e2,er,e4,ey,Te,rfl,
     ⟨TZ,TW,by show (kc s R).length≤14;omega,KY,CN Pe.ok TZ TW ai KY (fun r h=>(Eh h).2) Es⟩,⟨oP,dY,hOr,qT⟩,Vg,IA OZ Dt sV NO Ve (fun r hr=>by
      obtain ⟨j,hj⟩:=List.getElem?_of_mem hr;have:=(List.getElem?_eq_some_iff.1 hj).1;exact XQ j ai r hj),hs.sb⟩
structure Spl(s:Srv):Prop where
 st:2≤s.sp.st.length∧s.sp.st.length≤4
 wa:2≤s.sp.wa.length∧s.sp.wa.length≤3
 rs:s.rs.length≤15
 cs:s.cs.length≤5
theorem G0{n cap:Nat}(h:cU 1 (.slice (some ⟨b,0,none⟩) n cap) (Is xs) (.blk b (Is xs++sp)))(x:Int):
  cU 1 (.slice (some ⟨b,0,none⟩) n cap) (Is (xs.set k x)) (.blk b (Is (xs.set k x)++sp)):=by
 rcases h with ⟨a,_,_,h3⟩|⟨b',len,tY,wj,h1,h2,h3,h4,h5⟩
 ·cases h3
 ·simp only [Value.slice.injEq] at h1;obtain ⟨-,rfl,rfl⟩:=h1;simp only [Ent.blk.injEq] at h2;rw [←h2.2] at h4;exact .inr ⟨b,n,cap,sp,rfl,rfl,by simpa [Is] using h3,by simpa [Is] using h4,h5⟩
theorem ng{l:List Rdg}{r r':Rdg}(h:l[k]? =some r)(hj:j<7){v:Value}(hc:r.c.set j v=r'.c)(sp:List Value):((rdc l).flatten++sp).set (k*7+j) v=(rdc (l.set k r')).flatten++sp:=by
 have hk:=(List.getElem?_eq_some_iff.1 h).1;rw [List.set_append_left _ _ (by rw [cj _ (lS _),dO];omega),vG (rdc l) k j v (lS l) (by rw [dO];exact hk) hj r.c (CA h),hc];unfold rdc;rw [List.map_set]
theorem nh{n cap:Nat}{R:List Rdg}{r':Rdg}(h:cU 7 (.slice (some ⟨b,0,none⟩) n cap) (rdc R).flatten (.blk b ((rdc R).flatten++sp))):
  cU 7 (.slice (some ⟨b,0,none⟩) n cap) (rdc (R.set k r')).flatten (.blk b ((rdc (R.set k r')).flatten++sp)):=by
 have hl:(rdc (R.set k r')).flatten.length=(rdc R).flatten.length:=by
  rw [cj _ (lS _),cj _ (lS _),dO,dO,List.length_set]
 rcases h with ⟨a,_,_,h3⟩|⟨b',len,tY,wj,h1,h2,h3,h4,h5⟩
 ·cases h3
 ·simp only [Value.slice.injEq] at h1;obtain ⟨-,rfl,rfl⟩:=h1;simp only [Ent.blk.injEq] at h2;rw [←h2.2] at h4;exact .inr ⟨b,n,cap,sp,rfl,rfl,by rw [hl];exact h3,by rw [List.length_append,hl,←List.length_append];exact h4,h5⟩
theorem vM{l:List Cmp}{r r':Cmp}(h:l[k]? =some r)(hj:j<6){v:Value}(hc:r.c.set j v=r'.c)(sp:List Value):((cmc l).flatten++sp).set (k*6+j) v=(cmc (l.set k r')).flatten++sp:=by
 have hk:=(List.getElem?_eq_some_iff.1 h).1;rw [List.set_append_left _ _ (by rw [cj _ (xh _),hZ];omega),vG (cmc l) k j v (xh l) (by rw [hZ];exact hk) hj r.c (Q6 h),hc];unfold cmc;rw [List.map_set]
theorem uR{n cap:Nat}{R:List Cmp}{r':Cmp}(h:cU 6 (.slice (some ⟨b,0,none⟩) n cap) (cmc R).flatten (.blk b ((cmc R).flatten++sp))):
  cU 6 (.slice (some ⟨b,0,none⟩) n cap) (cmc (R.set k r')).flatten (.blk b ((cmc (R.set k r')).flatten++sp)):=by
 have hl:(cmc (R.set k r')).flatten.length=(cmc R).flatten.length:=by
  rw [cj _ (xh _),cj _ (xh _),hZ,hZ,List.length_set]
 rcases h with ⟨a,_,_,h3⟩|⟨b',len,tY,wj,h1,h2,h3,h4,h5⟩
 ·cases h3
 ·simp only [Value.slice.injEq] at h1;obtain ⟨-,rfl,rfl⟩:=h1;simp only [Ent.blk.injEq] at h2;rw [←h2.2] at h4;exact .inr ⟨b,n,cap,sp,rfl,rfl,by rw [hl];exact h3,by rw [List.length_append,hl,←List.length_append];exact h4,h5⟩
set_option maxHeartbeats 2000000 in
theorem wN{w:World}(hs:St H w σ)(g1:RI H vs sl)(g2:RF5 H v5 ie)(g3:RF4 H v4 ir)(g4:RI H vp pk):
  aaR 55 [.agg #[vs,v5,v4,vp,I z1,I z2,I z3]] w fun u w'=>∃H1 s cE cB vr vc,HLe H H1∧u= .agg #[I s.sp.id,I s.sp.src,cE,cB,I s.sp.al,I s.sp.up,vr,vc]∧RI H1 cE s.sp.st∧RI H1 cB s.sp.wa∧RRd H1 vr s.rs∧RCm H1 vc s.cs∧Spl s∧St H1 w' σ:=by
 obtain ⟨avs,cvs,rfl⟩:=RI.shape g1;obtain ⟨av5,cv5,rfl⟩:=g2.shape;obtain ⟨av4,cv4,rfl⟩:=g3.shape;obtain ⟨avp,cvp,rfl⟩:=RI.shape g4;refine Cl.o func55 ntmps55 ag1 ?_;refine .af (.bx hs fun b1 w hs=>?_);refine .o (.alloc hs iQ rfl fun b2 w hs=>?_);refine .nil (.af (.y hs (zls [_,_,_,_,_,_,_] isAgg39 sizeOf39) (.o (.call call31 rfl (Be hs g1 g2 g3 g4) ?_))));rintro _ w ⟨H1,s,y,cE,cB,vr,vc,vy,e1,e2,e3,e4,e5,az,rfl,hM,⟨oP,dY,ic,qT⟩,Vg,-,hs⟩;have KD:=hM.ok.early.1.st.two;have hwa2:=hM.ok.early.1.wa.two;have SS:=hM.st;have hwa3:=hM.wa;have OQ:=hM.rs;have Qs:=hM.cs;obtain ⟨bS,cS,Fb,rfl,rfl,ZV⟩:=oP.some ai;obtain ⟨bW,cW,spW,rfl,rfl,ZU⟩:=dY.some ai;obtain ⟨ar,cr,rfl⟩:=ic.j6 (lS _) ai;obtain ⟨ac,cc,rfl⟩:=qT.j6 (xh _) ai;rw [dO] at ic ⊢;rw [hZ] at qT ⊢;obtain ⟨ay,ly,cy,rfl,-⟩:=Vg.shape;refine .z zm (.z zex (.z zex (.o (.alloc hs iQ rfl fun b3 w hs=>?_))));refine .o (.aE (vs:=[_,_,_,_,_,_,_,_]) hs rfl rfl aM fun w hs=>?_);refine .zn zg (.af (.z (zfa rY) (.y hs (zls [_,_,_] isAgg37 sizeOf37) (.o (.alloc hs zeroValue37 rfl fun b5 w hs=>?_)))));refine .o (.aE (vs:=[_,_,_]) hs rfl rfl sizeOf37 fun w hs=>?_);refine .nil (.af (.z (zia 0 aJ an) (.y hs (zld aj) (.o (.call kK rfl (da hs ai) ?_)))));rintro _ w ⟨k,gk,rfl,hs⟩;refine .zn zg (.cut (fun fs w=>∃(wj:Spc) (f1 f2:Ent),kG fs ⟨225,[],[(6,I (k:Int)),(5,Pt b5),(3,Pt b3),(2,Pt b2),(1,Pt b1)]⟩∧wj.st.length=s.sp.st.length∧wj.wa.length=s.sp.wa.length∧cU 1 (.slice (some ⟨bS,0,none⟩) s.sp.st.length cS) (Is wj.st) f1∧cU 1 (.slice (some ⟨bW,0,none⟩) s.sp.wa.length cW) (Is wj.wa) f2∧St H1 w (f1::f2::e3::e4:: .blk b5 [I z1,I z2,I z3]:: .blk b3 [I wj.id,I wj.src,.slice (some ⟨bS,0,none⟩) s.sp.st.length cS,.slice (some ⟨bW,0,none⟩) s.sp.wa.length cW,I wj.al,I wj.up,.slice ar s.rs.length cr,.slice ac s.cs.length cc]:: .blk b2 [I 0,I 0,.slice none 0 0,.slice none 0 0,I 0,I 0,.slice none 0 0,.slice none 0 0]::σ)) ?_ ?_)
 ·refine .af (.zn zm (.block (.af (.z fy (.zn zg (.bh rfl (fun iC=>?_) (fun iC=>?_)))))))
  ·refine .region (.z (zia 2 aJ an) (.y hs (zld aj) (.z (zfa aW) (.z (zfa oR) (.o (.store hs rfl rfl an fun w hs=>?_))))));exact .nil (nB (nT ⟨{s.sp with id:=z3},_,_,aH,rfl,rfl,oP,dY,hs.sb⟩))
  ·refine .af (.z fy (.zn zg (.bh rfl (fun qQ=>?_) (fun qQ=>?_))))
   ·refine .region (.z (zia 2 aJ an) (.y hs (zld aj) (.z (zfa aW) (.z (zfa ez) (.o (.store hs rfl rfl an fun w hs=>?_))))));exact .nil (nB (nT ⟨{s.sp with src:=z3},_,_,aH,rfl,rfl,oP,dY,hs.sb⟩))
   ·refine .af (.z fy (.zn zg (.bh rfl (fun mJ=>?_) (fun mJ=>?_))))
    ·refine .draw mix rfl hs fun w hs=>?_
     refine .zw 0 rfl (zfa aW) ?_;refine .z 1 rfl (zfa bO) ?_;refine .y 2 rfl hs aq ?_;refine .zw 3 rfl (zia 1 aJ an) (.y 4 rfl hs aj ?_);refine .z 5 rfl (zfa aW) ?_;refine .z 6 rfl (zfa bO) ?_;refine .y 7 rfl hs aq ?_;refine .z 8 rfl (de ae) ?_;refine .zw 10 rfl (zia 2 aJ an) (.zv 11 rfl hs (p8 aj) (.E 9 hs ?_));refine .call kK rfl (da hs ai) ?_;rintro _ w ⟨Kw,g44,rfl,hs⟩;refine .go ?_;first|(refine .ixv 12 rfl hs ae an ?_;intro Rf o47 lC)|refine .z 12 rfl (zix ae an) ?_
     refine .E 13 hs ?_;refine .store (c':=Is (s.sp.st.set Kw z3)++Fb) hs rfl rfl an ?_ dy (nS ai Fb) (km ai Fb _);intro w hs;exact .go (.D hs (nB (nT ⟨{s.sp with st:=s.sp.st.set Kw z3},_,_,aH,bH,rfl,G0 oP _,dY,hs.sb⟩)))
    ·refine .af (.z fy (.zn zg (.bh rfl (fun mI=>?_) (fun mI=>?_))))
     ·refine .draw mix rfl hs fun w hs=>?_
      refine .zw 0 rfl (zfa aW) ?_;refine .z 1 rfl (zfa aQ) ?_;refine .y 2 rfl hs aq ?_;refine .zw 3 rfl (zia 1 aJ an) (.y 4 rfl hs aj ?_);refine .z 5 rfl (zfa aW) ?_;refine .z 6 rfl (zfa aQ) ?_;refine .y 7 rfl hs aq ?_;refine .z 8 rfl (de ae) ?_;refine .zw 10 rfl (zia 2 aJ an) (.zv 11 rfl hs (p8 aj) (.E 9 hs ?_));refine .call kK rfl (da hs ai) ?_;rintro _ w ⟨UP,g59,rfl,hs⟩;refine .go ?_;first|(refine .ixv 12 rfl hs ae an ?_;intro Pw o62 CW)|refine .z 12 rfl (zix ae an) ?_
      refine .E 13 hs ?_;refine .store (c':=Is (s.sp.wa.set UP z3)++spW) hs rfl rfl an ?_ dy (nS ai spW) (km ai spW _);intro w hs;exact .go (.D hs (nB (nT ⟨{s.sp with wa:=s.sp.wa.set UP z3},_,_,aH,rfl,bH,oP,G0 dY _,hs.sb⟩)))
     ·refine .af (.z fy (.zn zg (.bh rfl (fun pK=>?_) (fun pK=>?_))))
      ·refine .region (.z (zia 2 aJ an) (.y hs (zld aj) (.z (zfa aW) (.z (zfa eP) (.z (zfa lr) (.o (.store hs rfl rfl an fun w hs=>?_)))))));exact .nil (nB (nT ⟨{s.sp with al:=z3},_,_,aH,rfl,rfl,oP,dY,hs.sb⟩))
      ·refine .af (.z fy (.zn zg (.bh rfl (fun NC=>?_) (fun NC=>?_))))
       ·refine .region (.z (zia 2 aJ an) (.y hs (zld aj) (.z (zfa aW) (.z (zfa eP) (.z (zfa lq) (.o (.store hs rfl rfl an fun w hs=>?_)))))));exact .nil (nB (nT ⟨{s.sp with up:=z3},_,_,aH,rfl,rfl,oP,dY,hs.sb⟩))
       ·exact .skip (nB (nT ⟨s.sp,_,_,aH,rfl,rfl,oP,dY,hs.sb⟩))
 ·clear hs oP dY;rintro fs w ⟨wj,f1,f2,fM,Nt,Ns,oP,dY,hs⟩;refine WE.sub ?_ fM;clear fM;refine .cut (fun fs w=>∃(R:List Rdg) (f3:Ent) (ar':Option Addr) (cr':Nat),kG fs ⟨225,[],[(6,I (k:Int)),(5,Pt b5),(3,Pt b3),(2,Pt b2)]⟩∧R.length≤15∧cU 7 (.slice ar' R.length cr') (rdc R).flatten f3∧St H1 w (f1::f2::f3::e4:: .blk b5 [I z1,I z2,I z3]:: .blk b3 [I wj.id,I wj.src,.slice (some ⟨bS,0,none⟩) s.sp.st.length cS,.slice (some ⟨bW,0,none⟩) s.sp.wa.length cW,I wj.al,I wj.up,.slice ar' R.length cr',.slice ac s.cs.length cc]:: .blk b2 [I 0,I 0,.slice none 0 0,.slice none 0 0,I 0,I 0,.slice none 0 0,.slice none 0 0]::σ)) ?_ ?_
  ·refine .af (.z (zfa aN) (.y hs (zld dm) (.z (de aD) (.zn kU (.bh rfl (fun Eu=>?_) (fun Eu=>?_))))))
   ·refine .af (.z (zia 1 aJ an) (.y hs (zld aj) (.z (zfa aN) (.y hs (zld dm) (.z (de aD) ?_)))));obtain ⟨bR,cR,oK,hv,rfl,ZW⟩:=ic.N8 (lS _) ai (by rw [dO];omega);simp only [Value.slice.injEq] at hv;obtain ⟨rfl,Rz,rfl⟩:=hv;refine .o (.call kK rfl (da hs ai) ?_);rintro _ w ⟨i,gi_,rfl,hs⟩;obtain ⟨r,hr⟩:=nth (l:=s.rs) (k:=i) ai;have NF:∀j<7,Nat.blt (i*7+j) ((rdc s.rs).flatten++oK).length=true:=fun j hj=>Nat.ble_eq_true_of_le (by rw [List.length_append,cj _ (lS _),dO];omega)
    refine .zn zg (.af (.zn zm (.block (.seq (.af (.z fy (.zn zg (.bh rfl (fun tS=>?_) (fun tS=>?_)))))))))
    ·refine .skip (nT (.cT (.region (.z (zfa aN) (.y hs (zld dm) (.z zm (.z (zia 2 aJ an) (.y hs (zld aj) ?_))))))));first|(refine .ixw hs aD a6 ?_;intro Yo o97 Nz)|refine .z (oe aD a6) ?_
     refine .z (zfa dL) (.o (.store (c':=(rdc (s.rs.set i {r with val:=z3})).flatten++oK) hs rfl rfl an ?_ dy (NF 3 ai) (ng hr ai rfl oK)));intro w hs;exact .nil (nB (nT ⟨s.rs.set i {r with val:=z3},_,some ⟨bR,0,none⟩,cr,aH,by rw [List.length_set];omega,by rw [List.length_set];exact nh ic,by rw [List.length_set];exact hs.sb⟩))
    ·refine .af (.z fy (.zn zg (.bh rfl (fun tS=>?_) (fun tS=>?_))))
     ·refine .skip (nT (.cT (.region (.z (zfa aN) (.y hs (zld dm) (.z zm (.z (zia 2 aJ an) (.y hs (zld aj) ?_))))))));first|(refine .ixw hs aD a6 ?_;intro Yo o97 Nz)|refine .z (oe aD a6) ?_
      refine .z (zfa dL) (.o (.store (c':=(rdc (s.rs.set i {r with val:=z3})).flatten++oK) hs rfl rfl an ?_ dy (NF 3 ai) (ng hr ai rfl oK)));intro w hs;exact .nil (nB (nT ⟨s.rs.set i {r with val:=z3},_,some ⟨bR,0,none⟩,cr,aH,by rw [List.length_set];omega,by rw [List.length_set];exact nh ic,by rw [List.length_set];exact hs.sb⟩))
     ·refine .region (.z fy (.zn zg (nT (.bh rfl (fun tS=>?_) (fun tS=>?_)))))
      ·refine .region (.z (zfa aN) (.y hs (zld dm) (.z zm (.z (zia 2 aJ an) (.y hs (zld aj) ?_)))));first|(refine .ixw hs aD a6 ?_;intro Yo o97 Nz)|refine .z (oe aD a6) ?_
       refine .z (zfa dL) (.o (.store (c':=(rdc (s.rs.set i {r with val:=z3})).flatten++oK) hs rfl rfl an ?_ dy (NF 3 ai) (ng hr ai rfl oK)));intro w hs;exact .nil (nB (nT ⟨s.rs.set i {r with val:=z3},_,some ⟨bR,0,none⟩,cr,aH,by rw [List.length_set];omega,by rw [List.length_set];exact nh ic,by rw [List.length_set];exact hs.sb⟩))
      ·refine .af (.z fy (.zn zg (.bh rfl (fun Xm=>?_) (fun Xm=>?_))))
       ·refine .region (.z (zfa aN) (.y hs (zld dm) (.z zm (.z (zia 2 aJ an) (.y hs (zld aj) ?_)))));first|(refine .ixw hs aD a6 ?_;intro Uv o106 tk)|refine .z (oe aD a6) ?_
        refine .z (zfa dB) (.o (.store (c':=(rdc (s.rs.set i {r with tol:=z3})).flatten++oK) hs rfl rfl an ?_ dy (NF 4 ai) (ng hr ai rfl oK)));intro w hs;exact .nil (nB (nT ⟨s.rs.set i {r with tol:=z3},_,some ⟨bR,0,none⟩,cr,aH,by rw [List.length_set];omega,by rw [List.length_set];exact nh ic,by rw [List.length_set];exact hs.sb⟩))
       ·refine .af (.z fy (.zn zg (.bh rfl (fun Pb=>?_) (fun Pb=>?_))))
        ·refine .region (.z (zfa aN) (.y hs (zld dm) (.z zm (.z (zia 2 aJ an) (.y hs (zld aj) ?_)))));first|(refine .ixw hs aD a6 ?_;intro b115 o115 aae)|refine .z (oe aD a6) ?_
         refine .z (zfa fh) (.o (.store (c':=(rdc (s.rs.set i {r with tape:=z3})).flatten++oK) hs rfl rfl an ?_ dy (NF 5 ai) (ng hr ai rfl oK)));intro w hs;exact .nil (nB (nT ⟨s.rs.set i {r with tape:=z3},_,some ⟨bR,0,none⟩,cr,aH,by rw [List.length_set];omega,by rw [List.length_set];exact nh ic,by rw [List.length_set];exact hs.sb⟩))
        ·refine .af (.z fy (.zn zg (.bh rfl (fun Hm=>?_) (fun Hm=>?_))))
         ·refine .region (.z (zfa aN) (.y hs (zld dm) (.z zm (.z (zia 2 aJ an) (.y hs (zld aj) ?_)))));first|(refine .ixw hs aD a6 ?_;intro Ut o124 La)|refine .z (oe aD a6) ?_
          refine .z (zfa fg) (.o (.store (c':=(rdc (s.rs.set i {r with day:=z3})).flatten++oK) hs rfl rfl an ?_ dy (NF 6 ai) (ng hr ai rfl oK)));intro w hs;exact .nil (nB (nT ⟨s.rs.set i {r with day:=z3},_,some ⟨bR,0,none⟩,cr,aH,by rw [List.length_set];omega,by rw [List.length_set];exact nh ic,by rw [List.length_set];exact hs.sb⟩))
         ·refine .af (.z fy (.zn zg (.bh rfl (fun TC=>?_) (fun TC=>?_))))
          ·refine .region (.z (zfa aN) (.y hs (zld dm) (.z zm (.z (zia 2 aJ an) (.y hs (zld aj) ?_)))));first|(refine .ixw hs aD a6 ?_;intro b133 o133 O8)|refine .z (oe aD a6) ?_
           refine .z (zfa gY) (.o (.store (c':=(rdc (s.rs.set i {r with st:=z3})).flatten++oK) hs rfl rfl an ?_ dy (NF 1 ai) (ng hr ai rfl oK)));intro w hs;exact .nil (nB (nT ⟨s.rs.set i {r with st:=z3},_,some ⟨bR,0,none⟩,cr,aH,by rw [List.length_set];omega,by rw [List.length_set];exact nh ic,by rw [List.length_set];exact hs.sb⟩))
          ·refine .af (.z fy (.zn zg (.bh rfl (fun Ar=>?_) (fun Ar=>?_))))
           ·refine .region (.z (zfa aN) (.y hs (zld dm) (.z zm (.z (zia 2 aJ an) (.y hs (zld aj) ?_)))));first|(refine .ixw hs aD a6 ?_;intro b142 o142 O6)|refine .z (oe aD a6) ?_
            refine .z (zfa gX) (.o (.store (c':=(rdc (s.rs.set i {r with wa:=z3})).flatten++oK) hs rfl rfl an ?_ dy (NF 2 ai) (ng hr ai rfl oK)));intro w hs;exact .nil (nB (nT ⟨s.rs.set i {r with wa:=z3},_,some ⟨bR,0,none⟩,cr,aH,by rw [List.length_set];omega,by rw [List.length_set];exact nh ic,by rw [List.length_set];exact hs.sb⟩))
           ·refine .af (.z fy (.zn zg (.bh rfl (fun Ey=>?_) (fun Ey=>?_))))
            ·refine .region (.z (zfa aN) (.y hs (zld dm) (.z zm (.z (zia 2 aJ an) (.y hs (zld aj) ?_)))));first|(refine .ixw hs aD a6 ?_;intro b151 o151 Z7)|refine .z (oe aD a6) ?_
             refine .z (zfa fi) (.o (.store (c':=(rdc (s.rs.set i {r with src:=z3})).flatten++oK) hs rfl rfl an ?_ dy (NF 0 ai) (ng hr ai rfl oK)));intro w hs;exact .nil (nB (nT ⟨s.rs.set i {r with src:=z3},_,some ⟨bR,0,none⟩,cr,aH,by rw [List.length_set];omega,by rw [List.length_set];exact nh ic,by rw [List.length_set];exact hs.sb⟩))
            ·refine .seq (.af (.z fy (.zn zg (.bh rfl (fun K5=>?_) (fun K5=>?_)))))
             ·refine .skip (nT (.cT (.af (.z (zfa aN) (.y hs (zld dm) (.z zm ?_))))));first|(refine .ixw hs aD a6 ?_;intro Us o159 O3)|refine .z (oe aD a6) ?_
              refine .y hs (zls r.c jU a6 (hr:= .own (by repeat (first|exact .here|refine .there ?_)) (BT (lS _) (CA hr) oK))) ?_;have KI:=hM.ok.early.2.2.2.1 r (List.mem_of_getElem? hr);have KG:=KI.tol;refine .o (.alloc hs jy rfl fun b8 w hs=>?_);refine .o (.aE (vs:=[_,_,_,_,_,_,_]) hs rfl rfl a6 fun w hs=>?_);refine .nil (.af (.z (zfa fi) (.o (.store hs rfl rfl an fun w hs=>?_))));refine .nil (.af (.z (zia 2 aJ an) (.y hs (zld aj) (.z (zfa dB) (.y hs (zld aj) (.z gx (.z cH (.o (.call kK rfl (da hs ai) ?_)))))))));rintro _ w ⟨FM,g168,rfl,hs⟩;refine .z (zfa dL) (.o (.store hs rfl rfl an fun w hs=>?_));refine .nil (.region (.z (zfa aN) (.y hs (zld dm) (.y hs (zls [_,_,_,_,_,_,_] jU a6) (.o (.buildSlice (cells:=Rdg.c ⟨50,r.st,r.wa,(FM:Int),r.tol,r.tape,r.day⟩) hs iE rfl aA fun Yx w hs=>?_))))));refine .o (.append (ys:=Rdg.c ⟨50,r.st,r.wa,(FM:Int),r.tol,r.tape,r.day⟩) hs eL rfl rfl ic (.own .here rfl rfl) (by simp [Rdg.c,Value.oneCell']) (fun l' h=>by rw [cj _ (lS _),dO] at h;omega) ?_);intro v174 en174 w Bq hs;rw [←yT] at Bq;obtain ⟨a174,c174,rfl⟩:=Bq.j6 (lS _) ai;rw [dO] at Bq ⊢;refine .z (zfa aN) (.o (.store hs rfl rfl sizeOf49 fun w hs=>?_));exact .nil (nB (nT ⟨s.rs++[⟨50,r.st,r.wa,(FM:Int),r.tol,r.tape,r.day⟩],_,a174,c174,aH,by simp;omega,Bq,hs.sb⟩))
             ·refine .region (.z fy (.zn zg (nT (.bh rfl (fun K5=>?_) (fun K5=>?_)))))
              ·refine .af (.z (zfa aN) (.y hs (zld dm) (.z zm ?_)));first|(refine .ixw hs aD a6 ?_;intro Us o159 O3)|refine .z (oe aD a6) ?_
               refine .y hs (zls r.c jU a6 (hr:= .own (by repeat (first|exact .here|refine .there ?_)) (BT (lS _) (CA hr) oK))) ?_;have KI:=hM.ok.early.2.2.2.1 r (List.mem_of_getElem? hr);have KG:=KI.tol;refine .o (.alloc hs jy rfl fun b8 w hs=>?_);refine .o (.aE (vs:=[_,_,_,_,_,_,_]) hs rfl rfl a6 fun w hs=>?_);refine .nil (.af (.z (zfa fi) (.o (.store hs rfl rfl an fun w hs=>?_))));refine .nil (.af (.z (zia 2 aJ an) (.y hs (zld aj) (.z (zfa dB) (.y hs (zld aj) (.z gx (.z cH (.o (.call kK rfl (da hs ai) ?_)))))))));rintro _ w ⟨FM,g168,rfl,hs⟩;refine .z (zfa dL) (.o (.store hs rfl rfl an fun w hs=>?_));refine .nil (.region (.z (zfa aN) (.y hs (zld dm) (.y hs (zls [_,_,_,_,_,_,_] jU a6) (.o (.buildSlice (cells:=Rdg.c ⟨50,r.st,r.wa,(FM:Int),r.tol,r.tape,r.day⟩) hs iE rfl aA fun Yx w hs=>?_))))));refine .o (.append (ys:=Rdg.c ⟨50,r.st,r.wa,(FM:Int),r.tol,r.tape,r.day⟩) hs eL rfl rfl ic (.own .here rfl rfl) (by simp [Rdg.c,Value.oneCell']) (fun l' h=>by rw [cj _ (lS _),dO] at h;omega) ?_);intro v174 en174 w Bq hs;rw [←yT] at Bq;obtain ⟨a174,c174,rfl⟩:=Bq.j6 (lS _) ai;rw [dO] at Bq ⊢;refine .z (zfa aN) (.o (.store hs rfl rfl sizeOf49 fun w hs=>?_));exact .nil (nB (nT ⟨s.rs++[⟨50,r.st,r.wa,(FM:Int),r.tol,r.tape,r.day⟩],_,a174,c174,aH,by simp;omega,Bq,hs.sb⟩))
              ·exact .skip (nB (nT ⟨s.rs,_,some ⟨bR,0,none⟩,cr,aH,ai,ic,hs.sb⟩))
   ·exact .skip (nT ⟨s.rs,_,ar,cr,aH,ai,ic,hs.sb⟩)
  ·clear hs ic;rintro fs w ⟨R,f3,ar',cr',fM,Vf,ic,hs⟩;refine WE.sub ?_ fM;clear fM;refine .cut (fun fs w=>∃(C:List Cmp) (f4:Ent) (ac':Option Addr) (cc':Nat),kG fs ⟨225,[],[(3,Pt b3),(2,Pt b2)]⟩∧C.length≤5∧cU 6 (.slice ac' C.length cc') (cmc C).flatten f4∧St H1 w (f1::f2::f3::f4:: .blk b3 [I wj.id,I wj.src,.slice (some ⟨bS,0,none⟩) s.sp.st.length cS,.slice (some ⟨bW,0,none⟩) s.sp.wa.length cW,I wj.al,I wj.up,.slice ar' R.length cr',.slice ac' C.length cc']:: .blk b2 [I 0,I 0,.slice none 0 0,.slice none 0 0,I 0,I 0,.slice none 0 0,.slice none 0 0]::σ)) ?_ ?_
   ·refine .af (.z (zfa cJ) (.y hs (zld jZ) (.z (de bL) (.zn kU (.bh rfl (fun Ex=>?_) (fun Ex=>?_))))))
    ·refine .af (.z (zia 1 aJ an) (.y hs (zld aj) (.z (zfa cJ) (.y hs (zld jZ) (.z (de bL) ?_)))));obtain ⟨bC,cC,spC,hv,rfl,ZX⟩:=qT.N8 (xh _) ai (by rw [hZ];omega);simp only [Value.slice.injEq] at hv;obtain ⟨rfl,Rz,rfl⟩:=hv;refine .o (.call kK rfl (da hs ai) ?_);rintro _ w ⟨i,gi_,rfl,hs⟩;obtain ⟨c,hc⟩:=nth (l:=s.cs) (k:=i) ai;have TK:∀j<6,Nat.blt (i*6+j) ((cmc s.cs).flatten++spC).length=true:=fun j hj=>Nat.ble_eq_true_of_le (by rw [List.length_append,cj _ (xh _),hZ];omega)
     refine .zn zg (.af (.zn zm (.block (.seq (.af (.z fy (.zn zg (.bh rfl (fun K4=>?_) (fun K4=>?_)))))))))
     ·refine .skip (nT (.cT (.region (.z (zfa cJ) (.y hs (zld jZ) (.z zm (.z (zia 2 aJ an) (.y hs (zld aj) ?_))))))));first|(refine .ixw hs bL eg ?_;intro Yw o195 K0)|refine .z (oe bL eg) ?_
      refine .z (zfa gj) (.o (.store (c':=(cmc (s.cs.set i {c with lo:=z3})).flatten++spC) hs rfl rfl an ?_ dy (TK 4 ai) (vM hc ai rfl spC)));intro w hs;exact .nil (nB (nT ⟨s.cs.set i {c with lo:=z3},_,some ⟨bC,0,none⟩,cc,aH,by rw [List.length_set];omega,by rw [List.length_set];exact uR qT,by rw [List.length_set];exact hs.sb⟩))
     ·refine .region (.z fy (.zn zg (nT (.bh rfl (fun K4=>?_) (fun K4=>?_)))))
      ·refine .region (.z (zfa cJ) (.y hs (zld jZ) (.z zm (.z (zia 2 aJ an) (.y hs (zld aj) ?_)))));first|(refine .ixw hs bL eg ?_;intro Yw o195 K0)|refine .z (oe bL eg) ?_
       refine .z (zfa gj) (.o (.store (c':=(cmc (s.cs.set i {c with lo:=z3})).flatten++spC) hs rfl rfl an ?_ dy (TK 4 ai) (vM hc ai rfl spC)));intro w hs;exact .nil (nB (nT ⟨s.cs.set i {c with lo:=z3},_,some ⟨bC,0,none⟩,cc,aH,by rw [List.length_set];omega,by rw [List.length_set];exact uR qT,by rw [List.length_set];exact hs.sb⟩))
      ·refine .af (.z fy (.zn zg (.bh rfl (fun Tu=>?_) (fun Tu=>?_))))
       ·refine .region (.z (zfa cJ) (.y hs (zld jZ) (.z zm (.z (zia 2 aJ an) (.y hs (zld aj) ?_)))));first|(refine .ixw hs bL eg ?_;intro b204 o204 Z2)|refine .z (oe bL eg) ?_
        refine .z (zfa gg) (.o (.store (c':=(cmc (s.cs.set i {c with hi:=z3})).flatten++spC) hs rfl rfl an ?_ dy (TK 5 ai) (vM hc ai rfl spC)));intro w hs;exact .nil (nB (nT ⟨s.cs.set i {c with hi:=z3},_,some ⟨bC,0,none⟩,cc,aH,by rw [List.length_set];omega,by rw [List.length_set];exact uR qT,by rw [List.length_set];exact hs.sb⟩))
       ·refine .af (.z fy (.zn zg (.bh rfl (fun Tt=>?_) (fun Tt=>?_))))
        ·refine .region (.z (zfa cJ) (.y hs (zld jZ) (.z zm (.z (zia 2 aJ an) (.y hs (zld aj) ?_)))));first|(refine .ixw hs bL eg ?_;intro b213 o213 Z1)|refine .z (oe bL eg) ?_
         refine .z (zfa gZ) (.o (.store (c':=(cmc (s.cs.set i {c with fr:=z3})).flatten++spC) hs rfl rfl an ?_ dy (TK 2 ai) (vM hc ai rfl spC)));intro w hs;exact .nil (nB (nT ⟨s.cs.set i {c with fr:=z3},_,some ⟨bC,0,none⟩,cc,aH,by rw [List.length_set];omega,by rw [List.length_set];exact uR qT,by rw [List.length_set];exact hs.sb⟩))
        ·refine .af (.z fy (.zn zg (.bh rfl (fun Ts=>?_) (fun Ts=>?_))))
         ·refine .region (.z (zfa cJ) (.y hs (zld jZ) (.z zm (.z (zia 2 aJ an) (.y hs (zld aj) ?_)))));first|(refine .ixw hs bL eg ?_;intro b222 o222 Z0)|refine .z (oe bL eg) ?_
          refine .z (zfa gq) (.o (.store (c':=(cmc (s.cs.set i {c with to:=z3})).flatten++spC) hs rfl rfl an ?_ dy (TK 3 ai) (vM hc ai rfl spC)));intro w hs;exact .nil (nB (nT ⟨s.cs.set i {c with to:=z3},_,some ⟨bC,0,none⟩,cc,aH,by rw [List.length_set];omega,by rw [List.length_set];exact uR qT,by rw [List.length_set];exact hs.sb⟩))
         ·exact .skip (nB (nT ⟨s.cs,_,some ⟨bC,0,none⟩,cc,aH,ai,qT,hs.sb⟩))
    ·exact .skip (nT ⟨s.cs,_,ac,cc,aH,ai,qT,hs.sb⟩)
   ·clear hs qT;rintro fs w ⟨C,f4,ac',cc',fM,hCl,qT,hs⟩;refine WE.sub ?_ fM;clear fM;refine .af (.y hs (zls [_,_,_,_,_,_,_,_] bA aM) (.o (.aE (vs:=[_,_,_,_,_,_,_,_]) hs rfl rfl aM fun w hs=>?_)));refine .nil (.ret ?_);have hV:PD ⟨wj,R,C⟩ (.slice (some ⟨bS,0,none⟩) s.sp.st.length cS) (.slice (some ⟨bW,0,none⟩) s.sp.wa.length cW) (.slice ar' R.length cr') (.slice ac' C.length cc') f1 f2 f3 f4:=⟨oP,dY,ic,qT⟩;obtain ⟨Ha,OT,ra,hs⟩:=oP.dR ai hs dy;obtain ⟨Hb,Dw,rb,hs⟩:=dY.dR ai hs dy;obtain ⟨Hc,Dv,rc,hs⟩:=cU.dh (m:=7) (cs:=rdc R) ic (lS _) ai (by rw [dO];omega) hs dy;obtain ⟨Hd,Qm,rd,hs⟩:=cU.dh (m:=6) (cs:=cmc C) qT (xh _) ai (by rw [hZ];omega) hs dy;exact Fin.iT [] [] hs fun w hs=>⟨_,results1 results55 (dp (vs:=[_,_,_,_,_,_,_,_]) hs rfl bA aM),Hd,⟨wj,R,C⟩,_,_,_,_,az.trans (OT.trans (Dw.trans (Dv.trans Qm))),rfl,ra.mono (Dw.trans (Dv.trans Qm)),rb.mono (Dv.trans Qm),RRd.mono rc Qm,rd,⟨by show 2≤wj.st.length∧wj.st.length≤4;omega,by show 2≤wj.wa.length∧wj.wa.length≤3;omega,Vf,hCl⟩,hs.out⟩
theorem pw{w:World}(hs:St H w σ)(h1:RI H cE s.st)(h2:RI H cB s.wa)(hr:RT H vh rows):
  aaR 151 [.agg #[I s.id,I s.src,cE,cB,I s.al,I s.up],.agg #[vh]] w fun u w'=>∃b:Bool,u= .bool b∧(b=true↔kn s rows)∧St H w' σ:=by
 obtain ⟨gv,gu,rfl⟩:=RI.shape h1;obtain ⟨fq,fp,rfl⟩:=RI.shape h2;obtain ⟨ah,ch,rfl⟩:=hr.shape;have BY:=(hr.len).2.2;have Bj:=(RI.len h2).2.2;refine Cl.o func151 ntmps151 ag2 ?_;refine .af (.bx hs fun b2 w hs=>?_);refine .bx hs fun b3 w hs=>?_
 refine .zn zg (.seq (.af (.z (zfa dW) (.y hs (zld kI) (.z (de au) (.z (zfa bO) (.y hs (zld aq) (.z (de ae) (.zn fV (.dK rfl (fun gL=>?_) (fun gL=>?_)))))))))))
 ·exact .af (.zn zg (.ret (rT (Fin.bj results151 rfl ⟨false,rfl,⟨fun h=>(by cases h),fun h=>by have:=h.len;simp_all⟩,hs.out⟩))))
 ·refine .skip (nT (.seq (.af (.zn zg (.block ?_)))));have SZ:rows.length=s.st.length:=by omega
  refine .loop (fun i:Nat=>⟨51,[],[(5,I (i:Int)),(3,Pt b3),(2,Pt b2)]⟩)
   (fun i w=>i≤rows.length∧(∀j<i,(gr rows j).length=s.wa.length∧∀k<s.wa.length,0≤gt rows j k∧gt rows j k≤20000)∧St H w (.blk b3 [.slice ah rows.length ch]:: .blk b2 [I s.id,I s.src,.slice gv s.st.length gu,.slice fq s.wa.length fp,I s.al,I s.up]::σ)) (fun i=>rows.length - i) 0 aH
   ⟨Nat.zero_le _,fun j hj=>by omega,hs⟩ ?_
  clear hs;rintro i w ⟨hi,lE,hs⟩;refine .seq (.af (.z zm (.z (zfa dW) (.y hs (zld kI) (.z (de au) (.zn fN (.bh rfl (fun ib=>?_) (fun ib=>?_))))))))
  ·refine .skip (nT (.seq (.block (.seq (.seq (.draw mix rfl hs fun w hs=>?_))))));refine .zw 0 rfl (zfa dW) ?_;refine .y 1 rfl hs kI ?_;refine .z 2 rfl zm ?_;refine .ixT (i:=3) hs rfl aA .none hr rfl rfl au aI (show i<_ by omega) cK ?_;intro ue o24 a24 c24 jX hR24;refine .r (i:=4) hs rfl aA .none (aC rfl aq jX) ?_;refine .zw 5 rfl (de ae) ?_;refine .z 6 rfl (zfa aQ) ?_;refine .y 7 rfl hs aq ?_;refine .z 8 rfl (de ae) ?_;refine .z 9 rfl fV ?_;refine .D hs ?_;refine (.dK rfl (fun nm=>?_) (fun nm=>?_))
   ·exact .af (.zn zg (.ret (rT (rB (rT (rT (rB (rT (Fin.bj results151 rfl ⟨false,rfl,⟨fun h=>(by cases h),fun h=>by have:=h.row i ai;simp_all⟩,hs.out⟩)))))))))
   ·refine .skip (nT (.af (.zn zg (.block ?_))));have pH:(gr rows i).length=s.wa.length:=by simp_all;omega
    refine .loop (fun k:Nat=>⟨51,[],[(6,I (k:Int)),(5,I (i:Int)),(3,Pt b3),(2,Pt b2)]⟩)
     (fun k w=>k≤s.wa.length∧(∀j<k,0≤gt rows i j∧gt rows i j≤20000)∧St H w (.blk b3 [.slice ah rows.length ch]:: .blk b2 [I s.id,I s.src,.slice gv s.st.length gu,.slice fq s.wa.length fp,I s.al,I s.up]::σ)) (fun k=>s.wa.length - k) 0 aH
     ⟨Nat.zero_le _,fun j hj=>by omega,hs⟩ ?_
    clear hs;rintro k w ⟨hk,fL,hs⟩;refine .seq (.af (.z zm (.z (zfa dW) (.y hs (zld kI) (.z zm (.ixT hs hr rfl rfl au aI (show i<_ by omega) cK ?_))))));intro Oa o35 a35 c35 nj T0;refine .q hs (aC rfl aq nj) (.z (de ae) (.zn fN (.bh rfl (fun qP=>?_) (fun qP=>?_))))
    ·refine .skip (nT (.seq (.block (.af (.z (zfa dW) (.y hs (zld kI) (.z zm (.ixT hs hr rfl rfl au aI (show i<_ by omega) cK ?_))))))));intro b44 o44 a44 c44 vC X1;refine .q hs (aC rfl aq vC) (.z zm (.ixY hs X1 rfl rfl ae an (bu (l:=(gr rows i)) (i:=k) ai) cK ?_));intro Rf o47 lC;refine .q hs (aC rfl aj lC) (.o (.call lH rfl (dJ hs) ?_));rintro _ w ⟨rfl,hs⟩;refine .zn fU (.cond rfl (fun Ew=>?_) (fun Ew=>?_))
     ·refine .af (.zn zg (.ret (rB (rT (rT (rB (rB (rT (rT (rB (rT (Fin.bj results151 rfl ?_))))))))))));exact ⟨false,rfl,⟨fun h=>(by cases h),fun h=>by
       have:=h.num i ai k ai;unfold gt at this;simp_all⟩,hs.out⟩
     ·refine .skip (nB (nT (.region (.z zm (.z cH (.zn zg (nT ?_)))))));exact ⟨k+1,.cD rfl bH aH,⟨ai,fun j hj=>by
       by_cases e:j=k
       ·subst e;have:0≤gi (gr rows i) j∧gi (gr rows i) j≤20000:=by simp_all
        exact this
       ·exact fL j ai,hs⟩,ai⟩
    ·refine .exit (xT (xT (xB (nB (nT (.region (.z zm (.z cH (.zn zg (nT ?_))))))))));exact ⟨i+1,.cD rfl bH aH,⟨ai,fun j hj=>by
      by_cases e:j=i
      ·subst e;exact ⟨pH,fun k' tj=>fL k' ai⟩
      ·exact lE j ai,hs⟩,ai⟩
  ·exact .exit (xT (xT (xB (nT (.af (.zn zg (.ret (Fin.bj results151 rfl ⟨true,rfl,⟨fun _=>⟨SZ,fun j hj=>(lE j ai).1,fun j hj=>(lE j ai).2⟩,fun _=>rfl⟩,hs.out⟩))))))))
theorem iJ{w:World}(hs:St H w σ)(h2:RI H cB s.wa)(hr:RT H vh rows)(hh:kn s rows)(hb:b≤s.many)(sZ:s.many≤1000000):
  aaR 154 [.agg #[I s.id,I s.src,cE,cB,I s.al,I s.up],.agg #[vh],I (b:Int)] w fun u w'=>u=I (hpt s (gt rows) b)∧St H w' σ:=by
 obtain ⟨fq,fp,rfl⟩:=RI.shape h2;obtain ⟨ah,ch,rfl⟩:=hr.shape;have BY:=hh.len;by_cases A3:b=0
 ·subst A3;refine Cl.o func154 ntmps154 ag3 ?_;refine .af (.bx hs fun b3 w hs=>?_);refine .bx hs fun b4 w hs=>?_
  refine .zn zg (.seq (.af (.z zm (.zn fy (.bh rfl (fun ur=>?_) (fun ur=>?_))))))
  ·exact .af (.zn zg (.ret (rT (Fin.bj results154 rfl ⟨rfl,hs.out⟩))))
  ·exact absurd ur bH
 have hm:b - 1<s.st.length*s.wa.length:=by unfold Spc.many at hb;omega
 have hw:0<s.wa.length:=by
  rcases Nat.eq_zero_or_pos s.wa.length with e|e
  ·rw [e,Nat.mul_zero] at hm;omega
  ·exact e
 have e0:(b:Int) - 1=((b - 1:Nat):Int):=by omega
 have e1:((b:Int) - 1).tdiv (s.wa.length:Int)=(((b - 1)/s.wa.length:Nat):Int):=by rw [e0];exact (Int.ofNat_tdiv _ _).symm
 have e2:((b:Int) - 1).tmod (s.wa.length:Int)=(((b - 1)%s.wa.length:Nat):Int):=by rw [e0];exact (Int.ofNat_tmod _ _).symm
 have hi:(b - 1)/s.wa.length<s.st.length:=Nat.div_lt_of_lt_mul (by rw [Nat.mul_comm];exact hm);have hk:=Nat.mod_lt (b - 1) hw;have pH:=hh.row _ hi;have Ww:hpt s (gt rows) b=gi (gr rows ((b - 1)/s.wa.length)) ((b - 1)%s.wa.length):=by unfold hpt;rw [if_neg A3];rfl
 have hd1:(b - 1)/s.wa.length≤1000000:=Nat.le_trans (Nat.div_le_self _ _) ai;generalize (b - 1)/s.wa.length=i at*;generalize (b - 1)%s.wa.length=k at*;refine Cl.o func154 ntmps154 ag3 ?_;refine .af (.bx hs fun b3 w hs=>?_);refine .bx hs fun b4 w hs=>?_
 refine .zn zg (.seq (.af (.z zm (.zn fy (.bh rfl (fun ur=>?_) (fun ur=>?_))))))
 ·exact .af (.zn zg (.ret (rT (Fin.bj results154 rfl (absurd ur ai)))))
 ·refine .skip (nT (.seq (.draw mix rfl hs fun w hs=>?_)));refine .zw 0 rfl (zfa dW) ?_;refine .y 1 rfl hs kI ?_;refine .z 2 rfl zm ?_;refine .z 3 rfl gx ?_;refine .z 4 rfl (zfa aQ) ?_;refine .y 5 rfl hs aq ?_;refine .z 6 rfl (de ae) ?_;refine .zw 7 rfl (uO rfl rfl ai (by rw [e1];exact ⟨ai,ai⟩)) ?_;rw [e1];refine .ixT (i:=8) hs rfl aA .none hr rfl rfl au aI (show i<_ by omega) cK ?_;intro AL o17 a17 c17 iW X5;refine .r (i:=9) hs rfl aA .none (aC rfl aq iW) ?_;refine .zw 10 rfl zm ?_;refine .z 11 rfl gx ?_;refine .z 12 rfl (zfa aQ) ?_;refine .y 13 rfl hs aq ?_;refine .z 14 rfl (de ae) ?_;refine .z 15 rfl E9 ?_;rw [e2];refine .ixX (enc:=fun x=>[I x]) (i:=16) hs rfl aA .none X5 rfl rfl ae an (bu (l:=(gr rows i)) (i:=k) ai) cK ?_;intro Dy o25 fc;replace fc:=bD.one fc;refine .r (i:=17) hs rfl aA .none (aC rfl aj fc) ?_;refine .zw 18 rfl zg ?_;refine .D hs ?_;exact .ret (Fin.bj results154 rfl ⟨by rw [Ww],hs.out⟩)
theorem zR{w:World}{l:Lim}(hs:St H w σ)(h1:RI H cE s.st)(h2:RI H cB s.wa)(hr:RT H vh rows)(aZ:ft s)(hh:kn s rows)(hA:0≤l.A)(hB:0≤l.B):
  aaR 153 [.agg #[I s.id,I s.src,cE,cB,I s.al,I s.up],.agg #[vh],.agg #[I l.A,I l.B,I l.M,I l.S]] w fun u w'=>∃b:Bool,u= .bool b∧(b=true↔(l.A.toNat≤s.many→l.B.toNat≤s.many→hpt s (gt rows) l.B.toNat≤hpt s (gt rows) l.A.toNat+l.M))∧St H w' σ:=by
 obtain ⟨gv,gu,rfl⟩:=RI.shape h1;obtain ⟨fq,fp,rfl⟩:=RI.shape h2;have pG:=eM aZ;have CT:s.many≤1000000:=by
  have:s.st.length*s.wa.length≤1000*1000:=Nat.mul_le_mul ai ai;unfold Spc.many;omega
 have sZ:=fun b hb=>El (b:=b) hh hb
 obtain ⟨a,ha⟩:∃a:Nat,l.A=a:=⟨_,(Int.toNat_of_nonneg hA).symm⟩;obtain ⟨b,hb⟩:∃b:Nat,l.B=b:=⟨_,(Int.toNat_of_nonneg hB).symm⟩;rw [ha,hb,Int.toNat_natCast,Int.toNat_natCast];refine Cl.o func153 ntmps153 ag3 ?_;refine .af (.bx hs fun b3 w hs=>?_);refine .bx hs fun b4 w hs=>?_
 refine .bx hs fun b5 w hs=>?_
 refine .zn zg (.af (.y hs (zls [_,_,_,_,_,_] bE aP) (.o (.call Za rfl (eK (s:=s) hs h1 h2 ⟨ai,ai⟩) ?_))));rintro _ w ⟨rfl,hs⟩;refine .zn zg (.seq (.af (.z (zfa dS) (.y hs (zld aj) (.z zm (.z kU (.z zm (.iz (t':=14) rfl (fun CZ=>?_) (fun CZ=>?_)))))))))
 ·exact .Fs 4 4 false (.zn zpT (.cT (.af (.zn zg (.ret (rT (Fin.bj results153 rfl ⟨true,rfl,⟨fun _ g1 g2=>by omega,fun _=>rfl⟩,hs.out⟩)))))))
 ·refine .T (.z (zfa ed) (.T (.y hs (zld aj) (.T (.z zm (.T (.z kU (.zn zpF (.bh rfl (fun mL=>?_) (fun mL=>?_))))))))))
  ·exact .af (.zn zg (.ret (rT (Fin.bj results153 rfl ⟨true,rfl,⟨fun _ g1 g2=>by omega,fun _=>rfl⟩,hs.out⟩))))
  ·refine .skip (nT (.seq (.draw mix rfl hs fun w hs=>?_)));refine .ys 0 rfl hs [_,_,_,_,_,_] bE aP ?_;refine .ys 1 rfl hs [_] jo ea ?_;refine .z 2 rfl (zfa ed) ?_;refine .y 3 rfl hs aj ?_;refine .ys 5 rfl hs [_,_,_,_,_,_] bE aP ?_;refine .ys 6 rfl hs [_] jo ea ?_;refine .z 7 rfl (zfa dS) ?_;refine .y 8 rfl hs aj ?_;refine .z 11 rfl (zfa eZ) ?_;refine .y 12 rfl hs aj ?_;refine .E 4 hs ?_;have B3:=sZ b ai;have ha1:=sZ a ai;refine .call call154 rfl (iJ (s:=s) (b:=b) hs h2 hr hh ai CT) ?_;rintro _ w ⟨rfl,hs⟩;refine .go (.E 9 hs ?_);refine .call call154 rfl (iJ (s:=s) (b:=a) hs h2 hr hh ai CT) ?_;rintro _ w ⟨rfl,hs⟩;refine .go (.zw 10 rfl gx ?_);refine .z 13 rfl oY ?_;refine .z 14 rfl zg ?_;refine .D hs ?_;exact .ret (Fin.bj results153 rfl ⟨_,rfl,by rw [decide_eq_true_eq];exact ⟨fun g _ _=>by omega,fun g=>by have:=g ai ai;omega⟩,hs.out⟩)
set_option maxHeartbeats 1000000 in
theorem yc{w:World}{q:Wht}(hs:St H w σ)(h1:RI H cE s.st)(h2:RI H cB s.wa)(hr:RT H vh rows):
  aaR 101 [.agg #[I s.id,I s.src,cE,cB,I s.al,I s.up],.agg #[vh],.agg #[I q.kind,I q.st,I q.wa]] w fun u w'=>∃H1 n e,HLe H H1∧u= .tuple #[I n,I e]∧uj s rows q n e∧St H1 w' σ:=by
 obtain ⟨gv,gu,rfl⟩:=RI.shape h1;obtain ⟨fq,fp,rfl⟩:=RI.shape h2;obtain ⟨ah,ch,rfl⟩:=hr.shape;refine Cl.o func101 ntmps101 ag3 ?_;refine .af (.bx hs fun b3 w hs=>?_);refine .bx hs fun b4 w hs=>?_
 refine .bx hs fun b5 w hs=>?_
 refine .z zg (.zn zg (.seq (.af (.y hs (zls [_,_,_,_,_,_] bE aP) (.o (.call call113 rfl (jD (s:=s) hs h1 h2) ?_))))));rintro _ w ⟨e,rfl,he,hs⟩;refine .zn fV (.dK rfl (fun jH=>?_) (fun jH=>?_))
 ·refine .af (.z zg (.zn zg (.ret (rT (Fin.gU results101 rfl rfl ?_)))));have hq:¬ft s∧e=30:=he.resolve_left fun h=>jH h.2
  exact ⟨H,_,_,HLe.refl H,rfl,.space hq.1,hs.out⟩
 ·refine .skip (nT (.seq (.af (.y hs (zls [_,_,_,_,_,_] bE aP) (.y hs (zls [_] jo ea) ?_)))));have aZ:ft s:=(he.resolve_right fun h=>by omega).1;have pG:=eM aZ;refine .o (.call call151 rfl (pw (s:=s) hs h1 h2 hr) ?_);rintro _ w ⟨AL,rfl,yF,hs⟩;refine .zn fU (.cond rfl (fun ib=>?_) (fun ib=>?_))
  ·exact .af (.z zg (.zn zg (.ret (rT (Fin.gU results101 rfl rfl ⟨H,_,_,HLe.refl H,rfl,.hull aZ (fun h=>by rw [yF.2 h] at ib;cases ib),hs.out⟩)))))
  ·refine .skip (nT (.seq (.af (.y hs (zls [_,_,_,_,_,_] bE aP) (.y hs (zls [_,_,_] oW jY) ?_)))));have hh:kn s rows:=yF.1 (by simpa using ib);refine .o (.call call155 rfl (pq (s:=s) (q:=q) hs h1 h2) ?_);rintro _ w ⟨uf,rfl,pO,hs⟩;refine .zn fU (.cond rfl (fun jm=>?_) (fun jm=>?_))
   ·exact .af (.z zg (.zn zg (.ret (rT (Fin.gU results101 rfl rfl ⟨H,_,_,HLe.refl H,rfl,.what aZ hh (fun h=>by rw [pO.2 h] at jm;cases jm),hs.out⟩)))))
   ·refine .skip (nT (.af (.y hs (zls [_,_,_,_,_,_] bE aP) (.y hs (zls [_,_,_] oW jY) ?_))));have hq:gR s q:=pO.1 (by simpa using jm);have CT:s.many≤1000000:=by
     have:s.st.length*s.wa.length≤1000*1000:=Nat.mul_le_mul ai ai;unfold Spc.many;omega
    have Bj:=fW s q;have hwz:=nr aZ hq;refine .o (.call call156 rfl (po (s:=s) (q:=q) hs h1 h2 aZ hq) ?_);rintro _ w ⟨H1,vl,en,az,rfl,hO,hs⟩;obtain ⟨H2,bg,hW,hs⟩:=cU.dR hO ai hs dy;obtain ⟨aw,cw,rfl⟩:=RI.shape hW;have dq:=az.trans bg;replace h1:=h1.mono dq;replace h2:=h2.mono dq;replace hr:=hr.mono dq;refine .z zm (.z zex (.z zex (.z zg (.zn zg (.af (.zn zg (.seq (.af (.zn zg (.block ?_))))))))));refine .loop (fun p:Nat=>⟨49,[],[(11,I ((p+1:Nat):Int)),(10,I (i7 s q rows p)),(9,I (pT q)),(8,.slice aw (kW s q).length cw),(4,Pt b4),(3,Pt b3)]⟩)
     (fun p w=>p≤s.many∧St H2 w (.blk b5 [I q.kind,I q.st,I q.wa]:: .blk b4 [.slice ah rows.length ch]:: .blk b3 [I s.id,I s.src,.slice gv s.st.length gu,.slice fq s.wa.length fp,I s.al,I s.up]::σ)) (fun p=>s.many - p) 0 aH
     ⟨Nat.zero_le _,hs⟩ ?_
    clear hs hO;rintro p w ⟨hp,hs⟩;refine .seq (.af (.z zm (.z zm (.z (de ae) (.zn fN (.bh rfl (fun sY=>?_) (fun sY=>?_)))))))
    ·refine .skip (nT (.seq (.block (.draw mix rfl hs fun w hs=>?_))));refine .zw 0 rfl zm ?_;refine .z 1 rfl zm ?_;refine .z 2 rfl zm ?_;have FR:p<s.many:=by omega
     have oA:i7 s q rows (p+1)=i7 s q rows p+gi (kW s q) (p+1)*hpt s (gt rows) (p+1):=rfl;have A3:=kM aZ hq hh p ai;have B3:=kM aZ hq hh (p+1) ai;have V0:=jV (kW s q) (v:=p+1) (n:=s.many+1) ai;have w5:=El (b:=p+1) hh ai;have S4:=kL (a:=gi (kW s q) (p+1)) (b:=hpt s (gt rows) (p+1)) (A:=3456000000000) (B:=20000) ai ai;refine .ixX (enc:=fun x=>[I x]) (i:=3) hs rfl aA .none hW rfl rfl ae an (bu (l:=(kW s q)) (i:=(p+1)) ai) cK ?_;intro b38 o38 qP;replace qP:=bD.one qP;refine .r (i:=4) hs rfl aA .none (aC rfl aj qP) ?_;refine .ys 5 rfl hs [_,_,_,_,_,_] bE aP ?_;refine .ys 6 rfl hs [_] jo ea ?_;refine .z 7 rfl zm ?_;refine .E 8 hs ?_;refine .call call154 rfl (iJ (s:=s) (b:=p+1) hs h2 hr hh ai CT) ?_;rintro _ w ⟨rfl,hs⟩;refine .go (.zw 9 rfl kV ?_);refine .z 10 rfl cH ?_;refine .z 11 rfl zg ?_;refine .D hs ?_;exact nB (nT (.region (.z zm (.z cH (.zn zg (nT ⟨p+1,.cD rfl bH (.cD rfl (by rw [oA]) aH),⟨ai,hs⟩,ai⟩))))))
    ·refine .exit (xT (xT (xB (nT (.af (.z zm (.z zm ?_)))))));obtain rfl:p=s.many:=by omega
     have sZ:=kM aZ hq hh s.many ai;have RM:=zc q;refine .o (.call call119 rfl (k8 hs ai ai) ?_);rintro _ w ⟨rfl,hs⟩;exact .z zg (.zn zg (.ret (Fin.gU results101 rfl rfl ⟨H2,_,_,dq,rfl,.ok aZ hh hq,hs.out⟩)))
set_option maxHeartbeats 4000000 in
theorem sP{w:World}{s:Srv}(hs:St H w σ)(h1:RI H cE s.sp.st)(h2:RI H cB s.sp.wa)(h3:RRd H vr s.rs)(h4:RCm H vc s.cs)(hh:RT H vh rows):
  aaR 100 [.agg #[I s.sp.id,I s.sp.src,cE,cB,I s.sp.al,I s.sp.up,vr,vc],.agg #[vh]] w fun u w'=>∃H1 e,HLe H H1∧u=I e∧Jd s rows e∧St H1 w' σ:=by
 obtain ⟨gv,gu,rfl⟩:=RI.shape h1;obtain ⟨fq,fp,rfl⟩:=RI.shape h2;obtain ⟨ar,cr,rfl⟩:=RRd.shape h3;obtain ⟨ac,cc,rfl⟩:=RCm.shape h4;obtain ⟨ah,ch,rfl⟩:=hh.shape;refine Cl.o func100 ntmps100 ag2 ?_;refine .af (.bx hs fun b2 w hs=>?_);refine .bx hs fun b3 w hs=>?_
 refine .zn zg (.af (.y hs (zls [_,_,_,_,_,_,_,_] bA aM) (.o (.call call123 rfl (mE (s:=s) hs h1 h2 h3 h4) ?_))));rintro _ w ⟨H1,e,az,rfl,hC,hs⟩;refine .zn zg (.seq (.af (.z zm (.zn fV (.dK rfl (fun iW=>?_) (fun iW=>?_))))))
 ·exact .af (.z zm (.zn zg (.ret (rT (Fin.bj results100 rfl ⟨H1,_,az,rfl,.bad hC iW,hs.out⟩)))))
 ·refine .skip (nT (.af (.z (zfa aW) (.y hs (zls [_,_,_,_,_,_] bE aP) (.o (.alloc hs oT rfl fun b6 w hs=>?_))))));refine .o (.aE (vs:=[_,_,_,_,_,_]) hs rfl rfl aP fun w hs=>?_);refine .nil (.seq (.af (.y hs (zls [_,_,_,_,_,_] bE aP) (.y hs (zls [_] jo ea) ?_))));have aZ:eW s:=hC.dX.1 (by simpa using iW);have pG:=eM aZ.early.1;have BY:=aZ.early.2.1;refine .o (.call call151 rfl (pw (s:=s.sp) hs (h1.mono az) (h2.mono az) (hh.mono az)) ?_);rintro _ w ⟨I2,rfl,pN,hs⟩;refine .zn fU (.cond rfl (fun jX=>?_) (fun jX=>?_))
  ·exact .af (.zn zg (.ret (rT (Fin.bj results100 rfl ⟨H1,_,az,rfl,.hull aZ (fun h=>by rw [pN.2 h] at jX;cases jX),hs.out⟩))))
  ·refine .skip (nT (.af (.y hs (zls [_,_,_,_,_,_,_,_] bA aM) ?_)));have oC:kn s.sp rows:=pN.1 (by simpa using jX);have wq:=aZ.df;have CT:s.sp.many≤64:=by have:=aZ.many;omega
   refine .o (.call call152 rfl (mC (s:=s) hs (h1.mono az) (h2.mono az) (h3.mono az) (h4.mono az) aZ.early) ?_);rintro v26 w ⟨H2,en,bg,hO,hs⟩;obtain ⟨H3,bZ,hL,hs⟩:=cU.dh (m:=4) (cs:=s.df.map Lim.c) hO (fun c hc=>by simp only [List.mem_map] at hc;obtain ⟨x,_,rfl⟩:=hc;rfl) ai (by rw [List.length_map];omega) hs .here;replace hL:RL H3 v26 s.df:=hL;obtain ⟨al,cl,rfl⟩:=RL.shape hL;have ee:=az.trans (bg.trans bZ);replace h1:=h1.mono ee;replace h2:=h2.mono ee;replace h3:=h3.mono ee;replace h4:=h4.mono ee;replace hh:=hh.mono ee;have sZ:=fun b hb=>El (b:=b) oC hb
   have FY:=fun l hl=>aZ.sys.lim l hl
   refine .zn zg (.af (.y hs (zls [_,_,_,_,_,_] bE aP) (.o (.call Za rfl (eK (s:=s.sp) hs h1 h2 ⟨ai,ai⟩) ?_))));rintro _ w ⟨rfl,hs⟩;refine .zn zg (.seq (.af (.zn zg (.block ?_))));refine .loop (fun k:Nat=>⟨112,[],[(9,I (k:Int)),(8,I (s.sp.many:Int)),(7,.slice al s.df.length cl),(6,Pt b6),(3,Pt b3),(2,Pt b2)]⟩)
    (fun k w=>k≤s.df.length∧(∀l∈s.df.take k,l.A.toNat≤s.sp.many→l.B.toNat≤s.sp.many→hpt s.sp (gt rows) l.B.toNat≤hpt s.sp (gt rows) l.A.toNat+l.M)∧St H3 w (.blk b6 [I s.sp.id,I s.sp.src,.slice gv s.sp.st.length gu,.slice fq s.sp.wa.length fp,I s.sp.al,I s.sp.up]:: .blk b3 [.slice ah rows.length ch]:: .blk b2 [I s.sp.id,I s.sp.src,.slice gv s.sp.st.length gu,.slice fq s.sp.wa.length fp,I s.sp.al,I s.sp.up,.slice ar s.rs.length cr,.slice ac s.cs.length cc]::σ)) (fun k=>s.df.length - k) 0 aH
    ⟨Nat.zero_le _,bH,hs⟩ ?_
   clear hs hO;rintro k w ⟨hk,fL,hs⟩;refine .seq (.af (.z zm (.z zm (.z (de aO) (.zn fN (.bh rfl (fun sY=>?_) (fun sY=>?_)))))))
   ·refine .skip (nT (.seq (.block (.seq (.draw mix rfl hs fun w hs=>?_)))));refine .ys 0 rfl hs [_,_,_,_,_,_] bE aP ?_;refine .ys 1 rfl hs [_] jo ea ?_;refine .z 2 rfl zm ?_;refine .z 3 rfl zm ?_;obtain ⟨l,hx⟩:=nth (l:=s.df) (k:=k) ai;have FX:=List.mem_of_getElem? hx;obtain ⟨⟨gA,gB⟩,oX⟩:=mb aZ.early FX;refine .ixX (enc:=Lim.c) (i:=4) hs rfl aA .none hL rfl rfl aO bU hx cK ?_;intro Py o39 kd;refine .r (i:=5) hs rfl aA .none (bQ (vs:=l.c) rfl lG bU kd) ?_;refine .E 6 hs ?_;refine .call call153 rfl (zR (s:=s.sp) (l:=l) hs h1 h2 hh aZ.early.1 oC gA gB) ?_;rintro _ w ⟨Rg,rfl,NJ,hs⟩;refine .go (.zw 7 rfl fU ?_);refine .D hs ?_;refine (.cond rfl (fun tV=>?_) (fun tV=>?_))
    ·refine .af (.zn zg (.ret (rB (rT (rT (rB (rT (Fin.bj results100 rfl ?_))))))));exact ⟨H3,_,ee,rfl,.no aZ oC (fun h=>by
      rw [NJ.2 (((vu aZ.early).1 h).1 l FX)] at tV;cases tV),hs.out⟩
    ·refine .skip (nB (nT (.region (.z zm (.z cH (.zn zg (nT ?_)))))));exact ⟨k+1,.cD rfl bH aH,⟨ai,fun y hy=>by
      rw [dr hx] at hy;simp only [List.mem_append,List.mem_singleton] at hy
      rcases hy with hy|rfl
      ·exact fL y hy
      ·exact NJ.1 (by simpa using tV),hs⟩,ai⟩
   ·refine .exit (xT (xT (xB (nT (.seq (.af (.zn zg (.block ?_))))))));obtain rfl:k=s.df.length:=by omega
    rw [List.take_length] at fL;have QP:Jb s (hpt s.sp (gt rows)):=fL;refine .loop (fun j:Nat=>⟨112,[],[(10,I (j:Int)),(8,I (s.sp.many:Int)),(7,.slice al s.df.length cl),(6,Pt b6),(3,Pt b3),(2,Pt b2)]⟩)
     (fun j w=>j≤s.cQ.length∧(∀i<j,xA (hpt s.sp (gt rows)) (s.sp.many+1+i:Nat) s.df≤rN (hpt s.sp (gt rows)) (s.sp.many+1+i:Nat) s.df)∧St H3 w (.blk b6 [I s.sp.id,I s.sp.src,.slice gv s.sp.st.length gu,.slice fq s.sp.wa.length fp,I s.sp.al,I s.sp.up]:: .blk b3 [.slice ah rows.length ch]:: .blk b2 [I s.sp.id,I s.sp.src,.slice gv s.sp.st.length gu,.slice fq s.sp.wa.length fp,I s.sp.al,I s.sp.up,.slice ar s.rs.length cr,.slice ac s.cs.length cc]::σ)) (fun j=>s.cQ.length - j) 0 aH
     ⟨Nat.zero_le _,fun i hi=>by omega,hs⟩ ?_
    clear hs fL;rintro j w ⟨hj,rL,hs⟩;refine .seq (.af (.z zm (.z (zfa aN) (.y hs (zld dm) (.o (.call call96 rfl (rq hs h3 ai) ?_))))));rintro v46 w ⟨en46,NQ,hs⟩;replace NQ:cU 2 v46 (tdc s.cQ).flatten en46:=NQ;obtain ⟨a46,c46,rfl⟩:=NQ.j6 (sL _) ai;rw [fa];have xC:=aZ.many;refine .z (de cf) (.zn fN (.bh rfl (fun mI=>?_) (fun mI=>?_)))
    ·refine .skip (nT (.seq (.block (.af (.zn zg (.af (.zn zg (.seq (.af (.zn zg (.block ?_)))))))))));refine .loop (fun p:Nat×Int×Int=>⟨112,[],[(13,I (p.1:Int)),(12,I p.2.2),(11,I p.2.1),(10,I (j:Int)),(8,I (s.sp.many:Int)),(7,.slice al s.df.length cl),(6,Pt b6),(3,Pt b3),(2,Pt b2)]⟩)
      (fun p w=>p.1≤s.df.length∧p.2.1=xA (hpt s.sp (gt rows)) (s.sp.many+1+j:Nat) (s.df.take p.1)∧p.2.2=rN (hpt s.sp (gt rows)) (s.sp.many+1+j:Nat) (s.df.take p.1)∧St H3 w (.blk b6 [I s.sp.id,I s.sp.src,.slice gv s.sp.st.length gu,.slice fq s.sp.wa.length fp,I s.sp.al,I s.sp.up]:: .blk b3 [.slice ah rows.length ch]:: .blk b2 [I s.sp.id,I s.sp.src,.slice gv s.sp.st.length gu,.slice fq s.sp.wa.length fp,I s.sp.al,I s.sp.up,.slice ar s.rs.length cr,.slice ac s.cs.length cc]::σ)) (fun p=>s.df.length - p.1) (0,-1000,1000) aH
      ⟨Nat.zero_le _,rfl,rfl,hs.sb⟩ ?_
     clear hs NQ;rintro ⟨k,lo,hi⟩ w ⟨hk,S9,Tk,hs⟩;dsimp only at hk S9 Tk hs ⊢;subst S9;subst Tk;refine .seq (.af (.z zm (.z zm (.z (de aO) (.zn fN (.bh rfl (fun IP=>?_) (fun IP=>?_)))))))
     ·refine .skip (nT (.seq (.block (.cut (fun fs w=>∃y7,kG fs ⟨112,[],[(13,I (k:Int)),(12,I y7),(11,I (xA (hpt s.sp (gt rows)) (s.sp.many+1+j:Nat) (s.df.take k))),(10,I (j:Int)),(8,I (s.sp.many:Int)),(7,.slice al s.df.length cl),(6,Pt b6),(3,Pt b3),(2,Pt b2)]⟩∧y7=rN (hpt s.sp (gt rows)) (s.sp.many+1+j:Nat) (s.df.take (k+1))∧St H3 w (.blk b6 [I s.sp.id,I s.sp.src,.slice gv s.sp.st.length gu,.slice fq s.sp.wa.length fp,I s.sp.al,I s.sp.up]:: .blk b3 [.slice ah rows.length ch]:: .blk b2 [I s.sp.id,I s.sp.src,.slice gv s.sp.st.length gu,.slice fq s.sp.wa.length fp,I s.sp.al,I s.sp.up,.slice ar s.rs.length cr,.slice ac s.cs.length cc]::σ)) ?_ ?_))))
      ·refine .af (.z zm (.z zm ?_));obtain ⟨l,hx⟩:=nth (l:=s.df) (k:=k) ai;have FX:=List.mem_of_getElem? hx;obtain ⟨⟨gA,gB⟩,oX⟩:=mb aZ.early FX;have hM:=(FY l FX).2.2.2.1;obtain ⟨eA,hA⟩:∃a:Nat,l.A=a:=⟨_,(Int.toNat_of_nonneg gA).symm⟩;obtain ⟨eB,hB⟩:∃b:Nat,l.B=b:=⟨_,(Int.toNat_of_nonneg gB).symm⟩;have Vm:l.A.toNat=eA:=by rw [hA,Int.toNat_natCast]
       have QR:l.B.toNat=eB:=by rw [hB,Int.toNat_natCast]
       rw [Vm,QR] at oX;refine .ixX (enc:=Lim.c) hs hL rfl rfl aO bU hx cK ?_;intro b59 o59 F6;refine .z (zfa ed) (.q hs (aC rfl aj (F6.get 1 rfl)) (.z zm (.z cH (.z zm (.z cH (.zn fy (.bh rfl (fun tT=>?_) (fun tT=>?_))))))))
       ·refine .draw mix rfl hs fun w hs=>?_
        refine .zw 0 rfl zm ?_;refine .ys 1 rfl hs [_,_,_,_,_,_] bE aP ?_;refine .ys 2 rfl hs [_] jo ea ?_;refine .z 3 rfl zm ?_;refine .z 4 rfl zm ?_;refine .ixX (enc:=Lim.c) (i:=5) hs rfl aA .none hL rfl rfl aO bU hx cK ?_;intro b72 o72 KV;have q72:=KV.get 0 rfl;refine .zw 6 rfl (zfa dS) ?_;refine .y 7 rfl hs aj ?_;refine .z 9 rfl zm ?_;refine .z 10 rfl zm ?_;refine .ixX (enc:=Lim.c) (i:=11) hs rfl aA .none hL rfl rfl aO bU hx cK ?_;intro b78 o78 Qw;have q78:=Qw.get 2 rfl;refine .zw 12 rfl (zfa eZ) ?_;refine .y 13 rfl hs aj ?_;refine .E 8 hs ?_;have hbA:=sZ eA ai;rw [hA];refine .call call154 rfl (iJ (s:=s.sp) (b:=eA) hs h2 hh oC ai ai) ?_;rintro _ w ⟨rfl,hs⟩;refine .go (.zw 14 rfl cH ?_);refine .z 15 rfl Dq ?_;refine .z 16 rfl zg ?_;refine .D hs ?_;exact nT ⟨_,aH,by rw [dr hx,w7,if_pos ai,Vm],hs⟩
       ·exact .skip (nT ⟨_,aH,by rw [dr hx,w7,if_neg ai],hs⟩)
      ·clear hs;rintro fs w ⟨y7,fM,KO,hs⟩;refine WE.sub ?_ fM;clear fM;obtain ⟨l,hx⟩:=nth (l:=s.df) (k:=k) ai;have FX:=List.mem_of_getElem? hx;obtain ⟨⟨gA,gB⟩,oX⟩:=mb aZ.early FX;have hM:=(FY l FX).2.2.2.1;obtain ⟨eA,hA⟩:∃a:Nat,l.A=a:=⟨_,(Int.toNat_of_nonneg gA).symm⟩;obtain ⟨eB,hB⟩:∃b:Nat,l.B=b:=⟨_,(Int.toNat_of_nonneg gB).symm⟩;have Vm:l.A.toNat=eA:=by rw [hA,Int.toNat_natCast]
       have QR:l.B.toNat=eB:=by rw [hB,Int.toNat_natCast]
       rw [Vm,QR] at oX;refine .af (.z zm (.z zm (.ixX (enc:=Lim.c) hs hL rfl rfl aO bU hx cK ?_)));intro aaJ o85 NB;refine .z (zfa dS) (.q hs (aC rfl aj (NB.get 0 rfl)) (.z zm (.z cH (.z zm (.z cH (.zn fy (.bh rfl (fun KS=>?_) (fun KS=>?_))))))))
       ·refine .draw mix rfl hs fun w hs=>?_
        refine .zw 0 rfl zm ?_;refine .ys 1 rfl hs [_,_,_,_,_,_] bE aP ?_;refine .ys 2 rfl hs [_] jo ea ?_;refine .z 3 rfl zm ?_;refine .z 4 rfl zm ?_;refine .ixX (enc:=Lim.c) (i:=5) hs rfl aA .none hL rfl rfl aO bU hx cK ?_;intro b98 o98 Xn;have q98:=Xn.get 1 rfl;refine .zw 6 rfl (zfa ed) ?_;refine .y 7 rfl hs aj ?_;refine .z 9 rfl zm ?_;refine .z 10 rfl zm ?_;refine .ixX (enc:=Lim.c) (i:=11) hs rfl aA .none hL rfl rfl aO bU hx cK ?_;intro b104 o104 TJ;have q104:=TJ.get 2 rfl;refine .zw 12 rfl (zfa eZ) ?_;refine .y 13 rfl hs aj ?_;refine .E 8 hs ?_;have hbB:=sZ eB ai;rw [hB];refine .call call154 rfl (iJ (s:=s.sp) (b:=eB) hs h2 hh oC ai ai) ?_;rintro _ w ⟨rfl,hs⟩;refine .go (.zw 14 rfl gx ?_);refine .z 15 rfl DK ?_;refine .z 16 rfl zg ?_;refine .D hs ?_;exact nB (nT (.region (.z zm (.z cH (.zn zg (nT ⟨(k+1,_,y7),.cD rfl bH aH,⟨by dsimp only;omega,by dsimp only;rw [dr hx,rJ,if_pos ai,QR],KO,hs⟩,by dsimp only;omega⟩))))))
       ·exact .skip (nB (nT (.region (.z zm (.z cH (.zn zg (nT ⟨(k+1,xA (hpt s.sp (gt rows)) (s.sp.many+1+j:Nat) (s.df.take k),y7),.cD rfl bH aH,⟨by dsimp only;omega,by dsimp only;rw [dr hx,rJ,if_neg ai],KO,hs⟩,by dsimp only;omega⟩)))))))
     ·refine .exit (xT (xT (xB (nT (.af (.z zm (.z zm (.zn kU (.bh rfl (fun B1=>?_) (fun B1=>?_))))))))))
      ·refine .af (.zn zg (.ret (rB (rT (rT (rB (rT (Fin.bj results100 rfl ?_))))))));obtain rfl:k=s.df.length:=by omega
       rw [List.take_length] at B1;exact ⟨H3,_,ee,rfl,.no aZ oC (fun h=>by
        have:=((vu aZ.early).1 h).2 j ai;omega),hs.out⟩
      ·refine .skip (nB (nT (.region (.z zm (.z cH (.zn zg (nT ?_)))))));obtain rfl:k=s.df.length:=by omega
       rw [List.take_length] at B1;exact ⟨j+1,.cD rfl bH aH,⟨ai,fun i hi=>by
        by_cases e:i=j
        ·subst e;exact Int.not_lt.1 B1
        ·exact rL i ai,hs⟩,ai⟩
    ·exact .exit (xT (xT (xB (nT (.af (.zn zg (.ret (Fin.bj results100 rfl ⟨H3,_,ee,rfl,.ok aZ oC ((vu aZ.early).2 ⟨QP,fun i hi=>rL i ai⟩),hs.out⟩))))))))
set_option maxHeartbeats 4000000 in
theorem qL{w:World}{s:Srv}(hs:St H w σ)(h1:RI H cE s.sp.st)(h2:RI H cB s.sp.wa)(h3:RRd H vr s.rs)(h4:RCm H vc s.cs)(hh:RT H vh rows):
  aaR 65 [.agg #[I s.sp.id,I s.sp.src,cE,cB,I s.sp.al,I s.sp.up,vr,vc],.agg #[vh]] w fun u w'=>∃H1 e,HLe H H1∧u=I e∧Jd s rows e∧St H1 w' σ:=by
 obtain ⟨gv,gu,rfl⟩:=RI.shape h1;obtain ⟨fq,fp,rfl⟩:=RI.shape h2;obtain ⟨ar,cr,rfl⟩:=RRd.shape h3;obtain ⟨ac,cc,rfl⟩:=RCm.shape h4;obtain ⟨ah,ch,rfl⟩:=hh.shape;refine Cl.o func65 ntmps65 ag2 ?_;refine .af (.bx hs fun b2 w hs=>?_);refine .bx hs fun b3 w hs=>?_
 refine .zn zg (.seq (.af (.y hs (zls [_,_,_,_,_,_,_,_] bA aM) (.o (.call call117 rfl (ia (s:=s) hs h1 h2 h3 h4) ?_)))));rintro _ w ⟨H1,e,az,rfl,hC,hs⟩;refine .zn zg (.af (.z zm (.zn fV (.dK rfl (fun eC=>?_) (fun eC=>?_)))))
 ·exact .af (.z zm (.zn zg (.ret (rT ((Fin.bj results65 rfl ⟨H1,_,az,rfl,.bad hC eC,hs.out⟩))))))
 ·refine .skip (nT (.seq (.af (.z (zfa aW) (.y hs (zls [_,_,_,_,_,_] bE aP) (.y hs (zls [_] jo ea) ?_))))));have aZ:eW s:=hC.dX.1 (by simpa using eC);have pG:=eM aZ.early.1;have BY:=aZ.early.2.1;refine .o (.call call129 rfl (nJ (s:=s.sp) hs (h1.mono az) (h2.mono az) (hh.mono az)) ?_);rintro _ w ⟨H2,uf,bg,rfl,pO,hs⟩;have dq:=az.trans bg;refine .zn fU (.cond rfl (fun jm=>?_) (fun jm=>?_))
  ·exact .af (.zn zg (.ret (rT ((Fin.bj results65 rfl ⟨H2,_,dq,rfl,.hull aZ (fun h=>by rw [pO.2 h] at jm;cases jm),hs.out⟩)))))
  ·refine .skip (nT (.af (.y hs (zls [_,_,_,_,_,_,_,_] bA aM) ?_)));have oC:kn s.sp rows:=pO.1 (by simpa using jm);have wq:=aZ.df;have CT:=aZ.many;refine .o (.call call133 rfl (gJ (s:=s) hs (h1.mono dq) (h2.mono dq) (h3.mono dq) (h4.mono dq) aZ.early) ?_);rintro _ w ⟨H3,bZ,⟨ul,rfl,hL⟩,hs⟩;obtain ⟨al,cl,rfl⟩:=RL.shape hL;have ee:=dq.trans bZ;have sZ:=fun b hb=>El (b:=b) oC hb
   have FY:=fun l hl=>aZ.sys.lim l hl
   refine .o (.alloc hs fk rfl fun b6 w hs=>?_);refine .o (.aE (vs:=[_,_]) hs rfl rfl aV fun w hs=>?_);refine .nil (.af (.o (.buildSlice (cells:=[_]) hs cV rfl rfl fun Dy w hs=>?_)));refine .o (.alloc hs gS rfl fun b7 w hs=>?_);refine .o (.store hs rfl rfl aI fun w hs=>?_);refine .nil (.seq (.af (.z (zfa aW) (.y hs (zls [_,_,_,_,_,_] bE aP) (.o (.call Zc rfl (fY (s:=s.sp) hs (h1.mono ee) (h2.mono ee) ⟨ai,ai⟩) ?_))))));rintro _ w ⟨H4,ba,eH,rfl,qO,hs⟩;have js:=ee.trans eH;refine .nil (.block ?_);refine .rangeFunc (gf:=188) (cap:=[Pt ba]) (xs:=A4 s.sp) (σb:=[.blk b7 [.slice (some ⟨Dy,0,none⟩) 1 1],.blk Dy (Is [0]),.blk b6 [I s.sys.many,.slice al s.df.length cl],.blk b3 [.slice ah rows.length ch]]) (σf:=σ) (hs.sb) trivial rfl qO Zb (fun x hx=>by
     simp only [A4,List.mem_map] at hx;obtain ⟨j,_,rfl⟩:=hx;rfl) rfl
    (I:=fun p H' σb=>∃vo en,σb=[.blk b7 [vo],en,.blk b6 [I s.sys.many,.slice al s.df.length cl],.blk b3 [.slice ah rows.length ch]]∧cU 1 vo (Is (xl1 s (gt rows) (p+1))) en) (Ix:=fun _ _ _=>False)
    (fun j _ _ σ g1 g2=>g2) (fun _ _ _ _ _ h=>h) ⟨_,_,rfl,.full rfl⟩ ?_ ?_ (fun D c H' σb w _ h _=>h.elim)
   ·rintro ly p hp H5 xu xt w kD ⟨vo,en,rfl,hO⟩ hs ⟨rr,Du⟩;have FR:p<s.sp.many:=by rw [eI] at hp;exact hp
    have fL:p/s.sp.wa.length<s.sp.st.length:=Nat.div_lt_of_lt_mul (by rw [Nat.mul_comm];exact FR);have Jq:=Nat.mod_lt p pG.2.2.1;have Nh:hpt s.sp (gt rows) (p+1)=gi (gr rows (p/s.sp.wa.length)) (p%s.sp.wa.length):=rfl;have pH:=oC.row _ fL;have S1:=oC.len;have Ws:=hh.mono (js.trans kD);rw [oH hp];obtain ⟨ao,lo,co,rfl,w6⟩:=hO.shape;have sV:=oZ s (gt rows) (p+1);generalize p/s.sp.wa.length=i at*;generalize p%s.sp.wa.length=k at*;refine .region (.o (.alloc hs qi rfl fun b8 w hs=>?_));refine .o (.aE (vs:=[_,_,_]) hs rfl rfl BF fun w hs=>?_);refine .nil (nT ⟨H5,[.blk b8 [I (i:Int),I (k:Int),I ((p+1:Nat):Int)],.blk b7 [.slice ao lo co],en,.blk b6 [I s.sys.many,.slice al s.df.length cl],.blk b3 [.slice ah rows.length ch]],HLe.refl _,hs,?_⟩);rintro w oI - hs;refine .block (.draw mix rfl hs fun w hs=>?_);refine .y 0 rfl hs aq ?_;refine .z 1 rfl (zfa dW) ?_;refine .y 2 rfl hs kI ?_;refine .z 3 rfl (zfa du) ?_;refine .y 4 rfl hs aj ?_;refine .ixT (i:=5) hs rfl aA .none Ws rfl rfl au aI (show i<_ by omega) cK ?_;intro Oa o35 a35 c35 nj T0;refine .r (i:=6) hs rfl aA .none (aC rfl aq nj) ?_;refine .zw 7 rfl (zfa dt) ?_;refine .y 8 rfl hs aj ?_;refine .ixX (enc:=fun x=>[I x]) (i:=9) hs rfl aA .none T0 rfl rfl ae an (bu (l:=(gr rows i)) (i:=k) ai) cK ?_;intro Py o39 kd;replace kd:=bD.one kd;refine .r (i:=10) hs rfl aA .none (aC rfl aj kd) ?_;refine .E 11 hs ?_;refine .buildSlice (cells:=[_]) hs cV rfl rfl ?_;intro Rg w hs;refine .go (.E 12 hs ?_);refine .append (ys:=Is [gi (gr rows i) k]) hs cA rfl rfl hO (.own (c:=Is [gi (gr rows i) k]) (by first|exact .here|exact .there .here) rfl rfl) (iP _) (fun l h=>by simp at h;omega) ?_;intro v42 en42 w dY hs;rw [←List.map_append,←Nh,←Mi] at dY;obtain ⟨a42,l42,c42,rfl,h42⟩:=dY.shape;refine .go (.E 13 hs ?_);refine .store hs rfl rfl aI ?_;intro w hs;exact .go (.D hs (nB ⟨H5,[.blk b7 [.slice a42 l42 c42],en42,.blk b6 [I s.sys.many,.slice al s.df.length cl],.blk b3 [.slice ah rows.length ch]],HLe.refl _,(hs.sb:St H5 w (.blk b7 _::en42:: .blk b6 _:: .blk b3 _::oI)),_,_,rfl,dY⟩))
   ·rintro D H5 xu w kD ⟨vo,en,rfl,hO⟩ hs;rw [eI] at hO;replace hs:St H5 w (.obj D (.deferred (some [])):: .blk b7 [vo]::en:: .blk b6 [I s.sys.many,.slice al s.df.length cl]:: .blk b3 [.slice ah rows.length ch]::σ):=hs;obtain ⟨ao,lo,co,rfl,w6⟩:=hO.shape;have sV:=oZ s (gt rows) (s.sp.many+1);have Ta:lo=s.sp.many+1:=by simp [Is] at w6;omega
    subst Ta;have aay:=hL.mono (eH.trans kD);have sW:=js.trans kD;refine nB (nT (.seq (.af (.y hs (zld aq) (.z (de ae) (.zn zg (.block ?_)))))));refine .loop (fun j:Nat=>⟨81,marks [D],[(9,I ((s.sp.many+1+j:Nat):Int)),(7,Pt b7),(6,Pt b6)]⟩)
     (fun j w=>j≤s.cQ.length∧∃ax cx en,cU 1 (.slice ax (s.sp.many+1+j) cx) (Is (xl1 s (gt rows) (s.sp.many+1)++xl2 s (gt rows) j)) en∧St H5 w (.obj D (.deferred (some [])):: .blk b7 [.slice ax (s.sp.many+1+j) cx]::en:: .blk b6 [I s.sys.many,.slice al s.df.length cl]::σ)) (fun j=>s.cQ.length - j) 0 aH
     ⟨Nat.zero_le _,_,_,_,by show cU 1 _ (Is (_++[])) _;rw [List.append_nil];exact hO,hs.sb⟩ ?_
    clear hs hO;rintro j w ⟨hj,ax,cx,en,hO,hs⟩;have SR:s.sys.many=((s.sp.many+s.cQ.length:Nat):Int):=rfl;have OK:=BG s (gt rows) j;have Hg:(xl1 s (gt rows) (s.sp.many+1)++xl2 s (gt rows) j).length=s.sp.many+1+j:=by rw [List.length_append,sV,OK]
    refine .seq (.af (.z zm (.z (zfa cz) (.y hs (zld aj) (.zn oY (.bh rfl (fun mI=>?_) (fun mI=>?_)))))))
    ·refine .skip (nT (.seq (.block (.af (.zn zg (.seq (.af (.z (zfa cO) (.y hs (zld gz) (.z (de aO) (.zn zm (.for (N:=s.df.length) (J:=fun k fr w=>fr=[(10,I (xA (hpt s.sp (gt rows)) (s.sp.many+1+j:Nat) (s.df.take k))),(52,.slice al s.df.length cl),(9,I ((s.sp.many+1+j:Nat):Int)),(7,Pt b7),(6,Pt b6)]∧St H5 w (.obj D (.deferred (some [])):: .blk b7 [.slice ax (s.sp.many+1+j) cx]::en:: .blk b6 [I s.sys.many,.slice al s.df.length cl]::σ)) ai ?_ ?_ ?_))))))))))))
     ·exact .mk ⟨rfl,hs⟩
     ·rintro k fr w hk ⟨rfl,hs⟩;obtain ⟨l,hx⟩:=nth (l:=s.df) hk;have FX:=List.mem_of_getElem? hx;obtain ⟨⟨gA,gB⟩,oX⟩:=mb aZ.early FX;have hM:=(FY l FX).2.2.2.1;obtain ⟨eB,hB⟩:∃b:Nat,l.B=b:=⟨_,(Int.toNat_of_nonneg gB).symm⟩;have QR:l.B.toNat=eB:=by rw [hB,Int.toNat_natCast]
      rw [QR] at oX;have Bp:=FJ (hpt s.sp (gt rows)) (s.sp.many+1+j:Nat) (s.df.take k);refine .block (.af (.ixX (enc:=Lim.c) hs aay rfl rfl aO bU hx rfl ?_));intro aaL o56 KX;refine .q hs (bQ (vs:=l.c) rfl lG bU KX) (.o (.alloc hs iS rfl fun I3 w hs=>?_));refine .o (.aE (vs:=l.c) hs rfl rfl bU fun w hs=>?_);refine .nil (.af (.z (zfa dS) (.y hs (zld aj) (.z zm (.zn fy (.bh rfl (fun tU=>?_) (fun tU=>?_)))))))
      ·refine .draw mix rfl hs fun w hs=>?_
       have hbB:=sZ eB ai;obtain ⟨bo,co',sp,hv,rfl,yB⟩:=hO.blk (by rw [Hg];omega);simp only [Value.slice.injEq] at hv;obtain ⟨rfl,-,rfl⟩:=hv;have Qn:gi (xl1 s (gt rows) (s.sp.many+1)++xl2 s (gt rows) j) eB=hpt s.sp (gt rows) eB:=Ci s _ _ ai;refine .zw 0 rfl zm ?_;refine .y 1 rfl hs aq ?_;refine .z 2 rfl (zfa ed) ?_;refine .y 3 rfl hs aj ?_;rw [hB];refine .zw 4 rfl (zix (j:=eB) ae an) (.load (i:=5) hs rfl aA .none rfl aj ?_ (hv:=gQ ai sp));rw [Qn];refine .zw 6 rfl (zfa eZ) ?_;refine .y 7 rfl hs aj ?_;refine .z 8 rfl gx ?_;refine .z 9 rfl DK ?_;refine .z 10 rfl zg ?_;refine .D hs ?_;exact nB (nT (.mk ⟨by rw [dr hx,rJ,if_pos ai,QR],hs.sb⟩))
      ·exact .skip (nB (nT (.mk ⟨by rw [dr hx,rJ,if_neg ai],hs.sb⟩)))
     ·rintro fr w ⟨rfl,hs⟩;rw [List.take_length];refine nT (.region (.y hs (zld aq) (.z zm (.o (.buildSlice (cells:=[_]) hs cV rfl rfl fun Yp w hs=>?_)))));refine .o (.append (ys:=Is [xA (hpt s.sp (gt rows)) (s.sp.many+1+j:Nat) s.df]) hs cA rfl rfl hO (.own .here rfl rfl) (iP _) (fun l h=>by simp only [Is,List.length_map,Hg] at h;omega) ?_);intro v76 en76 w dY hs;rw [←List.map_append,List.append_assoc,←Mh] at dY;obtain ⟨a76,c76,rfl⟩:=dY.BM;have Zn:(xl1 s (gt rows) (s.sp.many+1)++xl2 s (gt rows) (j+1)).length=s.sp.many+1+(j+1):=by rw [List.length_append,sV,BG]
      rw [Zn] at dY ⊢;refine .o (.store hs rfl rfl aI fun w hs=>?_);exact .nil (nB (nT (.region (.z zm (.z cH (.zn zg (nT ⟨j+1,.cD rfl (by simp;omega) aH,⟨ai,_,_,_,dY,hs.sb⟩,ai⟩)))))))
    ·refine .exit (xT (xT (xB (nT (.seq (.af (.y hs (zls [_,_] cn aV) (.y hs (zld aq) ?_))))))));obtain rfl:j=s.cQ.length:=by omega
     obtain ⟨H6,yA,hX,hs⟩:=cU.dR hO (by rw [Hg];omega) hs dy;refine .o (.call call134 rfl (sd (s:=s.sys) hs ⟨_,rfl,aay.mono yA⟩ hX) ?_);rintro _ w ⟨e79,rfl,hP,hs⟩;have hn:=Bc s;have OV:LY s.sys (xl1 s (gt rows) (s.sp.many+1)++xl2 s (gt rows) s.cQ.length)↔∃f,Kp s (gt rows) f:=by
      rw [←Mg aZ];refine ⟨fun h=>h.Bs,fun h=>⟨by rw [Hg,hn];omega,by rw [Ci s _ _ ai];rfl,fun b hb=>?_,h⟩⟩;rw [hn] at hb;by_cases e:b<s.sp.many+1
      ·rw [Ci s _ _ e];have:=sZ b ai;omega
      ·rw [show b=s.sp.many+1+(b - (s.sp.many+1)) by omega,GK s _ ai];have g1:=FJ (hpt s.sp (gt rows)) (s.sp.many+1+(b - (s.sp.many+1)):Nat) s.df;have g2:=M7 aZ oC (b - (s.sp.many+1));omega
     refine .zn fV (.dK rfl (fun Eu=>?_) (fun Eu=>?_))
     ·refine .af (.zn zg (.ret (rT ((Fin.iT [D] [] hs fun w hs=>⟨_,results1 results65 rfl,H6,_,sW.trans yA,rfl,.no aZ oC (fun h=>Eu ?_),hs.out⟩)))))
      cases hP with
      |bad h=>exact (h (s.sys.dX.2 aZ.sys)).elim
      |off _ h1=>exact (h1 (OV.2 h)).elim
      |ok=>rfl
     ·refine .skip (nT (.af (.zn zg (.ret (Fin.iT [D] [] hs fun w hs=>⟨_,results1 results65 rfl,H6,_,sW.trans yA,rfl,.ok aZ oC (OV.1 ?_),hs.out⟩)))))
      cases hP with
      |bad h=>exact (h (s.sys.dX.2 aZ.sys)).elim
      |off _ h1=>omega
      |ok _ h1=>exact h1
theorem Ob{v:Srv}(h:eW v){q:Wht}(hq:gR v.sp q)(high:Bool):fj v.sys (Bt (v.w q) high)=0:=by
 unfold Bt;split
 ·exact h.ask hq
 ·rw [sI];exact h.ask hq
theorem l9{w:World}(hs:St H w σ)(hx: -3456000000000≤x∧x≤3456000000000):
  aaR 181 [I x] w fun v w'=>v=I (-x)∧St H w' σ:=by
 refine Cl.o func181 ntmps181 ag1 ?_;exact .af (.zn zg (.af (.z zm (.z Fm (.zn zg (.ret (Fin.bj results181 rfl ⟨rfl,hs.out⟩)))))))
theorem l7{w:World}(hs:St H w σ):
  aaR 182 [I x] w fun v w'=>v=I x∧St H w' σ:=by
 refine Cl.o func182 ntmps182 ag1 ?_;exact .af (.zn zg (.af (.z zm (.zn zg (.ret (Fin.bj results182 rfl ⟨rfl,hs.out⟩))))))
theorem LH(hx:L[k]? =some x):Bt (L.take k) high++[if high then x else -x]=Bt (L.take (k+1)) high:=by
 rw [dr hx];unfold Bt u6;cases high<;>simp
theorem AD:(Bt L high).length=L.length:=by unfold Bt u6;split<;>simp
theorem ni{w:World}{m:Int}{ul:Value}(hs:St H w σ)(hR:RI H vw L)(hb:∀i,-3456000000000≤gi L i∧gi L i≤3456000000000)(hl:L.length≤1000):
  aaR 127 [.agg #[I m,ul,vw,I d],.bool high] w fun v w'=>∃H1,HLe H H1∧RI H1 v (Bt L high)∧St H1 w' σ:=by
 obtain ⟨aw,cw,rfl⟩:=RI.shape hR;refine Cl.o func127 ntmps127 ag2 ?_;refine .af (.bx hs fun b2 w hs=>?_);refine .zn zg (.af (.zn zg (.cut (fun fs w=>∃f,kG fs ⟨25,[],[(5,.func (.func f) #[] #[]),(2,Pt b2)]⟩∧(∀args w,(callFunc f args).run Tryz.prog w= .ok (.enter f args) w)∧(∀{σ:List Ent} {w:World} {x:Int},St H w σ→-3456000000000≤x∧x≤3456000000000→aaR f [I x] w fun v w'=>v=I (if high then x else -x)∧St H w' σ)∧St H w (.blk b2 [I m,ul,.slice aw L.length cw,I d]::σ)) ?_ ?_)))
 ·refine .af (.zn zm (.cond rfl (fun nv=>?_) (fun nv=>?_)))
  ·refine .region (.zn zg (nT ?_));subst nv;exact ⟨182,aH,call182,fun hs hx=>(l7 hs).mono fun v w' h=>h,hs⟩
  ·refine .skip (nT ?_);obtain rfl:high=false:=by simpa using nv
   exact ⟨181,aH,call181,fun hs hx=>(l9 hs hx).mono fun v w' h=>h,hs⟩
 ·clear hs;rintro fs w ⟨f,fM,hcf,A1,hs⟩;refine WE.sub ?_ fM;clear fM;refine .af (.zn zg (.seq (.af (.z (zfa mh) (.y hs (zld aq) (.z (de ae) (.zn zm (.for (N:=L.length) (J:=fun k fr w=>∃vo en,fr=[(11,.slice aw L.length cw),(6,vo),(5,.func (.func f) #[] #[]),(2,Pt b2)]∧cU 1 vo (Is (Bt (L.take k) high)) en∧St H w (en:: .blk b2 [I m,ul,.slice aw L.length cw,I d]::σ)) ai ?_ ?_ ?_))))))))
  ·exact .mk ⟨_,_,rfl,by have:Bt (L.take 0) high=[]:=(by unfold Bt u6;cases high<;>simp);rw [this];exact .nil 1 none,hs.nul⟩
  ·rintro k fr w hk ⟨vo,en,rfl,hO,hs⟩;obtain ⟨x,hx⟩:=nth hk;have Ng:=hb k;rw [show gi L k=x by simp [gi,List.getD,hx]] at Ng;refine .block (.af (.ixX (enc:=fun x=>[I x]) hs hR rfl rfl ae an hx rfl ?_));intro yM o15 e7;replace e7:=bD.one e7;refine .q hs (aC rfl aj e7) (.zn zg (.region (.z zm (.z zm (.z zm (.o (.sa (first:=[]) (cap:=[]) rfl rfl hcf (A1 hs Ng) ?_)))))));rintro _ w ⟨rfl,hs⟩;refine .o (.buildSlice (cells:=[_]) hs cV rfl rfl fun uf w hs=>?_);refine .o (.append (ys:=Is [if high then x else -x]) hs cA rfl rfl hO (.own .here rfl rfl) (iP _) (fun l h=>by simp [Is,AD] at h;omega) ?_);intro v22 en22 w dY hs;rw [←List.map_append,LH hx] at dY;exact .zn zg (nB (nT (.mk ⟨_,_,rfl,dY,hs.sb⟩)))
  ·rintro fr w ⟨vo,en,rfl,hO,hs⟩;rw [List.take_length] at hO;refine nT (.af (.z zm (.zn zg (.ret (Fin.bj results127 rfl ?_)))));obtain ⟨H1,az,hR1,hs⟩:=cU.dR hO (by rw [AD];omega) hs .here;exact ⟨H1,az,hR1,hs.out⟩
theorem PU{v:Srv}{q:Wht}(g:Gu v q lo hi 0):∃a b,lo=a/pT q∧hi=b/pT q∧eW v∧gR v.sp q∧ik v.sys (v.w q) a b 0:=by
 generalize hz:(0:Int)=z at g
 cases g with
 |bad g ge=>exact (ge hz.symm).elim
 |what=>omega
 |fls=>omega
 |ok h1 h2 h3 h4=>exact ⟨_,_,rfl,rfl,h1,h2,h4⟩
set_option maxHeartbeats 2000000 in
theorem wR{w:World}{x:List Int}(hs:St H w σ)(h1:RI H cE s.st)(h2:RI H cB s.wa)(hx:RI H vx x)(A1:ft s)(sV:s.many+1≤x.length):
  aaR 128 [.agg #[I s.id,I s.src,cE,cB,I s.al,I s.up],vx] w fun u w'=>∃H1 va,HLe H H1∧u= .agg #[va]∧RT H1 va (ka s x s.st.length)∧St H1 w' σ:=by
 have pG:=eM A1;have hw:=pG.2.2.1;obtain ⟨gv,gu,rfl⟩:=RI.shape h1;obtain ⟨fq,fp,rfl⟩:=RI.shape h2;obtain ⟨ax,cx,rfl⟩:=RI.shape hx;refine Cl.o func128 ntmps128 ag2 ?_;refine .af (.bx hs fun b2 w hs=>?_);refine .bx hs fun b3 w hs=>?_
 refine .o (.alloc hs AW rfl fun b4 w hs=>?_);refine .nil (.af (.o (.alloc hs AW rfl fun b5 w hs=>?_)));refine .nil (.seq (.af (.y hs (zls [_,_,_,_,_,_] bE aP) (.o (.call Zc rfl (fY (s:=s) hs h1 h2 ⟨ai,ai⟩) ?_)))));rintro _ w ⟨H1,ba,az,rfl,qO,hs⟩;replace hx:=hx.mono az;refine .nil (.block ?_);refine .rangeFunc (gf:=188) (cap:=[Pt ba]) (xs:=A4 s) (σb:=[.blk b5 [.slice none 0 0],.nul,.blk b4 [.slice none 0 0],.blk b3 [.slice ax x.length cx]]) (σf:=σ) (hs.nul.sb) trivial rfl qO Zb (fun x hx=>by
   simp only [A4,List.mem_map] at hx;obtain ⟨j,_,rfl⟩:=hx;rfl) rfl
  (I:=fun p H' σb=>∃va us en ens,σb= .blk b5 [va]::en:: .blk b4 [.slice none 0 0]:: .blk b3 [.slice ax x.length cx]::ens∧cU 1 va us en∧ui us (DS s x p) ens) (Ix:=fun _ _ _=>False)
  (fun j _ _ σ g1 g2=>g2) (fun _ _ _ _ _ h=>h) ⟨_,[],_,[],rfl,.nil 1 none,by rw [Ia];exact .nil⟩ ?_ ?_ (fun D c H' σb w _ h _=>h.elim)
 ·rintro ly p hp H5 xu xt w kD ⟨va,us,en,ens,rfl,hO,hR⟩ hs ⟨rr,Du⟩;have FR:p<s.many:=by rw [eI] at hp;exact hp
  have fL:p/s.wa.length<s.st.length:=Nat.div_lt_of_lt_mul (by rw [Nat.mul_comm];exact FR);have Jq:=Nat.mod_lt p hw;have KJ:=Ib s x p hw;have pH:=JU s x p;have hRW:DS s x p=ka s x (p/s.wa.length)++if p%s.wa.length=0 then [] else [pc s x (p/s.wa.length) (p%s.wa.length)]:=rfl
  have hu:s.u (p/s.wa.length) (p%s.wa.length)=p+1:=by
   unfold Spc.u;have:=Nat.div_add_mod p s.wa.length;rw [Nat.mul_comm] at this;omega
  rw [hRW] at hR;have RA:us.length≤1001:=by
   have:=hR.length;rw [List.length_append,iY] at this;split at this<;>simp at this<;>omega
  rw [oH hp];obtain ⟨aa,la,ca,rfl,OT⟩:=hO.shape;have hx5:=hx.mono kD;generalize p/s.wa.length=i at*;generalize p%s.wa.length=k at*;refine .region (.o (.alloc hs qi rfl fun b6 w hs=>?_));refine .o (.aE (vs:=[_,_,_]) hs rfl rfl BF fun w hs=>?_);refine .nil (nT ⟨H5,.blk b6 [I (i:Int),I (k:Int),I ((p+1:Nat):Int)]:: .blk b5 [.slice aa la ca]::en:: .blk b4 [.slice none 0 0]:: .blk b3 [.slice ax x.length cx]::ens,HLe.refl _,hs,?_⟩);rintro w oI - hs;replace hs:St H5 w (.blk b6 [I (i:Int),I (k:Int),I ((p+1:Nat):Int)]:: .blk b5 [.slice aa la ca]::en:: .blk b4 [.slice none 0 0]:: .blk b3 [.slice ax x.length cx]::(ens++oI)):=hs;refine .block (.cut (fun fs w=>∃va us en ens,kG fs ⟨37,[],[(6,Pt b6),(5,Pt b5),(4,Pt b4),(3,Pt b3)]⟩∧cU 1 va us en∧ui us (ka s x i++[pc s x i k]) ens∧St H5 w (.blk b6 [I (i:Int),I (k:Int),I ((p+1:Nat):Int)]:: .blk b5 [va]::en:: .blk b4 [.slice none 0 0]:: .blk b3 [.slice ax x.length cx]::(ens++oI))) ?_ ?_)
  ·refine .af (.z (zfa dt) (.y hs (zld aj) (.zn fy (.bh rfl (fun fl=>?_) (fun fl=>?_)))))
   ·refine .region (.z (zfa dW) (.y hs (zld kI) (.o (.buildSlice (cells:=[.slice none 0 0]) hs tn rfl rfl fun yM w hs=>?_))));refine .o (.append (ys:=[.slice none 0 0]) hs nX rfl rfl hO (.own .here rfl rfl) (by simp [Value.oneCell']) (fun l h=>by omega) fun v16 en16 w ic hs=>?_);obtain ⟨a16,l16,c16,rfl,h16⟩:=ic.shape;refine .z (zfa dW) (.o (.store hs rfl rfl sizeOf62 fun w hs=>?_));refine .nil (nT ?_);obtain rfl:k=0:=by omega
    rw [if_pos rfl,List.append_nil] at hR;refine ⟨_,_,en16,ens++[.nul],aH,ic,hR.snoc (show cU 1 (.slice none 0 0) (Is (pc s x i 0)) .nul from .nil 1 none),?_⟩;replace hs:St H5 w (.blk b6 [I (i:Int),I ((0:Nat):Int),I ((p+1:Nat):Int)]:: .blk b5 [.slice a16 l16 c16]::en16:: .blk b4 [.slice none 0 0]:: .blk b3 [.slice ax x.length cx]::(ens++oI)):=hs.sb;replace hs:=hs.nul;rw [List.append_assoc];exact hs.perm (List.perm_middle (l₁:= .blk b6 _:: .blk b5 _::en16:: .blk b4 _:: .blk b3 _::ens) (l₂:=oI)).symm
   ·refine .skip (nT ?_);rw [if_neg ai] at hR;exact ⟨_,us,en,ens,aH,hO,hR,hs⟩
  ·clear hs hO hR;rintro fs w ⟨va,us,en,ens,fM,hO,hR,hs⟩;refine WE.sub ?_ fM;clear fM;have RA:=hR.length;rw [List.length_append,iY,List.length_singleton] at RA;obtain ⟨u,er,A,B,Jk,hOr,rfl,V6⟩:=hR.rowS pH
   rcases hO with ⟨_,_,h0,_⟩|⟨bo,lo,cap,sp,rfl,rfl,h5,h6,h7⟩
   ·exfalso;rw [h0] at RA;simp at RA
   obtain rfl:lo=i+1:=by omega
   obtain ⟨ar,cr,rfl⟩:=hOr.BM;rw [lZ] at hOr Jk;rw [show (A++er::B)++oI=A++er::(B++oI) by simp] at hs;replace hs:St H5 w (er:: .blk b6 [I (i:Int),I (k:Int),I ((p+1:Nat):Int)]:: .blk b5 [.slice (some ⟨bo,0,none⟩) (i+1) cap]:: .blk bo (us++sp):: .blk b4 [.slice none 0 0]:: .blk b3 [.slice ax x.length cx]::(A++(B++oI))):=hs.perm (List.perm_middle (l₁:= .blk b6 _:: .blk b5 _:: .blk bo _:: .blk b4 _:: .blk b3 _::A) (l₂:=B++oI));have Nj:(us++sp)[i]? =some (.slice ar k cr):=by rw [List.getElem?_append_left ai];exact Jk
   refine .draw mix rfl hs fun w hs=>?_
   refine .zw 0 rfl (zfa dW) ?_;refine .y 1 rfl hs kI ?_;refine .z 2 rfl (zfa du) ?_;refine .y 3 rfl hs aj ?_;refine .z 4 rfl (zfa dW) ?_;refine .y 5 rfl hs kI ?_;refine .z 6 rfl (zfa du) ?_;refine .y 7 rfl hs aj ?_;refine .z 8 rfl (zix (j:=i) au aI) ?_;refine .load (i:=9) hs rfl aA .none rfl aq ?_ (hv:=Nj);refine .y 10 rfl hs aq ?_;refine .z 11 rfl (zfa eT) ?_;refine .y 12 rfl hs aj ?_;refine .ixX (enc:=fun x=>[I x]) (i:=13) hs rfl aA .none hx5 rfl rfl ae an (bu (l:=x) (i:=(p+1)) ai) cK ?_;intro Mc o31 nk;replace nk:=bD.one nk;refine .r (i:=14) hs rfl aA .none (aC rfl aj nk) ?_;refine .E 15 hs ?_;refine .buildSlice (cells:=[_]) hs cV rfl rfl ?_;intro Uq w hs;refine .go (.E 16 hs ?_);refine .append (ys:=Is [gi x (p+1)]) hs cA rfl rfl hOr (.own .here rfl rfl) (iP _) (fun l h=>by simp [lZ] at h;omega) ?_;intro v34 en34 w dY hs;rw [←List.map_append,←hu,←Ig] at dY;obtain ⟨a34,c34,rfl⟩:=dY.BM;rw [lZ] at dY ⊢;have aap:=V6 _ _ _ dY;rw [KJ] at aap;refine .go (.zw 17 rfl (zix (j:=i) au aI) (.E 18 hs ?_));refine .store (c':=us.set i (.slice a34 (k+1) c34)++sp) hs rfl rfl aI ?_ dy (Nat.ble_eq_true_of_le (by rw [List.length_append];omega)) (by rw [List.set_append_left _ _ ai]);intro w hs;refine .go (.D hs (nB ⟨H5,.blk b5 [.slice (some ⟨bo,0,none⟩) (i+1) cap]:: .blk bo (us.set i (.slice a34 (k+1) c34)++sp):: .blk b4 [.slice none 0 0]:: .blk b3 [.slice ax x.length cx]::(A++en34::B),HLe.refl _,?_,_,_,_,_,rfl,.inr ⟨bo,i+1,cap,sp,rfl,rfl,by rw [List.length_set];omega,by rw [List.length_append,List.length_set,←List.length_append];exact h6,h7⟩,aap⟩));replace hs:St H5 w (en34:: .blk b5 [.slice (some ⟨bo,0,none⟩) (i+1) cap]:: .blk bo (us.set i (.slice a34 (k+1) c34)++sp):: .blk b4 [.slice none 0 0]:: .blk b3 [.slice ax x.length cx]::(A++(B++oI))):=hs.sb;replace hs:=hs.perm (List.perm_middle (l₁:= .blk b5 _:: .blk bo _:: .blk b4 _:: .blk b3 _::A) (l₂:=B++oI)).symm;rw [show (.blk b5 [.slice (some ⟨bo,0,none⟩) (i+1) cap]:: .blk bo (us.set i (.slice a34 (k+1) c34)++sp):: .blk b4 [.slice none 0 0]:: .blk b3 [.slice ax x.length cx]::(A++en34::B))++oI=(.blk b5 [.slice (some ⟨bo,0,none⟩) (i+1) cap]:: .blk bo (us.set i (.slice a34 (k+1) c34)++sp):: .blk b4 [.slice none 0 0]:: .blk b3 [.slice ax x.length cx]::A)++en34::(B++oI) by simp];exact hs
 ·rintro D H5 xu w kD ⟨va,us,en,ens,rfl,hO,hR⟩ hs;rw [eI,Ic s x hw] at hR;replace hs:St H5 w (.obj D (.deferred (some [])):: .blk b5 [va]::en:: .blk b4 [.slice none 0 0]:: .blk b3 [.slice ax x.length cx]::(ens++σ)):=hs;have RA:=hR.length;rw [iY] at RA;obtain ⟨aa,la,ca,rfl,OT⟩:=hO.shape;refine nB (nT (.af (.y hs (zls [_] jo ea) (.o (.aE (vs:=[_]) hs rfl rfl ea fun w hs=>?_)))));refine .nil (.ret ?_);replace hs:St H5 w (ens++(.obj D (.deferred (some [])):: .blk b5 [.slice aa la ca]::en:: .blk b4 [.slice aa la ca]:: .blk b3 [.slice ax x.length cx]::σ)):=(show St H5 w ([.obj D (.deferred (some [])),.blk b5 [.slice aa la ca],en,.blk b4 [.slice aa la ca],.blk b3 [.slice ax x.length cx]]++(ens++σ)) from hs).perm (List.perm_append_comm_assoc _ ens σ);obtain ⟨H6,yA,Pg,hs⟩:=hR.dh (fun r hr=>by
   obtain ⟨j,hj⟩:=List.getElem?_of_mem hr;have uq:=(List.getElem?_eq_some_iff.1 hj).1;rw [iY] at uq;rw [DU uq] at hj;obtain rfl:=Option.some.inj hj;rw [lZ];omega) hs
  obtain ⟨H7,Nr,yG,hs⟩:=Pg.dh hO ai hs (.there (.there .here));exact Fin.iT [D] [] hs fun w hs=>⟨_,results1 results128 (dp (vs:=[_]) hs rfl jo ea),H7,_,az.trans (kD.trans (yA.trans Nr)),rfl,yG,hs.out⟩
set_option maxHeartbeats 1000000 in
theorem kz{w:World}{s:Srv}{q:Wht}(hs:St H w σ)(h1:RI H cE s.sp.st)(h2:RI H cB s.sp.wa)(h3:RRd H vr s.rs)(h4:RCm H vc s.cs):
  aaR 63 [.agg #[I s.sp.id,I s.sp.src,cE,cB,I s.sp.al,I s.sp.up,vr,vc],.agg #[I q.kind,I q.st,I q.wa],.bool high] w fun u w'=>∃H1 vh rows e,HLe H H1∧u= .tuple #[.agg #[vh],I e]∧RT H1 vh rows∧BD s q e∧(e≠0→rows=[])∧(e=0→∃x,E2 s.sys (Bt (s.w q) high) x∧rows=ka s.sp x s.sp.st.length)∧St H1 w' σ:=by
 refine Cl.o func63 ntmps63 ag3 ?_;refine .af (.bx hs fun b3 w hs=>?_);refine .bx hs fun b4 w hs=>?_
 refine .o (.alloc hs AW rfl fun b6 w hs=>?_);refine .zn zg (.af (.y hs (zls [_,_,_,_,_,_,_,_] bA aM) (.y hs (zls [_,_,_] oW jY) (.o (.call call125 rfl (ox (s:=s) (q:=q) hs h1 h2 h3 h4) ?_)))));rintro _ w ⟨H1,m,ul,vw,d,e,az,rfl,⟨al,ll,cl,rfl⟩,⟨aw,lw,cw,rfl⟩,hA,QT,hs⟩;refine .z zm (.z zex (.z zex (.o (.alloc hs E6 rfl fun b8 w hs=>?_))));refine .o (.aE (vs:=[_,_,_,_]) hs rfl rfl jg fun w hs=>?_);refine .zn zg (.seq (.af (.z zm (.zn fV (.dK rfl (fun ib=>?_) (fun ib=>?_))))))
 ·refine .af (.z (zbd [_] sh) (.z zm (.o (.aE (vs:=[_]) hs rfl rfl ea fun w hs=>?_))));exact .zn zg (.ret (rT ((Fin.iT [] [] hs fun w hs=>⟨_,results2 results63 (dp (vs:=[_]) hs rfl jo ea) rfl,H1,_,[],_,az,rfl,RT.nil _,hA,fun _=>rfl,fun h=>(ib h).elim,hs.out⟩))))
 ·refine .skip (nT (.seq (.draw mix rfl hs fun w hs=>?_)));refine .zw 0 rfl (zfa mi) ?_;refine .ys 1 rfl hs [_,_] cn aV ?_;refine .ys 2 rfl hs [_,_,_,_] PH jg ?_;refine .z 3 rfl zm ?_;refine .E 4 hs ?_;obtain rfl:e=0:=by simpa using ib
  obtain ⟨rfl,hL,hR,rfl⟩:=QT rfl;obtain ⟨aZ,hq,oX⟩:=hA.zero;have Bk:=aZ.sys.n65;have Bj:=rk s q;refine .call call127 rfl (ni (high:=high) hs hR (GN aZ hq) ai) ?_;rintro _ w ⟨H2,bg,NO,hs⟩;refine .go (.E 5 hs ?_);refine .call call126 rfl (AH (s:=s.sys) hs ⟨_,rfl,hL.mono bg⟩ NO) ?_;rintro _ w ⟨H3,vx,x,f,bZ,rfl,hF,hX,-,hB,hs⟩;obtain ⟨ax,cx,rfl⟩:=RI.shape hX;obtain rfl:=Gq (Ob aZ hq high) oX (fun b=>s.both) hF;have Po:=hB rfl;have ee:=az.trans (bg.trans bZ);refine .go (.zw 6 rfl zm ?_);refine .z 7 rfl zex ?_;refine .z 8 rfl zex ?_;refine .z 9 rfl zg ?_;refine .z 10 rfl zg ?_;refine .D hs ?_;refine .seq (.af (.z zm (.zn fV (.dK rfl (fun nk=>?_) (fun nk=>?_)))))
  ·refine .af (.z (zbd [_] sh) (.z zm (.o (.aE (vs:=[_]) hs rfl rfl ea fun w hs=>?_))));exact .zn zg (.ret (rT (((nk rfl).elim))))
  ·refine .skip (nT (.af (.z (zfa aW) (.y hs (zls [_,_,_,_,_,_] bE aP) (.z zm (.o (.call call128 rfl (wR (s:=s.sp) hs (h1.mono ee) (h2.mono ee) hX aZ.early.1 (by rw [Po.len,Bc];omega)) ?_)))))));rintro _ w ⟨H4,va,eH,rfl,hT,hs⟩;obtain ⟨aa,ca,rfl⟩:=hT.shape;refine .o (.aE (vs:=[_]) hs rfl rfl ea fun w hs=>?_);exact .zn zg (.ret (Fin.iT [] [] hs fun w hs=>⟨_,results2 results63 (dp (vs:=[_]) hs rfl jo ea) rfl,H4,_,_,_,ee.trans eH,rfl,hT,hA,fun h=>(h rfl).elim,fun _=>⟨x,Po,rfl⟩,hs.out⟩))
theorem Rj{s:Srv}{q:Wht}{x:List Int}(g:Gu s q lo hi 0)(hB:E2 s.sys (Bt (s.w q) high) x):
  uj s.sp (ka s.sp x s.sp.st.length) q (if high=true then hi else lo) 0∧Jd s (ka s.sp x s.sp.st.length) 0:=by
 obtain ⟨a,b,rfl,rfl,aZ,hq,hR⟩:=PU g;obtain ⟨hH,hK,Wb⟩:=EY aZ hB.zero hB.Bs q;refine ⟨?_,.ok aZ hH hK⟩;have h:=uj.ok aZ.early.1 hH hq;rw [Wb] at h;unfold Bt at hB
 cases high with
 |true=>rw [if_pos rfl] at hB ⊢;rw [Re hR hB] at h;exact h
 |false=>rw [if_neg bH] at hB ⊢;rw [Rc hR hB] at h;exact h
theorem cM{w:World}(hs:St H w σ):aaR 72 [I a0,I a1,I a2] w fun v w'=>v= .bool (decide (a1≤a0∧a0≤a2))∧St H w' σ:=by
 refine Cl.o func72 ntmps72 ag3 ?_;refine .af (.zn zg (.af (.z zm (.z zm (.z oY (.z zm (.iz (t':=10) rfl (fun pP=>?_) (fun pP=>?_))))))))
 ·exact .T (.z zm (.T (.z zm (.T (.z oY (.z zpT (.zn zg (.ret (Fin.bj results72 rfl ⟨by simp [*],hs.out⟩)))))))))
 ·exact .Fs 3 3 true (.z zpF (.zn zg (.ret (Fin.bj results72 rfl ⟨by simp [*],hs.out⟩))))
theorem mH{w:World}(hs:St H w σ):aaR 73 [I a0] w fun v w'=>v= .bool (decide (1≤a0∧a0≤20))∧St H w' σ:=by
 refine Cl.o func73 ntmps73 ag1 ?_;refine .af (.zn zg (.af (.z zm (.o (.call mz rfl (cM hs) ?_)))));rintro _ w ⟨rfl,hs⟩;exact .zn zg (.ret (Fin.bj results73 rfl ⟨rfl,hs⟩))
theorem qu{w:World}{y:Int}(hs:St H w σ):aaR 161 [.agg #[I x,I y],I a1,I a2] w fun v w'=>v= .bool (decide (a1≤x∧x≤y∧y≤a2))∧St H w' σ:=by
 refine Cl.o func161 ntmps161 ag3 ?_;refine .af (.bx hs fun b3 w hs=>?_);refine .zn zg (.af (.z zm (.z (zfa bp) (.y hs (zld aj) (.z oY (.z zm (.iz (t':=11) rfl (fun oO=>?_) (fun oO=>?_))))))))
 ·refine .T (.z (zfa bp) (.T (.y hs (zld aj) (.T (.z (zfa bI) (.T (.y hs (zld aj) (.T (.z oY (.z zpT (.z zm (.iz (t':=18) rfl (fun Gb=>?_) (fun Gb=>?_)))))))))))))
  ·exact .T (.z (zfa bI) (.T (.y hs (zld aj) (.T (.z zm (.T (.z oY (.z zpT (.zn zg (.ret (Fin.bj results161 rfl ⟨by simp [*],hs.out⟩)))))))))))
  ·exact .Fs 4 11 true (.z zpF (.zn zg (.ret (Fin.bj results161 rfl ⟨by simp [*],hs.out⟩))))
 ·exact .Fs 5 4 true (.z zpF (.z zm (.Fs 4 11 true (.z zpF (.zn zg (.ret (Fin.bj results161 rfl ⟨by simp [*],hs.out⟩)))))))
theorem qv{w:World}{y:Int}(hs:St H w σ):aaR 109 [.agg #[I x,I y]] w fun v w'=>v= .bool (decide (iZ x y))∧St H w' σ:=by
 refine Cl.o func109 ntmps109 ag1 ?_;refine .af (.bx hs fun b1 w hs=>?_);refine .zn zg (.af (.y hs (zls [_,_] bJ aB) (.o (.call call161 rfl (qu hs) ?_))));rintro _ w ⟨rfl,hs⟩;exact .zn zg (.ret (Fin.bj results109 rfl ⟨rfl,hs.out⟩))
theorem pC{w:World}{y:Int}(hs:St H w σ):aaR 118 [.agg #[I x,I y]] w fun v w'=>v= .bool (decide (gw x y))∧St H w' σ:=by
 refine Cl.o func118 ntmps118 ag1 ?_;refine .af (.bx hs fun b1 w hs=>?_);refine .zn zg (.af (.y hs (zls [_,_] bJ aB) (.o (.call call161 rfl (qu hs) ?_))));rintro _ w ⟨rfl,hs⟩;exact .zn zg (.ret (Fin.bj results118 rfl ⟨rfl,hs.out⟩))
theorem Ac{w:World}{x:Lg}(hs:St H w σ):
  aaR 75 [.agg #[I x.zone,I x.fr,I x.to,I x.dlo,I x.dhi,I x.blo,I x.bhi]] w fun v w'=>∃b:Bool,v= .bool b∧(b=true↔Gx x)∧St H w' σ:=by
 refine Cl.o func75 ntmps75 ag1 ?_;refine .af (.bx hs fun b1 w hs=>?_);refine .zn zg (.af (.z (zfa ml) (.y hs (zld aj) (.o (.call call73 rfl (mH hs) ?_)))));rintro _ w ⟨rfl,hs⟩;refine .z zm (.bif (t':=6) rfl (fun Fj=>?_) (fun Fj=>?_))
 ·refine .T (.z (zfa fJ) (.T (.y hs (zld aj) (.T (.z (zfa fI) (.T (.y hs (zld aj) (.T (.o (.call mz rfl (cM hs) ?_))))))))));rintro _ w ⟨rfl,hs⟩;refine .z zpT (.z zm (.bif (t':=13) rfl (fun xa=>?_) (fun xa=>?_)))
  ·refine .T (.z (zfa fI) (.T (.y hs (zld aj) (.T (.o (.call mz rfl (cM hs) ?_))))));rintro _ w ⟨rfl,hs⟩;refine .z zpT (.z zm (.bif (t':=18) rfl (fun Gb=>?_) (fun Gb=>?_)))
   ·refine .T (.z (zfa ep) (.T (.y hs (zls [_,_] bJ aB) (.T (.o (.call call118 rfl (pC hs) ?_))))));rintro _ w ⟨rfl,hs⟩;refine .z zpT (.z zm (.bif (t':=23) rfl (fun pN=>?_) (fun pN=>?_)))
    ·refine .T (.z (zfa gD) (.T (.y hs (zls [_,_] bJ aB) (.T (.o (.call call109 rfl (qv hs) ?_))))));rintro _ w ⟨rfl,hs⟩;refine .z zpT (.zn zg (.ret (Fin.bj results75 rfl ?_)));first
     |exact ⟨false,rfl,⟨fun h=>(by cases h),fun h=>(by obtain ⟨g1,g2,g3,g4,g5⟩:=h;first|omega|(simp_all;done)|(simp_all;omega))⟩,hs.out⟩
     |exact ⟨_,rfl,⟨fun h=>⟨by simp_all,by simp_all,by simp_all,by simp_all,by simpa using h⟩,fun h=>by simpa using h.burn⟩,hs.out⟩
    ·refine .Fs 3 20 true (.z zpF (.zn zg (.ret (Fin.bj results75 rfl ?_))));first
     |exact ⟨false,rfl,⟨fun h=>(by cases h),fun h=>(by obtain ⟨g1,g2,g3,g4,g5⟩:=h;first|omega|(simp_all;done)|(simp_all;omega))⟩,hs.out⟩
     |exact ⟨_,rfl,⟨fun h=>⟨by simp_all,by simp_all,by simp_all,by simp_all,by simpa using h⟩,fun h=>by simpa using h.burn⟩,hs.out⟩
   ·refine .Fs 3 15 true (.z zpF (.z zm (.Fs 3 20 true (.z zpF (.zn zg (.ret (Fin.bj results75 rfl ?_)))))));first
    |exact ⟨false,rfl,⟨fun h=>(by cases h),fun h=>(by obtain ⟨g1,g2,g3,g4,g5⟩:=h;first|omega|(simp_all;done)|(simp_all;omega))⟩,hs.out⟩
    |exact ⟨_,rfl,⟨fun h=>⟨by simp_all,by simp_all,by simp_all,by simp_all,by simpa using h⟩,fun h=>by simpa using h.burn⟩,hs.out⟩
  ·refine .Fs 3 10 true (.z zpF (.z zm (.Fs 3 15 true (.z zpF (.z zm (.Fs 3 20 true (.z zpF (.zn zg (.ret (Fin.bj results75 rfl ?_))))))))));first
   |exact ⟨false,rfl,⟨fun h=>(by cases h),fun h=>(by obtain ⟨g1,g2,g3,g4,g5⟩:=h;first|omega|(simp_all;done)|(simp_all;omega))⟩,hs.out⟩
   |exact ⟨_,rfl,⟨fun h=>⟨by simp_all,by simp_all,by simp_all,by simp_all,by simpa using h⟩,fun h=>by simpa using h.burn⟩,hs.out⟩
 ·refine .Fs 5 3 true (.z zpF (.z zm (.Fs 3 10 true (.z zpF (.z zm (.Fs 3 15 true (.z zpF (.z zm (.Fs 3 20 true (.z zpF (.zn zg (.ret (Fin.bj results75 rfl ?_)))))))))))));first
  |exact ⟨false,rfl,⟨fun h=>(by cases h),fun h=>(by obtain ⟨g1,g2,g3,g4,g5⟩:=h;first|omega|(simp_all;done)|(simp_all;omega))⟩,hs.out⟩
  |exact ⟨_,rfl,⟨fun h=>⟨by simp_all,by simp_all,by simp_all,by simp_all,by simpa using h⟩,fun h=>by simpa using h.burn⟩,hs.out⟩
set_option maxHeartbeats 1000000 in
theorem kb{w:World}(hs:St H w σ)(h1:RFb H vt l.table)(h2:RSn H vs l.seasons):
  aaR 19 [.agg #[I l.length,I l.depth,vt,vs]] w fun u w'=>∃e,u=I e∧aaQ l e∧St H w' σ:=by
 obtain ⟨at_,ct,rfl⟩:=h1.shape;obtain ⟨dC,cs,rfl⟩:=h2.shape;refine Cl.o func19 ntmps19 ag1 ?_;refine .af (.bx hs fun b1 w hs=>?_);refine .zn zg (.seq (.af (.z (zfa eQ) (.y hs (zld aj) (.o (.call mz rfl (cM hs) ?_))))));rintro _ w ⟨rfl,hs⟩;refine .z fU (.z zm (.bif (t':=11) rfl (fun oO=>?_) (fun oO=>?_)))
 ·exact .Fs 4 4 false (.z zpT (.z zm (.Fs 5 10 false (.z zpT (.z zm (.Fs 4 17 false (.zn zpT (.cT (.af (.zn zg (.ret (rT (Fin.bj my rfl ⟨_,rfl,.inr ⟨fun h=>by have:=h.length;simp_all,rfl⟩,hs.out⟩)))))))))))))
 ·refine .T (.z (zfa ji) (.T (.y hs (zld aj) (.T (.o (.call mz rfl (cM hs) ?_))))));rintro _ w ⟨rfl,hs⟩;refine .T (.z fU (.z zpF (.z zm (.bif (t':=17) rfl (fun yF=>?_) (fun yF=>?_)))))
  ·exact .Fs 5 10 false (.z zpT (.z zm (.Fs 4 17 false (.zn zpT (.cT (.af (.zn zg (.ret (rT (Fin.bj my rfl ⟨_,rfl,.inr ⟨fun h=>by have:=h.depth;simp_all,rfl⟩,hs.out⟩))))))))))
  ·refine .T (.z (zfa db) (.T (.y hs (zld j5) (.T (.z (de bn) (.T (.o (.call mz rfl (cM hs) ?_))))))));rintro _ w ⟨rfl,hs⟩;refine .T (.z fU (.z zpF (.z zm (.bif (t':=24) rfl (fun qS=>?_) (fun qS=>?_)))))
   ·exact .Fs 4 17 false (.zn zpT (.cT (.af (.zn zg (.ret (rT (Fin.bj my rfl ⟨_,rfl,.inr ⟨fun h=>by have:=h.many;simp_all;omega,rfl⟩,hs.out⟩)))))))
   ·refine .T (.z (zfa dj) (.T (.y hs (zld kJ) (.T (.z (de bY) (.T (.z kU (.zn zpF (.bh rfl (fun nO=>?_) (fun nO=>?_))))))))))
    ·exact .af (.zn zg (.ret (rT (Fin.bj my rfl ⟨_,rfl,.inr ⟨fun h=>by have:=h.most;simp_all;omega,rfl⟩,hs.out⟩))))
    ·refine .skip (nT (.seq (.af ?_)));have F0:1≤l.table.length∧l.table.length≤20:=by first|omega|(simp at qS;omega)
     refine .z (zfa db) (.y hs (zld j5) (.z (de bn) (.zn zm (.for (N:=l.table.length) (J:=fun k fr w=>fr=[(31,.slice at_ l.table.length ct),(1,Pt b1)]∧(∀j<k,Oj l.table j)∧St H w (.blk b1 [I l.length,I l.depth,.slice at_ l.table.length ct,.slice dC l.seasons.length cs]::σ)) ai ?_ ?_ ?_))))
     ·exact .mk ⟨rfl,fun j hj=>by omega,hs⟩
     ·rintro k fr w hk ⟨rfl,eE,hs⟩;have hx:=oQ (l:=l.table) hk;have wZ:=oQ (l:=l.table) (i:=k - 1) ai;refine .block (.af (.z zm (.ixX (enc:=Fbd.c) hs h1 rfl rfl bn cP hx cK ?_)));intro Vs o36 oN;refine .q hs (bQ (vs:=(Fbd.c (fb0 l.table k))) rfl isAgg134 cP oN) (.o (.alloc hs na rfl fun b4 w hs=>?_));refine .z zg (.o (.aE (vs:=(fb0 l.table k).c) hs rfl rfl cP fun w hs=>?_));change St _ _ (.blk b4 [I (fb0 l.table k).len,I (fb0 l.table k).least]::_) at hs;refine .nil (.seq (.draw mix rfl hs fun w hs=>?_));refine .zw 0 rfl (zfa bV) ?_;refine .y 1 rfl hs aj ?_;refine .E 2 hs ?_;refine .call mz rfl (cM hs) ?_;rintro _ w ⟨rfl,hs⟩;refine .go (.zw 3 rfl fU ?_);refine .z 4 rfl zm ?_;refine .bif (t':=42) rfl (fun QG=>?_) (fun QG=>?_)
      ·refine .F 5 rfl (.F 6 rfl (.F 7 rfl (.F 8 rfl (.zw 9 rfl zpT ?_))));refine .z 10 rfl zm ?_;refine .F 11 rfl (.F 12 rfl ?_);refine .F 13 rfl (.F 14 rfl (.F 15 rfl (.F 16 rfl (.F 17 rfl (.F 18 rfl (.F 19 rfl (.F 20 rfl (.F 21 rfl (.F 22 rfl (.F 23 rfl (.F 24 rfl (.zw 25 rfl zpT ?_))))))))))));refine .D hs ?_;exact (.cT (.af (.zn zg (.ret (rB (rT (rB (rT (Fin.bj my rfl ⟨_,rfl,.inr ⟨fun h=>by have:=(h.table k hk).len;simp_all,rfl⟩,hs.out⟩)))))))))
      ·refine .zw 5 rfl (zfa dT) ?_;refine .y 6 rfl hs aj ?_;refine .E 7 hs ?_;refine .call mz rfl (cM hs) ?_;rintro _ w ⟨rfl,hs⟩;refine .go (.zw 8 rfl fU ?_);refine .z 9 rfl zpF ?_;refine .z 10 rfl zm ?_;refine .bif (t':=48) rfl (fun XG=>?_) (fun XG=>?_)
       ·refine .F 11 rfl (.F 12 rfl ?_);refine .F 13 rfl (.F 14 rfl (.F 15 rfl (.F 16 rfl (.F 17 rfl (.F 18 rfl (.F 19 rfl (.F 20 rfl (.F 21 rfl (.F 22 rfl (.F 23 rfl (.F 24 rfl (.zw 25 rfl zpT ?_))))))))))));refine .D hs ?_;exact (.cT (.af (.zn zg (.ret (rB (rT (rB (rT (Fin.bj my rfl ⟨_,rfl,.inr ⟨fun h=>by have:=(h.table k hk).least;simp_all,rfl⟩,hs.out⟩)))))))))
       ·refine .zw 11 rfl zm ?_;refine .z 12 rfl kU ?_;refine .z 13 rfl zm ?_;refine .iz (t':=51) rfl (fun XF=>?_) (fun XF=>?_)
        ·refine .zw 14 rfl (zfa db) ?_;refine .y 15 rfl hs j5 ?_;refine .z 16 rfl zm ?_;refine .z 17 rfl gx ?_;refine .ixX (enc:=Fbd.c) (i:=18) hs rfl aA (.some rfl rfl) h1 rfl rfl bn cP wZ ai ?_;intro aaL o56 KX;refine .zw 19 rfl (zfa bV) (.r (i:=20) hs rfl aA (.some rfl rfl) (aC rfl aj (KX.get 0 rfl)) ?_);refine .zw 21 rfl (zfa bV) ?_;refine .y 22 rfl hs aj ?_;refine .z 23 rfl xv ?_;refine .z 24 rfl zpT ?_;refine .z 25 rfl zpF ?_;refine .D hs ?_;refine (.bh rfl (fun pK=>?_) (fun pK=>?_))
         ·exact .af (.zn zg (.ret (rB (rT (rB (rT (Fin.bj my rfl ⟨_,rfl,.inr ⟨fun h=>by have:=(h.table k hk).rise ai;omega,rfl⟩,hs.out⟩)))))))
         ·refine .skip (nB (nT ?_));first
          |exact .mk ⟨rfl,fun j hj=>by
            by_cases e:j=k
            ·subst e;exact ⟨by simp_all,by simp_all,fun _=>by omega⟩
            ·exact eE j ai,hs.tail⟩
        ·refine .F 14 rfl (.F 15 rfl (.F 16 rfl (.F 17 rfl (.F 18 rfl (.F 19 rfl (.F 20 rfl (.F 21 rfl (.F 22 rfl (.F 23 rfl (.zw 24 rfl zpF ?_))))))))));refine .z 25 rfl zpF ?_;refine .D hs ?_;refine (.cF (.skip (nB (nT ?_))));first
         |exact .mk ⟨rfl,fun j hj=>by
           by_cases e:j=k
           ·subst e;exact ⟨by simp_all,by simp_all,fun _=>by omega⟩
           ·exact eE j ai,hs.tail⟩
     ·rintro fr w ⟨rfl,RB,hs⟩;refine nT (.seq (.af (.z (zfa dj) (.y hs (zld kJ) (.z (de bY) (.zn zm (.for (N:=l.seasons.length) (J:=fun k fr w=>fr=[(66,.slice dC l.seasons.length cs),(1,Pt b1)]∧(∀j<k,∀y,l.seasons[j]? =some y→Gt y)∧St H w (.blk b1 [I l.length,I l.depth,.slice at_ l.table.length ct,.slice dC l.seasons.length cs]::σ)) ai ?_ ?_ ?_)))))))
      ·exact .mk ⟨rfl,fun j hj=>by omega,hs⟩
      ·rintro k fr w hk ⟨rfl,eE,hs⟩;obtain ⟨s,hx⟩:=nth hk;refine .block (.af (.ixX (enc:=Ssn.c) hs h2 rfl rfl bY eh hx cK ?_));intro b70 o70 NC;refine .q hs (bQ (vs:=(Ssn.c s)) rfl isAgg104 eh NC) (.o (.alloc hs E7 rfl fun b6 w hs=>?_));refine .o (.aE (vs:=s.c) hs rfl rfl eh fun w hs=>?_);change St _ _ (.blk b6 [I s.zone,I s.fr,I s.to,I s.extra]::_) at hs;refine .nil (.af (.z (zfa jM) (.y hs (zld aj) (.o (.call call73 rfl (mH hs) ?_)))));rintro _ w ⟨rfl,hs⟩;refine .z fU (.z zm (.bif (t':=76) rfl (fun QC=>?_) (fun QC=>?_)))
       ·exact .Fs 4 4 false (.z zpT (.z zm (.Fs 4 10 false (.z zpT (.z zm (.Fs 4 16 false (.zn zpT (.cT (.af (.zn zg (.ret (rB (rT (rB (rT (Fin.bj my rfl ⟨_,rfl,.inr ⟨fun h=>by have:=(h.seasons s (List.mem_of_getElem? hx)).zone;simp_all,rfl⟩,hs.out⟩))))))))))))))))
       ·refine .T (.z (zfa e9) (.T (.y hs (zld aj) (.T (.o (.call mz rfl (cM hs) ?_))))));rintro _ w ⟨rfl,hs⟩;refine .T (.z fU (.z zpF (.z zm (.bif (t':=82) rfl (fun NG=>?_) (fun NG=>?_)))))
        ·exact .Fs 4 10 false (.z zpT (.z zm (.Fs 4 16 false (.zn zpT (.cT (.af (.zn zg (.ret (rB (rT (rB (rT (Fin.bj my rfl ⟨_,rfl,.inr ⟨fun h=>by have:=(h.seasons s (List.mem_of_getElem? hx)).fr;simp_all,rfl⟩,hs.out⟩)))))))))))))
        ·refine .T (.z (zfa e8) (.T (.y hs (zld aj) (.T (.o (.call mz rfl (cM hs) ?_))))));rintro _ w ⟨rfl,hs⟩;refine .T (.z fU (.z zpF (.z zm (.bif (t':=88) rfl (fun XA=>?_) (fun XA=>?_)))))
         ·exact .Fs 4 16 false (.zn zpT (.cT (.af (.zn zg (.ret (rB (rT (rB (rT (Fin.bj my rfl ⟨_,rfl,.inr ⟨fun h=>by have:=(h.seasons s (List.mem_of_getElem? hx)).to;simp_all,rfl⟩,hs.out⟩))))))))))
         ·refine .T (.z (zfa jL) (.T (.y hs (zld aj) (.T (.o (.call mz rfl (cM hs) ?_))))));rintro _ w ⟨rfl,hs⟩;refine .T (.z fU (.zn zpF (.cond rfl (fun F3=>?_) (fun F3=>?_))))
          ·exact .af (.zn zg (.ret (rB (rT (rB (rT (Fin.bj my rfl ⟨_,rfl,.inr ⟨fun h=>by have:=(h.seasons s (List.mem_of_getElem? hx)).extra;simp_all,rfl⟩,hs.out⟩)))))))
          ·exact .skip (nB (nT (.mk ⟨rfl,fH eE hx ⟨by simp_all,by simp_all,by simp_all,by simp_all⟩,hs.tail⟩)))
      ·rintro fr w ⟨rfl,eE,hs⟩;refine nT (.af (.zn zg (.ret (Fin.bj my rfl ?_))));exact ⟨_,rfl,.inl ⟨⟨by simp_all,by simp_all,F0,ai,RB,fun s hs=>by
        obtain ⟨j,hj⟩:=List.getElem?_of_mem hs;exact eE j (List.getElem?_eq_some_iff.1 hj).1 s hj⟩,rfl⟩,hs.out⟩
theorem sU{w:World}{r:List Lg}(hs:St H w σ)(h1:RLg H vr r):
  aaR 21 [.agg #[vr]] w fun u w'=>∃e,u=I e∧aaO r e∧St H w' σ:=by
 obtain ⟨ar,cr,rfl⟩:=h1.shape;refine Cl.o func21 ntmps21 ag1 ?_;refine .af (.bx hs fun b1 w hs=>?_);refine .zn zg (.seq (.af (.z (zfa bG) (.y hs (zld dH) (.z (de aF) (.o (.call mz rfl (cM hs) ?_)))))));rintro _ w ⟨rfl,hs⟩;refine .zn fU (.cond rfl (fun nv=>?_) (fun nv=>?_))
 ·exact .af (.zn zg (.ret (rT (Fin.bj results21 rfl ⟨_,rfl,.inr ⟨fun h=>by have:=h.many;simp_all;omega,rfl⟩,hs.out⟩))))
 ·refine .skip (nT (.seq (.af ?_)));have F0:1≤r.length∧r.length≤12:=by first|omega|(simp at nv;omega)
  refine .z (zfa bG) (.y hs (zld dH) (.z (de aF) (.zn zm (.for (N:=r.length) (J:=fun k fr w=>fr=[(11,.slice ar r.length cr),(1,Pt b1)]∧(∀j<k,Gx (lg0 r j)∧(0<j→(lg0 r (j - 1)).to≤(lg0 r j).fr))∧St H w (.blk b1 [.slice ar r.length cr]::σ)) ai ?_ ?_ ?_))))
  ·exact .mk ⟨rfl,fun j hj=>by omega,hs⟩
  ·rintro k fr w hk ⟨rfl,eE,hs⟩;have hx:=kC (l:=r) hk;have wZ:=kC (l:=r) (i:=k - 1) ai;refine .block (.af (.z zm (.ixX (enc:=Lg.c) hs h1 rfl rfl aF bw hx cK ?_)));intro nx o16 eC;refine .q hs (bQ (vs:=(Lg.c (lg0 r k))) rfl mV bw eC) (.o (.alloc hs eX rfl fun b4 w hs=>?_));refine .z zg (.o (.aE (vs:=(lg0 r k).c) hs rfl rfl bw fun w hs=>?_));change St _ _ (.blk b4 [I (lg0 r k).zone,I (lg0 r k).fr,I (lg0 r k).to,I (lg0 r k).dlo,I (lg0 r k).dhi,I (lg0 r k).blo,I (lg0 r k).bhi]::_) at hs;refine .nil (.seq (.draw mix rfl hs fun w hs=>?_));refine .zv 0 rfl hs (G7 [_,_,_,_,_,_,_] mV bw) (.E 1 hs ?_);refine .call call75 rfl (Ac (x:=lg0 r k) hs) ?_;rintro _ w ⟨pU,rfl,CY,hs⟩;refine .go (.zw 2 rfl fU ?_);refine .z 3 rfl zm ?_;refine .bif (t':=21) rfl (fun pO=>?_) (fun pO=>?_)
   ·refine .F 4 rfl (.F 5 rfl ?_);refine .F 6 rfl (.F 7 rfl (.F 8 rfl (.F 9 rfl (.F 10 rfl (.F 11 rfl (.F 12 rfl (.F 13 rfl (.F 14 rfl (.F 15 rfl (.F 16 rfl (.F 17 rfl (.zw 18 rfl zpT ?_))))))))))));refine .D hs ?_;exact (.cT (.af (.zn zg (.ret (rB (rT (rB (rT (Fin.bj results21 rfl ⟨_,rfl,.inr ⟨fun h=>by have:=CY.2 (h.leg k hk).1;simp_all,rfl⟩,hs.out⟩)))))))))
   ·refine .zw 4 rfl zm ?_;refine .z 5 rfl kU ?_;refine .z 6 rfl zm ?_;refine .iz (t':=24) rfl (fun qS=>?_) (fun qS=>?_)
    ·refine .zw 7 rfl (zfa fJ) ?_;refine .y 8 rfl hs aj ?_;refine .z 9 rfl (zfa bG) ?_;refine .y 10 rfl hs dH ?_;refine .z 11 rfl zm ?_;refine .z 12 rfl gx ?_;refine .ixX (enc:=Lg.c) (i:=13) hs rfl aA (.some rfl rfl) h1 rfl rfl aF bw wZ ai ?_;intro Mc o31 nk;refine .zw 14 rfl (zfa fI) (.r (i:=15) hs rfl aA (.some rfl rfl) (aC rfl aj (nk.get 2 rfl)) ?_);refine .zw 16 rfl fN ?_;refine .z 17 rfl zpT ?_;refine .z 18 rfl zpF ?_;refine .D hs ?_;refine (.bh rfl (fun oN=>?_) (fun oN=>?_))
     ·exact .af (.zn zg (.ret (rB (rT (rB (rT (Fin.bj results21 rfl ⟨_,rfl,.inr ⟨fun h=>by have:=(h.leg k hk).2 ai;omega,rfl⟩,hs.out⟩)))))))
     ·refine .skip (nB (nT ?_));first
      |exact .mk ⟨rfl,fun j hj=>by
        by_cases e:j=k
        ·subst e;exact ⟨CY.1 (by simp_all),fun _=>by omega⟩
        ·exact eE j ai,hs.tail⟩
    ·refine .F 7 rfl (.F 8 rfl (.F 9 rfl (.F 10 rfl (.F 11 rfl (.F 12 rfl (.F 13 rfl (.F 14 rfl (.F 15 rfl (.F 16 rfl (.zw 17 rfl zpF ?_))))))))));refine .z 18 rfl zpF ?_;refine .D hs ?_;refine (.cF (.skip (nB (nT ?_))));first
     |exact .mk ⟨rfl,fun j hj=>by
       by_cases e:j=k
       ·subst e;exact ⟨CY.1 (by simp_all),fun _=>by omega⟩
       ·exact eE j ai,hs.tail⟩
  ·rintro fr w ⟨rfl,eE,hs⟩;exact nT (.af (.zn zg (.ret (Fin.bj results21 rfl ⟨_,rfl,.inl ⟨⟨F0,eE⟩,rfl⟩,hs.out⟩))))
theorem Sy{P:Program}{s:FS}{t kf:TypeId}{x y:Operand}{p:Int}(hx:FS.ev s x=some (.int .u64 p))(hy:FS.ev s y=some (.int .u64 1)):QJ P H σ s (.binOp .shr t x y kf) (.int .u64 (p/2)):=by
 have h1:=FD (P:=P) (H:=H) (σ:=σ) (t:=t) (kf:=kf) hx hy ai;have h2:p.fdiv (2 ^min (1:Int).toNat IntKind.u64.bits)=p/2:=by
  have:(2:Int) ^min (1:Int).toNat IntKind.u64.bits=2:=by decide
  rw [this,Int.fdiv_eq_ediv_of_nonneg _ ai]
 rw [h2] at h1;exact h1
theorem ql{w:World}{n:Nat}{p:Nat→Prop}(hs:St H w σ)(hn:n≤1000000)(hc:∀args w,(callFunc g args).run Tryz.prog w= .ok (.enter g args) w)
  (hp:∀w i,i<n→St H w σ→aaR g ([I (i:Int)]++cap) w fun u w'=>∃b,u= .bool b∧(b=true↔p i)∧St H w' σ):
  aaR 157 [I (n:Int),.func (.func g) #[] cap.toArray] w fun u w'=>∃k:Nat,u=I (k:Int)∧k≤n∧(0<k→¬p (k - 1))∧(k<n→p k)∧St H w' σ:=by
 refine Cl.o func157 ntmps157 ag2 ?_;refine .af (.zn zg (.af (.z zm (.z zg (.zn zg (.seq (.block ?_)))))));refine .loop (fun q:Nat×Nat=>⟨26,[],[(6,I (q.2:Int)),(5,I (q.1:Int)),(1,.func (.func g) #[] cap.toArray)]⟩)
  (fun q w=>(q.1≤q.2∧q.2≤n)∧(0<q.1→¬p (q.1 - 1))∧(q.2<n→p q.2)∧St H w σ) (fun q=>q.2 - q.1) (0,n) aH
  ⟨⟨Nat.zero_le _,Nat.le_refl _⟩,fun h=>by omega,fun h=>by omega,hs⟩ ?_
 rintro ⟨i,j⟩ w ⟨⟨Js,Tg⟩,w6,KO,hs⟩;dsimp only at Js Tg w6 KO ⊢;refine .seq (.af (.z zm (.z zm (.zn fN (.bh rfl (fun pL=>?_) (fun pL=>?_))))))
 ·refine .skip (nT (.block (.af (.z zm (.z zm (.z cH (.q hs (CD rfl cq fG ⟨ai,ai⟩) (.q hs (Sy rfl rfl) ?_))))))));rw [show ((i:Int)+(j:Int))/2=(((i+j)/2:Nat):Int) by omega];refine .q hs (CE rfl fG cq ⟨ai,ai⟩) (.zn zg (.af (.z zm (.z zm (.o (.sa (first:=[]) rfl rfl hc (hp _ ((i+j)/2) ai hs) ?_))))));rintro _ w ⟨Gr,rfl,IV,hs⟩;refine .zn fU (.cond rfl (fun iC=>?_) (fun iC=>?_))
  ·exact .region (.z zm (.z cH (.zn zg (nB (nT ⟨((i+j)/2+1,j),.cD rfl bH aH,⟨⟨by dsimp only;omega,Tg⟩,fun _ h=>(by rw [IV.2 (by simpa using h)] at iC;cases iC),KO,hs⟩,by dsimp only;omega⟩)))))
  ·exact .region (.z zm (.zn zg (nB (nT ⟨(i,(i+j)/2),.cD rfl bH aH,⟨⟨by dsimp only;omega,by dsimp only;omega⟩,w6,fun _=>IV.1 (by simpa using iC),hs⟩,by dsimp only;omega⟩))))
 ·refine .exit (xT (xT (xB (nT (.af (.z zm (.zn zg (.ret (Fin.bj results157 rfl ?_)))))))));obtain rfl:i=j:=by omega
  exact ⟨i,rfl,Tg,w6,KO,hs⟩
theorem rF{w:World}(hs:St H w (.blk b [I l.length,I l.depth,vt,vs]::σ))(h1:RFb H vt l.table)(hi:i<l.table.length):
  aaR 158 [I (i:Int),Pt b] w fun u w'=>∃bb:Bool,u= .bool bb∧(bb=true↔l.length≤(fb0 l.table i).len)∧St H w' (.blk b [I l.length,I l.depth,vt,vs]::σ):=by
 obtain ⟨at_,ct,rfl⟩:=h1.shape;refine Cl.o func158 ntmps158 ag2 ?_;refine .af (.zn zg (.seq (.draw mix rfl hs fun w hs=>?_)));refine .zw 0 rfl (zfa db) ?_;refine .y 1 rfl hs j5 ?_;refine .z 2 rfl zm ?_;refine .ixX (enc:=Fbd.c) (i:=3) hs rfl aA .none h1 rfl rfl bn cP (oQ hi) cK ?_;intro b7 o7 O1;refine .zw 4 rfl (zfa bV) (.r (i:=5) hs rfl aA .none (aC rfl aj (O1.get 0 rfl)) ?_);refine .zw 6 rfl (zfa eQ) ?_;refine .y 7 rfl hs aj ?_;refine .z 8 rfl xv ?_;refine .z 9 rfl zg ?_;refine .D hs ?_;exact .ret (Fin.bj results158 rfl ⟨_,rfl,bH,hs⟩)
theorem tg{w:World}(hs:St H w σ)(hd:1≤d)(ha: -4608000000000000000≤a∧a≤4608000000000000000):
  aaR 140 [I a,I d] w fun v w'=>v=I (a/d)∧St H w' σ:=by
 have hq:=VA hd ha;have A2:=sF (n:=a) (d:=d) ai;refine Cl.o func140 ntmps140 ag2 ?_;refine .af (.zn zg (.af (.z zm (.z zm (.q hs (uO rfl rfl ai ⟨ai,ai⟩) (.zn zg (.seq (.af (.z zm (.z zm (.z E9 (.zn fN (.bh rfl (fun fl=>?_) (fun fl=>?_))))))))))))))
 ·refine .region (.z zm (.z gx (.zn zg (nT (.af (.z zm (.zn zg (.ret (Fin.bj results140 rfl ?_)))))))));rw [if_pos fl] at A2;exact ⟨by rw [A2],hs⟩
 ·refine .skip (nT (.af (.z zm (.zn zg (.ret (Fin.bj results140 rfl ?_))))));rw [if_neg fl,Int.sub_zero] at A2;exact ⟨by rw [A2],hs⟩
theorem kB{w:World}(hs:St H w σ)(h1:RFb H vt l.table)(hl:jn l):
  aaR 102 [.agg #[I l.length,I l.depth,vt,vs]] w fun u w'=>∃n b,u= .tuple #[I n,.bool b]∧zi l n b∧St H w' σ:=by
 obtain ⟨at_,ct,rfl⟩:=h1.shape;have hm:=hl.many;have hr:=fun {j i:Nat}=>C4 hl.table (j:=j) (i:=i)
 refine Cl.o func102 ntmps102 ag1 ?_;refine .af (.bx hs fun b1 w hs=>?_);refine .z zg (.zn zg (.af (.z (zfa db) (.y hs (zld j5) (.z (de bn) (.q hs (dU (f:=[]) (c:=[_]) rfl rfl) (.o (.call call157 rfl (ql (cap:=[Pt b1]) (p:=fun i=>l.length≤(fb0 l.table i).len) hs ai call158 (fun w i hi hs=>rF hs h1 hi)) ?_))))))));rintro _ w ⟨k,rfl,hk,w6,KO,hs⟩;have Ld:∀i<l.table.length,k≤i→l.length≤(fb0 l.table i).len:=fun i hi ZJ=>by
  by_cases e:i=k
  ·subst e;exact KO hi
  ·have:=hr (show k<i by omega) hi;have:=KO ai;omega
 have Qe:∀i<k,(fb0 l.table i).len<l.length:=fun i hi=>by
  by_cases e:i=k - 1
  ·subst e;have:=w6 ai;omega
  ·have:=hr (show i<k - 1 by omega) ai;have:=w6 ai;omega
 refine .zn zg (.seq (.block (.af (.z zm (.z (zfa db) (.y hs (zld j5) (.z (de bn) (.z fy (.zn zg (.bh rfl (fun fl=>?_) (fun fl=>?_)))))))))))
 ·exact .af (.z zg (.zn zg (.ret (rB (rT (Fin.gU results102 rfl rfl ⟨_,_,rfl,.none (fun i hi h=>by have:=Qe i ai;omega) (fun i hi h0 h=>by have:=Qe i ai;omega),hs.out⟩))))))
 ·refine .seq (.draw mix rfl hs fun w hs=>?_);refine .zw 0 rfl (zfa db) ?_;refine .y 1 rfl hs j5 ?_;refine .z 2 rfl zm ?_;have tj:k<l.table.length:=by omega
  have hx:=oQ tj;have wZ:=oQ (l:=l.table) (i:=k - 1) ai;refine .ixX (enc:=Fbd.c) (i:=3) hs rfl aA .none h1 rfl rfl bn cP hx rfl ?_;intro Vt o22 jm;refine .zw 4 rfl (zfa bV) (.r (i:=5) hs rfl aA .none (aC rfl aj (jm.get 0 rfl)) ?_);refine .zw 6 rfl (zfa eQ) ?_;refine .y 7 rfl hs aj ?_;refine .z 8 rfl fy ?_;refine .z 9 rfl zg ?_;refine .D hs ?_;refine (.bh rfl (fun ib=>?_) (fun ib=>?_))
  ·refine .af (.z (zfa db) (.y hs (zld j5) (.z zm (.ixX (enc:=Fbd.c) hs h1 rfl rfl bn cP hx rfl ?_))));intro Mc o31 nk;exact .z (zfa dT) (.q hs (aC rfl aj (nk.get 1 rfl)) (.z zg (.zn zg (.ret (rB (rT (Fin.gU results102 rfl rfl ⟨_,_,rfl,.at_ tj ib,hs.out⟩)))))))
  ·refine .af (.z zm (.z fy (.zn zg (.bh rfl (fun jx=>?_) (fun jx=>?_)))))
   ·refine .af (.z zg (.zn zg (.ret (rB (rT (Fin.gU results102 rfl rfl ?_))))));obtain rfl:k=0:=by omega
    exact ⟨_,_,rfl,.none (fun i hi h=>by
     by_cases e:i=0
     ·subst e;exact ib h
     ·have:=hr (show 0<i by omega) hi;have:=Ld 0 tj ai;omega) (fun i hi h0 h=>by have:=Ld (i - 1) ai ai;omega),hs.out⟩
   ·refine .skip (nB (nT (.cut (fun fs w=>∃b5 b6,kG fs ⟨69,[],[(6,Pt b6),(5,Pt b5),(1,Pt b1)]⟩∧St H w (.blk b6 (fb0 l.table k).c:: .blk b5 (fb0 l.table (k - 1)).c:: .blk b1 [I l.length,I l.depth,.slice at_ l.table.length ct,vs]::σ)) ?_ ?_)))
    ·refine .draw mix rfl hs fun w hs=>?_
     refine .zw 0 rfl (zfa db) ?_;refine .y 1 rfl hs j5 ?_;refine .z 2 rfl zm ?_;refine .z 3 rfl gx ?_;refine .ixX (enc:=Fbd.c) (i:=4) hs rfl aA .none h1 rfl rfl bn cP wZ ai ?_;intro Rg o41 rO;refine .r (i:=5) hs rfl aA .none (bQ (vs:=(fb0 l.table (k - 1)).c) rfl isAgg134 cP rO) ?_;refine .zw 6 rfl (zfa db) ?_;refine .y 7 rfl hs j5 ?_;refine .z 8 rfl zm ?_;refine .ixX (enc:=Fbd.c) (i:=9) hs rfl aA .none h1 rfl rfl bn cP hx rfl ?_;intro Vq o46 F8;refine .r (i:=10) hs rfl aA .none (bQ (vs:=(fb0 l.table k).c) rfl isAgg134 cP F8) ?_;refine .e2 (i:=11) (j:=12) aA rfl rfl rfl rfl .none .none hs ?_ ?_
     ·refine .alloc hs na rfl ?_;intro b5 w hs;refine .go (.E 12 hs ?_);refine .alloc hs na rfl ?_;intro b6 w hs;refine .go (.E 13 hs ?_);refine .aE (vs:=(fb0 l.table (k - 1)).c) hs rfl rfl cP ?_;intro w hs;refine .go (.E 14 hs ?_);refine .aE (vs:=(fb0 l.table k).c) hs rfl rfl cP ?_;intro w hs;exact .go (.D hs (nT ⟨b5,b6,aH,hs.sb⟩))
     ·refine .alloc hs na rfl ?_;intro b6 w hs;refine .go (.E 11 hs ?_);refine .alloc hs na rfl ?_;intro b5 w hs;refine .go (.E 13 hs ?_);refine .aE (vs:=(fb0 l.table (k - 1)).c) hs rfl rfl cP ?_;intro w hs;refine .go (.E 14 hs ?_);refine .aE (vs:=(fb0 l.table k).c) hs rfl rfl cP ?_;intro w hs;exact .go (.D hs (nT ⟨b5,b6,aH,hs.sb⟩))
    ·rintro fs w ⟨b5,b6,fM,hs⟩;refine WE.sub ?_ fM;clear fM;change St _ _ (.blk b6 [I (fb0 l.table k).len,I (fb0 l.table k).least]:: .blk b5 [I (fb0 l.table (k - 1)).len,I (fb0 l.table (k - 1)).least]::_) at hs;have h3:=Qe (k - 1) ai;have h4:l.length<(fb0 l.table k).len:=by have:=Ld k tj (Nat.le_refl _);omega
     have hX:=Ls hl tj h3 h4;have a1:=hl.table (k - 1) ai;have a2:=a1.len;have a3:=a1.least;have b2:=(hl.table k tj).len;have b3:=(hl.table k tj).least;have hL:=hl.length;refine .seq (.draw mix rfl hs fun w hs=>?_);refine .zw 0 rfl (zfa dT) ?_;refine .y 1 rfl hs aj ?_;refine .z 2 rfl (zfa dT) ?_;refine .y 3 rfl hs aj ?_;refine .z 4 rfl gx ?_;refine .z 5 rfl (zfa eQ) ?_;refine .y 6 rfl hs aj ?_;refine .z 7 rfl (zfa bV) ?_;refine .y 8 rfl hs aj ?_;refine .z 9 rfl gx ?_;refine .zw 10 rfl kV ?_;refine .z 11 rfl (zfa bV) ?_;refine .y 12 rfl hs aj ?_;refine .z 13 rfl (zfa bV) ?_;refine .y 14 rfl hs aj ?_;refine .z 15 rfl gx ?_;refine .z 18 rfl (zfa dT) ?_;refine .y 19 rfl hs aj ?_;refine .E 16 hs ?_;refine .call call140 rfl (tg hs ai ai) ?_;rintro _ w ⟨rfl,hs⟩;refine .go (.zw 17 rfl Fm ?_);refine .z 20 rfl cH ?_;refine .z 21 rfl zg ?_;refine .z 22 rfl zg ?_;refine .D hs ?_;refine .ret (Fin.gU results102 rfl rfl ?_);have KL:=zi.mid tj ai h3 h4;unfold EG at KL;exact ⟨_,_,rfl,(by rw [show ∀a b:Int,-a+b=b - a from fun a b=>by omega];exact KL),hs.out⟩
theorem tO{w:World}(hs:St H w σ)(h1:RFb H vt l.table)(h2:RSn H vs l.seasons):
  aaR 37 [.agg #[I l.length,I l.depth,vt,vs]] w fun u w'=>∃n e,u= .tuple #[I n,I e]∧Dm l n e∧St H w' σ:=by
 refine Cl.o func37 ntmps37 ag1 ?_;refine .af (.bx hs fun b1 w hs=>?_);refine .z zg (.zn zg (.seq (.af (.y hs (zls [_,_,_,_] dc bK) (.o (.call call19 rfl (kb hs h1 h2) ?_))))));rintro _ w ⟨e,rfl,he,hs⟩;refine .zn zg (.af (.z zm (.zn fV (.dK rfl (fun pM=>?_) (fun pM=>?_)))))
 ·refine .af (.z zm (.z zg (.zn zg (.ret (rT (Fin.gU results37 rfl rfl ?_))))));have h:=he.resolve_left fun h=>pM h.2
  exact ⟨_,_,rfl,by rw [h.2];exact .lines h.1,hs.out⟩
 ·refine .skip (nT (.af (.y hs (zls [_,_,_,_] dc bK) ?_)));have aZ:jn l:=(he.resolve_right fun h=>by omega).1;refine .o (.call call102 rfl (kB hs h1 aZ) ?_);rintro _ w ⟨n,b,rfl,hF,hs⟩;refine .z zm (.z zex (.z zex (.z zg (.zn zg (.seq (.af (.z zm (.zn fU (.cond rfl (fun ib=>?_) (fun ib=>?_))))))))))
  ·refine .af (.z zg (.zn zg (.ret (rT (Fin.gU results37 rfl rfl ?_)))));obtain rfl:b=false:=by simpa using ib
   exact ⟨_,_,rfl,.none aZ hF,hs.out⟩
  ·refine .skip (nT (.af (.z zm (.z zg (.zn zg (.ret (Fin.gU results37 rfl rfl ?_)))))));obtain rfl:b=true:=by simpa using ib
   exact ⟨_,_,rfl,.ok aZ hF,hs.out⟩
theorem rH{w:World}(hs:St H w σ)(h:0≤d):aaR 106 [I d] w fun v w'=>v=I (1+d%365)∧St H w' σ:=by
 have e:d.tmod 365=d%365:=Int.tmod_eq_emod_of_nonneg h;refine Cl.o func106 ntmps106 ag1 ?_;refine .af (.zn zg (.af (.z zm (.z E9 ?_))));rw [e];exact .z cH (.zn zg (.ret (Fin.bj results106 rfl ⟨rfl,hs⟩)))
theorem Bg{w:World}{s:Ssn}(hs:St H w σ):aaR 159 [.agg #[I s.zone,I s.fr,I s.to,I s.extra],I d] w fun v w'=>v= .bool (decide (yN s d))∧St H w' σ:=by
 refine Cl.o func159 ntmps159 ag2 ?_;refine .af (.bx hs fun b2 w hs=>?_);refine .zn zg (.seq (.af (.z (zfa e9) (.y hs (zld aj) (.z (zfa e8) (.y hs (zld aj) (.zn kU (.bh rfl (fun nv=>?_) (fun nv=>?_)))))))))
 ·refine .af (.z zm (.z (zfa e9) (.y hs (zld aj) (.z xv (.z zm (.iz (t':=14) rfl (fun CZ=>?_) (fun CZ=>?_)))))))
  ·refine .Fs 4 4 false (.z zpT (.zn zg (.ret (rT (Fin.bj results159 rfl ⟨?_,hs.out⟩)))))
   congr 1
   have e:¬s.fr≤s.to:=by omega
   simp only [yN,if_neg e]
   symm
   simp [*]
  ·refine .T (.z zm (.T (.z (zfa e8) (.T (.y hs (zld aj) (.T (.z oY (.z zpF (.zn zg (.ret (rT (Fin.bj results159 rfl ⟨?_,hs.out⟩))))))))))))
   congr 1
   have e:¬s.fr≤s.to:=by omega
   simp only [yN,if_neg e];simp [*]
 ·refine .skip (nT (.af (.z zm (.z (zfa e9) (.y hs (zld aj) (.z (zfa e8) (.y hs (zld aj) (.o (.call mz rfl (cM hs) ?_)))))))));rintro _ w ⟨rfl,hs⟩;refine .zn zg (.ret (Fin.bj results159 rfl ⟨?_,hs.out⟩))
  congr 1
  have e:s.fr≤s.to:=by omega
  simp only [yN,if_pos e]
theorem rG{w:World}{z:Int}(hs:St H w σ)(h2:RSn H vs l.seasons)(hl:jn l):
  aaR 105 [.agg #[I l.length,I l.depth,vt,vs],I z,I d] w fun v w'=>v=I (j7 l.seasons z d)∧St H w' σ:=by
 obtain ⟨dC,cs,rfl⟩:=h2.shape;have hm:=hl.most;refine Cl.o func105 ntmps105 ag3 ?_;refine .af (.bx hs fun b3 w hs=>?_);refine .zn zg (.af (.zn zg (.seq (.af (.z (zfa dj) (.y hs (zld kJ) (.z (de bY) (.zn zm (.for (N:=l.seasons.length) (J:=fun k fr w=>fr=[(7,I (j7 (l.seasons.take k) z d)),(11,.slice dC l.seasons.length cs),(1,I z),(2,I d)]∧St H w σ) ai ?_ ?_ ?_)))))))))
 ·exact .mk ⟨rfl,hs.out⟩
 ·rintro k fr w hk ⟨rfl,hs⟩;obtain ⟨s,hx⟩:=nth hk;have hE:=tX (l.seasons.take k) s z d;rw [←dr hx] at hE;refine .block (.af (.ixX (enc:=Ssn.c) hs h2 rfl rfl bY eh hx cK ?_));intro yM o15 e7;refine .q hs (bQ (vs:=(Ssn.c s)) rfl isAgg104 eh e7) (.o (.alloc hs E7 rfl fun b9 w hs=>?_));refine .o (.aE (vs:=s.c) hs rfl rfl eh fun w hs=>?_);change St _ _ (.blk b9 [I s.zone,I s.fr,I s.to,I s.extra]::_) at hs;refine .nil (.af (.z (zfa jM) (.y hs (zld aj) (.z zm (.z fy (.z zm (.iz (t':=21) rfl (fun pO=>?_) (fun pO=>?_))))))))
  ·refine .T (.y hs (zls [_,_,_,_] isAgg104 eh) (.T (.z zm (.T (.o (.call call159 rfl (Bg (s:=s) hs) ?_))))));rintro _ w ⟨rfl,hs⟩;refine .zn zpT (.cond rfl (fun fc=>?_) (fun fc=>?_))
   ·refine .region (.z zm (.z (zfa jL) (.y hs (zld aj) (.z DK (.zn zg (nB (nT ?_)))))));rw [if_pos ⟨by assumption,by simpa using fc⟩] at hE;exact .mk ⟨by rw [hE],hs.out⟩
   ·refine .skip (nB (nT ?_));rw [if_neg (fun h=>of_decide_eq_false fc h.2)] at hE;exact .mk ⟨by rw [hE],hs.out⟩
  ·refine .Fs 3 4 true (.zn zpF (.cF (.skip (nB (nT ?_)))));rw [if_neg (fun h=>by have:=h.1;contradiction)] at hE;exact .mk ⟨by rw [hE],hs.out⟩
 ·rintro fr w ⟨rfl,hs⟩;rw [List.take_length];exact nT (.af (.z zm (.zn zg (.ret (Fin.bj results105 rfl ⟨rfl,hs⟩)))))
theorem ve{w:World}{z:Int}(hs:St H w σ)(h1:RFb H vt l.table)(h2:RSn H vs l.seasons):
  aaR 104 [.agg #[I l.length,I l.depth,vt,vs],I z,I d] w fun v w'=>∃e,v=I e∧GA l z d e∧St H w' σ:=by
 refine Cl.o func104 ntmps104 ag3 ?_;refine .af (.bx hs fun b3 w hs=>?_);refine .zn zg (.seq (.af (.y hs (zls [_,_,_,_] dc bK) (.o (.call call19 rfl (kb hs h1 h2) ?_)))));rintro _ w ⟨e,rfl,he,hs⟩;refine .zn zg (.af (.z zm (.zn fV (.dK rfl (fun pL=>?_) (fun pL=>?_)))))
 ·refine .af (.z zm (.zn zg (.ret (rT (Fin.bj results104 rfl ?_)))));have h:=he.resolve_left fun h=>pL h.2
  exact ⟨_,rfl,by rw [h.2];exact .lines h.1,hs.out⟩
 ·refine .skip (nT (.seq (.block (.af ?_))));have aZ:jn l:=(he.resolve_right fun h=>by omega).1;refine .z zm (.o (.call call73 rfl (mH hs) ?_));rintro _ w ⟨rfl,hs⟩;refine .z fU (.zn zg (.cond rfl (fun gL=>?_) (fun gL=>?_)))
  ·exact .af (.zn zg (.ret (rB (rT (Fin.bj results104 rfl ⟨_,rfl,.zone aZ (by simp at gL;omega),hs.out⟩)))))
  ·refine .af (.z zm (.o (.call mz rfl (cM hs) ?_)));rintro _ w ⟨rfl,hs⟩;refine .z fU (.zn zg (.cond rfl (fun iW=>?_) (fun iW=>?_)))
   ·exact .af (.zn zg (.ret (rB (rT (Fin.bj results104 rfl ⟨_,rfl,.day aZ (by simpa using gL) (by simp at iW;omega),hs.out⟩)))))
   ·exact .skip (nB (nT (.af (.zn zg (.ret (Fin.bj results104 rfl ⟨_,rfl,.ok aZ (by simpa using gL) (by simpa using iW),hs.out⟩))))))
theorem yr{w:World}{z:Int}(hs:St H w σ)(h1:RFb H vt l.table)(h2:RSn H vs l.seasons):
  aaR 41 [.agg #[I l.length,I l.depth,vt,vs],I z,I d] w fun u w'=>∃n e,u= .tuple #[I n,I e]∧Jw l z d n e∧St H w' σ:=by
 refine Cl.o func41 ntmps41 ag3 ?_;refine .af (.bx hs fun b3 w hs=>?_);refine .z zg (.zn zg (.seq (.af (.y hs (zls [_,_,_,_] dc bK) (.z zm (.z zm (.o (.call call104 rfl (ve hs h1 h2) ?_))))))));rintro _ w ⟨e,rfl,he,hs⟩;refine .zn zg (.af (.z zm (.zn fV (.dK rfl (fun eC=>?_) (fun eC=>?_)))))
 ·exact .af (.z zm (.z zg (.zn zg (.ret (rT (Fin.gU results41 rfl rfl ⟨_,_,rfl,.bad he eC,hs.out⟩))))))
 ·refine .skip (nT (.af (.y hs (zls [_,_,_,_] dc bK) ?_)));obtain rfl:e=0:=by omega
  obtain ⟨aZ,hz,hd⟩:=he.zero;refine .o (.call call102 rfl (kB hs h1 aZ) ?_);rintro _ w ⟨n,b,rfl,hF,hs⟩;refine .z zm (.z zex (.z zex (.z zg (.zn zg (.seq (.af (.z zm (.zn fU (.cond rfl (fun jX=>?_) (fun jX=>?_))))))))))
  ·refine .af (.z zg (.zn zg (.ret (rT (Fin.gU results41 rfl rfl ?_)))));obtain rfl:b=false:=by simpa using jX
   exact ⟨_,_,rfl,.none he hF,hs.out⟩
  ·refine .skip (nT (.seq (.draw mix rfl hs fun w hs=>?_)));obtain rfl:b=true:=by simpa using jX
   have hn:=hF.bd aZ;have RM:=aZ.depth;have hE:=vH aZ.seasons z (1+d%365);refine .zw 0 rfl (zfa ji) ?_;refine .y 1 rfl hs aj ?_;refine .z 2 rfl zm ?_;refine .z 3 rfl gx ?_;refine .ys 4 rfl hs [_,_,_,_] dc bK ?_;refine .z 5 rfl zm ?_;refine .z 6 rfl zm ?_;refine .E 7 hs ?_;refine .call call106 rfl (rH hs hd.1) ?_;rintro _ w ⟨rfl,hs⟩;refine .go (.E 8 hs ?_);refine .call call105 rfl (rG hs h2 aZ) ?_;rintro _ w ⟨rfl,hs⟩;refine .go (.zw 9 rfl gx ?_);refine .z 10 rfl zg ?_;refine .z 11 rfl zg ?_;refine .D hs ?_;exact .ret (Fin.gU results41 rfl rfl ⟨_,_,rfl,.ok he hF,hs.out⟩)
theorem wV{w:World}{h:Int}{c:Nat}(hs:St H w (.blk c [I h]:: .blk b [I s.id,I s.src,cE,cB,I s.al,I s.up]::σ))(h2:RI H cB s.wa)(hi:i<s.wa.length)(aZ:ft s):
  aaR 166 [I (i:Int),Pt b,Pt c] w fun u w'=>∃bb:Bool,u= .bool bb∧(bb=true↔h<gi s.wa i - gi s.wa 0)∧St H w' (.blk c [I h]:: .blk b [I s.id,I s.src,cE,cB,I s.al,I s.up]::σ):=by
 obtain ⟨fq,fp,rfl⟩:=RI.shape h2;have b1:=aZ.wa.bd hi;have b2:=aZ.wa.bd (i:=0) ai;refine Cl.o func166 ntmps166 ag3 ?_;refine .af (.zn zg (.seq (.draw mix rfl hs fun w hs=>?_)));refine .zw 0 rfl (zfa aQ) ?_;refine .y 1 rfl hs aq ?_;refine .z 2 rfl zm ?_;refine .ixX (enc:=fun x=>[I x]) (i:=3) hs rfl aA .none h2 rfl rfl ae an (bu (l:=s.wa) (i:=i) ai) cK ?_;intro b8 o8 ur;replace ur:=bD.one ur;refine .r (i:=4) hs rfl aA .none (aC rfl aj ur) ?_;refine .zw 5 rfl (zfa aQ) ?_;refine .y 6 rfl hs aq ?_;refine .ixX (enc:=fun x=>[I x]) (i:=7) hs rfl aA .none h2 rfl rfl ae an (bu (l:=s.wa) (i:=0) ai) cK ?_;intro I3 o12 fl;replace fl:=bD.one fl;refine .r (i:=8) hs rfl aA .none (aC rfl aj fl) ?_;refine .zw 9 rfl gx ?_;refine .y 10 rfl hs aj ?_;refine .z 11 rfl kU ?_;refine .z 12 rfl zg ?_;refine .D hs ?_;exact .ret (Fin.bj results166 rfl ⟨_,rfl,bH,hs⟩)
theorem Ad{w:World}{h:Int}(hs:St H w σ)(h2:RI H cB s.wa)(aZ:ft s):
  aaR 112 [.agg #[I s.id,I s.src,cE,cB,I s.al,I s.up],I h] w fun u w'=>∃k,u=I k∧A8 s.wa h k∧St H w' σ:=by
 obtain ⟨fq,fp,rfl⟩:=RI.shape h2;have hm:=aZ.wa.many;have hr:=fun {i j:Nat}=>aZ.wa.le (i:=i) (j:=j)
 refine Cl.o func112 ntmps112 ag2 ?_;refine .af (.bx hs fun b2 w hs=>?_);refine .bx hs fun b3 w hs=>?_
 refine .zn zg (.af (.z (zfa aQ) (.y hs (zld aq) (.z (de ae) (.q hs (dU (f:=[]) (c:=[_,_]) rfl rfl) (.o (.call call157 rfl (ql (cap:=[Pt b2,Pt b3]) (p:=fun i=>h<gi s.wa i - gi s.wa 0) hs ai call166 (fun w i hi hs=>wV hs h2 hi aZ)) ?_)))))));rintro _ w ⟨k,rfl,hk,w6,KO,hs⟩;refine .z gx (.zn zg (.ret (Fin.bj results112 rfl ⟨_,rfl,⟨ai,ai,fun i hi=>⟨fun g=>?_,fun g=>?_⟩⟩,hs.out⟩)))
 ·by_cases e:(i:Int)≤k - 1
  ·exact e
  ·have h3:=KO ai;have:=hr (show k≤i by omega) hi;omega
 ·have h3:=w6 ai;have:=hr (show i≤k - 1 by omega) ai;omega
def Bu(x:Lg):List (List Value):=(List.range (mP x)).map fun j=>[I (1+(x.fr+(j:Nat))%365)]
theorem r9(x:Lg):(Bu x).length=mP x:=by simp [Bu]
theorem ES{x:Lg}(h:j<(Bu x).length):(Bu x)[j]=[I (1+(x.fr+j)%365)]:=by simp [Bu]
theorem yq{x:Lg}(hb:Row H b [I x.zone,I x.fr,I x.to,I x.dlo,I x.dhi,I x.blo,I x.bhi])(hx:Gx x):
  Iter Tryz.prog 218 [Pt b] H (Bu x):=by
 intro ly II Ix FV _ hy H0 GJ σf w hle B5 hs;have g1:cellAt H0 b 1=some (I x.fr):=cellAt.mono (hb.at 1) hle;have hd:=vJ hx;have Bm:(mP x:Int)=min x.to (x.fr+364) - x.fr+1:=by have:=hx.fr;unfold mP;omega
 have hf:=hx.fr;have ht:=hx.to;refine Cl.o func218 ntmps218 ag2 ?_;refine .af (.z (zfa fJ) (.y hs (zld aj) (.zn zg (.block ?_))));refine .loop (fun j:Nat=>⟨22,[],[(3,I (x.fr+(j:Int))),(0,.func (.yield ly) #[] #[]),(1,Pt b)]⟩)
  (fun j w=>j≤mP x∧∃H1 σb,HLe H H1∧HLe H0 H1∧II j H1 σb∧St H1 w (σb++σf)) (fun j=>mP x - j) 0 (.cons (by show some (I _)=some (I _);congr 2;omega) aH)
  ⟨Nat.zero_le _,H0,GJ,hle,HLe.refl _,B5,hs⟩ ?_
 rintro j w ⟨hj,H1,σb,az,fO,hI,hs⟩;have h1:cellAt H1 b 1=some (I x.fr):=cellAt.mono (hb.at 1) az;have h2:cellAt H1 b 2=some (I x.to):=cellAt.mono (hb.at 2) az;refine .seq (.af (.z zm (.z (zfa fI) (.y hs (zld aj) (.z (zfa fJ) (.y hs (zld aj) (.z cH (.z gx (.z Dq (.zn oY (.bh rfl (fun jH=>?_) (fun jH=>?_))))))))))))
 ·refine .skip (nT (.seq (.block (.af (.z zm (.z zm (.o (.call call106 rfl (rH hs ai) ?_))))))));rintro _ w ⟨rfl,hs⟩;have tj:j<(Bu x).length:=by rw [r9];omega
  have A0:=hy j tj H1 σb σf w az hI hs;rw [ES tj] at A0;refine .o (.yield rfl rfl A0 ?_);rintro v20 w ⟨H5,σ5,g1,hs,g3'⟩;obtain ⟨bb,rfl,gT,gF⟩:=q7 g3';refine .zn fU (.cond rfl (fun iC=>?_) (fun iC=>?_))
  ·exact .ret (rB (rT (rT (rB (Fin.Rv results218 ⟨H5,σ5,fO.trans g1,hs,.inr (gF (by simpa using iC))⟩)))))
  ·exact .skip (nB (nT (.region (.z zm (.z cH (.zn zg (nT ⟨j+1,.cons (by show some (I _)=some (I _);congr 2;omega) aH,⟨ai,H5,σ5,az.trans g1,fO.trans g1,gT (by simpa using iC),hs⟩,ai⟩)))))))
 ·refine .exit (xT (xT (xB ?_)));obtain rfl:j=mP x:=by omega
  exact Fin.EO results218 ⟨H1,σb,fO,hs,.inl (by rw [r9];exact hI)⟩
theorem Bh{w:World}{x:Lg}(hs:St H w σ)(hx:Gx x):
  aaR 169 [.agg #[I x.zone,I x.fr,I x.to,I x.dlo,I x.dhi,I x.blo,I x.bhi]] w fun u w'=>∃H1 b,HLe H H1∧u= .func (.func 218) #[] #[Pt b]∧Iter Tryz.prog 218 [Pt b] H1 (Bu x)∧St H1 w' σ:=by
 refine Cl.o func169 ntmps169 ag1 ?_;refine .af (.bx hs fun b1 w hs=>?_);refine .zn zg (.af (.q hs (dU (f:=[]) (c:=[_]) rfl rfl) (.zn zg (.ret (Fin.bj results169 rfl ?_)))));obtain ⟨H1,g1,g2,hs⟩:=hs.dh .here;exact ⟨H1,b1,g1,rfl,yq g2 hx,hs⟩
set_option maxHeartbeats 1000000 in
theorem yo{w:World}{x:Lg}(hs:St H w σ)(g2:RI H cB s.wa)(h1:RFb H vt l.table)(h2:RSn H vs l.seasons)(A1:ft s)(hl:jn l)(hx:Gx x):
  aaR 115 [.agg #[I s.id,I s.src,cE,cB,I s.al,I s.up],.agg #[I l.length,I l.depth,vt,vs],.agg #[I x.zone,I x.fr,I x.to,I x.dlo,I x.dhi,I x.blo,I x.bhi]] w fun u w'=>∃H1 k e,HLe H H1∧u= .tuple #[I k,I e]∧Bz s.wa l x k e∧St H1 w' σ:=by
 refine Cl.o func115 ntmps115 ag3 ?_;refine .af (.bx hs fun b3 w hs=>?_);refine .bx hs fun b4 w hs=>?_
 refine .bx hs fun b5 w hs=>?_
 refine .z zg (.zn zg (.af (.y hs (zls [_,_,_,_] dc bK) (.o (.call call102 rfl (kB hs h1 hl) ?_)))));rintro _ w ⟨n,b,rfl,hF,hs⟩;refine .z zm (.z zex (.z zex (.z zg (.zn zg (.seq (.af (.z zm (.zn fU (.cond rfl (fun mL=>?_) (fun mL=>?_))))))))))
 ·refine .af (.z zg (.zn zg (.ret (rT (?_)))));obtain rfl:b=false:=by simpa using mL
  exact Fin.gU results115 rfl rfl ⟨H,_,_,HLe.refl H,rfl,.none hF,hs.out⟩
 ·refine .skip (nT (.af (.o (.alloc hs dD rfl fun ny w hs=>?_))));refine .o (.store hs rfl rfl an fun w hs=>?_);refine .nil (.seq (.af (.y hs (zls [_,_,_,_,_,_,_] mV bw) ?_)));obtain rfl:b=true:=by simpa using mL
  have hn:=hF.bd hl;have RM:=hl.depth;refine .o (.call call169 rfl (Bh hs hx) ?_);rintro _ w ⟨H1,bd,az,rfl,qO,hs⟩;refine .nil (.block ?_);refine .rangeFunc (gf:=218) (cap:=[Pt bd]) (xs:=Bu x) (σb:=[.blk ny [I 0],.blk b5 [I x.zone,I x.fr,I x.to,I x.dlo,I x.dhi,I x.blo,I x.bhi],.blk b4 [I l.length,I l.depth,vt,vs],.blk b3 [I s.id,I s.src,cE,cB,I s.al,I s.up]]) (σf:=σ) hs trivial rfl qO call218 (fun y hy=>by
    simp only [Bu,List.mem_map] at hy;obtain ⟨j,_,rfl⟩:=hy;rfl) rfl
   (I:=fun p H' σb=>σb=[.blk ny [I (og l.seasons x.zone x.fr p)],.blk b5 [I x.zone,I x.fr,I x.to,I x.dlo,I x.dhi,I x.blo,I x.bhi],.blk b4 [I l.length,I l.depth,vt,vs],.blk b3 [I s.id,I s.src,cE,cB,I s.al,I s.up]]) (Ix:=fun _ _ _=>False)
   (fun j _ _ σ g1 g2=>g2) (fun _ _ _ _ _ h=>h) rfl ?_ ?_ (fun D c H' σb w _ h _=>h.elim)
  ·rintro ly p hp H2 xu xt w bg rfl hs ⟨rr,Du⟩;rw [ES hp];refine .region (.zn zg (nT ⟨H2,_,HLe.refl _,hs,?_⟩));rintro w oI - hs;replace hs:St H2 w (.blk ny [I (og l.seasons x.zone x.fr p)]:: .blk b5 [I x.zone,I x.fr,I x.to,I x.dlo,I x.dhi,I x.blo,I x.bhi]:: .blk b4 [I l.length,I l.depth,vt,vs]:: .blk b3 [I s.id,I s.src,cE,cB,I s.al,I s.up]::oI):=hs;refine .block (.draw mix rfl hs fun w hs=>?_);refine .y 0 rfl hs aj ?_;refine .ys 1 rfl hs [_,_,_,_] dc bK ?_;refine .z 2 rfl (zfa ml) ?_;refine .y 3 rfl hs aj ?_;refine .z 4 rfl zm ?_;refine .E 5 hs ?_;refine .call call105 rfl (rG hs (h2.mono (az.trans bg)) hl) ?_;rintro _ w ⟨rfl,hs⟩;refine .go (.zw 6 rfl DK (.E 7 hs ?_));refine .store hs rfl rfl an ?_;intro w hs;exact .go (.D hs (nB ⟨H2,_,HLe.refl _,hs,rfl⟩))
  ·rintro D H2 xu w bg rfl hs;rw [r9] at hs;have dq:=az.trans bg;have hE:=G5 hl.seasons x.zone x.fr (mP x);replace hs:St H2 w (.obj D (.deferred (some [])):: .blk ny [I (og l.seasons x.zone x.fr (mP x))]:: .blk b5 [I x.zone,I x.fr,I x.to,I x.dlo,I x.dhi,I x.blo,I x.bhi]:: .blk b4 [I l.length,I l.depth,vt,vs]:: .blk b3 [I s.id,I s.src,cE,cB,I s.al,I s.up]::σ):=hs;refine nB (nT (.seq (.af (.y hs (zls [_,_,_,_,_,_] bE aP) (.z (zfa ji) (.y hs (zld aj) (.z zm (.z gx (.y hs (zld aj) (.z gx (.o (.call call112 rfl (Ad (s:=s) hs (g2.mono dq) A1) ?_))))))))))));rintro _ w ⟨k,rfl,hB,hs⟩;refine .zn zg (.af (.z zm (.zn xv (.bh rfl (fun kd=>?_) (fun kd=>?_)))))
   ·exact .af (.z zm (.z zg (.zn zg (.ret (rT ((Fin.iT [D] [] hs fun w hs=>⟨_,results2 results115 rfl rfl,H2,_,_,dq,rfl,.ok hF hB kd,hs.out⟩)))))))
   ·refine .skip (nT (.af (.z zg (.zn zg (.ret ?_)))));have hk:=hB.low;obtain rfl:k= -1:=by omega
    exact Fin.iT [D] [] hs fun w hs=>⟨_,results2 results115 rfl rfl,H2,_,_,dq,rfl,.above hF hB,hs.out⟩
theorem zK{w:World}{v:Value}{l:List Rng}(hs:St H w σ)(hr:RRg H v l):aaR 162 [v] w fun u w'=>RRg H u l∧St H w' σ:=by
 obtain ⟨a,c,rfl⟩:=hr.shape;have hc:=RS.clip hr;refine Cl.o func162 ntmps162 ag1 ?_;exact .af (.zn zg (.af (.z zm (.z zm (.z (de eD) (.z zm (.z (de eD) (.q hs (J2 rfl rfl rfl eD aB (Nat.le_refl _) hc.1) (.zn zg (.ret (Fin.bj results162 rfl ⟨hc.2,hs⟩)))))))))))
theorem qs{w:World}{r:List Lg}(hs:St H w σ)(h1:RLg H vr r)(hr:xm r)(hm:iZ m.lo m.hi):
  aaR 110 [.agg #[vr],.agg #[I m.lo,I m.hi]] w fun u w'=>∃H1,HLe H H1∧RRg H1 u (msL m r r.length)∧St H1 w' σ:=by
 obtain ⟨ar,cr,rfl⟩:=h1.shape;have hn:=hr.many;refine Cl.o func110 ntmps110 ag2 ?_;refine .af (.bx hs fun b2 w hs=>?_);refine .bx hs fun b3 w hs=>?_
 refine .zn zg (.af (.y hs (zls [_,_] bJ aB) (.o (.buildSlice (cells:=m.c) hs jv rfl aA fun b9 w hs=>?_))));refine .zn zg (.seq (.af (.z (zfa bG) (.y hs (zld dH) (.z (de aF) (.zn zm (.for (N:=r.length) (J:=fun k fr w=>∃vo en,fr=[(5,vo),(11,.slice ar r.length cr),(3,Pt b3)]∧cU 2 vo (rgc (msL m r k)).flatten en∧St H w (en:: .blk b3 [I (kg m r k).lo,I (kg m r k).hi]::σ)) ai ?_ ?_ ?_)))))))
 ·exact .mk ⟨_,.blk b9 m.c,rfl,.full rfl,hs.sb⟩
 ·rintro k fr w hk ⟨vo,en,rfl,hO,hs⟩;have hx:=kC (l:=r) hk;have hb:=CJ hm (fun i hi=>(hr.leg i hi).1) (i:=k) ai;have y8:=(hr.leg k hk).1.burn;unfold iZ at hb y8;have KK:=jW m r k;obtain ⟨ao,co,rfl⟩:=hO.j6 (Fz _) ai;refine .block (.af (.ixX (enc:=Lg.c) hs h1 rfl rfl aF bw hx cK ?_));intro yM o15 e7;refine .q hs (bQ (vs:=(Lg.c (lg0 r k))) rfl mV bw e7) (.o (.alloc hs eX rfl fun b7 w hs=>?_));refine .o (.aE (vs:=(lg0 r k).c) hs rfl rfl bw fun w hs=>?_);change St _ _ (.blk b7 [I (lg0 r k).zone,I (lg0 r k).fr,I (lg0 r k).to,I (lg0 r k).dlo,I (lg0 r k).dhi,I (lg0 r k).blo,I (lg0 r k).bhi]::_) at hs;refine .nil (.af (.z (zfa bp) (.y hs (zld aj) (.z (zfa gD) (.z (zfa bI) (.y hs (zld aj) (.z gx (.z DK (.z (zfa bI) (.y hs (zld aj) (.z (zfa gD) (.z (zfa bp) (.y hs (zld aj) (.z gx (.z DK (.z (zbd [_,_] bX) (.o (.aE (vs:=(kg m r (k+1)).c) hs rfl rfl aB fun w hs=>?_))))))))))))))))));change St _ _ (.blk b7 _::en:: .blk b3 [I (kg m r (k+1)).lo,I (kg m r (k+1)).hi]::σ) at hs;refine .nil (.region (.z zm (.y hs (zls [_,_] bJ aB) (.o (.buildSlice (cells:=(kg m r (k+1)).c) hs jv rfl aA fun Pz w hs=>?_)))));refine .o (.append (ys:=(kg m r (k+1)).c) hs j8 rfl rfl hO (.own .here rfl rfl) (by simp [Rng.c,Value.oneCell']) (fun l h=>by rw [cj _ (Fz _),lN] at h;omega) ?_);intro v35 en35 w dY hs;rw [←GQ,←G3] at dY;exact .zn zg (nB (nT (.mk ⟨_,_,rfl,dY,hs.sb⟩)))
 ·rintro fr w ⟨vo,en,rfl,hO,hs⟩;obtain ⟨H1,az,hR,hs⟩:=cU.dh (m:=2) hO (Fz _) ai (by rw [lN,jW];omega) hs .here;refine nT (.af (.z zm (.o (.call call162 rfl (zK (l:=msL m r r.length) hs hR) ?_))));rintro v38 w ⟨T1,hs⟩;exact .zn zg (.ret (Fin.bj results110 rfl ⟨H1,az,T1,hs.out⟩))
theorem LM{v:Srv}{out:List Int}(h:HT v out e)(hv:eW v):(e=0∧0<out.length∧¬v.sys.Sound)∨(e=3∧v.sys.Sound):=by
 cases h with
 |bad h he=>exact (he (h.dX.2 hv)).elim
 |ok _ h=>
  by_cases e0:e=0
  ·subst e0;obtain ⟨_,h1,_,h2⟩:=h.conf;exact .inl ⟨rfl,(by cases out with|nil=>exact (h2 rfl).elim|cons=>simp),h1⟩
  ·cases h with
   |bad h=>exact (h (v.sys.dX.2 hv.sys)).elim
   |none _ h=>exact .inr ⟨rfl,h⟩
   |ok=>exact (e0 rfl).elim
theorem jr{w:World}{k:Int}(hs:St H w σ):aaR 98 [I k] w fun u w'=>u= .agg #[I 1,I 0,I k]∧St H w' σ:=by
 refine Cl.o func98 ntmps98 ag1 ?_;refine .af (.o (.alloc hs zeroValue113 rfl fun b2 w hs=>?_));refine .nil (.af (.z zm (.z (zbd [_,_,_] sf) (.o (.aE (vs:=[_,_,_]) hs rfl rfl jY fun w hs=>?_)))));exact .nil (.ret (Fin.iT [] [] hs fun w hs=>⟨_,results1 results98 (dp (vs:=[_,_,_]) hs rfl oW jY),rfl,hs.out⟩))
theorem qt{w:World}{s:Srv}{a b c d:Value}(hs:St H w σ)(g:SvM H s a b c d)(aZ:eW s):
  aaR 122 [svA s a b c d,I (k:Int)] w fun u w'=>∃H1 lo hi e,HLe H H1∧u= .tuple #[.agg #[I lo,I hi],I e]∧BA s k lo hi e∧St H1 w' σ:=by
 refine Cl.o func122 ntmps122 ag2 ?_;refine .af (.bx hs fun b2 w hs=>?_);refine .o (.alloc hs cZ rfl fun b4 w hs=>?_);refine .zn zg (.seq (.af (.z zm (.zn kU (.bh rfl (fun nv=>?_) (fun nv=>?_))))))
 ·refine .seq (.draw mix rfl hs fun w hs=>?_);refine .ys 0 rfl hs [_,_,_,_,_,_,_,_] bA aM ?_;refine .z 1 rfl zm ?_;refine .E 2 hs ?_;refine .call call98 rfl (jr hs) ?_;rintro _ w ⟨rfl,hs⟩;refine .go (.E 3 hs ?_);refine .call call174 rfl (uX (s:=s) (q:=⟨1,0,k⟩) hs g.st g.wa g.rd g.cm) ?_;rintro _ w ⟨H1,lo,hi,e,az,rfl,hQ,hs⟩;refine .go (.zw 4 rfl zex ?_);refine .z 5 rfl zex ?_;refine .E 6 hs ?_;refine .aE (vs:=[_,_]) hs rfl rfl aB ?_;intro w hs;refine .go (.zw 7 rfl zg ?_);refine .D hs ?_;exact .ret (rT ((Fin.iT [] [] hs fun w hs=>⟨_,results2 results122 (dp (vs:=[_,_]) hs rfl bJ aB) rfl,H1,_,_,_,az,rfl,.up ai hQ,hs.out⟩)))
 ·refine .skip (nT (.seq (.af (.y hs (zls [_,_,_,_,_,_,_,_] bA aM) ?_))));obtain rfl:k=0:=by omega
  refine .o (.call call175 rfl (uW (s:=s) hs g.st g.wa g.rd g.cm) ?_);rintro _ w ⟨H1,vx,out,e,az,rfl,hX,hC,hs⟩;have Et:=LM hC aZ;obtain ⟨ax,cx,rfl⟩:=RI.shape hX;refine .z zm (.z zex (.z zex (.z zg (.zn zg (.af (.z zm (.z fy (.z zm (.iz (t':=23) rfl (fun pN=>?_) (fun pN=>?_))))))))))
  ·refine .T (.z zm (.T (.z (de ae) (.T (.z kU (.zn zpT (.bh rfl (fun qQ=>?_) (fun qQ=>?_))))))))
   ·refine .af (.z (zbd [_,_] bX) (.o (.aE (vs:=[_,_]) hs rfl rfl aB fun w hs=>?_)));exact .zn zg (.ret (rT ((Fin.iT [] [] hs fun w hs=>⟨_,results2 results122 (dp (vs:=[_,_]) hs rfl bJ aB) rfl,H1,_,_,_,az,rfl,.fls rfl aZ (by rcases Et with h|h;exact h.2.2;omega),hs.out⟩))))
   ·refine .skip (nT (.af (.z (zbd [_,_] bX) (.o (.aE (vs:=[_,_]) hs rfl rfl aB fun w hs=>?_)))));exact .zn zg (.ret (Fin.iT [] [] hs fun w hs=>⟨_,results2 results122 (dp (vs:=[_,_]) hs rfl bJ aB) rfl,H1,_,_,_,az,rfl,.zero rfl aZ (by rcases Et with h|h;omega;exact h.2),hs.out⟩))
  ·refine .Fs 3 2 true (.zn zpF (.cF (.skip (nT (.af (.z (zbd [_,_] bX) (.o (.aE (vs:=[_,_]) hs rfl rfl aB fun w hs=>?_))))))));exact .zn zg (.ret (Fin.iT [] [] hs fun w hs=>⟨_,results2 results122 (dp (vs:=[_,_]) hs rfl bJ aB) rfl,H1,_,_,_,az,rfl,.zero rfl aZ (by rcases Et with h|h;omega;exact h.2),hs.out⟩))
theorem fZ{w:World}{n:Int}(hs:St H w σ)(hn: -4000000000000≤n∧n≤4000000000000)(hd: -100000≤d∧d≤100000):aaR 99 [I n,I d] w fun v w'=>v=I (kE n d)∧St H w' σ:=by
 have hm:=kL (a:=n) (b:=d) (A:=4000000000000) (B:=100000) ai ai;refine Cl.o func99 ntmps99 ag2 ?_;refine .af (.zn zg (.af (.z zm (.z zm (.z kV (.o (.call call140 rfl (tg hs ai ai) ?_)))))));rintro _ w ⟨rfl,hs⟩;exact .zn zg (.ret (Fin.bj results99 rfl ⟨rfl,hs⟩))
theorem wU{w:World}{y:Int}(hs:St H w σ)(h1: -200000000≤lo∧lo≤200000000)(h2: -200000000≤hi∧hi≤200000000)(hd:gw x y):
  aaR 145 [.agg #[I lo,I hi],.agg #[I x,I y]] w fun v w'=>v= .agg #[I (rl lo x y),I (uF hi x y)]∧St H w' σ:=by
 unfold gw at hd;refine Cl.o func145 ntmps145 ag2 ?_;refine .af (.bx hs fun b2 w hs=>?_);refine .bx hs fun b3 w hs=>?_
 refine .o (.alloc hs cZ rfl fun b4 w hs=>?_);refine .nil (.seq (.draw mix rfl hs fun w hs=>?_));refine .zw 0 rfl (zfa bp) ?_;refine .y 1 rfl hs aj ?_;refine .z 2 rfl (zfa bp) ?_;refine .y 3 rfl hs aj ?_;refine .z 5 rfl (zfa bp) ?_;refine .y 6 rfl hs aj ?_;refine .z 7 rfl (zfa bI) ?_;refine .y 8 rfl hs aj ?_;refine .z 11 rfl (zfa bI) ?_;refine .y 12 rfl hs aj ?_;refine .zw 13 rfl (zfa bp) ?_;refine .y 14 rfl hs aj ?_;refine .z 16 rfl (zfa bI) ?_;refine .y 17 rfl hs aj ?_;refine .z 18 rfl (zfa bI) ?_;refine .y 19 rfl hs aj ?_;refine .E 4 hs ?_;refine .call call99 rfl (fZ hs ai ai) ?_;rintro _ w ⟨rfl,hs⟩;refine .go (.E 9 hs ?_);refine .call call99 rfl (fZ hs ai ai) ?_;rintro _ w ⟨rfl,hs⟩;refine .go (.zw 10 rfl Dq (.E 15 hs ?_));refine .call call99 rfl (fZ hs ai ai) ?_;rintro _ w ⟨rfl,hs⟩;refine .go (.E 20 hs ?_);refine .call call99 rfl (fZ hs ai ai) ?_;rintro _ w ⟨rfl,hs⟩;refine .go (.zw 21 rfl DK ?_);refine .z 22 rfl (zbd [_,_] bX) ?_;refine .E 23 hs ?_;refine .aE (vs:=[_,_]) hs rfl rfl aB ?_;intro w hs;exact .go (.D hs (.ret (Fin.iT [] [] hs fun w hs=>⟨_,results1 results145 (dp (vs:=[_,_]) hs rfl bJ aB),rfl,hs.out⟩)))
theorem fm{w:World}{s:Srv}{a b c d:Value}{y:Int}(hs:St H w σ)(g:SvM H s a b c d)(aZ:eW s)(hd:gw x y):
  aaR 88 [svA s a b c d,I (k:Int),.agg #[I x,I y]] w fun u w'=>∃H1 lo hi e,HLe H H1∧u= .tuple #[.agg #[I lo,I hi],I e]∧oa s k x y lo hi e∧St H1 w' σ:=by
 refine Cl.o func88 ntmps88 ag3 ?_;refine .af (.bx hs fun b3 w hs=>?_);refine .bx hs fun b5 w hs=>?_
 refine .o (.alloc hs cZ rfl fun b6 w hs=>?_);refine .zn zg (.af (.y hs (zls [_,_,_,_,_,_,_,_] bA aM) (.z zm (.o (.call call122 rfl (qt (s:=s) hs g aZ) ?_)))));rintro _ w ⟨H1,lo,hi,e,az,rfl,hL,hs⟩;have hb:=hL.bd;refine .z zm (.z zex (.z zex (.o (.alloc hs cZ rfl fun b8 w hs=>?_))));refine .o (.aE (vs:=[_,_]) hs rfl rfl aB fun w hs=>?_);refine .zn zg (.seq (.af (.z zm (.zn fV (.dK rfl (fun iW=>?_) (fun iW=>?_))))))
 ·refine .af (.z (zbd [_,_] bX) (.z zm (.o (.aE (vs:=[_,_]) hs rfl rfl aB fun w hs=>?_))));exact .zn zg (.ret (rT ((Fin.iT [] [] hs fun w hs=>⟨_,results2 results88 (dp (vs:=[_,_]) hs rfl bJ aB) rfl,H1,_,_,_,az,rfl,.fls hL iW,hs.out⟩))))
 ·refine .skip (nT (.af (.y hs (zls [_,_] bJ aB) (.y hs (zls [_,_] bJ aB) ?_))));obtain rfl:e=0:=by omega
  refine .o (.call call145 rfl (wU hs ai ai hd) ?_);rintro _ w ⟨rfl,hs⟩;refine .o (.aE (vs:=[_,_]) hs rfl rfl aB fun w hs=>?_);exact .zn zg (.ret (Fin.iT [] [] hs fun w hs=>⟨_,results2 results88 (dp (vs:=[_,_]) hs rfl bJ aB) rfl,H1,_,_,_,az,rfl,.ok hL,hs.out⟩))
theorem qM{w:World}{s:Srv}{k:Int}{a b c d:Value}{y:Int}(hs:St H w σ)(g:SvM H s a b c d):
  aaR 58 [svA s a b c d,I k,.agg #[I x,I y]] w fun u w'=>∃H1 lo hi e,HLe H H1∧u= .tuple #[.agg #[I lo,I hi],I e]∧Jc s k x y lo hi e∧St H1 w' σ:=by
 obtain ⟨aw,cw,rfl⟩:=RI.shape g.wa;refine Cl.o func58 ntmps58 ag3 ?_;refine .af (.bx hs fun b3 w hs=>?_);refine .bx hs fun b5 w hs=>?_
 refine .o (.alloc hs cZ rfl fun b6 w hs=>?_);refine .zn zg (.seq (.af (.y hs (zls [_,_,_,_,_,_,_,_] bA aM) (.o (.call call117 rfl (ia (s:=s) hs g.st g.wa g.rd g.cm) ?_)))));rintro _ w ⟨H1,e,az,rfl,hC,hs⟩;refine .zn zg (.af (.z zm (.zn fV (.dK rfl (fun fl=>?_) (fun fl=>?_)))))
 ·refine .af (.z (zbd [_,_] bX) (.z zm (.o (.aE (vs:=[_,_]) hs rfl rfl aB fun w hs=>?_))));exact .zn zg (.ret (rT ((Fin.iT [] [] hs fun w hs=>⟨_,results2 results58 (dp (vs:=[_,_]) hs rfl bJ aB) rfl,H1,_,_,_,az,rfl,.bad hC fl,hs.out⟩))))
 ·refine .skip (nT (.seq (.block (.af ?_))));have aZ:eW s:=hC.dX.1 ai;have pG:=eM aZ.early.1;refine .z zm (.z (zfa aW) (.z (zfa aQ) (.y hs (zld aq) (.z (de ae) (.z gx (.o (.call mz rfl (cM hs) ?_)))))));rintro _ w ⟨rfl,hs⟩;refine .z fU (.zn zg (.cond rfl (fun e7=>?_) (fun e7=>?_)))
  ·refine .af (.z (zbd [_,_] bX) (.o (.aE (vs:=[_,_]) hs rfl rfl aB fun w hs=>?_)));exact .zn zg (.ret (rB (rT ((Fin.iT [] [] hs fun w hs=>⟨_,results2 results58 (dp (vs:=[_,_]) hs rfl bJ aB) rfl,H1,_,_,_,az,rfl,.water aZ (by simp at e7;omega),hs.out⟩)))))
  ·refine .af (.y hs (zls [_,_] bJ aB) ?_);have hk:0≤k∧k≤(s.sp.wa.length:Int) - 1:=by simpa using e7
   refine .o (.call call118 rfl (pC hs) ?_);rintro _ w ⟨rfl,hs⟩;refine .z fU (.zn zg (.cond rfl (fun fc=>?_) (fun fc=>?_)))
   ·refine .af (.z (zbd [_,_] bX) (.o (.aE (vs:=[_,_]) hs rfl rfl aB fun w hs=>?_)));exact .zn zg (.ret (rB (rT ((Fin.iT [] [] hs fun w hs=>⟨_,results2 results58 (dp (vs:=[_,_]) hs rfl bJ aB) rfl,H1,_,_,_,az,rfl,.dense aZ hk (by simpa using fc),hs.out⟩)))))
   ·refine .skip (nB (nT (.af (.y hs (zls [_,_,_,_,_,_,_,_] bA aM) (.z zm (.y hs (zls [_,_] bJ aB) ?_))))));have Bm:gw x y:=by simpa using fc
    obtain ⟨j,rfl⟩:∃j:Nat,k=(j:Int):=⟨k.toNat,ai⟩;refine .o (.call call88 rfl (fm (s:=s) hs (g.mono az) aZ Bm) ?_);rintro _ w ⟨H2,lo,hi,e,bg,rfl,hS,hs⟩;refine .z zex (.z zex (.o (.aE (vs:=[_,_]) hs rfl rfl aB fun w hs=>?_)));exact .zn zg (.ret (Fin.iT [] [] hs fun w hs=>⟨_,results2 results58 (dp (vs:=[_,_]) hs rfl bJ aB) rfl,H2,_,_,_,az.trans bg,rfl,.go aZ hk Bm (by rw [Int.toNat_natCast];exact hS),hs.out⟩))
set_option maxHeartbeats 2000000 in
theorem Ae{w:World}{s:Srv}{r:List Lg}{a b c d:Value}(hs:St H w σ)(g:SvM H s a b c d)(gl:LnM H l vt vs)(kh:RLg H fX r):
  aaR 79 [svA s a b c d,lnA l vt vs,.agg #[fX],.agg #[I m.lo,I m.hi]] w fun u w'=>∃(H1:cu) (z:RtV) (ks:List Int) (e:Int),HLe H H1∧u= .tuple #[z.agg,I e]∧z.cs.all Value.oneCell'=true∧uo s l r m ks e∧(e=0→∃vms vmk,z=⟨s,l,a,b,c,d,vt,vs,fX,vms,vmk⟩∧RRg H1 vms (msL m r r.length)∧RI H1 vmk ks)∧St H1 w' σ:=by
 obtain ⟨qA,qy,rfl⟩:=kh.shape;refine Cl.o func79 ntmps79 ag4 ?_;refine .af (.bx hs fun b4 w hs=>?_);refine .bx hs fun b5 w hs=>?_
 refine .bx hs fun b6 w hs=>?_
 refine .bx hs fun b7 w hs=>?_
 refine .o (.alloc hs qj rfl fun b8 w hs=>?_);refine .zn zg (.seq (.af (.y hs (zls [_,_,_,_,_,_,_,_] bA aM) (.o (.call call117 rfl (ia (s:=s) hs g.st g.wa g.rd g.cm) ?_)))));rintro _ w ⟨H1,e,az,rfl,hC,hs⟩;refine .zn zg (.af (.z zm (.zn fV (.dK rfl (fun iC=>?_) (fun iC=>?_)))))
 ·refine .af (.z (zbd RtV.zero.cs iy rfl aA) (.z zm (.o (.aE (vs:=RtV.zero.cs) hs rfl rfl eV fun w hs=>?_))));exact .zn zg (.ret (rT ((Fin.iT [] [] hs fun w hs=>⟨_,results2 UI (dp (vs:=RtV.zero.cs) hs rfl A9 eV) rfl,H1,RtV.zero,_,_,az,rfl,rfl,.bad hC iC,fun h=>(iC h).elim,hs.out⟩))))
 ·refine .skip (nT (.seq (.af (.y hs (zls [_,_,_,_] dc bK) ?_))));have aZ:eW s:=hC.dX.1 ai;have A1:=aZ.early.1;refine .o (.call call19 rfl (kb hs (gl.tb.mono az) (gl.sn.mono az)) ?_);rintro _ w ⟨f,rfl,hL,hs⟩;refine .zn zg (.af (.z zm (.zn fV (.dK rfl (fun qQ=>?_) (fun qQ=>?_)))))
  ·refine .af (.z (zbd RtV.zero.cs iy rfl aA) (.z zm ?_));have hl:=hL.resolve_left fun h=>qQ h.2
   refine .o (.aE (vs:=RtV.zero.cs) hs rfl rfl eV fun w hs=>?_);exact .zn zg (.ret (rT ((Fin.iT [] [] hs fun w hs=>⟨_,results2 UI (dp (vs:=RtV.zero.cs) hs rfl A9 eV) rfl,H1,RtV.zero,_,_,az,rfl,rfl,by rw [hl.2];exact .lines aZ hl.1,fun h=>(qQ h).elim,hs.out⟩))))
  ·refine .skip (nT (.seq (.af (.y hs (zls [_] ek cI) ?_))));have hl:jn l:=(hL.resolve_right fun h=>by omega).1;refine .o (.call call21 rfl (sU hs (kh.mono az)) ?_);rintro _ w ⟨q,rfl,hR,hs⟩;refine .zn zg (.af (.z zm (.zn fV (.dK rfl (fun mJ=>?_) (fun mJ=>?_)))))
   ·refine .af (.z (zbd RtV.zero.cs iy rfl aA) (.z zm ?_));have oB:=hR.resolve_left fun h=>mJ h.2
    refine .o (.aE (vs:=RtV.zero.cs) hs rfl rfl eV fun w hs=>?_);exact .zn zg (.ret (rT ((Fin.iT [] [] hs fun w hs=>⟨_,results2 UI (dp (vs:=RtV.zero.cs) hs rfl A9 eV) rfl,H1,RtV.zero,_,_,az,rfl,rfl,by rw [oB.2];exact .route aZ hl oB.1,fun h=>(mJ h).elim,hs.out⟩))))
   ·refine .skip (nT (.seq (.af (.y hs (zls [_,_] bJ aB) ?_))));have oB:xm r:=(hR.resolve_right fun h=>by omega).1;have hn:=oB.many;refine .o (.call call109 rfl (qv hs) ?_);rintro _ w ⟨rfl,hs⟩;refine .zn fU (.cond rfl (fun qP=>?_) (fun qP=>?_))
    ·refine .af (.z (zbd RtV.zero.cs iy rfl aA) (.o (.aE (vs:=RtV.zero.cs) hs rfl rfl eV fun w hs=>?_)));exact .zn zg (.ret (rT ((Fin.iT [] [] hs fun w hs=>⟨_,results2 UI (dp (vs:=RtV.zero.cs) hs rfl A9 eV) rfl,H1,RtV.zero,_,_,az,rfl,rfl,.tf aZ hl oB (by simpa using qP),fun h=>by omega,hs.out⟩))))
    ·refine .skip (nT (.cut (fun fs w=>∃H2 vms kP,kG fs ⟨76,[],[(13,Pt kP),(8,Pt b8),(5,Pt b5),(6,Pt b6)]⟩∧HLe H1 H2∧RRg H2 vms (msL m r r.length)∧St H2 w (.blk kP (RtV.cs ⟨s,l,a,b,c,d,vt,vs,.slice qA r.length qy,vms,.slice none 0 0⟩):: .blk b8 RtV.zero.cs:: .blk b6 [.slice qA r.length qy]:: .blk b5 (lnC l vt vs)::σ)) ?_ ?_))
     ·refine .draw mix rfl hs fun w hs=>?_
      refine .ys 0 rfl hs [_,_,_,_,_,_,_,_] bA aM ?_;refine .ys 1 rfl hs [_,_,_,_] dc bK ?_;refine .z 2 rfl (zfa bG) ?_;refine .y 3 rfl hs dH ?_;refine .ys 4 rfl hs [_] ek cI ?_;refine .ys 5 rfl hs [_,_] bJ aB ?_;refine .e2 (i:=6) (j:=8) aA rfl rfl rfl rfl .none .none hs ?_ ?_
      ·refine .call call110 rfl (qs hs (kh.mono az) oB (by simpa using qP)) ?_;rintro vms w ⟨H2,bg,Ho,hs⟩;obtain ⟨Df,C9,rfl⟩:=Ho.shape;refine .go (.zw 7 rfl (zbd (vs:=[(0,svA s a b c d),(1,lnA l vt vs),(2,.slice qA r.length qy),(3,.slice Df (msL m r r.length).length C9)]) (RtV.cs ⟨s,l,a,b,c,d,vt,vs,.slice qA r.length qy,.slice Df (msL m r r.length).length C9,.slice none 0 0⟩) iy rfl aA) (.E 8 hs ?_));refine .alloc hs qj rfl ?_;intro kP w hs;refine .go (.E 9 hs ?_);refine .aE (vs:=RtV.cs ⟨s,l,a,b,c,d,vt,vs,.slice qA r.length qy,.slice Df (msL m r r.length).length C9,.slice none 0 0⟩) hs rfl rfl eV ?_ (hv:=RtV.one g gl kh (RS.one Ho) rfl);intro w hs;exact .go (.D hs (nT ⟨H2,_,kP,aH,bg,Ho,hs.sb⟩))
      ·refine .alloc hs qj rfl ?_;intro kP w hs;refine .go (.E 6 hs ?_);refine .call call110 rfl (qs hs (kh.mono az) oB (by simpa using qP)) ?_;rintro vms w ⟨H2,bg,Ho,hs⟩;obtain ⟨Df,C9,rfl⟩:=Ho.shape;refine .go (.zw 7 rfl (zbd (vs:=[(0,svA s a b c d),(1,lnA l vt vs),(2,.slice qA r.length qy),(3,.slice Df (msL m r r.length).length C9)]) (RtV.cs ⟨s,l,a,b,c,d,vt,vs,.slice qA r.length qy,.slice Df (msL m r r.length).length C9,.slice none 0 0⟩) iy rfl aA) (.E 9 hs ?_));refine .aE (vs:=RtV.cs ⟨s,l,a,b,c,d,vt,vs,.slice qA r.length qy,.slice Df (msL m r r.length).length C9,.slice none 0 0⟩) hs rfl rfl eV ?_ (hv:=RtV.one g gl kh (RS.one Ho) rfl);intro w hs;exact .go (.D hs (nT ⟨H2,_,kP,aH,bg,Ho,hs.sb⟩))
     ·rintro fs w ⟨H2,vms,kP,fM,bg,Ho,hs⟩;refine WE.sub ?_ fM;clear fM;have dq:=az.trans bg;have hm:iZ m.lo m.hi:=by simpa using qP
      refine .seq (.af (.z (zfa bG) (.y hs (zld dH) (.z (de aF) (.zn zm (.for (N:=r.length) (J:=fun k fr w=>∃H3 ks vmk en,fr=[(49,.slice qA r.length qy),(13,Pt kP),(8,Pt b8),(5,Pt b5)]∧HLe H2 H3∧ks.length=k∧(∀i<k,Bz s.sp.wa l (lg0 r i) (gi ks i) 0)∧cU 1 vmk (Is ks) en∧St H3 w (en:: .blk kP (RtV.cs ⟨s,l,a,b,c,d,vt,vs,.slice qA r.length qy,vms,vmk⟩):: .blk b8 RtV.zero.cs:: .blk b6 [.slice qA r.length qy]:: .blk b5 (lnC l vt vs)::σ)) ai ?_ ?_ ?_))))))
      ·exact .mk ⟨H2,[],_,.nul,rfl,HLe.refl _,rfl,fun i hi=>by omega,.nil 1 none,hs.nul⟩
      ·rintro k fr w hk ⟨H3,ks,vmk,en,rfl,bZ,lB,Jp,hO,hs⟩;have hx:=kC (l:=r) hk;have ee:=dq.trans bZ;obtain ⟨ao,lo',co,rfl,w6⟩:=hO.shape;refine .block (.af (.ixX (enc:=Lg.c) hs (kh.mono ee) rfl rfl aF bw hx cK ?_));intro Yr o53 CX;refine .q hs (bQ (vs:=(Lg.c (lg0 r k))) rfl mV bw CX) (.o (.alloc hs eX rfl fun yM w hs=>?_));refine .o (.aE (vs:=(lg0 r k).c) hs rfl rfl bw fun w hs=>?_);change St _ _ (.blk yM (lgC (lg0 r k))::_) at hs;refine .nil (.af (.z (zfa nQ) (.z (zfa aW) (.y hs (zls [_,_,_,_,_,_] bE aP) (.y hs (zls [_,_,_,_] dc bK) (.y hs (zls [_,_,_,_,_,_,_] mV bw) (.o (.call call115 rfl (yo (s:=s.sp) (x:=lg0 r k) hs (g.wa.mono ee) (gl.tb.mono ee) (gl.sn.mono ee) A1 hl (oB.leg k hk).1) ?_))))))));rintro _ w ⟨H4,n,e,eH,rfl,T6,hs⟩;have js:=ee.trans eH;refine .z zm (.z zex (.z zex (.z zg (.zn zg (.seq (.af (.z zm (.zn fV (.dK rfl (fun Qx=>?_) (fun Qx=>?_))))))))))
       ·refine .af (.z (zbd RtV.zero.cs iy rfl aA) (.z zm (.o (.aE (vs:=RtV.zero.cs) hs rfl rfl eV fun w hs=>?_))));exact .zn zg (.ret (rT (rB (rT (rB (rT ((Fin.iT [] [] hs fun w hs=>⟨_,results2 UI (dp (vs:=RtV.zero.cs) hs rfl A9 eV) rfl,H4,RtV.zero,_,_,js,rfl,rfl,.low aZ hl oB hm hk (fun j hj=>⟨_,Jp j hj⟩) T6 Qx,fun h=>(Qx h).elim,hs.out⟩))))))))
       ·refine .skip (nT (.region (.z (zfa iM) (.y hs (zld aq) (.z zm (.o (.buildSlice (cells:=Is [n]) hs cV rfl aA fun Vp w hs=>?_)))))));refine .o (.append (ys:=Is [n]) hs cA rfl rfl hO (.own .here rfl rfl) (iP _) (fun l h=>by simp [Is] at h;omega) ?_);intro v72 en72 w dY hs;rw [←List.map_append] at dY;obtain ⟨a72,l72,c72,rfl,h72⟩:=dY.shape;refine .z (zfa iM) (.o (.store hs rfl rfl aI fun w hs=>?_));refine .nil (nB (nT ?_));obtain rfl:e=0:=by omega
        exact .mk ⟨H4,ks++[n],_,_,rfl,bZ.trans eH,by simp [lB],fun i hi=>by
         by_cases e:i=k
         ·subst e;rw [mM,if_neg ai,if_pos ai];exact T6
         ·rw [mM,if_pos ai];exact Jp i ai,dY,hs.sb⟩
      ·rintro fr w ⟨H3,ks,vmk,en,rfl,bZ,lB,Jp,hO,hs⟩;obtain ⟨H4,eH,IW,hs⟩:=hO.dR ai hs .here;have js:=dq.trans (bZ.trans eH);refine nT (.af (.y hs (zls [_,_,_,_,_,_,_,_,_,_,_,_,_,_,_] A9 eV) (.o (.aE (vs:=RtV.cs ⟨s,l,a,b,c,d,vt,vs,.slice qA r.length qy,vms,vmk⟩) hs rfl rfl eV ?_ (hv:=RtV.one g gl kh (RS.one Ho) (RS.one IW))))));intro w hs;exact .zn zg (.ret (Fin.iT [] [] hs fun w hs=>⟨_,results2 UI (dp (vs:=RtV.cs ⟨s,l,a,b,c,d,vt,vs,.slice qA r.length qy,vms,vmk⟩) hs rfl A9 eV) rfl,H4,⟨s,l,a,b,c,d,vt,vs,.slice qA r.length qy,vms,vmk⟩,_,_,js,rfl,RtV.one g gl kh (RS.one Ho) (RS.one IW),.ok aZ hl oB hm lB Jp,fun _=>⟨_,_,rfl,Ho.mono (bZ.trans eH),IW⟩,hs.out⟩))
structure RtM(H:cu)(s:Srv)(l:Lns)(r:List Lg)(m:Rng)(ks:List Int)(z:RtV):Prop where
 es:z.s=s
 el:z.l=l
 sv:SvM H s z.a z.b z.c z.d
 ln:LnM H l z.t z.n
 lg:RLg H z.lg r
 ms:RRg H z.ms (msL m r r.length)
 mr:RI H z.mr ks
 one:z.cs.all Value.oneCell'=true
 beg:uo s l r m ks 0
set_option maxHeartbeats 1000000 in
theorem pD{w:World}{s:Srv}{r:List Lg}{z:RtV}(hs:St H w σ)(h:RtM H s l r m ks z):
  aaR 80 [z.agg] w fun u w'=>∃H1 v dC e,HLe H H1∧u= .tuple #[v,I e]∧RI H1 v dC∧Dp s l r m dC e∧St H1 w' σ:=by
 obtain ⟨s',l',a,b,c,d,t,n,lg,ms,mr⟩:=z;obtain ⟨rfl,rfl,g,gl,hr,y0,En,No,hB⟩:=h;dsimp only at g gl hr y0 En No;obtain ⟨qA,qy,rfl⟩:=hr.shape;obtain ⟨Df,C9,rfl⟩:=y0.shape;obtain ⟨HP,HK,rfl⟩:=RI.shape En;obtain ⟨aZ,hl,oB,hm,lB,rL⟩:=hB.ok';have hn:=oB.many;have KK:=jW m r r.length;refine Cl.o func80 ntmps80 ag1 ?_;refine .af (.bx hs fun b1 w hs=>?_);refine .z zg (.zn zg (.af (.zn zg (.seq (.af (.z (zfa gM) (.y hs (zld dH) (.z (de aF) (.zn zm (.for (N:=r.length) (J:=fun k fr w=>∃H1 vo dC en,fr=[(4,vo),(11,.slice qA r.length qy),(1,Pt b1)]∧HLe H H1∧dC.length=k∧(∀i<k,∃lo hi,oa s' (gi ks i).toNat (lg0 r i).dlo (lg0 r i).dhi lo hi 0∧gi dC i=AN (kg m r i) lo hi)∧(0<k→s'.sys.Sound)∧cU 1 vo (Is dC) en∧St H1 w (en:: .blk b1 (RtV.cs ⟨s',l',a,b,c,d,t,n,.slice qA r.length qy,.slice Df (msL m r r.length).length C9,.slice HP ks.length HK⟩)::σ)) ai ?_ ?_ ?_))))))))))
 ·exact .mk ⟨H,_,[],.nul,rfl,HLe.refl _,rfl,fun i hi=>by omega,fun h=>by omega,.nil 1 none,hs.nul⟩
 ·rintro k fr w hk ⟨H1,vo,dC,en,rfl,az,B4,has,oX,hO,hs⟩;have hx:=kC (l:=r) hk;have yw:=wS m r (k:=r.length) (i:=k) ai;have Bm:=(oB.leg k hk).1.dense;obtain ⟨q,hq,Hh⟩:=hB.mark hk;obtain ⟨ao,lo',co,rfl,w6⟩:=hO.shape;refine .block (.af (.z zm (.ixX (enc:=Lg.c) hs (hr.mono az) rfl rfl aF bw hx cK ?_)));intro nx o16 eC;refine .q hs (bQ (vs:=(Lg.c (lg0 r k))) rfl mV bw eC) (.o (.alloc hs eX rfl fun b6 w hs=>?_));refine .z zg (.o (.aE (vs:=(lg0 r k).c) hs rfl rfl bw fun w hs=>?_));change St _ _ (.blk b6 (lgC (lg0 r k))::_) at hs;refine .nil (.cut (fun fs w=>∃H2 lo hi e b7,kG fs ⟨60,[],[(8,I e),(7,Pt b7),(6,Pt b6),(5,I (k:Int)),(4,.slice ao lo' co),(1,Pt b1),(11,.slice qA r.length qy),(13,I (k:Int)),(12,I (r.length:Int))]⟩∧HLe H1 H2∧oa s' q (lg0 r k).dlo (lg0 r k).dhi lo hi e∧St H2 w (.blk b7 [I lo,I hi]:: .blk b6 (lgC (lg0 r k))::en:: .blk b1 (RtV.cs ⟨s',l',a,b,c,d,t,n,.slice qA r.length qy,.slice Df (msL m r r.length).length C9,.slice HP ks.length HK⟩)::σ)) ?_ ?_)
  ·refine .draw mix rfl hs fun w hs=>?_
   refine .zw 0 rfl (zfa nQ) ?_;refine .ys 1 rfl hs [_,_,_,_,_,_,_,_] bA aM ?_;refine .z 2 rfl (zfa iM) ?_;refine .y 3 rfl hs aq ?_;refine .z 4 rfl zm ?_;refine .ixX (enc:=fun x=>[I x]) (i:=5) hs rfl aA .none (En.mono az) rfl rfl ae an (bu (l:=ks) (i:=k) ai) rfl ?_;intro ue o24 jX;replace jX:=bD.one jX;refine .y 6 rfl hs aj ?_;refine .z 7 rfl (zfa ep) ?_;refine .ys 8 rfl hs [_,_] bJ aB ?_;refine .e2 (i:=9) (j:=13) aA rfl rfl rfl rfl .none .none hs ?_ ?_
   ·rw [hq];refine .call call88 rfl (fm (s:=s') hs (g.mono az) aZ Bm) ?_;rintro _ w ⟨H2,lo,hi,e,bg,rfl,hS,hs⟩;refine .go (.zw 10 rfl zm ?_);refine .z 11 rfl zex ?_;refine .z 12 rfl zex ?_;refine .E 13 hs ?_;refine .alloc hs cZ rfl ?_;intro b7 w hs;refine .go (.E 14 hs ?_);refine .aE (vs:=[_,_]) hs rfl rfl aB ?_;intro w hs;refine .go (.zw 15 rfl zg ?_);refine .D hs ?_;exact nT ⟨H2,lo,hi,e,b7,aH,bg,hS,hs.sb⟩
   ·refine .alloc hs cZ rfl ?_;intro b7 w hs;refine .go (.E 9 hs ?_);rw [hq];refine .call call88 rfl (fm (s:=s') hs (g.mono az) aZ Bm) ?_;rintro _ w ⟨H2,lo,hi,e,bg,rfl,hS,hs⟩;refine .go (.zw 10 rfl zm ?_);refine .z 11 rfl zex ?_;refine .z 12 rfl zex ?_;refine .E 14 hs ?_;refine .aE (vs:=[_,_]) hs rfl rfl aB ?_;intro w hs;refine .go (.zw 15 rfl zg ?_);refine .D hs ?_;exact nT ⟨H2,lo,hi,e,b7,aH,bg,hS,hs.sb⟩
  ·rintro fs w ⟨H2,lo,hi,e,b7,fM,bg,hS,hs⟩;refine WE.sub ?_ fM;clear fM;have dq:=az.trans bg;refine .seq (.af (.z zm (.zn fV (.dK rfl (fun sY=>?_) (fun sY=>?_)))))
   ·exact .af (.z zm (.z zg (.zn zg (.ret (rT (rB (rT (rB (rT (Fin.gU results80 rfl rfl ⟨H2,_,[],_,dq,rfl,RS.nil H2 1 none 0,by rcases hS.err aZ Hh with h|h;exact (sY h.1).elim;rw [h.1];exact .fls hB h.2.1,hs.out⟩))))))))))
   ·refine .skip (nT (.af (.zn zg (.cut (fun fs w=>∃x,kG fs ⟨60,[],[(9,I x),(4,.slice ao lo' co),(1,Pt b1),(11,.slice qA r.length qy),(13,I (k:Int)),(12,I (r.length:Int))]⟩∧x=AN (kg m r k) lo hi∧St H2 w (.blk b7 [I lo,I hi]:: .blk b6 (lgC (lg0 r k))::en:: .blk b1 (RtV.cs ⟨s',l',a,b,c,d,t,n,.slice qA r.length qy,.slice Df (msL m r r.length).length C9,.slice HP ks.length HK⟩)::σ)) ?_ ?_))))
    ·refine .block (.seq (.draw mix rfl hs fun w hs=>?_));refine .zw 0 rfl (zfa lk) ?_;refine .y 1 rfl hs isAgg80 ?_;refine .z 2 rfl zm ?_;refine .ixX (enc:=Rng.c) (i:=3) hs rfl aA .none (RS.mono y0 dq) rfl rfl eD aB yw rfl ?_;intro b38 o38 qP;refine .zw 4 rfl (zfa bI) (.r (i:=5) hs rfl aA .none (aC rfl aj (qP.get 1 rfl)) ?_);refine .zw 6 rfl (zfa bp) ?_;refine .y 7 rfl hs aj ?_;refine .z 8 rfl oY ?_;refine .z 9 rfl zg ?_;refine .D hs ?_;refine (.bh rfl (fun jx=>?_) (fun jx=>?_))
     ·exact .region (.zn zg (nB (nT ⟨_,aH,by unfold AN;simp [*],hs⟩)))
     ·refine .seq (.draw mix rfl hs fun w hs=>?_);refine .zw 0 rfl (zfa lk) ?_;refine .y 1 rfl hs isAgg80 ?_;refine .z 2 rfl zm ?_;refine .ixX (enc:=Rng.c) (i:=3) hs rfl aA .none (RS.mono y0 dq) rfl rfl eD aB yw rfl ?_;intro b48 o48 mI;refine .zw 4 rfl (zfa bp) (.r (i:=5) hs rfl aA .none (aC rfl aj (mI.get 0 rfl)) ?_);refine .zw 6 rfl (zfa bI) ?_;refine .y 7 rfl hs aj ?_;refine .z 8 rfl kU ?_;refine .z 9 rfl zg ?_;refine .D hs ?_;refine (.bh rfl (fun vC=>?_) (fun vC=>?_))
      ·exact .region (.zn zg (nB (nT ⟨_,aH,by unfold AN;simp [*],hs⟩)))
      ·exact .skip (nB (nT ⟨_,aH,by unfold AN;simp [*],hs⟩))
    ·rintro fs w ⟨x,fM,hx9,hs⟩;refine WE.sub ?_ fM;clear fM;refine .region (.z zm (.z zm (.o (.buildSlice (cells:=Is [x]) hs cV rfl aA fun aaL w hs=>?_))));refine .o (.append (ys:=Is [x]) hs cA rfl rfl hO (.own .here rfl rfl) (iP _) (fun l h=>by simp [Is] at h;omega) ?_);intro v57 en57 w dY hs;rw [←List.map_append] at dY;refine .zn zg (nB (nT ?_));obtain rfl:e=0:=by omega
     exact .mk ⟨H2,_,dC++[x],_,rfl,dq,by simp [B4],fun i hi=>by
      by_cases e:i=k
      ·subst e;exact ⟨_,_,by rw [hq,Int.toNat_natCast];exact hS,by rw [mM,if_neg ai,if_pos ai];exact hx9⟩
      ·rw [mM,if_pos ai];exact has i ai,fun _=>(hS.err aZ Hh).elim (fun h=>h.2) (fun h=>by omega),dY,hs.sb⟩
 ·rintro fr w ⟨H1,vo,dC,en,rfl,az,B4,has,oX,hO,hs⟩;obtain ⟨H4,eH,IW,hs⟩:=hO.dR ai hs .here;exact nT (.af (.z zm (.z zg (.zn zg (.ret (Fin.gU results80 rfl rfl ⟨H4,_,_,_,az.trans eH,rfl,IW,.ok hB (oX ai) B4 has,hs.out⟩))))))
theorem oz{w:World}{s:Srv}{r:List Lg}{a b c d:Value}(hs:St H w σ)(g:SvM H s a b c d)(gl:LnM H l vt vs)(kh:RLg H fX r):
  aaR 79 [svA s a b c d,lnA l vt vs,.agg #[fX],.agg #[I m.lo,I m.hi]] w fun u w'=>∃(H1:cu) (z:RtV) (ks:List Int) (e:Int),HLe H H1∧u= .tuple #[z.agg,I e]∧z.cs.all Value.oneCell'=true∧uo s l r m ks e∧(e=0→RtM H1 s l r m ks z)∧St H1 w' σ:=by
 refine (Ae hs g gl kh).mono ?_;rintro u w' ⟨H1,z,ks,e,hle,hu,ho,hB,h0,hs⟩;exact ⟨H1,z,ks,e,hle,hu,ho,hB,fun he=>by
  obtain ⟨vms,vmk,rfl,h1,h2⟩:=h0 he;subst he;exact ⟨rfl,rfl,g.mono hle,gl.mono hle,kh.mono hle,h1,h2,ho,hB⟩,hs⟩
theorem wW{w:World}{s:Srv}{r:List Lg}{a b c d:Value}(hs:St H w σ)(g:SvM H s a b c d)(gl:LnM H l vt vs)(kh:RLg H fX r):
  aaR 24 [svA s a b c d,lnA l vt vs,.agg #[fX],.agg #[I m.lo,I m.hi]] w fun u w'=>∃H1 v dC e,HLe H H1∧u= .tuple #[v,I e]∧RI H1 v dC∧Dp s l r m dC e∧St H1 w' σ:=by
 refine Cl.o func24 ntmps24 ag4 ?_;refine .af (.bx hs fun b4 w hs=>?_);refine .bx hs fun b5 w hs=>?_
 refine .bx hs fun b6 w hs=>?_
 refine .bx hs fun b7 w hs=>?_
 refine .z zg (.zn zg (.af (.y hs (zls [_,_,_,_,_,_,_,_] bA aM) (.y hs (zls [_,_,_,_] dc bK) (.y hs (zls [_] ek cI) (.y hs (zls [_,_] bJ aB) (.o (.call call79 rfl (oz (s:=s) (l:=l) (m:=m) hs g gl kh) ?_))))))));rintro _ w ⟨H1,z,ks,e,az,rfl,ho,hB,h0,hs⟩;refine .z zm (.z zex (.z zex (.o (.alloc hs qj rfl fun ny w hs=>?_))));refine .o (.aE (vs:=z.cs) hs rfl rfl eV ?_ (hv:=ho));intro w hs;refine .zn zg (.seq (.af (.z zm (.zn fV (.dK rfl (fun iC=>?_) (fun iC=>?_))))))
 ·exact .af (.z zm (.z zg (.zn zg (.ret (rT (Fin.gU results24 rfl rfl ⟨H1,_,[],_,az,rfl,RS.nil H1 1 none 0,.bad hB iC,hs.out⟩))))))
 ·refine .skip (nT (.af (.y hs (zls [_,_,_,_,_,_,_,_,_,_,_,_,_,_,_] A9 eV) ?_)));obtain rfl:e=0:=by omega
  refine .o (.call call80 rfl (pD hs (h0 rfl)) ?_);rintro _ w ⟨H2,v,dC,e,bg,rfl,hR,hA,hs⟩;exact .z zex (.z zex (.z zg (.zn zg (.ret (Fin.gU results24 rfl rfl ⟨H2,_,_,_,az.trans bg,rfl,hR,hA,hs.out⟩)))))
theorem yp{w:World}{v:Value}(hs:St H w σ)(hr:RI H v dC):aaR 86 [v] w fun u w'=>u=I (FN dC)∧St H w' σ:=by
 obtain ⟨a,c,rfl⟩:=RI.shape hr;have hl:=(RI.len hr).2.2;refine Cl.o func86 ntmps86 ag1 ?_;refine .af (.zn zg (.af (.zn zg (.seq (.af (.z zm (.z (de ae) (.zn zm (.for (N:=dC.length) (J:=fun k fr w=>fr=[(3,I (if (2:Int)∈dC.take k then 2 else 1)),(6,.slice a dC.length c)]∧(∀i<k,gi dC i≠0)∧St H w σ) ai ?_ ?_ ?_)))))))))
 ·exact .mk ⟨rfl,fun i hi=>by omega,hs⟩
 ·rintro k fr w hk ⟨rfl,eE,hs⟩;have ht:=dr (bu hk);refine .block (.af (.ixY hs hr rfl rfl ae an (bu (l:=dC) (i:=k) ai) cK ?_));intro ny o10 pM;refine .q hs (aC rfl aj pM) (.zn zg (.af (.zn zm (.block (.af (.z fy (.zn zg (.bh rfl (fun gL=>?_) (fun gL=>?_)))))))))
  ·exact .af (.zn zg (.ret (rB (rB (rT (rB (rT (Fin.bj results86 rfl ⟨by unfold FN;rw [if_pos (by rw [←gL];exact List.mem_of_getElem? (bu hk))],hs⟩))))))))
  ·refine .af (.z fy (.zn zg (.bh rfl (fun e7=>?_) (fun e7=>?_))))
   ·refine .region (.zn zg (nB (nB (nT ?_))));exact .mk ⟨by rw [ht,if_pos (List.mem_append.2 (.inr (by rw [e7];exact .head _)))],fun i hi=>by
     by_cases e:i=k
     ·subst e;exact gL
     ·exact eE i ai,hs⟩
   ·refine .skip (nB (nB (nT ?_)));have e2:(if (2:Int)∈dC.take (k+1) then (2:Int) else 1)=if (2:Int)∈dC.take k then 2 else 1:=by
     have e:(2:Int)∈dC.take (k+1)↔(2:Int)∈dC.take k:=by
      rw [ht,List.mem_append];exact ⟨fun h=>h.elim id fun h=>by rw [List.mem_singleton] at h;exact (e7 h.symm).elim,.inl⟩
     simp only [e]
    exact .mk ⟨by rw [e2],fun i hi=>by
     by_cases e:i=k
     ·subst e;exact gL
     ·exact eE i ai,hs⟩
 ·rintro fr w ⟨rfl,eE,hs⟩;rw [List.take_length];refine nT (.af (.z zm (.zn zg (.ret (Fin.bj results86 rfl ?_)))));have h0:¬(0:Int)∈dC:=fun h=>by
   obtain ⟨i,hi⟩:=List.getElem?_of_mem h;have fb:=(List.getElem?_eq_some_iff.1 hi).1;rw [bu fb] at hi;exact eE i fb (Option.some.inj hi)
  exact ⟨by unfold FN;rw [if_neg h0],hs⟩
theorem rI{w:World}{s:Srv}{r:List Lg}{a b c d:Value}(hs:St H w σ)(g:SvM H s a b c d)(gl:LnM H l vt vs)(kh:RLg H fX r):
  aaR 26 [svA s a b c d,lnA l vt vs,.agg #[fX],.agg #[I m.lo,I m.hi]] w fun u w'=>∃H1 n e,HLe H H1∧u= .tuple #[I n,I e]∧Rq s l r m n e∧St H1 w' σ:=by
 refine Cl.o func26 ntmps26 ag4 ?_;refine .af (.bx hs fun b4 w hs=>?_);refine .bx hs fun b5 w hs=>?_
 refine .bx hs fun b6 w hs=>?_
 refine .bx hs fun b7 w hs=>?_
 refine .z zg (.zn zg (.af (.y hs (zls [_,_,_,_,_,_,_,_] bA aM) (.y hs (zls [_,_,_,_] dc bK) (.y hs (zls [_] ek cI) (.y hs (zls [_,_] bJ aB) (.o (.call call24 rfl (wW (s:=s) (l:=l) (m:=m) hs g gl kh) ?_))))))));rintro _ w ⟨H1,v,dC,e,az,rfl,hR,hA,hs⟩;refine .z zm (.z zex (.z zex (.z zg (.zn zg (.seq (.af (.z zm (.zn fV (.dK rfl (fun iC=>?_) (fun iC=>?_))))))))))
 ·exact .af (.z zm (.z zg (.zn zg (.ret (rT (Fin.gU results26 rfl rfl ⟨H1,_,_,az,rfl,.bad hA iC,hs.out⟩))))))
 ·refine .skip (nT (.af (.z zm ?_)));obtain rfl:e=0:=by omega
  refine .o (.call call86 rfl (yp hs hR) ?_);rintro _ w ⟨rfl,hs⟩;exact .z zg (.zn zg (.ret (Fin.gU results26 rfl rfl ⟨H1,_,_,az,rfl,.ok hA,hs.out⟩)))
set_option maxHeartbeats 1000000 in
theorem Bi{w:World}{s:Srv}{r:List Lg}{a b c d:Value}(hs:St H w σ)(g:SvM H s a b c d)(gl:LnM H l vt vs)(kh:RLg H fX r):
  aaR 28 [svA s a b c d,lnA l vt vs,.agg #[fX]] w fun u w'=>∃H1 n e,HLe H H1∧u= .tuple #[I n,I e]∧Dh s l r n e∧St H1 w' σ:=by
 refine Cl.o func28 ntmps28 ag3 ?_;refine .af (.bx hs fun b3 w hs=>?_);refine .bx hs fun b4 w hs=>?_
 refine .bx hs fun b5 w hs=>?_
 refine .z zg (.zn zg (.af (.y hs (zls [_,_,_,_,_,_,_,_] bA aM) (.y hs (zls [_,_,_,_] dc bK) (.y hs (zls [_] ek cI) (.z (zbd [I 0,I 0] bX) (.o (.call call79 rfl (oz (s:=s) (l:=l) (m:=⟨0,0⟩) hs g gl kh) ?_))))))));rintro _ w ⟨H1,z,ks,e,az,rfl,ho,hB,h0,hs⟩;refine .z zm (.z zex (.z zex (.o (.alloc hs qj rfl fun b8 w hs=>?_))));refine .o (.aE (vs:=z.cs) hs rfl rfl eV ?_ (hv:=ho));intro w hs;refine .zn zg (.seq (.af (.z zm (.zn fV (.dK rfl (fun fc=>?_) (fun fc=>?_))))))
 ·exact .af (.z zm (.z zg (.zn zg (.ret (rT (Fin.gU results28 rfl rfl ⟨H1,_,_,az,rfl,.bad hB fc,hs.out⟩))))))
 ·refine .skip (nT (.af (.z zg (.zn zg (.seq (.af ?_))))));obtain rfl:e=0:=by omega
  obtain ⟨s',l',a',b',c',d',t',n',lg',ms',mr'⟩:=z;obtain ⟨rfl,rfl,-,-,xF,y0,En,No,-⟩:=h0 rfl;dsimp only at xF y0 En;obtain ⟨qA,qy,rfl⟩:=xF.shape;obtain ⟨HP,HK,rfl⟩:=RI.shape En;obtain ⟨aZ,hl,oB,hm,lB,rL⟩:=hB.ok';have hn:=oB.many;refine .z (zfa gM) (.y hs (zld dH) (.z (de aF) (.zn zm (.for (N:=r.length) (J:=fun k fr w=>∃H2 dd mu,fr=[(10,I mu),(11,I (a8 (fun i=>(lg0 r i).blo) k)),(28,.slice qA r.length qy),(8,Pt b8),(3,Pt b3)]∧HLe H1 H2∧(∀i<k,∃hi,oa s' (gi ks i).toNat (lg0 r i).dlo (lg0 r i).dhi (dd i) hi 0)∧R2 dd (fun i=>(lg0 r i).blo) k mu∧((-300000000≤mu∧mu≤1000000000000)∧0≤a8 (fun i=>(lg0 r i).blo) k∧a8 (fun i=>(lg0 r i).blo) k≤k*1000000000000)∧(0<k→s'.sys.Sound)∧St H2 w (.blk b8 (RtV.cs ⟨s',l',a',b',c',d',t',n',.slice qA r.length qy,ms',.slice HP ks.length HK⟩):: .blk b3 (svC s' a b c d)::σ)) ai ?_ ?_ ?_))))
  ·exact .mk ⟨H1,fun _=>0,1000000000000,rfl,HLe.refl _,fun i hi=>by omega,.inl ⟨fun i hi=>by omega,rfl⟩,by simp [a8],fun h=>by omega,hs.sb⟩
  ·rintro k fr w hk ⟨H2,dd,mu,rfl,bg,Va,Vd,sZ,oX,hs⟩;have hx:=kC (l:=r) hk;have Bm:=(oB.leg k hk).1.dense;have Vc:=(oB.leg k hk).1.burn;unfold iZ at Vc;obtain ⟨q,hq,Hh⟩:=hB.mark hk;have Zv:a8 (fun i=>(lg0 r i).blo) (k+1)=a8 (fun i=>(lg0 r i).blo) k+(lg0 r k).blo:=rfl;generalize hSe:a8 (fun i=>(lg0 r i).blo) k=S at*;refine .block (.af (.z zm (.ixX (enc:=Lg.c) hs (xF.mono bg) rfl rfl aF bw hx cK ?_)));intro Uq o33 mJ;refine .q hs (bQ (vs:=(Lg.c (lg0 r k))) rfl mV bw mJ) (.o (.alloc hs eX rfl fun kP w hs=>?_));refine .z zg (.o (.aE (vs:=(lg0 r k).c) hs rfl rfl bw fun w hs=>?_));change St _ _ (.blk kP (lgC (lg0 r k))::_) at hs;refine .nil (.cut (fun fs w=>∃H3 lo hi e oh,kG fs ⟨68,[],[(15,I e),(14,Pt oh),(13,Pt kP),(10,I mu),(11,I S),(28,.slice qA r.length qy),(8,Pt b8),(3,Pt b3),(30,I (k:Int)),(29,I (r.length:Int))]⟩∧HLe H2 H3∧oa s' q (lg0 r k).dlo (lg0 r k).dhi lo hi e∧St H3 w (.blk oh [I lo,I hi]:: .blk kP (lgC (lg0 r k)):: .blk b8 (RtV.cs ⟨s',l',a',b',c',d',t',n',.slice qA r.length qy,ms',.slice HP ks.length HK⟩):: .blk b3 (svC s' a b c d)::σ)) ?_ ?_)
   ·refine .draw mix rfl hs fun w hs=>?_
    refine .ys 0 rfl hs [_,_,_,_,_,_,_,_] bA aM ?_;refine .z 1 rfl (zfa iM) ?_;refine .y 2 rfl hs aq ?_;refine .z 3 rfl zm ?_;refine .ixX (enc:=fun x=>[I x]) (i:=4) hs rfl aA .none (RS.mono En bg) rfl rfl ae an (bu (l:=ks) (i:=k) ai) rfl ?_;intro Up o40 nN;replace nN:=bD.one nN;refine .y 5 rfl hs aj ?_;refine .z 6 rfl (zfa ep) ?_;refine .ys 7 rfl hs [_,_] bJ aB ?_;refine .e2 (i:=8) (j:=12) aA rfl rfl rfl rfl .none .none hs ?_ ?_
    ·rw [hq];refine .call call88 rfl (fm (s:=s') hs (g.mono (az.trans bg)) aZ Bm) ?_;rintro _ w ⟨H3,lo,hi,e,bZ,rfl,hS,hs⟩;refine .go (.zw 9 rfl zm ?_);refine .z 10 rfl zex ?_;refine .z 11 rfl zex ?_;refine .E 12 hs ?_;refine .alloc hs cZ rfl ?_;intro oh w hs;refine .go (.E 13 hs ?_);refine .aE (vs:=[_,_]) hs rfl rfl aB ?_;intro w hs;refine .go (.zw 14 rfl zg ?_);refine .D hs ?_;exact nT ⟨H3,lo,hi,e,oh,aH,bZ,hS,hs.sb⟩
    ·refine .alloc hs cZ rfl ?_;intro oh w hs;refine .go (.E 8 hs ?_);rw [hq];refine .call call88 rfl (fm (s:=s') hs (g.mono (az.trans bg)) aZ Bm) ?_;rintro _ w ⟨H3,lo,hi,e,bZ,rfl,hS,hs⟩;refine .go (.zw 9 rfl zm ?_);refine .z 10 rfl zex ?_;refine .z 11 rfl zex ?_;refine .E 13 hs ?_;refine .aE (vs:=[_,_]) hs rfl rfl aB ?_;intro w hs;refine .go (.zw 14 rfl zg ?_);refine .D hs ?_;exact nT ⟨H3,lo,hi,e,oh,aH,bZ,hS,hs.sb⟩
   ·rintro fs w ⟨H3,lo,hi,e,oh,fM,bZ,hS,hs⟩;refine WE.sub ?_ fM;clear fM;have ee:=az.trans (bg.trans bZ);have hSb:=hS.bd Bm;refine .seq (.af (.z zm (.zn fV (.dK rfl (fun mI=>?_) (fun mI=>?_)))))
    ·exact .af (.z zm (.z zg (.zn zg (.ret (rT (rB (rT (rB (rT (Fin.gU results28 rfl rfl ⟨H3,_,_,ee,rfl,by rcases hS.err aZ Hh with h|h;exact (mI h.1).elim;rw [h.1];exact .fls hB h.2.1,hs.out⟩))))))))))
    ·refine .skip (nT (.seq (.af (.z (zfa bp) ?_))));obtain rfl:e=0:=by omega
     have RD:∀i<k+1,∃hi,oa s' (gi ks i).toNat (lg0 r i).dlo (lg0 r i).dhi (Mo dd k lo i) hi 0:=fun i hi=>by
      by_cases e:i=k
      ·subst e;rw [Cp,hq,Int.toNat_natCast];exact ⟨_,hS⟩
      ·rw [Co _ _ ai];exact Va i ai
     have Nl:s'.sys.Sound:=(hS.err aZ Hh).elim (fun h=>h.2) (fun h=>by omega);refine .y hs (zld aj) (.zn fN (.bh rfl (fun vB=>?_) (fun vB=>?_)))
     ·exact .region (.zn zg (nT (.af (.z zm (.z (zfa bp) (.y hs (zld aj) (.z zm (.z cH (.z Dq (.zn zg (.region (.z zm (.z (zfa gD) (.z (zfa bp) (.y hs (zld aj) (.z cH (.zn zg (nB (nT (.mk ⟨H3,Mo dd k lo,min (-1) (lo+S),by rw [Zv],bg.trans bZ,RD,.neg vB,ai,fun _=>Nl,hs.sb⟩))))))))))))))))))))
     ·exact .skip (nT (.af (.z zm (.z (zfa bp) (.y hs (zld aj) (.z zm (.z cH (.z Dq (.zn zg (.region (.z zm (.z (zfa gD) (.z (zfa bp) (.y hs (zld aj) (.z cH (.zn zg (nB (nT (.mk ⟨H3,Mo dd k lo,min mu (lo+S),by rw [Zv],bg.trans bZ,RD,by rw [←hSe];exact Vd.pos ai,ai,fun _=>Nl,hs.sb⟩)))))))))))))))))))
  ·rintro fr w ⟨H2,dd,mu,rfl,bg,Va,Vd,sZ,oX,hs⟩;refine nT (.seq (.af (.z zm (.zn fN (.bh rfl (fun tT=>?_) (fun tT=>?_))))))
   ·refine .af (.z zg (.zn zg (.ret (rT (Fin.gU results28 rfl rfl ?_)))))
    rcases Vd with ⟨h1,h2⟩|⟨⟨i,h1,h3⟩,h2⟩
    ·exfalso;have key:∀n,n≤r.length→0≤zB dd (fun i=>(lg0 r i).blo) n:=fun n=>by
      induction n with
      |zero=>intro _;simp [zB]
      |succ n ih=>
       intro hn;have:=ih ai;have:=h1 n ai;have:0≤a8 (fun i=>(lg0 r i).blo) n:=dx fun i hi=>(oB.leg i ai).1.burn.1
       simp only [zB];omega
     have:=key _ (Nat.le_refl _);omega
    ·obtain ⟨hi,hS⟩:=Va i h1;exact ⟨H2,_,_,az.trans bg,rfl,.none hB (oX ai) h1 hS h3,hs.out⟩
   ·refine .skip (nT (.af (.z zm (.z zg (.zn zg (.ret (Fin.gU results28 rfl rfl ?_)))))))
    rcases Vd with ⟨h1,h2⟩|⟨_,h2⟩
    ·rw [h2];exact ⟨H2,_,_,az.trans bg,rfl,.ok hB (oX ai) fun i hi=>⟨Va i hi,h1 i hi⟩,hs.out⟩
    ·omega
set_option maxHeartbeats 1000000 in
theorem sS{w:World}{s:Srv}{r:List Lg}{x:Wit}{a b c d:Value}(hs:St H w σ)(g:SvM H s a b c d)(gl:LnM H l vt vs)(kh:RLg H fX r)(gh:RT H vh x.rows):
  aaR 32 [svA s a b c d,lnA l vt vs,.agg #[fX],.agg #[I m.lo,I m.hi],.agg #[I x.leg,I x.dense,I x.tf,vh]] w fun u w'=>∃H1 e,HLe H H1∧u=I e∧Md s l r m x e∧St H1 w' σ:=by
 refine Cl.o func32 ntmps32 ag5 ?_;refine .af (.bx hs fun b5 w hs=>?_);refine .bx hs fun b6 w hs=>?_
 refine .bx hs fun b7 w hs=>?_
 refine .bx hs fun b8 w hs=>?_
 refine .bx hs fun b9 w hs=>?_
 refine .zn zg (.af (.y hs (zls [_,_,_,_,_,_,_,_] bA aM) (.y hs (zls [_,_,_,_] dc bK) (.y hs (zls [_] ek cI) (.y hs (zls [_,_] bJ aB) (.o (.call call79 rfl (oz (s:=s) (l:=l) (m:=m) hs g gl kh) ?_)))))));rintro _ w ⟨H1,z,ks,e,az,rfl,ho,hB,h0,hs⟩;refine .z zm (.z zex (.z zex (.o (.alloc hs qj rfl fun Cd w hs=>?_))));refine .o (.aE (vs:=z.cs) hs rfl rfl eV ?_ (hv:=ho));intro w hs;refine .zn zg (.seq (.af (.z zm (.zn fV (.dK rfl (fun iV=>?_) (fun iV=>?_))))))
 ·exact .af (.z zm (.zn zg (.ret (rT (Fin.bj Ji rfl ⟨H1,_,az,rfl,.bad hB iV,hs.out⟩)))))
 ·refine .skip (nT (.seq (.af ?_)));obtain rfl:e=0:=by omega
  obtain ⟨s',l',a',b',c',d',t',n',lg',ms',mr'⟩:=z;obtain ⟨rfl,rfl,g',-,xF,y0,En,No,-⟩:=h0 rfl;dsimp only at g' xF y0 En;obtain ⟨qA,qy,rfl⟩:=xF.shape;obtain ⟨Df,C9,rfl⟩:=y0.shape;obtain ⟨HP,HK,rfl⟩:=RI.shape En;obtain ⟨aZ,hl,oB,hm,lB,rL⟩:=hB.ok';have hn:=oB.many;have KK:=jW m r r.length;replace gh:=gh.mono az;refine .z (zfa cN) (.y hs (zld aj) (.z (zfa gM) (.y hs (zld dH) (.z (de aF) (.z gx (.o (.call mz rfl (cM hs) ?_)))))));rintro _ w ⟨rfl,hs⟩;refine .z fU (.z zm (.bif (t':=36) rfl (fun Li=>?_) (fun Li=>?_)))
  ·exact .Fs 5 8 false (.zn zpT (.cT (.af (.zn zg (.ret (rT (Fin.bj Ji rfl ⟨H1,_,az,rfl,.no hB (fun h=>by have:=h.leg;simp_all),hs.out⟩)))))))
  ·refine .T (.y hs (zls [_,_,_,_,_,_,_,_] bA aM) (.T (.z (zfa gV) (.T (.y hs (zls [_] jo ea) (.T (.o (.call call65 rfl (qL (s:=s') (rows:=x.rows) hs (g.mono az).st (g.mono az).wa (g.mono az).rd (g.mono az).cm gh) ?_))))))));rintro _ w ⟨H2,e,bg,rfl,QQ,hs⟩;have dq:=az.trans bg;refine .T (.z fV (.zn zpF (.dK rfl (fun tV=>?_) (fun tV=>?_))))
   ·exact .af (.zn zg (.ret (rT (Fin.bj Ji rfl ⟨H2,_,dq,rfl,.no hB (fun h=>tV (QQ.uniq h.hull)),hs.out⟩))))
   ·refine .skip (nT (.cut (fun fs w=>∃kP oh,kG fs ⟨101,[],[(14,Pt oh),(13,Pt kP),(11,Pt Cd),(9,Pt b9)]⟩∧St H2 w (.blk oh (kg m r x.leg.toNat).c:: .blk kP (lg0 r x.leg.toNat).c:: .blk Cd (RtV.cs ⟨s',l',a',b',c',d',t',n',.slice qA r.length qy,.slice Df (msL m r r.length).length C9,.slice HP ks.length HK⟩):: .blk b9 [I x.leg,I x.dense,I x.tf,vh]::σ)) ?_ ?_))
    ·refine .draw mix rfl hs fun w hs=>?_
     have IJ:0≤x.leg∧x.leg≤(r.length:Int) - 1:=by simpa using Li
     obtain rfl:e=0:=by omega
     have fb:x.leg.toNat<r.length:=by omega
     have sV:=kC (l:=r) fb;have yw:=wS m r (k:=r.length) (i:=x.leg.toNat) ai;refine .zw 0 rfl (zfa gM) ?_;refine .y 1 rfl hs dH ?_;refine .z 2 rfl (zfa cN) ?_;refine .y 3 rfl hs aj ?_;refine .ixX (enc:=Lg.c) (i:=4) hs rfl aA .none (RS.mono xF bg) rfl rfl aF bw sV ai ?_;intro Rf o47 lC;refine .r (i:=5) hs rfl aA .none (bQ (vs:=(lg0 r x.leg.toNat).c) rfl mV bw lC) ?_;refine .zw 6 rfl (zfa lk) ?_;refine .y 7 rfl hs isAgg80 ?_;refine .z 8 rfl (zfa cN) ?_;refine .y 9 rfl hs aj ?_;refine .ixX (enc:=Rng.c) (i:=10) hs rfl aA .none (RS.mono y0 bg) rfl rfl eD aB yw ai ?_;intro Yr o53 CX;refine .r (i:=11) hs rfl aA .none (bQ (vs:=(kg m r x.leg.toNat).c) rfl bJ aB CX) ?_;refine .e2 (i:=12) (j:=13) aA rfl rfl rfl rfl .none .none hs ?_ ?_
     ·refine .alloc hs eX rfl ?_;intro kP w hs;refine .go (.E 13 hs ?_);refine .alloc hs cZ rfl ?_;intro oh w hs;refine .go (.E 14 hs ?_);refine .aE (vs:=(lg0 r x.leg.toNat).c) hs rfl rfl bw ?_;intro w hs;refine .go (.E 15 hs ?_);refine .aE (vs:=(kg m r x.leg.toNat).c) hs rfl rfl aB ?_;intro w hs;exact .go (.D hs (nT ⟨kP,oh,aH,hs.sb⟩))
     ·refine .alloc hs cZ rfl ?_;intro oh w hs;refine .go (.E 12 hs ?_);refine .alloc hs eX rfl ?_;intro kP w hs;refine .go (.E 14 hs ?_);refine .aE (vs:=(lg0 r x.leg.toNat).c) hs rfl rfl bw ?_;intro w hs;refine .go (.E 15 hs ?_);refine .aE (vs:=(kg m r x.leg.toNat).c) hs rfl rfl aB ?_;intro w hs;exact .go (.D hs (nT ⟨kP,oh,aH,hs.sb⟩))
    ·rintro fs w ⟨kP,oh,fM,hs⟩;refine WE.sub ?_ fM;clear fM;have IJ:0≤x.leg∧x.leg≤(r.length:Int) - 1:=by simpa using Li
     obtain rfl:e=0:=by omega
     have fb:x.leg.toNat<r.length:=by omega
     obtain ⟨q,hq,Hh⟩:=hB.mark fb;have Bm:=(oB.leg _ fb).1.dense;unfold gw at Bm;change St _ _ (.blk oh [I (kg m r x.leg.toNat).lo,I (kg m r x.leg.toNat).hi]:: .blk kP (lgC (lg0 r x.leg.toNat))::_) at hs;refine .seq (.af (.z (zfa ff) (.y hs (zld aj) (.z (zfa ep) (.z (zfa bp) (.y hs (zld aj) (.z (zfa ep) (.z (zfa bI) (.y hs (zld aj) (.o (.call mz rfl (cM hs) ?_)))))))))));rintro _ w ⟨rfl,hs⟩;refine .z fU (.z zm (.bif (t':=65) rfl (fun IT=>?_) (fun IT=>?_)))
     ·exact .Fs 8 10 false (.zn zpT (.cT (.af (.zn zg (.ret (rT (Fin.bj Ji rfl ⟨H2,_,dq,rfl,.no hB (fun h=>by have:=h.dense;simp_all),hs.out⟩)))))))
     ·refine .T ?_;refine .z (zfa gW) (.T (.y hs (zld aj) (.T (.z (zfa bp) (.T (.y hs (zld aj) (.T (.z (zfa bI) (.T (.y hs (zld aj) (.T (.o (.call mz rfl (cM hs) ?_)))))))))))));rintro _ w ⟨rfl,hs⟩;refine .T (.z fU (.zn zpF (.cond rfl (fun IN=>?_) (fun IN=>?_))))
      ·exact .af (.zn zg (.ret (rT (Fin.bj Ji rfl ⟨H2,_,dq,rfl,.no hB (fun h=>by have:=h.tf;simp_all),hs.out⟩))))
      ·refine .skip (nT (.af (.zn zg (.cut (fun fs w=>∃n H3,kG fs ⟨101,[],[(15,I n),(9,Pt b9)]⟩∧HLe H H3∧HlR s' x.rows q n∧(-7000000000≤n∧n≤7000000000)∧St H3 w (.blk b9 [I x.leg,I x.dense,I x.tf,vh]::σ)) ?_ ?_))))
       ·refine .af (.z (zfa iM) (.y hs (zld aq) (.z (zfa cN) (.y hs (zld aj) (.ixX (enc:=fun x=>[I x]) hs (RS.mono En bg) rfl rfl ae an (bu (l:=ks) (i:=x.leg.toNat) ai) ai ?_)))));intro b79 o79 vA;replace vA:=bD.one vA;rw [hq] at vA;refine .y hs (zld aj) (.zn zg (.af (.z zm (.zn kU (.bh rfl (fun Tp=>?_) (fun Tp=>?_))))))
        ·refine .draw mix rfl hs fun w hs=>?_
         refine .zw 0 rfl (zfa nQ) ?_;refine .z 1 rfl (zfa aW) ?_;refine .ys 2 rfl hs [_,_,_,_,_,_] bE aP ?_;refine .z 3 rfl (zfa gV) ?_;refine .ys 4 rfl hs [_] jo ea ?_;refine .z 5 rfl zm ?_;refine .E 6 hs ?_;refine .call call98 rfl (jr hs) ?_;rintro _ w ⟨rfl,hs⟩;refine .go (.E 7 hs ?_);refine .call call64 rfl (uV (s:=s'.sp) (rows:=x.rows) (q:=⟨1,0,q⟩) hs (g'.mono bg).st (g'.mono bg).wa (gh.mono bg)) ?_;rintro _ w ⟨H3,n,f,bZ,rfl,hV,hs⟩;refine .go (.zw 8 rfl zm ?_);refine .z 9 rfl zex ?_;refine .z 10 rfl zex ?_;refine .z 11 rfl zg ?_;refine .D hs ?_;refine nT ?_;obtain rfl:f=0:=by
          have Tj:=QQ.OH
          cases hV with
          |space h=>exact (h aZ.early.1).elim
          |hull _ h=>exact (h Tj).elim
          |what _ _ h=>exact (h (CB (v:=s') ai Hh)).elim
          |ok=>rfl
         exact ⟨n,H3,aH,dq.trans bZ,.up ai hV,hV.bd rfl,hs.sb⟩
        ·exact .skip (nT ⟨0,H2,aH,dq,.zero ai,ai,hs.sb⟩)
       ·rintro fs w ⟨n,H3,fM,ee,T8,WJ,hs⟩;refine WE.sub ?_ fM;clear fM;have Xd:(lg0 r x.leg.toNat).dlo≤x.dense∧x.dense≤(lg0 r x.leg.toNat).dhi:=by simpa using IT
        have WL:(kg m r x.leg.toNat).lo≤x.tf∧x.tf≤(kg m r x.leg.toNat).hi:=by simpa using IN
        refine .seq (.seq (.draw mix rfl hs fun w hs=>?_));refine .zw 0 rfl (zfa gW) ?_;refine .y 1 rfl hs aj ?_;refine .z 2 rfl zm ?_;refine .z 3 rfl (zfa ff) ?_;refine .y 4 rfl hs aj ?_;refine .E 5 hs ?_;refine .call call99 rfl (fZ hs ai ai) ?_;rintro _ w ⟨rfl,hs⟩;refine .go (.zw 6 rfl oY ?_);refine .D hs ?_;refine (.bh rfl (fun nP=>?_) (fun nP=>?_))
        ·refine .af (.zn zg (.ret (rT (Fin.bj Ji rfl ?_))));exact ⟨H3,_,ee,rfl,.no hB (fun h=>by
          obtain ⟨n',g1,g2⟩:=h.sinks;rw [hq,Int.toNat_natCast] at g1;rw [←T8.uniq g1] at g2;omega),hs.out⟩
        ·exact .skip (nT (.af (.zn zg (.ret (Fin.bj Ji rfl ⟨H3,_,ee,rfl,.ok hB ⟨IJ,QQ,Xd,WL,n,by rw [hq,Int.toNat_natCast];exact T8,ai⟩,hs.out⟩)))))
theorem vj{w:World}(hs:St H w σ):
  aaR 71 [] w fun u w'=>∃H1 a b c d vt vs fX,HLe H H1∧u= .tuple #[.agg #[I 1,I 1,a,b,I 100,I 200,c,d],.agg #[I 1000,I 1200,vt,vs],.agg #[fX]]∧SvM H1 exV a b c d∧LnM H1 tm vt vs∧RLg H1 fX pS∧St H1 w' σ:=by
 refine Cl.of func71 rfl ntmps71 bH (De) (.af (.o (.alloc hs iQ rfl fun b0 w hs=>?_)));refine .o (.alloc hs oU rfl fun b1 w hs=>?_);refine .o (.alloc hs s9 rfl fun b2 w hs=>?_);refine .nil (.af (.o (.buildSlice (cells:=Is [0,1000]) hs mq rfl aA fun b8 w hs=>?_)));refine .o (.buildSlice (cells:=Is [0,1000]) hs mq rfl aA fun b9 w hs=>?_);refine .z (zbd [_,_] xL) (.z (zbd [_,_,_,_,_,_] vW) (.o (.alloc hs oT rfl fun b3 w hs=>?_)));refine .o (.aE (vs:=[_,_,_,_,_,_]) hs rfl rfl aP fun w hs=>?_);refine .nil (.af (.y hs (zls [_,_,_,_,_,_] bE aP) (.z (zbd [_,_,_,_,_,_,_] jR) (.z (zbd [_,_,_,_,_,_,_] jR) (.z (zbd [_,_,_,_,_,_,_] jR) (.z (zbd [_,_,_,_,_,_,_] jR) (.o (.buildSlice (cells:=(rdc RY).flatten) hs s8 rfl aA fun AL w hs=>?_))))))));refine .z (zbd [_,_,_,_,_,_] si) (.o (.buildSlice (cells:=(cmc exV.cs).flatten) hs m9 rfl aA fun pU w hs=>?_));refine .z (zbd (vs:=[(0,.agg #[I 1,I 1,.slice (some ⟨b8,0,none⟩) 2 2,.slice (some ⟨b9,0,none⟩) 2 2,I 100,I 200]),(1,.slice (some ⟨AL,0,none⟩) 4 4),(2,.slice (some ⟨pU,0,none⟩) 1 1)]) [I 1,I 1,.slice (some ⟨b8,0,none⟩) 2 2,.slice (some ⟨b9,0,none⟩) 2 2,I 100,I 200,.slice (some ⟨AL,0,none⟩) 4 4,.slice (some ⟨pU,0,none⟩) 1 1] tr rfl aA) (.o (.alloc hs iQ rfl fun b4 w hs=>?_));refine .o (.aE (vs:=[_,_,_,_,_,_,_,_]) hs rfl rfl aM fun w hs=>?_);refine .nil (.af (.z (zbd [_,_] iO) (.z (zbd [_,_] iO) (.o (.buildSlice (cells:=(fbc tm.table).flatten) hs qX rfl aA fun I2 w hs=>?_)))));refine .z (zbd [_,_,_,_] tt) (.o (.buildSlice (cells:=(snc tm.seasons).flatten) hs nU rfl aA fun Dy w hs=>?_));refine .z (zbd (vs:=[(0,I 1000),(1,I 1200),(2,.slice (some ⟨I2,0,none⟩) 2 2),(3,.slice (some ⟨Dy,0,none⟩) 1 1)]) [I 1000,I 1200,.slice (some ⟨I2,0,none⟩) 2 2,.slice (some ⟨Dy,0,none⟩) 1 1] vX rfl aA) (.o (.alloc hs oU rfl fun b5 w hs=>?_));refine .o (.aE (vs:=[_,_,_,_]) hs rfl rfl bK fun w hs=>?_);refine .nil (.af (.z (zbd [_,_] bX) (.o (.alloc hs cZ rfl fun b6 w hs=>?_))));refine .o (.aE (vs:=[_,_]) hs rfl rfl aB fun w hs=>?_);refine .nil (.af (.z (zbd [_,_] bX) (.o (.alloc hs cZ rfl fun b7 w hs=>?_))));refine .o (.aE (vs:=[_,_]) hs rfl rfl aB fun w hs=>?_);refine .nil (.cut (fun fs w=>∃By,kG fs ⟨39,[],[(2,Pt b2),(1,Pt b1),(0,Pt b0)]⟩∧St H w (.blk b2 [.slice (some ⟨By,0,none⟩) 2 2]:: .blk b1 [I 1000,I 1200,.slice (some ⟨I2,0,none⟩) 2 2,.slice (some ⟨Dy,0,none⟩) 1 1]:: .blk b0 [I 1,I 1,.slice (some ⟨b8,0,none⟩) 2 2,.slice (some ⟨b9,0,none⟩) 2 2,I 100,I 200,.slice (some ⟨AL,0,none⟩) 4 4,.slice (some ⟨pU,0,none⟩) 1 1]:: .blk By (lgc pS).flatten:: .blk Dy (snc tm.seasons).flatten:: .blk I2 (fbc tm.table).flatten:: .blk pU (cmc exV.cs).flatten:: .blk AL (rdc RY).flatten:: .blk b9 (Is [0,1000]):: .blk b8 (Is [0,1000])::σ)) ?_ ?_)
 ·refine .draw mix rfl hs fun w hs=>?_
  refine .ys 0 rfl hs [_,_,_,_,_,_,_,_] bA aM ?_;refine .ys 1 rfl hs [_,_,_,_] dc bK ?_;refine .ys 2 rfl hs [_,_] bJ aB ?_;refine .ys 3 rfl hs [_,_] bJ aB ?_;refine .z 4 rfl (zbd (lg0 pS 0).c nV rfl aA) ?_;refine .ys 5 rfl hs [_,_] bJ aB ?_;refine .ys 6 rfl hs [_,_] bJ aB ?_;refine .z 7 rfl (zbd (lg0 pS 1).c nV rfl aA) ?_;refine .e2 (i:=8) (j:=10) aA rfl rfl rfl rfl .none .none hs ?_ ?_
  ·refine .buildSlice (cells:=(lgc pS).flatten) hs mT rfl aA ?_;intro By w hs;refine .go (.zw 9 rfl (zbd [_] qe) (.E 10 hs ?_));refine .aE (vs:=[_,_,_,_,_,_,_,_]) hs rfl rfl aM ?_;intro w hs;refine .go (.E 11 hs ?_);refine .aE (vs:=[_,_,_,_]) hs rfl rfl bK ?_;intro w hs;refine .go (.E 12 hs ?_);refine .aE (vs:=[_]) hs rfl rfl cI ?_;intro w hs;exact .go (.D hs (nT ⟨By,aH,hs.sb⟩))
  ·refine .aE (vs:=[_,_,_,_,_,_,_,_]) hs rfl rfl aM ?_;intro w hs;refine .go (.e2 (i:=8) (j:=11) aA rfl rfl rfl rfl .none .none hs ?_ ?_)
   ·refine .buildSlice (cells:=(lgc pS).flatten) hs mT rfl aA ?_;intro By w hs;refine .go (.zw 9 rfl (zbd [_] qe) (.E 11 hs ?_));refine .aE (vs:=[_,_,_,_]) hs rfl rfl bK ?_;intro w hs;refine .go (.E 12 hs ?_);refine .aE (vs:=[_]) hs rfl rfl cI ?_;intro w hs;exact .go (.D hs (nT ⟨By,aH,hs.sb⟩))
   ·refine .aE (vs:=[_,_,_,_]) hs rfl rfl bK ?_;intro w hs;refine .go (.E 8 hs ?_);refine .buildSlice (cells:=(lgc pS).flatten) hs mT rfl aA ?_;intro By w hs;refine .go (.zw 9 rfl (zbd [_] qe) (.E 12 hs ?_));refine .aE (vs:=[_]) hs rfl rfl cI ?_;intro w hs;exact .go (.D hs (nT ⟨By,aH,hs.sb⟩))
 ·rintro fs w ⟨By,fM,hs⟩;refine WE.sub ?_ fM;clear fM;refine .ret ?_;obtain ⟨H1,g1,r1,hs⟩:=cU.dR (xs:=[0,1000]) (v:= .slice (some ⟨b8,0,none⟩) 2 2) (.full rfl) bH hs dy;obtain ⟨H2,g2,r2,hs⟩:=cU.dR (xs:=[0,1000]) (v:= .slice (some ⟨b9,0,none⟩) 2 2) (.full rfl) bH hs dy;obtain ⟨H3,g3,r3,hs⟩:=cU.dh (m:=7) (cs:=rdc RY) (v:= .slice (some ⟨AL,0,none⟩) 4 4) (.full aA) (lS _) ai eu hs dy;obtain ⟨H4,g4,r4,hs⟩:=cU.dh (m:=6) (cs:=cmc exV.cs) (v:= .slice (some ⟨pU,0,none⟩) 1 1) (.full aA) (xh _) ai eu hs dy;obtain ⟨H5,g5,r5,hs⟩:=cU.dh (m:=2) (cs:=fbc tm.table) (v:= .slice (some ⟨I2,0,none⟩) 2 2) (.full aA) (NU _) ai eu hs dy;obtain ⟨H6,g6,r6,hs⟩:=cU.dh (m:=4) (cs:=snc tm.seasons) (v:= .slice (some ⟨Dy,0,none⟩) 1 1) (.full aA) (DQ _) ai eu hs dy;obtain ⟨H7,g7,r7,hs⟩:=cU.dh (m:=7) (cs:=lgc pS) (v:= .slice (some ⟨By,0,none⟩) 2 2) (.full aA) (FK _) ai eu hs dy;have k6:=g6.trans g7;have k5:=g5.trans k6;have k4:=g4.trans k5;have k3:=g3.trans k4;have k2:=g2.trans k3;exact Fin.iT [] [] hs fun w hs=>⟨_,results3 results71 (dp (vs:=[I 1,I 1,.slice (some ⟨b8,0,none⟩) 2 2,.slice (some ⟨b9,0,none⟩) 2 2,I 100,I 200,.slice (some ⟨AL,0,none⟩) 4 4,.slice (some ⟨pU,0,none⟩) 1 1]) hs rfl bA aM) (dp (vs:=[I 1000,I 1200,.slice (some ⟨I2,0,none⟩) 2 2,.slice (some ⟨Dy,0,none⟩) 1 1]) hs rfl dc bK) (dp (vs:=[.slice (some ⟨By,0,none⟩) 2 2]) hs rfl ek cI),H7,_,_,_,_,_,_,_,g1.trans k2,rfl,⟨r1.mono k2,r2.mono k3,r3.mono k4,r4.mono k5⟩,⟨r5.mono k6,r6.mono g7⟩,r7,hs.out⟩
set_option maxRecDepth 100000 in
theorem Ih:Tryz.prog.stoodInHeld 42=false:=by kernel_rfl
set_option maxRecDepth 100000 in
theorem Ii:Tryz.prog.eqGuardType Tryz.prog.depth 42=false:=by kernel_rfl
set_option maxHeartbeats 4000000 in
theorem Ah{w:World}(hs:St H w σ):
  aaR 18 [] w fun u w'=>u= .bool true∧∃H1,HLe H H1∧St H1 w' σ:=by
 refine Cl.of func18 rfl ntmps18 bH (De) (.af (.zn zg (.af (.o (.call call71 rfl (vj hs) ?_)))));rintro _ w ⟨H1,a,b,c,d,vt,vs,fX,az,rfl,g,gl,kh,hs⟩;obtain ⟨aa,ca,rfl⟩:=RI.shape g.st;obtain ⟨ab,cb,rfl⟩:=RI.shape g.wa;obtain ⟨ac,cc,rfl⟩:=RRd.shape g.rd;obtain ⟨ad,cd,rfl⟩:=RCm.shape g.cm;obtain ⟨at_,ct,rfl⟩:=gl.tb.shape;obtain ⟨dC,cs,rfl⟩:=gl.sn.shape;obtain ⟨ar,cr,rfl⟩:=kh.shape;refine .z zm (.z zex (.z zex (.z zex (.o (.alloc hs iQ rfl fun b1 w hs=>?_)))));refine .o (.alloc hs oU rfl fun b2 w hs=>?_);refine .o (.alloc hs s9 rfl fun b3 w hs=>?_);refine .o (.aE (vs:=[_,_,_,_,_,_,_,_]) hs rfl rfl aM fun w hs=>?_);refine .o (.aE (vs:=[_,_,_,_]) hs rfl rfl bK fun w hs=>?_);refine .o (.aE (vs:=[_]) hs rfl rfl cI fun w hs=>?_);refine .nil (.af (.y hs (zls [_,_,_,_] dc bK) (.o (.call call37 rfl (tO (l:=tm) hs gl.tb gl.sn) ?_))));rintro _ w ⟨n,e,rfl,hF,hs⟩;obtain ⟨rfl,rfl⟩:=LC hF;refine .z zm (.z zex (.z zex (.z zg (.zn zg (.af (.y hs (zls [_,_,_,_] dc bK) (.o (.call call41 rfl (yr (l:=tm) hs gl.tb gl.sn) ?_))))))));rintro _ w ⟨n,e,rfl,hF,hs⟩;obtain ⟨rfl,rfl⟩:=Gk hF;refine .z zm (.z zex (.z zex (.z zg (.zn zg (.af (.y hs (zls [_,_,_,_,_,_,_,_] bA aM) (.z (zbd [I 1000,I 1025] bX) (.o (.call call58 rfl (qM (s:=exV) hs g) ?_)))))))));rintro _ w ⟨H2,lo,hi,e,bg,rfl,hD,hs⟩;obtain ⟨rfl,rfl,rfl,hL⟩:=LD hD;replace g:=g.mono bg;replace gl:=gl.mono bg;replace kh:=kh.mono bg;refine .z zm (.z zex (.z zex (.o (.alloc hs cZ rfl fun b8 w hs=>?_))));refine .o (.aE (vs:=[_,_]) hs rfl rfl aB fun w hs=>?_);refine .zn zg (.af (.y hs (zls [_,_,_,_,_,_,_,_] bA aM) (.y hs (zls [_,_,_,_] dc bK) (.y hs (zls [_] ek cI) (.z (zbd [I 150,I 160] bX) (.o (.call call26 rfl (rI (s:=exV) (l:=tm) (r:=pS) (m:=⟨150,160⟩) hs g gl kh) ?_)))))));rintro _ w ⟨H3,n,e,bZ,rfl,hJ,hs⟩;obtain ⟨rfl,rfl⟩:=Ca hL eu hJ;rw [show FN [AN (kg ⟨150,160⟩ pS 0) 190 404,AN (kg ⟨150,160⟩ pS 1) 190 404]=1 by decide];replace g:=g.mono bZ;replace gl:=gl.mono bZ;replace kh:=kh.mono bZ;refine .z zm (.z zex (.z zex (.z zg (.zn zg (.af (.y hs (zls [_,_,_,_,_,_,_,_] bA aM) (.y hs (zls [_,_,_,_] dc bK) (.y hs (zls [_] ek cI) (.z (zbd [I 180,I 200] bX) (.o (.call call26 rfl (rI (s:=exV) (l:=tm) (r:=pS) (m:=⟨180,200⟩) hs g gl kh) ?_)))))))))));rintro _ w ⟨H4,n,e,eH,rfl,hJ,hs⟩;obtain ⟨rfl,rfl⟩:=Ca hL eu hJ;rw [show FN [AN (kg ⟨180,200⟩ pS 0) 190 404,AN (kg ⟨180,200⟩ pS 1) 190 404]=2 by decide];replace g:=g.mono eH;replace gl:=gl.mono eH;replace kh:=kh.mono eH;refine .z zm (.z zex (.z zex (.z zg (.zn zg (.af (.y hs (zls [_,_,_,_,_,_,_,_] bA aM) (.y hs (zls [_,_,_,_] dc bK) (.y hs (zls [_] ek cI) (.o (.call call28 rfl (Bi (s:=exV) (l:=tm) (r:=pS) hs g gl kh) ?_))))))))));rintro _ w ⟨H5,n,e,kD,rfl,hS,hs⟩;obtain ⟨rfl,rfl⟩:=LB hL hS;replace g:=g.mono kD;replace gl:=gl.mono kD;replace kh:=kh.mono kD;have Hj:=az.trans (bg.trans (bZ.trans (eH.trans kD)));refine .z zm (.z zex (.z zex (.z zg (.zn zg (.af (.o (.buildSlice (cells:=Is [75,175]) hs mq rfl aA fun Px w hs=>?_)))))));refine .o (.buildSlice (cells:=Is [0,130]) hs mq rfl aA fun Pw w hs=>?_);refine .o (.buildSlice (cells:=[.slice (some ⟨Px,0,none⟩) 2 2,.slice (some ⟨Pw,0,none⟩) 2 2]) hs Bw rfl aA fun Un w hs=>?_);refine .z (zbd [_] sh) ?_;obtain ⟨H6,g6,r6,hs⟩:=cU.dR (xs:=[75,175]) (v:= .slice (some ⟨Px,0,none⟩) 2 2) (.full rfl) bH hs dy;obtain ⟨H7,g7,r7,hs⟩:=cU.dR (xs:=[0,130]) (v:= .slice (some ⟨Pw,0,none⟩) 2 2) (.full rfl) bH hs dy;have Pg:RLs H7 [.slice (some ⟨Px,0,none⟩) 2 2,.slice (some ⟨Pw,0,none⟩) 2 2] RZ:=((RLs.nil H7).snoc (r6.mono g7)).snoc r7;obtain ⟨H8,g8,yG,hs⟩:=Pg.dh (v:= .slice (some ⟨Un,0,none⟩) 2 2) (en:= .blk Un [.slice (some ⟨Px,0,none⟩) 2 2,.slice (some ⟨Pw,0,none⟩) 2 2]) (.full rfl) bH hs dy;have FZ:=g6.trans (g7.trans g8);replace g:=g.mono FZ;replace gl:=gl.mono FZ;replace kh:=kh.mono FZ;refine .z (zbd [_,_,_,_] jP) (.o (.alloc hs Y1 rfl fun nx w hs=>?_));refine .o (.aE (vs:=[_,_,_,_]) hs rfl rfl jb fun w hs=>?_);refine .nil (.af (.z zm (.z fy (.z zm (.iz (t':=68) rfl (fun Le=>?_) (fun Le=>?_))))))
 ·refine .T (.z zm (.T (.z fy (.z zpT (.z zm (.iz (t':=72) rfl (fun XD=>?_) (fun XD=>?_)))))))
  ·refine .T (.z zm (.T (.z fy (.z zpT (.z zm (.iz (t':=76) rfl (fun QC=>?_) (fun QC=>?_)))))))
   ·refine .T (.z zm (.T (.z fy (.z zpT (.z zm (.iz (t':=80) rfl (fun XC=>?_) (fun XC=>?_)))))))
    ·refine .T (.z zm (.T (.z fy (.z zpT (.z zm (.iz (t':=84) rfl (fun ED=>?_) (fun ED=>?_)))))))
     ·refine .T (.y hs (zls [_,_] bJ aB) (.T (.z (zbd [_,_] bX) (.T ?_))));refine .q hs (D2 Ih Ii runUnderlying42 (fun f hf=>by
       simp only [List.mem_cons,List.not_mem_nil,or_false] at hf
       rcases hf with rfl|rfl<;>exact ⟨by decide,cq,aj⟩) rfl rfl) ?_
      refine .z zpT (.z zm (.bif (t':=89) rfl (fun Xz=>?_) (fun Xz=>?_)))
      ·refine .T (.z zm (.T (.z fy (.z zpT (.z zm (.iz (t':=93) rfl (fun Xx=>?_) (fun Xx=>?_)))))))
       ·refine .T (.z zm (.T (.z fy (.z zpT (.z zm (.iz (t':=97) rfl (fun IQ=>?_) (fun IQ=>?_)))))))
        ·refine .T (.z zm (.T (.z fy (.z zpT (.z zm (.iz (t':=101) rfl (fun TS=>?_) (fun TS=>?_)))))))
         ·refine .T (.z zm (.T (.z fy (.z zpT (.z zm (.iz (t':=105) rfl (fun TR=>?_) (fun TR=>?_)))))))
          ·refine .T (.z zm (.T (.z fy (.z zpT (.z zm (.iz (t':=109) rfl (fun TQ=>?_) (fun TQ=>?_)))))))
           ·refine .T (.z zm (.T (.z fy (.z zpT (.z zm (.iz (t':=113) rfl (fun TP=>?_) (fun TP=>?_)))))))
            ·refine .T (.y hs (zls [_,_,_,_,_,_,_,_] bA aM) (.T (.y hs (zls [_,_,_,_] dc bK) (.T (.y hs (zls [_] ek cI) (.T (.z (zbd [I 180,I 200] bX) (.T (.y hs (zls [_,_,_,_] GI jb) (.T (.o (.call call32 rfl (sS (s:=exV) (l:=tm) (r:=pS) (m:=⟨180,200⟩) (x:=⟨0,1000,200,RZ⟩) hs g gl kh yG) ?_))))))))))));rintro _ w ⟨H9,e,Nq,rfl,hW,hs⟩;obtain rfl:=NV hW;have sW:=(Hj.trans FZ).trans Nq;refine .T (.z fy (.z zpT (.zn zg (.ret (Fin.bj kT rfl ?_)))));first
             |exact ⟨rfl,H9,sW,hs.out⟩
             |contradiction
             |(exfalso;simp_all;done)
            ·refine .Fs 7 47 true (.z zpF (.zn zg (.ret (Fin.bj kT rfl ?_))));first
             |exact ⟨rfl,H9,sW,hs.out⟩
             |contradiction
             |(exfalso;simp_all;done)
           ·refine .Fs 2 43 true (.z zpF (.z zm (.Fs 7 47 true (.z zpF (.zn zg (.ret (Fin.bj kT rfl ?_)))))));first
            |exact ⟨rfl,H9,sW,hs.out⟩
            |contradiction
            |(exfalso;simp_all;done)
          ·refine .Fs 2 39 true (.z zpF (.z zm (.Fs 2 43 true (.z zpF (.z zm (.Fs 7 47 true (.z zpF (.zn zg (.ret (Fin.bj kT rfl ?_))))))))));first
           |exact ⟨rfl,H9,sW,hs.out⟩
           |contradiction
           |(exfalso;simp_all;done)
         ·refine .Fs 2 35 true (.z zpF (.z zm (.Fs 2 39 true (.z zpF (.z zm (.Fs 2 43 true (.z zpF (.z zm (.Fs 7 47 true (.z zpF (.zn zg (.ret (Fin.bj kT rfl ?_)))))))))))));first
          |exact ⟨rfl,H9,sW,hs.out⟩
          |contradiction
          |(exfalso;simp_all;done)
        ·refine .Fs 2 31 true (.z zpF (.z zm (.Fs 2 35 true (.z zpF (.z zm (.Fs 2 39 true (.z zpF (.z zm (.Fs 2 43 true (.z zpF (.z zm (.Fs 7 47 true (.z zpF (.zn zg (.ret (Fin.bj kT rfl ?_))))))))))))))));first
         |exact ⟨rfl,H9,sW,hs.out⟩
         |contradiction
         |(exfalso;simp_all;done)
       ·refine .Fs 2 27 true (.z zpF (.z zm (.Fs 2 31 true (.z zpF (.z zm (.Fs 2 35 true (.z zpF (.z zm (.Fs 2 39 true (.z zpF (.z zm (.Fs 2 43 true (.z zpF (.z zm (.Fs 7 47 true (.z zpF (.zn zg (.ret (Fin.bj kT rfl ?_)))))))))))))))))));first
        |exact ⟨rfl,H9,sW,hs.out⟩
        |contradiction
        |(exfalso;simp_all;done)
      ·refine .Fs 2 23 true (.z zpF (.z zm ?_));refine .Fs 2 27 true (.z zpF (.z zm (.Fs 2 31 true (.z zpF (.z zm (.Fs 2 35 true (.z zpF (.z zm (.Fs 2 39 true (.z zpF (.z zm (.Fs 2 43 true (.z zpF (.z zm (.Fs 7 47 true (.z zpF (.zn zg (.ret (Fin.bj kT rfl ?_)))))))))))))))))));first
       |exact ⟨rfl,H9,sW,hs.out⟩
       |contradiction
       |(exfalso;simp_all;done)
     ·refine .Fs 3 18 true (.z zpF (.z zm (.Fs 2 23 true (.z zpF (.z zm ?_)))));refine .Fs 2 27 true (.z zpF (.z zm (.Fs 2 31 true (.z zpF (.z zm (.Fs 2 35 true (.z zpF (.z zm (.Fs 2 39 true (.z zpF (.z zm (.Fs 2 43 true (.z zpF (.z zm (.Fs 7 47 true (.z zpF (.zn zg (.ret (Fin.bj kT rfl ?_)))))))))))))))))));first
      |exact ⟨rfl,H9,sW,hs.out⟩
      |contradiction
      |(exfalso;simp_all;done)
    ·refine .Fs 2 14 true (.z zpF (.z zm (.Fs 3 18 true (.z zpF (.z zm (.Fs 2 23 true (.z zpF (.z zm ?_))))))));refine .Fs 2 27 true (.z zpF (.z zm (.Fs 2 31 true (.z zpF (.z zm (.Fs 2 35 true (.z zpF (.z zm (.Fs 2 39 true (.z zpF (.z zm (.Fs 2 43 true (.z zpF (.z zm (.Fs 7 47 true (.z zpF (.zn zg (.ret (Fin.bj kT rfl ?_)))))))))))))))))));first
     |exact ⟨rfl,H9,sW,hs.out⟩
     |contradiction
     |(exfalso;simp_all;done)
   ·refine .Fs 2 10 true (.z zpF (.z zm (.Fs 2 14 true (.z zpF (.z zm (.Fs 3 18 true (.z zpF (.z zm (.Fs 2 23 true (.z zpF (.z zm ?_)))))))))));refine .Fs 2 27 true (.z zpF (.z zm (.Fs 2 31 true (.z zpF (.z zm (.Fs 2 35 true (.z zpF (.z zm (.Fs 2 39 true (.z zpF (.z zm (.Fs 2 43 true (.z zpF (.z zm (.Fs 7 47 true (.z zpF (.zn zg (.ret (Fin.bj kT rfl ?_)))))))))))))))))));first
    |exact ⟨rfl,H9,sW,hs.out⟩
    |contradiction
    |(exfalso;simp_all;done)
  ·refine .Fs 2 6 true (.z zpF (.z zm (.Fs 2 10 true (.z zpF (.z zm (.Fs 2 14 true (.z zpF (.z zm (.Fs 3 18 true (.z zpF (.z zm (.Fs 2 23 true (.z zpF (.z zm ?_))))))))))))));refine .Fs 2 27 true (.z zpF (.z zm (.Fs 2 31 true (.z zpF (.z zm (.Fs 2 35 true (.z zpF (.z zm (.Fs 2 39 true (.z zpF (.z zm (.Fs 2 43 true (.z zpF (.z zm (.Fs 7 47 true (.z zpF (.zn zg (.ret (Fin.bj kT rfl ?_)))))))))))))))))));first
   |exact ⟨rfl,H9,sW,hs.out⟩
   |contradiction
   |(exfalso;simp_all;done)
 ·refine .Fs 2 2 true (.z zpF (.z zm (.Fs 2 6 true (.z zpF (.z zm (.Fs 2 10 true (.z zpF (.z zm (.Fs 2 14 true (.z zpF (.z zm (.Fs 3 18 true (.z zpF (.z zm (.Fs 2 23 true (.z zpF (.z zm ?_)))))))))))))))));refine .Fs 2 27 true (.z zpF (.z zm (.Fs 2 31 true (.z zpF (.z zm (.Fs 2 35 true (.z zpF (.z zm (.Fs 2 39 true (.z zpF (.z zm (.Fs 2 43 true (.z zpF (.z zm (.Fs 7 47 true (.z zpF (.zn zg (.ret (Fin.bj kT rfl ?_)))))))))))))))))));first
  |exact ⟨rfl,H9,sW,hs.out⟩
  |contradiction
  |(exfalso;simp_all;done)
theorem dE{w:World}(hs:St H w σ):aaR 74 [I a0,I a1,I a2] w fun v w'=>v= .bool (decide (a1≤a0∧a0≤a2))∧St H w' σ:=by
 refine Cl.o func74 ntmps74 ag3 ?_;refine .af (.zn zg (.af (.z zm (.z zm (.z xv (.z zm (.iz (t':=10) rfl (fun pP=>?_) (fun pP=>?_))))))))
 ·exact .T (.z zm (.T (.z zm (.T (.z oY (.z zpT (.zn zg (.ret (Fin.bj results74 rfl ⟨by simp [*],hs.out⟩)))))))))
 ·exact .Fs 3 3 true (.z zpF (.zn zg (.ret (Fin.bj results74 rfl ⟨by simp [*],hs.out⟩))))
theorem pn{w:World}{y:Int}(hs:St H w σ):aaR 53 [.agg #[I x,I y]] w fun v w'=>v= .bool (decide (iZ x y))∧St H w' σ:=by
 refine Cl.o func53 ntmps53 ag1 ?_;refine .af (.bx hs fun b1 w hs=>?_);refine .zn zg (.af (.z (zfa bp) (.y hs (zld aj) (.z xv (.z zm (.iz (t':=6) rfl (fun Fj=>?_) (fun Fj=>?_)))))))
 ·refine .T (.z (zfa bp) (.T (.y hs (zld aj) (.T (.z (zfa bI) (.T (.y hs (zld aj) (.T (.z oY (.z zpT (.z zm (.iz (t':=13) rfl (fun xa=>?_) (fun xa=>?_)))))))))))))
  ·exact .T (.z (zfa bI) (.T (.y hs (zld aj) (.T (.z oY (.z zpT (.zn zg (.ret (Fin.bj results53 rfl ⟨by unfold iZ;simp [*],hs.out⟩)))))))))
  ·exact .Fs 3 10 true (.z zpF (.zn zg (.ret (Fin.bj results53 rfl ⟨by unfold iZ;simp [*],hs.out⟩))))
 ·exact .Fs 5 3 true (.z zpF (.z zm (.Fs 3 10 true (.z zpF (.zn zg (.ret (Fin.bj results53 rfl ⟨by unfold iZ;simp [*],hs.out⟩)))))))
theorem uI{w:World}{y:Int}(hs:St H w σ):aaR 124 [.agg #[I x,I y]] w fun v w'=>v= .bool (decide (gw x y))∧St H w' σ:=by
 refine Cl.o func124 ntmps124 ag1 ?_;refine .af (.bx hs fun b1 w hs=>?_);refine .zn zg (.af (.z (zfa bp) (.y hs (zld aj) (.z xv (.z zm (.iz (t':=6) rfl (fun Fj=>?_) (fun Fj=>?_)))))))
 ·refine .T (.z (zfa bp) (.T (.y hs (zld aj) (.T (.z (zfa bI) (.T (.y hs (zld aj) (.T (.z oY (.z zpT (.z zm (.iz (t':=13) rfl (fun xa=>?_) (fun xa=>?_)))))))))))))
  ·exact .T (.z (zfa bI) (.T (.y hs (zld aj) (.T (.z oY (.z zpT (.zn zg (.ret (Fin.bj results124 rfl ⟨by unfold gw;simp [*],hs.out⟩)))))))))
  ·exact .Fs 3 10 true (.z zpF (.zn zg (.ret (Fin.bj results124 rfl ⟨by unfold gw;simp [*],hs.out⟩))))
 ·exact .Fs 5 3 true (.z zpF (.z zm (.Fs 3 10 true (.z zpF (.zn zg (.ret (Fin.bj results124 rfl ⟨by unfold gw;simp [*],hs.out⟩)))))))
theorem xZ{w:World}{x:Lg}(hs:St H w σ):
  aaR 76 [.agg #[I x.zone,I x.fr,I x.to,I x.dlo,I x.dhi,I x.blo,I x.bhi]] w fun v w'=>∃b:Bool,v= .bool b∧(b=true↔Gx x)∧St H w' σ:=by
 refine Cl.o func76 ntmps76 ag1 ?_;refine .af (.bx hs fun b1 w hs=>?_);refine .zn zg (.af (.z (zfa ml) (.y hs (zld aj) (.o (.call nE rfl (dE hs) ?_)))));rintro _ w ⟨rfl,hs⟩;refine .z zm (.bif (t':=6) rfl (fun Fj=>?_) (fun Fj=>?_))
 ·refine .T (.z (zfa fJ) (.T (.y hs (zld aj) (.T (.z xv (.z zpT (.z zm (.iz (t':=11) rfl (fun oO=>?_) (fun oO=>?_)))))))))
  ·refine .T (.z (zfa fJ) (.T (.y hs (zld aj) (.T (.z (zfa fI) (.T (.y hs (zld aj) (.T (.z oY (.z zpT (.z zm (.iz (t':=18) rfl (fun Gb=>?_) (fun Gb=>?_)))))))))))))
   ·refine .T (.z (zfa fI) (.T (.y hs (zld aj) (.T (.z oY (.z zpT (.z zm (.iz (t':=23) rfl (fun pN=>?_) (fun pN=>?_)))))))))
    ·refine .T (.z (zfa ep) (.T (.y hs (zls [_,_] bJ aB) (.T (.o (.call call124 rfl (uI hs) ?_))))));rintro _ w ⟨rfl,hs⟩;refine .z zpT (.z zm (.bif (t':=28) rfl (fun w9=>?_) (fun w9=>?_)))
     ·refine .T (.z (zfa gD) (.T (.y hs (zls [_,_] bJ aB) (.T (.o (.call call53 rfl (pn hs) ?_))))));rintro _ w ⟨rfl,hs⟩;refine .z zpT (.zn zg (.ret (Fin.bj UJ rfl ?_)));first
      |exact ⟨false,rfl,⟨fun h=>(by cases h),fun h=>(by obtain ⟨g1,g2,g3,g4,g5⟩:=h;first|omega|(simp_all;done)|(simp_all;omega))⟩,hs.out⟩
      |exact ⟨_,rfl,⟨fun h=>⟨by simp_all,by simp_all,by simp_all,by simp_all,by simpa using h⟩,fun h=>by simpa using h.burn⟩,hs.out⟩
     ·refine .Fs 3 25 true (.z zpF (.zn zg (.ret (Fin.bj UJ rfl ?_))));first
      |exact ⟨false,rfl,⟨fun h=>(by cases h),fun h=>(by obtain ⟨g1,g2,g3,g4,g5⟩:=h;first|omega|(simp_all;done)|(simp_all;omega))⟩,hs.out⟩
      |exact ⟨_,rfl,⟨fun h=>⟨by simp_all,by simp_all,by simp_all,by simp_all,by simpa using h⟩,fun h=>by simpa using h.burn⟩,hs.out⟩
    ·refine .Fs 3 20 true (.z zpF (.z zm (.Fs 3 25 true (.z zpF (.zn zg (.ret (Fin.bj UJ rfl ?_)))))));first
     |exact ⟨false,rfl,⟨fun h=>(by cases h),fun h=>(by obtain ⟨g1,g2,g3,g4,g5⟩:=h;first|omega|(simp_all;done)|(simp_all;omega))⟩,hs.out⟩
     |exact ⟨_,rfl,⟨fun h=>⟨by simp_all,by simp_all,by simp_all,by simp_all,by simpa using h⟩,fun h=>by simpa using h.burn⟩,hs.out⟩
   ·refine .Fs 3 15 true (.z zpF (.z zm (.Fs 3 20 true (.z zpF (.z zm (.Fs 3 25 true (.z zpF (.zn zg (.ret (Fin.bj UJ rfl ?_))))))))));first
    |exact ⟨false,rfl,⟨fun h=>(by cases h),fun h=>(by obtain ⟨g1,g2,g3,g4,g5⟩:=h;first|omega|(simp_all;done)|(simp_all;omega))⟩,hs.out⟩
    |exact ⟨_,rfl,⟨fun h=>⟨by simp_all,by simp_all,by simp_all,by simp_all,by simpa using h⟩,fun h=>by simpa using h.burn⟩,hs.out⟩
  ·refine .Fs 5 8 true (.z zpF (.z zm (.Fs 3 15 true (.z zpF (.z zm (.Fs 3 20 true (.z zpF (.z zm (.Fs 3 25 true (.z zpF (.zn zg (.ret (Fin.bj UJ rfl ?_)))))))))))));first
   |exact ⟨false,rfl,⟨fun h=>(by cases h),fun h=>(by obtain ⟨g1,g2,g3,g4,g5⟩:=h;first|omega|(simp_all;done)|(simp_all;omega))⟩,hs.out⟩
   |exact ⟨_,rfl,⟨fun h=>⟨by simp_all,by simp_all,by simp_all,by simp_all,by simpa using h⟩,fun h=>by simpa using h.burn⟩,hs.out⟩
 ·refine .Fs 3 3 true (.z zpF (.z zm (.Fs 5 8 true (.z zpF (.z zm (.Fs 3 15 true (.z zpF (.z zm (.Fs 3 20 true (.z zpF (.z zm (.Fs 3 25 true (.z zpF (.zn zg (.ret (Fin.bj UJ rfl ?_))))))))))))))));first
  |exact ⟨false,rfl,⟨fun h=>(by cases h),fun h=>(by obtain ⟨g1,g2,g3,g4,g5⟩:=h;first|omega|(simp_all;done)|(simp_all;omega))⟩,hs.out⟩
  |exact ⟨_,rfl,⟨fun h=>⟨by simp_all,by simp_all,by simp_all,by simp_all,by simpa using h⟩,fun h=>by simpa using h.burn⟩,hs.out⟩
set_option maxHeartbeats 1000000 in
theorem jC{w:World}(hs:St H w σ)(g:LnM H l vt vs):
  aaR 20 [lnA l vt vs] w fun u w'=>∃e,u=I e∧aaQ l e∧St H w' σ:=by
 obtain ⟨h1,h2⟩:=g;obtain ⟨at_,ct,rfl⟩:=h1.shape;obtain ⟨dC,cs,rfl⟩:=h2.shape;refine Cl.o func20 ntmps20 ag1 ?_;refine .af (.bx hs fun b1 w hs=>?_);refine .zn zg (.seq (.af (.z (zfa eQ) (.y hs (zld aj) (.o (.call nE rfl (dE hs) ?_))))));rintro _ w ⟨rfl,hs⟩;refine .z fU (.z zm (.bif (t':=11) rfl (fun oO=>?_) (fun oO=>?_)))
 ·exact .Fs 4 4 false (.z zpT (.z zm (.Fs 5 10 false (.z zpT (.z zm (.Fs 4 17 false (.zn zpT (.cT (.af (.zn zg (.ret (rT (Fin.bj mw rfl ⟨_,rfl,.inr ⟨fun h=>by have:=h.length;simp_all,rfl⟩,hs.out⟩)))))))))))))
 ·refine .T (.z (zfa ji) (.T (.y hs (zld aj) (.T (.o (.call nE rfl (dE hs) ?_))))));rintro _ w ⟨rfl,hs⟩;refine .T (.z fU (.z zpF (.z zm (.bif (t':=17) rfl (fun yF=>?_) (fun yF=>?_)))))
  ·exact .Fs 5 10 false (.z zpT (.z zm (.Fs 4 17 false (.zn zpT (.cT (.af (.zn zg (.ret (rT (Fin.bj mw rfl ⟨_,rfl,.inr ⟨fun h=>by have:=h.depth;simp_all,rfl⟩,hs.out⟩))))))))))
  ·refine .T (.z (zfa db) (.T (.y hs (zld j5) (.T (.z (de bn) (.T (.o (.call nE rfl (dE hs) ?_))))))));rintro _ w ⟨rfl,hs⟩;refine .T (.z fU (.z zpF (.z zm (.bif (t':=24) rfl (fun qS=>?_) (fun qS=>?_)))))
   ·exact .Fs 4 17 false (.zn zpT (.cT (.af (.zn zg (.ret (rT (Fin.bj mw rfl ⟨_,rfl,.inr ⟨fun h=>by have:=h.many;simp_all;omega,rfl⟩,hs.out⟩)))))))
   ·refine .T (.z (zfa dj) (.T (.y hs (zld kJ) (.T (.z (de bY) (.T (.z kU (.zn zpF (.bh rfl (fun nO=>?_) (fun nO=>?_))))))))))
    ·exact .af (.zn zg (.ret (rT (Fin.bj mw rfl ⟨_,rfl,.inr ⟨fun h=>by have:=h.most;simp_all;omega,rfl⟩,hs.out⟩))))
    ·refine .skip (nT (.seq (.af (.zn zg (.block ?_)))));have F0:1≤l.table.length∧l.table.length≤20:=by first|omega|(simp at qS;omega)
     refine .loop (fun k:Nat=>⟨102,[],[(3,I (k:Int)),(1,Pt b1)]⟩)
      (fun k w=>k≤l.table.length∧(∀j<k,Oj l.table j)∧St H w (.blk b1 (lnC l (.slice at_ l.table.length ct) (.slice dC l.seasons.length cs))::σ)) (fun k=>l.table.length - k) 0 aH
      ⟨Nat.zero_le _,fun j hj=>by omega,hs⟩ ?_
     rintro k w ⟨hk,eE,hs⟩;refine .seq (.af (.z zm (.z (zfa db) (.y hs (zld j5) (.z (de bn) (.zn fN (.bh rfl (fun jx=>?_) (fun jx=>?_))))))))
     ·refine .skip (nT (.seq (.block (.af (.z (zfa db) (.y hs (zld j5) (.z zm ?_)))))));have lB:k<l.table.length:=by omega
      have hx:=oQ (l:=l.table) lB;have wZ:=oQ (l:=l.table) (i:=k - 1) ai;refine .ixX (enc:=Fbd.c) hs h1 rfl rfl bn cP hx cK ?_;intro Up o40 nN;refine .q hs (bQ (vs:=(Fbd.c (fb0 l.table k))) rfl isAgg134 cP nN) (.o (.alloc hs na rfl fun b4 w hs=>?_));refine .o (.aE (vs:=(fb0 l.table k).c) hs rfl rfl cP fun w hs=>?_);change St _ _ (.blk b4 [I (fb0 l.table k).len,I (fb0 l.table k).least]::_) at hs;refine .nil (.seq (.draw mix rfl hs fun w hs=>?_));refine .zw 0 rfl (zfa bV) ?_;refine .y 1 rfl hs aj ?_;refine .E 2 hs ?_;refine .call nE rfl (dE hs) ?_;rintro _ w ⟨rfl,hs⟩;refine .go (.zw 3 rfl fU ?_);refine .z 4 rfl zm ?_;refine .bif (t':=46) rfl (fun NI=>?_) (fun NI=>?_)
      ·refine .F 5 rfl (.F 6 rfl (.F 7 rfl (.F 8 rfl (.zw 9 rfl zpT ?_))));refine .z 10 rfl zm ?_;refine .F 11 rfl (.F 12 rfl ?_);refine .F 13 rfl (.F 14 rfl (.F 15 rfl (.F 16 rfl (.F 17 rfl (.F 18 rfl (.F 19 rfl (.F 20 rfl (.F 21 rfl (.F 22 rfl (.F 23 rfl (.F 24 rfl (.zw 25 rfl zpT ?_))))))))))));refine .D hs ?_;exact (.cT (.af (.zn zg (.ret (rB (rT (rT (rB (rT (Fin.bj mw rfl ⟨_,rfl,.inr ⟨fun h=>by have:=(h.table k lB).len;simp_all,rfl⟩,hs.out⟩))))))))))
      ·refine .zw 5 rfl (zfa dT) ?_;refine .y 6 rfl hs aj ?_;refine .E 7 hs ?_;refine .call nE rfl (dE hs) ?_;rintro _ w ⟨rfl,hs⟩;refine .go (.zw 8 rfl fU ?_);refine .z 9 rfl zpF ?_;refine .z 10 rfl zm ?_;refine .bif (t':=52) rfl (fun QE=>?_) (fun QE=>?_)
       ·refine .F 11 rfl (.F 12 rfl ?_);refine .F 13 rfl (.F 14 rfl (.F 15 rfl (.F 16 rfl (.F 17 rfl (.F 18 rfl (.F 19 rfl (.F 20 rfl (.F 21 rfl (.F 22 rfl (.F 23 rfl (.F 24 rfl (.zw 25 rfl zpT ?_))))))))))));refine .D hs ?_;exact (.cT (.af (.zn zg (.ret (rB (rT (rT (rB (rT (Fin.bj mw rfl ⟨_,rfl,.inr ⟨fun h=>by have:=(h.table k lB).least;simp_all,rfl⟩,hs.out⟩))))))))))
       ·refine .zw 11 rfl zm ?_;refine .z 12 rfl kU ?_;refine .z 13 rfl zm ?_;refine .iz (t':=55) rfl (fun QD=>?_) (fun QD=>?_)
        ·refine .zw 14 rfl (zfa db) ?_;refine .y 15 rfl hs j5 ?_;refine .z 16 rfl zm ?_;refine .z 17 rfl gx ?_;refine .ixX (enc:=Fbd.c) (i:=18) hs rfl aA (.some rfl rfl) h1 rfl rfl bn cP wZ ai ?_;intro aaK o60 ND;refine .zw 19 rfl (zfa bV) (.r (i:=20) hs rfl aA (.some rfl rfl) (aC rfl aj (ND.get 0 rfl)) ?_);refine .zw 21 rfl (zfa bV) ?_;refine .y 22 rfl hs aj ?_;refine .z 23 rfl xv ?_;refine .z 24 rfl zpT ?_;refine .z 25 rfl zpF ?_;refine .D hs ?_;refine (.bh rfl (fun CV=>?_) (fun CV=>?_))
         ·exact .af (.zn zg (.ret (rB (rT (rT (rB (rT (Fin.bj mw rfl ⟨_,rfl,.inr ⟨fun h=>by have:=(h.table k lB).rise ai;omega,rfl⟩,hs.out⟩))))))))
         ·refine .skip (nB (nT (.region (.z zm (.z cH (.zn zg (nT ?_)))))));exact ⟨k+1,.cD rfl bH aH,⟨ai,fun j hj=>by
           by_cases e:j=k
           ·subst e;exact ⟨by simp_all,by simp_all,fun _=>by omega⟩
           ·exact eE j ai,hs.tail⟩,ai⟩
        ·refine .F 14 rfl (.F 15 rfl (.F 16 rfl (.F 17 rfl (.F 18 rfl (.F 19 rfl (.F 20 rfl (.F 21 rfl (.F 22 rfl (.F 23 rfl (.zw 24 rfl zpF ?_))))))))));refine .z 25 rfl zpF ?_;refine .D hs ?_;refine (.cF (.skip (nB (nT (.region (.z zm (.z cH (.zn zg (nT ?_)))))))));exact ⟨k+1,.cD rfl bH aH,⟨ai,fun j hj=>by
          by_cases e:j=k
          ·subst e;exact ⟨by simp_all,by simp_all,fun _=>by omega⟩
          ·exact eE j ai,hs.tail⟩,ai⟩
     ·refine .exit (xT (xT (xB (nT (.seq (.af (.zn zg (.block ?_))))))));obtain rfl:k=l.table.length:=by omega
      refine .loop (fun k:Nat=>⟨102,[],[(5,I (k:Int)),(1,Pt b1)]⟩)
       (fun k w=>k≤l.seasons.length∧(∀j<k,∀y,l.seasons[j]? =some y→Gt y)∧St H w (.blk b1 (lnC l (.slice at_ l.table.length ct) (.slice dC l.seasons.length cs))::σ)) (fun k=>l.seasons.length - k) 0 aH
       ⟨Nat.zero_le _,fun j hj=>by omega,hs⟩ ?_
      rintro i w ⟨hi,S6,hs⟩;refine .seq (.af (.z zm (.z (zfa dj) (.y hs (zld kJ) (.z (de bY) (.zn fN (.bh rfl (fun KV=>?_) (fun KV=>?_))))))))
      ·refine .skip (nT (.seq (.block (.af (.z (zfa dj) (.y hs (zld kJ) (.z zm ?_)))))));obtain ⟨s,hx⟩:=nth (l:=l.seasons) (k:=i) ai;refine .ixX (enc:=Ssn.c) hs h2 rfl rfl bY eh hx cK ?_;intro b78 o78 Qw;refine .q hs (bQ (vs:=(Ssn.c s)) rfl isAgg104 eh Qw) (.o (.alloc hs E7 rfl fun b6 w hs=>?_));refine .o (.aE (vs:=s.c) hs rfl rfl eh fun w hs=>?_);change St _ _ (.blk b6 [I s.zone,I s.fr,I s.to,I s.extra]::_) at hs;refine .nil (.af (.z (zfa jM) (.y hs (zld aj) (.o (.call nE rfl (dE hs) ?_)))));rintro _ w ⟨rfl,hs⟩;refine .z fU (.z zm (.bif (t':=84) rfl (fun ED=>?_) (fun ED=>?_)))
       ·exact .Fs 4 4 false (.z zpT (.z zm (.Fs 4 10 false (.z zpT (.z zm (.Fs 4 16 false (.zn zpT (.cT (.af (.zn zg (.ret (rB (rT (rT (rB (rT (Fin.bj mw rfl ⟨_,rfl,.inr ⟨fun h=>by have:=(h.seasons s (List.mem_of_getElem? hx)).zone;simp_all,rfl⟩,hs.out⟩)))))))))))))))))
       ·refine .T (.z (zfa e9) (.T (.y hs (zld aj) (.T (.o (.call nE rfl (dE hs) ?_))))));rintro _ w ⟨rfl,hs⟩;refine .T (.z fU (.z zpF (.z zm (.bif (t':=90) rfl (fun Xy=>?_) (fun Xy=>?_)))))
        ·exact .Fs 4 10 false (.z zpT (.z zm (.Fs 4 16 false (.zn zpT (.cT (.af (.zn zg (.ret (rB (rT (rT (rB (rT (Fin.bj mw rfl ⟨_,rfl,.inr ⟨fun h=>by have:=(h.seasons s (List.mem_of_getElem? hx)).fr;simp_all,rfl⟩,hs.out⟩))))))))))))))
        ·refine .T (.z (zfa e8) (.T (.y hs (zld aj) (.T (.o (.call nE rfl (dE hs) ?_))))));rintro _ w ⟨rfl,hs⟩;refine .T (.z fU (.z zpF (.z zm (.bif (t':=96) rfl (fun Xw=>?_) (fun Xw=>?_)))))
         ·exact .Fs 4 16 false (.zn zpT (.cT (.af (.zn zg (.ret (rB (rT (rT (rB (rT (Fin.bj mw rfl ⟨_,rfl,.inr ⟨fun h=>by have:=(h.seasons s (List.mem_of_getElem? hx)).to;simp_all,rfl⟩,hs.out⟩)))))))))))
         ·refine .T (.z (zfa jL) (.T (.y hs (zld aj) (.T (.o (.call nE rfl (dE hs) ?_))))));rintro _ w ⟨rfl,hs⟩;refine .T (.z fU (.zn zpF (.cond rfl (fun Lc=>?_) (fun Lc=>?_))))
          ·exact .af (.zn zg (.ret (rB (rT (rT (rB (rT (Fin.bj mw rfl ⟨_,rfl,.inr ⟨fun h=>by have:=(h.seasons s (List.mem_of_getElem? hx)).extra;simp_all,rfl⟩,hs.out⟩))))))))
          ·exact .skip (nB (nT (.region (.z zm (.z cH (.zn zg (nT ⟨i+1,.cD rfl bH aH,⟨ai,fH S6 hx ⟨by simp_all,by simp_all,by simp_all,by simp_all⟩,hs.tail⟩,ai⟩)))))))
      ·refine .exit (xT (xT (xB (nT (.af (.zn zg (.ret (Fin.bj mw rfl ?_))))))));exact ⟨_,rfl,.inl ⟨⟨by simp_all,by simp_all,F0,ai,eE,fun s hs=>by
        obtain ⟨j,hj⟩:=List.getElem?_of_mem hs;have:=(List.getElem?_eq_some_iff.1 hj).1;exact S6 j ai s hj⟩,rfl⟩,hs.out⟩
theorem rp{w:World}{r:List Lg}(hs:St H w σ)(h1:RLg H vr r):
  aaR 22 [.agg #[vr]] w fun u w'=>∃e,u=I e∧aaO r e∧St H w' σ:=by
 obtain ⟨ar,cr,rfl⟩:=h1.shape;refine Cl.o func22 ntmps22 ag1 ?_;refine .af (.bx hs fun b1 w hs=>?_);refine .zn zg (.seq (.af (.z (zfa bG) (.y hs (zld dH) (.z (de aF) (.o (.call nE rfl (dE hs) ?_)))))));rintro _ w ⟨rfl,hs⟩;refine .zn fU (.cond rfl (fun ur=>?_) (fun ur=>?_))
 ·exact .af (.zn zg (.ret (rT (Fin.bj results22 rfl ⟨_,rfl,.inr ⟨fun h=>by have:=h.many;simp_all;omega,rfl⟩,hs.out⟩))))
 ·refine .skip (nT (.seq (.af (.zn zg (.block ?_)))));have F0:1≤r.length∧r.length≤12:=by first|omega|(simp at ur;omega)
  refine .loop (fun k:Nat=>⟨43,[],[(3,I (k:Int)),(1,Pt b1)]⟩)
   (fun k w=>k≤r.length∧(∀j<k,Gx (lg0 r j)∧(0<j→(lg0 r (j - 1)).to≤(lg0 r j).fr))∧St H w (.blk b1 [.slice ar r.length cr]::σ)) (fun k=>r.length - k) 0 aH
   ⟨Nat.zero_le _,fun j hj=>by omega,hs⟩ ?_
  rintro k w ⟨hk,eE,hs⟩;refine .seq (.af (.z zm (.z (zfa bG) (.y hs (zld dH) (.z (de aF) (.zn fN (.bh rfl (fun gL=>?_) (fun gL=>?_))))))))
  ·refine .skip (nT (.seq (.block (.seq (.draw mix rfl hs fun w hs=>?_)))));have lB:k<r.length:=by omega
   have hx:=kC (l:=r) lB;have wZ:=kC (l:=r) (i:=k - 1) ai;refine .zw 0 rfl (zfa bG) ?_;refine .y 1 rfl hs dH ?_;refine .z 2 rfl zm ?_;refine .ixX (enc:=Lg.c) (i:=3) hs rfl aA .none h1 rfl rfl aF bw hx rfl ?_;intro pU o19 mL;refine .r (i:=4) hs rfl aA .none (bQ (vs:=(lg0 r k).c) rfl mV bw mL) ?_;refine .E 5 hs ?_;refine .call call76 rfl (xZ (x:=lg0 r k) hs) ?_;rintro _ w ⟨uf,rfl,pO,hs⟩;refine .go (.zw 6 rfl fU ?_);refine .z 7 rfl zm ?_;refine .bif (t':=23) rfl (fun pN=>?_) (fun pN=>?_)
   ·refine .F 8 rfl (.F 9 rfl (.F 10 rfl (.F 11 rfl (.F 12 rfl (.F 13 rfl ?_)))));refine .F 14 rfl (.F 15 rfl (.F 16 rfl (.F 17 rfl (.F 18 rfl (.F 19 rfl (.F 20 rfl (.F 21 rfl (.F 22 rfl (.F 23 rfl (.F 24 rfl (.F 25 rfl (.zw 26 rfl zpT ?_))))))))))));refine .D hs ?_;exact (.cT (.af (.zn zg (.ret (rB (rT (rT (rB (rT (Fin.bj results22 rfl ⟨_,rfl,.inr ⟨fun h=>by have:=pO.2 (h.leg k lB).1;simp_all,rfl⟩,hs.out⟩))))))))))
   ·refine .zw 8 rfl zm ?_;refine .z 9 rfl kU ?_;refine .z 10 rfl zm ?_;refine .iz (t':=26) rfl (fun Lj=>?_) (fun Lj=>?_)
    ·refine .zw 11 rfl (zfa bG) ?_;refine .y 12 rfl hs dH ?_;refine .z 13 rfl zm ?_;refine .ixX (enc:=Lg.c) (i:=14) hs rfl aA (.some rfl rfl) h1 rfl rfl aF bw hx rfl ?_;intro Rh o30 nm;refine .zw 15 rfl (zfa fJ) (.r (i:=16) hs rfl aA (.some rfl rfl) (aC rfl aj (nm.get 1 rfl)) ?_);refine .zw 17 rfl (zfa bG) ?_;refine .y 18 rfl hs dH ?_;refine .z 19 rfl zm ?_;refine .z 20 rfl gx ?_;refine .ixX (enc:=Lg.c) (i:=21) hs rfl aA (.some rfl rfl) h1 rfl rfl aF bw wZ ai ?_;intro By o37 qb;refine .zw 22 rfl (zfa fI) (.r (i:=23) hs rfl aA (.some rfl rfl) (aC rfl aj (qb.get 2 rfl)) ?_);refine .zw 24 rfl fN ?_;refine .z 25 rfl zpT ?_;refine .z 26 rfl zpF ?_;refine .D hs ?_;refine (.bh rfl (fun tV=>?_) (fun tV=>?_))
     ·exact .af (.zn zg (.ret (rB (rT (rT (rB (rT (Fin.bj results22 rfl ⟨_,rfl,.inr ⟨fun h=>by have:=(h.leg k lB).2 ai;omega,rfl⟩,hs.out⟩))))))))
     ·refine .skip (nB (nT (.region (.z zm (.z cH (.zn zg (nT ?_)))))));exact ⟨k+1,.cD rfl bH aH,⟨ai,fun j hj=>by
       by_cases e:j=k
       ·subst e;exact ⟨pO.1 (by simp_all),fun _=>by omega⟩
       ·exact eE j ai,hs⟩,ai⟩
    ·refine .F 11 rfl (.F 12 rfl ?_);refine .F 13 rfl (.F 14 rfl (.F 15 rfl (.F 16 rfl (.F 17 rfl (.F 18 rfl (.F 19 rfl (.F 20 rfl (.F 21 rfl (.F 22 rfl (.F 23 rfl (.F 24 rfl (.zw 25 rfl zpF ?_))))))))))));refine .z 26 rfl zpF ?_;refine .D hs ?_;refine (.cF (.skip (nB (nT (.region (.z zm (.z cH (.zn zg (nT ?_)))))))));exact ⟨k+1,.cD rfl bH aH,⟨ai,fun j hj=>by
      by_cases e:j=k
      ·subst e;exact ⟨pO.1 (by simp_all),fun _=>by omega⟩
      ·exact eE j ai,hs⟩,ai⟩
  ·refine .exit (xT (xT (xB (nT (.af (.zn zg (.ret (Fin.bj results22 rfl ?_))))))));obtain rfl:k=r.length:=by omega
   exact ⟨_,rfl,.inl ⟨⟨F0,eE⟩,rfl⟩,hs.out⟩
end Go.Proofs.YteajddicacjkhaaGreat
