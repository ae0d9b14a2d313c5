/-
  Texts of these claims, joined: Zv Zw Zx Zy Zz Na Nb Nj Oc Od Oe Of Og Oh Oi Oj Ok Ol Om On Oq Os.
-/
import Derived.Test.YteajddicacjkhaaGreatDd
namespace Go.Proofs.YteajddicacjkhaaGreat
open Go.MW
variable{H:cD}{w:World}{σ:List Ent}
theorem ma{a d:Int}(hs:St H w σ)(hd:1≤d)(ha: -4608000000000000000≤a∧a≤4608000000000000000):
  Cl Tryz.prog 119 [I a,I d] w fun v w'=>v=I (a/d)∧St H w' σ:=by
 have hq: -4608000000000000000≤a.tdiv d∧a.tdiv d≤4608000000000000000:=by
  have h1:=qb (n:=a) (d:=d) an
  have h2:a/d≤4608000000000000000:=Int.ediv_le_of_le_mul an (by
   have:=Int.mul_le_mul_of_nonneg_left hd (show (0:Int)≤4608000000000000000 by omega);omega)
  have h3: -4608000000000000000≤a/d:=Int.le_ediv_of_mul_le an (by
   have:=Int.mul_le_mul_of_nonneg_left hd (show (0:Int)≤4608000000000000000 by omega);omega)
  by_cases h0:0≤a
  ·rw [Int.tdiv_eq_ediv_of_nonneg h0];omega
  ·split at h1
   ·have:a/d<0:=Int.ediv_neg_of_neg_of_pos an an
    omega
   ·omega
 have hfl:=qb (n:=a) (d:=d) an
 refine Cl.o Tryz.func119 Tryz.ntmps119 ag2 ?_
 refine .aj (.zn zg (.aj (.z zm (.z zm (.q hs (uu rfl rfl an ⟨an,an⟩) (.zn zg (.seq (.aj (.z zm (.z zm (.z A4 (.zn fM (.bA rfl (fun hc12=>?_) (fun hc12=>?_))))))))))))))
 ·refine .region (.z zm (.z fY (.zn zg (nT (.aj (.z zm (.zn zg (.ret (Fin.bE Tryz.results119 rfl ?_)))))))))
  rw [if_pos hc12] at hfl
  exact ⟨by rw [hfl],hs⟩
 ·refine .skip (nT (.aj (.z zm (.zn zg (.ret (Fin.bE Tryz.results119 rfl ?_))))))
  rw [if_neg hc12,Int.sub_zero] at hfl
  exact ⟨by rw [hfl],hs⟩
inductive AW(v:Srv)(q:Wht):Int→Prop
 |bad {e:Int} (h:yL v e) (he:e≠0):AW v q e
 |what (h:eW v) (h1:¬gY v.sp q):AW v q 33
 |ok (h:eW v) (h1:gY v.sp q):AW v q 0
theorem AW.zero{v:Srv}{q:Wht}(h:AW v q 0):eW v∧gY v.sp q:=by
 generalize hz:(0:Int)=z at h
 cases h with
 |bad h he=>exact (he hz.symm).elim
 |what=>omega
 |ok h h1=>exact ⟨h,h1⟩
theorem AW.qty{v:Srv}{q:Wht}{e:Int}(h:AW v q e)(he:e≠0):Dd v q 0 0 e:=by
 cases h with
 |bad h he=>exact .bad h he
 |what h h1=>exact .what h h1
 |ok=>exact (he rfl).elim
theorem FE{v:Srv}(h:eW v){q:Wht}(hq:gY v.sp q)(i:Nat): -3456000000000≤gi (v.w q) i∧gi (v.w q) i≤3456000000000:=by
 unfold Srv.w
 rw [kP]
 by_cases hi:i<v.sp.many+1
 ·have h1:=m9 h.early.1 hq
  have h2:=jF (kE v.sp q) hi
  omega
 ·have:gi (kE v.sp q) i=0:=by simp [gi,List.getD,List.getElem?_eq_none (show (kE v.sp q).length≤i by rw [gd];omega)]
  rw [this];omega
def Jj(w:List Int)(high:Bool):List Int:=if high then w else uX w
set_option maxHeartbeats 2000000 in
theorem uO{s:Srv}{q:Wht}{vst vwa vr vc:Value}{high:Bool}(hs:St H w σ)(h1:RI H vst s.sp.st)(h2:RI H vwa s.sp.wa)(h3:RRd H vr s.rs)(h4:RCm H vc s.cs):
  Cl Tryz.prog 201 [.agg #[I s.sp.id,I s.sp.src,vst,vwa,I s.sp.al,I s.sp.up,vr,vc],.agg #[I q.kind,I q.st,I q.wa],.bool high] w fun u w'=>∃H1 m ul vw d e,HLe H H1∧u= .tuple #[.agg #[I m,ul],vw,I d,I e]∧(∃a l c,ul= .slice a l c)∧(∃a l c,vw= .slice a l c)∧AW s q e∧(e=0→m=s.sys.many∧RL H1 ul s.dk∧RI H1 vw (Jj (s.w q) high)∧d=oy q)∧St H1 w' σ:=by
 have hn:=yZ s
 refine Cl.o Tryz.func201 Tryz.ntmps201 ag3 ?_
 refine .aj (.bx hs fun b3 w hs=>?_)
 refine .bx hs fun b4 w hs=>?_
 refine .o (.alloc hs dD rfl fun b6 w hs=>?_)
 refine .z zg (.z zg (.zn zg (.aj (.y hs (zls [_,_,_,_,_,_,_,_] aN aC) (.o (.call Tryz.call123 rfl (ob (s:=s) hs h1 h2 h3 h4) ?_))))));rintro _ w ⟨H1,e,hle1,rfl,hC,hs⟩
 refine .zn zg (.seq (.aj (.z zm (.zn gE (.dV rfl (fun hc18=>?_) (fun hc18=>?_))))))
 ·refine .aj (.z (zbd [_,_] jC) (.z zm (.o (.aP (vs:=[_,_]) hs rfl rfl aI fun w hs=>?_))))
  refine .z zg (.z zg (.zn zg (.ret (rT (?_)))))
  exact Fin.iM [] [] hs fun w hs=>⟨_,results4 Tryz.results201 (dy (vs:=[_,_]) hs rfl bq aI) rfl rfl rfl,H1,_,_,_,_,e,hle1,rfl,⟨_,_,_,rfl⟩,⟨_,_,_,rfl⟩,.bad hC hc18,fun h=>(hc18 h).elim,hs.out⟩
 ·refine .skip (nT (.seq (.aj (.z (zfa bn) (.y hs (zls [_,_,_,_,_,_] bg aM) (.y hs (zls [_,_,_] lK gx) ?_))))))
  have hok:eW s:=hC.dU.1 (by simpa using hc18)
  have hm:=hok.many
  have hsm:s.sys.many+1=(s.sys.n:Int):=by rw [hn];show ((s.sp.many+s.cV.length:Nat):Int)+1=_;omega
  refine .o (.call Tryz.call155 rfl (tD (s:=s.sp) (q:=q) hs (h1.mono hle1) (h2.mono hle1)) ?_);rintro _ w ⟨b24,rfl,hb24,hs⟩
  refine .zn fZ (.cond rfl (fun hc25=>?_) (fun hc25=>?_))
  ·refine .aj (.z (zbd [_,_] jC) (.o (.aP (vs:=[_,_]) hs rfl rfl aI fun w hs=>?_)))
   refine .z zg (.z zg (.zn zg (.ret (rT (?_)))))
   exact Fin.iM [] [] hs fun w hs=>⟨_,results4 Tryz.results201 (dy (vs:=[_,_]) hs rfl bq aI) rfl rfl rfl,H1,_,_,_,_,_,hle1,rfl,⟨_,_,_,rfl⟩,⟨_,_,_,rfl⟩,.what hok (fun h=>by rw [hb24.2 h] at hc25;cases hc25),fun h=>by omega,hs.out⟩
  ·refine .skip (nT (.aj (.y hs (zls [_,_,_,_,_,_,_,_] aN aC) ?_)))
   have hq:gY s.sp q:=hb24.1 (by simpa using hc25)
   have hwb:=FE hok hq
   have hwl:=uo s q
   refine .o (.call Tryz.call205 rfl (kv (s:=s) hs (h1.mono hle1) (h2.mono hle1) (h3.mono hle1) (h4.mono hle1) hok.early) ?_);rintro _ w ⟨H2,hle2,⟨ul,rfl,hL⟩,hs⟩
   obtain ⟨al,cl,rfl⟩:=RL.shape hL
   have hle02:=hle1.trans hle2
   refine .o (.alloc hs dD rfl fun b11 w hs=>?_)
   refine .o (.aP (vs:=[_,_]) hs rfl rfl aI fun w hs=>?_)
   refine .nil (.aj (.z (zfa bn) (.y hs (zls [_,_,_,_,_,_] bg aM) (.y hs (zls [_,_,_] lK gx) (.o (.call Tryz.call156 rfl (tC (s:=s.sp) (q:=q) hs (h1.mono hle02) (h2.mono hle02) hok.early.1 hq) ?_))))));rintro _ w ⟨H3,vl,en,hle3,rfl,hO,hs⟩
   have hle03:=hle02.trans hle3
   have hL0:=gd s.sp q
   refine .z zm (.z zex (.z zex (.z zg (.zn zg (.seq (.block ?_))))))
   refine .loop (fun p:Nat×Value=>⟨64,[],[(12,p.2),(13,I (oy q)),(11,Pt b11),(6,Pt b6),(2,.bool high)]⟩)
    (fun p w=>(kE s.sp q).length+p.1≤s.sys.n∧∃en,cZ 1 p.2 (Is (kE s.sp q++List.replicate p.1 0)) en∧St H3 w (en:: .blk b11 [I s.sys.many,.slice al s.dk.length cl]:: .blk b6 [I 0,.slice none 0 0]::σ)) (fun p=>s.sys.n - ((kE s.sp q).length+p.1)) (0,vl) aU
    ⟨by dsimp only;omega,en,by simpa using hO,hs.sb⟩ ?_
   clear hO hs
   rintro ⟨j,vo⟩ w ⟨hj,en,hO,hs⟩
   dsimp only at hj hO ⊢
   obtain ⟨bo,cap,sp,hv,rfl,hcap⟩:=hO.blk (by simp;omega)
   cases hv
   have hWxl:(kE s.sp q++List.replicate j 0).length=(kE s.sp q).length+j:=by simp
   generalize hWx:kE s.sp q++List.replicate j 0=Wx at*
   refine .seq (.aj (.z zm (.z (dc ae) (.z (zfa cE) (.y hs (zld af) (.z cK (.zn fM (.bA rfl (fun hc41=>?_) (fun hc41=>?_)))))))))
   ·refine .skip (nT (.block (.region (.z zm (.o (.buildSlice (cells:=[_]) hs db rfl rfl fun b43 w hs=>?_))))))
    refine .o (.append (ys:=Is [0]) hs cM rfl rfl hO (.own .here rfl rfl) (iL _) (fun l' h=>by simp [Is] at h;omega) ?_);intro v44 en44 w hO2 hs
    rw [←hWx,show Is (kE s.sp q++List.replicate j 0)++Is [0]=Is (kE s.sp q++List.replicate (j+1) 0) by rw [←CB];simp [Is]] at hO2
    refine .zn zg (nB (nT ?_))
    exact ⟨(j+1,v44),aU,⟨by dsimp only;omega,_,hO2,hs.sb⟩,by dsimp only;omega⟩
   ·refine .exit (xT (xT (xB (nT (.cut (fun fs w=>∃W',W'=Jj Wx high∧ke fs ⟨64,[],[(12,.slice (some ⟨bo,0,none⟩) Wx.length cap),(13,I (oy q)),(11,Pt b11),(6,Pt b6)]⟩∧St H3 w (.blk bo (Is W'++sp):: .blk b11 [I s.sys.many,.slice al s.dk.length cl]:: .blk b6 [I 0,.slice none 0 0]::σ)) ?_ ?_)))))
    ·refine .aj (.z zm (.zn fZ (.cond rfl (fun hc46=>?_) (fun hc46=>?_))))
     ·refine .aj (.zn zg (.block ?_))
      have hWeq:Wx=s.w q:=by rw [←hWx];unfold Srv.w;rw [show j=s.cV.length by omega]
      subst hWeq
      refine .loop (fun k:Nat=>⟨64,[],[(14,I (k:Int)),(12,.slice (some ⟨bo,0,none⟩) (s.w q).length cap),(13,I (oy q)),(11,Pt b11),(6,Pt b6)]⟩)
       (fun k w=>k≤s.sys.n∧∃L,L.length=s.sys.n∧(∀v<s.sys.n,gi L v=if v<k then -gi (s.w q) v else gi (s.w q) v)∧St H3 w (.blk bo (Is L++sp):: .blk b11 [I s.sys.many,.slice al s.dk.length cl]:: .blk b6 [I 0,.slice none 0 0]::σ)) (fun k=>s.sys.n - k) 0 (.cJ rfl cq aU)
       ⟨Nat.zero_le _,s.w q,hwl,fun v _=>by rw [if_neg an],hs⟩ ?_
      clear hs
      rintro k w ⟨hk,L,hLl,hLg,hs⟩
      refine .seq (.aj (.z zm (.z zm (.z (dc ae) (.zn fM (.bA rfl (fun hc50=>?_) (fun hc50=>?_)))))))
      ·refine .skip (nT (.seq (.block (.region (.z zm (.z zm (.z zm (.z zm ?_))))))))
       have hkn:k<s.sys.n:=by omega
       have hgk:=hLg k hkn
       rw [if_neg an] at hgk
       have hbk:=hwb k
       refine .q hs (eF (k:=k) rfl rfl ae ai rfl an) (.q hs (eg rfl af (hv:=gu an sp)) (.z BQ (.q hs (eF (k:=k) rfl rfl ae ai rfl an) (.o (.store (c':=Is (L.set k (-gi L k))++sp) hs rfl rfl ai ?_ dn (by simp [Is];omega) (jD an sp _))))));intro w hs
       refine .nil (nB (nT (.region (.z zm (.z cK (.zn zg (nT ?_)))))))
       exact ⟨k+1,.cJ rfl cq aU,⟨an,_,by rw [List.length_set];exact hLl,fun v hv=>by
        rw [fb an]
        by_cases e:v=k
        ·subst e;rw [if_pos rfl,if_pos an,hgk]
        ·rw [if_neg e,hLg v hv]
         by_cases e2:v<k
         ·rw [if_pos e2,if_pos an]
         ·rw [if_neg e2,if_neg an],hs⟩,an⟩
      ·refine .exit (xT (xT (xB (nT ?_))))
       have hf:high=false:=by simpa using hc46
       refine ⟨L,?_,aU,hs⟩
       unfold Jj;rw [hf]
       refine xh (by rw [hLl];simp [uX,hwl]) fun v hv=>?_
       rw [hLg v an,if_pos an]
       show _=gi ((s.w q).map fun x=> -x) v
       simp [gi,List.getD,List.getElem?_map]
       cases (s.w q)[v]? <;>simp
     ·refine .skip (nT ?_)
      have hf:high=true:=by simpa using hc46
      exact ⟨Wx,by unfold Jj;rw [hf];rfl,aU,hs⟩
    ·clear hO hs
     rintro fs w ⟨W',hW',hfs,hs⟩
     refine WE.sub ?_ hfs
     have hWeq:Wx=s.w q:=by rw [←hWx];unfold Srv.w;rw [show j=s.cV.length by omega]
     subst hWeq
     have hWl:W'.length=(s.w q).length:=by rw [hW'];unfold Jj;split<;>simp [uX]
     refine .aj (.y hs (zls [_,_] bq aI) (.z zm (.z zm (.o (.aP (vs:=[_,_]) hs rfl rfl aI fun w hs=>?_)))))
     refine .z zg (.z zg (.zn zg (.ret ?_)))
     obtain ⟨H4,hle4,hR,hs⟩:=cZ.dS (xs:=W') (v:= .slice (some ⟨bo,0,none⟩) (s.w q).length cap) (.inr ⟨bo,_,cap,sp,rfl,rfl,by simp [Is,hWl],by simp [Is];omega,an⟩) an hs dn
     exact Fin.iM [] [] hs fun w hs=>⟨_,results4 Tryz.results201 (dy (vs:=[_,_]) hs rfl bq aI) rfl rfl rfl,H4,_,_,_,_,_,hle03.trans hle4,rfl,⟨_,_,_,rfl⟩,⟨_,_,_,rfl⟩,.ok hok hq,fun _=>⟨rfl,hL.mono (hle3.trans hle4),by rw [←hW'];exact hR,rfl⟩,hs.out⟩
set_option maxHeartbeats 1000000 in
theorem uQ{s:Srv}{q:Wht}{vst vwa vr vc:Value}(hs:St H w σ)(h1:RI H vst s.sp.st)(h2:RI H vwa s.sp.wa)(h3:RRd H vr s.rs)(h4:RCm H vc s.cs):
  Cl Tryz.prog 143 [.agg #[I s.sp.id,I s.sp.src,vst,vwa,I s.sp.al,I s.sp.up,vr,vc],.agg #[I q.kind,I q.st,I q.wa]] w fun u w'=>∃H1 lo hi e,HLe H H1∧u= .tuple #[.agg #[I lo,I hi],I e]∧Dd s q lo hi e∧St H1 w' σ:=by
 refine Cl.o Tryz.func143 Tryz.ntmps143 ag2 ?_
 refine .aj (.bx hs fun b2 w hs=>?_)
 refine .bx hs fun b3 w hs=>?_
 refine .o (.alloc hs bP rfl fun b4 w hs=>?_)
 refine .zn zg (.aj (.y hs (zls [_,_,_,_,_,_,_,_] aN aC) (.y hs (zls [_,_,_] lK gx) (.o (.call Tryz.call201 rfl (uO (s:=s) (q:=q) (high:=true) hs h1 h2 h3 h4) ?_)))));rintro _ w ⟨H1,m,ul,vw,d,e,hle1,rfl,⟨al,ll,cl,rfl⟩,⟨aw,lw,cw,rfl⟩,hA,hA0,hs⟩
 refine .z zm (.z zex (.z zex (.z zex (.z zex (.o (.alloc hs dD rfl fun b6 w hs=>?_))))))
 refine .o (.aP (vs:=[_,_]) hs rfl rfl aI fun w hs=>?_)
 refine .z zg (.z zg (.zn zg (.seq (.aj (.z zm (.zn gE (.dV rfl (fun hc22=>?_) (fun hc22=>?_))))))))
 ·refine .aj (.z (zbd [_,_] bU) (.z zm (.o (.aP (vs:=[_,_]) hs rfl rfl au fun w hs=>?_))))
  refine .zn zg (.ret (rT (?_)))
  exact Fin.iM [] [] hs fun w hs=>⟨_,results2 Tryz.results143 (dy (vs:=[_,_]) hs rfl aW au) rfl,H1,_,_,_,hle1,rfl,hA.qty hc22,hs.out⟩
 ·refine .skip (nT (.aj (.y hs (zls [_,_] bq aI) (.z zm ?_))))
  obtain rfl:e=0:=by simpa using hc22
  obtain ⟨rfl,hL,hR,rfl⟩:=hA0 rfl
  obtain ⟨hok,hq⟩:=hA.zero
  refine .o (.call Tryz.call204 rfl (uU (s:=s.sys) hs ⟨_,rfl,hL⟩ hR) ?_);rintro _ w ⟨H2,lo,hi,f,hle2,rfl,hRg,hs⟩
  have hRg:iE s.sys (s.w q) lo hi f:=hRg
  have hbd:=hRg.bd
  have hdp:=zE q
  refine .z zm (.z zex (.z zex (.z zex (.z zg (.z zg (.zn zg (.seq (.aj (.z zm (.zn gE (.dV rfl (fun hc33=>?_) (fun hc33=>?_))))))))))))
  ·refine .aj (.z (zbd [_,_] bU) (.o (.aP (vs:=[_,_]) hs rfl rfl au fun w hs=>?_)))
   refine .zn zg (.ret (rT (?_)))
   have hns:¬s.sys.Sound:=fun h=>hc33 (sM (hok.ask hq) h (fun b=>s.both) hRg)
   exact Fin.iM [] [] hs fun w hs=>⟨_,results2 Tryz.results143 (dy (vs:=[_,_]) hs rfl aW au) rfl,H2,_,_,_,hle1.trans hle2,rfl,.fls hok hq hns,hs.out⟩
  ·refine .skip (nT (.aj (.z zm (.z zm ?_))))
   obtain rfl:f=0:=by simpa using hc33
   have hsd:s.sys.Sound:=Classical.byContradiction fun h=>by have:=BE (hok.ask hq) h hRg;omega
   refine .o (.call Tryz.call119 rfl (ma hs an an) ?_);rintro _ w ⟨rfl,hs⟩
   refine .z zm (.z zm (.o (.call Tryz.call119 rfl (ma hs an an) ?_)));rintro _ w ⟨rfl,hs⟩
   refine .z (zbd [_,_] bU) (.o (.aP (vs:=[_,_]) hs rfl rfl au fun w hs=>?_))
   refine .zn zg (.ret ?_)
   exact Fin.iM [] [] hs fun w hs=>⟨_,results2 Tryz.results143 (dy (vs:=[_,_]) hs rfl aW au) rfl,H2,_,_,_,hle1.trans hle2,rfl,.ok hok hq hsd hRg,hs.out⟩
theorem cQ{n m:Int}(hs:St H w σ)(hm:1≤m∧m≤4611686018427387904):
  Cl Tryz.prog 90 [I n,I m] w fun u w'=>∃k:Nat,(k:Int)<m∧u=I (k:Int)∧St H w' σ:=by
 have h1:=Int.tmod_lt_of_pos n (show 0<m by omega)
 have h2:=Int.lt_tmod_of_pos n (show 0<m by omega)
 have h3:=Int.tmod_lt_of_pos (n.tmod m+m) (show 0<m by omega)
 have h4:=Int.tmod_nonneg m (show 0≤n.tmod m+m by omega)
 refine Cl.o Tryz.func90 Tryz.ntmps90 ag2 ?_
 refine .aj (.zn zg (.aj (.z zm (.z zm (.z A4 (.z zm (.z cK (.z zm (.z A4 (.zn zg (.ret (Fin.bE Tryz.results90 rfl ?_))))))))))))
 exact ⟨((n.tmod m+m).tmod m).toNat,an,by rw [show (((n.tmod m+m).tmod m).toNat:Int)=(n.tmod m+m).tmod m by omega],hs⟩
theorem dE{v:Value}{l:List Int}{i n:Int}(hs:St H w σ)(hr:RI H v l)(hi:0≤i)(hn:1≤n∧n≤4611686018427387904):
  Cl Tryz.prog 146 [v,I i,I n] w fun u w'=>∃k:Nat,(k:Int)<n∧u=I (k:Int)∧St H w' σ:=by
 obtain ⟨a,c,rfl⟩:=RI.shape hr
 refine Cl.o Tryz.func146 Tryz.ntmps146 ag3 ?_
 refine .aj (.zn zg (.seq (.aj (.z zm (.z (dc ae) (.zn fm (.bA rfl (fun hc9=>?_) (fun hc9=>?_))))))))
 ·refine .aj (.zn zg (.ret (rT (Fin.bE Tryz.results146 rfl ?_))))
  exact ⟨0,an,rfl,hs⟩
 ·refine .skip (nT (.aj (.z zm (.z zm (.z zm (.z (dc ae) (.z A4 ?_)))))))
  have g1:=Int.tmod_lt_of_pos i (show 0<(l.length:Int) by omega)
  have g2:=Int.tmod_nonneg (l.length:Int) hi
  refine .ixY hs hr rfl rfl ae ai (bB (l:=l) (i:=(i.tmod l.length).toNat) an) an ?_;intro b15 o15 hc15
  refine .q hs (aJ rfl af hc15) (.z zm (.o (.call eo rfl (cQ hs hn) ?_)));rintro _ w ⟨k,hk,rfl,hs⟩
  refine .zn zg (.ret (Fin.bE Tryz.results146 rfl ?_))
  exact ⟨k,hk,rfl,hs⟩
theorem wN{v vp:Value}{s:dp}{kK:List Int}(hs:St H w σ)(hr:RSy H v s)(hp:RI H vp kK)(hgood:s.Ok∧s.Sound):
  Cl Tryz.prog 149 [v,vp] w fun u w'=>∃H1 vx x en,HLe H H1∧u= .tuple #[vx,I 0]∧cZ 1 vx (Is x) en∧yM s kK x∧St H1 w' (en::σ):=by
 obtain ⟨ul,rfl,hl⟩:=hr
 obtain ⟨al,cl,rfl⟩:=RL.shape hl
 obtain ⟨ap,cp,rfl⟩:=RI.shape hp
 refine Cl.o Tryz.func149 Tryz.ntmps149 ag2 ?_
 refine .aj (.bx hs fun b2 w hs=>?_)
 refine .z zg (.zn zg (.aj (.y hs (zls [_,_] bq aI) (.o (.call Tryz.call147 rfl (k7 (s:=s) hs ⟨_,rfl,hl⟩) ?_)))));rintro _ w ⟨H1,vt,e,hle1,rfl,hcase,hs⟩
 refine .z zm (.z zex (.z zex (.z zg (.zn zg (.seq (.aj (.z zm (.zn gE (.dV rfl (fun hc20=>?_) (fun hc20=>?_))))))))))
 ·refine .aj (.z zm (.z zg (.zn zg (.ret (rT (Fin.gL Tryz.results149 rfl rfl ?_))))))
  rcases hcase with ⟨h1,rfl,rfl⟩|⟨h1,h2,rfl,rfl⟩|⟨_,_,rfl,_⟩
  ·exact (h1 (s.dU.2 hgood.1)).elim
  ·exact (h2 hgood.2).elim
  ·exact (hc20 rfl).elim
 ·refine .skip (nT (.aj ?_))
  subst hc20
  obtain ⟨hok,hsd,rs,hRT,hSq,hWT⟩:s.Ok∧s.Sound∧∃rs,RT H1 vt rs∧Sq s.n rs∧jP s.n s.dK (gt rs):=by
   rcases hcase with ⟨h1,h2,_⟩|⟨_,_,h2,_⟩|⟨h1,h2,_,h3⟩
   ·exact (h1 h2.symm).elim
   ·omega
   ·exact ⟨h1,h2,h3⟩
  obtain ⟨at',ct,rfl⟩:=hRT.shape
  have hTS:=hok.JA hsd hWT
  have hrl:=hSq.1
  have hm0:=hok.m0
  have hm1:=hok.m1
  have hnn:(s.n:Int)=s.many+1:=by simp only [dp.n];omega
  refine .o (.buildSlice (cells:=[_]) hs db rfl rfl fun b22 w hs=>?_)
  refine .zn zg (.seq (.aj (.zn zg (.block ?_))))
  refine .loop (fun p:List Int×Value=>⟨109,[],[(9,I (p.1.length:Int)),(8,p.2),(6,.slice at' rs.length ct),(2,Pt b2),(1,.slice ap kK.length cp)]⟩)
   (fun p w=>Io (gt rs) (r9 kK) p.1∧p.1.length≤s.n∧∃en,cZ 1 p.2 (Is p.1) en∧St H1 w (en:: .blk b2 [I s.many,.slice al s.dk.length cl]::σ))
   (fun p=>s.n - p.1.length) ([0],.slice (some ⟨b22,0,none⟩) 1 1) aU
   ⟨.start,s.CY,_,.full (len:=1) rfl,hs⟩ ?_
  rintro ⟨X,v8⟩ w ⟨hP,hXn,en,hO,hs⟩
  dsimp only at hP hXn hO ⊢
  have hI:=hP.inv (fun i n hn=>zf kK i hn) hTS hXn
  have hX0:=hI.l0
  have hO1:=hO
  obtain ⟨b,cap,sp,rfl,rfl,hcap⟩:=hO.some hX0
  refine .seq (.aj (.z zm (.z (zfa cE) (.y hs (zld af) (.zn nF (.bA rfl (fun hc26=>?_) (fun hc26=>?_)))))))
  ·refine .skip (nT (.seq (.block (.aj (.zn zg ?_)))))
   have hXl:X.length<s.n:=by omega
   refine .aj (.zn zg (.seq (.aj (.z zm (.z (dc ae) (.zn zm (.for (N:=X.length) (J:=fun k fr w=>∃lo hi,fr=[(10,I lo),(11,I hi),(9,I (X.length:Int)),(8,.slice (some ⟨b,0,none⟩) X.length cap),(6,.slice at' rs.length ct),(2,Pt b2),(1,.slice ap kK.length cp)]∧LoI (gt rs) X X.length k lo∧HiI (gt rs) X X.length k hi∧St H1 w (.blk b (Is X++sp):: .blk b2 [I s.many,.slice al s.dk.length cl]::σ)) an ?_ ?_ ?_)))))))
   ·exact .mk ⟨_,_,rfl,.start _ _ _,.start _ _ _,hs⟩
   ·rintro k fr w hk ⟨lo,hi,rfl,hLo,hHi,hs⟩
    have hXk:=hI.bd k hk
    have hr1:(gr rs X.length).length=s.n:=hSq.2 _ hXl
    have hr2:(gr rs k).length=s.n:=hSq.2 _ an
    have hb1:gi (gr rs X.length) k≠1000000000→-1400000≤gi (gr rs X.length) k∧gi (gr rs X.length) k≤1400000:=fun h=>hTS.bd X.length k hXl an h
    have hb2:gi (gr rs k) X.length≠1000000000→-1400000≤gi (gr rs k) X.length∧gi (gr rs k) X.length≤1400000:=fun h=>hTS.bd k X.length an hXl h
    refine .block (.aj (.z zm (.zn zg (.cut (fun fs w=>∃lo',ke fs ⟨109,[],[(10,I lo'),(12,I (k:Int)),(31,I (k:Int)),(30,I (X.length:Int)),(11,I hi),(9,I (X.length:Int)),(8,.slice (some ⟨b,0,none⟩) X.length cap),(6,.slice at' rs.length ct),(2,Pt b2),(1,.slice ap kK.length cp)]⟩∧LoI (gt rs) X X.length (k+1) lo'∧St H1 w (.blk b (Is X++sp):: .blk b2 [I s.many,.slice al s.dk.length cl]::σ)) ?_ ?_))))
    ·refine .aj (.z zm (.z zm (.ixT hs hRT rfl rfl az aA (show X.length<rs.length by omega) rfl ?_)));intro b36 o36 a36 c36 hc36 hR36
     refine .q hs (aJ rfl aq hc36) (.z zm (.ixY hs hR36 rfl rfl ae ai (bB (l:=gr rs X.length) (i:=k) an) rfl ?_));intro b39 o39 hc39
     refine .q hs (aJ rfl af hc39) (.zn gE (.dV rfl (fun hc41=>?_) (fun hc41=>?_)))
     ·refine .draw mix rfl hs fun w hs=>?_
      refine .zw 0 rfl zm ?_;refine .z 1 rfl zm ?_;refine .z 2 rfl zm ?_;refine .z 3 rfl (zix ae ai) ?_
      refine .load (i:=4) hs rfl aD .none rfl af ?_ (hv:=gu hk sp)
      refine .zw 5 rfl zm ?_;refine .z 6 rfl zm ?_
      refine .ixT (i:=7) hs rfl aD .none hRT rfl rfl az aA (show X.length<rs.length by omega) rfl ?_;intro b49 o49 a49 c49 hc49 hR49
      refine .r (i:=8) hs rfl aD .none (aJ rfl aq hc49) ?_
      refine .zw 9 rfl zm (.ixX (enc:=fun x=>[I x]) (i:=10) hs rfl aD .none hR49 rfl rfl ae ai (bB (l:=gr rs X.length) (i:=k) an) rfl ?_);intro b52 o52 hc52;replace hc52:=bL.one hc52
      refine .r (i:=11) hs rfl aD .none (aJ rfl af hc52) ?_
      refine .zw 12 rfl fY ?_;refine .z 13 rfl A5 ?_;refine .z 14 rfl zg ?_;refine .D hs ?_
      refine nT ?_
      exact ⟨_,aU,hLo.put hc41 (by have:=hb1 hc41;have:=hXk;have:=hTS.n65;show -1000000000≤gi X k - gi (gr rs X.length) k;omega),hs⟩
     ·refine .skip (nT ?_)
      exact ⟨_,aU,hLo.skip hc41,hs⟩
    ·rintro fs w ⟨lo',hfs,hLo',hs⟩
     refine WE.sub ?_ hfs
     refine .aj (.z zm (.z zm (.ixT hs hRT rfl rfl az aA (show k<rs.length by omega) rfl ?_)));intro b58 o58 a58 c58 hc58 hR58
     refine .q hs (aJ rfl aq hc58) (.z zm (.ixY hs hR58 rfl rfl ae ai (bB (l:=gr rs k) (i:=X.length) an) rfl ?_));intro b61 o61 hc61
     refine .q hs (aJ rfl af hc61) (.zn gE (.dV rfl (fun hc63=>?_) (fun hc63=>?_)))
     ·refine .draw mix rfl hs fun w hs=>?_
      refine .zw 0 rfl zm ?_;refine .z 1 rfl zm ?_;refine .z 2 rfl zm ?_;refine .z 3 rfl (zix ae ai) ?_
      refine .load (i:=4) hs rfl aD .none rfl af ?_ (hv:=gu hk sp)
      refine .zw 5 rfl zm ?_;refine .z 6 rfl zm ?_
      refine .ixT (i:=7) hs rfl aD .none hRT rfl rfl az aA (show k<rs.length by omega) rfl ?_;intro b71 o71 a71 c71 hc71 hR71
      refine .r (i:=8) hs rfl aD .none (aJ rfl aq hc71) ?_
      refine .zw 9 rfl zm (.ixX (enc:=fun x=>[I x]) (i:=10) hs rfl aD .none hR71 rfl rfl ae ai (bB (l:=gr rs k) (i:=X.length) an) rfl ?_);intro b74 o74 hc74;replace hc74:=bL.one hc74
      refine .r (i:=11) hs rfl aD .none (aJ rfl af hc74) ?_
      refine .zw 12 rfl cK ?_;refine .z 13 rfl zR ?_;refine .z 14 rfl zg ?_;refine .D hs ?_
      refine nB (nT ?_)
      exact .mk ⟨lo',_,rfl,hLo',hHi.put hc63 (by have:=hb2 hc63;have:=hXk;have:=hTS.n65;show gi X k+gi (gr rs k) X.length≤1000000000;omega),hs⟩
     ·refine .skip (nB (nT ?_))
      exact .mk ⟨lo',_,rfl,hLo',hHi.skip hc63,hs⟩
   ·rintro fr w ⟨lo,hi,rfl,hLo,hHi,hs⟩
    have hlb:=hLo.bd hI hTS hXl (Nat.le_refl _)
    have hhb:=hHi.bd hI hTS hXl (Nat.le_refl _)
    have hle:=hI.le hTS hXl rfl hLo hHi
    simp only [free] at hlb hhb hle
    have hpk:=zf kK ((X.length:Int) - 1) (n:=hi - lo+1)
    refine nT (.aj (.zn zg (.cut (fun fs w=>ke fs ⟨109,[],[(13,I (lq lo hi (r9 kK ((X.length:Int) - 1) (hi - lo+1)))),(9,I (X.length:Int)),(8,.slice (some ⟨b,0,none⟩) X.length cap),(6,.slice at' rs.length ct),(2,Pt b2),(1,.slice ap kK.length cp)]⟩∧St H1 w (.blk b (Is X++sp):: .blk b2 [I s.many,.slice al s.dk.length cl]::σ)) ?_ ?_)))
    ·refine .block (.aj (.z zm (.z gE (.z zm (.AS (t':=82) rfl (fun hb82=>?_) (fun hb82=>?_))))))
     ·refine .T (.z zm (.T (.z gE (.z zpT (.zn zg (.dV rfl (fun hc79=>?_) (fun hc79=>?_)))))))
      ·refine .region (.z zm (.z zm (.z zm (.z fY (.z zm (.z zm (.z fY (.z cK (.o (.call Tryz.call209 rfl (wO hs (hp.mono hle1) an an) ?_))))))))));rintro _ w ⟨rfl,hs⟩
       have hq1:hi≠1000000000:=by simpa using hc79
       have hq2:=hle (by simpa using hb82) hq1
       have hq3:=hpk an
       refine .z cK (.zn zg (nB (nT (⟨.cJ rfl ?_ aU,hs⟩))))
       unfold lq
       simp only [free] at*
       split<;>(try split)<;>first|rfl|omega|(simp_all;done)|(exfalso;simp_all;omega)
      ·refine .aj (.z zm (.z gE (.zn zg (.dV rfl (fun hc96=>?_) (fun hc96=>?_)))))
       ·refine .region (.z zm (.zn zg (nB (nT (⟨.cJ rfl ?_ aU,hs⟩)))))
        unfold lq
        simp only [free] at*
        split<;>(try split)<;>first|rfl|omega|(simp_all;done)|(exfalso;simp_all;omega)
       ·refine .aj (.z zm (.z gE (.zn zg (.dV rfl (fun hc100=>?_) (fun hc100=>?_)))))
        ·refine .region (.z zm (.zn zg (nB (nT (⟨.cJ rfl ?_ aU,hs⟩)))))
         unfold lq
         simp only [free] at*
         split<;>(try split)<;>first|rfl|omega|(simp_all;done)|(exfalso;simp_all;omega)
        ·refine .skip (nB (nT (⟨.cJ rfl ?_ aU,hs⟩)))
         unfold lq
         simp only [free] at*
         split<;>(try split)<;>first|rfl|omega|(simp_all;done)|(exfalso;simp_all;omega)
     ·refine .Fs 2 2 true (.z zpF (.zn zg (.cF (.aj (.z zm (.z gE (.zn zg (.dV rfl (fun hc96=>?_) (fun hc96=>?_)))))))))
      ·refine .region (.z zm (.zn zg (nB (nT (⟨.cJ rfl ?_ aU,hs⟩)))))
       unfold lq
       simp only [free] at*
       split<;>(try split)<;>first|rfl|omega|(simp_all;done)|(exfalso;simp_all;omega)
      ·refine .aj (.z zm (.z gE (.zn zg (.dV rfl (fun hc100=>?_) (fun hc100=>?_)))))
       ·refine .region (.z zm (.zn zg (nB (nT (⟨.cJ rfl ?_ aU,hs⟩)))))
        unfold lq
        simp only [free] at*
        split<;>(try split)<;>first|rfl|omega|(simp_all;done)|(exfalso;simp_all;omega)
       ·refine .skip (nB (nT (⟨.cJ rfl ?_ aU,hs⟩)))
        unfold lq
        simp only [free] at*
        split<;>(try split)<;>first|rfl|omega|(simp_all;done)|(exfalso;simp_all;omega)
    ·rintro fs w ⟨hfs,hs⟩
     refine WE.sub ?_ hfs
     refine .region (.z zm (.z zm (.o (.buildSlice (cells:=[_]) hs db rfl rfl fun b106 w hs=>?_))))
     refine .o (.append (ys:=Is [lq lo hi (r9 kK ((X.length:Int) - 1) (hi - lo+1))]) hs cM rfl rfl hO1 (.own .here rfl rfl) (iL _) (fun l' h=>by simp at h;have:=hTS.n65;omega) ?_);intro v107 en107 w hO2 hs
     rw [←List.map_append] at hO2
     refine .zn zg (nB (nT (.region (.z zm (.z cK (.zn zg (nT ?_)))))))
     exact ⟨(X++[lq lo hi (r9 kK ((X.length:Int) - 1) (hi - lo+1))],v107),.cJ rfl cq aU,⟨hP.snoc hLo hHi,by simp;omega,_,hO2,hs.sb⟩,by simp;omega⟩
  ·refine .exit (xT (xT (xB (nT (.aj (.z zm (.z zg (.zn zg (.ret (Fin.gL Tryz.results149 rfl rfl ?_))))))))))
   exact ⟨H1,_,X,_,hle1,rfl,hO1,⟨gt rs,hWT,hP,an⟩,hs.sb⟩
theorem pj{s:Srv}{vst vwa vr vc:Value}(hs:St H w σ)(h1:RI H vst s.sp.st)(h2:RI H vwa s.sp.wa)(h3:RRd H vr s.rs)(h4:RCm H vc s.cs)(he:s.early):
  Cl Tryz.prog 148 [.agg #[I s.sp.id,I s.sp.src,vst,vwa,I s.sp.al,I s.sp.up,vr,vc]] w fun u w'=>∃H1,HLe H H1∧RSy H1 u s.qp∧St H1 w' σ:=by
 obtain ⟨ar,cr,rfl⟩:=RRd.shape h3
 have hfl:=Cr s
 have hrl:=he.2.1
 refine Cl.o Tryz.func148 Tryz.ntmps148 ag1 ?_
 refine .aj (.bx hs fun b1 w hs=>?_)
 refine .o (.alloc hs dD rfl fun b2 w hs=>?_)
 refine .nil (.aj (.y hs (zls [_,_,_,_,_,_,_,_] aN aC) (.o (.call Tryz.call205 rfl (kv (s:=s) hs h1 h2 h3 h4 he) ?_))));rintro _ w ⟨H1,hle1,⟨ul,rfl,hL⟩,hs⟩
 have hL:RL H1 ul s.dk:=hL
 obtain ⟨al,cl,rfl⟩:=RL.shape hL
 have hln:=RS.len hL
 rw [List.length_map] at hln
 refine .o (.alloc hs dD rfl fun b3 w hs=>?_)
 refine .o (.aP (vs:=[_,_]) hs rfl rfl aI fun w hs=>?_)
 refine .nil (.aj (.z (zfa cN) (.y hs (zld dz) (.z (zfa cN) (.y hs (zld dz) (.z (dc a8) (.z (zfa aZ) (.y hs (zld bQ) (.z (dc aB) (.z kd (.z fY (.q hs (pv (k:=s.pD.length) rfl rfl a8 bJ an an) ?_))))))))))))
 have hT:=RS.head hL (k:=s.pD.length) an
 rw [←List.map_take,AB] at hT
 refine .z (zfa cN) (.o (.store hs rfl rfl qA fun w hs=>?_))
 refine .nil (.aj (.y hs (zls [_,_] bq aI) (.o (.aP (vs:=[_,_]) hs rfl rfl aI fun w hs=>?_))))
 refine .nil (.ret ?_)
 exact Fin.iM [] [] hs fun w hs=>⟨_,results1 Tryz.results148 (dy (vs:=[_,_]) hs rfl bq aI),H1,hle1,⟨_,rfl,hT⟩,hs.out⟩
theorem wK{s:Srv}{vst vwa vr vc:Value}(hs:St H w σ)(h1:RI H vst s.sp.st)(h2:RI H vwa s.sp.wa)(h3:RRd H vr s.rs)(h4:RCm H vc s.cs)(he:s.early)(hok:s.qp.Ok):
  Cl Tryz.prog 91 [.agg #[I s.sp.id,I s.sp.src,vst,vwa,I s.sp.al,I s.sp.up,vr,vc]] w fun u w'=>∃H1,∃b:Bool,HLe H H1∧u= .bool b∧(b=false→s.qp.Sound)∧St H1 w' σ:=by
 refine Cl.o Tryz.func91 Tryz.ntmps91 ag1 ?_
 refine .aj (.bx hs fun b1 w hs=>?_)
 refine .zn zg (.aj (.y hs (zls [_,_,_,_,_,_,_,_] aN aC) (.o (.call Tryz.call148 rfl (pj (s:=s) hs h1 h2 h3 h4 he) ?_))));rintro _ w ⟨H1,hle1,hS,hs⟩
 refine .o (.call Tryz.call147 rfl (k7 (s:=s.qp) hs hS) ?_);rintro _ w ⟨H2,vt,e,hle2,rfl,hcase,hs⟩
 refine .z zm (.z zex (.z zex (.z zg (.zn zg (.aj (.z zm (.z gE (.zn zg (.ret (Fin.bE Tryz.results91 rfl ?_))))))))))
 exact ⟨H2,_,hle1.trans hle2,rfl,fun h=>by
  rcases hcase with ⟨k1,_,_⟩|⟨_,_,k3,_⟩|⟨_,k2,_,_⟩
  ·exact (k1 (s.qp.dU.2 hok)).elim
  ·subst k3;simp at h
  ·exact k2,hs.out⟩
theorem wJ{s:Srv}{vst vwa vr vc vp:Value}{kK:List Int}(hs:St H w σ)(h1:RI H vst s.sp.st)(h2:RI H vwa s.sp.wa)(h3:RRd H vr s.rs)(h4:RCm H vc s.cs)(hp:RI H vp kK)(he:s.early)(hok:s.qp.Ok∧s.qp.Sound):
  Cl Tryz.prog 92 [.agg #[I s.sp.id,I s.sp.src,vst,vwa,I s.sp.al,I s.sp.up,vr,vc],vp] w fun u w'=>∃H1 x en,HLe H H1∧cZ 1 u (Is x) en∧yM s.qp kK x∧St H1 w' (en::σ):=by
 obtain ⟨ap,cp,rfl⟩:=RI.shape hp
 refine Cl.o Tryz.func92 Tryz.ntmps92 ag2 ?_
 refine .aj (.bx hs fun b2 w hs=>?_)
 refine .zn zg (.aj (.y hs (zls [_,_,_,_,_,_,_,_] aN aC) (.o (.call Tryz.call148 rfl (pj (s:=s) hs h1 h2 h3 h4 he) ?_))));rintro _ w ⟨H1,hle1,hS,hs⟩
 refine .z zm (.o (.call Tryz.call149 rfl (wN (s:=s.qp) hs hS (hp.mono hle1) hok) ?_));rintro _ w ⟨H2,vx,x,en,hle2,rfl,hO,hP,hs⟩
 refine .z zm (.z zex (.z zex (.z zg (.zn zg (.aj (.z zm (.zn zg (.ret (Fin.bE Tryz.results92 rfl ?_)))))))))
 exact ⟨H2,x,en,hle1.trans hle2,hO,hP,hs.sb⟩
structure Grow(d D:Int)(L:List Int)(x:Int):Prop where
 low:d≤x
 high:x≤d+D*L.length
 all:∀i<L.length,d≤gi L i∧gi L i<x
 rise:∀i,i+1<L.length→gi L i<gi L (i+1)
theorem Grow.start(d D:Int):Grow d D [] d:=⟨an,cq,fun i h=>by simp at h,fun i h=>by simp at h⟩
theorem Grow.snoc{d D x y:Int}{L:List Int}(h:Grow d D L x)(h1:x<y)(h2:y≤x+D):Grow d D (L++[x]) y:=by
 obtain ⟨g1,g2,g3,g4⟩:=h
 refine ⟨an,?_,fun i hi=>?_,fun i hi=>?_⟩
 ·rw [List.length_append,List.length_singleton,Int.natCast_add,Int.mul_add];omega
 ·rw [List.length_append,List.length_singleton] at hi
  rw [zx]
  split
  ·have:=g3 i df;omega
  ·rw [if_pos an];omega
 ·rw [List.length_append,List.length_singleton] at hi
  rw [zx,zx,if_pos an]
  split
  ·exact g4 i df
  ·rw [if_pos an];exact (g3 i an).2
theorem Grow.plc{d D x most:Int}{many:Nat}{L:List Int}(h:Grow d D L x)(hd:0≤d)(h2:2≤L.length)(hm:L.length≤many)(hx:d+D*L.length≤most):fB many most L:=
 ⟨h2,hm,by have:=(h.all 0 an).1;omega,by have:=(h.all (L.length - 1) an).2;have:=h.high;omega,h.rise⟩
structure Ju(s:Spc):Prop where
 ok:fA s
 st:s.st.length≤4
 wa:s.wa.length≤3
set_option maxHeartbeats 1000000 in
theorem q6{v:Value}{l:List Int}(hs:St H w σ)(hr:RI H v l):
  Cl Tryz.prog 89 [v] w fun u w'=>∃s vst vwa e1 e2,u= .agg #[I s.id,I s.src,vst,vwa,I s.al,I s.up]∧Ju s∧cZ 1 vst (Is s.st) e1∧cZ 1 vwa (Is s.wa) e2∧St H w' (e1::e2::σ):=by
 obtain ⟨av,cv,rfl⟩:=RI.shape hr
 refine Cl.o Tryz.func89 Tryz.ntmps89 ag1 ?_
 refine .aj (.o (.alloc hs kh rfl fun b2 w hs=>?_))
 refine .nil (.aj (.z zm (.o (.call im rfl (dE hs hr an an) ?_))));rintro _ w ⟨k11,g11,rfl,hs⟩
 refine .z cK (.z zm (.o (.call im rfl (dE hs hr an an) ?_)));rintro _ w ⟨k14,g14,rfl,hs⟩
 refine .z cK (.z (zbd [_,_,_,_,_,_] sW) (.o (.alloc hs kh rfl fun b3 w hs=>?_)))
 refine .o (.aP (vs:=[_,_,_,_,_,_]) hs rfl rfl aM fun w hs=>?_)
 refine .nil (.aj (.z zm (.o (.call im rfl (dE hs hr an an) ?_))));rintro _ w ⟨k18,g18,rfl,hs⟩
 refine .z cK (.z kd (.zn zg (.aj (.zn zg (.seq (.aj (.zn zg (.block ?_))))))))
 refine .loop (fun p:List Int×Int×Value=>⟨90,[],[(6,I (p.1.length:Int)),(5,I p.2.1),(4,I (100*(1+(k18:Int)))),(0,.slice av l.length cv),(3,Pt b3),(2,Pt b2)]⟩)
  (fun p w=>p.1.length≤4∧Grow 0 2707 p.1 p.2.1∧∃en,cZ 1 p.2.2 (Is p.1) en∧St H w (en:: .blk b3 [I (1+(k11:Int)),I (1+(k14:Int)),p.2.2,.slice none 0 0,I 0,I 0]:: .blk b2 [I 0,I 0,.slice none 0 0,.slice none 0 0,I 0,I 0]::σ)) (fun p=>4 - p.1.length) ([],0,.slice none 0 0) aU
  ⟨cq,.start _ _,_,.nil 1 none,hs.nul⟩ ?_
 clear hs
 rintro ⟨L,x,vo⟩ w ⟨hL4,hG,en,hO,hs⟩
 dsimp only at hL4 hG hO hs ⊢
 obtain ⟨ao,lo,co,rfl,-⟩:=hO.shape
 have hx0:=hG.low
 have hx1:=hG.high
 refine .seq (.aj (.z zm (.z zm (.o (.call im rfl (dE hs hr an an) ?_)))));rintro _ w ⟨k23,g23,rfl,hs⟩
 refine .z cK (.zn fM (.bA rfl (fun hc25=>?_) (fun hc25=>?_)))
 ·refine .skip (nT (.seq (.block (.aj (.z (zfa bV) (.y hs (zld aq) (.z zm (.o (.buildSlice (cells:=[_]) hs db rfl rfl fun b31 w hs=>?_)))))))))
  refine .o (.append (ys:=Is [x]) hs cM rfl rfl hO (.own .here rfl rfl) (iL _) (fun l' h=>by simp at h;omega) ?_);intro v32 en32 w hO2 hs
  rw [←List.map_append] at hO2
  obtain ⟨a32,l32,c32,rfl,-⟩:=hO2.shape
  refine .z (zfa bV) (.o (.store hs rfl rfl aA fun w hs=>?_))
  refine .nil (.region (.z zm (.z zm (.z zm (.z zm (.z cK (.o (.call im rfl (dE hs hr an an) ?_))))))));rintro _ w ⟨k39,g39,rfl,hs⟩
  have m41:=j5 (a:=100*(1+(k18:Int))) (b:=1+(k39:Int)) (A:=900) (B:=3) an an
  have m41':100≤100*(1+(k18:Int))*(1+(k39:Int)):=by
   have:=Int.mul_le_mul (a:=100) (c:=100*(1+(k18:Int))) (b:=1) (d:=1+(k39:Int)) an an an an
   omega
  refine .z cK (.z kd (.z cK (.z zm (.o (.call im rfl (dE hs hr an an) ?_)))));rintro _ w ⟨k44,g44,rfl,hs⟩
  refine .z zm (.z zm (.z cK (.o (.call im rfl (dE hs hr an an) ?_))));rintro _ w ⟨k48,g48,rfl,hs⟩
  have m49:0≤(k44:Int)*(k48:Int)∧(k44:Int)*(k48:Int)≤1:=by
   have e1:k44=0∨k44=1:=by omega
   rcases e1 with rfl|rfl<;>simp<;>omega
  refine .z kd (.z kd (.z cK (.zn zg (nB (nT (.region (.z zm (.z cK (.zn zg (nT ?_))))))))))
  exact ⟨(L++[x],_,.slice a32 l32 c32),.cJ rfl cq aU,⟨by simp;omega,hG.snoc (by dsimp only;omega) (by dsimp only;omega),_,hO2,hs.sb⟩,by simp;omega⟩
 ·refine .exit (xT (xT (xB (nT (.aj (.z zm ?_))))))
  have hL2:2≤L.length:=by omega
  refine .o (.call im rfl (dE hs hr an an) ?_);rintro _ w ⟨k53,g53,rfl,hs⟩
  refine .z cK (.z kd (.zn zg (.aj (.z zm (.o (.call im rfl (dE hs hr an an) ?_))))));rintro _ w ⟨k57,g57,rfl,hs⟩
  refine .z kd (.zn zg (.seq (.aj (.zn zg (.block ?_)))))
  refine .loop (fun p:List Int×Int×Value=>⟨90,[],[(9,I (p.1.length:Int)),(8,I p.2.1),(7,I (50*(1+(k53:Int)))),(0,.slice av l.length cv),(3,Pt b3),(2,Pt b2)]⟩)
   (fun p w=>p.1.length≤3∧Grow (10*(k57:Int)) 1350 p.1 p.2.1∧∃en2,cZ 1 p.2.2 (Is p.1) en2∧St H w (en2:: .blk b3 [I (1+(k11:Int)),I (1+(k14:Int)),.slice ao lo co,p.2.2,I 0,I 0]:: .blk b2 [I 0,I 0,.slice none 0 0,.slice none 0 0,I 0,I 0]::en::σ)) (fun p=>3 - p.1.length) ([],10*(k57:Int),.slice none 0 0) aU
   ⟨cq,.start _ _,_,.nil 1 none,(hs.sb).nul⟩ ?_
  clear hs
  rintro ⟨L2,y,vo2⟩ w ⟨hM4,hG2,en2,hO2,hs⟩
  dsimp only at hM4 hG2 hO2 hs ⊢
  obtain ⟨ap,lp,cp,rfl,-⟩:=hO2.shape
  have hy0:=hG2.low
  have hy1:=hG2.high
  refine .seq (.aj (.z zm (.z zm (.o (.call im rfl (dE hs hr an an) ?_)))));rintro _ w ⟨k61,g61,rfl,hs⟩
  refine .z cK (.zn fM (.bA rfl (fun hc63=>?_) (fun hc63=>?_)))
  ·refine .skip (nT (.seq (.block (.aj (.z (zfa bh) (.y hs (zld aq) (.z zm (.o (.buildSlice (cells:=[_]) hs db rfl rfl fun b69 w hs=>?_)))))))))
   refine .o (.append (ys:=Is [y]) hs cM rfl rfl hO2 (.own .here rfl rfl) (iL _) (fun l' h=>by simp at h;omega) ?_);intro v70 en70 w hO3 hs
   rw [←List.map_append] at hO3
   obtain ⟨a70,l70,c70,rfl,-⟩:=hO3.shape
   refine .z (zfa bh) (.o (.store hs rfl rfl aA fun w hs=>?_))
   refine .nil (.region (.z zm (.z zm (.z zm (.z zm (.z cK (.o (.call im rfl (dE hs hr an an) ?_))))))));rintro _ w ⟨k77,g77,rfl,hs⟩
   have m79:=j5 (a:=50*(1+(k53:Int))) (b:=1+(k77:Int)) (A:=450) (B:=3) an an
   have m79':50≤50*(1+(k53:Int))*(1+(k77:Int)):=by
    have:=Int.mul_le_mul (a:=50) (c:=50*(1+(k53:Int))) (b:=1) (d:=1+(k77:Int)) an an an an
    omega
   refine .z cK (.z kd (.z cK (.zn zg (nB (nT (.region (.z zm (.z cK (.zn zg (nT ?_))))))))))
   exact ⟨(L2++[y],_,.slice a70 l70 c70),.cJ rfl cq aU,⟨by simp;omega,hG2.snoc (by dsimp only;omega) (by dsimp only;omega),_,hO3,hs.sb⟩,by simp;omega⟩
  ·refine .exit (xT (xT (xB (nT (.aj (.z zm (.o (.call im rfl (dE hs hr an an) ?_))))))));rintro _ w ⟨k83,g83,rfl,hs⟩
   refine .z kd (.z zm (.o (.call im rfl (dE hs hr an an) ?_)));rintro _ w ⟨k86,g86,rfl,hs⟩
   refine .z kd (.z (zbd [_,_] uA) (.z (zfa eC) (.o (.aP (vs:=[_,_]) hs rfl rfl Tryz.sizeOf46 fun w hs=>?_))))
   refine .nil (.aj (.y hs (zls [_,_,_,_,_,_] bg aM) (.o (.aP (vs:=[_,_,_,_,_,_]) hs rfl rfl aM fun w hs=>?_))))
   refine .nil (.ret ?_)
   exact Fin.iM [] [] hs fun w hs=>⟨_,results1 Tryz.results89 (dy (vs:=[_,_,_,_,_,_]) hs rfl bg aM),⟨1+(k11:Int),1+(k14:Int),L,L2,100*(k83:Int),100*(k86:Int)⟩,.slice ao lo co,.slice ap lp cp,en,en2,rfl,
    ⟨⟨hG.plc an hL2 an an,hG2.plc an an an an,by dsimp only;omega,by dsimp only;omega,by dsimp only;omega,by dsimp only;omega⟩,hL4,hM4⟩,hO,hO2,hs.sb⟩
instance (s:Spc) (r:Rdg):Decidable (nD s r):=
 decidable_of_iff ((1≤r.src∧r.src≤99999)∧(0≤r.st∧r.st≤(s.st.length:Int) - 1)∧(0≤r.wa∧r.wa≤(s.wa.length:Int) - 1)∧(0≤r.tol∧r.tol≤1000)∧(0≤r.val∧r.val≤20000 - r.tol)∧(1≤r.tape∧r.tape≤99)∧(0≤r.day∧r.day≤100000))
  ⟨fun ⟨a,b,c,d,e,f,g⟩=>⟨a,b,c,d,e,f,g⟩,fun ⟨a,b,c,d,e,f,g⟩=>⟨a,b,c,d,e,f,g⟩⟩
def jx(s:Spc)(rs:List Rdg):List Rdg:=rs.filter fun r=>decide (nD s r)
theorem C3(s:Spc){rs:List Rdg}{k:Nat}{r:Rdg}(h:rs[k]? =some r):jx s (rs.take (k+1))=if nD s r then jx s (rs.take k)++[r] else jx s (rs.take k):=by
 unfold jx
 rw [dP h,List.filter_append]
 by_cases e:nD s r
 ·simp [e]
 ·simp [e]
theorem w9(s:Spc)(rs:List Rdg):(jx s rs).length≤rs.length:=List.length_filter_le _ _
theorem Ay{s:Spc}{rs:List Rdg}{r:Rdg}(h:r∈jx s rs):r∈rs∧nD s r:=by
 unfold jx at h;simpa using List.mem_filter.1 h
theorem Gr{s:Spc}{rs:List Rdg}{t:TD}(h:t∈bH (jx s rs)):t∈bH rs:=by
 obtain ⟨r,h1,h2⟩:=iz.1 h
 exact iz.2 ⟨r,(Ay h1).1,h2⟩
def oO(v:Srv)(x:List Int)(t:TD):Int:=gi x (v.sp.many+1+(kY v.cV t).toNat)
def Je(v:Srv)(x:List Int):List Int:=x.take (v.sp.many+1)++(bH (jx v.sp v.rs)).map (oO v x)
set_option maxHeartbeats 1000000 in
theorem wI{vr:Value}{rs:List Rdg}(hs:St H w σ)(hr:RRd H vr rs)(hl:rs.length≤1000000):
  Cl Tryz.prog 96 [vr] w fun u w'=>∃en,cZ 2 u (tdc (bH rs)).flatten en∧St H w' (en::σ):=by
 obtain ⟨ar,cr,rfl⟩:=RRd.shape hr
 refine Cl.o Tryz.func96 Tryz.ntmps96 ag1 ?_
 refine .aj (.zn zg (.aj (.zn zg (.seq (.aj (.zn zg (.block ?_)))))))
 refine .loop (fun p:Nat×Value=>⟨32,[],[(4,I (p.1:Int)),(3,p.2),(0,.slice ar rs.length cr)]⟩)
  (fun p w=>p.1≤rs.length∧∃en,cZ 2 p.2 (tdc (bH (rs.take p.1))).flatten en∧St H w (en::σ)) (fun p=>rs.length - p.1) (0,.slice none 0 0) aU
  ⟨Nat.zero_le _,_,.nil 2 none,hs.nul⟩ ?_
 rintro ⟨k,vo⟩ w ⟨hk,en,hO,hs⟩
 dsimp only at hk hO ⊢
 have htl:=l7 rs k an
 obtain ⟨ao,co,rfl⟩:=hO.jz (qS _) an
 rw [eZ] at hO ⊢
 refine .seq (.aj (.z zm (.z zm (.z (dc aB) (.zn fM (.bA rfl (fun hc9=>?_) (fun hc9=>?_)))))))
 ·refine .skip (nT (.seq (.block (.seq (.draw mix rfl hs fun w hs=>?_)))))
  refine .zw 0 rfl zm ?_;refine .z 1 rfl zm ?_
  obtain ⟨r,hx⟩:=nth (l:=rs) (k:=k) an
  have htk:=kI hx
  refine .ixX (enc:=Rdg.c) (i:=2) hs rfl aD .none hr rfl rfl aB aK hx da ?_;intro b14 o14 hc14
  have d14:cellAt H b14 (o14+5)=some (I r.tape):=hc14 5 _ rfl
  refine .zw 3 rfl (zfa eU) ?_;refine .y 4 rfl hs af ?_;refine .z 5 rfl zm ?_;refine .z 6 rfl zm ?_
  refine .ixX (enc:=Rdg.c) (i:=7) hs rfl aD .none hr rfl rfl aB aK hx da ?_;intro b19 o19 hc19
  have d19:cellAt H b19 (o19+6)=some (I r.day):=hc19 6 _ rfl
  refine .zw 8 rfl (zfa eT) ?_;refine .y 9 rfl hs af ?_;refine .z 10 rfl (zbd [_,_] jg) ?_
  refine .E 11 hs ?_
  refine .alloc hs lY rfl ?_;intro b5 w hs
  refine .go (.E 12 hs ?_)
  refine .aP (vs:=[_,_]) hs rfl rfl bZ ?_;intro w hs
  refine .go (.D hs (.aj (.z zm (.y hs (zls [_,_] eH bZ) (.o (.call Tryz.call95 rfl (ph (t:=r.td) (hs.sb:St H w (en:: .blk b5 [I r.tape,I r.day]::σ)) hO an) ?_))))));rintro _ w ⟨rfl,hs⟩
  have hnn:=uk (l:=bH (rs.take k)) (t:=r.td)
  refine .zn fM (.bA rfl (fun hc26=>?_) (fun hc26=>?_))
  ·refine .region (.z zm (.y hs (zls [_,_] eH bZ) (.o (.buildSlice (cells:=[_,_]) hs jy rfl rfl fun b29 w hs=>?_))))
   refine .o (.append (ys:=r.td.c) hs fw rfl rfl hO (.own .here rfl rfl) (by simp [TD.c,Value.oneCell']) (fun l h=>by rw [cz _ (qS _),eZ] at h;omega) ?_);intro v30 en30 w hO2 hs
   refine .zn zg (nB (nT (.region (.z zm (.z cK (.zn zg (nT ?_)))))))
   have hn:r.td∉bH (rs.take k):=fun hm=>by have:=hnn.2 hm;omega
   rw [←yW,show bH (rs.take k)++[r.td]=bH (rs.take (k+1)) by rw [htk];unfold s4;rw [if_neg hn]] at hO2
   exact ⟨(k+1,v30),.cJ rfl cq aU,⟨by dsimp only;omega,_,hO2,hs.sb⟩,by dsimp only;omega⟩
  ·refine .skip (nB (nT (.region (.z zm (.z cK (.zn zg (nT ?_)))))))
   have hm:r.td∈bH (rs.take k):=hnn.1 an
   exact ⟨(k+1,_),.cJ rfl cq aU,⟨by dsimp only;omega,en,by dsimp only;rw [htk];unfold s4;rw [if_pos hm];exact hO,hs.sb⟩,by dsimp only;omega⟩
 ·refine .exit (xT (xT (xB (nT (.aj (.z zm (.zn zg (.ret (Fin.bE Tryz.results96 rfl ?_)))))))))
  obtain rfl:k=rs.length:=by omega
  rw [List.take_length] at hO
  exact ⟨en,by rw [List.take_length];exact hO,hs⟩
set_option maxHeartbeats 2000000 in
theorem rW{s:Srv}{x:List Int}{vst vwa vr vc vx:Value}(hs:St H w σ)(h1:RI H vst s.sp.st)(h2:RI H vwa s.sp.wa)(h3:RRd H vr s.rs)(hc:∃a l c,vc= .slice a l c)(hx:RI H vx x)(hxl:x.length=s.sys.n)(hb:s.sp.st.length≤1000∧s.sp.wa.length≤1000∧s.rs.length≤1000):
  Cl Tryz.prog 97 [.agg #[I s.sp.id,I s.sp.src,vst,vwa,I s.sp.al,I s.sp.up,vr,vc],vx] w fun u w'=>∃H1 vr' vy e1 e2,HLe H H1∧u= .tuple #[.agg #[I s.sp.id,I s.sp.src,vst,vwa,I s.sp.al,I s.sp.up,vr',vc],vy]∧cZ 7 vr' (rdc (jx s.sp s.rs)).flatten e1∧cZ 1 vy (Is (Je s x)) e2∧St H1 w' (e1::e2::σ):=by
 obtain ⟨ast,cst,rfl⟩:=RI.shape h1
 obtain ⟨awa,cwa,rfl⟩:=RI.shape h2
 obtain ⟨ar,cr,rfl⟩:=RRd.shape h3
 obtain ⟨ac,lc,cc,rfl⟩:=hc
 obtain ⟨ax,cx,rfl⟩:=RI.shape hx
 have hm:s.sp.many≤1000000:=Nat.mul_le_mul hb.1 hb.2.1
 have hn:=yZ s
 have htl:=ea s.rs
 refine Cl.o Tryz.func97 Tryz.ntmps97 ag2 ?_
 refine .aj (.bx hs fun b2 w hs=>?_)
 refine .o (.alloc hs eG rfl fun b4 w hs=>?_)
 refine .zn zg (.aj (.z (zfa aZ) (.y hs (zld bQ) (.o (.call GZ rfl (iB (rs:=s.rs) hs h3 an) ?_)))));rintro v15 w ⟨H1,hle1,hT,hs⟩
 obtain ⟨at',ct,rfl⟩:=RTd.shape hT
 refine .zn zg (.aj (.z (zfa bn) (.y hs (zls [_,_,_,_,_,_] bg aM) (.o (.call G0 rfl (fG (s:=s.sp) hs (h1.mono hle1) (h2.mono hle1) ⟨hb.1,hb.2.1⟩) ?_)))));rintro _ w ⟨rfl,hs⟩
 refine .zn zg (.aj (.y hs (zls [_,_,_,_,_,_,_,_] aN aC) (.o (.alloc hs eG rfl fun b8 w hs=>?_))))
 refine .o (.aP (vs:=[_,_,_,_,_,_,_,_]) hs rfl rfl aC fun w hs=>?_)
 refine .nil (.aj (.z (zfa aZ) (.o (.store hs rfl rfl tc fun w hs=>?_))))
 refine .nil (.seq (.aj (.zn zg (.block ?_))))
 refine .loop (fun p:Nat×Value=>⟨78,[],[(9,I (p.1:Int)),(8,Pt b8),(7,I (s.sp.many:Int)),(6,.slice at' (bH s.rs).length ct),(4,Pt b4),(2,Pt b2),(1,.slice ax x.length cx)]⟩)
  (fun p w=>p.1≤s.rs.length∧∃en,cZ 7 p.2 (rdc (jx s.sp (s.rs.take p.1))).flatten en∧St H1 w (en:: .blk b8 [I s.sp.id,I s.sp.src,.slice ast s.sp.st.length cst,.slice awa s.sp.wa.length cwa,I s.sp.al,I s.sp.up,p.2,.slice ac lc cc]:: .blk b4 [I 0,I 0,.slice none 0 0,.slice none 0 0,I 0,I 0,.slice none 0 0,.slice none 0 0]:: .blk b2 [I s.sp.id,I s.sp.src,.slice ast s.sp.st.length cst,.slice awa s.sp.wa.length cwa,I s.sp.al,I s.sp.up,.slice ar s.rs.length cr,.slice ac lc cc]::σ)) (fun p=>s.rs.length - p.1) (0,.slice none 0 0) aU
  ⟨Nat.zero_le _,_,.nil 7 none,hs.nul⟩ ?_
 clear hs
 rintro ⟨k,vo⟩ w ⟨hk,en,hO,hs⟩
 dsimp only at hk hO hs ⊢
 have hkl:=w9 s.sp (s.rs.take k)
 rw [List.length_take] at hkl
 obtain ⟨ao,lo,co,rfl,-⟩:=hO.shape
 refine .seq (.aj (.z zm (.z (zfa aZ) (.y hs (zld bQ) (.z (dc aB) (.zn fM (.bA rfl (fun hc25=>?_) (fun hc25=>?_))))))))
 ·refine .skip (nT (.seq (.block (.seq (.draw mix rfl hs fun w hs=>?_)))))
  refine .zw 0 rfl (zfa bn) ?_;refine .ys 1 rfl hs [_,_,_,_,_,_] bg aM ?_;refine .z 2 rfl (zfa aZ) ?_;refine .y 3 rfl hs bQ ?_;refine .z 4 rfl zm ?_
  obtain ⟨r,hr⟩:=nth (l:=s.rs) (k:=k) an
  have hsn:=C3 s.sp hr
  refine .ixX (enc:=Rdg.c) (i:=5) hs rfl aD .none (h3.mono hle1) rfl rfl aB aK hr da ?_;intro b33 o33 hc33
  refine .r (i:=6) hs rfl aD .none (cj (vs:=r.c) rfl eI aK hc33) ?_
  refine .E 7 hs ?_
  refine .call Tryz.call150 rfl (jW (s:=s.sp) (r:=r) hs (h1.mono hle1) (h2.mono hle1)) ?_;rintro _ w ⟨b35,rfl,hb35,hs⟩
  refine .go (.D hs (.cond rfl (fun hc35=>?_) (fun hc35=>?_)))
  ·refine .draw mix rfl hs fun w hs=>?_
   refine .zw 0 rfl (zfa aZ) ?_;refine .y 1 rfl hs bQ ?_;refine .z 2 rfl (zfa aZ) ?_;refine .y 3 rfl hs bQ ?_;refine .z 4 rfl zm ?_
   refine .ixX (enc:=Rdg.c) (i:=5) hs rfl aD .none (h3.mono hle1) rfl rfl aB aK hr da ?_;intro b41 o41 hc41
   refine .r (i:=6) hs rfl aD .none (cj (vs:=r.c) rfl eI aK hc41) ?_
   refine .E 7 hs ?_
   refine .buildSlice (cells:=r.c) hs hZ rfl aD ?_;intro b43 w hs
   refine .go (.E 8 hs ?_)
   refine .append (ys:=r.c) hs ep rfl rfl hO (.own .here rfl rfl) (by simp [Rdg.c,Value.oneCell']) (fun l' h=>by rw [cz _ (kz _),dG] at h;omega) ?_;intro v44 en44 w hO2 hs
   rw [←vJ,show jx s.sp (s.rs.take k)++[r]=jx s.sp (s.rs.take (k+1)) by rw [hsn,if_pos (hb35.1 (by simpa using hc35))]] at hO2
   obtain ⟨a44,l44,c44,rfl,-⟩:=hO2.shape
   refine .go (.zw 9 rfl (zfa aZ) (.E 10 hs ?_))
   refine .store hs rfl rfl tc ?_;intro w hs
   refine .go (.D hs (nB (nT (.region (.z zm (.z cK (.zn zg (nT ?_))))))))
   exact ⟨(k+1,.slice a44 l44 c44),.cJ rfl cq aU,⟨by dsimp only;omega,_,hO2,hs.sb⟩,by dsimp only;omega⟩
  ·refine .skip (nB (nT (.region (.z zm (.z cK (.zn zg (nT ?_)))))))
   exact ⟨(k+1,.slice ao lo co),.cJ rfl cq aU,⟨by dsimp only;omega,en,by dsimp only;rw [hsn,if_neg (fun h=>by rw [hb35.2 h] at hc35;cases hc35)];exact hO,hs.sb⟩,by dsimp only;omega⟩
 ·refine .exit (xT (xT (xB (nT (.aj ?_)))))
  obtain rfl:k=s.rs.length:=by omega
  rw [List.take_length] at hO
  refine .o (.buildSlice (cells:=[]) hs pQ rfl rfl fun b46 w hs=>?_)
  refine .z zm (.z zm (.z cK (.q hs (pv (k:=s.sp.many+1) rfl rfl ae ai rfl (by have:=(RS.len hx).2.1;omega)) ?_)))
  refine .o (.append (xs:=[]) (ys:=Is (x.take (s.sp.many+1))) hs cM rfl rfl (.full (len:=0) rfl) (.ints (RI.head (hx.mono hle1) (k:=s.sp.many+1) an)) (iL _) (fun l h=>by simp at h;rw [List.length_take];omega) ?_);intro v51 en51 w hO3 hs
  rw [List.nil_append] at hO3
  refine .zn zg (.aj (.z (zfa aZ) (.y hs (zld bQ) ?_)))
  have hkl:=w9 s.sp s.rs
  obtain ⟨H2,hle2,hRR,hs2,back⟩:=hO.Cc (kz _) an (by rw [dG];omega) (hs.sb:St H1 w (en::en51:: .blk b8 [I s.sp.id,I s.sp.src,.slice ast s.sp.st.length cst,.slice awa s.sp.wa.length cwa,I s.sp.al,I s.sp.up,.slice ao lo co,.slice ac lc cc]:: .blk b4 [I 0,I 0,.slice none 0 0,.slice none 0 0,I 0,I 0,.slice none 0 0,.slice none 0 0]:: .blk b2 [I s.sp.id,I s.sp.src,.slice ast s.sp.st.length cst,.slice awa s.sp.wa.length cwa,I s.sp.al,I s.sp.up,.slice ar s.rs.length cr,.slice ac lc cc]::σ))
  refine .o (.call GZ rfl (wI (rs:=jx s.sp s.rs) hs2 hRR an) ?_);rintro v54 w ⟨enT,hOT,hsT⟩
  have hs:=back (HLe.refl _) hsT
  have htl':=ea (jx s.sp s.rs)
  obtain ⟨H3,hle3,hT3,hs⟩:=cZ.di (m:=2) (cs:=tdc (bH (jx s.sp s.rs))) hOT (qS _) an (by rw [eZ];omega) hs (.there .here)
  have hT3:RTd H3 v54 (bH (jx s.sp s.rs)):=hT3
  obtain ⟨a54,c54,rfl⟩:=RTd.shape hT3
  refine .zn zg (.seq (.aj (.zn zg (.block ?_))))
  refine .loop (fun p:Nat×Value=>⟨78,[],[(12,I (p.1:Int)),(10,p.2),(11,.slice a54 (bH (jx s.sp s.rs)).length c54),(8,Pt b8),(7,I (s.sp.many:Int)),(6,.slice at' (bH s.rs).length ct),(4,Pt b4),(1,.slice ax x.length cx)]⟩)
   (fun p w=>p.1≤(bH (jx s.sp s.rs)).length∧∃en2,cZ 1 p.2 (Is (x.take (s.sp.many+1)++((bH (jx s.sp s.rs)).take p.1).map (oO s x))) en2∧St H3 w (en2:: .blk b8 [I s.sp.id,I s.sp.src,.slice ast s.sp.st.length cst,.slice awa s.sp.wa.length cwa,I s.sp.al,I s.sp.up,.slice ao lo co,.slice ac lc cc]:: .blk b4 [I 0,I 0,.slice none 0 0,.slice none 0 0,I 0,I 0,.slice none 0 0,.slice none 0 0]::en::σ)) (fun p=>(bH (jx s.sp s.rs)).length - p.1) (0,v51) aU
   ⟨Nat.zero_le _,en51,by simpa using hO3,hs.sb⟩ ?_
  clear hs
  rintro ⟨j,vy⟩ w ⟨hj,en2,hO4,hs⟩
  dsimp only at hj hO4 hs ⊢
  obtain ⟨ay,ly,cy,rfl,-⟩:=hO4.shape
  refine .seq (.aj (.z zm (.z zm (.z (dc bO) (.zn fM (.bA rfl (fun hc58=>?_) (fun hc58=>?_)))))))
  ·refine .skip (nT (.seq (.block (.region (.z zm (.z zm (.z zm (.z cK (.z zm (.z zm (.z zm ?_)))))))))))
   obtain ⟨t,ht⟩:=nth (l:=bH (jx s.sp s.rs)) (k:=j) an
   have htm:t∈s.cV:=Gr (List.mem_of_getElem? ht)
   obtain ⟨q,q1,q2,q3⟩:=iT htm
   have q3':q<(bH s.rs).length:=q3
   have q1':kY (bH s.rs) t=(q:Int):=q1
   have hnt:s.sys.n=s.sp.many+(bH s.rs).length+1:=hn
   have herr:oO s x t=gi x (s.sp.many+1+q):=by unfold oO;rw [q1,Int.toNat_natCast]
   refine .ixX (enc:=TD.c) hs hT3 rfl rfl bO bZ ht da ?_;intro b68 o68 hc68
   refine .q hs (cj (vs:=t.c) rfl eH bZ hc68) (.o (.call Tryz.call95 rfl (kZ (t:=t) hs (hT.mono hle3) an) ?_));rintro _ w ⟨rfl,hs⟩
   rw [q1']
   refine .z cK (.ixY hs (hx.mono (hle1.trans hle3)) rfl rfl ae ai (bB (l:=x) (i:=s.sp.many+1+q) an) an ?_);intro b72 o72 hc72
   refine .q hs (aJ rfl af hc72) (.o (.buildSlice (cells:=[_]) hs db rfl rfl fun b74 w hs=>?_))
   refine .o (.append (ys:=Is [gi x (s.sp.many+1+q)]) hs cM rfl rfl hO4 (.own .here rfl rfl) (iL _) (fun l' h=>by simp at h;omega) ?_);intro v75 en75 w hO5 hs
   rw [←List.map_append,List.append_assoc,←herr,show ((bH (jx s.sp s.rs)).take j).map (oO s x)++[oO s x t]=((bH (jx s.sp s.rs)).take (j+1)).map (oO s x) by rw [dP ht];simp] at hO5
   obtain ⟨a75,l75,c75,rfl,-⟩:=hO5.shape
   refine .zn zg (nB (nT (.region (.z zm (.z cK (.zn zg (nT ?_)))))))
   exact ⟨(j+1,.slice a75 l75 c75),.cJ rfl cq aU,⟨by dsimp only;omega,_,hO5,hs.sb⟩,by dsimp only;omega⟩
  ·refine .exit (xT (xT (xB (nT (.aj (.y hs (zls [_,_,_,_,_,_,_,_] aN aC) (.z zm (.o (.aP (vs:=[_,_,_,_,_,_,_,_]) hs rfl rfl aC fun w hs=>?_)))))))))
   refine .zn zg (.ret ?_)
   obtain rfl:j=(bH (jx s.sp s.rs)).length:=by omega
   rw [List.take_length] at hO4
   exact Fin.iM [] [] hs fun w hs=>⟨_,results2 Tryz.results97 (dy (vs:=[_,_,_,_,_,_,_,_]) hs rfl aN aC) rfl,H3,_,_,en,en2,hle1.trans hle3,rfl,hO,hO4,hs.sb⟩
theorem C2{s:Spc}{rs R:List Rdg}{cs:List Cmp}{x:List Int}(hf:iQ (Srv.qp ⟨s,rs,cs⟩).dK (gi x))(hx0:gi x 0=0)(hxl:x.length=s.many+(bH rs).length+1)(ht:bH R=bH rs)(hS:∀r∈R,RdS s r)(hR:∀r∈R,E5 s (bH rs) x r):
  E7 ⟨s,jx s R,cs⟩ (Je ⟨s,R,cs⟩ x):=by
 have hl:(x.take (s.many+1)).length=s.many+1:=by rw [List.length_take];omega
 refine Eo (R:=R) (x:=x) List.filter_sublist hS hx0 (ED hf ht hR) ?_ (fun b hb=>?_) fun j hj=>?_
 ·show (x.take (s.many+1)++(bH (jx s R)).map (oO ⟨s,R,cs⟩ x)).length=_
  rw [List.length_append,hl,List.length_map]
 ·show gi (x.take (s.many+1)++(bH (jx s R)).map (oO ⟨s,R,cs⟩ x)) b=_
  unfold gi
  simp only [List.getD]
  rw [List.getElem?_append_left an,List.getElem?_take_of_lt an]
 ·show gi (x.take (s.many+1)++(bH (jx s R)).map (oO ⟨s,R,cs⟩ x)) (s.many+1+j)=_
  have e:∀t,(bH (jx s R))[j]? =some t→gi (x.take (s.many+1)++(bH (jx s R)).map (oO ⟨s,R,cs⟩ x)) (s.many+1+j)=oO ⟨s,R,cs⟩ x t:=fun t ht=>by
   unfold gi
   simp only [List.getD]
   rw [List.getElem?_append_right an,hl,show s.many+1+j - (s.many+1)=j by omega,List.getElem?_map,ht]
   rfl
  rw [e _ (A8 hj)];rfl
set_option maxHeartbeats 2000000 in
theorem xJ{vs v5 v4 vp:Value}{sl pk:List Int}{fs5:List F5}{fs4:List F4}{z1 z2 z3:Int}(hs:St H w σ)(g1:RI H vs sl)(g2:RF5 H v5 fs5)(g3:RF4 H v4 fs4)(g4:RI H vp pk):
  Cl Tryz.prog 31 [.agg #[vs,v5,v4,vp,I z1,I z2,I z3]] w fun u w'=>∃H1 s y vst vwa vr vc vy e1 e2 e3 e4 e5,HLe H H1∧u= .tuple #[.agg #[I s.sp.id,I s.sp.src,vst,vwa,I s.sp.al,I s.sp.up,vr,vc],vy]∧Kb s∧Hm s vst vwa vr vc e1 e2 e3 e4∧cZ 1 vy (Is y) e5∧E7 s y∧St H1 w' (e1::e2::e3::e4::e5::σ):=by
 obtain ⟨avs,cvs,rfl⟩:=RI.shape g1
 obtain ⟨av5,cv5,rfl⟩:=g2.shape
 obtain ⟨av4,cv4,rfl⟩:=g3.shape
 obtain ⟨avp,cvp,rfl⟩:=RI.shape g4
 refine Cl.o Tryz.func31 Tryz.ntmps31 ag1 ?_
 refine .aj (.bx hs fun b1 w hs=>?_)
 refine .o (.alloc hs eG rfl fun b2 w hs=>?_)
 refine .zn zg (.aj (.z (zfa pN) (.y hs (zld aq) (.o (.call Tryz.call89 rfl (q6 hs g1) ?_)))));rintro _ w ⟨s,vst,vwa,e1,e2,rfl,hSp,hO1,hO2,hs⟩
 have hSt:=hSp.st
 have hWa:=hSp.wa
 have hSt2:=hSp.ok.st.two
 have hWa2:=hSp.ok.wa.two
 obtain ⟨ast,lst,cst,rfl,hlst⟩:=hO1.shape
 obtain ⟨awa,lwa,cwa,rfl,hlwa⟩:=hO2.shape
 obtain rfl:s.st.length=lst:=by simpa [Is] using hlst
 obtain rfl:s.wa.length=lwa:=by simpa [Is] using hlwa
 refine .z (zbd [_,_,_,_,_,_,_,_] qM) (.o (.alloc hs eG rfl fun b4 w hs=>?_))
 refine .o (.aP (vs:=[_,_,_,_,_,_,_,_]) hs rfl rfl aC fun w hs=>?_)
 refine .nil (.aj (.z (zfa bn) (.y hs (zls [_,_,_,_,_,_] bg aM) (.o (.alloc hs kh rfl fun b5 w hs=>?_)))))
 refine .o (.aP (vs:=[_,_,_,_,_,_]) hs rfl rfl aM fun w hs=>?_)
 refine .nil (.cut (fun fs w=>∃rs e3 ar cr,ke fs ⟨208,[],[(5,Pt b5),(4,Pt b4),(2,Pt b2),(1,Pt b1)]⟩∧rs.length≤14∧rs.length≤fs5.length∧(∀r∈rs,nD s r)∧cZ 7 (.slice ar rs.length cr) (rdc rs).flatten e3∧St H w (e3:: .blk b5 [I s.id,I s.src,.slice ast s.st.length cst,.slice awa s.wa.length cwa,I s.al,I s.up]:: .blk b4 [I s.id,I s.src,.slice ast s.st.length cst,.slice awa s.wa.length cwa,I s.al,I s.up,.slice ar rs.length cr,.slice none 0 0]::e1::e2:: .blk b2 [I 0,I 0,.slice none 0 0,.slice none 0 0,I 0,I 0,.slice none 0 0,.slice none 0 0]:: .blk b1 [.slice avs sl.length cvs,.slice av5 fs5.length cv5,.slice av4 fs4.length cv4,.slice avp pk.length cvp,I z1,I z2,I z3]::σ)) ?_ ?_)
 ·refine .aj (.zn zg (.block ?_))
  refine .loop (fun p:List Rdg×Option Addr×Nat=>⟨208,[],[(6,I (p.1.length:Int)),(5,Pt b5),(4,Pt b4),(2,Pt b2),(1,Pt b1)]⟩)
   (fun p w=>p.1.length≤14∧p.1.length≤fs5.length∧(∀r∈p.1,nD s r)∧∃e3,cZ 7 (.slice p.2.1 p.1.length p.2.2) (rdc p.1).flatten e3∧
    St H w (e3:: .blk b5 [I s.id,I s.src,.slice ast s.st.length cst,.slice awa s.wa.length cwa,I s.al,I s.up]:: .blk b4 [I s.id,I s.src,.slice ast s.st.length cst,.slice awa s.wa.length cwa,I s.al,I s.up,.slice p.2.1 p.1.length p.2.2,.slice none 0 0]::e1::e2:: .blk b2 [I 0,I 0,.slice none 0 0,.slice none 0 0,I 0,I 0,.slice none 0 0,.slice none 0 0]:: .blk b1 [.slice avs sl.length cvs,.slice av5 fs5.length cv5,.slice av4 fs4.length cv4,.slice avp pk.length cvp,I z1,I z2,I z3]::σ)) (fun p=>14 - p.1.length) ([],none,0) aU
   ⟨cq,cq,cq,_,.nil 7 none,(hs.sb).nul⟩ ?_
  clear hs
  rintro ⟨rs,ar,cr⟩ w ⟨hr14,hrf,hrok,e3,hO3,hs⟩
  dsimp only at hr14 hrf hrok hO3 hs ⊢
  refine .seq (.aj (.z zm (.z (zfa iZ) (.y hs (zld Tryz.isAgg35) (.z (dc Tryz.runUnderlying35) (.z fM (.z zm (.gX (t':=31) rfl (fun hb31=>?_) (fun hb31=>?_)))))))))
  ·refine .T (.z zm (.T (.z fM (.zn zpT (.bA rfl (fun hc34=>?_) (fun hc34=>?_))))))
   ·refine .skip (nT (.seq (.block (.aj (.z (zfa iZ) (.y hs (zld Tryz.isAgg35) (.z zm ?_)))))))
    obtain ⟨n,hn⟩:=nth (l:=fs5) (k:=rs.length) an
    refine .ixX (enc:=F5.v) hs g2 rfl rfl Tryz.runUnderlying35 yc hn da ?_;intro b40 o40 hc40
    refine .q hs (cj (vs:=n.v) rfl Tryz.isAgg151 yc hc40) (.o (.alloc hs Tryz.zeroValue151 rfl fun b7 w hs=>?_))
    refine .o (.aP (vs:=[_,_,_,_,_]) hs rfl rfl yc fun w hs=>?_)
    refine .nil (.seq (.draw mix rfl hs fun w hs=>?_))
    refine .zw 0 rfl (zia 4 ju ai) (.zv 1 rfl hs (nx af) (.zw 3 rfl (zia 4 ju ai) (.y 4 rfl hs af ?_)));refine .z 5 rfl Ir ?_
    refine .E 2 hs ?_
    refine .call eo rfl (cQ hs an) ?_;rintro _ w ⟨k44,g44,rfl,hs⟩
    refine .go (.E 6 hs ?_)
    refine .call eo rfl (cQ hs an) ?_;rintro _ w ⟨k48,g48,rfl,hs⟩
    have m49:0≤(k44:Int)*(k48:Int)∧(k44:Int)*(k48:Int)≤39:=by
     have e1:k48=0∨k48=1:=by omega
     rcases e1 with rfl|rfl<;>simp<;>omega
    refine .go (.zw 7 rfl kd ?_);refine .z 8 rfl zg ?_;refine .D hs ?_
    refine .draw mix rfl hs fun w hs=>?_
    refine .zw 0 rfl (zfa aZ) ?_;refine .y 1 rfl hs bQ ?_;refine .z 2 rfl zm ?_;refine .z 3 rfl cK ?_
    refine .zw 4 rfl (zia 0 ju ai) (.y 5 rfl hs af ?_);refine .z 6 rfl (zfa bV) ?_;refine .y 7 rfl hs aq ?_;refine .z 8 rfl (dc ae) ?_
    refine .zw 10 rfl (zia 1 ju ai) (.y 11 rfl hs af ?_);refine .z 12 rfl (zfa bh) ?_;refine .y 13 rfl hs aq ?_;refine .z 14 rfl (dc ae) ?_;refine .z 16 rfl zm ?_
    refine .zw 17 rfl (zia 2 ju ai) (.zv 18 rfl hs (nx af) (.zw 21 rfl (zia 3 ju ai) (.zv 22 rfl hs (nx af) (.E 9 hs ?_))))
    refine .call eo rfl (cQ hs an) ?_;rintro _ w ⟨k59,g59,rfl,hs⟩
    refine .go (.E 15 hs ?_)
    refine .call eo rfl (cQ hs an) ?_;rintro _ w ⟨k65,g65,rfl,hs⟩
    refine .go (.E 19 hs ?_)
    refine .call eo rfl (cQ hs an) ?_;rintro _ w ⟨k69,g69,rfl,hs⟩
    refine .go (.zw 20 rfl cK (.E 23 hs ?_))
    refine .call eo rfl (cQ hs an) ?_;rintro _ w ⟨k73,g73,rfl,hs⟩
    obtain ⟨r,hr⟩:∃r:Rdg,r=⟨10+(rs.length:Int),(k59:Int),(k65:Int),0,(k44:Int)*(k48:Int),1+(k69:Int),(k73:Int)⟩:=⟨_,rfl⟩
    have hrOk:nD s r:=by subst hr;exact ⟨by dsimp only;omega,by dsimp only;omega,by dsimp only;omega,by dsimp only;omega,by dsimp only;omega,by dsimp only;omega,by dsimp only;omega⟩
    refine .go (.zw 24 rfl (zbd [_,_,_,_,_,_,_] jh) (.E 25 hs ?_))
    refine .buildSlice (cells:=r.c) hs hZ rfl (by subst hr;kernel_rfl) ?_;intro b75 w hs
    refine .go (.E 26 hs ?_)
    refine .append (ys:=r.c) hs ep rfl rfl hO3 (.own .here rfl rfl) (by simp [Rdg.c,Value.oneCell']) (fun l' h=>by rw [cz _ (kz _),dG] at h;omega) ?_;intro v76 en76 w hO4 hs
    rw [←vJ] at hO4
    obtain ⟨a76,c76,rfl⟩:=hO4.jz (kz _) an
    rw [dG] at hO4 ⊢
    refine .go (.zw 27 rfl (zfa aZ) (.E 28 hs ?_))
    refine .store hs rfl rfl tc ?_;intro w hs
    refine .go (.D hs (nB (nT (.region (.z zm (.z cK (.zn zg (nT ?_))))))))
    exact ⟨(rs++[r],a76,c76),.cJ rfl cq aU,⟨by simp;omega,by simp;omega,fun q hq=>by
      simp only [List.mem_append,List.mem_singleton] at hq
      rcases hq with hq|rfl
      ·exact hrok q hq
      ·exact hrOk,_,hO4,hs.sb⟩,by simp;omega⟩
   ·refine .exit (xT (xT (xB (nT ?_))))
    exact ⟨rs,e3,ar,cr,aU,hr14,hrf,hrok,hO3,hs⟩
  ·refine .Fs 2 5 true (.zn zpF (.cF (.exit (xT (xT (xB (nT ?_)))))))
   exact ⟨rs,e3,ar,cr,aU,hr14,hrf,hrok,hO3,hs⟩
 ·clear hs
  rintro fs w ⟨rs,e3,ar,cr,hfs,hr14,hrf,hrok,hO3,hs⟩
  refine WE.sub ?_ hfs
  clear hfs
  refine .cut (fun fs w=>∃cs e4 ac cc,ke fs ⟨208,[],[(5,Pt b5),(4,Pt b4),(2,Pt b2),(1,Pt b1)]⟩∧cs.length≤5∧(∀c∈cs,rE c)∧(Srv.qp ⟨s,rs,cs⟩).Sound∧cZ 6 (.slice ac cs.length cc) (cmc cs).flatten e4∧St H w (e1::e2::e3::e4:: .blk b5 [I s.id,I s.src,.slice ast s.st.length cst,.slice awa s.wa.length cwa,I s.al,I s.up]:: .blk b4 [I s.id,I s.src,.slice ast s.st.length cst,.slice awa s.wa.length cwa,I s.al,I s.up,.slice ar rs.length cr,.slice ac cs.length cc]:: .blk b2 [I 0,I 0,.slice none 0 0,.slice none 0 0,I 0,I 0,.slice none 0 0,.slice none 0 0]:: .blk b1 [.slice avs sl.length cvs,.slice av5 fs5.length cv5,.slice av4 fs4.length cv4,.slice avp pk.length cvp,I z1,I z2,I z3]::σ)) ?_ ?_
  ·refine .aj (.zn zg (.block ?_))
   refine .loop (fun p:Nat×List Cmp×Option Addr×Nat=>⟨208,[],[(9,I (p.1:Int)),(5,Pt b5),(4,Pt b4),(2,Pt b2),(1,Pt b1)]⟩)
    (fun p w=>p.1≤5∧p.1≤fs4.length∧p.2.1.length≤p.1∧(∀c∈p.2.1,rE c)∧(Srv.qp ⟨s,rs,p.2.1⟩).Sound∧∃e4,cZ 6 (.slice p.2.2.1 p.2.1.length p.2.2.2) (cmc p.2.1).flatten e4∧
     St H w (e1::e2::e3::e4:: .blk b5 [I s.id,I s.src,.slice ast s.st.length cst,.slice awa s.wa.length cwa,I s.al,I s.up]:: .blk b4 [I s.id,I s.src,.slice ast s.st.length cst,.slice awa s.wa.length cwa,I s.al,I s.up,.slice ar rs.length cr,.slice p.2.2.1 p.2.1.length p.2.2.2]:: .blk b2 [I 0,I 0,.slice none 0 0,.slice none 0 0,I 0,I 0,.slice none 0 0,.slice none 0 0]:: .blk b1 [.slice avs sl.length cvs,.slice av5 fs5.length cv5,.slice av4 fs4.length cv4,.slice avp pk.length cvp,I z1,I z2,I z3]::σ)) (fun p=>5 - p.1) (0,[],none,0) aU
    ⟨cq,cq,cq,cq,EE (zq hSp.ok hSt hWa hr14 cq hrok cq) rfl,.nul,.nil 6 none,(hs.nul).sb⟩ ?_
   clear hs
   rintro ⟨k,cs,ac,cc⟩ w ⟨hk5,hkf,hck,hcok,hsd,e4,hO4,hs⟩
   dsimp only at hk5 hkf hck hcok hsd hO4 hs ⊢
   refine .seq (.aj (.z zm (.z (zfa kR) (.y hs (zld Tryz.isAgg36) (.z (dc Tryz.runUnderlying36) (.z fM (.z zm (.gX (t':=83) rfl (fun hb83=>?_) (fun hb83=>?_)))))))))
   ·refine .T (.z zm (.T (.z fM (.zn zpT (.bA rfl (fun hc86=>?_) (fun hc86=>?_))))))
    ·refine .skip (nT (.seq (.block (.aj (.z (zfa kR) (.y hs (zld Tryz.isAgg36) (.z zm ?_)))))))
     obtain ⟨n,hn⟩:=nth (l:=fs4) (k:=k) an
     refine .ixX (enc:=F4.v) hs g3 rfl rfl Tryz.runUnderlying36 Tryz.sizeOf97 hn da ?_;intro b92 o92 hc92
     refine .q hs (cj (vs:=n.v) rfl Tryz.isAgg97 Tryz.sizeOf97 hc92) (.o (.alloc hs Tryz.zeroValue97 rfl fun b10 w hs=>?_))
     refine .o (.aP (vs:=[_,_,_,_]) hs rfl rfl Tryz.sizeOf97 fun w hs=>?_)
     refine .nil (.aj (.z (zia 1 ud ai) (.y hs (zld af) (.o (.call eo rfl (cQ hs an) ?_)))));rintro _ w ⟨k96,g96,rfl,hs⟩
     refine .z fY (.zn zg (.aj (.z (zia 3 ud ai) (.y hs (zld af) (.o (.call eo rfl (cQ hs an) ?_))))));rintro _ w ⟨k100,g100,rfl,hs⟩
     refine .zn zg (.seq (.draw mix rfl hs fun w hs=>?_))
     refine .zw 0 rfl (zfa cH) ?_;refine .y 1 rfl hs eu ?_;refine .z 2 rfl zm ?_;refine .z 3 rfl cK ?_
     refine .zw 4 rfl (zia 0 ud ai) (.y 5 rfl hs af ?_);refine .z 8 rfl zm ?_;refine .z 9 rfl zm ?_
     refine .zw 10 rfl (zia 3 ud ai) (.y 11 rfl hs af ?_);refine .z 12 rfl Ir ?_;refine .z 15 rfl zm ?_;refine .z 16 rfl zm ?_
     refine .zw 17 rfl (zia 2 ud ai) (.zv 18 rfl hs (nx af) (.E 6 hs ?_))
     refine .call eo rfl (cQ hs an) ?_;rintro _ w ⟨k107,g107,rfl,hs⟩
     refine .go (.zw 7 rfl cK (.E 13 hs ?_))
     refine .call eo rfl (cQ hs an) ?_;rintro _ w ⟨k114,g114,rfl,hs⟩
     refine .go (.zw 14 rfl cK (.E 19 hs ?_))
     refine .call eo rfl (cQ hs an) ?_;rintro _ w ⟨k120,g120,rfl,hs⟩
     obtain ⟨c,hc⟩:∃c:Cmp,c=⟨30+(k:Int),1+(k107:Int),(k100:Int),(k100:Int)+(k114:Int),(k96:Int) - 40,(k96:Int) - 40+(k120:Int)⟩:=⟨_,rfl⟩
     have hcOk:rE c:=by subst hc;exact ⟨by dsimp only;omega,by dsimp only;omega,by dsimp only;omega,by dsimp only;omega,by dsimp only;omega,by dsimp only;omega⟩
     refine .go (.zw 20 rfl cK ?_);refine .z 21 rfl (zbd [_,_,_,_,_,_] pR) ?_
     refine .E 22 hs ?_
     refine .buildSlice (cells:=c.c) hs lJ rfl (by subst hc;kernel_rfl) ?_;intro b123 w hs
     refine .go (.E 23 hs ?_)
     refine .append (ys:=c.c) hs kW rfl rfl hO4 (.own .here rfl rfl) (by simp [Cmp.c,Value.oneCell']) (fun l' h=>by rw [cz _ (tU _),gK] at h;omega) ?_;intro v124 en124 w hO5 hs
     rw [←Cy] at hO5
     obtain ⟨a124,c124,rfl⟩:=hO5.jz (tU _) an
     rw [gK] at hO5 ⊢
     have hcl:(cs++[c]).length=cs.length+1:=by simp
     have hcok':∀d∈cs++[c],rE d:=fun d hd=>by
      simp only [List.mem_append,List.mem_singleton] at hd
      rcases hd with hd|rfl
      ·exact hcok d hd
      ·exact hcOk
     have hsok:eW ⟨s,rs,cs++[c]⟩:=zq hSp.ok hSt hWa hr14 an hrok hcok'
     refine .go (.zw 24 rfl (zfa cH) (.E 25 hs ?_))
     refine .store hs rfl rfl Tryz.sizeOf50 ?_;intro w hs
     refine .go (.D hs (.aj (.y hs (zls [_,_,_,_,_,_,_,_] aN aC) ?_)))
     obtain ⟨Hx,hlex,r1,r2,r3,r4,hs2,back⟩:=Hm.Cc (s:=⟨s,rs,cs++[c]⟩) ⟨hO1,hO2,hO3,hO5⟩ (by show s.st.length≤_;omega) (by show s.wa.length≤_;omega) (by show rs.length≤_;omega) (by show (cs++[c]).length≤_;omega) (hs.sb:St H w (e1::e2::e3::en124:: .blk b5 [I s.id,I s.src,.slice ast s.st.length cst,.slice awa s.wa.length cwa,I s.al,I s.up]:: .blk b4 [I s.id,I s.src,.slice ast s.st.length cst,.slice awa s.wa.length cwa,I s.al,I s.up,.slice ar rs.length cr,.slice a124 (cs++[c]).length c124]:: .blk b2 [I 0,I 0,.slice none 0 0,.slice none 0 0,I 0,I 0,.slice none 0 0,.slice none 0 0]:: .blk b1 [.slice avs sl.length cvs,.slice av5 fs5.length cv5,.slice av4 fs4.length cv4,.slice avp pk.length cvp,I z1,I z2,I z3]::σ))
     refine .o (.call Tryz.call91 rfl (wK (s:=⟨s,rs,cs++[c]⟩) hs2 r1 r2 r3 r4 hsok.early (Bt hsok)) ?_);rintro _ w ⟨Hy,b127,hley,rfl,hb127,hs3⟩
     have hs:=back hley hs3
     clear hs2 hs3 back
     refine .nil (.cond rfl (fun hc127=>?_) (fun hc127=>?_))
     ·refine .region (.z (zfa cH) (.y hs (zld eu) (.z (zfa cH) (.y hs (zld eu) (.z (dc bu) (.z fY (.q hs (pv (k:=cs.length) rfl rfl bu cO an (by have:=hO5.le;omega)) ?_)))))))
      refine .z (zfa cH) (.o (.store hs rfl rfl Tryz.sizeOf50 fun w hs=>?_))
      refine .nil (nB (nT (.region (.z zm (.z cK (.zn zg (nT ?_)))))))
      exact ⟨(k+1,cs,a124,c124),.cJ rfl cq aU,⟨by dsimp only;omega,by dsimp only;omega,by dsimp only;omega,hcok,hsd,_,hO5.HX,hs.sb⟩,by dsimp only;omega⟩
     ·refine .skip (nB (nT (.region (.z zm (.z cK (.zn zg (nT ?_)))))))
      exact ⟨(k+1,cs++[c],a124,c124),.cJ rfl cq aU,⟨by dsimp only;omega,by dsimp only;omega,by dsimp only;omega,hcok',hb127 (by simpa using hc127),_,hO5,hs.sb⟩,by dsimp only;omega⟩
    ·refine .exit (xT (xT (xB (nT ?_))))
     exact ⟨cs,e4,ac,cc,aU,an,hcok,hsd,hO4,hs⟩
   ·refine .Fs 2 5 true (.zn zpF (.cF (.exit (xT (xT (xB (nT ?_)))))))
    exact ⟨cs,e4,ac,cc,aU,an,hcok,hsd,hO4,hs⟩
  ·clear hs
   rintro fs w ⟨cs,e4,ac,cc,hfs,hc5,hcok,hsd,hO4,hs⟩
   refine WE.sub ?_ hfs
   clear hfs
   have hsok:eW ⟨s,rs,cs⟩:=zq hSp.ok hSt hWa hr14 hc5 hrok hcok
   refine .aj (.y hs (zls [_,_,_,_,_,_,_,_] aN aC) (.z (zfa pM) (.y hs (zld aq) ?_)))
   obtain ⟨Hx,hlex,r1,r2,r3,r4,hs2,back⟩:=Hm.Cc (s:=⟨s,rs,cs⟩) ⟨hO1,hO2,hO3,hO4⟩ (by show s.st.length≤_;omega) (by show s.wa.length≤_;omega) (by show rs.length≤_;omega) (by show cs.length≤_;omega) hs
   refine .o (.call Tryz.call92 rfl (wJ (s:=⟨s,rs,cs⟩) hs2 r1 r2 r3 r4 (g4.mono hlex) hsok.early ⟨Bt hsok,hsd⟩) ?_);rintro v139 w ⟨Hy,x,ex,hley,hOx,hP,hs3⟩
   have hs:=back hley hs3
   clear hs2 hs3 back r1 r2 r3 r4
   obtain ⟨hxl,hx0,hxb,hfe⟩:=hP.zT (Bt hsok) hsd
   have hsm:=hsok.many
   have hfn:(Srv.qp ⟨s,rs,cs⟩).n=s.many+(bH rs).length+1:=yZ ⟨s,rs,cs⟩
   have hxl:x.length=s.many+(bH rs).length+1:=by rw [hxl];exact hfn
   rw [hfn] at hxb
   have hsm:s.many+(bH rs).length≤64:=hsm
   obtain ⟨Hz,hlez,hX,hs⟩:=cZ.dS hOx an hs dn
   obtain ⟨ax,cx,rfl⟩:=RI.shape hX
   refine .zn zg (.seq (.aj (.zn zg (.block ?_))))
   refine .loop (fun p:Nat×List Rdg=>⟨208,[],[(14,I (p.1:Int)),(13,.slice ax x.length cx),(5,Pt b5),(4,Pt b4),(2,Pt b2),(1,Pt b1)]⟩)
    (fun p w=>p.1≤rs.length∧p.2.length=rs.length∧bH p.2=bH rs∧(∀r∈p.2,RdS s r)∧(∀j<p.1,∀r,p.2[j]? =some r→E5 s (bH rs) x r)∧∃e3,cZ 7 (.slice ar rs.length cr) (rdc p.2).flatten e3∧
     St Hz w (e1::e2::e3::e4:: .blk b5 [I s.id,I s.src,.slice ast s.st.length cst,.slice awa s.wa.length cwa,I s.al,I s.up]:: .blk b4 [I s.id,I s.src,.slice ast s.st.length cst,.slice awa s.wa.length cwa,I s.al,I s.up,.slice ar rs.length cr,.slice ac cs.length cc]:: .blk b2 [I 0,I 0,.slice none 0 0,.slice none 0 0,I 0,I 0,.slice none 0 0,.slice none 0 0]:: .blk b1 [.slice avs sl.length cvs,.slice av5 fs5.length cv5,.slice av4 fs4.length cv4,.slice avp pk.length cvp,I z1,I z2,I z3]::σ)) (fun p=>rs.length - p.1) (0,rs) aU
    ⟨cq,rfl,rfl,fun r hr=>⟨(hrok r hr).st,(hrok r hr).wa,(hrok r hr).tol⟩,fun j hj=>by omega,e3,hO3,hs⟩ ?_
   clear hs hO3
   rintro ⟨k,R⟩ w ⟨hk,hRl,hRt,hRs,hRv,e3,hO3,hs⟩
   dsimp only at hk hRl hRt hRs hRv hO3 hs ⊢
   refine .seq (.aj (.z zm (.z (zfa aZ) (.y hs (zld bQ) (.z (dc aB) (.zn fM (.bA rfl (fun hc144=>?_) (fun hc144=>?_))))))))
   ·refine .skip (nT (.seq (.block (.aj (.z (zfa iZ) (.y hs (zld Tryz.isAgg35) (.z zm ?_)))))))
    obtain ⟨n,hn⟩:=nth (l:=fs5) (k:=k) an
    obtain ⟨r,hr⟩:=nth (l:=R) (k:=k) an
    have hrS:=hRs r (List.mem_of_getElem? hr)
    obtain ⟨u,hu1,hu2⟩:=hrS.u
    have hrst:=hrS.st
    have hrwa:=hrS.wa
    have hrtol:=hrS.tol
    have hmem:r.td∈bH R:=iz.2 ⟨r,List.mem_of_getElem? hr,rfl⟩
    obtain ⟨q,q1,q2,q3⟩:=iT hmem
    rw [hRt] at q3
    have hb1:=hxb u an
    have hb2:=hxb (s.many+1+q) an
    obtain ⟨bo,co,sp,hv,rfl,hcap⟩:=hO3.GL (kz _) an (by rw [dG];omega)
    simp only [Value.slice.injEq] at hv
    obtain ⟨rfl,hv2,rfl⟩:=hv
    obtain ⟨Hx,hlex,r1,r2,r3,r4,hs2,back⟩:=Hm.Cc (s:=⟨s,R,cs⟩) ⟨hO1,hO2,hO3,hO4⟩ (by show s.st.length≤_;omega) (by show s.wa.length≤_;omega) (by show R.length≤_;omega) (by show cs.length≤_;omega) hs
    clear hs
    have hs:=hs2
    clear hs2
    refine .ixX (enc:=F5.v) hs (g2.mono (hlez.trans hlex)) rfl rfl Tryz.runUnderlying35 yc hn da ?_;intro b150 o150 hc150
    refine .q hs (cj (vs:=n.v) rfl Tryz.isAgg151 yc hc150) (.o (.alloc hs Tryz.zeroValue151 rfl fun b15 w hs=>?_))
    refine .o (.aP (vs:=[_,_,_,_,_]) hs rfl rfl yc fun w hs=>?_)
    refine .nil (.aj (.z (zfa aZ) (.y hs (zld bQ) (.z zm (.ixX (enc:=Rdg.c) hs r3 rfl rfl aB aK hr da ?_)))));intro b155 o155 hc155
    refine .q hs (cj (vs:=r.c) rfl eI aK hc155) (.o (.alloc hs fk rfl fun b16 w hs=>?_))
    refine .o (.aP (vs:=[_,_,_,_,_,_,_]) hs rfl rfl aK fun w hs=>?_)
    refine .nil (.aj (.y hs (zls [_,_,_,_,_,_] bg aM) (.z (zfa gI) (.y hs (zld af) (.z (zfa gH) (.y hs (zld af) (.o (.call kH rfl (dF (s:=s) hs r2 an an an) ?_))))))));rintro _ w ⟨rfl,hs⟩
    rw [hu1]
    refine .zn zg (.seq (.draw mix rfl hs fun w hs=>?_))
    refine .ys 0 rfl hs [_,_,_,_,_,_] bg aM ?_;refine .z 3 rfl (zfa aZ) ?_;refine .y 4 rfl hs bQ ?_;refine .z 6 rfl (zfa eU) ?_;refine .y 7 rfl hs af ?_;refine .z 8 rfl (zfa eT) ?_;refine .y 9 rfl hs af ?_;refine .z 10 rfl (zbd [_,_] jg) ?_
    refine .E 1 hs ?_
    refine .call G0 rfl (fG (s:=s) hs r1 r2 ⟨an,an⟩) ?_;rintro _ w ⟨rfl,hs⟩
    refine .go (.zw 2 rfl cK (.E 5 hs ?_))
    refine .call GZ rfl (iB (rs:=R) hs r3 an) ?_;rintro v168 w ⟨Hw,hlew,hT,hs⟩
    refine .go (.E 11 hs ?_)
    refine .call Tryz.call95 rfl (kZ (t:=r.td) hs hT (by rw [hRt];omega)) ?_;rintro _ w ⟨rfl,hs⟩
    rw [q1]
    refine .go (.zw 12 rfl cK ?_);refine .z 13 rfl zg ?_;refine .D hs ?_
    refine .seq (.draw mix rfl hs fun w hs=>?_)
    refine .zw 0 rfl (zia 4 ju ai) (.y 1 rfl hs af ?_);refine .z 2 rfl Ir ?_;refine .z 3 rfl (zfa dr) ?_;refine .y 4 rfl hs af ?_;refine .z 5 rfl kd ?_;refine .z 6 rfl cK ?_;refine .z 8 rfl (zfa dr) ?_;refine .y 9 rfl hs af ?_
    refine .E 7 hs ?_
    refine .call eo rfl (cQ hs an) ?_;rintro _ w ⟨k183,g183,rfl,hs⟩
    refine .go (.zw 10 rfl fY ?_);refine .z 11 rfl zg ?_;refine .D hs ?_
    refine .draw mix rfl hs fun w hs=>?_
    refine .zw 0 rfl (zfa aZ) ?_;refine .y 1 rfl hs bQ ?_;refine .z 2 rfl zm ?_;refine .z 3 rfl zm ?_;refine .z 4 rfl zm ?_
    have hs:=back hlew hs
    refine .ixX (enc:=fun x=>[I x]) (i:=5) hs rfl aD .none hX rfl rfl ae ai (bB (l:=x) (i:=u) an) rfl ?_;intro b192 o192 hc192;replace hc192:=bL.one hc192
    refine .r (i:=6) hs rfl aD .none (aJ rfl af hc192) ?_
    refine .zw 7 rfl zm ?_;refine .z 8 rfl zm ?_
    refine .ixX (enc:=fun x=>[I x]) (i:=9) hs rfl aD .none hX rfl rfl ae ai (bB (l:=x) (i:=s.many+1+q) an) (by push_cast;rfl) ?_;intro b196 o196 hc196;replace hc196:=bL.one hc196
    refine .r (i:=10) hs rfl aD .none (aJ rfl af hc196) ?_
    refine .zw 11 rfl fY ?_;refine .z 12 rfl zm ?_;refine .z 13 rfl cK ?_
    first|(refine .ixw 14 rfl hs aB aK ?_;intro b201 o201 hc201)|refine .z 14 rfl (mA aB aK) ?_
    refine .zw 15 rfl (zfa dC) (.E 16 hs ?_)
    refine .store (c':=(rdc (R.set k {r with val:=gi x u - gi x (s.many+1+q)+((k183:Int) - r.tol)})).flatten++sp) hs rfl rfl ai ?_ dn (Nat.ble_eq_true_of_le (by rw [List.length_append,cz _ (kz _),dG];omega)) (Bg hr sp _);intro w hs
    refine .go (.D hs (nB (nT (.region (.z zm (.z cK (.zn zg (nT ?_))))))))
    exact ⟨(k+1,R.set k {r with val:=gi x u - gi x (s.many+1+q)+((k183:Int) - r.tol)}),.cJ rfl cq aU,⟨by dsimp only;omega,by dsimp only;rw [List.length_set];exact hRl,by dsimp only;rw [z8 hr];exact hRt,fun y hy=>by
      rcases List.mem_or_eq_of_mem_set hy with h|h
      ·exact hRs y h
      ·subst h;exact ⟨hrst,hrwa,hrtol⟩,fun j hj y hy=>by
      dsimp only at hj hy
      by_cases e:j=k
      ·subst e
       rw [List.getElem?_set_self an] at hy
       obtain rfl:=Option.some.inj hy
       have q1':kY (bH rs) r.td=q:=by rw [←hRt];exact q1
       unfold E5
       show gi x (1+r.st*s.wa.length+r.wa).toNat - gi x (s.many+1+kY (bH rs) r.td).toNat - r.tol≤_∧_≤gi x (1+r.st*s.wa.length+r.wa).toNat - gi x (s.many+1+kY (bH rs) r.td).toNat+r.tol
       rw [hu1,q1',show ((s.many:Int)+1+(q:Int)).toNat=s.many+1+q by omega,Int.toNat_natCast]
       dsimp only
       omega
      ·rw [List.getElem?_set_ne an] at hy
       exact hRv j an y hy,_,F7 hO3 _,hs.sb⟩,by dsimp only;omega⟩
   ·refine .exit (xT (xT (xB (nT (.aj (.y hs (zls [_,_,_,_,_,_,_,_] aN aC) (.z zm ?_)))))))
    obtain rfl:k=rs.length:=by omega
    obtain ⟨Hx,hlex,r1,r2,r3,r4,hs2,back⟩:=Hm.Cc (s:=⟨s,R,cs⟩) ⟨hO1,hO2,hO3,hO4⟩ (by show s.st.length≤_;omega) (by show s.wa.length≤_;omega) (by show R.length≤_;omega) (by show cs.length≤_;omega) hs
    refine .o (.call Tryz.call97 rfl (rW (s:=⟨s,R,cs⟩) (x:=x) hs2 r1 r2 r3 ⟨_,_,_,rfl⟩ (hX.mono hlex) (by rw [yZ];show _=s.many+(bH R).length+1;rw [hRt];exact hxl) ⟨by show s.st.length≤_;omega,by show s.wa.length≤_;omega,by show R.length≤_;omega⟩) ?_);rintro _ w ⟨Hy,vr',vy,er,ey,hley,rfl,hOr,hOy,hs3⟩
    have hs:=back hley hs3
    clear hs2 hs3 back r1 r2 r3 r4
    have hkl:=w9 s R
    obtain ⟨arr,crr,rfl⟩:=hOr.jz (kz _) an
    obtain ⟨ayy,lyy,cyy,rfl,-⟩:=hOy.shape
    refine .z zex (.z zex (.o (.aP (vs:=[_,_,_,_,_,_,_,_]) hs rfl rfl aC fun w hs=>?_)))
    refine .zn zg (.ret ?_)
    exact Fin.iM [] [] hs fun w hs=>⟨_,results2 Tryz.results31 (dy (vs:=[_,_,_,_,_,_,_,_]) hs rfl aN aC) rfl,Hz,⟨s,jx s R,cs⟩,_,_,_,_,_,_,e1,e2,er,e4,ey,hlez,rfl,
     ⟨hSt,hWa,by show (jx s R).length≤14;omega,hc5,zq hSp.ok hSt hWa an hc5 (fun r h=>(Ay h).2) hcok⟩,⟨hO1,hO2,hOr,hO4⟩,hOy,C2 hfe hx0 hxl hRt hRs (fun r hr=>by
      obtain ⟨j,hj⟩:=List.getElem?_of_mem hr
      have:=(List.getElem?_eq_some_iff.1 hj).1
      exact hRv j an r hj),hs.sb⟩
structure Spl(s:Srv):Prop where
 st:2≤s.sp.st.length∧s.sp.st.length≤4
 wa:2≤s.sp.wa.length∧s.sp.wa.length≤3
 rs:s.rs.length≤15
 cs:s.cs.length≤5
theorem B7{b n cap k:Nat}{xs:List Int}{sp:List Value}(h:cZ 1 (.slice (some ⟨b,0,none⟩) n cap) (Is xs) (.blk b (Is xs++sp)))(x:Int):
  cZ 1 (.slice (some ⟨b,0,none⟩) n cap) (Is (xs.set k x)) (.blk b (Is (xs.set k x)++sp)):=by
 rcases h with ⟨a,_,_,h3⟩|⟨b',len,cap',sp',h1,h2,h3,h4,h5⟩
 ·cases h3
 ·simp only [Value.slice.injEq] at h1
  obtain ⟨-,rfl,rfl⟩:=h1
  simp only [Ent.blk.injEq] at h2
  rw [←h2.2] at h4
  exact .inr ⟨b,n,cap,sp,rfl,rfl,by simpa [Is] using h3,by simpa [Is] using h4,h5⟩
theorem lN{l:List Rdg}{k j:Nat}{r r':Rdg}(h:l[k]? =some r)(hj:j<7){v:Value}(hc:r.c.set j v=r'.c)(sp:List Value):((rdc l).flatten++sp).set (k*7+j) v=(rdc (l.set k r')).flatten++sp:=by
 have hk:=(List.getElem?_eq_some_iff.1 h).1
 rw [List.set_append_left _ _ (by rw [cz _ (kz _),dG];omega),sF (rdc l) k j v (kz l) (by rw [dG];exact hk) hj r.c (za h),hc]
 unfold rdc
 rw [List.map_set]
theorem lO{b n cap k:Nat}{R:List Rdg}{r':Rdg}{sp:List Value}(h:cZ 7 (.slice (some ⟨b,0,none⟩) n cap) (rdc R).flatten (.blk b ((rdc R).flatten++sp))):
  cZ 7 (.slice (some ⟨b,0,none⟩) n cap) (rdc (R.set k r')).flatten (.blk b ((rdc (R.set k r')).flatten++sp)):=by
 have hl:(rdc (R.set k r')).flatten.length=(rdc R).flatten.length:=by
  rw [cz _ (kz _),cz _ (kz _),dG,dG,List.length_set]
 rcases h with ⟨a,_,_,h3⟩|⟨b',len,cap',sp',h1,h2,h3,h4,h5⟩
 ·cases h3
 ·simp only [Value.slice.injEq] at h1
  obtain ⟨-,rfl,rfl⟩:=h1
  simp only [Ent.blk.injEq] at h2
  rw [←h2.2] at h4
  exact .inr ⟨b,n,cap,sp,rfl,rfl,by rw [hl];exact h3,by rw [List.length_append,hl,←List.length_append];exact h4,h5⟩
theorem sK{l:List Cmp}{k j:Nat}{r r':Cmp}(h:l[k]? =some r)(hj:j<6){v:Value}(hc:r.c.set j v=r'.c)(sp:List Value):((cmc l).flatten++sp).set (k*6+j) v=(cmc (l.set k r')).flatten++sp:=by
 have hk:=(List.getElem?_eq_some_iff.1 h).1
 rw [List.set_append_left _ _ (by rw [cz _ (tU _),gK];omega),sF (cmc l) k j v (tU l) (by rw [gK];exact hk) hj r.c (Ib h),hc]
 unfold cmc
 rw [List.map_set]
theorem sa{b n cap k:Nat}{R:List Cmp}{r':Cmp}{sp:List Value}(h:cZ 6 (.slice (some ⟨b,0,none⟩) n cap) (cmc R).flatten (.blk b ((cmc R).flatten++sp))):
  cZ 6 (.slice (some ⟨b,0,none⟩) n cap) (cmc (R.set k r')).flatten (.blk b ((cmc (R.set k r')).flatten++sp)):=by
 have hl:(cmc (R.set k r')).flatten.length=(cmc R).flatten.length:=by
  rw [cz _ (tU _),cz _ (tU _),gK,gK,List.length_set]
 rcases h with ⟨a,_,_,h3⟩|⟨b',len,cap',sp',h1,h2,h3,h4,h5⟩
 ·cases h3
 ·simp only [Value.slice.injEq] at h1
  obtain ⟨-,rfl,rfl⟩:=h1
  simp only [Ent.blk.injEq] at h2
  rw [←h2.2] at h4
  exact .inr ⟨b,n,cap,sp,rfl,rfl,by rw [hl];exact h3,by rw [List.length_append,hl,←List.length_append];exact h4,h5⟩
set_option maxHeartbeats 2000000 in
theorem tE{vs v5 v4 vp:Value}{sl pk:List Int}{fs5:List F5}{fs4:List F4}{z1 z2 z3:Int}(hs:St H w σ)(g1:RI H vs sl)(g2:RF5 H v5 fs5)(g3:RF4 H v4 fs4)(g4:RI H vp pk):
  Cl Tryz.prog 55 [.agg #[vs,v5,v4,vp,I z1,I z2,I z3]] w fun u w'=>∃H1 s vst vwa vr vc,HLe H H1∧u= .agg #[I s.sp.id,I s.sp.src,vst,vwa,I s.sp.al,I s.sp.up,vr,vc]∧RI H1 vst s.sp.st∧RI H1 vwa s.sp.wa∧RRd H1 vr s.rs∧RCm H1 vc s.cs∧Spl s∧St H1 w' σ:=by
 obtain ⟨avs,cvs,rfl⟩:=RI.shape g1
 obtain ⟨av5,cv5,rfl⟩:=g2.shape
 obtain ⟨av4,cv4,rfl⟩:=g3.shape
 obtain ⟨avp,cvp,rfl⟩:=RI.shape g4
 refine Cl.o Tryz.func55 Tryz.ntmps55 ag1 ?_
 refine .aj (.bx hs fun b1 w hs=>?_)
 refine .o (.alloc hs eG rfl fun b2 w hs=>?_)
 refine .nil (.aj (.y hs (zls [_,_,_,_,_,_,_] Tryz.isAgg39 Tryz.sizeOf39) (.o (.call Tryz.call31 rfl (xJ hs g1 g2 g3 g4) ?_))));rintro _ w ⟨H1,s,y,vst,vwa,vr,vc,vy,e1,e2,e3,e4,e5,hle1,rfl,hM,⟨hO1,hO2,hO3,hO4⟩,hOy,-,hs⟩
 have hst2:=hM.ok.early.1.st.two
 have hwa2:=hM.ok.early.1.wa.two
 have hst4:=hM.st
 have hwa3:=hM.wa
 have hrs:=hM.rs
 have hcs:=hM.cs
 obtain ⟨bS,cS,spS,rfl,rfl,hcapS⟩:=hO1.some an
 obtain ⟨bW,cW,spW,rfl,rfl,hcapW⟩:=hO2.some an
 obtain ⟨ar,cr,rfl⟩:=hO3.jz (kz _) an
 obtain ⟨ac,cc,rfl⟩:=hO4.jz (tU _) an
 rw [dG] at hO3 ⊢
 rw [gK] at hO4 ⊢
 obtain ⟨ay,ly,cy,rfl,-⟩:=hOy.shape
 refine .z zm (.z zex (.z zex (.o (.alloc hs eG rfl fun b3 w hs=>?_))))
 refine .o (.aP (vs:=[_,_,_,_,_,_,_,_]) hs rfl rfl aC fun w hs=>?_)
 refine .zn zg (.aj (.z (zfa pL) (.y hs (zls [_,_,_] Tryz.isAgg37 A0) (.o (.alloc hs Tryz.zeroValue37 rfl fun b5 w hs=>?_)))))
 refine .o (.aP (vs:=[_,_,_]) hs rfl rfl A0 fun w hs=>?_)
 refine .nil (.aj (.z (zia 0 aE ai) (.y hs (zld af) (.o (.call eo rfl (cQ hs an) ?_)))));rintro _ w ⟨k,gk,rfl,hs⟩
 refine .zn zg (.cut (fun fs w=>∃(sp':Spc) (f1 f2:Ent),ke fs ⟨225,[],[(6,I (k:Int)),(5,Pt b5),(3,Pt b3),(2,Pt b2),(1,Pt b1)]⟩∧sp'.st.length=s.sp.st.length∧sp'.wa.length=s.sp.wa.length∧cZ 1 (.slice (some ⟨bS,0,none⟩) s.sp.st.length cS) (Is sp'.st) f1∧cZ 1 (.slice (some ⟨bW,0,none⟩) s.sp.wa.length cW) (Is sp'.wa) f2∧St H1 w (f1::f2::e3::e4:: .blk b5 [I z1,I z2,I z3]:: .blk b3 [I sp'.id,I sp'.src,.slice (some ⟨bS,0,none⟩) s.sp.st.length cS,.slice (some ⟨bW,0,none⟩) s.sp.wa.length cW,I sp'.al,I sp'.up,.slice ar s.rs.length cr,.slice ac s.cs.length cc]:: .blk b2 [I 0,I 0,.slice none 0 0,.slice none 0 0,I 0,I 0,.slice none 0 0,.slice none 0 0]::σ)) ?_ ?_)
 ·refine .aj (.zn zm (.block (.aj (.z fm (.zn zg (.bA rfl (fun hc21=>?_) (fun hc21=>?_)))))))
  ·refine .region (.z (zia 2 aE ai) (.y hs (zld af) (.z (zfa bn) (.z (zfa mX) (.o (.store hs rfl rfl ai fun w hs=>?_))))))
   refine .nil (nB (nT ?_))
   exact ⟨{s.sp with id:=z3},_,_,aU,rfl,rfl,hO1,hO2,hs.sb⟩
  ·refine .aj (.z fm (.zn zg (.bA rfl (fun hc27=>?_) (fun hc27=>?_))))
   ·refine .region (.z (zia 2 aE ai) (.y hs (zld af) (.z (zfa bn) (.z (zfa ed) (.o (.store hs rfl rfl ai fun w hs=>?_))))))
    refine .nil (nB (nT ?_))
    exact ⟨{s.sp with src:=z3},_,_,aU,rfl,rfl,hO1,hO2,hs.sb⟩
   ·refine .aj (.z fm (.zn zg (.bA rfl (fun hc33=>?_) (fun hc33=>?_))))
    ·refine .draw mix rfl hs fun w hs=>?_
     refine .zw 0 rfl (zfa bn) ?_;refine .z 1 rfl (zfa bV) ?_;refine .y 2 rfl hs aq ?_
     refine .zw 3 rfl (zia 1 aE ai) (.y 4 rfl hs af ?_);refine .z 5 rfl (zfa bn) ?_;refine .z 6 rfl (zfa bV) ?_;refine .y 7 rfl hs aq ?_;refine .z 8 rfl (dc ae) ?_
     refine .zw 10 rfl (zia 2 aE ai) (.zv 11 rfl hs (nx af) (.E 9 hs ?_))
     refine .call eo rfl (cQ hs an) ?_;rintro _ w ⟨k44,g44,rfl,hs⟩
     refine .go ?_
     first|(refine .ixv 12 rfl hs ae ai ?_;intro b47 o47 hc47)|refine .z 12 rfl (zix ae ai) ?_
     refine .E 13 hs ?_
     refine .store (c':=Is (s.sp.st.set k44 z3)++spS) hs rfl rfl ai ?_ dn (ml an spS) (jD an spS _);intro w hs
     refine .go (.D hs (nB (nT ?_)))
     exact ⟨{s.sp with st:=s.sp.st.set k44 z3},_,_,aU,cq,rfl,B7 hO1 _,hO2,hs.sb⟩
    ·refine .aj (.z fm (.zn zg (.bA rfl (fun hc48=>?_) (fun hc48=>?_))))
     ·refine .draw mix rfl hs fun w hs=>?_
      refine .zw 0 rfl (zfa bn) ?_;refine .z 1 rfl (zfa bh) ?_;refine .y 2 rfl hs aq ?_
      refine .zw 3 rfl (zia 1 aE ai) (.y 4 rfl hs af ?_);refine .z 5 rfl (zfa bn) ?_;refine .z 6 rfl (zfa bh) ?_;refine .y 7 rfl hs aq ?_;refine .z 8 rfl (dc ae) ?_
      refine .zw 10 rfl (zia 2 aE ai) (.zv 11 rfl hs (nx af) (.E 9 hs ?_))
      refine .call eo rfl (cQ hs an) ?_;rintro _ w ⟨k59,g59,rfl,hs⟩
      refine .go ?_
      first|(refine .ixv 12 rfl hs ae ai ?_;intro b62 o62 hc62)|refine .z 12 rfl (zix ae ai) ?_
      refine .E 13 hs ?_
      refine .store (c':=Is (s.sp.wa.set k59 z3)++spW) hs rfl rfl ai ?_ dn (ml an spW) (jD an spW _);intro w hs
      refine .go (.D hs (nB (nT ?_)))
      exact ⟨{s.sp with wa:=s.sp.wa.set k59 z3},_,_,aU,rfl,cq,hO1,B7 hO2 _,hs.sb⟩
     ·refine .aj (.z fm (.zn zg (.bA rfl (fun hc63=>?_) (fun hc63=>?_))))
      ·refine .region (.z (zia 2 aE ai) (.y hs (zld af) (.z (zfa bn) (.z (zfa eC) (.z (zfa kb) (.o (.store hs rfl rfl ai fun w hs=>?_)))))))
       refine .nil (nB (nT ?_))
       exact ⟨{s.sp with al:=z3},_,_,aU,rfl,rfl,hO1,hO2,hs.sb⟩
      ·refine .aj (.z fm (.zn zg (.bA rfl (fun hc70=>?_) (fun hc70=>?_))))
       ·refine .region (.z (zia 2 aE ai) (.y hs (zld af) (.z (zfa bn) (.z (zfa eC) (.z (zfa ka) (.o (.store hs rfl rfl ai fun w hs=>?_)))))))
        refine .nil (nB (nT ?_))
        exact ⟨{s.sp with up:=z3},_,_,aU,rfl,rfl,hO1,hO2,hs.sb⟩
       ·refine .skip (nB (nT ?_))
        exact ⟨s.sp,_,_,aU,rfl,rfl,hO1,hO2,hs.sb⟩
 ·clear hs hO1 hO2
  rintro fs w ⟨sp',f1,f2,hfs,hl1,hl2,hO1,hO2,hs⟩
  refine WE.sub ?_ hfs
  clear hfs
  refine .cut (fun fs w=>∃(R:List Rdg) (f3:Ent) (ar':Option Addr) (cr':Nat),ke fs ⟨225,[],[(6,I (k:Int)),(5,Pt b5),(3,Pt b3),(2,Pt b2)]⟩∧R.length≤15∧cZ 7 (.slice ar' R.length cr') (rdc R).flatten f3∧St H1 w (f1::f2::f3::e4:: .blk b5 [I z1,I z2,I z3]:: .blk b3 [I sp'.id,I sp'.src,.slice (some ⟨bS,0,none⟩) s.sp.st.length cS,.slice (some ⟨bW,0,none⟩) s.sp.wa.length cW,I sp'.al,I sp'.up,.slice ar' R.length cr',.slice ac s.cs.length cc]:: .blk b2 [I 0,I 0,.slice none 0 0,.slice none 0 0,I 0,I 0,.slice none 0 0,.slice none 0 0]::σ)) ?_ ?_
  ·refine .aj (.z (zfa aZ) (.y hs (zld bQ) (.z (dc aB) (.zn km (.bA rfl (fun hc80=>?_) (fun hc80=>?_))))))
   ·refine .aj (.z (zia 1 aE ai) (.y hs (zld af) (.z (zfa aZ) (.y hs (zld bQ) (.z (dc aB) ?_)))))
    obtain ⟨bR,cR,spR,hv,rfl,hcapR⟩:=hO3.GL (kz _) an (by rw [dG];omega)
    simp only [Value.slice.injEq] at hv
    obtain ⟨rfl,hv2,rfl⟩:=hv
    refine .o (.call eo rfl (cQ hs an) ?_);rintro _ w ⟨i,gi_,rfl,hs⟩
    obtain ⟨r,hr⟩:=nth (l:=s.rs) (k:=i) an
    have hbR:∀j<7,Nat.blt (i*7+j) ((rdc s.rs).flatten++spR).length=true:=fun j hj=>Nat.ble_eq_true_of_le (by rw [List.length_append,cz _ (kz _),dG];omega)
    refine .zn zg (.aj (.zn zm (.block (.seq (.aj (.z fm (.zn zg (.bA rfl (fun hc88=>?_) (fun hc88=>?_)))))))))
    ·refine .skip (nT (.cT (.region (.z (zfa aZ) (.y hs (zld bQ) (.z zm (.z (zia 2 aE ai) (.y hs (zld af) ?_))))))))
     first|(refine .ixw hs aB aK ?_;intro b97 o97 hc97)|refine .z (mA aB aK) ?_
     refine .z (zfa dC) (.o (.store (c':=(rdc (s.rs.set i {r with val:=z3})).flatten++spR) hs rfl rfl ai ?_ dn (hbR 3 an) (lN hr an rfl spR)));intro w hs
     refine .nil (nB (nT ?_))
     exact ⟨s.rs.set i {r with val:=z3},_,some ⟨bR,0,none⟩,cr,aU,by rw [List.length_set];omega,by rw [List.length_set];exact lO hO3,by rw [List.length_set];exact hs.sb⟩
    ·refine .aj (.z fm (.zn zg (.bA rfl (fun hc88=>?_) (fun hc88=>?_))))
     ·refine .skip (nT (.cT (.region (.z (zfa aZ) (.y hs (zld bQ) (.z zm (.z (zia 2 aE ai) (.y hs (zld af) ?_))))))))
      first|(refine .ixw hs aB aK ?_;intro b97 o97 hc97)|refine .z (mA aB aK) ?_
      refine .z (zfa dC) (.o (.store (c':=(rdc (s.rs.set i {r with val:=z3})).flatten++spR) hs rfl rfl ai ?_ dn (hbR 3 an) (lN hr an rfl spR)));intro w hs
      refine .nil (nB (nT ?_))
      exact ⟨s.rs.set i {r with val:=z3},_,some ⟨bR,0,none⟩,cr,aU,by rw [List.length_set];omega,by rw [List.length_set];exact lO hO3,by rw [List.length_set];exact hs.sb⟩
     ·refine .region (.z fm (.zn zg (nT (.bA rfl (fun hc88=>?_) (fun hc88=>?_)))))
      ·refine .region (.z (zfa aZ) (.y hs (zld bQ) (.z zm (.z (zia 2 aE ai) (.y hs (zld af) ?_)))))
       first|(refine .ixw hs aB aK ?_;intro b97 o97 hc97)|refine .z (mA aB aK) ?_
       refine .z (zfa dC) (.o (.store (c':=(rdc (s.rs.set i {r with val:=z3})).flatten++spR) hs rfl rfl ai ?_ dn (hbR 3 an) (lN hr an rfl spR)));intro w hs
       refine .nil (nB (nT ?_))
       exact ⟨s.rs.set i {r with val:=z3},_,some ⟨bR,0,none⟩,cr,aU,by rw [List.length_set];omega,by rw [List.length_set];exact lO hO3,by rw [List.length_set];exact hs.sb⟩
      ·refine .aj (.z fm (.zn zg (.bA rfl (fun hc99=>?_) (fun hc99=>?_))))
       ·refine .region (.z (zfa aZ) (.y hs (zld bQ) (.z zm (.z (zia 2 aE ai) (.y hs (zld af) ?_)))))
        first|(refine .ixw hs aB aK ?_;intro b106 o106 hc106)|refine .z (mA aB aK) ?_
        refine .z (zfa dr) (.o (.store (c':=(rdc (s.rs.set i {r with tol:=z3})).flatten++spR) hs rfl rfl ai ?_ dn (hbR 4 an) (lN hr an rfl spR)));intro w hs
        refine .nil (nB (nT ?_))
        exact ⟨s.rs.set i {r with tol:=z3},_,some ⟨bR,0,none⟩,cr,aU,by rw [List.length_set];omega,by rw [List.length_set];exact lO hO3,by rw [List.length_set];exact hs.sb⟩
       ·refine .aj (.z fm (.zn zg (.bA rfl (fun hc108=>?_) (fun hc108=>?_))))
        ·refine .region (.z (zfa aZ) (.y hs (zld bQ) (.z zm (.z (zia 2 aE ai) (.y hs (zld af) ?_)))))
         first|(refine .ixw hs aB aK ?_;intro b115 o115 hc115)|refine .z (mA aB aK) ?_
         refine .z (zfa eU) (.o (.store (c':=(rdc (s.rs.set i {r with tape:=z3})).flatten++spR) hs rfl rfl ai ?_ dn (hbR 5 an) (lN hr an rfl spR)));intro w hs
         refine .nil (nB (nT ?_))
         exact ⟨s.rs.set i {r with tape:=z3},_,some ⟨bR,0,none⟩,cr,aU,by rw [List.length_set];omega,by rw [List.length_set];exact lO hO3,by rw [List.length_set];exact hs.sb⟩
        ·refine .aj (.z fm (.zn zg (.bA rfl (fun hc117=>?_) (fun hc117=>?_))))
         ·refine .region (.z (zfa aZ) (.y hs (zld bQ) (.z zm (.z (zia 2 aE ai) (.y hs (zld af) ?_)))))
          first|(refine .ixw hs aB aK ?_;intro b124 o124 hc124)|refine .z (mA aB aK) ?_
          refine .z (zfa eT) (.o (.store (c':=(rdc (s.rs.set i {r with day:=z3})).flatten++spR) hs rfl rfl ai ?_ dn (hbR 6 an) (lN hr an rfl spR)));intro w hs
          refine .nil (nB (nT ?_))
          exact ⟨s.rs.set i {r with day:=z3},_,some ⟨bR,0,none⟩,cr,aU,by rw [List.length_set];omega,by rw [List.length_set];exact lO hO3,by rw [List.length_set];exact hs.sb⟩
         ·refine .aj (.z fm (.zn zg (.bA rfl (fun hc126=>?_) (fun hc126=>?_))))
          ·refine .region (.z (zfa aZ) (.y hs (zld bQ) (.z zm (.z (zia 2 aE ai) (.y hs (zld af) ?_)))))
           first|(refine .ixw hs aB aK ?_;intro b133 o133 hc133)|refine .z (mA aB aK) ?_
           refine .z (zfa gI) (.o (.store (c':=(rdc (s.rs.set i {r with st:=z3})).flatten++spR) hs rfl rfl ai ?_ dn (hbR 1 an) (lN hr an rfl spR)));intro w hs
           refine .nil (nB (nT ?_))
           exact ⟨s.rs.set i {r with st:=z3},_,some ⟨bR,0,none⟩,cr,aU,by rw [List.length_set];omega,by rw [List.length_set];exact lO hO3,by rw [List.length_set];exact hs.sb⟩
          ·refine .aj (.z fm (.zn zg (.bA rfl (fun hc135=>?_) (fun hc135=>?_))))
           ·refine .region (.z (zfa aZ) (.y hs (zld bQ) (.z zm (.z (zia 2 aE ai) (.y hs (zld af) ?_)))))
            first|(refine .ixw hs aB aK ?_;intro b142 o142 hc142)|refine .z (mA aB aK) ?_
            refine .z (zfa gH) (.o (.store (c':=(rdc (s.rs.set i {r with wa:=z3})).flatten++spR) hs rfl rfl ai ?_ dn (hbR 2 an) (lN hr an rfl spR)));intro w hs
            refine .nil (nB (nT ?_))
            exact ⟨s.rs.set i {r with wa:=z3},_,some ⟨bR,0,none⟩,cr,aU,by rw [List.length_set];omega,by rw [List.length_set];exact lO hO3,by rw [List.length_set];exact hs.sb⟩
           ·refine .aj (.z fm (.zn zg (.bA rfl (fun hc144=>?_) (fun hc144=>?_))))
            ·refine .region (.z (zfa aZ) (.y hs (zld bQ) (.z zm (.z (zia 2 aE ai) (.y hs (zld af) ?_)))))
             first|(refine .ixw hs aB aK ?_;intro b151 o151 hc151)|refine .z (mA aB aK) ?_
             refine .z (zfa eV) (.o (.store (c':=(rdc (s.rs.set i {r with src:=z3})).flatten++spR) hs rfl rfl ai ?_ dn (hbR 0 an) (lN hr an rfl spR)));intro w hs
             refine .nil (nB (nT ?_))
             exact ⟨s.rs.set i {r with src:=z3},_,some ⟨bR,0,none⟩,cr,aU,by rw [List.length_set];omega,by rw [List.length_set];exact lO hO3,by rw [List.length_set];exact hs.sb⟩
            ·refine .seq (.aj (.z fm (.zn zg (.bA rfl (fun hc153=>?_) (fun hc153=>?_)))))
             ·refine .skip (nT (.cT (.aj (.z (zfa aZ) (.y hs (zld bQ) (.z zm ?_))))))
              first|(refine .ixw hs aB aK ?_;intro b159 o159 hc159)|refine .z (mA aB aK) ?_
              refine .y hs (zls r.c eI aK (hr:= .own (by repeat (first|exact .here|refine .there ?_)) (yv (kz _) (za hr) spR))) ?_
              have hrOk:=hM.ok.early.2.2.2.1 r (List.mem_of_getElem? hr)
              have hrtol:=hrOk.tol
              refine .o (.alloc hs fk rfl fun b8 w hs=>?_)
              refine .o (.aP (vs:=[_,_,_,_,_,_,_]) hs rfl rfl aK fun w hs=>?_)
              refine .nil (.aj (.z (zfa eV) (.o (.store hs rfl rfl ai fun w hs=>?_))))
              refine .nil (.aj (.z (zia 2 aE ai) (.y hs (zld af) (.z (zfa dr) (.y hs (zld af) (.z fY (.z cK (.o (.call eo rfl (cQ hs an) ?_)))))))));rintro _ w ⟨k168,g168,rfl,hs⟩
              refine .z (zfa dC) (.o (.store hs rfl rfl ai fun w hs=>?_))
              refine .nil (.region (.z (zfa aZ) (.y hs (zld bQ) (.y hs (zls [_,_,_,_,_,_,_] eI aK) (.o (.buildSlice (cells:=Rdg.c ⟨50,r.st,r.wa,(k168:Int),r.tol,r.tape,r.day⟩) hs hZ rfl aD fun b173 w hs=>?_))))))
              refine .o (.append (ys:=Rdg.c ⟨50,r.st,r.wa,(k168:Int),r.tol,r.tape,r.day⟩) hs ep rfl rfl hO3 (.own .here rfl rfl) (by simp [Rdg.c,Value.oneCell']) (fun l' h=>by rw [cz _ (kz _),dG] at h;omega) ?_);intro v174 en174 w hO5 hs
              rw [←vJ] at hO5
              obtain ⟨a174,c174,rfl⟩:=hO5.jz (kz _) an
              rw [dG] at hO5 ⊢
              refine .z (zfa aZ) (.o (.store hs rfl rfl tc fun w hs=>?_))
              refine .nil (nB (nT ?_))
              exact ⟨s.rs++[⟨50,r.st,r.wa,(k168:Int),r.tol,r.tape,r.day⟩],_,a174,c174,aU,by simp;omega,hO5,hs.sb⟩
             ·refine .region (.z fm (.zn zg (nT (.bA rfl (fun hc153=>?_) (fun hc153=>?_)))))
              ·refine .aj (.z (zfa aZ) (.y hs (zld bQ) (.z zm ?_)))
               first|(refine .ixw hs aB aK ?_;intro b159 o159 hc159)|refine .z (mA aB aK) ?_
               refine .y hs (zls r.c eI aK (hr:= .own (by repeat (first|exact .here|refine .there ?_)) (yv (kz _) (za hr) spR))) ?_
               have hrOk:=hM.ok.early.2.2.2.1 r (List.mem_of_getElem? hr)
               have hrtol:=hrOk.tol
               refine .o (.alloc hs fk rfl fun b8 w hs=>?_)
               refine .o (.aP (vs:=[_,_,_,_,_,_,_]) hs rfl rfl aK fun w hs=>?_)
               refine .nil (.aj (.z (zfa eV) (.o (.store hs rfl rfl ai fun w hs=>?_))))
               refine .nil (.aj (.z (zia 2 aE ai) (.y hs (zld af) (.z (zfa dr) (.y hs (zld af) (.z fY (.z cK (.o (.call eo rfl (cQ hs an) ?_)))))))));rintro _ w ⟨k168,g168,rfl,hs⟩
               refine .z (zfa dC) (.o (.store hs rfl rfl ai fun w hs=>?_))
               refine .nil (.region (.z (zfa aZ) (.y hs (zld bQ) (.y hs (zls [_,_,_,_,_,_,_] eI aK) (.o (.buildSlice (cells:=Rdg.c ⟨50,r.st,r.wa,(k168:Int),r.tol,r.tape,r.day⟩) hs hZ rfl aD fun b173 w hs=>?_))))))
               refine .o (.append (ys:=Rdg.c ⟨50,r.st,r.wa,(k168:Int),r.tol,r.tape,r.day⟩) hs ep rfl rfl hO3 (.own .here rfl rfl) (by simp [Rdg.c,Value.oneCell']) (fun l' h=>by rw [cz _ (kz _),dG] at h;omega) ?_);intro v174 en174 w hO5 hs
               rw [←vJ] at hO5
               obtain ⟨a174,c174,rfl⟩:=hO5.jz (kz _) an
               rw [dG] at hO5 ⊢
               refine .z (zfa aZ) (.o (.store hs rfl rfl tc fun w hs=>?_))
               refine .nil (nB (nT ?_))
               exact ⟨s.rs++[⟨50,r.st,r.wa,(k168:Int),r.tol,r.tape,r.day⟩],_,a174,c174,aU,by simp;omega,hO5,hs.sb⟩
              ·refine .skip (nB (nT ?_))
               exact ⟨s.rs,_,some ⟨bR,0,none⟩,cr,aU,an,hO3,hs.sb⟩
   ·refine .skip (nT ?_)
    exact ⟨s.rs,_,ar,cr,aU,an,hO3,hs.sb⟩
  ·clear hs hO3
   rintro fs w ⟨R,f3,ar',cr',hfs,hRl,hO3,hs⟩
   refine WE.sub ?_ hfs
   clear hfs
   refine .cut (fun fs w=>∃(C:List Cmp) (f4:Ent) (ac':Option Addr) (cc':Nat),ke fs ⟨225,[],[(3,Pt b3),(2,Pt b2)]⟩∧C.length≤5∧cZ 6 (.slice ac' C.length cc') (cmc C).flatten f4∧St H1 w (f1::f2::f3::f4:: .blk b3 [I sp'.id,I sp'.src,.slice (some ⟨bS,0,none⟩) s.sp.st.length cS,.slice (some ⟨bW,0,none⟩) s.sp.wa.length cW,I sp'.al,I sp'.up,.slice ar' R.length cr',.slice ac' C.length cc']:: .blk b2 [I 0,I 0,.slice none 0 0,.slice none 0 0,I 0,I 0,.slice none 0 0,.slice none 0 0]::σ)) ?_ ?_
   ·refine .aj (.z (zfa cH) (.y hs (zld eu) (.z (dc bu) (.zn km (.bA rfl (fun hc179=>?_) (fun hc179=>?_))))))
    ·refine .aj (.z (zia 1 aE ai) (.y hs (zld af) (.z (zfa cH) (.y hs (zld eu) (.z (dc bu) ?_)))))
     obtain ⟨bC,cC,spC,hv,rfl,hcapC⟩:=hO4.GL (tU _) an (by rw [gK];omega)
     simp only [Value.slice.injEq] at hv
     obtain ⟨rfl,hv2,rfl⟩:=hv
     refine .o (.call eo rfl (cQ hs an) ?_);rintro _ w ⟨i,gi_,rfl,hs⟩
     obtain ⟨c,hc⟩:=nth (l:=s.cs) (k:=i) an
     have hbC:∀j<6,Nat.blt (i*6+j) ((cmc s.cs).flatten++spC).length=true:=fun j hj=>Nat.ble_eq_true_of_le (by rw [List.length_append,cz _ (tU _),gK];omega)
     refine .zn zg (.aj (.zn zm (.block (.seq (.aj (.z fm (.zn zg (.bA rfl (fun hc187=>?_) (fun hc187=>?_)))))))))
     ·refine .skip (nT (.cT (.region (.z (zfa cH) (.y hs (zld eu) (.z zm (.z (zia 2 aE ai) (.y hs (zld af) ?_))))))))
      first|(refine .ixw hs bu cO ?_;intro b195 o195 hc195)|refine .z (mA bu cO) ?_
      refine .z (zfa fJ) (.o (.store (c':=(cmc (s.cs.set i {c with lo:=z3})).flatten++spC) hs rfl rfl ai ?_ dn (hbC 4 an) (sK hc an rfl spC)));intro w hs
      refine .nil (nB (nT ?_))
      exact ⟨s.cs.set i {c with lo:=z3},_,some ⟨bC,0,none⟩,cc,aU,by rw [List.length_set];omega,by rw [List.length_set];exact sa hO4,by rw [List.length_set];exact hs.sb⟩
     ·refine .region (.z fm (.zn zg (nT (.bA rfl (fun hc187=>?_) (fun hc187=>?_)))))
      ·refine .region (.z (zfa cH) (.y hs (zld eu) (.z zm (.z (zia 2 aE ai) (.y hs (zld af) ?_)))))
       first|(refine .ixw hs bu cO ?_;intro b195 o195 hc195)|refine .z (mA bu cO) ?_
       refine .z (zfa fJ) (.o (.store (c':=(cmc (s.cs.set i {c with lo:=z3})).flatten++spC) hs rfl rfl ai ?_ dn (hbC 4 an) (sK hc an rfl spC)));intro w hs
       refine .nil (nB (nT ?_))
       exact ⟨s.cs.set i {c with lo:=z3},_,some ⟨bC,0,none⟩,cc,aU,by rw [List.length_set];omega,by rw [List.length_set];exact sa hO4,by rw [List.length_set];exact hs.sb⟩
      ·refine .aj (.z fm (.zn zg (.bA rfl (fun hc197=>?_) (fun hc197=>?_))))
       ·refine .region (.z (zfa cH) (.y hs (zld eu) (.z zm (.z (zia 2 aE ai) (.y hs (zld af) ?_)))))
        first|(refine .ixw hs bu cO ?_;intro b204 o204 hc204)|refine .z (mA bu cO) ?_
        refine .z (zfa fI) (.o (.store (c':=(cmc (s.cs.set i {c with hi:=z3})).flatten++spC) hs rfl rfl ai ?_ dn (hbC 5 an) (sK hc an rfl spC)));intro w hs
        refine .nil (nB (nT ?_))
        exact ⟨s.cs.set i {c with hi:=z3},_,some ⟨bC,0,none⟩,cc,aU,by rw [List.length_set];omega,by rw [List.length_set];exact sa hO4,by rw [List.length_set];exact hs.sb⟩
       ·refine .aj (.z fm (.zn zg (.bA rfl (fun hc206=>?_) (fun hc206=>?_))))
        ·refine .region (.z (zfa cH) (.y hs (zld eu) (.z zm (.z (zia 2 aE ai) (.y hs (zld af) ?_)))))
         first|(refine .ixw hs bu cO ?_;intro b213 o213 hc213)|refine .z (mA bu cO) ?_
         refine .z (zfa gJ) (.o (.store (c':=(cmc (s.cs.set i {c with fr:=z3})).flatten++spC) hs rfl rfl ai ?_ dn (hbC 2 an) (sK hc an rfl spC)));intro w hs
         refine .nil (nB (nT ?_))
         exact ⟨s.cs.set i {c with fr:=z3},_,some ⟨bC,0,none⟩,cc,aU,by rw [List.length_set];omega,by rw [List.length_set];exact sa hO4,by rw [List.length_set];exact hs.sb⟩
        ·refine .aj (.z fm (.zn zg (.bA rfl (fun hc215=>?_) (fun hc215=>?_))))
         ·refine .region (.z (zfa cH) (.y hs (zld eu) (.z zm (.z (zia 2 aE ai) (.y hs (zld af) ?_)))))
          first|(refine .ixw hs bu cO ?_;intro b222 o222 hc222)|refine .z (mA bu cO) ?_
          refine .z (zfa fK) (.o (.store (c':=(cmc (s.cs.set i {c with to:=z3})).flatten++spC) hs rfl rfl ai ?_ dn (hbC 3 an) (sK hc an rfl spC)));intro w hs
          refine .nil (nB (nT ?_))
          exact ⟨s.cs.set i {c with to:=z3},_,some ⟨bC,0,none⟩,cc,aU,by rw [List.length_set];omega,by rw [List.length_set];exact sa hO4,by rw [List.length_set];exact hs.sb⟩
         ·refine .skip (nB (nT ?_))
          exact ⟨s.cs,_,some ⟨bC,0,none⟩,cc,aU,an,hO4,hs.sb⟩
    ·refine .skip (nT ?_)
     exact ⟨s.cs,_,ac,cc,aU,an,hO4,hs.sb⟩
   ·clear hs hO4
    rintro fs w ⟨C,f4,ac',cc',hfs,hCl,hO4,hs⟩
    refine WE.sub ?_ hfs
    clear hfs
    refine .aj (.y hs (zls [_,_,_,_,_,_,_,_] aN aC) (.o (.aP (vs:=[_,_,_,_,_,_,_,_]) hs rfl rfl aC fun w hs=>?_)))
    refine .nil (.ret ?_)
    have hV:Hm ⟨sp',R,C⟩ (.slice (some ⟨bS,0,none⟩) s.sp.st.length cS) (.slice (some ⟨bW,0,none⟩) s.sp.wa.length cW) (.slice ar' R.length cr') (.slice ac' C.length cc') f1 f2 f3 f4:=⟨hO1,hO2,hO3,hO4⟩
    obtain ⟨Ha,hla,ra,hs⟩:=hO1.dS an hs dn
    obtain ⟨Hb,hlb,rb,hs⟩:=hO2.dS an hs dn
    obtain ⟨Hc,hlc,rc,hs⟩:=cZ.di (m:=7) (cs:=rdc R) hO3 (kz _) an (by rw [dG];omega) hs dn
    obtain ⟨Hd,hld,rd,hs⟩:=cZ.di (m:=6) (cs:=cmc C) hO4 (tU _) an (by rw [gK];omega) hs dn
    exact Fin.iM [] [] hs fun w hs=>⟨_,results1 Tryz.results55 (dy (vs:=[_,_,_,_,_,_,_,_]) hs rfl aN aC),Hd,⟨sp',R,C⟩,_,_,_,_,hle1.trans (hla.trans (hlb.trans (hlc.trans hld))),rfl,ra.mono (hlb.trans (hlc.trans hld)),rb.mono (hlc.trans hld),RRd.mono rc hld,rd,⟨by show 2≤sp'.st.length∧sp'.st.length≤4;omega,by show 2≤sp'.wa.length∧sp'.wa.length≤3;omega,hRl,hCl⟩,hs.out⟩
set_option maxHeartbeats 4000000 in
theorem oL{s:Srv}{rows:List (List Int)}{vst vwa vr vc vh:Value}(hs:St H w σ)(h1:RI H vst s.sp.st)(h2:RI H vwa s.sp.wa)(h3:RRd H vr s.rs)(h4:RCm H vc s.cs)(hh:RT H vh rows):
  Cl Tryz.prog 65 [.agg #[I s.sp.id,I s.sp.src,vst,vwa,I s.sp.al,I s.sp.up,vr,vc],.agg #[vh]] w fun u w'=>∃H1 e,HLe H H1∧u=I e∧Fb s rows e∧St H1 w' σ:=by
 obtain ⟨ast,cst,rfl⟩:=RI.shape h1
 obtain ⟨awa,cwa,rfl⟩:=RI.shape h2
 obtain ⟨ar,cr,rfl⟩:=RRd.shape h3
 obtain ⟨ac,cc,rfl⟩:=RCm.shape h4
 obtain ⟨ah,ch,rfl⟩:=hh.shape
 refine Cl.o Tryz.func65 Tryz.ntmps65 ag2 ?_
 refine .aj (.bx hs fun b2 w hs=>?_)
 refine .bx hs fun b3 w hs=>?_
 refine .zn zg (.seq (.aj (.y hs (zls [_,_,_,_,_,_,_,_] aN aC) (.o (.call Ki rfl (gM (s:=s) hs h1 h2 h3 h4) ?_)))));rintro _ w ⟨H1,e,hle1,rfl,hC,hs⟩
 refine .zn zg (.aj (.z zm (.zn gE (.dV rfl (fun hc16=>?_) (fun hc16=>?_)))))
 ·refine .aj (.z zm (.zn zg (.ret (rT (?_)))))
  exact Fin.bE Tryz.results65 rfl ⟨H1,_,hle1,rfl,.bad hC hc16,hs.out⟩
 ·refine .skip (nT (.seq (.aj (.z (zfa bn) (.y hs (zls [_,_,_,_,_,_] bg aM) (.y hs (zls [_] Tryz.isAgg64 AZ) ?_))))))
  have hok:eW s:=hC.dU.1 (by simpa using hc16)
  have hsm:=fN hok.early.1
  have hrl:=hok.early.2.1
  refine .o (.call Tryz.call129 rfl (mb (s:=s.sp) hs (h1.mono hle1) (h2.mono hle1) (hh.mono hle1)) ?_);rintro _ w ⟨H2,b21,hle2,rfl,hb21,hs⟩
  have hle02:=hle1.trans hle2
  refine .zn fZ (.cond rfl (fun hc22=>?_) (fun hc22=>?_))
  ·refine .aj (.zn zg (.ret (rT (?_))))
   exact Fin.bE Tryz.results65 rfl ⟨H2,_,hle02,rfl,.hull hok (fun h=>by rw [hb21.2 h] at hc22;cases hc22),hs.out⟩
  ·refine .skip (nT (.aj (.y hs (zls [_,_,_,_,_,_,_,_] aN aC) ?_)))
   have hhull:mz s.sp rows:=hb21.1 (by simpa using hc22)
   have hll:=hok.dk
   have hmm:=hok.many
   refine .o (.call Kh rfl (gg (s:=s) hs (h1.mono hle02) (h2.mono hle02) (h3.mono hle02) (h4.mono hle02) hok.early) ?_);rintro _ w ⟨H3,hle3,⟨ul,rfl,hL⟩,hs⟩
   obtain ⟨al,cl,rfl⟩:=RL.shape hL
   have hle03:=hle02.trans hle3
   have hbd:=fun b hb=>He (b:=b) hhull hb
   have hlim:=fun l hl=>hok.sys.lim l hl
   refine .o (.alloc hs dD rfl fun b6 w hs=>?_)
   refine .o (.aP (vs:=[_,_]) hs rfl rfl aI fun w hs=>?_)
   refine .nil (.aj (.o (.buildSlice (cells:=[_]) hs db rfl rfl fun b25 w hs=>?_)))
   refine .o (.alloc hs ee rfl fun b7 w hs=>?_)
   refine .o (.store hs rfl rfl aA fun w hs=>?_)
   refine .nil (.seq (.aj (.z (zfa bn) (.y hs (zls [_,_,_,_,_,_] bg aM) (.o (.call Dm rfl (gG (s:=s.sp) hs (h1.mono hle03) (h2.mono hle03) ⟨an,an⟩) ?_))))));rintro _ w ⟨H4,ba,hle4,rfl,hit,hs⟩
   have hle04:=hle03.trans hle4
   refine .nil (.block ?_)
   refine .rangeFunc (gf:=188) (cap:=[Pt ba]) (xs:=yI s.sp) (σb:=[.blk b7 [.slice (some ⟨b25,0,none⟩) 1 1],.blk b25 (Is [0]),.blk b6 [I s.sys.many,.slice al s.dk.length cl],.blk b3 [.slice ah rows.length ch]]) (σf:=σ) (hs.sb) trivial rfl hit Dl (fun x hx=>by
     simp only [yI,List.mem_map] at hx
     obtain ⟨j,_,rfl⟩:=hx;rfl) rfl
    (I:=fun p H' σb=>∃vo en,σb=[.blk b7 [vo],en,.blk b6 [I s.sys.many,.slice al s.dk.length cl],.blk b3 [.slice ah rows.length ch]]∧cZ 1 vo (Is (xl1 s (gt rows) (p+1))) en) (Ix:=fun _ _ _=>False)
    (fun j _ _ σ g1 g2=>g2) (fun _ _ _ _ _ h=>h) ⟨_,_,rfl,.full rfl⟩ ?_ ?_ (fun D c H' σb w _ h _=>h.elim)
   ·rintro ly p hp H5 σb2 σf2 w hle5 ⟨vo,en,rfl,hO⟩ hs ⟨rr,hrr⟩
    have hpm:p<s.sp.many:=by rw [eQ] at hp;exact hp
    have hin:p/s.sp.wa.length<s.sp.st.length:=Nat.div_lt_of_lt_mul (by rw [Nat.mul_comm];exact hpm)
    have hkm:=Nat.mod_lt p hsm.2.2.1
    have hval:hpt s.sp (gt rows) (p+1)=gi (gr rows (p/s.sp.wa.length)) (p%s.sp.wa.length):=rfl
    have hrow:=hhull.row _ hin
    have hrlen:=hhull.len
    have hr5:=hh.mono (hle04.trans hle5)
    rw [nQ hp]
    obtain ⟨ao,lo,co,rfl,hlo⟩:=hO.shape
    have hxl:=m8 s (gt rows) (p+1)
    generalize p/s.sp.wa.length=i at*
    generalize p%s.sp.wa.length=k at*
    refine .region (.o (.alloc hs lX rfl fun b8 w hs=>?_))
    refine .o (.aP (vs:=[_,_,_]) hs rfl rfl qz fun w hs=>?_)
    refine .nil (nT (⟨H5,[.blk b8 [I (i:Int),I (k:Int),I ((p+1:Nat):Int)],.blk b7 [.slice ao lo co],en,.blk b6 [I s.sys.many,.slice al s.dk.length cl],.blk b3 [.slice ah rows.length ch]],HLe.refl _,hs,?_⟩));rintro w σf4 - hs
    refine .block (.draw mix rfl hs fun w hs=>?_)
    refine .y 0 rfl hs aq ?_;refine .z 1 rfl (zfa lP) ?_;refine .y 2 rfl hs xx ?_;refine .z 3 rfl (zfa dO) ?_;refine .y 4 rfl hs af ?_
    refine .ixT (i:=5) hs rfl aD .none hr5 rfl rfl az aA (show i<_ by omega) da ?_;intro b35 o35 a35 c35 hc35 hR35
    refine .r (i:=6) hs rfl aD .none (aJ rfl aq hc35) ?_
    refine .zw 7 rfl (zfa dw) ?_;refine .y 8 rfl hs af ?_
    refine .ixX (enc:=fun x=>[I x]) (i:=9) hs rfl aD .none hR35 rfl rfl ae ai (bB (l:=(gr rows i)) (i:=k) an) da ?_;intro b39 o39 hc39;replace hc39:=bL.one hc39
    refine .r (i:=10) hs rfl aD .none (aJ rfl af hc39) ?_
    refine .E 11 hs ?_
    refine .buildSlice (cells:=[_]) hs db rfl rfl ?_;intro b41 w hs
    refine .go (.E 12 hs ?_)
    refine .append (ys:=Is [gi (gr rows i) k]) hs cM rfl rfl hO (.own (c:=Is [gi (gr rows i) k]) (by first|exact .here|exact .there .here) rfl rfl) (iL _) (fun l h=>by simp at h;omega) ?_;intro v42 en42 w hO2 hs
    rw [←List.map_append,←hval,←Ft] at hO2
    obtain ⟨a42,l42,c42,rfl,h42⟩:=hO2.shape
    refine .go (.E 13 hs ?_)
    refine .store hs rfl rfl aA ?_;intro w hs
    refine .go (.D hs (nB ?_))
    exact ⟨H5,[.blk b7 [.slice a42 l42 c42],en42,.blk b6 [I s.sys.many,.slice al s.dk.length cl],.blk b3 [.slice ah rows.length ch]],HLe.refl _,(hs.sb:St H5 w (.blk b7 _::en42:: .blk b6 _:: .blk b3 _::σf4)),_,_,rfl,hO2⟩
   ·rintro D H5 σb2 w hle5 ⟨vo,en,rfl,hO⟩ hs
    rw [eQ] at hO
    replace hs:St H5 w (.obj D (.deferred (some [])):: .blk b7 [vo]::en:: .blk b6 [I s.sys.many,.slice al s.dk.length cl]:: .blk b3 [.slice ah rows.length ch]::σ):=hs
    obtain ⟨ao,lo,co,rfl,hlo⟩:=hO.shape
    have hxl:=m8 s (gt rows) (s.sp.many+1)
    have hlo':lo=s.sp.many+1:=by simp [Is] at hlo;omega
    subst hlo'
    have hL5:=hL.mono (hle4.trans hle5)
    have hleF:=hle04.trans hle5
    refine nB (nT (.seq (.aj (.y hs (zld aq) (.z (dc ae) (.zn zg (.block ?_)))))))
    refine .loop (fun j:Nat=>⟨81,marks [D],[(9,I ((s.sp.many+1+j:Nat):Int)),(7,Pt b7),(6,Pt b6)]⟩)
     (fun j w=>j≤s.cV.length∧∃ax cx en,cZ 1 (.slice ax (s.sp.many+1+j) cx) (Is (xl1 s (gt rows) (s.sp.many+1)++xl2 s (gt rows) j)) en∧St H5 w (.obj D (.deferred (some [])):: .blk b7 [.slice ax (s.sp.many+1+j) cx]::en:: .blk b6 [I s.sys.many,.slice al s.dk.length cl]::σ)) (fun j=>s.cV.length - j) 0 aU
     ⟨Nat.zero_le _,_,_,_,by show cZ 1 _ (Is (_++[])) _;rw [List.append_nil];exact hO,hs.sb⟩ ?_
    clear hs hO
    rintro j w ⟨hj,ax,cx,en,hO,hs⟩
    have hsys:s.sys.many=((s.sp.many+s.cV.length:Nat):Int):=rfl
    have hx2:=yg s (gt rows) j
    have hxall:(xl1 s (gt rows) (s.sp.many+1)++xl2 s (gt rows) j).length=s.sp.many+1+j:=by rw [List.length_append,hxl,hx2]
    refine .seq (.aj (.z zm (.z (zfa cE) (.y hs (zld af) (.zn nF (.bA rfl (fun hc48=>?_) (fun hc48=>?_)))))))
    ·refine .skip (nT (.seq (.block (.aj (.zn zg (.seq (.aj (.z (zfa cN) (.y hs (zld dz) (.z (dc a8) (.zn zm (.for (N:=s.dk.length) (J:=fun k fr w=>fr=[(10,I (xC (hpt s.sp (gt rows)) (s.sp.many+1+j:Nat) (s.dk.take k))),(52,.slice al s.dk.length cl),(9,I ((s.sp.many+1+j:Nat):Int)),(7,Pt b7),(6,Pt b6)]∧St H5 w (.obj D (.deferred (some [])):: .blk b7 [.slice ax (s.sp.many+1+j) cx]::en:: .blk b6 [I s.sys.many,.slice al s.dk.length cl]::σ)) an ?_ ?_ ?_))))))))))))
     ·exact .mk ⟨rfl,hs⟩
     ·rintro k fr w hk ⟨rfl,hs⟩
      obtain ⟨l,hx⟩:=nth (l:=s.dk) hk
      have hlm:=List.mem_of_getElem? hx
      obtain ⟨⟨gA,gB⟩,hsd⟩:=pA hok.early hlm
      have hM:=(hlim l hlm).2.2.2.1
      obtain ⟨eB,hB⟩:∃b:Nat,l.B=b:=⟨_,(Int.toNat_of_nonneg gB).symm⟩
      have hB1:l.B.toNat=eB:=by rw [hB,Int.toNat_natCast]
      rw [hB1] at hsd
      have hbl:=Bp (hpt s.sp (gt rows)) (s.sp.many+1+j:Nat) (s.dk.take k)
      refine .block (.aj (.ixX (enc:=Lim.c) hs hL5 rfl rfl a8 bJ hx rfl ?_));intro b56 o56 hc56
      refine .q hs (cj (vs:=l.c) rfl gw bJ hc56) (.o (.alloc hs eL rfl fun b12 w hs=>?_))
      refine .o (.aP (vs:=l.c) hs rfl rfl bJ fun w hs=>?_)
      refine .nil (.aj (.z (zfa eN) (.y hs (zld af) (.z zm (.zn fm (.bA rfl (fun hc61=>?_) (fun hc61=>?_)))))))
      ·refine .draw mix rfl hs fun w hs=>?_
       have hbB:=hbd eB an
       obtain ⟨bo,co',sp,hv,rfl,hcap⟩:=hO.blk (by rw [hxall];omega)
       simp only [Value.slice.injEq] at hv
       obtain ⟨rfl,-,rfl⟩:=hv
       have hgx:gi (xl1 s (gt rows) (s.sp.many+1)++xl2 s (gt rows) j) eB=hpt s.sp (gt rows) eB:=yN s _ _ an
       refine .zw 0 rfl zm ?_;refine .y 1 rfl hs aq ?_;refine .z 2 rfl (zfa fi) ?_;refine .y 3 rfl hs af ?_
       rw [hB]
       refine .zw 4 rfl (zix (j:=eB) ae ai) (.load (i:=5) hs rfl aD .none rfl af ?_ (hv:=gu an sp))
       rw [hgx]
       refine .zw 6 rfl (zfa gU) ?_;refine .y 7 rfl hs af ?_;refine .z 8 rfl fY ?_;refine .z 9 rfl A5 ?_;refine .z 10 rfl zg ?_;refine .D hs ?_
       refine nB (nT ?_)
       exact .mk ⟨by rw [dP hx,w6,if_pos an,hB1],hs.sb⟩
      ·refine .skip (nB (nT ?_))
       exact .mk ⟨by rw [dP hx,w6,if_neg an],hs.sb⟩
     ·rintro fr w ⟨rfl,hs⟩
      rw [List.take_length]
      refine nT (.region (.y hs (zld aq) (.z zm (.o (.buildSlice (cells:=[_]) hs db rfl rfl fun b75 w hs=>?_)))))
      refine .o (.append (ys:=Is [xC (hpt s.sp (gt rows)) (s.sp.many+1+j:Nat) s.dk]) hs cM rfl rfl hO (.own .here rfl rfl) (iL _) (fun l h=>by simp only [Is,List.length_map,hxall] at h;omega) ?_);intro v76 en76 w hO2 hs
      rw [←List.map_append,List.append_assoc,←Fq] at hO2
      obtain ⟨a76,c76,rfl⟩:=hO2.BV
      have hx3:(xl1 s (gt rows) (s.sp.many+1)++xl2 s (gt rows) (j+1)).length=s.sp.many+1+(j+1):=by rw [List.length_append,hxl,yg]
      rw [hx3] at hO2 ⊢
      refine .o (.store hs rfl rfl aA fun w hs=>?_)
      refine .nil (nB (nT (.region (.z zm (.z cK (.zn zg (nT ?_)))))))
      exact ⟨j+1,.cJ rfl (by simp;omega) aU,⟨an,_,_,_,hO2,hs.sb⟩,an⟩
    ·refine .exit (xT (xT (xB (nT (.seq (.aj (.y hs (zls [_,_] bq aI) (.y hs (zld aq) ?_))))))))
     obtain rfl:j=s.cV.length:=by omega
     obtain ⟨H6,hle6,hX,hs⟩:=cZ.dS hO (by rw [hxall];omega) hs dn
     refine .o (.call Tryz.call134 rfl (pP (s:=s.sys) hs ⟨_,rfl,hL5.mono hle6⟩ hX) ?_);rintro _ w ⟨e79,rfl,hP,hs⟩
     have hn:=yZ s
     have hkeep:E8 s.sys (xl1 s (gt rows) (s.sp.many+1)++xl2 s (gt rows) s.cV.length)↔∃f,Kp s (gt rows) f:=by
      rw [←Fp hok]
      refine ⟨fun h=>h.zT,fun h=>⟨by rw [hxall,hn];omega,by rw [yN s _ _ an];rfl,fun b hb=>?_,h⟩⟩
      rw [hn] at hb
      by_cases e:b<s.sp.many+1
      ·rw [yN s _ _ e]
       have:=hbd b an
       omega
      ·rw [show b=s.sp.many+1+(b - (s.sp.many+1)) by omega,BR s _ an]
       have g1:=Bp (hpt s.sp (gt rows)) (s.sp.many+1+(b - (s.sp.many+1)):Nat) s.dk
       have g2:=Gk hok hhull (b - (s.sp.many+1))
       omega
     refine .zn gE (.dV rfl (fun hc80=>?_) (fun hc80=>?_))
     ·refine .aj (.zn zg (.ret (rT ((Fin.iM [D] [] hs fun w hs=>⟨_,results1 Tryz.results65 rfl,H6,_,hleF.trans hle6,rfl,.no hok hhull (fun h=>hc80 ?_),hs.out⟩)))))
      cases hP with
      |bad h=>exact (h (s.sys.dU.2 hok.sys)).elim
      |off _ h1=>exact (h1 (hkeep.2 h)).elim
      |ok=>rfl
     ·refine .skip (nT (.aj (.zn zg (.ret (Fin.iM [D] [] hs fun w hs=>⟨_,results1 Tryz.results65 rfl,H6,_,hleF.trans hle6,rfl,.ok hok hhull (hkeep.1 ?_),hs.out⟩)))))
      cases hP with
      |bad h=>exact (h (s.sys.dU.2 hok.sys)).elim
      |off _ h1=>omega
      |ok _ h1=>exact h1
theorem cI{a0 a1 a2:Int}(hs:St H w σ):Cl Tryz.prog 72 [I a0,I a1,I a2] w fun v w'=>v= .bool (decide (a1≤a0∧a0≤a2))∧St H w' σ:=by
 refine Cl.o Tryz.func72 Tryz.ntmps72 ag3 ?_
 refine .aj (.zn zg (.aj (.z zm (.z zm (.z nF (.z zm (.gX (t':=10) rfl (fun hb10=>?_) (fun hb10=>?_))))))))
 ·refine .T (.z zm (.T (.z zm (.T (.z nF (.z zpT (.zn zg (.ret (Fin.bE Tryz.results72 rfl ?_)))))))))
  exact ⟨by simp [*],hs.out⟩
 ·refine .Fs 3 3 true (.z zpF (.zn zg (.ret (Fin.bE Tryz.results72 rfl ?_))))
  exact ⟨by simp [*],hs.out⟩
theorem la{a0:Int}(hs:St H w σ):Cl Tryz.prog 73 [I a0] w fun v w'=>v= .bool (decide (1≤a0∧a0≤20))∧St H w' σ:=by
 refine Cl.o Tryz.func73 Tryz.ntmps73 ag1 ?_
 refine .aj (.zn zg (.aj (.z zm (.o (.call eS rfl (cI hs) ?_)))));rintro _ w ⟨rfl,hs⟩
 refine .zn zg (.ret (Fin.bE Tryz.results73 rfl ?_))
 exact ⟨rfl,hs⟩
theorem om{x y a1 a2:Int}(hs:St H w σ):Cl Tryz.prog 161 [.agg #[I x,I y],I a1,I a2] w fun v w'=>v= .bool (decide (a1≤x∧x≤y∧y≤a2))∧St H w' σ:=by
 refine Cl.o Tryz.func161 Tryz.ntmps161 ag3 ?_
 refine .aj (.bx hs fun b3 w hs=>?_)
 refine .zn zg (.aj (.z zm (.z (zfa bG) (.y hs (zld af) (.z nF (.z zm (.gX (t':=11) rfl (fun hb11=>?_) (fun hb11=>?_))))))))
 ·refine .T (.z (zfa bG) (.T (.y hs (zld af) (.T (.z (zfa cf) (.T (.y hs (zld af) (.T (.z nF (.z zpT (.z zm (.gX (t':=18) rfl (fun hb18=>?_) (fun hb18=>?_)))))))))))))
  ·refine .T (.z (zfa cf) (.T (.y hs (zld af) (.T (.z zm (.T (.z nF (.z zpT (.zn zg (.ret (Fin.bE Tryz.results161 rfl ?_)))))))))))
   exact ⟨by simp [*],hs.out⟩
  ·refine .Fs 4 11 true (.z zpF (.zn zg (.ret (Fin.bE Tryz.results161 rfl ?_))))
   exact ⟨by simp [*],hs.out⟩
 ·refine .Fs 5 4 true (.z zpF (.z zm (.Fs 4 11 true (.z zpF (.zn zg (.ret (Fin.bE Tryz.results161 rfl ?_)))))))
  exact ⟨by simp [*],hs.out⟩
theorem oo{x y:Int}(hs:St H w σ):Cl Tryz.prog 109 [.agg #[I x,I y]] w fun v w'=>v= .bool (decide (iy x y))∧St H w' σ:=by
 refine Cl.o Tryz.func109 Tryz.ntmps109 ag1 ?_
 refine .aj (.bx hs fun b1 w hs=>?_)
 refine .zn zg (.aj (.y hs (zls [_,_] aW au) (.o (.call Tryz.call161 rfl (om hs) ?_))));rintro _ w ⟨rfl,hs⟩
 refine .zn zg (.ret (Fin.bE Tryz.results109 rfl ?_))
 exact ⟨rfl,hs.out⟩
theorem nt{x y:Int}(hs:St H w σ):Cl Tryz.prog 118 [.agg #[I x,I y]] w fun v w'=>v= .bool (decide (gD x y))∧St H w' σ:=by
 refine Cl.o Tryz.func118 Tryz.ntmps118 ag1 ?_
 refine .aj (.bx hs fun b1 w hs=>?_)
 refine .zn zg (.aj (.y hs (zls [_,_] aW au) (.o (.call Tryz.call161 rfl (om hs) ?_))));rintro _ w ⟨rfl,hs⟩
 refine .zn zg (.ret (Fin.bE Tryz.results118 rfl ?_))
 exact ⟨rfl,hs.out⟩
theorem wX{x:Lg}(hs:St H w σ):
  Cl Tryz.prog 75 [.agg #[I x.zone,I x.fr,I x.to,I x.dlo,I x.dhi,I x.blo,I x.bhi]] w fun v w'=>∃b:Bool,v= .bool b∧(b=true↔BK x)∧St H w' σ:=by
 refine Cl.o Tryz.func75 Tryz.ntmps75 ag1 ?_
 refine .aj (.bx hs fun b1 w hs=>?_)
 refine .zn zg (.aj (.z (zfa kS) (.y hs (zld af) (.o (.call Tryz.call73 rfl (la hs) ?_)))));rintro _ w ⟨rfl,hs⟩
 refine .z zm (.bif (t':=6) rfl (fun hb6=>?_) (fun hb6=>?_))
 ·refine .T (.z (zfa fu) (.T (.y hs (zld af) (.T (.z (zfa ft) (.T (.y hs (zld af) (.T (.o (.call eS rfl (cI hs) ?_))))))))));rintro _ w ⟨rfl,hs⟩
  refine .z zpT (.z zm (.bif (t':=13) rfl (fun hb13=>?_) (fun hb13=>?_)))
  ·refine .T (.z (zfa ft) (.T (.y hs (zld af) (.T (.o (.call eS rfl (cI hs) ?_))))));rintro _ w ⟨rfl,hs⟩
   refine .z zpT (.z zm (.bif (t':=18) rfl (fun hb18=>?_) (fun hb18=>?_)))
   ·refine .T (.z (zfa fq) (.T (.y hs (zls [_,_] aW au) (.T (.o (.call Tryz.call118 rfl (nt hs) ?_))))));rintro _ w ⟨rfl,hs⟩
    refine .z zpT (.z zm (.bif (t':=23) rfl (fun hb23=>?_) (fun hb23=>?_)))
    ·refine .T (.z (zfa fp) (.T (.y hs (zls [_,_] aW au) (.T (.o (.call Tryz.call109 rfl (oo hs) ?_))))));rintro _ w ⟨rfl,hs⟩
     refine .z zpT (.zn zg (.ret (Fin.bE GY rfl ?_)))
     first
     |exact ⟨false,rfl,⟨fun h=>(by cases h),fun h=>(by obtain ⟨g1,g2,g3,g4,g5⟩:=h;first|omega|(simp_all;done)|(simp_all;omega))⟩,hs.out⟩
     |exact ⟨_,rfl,⟨fun h=>⟨by simp_all,by simp_all,by simp_all,by simp_all,by simpa using h⟩,fun h=>by simpa using h.burn⟩,hs.out⟩
    ·refine .Fs 3 20 true (.z zpF (.zn zg (.ret (Fin.bE GY rfl ?_))))
     first
     |exact ⟨false,rfl,⟨fun h=>(by cases h),fun h=>(by obtain ⟨g1,g2,g3,g4,g5⟩:=h;first|omega|(simp_all;done)|(simp_all;omega))⟩,hs.out⟩
     |exact ⟨_,rfl,⟨fun h=>⟨by simp_all,by simp_all,by simp_all,by simp_all,by simpa using h⟩,fun h=>by simpa using h.burn⟩,hs.out⟩
   ·refine .Fs 3 15 true (.z zpF (.z zm (.Fs 3 20 true (.z zpF (.zn zg (.ret (Fin.bE GY rfl ?_)))))))
    first
    |exact ⟨false,rfl,⟨fun h=>(by cases h),fun h=>(by obtain ⟨g1,g2,g3,g4,g5⟩:=h;first|omega|(simp_all;done)|(simp_all;omega))⟩,hs.out⟩
    |exact ⟨_,rfl,⟨fun h=>⟨by simp_all,by simp_all,by simp_all,by simp_all,by simpa using h⟩,fun h=>by simpa using h.burn⟩,hs.out⟩
  ·refine .Fs 3 10 true (.z zpF (.z zm (.Fs 3 15 true (.z zpF (.z zm (.Fs 3 20 true (.z zpF (.zn zg (.ret (Fin.bE GY rfl ?_))))))))))
   first
   |exact ⟨false,rfl,⟨fun h=>(by cases h),fun h=>(by obtain ⟨g1,g2,g3,g4,g5⟩:=h;first|omega|(simp_all;done)|(simp_all;omega))⟩,hs.out⟩
   |exact ⟨_,rfl,⟨fun h=>⟨by simp_all,by simp_all,by simp_all,by simp_all,by simpa using h⟩,fun h=>by simpa using h.burn⟩,hs.out⟩
 ·refine .Fs 5 3 true (.z zpF (.z zm (.Fs 3 10 true (.z zpF (.z zm (.Fs 3 15 true (.z zpF (.z zm (.Fs 3 20 true (.z zpF (.zn zg (.ret (Fin.bE GY rfl ?_)))))))))))))
  first
  |exact ⟨false,rfl,⟨fun h=>(by cases h),fun h=>(by obtain ⟨g1,g2,g3,g4,g5⟩:=h;first|omega|(simp_all;done)|(simp_all;omega))⟩,hs.out⟩
  |exact ⟨_,rfl,⟨fun h=>⟨by simp_all,by simp_all,by simp_all,by simp_all,by simpa using h⟩,fun h=>by simpa using h.burn⟩,hs.out⟩
set_option maxHeartbeats 1000000 in
theorem jw{l:Lns}{vt vs:Value}(hs:St H w σ)(h1:RFb H vt l.table)(h2:RSn H vs l.seasons):
  Cl Tryz.prog 19 [.agg #[I l.length,I l.depth,vt,vs]] w fun u w'=>∃e,u=I e∧Ko l e∧St H w' σ:=by
 obtain ⟨at_,ct,rfl⟩:=h1.shape
 obtain ⟨as_,cs,rfl⟩:=h2.shape
 refine Cl.o Tryz.func19 Tryz.ntmps19 ag1 ?_
 refine .aj (.bx hs fun b1 w hs=>?_)
 refine .zn zg (.seq (.aj (.z (zfa eD) (.y hs (zld af) (.o (.call eS rfl (cI hs) ?_))))));rintro _ w ⟨rfl,hs⟩
 refine .z fZ (.z zm (.bif (t':=11) rfl (fun hb11=>?_) (fun hb11=>?_)))
 ·refine .Fs 4 4 false (.z zpT (.z zm (.Fs 5 10 false (.z zpT (.z zm (.Fs 4 17 false (.zn zpT (.cT (.aj (.zn zg (.ret (rT (Fin.bE gz rfl ?_)))))))))))))
  exact ⟨_,rfl,.inr ⟨fun h=>by have:=h.length;simp_all,rfl⟩,hs.out⟩
 ·refine .T (.z (zfa iI) (.T (.y hs (zld af) (.T (.o (.call eS rfl (cI hs) ?_))))));rintro _ w ⟨rfl,hs⟩
  refine .T (.z fZ (.z zpF (.z zm (.bif (t':=17) rfl (fun hb17=>?_) (fun hb17=>?_)))))
  ·refine .Fs 5 10 false (.z zpT (.z zm (.Fs 4 17 false (.zn zpT (.cT (.aj (.zn zg (.ret (rT (Fin.bE gz rfl ?_))))))))))
   exact ⟨_,rfl,.inr ⟨fun h=>by have:=h.depth;simp_all,rfl⟩,hs.out⟩
  ·refine .T (.z (zfa cU) (.T (.y hs (zld ew) (.T (.z (dc a6) (.T (.o (.call eS rfl (cI hs) ?_))))))));rintro _ w ⟨rfl,hs⟩
   refine .T (.z fZ (.z zpF (.z zm (.bif (t':=24) rfl (fun hb24=>?_) (fun hb24=>?_)))))
   ·refine .Fs 4 17 false (.zn zpT (.cT (.aj (.zn zg (.ret (rT (Fin.bE gz rfl ?_)))))))
    exact ⟨_,rfl,.inr ⟨fun h=>by have:=h.many;simp_all;omega,rfl⟩,hs.out⟩
   ·refine .T (.z (zfa de) (.T (.y hs (zld eM) (.T (.z (dc bD) (.T (.z km (.zn zpF (.bA rfl (fun hc29=>?_) (fun hc29=>?_))))))))))
    ·refine .aj (.zn zg (.ret (rT (Fin.bE gz rfl ?_))))
     exact ⟨_,rfl,.inr ⟨fun h=>by have:=h.most;simp_all;omega,rfl⟩,hs.out⟩
    ·refine .skip (nT (.seq (.aj ?_)))
     have hl20:1≤l.table.length∧l.table.length≤20:=by first|omega|(simp at hb24;omega)
     refine .z (zfa cU) (.y hs (zld ew) (.z (dc a6) (.zn zm (.for (N:=l.table.length) (J:=fun k fr w=>fr=[(31,.slice at_ l.table.length ct),(1,Pt b1)]∧(∀j<k,GU l.table j)∧St H w (.blk b1 [I l.length,I l.depth,.slice at_ l.table.length ct,.slice as_ l.seasons.length cs]::σ)) an ?_ ?_ ?_))))
     ·exact .mk ⟨rfl,fun j hj=>by omega,hs⟩
     ·rintro k fr w hk ⟨rfl,hno,hs⟩
      have hx:=mW (l:=l.table) hk
      have hx1:=mW (l:=l.table) (i:=k - 1) an
      refine .block (.aj (.z zm (.ixX (enc:=Fbd.c) hs h1 rfl rfl a6 bK hx da ?_)));intro b36 o36 hc36
      refine .q hs (cj (vs:=(Fbd.c (fb0 l.table k))) rfl Tryz.isAgg134 bK hc36) (.o (.alloc hs iA rfl fun b4 w hs=>?_))
      refine .z zg (.o (.aP (vs:=(fb0 l.table k).c) hs rfl rfl bK fun w hs=>?_))
      change St _ _ (.blk b4 [I (fb0 l.table k).len,I (fb0 l.table k).least]::_) at hs
      refine .nil (.seq (.draw mix rfl hs fun w hs=>?_))
      refine .zw 0 rfl (zfa bY) ?_;refine .y 1 rfl hs af ?_
      refine .E 2 hs ?_
      refine .call eS rfl (cI hs) ?_;rintro _ w ⟨rfl,hs⟩
      refine .go (.zw 3 rfl fZ ?_);refine .z 4 rfl zm ?_
      refine .bif (t':=42) rfl (fun hb42=>?_) (fun hb42=>?_)
      ·refine .F 5 rfl (.F 6 rfl (.F 7 rfl (.F 8 rfl (.zw 9 rfl zpT ?_))));refine .z 10 rfl zm ?_
       refine .F 11 rfl (.F 12 rfl ?_)
       refine .F 13 rfl (.F 14 rfl (.F 15 rfl (.F 16 rfl (.F 17 rfl (.F 18 rfl (.F 19 rfl (.F 20 rfl (.F 21 rfl (.F 22 rfl (.F 23 rfl (.F 24 rfl (.zw 25 rfl zpT ?_))))))))))));refine .D hs ?_
       refine (.cT (.aj (.zn zg (.ret (rB (rT (rB (rT (Fin.bE gz rfl ?_)))))))))
       exact ⟨_,rfl,.inr ⟨fun h=>by have:=(h.table k hk).len;simp_all,rfl⟩,hs.out⟩
      ·refine .zw 5 rfl (zfa dJ) ?_;refine .y 6 rfl hs af ?_
       refine .E 7 hs ?_
       refine .call eS rfl (cI hs) ?_;rintro _ w ⟨rfl,hs⟩
       refine .go (.zw 8 rfl fZ ?_);refine .z 9 rfl zpF ?_;refine .z 10 rfl zm ?_
       refine .bif (t':=48) rfl (fun hb48=>?_) (fun hb48=>?_)
       ·refine .F 11 rfl (.F 12 rfl ?_)
        refine .F 13 rfl (.F 14 rfl (.F 15 rfl (.F 16 rfl (.F 17 rfl (.F 18 rfl (.F 19 rfl (.F 20 rfl (.F 21 rfl (.F 22 rfl (.F 23 rfl (.F 24 rfl (.zw 25 rfl zpT ?_))))))))))));refine .D hs ?_
        refine (.cT (.aj (.zn zg (.ret (rB (rT (rB (rT (Fin.bE gz rfl ?_)))))))))
        exact ⟨_,rfl,.inr ⟨fun h=>by have:=(h.table k hk).least;simp_all,rfl⟩,hs.out⟩
       ·refine .zw 11 rfl zm ?_;refine .z 12 rfl km ?_;refine .z 13 rfl zm ?_
        refine .gX (t':=51) rfl (fun hb51=>?_) (fun hb51=>?_)
        ·refine .zw 14 rfl (zfa cU) ?_;refine .y 15 rfl hs ew ?_;refine .z 16 rfl zm ?_;refine .z 17 rfl fY ?_
         refine .ixX (enc:=Fbd.c) (i:=18) hs rfl aD (.some rfl rfl) h1 rfl rfl a6 bK hx1 an ?_;intro b56 o56 hc56
         refine .zw 19 rfl (zfa bY) (.r (i:=20) hs rfl aD (.some rfl rfl) (aJ rfl af (hc56.get 0 rfl)) ?_)
         refine .zw 21 rfl (zfa bY) ?_;refine .y 22 rfl hs af ?_;refine .z 23 rfl uj ?_;refine .z 24 rfl zpT ?_;refine .z 25 rfl zpF ?_;refine .D hs ?_
         refine (.bA rfl (fun hc63=>?_) (fun hc63=>?_))
         ·refine .aj (.zn zg (.ret (rB (rT (rB (rT (Fin.bE gz rfl ?_)))))))
          exact ⟨_,rfl,.inr ⟨fun h=>by have:=(h.table k hk).rise an;omega,rfl⟩,hs.out⟩
         ·refine .skip (nB (nT ?_))
          first
          |exact .mk ⟨rfl,fun j hj=>by
            by_cases e:j=k
            ·subst e;exact ⟨by simp_all,by simp_all,fun _=>by omega⟩
            ·exact hno j an,hs.tail⟩
        ·refine .F 14 rfl (.F 15 rfl (.F 16 rfl (.F 17 rfl (.F 18 rfl (.F 19 rfl (.F 20 rfl (.F 21 rfl (.F 22 rfl (.F 23 rfl (.zw 24 rfl zpF ?_))))))))));refine .z 25 rfl zpF ?_;refine .D hs ?_
         refine (.cF (.skip (nB (nT ?_))))
         first
         |exact .mk ⟨rfl,fun j hj=>by
           by_cases e:j=k
           ·subst e;exact ⟨by simp_all,by simp_all,fun _=>by omega⟩
           ·exact hno j an,hs.tail⟩
     ·rintro fr w ⟨rfl,htb,hs⟩
      refine nT (.seq (.aj (.z (zfa de) (.y hs (zld eM) (.z (dc bD) (.zn zm (.for (N:=l.seasons.length) (J:=fun k fr w=>fr=[(66,.slice as_ l.seasons.length cs),(1,Pt b1)]∧(∀j<k,∀y,l.seasons[j]? =some y→BH y)∧St H w (.blk b1 [I l.length,I l.depth,.slice at_ l.table.length ct,.slice as_ l.seasons.length cs]::σ)) an ?_ ?_ ?_)))))))
      ·exact .mk ⟨rfl,fun j hj=>by omega,hs⟩
      ·rintro k fr w hk ⟨rfl,hno,hs⟩
       obtain ⟨s,hx⟩:=nth hk
       refine .block (.aj (.ixX (enc:=Ssn.c) hs h2 rfl rfl bD cP hx da ?_));intro b70 o70 hc70
       refine .q hs (cj (vs:=(Ssn.c s)) rfl IH cP hc70) (.o (.alloc hs qw rfl fun b6 w hs=>?_))
       refine .o (.aP (vs:=s.c) hs rfl rfl cP fun w hs=>?_)
       change St _ _ (.blk b6 [I s.zone,I s.fr,I s.to,I s.extra]::_) at hs
       refine .nil (.aj (.z (zfa jd) (.y hs (zld af) (.o (.call Tryz.call73 rfl (la hs) ?_)))));rintro _ w ⟨rfl,hs⟩
       refine .z fZ (.z zm (.bif (t':=76) rfl (fun hb76=>?_) (fun hb76=>?_)))
       ·refine .Fs 4 4 false (.z zpT (.z zm (.Fs 4 10 false (.z zpT (.z zm (.Fs 4 16 false (.zn zpT (.cT (.aj (.zn zg (.ret (rB (rT (rB (rT (Fin.bE gz rfl ?_))))))))))))))))
        exact ⟨_,rfl,.inr ⟨fun h=>by have:=(h.seasons s (List.mem_of_getElem? hx)).zone;simp_all,rfl⟩,hs.out⟩
       ·refine .T (.z (zfa eP) (.T (.y hs (zld af) (.T (.o (.call eS rfl (cI hs) ?_))))));rintro _ w ⟨rfl,hs⟩
        refine .T (.z fZ (.z zpF (.z zm (.bif (t':=82) rfl (fun hb82=>?_) (fun hb82=>?_)))))
        ·refine .Fs 4 10 false (.z zpT (.z zm (.Fs 4 16 false (.zn zpT (.cT (.aj (.zn zg (.ret (rB (rT (rB (rT (Fin.bE gz rfl ?_)))))))))))))
         exact ⟨_,rfl,.inr ⟨fun h=>by have:=(h.seasons s (List.mem_of_getElem? hx)).fr;simp_all,rfl⟩,hs.out⟩
        ·refine .T (.z (zfa eO) (.T (.y hs (zld af) (.T (.o (.call eS rfl (cI hs) ?_))))));rintro _ w ⟨rfl,hs⟩
         refine .T (.z fZ (.z zpF (.z zm (.bif (t':=88) rfl (fun hb88=>?_) (fun hb88=>?_)))))
         ·refine .Fs 4 16 false (.zn zpT (.cT (.aj (.zn zg (.ret (rB (rT (rB (rT (Fin.bE gz rfl ?_))))))))))
          exact ⟨_,rfl,.inr ⟨fun h=>by have:=(h.seasons s (List.mem_of_getElem? hx)).to;simp_all,rfl⟩,hs.out⟩
         ·refine .T (.z (zfa jc) (.T (.y hs (zld af) (.T (.o (.call eS rfl (cI hs) ?_))))));rintro _ w ⟨rfl,hs⟩
          refine .T (.z fZ (.zn zpF (.cond rfl (fun hc93=>?_) (fun hc93=>?_))))
          ·refine .aj (.zn zg (.ret (rB (rT (rB (rT (Fin.bE gz rfl ?_)))))))
           exact ⟨_,rfl,.inr ⟨fun h=>by have:=(h.seasons s (List.mem_of_getElem? hx)).extra;simp_all,rfl⟩,hs.out⟩
          ·refine .skip (nB (nT ?_))
           exact .mk ⟨rfl,fo hno hx ⟨by simp_all,by simp_all,by simp_all,by simp_all⟩,hs.tail⟩
      ·rintro fr w ⟨rfl,hno,hs⟩
       refine nT (.aj (.zn zg (.ret (Fin.bE gz rfl ?_))))
       exact ⟨_,rfl,.inl ⟨⟨by simp_all,by simp_all,hl20,an,htb,fun s hs=>by
        obtain ⟨j,hj⟩:=List.getElem?_of_mem hs
        exact hno j (List.getElem?_eq_some_iff.1 hj).1 s hj⟩,rfl⟩,hs.out⟩
theorem qm{r:List Lg}{vr:Value}(hs:St H w σ)(h1:RLg H vr r):
  Cl Tryz.prog 21 [.agg #[vr]] w fun u w'=>∃e,u=I e∧Km r e∧St H w' σ:=by
 obtain ⟨ar,cr,rfl⟩:=h1.shape
 refine Cl.o Tryz.func21 Tryz.ntmps21 ag1 ?_
 refine .aj (.bx hs fun b1 w hs=>?_)
 refine .zn zg (.seq (.aj (.z (zfa bI) (.y hs (zld cu) (.z (dc aF) (.o (.call eS rfl (cI hs) ?_)))))));rintro _ w ⟨rfl,hs⟩
 refine .zn fZ (.cond rfl (fun hc9=>?_) (fun hc9=>?_))
 ·refine .aj (.zn zg (.ret (rT (Fin.bE Tryz.results21 rfl ?_))))
  exact ⟨_,rfl,.inr ⟨fun h=>by have:=h.many;simp_all;omega,rfl⟩,hs.out⟩
 ·refine .skip (nT (.seq (.aj ?_)))
  have hl20:1≤r.length∧r.length≤12:=by first|omega|(simp at hc9;omega)
  refine .z (zfa bI) (.y hs (zld cu) (.z (dc aF) (.zn zm (.for (N:=r.length) (J:=fun k fr w=>fr=[(11,.slice ar r.length cr),(1,Pt b1)]∧(∀j<k,BK (lg0 r j)∧(0<j→(lg0 r (j - 1)).to≤(lg0 r j).fr))∧St H w (.blk b1 [.slice ar r.length cr]::σ)) an ?_ ?_ ?_))))
  ·exact .mk ⟨rfl,fun j hj=>by omega,hs⟩
  ·rintro k fr w hk ⟨rfl,hno,hs⟩
   have hx:=j6 (l:=r) hk
   have hx1:=j6 (l:=r) (i:=k - 1) an
   refine .block (.aj (.z zm (.ixX (enc:=Lg.c) hs h1 rfl rfl aF aQ hx da ?_)));intro b16 o16 hc16
   refine .q hs (cj (vs:=(Lg.c (lg0 r k))) rfl gC aQ hc16) (.o (.alloc hs dB rfl fun b4 w hs=>?_))
   refine .z zg (.o (.aP (vs:=(lg0 r k).c) hs rfl rfl aQ fun w hs=>?_))
   change St _ _ (.blk b4 [I (lg0 r k).zone,I (lg0 r k).fr,I (lg0 r k).to,I (lg0 r k).dlo,I (lg0 r k).dhi,I (lg0 r k).blo,I (lg0 r k).bhi]::_) at hs
   refine .nil (.seq (.draw mix rfl hs fun w hs=>?_))
   refine .zv 0 rfl hs (Cd [_,_,_,_,_,_,_] gC aQ) (.E 1 hs ?_)
   refine .call Tryz.call75 rfl (wX (x:=lg0 r k) hs) ?_;rintro _ w ⟨b19,rfl,hb19,hs⟩
   refine .go (.zw 2 rfl fZ ?_);refine .z 3 rfl zm ?_
   refine .bif (t':=21) rfl (fun hb21=>?_) (fun hb21=>?_)
   ·refine .F 4 rfl (.F 5 rfl ?_)
    refine .F 6 rfl (.F 7 rfl (.F 8 rfl (.F 9 rfl (.F 10 rfl (.F 11 rfl (.F 12 rfl (.F 13 rfl (.F 14 rfl (.F 15 rfl (.F 16 rfl (.F 17 rfl (.zw 18 rfl zpT ?_))))))))))));refine .D hs ?_
    refine (.cT (.aj (.zn zg (.ret (rB (rT (rB (rT (Fin.bE Tryz.results21 rfl ?_)))))))))
    exact ⟨_,rfl,.inr ⟨fun h=>by have:=hb19.2 (h.leg k hk).1;simp_all,rfl⟩,hs.out⟩
   ·refine .zw 4 rfl zm ?_;refine .z 5 rfl km ?_;refine .z 6 rfl zm ?_
    refine .gX (t':=24) rfl (fun hb24=>?_) (fun hb24=>?_)
    ·refine .zw 7 rfl (zfa fu) ?_;refine .y 8 rfl hs af ?_;refine .z 9 rfl (zfa bI) ?_;refine .y 10 rfl hs cu ?_;refine .z 11 rfl zm ?_;refine .z 12 rfl fY ?_
     refine .ixX (enc:=Lg.c) (i:=13) hs rfl aD (.some rfl rfl) h1 rfl rfl aF aQ hx1 an ?_;intro b31 o31 hc31
     refine .zw 14 rfl (zfa ft) (.r (i:=15) hs rfl aD (.some rfl rfl) (aJ rfl af (hc31.get 2 rfl)) ?_)
     refine .zw 16 rfl fM ?_;refine .z 17 rfl zpT ?_;refine .z 18 rfl zpF ?_;refine .D hs ?_
     refine (.bA rfl (fun hc36=>?_) (fun hc36=>?_))
     ·refine .aj (.zn zg (.ret (rB (rT (rB (rT (Fin.bE Tryz.results21 rfl ?_)))))))
      exact ⟨_,rfl,.inr ⟨fun h=>by have:=(h.leg k hk).2 an;omega,rfl⟩,hs.out⟩
     ·refine .skip (nB (nT ?_))
      first
      |exact .mk ⟨rfl,fun j hj=>by
        by_cases e:j=k
        ·subst e;exact ⟨hb19.1 (by simp_all),fun _=>by omega⟩
        ·exact hno j an,hs.tail⟩
    ·refine .F 7 rfl (.F 8 rfl (.F 9 rfl (.F 10 rfl (.F 11 rfl (.F 12 rfl (.F 13 rfl (.F 14 rfl (.F 15 rfl (.F 16 rfl (.zw 17 rfl zpF ?_))))))))));refine .z 18 rfl zpF ?_;refine .D hs ?_
     refine (.cF (.skip (nB (nT ?_))))
     first
     |exact .mk ⟨rfl,fun j hj=>by
       by_cases e:j=k
       ·subst e;exact ⟨hb19.1 (by simp_all),fun _=>by omega⟩
       ·exact hno j an,hs.tail⟩
  ·rintro fr w ⟨rfl,hno,hs⟩
   refine nT (.aj (.zn zg (.ret (Fin.bE Tryz.results21 rfl ?_))))
   exact ⟨_,rfl,.inl ⟨⟨hl20,hno⟩,rfl⟩,hs.out⟩
theorem I6{P:Program}{H:cD}{σ:List Ent}{s:FS}{t ty':TypeId}{x y:Operand}{p:Int}(hx:FS.ev s x=some (.int .u64 p))(hy:FS.ev s y=some (.int .u64 1)):QJ P H σ s (.binOp .shr t x y ty') (.int .u64 (p/2)):=by
 have h1:=Bi (P:=P) (H:=H) (σ:=σ) (t:=t) (ty':=ty') hx hy an
 have h2:p.fdiv (2 ^min (1:Int).toNat IntKind.u64.bits)=p/2:=by
  have:(2:Int) ^min (1:Int).toNat IntKind.u64.bits=2:=by decide
  rw [this,Int.fdiv_eq_ediv_of_nonneg _ an]
 rw [h2] at h1
 exact h1
theorem nX{n g:Nat}{cap:List Value}{p:Nat→Prop}(hs:St H w σ)(hn:n≤1000000)(hc:∀args w,(callFunc g args).run Tryz.prog w= .ok (.enter g args) w)
  (hp:∀w i,i<n→St H w σ→Cl Tryz.prog g ([I (i:Int)]++cap) w fun u w'=>∃b,u= .bool b∧(b=true↔p i)∧St H w' σ):
  Cl Tryz.prog 157 [I (n:Int),.func (.func g) #[] cap.toArray] w fun u w'=>∃k:Nat,u=I (k:Int)∧k≤n∧(0<k→¬p (k - 1))∧(k<n→p k)∧St H w' σ:=by
 refine Cl.o Tryz.func157 Tryz.ntmps157 ag2 ?_
 refine .aj (.zn zg (.aj (.z zm (.z zg (.zn zg (.seq (.block ?_)))))))
 refine .loop (fun q:Nat×Nat=>⟨26,[],[(6,I (q.2:Int)),(5,I (q.1:Int)),(1,.func (.func g) #[] cap.toArray)]⟩)
  (fun q w=>(q.1≤q.2∧q.2≤n)∧(0<q.1→¬p (q.1 - 1))∧(q.2<n→p q.2)∧St H w σ) (fun q=>q.2 - q.1) (0,n) aU
  ⟨⟨Nat.zero_le _,Nat.le_refl _⟩,fun h=>by omega,fun h=>by omega,hs⟩ ?_
 rintro ⟨i,j⟩ w ⟨⟨hij,hjn⟩,hlo,hhi,hs⟩
 dsimp only at hij hjn hlo hhi ⊢
 refine .seq (.aj (.z zm (.z zm (.zn fM (.bA rfl (fun hc11=>?_) (fun hc11=>?_))))))
 ·refine .skip (nT (.block (.aj (.z zm (.z zm (.z cK (.q hs (zc rfl bM dW ⟨an,an⟩) (.q hs (I6 rfl rfl) ?_))))))))
  rw [show ((i:Int)+(j:Int))/2=(((i+j)/2:Nat):Int) by omega]
  refine .q hs (zd rfl dW bM ⟨an,an⟩) (.zn zg (.aj (.z zm (.z zm (.o (.qs (first:=[]) rfl rfl hc (hp _ ((i+j)/2) an hs) ?_))))));rintro _ w ⟨b20,rfl,hb20,hs⟩
  refine .zn fZ (.cond rfl (fun hc21=>?_) (fun hc21=>?_))
  ·refine .region (.z zm (.z cK (.zn zg (nB (nT ?_)))))
   exact ⟨((i+j)/2+1,j),.cJ rfl cq aU,⟨⟨by dsimp only;omega,hjn⟩,fun _ h=>(by rw [hb20.2 (by simpa using h)] at hc21;cases hc21),hhi,hs⟩,by dsimp only;omega⟩
  ·refine .region (.z zm (.zn zg (nB (nT ?_))))
   exact ⟨(i,(i+j)/2),.cJ rfl cq aU,⟨⟨by dsimp only;omega,by dsimp only;omega⟩,hlo,fun _=>hb20.1 (by simpa using hc21),hs⟩,by dsimp only;omega⟩
 ·refine .exit (xT (xT (xB (nT (.aj (.z zm (.zn zg (.ret (Fin.bE Tryz.results157 rfl ?_)))))))))
  obtain rfl:i=j:=by omega
  exact ⟨i,rfl,hjn,hlo,hhi,hs⟩
theorem pw{l:Lns}{vt vs:Value}{b i:Nat}(hs:St H w (.blk b [I l.length,I l.depth,vt,vs]::σ))(h1:RFb H vt l.table)(hi:i<l.table.length):
  Cl Tryz.prog 158 [I (i:Int),Pt b] w fun u w'=>∃bb:Bool,u= .bool bb∧(bb=true↔l.length≤(fb0 l.table i).len)∧St H w' (.blk b [I l.length,I l.depth,vt,vs]::σ):=by
 obtain ⟨at_,ct,rfl⟩:=h1.shape
 refine Cl.o Tryz.func158 Tryz.ntmps158 ag2 ?_
 refine .aj (.zn zg (.seq (.draw mix rfl hs fun w hs=>?_)))
 refine .zw 0 rfl (zfa cU) ?_;refine .y 1 rfl hs ew ?_;refine .z 2 rfl zm ?_
 refine .ixX (enc:=Fbd.c) (i:=3) hs rfl aD .none h1 rfl rfl a6 bK (mW hi) da ?_;intro b7 o7 hc7
 refine .zw 4 rfl (zfa bY) (.r (i:=5) hs rfl aD .none (aJ rfl af (hc7.get 0 rfl)) ?_)
 refine .zw 6 rfl (zfa eD) ?_;refine .y 7 rfl hs af ?_;refine .z 8 rfl uj ?_;refine .z 9 rfl zg ?_;refine .D hs ?_
 refine .ret (Fin.bE Tryz.results158 rfl ?_)
 exact ⟨_,rfl,cq,hs⟩
theorem qG{a d:Int}(hs:St H w σ)(hd:1≤d)(ha: -4608000000000000000≤a∧a≤4608000000000000000):
  Cl Tryz.prog 140 [I a,I d] w fun v w'=>v=I (a/d)∧St H w' σ:=by
 have hq:=JM hd ha
 have hfl:=qb (n:=a) (d:=d) an
 refine Cl.o Tryz.func140 Tryz.ntmps140 ag2 ?_
 refine .aj (.zn zg (.aj (.z zm (.z zm (.q hs (uu rfl rfl an ⟨an,an⟩) (.zn zg (.seq (.aj (.z zm (.z zm (.z A4 (.zn fM (.bA rfl (fun hc12=>?_) (fun hc12=>?_))))))))))))))
 ·refine .region (.z zm (.z fY (.zn zg (nT (.aj (.z zm (.zn zg (.ret (Fin.bE Tryz.results140 rfl ?_)))))))))
  rw [if_pos hc12] at hfl
  exact ⟨by rw [hfl],hs⟩
 ·refine .skip (nT (.aj (.z zm (.zn zg (.ret (Fin.bE Tryz.results140 rfl ?_))))))
  rw [if_neg hc12,Int.sub_zero] at hfl
  exact ⟨by rw [hfl],hs⟩
theorem jO{l:Lns}{vt vs:Value}(hs:St H w σ)(h1:RFb H vt l.table)(hl:iK l):
  Cl Tryz.prog 102 [.agg #[I l.length,I l.depth,vt,vs]] w fun u w'=>∃n b,u= .tuple #[I n,.bool b]∧vX l n b∧St H w' σ:=by
 obtain ⟨at_,ct,rfl⟩:=h1.shape
 have hm:=hl.many
 have hr:=fun {j i:Nat}=>zA hl.table (j:=j) (i:=i)
 refine Cl.o Tryz.func102 Tryz.ntmps102 ag1 ?_
 refine .aj (.bx hs fun b1 w hs=>?_)
 refine .z zg (.zn zg (.aj (.z (zfa cU) (.y hs (zld ew) (.z (dc a6) (.q hs (dM (f:=[]) (c:=[_]) rfl rfl) (.o (.call Tryz.call157 rfl (nX (cap:=[Pt b1]) (p:=fun i=>l.length≤(fb0 l.table i).len) hs an Tryz.call158 (fun w i hi hs=>pw hs h1 hi)) ?_))))))));rintro _ w ⟨k,rfl,hk,hlo,hhi,hs⟩
 have hbig:∀i<l.table.length,k≤i→l.length≤(fb0 l.table i).len:=fun i hi hki=>by
  by_cases e:i=k
  ·subst e;exact hhi hi
  ·have:=hr (show k<i by omega) hi
   have:=hhi an
   omega
 have hsml:∀i<k,(fb0 l.table i).len<l.length:=fun i hi=>by
  by_cases e:i=k - 1
  ·subst e;have:=hlo an;omega
  ·have:=hr (show i<k - 1 by omega) an
   have:=hlo an
   omega
 refine .zn zg (.seq (.block (.aj (.z zm (.z (zfa cU) (.y hs (zld ew) (.z (dc a6) (.z fm (.zn zg (.bA rfl (fun hc12=>?_) (fun hc12=>?_)))))))))))
 ·refine .aj (.z zg (.zn zg (.ret (rB (rT (Fin.gL Tryz.results102 rfl rfl ?_))))))
  exact ⟨_,_,rfl,.none (fun i hi h=>by have:=hsml i an;omega) (fun i hi h0 h=>by have:=hsml i an;omega),hs.out⟩
 ·refine .seq (.draw mix rfl hs fun w hs=>?_)
  refine .zw 0 rfl (zfa cU) ?_;refine .y 1 rfl hs ew ?_;refine .z 2 rfl zm ?_
  have hk':k<l.table.length:=by omega
  have hx:=mW hk'
  have hx1:=mW (l:=l.table) (i:=k - 1) an
  refine .ixX (enc:=Fbd.c) (i:=3) hs rfl aD .none h1 rfl rfl a6 bK hx rfl ?_;intro b22 o22 hc22
  refine .zw 4 rfl (zfa bY) (.r (i:=5) hs rfl aD .none (aJ rfl af (hc22.get 0 rfl)) ?_)
  refine .zw 6 rfl (zfa eD) ?_;refine .y 7 rfl hs af ?_;refine .z 8 rfl fm ?_;refine .z 9 rfl zg ?_;refine .D hs ?_
  refine (.bA rfl (fun hc18=>?_) (fun hc18=>?_))
  ·refine .aj (.z (zfa cU) (.y hs (zld ew) (.z zm (.ixX (enc:=Fbd.c) hs h1 rfl rfl a6 bK hx rfl ?_))));intro b31 o31 hc31
   refine .z (zfa dJ) (.q hs (aJ rfl af (hc31.get 1 rfl)) (.z zg (.zn zg (.ret (rB (rT (Fin.gL Tryz.results102 rfl rfl ?_)))))))
   exact ⟨_,_,rfl,.at_ hk' hc18,hs.out⟩
  ·refine .aj (.z zm (.z fm (.zn zg (.bA rfl (fun hc34=>?_) (fun hc34=>?_)))))
   ·refine .aj (.z zg (.zn zg (.ret (rB (rT (Fin.gL Tryz.results102 rfl rfl ?_))))))
    obtain rfl:k=0:=by omega
    exact ⟨_,_,rfl,.none (fun i hi h=>by
     by_cases e:i=0
     ·subst e;exact hc18 h
     ·have:=hr (show 0<i by omega) hi;have:=hbig 0 hk' an;omega) (fun i hi h0 h=>by have:=hbig (i - 1) an an;omega),hs.out⟩
   ·refine .skip (nB (nT (.cut (fun fs w=>∃b5 b6,ke fs ⟨69,[],[(6,Pt b6),(5,Pt b5),(1,Pt b1)]⟩∧St H w (.blk b6 (fb0 l.table k).c:: .blk b5 (fb0 l.table (k - 1)).c:: .blk b1 [I l.length,I l.depth,.slice at_ l.table.length ct,vs]::σ)) ?_ ?_)))
    ·refine .draw mix rfl hs fun w hs=>?_
     refine .zw 0 rfl (zfa cU) ?_;refine .y 1 rfl hs ew ?_;refine .z 2 rfl zm ?_;refine .z 3 rfl fY ?_
     refine .ixX (enc:=Fbd.c) (i:=4) hs rfl aD .none h1 rfl rfl a6 bK hx1 an ?_;intro b41 o41 hc41
     refine .r (i:=5) hs rfl aD .none (cj (vs:=(fb0 l.table (k - 1)).c) rfl Tryz.isAgg134 bK hc41) ?_
     refine .zw 6 rfl (zfa cU) ?_;refine .y 7 rfl hs ew ?_;refine .z 8 rfl zm ?_
     refine .ixX (enc:=Fbd.c) (i:=9) hs rfl aD .none h1 rfl rfl a6 bK hx rfl ?_;intro b46 o46 hc46
     refine .r (i:=10) hs rfl aD .none (cj (vs:=(fb0 l.table k).c) rfl Tryz.isAgg134 bK hc46) ?_
     refine .e2 (i:=11) (j:=12) aD rfl rfl rfl rfl .none .none hs ?_ ?_
     ·refine .alloc hs iA rfl ?_;intro b5 w hs
      refine .go (.E 12 hs ?_)
      refine .alloc hs iA rfl ?_;intro b6 w hs
      refine .go (.E 13 hs ?_)
      refine .aP (vs:=(fb0 l.table (k - 1)).c) hs rfl rfl bK ?_;intro w hs
      refine .go (.E 14 hs ?_)
      refine .aP (vs:=(fb0 l.table k).c) hs rfl rfl bK ?_;intro w hs
      refine .go (.D hs ?_)
      exact nT ⟨b5,b6,aU,hs.sb⟩
     ·refine .alloc hs iA rfl ?_;intro b6 w hs
      refine .go (.E 11 hs ?_)
      refine .alloc hs iA rfl ?_;intro b5 w hs
      refine .go (.E 13 hs ?_)
      refine .aP (vs:=(fb0 l.table (k - 1)).c) hs rfl rfl bK ?_;intro w hs
      refine .go (.E 14 hs ?_)
      refine .aP (vs:=(fb0 l.table k).c) hs rfl rfl bK ?_;intro w hs
      refine .go (.D hs ?_)
      exact nT ⟨b5,b6,aU,hs.sb⟩
    ·rintro fs w ⟨b5,b6,hfs,hs⟩
     refine WE.sub ?_ hfs
     clear hfs
     change St _ _ (.blk b6 [I (fb0 l.table k).len,I (fb0 l.table k).least]:: .blk b5 [I (fb0 l.table (k - 1)).len,I (fb0 l.table (k - 1)).least]::_) at hs
     have h3:=hsml (k - 1) an
     have h4:l.length<(fb0 l.table k).len:=by have:=hbig k hk' (Nat.le_refl _);omega
     have hX:=EF hl hk' h3 h4
     have a1:=hl.table (k - 1) an
     have a2:=a1.len
     have a3:=a1.least
     have b2:=(hl.table k hk').len
     have b3:=(hl.table k hk').least
     have hL:=hl.length
     refine .seq (.draw mix rfl hs fun w hs=>?_)
     refine .zw 0 rfl (zfa dJ) ?_;refine .y 1 rfl hs af ?_;refine .z 2 rfl (zfa dJ) ?_;refine .y 3 rfl hs af ?_;refine .z 4 rfl fY ?_;refine .z 5 rfl (zfa eD) ?_;refine .y 6 rfl hs af ?_;refine .z 7 rfl (zfa bY) ?_;refine .y 8 rfl hs af ?_;refine .z 9 rfl fY ?_
     refine .zw 10 rfl kd ?_;refine .z 11 rfl (zfa bY) ?_;refine .y 12 rfl hs af ?_;refine .z 13 rfl (zfa bY) ?_;refine .y 14 rfl hs af ?_;refine .z 15 rfl fY ?_;refine .z 18 rfl (zfa dJ) ?_;refine .y 19 rfl hs af ?_
     refine .E 16 hs ?_
     refine .call Tryz.call140 rfl (qG hs an an) ?_;rintro _ w ⟨rfl,hs⟩
     refine .go (.zw 17 rfl BQ ?_);refine .z 20 rfl cK ?_;refine .z 21 rfl zg ?_;refine .z 22 rfl zg ?_;refine .D hs ?_
     refine .ret (Fin.gL Tryz.results102 rfl rfl ?_)
     have hmid:=vX.mid hk' an h3 h4
     unfold AD at hmid
     exact ⟨_,_,rfl,(by rw [show ∀a b:Int,-a+b=b - a from fun a b=>by omega];exact hmid),hs.out⟩
theorem rh{l:Lns}{vt vs:Value}(hs:St H w σ)(h1:RFb H vt l.table)(h2:RSn H vs l.seasons):
  Cl Tryz.prog 37 [.agg #[I l.length,I l.depth,vt,vs]] w fun u w'=>∃n e,u= .tuple #[I n,I e]∧zP l n e∧St H w' σ:=by
 refine Cl.o Tryz.func37 Tryz.ntmps37 ag1 ?_
 refine .aj (.bx hs fun b1 w hs=>?_)
 refine .z zg (.zn zg (.seq (.aj (.y hs (zls [_,_,_,_] bw aV) (.o (.call Tryz.call19 rfl (jw hs h1 h2) ?_))))));rintro _ w ⟨e,rfl,he,hs⟩
 refine .zn zg (.aj (.z zm (.zn gE (.dV rfl (fun hc10=>?_) (fun hc10=>?_)))))
 ·refine .aj (.z zm (.z zg (.zn zg (.ret (rT (Fin.gL Tryz.results37 rfl rfl ?_))))))
  have h:=he.resolve_left fun h=>hc10 h.2
  exact ⟨_,_,rfl,by rw [h.2];exact .lines h.1,hs.out⟩
 ·refine .skip (nT (.aj (.y hs (zls [_,_,_,_] bw aV) ?_)))
  have hok:iK l:=(he.resolve_right fun h=>by omega).1
  refine .o (.call Tryz.call102 rfl (jO hs h1 hok) ?_);rintro _ w ⟨n,b,rfl,hF,hs⟩
  refine .z zm (.z zex (.z zex (.z zg (.zn zg (.seq (.aj (.z zm (.zn fZ (.cond rfl (fun hc18=>?_) (fun hc18=>?_))))))))))
  ·refine .aj (.z zg (.zn zg (.ret (rT (Fin.gL Tryz.results37 rfl rfl ?_)))))
   obtain rfl:b=false:=by simpa using hc18
   exact ⟨_,_,rfl,.none hok hF,hs.out⟩
  ·refine .skip (nT (.aj (.z zm (.z zg (.zn zg (.ret (Fin.gL Tryz.results37 rfl rfl ?_)))))))
   obtain rfl:b=true:=by simpa using hc18
   exact ⟨_,_,rfl,.ok hok hF,hs.out⟩
theorem py{d:Int}(hs:St H w σ)(h:0≤d):Cl Tryz.prog 106 [I d] w fun v w'=>v=I (1+d%365)∧St H w' σ:=by
 have e:d.tmod 365=d%365:=Int.tmod_eq_emod_of_nonneg h
 refine Cl.o Tryz.func106 Tryz.ntmps106 ag1 ?_
 refine .aj (.zn zg (.aj (.z zm (.z A4 ?_))))
 rw [e]
 refine .z cK (.zn zg (.ret (Fin.bE Tryz.results106 rfl ?_)))
 exact ⟨rfl,hs⟩
theorem xL{s:Ssn}{d:Int}(hs:St H w σ):Cl Tryz.prog 159 [.agg #[I s.zone,I s.fr,I s.to,I s.extra],I d] w fun v w'=>v= .bool (decide (vu s d))∧St H w' σ:=by
 refine Cl.o Tryz.func159 Tryz.ntmps159 ag2 ?_
 refine .aj (.bx hs fun b2 w hs=>?_)
 refine .zn zg (.seq (.aj (.z (zfa eP) (.y hs (zld af) (.z (zfa eO) (.y hs (zld af) (.zn km (.bA rfl (fun hc9=>?_) (fun hc9=>?_)))))))))
 ·refine .aj (.z zm (.z (zfa eP) (.y hs (zld af) (.z uj (.z zm (.gX (t':=14) rfl (fun hb14=>?_) (fun hb14=>?_)))))))
  ·refine .Fs 4 4 false (.z zpT (.zn zg (.ret (rT (Fin.bE Tryz.results159 rfl (⟨?_,hs.out⟩))))))
   congr 1
   have e:¬s.fr≤s.to:=by omega
   simp only [vu,if_neg e]
   symm
   simp [*]
  ·refine .T (.z zm (.T (.z (zfa eO) (.T (.y hs (zld af) (.T (.z nF (.z zpF (.zn zg (.ret (rT (Fin.bE Tryz.results159 rfl (⟨?_,hs.out⟩)))))))))))))
   congr 1
   have e:¬s.fr≤s.to:=by omega
   simp only [vu,if_neg e]
   simp [*]
 ·refine .skip (nT (.aj (.z zm (.z (zfa eP) (.y hs (zld af) (.z (zfa eO) (.y hs (zld af) (.o (.call eS rfl (cI hs) ?_)))))))));rintro _ w ⟨rfl,hs⟩
  refine .zn zg (.ret (Fin.bE Tryz.results159 rfl (⟨?_,hs.out⟩)))
  congr 1
  have e:s.fr≤s.to:=by omega
  simp only [vu,if_pos e]
theorem px{l:Lns}{vt vs:Value}{z d:Int}(hs:St H w σ)(h2:RSn H vs l.seasons)(hl:iK l):
  Cl Tryz.prog 105 [.agg #[I l.length,I l.depth,vt,vs],I z,I d] w fun v w'=>v=I (jq l.seasons z d)∧St H w' σ:=by
 obtain ⟨as_,cs,rfl⟩:=h2.shape
 have hm:=hl.most
 refine Cl.o Tryz.func105 Tryz.ntmps105 ag3 ?_
 refine .aj (.bx hs fun b3 w hs=>?_)
 refine .zn zg (.aj (.zn zg (.seq (.aj (.z (zfa de) (.y hs (zld eM) (.z (dc bD) (.zn zm (.for (N:=l.seasons.length) (J:=fun k fr w=>fr=[(7,I (jq (l.seasons.take k) z d)),(11,.slice as_ l.seasons.length cs),(1,I z),(2,I d)]∧St H w σ) an ?_ ?_ ?_)))))))))
 ·exact .mk ⟨rfl,hs.out⟩
 ·rintro k fr w hk ⟨rfl,hs⟩
  obtain ⟨s,hx⟩:=nth hk
  have hE:=rn (l.seasons.take k) s z d
  rw [←dP hx] at hE
  refine .block (.aj (.ixX (enc:=Ssn.c) hs h2 rfl rfl bD cP hx da ?_));intro b15 o15 hc15
  refine .q hs (cj (vs:=(Ssn.c s)) rfl IH cP hc15) (.o (.alloc hs qw rfl fun b9 w hs=>?_))
  refine .o (.aP (vs:=s.c) hs rfl rfl cP fun w hs=>?_)
  change St _ _ (.blk b9 [I s.zone,I s.fr,I s.to,I s.extra]::_) at hs
  refine .nil (.aj (.z (zfa jd) (.y hs (zld af) (.z zm (.z fm (.z zm (.gX (t':=21) rfl (fun hb21=>?_) (fun hb21=>?_))))))))
  ·refine .T (.y hs (zls [_,_,_,_] IH cP) (.T (.z zm (.T (.o (.call Tryz.call159 rfl (xL (s:=s) hs) ?_))))));rintro _ w ⟨rfl,hs⟩
   refine .zn zpT (.cond rfl (fun hc25=>?_) (fun hc25=>?_))
   ·refine .region (.z zm (.z (zfa jc) (.y hs (zld af) (.z A5 (.zn zg (nB (nT ?_)))))))
    rw [if_pos ⟨by assumption,by simpa using hc25⟩] at hE
    exact .mk ⟨by rw [hE],hs.out⟩
   ·refine .skip (nB (nT ?_))
    rw [if_neg (fun h=>of_decide_eq_false hc25 h.2)] at hE
    exact .mk ⟨by rw [hE],hs.out⟩
  ·refine .Fs 3 4 true (.zn zpF (.cF (.skip (nB (nT ?_)))))
   rw [if_neg (fun h=>by have:=h.1;contradiction)] at hE
   exact .mk ⟨by rw [hE],hs.out⟩
 ·rintro fr w ⟨rfl,hs⟩
  rw [List.take_length]
  refine nT (.aj (.z zm (.zn zg (.ret (Fin.bE Tryz.results105 rfl ?_)))))
  exact ⟨rfl,hs⟩
theorem sw{l:Lns}{vt vs:Value}{z d:Int}(hs:St H w σ)(h1:RFb H vt l.table)(h2:RSn H vs l.seasons):
  Cl Tryz.prog 104 [.agg #[I l.length,I l.depth,vt,vs],I z,I d] w fun v w'=>∃e,v=I e∧BN l z d e∧St H w' σ:=by
 refine Cl.o Tryz.func104 Tryz.ntmps104 ag3 ?_
 refine .aj (.bx hs fun b3 w hs=>?_)
 refine .zn zg (.seq (.aj (.y hs (zls [_,_,_,_] bw aV) (.o (.call Tryz.call19 rfl (jw hs h1 h2) ?_)))));rintro _ w ⟨e,rfl,he,hs⟩
 refine .zn zg (.aj (.z zm (.zn gE (.dV rfl (fun hc11=>?_) (fun hc11=>?_)))))
 ·refine .aj (.z zm (.zn zg (.ret (rT (Fin.bE Tryz.results104 rfl ?_)))))
  have h:=he.resolve_left fun h=>hc11 h.2
  exact ⟨_,rfl,by rw [h.2];exact .lines h.1,hs.out⟩
 ·refine .skip (nT (.seq (.block (.aj ?_))))
  have hok:iK l:=(he.resolve_right fun h=>by omega).1
  refine .z zm (.o (.call Tryz.call73 rfl (la hs) ?_));rintro _ w ⟨rfl,hs⟩
  refine .z fZ (.zn zg (.cond rfl (fun hc13=>?_) (fun hc13=>?_)))
  ·refine .aj (.zn zg (.ret (rB (rT (Fin.bE Tryz.results104 rfl ?_)))))
   exact ⟨_,rfl,.zone hok (by simp at hc13;omega),hs.out⟩
  ·refine .aj (.z zm (.o (.call eS rfl (cI hs) ?_)));rintro _ w ⟨rfl,hs⟩
   refine .z fZ (.zn zg (.cond rfl (fun hc17=>?_) (fun hc17=>?_)))
   ·refine .aj (.zn zg (.ret (rB (rT (Fin.bE Tryz.results104 rfl ?_)))))
    exact ⟨_,rfl,.day hok (by simpa using hc13) (by simp at hc17;omega),hs.out⟩
   ·refine .skip (nB (nT (.aj (.zn zg (.ret (Fin.bE Tryz.results104 rfl ?_))))))
    exact ⟨_,rfl,.ok hok (by simpa using hc13) (by simpa using hc17),hs.out⟩
theorem u6{l:Lns}{vt vs:Value}{z d:Int}(hs:St H w σ)(h1:RFb H vt l.table)(h2:RSn H vs l.seasons):
  Cl Tryz.prog 41 [.agg #[I l.length,I l.depth,vt,vs],I z,I d] w fun u w'=>∃n e,u= .tuple #[I n,I e]∧Dq l z d n e∧St H w' σ:=by
 refine Cl.o Tryz.func41 Tryz.ntmps41 ag3 ?_
 refine .aj (.bx hs fun b3 w hs=>?_)
 refine .z zg (.zn zg (.seq (.aj (.y hs (zls [_,_,_,_] bw aV) (.z zm (.z zm (.o (.call Tryz.call104 rfl (sw hs h1 h2) ?_))))))));rintro _ w ⟨e,rfl,he,hs⟩
 refine .zn zg (.aj (.z zm (.zn gE (.dV rfl (fun hc16=>?_) (fun hc16=>?_)))))
 ·refine .aj (.z zm (.z zg (.zn zg (.ret (rT (Fin.gL Tryz.results41 rfl rfl ?_))))))
  exact ⟨_,_,rfl,.bad he hc16,hs.out⟩
 ·refine .skip (nT (.aj (.y hs (zls [_,_,_,_] bw aV) ?_)))
  obtain rfl:e=0:=by omega
  obtain ⟨hok,hz,hd⟩:=he.zero
  refine .o (.call Tryz.call102 rfl (jO hs h1 hok) ?_);rintro _ w ⟨n,b,rfl,hF,hs⟩
  refine .z zm (.z zex (.z zex (.z zg (.zn zg (.seq (.aj (.z zm (.zn fZ (.cond rfl (fun hc24=>?_) (fun hc24=>?_))))))))))
  ·refine .aj (.z zg (.zn zg (.ret (rT (Fin.gL Tryz.results41 rfl rfl ?_)))))
   obtain rfl:b=false:=by simpa using hc24
   exact ⟨_,_,rfl,.none he hF,hs.out⟩
  ·refine .skip (nT (.seq (.draw mix rfl hs fun w hs=>?_)))
   obtain rfl:b=true:=by simpa using hc24
   have hn:=hF.bd hok
   have hdp:=hok.depth
   have hE:=sG hok.seasons z (1+d%365)
   refine .zw 0 rfl (zfa iI) ?_;refine .y 1 rfl hs af ?_;refine .z 2 rfl zm ?_;refine .z 3 rfl fY ?_;refine .ys 4 rfl hs [_,_,_,_] bw aV ?_;refine .z 5 rfl zm ?_;refine .z 6 rfl zm ?_
   refine .E 7 hs ?_
   refine .call Tryz.call106 rfl (py hs hd.1) ?_;rintro _ w ⟨rfl,hs⟩
   refine .go (.E 8 hs ?_)
   refine .call Tryz.call105 rfl (px hs h2 hok) ?_;rintro _ w ⟨rfl,hs⟩
   refine .go (.zw 9 rfl fY ?_);refine .z 10 rfl zg ?_;refine .z 11 rfl zg ?_;refine .D hs ?_
   refine .ret (Fin.gL Tryz.results41 rfl rfl ?_)
   exact ⟨_,_,rfl,.ok he hF,hs.out⟩
theorem tK{s:Spc}{vst vwa:Value}{h:Int}{b c i:Nat}(hs:St H w (.blk c [I h]:: .blk b [I s.id,I s.src,vst,vwa,I s.al,I s.up]::σ))(h2:RI H vwa s.wa)(hi:i<s.wa.length)(hok:fA s):
  Cl Tryz.prog 166 [I (i:Int),Pt b,Pt c] w fun u w'=>∃bb:Bool,u= .bool bb∧(bb=true↔h<gi s.wa i - gi s.wa 0)∧St H w' (.blk c [I h]:: .blk b [I s.id,I s.src,vst,vwa,I s.al,I s.up]::σ):=by
 obtain ⟨awa,cwa,rfl⟩:=RI.shape h2
 have b1:=hok.wa.bd hi
 have b2:=hok.wa.bd (i:=0) an
 refine Cl.o Tryz.func166 Tryz.ntmps166 ag3 ?_
 refine .aj (.zn zg (.seq (.draw mix rfl hs fun w hs=>?_)))
 refine .zw 0 rfl (zfa bh) ?_;refine .y 1 rfl hs aq ?_;refine .z 2 rfl zm ?_
 refine .ixX (enc:=fun x=>[I x]) (i:=3) hs rfl aD .none h2 rfl rfl ae ai (bB (l:=s.wa) (i:=i) an) da ?_;intro b8 o8 hc8;replace hc8:=bL.one hc8
 refine .r (i:=4) hs rfl aD .none (aJ rfl af hc8) ?_
 refine .zw 5 rfl (zfa bh) ?_;refine .y 6 rfl hs aq ?_
 refine .ixX (enc:=fun x=>[I x]) (i:=7) hs rfl aD .none h2 rfl rfl ae ai (bB (l:=s.wa) (i:=0) an) da ?_;intro b12 o12 hc12;replace hc12:=bL.one hc12
 refine .r (i:=8) hs rfl aD .none (aJ rfl af hc12) ?_
 refine .zw 9 rfl fY ?_;refine .y 10 rfl hs af ?_;refine .z 11 rfl km ?_;refine .z 12 rfl zg ?_;refine .D hs ?_
 refine .ret (Fin.bE Tryz.results166 rfl ?_)
 exact ⟨_,rfl,cq,hs⟩
theorem wY{s:Spc}{vst vwa:Value}{h:Int}(hs:St H w σ)(h2:RI H vwa s.wa)(hok:fA s):
  Cl Tryz.prog 112 [.agg #[I s.id,I s.src,vst,vwa,I s.al,I s.up],I h] w fun u w'=>∃k,u=I k∧xF s.wa h k∧St H w' σ:=by
 obtain ⟨awa,cwa,rfl⟩:=RI.shape h2
 have hm:=hok.wa.many
 have hr:=fun {i j:Nat}=>hok.wa.le (i:=i) (j:=j)
 refine Cl.o Tryz.func112 Tryz.ntmps112 ag2 ?_
 refine .aj (.bx hs fun b2 w hs=>?_)
 refine .bx hs fun b3 w hs=>?_
 refine .zn zg (.aj (.z (zfa bh) (.y hs (zld aq) (.z (dc ae) (.q hs (dM (f:=[]) (c:=[_,_]) rfl rfl) (.o (.call Tryz.call157 rfl (nX (cap:=[Pt b2,Pt b3]) (p:=fun i=>h<gi s.wa i - gi s.wa 0) hs an Tryz.call166 (fun w i hi hs=>tK hs h2 hi hok)) ?_)))))));rintro _ w ⟨k,rfl,hk,hlo,hhi,hs⟩
 refine .z fY (.zn zg (.ret (Fin.bE Tryz.results112 rfl (⟨_,rfl,⟨an,an,fun i hi=>⟨fun g=>?_,fun g=>?_⟩⟩,hs.out⟩))))
 ·by_cases e:(i:Int)≤k - 1
  ·exact e
  ·have h3:=hhi an
   have:=hr (show k≤i by omega) hi;omega
 ·have h3:=hlo an
  have:=hr (show i≤k - 1 by omega) an;omega
def xQ(x:Lg):List (List Value):=(List.range (lk x)).map fun j=>[I (1+(x.fr+(j:Nat))%365)]
theorem pO(x:Lg):(xQ x).length=lk x:=by simp [xQ]
theorem AO{x:Lg}{j:Nat}(h:j<(xQ x).length):(xQ x)[j]=[I (1+(x.fr+j)%365)]:=by simp [xQ]
theorem u5{H:cD}{b:Nat}{x:Lg}(hb:Row H b [I x.zone,I x.fr,I x.to,I x.dlo,I x.dhi,I x.blo,I x.bhi])(hx:BK x):
  Iter Tryz.prog 218 [Pt b] H (xQ x):=by
 intro ly II Ix hmI _ hy H0 σb0 σf w hle hI0 hs
 have g1:cellAt H0 b 1=some (I x.fr):=cellAt.mono (hb.at 1) hle
 have hd:=sI hx
 have hdn:(lk x:Int)=min x.to (x.fr+364) - x.fr+1:=by have:=hx.fr;unfold lk;omega
 have hf:=hx.fr
 have ht:=hx.to
 refine Cl.o Tryz.func218 Tryz.ntmps218 ag2 ?_
 refine .aj (.z (zfa fu) (.y hs (zld af) (.zn zg (.block ?_))))
 refine .loop (fun j:Nat=>⟨22,[],[(3,I (x.fr+(j:Int))),(0,.func (.yield ly) #[] #[]),(1,Pt b)]⟩)
  (fun j w=>j≤lk x∧∃H1 σb,HLe H H1∧HLe H0 H1∧II j H1 σb∧St H1 w (σb++σf)) (fun j=>lk x - j) 0 (.cons (by show some (I _)=some (I _);congr 2;omega) aU)
  ⟨Nat.zero_le _,H0,σb0,hle,HLe.refl _,hI0,hs⟩ ?_
 rintro j w ⟨hj,H1,σb,hle1,hle0,hI,hs⟩
 have h1:cellAt H1 b 1=some (I x.fr):=cellAt.mono (hb.at 1) hle1
 have h2:cellAt H1 b 2=some (I x.to):=cellAt.mono (hb.at 2) hle1
 refine .seq (.aj (.z zm (.z (zfa ft) (.y hs (zld af) (.z (zfa fu) (.y hs (zld af) (.z cK (.z fY (.z zR (.zn nF (.bA rfl (fun hc14=>?_) (fun hc14=>?_))))))))))))
 ·refine .skip (nT (.seq (.block (.aj (.z zm (.z zm (.o (.call Tryz.call106 rfl (py hs an) ?_))))))));rintro _ w ⟨rfl,hs⟩
  have hk':j<(xQ x).length:=by rw [pO];omega
  have hyd:=hy j hk' H1 σb σf w hle1 hI hs
  rw [AO hk'] at hyd
  refine .o (.yield rfl rfl hyd ?_);rintro v20 w ⟨H5,σ5,g1,hs,g3'⟩
  obtain ⟨bb,rfl,gT,gF⟩:=oU g3'
  refine .zn fZ (.cond rfl (fun hc21=>?_) (fun hc21=>?_))
  ·refine .ret (rB (rT (rT (rB (Fin.It Tryz.results218 ?_)))))
   exact ⟨H5,σ5,hle0.trans g1,hs,.inr (gF (by simpa using hc21))⟩
  ·refine .skip (nB (nT (.region (.z zm (.z cK (.zn zg (nT ?_)))))))
   exact ⟨j+1,.cons (by show some (I _)=some (I _);congr 2;omega) aU,⟨an,H5,σ5,hle1.trans g1,hle0.trans g1,gT (by simpa using hc21),hs⟩,an⟩
 ·refine .exit (xT (xT (xB ?_)))
  obtain rfl:j=lk x:=by omega
  exact Fin.AL Tryz.results218 ⟨H1,σb,hle0,hs,.inl (by rw [pO];exact hI)⟩
theorem xO{x:Lg}(hs:St H w σ)(hx:BK x):
  Cl Tryz.prog 169 [.agg #[I x.zone,I x.fr,I x.to,I x.dlo,I x.dhi,I x.blo,I x.bhi]] w fun u w'=>∃H1 b,HLe H H1∧u= .func (.func 218) #[] #[Pt b]∧Iter Tryz.prog 218 [Pt b] H1 (xQ x)∧St H1 w' σ:=by
 refine Cl.o Tryz.func169 Tryz.ntmps169 ag1 ?_
 refine .aj (.bx hs fun b1 w hs=>?_)
 refine .zn zg (.aj (.q hs (dM (f:=[]) (c:=[_]) rfl rfl) (.zn zg (.ret (Fin.bE Tryz.results169 rfl ?_)))))
 obtain ⟨H1,g1,g2,hs⟩:=hs.di .here
 exact ⟨H1,b1,g1,rfl,u5 g2 hx,hs⟩
set_option maxHeartbeats 1000000 in
theorem uY{s:Spc}{l:Lns}{x:Lg}{vst vwa vt vs:Value}(hs:St H w σ)(g2:RI H vwa s.wa)(h1:RFb H vt l.table)(h2:RSn H vs l.seasons)(hsp:fA s)(hl:iK l)(hx:BK x):
  Cl Tryz.prog 115 [.agg #[I s.id,I s.src,vst,vwa,I s.al,I s.up],.agg #[I l.length,I l.depth,vt,vs],.agg #[I x.zone,I x.fr,I x.to,I x.dlo,I x.dhi,I x.blo,I x.bhi]] w fun u w'=>∃H1 k e,HLe H H1∧u= .tuple #[I k,I e]∧xX s.wa l x k e∧St H1 w' σ:=by
 refine Cl.o Tryz.func115 Tryz.ntmps115 ag3 ?_
 refine .aj (.bx hs fun b3 w hs=>?_)
 refine .bx hs fun b4 w hs=>?_
 refine .bx hs fun b5 w hs=>?_
 refine .z zg (.zn zg (.aj (.y hs (zls [_,_,_,_] bw aV) (.o (.call Tryz.call102 rfl (jO hs h1 hl) ?_)))));rintro _ w ⟨n,b,rfl,hF,hs⟩
 refine .z zm (.z zex (.z zex (.z zg (.zn zg (.seq (.aj (.z zm (.zn fZ (.cond rfl (fun hc19=>?_) (fun hc19=>?_))))))))))
 ·refine .aj (.z zg (.zn zg (.ret (rT (?_)))))
  obtain rfl:b=false:=by simpa using hc19
  exact Fin.gL Tryz.results115 rfl rfl ⟨H,_,_,HLe.refl H,rfl,.none hF,hs.out⟩
 ·refine .skip (nT (.aj (.o (.alloc hs cB rfl fun b10 w hs=>?_))))
  refine .o (.store hs rfl rfl ai fun w hs=>?_)
  refine .nil (.seq (.aj (.y hs (zls [_,_,_,_,_,_,_] gC aQ) ?_)))
  obtain rfl:b=true:=by simpa using hc19
  have hn:=hF.bd hl
  have hdp:=hl.depth
  refine .o (.call Tryz.call169 rfl (xO hs hx) ?_);rintro _ w ⟨H1,bd,hle1,rfl,hit,hs⟩
  refine .nil (.block ?_)
  refine .rangeFunc (gf:=218) (cap:=[Pt bd]) (xs:=xQ x) (σb:=[.blk b10 [I 0],.blk b5 [I x.zone,I x.fr,I x.to,I x.dlo,I x.dhi,I x.blo,I x.bhi],.blk b4 [I l.length,I l.depth,vt,vs],.blk b3 [I s.id,I s.src,vst,vwa,I s.al,I s.up]]) (σf:=σ) hs trivial rfl hit Tryz.call218 (fun y hy=>by
    simp only [xQ,List.mem_map] at hy
    obtain ⟨j,_,rfl⟩:=hy;rfl) rfl
   (I:=fun p H' σb=>σb=[.blk b10 [I (mB l.seasons x.zone x.fr p)],.blk b5 [I x.zone,I x.fr,I x.to,I x.dlo,I x.dhi,I x.blo,I x.bhi],.blk b4 [I l.length,I l.depth,vt,vs],.blk b3 [I s.id,I s.src,vst,vwa,I s.al,I s.up]]) (Ix:=fun _ _ _=>False)
   (fun j _ _ σ g1 g2=>g2) (fun _ _ _ _ _ h=>h) rfl ?_ ?_ (fun D c H' σb w _ h _=>h.elim)
  ·rintro ly p hp H2 σb2 σf2 w hle2 rfl hs ⟨rr,hrr⟩
   rw [AO hp]
   refine .region (.zn zg (nT (⟨H2,_,HLe.refl _,hs,?_⟩)));rintro w σf4 - hs
   replace hs:St H2 w (.blk b10 [I (mB l.seasons x.zone x.fr p)]:: .blk b5 [I x.zone,I x.fr,I x.to,I x.dlo,I x.dhi,I x.blo,I x.bhi]:: .blk b4 [I l.length,I l.depth,vt,vs]:: .blk b3 [I s.id,I s.src,vst,vwa,I s.al,I s.up]::σf4):=hs
   refine .block (.draw mix rfl hs fun w hs=>?_)
   refine .y 0 rfl hs af ?_;refine .ys 1 rfl hs [_,_,_,_] bw aV ?_;refine .z 2 rfl (zfa kS) ?_;refine .y 3 rfl hs af ?_;refine .z 4 rfl zm ?_
   refine .E 5 hs ?_
   refine .call Tryz.call105 rfl (px hs (h2.mono (hle1.trans hle2)) hl) ?_;rintro _ w ⟨rfl,hs⟩
   refine .go (.zw 6 rfl A5 (.E 7 hs ?_))
   refine .store hs rfl rfl ai ?_;intro w hs
   refine .go (.D hs (nB ?_))
   exact ⟨H2,_,HLe.refl _,hs,rfl⟩
  ·rintro D H2 σb2 w hle2 rfl hs
   rw [pO] at hs
   have hle02:=hle1.trans hle2
   have hE:=Cb hl.seasons x.zone x.fr (lk x)
   replace hs:St H2 w (.obj D (.deferred (some [])):: .blk b10 [I (mB l.seasons x.zone x.fr (lk x))]:: .blk b5 [I x.zone,I x.fr,I x.to,I x.dlo,I x.dhi,I x.blo,I x.bhi]:: .blk b4 [I l.length,I l.depth,vt,vs]:: .blk b3 [I s.id,I s.src,vst,vwa,I s.al,I s.up]::σ):=hs
   refine nB (nT (.seq (.aj (.y hs (zls [_,_,_,_,_,_] bg aM) (.z (zfa iI) (.y hs (zld af) (.z zm (.z fY (.y hs (zld af) (.z fY (.o (.call Tryz.call112 rfl (wY (s:=s) hs (g2.mono hle02) hsp) ?_))))))))))));rintro _ w ⟨k,rfl,hB,hs⟩
   refine .zn zg (.aj (.z zm (.zn uj (.bA rfl (fun hc39=>?_) (fun hc39=>?_)))))
   ·refine .aj (.z zm (.z zg (.zn zg (.ret (rT (?_))))))
    exact Fin.iM [D] [] hs fun w hs=>⟨_,results2 Tryz.results115 rfl rfl,H2,_,_,hle02,rfl,.ok hF hB hc39,hs.out⟩
   ·refine .skip (nT (.aj (.z zg (.zn zg (.ret ?_)))))
    have hk:=hB.low
    obtain rfl:k= -1:=by omega
    exact Fin.iM [D] [] hs fun w hs=>⟨_,results2 Tryz.results115 rfl rfl,H2,_,_,hle02,rfl,.above hF hB,hs.out⟩
theorem wC{v:Value}{l:List Rng}(hs:St H w σ)(hr:RRg H v l):Cl Tryz.prog 162 [v] w fun u w'=>RRg H u l∧St H w' σ:=by
 obtain ⟨a,c,rfl⟩:=hr.shape
 have hc:=RS.clip hr
 refine Cl.o Tryz.func162 Tryz.ntmps162 ag1 ?_
 refine .aj (.zn zg (.aj (.z zm (.z zm (.z (dc ek) (.z zm (.z (dc ek) (.q hs (D2 rfl rfl rfl ek au (Nat.le_refl _) hc.1) (.zn zg (.ret (Fin.bE Tryz.results162 rfl ?_)))))))))))
 exact ⟨hc.2,hs⟩
theorem oh{r:List Lg}{vr:Value}{m:Rng}(hs:St H w σ)(h1:RLg H vr r)(hr:ub r)(hm:iy m.lo m.hi):
  Cl Tryz.prog 110 [.agg #[vr],.agg #[I m.lo,I m.hi]] w fun u w'=>∃H1,HLe H H1∧RRg H1 u (msL m r r.length)∧St H1 w' σ:=by
 obtain ⟨ar,cr,rfl⟩:=h1.shape
 have hn:=hr.many
 refine Cl.o Tryz.func110 Tryz.ntmps110 ag2 ?_
 refine .aj (.bx hs fun b2 w hs=>?_)
 refine .bx hs fun b3 w hs=>?_
 refine .zn zg (.aj (.y hs (zls [_,_] aW au) (.o (.buildSlice (cells:=m.c) hs iO rfl aD fun b9 w hs=>?_))))
 refine .zn zg (.seq (.aj (.z (zfa bI) (.y hs (zld cu) (.z (dc aF) (.zn zm (.for (N:=r.length) (J:=fun k fr w=>∃vo en,fr=[(5,vo),(11,.slice ar r.length cr),(3,Pt b3)]∧cZ 2 vo (rgc (msL m r k)).flatten en∧St H w (en:: .blk b3 [I (lI m r k).lo,I (lI m r k).hi]::σ)) an ?_ ?_ ?_)))))))
 ·exact .mk ⟨_,.blk b9 m.c,rfl,.full rfl,hs.sb⟩
 ·rintro k fr w hk ⟨vo,en,rfl,hO,hs⟩
  have hx:=j6 (l:=r) hk
  have hb:=Bm hm (fun i hi=>(hr.leg i hi).1) (i:=k) an
  have hb2:=(hr.leg k hk).1.burn
  unfold iy at hb hb2
  have hml:=kB m r k
  obtain ⟨ao,co,rfl⟩:=hO.jz (Bf _) an
  refine .block (.aj (.ixX (enc:=Lg.c) hs h1 rfl rfl aF aQ hx da ?_));intro b15 o15 hc15
  refine .q hs (cj (vs:=(Lg.c (lg0 r k))) rfl gC aQ hc15) (.o (.alloc hs dB rfl fun b7 w hs=>?_))
  refine .o (.aP (vs:=(lg0 r k).c) hs rfl rfl aQ fun w hs=>?_)
  change St _ _ (.blk b7 [I (lg0 r k).zone,I (lg0 r k).fr,I (lg0 r k).to,I (lg0 r k).dlo,I (lg0 r k).dhi,I (lg0 r k).blo,I (lg0 r k).bhi]::_) at hs
  refine .nil (.aj (.z (zfa bG) (.y hs (zld af) (.z (zfa fp) (.z (zfa cf) (.y hs (zld af) (.z fY (.z A5 (.z (zfa cf) (.y hs (zld af) (.z (zfa fp) (.z (zfa bG) (.y hs (zld af) (.z fY (.z A5 (.z (zbd [_,_] bU) (.o (.aP (vs:=(lI m r (k+1)).c) hs rfl rfl au fun w hs=>?_))))))))))))))))))
  change St _ _ (.blk b7 _::en:: .blk b3 [I (lI m r (k+1)).lo,I (lI m r (k+1)).hi]::σ) at hs
  refine .nil (.region (.z zm (.y hs (zls [_,_] aW au) (.o (.buildSlice (cells:=(lI m r (k+1)).c) hs iO rfl aD fun b34 w hs=>?_)))))
  refine .o (.append (ys:=(lI m r (k+1)).c) hs jr rfl rfl hO (.own .here rfl rfl) (by simp [Rng.c,Value.oneCell']) (fun l h=>by rw [cz _ (Bf _),kr] at h;omega) ?_);intro v35 en35 w hO2 hs
  rw [←BY,←B9] at hO2
  refine .zn zg (nB (nT ?_))
  exact .mk ⟨_,_,rfl,hO2,hs.sb⟩
 ·rintro fr w ⟨vo,en,rfl,hO,hs⟩
  obtain ⟨H1,hle1,hR,hs⟩:=cZ.di (m:=2) hO (Bf _) an (by rw [kr,kB];omega) hs .here
  refine nT (.aj (.z zm (.o (.call Tryz.call162 rfl (wC (l:=msL m r r.length) hs hR) ?_))));rintro v38 w ⟨hR2,hs⟩
  refine .zn zg (.ret (Fin.bE Tryz.results110 rfl ?_))
  exact ⟨H1,hle1,hR2,hs.out⟩
theorem EY{v:Srv}{out:List Int}{e:Int}(h:CF v out e)(hv:eW v):(e=0∧0<out.length∧¬v.sys.Sound)∨(e=3∧v.sys.Sound):=by
 cases h with
 |bad h he=>exact (he (h.dU.2 hv)).elim
 |ok _ h=>
  by_cases e0:e=0
  ·subst e0
   obtain ⟨_,h1,_,h2⟩:=h.conf
   exact .inl ⟨rfl,(by cases out with|nil=>exact (h2 rfl).elim|cons=>simp),h1⟩
  ·cases h with
   |bad h=>exact (h (v.sys.dU.2 hv.sys)).elim
   |none _ h=>exact .inr ⟨rfl,h⟩
   |ok=>exact (e0 rfl).elim
theorem mM{k:Int}(hs:St H w σ):Cl Tryz.prog 98 [I k] w fun u w'=>u= .agg #[I 1,I 0,I k]∧St H w' σ:=by
 refine Cl.o Tryz.func98 Tryz.ntmps98 ag1 ?_
 refine .aj (.o (.alloc hs Tryz.zeroValue113 rfl fun b2 w hs=>?_))
 refine .nil (.aj (.z zm (.z (zbd [_,_,_] uz) (.o (.aP (vs:=[_,_,_]) hs rfl rfl gx fun w hs=>?_)))))
 refine .nil (.ret ?_)
 exact Fin.iM [] [] hs fun w hs=>⟨_,results1 Tryz.results98 (dy (vs:=[_,_,_]) hs rfl lK gx),rfl,hs.out⟩
theorem uZ{s:Srv}{k:Nat}{a b c d:Value}(hs:St H w σ)(g:SvM H s a b c d)(hok:eW s):
  Cl Tryz.prog 122 [svA s a b c d,I (k:Int)] w fun u w'=>∃H1 lo hi e,HLe H H1∧u= .tuple #[.agg #[I lo,I hi],I e]∧xY s k lo hi e∧St H1 w' σ:=by
 refine Cl.o Tryz.func122 Tryz.ntmps122 ag2 ?_
 refine .aj (.bx hs fun b2 w hs=>?_)
 refine .o (.alloc hs bP rfl fun b4 w hs=>?_)
 refine .zn zg (.seq (.aj (.z zm (.zn km (.bA rfl (fun hc9=>?_) (fun hc9=>?_))))))
 ·refine .seq (.draw mix rfl hs fun w hs=>?_)
  refine .ys 0 rfl hs [_,_,_,_,_,_,_,_] aN aC ?_;refine .z 1 rfl zm ?_
  refine .E 2 hs ?_
  refine .call Tryz.call98 rfl (mM hs) ?_;rintro _ w ⟨rfl,hs⟩
  refine .go (.E 3 hs ?_)
  refine .call Tryz.call174 rfl (sj (s:=s) (q:=⟨1,0,k⟩) hs g.st g.wa g.rd g.cm) ?_;rintro _ w ⟨H1,lo,hi,e,hle1,rfl,hQ,hs⟩
  refine .go (.zw 4 rfl zex ?_);refine .z 5 rfl zex ?_
  refine .E 6 hs ?_
  refine .aP (vs:=[_,_]) hs rfl rfl au ?_;intro w hs
  refine .go (.zw 7 rfl zg ?_);refine .D hs ?_
  refine .ret (rT (?_))
  exact Fin.iM [] [] hs fun w hs=>⟨_,results2 Tryz.results122 (dy (vs:=[_,_]) hs rfl aW au) rfl,H1,_,_,_,hle1,rfl,.up an hQ,hs.out⟩
 ·refine .skip (nT (.seq (.aj (.y hs (zls [_,_,_,_,_,_,_,_] aN aC) ?_))))
  obtain rfl:k=0:=by omega
  refine .o (.call Tryz.call175 rfl (si (s:=s) hs g.st g.wa g.rd g.cm) ?_);rintro _ w ⟨H1,vx,out,e,hle1,rfl,hX,hC,hs⟩
  have hcl:=EY hC hok
  obtain ⟨ax,cx,rfl⟩:=RI.shape hX
  refine .z zm (.z zex (.z zex (.z zg (.zn zg (.aj (.z zm (.z fm (.z zm (.gX (t':=23) rfl (fun hb23=>?_) (fun hb23=>?_))))))))))
  ·refine .T (.z zm (.T (.z (dc ae) (.T (.z km (.zn zpT (.bA rfl (fun hc27=>?_) (fun hc27=>?_))))))))
   ·refine .aj (.z (zbd [_,_] bU) (.o (.aP (vs:=[_,_]) hs rfl rfl au fun w hs=>?_)))
    refine .zn zg (.ret (rT (?_)))
    exact Fin.iM [] [] hs fun w hs=>⟨_,results2 Tryz.results122 (dy (vs:=[_,_]) hs rfl aW au) rfl,H1,_,_,_,hle1,rfl,.fls rfl hok (by rcases hcl with h|h;exact h.2.2;omega),hs.out⟩
   ·refine .skip (nT (.aj (.z (zbd [_,_] bU) (.o (.aP (vs:=[_,_]) hs rfl rfl au fun w hs=>?_)))))
    refine .zn zg (.ret ?_)
    exact Fin.iM [] [] hs fun w hs=>⟨_,results2 Tryz.results122 (dy (vs:=[_,_]) hs rfl aW au) rfl,H1,_,_,_,hle1,rfl,.zero rfl hok (by rcases hcl with h|h;omega;exact h.2),hs.out⟩
  ·refine .Fs 3 2 true (.zn zpF (.cF (.skip (nT (.aj (.z (zbd [_,_] bU) (.o (.aP (vs:=[_,_]) hs rfl rfl au fun w hs=>?_))))))))
   refine .zn zg (.ret ?_)
   exact Fin.iM [] [] hs fun w hs=>⟨_,results2 Tryz.results122 (dy (vs:=[_,_]) hs rfl aW au) rfl,H1,_,_,_,hle1,rfl,.zero rfl hok (by rcases hcl with h|h;omega;exact h.2),hs.out⟩
theorem iC{n d:Int}(hs:St H w σ)(hn: -4000000000000≤n∧n≤4000000000000)(hd: -100000≤d∧d≤100000):Cl Tryz.prog 99 [I n,I d] w fun v w'=>v=I (mV n d)∧St H w' σ:=by
 have hm:=j5 (a:=n) (b:=d) (A:=4000000000000) (B:=100000) an an
 refine Cl.o Tryz.func99 Tryz.ntmps99 ag2 ?_
 refine .aj (.zn zg (.aj (.z zm (.z zm (.z kd (.o (.call Tryz.call140 rfl (qG hs an an) ?_)))))));rintro _ w ⟨rfl,hs⟩
 refine .zn zg (.ret (Fin.bE Tryz.results99 rfl ?_))
 exact ⟨rfl,hs⟩
theorem tJ{lo hi x y:Int}(hs:St H w σ)(h1: -200000000≤lo∧lo≤200000000)(h2: -200000000≤hi∧hi≤200000000)(hd:gD x y):
  Cl Tryz.prog 145 [.agg #[I lo,I hi],.agg #[I x,I y]] w fun v w'=>v= .agg #[I (o9 lo x y),I (pa hi x y)]∧St H w' σ:=by
 unfold gD at hd
 refine Cl.o Tryz.func145 Tryz.ntmps145 ag2 ?_
 refine .aj (.bx hs fun b2 w hs=>?_)
 refine .bx hs fun b3 w hs=>?_
 refine .o (.alloc hs bP rfl fun b4 w hs=>?_)
 refine .nil (.seq (.draw mix rfl hs fun w hs=>?_))
 refine .zw 0 rfl (zfa bG) ?_;refine .y 1 rfl hs af ?_;refine .z 2 rfl (zfa bG) ?_;refine .y 3 rfl hs af ?_;refine .z 5 rfl (zfa bG) ?_;refine .y 6 rfl hs af ?_;refine .z 7 rfl (zfa cf) ?_;refine .y 8 rfl hs af ?_;refine .z 11 rfl (zfa cf) ?_;refine .y 12 rfl hs af ?_
 refine .zw 13 rfl (zfa bG) ?_;refine .y 14 rfl hs af ?_;refine .z 16 rfl (zfa cf) ?_;refine .y 17 rfl hs af ?_;refine .z 18 rfl (zfa cf) ?_;refine .y 19 rfl hs af ?_
 refine .E 4 hs ?_
 refine .call Tryz.call99 rfl (iC hs an an) ?_;rintro _ w ⟨rfl,hs⟩
 refine .go (.E 9 hs ?_)
 refine .call Tryz.call99 rfl (iC hs an an) ?_;rintro _ w ⟨rfl,hs⟩
 refine .go (.zw 10 rfl zR (.E 15 hs ?_))
 refine .call Tryz.call99 rfl (iC hs an an) ?_;rintro _ w ⟨rfl,hs⟩
 refine .go (.E 20 hs ?_)
 refine .call Tryz.call99 rfl (iC hs an an) ?_;rintro _ w ⟨rfl,hs⟩
 refine .go (.zw 21 rfl A5 ?_);refine .z 22 rfl (zbd [_,_] bU) ?_
 refine .E 23 hs ?_
 refine .aP (vs:=[_,_]) hs rfl rfl au ?_;intro w hs
 refine .go (.D hs (.ret ?_))
 exact Fin.iM [] [] hs fun w hs=>⟨_,results1 Tryz.results145 (dy (vs:=[_,_]) hs rfl aW au),rfl,hs.out⟩
theorem eX{s:Srv}{k:Nat}{a b c d:Value}{x y:Int}(hs:St H w σ)(g:SvM H s a b c d)(hok:eW s)(hd:gD x y):
  Cl Tryz.prog 88 [svA s a b c d,I (k:Int),.agg #[I x,I y]] w fun u w'=>∃H1 lo hi e,HLe H H1∧u= .tuple #[.agg #[I lo,I hi],I e]∧lS s k x y lo hi e∧St H1 w' σ:=by
 refine Cl.o Tryz.func88 Tryz.ntmps88 ag3 ?_
 refine .aj (.bx hs fun b3 w hs=>?_)
 refine .bx hs fun b5 w hs=>?_
 refine .o (.alloc hs bP rfl fun b6 w hs=>?_)
 refine .zn zg (.aj (.y hs (zls [_,_,_,_,_,_,_,_] aN aC) (.z zm (.o (.call Tryz.call122 rfl (uZ (s:=s) hs g hok) ?_)))));rintro _ w ⟨H1,lo,hi,e,hle1,rfl,hL,hs⟩
 have hb:=hL.bd
 refine .z zm (.z zex (.z zex (.o (.alloc hs bP rfl fun b8 w hs=>?_))))
 refine .o (.aP (vs:=[_,_]) hs rfl rfl au fun w hs=>?_)
 refine .zn zg (.seq (.aj (.z zm (.zn gE (.dV rfl (fun hc17=>?_) (fun hc17=>?_))))))
 ·refine .aj (.z (zbd [_,_] bU) (.z zm (.o (.aP (vs:=[_,_]) hs rfl rfl au fun w hs=>?_))))
  refine .zn zg (.ret (rT (?_)))
  exact Fin.iM [] [] hs fun w hs=>⟨_,results2 Tryz.results88 (dy (vs:=[_,_]) hs rfl aW au) rfl,H1,_,_,_,hle1,rfl,.fls hL hc17,hs.out⟩
 ·refine .skip (nT (.aj (.y hs (zls [_,_] aW au) (.y hs (zls [_,_] aW au) ?_))))
  obtain rfl:e=0:=by omega
  refine .o (.call Tryz.call145 rfl (tJ hs an an hd) ?_);rintro _ w ⟨rfl,hs⟩
  refine .o (.aP (vs:=[_,_]) hs rfl rfl au fun w hs=>?_)
  refine .zn zg (.ret ?_)
  exact Fin.iM [] [] hs fun w hs=>⟨_,results2 Tryz.results88 (dy (vs:=[_,_]) hs rfl aW au) rfl,H1,_,_,_,hle1,rfl,.ok hL,hs.out⟩
theorem oM{s:Srv}{k:Int}{a b c d:Value}{x y:Int}(hs:St H w σ)(g:SvM H s a b c d):
  Cl Tryz.prog 58 [svA s a b c d,I k,.agg #[I x,I y]] w fun u w'=>∃H1 lo hi e,HLe H H1∧u= .tuple #[.agg #[I lo,I hi],I e]∧Dg s k x y lo hi e∧St H1 w' σ:=by
 obtain ⟨aw,cw,rfl⟩:=RI.shape g.wa
 refine Cl.o Tryz.func58 Tryz.ntmps58 ag3 ?_
 refine .aj (.bx hs fun b3 w hs=>?_)
 refine .bx hs fun b5 w hs=>?_
 refine .o (.alloc hs bP rfl fun b6 w hs=>?_)
 refine .zn zg (.seq (.aj (.y hs (zls [_,_,_,_,_,_,_,_] aN aC) (.o (.call Ki rfl (gM (s:=s) hs g.st g.wa g.rd g.cm) ?_)))));rintro _ w ⟨H1,e,hle1,rfl,hC,hs⟩
 refine .zn zg (.aj (.z zm (.zn gE (.dV rfl (fun hc12=>?_) (fun hc12=>?_)))))
 ·refine .aj (.z (zbd [_,_] bU) (.z zm (.o (.aP (vs:=[_,_]) hs rfl rfl au fun w hs=>?_))))
  refine .zn zg (.ret (rT (?_)))
  exact Fin.iM [] [] hs fun w hs=>⟨_,results2 Tryz.results58 (dy (vs:=[_,_]) hs rfl aW au) rfl,H1,_,_,_,hle1,rfl,.bad hC hc12,hs.out⟩
 ·refine .skip (nT (.seq (.block (.aj ?_))))
  have hok:eW s:=hC.dU.1 an
  have hsm:=fN hok.early.1
  refine .z zm (.z (zfa bn) (.z (zfa bh) (.y hs (zld aq) (.z (dc ae) (.z fY (.o (.call eS rfl (cI hs) ?_)))))));rintro _ w ⟨rfl,hs⟩
  refine .z fZ (.zn zg (.cond rfl (fun hc15=>?_) (fun hc15=>?_)))
  ·refine .aj (.z (zbd [_,_] bU) (.o (.aP (vs:=[_,_]) hs rfl rfl au fun w hs=>?_)))
   refine .zn zg (.ret (rB (rT (?_))))
   exact Fin.iM [] [] hs fun w hs=>⟨_,results2 Tryz.results58 (dy (vs:=[_,_]) hs rfl aW au) rfl,H1,_,_,_,hle1,rfl,.water hok (by simp at hc15;omega),hs.out⟩
  ·refine .aj (.y hs (zls [_,_] aW au) ?_)
   have hk:0≤k∧k≤(s.sp.wa.length:Int) - 1:=by simpa using hc15
   refine .o (.call Tryz.call118 rfl (nt hs) ?_);rintro _ w ⟨rfl,hs⟩
   refine .z fZ (.zn zg (.cond rfl (fun hc25=>?_) (fun hc25=>?_)))
   ·refine .aj (.z (zbd [_,_] bU) (.o (.aP (vs:=[_,_]) hs rfl rfl au fun w hs=>?_)))
    refine .zn zg (.ret (rB (rT (?_))))
    exact Fin.iM [] [] hs fun w hs=>⟨_,results2 Tryz.results58 (dy (vs:=[_,_]) hs rfl aW au) rfl,H1,_,_,_,hle1,rfl,.dense hok hk (by simpa using hc25),hs.out⟩
   ·refine .skip (nB (nT (.aj (.y hs (zls [_,_,_,_,_,_,_,_] aN aC) (.z zm (.y hs (zls [_,_] aW au) ?_))))))
    have hdn:gD x y:=by simpa using hc25
    obtain ⟨j,rfl⟩:∃j:Nat,k=(j:Int):=⟨k.toNat,an⟩
    refine .o (.call Tryz.call88 rfl (eX (s:=s) hs (g.mono hle1) hok hdn) ?_);rintro _ w ⟨H2,lo,hi,e,hle2,rfl,hS,hs⟩
    refine .z zex (.z zex (.o (.aP (vs:=[_,_]) hs rfl rfl au fun w hs=>?_)))
    refine .zn zg (.ret ?_)
    exact Fin.iM [] [] hs fun w hs=>⟨_,results2 Tryz.results58 (dy (vs:=[_,_]) hs rfl aW au) rfl,H2,_,_,_,hle1.trans hle2,rfl,.go hok hk hdn (by rw [Int.toNat_natCast];exact hS),hs.out⟩
set_option maxHeartbeats 2000000 in
theorem wZ{s:Srv}{l:Lns}{r:List Lg}{m:Rng}{a b c d vt vs vlg:Value}(hs:St H w σ)(g:SvM H s a b c d)(gl:LnM H l vt vs)(gr_:RLg H vlg r):
  Cl Tryz.prog 79 [svA s a b c d,lnA l vt vs,.agg #[vlg],.agg #[I m.lo,I m.hi]] w fun u w'=>∃(H1:cD) (z:RtV) (ks:List Int) (e:Int),HLe H H1∧u= .tuple #[z.agg,I e]∧z.cs.all Value.oneCell'=true∧ta s l r m ks e∧(e=0→∃vms vmk,z=⟨s,l,a,b,c,d,vt,vs,vlg,vms,vmk⟩∧RRg H1 vms (msL m r r.length)∧RI H1 vmk ks)∧St H1 w' σ:=by
 obtain ⟨alg,clg,rfl⟩:=gr_.shape
 refine Cl.o Tryz.func79 Tryz.ntmps79 ag4 ?_
 refine .aj (.bx hs fun b4 w hs=>?_)
 refine .bx hs fun b5 w hs=>?_
 refine .bx hs fun b6 w hs=>?_
 refine .bx hs fun b7 w hs=>?_
 refine .o (.alloc hs lZ rfl fun b8 w hs=>?_)
 refine .zn zg (.seq (.aj (.y hs (zls [_,_,_,_,_,_,_,_] aN aC) (.o (.call Ki rfl (gM (s:=s) hs g.st g.wa g.rd g.cm) ?_)))));rintro _ w ⟨H1,e,hle1,rfl,hC,hs⟩
 refine .zn zg (.aj (.z zm (.zn gE (.dV rfl (fun hc21=>?_) (fun hc21=>?_)))))
 ·refine .aj (.z (zbd RtV.zero.cs gW rfl aD) (.z zm (.o (.aP (vs:=RtV.zero.cs) hs rfl rfl dv fun w hs=>?_))))
  refine .zn zg (.ret (rT (?_)))
  exact Fin.iM [] [] hs fun w hs=>⟨_,results2 ye (dy (vs:=RtV.zero.cs) hs rfl nW dv) rfl,H1,RtV.zero,_,_,hle1,rfl,rfl,.bad hC hc21,fun h=>(hc21 h).elim,hs.out⟩
 ·refine .skip (nT (.seq (.aj (.y hs (zls [_,_,_,_] bw aV) ?_))))
  have hok:eW s:=hC.dU.1 an
  have hsp:=hok.early.1
  refine .o (.call Tryz.call19 rfl (jw hs (gl.tb.mono hle1) (gl.sn.mono hle1)) ?_);rintro _ w ⟨f,rfl,hL,hs⟩
  refine .zn zg (.aj (.z zm (.zn gE (.dV rfl (fun hc27=>?_) (fun hc27=>?_)))))
  ·refine .aj (.z (zbd RtV.zero.cs gW rfl aD) (.z zm ?_))
   have hl:=hL.resolve_left fun h=>hc27 h.2
   refine .o (.aP (vs:=RtV.zero.cs) hs rfl rfl dv fun w hs=>?_)
   refine .zn zg (.ret (rT (?_)))
   exact Fin.iM [] [] hs fun w hs=>⟨_,results2 ye (dy (vs:=RtV.zero.cs) hs rfl nW dv) rfl,H1,RtV.zero,_,_,hle1,rfl,rfl,by rw [hl.2];exact .lines hok hl.1,fun h=>(hc27 h).elim,hs.out⟩
  ·refine .skip (nT (.seq (.aj (.y hs (zls [_] cA bp) ?_))))
   have hl:iK l:=(hL.resolve_right fun h=>by omega).1
   refine .o (.call Tryz.call21 rfl (qm hs (gr_.mono hle1)) ?_);rintro _ w ⟨q,rfl,hR,hs⟩
   refine .zn zg (.aj (.z zm (.zn gE (.dV rfl (fun hc33=>?_) (fun hc33=>?_)))))
   ·refine .aj (.z (zbd RtV.zero.cs gW rfl aD) (.z zm ?_))
    have hrt:=hR.resolve_left fun h=>hc33 h.2
    refine .o (.aP (vs:=RtV.zero.cs) hs rfl rfl dv fun w hs=>?_)
    refine .zn zg (.ret (rT (?_)))
    exact Fin.iM [] [] hs fun w hs=>⟨_,results2 ye (dy (vs:=RtV.zero.cs) hs rfl nW dv) rfl,H1,RtV.zero,_,_,hle1,rfl,rfl,by rw [hrt.2];exact .route hok hl hrt.1,fun h=>(hc33 h).elim,hs.out⟩
   ·refine .skip (nT (.seq (.aj (.y hs (zls [_,_] aW au) ?_))))
    have hrt:ub r:=(hR.resolve_right fun h=>by omega).1
    have hn:=hrt.many
    refine .o (.call Tryz.call109 rfl (oo hs) ?_);rintro _ w ⟨rfl,hs⟩
    refine .zn fZ (.cond rfl (fun hc38=>?_) (fun hc38=>?_))
    ·refine .aj (.z (zbd RtV.zero.cs gW rfl aD) (.o (.aP (vs:=RtV.zero.cs) hs rfl rfl dv fun w hs=>?_)))
     refine .zn zg (.ret (rT (?_)))
     exact Fin.iM [] [] hs fun w hs=>⟨_,results2 ye (dy (vs:=RtV.zero.cs) hs rfl nW dv) rfl,H1,RtV.zero,_,_,hle1,rfl,rfl,.uv hok hl hrt (by simpa using hc38),fun h=>by omega,hs.out⟩
    ·refine .skip (nT (.cut (fun fs w=>∃H2 vms b13,ke fs ⟨76,[],[(13,Pt b13),(8,Pt b8),(5,Pt b5),(6,Pt b6)]⟩∧HLe H1 H2∧RRg H2 vms (msL m r r.length)∧St H2 w (.blk b13 (RtV.cs ⟨s,l,a,b,c,d,vt,vs,.slice alg r.length clg,vms,.slice none 0 0⟩):: .blk b8 RtV.zero.cs:: .blk b6 [.slice alg r.length clg]:: .blk b5 (lnC l vt vs)::σ)) ?_ ?_))
     ·refine .draw mix rfl hs fun w hs=>?_
      refine .ys 0 rfl hs [_,_,_,_,_,_,_,_] aN aC ?_;refine .ys 1 rfl hs [_,_,_,_] bw aV ?_;refine .z 2 rfl (zfa bI) ?_;refine .y 3 rfl hs cu ?_;refine .ys 4 rfl hs [_] cA bp ?_;refine .ys 5 rfl hs [_,_] aW au ?_
      refine .e2 (i:=6) (j:=8) aD rfl rfl rfl rfl .none .none hs ?_ ?_
      ·refine .call Tryz.call110 rfl (oh hs (gr_.mono hle1) hrt (by simpa using hc38)) ?_;rintro vms w ⟨H2,hle2,hMs,hs⟩
       obtain ⟨ams,cms,rfl⟩:=hMs.shape
       refine .go (.zw 7 rfl (zbd (vs:=[(0,svA s a b c d),(1,lnA l vt vs),(2,.slice alg r.length clg),(3,.slice ams (msL m r r.length).length cms)]) (RtV.cs ⟨s,l,a,b,c,d,vt,vs,.slice alg r.length clg,.slice ams (msL m r r.length).length cms,.slice none 0 0⟩) gW rfl aD) (.E 8 hs ?_))
       refine .alloc hs lZ rfl ?_;intro b13 w hs
       refine .go (.E 9 hs ?_)
       refine .aP (vs:=RtV.cs ⟨s,l,a,b,c,d,vt,vs,.slice alg r.length clg,.slice ams (msL m r r.length).length cms,.slice none 0 0⟩) hs rfl rfl dv ?_ (hv:=RtV.one g gl gr_ (RS.one hMs) rfl);intro w hs
       refine .go (.D hs ?_)
       exact nT ⟨H2,_,b13,aU,hle2,hMs,hs.sb⟩
      ·refine .alloc hs lZ rfl ?_;intro b13 w hs
       refine .go (.E 6 hs ?_)
       refine .call Tryz.call110 rfl (oh hs (gr_.mono hle1) hrt (by simpa using hc38)) ?_;rintro vms w ⟨H2,hle2,hMs,hs⟩
       obtain ⟨ams,cms,rfl⟩:=hMs.shape
       refine .go (.zw 7 rfl (zbd (vs:=[(0,svA s a b c d),(1,lnA l vt vs),(2,.slice alg r.length clg),(3,.slice ams (msL m r r.length).length cms)]) (RtV.cs ⟨s,l,a,b,c,d,vt,vs,.slice alg r.length clg,.slice ams (msL m r r.length).length cms,.slice none 0 0⟩) gW rfl aD) (.E 9 hs ?_))
       refine .aP (vs:=RtV.cs ⟨s,l,a,b,c,d,vt,vs,.slice alg r.length clg,.slice ams (msL m r r.length).length cms,.slice none 0 0⟩) hs rfl rfl dv ?_ (hv:=RtV.one g gl gr_ (RS.one hMs) rfl);intro w hs
       refine .go (.D hs ?_)
       exact nT ⟨H2,_,b13,aU,hle2,hMs,hs.sb⟩
     ·rintro fs w ⟨H2,vms,b13,hfs,hle2,hMs,hs⟩
      refine WE.sub ?_ hfs
      clear hfs
      have hle02:=hle1.trans hle2
      have hm:iy m.lo m.hi:=by simpa using hc38
      refine .seq (.aj (.z (zfa bI) (.y hs (zld cu) (.z (dc aF) (.zn zm (.for (N:=r.length) (J:=fun k fr w=>∃H3 ks vmk en,fr=[(49,.slice alg r.length clg),(13,Pt b13),(8,Pt b8),(5,Pt b5)]∧HLe H2 H3∧ks.length=k∧(∀i<k,xX s.sp.wa l (lg0 r i) (gi ks i) 0)∧cZ 1 vmk (Is ks) en∧St H3 w (en:: .blk b13 (RtV.cs ⟨s,l,a,b,c,d,vt,vs,.slice alg r.length clg,vms,vmk⟩):: .blk b8 RtV.zero.cs:: .blk b6 [.slice alg r.length clg]:: .blk b5 (lnC l vt vs)::σ)) an ?_ ?_ ?_))))))
      ·exact .mk ⟨H2,[],_,.nul,rfl,HLe.refl _,rfl,fun i hi=>by omega,.nil 1 none,hs.nul⟩
      ·rintro k fr w hk ⟨H3,ks,vmk,en,rfl,hle3,hkl,hks,hO,hs⟩
       have hx:=j6 (l:=r) hk
       have hle03:=hle02.trans hle3
       obtain ⟨ao,lo',co,rfl,hlo⟩:=hO.shape
       refine .block (.aj (.ixX (enc:=Lg.c) hs (gr_.mono hle03) rfl rfl aF aQ hx da ?_));intro b53 o53 hc53
       refine .q hs (cj (vs:=(Lg.c (lg0 r k))) rfl gC aQ hc53) (.o (.alloc hs dB rfl fun b15 w hs=>?_))
       refine .o (.aP (vs:=(lg0 r k).c) hs rfl rfl aQ fun w hs=>?_)
       change St _ _ (.blk b15 (lgC (lg0 r k))::_) at hs
       refine .nil (.aj (.z (zfa mi) (.z (zfa bn) (.y hs (zls [_,_,_,_,_,_] bg aM) (.y hs (zls [_,_,_,_] bw aV) (.y hs (zls [_,_,_,_,_,_,_] gC aQ) (.o (.call Tryz.call115 rfl (uY (s:=s.sp) (x:=lg0 r k) hs (g.wa.mono hle03) (gl.tb.mono hle03) (gl.sn.mono hle03) hsp hl (hrt.leg k hk).1) ?_))))))));rintro _ w ⟨H4,n,e,hle4,rfl,hLw,hs⟩
       have hle04:=hle03.trans hle4
       refine .z zm (.z zex (.z zex (.z zg (.zn zg (.seq (.aj (.z zm (.zn gE (.dV rfl (fun hc65=>?_) (fun hc65=>?_))))))))))
       ·refine .aj (.z (zbd RtV.zero.cs gW rfl aD) (.z zm (.o (.aP (vs:=RtV.zero.cs) hs rfl rfl dv fun w hs=>?_))))
        refine .zn zg (.ret (rT (rB (rT (rB (rT (?_)))))))
        exact Fin.iM [] [] hs fun w hs=>⟨_,results2 ye (dy (vs:=RtV.zero.cs) hs rfl nW dv) rfl,H4,RtV.zero,_,_,hle04,rfl,rfl,.low hok hl hrt hm hk (fun j hj=>⟨_,hks j hj⟩) hLw hc65,fun h=>(hc65 h).elim,hs.out⟩
       ·refine .skip (nT (.region (.z (zfa ja) (.y hs (zld aq) (.z zm (.o (.buildSlice (cells:=Is [n]) hs db rfl aD fun b71 w hs=>?_)))))))
        refine .o (.append (ys:=Is [n]) hs cM rfl rfl hO (.own .here rfl rfl) (iL _) (fun l h=>by simp [Is] at h;omega) ?_);intro v72 en72 w hO2 hs
        rw [←List.map_append] at hO2
        obtain ⟨a72,l72,c72,rfl,h72⟩:=hO2.shape
        refine .z (zfa ja) (.o (.store hs rfl rfl aA fun w hs=>?_))
        refine .nil (nB (nT ?_))
        obtain rfl:e=0:=by omega
        exact .mk ⟨H4,ks++[n],_,_,rfl,hle3.trans hle4,by simp [hkl],fun i hi=>by
         by_cases e:i=k
         ·subst e;rw [ld,if_neg an,if_pos an];exact hLw
         ·rw [ld,if_pos an];exact hks i an,hO2,hs.sb⟩
      ·rintro fr w ⟨H3,ks,vmk,en,rfl,hle3,hkl,hks,hO,hs⟩
       obtain ⟨H4,hle4,hRk,hs⟩:=hO.dS an hs .here
       have hle04:=hle02.trans (hle3.trans hle4)
       refine nT (.aj (.y hs (zls [_,_,_,_,_,_,_,_,_,_,_,_,_,_,_] nW dv) (.o (.aP (vs:=RtV.cs ⟨s,l,a,b,c,d,vt,vs,.slice alg r.length clg,vms,vmk⟩) hs rfl rfl dv ?_ (hv:=RtV.one g gl gr_ (RS.one hMs) (RS.one hRk))))));intro w hs
       refine .zn zg (.ret ?_)
       exact Fin.iM [] [] hs fun w hs=>⟨_,results2 ye (dy (vs:=RtV.cs ⟨s,l,a,b,c,d,vt,vs,.slice alg r.length clg,vms,vmk⟩) hs rfl nW dv) rfl,H4,⟨s,l,a,b,c,d,vt,vs,.slice alg r.length clg,vms,vmk⟩,_,_,hle04,rfl,RtV.one g gl gr_ (RS.one hMs) (RS.one hRk),.ok hok hl hrt hm hkl hks,fun _=>⟨_,_,rfl,hMs.mono (hle3.trans hle4),hRk⟩,hs.out⟩
structure RtM(H:cD)(s:Srv)(l:Lns)(r:List Lg)(m:Rng)(ks:List Int)(z:RtV):Prop where
 es:z.s=s
 el:z.l=l
 sv:SvM H s z.a z.b z.c z.d
 ln:LnM H l z.t z.n
 lg:RLg H z.lg r
 ms:RRg H z.ms (msL m r r.length)
 mr:RI H z.mr ks
 one:z.cs.all Value.oneCell'=true
 beg:ta s l r m ks 0
set_option maxHeartbeats 1000000 in
theorem tL{s:Srv}{l:Lns}{r:List Lg}{m:Rng}{ks:List Int}{z:RtV}(hs:St H w σ)(h:RtM H s l r m ks z):
  Cl Tryz.prog 80 [z.agg] w fun u w'=>∃H1 v as_ e,HLe H H1∧u= .tuple #[v,I e]∧RI H1 v as_∧Ff s l r m as_ e∧St H1 w' σ:=by
 obtain ⟨s',l',a,b,c,d,t,n,lg,ms,mr⟩:=z
 obtain ⟨rfl,rfl,g,gl,hr,hms,hmr,hone,hB⟩:=h
 dsimp only at g gl hr hms hmr hone
 obtain ⟨alg,clg,rfl⟩:=hr.shape
 obtain ⟨ams,cms,rfl⟩:=hms.shape
 obtain ⟨amr,cmr,rfl⟩:=RI.shape hmr
 obtain ⟨hok,hl,hrt,hm,hkl,hlow⟩:=hB.ok'
 have hn:=hrt.many
 have hml:=kB m r r.length
 refine Cl.o Tryz.func80 Tryz.ntmps80 ag1 ?_
 refine .aj (.bx hs fun b1 w hs=>?_)
 refine .z zg (.zn zg (.aj (.zn zg (.seq (.aj (.z (zfa j9) (.y hs (zld cu) (.z (dc aF) (.zn zm (.for (N:=r.length) (J:=fun k fr w=>∃H1 vo as_ en,fr=[(4,vo),(11,.slice alg r.length clg),(1,Pt b1)]∧HLe H H1∧as_.length=k∧(∀i<k,∃lo hi,lS s' (gi ks i).toNat (lg0 r i).dlo (lg0 r i).dhi lo hi 0∧gi as_ i=yH (lI m r i) lo hi)∧(0<k→s'.sys.Sound)∧cZ 1 vo (Is as_) en∧St H1 w (en:: .blk b1 (RtV.cs ⟨s',l',a,b,c,d,t,n,.slice alg r.length clg,.slice ams (msL m r r.length).length cms,.slice amr ks.length cmr⟩)::σ)) an ?_ ?_ ?_))))))))))
 ·exact .mk ⟨H,_,[],.nul,rfl,HLe.refl _,rfl,fun i hi=>by omega,fun h=>by omega,.nil 1 none,hs.nul⟩
 ·rintro k fr w hk ⟨H1,vo,as_,en,rfl,hle1,hal,has,hsd,hO,hs⟩
  have hx:=j6 (l:=r) hk
  have hxm:=zj m r (k:=r.length) (i:=k) an
  have hdn:=(hrt.leg k hk).1.dense
  obtain ⟨q,hq,hqw⟩:=hB.mark hk
  obtain ⟨ao,lo',co,rfl,hlo⟩:=hO.shape
  refine .block (.aj (.z zm (.ixX (enc:=Lg.c) hs (hr.mono hle1) rfl rfl aF aQ hx da ?_)));intro b16 o16 hc16
  refine .q hs (cj (vs:=(Lg.c (lg0 r k))) rfl gC aQ hc16) (.o (.alloc hs dB rfl fun b6 w hs=>?_))
  refine .z zg (.o (.aP (vs:=(lg0 r k).c) hs rfl rfl aQ fun w hs=>?_))
  change St _ _ (.blk b6 (lgC (lg0 r k))::_) at hs
  refine .nil (.cut (fun fs w=>∃H2 lo hi e b7,ke fs ⟨60,[],[(8,I e),(7,Pt b7),(6,Pt b6),(5,I (k:Int)),(4,.slice ao lo' co),(1,Pt b1),(11,.slice alg r.length clg),(13,I (k:Int)),(12,I (r.length:Int))]⟩∧HLe H1 H2∧lS s' q (lg0 r k).dlo (lg0 r k).dhi lo hi e∧St H2 w (.blk b7 [I lo,I hi]:: .blk b6 (lgC (lg0 r k))::en:: .blk b1 (RtV.cs ⟨s',l',a,b,c,d,t,n,.slice alg r.length clg,.slice ams (msL m r r.length).length cms,.slice amr ks.length cmr⟩)::σ)) ?_ ?_)
  ·refine .draw mix rfl hs fun w hs=>?_
   refine .zw 0 rfl (zfa mi) ?_;refine .ys 1 rfl hs [_,_,_,_,_,_,_,_] aN aC ?_;refine .z 2 rfl (zfa ja) ?_;refine .y 3 rfl hs aq ?_;refine .z 4 rfl zm ?_
   refine .ixX (enc:=fun x=>[I x]) (i:=5) hs rfl aD .none (hmr.mono hle1) rfl rfl ae ai (bB (l:=ks) (i:=k) an) rfl ?_;intro b24 o24 hc24;replace hc24:=bL.one hc24
   refine .y 6 rfl hs af ?_;refine .z 7 rfl (zfa fq) ?_;refine .ys 8 rfl hs [_,_] aW au ?_
   refine .e2 (i:=9) (j:=13) aD rfl rfl rfl rfl .none .none hs ?_ ?_
   ·rw [hq]
    refine .call Tryz.call88 rfl (eX (s:=s') hs (g.mono hle1) hok hdn) ?_;rintro _ w ⟨H2,lo,hi,e,hle2,rfl,hS,hs⟩
    refine .go (.zw 10 rfl zm ?_);refine .z 11 rfl zex ?_;refine .z 12 rfl zex ?_
    refine .E 13 hs ?_
    refine .alloc hs bP rfl ?_;intro b7 w hs
    refine .go (.E 14 hs ?_)
    refine .aP (vs:=[_,_]) hs rfl rfl au ?_;intro w hs
    refine .go (.zw 15 rfl zg ?_);refine .D hs ?_
    exact nT ⟨H2,lo,hi,e,b7,aU,hle2,hS,hs.sb⟩
   ·refine .alloc hs bP rfl ?_;intro b7 w hs
    refine .go (.E 9 hs ?_)
    rw [hq]
    refine .call Tryz.call88 rfl (eX (s:=s') hs (g.mono hle1) hok hdn) ?_;rintro _ w ⟨H2,lo,hi,e,hle2,rfl,hS,hs⟩
    refine .go (.zw 10 rfl zm ?_);refine .z 11 rfl zex ?_;refine .z 12 rfl zex ?_
    refine .E 14 hs ?_
    refine .aP (vs:=[_,_]) hs rfl rfl au ?_;intro w hs
    refine .go (.zw 15 rfl zg ?_);refine .D hs ?_
    exact nT ⟨H2,lo,hi,e,b7,aU,hle2,hS,hs.sb⟩
  ·rintro fs w ⟨H2,lo,hi,e,b7,hfs,hle2,hS,hs⟩
   refine WE.sub ?_ hfs
   clear hfs
   have hle02:=hle1.trans hle2
   refine .seq (.aj (.z zm (.zn gE (.dV rfl (fun hc32=>?_) (fun hc32=>?_)))))
   ·refine .aj (.z zm (.z zg (.zn zg (.ret (rT (rB (rT (rB (rT (Fin.gL Tryz.results80 rfl rfl ?_))))))))))
    exact ⟨H2,_,[],_,hle02,rfl,RS.nil H2 1 none 0,by rcases hS.err hok hqw with h|h;exact (hc32 h.1).elim;rw [h.1];exact .fls hB h.2.1,hs.out⟩
   ·refine .skip (nT (.aj (.zn zg (.cut (fun fs w=>∃x,ke fs ⟨60,[],[(9,I x),(4,.slice ao lo' co),(1,Pt b1),(11,.slice alg r.length clg),(13,I (k:Int)),(12,I (r.length:Int))]⟩∧x=yH (lI m r k) lo hi∧St H2 w (.blk b7 [I lo,I hi]:: .blk b6 (lgC (lg0 r k))::en:: .blk b1 (RtV.cs ⟨s',l',a,b,c,d,t,n,.slice alg r.length clg,.slice ams (msL m r r.length).length cms,.slice amr ks.length cmr⟩)::σ)) ?_ ?_))))
    ·refine .block (.seq (.draw mix rfl hs fun w hs=>?_))
     refine .zw 0 rfl (zfa mh) ?_;refine .y 1 rfl hs Tryz.isAgg80 ?_;refine .z 2 rfl zm ?_
     refine .ixX (enc:=Rng.c) (i:=3) hs rfl aD .none (RS.mono hms hle02) rfl rfl ek au hxm rfl ?_;intro b38 o38 hc38
     refine .zw 4 rfl (zfa cf) (.r (i:=5) hs rfl aD .none (aJ rfl af (hc38.get 1 rfl)) ?_)
     refine .zw 6 rfl (zfa bG) ?_;refine .y 7 rfl hs af ?_;refine .z 8 rfl nF ?_;refine .z 9 rfl zg ?_;refine .D hs ?_
     refine (.bA rfl (fun hc34=>?_) (fun hc34=>?_))
     ·refine .region (.zn zg (nB (nT ?_)))
      exact ⟨_,aU,by unfold yH;simp [*],hs⟩
     ·refine .seq (.draw mix rfl hs fun w hs=>?_)
      refine .zw 0 rfl (zfa mh) ?_;refine .y 1 rfl hs Tryz.isAgg80 ?_;refine .z 2 rfl zm ?_
      refine .ixX (enc:=Rng.c) (i:=3) hs rfl aD .none (RS.mono hms hle02) rfl rfl ek au hxm rfl ?_;intro b48 o48 hc48
      refine .zw 4 rfl (zfa bG) (.r (i:=5) hs rfl aD .none (aJ rfl af (hc48.get 0 rfl)) ?_)
      refine .zw 6 rfl (zfa cf) ?_;refine .y 7 rfl hs af ?_;refine .z 8 rfl km ?_;refine .z 9 rfl zg ?_;refine .D hs ?_
      refine (.bA rfl (fun hc44=>?_) (fun hc44=>?_))
      ·refine .region (.zn zg (nB (nT ?_)))
       exact ⟨_,aU,by unfold yH;simp [*],hs⟩
      ·refine .skip (nB (nT ?_))
       exact ⟨_,aU,by unfold yH;simp [*],hs⟩
    ·rintro fs w ⟨x,hfs,hx9,hs⟩
     refine WE.sub ?_ hfs
     clear hfs
     refine .region (.z zm (.z zm (.o (.buildSlice (cells:=Is [x]) hs db rfl aD fun b56 w hs=>?_))))
     refine .o (.append (ys:=Is [x]) hs cM rfl rfl hO (.own .here rfl rfl) (iL _) (fun l h=>by simp [Is] at h;omega) ?_);intro v57 en57 w hO2 hs
     rw [←List.map_append] at hO2
     refine .zn zg (nB (nT ?_))
     obtain rfl:e=0:=by omega
     exact .mk ⟨H2,_,as_++[x],_,rfl,hle02,by simp [hal],fun i hi=>by
      by_cases e:i=k
      ·subst e;exact ⟨_,_,by rw [hq,Int.toNat_natCast];exact hS,by rw [ld,if_neg an,if_pos an];exact hx9⟩
      ·rw [ld,if_pos an];exact has i an,fun _=>(hS.err hok hqw).elim (fun h=>h.2) (fun h=>by omega),hO2,hs.sb⟩
 ·rintro fr w ⟨H1,vo,as_,en,rfl,hle1,hal,has,hsd,hO,hs⟩
  obtain ⟨H4,hle4,hRk,hs⟩:=hO.dS an hs .here
  refine nT (.aj (.z zm (.z zg (.zn zg (.ret (Fin.gL Tryz.results80 rfl rfl ?_))))))
  exact ⟨H4,_,_,_,hle1.trans hle4,rfl,hRk,.ok hB (hsd an) hal has,hs.out⟩
theorem pz{s:Srv}{l:Lns}{r:List Lg}{m:Rng}{a b c d vt vs vlg:Value}(hs:St H w σ)(g:SvM H s a b c d)(gl:LnM H l vt vs)(gr_:RLg H vlg r):
  Cl Tryz.prog 79 [svA s a b c d,lnA l vt vs,.agg #[vlg],.agg #[I m.lo,I m.hi]] w fun u w'=>∃(H1:cD) (z:RtV) (ks:List Int) (e:Int),HLe H H1∧u= .tuple #[z.agg,I e]∧z.cs.all Value.oneCell'=true∧ta s l r m ks e∧(e=0→RtM H1 s l r m ks z)∧St H1 w' σ:=by
 refine (wZ hs g gl gr_).mono ?_
 rintro u w' ⟨H1,z,ks,e,hle,hu,ho,hB,h0,hs⟩
 exact ⟨H1,z,ks,e,hle,hu,ho,hB,fun he=>by
  obtain ⟨vms,vmk,rfl,h1,h2⟩:=h0 he
  subst he
  exact ⟨rfl,rfl,g.mono hle,gl.mono hle,gr_.mono hle,h1,h2,ho,hB⟩,hs⟩
theorem nu{s:Srv}{l:Lns}{r:List Lg}{m:Rng}{a b c d vt vs vlg:Value}(hs:St H w σ)(g:SvM H s a b c d)(gl:LnM H l vt vs)(gr_:RLg H vlg r):
  Cl Tryz.prog 24 [svA s a b c d,lnA l vt vs,.agg #[vlg],.agg #[I m.lo,I m.hi]] w fun u w'=>∃H1 v as_ e,HLe H H1∧u= .tuple #[v,I e]∧RI H1 v as_∧Ff s l r m as_ e∧St H1 w' σ:=by
 refine Cl.o Tryz.func24 Tryz.ntmps24 ag4 ?_
 refine .aj (.bx hs fun b4 w hs=>?_)
 refine .bx hs fun b5 w hs=>?_
 refine .bx hs fun b6 w hs=>?_
 refine .bx hs fun b7 w hs=>?_
 refine .z zg (.zn zg (.aj (.y hs (zls [_,_,_,_,_,_,_,_] aN aC) (.y hs (zls [_,_,_,_] bw aV) (.y hs (zls [_] cA bp) (.y hs (zls [_,_] aW au) (.o (.call Tryz.call79 rfl (pz (s:=s) (l:=l) (m:=m) hs g gl gr_) ?_))))))));rintro _ w ⟨H1,z,ks,e,hle1,rfl,ho,hB,h0,hs⟩
 refine .z zm (.z zex (.z zex (.o (.alloc hs lZ rfl fun b10 w hs=>?_))))
 refine .o (.aP (vs:=z.cs) hs rfl rfl dv ?_ (hv:=ho));intro w hs
 refine .zn zg (.seq (.aj (.z zm (.zn gE (.dV rfl (fun hc21=>?_) (fun hc21=>?_))))))
 ·refine .aj (.z zm (.z zg (.zn zg (.ret (rT (Fin.gL Tryz.results24 rfl rfl ?_))))))
  exact ⟨H1,_,[],_,hle1,rfl,RS.nil H1 1 none 0,.bad hB hc21,hs.out⟩
 ·refine .skip (nT (.aj (.y hs (zls [_,_,_,_,_,_,_,_,_,_,_,_,_,_,_] nW dv) ?_)))
  obtain rfl:e=0:=by omega
  refine .o (.call Tryz.call80 rfl (tL hs (h0 rfl)) ?_);rintro _ w ⟨H2,v,as_,e,hle2,rfl,hR,hA,hs⟩
  refine .z zex (.z zex (.z zg (.zn zg (.ret (Fin.gL Tryz.results24 rfl rfl ?_)))))
  exact ⟨H2,_,_,_,hle1.trans hle2,rfl,hR,hA,hs.out⟩
theorem u4{v:Value}{as_:List Int}(hs:St H w σ)(hr:RI H v as_):Cl Tryz.prog 86 [v] w fun u w'=>u=I (Az as_)∧St H w' σ:=by
 obtain ⟨a,c,rfl⟩:=RI.shape hr
 have hl:=(RI.len hr).2.2
 refine Cl.o Tryz.func86 Tryz.ntmps86 ag1 ?_
 refine .aj (.zn zg (.aj (.zn zg (.seq (.aj (.z zm (.z (dc ae) (.zn zm (.for (N:=as_.length) (J:=fun k fr w=>fr=[(3,I (if (2:Int)∈as_.take k then 2 else 1)),(6,.slice a as_.length c)]∧(∀i<k,gi as_ i≠0)∧St H w σ) an ?_ ?_ ?_)))))))))
 ·exact .mk ⟨rfl,fun i hi=>by omega,hs⟩
 ·rintro k fr w hk ⟨rfl,hno,hs⟩
  have ht:=dP (bB hk)
  refine .block (.aj (.ixY hs hr rfl rfl ae ai (bB (l:=as_) (i:=k) an) da ?_));intro b10 o10 hc10
  refine .q hs (aJ rfl af hc10) (.zn zg (.aj (.zn zm (.block (.aj (.z fm (.zn zg (.bA rfl (fun hc13=>?_) (fun hc13=>?_)))))))))
  ·refine .aj (.zn zg (.ret (rB (rB (rT (rB (rT (Fin.bE Tryz.results86 rfl ?_))))))))
   exact ⟨by unfold Az;rw [if_pos (by rw [←hc13];exact List.mem_of_getElem? (bB hk))],hs⟩
  ·refine .aj (.z fm (.zn zg (.bA rfl (fun hc15=>?_) (fun hc15=>?_))))
   ·refine .region (.zn zg (nB (nB (nT ?_))))
    exact .mk ⟨by rw [ht,if_pos (List.mem_append.2 (.inr (by rw [hc15];exact .head _)))],fun i hi=>by
     by_cases e:i=k
     ·subst e;exact hc13
     ·exact hno i an,hs⟩
   ·refine .skip (nB (nB (nT ?_)))
    have e2:(if (2:Int)∈as_.take (k+1) then (2:Int) else 1)=if (2:Int)∈as_.take k then 2 else 1:=by
     have e:(2:Int)∈as_.take (k+1)↔(2:Int)∈as_.take k:=by
      rw [ht,List.mem_append]
      exact ⟨fun h=>h.elim id fun h=>by rw [List.mem_singleton] at h;exact (hc15 h.symm).elim,.inl⟩
     simp only [e]
    exact .mk ⟨by rw [e2],fun i hi=>by
     by_cases e:i=k
     ·subst e;exact hc13
     ·exact hno i an,hs⟩
 ·rintro fr w ⟨rfl,hno,hs⟩
  rw [List.take_length]
  refine nT (.aj (.z zm (.zn zg (.ret (Fin.bE Tryz.results86 rfl ?_)))))
  have h0:¬(0:Int)∈as_:=fun h=>by
   obtain ⟨i,hi⟩:=List.getElem?_of_mem h
   have hlt:=(List.getElem?_eq_some_iff.1 hi).1
   rw [bB hlt] at hi
   exact hno i hlt (Option.some.inj hi)
  exact ⟨by unfold Az;rw [if_neg h0],hs⟩
theorem me{s:Srv}{l:Lns}{r:List Lg}{m:Rng}{a b c d vt vs vlg:Value}(hs:St H w σ)(g:SvM H s a b c d)(gl:LnM H l vt vs)(gr_:RLg H vlg r):
  Cl Tryz.prog 26 [svA s a b c d,lnA l vt vs,.agg #[vlg],.agg #[I m.lo,I m.hi]] w fun u w'=>∃H1 n e,HLe H H1∧u= .tuple #[I n,I e]∧GQ s l r m n e∧St H1 w' σ:=by
 refine Cl.o Tryz.func26 Tryz.ntmps26 ag4 ?_
 refine .aj (.bx hs fun b4 w hs=>?_)
 refine .bx hs fun b5 w hs=>?_
 refine .bx hs fun b6 w hs=>?_
 refine .bx hs fun b7 w hs=>?_
 refine .z zg (.zn zg (.aj (.y hs (zls [_,_,_,_,_,_,_,_] aN aC) (.y hs (zls [_,_,_,_] bw aV) (.y hs (zls [_] cA bp) (.y hs (zls [_,_] aW au) (.o (.call Tryz.call24 rfl (nu (s:=s) (l:=l) (m:=m) hs g gl gr_) ?_))))))));rintro _ w ⟨H1,v,as_,e,hle1,rfl,hR,hA,hs⟩
 refine .z zm (.z zex (.z zex (.z zg (.zn zg (.seq (.aj (.z zm (.zn gE (.dV rfl (fun hc21=>?_) (fun hc21=>?_))))))))))
 ·refine .aj (.z zm (.z zg (.zn zg (.ret (rT (Fin.gL Tryz.results26 rfl rfl ?_))))))
  exact ⟨H1,_,_,hle1,rfl,.bad hA hc21,hs.out⟩
 ·refine .skip (nT (.aj (.z zm ?_)))
  obtain rfl:e=0:=by omega
  refine .o (.call Tryz.call86 rfl (u4 hs hR) ?_);rintro _ w ⟨rfl,hs⟩
  refine .z zg (.zn zg (.ret (Fin.gL Tryz.results26 rfl rfl ?_)))
  exact ⟨H1,_,_,hle1,rfl,.ok hA,hs.out⟩
set_option maxHeartbeats 1000000 in
theorem qH{s:Srv}{l:Lns}{r:List Lg}{a b c d vt vs vlg:Value}(hs:St H w σ)(g:SvM H s a b c d)(gl:LnM H l vt vs)(gr_:RLg H vlg r):
  Cl Tryz.prog 28 [svA s a b c d,lnA l vt vs,.agg #[vlg]] w fun u w'=>∃H1 n e,HLe H H1∧u= .tuple #[I n,I e]∧xW s l r n e∧St H1 w' σ:=by
 refine Cl.o Tryz.func28 Tryz.ntmps28 ag3 ?_
 refine .aj (.bx hs fun b3 w hs=>?_)
 refine .bx hs fun b4 w hs=>?_
 refine .bx hs fun b5 w hs=>?_
 refine .z zg (.zn zg (.aj (.y hs (zls [_,_,_,_,_,_,_,_] aN aC) (.y hs (zls [_,_,_,_] bw aV) (.y hs (zls [_] cA bp) (.z (zbd [I 0,I 0] bU) (.o (.call Tryz.call79 rfl (pz (s:=s) (l:=l) (m:=⟨0,0⟩) hs g gl gr_) ?_))))))));rintro _ w ⟨H1,z,ks,e,hle1,rfl,ho,hB,h0,hs⟩
 refine .z zm (.z zex (.z zex (.o (.alloc hs lZ rfl fun b8 w hs=>?_))))
 refine .o (.aP (vs:=z.cs) hs rfl rfl dv ?_ (hv:=ho));intro w hs
 refine .zn zg (.seq (.aj (.z zm (.zn gE (.dV rfl (fun hc25=>?_) (fun hc25=>?_))))))
 ·refine .aj (.z zm (.z zg (.zn zg (.ret (rT (Fin.gL Tryz.results28 rfl rfl ?_))))))
  exact ⟨H1,_,_,hle1,rfl,.bad hB hc25,hs.out⟩
 ·refine .skip (nT (.aj (.z zg (.zn zg (.seq (.aj ?_))))))
  obtain rfl:e=0:=by omega
  obtain ⟨s',l',a',b',c',d',t',n',lg',ms',mr'⟩:=z
  obtain ⟨rfl,rfl,-,-,hr',hms,hmr,hone,-⟩:=h0 rfl
  dsimp only at hr' hms hmr
  obtain ⟨alg,clg,rfl⟩:=hr'.shape
  obtain ⟨amr,cmr,rfl⟩:=RI.shape hmr
  obtain ⟨hok,hl,hrt,hm,hkl,hlow⟩:=hB.ok'
  have hn:=hrt.many
  refine .z (zfa j9) (.y hs (zld cu) (.z (dc aF) (.zn zm (.for (N:=r.length) (J:=fun k fr w=>∃H2 dd best,fr=[(10,I best),(11,I (bj (fun i=>(lg0 r i).blo) k)),(28,.slice alg r.length clg),(8,Pt b8),(3,Pt b3)]∧HLe H1 H2∧(∀i<k,∃hi,lS s' (gi ks i).toNat (lg0 r i).dlo (lg0 r i).dhi (dd i) hi 0)∧IA dd (fun i=>(lg0 r i).blo) k best∧((-300000000≤best∧best≤1000000000000)∧0≤bj (fun i=>(lg0 r i).blo) k∧bj (fun i=>(lg0 r i).blo) k≤k*1000000000000)∧(0<k→s'.sys.Sound)∧St H2 w (.blk b8 (RtV.cs ⟨s',l',a',b',c',d',t',n',.slice alg r.length clg,ms',.slice amr ks.length cmr⟩):: .blk b3 (svC s' a b c d)::σ)) an ?_ ?_ ?_))))
  ·exact .mk ⟨H1,fun _=>0,1000000000000,rfl,HLe.refl _,fun i hi=>by omega,.inl ⟨fun i hi=>by omega,rfl⟩,by simp [bj],fun h=>by omega,hs.sb⟩
  ·rintro k fr w hk ⟨H2,dd,best,rfl,hle2,hds,hSI,hbd,hsd,hs⟩
   have hx:=j6 (l:=r) hk
   have hdn:=(hrt.leg k hk).1.dense
   have hbn:=(hrt.leg k hk).1.burn
   unfold iy at hbn
   obtain ⟨q,hq,hqw⟩:=hB.mark hk
   have hsS:bj (fun i=>(lg0 r i).blo) (k+1)=bj (fun i=>(lg0 r i).blo) k+(lg0 r k).blo:=rfl
   generalize hSe:bj (fun i=>(lg0 r i).blo) k=S at*
   refine .block (.aj (.z zm (.ixX (enc:=Lg.c) hs (hr'.mono hle2) rfl rfl aF aQ hx da ?_)));intro b33 o33 hc33
   refine .q hs (cj (vs:=(Lg.c (lg0 r k))) rfl gC aQ hc33) (.o (.alloc hs dB rfl fun b13 w hs=>?_))
   refine .z zg (.o (.aP (vs:=(lg0 r k).c) hs rfl rfl aQ fun w hs=>?_))
   change St _ _ (.blk b13 (lgC (lg0 r k))::_) at hs
   refine .nil (.cut (fun fs w=>∃H3 lo hi e b14,ke fs ⟨68,[],[(15,I e),(14,Pt b14),(13,Pt b13),(10,I best),(11,I S),(28,.slice alg r.length clg),(8,Pt b8),(3,Pt b3),(30,I (k:Int)),(29,I (r.length:Int))]⟩∧HLe H2 H3∧lS s' q (lg0 r k).dlo (lg0 r k).dhi lo hi e∧St H3 w (.blk b14 [I lo,I hi]:: .blk b13 (lgC (lg0 r k)):: .blk b8 (RtV.cs ⟨s',l',a',b',c',d',t',n',.slice alg r.length clg,ms',.slice amr ks.length cmr⟩):: .blk b3 (svC s' a b c d)::σ)) ?_ ?_)
   ·refine .draw mix rfl hs fun w hs=>?_
    refine .ys 0 rfl hs [_,_,_,_,_,_,_,_] aN aC ?_;refine .z 1 rfl (zfa ja) ?_;refine .y 2 rfl hs aq ?_;refine .z 3 rfl zm ?_
    refine .ixX (enc:=fun x=>[I x]) (i:=4) hs rfl aD .none (RS.mono hmr hle2) rfl rfl ae ai (bB (l:=ks) (i:=k) an) rfl ?_;intro b40 o40 hc40;replace hc40:=bL.one hc40
    refine .y 5 rfl hs af ?_;refine .z 6 rfl (zfa fq) ?_;refine .ys 7 rfl hs [_,_] aW au ?_
    refine .e2 (i:=8) (j:=12) aD rfl rfl rfl rfl .none .none hs ?_ ?_
    ·rw [hq]
     refine .call Tryz.call88 rfl (eX (s:=s') hs (g.mono (hle1.trans hle2)) hok hdn) ?_;rintro _ w ⟨H3,lo,hi,e,hle3,rfl,hS,hs⟩
     refine .go (.zw 9 rfl zm ?_);refine .z 10 rfl zex ?_;refine .z 11 rfl zex ?_
     refine .E 12 hs ?_
     refine .alloc hs bP rfl ?_;intro b14 w hs
     refine .go (.E 13 hs ?_)
     refine .aP (vs:=[_,_]) hs rfl rfl au ?_;intro w hs
     refine .go (.zw 14 rfl zg ?_);refine .D hs ?_
     exact nT ⟨H3,lo,hi,e,b14,aU,hle3,hS,hs.sb⟩
    ·refine .alloc hs bP rfl ?_;intro b14 w hs
     refine .go (.E 8 hs ?_)
     rw [hq]
     refine .call Tryz.call88 rfl (eX (s:=s') hs (g.mono (hle1.trans hle2)) hok hdn) ?_;rintro _ w ⟨H3,lo,hi,e,hle3,rfl,hS,hs⟩
     refine .go (.zw 9 rfl zm ?_);refine .z 10 rfl zex ?_;refine .z 11 rfl zex ?_
     refine .E 13 hs ?_
     refine .aP (vs:=[_,_]) hs rfl rfl au ?_;intro w hs
     refine .go (.zw 14 rfl zg ?_);refine .D hs ?_
     exact nT ⟨H3,lo,hi,e,b14,aU,hle3,hS,hs.sb⟩
   ·rintro fs w ⟨H3,lo,hi,e,b14,hfs,hle3,hS,hs⟩
    refine WE.sub ?_ hfs
    clear hfs
    have hle03:=hle1.trans (hle2.trans hle3)
    have hSb:=hS.bd hdn
    refine .seq (.aj (.z zm (.zn gE (.dV rfl (fun hc48=>?_) (fun hc48=>?_)))))
    ·refine .aj (.z zm (.z zg (.zn zg (.ret (rT (rB (rT (rB (rT (Fin.gL Tryz.results28 rfl rfl ?_))))))))))
     exact ⟨H3,_,_,hle03,rfl,by rcases hS.err hok hqw with h|h;exact (hc48 h.1).elim;rw [h.1];exact .fls hB h.2.1,hs.out⟩
    ·refine .skip (nT (.seq (.aj (.z (zfa bG) ?_))))
     obtain rfl:e=0:=by omega
     have hnx:∀i<k+1,∃hi,lS s' (gi ks i).toNat (lg0 r i).dlo (lg0 r i).dhi (Fm dd k lo i) hi 0:=fun i hi=>by
      by_cases e:i=k
      ·subst e;rw [tn,hq,Int.toNat_natCast];exact ⟨_,hS⟩
      ·rw [tm _ _ an];exact hds i an
     have hsd':s'.sys.Sound:=(hS.err hok hqw).elim (fun h=>h.2) (fun h=>by omega)
     refine .y hs (zld af) (.zn fM (.bA rfl (fun hc52=>?_) (fun hc52=>?_)))
     ·refine .region (.zn zg (nT (.aj (.z zm (.z (zfa bG) (.y hs (zld af) (.z zm (.z cK (.z zR (.zn zg (.region (.z zm (.z (zfa fp) (.z (zfa bG) (.y hs (zld af) (.z cK (.zn zg (nB (nT ?_)))))))))))))))))))
      exact .mk ⟨H3,Fm dd k lo,min (-1) (lo+S),by rw [hsS],hle2.trans hle3,hnx,.neg hc52,an,fun _=>hsd',hs.sb⟩
     ·refine .skip (nT (.aj (.z zm (.z (zfa bG) (.y hs (zld af) (.z zm (.z cK (.z zR (.zn zg (.region (.z zm (.z (zfa fp) (.z (zfa bG) (.y hs (zld af) (.z cK (.zn zg (nB (nT ?_))))))))))))))))))
      exact .mk ⟨H3,Fm dd k lo,min best (lo+S),by rw [hsS],hle2.trans hle3,hnx,by rw [←hSe];exact hSI.pos an,an,fun _=>hsd',hs.sb⟩
  ·rintro fr w ⟨H2,dd,best,rfl,hle2,hds,hSI,hbd,hsd,hs⟩
   refine nT (.seq (.aj (.z zm (.zn fM (.bA rfl (fun hc66=>?_) (fun hc66=>?_))))))
   ·refine .aj (.z zg (.zn zg (.ret (rT (Fin.gL Tryz.results28 rfl rfl ?_)))))
    rcases hSI with ⟨h1,h2⟩|⟨⟨i,h1,h3⟩,h2⟩
    ·exfalso
     have key:∀n,n≤r.length→0≤tr dd (fun i=>(lg0 r i).blo) n:=fun n=>by
      induction n with
      |zero=>intro _;simp [tr]
      |succ n ih=>
       intro hn
       have:=ih an
       have:=h1 n an
       have:0≤bj (fun i=>(lg0 r i).blo) n:=dm fun i hi=>(hrt.leg i an).1.burn.1
       simp only [tr];omega
     have:=key _ (Nat.le_refl _)
     omega
    ·obtain ⟨hi,hS⟩:=hds i h1
     exact ⟨H2,_,_,hle1.trans hle2,rfl,.none hB (hsd an) h1 hS h3,hs.out⟩
   ·refine .skip (nT (.aj (.z zm (.z zg (.zn zg (.ret (Fin.gL Tryz.results28 rfl rfl ?_)))))))
    rcases hSI with ⟨h1,h2⟩|⟨_,h2⟩
    ·rw [h2]
     exact ⟨H2,_,_,hle1.trans hle2,rfl,.ok hB (hsd an) fun i hi=>⟨hds i hi,h1 i hi⟩,hs.out⟩
    ·omega
set_option maxHeartbeats 1000000 in
theorem ql{s:Srv}{l:Lns}{r:List Lg}{m:Rng}{x:Wit}{a b c d vt vs vlg vh:Value}(hs:St H w σ)(g:SvM H s a b c d)(gl:LnM H l vt vs)(gr_:RLg H vlg r)(gh:RT H vh x.rows):
  Cl Tryz.prog 32 [svA s a b c d,lnA l vt vs,.agg #[vlg],.agg #[I m.lo,I m.hi],.agg #[I x.leg,I x.dense,I x.uv,vh]] w fun u w'=>∃H1 e,HLe H H1∧u=I e∧Hl s l r m x e∧St H1 w' σ:=by
 refine Cl.o Tryz.func32 Tryz.ntmps32 ag5 ?_
 refine .aj (.bx hs fun b5 w hs=>?_)
 refine .bx hs fun b6 w hs=>?_
 refine .bx hs fun b7 w hs=>?_
 refine .bx hs fun b8 w hs=>?_
 refine .bx hs fun b9 w hs=>?_
 refine .zn zg (.aj (.y hs (zls [_,_,_,_,_,_,_,_] aN aC) (.y hs (zls [_,_,_,_] bw aV) (.y hs (zls [_] cA bp) (.y hs (zls [_,_] aW au) (.o (.call Tryz.call79 rfl (pz (s:=s) (l:=l) (m:=m) hs g gl gr_) ?_)))))));rintro _ w ⟨H1,z,ks,e,hle1,rfl,ho,hB,h0,hs⟩
 refine .z zm (.z zex (.z zex (.o (.alloc hs lZ rfl fun b11 w hs=>?_))))
 refine .o (.aP (vs:=z.cs) hs rfl rfl dv ?_ (hv:=ho));intro w hs
 refine .zn zg (.seq (.aj (.z zm (.zn gE (.dV rfl (fun hc26=>?_) (fun hc26=>?_))))))
 ·refine .aj (.z zm (.zn zg (.ret (rT (Fin.bE qB rfl ?_)))))
  exact ⟨H1,_,hle1,rfl,.bad hB hc26,hs.out⟩
 ·refine .skip (nT (.seq (.aj ?_)))
  obtain rfl:e=0:=by omega
  obtain ⟨s',l',a',b',c',d',t',n',lg',ms',mr'⟩:=z
  obtain ⟨rfl,rfl,g',-,hr',hms,hmr,hone,-⟩:=h0 rfl
  dsimp only at g' hr' hms hmr
  obtain ⟨alg,clg,rfl⟩:=hr'.shape
  obtain ⟨ams,cms,rfl⟩:=hms.shape
  obtain ⟨amr,cmr,rfl⟩:=RI.shape hmr
  obtain ⟨hok,hl,hrt,hm,hkl,hlow⟩:=hB.ok'
  have hn:=hrt.many
  have hml:=kB m r r.length
  replace gh:=gh.mono hle1
  refine .z (zfa jG) (.y hs (zld af) (.z (zfa j9) (.y hs (zld cu) (.z (dc aF) (.z fY (.o (.call eS rfl (cI hs) ?_)))))));rintro _ w ⟨rfl,hs⟩
  refine .z fZ (.z zm (.bif (t':=36) rfl (fun hb36=>?_) (fun hb36=>?_)))
  ·refine .Fs 5 8 false (.zn zpT (.cT (.aj (.zn zg (.ret (rT (Fin.bE qB rfl ?_)))))))
   exact ⟨H1,_,hle1,rfl,.no hB (fun h=>by have:=h.leg;simp_all),hs.out⟩
  ·refine .T (.y hs (zls [_,_,_,_,_,_,_,_] aN aC) (.T (.z (zfa ot) (.T (.y hs (zls [_] Tryz.isAgg64 AZ) (.T (.o (.call Tryz.call65 rfl (oL (s:=s') (rows:=x.rows) hs (g.mono hle1).st (g.mono hle1).wa (g.mono hle1).rd (g.mono hle1).cm gh) ?_))))))));rintro _ w ⟨H2,e,hle2,rfl,hCh,hs⟩
   have hle02:=hle1.trans hle2
   refine .T (.z gE (.zn zpF (.dV rfl (fun hc42=>?_) (fun hc42=>?_))))
   ·refine .aj (.zn zg (.ret (rT (Fin.bE qB rfl ?_))))
    exact ⟨H2,_,hle02,rfl,.no hB (fun h=>hc42 (hCh.uniq h.hull)),hs.out⟩
   ·refine .skip (nT (.cut (fun fs w=>∃b13 b14,ke fs ⟨101,[],[(14,Pt b14),(13,Pt b13),(11,Pt b11),(9,Pt b9)]⟩∧St H2 w (.blk b14 (lI m r x.leg.toNat).c:: .blk b13 (lg0 r x.leg.toNat).c:: .blk b11 (RtV.cs ⟨s',l',a',b',c',d',t',n',.slice alg r.length clg,.slice ams (msL m r r.length).length cms,.slice amr ks.length cmr⟩):: .blk b9 [I x.leg,I x.dense,I x.uv,vh]::σ)) ?_ ?_))
    ·refine .draw mix rfl hs fun w hs=>?_
     have hleg:0≤x.leg∧x.leg≤(r.length:Int) - 1:=by simpa using hb36
     obtain rfl:e=0:=by omega
     have hlt:x.leg.toNat<r.length:=by omega
     have hxl:=j6 (l:=r) hlt
     have hxm:=zj m r (k:=r.length) (i:=x.leg.toNat) an
     refine .zw 0 rfl (zfa j9) ?_;refine .y 1 rfl hs cu ?_;refine .z 2 rfl (zfa jG) ?_;refine .y 3 rfl hs af ?_
     refine .ixX (enc:=Lg.c) (i:=4) hs rfl aD .none (RS.mono hr' hle2) rfl rfl aF aQ hxl an ?_;intro b47 o47 hc47
     refine .r (i:=5) hs rfl aD .none (cj (vs:=(lg0 r x.leg.toNat).c) rfl gC aQ hc47) ?_
     refine .zw 6 rfl (zfa mh) ?_;refine .y 7 rfl hs Tryz.isAgg80 ?_;refine .z 8 rfl (zfa jG) ?_;refine .y 9 rfl hs af ?_
     refine .ixX (enc:=Rng.c) (i:=10) hs rfl aD .none (RS.mono hms hle2) rfl rfl ek au hxm an ?_;intro b53 o53 hc53
     refine .r (i:=11) hs rfl aD .none (cj (vs:=(lI m r x.leg.toNat).c) rfl aW au hc53) ?_
     refine .e2 (i:=12) (j:=13) aD rfl rfl rfl rfl .none .none hs ?_ ?_
     ·refine .alloc hs dB rfl ?_;intro b13 w hs
      refine .go (.E 13 hs ?_)
      refine .alloc hs bP rfl ?_;intro b14 w hs
      refine .go (.E 14 hs ?_)
      refine .aP (vs:=(lg0 r x.leg.toNat).c) hs rfl rfl aQ ?_;intro w hs
      refine .go (.E 15 hs ?_)
      refine .aP (vs:=(lI m r x.leg.toNat).c) hs rfl rfl au ?_;intro w hs
      refine .go (.D hs ?_)
      exact nT ⟨b13,b14,aU,hs.sb⟩
     ·refine .alloc hs bP rfl ?_;intro b14 w hs
      refine .go (.E 12 hs ?_)
      refine .alloc hs dB rfl ?_;intro b13 w hs
      refine .go (.E 14 hs ?_)
      refine .aP (vs:=(lg0 r x.leg.toNat).c) hs rfl rfl aQ ?_;intro w hs
      refine .go (.E 15 hs ?_)
      refine .aP (vs:=(lI m r x.leg.toNat).c) hs rfl rfl au ?_;intro w hs
      refine .go (.D hs ?_)
      exact nT ⟨b13,b14,aU,hs.sb⟩
    ·rintro fs w ⟨b13,b14,hfs,hs⟩
     refine WE.sub ?_ hfs
     clear hfs
     have hleg:0≤x.leg∧x.leg≤(r.length:Int) - 1:=by simpa using hb36
     obtain rfl:e=0:=by omega
     have hlt:x.leg.toNat<r.length:=by omega
     obtain ⟨q,hq,hqw⟩:=hB.mark hlt
     have hdn:=(hrt.leg _ hlt).1.dense
     unfold gD at hdn
     change St _ _ (.blk b14 [I (lI m r x.leg.toNat).lo,I (lI m r x.leg.toNat).hi]:: .blk b13 (lgC (lg0 r x.leg.toNat))::_) at hs
     refine .seq (.aj (.z (zfa ow) (.y hs (zld af) (.z (zfa fq) (.z (zfa bG) (.y hs (zld af) (.z (zfa fq) (.z (zfa cf) (.y hs (zld af) (.o (.call eS rfl (cI hs) ?_)))))))))));rintro _ w ⟨rfl,hs⟩
     refine .z fZ (.z zm (.bif (t':=65) rfl (fun hb65=>?_) (fun hb65=>?_)))
     ·refine .Fs 8 10 false (.zn zpT (.cT (.aj (.zn zg (.ret (rT (Fin.bE qB rfl ?_)))))))
      exact ⟨H2,_,hle02,rfl,.no hB (fun h=>by have:=h.dense;simp_all),hs.out⟩
     ·refine .T ?_
      refine .z (zfa ou) (.T (.y hs (zld af) (.T (.z (zfa bG) (.T (.y hs (zld af) (.T (.z (zfa cf) (.T (.y hs (zld af) (.T (.o (.call eS rfl (cI hs) ?_)))))))))))));rintro _ w ⟨rfl,hs⟩
      refine .T (.z fZ (.zn zpF (.cond rfl (fun hc74=>?_) (fun hc74=>?_))))
      ·refine .aj (.zn zg (.ret (rT (Fin.bE qB rfl ?_))))
       exact ⟨H2,_,hle02,rfl,.no hB (fun h=>by have:=h.uv;simp_all),hs.out⟩
      ·refine .skip (nT (.aj (.zn zg (.cut (fun fs w=>∃n H3,ke fs ⟨101,[],[(15,I n),(9,Pt b9)]⟩∧HLe H H3∧HlR s' x.rows q n∧(-7000000000≤n∧n≤7000000000)∧St H3 w (.blk b9 [I x.leg,I x.dense,I x.uv,vh]::σ)) ?_ ?_))))
       ·refine .aj (.z (zfa ja) (.y hs (zld aq) (.z (zfa jG) (.y hs (zld af) (.ixX (enc:=fun x=>[I x]) hs (RS.mono hmr hle2) rfl rfl ae ai (bB (l:=ks) (i:=x.leg.toNat) an) an ?_)))));intro b79 o79 hc79;replace hc79:=bL.one hc79
        rw [hq] at hc79
        refine .y hs (zld af) (.zn zg (.aj (.z zm (.zn km (.bA rfl (fun hc82=>?_) (fun hc82=>?_))))))
        ·refine .draw mix rfl hs fun w hs=>?_
         refine .zw 0 rfl (zfa mi) ?_;refine .z 1 rfl (zfa bn) ?_;refine .ys 2 rfl hs [_,_,_,_,_,_] bg aM ?_;refine .z 3 rfl (zfa ot) ?_;refine .ys 4 rfl hs [_] Tryz.isAgg64 AZ ?_;refine .z 5 rfl zm ?_
         refine .E 6 hs ?_
         refine .call Tryz.call98 rfl (mM hs) ?_;rintro _ w ⟨rfl,hs⟩
         refine .go (.E 7 hs ?_)
         refine .call Tryz.call64 rfl (sh (s:=s'.sp) (rows:=x.rows) (q:=⟨1,0,q⟩) hs (g'.mono hle2).st (g'.mono hle2).wa (gh.mono hle2)) ?_;rintro _ w ⟨H3,n,f,hle3,rfl,hV,hs⟩
         refine .go (.zw 8 rfl zm ?_);refine .z 9 rfl zex ?_;refine .z 10 rfl zex ?_;refine .z 11 rfl zg ?_;refine .D hs ?_
         refine nT ?_
         obtain rfl:f=0:=by
          have hhl:=hCh.Jf
          cases hV with
          |space h=>exact (h hok.early.1).elim
          |hull _ h=>exact (h hhl).elim
          |what _ _ h=>exact (h (D0 (v:=s') an hqw)).elim
          |ok=>rfl
         exact ⟨n,H3,aU,hle02.trans hle3,.up an hV,hV.bd rfl,hs.sb⟩
        ·refine .skip (nT ?_)
         exact ⟨0,H2,aU,hle02,.zero an,an,hs.sb⟩
       ·rintro fs w ⟨n,H3,hfs,hle03,hHl,hnb,hs⟩
        refine WE.sub ?_ hfs
        clear hfs
        have hdw:(lg0 r x.leg.toNat).dlo≤x.dense∧x.dense≤(lg0 r x.leg.toNat).dhi:=by simpa using hb65
        have hmw:(lI m r x.leg.toNat).lo≤x.uv∧x.uv≤(lI m r x.leg.toNat).hi:=by simpa using hc74
        refine .seq (.seq (.draw mix rfl hs fun w hs=>?_))
        refine .zw 0 rfl (zfa ou) ?_;refine .y 1 rfl hs af ?_;refine .z 2 rfl zm ?_;refine .z 3 rfl (zfa ow) ?_;refine .y 4 rfl hs af ?_
        refine .E 5 hs ?_
        refine .call Tryz.call99 rfl (iC hs an an) ?_;rintro _ w ⟨rfl,hs⟩
        refine .go (.zw 6 rfl nF ?_);refine .D hs ?_
        refine (.bA rfl (fun hc100=>?_) (fun hc100=>?_))
        ·refine .aj (.zn zg (.ret (rT (Fin.bE qB rfl ?_))))
         exact ⟨H3,_,hle03,rfl,.no hB (fun h=>by
          obtain ⟨n',g1,g2⟩:=h.sinks
          rw [hq,Int.toNat_natCast] at g1
          rw [←hHl.uniq g1] at g2;omega),hs.out⟩
        ·refine .skip (nT (.aj (.zn zg (.ret (Fin.bE qB rfl ?_)))))
         exact ⟨H3,_,hle03,rfl,.ok hB ⟨hleg,hCh,hdw,hmw,n,by rw [hq,Int.toNat_natCast];exact hHl,an⟩,hs.out⟩
theorem sA(hs:St H w σ):
  Cl Tryz.prog 71 [] w fun u w'=>∃H1 a b c d vt vs vlg,HLe H H1∧u= .tuple #[.agg #[I 1,I 1,a,b,I 100,I 200,c,d],.agg #[I 1000,I 1200,vt,vs],.agg #[vlg]]∧SvM H1 exV a b c d∧LnM H1 qJ vt vs∧RLg H1 vlg nC∧St H1 w' σ:=by
 refine Cl.of Tryz.func71 rfl Tryz.ntmps71 cq (zK) (.aj (.o (.alloc hs eG rfl fun b0 w hs=>?_)))
 refine .o (.alloc hs jk rfl fun b1 w hs=>?_)
 refine .o (.alloc hs ki rfl fun b2 w hs=>?_)
 refine .nil (.aj (.o (.buildSlice (cells:=Is [0,1000]) hs kV rfl aD fun b8 w hs=>?_)))
 refine .o (.buildSlice (cells:=Is [0,1000]) hs kV rfl aD fun b9 w hs=>?_)
 refine .z (zbd [_,_] uA) (.z (zbd [_,_,_,_,_,_] sW) (.o (.alloc hs kh rfl fun b3 w hs=>?_)))
 refine .o (.aP (vs:=[_,_,_,_,_,_]) hs rfl rfl aM fun w hs=>?_)
 refine .nil (.aj (.y hs (zls [_,_,_,_,_,_] bg aM) (.z (zbd [_,_,_,_,_,_,_] jh) (.z (zbd [_,_,_,_,_,_,_] jh) (.z (zbd [_,_,_,_,_,_,_] jh) (.z (zbd [_,_,_,_,_,_,_] jh) (.o (.buildSlice (cells:=(rdc Iy).flatten) hs qv rfl aD fun b17 w hs=>?_))))))))
 refine .z (zbd [_,_,_,_,_,_] pR) (.o (.buildSlice (cells:=(cmc exV.cs).flatten) hs lJ rfl aD fun b19 w hs=>?_))
 refine .z (zbd (vs:=[(0,.agg #[I 1,I 1,.slice (some ⟨b8,0,none⟩) 2 2,.slice (some ⟨b9,0,none⟩) 2 2,I 100,I 200]),(1,.slice (some ⟨b17,0,none⟩) 4 4),(2,.slice (some ⟨b19,0,none⟩) 1 1)]) [I 1,I 1,.slice (some ⟨b8,0,none⟩) 2 2,.slice (some ⟨b9,0,none⟩) 2 2,I 100,I 200,.slice (some ⟨b17,0,none⟩) 4 4,.slice (some ⟨b19,0,none⟩) 1 1] qM rfl aD) (.o (.alloc hs eG rfl fun b4 w hs=>?_))
 refine .o (.aP (vs:=[_,_,_,_,_,_,_,_]) hs rfl rfl aC fun w hs=>?_)
 refine .nil (.aj (.z (zbd [_,_] ik) (.z (zbd [_,_] ik) (.o (.buildSlice (cells:=(fbc qJ.table).flatten) hs oR rfl aD fun b23 w hs=>?_)))))
 refine .z (zbd [_,_,_,_] qN) (.o (.buildSlice (cells:=(snc qJ.seasons).flatten) hs mm rfl aD fun b25 w hs=>?_))
 refine .z (zbd (vs:=[(0,I 1000),(1,I 1200),(2,.slice (some ⟨b23,0,none⟩) 2 2),(3,.slice (some ⟨b25,0,none⟩) 1 1)]) [I 1000,I 1200,.slice (some ⟨b23,0,none⟩) 2 2,.slice (some ⟨b25,0,none⟩) 1 1] sX rfl aD) (.o (.alloc hs jk rfl fun b5 w hs=>?_))
 refine .o (.aP (vs:=[_,_,_,_]) hs rfl rfl aV fun w hs=>?_)
 refine .nil (.aj (.z (zbd [_,_] bU) (.o (.alloc hs bP rfl fun b6 w hs=>?_))))
 refine .o (.aP (vs:=[_,_]) hs rfl rfl au fun w hs=>?_)
 refine .nil (.aj (.z (zbd [_,_] bU) (.o (.alloc hs bP rfl fun b7 w hs=>?_))))
 refine .o (.aP (vs:=[_,_]) hs rfl rfl au fun w hs=>?_)
 refine .nil (.cut (fun fs w=>∃b37,ke fs ⟨39,[],[(2,Pt b2),(1,Pt b1),(0,Pt b0)]⟩∧St H w (.blk b2 [.slice (some ⟨b37,0,none⟩) 2 2]:: .blk b1 [I 1000,I 1200,.slice (some ⟨b23,0,none⟩) 2 2,.slice (some ⟨b25,0,none⟩) 1 1]:: .blk b0 [I 1,I 1,.slice (some ⟨b8,0,none⟩) 2 2,.slice (some ⟨b9,0,none⟩) 2 2,I 100,I 200,.slice (some ⟨b17,0,none⟩) 4 4,.slice (some ⟨b19,0,none⟩) 1 1]:: .blk b37 (lgc nC).flatten:: .blk b25 (snc qJ.seasons).flatten:: .blk b23 (fbc qJ.table).flatten:: .blk b19 (cmc exV.cs).flatten:: .blk b17 (rdc Iy).flatten:: .blk b9 (Is [0,1000]):: .blk b8 (Is [0,1000])::σ)) ?_ ?_)
 ·refine .draw mix rfl hs fun w hs=>?_
  refine .ys 0 rfl hs [_,_,_,_,_,_,_,_] aN aC ?_;refine .ys 1 rfl hs [_,_,_,_] bw aV ?_;refine .ys 2 rfl hs [_,_] aW au ?_;refine .ys 3 rfl hs [_,_] aW au ?_;refine .z 4 rfl (zbd (lg0 nC 0).c mn rfl aD) ?_;refine .ys 5 rfl hs [_,_] aW au ?_;refine .ys 6 rfl hs [_,_] aW au ?_;refine .z 7 rfl (zbd (lg0 nC 1).c mn rfl aD) ?_
  refine .e2 (i:=8) (j:=10) aD rfl rfl rfl rfl .none .none hs ?_ ?_
  ·refine .buildSlice (cells:=(lgc nC).flatten) hs lx rfl aD ?_;intro b37 w hs
   refine .go (.zw 9 rfl (zbd [_] nP) (.E 10 hs ?_))
   refine .aP (vs:=[_,_,_,_,_,_,_,_]) hs rfl rfl aC ?_;intro w hs
   refine .go (.E 11 hs ?_)
   refine .aP (vs:=[_,_,_,_]) hs rfl rfl aV ?_;intro w hs
   refine .go (.E 12 hs ?_)
   refine .aP (vs:=[_]) hs rfl rfl bp ?_;intro w hs
   refine .go (.D hs ?_)
   exact nT ⟨b37,aU,hs.sb⟩
  ·refine .aP (vs:=[_,_,_,_,_,_,_,_]) hs rfl rfl aC ?_;intro w hs
   refine .go (.e2 (i:=8) (j:=11) aD rfl rfl rfl rfl .none .none hs ?_ ?_)
   ·refine .buildSlice (cells:=(lgc nC).flatten) hs lx rfl aD ?_;intro b37 w hs
    refine .go (.zw 9 rfl (zbd [_] nP) (.E 11 hs ?_))
    refine .aP (vs:=[_,_,_,_]) hs rfl rfl aV ?_;intro w hs
    refine .go (.E 12 hs ?_)
    refine .aP (vs:=[_]) hs rfl rfl bp ?_;intro w hs
    refine .go (.D hs ?_)
    exact nT ⟨b37,aU,hs.sb⟩
   ·refine .aP (vs:=[_,_,_,_]) hs rfl rfl aV ?_;intro w hs
    refine .go (.E 8 hs ?_)
    refine .buildSlice (cells:=(lgc nC).flatten) hs lx rfl aD ?_;intro b37 w hs
    refine .go (.zw 9 rfl (zbd [_] nP) (.E 12 hs ?_))
    refine .aP (vs:=[_]) hs rfl rfl bp ?_;intro w hs
    refine .go (.D hs ?_)
    exact nT ⟨b37,aU,hs.sb⟩
 ·rintro fs w ⟨b37,hfs,hs⟩
  refine WE.sub ?_ hfs
  clear hfs
  refine .ret ?_
  obtain ⟨H1,g1,r1,hs⟩:=cZ.dS (xs:=[0,1000]) (v:= .slice (some ⟨b8,0,none⟩) 2 2) (.full rfl) cq hs dn
  obtain ⟨H2,g2,r2,hs⟩:=cZ.dS (xs:=[0,1000]) (v:= .slice (some ⟨b9,0,none⟩) 2 2) (.full rfl) cq hs dn
  obtain ⟨H3,g3,r3,hs⟩:=cZ.di (m:=7) (cs:=rdc Iy) (v:= .slice (some ⟨b17,0,none⟩) 4 4) (.full aD) (kz _) an dY hs dn
  obtain ⟨H4,g4,r4,hs⟩:=cZ.di (m:=6) (cs:=cmc exV.cs) (v:= .slice (some ⟨b19,0,none⟩) 1 1) (.full aD) (tU _) an dY hs dn
  obtain ⟨H5,g5,r5,hs⟩:=cZ.di (m:=2) (cs:=fbc qJ.table) (v:= .slice (some ⟨b23,0,none⟩) 2 2) (.full aD) (Gw _) an dY hs dn
  obtain ⟨H6,g6,r6,hs⟩:=cZ.di (m:=4) (cs:=snc qJ.seasons) (v:= .slice (some ⟨b25,0,none⟩) 1 1) (.full aD) (Ab _) an dY hs dn
  obtain ⟨H7,g7,r7,hs⟩:=cZ.di (m:=7) (cs:=lgc nC) (v:= .slice (some ⟨b37,0,none⟩) 2 2) (.full aD) (Bq _) an dY hs dn
  have k6:=g6.trans g7
  have k5:=g5.trans k6
  have k4:=g4.trans k5
  have k3:=g3.trans k4
  have k2:=g2.trans k3
  exact Fin.iM [] [] hs fun w hs=>⟨_,results3 Tryz.results71 (dy (vs:=[I 1,I 1,.slice (some ⟨b8,0,none⟩) 2 2,.slice (some ⟨b9,0,none⟩) 2 2,I 100,I 200,.slice (some ⟨b17,0,none⟩) 4 4,.slice (some ⟨b19,0,none⟩) 1 1]) hs rfl aN aC) (dy (vs:=[I 1000,I 1200,.slice (some ⟨b23,0,none⟩) 2 2,.slice (some ⟨b25,0,none⟩) 1 1]) hs rfl bw aV) (dy (vs:=[.slice (some ⟨b37,0,none⟩) 2 2]) hs rfl cA bp),H7,_,_,_,_,_,_,_,g1.trans k2,rfl,⟨r1.mono k2,r2.mono k3,r3.mono k4,r4.mono k5⟩,⟨r5.mono k6,r6.mono g7⟩,r7,hs.out⟩
set_option maxRecDepth 100000 in
theorem CM:Tryz.prog.stoodInHeld 42=false:=by kernel_rfl
set_option maxRecDepth 100000 in
theorem CN:Tryz.prog.eqGuardType Tryz.prog.depth 42=false:=by kernel_rfl
set_option maxHeartbeats 4000000 in
theorem w8(hs:St H w σ):
  Cl Tryz.prog 18 [] w fun u w'=>u= .bool true∧∃H1,HLe H H1∧St H1 w' σ:=by
 refine Cl.of Tryz.func18 rfl Tryz.ntmps18 cq (zK) (.aj (.zn zg (.aj (.o (.call Tryz.call71 rfl (sA hs) ?_)))));rintro _ w ⟨H1,a,b,c,d,vt,vs,vlg,hle1,rfl,g,gl,gr_,hs⟩
 obtain ⟨aa,ca,rfl⟩:=RI.shape g.st
 obtain ⟨ab,cb,rfl⟩:=RI.shape g.wa
 obtain ⟨ac,cc,rfl⟩:=RRd.shape g.rd
 obtain ⟨ad,cd,rfl⟩:=RCm.shape g.cm
 obtain ⟨at_,ct,rfl⟩:=gl.tb.shape
 obtain ⟨as_,cs,rfl⟩:=gl.sn.shape
 obtain ⟨ar,cr,rfl⟩:=gr_.shape
 refine .z zm (.z zex (.z zex (.z zex (.o (.alloc hs eG rfl fun b1 w hs=>?_)))))
 refine .o (.alloc hs jk rfl fun b2 w hs=>?_)
 refine .o (.alloc hs ki rfl fun b3 w hs=>?_)
 refine .o (.aP (vs:=[_,_,_,_,_,_,_,_]) hs rfl rfl aC fun w hs=>?_)
 refine .o (.aP (vs:=[_,_,_,_]) hs rfl rfl aV fun w hs=>?_)
 refine .o (.aP (vs:=[_]) hs rfl rfl bp fun w hs=>?_)
 refine .nil (.aj (.y hs (zls [_,_,_,_] bw aV) (.o (.call Tryz.call37 rfl (rh (l:=qJ) hs gl.tb gl.sn) ?_))));rintro _ w ⟨n,e,rfl,hF,hs⟩
 obtain ⟨rfl,rfl⟩:=EO hF
 refine .z zm (.z zex (.z zex (.z zg (.zn zg (.aj (.y hs (zls [_,_,_,_] bw aV) (.o (.call Tryz.call41 rfl (u6 (l:=qJ) hs gl.tb gl.sn) ?_))))))));rintro _ w ⟨n,e,rfl,hF,hs⟩
 obtain ⟨rfl,rfl⟩:=BA hF
 refine .z zm (.z zex (.z zex (.z zg (.zn zg (.aj (.y hs (zls [_,_,_,_,_,_,_,_] aN aC) (.z (zbd [I 1000,I 1025] bU) (.o (.call Tryz.call58 rfl (oM (s:=exV) hs g) ?_)))))))));rintro _ w ⟨H2,lo,hi,e,hle2,rfl,hD,hs⟩
 obtain ⟨rfl,rfl,rfl,hL⟩:=EP hD
 replace g:=g.mono hle2
 replace gl:=gl.mono hle2
 replace gr_:=gr_.mono hle2
 refine .z zm (.z zex (.z zex (.o (.alloc hs bP rfl fun b8 w hs=>?_))))
 refine .o (.aP (vs:=[_,_]) hs rfl rfl au fun w hs=>?_)
 refine .zn zg (.aj (.y hs (zls [_,_,_,_,_,_,_,_] aN aC) (.y hs (zls [_,_,_,_] bw aV) (.y hs (zls [_] cA bp) (.z (zbd [I 150,I 160] bU) (.o (.call Tryz.call26 rfl (me (s:=exV) (l:=qJ) (r:=nC) (m:=⟨150,160⟩) hs g gl gr_) ?_)))))));rintro _ w ⟨H3,n,e,hle3,rfl,hJ,hs⟩
 obtain ⟨rfl,rfl⟩:=yE hL dY hJ
 rw [show Az [yH (lI ⟨150,160⟩ nC 0) 190 404,yH (lI ⟨150,160⟩ nC 1) 190 404]=1 by decide]
 replace g:=g.mono hle3
 replace gl:=gl.mono hle3
 replace gr_:=gr_.mono hle3
 refine .z zm (.z zex (.z zex (.z zg (.zn zg (.aj (.y hs (zls [_,_,_,_,_,_,_,_] aN aC) (.y hs (zls [_,_,_,_] bw aV) (.y hs (zls [_] cA bp) (.z (zbd [I 180,I 200] bU) (.o (.call Tryz.call26 rfl (me (s:=exV) (l:=qJ) (r:=nC) (m:=⟨180,200⟩) hs g gl gr_) ?_)))))))))));rintro _ w ⟨H4,n,e,hle4,rfl,hJ,hs⟩
 obtain ⟨rfl,rfl⟩:=yE hL dY hJ
 rw [show Az [yH (lI ⟨180,200⟩ nC 0) 190 404,yH (lI ⟨180,200⟩ nC 1) 190 404]=2 by decide]
 replace g:=g.mono hle4
 replace gl:=gl.mono hle4
 replace gr_:=gr_.mono hle4
 refine .z zm (.z zex (.z zex (.z zg (.zn zg (.aj (.y hs (zls [_,_,_,_,_,_,_,_] aN aC) (.y hs (zls [_,_,_,_] bw aV) (.y hs (zls [_] cA bp) (.o (.call Tryz.call28 rfl (qH (s:=exV) (l:=qJ) (r:=nC) hs g gl gr_) ?_))))))))));rintro _ w ⟨H5,n,e,hle5,rfl,hS,hs⟩
 obtain ⟨rfl,rfl⟩:=EN hL hS
 replace g:=g.mono hle5
 replace gl:=gl.mono hle5
 replace gr_:=gr_.mono hle5
 have hle05:=hle1.trans (hle2.trans (hle3.trans (hle4.trans hle5)))
 refine .z zm (.z zex (.z zex (.z zg (.zn zg (.aj (.o (.buildSlice (cells:=Is [75,175]) hs kV rfl aD fun b61 w hs=>?_)))))))
 refine .o (.buildSlice (cells:=Is [0,130]) hs kV rfl aD fun b62 w hs=>?_)
 refine .o (.buildSlice (cells:=[.slice (some ⟨b61,0,none⟩) 2 2,.slice (some ⟨b62,0,none⟩) 2 2]) hs xS rfl aD fun b63 w hs=>?_)
 refine .z (zbd [_] AR) ?_
 obtain ⟨H6,g6,r6,hs⟩:=cZ.dS (xs:=[75,175]) (v:= .slice (some ⟨b61,0,none⟩) 2 2) (.full rfl) cq hs dn
 obtain ⟨H7,g7,r7,hs⟩:=cZ.dS (xs:=[0,130]) (v:= .slice (some ⟨b62,0,none⟩) 2 2) (.full rfl) cq hs dn
 have hRL:RLs H7 [.slice (some ⟨b61,0,none⟩) 2 2,.slice (some ⟨b62,0,none⟩) 2 2] Iz:=((RLs.nil H7).snoc (r6.mono g7)).snoc r7
 obtain ⟨H8,g8,hRT,hs⟩:=hRL.di (v:= .slice (some ⟨b63,0,none⟩) 2 2) (en:= .blk b63 [.slice (some ⟨b61,0,none⟩) 2 2,.slice (some ⟨b62,0,none⟩) 2 2]) (.full rfl) cq hs dn
 have hle8:=g6.trans (g7.trans g8)
 replace g:=g.mono hle8
 replace gl:=gl.mono hle8
 replace gr_:=gr_.mono hle8
 refine .z (zbd [_,_,_,_] xn) (.o (.alloc hs Tryz.zeroValue66 rfl fun b16 w hs=>?_))
 refine .o (.aP (vs:=[_,_,_,_]) hs rfl rfl Tryz.sizeOf66 fun w hs=>?_)
 refine .nil (.aj (.z zm (.z fm (.z zm (.gX (t':=68) rfl (fun hb68=>?_) (fun hb68=>?_))))))
 ·refine .T (.z zm (.T (.z fm (.z zpT (.z zm (.gX (t':=72) rfl (fun hb72=>?_) (fun hb72=>?_)))))))
  ·refine .T (.z zm (.T (.z fm (.z zpT (.z zm (.gX (t':=76) rfl (fun hb76=>?_) (fun hb76=>?_)))))))
   ·refine .T (.z zm (.T (.z fm (.z zpT (.z zm (.gX (t':=80) rfl (fun hb80=>?_) (fun hb80=>?_)))))))
    ·refine .T (.z zm (.T (.z fm (.z zpT (.z zm (.gX (t':=84) rfl (fun hb84=>?_) (fun hb84=>?_)))))))
     ·refine .T (.y hs (zls [_,_] aW au) (.T (.z (zbd [_,_] bU) (.T ?_))))
      refine .q hs (Aj CM CN GX (fun f hf=>by
       simp only [List.mem_cons,List.not_mem_nil,or_false] at hf
       rcases hf with rfl|rfl<;>exact ⟨by decide,bM,af⟩) rfl rfl) ?_
      refine .z zpT (.z zm (.bif (t':=89) rfl (fun hb89=>?_) (fun hb89=>?_)))
      ·refine .T (.z zm (.T (.z fm (.z zpT (.z zm (.gX (t':=93) rfl (fun hb93=>?_) (fun hb93=>?_)))))))
       ·refine .T (.z zm (.T (.z fm (.z zpT (.z zm (.gX (t':=97) rfl (fun hb97=>?_) (fun hb97=>?_)))))))
        ·refine .T (.z zm (.T (.z fm (.z zpT (.z zm (.gX (t':=101) rfl (fun hb101=>?_) (fun hb101=>?_)))))))
         ·refine .T (.z zm (.T (.z fm (.z zpT (.z zm (.gX (t':=105) rfl (fun hb105=>?_) (fun hb105=>?_)))))))
          ·refine .T (.z zm (.T (.z fm (.z zpT (.z zm (.gX (t':=109) rfl (fun hb109=>?_) (fun hb109=>?_)))))))
           ·refine .T (.z zm (.T (.z fm (.z zpT (.z zm (.gX (t':=113) rfl (fun hb113=>?_) (fun hb113=>?_)))))))
            ·refine .T (.y hs (zls [_,_,_,_,_,_,_,_] aN aC) (.T (.y hs (zls [_,_,_,_] bw aV) (.T (.y hs (zls [_] cA bp) (.T (.z (zbd [I 180,I 200] bU) (.T (.y hs (zls [_,_,_,_] Tryz.isAgg66 Tryz.sizeOf66) (.T (.o (.call Tryz.call32 rfl (ql (s:=exV) (l:=qJ) (r:=nC) (m:=⟨180,200⟩) (x:=⟨0,1000,200,Iz⟩) hs g gl gr_ hRT) ?_))))))))))));rintro _ w ⟨H9,e,hle9,rfl,hW,hs⟩
             obtain rfl:=Gx hW
             have hleF:=(hle05.trans hle8).trans hle9
             refine .T (.z fm (.z zpT (.zn zg (.ret (Fin.bE fF rfl ?_)))))
             first
             |exact ⟨rfl,H9,hleF,hs.out⟩
             |contradiction
             |(exfalso;simp_all;done)
            ·refine .Fs 7 47 true (.z zpF (.zn zg (.ret (Fin.bE fF rfl ?_))))
             first
             |exact ⟨rfl,H9,hleF,hs.out⟩
             |contradiction
             |(exfalso;simp_all;done)
           ·refine .Fs 2 43 true (.z zpF (.z zm (.Fs 7 47 true (.z zpF (.zn zg (.ret (Fin.bE fF rfl ?_)))))))
            first
            |exact ⟨rfl,H9,hleF,hs.out⟩
            |contradiction
            |(exfalso;simp_all;done)
          ·refine .Fs 2 39 true (.z zpF (.z zm (.Fs 2 43 true (.z zpF (.z zm (.Fs 7 47 true (.z zpF (.zn zg (.ret (Fin.bE fF rfl ?_))))))))))
           first
           |exact ⟨rfl,H9,hleF,hs.out⟩
           |contradiction
           |(exfalso;simp_all;done)
         ·refine .Fs 2 35 true (.z zpF (.z zm (.Fs 2 39 true (.z zpF (.z zm (.Fs 2 43 true (.z zpF (.z zm (.Fs 7 47 true (.z zpF (.zn zg (.ret (Fin.bE fF rfl ?_)))))))))))))
          first
          |exact ⟨rfl,H9,hleF,hs.out⟩
          |contradiction
          |(exfalso;simp_all;done)
        ·refine .Fs 2 31 true (.z zpF (.z zm (.Fs 2 35 true (.z zpF (.z zm (.Fs 2 39 true (.z zpF (.z zm (.Fs 2 43 true (.z zpF (.z zm (.Fs 7 47 true (.z zpF (.zn zg (.ret (Fin.bE fF rfl ?_))))))))))))))))
         first
         |exact ⟨rfl,H9,hleF,hs.out⟩
         |contradiction
         |(exfalso;simp_all;done)
       ·refine .Fs 2 27 true (.z zpF (.z zm (.Fs 2 31 true (.z zpF (.z zm (.Fs 2 35 true (.z zpF (.z zm (.Fs 2 39 true (.z zpF (.z zm (.Fs 2 43 true (.z zpF (.z zm (.Fs 7 47 true (.z zpF (.zn zg (.ret (Fin.bE fF rfl ?_)))))))))))))))))))
        first
        |exact ⟨rfl,H9,hleF,hs.out⟩
        |contradiction
        |(exfalso;simp_all;done)
      ·refine .Fs 2 23 true (.z zpF (.z zm ?_))
       refine .Fs 2 27 true (.z zpF (.z zm (.Fs 2 31 true (.z zpF (.z zm (.Fs 2 35 true (.z zpF (.z zm (.Fs 2 39 true (.z zpF (.z zm (.Fs 2 43 true (.z zpF (.z zm (.Fs 7 47 true (.z zpF (.zn zg (.ret (Fin.bE fF rfl ?_)))))))))))))))))))
       first
       |exact ⟨rfl,H9,hleF,hs.out⟩
       |contradiction
       |(exfalso;simp_all;done)
     ·refine .Fs 3 18 true (.z zpF (.z zm (.Fs 2 23 true (.z zpF (.z zm ?_)))))
      refine .Fs 2 27 true (.z zpF (.z zm (.Fs 2 31 true (.z zpF (.z zm (.Fs 2 35 true (.z zpF (.z zm (.Fs 2 39 true (.z zpF (.z zm (.Fs 2 43 true (.z zpF (.z zm (.Fs 7 47 true (.z zpF (.zn zg (.ret (Fin.bE fF rfl ?_)))))))))))))))))))
      first
      |exact ⟨rfl,H9,hleF,hs.out⟩
      |contradiction
      |(exfalso;simp_all;done)
    ·refine .Fs 2 14 true (.z zpF (.z zm (.Fs 3 18 true (.z zpF (.z zm (.Fs 2 23 true (.z zpF (.z zm ?_))))))))
     refine .Fs 2 27 true (.z zpF (.z zm (.Fs 2 31 true (.z zpF (.z zm (.Fs 2 35 true (.z zpF (.z zm (.Fs 2 39 true (.z zpF (.z zm (.Fs 2 43 true (.z zpF (.z zm (.Fs 7 47 true (.z zpF (.zn zg (.ret (Fin.bE fF rfl ?_)))))))))))))))))))
     first
     |exact ⟨rfl,H9,hleF,hs.out⟩
     |contradiction
     |(exfalso;simp_all;done)
   ·refine .Fs 2 10 true (.z zpF (.z zm (.Fs 2 14 true (.z zpF (.z zm (.Fs 3 18 true (.z zpF (.z zm (.Fs 2 23 true (.z zpF (.z zm ?_)))))))))))
    refine .Fs 2 27 true (.z zpF (.z zm (.Fs 2 31 true (.z zpF (.z zm (.Fs 2 35 true (.z zpF (.z zm (.Fs 2 39 true (.z zpF (.z zm (.Fs 2 43 true (.z zpF (.z zm (.Fs 7 47 true (.z zpF (.zn zg (.ret (Fin.bE fF rfl ?_)))))))))))))))))))
    first
    |exact ⟨rfl,H9,hleF,hs.out⟩
    |contradiction
    |(exfalso;simp_all;done)
  ·refine .Fs 2 6 true (.z zpF (.z zm (.Fs 2 10 true (.z zpF (.z zm (.Fs 2 14 true (.z zpF (.z zm (.Fs 3 18 true (.z zpF (.z zm (.Fs 2 23 true (.z zpF (.z zm ?_))))))))))))))
   refine .Fs 2 27 true (.z zpF (.z zm (.Fs 2 31 true (.z zpF (.z zm (.Fs 2 35 true (.z zpF (.z zm (.Fs 2 39 true (.z zpF (.z zm (.Fs 2 43 true (.z zpF (.z zm (.Fs 7 47 true (.z zpF (.zn zg (.ret (Fin.bE fF rfl ?_)))))))))))))))))))
   first
   |exact ⟨rfl,H9,hleF,hs.out⟩
   |contradiction
   |(exfalso;simp_all;done)
 ·refine .Fs 2 2 true (.z zpF (.z zm (.Fs 2 6 true (.z zpF (.z zm (.Fs 2 10 true (.z zpF (.z zm (.Fs 2 14 true (.z zpF (.z zm (.Fs 3 18 true (.z zpF (.z zm (.Fs 2 23 true (.z zpF (.z zm ?_)))))))))))))))))
  refine .Fs 2 27 true (.z zpF (.z zm (.Fs 2 31 true (.z zpF (.z zm (.Fs 2 35 true (.z zpF (.z zm (.Fs 2 39 true (.z zpF (.z zm (.Fs 2 43 true (.z zpF (.z zm (.Fs 7 47 true (.z zpF (.zn zg (.ret (Fin.bE fF rfl ?_)))))))))))))))))))
  first
  |exact ⟨rfl,H9,hleF,hs.out⟩
  |contradiction
  |(exfalso;simp_all;done)
theorem dR{a0 a1 a2:Int}(hs:St H w σ):Cl Tryz.prog 74 [I a0,I a1,I a2] w fun v w'=>v= .bool (decide (a1≤a0∧a0≤a2))∧St H w' σ:=by
 refine Cl.o Tryz.func74 Tryz.ntmps74 ag3 ?_
 refine .aj (.zn zg (.aj (.z zm (.z zm (.z uj (.z zm (.gX (t':=10) rfl (fun hb10=>?_) (fun hb10=>?_))))))))
 ·refine .T (.z zm (.T (.z zm (.T (.z nF (.z zpT (.zn zg (.ret (Fin.bE Tryz.results74 rfl ?_)))))))))
  exact ⟨by simp [*],hs.out⟩
 ·refine .Fs 3 3 true (.z zpF (.zn zg (.ret (Fin.bE Tryz.results74 rfl ?_))))
  exact ⟨by simp [*],hs.out⟩
theorem nj{x y:Int}(hs:St H w σ):Cl Tryz.prog 53 [.agg #[I x,I y]] w fun v w'=>v= .bool (decide (iy x y))∧St H w' σ:=by
 refine Cl.o Tryz.func53 Tryz.ntmps53 ag1 ?_
 refine .aj (.bx hs fun b1 w hs=>?_)
 refine .zn zg (.aj (.z (zfa bG) (.y hs (zld af) (.z uj (.z zm (.gX (t':=6) rfl (fun hb6=>?_) (fun hb6=>?_)))))))
 ·refine .T (.z (zfa bG) (.T (.y hs (zld af) (.T (.z (zfa cf) (.T (.y hs (zld af) (.T (.z nF (.z zpT (.z zm (.gX (t':=13) rfl (fun hb13=>?_) (fun hb13=>?_)))))))))))))
  ·refine .T (.z (zfa cf) (.T (.y hs (zld af) (.T (.z nF (.z zpT (.zn zg (.ret (Fin.bE Tryz.results53 rfl ?_)))))))))
   exact ⟨by unfold iy;simp [*],hs.out⟩
  ·refine .Fs 3 10 true (.z zpF (.zn zg (.ret (Fin.bE Tryz.results53 rfl ?_))))
   exact ⟨by unfold iy;simp [*],hs.out⟩
 ·refine .Fs 5 3 true (.z zpF (.z zm (.Fs 3 10 true (.z zpF (.zn zg (.ret (Fin.bE Tryz.results53 rfl ?_)))))))
  exact ⟨by unfold iy;simp [*],hs.out⟩
theorem rV{x y:Int}(hs:St H w σ):Cl Tryz.prog 124 [.agg #[I x,I y]] w fun v w'=>v= .bool (decide (gD x y))∧St H w' σ:=by
 refine Cl.o Tryz.func124 Tryz.ntmps124 ag1 ?_
 refine .aj (.bx hs fun b1 w hs=>?_)
 refine .zn zg (.aj (.z (zfa bG) (.y hs (zld af) (.z uj (.z zm (.gX (t':=6) rfl (fun hb6=>?_) (fun hb6=>?_)))))))
 ·refine .T (.z (zfa bG) (.T (.y hs (zld af) (.T (.z (zfa cf) (.T (.y hs (zld af) (.T (.z nF (.z zpT (.z zm (.gX (t':=13) rfl (fun hb13=>?_) (fun hb13=>?_)))))))))))))
  ·refine .T (.z (zfa cf) (.T (.y hs (zld af) (.T (.z nF (.z zpT (.zn zg (.ret (Fin.bE Tryz.results124 rfl ?_)))))))))
   exact ⟨by unfold gD;simp [*],hs.out⟩
  ·refine .Fs 3 10 true (.z zpF (.zn zg (.ret (Fin.bE Tryz.results124 rfl ?_))))
   exact ⟨by unfold gD;simp [*],hs.out⟩
 ·refine .Fs 5 3 true (.z zpF (.z zm (.Fs 3 10 true (.z zpF (.zn zg (.ret (Fin.bE Tryz.results124 rfl ?_)))))))
  exact ⟨by unfold gD;simp [*],hs.out⟩
theorem uM{x:Lg}(hs:St H w σ):
  Cl Tryz.prog 76 [.agg #[I x.zone,I x.fr,I x.to,I x.dlo,I x.dhi,I x.blo,I x.bhi]] w fun v w'=>∃b:Bool,v= .bool b∧(b=true↔BK x)∧St H w' σ:=by
 refine Cl.o Tryz.func76 Tryz.ntmps76 ag1 ?_
 refine .aj (.bx hs fun b1 w hs=>?_)
 refine .zn zg (.aj (.z (zfa kS) (.y hs (zld af) (.o (.call ir rfl (dR hs) ?_)))));rintro _ w ⟨rfl,hs⟩
 refine .z zm (.bif (t':=6) rfl (fun hb6=>?_) (fun hb6=>?_))
 ·refine .T (.z (zfa fu) (.T (.y hs (zld af) (.T (.z uj (.z zpT (.z zm (.gX (t':=11) rfl (fun hb11=>?_) (fun hb11=>?_)))))))))
  ·refine .T (.z (zfa fu) (.T (.y hs (zld af) (.T (.z (zfa ft) (.T (.y hs (zld af) (.T (.z nF (.z zpT (.z zm (.gX (t':=18) rfl (fun hb18=>?_) (fun hb18=>?_)))))))))))))
   ·refine .T (.z (zfa ft) (.T (.y hs (zld af) (.T (.z nF (.z zpT (.z zm (.gX (t':=23) rfl (fun hb23=>?_) (fun hb23=>?_)))))))))
    ·refine .T (.z (zfa fq) (.T (.y hs (zls [_,_] aW au) (.T (.o (.call Tryz.call124 rfl (rV hs) ?_))))));rintro _ w ⟨rfl,hs⟩
     refine .z zpT (.z zm (.bif (t':=28) rfl (fun hb28=>?_) (fun hb28=>?_)))
     ·refine .T (.z (zfa fp) (.T (.y hs (zls [_,_] aW au) (.T (.o (.call Tryz.call53 rfl (nj hs) ?_))))));rintro _ w ⟨rfl,hs⟩
      refine .z zpT (.zn zg (.ret (Fin.bE yf rfl ?_)))
      first
      |exact ⟨false,rfl,⟨fun h=>(by cases h),fun h=>(by obtain ⟨g1,g2,g3,g4,g5⟩:=h;first|omega|(simp_all;done)|(simp_all;omega))⟩,hs.out⟩
      |exact ⟨_,rfl,⟨fun h=>⟨by simp_all,by simp_all,by simp_all,by simp_all,by simpa using h⟩,fun h=>by simpa using h.burn⟩,hs.out⟩
     ·refine .Fs 3 25 true (.z zpF (.zn zg (.ret (Fin.bE yf rfl ?_))))
      first
      |exact ⟨false,rfl,⟨fun h=>(by cases h),fun h=>(by obtain ⟨g1,g2,g3,g4,g5⟩:=h;first|omega|(simp_all;done)|(simp_all;omega))⟩,hs.out⟩
      |exact ⟨_,rfl,⟨fun h=>⟨by simp_all,by simp_all,by simp_all,by simp_all,by simpa using h⟩,fun h=>by simpa using h.burn⟩,hs.out⟩
    ·refine .Fs 3 20 true (.z zpF (.z zm (.Fs 3 25 true (.z zpF (.zn zg (.ret (Fin.bE yf rfl ?_)))))))
     first
     |exact ⟨false,rfl,⟨fun h=>(by cases h),fun h=>(by obtain ⟨g1,g2,g3,g4,g5⟩:=h;first|omega|(simp_all;done)|(simp_all;omega))⟩,hs.out⟩
     |exact ⟨_,rfl,⟨fun h=>⟨by simp_all,by simp_all,by simp_all,by simp_all,by simpa using h⟩,fun h=>by simpa using h.burn⟩,hs.out⟩
   ·refine .Fs 3 15 true (.z zpF (.z zm (.Fs 3 20 true (.z zpF (.z zm (.Fs 3 25 true (.z zpF (.zn zg (.ret (Fin.bE yf rfl ?_))))))))))
    first
    |exact ⟨false,rfl,⟨fun h=>(by cases h),fun h=>(by obtain ⟨g1,g2,g3,g4,g5⟩:=h;first|omega|(simp_all;done)|(simp_all;omega))⟩,hs.out⟩
    |exact ⟨_,rfl,⟨fun h=>⟨by simp_all,by simp_all,by simp_all,by simp_all,by simpa using h⟩,fun h=>by simpa using h.burn⟩,hs.out⟩
  ·refine .Fs 5 8 true (.z zpF (.z zm (.Fs 3 15 true (.z zpF (.z zm (.Fs 3 20 true (.z zpF (.z zm (.Fs 3 25 true (.z zpF (.zn zg (.ret (Fin.bE yf rfl ?_)))))))))))))
   first
   |exact ⟨false,rfl,⟨fun h=>(by cases h),fun h=>(by obtain ⟨g1,g2,g3,g4,g5⟩:=h;first|omega|(simp_all;done)|(simp_all;omega))⟩,hs.out⟩
   |exact ⟨_,rfl,⟨fun h=>⟨by simp_all,by simp_all,by simp_all,by simp_all,by simpa using h⟩,fun h=>by simpa using h.burn⟩,hs.out⟩
 ·refine .Fs 3 3 true (.z zpF (.z zm (.Fs 5 8 true (.z zpF (.z zm (.Fs 3 15 true (.z zpF (.z zm (.Fs 3 20 true (.z zpF (.z zm (.Fs 3 25 true (.z zpF (.zn zg (.ret (Fin.bE yf rfl ?_))))))))))))))))
  first
  |exact ⟨false,rfl,⟨fun h=>(by cases h),fun h=>(by obtain ⟨g1,g2,g3,g4,g5⟩:=h;first|omega|(simp_all;done)|(simp_all;omega))⟩,hs.out⟩
  |exact ⟨_,rfl,⟨fun h=>⟨by simp_all,by simp_all,by simp_all,by simp_all,by simpa using h⟩,fun h=>by simpa using h.burn⟩,hs.out⟩
set_option maxHeartbeats 1000000 in
theorem iV{l:Lns}{vt vs:Value}(hs:St H w σ)(g:LnM H l vt vs):
  Cl Tryz.prog 20 [lnA l vt vs] w fun u w'=>∃e,u=I e∧Ko l e∧St H w' σ:=by
 obtain ⟨h1,h2⟩:=g
 obtain ⟨at_,ct,rfl⟩:=h1.shape
 obtain ⟨as_,cs,rfl⟩:=h2.shape
 refine Cl.o Tryz.func20 Tryz.ntmps20 ag1 ?_
 refine .aj (.bx hs fun b1 w hs=>?_)
 refine .zn zg (.seq (.aj (.z (zfa eD) (.y hs (zld af) (.o (.call ir rfl (dR hs) ?_))))));rintro _ w ⟨rfl,hs⟩
 refine .z fZ (.z zm (.bif (t':=11) rfl (fun hb11=>?_) (fun hb11=>?_)))
 ·refine .Fs 4 4 false (.z zpT (.z zm (.Fs 5 10 false (.z zpT (.z zm (.Fs 4 17 false (.zn zpT (.cT (.aj (.zn zg (.ret (rT (Fin.bE gy rfl ?_)))))))))))))
  exact ⟨_,rfl,.inr ⟨fun h=>by have:=h.length;simp_all,rfl⟩,hs.out⟩
 ·refine .T (.z (zfa iI) (.T (.y hs (zld af) (.T (.o (.call ir rfl (dR hs) ?_))))));rintro _ w ⟨rfl,hs⟩
  refine .T (.z fZ (.z zpF (.z zm (.bif (t':=17) rfl (fun hb17=>?_) (fun hb17=>?_)))))
  ·refine .Fs 5 10 false (.z zpT (.z zm (.Fs 4 17 false (.zn zpT (.cT (.aj (.zn zg (.ret (rT (Fin.bE gy rfl ?_))))))))))
   exact ⟨_,rfl,.inr ⟨fun h=>by have:=h.depth;simp_all,rfl⟩,hs.out⟩
  ·refine .T (.z (zfa cU) (.T (.y hs (zld ew) (.T (.z (dc a6) (.T (.o (.call ir rfl (dR hs) ?_))))))));rintro _ w ⟨rfl,hs⟩
   refine .T (.z fZ (.z zpF (.z zm (.bif (t':=24) rfl (fun hb24=>?_) (fun hb24=>?_)))))
   ·refine .Fs 4 17 false (.zn zpT (.cT (.aj (.zn zg (.ret (rT (Fin.bE gy rfl ?_)))))))
    exact ⟨_,rfl,.inr ⟨fun h=>by have:=h.many;simp_all;omega,rfl⟩,hs.out⟩
   ·refine .T (.z (zfa de) (.T (.y hs (zld eM) (.T (.z (dc bD) (.T (.z km (.zn zpF (.bA rfl (fun hc29=>?_) (fun hc29=>?_))))))))))
    ·refine .aj (.zn zg (.ret (rT (Fin.bE gy rfl ?_))))
     exact ⟨_,rfl,.inr ⟨fun h=>by have:=h.most;simp_all;omega,rfl⟩,hs.out⟩
    ·refine .skip (nT (.seq (.aj (.zn zg (.block ?_)))))
     have hl20:1≤l.table.length∧l.table.length≤20:=by first|omega|(simp at hb24;omega)
     refine .loop (fun k:Nat=>⟨102,[],[(3,I (k:Int)),(1,Pt b1)]⟩)
      (fun k w=>k≤l.table.length∧(∀j<k,GU l.table j)∧St H w (.blk b1 (lnC l (.slice at_ l.table.length ct) (.slice as_ l.seasons.length cs))::σ)) (fun k=>l.table.length - k) 0 aU
      ⟨Nat.zero_le _,fun j hj=>by omega,hs⟩ ?_
     rintro k w ⟨hk,hno,hs⟩
     refine .seq (.aj (.z zm (.z (zfa cU) (.y hs (zld ew) (.z (dc a6) (.zn fM (.bA rfl (fun hc34=>?_) (fun hc34=>?_))))))))
     ·refine .skip (nT (.seq (.block (.aj (.z (zfa cU) (.y hs (zld ew) (.z zm ?_)))))))
      have hkl:k<l.table.length:=by omega
      have hx:=mW (l:=l.table) hkl
      have hx1:=mW (l:=l.table) (i:=k - 1) an
      refine .ixX (enc:=Fbd.c) hs h1 rfl rfl a6 bK hx da ?_;intro b40 o40 hc40
      refine .q hs (cj (vs:=(Fbd.c (fb0 l.table k))) rfl Tryz.isAgg134 bK hc40) (.o (.alloc hs iA rfl fun b4 w hs=>?_))
      refine .o (.aP (vs:=(fb0 l.table k).c) hs rfl rfl bK fun w hs=>?_)
      change St _ _ (.blk b4 [I (fb0 l.table k).len,I (fb0 l.table k).least]::_) at hs
      refine .nil (.seq (.draw mix rfl hs fun w hs=>?_))
      refine .zw 0 rfl (zfa bY) ?_;refine .y 1 rfl hs af ?_
      refine .E 2 hs ?_
      refine .call ir rfl (dR hs) ?_;rintro _ w ⟨rfl,hs⟩
      refine .go (.zw 3 rfl fZ ?_);refine .z 4 rfl zm ?_
      refine .bif (t':=46) rfl (fun hb46=>?_) (fun hb46=>?_)
      ·refine .F 5 rfl (.F 6 rfl (.F 7 rfl (.F 8 rfl (.zw 9 rfl zpT ?_))));refine .z 10 rfl zm ?_
       refine .F 11 rfl (.F 12 rfl ?_)
       refine .F 13 rfl (.F 14 rfl (.F 15 rfl (.F 16 rfl (.F 17 rfl (.F 18 rfl (.F 19 rfl (.F 20 rfl (.F 21 rfl (.F 22 rfl (.F 23 rfl (.F 24 rfl (.zw 25 rfl zpT ?_))))))))))));refine .D hs ?_
       refine (.cT (.aj (.zn zg (.ret (rB (rT (rT (rB (rT (Fin.bE gy rfl ?_))))))))))
       exact ⟨_,rfl,.inr ⟨fun h=>by have:=(h.table k hkl).len;simp_all,rfl⟩,hs.out⟩
      ·refine .zw 5 rfl (zfa dJ) ?_;refine .y 6 rfl hs af ?_
       refine .E 7 hs ?_
       refine .call ir rfl (dR hs) ?_;rintro _ w ⟨rfl,hs⟩
       refine .go (.zw 8 rfl fZ ?_);refine .z 9 rfl zpF ?_;refine .z 10 rfl zm ?_
       refine .bif (t':=52) rfl (fun hb52=>?_) (fun hb52=>?_)
       ·refine .F 11 rfl (.F 12 rfl ?_)
        refine .F 13 rfl (.F 14 rfl (.F 15 rfl (.F 16 rfl (.F 17 rfl (.F 18 rfl (.F 19 rfl (.F 20 rfl (.F 21 rfl (.F 22 rfl (.F 23 rfl (.F 24 rfl (.zw 25 rfl zpT ?_))))))))))));refine .D hs ?_
        refine (.cT (.aj (.zn zg (.ret (rB (rT (rT (rB (rT (Fin.bE gy rfl ?_))))))))))
        exact ⟨_,rfl,.inr ⟨fun h=>by have:=(h.table k hkl).least;simp_all,rfl⟩,hs.out⟩
       ·refine .zw 11 rfl zm ?_;refine .z 12 rfl km ?_;refine .z 13 rfl zm ?_
        refine .gX (t':=55) rfl (fun hb55=>?_) (fun hb55=>?_)
        ·refine .zw 14 rfl (zfa cU) ?_;refine .y 15 rfl hs ew ?_;refine .z 16 rfl zm ?_;refine .z 17 rfl fY ?_
         refine .ixX (enc:=Fbd.c) (i:=18) hs rfl aD (.some rfl rfl) h1 rfl rfl a6 bK hx1 an ?_;intro b60 o60 hc60
         refine .zw 19 rfl (zfa bY) (.r (i:=20) hs rfl aD (.some rfl rfl) (aJ rfl af (hc60.get 0 rfl)) ?_)
         refine .zw 21 rfl (zfa bY) ?_;refine .y 22 rfl hs af ?_;refine .z 23 rfl uj ?_;refine .z 24 rfl zpT ?_;refine .z 25 rfl zpF ?_;refine .D hs ?_
         refine (.bA rfl (fun hc67=>?_) (fun hc67=>?_))
         ·refine .aj (.zn zg (.ret (rB (rT (rT (rB (rT (Fin.bE gy rfl ?_))))))))
          exact ⟨_,rfl,.inr ⟨fun h=>by have:=(h.table k hkl).rise an;omega,rfl⟩,hs.out⟩
         ·refine .skip (nB (nT (.region (.z zm (.z cK (.zn zg (nT ?_)))))))
          exact ⟨k+1,.cJ rfl cq aU,⟨an,fun j hj=>by
           by_cases e:j=k
           ·subst e;exact ⟨by simp_all,by simp_all,fun _=>by omega⟩
           ·exact hno j an,hs.tail⟩,an⟩
        ·refine .F 14 rfl (.F 15 rfl (.F 16 rfl (.F 17 rfl (.F 18 rfl (.F 19 rfl (.F 20 rfl (.F 21 rfl (.F 22 rfl (.F 23 rfl (.zw 24 rfl zpF ?_))))))))));refine .z 25 rfl zpF ?_;refine .D hs ?_
         refine (.cF (.skip (nB (nT (.region (.z zm (.z cK (.zn zg (nT ?_)))))))))
         exact ⟨k+1,.cJ rfl cq aU,⟨an,fun j hj=>by
          by_cases e:j=k
          ·subst e;exact ⟨by simp_all,by simp_all,fun _=>by omega⟩
          ·exact hno j an,hs.tail⟩,an⟩
     ·refine .exit (xT (xT (xB (nT (.seq (.aj (.zn zg (.block ?_))))))))
      obtain rfl:k=l.table.length:=by omega
      refine .loop (fun k:Nat=>⟨102,[],[(5,I (k:Int)),(1,Pt b1)]⟩)
       (fun k w=>k≤l.seasons.length∧(∀j<k,∀y,l.seasons[j]? =some y→BH y)∧St H w (.blk b1 (lnC l (.slice at_ l.table.length ct) (.slice as_ l.seasons.length cs))::σ)) (fun k=>l.seasons.length - k) 0 aU
       ⟨Nat.zero_le _,fun j hj=>by omega,hs⟩ ?_
      rintro i w ⟨hi,hnos,hs⟩
      refine .seq (.aj (.z zm (.z (zfa de) (.y hs (zld eM) (.z (dc bD) (.zn fM (.bA rfl (fun hc72=>?_) (fun hc72=>?_))))))))
      ·refine .skip (nT (.seq (.block (.aj (.z (zfa de) (.y hs (zld eM) (.z zm ?_)))))))
       obtain ⟨s,hx⟩:=nth (l:=l.seasons) (k:=i) an
       refine .ixX (enc:=Ssn.c) hs h2 rfl rfl bD cP hx da ?_;intro b78 o78 hc78
       refine .q hs (cj (vs:=(Ssn.c s)) rfl IH cP hc78) (.o (.alloc hs qw rfl fun b6 w hs=>?_))
       refine .o (.aP (vs:=s.c) hs rfl rfl cP fun w hs=>?_)
       change St _ _ (.blk b6 [I s.zone,I s.fr,I s.to,I s.extra]::_) at hs
       refine .nil (.aj (.z (zfa jd) (.y hs (zld af) (.o (.call ir rfl (dR hs) ?_)))));rintro _ w ⟨rfl,hs⟩
       refine .z fZ (.z zm (.bif (t':=84) rfl (fun hb84=>?_) (fun hb84=>?_)))
       ·refine .Fs 4 4 false (.z zpT (.z zm (.Fs 4 10 false (.z zpT (.z zm (.Fs 4 16 false (.zn zpT (.cT (.aj (.zn zg (.ret (rB (rT (rT (rB (rT (Fin.bE gy rfl ?_)))))))))))))))))
        exact ⟨_,rfl,.inr ⟨fun h=>by have:=(h.seasons s (List.mem_of_getElem? hx)).zone;simp_all,rfl⟩,hs.out⟩
       ·refine .T (.z (zfa eP) (.T (.y hs (zld af) (.T (.o (.call ir rfl (dR hs) ?_))))));rintro _ w ⟨rfl,hs⟩
        refine .T (.z fZ (.z zpF (.z zm (.bif (t':=90) rfl (fun hb90=>?_) (fun hb90=>?_)))))
        ·refine .Fs 4 10 false (.z zpT (.z zm (.Fs 4 16 false (.zn zpT (.cT (.aj (.zn zg (.ret (rB (rT (rT (rB (rT (Fin.bE gy rfl ?_))))))))))))))
         exact ⟨_,rfl,.inr ⟨fun h=>by have:=(h.seasons s (List.mem_of_getElem? hx)).fr;simp_all,rfl⟩,hs.out⟩
        ·refine .T (.z (zfa eO) (.T (.y hs (zld af) (.T (.o (.call ir rfl (dR hs) ?_))))));rintro _ w ⟨rfl,hs⟩
         refine .T (.z fZ (.z zpF (.z zm (.bif (t':=96) rfl (fun hb96=>?_) (fun hb96=>?_)))))
         ·refine .Fs 4 16 false (.zn zpT (.cT (.aj (.zn zg (.ret (rB (rT (rT (rB (rT (Fin.bE gy rfl ?_)))))))))))
          exact ⟨_,rfl,.inr ⟨fun h=>by have:=(h.seasons s (List.mem_of_getElem? hx)).to;simp_all,rfl⟩,hs.out⟩
         ·refine .T (.z (zfa jc) (.T (.y hs (zld af) (.T (.o (.call ir rfl (dR hs) ?_))))));rintro _ w ⟨rfl,hs⟩
          refine .T (.z fZ (.zn zpF (.cond rfl (fun hc101=>?_) (fun hc101=>?_))))
          ·refine .aj (.zn zg (.ret (rB (rT (rT (rB (rT (Fin.bE gy rfl ?_))))))))
           exact ⟨_,rfl,.inr ⟨fun h=>by have:=(h.seasons s (List.mem_of_getElem? hx)).extra;simp_all,rfl⟩,hs.out⟩
          ·refine .skip (nB (nT (.region (.z zm (.z cK (.zn zg (nT ?_)))))))
           exact ⟨i+1,.cJ rfl cq aU,⟨an,fo hnos hx ⟨by simp_all,by simp_all,by simp_all,by simp_all⟩,hs.tail⟩,an⟩
      ·refine .exit (xT (xT (xB (nT (.aj (.zn zg (.ret (Fin.bE gy rfl ?_))))))))
       exact ⟨_,rfl,.inl ⟨⟨by simp_all,by simp_all,hl20,an,hno,fun s hs=>by
        obtain ⟨j,hj⟩:=List.getElem?_of_mem hs
        have:=(List.getElem?_eq_some_iff.1 hj).1
        exact hnos j an s hj⟩,rfl⟩,hs.out⟩
theorem pc{r:List Lg}{vr:Value}(hs:St H w σ)(h1:RLg H vr r):
  Cl Tryz.prog 22 [.agg #[vr]] w fun u w'=>∃e,u=I e∧Km r e∧St H w' σ:=by
 obtain ⟨ar,cr,rfl⟩:=h1.shape
 refine Cl.o Tryz.func22 Tryz.ntmps22 ag1 ?_
 refine .aj (.bx hs fun b1 w hs=>?_)
 refine .zn zg (.seq (.aj (.z (zfa bI) (.y hs (zld cu) (.z (dc aF) (.o (.call ir rfl (dR hs) ?_)))))));rintro _ w ⟨rfl,hs⟩
 refine .zn fZ (.cond rfl (fun hc8=>?_) (fun hc8=>?_))
 ·refine .aj (.zn zg (.ret (rT (Fin.bE Tryz.results22 rfl ?_))))
  exact ⟨_,rfl,.inr ⟨fun h=>by have:=h.many;simp_all;omega,rfl⟩,hs.out⟩
 ·refine .skip (nT (.seq (.aj (.zn zg (.block ?_)))))
  have hl20:1≤r.length∧r.length≤12:=by first|omega|(simp at hc8;omega)
  refine .loop (fun k:Nat=>⟨43,[],[(3,I (k:Int)),(1,Pt b1)]⟩)
   (fun k w=>k≤r.length∧(∀j<k,BK (lg0 r j)∧(0<j→(lg0 r (j - 1)).to≤(lg0 r j).fr))∧St H w (.blk b1 [.slice ar r.length cr]::σ)) (fun k=>r.length - k) 0 aU
   ⟨Nat.zero_le _,fun j hj=>by omega,hs⟩ ?_
  rintro k w ⟨hk,hno,hs⟩
  refine .seq (.aj (.z zm (.z (zfa bI) (.y hs (zld cu) (.z (dc aF) (.zn fM (.bA rfl (fun hc13=>?_) (fun hc13=>?_))))))))
  ·refine .skip (nT (.seq (.block (.seq (.draw mix rfl hs fun w hs=>?_)))))
   have hkl:k<r.length:=by omega
   have hx:=j6 (l:=r) hkl
   have hx1:=j6 (l:=r) (i:=k - 1) an
   refine .zw 0 rfl (zfa bI) ?_;refine .y 1 rfl hs cu ?_;refine .z 2 rfl zm ?_
   refine .ixX (enc:=Lg.c) (i:=3) hs rfl aD .none h1 rfl rfl aF aQ hx rfl ?_;intro b19 o19 hc19
   refine .r (i:=4) hs rfl aD .none (cj (vs:=(lg0 r k).c) rfl gC aQ hc19) ?_
   refine .E 5 hs ?_
   refine .call Tryz.call76 rfl (uM (x:=lg0 r k) hs) ?_;rintro _ w ⟨b21,rfl,hb21,hs⟩
   refine .go (.zw 6 rfl fZ ?_);refine .z 7 rfl zm ?_
   refine .bif (t':=23) rfl (fun hb23=>?_) (fun hb23=>?_)
   ·refine .F 8 rfl (.F 9 rfl (.F 10 rfl (.F 11 rfl (.F 12 rfl (.F 13 rfl ?_)))))
    refine .F 14 rfl (.F 15 rfl (.F 16 rfl (.F 17 rfl (.F 18 rfl (.F 19 rfl (.F 20 rfl (.F 21 rfl (.F 22 rfl (.F 23 rfl (.F 24 rfl (.F 25 rfl (.zw 26 rfl zpT ?_))))))))))));refine .D hs ?_
    refine (.cT (.aj (.zn zg (.ret (rB (rT (rT (rB (rT (Fin.bE Tryz.results22 rfl ?_))))))))))
    exact ⟨_,rfl,.inr ⟨fun h=>by have:=hb21.2 (h.leg k hkl).1;simp_all,rfl⟩,hs.out⟩
   ·refine .zw 8 rfl zm ?_;refine .z 9 rfl km ?_;refine .z 10 rfl zm ?_
    refine .gX (t':=26) rfl (fun hb26=>?_) (fun hb26=>?_)
    ·refine .zw 11 rfl (zfa bI) ?_;refine .y 12 rfl hs cu ?_;refine .z 13 rfl zm ?_
     refine .ixX (enc:=Lg.c) (i:=14) hs rfl aD (.some rfl rfl) h1 rfl rfl aF aQ hx rfl ?_;intro b30 o30 hc30
     refine .zw 15 rfl (zfa fu) (.r (i:=16) hs rfl aD (.some rfl rfl) (aJ rfl af (hc30.get 1 rfl)) ?_)
     refine .zw 17 rfl (zfa bI) ?_;refine .y 18 rfl hs cu ?_;refine .z 19 rfl zm ?_;refine .z 20 rfl fY ?_
     refine .ixX (enc:=Lg.c) (i:=21) hs rfl aD (.some rfl rfl) h1 rfl rfl aF aQ hx1 an ?_;intro b37 o37 hc37
     refine .zw 22 rfl (zfa ft) (.r (i:=23) hs rfl aD (.some rfl rfl) (aJ rfl af (hc37.get 2 rfl)) ?_)
     refine .zw 24 rfl fM ?_;refine .z 25 rfl zpT ?_;refine .z 26 rfl zpF ?_;refine .D hs ?_
     refine (.bA rfl (fun hc42=>?_) (fun hc42=>?_))
     ·refine .aj (.zn zg (.ret (rB (rT (rT (rB (rT (Fin.bE Tryz.results22 rfl ?_))))))))
      exact ⟨_,rfl,.inr ⟨fun h=>by have:=(h.leg k hkl).2 an;omega,rfl⟩,hs.out⟩
     ·refine .skip (nB (nT (.region (.z zm (.z cK (.zn zg (nT ?_)))))))
      exact ⟨k+1,.cJ rfl cq aU,⟨an,fun j hj=>by
       by_cases e:j=k
       ·subst e;exact ⟨hb21.1 (by simp_all),fun _=>by omega⟩
       ·exact hno j an,hs⟩,an⟩
    ·refine .F 11 rfl (.F 12 rfl ?_)
     refine .F 13 rfl (.F 14 rfl (.F 15 rfl (.F 16 rfl (.F 17 rfl (.F 18 rfl (.F 19 rfl (.F 20 rfl (.F 21 rfl (.F 22 rfl (.F 23 rfl (.F 24 rfl (.zw 25 rfl zpF ?_))))))))))));refine .z 26 rfl zpF ?_;refine .D hs ?_
     refine (.cF (.skip (nB (nT (.region (.z zm (.z cK (.zn zg (nT ?_)))))))))
     exact ⟨k+1,.cJ rfl cq aU,⟨an,fun j hj=>by
      by_cases e:j=k
      ·subst e;exact ⟨hb21.1 (by simp_all),fun _=>by omega⟩
      ·exact hno j an,hs⟩,an⟩
  ·refine .exit (xT (xT (xB (nT (.aj (.zn zg (.ret (Fin.bE Tryz.results22 rfl ?_))))))))
   obtain rfl:k=r.length:=by omega
   exact ⟨_,rfl,.inl ⟨⟨hl20,hno⟩,rfl⟩,hs.out⟩
theorem lF{l:Lns}{vt vs:Value}(hs:St H w σ)(g:LnM H l vt vs)(hl:iK l):
  Cl Tryz.prog 103 [lnA l vt vs] w fun u w'=>∃(n:Int) (b:Bool),u= .tuple #[I n,I (if b then 0 else 3)]∧vX l n b∧St H w' σ:=by
 have h1:=g.tb
 obtain ⟨at_,ct,rfl⟩:=h1.shape
 have hm:=hl.many
 refine Cl.o Tryz.func103 Tryz.ntmps103 ag1 ?_
 refine .aj (.bx hs fun b1 w hs=>?_)
 refine .z zg (.zn zg (.aj (.z (zfa cU) (.y hs (zld ew) (.zn zg (.seq (.aj (.zn zg (.block ?_)))))))))
 refine .loop (fun k:Nat=>⟨101,[],[(5,I (k:Int)),(4,.slice at_ l.table.length ct),(1,Pt b1)]⟩)
  (fun k w=>k≤l.table.length∧(∀i<k,(fb0 l.table i).len≠l.length∧(0<i→¬((fb0 l.table (i - 1)).len<l.length∧l.length<(fb0 l.table i).len)))∧St H w (.blk b1 (lnC l (.slice at_ l.table.length ct) vs)::σ)) (fun k=>l.table.length - k) 0 aU
  ⟨Nat.zero_le _,fun i hi=>by omega,hs⟩ ?_
 rintro k w ⟨hk,hno,hs⟩
 refine .seq (.aj (.z zm (.z zm (.z (dc a6) (.zn fM (.bA rfl (fun hc13=>?_) (fun hc13=>?_)))))))
 ·refine .skip (nT (.seq (.block (.seq (.seq (.draw mix rfl hs fun w hs=>?_))))))
  have hkl:k<l.table.length:=by omega
  have hx:=mW (l:=l.table) hkl
  have hx1:=mW (l:=l.table) (i:=k - 1) an
  have hnx:(fb0 l.table k).len≠l.length→(0<k→¬((fb0 l.table (k - 1)).len<l.length∧l.length<(fb0 l.table k).len))→∀i<k+1,(fb0 l.table i).len≠l.length∧(0<i→¬((fb0 l.table (i - 1)).len<l.length∧l.length<(fb0 l.table i).len)):=fun g1 g2 i hi=>by
   by_cases e:i=k
   ·subst e;exact ⟨g1,g2⟩
   ·exact hno i an
  have ha:=hl.table (k - 1) an
  have hb:=hl.table k hkl
  have a1:=ha.len
  have a2:=ha.least
  have b1':=hb.len
  have b2:=hb.least
  have hL:=hl.length
  refine .zw 0 rfl zm ?_;refine .z 1 rfl zm ?_
  refine .ixX (enc:=Fbd.c) (i:=2) hs rfl aD .none h1 rfl rfl a6 bK hx da ?_;intro b18 o18 hc18
  refine .zw 3 rfl (zfa bY) (.r (i:=4) hs rfl aD .none (aJ rfl af (hc18.get 0 rfl)) ?_)
  refine .zw 5 rfl (zfa eD) ?_;refine .y 6 rfl hs af ?_;refine .z 7 rfl fm ?_;refine .D hs ?_
  refine (.bA rfl (fun hc23=>?_) (fun hc23=>?_))
  ·refine .aj (.z zm (.z zm (.ixX (enc:=Fbd.c) hs h1 rfl rfl a6 bK hx da ?_)));intro b26 o26 hc26
   refine .z (zfa dJ) (.q hs (aJ rfl af (hc26.get 1 rfl)) (.z zg (.zn zg (.ret (rT (rB (rT (rT (rB (rT (Fin.gL Tryz.results103 rfl rfl ?_)))))))))))
   exact ⟨_,true,rfl,.at_ hkl hc23,hs.out⟩
  ·refine .skip (nT (.seq (.draw mix rfl hs fun w hs=>?_)))
   refine .zw 0 rfl zm ?_;refine .z 1 rfl km ?_;refine .z 2 rfl zm ?_
   refine .gX (t':=31) rfl (fun hb31=>?_) (fun hb31=>?_)
   ·refine .zw 3 rfl zm ?_;refine .z 4 rfl zm ?_;refine .z 5 rfl fY ?_
    refine .ixX (enc:=Fbd.c) (i:=6) hs rfl aD (.some rfl rfl) h1 rfl rfl a6 bK hx1 da ?_;intro b35 o35 hc35
    refine .zw 7 rfl (zfa bY) (.r (i:=8) hs rfl aD (.some rfl rfl) (aJ rfl af (hc35.get 0 rfl)) ?_)
    refine .zw 9 rfl (zfa eD) ?_;refine .y 10 rfl hs af ?_;refine .z 11 rfl fM ?_;refine .z 12 rfl zpT ?_;refine .z 13 rfl zm ?_
    refine .gX (t':=42) rfl (fun hb42=>?_) (fun hb42=>?_)
    ·refine .zw 14 rfl (zfa eD) ?_;refine .y 15 rfl hs af ?_;refine .z 16 rfl zm ?_;refine .z 17 rfl zm ?_
     refine .ixX (enc:=Fbd.c) (i:=18) hs rfl aD (.some rfl rfl) h1 rfl rfl a6 bK hx da ?_;intro b47 o47 hc47
     refine .zw 19 rfl (zfa bY) (.r (i:=20) hs rfl aD (.some rfl rfl) (aJ rfl af (hc47.get 0 rfl)) ?_)
     refine .zw 21 rfl fM ?_;refine .z 22 rfl zpT ?_;refine .D hs ?_
     refine (.bA rfl (fun hc51=>?_) (fun hc51=>?_))
     ·refine .seq (.draw mix rfl hs fun w hs=>?_)
      refine .zw 0 rfl zm ?_;refine .z 1 rfl zm ?_;refine .z 2 rfl fY ?_
      have hX:=j5 (a:=(fb0 l.table (k - 1)).least) (b:=(fb0 l.table k).len - l.length) (A:=5000) (B:=100000) an an
      have hY:=j5 (a:=(fb0 l.table k).least) (b:=l.length - (fb0 l.table (k - 1)).len) (A:=5000) (B:=100000) an an
      have hX0:=Int.mul_nonneg a2.1 (show 0≤(fb0 l.table k).len - l.length by omega)
      have hY0:=Int.mul_nonneg b2.1 (show 0≤l.length - (fb0 l.table (k - 1)).len by omega)
      have hmid:=vX.mid hkl an df df
      have hbd:=hmid.bd hl
      have hup:=Jg (a:=(fb0 l.table (k - 1)).least) (b:=(fb0 l.table k).least) (L:=l.length) (show (fb0 l.table (k - 1)).len<(fb0 l.table k).len by omega)
      rw [←Int.tdiv_eq_ediv_of_nonneg an] at hup
      change _=AD l k at hup
      refine .ixX (enc:=Fbd.c) (i:=3) hs rfl aD .none h1 rfl rfl a6 bK hx1 an ?_;intro b55 o55 hc55
      refine .zw 4 rfl (zfa dJ) (.r (i:=5) hs rfl aD .none (aJ rfl af (hc55.get 1 rfl)) ?_)
      refine .zw 6 rfl zm ?_;refine .z 7 rfl zm ?_
      refine .ixX (enc:=Fbd.c) (i:=8) hs rfl aD .none h1 rfl rfl a6 bK hx da ?_;intro b60 o60 hc60
      refine .zw 9 rfl (zfa bY) (.r (i:=10) hs rfl aD .none (aJ rfl af (hc60.get 0 rfl)) ?_)
      refine .zw 11 rfl (zfa eD) ?_;refine .y 12 rfl hs af ?_;refine .z 13 rfl fY ?_;refine .z 14 rfl kd ?_;refine .z 15 rfl zm ?_;refine .z 16 rfl zm ?_
      refine .ixX (enc:=Fbd.c) (i:=17) hs rfl aD .none h1 rfl rfl a6 bK hx da ?_;intro b69 o69 hc69
      refine .zw 18 rfl (zfa dJ) (.r (i:=19) hs rfl aD .none (aJ rfl af (hc69.get 1 rfl)) ?_)
      refine .zw 20 rfl (zfa eD) ?_;refine .y 21 rfl hs af ?_;refine .z 22 rfl zm ?_;refine .z 23 rfl zm ?_;refine .z 24 rfl fY ?_
      refine .ixX (enc:=Fbd.c) (i:=25) hs rfl aD .none h1 rfl rfl a6 bK hx1 da ?_;intro b77 o77 hc77
      refine .zw 26 rfl (zfa bY) (.r (i:=27) hs rfl aD .none (aJ rfl af (hc77.get 0 rfl)) ?_)
      refine .zw 28 rfl fY ?_;refine .z 29 rfl kd ?_;refine .z 30 rfl cK ?_;refine .z 31 rfl zg ?_;refine .D hs ?_
      refine .seq (.draw mix rfl hs fun w hs=>?_)
      refine .zw 0 rfl zm ?_;refine .z 1 rfl zm ?_
      refine .ixX (enc:=Fbd.c) (i:=2) hs rfl aD .none h1 rfl rfl a6 bK hx da ?_;intro b85 o85 hc85
      refine .zw 3 rfl (zfa bY) (.r (i:=4) hs rfl aD .none (aJ rfl af (hc85.get 0 rfl)) ?_)
      refine .zw 5 rfl zm ?_;refine .z 6 rfl zm ?_;refine .z 7 rfl fY ?_
      refine .ixX (enc:=Fbd.c) (i:=8) hs rfl aD .none h1 rfl rfl a6 bK hx1 da ?_;intro b91 o91 hc91
      refine .zw 9 rfl (zfa bY) (.r (i:=10) hs rfl aD .none (aJ rfl af (hc91.get 0 rfl)) ?_)
      refine .zw 11 rfl fY ?_;refine .z 12 rfl zg ?_;refine .D hs ?_
      refine .aj (.z zm (.z zm (.z cK (.z fY (.z zm (.q hs (uu rfl rfl an (by rw [hup];omega)) ?_))))))
      rw [hup]
      refine .z zg (.zn zg (.ret (rB (rT (rT (rB (rT (Fin.gL Tryz.results103 rfl rfl ?_))))))))
      exact ⟨_,true,rfl,hmid,hs.out⟩
     ·refine .skip (nB (nT (.region (.z zm (.z cK (.zn zg (nT ?_)))))))
      exact ⟨k+1,.cJ rfl cq aU,⟨an,hnx hc23 (fun _=>by omega),hs⟩,an⟩
    ·refine .F 14 rfl (.F 15 rfl (.F 16 rfl (.F 17 rfl (.F 18 rfl (.F 19 rfl (.F 20 rfl (.F 21 rfl (.zw 22 rfl zpF ?_))))))));refine .D hs ?_
     refine (.cF (.skip (nB (nT (.region (.z zm (.z cK (.zn zg (nT ?_)))))))))
     exact ⟨k+1,.cJ rfl cq aU,⟨an,hnx hc23 (fun _=>by omega),hs⟩,an⟩
   ·refine .F 3 rfl (.F 4 rfl (.F 5 rfl (.F 6 rfl (.F 7 rfl (.F 8 rfl (.F 9 rfl (.F 10 rfl (.F 11 rfl (.zw 12 rfl zpF ?_)))))))));refine .z 13 rfl zm ?_
    refine .F 14 rfl (.F 15 rfl (.F 16 rfl (.F 17 rfl (.F 18 rfl (.F 19 rfl (.F 20 rfl (.F 21 rfl (.zw 22 rfl zpF ?_))))))));refine .D hs ?_
    refine (.cF (.skip (nB (nT (.region (.z zm (.z cK (.zn zg (nT ?_)))))))))
    exact ⟨k+1,.cJ rfl cq aU,⟨an,hnx hc23 (fun _=>by omega),hs⟩,an⟩
 ·refine .exit (xT (xT (xB (nT (.aj (.z zg (.zn zg (.ret (Fin.gL Tryz.results103 rfl rfl ?_)))))))))
  obtain rfl:k=l.table.length:=by omega
  exact ⟨_,false,rfl,.none (fun i hi=>(hno i hi).1) (fun i hi=>(hno i hi).2),hs.out⟩
theorem A2{l:Lns}{vt vs:Value}(hs:St H w σ)(g:LnM H l vt vs):
  Cl Tryz.prog 38 [lnA l vt vs] w fun u w'=>∃n e,u= .tuple #[I n,I e]∧zP l n e∧St H w' σ:=by
 refine Cl.o Tryz.func38 Tryz.ntmps38 ag1 ?_
 refine .aj (.bx hs fun b1 w hs=>?_)
 refine .z zg (.zn zg (.seq (.aj (.y hs (zls [_,_,_,_] bw aV) (.o (.call Tryz.call20 rfl (iV hs g) ?_))))));rintro _ w ⟨e,rfl,he,hs⟩
 refine .zn gE (.dV rfl (fun hc6=>?_) (fun hc6=>?_))
 ·refine .aj (.z zg (.zn zg (.ret (rT (Fin.gL Tryz.results38 rfl rfl ?_)))))
  have h:=he.resolve_left fun h=>hc6 h.2
  exact ⟨_,_,rfl,.lines h.1,hs.out⟩
 ·refine .skip (nT (.aj (.y hs (zls [_,_,_,_] bw aV) ?_)))
  have hok:iK l:=(he.resolve_right fun h=>by omega).1
  refine .o (.call Tryz.call103 rfl (lF hs g hok) ?_);rintro _ w ⟨n,b,rfl,hF,hs⟩
  refine .z zex (.z zex (.z zg (.zn zg (.ret (Fin.gL Tryz.results38 rfl rfl (⟨_,_,rfl,?_,hs.out⟩))))))
  cases b with
  |true=>exact .ok hok hF
  |false=>rw [show n=0 by cases hF;rfl] at*;exact .none hok hF
theorem qX{s:Ssn}{d:Int}(hs:St H w σ)(hd:0≤d):Cl Tryz.prog 160 [.agg #[I s.zone,I s.fr,I s.to,I s.extra],I d] w fun v w'=>v= .bool (decide (vu s (1+d%365)))∧St H w' σ:=by
 have e:d.tmod 365=d%365:=Int.tmod_eq_emod_of_nonneg hd
 refine Cl.o Tryz.func160 Tryz.ntmps160 ag2 ?_
 refine .aj (.bx hs fun b2 w hs=>?_)
 refine .zn zg (.aj (.z zm (.z A4 ?_)))
 rw [e]
 refine .z cK (.zn zg (.seq (.aj (.z (zfa eP) (.y hs (zld af) (.z (zfa eO) (.y hs (zld af) (.zn nF (.bA rfl (fun hc13=>?_) (fun hc13=>?_))))))))))
 ·refine .aj (.z zm (.z (zfa eP) (.y hs (zld af) (.z (zfa eO) (.y hs (zld af) (.o (.call ir rfl (dR hs) ?_)))))));rintro _ w ⟨rfl,hs⟩
  refine .zn zg (.ret (rT (Fin.bE Tryz.results160 rfl (⟨?_,hs.out⟩))))
  congr 1
  simp only [vu,if_pos hc13]
 ·refine .skip (nT (.aj (.z zm (.z (zfa eP) (.y hs (zld af) (.z uj (.z zm (.gX (t':=24) rfl (fun hb24=>?_) (fun hb24=>?_)))))))))
  ·refine .Fs 4 4 false (.z zpT (.zn zg (.ret (Fin.bE Tryz.results160 rfl (⟨?_,hs.out⟩)))))
   congr 1
   simp only [vu,if_neg hc13]
   symm
   simp [*]
  ·refine .T (.z zm (.T (.z (zfa eO) (.T (.y hs (zld af) (.T (.z nF (.z zpF (.zn zg (.ret (Fin.bE Tryz.results160 rfl (⟨?_,hs.out⟩))))))))))))
   congr 1
   simp only [vu,if_neg hc13]
   simp [*]
theorem uJ{l:Lns}{vt vs:Value}{z d:Int}(hs:St H w σ)(g:LnM H l vt vs)(hl:iK l)(hd:0≤d):
  Cl Tryz.prog 108 [lnA l vt vs,I z,I d] w fun v w'=>v=I (jq l.seasons z (1+d%365))∧St H w' σ:=by
 have h2:=g.sn
 obtain ⟨as_,cs,rfl⟩:=h2.shape
 have hm:=hl.most
 refine Cl.o Tryz.func108 Tryz.ntmps108 ag3 ?_
 refine .aj (.bx hs fun b3 w hs=>?_)
 refine .zn zg (.aj (.zn zg (.seq (.aj (.zn zg (.block ?_))))))
 refine .loop (fun k:Nat=>⟨42,[],[(8,I (k:Int)),(7,I (jq (l.seasons.take k) z (1+d%365))),(3,Pt b3),(1,I z),(2,I d)]⟩)
  (fun k w=>k≤l.seasons.length∧St H w (.blk b3 (lnC l vt (.slice as_ l.seasons.length cs))::σ)) (fun k=>l.seasons.length - k) 0 aU
  ⟨Nat.zero_le _,hs⟩ ?_
 rintro k w ⟨hk,hs⟩
 refine .seq (.aj (.z zm (.z (zfa de) (.y hs (zld eM) (.z (dc bD) (.zn fM (.bA rfl (fun hc13=>?_) (fun hc13=>?_))))))))
 ·refine .skip (nT (.seq (.block (.aj ?_))))
  obtain ⟨s,hx⟩:=nth (l:=l.seasons) (k:=k) an
  have hE:=rn (l.seasons.take k) s z (1+d%365)
  rw [←dP hx] at hE
  refine .z (zfa de) (.y hs (zld eM) (.z zm (.ixX (enc:=Ssn.c) hs h2 rfl rfl bD cP hx da ?_)));intro b19 o19 hc19
  refine .z (zfa jd) (.q hs (aJ rfl af (hc19.get 0 rfl)) (.z zm (.z fm (.z zm (.gX (t':=24) rfl (fun hb24=>?_) (fun hb24=>?_))))))
  ·refine .T (.z (zfa de) (.T (.y hs (zld eM) (.T (.z zm (.T (.ixX (enc:=Ssn.c) hs h2 rfl rfl bD cP hx da ?_)))))));intro b28 o28 hc28
   refine .T (.q hs (cj (vs:=(Ssn.c s)) rfl IH cP hc28) (.T (.z zm (.T (.o (.call Tryz.call160 rfl (qX (s:=s) hs hd) ?_))))));rintro _ w ⟨rfl,hs⟩
   refine .zn zpT (.cond rfl (fun hc32=>?_) (fun hc32=>?_))
   ·refine .region (.z zm (.z (zfa de) (.y hs (zld eM) (.z zm (.ixX (enc:=Ssn.c) hs h2 rfl rfl bD cP hx da ?_)))));intro b37 o37 hc37
    refine .z (zfa jc) (.q hs (aJ rfl af (hc37.get 3 rfl)) (.z A5 (.zn zg (nB (nT (.region (.z zm (.z cK (.zn zg (nT ?_))))))))))
    rw [if_pos ⟨by assumption,by simpa using hc32⟩] at hE
    exact ⟨k+1,.cJ rfl cq (by rw [hE];exact aU),⟨an,hs⟩,an⟩
   ·refine .skip (nB (nT (.region (.z zm (.z cK (.zn zg (nT ?_)))))))
    rw [if_neg (fun h=>of_decide_eq_false hc32 h.2)] at hE
    exact ⟨k+1,.cJ rfl cq (by rw [hE];exact aU),⟨an,hs⟩,an⟩
  ·refine .Fs 7 8 true (.zn zpF (.cF (.skip (nB (nT (.region (.z zm (.z cK (.zn zg (nT ?_))))))))))
   rw [if_neg (fun h=>by have:=h.1;contradiction)] at hE
   exact ⟨k+1,.cJ rfl cq (by rw [hE];exact aU),⟨an,hs⟩,an⟩
 ·refine .exit (xT (xT (xB (nT (.aj (.z zm (.zn zg (.ret (Fin.bE Tryz.results108 rfl ?_)))))))))
  obtain rfl:k=l.seasons.length:=by omega
  exact ⟨by rw [List.take_length],hs.out⟩
theorem rU{l:Lns}{vt vs:Value}{z d:Int}(hs:St H w σ)(g:LnM H l vt vs):
  Cl Tryz.prog 107 [lnA l vt vs,I z,I d] w fun v w'=>∃e,v=I e∧BN l z d e∧St H w' σ:=by
 refine Cl.o Tryz.func107 Tryz.ntmps107 ag3 ?_
 refine .aj (.bx hs fun b3 w hs=>?_)
 refine .zn zg (.seq (.aj (.y hs (zls [_,_,_,_] bw aV) (.o (.call Tryz.call20 rfl (iV hs g) ?_)))));rintro _ w ⟨e,rfl,he,hs⟩
 refine .zn gE (.dV rfl (fun hc9=>?_) (fun hc9=>?_))
 ·refine .aj (.zn zg (.ret (rT (Fin.bE Tryz.results107 rfl ?_))))
  have h:=he.resolve_left fun h=>hc9 h.2
  exact ⟨_,rfl,.lines h.1,hs.out⟩
 ·refine .skip (nT (.seq (.aj ?_)))
  have hok:iK l:=(he.resolve_right fun h=>by omega).1
  refine .z zm (.o (.call ir rfl (dR hs) ?_));rintro _ w ⟨rfl,hs⟩
  refine .zn fZ (.cond rfl (fun hc12=>?_) (fun hc12=>?_))
  ·refine .aj (.zn zg (.ret (rT (Fin.bE Tryz.results107 rfl ?_))))
   exact ⟨_,rfl,.zone hok (by simp at hc12;omega),hs.out⟩
  ·refine .skip (nT (.seq (.aj (.z zm (.o (.call ir rfl (dR hs) ?_))))));rintro _ w ⟨rfl,hs⟩
   refine .zn fZ (.cond rfl (fun hc15=>?_) (fun hc15=>?_))
   ·refine .aj (.zn zg (.ret (rT (Fin.bE Tryz.results107 rfl ?_))))
    exact ⟨_,rfl,.day hok (by simpa using hc12) (by simp at hc15;omega),hs.out⟩
   ·refine .skip (nT (.aj (.zn zg (.ret (Fin.bE Tryz.results107 rfl ?_)))))
    exact ⟨_,rfl,.ok hok (by simpa using hc12) (by simpa using hc15),hs.out⟩
theorem tB{l:Lns}{vt vs:Value}{z d:Int}(hs:St H w σ)(g:LnM H l vt vs):
  Cl Tryz.prog 42 [lnA l vt vs,I z,I d] w fun u w'=>∃n e,u= .tuple #[I n,I e]∧Dq l z d n e∧St H w' σ:=by
 refine Cl.o Tryz.func42 Tryz.ntmps42 ag3 ?_
 refine .aj (.bx hs fun b3 w hs=>?_)
 refine .z zg (.zn zg (.aj (.y hs (zls [_,_,_,_] bw aV) (.z zm (.z zm (.o (.call Tryz.call107 rfl (rU hs g) ?_)))))));rintro _ w ⟨e,rfl,he,hs⟩
 refine .zn zg (.seq (.aj (.z zm (.zn gE (.dV rfl (fun hc16=>?_) (fun hc16=>?_))))))
 ·refine .aj (.z zm (.z zg (.zn zg (.ret (rT (Fin.gL Tryz.results42 rfl rfl ?_))))))
  exact ⟨_,_,rfl,.bad he hc16,hs.out⟩
 ·refine .skip (nT (.aj (.y hs (zls [_,_,_,_] bw aV) ?_)))
  obtain rfl:e=0:=by omega
  obtain ⟨hok,hz,hd⟩:=he.zero
  refine .o (.call Tryz.call103 rfl (lF hs g hok) ?_);rintro _ w ⟨n,b,rfl,hF,hs⟩
  refine .z zm (.z zex (.z zex (.z zg (.zn zg (.seq (.aj (.z zm (.zn gE (.dV rfl (fun hc24=>?_) (fun hc24=>?_))))))))))
  ·refine .aj (.z zm (.z zg (.zn zg (.ret (rT (Fin.gL Tryz.results42 rfl rfl ?_))))))
   obtain rfl:b=false:=by cases b;rfl;exact (hc24 rfl).elim
   exact ⟨_,_,rfl,.none he hF,hs.out⟩
  ·refine .skip (nT (.seq (.draw mix rfl hs fun w hs=>?_)))
   refine .zw 0 rfl (zfa iI) ?_
   obtain rfl:b=true:=by cases b;simp at hc24;rfl
   have hn:=hF.bd hok
   have hdp:=hok.depth
   have hE:=sG hok.seasons z (1+d%365)
   refine .y 1 rfl hs af ?_;refine .z 2 rfl zm ?_;refine .z 3 rfl fY ?_;refine .ys 4 rfl hs [_,_,_,_] bw aV ?_;refine .z 5 rfl zm ?_;refine .z 6 rfl zm ?_
   refine .E 7 hs ?_
   refine .call Tryz.call108 rfl (uJ hs g hok hd.1) ?_;rintro _ w ⟨rfl,hs⟩
   refine .go (.zw 8 rfl fY ?_);refine .z 9 rfl zg ?_;refine .z 10 rfl zg ?_;refine .D hs ?_
   refine .ret (Fin.gL Tryz.results42 rfl rfl ?_)
   exact ⟨_,_,rfl,.ok he hF,hs.out⟩
theorem tw{r:List Lg}{vr:Value}{m:Rng}(hs:St H w σ)(h1:RLg H vr r)(hr:ub r)(hm:iy m.lo m.hi):
  Cl Tryz.prog 82 [.agg #[vr],.agg #[I m.lo,I m.hi]] w fun u w'=>∃H1,HLe H H1∧RRg H1 u (msL m r r.length)∧St H1 w' σ:=by
 obtain ⟨ar,cr,rfl⟩:=h1.shape
 have hn:=hr.many
 refine Cl.o Tryz.func82 Tryz.ntmps82 ag2 ?_
 refine .aj (.bx hs fun b2 w hs=>?_)
 refine .bx hs fun b3 w hs=>?_
 refine .zn zg (.aj (.y hs (zls [_,_] aW au) (.o (.buildSlice (cells:=m.c) hs iO rfl aD fun b10 w hs=>?_))))
 refine .zn zg (.seq (.aj (.zn zg (.block ?_))))
 refine .loop (fun p:Nat×Value×Ent=>⟨45,[],[(6,I (p.1:Int)),(5,p.2.1),(2,Pt b2)]⟩)
  (fun p w=>p.1≤r.length∧cZ 2 p.2.1 (rgc (msL m r p.1)).flatten p.2.2∧St H w (p.2.2:: .blk b2 [.slice ar r.length cr]::σ)) (fun p=>r.length - p.1) (0,_,.blk b10 m.c) aU
  ⟨Nat.zero_le _,.full rfl,hs.sb⟩ ?_
 rintro ⟨k,vo,en⟩ w ⟨hk,hO,hs⟩
 dsimp only at hk hO hs ⊢
 have hml:=kB m r k
 obtain ⟨b,co,sp,rfl,rfl,hco⟩:=hO.GL (Bf _) an (by rw [kr];omega)
 rw [kr] at hO ⊢
 refine .seq (.aj (.z zm (.z (zfa bI) (.y hs (zld cu) (.z (dc aF) (.zn fM (.bA rfl (fun hc15=>?_) (fun hc15=>?_))))))))
 ·refine .skip (nT (.seq (.block (.aj ?_))))
  have hkl:k<r.length:=by omega
  have hx:=j6 (l:=r) hkl
  have hb:=Bm hm (fun i hi=>(hr.leg i hi).1) (i:=k) an
  have hb2:=(hr.leg k hkl).1.burn
  unfold iy at hb hb2
  refine .z (zfa bI) (.y hs (zld cu) (.z zm (.ixX (enc:=Lg.c) hs h1 rfl rfl aF aQ hx rfl ?_)));intro b21 o21 hc21
  refine .z (zfa fp) (.q hs (cj (vs:=[I (lg0 r k).blo,I (lg0 r k).bhi]) rfl aW au (hc21.sub 5 _)) (.o (.alloc hs bP rfl fun b7 w hs=>?_)))
  refine .o (.aP (vs:=[I (lg0 r k).blo,I (lg0 r k).bhi]) hs rfl rfl au fun w hs=>?_)
  refine .nil (.aj (.z zm (.z zm (.z (mA ek au) (.q hs (k9 (vs:=(lI m r k).c) rfl aW au (hm:=by repeat (first|exact .here|refine .there ?_)) (hv:=yv (Bf _) (HA (zj m r (k:=k) (i:=k) (Nat.le_refl _))) sp)) ?_)))))
  refine .o (.alloc hs bP rfl fun b8 w hs=>?_)
  refine .o (.aP (vs:=(lI m r k).c) hs rfl rfl au fun w hs=>?_)
  change St _ _ (.blk b8 [I (lI m r k).lo,I (lI m r k).hi]::_) at hs
  refine .nil (.region (.z zm (.z (zfa bG) (.y hs (zld af) (.z (zfa cf) (.y hs (zld af) (.z fY (.z A5 (.z (zfa cf) (.y hs (zld af) (.z (zfa bG) (.y hs (zld af) (.z fY (.z A5 (.z (zbd [_,_] bU) (.o (.buildSlice (cells:=[I (max 0 ((lI m r k).lo - (lg0 r k).bhi)),I (max 0 ((lI m r k).hi - (lg0 r k).blo))]) hs iO rfl aD fun b42 w hs=>?_)))))))))))))))))
  rw [show [I (max 0 ((lI m r k).lo - (lg0 r k).bhi)),I (max 0 ((lI m r k).hi - (lg0 r k).blo))]=(lI m r (k+1)).c by simp only [lI,Ii,Rng.c];rw [Int.max_comm 0,Int.max_comm 0]] at hs
  refine .o (.append (ys:=(lI m r (k+1)).c) hs jr rfl rfl hO (.own .here rfl rfl) (by simp [Rng.c,Value.oneCell']) (fun l h=>by rw [cz _ (Bf _),kr] at h;omega) ?_);intro v43 en43 w hO2 hs
  rw [←BY,←B9] at hO2
  refine .zn zg (nB (nT (.region (.z zm (.z cK (.zn zg (nT ?_)))))))
  exact ⟨(k+1,v43,en43),.cJ rfl cq aU,⟨by dsimp only;omega,hO2,hs.sb⟩,by dsimp only;omega⟩
 ·refine .exit (xT (xT (xB (nT (.aj (.z zm (.zn zg (.ret (Fin.bE Tryz.results82 rfl ?_)))))))))
  obtain rfl:k=r.length:=by omega
  obtain ⟨H1,hle1,hR,hs⟩:=cZ.di (m:=2) hO (Bf _) an (by rw [kr,kB];omega) hs .here
  exact ⟨H1,hle1,hR,hs.out⟩
theorem uK{s:Spc}{vst vwa:Value}{h:Int}(hs:St H w σ)(h2:RI H vwa s.wa)(hok:fA s):
  Cl Tryz.prog 114 [spA s vst vwa,I h] w fun u w'=>∃k,u=I k∧xF s.wa h k∧St H w' σ:=by
 obtain ⟨awa,cwa,rfl⟩:=RI.shape h2
 have hm:=hok.wa.many
 have hr:=fun {i j:Nat}=>hok.wa.le (i:=i) (j:=j)
 refine Cl.o Tryz.func114 Tryz.ntmps114 ag2 ?_
 refine .aj (.bx hs fun b2 w hs=>?_)
 refine .zn zg (.aj (.zn zg (.seq (.aj (.zn zg (.block ?_))))))
 refine .loop (fun p:Nat×Int=>⟨28,[],[(6,I (p.1:Int)),(5,I p.2),(2,Pt b2),(1,I h)]⟩)
  (fun p w=>(p.1≤s.wa.length∧-1≤p.2∧p.2<p.1)∧(∀i<p.1,gi s.wa i - gi s.wa 0≤h↔(i:Int)≤p.2)∧St H w (.blk b2 (spC s vst (.slice awa s.wa.length cwa))::σ)) (fun p=>s.wa.length - p.1) (0,-1) aU
  ⟨by dsimp only;omega,fun i hi=>by dsimp only at hi;omega,hs⟩ ?_
 rintro ⟨k,q⟩ w ⟨hk,hall,hs⟩
 dsimp only at hk hall ⊢
 refine .seq (.aj (.z zm (.z (zfa bh) (.y hs (zld aq) (.z (dc ae) (.zn fM (.bA rfl (fun hc11=>?_) (fun hc11=>?_))))))))
 ·refine .skip (nT (.seq (.block (.seq (.draw mix rfl hs fun w hs=>?_)))))
  have hkl:k<s.wa.length:=by omega
  have c1:=hok.wa.bd hkl
  have c2:=hok.wa.bd (i:=0) an
  refine .zw 0 rfl (zfa bh) ?_;refine .y 1 rfl hs aq ?_;refine .z 2 rfl zm ?_
  refine .ixX (enc:=fun x=>[I x]) (i:=3) hs rfl aD .none h2 rfl rfl ae ai (bB (l:=s.wa) (i:=k) an) da ?_;intro b17 o17 hc17;replace hc17:=bL.one hc17
  refine .r (i:=4) hs rfl aD .none (aJ rfl af hc17) ?_
  refine .zw 5 rfl (zfa bh) ?_;refine .y 6 rfl hs aq ?_
  refine .ixX (enc:=fun x=>[I x]) (i:=7) hs rfl aD .none h2 rfl rfl ae ai (bB (l:=s.wa) (i:=0) an) da ?_;intro b21 o21 hc21;replace hc21:=bL.one hc21
  refine .r (i:=8) hs rfl aD .none (aJ rfl af hc21) ?_
  refine .zw 9 rfl fY ?_;refine .z 10 rfl zm ?_;refine .z 11 rfl nF ?_;refine .D hs ?_
  refine (.bA rfl (fun hc25=>?_) (fun hc25=>?_))
  ·refine .region (.z zm (.zn zg (nB (nT (.region (.z zm (.z cK (.zn zg (nT ?_)))))))))
   exact ⟨(k+1,(k:Int)),.cJ rfl cq aU,⟨by dsimp only;omega,fun i hi=>by
    dsimp only at hi ⊢
    have:=hr (show i≤k by omega) hkl
    omega,hs⟩,by dsimp only;omega⟩
  ·refine .skip (nB (nT (.region (.z zm (.z cK (.zn zg (nT ?_)))))))
   exact ⟨(k+1,q),.cJ rfl cq aU,⟨by dsimp only;omega,fun i hi=>by
    dsimp only at hi ⊢
    by_cases e:i=k
    ·subst e;omega
    ·exact hall i an,hs⟩,by dsimp only;omega⟩
 ·refine .exit (xT (xT (xB (nT (.aj (.z zm (.zn zg (.ret (Fin.bE Tryz.results114 rfl ?_)))))))))
  obtain rfl:k=s.wa.length:=by omega
  exact ⟨_,rfl,⟨an,an,hall⟩,hs.out⟩
theorem wG{s:Spc}{l:Lns}{vst vwa vt vs:Value}{z d:Int}(hs:St H w σ)(g1:RI H vst s.st)(g2:RI H vwa s.wa)(g:LnM H l vt vs):
  Cl Tryz.prog 46 [spA s vst vwa,lnA l vt vs,I z,I d] w fun u w'=>∃k e,u= .tuple #[I k,I e]∧BJ s l z d k e∧St H w' σ:=by
 refine Cl.o Tryz.func46 Tryz.ntmps46 ag4 ?_
 refine .aj (.bx hs fun b4 w hs=>?_)
 refine .bx hs fun b5 w hs=>?_
 refine .z zg (.zn zg (.seq (.aj (.y hs (zls [_,_,_,_,_,_] bg aM) (.o (.call Tryz.call113 rfl (kJ (s:=s) hs g1 g2) ?_))))));rintro _ w ⟨e,rfl,he,hs⟩
 refine .zn gE (.dV rfl (fun hc15=>?_) (fun hc15=>?_))
 ·refine .aj (.z zg (.zn zg (.ret (rT (Fin.gL Tryz.results46 rfl rfl ?_)))))
  have h:=he.resolve_left fun h=>hc15 h.2
  exact ⟨_,_,rfl,.space h.1,hs.out⟩
 ·refine .skip (nT (.aj (.y hs (zls [_,_,_,_] bw aV) (.z zm (.z zm ?_)))))
  have hok:fA s:=(he.resolve_right fun h=>by omega).1
  refine .o (.call Tryz.call42 rfl (tB hs g) ?_);rintro _ w ⟨h,f,rfl,hH,hs⟩
  refine .z zm (.z zex (.z zex (.z zg (.zn zg (.seq (.aj (.z zm (.zn gE (.dV rfl (fun hc24=>?_) (fun hc24=>?_))))))))))
  ·refine .aj (.z zm (.z zg (.zn zg (.ret (rT (Fin.gL Tryz.results46 rfl rfl ?_))))))
   exact ⟨_,_,rfl,.bad hok hH hc24,hs.out⟩
  ·refine .skip (nT (.aj (.y hs (zls [_,_,_,_,_,_] bg aM) (.z zm ?_))))
   obtain rfl:f=0:=by omega
   refine .o (.call Tryz.call114 rfl (uK (s:=s) hs g2 hok) ?_);rintro _ w ⟨k,rfl,hB,hs⟩
   refine .zn zg (.seq (.aj (.z zm (.zn fM (.bA rfl (fun hc30=>?_) (fun hc30=>?_))))))
   ·refine .aj (.z zg (.zn zg (.ret (rT (Fin.gL Tryz.results46 rfl rfl ?_)))))
    have hk:=hB.low
    obtain rfl:k= -1:=by omega
    exact ⟨_,_,rfl,.above hok hH hB,hs.out⟩
   ·refine .skip (nT (.aj (.z zm (.z zg (.zn zg (.ret (Fin.gL Tryz.results46 rfl rfl ?_)))))))
    exact ⟨_,_,rfl,.ok hok hH hB an,hs.out⟩
theorem tx{s:Spc}{l:Lns}{x:Lg}{vst vwa vt vs:Value}(hs:St H w σ)(g1:RI H vst s.st)(g2:RI H vwa s.wa)(g:LnM H l vt vs)(hsp:fA s)(hl:iK l)(hx:BK x):
  Cl Tryz.prog 116 [spA s vst vwa,lnA l vt vs,lgA x] w fun u w'=>∃k e,u= .tuple #[I k,I e]∧xX s.wa l x k e∧St H w' σ:=by
 obtain ⟨awa,cwa,rfl⟩:=RI.shape g2
 have hd:=sI hx
 have hdn:(lk x:Int)=min x.to (x.fr+364) - x.fr+1:=by have:=hx.fr;unfold lk;omega
 have hf:=hx.fr
 have ht:=hx.to
 refine Cl.o Tryz.func116 Tryz.ntmps116 ag3 ?_
 refine .aj (.bx hs fun b3 w hs=>?_)
 refine .bx hs fun b4 w hs=>?_
 refine .bx hs fun b5 w hs=>?_
 refine .z zg (.zn zg (.aj (.z (zfa bh) (.y hs (zld aq) (.z (dc ae) (.zn zg (.seq (.aj (.z (zfa fu) (.y hs (zld af) (.zn zg (.block ?_))))))))))))
 refine .loop (fun p:Nat×Int=>⟨46,[],[(9,I (x.fr+(p.1:Int))),(8,I p.2),(5,Pt b5),(4,Pt b4),(3,Pt b3)]⟩)
  (fun p w=>p.1≤lk x∧IC s.wa l x p.1 p.2∧St H w (.blk b5 (lgC x):: .blk b4 (lnC l vt vs):: .blk b3 (spC s vst (.slice awa s.wa.length cwa))::σ)) (fun p=>lk x - p.1) (0,(s.wa.length:Int)) (.cons (by show some (I _)=some (I _);congr 2;omega) aU)
  ⟨Nat.zero_le _,.inl ⟨rfl,rfl⟩,hs⟩ ?_
 rintro ⟨j,best⟩ w ⟨hj,hI,hs⟩
 dsimp only at hj hI ⊢
 refine .seq (.aj (.z zm (.z (zfa ft) (.y hs (zld af) (.z nF (.z zm (.gX (t':=21) rfl (fun hb21=>?_) (fun hb21=>?_))))))))
 ·refine .T (.z zm (.T (.z (zfa fu) (.T (.y hs (zld af) (.T (.z cK (.T (.z fM (.zn zpT (.bA rfl (fun hc27=>?_) (fun hc27=>?_))))))))))))
  ·refine .skip (nT (.seq (.block (.aj (.y hs (zls [_,_,_,_,_,_] bg aM) (.y hs (zls [_,_,_,_] bw aV) (.z (zfa kS) (.y hs (zld af) (.z zm (.o (.call Tryz.call46 rfl (wG (s:=s) hs g1 g2 g) ?_)))))))))));rintro _ w ⟨k,e,rfl,hM,hs⟩
   have hM':=hM.day hsp hl hx an
   refine .z zm (.z zex (.z zex (.z zg (.zn zg (.seq (.aj (.z zm (.zn gE (.dV rfl (fun hc40=>?_) (fun hc40=>?_))))))))))
   ·refine .aj (.z zm (.z zg (.zn zg (.ret (rT (rB (rT (rT (rB (rT (Fin.gL Tryz.results116 rfl rfl ?_)))))))))))
    exact ⟨_,_,rfl,(hM'.resolve_right fun h=>hc40 h.1).2,hs.out⟩
   ·refine .skip (nT (.region (.z zm (.z zm (.z zR (.zn zg (nB (nT (.region (.z zm (.z cK (.zn zg (nT ?_)))))))))))))
    obtain ⟨_,hk0,n,h1,h2⟩:=hM'.resolve_left fun h=>h.1 an
    exact ⟨(j+1,min best k),.cons (by show some (I _)=some (I _);congr 2;omega) aU,⟨by dsimp only;omega,hI.step hl h1 h2 hk0,hs⟩,by dsimp only;omega⟩
  ·refine .exit (xT (xT (xB (nT (.aj (.z zm (.z zg (.zn zg (.ret (Fin.gL Tryz.results116 rfl rfl ?_))))))))))
   obtain rfl:j=lk x:=by omega
   exact ⟨_,_,rfl,hI.done hx,hs.out⟩
 ·refine .Fs 5 4 true (.zn zpF (.cF (.exit (xT (xT (xB (nT (.aj (.z zm (.z zg (.zn zg (.ret (Fin.gL Tryz.results116 rfl rfl ?_)))))))))))))
  obtain rfl:j=lk x:=by omega
  exact ⟨_,_,rfl,hI.done hx,hs.out⟩
end Go.Proofs.YteajddicacjkhaaGreat
