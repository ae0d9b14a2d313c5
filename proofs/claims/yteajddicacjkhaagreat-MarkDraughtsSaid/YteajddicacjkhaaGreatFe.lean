/-
  Texts of these claims, joined: Zv Zw Zx Zy Zz Na Nb Ni Nj Nq Nv Oc Od Oe Of Og Oh Oi Oj Ok Ol Om On Ot Ov Oz Ra.
-/
import Derived.Test.YteajddicacjkhaaGreatFd
namespace Go.Proofs.YteajddicacjkhaaGreat
open Go.MW
variable{H:bM}{w:World}{σ:List Ent}
theorem lk{a d:Int}(hs:St H w σ)(hd:1≤d)(ha: -4608000000000000000≤a∧a≤4608000000000000000):
  Cl Tryz.prog 119 [I a,I d] w fun v w'=>v=I (a/d)∧St H w' σ:=by
 have hq: -4608000000000000000≤a.tdiv d∧a.tdiv d≤4608000000000000000:=by
  have h1:=pC (n:=a) (d:=d) ak
  have h2:a/d≤4608000000000000000:=Int.ediv_le_of_le_mul ak (by
   have:=Int.mul_le_mul_of_nonneg_left hd (show (0:Int)≤4608000000000000000 by omega);omega)
  have h3: -4608000000000000000≤a/d:=Int.le_ediv_of_mul_le ak (by
   have:=Int.mul_le_mul_of_nonneg_left hd (show (0:Int)≤4608000000000000000 by omega);omega)
  by_cases h0:0≤a
  ·rw [Int.tdiv_eq_ediv_of_nonneg h0];omega
  ·split at h1
   ·have:a/d<0:=Int.ediv_neg_of_neg_of_pos ak ak
    omega
   ·omega
 have hfl:=pC (n:=a) (d:=d) ak
 refine Cl.o Tryz.func119 Tryz.ntmps119 ag2 ?_
 refine .aj (.zn zg (.aj (.z zm (.z zm (.q hs (vX rfl rfl ak ⟨ak,ak⟩) (.zn zg (.seq (.aj (.z zm (.z zm (.z Cm (.zn fi (.bw rfl (fun hc12=>?_) (fun hc12=>?_))))))))))))))
 ·refine .region (.z zm (.z gz (.zn zg (nT (.aj (.z zm (.zn zg (.ret (Fin.bu Tryz.results119 rfl ?_)))))))))
  rw [if_pos hc12] at hfl
  exact ⟨by rw [hfl],hs⟩
 ·refine .skip (nT (.aj (.z zm (.zn zg (.ret (Fin.bu Tryz.results119 rfl ?_))))))
  rw [if_neg hc12,Int.sub_zero] at hfl
  exact ⟨by rw [hfl],hs⟩
inductive AE(v:Srv)(q:Wht):Int→Prop
 |bad {e:Int} (h:wV v e) (he:e≠0):AE v q e
 |what (h:dq v) (h1:¬fL v.sp q):AE v q 33
 |ok (h:dq v) (h1:fL v.sp q):AE v q 0
theorem AE.zero{v:Srv}{q:Wht}(h:AE v q 0):dq v∧fL v.sp q:=by
 generalize hz:(0:Int)=z at h
 cases h with
 |bad h he=>exact (he hz.symm).elim
 |what=>omega
 |ok h h1=>exact ⟨h,h1⟩
theorem AE.qty{v:Srv}{q:Wht}{e:Int}(h:AE v q e)(he:e≠0):Bj v q 0 0 e:=by
 cases h with
 |bad h he=>exact .bad h he
 |what h h1=>exact .what h h1
 |ok=>exact (he rfl).elim
theorem Fc{v:Srv}(h:dq v){q:Wht}(hq:fL v.sp q)(i:Nat): -3456000000000≤gi (v.w q) i∧gi (v.w q) i≤3456000000000:=by
 unfold Srv.w
 rw [kb]
 by_cases hi:i<v.sp.many+1
 ·have h1:=my h.early.1 hq
  have h2:=iV (jU v.sp q) hi
  omega
 ·have:gi (jU v.sp q) i=0:=by simp [gi,List.getD,List.getElem?_eq_none (show (jU v.sp q).length≤i by rw [ft];omega)]
  rw [this];omega
def IV(w:List Int)(high:Bool):List Int:=if high then w else ue w
set_option maxHeartbeats 2000000 in
theorem tT{s:Srv}{q:Wht}{vst vwa vr vc:Value}{high:Bool}(hs:St H w σ)(h1:RI H vst s.sp.st)(h2:RI H vwa s.sp.wa)(h3:RRd H vr s.rs)(h4:RCm H vc s.cs):
  Cl Tryz.prog 201 [.agg #[I s.sp.id,I s.sp.src,vst,vwa,I s.sp.al,I s.sp.up,vr,vc],.agg #[I q.kind,I q.st,I q.wa],.bool high] w fun u w'=>∃H1 m ul vw d e,HLe H H1∧u= .tuple #[.agg #[I m,ul],vw,I d,I e]∧(∃a l c,ul= .slice a l c)∧(∃a l c,vw= .slice a l c)∧AE s q e∧(e=0→m=s.sys.many∧RL H1 ul s.cK∧RI H1 vw (IV (s.w q) high)∧d=ma q)∧St H1 w' σ:=by
 have hn:=vE s
 refine Cl.o Tryz.func201 Tryz.ntmps201 ag3 ?_
 refine .aj (.bx hs fun b3 w hs=>?_)
 refine .bx hs fun b4 w hs=>?_
 refine .o (.alloc hs di rfl fun b6 w hs=>?_)
 refine .z zg (.z zg (.zn zg (.aj (.y hs (zls [_,_,_,_,_,_,_,_] aI aB) (.o (.call Tryz.call123 rfl (iW (s:=s) hs h1 h2 h3 h4) ?_))))));rintro _ w ⟨H1,e,hle1,rfl,hC,hs⟩
 refine .zn zg (.seq (.aj (.z zm (.zn gv (.dP rfl (fun hc18=>?_) (fun hc18=>?_))))))
 ·refine .aj (.z (zbd [_,_] iR) (.z zm (.o (.aO (vs:=[_,_]) hs rfl rfl aF fun w hs=>?_))))
  refine .z zg (.z zg (.zn zg (.ret (rT (?_)))))
  exact Fin.fZ [] [] hs fun w hs=>⟨_,results4 Tryz.results201 (cB (vs:=[_,_]) hs rfl a8 aF) rfl rfl rfl,H1,_,_,_,_,e,hle1,rfl,⟨_,_,_,rfl⟩,⟨_,_,_,rfl⟩,.bad hC hc18,fun h=>(hc18 h).elim,hs.out⟩
 ·refine .skip (nT (.seq (.aj (.z (zfa aT) (.y hs (zls [_,_,_,_,_,_] aV aJ) (.y hs (zls [_,_,_] kP fG) ?_))))))
  have hok:dq s:=hC.cz.1 (by simpa using hc18)
  have hm:=hok.many
  have hsm:s.sys.many+1=(s.sys.n:Int):=by rw [hn];show ((s.sp.many+s.bZ.length:Nat):Int)+1=_;omega
  refine .o (.call Tryz.call155 rfl (sL (s:=s.sp) (q:=q) hs (h1.mono hle1) (h2.mono hle1)) ?_);rintro _ w ⟨b24,rfl,hb24,hs⟩
  refine .zn fY (.cond rfl (fun hc25=>?_) (fun hc25=>?_))
  ·refine .aj (.z (zbd [_,_] iR) (.o (.aO (vs:=[_,_]) hs rfl rfl aF fun w hs=>?_)))
   refine .z zg (.z zg (.zn zg (.ret (rT (?_)))))
   exact Fin.fZ [] [] hs fun w hs=>⟨_,results4 Tryz.results201 (cB (vs:=[_,_]) hs rfl a8 aF) rfl rfl rfl,H1,_,_,_,_,_,hle1,rfl,⟨_,_,_,rfl⟩,⟨_,_,_,rfl⟩,.what hok (fun h=>by rw [hb24.2 h] at hc25;cases hc25),fun h=>by omega,hs.out⟩
  ·refine .skip (nT (.aj (.y hs (zls [_,_,_,_,_,_,_,_] aI aB) ?_)))
   have hq:fL s.sp q:=hb24.1 (by simpa using hc25)
   have hwb:=Fc hok hq
   have hwl:=tz s q
   refine .o (.call Tryz.call205 rfl (jM (s:=s) hs (h1.mono hle1) (h2.mono hle1) (h3.mono hle1) (h4.mono hle1) hok.early) ?_);rintro _ w ⟨H2,hle2,⟨ul,rfl,hL⟩,hs⟩
   obtain ⟨al,cl,rfl⟩:=RL.shape hL
   have hle02:=hle1.trans hle2
   refine .o (.alloc hs di rfl fun b11 w hs=>?_)
   refine .o (.aO (vs:=[_,_]) hs rfl rfl aF fun w hs=>?_)
   refine .nil (.aj (.z (zfa aT) (.y hs (zls [_,_,_,_,_,_] aV aJ) (.y hs (zls [_,_,_] kP fG) (.o (.call Tryz.call156 rfl (sK (s:=s.sp) (q:=q) hs (h1.mono hle02) (h2.mono hle02) hok.early.1 hq) ?_))))));rintro _ w ⟨H3,vl,en,hle3,rfl,hO,hs⟩
   have hle03:=hle02.trans hle3
   have hL0:=ft s.sp q
   refine .z zm (.z zex (.z zex (.z zg (.zn zg (.seq (.block ?_))))))
   refine .loop (fun p:Nat×Value=>⟨64,[],[(12,p.2),(13,I (ma q)),(11,Pt b11),(6,Pt b6),(2,.bool high)]⟩)
    (fun p w=>(jU s.sp q).length+p.1≤s.sys.n∧∃en,cq 1 p.2 (Is (jU s.sp q++List.replicate p.1 0)) en∧St H3 w (en:: .blk b11 [I s.sys.many,.slice al s.cK.length cl]:: .blk b6 [I 0,.slice none 0 0]::σ)) (fun p=>s.sys.n - ((jU s.sp q).length+p.1)) (0,vl) aR
    ⟨by dsimp only;omega,en,by simpa using hO,hs.sb⟩ ?_
   clear hO hs
   rintro ⟨j,vo⟩ w ⟨hj,en,hO,hs⟩
   dsimp only at hj hO ⊢
   obtain ⟨bo,cap,sp,hv,rfl,hcap⟩:=hO.blk (by simp;omega)
   cases hv
   have hWxl:(jU s.sp q++List.replicate j 0).length=(jU s.sp q).length+j:=by simp
   generalize hWx:jU s.sp q++List.replicate j 0=Wx at*
   refine .seq (.aj (.z zm (.z (cJ ae) (.z (zfa bP) (.y hs (zld af) (.z cn (.zn fi (.bw rfl (fun hc41=>?_) (fun hc41=>?_)))))))))
   ·refine .skip (nT (.block (.region (.z zm (.o (.buildSlice (cells:=[_]) hs cD rfl rfl fun b43 w hs=>?_))))))
    refine .o (.append (ys:=Is [0]) hs cj rfl rfl hO (.own .here rfl rfl) (iC _) (fun l' h=>by simp [Is] at h;omega) ?_);intro v44 en44 w hO2 hs
    rw [←hWx,show Is (jU s.sp q++List.replicate j 0)++Is [0]=Is (jU s.sp q++List.replicate (j+1) 0) by rw [←Ce];simp [Is]] at hO2
    refine .zn zg (nB (nT ?_))
    exact ⟨(j+1,v44),aR,⟨by dsimp only;omega,_,hO2,hs.sb⟩,by dsimp only;omega⟩
   ·refine .exit (xT (xT (xB (nT (.cut (fun fs w=>∃W',W'=IV Wx high∧kF fs ⟨64,[],[(12,.slice (some ⟨bo,0,none⟩) Wx.length cap),(13,I (ma q)),(11,Pt b11),(6,Pt b6)]⟩∧St H3 w (.blk bo (Is W'++sp):: .blk b11 [I s.sys.many,.slice al s.cK.length cl]:: .blk b6 [I 0,.slice none 0 0]::σ)) ?_ ?_)))))
    ·refine .aj (.z zm (.zn fY (.cond rfl (fun hc46=>?_) (fun hc46=>?_))))
     ·refine .aj (.zn zg (.block ?_))
      have hWeq:Wx=s.w q:=by rw [←hWx];unfold Srv.w;rw [show j=s.bZ.length by omega]
      subst hWeq
      refine .loop (fun k:Nat=>⟨64,[],[(14,I (k:Int)),(12,.slice (some ⟨bo,0,none⟩) (s.w q).length cap),(13,I (ma q)),(11,Pt b11),(6,Pt b6)]⟩)
       (fun k w=>k≤s.sys.n∧∃L,L.length=s.sys.n∧(∀v<s.sys.n,gi L v=if v<k then -gi (s.w q) v else gi (s.w q) v)∧St H3 w (.blk bo (Is L++sp):: .blk b11 [I s.sys.many,.slice al s.cK.length cl]:: .blk b6 [I 0,.slice none 0 0]::σ)) (fun k=>s.sys.n - k) 0 (.bT rfl bJ aR)
       ⟨Nat.zero_le _,s.w q,hwl,fun v _=>by rw [if_neg ak],hs⟩ ?_
      clear hs
      rintro k w ⟨hk,L,hLl,hLg,hs⟩
      refine .seq (.aj (.z zm (.z zm (.z (cJ ae) (.zn fi (.bw rfl (fun hc50=>?_) (fun hc50=>?_)))))))
      ·refine .skip (nT (.seq (.block (.region (.z zm (.z zm (.z zm (.z zm ?_))))))))
       have hkn:k<s.sys.n:=by omega
       have hgk:=hLg k hkn
       rw [if_neg ak] at hgk
       have hbk:=hwb k
       refine .q hs (ed (k:=k) rfl rfl ae ai rfl ak) (.q hs (dO rfl af (hv:=fC ak sp)) (.z Bp (.q hs (ed (k:=k) rfl rfl ae ai rfl ak) (.o (.store (c':=Is (L.set k (-gi L k))++sp) hs rfl rfl ai ?_ dx (by simp [Is];omega) (iT ak sp _))))));intro w hs
       refine .nil (nB (nT (.region (.z zm (.z cn (.zn zg (nT ?_)))))))
       exact ⟨k+1,.bT rfl bJ aR,⟨ak,_,by rw [List.length_set];exact hLl,fun v hv=>by
        rw [eL ak]
        by_cases e:v=k
        ·subst e;rw [if_pos rfl,if_pos ak,hgk]
        ·rw [if_neg e,hLg v hv]
         by_cases e2:v<k
         ·rw [if_pos e2,if_pos ak]
         ·rw [if_neg e2,if_neg ak],hs⟩,ak⟩
      ·refine .exit (xT (xT (xB (nT ?_))))
       have hf:high=false:=by simpa using hc46
       refine ⟨L,?_,aR,hs⟩
       unfold IV;rw [hf]
       refine xS (by rw [hLl];simp [ue,hwl]) fun v hv=>?_
       rw [hLg v ak,if_pos ak]
       show _=gi ((s.w q).map fun x=> -x) v
       simp [gi,List.getD,List.getElem?_map]
       cases (s.w q)[v]? <;>simp
     ·refine .skip (nT ?_)
      have hf:high=true:=by simpa using hc46
      exact ⟨Wx,by unfold IV;rw [hf];rfl,aR,hs⟩
    ·clear hO hs
     rintro fs w ⟨W',hW',hfs,hs⟩
     refine WE.sub ?_ hfs
     have hWeq:Wx=s.w q:=by rw [←hWx];unfold Srv.w;rw [show j=s.bZ.length by omega]
     subst hWeq
     have hWl:W'.length=(s.w q).length:=by rw [hW'];unfold IV;split<;>simp [ue]
     refine .aj (.y hs (zls [_,_] a8 aF) (.z zm (.z zm (.o (.aO (vs:=[_,_]) hs rfl rfl aF fun w hs=>?_)))))
     refine .z zg (.z zg (.zn zg (.ret ?_)))
     obtain ⟨H4,hle4,hR,hs⟩:=cq.dB (xs:=W') (v:= .slice (some ⟨bo,0,none⟩) (s.w q).length cap) (.inr ⟨bo,_,cap,sp,rfl,rfl,by simp [Is,hWl],by simp [Is];omega,ak⟩) ak hs dx
     exact Fin.fZ [] [] hs fun w hs=>⟨_,results4 Tryz.results201 (cB (vs:=[_,_]) hs rfl a8 aF) rfl rfl rfl,H4,_,_,_,_,_,hle03.trans hle4,rfl,⟨_,_,_,rfl⟩,⟨_,_,_,rfl⟩,.ok hok hq,fun _=>⟨rfl,hL.mono (hle3.trans hle4),by rw [←hW'];exact hR,rfl⟩,hs.out⟩
set_option maxHeartbeats 1000000 in
theorem tV{s:Srv}{q:Wht}{vst vwa vr vc:Value}(hs:St H w σ)(h1:RI H vst s.sp.st)(h2:RI H vwa s.sp.wa)(h3:RRd H vr s.rs)(h4:RCm H vc s.cs):
  Cl Tryz.prog 143 [.agg #[I s.sp.id,I s.sp.src,vst,vwa,I s.sp.al,I s.sp.up,vr,vc],.agg #[I q.kind,I q.st,I q.wa]] w fun u w'=>∃H1 lo hi e,HLe H H1∧u= .tuple #[.agg #[I lo,I hi],I e]∧Bj s q lo hi e∧St H1 w' σ:=by
 refine Cl.o Tryz.func143 Tryz.ntmps143 ag2 ?_
 refine .aj (.bx hs fun b2 w hs=>?_)
 refine .bx hs fun b3 w hs=>?_
 refine .o (.alloc hs aW rfl fun b4 w hs=>?_)
 refine .zn zg (.aj (.y hs (zls [_,_,_,_,_,_,_,_] aI aB) (.y hs (zls [_,_,_] kP fG) (.o (.call Tryz.call201 rfl (tT (s:=s) (q:=q) (high:=true) hs h1 h2 h3 h4) ?_)))));rintro _ w ⟨H1,m,ul,vw,d,e,hle1,rfl,⟨al,ll,cl,rfl⟩,⟨aw,lw,cw,rfl⟩,hA,hA0,hs⟩
 refine .z zm (.z zex (.z zex (.z zex (.z zex (.o (.alloc hs di rfl fun b6 w hs=>?_))))))
 refine .o (.aO (vs:=[_,_]) hs rfl rfl aF fun w hs=>?_)
 refine .z zg (.z zg (.zn zg (.seq (.aj (.z zm (.zn gv (.dP rfl (fun hc22=>?_) (fun hc22=>?_))))))))
 ·refine .aj (.z (zbd [_,_] aZ) (.z zm (.o (.aO (vs:=[_,_]) hs rfl rfl an fun w hs=>?_))))
  refine .zn zg (.ret (rT (?_)))
  exact Fin.fZ [] [] hs fun w hs=>⟨_,results2 Tryz.results143 (cB (vs:=[_,_]) hs rfl aC an) rfl,H1,_,_,_,hle1,rfl,hA.qty hc22,hs.out⟩
 ·refine .skip (nT (.aj (.y hs (zls [_,_] a8 aF) (.z zm ?_))))
  obtain rfl:e=0:=by simpa using hc22
  obtain ⟨rfl,hL,hR,rfl⟩:=hA0 rfl
  obtain ⟨hok,hq⟩:=hA.zero
  refine .o (.call Tryz.call204 rfl (tZ (s:=s.sys) hs ⟨_,rfl,hL⟩ hR) ?_);rintro _ w ⟨H2,lo,hi,f,hle2,rfl,hRg,hs⟩
  have hRg:gG s.sys (s.w q) lo hi f:=hRg
  have hbd:=hRg.bd
  have hdp:=uU q
  refine .z zm (.z zex (.z zex (.z zex (.z zg (.z zg (.zn zg (.seq (.aj (.z zm (.zn gv (.dP rfl (fun hc33=>?_) (fun hc33=>?_))))))))))))
  ·refine .aj (.z (zbd [_,_] aZ) (.o (.aO (vs:=[_,_]) hs rfl rfl an fun w hs=>?_)))
   refine .zn zg (.ret (rT (?_)))
   have hns:¬s.sys.Sound:=fun h=>hc33 (rU (hok.ask hq) h (fun b=>s.both) hRg)
   exact Fin.fZ [] [] hs fun w hs=>⟨_,results2 Tryz.results143 (cB (vs:=[_,_]) hs rfl aC an) rfl,H2,_,_,_,hle1.trans hle2,rfl,.fls hok hq hns,hs.out⟩
  ·refine .skip (nT (.aj (.z zm (.z zm ?_))))
   obtain rfl:f=0:=by simpa using hc33
   have hsd:s.sys.Sound:=Classical.byContradiction fun h=>by have:=Bg (hok.ask hq) h hRg;omega
   refine .o (.call Tryz.call119 rfl (lk hs ak ak) ?_);rintro _ w ⟨rfl,hs⟩
   refine .z zm (.z zm (.o (.call Tryz.call119 rfl (lk hs ak ak) ?_)));rintro _ w ⟨rfl,hs⟩
   refine .z (zbd [_,_] aZ) (.o (.aO (vs:=[_,_]) hs rfl rfl an fun w hs=>?_))
   refine .zn zg (.ret ?_)
   exact Fin.fZ [] [] hs fun w hs=>⟨_,results2 Tryz.results143 (cB (vs:=[_,_]) hs rfl aC an) rfl,H2,_,_,_,hle1.trans hle2,rfl,.ok hok hq hsd hRg,hs.out⟩
theorem cf{n m:Int}(hs:St H w σ)(hm:1≤m∧m≤4611686018427387904):
  Cl Tryz.prog 90 [I n,I m] w fun u w'=>∃k:Nat,(k:Int)<m∧u=I (k:Int)∧St H w' σ:=by
 have h1:=Int.tmod_lt_of_pos n (show 0<m by omega)
 have h2:=Int.lt_tmod_of_pos n (show 0<m by omega)
 have h3:=Int.tmod_lt_of_pos (n.tmod m+m) (show 0<m by omega)
 have h4:=Int.tmod_nonneg m (show 0≤n.tmod m+m by omega)
 refine Cl.o Tryz.func90 Tryz.ntmps90 ag2 ?_
 refine .aj (.zn zg (.aj (.z zm (.z zm (.z Cm (.z zm (.z cn (.z zm (.z Cm (.zn zg (.ret (Fin.bu Tryz.results90 rfl ?_))))))))))))
 exact ⟨((n.tmod m+m).tmod m).toNat,ak,by rw [show (((n.tmod m+m).tmod m).toNat:Int)=(n.tmod m+m).tmod m by omega],hs⟩
theorem dj{v:Value}{l:List Int}{i n:Int}(hs:St H w σ)(hr:RI H v l)(hi:0≤i)(hn:1≤n∧n≤4611686018427387904):
  Cl Tryz.prog 146 [v,I i,I n] w fun u w'=>∃k:Nat,(k:Int)<n∧u=I (k:Int)∧St H w' σ:=by
 obtain ⟨a,c,rfl⟩:=RI.shape hr
 refine Cl.o Tryz.func146 Tryz.ntmps146 ag3 ?_
 refine .aj (.zn zg (.seq (.aj (.z zm (.z (cJ ae) (.zn gw (.bw rfl (fun hc9=>?_) (fun hc9=>?_))))))))
 ·refine .aj (.zn zg (.ret (rT (Fin.bu Tryz.results146 rfl ?_))))
  exact ⟨0,ak,rfl,hs⟩
 ·refine .skip (nT (.aj (.z zm (.z zm (.z zm (.z (cJ ae) (.z Cm ?_)))))))
  have g1:=Int.tmod_lt_of_pos i (show 0<(l.length:Int) by omega)
  have g2:=Int.tmod_nonneg (l.length:Int) hi
  refine .ixY hs hr rfl rfl ae ai (bq (l:=l) (i:=(i.tmod l.length).toNat) ak) ak ?_;intro b15 o15 hc15
  refine .q hs (aM rfl af hc15) (.z zm (.o (.call dR rfl (cf hs hn) ?_)));rintro _ w ⟨k,hk,rfl,hs⟩
  refine .zn zg (.ret (Fin.bu Tryz.results146 rfl ?_))
  exact ⟨k,hk,rfl,hs⟩
theorem vR{v vp:Value}{s:cP}{j5:List Int}(hs:St H w σ)(hr:RSy H v s)(hp:RI H vp j5)(hgood:s.Ok∧s.Sound):
  Cl Tryz.prog 149 [v,vp] w fun u w'=>∃H1 vx x en,HLe H H1∧u= .tuple #[vx,I 0]∧cq 1 vx (Is x) en∧ya s j5 x∧St H1 w' (en::σ):=by
 obtain ⟨ul,rfl,hl⟩:=hr
 obtain ⟨al,cl,rfl⟩:=RL.shape hl
 obtain ⟨ap,cp,rfl⟩:=RI.shape hp
 refine Cl.o Tryz.func149 Tryz.ntmps149 ag2 ?_
 refine .aj (.bx hs fun b2 w hs=>?_)
 refine .z zg (.zn zg (.aj (.y hs (zls [_,_] a8 aF) (.o (.call Tryz.call147 rfl (kx (s:=s) hs ⟨_,rfl,hl⟩) ?_)))));rintro _ w ⟨H1,vt,e,hle1,rfl,hcase,hs⟩
 refine .z zm (.z zex (.z zex (.z zg (.zn zg (.seq (.aj (.z zm (.zn gv (.dP rfl (fun hc20=>?_) (fun hc20=>?_))))))))))
 ·refine .aj (.z zm (.z zg (.zn zg (.ret (rT (Fin.iO Tryz.results149 rfl rfl ?_))))))
  rcases hcase with ⟨h1,rfl,rfl⟩|⟨h1,h2,rfl,rfl⟩|⟨_,_,rfl,_⟩
  ·exact (h1 (s.cz.2 hgood.1)).elim
  ·exact (h2 hgood.2).elim
  ·exact (hc20 rfl).elim
 ·refine .skip (nT (.aj ?_))
  subst hc20
  obtain ⟨hok,hsd,rs,hRT,hSq,hWT⟩:s.Ok∧s.Sound∧∃rs,RT H1 vt rs∧Sq s.n rs∧jg s.n s.dp (gt rs):=by
   rcases hcase with ⟨h1,h2,_⟩|⟨_,_,h2,_⟩|⟨h1,h2,_,h3⟩
   ·exact (h1 h2.symm).elim
   ·omega
   ·exact ⟨h1,h2,h3⟩
  obtain ⟨at',ct,rfl⟩:=hRT.shape
  have hTS:=hok.Jb hsd hWT
  have hrl:=hSq.1
  have hm0:=hok.m0
  have hm1:=hok.m1
  have hnn:(s.n:Int)=s.many+1:=by simp only [cP.n];omega
  refine .o (.buildSlice (cells:=[_]) hs cD rfl rfl fun b22 w hs=>?_)
  refine .zn zg (.seq (.aj (.zn zg (.block ?_))))
  refine .loop (fun p:List Int×Value=>⟨109,[],[(9,I (p.1.length:Int)),(8,p.2),(6,.slice at' rs.length ct),(2,Pt b2),(1,.slice ap j5.length cp)]⟩)
   (fun p w=>HP (gt rs) (rn j5) p.1∧p.1.length≤s.n∧∃en,cq 1 p.2 (Is p.1) en∧St H1 w (en:: .blk b2 [I s.many,.slice al s.cK.length cl]::σ))
   (fun p=>s.n - p.1.length) ([0],.slice (some ⟨b22,0,none⟩) 1 1) aR
   ⟨.start,s.CB,_,.full (len:=1) rfl,hs⟩ ?_
  rintro ⟨X,v8⟩ w ⟨hP,hXn,en,hO,hs⟩
  dsimp only at hP hXn hO ⊢
  have hI:=hP.inv (fun i n hn=>yE j5 i hn) hTS hXn
  have hX0:=hI.l0
  have hO1:=hO
  obtain ⟨b,cap,sp,rfl,rfl,hcap⟩:=hO.some hX0
  refine .seq (.aj (.z zm (.z (zfa bP) (.y hs (zld af) (.zn pc (.bw rfl (fun hc26=>?_) (fun hc26=>?_)))))))
  ·refine .skip (nT (.seq (.block (.aj (.zn zg ?_)))))
   have hXl:X.length<s.n:=by omega
   refine .aj (.zn zg (.seq (.aj (.z zm (.z (cJ ae) (.zn zm (.for (N:=X.length) (J:=fun k fr w=>∃lo hi,fr=[(10,I lo),(11,I hi),(9,I (X.length:Int)),(8,.slice (some ⟨b,0,none⟩) X.length cap),(6,.slice at' rs.length ct),(2,Pt b2),(1,.slice ap j5.length cp)]∧LoI (gt rs) X X.length k lo∧HiI (gt rs) X X.length k hi∧St H1 w (.blk b (Is X++sp):: .blk b2 [I s.many,.slice al s.cK.length cl]::σ)) ak ?_ ?_ ?_)))))))
   ·exact .mk ⟨_,_,rfl,.start _ _ _,.start _ _ _,hs⟩
   ·rintro k fr w hk ⟨lo,hi,rfl,hLo,hHi,hs⟩
    have hXk:=hI.bd k hk
    have hr1:(gr rs X.length).length=s.n:=hSq.2 _ hXl
    have hr2:(gr rs k).length=s.n:=hSq.2 _ ak
    have hb1:gi (gr rs X.length) k≠1000000000→-1400000≤gi (gr rs X.length) k∧gi (gr rs X.length) k≤1400000:=fun h=>hTS.bd X.length k hXl ak h
    have hb2:gi (gr rs k) X.length≠1000000000→-1400000≤gi (gr rs k) X.length∧gi (gr rs k) X.length≤1400000:=fun h=>hTS.bd k X.length ak hXl h
    refine .block (.aj (.z zm (.zn zg (.cut (fun fs w=>∃lo',kF fs ⟨109,[],[(10,I lo'),(12,I (k:Int)),(31,I (k:Int)),(30,I (X.length:Int)),(11,I hi),(9,I (X.length:Int)),(8,.slice (some ⟨b,0,none⟩) X.length cap),(6,.slice at' rs.length ct),(2,Pt b2),(1,.slice ap j5.length cp)]⟩∧LoI (gt rs) X X.length (k+1) lo'∧St H1 w (.blk b (Is X++sp):: .blk b2 [I s.many,.slice al s.cK.length cl]::σ)) ?_ ?_))))
    ·refine .aj (.z zm (.z zm (.ixT hs hRT rfl rfl au az (show X.length<rs.length by omega) rfl ?_)));intro b36 o36 a36 c36 hc36 hR36
     refine .q hs (aM rfl aq hc36) (.z zm (.ixY hs hR36 rfl rfl ae ai (bq (l:=gr rs X.length) (i:=k) ak) rfl ?_));intro b39 o39 hc39
     refine .q hs (aM rfl af hc39) (.zn gv (.dP rfl (fun hc41=>?_) (fun hc41=>?_)))
     ·refine .draw mix rfl hs fun w hs=>?_
      refine .zw 0 rfl zm ?_;refine .z 1 rfl zm ?_;refine .z 2 rfl zm ?_;refine .z 3 rfl (zix ae ai) ?_
      refine .load (i:=4) hs rfl aD .none rfl af ?_ (hv:=fC hk sp)
      refine .zw 5 rfl zm ?_;refine .z 6 rfl zm ?_
      refine .ixT (i:=7) hs rfl aD .none hRT rfl rfl au az (show X.length<rs.length by omega) rfl ?_;intro b49 o49 a49 c49 hc49 hR49
      refine .r (i:=8) hs rfl aD .none (aM rfl aq hc49) ?_
      refine .zw 9 rfl zm (.ixX (enc:=fun x=>[I x]) (i:=10) hs rfl aD .none hR49 rfl rfl ae ai (bq (l:=gr rs X.length) (i:=k) ak) rfl ?_);intro b52 o52 hc52;replace hc52:=bB.one hc52
      refine .r (i:=11) hs rfl aD .none (aM rfl af hc52) ?_
      refine .zw 12 rfl gz ?_;refine .z 13 rfl CX ?_;refine .z 14 rfl zg ?_;refine .D hs ?_
      refine nT ?_
      exact ⟨_,aR,hLo.put hc41 (by have:=hb1 hc41;have:=hXk;have:=hTS.n65;show -1000000000≤gi X k - gi (gr rs X.length) k;omega),hs⟩
     ·refine .skip (nT ?_)
      exact ⟨_,aR,hLo.skip hc41,hs⟩
    ·rintro fs w ⟨lo',hfs,hLo',hs⟩
     refine WE.sub ?_ hfs
     refine .aj (.z zm (.z zm (.ixT hs hRT rfl rfl au az (show k<rs.length by omega) rfl ?_)));intro b58 o58 a58 c58 hc58 hR58
     refine .q hs (aM rfl aq hc58) (.z zm (.ixY hs hR58 rfl rfl ae ai (bq (l:=gr rs k) (i:=X.length) ak) rfl ?_));intro b61 o61 hc61
     refine .q hs (aM rfl af hc61) (.zn gv (.dP rfl (fun hc63=>?_) (fun hc63=>?_)))
     ·refine .draw mix rfl hs fun w hs=>?_
      refine .zw 0 rfl zm ?_;refine .z 1 rfl zm ?_;refine .z 2 rfl zm ?_;refine .z 3 rfl (zix ae ai) ?_
      refine .load (i:=4) hs rfl aD .none rfl af ?_ (hv:=fC hk sp)
      refine .zw 5 rfl zm ?_;refine .z 6 rfl zm ?_
      refine .ixT (i:=7) hs rfl aD .none hRT rfl rfl au az (show k<rs.length by omega) rfl ?_;intro b71 o71 a71 c71 hc71 hR71
      refine .r (i:=8) hs rfl aD .none (aM rfl aq hc71) ?_
      refine .zw 9 rfl zm (.ixX (enc:=fun x=>[I x]) (i:=10) hs rfl aD .none hR71 rfl rfl ae ai (bq (l:=gr rs k) (i:=X.length) ak) rfl ?_);intro b74 o74 hc74;replace hc74:=bB.one hc74
      refine .r (i:=11) hs rfl aD .none (aM rfl af hc74) ?_
      refine .zw 12 rfl cn ?_;refine .z 13 rfl AI ?_;refine .z 14 rfl zg ?_;refine .D hs ?_
      refine nB (nT ?_)
      exact .mk ⟨lo',_,rfl,hLo',hHi.put hc63 (by have:=hb2 hc63;have:=hXk;have:=hTS.n65;show gi X k+gi (gr rs k) X.length≤1000000000;omega),hs⟩
     ·refine .skip (nB (nT ?_))
      exact .mk ⟨lo',_,rfl,hLo',hHi.skip hc63,hs⟩
   ·rintro fr w ⟨lo,hi,rfl,hLo,hHi,hs⟩
    have hlb:=hLo.bd hI hTS hXl (Nat.le_refl _)
    have hhb:=hHi.bd hI hTS hXl (Nat.le_refl _)
    have hle:=hI.le hTS hXl rfl hLo hHi
    simp only [free] at hlb hhb hle
    have hpk:=yE j5 ((X.length:Int) - 1) (n:=hi - lo+1)
    refine nT (.aj (.zn zg (.cut (fun fs w=>kF fs ⟨109,[],[(13,I (kC lo hi (rn j5 ((X.length:Int) - 1) (hi - lo+1)))),(9,I (X.length:Int)),(8,.slice (some ⟨b,0,none⟩) X.length cap),(6,.slice at' rs.length ct),(2,Pt b2),(1,.slice ap j5.length cp)]⟩∧St H1 w (.blk b (Is X++sp):: .blk b2 [I s.many,.slice al s.cK.length cl]::σ)) ?_ ?_)))
    ·refine .block (.aj (.z zm (.z gv (.z zm (.Aw (t':=82) rfl (fun hb82=>?_) (fun hb82=>?_))))))
     ·refine .T (.z zm (.T (.z gv (.z zpT (.zn zg (.dP rfl (fun hc79=>?_) (fun hc79=>?_)))))))
      ·refine .region (.z zm (.z zm (.z zm (.z gz (.z zm (.z zm (.z gz (.z cn (.o (.call Tryz.call209 rfl (vS hs (hp.mono hle1) ak ak) ?_))))))))));rintro _ w ⟨rfl,hs⟩
       have hq1:hi≠1000000000:=by simpa using hc79
       have hq2:=hle (by simpa using hb82) hq1
       have hq3:=hpk ak
       refine .z cn (.zn zg (nB (nT (⟨.bT rfl ?_ aR,hs⟩))))
       unfold kC
       simp only [free] at*
       split<;>(try split)<;>first|rfl|omega|(simp_all;done)|(exfalso;simp_all;omega)
      ·refine .aj (.z zm (.z gv (.zn zg (.dP rfl (fun hc96=>?_) (fun hc96=>?_)))))
       ·refine .region (.z zm (.zn zg (nB (nT (⟨.bT rfl ?_ aR,hs⟩)))))
        unfold kC
        simp only [free] at*
        split<;>(try split)<;>first|rfl|omega|(simp_all;done)|(exfalso;simp_all;omega)
       ·refine .aj (.z zm (.z gv (.zn zg (.dP rfl (fun hc100=>?_) (fun hc100=>?_)))))
        ·refine .region (.z zm (.zn zg (nB (nT (⟨.bT rfl ?_ aR,hs⟩)))))
         unfold kC
         simp only [free] at*
         split<;>(try split)<;>first|rfl|omega|(simp_all;done)|(exfalso;simp_all;omega)
        ·refine .skip (nB (nT (⟨.bT rfl ?_ aR,hs⟩)))
         unfold kC
         simp only [free] at*
         split<;>(try split)<;>first|rfl|omega|(simp_all;done)|(exfalso;simp_all;omega)
     ·refine .Fs 2 2 true (.z zpF (.zn zg (.cF (.aj (.z zm (.z gv (.zn zg (.dP rfl (fun hc96=>?_) (fun hc96=>?_)))))))))
      ·refine .region (.z zm (.zn zg (nB (nT (⟨.bT rfl ?_ aR,hs⟩)))))
       unfold kC
       simp only [free] at*
       split<;>(try split)<;>first|rfl|omega|(simp_all;done)|(exfalso;simp_all;omega)
      ·refine .aj (.z zm (.z gv (.zn zg (.dP rfl (fun hc100=>?_) (fun hc100=>?_)))))
       ·refine .region (.z zm (.zn zg (nB (nT (⟨.bT rfl ?_ aR,hs⟩)))))
        unfold kC
        simp only [free] at*
        split<;>(try split)<;>first|rfl|omega|(simp_all;done)|(exfalso;simp_all;omega)
       ·refine .skip (nB (nT (⟨.bT rfl ?_ aR,hs⟩)))
        unfold kC
        simp only [free] at*
        split<;>(try split)<;>first|rfl|omega|(simp_all;done)|(exfalso;simp_all;omega)
    ·rintro fs w ⟨hfs,hs⟩
     refine WE.sub ?_ hfs
     refine .region (.z zm (.z zm (.o (.buildSlice (cells:=[_]) hs cD rfl rfl fun b106 w hs=>?_))))
     refine .o (.append (ys:=Is [kC lo hi (rn j5 ((X.length:Int) - 1) (hi - lo+1))]) hs cj rfl rfl hO1 (.own .here rfl rfl) (iC _) (fun l' h=>by simp at h;have:=hTS.n65;omega) ?_);intro v107 en107 w hO2 hs
     rw [←List.map_append] at hO2
     refine .zn zg (nB (nT (.region (.z zm (.z cn (.zn zg (nT ?_)))))))
     exact ⟨(X++[kC lo hi (rn j5 ((X.length:Int) - 1) (hi - lo+1))],v107),.bT rfl bJ aR,⟨hP.snoc hLo hHi,by simp;omega,_,hO2,hs.sb⟩,by simp;omega⟩
  ·refine .exit (xT (xT (xB (nT (.aj (.z zm (.z zg (.zn zg (.ret (Fin.iO Tryz.results149 rfl rfl ?_))))))))))
   exact ⟨H1,_,X,_,hle1,rfl,hO1,⟨gt rs,hWT,hP,ak⟩,hs.sb⟩
theorem ou{s:Srv}{vst vwa vr vc:Value}(hs:St H w σ)(h1:RI H vst s.sp.st)(h2:RI H vwa s.sp.wa)(h3:RRd H vr s.rs)(h4:RCm H vc s.cs)(he:s.early):
  Cl Tryz.prog 148 [.agg #[I s.sp.id,I s.sp.src,vst,vwa,I s.sp.al,I s.sp.up,vr,vc]] w fun u w'=>∃H1,HLe H H1∧RSy H1 u s.pP∧St H1 w' σ:=by
 obtain ⟨ar,cr,rfl⟩:=RRd.shape h3
 have hfl:=BZ s
 have hrl:=he.2.1
 refine Cl.o Tryz.func148 Tryz.ntmps148 ag1 ?_
 refine .aj (.bx hs fun b1 w hs=>?_)
 refine .o (.alloc hs di rfl fun b2 w hs=>?_)
 refine .nil (.aj (.y hs (zls [_,_,_,_,_,_,_,_] aI aB) (.o (.call Tryz.call205 rfl (jM (s:=s) hs h1 h2 h3 h4 he) ?_))));rintro _ w ⟨H1,hle1,⟨ul,rfl,hL⟩,hs⟩
 have hL:RL H1 ul s.cK:=hL
 obtain ⟨al,cl,rfl⟩:=RL.shape hL
 have hln:=RS.len hL
 rw [List.length_map] at hln
 refine .o (.alloc hs di rfl fun b3 w hs=>?_)
 refine .o (.aO (vs:=[_,_]) hs rfl rfl aF fun w hs=>?_)
 refine .nil (.aj (.z (zfa bX) (.y hs (zld de) (.z (zfa bX) (.y hs (zld de) (.z (cJ aS) (.z (zfa aP) (.y hs (zld bA) (.z (cJ aA) (.z kq (.z gz (.q hs (oA (k:=s.oM.length) rfl rfl aS bp ak ak) ?_))))))))))))
 have hT:=RS.head hL (k:=s.oM.length) ak
 rw [←List.map_take,Ad] at hT
 refine .z (zfa bX) (.o (.store hs rfl rfl pX fun w hs=>?_))
 refine .nil (.aj (.y hs (zls [_,_] a8 aF) (.o (.aO (vs:=[_,_]) hs rfl rfl aF fun w hs=>?_))))
 refine .nil (.ret ?_)
 exact Fin.fZ [] [] hs fun w hs=>⟨_,results1 Tryz.results148 (cB (vs:=[_,_]) hs rfl a8 aF),H1,hle1,⟨_,rfl,hT⟩,hs.out⟩
theorem vO{s:Srv}{vst vwa vr vc:Value}(hs:St H w σ)(h1:RI H vst s.sp.st)(h2:RI H vwa s.sp.wa)(h3:RRd H vr s.rs)(h4:RCm H vc s.cs)(he:s.early)(hok:s.pP.Ok):
  Cl Tryz.prog 91 [.agg #[I s.sp.id,I s.sp.src,vst,vwa,I s.sp.al,I s.sp.up,vr,vc]] w fun u w'=>∃H1,∃b:Bool,HLe H H1∧u= .bool b∧(b=false→s.pP.Sound)∧St H1 w' σ:=by
 refine Cl.o Tryz.func91 Tryz.ntmps91 ag1 ?_
 refine .aj (.bx hs fun b1 w hs=>?_)
 refine .zn zg (.aj (.y hs (zls [_,_,_,_,_,_,_,_] aI aB) (.o (.call Tryz.call148 rfl (ou (s:=s) hs h1 h2 h3 h4 he) ?_))));rintro _ w ⟨H1,hle1,hS,hs⟩
 refine .o (.call Tryz.call147 rfl (kx (s:=s.pP) hs hS) ?_);rintro _ w ⟨H2,vt,e,hle2,rfl,hcase,hs⟩
 refine .z zm (.z zex (.z zex (.z zg (.zn zg (.aj (.z zm (.z gv (.zn zg (.ret (Fin.bu Tryz.results91 rfl ?_))))))))))
 exact ⟨H2,_,hle1.trans hle2,rfl,fun h=>by
  rcases hcase with ⟨k1,_,_⟩|⟨_,_,k3,_⟩|⟨_,k2,_,_⟩
  ·exact (k1 (s.pP.cz.2 hok)).elim
  ·subst k3;simp at h
  ·exact k2,hs.out⟩
theorem vN{s:Srv}{vst vwa vr vc vp:Value}{j5:List Int}(hs:St H w σ)(h1:RI H vst s.sp.st)(h2:RI H vwa s.sp.wa)(h3:RRd H vr s.rs)(h4:RCm H vc s.cs)(hp:RI H vp j5)(he:s.early)(hok:s.pP.Ok∧s.pP.Sound):
  Cl Tryz.prog 92 [.agg #[I s.sp.id,I s.sp.src,vst,vwa,I s.sp.al,I s.sp.up,vr,vc],vp] w fun u w'=>∃H1 x en,HLe H H1∧cq 1 u (Is x) en∧ya s.pP j5 x∧St H1 w' (en::σ):=by
 obtain ⟨ap,cp,rfl⟩:=RI.shape hp
 refine Cl.o Tryz.func92 Tryz.ntmps92 ag2 ?_
 refine .aj (.bx hs fun b2 w hs=>?_)
 refine .zn zg (.aj (.y hs (zls [_,_,_,_,_,_,_,_] aI aB) (.o (.call Tryz.call148 rfl (ou (s:=s) hs h1 h2 h3 h4 he) ?_))));rintro _ w ⟨H1,hle1,hS,hs⟩
 refine .z zm (.o (.call Tryz.call149 rfl (vR (s:=s.pP) hs hS (hp.mono hle1) hok) ?_));rintro _ w ⟨H2,vx,x,en,hle2,rfl,hO,hP,hs⟩
 refine .z zm (.z zex (.z zex (.z zg (.zn zg (.aj (.z zm (.zn zg (.ret (Fin.bu Tryz.results92 rfl ?_)))))))))
 exact ⟨H2,x,en,hle1.trans hle2,hO,hP,hs.sb⟩
structure Grow(d D:Int)(L:List Int)(x:Int):Prop where
 low:d≤x
 high:x≤d+D*L.length
 all:∀i<L.length,d≤gi L i∧gi L i<x
 rise:∀i,i+1<L.length→gi L i<gi L (i+1)
theorem Grow.start(d D:Int):Grow d D [] d:=⟨ak,bJ,fun i h=>by simp at h,fun i h=>by simp at h⟩
theorem Grow.snoc{d D x y:Int}{L:List Int}(h:Grow d D L x)(h1:x<y)(h2:y≤x+D):Grow d D (L++[x]) y:=by
 obtain ⟨g1,g2,g3,g4⟩:=h
 refine ⟨ak,?_,fun i hi=>?_,fun i hi=>?_⟩
 ·rw [List.length_append,List.length_singleton,Int.natCast_add,Int.mul_add];omega
 ·rw [List.length_append,List.length_singleton] at hi
  rw [yO]
  split
  ·have:=g3 i cI;omega
  ·rw [if_pos ak];omega
 ·rw [List.length_append,List.length_singleton] at hi
  rw [yO,yO,if_pos ak]
  split
  ·exact g4 i cI
  ·rw [if_pos ak];exact (g3 i ak).2
theorem Grow.plc{d D x most:Int}{many:Nat}{L:List Int}(h:Grow d D L x)(hd:0≤d)(h2:2≤L.length)(hm:L.length≤many)(hx:d+D*L.length≤most):eV many most L:=
 ⟨h2,hm,by have:=(h.all 0 ak).1;omega,by have:=(h.all (L.length - 1) ak).2;have:=h.high;omega,h.rise⟩
structure I7(s:Spc):Prop where
 ok:fW s
 st:s.st.length≤4
 wa:s.wa.length≤3
set_option maxHeartbeats 1000000 in
theorem qv{v:Value}{l:List Int}(hs:St H w σ)(hr:RI H v l):
  Cl Tryz.prog 89 [v] w fun u w'=>∃s vst vwa e1 e2,u= .agg #[I s.id,I s.src,vst,vwa,I s.al,I s.up]∧I7 s∧cq 1 vst (Is s.st) e1∧cq 1 vwa (Is s.wa) e2∧St H w' (e1::e2::σ):=by
 obtain ⟨av,cv,rfl⟩:=RI.shape hr
 refine Cl.o Tryz.func89 Tryz.ntmps89 ag1 ?_
 refine .aj (.o (.alloc hs jF rfl fun b2 w hs=>?_))
 refine .nil (.aj (.z zm (.o (.call gI rfl (dj hs hr ak ak) ?_))));rintro _ w ⟨k11,g11,rfl,hs⟩
 refine .z cn (.z zm (.o (.call gI rfl (dj hs hr ak ak) ?_)));rintro _ w ⟨k14,g14,rfl,hs⟩
 refine .z cn (.z (zbd [_,_,_,_,_,_] sc) (.o (.alloc hs jF rfl fun b3 w hs=>?_)))
 refine .o (.aO (vs:=[_,_,_,_,_,_]) hs rfl rfl aJ fun w hs=>?_)
 refine .nil (.aj (.z zm (.o (.call gI rfl (dj hs hr ak ak) ?_))));rintro _ w ⟨k18,g18,rfl,hs⟩
 refine .z cn (.z kq (.zn zg (.aj (.zn zg (.seq (.aj (.zn zg (.block ?_))))))))
 refine .loop (fun p:List Int×Int×Value=>⟨90,[],[(6,I (p.1.length:Int)),(5,I p.2.1),(4,I (100*(1+(k18:Int)))),(0,.slice av l.length cv),(3,Pt b3),(2,Pt b2)]⟩)
  (fun p w=>p.1.length≤4∧Grow 0 2707 p.1 p.2.1∧∃en,cq 1 p.2.2 (Is p.1) en∧St H w (en:: .blk b3 [I (1+(k11:Int)),I (1+(k14:Int)),p.2.2,.slice none 0 0,I 0,I 0]:: .blk b2 [I 0,I 0,.slice none 0 0,.slice none 0 0,I 0,I 0]::σ)) (fun p=>4 - p.1.length) ([],0,.slice none 0 0) aR
  ⟨bJ,.start _ _,_,.nil 1 none,hs.nul⟩ ?_
 clear hs
 rintro ⟨L,x,vo⟩ w ⟨hL4,hG,en,hO,hs⟩
 dsimp only at hL4 hG hO hs ⊢
 obtain ⟨ao,lo,co,rfl,-⟩:=hO.shape
 have hx0:=hG.low
 have hx1:=hG.high
 refine .seq (.aj (.z zm (.z zm (.o (.call gI rfl (dj hs hr ak ak) ?_)))));rintro _ w ⟨k23,g23,rfl,hs⟩
 refine .z cn (.zn fi (.bw rfl (fun hc25=>?_) (fun hc25=>?_)))
 ·refine .skip (nT (.seq (.block (.aj (.z (zfa bE) (.y hs (zld aq) (.z zm (.o (.buildSlice (cells:=[_]) hs cD rfl rfl fun b31 w hs=>?_)))))))))
  refine .o (.append (ys:=Is [x]) hs cj rfl rfl hO (.own .here rfl rfl) (iC _) (fun l' h=>by simp at h;omega) ?_);intro v32 en32 w hO2 hs
  rw [←List.map_append] at hO2
  obtain ⟨a32,l32,c32,rfl,-⟩:=hO2.shape
  refine .z (zfa bE) (.o (.store hs rfl rfl az fun w hs=>?_))
  refine .nil (.region (.z zm (.z zm (.z zm (.z zm (.z cn (.o (.call gI rfl (dj hs hr ak ak) ?_))))))));rintro _ w ⟨k39,g39,rfl,hs⟩
  have m41:=j8 (a:=100*(1+(k18:Int))) (b:=1+(k39:Int)) (A:=900) (B:=3) ak ak
  have m41':100≤100*(1+(k18:Int))*(1+(k39:Int)):=by
   have:=Int.mul_le_mul (a:=100) (c:=100*(1+(k18:Int))) (b:=1) (d:=1+(k39:Int)) ak ak ak ak
   omega
  refine .z cn (.z kq (.z cn (.z zm (.o (.call gI rfl (dj hs hr ak ak) ?_)))));rintro _ w ⟨k44,g44,rfl,hs⟩
  refine .z zm (.z zm (.z cn (.o (.call gI rfl (dj hs hr ak ak) ?_))));rintro _ w ⟨k48,g48,rfl,hs⟩
  have m49:0≤(k44:Int)*(k48:Int)∧(k44:Int)*(k48:Int)≤1:=by
   have e1:k44=0∨k44=1:=by omega
   rcases e1 with rfl|rfl<;>simp<;>omega
  refine .z kq (.z kq (.z cn (.zn zg (nB (nT (.region (.z zm (.z cn (.zn zg (nT ?_))))))))))
  exact ⟨(L++[x],_,.slice a32 l32 c32),.bT rfl bJ aR,⟨by simp;omega,hG.snoc (by dsimp only;omega) (by dsimp only;omega),_,hO2,hs.sb⟩,by simp;omega⟩
 ·refine .exit (xT (xT (xB (nT (.aj (.z zm ?_))))))
  have hL2:2≤L.length:=by omega
  refine .o (.call gI rfl (dj hs hr ak ak) ?_);rintro _ w ⟨k53,g53,rfl,hs⟩
  refine .z cn (.z kq (.zn zg (.aj (.z zm (.o (.call gI rfl (dj hs hr ak ak) ?_))))));rintro _ w ⟨k57,g57,rfl,hs⟩
  refine .z kq (.zn zg (.seq (.aj (.zn zg (.block ?_)))))
  refine .loop (fun p:List Int×Int×Value=>⟨90,[],[(9,I (p.1.length:Int)),(8,I p.2.1),(7,I (50*(1+(k53:Int)))),(0,.slice av l.length cv),(3,Pt b3),(2,Pt b2)]⟩)
   (fun p w=>p.1.length≤3∧Grow (10*(k57:Int)) 1350 p.1 p.2.1∧∃en2,cq 1 p.2.2 (Is p.1) en2∧St H w (en2:: .blk b3 [I (1+(k11:Int)),I (1+(k14:Int)),.slice ao lo co,p.2.2,I 0,I 0]:: .blk b2 [I 0,I 0,.slice none 0 0,.slice none 0 0,I 0,I 0]::en::σ)) (fun p=>3 - p.1.length) ([],10*(k57:Int),.slice none 0 0) aR
   ⟨bJ,.start _ _,_,.nil 1 none,(hs.sb).nul⟩ ?_
  clear hs
  rintro ⟨L2,y,vo2⟩ w ⟨hM4,hG2,en2,hO2,hs⟩
  dsimp only at hM4 hG2 hO2 hs ⊢
  obtain ⟨ap,lp,cp,rfl,-⟩:=hO2.shape
  have hy0:=hG2.low
  have hy1:=hG2.high
  refine .seq (.aj (.z zm (.z zm (.o (.call gI rfl (dj hs hr ak ak) ?_)))));rintro _ w ⟨k61,g61,rfl,hs⟩
  refine .z cn (.zn fi (.bw rfl (fun hc63=>?_) (fun hc63=>?_)))
  ·refine .skip (nT (.seq (.block (.aj (.z (zfa aU) (.y hs (zld aq) (.z zm (.o (.buildSlice (cells:=[_]) hs cD rfl rfl fun b69 w hs=>?_)))))))))
   refine .o (.append (ys:=Is [y]) hs cj rfl rfl hO2 (.own .here rfl rfl) (iC _) (fun l' h=>by simp at h;omega) ?_);intro v70 en70 w hO3 hs
   rw [←List.map_append] at hO3
   obtain ⟨a70,l70,c70,rfl,-⟩:=hO3.shape
   refine .z (zfa aU) (.o (.store hs rfl rfl az fun w hs=>?_))
   refine .nil (.region (.z zm (.z zm (.z zm (.z zm (.z cn (.o (.call gI rfl (dj hs hr ak ak) ?_))))))));rintro _ w ⟨k77,g77,rfl,hs⟩
   have m79:=j8 (a:=50*(1+(k53:Int))) (b:=1+(k77:Int)) (A:=450) (B:=3) ak ak
   have m79':50≤50*(1+(k53:Int))*(1+(k77:Int)):=by
    have:=Int.mul_le_mul (a:=50) (c:=50*(1+(k53:Int))) (b:=1) (d:=1+(k77:Int)) ak ak ak ak
    omega
   refine .z cn (.z kq (.z cn (.zn zg (nB (nT (.region (.z zm (.z cn (.zn zg (nT ?_))))))))))
   exact ⟨(L2++[y],_,.slice a70 l70 c70),.bT rfl bJ aR,⟨by simp;omega,hG2.snoc (by dsimp only;omega) (by dsimp only;omega),_,hO3,hs.sb⟩,by simp;omega⟩
  ·refine .exit (xT (xT (xB (nT (.aj (.z zm (.o (.call gI rfl (dj hs hr ak ak) ?_))))))));rintro _ w ⟨k83,g83,rfl,hs⟩
   refine .z kq (.z zm (.o (.call gI rfl (dj hs hr ak ak) ?_)));rintro _ w ⟨k86,g86,rfl,hs⟩
   refine .z kq (.z (zbd [_,_] tI) (.z (zfa dY) (.o (.aO (vs:=[_,_]) hs rfl rfl Tryz.sizeOf46 fun w hs=>?_))))
   refine .nil (.aj (.y hs (zls [_,_,_,_,_,_] aV aJ) (.o (.aO (vs:=[_,_,_,_,_,_]) hs rfl rfl aJ fun w hs=>?_))))
   refine .nil (.ret ?_)
   exact Fin.fZ [] [] hs fun w hs=>⟨_,results1 Tryz.results89 (cB (vs:=[_,_,_,_,_,_]) hs rfl aV aJ),⟨1+(k11:Int),1+(k14:Int),L,L2,100*(k83:Int),100*(k86:Int)⟩,.slice ao lo co,.slice ap lp cp,en,en2,rfl,
    ⟨⟨hG.plc ak hL2 ak ak,hG2.plc ak ak ak ak,by dsimp only;omega,by dsimp only;omega,by dsimp only;omega,by dsimp only;omega⟩,hL4,hM4⟩,hO,hO2,hs.sb⟩
instance (s:Spc) (r:Rdg):Decidable (mU s r):=
 decidable_of_iff ((1≤r.src∧r.src≤99999)∧(0≤r.st∧r.st≤(s.st.length:Int) - 1)∧(0≤r.wa∧r.wa≤(s.wa.length:Int) - 1)∧(0≤r.tol∧r.tol≤1000)∧(0≤r.val∧r.val≤20000 - r.tol)∧(1≤r.tape∧r.tape≤99)∧(0≤r.day∧r.day≤100000))
  ⟨fun ⟨a,b,c,d,e,f,g⟩=>⟨a,b,c,d,e,f,g⟩,fun ⟨a,b,c,d,e,f,g⟩=>⟨a,b,c,d,e,f,g⟩⟩
def iM(s:Spc)(rs:List Rdg):List Rdg:=rs.filter fun r=>decide (mU s r)
theorem CH(s:Spc){rs:List Rdg}{k:Nat}{r:Rdg}(h:rs[k]? =some r):iM s (rs.take (k+1))=if mU s r then iM s (rs.take k)++[r] else iM s (rs.take k):=by
 unfold iM
 rw [dA h,List.filter_append]
 by_cases e:mU s r
 ·simp [e]
 ·simp [e]
theorem wk(s:Spc)(rs:List Rdg):(iM s rs).length≤rs.length:=List.length_filter_le _ _
theorem Aa{s:Spc}{rs:List Rdg}{r:Rdg}(h:r∈iM s rs):r∈rs∧mU s r:=by
 unfold iM at h;simpa using List.mem_filter.1 h
theorem F3{s:Spc}{rs:List Rdg}{t:TD}(h:t∈bn (iM s rs)):t∈bn rs:=by
 obtain ⟨r,h1,h2⟩:=gL.1 h
 exact gL.2 ⟨r,(Aa h1).1,h2⟩
def nU(v:Srv)(x:List Int)(t:TD):Int:=gi x (v.sp.many+1+(ku v.bZ t).toNat)
def IQ(v:Srv)(x:List Int):List Int:=x.take (v.sp.many+1)++(bn (iM v.sp v.rs)).map (nU v x)
set_option maxHeartbeats 1000000 in
theorem vM{vr:Value}{rs:List Rdg}(hs:St H w σ)(hr:RRd H vr rs)(hl:rs.length≤1000000):
  Cl Tryz.prog 96 [vr] w fun u w'=>∃en,cq 2 u (tdc (bn rs)).flatten en∧St H w' (en::σ):=by
 obtain ⟨ar,cr,rfl⟩:=RRd.shape hr
 refine Cl.o Tryz.func96 Tryz.ntmps96 ag1 ?_
 refine .aj (.zn zg (.aj (.zn zg (.seq (.aj (.zn zg (.block ?_)))))))
 refine .loop (fun p:Nat×Value=>⟨32,[],[(4,I (p.1:Int)),(3,p.2),(0,.slice ar rs.length cr)]⟩)
  (fun p w=>p.1≤rs.length∧∃en,cq 2 p.2 (tdc (bn (rs.take p.1))).flatten en∧St H w (en::σ)) (fun p=>rs.length - p.1) (0,.slice none 0 0) aR
  ⟨Nat.zero_le _,_,.nil 2 none,hs.nul⟩ ?_
 rintro ⟨k,vo⟩ w ⟨hk,en,hO,hs⟩
 dsimp only at hk hO ⊢
 have htl:=ld rs k ak
 obtain ⟨ao,co,rfl⟩:=hO.lh (qo _) ak
 rw [eI] at hO ⊢
 refine .seq (.aj (.z zm (.z zm (.z (cJ aA) (.zn fi (.bw rfl (fun hc9=>?_) (fun hc9=>?_)))))))
 ·refine .skip (nT (.seq (.block (.seq (.draw mix rfl hs fun w hs=>?_)))))
  refine .zw 0 rfl zm ?_;refine .z 1 rfl zm ?_
  obtain ⟨r,hx⟩:=nth (l:=rs) (k:=k) ak
  have htk:=jY hx
  refine .ixX (enc:=Rdg.c) (i:=2) hs rfl aD .none hr rfl rfl aA aH hx cN ?_;intro b14 o14 hc14
  have d14:cellAt H b14 (o14+5)=some (I r.tape):=hc14 5 _ rfl
  refine .zw 3 rfl (zfa eD) ?_;refine .y 4 rfl hs af ?_;refine .z 5 rfl zm ?_;refine .z 6 rfl zm ?_
  refine .ixX (enc:=Rdg.c) (i:=7) hs rfl aD .none hr rfl rfl aA aH hx cN ?_;intro b19 o19 hc19
  have d19:cellAt H b19 (o19+6)=some (I r.day):=hc19 6 _ rfl
  refine .zw 8 rfl (zfa eC) ?_;refine .y 9 rfl hs af ?_;refine .z 10 rfl (zbd [_,_] iz) ?_
  refine .E 11 hs ?_
  refine .alloc hs kY rfl ?_;intro b5 w hs
  refine .go (.E 12 hs ?_)
  refine .aO (vs:=[_,_]) hs rfl rfl bH ?_;intro w hs
  refine .go (.D hs (.aj (.z zm (.y hs (zls [_,_] ee bH) (.o (.call Tryz.call95 rfl (ot (t:=r.td) (hs.sb:St H w (en:: .blk b5 [I r.tape,I r.day]::σ)) hO ak) ?_))))));rintro _ w ⟨rfl,hs⟩
  have hnn:=tw (l:=bn (rs.take k)) (t:=r.td)
  refine .zn fi (.bw rfl (fun hc26=>?_) (fun hc26=>?_))
  ·refine .region (.z zm (.y hs (zls [_,_] ee bH) (.o (.buildSlice (cells:=[_,_]) hs iN rfl rfl fun b29 w hs=>?_))))
   refine .o (.append (ys:=r.td.c) hs eT rfl rfl hO (.own .here rfl rfl) (by simp [TD.c,Value.oneCell']) (fun l h=>by rw [bV _ (qo _),eI] at h;omega) ?_);intro v30 en30 w hO2 hs
   refine .zn zg (nB (nT (.region (.z zm (.z cn (.zn zg (nT ?_)))))))
   have hn:r.td∉bn (rs.take k):=fun hm=>by have:=hnn.2 hm;omega
   rw [←yn,show bn (rs.take k)++[r.td]=bn (rs.take (k+1)) by rw [htk];unfold sf;rw [if_neg hn]] at hO2
   exact ⟨(k+1,v30),.bT rfl bJ aR,⟨by dsimp only;omega,_,hO2,hs.sb⟩,by dsimp only;omega⟩
  ·refine .skip (nB (nT (.region (.z zm (.z cn (.zn zg (nT ?_)))))))
   have hm:r.td∈bn (rs.take k):=hnn.1 ak
   exact ⟨(k+1,_),.bT rfl bJ aR,⟨by dsimp only;omega,en,by dsimp only;rw [htk];unfold sf;rw [if_pos hm];exact hO,hs.sb⟩,by dsimp only;omega⟩
 ·refine .exit (xT (xT (xB (nT (.aj (.z zm (.zn zg (.ret (Fin.bu Tryz.results96 rfl ?_)))))))))
  obtain rfl:k=rs.length:=by omega
  rw [List.take_length] at hO
  exact ⟨en,by rw [List.take_length];exact hO,hs⟩
set_option maxHeartbeats 2000000 in
theorem rh{s:Srv}{x:List Int}{vst vwa vr vc vx:Value}(hs:St H w σ)(h1:RI H vst s.sp.st)(h2:RI H vwa s.sp.wa)(h3:RRd H vr s.rs)(hc:∃a l c,vc= .slice a l c)(hx:RI H vx x)(hxl:x.length=s.sys.n)(hb:s.sp.st.length≤1000∧s.sp.wa.length≤1000∧s.rs.length≤1000):
  Cl Tryz.prog 97 [.agg #[I s.sp.id,I s.sp.src,vst,vwa,I s.sp.al,I s.sp.up,vr,vc],vx] w fun u w'=>∃H1 vr' vy e1 e2,HLe H H1∧u= .tuple #[.agg #[I s.sp.id,I s.sp.src,vst,vwa,I s.sp.al,I s.sp.up,vr',vc],vy]∧cq 7 vr' (rdc (iM s.sp s.rs)).flatten e1∧cq 1 vy (Is (IQ s x)) e2∧St H1 w' (e1::e2::σ):=by
 obtain ⟨ast,cst,rfl⟩:=RI.shape h1
 obtain ⟨awa,cwa,rfl⟩:=RI.shape h2
 obtain ⟨ar,cr,rfl⟩:=RRd.shape h3
 obtain ⟨ac,lc,cc,rfl⟩:=hc
 obtain ⟨ax,cx,rfl⟩:=RI.shape hx
 have hm:s.sp.many≤1000000:=Nat.mul_le_mul hb.1 hb.2.1
 have hn:=vE s
 have htl:=dF s.rs
 refine Cl.o Tryz.func97 Tryz.ntmps97 ag2 ?_
 refine .aj (.bx hs fun b2 w hs=>?_)
 refine .o (.alloc hs eG rfl fun b4 w hs=>?_)
 refine .zn zg (.aj (.z (zfa aP) (.y hs (zld bA) (.o (.call Gv rfl (gM (rs:=s.rs) hs h3 ak) ?_)))));rintro v15 w ⟨H1,hle1,hT,hs⟩
 obtain ⟨at',ct,rfl⟩:=RTd.shape hT
 refine .zn zg (.aj (.z (zfa aT) (.y hs (zls [_,_,_,_,_,_] aV aJ) (.o (.call Gw rfl (e9 (s:=s.sp) hs (h1.mono hle1) (h2.mono hle1) ⟨hb.1,hb.2.1⟩) ?_)))));rintro _ w ⟨rfl,hs⟩
 refine .zn zg (.aj (.y hs (zls [_,_,_,_,_,_,_,_] aI aB) (.o (.alloc hs eG rfl fun b8 w hs=>?_))))
 refine .o (.aO (vs:=[_,_,_,_,_,_,_,_]) hs rfl rfl aB fun w hs=>?_)
 refine .nil (.aj (.z (zfa aP) (.o (.store hs rfl rfl sq fun w hs=>?_))))
 refine .nil (.seq (.aj (.zn zg (.block ?_))))
 refine .loop (fun p:Nat×Value=>⟨78,[],[(9,I (p.1:Int)),(8,Pt b8),(7,I (s.sp.many:Int)),(6,.slice at' (bn s.rs).length ct),(4,Pt b4),(2,Pt b2),(1,.slice ax x.length cx)]⟩)
  (fun p w=>p.1≤s.rs.length∧∃en,cq 7 p.2 (rdc (iM s.sp (s.rs.take p.1))).flatten en∧St H1 w (en:: .blk b8 [I s.sp.id,I s.sp.src,.slice ast s.sp.st.length cst,.slice awa s.sp.wa.length cwa,I s.sp.al,I s.sp.up,p.2,.slice ac lc cc]:: .blk b4 [I 0,I 0,.slice none 0 0,.slice none 0 0,I 0,I 0,.slice none 0 0,.slice none 0 0]:: .blk b2 [I s.sp.id,I s.sp.src,.slice ast s.sp.st.length cst,.slice awa s.sp.wa.length cwa,I s.sp.al,I s.sp.up,.slice ar s.rs.length cr,.slice ac lc cc]::σ)) (fun p=>s.rs.length - p.1) (0,.slice none 0 0) aR
  ⟨Nat.zero_le _,_,.nil 7 none,hs.nul⟩ ?_
 clear hs
 rintro ⟨k,vo⟩ w ⟨hk,en,hO,hs⟩
 dsimp only at hk hO hs ⊢
 have hkl:=wk s.sp (s.rs.take k)
 rw [List.length_take] at hkl
 obtain ⟨ao,lo,co,rfl,-⟩:=hO.shape
 refine .seq (.aj (.z zm (.z (zfa aP) (.y hs (zld bA) (.z (cJ aA) (.zn fi (.bw rfl (fun hc25=>?_) (fun hc25=>?_))))))))
 ·refine .skip (nT (.seq (.block (.seq (.draw mix rfl hs fun w hs=>?_)))))
  refine .zw 0 rfl (zfa aT) ?_;refine .ys 1 rfl hs [_,_,_,_,_,_] aV aJ ?_;refine .z 2 rfl (zfa aP) ?_;refine .y 3 rfl hs bA ?_;refine .z 4 rfl zm ?_
  obtain ⟨r,hr⟩:=nth (l:=s.rs) (k:=k) ak
  have hsn:=CH s.sp hr
  refine .ixX (enc:=Rdg.c) (i:=5) hs rfl aD .none (h3.mono hle1) rfl rfl aA aH hr cN ?_;intro b33 o33 hc33
  refine .r (i:=6) hs rfl aD .none (bO (vs:=r.c) rfl ef aH hc33) ?_
  refine .E 7 hs ?_
  refine .call Tryz.call150 rfl (jr (s:=s.sp) (r:=r) hs (h1.mono hle1) (h2.mono hle1)) ?_;rintro _ w ⟨b35,rfl,hb35,hs⟩
  refine .go (.D hs (.cond rfl (fun hc35=>?_) (fun hc35=>?_)))
  ·refine .draw mix rfl hs fun w hs=>?_
   refine .zw 0 rfl (zfa aP) ?_;refine .y 1 rfl hs bA ?_;refine .z 2 rfl (zfa aP) ?_;refine .y 3 rfl hs bA ?_;refine .z 4 rfl zm ?_
   refine .ixX (enc:=Rdg.c) (i:=5) hs rfl aD .none (h3.mono hle1) rfl rfl aA aH hr cN ?_;intro b41 o41 hc41
   refine .r (i:=6) hs rfl aD .none (bO (vs:=r.c) rfl ef aH hc41) ?_
   refine .E 7 hs ?_
   refine .buildSlice (cells:=r.c) hs gx rfl aD ?_;intro b43 w hs
   refine .go (.E 8 hs ?_)
   refine .append (ys:=r.c) hs dT rfl rfl hO (.own .here rfl rfl) (by simp [Rdg.c,Value.oneCell']) (fun l' h=>by rw [bV _ (jP _),dk] at h;omega) ?_;intro v44 en44 w hO2 hs
   rw [←uK,show iM s.sp (s.rs.take k)++[r]=iM s.sp (s.rs.take (k+1)) by rw [hsn,if_pos (hb35.1 (by simpa using hc35))]] at hO2
   obtain ⟨a44,l44,c44,rfl,-⟩:=hO2.shape
   refine .go (.zw 9 rfl (zfa aP) (.E 10 hs ?_))
   refine .store hs rfl rfl sq ?_;intro w hs
   refine .go (.D hs (nB (nT (.region (.z zm (.z cn (.zn zg (nT ?_))))))))
   exact ⟨(k+1,.slice a44 l44 c44),.bT rfl bJ aR,⟨by dsimp only;omega,_,hO2,hs.sb⟩,by dsimp only;omega⟩
  ·refine .skip (nB (nT (.region (.z zm (.z cn (.zn zg (nT ?_)))))))
   exact ⟨(k+1,.slice ao lo co),.bT rfl bJ aR,⟨by dsimp only;omega,en,by dsimp only;rw [hsn,if_neg (fun h=>by rw [hb35.2 h] at hc35;cases hc35)];exact hO,hs.sb⟩,by dsimp only;omega⟩
 ·refine .exit (xT (xT (xB (nT (.aj ?_)))))
  obtain rfl:k=s.rs.length:=by omega
  rw [List.take_length] at hO
  refine .o (.buildSlice (cells:=[]) hs oY rfl rfl fun b46 w hs=>?_)
  refine .z zm (.z zm (.z cn (.q hs (oA (k:=s.sp.many+1) rfl rfl ae ai rfl (by have:=(RS.len hx).2.1;omega)) ?_)))
  refine .o (.append (xs:=[]) (ys:=Is (x.take (s.sp.many+1))) hs cj rfl rfl (.full (len:=0) rfl) (.ints (RI.head (hx.mono hle1) (k:=s.sp.many+1) ak)) (iC _) (fun l h=>by simp at h;rw [List.length_take];omega) ?_);intro v51 en51 w hO3 hs
  rw [List.nil_append] at hO3
  refine .zn zg (.aj (.z (zfa aP) (.y hs (zld bA) ?_)))
  have hkl:=wk s.sp s.rs
  obtain ⟨H2,hle2,hRR,hs2,back⟩:=hO.A1 (jP _) ak (by rw [dk];omega) (hs.sb:St H1 w (en::en51:: .blk b8 [I s.sp.id,I s.sp.src,.slice ast s.sp.st.length cst,.slice awa s.sp.wa.length cwa,I s.sp.al,I s.sp.up,.slice ao lo co,.slice ac lc cc]:: .blk b4 [I 0,I 0,.slice none 0 0,.slice none 0 0,I 0,I 0,.slice none 0 0,.slice none 0 0]:: .blk b2 [I s.sp.id,I s.sp.src,.slice ast s.sp.st.length cst,.slice awa s.sp.wa.length cwa,I s.sp.al,I s.sp.up,.slice ar s.rs.length cr,.slice ac lc cc]::σ))
  refine .o (.call Gv rfl (vM (rs:=iM s.sp s.rs) hs2 hRR ak) ?_);rintro v54 w ⟨enT,hOT,hsT⟩
  have hs:=back (HLe.refl _) hsT
  have htl':=dF (iM s.sp s.rs)
  obtain ⟨H3,hle3,hT3,hs⟩:=cq.cH (m:=2) (cs:=tdc (bn (iM s.sp s.rs))) hOT (qo _) ak (by rw [eI];omega) hs (.there .here)
  have hT3:RTd H3 v54 (bn (iM s.sp s.rs)):=hT3
  obtain ⟨a54,c54,rfl⟩:=RTd.shape hT3
  refine .zn zg (.seq (.aj (.zn zg (.block ?_))))
  refine .loop (fun p:Nat×Value=>⟨78,[],[(12,I (p.1:Int)),(10,p.2),(11,.slice a54 (bn (iM s.sp s.rs)).length c54),(8,Pt b8),(7,I (s.sp.many:Int)),(6,.slice at' (bn s.rs).length ct),(4,Pt b4),(1,.slice ax x.length cx)]⟩)
   (fun p w=>p.1≤(bn (iM s.sp s.rs)).length∧∃en2,cq 1 p.2 (Is (x.take (s.sp.many+1)++((bn (iM s.sp s.rs)).take p.1).map (nU s x))) en2∧St H3 w (en2:: .blk b8 [I s.sp.id,I s.sp.src,.slice ast s.sp.st.length cst,.slice awa s.sp.wa.length cwa,I s.sp.al,I s.sp.up,.slice ao lo co,.slice ac lc cc]:: .blk b4 [I 0,I 0,.slice none 0 0,.slice none 0 0,I 0,I 0,.slice none 0 0,.slice none 0 0]::en::σ)) (fun p=>(bn (iM s.sp s.rs)).length - p.1) (0,v51) aR
   ⟨Nat.zero_le _,en51,by simpa using hO3,hs.sb⟩ ?_
  clear hs
  rintro ⟨j,vy⟩ w ⟨hj,en2,hO4,hs⟩
  dsimp only at hj hO4 hs ⊢
  obtain ⟨ay,ly,cy,rfl,-⟩:=hO4.shape
  refine .seq (.aj (.z zm (.z zm (.z (cJ br) (.zn fi (.bw rfl (fun hc58=>?_) (fun hc58=>?_)))))))
  ·refine .skip (nT (.seq (.block (.region (.z zm (.z zm (.z zm (.z cn (.z zm (.z zm (.z zm ?_)))))))))))
   obtain ⟨t,ht⟩:=nth (l:=bn (iM s.sp s.rs)) (k:=j) ak
   have htm:t∈s.bZ:=F3 (List.mem_of_getElem? ht)
   obtain ⟨q,q1,q2,q3⟩:=ib htm
   have q3':q<(bn s.rs).length:=q3
   have q1':ku (bn s.rs) t=(q:Int):=q1
   have hnt:s.sys.n=s.sp.many+(bn s.rs).length+1:=hn
   have herr:nU s x t=gi x (s.sp.many+1+q):=by unfold nU;rw [q1,Int.toNat_natCast]
   refine .ixX (enc:=TD.c) hs hT3 rfl rfl br bH ht cN ?_;intro b68 o68 hc68
   refine .q hs (bO (vs:=t.c) rfl ee bH hc68) (.o (.call Tryz.call95 rfl (kv (t:=t) hs (hT.mono hle3) ak) ?_));rintro _ w ⟨rfl,hs⟩
   rw [q1']
   refine .z cn (.ixY hs (hx.mono (hle1.trans hle3)) rfl rfl ae ai (bq (l:=x) (i:=s.sp.many+1+q) ak) ak ?_);intro b72 o72 hc72
   refine .q hs (aM rfl af hc72) (.o (.buildSlice (cells:=[_]) hs cD rfl rfl fun b74 w hs=>?_))
   refine .o (.append (ys:=Is [gi x (s.sp.many+1+q)]) hs cj rfl rfl hO4 (.own .here rfl rfl) (iC _) (fun l' h=>by simp at h;omega) ?_);intro v75 en75 w hO5 hs
   rw [←List.map_append,List.append_assoc,←herr,show ((bn (iM s.sp s.rs)).take j).map (nU s x)++[nU s x t]=((bn (iM s.sp s.rs)).take (j+1)).map (nU s x) by rw [dA ht];simp] at hO5
   obtain ⟨a75,l75,c75,rfl,-⟩:=hO5.shape
   refine .zn zg (nB (nT (.region (.z zm (.z cn (.zn zg (nT ?_)))))))
   exact ⟨(j+1,.slice a75 l75 c75),.bT rfl bJ aR,⟨by dsimp only;omega,_,hO5,hs.sb⟩,by dsimp only;omega⟩
  ·refine .exit (xT (xT (xB (nT (.aj (.y hs (zls [_,_,_,_,_,_,_,_] aI aB) (.z zm (.o (.aO (vs:=[_,_,_,_,_,_,_,_]) hs rfl rfl aB fun w hs=>?_)))))))))
   refine .zn zg (.ret ?_)
   obtain rfl:j=(bn (iM s.sp s.rs)).length:=by omega
   rw [List.take_length] at hO4
   exact Fin.fZ [] [] hs fun w hs=>⟨_,results2 Tryz.results97 (cB (vs:=[_,_,_,_,_,_,_,_]) hs rfl aI aB) rfl,H3,_,_,en,en2,hle1.trans hle3,rfl,hO,hO4,hs.sb⟩
theorem CG{s:Spc}{rs R:List Rdg}{cs:List Cmp}{x:List Int}(hf:gY (Srv.pP ⟨s,rs,cs⟩).dp (gi x))(hx0:gi x 0=0)(hxl:x.length=s.many+(bn rs).length+1)(ht:bn R=bn rs)(hS:∀r∈R,RdS s r)(hR:∀r∈R,EG s (bn rs) x r):
  kN ⟨s,iM s R,cs⟩ (IQ ⟨s,R,cs⟩ x):=by
 have hl:(x.take (s.many+1)).length=s.many+1:=by rw [List.length_take];omega
 refine DZ (R:=R) (x:=x) List.filter_sublist hS hx0 (Ee hf ht hR) ?_ (fun b hb=>?_) fun j hj=>?_
 ·show (x.take (s.many+1)++(bn (iM s R)).map (nU ⟨s,R,cs⟩ x)).length=_
  rw [List.length_append,hl,List.length_map]
 ·show gi (x.take (s.many+1)++(bn (iM s R)).map (nU ⟨s,R,cs⟩ x)) b=_
  unfold gi
  simp only [List.getD]
  rw [List.getElem?_append_left ak,List.getElem?_take_of_lt ak]
 ·show gi (x.take (s.many+1)++(bn (iM s R)).map (nU ⟨s,R,cs⟩ x)) (s.many+1+j)=_
  have e:∀t,(bn (iM s R))[j]? =some t→gi (x.take (s.many+1)++(bn (iM s R)).map (nU ⟨s,R,cs⟩ x)) (s.many+1+j)=nU ⟨s,R,cs⟩ x t:=fun t ht=>by
   unfold gi
   simp only [List.getD]
   rw [List.getElem?_append_right ak,hl,show s.many+1+j - (s.many+1)=j by omega,List.getElem?_map,ht]
   rfl
  rw [e _ (AL hj)];rfl
set_option maxHeartbeats 2000000 in
theorem qb{vs v5 v4 vp:Value}{sl pk:List Int}{fs5:List F5}{fs4:List F4}{z1 z2 z3:Int}(hs:St H w σ)(g1:RI H vs sl)(g2:RF5 H v5 fs5)(g3:RF4 H v4 fs4)(g4:RI H vp pk):
  Cl Tryz.prog 31 [.agg #[vs,v5,v4,vp,I z1,I z2,I z3]] w fun u w'=>∃H1 s y vst vwa vr vc vy e1 e2 e3 e4 e5,HLe H H1∧u= .tuple #[.agg #[I s.sp.id,I s.sp.src,vst,vwa,I s.sp.al,I s.sp.up,vr,vc],vy]∧I6 s∧Gl s vst vwa vr vc e1 e2 e3 e4∧cq 1 vy (Is y) e5∧kN s y∧St H1 w' (e1::e2::e3::e4::e5::σ):=by
 obtain ⟨avs,cvs,rfl⟩:=RI.shape g1
 obtain ⟨av5,cv5,rfl⟩:=g2.shape
 obtain ⟨av4,cv4,rfl⟩:=g3.shape
 obtain ⟨avp,cvp,rfl⟩:=RI.shape g4
 refine Cl.o Tryz.func31 Tryz.ntmps31 ag1 ?_
 refine .aj (.bx hs fun b1 w hs=>?_)
 refine .o (.alloc hs eG rfl fun b2 w hs=>?_)
 refine .zn zg (.aj (.z (zfa oS) (.y hs (zld aq) (.o (.call Tryz.call89 rfl (qv hs g1) ?_)))));rintro _ w ⟨s,vst,vwa,e1,e2,rfl,hSp,hO1,hO2,hs⟩
 have hSt:=hSp.st
 have hWa:=hSp.wa
 have hSt2:=hSp.ok.st.two
 have hWa2:=hSp.ok.wa.two
 obtain ⟨ast,lst,cst,rfl,hlst⟩:=hO1.shape
 obtain ⟨awa,lwa,cwa,rfl,hlwa⟩:=hO2.shape
 obtain rfl:s.st.length=lst:=by simpa [Is] using hlst
 obtain rfl:s.wa.length=lwa:=by simpa [Is] using hlwa
 refine .z (zbd [_,_,_,_,_,_,_,_] qj) (.o (.alloc hs eG rfl fun b4 w hs=>?_))
 refine .o (.aO (vs:=[_,_,_,_,_,_,_,_]) hs rfl rfl aB fun w hs=>?_)
 refine .nil (.aj (.z (zfa aT) (.y hs (zls [_,_,_,_,_,_] aV aJ) (.o (.alloc hs jF rfl fun b5 w hs=>?_)))))
 refine .o (.aO (vs:=[_,_,_,_,_,_]) hs rfl rfl aJ fun w hs=>?_)
 refine .nil (.cut (fun fs w=>∃rs e3 ar cr,kF fs ⟨208,[],[(5,Pt b5),(4,Pt b4),(2,Pt b2),(1,Pt b1)]⟩∧rs.length≤14∧rs.length≤fs5.length∧(∀r∈rs,mU s r)∧cq 7 (.slice ar rs.length cr) (rdc rs).flatten e3∧St H w (e3:: .blk b5 [I s.id,I s.src,.slice ast s.st.length cst,.slice awa s.wa.length cwa,I s.al,I s.up]:: .blk b4 [I s.id,I s.src,.slice ast s.st.length cst,.slice awa s.wa.length cwa,I s.al,I s.up,.slice ar rs.length cr,.slice none 0 0]::e1::e2:: .blk b2 [I 0,I 0,.slice none 0 0,.slice none 0 0,I 0,I 0,.slice none 0 0,.slice none 0 0]:: .blk b1 [.slice avs sl.length cvs,.slice av5 fs5.length cv5,.slice av4 fs4.length cv4,.slice avp pk.length cvp,I z1,I z2,I z3]::σ)) ?_ ?_)
 ·refine .aj (.zn zg (.block ?_))
  refine .loop (fun p:List Rdg×Option Addr×Nat=>⟨208,[],[(6,I (p.1.length:Int)),(5,Pt b5),(4,Pt b4),(2,Pt b2),(1,Pt b1)]⟩)
   (fun p w=>p.1.length≤14∧p.1.length≤fs5.length∧(∀r∈p.1,mU s r)∧∃e3,cq 7 (.slice p.2.1 p.1.length p.2.2) (rdc p.1).flatten e3∧
    St H w (e3:: .blk b5 [I s.id,I s.src,.slice ast s.st.length cst,.slice awa s.wa.length cwa,I s.al,I s.up]:: .blk b4 [I s.id,I s.src,.slice ast s.st.length cst,.slice awa s.wa.length cwa,I s.al,I s.up,.slice p.2.1 p.1.length p.2.2,.slice none 0 0]::e1::e2:: .blk b2 [I 0,I 0,.slice none 0 0,.slice none 0 0,I 0,I 0,.slice none 0 0,.slice none 0 0]:: .blk b1 [.slice avs sl.length cvs,.slice av5 fs5.length cv5,.slice av4 fs4.length cv4,.slice avp pk.length cvp,I z1,I z2,I z3]::σ)) (fun p=>14 - p.1.length) ([],none,0) aR
   ⟨bJ,bJ,bJ,_,.nil 7 none,(hs.sb).nul⟩ ?_
  clear hs
  rintro ⟨rs,ar,cr⟩ w ⟨hr14,hrf,hrok,e3,hO3,hs⟩
  dsimp only at hr14 hrf hrok hO3 hs ⊢
  refine .seq (.aj (.z zm (.z (zfa im) (.y hs (zld Tryz.isAgg35) (.z (cJ Tryz.runUnderlying35) (.z fi (.z zm (.fF (t':=31) rfl (fun hb31=>?_) (fun hb31=>?_)))))))))
  ·refine .T (.z zm (.T (.z fi (.zn zpT (.bw rfl (fun hc34=>?_) (fun hc34=>?_))))))
   ·refine .skip (nT (.seq (.block (.aj (.z (zfa im) (.y hs (zld Tryz.isAgg35) (.z zm ?_)))))))
    obtain ⟨n,hn⟩:=nth (l:=fs5) (k:=rs.length) ak
    refine .ixX (enc:=F5.v) hs g2 rfl rfl Tryz.runUnderlying35 xr hn cN ?_;intro b40 o40 hc40
    refine .q hs (bO (vs:=n.v) rfl Tryz.isAgg151 xr hc40) (.o (.alloc hs Tryz.zeroValue151 rfl fun b7 w hs=>?_))
    refine .o (.aO (vs:=[_,_,_,_,_]) hs rfl rfl xr fun w hs=>?_)
    refine .nil (.seq (.draw mix rfl hs fun w hs=>?_))
    refine .zw 0 rfl (zia 4 iJ ai) (.zv 1 rfl hs (s4 af) (.zw 3 rfl (zia 4 iJ ai) (.y 4 rfl hs af ?_)));refine .z 5 rfl Ii ?_
    refine .E 2 hs ?_
    refine .call dR rfl (cf hs ak) ?_;rintro _ w ⟨k44,g44,rfl,hs⟩
    refine .go (.E 6 hs ?_)
    refine .call dR rfl (cf hs ak) ?_;rintro _ w ⟨k48,g48,rfl,hs⟩
    have m49:0≤(k44:Int)*(k48:Int)∧(k44:Int)*(k48:Int)≤39:=by
     have e1:k48=0∨k48=1:=by omega
     rcases e1 with rfl|rfl<;>simp<;>omega
    refine .go (.zw 7 rfl kq ?_);refine .z 8 rfl zg ?_;refine .D hs ?_
    refine .draw mix rfl hs fun w hs=>?_
    refine .zw 0 rfl (zfa aP) ?_;refine .y 1 rfl hs bA ?_;refine .z 2 rfl zm ?_;refine .z 3 rfl cn ?_
    refine .zw 4 rfl (zia 0 iJ ai) (.y 5 rfl hs af ?_);refine .z 6 rfl (zfa bE) ?_;refine .y 7 rfl hs aq ?_;refine .z 8 rfl (cJ ae) ?_
    refine .zw 10 rfl (zia 1 iJ ai) (.y 11 rfl hs af ?_);refine .z 12 rfl (zfa aU) ?_;refine .y 13 rfl hs aq ?_;refine .z 14 rfl (cJ ae) ?_;refine .z 16 rfl zm ?_
    refine .zw 17 rfl (zia 2 iJ ai) (.zv 18 rfl hs (s4 af) (.zw 21 rfl (zia 3 iJ ai) (.zv 22 rfl hs (s4 af) (.E 9 hs ?_))))
    refine .call dR rfl (cf hs ak) ?_;rintro _ w ⟨k59,g59,rfl,hs⟩
    refine .go (.E 15 hs ?_)
    refine .call dR rfl (cf hs ak) ?_;rintro _ w ⟨k65,g65,rfl,hs⟩
    refine .go (.E 19 hs ?_)
    refine .call dR rfl (cf hs ak) ?_;rintro _ w ⟨k69,g69,rfl,hs⟩
    refine .go (.zw 20 rfl cn (.E 23 hs ?_))
    refine .call dR rfl (cf hs ak) ?_;rintro _ w ⟨k73,g73,rfl,hs⟩
    obtain ⟨r,hr⟩:∃r:Rdg,r=⟨10+(rs.length:Int),(k59:Int),(k65:Int),0,(k44:Int)*(k48:Int),1+(k69:Int),(k73:Int)⟩:=⟨_,rfl⟩
    have hrOk:mU s r:=by subst hr;exact ⟨by dsimp only;omega,by dsimp only;omega,by dsimp only;omega,by dsimp only;omega,by dsimp only;omega,by dsimp only;omega,by dsimp only;omega⟩
    refine .go (.zw 24 rfl (zbd [_,_,_,_,_,_,_] iA) (.E 25 hs ?_))
    refine .buildSlice (cells:=r.c) hs gx rfl (by subst hr;kernel_rfl) ?_;intro b75 w hs
    refine .go (.E 26 hs ?_)
    refine .append (ys:=r.c) hs dT rfl rfl hO3 (.own .here rfl rfl) (by simp [Rdg.c,Value.oneCell']) (fun l' h=>by rw [bV _ (jP _),dk] at h;omega) ?_;intro v76 en76 w hO4 hs
    rw [←uK] at hO4
    obtain ⟨a76,c76,rfl⟩:=hO4.lh (jP _) ak
    rw [dk] at hO4 ⊢
    refine .go (.zw 27 rfl (zfa aP) (.E 28 hs ?_))
    refine .store hs rfl rfl sq ?_;intro w hs
    refine .go (.D hs (nB (nT (.region (.z zm (.z cn (.zn zg (nT ?_))))))))
    exact ⟨(rs++[r],a76,c76),.bT rfl bJ aR,⟨by simp;omega,by simp;omega,fun q hq=>by
      simp only [List.mem_append,List.mem_singleton] at hq
      rcases hq with hq|rfl
      ·exact hrok q hq
      ·exact hrOk,_,hO4,hs.sb⟩,by simp;omega⟩
   ·refine .exit (xT (xT (xB (nT ?_))))
    exact ⟨rs,e3,ar,cr,aR,hr14,hrf,hrok,hO3,hs⟩
  ·refine .Fs 2 5 true (.zn zpF (.cF (.exit (xT (xT (xB (nT ?_)))))))
   exact ⟨rs,e3,ar,cr,aR,hr14,hrf,hrok,hO3,hs⟩
 ·clear hs
  rintro fs w ⟨rs,e3,ar,cr,hfs,hr14,hrf,hrok,hO3,hs⟩
  refine WE.sub ?_ hfs
  clear hfs
  refine .cut (fun fs w=>∃cs e4 ac cc,kF fs ⟨208,[],[(5,Pt b5),(4,Pt b4),(2,Pt b2),(1,Pt b1)]⟩∧cs.length≤5∧(∀c∈cs,qS c)∧(Srv.pP ⟨s,rs,cs⟩).Sound∧cq 6 (.slice ac cs.length cc) (cmc cs).flatten e4∧St H w (e1::e2::e3::e4:: .blk b5 [I s.id,I s.src,.slice ast s.st.length cst,.slice awa s.wa.length cwa,I s.al,I s.up]:: .blk b4 [I s.id,I s.src,.slice ast s.st.length cst,.slice awa s.wa.length cwa,I s.al,I s.up,.slice ar rs.length cr,.slice ac cs.length cc]:: .blk b2 [I 0,I 0,.slice none 0 0,.slice none 0 0,I 0,I 0,.slice none 0 0,.slice none 0 0]:: .blk b1 [.slice avs sl.length cvs,.slice av5 fs5.length cv5,.slice av4 fs4.length cv4,.slice avp pk.length cvp,I z1,I z2,I z3]::σ)) ?_ ?_
  ·refine .aj (.zn zg (.block ?_))
   refine .loop (fun p:Nat×List Cmp×Option Addr×Nat=>⟨208,[],[(9,I (p.1:Int)),(5,Pt b5),(4,Pt b4),(2,Pt b2),(1,Pt b1)]⟩)
    (fun p w=>p.1≤5∧p.1≤fs4.length∧p.2.1.length≤p.1∧(∀c∈p.2.1,qS c)∧(Srv.pP ⟨s,rs,p.2.1⟩).Sound∧∃e4,cq 6 (.slice p.2.2.1 p.2.1.length p.2.2.2) (cmc p.2.1).flatten e4∧
     St H w (e1::e2::e3::e4:: .blk b5 [I s.id,I s.src,.slice ast s.st.length cst,.slice awa s.wa.length cwa,I s.al,I s.up]:: .blk b4 [I s.id,I s.src,.slice ast s.st.length cst,.slice awa s.wa.length cwa,I s.al,I s.up,.slice ar rs.length cr,.slice p.2.2.1 p.2.1.length p.2.2.2]:: .blk b2 [I 0,I 0,.slice none 0 0,.slice none 0 0,I 0,I 0,.slice none 0 0,.slice none 0 0]:: .blk b1 [.slice avs sl.length cvs,.slice av5 fs5.length cv5,.slice av4 fs4.length cv4,.slice avp pk.length cvp,I z1,I z2,I z3]::σ)) (fun p=>5 - p.1) (0,[],none,0) aR
    ⟨bJ,bJ,bJ,bJ,Ef (yK hSp.ok hSt hWa hr14 bJ hrok bJ) rfl,.nul,.nil 6 none,(hs.nul).sb⟩ ?_
   clear hs
   rintro ⟨k,cs,ac,cc⟩ w ⟨hk5,hkf,hck,hcok,hsd,e4,hO4,hs⟩
   dsimp only at hk5 hkf hck hcok hsd hO4 hs ⊢
   refine .seq (.aj (.z zm (.z (zfa kd) (.y hs (zld Tryz.isAgg36) (.z (cJ Tryz.runUnderlying36) (.z fi (.z zm (.fF (t':=83) rfl (fun hb83=>?_) (fun hb83=>?_)))))))))
   ·refine .T (.z zm (.T (.z fi (.zn zpT (.bw rfl (fun hc86=>?_) (fun hc86=>?_))))))
    ·refine .skip (nT (.seq (.block (.aj (.z (zfa kd) (.y hs (zld Tryz.isAgg36) (.z zm ?_)))))))
     obtain ⟨n,hn⟩:=nth (l:=fs4) (k:=k) ak
     refine .ixX (enc:=F4.v) hs g3 rfl rfl Tryz.runUnderlying36 Tryz.sizeOf97 hn cN ?_;intro b92 o92 hc92
     refine .q hs (bO (vs:=n.v) rfl Tryz.isAgg97 Tryz.sizeOf97 hc92) (.o (.alloc hs Tryz.zeroValue97 rfl fun b10 w hs=>?_))
     refine .o (.aO (vs:=[_,_,_,_]) hs rfl rfl Tryz.sizeOf97 fun w hs=>?_)
     refine .nil (.aj (.z (zia 1 tp ai) (.y hs (zld af) (.o (.call dR rfl (cf hs ak) ?_)))));rintro _ w ⟨k96,g96,rfl,hs⟩
     refine .z gz (.zn zg (.aj (.z (zia 3 tp ai) (.y hs (zld af) (.o (.call dR rfl (cf hs ak) ?_))))));rintro _ w ⟨k100,g100,rfl,hs⟩
     refine .zn zg (.seq (.draw mix rfl hs fun w hs=>?_))
     refine .zw 0 rfl (zfa bQ) ?_;refine .y 1 rfl hs dU ?_;refine .z 2 rfl zm ?_;refine .z 3 rfl cn ?_
     refine .zw 4 rfl (zia 0 tp ai) (.y 5 rfl hs af ?_);refine .z 8 rfl zm ?_;refine .z 9 rfl zm ?_
     refine .zw 10 rfl (zia 3 tp ai) (.y 11 rfl hs af ?_);refine .z 12 rfl Ii ?_;refine .z 15 rfl zm ?_;refine .z 16 rfl zm ?_
     refine .zw 17 rfl (zia 2 tp ai) (.zv 18 rfl hs (s4 af) (.E 6 hs ?_))
     refine .call dR rfl (cf hs ak) ?_;rintro _ w ⟨k107,g107,rfl,hs⟩
     refine .go (.zw 7 rfl cn (.E 13 hs ?_))
     refine .call dR rfl (cf hs ak) ?_;rintro _ w ⟨k114,g114,rfl,hs⟩
     refine .go (.zw 14 rfl cn (.E 19 hs ?_))
     refine .call dR rfl (cf hs ak) ?_;rintro _ w ⟨k120,g120,rfl,hs⟩
     obtain ⟨c,hc⟩:∃c:Cmp,c=⟨30+(k:Int),1+(k107:Int),(k100:Int),(k100:Int)+(k114:Int),(k96:Int) - 40,(k96:Int) - 40+(k120:Int)⟩:=⟨_,rfl⟩
     have hcOk:qS c:=by subst hc;exact ⟨by dsimp only;omega,by dsimp only;omega,by dsimp only;omega,by dsimp only;omega,by dsimp only;omega,by dsimp only;omega⟩
     refine .go (.zw 20 rfl cn ?_);refine .z 21 rfl (zbd [_,_,_,_,_,_] o5) ?_
     refine .E 22 hs ?_
     refine .buildSlice (cells:=c.c) hs kM rfl (by subst hc;kernel_rfl) ?_;intro b123 w hs
     refine .go (.E 23 hs ?_)
     refine .append (ys:=c.c) hs kl rfl rfl hO4 (.own .here rfl rfl) (by simp [Cmp.c,Value.oneCell']) (fun l' h=>by rw [bV _ (te _),fQ] at h;omega) ?_;intro v124 en124 w hO5 hs
     rw [←B7] at hO5
     obtain ⟨a124,c124,rfl⟩:=hO5.lh (te _) ak
     rw [fQ] at hO5 ⊢
     have hcl:(cs++[c]).length=cs.length+1:=by simp
     have hcok':∀d∈cs++[c],qS d:=fun d hd=>by
      simp only [List.mem_append,List.mem_singleton] at hd
      rcases hd with hd|rfl
      ·exact hcok d hd
      ·exact hcOk
     have hsok:dq ⟨s,rs,cs++[c]⟩:=yK hSp.ok hSt hWa hr14 ak hrok hcok'
     refine .go (.zw 24 rfl (zfa bQ) (.E 25 hs ?_))
     refine .store hs rfl rfl Tryz.sizeOf50 ?_;intro w hs
     refine .go (.D hs (.aj (.y hs (zls [_,_,_,_,_,_,_,_] aI aB) ?_)))
     obtain ⟨Hx,hlex,r1,r2,r3,r4,hs2,back⟩:=Gl.A1 (s:=⟨s,rs,cs++[c]⟩) ⟨hO1,hO2,hO3,hO5⟩ (by show s.st.length≤_;omega) (by show s.wa.length≤_;omega) (by show rs.length≤_;omega) (by show (cs++[c]).length≤_;omega) (hs.sb:St H w (e1::e2::e3::en124:: .blk b5 [I s.id,I s.src,.slice ast s.st.length cst,.slice awa s.wa.length cwa,I s.al,I s.up]:: .blk b4 [I s.id,I s.src,.slice ast s.st.length cst,.slice awa s.wa.length cwa,I s.al,I s.up,.slice ar rs.length cr,.slice a124 (cs++[c]).length c124]:: .blk b2 [I 0,I 0,.slice none 0 0,.slice none 0 0,I 0,I 0,.slice none 0 0,.slice none 0 0]:: .blk b1 [.slice avs sl.length cvs,.slice av5 fs5.length cv5,.slice av4 fs4.length cv4,.slice avp pk.length cvp,I z1,I z2,I z3]::σ))
     refine .o (.call Tryz.call91 rfl (vO (s:=⟨s,rs,cs++[c]⟩) hs2 r1 r2 r3 r4 hsok.early (A5 hsok)) ?_);rintro _ w ⟨Hy,b127,hley,rfl,hb127,hs3⟩
     have hs:=back hley hs3
     clear hs2 hs3 back
     refine .nil (.cond rfl (fun hc127=>?_) (fun hc127=>?_))
     ·refine .region (.z (zfa bQ) (.y hs (zld dU) (.z (zfa bQ) (.y hs (zld dU) (.z (cJ bg) (.z gz (.q hs (oA (k:=cs.length) rfl rfl bg bY ak (by have:=hO5.le;omega)) ?_)))))))
      refine .z (zfa bQ) (.o (.store hs rfl rfl Tryz.sizeOf50 fun w hs=>?_))
      refine .nil (nB (nT (.region (.z zm (.z cn (.zn zg (nT ?_)))))))
      exact ⟨(k+1,cs,a124,c124),.bT rfl bJ aR,⟨by dsimp only;omega,by dsimp only;omega,by dsimp only;omega,hcok,hsd,_,hO5.HD,hs.sb⟩,by dsimp only;omega⟩
     ·refine .skip (nB (nT (.region (.z zm (.z cn (.zn zg (nT ?_)))))))
      exact ⟨(k+1,cs++[c],a124,c124),.bT rfl bJ aR,⟨by dsimp only;omega,by dsimp only;omega,by dsimp only;omega,hcok',hb127 (by simpa using hc127),_,hO5,hs.sb⟩,by dsimp only;omega⟩
    ·refine .exit (xT (xT (xB (nT ?_))))
     exact ⟨cs,e4,ac,cc,aR,ak,hcok,hsd,hO4,hs⟩
   ·refine .Fs 2 5 true (.zn zpF (.cF (.exit (xT (xT (xB (nT ?_)))))))
    exact ⟨cs,e4,ac,cc,aR,ak,hcok,hsd,hO4,hs⟩
  ·clear hs
   rintro fs w ⟨cs,e4,ac,cc,hfs,hc5,hcok,hsd,hO4,hs⟩
   refine WE.sub ?_ hfs
   clear hfs
   have hsok:dq ⟨s,rs,cs⟩:=yK hSp.ok hSt hWa hr14 hc5 hrok hcok
   refine .aj (.y hs (zls [_,_,_,_,_,_,_,_] aI aB) (.z (zfa oR) (.y hs (zld aq) ?_)))
   obtain ⟨Hx,hlex,r1,r2,r3,r4,hs2,back⟩:=Gl.A1 (s:=⟨s,rs,cs⟩) ⟨hO1,hO2,hO3,hO4⟩ (by show s.st.length≤_;omega) (by show s.wa.length≤_;omega) (by show rs.length≤_;omega) (by show cs.length≤_;omega) hs
   refine .o (.call Tryz.call92 rfl (vN (s:=⟨s,rs,cs⟩) hs2 r1 r2 r3 r4 (g4.mono hlex) hsok.early ⟨A5 hsok,hsd⟩) ?_);rintro v139 w ⟨Hy,x,ex,hley,hOx,hP,hs3⟩
   have hs:=back hley hs3
   clear hs2 hs3 back r1 r2 r3 r4
   obtain ⟨hxl,hx0,hxb,hfe⟩:=hP.zj (A5 hsok) hsd
   have hsm:=hsok.many
   have hfn:(Srv.pP ⟨s,rs,cs⟩).n=s.many+(bn rs).length+1:=vE ⟨s,rs,cs⟩
   have hxl:x.length=s.many+(bn rs).length+1:=by rw [hxl];exact hfn
   rw [hfn] at hxb
   have hsm:s.many+(bn rs).length≤64:=hsm
   obtain ⟨Hz,hlez,hX,hs⟩:=cq.dB hOx ak hs dx
   obtain ⟨ax,cx,rfl⟩:=RI.shape hX
   refine .zn zg (.seq (.aj (.zn zg (.block ?_))))
   refine .loop (fun p:Nat×List Rdg=>⟨208,[],[(14,I (p.1:Int)),(13,.slice ax x.length cx),(5,Pt b5),(4,Pt b4),(2,Pt b2),(1,Pt b1)]⟩)
    (fun p w=>p.1≤rs.length∧p.2.length=rs.length∧bn p.2=bn rs∧(∀r∈p.2,RdS s r)∧(∀j<p.1,∀r,p.2[j]? =some r→EG s (bn rs) x r)∧∃e3,cq 7 (.slice ar rs.length cr) (rdc p.2).flatten e3∧
     St Hz w (e1::e2::e3::e4:: .blk b5 [I s.id,I s.src,.slice ast s.st.length cst,.slice awa s.wa.length cwa,I s.al,I s.up]:: .blk b4 [I s.id,I s.src,.slice ast s.st.length cst,.slice awa s.wa.length cwa,I s.al,I s.up,.slice ar rs.length cr,.slice ac cs.length cc]:: .blk b2 [I 0,I 0,.slice none 0 0,.slice none 0 0,I 0,I 0,.slice none 0 0,.slice none 0 0]:: .blk b1 [.slice avs sl.length cvs,.slice av5 fs5.length cv5,.slice av4 fs4.length cv4,.slice avp pk.length cvp,I z1,I z2,I z3]::σ)) (fun p=>rs.length - p.1) (0,rs) aR
    ⟨bJ,rfl,rfl,fun r hr=>⟨(hrok r hr).st,(hrok r hr).wa,(hrok r hr).tol⟩,fun j hj=>by omega,e3,hO3,hs⟩ ?_
   clear hs hO3
   rintro ⟨k,R⟩ w ⟨hk,hRl,hRt,hRs,hRv,e3,hO3,hs⟩
   dsimp only at hk hRl hRt hRs hRv hO3 hs ⊢
   refine .seq (.aj (.z zm (.z (zfa aP) (.y hs (zld bA) (.z (cJ aA) (.zn fi (.bw rfl (fun hc144=>?_) (fun hc144=>?_))))))))
   ·refine .skip (nT (.seq (.block (.aj (.z (zfa im) (.y hs (zld Tryz.isAgg35) (.z zm ?_)))))))
    obtain ⟨n,hn⟩:=nth (l:=fs5) (k:=k) ak
    obtain ⟨r,hr⟩:=nth (l:=R) (k:=k) ak
    have hrS:=hRs r (List.mem_of_getElem? hr)
    obtain ⟨u,hu1,hu2⟩:=hrS.u
    have hrst:=hrS.st
    have hrwa:=hrS.wa
    have hrtol:=hrS.tol
    have hmem:r.td∈bn R:=gL.2 ⟨r,List.mem_of_getElem? hr,rfl⟩
    obtain ⟨q,q1,q2,q3⟩:=ib hmem
    rw [hRt] at q3
    have hb1:=hxb u ak
    have hb2:=hxb (s.many+1+q) ak
    obtain ⟨bo,co,sp,hv,rfl,hcap⟩:=hO3.I2 (jP _) ak (by rw [dk];omega)
    simp only [Value.slice.injEq] at hv
    obtain ⟨rfl,hv2,rfl⟩:=hv
    obtain ⟨Hx,hlex,r1,r2,r3,r4,hs2,back⟩:=Gl.A1 (s:=⟨s,R,cs⟩) ⟨hO1,hO2,hO3,hO4⟩ (by show s.st.length≤_;omega) (by show s.wa.length≤_;omega) (by show R.length≤_;omega) (by show cs.length≤_;omega) hs
    clear hs
    have hs:=hs2
    clear hs2
    refine .ixX (enc:=F5.v) hs (g2.mono (hlez.trans hlex)) rfl rfl Tryz.runUnderlying35 xr hn cN ?_;intro b150 o150 hc150
    refine .q hs (bO (vs:=n.v) rfl Tryz.isAgg151 xr hc150) (.o (.alloc hs Tryz.zeroValue151 rfl fun b15 w hs=>?_))
    refine .o (.aO (vs:=[_,_,_,_,_]) hs rfl rfl xr fun w hs=>?_)
    refine .nil (.aj (.z (zfa aP) (.y hs (zld bA) (.z zm (.ixX (enc:=Rdg.c) hs r3 rfl rfl aA aH hr cN ?_)))));intro b155 o155 hc155
    refine .q hs (bO (vs:=r.c) rfl ef aH hc155) (.o (.alloc hs eS rfl fun b16 w hs=>?_))
    refine .o (.aO (vs:=[_,_,_,_,_,_,_]) hs rfl rfl aH fun w hs=>?_)
    refine .nil (.aj (.y hs (zls [_,_,_,_,_,_] aV aJ) (.z (zfa fO) (.y hs (zld af) (.z (zfa fN) (.y hs (zld af) (.o (.call jj rfl (cQ (s:=s) hs r2 ak ak ak) ?_))))))));rintro _ w ⟨rfl,hs⟩
    rw [hu1]
    refine .zn zg (.seq (.draw mix rfl hs fun w hs=>?_))
    refine .ys 0 rfl hs [_,_,_,_,_,_] aV aJ ?_;refine .z 3 rfl (zfa aP) ?_;refine .y 4 rfl hs bA ?_;refine .z 6 rfl (zfa eD) ?_;refine .y 7 rfl hs af ?_;refine .z 8 rfl (zfa eC) ?_;refine .y 9 rfl hs af ?_;refine .z 10 rfl (zbd [_,_] iz) ?_
    refine .E 1 hs ?_
    refine .call Gw rfl (e9 (s:=s) hs r1 r2 ⟨ak,ak⟩) ?_;rintro _ w ⟨rfl,hs⟩
    refine .go (.zw 2 rfl cn (.E 5 hs ?_))
    refine .call Gv rfl (gM (rs:=R) hs r3 ak) ?_;rintro v168 w ⟨Hw,hlew,hT,hs⟩
    refine .go (.E 11 hs ?_)
    refine .call Tryz.call95 rfl (kv (t:=r.td) hs hT (by rw [hRt];omega)) ?_;rintro _ w ⟨rfl,hs⟩
    rw [q1]
    refine .go (.zw 12 rfl cn ?_);refine .z 13 rfl zg ?_;refine .D hs ?_
    refine .seq (.draw mix rfl hs fun w hs=>?_)
    refine .zw 0 rfl (zia 4 iJ ai) (.y 1 rfl hs af ?_);refine .z 2 rfl Ii ?_;refine .z 3 rfl (zfa cV) ?_;refine .y 4 rfl hs af ?_;refine .z 5 rfl kq ?_;refine .z 6 rfl cn ?_;refine .z 8 rfl (zfa cV) ?_;refine .y 9 rfl hs af ?_
    refine .E 7 hs ?_
    refine .call dR rfl (cf hs ak) ?_;rintro _ w ⟨k183,g183,rfl,hs⟩
    refine .go (.zw 10 rfl gz ?_);refine .z 11 rfl zg ?_;refine .D hs ?_
    refine .draw mix rfl hs fun w hs=>?_
    refine .zw 0 rfl (zfa aP) ?_;refine .y 1 rfl hs bA ?_;refine .z 2 rfl zm ?_;refine .z 3 rfl zm ?_;refine .z 4 rfl zm ?_
    have hs:=back hlew hs
    refine .ixX (enc:=fun x=>[I x]) (i:=5) hs rfl aD .none hX rfl rfl ae ai (bq (l:=x) (i:=u) ak) rfl ?_;intro b192 o192 hc192;replace hc192:=bB.one hc192
    refine .r (i:=6) hs rfl aD .none (aM rfl af hc192) ?_
    refine .zw 7 rfl zm ?_;refine .z 8 rfl zm ?_
    refine .ixX (enc:=fun x=>[I x]) (i:=9) hs rfl aD .none hX rfl rfl ae ai (bq (l:=x) (i:=s.many+1+q) ak) (by push_cast;rfl) ?_;intro b196 o196 hc196;replace hc196:=bB.one hc196
    refine .r (i:=10) hs rfl aD .none (aM rfl af hc196) ?_
    refine .zw 11 rfl gz ?_;refine .z 12 rfl zm ?_;refine .z 13 rfl cn ?_
    first|(refine .ixw 14 rfl hs aA aH ?_;intro b201 o201 hc201)|refine .z 14 rfl (p8 aA aH) ?_
    refine .zw 15 rfl (zfa dh) (.E 16 hs ?_)
    refine .store (c':=(rdc (R.set k {r with val:=gi x u - gi x (s.many+1+q)+((k183:Int) - r.tol)})).flatten++sp) hs rfl rfl ai ?_ dx (Nat.ble_eq_true_of_le (by rw [List.length_append,bV _ (jP _),dk];omega)) (AS hr sp _);intro w hs
    refine .go (.D hs (nB (nT (.region (.z zm (.z cn (.zn zg (nT ?_))))))))
    exact ⟨(k+1,R.set k {r with val:=gi x u - gi x (s.many+1+q)+((k183:Int) - r.tol)}),.bT rfl bJ aR,⟨by dsimp only;omega,by dsimp only;rw [List.length_set];exact hRl,by dsimp only;rw [zB hr];exact hRt,fun y hy=>by
      rcases List.mem_or_eq_of_mem_set hy with h|h
      ·exact hRs y h
      ·subst h;exact ⟨hrst,hrwa,hrtol⟩,fun j hj y hy=>by
      dsimp only at hj hy
      by_cases e:j=k
      ·subst e
       rw [List.getElem?_set_self ak] at hy
       obtain rfl:=Option.some.inj hy
       have q1':ku (bn rs) r.td=q:=by rw [←hRt];exact q1
       unfold EG
       show gi x (1+r.st*s.wa.length+r.wa).toNat - gi x (s.many+1+ku (bn rs) r.td).toNat - r.tol≤_∧_≤gi x (1+r.st*s.wa.length+r.wa).toNat - gi x (s.many+1+ku (bn rs) r.td).toNat+r.tol
       rw [hu1,q1',show ((s.many:Int)+1+(q:Int)).toNat=s.many+1+q by omega,Int.toNat_natCast]
       dsimp only
       omega
      ·rw [List.getElem?_set_ne ak] at hy
       exact hRv j ak y hy,_,FI hO3 _,hs.sb⟩,by dsimp only;omega⟩
   ·refine .exit (xT (xT (xB (nT (.aj (.y hs (zls [_,_,_,_,_,_,_,_] aI aB) (.z zm ?_)))))))
    obtain rfl:k=rs.length:=by omega
    obtain ⟨Hx,hlex,r1,r2,r3,r4,hs2,back⟩:=Gl.A1 (s:=⟨s,R,cs⟩) ⟨hO1,hO2,hO3,hO4⟩ (by show s.st.length≤_;omega) (by show s.wa.length≤_;omega) (by show R.length≤_;omega) (by show cs.length≤_;omega) hs
    refine .o (.call Tryz.call97 rfl (rh (s:=⟨s,R,cs⟩) (x:=x) hs2 r1 r2 r3 ⟨_,_,_,rfl⟩ (hX.mono hlex) (by rw [vE];show _=s.many+(bn R).length+1;rw [hRt];exact hxl) ⟨by show s.st.length≤_;omega,by show s.wa.length≤_;omega,by show R.length≤_;omega⟩) ?_);rintro _ w ⟨Hy,vr',vy,er,ey,hley,rfl,hOr,hOy,hs3⟩
    have hs:=back hley hs3
    clear hs2 hs3 back r1 r2 r3 r4
    have hkl:=wk s R
    obtain ⟨arr,crr,rfl⟩:=hOr.lh (jP _) ak
    obtain ⟨ayy,lyy,cyy,rfl,-⟩:=hOy.shape
    refine .z zex (.z zex (.o (.aO (vs:=[_,_,_,_,_,_,_,_]) hs rfl rfl aB fun w hs=>?_)))
    refine .zn zg (.ret ?_)
    exact Fin.fZ [] [] hs fun w hs=>⟨_,results2 Tryz.results31 (cB (vs:=[_,_,_,_,_,_,_,_]) hs rfl aI aB) rfl,Hz,⟨s,iM s R,cs⟩,_,_,_,_,_,_,e1,e2,er,e4,ey,hlez,rfl,
     ⟨hSt,hWa,by show (iM s R).length≤14;omega,hc5,yK hSp.ok hSt hWa ak hc5 (fun r h=>(Aa h).2) hcok⟩,⟨hO1,hO2,hOr,hO4⟩,hOy,CG hfe hx0 hxl hRt hRs (fun r hr=>by
      obtain ⟨j,hj⟩:=List.getElem?_of_mem hr
      have:=(List.getElem?_eq_some_iff.1 hj).1
      exact hRv j ak r hj),hs.sb⟩
structure Spl(s:Srv):Prop where
 st:2≤s.sp.st.length∧s.sp.st.length≤4
 wa:2≤s.sp.wa.length∧s.sp.wa.length≤3
 rs:s.rs.length≤15
 cs:s.cs.length≤5
theorem BG{b n cap k:Nat}{xs:List Int}{sp:List Value}(h:cq 1 (.slice (some ⟨b,0,none⟩) n cap) (Is xs) (.blk b (Is xs++sp)))(x:Int):
  cq 1 (.slice (some ⟨b,0,none⟩) n cap) (Is (xs.set k x)) (.blk b (Is (xs.set k x)++sp)):=by
 rcases h with ⟨a,_,_,h3⟩|⟨b',len,cap',sp',h1,h2,h3,h4,h5⟩
 ·cases h3
 ·simp only [Value.slice.injEq] at h1
  obtain ⟨-,rfl,rfl⟩:=h1
  simp only [Ent.blk.injEq] at h2
  rw [←h2.2] at h4
  exact .inr ⟨b,n,cap,sp,rfl,rfl,by simpa [Is] using h3,by simpa [Is] using h4,h5⟩
theorem kS{l:List Rdg}{k j:Nat}{r r':Rdg}(h:l[k]? =some r)(hj:j<7){v:Value}(hc:r.c.set j v=r'.c)(sp:List Value):((rdc l).flatten++sp).set (k*7+j) v=(rdc (l.set k r')).flatten++sp:=by
 have hk:=(List.getElem?_eq_some_iff.1 h).1
 rw [List.set_append_left _ _ (by rw [bV _ (jP _),dk];omega),uQ (rdc l) k j v (jP l) (by rw [dk];exact hk) hj r.c (yz h),hc]
 unfold rdc
 rw [List.map_set]
theorem kT{b n cap k:Nat}{R:List Rdg}{r':Rdg}{sp:List Value}(h:cq 7 (.slice (some ⟨b,0,none⟩) n cap) (rdc R).flatten (.blk b ((rdc R).flatten++sp))):
  cq 7 (.slice (some ⟨b,0,none⟩) n cap) (rdc (R.set k r')).flatten (.blk b ((rdc (R.set k r')).flatten++sp)):=by
 have hl:(rdc (R.set k r')).flatten.length=(rdc R).flatten.length:=by
  rw [bV _ (jP _),bV _ (jP _),dk,dk,List.length_set]
 rcases h with ⟨a,_,_,h3⟩|⟨b',len,cap',sp',h1,h2,h3,h4,h5⟩
 ·cases h3
 ·simp only [Value.slice.injEq] at h1
  obtain ⟨-,rfl,rfl⟩:=h1
  simp only [Ent.blk.injEq] at h2
  rw [←h2.2] at h4
  exact .inr ⟨b,n,cap,sp,rfl,rfl,by rw [hl];exact h3,by rw [List.length_append,hl,←List.length_append];exact h4,h5⟩
theorem rR{l:List Cmp}{k j:Nat}{r r':Cmp}(h:l[k]? =some r)(hj:j<6){v:Value}(hc:r.c.set j v=r'.c)(sp:List Value):((cmc l).flatten++sp).set (k*6+j) v=(cmc (l.set k r')).flatten++sp:=by
 have hk:=(List.getElem?_eq_some_iff.1 h).1
 rw [List.set_append_left _ _ (by rw [bV _ (te _),fQ];omega),uQ (cmc l) k j v (te l) (by rw [fQ];exact hk) hj r.c (HH h),hc]
 unfold cmc
 rw [List.map_set]
theorem rp{b n cap k:Nat}{R:List Cmp}{r':Cmp}{sp:List Value}(h:cq 6 (.slice (some ⟨b,0,none⟩) n cap) (cmc R).flatten (.blk b ((cmc R).flatten++sp))):
  cq 6 (.slice (some ⟨b,0,none⟩) n cap) (cmc (R.set k r')).flatten (.blk b ((cmc (R.set k r')).flatten++sp)):=by
 have hl:(cmc (R.set k r')).flatten.length=(cmc R).flatten.length:=by
  rw [bV _ (te _),bV _ (te _),fQ,fQ,List.length_set]
 rcases h with ⟨a,_,_,h3⟩|⟨b',len,cap',sp',h1,h2,h3,h4,h5⟩
 ·cases h3
 ·simp only [Value.slice.injEq] at h1
  obtain ⟨-,rfl,rfl⟩:=h1
  simp only [Ent.blk.injEq] at h2
  rw [←h2.2] at h4
  exact .inr ⟨b,n,cap,sp,rfl,rfl,by rw [hl];exact h3,by rw [List.length_append,hl,←List.length_append];exact h4,h5⟩
set_option maxHeartbeats 2000000 in
theorem sM{vs v5 v4 vp:Value}{sl pk:List Int}{fs5:List F5}{fs4:List F4}{z1 z2 z3:Int}(hs:St H w σ)(g1:RI H vs sl)(g2:RF5 H v5 fs5)(g3:RF4 H v4 fs4)(g4:RI H vp pk):
  Cl Tryz.prog 55 [.agg #[vs,v5,v4,vp,I z1,I z2,I z3]] w fun u w'=>∃H1 s vst vwa vr vc,HLe H H1∧u= .agg #[I s.sp.id,I s.sp.src,vst,vwa,I s.sp.al,I s.sp.up,vr,vc]∧RI H1 vst s.sp.st∧RI H1 vwa s.sp.wa∧RRd H1 vr s.rs∧RCm H1 vc s.cs∧Spl s∧St H1 w' σ:=by
 obtain ⟨avs,cvs,rfl⟩:=RI.shape g1
 obtain ⟨av5,cv5,rfl⟩:=g2.shape
 obtain ⟨av4,cv4,rfl⟩:=g3.shape
 obtain ⟨avp,cvp,rfl⟩:=RI.shape g4
 refine Cl.o Tryz.func55 Tryz.ntmps55 ag1 ?_
 refine .aj (.bx hs fun b1 w hs=>?_)
 refine .o (.alloc hs eG rfl fun b2 w hs=>?_)
 refine .nil (.aj (.y hs (zls [_,_,_,_,_,_,_] Tryz.isAgg39 Tryz.sizeOf39) (.o (.call Tryz.call31 rfl (qb hs g1 g2 g3 g4) ?_))));rintro _ w ⟨H1,s,y,vst,vwa,vr,vc,vy,e1,e2,e3,e4,e5,hle1,rfl,hM,⟨hO1,hO2,hO3,hO4⟩,hOy,-,hs⟩
 have hst2:=hM.ok.early.1.st.two
 have hwa2:=hM.ok.early.1.wa.two
 have hst4:=hM.st
 have hwa3:=hM.wa
 have hrs:=hM.rs
 have hcs:=hM.cs
 obtain ⟨bS,cS,spS,rfl,rfl,hcapS⟩:=hO1.some ak
 obtain ⟨bW,cW,spW,rfl,rfl,hcapW⟩:=hO2.some ak
 obtain ⟨ar,cr,rfl⟩:=hO3.lh (jP _) ak
 obtain ⟨ac,cc,rfl⟩:=hO4.lh (te _) ak
 rw [dk] at hO3 ⊢
 rw [fQ] at hO4 ⊢
 obtain ⟨ay,ly,cy,rfl,-⟩:=hOy.shape
 refine .z zm (.z zex (.z zex (.o (.alloc hs eG rfl fun b3 w hs=>?_))))
 refine .o (.aO (vs:=[_,_,_,_,_,_,_,_]) hs rfl rfl aB fun w hs=>?_)
 refine .zn zg (.aj (.z (zfa oQ) (.y hs (zls [_,_,_] Tryz.isAgg37 Tryz.sizeOf37) (.o (.alloc hs Tryz.zeroValue37 rfl fun b5 w hs=>?_)))))
 refine .o (.aO (vs:=[_,_,_]) hs rfl rfl Tryz.sizeOf37 fun w hs=>?_)
 refine .nil (.aj (.z (zia 0 bh ai) (.y hs (zld af) (.o (.call dR rfl (cf hs ak) ?_)))));rintro _ w ⟨k,gk,rfl,hs⟩
 refine .zn zg (.cut (fun fs w=>∃(sp':Spc) (f1 f2:Ent),kF fs ⟨225,[],[(6,I (k:Int)),(5,Pt b5),(3,Pt b3),(2,Pt b2),(1,Pt b1)]⟩∧sp'.st.length=s.sp.st.length∧sp'.wa.length=s.sp.wa.length∧cq 1 (.slice (some ⟨bS,0,none⟩) s.sp.st.length cS) (Is sp'.st) f1∧cq 1 (.slice (some ⟨bW,0,none⟩) s.sp.wa.length cW) (Is sp'.wa) f2∧St H1 w (f1::f2::e3::e4:: .blk b5 [I z1,I z2,I z3]:: .blk b3 [I sp'.id,I sp'.src,.slice (some ⟨bS,0,none⟩) s.sp.st.length cS,.slice (some ⟨bW,0,none⟩) s.sp.wa.length cW,I sp'.al,I sp'.up,.slice ar s.rs.length cr,.slice ac s.cs.length cc]:: .blk b2 [I 0,I 0,.slice none 0 0,.slice none 0 0,I 0,I 0,.slice none 0 0,.slice none 0 0]::σ)) ?_ ?_)
 ·refine .aj (.zn zm (.block (.aj (.z gw (.zn zg (.bw rfl (fun hc21=>?_) (fun hc21=>?_)))))))
  ·refine .region (.z (zia 2 bh ai) (.y hs (zld af) (.z (zfa aT) (.z (zfa mm) (.o (.store hs rfl rfl ai fun w hs=>?_))))))
   refine .nil (nB (nT ?_))
   exact ⟨{s.sp with id:=z3},_,_,aR,rfl,rfl,hO1,hO2,hs.sb⟩
  ·refine .aj (.z gw (.zn zg (.bw rfl (fun hc27=>?_) (fun hc27=>?_))))
   ·refine .region (.z (zia 2 bh ai) (.y hs (zld af) (.z (zfa aT) (.z (zfa dG) (.o (.store hs rfl rfl ai fun w hs=>?_))))))
    refine .nil (nB (nT ?_))
    exact ⟨{s.sp with src:=z3},_,_,aR,rfl,rfl,hO1,hO2,hs.sb⟩
   ·refine .aj (.z gw (.zn zg (.bw rfl (fun hc33=>?_) (fun hc33=>?_))))
    ·refine .draw mix rfl hs fun w hs=>?_
     refine .zw 0 rfl (zfa aT) ?_;refine .z 1 rfl (zfa bE) ?_;refine .y 2 rfl hs aq ?_
     refine .zw 3 rfl (zia 1 bh ai) (.y 4 rfl hs af ?_);refine .z 5 rfl (zfa aT) ?_;refine .z 6 rfl (zfa bE) ?_;refine .y 7 rfl hs aq ?_;refine .z 8 rfl (cJ ae) ?_
     refine .zw 10 rfl (zia 2 bh ai) (.zv 11 rfl hs (s4 af) (.E 9 hs ?_))
     refine .call dR rfl (cf hs ak) ?_;rintro _ w ⟨k44,g44,rfl,hs⟩
     refine .go ?_
     first|(refine .ixv 12 rfl hs ae ai ?_;intro b47 o47 hc47)|refine .z 12 rfl (zix ae ai) ?_
     refine .E 13 hs ?_
     refine .store (c':=Is (s.sp.st.set k44 z3)++spS) hs rfl rfl ai ?_ dx (lE ak spS) (iT ak spS _);intro w hs
     refine .go (.D hs (nB (nT ?_)))
     exact ⟨{s.sp with st:=s.sp.st.set k44 z3},_,_,aR,bJ,rfl,BG hO1 _,hO2,hs.sb⟩
    ·refine .aj (.z gw (.zn zg (.bw rfl (fun hc48=>?_) (fun hc48=>?_))))
     ·refine .draw mix rfl hs fun w hs=>?_
      refine .zw 0 rfl (zfa aT) ?_;refine .z 1 rfl (zfa aU) ?_;refine .y 2 rfl hs aq ?_
      refine .zw 3 rfl (zia 1 bh ai) (.y 4 rfl hs af ?_);refine .z 5 rfl (zfa aT) ?_;refine .z 6 rfl (zfa aU) ?_;refine .y 7 rfl hs aq ?_;refine .z 8 rfl (cJ ae) ?_
      refine .zw 10 rfl (zia 2 bh ai) (.zv 11 rfl hs (s4 af) (.E 9 hs ?_))
      refine .call dR rfl (cf hs ak) ?_;rintro _ w ⟨k59,g59,rfl,hs⟩
      refine .go ?_
      first|(refine .ixv 12 rfl hs ae ai ?_;intro b62 o62 hc62)|refine .z 12 rfl (zix ae ai) ?_
      refine .E 13 hs ?_
      refine .store (c':=Is (s.sp.wa.set k59 z3)++spW) hs rfl rfl ai ?_ dx (lE ak spW) (iT ak spW _);intro w hs
      refine .go (.D hs (nB (nT ?_)))
      exact ⟨{s.sp with wa:=s.sp.wa.set k59 z3},_,_,aR,rfl,bJ,hO1,BG hO2 _,hs.sb⟩
     ·refine .aj (.z gw (.zn zg (.bw rfl (fun hc63=>?_) (fun hc63=>?_))))
      ·refine .region (.z (zia 2 bh ai) (.y hs (zld af) (.z (zfa aT) (.z (zfa dY) (.z (zfa jA) (.o (.store hs rfl rfl ai fun w hs=>?_)))))))
       refine .nil (nB (nT ?_))
       exact ⟨{s.sp with al:=z3},_,_,aR,rfl,rfl,hO1,hO2,hs.sb⟩
      ·refine .aj (.z gw (.zn zg (.bw rfl (fun hc70=>?_) (fun hc70=>?_))))
       ·refine .region (.z (zia 2 bh ai) (.y hs (zld af) (.z (zfa aT) (.z (zfa dY) (.z (zfa jz) (.o (.store hs rfl rfl ai fun w hs=>?_)))))))
        refine .nil (nB (nT ?_))
        exact ⟨{s.sp with up:=z3},_,_,aR,rfl,rfl,hO1,hO2,hs.sb⟩
       ·refine .skip (nB (nT ?_))
        exact ⟨s.sp,_,_,aR,rfl,rfl,hO1,hO2,hs.sb⟩
 ·clear hs hO1 hO2
  rintro fs w ⟨sp',f1,f2,hfs,hl1,hl2,hO1,hO2,hs⟩
  refine WE.sub ?_ hfs
  clear hfs
  refine .cut (fun fs w=>∃(R:List Rdg) (f3:Ent) (ar':Option Addr) (cr':Nat),kF fs ⟨225,[],[(6,I (k:Int)),(5,Pt b5),(3,Pt b3),(2,Pt b2)]⟩∧R.length≤15∧cq 7 (.slice ar' R.length cr') (rdc R).flatten f3∧St H1 w (f1::f2::f3::e4:: .blk b5 [I z1,I z2,I z3]:: .blk b3 [I sp'.id,I sp'.src,.slice (some ⟨bS,0,none⟩) s.sp.st.length cS,.slice (some ⟨bW,0,none⟩) s.sp.wa.length cW,I sp'.al,I sp'.up,.slice ar' R.length cr',.slice ac s.cs.length cc]:: .blk b2 [I 0,I 0,.slice none 0 0,.slice none 0 0,I 0,I 0,.slice none 0 0,.slice none 0 0]::σ)) ?_ ?_
  ·refine .aj (.z (zfa aP) (.y hs (zld bA) (.z (cJ aA) (.zn kQ (.bw rfl (fun hc80=>?_) (fun hc80=>?_))))))
   ·refine .aj (.z (zia 1 bh ai) (.y hs (zld af) (.z (zfa aP) (.y hs (zld bA) (.z (cJ aA) ?_)))))
    obtain ⟨bR,cR,spR,hv,rfl,hcapR⟩:=hO3.I2 (jP _) ak (by rw [dk];omega)
    simp only [Value.slice.injEq] at hv
    obtain ⟨rfl,hv2,rfl⟩:=hv
    refine .o (.call dR rfl (cf hs ak) ?_);rintro _ w ⟨i,gi_,rfl,hs⟩
    obtain ⟨r,hr⟩:=nth (l:=s.rs) (k:=i) ak
    have hbR:∀j<7,Nat.blt (i*7+j) ((rdc s.rs).flatten++spR).length=true:=fun j hj=>Nat.ble_eq_true_of_le (by rw [List.length_append,bV _ (jP _),dk];omega)
    refine .zn zg (.aj (.zn zm (.block (.seq (.aj (.z gw (.zn zg (.bw rfl (fun hc88=>?_) (fun hc88=>?_)))))))))
    ·refine .skip (nT (.cT (.region (.z (zfa aP) (.y hs (zld bA) (.z zm (.z (zia 2 bh ai) (.y hs (zld af) ?_))))))))
     first|(refine .ixw hs aA aH ?_;intro b97 o97 hc97)|refine .z (p8 aA aH) ?_
     refine .z (zfa dh) (.o (.store (c':=(rdc (s.rs.set i {r with val:=z3})).flatten++spR) hs rfl rfl ai ?_ dx (hbR 3 ak) (kS hr ak rfl spR)));intro w hs
     refine .nil (nB (nT ?_))
     exact ⟨s.rs.set i {r with val:=z3},_,some ⟨bR,0,none⟩,cr,aR,by rw [List.length_set];omega,by rw [List.length_set];exact kT hO3,by rw [List.length_set];exact hs.sb⟩
    ·refine .aj (.z gw (.zn zg (.bw rfl (fun hc88=>?_) (fun hc88=>?_))))
     ·refine .skip (nT (.cT (.region (.z (zfa aP) (.y hs (zld bA) (.z zm (.z (zia 2 bh ai) (.y hs (zld af) ?_))))))))
      first|(refine .ixw hs aA aH ?_;intro b97 o97 hc97)|refine .z (p8 aA aH) ?_
      refine .z (zfa dh) (.o (.store (c':=(rdc (s.rs.set i {r with val:=z3})).flatten++spR) hs rfl rfl ai ?_ dx (hbR 3 ak) (kS hr ak rfl spR)));intro w hs
      refine .nil (nB (nT ?_))
      exact ⟨s.rs.set i {r with val:=z3},_,some ⟨bR,0,none⟩,cr,aR,by rw [List.length_set];omega,by rw [List.length_set];exact kT hO3,by rw [List.length_set];exact hs.sb⟩
     ·refine .region (.z gw (.zn zg (nT (.bw rfl (fun hc88=>?_) (fun hc88=>?_)))))
      ·refine .region (.z (zfa aP) (.y hs (zld bA) (.z zm (.z (zia 2 bh ai) (.y hs (zld af) ?_)))))
       first|(refine .ixw hs aA aH ?_;intro b97 o97 hc97)|refine .z (p8 aA aH) ?_
       refine .z (zfa dh) (.o (.store (c':=(rdc (s.rs.set i {r with val:=z3})).flatten++spR) hs rfl rfl ai ?_ dx (hbR 3 ak) (kS hr ak rfl spR)));intro w hs
       refine .nil (nB (nT ?_))
       exact ⟨s.rs.set i {r with val:=z3},_,some ⟨bR,0,none⟩,cr,aR,by rw [List.length_set];omega,by rw [List.length_set];exact kT hO3,by rw [List.length_set];exact hs.sb⟩
      ·refine .aj (.z gw (.zn zg (.bw rfl (fun hc99=>?_) (fun hc99=>?_))))
       ·refine .region (.z (zfa aP) (.y hs (zld bA) (.z zm (.z (zia 2 bh ai) (.y hs (zld af) ?_)))))
        first|(refine .ixw hs aA aH ?_;intro b106 o106 hc106)|refine .z (p8 aA aH) ?_
        refine .z (zfa cV) (.o (.store (c':=(rdc (s.rs.set i {r with tol:=z3})).flatten++spR) hs rfl rfl ai ?_ dx (hbR 4 ak) (kS hr ak rfl spR)));intro w hs
        refine .nil (nB (nT ?_))
        exact ⟨s.rs.set i {r with tol:=z3},_,some ⟨bR,0,none⟩,cr,aR,by rw [List.length_set];omega,by rw [List.length_set];exact kT hO3,by rw [List.length_set];exact hs.sb⟩
       ·refine .aj (.z gw (.zn zg (.bw rfl (fun hc108=>?_) (fun hc108=>?_))))
        ·refine .region (.z (zfa aP) (.y hs (zld bA) (.z zm (.z (zia 2 bh ai) (.y hs (zld af) ?_)))))
         first|(refine .ixw hs aA aH ?_;intro b115 o115 hc115)|refine .z (p8 aA aH) ?_
         refine .z (zfa eD) (.o (.store (c':=(rdc (s.rs.set i {r with tape:=z3})).flatten++spR) hs rfl rfl ai ?_ dx (hbR 5 ak) (kS hr ak rfl spR)));intro w hs
         refine .nil (nB (nT ?_))
         exact ⟨s.rs.set i {r with tape:=z3},_,some ⟨bR,0,none⟩,cr,aR,by rw [List.length_set];omega,by rw [List.length_set];exact kT hO3,by rw [List.length_set];exact hs.sb⟩
        ·refine .aj (.z gw (.zn zg (.bw rfl (fun hc117=>?_) (fun hc117=>?_))))
         ·refine .region (.z (zfa aP) (.y hs (zld bA) (.z zm (.z (zia 2 bh ai) (.y hs (zld af) ?_)))))
          first|(refine .ixw hs aA aH ?_;intro b124 o124 hc124)|refine .z (p8 aA aH) ?_
          refine .z (zfa eC) (.o (.store (c':=(rdc (s.rs.set i {r with day:=z3})).flatten++spR) hs rfl rfl ai ?_ dx (hbR 6 ak) (kS hr ak rfl spR)));intro w hs
          refine .nil (nB (nT ?_))
          exact ⟨s.rs.set i {r with day:=z3},_,some ⟨bR,0,none⟩,cr,aR,by rw [List.length_set];omega,by rw [List.length_set];exact kT hO3,by rw [List.length_set];exact hs.sb⟩
         ·refine .aj (.z gw (.zn zg (.bw rfl (fun hc126=>?_) (fun hc126=>?_))))
          ·refine .region (.z (zfa aP) (.y hs (zld bA) (.z zm (.z (zia 2 bh ai) (.y hs (zld af) ?_)))))
           first|(refine .ixw hs aA aH ?_;intro b133 o133 hc133)|refine .z (p8 aA aH) ?_
           refine .z (zfa fO) (.o (.store (c':=(rdc (s.rs.set i {r with st:=z3})).flatten++spR) hs rfl rfl ai ?_ dx (hbR 1 ak) (kS hr ak rfl spR)));intro w hs
           refine .nil (nB (nT ?_))
           exact ⟨s.rs.set i {r with st:=z3},_,some ⟨bR,0,none⟩,cr,aR,by rw [List.length_set];omega,by rw [List.length_set];exact kT hO3,by rw [List.length_set];exact hs.sb⟩
          ·refine .aj (.z gw (.zn zg (.bw rfl (fun hc135=>?_) (fun hc135=>?_))))
           ·refine .region (.z (zfa aP) (.y hs (zld bA) (.z zm (.z (zia 2 bh ai) (.y hs (zld af) ?_)))))
            first|(refine .ixw hs aA aH ?_;intro b142 o142 hc142)|refine .z (p8 aA aH) ?_
            refine .z (zfa fN) (.o (.store (c':=(rdc (s.rs.set i {r with wa:=z3})).flatten++spR) hs rfl rfl ai ?_ dx (hbR 2 ak) (kS hr ak rfl spR)));intro w hs
            refine .nil (nB (nT ?_))
            exact ⟨s.rs.set i {r with wa:=z3},_,some ⟨bR,0,none⟩,cr,aR,by rw [List.length_set];omega,by rw [List.length_set];exact kT hO3,by rw [List.length_set];exact hs.sb⟩
           ·refine .aj (.z gw (.zn zg (.bw rfl (fun hc144=>?_) (fun hc144=>?_))))
            ·refine .region (.z (zfa aP) (.y hs (zld bA) (.z zm (.z (zia 2 bh ai) (.y hs (zld af) ?_)))))
             first|(refine .ixw hs aA aH ?_;intro b151 o151 hc151)|refine .z (p8 aA aH) ?_
             refine .z (zfa eE) (.o (.store (c':=(rdc (s.rs.set i {r with src:=z3})).flatten++spR) hs rfl rfl ai ?_ dx (hbR 0 ak) (kS hr ak rfl spR)));intro w hs
             refine .nil (nB (nT ?_))
             exact ⟨s.rs.set i {r with src:=z3},_,some ⟨bR,0,none⟩,cr,aR,by rw [List.length_set];omega,by rw [List.length_set];exact kT hO3,by rw [List.length_set];exact hs.sb⟩
            ·refine .seq (.aj (.z gw (.zn zg (.bw rfl (fun hc153=>?_) (fun hc153=>?_)))))
             ·refine .skip (nT (.cT (.aj (.z (zfa aP) (.y hs (zld bA) (.z zm ?_))))))
              first|(refine .ixw hs aA aH ?_;intro b159 o159 hc159)|refine .z (p8 aA aH) ?_
              refine .y hs (zls r.c ef aH (hr:= .own (by repeat (first|exact .here|refine .there ?_)) (zO (jP _) (yz hr) spR))) ?_
              have hrOk:=hM.ok.early.2.2.2.1 r (List.mem_of_getElem? hr)
              have hrtol:=hrOk.tol
              refine .o (.alloc hs eS rfl fun b8 w hs=>?_)
              refine .o (.aO (vs:=[_,_,_,_,_,_,_]) hs rfl rfl aH fun w hs=>?_)
              refine .nil (.aj (.z (zfa eE) (.o (.store hs rfl rfl ai fun w hs=>?_))))
              refine .nil (.aj (.z (zia 2 bh ai) (.y hs (zld af) (.z (zfa cV) (.y hs (zld af) (.z gz (.z cn (.o (.call dR rfl (cf hs ak) ?_)))))))));rintro _ w ⟨k168,g168,rfl,hs⟩
              refine .z (zfa dh) (.o (.store hs rfl rfl ai fun w hs=>?_))
              refine .nil (.region (.z (zfa aP) (.y hs (zld bA) (.y hs (zls [_,_,_,_,_,_,_] ef aH) (.o (.buildSlice (cells:=Rdg.c ⟨50,r.st,r.wa,(k168:Int),r.tol,r.tape,r.day⟩) hs gx rfl aD fun b173 w hs=>?_))))))
              refine .o (.append (ys:=Rdg.c ⟨50,r.st,r.wa,(k168:Int),r.tol,r.tape,r.day⟩) hs dT rfl rfl hO3 (.own .here rfl rfl) (by simp [Rdg.c,Value.oneCell']) (fun l' h=>by rw [bV _ (jP _),dk] at h;omega) ?_);intro v174 en174 w hO5 hs
              rw [←uK] at hO5
              obtain ⟨a174,c174,rfl⟩:=hO5.lh (jP _) ak
              rw [dk] at hO5 ⊢
              refine .z (zfa aP) (.o (.store hs rfl rfl sq fun w hs=>?_))
              refine .nil (nB (nT ?_))
              exact ⟨s.rs++[⟨50,r.st,r.wa,(k168:Int),r.tol,r.tape,r.day⟩],_,a174,c174,aR,by simp;omega,hO5,hs.sb⟩
             ·refine .region (.z gw (.zn zg (nT (.bw rfl (fun hc153=>?_) (fun hc153=>?_)))))
              ·refine .aj (.z (zfa aP) (.y hs (zld bA) (.z zm ?_)))
               first|(refine .ixw hs aA aH ?_;intro b159 o159 hc159)|refine .z (p8 aA aH) ?_
               refine .y hs (zls r.c ef aH (hr:= .own (by repeat (first|exact .here|refine .there ?_)) (zO (jP _) (yz hr) spR))) ?_
               have hrOk:=hM.ok.early.2.2.2.1 r (List.mem_of_getElem? hr)
               have hrtol:=hrOk.tol
               refine .o (.alloc hs eS rfl fun b8 w hs=>?_)
               refine .o (.aO (vs:=[_,_,_,_,_,_,_]) hs rfl rfl aH fun w hs=>?_)
               refine .nil (.aj (.z (zfa eE) (.o (.store hs rfl rfl ai fun w hs=>?_))))
               refine .nil (.aj (.z (zia 2 bh ai) (.y hs (zld af) (.z (zfa cV) (.y hs (zld af) (.z gz (.z cn (.o (.call dR rfl (cf hs ak) ?_)))))))));rintro _ w ⟨k168,g168,rfl,hs⟩
               refine .z (zfa dh) (.o (.store hs rfl rfl ai fun w hs=>?_))
               refine .nil (.region (.z (zfa aP) (.y hs (zld bA) (.y hs (zls [_,_,_,_,_,_,_] ef aH) (.o (.buildSlice (cells:=Rdg.c ⟨50,r.st,r.wa,(k168:Int),r.tol,r.tape,r.day⟩) hs gx rfl aD fun b173 w hs=>?_))))))
               refine .o (.append (ys:=Rdg.c ⟨50,r.st,r.wa,(k168:Int),r.tol,r.tape,r.day⟩) hs dT rfl rfl hO3 (.own .here rfl rfl) (by simp [Rdg.c,Value.oneCell']) (fun l' h=>by rw [bV _ (jP _),dk] at h;omega) ?_);intro v174 en174 w hO5 hs
               rw [←uK] at hO5
               obtain ⟨a174,c174,rfl⟩:=hO5.lh (jP _) ak
               rw [dk] at hO5 ⊢
               refine .z (zfa aP) (.o (.store hs rfl rfl sq fun w hs=>?_))
               refine .nil (nB (nT ?_))
               exact ⟨s.rs++[⟨50,r.st,r.wa,(k168:Int),r.tol,r.tape,r.day⟩],_,a174,c174,aR,by simp;omega,hO5,hs.sb⟩
              ·refine .skip (nB (nT ?_))
               exact ⟨s.rs,_,some ⟨bR,0,none⟩,cr,aR,ak,hO3,hs.sb⟩
   ·refine .skip (nT ?_)
    exact ⟨s.rs,_,ar,cr,aR,ak,hO3,hs.sb⟩
  ·clear hs hO3
   rintro fs w ⟨R,f3,ar',cr',hfs,hRl,hO3,hs⟩
   refine WE.sub ?_ hfs
   clear hfs
   refine .cut (fun fs w=>∃(C:List Cmp) (f4:Ent) (ac':Option Addr) (cc':Nat),kF fs ⟨225,[],[(3,Pt b3),(2,Pt b2)]⟩∧C.length≤5∧cq 6 (.slice ac' C.length cc') (cmc C).flatten f4∧St H1 w (f1::f2::f3::f4:: .blk b3 [I sp'.id,I sp'.src,.slice (some ⟨bS,0,none⟩) s.sp.st.length cS,.slice (some ⟨bW,0,none⟩) s.sp.wa.length cW,I sp'.al,I sp'.up,.slice ar' R.length cr',.slice ac' C.length cc']:: .blk b2 [I 0,I 0,.slice none 0 0,.slice none 0 0,I 0,I 0,.slice none 0 0,.slice none 0 0]::σ)) ?_ ?_
   ·refine .aj (.z (zfa bQ) (.y hs (zld dU) (.z (cJ bg) (.zn kQ (.bw rfl (fun hc179=>?_) (fun hc179=>?_))))))
    ·refine .aj (.z (zia 1 bh ai) (.y hs (zld af) (.z (zfa bQ) (.y hs (zld dU) (.z (cJ bg) ?_)))))
     obtain ⟨bC,cC,spC,hv,rfl,hcapC⟩:=hO4.I2 (te _) ak (by rw [fQ];omega)
     simp only [Value.slice.injEq] at hv
     obtain ⟨rfl,hv2,rfl⟩:=hv
     refine .o (.call dR rfl (cf hs ak) ?_);rintro _ w ⟨i,gi_,rfl,hs⟩
     obtain ⟨c,hc⟩:=nth (l:=s.cs) (k:=i) ak
     have hbC:∀j<6,Nat.blt (i*6+j) ((cmc s.cs).flatten++spC).length=true:=fun j hj=>Nat.ble_eq_true_of_le (by rw [List.length_append,bV _ (te _),fQ];omega)
     refine .zn zg (.aj (.zn zm (.block (.seq (.aj (.z gw (.zn zg (.bw rfl (fun hc187=>?_) (fun hc187=>?_)))))))))
     ·refine .skip (nT (.cT (.region (.z (zfa bQ) (.y hs (zld dU) (.z zm (.z (zia 2 bh ai) (.y hs (zld af) ?_))))))))
      first|(refine .ixw hs bg bY ?_;intro b195 o195 hc195)|refine .z (p8 bg bY) ?_
      refine .z (zfa ff) (.o (.store (c':=(cmc (s.cs.set i {c with lo:=z3})).flatten++spC) hs rfl rfl ai ?_ dx (hbC 4 ak) (rR hc ak rfl spC)));intro w hs
      refine .nil (nB (nT ?_))
      exact ⟨s.cs.set i {c with lo:=z3},_,some ⟨bC,0,none⟩,cc,aR,by rw [List.length_set];omega,by rw [List.length_set];exact rp hO4,by rw [List.length_set];exact hs.sb⟩
     ·refine .region (.z gw (.zn zg (nT (.bw rfl (fun hc187=>?_) (fun hc187=>?_)))))
      ·refine .region (.z (zfa bQ) (.y hs (zld dU) (.z zm (.z (zia 2 bh ai) (.y hs (zld af) ?_)))))
       first|(refine .ixw hs bg bY ?_;intro b195 o195 hc195)|refine .z (p8 bg bY) ?_
       refine .z (zfa ff) (.o (.store (c':=(cmc (s.cs.set i {c with lo:=z3})).flatten++spC) hs rfl rfl ai ?_ dx (hbC 4 ak) (rR hc ak rfl spC)));intro w hs
       refine .nil (nB (nT ?_))
       exact ⟨s.cs.set i {c with lo:=z3},_,some ⟨bC,0,none⟩,cc,aR,by rw [List.length_set];omega,by rw [List.length_set];exact rp hO4,by rw [List.length_set];exact hs.sb⟩
      ·refine .aj (.z gw (.zn zg (.bw rfl (fun hc197=>?_) (fun hc197=>?_))))
       ·refine .region (.z (zfa bQ) (.y hs (zld dU) (.z zm (.z (zia 2 bh ai) (.y hs (zld af) ?_)))))
        first|(refine .ixw hs bg bY ?_;intro b204 o204 hc204)|refine .z (p8 bg bY) ?_
        refine .z (zfa fc) (.o (.store (c':=(cmc (s.cs.set i {c with hi:=z3})).flatten++spC) hs rfl rfl ai ?_ dx (hbC 5 ak) (rR hc ak rfl spC)));intro w hs
        refine .nil (nB (nT ?_))
        exact ⟨s.cs.set i {c with hi:=z3},_,some ⟨bC,0,none⟩,cc,aR,by rw [List.length_set];omega,by rw [List.length_set];exact rp hO4,by rw [List.length_set];exact hs.sb⟩
       ·refine .aj (.z gw (.zn zg (.bw rfl (fun hc206=>?_) (fun hc206=>?_))))
        ·refine .region (.z (zfa bQ) (.y hs (zld dU) (.z zm (.z (zia 2 bh ai) (.y hs (zld af) ?_)))))
         first|(refine .ixw hs bg bY ?_;intro b213 o213 hc213)|refine .z (p8 bg bY) ?_
         refine .z (zfa fP) (.o (.store (c':=(cmc (s.cs.set i {c with fr:=z3})).flatten++spC) hs rfl rfl ai ?_ dx (hbC 2 ak) (rR hc ak rfl spC)));intro w hs
         refine .nil (nB (nT ?_))
         exact ⟨s.cs.set i {c with fr:=z3},_,some ⟨bC,0,none⟩,cc,aR,by rw [List.length_set];omega,by rw [List.length_set];exact rp hO4,by rw [List.length_set];exact hs.sb⟩
        ·refine .aj (.z gw (.zn zg (.bw rfl (fun hc215=>?_) (fun hc215=>?_))))
         ·refine .region (.z (zfa bQ) (.y hs (zld dU) (.z zm (.z (zia 2 bh ai) (.y hs (zld af) ?_)))))
          first|(refine .ixw hs bg bY ?_;intro b222 o222 hc222)|refine .z (p8 bg bY) ?_
          refine .z (zfa fg) (.o (.store (c':=(cmc (s.cs.set i {c with to:=z3})).flatten++spC) hs rfl rfl ai ?_ dx (hbC 3 ak) (rR hc ak rfl spC)));intro w hs
          refine .nil (nB (nT ?_))
          exact ⟨s.cs.set i {c with to:=z3},_,some ⟨bC,0,none⟩,cc,aR,by rw [List.length_set];omega,by rw [List.length_set];exact rp hO4,by rw [List.length_set];exact hs.sb⟩
         ·refine .skip (nB (nT ?_))
          exact ⟨s.cs,_,some ⟨bC,0,none⟩,cc,aR,ak,hO4,hs.sb⟩
    ·refine .skip (nT ?_)
     exact ⟨s.cs,_,ac,cc,aR,ak,hO4,hs.sb⟩
   ·clear hs hO4
    rintro fs w ⟨C,f4,ac',cc',hfs,hCl,hO4,hs⟩
    refine WE.sub ?_ hfs
    clear hfs
    refine .aj (.y hs (zls [_,_,_,_,_,_,_,_] aI aB) (.o (.aO (vs:=[_,_,_,_,_,_,_,_]) hs rfl rfl aB fun w hs=>?_)))
    refine .nil (.ret ?_)
    have hV:Gl ⟨sp',R,C⟩ (.slice (some ⟨bS,0,none⟩) s.sp.st.length cS) (.slice (some ⟨bW,0,none⟩) s.sp.wa.length cW) (.slice ar' R.length cr') (.slice ac' C.length cc') f1 f2 f3 f4:=⟨hO1,hO2,hO3,hO4⟩
    obtain ⟨Ha,hla,ra,hs⟩:=hO1.dB ak hs dx
    obtain ⟨Hb,hlb,rb,hs⟩:=hO2.dB ak hs dx
    obtain ⟨Hc,hlc,rc,hs⟩:=cq.cH (m:=7) (cs:=rdc R) hO3 (jP _) ak (by rw [dk];omega) hs dx
    obtain ⟨Hd,hld,rd,hs⟩:=cq.cH (m:=6) (cs:=cmc C) hO4 (te _) ak (by rw [fQ];omega) hs dx
    exact Fin.fZ [] [] hs fun w hs=>⟨_,results1 Tryz.results55 (cB (vs:=[_,_,_,_,_,_,_,_]) hs rfl aI aB),Hd,⟨sp',R,C⟩,_,_,_,_,hle1.trans (hla.trans (hlb.trans (hlc.trans hld))),rfl,ra.mono (hlb.trans (hlc.trans hld)),rb.mono (hlc.trans hld),RRd.mono rc hld,rd,⟨by show 2≤sp'.st.length∧sp'.st.length≤4;omega,by show 2≤sp'.wa.length∧sp'.wa.length≤3;omega,hRl,hCl⟩,hs.out⟩
set_option maxHeartbeats 1000000 in
theorem w8{s:Spc}{vst vwa vx:Value}{x:List Int}(hs:St H w σ)(h1:RI H vst s.st)(h2:RI H vwa s.wa)(hx:RI H vx x)(hb1:s.st.length≤1000)(hb2:s.wa.length≤1000)(hxl:s.many+1≤x.length):
  Cl Tryz.prog 34 [.agg #[I s.id,I s.src,vst,vwa,I s.al,I s.up],vx] w fun u w'=>∃va us en ens,u= .agg #[va]∧cq 1 va us en∧uz us (jZ s x s.st.length) ens∧St H w' (en::(ens++σ)):=by
 obtain ⟨ast,cst,rfl⟩:=RI.shape h1
 obtain ⟨awa,cwa,rfl⟩:=RI.shape h2
 obtain ⟨ax,cx,rfl⟩:=RI.shape hx
 refine Cl.o Tryz.func34 Tryz.ntmps34 ag2 ?_
 refine .aj (.bx hs fun b2 w hs=>?_)
 refine .o (.alloc hs Tryz.zeroValue64 rfl fun b4 w hs=>?_)
 refine .nil (.aj (.o (.alloc hs Tryz.zeroValue64 rfl fun b5 w hs=>?_)))
 refine .nil (.seq (.aj (.zn zg (.block ?_))))
 refine .loop (fun i:Nat=>⟨40,[],[(6,I (i:Int)),(1,.slice ax x.length cx),(5,Pt b5),(4,Pt b4),(2,Pt b2)]⟩)
  (fun i w=>i≤s.st.length∧∃va us en ens,cq 1 va us en∧uz us (jZ s x i) ens∧St H w (.blk b5 [va]::en:: .blk b4 [.slice none 0 0]:: .blk b2 [I s.id,I s.src,.slice ast s.st.length cst,.slice awa s.wa.length cwa,I s.al,I s.up]::(ens++σ))) (fun i=>s.st.length - i) 0 aR
  ⟨Nat.zero_le _,_,[],.nul,[],.nil 1 none,.nil,hs.nul.sb⟩ ?_
 clear hs
 rintro i w ⟨hi,va,us,en,ens,hO,hR,hs⟩
 have hul:=hR.length
 rw [lU] at hul
 obtain ⟨aa,la,ca,rfl,hla⟩:=hO.shape
 refine .seq (.aj (.z zm (.z (zfa bE) (.y hs (zld aq) (.z (cJ ae) (.zn fi (.bw rfl (fun hc13=>?_) (fun hc13=>?_))))))))
 ·refine .skip (nT (.seq (.block (.aj (.zn zg (.seq (.aj (.zn zg (.block ?_)))))))))
  refine .loop (fun p:Nat×Value=>⟨40,[],[(8,I (p.1:Int)),(7,p.2),(6,I (i:Int)),(1,.slice ax x.length cx),(5,Pt b5),(4,Pt b4),(2,Pt b2)]⟩)
   (fun p w=>p.1≤s.wa.length∧∃er,cq 1 p.2 (Is (sI s x i p.1)) er∧St H w (er:: .blk b5 [.slice aa la ca]::en:: .blk b4 [.slice none 0 0]:: .blk b2 [I s.id,I s.src,.slice ast s.st.length cst,.slice awa s.wa.length cwa,I s.al,I s.up]::(ens++σ))) (fun p=>s.wa.length - p.1) (0,.slice none 0 0) aR
   ⟨Nat.zero_le _,.nul,.nil 1 none,hs.nul⟩ ?_
  clear hs
  rintro ⟨k,vr⟩ w ⟨hk,er,hOr,hs⟩
  dsimp only at hk hOr hs ⊢
  have hrl:=oq s x i k
  refine .seq (.aj (.z zm (.z (zfa aU) (.y hs (zld aq) (.z (cJ ae) (.zn fi (.bw rfl (fun hc20=>?_) (fun hc20=>?_))))))))
  ·refine .skip (nT (.seq (.block (.region (.z zm (.z zm (.y hs (zls [_,_,_,_,_,_] aV aJ) (.z zm (.z zm ?_)))))))))
   have hub:=tO (s:=s) (i:=i) (k:=k) ak ak
   refine .o (.call jj rfl (cQ (s:=s) hs h2 ak ⟨ak,ak⟩ ⟨ak,ak⟩) ?_);rintro _ w ⟨rfl,hs⟩
   rw [show 1+(i:Int)*(s.wa.length:Int)+(k:Int)=((s.u i k:Nat):Int) by unfold Spc.u;push_cast;rfl]
   refine .ixY hs hx rfl rfl ae ai (bq (l:=x) (i:=(s.u i k)) ak) cN ?_;intro b29 o29 hc29
   refine .q hs (aM rfl af hc29) (.o (.buildSlice (cells:=[_]) hs cD rfl rfl fun b31 w hs=>?_))
   refine .o (.append (ys:=Is [gi x (s.u i k)]) hs cj rfl rfl hOr (.own .here rfl rfl) (iC _) (fun l h=>by simp at h;omega) ?_);intro v32 en32 w hO2 hs
   rw [←List.map_append,←Cs] at hO2
   refine .zn zg (nB (nT (.region (.z zm (.z cn (.zn zg (nT ?_)))))))
   exact ⟨(k+1,v32),.bT rfl bJ aR,⟨by dsimp only;omega,_,hO2,hs.sb⟩,by dsimp only;omega⟩
  ·refine .exit (xT (xT (xB (nT (.region (.z (zfa iG) (.y hs (zld p6) (.z zm ?_))))))))
   obtain rfl:k=s.wa.length:=by omega
   obtain ⟨ar,cr,rfl⟩:=hOr.zD
   refine .o (.buildSlice (cells:=[.slice ar (sI s x i s.wa.length).length cr]) hs qg rfl rfl fun b36 w hs=>?_)
   refine .o (.append (ys:=[.slice ar (sI s x i s.wa.length).length cr]) hs lG rfl rfl hO (.own .here rfl rfl) (by simp [Value.oneCell']) (fun l h=>by omega) fun v37 en37 w hO3 hs=>?_)
   obtain ⟨a37,l37,c37,rfl,h37⟩:=hO3.shape
   refine .z (zfa iG) (.o (.store hs rfl rfl Tryz.sizeOf62 fun w hs=>?_))
   refine .nil (nB (nT (.region (.z zm (.z cn (.zn zg (nT (⟨i+1,.bT rfl bJ aR,⟨ak,_,_,en37,ens++[er],hO3,by rw [Cr];exact hR.snoc hOr,?_⟩,ak⟩))))))))
   replace hs:St H w (.blk b5 [.slice a37 l37 c37]::en37:: .blk b4 [.slice none 0 0]:: .blk b2 [I s.id,I s.src,.slice ast s.st.length cst,.slice awa s.wa.length cwa,I s.al,I s.up]::er::(ens++σ)):=hs.sb
   rw [List.append_assoc]
   exact hs.perm (.cons _ (.cons _ (.cons _ (.cons _ List.perm_middle.symm))))
 ·refine .exit (xT (xT (xB (nT (.aj (.y hs (zls [_] p5 gH) (.o (.aO (vs:=[_]) hs rfl rfl gH fun w hs=>?_))))))))
  refine .nil (.ret ?_)
  obtain rfl:i=s.st.length:=by omega
  exact Fin.fZ [] [] hs fun w hs=>⟨_,results1 Tryz.results34 (cB (vs:=[_]) hs rfl p5 gH),_,us,en,ens,rfl,hO,hR,hs.sb⟩
set_option maxHeartbeats 4000000 in
theorem nR{s:Srv}{rows:List (List Int)}{vst vwa vr vc vh:Value}(hs:St H w σ)(h1:RI H vst s.sp.st)(h2:RI H vwa s.sp.wa)(h3:RRd H vr s.rs)(h4:RCm H vc s.cs)(hh:RT H vh rows):
  Cl Tryz.prog 65 [.agg #[I s.sp.id,I s.sp.src,vst,vwa,I s.sp.al,I s.sp.up,vr,vc],.agg #[vh]] w fun u w'=>∃H1 e,HLe H H1∧u=I e∧EK s rows e∧St H1 w' σ:=by
 obtain ⟨ast,cst,rfl⟩:=RI.shape h1
 obtain ⟨awa,cwa,rfl⟩:=RI.shape h2
 obtain ⟨ar,cr,rfl⟩:=RRd.shape h3
 obtain ⟨ac,cc,rfl⟩:=RCm.shape h4
 obtain ⟨ah,ch,rfl⟩:=hh.shape
 refine Cl.o Tryz.func65 Tryz.ntmps65 ag2 ?_
 refine .aj (.bx hs fun b2 w hs=>?_)
 refine .bx hs fun b3 w hs=>?_
 refine .zn zg (.seq (.aj (.y hs (zls [_,_,_,_,_,_,_,_] aI aB) (.o (.call wR rfl (ew (s:=s) hs h1 h2 h3 h4) ?_)))));rintro _ w ⟨H1,e,hle1,rfl,hC,hs⟩
 refine .zn zg (.aj (.z zm (.zn gv (.dP rfl (fun hc16=>?_) (fun hc16=>?_)))))
 ·refine .aj (.z zm (.zn zg (.ret (rT (?_)))))
  exact Fin.bu Tryz.results65 rfl ⟨H1,_,hle1,rfl,.bad hC hc16,hs.out⟩
 ·refine .skip (nT (.seq (.aj (.z (zfa aT) (.y hs (zls [_,_,_,_,_,_] aV aJ) (.y hs (zls [_] p5 gH) ?_))))))
  have hok:dq s:=hC.cz.1 (by simpa using hc16)
  have hsm:=dN hok.early.1
  have hrl:=hok.early.2.1
  refine .o (.call Tryz.call129 rfl (lr (s:=s.sp) hs (h1.mono hle1) (h2.mono hle1) (hh.mono hle1)) ?_);rintro _ w ⟨H2,b21,hle2,rfl,hb21,hs⟩
  have hle02:=hle1.trans hle2
  refine .zn fY (.cond rfl (fun hc22=>?_) (fun hc22=>?_))
  ·refine .aj (.zn zg (.ret (rT (?_))))
   exact Fin.bu Tryz.results65 rfl ⟨H2,_,hle02,rfl,.hull hok (fun h=>by rw [hb21.2 h] at hc22;cases hc22),hs.out⟩
  ·refine .skip (nT (.aj (.y hs (zls [_,_,_,_,_,_,_,_] aI aB) ?_)))
   have hhull:kO s.sp rows:=hb21.1 (by simpa using hc22)
   have hll:=hok.cK
   have hmm:=hok.many
   refine .o (.call JW rfl (fu (s:=s) hs (h1.mono hle02) (h2.mono hle02) (h3.mono hle02) (h4.mono hle02) hok.early) ?_);rintro _ w ⟨H3,hle3,⟨ul,rfl,hL⟩,hs⟩
   obtain ⟨al,cl,rfl⟩:=RL.shape hL
   have hle03:=hle02.trans hle3
   have hbd:=fun b hb=>GJ (b:=b) hhull hb
   have hlim:=fun l hl=>hok.sys.lim l hl
   refine .o (.alloc hs di rfl fun b6 w hs=>?_)
   refine .o (.aO (vs:=[_,_]) hs rfl rfl aF fun w hs=>?_)
   refine .nil (.aj (.o (.buildSlice (cells:=[_]) hs cD rfl rfl fun b25 w hs=>?_)))
   refine .o (.alloc hs dH rfl fun b7 w hs=>?_)
   refine .o (.store hs rfl rfl az fun w hs=>?_)
   refine .nil (.seq (.aj (.z (zfa aT) (.y hs (zls [_,_,_,_,_,_] aV aJ) (.o (.call CW rfl (fM (s:=s.sp) hs (h1.mono hle03) (h2.mono hle03) ⟨ak,ak⟩) ?_))))));rintro _ w ⟨H4,ba,hle4,rfl,hit,hs⟩
   have hle04:=hle03.trans hle4
   refine .nil (.block ?_)
   refine .rangeFunc (gf:=188) (cap:=[Pt ba]) (xs:=xY s.sp) (σb:=[.blk b7 [.slice (some ⟨b25,0,none⟩) 1 1],.blk b25 (Is [0]),.blk b6 [I s.sys.many,.slice al s.cK.length cl],.blk b3 [.slice ah rows.length ch]]) (σf:=σ) (hs.sb) trivial rfl hit CV (fun x hx=>by
     simp only [xY,List.mem_map] at hx
     obtain ⟨j,_,rfl⟩:=hx;rfl) rfl
    (I:=fun p H' σb=>∃vo en,σb=[.blk b7 [vo],en,.blk b6 [I s.sys.many,.slice al s.cK.length cl],.blk b3 [.slice ah rows.length ch]]∧cq 1 vo (Is (xl1 s (gt rows) (p+1))) en) (Ix:=fun _ _ _=>False)
    (fun j _ _ σ g1 g2=>g2) (fun _ _ _ _ _ h=>h) ⟨_,_,rfl,.full rfl⟩ ?_ ?_ (fun D c H' σb w _ h _=>h.elim)
   ·rintro ly p hp H5 σb2 σf2 w hle5 ⟨vo,en,rfl,hO⟩ hs ⟨rr,hrr⟩
    have hpm:p<s.sp.many:=by rw [ez] at hp;exact hp
    have hin:p/s.sp.wa.length<s.sp.st.length:=Nat.div_lt_of_lt_mul (by rw [Nat.mul_comm];exact hpm)
    have hkm:=Nat.mod_lt p hsm.2.2.1
    have hval:hpt s.sp (gt rows) (p+1)=gi (gr rows (p/s.sp.wa.length)) (p%s.sp.wa.length):=rfl
    have hrow:=hhull.row _ hin
    have hrlen:=hhull.len
    have hr5:=hh.mono (hle04.trans hle5)
    rw [ng hp]
    obtain ⟨ao,lo,co,rfl,hlo⟩:=hO.shape
    have hxl:=mw s (gt rows) (p+1)
    generalize p/s.sp.wa.length=i at*
    generalize p%s.sp.wa.length=k at*
    refine .region (.o (.alloc hs kX rfl fun b8 w hs=>?_))
    refine .o (.aO (vs:=[_,_,_]) hs rfl rfl pW fun w hs=>?_)
    refine .nil (nT (⟨H5,[.blk b8 [I (i:Int),I (k:Int),I ((p+1:Nat):Int)],.blk b7 [.slice ao lo co],en,.blk b6 [I s.sys.many,.slice al s.cK.length cl],.blk b3 [.slice ah rows.length ch]],HLe.refl _,hs,?_⟩));rintro w σf4 - hs
    refine .block (.draw mix rfl hs fun w hs=>?_)
    refine .y 0 rfl hs aq ?_;refine .z 1 rfl (zfa iG) ?_;refine .y 2 rfl hs p6 ?_;refine .z 3 rfl (zfa dv) ?_;refine .y 4 rfl hs af ?_
    refine .ixT (i:=5) hs rfl aD .none hr5 rfl rfl au az (show i<_ by omega) cN ?_;intro b35 o35 a35 c35 hc35 hR35
    refine .r (i:=6) hs rfl aD .none (aM rfl aq hc35) ?_
    refine .zw 7 rfl (zfa db) ?_;refine .y 8 rfl hs af ?_
    refine .ixX (enc:=fun x=>[I x]) (i:=9) hs rfl aD .none hR35 rfl rfl ae ai (bq (l:=(gr rows i)) (i:=k) ak) cN ?_;intro b39 o39 hc39;replace hc39:=bB.one hc39
    refine .r (i:=10) hs rfl aD .none (aM rfl af hc39) ?_
    refine .E 11 hs ?_
    refine .buildSlice (cells:=[_]) hs cD rfl rfl ?_;intro b41 w hs
    refine .go (.E 12 hs ?_)
    refine .append (ys:=Is [gi (gr rows i) k]) hs cj rfl rfl hO (.own (c:=Is [gi (gr rows i) k]) (by first|exact .here|exact .there .here) rfl rfl) (iC _) (fun l h=>by simp at h;omega) ?_;intro v42 en42 w hO2 hs
    rw [←List.map_append,←hval,←E2] at hO2
    obtain ⟨a42,l42,c42,rfl,h42⟩:=hO2.shape
    refine .go (.E 13 hs ?_)
    refine .store hs rfl rfl az ?_;intro w hs
    refine .go (.D hs (nB ?_))
    exact ⟨H5,[.blk b7 [.slice a42 l42 c42],en42,.blk b6 [I s.sys.many,.slice al s.cK.length cl],.blk b3 [.slice ah rows.length ch]],HLe.refl _,(hs.sb:St H5 w (.blk b7 _::en42:: .blk b6 _:: .blk b3 _::σf4)),_,_,rfl,hO2⟩
   ·rintro D H5 σb2 w hle5 ⟨vo,en,rfl,hO⟩ hs
    rw [ez] at hO
    replace hs:St H5 w (.obj D (.deferred (some [])):: .blk b7 [vo]::en:: .blk b6 [I s.sys.many,.slice al s.cK.length cl]:: .blk b3 [.slice ah rows.length ch]::σ):=hs
    obtain ⟨ao,lo,co,rfl,hlo⟩:=hO.shape
    have hxl:=mw s (gt rows) (s.sp.many+1)
    have hlo':lo=s.sp.many+1:=by simp [Is] at hlo;omega
    subst hlo'
    have hL5:=hL.mono (hle4.trans hle5)
    have hleF:=hle04.trans hle5
    refine nB (nT (.seq (.aj (.y hs (zld aq) (.z (cJ ae) (.zn zg (.block ?_)))))))
    refine .loop (fun j:Nat=>⟨81,marks [D],[(9,I ((s.sp.many+1+j:Nat):Int)),(7,Pt b7),(6,Pt b6)]⟩)
     (fun j w=>j≤s.bZ.length∧∃ax cx en,cq 1 (.slice ax (s.sp.many+1+j) cx) (Is (xl1 s (gt rows) (s.sp.many+1)++xl2 s (gt rows) j)) en∧St H5 w (.obj D (.deferred (some [])):: .blk b7 [.slice ax (s.sp.many+1+j) cx]::en:: .blk b6 [I s.sys.many,.slice al s.cK.length cl]::σ)) (fun j=>s.bZ.length - j) 0 aR
     ⟨Nat.zero_le _,_,_,_,by show cq 1 _ (Is (_++[])) _;rw [List.append_nil];exact hO,hs.sb⟩ ?_
    clear hs hO
    rintro j w ⟨hj,ax,cx,en,hO,hs⟩
    have hsys:s.sys.many=((s.sp.many+s.bZ.length:Nat):Int):=rfl
    have hx2:=xv s (gt rows) j
    have hxall:(xl1 s (gt rows) (s.sp.many+1)++xl2 s (gt rows) j).length=s.sp.many+1+j:=by rw [List.length_append,hxl,hx2]
    refine .seq (.aj (.z zm (.z (zfa bP) (.y hs (zld af) (.zn pc (.bw rfl (fun hc48=>?_) (fun hc48=>?_)))))))
    ·refine .skip (nT (.seq (.block (.aj (.zn zg (.seq (.aj (.z (zfa bX) (.y hs (zld de) (.z (cJ aS) (.zn zm (.for (N:=s.cK.length) (J:=fun k fr w=>fr=[(10,I (wU (hpt s.sp (gt rows)) (s.sp.many+1+j:Nat) (s.cK.take k))),(52,.slice al s.cK.length cl),(9,I ((s.sp.many+1+j:Nat):Int)),(7,Pt b7),(6,Pt b6)]∧St H5 w (.obj D (.deferred (some [])):: .blk b7 [.slice ax (s.sp.many+1+j) cx]::en:: .blk b6 [I s.sys.many,.slice al s.cK.length cl]::σ)) ak ?_ ?_ ?_))))))))))))
     ·exact .mk ⟨rfl,hs⟩
     ·rintro k fr w hk ⟨rfl,hs⟩
      obtain ⟨l,hx⟩:=nth (l:=s.cK) hk
      have hlm:=List.mem_of_getElem? hx
      obtain ⟨⟨gA,gB⟩,hsd⟩:=oG hok.early hlm
      have hM:=(hlim l hlm).2.2.2.1
      obtain ⟨eB,hB⟩:∃b:Nat,l.B=b:=⟨_,(Int.toNat_of_nonneg gB).symm⟩
      have hB1:l.B.toNat=eB:=by rw [hB,Int.toNat_natCast]
      rw [hB1] at hsd
      have hbl:=A0 (hpt s.sp (gt rows)) (s.sp.many+1+j:Nat) (s.cK.take k)
      refine .block (.aj (.ixX (enc:=Lim.c) hs hL5 rfl rfl aS bp hx rfl ?_));intro b56 o56 hc56
      refine .q hs (bO (vs:=l.c) rfl fE bp hc56) (.o (.alloc hs eo rfl fun b12 w hs=>?_))
      refine .o (.aO (vs:=l.c) hs rfl rfl bp fun w hs=>?_)
      refine .nil (.aj (.z (zfa eu) (.y hs (zld af) (.z zm (.zn gw (.bw rfl (fun hc61=>?_) (fun hc61=>?_)))))))
      ·refine .draw mix rfl hs fun w hs=>?_
       have hbB:=hbd eB ak
       obtain ⟨bo,co',sp,hv,rfl,hcap⟩:=hO.blk (by rw [hxall];omega)
       simp only [Value.slice.injEq] at hv
       obtain ⟨rfl,-,rfl⟩:=hv
       have hgx:gi (xl1 s (gt rows) (s.sp.many+1)++xl2 s (gt rows) j) eB=hpt s.sp (gt rows) eB:=yb s _ _ ak
       refine .zw 0 rfl zm ?_;refine .y 1 rfl hs aq ?_;refine .z 2 rfl (zfa eQ) ?_;refine .y 3 rfl hs af ?_
       rw [hB]
       refine .zw 4 rfl (zix (j:=eB) ae ai) (.load (i:=5) hs rfl aD .none rfl af ?_ (hv:=fC ak sp))
       rw [hgx]
       refine .zw 6 rfl (zfa gg) ?_;refine .y 7 rfl hs af ?_;refine .z 8 rfl gz ?_;refine .z 9 rfl CX ?_;refine .z 10 rfl zg ?_;refine .D hs ?_
       refine nB (nT ?_)
       exact .mk ⟨by rw [dA hx,wj,if_pos ak,hB1],hs.sb⟩
      ·refine .skip (nB (nT ?_))
       exact .mk ⟨by rw [dA hx,wj,if_neg ak],hs.sb⟩
     ·rintro fr w ⟨rfl,hs⟩
      rw [List.take_length]
      refine nT (.region (.y hs (zld aq) (.z zm (.o (.buildSlice (cells:=[_]) hs cD rfl rfl fun b75 w hs=>?_)))))
      refine .o (.append (ys:=Is [wU (hpt s.sp (gt rows)) (s.sp.many+1+j:Nat) s.cK]) hs cj rfl rfl hO (.own .here rfl rfl) (iC _) (fun l h=>by simp only [Is,List.length_map,hxall] at h;omega) ?_);intro v76 en76 w hO2 hs
      rw [←List.map_append,List.append_assoc,←E1] at hO2
      obtain ⟨a76,c76,rfl⟩:=hO2.zD
      have hx3:(xl1 s (gt rows) (s.sp.many+1)++xl2 s (gt rows) (j+1)).length=s.sp.many+1+(j+1):=by rw [List.length_append,hxl,xv]
      rw [hx3] at hO2 ⊢
      refine .o (.store hs rfl rfl az fun w hs=>?_)
      refine .nil (nB (nT (.region (.z zm (.z cn (.zn zg (nT ?_)))))))
      exact ⟨j+1,.bT rfl (by simp;omega) aR,⟨ak,_,_,_,hO2,hs.sb⟩,ak⟩
    ·refine .exit (xT (xT (xB (nT (.seq (.aj (.y hs (zls [_,_] a8 aF) (.y hs (zld aq) ?_))))))))
     obtain rfl:j=s.bZ.length:=by omega
     obtain ⟨H6,hle6,hX,hs⟩:=cq.dB hO (by rw [hxall];omega) hs dx
     refine .o (.call Tryz.call134 rfl (oX (s:=s.sys) hs ⟨_,rfl,hL5.mono hle6⟩ hX) ?_);rintro _ w ⟨e79,rfl,hP,hs⟩
     have hn:=vE s
     have hkeep:EH s.sys (xl1 s (gt rows) (s.sp.many+1)++xl2 s (gt rows) s.bZ.length)↔∃f,Kp s (gt rows) f:=by
      rw [←E0 hok]
      refine ⟨fun h=>h.zj,fun h=>⟨by rw [hxall,hn];omega,by rw [yb s _ _ ak];rfl,fun b hb=>?_,h⟩⟩
      rw [hn] at hb
      by_cases e:b<s.sp.many+1
      ·rw [yb s _ _ e]
       have:=hbd b ak
       omega
      ·rw [show b=s.sp.many+1+(b - (s.sp.many+1)) by omega,Bq s _ ak]
       have g1:=A0 (hpt s.sp (gt rows)) (s.sp.many+1+(b - (s.sp.many+1)):Nat) s.cK
       have g2:=FV hok hhull (b - (s.sp.many+1))
       omega
     refine .zn gv (.dP rfl (fun hc80=>?_) (fun hc80=>?_))
     ·refine .aj (.zn zg (.ret (rT ((Fin.fZ [D] [] hs fun w hs=>⟨_,results1 Tryz.results65 rfl,H6,_,hleF.trans hle6,rfl,.no hok hhull (fun h=>hc80 ?_),hs.out⟩)))))
      cases hP with
      |bad h=>exact (h (s.sys.cz.2 hok.sys)).elim
      |off _ h1=>exact (h1 (hkeep.2 h)).elim
      |ok=>rfl
     ·refine .skip (nT (.aj (.zn zg (.ret (Fin.fZ [D] [] hs fun w hs=>⟨_,results1 Tryz.results65 rfl,H6,_,hleF.trans hle6,rfl,.ok hok hhull (hkeep.1 ?_),hs.out⟩)))))
      cases hP with
      |bad h=>exact (h (s.sys.cz.2 hok.sys)).elim
      |off _ h1=>omega
      |ok _ h1=>exact h1
end Go.Proofs.YteajddicacjkhaaGreat
namespace Go.Proofs.YteajddicacjkhaaGreat
open Go.MW
theorem G8{v:Srv}{q:Wht}{lo hi:Int}(g:Bj v q lo hi 0):∃a b,lo=a/ma q∧hi=b/ma q∧dq v∧fL v.sp q∧gG v.sys (v.w q) a b 0:=by
 generalize hz:(0:Int)=z at g
 cases g with
 |bad g ge=>exact (ge hz.symm).elim
 |what=>omega
 |fls=>omega
 |ok h1 h2 h3 h4=>exact ⟨_,_,rfl,rfl,h1,h2,h4⟩
end Go.Proofs.YteajddicacjkhaaGreat
namespace Go.Proofs.YteajddicacjkhaaGreat
open Go.MW
variable{H:bM}{w:World}{σ:List Ent}
theorem w9{vs v5 v4 vp:Value}{sl pk:List Int}{fs5:List F5}{fs4:List F4}{z1 z2 z3:Int}(hs:St H w σ)(g1:RI H vs sl)(g2:RF5 H v5 fs5)(g3:RF4 H v4 fs4)(g4:RI H vp pk):
  Cl Tryz.prog 31 [.agg #[vs,v5,v4,vp,I z1,I z2,I z3]] w fun u w'=>∃H1 s y vst vwa vr vc vy,HLe H H1∧u= .tuple #[.agg #[I s.sp.id,I s.sp.src,vst,vwa,I s.sp.al,I s.sp.up,vr,vc],vy]∧I6 s∧kN s y∧RI H1 vst s.sp.st∧RI H1 vwa s.sp.wa∧RRd H1 vr s.rs∧RCm H1 vc s.cs∧RI H1 vy y∧St H1 w' σ:=by
 refine (qb hs g1 g2 g3 g4).mono ?_
 rintro _ w ⟨H3,m,y,ust,uwa,ur,uc,uy,e1,e2,e3,e4,e5,hle3,rfl,hM,hOV,hOy,hK,hs⟩
 have hst4:=hM.st
 have hwa3:=hM.wa
 have hmr:=hM.rs
 have hmc:=hM.cs
 obtain ⟨H4,hle4,r1,r2,r3,r4,hs,-⟩:=Gl.A1 hOV ak ak ak ak hs
 obtain ⟨hyl,-,hyb⟩:=hK.bd
 have hmt:=hM.ok.many
 obtain ⟨H5,hle5,hY,hs⟩:=cq.dB hOy ak hs .here
 exact ⟨H5,m,y,_,_,_,_,_,hle3.trans (hle4.trans hle5),rfl,hM,hK,r1.mono hle5,r2.mono hle5,r3.mono hle5,r4.mono hle5,hY,hs⟩
theorem w7{s:Spc}{vst vwa vx:Value}{x:List Int}(hs:St H w σ)(h1:RI H vst s.st)(h2:RI H vwa s.wa)(hx:RI H vx x)(hb1:s.st.length≤1000)(hb2:s.wa.length≤1000)(hxl:s.many+1≤x.length):
  Cl Tryz.prog 34 [.agg #[I s.id,I s.src,vst,vwa,I s.al,I s.up],vx] w fun u w'=>∃H1 va,HLe H H1∧u= .agg #[va]∧RT H1 va (jZ s x s.st.length)∧St H1 w' σ:=by
 refine (w8 hs h1 h2 hx hb1 hb2 hxl).mono ?_
 rintro _ w ⟨va,us,en,ens,rfl,hO,hR,hs⟩
 have hul:=hR.length
 rw [lU] at hul
 replace hs:St H w (ens++(en::σ)):=hs.perm List.perm_middle.symm
 obtain ⟨H6,hle6,hRL,hs⟩:=hR.cH (fun r hr=>by
  obtain ⟨j,hj⟩:=List.getElem?_of_mem hr
  have hjl:=(List.getElem?_eq_some_iff.1 hj).1
  rw [lU] at hjl
  rw [zF hjl] at hj
  obtain rfl:=Option.some.inj hj
  rw [oq];omega) hs
 obtain ⟨H7,hle7,hRT,hs⟩:=hRL.cH hO ak hs .here
 exact ⟨H7,_,hle6.trans hle7,rfl,hRT,hs⟩
theorem F2{s:Srv}{y:List Int}(hok:dq s)(h:kN s y){q:Wht}{lo hi:Int}(hB:Bj s q lo hi 0):lo≤fJ s.sp q (jZ s.sp y s.sp.st.length) s.sp.many/ma q∧fJ s.sp q (jZ s.sp y s.sp.st.length) s.sp.many/ma q≤hi:=by
 obtain ⟨a,b,rfl,rfl,_,_,hR⟩:=G8 hB
 have hd:=uU q
 have:=Hq hok h hR
 exact ⟨Int.ediv_le_ediv ak this.1,Int.ediv_le_ediv ak this.2⟩
theorem bU{a0 a1 a2:Int}(hs:St H w σ):Cl Tryz.prog 72 [I a0,I a1,I a2] w fun v w'=>v= .bool (decide (a1≤a0∧a0≤a2))∧St H w' σ:=by
 refine Cl.o Tryz.func72 Tryz.ntmps72 ag3 ?_
 refine .aj (.zn zg (.aj (.z zm (.z zm (.z pc (.z zm (.fF (t':=10) rfl (fun hb10=>?_) (fun hb10=>?_))))))))
 ·refine .T (.z zm (.T (.z zm (.T (.z pc (.z zpT (.zn zg (.ret (Fin.bu Tryz.results72 rfl ?_)))))))))
  exact ⟨by simp [*],hs.out⟩
 ·refine .Fs 3 3 true (.z zpF (.zn zg (.ret (Fin.bu Tryz.results72 rfl ?_))))
  exact ⟨by simp [*],hs.out⟩
theorem ky{a0:Int}(hs:St H w σ):Cl Tryz.prog 73 [I a0] w fun v w'=>v= .bool (decide (1≤a0∧a0≤20))∧St H w' σ:=by
 refine Cl.o Tryz.func73 Tryz.ntmps73 ag1 ?_
 refine .aj (.zn zg (.aj (.z zm (.o (.call eA rfl (bU hs) ?_)))));rintro _ w ⟨rfl,hs⟩
 refine .zn zg (.ret (Fin.bu Tryz.results73 rfl ?_))
 exact ⟨rfl,hs⟩
theorem ny{x y a1 a2:Int}(hs:St H w σ):Cl Tryz.prog 161 [.agg #[I x,I y],I a1,I a2] w fun v w'=>v= .bool (decide (a1≤x∧x≤y∧y≤a2))∧St H w' σ:=by
 refine Cl.o Tryz.func161 Tryz.ntmps161 ag3 ?_
 refine .aj (.bx hs fun b3 w hs=>?_)
 refine .zn zg (.aj (.z zm (.z (zfa aQ) (.y hs (zld af) (.z pc (.z zm (.fF (t':=11) rfl (fun hb11=>?_) (fun hb11=>?_))))))))
 ·refine .T (.z (zfa aQ) (.T (.y hs (zld af) (.T (.z (zfa aN) (.T (.y hs (zld af) (.T (.z pc (.z zpT (.z zm (.fF (t':=18) rfl (fun hb18=>?_) (fun hb18=>?_)))))))))))))
  ·refine .T (.z (zfa aN) (.T (.y hs (zld af) (.T (.z zm (.T (.z pc (.z zpT (.zn zg (.ret (Fin.bu Tryz.results161 rfl ?_)))))))))))
   exact ⟨by simp [*],hs.out⟩
  ·refine .Fs 4 11 true (.z zpF (.zn zg (.ret (Fin.bu Tryz.results161 rfl ?_))))
   exact ⟨by simp [*],hs.out⟩
 ·refine .Fs 5 4 true (.z zpF (.z zm (.Fs 4 11 true (.z zpF (.zn zg (.ret (Fin.bu Tryz.results161 rfl ?_)))))))
  exact ⟨by simp [*],hs.out⟩
theorem kz{x y:Int}(hs:St H w σ):Cl Tryz.prog 109 [.agg #[I x,I y]] w fun v w'=>v= .bool (decide (fI x y))∧St H w' σ:=by
 refine Cl.o Tryz.func109 Tryz.ntmps109 ag1 ?_
 refine .aj (.bx hs fun b1 w hs=>?_)
 refine .zn zg (.aj (.y hs (zls [_,_] aC an) (.o (.call Tryz.call161 rfl (ny hs) ?_))));rintro _ w ⟨rfl,hs⟩
 refine .zn zg (.ret (Fin.bu Tryz.results109 rfl ?_))
 exact ⟨rfl,hs.out⟩
theorem jR{x y:Int}(hs:St H w σ):Cl Tryz.prog 118 [.agg #[I x,I y]] w fun v w'=>v= .bool (decide (ea x y))∧St H w' σ:=by
 refine Cl.o Tryz.func118 Tryz.ntmps118 ag1 ?_
 refine .aj (.bx hs fun b1 w hs=>?_)
 refine .zn zg (.aj (.y hs (zls [_,_] aC an) (.o (.call Tryz.call161 rfl (ny hs) ?_))));rintro _ w ⟨rfl,hs⟩
 refine .zn zg (.ret (Fin.bu Tryz.results118 rfl ?_))
 exact ⟨rfl,hs.out⟩
theorem wc{x:Lg}(hs:St H w σ):
  Cl Tryz.prog 75 [.agg #[I x.zone,I x.fr,I x.to,I x.dlo,I x.dhi,I x.blo,I x.bhi]] w fun v w'=>∃b:Bool,v= .bool b∧(b=true↔GU x)∧St H w' σ:=by
 refine Cl.o Tryz.func75 Tryz.ntmps75 ag1 ?_
 refine .aj (.bx hs fun b1 w hs=>?_)
 refine .zn zg (.aj (.z (zfa tG) (.y hs (zld af) (.o (.call Tryz.call73 rfl (ky hs) ?_)))));rintro _ w ⟨rfl,hs⟩
 refine .z zm (.bif (t':=6) rfl (fun hb6=>?_) (fun hb6=>?_))
 ·refine .T (.z (zfa l9) (.T (.y hs (zld af) (.T (.z (zfa l7) (.T (.y hs (zld af) (.T (.o (.call eA rfl (bU hs) ?_))))))))));rintro _ w ⟨rfl,hs⟩
  refine .z zpT (.z zm (.bif (t':=13) rfl (fun hb13=>?_) (fun hb13=>?_)))
  ·refine .T (.z (zfa l7) (.T (.y hs (zld af) (.T (.o (.call eA rfl (bU hs) ?_))))));rintro _ w ⟨rfl,hs⟩
   refine .z zpT (.z zm (.bif (t':=18) rfl (fun hb18=>?_) (fun hb18=>?_)))
   ·refine .T (.z (zfa kg) (.T (.y hs (zls [_,_] aC an) (.T (.o (.call Tryz.call118 rfl (jR hs) ?_))))));rintro _ w ⟨rfl,hs⟩
    refine .z zpT (.z zm (.bif (t':=23) rfl (fun hb23=>?_) (fun hb23=>?_)))
    ·refine .T (.z (zfa kf) (.T (.y hs (zls [_,_] aC an) (.T (.o (.call Tryz.call109 rfl (kz hs) ?_))))));rintro _ w ⟨rfl,hs⟩
     refine .z zpT (.zn zg (.ret (Fin.bu Gt rfl ?_)))
     first
     |exact ⟨false,rfl,⟨fun h=>(by cases h),fun h=>(by obtain ⟨g1,g2,g3,g4,g5⟩:=h;first|omega|(simp_all;done)|(simp_all;omega))⟩,hs.out⟩
     |exact ⟨_,rfl,⟨fun h=>⟨by simp_all,by simp_all,by simp_all,by simp_all,by simpa using h⟩,fun h=>by simpa using h.burn⟩,hs.out⟩
    ·refine .Fs 3 20 true (.z zpF (.zn zg (.ret (Fin.bu Gt rfl ?_))))
     first
     |exact ⟨false,rfl,⟨fun h=>(by cases h),fun h=>(by obtain ⟨g1,g2,g3,g4,g5⟩:=h;first|omega|(simp_all;done)|(simp_all;omega))⟩,hs.out⟩
     |exact ⟨_,rfl,⟨fun h=>⟨by simp_all,by simp_all,by simp_all,by simp_all,by simpa using h⟩,fun h=>by simpa using h.burn⟩,hs.out⟩
   ·refine .Fs 3 15 true (.z zpF (.z zm (.Fs 3 20 true (.z zpF (.zn zg (.ret (Fin.bu Gt rfl ?_)))))))
    first
    |exact ⟨false,rfl,⟨fun h=>(by cases h),fun h=>(by obtain ⟨g1,g2,g3,g4,g5⟩:=h;first|omega|(simp_all;done)|(simp_all;omega))⟩,hs.out⟩
    |exact ⟨_,rfl,⟨fun h=>⟨by simp_all,by simp_all,by simp_all,by simp_all,by simpa using h⟩,fun h=>by simpa using h.burn⟩,hs.out⟩
  ·refine .Fs 3 10 true (.z zpF (.z zm (.Fs 3 15 true (.z zpF (.z zm (.Fs 3 20 true (.z zpF (.zn zg (.ret (Fin.bu Gt rfl ?_))))))))))
   first
   |exact ⟨false,rfl,⟨fun h=>(by cases h),fun h=>(by obtain ⟨g1,g2,g3,g4,g5⟩:=h;first|omega|(simp_all;done)|(simp_all;omega))⟩,hs.out⟩
   |exact ⟨_,rfl,⟨fun h=>⟨by simp_all,by simp_all,by simp_all,by simp_all,by simpa using h⟩,fun h=>by simpa using h.burn⟩,hs.out⟩
 ·refine .Fs 5 3 true (.z zpF (.z zm (.Fs 3 10 true (.z zpF (.z zm (.Fs 3 15 true (.z zpF (.z zm (.Fs 3 20 true (.z zpF (.zn zg (.ret (Fin.bu Gt rfl ?_)))))))))))))
  first
  |exact ⟨false,rfl,⟨fun h=>(by cases h),fun h=>(by obtain ⟨g1,g2,g3,g4,g5⟩:=h;first|omega|(simp_all;done)|(simp_all;omega))⟩,hs.out⟩
  |exact ⟨_,rfl,⟨fun h=>⟨by simp_all,by simp_all,by simp_all,by simp_all,by simpa using h⟩,fun h=>by simpa using h.burn⟩,hs.out⟩
set_option maxHeartbeats 1000000 in
theorem iL{l:Lns}{vt vs:Value}(hs:St H w σ)(h1:RFb H vt l.table)(h2:RSn H vs l.seasons):
  Cl Tryz.prog 19 [.agg #[I l.length,I l.depth,vt,vs]] w fun u w'=>∃e,u=I e∧LnsR l e∧St H w' σ:=by
 obtain ⟨at_,ct,rfl⟩:=h1.shape
 obtain ⟨as_,cs,rfl⟩:=h2.shape
 refine Cl.o Tryz.func19 Tryz.ntmps19 ag1 ?_
 refine .aj (.bx hs fun b1 w hs=>?_)
 refine .zn zg (.seq (.aj (.z (zfa jW) (.y hs (zld af) (.o (.call eA rfl (bU hs) ?_))))));rintro _ w ⟨rfl,hs⟩
 refine .z fY (.z zm (.bif (t':=11) rfl (fun hb11=>?_) (fun hb11=>?_)))
 ·refine .Fs 4 4 false (.z zpT (.z zm (.Fs 5 10 false (.z zpT (.z zm (.Fs 4 17 false (.zn zpT (.cT (.aj (.zn zg (.ret (rT (Fin.bu fH rfl ?_)))))))))))))
  exact ⟨_,rfl,.inr ⟨fun h=>by have:=h.length;simp_all,rfl⟩,hs.out⟩
 ·refine .T (.z (zfa mq) (.T (.y hs (zld af) (.T (.o (.call eA rfl (bU hs) ?_))))));rintro _ w ⟨rfl,hs⟩
  refine .T (.z fY (.z zpF (.z zm (.bif (t':=17) rfl (fun hb17=>?_) (fun hb17=>?_)))))
  ·refine .Fs 5 10 false (.z zpT (.z zm (.Fs 4 17 false (.zn zpT (.cT (.aj (.zn zg (.ret (rT (Fin.bu fH rfl ?_))))))))))
   exact ⟨_,rfl,.inr ⟨fun h=>by have:=h.depth;simp_all,rfl⟩,hs.out⟩
  ·refine .T (.z (zfa ep) (.T (.y hs (zld kn) (.T (.z (cJ dz) (.T (.o (.call eA rfl (bU hs) ?_))))))));rintro _ w ⟨rfl,hs⟩
   refine .T (.z fY (.z zpF (.z zm (.bif (t':=24) rfl (fun hb24=>?_) (fun hb24=>?_)))))
   ·refine .Fs 4 17 false (.zn zpT (.cT (.aj (.zn zg (.ret (rT (Fin.bu fH rfl ?_)))))))
    exact ⟨_,rfl,.inr ⟨fun h=>by have:=h.many;simp_all;omega,rfl⟩,hs.out⟩
   ·refine .T (.z (zfa mn) (.T (.y hs (zld Tryz.isAgg23) (.T (.z (cJ lR) (.T (.z kQ (.zn zpF (.bw rfl (fun hc29=>?_) (fun hc29=>?_))))))))))
    ·refine .aj (.zn zg (.ret (rT (Fin.bu fH rfl ?_))))
     exact ⟨_,rfl,.inr ⟨fun h=>by have:=h.most;simp_all;omega,rfl⟩,hs.out⟩
    ·refine .skip (nT (.seq (.aj ?_)))
     have hl20:1≤l.table.length∧l.table.length≤20:=by first|omega|(simp at hb24;omega)
     refine .z (zfa ep) (.y hs (zld kn) (.z (cJ dz) (.zn zm (.for (N:=l.table.length) (J:=fun k fr w=>fr=[(31,.slice at_ l.table.length ct),(1,Pt b1)]∧(∀j<k,HT l.table j)∧St H w (.blk b1 [I l.length,I l.depth,.slice at_ l.table.length ct,.slice as_ l.seasons.length cs]::σ)) ak ?_ ?_ ?_))))
     ·exact .mk ⟨rfl,fun j hj=>by omega,hs⟩
     ·rintro k fr w hk ⟨rfl,hno,hs⟩
      have hx:=wB (l:=l.table) hk
      have hx1:=wB (l:=l.table) (i:=k - 1) ak
      refine .block (.aj (.z zm (.ixX (enc:=Fbd.c) hs h1 rfl rfl dz dI hx cN ?_)));intro b36 o36 hc36
      refine .q hs (bO (vs:=(Fbd.c (fb0 l.table k))) rfl Tryz.isAgg134 dI hc36) (.o (.alloc hs k7 rfl fun b4 w hs=>?_))
      refine .z zg (.o (.aO (vs:=(fb0 l.table k).c) hs rfl rfl dI fun w hs=>?_))
      change St _ _ (.blk b4 [I (fb0 l.table k).len,I (fb0 l.table k).least]::_) at hs
      refine .nil (.seq (.draw mix rfl hs fun w hs=>?_))
      refine .zw 0 rfl (zfa dS) ?_;refine .y 1 rfl hs af ?_
      refine .E 2 hs ?_
      refine .call eA rfl (bU hs) ?_;rintro _ w ⟨rfl,hs⟩
      refine .go (.zw 3 rfl fY ?_);refine .z 4 rfl zm ?_
      refine .bif (t':=42) rfl (fun hb42=>?_) (fun hb42=>?_)
      ·refine .F 5 rfl (.F 6 rfl (.F 7 rfl (.F 8 rfl (.zw 9 rfl zpT ?_))));refine .z 10 rfl zm ?_
       refine .F 11 rfl (.F 12 rfl ?_)
       refine .F 13 rfl (.F 14 rfl (.F 15 rfl (.F 16 rfl (.F 17 rfl (.F 18 rfl (.F 19 rfl (.F 20 rfl (.F 21 rfl (.F 22 rfl (.F 23 rfl (.F 24 rfl (.zw 25 rfl zpT ?_))))))))))));refine .D hs ?_
       refine (.cT (.aj (.zn zg (.ret (rB (rT (rB (rT (Fin.bu fH rfl ?_)))))))))
       exact ⟨_,rfl,.inr ⟨fun h=>by have:=(h.table k hk).len;simp_all,rfl⟩,hs.out⟩
      ·refine .zw 5 rfl (zfa fU) ?_;refine .y 6 rfl hs af ?_
       refine .E 7 hs ?_
       refine .call eA rfl (bU hs) ?_;rintro _ w ⟨rfl,hs⟩
       refine .go (.zw 8 rfl fY ?_);refine .z 9 rfl zpF ?_;refine .z 10 rfl zm ?_
       refine .bif (t':=48) rfl (fun hb48=>?_) (fun hb48=>?_)
       ·refine .F 11 rfl (.F 12 rfl ?_)
        refine .F 13 rfl (.F 14 rfl (.F 15 rfl (.F 16 rfl (.F 17 rfl (.F 18 rfl (.F 19 rfl (.F 20 rfl (.F 21 rfl (.F 22 rfl (.F 23 rfl (.F 24 rfl (.zw 25 rfl zpT ?_))))))))))));refine .D hs ?_
        refine (.cT (.aj (.zn zg (.ret (rB (rT (rB (rT (Fin.bu fH rfl ?_)))))))))
        exact ⟨_,rfl,.inr ⟨fun h=>by have:=(h.table k hk).least;simp_all,rfl⟩,hs.out⟩
       ·refine .zw 11 rfl zm ?_;refine .z 12 rfl kQ ?_;refine .z 13 rfl zm ?_
        refine .fF (t':=51) rfl (fun hb51=>?_) (fun hb51=>?_)
        ·refine .zw 14 rfl (zfa ep) ?_;refine .y 15 rfl hs kn ?_;refine .z 16 rfl zm ?_;refine .z 17 rfl gz ?_
         refine .ixX (enc:=Fbd.c) (i:=18) hs rfl aD (.some rfl rfl) h1 rfl rfl dz dI hx1 ak ?_;intro b56 o56 hc56
         refine .zw 19 rfl (zfa dS) (.r (i:=20) hs rfl aD (.some rfl rfl) (aM rfl af (hc56.get 0 rfl)) ?_)
         refine .zw 21 rfl (zfa dS) ?_;refine .y 22 rfl hs af ?_;refine .z 23 rfl nY ?_;refine .z 24 rfl zpT ?_;refine .z 25 rfl zpF ?_;refine .D hs ?_
         refine (.bw rfl (fun hc63=>?_) (fun hc63=>?_))
         ·refine .aj (.zn zg (.ret (rB (rT (rB (rT (Fin.bu fH rfl ?_)))))))
          exact ⟨_,rfl,.inr ⟨fun h=>by have:=(h.table k hk).rise ak;omega,rfl⟩,hs.out⟩
         ·refine .skip (nB (nT ?_))
          first
          |exact .mk ⟨rfl,fun j hj=>by
            by_cases e:j=k
            ·subst e;exact ⟨by simp_all,by simp_all,fun _=>by omega⟩
            ·exact hno j ak,hs.tail⟩
        ·refine .F 14 rfl (.F 15 rfl (.F 16 rfl (.F 17 rfl (.F 18 rfl (.F 19 rfl (.F 20 rfl (.F 21 rfl (.F 22 rfl (.F 23 rfl (.zw 24 rfl zpF ?_))))))))));refine .z 25 rfl zpF ?_;refine .D hs ?_
         refine (.cF (.skip (nB (nT ?_))))
         first
         |exact .mk ⟨rfl,fun j hj=>by
           by_cases e:j=k
           ·subst e;exact ⟨by simp_all,by simp_all,fun _=>by omega⟩
           ·exact hno j ak,hs.tail⟩
     ·rintro fr w ⟨rfl,htb,hs⟩
      refine nT (.seq (.aj (.z (zfa mn) (.y hs (zld Tryz.isAgg23) (.z (cJ lR) (.zn zm (.for (N:=l.seasons.length) (J:=fun k fr w=>fr=[(66,.slice as_ l.seasons.length cs),(1,Pt b1)]∧(∀j<k,∀y,l.seasons[j]? =some y→EF y)∧St H w (.blk b1 [I l.length,I l.depth,.slice at_ l.table.length ct,.slice as_ l.seasons.length cs]::σ)) ak ?_ ?_ ?_)))))))
      ·exact .mk ⟨rfl,fun j hj=>by omega,hs⟩
      ·rintro k fr w hk ⟨rfl,hno,hs⟩
       obtain ⟨s,hx⟩:=nth hk
       refine .block (.aj (.ixX (enc:=Ssn.c) hs h2 rfl rfl lR lO hx cN ?_));intro b70 o70 hc70
       refine .q hs (bO (vs:=(Ssn.c s)) rfl Tryz.isAgg104 lO hc70) (.o (.alloc hs JV rfl fun b6 w hs=>?_))
       refine .o (.aO (vs:=s.c) hs rfl rfl lO fun w hs=>?_)
       change St _ _ (.blk b6 [I s.zone,I s.fr,I s.to,I s.extra]::_) at hs
       refine .nil (.aj (.z (zfa oU) (.y hs (zld af) (.o (.call Tryz.call73 rfl (ky hs) ?_)))));rintro _ w ⟨rfl,hs⟩
       refine .z fY (.z zm (.bif (t':=76) rfl (fun hb76=>?_) (fun hb76=>?_)))
       ·refine .Fs 4 4 false (.z zpT (.z zm (.Fs 4 10 false (.z zpT (.z zm (.Fs 4 16 false (.zn zpT (.cT (.aj (.zn zg (.ret (rB (rT (rB (rT (Fin.bu fH rfl ?_))))))))))))))))
        exact ⟨_,rfl,.inr ⟨fun h=>by have:=(h.seasons s (List.mem_of_getElem? hx)).zone;simp_all,rfl⟩,hs.out⟩
       ·refine .T (.z (zfa jy) (.T (.y hs (zld af) (.T (.o (.call eA rfl (bU hs) ?_))))));rintro _ w ⟨rfl,hs⟩
        refine .T (.z fY (.z zpF (.z zm (.bif (t':=82) rfl (fun hb82=>?_) (fun hb82=>?_)))))
        ·refine .Fs 4 10 false (.z zpT (.z zm (.Fs 4 16 false (.zn zpT (.cT (.aj (.zn zg (.ret (rB (rT (rB (rT (Fin.bu fH rfl ?_)))))))))))))
         exact ⟨_,rfl,.inr ⟨fun h=>by have:=(h.seasons s (List.mem_of_getElem? hx)).fr;simp_all,rfl⟩,hs.out⟩
        ·refine .T (.z (zfa jx) (.T (.y hs (zld af) (.T (.o (.call eA rfl (bU hs) ?_))))));rintro _ w ⟨rfl,hs⟩
         refine .T (.z fY (.z zpF (.z zm (.bif (t':=88) rfl (fun hb88=>?_) (fun hb88=>?_)))))
         ·refine .Fs 4 16 false (.zn zpT (.cT (.aj (.zn zg (.ret (rB (rT (rB (rT (Fin.bu fH rfl ?_))))))))))
          exact ⟨_,rfl,.inr ⟨fun h=>by have:=(h.seasons s (List.mem_of_getElem? hx)).to;simp_all,rfl⟩,hs.out⟩
         ·refine .T (.z (zfa oT) (.T (.y hs (zld af) (.T (.o (.call eA rfl (bU hs) ?_))))));rintro _ w ⟨rfl,hs⟩
          refine .T (.z fY (.zn zpF (.cond rfl (fun hc93=>?_) (fun hc93=>?_))))
          ·refine .aj (.zn zg (.ret (rB (rT (rB (rT (Fin.bu fH rfl ?_)))))))
           exact ⟨_,rfl,.inr ⟨fun h=>by have:=(h.seasons s (List.mem_of_getElem? hx)).extra;simp_all,rfl⟩,hs.out⟩
          ·refine .skip (nB (nT ?_))
           exact .mk ⟨rfl,fj hno hx ⟨by simp_all,by simp_all,by simp_all,by simp_all⟩,hs.tail⟩
      ·rintro fr w ⟨rfl,hno,hs⟩
       refine nT (.aj (.zn zg (.ret (Fin.bu fH rfl ?_))))
       exact ⟨_,rfl,.inl ⟨⟨by simp_all,by simp_all,hl20,ak,htb,fun s hs=>by
        obtain ⟨j,hj⟩:=List.getElem?_of_mem hs
        exact hno j (List.getElem?_eq_some_iff.1 hj).1 s hj⟩,rfl⟩,hs.out⟩
theorem pN{r:List Lg}{vr:Value}(hs:St H w σ)(h1:RLg H vr r):
  Cl Tryz.prog 21 [.agg #[vr]] w fun u w'=>∃e,u=I e∧RteR r e∧St H w' σ:=by
 obtain ⟨ar,cr,rfl⟩:=h1.shape
 refine Cl.o Tryz.func21 Tryz.ntmps21 ag1 ?_
 refine .aj (.bx hs fun b1 w hs=>?_)
 refine .zn zg (.seq (.aj (.z (zfa gS) (.y hs (zld km) (.z (cJ cA) (.o (.call eA rfl (bU hs) ?_)))))));rintro _ w ⟨rfl,hs⟩
 refine .zn fY (.cond rfl (fun hc9=>?_) (fun hc9=>?_))
 ·refine .aj (.zn zg (.ret (rT (Fin.bu Tryz.results21 rfl ?_))))
  exact ⟨_,rfl,.inr ⟨fun h=>by have:=h.many;simp_all;omega,rfl⟩,hs.out⟩
 ·refine .skip (nT (.seq (.aj ?_)))
  have hl20:1≤r.length∧r.length≤12:=by first|omega|(simp at hc9;omega)
  refine .z (zfa gS) (.y hs (zld km) (.z (cJ cA) (.zn zm (.for (N:=r.length) (J:=fun k fr w=>fr=[(11,.slice ar r.length cr),(1,Pt b1)]∧(∀j<k,GU (lg0 r j)∧(0<j→(lg0 r (j - 1)).to≤(lg0 r j).fr))∧St H w (.blk b1 [.slice ar r.length cr]::σ)) ak ?_ ?_ ?_))))
  ·exact .mk ⟨rfl,fun j hj=>by omega,hs⟩
  ·rintro k fr w hk ⟨rfl,hno,hs⟩
   have hx:=qI (l:=r) hk
   have hx1:=qI (l:=r) (i:=k - 1) ak
   refine .block (.aj (.z zm (.ixX (enc:=Lg.c) hs h1 rfl rfl cA cu hx cN ?_)));intro b16 o16 hc16
   refine .q hs (bO (vs:=(Lg.c (lg0 r k))) rfl mv cu hc16) (.o (.alloc hs iD rfl fun b4 w hs=>?_))
   refine .z zg (.o (.aO (vs:=(lg0 r k).c) hs rfl rfl cu fun w hs=>?_))
   change St _ _ (.blk b4 [I (lg0 r k).zone,I (lg0 r k).fr,I (lg0 r k).to,I (lg0 r k).dlo,I (lg0 r k).dhi,I (lg0 r k).blo,I (lg0 r k).bhi]::_) at hs
   refine .nil (.seq (.draw mix rfl hs fun w hs=>?_))
   refine .zv 0 rfl hs (zW [_,_,_,_,_,_,_] mv cu) (.E 1 hs ?_)
   refine .call Tryz.call75 rfl (wc (x:=lg0 r k) hs) ?_;rintro _ w ⟨b19,rfl,hb19,hs⟩
   refine .go (.zw 2 rfl fY ?_);refine .z 3 rfl zm ?_
   refine .bif (t':=21) rfl (fun hb21=>?_) (fun hb21=>?_)
   ·refine .F 4 rfl (.F 5 rfl ?_)
    refine .F 6 rfl (.F 7 rfl (.F 8 rfl (.F 9 rfl (.F 10 rfl (.F 11 rfl (.F 12 rfl (.F 13 rfl (.F 14 rfl (.F 15 rfl (.F 16 rfl (.F 17 rfl (.zw 18 rfl zpT ?_))))))))))));refine .D hs ?_
    refine (.cT (.aj (.zn zg (.ret (rB (rT (rB (rT (Fin.bu Tryz.results21 rfl ?_)))))))))
    exact ⟨_,rfl,.inr ⟨fun h=>by have:=hb19.2 (h.leg k hk).1;simp_all,rfl⟩,hs.out⟩
   ·refine .zw 4 rfl zm ?_;refine .z 5 rfl kQ ?_;refine .z 6 rfl zm ?_
    refine .fF (t':=24) rfl (fun hb24=>?_) (fun hb24=>?_)
    ·refine .zw 7 rfl (zfa l9) ?_;refine .y 8 rfl hs af ?_;refine .z 9 rfl (zfa gS) ?_;refine .y 10 rfl hs km ?_;refine .z 11 rfl zm ?_;refine .z 12 rfl gz ?_
     refine .ixX (enc:=Lg.c) (i:=13) hs rfl aD (.some rfl rfl) h1 rfl rfl cA cu hx1 ak ?_;intro b31 o31 hc31
     refine .zw 14 rfl (zfa l7) (.r (i:=15) hs rfl aD (.some rfl rfl) (aM rfl af (hc31.get 2 rfl)) ?_)
     refine .zw 16 rfl fi ?_;refine .z 17 rfl zpT ?_;refine .z 18 rfl zpF ?_;refine .D hs ?_
     refine (.bw rfl (fun hc36=>?_) (fun hc36=>?_))
     ·refine .aj (.zn zg (.ret (rB (rT (rB (rT (Fin.bu Tryz.results21 rfl ?_)))))))
      exact ⟨_,rfl,.inr ⟨fun h=>by have:=(h.leg k hk).2 ak;omega,rfl⟩,hs.out⟩
     ·refine .skip (nB (nT ?_))
      first
      |exact .mk ⟨rfl,fun j hj=>by
        by_cases e:j=k
        ·subst e;exact ⟨hb19.1 (by simp_all),fun _=>by omega⟩
        ·exact hno j ak,hs.tail⟩
    ·refine .F 7 rfl (.F 8 rfl (.F 9 rfl (.F 10 rfl (.F 11 rfl (.F 12 rfl (.F 13 rfl (.F 14 rfl (.F 15 rfl (.F 16 rfl (.zw 17 rfl zpF ?_))))))))));refine .z 18 rfl zpF ?_;refine .D hs ?_
     refine (.cF (.skip (nB (nT ?_))))
     first
     |exact .mk ⟨rfl,fun j hj=>by
       by_cases e:j=k
       ·subst e;exact ⟨hb19.1 (by simp_all),fun _=>by omega⟩
       ·exact hno j ak,hs.tail⟩
  ·rintro fr w ⟨rfl,hno,hs⟩
   refine nT (.aj (.zn zg (.ret (Fin.bu Tryz.results21 rfl ?_))))
   exact ⟨_,rfl,.inl ⟨⟨hl20,hno⟩,rfl⟩,hs.out⟩
theorem IH{P:Program}{H:bM}{σ:List Ent}{s:FS}{t ty':TypeId}{x y:Operand}{p:Int}(hx:FS.ev s x=some (.int .u64 p))(hy:FS.ev s y=some (.int .u64 1)):QJ P H σ s (.binOp .shr t x y ty') (.int .u64 (p/2)):=by
 have h1:=AU (P:=P) (H:=H) (σ:=σ) (t:=t) (ty':=ty') hx hy ak
 have h2:p.fdiv (2 ^min (1:Int).toNat IntKind.u64.bits)=p/2:=by
  have:(2:Int) ^min (1:Int).toNat IntKind.u64.bits=2:=by decide
  rw [this,Int.fdiv_eq_ediv_of_nonneg _ ak]
 rw [h2] at h1
 exact h1
theorem nm{n g:Nat}{cap:List Value}{p:Nat→Prop}(hs:St H w σ)(hn:n≤1000000)(hc:∀args w,(callFunc g args).run Tryz.prog w= .ok (.enter g args) w)
  (hp:∀w i,i<n→St H w σ→Cl Tryz.prog g ([I (i:Int)]++cap) w fun u w'=>∃b,u= .bool b∧(b=true↔p i)∧St H w' σ):
  Cl Tryz.prog 157 [I (n:Int),.func (.func g) #[] cap.toArray] w fun u w'=>∃k:Nat,u=I (k:Int)∧k≤n∧(0<k→¬p (k - 1))∧(k<n→p k)∧St H w' σ:=by
 refine Cl.o Tryz.func157 Tryz.ntmps157 ag2 ?_
 refine .aj (.zn zg (.aj (.z zm (.z zg (.zn zg (.seq (.block ?_)))))))
 refine .loop (fun q:Nat×Nat=>⟨26,[],[(6,I (q.2:Int)),(5,I (q.1:Int)),(1,.func (.func g) #[] cap.toArray)]⟩)
  (fun q w=>(q.1≤q.2∧q.2≤n)∧(0<q.1→¬p (q.1 - 1))∧(q.2<n→p q.2)∧St H w σ) (fun q=>q.2 - q.1) (0,n) aR
  ⟨⟨Nat.zero_le _,Nat.le_refl _⟩,fun h=>by omega,fun h=>by omega,hs⟩ ?_
 rintro ⟨i,j⟩ w ⟨⟨hij,hjn⟩,hlo,hhi,hs⟩
 dsimp only at hij hjn hlo hhi ⊢
 refine .seq (.aj (.z zm (.z zm (.zn fi (.bw rfl (fun hc11=>?_) (fun hc11=>?_))))))
 ·refine .skip (nT (.block (.aj (.z zm (.z zm (.z cn (.q hs (yC rfl bj dD ⟨ak,ak⟩) (.q hs (IH rfl rfl) ?_))))))))
  rw [show ((i:Int)+(j:Int))/2=(((i+j)/2:Nat):Int) by omega]
  refine .q hs (yD rfl dD bj ⟨ak,ak⟩) (.zn zg (.aj (.z zm (.z zm (.o (.pR (first:=[]) rfl rfl hc (hp _ ((i+j)/2) ak hs) ?_))))));rintro _ w ⟨b20,rfl,hb20,hs⟩
  refine .zn fY (.cond rfl (fun hc21=>?_) (fun hc21=>?_))
  ·refine .region (.z zm (.z cn (.zn zg (nB (nT ?_)))))
   exact ⟨((i+j)/2+1,j),.bT rfl bJ aR,⟨⟨by dsimp only;omega,hjn⟩,fun _ h=>(by rw [hb20.2 (by simpa using h)] at hc21;cases hc21),hhi,hs⟩,by dsimp only;omega⟩
  ·refine .region (.z zm (.zn zg (nB (nT ?_))))
   exact ⟨(i,(i+j)/2),.bT rfl bJ aR,⟨⟨by dsimp only;omega,by dsimp only;omega⟩,hlo,fun _=>hb20.1 (by simpa using hc21),hs⟩,by dsimp only;omega⟩
 ·refine .exit (xT (xT (xB (nT (.aj (.z zm (.zn zg (.ret (Fin.bu Tryz.results157 rfl ?_)))))))))
  obtain rfl:i=j:=by omega
  exact ⟨i,rfl,hjn,hlo,hhi,hs⟩
theorem oB{l:Lns}{vt vs:Value}{b i:Nat}(hs:St H w (.blk b [I l.length,I l.depth,vt,vs]::σ))(h1:RFb H vt l.table)(hi:i<l.table.length):
  Cl Tryz.prog 158 [I (i:Int),Pt b] w fun u w'=>∃bb:Bool,u= .bool bb∧(bb=true↔l.length≤(fb0 l.table i).len)∧St H w' (.blk b [I l.length,I l.depth,vt,vs]::σ):=by
 obtain ⟨at_,ct,rfl⟩:=h1.shape
 refine Cl.o Tryz.func158 Tryz.ntmps158 ag2 ?_
 refine .aj (.zn zg (.seq (.draw mix rfl hs fun w hs=>?_)))
 refine .zw 0 rfl (zfa ep) ?_;refine .y 1 rfl hs kn ?_;refine .z 2 rfl zm ?_
 refine .ixX (enc:=Fbd.c) (i:=3) hs rfl aD .none h1 rfl rfl dz dI (wB hi) cN ?_;intro b7 o7 hc7
 refine .zw 4 rfl (zfa dS) (.r (i:=5) hs rfl aD .none (aM rfl af (hc7.get 0 rfl)) ?_)
 refine .zw 6 rfl (zfa jW) ?_;refine .y 7 rfl hs af ?_;refine .z 8 rfl nY ?_;refine .z 9 rfl zg ?_;refine .D hs ?_
 refine .ret (Fin.bu Tryz.results158 rfl ?_)
 exact ⟨_,rfl,bJ,hs⟩
theorem qc{a d:Int}(hs:St H w σ)(hd:1≤d)(ha: -4608000000000000000≤a∧a≤4608000000000000000):
  Cl Tryz.prog 140 [I a,I d] w fun v w'=>v=I (a/d)∧St H w' σ:=by
 have hq:=Jo hd ha
 have hfl:=pC (n:=a) (d:=d) ak
 refine Cl.o Tryz.func140 Tryz.ntmps140 ag2 ?_
 refine .aj (.zn zg (.aj (.z zm (.z zm (.q hs (vX rfl rfl ak ⟨ak,ak⟩) (.zn zg (.seq (.aj (.z zm (.z zm (.z Cm (.zn fi (.bw rfl (fun hc12=>?_) (fun hc12=>?_))))))))))))))
 ·refine .region (.z zm (.z gz (.zn zg (nT (.aj (.z zm (.zn zg (.ret (Fin.bu Tryz.results140 rfl ?_)))))))))
  rw [if_pos hc12] at hfl
  exact ⟨by rw [hfl],hs⟩
 ·refine .skip (nT (.aj (.z zm (.zn zg (.ret (Fin.bu Tryz.results140 rfl ?_))))))
  rw [if_neg hc12,Int.sub_zero] at hfl
  exact ⟨by rw [hfl],hs⟩
theorem jf{l:Lns}{vt vs:Value}(hs:St H w σ)(h1:RFb H vt l.table)(hl:jE l):
  Cl Tryz.prog 102 [.agg #[I l.length,I l.depth,vt,vs]] w fun u w'=>∃n b,u= .tuple #[I n,.bool b]∧zf l n b∧St H w' σ:=by
 obtain ⟨at_,ct,rfl⟩:=h1.shape
 have hm:=hl.many
 have hr:=fun {j i:Nat}=>yQ hl.table (j:=j) (i:=i)
 refine Cl.o Tryz.func102 Tryz.ntmps102 ag1 ?_
 refine .aj (.bx hs fun b1 w hs=>?_)
 refine .z zg (.zn zg (.aj (.z (zfa ep) (.y hs (zld kn) (.z (cJ dz) (.q hs (dt (f:=[]) (c:=[_]) rfl rfl) (.o (.call Tryz.call157 rfl (nm (cap:=[Pt b1]) (p:=fun i=>l.length≤(fb0 l.table i).len) hs ak Tryz.call158 (fun w i hi hs=>oB hs h1 hi)) ?_))))))));rintro _ w ⟨k,rfl,hk,hlo,hhi,hs⟩
 have hbig:∀i<l.table.length,k≤i→l.length≤(fb0 l.table i).len:=fun i hi hki=>by
  by_cases e:i=k
  ·subst e;exact hhi hi
  ·have:=hr (show k<i by omega) hi
   have:=hhi ak
   omega
 have hsml:∀i<k,(fb0 l.table i).len<l.length:=fun i hi=>by
  by_cases e:i=k - 1
  ·subst e;have:=hlo ak;omega
  ·have:=hr (show i<k - 1 by omega) ak
   have:=hlo ak
   omega
 refine .zn zg (.seq (.block (.aj (.z zm (.z (zfa ep) (.y hs (zld kn) (.z (cJ dz) (.z gw (.zn zg (.bw rfl (fun hc12=>?_) (fun hc12=>?_)))))))))))
 ·refine .aj (.z zg (.zn zg (.ret (rB (rT (Fin.iO Tryz.results102 rfl rfl ?_))))))
  exact ⟨_,_,rfl,.none (fun i hi h=>by have:=hsml i ak;omega) (fun i hi h0 h=>by have:=hsml i ak;omega),hs.out⟩
 ·refine .seq (.draw mix rfl hs fun w hs=>?_)
  refine .zw 0 rfl (zfa ep) ?_;refine .y 1 rfl hs kn ?_;refine .z 2 rfl zm ?_
  have hk':k<l.table.length:=by omega
  have hx:=wB hk'
  have hx1:=wB (l:=l.table) (i:=k - 1) ak
  refine .ixX (enc:=Fbd.c) (i:=3) hs rfl aD .none h1 rfl rfl dz dI hx rfl ?_;intro b22 o22 hc22
  refine .zw 4 rfl (zfa dS) (.r (i:=5) hs rfl aD .none (aM rfl af (hc22.get 0 rfl)) ?_)
  refine .zw 6 rfl (zfa jW) ?_;refine .y 7 rfl hs af ?_;refine .z 8 rfl gw ?_;refine .z 9 rfl zg ?_;refine .D hs ?_
  refine (.bw rfl (fun hc18=>?_) (fun hc18=>?_))
  ·refine .aj (.z (zfa ep) (.y hs (zld kn) (.z zm (.ixX (enc:=Fbd.c) hs h1 rfl rfl dz dI hx rfl ?_))));intro b31 o31 hc31
   refine .z (zfa fU) (.q hs (aM rfl af (hc31.get 1 rfl)) (.z zg (.zn zg (.ret (rB (rT (Fin.iO Tryz.results102 rfl rfl ?_)))))))
   exact ⟨_,_,rfl,.at_ hk' hc18,hs.out⟩
  ·refine .aj (.z zm (.z gw (.zn zg (.bw rfl (fun hc34=>?_) (fun hc34=>?_)))))
   ·refine .aj (.z zg (.zn zg (.ret (rB (rT (Fin.iO Tryz.results102 rfl rfl ?_))))))
    obtain rfl:k=0:=by omega
    exact ⟨_,_,rfl,.none (fun i hi h=>by
     by_cases e:i=0
     ·subst e;exact hc18 h
     ·have:=hr (show 0<i by omega) hi;have:=hbig 0 hk' ak;omega) (fun i hi h0 h=>by have:=hbig (i - 1) ak ak;omega),hs.out⟩
   ·refine .skip (nB (nT (.cut (fun fs w=>∃b5 b6,kF fs ⟨69,[],[(6,Pt b6),(5,Pt b5),(1,Pt b1)]⟩∧St H w (.blk b6 (fb0 l.table k).c:: .blk b5 (fb0 l.table (k - 1)).c:: .blk b1 [I l.length,I l.depth,.slice at_ l.table.length ct,vs]::σ)) ?_ ?_)))
    ·refine .draw mix rfl hs fun w hs=>?_
     refine .zw 0 rfl (zfa ep) ?_;refine .y 1 rfl hs kn ?_;refine .z 2 rfl zm ?_;refine .z 3 rfl gz ?_
     refine .ixX (enc:=Fbd.c) (i:=4) hs rfl aD .none h1 rfl rfl dz dI hx1 ak ?_;intro b41 o41 hc41
     refine .r (i:=5) hs rfl aD .none (bO (vs:=(fb0 l.table (k - 1)).c) rfl Tryz.isAgg134 dI hc41) ?_
     refine .zw 6 rfl (zfa ep) ?_;refine .y 7 rfl hs kn ?_;refine .z 8 rfl zm ?_
     refine .ixX (enc:=Fbd.c) (i:=9) hs rfl aD .none h1 rfl rfl dz dI hx rfl ?_;intro b46 o46 hc46
     refine .r (i:=10) hs rfl aD .none (bO (vs:=(fb0 l.table k).c) rfl Tryz.isAgg134 dI hc46) ?_
     refine .e2 (i:=11) (j:=12) aD rfl rfl rfl rfl .none .none hs ?_ ?_
     ·refine .alloc hs k7 rfl ?_;intro b5 w hs
      refine .go (.E 12 hs ?_)
      refine .alloc hs k7 rfl ?_;intro b6 w hs
      refine .go (.E 13 hs ?_)
      refine .aO (vs:=(fb0 l.table (k - 1)).c) hs rfl rfl dI ?_;intro w hs
      refine .go (.E 14 hs ?_)
      refine .aO (vs:=(fb0 l.table k).c) hs rfl rfl dI ?_;intro w hs
      refine .go (.D hs ?_)
      exact nT ⟨b5,b6,aR,hs.sb⟩
     ·refine .alloc hs k7 rfl ?_;intro b6 w hs
      refine .go (.E 11 hs ?_)
      refine .alloc hs k7 rfl ?_;intro b5 w hs
      refine .go (.E 13 hs ?_)
      refine .aO (vs:=(fb0 l.table (k - 1)).c) hs rfl rfl dI ?_;intro w hs
      refine .go (.E 14 hs ?_)
      refine .aO (vs:=(fb0 l.table k).c) hs rfl rfl dI ?_;intro w hs
      refine .go (.D hs ?_)
      exact nT ⟨b5,b6,aR,hs.sb⟩
    ·rintro fs w ⟨b5,b6,hfs,hs⟩
     refine WE.sub ?_ hfs
     clear hfs
     change St _ _ (.blk b6 [I (fb0 l.table k).len,I (fb0 l.table k).least]:: .blk b5 [I (fb0 l.table (k - 1)).len,I (fb0 l.table (k - 1)).least]::_) at hs
     have h3:=hsml (k - 1) ak
     have h4:l.length<(fb0 l.table k).len:=by have:=hbig k hk' (Nat.le_refl _);omega
     have hX:=Eg hl hk' h3 h4
     have a1:=hl.table (k - 1) ak
     have a2:=a1.len
     have a3:=a1.least
     have b2:=(hl.table k hk').len
     have b3:=(hl.table k hk').least
     have hL:=hl.length
     refine .seq (.draw mix rfl hs fun w hs=>?_)
     refine .zw 0 rfl (zfa fU) ?_;refine .y 1 rfl hs af ?_;refine .z 2 rfl (zfa fU) ?_;refine .y 3 rfl hs af ?_;refine .z 4 rfl gz ?_;refine .z 5 rfl (zfa jW) ?_;refine .y 6 rfl hs af ?_;refine .z 7 rfl (zfa dS) ?_;refine .y 8 rfl hs af ?_;refine .z 9 rfl gz ?_
     refine .zw 10 rfl kq ?_;refine .z 11 rfl (zfa dS) ?_;refine .y 12 rfl hs af ?_;refine .z 13 rfl (zfa dS) ?_;refine .y 14 rfl hs af ?_;refine .z 15 rfl gz ?_;refine .z 18 rfl (zfa fU) ?_;refine .y 19 rfl hs af ?_
     refine .E 16 hs ?_
     refine .call Tryz.call140 rfl (qc hs ak ak) ?_;rintro _ w ⟨rfl,hs⟩
     refine .go (.zw 17 rfl Bp ?_);refine .z 20 rfl cn ?_;refine .z 21 rfl zg ?_;refine .z 22 rfl zg ?_;refine .D hs ?_
     refine .ret (Fin.iO Tryz.results102 rfl rfl ?_)
     have hmid:=zf.mid hk' ak h3 h4
     unfold B0 at hmid
     exact ⟨_,_,rfl,(by rw [show ∀a b:Int,-a+b=b - a from fun a b=>by omega];exact hmid),hs.out⟩
theorem qC{l:Lns}{vt vs:Value}(hs:St H w σ)(h1:RFb H vt l.table)(h2:RSn H vs l.seasons):
  Cl Tryz.prog 37 [.agg #[I l.length,I l.depth,vt,vs]] w fun u w'=>∃n e,u= .tuple #[I n,I e]∧AD l n e∧St H w' σ:=by
 refine Cl.o Tryz.func37 Tryz.ntmps37 ag1 ?_
 refine .aj (.bx hs fun b1 w hs=>?_)
 refine .z zg (.zn zg (.seq (.aj (.y hs (zls [_,_,_,_] cO bL) (.o (.call Tryz.call19 rfl (iL hs h1 h2) ?_))))));rintro _ w ⟨e,rfl,he,hs⟩
 refine .zn zg (.aj (.z zm (.zn gv (.dP rfl (fun hc10=>?_) (fun hc10=>?_)))))
 ·refine .aj (.z zm (.z zg (.zn zg (.ret (rT (Fin.iO Tryz.results37 rfl rfl ?_))))))
  have h:=he.resolve_left fun h=>hc10 h.2
  exact ⟨_,_,rfl,by rw [h.2];exact .lines h.1,hs.out⟩
 ·refine .skip (nT (.aj (.y hs (zls [_,_,_,_] cO bL) ?_)))
  have hok:jE l:=(he.resolve_right fun h=>by omega).1
  refine .o (.call Tryz.call102 rfl (jf hs h1 hok) ?_);rintro _ w ⟨n,b,rfl,hF,hs⟩
  refine .z zm (.z zex (.z zex (.z zg (.zn zg (.seq (.aj (.z zm (.zn fY (.cond rfl (fun hc18=>?_) (fun hc18=>?_))))))))))
  ·refine .aj (.z zg (.zn zg (.ret (rT (Fin.iO Tryz.results37 rfl rfl ?_)))))
   obtain rfl:b=false:=by simpa using hc18
   exact ⟨_,_,rfl,.none hok hF,hs.out⟩
  ·refine .skip (nT (.aj (.z zm (.z zg (.zn zg (.ret (Fin.iO Tryz.results37 rfl rfl ?_)))))))
   obtain rfl:b=true:=by simpa using hc18
   exact ⟨_,_,rfl,.ok hok hF,hs.out⟩
theorem oD{d:Int}(hs:St H w σ)(h:0≤d):Cl Tryz.prog 106 [I d] w fun v w'=>v=I (1+d%365)∧St H w' σ:=by
 have e:d.tmod 365=d%365:=Int.tmod_eq_emod_of_nonneg h
 refine Cl.o Tryz.func106 Tryz.ntmps106 ag1 ?_
 refine .aj (.zn zg (.aj (.z zm (.z Cm ?_))))
 rw [e]
 refine .z cn (.zn zg (.ret (Fin.bu Tryz.results106 rfl ?_)))
 exact ⟨rfl,hs⟩
theorem xb{s:Ssn}{d:Int}(hs:St H w σ):Cl Tryz.prog 159 [.agg #[I s.zone,I s.fr,I s.to,I s.extra],I d] w fun v w'=>v= .bool (decide (AA s d))∧St H w' σ:=by
 refine Cl.o Tryz.func159 Tryz.ntmps159 ag2 ?_
 refine .aj (.bx hs fun b2 w hs=>?_)
 refine .zn zg (.seq (.aj (.z (zfa jy) (.y hs (zld af) (.z (zfa jx) (.y hs (zld af) (.zn kQ (.bw rfl (fun hc9=>?_) (fun hc9=>?_)))))))))
 ·refine .aj (.z zm (.z (zfa jy) (.y hs (zld af) (.z nY (.z zm (.fF (t':=14) rfl (fun hb14=>?_) (fun hb14=>?_)))))))
  ·refine .Fs 4 4 false (.z zpT (.zn zg (.ret (rT (Fin.bu Tryz.results159 rfl (⟨?_,hs.out⟩))))))
   congr 1
   have e:¬s.fr≤s.to:=by omega
   simp only [AA,if_neg e]
   symm
   simp [*]
  ·refine .T (.z zm (.T (.z (zfa jx) (.T (.y hs (zld af) (.T (.z pc (.z zpF (.zn zg (.ret (rT (Fin.bu Tryz.results159 rfl (⟨?_,hs.out⟩)))))))))))))
   congr 1
   have e:¬s.fr≤s.to:=by omega
   simp only [AA,if_neg e]
   simp [*]
 ·refine .skip (nT (.aj (.z zm (.z (zfa jy) (.y hs (zld af) (.z (zfa jx) (.y hs (zld af) (.o (.call eA rfl (bU hs) ?_)))))))));rintro _ w ⟨rfl,hs⟩
  refine .zn zg (.ret (Fin.bu Tryz.results159 rfl (⟨?_,hs.out⟩)))
  congr 1
  have e:s.fr≤s.to:=by omega
  simp only [AA,if_pos e]
theorem oC{l:Lns}{vt vs:Value}{z d:Int}(hs:St H w σ)(h2:RSn H vs l.seasons)(hl:jE l):
  Cl Tryz.prog 105 [.agg #[I l.length,I l.depth,vt,vs],I z,I d] w fun v w'=>v=I (mR l.seasons z d)∧St H w' σ:=by
 obtain ⟨as_,cs,rfl⟩:=h2.shape
 have hm:=hl.most
 refine Cl.o Tryz.func105 Tryz.ntmps105 ag3 ?_
 refine .aj (.bx hs fun b3 w hs=>?_)
 refine .zn zg (.aj (.zn zg (.seq (.aj (.z (zfa mn) (.y hs (zld Tryz.isAgg23) (.z (cJ lR) (.zn zm (.for (N:=l.seasons.length) (J:=fun k fr w=>fr=[(7,I (mR (l.seasons.take k) z d)),(11,.slice as_ l.seasons.length cs),(1,I z),(2,I d)]∧St H w σ) ak ?_ ?_ ?_)))))))))
 ·exact .mk ⟨rfl,hs.out⟩
 ·rintro k fr w hk ⟨rfl,hs⟩
  obtain ⟨s,hx⟩:=nth hk
  have hE:=wC (l.seasons.take k) s z d
  rw [←dA hx] at hE
  refine .block (.aj (.ixX (enc:=Ssn.c) hs h2 rfl rfl lR lO hx cN ?_));intro b15 o15 hc15
  refine .q hs (bO (vs:=(Ssn.c s)) rfl Tryz.isAgg104 lO hc15) (.o (.alloc hs JV rfl fun b9 w hs=>?_))
  refine .o (.aO (vs:=s.c) hs rfl rfl lO fun w hs=>?_)
  change St _ _ (.blk b9 [I s.zone,I s.fr,I s.to,I s.extra]::_) at hs
  refine .nil (.aj (.z (zfa oU) (.y hs (zld af) (.z zm (.z gw (.z zm (.fF (t':=21) rfl (fun hb21=>?_) (fun hb21=>?_))))))))
  ·refine .T (.y hs (zls [_,_,_,_] Tryz.isAgg104 lO) (.T (.z zm (.T (.o (.call Tryz.call159 rfl (xb (s:=s) hs) ?_))))));rintro _ w ⟨rfl,hs⟩
   refine .zn zpT (.cond rfl (fun hc25=>?_) (fun hc25=>?_))
   ·refine .region (.z zm (.z (zfa oT) (.y hs (zld af) (.z CX (.zn zg (nB (nT ?_)))))))
    rw [if_pos ⟨by assumption,by simpa using hc25⟩] at hE
    exact .mk ⟨by rw [hE],hs.out⟩
   ·refine .skip (nB (nT ?_))
    rw [if_neg (fun h=>of_decide_eq_false hc25 h.2)] at hE
    exact .mk ⟨by rw [hE],hs.out⟩
  ·refine .Fs 3 4 true (.zn zpF (.cF (.skip (nB (nT ?_)))))
   rw [if_neg (fun h=>by have:=h.1;contradiction)] at hE
   exact .mk ⟨by rw [hE],hs.out⟩
 ·rintro fr w ⟨rfl,hs⟩
  rw [List.take_length]
  refine nT (.aj (.z zm (.zn zg (.ret (Fin.bu Tryz.results105 rfl ?_)))))
  exact ⟨rfl,hs⟩
theorem rJ{l:Lns}{vt vs:Value}{z d:Int}(hs:St H w σ)(h1:RFb H vt l.table)(h2:RSn H vs l.seasons):
  Cl Tryz.prog 104 [.agg #[I l.length,I l.depth,vt,vs],I z,I d] w fun v w'=>∃e,v=I e∧CR l z d e∧St H w' σ:=by
 refine Cl.o Tryz.func104 Tryz.ntmps104 ag3 ?_
 refine .aj (.bx hs fun b3 w hs=>?_)
 refine .zn zg (.seq (.aj (.y hs (zls [_,_,_,_] cO bL) (.o (.call Tryz.call19 rfl (iL hs h1 h2) ?_)))));rintro _ w ⟨e,rfl,he,hs⟩
 refine .zn zg (.aj (.z zm (.zn gv (.dP rfl (fun hc11=>?_) (fun hc11=>?_)))))
 ·refine .aj (.z zm (.zn zg (.ret (rT (Fin.bu Tryz.results104 rfl ?_)))))
  have h:=he.resolve_left fun h=>hc11 h.2
  exact ⟨_,rfl,by rw [h.2];exact .lines h.1,hs.out⟩
 ·refine .skip (nT (.seq (.block (.aj ?_))))
  have hok:jE l:=(he.resolve_right fun h=>by omega).1
  refine .z zm (.o (.call Tryz.call73 rfl (ky hs) ?_));rintro _ w ⟨rfl,hs⟩
  refine .z fY (.zn zg (.cond rfl (fun hc13=>?_) (fun hc13=>?_)))
  ·refine .aj (.zn zg (.ret (rB (rT (Fin.bu Tryz.results104 rfl ?_)))))
   exact ⟨_,rfl,.zone hok (by simp at hc13;omega),hs.out⟩
  ·refine .aj (.z zm (.o (.call eA rfl (bU hs) ?_)));rintro _ w ⟨rfl,hs⟩
   refine .z fY (.zn zg (.cond rfl (fun hc17=>?_) (fun hc17=>?_)))
   ·refine .aj (.zn zg (.ret (rB (rT (Fin.bu Tryz.results104 rfl ?_)))))
    exact ⟨_,rfl,.day hok (by simpa using hc13) (by simp at hc17;omega),hs.out⟩
   ·refine .skip (nB (nT (.aj (.zn zg (.ret (Fin.bu Tryz.results104 rfl ?_))))))
    exact ⟨_,rfl,.ok hok (by simpa using hc13) (by simpa using hc17),hs.out⟩
theorem uj{l:Lns}{vt vs:Value}{z d:Int}(hs:St H w σ)(h1:RFb H vt l.table)(h2:RSn H vs l.seasons):
  Cl Tryz.prog 41 [.agg #[I l.length,I l.depth,vt,vs],I z,I d] w fun u w'=>∃n e,u= .tuple #[I n,I e]∧GV l z d n e∧St H w' σ:=by
 refine Cl.o Tryz.func41 Tryz.ntmps41 ag3 ?_
 refine .aj (.bx hs fun b3 w hs=>?_)
 refine .z zg (.zn zg (.seq (.aj (.y hs (zls [_,_,_,_] cO bL) (.z zm (.z zm (.o (.call Tryz.call104 rfl (rJ hs h1 h2) ?_))))))));rintro _ w ⟨e,rfl,he,hs⟩
 refine .zn zg (.aj (.z zm (.zn gv (.dP rfl (fun hc16=>?_) (fun hc16=>?_)))))
 ·refine .aj (.z zm (.z zg (.zn zg (.ret (rT (Fin.iO Tryz.results41 rfl rfl ?_))))))
  exact ⟨_,_,rfl,.bad he hc16,hs.out⟩
 ·refine .skip (nT (.aj (.y hs (zls [_,_,_,_] cO bL) ?_)))
  obtain rfl:e=0:=by omega
  obtain ⟨hok,hz,hd⟩:=he.zero
  refine .o (.call Tryz.call102 rfl (jf hs h1 hok) ?_);rintro _ w ⟨n,b,rfl,hF,hs⟩
  refine .z zm (.z zex (.z zex (.z zg (.zn zg (.seq (.aj (.z zm (.zn fY (.cond rfl (fun hc24=>?_) (fun hc24=>?_))))))))))
  ·refine .aj (.z zg (.zn zg (.ret (rT (Fin.iO Tryz.results41 rfl rfl ?_)))))
   obtain rfl:b=false:=by simpa using hc24
   exact ⟨_,_,rfl,.none he hF,hs.out⟩
  ·refine .skip (nT (.seq (.draw mix rfl hs fun w hs=>?_)))
   obtain rfl:b=true:=by simpa using hc24
   have hn:=hF.bd hok
   have hdp:=hok.depth
   have hE:=Al hok.seasons z (1+d%365)
   refine .zw 0 rfl (zfa mq) ?_;refine .y 1 rfl hs af ?_;refine .z 2 rfl zm ?_;refine .z 3 rfl gz ?_;refine .ys 4 rfl hs [_,_,_,_] cO bL ?_;refine .z 5 rfl zm ?_;refine .z 6 rfl zm ?_
   refine .E 7 hs ?_
   refine .call Tryz.call106 rfl (oD hs hd.1) ?_;rintro _ w ⟨rfl,hs⟩
   refine .go (.E 8 hs ?_)
   refine .call Tryz.call105 rfl (oC hs h2 hok) ?_;rintro _ w ⟨rfl,hs⟩
   refine .go (.zw 9 rfl gz ?_);refine .z 10 rfl zg ?_;refine .z 11 rfl zg ?_;refine .D hs ?_
   refine .ret (Fin.iO Tryz.results41 rfl rfl ?_)
   exact ⟨_,_,rfl,.ok he hF,hs.out⟩
theorem sU{s:Spc}{vst vwa:Value}{h:Int}{b c i:Nat}(hs:St H w (.blk c [I h]:: .blk b [I s.id,I s.src,vst,vwa,I s.al,I s.up]::σ))(h2:RI H vwa s.wa)(hi:i<s.wa.length)(hok:fW s):
  Cl Tryz.prog 166 [I (i:Int),Pt b,Pt c] w fun u w'=>∃bb:Bool,u= .bool bb∧(bb=true↔h<gi s.wa i - gi s.wa 0)∧St H w' (.blk c [I h]:: .blk b [I s.id,I s.src,vst,vwa,I s.al,I s.up]::σ):=by
 obtain ⟨awa,cwa,rfl⟩:=RI.shape h2
 have b1:=hok.wa.bd hi
 have b2:=hok.wa.bd (i:=0) ak
 refine Cl.o Tryz.func166 Tryz.ntmps166 ag3 ?_
 refine .aj (.zn zg (.seq (.draw mix rfl hs fun w hs=>?_)))
 refine .zw 0 rfl (zfa aU) ?_;refine .y 1 rfl hs aq ?_;refine .z 2 rfl zm ?_
 refine .ixX (enc:=fun x=>[I x]) (i:=3) hs rfl aD .none h2 rfl rfl ae ai (bq (l:=s.wa) (i:=i) ak) cN ?_;intro b8 o8 hc8;replace hc8:=bB.one hc8
 refine .r (i:=4) hs rfl aD .none (aM rfl af hc8) ?_
 refine .zw 5 rfl (zfa aU) ?_;refine .y 6 rfl hs aq ?_
 refine .ixX (enc:=fun x=>[I x]) (i:=7) hs rfl aD .none h2 rfl rfl ae ai (bq (l:=s.wa) (i:=0) ak) cN ?_;intro b12 o12 hc12;replace hc12:=bB.one hc12
 refine .r (i:=8) hs rfl aD .none (aM rfl af hc12) ?_
 refine .zw 9 rfl gz ?_;refine .y 10 rfl hs af ?_;refine .z 11 rfl kQ ?_;refine .z 12 rfl zg ?_;refine .D hs ?_
 refine .ret (Fin.bu Tryz.results166 rfl ?_)
 exact ⟨_,rfl,bJ,hs⟩
theorem we{s:Spc}{vst vwa:Value}{h:Int}(hs:St H w σ)(h2:RI H vwa s.wa)(hok:fW s):
  Cl Tryz.prog 112 [.agg #[I s.id,I s.src,vst,vwa,I s.al,I s.up],I h] w fun u w'=>∃k,u=I k∧Gq s.wa h k∧St H w' σ:=by
 obtain ⟨awa,cwa,rfl⟩:=RI.shape h2
 have hm:=hok.wa.many
 have hr:=fun {i j:Nat}=>hok.wa.le (i:=i) (j:=j)
 refine Cl.o Tryz.func112 Tryz.ntmps112 ag2 ?_
 refine .aj (.bx hs fun b2 w hs=>?_)
 refine .bx hs fun b3 w hs=>?_
 refine .zn zg (.aj (.z (zfa aU) (.y hs (zld aq) (.z (cJ ae) (.q hs (dt (f:=[]) (c:=[_,_]) rfl rfl) (.o (.call Tryz.call157 rfl (nm (cap:=[Pt b2,Pt b3]) (p:=fun i=>h<gi s.wa i - gi s.wa 0) hs ak Tryz.call166 (fun w i hi hs=>sU hs h2 hi hok)) ?_)))))));rintro _ w ⟨k,rfl,hk,hlo,hhi,hs⟩
 refine .z gz (.zn zg (.ret (Fin.bu Tryz.results112 rfl (⟨_,rfl,⟨ak,ak,fun i hi=>⟨fun g=>?_,fun g=>?_⟩⟩,hs.out⟩))))
 ·by_cases e:(i:Int)≤k - 1
  ·exact e
  ·have h3:=hhi ak
   have:=hr (show k≤i by omega) hi;omega
 ·have h3:=hlo ak
  have:=hr (show i≤k - 1 by omega) ak;omega
def xg(x:Lg):List (List Value):=(List.range (oW x)).map fun j=>[I (1+(x.fr+(j:Nat))%365)]
theorem oV(x:Lg):(xg x).length=oW x:=by simp [xg]
theorem Ar{x:Lg}{j:Nat}(h:j<(xg x).length):(xg x)[j]=[I (1+(x.fr+j)%365)]:=by simp [xg]
theorem ui{H:bM}{b:Nat}{x:Lg}(hb:Row H b [I x.zone,I x.fr,I x.to,I x.dlo,I x.dhi,I x.blo,I x.bhi])(hx:GU x):
  Iter Tryz.prog 218 [Pt b] H (xg x):=by
 intro ly II Ix hmI _ hy H0 σb0 σf w hle hI0 hs
 have g1:cellAt H0 b 1=some (I x.fr):=cellAt.mono (hb.at 1) hle
 have hd:=Et hx
 have hdn:(oW x:Int)=min x.to (x.fr+364) - x.fr+1:=by have:=hx.fr;unfold oW;omega
 have hf:=hx.fr
 have ht:=hx.to
 refine Cl.o Tryz.func218 Tryz.ntmps218 ag2 ?_
 refine .aj (.z (zfa l9) (.y hs (zld af) (.zn zg (.block ?_))))
 refine .loop (fun j:Nat=>⟨22,[],[(3,I (x.fr+(j:Int))),(0,.func (.yield ly) #[] #[]),(1,Pt b)]⟩)
  (fun j w=>j≤oW x∧∃H1 σb,HLe H H1∧HLe H0 H1∧II j H1 σb∧St H1 w (σb++σf)) (fun j=>oW x - j) 0 (.cons (by show some (I _)=some (I _);congr 2;omega) aR)
  ⟨Nat.zero_le _,H0,σb0,hle,HLe.refl _,hI0,hs⟩ ?_
 rintro j w ⟨hj,H1,σb,hle1,hle0,hI,hs⟩
 have h1:cellAt H1 b 1=some (I x.fr):=cellAt.mono (hb.at 1) hle1
 have h2:cellAt H1 b 2=some (I x.to):=cellAt.mono (hb.at 2) hle1
 refine .seq (.aj (.z zm (.z (zfa l7) (.y hs (zld af) (.z (zfa l9) (.y hs (zld af) (.z cn (.z gz (.z AI (.zn pc (.bw rfl (fun hc14=>?_) (fun hc14=>?_))))))))))))
 ·refine .skip (nT (.seq (.block (.aj (.z zm (.z zm (.o (.call Tryz.call106 rfl (oD hs ak) ?_))))))));rintro _ w ⟨rfl,hs⟩
  have hk':j<(xg x).length:=by rw [oV];omega
  have hyd:=hy j hk' H1 σb σf w hle1 hI hs
  rw [Ar hk'] at hyd
  refine .o (.yield rfl rfl hyd ?_);rintro v20 w ⟨H5,σ5,g1,hs,g3'⟩
  obtain ⟨bb,rfl,gT,gF⟩:=nZ g3'
  refine .zn fY (.cond rfl (fun hc21=>?_) (fun hc21=>?_))
  ·refine .ret (rB (rT (rT (rB (Fin.HU Tryz.results218 ?_)))))
   exact ⟨H5,σ5,hle0.trans g1,hs,.inr (gF (by simpa using hc21))⟩
  ·refine .skip (nB (nT (.region (.z zm (.z cn (.zn zg (nT ?_)))))))
   exact ⟨j+1,.cons (by show some (I _)=some (I _);congr 2;omega) aR,⟨ak,H5,σ5,hle1.trans g1,hle0.trans g1,gT (by simpa using hc21),hs⟩,ak⟩
 ·refine .exit (xT (xT (xB ?_)))
  obtain rfl:j=oW x:=by omega
  exact Fin.Ao Tryz.results218 ⟨H1,σb,hle0,hs,.inl (by rw [oV];exact hI)⟩
theorem xc{x:Lg}(hs:St H w σ)(hx:GU x):
  Cl Tryz.prog 169 [.agg #[I x.zone,I x.fr,I x.to,I x.dlo,I x.dhi,I x.blo,I x.bhi]] w fun u w'=>∃H1 b,HLe H H1∧u= .func (.func 218) #[] #[Pt b]∧Iter Tryz.prog 218 [Pt b] H1 (xg x)∧St H1 w' σ:=by
 refine Cl.o Tryz.func169 Tryz.ntmps169 ag1 ?_
 refine .aj (.bx hs fun b1 w hs=>?_)
 refine .zn zg (.aj (.q hs (dt (f:=[]) (c:=[_]) rfl rfl) (.zn zg (.ret (Fin.bu Tryz.results169 rfl ?_)))))
 obtain ⟨H1,g1,g2,hs⟩:=hs.cH .here
 exact ⟨H1,b1,g1,rfl,ui g2 hx,hs⟩
set_option maxHeartbeats 1000000 in
theorem ug{s:Spc}{l:Lns}{x:Lg}{vst vwa vt vs:Value}(hs:St H w σ)(g2:RI H vwa s.wa)(h1:RFb H vt l.table)(h2:RSn H vs l.seasons)(hsp:fW s)(hl:jE l)(hx:GU x):
  Cl Tryz.prog 115 [.agg #[I s.id,I s.src,vst,vwa,I s.al,I s.up],.agg #[I l.length,I l.depth,vt,vs],.agg #[I x.zone,I x.fr,I x.to,I x.dlo,I x.dhi,I x.blo,I x.bhi]] w fun u w'=>∃H1 k e,HLe H H1∧u= .tuple #[I k,I e]∧AB s.wa l x k e∧St H1 w' σ:=by
 refine Cl.o Tryz.func115 Tryz.ntmps115 ag3 ?_
 refine .aj (.bx hs fun b3 w hs=>?_)
 refine .bx hs fun b4 w hs=>?_
 refine .bx hs fun b5 w hs=>?_
 refine .z zg (.zn zg (.aj (.y hs (zls [_,_,_,_] cO bL) (.o (.call Tryz.call102 rfl (jf hs h1 hl) ?_)))));rintro _ w ⟨n,b,rfl,hF,hs⟩
 refine .z zm (.z zex (.z zex (.z zg (.zn zg (.seq (.aj (.z zm (.zn fY (.cond rfl (fun hc19=>?_) (fun hc19=>?_))))))))))
 ·refine .aj (.z zg (.zn zg (.ret (rT (?_)))))
  obtain rfl:b=false:=by simpa using hc19
  exact Fin.iO Tryz.results115 rfl rfl ⟨H,_,_,HLe.refl H,rfl,.none hF,hs.out⟩
 ·refine .skip (nT (.aj (.o (.alloc hs bK rfl fun b10 w hs=>?_))))
  refine .o (.store hs rfl rfl ai fun w hs=>?_)
  refine .nil (.seq (.aj (.y hs (zls [_,_,_,_,_,_,_] mv cu) ?_)))
  obtain rfl:b=true:=by simpa using hc19
  have hn:=hF.bd hl
  have hdp:=hl.depth
  refine .o (.call Tryz.call169 rfl (xc hs hx) ?_);rintro _ w ⟨H1,bd,hle1,rfl,hit,hs⟩
  refine .nil (.block ?_)
  refine .rangeFunc (gf:=218) (cap:=[Pt bd]) (xs:=xg x) (σb:=[.blk b10 [I 0],.blk b5 [I x.zone,I x.fr,I x.to,I x.dlo,I x.dhi,I x.blo,I x.bhi],.blk b4 [I l.length,I l.depth,vt,vs],.blk b3 [I s.id,I s.src,vst,vwa,I s.al,I s.up]]) (σf:=σ) hs trivial rfl hit Tryz.call218 (fun y hy=>by
    simp only [xg,List.mem_map] at hy
    obtain ⟨j,_,rfl⟩:=hy;rfl) rfl
   (I:=fun p H' σb=>σb=[.blk b10 [I (uf l.seasons x.zone x.fr p)],.blk b5 [I x.zone,I x.fr,I x.to,I x.dlo,I x.dhi,I x.blo,I x.bhi],.blk b4 [I l.length,I l.depth,vt,vs],.blk b3 [I s.id,I s.src,vst,vwa,I s.al,I s.up]]) (Ix:=fun _ _ _=>False)
   (fun j _ _ σ g1 g2=>g2) (fun _ _ _ _ _ h=>h) rfl ?_ ?_ (fun D c H' σb w _ h _=>h.elim)
  ·rintro ly p hp H2 σb2 σf2 w hle2 rfl hs ⟨rr,hrr⟩
   rw [Ar hp]
   refine .region (.zn zg (nT (⟨H2,_,HLe.refl _,hs,?_⟩)));rintro w σf4 - hs
   replace hs:St H2 w (.blk b10 [I (uf l.seasons x.zone x.fr p)]:: .blk b5 [I x.zone,I x.fr,I x.to,I x.dlo,I x.dhi,I x.blo,I x.bhi]:: .blk b4 [I l.length,I l.depth,vt,vs]:: .blk b3 [I s.id,I s.src,vst,vwa,I s.al,I s.up]::σf4):=hs
   refine .block (.draw mix rfl hs fun w hs=>?_)
   refine .y 0 rfl hs af ?_;refine .ys 1 rfl hs [_,_,_,_] cO bL ?_;refine .z 2 rfl (zfa tG) ?_;refine .y 3 rfl hs af ?_;refine .z 4 rfl zm ?_
   refine .E 5 hs ?_
   refine .call Tryz.call105 rfl (oC hs (h2.mono (hle1.trans hle2)) hl) ?_;rintro _ w ⟨rfl,hs⟩
   refine .go (.zw 6 rfl CX (.E 7 hs ?_))
   refine .store hs rfl rfl ai ?_;intro w hs
   refine .go (.D hs (nB ?_))
   exact ⟨H2,_,HLe.refl _,hs,rfl⟩
  ·rintro D H2 σb2 w hle2 rfl hs
   rw [oV] at hs
   have hle02:=hle1.trans hle2
   have hE:=BK hl.seasons x.zone x.fr (oW x)
   replace hs:St H2 w (.obj D (.deferred (some [])):: .blk b10 [I (uf l.seasons x.zone x.fr (oW x))]:: .blk b5 [I x.zone,I x.fr,I x.to,I x.dlo,I x.dhi,I x.blo,I x.bhi]:: .blk b4 [I l.length,I l.depth,vt,vs]:: .blk b3 [I s.id,I s.src,vst,vwa,I s.al,I s.up]::σ):=hs
   refine nB (nT (.seq (.aj (.y hs (zls [_,_,_,_,_,_] aV aJ) (.z (zfa mq) (.y hs (zld af) (.z zm (.z gz (.y hs (zld af) (.z gz (.o (.call Tryz.call112 rfl (we (s:=s) hs (g2.mono hle02) hsp) ?_))))))))))));rintro _ w ⟨k,rfl,hB,hs⟩
   refine .zn zg (.aj (.z zm (.zn nY (.bw rfl (fun hc39=>?_) (fun hc39=>?_)))))
   ·refine .aj (.z zm (.z zg (.zn zg (.ret (rT (?_))))))
    exact Fin.fZ [D] [] hs fun w hs=>⟨_,results2 Tryz.results115 rfl rfl,H2,_,_,hle02,rfl,.ok hF hB hc39,hs.out⟩
   ·refine .skip (nT (.aj (.z zg (.zn zg (.ret ?_)))))
    have hk:=hB.low
    obtain rfl:k= -1:=by omega
    exact Fin.fZ [D] [] hs fun w hs=>⟨_,results2 Tryz.results115 rfl rfl,H2,_,_,hle02,rfl,.above hF hB,hs.out⟩
theorem vH{v:Value}{l:List Rng}(hs:St H w σ)(hr:RRg H v l):Cl Tryz.prog 162 [v] w fun u w'=>RRg H u l∧St H w' σ:=by
 obtain ⟨a,c,rfl⟩:=hr.shape
 have hc:=RS.clip hr
 refine Cl.o Tryz.func162 Tryz.ntmps162 ag1 ?_
 refine .aj (.zn zg (.aj (.z zm (.z zm (.z (cJ ck) (.z zm (.z (cJ ck) (.q hs (DA rfl rfl rfl ck an (Nat.le_refl _) hc.1) (.zn zg (.ret (Fin.bu Tryz.results162 rfl ?_)))))))))))
 exact ⟨hc.2,hs⟩
theorem nv{r:List Lg}{vr:Value}{m:Rng}(hs:St H w σ)(h1:RLg H vr r)(hr:xl r)(hm:fI m.lo m.hi):
  Cl Tryz.prog 110 [.agg #[vr],.agg #[I m.lo,I m.hi]] w fun u w'=>∃H1,HLe H H1∧RRg H1 u (msL m r r.length)∧St H1 w' σ:=by
 obtain ⟨ar,cr,rfl⟩:=h1.shape
 have hn:=hr.many
 refine Cl.o Tryz.func110 Tryz.ntmps110 ag2 ?_
 refine .aj (.bx hs fun b2 w hs=>?_)
 refine .bx hs fun b3 w hs=>?_
 refine .zn zg (.aj (.y hs (zls [_,_] aC an) (.o (.buildSlice (cells:=m.c) hs gW rfl aD fun b9 w hs=>?_))))
 refine .zn zg (.seq (.aj (.z (zfa gS) (.y hs (zld km) (.z (cJ cA) (.zn zm (.for (N:=r.length) (J:=fun k fr w=>∃vo en,fr=[(5,vo),(11,.slice ar r.length cr),(3,Pt b3)]∧cq 2 vo (rgc (msL m r k)).flatten en∧St H w (en:: .blk b3 [I (pL m r k).lo,I (pL m r k).hi]::σ)) ak ?_ ?_ ?_)))))))
 ·exact .mk ⟨_,.blk b9 m.c,rfl,.full rfl,hs.sb⟩
 ·rintro k fr w hk ⟨vo,en,rfl,hO,hs⟩
  have hx:=qI (l:=r) hk
  have hb:=DU hm (fun i hi=>(hr.leg i hi).1) (i:=k) ak
  have hb2:=(hr.leg k hk).1.burn
  unfold fI at hb hb2
  have hml:=py m r k
  obtain ⟨ao,co,rfl⟩:=hO.lh (yw _) ak
  refine .block (.aj (.ixX (enc:=Lg.c) hs h1 rfl rfl cA cu hx cN ?_));intro b15 o15 hc15
  refine .q hs (bO (vs:=(Lg.c (lg0 r k))) rfl mv cu hc15) (.o (.alloc hs iD rfl fun b7 w hs=>?_))
  refine .o (.aO (vs:=(lg0 r k).c) hs rfl rfl cu fun w hs=>?_)
  change St _ _ (.blk b7 [I (lg0 r k).zone,I (lg0 r k).fr,I (lg0 r k).to,I (lg0 r k).dlo,I (lg0 r k).dhi,I (lg0 r k).blo,I (lg0 r k).bhi]::_) at hs
  refine .nil (.aj (.z (zfa aQ) (.y hs (zld af) (.z (zfa kf) (.z (zfa aN) (.y hs (zld af) (.z gz (.z CX (.z (zfa aN) (.y hs (zld af) (.z (zfa kf) (.z (zfa aQ) (.y hs (zld af) (.z gz (.z CX (.z (zbd [_,_] aZ) (.o (.aO (vs:=(pL m r (k+1)).c) hs rfl rfl an fun w hs=>?_))))))))))))))))))
  change St _ _ (.blk b7 _::en:: .blk b3 [I (pL m r (k+1)).lo,I (pL m r (k+1)).hi]::σ) at hs
  refine .nil (.region (.z zm (.y hs (zls [_,_] aC an) (.o (.buildSlice (cells:=(pL m r (k+1)).c) hs gW rfl aD fun b34 w hs=>?_)))))
  refine .o (.append (ys:=(pL m r (k+1)).c) hs fK rfl rfl hO (.own .here rfl rfl) (by simp [Rng.c,Value.oneCell']) (fun l h=>by rw [bV _ (yw _),iF] at h;omega) ?_);intro v35 en35 w hO2 hs
  rw [←yv,←FQ] at hO2
  refine .zn zg (nB (nT ?_))
  exact .mk ⟨_,_,rfl,hO2,hs.sb⟩
 ·rintro fr w ⟨vo,en,rfl,hO,hs⟩
  obtain ⟨H1,hle1,hR,hs⟩:=cq.cH (m:=2) hO (yw _) ak (by rw [iF,py];omega) hs .here
  refine nT (.aj (.z zm (.o (.call Tryz.call162 rfl (vH (l:=msL m r r.length) hs hR) ?_))));rintro v38 w ⟨hR2,hs⟩
  refine .zn zg (.ret (Fin.bu Tryz.results110 rfl ?_))
  exact ⟨H1,hle1,hR2,hs.out⟩
theorem Ey{v:Srv}{out:List Int}{e:Int}(h:Ci v out e)(hv:dq v):(e=0∧0<out.length∧¬v.sys.Sound)∨(e=3∧v.sys.Sound):=by
 cases h with
 |bad h he=>exact (he (h.cz.2 hv)).elim
 |ok _ h=>
  by_cases e0:e=0
  ·subst e0
   obtain ⟨_,h1,_,h2⟩:=h.conf
   exact .inl ⟨rfl,(by cases out with|nil=>exact (h2 rfl).elim|cons=>simp),h1⟩
  ·cases h with
   |bad h=>exact (h (v.sys.cz.2 hv.sys)).elim
   |none _ h=>exact .inr ⟨rfl,h⟩
   |ok=>exact (e0 rfl).elim
theorem l5{k:Int}(hs:St H w σ):Cl Tryz.prog 98 [I k] w fun u w'=>u= .agg #[I 1,I 0,I k]∧St H w' σ:=by
 refine Cl.o Tryz.func98 Tryz.ntmps98 ag1 ?_
 refine .aj (.o (.alloc hs Tryz.zeroValue113 rfl fun b2 w hs=>?_))
 refine .nil (.aj (.z zm (.z (zbd [_,_,_] oZ) (.o (.aO (vs:=[_,_,_]) hs rfl rfl fG fun w hs=>?_)))))
 refine .nil (.ret ?_)
 exact Fin.fZ [] [] hs fun w hs=>⟨_,results1 Tryz.results98 (cB (vs:=[_,_,_]) hs rfl kP fG),rfl,hs.out⟩
theorem nx{s:Srv}{k:Nat}{a b c d:Value}(hs:St H w σ)(g:SvM H s a b c d)(hok:dq s):
  Cl Tryz.prog 122 [svA s a b c d,I (k:Int)] w fun u w'=>∃H1 lo hi e,HLe H H1∧u= .tuple #[.agg #[I lo,I hi],I e]∧uZ s k lo hi e∧St H1 w' σ:=by
 refine Cl.o Tryz.func122 Tryz.ntmps122 ag2 ?_
 refine .aj (.bx hs fun b2 w hs=>?_)
 refine .o (.alloc hs aW rfl fun b4 w hs=>?_)
 refine .zn zg (.seq (.aj (.z zm (.zn kQ (.bw rfl (fun hc9=>?_) (fun hc9=>?_))))))
 ·refine .seq (.draw mix rfl hs fun w hs=>?_)
  refine .ys 0 rfl hs [_,_,_,_,_,_,_,_] aI aB ?_;refine .z 1 rfl zm ?_
  refine .E 2 hs ?_
  refine .call Tryz.call98 rfl (l5 hs) ?_;rintro _ w ⟨rfl,hs⟩
  refine .go (.E 3 hs ?_)
  refine .call Tryz.call174 rfl (rD (s:=s) (q:=⟨1,0,k⟩) hs g.st g.wa g.rd g.cm) ?_;rintro _ w ⟨H1,lo,hi,e,hle1,rfl,hQ,hs⟩
  refine .go (.zw 4 rfl zex ?_);refine .z 5 rfl zex ?_
  refine .E 6 hs ?_
  refine .aO (vs:=[_,_]) hs rfl rfl an ?_;intro w hs
  refine .go (.zw 7 rfl zg ?_);refine .D hs ?_
  refine .ret (rT (?_))
  exact Fin.fZ [] [] hs fun w hs=>⟨_,results2 Tryz.results122 (cB (vs:=[_,_]) hs rfl aC an) rfl,H1,_,_,_,hle1,rfl,.up ak hQ,hs.out⟩
 ·refine .skip (nT (.seq (.aj (.y hs (zls [_,_,_,_,_,_,_,_] aI aB) ?_))))
  obtain rfl:k=0:=by omega
  refine .o (.call Tryz.call175 rfl (rC (s:=s) hs g.st g.wa g.rd g.cm) ?_);rintro _ w ⟨H1,vx,out,e,hle1,rfl,hX,hC,hs⟩
  have hcl:=Ey hC hok
  obtain ⟨ax,cx,rfl⟩:=RI.shape hX
  refine .z zm (.z zex (.z zex (.z zg (.zn zg (.aj (.z zm (.z gw (.z zm (.fF (t':=23) rfl (fun hb23=>?_) (fun hb23=>?_))))))))))
  ·refine .T (.z zm (.T (.z (cJ ae) (.T (.z kQ (.zn zpT (.bw rfl (fun hc27=>?_) (fun hc27=>?_))))))))
   ·refine .aj (.z (zbd [_,_] aZ) (.o (.aO (vs:=[_,_]) hs rfl rfl an fun w hs=>?_)))
    refine .zn zg (.ret (rT (?_)))
    exact Fin.fZ [] [] hs fun w hs=>⟨_,results2 Tryz.results122 (cB (vs:=[_,_]) hs rfl aC an) rfl,H1,_,_,_,hle1,rfl,.fls rfl hok (by rcases hcl with h|h;exact h.2.2;omega),hs.out⟩
   ·refine .skip (nT (.aj (.z (zbd [_,_] aZ) (.o (.aO (vs:=[_,_]) hs rfl rfl an fun w hs=>?_)))))
    refine .zn zg (.ret ?_)
    exact Fin.fZ [] [] hs fun w hs=>⟨_,results2 Tryz.results122 (cB (vs:=[_,_]) hs rfl aC an) rfl,H1,_,_,_,hle1,rfl,.zero rfl hok (by rcases hcl with h|h;omega;exact h.2),hs.out⟩
  ·refine .Fs 3 2 true (.zn zpF (.cF (.skip (nT (.aj (.z (zbd [_,_] aZ) (.o (.aO (vs:=[_,_]) hs rfl rfl an fun w hs=>?_))))))))
   refine .zn zg (.ret ?_)
   exact Fin.fZ [] [] hs fun w hs=>⟨_,results2 Tryz.results122 (cB (vs:=[_,_]) hs rfl aC an) rfl,H1,_,_,_,hle1,rfl,.zero rfl hok (by rcases hcl with h|h;omega;exact h.2),hs.out⟩
theorem gN{n d:Int}(hs:St H w σ)(hn: -4000000000000≤n∧n≤4000000000000)(hd: -100000≤d∧d≤100000):Cl Tryz.prog 99 [I n,I d] w fun v w'=>v=I (fb n d)∧St H w' σ:=by
 have hm:=j8 (a:=n) (b:=d) (A:=4000000000000) (B:=100000) ak ak
 refine Cl.o Tryz.func99 Tryz.ntmps99 ag2 ?_
 refine .aj (.zn zg (.aj (.z zm (.z zm (.z kq (.o (.call Tryz.call140 rfl (qc hs ak ak) ?_)))))));rintro _ w ⟨rfl,hs⟩
 refine .zn zg (.ret (Fin.bu Tryz.results99 rfl ?_))
 exact ⟨rfl,hs⟩
theorem sS{lo hi x y:Int}(hs:St H w σ)(h1: -200000000≤lo∧lo≤200000000)(h2: -200000000≤hi∧hi≤200000000)(hd:ea x y):
  Cl Tryz.prog 145 [.agg #[I lo,I hi],.agg #[I x,I y]] w fun v w'=>v= .agg #[I (dJ lo x y),I (dK hi x y)]∧St H w' σ:=by
 unfold ea at hd
 refine Cl.o Tryz.func145 Tryz.ntmps145 ag2 ?_
 refine .aj (.bx hs fun b2 w hs=>?_)
 refine .bx hs fun b3 w hs=>?_
 refine .o (.alloc hs aW rfl fun b4 w hs=>?_)
 refine .nil (.seq (.draw mix rfl hs fun w hs=>?_))
 refine .zw 0 rfl (zfa aQ) ?_;refine .y 1 rfl hs af ?_;refine .z 2 rfl (zfa aQ) ?_;refine .y 3 rfl hs af ?_;refine .z 5 rfl (zfa aQ) ?_;refine .y 6 rfl hs af ?_;refine .z 7 rfl (zfa aN) ?_;refine .y 8 rfl hs af ?_;refine .z 11 rfl (zfa aN) ?_;refine .y 12 rfl hs af ?_
 refine .zw 13 rfl (zfa aQ) ?_;refine .y 14 rfl hs af ?_;refine .z 16 rfl (zfa aN) ?_;refine .y 17 rfl hs af ?_;refine .z 18 rfl (zfa aN) ?_;refine .y 19 rfl hs af ?_
 refine .E 4 hs ?_
 refine .call Tryz.call99 rfl (gN hs ak ak) ?_;rintro _ w ⟨rfl,hs⟩
 refine .go (.E 9 hs ?_)
 refine .call Tryz.call99 rfl (gN hs ak ak) ?_;rintro _ w ⟨rfl,hs⟩
 refine .go (.zw 10 rfl AI (.E 15 hs ?_))
 refine .call Tryz.call99 rfl (gN hs ak ak) ?_;rintro _ w ⟨rfl,hs⟩
 refine .go (.E 20 hs ?_)
 refine .call Tryz.call99 rfl (gN hs ak ak) ?_;rintro _ w ⟨rfl,hs⟩
 refine .go (.zw 21 rfl CX ?_);refine .z 22 rfl (zbd [_,_] aZ) ?_
 refine .E 23 hs ?_
 refine .aO (vs:=[_,_]) hs rfl rfl an ?_;intro w hs
 refine .go (.D hs (.ret ?_))
 exact Fin.fZ [] [] hs fun w hs=>⟨_,results1 Tryz.results145 (cB (vs:=[_,_]) hs rfl aC an),rfl,hs.out⟩
theorem dV{s:Srv}{k:Nat}{a b c d:Value}{x y:Int}(hs:St H w σ)(g:SvM H s a b c d)(hok:dq s)(hd:ea x y):
  Cl Tryz.prog 88 [svA s a b c d,I (k:Int),.agg #[I x,I y]] w fun u w'=>∃H1 lo hi e,HLe H H1∧u= .tuple #[.agg #[I lo,I hi],I e]∧iS s k x y lo hi e∧St H1 w' σ:=by
 refine Cl.o Tryz.func88 Tryz.ntmps88 ag3 ?_
 refine .aj (.bx hs fun b3 w hs=>?_)
 refine .bx hs fun b5 w hs=>?_
 refine .o (.alloc hs aW rfl fun b6 w hs=>?_)
 refine .zn zg (.aj (.y hs (zls [_,_,_,_,_,_,_,_] aI aB) (.z zm (.o (.call Tryz.call122 rfl (nx (s:=s) hs g hok) ?_)))));rintro _ w ⟨H1,lo,hi,e,hle1,rfl,hL,hs⟩
 have hb:=hL.bd
 refine .z zm (.z zex (.z zex (.o (.alloc hs aW rfl fun b8 w hs=>?_))))
 refine .o (.aO (vs:=[_,_]) hs rfl rfl an fun w hs=>?_)
 refine .zn zg (.seq (.aj (.z zm (.zn gv (.dP rfl (fun hc17=>?_) (fun hc17=>?_))))))
 ·refine .aj (.z (zbd [_,_] aZ) (.z zm (.o (.aO (vs:=[_,_]) hs rfl rfl an fun w hs=>?_))))
  refine .zn zg (.ret (rT (?_)))
  exact Fin.fZ [] [] hs fun w hs=>⟨_,results2 Tryz.results88 (cB (vs:=[_,_]) hs rfl aC an) rfl,H1,_,_,_,hle1,rfl,.fls hL hc17,hs.out⟩
 ·refine .skip (nT (.aj (.y hs (zls [_,_] aC an) (.y hs (zls [_,_] aC an) ?_))))
  obtain rfl:e=0:=by omega
  refine .o (.call Tryz.call145 rfl (sS hs ak ak hd) ?_);rintro _ w ⟨rfl,hs⟩
  refine .o (.aO (vs:=[_,_]) hs rfl rfl an fun w hs=>?_)
  refine .zn zg (.ret ?_)
  exact Fin.fZ [] [] hs fun w hs=>⟨_,results2 Tryz.results88 (cB (vs:=[_,_]) hs rfl aC an) rfl,H1,_,_,_,hle1,rfl,.ok hL,hs.out⟩
theorem jG{s:Srv}{k:Int}{a b c d:Value}{x y:Int}(hs:St H w σ)(g:SvM H s a b c d):
  Cl Tryz.prog 58 [svA s a b c d,I k,.agg #[I x,I y]] w fun u w'=>∃H1 lo hi e,HLe H H1∧u= .tuple #[.agg #[I lo,I hi],I e]∧xo s k x y lo hi e∧St H1 w' σ:=by
 obtain ⟨aw,cw,rfl⟩:=RI.shape g.wa
 refine Cl.o Tryz.func58 Tryz.ntmps58 ag3 ?_
 refine .aj (.bx hs fun b3 w hs=>?_)
 refine .bx hs fun b5 w hs=>?_
 refine .o (.alloc hs aW rfl fun b6 w hs=>?_)
 refine .zn zg (.seq (.aj (.y hs (zls [_,_,_,_,_,_,_,_] aI aB) (.o (.call wR rfl (ew (s:=s) hs g.st g.wa g.rd g.cm) ?_)))));rintro _ w ⟨H1,e,hle1,rfl,hC,hs⟩
 refine .zn zg (.aj (.z zm (.zn gv (.dP rfl (fun hc12=>?_) (fun hc12=>?_)))))
 ·refine .aj (.z (zbd [_,_] aZ) (.z zm (.o (.aO (vs:=[_,_]) hs rfl rfl an fun w hs=>?_))))
  refine .zn zg (.ret (rT (?_)))
  exact Fin.fZ [] [] hs fun w hs=>⟨_,results2 Tryz.results58 (cB (vs:=[_,_]) hs rfl aC an) rfl,H1,_,_,_,hle1,rfl,.bad hC hc12,hs.out⟩
 ·refine .skip (nT (.seq (.block (.aj ?_))))
  have hok:dq s:=hC.cz.1 ak
  have hsm:=dN hok.early.1
  refine .z zm (.z (zfa aT) (.z (zfa aU) (.y hs (zld aq) (.z (cJ ae) (.z gz (.o (.call eA rfl (bU hs) ?_)))))));rintro _ w ⟨rfl,hs⟩
  refine .z fY (.zn zg (.cond rfl (fun hc15=>?_) (fun hc15=>?_)))
  ·refine .aj (.z (zbd [_,_] aZ) (.o (.aO (vs:=[_,_]) hs rfl rfl an fun w hs=>?_)))
   refine .zn zg (.ret (rB (rT (?_))))
   exact Fin.fZ [] [] hs fun w hs=>⟨_,results2 Tryz.results58 (cB (vs:=[_,_]) hs rfl aC an) rfl,H1,_,_,_,hle1,rfl,.water hok (by simp at hc15;omega),hs.out⟩
  ·refine .aj (.y hs (zls [_,_] aC an) ?_)
   have hk:0≤k∧k≤(s.sp.wa.length:Int) - 1:=by simpa using hc15
   refine .o (.call Tryz.call118 rfl (jR hs) ?_);rintro _ w ⟨rfl,hs⟩
   refine .z fY (.zn zg (.cond rfl (fun hc25=>?_) (fun hc25=>?_)))
   ·refine .aj (.z (zbd [_,_] aZ) (.o (.aO (vs:=[_,_]) hs rfl rfl an fun w hs=>?_)))
    refine .zn zg (.ret (rB (rT (?_))))
    exact Fin.fZ [] [] hs fun w hs=>⟨_,results2 Tryz.results58 (cB (vs:=[_,_]) hs rfl aC an) rfl,H1,_,_,_,hle1,rfl,.dense hok hk (by simpa using hc25),hs.out⟩
   ·refine .skip (nB (nT (.aj (.y hs (zls [_,_,_,_,_,_,_,_] aI aB) (.z zm (.y hs (zls [_,_] aC an) ?_))))))
    have hdn:ea x y:=by simpa using hc25
    obtain ⟨j,rfl⟩:∃j:Nat,k=(j:Int):=⟨k.toNat,ak⟩
    refine .o (.call Gx rfl (dV (s:=s) hs (g.mono hle1) hok hdn) ?_);rintro _ w ⟨H2,lo,hi,e,hle2,rfl,hS,hs⟩
    refine .z zex (.z zex (.o (.aO (vs:=[_,_]) hs rfl rfl an fun w hs=>?_)))
    refine .zn zg (.ret ?_)
    exact Fin.fZ [] [] hs fun w hs=>⟨_,results2 Tryz.results58 (cB (vs:=[_,_]) hs rfl aC an) rfl,H2,_,_,_,hle1.trans hle2,rfl,.go hok hk hdn (by rw [Int.toNat_natCast];exact hS),hs.out⟩
set_option maxHeartbeats 2000000 in
theorem wg{s:Srv}{l:Lns}{r:List Lg}{m:Rng}{a b c d vt vs vlg:Value}(hs:St H w σ)(g:SvM H s a b c d)(gl:LnM H l vt vs)(gr_:RLg H vlg r):
  Cl Tryz.prog 79 [svA s a b c d,lnA l vt vs,.agg #[vlg],.agg #[I m.lo,I m.hi]] w fun u w'=>∃(H1:bM) (z:RtV) (ks:List Int) (e:Int),HLe H H1∧u= .tuple #[z.agg,I e]∧z.cs.all Value.oneCell'=true∧tn s l r m ks e∧(e=0→∃vms vmk,z=⟨s,l,a,b,c,d,vt,vs,vlg,vms,vmk⟩∧RRg H1 vms (msL m r r.length)∧RI H1 vmk ks)∧St H1 w' σ:=by
 obtain ⟨alg,clg,rfl⟩:=gr_.shape
 refine Cl.o Tryz.func79 Tryz.ntmps79 ag4 ?_
 refine .aj (.bx hs fun b4 w hs=>?_)
 refine .bx hs fun b5 w hs=>?_
 refine .bx hs fun b6 w hs=>?_
 refine .bx hs fun b7 w hs=>?_
 refine .o (.alloc hs kZ rfl fun b8 w hs=>?_)
 refine .zn zg (.seq (.aj (.y hs (zls [_,_,_,_,_,_,_,_] aI aB) (.o (.call wR rfl (ew (s:=s) hs g.st g.wa g.rd g.cm) ?_)))));rintro _ w ⟨H1,e,hle1,rfl,hC,hs⟩
 refine .zn zg (.aj (.z zm (.zn gv (.dP rfl (fun hc21=>?_) (fun hc21=>?_)))))
 ·refine .aj (.z (zbd RtV.zero.cs gq rfl aD) (.z zm (.o (.aO (vs:=RtV.zero.cs) hs rfl rfl da fun w hs=>?_))))
  refine .zn zg (.ret (rT (?_)))
  exact Fin.fZ [] [] hs fun w hs=>⟨_,results2 xt (cB (vs:=RtV.zero.cs) hs rfl nk da) rfl,H1,RtV.zero,_,_,hle1,rfl,rfl,.bad hC hc21,fun h=>(hc21 h).elim,hs.out⟩
 ·refine .skip (nT (.seq (.aj (.y hs (zls [_,_,_,_] cO bL) ?_))))
  have hok:dq s:=hC.cz.1 ak
  have hsp:=hok.early.1
  refine .o (.call Tryz.call19 rfl (iL hs (gl.tb.mono hle1) (gl.sn.mono hle1)) ?_);rintro _ w ⟨f,rfl,hL,hs⟩
  refine .zn zg (.aj (.z zm (.zn gv (.dP rfl (fun hc27=>?_) (fun hc27=>?_)))))
  ·refine .aj (.z (zbd RtV.zero.cs gq rfl aD) (.z zm ?_))
   have hl:=hL.resolve_left fun h=>hc27 h.2
   refine .o (.aO (vs:=RtV.zero.cs) hs rfl rfl da fun w hs=>?_)
   refine .zn zg (.ret (rT (?_)))
   exact Fin.fZ [] [] hs fun w hs=>⟨_,results2 xt (cB (vs:=RtV.zero.cs) hs rfl nk da) rfl,H1,RtV.zero,_,_,hle1,rfl,rfl,by rw [hl.2];exact .lines hok hl.1,fun h=>(hc27 h).elim,hs.out⟩
  ·refine .skip (nT (.seq (.aj (.y hs (zls [_] ji eF) ?_))))
   have hl:jE l:=(hL.resolve_right fun h=>by omega).1
   refine .o (.call Tryz.call21 rfl (pN hs (gr_.mono hle1)) ?_);rintro _ w ⟨q,rfl,hR,hs⟩
   refine .zn zg (.aj (.z zm (.zn gv (.dP rfl (fun hc33=>?_) (fun hc33=>?_)))))
   ·refine .aj (.z (zbd RtV.zero.cs gq rfl aD) (.z zm ?_))
    have hrt:=hR.resolve_left fun h=>hc33 h.2
    refine .o (.aO (vs:=RtV.zero.cs) hs rfl rfl da fun w hs=>?_)
    refine .zn zg (.ret (rT (?_)))
    exact Fin.fZ [] [] hs fun w hs=>⟨_,results2 xt (cB (vs:=RtV.zero.cs) hs rfl nk da) rfl,H1,RtV.zero,_,_,hle1,rfl,rfl,by rw [hrt.2];exact .route hok hl hrt.1,fun h=>(hc33 h).elim,hs.out⟩
   ·refine .skip (nT (.seq (.aj (.y hs (zls [_,_] aC an) ?_))))
    have hrt:xl r:=(hR.resolve_right fun h=>by omega).1
    have hn:=hrt.many
    refine .o (.call Tryz.call109 rfl (kz hs) ?_);rintro _ w ⟨rfl,hs⟩
    refine .zn fY (.cond rfl (fun hc38=>?_) (fun hc38=>?_))
    ·refine .aj (.z (zbd RtV.zero.cs gq rfl aD) (.o (.aO (vs:=RtV.zero.cs) hs rfl rfl da fun w hs=>?_)))
     refine .zn zg (.ret (rT (?_)))
     exact Fin.fZ [] [] hs fun w hs=>⟨_,results2 xt (cB (vs:=RtV.zero.cs) hs rfl nk da) rfl,H1,RtV.zero,_,_,hle1,rfl,rfl,.qB hok hl hrt (by simpa using hc38),fun h=>by omega,hs.out⟩
    ·refine .skip (nT (.cut (fun fs w=>∃H2 vms b13,kF fs ⟨76,[],[(13,Pt b13),(8,Pt b8),(5,Pt b5),(6,Pt b6)]⟩∧HLe H1 H2∧RRg H2 vms (msL m r r.length)∧St H2 w (.blk b13 (RtV.cs ⟨s,l,a,b,c,d,vt,vs,.slice alg r.length clg,vms,.slice none 0 0⟩):: .blk b8 RtV.zero.cs:: .blk b6 [.slice alg r.length clg]:: .blk b5 (lnC l vt vs)::σ)) ?_ ?_))
     ·refine .draw mix rfl hs fun w hs=>?_
      refine .ys 0 rfl hs [_,_,_,_,_,_,_,_] aI aB ?_;refine .ys 1 rfl hs [_,_,_,_] cO bL ?_;refine .z 2 rfl (zfa gS) ?_;refine .y 3 rfl hs km ?_;refine .ys 4 rfl hs [_] ji eF ?_;refine .ys 5 rfl hs [_,_] aC an ?_
      refine .e2 (i:=6) (j:=8) aD rfl rfl rfl rfl .none .none hs ?_ ?_
      ·refine .call Tryz.call110 rfl (nv hs (gr_.mono hle1) hrt (by simpa using hc38)) ?_;rintro vms w ⟨H2,hle2,hMs,hs⟩
       obtain ⟨ams,cms,rfl⟩:=hMs.shape
       refine .go (.zw 7 rfl (zbd (vs:=[(0,svA s a b c d),(1,lnA l vt vs),(2,.slice alg r.length clg),(3,.slice ams (msL m r r.length).length cms)]) (RtV.cs ⟨s,l,a,b,c,d,vt,vs,.slice alg r.length clg,.slice ams (msL m r r.length).length cms,.slice none 0 0⟩) gq rfl aD) (.E 8 hs ?_))
       refine .alloc hs kZ rfl ?_;intro b13 w hs
       refine .go (.E 9 hs ?_)
       refine .aO (vs:=RtV.cs ⟨s,l,a,b,c,d,vt,vs,.slice alg r.length clg,.slice ams (msL m r r.length).length cms,.slice none 0 0⟩) hs rfl rfl da ?_ (hv:=RtV.one g gl gr_ (RS.one hMs) rfl);intro w hs
       refine .go (.D hs ?_)
       exact nT ⟨H2,_,b13,aR,hle2,hMs,hs.sb⟩
      ·refine .alloc hs kZ rfl ?_;intro b13 w hs
       refine .go (.E 6 hs ?_)
       refine .call Tryz.call110 rfl (nv hs (gr_.mono hle1) hrt (by simpa using hc38)) ?_;rintro vms w ⟨H2,hle2,hMs,hs⟩
       obtain ⟨ams,cms,rfl⟩:=hMs.shape
       refine .go (.zw 7 rfl (zbd (vs:=[(0,svA s a b c d),(1,lnA l vt vs),(2,.slice alg r.length clg),(3,.slice ams (msL m r r.length).length cms)]) (RtV.cs ⟨s,l,a,b,c,d,vt,vs,.slice alg r.length clg,.slice ams (msL m r r.length).length cms,.slice none 0 0⟩) gq rfl aD) (.E 9 hs ?_))
       refine .aO (vs:=RtV.cs ⟨s,l,a,b,c,d,vt,vs,.slice alg r.length clg,.slice ams (msL m r r.length).length cms,.slice none 0 0⟩) hs rfl rfl da ?_ (hv:=RtV.one g gl gr_ (RS.one hMs) rfl);intro w hs
       refine .go (.D hs ?_)
       exact nT ⟨H2,_,b13,aR,hle2,hMs,hs.sb⟩
     ·rintro fs w ⟨H2,vms,b13,hfs,hle2,hMs,hs⟩
      refine WE.sub ?_ hfs
      clear hfs
      have hle02:=hle1.trans hle2
      have hm:fI m.lo m.hi:=by simpa using hc38
      refine .seq (.aj (.z (zfa gS) (.y hs (zld km) (.z (cJ cA) (.zn zm (.for (N:=r.length) (J:=fun k fr w=>∃H3 ks vmk en,fr=[(49,.slice alg r.length clg),(13,Pt b13),(8,Pt b8),(5,Pt b5)]∧HLe H2 H3∧ks.length=k∧(∀i<k,AB s.sp.wa l (lg0 r i) (gi ks i) 0)∧cq 1 vmk (Is ks) en∧St H3 w (en:: .blk b13 (RtV.cs ⟨s,l,a,b,c,d,vt,vs,.slice alg r.length clg,vms,vmk⟩):: .blk b8 RtV.zero.cs:: .blk b6 [.slice alg r.length clg]:: .blk b5 (lnC l vt vs)::σ)) ak ?_ ?_ ?_))))))
      ·exact .mk ⟨H2,[],_,.nul,rfl,HLe.refl _,rfl,fun i hi=>by omega,.nil 1 none,hs.nul⟩
      ·rintro k fr w hk ⟨H3,ks,vmk,en,rfl,hle3,hkl,hks,hO,hs⟩
       have hx:=qI (l:=r) hk
       have hle03:=hle02.trans hle3
       obtain ⟨ao,lo',co,rfl,hlo⟩:=hO.shape
       refine .block (.aj (.ixX (enc:=Lg.c) hs (gr_.mono hle03) rfl rfl cA cu hx cN ?_));intro b53 o53 hc53
       refine .q hs (bO (vs:=(Lg.c (lg0 r k))) rfl mv cu hc53) (.o (.alloc hs iD rfl fun b15 w hs=>?_))
       refine .o (.aO (vs:=(lg0 r k).c) hs rfl rfl cu fun w hs=>?_)
       change St _ _ (.blk b15 (lgC (lg0 r k))::_) at hs
       refine .nil (.aj (.z (zfa lB) (.z (zfa aT) (.y hs (zls [_,_,_,_,_,_] aV aJ) (.y hs (zls [_,_,_,_] cO bL) (.y hs (zls [_,_,_,_,_,_,_] mv cu) (.o (.call Tryz.call115 rfl (ug (s:=s.sp) (x:=lg0 r k) hs (g.wa.mono hle03) (gl.tb.mono hle03) (gl.sn.mono hle03) hsp hl (hrt.leg k hk).1) ?_))))))));rintro _ w ⟨H4,n,e,hle4,rfl,hLw,hs⟩
       have hle04:=hle03.trans hle4
       refine .z zm (.z zex (.z zex (.z zg (.zn zg (.seq (.aj (.z zm (.zn gv (.dP rfl (fun hc65=>?_) (fun hc65=>?_))))))))))
       ·refine .aj (.z (zbd RtV.zero.cs gq rfl aD) (.z zm (.o (.aO (vs:=RtV.zero.cs) hs rfl rfl da fun w hs=>?_))))
        refine .zn zg (.ret (rT (rB (rT (rB (rT (?_)))))))
        exact Fin.fZ [] [] hs fun w hs=>⟨_,results2 xt (cB (vs:=RtV.zero.cs) hs rfl nk da) rfl,H4,RtV.zero,_,_,hle04,rfl,rfl,.low hok hl hrt hm hk (fun j hj=>⟨_,hks j hj⟩) hLw hc65,fun h=>(hc65 h).elim,hs.out⟩
       ·refine .skip (nT (.region (.z (zfa iq) (.y hs (zld aq) (.z zm (.o (.buildSlice (cells:=Is [n]) hs cD rfl aD fun b71 w hs=>?_)))))))
        refine .o (.append (ys:=Is [n]) hs cj rfl rfl hO (.own .here rfl rfl) (iC _) (fun l h=>by simp [Is] at h;omega) ?_);intro v72 en72 w hO2 hs
        rw [←List.map_append] at hO2
        obtain ⟨a72,l72,c72,rfl,h72⟩:=hO2.shape
        refine .z (zfa iq) (.o (.store hs rfl rfl az fun w hs=>?_))
        refine .nil (nB (nT ?_))
        obtain rfl:e=0:=by omega
        exact .mk ⟨H4,ks++[n],_,_,rfl,hle3.trans hle4,by simp [hkl],fun i hi=>by
         by_cases e:i=k
         ·subst e;rw [oL,if_neg ak,if_pos ak];exact hLw
         ·rw [oL,if_pos ak];exact hks i ak,hO2,hs.sb⟩
      ·rintro fr w ⟨H3,ks,vmk,en,rfl,hle3,hkl,hks,hO,hs⟩
       obtain ⟨H4,hle4,hRk,hs⟩:=hO.dB ak hs .here
       have hle04:=hle02.trans (hle3.trans hle4)
       refine nT (.aj (.y hs (zls [_,_,_,_,_,_,_,_,_,_,_,_,_,_,_] nk da) (.o (.aO (vs:=RtV.cs ⟨s,l,a,b,c,d,vt,vs,.slice alg r.length clg,vms,vmk⟩) hs rfl rfl da ?_ (hv:=RtV.one g gl gr_ (RS.one hMs) (RS.one hRk))))));intro w hs
       refine .zn zg (.ret ?_)
       exact Fin.fZ [] [] hs fun w hs=>⟨_,results2 xt (cB (vs:=RtV.cs ⟨s,l,a,b,c,d,vt,vs,.slice alg r.length clg,vms,vmk⟩) hs rfl nk da) rfl,H4,⟨s,l,a,b,c,d,vt,vs,.slice alg r.length clg,vms,vmk⟩,_,_,hle04,rfl,RtV.one g gl gr_ (RS.one hMs) (RS.one hRk),.ok hok hl hrt hm hkl hks,fun _=>⟨_,_,rfl,hMs.mono (hle3.trans hle4),hRk⟩,hs.out⟩
structure RtM(H:bM)(s:Srv)(l:Lns)(r:List Lg)(m:Rng)(ks:List Int)(z:RtV):Prop where
 es:z.s=s
 el:z.l=l
 sv:SvM H s z.a z.b z.c z.d
 ln:LnM H l z.t z.n
 lg:RLg H z.lg r
 ms:RRg H z.ms (msL m r r.length)
 mr:RI H z.mr ks
 one:z.cs.all Value.oneCell'=true
 beg:tn s l r m ks 0
set_option maxHeartbeats 1000000 in
theorem sV{s:Srv}{l:Lns}{r:List Lg}{m:Rng}{ks:List Int}{z:RtV}(hs:St H w σ)(h:RtM H s l r m ks z):
  Cl Tryz.prog 80 [z.agg] w fun u w'=>∃H1 v as_ e,HLe H H1∧u= .tuple #[v,I e]∧RI H1 v as_∧EZ s l r m as_ e∧St H1 w' σ:=by
 obtain ⟨s',l',a,b,c,d,t,n,lg,ms,mr⟩:=z
 obtain ⟨rfl,rfl,g,gl,hr,hms,hmr,hone,hB⟩:=h
 dsimp only at g gl hr hms hmr hone
 obtain ⟨alg,clg,rfl⟩:=hr.shape
 obtain ⟨ams,cms,rfl⟩:=hms.shape
 obtain ⟨amr,cmr,rfl⟩:=RI.shape hmr
 obtain ⟨hok,hl,hrt,hm,hkl,hlow⟩:=hB.ok'
 have hn:=hrt.many
 have hml:=py m r r.length
 refine Cl.o Tryz.func80 Tryz.ntmps80 ag1 ?_
 refine .aj (.bx hs fun b1 w hs=>?_)
 refine .z zg (.zn zg (.aj (.zn zg (.seq (.aj (.z (zfa jw) (.y hs (zld km) (.z (cJ cA) (.zn zm (.for (N:=r.length) (J:=fun k fr w=>∃H1 vo as_ en,fr=[(4,vo),(11,.slice alg r.length clg),(1,Pt b1)]∧HLe H H1∧as_.length=k∧(∀i<k,∃lo hi,iS s' (gi ks i).toNat (lg0 r i).dlo (lg0 r i).dhi lo hi 0∧gi as_ i=CY (pL m r i) lo hi)∧(0<k→s'.sys.Sound)∧cq 1 vo (Is as_) en∧St H1 w (en:: .blk b1 (RtV.cs ⟨s',l',a,b,c,d,t,n,.slice alg r.length clg,.slice ams (msL m r r.length).length cms,.slice amr ks.length cmr⟩)::σ)) ak ?_ ?_ ?_))))))))))
 ·exact .mk ⟨H,_,[],.nul,rfl,HLe.refl _,rfl,fun i hi=>by omega,fun h=>by omega,.nil 1 none,hs.nul⟩
 ·rintro k fr w hk ⟨H1,vo,as_,en,rfl,hle1,hal,has,hsd,hO,hs⟩
  have hx:=qI (l:=r) hk
  have hxm:=DS m r (k:=r.length) (i:=k) ak
  have hdn:=(hrt.leg k hk).1.dense
  obtain ⟨q,hq,hqw⟩:=hB.mark hk
  obtain ⟨ao,lo',co,rfl,hlo⟩:=hO.shape
  refine .block (.aj (.z zm (.ixX (enc:=Lg.c) hs (hr.mono hle1) rfl rfl cA cu hx cN ?_)));intro b16 o16 hc16
  refine .q hs (bO (vs:=(Lg.c (lg0 r k))) rfl mv cu hc16) (.o (.alloc hs iD rfl fun b6 w hs=>?_))
  refine .z zg (.o (.aO (vs:=(lg0 r k).c) hs rfl rfl cu fun w hs=>?_))
  change St _ _ (.blk b6 (lgC (lg0 r k))::_) at hs
  refine .nil (.cut (fun fs w=>∃H2 lo hi e b7,kF fs ⟨60,[],[(8,I e),(7,Pt b7),(6,Pt b6),(5,I (k:Int)),(4,.slice ao lo' co),(1,Pt b1),(11,.slice alg r.length clg),(13,I (k:Int)),(12,I (r.length:Int))]⟩∧HLe H1 H2∧iS s' q (lg0 r k).dlo (lg0 r k).dhi lo hi e∧St H2 w (.blk b7 [I lo,I hi]:: .blk b6 (lgC (lg0 r k))::en:: .blk b1 (RtV.cs ⟨s',l',a,b,c,d,t,n,.slice alg r.length clg,.slice ams (msL m r r.length).length cms,.slice amr ks.length cmr⟩)::σ)) ?_ ?_)
  ·refine .draw mix rfl hs fun w hs=>?_
   refine .zw 0 rfl (zfa lB) ?_;refine .ys 1 rfl hs [_,_,_,_,_,_,_,_] aI aB ?_;refine .z 2 rfl (zfa iq) ?_;refine .y 3 rfl hs aq ?_;refine .z 4 rfl zm ?_
   refine .ixX (enc:=fun x=>[I x]) (i:=5) hs rfl aD .none (hmr.mono hle1) rfl rfl ae ai (bq (l:=ks) (i:=k) ak) rfl ?_;intro b24 o24 hc24;replace hc24:=bB.one hc24
   refine .y 6 rfl hs af ?_;refine .z 7 rfl (zfa kg) ?_;refine .ys 8 rfl hs [_,_] aC an ?_
   refine .e2 (i:=9) (j:=13) aD rfl rfl rfl rfl .none .none hs ?_ ?_
   ·rw [hq]
    refine .call Gx rfl (dV (s:=s') hs (g.mono hle1) hok hdn) ?_;rintro _ w ⟨H2,lo,hi,e,hle2,rfl,hS,hs⟩
    refine .go (.zw 10 rfl zm ?_);refine .z 11 rfl zex ?_;refine .z 12 rfl zex ?_
    refine .E 13 hs ?_
    refine .alloc hs aW rfl ?_;intro b7 w hs
    refine .go (.E 14 hs ?_)
    refine .aO (vs:=[_,_]) hs rfl rfl an ?_;intro w hs
    refine .go (.zw 15 rfl zg ?_);refine .D hs ?_
    exact nT ⟨H2,lo,hi,e,b7,aR,hle2,hS,hs.sb⟩
   ·refine .alloc hs aW rfl ?_;intro b7 w hs
    refine .go (.E 9 hs ?_)
    rw [hq]
    refine .call Gx rfl (dV (s:=s') hs (g.mono hle1) hok hdn) ?_;rintro _ w ⟨H2,lo,hi,e,hle2,rfl,hS,hs⟩
    refine .go (.zw 10 rfl zm ?_);refine .z 11 rfl zex ?_;refine .z 12 rfl zex ?_
    refine .E 14 hs ?_
    refine .aO (vs:=[_,_]) hs rfl rfl an ?_;intro w hs
    refine .go (.zw 15 rfl zg ?_);refine .D hs ?_
    exact nT ⟨H2,lo,hi,e,b7,aR,hle2,hS,hs.sb⟩
  ·rintro fs w ⟨H2,lo,hi,e,b7,hfs,hle2,hS,hs⟩
   refine WE.sub ?_ hfs
   clear hfs
   have hle02:=hle1.trans hle2
   refine .seq (.aj (.z zm (.zn gv (.dP rfl (fun hc32=>?_) (fun hc32=>?_)))))
   ·refine .aj (.z zm (.z zg (.zn zg (.ret (rT (rB (rT (rB (rT (Fin.iO Tryz.results80 rfl rfl ?_))))))))))
    exact ⟨H2,_,[],_,hle02,rfl,RS.nil H2 1 none 0,by rcases hS.err hok hqw with h|h;exact (hc32 h.1).elim;rw [h.1];exact .fls hB h.2.1,hs.out⟩
   ·refine .skip (nT (.aj (.zn zg (.cut (fun fs w=>∃x,kF fs ⟨60,[],[(9,I x),(4,.slice ao lo' co),(1,Pt b1),(11,.slice alg r.length clg),(13,I (k:Int)),(12,I (r.length:Int))]⟩∧x=CY (pL m r k) lo hi∧St H2 w (.blk b7 [I lo,I hi]:: .blk b6 (lgC (lg0 r k))::en:: .blk b1 (RtV.cs ⟨s',l',a,b,c,d,t,n,.slice alg r.length clg,.slice ams (msL m r r.length).length cms,.slice amr ks.length cmr⟩)::σ)) ?_ ?_))))
    ·refine .block (.seq (.draw mix rfl hs fun w hs=>?_))
     refine .zw 0 rfl (zfa lA) ?_;refine .y 1 rfl hs Tryz.isAgg80 ?_;refine .z 2 rfl zm ?_
     refine .ixX (enc:=Rng.c) (i:=3) hs rfl aD .none (RS.mono hms hle02) rfl rfl ck an hxm rfl ?_;intro b38 o38 hc38
     refine .zw 4 rfl (zfa aN) (.r (i:=5) hs rfl aD .none (aM rfl af (hc38.get 1 rfl)) ?_)
     refine .zw 6 rfl (zfa aQ) ?_;refine .y 7 rfl hs af ?_;refine .z 8 rfl pc ?_;refine .z 9 rfl zg ?_;refine .D hs ?_
     refine (.bw rfl (fun hc34=>?_) (fun hc34=>?_))
     ·refine .region (.zn zg (nB (nT ?_)))
      exact ⟨_,aR,by unfold CY;simp [*],hs⟩
     ·refine .seq (.draw mix rfl hs fun w hs=>?_)
      refine .zw 0 rfl (zfa lA) ?_;refine .y 1 rfl hs Tryz.isAgg80 ?_;refine .z 2 rfl zm ?_
      refine .ixX (enc:=Rng.c) (i:=3) hs rfl aD .none (RS.mono hms hle02) rfl rfl ck an hxm rfl ?_;intro b48 o48 hc48
      refine .zw 4 rfl (zfa aQ) (.r (i:=5) hs rfl aD .none (aM rfl af (hc48.get 0 rfl)) ?_)
      refine .zw 6 rfl (zfa aN) ?_;refine .y 7 rfl hs af ?_;refine .z 8 rfl kQ ?_;refine .z 9 rfl zg ?_;refine .D hs ?_
      refine (.bw rfl (fun hc44=>?_) (fun hc44=>?_))
      ·refine .region (.zn zg (nB (nT ?_)))
       exact ⟨_,aR,by unfold CY;simp [*],hs⟩
      ·refine .skip (nB (nT ?_))
       exact ⟨_,aR,by unfold CY;simp [*],hs⟩
    ·rintro fs w ⟨x,hfs,hx9,hs⟩
     refine WE.sub ?_ hfs
     clear hfs
     refine .region (.z zm (.z zm (.o (.buildSlice (cells:=Is [x]) hs cD rfl aD fun b56 w hs=>?_))))
     refine .o (.append (ys:=Is [x]) hs cj rfl rfl hO (.own .here rfl rfl) (iC _) (fun l h=>by simp [Is] at h;omega) ?_);intro v57 en57 w hO2 hs
     rw [←List.map_append] at hO2
     refine .zn zg (nB (nT ?_))
     obtain rfl:e=0:=by omega
     exact .mk ⟨H2,_,as_++[x],_,rfl,hle02,by simp [hal],fun i hi=>by
      by_cases e:i=k
      ·subst e;exact ⟨_,_,by rw [hq,Int.toNat_natCast];exact hS,by rw [oL,if_neg ak,if_pos ak];exact hx9⟩
      ·rw [oL,if_pos ak];exact has i ak,fun _=>(hS.err hok hqw).elim (fun h=>h.2) (fun h=>by omega),hO2,hs.sb⟩
 ·rintro fr w ⟨H1,vo,as_,en,rfl,hle1,hal,has,hsd,hO,hs⟩
  obtain ⟨H4,hle4,hRk,hs⟩:=hO.dB ak hs .here
  refine nT (.aj (.z zm (.z zg (.zn zg (.ret (Fin.iO Tryz.results80 rfl rfl ?_))))))
  exact ⟨H4,_,_,_,hle1.trans hle4,rfl,hRk,.ok hB (hsd ak) hal has,hs.out⟩
theorem oE{s:Srv}{l:Lns}{r:List Lg}{m:Rng}{a b c d vt vs vlg:Value}(hs:St H w σ)(g:SvM H s a b c d)(gl:LnM H l vt vs)(gr_:RLg H vlg r):
  Cl Tryz.prog 79 [svA s a b c d,lnA l vt vs,.agg #[vlg],.agg #[I m.lo,I m.hi]] w fun u w'=>∃(H1:bM) (z:RtV) (ks:List Int) (e:Int),HLe H H1∧u= .tuple #[z.agg,I e]∧z.cs.all Value.oneCell'=true∧tn s l r m ks e∧(e=0→RtM H1 s l r m ks z)∧St H1 w' σ:=by
 refine (wg hs g gl gr_).mono ?_
 rintro u w' ⟨H1,z,ks,e,hle,hu,ho,hB,h0,hs⟩
 exact ⟨H1,z,ks,e,hle,hu,ho,hB,fun he=>by
  obtain ⟨vms,vmk,rfl,h1,h2⟩:=h0 he
  subst he
  exact ⟨rfl,rfl,g.mono hle,gl.mono hle,gr_.mono hle,h1,h2,ho,hB⟩,hs⟩
theorem sW{s:Srv}{l:Lns}{r:List Lg}{m:Rng}{a b c d vt vs vlg:Value}(hs:St H w σ)(g:SvM H s a b c d)(gl:LnM H l vt vs)(gr_:RLg H vlg r):
  Cl Tryz.prog 24 [svA s a b c d,lnA l vt vs,.agg #[vlg],.agg #[I m.lo,I m.hi]] w fun u w'=>∃H1 v as_ e,HLe H H1∧u= .tuple #[v,I e]∧RI H1 v as_∧EZ s l r m as_ e∧St H1 w' σ:=by
 refine Cl.o Tryz.func24 Tryz.ntmps24 ag4 ?_
 refine .aj (.bx hs fun b4 w hs=>?_)
 refine .bx hs fun b5 w hs=>?_
 refine .bx hs fun b6 w hs=>?_
 refine .bx hs fun b7 w hs=>?_
 refine .z zg (.zn zg (.aj (.y hs (zls [_,_,_,_,_,_,_,_] aI aB) (.y hs (zls [_,_,_,_] cO bL) (.y hs (zls [_] ji eF) (.y hs (zls [_,_] aC an) (.o (.call Tryz.call79 rfl (oE (s:=s) (l:=l) (m:=m) hs g gl gr_) ?_))))))));rintro _ w ⟨H1,z,ks,e,hle1,rfl,ho,hB,h0,hs⟩
 refine .z zm (.z zex (.z zex (.o (.alloc hs kZ rfl fun b10 w hs=>?_))))
 refine .o (.aO (vs:=z.cs) hs rfl rfl da ?_ (hv:=ho));intro w hs
 refine .zn zg (.seq (.aj (.z zm (.zn gv (.dP rfl (fun hc21=>?_) (fun hc21=>?_))))))
 ·refine .aj (.z zm (.z zg (.zn zg (.ret (rT (Fin.iO Tryz.results24 rfl rfl ?_))))))
  exact ⟨H1,_,[],_,hle1,rfl,RS.nil H1 1 none 0,.bad hB hc21,hs.out⟩
 ·refine .skip (nT (.aj (.y hs (zls [_,_,_,_,_,_,_,_,_,_,_,_,_,_,_] nk da) ?_)))
  obtain rfl:e=0:=by omega
  refine .o (.call Tryz.call80 rfl (sV hs (h0 rfl)) ?_);rintro _ w ⟨H2,v,as_,e,hle2,rfl,hR,hA,hs⟩
  refine .z zex (.z zex (.z zg (.zn zg (.ret (Fin.iO Tryz.results24 rfl rfl ?_)))))
  exact ⟨H2,_,_,_,hle1.trans hle2,rfl,hR,hA,hs.out⟩
theorem uh{v:Value}{as_:List Int}(hs:St H w σ)(hr:RI H v as_):Cl Tryz.prog 86 [v] w fun u w'=>u=I (A3 as_)∧St H w' σ:=by
 obtain ⟨a,c,rfl⟩:=RI.shape hr
 have hl:=(RI.len hr).2.2
 refine Cl.o Tryz.func86 Tryz.ntmps86 ag1 ?_
 refine .aj (.zn zg (.aj (.zn zg (.seq (.aj (.z zm (.z (cJ ae) (.zn zm (.for (N:=as_.length) (J:=fun k fr w=>fr=[(3,I (if (2:Int)∈as_.take k then 2 else 1)),(6,.slice a as_.length c)]∧(∀i<k,gi as_ i≠0)∧St H w σ) ak ?_ ?_ ?_)))))))))
 ·exact .mk ⟨rfl,fun i hi=>by omega,hs⟩
 ·rintro k fr w hk ⟨rfl,hno,hs⟩
  have ht:=dA (bq hk)
  refine .block (.aj (.ixY hs hr rfl rfl ae ai (bq (l:=as_) (i:=k) ak) cN ?_));intro b10 o10 hc10
  refine .q hs (aM rfl af hc10) (.zn zg (.aj (.zn zm (.block (.aj (.z gw (.zn zg (.bw rfl (fun hc13=>?_) (fun hc13=>?_)))))))))
  ·refine .aj (.zn zg (.ret (rB (rB (rT (rB (rT (Fin.bu Tryz.results86 rfl ?_))))))))
   exact ⟨by unfold A3;rw [if_pos (by rw [←hc13];exact List.mem_of_getElem? (bq hk))],hs⟩
  ·refine .aj (.z gw (.zn zg (.bw rfl (fun hc15=>?_) (fun hc15=>?_))))
   ·refine .region (.zn zg (nB (nB (nT ?_))))
    exact .mk ⟨by rw [ht,if_pos (List.mem_append.2 (.inr (by rw [hc15];exact .head _)))],fun i hi=>by
     by_cases e:i=k
     ·subst e;exact hc13
     ·exact hno i ak,hs⟩
   ·refine .skip (nB (nB (nT ?_)))
    have e2:(if (2:Int)∈as_.take (k+1) then (2:Int) else 1)=if (2:Int)∈as_.take k then 2 else 1:=by
     have e:(2:Int)∈as_.take (k+1)↔(2:Int)∈as_.take k:=by
      rw [ht,List.mem_append]
      exact ⟨fun h=>h.elim id fun h=>by rw [List.mem_singleton] at h;exact (hc15 h.symm).elim,.inl⟩
     simp only [e]
    exact .mk ⟨by rw [e2],fun i hi=>by
     by_cases e:i=k
     ·subst e;exact hc13
     ·exact hno i ak,hs⟩
 ·rintro fr w ⟨rfl,hno,hs⟩
  rw [List.take_length]
  refine nT (.aj (.z zm (.zn zg (.ret (Fin.bu Tryz.results86 rfl ?_)))))
  have h0:¬(0:Int)∈as_:=fun h=>by
   obtain ⟨i,hi⟩:=List.getElem?_of_mem h
   have hlt:=(List.getElem?_eq_some_iff.1 hi).1
   rw [bq hlt] at hi
   exact hno i hlt (Option.some.inj hi)
  exact ⟨by unfold A3;rw [if_neg h0],hs⟩
theorem oF{s:Srv}{l:Lns}{r:List Lg}{m:Rng}{a b c d vt vs vlg:Value}(hs:St H w σ)(g:SvM H s a b c d)(gl:LnM H l vt vs)(gr_:RLg H vlg r):
  Cl Tryz.prog 26 [svA s a b c d,lnA l vt vs,.agg #[vlg],.agg #[I m.lo,I m.hi]] w fun u w'=>∃H1 n e,HLe H H1∧u= .tuple #[I n,I e]∧HQ s l r m n e∧St H1 w' σ:=by
 refine Cl.o Tryz.func26 Tryz.ntmps26 ag4 ?_
 refine .aj (.bx hs fun b4 w hs=>?_)
 refine .bx hs fun b5 w hs=>?_
 refine .bx hs fun b6 w hs=>?_
 refine .bx hs fun b7 w hs=>?_
 refine .z zg (.zn zg (.aj (.y hs (zls [_,_,_,_,_,_,_,_] aI aB) (.y hs (zls [_,_,_,_] cO bL) (.y hs (zls [_] ji eF) (.y hs (zls [_,_] aC an) (.o (.call Tryz.call24 rfl (sW (s:=s) (l:=l) (m:=m) hs g gl gr_) ?_))))))));rintro _ w ⟨H1,v,as_,e,hle1,rfl,hR,hA,hs⟩
 refine .z zm (.z zex (.z zex (.z zg (.zn zg (.seq (.aj (.z zm (.zn gv (.dP rfl (fun hc21=>?_) (fun hc21=>?_))))))))))
 ·refine .aj (.z zm (.z zg (.zn zg (.ret (rT (Fin.iO Tryz.results26 rfl rfl ?_))))))
  exact ⟨H1,_,_,hle1,rfl,.bad hA hc21,hs.out⟩
 ·refine .skip (nT (.aj (.z zm ?_)))
  obtain rfl:e=0:=by omega
  refine .o (.call Tryz.call86 rfl (uh hs hR) ?_);rintro _ w ⟨rfl,hs⟩
  refine .z zg (.zn zg (.ret (Fin.iO Tryz.results26 rfl rfl ?_)))
  exact ⟨H1,_,_,hle1,rfl,.ok hA,hs.out⟩
set_option maxHeartbeats 1000000 in
theorem xd{s:Srv}{l:Lns}{r:List Lg}{a b c d vt vs vlg:Value}(hs:St H w σ)(g:SvM H s a b c d)(gl:LnM H l vt vs)(gr_:RLg H vlg r):
  Cl Tryz.prog 28 [svA s a b c d,lnA l vt vs,.agg #[vlg]] w fun u w'=>∃H1 n e,HLe H H1∧u= .tuple #[I n,I e]∧zb s l r n e∧St H1 w' σ:=by
 refine Cl.o Tryz.func28 Tryz.ntmps28 ag3 ?_
 refine .aj (.bx hs fun b3 w hs=>?_)
 refine .bx hs fun b4 w hs=>?_
 refine .bx hs fun b5 w hs=>?_
 refine .z zg (.zn zg (.aj (.y hs (zls [_,_,_,_,_,_,_,_] aI aB) (.y hs (zls [_,_,_,_] cO bL) (.y hs (zls [_] ji eF) (.z (zbd [I 0,I 0] aZ) (.o (.call Tryz.call79 rfl (oE (s:=s) (l:=l) (m:=⟨0,0⟩) hs g gl gr_) ?_))))))));rintro _ w ⟨H1,z,ks,e,hle1,rfl,ho,hB,h0,hs⟩
 refine .z zm (.z zex (.z zex (.o (.alloc hs kZ rfl fun b8 w hs=>?_))))
 refine .o (.aO (vs:=z.cs) hs rfl rfl da ?_ (hv:=ho));intro w hs
 refine .zn zg (.seq (.aj (.z zm (.zn gv (.dP rfl (fun hc25=>?_) (fun hc25=>?_))))))
 ·refine .aj (.z zm (.z zg (.zn zg (.ret (rT (Fin.iO Tryz.results28 rfl rfl ?_))))))
  exact ⟨H1,_,_,hle1,rfl,.bad hB hc25,hs.out⟩
 ·refine .skip (nT (.aj (.z zg (.zn zg (.seq (.aj ?_))))))
  obtain rfl:e=0:=by omega
  obtain ⟨s',l',a',b',c',d',t',n',lg',ms',mr'⟩:=z
  obtain ⟨rfl,rfl,-,-,hr',hms,hmr,hone,-⟩:=h0 rfl
  dsimp only at hr' hms hmr
  obtain ⟨alg,clg,rfl⟩:=hr'.shape
  obtain ⟨amr,cmr,rfl⟩:=RI.shape hmr
  obtain ⟨hok,hl,hrt,hm,hkl,hlow⟩:=hB.ok'
  have hn:=hrt.many
  refine .z (zfa jw) (.y hs (zld km) (.z (cJ cA) (.zn zm (.for (N:=r.length) (J:=fun k fr w=>∃H2 dd best,fr=[(10,I best),(11,I (a6 (fun i=>(lg0 r i).blo) k)),(28,.slice alg r.length clg),(8,Pt b8),(3,Pt b3)]∧HLe H1 H2∧(∀i<k,∃hi,iS s' (gi ks i).toNat (lg0 r i).dlo (lg0 r i).dhi (dd i) hi 0)∧Ia dd (fun i=>(lg0 r i).blo) k best∧((-300000000≤best∧best≤1000000000000)∧0≤a6 (fun i=>(lg0 r i).blo) k∧a6 (fun i=>(lg0 r i).blo) k≤k*1000000000000)∧(0<k→s'.sys.Sound)∧St H2 w (.blk b8 (RtV.cs ⟨s',l',a',b',c',d',t',n',.slice alg r.length clg,ms',.slice amr ks.length cmr⟩):: .blk b3 (svC s' a b c d)::σ)) ak ?_ ?_ ?_))))
  ·exact .mk ⟨H1,fun _=>0,1000000000000,rfl,HLe.refl _,fun i hi=>by omega,.inl ⟨fun i hi=>by omega,rfl⟩,by simp [a6],fun h=>by omega,hs.sb⟩
  ·rintro k fr w hk ⟨H2,dd,best,rfl,hle2,hds,hSI,hbd,hsd,hs⟩
   have hx:=qI (l:=r) hk
   have hdn:=(hrt.leg k hk).1.dense
   have hbn:=(hrt.leg k hk).1.burn
   unfold fI at hbn
   obtain ⟨q,hq,hqw⟩:=hB.mark hk
   have hsS:a6 (fun i=>(lg0 r i).blo) (k+1)=a6 (fun i=>(lg0 r i).blo) k+(lg0 r k).blo:=rfl
   generalize hSe:a6 (fun i=>(lg0 r i).blo) k=S at*
   refine .block (.aj (.z zm (.ixX (enc:=Lg.c) hs (hr'.mono hle2) rfl rfl cA cu hx cN ?_)));intro b33 o33 hc33
   refine .q hs (bO (vs:=(Lg.c (lg0 r k))) rfl mv cu hc33) (.o (.alloc hs iD rfl fun b13 w hs=>?_))
   refine .z zg (.o (.aO (vs:=(lg0 r k).c) hs rfl rfl cu fun w hs=>?_))
   change St _ _ (.blk b13 (lgC (lg0 r k))::_) at hs
   refine .nil (.cut (fun fs w=>∃H3 lo hi e b14,kF fs ⟨68,[],[(15,I e),(14,Pt b14),(13,Pt b13),(10,I best),(11,I S),(28,.slice alg r.length clg),(8,Pt b8),(3,Pt b3),(30,I (k:Int)),(29,I (r.length:Int))]⟩∧HLe H2 H3∧iS s' q (lg0 r k).dlo (lg0 r k).dhi lo hi e∧St H3 w (.blk b14 [I lo,I hi]:: .blk b13 (lgC (lg0 r k)):: .blk b8 (RtV.cs ⟨s',l',a',b',c',d',t',n',.slice alg r.length clg,ms',.slice amr ks.length cmr⟩):: .blk b3 (svC s' a b c d)::σ)) ?_ ?_)
   ·refine .draw mix rfl hs fun w hs=>?_
    refine .ys 0 rfl hs [_,_,_,_,_,_,_,_] aI aB ?_;refine .z 1 rfl (zfa iq) ?_;refine .y 2 rfl hs aq ?_;refine .z 3 rfl zm ?_
    refine .ixX (enc:=fun x=>[I x]) (i:=4) hs rfl aD .none (RS.mono hmr hle2) rfl rfl ae ai (bq (l:=ks) (i:=k) ak) rfl ?_;intro b40 o40 hc40;replace hc40:=bB.one hc40
    refine .y 5 rfl hs af ?_;refine .z 6 rfl (zfa kg) ?_;refine .ys 7 rfl hs [_,_] aC an ?_
    refine .e2 (i:=8) (j:=12) aD rfl rfl rfl rfl .none .none hs ?_ ?_
    ·rw [hq]
     refine .call Gx rfl (dV (s:=s') hs (g.mono (hle1.trans hle2)) hok hdn) ?_;rintro _ w ⟨H3,lo,hi,e,hle3,rfl,hS,hs⟩
     refine .go (.zw 9 rfl zm ?_);refine .z 10 rfl zex ?_;refine .z 11 rfl zex ?_
     refine .E 12 hs ?_
     refine .alloc hs aW rfl ?_;intro b14 w hs
     refine .go (.E 13 hs ?_)
     refine .aO (vs:=[_,_]) hs rfl rfl an ?_;intro w hs
     refine .go (.zw 14 rfl zg ?_);refine .D hs ?_
     exact nT ⟨H3,lo,hi,e,b14,aR,hle3,hS,hs.sb⟩
    ·refine .alloc hs aW rfl ?_;intro b14 w hs
     refine .go (.E 8 hs ?_)
     rw [hq]
     refine .call Gx rfl (dV (s:=s') hs (g.mono (hle1.trans hle2)) hok hdn) ?_;rintro _ w ⟨H3,lo,hi,e,hle3,rfl,hS,hs⟩
     refine .go (.zw 9 rfl zm ?_);refine .z 10 rfl zex ?_;refine .z 11 rfl zex ?_
     refine .E 13 hs ?_
     refine .aO (vs:=[_,_]) hs rfl rfl an ?_;intro w hs
     refine .go (.zw 14 rfl zg ?_);refine .D hs ?_
     exact nT ⟨H3,lo,hi,e,b14,aR,hle3,hS,hs.sb⟩
   ·rintro fs w ⟨H3,lo,hi,e,b14,hfs,hle3,hS,hs⟩
    refine WE.sub ?_ hfs
    clear hfs
    have hle03:=hle1.trans (hle2.trans hle3)
    have hSb:=hS.bd hdn
    refine .seq (.aj (.z zm (.zn gv (.dP rfl (fun hc48=>?_) (fun hc48=>?_)))))
    ·refine .aj (.z zm (.z zg (.zn zg (.ret (rT (rB (rT (rB (rT (Fin.iO Tryz.results28 rfl rfl ?_))))))))))
     exact ⟨H3,_,_,hle03,rfl,by rcases hS.err hok hqw with h|h;exact (hc48 h.1).elim;rw [h.1];exact .fls hB h.2.1,hs.out⟩
    ·refine .skip (nT (.seq (.aj (.z (zfa aQ) ?_))))
     obtain rfl:e=0:=by omega
     have hnx:∀i<k+1,∃hi,iS s' (gi ks i).toNat (lg0 r i).dlo (lg0 r i).dhi (gZ dd k lo i) hi 0:=fun i hi=>by
      by_cases e:i=k
      ·subst e;rw [mh,hq,Int.toNat_natCast];exact ⟨_,hS⟩
      ·rw [mg _ _ ak];exact hds i ak
     have hsd':s'.sys.Sound:=(hS.err hok hqw).elim (fun h=>h.2) (fun h=>by omega)
     refine .y hs (zld af) (.zn fi (.bw rfl (fun hc52=>?_) (fun hc52=>?_)))
     ·refine .region (.zn zg (nT (.aj (.z zm (.z (zfa aQ) (.y hs (zld af) (.z zm (.z cn (.z AI (.zn zg (.region (.z zm (.z (zfa kf) (.z (zfa aQ) (.y hs (zld af) (.z cn (.zn zg (nB (nT ?_)))))))))))))))))))
      exact .mk ⟨H3,gZ dd k lo,min (-1) (lo+S),by rw [hsS],hle2.trans hle3,hnx,.neg hc52,ak,fun _=>hsd',hs.sb⟩
     ·refine .skip (nT (.aj (.z zm (.z (zfa aQ) (.y hs (zld af) (.z zm (.z cn (.z AI (.zn zg (.region (.z zm (.z (zfa kf) (.z (zfa aQ) (.y hs (zld af) (.z cn (.zn zg (nB (nT ?_))))))))))))))))))
      exact .mk ⟨H3,gZ dd k lo,min best (lo+S),by rw [hsS],hle2.trans hle3,hnx,by rw [←hSe];exact hSI.pos ak,ak,fun _=>hsd',hs.sb⟩
  ·rintro fr w ⟨H2,dd,best,rfl,hle2,hds,hSI,hbd,hsd,hs⟩
   refine nT (.seq (.aj (.z zm (.zn fi (.bw rfl (fun hc66=>?_) (fun hc66=>?_))))))
   ·refine .aj (.z zg (.zn zg (.ret (rT (Fin.iO Tryz.results28 rfl rfl ?_)))))
    rcases hSI with ⟨h1,h2⟩|⟨⟨i,h1,h3⟩,h2⟩
    ·exfalso
     have key:∀n,n≤r.length→0≤vq dd (fun i=>(lg0 r i).blo) n:=fun n=>by
      induction n with
      |zero=>intro _;simp [vq]
      |succ n ih=>
       intro hn
       have:=ih ak
       have:=h1 n ak
       have:0≤a6 (fun i=>(lg0 r i).blo) n:=cM fun i hi=>(hrt.leg i ak).1.burn.1
       simp only [vq];omega
     have:=key _ (Nat.le_refl _)
     omega
    ·obtain ⟨hi,hS⟩:=hds i h1
     exact ⟨H2,_,_,hle1.trans hle2,rfl,.none hB (hsd ak) h1 hS h3,hs.out⟩
   ·refine .skip (nT (.aj (.z zm (.z zg (.zn zg (.ret (Fin.iO Tryz.results28 rfl rfl ?_)))))))
    rcases hSI with ⟨h1,h2⟩|⟨_,h2⟩
    ·rw [h2]
     exact ⟨H2,_,_,hle1.trans hle2,rfl,.ok hB (hsd ak) fun i hi=>⟨hds i hi,h1 i hi⟩,hs.out⟩
    ·omega
set_option maxHeartbeats 1000000 in
theorem pM{s:Srv}{l:Lns}{r:List Lg}{m:Rng}{x:Wit}{a b c d vt vs vlg vh:Value}(hs:St H w σ)(g:SvM H s a b c d)(gl:LnM H l vt vs)(gr_:RLg H vlg r)(gh:RT H vh x.rows):
  Cl Tryz.prog 32 [svA s a b c d,lnA l vt vs,.agg #[vlg],.agg #[I m.lo,I m.hi],.agg #[I x.leg,I x.dense,I x.qB,vh]] w fun u w'=>∃H1 e,HLe H H1∧u=I e∧GS s l r m x e∧St H1 w' σ:=by
 refine Cl.o Tryz.func32 Tryz.ntmps32 ag5 ?_
 refine .aj (.bx hs fun b5 w hs=>?_)
 refine .bx hs fun b6 w hs=>?_
 refine .bx hs fun b7 w hs=>?_
 refine .bx hs fun b8 w hs=>?_
 refine .bx hs fun b9 w hs=>?_
 refine .zn zg (.aj (.y hs (zls [_,_,_,_,_,_,_,_] aI aB) (.y hs (zls [_,_,_,_] cO bL) (.y hs (zls [_] ji eF) (.y hs (zls [_,_] aC an) (.o (.call Tryz.call79 rfl (oE (s:=s) (l:=l) (m:=m) hs g gl gr_) ?_)))))));rintro _ w ⟨H1,z,ks,e,hle1,rfl,ho,hB,h0,hs⟩
 refine .z zm (.z zex (.z zex (.o (.alloc hs kZ rfl fun b11 w hs=>?_))))
 refine .o (.aO (vs:=z.cs) hs rfl rfl da ?_ (hv:=ho));intro w hs
 refine .zn zg (.seq (.aj (.z zm (.zn gv (.dP rfl (fun hc26=>?_) (fun hc26=>?_))))))
 ·refine .aj (.z zm (.zn zg (.ret (rT (Fin.bu p4 rfl ?_)))))
  exact ⟨H1,_,hle1,rfl,.bad hB hc26,hs.out⟩
 ·refine .skip (nT (.seq (.aj ?_)))
  obtain rfl:e=0:=by omega
  obtain ⟨s',l',a',b',c',d',t',n',lg',ms',mr'⟩:=z
  obtain ⟨rfl,rfl,g',-,hr',hms,hmr,hone,-⟩:=h0 rfl
  dsimp only at g' hr' hms hmr
  obtain ⟨alg,clg,rfl⟩:=hr'.shape
  obtain ⟨ams,cms,rfl⟩:=hms.shape
  obtain ⟨amr,cmr,rfl⟩:=RI.shape hmr
  obtain ⟨hok,hl,hrt,hm,hkl,hlow⟩:=hB.ok'
  have hn:=hrt.many
  have hml:=py m r r.length
  replace gh:=gh.mono hle1
  refine .z (zfa iX) (.y hs (zld af) (.z (zfa jw) (.y hs (zld km) (.z (cJ cA) (.z gz (.o (.call eA rfl (bU hs) ?_)))))));rintro _ w ⟨rfl,hs⟩
  refine .z fY (.z zm (.bif (t':=36) rfl (fun hb36=>?_) (fun hb36=>?_)))
  ·refine .Fs 5 8 false (.zn zpT (.cT (.aj (.zn zg (.ret (rT (Fin.bu p4 rfl ?_)))))))
   exact ⟨H1,_,hle1,rfl,.no hB (fun h=>by have:=h.leg;simp_all),hs.out⟩
  ·refine .T (.y hs (zls [_,_,_,_,_,_,_,_] aI aB) (.T (.z (zfa nA) (.T (.y hs (zls [_] p5 gH) (.T (.o (.call Tryz.call65 rfl (nR (s:=s') (rows:=x.rows) hs (g.mono hle1).st (g.mono hle1).wa (g.mono hle1).rd (g.mono hle1).cm gh) ?_))))))));rintro _ w ⟨H2,e,hle2,rfl,hCh,hs⟩
   have hle02:=hle1.trans hle2
   refine .T (.z gv (.zn zpF (.dP rfl (fun hc42=>?_) (fun hc42=>?_))))
   ·refine .aj (.zn zg (.ret (rT (Fin.bu p4 rfl ?_))))
    exact ⟨H2,_,hle02,rfl,.no hB (fun h=>hc42 (hCh.uniq h.hull)),hs.out⟩
   ·refine .skip (nT (.cut (fun fs w=>∃b13 b14,kF fs ⟨101,[],[(14,Pt b14),(13,Pt b13),(11,Pt b11),(9,Pt b9)]⟩∧St H2 w (.blk b14 (pL m r x.leg.toNat).c:: .blk b13 (lg0 r x.leg.toNat).c:: .blk b11 (RtV.cs ⟨s',l',a',b',c',d',t',n',.slice alg r.length clg,.slice ams (msL m r r.length).length cms,.slice amr ks.length cmr⟩):: .blk b9 [I x.leg,I x.dense,I x.qB,vh]::σ)) ?_ ?_))
    ·refine .draw mix rfl hs fun w hs=>?_
     have hleg:0≤x.leg∧x.leg≤(r.length:Int) - 1:=by simpa using hb36
     obtain rfl:e=0:=by omega
     have hlt:x.leg.toNat<r.length:=by omega
     have hxl:=qI (l:=r) hlt
     have hxm:=DS m r (k:=r.length) (i:=x.leg.toNat) ak
     refine .zw 0 rfl (zfa jw) ?_;refine .y 1 rfl hs km ?_;refine .z 2 rfl (zfa iX) ?_;refine .y 3 rfl hs af ?_
     refine .ixX (enc:=Lg.c) (i:=4) hs rfl aD .none (RS.mono hr' hle2) rfl rfl cA cu hxl ak ?_;intro b47 o47 hc47
     refine .r (i:=5) hs rfl aD .none (bO (vs:=(lg0 r x.leg.toNat).c) rfl mv cu hc47) ?_
     refine .zw 6 rfl (zfa lA) ?_;refine .y 7 rfl hs Tryz.isAgg80 ?_;refine .z 8 rfl (zfa iX) ?_;refine .y 9 rfl hs af ?_
     refine .ixX (enc:=Rng.c) (i:=10) hs rfl aD .none (RS.mono hms hle2) rfl rfl ck an hxm ak ?_;intro b53 o53 hc53
     refine .r (i:=11) hs rfl aD .none (bO (vs:=(pL m r x.leg.toNat).c) rfl aC an hc53) ?_
     refine .e2 (i:=12) (j:=13) aD rfl rfl rfl rfl .none .none hs ?_ ?_
     ·refine .alloc hs iD rfl ?_;intro b13 w hs
      refine .go (.E 13 hs ?_)
      refine .alloc hs aW rfl ?_;intro b14 w hs
      refine .go (.E 14 hs ?_)
      refine .aO (vs:=(lg0 r x.leg.toNat).c) hs rfl rfl cu ?_;intro w hs
      refine .go (.E 15 hs ?_)
      refine .aO (vs:=(pL m r x.leg.toNat).c) hs rfl rfl an ?_;intro w hs
      refine .go (.D hs ?_)
      exact nT ⟨b13,b14,aR,hs.sb⟩
     ·refine .alloc hs aW rfl ?_;intro b14 w hs
      refine .go (.E 12 hs ?_)
      refine .alloc hs iD rfl ?_;intro b13 w hs
      refine .go (.E 14 hs ?_)
      refine .aO (vs:=(lg0 r x.leg.toNat).c) hs rfl rfl cu ?_;intro w hs
      refine .go (.E 15 hs ?_)
      refine .aO (vs:=(pL m r x.leg.toNat).c) hs rfl rfl an ?_;intro w hs
      refine .go (.D hs ?_)
      exact nT ⟨b13,b14,aR,hs.sb⟩
    ·rintro fs w ⟨b13,b14,hfs,hs⟩
     refine WE.sub ?_ hfs
     clear hfs
     have hleg:0≤x.leg∧x.leg≤(r.length:Int) - 1:=by simpa using hb36
     obtain rfl:e=0:=by omega
     have hlt:x.leg.toNat<r.length:=by omega
     obtain ⟨q,hq,hqw⟩:=hB.mark hlt
     have hdn:=(hrt.leg _ hlt).1.dense
     unfold ea at hdn
     change St _ _ (.blk b14 [I (pL m r x.leg.toNat).lo,I (pL m r x.leg.toNat).hi]:: .blk b13 (lgC (lg0 r x.leg.toNat))::_) at hs
     refine .seq (.aj (.z (zfa nD) (.y hs (zld af) (.z (zfa kg) (.z (zfa aQ) (.y hs (zld af) (.z (zfa kg) (.z (zfa aN) (.y hs (zld af) (.o (.call eA rfl (bU hs) ?_)))))))))));rintro _ w ⟨rfl,hs⟩
     refine .z fY (.z zm (.bif (t':=65) rfl (fun hb65=>?_) (fun hb65=>?_)))
     ·refine .Fs 8 10 false (.zn zpT (.cT (.aj (.zn zg (.ret (rT (Fin.bu p4 rfl ?_)))))))
      exact ⟨H2,_,hle02,rfl,.no hB (fun h=>by have:=h.dense;simp_all),hs.out⟩
     ·refine .T ?_
      refine .z (zfa nC) (.T (.y hs (zld af) (.T (.z (zfa aQ) (.T (.y hs (zld af) (.T (.z (zfa aN) (.T (.y hs (zld af) (.T (.o (.call eA rfl (bU hs) ?_)))))))))))));rintro _ w ⟨rfl,hs⟩
      refine .T (.z fY (.zn zpF (.cond rfl (fun hc74=>?_) (fun hc74=>?_))))
      ·refine .aj (.zn zg (.ret (rT (Fin.bu p4 rfl ?_))))
       exact ⟨H2,_,hle02,rfl,.no hB (fun h=>by have:=h.qB;simp_all),hs.out⟩
      ·refine .skip (nT (.aj (.zn zg (.cut (fun fs w=>∃n H3,kF fs ⟨101,[],[(15,I n),(9,Pt b9)]⟩∧HLe H H3∧HlR s' x.rows q n∧(-7000000000≤n∧n≤7000000000)∧St H3 w (.blk b9 [I x.leg,I x.dense,I x.qB,vh]::σ)) ?_ ?_))))
       ·refine .aj (.z (zfa iq) (.y hs (zld aq) (.z (zfa iX) (.y hs (zld af) (.ixX (enc:=fun x=>[I x]) hs (RS.mono hmr hle2) rfl rfl ae ai (bq (l:=ks) (i:=x.leg.toNat) ak) ak ?_)))));intro b79 o79 hc79;replace hc79:=bB.one hc79
        rw [hq] at hc79
        refine .y hs (zld af) (.zn zg (.aj (.z zm (.zn kQ (.bw rfl (fun hc82=>?_) (fun hc82=>?_))))))
        ·refine .draw mix rfl hs fun w hs=>?_
         refine .zw 0 rfl (zfa lB) ?_;refine .z 1 rfl (zfa aT) ?_;refine .ys 2 rfl hs [_,_,_,_,_,_] aV aJ ?_;refine .z 3 rfl (zfa nA) ?_;refine .ys 4 rfl hs [_] p5 gH ?_;refine .z 5 rfl zm ?_
         refine .E 6 hs ?_
         refine .call Tryz.call98 rfl (l5 hs) ?_;rintro _ w ⟨rfl,hs⟩
         refine .go (.E 7 hs ?_)
         refine .call Tryz.call64 rfl (lY (s:=s'.sp) (rows:=x.rows) (q:=⟨1,0,q⟩) hs (g'.mono hle2).st (g'.mono hle2).wa (gh.mono hle2)) ?_;rintro _ w ⟨H3,n,f,hle3,rfl,hV,hs⟩
         refine .go (.zw 8 rfl zm ?_);refine .z 9 rfl zex ?_;refine .z 10 rfl zex ?_;refine .z 11 rfl zg ?_;refine .D hs ?_
         refine nT ?_
         obtain rfl:f=0:=by
          have hhl:=hCh.IS
          cases hV with
          |space h=>exact (h hok.early.1).elim
          |hull _ h=>exact (h hhl).elim
          |what _ _ h=>exact (h (yA (v:=s') ak hqw)).elim
          |ok=>rfl
         exact ⟨n,H3,aR,hle02.trans hle3,.up ak hV,hV.bd rfl,hs.sb⟩
        ·refine .skip (nT ?_)
         exact ⟨0,H2,aR,hle02,.zero ak,ak,hs.sb⟩
       ·rintro fs w ⟨n,H3,hfs,hle03,hHl,hnb,hs⟩
        refine WE.sub ?_ hfs
        clear hfs
        have hdw:(lg0 r x.leg.toNat).dlo≤x.dense∧x.dense≤(lg0 r x.leg.toNat).dhi:=by simpa using hb65
        have hmw:(pL m r x.leg.toNat).lo≤x.qB∧x.qB≤(pL m r x.leg.toNat).hi:=by simpa using hc74
        refine .seq (.seq (.draw mix rfl hs fun w hs=>?_))
        refine .zw 0 rfl (zfa nC) ?_;refine .y 1 rfl hs af ?_;refine .z 2 rfl zm ?_;refine .z 3 rfl (zfa nD) ?_;refine .y 4 rfl hs af ?_
        refine .E 5 hs ?_
        refine .call Tryz.call99 rfl (gN hs ak ak) ?_;rintro _ w ⟨rfl,hs⟩
        refine .go (.zw 6 rfl pc ?_);refine .D hs ?_
        refine (.bw rfl (fun hc100=>?_) (fun hc100=>?_))
        ·refine .aj (.zn zg (.ret (rT (Fin.bu p4 rfl ?_))))
         exact ⟨H3,_,hle03,rfl,.no hB (fun h=>by
          obtain ⟨n',g1,g2⟩:=h.sinks
          rw [hq,Int.toNat_natCast] at g1
          rw [←hHl.uniq g1] at g2;omega),hs.out⟩
        ·refine .skip (nT (.aj (.zn zg (.ret (Fin.bu p4 rfl ?_)))))
         exact ⟨H3,_,hle03,rfl,.ok hB ⟨hleg,hCh,hdw,hmw,n,by rw [hq,Int.toNat_natCast];exact hHl,ak⟩,hs.out⟩
theorem rK(hs:St H w σ):
  Cl Tryz.prog 71 [] w fun u w'=>∃H1 a b c d vt vs vlg,HLe H H1∧u= .tuple #[.agg #[I 1,I 1,a,b,I 100,I 200,c,d],.agg #[I 1000,I 1200,vt,vs],.agg #[vlg]]∧SvM H1 exV a b c d∧LnM H1 qf vt vs∧RLg H1 vlg mS∧St H1 w' σ:=by
 refine Cl.of Tryz.func71 rfl Tryz.ntmps71 bJ (y9) (.aj (.o (.alloc hs eG rfl fun b0 w hs=>?_)))
 refine .o (.alloc hs Tryz.zeroValue25 rfl fun b1 w hs=>?_)
 refine .o (.alloc hs Tryz.zeroValue28 rfl fun b2 w hs=>?_)
 refine .nil (.aj (.o (.buildSlice (cells:=Is [0,1000]) hs kj rfl aD fun b8 w hs=>?_)))
 refine .o (.buildSlice (cells:=Is [0,1000]) hs kj rfl aD fun b9 w hs=>?_)
 refine .z (zbd [_,_] tI) (.z (zbd [_,_,_,_,_,_] sc) (.o (.alloc hs jF rfl fun b3 w hs=>?_)))
 refine .o (.aO (vs:=[_,_,_,_,_,_]) hs rfl rfl aJ fun w hs=>?_)
 refine .nil (.aj (.y hs (zls [_,_,_,_,_,_] aV aJ) (.z (zbd [_,_,_,_,_,_,_] iA) (.z (zbd [_,_,_,_,_,_,_] iA) (.z (zbd [_,_,_,_,_,_,_] iA) (.z (zbd [_,_,_,_,_,_,_] iA) (.o (.buildSlice (cells:=(rdc HY).flatten) hs pU rfl aD fun b17 w hs=>?_))))))))
 refine .z (zbd [_,_,_,_,_,_] o5) (.o (.buildSlice (cells:=(cmc exV.cs).flatten) hs kM rfl aD fun b19 w hs=>?_))
 refine .z (zbd (vs:=[(0,.agg #[I 1,I 1,.slice (some ⟨b8,0,none⟩) 2 2,.slice (some ⟨b9,0,none⟩) 2 2,I 100,I 200]),(1,.slice (some ⟨b17,0,none⟩) 4 4),(2,.slice (some ⟨b19,0,none⟩) 1 1)]) [I 1,I 1,.slice (some ⟨b8,0,none⟩) 2 2,.slice (some ⟨b9,0,none⟩) 2 2,I 100,I 200,.slice (some ⟨b17,0,none⟩) 4 4,.slice (some ⟨b19,0,none⟩) 1 1] qj rfl aD) (.o (.alloc hs eG rfl fun b4 w hs=>?_))
 refine .o (.aO (vs:=[_,_,_,_,_,_,_,_]) hs rfl rfl aB fun w hs=>?_)
 refine .nil (.aj (.z (zbd [_,_] mT) (.z (zbd [_,_] mT) (.o (.buildSlice (cells:=(fbc qf.table).flatten) hs nW rfl aD fun b23 w hs=>?_)))))
 refine .z (zbd [_,_,_,_] xj) (.o (.buildSlice (cells:=(snc qf.seasons).flatten) hs qP rfl aD fun b25 w hs=>?_))
 refine .z (zbd (vs:=[(0,I 1000),(1,I 1200),(2,.slice (some ⟨b23,0,none⟩) 2 2),(3,.slice (some ⟨b25,0,none⟩) 1 1)]) [I 1000,I 1200,.slice (some ⟨b23,0,none⟩) 2 2,.slice (some ⟨b25,0,none⟩) 1 1] y8 rfl aD) (.o (.alloc hs Tryz.zeroValue25 rfl fun b5 w hs=>?_))
 refine .o (.aO (vs:=[_,_,_,_]) hs rfl rfl bL fun w hs=>?_)
 refine .nil (.aj (.z (zbd [_,_] aZ) (.o (.alloc hs aW rfl fun b6 w hs=>?_))))
 refine .o (.aO (vs:=[_,_]) hs rfl rfl an fun w hs=>?_)
 refine .nil (.aj (.z (zbd [_,_] aZ) (.o (.alloc hs aW rfl fun b7 w hs=>?_))))
 refine .o (.aO (vs:=[_,_]) hs rfl rfl an fun w hs=>?_)
 refine .nil (.cut (fun fs w=>∃b37,kF fs ⟨39,[],[(2,Pt b2),(1,Pt b1),(0,Pt b0)]⟩∧St H w (.blk b2 [.slice (some ⟨b37,0,none⟩) 2 2]:: .blk b1 [I 1000,I 1200,.slice (some ⟨b23,0,none⟩) 2 2,.slice (some ⟨b25,0,none⟩) 1 1]:: .blk b0 [I 1,I 1,.slice (some ⟨b8,0,none⟩) 2 2,.slice (some ⟨b9,0,none⟩) 2 2,I 100,I 200,.slice (some ⟨b17,0,none⟩) 4 4,.slice (some ⟨b19,0,none⟩) 1 1]:: .blk b37 (lgc mS).flatten:: .blk b25 (snc qf.seasons).flatten:: .blk b23 (fbc qf.table).flatten:: .blk b19 (cmc exV.cs).flatten:: .blk b17 (rdc HY).flatten:: .blk b9 (Is [0,1000]):: .blk b8 (Is [0,1000])::σ)) ?_ ?_)
 ·refine .draw mix rfl hs fun w hs=>?_
  refine .ys 0 rfl hs [_,_,_,_,_,_,_,_] aI aB ?_;refine .ys 1 rfl hs [_,_,_,_] cO bL ?_;refine .ys 2 rfl hs [_,_] aC an ?_;refine .ys 3 rfl hs [_,_] aC an ?_;refine .z 4 rfl (zbd (lg0 mS 0).c wJ rfl aD) ?_;refine .ys 5 rfl hs [_,_] aC an ?_;refine .ys 6 rfl hs [_,_] aC an ?_;refine .z 7 rfl (zbd (lg0 mS 1).c wJ rfl aD) ?_
  refine .e2 (i:=8) (j:=10) aD rfl rfl rfl rfl .none .none hs ?_ ?_
  ·refine .buildSlice (cells:=(lgc mS).flatten) hs kE rfl aD ?_;intro b37 w hs
   refine .go (.zw 9 rfl (zbd [_] nf) (.E 10 hs ?_))
   refine .aO (vs:=[_,_,_,_,_,_,_,_]) hs rfl rfl aB ?_;intro w hs
   refine .go (.E 11 hs ?_)
   refine .aO (vs:=[_,_,_,_]) hs rfl rfl bL ?_;intro w hs
   refine .go (.E 12 hs ?_)
   refine .aO (vs:=[_]) hs rfl rfl eF ?_;intro w hs
   refine .go (.D hs ?_)
   exact nT ⟨b37,aR,hs.sb⟩
  ·refine .aO (vs:=[_,_,_,_,_,_,_,_]) hs rfl rfl aB ?_;intro w hs
   refine .go (.e2 (i:=8) (j:=11) aD rfl rfl rfl rfl .none .none hs ?_ ?_)
   ·refine .buildSlice (cells:=(lgc mS).flatten) hs kE rfl aD ?_;intro b37 w hs
    refine .go (.zw 9 rfl (zbd [_] nf) (.E 11 hs ?_))
    refine .aO (vs:=[_,_,_,_]) hs rfl rfl bL ?_;intro w hs
    refine .go (.E 12 hs ?_)
    refine .aO (vs:=[_]) hs rfl rfl eF ?_;intro w hs
    refine .go (.D hs ?_)
    exact nT ⟨b37,aR,hs.sb⟩
   ·refine .aO (vs:=[_,_,_,_]) hs rfl rfl bL ?_;intro w hs
    refine .go (.E 8 hs ?_)
    refine .buildSlice (cells:=(lgc mS).flatten) hs kE rfl aD ?_;intro b37 w hs
    refine .go (.zw 9 rfl (zbd [_] nf) (.E 12 hs ?_))
    refine .aO (vs:=[_]) hs rfl rfl eF ?_;intro w hs
    refine .go (.D hs ?_)
    exact nT ⟨b37,aR,hs.sb⟩
 ·rintro fs w ⟨b37,hfs,hs⟩
  refine WE.sub ?_ hfs
  clear hfs
  refine .ret ?_
  obtain ⟨H1,g1,r1,hs⟩:=cq.dB (xs:=[0,1000]) (v:= .slice (some ⟨b8,0,none⟩) 2 2) (.full rfl) bJ hs dx
  obtain ⟨H2,g2,r2,hs⟩:=cq.dB (xs:=[0,1000]) (v:= .slice (some ⟨b9,0,none⟩) 2 2) (.full rfl) bJ hs dx
  obtain ⟨H3,g3,r3,hs⟩:=cq.cH (m:=7) (cs:=rdc HY) (v:= .slice (some ⟨b17,0,none⟩) 4 4) (.full aD) (jP _) ak fA hs dx
  obtain ⟨H4,g4,r4,hs⟩:=cq.cH (m:=6) (cs:=cmc exV.cs) (v:= .slice (some ⟨b19,0,none⟩) 1 1) (.full aD) (te _) ak fA hs dx
  obtain ⟨H5,g5,r5,hs⟩:=cq.cH (m:=2) (cs:=fbc qf.table) (v:= .slice (some ⟨b23,0,none⟩) 2 2) (.full aD) (JH _) ak fA hs dx
  obtain ⟨H6,g6,r6,hs⟩:=cq.cH (m:=4) (cs:=snc qf.seasons) (v:= .slice (some ⟨b25,0,none⟩) 1 1) (.full aD) (Jp _) ak fA hs dx
  obtain ⟨H7,g7,r7,hs⟩:=cq.cH (m:=7) (cs:=lgc mS) (v:= .slice (some ⟨b37,0,none⟩) 2 2) (.full aD) (JD _) ak fA hs dx
  have k6:=g6.trans g7
  have k5:=g5.trans k6
  have k4:=g4.trans k5
  have k3:=g3.trans k4
  have k2:=g2.trans k3
  exact Fin.fZ [] [] hs fun w hs=>⟨_,results3 Tryz.results71 (cB (vs:=[I 1,I 1,.slice (some ⟨b8,0,none⟩) 2 2,.slice (some ⟨b9,0,none⟩) 2 2,I 100,I 200,.slice (some ⟨b17,0,none⟩) 4 4,.slice (some ⟨b19,0,none⟩) 1 1]) hs rfl aI aB) (cB (vs:=[I 1000,I 1200,.slice (some ⟨b23,0,none⟩) 2 2,.slice (some ⟨b25,0,none⟩) 1 1]) hs rfl cO bL) (cB (vs:=[.slice (some ⟨b37,0,none⟩) 2 2]) hs rfl ji eF),H7,_,_,_,_,_,_,_,g1.trans k2,rfl,⟨r1.mono k2,r2.mono k3,r3.mono k4,r4.mono k5⟩,⟨r5.mono k6,r6.mono g7⟩,r7,hs.out⟩
set_option maxRecDepth 100000 in
theorem pn:Tryz.prog.stoodInHeld 42=false:=by kernel_rfl
set_option maxRecDepth 100000 in
theorem po:Tryz.prog.eqGuardType Tryz.prog.depth 42=false:=by kernel_rfl
set_option maxHeartbeats 4000000 in
theorem oI(hs:St H w σ):
  Cl Tryz.prog 18 [] w fun u w'=>u= .bool true∧∃H1,HLe H H1∧St H1 w' σ:=by
 refine Cl.of Tryz.func18 rfl Tryz.ntmps18 bJ (y9) (.aj (.zn zg (.aj (.o (.call Tryz.call71 rfl (rK hs) ?_)))));rintro _ w ⟨H1,a,b,c,d,vt,vs,vlg,hle1,rfl,g,gl,gr_,hs⟩
 obtain ⟨aa,ca,rfl⟩:=RI.shape g.st
 obtain ⟨ab,cb,rfl⟩:=RI.shape g.wa
 obtain ⟨ac,cc,rfl⟩:=RRd.shape g.rd
 obtain ⟨ad,cd,rfl⟩:=RCm.shape g.cm
 obtain ⟨at_,ct,rfl⟩:=gl.tb.shape
 obtain ⟨as_,cs,rfl⟩:=gl.sn.shape
 obtain ⟨ar,cr,rfl⟩:=gr_.shape
 refine .z zm (.z zex (.z zex (.z zex (.o (.alloc hs eG rfl fun b1 w hs=>?_)))))
 refine .o (.alloc hs Tryz.zeroValue25 rfl fun b2 w hs=>?_)
 refine .o (.alloc hs Tryz.zeroValue28 rfl fun b3 w hs=>?_)
 refine .o (.aO (vs:=[_,_,_,_,_,_,_,_]) hs rfl rfl aB fun w hs=>?_)
 refine .o (.aO (vs:=[_,_,_,_]) hs rfl rfl bL fun w hs=>?_)
 refine .o (.aO (vs:=[_]) hs rfl rfl eF fun w hs=>?_)
 refine .nil (.aj (.y hs (zls [_,_,_,_] cO bL) (.o (.call Tryz.call37 rfl (qC (l:=qf) hs gl.tb gl.sn) ?_))));rintro _ w ⟨n,e,rfl,hF,hs⟩
 obtain ⟨rfl,rfl⟩:=Eo hF
 refine .z zm (.z zex (.z zex (.z zg (.zn zg (.aj (.y hs (zls [_,_,_,_] cO bL) (.o (.call Tryz.call41 rfl (uj (l:=qf) hs gl.tb gl.sn) ?_))))))));rintro _ w ⟨n,e,rfl,hF,hs⟩
 obtain ⟨rfl,rfl⟩:=Bd hF
 refine .z zm (.z zex (.z zex (.z zg (.zn zg (.aj (.y hs (zls [_,_,_,_,_,_,_,_] aI aB) (.z (zbd [I 1000,I 1025] aZ) (.o (.call Tryz.call58 rfl (jG (s:=exV) hs g) ?_)))))))));rintro _ w ⟨H2,lo,hi,e,hle2,rfl,hD,hs⟩
 obtain ⟨rfl,rfl,rfl,hL⟩:=Ep hD
 replace g:=g.mono hle2
 replace gl:=gl.mono hle2
 replace gr_:=gr_.mono hle2
 refine .z zm (.z zex (.z zex (.o (.alloc hs aW rfl fun b8 w hs=>?_))))
 refine .o (.aO (vs:=[_,_]) hs rfl rfl an fun w hs=>?_)
 refine .zn zg (.aj (.y hs (zls [_,_,_,_,_,_,_,_] aI aB) (.y hs (zls [_,_,_,_] cO bL) (.y hs (zls [_] ji eF) (.z (zbd [I 150,I 160] aZ) (.o (.call Tryz.call26 rfl (oF (s:=exV) (l:=qf) (r:=mS) (m:=⟨150,160⟩) hs g gl gr_) ?_)))))));rintro _ w ⟨H3,n,e,hle3,rfl,hJ,hs⟩
 obtain ⟨rfl,rfl⟩:=xU hL fA hJ
 rw [show A3 [CY (pL ⟨150,160⟩ mS 0) 190 404,CY (pL ⟨150,160⟩ mS 1) 190 404]=1 by decide]
 replace g:=g.mono hle3
 replace gl:=gl.mono hle3
 replace gr_:=gr_.mono hle3
 refine .z zm (.z zex (.z zex (.z zg (.zn zg (.aj (.y hs (zls [_,_,_,_,_,_,_,_] aI aB) (.y hs (zls [_,_,_,_] cO bL) (.y hs (zls [_] ji eF) (.z (zbd [I 180,I 200] aZ) (.o (.call Tryz.call26 rfl (oF (s:=exV) (l:=qf) (r:=mS) (m:=⟨180,200⟩) hs g gl gr_) ?_)))))))))));rintro _ w ⟨H4,n,e,hle4,rfl,hJ,hs⟩
 obtain ⟨rfl,rfl⟩:=xU hL fA hJ
 rw [show A3 [CY (pL ⟨180,200⟩ mS 0) 190 404,CY (pL ⟨180,200⟩ mS 1) 190 404]=2 by decide]
 replace g:=g.mono hle4
 replace gl:=gl.mono hle4
 replace gr_:=gr_.mono hle4
 refine .z zm (.z zex (.z zex (.z zg (.zn zg (.aj (.y hs (zls [_,_,_,_,_,_,_,_] aI aB) (.y hs (zls [_,_,_,_] cO bL) (.y hs (zls [_] ji eF) (.o (.call Tryz.call28 rfl (xd (s:=exV) (l:=qf) (r:=mS) hs g gl gr_) ?_))))))))));rintro _ w ⟨H5,n,e,hle5,rfl,hS,hs⟩
 obtain ⟨rfl,rfl⟩:=En hL hS
 replace g:=g.mono hle5
 replace gl:=gl.mono hle5
 replace gr_:=gr_.mono hle5
 have hle05:=hle1.trans (hle2.trans (hle3.trans (hle4.trans hle5)))
 refine .z zm (.z zex (.z zex (.z zg (.zn zg (.aj (.o (.buildSlice (cells:=Is [75,175]) hs kj rfl aD fun b61 w hs=>?_)))))))
 refine .o (.buildSlice (cells:=Is [0,130]) hs kj rfl aD fun b62 w hs=>?_)
 refine .o (.buildSlice (cells:=[.slice (some ⟨b61,0,none⟩) 2 2,.slice (some ⟨b62,0,none⟩) 2 2]) hs xi rfl aD fun b63 w hs=>?_)
 refine .z (zbd [_] Av) ?_
 obtain ⟨H6,g6,r6,hs⟩:=cq.dB (xs:=[75,175]) (v:= .slice (some ⟨b61,0,none⟩) 2 2) (.full rfl) bJ hs dx
 obtain ⟨H7,g7,r7,hs⟩:=cq.dB (xs:=[0,130]) (v:= .slice (some ⟨b62,0,none⟩) 2 2) (.full rfl) bJ hs dx
 have hRL:RLs H7 [.slice (some ⟨b61,0,none⟩) 2 2,.slice (some ⟨b62,0,none⟩) 2 2] HZ:=((RLs.nil H7).snoc (r6.mono g7)).snoc r7
 obtain ⟨H8,g8,hRT,hs⟩:=hRL.cH (v:= .slice (some ⟨b63,0,none⟩) 2 2) (en:= .blk b63 [.slice (some ⟨b61,0,none⟩) 2 2,.slice (some ⟨b62,0,none⟩) 2 2]) (.full rfl) bJ hs dx
 have hle8:=g6.trans (g7.trans g8)
 replace g:=g.mono hle8
 replace gl:=gl.mono hle8
 replace gr_:=gr_.mono hle8
 refine .z (zbd [_,_,_,_] wI) (.o (.alloc hs Tryz.zeroValue66 rfl fun b16 w hs=>?_))
 refine .o (.aO (vs:=[_,_,_,_]) hs rfl rfl Tryz.sizeOf66 fun w hs=>?_)
 refine .nil (.aj (.z zm (.z gw (.z zm (.fF (t':=68) rfl (fun hb68=>?_) (fun hb68=>?_))))))
 ·refine .T (.z zm (.T (.z gw (.z zpT (.z zm (.fF (t':=72) rfl (fun hb72=>?_) (fun hb72=>?_)))))))
  ·refine .T (.z zm (.T (.z gw (.z zpT (.z zm (.fF (t':=76) rfl (fun hb76=>?_) (fun hb76=>?_)))))))
   ·refine .T (.z zm (.T (.z gw (.z zpT (.z zm (.fF (t':=80) rfl (fun hb80=>?_) (fun hb80=>?_)))))))
    ·refine .T (.z zm (.T (.z gw (.z zpT (.z zm (.fF (t':=84) rfl (fun hb84=>?_) (fun hb84=>?_)))))))
     ·refine .T (.y hs (zls [_,_] aC an) (.T (.z (zbd [_,_] aZ) (.T ?_))))
      refine .q hs (tC pn po jh (fun f hf=>by
       simp only [List.mem_cons,List.not_mem_nil,or_false] at hf
       rcases hf with rfl|rfl<;>exact ⟨by decide,bj,af⟩) rfl rfl) ?_
      refine .z zpT (.z zm (.bif (t':=89) rfl (fun hb89=>?_) (fun hb89=>?_)))
      ·refine .T (.z zm (.T (.z gw (.z zpT (.z zm (.fF (t':=93) rfl (fun hb93=>?_) (fun hb93=>?_)))))))
       ·refine .T (.z zm (.T (.z gw (.z zpT (.z zm (.fF (t':=97) rfl (fun hb97=>?_) (fun hb97=>?_)))))))
        ·refine .T (.z zm (.T (.z gw (.z zpT (.z zm (.fF (t':=101) rfl (fun hb101=>?_) (fun hb101=>?_)))))))
         ·refine .T (.z zm (.T (.z gw (.z zpT (.z zm (.fF (t':=105) rfl (fun hb105=>?_) (fun hb105=>?_)))))))
          ·refine .T (.z zm (.T (.z gw (.z zpT (.z zm (.fF (t':=109) rfl (fun hb109=>?_) (fun hb109=>?_)))))))
           ·refine .T (.z zm (.T (.z gw (.z zpT (.z zm (.fF (t':=113) rfl (fun hb113=>?_) (fun hb113=>?_)))))))
            ·refine .T (.y hs (zls [_,_,_,_,_,_,_,_] aI aB) (.T (.y hs (zls [_,_,_,_] cO bL) (.T (.y hs (zls [_] ji eF) (.T (.z (zbd [I 180,I 200] aZ) (.T (.y hs (zls [_,_,_,_] Tryz.isAgg66 Tryz.sizeOf66) (.T (.o (.call Tryz.call32 rfl (pM (s:=exV) (l:=qf) (r:=mS) (m:=⟨180,200⟩) (x:=⟨0,1000,200,HZ⟩) hs g gl gr_ hRT) ?_))))))))))));rintro _ w ⟨H9,e,hle9,rfl,hW,hs⟩
             obtain rfl:=Gb hW
             have hleF:=(hle05.trans hle8).trans hle9
             refine .T (.z gw (.z zpT (.zn zg (.ret (Fin.bu eZ rfl ?_)))))
             first
             |exact ⟨rfl,H9,hleF,hs.out⟩
             |contradiction
             |(exfalso;simp_all;done)
            ·refine .Fs 7 47 true (.z zpF (.zn zg (.ret (Fin.bu eZ rfl ?_))))
             first
             |exact ⟨rfl,H9,hleF,hs.out⟩
             |contradiction
             |(exfalso;simp_all;done)
           ·refine .Fs 2 43 true (.z zpF (.z zm (.Fs 7 47 true (.z zpF (.zn zg (.ret (Fin.bu eZ rfl ?_)))))))
            first
            |exact ⟨rfl,H9,hleF,hs.out⟩
            |contradiction
            |(exfalso;simp_all;done)
          ·refine .Fs 2 39 true (.z zpF (.z zm (.Fs 2 43 true (.z zpF (.z zm (.Fs 7 47 true (.z zpF (.zn zg (.ret (Fin.bu eZ rfl ?_))))))))))
           first
           |exact ⟨rfl,H9,hleF,hs.out⟩
           |contradiction
           |(exfalso;simp_all;done)
         ·refine .Fs 2 35 true (.z zpF (.z zm (.Fs 2 39 true (.z zpF (.z zm (.Fs 2 43 true (.z zpF (.z zm (.Fs 7 47 true (.z zpF (.zn zg (.ret (Fin.bu eZ rfl ?_)))))))))))))
          first
          |exact ⟨rfl,H9,hleF,hs.out⟩
          |contradiction
          |(exfalso;simp_all;done)
        ·refine .Fs 2 31 true (.z zpF (.z zm (.Fs 2 35 true (.z zpF (.z zm (.Fs 2 39 true (.z zpF (.z zm (.Fs 2 43 true (.z zpF (.z zm (.Fs 7 47 true (.z zpF (.zn zg (.ret (Fin.bu eZ rfl ?_))))))))))))))))
         first
         |exact ⟨rfl,H9,hleF,hs.out⟩
         |contradiction
         |(exfalso;simp_all;done)
       ·refine .Fs 2 27 true (.z zpF (.z zm (.Fs 2 31 true (.z zpF (.z zm (.Fs 2 35 true (.z zpF (.z zm (.Fs 2 39 true (.z zpF (.z zm (.Fs 2 43 true (.z zpF (.z zm (.Fs 7 47 true (.z zpF (.zn zg (.ret (Fin.bu eZ rfl ?_)))))))))))))))))))
        first
        |exact ⟨rfl,H9,hleF,hs.out⟩
        |contradiction
        |(exfalso;simp_all;done)
      ·refine .Fs 2 23 true (.z zpF (.z zm ?_))
       refine .Fs 2 27 true (.z zpF (.z zm (.Fs 2 31 true (.z zpF (.z zm (.Fs 2 35 true (.z zpF (.z zm (.Fs 2 39 true (.z zpF (.z zm (.Fs 2 43 true (.z zpF (.z zm (.Fs 7 47 true (.z zpF (.zn zg (.ret (Fin.bu eZ rfl ?_)))))))))))))))))))
       first
       |exact ⟨rfl,H9,hleF,hs.out⟩
       |contradiction
       |(exfalso;simp_all;done)
     ·refine .Fs 3 18 true (.z zpF (.z zm (.Fs 2 23 true (.z zpF (.z zm ?_)))))
      refine .Fs 2 27 true (.z zpF (.z zm (.Fs 2 31 true (.z zpF (.z zm (.Fs 2 35 true (.z zpF (.z zm (.Fs 2 39 true (.z zpF (.z zm (.Fs 2 43 true (.z zpF (.z zm (.Fs 7 47 true (.z zpF (.zn zg (.ret (Fin.bu eZ rfl ?_)))))))))))))))))))
      first
      |exact ⟨rfl,H9,hleF,hs.out⟩
      |contradiction
      |(exfalso;simp_all;done)
    ·refine .Fs 2 14 true (.z zpF (.z zm (.Fs 3 18 true (.z zpF (.z zm (.Fs 2 23 true (.z zpF (.z zm ?_))))))))
     refine .Fs 2 27 true (.z zpF (.z zm (.Fs 2 31 true (.z zpF (.z zm (.Fs 2 35 true (.z zpF (.z zm (.Fs 2 39 true (.z zpF (.z zm (.Fs 2 43 true (.z zpF (.z zm (.Fs 7 47 true (.z zpF (.zn zg (.ret (Fin.bu eZ rfl ?_)))))))))))))))))))
     first
     |exact ⟨rfl,H9,hleF,hs.out⟩
     |contradiction
     |(exfalso;simp_all;done)
   ·refine .Fs 2 10 true (.z zpF (.z zm (.Fs 2 14 true (.z zpF (.z zm (.Fs 3 18 true (.z zpF (.z zm (.Fs 2 23 true (.z zpF (.z zm ?_)))))))))))
    refine .Fs 2 27 true (.z zpF (.z zm (.Fs 2 31 true (.z zpF (.z zm (.Fs 2 35 true (.z zpF (.z zm (.Fs 2 39 true (.z zpF (.z zm (.Fs 2 43 true (.z zpF (.z zm (.Fs 7 47 true (.z zpF (.zn zg (.ret (Fin.bu eZ rfl ?_)))))))))))))))))))
    first
    |exact ⟨rfl,H9,hleF,hs.out⟩
    |contradiction
    |(exfalso;simp_all;done)
  ·refine .Fs 2 6 true (.z zpF (.z zm (.Fs 2 10 true (.z zpF (.z zm (.Fs 2 14 true (.z zpF (.z zm (.Fs 3 18 true (.z zpF (.z zm (.Fs 2 23 true (.z zpF (.z zm ?_))))))))))))))
   refine .Fs 2 27 true (.z zpF (.z zm (.Fs 2 31 true (.z zpF (.z zm (.Fs 2 35 true (.z zpF (.z zm (.Fs 2 39 true (.z zpF (.z zm (.Fs 2 43 true (.z zpF (.z zm (.Fs 7 47 true (.z zpF (.zn zg (.ret (Fin.bu eZ rfl ?_)))))))))))))))))))
   first
   |exact ⟨rfl,H9,hleF,hs.out⟩
   |contradiction
   |(exfalso;simp_all;done)
 ·refine .Fs 2 2 true (.z zpF (.z zm (.Fs 2 6 true (.z zpF (.z zm (.Fs 2 10 true (.z zpF (.z zm (.Fs 2 14 true (.z zpF (.z zm (.Fs 3 18 true (.z zpF (.z zm (.Fs 2 23 true (.z zpF (.z zm ?_)))))))))))))))))
  refine .Fs 2 27 true (.z zpF (.z zm (.Fs 2 31 true (.z zpF (.z zm (.Fs 2 35 true (.z zpF (.z zm (.Fs 2 39 true (.z zpF (.z zm (.Fs 2 43 true (.z zpF (.z zm (.Fs 7 47 true (.z zpF (.zn zg (.ret (Fin.bu eZ rfl ?_)))))))))))))))))))
  first
  |exact ⟨rfl,H9,hleF,hs.out⟩
  |contradiction
  |(exfalso;simp_all;done)
theorem yx{a0 a1 a2:Int}(hs:St H w σ):Cl Tryz.prog 74 [I a0,I a1,I a2] w fun v w'=>v= .bool (decide (a1≤a0∧a0≤a2))∧St H w' σ:=by
 refine Cl.o Tryz.func74 Tryz.ntmps74 ag3 ?_
 refine .aj (.zn zg (.aj (.z zm (.z zm (.z nY (.z zm (.fF (t':=10) rfl (fun hb10=>?_) (fun hb10=>?_))))))))
 ·refine .T (.z zm (.T (.z zm (.T (.z pc (.z zpT (.zn zg (.ret (Fin.bu Tryz.results74 rfl ?_)))))))))
  exact ⟨by simp [*],hs.out⟩
 ·refine .Fs 3 3 true (.z zpF (.zn zg (.ret (Fin.bu Tryz.results74 rfl ?_))))
  exact ⟨by simp [*],hs.out⟩
theorem sJ{x y:Int}(hs:St H w σ):Cl Tryz.prog 53 [.agg #[I x,I y]] w fun v w'=>v= .bool (decide (fI x y))∧St H w' σ:=by
 refine Cl.o Tryz.func53 Tryz.ntmps53 ag1 ?_
 refine .aj (.bx hs fun b1 w hs=>?_)
 refine .zn zg (.aj (.z (zfa aQ) (.y hs (zld af) (.z nY (.z zm (.fF (t':=6) rfl (fun hb6=>?_) (fun hb6=>?_)))))))
 ·refine .T (.z (zfa aQ) (.T (.y hs (zld af) (.T (.z (zfa aN) (.T (.y hs (zld af) (.T (.z pc (.z zpT (.z zm (.fF (t':=13) rfl (fun hb13=>?_) (fun hb13=>?_)))))))))))))
  ·refine .T (.z (zfa aN) (.T (.y hs (zld af) (.T (.z pc (.z zpT (.zn zg (.ret (Fin.bu Tryz.results53 rfl ?_)))))))))
   exact ⟨by unfold fI;simp [*],hs.out⟩
  ·refine .Fs 3 10 true (.z zpF (.zn zg (.ret (Fin.bu Tryz.results53 rfl ?_))))
   exact ⟨by unfold fI;simp [*],hs.out⟩
 ·refine .Fs 5 3 true (.z zpF (.z zm (.Fs 3 10 true (.z zpF (.zn zg (.ret (Fin.bu Tryz.results53 rfl ?_)))))))
  exact ⟨by unfold fI;simp [*],hs.out⟩
theorem lV{x y:Int}(hs:St H w σ):Cl Tryz.prog 124 [.agg #[I x,I y]] w fun v w'=>v= .bool (decide (ea x y))∧St H w' σ:=by
 refine Cl.o Tryz.func124 Tryz.ntmps124 ag1 ?_
 refine .aj (.bx hs fun b1 w hs=>?_)
 refine .zn zg (.aj (.z (zfa aQ) (.y hs (zld af) (.z nY (.z zm (.fF (t':=6) rfl (fun hb6=>?_) (fun hb6=>?_)))))))
 ·refine .T (.z (zfa aQ) (.T (.y hs (zld af) (.T (.z (zfa aN) (.T (.y hs (zld af) (.T (.z pc (.z zpT (.z zm (.fF (t':=13) rfl (fun hb13=>?_) (fun hb13=>?_)))))))))))))
  ·refine .T (.z (zfa aN) (.T (.y hs (zld af) (.T (.z pc (.z zpT (.zn zg (.ret (Fin.bu Tryz.results124 rfl ?_)))))))))
   exact ⟨by unfold ea;simp [*],hs.out⟩
  ·refine .Fs 3 10 true (.z zpF (.zn zg (.ret (Fin.bu Tryz.results124 rfl ?_))))
   exact ⟨by unfold ea;simp [*],hs.out⟩
 ·refine .Fs 5 3 true (.z zpF (.z zm (.Fs 3 10 true (.z zpF (.zn zg (.ret (Fin.bu Tryz.results124 rfl ?_)))))))
  exact ⟨by unfold ea;simp [*],hs.out⟩
theorem tU{s:Srv}{a b c d:Value}(hs:St H w σ)(g:SvM H s a b c d)(hok:dq s):
  Cl Tryz.prog 144 [svA s a b c d] w fun u w'=>∃H1 bb,HLe H H1∧u= .bool bb∧(bb=true↔¬s.sys.Sound)∧St H1 w' σ:=by
 refine Cl.o Tryz.func144 Tryz.ntmps144 ag1 ?_
 refine .aj (.bx hs fun b1 w hs=>?_)
 refine .zn zg (.aj (.y hs (zls [_,_,_,_,_,_,_,_] aI aB) (.o (.call Tryz.call205 rfl (jM (s:=s) hs g.st g.wa g.rd g.cm hok.early) ?_))));rintro v7 w ⟨H1,hle1,hS,hs⟩
 refine .o (.call Tryz.call147 rfl (kx (s:=s.sys) hs hS) ?_);rintro _ w ⟨H2,vt,e,hle2,rfl,hC,hs⟩
 refine .z zm (.z zex (.z zex (.z zg (.zn zg (.aj (.z zm (.z gv (.zn zg (.ret (Fin.bu Tryz.results144 rfl (⟨H2,_,hle1.trans hle2,rfl,?_,hs.out⟩)))))))))))
 rcases hC with ⟨h,_⟩|⟨_,h,rfl,_⟩|⟨_,h,rfl,_⟩
 ·exact (h (s.sys.cz.2 hok.sys)).elim
 ·simp [h]
 ·simp [h]
theorem mF{s:Srv}{k:Nat}{a b c d:Value}(hs:St H w σ)(g:SvM H s a b c d)(hok:dq s):
  Cl Tryz.prog 83 [svA s a b c d,I (k:Int)] w fun u w'=>∃H1 lo hi e,HLe H H1∧u= .tuple #[.agg #[I lo,I hi],I e]∧uZ s k lo hi e∧St H1 w' σ:=by
 refine Cl.o Tryz.func83 Tryz.ntmps83 ag2 ?_
 refine .aj (.bx hs fun b2 w hs=>?_)
 refine .o (.alloc hs aW rfl fun b4 w hs=>?_)
 refine .zn zg (.seq (.aj (.z zm (.zn kQ (.bw rfl (fun hc7=>?_) (fun hc7=>?_))))))
 ·refine .aj (.y hs (zls [_,_,_,_,_,_,_,_] aI aB) (.z zm (.z (zbd [I 1,I 0,I (k:Int)] oZ) (.o (.call Tryz.call143 rfl (tV (s:=s) (q:=⟨1,0,k⟩) hs g.st g.wa g.rd g.cm) ?_)))));rintro _ w ⟨H1,lo,hi,e,hle1,rfl,hQ,hs⟩
  refine .z zex (.z zex (.o (.aO (vs:=[_,_]) hs rfl rfl an fun w hs=>?_)))
  refine .zn zg (.ret (rT (?_)))
  exact Fin.fZ [] [] hs fun w hs=>⟨_,results2 Tryz.results83 (cB (vs:=[_,_]) hs rfl aC an) rfl,H1,_,_,_,hle1,rfl,.up ak hQ,hs.out⟩
 ·refine .skip (nT (.seq (.aj (.y hs (zls [_,_,_,_,_,_,_,_] aI aB) ?_))))
  obtain rfl:k=0:=by omega
  refine .o (.call Tryz.call144 rfl (tU (s:=s) hs g hok) ?_);rintro _ w ⟨H1,bb,hle1,rfl,hF,hs⟩
  refine .nil (.cond rfl (fun hc15=>?_) (fun hc15=>?_))
  ·refine .aj (.z (zbd [_,_] aZ) (.o (.aO (vs:=[_,_]) hs rfl rfl an fun w hs=>?_)))
   refine .zn zg (.ret (rT (?_)))
   exact Fin.fZ [] [] hs fun w hs=>⟨_,results2 Tryz.results83 (cB (vs:=[_,_]) hs rfl aC an) rfl,H1,_,_,_,hle1,rfl,.fls rfl hok (hF.1 (by simpa using hc15)),hs.out⟩
  ·refine .skip (nT (.aj (.z (zbd [_,_] aZ) (.o (.aO (vs:=[_,_]) hs rfl rfl an fun w hs=>?_)))))
   refine .zn zg (.ret ?_)
   exact Fin.fZ [] [] hs fun w hs=>⟨_,results2 Tryz.results83 (cB (vs:=[_,_]) hs rfl aC an) rfl,H1,_,_,_,hle1,rfl,.zero rfl hok (Classical.byContradiction fun h=>by rw [hF.2 h] at hc15;cases hc15),hs.out⟩
theorem gD{n d:Int}(hs:St H w σ)(hn: -4000000000000≤n∧n≤4000000000000)(hd: -100000≤d∧d≤100000):Cl Tryz.prog 52 [I n,I d] w fun v w'=>v=I (fb n d)∧St H w' σ:=by
 have hm:=j8 (a:=n) (b:=d) (A:=4000000000000) (B:=100000) ak ak
 refine Cl.o Tryz.func52 Tryz.ntmps52 ag2 ?_
 refine .aj (.zn zg (.aj (.z zm (.z zm (.z kq (.o (.call Tryz.call119 rfl (lk hs ak ak) ?_)))))));rintro _ w ⟨rfl,hs⟩
 refine .zn zg (.ret (Fin.bu Tryz.results52 rfl ?_))
 exact ⟨rfl,hs⟩
theorem jL{lo hi x y:Int}(hs:St H w σ)(h1: -200000000≤lo∧lo≤200000000)(h2: -200000000≤hi∧hi≤200000000)(hd:ea x y):
  Cl Tryz.prog 85 [.agg #[I lo,I hi],.agg #[I x,I y]] w fun v w'=>v= .agg #[I (dJ lo x y),I (dK hi x y)]∧St H w' σ:=by
 unfold ea at hd
 refine Cl.o Tryz.func85 Tryz.ntmps85 ag2 ?_
 refine .aj (.bx hs fun b2 w hs=>?_)
 refine .bx hs fun b3 w hs=>?_
 refine .o (.alloc hs aW rfl fun b4 w hs=>?_)
 refine .nil (.seq (.draw mix rfl hs fun w hs=>?_))
 refine .zw 0 rfl (zfa aQ) ?_;refine .y 1 rfl hs af ?_;refine .z 2 rfl (zfa aQ) ?_;refine .y 3 rfl hs af ?_;refine .z 5 rfl (zfa aQ) ?_;refine .y 6 rfl hs af ?_;refine .z 7 rfl (zfa aN) ?_;refine .y 8 rfl hs af ?_;refine .z 11 rfl (zfa aN) ?_;refine .y 12 rfl hs af ?_
 refine .zw 13 rfl (zfa aQ) ?_;refine .y 14 rfl hs af ?_;refine .z 16 rfl (zfa aN) ?_;refine .y 17 rfl hs af ?_;refine .z 18 rfl (zfa aN) ?_;refine .y 19 rfl hs af ?_
 refine .E 4 hs ?_
 refine .call Tryz.call52 rfl (gD hs ak ak) ?_;rintro _ w ⟨rfl,hs⟩
 refine .go (.E 9 hs ?_)
 refine .call Tryz.call52 rfl (gD hs ak ak) ?_;rintro _ w ⟨rfl,hs⟩
 refine .go (.zw 10 rfl AI (.E 15 hs ?_))
 refine .call Tryz.call52 rfl (gD hs ak ak) ?_;rintro _ w ⟨rfl,hs⟩
 refine .go (.E 20 hs ?_)
 refine .call Tryz.call52 rfl (gD hs ak ak) ?_;rintro _ w ⟨rfl,hs⟩
 refine .go (.zw 21 rfl CX ?_);refine .z 22 rfl (zbd [_,_] aZ) ?_
 refine .E 23 hs ?_
 refine .aO (vs:=[_,_]) hs rfl rfl an ?_;intro w hs
 refine .go (.D hs (.ret ?_))
 exact Fin.fZ [] [] hs fun w hs=>⟨_,results1 Tryz.results85 (cB (vs:=[_,_]) hs rfl aC an),rfl,hs.out⟩
theorem w6{n m:Int}(hs:St H w σ)(hm:1≤m∧m≤4611686018427387904):Cl Tryz.prog 36 [I n,I m] w fun u w'=>u=I (JB n m)∧St H w' σ:=by
 have h1:=Int.tmod_lt_of_pos n (show 0<m by omega)
 have h2:=Int.lt_tmod_of_pos n (show 0<m by omega)
 refine Cl.o Tryz.func36 Tryz.ntmps36 ag2 ?_
 refine .aj (.zn zg (.aj (.z zm (.z zm (.z Cm (.z zm (.z cn (.z zm (.z Cm (.zn zg (.ret (Fin.bu Tryz.results36 rfl ?_))))))))))))
 exact ⟨rfl,hs⟩
theorem wh{s:Srv}{a b c d:Value}(hs:St H w σ)(g:SvM H s a b c d):
  Cl Tryz.prog 56 [svA s a b c d] w fun u w'=>∃H1 v L e,HLe H H1∧u= .tuple #[v,I e]∧RRg H1 v L∧EY s L e∧St H1 w' σ:=by
 obtain ⟨aw,cw,rfl⟩:=RI.shape g.wa
 refine Cl.o Tryz.func56 Tryz.ntmps56 ag1 ?_
 refine .aj (.bx hs fun b1 w hs=>?_)
 refine .z zg (.zn zg (.seq (.aj (.y hs (zls [_,_,_,_,_,_,_,_] aI aB) (.o (.call wR rfl (ew (s:=s) hs g.st g.wa g.rd g.cm) ?_))))));rintro _ w ⟨H1,e,hle1,rfl,hC,hs⟩
 refine .zn zg (.aj (.z zm (.zn gv (.dP rfl (fun hc12=>?_) (fun hc12=>?_)))))
 ·refine .aj (.z zm (.z zg (.zn zg (.ret (rT (Fin.iO Tryz.results56 rfl rfl ?_))))))
  exact ⟨H1,_,[],_,hle1,rfl,RS.nil H1 2 none 0,.bad hC hc12,hs.out⟩
 ·refine .skip (nT (.aj (.zn zg (.seq ?_))))
  have hok:dq s:=hC.cz.1 ak
  have hsm:=dN hok.early.1
  refine .aj (.z (zfa aT) (.z (zfa aU) (.y hs (zld aq) (.z (cJ ae) (.zn zm (.for (N:=s.sp.wa.length) (J:=fun k fr w=>∃H2 vo L en,fr=[(5,vo),(1,Pt b1)]∧HLe H1 H2∧L.length=k∧(∀i<k,∃x,L[i]? =some x∧uZ s i x.lo x.hi 0)∧(0<k→s.sys.Sound)∧cq 2 vo (rgc L).flatten en∧St H2 w (en:: .blk b1 (svC s a (.slice aw s.sp.wa.length cw) c d)::σ)) ak ?_ ?_ ?_))))))
  ·exact .mk ⟨H1,_,[],.nul,rfl,HLe.refl _,rfl,fun i hi=>by omega,fun h=>by omega,.nil 2 none,hs.nul⟩
  ·rintro k fr w hk ⟨H2,vo,L,en,rfl,hle2,hLl,hLs,hsd,hO,hs⟩
   obtain ⟨ao,co,rfl⟩:=hO.lh (yw _) ak
   rw [iF] at*
   refine .block (.aj (.z zm (.zn zg (.aj (.y hs (zls [_,_,_,_,_,_,_,_] aI aB) (.z zm (.o (.call Tryz.call122 rfl (nx (s:=s) hs (g.mono (hle1.trans hle2)) hok) ?_))))))));rintro _ w ⟨H3,lo,hi,e,hle3,rfl,hL,hs⟩
   have hle03:=hle1.trans (hle2.trans hle3)
   refine .z zm (.z zex (.z zex (.o (.alloc hs aW rfl fun b7 w hs=>?_))))
   refine .o (.aO (vs:=[_,_]) hs rfl rfl an fun w hs=>?_)
   refine .zn zg (.seq (.aj (.z zm (.zn gv (.dP rfl (fun hc28=>?_) (fun hc28=>?_))))))
   ·refine .aj (.z zm (.z zg (.zn zg (.ret (rT (rB (rT (rB (rT (Fin.iO Tryz.results56 rfl rfl ?_))))))))))
    exact ⟨H3,_,[],_,hle03,rfl,RS.nil H3 2 none 0,by rcases hL.err hok hk with h|h;exact (hc28 h.1).elim;rw [h.1];exact .fls hok h.2.1,hs.out⟩
   ·refine .skip (nT (.region (.z zm (.y hs (zls [_,_] aC an) (.o (.buildSlice (cells:=(Rng.mk lo hi).c) hs gW rfl aD fun b32 w hs=>?_))))))
    refine .o (.append (ys:=(Rng.mk lo hi).c) hs fK rfl rfl hO (.own .here rfl rfl) (by simp [Rng.c,Value.oneCell']) (fun l h=>by rw [bV _ (yw _),iF] at h;omega) ?_);intro v33 en33 w hO2 hs
    rw [←yv] at hO2
    refine .zn zg (nB (nT ?_))
    obtain rfl:e=0:=by omega
    exact .mk ⟨H3,_,L++[⟨lo,hi⟩],_,rfl,hle2.trans hle3,by simp [hLl],fun i hi'=>by
     by_cases e:i=k
     ·subst e;exact ⟨⟨lo,hi⟩,by rw [List.getElem?_append_right ak,hLl,Nat.sub_self];rfl,hL⟩
     ·rw [List.getElem?_append_left ak];exact hLs i ak,fun _=>(hL.err hok hk).elim (fun h=>h.2) (fun h=>by omega),hO2,hs.sb⟩
  ·rintro fr w ⟨H2,vo,L,en,rfl,hle2,hLl,hLs,hsd,hO,hs⟩
   obtain ⟨H4,hle4,hR,hs⟩:=cq.cH (m:=2) hO (yw _) ak (by rw [iF];omega) hs .here
   refine nT (.aj (.z zm (.z zg (.zn zg (.ret (Fin.iO Tryz.results56 rfl rfl ?_))))))
   exact ⟨H4,_,L,_,hle1.trans (hle2.trans hle4),rfl,hR,.ok hok (hsd ak) hLl hLs,hs.out⟩
set_option maxHeartbeats 1000000 in
theorem mL{s:Srv}{m:Rng}{x y:Int}{a b c d:Value}(hs:St H w σ)(g:SvM H s a b c d):
  Cl Tryz.prog 49 [svA s a b c d,.agg #[I m.lo,I m.hi],.agg #[I x,I y]] w fun u w'=>∃H1 lo hi e,HLe H H1∧u= .tuple #[.agg #[I lo,I hi],I e]∧CZ s m x y lo hi e∧St H1 w' σ:=by
 obtain ⟨aw,cw,rfl⟩:=RI.shape g.wa
 refine Cl.o Tryz.func49 Tryz.ntmps49 ag3 ?_
 refine .aj (.bx hs fun b3 w hs=>?_)
 refine .bx hs fun b4 w hs=>?_
 refine .bx hs fun b5 w hs=>?_
 refine .o (.alloc hs aW rfl fun b6 w hs=>?_)
 refine .zn zg (.seq (.aj (.y hs (zls [_,_,_,_,_,_,_,_] aI aB) (.o (.call wR rfl (ew (s:=s) hs g.st g.wa g.rd g.cm) ?_)))));rintro _ w ⟨H1,e,hle1,rfl,hC,hs⟩
 refine .zn zg (.aj (.z zm (.zn gv (.dP rfl (fun hc16=>?_) (fun hc16=>?_)))))
 ·refine .aj (.z (zbd [_,_] aZ) (.z zm (.o (.aO (vs:=[_,_]) hs rfl rfl an fun w hs=>?_))))
  refine .zn zg (.ret (rT (?_)))
  exact Fin.fZ [] [] hs fun w hs=>⟨_,results2 pZ (cB (vs:=[_,_]) hs rfl aC an) rfl,H1,_,_,_,hle1,rfl,.bad hC hc16,hs.out⟩
 ·refine .skip (nT (.seq (.block (.aj (.y hs (zls [_,_] aC an) ?_)))))
  have hok:dq s:=hC.cz.1 ak
  have hsm:=dN hok.early.1
  refine .o (.call Tryz.call109 rfl (kz hs) ?_);rintro _ w ⟨rfl,hs⟩
  refine .z fY (.zn zg (.cond rfl (fun hc19=>?_) (fun hc19=>?_)))
  ·refine .aj (.z (zbd [_,_] aZ) (.o (.aO (vs:=[_,_]) hs rfl rfl an fun w hs=>?_)))
   refine .zn zg (.ret (rB (rT (?_))))
   exact Fin.fZ [] [] hs fun w hs=>⟨_,results2 pZ (cB (vs:=[_,_]) hs rfl aC an) rfl,H1,_,_,_,hle1,rfl,.qB hok (by simpa using hc19),hs.out⟩
  ·refine .aj (.y hs (zls [_,_] aC an) ?_)
   have hm:fI m.lo m.hi:=by simpa using hc19
   refine .o (.call Tryz.call118 rfl (jR hs) ?_);rintro _ w ⟨rfl,hs⟩
   refine .z fY (.zn zg (.cond rfl (fun hc24=>?_) (fun hc24=>?_)))
   ·refine .aj (.z (zbd [_,_] aZ) (.o (.aO (vs:=[_,_]) hs rfl rfl an fun w hs=>?_)))
    refine .zn zg (.ret (rB (rT (?_))))
    exact Fin.fZ [] [] hs fun w hs=>⟨_,results2 pZ (cB (vs:=[_,_]) hs rfl aC an) rfl,H1,_,_,_,hle1,rfl,.dense hok hm (by simpa using hc24),hs.out⟩
   ·refine .skip (nB (nT ?_))
    have hdn:ea x y:=by simpa using hc24
    refine .aj (.z (zbd [_,_] aZ) (.o (.alloc hs aW rfl fun b9 w hs=>?_)))
    refine .o (.aO (vs:=[_,_]) hs rfl rfl an fun w hs=>?_)
    refine .nil (.seq (.aj (.z (zfa aT) (.z (zfa aU) (.y hs (zld aq) (.z (cJ ae) (.zn zm (.for (N:=s.sp.wa.length) (J:=fun k fr w=>∃(H2:bM) (dd uu:Nat→Int),fr=[(9,Pt b9),(6,Pt b6),(5,Pt b5),(4,Pt b4),(3,Pt b3)]∧HLe H1 H2∧(∀i<k,iS s i x y (dd i) (uu i) 0)∧(0<k→s.sys.Sound)∧St H2 w (.blk b9 [I (dw (fun i=>decide (m.lo≤uu i)) k),I (dw (fun i=>decide (m.hi≤dd i)) k)]:: .blk b6 [I 0,I 0]:: .blk b5 [I x,I y]:: .blk b4 [I m.lo,I m.hi]:: .blk b3 (svC s a (.slice aw s.sp.wa.length cw) c d)::σ)) ak ?_ ?_ ?_))))))))
    ·exact .mk ⟨H1,fun _=>0,fun _=>0,rfl,HLe.refl _,fun i hi=>by omega,fun h=>by omega,hs.sb⟩
    ·rintro k fr w hk ⟨H2,dd,uu,rfl,hle2,hds,hsd,hs⟩
     have hA0:=mQ (fun i=>decide (m.lo≤uu i)) k
     have hB0:=mQ (fun i=>decide (m.hi≤dd i)) k
     have hA1:∀z,dw (fun i=>decide (m.lo≤gZ uu k z i)) k=dw (fun i=>decide (m.lo≤uu i)) k:=fun z=>ik fun i hi=>by rw [mg _ _ hi]
     have hB1:∀z,dw (fun i=>decide (m.hi≤gZ dd k z i)) k=dw (fun i=>decide (m.hi≤dd i)) k:=fun z=>ik fun i hi=>by rw [mg _ _ hi]
     generalize dw (fun i=>decide (m.lo≤uu i)) k=A at*
     generalize dw (fun i=>decide (m.hi≤dd i)) k=B at*
     refine .block (.aj (.z zm (.zn zg (.aj (.y hs (zls [_,_,_,_,_,_,_,_] aI aB) (.z zm (.y hs (zls [_,_] aC an) (.o (.call Gx rfl (dV (s:=s) hs (g.mono (hle1.trans hle2)) hok hdn) ?_)))))))));rintro _ w ⟨H3,lo,hi,e,hle3,rfl,hS,hs⟩
     have hle03:=hle1.trans (hle2.trans hle3)
     have hA2:dw (fun i=>decide (m.lo≤gZ uu k hi i)) (k+1)=if A<0∧m.lo≤hi then (k:Int) else A:=by simp only [dw,hA1,mh,decide_eq_true_eq]
     have hB2:dw (fun i=>decide (m.hi≤gZ dd k lo i)) (k+1)=if B<0∧m.hi≤lo then (k:Int) else B:=by simp only [dw,hB1,mh,decide_eq_true_eq]
     refine .z zm (.z zex (.z zex (.o (.alloc hs aW rfl fun b11 w hs=>?_))))
     refine .o (.aO (vs:=[_,_]) hs rfl rfl an fun w hs=>?_)
     refine .zn zg (.seq (.aj (.z zm (.zn gv (.dP rfl (fun hc45=>?_) (fun hc45=>?_))))))
     ·refine .aj (.z (zbd [_,_] aZ) (.z zm (.o (.aO (vs:=[_,_]) hs rfl rfl an fun w hs=>?_))))
      refine .zn zg (.ret (rT (rB (rT (rB (rT (?_)))))))
      exact Fin.fZ [] [] hs fun w hs=>⟨_,results2 pZ (cB (vs:=[_,_]) hs rfl aC an) rfl,H3,_,_,_,hle03,rfl,by rcases hS.err hok hk with h|h;exact (hc45 h.1).elim;rw [h.1];exact .fls hok hm hdn h.2.1,hs.out⟩
     ·refine .skip (nT (.seq (.aj (.z (zfa aQ) (.y hs (zld af) (.z fi (.z zm (.fF (t':=51) rfl (fun hb51=>?_) (fun hb51=>?_)))))))))
      ·refine .T (.z (zfa aN) (.T (.y hs (zld af) (.T (.z (zfa aQ) (.T (.y hs (zld af) (.T (.z nY (.zn zpT (.bw rfl (fun hc57=>?_) (fun hc57=>?_))))))))))))
       ·refine .region (.z zm (.z (zfa aQ) (.o (.store hs rfl rfl ai fun w hs=>?_))))
        refine .nil (nT (.aj (.z (zfa aN) (.y hs (zld af) (.z fi (.z zm (.fF (t':=63) rfl (fun hb63=>?_) (fun hb63=>?_))))))))
        ·refine .T (.z (zfa aQ) (.T (.y hs (zld af) (.T (.z (zfa aN) (.T (.y hs (zld af) (.T (.z nY (.zn zpT (.bw rfl (fun hc69=>?_) (fun hc69=>?_))))))))))))
         ·refine .region (.z zm (.z (zfa aN) (.o (.store hs rfl rfl ai fun w hs=>?_))))
          refine .nil (nB (nT ?_))
          obtain rfl:e=0:=by omega
          refine .mk ⟨H3,gZ dd k lo,gZ uu k hi,rfl,hle2.trans hle3,dL hds hS,fun _=>(hS.err hok hk).elim (fun h=>h.2) (fun h=>by omega),?_⟩
          rw [hA2,hB2]
          first
           |rw [if_pos ak,if_pos ak];exact hs.sb
           |rw [if_pos ak,if_neg ak];exact hs.sb
           |rw [if_neg ak,if_pos ak];exact hs.sb
           |rw [if_neg ak,if_neg ak];exact hs.sb
         ·refine .skip (nB (nT ?_))
          obtain rfl:e=0:=by omega
          refine .mk ⟨H3,gZ dd k lo,gZ uu k hi,rfl,hle2.trans hle3,dL hds hS,fun _=>(hS.err hok hk).elim (fun h=>h.2) (fun h=>by omega),?_⟩
          rw [hA2,hB2]
          first
           |rw [if_pos ak,if_pos ak];exact hs.sb
           |rw [if_pos ak,if_neg ak];exact hs.sb
           |rw [if_neg ak,if_pos ak];exact hs.sb
           |rw [if_neg ak,if_neg ak];exact hs.sb
        ·refine .Fs 5 3 true (.zn zpF (.cF (.skip (nB (nT ?_)))))
         obtain rfl:e=0:=by omega
         refine .mk ⟨H3,gZ dd k lo,gZ uu k hi,rfl,hle2.trans hle3,dL hds hS,fun _=>(hS.err hok hk).elim (fun h=>h.2) (fun h=>by omega),?_⟩
         rw [hA2,hB2]
         first
          |rw [if_pos ak,if_pos ak];exact hs.sb
          |rw [if_pos ak,if_neg ak];exact hs.sb
          |rw [if_neg ak,if_pos ak];exact hs.sb
          |rw [if_neg ak,if_neg ak];exact hs.sb
       ·refine .skip (nT (.aj (.z (zfa aN) (.y hs (zld af) (.z fi (.z zm (.fF (t':=63) rfl (fun hb63=>?_) (fun hb63=>?_))))))))
        ·refine .T (.z (zfa aQ) (.T (.y hs (zld af) (.T (.z (zfa aN) (.T (.y hs (zld af) (.T (.z nY (.zn zpT (.bw rfl (fun hc69=>?_) (fun hc69=>?_))))))))))))
         ·refine .region (.z zm (.z (zfa aN) (.o (.store hs rfl rfl ai fun w hs=>?_))))
          refine .nil (nB (nT ?_))
          obtain rfl:e=0:=by omega
          refine .mk ⟨H3,gZ dd k lo,gZ uu k hi,rfl,hle2.trans hle3,dL hds hS,fun _=>(hS.err hok hk).elim (fun h=>h.2) (fun h=>by omega),?_⟩
          rw [hA2,hB2]
          first
           |rw [if_pos ak,if_pos ak];exact hs.sb
           |rw [if_pos ak,if_neg ak];exact hs.sb
           |rw [if_neg ak,if_pos ak];exact hs.sb
           |rw [if_neg ak,if_neg ak];exact hs.sb
         ·refine .skip (nB (nT ?_))
          obtain rfl:e=0:=by omega
          refine .mk ⟨H3,gZ dd k lo,gZ uu k hi,rfl,hle2.trans hle3,dL hds hS,fun _=>(hS.err hok hk).elim (fun h=>h.2) (fun h=>by omega),?_⟩
          rw [hA2,hB2]
          first
           |rw [if_pos ak,if_pos ak];exact hs.sb
           |rw [if_pos ak,if_neg ak];exact hs.sb
           |rw [if_neg ak,if_pos ak];exact hs.sb
           |rw [if_neg ak,if_neg ak];exact hs.sb
        ·refine .Fs 5 3 true (.zn zpF (.cF (.skip (nB (nT ?_)))))
         obtain rfl:e=0:=by omega
         refine .mk ⟨H3,gZ dd k lo,gZ uu k hi,rfl,hle2.trans hle3,dL hds hS,fun _=>(hS.err hok hk).elim (fun h=>h.2) (fun h=>by omega),?_⟩
         rw [hA2,hB2]
         first
          |rw [if_pos ak,if_pos ak];exact hs.sb
          |rw [if_pos ak,if_neg ak];exact hs.sb
          |rw [if_neg ak,if_pos ak];exact hs.sb
          |rw [if_neg ak,if_neg ak];exact hs.sb
      ·refine .Fs 5 3 true (.zn zpF (.cF (.skip (nT (.aj (.z (zfa aN) (.y hs (zld af) (.z fi (.z zm (.fF (t':=63) rfl (fun hb63=>?_) (fun hb63=>?_)))))))))))
       ·refine .T (.z (zfa aQ) (.T (.y hs (zld af) (.T (.z (zfa aN) (.T (.y hs (zld af) (.T (.z nY (.zn zpT (.bw rfl (fun hc69=>?_) (fun hc69=>?_))))))))))))
        ·refine .region (.z zm (.z (zfa aN) (.o (.store hs rfl rfl ai fun w hs=>?_))))
         refine .nil (nB (nT ?_))
         obtain rfl:e=0:=by omega
         refine .mk ⟨H3,gZ dd k lo,gZ uu k hi,rfl,hle2.trans hle3,dL hds hS,fun _=>(hS.err hok hk).elim (fun h=>h.2) (fun h=>by omega),?_⟩
         rw [hA2,hB2]
         first
          |rw [if_pos ak,if_pos ak];exact hs.sb
          |rw [if_pos ak,if_neg ak];exact hs.sb
          |rw [if_neg ak,if_pos ak];exact hs.sb
          |rw [if_neg ak,if_neg ak];exact hs.sb
        ·refine .skip (nB (nT ?_))
         obtain rfl:e=0:=by omega
         refine .mk ⟨H3,gZ dd k lo,gZ uu k hi,rfl,hle2.trans hle3,dL hds hS,fun _=>(hS.err hok hk).elim (fun h=>h.2) (fun h=>by omega),?_⟩
         rw [hA2,hB2]
         first
          |rw [if_pos ak,if_pos ak];exact hs.sb
          |rw [if_pos ak,if_neg ak];exact hs.sb
          |rw [if_neg ak,if_pos ak];exact hs.sb
          |rw [if_neg ak,if_neg ak];exact hs.sb
       ·refine .Fs 5 3 true (.zn zpF (.cF (.skip (nB (nT ?_)))))
        obtain rfl:e=0:=by omega
        refine .mk ⟨H3,gZ dd k lo,gZ uu k hi,rfl,hle2.trans hle3,dL hds hS,fun _=>(hS.err hok hk).elim (fun h=>h.2) (fun h=>by omega),?_⟩
        rw [hA2,hB2]
        first
         |rw [if_pos ak,if_pos ak];exact hs.sb
         |rw [if_pos ak,if_neg ak];exact hs.sb
         |rw [if_neg ak,if_pos ak];exact hs.sb
         |rw [if_neg ak,if_neg ak];exact hs.sb
    ·rintro fr w ⟨H2,dd,uu,rfl,hle2,hds,hsd,hs⟩
     have hsd:=hsd ak
     have hle02:=hle1.trans hle2
     refine nT (.seq (.aj (.z (zfa aQ) (.y hs (zld af) (.z fi (.z zm (.fF (t':=76) rfl (fun hb76=>?_) (fun hb76=>?_))))))))
     ·refine .Fs 3 3 false (.zn zpT (.cT (.aj (.z (zbd [_,_] aZ) (.o (.aO (vs:=[_,_]) hs rfl rfl an fun w hs=>?_))))))
      refine .zn zg (.ret (rT (?_)))
      exact Fin.fZ [] [] hs fun w hs=>⟨_,results2 pZ (cB (vs:=[_,_]) hs rfl aC an) rfl,H2,_,_,_,hle02,rfl,.none hok hm hdn hsd hds ak,hs.out⟩
     ·refine .T (.z (zfa aN) (.T (.y hs (zld af) (.T (.z fi (.zn zpF (.bw rfl (fun hc80=>?_) (fun hc80=>?_))))))))
      ·refine .aj (.z (zbd [_,_] aZ) (.o (.aO (vs:=[_,_]) hs rfl rfl an fun w hs=>?_)))
       refine .zn zg (.ret (rT (?_)))
       exact Fin.fZ [] [] hs fun w hs=>⟨_,results2 pZ (cB (vs:=[_,_]) hs rfl aC an) rfl,H2,_,_,_,hle02,rfl,.none hok hm hdn hsd hds ak,hs.out⟩
      ·refine .skip (nT (.aj (.y hs (zls [_,_] aC an) (.o (.aO (vs:=[_,_]) hs rfl rfl an fun w hs=>?_)))))
       refine .zn zg (.ret ?_)
       exact Fin.fZ [] [] hs fun w hs=>⟨_,results2 pZ (cB (vs:=[_,_]) hs rfl aC an) rfl,H2,_,_,_,hle02,rfl,.ok hok hm hdn hsd hds ak ak,hs.out⟩
theorem nq{s:Srv}{a b c d:Value}(hs:St H w σ)(g:SvM H s a b c d):
  Cl Tryz.prog 57 [svA s a b c d] w fun u w'=>∃H1 v L e,HLe H H1∧u= .tuple #[v,I e]∧RRg H1 v L∧EY s L e∧St H1 w' σ:=by
 obtain ⟨aw,cw,rfl⟩:=RI.shape g.wa
 have hlw:=(RI.len g.wa).2.2
 refine Cl.o Tryz.func57 Tryz.ntmps57 ag1 ?_
 refine .aj (.bx hs fun b1 w hs=>?_)
 refine .z zg (.zn zg (.aj (.y hs (zls [_,_,_,_,_,_,_,_] aI aB) (.o (.call Tryz.call123 rfl (iW (s:=s) hs g.st g.wa g.rd g.cm) ?_)))));rintro _ w ⟨H1,e,hle1,rfl,hC,hs⟩
 refine .zn zg (.seq (.aj (.z zm (.zn gv (.dP rfl (fun hc12=>?_) (fun hc12=>?_))))))
 ·refine .aj (.z zm (.z zg (.zn zg (.ret (rT (Fin.iO Tryz.results57 rfl rfl ?_))))))
  exact ⟨H1,_,[],_,hle1,rfl,RS.nil H1 2 none 0,.bad hC hc12,hs.out⟩
 ·refine .skip (nT (.aj (.zn zg (.seq (.aj (.zn zg (.block ?_)))))))
  have hok:dq s:=hC.cz.1 ak
  have hsm:=dN hok.early.1
  refine .loop (fun p:Nat×bM×Value×List Rng×Ent=>⟨36,[],[(6,I (p.1:Int)),(5,p.2.2.1),(1,Pt b1)]⟩)
   (fun p w=>p.1≤s.sp.wa.length∧HLe H1 p.2.1∧p.2.2.2.1.length=p.1∧(∀i<p.1,∃x,p.2.2.2.1[i]? =some x∧uZ s i x.lo x.hi 0)∧(0<p.1→s.sys.Sound)∧cq 2 p.2.2.1 (rgc p.2.2.2.1).flatten p.2.2.2.2∧St p.2.1 w (p.2.2.2.2:: .blk b1 (svC s a (.slice aw s.sp.wa.length cw) c d)::σ)) (fun p=>s.sp.wa.length - p.1) (0,H1,_,[],.nul) aR
   ⟨Nat.zero_le _,HLe.refl _,rfl,fun i hi=>(by dsimp only at hi;omega),fun h=>(by dsimp only at h;omega),.nil 2 none,hs.nul.sb⟩ ?_
  rintro ⟨k,H2,vo,L,en⟩ w ⟨hk,hle2,hLl,hLs,hsd,hO,hs⟩
  dsimp only at hk hle2 hLl hLs hsd hO hs ⊢
  obtain ⟨ao,co,rfl⟩:=hO.lh (yw _) ak
  rw [iF] at*
  refine .seq (.aj (.z zm (.z (zfa aT) (.z (zfa aU) (.y hs (zld aq) (.z (cJ ae) (.zn fi (.bw rfl (fun hc19=>?_) (fun hc19=>?_)))))))))
  ·refine .skip (nT (.seq (.block (.aj (.y hs (zls [_,_,_,_,_,_,_,_] aI aB) (.z zm ?_))))))
   have hkl:k<s.sp.wa.length:=by omega
   refine .o (.call Tryz.call83 rfl (mF (s:=s) hs (g.mono (hle1.trans hle2)) hok) ?_);rintro _ w ⟨H3,lo,hi,e,hle3,rfl,hL,hs⟩
   have hle03:=hle1.trans (hle2.trans hle3)
   refine .z zm (.z zex (.z zex (.o (.alloc hs aW rfl fun b7 w hs=>?_))))
   refine .o (.aO (vs:=[_,_]) hs rfl rfl an fun w hs=>?_)
   refine .zn zg (.seq (.aj (.z zm (.zn gv (.dP rfl (fun hc29=>?_) (fun hc29=>?_))))))
   ·refine .aj (.z zm (.z zg (.zn zg (.ret (rT (rB (rT (rT (rB (rT (Fin.iO Tryz.results57 rfl rfl ?_)))))))))))
    exact ⟨H3,_,[],_,hle03,rfl,RS.nil H3 2 none 0,by rcases hL.err hok hkl with h|h;exact (hc29 h.1).elim;rw [h.1];exact .fls hok h.2.1,hs.out⟩
   ·refine .skip (nT (.region (.z zm (.y hs (zls [_,_] aC an) (.o (.buildSlice (cells:=(Rng.mk lo hi).c) hs gW rfl aD fun b33 w hs=>?_))))))
    refine .o (.append (ys:=(Rng.mk lo hi).c) hs fK rfl rfl hO (.own .here rfl rfl) (by simp [Rng.c,Value.oneCell']) (fun l h=>by rw [bV _ (yw _),iF] at h;omega) ?_);intro v34 en34 w hO2 hs
    rw [←yv] at hO2
    refine .zn zg (nB (nT (.region (.z zm (.z cn (.zn zg (nT ?_)))))))
    obtain rfl:e=0:=by omega
    exact ⟨(k+1,H3,v34,L++[⟨lo,hi⟩],en34),.bT rfl bJ aR,⟨by dsimp only;omega,hle2.trans hle3,by simp [hLl],fun i hi'=>by
     dsimp only at hi' ⊢
     by_cases e:i=k
     ·subst e;exact ⟨⟨lo,hi⟩,by rw [List.getElem?_append_right ak,hLl,Nat.sub_self];rfl,hL⟩
     ·rw [List.getElem?_append_left ak];exact hLs i ak,fun _=>(hL.err hok hkl).elim (fun h=>h.2) (fun h=>by omega),hO2,hs.sb⟩,by dsimp only;omega⟩
  ·refine .exit (xT (xT (xB (nT (.aj ?_)))))
   obtain ⟨H4,hle4,hR,hs⟩:=cq.cH (m:=2) hO (yw _) ak (by rw [iF];omega) hs .here
   refine .z zm (.z zg (.zn zg (.ret (Fin.iO Tryz.results57 rfl rfl ?_))))
   exact ⟨H4,_,L,_,hle1.trans (hle2.trans hle4),rfl,hR,.ok hok (hsd ak) ak (fun i hi=>hLs i ak),hs.out⟩
theorem mX{s:Srv}{k:Int}{a b c d:Value}{x y:Int}(hs:St H w σ)(g:SvM H s a b c d):
  Cl Tryz.prog 59 [svA s a b c d,I k,.agg #[I x,I y]] w fun u w'=>∃H1 lo hi e,HLe H H1∧u= .tuple #[.agg #[I lo,I hi],I e]∧xo s k x y lo hi e∧St H1 w' σ:=by
 obtain ⟨aw,cw,rfl⟩:=RI.shape g.wa
 have hlw:=(RI.len g.wa).2.2
 refine Cl.o Tryz.func59 Tryz.ntmps59 ag3 ?_
 refine .aj (.bx hs fun b3 w hs=>?_)
 refine .bx hs fun b5 w hs=>?_
 refine .o (.alloc hs aW rfl fun b6 w hs=>?_)
 refine .zn zg (.aj (.y hs (zls [_,_,_,_,_,_,_,_] aI aB) (.o (.call Tryz.call123 rfl (iW (s:=s) hs g.st g.wa g.rd g.cm) ?_))));rintro _ w ⟨H1,e,hle1,rfl,hC,hs⟩
 refine .zn zg (.seq (.aj (.z zm (.zn gv (.dP rfl (fun hc14=>?_) (fun hc14=>?_))))))
 ·refine .aj (.z (zbd [_,_] aZ) (.z zm (.o (.aO (vs:=[_,_]) hs rfl rfl an fun w hs=>?_))))
  refine .zn zg (.ret (rT (?_)))
  exact Fin.fZ [] [] hs fun w hs=>⟨_,results2 Gu (cB (vs:=[_,_]) hs rfl aC an) rfl,H1,_,_,_,hle1,rfl,.bad hC hc14,hs.out⟩
 ·refine .skip (nT (.seq (.aj ?_)))
  have hok:dq s:=hC.cz.1 ak
  have hsm:=dN hok.early.1
  refine .z zm (.z (zfa aT) (.z (zfa aU) (.y hs (zld aq) (.z (cJ ae) (.z gz (.o (.call Tryz.call74 rfl (yx hs) ?_)))))));rintro _ w ⟨rfl,hs⟩
  refine .zn fY (.cond rfl (fun hc24=>?_) (fun hc24=>?_))
  ·refine .aj (.z (zbd [_,_] aZ) (.o (.aO (vs:=[_,_]) hs rfl rfl an fun w hs=>?_)))
   refine .zn zg (.ret (rT (?_)))
   exact Fin.fZ [] [] hs fun w hs=>⟨_,results2 Gu (cB (vs:=[_,_]) hs rfl aC an) rfl,H1,_,_,_,hle1,rfl,.water hok (by simp at hc24;omega),hs.out⟩
  ·refine .skip (nT (.seq (.aj (.y hs (zls [_,_] aC an) ?_))))
   have hk:0≤k∧k≤(s.sp.wa.length:Int) - 1:=by simpa using hc24
   refine .o (.call Tryz.call124 rfl (lV hs) ?_);rintro _ w ⟨rfl,hs⟩
   refine .zn fY (.cond rfl (fun hc28=>?_) (fun hc28=>?_))
   ·refine .aj (.z (zbd [_,_] aZ) (.o (.aO (vs:=[_,_]) hs rfl rfl an fun w hs=>?_)))
    refine .zn zg (.ret (rT (?_)))
    exact Fin.fZ [] [] hs fun w hs=>⟨_,results2 Gu (cB (vs:=[_,_]) hs rfl aC an) rfl,H1,_,_,_,hle1,rfl,.dense hok hk (by simpa using hc28),hs.out⟩
   ·refine .skip (nT (.aj (.y hs (zls [_,_,_,_,_,_,_,_] aI aB) (.z zm ?_))))
    have hdn:ea x y:=by simpa using hc28
    obtain ⟨j,rfl⟩:∃j:Nat,k=(j:Int):=⟨k.toNat,ak⟩
    refine .o (.call Tryz.call83 rfl (mF (s:=s) hs (g.mono hle1) hok) ?_);rintro _ w ⟨H2,lo,hi,e,hle2,rfl,hL,hs⟩
    have hb:=hL.bd
    refine .z zm (.z zex (.z zex (.o (.alloc hs aW rfl fun b9 w hs=>?_))))
    refine .o (.aO (vs:=[_,_]) hs rfl rfl an fun w hs=>?_)
    refine .zn zg (.seq (.aj (.z zm (.zn gv (.dP rfl (fun hc37=>?_) (fun hc37=>?_))))))
    ·refine .aj (.z (zbd [_,_] aZ) (.z zm (.o (.aO (vs:=[_,_]) hs rfl rfl an fun w hs=>?_))))
     refine .zn zg (.ret (rT (?_)))
     exact Fin.fZ [] [] hs fun w hs=>⟨_,results2 Gu (cB (vs:=[_,_]) hs rfl aC an) rfl,H2,_,_,_,hle1.trans hle2,rfl,.go hok hk hdn (by rw [Int.toNat_natCast];exact .fls hL hc37),hs.out⟩
    ·refine .skip (nT (.aj (.y hs (zls [_,_] aC an) (.y hs (zls [_,_] aC an) ?_))))
     obtain rfl:e=0:=by omega
     refine .o (.call Tryz.call85 rfl (jL hs ak ak hdn) ?_);rintro _ w ⟨rfl,hs⟩
     refine .o (.aO (vs:=[_,_]) hs rfl rfl an fun w hs=>?_)
     refine .zn zg (.ret ?_)
     exact Fin.fZ [] [] hs fun w hs=>⟨_,results2 Gu (cB (vs:=[_,_]) hs rfl aC an) rfl,H2,_,_,_,hle1.trans hle2,rfl,.go hok hk hdn (by rw [Int.toNat_natCast];exact .ok hL),hs.out⟩
set_option maxHeartbeats 1000000 in
theorem rf{s:Srv}{m:Rng}{x y:Int}{a b c d:Value}(hs:St H w σ)(g:SvM H s a b c d):
  Cl Tryz.prog 60 [svA s a b c d,.agg #[I m.lo,I m.hi],.agg #[I x,I y]] w fun u w'=>∃H1 lo hi e,HLe H H1∧u= .tuple #[.agg #[I lo,I hi],I e]∧CZ s m x y lo hi e∧St H1 w' σ:=by
 refine Cl.o Tryz.func60 Tryz.ntmps60 ag3 ?_
 refine .aj (.bx hs fun b3 w hs=>?_)
 refine .bx hs fun b4 w hs=>?_
 refine .bx hs fun b5 w hs=>?_
 refine .o (.alloc hs aW rfl fun b6 w hs=>?_)
 refine .zn zg (.aj (.y hs (zls [_,_,_,_,_,_,_,_] aI aB) (.o (.call Tryz.call123 rfl (iW (s:=s) hs g.st g.wa g.rd g.cm) ?_))));rintro _ w ⟨H1,e,hle1,rfl,hC,hs⟩
 refine .zn zg (.seq (.aj (.z zm (.zn gv (.dP rfl (fun hc17=>?_) (fun hc17=>?_))))))
 ·refine .aj (.z (zbd [_,_] aZ) (.z zm (.o (.aO (vs:=[_,_]) hs rfl rfl an fun w hs=>?_))))
  refine .zn zg (.ret (rT (?_)))
  exact Fin.fZ [] [] hs fun w hs=>⟨_,results2 pY (cB (vs:=[_,_]) hs rfl aC an) rfl,H1,_,_,_,hle1,rfl,.bad hC hc17,hs.out⟩
 ·refine .skip (nT (.seq (.aj (.y hs (zls [_,_] aC an) ?_))))
  have hok:dq s:=hC.cz.1 ak
  have hsm:=dN hok.early.1
  refine .o (.call Tryz.call53 rfl (sJ hs) ?_);rintro _ w ⟨rfl,hs⟩
  refine .zn fY (.cond rfl (fun hc22=>?_) (fun hc22=>?_))
  ·refine .aj (.z (zbd [_,_] aZ) (.o (.aO (vs:=[_,_]) hs rfl rfl an fun w hs=>?_)))
   refine .zn zg (.ret (rT (?_)))
   exact Fin.fZ [] [] hs fun w hs=>⟨_,results2 pY (cB (vs:=[_,_]) hs rfl aC an) rfl,H1,_,_,_,hle1,rfl,.qB hok (by simpa using hc22),hs.out⟩
  ·refine .skip (nT (.seq (.aj (.y hs (zls [_,_] aC an) ?_))))
   have hm:fI m.lo m.hi:=by simpa using hc22
   refine .o (.call Tryz.call124 rfl (lV hs) ?_);rintro _ w ⟨rfl,hs⟩
   refine .zn fY (.cond rfl (fun hc26=>?_) (fun hc26=>?_))
   ·refine .aj (.z (zbd [_,_] aZ) (.o (.aO (vs:=[_,_]) hs rfl rfl an fun w hs=>?_)))
    refine .zn zg (.ret (rT (?_)))
    exact Fin.fZ [] [] hs fun w hs=>⟨_,results2 pY (cB (vs:=[_,_]) hs rfl aC an) rfl,H1,_,_,_,hle1,rfl,.dense hok hm (by simpa using hc26),hs.out⟩
   ·refine .skip (nT (.aj (.y hs (zls [_,_,_,_,_,_,_,_] aI aB) ?_)))
    have hdn:ea x y:=by simpa using hc26
    refine .o (.call Tryz.call57 rfl (nq (s:=s) hs (g.mono hle1)) ?_);rintro _ w ⟨H2,vo,L,e,hle2,rfl,hRL,hT,hs⟩
    have hle02:=hle1.trans hle2
    have hTe:=hT.err hok
    obtain ⟨aL,cL,rfl⟩:=hRL.shape
    have hLlen:=(RS.len hRL).2.2
    refine .z zm (.z zex (.z zex (.z zg (.zn zg (.seq (.aj (.z zm (.zn gv (.dP rfl (fun hc34=>?_) (fun hc34=>?_))))))))))
    ·refine .aj (.z (zbd [_,_] aZ) (.z zm (.o (.aO (vs:=[_,_]) hs rfl rfl an fun w hs=>?_))))
     refine .zn zg (.ret (rT (?_)))
     exact Fin.fZ [] [] hs fun w hs=>⟨_,results2 pY (cB (vs:=[_,_]) hs rfl aC an) rfl,H2,_,_,_,hle02,rfl,by rcases hTe with h|h;exact (hc34 h.1).elim;rw [h.1];exact .fls hok hm hdn h.2,hs.out⟩
    ·refine .skip (nT (.aj (.z (zbd [_,_] aZ) (.o (.alloc hs aW rfl fun b11 w hs=>?_)))))
     refine .o (.aO (vs:=[_,_]) hs rfl rfl an fun w hs=>?_)
     refine .nil (.seq (.aj (.zn zg (.block ?_))))
     obtain ⟨-,hsd,hLl,hLs⟩:=hTe.resolve_right fun h=>by omega
     refine .loop (fun p:Nat×(Nat→Int)×(Nat→Int)=>⟨84,[],[(12,I (p.1:Int)),(11,Pt b11),(9,.slice aL L.length cL),(6,Pt b6),(5,Pt b5),(4,Pt b4)]⟩)
      (fun p w=>p.1≤L.length∧(∀i<p.1,iS s i x y (p.2.1 i) (p.2.2 i) 0)∧St H2 w (.blk b11 [I (dw (fun i=>decide (m.lo≤p.2.2 i)) p.1),I (dw (fun i=>decide (m.hi≤p.2.1 i)) p.1)]:: .blk b6 [I 0,I 0]:: .blk b5 [I x,I y]:: .blk b4 [I m.lo,I m.hi]::σ)) (fun p=>L.length - p.1) (0,fun _=>0,fun _=>0) aR
      ⟨Nat.zero_le _,fun i hi=>(by dsimp only at hi;omega),hs.sb⟩ ?_
     rintro ⟨k,dd,uu⟩ w ⟨hk,hds,hs⟩
     dsimp only at hk hds hs ⊢
     have hA0:=mQ (fun i=>decide (m.lo≤uu i)) k
     have hB0:=mQ (fun i=>decide (m.hi≤dd i)) k
     have hA1:∀z,dw (fun i=>decide (m.lo≤gZ uu k z i)) k=dw (fun i=>decide (m.lo≤uu i)) k:=fun z=>ik fun i hi=>by rw [mg _ _ hi]
     have hB1:∀z,dw (fun i=>decide (m.hi≤gZ dd k z i)) k=dw (fun i=>decide (m.hi≤dd i)) k:=fun z=>ik fun i hi=>by rw [mg _ _ hi]
     generalize hAe:dw (fun i=>decide (m.lo≤uu i)) k=A at*
     generalize hBe:dw (fun i=>decide (m.hi≤dd i)) k=B at*
     refine .seq (.aj (.z zm (.z zm (.z (cJ ck) (.zn fi (.bw rfl (fun hc41=>?_) (fun hc41=>?_)))))))
     ·refine .skip (nT (.seq (.block ?_)))
      have hkl:k<L.length:=by omega
      obtain ⟨X,hX,hLit⟩:=hLs k ak
      have hb:=hLit.bd
      have hS:iS s k x y _ _ 0:= .ok hLit
      have hA2:dw (fun i=>decide (m.lo≤gZ uu k (dK X.hi x y) i)) (k+1)=if A<0∧m.lo≤dK X.hi x y then (k:Int) else A:=by simp only [dw,hA1,mh,decide_eq_true_eq]
      have hB2:dw (fun i=>decide (m.hi≤gZ dd k (dJ X.lo x y) i)) (k+1)=if B<0∧m.hi≤dJ X.lo x y then (k:Int) else B:=by simp only [dw,hB1,mh,decide_eq_true_eq]
      refine .seq (.draw mix rfl hs fun w hs=>?_)
      refine .zw 0 rfl zm ?_;refine .z 1 rfl zm ?_
      refine .ixX (enc:=Rng.c) (i:=2) hs rfl aD .none hRL rfl rfl ck an hX rfl ?_;intro b46 o46 hc46
      refine .r (i:=3) hs rfl aD .none (bO (vs:=X.c) rfl aC an hc46) ?_
      refine .zv 4 rfl hs (zW [_,_] aC an) (.e2 (i:=5) (j:=6) aD rfl rfl rfl rfl .none .none hs ?_ ?_)
      ·refine .call Tryz.call85 rfl (jL hs ak ak hdn) ?_;rintro _ w ⟨rfl,hs⟩
       refine .go (.E 6 hs ?_)
       refine .alloc hs aW rfl ?_;intro b13 w hs
       refine .go (.E 7 hs ?_)
       refine .aO (vs:=[_,_]) hs rfl rfl an ?_;intro w hs
       refine .go (.D hs (.seq (.aj (.z (zfa aQ) (.y hs (zld af) (.z fi (.z zm (.fF (t':=53) rfl (fun hb53=>?_) (fun hb53=>?_)))))))))
       ·refine .T (.z (zfa aN) (.T (.y hs (zld af) (.T (.z (zfa aQ) (.T (.y hs (zld af) (.T (.z nY (.zn zpT (.bw rfl (fun hc59=>?_) (fun hc59=>?_))))))))))))
        ·refine .region (.z zm (.z (zfa aQ) (.o (.store hs rfl rfl ai fun w hs=>?_))))
         refine .nil (nT (.aj (.z (zfa aN) (.y hs (zld af) (.z fi (.z zm (.fF (t':=65) rfl (fun hb65=>?_) (fun hb65=>?_))))))))
         ·refine .T (.z (zfa aQ) (.T (.y hs (zld af) (.T (.z (zfa aN) (.T (.y hs (zld af) (.T (.z nY (.zn zpT (.bw rfl (fun hc71=>?_) (fun hc71=>?_))))))))))))
          ·refine .region (.z zm (.z (zfa aN) (.o (.store hs rfl rfl ai fun w hs=>?_))))
           refine .nil (nB (nT (.region (.z zm (.z cn (.zn zg (nT (⟨(k+1,gZ dd k (dJ X.lo x y),gZ uu k (dK X.hi x y)),.bT rfl bJ aR,⟨by dsimp only;omega,dL hds hS,?_⟩,by dsimp only;omega⟩))))))))
           dsimp only
           rw [hA2,hB2]
           generalize dK X.hi x y=uu1 at*
           generalize dJ X.lo x y=dd1 at*
           first
            |rw [if_pos ak,if_pos ak];exact hs.sb
            |rw [if_pos ak,if_neg ak];exact hs.sb
            |rw [if_neg ak,if_pos ak];exact hs.sb
            |rw [if_neg ak,if_neg ak];exact hs.sb
          ·refine .skip (nB (nT (.region (.z zm (.z cn (.zn zg (nT (⟨(k+1,gZ dd k (dJ X.lo x y),gZ uu k (dK X.hi x y)),.bT rfl bJ aR,⟨by dsimp only;omega,dL hds hS,?_⟩,by dsimp only;omega⟩))))))))
           dsimp only
           rw [hA2,hB2]
           generalize dK X.hi x y=uu1 at*
           generalize dJ X.lo x y=dd1 at*
           first
            |rw [if_pos ak,if_pos ak];exact hs.sb
            |rw [if_pos ak,if_neg ak];exact hs.sb
            |rw [if_neg ak,if_pos ak];exact hs.sb
            |rw [if_neg ak,if_neg ak];exact hs.sb
         ·refine .Fs 5 3 true (.zn zpF (.cF (.skip (nB (nT (.region (.z zm (.z cn (.zn zg (nT (⟨(k+1,gZ dd k (dJ X.lo x y),gZ uu k (dK X.hi x y)),.bT rfl bJ aR,⟨by dsimp only;omega,dL hds hS,?_⟩,by dsimp only;omega⟩)))))))))))
          dsimp only
          rw [hA2,hB2]
          generalize dK X.hi x y=uu1 at*
          generalize dJ X.lo x y=dd1 at*
          first
           |rw [if_pos ak,if_pos ak];exact hs.sb
           |rw [if_pos ak,if_neg ak];exact hs.sb
           |rw [if_neg ak,if_pos ak];exact hs.sb
           |rw [if_neg ak,if_neg ak];exact hs.sb
        ·refine .skip (nT (.aj (.z (zfa aN) (.y hs (zld af) (.z fi (.z zm (.fF (t':=65) rfl (fun hb65=>?_) (fun hb65=>?_))))))))
         ·refine .T (.z (zfa aQ) (.T (.y hs (zld af) (.T (.z (zfa aN) (.T (.y hs (zld af) (.T (.z nY (.zn zpT (.bw rfl (fun hc71=>?_) (fun hc71=>?_))))))))))))
          ·refine .region (.z zm (.z (zfa aN) (.o (.store hs rfl rfl ai fun w hs=>?_))))
           refine .nil (nB (nT (.region (.z zm (.z cn (.zn zg (nT (⟨(k+1,gZ dd k (dJ X.lo x y),gZ uu k (dK X.hi x y)),.bT rfl bJ aR,⟨by dsimp only;omega,dL hds hS,?_⟩,by dsimp only;omega⟩))))))))
           dsimp only
           rw [hA2,hB2]
           generalize dK X.hi x y=uu1 at*
           generalize dJ X.lo x y=dd1 at*
           first
            |rw [if_pos ak,if_pos ak];exact hs.sb
            |rw [if_pos ak,if_neg ak];exact hs.sb
            |rw [if_neg ak,if_pos ak];exact hs.sb
            |rw [if_neg ak,if_neg ak];exact hs.sb
          ·refine .skip (nB (nT (.region (.z zm (.z cn (.zn zg (nT (⟨(k+1,gZ dd k (dJ X.lo x y),gZ uu k (dK X.hi x y)),.bT rfl bJ aR,⟨by dsimp only;omega,dL hds hS,?_⟩,by dsimp only;omega⟩))))))))
           dsimp only
           rw [hA2,hB2]
           generalize dK X.hi x y=uu1 at*
           generalize dJ X.lo x y=dd1 at*
           first
            |rw [if_pos ak,if_pos ak];exact hs.sb
            |rw [if_pos ak,if_neg ak];exact hs.sb
            |rw [if_neg ak,if_pos ak];exact hs.sb
            |rw [if_neg ak,if_neg ak];exact hs.sb
         ·refine .Fs 5 3 true (.zn zpF (.cF (.skip (nB (nT (.region (.z zm (.z cn (.zn zg (nT (⟨(k+1,gZ dd k (dJ X.lo x y),gZ uu k (dK X.hi x y)),.bT rfl bJ aR,⟨by dsimp only;omega,dL hds hS,?_⟩,by dsimp only;omega⟩)))))))))))
          dsimp only
          rw [hA2,hB2]
          generalize dK X.hi x y=uu1 at*
          generalize dJ X.lo x y=dd1 at*
          first
           |rw [if_pos ak,if_pos ak];exact hs.sb
           |rw [if_pos ak,if_neg ak];exact hs.sb
           |rw [if_neg ak,if_pos ak];exact hs.sb
           |rw [if_neg ak,if_neg ak];exact hs.sb
       ·refine .Fs 5 3 true (.zn zpF (.cF (.skip (nT (.aj (.z (zfa aN) (.y hs (zld af) (.z fi (.z zm (.fF (t':=65) rfl (fun hb65=>?_) (fun hb65=>?_)))))))))))
        ·refine .T (.z (zfa aQ) (.T (.y hs (zld af) (.T (.z (zfa aN) (.T (.y hs (zld af) (.T (.z nY (.zn zpT (.bw rfl (fun hc71=>?_) (fun hc71=>?_))))))))))))
         ·refine .region (.z zm (.z (zfa aN) (.o (.store hs rfl rfl ai fun w hs=>?_))))
          refine .nil (nB (nT (.region (.z zm (.z cn (.zn zg (nT (⟨(k+1,gZ dd k (dJ X.lo x y),gZ uu k (dK X.hi x y)),.bT rfl bJ aR,⟨by dsimp only;omega,dL hds hS,?_⟩,by dsimp only;omega⟩))))))))
          dsimp only
          rw [hA2,hB2]
          generalize dK X.hi x y=uu1 at*
          generalize dJ X.lo x y=dd1 at*
          first
           |rw [if_pos ak,if_pos ak];exact hs.sb
           |rw [if_pos ak,if_neg ak];exact hs.sb
           |rw [if_neg ak,if_pos ak];exact hs.sb
           |rw [if_neg ak,if_neg ak];exact hs.sb
         ·refine .skip (nB (nT (.region (.z zm (.z cn (.zn zg (nT (⟨(k+1,gZ dd k (dJ X.lo x y),gZ uu k (dK X.hi x y)),.bT rfl bJ aR,⟨by dsimp only;omega,dL hds hS,?_⟩,by dsimp only;omega⟩))))))))
          dsimp only
          rw [hA2,hB2]
          generalize dK X.hi x y=uu1 at*
          generalize dJ X.lo x y=dd1 at*
          first
           |rw [if_pos ak,if_pos ak];exact hs.sb
           |rw [if_pos ak,if_neg ak];exact hs.sb
           |rw [if_neg ak,if_pos ak];exact hs.sb
           |rw [if_neg ak,if_neg ak];exact hs.sb
        ·refine .Fs 5 3 true (.zn zpF (.cF (.skip (nB (nT (.region (.z zm (.z cn (.zn zg (nT (⟨(k+1,gZ dd k (dJ X.lo x y),gZ uu k (dK X.hi x y)),.bT rfl bJ aR,⟨by dsimp only;omega,dL hds hS,?_⟩,by dsimp only;omega⟩)))))))))))
         dsimp only
         rw [hA2,hB2]
         generalize dK X.hi x y=uu1 at*
         generalize dJ X.lo x y=dd1 at*
         first
          |rw [if_pos ak,if_pos ak];exact hs.sb
          |rw [if_pos ak,if_neg ak];exact hs.sb
          |rw [if_neg ak,if_pos ak];exact hs.sb
          |rw [if_neg ak,if_neg ak];exact hs.sb
      ·refine .alloc hs aW rfl ?_;intro b13 w hs
       refine .go (.E 5 hs ?_)
       refine .call Tryz.call85 rfl (jL hs ak ak hdn) ?_;rintro _ w ⟨rfl,hs⟩
       refine .go (.E 7 hs ?_)
       refine .aO (vs:=[_,_]) hs rfl rfl an ?_;intro w hs
       refine .go (.D hs (.seq (.aj (.z (zfa aQ) (.y hs (zld af) (.z fi (.z zm (.fF (t':=53) rfl (fun hb53=>?_) (fun hb53=>?_)))))))))
       ·refine .T (.z (zfa aN) (.T (.y hs (zld af) (.T (.z (zfa aQ) (.T (.y hs (zld af) (.T (.z nY (.zn zpT (.bw rfl (fun hc59=>?_) (fun hc59=>?_))))))))))))
        ·refine .region (.z zm (.z (zfa aQ) (.o (.store hs rfl rfl ai fun w hs=>?_))))
         refine .nil (nT (.aj (.z (zfa aN) (.y hs (zld af) (.z fi (.z zm (.fF (t':=65) rfl (fun hb65=>?_) (fun hb65=>?_))))))))
         ·refine .T (.z (zfa aQ) (.T (.y hs (zld af) (.T (.z (zfa aN) (.T (.y hs (zld af) (.T (.z nY (.zn zpT (.bw rfl (fun hc71=>?_) (fun hc71=>?_))))))))))))
          ·refine .region (.z zm (.z (zfa aN) (.o (.store hs rfl rfl ai fun w hs=>?_))))
           refine .nil (nB (nT (.region (.z zm (.z cn (.zn zg (nT (⟨(k+1,gZ dd k (dJ X.lo x y),gZ uu k (dK X.hi x y)),.bT rfl bJ aR,⟨by dsimp only;omega,dL hds hS,?_⟩,by dsimp only;omega⟩))))))))
           dsimp only
           rw [hA2,hB2]
           generalize dK X.hi x y=uu1 at*
           generalize dJ X.lo x y=dd1 at*
           first
            |rw [if_pos ak,if_pos ak];exact hs.sb
            |rw [if_pos ak,if_neg ak];exact hs.sb
            |rw [if_neg ak,if_pos ak];exact hs.sb
            |rw [if_neg ak,if_neg ak];exact hs.sb
          ·refine .skip (nB (nT (.region (.z zm (.z cn (.zn zg (nT (⟨(k+1,gZ dd k (dJ X.lo x y),gZ uu k (dK X.hi x y)),.bT rfl bJ aR,⟨by dsimp only;omega,dL hds hS,?_⟩,by dsimp only;omega⟩))))))))
           dsimp only
           rw [hA2,hB2]
           generalize dK X.hi x y=uu1 at*
           generalize dJ X.lo x y=dd1 at*
           first
            |rw [if_pos ak,if_pos ak];exact hs.sb
            |rw [if_pos ak,if_neg ak];exact hs.sb
            |rw [if_neg ak,if_pos ak];exact hs.sb
            |rw [if_neg ak,if_neg ak];exact hs.sb
         ·refine .Fs 5 3 true (.zn zpF (.cF (.skip (nB (nT (.region (.z zm (.z cn (.zn zg (nT (⟨(k+1,gZ dd k (dJ X.lo x y),gZ uu k (dK X.hi x y)),.bT rfl bJ aR,⟨by dsimp only;omega,dL hds hS,?_⟩,by dsimp only;omega⟩)))))))))))
          dsimp only
          rw [hA2,hB2]
          generalize dK X.hi x y=uu1 at*
          generalize dJ X.lo x y=dd1 at*
          first
           |rw [if_pos ak,if_pos ak];exact hs.sb
           |rw [if_pos ak,if_neg ak];exact hs.sb
           |rw [if_neg ak,if_pos ak];exact hs.sb
           |rw [if_neg ak,if_neg ak];exact hs.sb
        ·refine .skip (nT (.aj (.z (zfa aN) (.y hs (zld af) (.z fi (.z zm (.fF (t':=65) rfl (fun hb65=>?_) (fun hb65=>?_))))))))
         ·refine .T (.z (zfa aQ) (.T (.y hs (zld af) (.T (.z (zfa aN) (.T (.y hs (zld af) (.T (.z nY (.zn zpT (.bw rfl (fun hc71=>?_) (fun hc71=>?_))))))))))))
          ·refine .region (.z zm (.z (zfa aN) (.o (.store hs rfl rfl ai fun w hs=>?_))))
           refine .nil (nB (nT (.region (.z zm (.z cn (.zn zg (nT (⟨(k+1,gZ dd k (dJ X.lo x y),gZ uu k (dK X.hi x y)),.bT rfl bJ aR,⟨by dsimp only;omega,dL hds hS,?_⟩,by dsimp only;omega⟩))))))))
           dsimp only
           rw [hA2,hB2]
           generalize dK X.hi x y=uu1 at*
           generalize dJ X.lo x y=dd1 at*
           first
            |rw [if_pos ak,if_pos ak];exact hs.sb
            |rw [if_pos ak,if_neg ak];exact hs.sb
            |rw [if_neg ak,if_pos ak];exact hs.sb
            |rw [if_neg ak,if_neg ak];exact hs.sb
          ·refine .skip (nB (nT (.region (.z zm (.z cn (.zn zg (nT (⟨(k+1,gZ dd k (dJ X.lo x y),gZ uu k (dK X.hi x y)),.bT rfl bJ aR,⟨by dsimp only;omega,dL hds hS,?_⟩,by dsimp only;omega⟩))))))))
           dsimp only
           rw [hA2,hB2]
           generalize dK X.hi x y=uu1 at*
           generalize dJ X.lo x y=dd1 at*
           first
            |rw [if_pos ak,if_pos ak];exact hs.sb
            |rw [if_pos ak,if_neg ak];exact hs.sb
            |rw [if_neg ak,if_pos ak];exact hs.sb
            |rw [if_neg ak,if_neg ak];exact hs.sb
         ·refine .Fs 5 3 true (.zn zpF (.cF (.skip (nB (nT (.region (.z zm (.z cn (.zn zg (nT (⟨(k+1,gZ dd k (dJ X.lo x y),gZ uu k (dK X.hi x y)),.bT rfl bJ aR,⟨by dsimp only;omega,dL hds hS,?_⟩,by dsimp only;omega⟩)))))))))))
          dsimp only
          rw [hA2,hB2]
          generalize dK X.hi x y=uu1 at*
          generalize dJ X.lo x y=dd1 at*
          first
           |rw [if_pos ak,if_pos ak];exact hs.sb
           |rw [if_pos ak,if_neg ak];exact hs.sb
           |rw [if_neg ak,if_pos ak];exact hs.sb
           |rw [if_neg ak,if_neg ak];exact hs.sb
       ·refine .Fs 5 3 true (.zn zpF (.cF (.skip (nT (.aj (.z (zfa aN) (.y hs (zld af) (.z fi (.z zm (.fF (t':=65) rfl (fun hb65=>?_) (fun hb65=>?_)))))))))))
        ·refine .T (.z (zfa aQ) (.T (.y hs (zld af) (.T (.z (zfa aN) (.T (.y hs (zld af) (.T (.z nY (.zn zpT (.bw rfl (fun hc71=>?_) (fun hc71=>?_))))))))))))
         ·refine .region (.z zm (.z (zfa aN) (.o (.store hs rfl rfl ai fun w hs=>?_))))
          refine .nil (nB (nT (.region (.z zm (.z cn (.zn zg (nT (⟨(k+1,gZ dd k (dJ X.lo x y),gZ uu k (dK X.hi x y)),.bT rfl bJ aR,⟨by dsimp only;omega,dL hds hS,?_⟩,by dsimp only;omega⟩))))))))
          dsimp only
          rw [hA2,hB2]
          generalize dK X.hi x y=uu1 at*
          generalize dJ X.lo x y=dd1 at*
          first
           |rw [if_pos ak,if_pos ak];exact hs.sb
           |rw [if_pos ak,if_neg ak];exact hs.sb
           |rw [if_neg ak,if_pos ak];exact hs.sb
           |rw [if_neg ak,if_neg ak];exact hs.sb
         ·refine .skip (nB (nT (.region (.z zm (.z cn (.zn zg (nT (⟨(k+1,gZ dd k (dJ X.lo x y),gZ uu k (dK X.hi x y)),.bT rfl bJ aR,⟨by dsimp only;omega,dL hds hS,?_⟩,by dsimp only;omega⟩))))))))
          dsimp only
          rw [hA2,hB2]
          generalize dK X.hi x y=uu1 at*
          generalize dJ X.lo x y=dd1 at*
          first
           |rw [if_pos ak,if_pos ak];exact hs.sb
           |rw [if_pos ak,if_neg ak];exact hs.sb
           |rw [if_neg ak,if_pos ak];exact hs.sb
           |rw [if_neg ak,if_neg ak];exact hs.sb
        ·refine .Fs 5 3 true (.zn zpF (.cF (.skip (nB (nT (.region (.z zm (.z cn (.zn zg (nT (⟨(k+1,gZ dd k (dJ X.lo x y),gZ uu k (dK X.hi x y)),.bT rfl bJ aR,⟨by dsimp only;omega,dL hds hS,?_⟩,by dsimp only;omega⟩)))))))))))
         dsimp only
         rw [hA2,hB2]
         generalize dK X.hi x y=uu1 at*
         generalize dJ X.lo x y=dd1 at*
         first
          |rw [if_pos ak,if_pos ak];exact hs.sb
          |rw [if_pos ak,if_neg ak];exact hs.sb
          |rw [if_neg ak,if_pos ak];exact hs.sb
          |rw [if_neg ak,if_neg ak];exact hs.sb
     ·refine .exit (xT (xT (xB (nT (.seq (.aj ?_))))))
      obtain rfl:k=L.length:=by omega
      rw [hLl] at hAe hBe hds
      subst hAe hBe
      refine .z (zfa aQ) (.y hs (zld af) (.z fi (.z zm (.fF (t':=77) rfl (fun hb77=>?_) (fun hb77=>?_)))))
      ·refine .Fs 3 3 false (.zn zpT (.cT (.aj (.z (zbd [_,_] aZ) (.o (.aO (vs:=[_,_]) hs rfl rfl an fun w hs=>?_))))))
       refine .zn zg (.ret (rT (?_)))
       exact Fin.fZ [] [] hs fun w hs=>⟨_,results2 pY (cB (vs:=[_,_]) hs rfl aC an) rfl,H2,_,_,_,hle02,rfl,.none hok hm hdn hsd hds ak,hs.out⟩
      ·refine .T (.z (zfa aN) (.T (.y hs (zld af) (.T (.z fi (.zn zpF (.bw rfl (fun hc81=>?_) (fun hc81=>?_))))))))
       ·refine .aj (.z (zbd [_,_] aZ) (.o (.aO (vs:=[_,_]) hs rfl rfl an fun w hs=>?_)))
        refine .zn zg (.ret (rT (?_)))
        exact Fin.fZ [] [] hs fun w hs=>⟨_,results2 pY (cB (vs:=[_,_]) hs rfl aC an) rfl,H2,_,_,_,hle02,rfl,.none hok hm hdn hsd hds ak,hs.out⟩
       ·refine .skip (nT (.aj (.y hs (zls [_,_] aC an) (.o (.aO (vs:=[_,_]) hs rfl rfl an fun w hs=>?_)))))
        refine .zn zg (.ret ?_)
        exact Fin.fZ [] [] hs fun w hs=>⟨_,results2 pY (cB (vs:=[_,_]) hs rfl aC an) rfl,H2,_,_,_,hle02,rfl,.ok hok hm hdn hsd hds ak ak,hs.out⟩
end Go.Proofs.YteajddicacjkhaaGreat
