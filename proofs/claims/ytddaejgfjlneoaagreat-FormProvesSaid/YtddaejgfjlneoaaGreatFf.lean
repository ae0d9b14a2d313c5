/-
  Texts of these claims, joined: No Np Nq Nr.
-/
import Derived.Test.YtddaejgfjlneoaaGreatFe
namespace Go.Proofs.YtddaejgfjlneoaaGreat
open Go.MW
variable{H:cf}{w:World}{σ:List Ent}
def eh(q:Wht)(high:Bool)(n m:Int):Prop:=if high=true then m/ml q≤n else n≤-m/ml q
inductive sF(v:Srv)(q:Wht)(high:Bool)(n m:Int)(us:List Use):Int→Prop
 |bad {e:Int} (h:vv v e) (he:e≠0):sF v q high n m us e
 |what (h:eS v) (h1:¬fm v.sp q):sF v q high n m us 33
 |prf (h:eS v) (h1:fm v.sp q) (h2:¬lH v.sys (sU (v.w q) high) m us):sF v q high n m us 24
 |off (h:eS v) (h1:fm v.sp q) (h2:lH v.sys (sU (v.w q) high) m us) (h3:¬eh q high n m):sF v q high n m us 36
 |ok (h:eS v) (h1:fm v.sp q) (h2:lH v.sys (sU (v.w q) high) m us) (h3:eh q high n m):sF v q high n m us 0
theorem sF.uniq{v:Srv}{q:Wht}{high:Bool}{n m:Int}{us:List Use}{e f:Int}(h:sF v q high n m us e)(g:sF v q high n m us f):e=f:=by
 cases h with
 |bad h he=>
  cases g with
  |bad g _=>exact h.uniq g
  |what g _=>exact (he (h.dt.2 g)).elim
  |prf g _ _=>exact (he (h.dt.2 g)).elim
  |off g _ _ _=>exact (he (h.dt.2 g)).elim
  |ok g _ _ _=>exact (he (h.dt.2 g)).elim
 |what h h1=>cases g with|bad g ge=>exact (ge (g.dt.2 h)).elim|_=>first|rfl|contradiction
 |prf h h1 h2=>cases g with|bad g ge=>exact (ge (g.dt.2 h)).elim|_=>first|rfl|contradiction
 |off h h1 h2 h3=>cases g with|bad g ge=>exact (ge (g.dt.2 h)).elim|_=>first|rfl|contradiction
 |ok h h1 h2 h3=>cases g with|bad g ge=>exact (ge (g.dt.2 h)).elim|_=>first|rfl|contradiction
theorem zK{v:Srv}(h:eS v){q:Wht}(hq:fm v.sp q)(high:Bool):dT v.sys (sU (v.w q) high)=0:=by
 unfold sU;split
 ·exact h.ask hq
 ·rw [oy];exact h.ask hq
theorem vX{v:Srv}(h:eS v){ws:List Int}{m:Int}{us:List Use}(hp:lH v.sys ws m us): -4608000000000000000≤m∧m≤4608000000000000000:=by
 have h1:=sX h.sys hp.use
 have h2:=hp.tot
 have h3:=hp.bound
 omega
theorem wD{v:Srv}{q:Wht}{high:Bool}{n m:Int}{us:List Use}(h:eS v)(hq:fm v.sp q){e:Int}(hp:vA v.sys (sU (v.w q) high) m us e):(e≠0→e=24∧sF v q high n m us 24)∧(e=0→lH v.sys (sU (v.w q) high) m us):=by
 cases hp with
 |ask h1=>exact (h1 (zK h hq high)).elim
 |bad _ h1=>exact ⟨fun _=>⟨rfl,.prf h hq h1⟩,fun h=>by omega⟩
 |ok _ h1=>exact ⟨fun h=>(h rfl).elim,fun _=>h1⟩
theorem fJ{s:Srv}{q:Wht}{vst vwa vr vc vp:Value}{high:Bool}{n m:Int}{us:List Use}(hs:St H w σ)(h1:RI H vst s.sp.st)(h2:RI H vwa s.sp.wa)(h3:RRd H vr s.rs)(h4:RCm H vc s.cs)(hp:RPf H vp m us):
  Cl Tryz.prog 72 [.agg #[I s.sp.id,I s.sp.src,vst,vwa,I s.sp.al,I s.sp.up,vr,vc],.agg #[I q.kind,I q.st,I q.wa],.bool high,I n,vp] w fun u w'=>∃H1 e,HLe H H1∧u=I e∧sF s q high n m us e∧St H1 w' σ:=by
 obtain ⟨uu,rfl,hU⟩:=hp
 obtain ⟨au,cu,rfl⟩:=RU.shape hU
 refine Cl.o Tryz.func72 Tryz.ntmps72 ag5 ?_
 refine .ai ?_
 refine .bx hs fun b5 w hs=>?_
 refine .bx hs fun b6 w hs=>?_
 refine .bx hs fun b9 w hs=>?_
 refine .z zg (.nil (.ai (.y hs (zls [_,_,_,_,_,_,_,_] aO aF) (.y hs (zls [_,_,_] bX bh) (.z zm ?_)))))
 refine .o (.call Tryz.call87 rfl (mJ (s:=s) (q:=q) (high:=high) hs h1 h2 h3 h4) ?_);rintro _ w ⟨H1,mm,ul,vw,d,e,hle1,rfl,⟨al,ll,cl,rfl⟩,⟨aw,lw,cw,rfl⟩,hA,hA0,hs⟩
 refine .z zm (.z zex (.z zex (.z zex (.z zex ?_))))
 refine .o (.alloc hs dj rfl fun b11 w hs=>?_)
 refine .o (.aU (vs:=[_,_]) hs rfl rfl aE fun w hs=>?_)
 refine .z zg (.z zg (.z zg (.nil (.seq (.ai (.z zm (.z ij (.nil ?_))))))))
 refine (.eQ rfl (fun hc25=>?_) (fun hc25=>?_))
 ·refine .ai (.z zm (.z zg (.nil ?_)))
  refine .ret (rT (Fin.bJ jy rfl ?_))
  exact ⟨H1,_,hle1,rfl,by
   cases hA with
   |bad h he=>exact .bad h he
   |what h h1=>exact .what h h1
   |ok=>exact (hc25 rfl).elim,hs.out⟩
 ·refine .skip ?_
  refine nT ?_
  refine .seq (.ai (.y hs (zls [_,_] aT aE) (.z zm (.y hs (zls [_,_] cE a8) ?_))))
  obtain rfl:e=0:=by simpa using hc25
  obtain ⟨rfl,hL,hR,rfl⟩:=hA0 rfl
  obtain ⟨hok,hq⟩:=hA.zero
  refine .o (.call Tryz.call157 rfl (nA (s:=s.sys) (n:=m) (us:=us) hs ⟨_,rfl,hL⟩ hR ⟨_,rfl,hU.mono hle1⟩) ?_);rintro _ w ⟨e30,rfl,hP,hs⟩
  refine .z ij (.nil ?_)
  refine (.eQ rfl (fun hc31=>?_) (fun hc31=>?_))
  ·refine .ai (.z zg (.nil ?_))
   refine .ret (rT (Fin.bJ jy rfl ?_))
   exact ⟨H1,_,hle1,rfl,((wD hok hq hP).1 hc31).2,hs.out⟩
  ·refine .skip ?_
   refine nT ?_
   refine .seq (.ai ?_)
   have hPk:=(wD (n:=n) hok hq hP).2 (by simpa using hc31)
   have hbd:=vX hok hPk
   have hdp:=ow q
   refine .z zm (.z zm ?_)
   refine .bif (t':=33) rfl (fun hb33=>?_) (fun hb33=>?_)
   ·refine .gT rfl rfl ?_
    refine .z (zfa ee) ?_
    refine .gT rfl rfl ?_
    refine .y hs (zld ae) ?_
    refine .gT rfl rfl ?_
    refine .z zm ?_
    refine .gT rfl rfl ?_
    refine .o (.call Tryz.call78 rfl (gY hs aj aj) ?_);rintro _ w ⟨rfl,hs⟩
    refine .gT rfl rfl ?_
    refine .z zm ?_
    refine .gT rfl rfl ?_
    refine .z uO (.z zpT (.z zm ?_))
    refine .iB (t':=41) rfl (fun hb41=>?_) (fun hb41=>?_)
    ·refine .gFs 3 9 false rfl rfl rfl ?_
     refine .gFs 7 12 true rfl rfl rfl ?_
     refine .gFs 1 9 false rfl rfl rfl ?_
     refine .z zpT (.nil ?_)
     refine (.cT ?_)
     refine .ai (.z zg (.nil ?_))
     refine .ret (rT (Fin.bJ jy rfl ?_))
     exact ⟨H1,_,hle1,rfl,by
      first
       |exact .ok hok hq hPk (by unfold eh;simp_all)
       |exact .off hok hq hPk (by unfold eh;simp_all)
       |simp_all,hs.out⟩
    ·refine .gT rfl rfl ?_
     refine .z zm ?_
     refine .gT rfl rfl ?_
     refine .z ir ?_
     refine .gT rfl rfl ?_
     refine .z zm ?_
     refine .bif (t':=44) rfl (fun hb44=>?_) (fun hb44=>?_)
     ·refine .gT rfl rfl ?_
      refine .z (zfa ee) ?_
      refine .gT rfl rfl ?_
      refine .y hs (zld ae) ?_
      refine .gT rfl rfl ?_
      refine .z uN ?_
      refine .gT rfl rfl ?_
      refine .z zm ?_
      refine .gT rfl rfl ?_
      refine .o (.call Tryz.call78 rfl (gY hs aj aj) ?_);rintro _ w ⟨rfl,hs⟩
      refine .gT rfl rfl ?_
      refine .z zm ?_
      refine .gT rfl rfl ?_
      refine .z vD ?_
      refine .gT rfl rfl ?_
      refine .z zpT (.z zpF (.nil ?_))
      refine (.bM rfl (fun hc53=>?_) (fun hc53=>?_))
      ·refine .ai (.z zg (.nil ?_))
       refine .ret (rT (Fin.bJ jy rfl ?_))
       exact ⟨H1,_,hle1,rfl,by
        first
         |exact .ok hok hq hPk (by unfold eh;simp_all)
         |exact .off hok hq hPk (by unfold eh;simp_all)
         |simp_all,hs.out⟩
      ·refine .skip ?_
       refine nT ?_
       refine .ai (.z zg (.nil ?_))
       refine .ret (Fin.bJ jy rfl ?_)
       exact ⟨H1,_,hle1,rfl,by
        first
         |exact .ok hok hq hPk (by unfold eh;simp_all)
         |exact .off hok hq hPk (by unfold eh;simp_all)
         |simp_all,hs.out⟩
     ·refine .gFs 7 12 true rfl rfl rfl ?_
      refine .gT rfl rfl ?_
      refine .z zpF (.z zpF (.nil ?_))
      refine (.cF ?_)
      refine .skip ?_
      refine nT ?_
      refine .ai (.z zg (.nil ?_))
      refine .ret (Fin.bJ jy rfl ?_)
      exact ⟨H1,_,hle1,rfl,by
       first
        |exact .ok hok hq hPk (by unfold eh;simp_all)
        |exact .off hok hq hPk (by unfold eh;simp_all)
        |simp_all,hs.out⟩
   ·refine .gFs 6 1 true rfl rfl rfl ?_
    refine .z zpF (.z zm ?_)
    refine .gT rfl rfl ?_
    refine .z zm ?_
    refine .gT rfl rfl ?_
    refine .z ir ?_
    refine .gT rfl rfl ?_
    refine .z zm ?_
    refine .bif (t':=44) rfl (fun hb44=>?_) (fun hb44=>?_)
    ·refine .gT rfl rfl ?_
     refine .z (zfa ee) ?_
     refine .gT rfl rfl ?_
     refine .y hs (zld ae) ?_
     refine .gT rfl rfl ?_
     refine .z uN ?_
     refine .gT rfl rfl ?_
     refine .z zm ?_
     refine .gT rfl rfl ?_
     refine .o (.call Tryz.call78 rfl (gY hs aj aj) ?_);rintro _ w ⟨rfl,hs⟩
     refine .gT rfl rfl ?_
     refine .z zm ?_
     refine .gT rfl rfl ?_
     refine .z vD ?_
     refine .gT rfl rfl ?_
     refine .z zpT (.z zpF (.nil ?_))
     refine (.bM rfl (fun hc53=>?_) (fun hc53=>?_))
     ·refine .ai (.z zg (.nil ?_))
      refine .ret (rT (Fin.bJ jy rfl ?_))
      exact ⟨H1,_,hle1,rfl,by
       first
        |exact .ok hok hq hPk (by unfold eh;simp_all)
        |exact .off hok hq hPk (by unfold eh;simp_all)
        |simp_all,hs.out⟩
     ·refine .skip ?_
      refine nT ?_
      refine .ai (.z zg (.nil ?_))
      refine .ret (Fin.bJ jy rfl ?_)
      exact ⟨H1,_,hle1,rfl,by
       first
        |exact .ok hok hq hPk (by unfold eh;simp_all)
        |exact .off hok hq hPk (by unfold eh;simp_all)
        |simp_all,hs.out⟩
    ·refine .gFs 7 12 true rfl rfl rfl ?_
     refine .gT rfl rfl ?_
     refine .z zpF (.z zpF (.nil ?_))
     refine (.cF ?_)
     refine .skip ?_
     refine nT ?_
     refine .ai (.z zg (.nil ?_))
     refine .ret (Fin.bJ jy rfl ?_)
     exact ⟨H1,_,hle1,rfl,by
      first
       |exact .ok hok hq hPk (by unfold eh;simp_all)
       |exact .off hok hq hPk (by unfold eh;simp_all)
       |simp_all,hs.out⟩
theorem jT{w:World}{H:cf}{σ:List Ent}{x:Int}(hs:St H w σ)(hx: -3456000000000≤x∧x≤3456000000000):
  Cl Tryz.prog 217 [I x] w fun v w'=>v=I (-x)∧St H w' σ:=by
 refine Cl.o Tryz.func217 Tryz.ntmps217 ag1 ?_
 refine .ai (.z zg (.nil (.ai (.z zm (.z uN (.z zg (.nil ?_)))))))
 refine .ret (Fin.bJ Tryz.results217 rfl ?_)
 exact ⟨rfl,hs.out⟩
theorem jS{w:World}{H:cf}{σ:List Ent}{x:Int}(hs:St H w σ):
  Cl Tryz.prog 218 [I x] w fun v w'=>v=I x∧St H w' σ:=by
 refine Cl.o Tryz.func218 Tryz.ntmps218 ag1 ?_
 refine .ai (.z zg (.nil (.ai (.z zm (.z zg (.nil ?_))))))
 refine .ret (Fin.bJ Tryz.results218 rfl ?_)
 exact ⟨rfl,hs.out⟩
theorem BA{high:Bool}{L:List Int}{x:Int}{k:Nat}(hx:L[k]? =some x):sU (L.take k) high++[if high then x else -x]=sU (L.take (k+1)) high:=by
 rw [ep hx]
 unfold sU qs
 cases high<;>simp
theorem tT{high:Bool}{L:List Int}:(sU L high).length=L.length:=by unfold sU qs;split<;>simp
theorem gQ{w:World}{H:cf}{σ:List Ent}{m d:Int}{ul vw:Value}{L:List Int}{high:Bool}(hs:St H w σ)(hR:RI H vw L)(hb:∀i,-3456000000000≤gi L i∧gi L i≤3456000000000)(hl:L.length≤1000):
  Cl Tryz.prog 153 [.agg #[I m,ul,vw,I d],.bool high] w fun v w'=>∃H1,HLe H H1∧RI H1 v (sU L high)∧St H1 w' σ:=by
 obtain ⟨aw,cw,rfl⟩:=RI.shape hR
 refine Cl.o Tryz.func153 Tryz.ntmps153 ag2 ?_
 refine .ai ?_
 refine .bx hs fun b2 w hs=>?_
 refine .z zg (.nil (.ai (.z zg (.nil ?_))))
 refine .cut (fun fs w=>∃f,j9 fs ⟨25,[],[(5,.func (.func f) #[] #[]),(2,.pointer (some ⟨b2,0,none⟩))]⟩∧(∀args w,(callFunc f args).run Tryz.prog w= .ok (.enter f args) w)∧(∀{σ:List Ent} {w:World} {x:Int},St H w σ→-3456000000000≤x∧x≤3456000000000→Cl Tryz.prog f [I x] w fun v w'=>v=I (if high then x else -x)∧St H w' σ)∧St H w (.blk b2 [I m,ul,.slice aw L.length cw,I d]::σ)) ?_ ?_
 ·refine .ai (.z zm (.nil ?_))
  refine (.cond rfl (fun hc9=>?_) (fun hc9=>?_))
  ·refine .region (.z zg (.nil ?_))
   refine nT ?_
   subst hc9
   exact ⟨218,aR,Tryz.call218,fun hs hx=>(jS hs).mono fun v w' h=>h,hs⟩
  ·refine .skip ?_
   refine nT ?_
   obtain rfl:high=false:=by simpa using hc9
   exact ⟨217,aR,Tryz.call217,fun hs hx=>(jT hs hx).mono fun v w' h=>h,hs⟩
 ·clear hs
  rintro fs w ⟨f,hfs,hcf,hsp,hs⟩
  refine WE.sub ?_ hfs
  clear hfs
  refine .ai (.z zg (.nil (.seq (.ai (.z (zfa jX) (.y hs (zld ak) (.z (c9 aa) (.z zm (.nil ?_)))))))))
  refine .for (N:=L.length) (J:=fun k fr w=>∃vo en,fr=[(11,.slice aw L.length cw),(6,vo),(5,.func (.func f) #[] #[]),(2,.pointer (some ⟨b2,0,none⟩))]∧cn 1 vo (Is (sU (L.take k) high)) en∧St H w (en:: .blk b2 [I m,ul,.slice aw L.length cw,I d]::σ)) aj ?_ ?_ ?_
  ·exact .mk ⟨_,_,rfl,by have:sU (L.take 0) high=[]:=(by unfold sU qs;cases high<;>simp);rw [this];exact .nil 1 none,hs.nul⟩
  ·rintro k fr w hk ⟨vo,en,rfl,hO,hs⟩
   obtain ⟨x,hx⟩:=nth hk
   have hxb:=hb k
   rw [show gi L k=x by simp [gi,List.getD,hx]] at hxb
   refine .block (.ai ?_)
   refine .ixX (enc:=fun x=>[I x]) hs hR rfl rfl aa af hx rfl ?_;intro b15 o15 hc15;replace hc15:=bB.one hc15
   refine .q hs (aK rfl ae hc15) ?_
   refine .z zg (.nil (.region (.z zm (.z zm (.z zm ?_)))))
   refine .o (.pH (first:=[]) (cap:=[]) rfl rfl hcf (hsp hs hxb) ?_);rintro _ w ⟨rfl,hs⟩
   refine .o (.buildSlice (cells:=[_]) hs dv rfl rfl fun b21 w hs=>?_)
   refine .o (.append (ys:=Is [if high then x else -x]) hs cV rfl rfl hO (.own .here rfl rfl) (jK _) (fun l h=>by simp [Is,tT] at h;omega) ?_);intro v22 en22 w hO2 hs
   rw [←List.map_append,BA hx] at hO2
   refine .z zg (.nil ?_)
   refine nB (nT ?_)
   exact .mk ⟨_,_,rfl,hO2,hs.sb⟩
  ·rintro fr w ⟨vo,en,rfl,hO,hs⟩
   rw [List.take_length] at hO
   refine nT ?_
   refine .ai (.z zm (.z zg (.nil ?_)))
   refine .ret (Fin.bJ Tryz.results153 rfl ?_)
   obtain ⟨H1,hle1,hR1,hs⟩:=cn.dI hO (by rw [tT];omega) hs .here
   exact ⟨H1,hle1,hR1,hs.out⟩
set_option maxHeartbeats 1000000 in
theorem gE{s:Srv}{q:Wht}{vst vwa vr vc vp:Value}{high:Bool}{n m:Int}{us:List Use}(hs:St H w σ)(h1:RI H vst s.sp.st)(h2:RI H vwa s.sp.wa)(h3:RRd H vr s.rs)(h4:RCm H vc s.cs)(hp:RPf H vp m us):
  Cl Tryz.prog 71 [.agg #[I s.sp.id,I s.sp.src,vst,vwa,I s.sp.al,I s.sp.up,vr,vc],.agg #[I q.kind,I q.st,I q.wa],.bool high,I n,vp] w fun u w'=>∃H1 e,HLe H H1∧u=I e∧sF s q high n m us e∧St H1 w' σ:=by
 obtain ⟨uu,rfl,hU⟩:=hp
 obtain ⟨au,cu,rfl⟩:=RU.shape hU
 refine Cl.o Tryz.func71 Tryz.ntmps71 ag5 ?_
 refine .ai ?_
 refine .bx hs fun b5 w hs=>?_
 refine .bx hs fun b6 w hs=>?_
 refine .bx hs fun b9 w hs=>?_
 refine .z zg (.nil (.seq (.ai (.y hs (zls [_,_,_,_,_,_,_,_] aO aF) ?_))))
 refine .o (.call Tryz.call42 rfl (fK (s:=s) hs h1 h2 h3 h4) ?_);rintro _ w ⟨H1,e,hle1,rfl,hC,hs⟩
 refine .z zg (.nil (.ai (.z zm (.z ij (.nil ?_)))))
 refine (.eQ rfl (fun hc18=>?_) (fun hc18=>?_))
 ·refine .ai (.z zm (.z zg (.nil ?_)))
  refine .ret (rT (Fin.bJ im rfl ?_))
  exact ⟨H1,_,hle1,rfl,.bad hC hc18,hs.out⟩
 ·refine .skip ?_
  refine nT ?_
  refine .ai (.y hs (zls [_,_,_,_,_,_,_,_] aO aF) (.y hs (zls [_,_,_] bX bh) ?_))
  have hok:eS s:=hC.dt.1 (by simpa using hc18)
  refine .o (.call Tryz.call155 rfl (mP (s:=s) (q:=q) hs (h1.mono hle1) (h2.mono hle1) (h3.mono hle1) (h4.mono hle1) hok) ?_);rintro _ w ⟨H2,ul,vw,L,d,b,hle2,rfl,hL,hR,hLl,hcase,hs⟩
  have hle02:=hle1.trans hle2
  obtain ⟨al,cl,rfl⟩:=RL.shape hL
  obtain ⟨aw,cw,rfl⟩:=RI.shape hR
  refine .z zm (.z zex (.z zex ?_))
  refine .o (.alloc hs kE rfl fun b12 w hs=>?_)
  refine .o (.aU (vs:=[_,_,_,_]) hs rfl rfl dE fun w hs=>?_)
  refine .z zg (.nil (.seq (.ai (.z zm (.z ir (.nil ?_))))))
  refine (.cond rfl (fun hc27=>?_) (fun hc27=>?_))
  ·refine .ai (.z zg (.nil ?_))
   refine .ret (rT (Fin.bJ im rfl ?_))
   have hq:¬fm s.sp q:=by
    rcases hcase with ⟨g,_⟩|⟨_,g⟩
    ·subst g;cases hc27
    ·exact g
   exact ⟨H2,_,hle02,rfl,.what hok hq,hs.out⟩
  ·refine .skip ?_
   refine nT ?_
   refine .seq ?_
   refine .seq (.draw mix rfl hs fun w hs=>?_)
   refine .z 0 rfl (zfa ia) ?_;refine .ys 1 rfl hs [_,_] aT aE ?_;refine .ys 2 rfl hs [_,_,_,_] mG dE ?_;refine .z 3 rfl zm ?_;refine .ys 5 rfl hs [_,_] cE a8 ?_
   refine .E 4 hs ?_
   obtain ⟨rfl,hq,rfl,rfl⟩:b=true∧fm s.sp q∧L=s.w q∧d=ml q:=hcase.resolve_right fun h=>by rw [h.1] at hc27;cases hc27
   have hn65:=hok.sys.n65
   refine .call Tryz.call153 rfl (gQ (high:=high) hs hR (vP hok hq) aj) ?_;rintro _ w ⟨H3,hle3,hRt,hs⟩
   have hle03:=hle02.trans hle3
   refine .go ?_
   refine .E 6 hs ?_
   refine .call Tryz.call156 rfl (nU (s:=s.sys) (n:=m) (us:=us) hs ⟨_,rfl,hL.mono hle3⟩ hRt ⟨_,rfl,hU.mono hle03⟩) ?_;rintro _ w ⟨H4,e34,hle4,rfl,hP,hs⟩
   have hle04:=hle03.trans hle4
   refine .go ?_
   refine .z 7 rfl zg ?_;refine .D hs ?_
   refine .ai (.z zm (.z ij (.nil ?_)))
   refine (.eQ rfl (fun hc36=>?_) (fun hc36=>?_))
   ·refine .ai (.z zm (.z zg (.nil ?_)))
    refine .ret (rT (Fin.bJ im rfl ?_))
    obtain ⟨rfl,h24⟩:=(wD (n:=n) hok hq hP).1 hc36
    exact ⟨H4,_,hle04,rfl,h24,hs.out⟩
   ·refine .skip ?_
    refine nT ?_
    refine .seq (.ai ?_)
    have hPk:=(wD (n:=n) hok hq hP).2 (by simpa using hc36)
    have hbd:=vX hok hPk
    have hdp:=ow q
    refine .z zm (.z zm ?_)
    refine .bif (t':=39) rfl (fun hb39=>?_) (fun hb39=>?_)
    ·refine .gT rfl rfl ?_
     refine .z (zfa ee) ?_
     refine .gT rfl rfl ?_
     refine .y hs (zld ae) ?_
     refine .gT rfl rfl ?_
     refine .z (zfa eU) ?_
     refine .gT rfl rfl ?_
     refine .y hs (zld ae) ?_
     refine .gT rfl rfl ?_
     refine .o (.call Dq rfl (ft hs aj aj) ?_);rintro _ w ⟨rfl,hs⟩
     refine .gT rfl rfl ?_
     refine .z zm ?_
     refine .gT rfl rfl ?_
     refine .z kD (.z zpT (.z zm ?_))
     refine .iB (t':=48) rfl (fun hb48=>?_) (fun hb48=>?_)
     ·refine .gFs 3 10 false rfl rfl rfl ?_
      refine .gFs 8 13 true rfl rfl rfl ?_
      refine .gFs 1 10 false rfl rfl rfl ?_
      refine .z zpT (.nil ?_)
      refine (.cT ?_)
      refine .ai (.z zg (.nil ?_))
      refine .ret (rT (Fin.bJ im rfl ?_))
      exact ⟨H4,_,hle04,rfl,by
       first
        |exact .ok hok hq hPk (by unfold eh;simp_all)
        |exact .off hok hq hPk (by unfold eh;simp_all)
        |simp_all,hs.out⟩
     ·refine .gT rfl rfl ?_
      refine .z zm ?_
      refine .gT rfl rfl ?_
      refine .z ir ?_
      refine .gT rfl rfl ?_
      refine .z zm ?_
      refine .bif (t':=51) rfl (fun hb51=>?_) (fun hb51=>?_)
      ·refine .gT rfl rfl ?_
       refine .z (zfa ee) ?_
       refine .gT rfl rfl ?_
       refine .y hs (zld ae) ?_
       refine .gT rfl rfl ?_
       refine .z uN ?_
       refine .gT rfl rfl ?_
       refine .z (zfa eU) ?_
       refine .gT rfl rfl ?_
       refine .y hs (zld ae) ?_
       refine .gT rfl rfl ?_
       refine .o (.call Dq rfl (ft hs aj aj) ?_);rintro _ w ⟨rfl,hs⟩
       refine .gT rfl rfl ?_
       refine .z zm ?_
       refine .gT rfl rfl ?_
       refine .z gx ?_
       refine .gT rfl rfl ?_
       refine .z zpT (.z zpF (.nil ?_))
       refine (.bM rfl (fun hc61=>?_) (fun hc61=>?_))
       ·refine .ai (.z zg (.nil ?_))
        refine .ret (rT (Fin.bJ im rfl ?_))
        exact ⟨H4,_,hle04,rfl,by
         first
          |exact .ok hok hq hPk (by unfold eh;simp_all)
          |exact .off hok hq hPk (by unfold eh;simp_all)
          |simp_all,hs.out⟩
       ·refine .skip ?_
        refine nT ?_
        refine .ai (.z zg (.nil ?_))
        refine .ret (Fin.bJ im rfl ?_)
        exact ⟨H4,_,hle04,rfl,by
         first
          |exact .ok hok hq hPk (by unfold eh;simp_all)
          |exact .off hok hq hPk (by unfold eh;simp_all)
          |simp_all,hs.out⟩
      ·refine .gFs 8 13 true rfl rfl rfl ?_
       refine .gT rfl rfl ?_
       refine .z zpF (.z zpF (.nil ?_))
       refine (.cF ?_)
       refine .skip ?_
       refine nT ?_
       refine .ai (.z zg (.nil ?_))
       refine .ret (Fin.bJ im rfl ?_)
       exact ⟨H4,_,hle04,rfl,by
        first
         |exact .ok hok hq hPk (by unfold eh;simp_all)
         |exact .off hok hq hPk (by unfold eh;simp_all)
         |simp_all,hs.out⟩
    ·refine .gFs 7 1 true rfl rfl rfl ?_
     refine .z zpF (.z zm ?_)
     refine .gT rfl rfl ?_
     refine .z zm ?_
     refine .gT rfl rfl ?_
     refine .z ir ?_
     refine .gT rfl rfl ?_
     refine .z zm ?_
     refine .bif (t':=51) rfl (fun hb51=>?_) (fun hb51=>?_)
     ·refine .gT rfl rfl ?_
      refine .z (zfa ee) ?_
      refine .gT rfl rfl ?_
      refine .y hs (zld ae) ?_
      refine .gT rfl rfl ?_
      refine .z uN ?_
      refine .gT rfl rfl ?_
      refine .z (zfa eU) ?_
      refine .gT rfl rfl ?_
      refine .y hs (zld ae) ?_
      refine .gT rfl rfl ?_
      refine .o (.call Dq rfl (ft hs aj aj) ?_);rintro _ w ⟨rfl,hs⟩
      refine .gT rfl rfl ?_
      refine .z zm ?_
      refine .gT rfl rfl ?_
      refine .z gx ?_
      refine .gT rfl rfl ?_
      refine .z zpT (.z zpF (.nil ?_))
      refine (.bM rfl (fun hc61=>?_) (fun hc61=>?_))
      ·refine .ai (.z zg (.nil ?_))
       refine .ret (rT (Fin.bJ im rfl ?_))
       exact ⟨H4,_,hle04,rfl,by
        first
         |exact .ok hok hq hPk (by unfold eh;simp_all)
         |exact .off hok hq hPk (by unfold eh;simp_all)
         |simp_all,hs.out⟩
      ·refine .skip ?_
       refine nT ?_
       refine .ai (.z zg (.nil ?_))
       refine .ret (Fin.bJ im rfl ?_)
       exact ⟨H4,_,hle04,rfl,by
        first
         |exact .ok hok hq hPk (by unfold eh;simp_all)
         |exact .off hok hq hPk (by unfold eh;simp_all)
         |simp_all,hs.out⟩
     ·refine .gFs 8 13 true rfl rfl rfl ?_
      refine .gT rfl rfl ?_
      refine .z zpF (.z zpF (.nil ?_))
      refine (.cF ?_)
      refine .skip ?_
      refine nT ?_
      refine .ai (.z zg (.nil ?_))
      refine .ret (Fin.bJ im rfl ?_)
      exact ⟨H4,_,hle04,rfl,by
       first
        |exact .ok hok hq hPk (by unfold eh;simp_all)
        |exact .off hok hq hPk (by unfold eh;simp_all)
        |simp_all,hs.out⟩
set_option maxHeartbeats 1000000 in
theorem pD{v v1:Value}{g:EM}{c:FV}(hs:St H w σ)(hg:BQ H v g)(hc:EF H v1 c):
  Cl Tryz.prog 16 [v,v1] w fun v w'=>v= .bool true∧∃H',HLe H H'∧St H' w' σ:=by
 obtain ⟨vs,v5,v4,vp,rfl,g1,g2,g3,g4⟩:=hg
 obtain ⟨uu,rfl,hU⟩:=hc
 obtain ⟨au,cu,rfl⟩:=RU.shape hU
 refine Cl.o Tryz.func16 Tryz.ntmps16 ag2 ?_
 refine .ai ?_
 refine .bx hs fun b2 w hs=>?_
 refine .bx hs fun b3 w hs=>?_
 refine .z zg (.nil (.ai ?_))
 refine .o (.call Tryz.call22 rfl (nE hs) ?_);rintro _ w ⟨rfl,H1,hle1,hs⟩
 refine .z zg (.nil (.ai (.y hs (zls [_,_,_,_,_,_,_] Tryz.isAgg27 Tryz.sizeOf27) ?_)))
 refine .o (.call Tryz.call23 rfl (lX hs (g1.mono hle1) (g2.mono hle1) (g3.mono hle1) (g4.mono hle1)) ?_);rintro _ w ⟨H2,s,vst,vwa,vr,vc,hle2,rfl,h1,h2,h3,h4,hSpl,hs⟩
 obtain ⟨ast,cst,rfl⟩:=RI.shape h1
 obtain ⟨awa,cwa,rfl⟩:=RI.shape h2
 obtain ⟨ar,cr,rfl⟩:=RRd.shape h3
 obtain ⟨ac,cc,rfl⟩:=RCm.shape h4
 have hle02:=hle1.trans hle2
 refine .o (.alloc hs eI rfl fun b6 w hs=>?_)
 refine .o (.aU (vs:=[_,_,_,_,_,_,_,_]) hs rfl rfl aF fun w hs=>?_)
 refine .nil ?_
 refine .seq (.draw mix rfl hs fun w hs=>?_)
 refine .z 0 rfl zm ?_;refine .z 1 rfl zm ?_;refine .ys 2 rfl hs [_,_,_,_,_,_,_,_] aO aF ?_;refine .z 3 rfl (zfa jo) ?_;refine .ys 4 rfl hs [_,_,_] bX bh ?_;refine .z 5 rfl (zfa jn) ?_;refine .y 6 rfl hs eC ?_;refine .z 7 rfl (zfa jm) ?_;refine .y 8 rfl hs ae ?_;refine .z 9 rfl (zfa jk) ?_
 refine .ys 10 rfl hs [_,_] cE a8 ?_;refine .ys 12 rfl hs [_,_,_,_,_,_,_,_] aO aF ?_;refine .z 13 rfl (zfa jo) ?_;refine .ys 14 rfl hs [_,_,_] bX bh ?_;refine .z 15 rfl (zfa jn) ?_;refine .y 16 rfl hs eC ?_;refine .z 17 rfl (zfa jm) ?_;refine .y 18 rfl hs ae ?_;refine .z 19 rfl (zfa jk) ?_;refine .ys 20 rfl hs [_,_] cE a8 ?_
 refine .E 11 hs ?_
 refine .call Tryz.call71 rfl (gE (s:=s) (q:=c.q) (high:=c.high) (n:=c.n) (m:=c.m) (us:=c.us) hs h1 h2 h3 h4 ⟨_,rfl,hU.mono hle02⟩) ?_;rintro _ w ⟨H3,e,hle3,rfl,hE,hs⟩
 replace h1:=h1.mono hle3
 replace h2:=h2.mono hle3
 replace h3:=h3.mono hle3
 replace h4:=h4.mono hle3
 refine .go ?_
 refine .E 21 hs ?_
 refine .call Tryz.call72 rfl (fJ (s:=s) (q:=c.q) (high:=c.high) (n:=c.n) (m:=c.m) (us:=c.us) hs h1 h2 h3 h4 ⟨_,rfl,hU.mono (hle02.trans hle3)⟩) ?_;rintro _ w ⟨H4,f,hle4,rfl,hF,hs⟩
 obtain rfl:=hE.uniq hF
 refine .go ?_
 refine .z 22 rfl gC ?_;refine .z 23 rfl zpT ?_;refine .z 24 rfl zg ?_;refine .D hs ?_
 refine .ret (Fin.bJ Tryz.results16 rfl ?_)
 exact ⟨bV,H4,hle02.trans (hle3.trans hle4),hs.out⟩
set_option maxHeartbeats 4000000 in
theorem qv{vp vc:Value}{n:Int}{us:List Use}{ls:List Tri}(hs:St H w σ)(hp:RPf H vp n us)(hu:us.length≤400)(hn: -5000000000000000000≤n∧n≤5000000000000000000)(hc:RS H 3 vc (ls.map Tri.v)):
  Cl Tryz.prog 81 [vp,vc] w fun u w'=>∃H1 n2 us2,HLe H H1∧RPf H1 u n2 us2∧St H1 w' σ:=by
 obtain ⟨uu,rfl,hU⟩:=hp
 obtain ⟨au,cu,rfl⟩:=RU.shape hU
 obtain ⟨ac,cc,rfl⟩:∃a c,vc= .slice a ls.length c:=by
  obtain ⟨a,c,h⟩:=hc.shape
  exact ⟨a,c,by rw [h,List.length_map]⟩
 refine Cl.o Tryz.func81 Tryz.ntmps81 ag2 ?_
 refine .ai ?_
 refine .bx hs fun b2 w hs=>?_
 refine .o (.alloc hs eT rfl fun b4 w hs=>?_)
 refine .nil ?_
 refine .cut (fun fs w=>∃b5 vo en,j9 fs ⟨88,[],[(5,.pointer (some ⟨b5,0,none⟩)),(4,.pointer (some ⟨b4,0,none⟩)),(1,.slice ac ls.length cc)]⟩∧cn 2 vo (usc us).flatten en∧St H w (en:: .blk b5 [I n,vo]:: .blk b4 [I 0,.slice none 0 0]::σ)) ?_ ?_
 ·refine .draw mix rfl hs fun w hs=>?_
  refine .z 0 rfl (zfa ee) ?_;refine .y 1 rfl hs ae ?_;refine .z 3 rfl (zfa cU) ?_;refine .y 4 rfl hs eZ ?_
  refine .e2 (i:=2) (j:=7) an rfl rfl rfl rfl .none .none hs ?_ ?_
  ·refine .buildSlice (cells:=[]) hs kl rfl rfl ?_;intro b11 w hs
   refine .go ?_
   refine .e2 (i:=5) (j:=7) an rfl rfl rfl rfl .none .none hs ?_ ?_
   ·refine .append (xs:=[]) hs dY rfl rfl (.full (len:=0) rfl) (yJ hU) (pW us) (fun l' h=>by simp at h;obtain rfl:l'=0:=aj;omega) ?_;intro v14 en14 w hO hs
    rw [List.nil_append] at hO
    obtain ⟨a14,c14,rfl⟩:=hO.iD (lM _) aj
    refine .go ?_
    refine .z 6 rfl (zbd [_,_] ik) ?_
    refine .E 7 hs ?_
    refine .alloc hs eT rfl ?_;intro b5 w hs
    refine .go ?_
    refine .E 8 hs ?_
    refine .aU (vs:=[_,_]) hs rfl rfl a8 ?_;intro w hs
    refine .go ?_
    refine .D hs ?_
    exact nT ⟨_,_,_,aR,hO,hs.sb⟩
   ·refine .alloc hs eT rfl ?_;intro b5 w hs
    refine .go ?_
    refine .E 5 hs ?_
    refine .append (xs:=[]) hs dY rfl rfl (.full (len:=0) rfl) (yJ hU) (pW us) (fun l' h=>by simp at h;obtain rfl:l'=0:=aj;omega) ?_;intro v14 en14 w hO hs
    rw [List.nil_append] at hO
    obtain ⟨a14,c14,rfl⟩:=hO.iD (lM _) aj
    refine .go ?_
    refine .z 6 rfl (zbd [_,_] ik) ?_
    refine .E 8 hs ?_
    refine .aU (vs:=[_,_]) hs rfl rfl a8 ?_;intro w hs
    refine .go ?_
    refine .D hs ?_
    exact nT ⟨_,_,_,aR,hO,hs.sb⟩
  ·refine .alloc hs eT rfl ?_;intro b5 w hs
   refine .go ?_
   refine .E 2 hs ?_
   refine .buildSlice (cells:=[]) hs kl rfl rfl ?_;intro b11 w hs
   refine .go ?_
   refine .E 5 hs ?_
   refine .append (xs:=[]) hs dY rfl rfl (.full (len:=0) rfl) (yJ hU) (pW us) (fun l' h=>by simp at h;obtain rfl:l'=0:=aj;omega) ?_;intro v14 en14 w hO hs
   rw [List.nil_append] at hO
   obtain ⟨a14,c14,rfl⟩:=hO.iD (lM _) aj
   refine .go ?_
   refine .z 6 rfl (zbd [_,_] ik) ?_
   refine .E 8 hs ?_
   refine .aU (vs:=[_,_]) hs rfl rfl a8 ?_;intro w hs
   refine .go ?_
   refine .D hs ?_
   exact nT ⟨_,_,_,aR,hO,hs.sb⟩
 ·rintro fs w ⟨b5,vo,en,hfs,hO,hs⟩
  refine WE.sub ?_ hfs
  clear hfs
  refine .seq (.ai (.z zg (.nil (.block ?_))))
  refine .loop (fun i:Nat=>⟨88,[],[(6,I (i:Int)),(5,.pointer (some ⟨b5,0,none⟩)),(4,.pointer (some ⟨b4,0,none⟩)),(1,.slice ac ls.length cc)]⟩)
   (fun i w=>i≤2∧∃H1 n2 us2 vo en,HLe H H1∧us2.length≤400∧(-5000000000000000000 - 3*(i:Int)≤n2∧n2≤5000000000000000000+3*(i:Int))∧cn 2 vo (usc us2).flatten en∧St H1 w (en:: .blk b5 [I n2,vo]:: .blk b4 [I 0,.slice none 0 0]::σ)) (fun i=>2 - i) 0 aR
   ⟨aj,H,n,us,_,_,HLe.refl _,hu,aj,hO,hs.sb⟩ ?_
  clear hs hO
  rintro i w ⟨hi,H1,n2,us2,vo,en,hle1,hul,hn2,hO,hs⟩
  obtain ⟨ao,co,rfl⟩:=hO.iD (lM _) aj
  rw [dX] at hO hs
  refine .seq (.ai (.z zm (.z zm (.z (c9 Tryz.runUnderlying128) (.z gx (.z zm ?_))))))
  refine .iB (t':=20) rfl (fun hb20=>?_) (fun hb20=>?_)
  ·refine .gT rfl rfl ?_
   refine .z zm ?_
   refine .gT rfl rfl ?_
   refine .z gx (.z zpT (.nil ?_))
   refine (.bM rfl (fun hc23=>?_) (fun hc23=>?_))
   ·refine .skip ?_
    refine nT ?_
    refine .seq (.block (.ai (.z zm (.z zm ?_))))
    obtain ⟨x,hx⟩:=nth (l:=ls) (k:=i) aj
    refine .ixX (enc:=Tri.v) hs (RS.mono hc hle1) rfl rfl Tryz.runUnderlying128 mF hx rfl ?_;intro b28 o28 hc28
    refine .q hs (cI (vs:=x.v) rfl Tryz.isAgg25 mF hc28) ?_
    refine .o (.alloc hs Tryz.zeroValue25 rfl fun b7 w hs=>?_)
    refine .o (.aU (vs:=x.v) hs rfl rfl mF fun w hs=>?_)
    refine .nil (.seq (.ai (.z (zfa cU) (.y hs (zld eZ) (.z (c9 bD) (.z gC (.nil ?_)))))))
    refine (.bM rfl (fun hc33=>?_) (fun hc33=>?_))
    ·refine .ai (.y hs (zls [_,_] cE a8) ?_)
     refine .o (.aU (vs:=[_,_]) hs rfl rfl a8 fun w hs=>?_)
     refine .nil ?_
     refine .ret (rT (rB (rT (rT (rB (rT (?_)))))))
     obtain ⟨H2,hle2,hR,hs⟩:=cn.cK (m:=2) (cs:=usc us2) hO (lM _) aj (by rw [dX];omega) hs cZ
     exact Fin.iK [] [] hs fun w hs=>⟨_,results1 Tryz.results81 (dJ (vs:=[_,_]) hs rfl cE a8),H2,n2,us2,hle1.trans hle2,⟨_,rfl,hR⟩,hs.out⟩
    ·refine .skip ?_
     refine nT ?_
     refine .ai ?_
     refine .z (zia 1 aM af) ?_
     refine .y hs (zld ae) (.z (zfa cU) (.y hs (zld eZ) (.z (c9 bD) ?_)))
     obtain ⟨bo,cp,sp,hv,rfl,hcap⟩:=hO.EA (lM _) aj (by rw [dX];omega)
     simp only [Value.slice.injEq] at hv
     obtain ⟨rfl,-,rfl⟩:=hv
     rw [dX] at hcap
     refine .o (.call cJ rfl (bK hs aj) ?_);rintro _ w ⟨j,gj,rfl,hs⟩
     obtain ⟨u,hux⟩:=nth (l:=us2) (k:=j) aj
     have hbU:∀q<2,Nat.blt (j*2+q) ((usc us2).flatten++sp).length=true:=fun q hq=>Nat.ble_eq_true_of_le (by rw [List.length_append,bT _ (lM _),dX];omega)
     refine .z zg (.nil (.ai ?_))
     refine .z (zia 0 aM af) ?_
     refine .y hs (zld ae) ?_
     refine .o (.call cJ rfl (bK hs aj) ?_);rintro _ w ⟨k,gk,rfl,hs⟩
     refine .nil (.block (.ai (.z gC (.z zg (.nil ?_)))))
     refine (.bM rfl (fun hc44=>?_) (fun hc44=>?_))
     ·refine .draw mix rfl hs fun w hs=>?_
      refine .z 0 rfl (zfa ee) ?_;refine .y 1 rfl hs ae ?_
      refine .z 2 rfl (zia 2 aM af) ?_
      refine .y 3 rfl hs ae ?_
      refine .E 4 hs ?_
      refine .call cJ rfl (bK hs aj) ?_;rintro _ w ⟨k7,gk7,rfl,hs⟩
      refine .go ?_
      refine .z 5 rfl cq ?_;refine .z 6 rfl gW ?_;refine .z 7 rfl (zfa ee) ?_
      refine .E 8 hs ?_
      refine .store hs rfl rfl af ?_;intro w hs
      refine .go ?_
      refine .D hs ?_
      refine nB (nB (nT ?_))
      refine .region (.z zm (.z cq (.z zg (.nil ?_))))
      refine nT ?_
      exact ⟨i+1,.cj rfl bV aR,⟨aj,H1,n2+(k7:Int) - 3,us2,_,_,hle1,hul,by push_cast;omega,hO,hs.sb⟩,aj⟩
     ·refine .ai (.z gC (.z zg (.nil ?_)))
      refine (.bM rfl (fun hc54=>?_) (fun hc54=>?_))
      ·refine .region (.z (zfa cU) (.y hs (zld eZ) (.z zm ?_)))
       refine .z (zia 2 aM af) ?_
       refine .y hs (zld ae) ?_
       first|(refine .ixw hs bD dD ?_;intro b61 o61 hc61)|refine .z (ni bD dD) ?_
       refine .z (zfa eD) ?_
       refine .o (.store (c':=(usc (us2.set j {u with t:=x.c})).flatten++sp) hs rfl rfl af ?_ cZ (hbU 1 aj) (yR hux aj rfl sp));intro w hs
       refine .nil ?_
       refine nB (nB (nT ?_))
       refine .region (.z zm (.z cq (.z zg (.nil ?_))))
       refine nT ?_
       exact ⟨i+1,.cj rfl bV aR,⟨aj,H1,n2,us2.set j {u with t:=x.c},_,_,hle1,by rw [List.length_set];exact hul,by push_cast;omega,y7 hO,hs.sb⟩,aj⟩
      ·refine .ai (.z gC (.z zg (.nil ?_)))
       refine (.bM rfl (fun hc63=>?_) (fun hc63=>?_))
       ·refine .region (.z (zfa cU) (.y hs (zld eZ) (.z zm ?_)))
        refine .z (zia 2 aM af) ?_
        refine .y hs (zld ae) ?_
        first|(refine .ixw hs bD dD ?_;intro b70 o70 hc70)|refine .z (ni bD dD) ?_
        refine .z (zfa fN) ?_
        refine .o (.store (c':=(usc (us2.set j {u with l:=x.c})).flatten++sp) hs rfl rfl af ?_ cZ (hbU 0 aj) (yR hux aj rfl sp));intro w hs
        refine .nil ?_
        refine nB (nB (nT ?_))
        refine .region (.z zm (.z cq (.z zg (.nil ?_))))
        refine nT ?_
        exact ⟨i+1,.cj rfl bV aR,⟨aj,H1,n2,us2.set j {u with l:=x.c},_,_,hle1,by rw [List.length_set];exact hul,by push_cast;omega,y7 hO,hs.sb⟩,aj⟩
       ·refine .ai (.z gC (.z zg (.nil ?_)))
        refine (.bM rfl (fun hc72=>?_) (fun hc72=>?_))
        ·refine .draw mix rfl hs fun w hs=>?_
         refine .z 1 rfl (zfa cU) ?_;refine .y 2 rfl hs eZ ?_;refine .z 3 rfl zm ?_
         refine .z 4 rfl (lY (k:=j) rfl rfl bD dD rfl aj) ?_
         refine .z 6 rfl (zfa cU) ?_;refine .y 7 rfl hs eZ ?_;refine .z 8 rfl zm ?_;refine .z 9 rfl cq ?_
         refine .z 10 rfl (nD (k:=j+1) rfl rfl bD dD (by push_cast;omega) aj) ?_
         refine .E 0 hs ?_
         refine .buildSlice (cells:=[]) hs kl rfl rfl ?_;intro b74 w hs
         refine .go ?_
         refine .E 5 hs ?_
         refine .append (xs:=[]) hs dY rfl rfl (.full (len:=0) rfl) (xQ (us:=us2) (j:=j) (sp:=sp) cZ aj) (pW _) (fun l' h=>by simp at h;obtain rfl:l'=0:=aj;omega) ?_;intro v79 en79 w hO2 hs
         rw [List.nil_append] at hO2
         obtain ⟨a79,c79,rfl⟩:=hO2.iD (lM _) aj
         rw [dX] at hO2 ⊢
         refine .go ?_
         refine .E 11 hs ?_
         refine .append hs dY rfl rfl hO2 (xP (us:=us2) (j:=j+1) (sp:=sp) cZ aj aj) (pW _) (fun l' h=>by rw [bT _ (lM _),dX,List.length_take] at h;omega) ?_;intro v85 en85 w hO3 hs
         rw [DV] at hO3
         obtain ⟨a85,c85,rfl⟩:=hO3.iD (lM _) aj
         rw [dX] at hO3 ⊢
         refine .go ?_
         refine .z 12 rfl (zfa cU) ?_
         refine .E 13 hs ?_
         refine .store hs rfl rfl Tryz.sizeOf111 ?_;intro w hs
         refine .go ?_
         refine .D hs ?_
         refine nB (nB (nT ?_))
         refine .region (.z zm (.z cq (.z zg (.nil ?_))))
         refine nT ?_
         exact ⟨i+1,.cj rfl bV aR,⟨aj,H1,n2,us2.take j++us2.drop (j+1),_,_,hle1,by rw [List.length_append,List.length_take,List.length_drop];omega,by push_cast;omega,hO3,hs.sb⟩,aj⟩
        ·refine .skip ?_
         refine nB (nB (nT ?_))
         refine .region (.z zm (.z cq (.z zg (.nil ?_))))
         refine nT ?_
         exact ⟨i+1,.cj rfl bV aR,⟨aj,H1,n2,us2,_,_,hle1,hul,by push_cast;omega,hO,hs.sb⟩,aj⟩
   ·refine .exit ?_
    refine xT (xT (xB (nT ?_)))
    refine .ai (.y hs (zls [_,_] cE a8) ?_)
    refine .o (.aU (vs:=[_,_]) hs rfl rfl a8 fun w hs=>?_)
    refine .nil ?_
    refine .ret ?_
    obtain ⟨H2,hle2,hR,hs⟩:=cn.cK (m:=2) (cs:=usc us2) hO (lM _) aj (by rw [dX];omega) hs cZ
    exact Fin.iK [] [] hs fun w hs=>⟨_,results1 Tryz.results81 (dJ (vs:=[_,_]) hs rfl cE a8),H2,n2,us2,hle1.trans hle2,⟨_,rfl,hR⟩,hs.out⟩
  ·refine .gFs 2 4 true rfl rfl rfl ?_
   refine .z zpF (.nil ?_)
   refine (.cF ?_)
   refine .exit ?_
   refine xT (xT (xB (nT ?_)))
   refine .ai (.y hs (zls [_,_] cE a8) ?_)
   refine .o (.aU (vs:=[_,_]) hs rfl rfl a8 fun w hs=>?_)
   refine .nil ?_
   refine .ret ?_
   obtain ⟨H2,hle2,hR,hs⟩:=cn.cK (m:=2) (cs:=usc us2) hO (lM _) aj (by rw [dX];omega) hs cZ
   exact Fin.iK [] [] hs fun w hs=>⟨_,results1 Tryz.results81 (dJ (vs:=[_,_]) hs rfl cE a8),H2,n2,us2,hle1.trans hle2,⟨_,rfl,hR⟩,hs.out⟩
def vz(s:Srv)(q:Wht)(high:Bool)(n:Int)(us:List Use):Prop:=lH s.sys (sU (s.w q) high) n us∧kR s.sys (sU (s.w q) high) n 0
set_option maxHeartbeats 1000000 in
theorem qk{s:Srv}{q:Wht}{vst vwa vr vc:Value}{high:Bool}(hs:St H w σ)(h1:RI H vst s.sp.st)(h2:RI H vwa s.sp.wa)(h3:RRd H vr s.rs)(h4:RCm H vc s.cs):
  Cl Tryz.prog 80 [.agg #[I s.sp.id,I s.sp.src,vst,vwa,I s.sp.al,I s.sp.up,vr,vc],.agg #[I q.kind,I q.st,I q.wa],.bool high] w fun u w'=>∃H1 vp n us e,HLe H H1∧u= .tuple #[vp,I e]∧RPf H1 vp n us∧rV s q e∧(e≠0→n=0∧us=[])∧(e=0→vz s q high n us)∧St H1 w' σ:=by
 refine Cl.o Tryz.func80 Tryz.ntmps80 ag3 ?_
 refine .ai ?_
 refine .bx hs fun b3 w hs=>?_
 refine .bx hs fun b4 w hs=>?_
 refine .o (.alloc hs eT rfl fun b6 w hs=>?_)
 refine .z zg (.nil (.ai (.y hs (zls [_,_,_,_,_,_,_,_] aO aF) (.y hs (zls [_,_,_] bX bh) ?_))))
 refine .o (.call Tryz.call85 rfl (ld (s:=s) (q:=q) hs h1 h2 h3 h4) ?_);rintro _ w ⟨H1,m,ul,vw,d,e,hle1,rfl,⟨al,ll,cl,rfl⟩,⟨aw,lw,cw,rfl⟩,hA,hA0,hs⟩
 refine .z zm (.z zex (.z zex ?_))
 refine .o (.alloc hs kE rfl fun b8 w hs=>?_)
 refine .o (.aU (vs:=[_,_,_,_]) hs rfl rfl dE fun w hs=>?_)
 refine .z zg (.nil (.seq (.ai (.z zm (.z ij (.nil ?_))))))
 refine (.eQ rfl (fun hc17=>?_) (fun hc17=>?_))
 ·refine .ai (.z (zbd [_,_] ik) (.z zm ?_))
  refine .o (.aU (vs:=[_,_]) hs rfl rfl a8 fun w hs=>?_)
  refine .z zg (.nil ?_)
  refine .ret (rT (?_))
  exact Fin.iK [] [] hs fun w hs=>⟨_,results2 Tryz.results80 (dJ (vs:=[_,_]) hs rfl cE a8) rfl,H1,_,0,[],_,hle1,rfl,⟨_,rfl,RS.nil H1 2 none 0⟩,hA,fun _=>⟨rfl,rfl⟩,fun h=>(hc17 h).elim,hs.out⟩
 ·refine .skip ?_
  refine nT ?_
  refine .seq (.draw mix rfl hs fun w hs=>?_)
  refine .z 0 rfl (zfa ia) ?_;refine .ys 1 rfl hs [_,_] aT aE ?_;refine .ys 2 rfl hs [_,_,_,_] mG dE ?_;refine .z 3 rfl zm ?_
  refine .E 4 hs ?_
  obtain rfl:e=0:=by simpa using hc17
  obtain ⟨rfl,hL,hR,rfl⟩:=hA0 rfl
  obtain ⟨hok,hq,hsd⟩:=hA.zero
  have hn65:=hok.sys.n65
  have hwl:=ns s q
  refine .call Tryz.call153 rfl (gQ (high:=high) hs hR (vP hok hq) aj) ?_;rintro _ w ⟨H2,hle2,hRt,hs⟩
  refine .go ?_
  refine .E 5 hs ?_
  refine .call Tryz.call167 rfl (sz (s:=s.sys) hs ⟨_,rfl,hL.mono hle2⟩ hRt) ?_;rintro _ w ⟨H3,vp,n,us,f,hle3,rfl,hM,⟨uu,rfl,hU⟩,-,hF,hs⟩
  obtain ⟨au,cu,rfl⟩:=RU.shape hU
  obtain rfl:=nR (zK hok hq high) hsd (fun b=>s.both) hM
  obtain ⟨hS,-,ts,hFl,rfl,rfl⟩:=hF rfl
  have hle03:=hle1.trans (hle2.trans hle3)
  refine .go ?_
  refine .z 6 rfl zex ?_;refine .z 7 rfl zex ?_
  refine .E 8 hs ?_
  refine .aU (vs:=[_,_]) hs rfl rfl a8 ?_;intro w hs
  refine .go ?_
  refine .z 9 rfl zg ?_;refine .D hs ?_
  refine .ret ?_
  exact Fin.iK [] [] hs fun w hs=>⟨_,results2 Tryz.results80 (dJ (vs:=[_,_]) hs rfl cE a8) rfl,H3,_,_,_,_,hle03,rfl,⟨_,rfl,hU⟩,hA,fun h=>(h rfl).elim,fun _=>⟨Ai hS hFl,hM⟩,hs.out⟩
theorem rV.same{v:Srv}{q:Wht}{lo hi e f:Int}(h:rV v q e)(g:xW v q lo hi f):e=f:=by
 by_cases e0:e=0
 ·subst e0
  obtain ⟨h1,h2,h3⟩:=h.zero
  cases g with
  |bad g ge=>exact (ge (g.dt.2 h1)).elim
  |what _ g=>exact (g h2).elim
  |fls _ _ g=>exact (g h3).elim
  |ok=>rfl
 ·exact ((h.qty e0).uniq g).2.2
theorem D5{v:Srv}{q:Wht}{lo hi:Int}(g:xW v q lo hi 0):∃a b,lo=a/ml q∧hi=b/ml q∧eS v∧fm v.sp q∧fD v.sys (v.w q) a b 0:=by
 generalize hz:(0:Int)=z at g
 cases g with
 |bad g ge=>exact (ge hz.symm).elim
 |what=>omega
 |fls=>omega
 |ok h1 h2 h3 h4=>exact ⟨_,_,rfl,rfl,h1,h2,h4⟩
theorem Bx{a d:Int}(hd:1≤d)(ha: -4608000000000000000≤a∧a≤4608000000000000000): -4608000000000000000≤a/d∧a/d≤4608000000000000000:=by
 have:=Int.mul_le_mul_of_nonneg_left hd (show (0:Int)≤4608000000000000000 by omega)
 exact ⟨Int.le_ediv_of_mul_le aj aj,Int.ediv_le_of_le_mul aj aj⟩
theorem E1{v:Srv}{q:Wht}{lo hi e:Int}(g:xW v q lo hi e):(-4608000000000000000≤lo∧lo≤4608000000000000000)∧-4608000000000000000≤hi∧hi≤4608000000000000000:=by
 have hd:=ow q
 cases g with
 |bad=>omega
 |what=>omega
 |fls=>omega
 |ok h1 h2 h3 h4=>
  have:=h4.bd
  exact ⟨Bx aj aj,Bx aj aj⟩
theorem vz.Gj{v:Srv}{q:Wht}{high:Bool}{n lo hi:Int}{us:List Use}(h:vz v q high n us)(g:xW v q lo hi 0):sF v q high (if high=true then hi else lo) n us 0:=by
 obtain ⟨a,b,rfl,rfl,h1,h2,h3⟩:=D5 g
 refine .ok h1 h2 h.1 ?_
 have hm:=h.2
 unfold sU at hm
 unfold eh
 cases high with
 |true=>rw [if_pos rfl] at hm ⊢;rw [if_pos rfl,Cz h3 hm];exact Int.le_refl _
 |false=>
  rw [if_neg bV] at hm ⊢
  rw [if_neg bV,Cy h3 hm,Int.neg_neg];exact Int.le_refl _
theorem vz.bd{v:Srv}{q:Wht}{high:Bool}{n e:Int}{us:List Use}(h0:e≠0→n=0∧us=[])(hA:rV v q e)(h:e=0→vz v q high n us):us.length≤400∧-5000000000000000000≤n∧n≤5000000000000000000:=by
 by_cases e0:e=0
 ·subst e0
  have h1:=vX hA.zero.1 (h rfl).1
  exact ⟨(h rfl).1.len,aj⟩
 ·obtain ⟨rfl,rfl⟩:=h0 e0
  exact ⟨bV,aj⟩
set_option maxHeartbeats 4000000 in
theorem pC{v v1:Value}{g:EM}{k:FX}(hs:St H w σ)(hg:BQ H v g)(hk:EG H v1 k):
  Cl Tryz.prog 19 [v,v1] w fun v w'=>v= .bool true∧∃H',HLe H H'∧St H' w' σ:=by
 obtain ⟨vs,v5,v4,vp,rfl,g1,g2,g3,g4⟩:=hg
 obtain ⟨vch,rfl,hch⟩:=hk
 obtain ⟨ach,cch,rfl⟩:∃a c,vch= .slice a k.ch.length c:=by
  obtain ⟨a,c,h⟩:=hch.shape
  exact ⟨a,c,by rw [h,List.length_map]⟩
 refine Cl.o Tryz.func19 Tryz.ntmps19 ag2 ?_
 refine .ai ?_
 refine .bx hs fun b2 w hs=>?_
 refine .bx hs fun b3 w hs=>?_
 refine .z zg (.nil (.ai ?_))
 refine .o (.call Tryz.call22 rfl (nE hs) ?_);rintro _ w ⟨rfl,H1,hle1,hs⟩
 refine .z zg (.nil (.ai (.y hs (zls [_,_,_,_,_,_,_] Tryz.isAgg27 Tryz.sizeOf27) ?_)))
 refine .o (.call Tryz.call23 rfl (lX hs (g1.mono hle1) (g2.mono hle1) (g3.mono hle1) (g4.mono hle1)) ?_);rintro _ w ⟨H2,s,vst,vwa,vr,vc,hle2,rfl,h1,h2,h3,h4,hSpl,hs⟩
 obtain ⟨ast,cst,rfl⟩:=RI.shape h1
 obtain ⟨awa,cwa,rfl⟩:=RI.shape h2
 obtain ⟨ar,cr,rfl⟩:=RRd.shape h3
 obtain ⟨ac,cc,rfl⟩:=RCm.shape h4
 have hle02:=hle1.trans hle2
 refine .o (.alloc hs eI rfl fun b6 w hs=>?_)
 refine .o (.aU (vs:=[_,_,_,_,_,_,_,_]) hs rfl rfl aF fun w hs=>?_)
 refine .nil (.ai (.z (zbd [_,_,_] lr) ?_))
 refine .o (.alloc hs Tryz.zeroValue29 rfl fun b7 w hs=>?_)
 refine .o (.aU (vs:=[_,_,_]) hs rfl rfl bh fun w hs=>?_)
 refine .nil ?_
 refine .cut (fun fs w=>∃q1:Wht,j9 fs ⟨113,[],[(7,.pointer (some ⟨b7,0,none⟩)),(6,.pointer (some ⟨b6,0,none⟩)),(5,.bool true),(3,.pointer (some ⟨b3,0,none⟩))]⟩∧St H2 w (.blk b7 [I q1.kind,I q1.st,I q1.wa]:: .blk b6 [I s.sp.id,I s.sp.src,.slice ast s.sp.st.length cst,.slice awa s.sp.wa.length cwa,I s.sp.al,I s.sp.up,.slice ar s.rs.length cr,.slice ac s.cs.length cc]:: .blk b3 [I k.a,I k.b,I k.c,.bool k.high,I k.n,.bool k.near,.slice ach k.ch.length cch]::σ)) ?_ ?_
 ·refine .ai (.z (zfa aS) (.y hs (zls [_,_,_,_,_,_] aQ aI) ?_))
  refine .o (.call Tryz.call24 rfl (jP (s:=s.sp) hs h1 h2) ?_);rintro _ w ⟨e24,rfl,hcase,hs⟩
  refine .z gC (.nil ?_)
  refine (.bM rfl (fun hc22=>?_) (fun hc22=>?_))
  ·refine .region (.z (zfa aS) (.y hs (zls [_,_,_,_,_,_] aQ aI) (.z (zfa nP) (.y hs (zls [_,_,_] Tryz.isAgg25 mF) ?_))))
   have hok:fX s.sp:=by
    rcases hcase with ⟨h,_⟩|⟨_,h⟩
    ·exact h
    ·omega
   refine .o (.call Tryz.call25 rfl (pn (s:=s.sp) hs h1 h2 hok) ?_);rintro _ w ⟨q1,rfl,hq1,hs⟩
   refine .o (.aU (vs:=[_,_,_]) hs rfl rfl bh fun w hs=>?_)
   refine .nil ?_
   refine nT ?_
   exact ⟨q1,aR,hs.sb⟩
  ·refine .skip ?_
   refine nT ?_
   exact ⟨⟨1,0,0⟩,aR,hs.sb⟩
 ·clear hs
  rintro fs w ⟨q,hfs,hs⟩
  refine WE.sub ?_ hfs
  clear hfs
  refine .ai (.y hs (zls [_,_,_,_,_,_,_,_] aO aF) (.y hs (zls [_,_,_] bX bh) (.z (zfa dL) (.y hs (zld eC) ?_))))
  refine .o (.call Tryz.call80 rfl (qk (s:=s) (q:=q) (high:=k.high) hs h1 h2 h3 h4) ?_);rintro _ w ⟨H3,_,n,us,e,hle3,rfl,⟨uu,rfl,hU⟩,hA,hne,hsh,hs⟩
  obtain ⟨au,cu,rfl⟩:=RU.shape hU
  replace h1:=h1.mono hle3
  replace h2:=h2.mono hle3
  replace h3:=h3.mono hle3
  replace h4:=h4.mono hle3
  refine .z zm (.z zex (.z zex ?_))
  refine .o (.alloc hs eT rfl fun b8 w hs=>?_)
  refine .o (.aU (vs:=[_,_]) hs rfl rfl a8 fun w hs=>?_)
  refine .z zg (.nil (.ai (.y hs (zls [_,_,_,_,_,_,_,_] aO aF) (.y hs (zls [_,_,_] bX bh) ?_))))
  refine .o (.call Tryz.call27 rfl (ss (s:=s) (q:=q) hs h1 h2 h3 h4) ?_);rintro _ w ⟨H4,lo,hi,f,hle4,rfl,hB,hs⟩
  obtain rfl:=hA.same hB
  obtain ⟨hul,hnb⟩:=vz.bd hne hA hsh
  have hqb:=E1 hB
  have hle03:=hle02.trans hle3
  replace hU:=RS.mono hU hle4
  replace h1:=h1.mono hle4
  replace h2:=h2.mono hle4
  replace h3:=h3.mono hle4
  replace h4:=h4.mono hle4
  have hle04:=hle03.trans hle4
  refine .z zm (.z zex (.z zex ?_))
  refine .o (.alloc hs fY rfl fun b10 w hs=>?_)
  refine .o (.aU (vs:=[_,_]) hs rfl rfl aZ fun w hs=>?_)
  refine .z zg (.nil (.seq (.ai (.z zm (.z zm (.z ij ?_))))))
  rw [decide_eq_true rfl]
  refine .z zm ?_
  refine .gT rfl rfl ?_
  refine .z zm ?_
  refine .gT rfl rfl ?_
  refine .z ir (.z zpF (.nil ?_))
  refine (.cond rfl (fun hc48=>?_) (fun hc48=>?_))
  ·refine .ai (.z zg (.nil ?_))
   refine .ret (rT (Fin.bJ Tryz.results19 rfl ?_))
   cases hc48
  ·refine .skip ?_
   refine nT ?_
   refine .ai (.z (zfa oV) (.y hs (zld ae) (.z zg (.nil ?_))))
   refine .cut (fun fs w=>∃num,j9 fs ⟨113,[],[(12,I num),(10,.pointer (some ⟨b10,0,none⟩)),(9,I e),(8,.pointer (some ⟨b8,0,none⟩)),(7,.pointer (some ⟨b7,0,none⟩)),(6,.pointer (some ⟨b6,0,none⟩)),(5,.bool true),(3,.pointer (some ⟨b3,0,none⟩))]⟩∧num=(if k.high=true then hi else lo)∧St H4 w (.blk b8 [I n,.slice au us.length cu]:: .blk b7 [I q.kind,I q.st,I q.wa]:: .blk b6 [I s.sp.id,I s.sp.src,.slice ast s.sp.st.length cst,.slice awa s.sp.wa.length cwa,I s.sp.al,I s.sp.up,.slice ar s.rs.length cr,.slice ac s.cs.length cc]:: .blk b3 [I k.a,I k.b,I k.c,.bool k.high,I k.n,.bool k.near,.slice ach k.ch.length cch]::σ)) ?_ ?_
   ·refine .ai (.z (zfa dL) (.y hs (zld eC) (.nil ?_)))
    refine (.cond rfl (fun hc52=>?_) (fun hc52=>?_))
    ·refine .region (.z (zfa oU) (.y hs (zld ae) (.z zg (.nil ?_))))
     refine nT ?_
     exact ⟨hi,aR,by rw [if_pos cD],hs.sb⟩
    ·refine .skip ?_
     refine nT ?_
     exact ⟨lo,aR,by rw [if_neg (by simp [hc52])],hs.sb⟩
   ·clear hs
    rintro fs w ⟨num,hfs,hnum,hs⟩
    refine WE.sub ?_ hfs
    clear hfs
    have hnumb: -4608000000000000000≤num∧num≤4608000000000000000:=by
     rw [hnum];split<;>omega
    refine .cut (fun fs w=>∃H5,j9 fs ⟨113,[],[(12,I num),(8,.pointer (some ⟨b8,0,none⟩)),(7,.pointer (some ⟨b7,0,none⟩)),(6,.pointer (some ⟨b6,0,none⟩)),(5,.bool true),(3,.pointer (some ⟨b3,0,none⟩))]⟩∧HLe H4 H5∧St H5 w (.blk b8 [I n,.slice au us.length cu]:: .blk b7 [I q.kind,I q.st,I q.wa]:: .blk b6 [I s.sp.id,I s.sp.src,.slice ast s.sp.st.length cst,.slice awa s.sp.wa.length cwa,I s.sp.al,I s.sp.up,.slice ar s.rs.length cr,.slice ac s.cs.length cc]:: .blk b3 [I k.a,I k.b,I k.c,.bool k.high,I k.n,.bool k.near,.slice ach k.ch.length cch]::σ)) ?_ ?_
    ·refine .ai (.z zm (.z gC (.z zm ?_)))
     refine .iB (t':=57) rfl (fun hb57=>?_) (fun hb57=>?_)
     ·refine .gT rfl rfl ?_
      refine .y hs (zls [_,_,_,_,_,_,_,_] aO aF) ?_
      refine .gT rfl rfl ?_
      refine .y hs (zls [_,_,_] bX bh) ?_
      refine .gT rfl rfl ?_
      refine .z (zfa dL) ?_
      refine .gT rfl rfl ?_
      refine .y hs (zld eC) ?_
      refine .gT rfl rfl ?_
      refine .z zm ?_
      refine .gT rfl rfl ?_
      refine .y hs (zls [_,_] cE a8) ?_
      refine .gT rfl rfl ?_
      refine .o (.call Tryz.call72 rfl (fJ (s:=s) (q:=q) (high:=k.high) (n:=num) (m:=n) (us:=us) hs h1 h2 h3 h4 ⟨_,rfl,hU⟩) ?_);rintro _ w ⟨H5,e5,hle5,rfl,hE5,hs⟩
      obtain rfl:e5=0:=by
       have he:e=0:=by simpa using hb57
       subst he
       rw [hnum] at hE5
       exact hE5.uniq ((hsh rfl).Gj hB)
      refine .gT rfl rfl ?_
      refine .z ij (.z zpT (.nil ?_))
      refine (.eQ rfl (fun hc66=>?_) (fun hc66=>?_))
      ·refine .ai (.z zg (.nil ?_))
       refine .ret (rT (Fin.bJ Tryz.results19 rfl ?_))
       exact (hc66 rfl).elim
      ·refine .skip ?_
       refine nT ?_
       exact ⟨H5,aR,hle5,hs.sb⟩
     ·refine .gFs 8 2 true rfl rfl rfl ?_
      refine .z zpF (.nil ?_)
      refine (.cF ?_)
      refine .skip ?_
      refine nT ?_
      exact ⟨H4,aR,HLe.refl _,hs.sb⟩
    ·clear hs
     rintro fs w ⟨H5,hfs,hle5,hs⟩
     refine WE.sub ?_ hfs
     clear hfs
     replace hU:=RS.mono hU hle5
     replace h1:=h1.mono hle5
     replace h2:=h2.mono hle5
     replace h3:=h3.mono hle5
     replace h4:=h4.mono hle5
     have hle05:=hle04.trans hle5
     refine .ai (.z (zfa jZ) (.y hs (zld ae) (.z zg (.nil ?_))))
     refine .cut (fun fs w=>∃nn,j9 fs ⟨113,[],[(13,I nn),(8,.pointer (some ⟨b8,0,none⟩)),(7,.pointer (some ⟨b7,0,none⟩)),(6,.pointer (some ⟨b6,0,none⟩)),(5,.bool true),(3,.pointer (some ⟨b3,0,none⟩))]⟩∧St H5 w (.blk b8 [I n,.slice au us.length cu]:: .blk b7 [I q.kind,I q.st,I q.wa]:: .blk b6 [I s.sp.id,I s.sp.src,.slice ast s.sp.st.length cst,.slice awa s.sp.wa.length cwa,I s.sp.al,I s.sp.up,.slice ar s.rs.length cr,.slice ac s.cs.length cc]:: .blk b3 [I k.a,I k.b,I k.c,.bool k.high,I k.n,.bool k.near,.slice ach k.ch.length cch]::σ)) ?_ ?_
     ·refine .ai (.z (zfa nO) (.y hs (zld eC) (.nil ?_)))
      refine (.cond rfl (fun hc70=>?_) (fun hc70=>?_))
      ·refine .region (.z zm (.z (zfa jZ) (.y hs (zld ae) ?_)))
       refine .o (.call cJ rfl (bK hs aj) ?_);rintro _ w ⟨k5,gk5,rfl,hs⟩
       refine .z cq (.z gW (.z zg (.nil ?_)))
       refine nT ?_
       exact ⟨_,aR,hs.sb⟩
      ·refine .skip ?_
       refine nT ?_
       exact ⟨_,aR,hs.sb⟩
     ·clear hs
      rintro fs w ⟨nn,hfs,hs⟩
      refine WE.sub ?_ hfs
      clear hfs
      refine .ai (.y hs (zls [_,_] cE a8) (.z (zfa nN) (.y hs (zld Tryz.isAgg128) ?_)))
      refine .o (.call Tryz.call81 rfl (qv (n:=n) (us:=us) (ls:=k.ch) hs ⟨_,rfl,hU⟩ hul hnb (RS.mono hch hle05)) ?_);rintro _ w ⟨H6,n2,us2,hle6,⟨uu,rfl,hU2⟩,hs⟩
      obtain ⟨au2,cu2,rfl⟩:=RU.shape hU2
      replace hU:=RS.mono hU hle6
      replace h1:=h1.mono hle6
      replace h2:=h2.mono hle6
      replace h3:=h3.mono hle6
      replace h4:=h4.mono hle6
      have hle06:=hle05.trans hle6
      refine .o (.alloc hs eT rfl fun b14 w hs=>?_)
      refine .o (.aU (vs:=[_,_]) hs rfl rfl a8 fun w hs=>?_)
      refine .nil ?_
      refine .seq (.draw mix rfl hs fun w hs=>?_)
      refine .ys 0 rfl hs [_,_,_,_,_,_,_,_] aO aF ?_;refine .ys 1 rfl hs [_,_,_] bX bh ?_;refine .z 2 rfl (zfa dL) ?_;refine .y 3 rfl hs eC ?_;refine .z 4 rfl zm ?_;refine .ys 5 rfl hs [_,_] cE a8 ?_;refine .ys 7 rfl hs [_,_,_,_,_,_,_,_] aO aF ?_;refine .ys 8 rfl hs [_,_,_] bX bh ?_;refine .z 9 rfl (zfa dL) ?_;refine .y 10 rfl hs eC ?_
      refine .z 11 rfl zm ?_;refine .ys 12 rfl hs [_,_] cE a8 ?_
      refine .E 6 hs ?_
      refine .call Tryz.call71 rfl (gE (s:=s) (q:=q) (high:=k.high) (n:=nn) (m:=n) (us:=us) hs h1 h2 h3 h4 ⟨_,rfl,hU⟩) ?_;rintro _ w ⟨H7,e7,hle7,rfl,hE7,hs⟩
      replace hU:=RS.mono hU hle7
      replace hU2:=RS.mono hU2 hle7
      replace h1:=h1.mono hle7
      replace h2:=h2.mono hle7
      replace h3:=h3.mono hle7
      replace h4:=h4.mono hle7
      have hle07:=hle06.trans hle7
      refine .go ?_
      refine .E 13 hs ?_
      refine .call Tryz.call72 rfl (fJ (s:=s) (q:=q) (high:=k.high) (n:=nn) (m:=n) (us:=us) hs h1 h2 h3 h4 ⟨_,rfl,hU⟩) ?_;rintro _ w ⟨H8,e8,hle8,rfl,hE8,hs⟩
      obtain rfl:=hE7.uniq hE8
      replace hU2:=RS.mono hU2 hle8
      replace h1:=h1.mono hle8
      replace h2:=h2.mono hle8
      replace h3:=h3.mono hle8
      replace h4:=h4.mono hle8
      have hle08:=hle07.trans hle8
      refine .go ?_
      refine .z 14 rfl gC ?_
      rw [decide_eq_true rfl]
      refine .z 15 rfl zm ?_;refine .ys 16 rfl hs [_,_,_,_,_,_,_,_] aO aF ?_;refine .ys 17 rfl hs [_,_,_] bX bh ?_;refine .z 18 rfl (zfa dL) ?_;refine .y 19 rfl hs eC ?_;refine .z 20 rfl zm ?_;refine .ys 21 rfl hs [_,_] cE a8 ?_;refine .ys 23 rfl hs [_,_,_,_,_,_,_,_] aO aF ?_;refine .ys 24 rfl hs [_,_,_] bX bh ?_;refine .z 25 rfl (zfa dL) ?_
      refine .y 26 rfl hs eC ?_;refine .z 27 rfl zm ?_;refine .ys 28 rfl hs [_,_] cE a8 ?_
      refine .E 22 hs ?_
      refine .call Tryz.call71 rfl (gE (s:=s) (q:=q) (high:=k.high) (n:=nn) (m:=n2) (us:=us2) hs h1 h2 h3 h4 ⟨_,rfl,hU2⟩) ?_;rintro _ w ⟨H9,e9,hle9,rfl,hE9,hs⟩
      replace hU2:=RS.mono hU2 hle9
      replace h1:=h1.mono hle9
      replace h2:=h2.mono hle9
      replace h3:=h3.mono hle9
      replace h4:=h4.mono hle9
      have hle09:=hle08.trans hle9
      refine .go ?_
      refine .E 29 hs ?_
      refine .call Tryz.call72 rfl (fJ (s:=s) (q:=q) (high:=k.high) (n:=nn) (m:=n2) (us:=us2) hs h1 h2 h3 h4 ⟨_,rfl,hU2⟩) ?_;rintro _ w ⟨H10,e10,hle10,rfl,hE10,hs⟩
      obtain rfl:=hE9.uniq hE10
      refine .go ?_
      refine .z 30 rfl gC ?_;refine .z 31 rfl zpT ?_;refine .z 32 rfl zg ?_;refine .D hs ?_
      refine .ret (Fin.bJ Tryz.results19 rfl ?_)
      exact ⟨bV,H10,hle09.trans hle10,hs.out⟩
end Go.Proofs.YtddaejgfjlneoaaGreat
