/-
  Texts of these claims, joined: Rd Re.
-/
import Derived.Test.YteajddicacjkhaaGreatGe
namespace Go.Proofs.YteajddicacjkhaaGreat
open Go.MW
variable{H:bV}{w:World}{σ:List Ent}
set_option maxHeartbeats 1000000 in
theorem kr{s:Srv}{l:Lns}{r:List Lg}{m:Rng}{x:Wit}{a b c d vt vs vlg vh:Value}(hs:St H w σ)(g:SvM H s a b c d)(gl:LnM H l vt vs)(gr_:RLg H vlg r)(gh:RT H vh x.rows):
  Cl Tryz.prog 33 [svA s a b c d,lnA l vt vs,.agg #[vlg],.agg #[I m.lo,I m.hi],.agg #[I x.leg,I x.dense,I x.nZ,vh]] w fun u w'=>∃H1 e,HLe H H1∧u=I e∧FR s l r m x e∧St H1 w' σ:=by
 obtain ⟨alg,clg,rfl⟩:=gr_.shape
 obtain ⟨ah,ch,rfl⟩:=gh.shape
 refine Cl.o Tryz.func33 Tryz.ntmps33 ag5 ?_
 refine .aj (.bx hs fun b5 w hs=>?_)
 refine .bx hs fun b6 w hs=>?_
 refine .bx hs fun b7 w hs=>?_
 refine .bx hs fun b8 w hs=>?_
 refine .bx hs fun b9 w hs=>?_
 refine .zn zg (.aj (.y hs (zls [_,_,_,_,_,_,_,_] aQ aC) (.y hs (zls [_,_,_,_] bB aW) (.y hs (zls [_] cH bA) (.y hs (zls [_,_] bh aq) (.o (.call Tryz.call81 rfl (tU (s:=s) (l:=l) (r:=r) (m:=m) hs g gl gr_) ?_)))))));rintro _ w ⟨H1,vk,ks,e,hle1,rfl,hRk,hB,hs⟩
 refine .z zm (.z zex (.z zex (.z zg (.zn zg (.seq (.aj (.z zm (.zn hZ (.dZ rfl (fun hc25=>?_) (fun hc25=>?_))))))))))
 ·refine .aj (.z zm (.zn zg (.ret (rT (Fin.bq p6 rfl ?_)))))
  exact ⟨H1,_,hle1,rfl,.bad hB hc25,hs.out⟩
 ·refine .skip (nT (.seq (.aj ?_)))
  obtain rfl:e=0:=by omega
  obtain ⟨amr,cmr,rfl⟩:=RI.shape hRk
  obtain ⟨hok,hl,hrt,hm,hkl,hlow⟩:=hB.ok'
  have hn:=hrt.many
  have hml:=ke m r r.length
  replace gh:=gh.mono hle1
  replace g:=g.mono hle1
  replace gr_:=gr_.mono hle1
  refine .z (zfa ek) (.y hs (zld ae) (.z zm (.z (da af) (.z fM (.o (.call fg rfl (dk hs) ?_))))));rintro _ w ⟨rfl,hs⟩
  refine .z fI (.z zm (.bif (t':=34) rfl (fun hb34=>?_) (fun hb34=>?_)))
  ·refine .Fs 5 7 false (.zn zpT (.cT (.aj (.zn zg (.ret (rT (Fin.bq p6 rfl ?_)))))))
   exact ⟨H1,_,hle1,rfl,.no hB (fun h=>by have:=h.leg;simp_all),hs.out⟩
  ·refine .T (.y hs (zls [_,_,_,_,_,_,_,_] aQ aC) (.T (.z (zfa iq) (.T (.y hs (zls [_] eU dq) (.T (.o (.call Tryz.call100 rfl (pH (s:=s) (rows:=x.rows) hs g.st g.wa g.rd g.cm gh) ?_))))))));rintro _ w ⟨H2,e,hle2,rfl,hCh,hs⟩
   have hle02:=hle1.trans hle2
   refine .T (.z hZ (.zn zpF (.dZ rfl (fun hc40=>?_) (fun hc40=>?_))))
   ·refine .aj (.zn zg (.ret (rT (Fin.bq p6 rfl ?_))))
    exact ⟨H2,_,hle02,rfl,.no hB (fun h=>hc40 (hCh.uniq h.hull)),hs.out⟩
   ·refine .skip (nT (.aj ?_))
    have hleg:0≤x.leg∧x.leg≤(r.length:Int) - 1:=by rw [←hkl];simpa using hb34
    obtain rfl:e=0:=by omega
    have hlt:x.leg.toNat<r.length:=by omega
    have hxl:=kf (l:=r) hlt
    have hxm:=yp m r (k:=r.length) (i:=x.leg.toNat) ak
    obtain ⟨q,hq,hqw⟩:=hB.mark hlt
    have hdn:=(hrt.leg _ hlt).1.dense
    unfold gH at hdn
    refine .z (zfa bH) (.y hs (zld bY) (.z (zfa ek) (.y hs (zld ae) (.ixX (enc:=Lg.c) hs (gr_.mono hle2) rfl rfl aF aN hxl ak ?_))));intro b45 o45 hc45
    refine .q hs (bQ (vs:=lgC (lg0 r x.leg.toNat)) rfl fE aN hc45) (.o (.alloc hs de rfl fun b13 w hs=>?_))
    refine .o (.aU (vs:=[_,_,_,_,_,_,_]) hs rfl rfl aN fun w hs=>?_)
    refine .nil (.cut (fun fs w=>∃b14,lF fs ⟨103,[],[(14,Pt b14),(13,Pt b13),(11,.slice amr ks.length cmr),(9,Pt b9),(5,Pt b5)]⟩∧∃H3,HLe H2 H3∧St H3 w (.blk b14 [I (kl m r x.leg.toNat).lo,I (kl m r x.leg.toNat).hi]:: .blk b13 (lgC (lg0 r x.leg.toNat)):: .blk b9 [I x.leg,I x.dense,I x.nZ,.slice ah x.rows.length ch]:: .blk b5 (svC s a b c d)::σ)) ?_ ?_)
    ·refine .draw mix rfl hs fun w hs=>?_
     refine .ys 0 rfl hs [_] cH bA ?_;refine .ys 1 rfl hs [_,_] bh aq ?_;refine .z 3 rfl (zfa ek) ?_;refine .y 4 rfl hs ae ?_
     refine .e2 (i:=2) (j:=7) aH rfl rfl rfl rfl .none .none hs ?_ ?_
     ·refine .call Tryz.call82 rfl (mP (m:=m) hs (gr_.mono hle2) hrt hm) ?_;rintro v49 w ⟨H3,hle3,hms,hs⟩
      obtain ⟨ams,cms,rfl⟩:=hms.shape
      refine .go (.ixX (enc:=Rng.c) (i:=5) hs rfl aH .none hms rfl rfl dI aq hxm ak ?_);intro b52 o52 hc52
      refine .r (i:=6) hs rfl aH .none (bQ (vs:=(kl m r x.leg.toNat).c) rfl bh aq hc52) ?_
      refine .E 7 hs ?_
      refine .alloc hs cf rfl ?_;intro b14 w hs
      refine .go (.E 8 hs ?_)
      refine .aU (vs:=(kl m r x.leg.toNat).c) hs rfl rfl aq ?_;intro w hs
      refine .go (.D hs ?_)
      exact nT ⟨b14,a6,H3,hle3,hs.sb⟩
     ·refine .alloc hs cf rfl ?_;intro b14 w hs
      refine .go (.E 2 hs ?_)
      refine .call Tryz.call82 rfl (mP (m:=m) hs (gr_.mono hle2) hrt hm) ?_;rintro v49 w ⟨H3,hle3,hms,hs⟩
      obtain ⟨ams,cms,rfl⟩:=hms.shape
      refine .go (.ixX (enc:=Rng.c) (i:=5) hs rfl aH .none hms rfl rfl dI aq hxm ak ?_);intro b52 o52 hc52
      refine .r (i:=6) hs rfl aH .none (bQ (vs:=(kl m r x.leg.toNat).c) rfl bh aq hc52) ?_
      refine .E 8 hs ?_
      refine .aU (vs:=(kl m r x.leg.toNat).c) hs rfl rfl aq ?_;intro w hs
      refine .go (.D hs ?_)
      exact nT ⟨b14,a6,H3,hle3,hs.sb⟩
    ·rintro fs w ⟨b14,hfs,H3,hle3,hs⟩
     refine WE.sub ?_ hfs
     clear hfs
     have hle03:=hle02.trans hle3
     have hle23:=hle2.trans hle3
     refine .aj (.zn zg (.cut (fun fs w=>∃n H4,lF fs ⟨103,[],[(15,I n),(14,Pt b14),(13,Pt b13),(9,Pt b9)]⟩∧HLe H H4∧HlR s x.rows q n∧(-7000000000≤n∧n≤7000000000)∧St H4 w (.blk b14 [I (kl m r x.leg.toNat).lo,I (kl m r x.leg.toNat).hi]:: .blk b13 (lgC (lg0 r x.leg.toNat)):: .blk b9 [I x.leg,I x.dense,I x.nZ,.slice ah x.rows.length ch]::σ)) ?_ ?_))
     ·refine .aj (.z zm (.z (zfa ek) (.y hs (zld ae) (.ixX (enc:=fun x=>[I x]) hs (RS.mono hRk hle23) rfl rfl af ai (bJ (l:=ks) (i:=x.leg.toNat) ak) ak ?_))));intro b57 o57 hc57;replace hc57:=bL.one hc57
      rw [hq] at hc57
      refine .y hs (zld ae) (.zn k7 (.bn rfl (fun hc59=>?_) (fun hc59=>?_)))
      ·refine .draw mix rfl hs fun w hs=>?_
       refine .zw 0 rfl (zfa bj) ?_;refine .ys 1 rfl hs [_,_,_,_,_,_] aK aA ?_;refine .z 2 rfl (zfa iq) ?_;refine .ys 3 rfl hs [_] eU dq ?_;refine .z 4 rfl zm ?_;refine .z 5 rfl (zfa ek) ?_;refine .y 6 rfl hs ae ?_
       refine .ixX (enc:=fun x=>[I x]) (i:=7) hs rfl aH .none (RS.mono hRk hle23) rfl rfl af ai (bJ (l:=ks) (i:=x.leg.toNat) ak) ak ?_;intro b68 o68 hc68;replace hc68:=bL.one hc68
       rw [hq] at hc68
       refine .y 8 rfl hs ae ?_;refine .z 9 rfl (zbd [I 1,I 0,I (q:Int)] tJ) ?_
       refine .E 10 hs ?_
       refine .call Tryz.call101 rfl (tZ (s:=s.sp) (rows:=x.rows) (q:=⟨1,0,q⟩) hs (g.mono hle23).st (g.mono hle23).wa (gh.mono hle23)) ?_;rintro _ w ⟨H4,n,f,hle4,rfl,hV,hs⟩
       refine .go (.zw 11 rfl zm ?_);refine .z 12 rfl zex ?_;refine .z 13 rfl zex ?_;refine .z 14 rfl zg ?_;refine .D hs ?_
       refine nT ?_
       obtain rfl:f=0:=by
        have hhl:=hCh.Gf
        cases hV with
        |space h=>exact (h hok.early.1).elim
        |hull _ h=>exact (h hhl).elim
        |what _ _ h=>exact (h (AD (v:=s) ak hqw)).elim
        |ok=>rfl
       exact ⟨n,H4,a6,hle03.trans hle4,.up ak hV,hV.bd rfl,hs.sb⟩
      ·refine .skip (nT ?_)
       exact ⟨0,H3,a6,hle03,.zero ak,ak,hs.sb⟩
     ·rintro fs w ⟨n,H4,hfs,hle04,hHl,hnb,hs⟩
      refine WE.sub ?_ hfs
      clear hfs
      refine .seq (.seq (.draw mix rfl hs fun w hs=>?_))
      refine .zw 0 rfl (zfa jA) ?_;refine .y 1 rfl hs ae ?_;refine .z 2 rfl (zfa fj) ?_;refine .z 3 rfl (zfa bN) ?_;refine .y 4 rfl hs ae ?_;refine .z 5 rfl (zfa fj) ?_;refine .z 6 rfl (zfa cj) ?_;refine .y 7 rfl hs ae ?_
      refine .E 8 hs ?_
      refine .call fg rfl (dk hs) ?_;rintro _ w ⟨rfl,hs⟩
      refine .go (.zw 9 rfl fI ?_);refine .z 10 rfl zm ?_
      refine .bif (t':=84) rfl (fun hb84=>?_) (fun hb84=>?_)
      ·refine .F 11 rfl (.F 12 rfl (.F 13 rfl (.F 14 rfl (.F 15 rfl (.F 16 rfl (.F 17 rfl (.F 18 rfl (.zw 19 rfl zpT ?_))))))));refine .z 20 rfl zm ?_
       refine .F 21 rfl (.F 22 rfl (.F 23 rfl (.F 24 rfl (.F 25 rfl (.F 26 rfl (.F 27 rfl (.zw 28 rfl zpT ?_)))))));refine .D hs ?_
       refine (.cT (.aj (.zn zg (.ret (rT (Fin.bq p6 rfl ?_))))))
       exact ⟨H4,_,hle04,rfl,.no hB (fun h=>by have:=h.dense;simp_all),hs.out⟩
      ·refine .zw 11 rfl (zfa jz) ?_;refine .y 12 rfl hs ae ?_;refine .z 13 rfl (zfa bN) ?_;refine .y 14 rfl hs ae ?_;refine .z 15 rfl (zfa cj) ?_;refine .y 16 rfl hs ae ?_
       refine .E 17 hs ?_
       refine .call fg rfl (dk hs) ?_;rintro _ w ⟨rfl,hs⟩
       refine .go (.zw 18 rfl fI ?_);refine .z 19 rfl zpF ?_;refine .z 20 rfl zm ?_
       refine .bif (t':=94) rfl (fun hb94=>?_) (fun hb94=>?_)
       ·refine .F 21 rfl (.F 22 rfl (.F 23 rfl (.F 24 rfl (.F 25 rfl (.F 26 rfl (.F 27 rfl (.zw 28 rfl zpT ?_)))))));refine .D hs ?_
        refine (.cT (.aj (.zn zg (.ret (rT (Fin.bq p6 rfl ?_))))))
        exact ⟨H4,_,hle04,rfl,.no hB (fun h=>by have:=h.nZ;simp_all),hs.out⟩
       ·refine .zw 21 rfl (zfa jz) ?_;refine .y 22 rfl hs ae ?_;refine .z 23 rfl zm ?_;refine .z 24 rfl (zfa jA) ?_;refine .y 25 rfl hs ae ?_
        refine .E 26 hs ?_
        have hdw:(lg0 r x.leg.toNat).dlo≤x.dense∧x.dense≤(lg0 r x.leg.toNat).dhi:=by simpa using hb84
        have hmw:(kl m r x.leg.toNat).lo≤x.nZ∧x.nZ≤(kl m r x.leg.toNat).hi:=by simpa using hb94
        refine .call Tryz.call52 rfl (sO hs ak ak) ?_;rintro _ w ⟨rfl,hs⟩
        refine .go (.zw 27 rfl nb ?_);refine .z 28 rfl zpF ?_;refine .D hs ?_
        refine (.bn rfl (fun hc102=>?_) (fun hc102=>?_))
        ·refine .aj (.zn zg (.ret (rT (Fin.bq p6 rfl ?_))))
         exact ⟨H4,_,hle04,rfl,.no hB (fun h=>by
          obtain ⟨n',g1,g2⟩:=h.sinks
          rw [hq,Int.toNat_natCast] at g1
          rw [←hHl.uniq g1] at g2;omega),hs.out⟩
        ·refine .skip (nT (.aj (.zn zg (.ret (Fin.bq p6 rfl ?_)))))
         exact ⟨H4,_,hle04,rfl,.ok hB ⟨hleg,hCh,hdw,hmw,n,by rw [hq,Int.toNat_natCast];exact hHl,ak⟩,hs.out⟩
end Go.Proofs.YteajddicacjkhaaGreat
namespace Go.Proofs.YteajddicacjkhaaGreat
open Go.MW
set_option maxHeartbeats 4000000 in
theorem oe{W:World}{H:bV}{x:FT}{y:Wit}{vs v5 v4 vp vn vg vh:Value}(hs:St H W [])(hx:Cr H x vs v5 v4 vp vn vg)(gh:RT H vh y.rows):
  Cl Tryz.prog 5 [x.agg vs v5 v4 vp vn vg,.agg #[I y.leg,I y.dense,I y.nZ,vh]] W fun v w'=>v= .bool true∧∃H',HLe H H'∧St H' w' []:=by
 obtain ⟨ah,ch,rfl⟩:=gh.shape
 refine Cl.o Tryz.func5 Tryz.ntmps5 ag2 ?_
 refine .aj (.bx hs fun b2 w hs=>?_)
 refine .bx hs fun b3 w hs=>?_
 refine .zn zg (.aj (.o (.call Tryz.call18 rfl (wb hs) ?_)));rintro _ w ⟨rfl,H1,hle1,hs⟩
 replace hx:=hx.mono hle1
 replace gh:=gh.mono hle1
 refine .zn zg (.aj (.y hs (zls [_,_,_,_,_,_,_,_,_,_,_,_,_,_] Tryz.isAgg44 Tryz.sizeOf44) (.o (.call Tryz.call23 rfl (sM hs hx.sp hx.rs hx.cs hx.pk hx.ln hx.lg) ?_))));rintro _ w ⟨H2,s,a,b,c,d,l,vt,vsn,r,vl,hle2,rfl,g,gl,gr_,-,hs⟩
 have hle02:=hle1.trans hle2
 replace hx:=hx.mono hle2
 replace gh:=gh.mono hle2
 obtain ⟨aa,ca,rfl⟩:=RI.shape g.st
 obtain ⟨ab,cb,rfl⟩:=RI.shape g.wa
 obtain ⟨ac,cc,rfl⟩:=RRd.shape g.rd
 obtain ⟨ad,cd,rfl⟩:=RCm.shape g.cm
 obtain ⟨at_,ct,rfl⟩:=gl.tb.shape
 obtain ⟨as_,cs,rfl⟩:=gl.sn.shape
 obtain ⟨ar,cr,rfl⟩:=gr_.shape
 refine .z zm (.z zex (.z zex (.z zex (.o (.alloc hs dS rfl fun b6 w hs=>?_)))))
 refine .o (.alloc hs jd rfl fun b7 w hs=>?_)
 refine .o (.alloc hs j5 rfl fun b8 w hs=>?_)
 refine .o (.aU (vs:=[_,_,_,_,_,_,_,_]) hs rfl rfl aC fun w hs=>?_)
 refine .o (.aU (vs:=[_,_,_,_]) hs rfl rfl aW fun w hs=>?_)
 refine .o (.aU (vs:=[_]) hs rfl rfl bA fun w hs=>?_)
 refine .nil (.aj (.z (zfa kD) (.y hs (zls [_,_,_,_,_,_,_] Tryz.isAgg39 Tryz.sizeOf39) (.o (.call Tryz.call31 rfl (wO hs hx.sp hx.rs hx.cs hx.pk) ?_)))));rintro _ w ⟨H3,s',yy,a',b',c',d',vy,hle3,rfl,hM,hK,r1,r2,r3,r4,hY,hs⟩
 have hle03:=hle02.trans hle3
 replace g:=g.mono hle3
 replace gl:=gl.mono hle3
 replace gr_:=gr_.mono hle3
 replace gh:=gh.mono hle3
 obtain ⟨a1',c1',rfl⟩:=RI.shape r1
 obtain ⟨a2',c2',rfl⟩:=RI.shape r2
 obtain ⟨a3',c3',rfl⟩:=RRd.shape r3
 obtain ⟨a4',c4',rfl⟩:=RCm.shape r4
 obtain ⟨ay,cy,rfl⟩:=RI.shape hY
 have hsm:=ez hM.ok.early.1
 refine .z zm (.z zex (.z zex (.o (.alloc hs dS rfl fun b9 w hs=>?_))))
 refine .o (.aU (vs:=[_,_,_,_,_,_,_,_]) hs rfl rfl aC fun w hs=>?_)
 refine .zn zg (.seq (.draw mix rfl hs fun w hs=>?_))
 refine .ys 0 rfl hs [_,_,_,_,_,_,_,_] aQ aC ?_;refine .ys 1 rfl hs [_,_,_,_] bB aW ?_;refine .ys 2 rfl hs [_] cH bA ?_;refine .z 3 rfl (zfa gw) ?_;refine .ys 4 rfl hs [_,_] bh aq ?_;refine .ys 5 rfl hs [_,_,_,_] Jt Ad ?_;refine .ys 7 rfl hs [_,_,_,_,_,_,_,_] aQ aC ?_;refine .ys 8 rfl hs [_,_,_,_] bB aW ?_;refine .ys 9 rfl hs [_] cH bA ?_;refine .z 10 rfl (zfa gw) ?_
 refine .ys 11 rfl hs [_,_] bh aq ?_;refine .ys 12 rfl hs [_,_,_,_] Jt Ad ?_
 refine .E 6 hs ?_
 refine .call Tryz.call32 rfl (jn (s:=s) (l:=l) (r:=r) (m:=x.nZ) (x:=y) hs g gl gr_ gh) ?_;rintro _ w ⟨H4,e4,hle4,rfl,h4,hs⟩
 replace g:=g.mono hle4
 replace gl:=gl.mono hle4
 replace gr_:=gr_.mono hle4
 replace gh:=gh.mono hle4
 refine .go (.E 13 hs ?_)
 refine .call Tryz.call33 rfl (kr (s:=s) (l:=l) (r:=r) (m:=x.nZ) (x:=y) hs g gl gr_ gh) ?_;rintro _ w ⟨H5,e5,hle5,rfl,h5,hs⟩
 obtain rfl:=h4.uniq h5
 replace g:=g.mono hle5
 replace gl:=gl.mono hle5
 replace gr_:=gr_.mono hle5
 have k35:=hle4.trans hle5
 replace r1:=RI.mono r1 k35
 replace r2:=RI.mono r2 k35
 replace hY:=RI.mono hY k35
 have hle05:=hle03.trans k35
 refine .go (.zw 14 rfl fF ?_)
 rw [decide_eq_true rfl]
 refine .zw 15 rfl zg ?_;refine .D hs ?_
 refine .aj (.z (zfa bj) (.y hs (zls [_,_,_,_,_,_] aK aA) (.z zm (.o (.call Tryz.call34 rfl (wM (s:=s'.sp) hs r1 r2 hY ak ak (by have:=hK.bd.1;omega)) ?_)))));rintro _ w ⟨H6,vh6,hle6,rfl,gh6,hs⟩
 replace g:=g.mono hle6
 replace gl:=gl.mono hle6
 replace gr_:=gr_.mono hle6
 have hle06:=hle05.trans hle6
 obtain ⟨ah6,ch6,rfl⟩:=gh6.shape
 refine .z (zfa iq) (.o (.aU (vs:=[_]) hs rfl rfl dq fun w hs=>?_))
 refine .nil (.seq (.draw mix rfl hs fun w hs=>?_))
 refine .ys 0 rfl hs [_,_,_,_,_,_,_,_] aQ aC ?_;refine .ys 1 rfl hs [_,_,_,_] bB aW ?_;refine .ys 2 rfl hs [_] cH bA ?_;refine .z 3 rfl (zfa gw) ?_;refine .ys 4 rfl hs [_,_] bh aq ?_;refine .ys 5 rfl hs [_,_,_,_] Jt Ad ?_;refine .ys 7 rfl hs [_,_,_,_,_,_,_,_] aQ aC ?_;refine .ys 8 rfl hs [_,_,_,_] bB aW ?_;refine .ys 9 rfl hs [_] cH bA ?_;refine .z 10 rfl (zfa gw) ?_
 refine .ys 11 rfl hs [_,_] bh aq ?_;refine .ys 12 rfl hs [_,_,_,_] Jt Ad ?_
 refine .E 6 hs ?_
 refine .call Tryz.call32 rfl (jn (s:=s) (l:=l) (r:=r) (m:=x.nZ) (x:=⟨y.leg,y.dense,y.nZ,tT s'.sp yy s'.sp.st.length⟩) hs g gl gr_ gh6) ?_;rintro _ w ⟨H7,e7,hle7,rfl,h7,hs⟩
 replace g:=g.mono hle7
 replace gl:=gl.mono hle7
 replace gr_:=gr_.mono hle7
 replace gh6:=gh6.mono hle7
 refine .go (.E 13 hs ?_)
 refine .call Tryz.call33 rfl (kr (s:=s) (l:=l) (r:=r) (m:=x.nZ) (x:=⟨y.leg,y.dense,y.nZ,tT s'.sp yy s'.sp.st.length⟩) hs g gl gr_ gh6) ?_;rintro _ w ⟨H8,e8,hle8,rfl,h8,hs⟩
 obtain rfl:=h7.uniq h8
 have hle08:=hle06.trans (hle7.trans hle8)
 refine .go (.zw 14 rfl fF ?_)
 rw [decide_eq_true rfl]
 refine .zw 15 rfl zg ?_;refine .D hs ?_
 refine .aj (.z zm (.z zm (.T (.z zm (.z zpT (.z zm (.T (.z zm (.z zpT (.zn zg (.ret (Fin.bq Tryz.results5 rfl ?_))))))))))))
 exact ⟨rfl,H8,hle08,hs.out⟩
end Go.Proofs.YteajddicacjkhaaGreat
