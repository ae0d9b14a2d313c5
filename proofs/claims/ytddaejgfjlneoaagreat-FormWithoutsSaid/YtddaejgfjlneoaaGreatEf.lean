/-
  Texts of these claims, joined: Nn.
-/
import Derived.Test.YtddaejgfjlneoaaGreatEe
namespace Go.Proofs.YtddaejgfjlneoaaGreat
open Go.MW
variable{H:cu}{w:World}{σ:List Ent}
open Classical in
set_option maxHeartbeats 1000000 in
theorem s4{n lo hi:Int}{b2 b3 b6:Nat}{s:Srv}{q:Wht}{vst vwa vr vc:Value}(hs:St H w σ)(k2:Row H b2 [I s.sp.id,I s.sp.src,vst,vwa,I s.sp.al,I s.sp.up,vr,vc])(k3:Row H b3 [I q.kind,I q.st,I q.wa])(k6:Row H b6 [I lo,I hi])
  (h1:RI H vst s.sp.st) (h2:RI H vwa s.sp.wa) (h3:RRd H vr s.rs) (h4:RCm H vc s.cs) (hok:ez s) (hq:oV s q lo hi 0):
  Cl Tryz.prog 151 [I n,.pointer (some ⟨b2,0,none⟩),.pointer (some ⟨b3,0,none⟩),.pointer (some ⟨b6,0,none⟩)] w fun u w'=>∃H1,HLe H H1∧u= .bool (decide (oV (s.no n) q lo hi 0))∧St H1 w' σ:=by
 have hsm:=ea hok.early.1
 have hrl:=hok.early.2.1
 have hcl:=hok.early.2.2.1
 have c2:=k2.cells 0 [I s.sp.id,I s.sp.src,vst,vwa,I s.sp.al,I s.sp.up,vr,vc]
 have c3:=k3.cells 0 [I q.kind,I q.st,I q.wa]
 have c6:=k6.cells 0 [I lo,I hi]
 refine Cl.o Tryz.func151 Tryz.ntmps151 ag4 ?_
 refine .ai (.z zg (.nil ?_))
 refine .seq (.draw mix rfl hs fun w hs=>?_)
 refine .r (i:=0) hs rfl aq .none (bY (vs:=[I s.sp.id,I s.sp.src,vst,vwa,I s.sp.al,I s.sp.up,vr,vc]) rfl aF az c2) ?_
 refine .z 1 rfl zm ?_
 refine .r (i:=3) hs rfl aq .none (bY (vs:=[I q.kind,I q.st,I q.wa]) rfl cP bE (by first|exact c3|exact c3.mono hle3|exact c3.mono hle04)) ?_
 refine .e2 (i:=2) (j:=8) aq rfl rfl rfl rfl .none .none hs ?_ ?_
 ·refine .call Tryz.call148 rfl (iD (s:=s) (x:=n) hs h1 h2 h3 h4 aj aj aj aj) ?_;rintro _ w ⟨H3,ust,uwa,ur,uc,e1,e2,e3,e4,hle3,rfl,hV,hs⟩
  have hokn:=(va s n).ok hok
  obtain ⟨H4,hle4,r1,r2,r3,r4,hs,-⟩:=wc.ux hV (by show s.sp.st.length≤_;omega) (by show s.sp.wa.length≤_;omega) (by have:=hokn.early.2.1;omega) (by have:=hokn.early.2.2.1;omega) hs
  have hle04:=hle3.trans hle4
  refine .go ?_
  refine .e2 (i:=4) (j:=8) aq rfl rfl rfl rfl .none .none hs ?_ ?_
  ·refine .call Tryz.call26 rfl (fp (s:=s.no n) (q:=q) hs r1 r2 r3 r4) ?_;rintro _ w ⟨H5,c,d,e,hle5,rfl,hB,hs⟩
   have hle05:=hle04.trans hle5
   refine .go ?_
   refine .z 5 rfl zm ?_;refine .z 6 rfl zex ?_;refine .z 7 rfl zex ?_
   refine .E 8 hs ?_
   refine .alloc hs cO rfl ?_;intro b6 w hs
   refine .go ?_
   refine .E 9 hs ?_
   refine .aV (vs:=[_,_]) hs rfl rfl aM ?_;intro w hs
   refine .go ?_
   refine .z 10 rfl zg ?_;refine .D hs ?_
   refine .ai (.y hs (zls [_,_] cj aM) ?_)
   refine .q hs (bY (vs:=[I lo,I hi]) rfl cj aM (c6.mono hle05)) ?_
   refine .q hs (lY po pq ef (fun f hf=>by
    simp only [List.mem_cons,List.not_mem_nil,or_false] at hf
    rcases hf with rfl|rfl<;>exact ⟨by decide,aS,ae⟩) rfl rfl) ?_
   refine .z zg (.nil ?_)
   refine .ret (Fin.bL Tryz.results151 rfl ?_)
   exact ⟨H5,hle05,by congr 1;exact decide_eq_decide.2 (hq.Fa hB),hs.out⟩
  ·refine .alloc hs cO rfl ?_;intro b6 w hs
   refine .go ?_
   refine .E 4 hs ?_
   refine .call Tryz.call26 rfl (fp (s:=s.no n) (q:=q) hs r1 r2 r3 r4) ?_;rintro _ w ⟨H5,c,d,e,hle5,rfl,hB,hs⟩
   have hle05:=hle04.trans hle5
   refine .go ?_
   refine .z 5 rfl zm ?_;refine .z 6 rfl zex ?_;refine .z 7 rfl zex ?_
   refine .E 9 hs ?_
   refine .aV (vs:=[_,_]) hs rfl rfl aM ?_;intro w hs
   refine .go ?_
   refine .z 10 rfl zg ?_;refine .D hs ?_
   refine .ai (.y hs (zls [_,_] cj aM) ?_)
   refine .q hs (bY (vs:=[I lo,I hi]) rfl cj aM (c6.mono hle05)) ?_
   refine .q hs (lY po pq ef (fun f hf=>by
    simp only [List.mem_cons,List.not_mem_nil,or_false] at hf
    rcases hf with rfl|rfl<;>exact ⟨by decide,aS,ae⟩) rfl rfl) ?_
   refine .z zg (.nil ?_)
   refine .ret (Fin.bL Tryz.results151 rfl ?_)
   exact ⟨H5,hle05,by congr 1;exact decide_eq_decide.2 (hq.Fa hB),hs.out⟩
 ·refine .alloc hs cO rfl ?_;intro b6 w hs
  refine .go ?_
  refine .E 2 hs ?_
  refine .call Tryz.call148 rfl (iD (s:=s) (x:=n) hs h1 h2 h3 h4 aj aj aj aj) ?_;rintro _ w ⟨H3,ust,uwa,ur,uc,e1,e2,e3,e4,hle3,rfl,hV,hs⟩
  have hokn:=(va s n).ok hok
  obtain ⟨H4,hle4,r1,r2,r3,r4,hs,-⟩:=wc.ux hV (by show s.sp.st.length≤_;omega) (by show s.sp.wa.length≤_;omega) (by have:=hokn.early.2.1;omega) (by have:=hokn.early.2.2.1;omega) hs
  have hle04:=hle3.trans hle4
  refine .go ?_
  refine .E 4 hs ?_
  refine .call Tryz.call26 rfl (fp (s:=s.no n) (q:=q) hs r1 r2 r3 r4) ?_;rintro _ w ⟨H5,c,d,e,hle5,rfl,hB,hs⟩
  have hle05:=hle04.trans hle5
  refine .go ?_
  refine .z 5 rfl zm ?_;refine .z 6 rfl zex ?_;refine .z 7 rfl zex ?_
  refine .E 9 hs ?_
  refine .aV (vs:=[_,_]) hs rfl rfl aM ?_;intro w hs
  refine .go ?_
  refine .z 10 rfl zg ?_;refine .D hs ?_
  refine .ai (.y hs (zls [_,_] cj aM) ?_)
  refine .q hs (bY (vs:=[I lo,I hi]) rfl cj aM (c6.mono hle05)) ?_
  refine .q hs (lY po pq ef (fun f hf=>by
   simp only [List.mem_cons,List.not_mem_nil,or_false] at hf
   rcases hf with rfl|rfl<;>exact ⟨by decide,aS,ae⟩) rfl rfl) ?_
  refine .z zg (.nil ?_)
  refine .ret (Fin.bL Tryz.results151 rfl ?_)
  exact ⟨H5,hle05,by congr 1;exact decide_eq_decide.2 (hq.Fa hB),hs.out⟩
open Classical in
set_option maxHeartbeats 1000000 in
theorem pK{s:Srv}{q:Wht}{vst vwa vr vc:Value}(hs:St H w σ)(h1:RI H vst s.sp.st)(h2:RI H vwa s.sp.wa)(h3:RRd H vr s.rs)(h4:RCm H vc s.cs):
  Cl Tryz.prog 67 [.agg #[I s.sp.id,I s.sp.src,vst,vwa,I s.sp.al,I s.sp.up,vr,vc],.agg #[I q.kind,I q.st,I q.wa]] w fun u w'=>∃H1 vx L e,HLe H H1∧u= .tuple #[vx,I e]∧RI H1 vx L∧xZ s q L e∧St H1 w' σ:=by
 obtain ⟨ast,cst,rfl⟩:=RI.shape h1
 obtain ⟨awa,cwa,rfl⟩:=RI.shape h2
 obtain ⟨ar,cr,rfl⟩:=RRd.shape h3
 obtain ⟨ac,cc,rfl⟩:=RCm.shape h4
 refine Cl.o Tryz.func67 Tryz.ntmps67 ag2 ?_
 refine .ai ?_
 refine .bx hs fun b2 w hs=>?_
 refine .bx hs fun b3 w hs=>?_
 refine .z zg (.z zg (.nil (.ai (.y hs (zls [_,_,_,_,_,_,_,_] aF az) (.y hs (zls [_,_,_] cP bE) ?_)))))
 refine .o (.call Tryz.call26 rfl (fp (s:=s) (q:=q) hs h1 h2 h3 h4) ?_);rintro _ w ⟨H1,lo,hi,e,hle1,rfl,hB,hs⟩
 refine .z zm (.z zex (.z zex ?_))
 refine .o (.alloc hs cO rfl fun b6 w hs=>?_)
 refine .o (.aV (vs:=[_,_]) hs rfl rfl aM fun w hs=>?_)
 refine .z zg (.nil (.seq (.ai (.z zm (.z iw (.nil ?_))))))
 refine (.fc rfl (fun hc15=>?_) (fun hc15=>?_))
 ·refine .ai (.z zm (.z zg (.z zg (.nil ?_))))
  refine .ret (rT (Fin.lz Tryz.results67 rfl rfl ?_))
  exact ⟨H1,_,[],_,hle1,rfl,RS.nil H1 1 none 0,.bad hB hc15,hs.out⟩
 ·refine .skip ?_
  refine nT ?_
  refine .ai (.y hs (zls [_,_,_,_,_,_,_,_] aF az) ?_)
  obtain rfl:e=0:=by simpa using hc15
  have hok:ez s:=hB.ok0
  have hrl:=hok.early.2.1
  have hcl:=hok.early.2.2.1
  refine .o (.call Tryz.call137 rfl (jw (s:=s) hs (h3.mono hle1) (h4.mono hle1) aj aj) ?_);rintro v18 w ⟨L,en,hO,hLl,hR,hs⟩
  refine .q hs (dx (f:=[]) (c:=[_,_,_]) rfl rfl) ?_
  obtain ⟨H2,hle2,k2,hs⟩:=hs.cI (b:=b2) cJ
  obtain ⟨H3,hle3,k3,hs⟩:=hs.cI (b:=b3) cJ
  obtain ⟨H4,hle4,k6,hs⟩:=hs.cI (b:=b6) cJ
  have hle04:=hle1.trans (hle2.trans (hle3.trans hle4))
  refine .o (.call Tryz.call150 rfl (je (g:=151) (cap:=[.pointer (some ⟨b2,0,none⟩),.pointer (some ⟨b3,0,none⟩),.pointer (some ⟨b6,0,none⟩)]) (fun n=>decide (oV (s.no n) q lo hi 0)) hs hO aj Tryz.call151
   (fun H' w σ n _ hle hs=>s4 (s:=s) hs ((k2.mono (hle3.trans hle4)).mono hle) ((k3.mono hle4).mono hle) (k6.mono hle) (h1.mono (hle04.trans hle)) (h2.mono (hle04.trans hle)) (h3.mono (hle04.trans hle)) (h4.mono (hle04.trans hle)) hok hB)) ?_);rintro v20 w ⟨H5,en5,hle5,hO5,hs⟩
  refine .z zg (.z zg (.nil ?_))
  refine .ret (Fin.lz Tryz.results67 rfl rfl ?_)
  have hfl:=List.length_filter_le (fun n=> !decide (oV (s.no n) q lo hi 0)) L
  obtain ⟨H6,hle6,hR6,hs⟩:=cn.cN hO5 aj hs .here
  exact ⟨H6,_,_,0,hle04.trans (hle5.trans hle6),rfl,hR6,.ok hB ((hR.filter _).congr fun x=>by simp),hs.out⟩
set_option maxHeartbeats 2000000 in
theorem rD{s:Srv}{q:Wht}{vst vwa vr vc:Value}(hs:St H w σ)(h1:RI H vst s.sp.st)(h2:RI H vwa s.sp.wa)(h3:RRd H vr s.rs)(h4:RCm H vc s.cs):
  Cl Tryz.prog 68 [.agg #[I s.sp.id,I s.sp.src,vst,vwa,I s.sp.al,I s.sp.up,vr,vc],.agg #[I q.kind,I q.st,I q.wa]] w fun u w'=>∃H1 vx L e,HLe H H1∧u= .tuple #[vx,I e]∧RI H1 vx L∧xZ s q L e∧St H1 w' σ:=by
 obtain ⟨ast,cst,rfl⟩:=RI.shape h1
 obtain ⟨awa,cwa,rfl⟩:=RI.shape h2
 obtain ⟨ar,cr,rfl⟩:=RRd.shape h3
 obtain ⟨ac,cc,rfl⟩:=RCm.shape h4
 refine Cl.o Tryz.func68 Tryz.ntmps68 ag2 ?_
 refine .ai ?_
 refine .bx hs fun b2 w hs=>?_
 refine .bx hs fun b3 w hs=>?_
 refine .z zg (.z zg (.nil (.ai (.y hs (zls [_,_,_,_,_,_,_,_] aF az) (.y hs (zls [_,_,_] cP bE) ?_)))))
 refine .o (.call Tryz.call27 rfl (ij (s:=s) (q:=q) hs h1 h2 h3 h4) ?_);rintro _ w ⟨H1,lo,hi,e,hle1,rfl,hB,hs⟩
 refine .z zm (.z zex (.z zex ?_))
 refine .o (.alloc hs cO rfl fun b6 w hs=>?_)
 refine .o (.aV (vs:=[_,_]) hs rfl rfl aM fun w hs=>?_)
 refine .z zg (.nil (.seq (.ai (.z zm (.z iw (.nil ?_))))))
 refine (.fc rfl (fun hc20=>?_) (fun hc20=>?_))
 ·refine .ai (.z zm (.z zg (.z zg (.nil ?_))))
  refine .ret (rT (Fin.lz Tryz.results68 rfl rfl ?_))
  exact ⟨H1,_,[],_,hle1,rfl,RS.nil H1 1 none 0,.bad hB hc20,hs.out⟩
 ·refine .skip ?_
  refine nT ?_
  refine .ai (.y hs (zls [_,_,_,_,_,_,_,_] aF az) ?_)
  obtain rfl:e=0:=by simpa using hc20
  have hok:ez s:=hB.ok0
  have hsm:=ea hok.early.1
  have hrl:=hok.early.2.1
  have hcl:=hok.early.2.2.1
  refine .o (.call Tryz.call141 rfl (pv (s:=s) hs (h3.mono hle1) (h4.mono hle1) aj aj) ?_);rintro v23 w ⟨H2,L,hle2,hL,hLl,hR,hs⟩
  obtain ⟨aL,cL,rfl⟩:=RI.shape hL
  have hle02:=hle1.trans hle2
  refine .z zg (.nil (.ai (.z zg (.nil (.seq (.ai (.z zg (.nil (.block ?_)))))))))
  refine .loop (fun p:Nat×Value=>⟨56,[],[(10,I (p.1:Int)),(9,p.2),(8,.slice aL L.length cL),(6,.pointer (some ⟨b6,0,none⟩)),(3,.pointer (some ⟨b3,0,none⟩)),(2,.pointer (some ⟨b2,0,none⟩))]⟩)
   (fun p w=>p.1≤L.length∧∃H3 en A,HLe H2 H3∧cn 1 p.2 (Is A) en∧A.length≤p.1∧(∀x,x∈A↔∃j<p.1,gi L j=x∧¬oV (s.no x) q lo hi 0)∧A.Sublist (L.take p.1)∧St H3 w (en:: .blk b6 [I lo,I hi]:: .blk b3 [I q.kind,I q.st,I q.wa]:: .blk b2 [I s.sp.id,I s.sp.src,.slice ast s.sp.st.length cst,.slice awa s.sp.wa.length cwa,I s.sp.al,I s.sp.up,.slice ar s.rs.length cr,.slice ac s.cs.length cc]::σ)) (fun p=>L.length - p.1) (0,.slice none 0 0) aU
   ⟨Nat.zero_le _,H2,.nul,[],HLe.refl _,.nil 1 none,bQ,fun x=>by simp,bQ,hs.nul.sb⟩ ?_
  clear hs
  rintro ⟨k,vo⟩ w ⟨hk,H3,en,A,hle3,hO,hAl,hA,hsub,hs⟩
  dsimp only at hk hO hAl hA hsub ⊢
  obtain ⟨ao,lo',co,rfl,hlo⟩:=hO.shape
  have hle03:=hle02.trans hle3
  have hLk:=hL.mono hle3
  refine .seq (.ai (.z zm (.z zm (.z (cH aa) (.z fj (.nil ?_))))))
  refine (.bJ rfl (fun hc27=>?_) (fun hc27=>?_))
  ·refine .skip ?_
   refine nT ?_
   refine .seq (.block ?_)
   refine .cut (fun fs w=>∃H4 c d e b11,jU fs ⟨56,[],[(12,I e),(11,.pointer (some ⟨b11,0,none⟩)),(10,I (k:Int)),(9,.slice ao lo' co),(8,.slice aL L.length cL),(6,.pointer (some ⟨b6,0,none⟩)),(3,.pointer (some ⟨b3,0,none⟩)),(2,.pointer (some ⟨b2,0,none⟩))]⟩∧HLe H3 H4∧oV (s.no (gi L k)) q c d e∧St H4 w (.blk b11 [I c,I d]::en:: .blk b6 [I lo,I hi]:: .blk b3 [I q.kind,I q.st,I q.wa]:: .blk b2 [I s.sp.id,I s.sp.src,.slice ast s.sp.st.length cst,.slice awa s.sp.wa.length cwa,I s.sp.al,I s.sp.up,.slice ar s.rs.length cr,.slice ac s.cs.length cc]::σ)) ?_ ?_
   ·refine .draw mix rfl hs fun w hs=>?_
    refine .ys 0 rfl hs [_,_,_,_,_,_,_,_] aF az ?_;refine .z 1 rfl zm ?_;refine .z 2 rfl zm ?_
    refine .ixX (enc:=fun x=>[I x]) (i:=3) hs rfl aq .none hLk rfl rfl aa af (bu (l:=L) (i:=k) aj) cM ?_;intro b34 o34 hc34;replace hc34:=bH.one hc34
    refine .r (i:=4) hs rfl aq .none (aK rfl ae hc34) ?_
    refine .ys 6 rfl hs [_,_,_] cP bE ?_
    refine .e2 (i:=5) (j:=11) aq rfl rfl rfl rfl .none .none hs ?_ ?_
    ·refine .call Tryz.call149 rfl (jk (s:=s) (x:=gi L k) hs (h1.mono hle03) (h2.mono hle03) (h3.mono hle03) (h4.mono hle03) aj aj aj aj) ?_;rintro _ w ⟨ust,uwa,ur,uc,e1,e2,e3,e4,rfl,hV,hs⟩
     have hokn:=(va s (gi L k)).ok hok
     obtain ⟨H4,hle4,r1,r2,r3,r4,hs,-⟩:=wc.ux hV (by show s.sp.st.length≤_;omega) (by show s.sp.wa.length≤_;omega) (by have:=hokn.early.2.1;omega) (by have:=hokn.early.2.2.1;omega) hs
     refine .go ?_
     refine .e2 (i:=7) (j:=11) aq rfl rfl rfl rfl .none .none hs ?_ ?_
     ·refine .call Tryz.call27 rfl (ij (s:=s.no (gi L k)) (q:=q) hs r1 r2 r3 r4) ?_;rintro _ w ⟨H5,c,d,e,hle5,rfl,hBn,hs⟩
      refine .go ?_
      refine .z 8 rfl zm ?_;refine .z 9 rfl zex ?_;refine .z 10 rfl zex ?_
      refine .E 11 hs ?_
      refine .alloc hs cO rfl ?_;intro b11 w hs
      refine .go ?_
      refine .E 12 hs ?_
      refine .aV (vs:=[_,_]) hs rfl rfl aM ?_;intro w hs
      refine .go ?_
      refine .z 13 rfl zg ?_;refine .D hs ?_
      exact nT ⟨H5,c,d,e,b11,aU,hle4.trans hle5,hBn,hs.sb⟩
     ·refine .alloc hs cO rfl ?_;intro b11 w hs
      refine .go ?_
      refine .E 7 hs ?_
      refine .call Tryz.call27 rfl (ij (s:=s.no (gi L k)) (q:=q) hs r1 r2 r3 r4) ?_;rintro _ w ⟨H5,c,d,e,hle5,rfl,hBn,hs⟩
      refine .go ?_
      refine .z 8 rfl zm ?_;refine .z 9 rfl zex ?_;refine .z 10 rfl zex ?_
      refine .E 12 hs ?_
      refine .aV (vs:=[_,_]) hs rfl rfl aM ?_;intro w hs
      refine .go ?_
      refine .z 13 rfl zg ?_;refine .D hs ?_
      exact nT ⟨H5,c,d,e,b11,aU,hle4.trans hle5,hBn,hs.sb⟩
    ·refine .alloc hs cO rfl ?_;intro b11 w hs
     refine .go ?_
     refine .E 5 hs ?_
     refine .call Tryz.call149 rfl (jk (s:=s) (x:=gi L k) hs (h1.mono hle03) (h2.mono hle03) (h3.mono hle03) (h4.mono hle03) aj aj aj aj) ?_;rintro _ w ⟨ust,uwa,ur,uc,e1,e2,e3,e4,rfl,hV,hs⟩
     have hokn:=(va s (gi L k)).ok hok
     obtain ⟨H4,hle4,r1,r2,r3,r4,hs,-⟩:=wc.ux hV (by show s.sp.st.length≤_;omega) (by show s.sp.wa.length≤_;omega) (by have:=hokn.early.2.1;omega) (by have:=hokn.early.2.2.1;omega) hs
     refine .go ?_
     refine .E 7 hs ?_
     refine .call Tryz.call27 rfl (ij (s:=s.no (gi L k)) (q:=q) hs r1 r2 r3 r4) ?_;rintro _ w ⟨H5,c,d,e,hle5,rfl,hBn,hs⟩
     refine .go ?_
     refine .z 8 rfl zm ?_;refine .z 9 rfl zex ?_;refine .z 10 rfl zex ?_
     refine .E 12 hs ?_
     refine .aV (vs:=[_,_]) hs rfl rfl aM ?_;intro w hs
     refine .go ?_
     refine .z 13 rfl zg ?_;refine .D hs ?_
     exact nT ⟨H5,c,d,e,b11,aU,hle4.trans hle5,hBn,hs.sb⟩
   ·clear hs
    rintro fs w ⟨H4,c,d,e,b11,hfs,hle4,hBn,hs⟩
    refine WE.sub ?_ hfs
    clear hfs
    have hiff:=hB.Fa hBn
    obtain rfl:e=0:=(hB.no _ hBn).1
    refine .ai (.z zm (.z iw (.z zm ?_)))
    refine .gT rfl rfl ?_
    refine .y hs (zls [_,_] cj aM) ?_
    refine .gT rfl rfl ?_
    refine .y hs (zls [_,_] cj aM) ?_
    refine .gT rfl rfl ?_
    refine .q hs (Ev rfl rfl ef po pq (fun f hf=>by simp only [List.mem_cons,List.not_mem_nil,or_false] at hf;rcases hf with rfl|rfl<;>exact ⟨by decide,aS,ae⟩)) ?_
    refine .z zpF (.nil ?_)
    refine (.cond rfl (fun hc47=>?_) (fun hc47=>?_))
    ·refine .region (.z zm (.z zm (.z zm ?_)))
     refine .ixY hs (hLk.mono hle4) rfl rfl aa af (bu (l:=L) (i:=k) aj) cM ?_;intro b51 o51 hc51
     refine .q hs (aK rfl ae hc51) ?_
     refine .o (.buildSlice (cells:=[_]) hs cf rfl rfl fun b53 w hs=>?_)
     refine .o (.append (ys:=Is [gi L k]) hs aZ rfl rfl hO (.own (c:=Is [gi L k]) (by first|exact .here|exact .there .here) rfl rfl) (dL _) (fun l h=>by simp at h hlo;omega) ?_);intro v54 en54 w hO2 hs
     rw [←List.map_append] at hO2
     refine .z zg (.nil ?_)
     refine nB (nT ?_)
     refine .region (.z zm (.z cA (.z zg (.nil ?_))))
     refine nT ?_
     exact ⟨(k+1,v54),.bX rfl bQ aU,⟨by dsimp only;omega,H4,en54,A++[gi L k],hle3.trans hle4,hO2,by simp;omega,fun x=>by
      rw [List.mem_append,hA,List.mem_singleton]
      dsimp only
      constructor
      ·rintro (⟨j,h1,h2⟩|rfl)
       ·exact ⟨j,aj,h2⟩
       ·exact ⟨k,aj,rfl,fun h=>by have:=hiff.2 h;simp_all⟩
      ·rintro ⟨j,h1,h2,h3⟩
       by_cases e:j=k
       ·subst e;exact .inr h2.symm
       ·exact .inl ⟨j,aj,h2,h3⟩,by dsimp only;rw [cB (bu aj)];exact hsub.append (List.Sublist.refl _),hs.sb⟩,by dsimp only;omega⟩
    ·refine .skip ?_
     refine nB (nT ?_)
     refine .region (.z zm (.z cA (.z zg (.nil ?_))))
     refine nT ?_
     exact ⟨(k+1,.slice ao lo' co),.bX rfl bQ aU,⟨by dsimp only;omega,H4,en,A,hle3.trans hle4,hO,by dsimp only;omega,fun x=>by
      rw [hA]
      dsimp only
      constructor
      ·rintro ⟨j,h1,h2⟩;exact ⟨j,aj,h2⟩
      ·rintro ⟨j,h1,h2,h3⟩
       by_cases e:j=k
       ·subst e;subst h2;exact (h3 (hiff.1 (by simp_all))).elim
       ·exact ⟨j,aj,h2,h3⟩,by dsimp only;rw [cB (bu aj)];exact hsub.trans (List.sublist_append_left _ _),hs.sb⟩,by dsimp only;omega⟩
  ·refine .exit ?_
   refine xT (xT (xB (nT ?_)))
   refine .ai (.z zm (.z zg (.z zg (.nil ?_))))
   refine .ret (Fin.lz Tryz.results68 rfl rfl ?_)
   obtain rfl:k=L.length:=by omega
   rw [List.take_length] at hsub
   obtain ⟨H5,hle5,hR5,hs⟩:=cn.cN hO aj hs .here
   exact ⟨H5,_,A,0,hle03.trans hle5,rfl,hR5,.ok hB ⟨hR.up.sublist hsub,fun x=>by
    rw [hA]
    constructor
    ·rintro ⟨j,h1,h2,h3⟩
     exact ⟨(hR.mem x).1 (h2▸List.mem_of_getElem? (bu h1)),h3⟩
    ·rintro ⟨h1,h2⟩
     obtain ⟨j,hj⟩:=List.getElem?_of_mem ((hR.mem x).2 h1)
     have hjl:=(List.getElem?_eq_some_iff.1 hj).1
     have:=bu hjl
     rw [hj] at this
     exact ⟨j,hjl,(Option.some.inj this).symm,h2⟩⟩,hs.out⟩
set_option maxHeartbeats 4000000 in
theorem mS{v:Value}{g:Fc}{x a b c:Int}(hs:St H w σ)(hg:D7 H v g):
  Cl Tryz.prog 13 [v,I x,.agg #[I a,I b,I c]] w fun v w'=>v= .bool true∧∃H',HLe H H'∧St H' w' σ:=by
 obtain ⟨vs,v5,v4,vp,rfl,g1,g2,g3,g4⟩:=hg
 refine Cl.o Tryz.func13 Tryz.ntmps13 ag3 ?_
 refine .ai ?_
 refine .bx hs fun b3 w hs=>?_
 refine .bx hs fun b5 w hs=>?_
 refine .z zg (.nil (.ai ?_))
 refine .o (.call Tryz.call22 rfl (s8 hs) ?_);rintro _ w ⟨rfl,H1,hle1,hs⟩
 refine .z zg (.nil (.ai (.y hs (zls [_,_,_,_,_,_,_] Tryz.isAgg27 Tryz.sizeOf27) ?_)))
 refine .o (.call Tryz.call23 rfl (qC hs (g1.mono hle1) (g2.mono hle1) (g3.mono hle1) (g4.mono hle1)) ?_);rintro _ w ⟨H2,s,vst,vwa,vr,vc,hle2,rfl,h1,h2,h3,h4,hSpl,hs⟩
 obtain ⟨ast,cst,rfl⟩:=RI.shape h1
 obtain ⟨awa,cwa,rfl⟩:=RI.shape h2
 obtain ⟨ar,cr,rfl⟩:=RRd.shape h3
 obtain ⟨ac,cc,rfl⟩:=RCm.shape h4
 have hle02:=hle1.trans hle2
 refine .o (.alloc hs bZ rfl fun b8 w hs=>?_)
 refine .o (.aV (vs:=[_,_,_,_,_,_,_,_]) hs rfl rfl az fun w hs=>?_)
 refine .nil (.ai (.y hs (zls [_,_,_,_,_,_,_,_] aF az) (.z zm ?_)))
 refine .o (.call Tryz.call65 rfl (nH (s:=s) (x:=x) hs h1 h2 h3 h4) ?_);rintro _ w ⟨H3,vA,tA,e1,hle3,rfl,hSA,hC,hs⟩
 obtain ⟨p1,p2,p3,p4,rfl,q1,q2,q3,q4⟩:=hSA
 obtain ⟨z_1,z_2,rfl⟩:=RI.shape q1
 obtain ⟨z_3,z_4,rfl⟩:=RI.shape q2
 obtain ⟨z_5,z_6,rfl⟩:=RRd.shape q3
 obtain ⟨z_7,z_8,rfl⟩:=RCm.shape q4
 replace h1:=h1.mono hle3
 replace h2:=h2.mono hle3
 replace h3:=h3.mono hle3
 replace h4:=h4.mono hle3
 refine .z zm (.z zex (.z zex ?_))
 refine .o (.alloc hs bZ rfl fun b9 w hs=>?_)
 refine .o (.aV (vs:=[_,_,_,_,_,_,_,_]) hs rfl rfl az fun w hs=>?_)
 refine .z zg (.nil (.ai (.y hs (zls [_,_,_,_,_,_,_,_] aF az) (.z zm ?_))))
 refine .o (.call Tryz.call66 rfl (px (s:=s) (x:=x) hs h1 h2 h3 h4) ?_);rintro _ w ⟨H4,vB,tB,e2,hle4,rfl,hSB,hD,hs⟩
 obtain ⟨rfl,rfl⟩:=hC.uniq hD
 obtain ⟨u1,u2,u3,u4,rfl,x1,x2,x3,x4⟩:=hSB
 obtain ⟨w_1,w_2,rfl⟩:=RI.shape x1
 obtain ⟨w_3,w_4,rfl⟩:=RI.shape x2
 obtain ⟨w_5,w_6,rfl⟩:=RRd.shape x3
 obtain ⟨w_7,w_8,rfl⟩:=RCm.shape x4
 replace h1:=h1.mono hle4
 replace h2:=h2.mono hle4
 replace h3:=h3.mono hle4
 replace h4:=h4.mono hle4
 have hle04:=hle02.trans (hle3.trans hle4)
 refine .z zm (.z zex (.z zex ?_))
 refine .o (.alloc hs bZ rfl fun b11 w hs=>?_)
 refine .o (.aV (vs:=[_,_,_,_,_,_,_,_]) hs rfl rfl az fun w hs=>?_)
 refine .z zg (.nil (.ai (.z (zbd [_,_,_] kL) ?_)))
 refine .o (.alloc hs Tryz.zeroValue29 rfl fun b13 w hs=>?_)
 refine .o (.aV (vs:=[_,_,_]) hs rfl rfl bE fun w hs=>?_)
 refine .nil ?_
 refine .cut (fun fs w=>∃q1:Wht,jU fs ⟨79,[],[(13,.pointer (some ⟨b13,0,none⟩)),(12,I e1),(11,.pointer (some ⟨b11,0,none⟩)),(10,I e1),(9,.pointer (some ⟨b9,0,none⟩)),(8,.pointer (some ⟨b8,0,none⟩)),(7,.bool true)]⟩∧St H4 w (.blk b13 [I q1.kind,I q1.st,I q1.wa]:: .blk b11 [I tA.sp.id,I tA.sp.src,.slice w_1 tA.sp.st.length w_2,.slice w_3 tA.sp.wa.length w_4,I tA.sp.al,I tA.sp.up,.slice w_5 tA.rs.length w_6,.slice w_7 tA.cs.length w_8]:: .blk b9 [I tA.sp.id,I tA.sp.src,.slice z_1 tA.sp.st.length z_2,.slice z_3 tA.sp.wa.length z_4,I tA.sp.al,I tA.sp.up,.slice z_5 tA.rs.length z_6,.slice z_7 tA.cs.length z_8]:: .blk b8 [I s.sp.id,I s.sp.src,.slice ast s.sp.st.length cst,.slice awa s.sp.wa.length cwa,I s.sp.al,I s.sp.up,.slice ar s.rs.length cr,.slice ac s.cs.length cc]::σ)) ?_ ?_
 ·refine .ai (.z (zfa aN) (.y hs (zls [_,_,_,_,_,_] aQ aH) ?_))
  refine .o (.call Tryz.call24 rfl (jt (s:=s.sp) hs h1 h2) ?_);rintro _ w ⟨e38,rfl,hcase,hs⟩
  refine .z fL (.nil ?_)
  refine (.bJ rfl (fun hc39=>?_) (fun hc39=>?_))
  ·refine .region (.z (zfa aN) (.y hs (zls [_,_,_,_,_,_] aQ aH) (.y hs (zls [_,_,_] Tryz.isAgg25 Tryz.sizeOf25) ?_)))
   have hok:fG s.sp:=by
    rcases hcase with ⟨h,_⟩|⟨_,h⟩
    ·exact h
    ·omega
   refine .o (.call Tryz.call25 rfl (ow (s:=s.sp) hs h1 h2 hok) ?_);rintro _ w ⟨q1,rfl,hq1,hs⟩
   refine .o (.aV (vs:=[_,_,_]) hs rfl rfl bE fun w hs=>?_)
   refine .nil ?_
   refine nT ?_
   exact ⟨q1,aU,hs.sb⟩
  ·refine .skip ?_
   refine nT ?_
   exact ⟨⟨1,0,0⟩,aU,hs.sb⟩
 ·clear hs
  rintro fs w ⟨k1,hfs,hs⟩
  refine WE.sub ?_ hfs
  clear hfs
  refine .ai (.y hs (zls [_,_,_,_,_,_,_,_] aF az) (.y hs (zls [_,_,_] cP bE) ?_))
  refine .o (.call Tryz.call67 rfl (pK (s:=s) (q:=k1) hs h1 h2 h3 h4) ?_);rintro _ w ⟨H5,vL,L,e3,hle5,rfl,hL,hRL,hs⟩
  replace h1:=h1.mono hle5
  replace h2:=h2.mono hle5
  replace h3:=h3.mono hle5
  replace h4:=h4.mono hle5
  refine .z zm (.z zex (.z zex (.z zg (.z zg (.nil (.ai (.y hs (zls [_,_,_,_,_,_,_,_] aF az) (.y hs (zls [_,_,_] cP bE) ?_))))))))
  refine .o (.call Tryz.call68 rfl (rD (s:=s) (q:=k1) hs h1 h2 h3 h4) ?_);rintro _ w ⟨H6,vM,M,e4,hle6,rfl,hM,hRM,hs⟩
  obtain ⟨rfl,rfl⟩:=hRL.uniq hRM
  have hle46:=hle5.trans hle6
  have hle36:=hle4.trans hle46
  refine .z zm (.z zex (.z zex (.z zg (.z zg (.nil (.ai (.y hs (zls [_,_,_,_,_,_,_,_] aF az) (.y hs (zls [_,_,_,_,_,_,_,_] aF az) ?_))))))))
  refine .o (.call Tryz.call50 rfl (uV (s:=tA) hs ⟨_,_,_,_,rfl,q1.mono hle36,q2.mono hle36,q3.mono hle36,q4.mono hle36⟩ ⟨_,_,_,_,rfl,x1.mono hle46,x2.mono hle46,x3.mono hle46,x4.mono hle46⟩) ?_);rintro _ w ⟨rfl,hs⟩
  refine .z zg (.nil (.ai (.z zm (.z zm ?_))))
  refine .o (.call Tryz.call34 rfl (fY hs (hL.mono hle6) hM) ?_);rintro _ w ⟨rfl,hs⟩
  rw [decide_eq_true rfl]
  refine .z zg (.nil (.ai (.z zm (.z zm ?_))))
  refine .gT rfl rfl ?_
  refine .z zm (.z zpT (.z zm ?_))
  refine .gT rfl rfl ?_
  refine .z zm ?_
  refine .gT rfl rfl ?_
  refine .z zm ?_
  refine .gT rfl rfl ?_
  refine .z fL ?_;rw [decide_eq_true rfl]
  refine .z zpT (.z zm ?_)
  refine .gT rfl rfl ?_
  refine .z zm (.z zpT (.z zm ?_))
  refine .gT rfl rfl ?_
  refine .z zm ?_
  refine .gT rfl rfl ?_
  refine .z zm ?_
  refine .gT rfl rfl ?_
  refine .z fL (.z zpT (.z zg (.nil ?_)))
  refine .ret (Fin.bL Tryz.results13 rfl ?_)
  exact ⟨bQ,H6,hle04.trans hle46,hs.out⟩
end Go.Proofs.YtddaejgfjlneoaaGreat
