/-
  Texts of these claims, joined: Xd Xf Xi Srt Yc Yd Ye Yf Yq Za Zb Zc Zd Ze Zf Zg Zh Zi.
-/
import Derived.Test.YtddaejgfjlneoaaGreatFc
import Derived.Shelf.Sort.Plain
import Derived.Shelf.Slices.CompactI
import Derived.Shelf.Slices.In.SortNone
import Derived.Lib.RowBridge
namespace Go.Proofs.YtddaejgfjlneoaaGreat
open Go.MW
variable{H:cf}{w:World}{σ:List Ent}
theorem so{va vb:Value}{A B:List Int}(hs:St H w σ)(hA:RI H va A)(hB:RI H vb B):
  Cl Tryz.prog 267 [va,vb] w fun v w'=>v= .bool (decide (A=B))∧St H w' σ:=by
 obtain ⟨aA,cA,rfl⟩:=RI.shape hA
 obtain ⟨aB,cB,rfl⟩:=RI.shape hB
 have hlA:=(RI.len hA).2.2
 have hlB:=(RI.len hB).2.2
 refine Cl.o Tryz.func267 Tryz.ntmps267 ag2 ?_
 refine .ai (.z zg (.nil (.seq (.ai (.z zm (.z (c9 aa) (.z zm (.z (c9 aa) (.z ij ?_)))))))))
 refine .nil ?_
 refine (.eQ rfl (fun hc10=>?_) (fun hc10=>?_))
 ·refine .ai (.z zg (.nil ?_))
  refine .ret (rT (Fin.bJ Tryz.results267 rfl ?_))
  exact ⟨by rw [decide_eq_false (by intro h;subst h;exact hc10 rfl)],hs⟩
 ·refine .skip ?_
  refine nT ?_
  refine .seq (.ai (.z zm (.z (c9 aa) (.z zm (.nil ?_)))))
  refine .for (N:=A.length) (J:=fun k fr w=>fr=[(0,.slice aA A.length cA),(1,.slice aB B.length cB)]∧(∀j<k,A[j]? =B[j]?)∧St H w σ) aj ?_ ?_ ?_
  ·exact .mk ⟨rfl,fun j h=>by omega,hs⟩
  ·rintro k fr w hk ⟨rfl,h0,hs⟩
   obtain ⟨xA,hxA⟩:=nth hk
   obtain ⟨xB,hxB⟩:=nth (l:=B) (k:=k) aj
   refine .block (.ai (.z zm (.z zg (.nil ?_))))
   refine .seq (.draw mix rfl hs fun w hs=>?_)
   refine .z 0 rfl zm ?_;refine .z 1 rfl zm ?_
   refine .ixX (enc:=fun x=>[I x]) (i:=2) hs rfl an .none hA rfl rfl aa af hxA rfl ?_;intro b18 o18 hc18;replace hc18:=bB.one hc18
   refine .r (i:=3) hs rfl an .none (aK rfl ae hc18) ?_
   refine .z 4 rfl zm ?_;refine .z 5 rfl zm ?_
   refine .ixX (enc:=fun x=>[I x]) (i:=6) hs rfl an .none hB rfl rfl aa af hxB rfl ?_;intro b22 o22 hc22;replace hc22:=bB.one hc22
   refine .r (i:=7) hs rfl an .none (aK rfl ae hc22) ?_
   refine .z 8 rfl ij ?_;refine .D hs ?_
   refine (.eQ rfl (fun hc24=>?_) (fun hc24=>?_))
   ·refine .ai (.z zg (.nil ?_))
    refine .ret (rB (rT (rB (rT (Fin.bJ Tryz.results267 rfl ?_)))))
    exact ⟨by rw [decide_eq_false (by intro h;subst h;rw [hxA] at hxB;cases hxB;exact hc24 rfl)],hs⟩
   ·refine .skip ?_
    refine nB (nT ?_)
    exact .mk ⟨rfl,fun j hj=>by
     by_cases e:j=k
     ·subst e;rw [hxA,hxB,hc24]
     ·exact h0 j aj,hs⟩
  ·rintro fr w ⟨rfl,h0,hs⟩
   refine nT ?_
   refine .ai (.z zg (.nil ?_))
   refine .ret (Fin.bJ Tryz.results267 rfl ?_)
   exact ⟨by rw [decide_eq_true (List.ext_getElem? fun j=>by
    by_cases e:j<A.length
    ·exact h0 j e
    ·rw [List.getElem?_eq_none aj,List.getElem?_eq_none aj])],hs⟩
set_option maxHeartbeats 8000000 in
theorem qH{v vw vp:Value}{s:cM}{ws:List Int}{n:Int}{us:List Use}(hs:St H w σ)(hr:RSy H v s)(hrw:RI H vw ws)(hp:RPf H vp n us)(hA:dT s ws=0):
  Cl Tryz.prog 220 [v,vw,vp] w fun v w'=>∃H1 b,HLe H H1∧v= .bool b∧(b=true↔lH s ws n us)∧St H1 w' σ:=by
 obtain ⟨u,rfl,hr⟩:=hr
 obtain ⟨al,cl,rfl⟩:=RL.shape hr
 obtain ⟨aw,cw,rfl⟩:=RI.shape hrw
 obtain ⟨uu,rfl,hU⟩:=hp
 obtain ⟨au,cu,rfl⟩:=RU.shape hU
 obtain ⟨hok,hwl,hz⟩:=jv hA
 have hm0:=hok.m0
 have hn65:=hok.n65
 have hll:=hok.len
 have hmn:s.many+1=(s.n:Int):=by simp only [cM.n];omega
 refine Cl.o Tryz.func220 Tryz.ntmps220 ag3 ?_
 refine .ai ?_
 refine .bx hs fun b3 w hs=>?_
 refine .bx hs fun b5 w hs=>?_
 refine .z zg (.nil (.seq (.ai (.z (zfa cU) (.y hs (zld eZ) (.z (c9 bD) (.z kD (.nil ?_))))))))
 refine (.bM rfl (fun hc16=>?_) (fun hc16=>?_))
 ·refine .ai (.z zg (.nil ?_))
  refine .ret (rT (Fin.bJ Aw rfl ?_))
  exact ⟨H,false,HLe.refl H,rfl,⟨fun h=>(by cases h),fun h=>by have:=h.len;omega⟩,hs.out⟩
 ·refine .skip ?_
  refine nT ?_
  refine .ai (.z (zfa bH) (.y hs (zld ae) (.z cq ?_)))
  rw [hmn]
  refine .o (.oE s.n hs rfl rfl aa dC rfl af bI aj fun b20 w hs=>?_)
  refine .z zg (.nil (.ai (.z zg (.z zg (.nil (.seq (.ai (.z (zfa cU) (.y hs (zld eZ) ?_)))))))))
  refine .z (c9 bD) (.z zm (.nil ?_))
  refine .for (N:=us.length) (J:=fun k fr w=>fr=[(22,.slice au us.length cu),(7,.slice (some ⟨b20,0,none⟩) s.n s.n),(8,I (fS us k)),(9,I (IntKind.i64.wrap (ju s us k))),(3,.pointer (some ⟨b3,0,none⟩)),(5,.pointer (some ⟨b5,0,none⟩)),(1,.slice aw ws.length cw)]∧∃C,(C.length=s.n∧∀v<s.n,gi C v=nF s us k v)∧(∀i<k,qR s us i)∧fS us k≤3600000000000*k∧St H w (.blk b20 (Is C):: .blk b5 [I n,.slice au us.length cu]:: .blk b3 [I s.many,.slice al s.cO.length cl]::σ)) aj ?_ ?_ ?_
  ·exact .mk ⟨rfl,_,⟨bV,fun v hv=>by rw [du _ _ hv];rfl⟩,fun i hi=>by omega,by simp [fS,aV],hs⟩ (hs:= .cons rfl (.cons rfl (.cons rfl (.cons rfl (.cons rfl (.cj rfl (by simp [ju,aV,mb]) aR))))))
  ·rintro k fr w hk ⟨rfl,C,⟨hC1,hC2⟩,hUs,hTm,hs⟩
   have hx:=zf hk
   have hu400:us.length≤400:=by omega
   refine .block (.ai (.z zm ?_))
   refine .ixX (enc:=Use.c) hs hU rfl rfl bD dD hx rfl ?_;intro b27 o27 hc27
   refine .q hs (cI (vs:=(gu us k).c) rfl Tryz.isAgg220 dD hc27) ?_
   refine .o (.alloc hs oN rfl fun b11 w hs=>?_)
   refine .z zg ?_
   refine .o (.aU (vs:=(gu us k).c) hs rfl rfl dD fun w hs=>?_)
   refine .nil (.seq ?_)
   refine .cut (fun fs w=>∃p,j9 fs ⟨110,[],[(58,.bool p),(11,.pointer (some ⟨b11,0,none⟩)),(24,I (k:Int)),(23,I (us.length:Int)),(22,.slice au us.length cu),(7,.slice (some ⟨b20,0,none⟩) s.n s.n),(8,I (fS us k)),(9,I (IntKind.i64.wrap (ju s us k))),(3,.pointer (some ⟨b3,0,none⟩)),(5,.pointer (some ⟨b5,0,none⟩)),(1,.slice aw ws.length cw)]⟩∧(p=true→¬qR s us k)∧(p=false→qR s us k)∧St H w (.blk b11 (gu us k).c:: .blk b20 (Is C):: .blk b5 [I n,.slice au us.length cu]:: .blk b3 [I s.many,.slice al s.cO.length cl]::σ)) ?_ ?_
   ·refine .draw mix rfl hs fun w hs=>?_
    refine .z 0 rfl (zfa fN) ?_;refine .y 1 rfl hs ae ?_;refine .z 2 rfl (zfa bO) ?_;refine .y 3 rfl hs cH ?_;refine .z 4 rfl (c9 aP) ?_;refine .z 5 rfl gW ?_
    refine .E 6 hs ?_
    refine .call uk rfl (eM hs) ?_;rintro _ w ⟨rfl,hs⟩
    refine .go ?_
    refine .z 7 rfl ir ?_;refine .z 8 rfl zm ?_
    refine .bif (t':=37) rfl (fun hb37=>?_) (fun hb37=>?_)
    ·refine .qF (i:=9) rfl an rfl rfl ?_
     refine .qF (i:=10) rfl an rfl rfl ?_
     refine .qF (i:=11) rfl an rfl rfl ?_
     refine .qF (i:=12) rfl an rfl rfl ?_
     refine .z 13 rfl zpT ?_;refine .z 14 rfl zm ?_
     refine .qF (i:=15) rfl an rfl rfl ?_
     refine .qF (i:=16) rfl an rfl rfl ?_
     refine .qF (i:=17) rfl an rfl rfl ?_
     refine .qF (i:=18) rfl an rfl rfl ?_
     refine .qF (i:=19) rfl an rfl rfl ?_
     refine .qF (i:=20) rfl an rfl rfl ?_
     refine .qF (i:=21) rfl an rfl rfl ?_
     refine .qF (i:=22) rfl an rfl rfl ?_
     refine .qF (i:=23) rfl an rfl rfl ?_
     refine .qF (i:=24) rfl an rfl rfl ?_
     refine .qF (i:=25) rfl an rfl rfl ?_
     refine .qF (i:=26) rfl an rfl rfl ?_
     refine .qF (i:=27) rfl an rfl rfl ?_
     refine .qF (i:=28) rfl an rfl rfl ?_
     refine .z 29 rfl zpT ?_;refine .D hs ?_
     exact nT ⟨_,aR,by
      intro hp hU
      have h1:=hU.l0;have h2:=hU.l1;have h3:=hU.t0;have h4:=hU.t1;have h5:=hU.ord
      first
       |(cases hp;done)
       |(have:=cN.1 hb37;omega)
       |(have:=cN.1 hb43;omega)
       |(have:=of_decide_eq_true hp;have:=h5 aj;omega),by
      intro hp
      first
       |(cases hp;done)
       |exact ⟨by have:=br.1 hb37;omega,by have:=br.1 hb37;omega,by have:=br.1 hb43;omega,by have:=br.1 hb43;omega,fun h=>by first|omega|(have:=of_decide_eq_false hp;omega)⟩,hs⟩
    ·refine .z 9 rfl (zfa eD) ?_;refine .y 10 rfl hs ae ?_
     refine .E 11 hs ?_
     refine .call uk rfl (eM hs) ?_;rintro _ w ⟨rfl,hs⟩
     refine .go ?_
     refine .z 12 rfl ir ?_;refine .z 13 rfl zpF ?_;refine .z 14 rfl zm ?_
     refine .bif (t':=43) rfl (fun hb43=>?_) (fun hb43=>?_)
     ·refine .qF (i:=15) rfl an rfl rfl ?_
      refine .qF (i:=16) rfl an rfl rfl ?_
      refine .qF (i:=17) rfl an rfl rfl ?_
      refine .qF (i:=18) rfl an rfl rfl ?_
      refine .qF (i:=19) rfl an rfl rfl ?_
      refine .qF (i:=20) rfl an rfl rfl ?_
      refine .qF (i:=21) rfl an rfl rfl ?_
      refine .qF (i:=22) rfl an rfl rfl ?_
      refine .qF (i:=23) rfl an rfl rfl ?_
      refine .qF (i:=24) rfl an rfl rfl ?_
      refine .qF (i:=25) rfl an rfl rfl ?_
      refine .qF (i:=26) rfl an rfl rfl ?_
      refine .qF (i:=27) rfl an rfl rfl ?_
      refine .qF (i:=28) rfl an rfl rfl ?_
      refine .z 29 rfl zpT ?_;refine .D hs ?_
      exact nT ⟨_,aR,by
       intro hp hU
       have h1:=hU.l0;have h2:=hU.l1;have h3:=hU.t0;have h4:=hU.t1;have h5:=hU.ord
       first
        |(cases hp;done)
        |(have:=cN.1 hb37;omega)
        |(have:=cN.1 hb43;omega)
        |(have:=of_decide_eq_true hp;have:=h5 aj;omega),by
       intro hp
       first
        |(cases hp;done)
        |exact ⟨by have:=br.1 hb37;omega,by have:=br.1 hb37;omega,by have:=br.1 hb43;omega,by have:=br.1 hb43;omega,fun h=>by first|omega|(have:=of_decide_eq_false hp;omega)⟩,hs⟩
     ·refine .z 15 rfl zm ?_;refine .z 16 rfl kD ?_;refine .z 17 rfl zm ?_
      refine .iB (t':=46) rfl (fun hb46=>?_) (fun hb46=>?_)
      ·refine .z 18 rfl (zfa cU) ?_;refine .y 19 rfl hs eZ ?_;refine .z 20 rfl zm ?_;refine .z 21 rfl gW ?_
       refine .ixX (enc:=Use.c) (i:=22) hs rfl an (.some rfl rfl) hU rfl rfl bD dD (zf (i:=k - 1) aj) aj ?_;intro b51 o51 hc51
       refine .z 23 rfl (zfa fN) ?_
       refine .r (i:=24) hs rfl an (.some rfl rfl) (aK rfl ae (hc51.get 0 rfl)) ?_
       refine .z 25 rfl (zfa fN) ?_;refine .y 26 rfl hs ae ?_;refine .z 27 rfl vD ?_;refine .z 28 rfl zpT ?_;refine .z 29 rfl zpF ?_;refine .D hs ?_
       exact nT ⟨_,aR,by
        intro hp hU
        have h1:=hU.l0;have h2:=hU.l1;have h3:=hU.t0;have h4:=hU.t1;have h5:=hU.ord
        first
         |(cases hp;done)
         |(have:=cN.1 hb37;omega)
         |(have:=cN.1 hb43;omega)
         |(have:=of_decide_eq_true hp;have:=h5 aj;omega),by
        intro hp
        first
         |(cases hp;done)
         |exact ⟨by have:=br.1 hb37;omega,by have:=br.1 hb37;omega,by have:=br.1 hb43;omega,by have:=br.1 hb43;omega,fun h=>by first|omega|(have:=of_decide_eq_false hp;omega)⟩,hs⟩
      ·refine .qF (i:=18) rfl an rfl rfl ?_
       refine .qF (i:=19) rfl an rfl rfl ?_
       refine .qF (i:=20) rfl an rfl rfl ?_
       refine .qF (i:=21) rfl an rfl rfl ?_
       refine .qF (i:=22) rfl an rfl rfl ?_
       refine .qF (i:=23) rfl an rfl rfl ?_
       refine .qF (i:=24) rfl an rfl rfl ?_
       refine .qF (i:=25) rfl an rfl rfl ?_
       refine .qF (i:=26) rfl an rfl rfl ?_
       refine .qF (i:=27) rfl an rfl rfl ?_
       refine .z 28 rfl zpF ?_;refine .z 29 rfl zpF ?_;refine .D hs ?_
       exact nT ⟨_,aR,by
        intro hp hU
        have h1:=hU.l0;have h2:=hU.l1;have h3:=hU.t0;have h4:=hU.t1;have h5:=hU.ord
        first
         |(cases hp;done)
         |(have:=cN.1 hb37;omega)
         |(have:=cN.1 hb43;omega)
         |(have:=of_decide_eq_true hp;have:=h5 aj;omega),by
        intro hp
        first
         |(cases hp;done)
         |exact ⟨by have:=br.1 hb37;omega,by have:=br.1 hb37;omega,by have:=br.1 hb43;omega,by have:=br.1 hb43;omega,fun h=>by first|omega|(have:=of_decide_eq_false hp;omega)⟩,hs⟩
   ·rintro fs w ⟨p,hfs,hp1,hp2,hs⟩
    refine WE.sub ?_ hfs
    refine (.cond rfl (fun hc58=>?_) (fun hc58=>?_))
    ·refine .ai (.z zg (.nil ?_))
     refine .ret (rT (rB (rT (rB (rT (Fin.bJ Aw rfl ?_))))))
     exact ⟨H,false,HLe.refl H,rfl,⟨fun h=>(by cases h),fun h=>(hp1 hc58 (h.use k hk)).elim⟩,hs.out⟩
    ·refine .skip ?_
     refine nT ?_
     refine .ai ?_
     have hUk:=hp2 (by simpa using hc58)
     have hUs':∀i<k+1,qR s us i:=fun i hi=>by
      by_cases e:i=k
      ·subst e;exact hUk
      ·exact hUs i aj
     have hTp:=wY hUs
     have ht0:=hUk.t0;have ht1:=hUk.t1;have hl0:=hUk.l0;have hl1:=hUk.l1
     have hgl:=zr (ls:=s.cO) (i:=(gu us k).l.toNat) aj
     obtain ⟨⟨xa0,xa1⟩,⟨xb0,xb1⟩,xne,xM,-⟩:=hok.lim _ (List.mem_of_getElem? hgl)
     have hbs:ju s us (k+1)=ju s us k+(gu us k).t*(ul s us k).M:=rfl
     have hts:fS us (k+1)=fS us k+(gu us k).t:=rfl
     change 0≤(ul s us k).A at xa0;change (ul s us k).A≤s.many at xa1
     change 0≤(ul s us k).B at xb0;change (ul s us k).B≤s.many at xb1
     change (ul s us k).A≠(ul s us k).B at xne
     change -20000≤(ul s us k).M∧(ul s us k).M≤20000 at xM
     have hm1:(gu us k).t* -20000≤(gu us k).t*(ul s us k).M:=Int.mul_le_mul_of_nonneg_left xM.1 aj
     have hm2:(gu us k).t*(ul s us k).M≤(gu us k).t*20000:=Int.mul_le_mul_of_nonneg_left xM.2 aj
     have hib:=wi hUs (ul s us k).B.toNat
     have hia:=wi hUs (ul s us k).A.toNat
     have hAn:(ul s us k).A.toNat<s.n:=by omega
     have hBn:(ul s us k).B.toNat<s.n:=by omega
     have hgA:=hC2 _ hAn
     have hgB:=hC2 _ hBn
     refine .z (zfa bO) (.y hs (zld cH) (.z (zfa fN) (.y hs (zld ae) ?_)))
     refine .ixX (enc:=Lim.c) hs hr rfl rfl aP bq hgl aj ?_;intro b63 o63 hc63
     refine .q hs (cI (vs:=(ul s us k).c) rfl fF bq hc63) ?_
     refine .o (.alloc hs ez rfl fun b12 w hs=>?_)
     refine .o (.aU (vs:=(ul s us k).c) hs rfl rfl bq fun w hs=>?_)
     refine .nil ?_
     refine .seq (.draw mix rfl hs fun w hs=>?_)
     refine .z 0 rfl zm ?_;refine .z 1 rfl (zfa eP) ?_;refine .y 2 rfl hs ae ?_
     refine .z 3 rfl (dG (k:=(ul s us k).B.toNat) rfl rfl aa af aj hBn) ?_
     refine .y 4 rfl hs ae ?_;refine .z 5 rfl (zfa eD) ?_;refine .y 6 rfl hs ae ?_;refine .z 7 rfl cq ?_
     refine .z 8 rfl (dG (k:=(ul s us k).B.toNat) rfl rfl aa af aj hBn) ?_
     refine .E 9 hs ?_
     refine .store hs rfl rfl af ?_;intro w hs
     refine .go ?_
     refine .D hs ?_
     have hD1:(C.set (ul s us k).B.toNat (gi C (ul s us k).B.toNat+(gu us k).t)).length=s.n:=by rw [List.length_set];exact hC1
     have hD2:∀v,gi (C.set (ul s us k).B.toNat (gi C (ul s us k).B.toNat+(gu us k).t)) v=if v=(ul s us k).B.toNat then gi C (ul s us k).B.toNat+(gu us k).t else gi C v:=fun v=>eu aj _ v
     generalize C.set (ul s us k).B.toNat (gi C (ul s us k).B.toNat+(gu us k).t)=D at hs hD1 hD2
     have hgD:gi D (ul s us k).A.toNat=gi C (ul s us k).A.toNat:=by rw [hD2,if_neg aj]
     refine .seq (.draw mix rfl hs fun w hs=>?_)
     refine .z 0 rfl zm ?_;refine .z 1 rfl (zfa eA) ?_;refine .y 2 rfl hs ae ?_
     refine .z 3 rfl (dG (k:=(ul s us k).A.toNat) rfl rfl aa af aj hAn) ?_
     refine .y 4 rfl hs ae ?_;refine .z 5 rfl (zfa eD) ?_;refine .y 6 rfl hs ae ?_;refine .z 7 rfl gW ?_
     refine .z 8 rfl (dG (k:=(ul s us k).A.toNat) rfl rfl aa af aj hAn) ?_
     refine .E 9 hs ?_
     refine .store hs rfl rfl af ?_;intro w hs
     refine .go ?_
     refine .D hs ?_
     refine .ai (.z zm (.z (zfa eD) (.y hs (zld ae) (.z cq (.z zg (.nil (.region (.z zm (.z (zfa eD) ?_)))))))))
     refine .y hs (zld ae) (.z (zfa fV) (.y hs (zld ae) (.z ka ?_)))
     refine .q hs (z6 rfl rfl) ?_
     rw [pE]
     refine .z zg (.nil ?_)
     refine nB (nT ?_)
     exact .mk ⟨rfl,D.set (ul s us k).A.toNat (gi D (ul s us k).A.toNat - (gu us k).t),⟨by rw [List.length_set];exact hD1,fun v hv=>by
      have hst:nF s us (k+1) v=nF s us k v+(gu us k).t*(ind (ul s us k).B.toNat v - ind (ul s us k).A.toNat v):=rfl
      rw [eu aj,hst,←hC2 v hv]
      by_cases e1:v=(ul s us k).A.toNat
      ·have i1:ind (ul s us k).A.toNat v=1:=by unfold ind;rw [if_pos e1.symm]
       have i2:ind (ul s us k).B.toNat v=0:=by unfold ind;rw [if_neg aj]
       rw [if_pos e1,hgD,i1,i2,e1];omega
      ·have i1:ind (ul s us k).A.toNat v=0:=by unfold ind;rw [if_neg aj]
       rw [if_neg e1,hD2,i1]
       by_cases e2:v=(ul s us k).B.toNat
       ·have i2:ind (ul s us k).B.toNat v=1:=by unfold ind;rw [if_pos e2.symm]
        rw [if_pos e2,i2,e2];omega
       ·have i2:ind (ul s us k).B.toNat v=0:=by unfold ind;rw [if_neg aj]
        rw [if_neg e2,i2];omega⟩,hUs',aj,hs.sb⟩ (hs:= .cons rfl (.cons rfl (.cons rfl (.cons rfl (.cj rfl hts.symm (.cj rfl (by rw [hbs]) aR))))))
  ·rintro fr w ⟨rfl,C,⟨hC1,hC2⟩,hUs,hTm,hs⟩
   have hlen:us.length≤400:=by omega
   obtain ⟨H1,hle1,hRow,hs⟩:=hs.cK (b:=b20) (c:=Is C) .here
   have hRC:RI H1 (.slice (some ⟨b20,0,none⟩) s.n s.n) C:=by
    have:=Row.RI (xs:=C) (spare:=[]) (by simpa using hRow) s.n aj aj
    rwa [hC1] at this
   have hRT:=RI.tail hRC (k:=1) (by have:=s.tF;omega)
   have hWT:=RI.tail (hrw.mono hle1) (k:=1) (by have:=s.tF;omega)
   have hbd:=sX hok hUs
   have heq:C.drop 1=ws.drop 1↔∀v,1≤v→v<s.n→nF s us us.length v=gi ws v:=by
    constructor
    ·intro h v h1 h2
     rw [←hC2 v h2]
     have:=congrArg (fun l=>gi l (v - 1)) h
     simpa [gi,List.getD,show 1+(v - 1)=v by omega,show v - 1+1=v by omega] using this
    ·intro h
     refine wv (by simp [hC1,hwl]) fun k hk=>?_
     have hk':k+1<s.n:=by simp at hk;omega
     have:=h (k+1) aj hk'
     rw [←hC2 _ hk'] at this
     simpa [gi,List.getD,Nat.add_comm] using this
   refine nT ?_
   refine .seq (.draw mix rfl hs fun w hs=>?_)
   refine .z 0 rfl zm ?_;refine .z 1 rfl uO ?_;refine .z 2 rfl zm ?_
   refine .iB (t':=97) rfl (fun hb97=>?_) (fun hb97=>?_)
   ·refine .z 3 rfl zm ?_
    refine .z 4 rfl (nD (k:=1) rfl rfl aa af rfl (by have:=s.tF;omega)) ?_
    refine .z 5 rfl zm ?_
    refine .z 6 rfl (nD (k:=1) rfl rfl aa af rfl (by have:=s.tF;omega)) ?_
    refine .E 7 hs ?_
    refine .call Tryz.call267 rfl (so hs hRT hWT) ?_;rintro _ w ⟨rfl,hs⟩
    refine .go ?_
    refine .z 8 rfl zpT ?_;refine .z 9 rfl zm ?_
    refine .bif (t':=104) rfl (fun hb104=>?_) (fun hb104=>?_)
    ·refine .z 10 rfl zm ?_;refine .z 11 rfl (zfa ee) ?_;refine .y 12 rfl hs ae ?_;refine .z 13 rfl gC ?_;refine .z 14 rfl zpT ?_;refine .z 15 rfl zg ?_;refine .D hs ?_
     refine .ret (Fin.bJ Aw rfl ?_)
     exact ⟨H1,_,hle1,rfl,by
      first
       |exact ⟨fun h=>(by cases h),fun h=>(hb97 h.tot).elim⟩
       |exact ⟨fun h=>(by cases h),fun h=>by have:=heq.2 h.into;simp_all⟩
       |(rw [ji aj]
         have he:C.drop 1=ws.drop 1:=by simpa using hb104
         exact ⟨fun h=>⟨hlen,hUs,hb97,heq.1 he,of_decide_eq_true h⟩,fun h=>decide_eq_true h.bound⟩),hs.out⟩
    ·refine .qF (i:=10) rfl an rfl rfl ?_
     refine .qF (i:=11) rfl an rfl rfl ?_
     refine .qF (i:=12) rfl an rfl rfl ?_
     refine .qF (i:=13) rfl an rfl rfl ?_
     refine .z 14 rfl zpF ?_;refine .z 15 rfl zg ?_;refine .D hs ?_
     refine .ret (Fin.bJ Aw rfl ?_)
     exact ⟨H1,_,hle1,rfl,by
      first
       |exact ⟨fun h=>(by cases h),fun h=>(hb97 h.tot).elim⟩
       |exact ⟨fun h=>(by cases h),fun h=>by have:=heq.2 h.into;simp_all⟩
       |(rw [ji aj]
         have he:C.drop 1=ws.drop 1:=by simpa using hb104
         exact ⟨fun h=>⟨hlen,hUs,hb97,heq.1 he,of_decide_eq_true h⟩,fun h=>decide_eq_true h.bound⟩),hs.out⟩
   ·refine .qF (i:=3) rfl an rfl rfl ?_
    refine .qF (i:=4) rfl an rfl rfl ?_
    refine .qF (i:=5) rfl an rfl rfl ?_
    refine .qF (i:=6) rfl an rfl rfl ?_
    refine .qF (i:=7) rfl an rfl rfl ?_
    refine .z 8 rfl zpF ?_;refine .z 9 rfl zm ?_
    refine .qF (i:=10) rfl an rfl rfl ?_
    refine .qF (i:=11) rfl an rfl rfl ?_
    refine .qF (i:=12) rfl an rfl rfl ?_
    refine .qF (i:=13) rfl an rfl rfl ?_
    refine .z 14 rfl zpF ?_;refine .z 15 rfl zg ?_;refine .D hs ?_
    refine .ret (Fin.bJ Aw rfl ?_)
    exact ⟨H1,_,hle1,rfl,by
     first
      |exact ⟨fun h=>(by cases h),fun h=>(hb97 h.tot).elim⟩
      |exact ⟨fun h=>(by cases h),fun h=>by have:=heq.2 h.into;simp_all⟩
      |(rw [ji aj]
        have he:C.drop 1=ws.drop 1:=by simpa using hb104
        exact ⟨fun h=>⟨hlen,hUs,hb97,heq.1 he,of_decide_eq_true h⟩,fun h=>decide_eq_true h.bound⟩),hs.out⟩
theorem nU{v vw vp:Value}{s:cM}{ws:List Int}{n:Int}{us:List Use}(hs:St H w σ)(hr:RSy H v s)(hrw:RI H vw ws)(hp:RPf H vp n us):
  Cl Tryz.prog 156 [v,vw,vp] w fun v w'=>∃H1 e,HLe H H1∧v=I e∧vA s ws n us e∧St H1 w' σ:=by
 obtain ⟨u,rfl,hr⟩:=hr
 obtain ⟨al,cl,rfl⟩:=RL.shape hr
 obtain ⟨aw,cw,rfl⟩:=RI.shape hrw
 obtain ⟨uu,rfl,hU⟩:=hp
 obtain ⟨au,cu,rfl⟩:=RU.shape hU
 refine Cl.o Tryz.func156 Tryz.ntmps156 ag3 ?_
 refine .ai ?_
 refine .bx hs fun b3 w hs=>?_
 refine .bx hs fun b5 w hs=>?_
 refine .z zg (.nil (.seq (.ai (.y hs (zls [_,_] aT aE) (.z zm ?_)))))
 refine .o (.call Tryz.call219 rfl (jt (s:=s) hs ⟨_,rfl,hr⟩ hrw) ?_);rintro _ w ⟨rfl,hs⟩
 refine .z zg (.nil (.ai (.z zm (.z ij (.nil ?_)))))
 refine (.eQ rfl (fun hc12=>?_) (fun hc12=>?_))
 ·refine .ai (.z zm (.z zg (.nil ?_)))
  refine .ret (rT (Fin.bJ Tryz.results156 rfl ?_))
  exact ⟨H,_,HLe.refl H,rfl,.ask hc12,hs.out⟩
 ·refine .skip ?_
  refine nT ?_
  refine .seq (.ai (.y hs (zls [_,_] aT aE) (.z zm (.y hs (zls [_,_] cE a8) ?_))))
  have hA:dT s ws=0:=by simpa using hc12
  refine .o (.call Tryz.call220 rfl (qH (s:=s) (n:=n) (us:=us) hs ⟨_,rfl,hr⟩ hrw ⟨_,rfl,hU⟩ hA) ?_);rintro _ w ⟨H1,b,hle1,rfl,hb,hs⟩
  refine .z ir (.nil ?_)
  refine (.cond rfl (fun hc18=>?_) (fun hc18=>?_))
  ·refine .ai (.z zg (.nil ?_))
   refine .ret (rT (Fin.bJ Tryz.results156 rfl ?_))
   exact ⟨H1,_,hle1,rfl,.bad hA (fun h=>by rw [hb.2 h] at hc18;cases hc18),hs.out⟩
  ·refine .skip ?_
   refine nT ?_
   refine .ai (.z zg (.nil ?_))
   refine .ret (Fin.bJ Tryz.results156 rfl ?_)
   exact ⟨H1,_,hle1,rfl,.ok hA (hb.1 (by simpa using hc18)),hs.out⟩
theorem kZ{v:Value}{l:List Int}{en:Ent}(hs:St H w (en::σ))(ho:cn 1 v (Is l) en)(hl:l.length≤1000000):
  Cl Tryz.prog 128 [v] w fun _ w'=>∃en',cn 1 v (Is l.reverse) en'∧St H w' (en'::σ):=by
 rcases ho with ⟨a,rfl,h2,rfl⟩|⟨b,len,cap,sp,rfl,rfl,h2,h3,h4⟩
 ·obtain rfl:l=[]:=by
   have:=congrArg List.length h2
   exact List.length_eq_zero_iff.1 (by simpa using this)
  have hs:=hs.tail
  refine Cl.o Tryz.func128 Tryz.ntmps128 ag1 ?_
  refine .ai (.z zm (.z (c9 aa) (.z gW (.z zg (.z zg (.nil (.block ?_)))))))
  refine .loop (fun _:Unit=>⟨28,[],[(2,I 0),(3,I (-1))]⟩) (fun _ w=>St H w σ) (fun _=>0) () aR hs ?_
  rintro _ w hs
  refine .seq (.ai (.z zm (.z zm (.z gx (.nil ?_)))))
  refine (.bM rfl (fun hc9=>?_) (fun hc9=>?_))
  ·omega
  ·refine .exit ?_
   refine xT (xT (xB ?_))
   exact Fin.xV Tryz.results128 ⟨.nul,.nil 1 a,hs.nul⟩
 obtain rfl:len=l.length:=by simpa using h2.symm
 refine Cl.o Tryz.func128 Tryz.ntmps128 ag1 ?_
 refine .ai (.z zm (.z (c9 aa) (.z gW (.z zg (.z zg (.nil (.block ?_)))))))
 refine .loop (fun p:Nat×List Int=>⟨28,[],[(2,I p.1),(3,I ((l.length:Int) - 1 - p.1)),(0,.slice (some ⟨b,0,none⟩) l.length cap)]⟩) (fun p w=>(2*p.1≤l.length+1∧nY l p.2 p.1)∧St H w (.blk b (Is p.2++sp)::σ)) (fun p=>l.length - p.1) (0,l) (.cons rfl (.cj rfl bV (.cons rfl (.nil rfl rfl)))) ⟨⟨bV,.start l⟩,hs⟩ ?_
 rintro ⟨i,L⟩ w ⟨⟨h5,h6⟩,hs⟩
 dsimp only at h5 h6 hs ⊢
 have hL:=h6.1
 refine .seq (.ai (.z zm (.z zm (.z gx (.nil ?_)))))
 refine (.bM rfl (fun hc9=>?_) (fun hc9=>?_))
 ·refine .skip ?_
  refine nT ?_
  refine .seq (.block ?_)
  refine .draw mix rfl hs fun w hs=>?_
  refine .z 0 rfl zm ?_;refine .z 1 rfl zm ?_;refine .z 2 rfl zm ?_;refine .z 3 rfl zm ?_;refine .z 4 rfl zm ?_;refine .z 5 rfl zm ?_
  refine .z 6 rfl (dG (k:=l.length - 1 - i) rfl rfl aa af aj aj) ?_
  refine .load (i:=7) hs rfl an .none rfl ae ?_ (hv:=fQ aj sp)
  refine .z 8 rfl zm ?_;refine .z 9 rfl zm ?_
  first|(refine .ixv 10 rfl hs aa af ?_;intro b24 o24 hc24)|refine .z 10 rfl (zix aa af) ?_
  refine .load (i:=11) hs rfl an .none rfl ae ?_ (hv:=fQ aj sp)
  first|(refine .ixv 12 rfl hs aa af ?_;intro b26 o26 hc26)|refine .z 12 rfl (zix aa af) ?_
  refine .E 13 hs ?_
  refine .store hs rfl rfl af ?_ cZ (by simp;omega) (iH aj sp _);intro w hs
  refine .go ?_
  refine .z 14 rfl (dG (k:=l.length - 1 - i) rfl rfl aa af aj aj) ?_
  refine .E 15 hs ?_
  refine .store hs rfl rfl af ?_ cZ (by simp;omega) (iH (by simp;omega) sp _);intro w hs
  refine .go ?_
  refine .D hs ?_
  refine nB (nT ?_)
  refine .region (.z zm (.z cq (.z zm (.z gW (.z zg (.z zg (.nil ?_)))))))
  refine nT ?_
  exact ⟨(i+1,_),.cons rfl (.cj rfl (by push_cast;omega) (.cons rfl (.nil rfl rfl))),⟨⟨by dsimp only;omega,h6.step aj⟩,hs⟩,by dsimp only;omega⟩
 ·refine .exit ?_
  refine xT (xT (xB ?_))
  rw [h6.done aj] at hs
  exact Fin.xV Tryz.results128 ⟨_,.inr ⟨b,l.length,cap,sp,rfl,rfl,bV,by rw [←h3];simp,h4⟩,hs⟩
inductive EO(s:cM)(xs:List Int):Int→Prop
 |bad (h:s.check≠0) (h1:xs=[]):EO s xs s.check
 |sound (h:s.Ok) (h1:s.Sound) (h2:xs=[]):EO s xs 0
 |chain {st:BS} {x:Arc} {z k:Nat} (h:s.Ok) (h1:¬s.Sound) (h2:FJ s.n s.dh st (some x)) (h3:z=pw st.by_ x.t (s.n+1)) (h4:1≤k) (h5:k≤s.n) (h6:pw st.by_ z k=z) (h7:xs=(wj st.by_ z k).reverse):EO s xs 0
theorem EO.AM{s:cM}{xs:List Int}(h:EO s xs 0):xs=[]↔s.Sound:=by
 generalize hz:(0:Int)=y at h
 cases h with
 |bad h=>exact (h hz.symm).elim
 |sound _ h1 h2=>exact ⟨fun _=>h1,fun _=>h2⟩
 | @chain st x z k _ h1 _ _ h4 _ _ h7=>exact ⟨fun h=>by
   have:=congrArg List.length (h7.symm.trans h)
   rw [List.length_reverse,nG] at this
   simp at this;omega,fun h=>(h1 h).elim⟩
set_option maxHeartbeats 4000000 in
theorem sA{v:Value}{s:cM}(hs:St H w σ)(hr:RSy H v s):
  Cl Tryz.prog 51 [v] w fun u w'=>∃H1 vx xs e,HLe H H1∧u= .tuple #[vx,I e]∧RI H1 vx xs∧EO s xs e∧St H1 w' σ:=by
 obtain ⟨u,rfl,hr⟩:=hr
 obtain ⟨al,cl,rfl⟩:=RL.shape hr
 refine Cl.o Tryz.func51 Tryz.ntmps51 ag1 ?_
 refine .ai ?_
 refine .bx hs fun b1 w hs=>?_
 refine .z zg (.z zg (.nil (.seq (.ai (.y hs (zls [_,_] aT aE) ?_)))))
 refine .o (.call Tryz.call125 rfl (kj (s:=s) hs ⟨_,rfl,hr⟩) ?_);rintro _ w ⟨rfl,hs⟩
 refine .z zg (.nil (.ai (.z zm (.z ij (.nil ?_)))))
 refine (.eQ rfl (fun hc14=>?_) (fun hc14=>?_))
 ·refine .ai (.z zm (.z zg (.z zg (.nil ?_))))
  refine .ret (rT (Fin.nh Tryz.results51 rfl rfl ?_))
  exact ⟨H,_,[],_,HLe.refl H,rfl,RS.nil H 1 none 0,.bad hc14 rfl,hs.out⟩
 ·refine .skip ?_
  refine nT ?_
  refine .seq (.draw mix rfl hs fun w hs=>?_)
  refine .z 0 rfl (zfa bH) ?_;refine .y 1 rfl hs ae ?_;refine .ys 2 rfl hs [_,_] aT aE ?_
  refine .E 3 hs ?_
  have hok:s.Ok:=s.dt.1 (by simpa using hc14)
  have hoka:=hok.dh
  have hn:s.n=s.many.toNat+1:=rfl
  have hm0:=hok.m0
  have hm1:=hok.m1
  refine .call Tryz.call127 rfl (kg (s:=s) hs hok ⟨_,rfl,hr⟩) ?_;rintro _ w ⟨H1,b10,hle1,rfl,hit,hs⟩
  refine .go ?_
  refine .E 4 hs ?_
  have hnear:=ln (N:=s.many.toNat) hs aj (by rw [←hn];exact hoka) hit Tryz.call203
  rw [Int.toNat_of_nonneg hm0] at hnear
  refine .call Tryz.call126 rfl hnear ?_;rintro _ w ⟨H2,bc,bb,st,ov,vo,hle2,rfl,hov,hnr,hs⟩
  obtain ⟨a',rfl,ha'⟩:=hov.ptr
  refine .go ?_
  refine .z 5 rfl zm ?_;refine .z 6 rfl zex ?_;refine .z 7 rfl zex ?_;refine .z 8 rfl zex ?_;refine .z 9 rfl zg ?_;refine .z 10 rfl zg ?_;refine .z 11 rfl zg ?_;refine .D hs ?_
  refine .seq (.ai (.z zm ?_))
  refine .q hs (A0 rfl rfl Tryz.runUnderlying183) ?_
  refine .nil ?_
  refine (.cond rfl (fun hc26=>?_) (fun hc26=>?_))
  ·refine .ai (.z zg (.z zg (.nil ?_)))
   refine .ret (rT (Fin.nh Tryz.results51 rfl rfl ?_))
   exact ⟨H2,_,[],0,hle1.trans hle2,rfl,RS.nil H2 1 none 0,.sound hok (by
    obtain ⟨r,hN2,hr2⟩:=hnr
    cases ov with
    |none=>exact ⟨_,(hN2.sol (by rw [←hn];exact hoka) aj).1⟩
    |some x=>rw [ha'] at hc26;cases hc26) rfl,hs.out⟩
  ·refine .skip ?_
   refine nT ?_
   refine .ai (.z zm ?_)
   obtain ⟨x,rfl⟩:=OvR.yes ha' hc26
   obtain ⟨b3,e3,hrow⟩:=hov
   cases e3
   have hrowT:cellAt H2 b3 1=some (I x.t):=hrow.at 1
   have hmn:s.many+2=((s.many.toNat+2:Nat):Int):=by omega
   have hns:¬s.Sound:=by
    obtain ⟨r,hN2,hr2⟩:=hnr
    exact hN2.none (by rw [←hn];exact hoka) aj (by have:=hr2 bV;omega)
   obtain ⟨hlb,hrg,hxt⟩:st.by_.length=s.many.toNat+1∧(∀v<s.many.toNat+1,(ga st.by_ v).f<s.many.toNat+1)∧x.t<s.many.toNat+1:=by
    obtain ⟨r,hN2,hr2⟩:=hnr
    exact ⟨hN2.lb,fun v hv=>(hN2.rg v hv).1,(hoka.2 x (hN2.ovm x rfl)).2.1⟩
   have hpl:=fun k=>vZ hrg hxt k
   refine .z znc (.z (zfa dz) ?_)
   refine .q hs (aK rfl ae hrowT) ?_
   refine .z zg (.nil (.seq (.ai (.z (zfa bH) (.y hs (zld ae) (.z cq ?_))))))
   rw [hmn]
   refine .z zm (.nil ?_)
   refine .for (N:=s.many.toNat+2) (J:=fun k fr w=>fr=[(8,I (pw st.by_ x.t k)),(6,.slice (some ⟨bb,0,none⟩) (s.many.toNat+1) (s.many.toNat+1))]∧St H2 w (.blk bc (Is st.cost):: .blk bb (jw st.by_):: .blk b1 [I s.many,.slice al s.cO.length cl]::σ)) aj ?_ ?_ ?_
   ·exact .mk ⟨rfl,hs⟩
   ·rintro k fr w hk ⟨rfl,hs⟩
    refine .block (.region (.z zm (.z zm ?_)))
    refine .q hs (uZ (k:=pw st.by_ x.t k) rfl rfl aD aJ rfl (hpl k)) ?_
    refine .z (zfa dp) ?_
    refine .q hs (dS rfl ae (.there .here) (qS (j:=0) (by rw [hlb];exact hpl k) gq)) ?_
    refine .z zg (.nil ?_)
    refine nB (nT ?_)
    exact .mk ⟨rfl,hs.out⟩
   ·rintro fr w ⟨rfl,hs⟩
    obtain ⟨pd,hp1,hp2,hp3⟩:=Ac hrg hxt (m:=s.many.toNat+2) aj
    have hzl:=hpl (s.many.toNat+2)
    generalize hz:pw st.by_ x.t (s.many.toNat+2)=z at hp3 hzl ⊢
    have hzk:=fun k=>vZ hrg hzl k
    refine nT ?_
    refine .ai (.z zg (.nil (.seq (.ai (.z zm (.z zg (.nil (.block ?_))))))))
    refine .loop (fun p:Nat×Value=>⟨62,[],[(9,p.2),(8,I (pw st.by_ z p.1)),(10,I z),(6,.slice (some ⟨bb,0,none⟩) (s.many.toNat+1) (s.many.toNat+1))]⟩)
     (fun p w=>p.1<pd∧∃en,cn 1 p.2 (Is (wj st.by_ z p.1)) en∧St H2 w (en:: .blk bc (Is st.cost):: .blk bb (jw st.by_):: .blk b1 [I s.many,.slice al s.cO.length cl]::σ))
     (fun p=>pd - p.1) (0,.slice none 0 0) aR
     ⟨aj,_,.nil 1 none,hs.nul⟩ ?_
    rintro ⟨k,v9⟩ w ⟨hk,en,hO,hs⟩
    dsimp only at hk hO ⊢
    refine .block (.ai (.z zm (.z zm (.z zm ?_))))
    refine .q hs (uZ (k:=pw st.by_ z k) rfl rfl aD aJ rfl (hzk k)) ?_
    refine .z (zfa dZ) ?_
    refine .q hs (dS rfl ae (.there (.there .here)) (qS (j:=3) (by rw [hlb];exact hzk k) gq)) ?_
    refine .o (.buildSlice (cells:=[_]) hs dv rfl rfl fun b49 w hs=>?_)
    refine .o (.append (ys:=[I (ga st.by_ (pw st.by_ z k)).l]) hs cV rfl rfl hO (.own .here rfl rfl) (by simp [Value.oneCell']) (fun l' h=>by simp [wj] at h;omega) ?_);intro v50 en50 w hO2 hs
    refine .z zg (.nil (.ai (.z zm (.z zm ?_))))
    refine .q hs (uZ (k:=pw st.by_ z k) rfl rfl aD aJ rfl (hzk k)) ?_
    refine .z (zfa dp) ?_
    refine .q hs (dS rfl ae (by repeat (first|exact .here|refine .there ?_)) (qS (j:=0) (by rw [hlb];exact hzk k) gq)) ?_
    refine .z zg (.nil (.ai (.z zm (.z zm (.z gC (.nil ?_))))))
    refine (.bM rfl (fun hc58=>?_) (fun hc58=>?_))
    ·refine .exit ?_
     refine xN (xT (xB (nT ?_)))
     refine .ai (.z zm ?_)
     have hO3:cn 1 v50 (Is (wj st.by_ z (k+1))) en50:=by rw [ve];simpa [Is] using hO2
     have hkz:pw st.by_ z (k+1)=z:=by
      have h3:((ga st.by_ (pw st.by_ z k)).f:Int)=z:=by simpa using hc58
      show (ga st.by_ (pw st.by_ z k)).f=z
      omega
     refine .o (.call Tryz.call128 rfl (kZ hs hO3 (by rw [nG];omega)) ?_);rintro _ w ⟨en',hO4,hs⟩
     refine .nil (.ai (.z zm (.z zg (.z zg (.nil ?_)))))
     refine .ret (Fin.nh Tryz.results51 rfl rfl ?_)
     obtain ⟨H3,hle3,hRI,hs⟩:=cn.dI hO4 (by rw [List.length_reverse,nG];omega) hs .here
     exact ⟨H3,_,_,0,hle1.trans (hle2.trans hle3),rfl,hRI,.chain hok hns (by rw [hn];exact hnr) (by rw [hn];exact hz.symm) aj aj hkz rfl,hs.sb⟩
    ·refine .skip ?_
     refine nB (nT ?_)
     exact ⟨(k+1,v50),aR,⟨by
      dsimp only
      have:k+1≠pd:=fun e=>hc58 (congrArg (Nat.cast:Nat→Int) (show pw st.by_ z (k+1)=z by rw [e];exact hp3))
      omega,en50,by rw [ve];simpa [Is] using hO2,hs.sb⟩,by dsimp only;omega⟩
theorem mM{v:Value}{s:cM}(hs:St H w σ)(hr:RSy H v s):
  Cl Tryz.prog 210 [v] w fun u w'=>∃H1 vt e,HLe H H1∧u= .tuple #[vt,I e]∧((s.check≠0∧e=s.check∧vt= .slice none 0 0)∨(s.Ok∧¬s.Sound∧e=23∧vt= .slice none 0 0)∨(s.Ok∧s.Sound∧e=0∧∃rs,RT H1 vt rs∧Sq s.n rs∧iR s.n s.dh (gt rs)))∧St H1 w' σ:=by
 obtain ⟨ul,rfl,hl⟩:=hr
 obtain ⟨al,cl,rfl⟩:=RL.shape hl
 refine Cl.o Tryz.func210 Tryz.ntmps210 ag1 ?_
 refine .ai ?_
 refine .bx hs fun b1 w hs=>?_
 refine .z zg (.z zg (.nil (.ai (.y hs (zls [_,_] aT aE) ?_))))
 refine .o (.call Tryz.call182 rfl (mN (s:=s) hs ⟨_,rfl,hl⟩) ?_);rintro _ w ⟨rfl,hs⟩
 refine .z zg (.nil (.seq (.ai (.z zm (.z ij (.nil ?_))))))
 refine (.eQ rfl (fun hc9=>?_) (fun hc9=>?_))
 ·refine .ai (.z zm (.z zg (.z zg (.nil ?_))))
  refine .ret (rT (Fin.nh Tryz.results210 rfl rfl ?_))
  exact ⟨H,_,_,HLe.refl H,rfl,.inl ⟨hc9,rfl,rfl⟩,hs.out⟩
 ·refine .skip ?_
  refine nT ?_
  refine .ai (.y hs (zls [_,_] aT aE) ?_)
  have hok:s.Ok:=s.dt.1 (by simpa using hc9)
  have hm1:=hok.m1
  refine .o (.call Tryz.call226 rfl (nz (s:=s) hs ⟨_,rfl,hl⟩ hok) ?_);rintro v12 w ⟨H1,rs,hle1,hRT,hSq,hWT,hs⟩
  obtain ⟨at',ct,rfl⟩:=hRT.shape
  refine .z zg (.nil (.seq (.ai (.z zm ?_))))
  refine .o (.call Tryz.call233 rfl (mL hs hRT hSq (by simp only [cM.n];omega)) ?_);rintro _ w ⟨b,rfl,hb,hs⟩
  have hbs:=hb.trans (uV hok hWT).symm
  refine .z ir (.nil ?_)
  refine (.cond rfl (fun hc15=>?_) (fun hc15=>?_))
  ·refine .ai (.z zg (.z zg (.nil ?_)))
   refine .ret (rT (Fin.nh Tryz.results210 rfl rfl ?_))
   exact ⟨H1,_,_,hle1,rfl,.inr (.inl ⟨hok,fun h=>by simp [hbs.2 h] at hc15,rfl,rfl⟩),hs.out⟩
  ·refine .skip ?_
   refine nT ?_
   refine .ai (.z zm (.z zg (.z zg (.nil ?_))))
   refine .ret (Fin.nh Tryz.results210 rfl rfl ?_)
   exact ⟨H1,_,_,hle1,rfl,.inr (.inr ⟨hok,hbs.1 (by simpa using hc15),rfl,rs,hRT,hSq,hWT⟩),hs.out⟩
end Go.Proofs.YtddaejgfjlneoaaGreat
namespace Go.Proofs
open Go.Shelf
def Tryz.yv:Go.Shelf.Ren:=⟨fun|189=>138|125=>209|257=>208|128=>262|129=>263|294=>253|295=>254|296=>255|297=>256|298=>257|299=>258|216=>259|300=>260|301=>261|328=>282|329=>283|330=>284|331=>285|332=>286|215=>287|343=>296|n=>n,fun|28=>22|3=>3|46=>250|0=>0|51=>285|53=>287|4=>4|183=>279|182=>278|131=>282|5=>5|9=>9|218=>304|222=>308|228=>318|229=>275|n=>n,fun|n=>n⟩
theorem Tryz.Bk:Go.Proofs.Lays.n189 Tryz.prog Tryz.yv:={
 mixed:=by kernel_rfl
 f125:=Tryz.func209.trans (congrArg some (by kernel_rfl))
 f128:=Tryz.func262.trans (congrArg some (by kernel_rfl))
 f129:=Tryz.func263.trans (congrArg some (by kernel_rfl))
 f189:=Tryz.func138.trans (congrArg some (by kernel_rfl))
 f215:=Tryz.func287.trans (congrArg some (by kernel_rfl))
 f216:=Tryz.func259.trans (congrArg some (by kernel_rfl))
 f257:=Tryz.func208.trans (congrArg some (by kernel_rfl))
 f294:=Tryz.func253.trans (congrArg some (by kernel_rfl))
 f295:=Tryz.func254.trans (congrArg some (by kernel_rfl))
 f296:=Tryz.func255.trans (congrArg some (by kernel_rfl))
 f297:=Tryz.func256.trans (congrArg some (by kernel_rfl))
 f298:=Tryz.func257.trans (congrArg some (by kernel_rfl))
 f299:=Tryz.func258.trans (congrArg some (by kernel_rfl))
 f300:=Tryz.func260.trans (congrArg some (by kernel_rfl))
 f301:=Tryz.func261.trans (congrArg some (by kernel_rfl))
 f328:=Tryz.func282.trans (congrArg some (by kernel_rfl))
 f329:=Tryz.func283.trans (congrArg some (by kernel_rfl))
 f330:=Tryz.func284.trans (congrArg some (by kernel_rfl))
 f331:=Tryz.func285.trans (congrArg some (by kernel_rfl))
 f332:=Tryz.func286.trans (congrArg some (by kernel_rfl))
 f343:=Tryz.func296.trans (congrArg some (by kernel_rfl))
 t0:=Tryz.underlying0
 a0:=Tryz.isAgg0
 z0:=Tryz.sizeOf0
 v0:=Tryz.zeroValue0
 t3:=Tryz.underlying3
 a3:=Tryz.isAgg3
 z3:=Tryz.sizeOf3
 v3:=Tryz.zeroValue3
 t4:=Tryz.underlying4
 a4:=Tryz.isAgg4
 z4:=Tryz.sizeOf4
 v4:=Tryz.zeroValue4
 t5:=Tryz.underlying5
 a5:=Tryz.isAgg5
 z5:=Tryz.sizeOf5
 v5:=Tryz.zeroValue5
 t9:=Tryz.underlying9
 a9:=Tryz.isAgg9
 z9:=Tryz.sizeOf9
 v9:=Tryz.zeroValue9
 t28:=Tryz.underlying22
 a28:=Tryz.isAgg22
 z28:=Tryz.sizeOf22
 v28:=Tryz.zeroValue22
 t46:=Tryz.underlying250
 a46:=Tryz.isAgg250
 z46:=Tryz.sizeOf250
 v46:=Tryz.zeroValue250
 t51:=Tryz.underlying285
 a51:=Tryz.isAgg285
 z51:=Tryz.sizeOf285
 v51:=Tryz.zeroValue285
 t53:=Tryz.underlying287
 a53:=Tryz.isAgg287
 z53:=Tryz.sizeOf287
 v53:=Tryz.zeroValue287
 t131:=Tryz.underlying282
 a131:=Tryz.isAgg282
 z131:=Tryz.sizeOf282
 v131:=Tryz.zeroValue282
 t182:=Tryz.underlying278
 a182:=Tryz.isAgg278
 z182:=Tryz.sizeOf278
 v182:=Tryz.zeroValue278
 t183:=Tryz.underlying279
 a183:=Tryz.isAgg279
 z183:=Tryz.sizeOf279
 v183:=Tryz.zeroValue279
 t218:=Tryz.underlying304
 a218:=Tryz.isAgg304
 z218:=Tryz.sizeOf304
 v218:=Tryz.zeroValue304
 t222:=Tryz.underlying308
 a222:=Tryz.isAgg308
 z222:=Tryz.sizeOf308
 v222:=Tryz.zeroValue308
 t228:=Tryz.underlying318
 a228:=Tryz.isAgg318
 z228:=Tryz.sizeOf318
 v228:=Tryz.zeroValue318
 t229:=Tryz.underlying275
 a229:=Tryz.isAgg275
 z229:=Tryz.sizeOf275
 v229:=Tryz.zeroValue275}
def Tryz.xl:Go.Shelf.Ren:=⟨fun|20=>139|n=>n,fun|22=>22|3=>3|4=>4|0=>0|n=>n,fun|n=>n⟩
theorem Tryz.zc:Go.Proofs.Lays2.n20 Tryz.prog Tryz.xl:={
 mixed:=by kernel_rfl
 f20:=Tryz.func139.trans (congrArg some (by kernel_rfl))
 t0:=Tryz.underlying0
 a0:=Tryz.isAgg0
 z0:=Tryz.sizeOf0
 v0:=Tryz.zeroValue0
 t3:=Tryz.underlying3
 a3:=Tryz.isAgg3
 z3:=Tryz.sizeOf3
 v3:=Tryz.zeroValue3
 t4:=Tryz.underlying4
 a4:=Tryz.isAgg4
 z4:=Tryz.sizeOf4
 v4:=Tryz.zeroValue4
 t22:=Tryz.underlying22
 a22:=Tryz.isAgg22
 z22:=Tryz.sizeOf22
 v22:=Tryz.zeroValue22
 i3:=by kernel_rfl}
end Go.Proofs
namespace Go.Proofs.YtddaejgfjlneoaaGreat
open Go.Sort Go.RowKit
theorem Ck(blk off cap:Nat)(zs:List Int)(w:World)(hH:Holds (Value.int .i64) w blk off zs.toArray)(hblk:blk<w.heap.size)(hsz:zs.length<4611686018427387904):
  Calls Tryz.prog 138 #[.slice (some ⟨blk,off,none⟩) zs.length cap] w fun e w'=>e= .returned (.tuple #[])∧∃n os,w'=grow (putRow (Value.int .i64) (Sort.ahead w n) blk off (zs.mergeSort fun x y=>decide (x≤y)).toArray) os:=
 Any.slices_Sort_int Tryz.Bk blk off cap zs w hH hblk hsz
theorem vQ(p:Option Addr)(cap:Nat)(w:World):Calls Tryz.prog 138 #[.slice p 0 cap] w fun e w'=>e= .returned (.tuple #[])∧w'=w:=
 Any.slices_Sort_int_none Tryz.Bk p cap w
theorem yf(blk off cap:Nat)(zs:List Int)(w:World)(hH:Holds (Value.int .i64) w blk off zs.toArray)(hsz:zs.length≤9223372036854775807)(hcap:zs.length≤cap):
  Calls Tryz.prog 139 #[.slice (some ⟨blk,off,none⟩) zs.length cap] w fun e w'=>e= .returned (.slice (some ⟨blk,off,none⟩) (Lib.compact zs).length cap)∧∃q,w'=putRow (Value.int .i64) (Sort.ahead w q) blk off (Lib.compact zs++List.replicate (zs.length - (Lib.compact zs).length) 0).toArray:=
 Any.slices_Compact_int Tryz.zc blk off cap zs w hH hsz hcap
theorem sj(p:Option Addr)(cap:Nat)(w:World):Calls Tryz.prog 139 #[.slice p 0 cap] w fun e w'=>e= .returned (.slice p 0 cap)∧w'=w:=
 Any.slices_Compact_int_empty Tryz.zc p cap w
end Go.Proofs.YtddaejgfjlneoaaGreat
namespace Go.Proofs.YtddaejgfjlneoaaGreat
open Go.MW
variable{H:cf}{w:World}{σ:List Ent}
theorem sn{v:Value}{ls:List Int}{x:Int}(hs:St H w σ)(hr:RI H v ls):
  Cl Tryz.prog 205 [v,I x] w fun u w'=>∃i,u=I i∧(0≤i↔x∈ls)∧St H w' σ:=by
 obtain ⟨a,c,rfl⟩:=RI.shape hr
 have hl:=(RI.len hr).2.2
 refine Cl.o Tryz.func205 Tryz.ntmps205 ag2 ?_
 refine .ai (.z zg (.nil (.seq (.ai (.z zm (.z (c9 aa) (.z zm (.nil ?_))))))))
 refine .for (N:=ls.length) (J:=fun k fr w=>fr=[(1,I x),(0,.slice a ls.length c)]∧St H w σ∧∀j<k,∀y,ls[j]? =some y→¬x=y) aj ?_ ?_ ?_
 ·exact .mk ⟨rfl,hs,fun j hj=>by omega⟩
 ·rintro k fr w hk ⟨rfl,hs,hno⟩
  obtain ⟨y,hy⟩:=nth hk
  refine .block (.ai (.z zm (.z zg (.nil (.ai (.z zm (.z zm (.z zm ?_))))))))
  refine .ixY hs hr rfl rfl aa af hy rfl ?_;intro b14 o14 hc14
  refine .q hs (aK rfl ae hc14) ?_
  refine .z gC (.nil ?_)
  refine (.bM rfl (fun hc16=>?_) (fun hc16=>?_))
  ·refine .ai (.z zm (.z zg (.nil ?_)))
   refine .ret (rB (rT (rB (rT (Fin.bJ Tryz.results205 rfl ?_)))))
   exact ⟨_,rfl,⟨fun _=>by rw [hc16];exact List.mem_of_getElem? hy,fun _=>by omega⟩,hs⟩
  ·refine .skip ?_
   refine nB (nT ?_)
   exact .mk ⟨rfl,hs,fw hno hy hc16⟩
 ·rintro fr w ⟨rfl,hs,hno⟩
  refine nT ?_
  refine .ai (.z zg (.nil ?_))
  refine .ret (Fin.bJ Tryz.results205 rfl ?_)
  exact ⟨_,rfl,⟨fun h=>by omega,fun h=>by
   obtain ⟨j,hj⟩:=List.getElem?_of_mem h
   exact (hno j (List.getElem?_eq_some_iff.1 hj).1 x hj rfl).elim⟩,hs⟩
theorem pc{v:Value}{ls:List Int}{x:Int}(hs:St H w σ)(hr:RI H v ls):
  Cl Tryz.prog 130 [v,I x] w fun u w'=>u= .bool (decide (x∈ls))∧St H w' σ:=by
 refine Cl.o Tryz.func130 Tryz.ntmps130 ag2 ?_
 refine .ai (.z zg (.nil (.ai (.z zm (.z zm ?_)))))
 refine .o (.call Tryz.call205 rfl (sn hs hr) ?_);rintro _ w ⟨i,rfl,hi,hs⟩
 refine .z vD (.z zg (.nil ?_))
 refine .ret (Fin.bJ Tryz.results130 rfl ?_)
 exact ⟨by simp only [hi],hs⟩
set_option maxHeartbeats 1000000 in
theorem tY{v:Value}{s:cM}{g:Nat}{cap:List Value}(q:Nat→Lim→Bool)(hs:St H w σ)(hr:RSy H v s)(hlen:s.cO.length≤4398046510976)(hc:∀args w,(callFunc g args).run Tryz.prog w= .ok (.enter g args) w)
  (hp:∀w σ (k:Nat) (l:Lim),s.cO[k]? =some l→St H w σ→Cl Tryz.prog g ([I k,.agg l.c.toArray]++cap) w fun u w'=>u= .bool (q k l)∧St H w' σ):
  Cl Tryz.prog 131 [v,.func (.func g) #[] cap.toArray] w fun u w'=>∃H1,HLe H H1∧RSy H1 u ⟨s.many,kq q s.cO s.cO.length⟩∧St H1 w' σ:=by
 obtain ⟨ul,rfl,hl⟩:=hr
 obtain ⟨al,cl,rfl⟩:=RL.shape hl
 refine Cl.o Tryz.func131 Tryz.ntmps131 ag2 ?_
 refine .ai ?_
 refine .bx hs fun b2 w hs=>?_
 refine .o (.alloc hs dj rfl fun b4 w hs=>?_)
 refine .nil (.ai (.z (zfa bH) (.y hs (zld ae) (.z (zbd [_,_] iG) ?_))))
 refine .o (.alloc hs dj rfl fun b5 w hs=>?_)
 refine .o (.aU (vs:=[_,_]) hs rfl rfl aE fun w hs=>?_)
 refine .nil (.seq (.ai (.z (zfa bO) (.y hs (zld cH) (.z (c9 aP) (.z zm (.nil ?_)))))))
 refine .for (N:=s.cO.length) (J:=fun k fr w=>fr=[(12,.slice al s.cO.length cl),(1,.func (.func g) #[] cap.toArray),(5,.pointer (some ⟨b5,0,none⟩)),(4,.pointer (some ⟨b4,0,none⟩))]∧∃vL en,cn 4 vL (gI (kq q s.cO k)) en∧St H w (.blk b5 [I s.many,vL]:: .blk b4 [I 0,.slice none 0 0]::en::σ)) aj ?_ ?_ ?_
 ·exact .mk ⟨rfl,_,_,.nil 4 none,hs.nul.sb⟩
 ·rintro k fr w hk ⟨rfl,vL,en,hO,hs⟩
  obtain ⟨x,hx⟩:=nth (l:=s.cO) hk
  obtain ⟨aL,lL,cL,rfl,hL⟩:=hO.shape
  have hpl:=my q s.cO k
  refine .block (.ai (.z zm ?_))
  refine .ixX hs hl rfl rfl aP bq hx rfl ?_;intro b17 o17 hc17
  refine .q hs (cI (vs:=x.c) rfl fF bq hc17) ?_
  refine .o (.alloc hs ez rfl fun b7 w hs=>?_)
  refine .z zg ?_
  refine .o (.aU (vs:=x.c) hs rfl rfl bq fun w hs=>?_)
  refine .nil (.ai (.z zm (.z zm (.y hs (zls [_,_,_,_] fF bq) ?_))))
  refine .o (.pH (first:=[]) (cap:=cap) rfl rfl hc (hp _ _ k x hx hs) ?_);rintro _ w ⟨rfl,hs⟩
  refine .nil ?_
  refine (.cond rfl (fun hc22=>?_) (fun hc22=>?_))
  ·refine .region (.z (zfa bO) (.y hs (zld cH) (.y hs (zls [_,_,_,_] fF bq) ?_)))
   refine .o (.buildSlice (cells:=x.c) hs qK rfl rfl fun b26 w hs=>?_)
   refine .o (.append (ys:=x.c) hs bZ rfl rfl hO (.own .here rfl rfl) (by simp [Lim.c,Value.oneCell']) (fun l h=>by rw [dM] at h;omega) ?_);intro v27 en27 w hO2 hs
   obtain ⟨a27,l27,c27,rfl,h27⟩:=hO2.shape
   refine .z (zfa bO) ?_
   refine .o (.store hs rfl rfl mD fun w hs=>?_)
   refine .nil ?_
   refine nB (nT ?_)
   have e:kq q s.cO (k+1)=kq q s.cO k++[x]:=by rw [pv hx,if_pos hc22]
   rw [←Df,←gH,←e] at hO2
   exact .mk ⟨rfl,_,_,hO2,hs.sb⟩
  ·refine .skip ?_
   refine nB (nT ?_)
   have e:kq q s.cO (k+1)=kq q s.cO k:=by rw [pv hx,hc22];simp
   exact .mk ⟨rfl,_,_,by rw [e];exact hO,hs.sb⟩
 ·rintro fr w ⟨rfl,vL,en,hO,hs⟩
  obtain ⟨aL,lL,cL,rfl,hL⟩:=hO.shape
  have hpl:=my q s.cO s.cO.length
  refine nT ?_
  refine .ai (.y hs (zls [_,_] aT aE) ?_)
  refine .o (.aU (vs:=[_,_]) hs rfl rfl aE fun w hs=>?_)
  refine .nil ?_
  refine .ret ?_
  obtain ⟨H1,g1,r1,hs⟩:=cn.cK (m:=4) (cs:=(kq q s.cO s.cO.length).map Lim.c) hO (fun c hc=>by simp only [List.mem_map] at hc;obtain ⟨x,_,rfl⟩:=hc;rfl) aj (by rw [List.length_map];omega) hs cZ
  exact Fin.iK [] [] hs fun w hs=>⟨_,results1 Tryz.results131 (dJ (vs:=[_,_]) hs rfl aT aE),H1,g1,⟨_,rfl,r1⟩,hs.out⟩
theorem tZ{b:Nat}{i:Int}{l:Lim}{vb:Value}{bs:List Int}(hs:St H w σ)(hb:Row H b [vb])(hr:RI H vb bs):
  Cl Tryz.prog 207 [I i,.agg l.c.toArray,.pointer (some ⟨b,0,none⟩)] w fun u w'=>u= .bool (!decide (l.S∈bs))∧St H w' σ:=by
 have hb0:cellAt H b 0=some vb:=by rw [hb.cell];rfl
 refine Cl.o Tryz.func207 Tryz.ntmps207 ag3 ?_
 refine .ai ?_
 refine .bx hs fun b4 w hs=>?_
 refine .z zg (.nil (.ai (.y hs (zld ak) (.z (zfa jM) (.y hs (zld ae) ?_)))))
 refine .o (.call Tryz.call130 rfl (pc hs hr) ?_);rintro _ w ⟨rfl,hs⟩
 refine .z ir (.z zg (.nil ?_))
 refine .ret (Fin.bJ Tryz.results207 rfl ?_)
 exact ⟨rfl,hs.out⟩
theorem qJ{v vb:Value}{s:cM}{bs:List Int}(hs:St H w σ)(hr:RSy H v s)(hb:RI H vb bs)(hlen:s.cO.length≤4398046510976):
  Cl Tryz.prog 136 [v,vb] w fun u w'=>∃H1,HLe H H1∧RSy H1 u (s.wo bs)∧St H1 w' σ:=by
 obtain ⟨ul,rfl,hl⟩:=hr
 obtain ⟨al,cl,rfl⟩:=RL.shape hl
 obtain ⟨ab,cb,rfl⟩:=RI.shape hb
 refine Cl.o Tryz.func136 Tryz.ntmps136 ag2 ?_
 refine .ai ?_
 refine .bx hs fun b2 w hs=>?_
 refine .bx hs fun b3 w hs=>?_
 refine .o (.alloc hs dj rfl fun b4 w hs=>?_)
 refine .nil (.ai (.y hs (zls [_,_] aT aE) ?_))
 refine .q hs (dR (f:=[]) (c:=[_]) rfl rfl) ?_
 obtain ⟨H1,hle1,r3,hs⟩:=hs.cK (b:=b3) cZ
 refine .o (.call Tryz.call131 rfl (tY (g:=207) (cap:=[.pointer (some ⟨b3,0,none⟩)]) (s:=s) (fun _ l=> !decide (l.S∈bs)) hs ⟨_,rfl,hl.mono hle1⟩ hlen Tryz.call207 (fun w σ k l _ hs=>tZ hs r3 (hb.mono hle1))) ?_);rintro _ w ⟨H2,hle2,⟨u7,rfl,hL7⟩,hs⟩
 rw [Ab] at hL7
 obtain ⟨a7,c7,rfl⟩:=RL.shape hL7
 refine .o (.aU (vs:=[_,_]) hs rfl rfl aE fun w hs=>?_)
 refine .nil ?_
 refine .ret ?_
 exact Fin.iK [] [] hs fun w hs=>⟨_,results1 Tryz.results136 (dJ (vs:=[_,_]) hs rfl aT aE),H2,hle1.trans hle2,⟨_,rfl,hL7⟩,hs.out⟩
theorem tk{b cap:Nat}{xs:List Int}{sp:List Value}(hs:St H w (.blk b (Is xs++sp)::σ))(hl:xs.length≤17592186044416):
  Cl Tryz.prog 138 [.slice (some ⟨b,0,none⟩) xs.length cap] w fun u w'=>u= .tuple #[]∧St H w' (.blk b (Is (xs.mergeSort fun x y=>decide (x≤y))++sp)::σ):=
 (Ck b 0 cap xs w hs.holds (hs.lt .here) aj).mono fun e w' ⟨he,m,os,hw⟩=>⟨_,he,rfl,by
  rw [hw]
  exact (hs.putRow (List.length_mergeSort _)).grow os⟩
theorem sm{a:Option Addr}{cap:Nat}(hs:St H w σ):
  Cl Tryz.prog 138 [.slice a 0 cap] w fun u w'=>u= .tuple #[]∧St H w' σ:=
 (vQ a cap w).mono fun e w' ⟨he,hw⟩=>⟨_,he,rfl,by rw [hw];exact hs⟩
theorem p9{b cap:Nat}{xs:List Int}{sp:List Value}(hs:St H w (.blk b (Is xs++sp)::σ))(hl:xs.length≤17592186044416)(hcap:xs.length≤cap):
  Cl Tryz.prog 139 [.slice (some ⟨b,0,none⟩) xs.length cap] w fun u w'=>u= .slice (some ⟨b,0,none⟩) (Go.Lib.compact xs).length cap∧St H w' (.blk b (Is (Go.Lib.compact xs)++(Is (List.replicate (xs.length - (Go.Lib.compact xs).length) 0)++sp))::σ):=
 (yf b 0 cap xs w hs.holds aj hcap).mono fun e w' ⟨he,m,hw⟩=>⟨_,he,rfl,by
  rw [hw]
  have h:=Go.Lib.compact_length_le xs
  have:=hs.putRow (m:=m) (ys:=Go.Lib.compact xs++List.replicate (xs.length - (Go.Lib.compact xs).length) 0) (by simp;omega)
  have e2:Is (Go.Lib.compact xs++List.replicate (xs.length - (Go.Lib.compact xs).length) 0)=Is (Go.Lib.compact xs)++Is (List.replicate (xs.length - (Go.Lib.compact xs).length) 0):=List.map_append
  rw [e2,List.append_assoc] at this
  exact this⟩
theorem ph{a:Option Addr}{cap:Nat}(hs:St H w σ):
  Cl Tryz.prog 139 [.slice a 0 cap] w fun u w'=>u= .slice a 0 cap∧St H w' σ:=
 (sj a cap w).mono fun e w' ⟨he,hw⟩=>⟨_,he,rfl,by rw [hw];exact hs⟩
theorem uE{v:Value}{xs:List Int}{en:Ent}(hs:St H w (en::σ))(hO:cn 1 v (Is xs) en)(hl:xs.length≤17592186044416):
  Cl Tryz.prog 204 [v] w fun u w'=>∃L en',cn 1 u (Is L) en'∧L.length≤xs.length∧mh (fun x=>x∈xs) L∧St H w' (en'::σ):=by
 rcases hO with ⟨a,rfl,h0,rfl⟩|⟨b,len,cap,sp,rfl,rfl,h3,h4,h5⟩
 ·have hx:xs=[]:=by simpa using h0
  subst hx
  refine Cl.o Tryz.func204 Tryz.ntmps204 ag1 ?_
  refine .ai (.z zg (.nil (.ai (.z zm ?_))))
  refine .o (.call Tryz.call138 rfl (sm hs) ?_);rintro _ w ⟨rfl,hs⟩
  refine .nil (.ai (.z zm ?_))
  refine .o (.call Tryz.call139 rfl (ph hs) ?_);rintro _ w ⟨rfl,hs⟩
  refine .z zg (.nil ?_)
  refine .ret (Fin.bJ Tryz.results204 rfl ?_)
  exact ⟨[],_,.nil 1 a,bV,.nil bV,hs.out⟩
 ·obtain rfl:len=xs.length:=by simpa using h3.symm
  refine Cl.o Tryz.func204 Tryz.ntmps204 ag1 ?_
  refine .ai (.z zg (.nil (.ai (.z zm ?_))))
  refine .o (.call Tryz.call138 rfl (tk hs hl) ?_);rintro _ w ⟨rfl,hs⟩
  refine .nil (.ai (.z zm ?_))
  have hml:(xs.mergeSort fun x y=>decide (x≤y)).length=xs.length:=List.length_mergeSort _
  rw [←hml]
  refine .o (.call Tryz.call139 rfl (p9 hs aj aj) ?_);rintro _ w ⟨rfl,hs⟩
  refine .z zg (.nil ?_)
  refine .ret (Fin.bJ Tryz.results204 rfl ?_)
  have hcl:=Go.Lib.compact_length_le (xs.mergeSort fun x y=>decide (x≤y))
  have h4':xs.length+sp.length=cap:=by simpa using h4
  exact ⟨_,_,.inr ⟨b,_,cap,Is (List.replicate ((xs.mergeSort fun x y=>decide (x≤y)).length - (Go.Lib.compact (xs.mergeSort fun x y=>decide (x≤y))).length) 0)++sp,rfl,rfl,bV,by simp;omega,aj⟩,aj,yi,hs⟩
theorem lq{v:Value}{s:cM}(hs:St H w σ)(hr:RSy H v s)(hlen:s.cO.length≤4398046510976):
  Cl Tryz.prog 129 [v] w fun u w'=>∃L en,cn 1 u (Is L) en∧L.length≤s.cO.length∧mh (FH s.cO) L∧St H w' (en::σ):=by
 obtain ⟨ul,rfl,hl⟩:=hr
 obtain ⟨al,cl,rfl⟩:=RL.shape hl
 refine Cl.o Tryz.func129 Tryz.ntmps129 ag1 ?_
 refine .ai ?_
 refine .bx hs fun b1 w hs=>?_
 refine .z zg (.nil (.ai (.z zg (.nil (.seq (.ai (.z (zfa bO) (.y hs (zld cH) (.z (c9 aP) ?_)))))))))
 refine .z zm (.nil ?_)
 refine .for (N:=s.cO.length) (J:=fun k fr w=>∃v3 en,cn 1 v3 (Is ((s.cO.take k).map Lim.S)) en∧fr=[(3,v3),(7,.slice al s.cO.length cl)]∧St H w (en::σ)) aj ?_ ?_ ?_
 ·exact .mk ⟨_,_,.nil 1 none,rfl,hs.nul.sb⟩
 ·rintro k fr w hk ⟨v3,en,hO,rfl,hs⟩
  obtain ⟨x,hx⟩:=nth (l:=s.cO) hk
  obtain ⟨a3,l3,c3,rfl,h3⟩:=hO.shape
  refine .block (.ai ?_)
  refine .ixX hs hl rfl rfl aP bq hx rfl ?_;intro b11 o11 hc11
  refine .q hs (cI (vs:=x.c) rfl fF bq hc11) ?_
  refine .o (.alloc hs ez rfl fun b5 w hs=>?_)
  refine .o (.aU (vs:=x.c) hs rfl rfl bq fun w hs=>?_)
  refine .nil (.region (.z zm (.z (zfa jM) (.y hs (zld ae) ?_))))
  refine .o (.buildSlice (cells:=[_]) hs dv rfl rfl fun b16 w hs=>?_)
  refine .o (.append (ys:=Is [x.S]) hs cV rfl rfl hO (.own .here rfl rfl) (jK _) (fun l' h=>by simp at h;omega) ?_);intro v17 en17 w hO2 hs
  rw [←List.map_append] at hO2
  refine .z zg (.nil ?_)
  refine nB (nT ?_)
  exact .mk ⟨_,_,by rw [ep hx,List.map_append];exact hO2,rfl,hs.sb⟩
 ·rintro fr w ⟨v3,en,hO,rfl,hs⟩
  rw [List.take_length] at hO
  refine nT ?_
  refine .ai (.z zm ?_)
  refine .o (.call Tryz.call204 rfl (uE hs hO (by rw [List.length_map];omega)) ?_);rintro v20 w ⟨L,en',hO',hL,hR,hs⟩
  rw [List.length_map] at hL
  refine .z zg (.nil ?_)
  refine .ret (Fin.bJ Tryz.results129 rfl ?_)
  exact ⟨L,en',hO',hL,hR.congr fun x=>by simp [FH],hs⟩
theorem oB{v:Value}{en:Ent}{xs:List Int}{g:Nat}{cap:List Value}(q:Int→Bool)(hs:St H w (en::σ))(hO:cn 1 v (Is xs) en)(hl:xs.length≤17592186044416)(hc:∀args w,(callFunc g args).run Tryz.prog w= .ok (.enter g args) w)
  (hp:∀H' w σ (n:Int),n∈xs→HLe H H'→St H' w σ→Cl Tryz.prog g ([I n]++cap) w fun u w'=>∃H1,HLe H' H1∧u= .bool (q n)∧St H1 w' σ):
  Cl Tryz.prog 206 [v,.func (.func g) #[] cap.toArray] w fun u w'=>∃H1 i,HLe H H1∧u=I i∧((i= -1∧∀x∈xs,q x=false)∨(∃(k:Nat) (x:Int),i=k∧xs[k]? =some x∧q x=true∧∀j<k,∀y,xs[j]? =some y→q y=false))∧St H1 w' (en::σ):=by
 obtain ⟨a,c,rfl⟩:=hO.AP
 refine Cl.o Tryz.func206 Tryz.ntmps206 ag2 ?_
 refine .ai (.z zg (.nil (.seq (.ai (.z zm (.z (c9 aa) (.z zm (.nil ?_))))))))
 refine .for (N:=xs.length) (J:=fun k fr w=>fr=[(1,.func (.func g) #[] cap.toArray),(0,.slice a xs.length c)]∧∃H1,HLe H H1∧(∀j<k,∀y,xs[j]? =some y→q y=false)∧St H1 w (en::σ)) aj ?_ ?_ ?_
 ·exact .mk ⟨rfl,H,HLe.refl H,fun j hj=>by omega,hs⟩
 ·rintro k fr w hk ⟨rfl,H1,hle1,hno,hs⟩
  have hx:=bL hk
  obtain ⟨b,c',sp,hv,rfl,_⟩:=hO.blk aj
  cases hv
  refine .block (.ai (.z zm (.z zg (.nil (.ai (.z zm (.z zm (.z zm (.z (zix aa af) ?_)))))))))
  refine .q hs (dS rfl ae (hv:=fQ hk sp)) ?_
  refine .o (.pH (first:=[]) (cap:=cap) rfl rfl hc (hp _ _ _ (gi xs k) (List.mem_of_getElem? hx) hle1 hs) ?_);rintro _ w ⟨H2,hle2,rfl,hs⟩
  refine .nil ?_
  refine (.cond rfl (fun hc16=>?_) (fun hc16=>?_))
  ·refine .ai (.z zm (.z zg (.nil ?_)))
   refine .ret (rB (rT (rB (rT (Fin.bJ Tryz.results206 rfl ?_)))))
   exact ⟨H2,_,hle1.trans hle2,rfl,.inr ⟨k,_,rfl,hx,hc16,hno⟩,hs⟩
  ·refine .skip ?_
   refine nB (nT ?_)
   exact .mk ⟨rfl,H2,hle1.trans hle2,fw hno hx hc16,hs⟩
 ·rintro fr w ⟨rfl,H1,hle1,hno,hs⟩
  refine nT ?_
  refine .ai (.z zg (.nil ?_))
  refine .ret (Fin.bJ Tryz.results206 rfl ?_)
  exact ⟨H1,_,hle1,rfl,.inl ⟨rfl,fun x hx=>by
   obtain ⟨j,hj⟩:=List.getElem?_of_mem hx
   exact hno j (List.getElem?_eq_some_iff.1 hj).1 x hj⟩,hs⟩
set_option maxHeartbeats 1000000 in
theorem m6{v:Value}{en:Ent}{xs:List Int}{g:Nat}{cap:List Value}(q:Int→Bool)(hs:St H w (en::σ))(hO:cn 1 v (Is xs) en)(hl:xs.length≤17592186044416)(hc:∀args w,(callFunc g args).run Tryz.prog w= .ok (.enter g args) w)
  (hp:∀H' w σ (n:Int),n∈xs→HLe H H'→St H' w σ→Cl Tryz.prog g ([I n]++cap) w fun u w'=>∃H1,HLe H' H1∧u= .bool (q n)∧St H1 w' σ):
  Cl Tryz.prog 150 [v,.func (.func g) #[] cap.toArray] w fun u w'=>∃H1 en',HLe H H1∧cn 1 u (Is (xs.filter fun x=> !q x)) en'∧St H1 w' (en'::σ):=by
 obtain ⟨a,c,rfl⟩:=hO.AP
 refine Cl.o Tryz.func150 Tryz.ntmps150 ag2 ?_
 refine .ai (.z zg (.nil (.ai (.z zm (.z zm ?_)))))
 refine .o (.call Tryz.call206 rfl (oB q hs hO hl hc hp) ?_);rintro _ w ⟨H1,i0,hle1,rfl,hcase,hs⟩
 refine .z zg (.nil (.seq (.ai (.z zm (.z gC (.nil ?_))))))
 refine (.bM rfl (fun hc12=>?_) (fun hc12=>?_))
 ·refine .ai (.z zm (.z zg (.nil ?_)))
  refine .ret (rT (Fin.bJ Tryz.results150 rfl ?_))
  have hno:∀x∈xs,q x=false:=by
   rcases hcase with ⟨_,h⟩|⟨k,x,h,_⟩
   ·exact h
   ·omega
  have e:xs.filter (fun x=> !q x)=xs:=List.filter_eq_self.2 fun x hx=>by simp [hno x hx]
  exact ⟨H1,en,hle1,by rw [e];exact hO,hs⟩
 ·refine .skip ?_
  refine nT ?_
  refine .seq (.ai (.z zm ?_))
  obtain ⟨k0,x0,rfl,hx0,hq0,hno⟩:∃(k:Nat) (x:Int),i0=k∧xs[k]? =some x∧q x=true∧∀j<k,∀y,xs[j]? =some y→q y=false:=hcase.resolve_left fun h=>hc12 h.1
  have hk0:=(List.getElem?_eq_some_iff.1 hx0).1
  obtain ⟨b,c',sp,hv,rfl,hc'⟩:=hO.blk aj
  cases hv
  refine .z cq (.z zg (.nil (.block ?_)))
  refine .loop (fun p:Nat×Nat=>⟨42,[],[(5,I (p.1:Int)),(6,I (p.2:Int)),(1,.func (.func g) #[] cap.toArray),(0,.slice (some ⟨b,0,none⟩) xs.length c)]⟩)
   (fun p w=>k0<p.2∧∃Y H1,HLe H H1∧yM q xs Y p.1 p.2∧St H1 w (.blk b (Is Y++sp)::σ))
   (fun p=>xs.length - p.2) (k0,k0+1) (.cons rfl (.cj rfl (by dsimp only;omega) aR))
   ⟨by dsimp only;omega,xs,H1,hle1,.start hx0 hq0 hno,hs⟩ ?_
  clear hs hle1 hcase
  rintro ⟨i,j⟩ w ⟨hkj,Y,H1,hle1,hD,hs⟩
  dsimp only at hkj hD ⊢
  have hYl:=hD.len
  have hij:=hD.le
  have hjl:=hD.jl
  have hilt:=hD.lt hx0 hq0 hkj
  refine .seq (.ai (.z zm (.z zm (.z (c9 aa) (.z gx (.nil ?_))))))
  refine (.bM rfl (fun hc19=>?_) (fun hc19=>?_))
  ·refine .skip ?_
   refine nT ?_
   refine .seq (.block (.ai (.z zm (.z zm ?_))))
   have hj:j<Y.length:=by omega
   have hx:xs[j]? =some (gi Y j):=by rw [hD.rest j (Nat.le_refl _)];exact bL aj
   refine .z (zix aa af) ?_
   refine .q hs (dS rfl ae (hv:=fQ hj sp)) ?_
   refine .z zg (.nil (.ai (.z zm (.z zm ?_))))
   refine .o (.pH (first:=[]) (cap:=cap) rfl rfl hc (hp _ _ _ (gi Y j) (List.mem_of_getElem? hx) hle1 hs) ?_);rintro _ w ⟨H2,hle2,rfl,hs⟩
   refine .z ir (.nil ?_)
   refine (.cond rfl (fun hc29=>?_) (fun hc29=>?_))
   ·refine .ai (.z zm (.z zm (.z zm (.z (zix aa af) ?_))))
    refine .o (.store hs rfl rfl af ?_ .here (kM (show i<Y.length by omega) sp) (iH (show i<Y.length by omega) sp _));intro w hs
    refine .nil (.region (.z zm (.z cq (.z zg (.nil ?_)))))
    refine nB (nT ?_)
    refine .region (.z zm (.z cq (.z zg (.nil ?_))))
    refine nT ?_
    exact ⟨(i+1,j+1),.cj rfl (by dsimp only;omega) (.cj rfl (by dsimp only;omega) aR),⟨by dsimp only;omega,_,H2,hle1.trans hle2,hD.keep hx (by simpa using hc29),hs⟩,by dsimp only;omega⟩
   ·refine .skip ?_
    refine nB (nT ?_)
    refine .region (.z zm (.z cq (.z zg (.nil ?_))))
    refine nT ?_
    exact ⟨(i,j+1),.cons rfl (.cj rfl (by dsimp only;omega) aR),⟨by dsimp only;omega,_,H2,hle1.trans hle2,hD.skip hx (by simpa using hc29),hs⟩,by dsimp only;omega⟩
  ·refine .exit ?_
   refine xT (xT (xB (nT ?_)))
   refine .ai (.z zm (.z zm ?_))
   obtain rfl:xs.length=j:=by omega
   refine .q hs (xb (k:=i) rfl rfl aa af aj aj) ?_
   rw [show 0+i*1=i by omega]
   refine .o (.FD (c:=Is Y++sp) hs rfl aa bI (by simp;omega) ?_);intro w hs
   rw [hD.done sp] at hs
   have hil:=hD.il
   rw [List.take_length] at hil
   refine .nil (.ai (.z zm (.z zm ?_)))
   refine .q hs (tD (k:=i) rfl rfl aa af aj) ?_
   refine .z zg (.nil ?_)
   refine .ret (Fin.bJ Tryz.results150 rfl ?_)
   exact ⟨H1,_,hle1,.inr ⟨b,i,c,List.replicate (xs.length - i) (I 0)++sp,rfl,rfl,by simp [hil],by simp [←hil];omega,aj⟩,hs⟩
def uH(L:List Int):List (List Value):=(List.range L.length).map fun j=>[I ((L.length - 1 - j:Nat):Int),I (gi L (L.length - 1 - j))]
theorem lx(L:List Int):(uH L).length=L.length:=by simp [uH]
theorem xK{L:List Int}{j:Nat}(h:j<(uH L).length):(uH L)[j]=[I ((L.length - 1 - j:Nat):Int),I (gi L (L.length - 1 - j))]:=by simp [uH]
theorem m8{H:cf}{b:Nat}{v:Value}{L:List Int}(hb:Row H b [v])(hr:RI H v L):Iter Tryz.prog 231 [.pointer (some ⟨b,0,none⟩)] H (uH L):=by
 intro l II Ix _ _ hy H0 σb0 σf w hle hI0 hs
 obtain ⟨a,c,rfl⟩:=RI.shape hr
 have hlen:=(RI.len hr).2.2
 have hb0:cellAt H0 b 0=some (.slice a L.length c):=cellAt.mono (hb.at 0) hle
 refine Cl.o Tryz.func231 Tryz.ntmps231 ag2 ?_
 refine .ai (.y hs (zld ak) (.z (c9 aa) (.z gW (.z zg (.nil (.block ?_))))))
 refine .loop (fun j:Nat=>⟨19,[],[(3,I ((L.length:Int) - 1 - (j:Int))),(0,.func (.yield l) #[] #[]),(1,.pointer (some ⟨b,0,none⟩))]⟩)
  (fun j w=>j≤L.length∧∃H1 σb,HLe H H1∧HLe H0 H1∧II j H1 σb∧St H1 w (σb++σf)) (fun j=>L.length - j) 0 (.cj rfl bV aR)
  ⟨Nat.zero_le _,H0,σb0,hle,HLe.refl _,hI0,hs⟩ ?_
 clear hs hI0
 rintro j w ⟨hj,H1,σb,hle1,hle0,hI,hs⟩
 have hb1:cellAt H1 b 0=some (.slice a L.length c):=cellAt.mono hb0 hle0
 refine .seq (.ai (.z zm (.z vD (.nil ?_))))
 refine (.bM rfl (fun hc8=>?_) (fun hc8=>?_))
 ·refine .skip ?_
  refine nT ?_
  refine .seq (.block (.ai (.z zm (.z zm (.y hs (zld ak) (.z zm ?_))))))
  refine .ixY hs (hr.mono hle1) rfl rfl aa af (bL (l:=L) (i:=L.length - 1 - j) aj) aj ?_;intro b15 o15 hc15
  refine .q hs (aK rfl ae hc15) ?_
  have hk':j<(uH L).length:=by rw [lx];omega
  have hyd:=hy j hk' H1 σb σf w hle1 hI hs
  rw [xK hk',show ((L.length - 1 - j:Nat):Int)=(L.length:Int) - 1 - (j:Int) by omega] at hyd
  refine .o (.yield rfl rfl hyd ?_);rintro v17 w ⟨H2,σ2,g1,hs,g3⟩
  obtain ⟨bb,rfl,gT,gF⟩:=o5 g3
  refine .z ir (.nil ?_)
  refine (.cond rfl (fun hc18=>?_) (fun hc18=>?_))
  ·refine .ret (rB (rT (rT (rB (Fin.EZ Tryz.results231 ?_)))))
   exact ⟨H2,σ2,hle0.trans g1,hs,.inr (gF (by simpa using hc18))⟩
  ·refine .skip ?_
   refine nB (nT ?_)
   refine .region (.z zm (.z gW (.z zg (.nil ?_))))
   refine nT ?_
   exact ⟨j+1,.cj rfl (by simp;omega) aR,⟨aj,H2,σ2,hle1.trans g1,hle0.trans g1,gT (by simpa using hc18),hs⟩,aj⟩
 ·refine .exit ?_
  refine xT (xT (xB ?_))
  obtain rfl:L.length=j:=by omega
  exact Fin.xV Tryz.results231 ⟨H1,σb,hle0,hs,.inl (by rw [lx];exact hI)⟩
theorem oC{v:Value}{L:List Int}(hs:St H w σ)(hr:RI H v L):
  Cl Tryz.prog 180 [v] w fun u w'=>∃H1 b,HLe H H1∧u= .func (.func 231) #[] #[.pointer (some ⟨b,0,none⟩)]∧Iter Tryz.prog 231 [.pointer (some ⟨b,0,none⟩)] H1 (uH L)∧St H1 w' σ:=by
 obtain ⟨a,c,rfl⟩:=RI.shape hr
 refine Cl.o Tryz.func180 Tryz.ntmps180 ag1 ?_
 refine .ai ?_
 refine .bx hs fun b1 w hs=>?_
 refine .z zg (.nil (.ai ?_))
 refine .q hs (dR (f:=[]) (c:=[_]) rfl rfl) ?_
 refine .z zg (.nil ?_)
 refine .ret (Fin.bJ Tryz.results180 rfl ?_)
 obtain ⟨H1,g1,g2,hs⟩:=hs.cK .here
 exact ⟨H1,b1,g1,rfl,m8 g2 (hr.mono g1),hs⟩
theorem sB{n m:Int}{b:Nat}(hs:St H w σ)(hb:Row H b [I m]):
  Cl Tryz.prog 181 [I n,.pointer (some ⟨b,0,none⟩)] w fun u w'=>u= .bool (decide (n=m))∧St H w' σ:=by
 have hb0:cellAt H b 0=some (I m):=hb.at 0
 refine Cl.o Tryz.func181 Tryz.ntmps181 ag2 ?_
 refine .ai (.z zg (.nil (.ai (.z zm (.y hs (zld ae) (.z gC (.z zg (.nil ?_))))))))
 refine .ret (Fin.bJ Tryz.results181 rfl ?_)
 exact ⟨rfl,hs⟩
set_option maxHeartbeats 1000000 in
theorem pJ{v:Value}{s:cM}(hs:St H w σ)(hr:RSy H v s):
  Cl Tryz.prog 98 [v] w fun u w'=>∃H1 vx out e,HLe H H1∧u= .tuple #[vx,I e]∧RI H1 vx out∧wO s out e∧St H1 w' σ:=by
 obtain ⟨ul,rfl,hl⟩:=hr
 obtain ⟨al,cl,rfl⟩:=RL.shape hl
 refine Cl.o Tryz.func98 Tryz.ntmps98 ag1 ?_
 refine .ai ?_
 refine .bx hs fun b1 w hs=>?_
 refine .z zg (.z zg (.nil (.seq (.ai (.y hs (zls [_,_] aT aE) ?_)))))
 refine .o (.call Tryz.call125 rfl (kj (s:=s) hs ⟨_,rfl,hl⟩) ?_);rintro _ w ⟨rfl,hs⟩
 refine .z zg (.nil (.ai (.z zm (.z ij (.nil ?_)))))
 refine (.eQ rfl (fun hc12=>?_) (fun hc12=>?_))
 ·refine .ai (.z zm (.z zg (.z zg (.nil ?_))))
  refine .ret (rT (?_))
  exact Fin.iK [] [] hs fun w hs=>⟨_,results2 Tryz.results98 rfl rfl,H,_,[],_,HLe.refl H,rfl,RS.nil H 1 none 0,.bad hc12,hs.out⟩
 ·refine .skip ?_
  refine nT ?_
  refine .seq (.ai (.y hs (zls [_,_] aT aE) ?_))
  have hok:s.Ok:=s.dt.1 (by simpa using hc12)
  have hll:=hok.len
  refine .o (.call Tryz.call133 rfl (js (s:=s) hs hok ⟨_,rfl,hl⟩) ?_);rintro _ w ⟨H1,bb,hle1,rfl,hbb,hs⟩
  refine .nil ?_
  refine (.cond rfl (fun hc15=>?_) (fun hc15=>?_))
  ·refine .ai (.z zg (.z zg (.nil ?_)))
   refine .ret (rT (?_))
   exact Fin.iK [] [] hs fun w hs=>⟨_,results2 Tryz.results98 rfl rfl,H1,_,[],_,hle1,rfl,RS.nil H1 1 none 0,.none hok (hbb.1 hc15),hs.out⟩
  ·refine .skip ?_
   refine nT ?_
   refine .ai (.y hs (zls [_,_] aT aE) ?_)
   have hns:¬s.Sound:=fun h=>by rw [hbb.2 h] at hc15;cases hc15
   refine .o (.call Tryz.call129 rfl (lq (s:=s) hs ⟨_,rfl,hl.mono hle1⟩ aj) ?_);rintro v17 w ⟨L,en,hO,hLl,hRise,hs⟩
   obtain ⟨a17,l17,c17,rfl,h17⟩:=hO.shape
   refine .o (.alloc hs ek rfl fun b5 w hs=>?_)
   refine .o (.store hs rfl rfl aC fun w hs=>?_)
   refine .nil (.seq (.ai (.y hs (zls [_,_] aT aE) ?_)))
   refine .o (.call Tryz.call129 rfl (lq (s:=s) hs ⟨_,rfl,hl.mono hle1⟩ aj) ?_);rintro v19 w ⟨L',en',hO',hLl',hRise',hs⟩
   obtain rfl:L=L':=hRise.uniq hRise'
   obtain ⟨H2,hle2,hR19,hs⟩:=cn.dI hO' aj hs .here
   refine .o (.call Tryz.call180 rfl (oC hs hR19) ?_);rintro _ w ⟨H3,b20,hle3,rfl,hit,hs⟩
   have hle03:=hle1.trans (hle2.trans hle3)
   refine .nil (.block ?_)
   refine .rangeFunc (gf:=231) (cap:=[.pointer (some ⟨b20,0,none⟩)]) (xs:=uH L) (σb:=[.blk b1 [I s.many,.slice al s.cO.length cl],.blk b5 [.slice a17 l17 c17],en]) (σf:=σ) (hs.sb:St H3 w (.blk b1 _:: .blk b5 _::en::σ)) trivial rfl hit Tryz.call231 (fun x hx=>by
     simp only [uH,List.mem_map] at hx
     obtain ⟨j,_,rfl⟩:=hx;rfl) rfl
    (I:=fun j H' σb=>∃(t:cM) (ut vo:Value) (out:List Int) (en:Ent),σb=[.blk b1 [I t.many,ut],.blk b5 [vo],en]∧RL H' ut t.cO∧cn 1 vo (Is out) en∧out.length≤L.length∧t.Ok∧mj s L (L.length - j) t out) (Ix:=fun _ _ _=>False)
    (fun j _ _ σ g1 ⟨t,ut,vo,out,en,g2,g3,g4⟩=>⟨t,ut,vo,out,en,g2,g3.mono g1,g4⟩) (fun _ _ _ _ _ h=>h)
    ⟨s,_,_,L,en,rfl,hl.mono hle03,hO,Nat.le_refl _,hok,.start⟩ ?_ ?_ (fun D c H' σb w _ h _=>h.elim)
   ·rintro l j hj H4 σb2 σf2 w hle4 ⟨t,ut,vo,out,en,rfl,hut,hOo,hol,htok,hC⟩ hs ⟨rr,hrr⟩
    rw [xK hj]
    have hjL:j<L.length:=by rw [lx] at hj;exact hj
    obtain ⟨at',ct,rfl⟩:=RL.shape hut
    obtain ⟨ao,lo,co,rfl,hlo⟩:=hOo.shape
    refine .region ?_
    refine .o (.alloc hs bI rfl fun b7 w hs=>?_)
    refine .o (.store hs rfl rfl af fun w hs=>?_)
    refine .nil ?_
    refine nT ?_
    refine ⟨H4,[.blk b7 [I (gi L (L.length - 1 - j))],.blk b1 [I t.many,.slice at' t.cO.length ct],.blk b5 [.slice ao lo co],en],HLe.refl _,hs,?_⟩;rintro w σf4 - hs
    refine .block (.ai (.y hs (zls [_,_] aT aE) (.y hs (zld ae) ?_)))
    refine .o (.buildSlice (cells:=[_]) hs dv rfl rfl fun b25 w hs=>?_)
    obtain ⟨H5,hle5,r25,hs⟩:=cn.dI (xs:=[gi L (L.length - 1 - j)]) (v:= .slice (some ⟨b25,0,none⟩) 1 1) (.full (len:=1) rfl) bV hs cZ
    refine .o (.call Tryz.call136 rfl (qJ (s:=t) hs ⟨_,rfl,hut.mono hle5⟩ r25 (by have:=htok.len;omega)) ?_);rintro _ w ⟨H6,hle6,⟨u26,rfl,hL26⟩,hs⟩
    obtain ⟨a26,c26,rfl⟩:=RL.shape hL26
    refine .o (.alloc hs dj rfl fun b8 w hs=>?_)
    refine .o (.aU (vs:=[_,_]) hs rfl rfl aE fun w hs=>?_)
    refine .nil (.ai (.y hs (zls [_,_] aT aE) ?_))
    refine .o (.call Tryz.call133 rfl (js (s:=t.wo [gi L (L.length - 1 - j)]) hs (htok.wo _) ⟨_,rfl,hL26⟩) ?_);rintro _ w ⟨H7,b28,hle7,rfl,hb28,hs⟩
    have hle47:=hle5.trans (hle6.trans hle7)
    refine .z ir (.nil ?_)
    refine (.cond rfl (fun hc29=>?_) (fun hc29=>?_))
    ·refine .ai (.y hs (zls [_,_] aT aE) ?_)
     refine .o (.aU (vs:=[_,_]) hs rfl rfl aE fun w hs=>?_)
     refine .nil (.region (.y hs (zld ak) ?_))
     refine .q hs (dR (f:=[]) (c:=[_]) rfl rfl) ?_
     obtain ⟨H8,hle8,r7,hs⟩:=hs.cK (b:=b7) cZ
     replace hs:St H8 w (en:: .blk b1 [I t.many,.slice a26 (t.wo [gi L (L.length - 1 - j)]).cO.length c26]:: .blk b5 [.slice ao lo co]::σf4):=hs.sb
     refine .o (.call Tryz.call150 rfl (m6 (g:=181) (cap:=[.pointer (some ⟨b7,0,none⟩)]) (fun n=>decide (n=gi L (L.length - 1 - j))) hs hOo aj Tryz.call181
      (fun H' w σ n _ hle hs=>(sB hs (r7.mono hle)).mono fun u w' ⟨g1,g2⟩=>⟨H',HLe.refl _,g1,g2⟩)) ?_);rintro v33 w ⟨H9,en9,hle9,hO9,hs⟩
     obtain ⟨a33,l33,c33,rfl,h33⟩:=hO9.shape
     refine .o (.store hs rfl rfl aC fun w hs=>?_)
     refine .nil ?_
     refine nB ?_
     have hfl:=List.length_filter_le (fun n=> !decide (n=gi L (L.length - 1 - j))) out
     have e:L.length - (j+1)=L.length - 1 - j:=by omega
     have hns':¬(t.wo [gi L (L.length - 1 - j)]).Sound:=fun h=>by rw [hb28.2 h] at hc29;cases hc29
     exact ⟨H9,[.blk b1 [I t.many,.slice a26 (t.wo [gi L (L.length - 1 - j)]).cO.length c26],.blk b5 [.slice a33 l33 c33],en9],hle47.trans (hle8.trans hle9),(hs.sb:St H9 w (.blk b1 _:: .blk b5 _::en9::σf4)),t.wo [gi L (L.length - 1 - j)],_,_,_,_,rfl,hL26.mono (hle7.trans (hle8.trans hle9)),hO9,aj,htok.wo _,by
      rw [e]
      exact .drop (by rw [show L.length - 1 - j+1=L.length - j by omega];exact hC) hns'⟩
    ·refine .skip ?_
     refine nB ?_
     have e:L.length - (j+1)=L.length - 1 - j:=by omega
     have hsd':(t.wo [gi L (L.length - 1 - j)]).Sound:=hb28.1 (by simpa using hc29)
     exact ⟨H7,[.blk b1 [I t.many,.slice at' t.cO.length ct],.blk b5 [.slice ao lo co],en],hle47,(hs.sb:St H7 w (.blk b1 _:: .blk b5 _::en::σf4)),t,_,_,_,_,rfl,hut.mono hle47,hOo,hol,htok,by
      rw [e]
      exact .keep (by rw [show L.length - 1 - j+1=L.length - j by omega];exact hC) hsd'⟩
   ·rintro D H4 σb2 w hle4 ⟨t,ut,vo,out,en,rfl,hut,hOo,hol,htok,hC⟩ hs
    rw [lx,Nat.sub_self] at hC
    obtain ⟨ao,lo,co,rfl,hlo⟩:=hOo.shape
    replace hs:St H4 w (.obj D (.deferred (some [])):: .blk b1 [I t.many,ut]:: .blk b5 [.slice ao lo co]::en::σ):=hs
    refine nB (nT ?_)
    refine .ai (.y hs (zld ak) (.z zg (.z zg (.nil ?_))))
    refine .ret ?_
    obtain ⟨H5,hle5,hR5,hs⟩:=cn.dI hOo aj hs cZ
    exact Fin.iK [D] [] hs fun w hs=>⟨_,results2 Tryz.results98 rfl rfl,H5,_,out,0,hle03.trans (hle4.trans hle5),rfl,hR5,.ok hok hns hRise hC,hs.out⟩
theorem mZ{v:Value}{xs:List Int}{g:Nat}{cap:List Value}(q:Int→Prop)(hs:St H w σ)(hR:RI H v xs)(hc:∀args w,(callFunc g args).run Tryz.prog w= .ok (.enter g args) w)
  (hp:∀H' w σ (n:Int),n∈xs→HLe H H'→St H' w σ→Cl Tryz.prog g ([I n]++cap) w fun u w'=>∃H1 b,HLe H' H1∧u= .bool b∧(b=true↔q n)∧St H1 w' σ):
  Cl Tryz.prog 206 [v,.func (.func g) #[] cap.toArray] w fun u w'=>∃H1 i,HLe H H1∧u=I i∧(0≤i↔∃x∈xs,q x)∧St H1 w' σ:=by
 obtain ⟨a,c,rfl⟩:=RI.shape hR
 have hl:=(RI.len hR).2.2
 refine Cl.o Tryz.func206 Tryz.ntmps206 ag2 ?_
 refine .ai (.z zg (.nil (.seq (.ai (.z zm (.z (c9 aa) (.z zm (.nil ?_))))))))
 refine .for (N:=xs.length) (J:=fun k fr w=>fr=[(1,.func (.func g) #[] cap.toArray),(0,.slice a xs.length c)]∧∃H1,HLe H H1∧(∀j<k,∀y,xs[j]? =some y→¬q y)∧St H1 w σ) aj ?_ ?_ ?_
 ·exact .mk ⟨rfl,H,HLe.refl H,fun j hj=>by omega,hs⟩
 ·rintro k fr w hk ⟨rfl,H1,hle1,hno,hs⟩
  obtain ⟨x,hx⟩:=nth hk
  refine .block (.ai (.z zm (.z zg (.nil (.ai (.z zm (.z zm (.z zm ?_))))))))
  refine .ixY hs (hR.mono hle1) rfl rfl aa af hx rfl ?_;intro b14 o14 hc14
  refine .q hs (aK rfl ae hc14) ?_
  refine .o (.pH (first:=[]) (cap:=cap) rfl rfl hc (hp _ _ _ x (List.mem_of_getElem? hx) hle1 hs) ?_);rintro _ w ⟨H2,b16,hle2,rfl,hb16,hs⟩
  refine .nil ?_
  refine (.cond rfl (fun hc16=>?_) (fun hc16=>?_))
  ·refine .ai (.z zm (.z zg (.nil ?_)))
   refine .ret (rB (rT (rB (rT (Fin.bJ Tryz.results206 rfl ?_)))))
   exact ⟨H2,_,hle1.trans hle2,rfl,⟨fun _=>⟨x,List.mem_of_getElem? hx,hb16.1 hc16⟩,fun _=>by omega⟩,hs⟩
  ·refine .skip ?_
   refine nB (nT ?_)
   exact .mk ⟨rfl,H2,hle1.trans hle2,fw hno hx (fun h=>by rw [hb16.2 h] at hc16;cases hc16),hs⟩
 ·rintro fr w ⟨rfl,H1,hle1,hno,hs⟩
  refine nT ?_
  refine .ai (.z zg (.nil ?_))
  refine .ret (Fin.bJ Tryz.results206 rfl ?_)
  exact ⟨H1,_,hle1,rfl,⟨fun h=>by omega,fun ⟨x,h1,h2⟩=>by
   obtain ⟨j,hj⟩:=List.getElem?_of_mem h1
   exact (hno j (List.getElem?_eq_some_iff.1 hj).1 x hj h2).elim⟩,hs⟩
theorem lE{v:Value}{xs:List Int}{g:Nat}{cap:List Value}(q:Int→Prop)(hs:St H w σ)(hR:RI H v xs)(hc:∀args w,(callFunc g args).run Tryz.prog w= .ok (.enter g args) w)
  (hp:∀H' w σ (n:Int),n∈xs→HLe H H'→St H' w σ→Cl Tryz.prog g ([I n]++cap) w fun u w'=>∃H1 b,HLe H' H1∧u= .bool b∧(b=true↔q n)∧St H1 w' σ):
  Cl Tryz.prog 134 [v,.func (.func g) #[] cap.toArray] w fun u w'=>∃H1 b,HLe H H1∧u= .bool b∧(b=true↔∃x∈xs,q x)∧St H1 w' σ:=by
 refine Cl.o Tryz.func134 Tryz.ntmps134 ag2 ?_
 refine .ai (.z zg (.nil (.ai (.z zm (.z zm ?_)))))
 refine .o (.call Tryz.call206 rfl (mZ q hs hR hc hp) ?_);rintro _ w ⟨H1,i,hle1,rfl,hi,hs⟩
 refine .z vD (.z zg (.nil ?_))
 refine .ret (Fin.bJ Tryz.results134 rfl ?_)
 exact ⟨H1,_,hle1,rfl,by simp only [decide_eq_true_eq];exact hi,hs⟩
theorem o7{a0 a1 a2:Int}(hs:St H w σ):Cl Tryz.prog 274 [I a0,I a1,I a2] w fun v w'=>v= .bool (decide (a1≤a0∧a0≤a2))∧St H w' σ:=by
 refine Cl.o Tryz.func274 Tryz.ntmps274 ag3 ?_
 refine .ai (.z zg (.nil (.ai (.z zm (.z zm (.z uO (.z zm ?_)))))))
 refine .iB (t':=10) rfl (fun hb10=>?_) (fun hb10=>?_)
 ·refine .gT rfl rfl ?_
  refine .z zm ?_
  refine .gT rfl rfl ?_
  refine .z zm ?_
  refine .gT rfl rfl ?_
  refine .z uO (.z zpT (.z zg (.nil ?_)))
  refine .ret (Fin.bJ Tryz.results274 rfl ?_)
  exact ⟨by simp [*],hs.out⟩
 ·refine .gFs 3 3 true rfl rfl rfl ?_
  refine .z zpF (.z zg (.nil ?_))
  refine .ret (Fin.bJ Tryz.results274 rfl ?_)
  exact ⟨by simp [*],hs.out⟩
theorem iz{v:Value}{l:List Int}{many:Nat}{most:Int}(hs:St H w σ)(hr:RI H v l):
  Cl Tryz.prog 247 [v,I many,I most] w fun v w'=>∃b:Bool,v= .bool b∧(b=true↔eX many most l)∧St H w' σ:=by
 obtain ⟨a,c,rfl⟩:=RI.shape hr
 have hlen:=(RI.len hr).2.2
 refine Cl.o Tryz.func247 Tryz.ntmps247 ag3 ?_
 refine .ai (.z zg (.nil (.seq (.ai (.z zm (.z (c9 aa) (.z zm ?_)))))))
 refine .o (.call Tryz.call274 rfl (o7 hs) ?_);rintro _ w ⟨rfl,hs⟩
 refine .z ir (.z zm ?_)
 refine .bif (t':=14) rfl (fun hb14=>?_) (fun hb14=>?_)
 ·refine .gFs 4 5 false rfl rfl rfl ?_
  refine .z zpT (.z zm ?_)
  refine .gFs 8 11 false rfl rfl rfl ?_
  refine .z zpT (.nil ?_)
  refine (.cT ?_)
  refine .ai (.z zg (.nil ?_))
  refine .ret (rT (Fin.bJ Av rfl ?_))
  exact ⟨false,rfl,⟨fun h=>(by cases h),fun h=>by have:=h.two;have:=h.many;simp at hb14;omega⟩,hs⟩
 ·refine .gT rfl rfl ?_
  refine .z zm ?_
  refine .gT rfl rfl ?_
  have htwo:2≤l.length∧l.length≤many:=by simp at hb14;omega
  refine .ixY hs hr rfl rfl aa af (bL (l:=l) (i:=0) aj) dy ?_;intro b16 o16 hc16
  refine .gT rfl rfl ?_
  refine .q hs (aK rfl ae hc16) ?_
  refine .gT rfl rfl ?_
  refine .z gx (.z zpF (.z zm ?_))
  refine .iB (t':=20) rfl (fun hb20=>?_) (fun hb20=>?_)
  ·refine .gFs 8 11 false rfl rfl rfl ?_
   refine .z zpT (.nil ?_)
   refine (.cT ?_)
   refine .ai (.z zg (.nil ?_))
   refine .ret (rT (Fin.bJ Av rfl ?_))
   exact ⟨false,rfl,⟨fun h=>(by cases h),fun h=>by have:=h.low;omega⟩,hs⟩
  ·refine .gT rfl rfl ?_
   refine .z zm ?_
   refine .gT rfl rfl ?_
   refine .z zm ?_
   refine .gT rfl rfl ?_
   refine .z (c9 aa) ?_
   refine .gT rfl rfl ?_
   refine .z gW ?_
   refine .gT rfl rfl ?_
   refine .ixY hs hr rfl rfl aa af (bL (l:=l) (i:=(l.length - 1)) aj) dy ?_;intro b25 o25 hc25
   refine .gT rfl rfl ?_
   refine .q hs (aK rfl ae hc25) ?_
   refine .gT rfl rfl ?_
   refine .z zm ?_
   refine .gT rfl rfl ?_
   refine .z kD (.z zpF (.nil ?_))
   refine (.bM rfl (fun hc29=>?_) (fun hc29=>?_))
   ·refine .ai (.z zg (.nil ?_))
    refine .ret (rT (Fin.bJ Av rfl ?_))
    exact ⟨false,rfl,⟨fun h=>(by cases h),fun h=>by have:=h.high;omega⟩,hs⟩
   ·refine .skip ?_
    refine nT ?_
    refine .seq (.ai (.z zm ?_))
    refine .q hs (nD (k:=1) rfl rfl aa af aj aj) ?_
    refine .z (c9 aa) (.z zm (.nil ?_))
    refine .for (N:=l.length - 1) (J:=fun k fr w=>fr=[(31,.slice (if c=1 then a else a.map (·.add (1*1))) (l.length - 1) (c - 1)),(0,.slice a l.length c)]∧(∀j<k,gi l j<gi l (j+1))∧St H w σ) aj ?_ ?_ ?_
    ·exact .mk ⟨rfl,fun j hj=>by omega,hs⟩
    ·rintro k fr w hk ⟨rfl,hno,hs⟩
     have ht:=hr.tail (k:=1) aj
     have hx:(l.drop 1)[k]? =some (gi l (k+1)):=by rw [List.getElem?_drop,Nat.add_comm];exact bL aj
     refine .block (.ai (.z zm ?_))
     refine .ixY hs ht rfl rfl aa af hx rfl ?_;intro b36 o36 hc36
     refine .q hs (aK rfl ae hc36) ?_
     refine .z zg (.z zg (.nil (.ai (.z zm (.z zm ?_)))))
     refine .ixY hs hr rfl rfl aa af (bL (l:=l) (i:=k) aj) dy ?_;intro b40 o40 hc40
     refine .q hs (aK rfl ae hc40) ?_
     refine .z zm (.z vD (.nil ?_))
     refine (.bM rfl (fun hc43=>?_) (fun hc43=>?_))
     ·refine .ai (.z zg (.nil ?_))
      refine .ret (rB (rT (rB (rT (Fin.bJ Av rfl ?_)))))
      exact ⟨false,rfl,⟨fun h=>(by cases h),fun h=>by have:=h.rise k aj;omega⟩,hs⟩
     ·refine .skip ?_
      refine nB (nT ?_)
      exact .mk ⟨rfl,fun j hj=>by
       by_cases e:j=k
       ·subst e;omega
       ·exact hno j aj,hs⟩
    ·rintro fr w ⟨rfl,hno,hs⟩
     refine nT ?_
     refine .ai (.z zg (.nil ?_))
     refine .ret (Fin.bJ Av rfl ?_)
     exact ⟨true,rfl,⟨fun _=>⟨aj,aj,aj,aj,fun i hi=>hno i aj⟩,fun _=>rfl⟩,hs⟩
theorem mX{v:Value}{l:List Int}(hs:St H w σ)(hr:RI H v l):
  Cl Tryz.prog 294 [v] w fun v w'=>∃e,v=I e∧((eX 9 100000 l∧e=0)∨(¬eX 9 100000 l∧e≠0))∧St H w' σ:=by
 obtain ⟨a,c,rfl⟩:=RI.shape hr
 refine Cl.o Tryz.func294 Tryz.ntmps294 ag1 ?_
 refine .ai (.z zg (.nil (.seq (.ai (.z zm ?_)))))
 refine .o (.call Tryz.call247 rfl (iz (many:=9) (most:=100000) hs hr) ?_);rintro _ w ⟨b4,rfl,hb4,hs⟩
 refine .z ir (.nil ?_)
 refine (.cond rfl (fun hc5=>?_) (fun hc5=>?_))
 ·refine .ai (.z zg (.nil ?_))
  refine .ret (rT (Fin.bJ Tryz.results294 rfl ?_))
  exact ⟨_,rfl,.inr ⟨fun h=>by simp [hb4.2 h] at hc5,by decide⟩,hs⟩
 ·refine .skip ?_
  refine nT ?_
  refine .ai (.z zg (.nil ?_))
  refine .ret (Fin.bJ Tryz.results294 rfl ?_)
  exact ⟨_,rfl,.inl ⟨hb4.1 (by simpa using hc5),rfl⟩,hs⟩
theorem iI{a b:Int}(hs:St H w σ)(ha:0<a)(hb:0<b∧b≤100000):
  Cl Tryz.prog 277 [I a,I b] w fun v w'=>v=I (rat a b)∧St H w' σ:=by
 have h1:0≤b.tdiv a:=Int.tdiv_nonneg aj aj
 have h2:b.tdiv a≤b:=by rw [Int.tdiv_eq_ediv_of_nonneg aj];exact Int.ediv_le_self _ aj
 have hw:=ji (m:=b.tdiv a) ⟨aj,aj⟩
 refine Cl.o Tryz.func277 Tryz.ntmps277 ag2 ?_
 refine .ai (.z zg (.nil (.seq (.ai (.z zm (.z zm (.z B6 (.z gC (.z zm ?_)))))))))
 refine .iB (t':=9) rfl (fun hb9=>?_) (fun hb9=>?_)
 ·refine .gT rfl rfl ?_
  refine .z zm ?_
  refine .gT rfl rfl ?_
  refine .z zm ?_
  refine .gT rfl rfl ?_
  refine .z ER ?_
  refine .gT rfl rfl ?_
  refine .z uO (.z zpT (.nil ?_))
  refine (.bM rfl (fun hc14=>?_) (fun hc14=>?_))
  ·refine .ai (.z zm (.z zm (.z ER (.z zg (.nil ?_)))))
   refine .ret (rT (Fin.bJ Tryz.results277 rfl ?_))
   rw [hw] at hc14 ⊢
   exact ⟨by unfold rat;rw [if_pos ⟨by assumption,by assumption⟩],hs⟩
  ·refine .skip ?_
   refine nT ?_
   refine .ai (.z zg (.nil ?_))
   refine .ret (Fin.bJ Tryz.results277 rfl ?_)
   rw [hw] at hc14
   exact ⟨by unfold rat;rw [if_neg aj],hs⟩
 ·refine .gFs 4 4 true rfl rfl rfl ?_
  refine .z zpF (.nil ?_)
  refine (.cF ?_)
  refine .skip ?_
  refine nT ?_
  refine .ai (.z zg (.nil ?_))
  refine .ret (Fin.bJ Tryz.results277 rfl ?_)
  exact ⟨by unfold rat;rw [if_neg aj],hs⟩
def qw(l:List Int):List (List Value):=(mc l).map fun g=>[Value.agg #[I (g.at_:Int),I (g.n:Int)]]
theorem AB{l:List Int}(hp:eX 9 100000 l){i:Nat}(h:i+2<l.length):eN l i=true↔0<rat (gi l (i+1) - gi l i) (gi l (i+2) - gi l (i+1))∨0<rat (gi l (i+2) - gi l (i+1)) (gi l (i+1) - gi l i):=by
 have h1:=hp.rise i aj
 have h2:gi l (i+1)<gi l (i+2):=hp.rise (i+1) aj
 unfold eN
 rw [AD aj aj]
 simp only [Bool.and_eq_true,decide_eq_true_eq]
 omega
theorem o8{H:cf}{b:Nat}{v:Value}{l:List Int}(hp:eX 9 100000 l)(hb:Row H b [v])(hr:RI H v l):Iter Tryz.prog 295 [.pointer (some ⟨b,0,none⟩)] H (qw l):=by
 intro ly II Ix _ _ hy H0 σb0 σf w hle hI0 hs
 obtain ⟨a,c,rfl⟩:=RI.shape hr
 have hlen:=hp.many
 have hb0:cellAt H0 b 0=some (.slice a l.length c):=cellAt.mono (hb.at 0) hle
 refine Cl.o Tryz.func295 Tryz.ntmps295 ag2 ?_
 refine .ai (.z zg (.nil (.block ?_)))
 refine .loop (fun i:Nat=>⟨59,[],[(3,I (i:Int)),(0,.func (.yield ly) #[] #[]),(1,.pointer (some ⟨b,0,none⟩))]⟩)
  (fun i w=>i≤l.length∧∃j,j≤(mc l).length∧(mc l).drop j=mQ l i∧∃H1 σb,HLe H H1∧HLe H0 H1∧II j H1 σb∧St H1 w (σb++σf)) (fun i=>l.length - i) 0 (.cj rfl bV aR)
  ⟨Nat.zero_le _,0,Nat.zero_le _,rfl,H0,σb0,hle,HLe.refl _,hI0,hs⟩ ?_
 clear hs hI0
 rintro i w ⟨hil,j,hj,hd,H1,σb,hle1,hle0,hI,hs⟩
 have hb1:cellAt H1 b 0=some (.slice a l.length c):=cellAt.mono hb0 hle0
 refine .seq (.ai (.z zm (.z cq (.y hs (zld ak) (.z (c9 aa) (.z gx (.nil ?_)))))))
 refine (.bM rfl (fun hc11=>?_) (fun hc11=>?_))
 ·refine .skip ?_
  refine nT ?_
  refine .block (.ai (.z zm (.z (zbd [_,_] qO) ?_)))
  refine .o (.alloc hs wU rfl fun b4 w hs=>?_)
  refine .o (.aU (vs:=[_,_]) hs rfl rfl oP fun w hs=>?_)
  refine .nil ?_
  refine .cut (fun fs w=>j9 fs ⟨59,[],[(4,.pointer (some ⟨b4,0,none⟩)),(3,I (i:Int)),(0,.func (.yield ly) #[] #[]),(1,.pointer (some ⟨b,0,none⟩))]⟩∧St H1 w (.blk b4 [I (i:Int),I (((if eN l i then 2 else 1:Nat)):Int)]::(σb++σf))) ?_ ?_
  ·refine .ai (.z zm (.z cq (.y hs (zld ak) (.z (c9 aa) (.z gx (.nil ?_))))))
   refine (.bM rfl (fun hc18=>?_) (fun hc18=>?_))
   ·refine .seq (.draw mix rfl hs fun w hs=>?_)
    refine .y 0 rfl hs ak ?_;refine .z 1 rfl zm ?_;refine .z 2 rfl cq ?_
    have r1:=hp.rise i aj
    have r2:gi l (i+1)<gi l (i+2):=hp.rise (i+1) aj
    have hiff:=AB hp (i:=i) aj
    have q1:=hp.bd (i:=i) aj
    have q2:=hp.bd (i:=i+2) aj
    refine .ixX (enc:=fun x=>[I x]) (i:=3) hs rfl an .none (hr.mono hle1) rfl rfl aa af (bL (l:=l) (i:=(i+1)) aj) dy ?_;intro b22 o22 hc22;replace hc22:=bB.one hc22
    refine .r (i:=4) hs rfl an .none (aK rfl ae hc22) ?_
    refine .y 5 rfl hs ak ?_;refine .z 6 rfl zm ?_
    refine .ixX (enc:=fun x=>[I x]) (i:=7) hs rfl an .none (hr.mono hle1) rfl rfl aa af (bL (l:=l) (i:=i) aj) dy ?_;intro b26 o26 hc26;replace hc26:=bB.one hc26
    refine .r (i:=8) hs rfl an .none (aK rfl ae hc26) ?_
    refine .z 9 rfl gW ?_;refine .y 10 rfl hs ak ?_;refine .z 11 rfl zm ?_;refine .z 12 rfl cq ?_
    refine .ixX (enc:=fun x=>[I x]) (i:=13) hs rfl an .none (hr.mono hle1) rfl rfl aa af (bL (l:=l) (i:=(i+2)) aj) dy ?_;intro b32 o32 hc32;replace hc32:=bB.one hc32
    refine .r (i:=14) hs rfl an .none (aK rfl ae hc32) ?_
    refine .y 15 rfl hs ak ?_;refine .z 16 rfl zm ?_;refine .z 17 rfl cq ?_
    refine .ixX (enc:=fun x=>[I x]) (i:=18) hs rfl an .none (hr.mono hle1) rfl rfl aa af (bL (l:=l) (i:=(i+1)) aj) dy ?_;intro b37 o37 hc37;replace hc37:=bB.one hc37
    refine .r (i:=19) hs rfl an .none (aK rfl ae hc37) ?_
    refine .z 20 rfl gW ?_;refine .z 21 rfl zg ?_;refine .z 22 rfl zg ?_;refine .D hs ?_
    refine .ai (.z zm (.z zm ?_))
    refine .o (.call Tryz.call277 rfl (iI hs aj aj) ?_);rintro _ w ⟨rfl,hs⟩
    refine .z kD (.z zm ?_)
    refine .iB (t':=44) rfl (fun hb44=>?_) (fun hb44=>?_)
    ·refine .gFs 4 4 false rfl rfl rfl ?_
     refine .z zpT (.nil ?_)
     refine (.cT ?_)
     refine .region (.z (zfa iF) ?_)
     refine .o (.store hs rfl rfl af fun w hs=>?_)
     refine .nil ?_
     refine nT ?_
     rw [hiff.2 (.inl hb44)];exact ⟨aR,hs⟩
    ·refine .gT rfl rfl ?_
     refine .z zm ?_
     refine .gT rfl rfl ?_
     refine .z zm ?_
     refine .gT rfl rfl ?_
     refine .o (.call Tryz.call277 rfl (iI hs aj aj) ?_);rintro _ w ⟨rfl,hs⟩
     refine .gT rfl rfl ?_
     refine .z kD (.z zpF (.nil ?_))
     refine (.bM rfl (fun hc49=>?_) (fun hc49=>?_))
     ·refine .region (.z (zfa iF) ?_)
      refine .o (.store hs rfl rfl af fun w hs=>?_)
      refine .nil ?_
      refine nT ?_
      rw [hiff.2 (.inr hc49)];exact ⟨aR,hs⟩
     ·refine .skip ?_
      refine nT ?_
      rw [show eN l i=false from Bool.eq_false_iff.2 fun h=>by have:=hiff.1 h;omega];exact ⟨aR,hs⟩
   ·refine .skip ?_
    refine nT ?_
    rw [show eN l i=false by simp [eN];omega];exact ⟨aR,hs⟩
  ·rintro fs w ⟨hfs,hs⟩
   refine WE.sub ?_ hfs
   have hgo:=tM (l:=l) (i:=i) aj
   rw [hgo] at hd
   have hjl:j<(mc l).length:=by
    have:=congrArg List.length hd
    simp at this;omega
   have hgj:(mc l)[j]=⟨i,eN l i⟩:=by
    rw [List.drop_eq_getElem_cons hjl] at hd
    exact (List.cons.inj hd).1
   have hdj:(mc l).drop (j+1)=mQ l (i+(if eN l i then 2 else 1)):=by
    rw [List.drop_eq_getElem_cons hjl] at hd
    exact (List.cons.inj hd).2
   have hn12:(if eN l i then 2 else 1:Nat)=1∨(if eN l i then 2 else 1:Nat)=2:=by split<;>simp
   refine .seq (.ai (.z zm (.y hs (zls [_,_] Tryz.isAgg300 oP) ?_)))
   have hk':j<(qw l).length:=by simpa [qw] using hjl
   have hyd:=hy j hk' H1 σb (.blk b4 [I (i:Int),I (((if eN l i then 2 else 1:Nat)):Int)]::σf) w hle1 hI (St.deep hs)
   rw [show (qw l)[j]=[Value.agg #[I (i:Int),I (((if eN l i then 2 else 1:Nat)):Int)]] by simp only [qw,List.getElem_map,hgj];rfl] at hyd
   refine .o (.yield rfl rfl hyd ?_);rintro v53 w ⟨H2,σ2,g1,hs,g3⟩
   obtain ⟨bb,rfl,gT,gF⟩:=o5 g3
   replace hs:=St.shallow hs
   refine .z ir (.nil ?_)
   refine (.cond rfl (fun hc54=>?_) (fun hc54=>?_))
   ·refine .ret (rT (rB (rT (rB (Fin.EZ Tryz.results295 ?_)))))
    exact ⟨H2,σ2,hle0.trans g1,hs.tail,.inr (gF (by simpa using hc54))⟩
   ·refine .skip ?_
    refine nT ?_
    refine .region (.z zm (.z (zfa iF) (.y hs (zld ae) (.z cq (.z zg (.nil ?_))))))
    refine nB (nT ?_)
    generalize (if eN l i then 2 else 1:Nat)=n at*
    exact ⟨i+n,.cj rfl bV aR,⟨aj,j+1,hjl,hdj,H2,σ2,hle1.trans g1,hle0.trans g1,gT (by simpa using hc54),hs.tail⟩,aj⟩
 ·refine .exit ?_
  refine xT (xT (xB ?_))
  rw [rF aj] at hd
  have:(mc l).length≤j:=by simpa using hd
  obtain rfl:j=(mc l).length:=by omega
  exact Fin.xV Tryz.results295 ⟨H1,σb,hle0,hs,.inl (by simpa [qw] using hI)⟩
theorem q7{v:Value}{l:List Int}(hs:St H w σ)(hr:RI H v l)(hp:eX 9 100000 l):
  Cl Tryz.prog 276 [v] w fun u w'=>∃H1 b,HLe H H1∧u= .func (.func 295) #[] #[.pointer (some ⟨b,0,none⟩)]∧Iter Tryz.prog 295 [.pointer (some ⟨b,0,none⟩)] H1 (qw l)∧St H1 w' σ:=by
 obtain ⟨a,c,rfl⟩:=RI.shape hr
 refine Cl.o Tryz.func276 Tryz.ntmps276 ag1 ?_
 refine .ai ?_
 refine .bx hs fun b1 w hs=>?_
 refine .z zg (.nil (.ai ?_))
 refine .q hs (dR (f:=[]) (c:=[_]) rfl rfl) ?_
 refine .z zg (.nil ?_)
 refine .ret (Fin.bJ Tryz.results276 rfl ?_)
 obtain ⟨H1,g1,g2,hs⟩:=hs.cK .here
 exact ⟨H1,b1,g1,rfl,o8 hp g2 (hr.mono g1),hs⟩
theorem oR{bs bW from_ n:Nat}{W xs:List Int}{v:Value}(hs:St H w (.blk bs [.slice (some ⟨bW,0,none⟩) n n]:: .blk bW (Is W)::σ))(hW:W.length=n)(hr:RI H v xs)(hl:from_+xs.length≤n)(hn:n≤9)
  (hz:bG W n≤1000000000) (ha:vq xs≤1000000000):
  Cl Tryz.prog 275 [.pointer (some ⟨bs,0,none⟩),I (from_:Int),v] w fun _ w'=>St H w' (.blk bs [.slice (some ⟨bW,0,none⟩) n n]:: .blk bW (Is (kO W from_ xs))::σ):=by
 obtain ⟨a,c,rfl⟩:=RI.shape hr
 have hlen:=(RI.len hr).2.2
 refine Cl.o Tryz.func275 Tryz.ntmps275 ag3 ?_
 refine .ai (.z zm (.z (c9 aa) (.z zm (.nil ?_))))
 refine .for (N:=xs.length) (J:=fun k fr w=>fr=[(8,.slice a xs.length c),(0,.pointer (some ⟨bs,0,none⟩)),(1,I (from_:Int))]∧St H w (.blk bs [.slice (some ⟨bW,0,none⟩) n n]:: .blk bW (Is (kO W from_ (xs.take k)))::σ)) aj ?_ ?_ ?_
 ·exact .mk ⟨rfl,hs⟩
 ·rintro k fr w hk ⟨rfl,hs⟩
  have hal:=nX (xs.take k) W from_
  have hsz:=pN (xs.take k) W from_ (by rw [List.length_take];omega)
  rw [hW] at hsz
  have h1:=xO xs k
  have h2:=BN xs k
  have h3:=iJ (kO W from_ (xs.take k)) (v:=from_+k) (n:=n) aj
  have h4:=Ao hk W from_
  refine .block (.ai (.z zm ?_))
  refine .ixY hs hr rfl rfl aa af (bL (l:=xs) (i:=k) aj) dy ?_;intro b13 o13 hc13
  refine .q hs (aK rfl ae hc13) ?_
  refine .z zg (.z zg (.nil (.region (.z zm (.z znc (.z (zfa oT) (.y hs (zld ak) (.z zm (.z zm ?_)))))))))
  refine .z cq ?_
  refine .q hs (dG (k:=from_+k) rfl rfl aa af aj aj) ?_
  refine .y hs (zld ae) (.z zm (.z cq ?_))
  refine .q hs (dG (k:=from_+k) rfl rfl aa af aj aj) ?_
  refine .o (.store hs rfl rfl af fun w hs=>?_)
  refine .nil ?_
  refine nB (nT ?_)
  exact .mk ⟨rfl,by rw [h4];exact hs⟩
 ·rintro fr w ⟨rfl,hs⟩
  rw [List.take_length] at hs
  exact Fin.xV Tryz.results275 hs
theorem u6{a b:Int}(ha:0<a∧a≤100000)(hb:0<b∧b≤100000):0≤min a b∧min a b≤100000:=by omega
theorem AE{a b:Int}(h:0<tms a b):tms a b=1∨tms a b=2∨tms a b=3:=by have:=Dt a b;omega
set_option maxHeartbeats 1000000 in
theorem iZ{v:Value}{l:List Int}(hs:St H w σ)(hr:RI H v l)(hp:eX 9 100000 l):
  Cl Tryz.prog 248 [v] w fun u w'=>∃H1,HLe H H1∧RI H1 u (wts l)∧St H1 w' σ:=by
 obtain ⟨a,c,rfl⟩:=RI.shape hr
 have hln:=hp.many
 have hgl:(mc l).length≤9:=by have:=lj l l.length 0;unfold mc;omega
 refine Cl.o Tryz.func248 Tryz.ntmps248 ag1 ?_
 refine .ai ?_
 refine .bx hs fun b1 w hs=>?_
 refine .z zg (.nil (.ai (.y hs (zld ak) (.z (c9 aa) ?_))))
 refine .o (.oE l.length hs rfl rfl aa dC rfl af bI aj fun b13 w hs=>?_)
 refine .z (zbd [_] wH) ?_
 refine .o (.alloc hs Tryz.zeroValue294 rfl fun b3 w hs=>?_)
 refine .o (.aU (vs:=[_]) hs rfl rfl Tryz.sizeOf294 fun w hs=>?_)
 refine .nil (.ai ?_)
 refine .q hs (dR (f:=[_]) (c:=[]) rfl rfl) ?_
 refine .o (.alloc hs Tryz.zeroValue295 rfl fun b4 w hs=>?_)
 refine .o (.store hs rfl rfl Tryz.sizeOf295 fun w hs=>?_)
 refine .nil (.seq (.ai (.y hs (zld ak) ?_)))
 refine .o (.call Tryz.call276 rfl (q7 hs hr hp) ?_);rintro _ w ⟨H1,b17,hle1,rfl,hit,hs⟩
 refine .nil (.block ?_)
 refine .rangeFunc (gf:=295) (cap:=[.pointer (some ⟨b17,0,none⟩)]) (xs:=qw l) (σb:=[.blk b3 [.slice (some ⟨b13,0,none⟩) l.length l.length],.blk b13 (Is (s4 l 0)),.blk b4 [.func (.func 275) #[.pointer (some ⟨b3,0,none⟩)] #[]],.blk b1 [.slice a l.length c]]) (σf:=σ) (hs.sb) trivial rfl hit Tryz.call295 (fun x hx=>by
   simp only [qw,List.mem_map] at hx
   obtain ⟨j,_,rfl⟩:=hx;rfl) rfl
  (I:=fun j H' σb=>σb=[.blk b3 [.slice (some ⟨b13,0,none⟩) l.length l.length],.blk b13 (Is (s4 l j)),.blk b4 [.func (.func 275) #[.pointer (some ⟨b3,0,none⟩)] #[]],.blk b1 [.slice a l.length c]]) (Ix:=fun _ _ _=>False)
  (fun j _ _ σ g1 g2=>g2) (fun _ _ _ _ _ h=>h) rfl ?_ ?_ (fun D c H' σb w _ h _=>h.elim)
 ·rintro ly j hj H2 σb2 σf2 w hle2 rfl hs ⟨rr,hrr⟩
  have hjl:j<(mc l).length:=by simpa [qw] using hj
  obtain ⟨g,hg⟩:=nth hjl
  rw [show (qw l)[j]=[Value.agg #[I (g.at_:Int),I (g.n:Int)]] by
   rw [List.getElem?_eq_getElem hjl] at hg
   simp only [qw,List.getElem_map,Option.some.inj hg]]
  obtain ⟨i1,i2,i3,i4,i5⟩:=tN hp (List.mem_of_getElem? hg)
  have hK:=sZ hg
  have hKl:=mn l j
  have hKz:=qZ hp j aj
  have hr2:=hr.mono (hle1.trans hle2)
  have hq0:=hp.bd (i:=g.at_) aj
  have hq1:=hp.bd (i:=g.at_+1) aj
  generalize hA:gi l (g.at_+1) - gi l g.at_=A at*
  refine .region ?_
  refine .o (.alloc hs wU rfl fun b5 w hs=>?_)
  refine .o (.aU (vs:=[_,_]) hs rfl rfl oP fun w hs=>?_)
  refine .nil ?_
  refine nT ?_
  refine ⟨H2,[.blk b5 [I (g.at_:Int),I (g.n:Int)],.blk b3 [.slice (some ⟨b13,0,none⟩) l.length l.length],.blk b13 (Is (s4 l j)),.blk b4 [.func (.func 275) #[.pointer (some ⟨b3,0,none⟩)] #[]],.blk b1 [.slice a l.length c]],HLe.refl _,hs,?_⟩;rintro w σf4 - hs
  refine .block ?_
  refine .seq (.draw mix rfl hs fun w hs=>?_)
  refine .y 0 rfl hs ak ?_;refine .z 1 rfl (zfa fW) ?_;refine .y 2 rfl hs ae ?_;refine .z 3 rfl cq ?_
  refine .ixX (enc:=fun x=>[I x]) (i:=4) hs rfl an .none hr2 rfl rfl aa af (bL (l:=l) (i:=(g.at_+1)) aj) dy ?_;intro b23 o23 hc23;replace hc23:=bB.one hc23
  refine .r (i:=5) hs rfl an .none (aK rfl ae hc23) ?_
  refine .y 6 rfl hs ak ?_;refine .z 7 rfl (zfa fW) ?_;refine .y 8 rfl hs ae ?_
  refine .ixX (enc:=fun x=>[I x]) (i:=9) hs rfl an .none hr2 rfl rfl aa af (bL (l:=l) (i:=g.at_) aj) dy ?_;intro b28 o28 hc28;replace hc28:=bB.one hc28
  refine .r (i:=10) hs rfl an .none (aK rfl ae hc28) ?_
  refine .z 11 rfl gW ?_
  rw [hA]
  refine .z 12 rfl zg ?_;refine .D hs ?_
  refine .seq (.ai (.z (zfa iF) (.y hs (zld ae) (.z gC ?_))))
  skip
  refine .nil ?_
  refine (.bM rfl (fun hc33=>?_) (fun hc33=>?_))
  ·refine .ai ?_
   refine .y hs (zld Tryz.isAgg295) ?_
   refine .z (zfa fW) (.y hs (zld ae) (.z zm (.z ka (.z zm (.z ka ?_)))))
   refine .o (.buildSlice (cells:=[_,_]) hs iV rfl rfl fun b41 w hs=>?_)
   have h2:g.two=false:=by
    cases e:g.two with
    |false=>rfl
    |true=>simp [Grp.n,e] at hc33
   obtain ⟨H3,hle3,r41,hs⟩:=cn.dI (xs:=[18*A,18*A]) (v:= .slice (some ⟨b41,0,none⟩) 2 2) (.full (len:=2) rfl) bV hs cZ
   have hgw:=zk h2 hA
   rw [hgw] at hK i5
   replace hs:St H3 w (.blk b3 [.slice (some ⟨b13,0,none⟩) l.length l.length]:: .blk b13 (Is (s4 l j)):: .blk b5 [I (g.at_:Int),I (g.n:Int)]:: .blk b4 [.func (.func 275) #[.pointer (some ⟨b3,0,none⟩)] #[]]:: .blk b1 [.slice a l.length c]::σf4):=hs.sb
   refine .o (.pH (first:=[.pointer (some ⟨b3,0,none⟩)]) (cap:=[]) rfl rfl Tryz.call275 (oR (from_:=g.at_) (xs:=[18*A,18*A]) hs hKl r41 (by simp;omega) aj aj aj) ?_);rintro _ w hs
   rw [←hK] at hs
   refine .nil ?_
   refine .exit ?_
   refine xT (xB ?_)
   exact ⟨H3,_,hle3,(hs.sb:St H3 w (.blk b3 _:: .blk b13 _:: .blk b4 _:: .blk b1 _::σf4)),rfl⟩
  ·refine .skip ?_
   refine nT ?_
   refine .seq (.draw mix rfl hs fun w hs=>?_)
   have h2:g.two=true:=by
    cases e:g.two with
    |true=>rfl
    |false=>simp [Grp.n,e] at hc33
   obtain ⟨j1,j2,j3,j4⟩:=i4 h2
   have hq2:=hp.bd (i:=g.at_+2) aj
   generalize hB:gi l (g.at_+2) - gi l (g.at_+1)=B at*
   have hmx:=AD (a:=A) (b:=B) aj aj
   have hk:=AE j4
   have hmm:=u6 (a:=A) (b:=B) ⟨aj,aj⟩ ⟨aj,aj⟩
   obtain ⟨n1,n2,n3,n4⟩:=zi hk hmm.1 hmm.2
   obtain ⟨n5,n6,n7,n8,n9⟩:=n4 _ n3.1 n3.2
   generalize hT:tms A B=T at*
   generalize hM:min A B=M at*
   have hgw:=zj h2 hA hB hT hM
   refine .y 0 rfl hs ak ?_;refine .z 1 rfl (zfa fW) ?_;refine .y 2 rfl hs ae ?_;refine .z 3 rfl cq ?_
   refine .ixX (enc:=fun x=>[I x]) (i:=4) hs rfl an .none hr2 rfl rfl aa af (bL (l:=l) (i:=(g.at_+2)) aj) dy ?_;intro b47 o47 hc47;replace hc47:=bB.one hc47
   refine .r (i:=5) hs rfl an .none (aK rfl ae hc47) ?_
   refine .y 6 rfl hs ak ?_;refine .z 7 rfl (zfa fW) ?_;refine .y 8 rfl hs ae ?_;refine .z 9 rfl cq ?_
   refine .ixX (enc:=fun x=>[I x]) (i:=10) hs rfl an .none hr2 rfl rfl aa af (bL (l:=l) (i:=(g.at_+1)) aj) dy ?_;intro b53 o53 hc53;replace hc53:=bB.one hc53
   refine .r (i:=11) hs rfl an .none (aK rfl ae hc53) ?_
   refine .z 12 rfl gW ?_
   rw [hB]
   refine .z 13 rfl zg ?_;refine .D hs ?_
   refine .ai (.z zm (.z zm ?_))
   refine .o (.call Tryz.call277 rfl (iI hs aj aj) ?_);rintro _ w ⟨rfl,hs⟩
   refine .z zm (.z zm ?_)
   refine .o (.call Tryz.call277 rfl (iI hs aj aj) ?_);rintro _ w ⟨rfl,hs⟩
   refine .z DM ?_
   rw [←hmx]
   refine .z zg (.nil (.ai (.z zm ?_)))
   refine .q hs (uY rfl rfl aj aj) ?_
   refine .z zm (.z cq (.z ka (.z zm (.z zm (.z As ?_)))))
   rw [hM]
   refine .z ka (.z zg (.nil (.ai (.z zm (.z zm (.z ka (.z zm (.z gW (.z ka ?_)))))))))
   refine .z zm (.z zm (.z cq (.z ka (.z zm (.z cq (.z ka (.z zm (.z zm (.z ka ?_)))))))))
   refine .z gW (.z ka ?_)
   refine .o (.buildSlice (cells:=[_,_,_]) hs xI rfl rfl fun b90 w hs=>?_)
   refine .z zg (.nil ?_)
   refine .cut (fun fs w=>∃H3,j9 fs ⟨103,[],[(10,.slice (some ⟨b90,0,none⟩) 3 3),(5,.pointer (some ⟨b5,0,none⟩)),(4,.pointer (some ⟨b4,0,none⟩)),(3,.pointer (some ⟨b3,0,none⟩)),(1,.pointer (some ⟨b1,0,none⟩))]⟩∧HLe H2 H3∧RI H3 (.slice (some ⟨b90,0,none⟩) 3 3) (uD l g)∧St H3 w (.blk b3 [.slice (some ⟨b13,0,none⟩) l.length l.length]:: .blk b13 (Is (s4 l j)):: .blk b5 [I (g.at_:Int),I (g.n:Int)]:: .blk b4 [.func (.func 275) #[.pointer (some ⟨b3,0,none⟩)] #[]]:: .blk b1 [.slice a l.length c]::σf4)) ?_ ?_
   ·refine .ai (.z zm (.z zm (.z kD (.nil ?_))))
    refine (.bM rfl (fun hc93=>?_) (fun hc93=>?_))
    ·refine .region (.z zm ?_)
     refine .o (.call Tryz.call128 rfl (kZ (en:= .blk b90 (Is [(6:Int).tdiv T*(1+T)*M*T*(2 - T),(6:Int).tdiv T*(1+T)*M*(1+T)*(1+T),(6:Int).tdiv T*(1+T)*M*(2*T - 1)])) (hs.sb:St H2 w (.blk b90 _:: .blk b3 _:: .blk b13 _:: .blk b5 _:: .blk b4 _:: .blk b1 _::σf4)) (.full rfl) bV) ?_);rintro _ w ⟨en95,hO95,hs⟩
     refine .nil ?_
     refine nT ?_
     obtain ⟨H3,hle3,r90,hs⟩:=cn.dI hO95 bV hs .here
     rw [if_pos hc93] at hgw
     rw [hgw]
     exact ⟨H3,aR,hle3,r90,hs⟩
    ·refine .skip ?_
     refine nT ?_
     obtain ⟨H3,hle3,r90,hs⟩:=cn.dI (xs:=[(6:Int).tdiv T*(1+T)*M*T*(2 - T),(6:Int).tdiv T*(1+T)*M*(1+T)*(1+T),(6:Int).tdiv T*(1+T)*M*(2*T - 1)]) (v:= .slice (some ⟨b90,0,none⟩) 3 3) (.full (len:=3) rfl) bV hs cZ
     rw [if_neg aj] at hgw
     rw [hgw]
     exact ⟨H3,aR,hle3,r90,hs.sb⟩
   ·rintro fs w ⟨H3,hfs,hle3,r90,hs⟩
    refine WE.sub ?_ hfs
    refine .region ?_
    refine .y hs (zld Tryz.isAgg295) ?_
    refine .z (zfa fW) (.y hs (zld ae) (.z zm ?_))
    refine .o (.pH (first:=[.pointer (some ⟨b3,0,none⟩)]) (cap:=[]) rfl rfl Tryz.call275 (oR (from_:=g.at_) (xs:=uD l g) hs hKl r90 (by rw [zn,show g.n=2 by unfold Grp.n;rw [h2];rfl];omega) aj aj aj) ?_);rintro _ w hs
    rw [←hK] at hs
    refine .nil ?_
    refine nB ?_
    exact ⟨H3,_,hle3,(hs.sb:St H3 w (.blk b3 _:: .blk b13 _:: .blk b4 _:: .blk b1 _::σf4)),rfl⟩
 ·rintro D H2 σb2 w hle2 rfl hs
  rw [show (qw l).length=(mc l).length by simp [qw],yP] at hs
  replace hs:St H2 w (.obj D (.deferred (some [])):: .blk b3 [.slice (some ⟨b13,0,none⟩) l.length l.length]:: .blk b13 (Is (wts l)):: .blk b4 [.func (.func 275) #[.pointer (some ⟨b3,0,none⟩)] #[]]:: .blk b1 [.slice a l.length c]::σ):=hs
  refine nB (nT ?_)
  refine .ai (.z (zfa oT) (.y hs (zld ak) (.z zg (.nil ?_))))
  refine .ret ?_
  obtain ⟨H3,hle3,hR,hs⟩:=cn.dI (xs:=wts l) (v:= .slice (some ⟨b13,0,none⟩) l.length l.length) (.full (by simp [Is,eJ])) (by rw [eJ];omega) hs cZ
  exact Fin.iK [D] [] hs fun w hs=>⟨_,results1 Tryz.results248 rfl,H3,hle1.trans (hle2.trans hle3),hR,hs.out⟩
def wP(X Y:List Int)(i:Nat):List Int:=(List.range Y.length).map fun k=>gi X i*gi Y k
def me(X Y:List Int)(i:Nat):List (List Int):=(List.range i).map (wP X Y)
theorem jE(X Y:List Int)(i:Nat):(wP X Y i).length=Y.length:=by simp [wP]
theorem jV(X Y:List Int)(i:Nat):(me X Y i).length=i:=by simp [me]
theorem vg(X Y:List Int)(i:Nat):me X Y (i+1)=me X Y i++[wP X Y i]:=by simp [me,List.range_succ]
theorem xa{X Y:List Int}{i k:Nat}(hk:k<Y.length):(wP X Y i).take (k+1)=(wP X Y i).take k++[gi X i*gi Y k]:=by
 rw [ep (by simp [wP,hk]:(wP X Y i)[k]? =some (gi X i*gi Y k))]
theorem wk{X Y:List Int}{n i:Nat}(h:i<n):gr (me X Y n) i=wP X Y i:=by simp [gr,List.getD,me,h]
theorem zp{X Y:List Int}{n i k:Nat}(h:i<n)(hk:k<Y.length):gt (me X Y n) i k=gi X i*gi Y k:=by
 unfold gt;rw [wk h];simp [gi,List.getD,wP,hk]
inductive GrS(X Y:List Int)(b:Nat)(i k:Nat)(H:cf)(σ:List Ent):Prop
 |go (us:List Value) (v:Value) (en:Ent) (h:i<X.length) (h1:RLs H us (me X Y i)) (h2:cn 1 v (Is ((wP X Y i).take k)) en) (h3:σ=[.blk b (us++v::List.replicate (X.length - i - 1) (.slice none 0 0)),en])
 |fin (us:List Value) (h:i=X.length) (h1:RLs H us (me X Y i)) (h3:σ=[.blk b us])
theorem GrS.mono{X Y:List Int}{b i k:Nat}{H H':cf}{σ:List Ent}(h:GrS X Y b i k H σ)(hl:HLe H H'):GrS X Y b i k H' σ:=by
 cases h with
 |go us v en h h1 h2 h3=>exact .go us v en h (h1.mono hl) h2 h3
 |fin us h h1 h3=>exact .fin us h (h1.mono hl) h3
theorem kX{v:Value}{l:List Int}(hs:St H w σ)(hr:RI H v l):
  Cl Tryz.prog 273 [v] w fun u w'=>∃H1 vo e,HLe H H1∧u= .tuple #[vo,I e]∧(eX 9 100000 l→e=0∧RI H1 vo (wts l))∧St H1 w' σ:=by
 obtain ⟨a,c,rfl⟩:=RI.shape hr
 refine Cl.o Tryz.func273 Tryz.ntmps273 ag1 ?_
 refine .ai (.z zg (.z zg (.nil (.seq (.ai (.z zm ?_))))))
 refine .o (.call Tryz.call294 rfl (mX hs hr) ?_);rintro _ w ⟨e,rfl,he,hs⟩
 refine .z zg (.nil (.ai (.z zm (.z ij (.nil ?_)))))
 refine (.eQ rfl (fun hc8=>?_) (fun hc8=>?_))
 ·refine .ai (.z zm (.z zg (.z zg (.nil ?_))))
  refine .ret (rT (Fin.nh Tryz.results273 rfl rfl ?_))
  exact ⟨H,_,_,HLe.refl H,rfl,fun h=>by rcases he with ⟨_,h2⟩|⟨h1,_⟩;exact (hc8 h2).elim;exact (h1 h).elim,hs⟩
 ·refine .skip ?_
  refine nT ?_
  refine .ai (.z zm ?_)
  have hp:eX 9 100000 l:=by rcases he with ⟨h,_⟩|⟨_,h2⟩;exact h;exact (h2 (by simpa using hc8)).elim
  refine .o (.call Tryz.call248 rfl (iZ hs hr hp) ?_);rintro v11 w ⟨H1,hle1,hR,hs⟩
  refine .z zg (.z zg (.nil ?_))
  refine .ret (Fin.nh Tryz.results273 rfl rfl ?_)
  exact ⟨H1,_,_,hle1,rfl,fun _=>⟨rfl,hR⟩,hs⟩
theorem q6{v1 v2:Value}{a b:List Int}(hs:St H w σ)(h1:RI H v1 a)(h2:RI H v2 b):
  Cl Tryz.prog 191 [v1,v2] w fun u w'=>∃bb:Bool,u= .bool bb∧(bb=true↔eX 9 100000 a∧eX 7 15000 b)∧St H w' σ:=by
 refine Cl.o Tryz.func191 Tryz.ntmps191 ag2 ?_
 refine .ai (.z zg (.nil (.ai (.z zm ?_))))
 refine .o (.call Tryz.call247 rfl (iz (many:=9) (most:=100000) hs h1) ?_);rintro _ w ⟨b6,rfl,hb6,hs⟩
 refine .z zm ?_
 refine .bif (t':=7) rfl (fun hb7=>?_) (fun hb7=>?_)
 ·refine .gT rfl rfl ?_
  refine .z zm ?_
  refine .gT rfl rfl ?_
  refine .o (.call Tryz.call247 rfl (iz (many:=7) (most:=15000) hs h2) ?_);rintro _ w ⟨b9,rfl,hb9,hs⟩
  refine .z zpT (.z zg (.nil ?_))
  refine .ret (Fin.bJ Tryz.results191 rfl ?_)
  exact ⟨_,rfl,by rw [hb9];exact ⟨fun h=>⟨hb6.1 hb7,h⟩,fun h=>h.2⟩,hs⟩
 ·refine .gFs 2 2 true rfl rfl rfl ?_
  refine .z zpF (.z zg (.nil ?_))
  refine .ret (Fin.bJ Tryz.results191 rfl ?_)
  exact ⟨_,rfl,⟨fun h=>(by cases h),fun h=>by rw [hb6.2 h.1] at hb7;cases hb7⟩,hs⟩
theorem oA{bx by_:Nat}{x y:Int}(hs:St H w σ)(hx:Row H bx [I x])(hy:Row H by_ [I y]):
  Cl Tryz.prog 279 [.pointer (some ⟨bx,0,none⟩),.pointer (some ⟨by_,0,none⟩)] w fun u w'=>u= .tuple #[I x,I y]∧St H w' σ:=by
 have hx0:=hx.at 0
 have hy0:=hy.at 0
 refine Cl.o Tryz.func279 Tryz.ntmps279 ag2 ?_
 refine .ai (.z zg (.z zg (.nil ?_)))
 refine .seq (.draw mix rfl hs fun w hs=>?_)
 refine .y 0 rfl hs ae ?_;refine .y 1 rfl hs ae ?_;refine .z 2 rfl zg ?_;refine .z 3 rfl zg ?_;refine .D hs ?_
 refine .ret (Fin.nh Tryz.results279 rfl rfl ?_)
 exact ⟨rfl,hs⟩
def PrE(X Y:List Int)(p:Nat)(H:cf)(z:List Value):Prop:=
 ∃bx by_,z=[.agg #[I ((p/Y.length:Nat):Int),I ((p%Y.length:Nat):Int)],.func (.func 279) #[] #[.pointer (some ⟨bx,0,none⟩),.pointer (some ⟨by_,0,none⟩)]]∧Row H bx [I (gi X (p/Y.length))]∧Row H by_ [I (gi Y (p%Y.length))]
theorem pV{H:cf}{b1 b2:Nat}{v1 v2:Value}{X Y:List Int}(hb1:Row H b1 [v1])(hb2:Row H b2 [v2])(hX:RI H v1 X)(hY:RI H v2 Y)(hXl:X.length≤1000)(hYl:Y.length≤1000):
  Dg Tryz.prog 278 [.pointer (some ⟨b1,0,none⟩),.pointer (some ⟨b2,0,none⟩)] H (X.length*Y.length) (PrE X Y):=by
 intro ly II Ix hmI _ hy H0 σb0 σf w hle hI0 hs
 obtain ⟨a1,c1,rfl⟩:=RI.shape hX
 obtain ⟨a2,c2,rfl⟩:=RI.shape hY
 have h01:cellAt H0 b1 0=some (.slice a1 X.length c1):=cellAt.mono (hb1.at 0) hle
 have h02:cellAt H0 b2 0=some (.slice a2 Y.length c2):=cellAt.mono (hb2.at 0) hle
 refine Cl.o Tryz.func278 Tryz.ntmps278 ag3 ?_
 refine .ai (.y hs (zld ak) (.z (c9 aa) (.z zm (.nil ?_))))
 refine .for (N:=X.length) (J:=fun i fr w=>fr=[(8,.slice a1 X.length c1),(0,.func (.yield ly) #[] #[]),(1,.pointer (some ⟨b1,0,none⟩)),(2,.pointer (some ⟨b2,0,none⟩))]∧∃H1 σb,HLe H H1∧HLe H0 H1∧II (i*Y.length) H1 σb∧St H1 w (σb++σf)) aj ?_ ?_ ?_
 ·exact .mk ⟨rfl,H0,σb0,hle,HLe.refl _,by rw [Nat.zero_mul];exact hI0,hs⟩
 ·rintro i fr w hi ⟨rfl,H1,σb,hle1,hle0,hI,hs⟩
  refine .block (.ai (.z zm ?_))
  refine .ixY hs (hX.mono hle1) rfl rfl aa af (bL (l:=X) (i:=i) aj) dy ?_;intro b13 o13 hc13
  refine .q hs (aK rfl ae hc13) ?_
  refine .o (.alloc hs bI rfl fun b5 w hs=>?_)
  refine .z zg ?_
  refine .o (.store hs rfl rfl af fun w hs=>?_)
  refine .nil (.ai ?_)
  obtain ⟨H2,hle2,r5,hs⟩:=hs.cK (b:=b5) .here
  have h22:=cellAt.mono h02 (hle0.trans hle2)
  refine .y hs (zld ak) (.z (c9 aa) (.z zm (.nil ?_)))
  refine .for (N:=Y.length) (J:=fun k fr w=>fr=[(15,.slice a2 Y.length c2),(4,I (i:Int)),(10,I (i:Int)),(9,I (X.length:Int)),(5,.pointer (some ⟨b5,0,none⟩)),(8,.slice a1 X.length c1),(0,.func (.yield ly) #[] #[]),(1,.pointer (some ⟨b1,0,none⟩)),(2,.pointer (some ⟨b2,0,none⟩))]∧∃H3 σb,HLe H2 H3∧II (i*Y.length+k) H3 σb∧St H3 w (σb++σf)) aj ?_ ?_ ?_
  ·exact .mk ⟨rfl,H2,σb,HLe.refl _,hmI _ _ _ _ hle2 hI,hs⟩
  ·rintro k fr w hk ⟨rfl,H3,σb3,hle3,hI3,hs⟩
   have hle03:=hle0.trans (hle2.trans hle3)
   have hle13:=hle1.trans (hle2.trans hle3)
   refine .block (.ai (.z zm ?_))
   refine .ixY hs (hY.mono hle13) rfl rfl aa af (bL (l:=Y) (i:=k) aj) dy ?_;intro b20 o20 hc20
   refine .q hs (aK rfl ae hc20) ?_
   refine .o (.alloc hs bI rfl fun b7 w hs=>?_)
   refine .z zg ?_
   refine .o (.store hs rfl rfl af fun w hs=>?_)
   refine .nil (.ai (.z zm (.z zm (.z zm ?_))))
   refine .q hs (CD (vs:=[(0,I (i:Int)),(1,I (k:Int))]) (cells:=[I (i:Int),I (k:Int)]) Tryz.zeroValue90 rfl Tryz.runUnderlying90 af rfl) ?_
   refine .q hs (dR (f:=[]) (c:=[_,_]) rfl rfl) ?_
   obtain ⟨H4,hle4,r7,hs⟩:=hs.cK (b:=b7) .here
   obtain ⟨d1,d2⟩:=DX (nw:=Y.length) (i:=i) (k:=k) hk
   have hlt:i*Y.length+k<X.length*Y.length:=by
    have:=Nat.mul_le_mul_right Y.length (show i+1≤X.length by omega)
    rw [Nat.add_mul,Nat.one_mul] at this;omega
   have hyd:=hy (i*Y.length+k) hlt [.agg #[I (i:Int),I (k:Int)],.func (.func 279) #[] #[.pointer (some ⟨b5,0,none⟩),.pointer (some ⟨b7,0,none⟩)]] H4 σb3 σf w (hle13.trans hle4) ⟨b5,b7,by rw [d1,d2],by rw [d1];exact r5.mono (hle3.trans hle4),by rw [d2];exact r7⟩ (hmI _ _ _ _ hle4 hI3) hs
   refine .o (.yield rfl rfl hyd ?_);rintro v27 w ⟨H5,σ5,g1,hs,g3⟩
   obtain ⟨bb,rfl,gT,gF⟩:=o5 g3
   refine .z ir (.nil ?_)
   refine (.cond rfl (fun hc28=>?_) (fun hc28=>?_))
   ·refine .ret (rB (rT (rB (rB (rT (rB (Fin.EZ Tryz.results278 ?_)))))))
    exact ⟨H5,σ5,hle03.trans (hle4.trans g1),hs,.inr (gF (by simpa using hc28))⟩
   ·refine .skip ?_
    refine nB (nT ?_)
    exact .mk ⟨rfl,H5,σ5,hle3.trans (hle4.trans g1),gT (by simpa using hc28),hs⟩
  ·rintro fr w ⟨rfl,H3,σb3,hle3,hI3,hs⟩
   refine nB (nT ?_)
   exact .mk ⟨rfl,H3,σb3,hle1.trans (hle2.trans hle3),hle0.trans (hle2.trans hle3),by rw [Nat.add_mul,Nat.one_mul];exact hI3,hs⟩
 ·rintro fr w ⟨rfl,H1,σb,hle1,hle0,hI,hs⟩
  exact Fin.xV Tryz.results278 ⟨H1,σb,hle0,hs,.inl hI⟩
theorem si{v1 v2:Value}{X Y:List Int}(hs:St H w σ)(hX:RI H v1 X)(hY:RI H v2 Y)(hXl:X.length≤1000)(hYl:Y.length≤1000):
  Cl Tryz.prog 249 [v1,v2] w fun u w'=>∃H1 b1 b2,HLe H H1∧u= .func (.func 278) #[] #[.pointer (some ⟨b1,0,none⟩),.pointer (some ⟨b2,0,none⟩)]∧Dg Tryz.prog 278 [.pointer (some ⟨b1,0,none⟩),.pointer (some ⟨b2,0,none⟩)] H1 (X.length*Y.length) (PrE X Y)∧St H1 w' σ:=by
 obtain ⟨a1,c1,rfl⟩:=RI.shape hX
 obtain ⟨a2,c2,rfl⟩:=RI.shape hY
 refine Cl.o Tryz.func249 Tryz.ntmps249 ag2 ?_
 refine .ai ?_
 refine .bx hs fun b2 w hs=>?_
 refine .bx hs fun b3 w hs=>?_
 refine .z zg (.nil (.ai ?_))
 refine .q hs (dR (f:=[]) (c:=[_,_]) rfl rfl) ?_
 refine .z zg (.nil ?_)
 refine .ret (Fin.bJ Tryz.results249 rfl ?_)
 obtain ⟨H1,g1,r1,hs⟩:=hs.cK (b:=b2) cZ
 obtain ⟨H2,g2,r2,hs⟩:=hs.cK (b:=b3) cZ
 exact ⟨H2,b2,b3,g1.trans g2,rfl,pV (r1.mono g2) r2 (hX.mono (g1.trans g2)) (hY.mono (g1.trans g2)) hXl hYl,hs⟩
set_option maxHeartbeats 1000000 in
theorem s7{v1 v2:Value}{l1 l2:List Int}(hs:St H w σ)(hr1:RI H v1 l1)(hr2:RI H v2 l2)(hp1:eX 9 100000 l1)(hp2:eX 7 15000 l2):
  Cl Tryz.prog 192 [v1,v2] w fun u w'=>∃H1,HLe H H1∧RT H1 u (me (wts l1) (wts l2) l1.length)∧St H1 w' σ:=by
 obtain ⟨a1,c1,rfl⟩:=RI.shape hr1
 obtain ⟨a2,c2,rfl⟩:=RI.shape hr2
 have hn1:=hp1.many
 have hn2:=hp2.many
 have htw1:=hp1.two
 have htw2:=hp2.two
 have hp2':eX 9 100000 l2:=⟨hp2.two,aj,hp2.low,by have:=hp2.high;omega,hp2.rise⟩
 have hXl:=eJ l1
 have hYl:=eJ l2
 have hXb:=yO hp1
 have hYb:=yO hp2
 refine Cl.o Tryz.func192 Tryz.ntmps192 ag2 ?_
 refine .ai (.z zg (.nil (.ai (.z zm ?_))))
 refine .o (.call Tryz.call248 rfl (iZ hs hr1 hp1) ?_);rintro v13 w ⟨H1,hle1,hX,hs⟩
 refine .z zm ?_
 refine .o (.call Tryz.call248 rfl (iZ hs (hr2.mono hle1) hp2') ?_);rintro v15 w ⟨H2,hle2,hY,hs⟩
 replace hX:=hX.mono hle2
 generalize wts l1=X at*
 generalize wts l2=Y at*
 obtain ⟨aX,cX,rfl⟩:=RI.shape hX
 obtain ⟨aY,cY,rfl⟩:=RI.shape hY
 refine .z zg (.z zg (.nil (.ai (.z zm (.z (c9 aa) ?_)))))
 refine .o (.Eh l1.length hs rfl rfl aq Tryz.typeInfo22 rfl aC ek aj fun b18 w hs=>?_)
 refine .o (.alloc hs Tryz.zeroValue61 rfl fun b7 w hs=>?_)
 refine .o (.store hs rfl rfl Tryz.sizeOf61 fun w hs=>?_)
 refine .nil (.seq (.ai (.z zm (.z zm ?_))))
 refine .o (.call Tryz.call249 rfl (si hs hX hY aj aj) ?_);rintro _ w ⟨H3,bp1,bp2,hle3,rfl,hit,hs⟩
 have hle03:=hle1.trans (hle2.trans hle3)
 have h0:GrS X Y b18 0 0 H3 [.blk b18 (List.replicate l1.length (.slice none 0 0)),.nul]:=by
  refine .go [] (.slice none 0 0) .nul aj (RLs.nil _) (.nil 1 none) ?_
  rw [hXl]
  obtain ⟨m,hm⟩:∃m,l1.length=m+1:=⟨l1.length - 1,aj⟩
  rw [hm]
  rfl
 refine .nil (.block ?_)
 refine .Dz (gf:=278) (cap:=[.pointer (some ⟨bp1,0,none⟩),.pointer (some ⟨bp2,0,none⟩)]) (N:=X.length*Y.length) (E:=PrE X Y) (σb:= .blk b7 [.slice (some ⟨b18,0,none⟩) l1.length l1.length]::[.blk b18 (List.replicate l1.length (.slice none 0 0)),.nul]) (σf:=σ) (hs.nul.sb) trivial rfl hit Tryz.call278 (fun k H' z ⟨_,_,hz,_⟩=>by rw [hz];rfl) rfl
  (I:=fun p H' σb=>∃σ1,σb= .blk b7 [.slice (some ⟨b18,0,none⟩) l1.length l1.length]::σ1∧GrS X Y b18 (p/Y.length) (p%Y.length) H' σ1) (Ix:=fun _ _ _=>False)
  (fun j _ _ σ g1 ⟨σ1,g2,g3⟩=>⟨σ1,g2,g3.mono g1⟩) (fun _ _ _ _ _ h=>h) ⟨_,rfl,by rw [Nat.zero_div,Nat.zero_mod];exact h0⟩ ?_ ?_ (fun D c H' σb w _ h _=>h.elim)
 ·rintro ly p hp z H4 σb2 σf2 w hle4 ⟨bx,by_,rfl,rx,ry⟩ ⟨σ1,rfl,hG⟩ hs ⟨rr,hrr⟩
  have hnext:=y9 (p:=p) (m:=Y.length) aj
  have hkm:=Nat.mod_lt p (show 0<Y.length by omega)
  have hin:p/Y.length<X.length:=Nat.div_lt_of_lt_mul (by rw [Nat.mul_comm];exact hp)
  generalize hi:p/Y.length=i at*
  generalize hk:p%Y.length=k at*
  cases hG with
  |fin us h=>omega
  |go us v en h h1 h2 h3=>
  subst h3
  obtain ⟨av,lv,cv,rfl,hlv⟩:=h2.shape
  have husl:us.length=i:=by rw [h1.1,jV]
  have hb1:=hXb i
  have hb2:=hYb k
  have hpr:=DK (gi X i) (gi Y k)
  have hprb: -3456000000000≤gi X i*gi Y k∧gi X i*gi Y k≤3456000000000:=lh (A:=4800000) (B:=720000) (by unfold ab at hb1;omega) (by unfold ab at hb2;omega)
  refine .ai ?_
  refine .o (.alloc hs Tryz.zeroValue90 rfl fun b8 w hs=>?_)
  refine .o (.aU (vs:=[_,_]) hs rfl rfl Tryz.sizeOf90 fun w hs=>?_)
  refine .nil (.region (.z zg (.nil ?_)))
  refine nT ?_
  refine ⟨H4,[.blk b8 [I (i:Int),I (k:Int)],.blk b7 [.slice (some ⟨b18,0,none⟩) l1.length l1.length],.blk b18 (us++Value.slice av lv cv::List.replicate (X.length - i - 1) (Value.slice none 0 0)),en],HLe.refl _,hs,?_⟩;rintro w σf4 - hs
  refine .block (.ai (.z zm ?_))
  refine .o (.pH (first:=[]) (cap:=[.pointer (some ⟨bx,0,none⟩),.pointer (some ⟨by_,0,none⟩)]) rfl rfl Tryz.call279 (oA hs rx ry) ?_);rintro _ w ⟨rfl,hs⟩
  refine .z zm (.z zex (.z zex (.z zg (.z zg (.nil ?_)))))
  refine .draw mix rfl hs fun w hs=>?_
  refine .y 0 rfl hs Ar ?_
  refine .z 1 rfl (zia 0 Tryz.runUnderlying90 af) ?_
  refine .y 2 rfl hs ae ?_;refine .y 3 rfl hs Ar ?_
  refine .z 4 rfl (zia 0 Tryz.runUnderlying90 af) ?_
  refine .y 5 rfl hs ae ?_
  refine .z 6 rfl (dG (k:=i) rfl rfl aq aC rfl aj) ?_
  refine .load (i:=7) hs rfl an .none rfl ak ?_ (hv:=by rw [List.getElem?_append_right aj,husl,Nat.sub_self];rfl)
  refine .z 8 rfl zm ?_;refine .z 9 rfl zm ?_;refine .z 10 rfl ka ?_
  refine .E 11 hs ?_
  refine .buildSlice (cells:=[_]) hs dv rfl rfl ?_;intro b40 w hs
  refine .go ?_
  refine .E 12 hs ?_
  refine .append (ys:=Is [gi X i*gi Y k]) hs cV rfl rfl h2 (.own .here rfl rfl) (jK _) (fun l' h=>by simp at h;omega) ?_;intro v41 en41 w hO hs
  rw [show Is ((wP X Y i).take k)++Is [gi X i*gi Y k]=Is ((wP X Y i).take (k+1)) by rw [xa hkm];simp [Is]] at hO
  obtain ⟨a41,l41,c41,rfl,hl41⟩:=hO.shape
  refine .go ?_
  refine .z 13 rfl (dG (k:=i) rfl rfl aq aC rfl aj) ?_
  refine .E 14 hs ?_
  refine .store (c':=us++ .slice a41 l41 c41::List.replicate (X.length - i - 1) (.slice none 0 0)) hs rfl rfl aC ?_ cZ (by simp;omega) (by rw [List.set_append_right _ _ aj,husl,Nat.sub_self];rfl);intro w hs
  refine .go ?_
  refine .D hs ?_
  refine nB ?_
  rcases hnext with ⟨g1,g2,g3⟩|⟨g1,g2,g3⟩
  ·exact ⟨H4,[.blk b7 [.slice (some ⟨b18,0,none⟩) l1.length l1.length],.blk b18 (us++ .slice a41 l41 c41::List.replicate (X.length - i - 1) (.slice none 0 0)),en41],HLe.refl _,(hs.sb:St H4 w (.blk b7 _:: .blk b18 _::en41::σf4)),_,rfl,by rw [g2,g3];exact .go us _ en41 h h1 hO rfl⟩
  ·obtain ⟨H5,hle5,hR,hs⟩:=cn.dI hO (by rw [List.length_take,jE];omega) hs cZ
   rw [List.take_of_length_le (by rw [jE];omega)] at hR
   have h1':RLs H5 (us++[.slice a41 l41 c41]) (me X Y (i+1)):=by rw [vg];exact (h1.mono hle5).snoc hR
   by_cases e:i+1<X.length
   ·refine ⟨H5,[.blk b7 [.slice (some ⟨b18,0,none⟩) l1.length l1.length],.blk b18 (us++ .slice a41 l41 c41::List.replicate (X.length - i - 1) (.slice none 0 0)),.nul],hle5,(hs.nul.sb:St H5 w (.blk b7 _:: .blk b18 _:: .nul::σf4)),_,rfl,?_⟩
    rw [g2,g3]
    refine .go (us++[.slice a41 l41 c41]) (.slice none 0 0) .nul e h1' (.nil 1 none) ?_
    obtain ⟨m,hm⟩:∃m,X.length - i - 1=m+1:=⟨X.length - i - 2,aj⟩
    rw [hm,show X.length - (i+1) - 1=m by omega,List.append_assoc]
    rfl
   ·refine ⟨H5,[.blk b7 [.slice (some ⟨b18,0,none⟩) l1.length l1.length],.blk b18 (us++ .slice a41 l41 c41::List.replicate (X.length - i - 1) (.slice none 0 0))],hle5,(hs.sb:St H5 w (.blk b7 _:: .blk b18 _::σf4)),_,rfl,?_⟩
    rw [g2,g3]
    refine .fin (us++[.slice a41 l41 c41]) aj h1' ?_
    rw [show X.length - i - 1=0 by omega]
    rfl
 ·rintro D H4 σb2 w hle4 ⟨σ1,rfl,hG⟩ hs
  rw [Nat.mul_div_cancel _ aj,Nat.mul_mod_left] at hG
  cases hG with
  |go us v en h=>omega
  |fin us h h1 h3=>
  subst h3
  replace hs:St H4 w (.obj D (.deferred (some [])):: .blk b7 [.slice (some ⟨b18,0,none⟩) l1.length l1.length]:: .blk b18 us::σ):=hs
  have husl:us.length=l1.length:=by rw [h1.1,jV,hXl]
  refine nB (nT ?_)
  refine .ai (.y hs (zld Ar) (.z zg (.nil ?_)))
  refine .ret ?_
  obtain ⟨H5,hle5,hR,hs⟩:=h1.cK (v:= .slice (some ⟨b18,0,none⟩) l1.length l1.length) (en:= .blk b18 us) (.full (by simp [husl])) aj hs cZ
  rw [hXl] at hR
  exact Fin.iK [D] [] hs fun w hs=>⟨_,results1 Tryz.results192 rfl,H5,hle03.trans (hle4.trans hle5),hR,hs.out⟩
theorem np{v1 v2:Value}{l1 l2:List Int}(hs:St H w σ)(hr1:RI H v1 l1)(hr2:RI H v2 l2):
  Cl Tryz.prog 104 [v1,v2] w fun u w'=>∃H1 vo e,HLe H H1∧u= .tuple #[vo,I e]∧(eX 9 100000 l1∧eX 7 15000 l2→e=0∧RT H1 vo (me (wts l1) (wts l2) l1.length))∧(e=0→eX 9 100000 l1∧eX 7 15000 l2)∧St H1 w' σ:=by
 refine Cl.o Tryz.func104 Tryz.ntmps104 ag2 ?_
 refine .ai (.z zg (.z zg (.nil (.seq (.ai (.z zm (.z zm ?_)))))))
 refine .o (.call Tryz.call191 rfl (q6 hs hr1 hr2) ?_);rintro _ w ⟨b8,rfl,hb8,hs⟩
 refine .z ir (.nil ?_)
 refine (.cond rfl (fun hc9=>?_) (fun hc9=>?_))
 ·refine .ai (.z zg (.z zg (.nil ?_)))
  refine .ret (rT (Fin.nh Tryz.results104 rfl rfl ?_))
  exact ⟨H,_,_,HLe.refl H,rfl,fun h=>(by rw [hb8.2 h] at hc9;cases hc9),fun h=>aj,hs⟩
 ·refine .skip ?_
  refine nT ?_
  refine .ai (.z zm (.z zm ?_))
  have hp:=hb8.1 (by simpa using hc9)
  refine .o (.call Tryz.call192 rfl (s7 hs hr1 hr2 hp.1 hp.2) ?_);rintro v12 w ⟨H1,hle1,hR,hs⟩
  refine .z zg (.z zg (.nil ?_))
  refine .ret (Fin.nh Tryz.results104 rfl rfl ?_)
  exact ⟨H1,_,_,hle1,rfl,fun _=>⟨rfl,hR⟩,fun _=>hp,hs⟩
theorem Fj{many:Nat}{most:Int}{l:List Int}(h2:2≤l.length)(hm:l.length≤many)(h:∀j<l.length,0≤gi l j∧gi l j≤most∧(0<j→gi l (j - 1)<gi l j)):eX many most l:=
 ⟨h2,hm,(h 0 aj).1,(h (l.length - 1) aj).2.1,fun i hi=>by have:=(h (i+1) hi).2.2 aj;rwa [Nat.add_sub_cancel] at this⟩
theorem rU{many:Nat}{most:Int}{l:List Int}(h:eX many most l){j:Nat}(hj:j<l.length):0≤gi l j∧gi l j≤most∧(0<j→gi l (j - 1)<gi l j):=
 ⟨(h.bd hj).1,(h.bd hj).2,fun h0=>by have:=h.rise (j - 1) aj;rwa [Nat.sub_add_cancel h0] at this⟩
theorem jF{v:Value}{l:List Int}{many:Nat}{most:Int}(hs:St H w σ)(hr:RI H v l)(hmany:many≤1000):
  Cl Tryz.prog 168 [v,I many,I most] w fun u w'=>∃b:Bool,u= .bool b∧(b=true↔eX many most l)∧St H w' σ:=by
 obtain ⟨a,c,rfl⟩:=RI.shape hr
 have hlen:=(RI.len hr).2.2
 refine Cl.o Tryz.func168 Tryz.ntmps168 ag3 ?_
 refine .ai (.z zg (.nil (.seq (.ai (.z zm (.z (c9 aa) (.z gx (.z zm ?_))))))))
 refine .iB (t':=11) rfl (fun hb11=>?_) (fun hb11=>?_)
 ·refine .gFs 4 3 false rfl rfl rfl ?_
  refine .z zpT (.nil ?_)
  refine (.cT ?_)
  refine .ai (.z zg (.nil ?_))
  refine .ret (rT (Fin.bJ sG rfl ?_))
  exact ⟨false,rfl,⟨fun h=>(by cases h),fun h=>by have:=h.two;omega⟩,hs⟩
 ·refine .gT rfl rfl ?_
  refine .z zm ?_
  refine .gT rfl rfl ?_
  refine .z (c9 aa) ?_
  refine .gT rfl rfl ?_
  refine .z zm ?_
  refine .gT rfl rfl ?_
  refine .z kD (.z zpF (.nil ?_))
  refine (.bM rfl (fun hc16=>?_) (fun hc16=>?_))
  ·refine .ai (.z zg (.nil ?_))
   refine .ret (rT (Fin.bJ sG rfl ?_))
   exact ⟨false,rfl,⟨fun h=>(by cases h),fun h=>by have:=h.many;omega⟩,hs⟩
  ·refine .skip ?_
   refine nT ?_
   refine .seq (.ai (.z zg (.nil (.block ?_))))
   refine .loop (fun k:Nat=>⟨52,[],[(7,I (k:Int)),(0,.slice a l.length c),(1,I (many:Int)),(2,I most)]⟩)
    (fun k w=>k≤l.length∧(∀j<k,0≤gi l j∧gi l j≤most∧(0<j→gi l (j - 1)<gi l j))∧St H w σ) (fun k=>l.length - k) 0 (.cj rfl bV aR)
    ⟨Nat.zero_le _,fun j hj=>by omega,hs⟩ ?_
   rintro k w ⟨hk,hno,hs⟩
   refine .seq (.ai (.z zm (.z zm (.z (c9 aa) (.z gx (.nil ?_))))))
   refine (.bM rfl (fun hc20=>?_) (fun hc20=>?_))
   ·refine .skip ?_
    refine nT ?_
    refine .seq (.block ?_)
    refine .seq (.draw mix rfl hs fun w hs=>?_)
    refine .z 0 rfl zm ?_;refine .z 1 rfl zm ?_
    refine .ixX (enc:=fun x=>[I x]) (i:=2) hs rfl an .none hr rfl rfl aa af (bL (l:=l) (i:=k) aj) dy ?_;intro b25 o25 hc25;replace hc25:=bB.one hc25
    refine .r (i:=3) hs rfl an .none (aK rfl ae hc25) ?_
    refine .z 4 rfl gx ?_;refine .z 5 rfl zm ?_
    refine .iB (t':=28) rfl (fun hb28=>?_) (fun hb28=>?_)
    ·refine .qF (i:=6) rfl an rfl rfl ?_
     refine .qF (i:=7) rfl an rfl rfl ?_
     refine .qF (i:=8) rfl an rfl rfl ?_
     refine .qF (i:=9) rfl an rfl rfl ?_
     refine .qF (i:=10) rfl an rfl rfl ?_
     refine .qF (i:=11) rfl an rfl rfl ?_
     refine .z 12 rfl zpT ?_;refine .z 13 rfl zm ?_
     refine .qF (i:=14) rfl an rfl rfl ?_
     refine .qF (i:=15) rfl an rfl rfl ?_
     refine .qF (i:=16) rfl an rfl rfl ?_
     refine .qF (i:=17) rfl an rfl rfl ?_
     refine .qF (i:=18) rfl an rfl rfl ?_
     refine .qF (i:=19) rfl an rfl rfl ?_
     refine .qF (i:=20) rfl an rfl rfl ?_
     refine .qF (i:=21) rfl an rfl rfl ?_
     refine .qF (i:=22) rfl an rfl rfl ?_
     refine .qF (i:=23) rfl an rfl rfl ?_
     refine .qF (i:=24) rfl an rfl rfl ?_
     refine .qF (i:=25) rfl an rfl rfl ?_
     refine .qF (i:=26) rfl an rfl rfl ?_
     refine .qF (i:=27) rfl an rfl rfl ?_
     refine .z 28 rfl zpT ?_;refine .D hs ?_
     refine (.cT ?_)
     refine .ai (.z zg (.nil ?_))
     refine .ret (rB (rT (rT (rB (rT (Fin.bJ sG rfl ?_))))))
     exact ⟨false,rfl,⟨fun h=>(by cases h),fun h=>by have:=rU h (j:=k) aj;omega⟩,hs⟩
    ·refine .z 6 rfl zm ?_;refine .z 7 rfl zm ?_
     refine .ixX (enc:=fun x=>[I x]) (i:=8) hs rfl an (.some rfl rfl) hr rfl rfl aa af (bL (l:=l) (i:=k) aj) dy ?_;intro b31 o31 hc31;replace hc31:=bB.one hc31
     refine .r (i:=9) hs rfl an (.some rfl rfl) (aK rfl ae hc31) ?_
     refine .z 10 rfl zm ?_;refine .z 11 rfl kD ?_;refine .z 12 rfl zpF ?_;refine .z 13 rfl zm ?_
     refine .iB (t':=36) rfl (fun hb36=>?_) (fun hb36=>?_)
     ·refine .qF (i:=14) rfl an rfl rfl ?_
      refine .qF (i:=15) rfl an rfl rfl ?_
      refine .qF (i:=16) rfl an rfl rfl ?_
      refine .qF (i:=17) rfl an rfl rfl ?_
      refine .qF (i:=18) rfl an rfl rfl ?_
      refine .qF (i:=19) rfl an rfl rfl ?_
      refine .qF (i:=20) rfl an rfl rfl ?_
      refine .qF (i:=21) rfl an rfl rfl ?_
      refine .qF (i:=22) rfl an rfl rfl ?_
      refine .qF (i:=23) rfl an rfl rfl ?_
      refine .qF (i:=24) rfl an rfl rfl ?_
      refine .qF (i:=25) rfl an rfl rfl ?_
      refine .qF (i:=26) rfl an rfl rfl ?_
      refine .qF (i:=27) rfl an rfl rfl ?_
      refine .z 28 rfl zpT ?_;refine .D hs ?_
      refine (.cT ?_)
      refine .ai (.z zg (.nil ?_))
      refine .ret (rB (rT (rT (rB (rT (Fin.bJ sG rfl ?_))))))
      exact ⟨false,rfl,⟨fun h=>(by cases h),fun h=>by have:=rU h (j:=k) aj;omega⟩,hs⟩
     ·refine .z 14 rfl zm ?_;refine .z 15 rfl kD ?_;refine .z 16 rfl zm ?_
      refine .iB (t':=39) rfl (fun hb39=>?_) (fun hb39=>?_)
      ·refine .z 17 rfl zm ?_;refine .z 18 rfl zm ?_;refine .z 19 rfl gW ?_
       refine .ixX (enc:=fun x=>[I x]) (i:=20) hs rfl an (.some rfl rfl) hr rfl rfl aa af (bL (l:=l) (i:=(k-1)) aj) dy ?_;intro b43 o43 hc43;replace hc43:=bB.one hc43
       refine .r (i:=21) hs rfl an (.some rfl rfl) (aK rfl ae hc43) ?_
       refine .z 22 rfl zm ?_;refine .z 23 rfl zm ?_
       refine .ixX (enc:=fun x=>[I x]) (i:=24) hs rfl an (.some rfl rfl) hr rfl rfl aa af (bL (l:=l) (i:=k) aj) dy ?_;intro b47 o47 hc47;replace hc47:=bB.one hc47
       refine .r (i:=25) hs rfl an (.some rfl rfl) (aK rfl ae hc47) ?_
       refine .z 26 rfl vD ?_;refine .z 27 rfl zpT ?_;refine .z 28 rfl zpF ?_;refine .D hs ?_
       refine (.bM rfl (fun hc51=>?_) (fun hc51=>?_))
       ·refine .ai (.z zg (.nil ?_))
        refine .ret (rB (rT (rT (rB (rT (Fin.bJ sG rfl ?_))))))
        exact ⟨false,rfl,⟨fun h=>(by cases h),fun h=>by have:=rU h (j:=k) aj;omega⟩,hs⟩
       ·refine .skip ?_
        refine nB (nT ?_)
        refine .region (.z zm (.z cq (.z zg (.nil ?_))))
        refine nT ?_
        exact ⟨k+1,.cj rfl bV aR,⟨aj,fun j hj=>by
         by_cases e:j=k
         ·subst e;exact ⟨aj,aj,fun _=>by omega⟩
         ·exact hno j aj,hs⟩,aj⟩
      ·refine .qF (i:=17) rfl an rfl rfl ?_
       refine .qF (i:=18) rfl an rfl rfl ?_
       refine .qF (i:=19) rfl an rfl rfl ?_
       refine .qF (i:=20) rfl an rfl rfl ?_
       refine .qF (i:=21) rfl an rfl rfl ?_
       refine .qF (i:=22) rfl an rfl rfl ?_
       refine .qF (i:=23) rfl an rfl rfl ?_
       refine .qF (i:=24) rfl an rfl rfl ?_
       refine .qF (i:=25) rfl an rfl rfl ?_
       refine .qF (i:=26) rfl an rfl rfl ?_
       refine .z 27 rfl zpF ?_;refine .z 28 rfl zpF ?_;refine .D hs ?_
       refine (.cF ?_)
       refine .skip ?_
       refine nB (nT ?_)
       refine .region (.z zm (.z cq (.z zg (.nil ?_))))
       refine nT ?_
       exact ⟨k+1,.cj rfl bV aR,⟨aj,fun j hj=>by
        by_cases e:j=k
        ·subst e;exact ⟨aj,aj,fun _=>by omega⟩
        ·exact hno j aj,hs⟩,aj⟩
   ·refine .exit ?_
    refine xT (xT (xB (nT ?_)))
    refine .ai (.z zg (.nil ?_))
    refine .ret (Fin.bJ sG rfl ?_)
    exact ⟨true,rfl,⟨fun _=>Fj aj aj fun j hj=>hno j aj,fun _=>rfl⟩,hs⟩
theorem gP{v:Value}{l:List Int}(hs:St H w σ)(hr:RI H v l):
  Cl Tryz.prog 84 [v] w fun u w'=>∃e,u=I e∧((eX 9 100000 l∧e=0)∨(¬eX 9 100000 l∧e≠0))∧St H w' σ:=by
 refine Cl.o Tryz.func84 Tryz.ntmps84 ag1 ?_
 refine .ai (.z zg (.nil (.seq (.ai (.z zm ?_)))))
 refine .o (.call Tryz.call168 rfl (jF (many:=9) (most:=100000) hs hr aj) ?_);rintro _ w ⟨b4,rfl,hb4,hs⟩
 refine .z ir (.nil ?_)
 refine (.cond rfl (fun hc5=>?_) (fun hc5=>?_))
 ·refine .ai (.z zg (.nil ?_))
  refine .ret (rT (Fin.bJ Tryz.results84 rfl ?_))
  exact ⟨_,rfl,.inr ⟨fun h=>by simp [hb4.2 h] at hc5,by decide⟩,hs⟩
 ·refine .skip ?_
  refine nT ?_
  refine .ai (.z zg (.nil ?_))
  refine .ret (Fin.bJ Tryz.results84 rfl ?_)
  exact ⟨_,rfl,.inl ⟨hb4.1 (by simpa using hc5),rfl⟩,hs⟩
theorem Du{a b k:Int}(hk:1≤k∧k≤3)(h:a*k=b∨b*k=a)(hno:∀j:Int,1≤j→j<k→¬(a*j=b∨b*j=a)):tms a b=k:=by
 have h3:k=1∨k=2∨k=3:=by omega
 unfold tms
 rcases h3 with rfl|rfl|rfl
 ·rw [if_pos aj]
 ·have:=hno 1 aj aj
  rw [if_neg aj,if_pos h]
 ·have:=hno 1 aj aj
  have:=hno 2 aj aj
  rw [if_neg aj,if_neg this,if_pos h]
theorem EW{a b:Int}(hno:∀j:Int,1≤j→j<4→¬(a*j=b∨b*j=a)):tms a b=0:=by
 have:=hno 1 aj aj
 have h2:=hno 2 aj aj
 have h3:=hno 3 aj aj
 unfold tms
 rw [if_neg aj,if_neg h2,if_neg h3]
theorem mO{a b:Int}(hs:St H w σ)(ha:0≤a∧a≤100000)(hb:0≤b∧b≤100000):
  Cl Tryz.prog 281 [I a,I b] w fun u w'=>u=I (tms a b)∧St H w' σ:=by
 refine Cl.o Tryz.func281 Tryz.ntmps281 ag2 ?_
 refine .ai (.z zg (.nil (.seq (.ai (.z zg (.nil (.block ?_)))))))
 refine .loop (fun k:Nat=>⟨23,[],[(5,I (k:Int)),(0,I a),(1,I b)]⟩)
  (fun k w=>1≤k∧k≤4∧(∀j:Int,1≤j→j<k→¬(a*j=b∨b*j=a))∧St H w σ) (fun k=>4 - k) 1 (.cj rfl bV aR)
  ⟨aj,aj,fun j h1 h2=>by omega,hs⟩ ?_
 rintro k w ⟨hk1,hk4,hno,hs⟩
 have hba:=lh (a:=a) (b:=(k:Int)) (A:=100000) (B:=4) aj aj
 have hbb:=lh (a:=b) (b:=(k:Int)) (A:=100000) (B:=4) aj aj
 refine .seq (.ai (.z zm (.z uO (.nil ?_))))
 refine (.bM rfl (fun hc7=>?_) (fun hc7=>?_))
 ·refine .skip ?_
  refine nT ?_
  refine .seq (.block (.ai (.z zm (.z zm (.z ka (.z zm (.z gC (.z zm ?_))))))))
  refine .iB (t':=15) rfl (fun hb15=>?_) (fun hb15=>?_)
  ·refine .gFs 5 5 false rfl rfl rfl ?_
   refine .z zpT (.nil ?_)
   refine (.cT ?_)
   refine .ai (.z zm (.z zg (.nil ?_)))
   refine .ret (rB (rT (rT (rB (rT (Fin.bJ Tryz.results281 rfl ?_))))))
   exact ⟨by rw [Du ⟨aj,aj⟩ (.inl hb15) hno],hs⟩
  ·refine .gT rfl rfl ?_
   refine .z zm ?_
   refine .gT rfl rfl ?_
   refine .z zm ?_
   refine .gT rfl rfl ?_
   refine .z ka ?_
   refine .gT rfl rfl ?_
   refine .z zm ?_
   refine .gT rfl rfl ?_
   refine .z gC (.z zpF (.nil ?_))
   refine (.bM rfl (fun hc21=>?_) (fun hc21=>?_))
   ·refine .ai (.z zm (.z zg (.nil ?_)))
    refine .ret (rB (rT (rT (rB (rT (Fin.bJ Tryz.results281 rfl ?_))))))
    exact ⟨by rw [Du ⟨aj,aj⟩ (.inr hc21) hno],hs⟩
   ·refine .skip ?_
    refine nB (nT ?_)
    refine .region (.z zm (.z cq (.z zg (.nil ?_))))
    refine nT ?_
    exact ⟨k+1,.cj rfl bV aR,⟨aj,aj,fun j h1 h2=>by
     by_cases e:j=(k:Int)
     ·subst e;omega
     ·exact hno j h1 aj,hs⟩,aj⟩
 ·refine .exit ?_
  refine xT (xT (xB (nT ?_)))
  refine .ai (.z zg (.nil ?_))
  refine .ret (Fin.bJ Tryz.results281 rfl ?_)
  obtain rfl:k=4:=by omega
  exact ⟨by rw [EW hno],hs⟩
def Grp.c(g:Grp):List Value:=[I (g.at_:Int),I (g.n:Int)]
def Dh(l:List Grp):List Value:=(l.map Grp.c).flatten
theorem yL(a b:List Grp):Dh (a++b)=Dh a++Dh b:=by simp [Dh]
theorem uf:∀l:List Grp,(Dh l).length=l.length*2
 |[]=>rfl
 |g::l=>by have:=uf l;simp only [Dh,List.map_cons,List.flatten_cons,List.length_append,List.length_cons] at this ⊢;rw [this];simp [Grp.c];omega
set_option maxHeartbeats 1000000 in
theorem rq{v:Value}{l:List Int}(hs:St H w σ)(hr:RI H v l)(hp:eX 9 100000 l):
  Cl Tryz.prog 280 [v] w fun u w'=>∃H1,HLe H H1∧RS H1 2 u ((mc l).map Grp.c)∧St H1 w' σ:=by
 obtain ⟨a,c,rfl⟩:=RI.shape hr
 have hlen:=hp.many
 have hgl:(mc l).length≤9:=by have:=lj l l.length 0;unfold mc;omega
 refine Cl.o Tryz.func280 Tryz.ntmps280 ag1 ?_
 refine .ai (.z zg (.nil (.ai (.z zg (.nil (.ai (.z zg (.nil (.seq ?_)))))))))
 refine .block ?_
 refine .loop (fun p:Nat×Value=>⟨51,[],[(4,I (p.1:Int)),(3,p.2),(0,.slice a l.length c)]⟩)
  (fun p w=>p.1≤l.length∧∃j en,j≤(mc l).length∧(mc l).drop j=mQ l p.1∧cn 2 p.2 (Dh ((mc l).take j)) en∧St H w (en::σ)) (fun p=>l.length - p.1) (0,.slice none 0 0) aR
  ⟨Nat.zero_le _,0,_,Nat.zero_le _,rfl,.nil 2 none,hs.nul⟩ ?_
 rintro ⟨i,vo⟩ w ⟨hil,j,en,hj,hd,hO,hs⟩
 dsimp only at hil hd hO ⊢
 have htl:=List.length_take_le j (mc l)
 refine .seq (.ai (.z zm (.z cq (.z zm (.z (c9 aa) (.z gx (.nil ?_)))))))
 refine (.bM rfl (fun hc10=>?_) (fun hc10=>?_))
 ·refine .skip ?_
  refine nT ?_
  refine .block (.ai (.z zg (.nil ?_)))
  refine .cut (fun fs w=>j9 fs ⟨51,[],[(5,I (((if eN l i then 2 else 1:Nat)):Int)),(4,I (i:Int)),(3,vo),(0,.slice a l.length c)]⟩∧St H w (en::σ)) ?_ ?_
  ·refine .seq (.draw mix rfl hs fun w hs=>?_)
   refine .z 0 rfl zm ?_;refine .z 1 rfl cq ?_;refine .z 2 rfl zm ?_;refine .z 3 rfl (c9 aa) ?_;refine .z 4 rfl gx ?_;refine .z 5 rfl zm ?_
   refine .iB (t':=16) rfl (fun hb16=>?_) (fun hb16=>?_)
   ·refine .z 6 rfl zm ?_;refine .z 7 rfl zm ?_;refine .z 8 rfl cq ?_
    have r1:=hp.rise i aj
    have r2:gi l (i+1)<gi l (i+2):=hp.rise (i+1) aj
    have q1:=hp.bd (i:=i) aj
    have q2:=hp.bd (i:=i+2) aj
    refine .ixX (enc:=fun x=>[I x]) (i:=9) hs rfl an (.some rfl rfl) hr rfl rfl aa af (bL (l:=l) (i:=(i+1)) aj) dy ?_;intro b20 o20 hc20;replace hc20:=bB.one hc20
    refine .r (i:=10) hs rfl an (.some rfl rfl) (aK rfl ae hc20) ?_
    refine .z 11 rfl zm ?_;refine .z 12 rfl zm ?_
    refine .ixX (enc:=fun x=>[I x]) (i:=13) hs rfl an (.some rfl rfl) hr rfl rfl aa af (bL (l:=l) (i:=i) aj) dy ?_;intro b24 o24 hc24;replace hc24:=bB.one hc24
    refine .r (i:=14) hs rfl an (.some rfl rfl) (aK rfl ae hc24) ?_
    refine .z 15 rfl gW ?_;refine .z 16 rfl zm ?_;refine .z 17 rfl zm ?_;refine .z 18 rfl cq ?_
    refine .ixX (enc:=fun x=>[I x]) (i:=19) hs rfl an (.some rfl rfl) hr rfl rfl aa af (bL (l:=l) (i:=(i+2)) aj) dy ?_;intro b30 o30 hc30;replace hc30:=bB.one hc30
    refine .r (i:=20) hs rfl an (.some rfl rfl) (aK rfl ae hc30) ?_
    refine .z 21 rfl zm ?_;refine .z 22 rfl zm ?_;refine .z 23 rfl cq ?_
    refine .ixX (enc:=fun x=>[I x]) (i:=24) hs rfl an (.some rfl rfl) hr rfl rfl aa af (bL (l:=l) (i:=(i+1)) aj) dy ?_;intro b35 o35 hc35;replace hc35:=bB.one hc35
    refine .r (i:=25) hs rfl an (.some rfl rfl) (aK rfl ae hc35) ?_
    refine .z 26 rfl gW ?_
    refine .E 27 hs ?_
    refine .call Tryz.call281 rfl (mO hs aj aj) ?_;rintro _ w ⟨rfl,hs⟩
    refine .go ?_
    refine .z 28 rfl kD ?_;refine .z 29 rfl zpT ?_;refine .D hs ?_
    refine (.bM rfl (fun hc40=>?_) (fun hc40=>?_))
    ·refine .region (.z zg (.nil ?_))
     refine nT ?_
     have e:eN l i=true:=by simp [eN];omega
     rw [e];exact ⟨aR,hs⟩
    ·refine .skip ?_
     refine nT ?_
     have e:eN l i=false:=by simp [eN];omega
     rw [e];exact ⟨aR,hs⟩
   ·refine .qF (i:=6) rfl an rfl rfl ?_
    refine .qF (i:=7) rfl an rfl rfl ?_
    refine .qF (i:=8) rfl an rfl rfl ?_
    refine .qF (i:=9) rfl an rfl rfl ?_
    refine .qF (i:=10) rfl an rfl rfl ?_
    refine .qF (i:=11) rfl an rfl rfl ?_
    refine .qF (i:=12) rfl an rfl rfl ?_
    refine .qF (i:=13) rfl an rfl rfl ?_
    refine .qF (i:=14) rfl an rfl rfl ?_
    refine .qF (i:=15) rfl an rfl rfl ?_
    refine .qF (i:=16) rfl an rfl rfl ?_
    refine .qF (i:=17) rfl an rfl rfl ?_
    refine .qF (i:=18) rfl an rfl rfl ?_
    refine .qF (i:=19) rfl an rfl rfl ?_
    refine .qF (i:=20) rfl an rfl rfl ?_
    refine .qF (i:=21) rfl an rfl rfl ?_
    refine .qF (i:=22) rfl an rfl rfl ?_
    refine .qF (i:=23) rfl an rfl rfl ?_
    refine .qF (i:=24) rfl an rfl rfl ?_
    refine .qF (i:=25) rfl an rfl rfl ?_
    refine .qF (i:=26) rfl an rfl rfl ?_
    refine .qF (i:=27) rfl an rfl rfl ?_
    refine .qF (i:=28) rfl an rfl rfl ?_
    refine .z 29 rfl zpF ?_;refine .D hs ?_
    refine (.cF ?_)
    refine .skip ?_
    refine nT ?_
    have e:eN l i=false:=by simp [eN];omega
    rw [e];exact ⟨aR,hs⟩
  ·rintro fs w ⟨hfs,hs⟩
   refine WE.sub ?_ hfs
   have hgo:=tM (l:=l) (i:=i) aj
   rw [hgo] at hd
   have hjl:j<(mc l).length:=by
    have:=congrArg List.length hd
    simp at this;omega
   have hgj:(mc l)[j]? =some ⟨i,eN l i⟩:=by
    rw [List.drop_eq_getElem_cons hjl] at hd
    rw [List.getElem?_eq_getElem hjl,(List.cons.inj hd).1]
   have hdj:(mc l).drop (j+1)=mQ l (i+(if eN l i then 2 else 1)):=by
    rw [List.drop_eq_getElem_cons hjl] at hd
    exact (List.cons.inj hd).2
   have hn12:(if eN l i then 2 else 1:Nat)=1∨(if eN l i then 2 else 1:Nat)=2:=by split<;>simp
   have hgc:Grp.c ⟨i,eN l i⟩=[I (i:Int),I (((if eN l i then 2 else 1:Nat)):Int)]:=rfl
   generalize (if eN l i then 2 else 1:Nat)=n at*
   refine .ai (.z zm (.z zm (.z zm (.z (zbd [_,_] qO) ?_))))
   refine .o (.buildSlice (cells:=[_,_]) hs qL rfl rfl fun b45 w hs=>?_)
   refine .o (.append (ys:=[I (i:Int),I (n:Int)]) hs kQ rfl rfl hO (.own .here rfl rfl) (by simp [Value.oneCell']) (fun l' h=>by rw [uf] at h;omega) ?_);intro v46 en46 w hO2 hs
   rw [←hgc,show Grp.c ⟨i,eN l i⟩=Dh [⟨i,eN l i⟩] by simp [Dh],←yL,←ep hgj] at hO2
   refine .z zg (.nil (.region (.z zm (.z zm (.z cq (.z zg (.nil ?_)))))))
   refine nB (nT ?_)
   exact ⟨(i+n,v46),.cj rfl bV aR,⟨by dsimp only;omega,j+1,_,hjl,hdj,hO2,hs.sb⟩,by dsimp only;omega⟩
 ·refine .exit ?_
  refine xT (xT (xB (nT ?_)))
  refine .ai (.z zm (.z zg (.nil ?_)))
  refine .ret (Fin.bJ Tryz.results280 rfl ?_)
  rw [rF aj] at hd
  have:(mc l).length≤j:=by simpa using hd
  obtain rfl:j=(mc l).length:=by omega
  rw [List.take_length] at hO
  obtain ⟨H1,g1,r1,hs⟩:=cn.cK (m:=2) (cs:=(mc l).map Grp.c) hO (fun c hc=>by simp only [List.mem_map] at hc;obtain ⟨x,_,rfl⟩:=hc;rfl) aj (by rw [List.length_map];omega) hs .here
  exact ⟨H1,g1,r1,hs⟩
theorem qx{l:List Int}{i j:Nat}(h:i≠j)(x:Int):gi (l.set i x) j=gi l j:=by
 simp [gi,List.getD,h]
set_option maxHeartbeats 1000000 in
theorem jd{v:Value}{l:List Int}(hs:St H w σ)(hr:RI H v l)(hp:eX 9 100000 l):
  Cl Tryz.prog 251 [v] w fun u w'=>∃H1,HLe H H1∧RI H1 u (wts l)∧St H1 w' σ:=by
 obtain ⟨a,c,rfl⟩:=RI.shape hr
 have hln:=hp.many
 have hgl:(mc l).length≤9:=by have:=lj l l.length 0;unfold mc;omega
 refine Cl.o Tryz.func251 Tryz.ntmps251 ag1 ?_
 refine .ai (.z zg (.nil (.ai (.z zm (.z (c9 aa) ?_)))))
 refine .o (.oE l.length hs rfl rfl aa dC rfl af bI aj fun b16 w hs=>?_)
 replace hs:St H w (.blk b16 (Is (s4 l 0))::σ):=hs
 refine .z zg (.nil (.ai (.z zm ?_)))
 refine .o (.call Tryz.call280 rfl (rq hs hr hp) ?_);rintro v18 w ⟨H1,hle1,hG,hs⟩
 have hrr:=hr.mono hle1
 obtain ⟨ag,cg,rfl⟩:=RS.shape hG
 rw [List.length_map] at hG ⊢
 refine .z zg (.nil (.seq (.ai (.z zg (.nil (.block ?_))))))
 refine .loop (fun k:Nat=>⟨133,[],[(5,I (k:Int)),(4,.slice ag (mc l).length cg),(3,.slice (some ⟨b16,0,none⟩) l.length l.length),(0,.slice a l.length c)]⟩)
  (fun k w=>k≤(mc l).length∧St H1 w (.blk b16 (Is (s4 l k))::σ)) (fun k=>(mc l).length - k) 0 (.cj rfl bV aR)
  ⟨Nat.zero_le _,hs⟩ ?_
 rintro k w ⟨hk,hs⟩
 refine .seq (.ai (.z zm (.z zm (.z (c9 kC) (.z gx (.nil ?_))))))
 refine (.bM rfl (fun hc22=>?_) (fun hc22=>?_))
 ·refine .skip ?_
  refine nT ?_
  refine .seq (.block (.ai (.z zm (.z zm ?_))))
  have hjl:k<(mc l).length:=by omega
  obtain ⟨g,hg⟩:=nth hjl
  obtain ⟨i1,i2,i3,i4,i5⟩:=tN hp (List.mem_of_getElem? hg)
  have hK:=sZ hg
  have hKl:=mn l k
  have hKz:=qZ hp k aj
  have z0:=iJ (s4 l k) (v:=g.at_) (n:=l.length) aj
  have z1:=iJ (s4 l k) (v:=g.at_+1) (n:=l.length) aj
  have hq0:=hp.bd (i:=g.at_) aj
  have hq1:=hp.bd (i:=g.at_+1) aj
  have hgm:((mc l).map Grp.c)[k]? =some (Grp.c g):=by rw [List.getElem?_map,hg];rfl
  generalize s4 l k=W at*
  have e1:∀x,gi (W.set g.at_ x) (g.at_+1)=gi W (g.at_+1):=fun x=>qx aj x
  generalize hA:gi l (g.at_+1) - gi l g.at_=A at*
  refine .ixX (enc:=Grp.c) hs hG rfl rfl kC oP hg dy ?_;intro b27 o27 hc27
  have d0:cellAt H1 b27 o27=some (I (g.at_:Int)):=hc27 0 _ rfl
  have d1:cellAt H1 b27 (o27+1)=some (I (g.n:Int)):=hc27 1 _ rfl
  refine .z (zfa fW) (.y hs (zld ae) (.z zg (.nil ?_)))
  refine .seq (.draw mix rfl hs fun w hs=>?_)
  refine .z 0 rfl zm ?_;refine .z 1 rfl zm ?_;refine .z 2 rfl cq ?_
  refine .ixX (enc:=fun x=>[I x]) (i:=3) hs rfl an .none hrr rfl rfl aa af (bL (l:=l) (i:=(g.at_+1)) aj) dy ?_;intro b33 o33 hc33;replace hc33:=bB.one hc33
  refine .r (i:=4) hs rfl an .none (aK rfl ae hc33) ?_
  refine .z 5 rfl zm ?_;refine .z 6 rfl zm ?_
  refine .ixX (enc:=fun x=>[I x]) (i:=7) hs rfl an .none hrr rfl rfl aa af (bL (l:=l) (i:=g.at_) aj) dy ?_;intro b37 o37 hc37;replace hc37:=bB.one hc37
  refine .r (i:=8) hs rfl an .none (aK rfl ae hc37) ?_
  refine .z 9 rfl gW ?_
  rw [hA]
  refine .z 10 rfl zg ?_;refine .D hs ?_
  refine .seq (.ai (.z zm (.z zm ?_)))
  refine .ixX (enc:=Grp.c) hs hG rfl rfl kC oP hg dy ?_;intro b42 o42 hc42
  have d2:cellAt H1 b42 (o42+1)=some (I (g.n:Int)):=hc42 1 _ rfl
  refine .z (zfa iF) (.y hs (zld ae) (.z gC (.nil ?_)))
  refine (.bM rfl (fun hc45=>?_) (fun hc45=>?_))
  ·refine .ai (.z zm (.z zm ?_))
   refine .q hs (dG (k:=g.at_) rfl rfl aa af aj aj) ?_
   refine .y hs (zld ae) (.z zm (.z ka (.z cq ?_)))
   refine .q hs (dG (k:=g.at_) rfl rfl aa af aj aj) ?_
   refine .o (.store hs rfl rfl af fun w hs=>?_)
   refine .nil (.ai (.z zm (.z zm (.z cq ?_))))
   refine .q hs (dG (k:=g.at_+1) rfl rfl aa af aj aj) ?_
   refine .q hs (dS rfl ae (hv:=eY (by rw [List.length_set];omega))) ?_
   rw [e1]
   refine .z zm (.z ka (.z cq ?_))
   refine .q hs (dG (k:=g.at_+1) rfl rfl aa af aj aj) ?_
   refine .o (.store hs rfl rfl af ?_ cZ (by simp [Is];omega));intro w hs
   refine .nil ?_
   refine .exit ?_
   refine xT (xB (nT ?_))
   refine .region (.z zm (.z cq (.z zg (.nil ?_))))
   refine nT ?_
   have h2:g.two=false:=by
    cases e:g.two with
    |false=>rfl
    |true=>simp [Grp.n,e] at hc45
   rw [zk h2 hA] at hK
   have e:s4 l (k+1)=(W.set g.at_ (gi W g.at_+18*A)).set (g.at_+1) (gi W (g.at_+1)+18*A):=by rw [hK];simp only [kO];rw [e1]
   exact ⟨k+1,.cj rfl bV aR,⟨aj,by rw [e];exact hs⟩,aj⟩
  ·refine .skip ?_
   refine nT ?_
   refine .seq (.draw mix rfl hs fun w hs=>?_)
   have h2:g.two=true:=by
    cases e:g.two with
    |true=>rfl
    |false=>simp [Grp.n,e] at hc45
   obtain ⟨j1,j2,j3,j4⟩:=i4 h2
   have hq2:=hp.bd (i:=g.at_+2) aj
   have z2:=iJ W (v:=g.at_+2) (n:=l.length) aj
   have e2:∀x y,gi ((W.set g.at_ x).set (g.at_+1) y) (g.at_+2)=gi W (g.at_+2):=fun x y=>by rw [qx aj,qx aj]
   generalize hB:gi l (g.at_+2) - gi l (g.at_+1)=B at*
   have hk3:=AE j4
   have hmm:=u6 (a:=A) (b:=B) ⟨aj,aj⟩ ⟨aj,aj⟩
   obtain ⟨n1,n2,n3,n4⟩:=zi hk3 hmm.1 hmm.2
   obtain ⟨n5,n6,n7,n8,n9⟩:=n4 _ n3.1 n3.2
   have hgw0:=zj h2 hA hB rfl rfl
   refine .z 0 rfl zm ?_;refine .z 1 rfl zm ?_;refine .z 2 rfl cq ?_
   refine .ixX (enc:=fun x=>[I x]) (i:=3) hs rfl an .none hrr rfl rfl aa af (bL (l:=l) (i:=(g.at_+2)) aj) dy ?_;intro b66 o66 hc66;replace hc66:=bB.one hc66
   refine .r (i:=4) hs rfl an .none (aK rfl ae hc66) ?_
   refine .z 5 rfl zm ?_;refine .z 6 rfl zm ?_;refine .z 7 rfl cq ?_
   refine .ixX (enc:=fun x=>[I x]) (i:=8) hs rfl an .none hrr rfl rfl aa af (bL (l:=l) (i:=(g.at_+1)) aj) dy ?_;intro b71 o71 hc71;replace hc71:=bB.one hc71
   refine .r (i:=9) hs rfl an .none (aK rfl ae hc71) ?_
   refine .z 10 rfl gW ?_
   rw [hB]
   refine .z 11 rfl zg ?_;refine .D hs ?_
   refine .ai (.z zm (.z zm ?_))
   refine .o (.call Tryz.call281 rfl (mO hs aj aj) ?_);rintro _ w ⟨rfl,hs⟩
   generalize hT:tms A B=T at*
   refine .z zg (.nil (.ai (.z zm (.z zm (.z As ?_)))))
   generalize hM:min A B=M at*
   refine .z zg (.nil (.ai (.z zm ?_)))
   refine .q hs (uY rfl rfl aj aj) ?_
   refine .z zm (.z cq (.z ka (.z zm (.z ka (.z zg (.nil (.ai (.z zm (.z zm ?_)))))))))
   refine .z ka (.z zm (.z gW (.z ka (.z zg (.nil (.ai (.z zm (.z zm (.z ka ?_)))))))))
   refine .z gW (.z ka (.z zg (.nil ?_)))
   refine .cut (fun fs w=>∃x y:Int,j9 fs ⟨133,[],[(13,I y),(12,I x),(11,I ((6:Int).tdiv T*(1+T)*M)),(9,I T),(6,I (g.at_:Int)),(5,I (k:Int)),(4,.slice ag (mc l).length cg),(3,.slice (some ⟨b16,0,none⟩) l.length l.length),(0,.slice a l.length c)]⟩∧(-6000000≤x∧x≤6000000)∧(-6000000≤y∧y≤6000000)∧uD l g=[x,(6:Int).tdiv T*(1+T)*M*(1+T)*(1+T),y]∧St H1 w (.blk b16 (Is W)::σ)) ?_ ?_
   ·refine .ai (.z zm (.z zm (.z kD (.nil ?_))))
    refine (.bM rfl (fun hc100=>?_) (fun hc100=>?_))
    ·refine .region (.z zm (.z zm (.z zg (.z zg (.nil ?_)))))
     refine nT ?_
     exact ⟨_,_,aR,aj,aj,by rw [hgw0,if_pos hc100],hs⟩
    ·refine .skip ?_
     refine nT ?_
     exact ⟨_,_,aR,aj,aj,by rw [hgw0,if_neg aj],hs⟩
   ·rintro fs w ⟨x,y,hfs,hx,hy,hgw,hs⟩
    refine WE.sub ?_ hfs
    have e:s4 l (k+1)=((W.set g.at_ (gi W g.at_+x)).set (g.at_+1) (gi W (g.at_+1)+(6:Int).tdiv T*(1+T)*M*(1+T)*(1+T))).set (g.at_+2) (gi W (g.at_+2)+y):=by
     rw [hK,hgw];simp only [kO];rw [e1,show g.at_+1+1=g.at_+2 by omega,e2]
    refine .ai (.z zm (.z zm ?_))
    refine .q hs (dG (k:=g.at_) rfl rfl aa af aj aj) ?_
    refine .y hs (zld ae) (.z zm (.z cq ?_))
    refine .q hs (dG (k:=g.at_) rfl rfl aa af aj aj) ?_
    refine .o (.store hs rfl rfl af fun w hs=>?_)
    refine .nil (.ai (.z zm (.z zm (.z cq ?_))))
    refine .q hs (dG (k:=g.at_+1) rfl rfl aa af aj aj) ?_
    refine .q hs (dS rfl ae (hv:=eY (by rw [List.length_set];omega))) ?_
    rw [e1]
    refine .z zm (.z zm (.z cq (.z ka (.z zm (.z cq (.z ka (.z cq ?_)))))))
    refine .q hs (dG (k:=g.at_+1) rfl rfl aa af aj aj) ?_
    refine .o (.store hs rfl rfl af ?_ cZ (by simp [Is];omega));intro w hs
    refine .nil (.region (.z zm (.z zm (.z cq ?_))))
    refine .q hs (dG (k:=g.at_+2) rfl rfl aa af aj aj) ?_
    refine .q hs (dS rfl ae (hv:=eY (by rw [List.length_set,List.length_set];omega))) ?_
    rw [e2]
    refine .z zm (.z cq ?_)
    refine .q hs (dG (k:=g.at_+2) rfl rfl aa af aj aj) ?_
    refine .o (.store hs rfl rfl af ?_ cZ (by simp [Is];omega));intro w hs
    refine .nil ?_
    refine nB (nT ?_)
    refine .region (.z zm (.z cq (.z zg (.nil ?_))))
    refine nT ?_
    exact ⟨k+1,.cj rfl bV aR,⟨aj,by rw [e];exact hs⟩,aj⟩
 ·refine .exit ?_
  refine xT (xT (xB (nT ?_)))
  refine .ai (.z zm (.z zg (.nil ?_)))
  refine .ret (Fin.bJ Tryz.results251 rfl ?_)
  obtain rfl:k=(mc l).length:=by omega
  rw [yP] at hs
  obtain ⟨H3,hle3,hR,hs⟩:=cn.dI (xs:=wts l) (v:= .slice (some ⟨b16,0,none⟩) l.length l.length) (.full (by simp [Is,eJ])) (by rw [eJ];omega) hs .here
  exact ⟨H3,hle1.trans hle3,hR,hs⟩
theorem k8{v:Value}{l:List Int}(hs:St H w σ)(hr:RI H v l)(hp:eX 9 100000 l):
  Cl Tryz.prog 196 [v] w fun u w'=>∃H1 vo,HLe H H1∧u= .tuple #[vo,I 0]∧RI H1 vo (wts l)∧St H1 w' σ:=by
 refine Cl.o Tryz.func196 Tryz.ntmps196 ag1 ?_
 refine .ai (.z zg (.z zg (.nil (.seq (.ai (.z zm ?_))))))
 refine .o (.call Tryz.call84 rfl (gP hs hr) ?_);rintro _ w ⟨e,rfl,he,hs⟩
 obtain rfl:e=0:=he.elim (fun h=>h.2) fun h=>(h.1 hp).elim
 refine .z ij (.nil ?_)
 refine (.eQ rfl (fun hc7=>?_) (fun hc7=>?_))
 ·refine .ai (.z zg (.z zg (.nil ?_)))
  refine .ret (rT (Fin.nh Tryz.results196 rfl rfl ?_))
  exact (hc7 rfl).elim
 ·refine .skip ?_
  refine nT ?_
  refine .ai (.z zm ?_)
  refine .o (.call Tryz.call251 rfl (jd hs hr hp) ?_);rintro v9 w ⟨H1,hle1,hR,hs⟩
  refine .z zg (.nil (.ai (.z zm (.z zg (.z zg (.nil ?_))))))
  refine .ret (Fin.nh Tryz.results196 rfl rfl ?_)
  exact ⟨H1,_,hle1,rfl,hR,hs⟩
theorem qd{v1 v2:Value}{a b:List Int}(hs:St H w σ)(h1:RI H v1 a)(h2:RI H v2 b)(hp1:eX 9 100000 a)(hp2:eX 7 15000 b):
  Cl Tryz.prog 250 [v1,v2] w fun u w'=>u= .bool true∧St H w' σ:=by
 refine Cl.o Tryz.func250 Tryz.ntmps250 ag2 ?_
 refine .ai (.z zg (.nil (.ai (.z zm ?_))))
 refine .o (.call Tryz.call168 rfl (jF (many:=9) (most:=100000) hs h1 aj) ?_);rintro _ w ⟨b6,rfl,hb6,hs⟩
 refine .z zm ?_
 refine .bif (t':=7) rfl (fun hb7=>?_) (fun hb7=>?_)
 ·refine .gT rfl rfl ?_
  refine .z zm ?_
  refine .gT rfl rfl ?_
  refine .o (.call Tryz.call168 rfl (jF (many:=7) (most:=15000) hs h2 aj) ?_);rintro _ w ⟨b9,rfl,hb9,hs⟩
  refine .z zpT (.z zg (.nil ?_))
  refine .ret (Fin.bJ Tryz.results250 rfl ?_)
  exact ⟨by rw [hb9.2 hp2],hs⟩
 ·refine .gFs 2 2 true rfl rfl rfl ?_
  refine .z zpF (.z zg (.nil ?_))
  refine .ret (Fin.bJ Tryz.results250 rfl ?_)
  rw [hb6.2 hp1] at hb7;cases hb7
set_option maxHeartbeats 1000000 in
theorem tx{v1 v2:Value}{l1 l2:List Int}(hs:St H w σ)(hr1:RI H v1 l1)(hr2:RI H v2 l2)(hp1:eX 9 100000 l1)(hp2:eX 7 15000 l2):
  Cl Tryz.prog 195 [v1,v2] w fun u w'=>∃H1 vo,HLe H H1∧u= .tuple #[vo,I 0]∧RT H1 vo (me (wts l1) (wts l2) l1.length)∧St H1 w' σ:=by
 obtain ⟨a1,c1,rfl⟩:=RI.shape hr1
 obtain ⟨a2,c2,rfl⟩:=RI.shape hr2
 have hn1:=hp1.many
 have hn2:=hp2.many
 have hp2':eX 9 100000 l2:=⟨hp2.two,aj,hp2.low,by have:=hp2.high;omega,hp2.rise⟩
 have hXl:=eJ l1
 have hYl:=eJ l2
 have hXb:=yO hp1
 have hYb:=yO hp2
 refine Cl.o Tryz.func195 Tryz.ntmps195 ag2 ?_
 refine .ai (.z zg (.z zg (.nil (.seq (.ai (.z zm (.z zm ?_)))))))
 refine .o (.call Tryz.call250 rfl (qd hs hr1 hr2 hp1 hp2) ?_);rintro _ w ⟨rfl,hs⟩
 refine .z ir (.nil ?_)
 refine (.cond rfl (fun hc15=>?_) (fun hc15=>?_))
 ·refine .ai (.z zg (.z zg (.nil ?_)))
  refine .ret (rT (Fin.nh Tryz.results195 rfl rfl ?_))
  cases hc15
 ·refine .skip ?_
  refine nT ?_
  refine .ai (.z zm ?_)
  refine .o (.call Tryz.call251 rfl (jd hs hr1 hp1) ?_);rintro v17 w ⟨H1,hle1,hX,hs⟩
  refine .z zg (.nil (.ai (.z zm ?_)))
  refine .o (.call Tryz.call251 rfl (jd hs (hr2.mono hle1) hp2') ?_);rintro v19 w ⟨H2,hle2,hY,hs⟩
  replace hX:=hX.mono hle2
  generalize wts l1=X at*
  generalize wts l2=Y at*
  obtain ⟨aX,cX,rfl⟩:=RI.shape hX
  obtain ⟨aY,cY,rfl⟩:=RI.shape hY
  refine .z zg (.nil (.ai (.z zg (.nil (.seq (.ai (.z zg (.nil (.block ?_)))))))))
  refine .loop (fun p:Nat×Value=>⟨49,[],[(9,I (p.1:Int)),(8,p.2),(7,.slice aY Y.length cY),(6,.slice aX X.length cX)]⟩)
   (fun p w=>p.1≤X.length∧∃H3 us en,HLe H2 H3∧RLs H3 us (me X Y p.1)∧cn 1 p.2 us en∧St H3 w (en::σ)) (fun p=>X.length - p.1) (0,.slice none 0 0) aR
   ⟨Nat.zero_le _,H2,[],_,HLe.refl _,RLs.nil _,.nil 1 none,hs.nul⟩ ?_
  rintro ⟨i,vo⟩ w ⟨hi,H3,us,en,hle3,hRL,hO,hs⟩
  dsimp only at hi hRL hO ⊢
  have husl:us.length=i:=by rw [hRL.1,jV]
  refine .seq (.ai (.z zm (.z zm (.z (c9 aa) (.z gx (.nil ?_))))))
  refine (.bM rfl (fun hc23=>?_) (fun hc23=>?_))
  ·refine .skip ?_
   refine nT ?_
   refine .seq (.block (.ai (.z zg (.nil (.seq (.ai (.z zg (.nil (.block ?_)))))))))
   refine .loop (fun p:Nat×Value=>⟨49,[],[(11,I (p.1:Int)),(10,p.2),(9,I (i:Int)),(8,vo),(7,.slice aY Y.length cY),(6,.slice aX X.length cX)]⟩)
    (fun p w=>p.1≤Y.length∧∃en2,cn 1 p.2 (Is ((wP X Y i).take p.1)) en2∧St H3 w (en2::en::σ)) (fun p=>Y.length - p.1) (0,.slice none 0 0) aR
    ⟨Nat.zero_le _,_,.nil 1 none,hs.nul⟩ ?_
   rintro ⟨k,vr⟩ w ⟨hk,en2,hO2,hs⟩
   dsimp only at hk hO2 ⊢
   refine .seq (.ai (.z zm (.z zm (.z (c9 aa) (.z gx (.nil ?_))))))
   refine (.bM rfl (fun hc29=>?_) (fun hc29=>?_))
   ·refine .skip ?_
    refine nT ?_
    refine .seq (.block ?_)
    refine .draw mix rfl hs fun w hs=>?_
    refine .z 0 rfl zm ?_;refine .z 1 rfl zm ?_;refine .z 2 rfl zm ?_
    have hkm:k<Y.length:=by omega
    have hb1:=hXb i
    have hb2:=hYb k
    have hprb: -3456000000000≤gi X i*gi Y k∧gi X i*gi Y k≤3456000000000:=lh (A:=4800000) (B:=720000) (by unfold ab at hb1;omega) (by unfold ab at hb2;omega)
    refine .ixX (enc:=fun x=>[I x]) (i:=3) hs rfl an .none (hX.mono hle3) rfl rfl aa af (bL (l:=X) (i:=i) aj) dy ?_;intro b35 o35 hc35;replace hc35:=bB.one hc35
    refine .r (i:=4) hs rfl an .none (aK rfl ae hc35) ?_
    refine .z 5 rfl zm ?_;refine .z 6 rfl zm ?_
    refine .ixX (enc:=fun x=>[I x]) (i:=7) hs rfl an .none (hY.mono hle3) rfl rfl aa af (bL (l:=Y) (i:=k) aj) dy ?_;intro b39 o39 hc39;replace hc39:=bB.one hc39
    refine .r (i:=8) hs rfl an .none (aK rfl ae hc39) ?_
    refine .z 9 rfl ka ?_
    refine .E 10 hs ?_
    refine .buildSlice (cells:=[_]) hs dv rfl rfl ?_;intro b42 w hs
    refine .go ?_
    refine .E 11 hs ?_
    refine .append (ys:=Is [gi X i*gi Y k]) hs cV rfl rfl hO2 (.own .here rfl rfl) (jK _) (fun l' h=>by simp at h;omega) ?_;intro v43 en43 w hO43 hs
    rw [show Is ((wP X Y i).take k)++Is [gi X i*gi Y k]=Is ((wP X Y i).take (k+1)) by rw [xa hkm];simp [Is]] at hO43
    refine .go ?_
    refine .z 12 rfl zg ?_;refine .D hs ?_
    refine nB (nT ?_)
    refine .region (.z zm (.z cq (.z zg (.nil ?_))))
    refine nT ?_
    exact ⟨(k+1,v43),.cj rfl bV aR,⟨by dsimp only;omega,_,hO43,hs.sb⟩,by dsimp only;omega⟩
   ·refine .exit ?_
    refine xT (xT (xB (nT ?_)))
    refine .region (.z zm (.z zm ?_))
    obtain ⟨H4,hle4,hR,hs⟩:=cn.dI hO2 (by rw [List.length_take,jE];omega) hs .here
    rw [List.take_of_length_le (by rw [jE];omega)] at hR
    obtain ⟨ar,cr,rfl⟩:=RI.shape hR
    refine .o (.buildSlice (cells:=[_]) hs uG rfl rfl fun b46 w hs=>?_)
    refine .o (.append (ys:=[.slice ar (wP X Y i).length cr]) hs pM rfl rfl hO (.own .here rfl rfl) (by simp [Value.oneCell']) (fun l' h=>by omega) fun v47 en47 w hO47 hs=>?_)
    have hRL':RLs H4 (us++[.slice ar (wP X Y i).length cr]) (me X Y (i+1)):=by rw [vg];exact (hRL.mono hle4).snoc hR
    refine .z zg (.nil ?_)
    refine nB (nT ?_)
    refine .region (.z zm (.z cq (.z zg (.nil ?_))))
    refine nT ?_
    exact ⟨(i+1,v47),.cj rfl bV aR,⟨by dsimp only;omega,H4,_,_,hle3.trans hle4,hRL',hO47,hs.sb⟩,by dsimp only;omega⟩
  ·refine .exit ?_
   refine xT (xT (xB (nT ?_)))
   refine .ai (.z zm (.z zg (.z zg (.nil ?_))))
   refine .ret (Fin.nh Tryz.results195 rfl rfl ?_)
   obtain rfl:i=X.length:=by omega
   obtain ⟨H5,hle5,hR,hs⟩:=hRL.cK hO aj hs .here
   exact ⟨H5,_,hle1.trans (hle2.trans (hle3.trans hle5)),rfl,by rw [←hXl];exact hR,hs⟩
theorem bw{a0 a1 a2:Int}(hs:St H w σ):Cl Tryz.prog 105 [I a0,I a1,I a2] w fun v w'=>v= .bool (decide (a1≤a0∧a0≤a2))∧St H w' σ:=by
 refine Cl.o Tryz.func105 Tryz.ntmps105 ag3 ?_
 refine .ai (.z zg (.nil (.ai (.z zm (.z zm (.z uO (.z zm ?_)))))))
 refine .iB (t':=10) rfl (fun hb10=>?_) (fun hb10=>?_)
 ·refine .gT rfl rfl ?_
  refine .z zm ?_
  refine .gT rfl rfl ?_
  refine .z zm ?_
  refine .gT rfl rfl ?_
  refine .z uO (.z zpT (.z zg (.nil ?_)))
  refine .ret (Fin.bJ Tryz.results105 rfl ?_)
  exact ⟨by simp [*],hs.out⟩
 ·refine .gFs 3 3 true rfl rfl rfl ?_
  refine .z zpF (.z zg (.nil ?_))
  refine .ret (Fin.bJ Tryz.results105 rfl ?_)
  exact ⟨by simp [*],hs.out⟩
theorem gZ{a0:Int}(hs:St H w σ):Cl Tryz.prog 106 [I a0] w fun v w'=>v= .bool (decide (1≤a0∧a0≤99999))∧St H w' σ:=by
 refine Cl.o Tryz.func106 Tryz.ntmps106 ag1 ?_
 refine .ai (.z zg (.nil (.ai (.z zm ?_))))
 refine .o (.call dP rfl (bw hs) ?_);rintro _ w ⟨rfl,hs⟩
 refine .z zg (.nil ?_)
 refine .ret (Fin.bJ Tryz.results106 rfl ?_)
 exact ⟨rfl,hs⟩
theorem jg{s:Spc}{vst vwa:Value}(hs:St H w σ)(h1:RI H vst s.st)(h2:RI H vwa s.wa):
  Cl Tryz.prog 41 [.agg #[I s.id,I s.src,vst,vwa,I s.al,I s.up]] w fun v w'=>∃H1 e,HLe H H1∧v=I e∧((fX s∧e=0)∨(¬fX s∧e=30))∧St H1 w' σ:=by
 obtain ⟨ast,cst,rfl⟩:=RI.shape h1
 obtain ⟨awa,cwa,rfl⟩:=RI.shape h2
 refine Cl.o Tryz.func41 Tryz.ntmps41 ag1 ?_
 refine .ai ?_
 refine .bx hs fun b1 w hs=>?_
 refine .z zg (.nil (.seq (.ai (.z (zfa bA) (.y hs (zld ak) (.z (zfa bj) (.y hs (zld ak) ?_)))))))
 refine .o (.call Tryz.call104 rfl (np hs h1 h2) ?_);rintro _ w ⟨H1,vo,e,hle1,rfl,hG,hG',hs⟩
 refine .z zm (.z zex (.z zex (.z zg (.z zg (.nil (.ai (.z zm (.z ij (.z zm ?_)))))))))
 refine .yF (t':=15) rfl (fun hb15=>?_) (fun hb15=>?_)
 ·refine .gFs 4 2 false rfl rfl rfl ?_
  refine .z zpT (.z zm ?_)
  refine .gFs 4 8 false rfl rfl rfl ?_
  refine .z zpT (.z zm ?_)
  refine .gFs 5 14 false rfl rfl rfl ?_
  refine .z zpT (.z zm ?_)
  refine .gFs 5 21 false rfl rfl rfl ?_
  refine .z zpT (.nil ?_)
  refine (.cT ?_)
  refine .ai (.z zg (.nil ?_))
  refine .ret (rT (Fin.bJ uM rfl ?_))
  exact ⟨H1,_,hle1,rfl,.inr ⟨fun h=>by have:=(hG ⟨h.st,h.wa⟩).1;simp_all,rfl⟩,hs.out⟩
 ·refine .gT rfl rfl ?_
  refine .z (zfa lG) ?_
  refine .gT rfl rfl ?_
  refine .y hs (zld ae) ?_
  refine .gT rfl rfl ?_
  refine .o (.call dP rfl (bw hs) ?_);rintro _ w ⟨rfl,hs⟩
  refine .gT rfl rfl ?_
  refine .z ir (.z zpF (.z zm ?_))
  refine .bif (t':=21) rfl (fun hb21=>?_) (fun hb21=>?_)
  ·refine .gFs 4 8 false rfl rfl rfl ?_
   refine .z zpT (.z zm ?_)
   refine .gFs 5 14 false rfl rfl rfl ?_
   refine .z zpT (.z zm ?_)
   refine .gFs 5 21 false rfl rfl rfl ?_
   refine .z zpT (.nil ?_)
   refine (.cT ?_)
   refine .ai (.z zg (.nil ?_))
   refine .ret (rT (Fin.bJ uM rfl ?_))
   exact ⟨H1,_,hle1,rfl,.inr ⟨fun h=>by have:=h.id;simp_all,rfl⟩,hs.out⟩
  ·refine .gT rfl rfl ?_
   refine .z (zfa dB) ?_
   refine .gT rfl rfl ?_
   refine .y hs (zld ae) ?_
   refine .gT rfl rfl ?_
   refine .o (.call Tryz.call106 rfl (gZ hs) ?_);rintro _ w ⟨rfl,hs⟩
   refine .gT rfl rfl ?_
   refine .z ir (.z zpF (.z zm ?_))
   refine .bif (t':=27) rfl (fun hb27=>?_) (fun hb27=>?_)
   ·refine .gFs 5 14 false rfl rfl rfl ?_
    refine .z zpT (.z zm ?_)
    refine .gFs 5 21 false rfl rfl rfl ?_
    refine .z zpT (.nil ?_)
    refine (.cT ?_)
    refine .ai (.z zg (.nil ?_))
    refine .ret (rT (Fin.bJ uM rfl ?_))
    exact ⟨H1,_,hle1,rfl,.inr ⟨fun h=>by have:=h.src;simp_all,rfl⟩,hs.out⟩
   ·refine .gT rfl rfl ?_
    refine .z (zfa ed) ?_
    refine .gT rfl rfl ?_
    refine .z (zfa jr) ?_
    refine .gT rfl rfl ?_
    refine .y hs (zld ae) ?_
    refine .gT rfl rfl ?_
    refine .o (.call dP rfl (bw hs) ?_);rintro _ w ⟨rfl,hs⟩
    refine .gT rfl rfl ?_
    refine .z ir (.z zpF (.z zm ?_))
    refine .bif (t':=34) rfl (fun hb34=>?_) (fun hb34=>?_)
    ·refine .gFs 5 21 false rfl rfl rfl ?_
     refine .z zpT (.nil ?_)
     refine (.cT ?_)
     refine .ai (.z zg (.nil ?_))
     refine .ret (rT (Fin.bJ uM rfl ?_))
     exact ⟨H1,_,hle1,rfl,.inr ⟨fun h=>by have:=h.al;simp_all,rfl⟩,hs.out⟩
    ·refine .gT rfl rfl ?_
     refine .z (zfa ed) ?_
     refine .gT rfl rfl ?_
     refine .z (zfa jq) ?_
     refine .gT rfl rfl ?_
     refine .y hs (zld ae) ?_
     refine .gT rfl rfl ?_
     refine .o (.call dP rfl (bw hs) ?_);rintro _ w ⟨rfl,hs⟩
     refine .gT rfl rfl ?_
     refine .z ir (.z zpF (.nil ?_))
     refine (.cond rfl (fun hc40=>?_) (fun hc40=>?_))
     ·refine .ai (.z zg (.nil ?_))
      refine .ret (rT (Fin.bJ uM rfl ?_))
      exact ⟨H1,_,hle1,rfl,.inr ⟨fun h=>by have:=h.up;simp_all,rfl⟩,hs.out⟩
     ·refine .skip ?_
      refine nT ?_
      refine .ai (.z zg (.nil ?_))
      refine .ret (Fin.bJ uM rfl ?_)
      have hg:=hG' (by simp_all)
      exact ⟨H1,_,hle1,rfl,.inl ⟨⟨hg.1,hg.2,by simp_all,by simp_all,by simp_all,by simp_all⟩,rfl⟩,hs.out⟩
theorem jA{s:Spc}{r:Rdg}{vst vwa:Value}(hs:St H w σ)(h1:RI H vst s.st)(h2:RI H vwa s.wa):
  Cl Tryz.prog 107 [.agg #[I s.id,I s.src,vst,vwa,I s.al,I s.up],.agg #[I r.src,I r.st,I r.wa,I r.val,I r.tol,I r.tape,I r.day]] w fun v w'=>∃b:Bool,v= .bool b∧(b=true↔jJ s r)∧St H w' σ:=by
 obtain ⟨ast,cst,rfl⟩:=RI.shape h1
 obtain ⟨awa,cwa,rfl⟩:=RI.shape h2
 have l1:=(RI.len h1).2.2
 have l2:=(RI.len h2).2.2
 refine Cl.o Tryz.func107 Tryz.ntmps107 ag2 ?_
 refine .ai ?_
 refine .bx hs fun b2 w hs=>?_
 refine .bx hs fun b3 w hs=>?_
 refine .z zg (.nil (.ai (.z (zfa eG) (.y hs (zld ae) ?_))))
 refine .o (.call Tryz.call106 rfl (gZ hs) ?_);rintro _ w ⟨rfl,hs⟩
 refine .z zm ?_
 refine .bif (t':=8) rfl (fun hb8=>?_) (fun hb8=>?_)
 ·refine .gT rfl rfl ?_
  refine .z (zfa ff) ?_
  refine .gT rfl rfl ?_
  refine .y hs (zld ae) ?_
  refine .gT rfl rfl ?_
  refine .z (zfa bA) ?_
  refine .gT rfl rfl ?_
  refine .y hs (zld ak) ?_
  refine .gT rfl rfl ?_
  refine .z (c9 aa) ?_
  refine .gT rfl rfl ?_
  refine .z gW ?_
  refine .gT rfl rfl ?_
  refine .o (.call dP rfl (bw hs) ?_);rintro _ w ⟨rfl,hs⟩
  refine .z zpT (.z zm ?_)
  refine .bif (t':=17) rfl (fun hb17=>?_) (fun hb17=>?_)
  ·refine .gT rfl rfl ?_
   refine .z (zfa fc) ?_
   refine .gT rfl rfl ?_
   refine .y hs (zld ae) ?_
   refine .gT rfl rfl ?_
   refine .z (zfa bj) ?_
   refine .gT rfl rfl ?_
   refine .y hs (zld ak) ?_
   refine .gT rfl rfl ?_
   refine .z (c9 aa) ?_
   refine .gT rfl rfl ?_
   refine .z gW ?_
   refine .gT rfl rfl ?_
   refine .o (.call dP rfl (bw hs) ?_);rintro _ w ⟨rfl,hs⟩
   refine .z zpT (.z zm ?_)
   refine .bif (t':=26) rfl (fun hb26=>?_) (fun hb26=>?_)
   ·refine .gT rfl rfl ?_
    refine .z (zfa ck) ?_
    refine .gT rfl rfl ?_
    refine .y hs (zld ae) ?_
    refine .gT rfl rfl ?_
    refine .o (.call dP rfl (bw hs) ?_);rintro _ w ⟨rfl,hs⟩
    refine .z zpT (.z zm ?_)
    refine .bif (t':=31) rfl (fun hb31=>?_) (fun hb31=>?_)
    ·refine .gT rfl rfl ?_
     refine .z (zfa db) ?_
     refine .gT rfl rfl ?_
     refine .y hs (zld ae) ?_
     refine .gT rfl rfl ?_
     refine .z (zfa ck) ?_
     refine .gT rfl rfl ?_
     refine .y hs (zld ae) ?_
     refine .gT rfl rfl ?_
     have ht:0≤r.tol∧r.tol≤1000:=by simp_all
     refine .z gW ?_
     refine .gT rfl rfl ?_
     refine .o (.call dP rfl (bw hs) ?_);rintro _ w ⟨rfl,hs⟩
     refine .z zpT (.z zm ?_)
     refine .bif (t':=39) rfl (fun hb39=>?_) (fun hb39=>?_)
     ·refine .gT rfl rfl ?_
      refine .z (zfa eF) ?_
      refine .gT rfl rfl ?_
      refine .y hs (zld ae) ?_
      refine .gT rfl rfl ?_
      refine .o (.call dP rfl (bw hs) ?_);rintro _ w ⟨rfl,hs⟩
      refine .z zpT (.z zm ?_)
      refine .bif (t':=44) rfl (fun hb44=>?_) (fun hb44=>?_)
      ·refine .gT rfl rfl ?_
       refine .z (zfa eE) ?_
       refine .gT rfl rfl ?_
       refine .y hs (zld ae) ?_
       refine .gT rfl rfl ?_
       refine .o (.call dP rfl (bw hs) ?_);rintro _ w ⟨rfl,hs⟩
       refine .z zpT (.z zg (.nil ?_))
       refine .ret (Fin.bJ mW rfl ?_)
       first
       |exact ⟨false,rfl,⟨fun h=>(by cases h),fun h=>(by obtain ⟨g1,g2,g3,g4,g5,g6,g7⟩:=h;simp_all;done)⟩,hs.out⟩
       |exact ⟨_,rfl,⟨fun h=>⟨by simp_all,by simp_all,by simp_all,by simp_all,by simp_all,by simp_all,by simpa using h⟩,fun h=>by simpa using h.day⟩,hs.out⟩
      ·refine .gFs 3 39 true rfl rfl rfl ?_
       refine .z zpF (.z zg (.nil ?_))
       refine .ret (Fin.bJ mW rfl ?_)
       first
       |exact ⟨false,rfl,⟨fun h=>(by cases h),fun h=>(by obtain ⟨g1,g2,g3,g4,g5,g6,g7⟩:=h;simp_all;done)⟩,hs.out⟩
       |exact ⟨_,rfl,⟨fun h=>⟨by simp_all,by simp_all,by simp_all,by simp_all,by simp_all,by simp_all,by simpa using h⟩,fun h=>by simpa using h.day⟩,hs.out⟩
     ·refine .gFs 3 34 true rfl rfl rfl ?_
      refine .z zpF (.z zm ?_)
      refine .gFs 3 39 true rfl rfl rfl ?_
      refine .z zpF (.z zg (.nil ?_))
      refine .ret (Fin.bJ mW rfl ?_)
      first
      |exact ⟨false,rfl,⟨fun h=>(by cases h),fun h=>(by obtain ⟨g1,g2,g3,g4,g5,g6,g7⟩:=h;simp_all;done)⟩,hs.out⟩
      |exact ⟨_,rfl,⟨fun h=>⟨by simp_all,by simp_all,by simp_all,by simp_all,by simp_all,by simp_all,by simpa using h⟩,fun h=>by simpa using h.day⟩,hs.out⟩
    ·refine .gFs 6 26 true rfl rfl rfl ?_
     refine .z zpF (.z zm ?_)
     refine .gFs 3 34 true rfl rfl rfl ?_
     refine .z zpF (.z zm ?_)
     refine .gFs 3 39 true rfl rfl rfl ?_
     refine .z zpF (.z zg (.nil ?_))
     refine .ret (Fin.bJ mW rfl ?_)
     first
     |exact ⟨false,rfl,⟨fun h=>(by cases h),fun h=>(by obtain ⟨g1,g2,g3,g4,g5,g6,g7⟩:=h;simp_all;done)⟩,hs.out⟩
     |exact ⟨_,rfl,⟨fun h=>⟨by simp_all,by simp_all,by simp_all,by simp_all,by simp_all,by simp_all,by simpa using h⟩,fun h=>by simpa using h.day⟩,hs.out⟩
   ·refine .gFs 3 21 true rfl rfl rfl ?_
    refine .z zpF (.z zm ?_)
    refine .gFs 6 26 true rfl rfl rfl ?_
    refine .z zpF (.z zm ?_)
    refine .gFs 3 34 true rfl rfl rfl ?_
    refine .z zpF (.z zm ?_)
    refine .gFs 3 39 true rfl rfl rfl ?_
    refine .z zpF (.z zg (.nil ?_))
    refine .ret (Fin.bJ mW rfl ?_)
    first
    |exact ⟨false,rfl,⟨fun h=>(by cases h),fun h=>(by obtain ⟨g1,g2,g3,g4,g5,g6,g7⟩:=h;simp_all;done)⟩,hs.out⟩
    |exact ⟨_,rfl,⟨fun h=>⟨by simp_all,by simp_all,by simp_all,by simp_all,by simp_all,by simp_all,by simpa using h⟩,fun h=>by simpa using h.day⟩,hs.out⟩
  ·refine .gFs 7 12 true rfl rfl rfl ?_
   refine .z zpF (.z zm ?_)
   refine .gFs 3 21 true rfl rfl rfl ?_
   refine .z zpF (.z zm ?_)
   refine .gFs 6 26 true rfl rfl rfl ?_
   refine .z zpF (.z zm ?_)
   refine .gFs 3 34 true rfl rfl rfl ?_
   refine .z zpF (.z zm ?_)
   refine .gFs 3 39 true rfl rfl rfl ?_
   refine .z zpF (.z zg (.nil ?_))
   refine .ret (Fin.bJ mW rfl ?_)
   first
   |exact ⟨false,rfl,⟨fun h=>(by cases h),fun h=>(by obtain ⟨g1,g2,g3,g4,g5,g6,g7⟩:=h;simp_all;done)⟩,hs.out⟩
   |exact ⟨_,rfl,⟨fun h=>⟨by simp_all,by simp_all,by simp_all,by simp_all,by simp_all,by simp_all,by simpa using h⟩,fun h=>by simpa using h.day⟩,hs.out⟩
 ·refine .gFs 7 3 true rfl rfl rfl ?_
  refine .z zpF (.z zm ?_)
  refine .gFs 7 12 true rfl rfl rfl ?_
  refine .z zpF (.z zm ?_)
  refine .gFs 3 21 true rfl rfl rfl ?_
  refine .z zpF (.z zm ?_)
  refine .gFs 6 26 true rfl rfl rfl ?_
  refine .z zpF (.z zm ?_)
  refine .gFs 3 34 true rfl rfl rfl ?_
  refine .z zpF (.z zm ?_)
  refine .gFs 3 39 true rfl rfl rfl ?_
  refine .z zpF (.z zg (.nil ?_))
  refine .ret (Fin.bJ mW rfl ?_)
  first
  |exact ⟨false,rfl,⟨fun h=>(by cases h),fun h=>(by obtain ⟨g1,g2,g3,g4,g5,g6,g7⟩:=h;simp_all;done)⟩,hs.out⟩
  |exact ⟨_,rfl,⟨fun h=>⟨by simp_all,by simp_all,by simp_all,by simp_all,by simp_all,by simp_all,by simpa using h⟩,fun h=>by simpa using h.day⟩,hs.out⟩
theorem m9{c:Cmp}(hs:St H w σ):
  Cl Tryz.prog 108 [.agg #[I c.src,I c.tape,I c.fr,I c.to,I c.lo,I c.hi]] w fun v w'=>∃b:Bool,v= .bool b∧(b=true↔pP c)∧St H w' σ:=by
 refine Cl.o Tryz.func108 Tryz.ntmps108 ag1 ?_
 refine .ai ?_
 refine .bx hs fun b1 w hs=>?_
 refine .z zg (.nil (.ai (.z (zfa gL) (.y hs (zld ae) ?_))))
 refine .o (.call Tryz.call106 rfl (gZ hs) ?_);rintro _ w ⟨rfl,hs⟩
 refine .z zm ?_
 refine .bif (t':=6) rfl (fun hb6=>?_) (fun hb6=>?_)
 ·refine .gT rfl rfl ?_
  refine .z (zfa iL) ?_
  refine .gT rfl rfl ?_
  refine .y hs (zld ae) ?_
  refine .gT rfl rfl ?_
  refine .o (.call dP rfl (bw hs) ?_);rintro _ w ⟨rfl,hs⟩
  refine .z zpT (.z zm ?_)
  refine .bif (t':=11) rfl (fun hb11=>?_) (fun hb11=>?_)
  ·refine .gT rfl rfl ?_
   refine .z (zfa fG) ?_
   refine .gT rfl rfl ?_
   refine .y hs (zld ae) ?_
   refine .gT rfl rfl ?_
   refine .z (zfa fi) ?_
   refine .gT rfl rfl ?_
   refine .y hs (zld ae) ?_
   refine .gT rfl rfl ?_
   refine .o (.call dP rfl (bw hs) ?_);rintro _ w ⟨rfl,hs⟩
   refine .z zpT (.z zm ?_)
   refine .bif (t':=18) rfl (fun hb18=>?_) (fun hb18=>?_)
   ·refine .gT rfl rfl ?_
    refine .z (zfa fi) ?_
    refine .gT rfl rfl ?_
    refine .y hs (zld ae) ?_
    refine .gT rfl rfl ?_
    refine .o (.call dP rfl (bw hs) ?_);rintro _ w ⟨rfl,hs⟩
    refine .z zpT (.z zm ?_)
    refine .bif (t':=23) rfl (fun hb23=>?_) (fun hb23=>?_)
    ·refine .gT rfl rfl ?_
     refine .z (zfa fh) ?_
     refine .gT rfl rfl ?_
     refine .y hs (zld ae) ?_
     refine .gT rfl rfl ?_
     refine .z (zfa fg) ?_
     refine .gT rfl rfl ?_
     refine .y hs (zld ae) ?_
     refine .gT rfl rfl ?_
     refine .o (.call dP rfl (bw hs) ?_);rintro _ w ⟨rfl,hs⟩
     refine .z zpT (.z zm ?_)
     refine .bif (t':=30) rfl (fun hb30=>?_) (fun hb30=>?_)
     ·refine .gT rfl rfl ?_
      refine .z (zfa fg) ?_
      refine .gT rfl rfl ?_
      refine .y hs (zld ae) ?_
      refine .gT rfl rfl ?_
      refine .o (.call dP rfl (bw hs) ?_);rintro _ w ⟨rfl,hs⟩
      refine .z zpT (.z zg (.nil ?_))
      refine .ret (Fin.bJ sH rfl ?_)
      first
      |exact ⟨false,rfl,⟨fun h=>(by cases h),fun h=>(by obtain ⟨g1,g2,g3,g4,g5,g6⟩:=h;simp_all;omega)⟩,hs.out⟩
      |exact ⟨false,rfl,⟨fun h=>(by cases h),fun h=>(by obtain ⟨g1,g2,g3,g4,g5,g6⟩:=h;simp_all;done)⟩,hs.out⟩
      |exact ⟨_,rfl,⟨fun h=>⟨by simp_all,by simp_all,by simp_all,by simp_all,by simp_all,(by simpa using h:_∧_).2⟩,fun h=>by have:=h.lo;have:=h.hi;simp;omega⟩,hs.out⟩
     ·refine .gFs 3 27 true rfl rfl rfl ?_
      refine .z zpF (.z zg (.nil ?_))
      refine .ret (Fin.bJ sH rfl ?_)
      first
      |exact ⟨false,rfl,⟨fun h=>(by cases h),fun h=>(by obtain ⟨g1,g2,g3,g4,g5,g6⟩:=h;simp_all;omega)⟩,hs.out⟩
      |exact ⟨false,rfl,⟨fun h=>(by cases h),fun h=>(by obtain ⟨g1,g2,g3,g4,g5,g6⟩:=h;simp_all;done)⟩,hs.out⟩
      |exact ⟨_,rfl,⟨fun h=>⟨by simp_all,by simp_all,by simp_all,by simp_all,by simp_all,(by simpa using h:_∧_).2⟩,fun h=>by have:=h.lo;have:=h.hi;simp;omega⟩,hs.out⟩
    ·refine .gFs 5 20 true rfl rfl rfl ?_
     refine .z zpF (.z zm ?_)
     refine .gFs 3 27 true rfl rfl rfl ?_
     refine .z zpF (.z zg (.nil ?_))
     refine .ret (Fin.bJ sH rfl ?_)
     first
     |exact ⟨false,rfl,⟨fun h=>(by cases h),fun h=>(by obtain ⟨g1,g2,g3,g4,g5,g6⟩:=h;simp_all;omega)⟩,hs.out⟩
     |exact ⟨false,rfl,⟨fun h=>(by cases h),fun h=>(by obtain ⟨g1,g2,g3,g4,g5,g6⟩:=h;simp_all;done)⟩,hs.out⟩
     |exact ⟨_,rfl,⟨fun h=>⟨by simp_all,by simp_all,by simp_all,by simp_all,by simp_all,(by simpa using h:_∧_).2⟩,fun h=>by have:=h.lo;have:=h.hi;simp;omega⟩,hs.out⟩
   ·refine .gFs 3 15 true rfl rfl rfl ?_
    refine .z zpF (.z zm ?_)
    refine .gFs 5 20 true rfl rfl rfl ?_
    refine .z zpF (.z zm ?_)
    refine .gFs 3 27 true rfl rfl rfl ?_
    refine .z zpF (.z zg (.nil ?_))
    refine .ret (Fin.bJ sH rfl ?_)
    first
    |exact ⟨false,rfl,⟨fun h=>(by cases h),fun h=>(by obtain ⟨g1,g2,g3,g4,g5,g6⟩:=h;simp_all;omega)⟩,hs.out⟩
    |exact ⟨false,rfl,⟨fun h=>(by cases h),fun h=>(by obtain ⟨g1,g2,g3,g4,g5,g6⟩:=h;simp_all;done)⟩,hs.out⟩
    |exact ⟨_,rfl,⟨fun h=>⟨by simp_all,by simp_all,by simp_all,by simp_all,by simp_all,(by simpa using h:_∧_).2⟩,fun h=>by have:=h.lo;have:=h.hi;simp;omega⟩,hs.out⟩
  ·refine .gFs 5 8 true rfl rfl rfl ?_
   refine .z zpF (.z zm ?_)
   refine .gFs 3 15 true rfl rfl rfl ?_
   refine .z zpF (.z zm ?_)
   refine .gFs 5 20 true rfl rfl rfl ?_
   refine .z zpF (.z zm ?_)
   refine .gFs 3 27 true rfl rfl rfl ?_
   refine .z zpF (.z zg (.nil ?_))
   refine .ret (Fin.bJ sH rfl ?_)
   first
   |exact ⟨false,rfl,⟨fun h=>(by cases h),fun h=>(by obtain ⟨g1,g2,g3,g4,g5,g6⟩:=h;simp_all;omega)⟩,hs.out⟩
   |exact ⟨false,rfl,⟨fun h=>(by cases h),fun h=>(by obtain ⟨g1,g2,g3,g4,g5,g6⟩:=h;simp_all;done)⟩,hs.out⟩
   |exact ⟨_,rfl,⟨fun h=>⟨by simp_all,by simp_all,by simp_all,by simp_all,by simp_all,(by simpa using h:_∧_).2⟩,fun h=>by have:=h.lo;have:=h.hi;simp;omega⟩,hs.out⟩
 ·refine .gFs 3 3 true rfl rfl rfl ?_
  refine .z zpF (.z zm ?_)
  refine .gFs 5 8 true rfl rfl rfl ?_
  refine .z zpF (.z zm ?_)
  refine .gFs 3 15 true rfl rfl rfl ?_
  refine .z zpF (.z zm ?_)
  refine .gFs 5 20 true rfl rfl rfl ?_
  refine .z zpF (.z zm ?_)
  refine .gFs 3 27 true rfl rfl rfl ?_
  refine .z zpF (.z zg (.nil ?_))
  refine .ret (Fin.bJ sH rfl ?_)
  first
  |exact ⟨false,rfl,⟨fun h=>(by cases h),fun h=>(by obtain ⟨g1,g2,g3,g4,g5,g6⟩:=h;simp_all;omega)⟩,hs.out⟩
  |exact ⟨false,rfl,⟨fun h=>(by cases h),fun h=>(by obtain ⟨g1,g2,g3,g4,g5,g6⟩:=h;simp_all;done)⟩,hs.out⟩
  |exact ⟨_,rfl,⟨fun h=>⟨by simp_all,by simp_all,by simp_all,by simp_all,by simp_all,(by simpa using h:_∧_).2⟩,fun h=>by have:=h.lo;have:=h.hi;simp;omega⟩,hs.out⟩
theorem gh{s:Spc}{vst vwa:Value}(hs:St H w σ)(h1:RI H vst s.st)(h2:RI H vwa s.wa)(hb:s.st.length≤1000∧s.wa.length≤1000):
  Cl Tryz.prog 91 [.agg #[I s.id,I s.src,vst,vwa,I s.al,I s.up]] w fun v w'=>v=I (s.many:Int)∧St H w' σ:=by
 obtain ⟨ast,cst,rfl⟩:=RI.shape h1
 obtain ⟨awa,cwa,rfl⟩:=RI.shape h2
 have hm:=lh (a:=(s.st.length:Int)) (b:=(s.wa.length:Int)) (A:=1000) (B:=1000) aj aj
 refine Cl.o Tryz.func91 Tryz.ntmps91 ag1 ?_
 refine .ai ?_
 refine .bx hs fun b1 w hs=>?_
 refine .z zg (.nil (.ai (.z (zfa bA) (.y hs (zld ak) (.z (c9 aa) (.z (zfa bj) (.y hs (zld ak) (.z (c9 aa) (.z ka ?_)))))))))
 refine .z zg (.nil ?_)
 refine .ret (Fin.bJ Tryz.results91 rfl ?_)
 exact ⟨by unfold Spc.many;rw [Int.natCast_mul],hs.out⟩
theorem ku{s:Spc}{vst vwa:Value}{a b:Int}(hs:St H w σ)(h2:RI H vwa s.wa)(hb:s.wa.length≤1000)(ha: -1000≤a∧a≤1000)(hb': -1000≤b∧b≤1000):
  Cl Tryz.prog 118 [.agg #[I s.id,I s.src,vst,vwa,I s.al,I s.up],I a,I b] w fun v w'=>v=I (1+a*s.wa.length+b)∧St H w' σ:=by
 obtain ⟨awa,cwa,rfl⟩:=RI.shape h2
 have hm:=lh (a:=a) (b:=(s.wa.length:Int)) (A:=1000) (B:=1000) aj aj
 refine Cl.o Tryz.func118 Tryz.ntmps118 ag3 ?_
 refine .ai ?_
 refine .bx hs fun b3 w hs=>?_
 refine .z zg (.nil (.ai (.z zm (.z (zfa bj) (.y hs (zld ak) (.z (c9 aa) (.z ka (.z cq (.z zm ?_)))))))))
 refine .z cq (.z zg (.nil ?_))
 refine .ret (Fin.bJ Tryz.results118 rfl ?_)
 exact ⟨rfl,hs.out⟩
theorem fy{r:Rdg}(hs:St H w σ):
  Cl Tryz.prog 114 [.agg #[I r.src,I r.st,I r.wa,I r.val,I r.tol,I r.tape,I r.day]] w fun v w'=>v= .agg #[I r.tape,I r.day]∧St H w' σ:=by
 refine Cl.o Tryz.func114 Tryz.ntmps114 ag1 ?_
 refine .ai ?_
 refine .bx hs fun b1 w hs=>?_
 refine .o (.alloc hs lI rfl fun b2 w hs=>?_)
 refine .nil (.ai (.z (zfa eF) (.y hs (zld ae) (.z (zfa eE) (.y hs (zld ae) (.z (zbd [_,_] gv) ?_))))))
 refine .o (.aU (vs:=[_,_]) hs rfl rfl bE fun w hs=>?_)
 refine .nil ?_
 refine .ret ?_
 exact Fin.iK [] [] hs fun w hs=>⟨_,results1 Tryz.results114 (dJ (vs:=[_,_]) hs rfl dO bE),rfl,hs.out⟩
theorem l5{a b:Int}(hs:St H w σ)(ha:0≤a∧a≤100000)(hb:0≤b∧b≤100000):
  Cl Tryz.prog 230 [I a,I b] w fun v w'=>v=I (kd a b)∧St H w' σ:=by
 have hm:=lh (a:=a) (b:=b) (A:=100000) (B:=100000) aj aj
 have h0:=Int.mul_nonneg ha.1 hb.1
 have hq0:0≤(a*b+999).tdiv 1000:=Int.tdiv_nonneg aj aj
 have hq1:(a*b+999).tdiv 1000≤a*b+999:=by rw [Int.tdiv_eq_ediv_of_nonneg aj];omega
 refine Cl.o Tryz.func230 Tryz.ntmps230 ag2 ?_
 refine .ai (.z zg (.nil (.ai (.z zm (.z zm (.z ka (.z cq ?_)))))))
 refine .q hs (uY rfl rfl aj aj) ?_
 refine .z As (.z zg (.nil ?_))
 refine .ret (Fin.bJ Tryz.results230 rfl ?_)
 exact ⟨rfl,hs⟩
def wQ(s:Spc):List (List Value):=(List.range s.many).map fun p=>[Value.agg #[I ((p/s.wa.length:Nat):Int),I ((p%s.wa.length:Nat):Int),I ((p+1:Nat):Int)]]
theorem fj(s:Spc):(wQ s).length=s.many:=by simp [wQ]
theorem oz{s:Spc}{p:Nat}(h:p<(wQ s).length):(wQ s)[p]=[Value.agg #[I ((p/s.wa.length:Nat):Int),I ((p%s.wa.length:Nat):Int),I ((p+1:Nat):Int)]]:=by simp [wQ]
theorem qi{H:cf}{b:Nat}{s:Spc}{vst vwa:Value}(hb:Row H b [I s.id,I s.src,vst,vwa,I s.al,I s.up])(h1:RI H vst s.st)(h2:RI H vwa s.wa)(hbd:s.st.length≤1000∧s.wa.length≤1000):
  Iter Tryz.prog 190 [.pointer (some ⟨b,0,none⟩)] H (wQ s):=by
 intro ly II Ix hmI _ hy H0 σb0 σf w hle hI0 hs
 obtain ⟨ast,cst,rfl⟩:=RI.shape h1
 obtain ⟨awa,cwa,rfl⟩:=RI.shape h2
 have g2:cellAt H0 b 2=some (.slice ast s.st.length cst):=cellAt.mono (hb.at 2) hle
 have g3:cellAt H0 b 3=some (.slice awa s.wa.length cwa):=cellAt.mono (hb.at 3) hle
 have hm:s.many≤1000000:=Nat.mul_le_mul hbd.1 hbd.2
 refine Cl.o Tryz.func190 Tryz.ntmps190 ag2 ?_
 refine .ai (.z zg (.nil (.ai (.z (zfa bA) (.y hs (zld ak) (.z (c9 aa) (.z zm (.nil ?_))))))))
 refine .for (N:=s.st.length) (J:=fun i fr w=>fr=[(3,I ((i*s.wa.length:Nat):Int)),(0,.func (.yield ly) #[] #[]),(1,.pointer (some ⟨b,0,none⟩))]∧∃H1 σb,HLe H H1∧HLe H0 H1∧II (i*s.wa.length) H1 σb∧St H1 w (σb++σf)) aj ?_ ?_ ?_
 ·exact .mk ⟨by rw [Nat.zero_mul],H0,σb0,hle,HLe.refl _,by rw [Nat.zero_mul];exact hI0,hs⟩
 ·rintro i fr w hi ⟨rfl,H1,σb,hle1,hle0,hI,hs⟩
  have h23:=cellAt.mono g3 hle0
  refine .block (.ai (.z zm (.z zg (.nil (.ai (.z (zfa bj) (.y hs (zld ak) (.z (c9 aa) (.z zm ?_)))))))))
  refine .nil ?_
  refine .for (N:=s.wa.length) (J:=fun k fr w=>fr=[(3,I ((i*s.wa.length+k:Nat):Int)),(4,I (i:Int)),(9,I (i:Int)),(8,I (s.st.length:Int)),(0,.func (.yield ly) #[] #[]),(1,.pointer (some ⟨b,0,none⟩))]∧∃H3 σb,HLe H1 H3∧II (i*s.wa.length+k) H3 σb∧St H3 w (σb++σf)) aj ?_ ?_ ?_
  ·exact .mk ⟨rfl,H1,σb,HLe.refl _,hI,hs⟩
  ·rintro k fr w hk ⟨rfl,H3,σb3,hle3,hI3,hs⟩
   obtain ⟨d1,d2⟩:=DX (nw:=s.wa.length) (i:=i) (k:=k) hk
   have hlt:=GC hi hk
   refine .block (.ai (.z zm (.z zg (.nil (.ai (.z zm (.z cq (.z zg (.nil ?_)))))))))
   refine .ai (.z zm (.z zm (.z zm (.z zm (.z (zbd [_,_,_] qM) ?_)))))
   have hk':i*s.wa.length+k<(wQ s).length:=by rw [fj];exact hlt
   have hyd:=hy (i*s.wa.length+k) hk' H3 σb3 σf w (hle1.trans hle3) hI3 hs
   rw [oz hk',d1,d2,show ((i*s.wa.length+k+1:Nat):Int)=((i*s.wa.length+k:Nat):Int)+1 by omega] at hyd
   refine .o (.yield rfl rfl hyd ?_);rintro v25 w ⟨H5,σ5,g1,hs,g3'⟩
   obtain ⟨bb,rfl,gT,gF⟩:=o5 g3'
   refine .z ir (.nil ?_)
   refine (.cond rfl (fun hc26=>?_) (fun hc26=>?_))
   ·refine .ret (rB (rT (rB (rB (rT (rB (Fin.EZ Tryz.results190 ?_)))))))
    exact ⟨H5,σ5,hle0.trans (hle3.trans g1),hs,.inr (gF (by simpa using hc26))⟩
   ·refine .skip ?_
    refine nB (nT ?_)
    exact .mk ⟨rfl,H5,σ5,hle3.trans g1,gT (by simpa using hc26),hs⟩
  ·rintro fr w ⟨rfl,H3,σb3,hle3,hI3,hs⟩
   have e:i*s.wa.length+s.wa.length=(i+1)*s.wa.length:=by rw [Nat.add_mul,Nat.one_mul]
   rw [e] at hI3 ⊢
   refine nB (nT ?_)
   exact .mk ⟨rfl,H3,σb3,hle1.trans hle3,hle0.trans hle3,hI3,hs⟩
 ·rintro fr w ⟨rfl,H1,σb,hle1,hle0,hI,hs⟩
  exact Fin.xV Tryz.results190 ⟨H1,σb,hle0,hs,.inl (by rw [fj];exact hI)⟩
theorem gK{s:Spc}{vst vwa:Value}(hs:St H w σ)(h1:RI H vst s.st)(h2:RI H vwa s.wa)(hbd:s.st.length≤1000∧s.wa.length≤1000):
  Cl Tryz.prog 103 [.agg #[I s.id,I s.src,vst,vwa,I s.al,I s.up]] w fun u w'=>∃H1 b,HLe H H1∧u= .func (.func 190) #[] #[.pointer (some ⟨b,0,none⟩)]∧Iter Tryz.prog 190 [.pointer (some ⟨b,0,none⟩)] H1 (wQ s)∧St H1 w' σ:=by
 obtain ⟨ast,cst,rfl⟩:=RI.shape h1
 obtain ⟨awa,cwa,rfl⟩:=RI.shape h2
 refine Cl.o Tryz.func103 Tryz.ntmps103 ag1 ?_
 refine .ai ?_
 refine .bx hs fun b1 w hs=>?_
 refine .z zg (.nil (.ai ?_))
 refine .q hs (dR (f:=[]) (c:=[_]) rfl rfl) ?_
 refine .z zg (.nil ?_)
 refine .ret (Fin.bJ Tryz.results103 rfl ?_)
 obtain ⟨H1,g1,g2,hs⟩:=hs.cK .here
 exact ⟨H1,b1,g1,rfl,qi g2 (h1.mono g1) (h2.mono g1) hbd,hs⟩
set_option maxRecDepth 100000 in
theorem pX:Tryz.prog.stoodInHeld 49=false:=by kernel_rfl
set_option maxRecDepth 100000 in
theorem pY:Tryz.prog.eqGuardType Tryz.prog.depth 49=false:=by kernel_rfl
theorem pb{v:Value}{en:Ent}{xs:List TD}{g:Nat}{cap:List Value}(q:TD→Bool)(hs:St H w (en::σ))(hO:cn 2 v (tdc xs).flatten en)(hl:xs.length≤1000000)(hc:∀args w,(callFunc g args).run Tryz.prog w= .ok (.enter g args) w)
  (hp:∀w (t:TD),St H w (en::σ)→Cl Tryz.prog g ([.agg #[I t.tape,I t.day]]++cap) w fun u w'=>u= .bool (q t)∧St H w' (en::σ)):
  Cl Tryz.prog 229 [v,.func (.func g) #[] cap.toArray] w fun u w'=>∃i:Int,u=I i∧(0≤i↔∃x∈xs,q x=true)∧St H w' (en::σ):=by
 obtain ⟨a,c,rfl⟩:=hO.iD (lC xs) aj
 rw [dA] at hO ⊢
 refine Cl.o Tryz.func229 Tryz.ntmps229 ag2 ?_
 refine .ai (.z zg (.nil (.seq (.ai (.z zm (.z (c9 bg) (.z zm (.nil ?_))))))))
 refine .for (N:=xs.length) (J:=fun k fr w=>fr=[(1,.func (.func g) #[] cap.toArray),(0,.slice a xs.length c)]∧(∀j<k,∀y,xs[j]? =some y→¬q y=true)∧St H w (en::σ)) aj ?_ ?_ ?_
 ·exact .mk ⟨rfl,fun j hj=>by omega,hs⟩
 ·rintro k fr w hk ⟨rfl,hno,hs⟩
  obtain ⟨x,hx⟩:=nth hk
  obtain ⟨b,c',sp,hv,rfl,_⟩:=hO.EA (lC xs) aj (by rw [dA];omega)
  rw [dA] at hv
  cases hv
  refine .block (.ai (.z zm (.z zg (.nil (.ai (.z zm (.z zm (.z zm (.z (ni bg bE) ?_)))))))))
  refine .q hs (kJ (vs:=x.c) rfl dO bE .here (u4 (lC xs) (yc hx) sp)) ?_
  refine .o (.pH (first:=[]) (cap:=cap) rfl rfl hc (hp _ x hs) ?_);rintro _ w ⟨rfl,hs⟩
  refine .nil ?_
  refine (.cond rfl (fun hc16=>?_) (fun hc16=>?_))
  ·refine .ai (.z zm (.z zg (.nil ?_)))
   refine .ret (rB (rT (rB (rT (Fin.bJ Tryz.results229 rfl ?_)))))
   exact ⟨_,rfl,⟨fun _=>⟨x,List.mem_of_getElem? hx,hc16⟩,fun _=>by omega⟩,hs⟩
  ·refine .skip ?_
   refine nB (nT ?_)
   exact .mk ⟨rfl,fw hno hx (by simpa using hc16),hs⟩
 ·rintro fr w ⟨rfl,hno,hs⟩
  refine nT ?_
  refine .ai (.z zg (.nil ?_))
  refine .ret (Fin.bJ Tryz.results229 rfl ?_)
  exact ⟨_,rfl,⟨fun h=>by omega,fun ⟨x,h1,h2⟩=>by
   obtain ⟨j,hj⟩:=List.getElem?_of_mem h1
   exact (hno j (List.getElem?_eq_some_iff.1 hj).1 x hj h2).elim⟩,hs⟩
theorem m7{v:Value}{en:Ent}{xs:List TD}{g:Nat}{cap:List Value}(q:TD→Bool)(hs:St H w (en::σ))(hO:cn 2 v (tdc xs).flatten en)(hl:xs.length≤1000000)(hc:∀args w,(callFunc g args).run Tryz.prog w= .ok (.enter g args) w)
  (hp:∀w (t:TD),St H w (en::σ)→Cl Tryz.prog g ([.agg #[I t.tape,I t.day]]++cap) w fun u w'=>u= .bool (q t)∧St H w' (en::σ)):
  Cl Tryz.prog 172 [v,.func (.func g) #[] cap.toArray] w fun u w'=>∃b:Bool,u= .bool b∧(b=true↔∃x∈xs,q x=true)∧St H w' (en::σ):=by
 refine Cl.o Tryz.func172 Tryz.ntmps172 ag2 ?_
 refine .ai (.z zg (.nil (.ai (.z zm (.z zm ?_)))))
 refine .o (.call Tryz.call229 rfl (pb q hs hO hl hc hp) ?_);rintro _ w ⟨i,rfl,hi,hs⟩
 refine .z vD (.z zg (.nil ?_))
 refine .ret (Fin.bJ Tryz.results172 rfl ?_)
 exact ⟨_,rfl,by simp only [decide_eq_true_eq];exact hi,hs⟩
theorem nt{v:Value}{xs:List TD}{t:TD}(hs:St H w σ)(hr:RTd H v xs)(hl:xs.length≤1000000):
  Cl Tryz.prog 89 [v,.agg #[I t.tape,I t.day]] w fun u w'=>u=I (ja xs t)∧St H w' σ:=by
 obtain ⟨a,c,rfl⟩:=RTd.shape hr
 refine Cl.o Tryz.func89 Tryz.ntmps89 ag2 ?_
 refine .ai ?_
 refine .bx hs fun b3 w hs=>?_
 refine .z zg (.nil (.seq (.ai (.z zm (.z (c9 bg) (.z zm (.nil ?_)))))))
 refine .for (N:=xs.length) (J:=fun k fr w=>fr=[(0,.slice a xs.length c),(3,.pointer (some ⟨b3,0,none⟩))]∧(∀j<k,∀y,xs[j]? =some y→¬y=t)∧St H w (.blk b3 [I t.tape,I t.day]::σ)) aj ?_ ?_ ?_
 ·exact .mk ⟨rfl,fun j hj=>by omega,hs⟩
 ·rintro k fr w hk ⟨rfl,hno,hs⟩
  obtain ⟨x,hx⟩:=nth hk
  refine .block (.ai (.z zm (.z zg (.nil ?_))))
  refine .seq (.draw mix rfl hs fun w hs=>?_)
  refine .ys 0 rfl hs [_,_] dO bE ?_;refine .z 1 rfl zm ?_;refine .z 2 rfl zm ?_
  refine .ixX (enc:=TD.c) (i:=3) hs rfl an .none hr rfl rfl bg bE hx dy ?_;intro b14 o14 hc14
  refine .r (i:=4) hs rfl an .none (cI (vs:=x.c) rfl dO bE hc14) ?_
  refine .z 5 rfl (r6 pX pY gB (fun f hf=>by
   simp only [List.mem_cons,List.not_mem_nil,or_false] at hf
   rcases hf with rfl|rfl<;>exact ⟨by decide,bp,ae⟩) rfl rfl) ?_
  refine .D hs ?_
  refine (.cond rfl (fun hc16=>?_) (fun hc16=>?_))
  ·refine .ai (.z zm (.z zg (.nil ?_)))
   refine .ret (rB (rT (rB (rT (Fin.bJ Tryz.results89 rfl ?_)))))
   have e:x=t:=AF.1 (by have:=of_decide_eq_true hc16;exact ⟨this.1.symm,this.2.symm⟩)
   subst e
   exact ⟨by rw [nr hx fun j hj h=>hno j hj _ h rfl],hs.tail⟩
  ·refine .skip ?_
   refine nB (nT ?_)
   exact .mk ⟨rfl,fw hno hx (fun e=>by subst e;simp at hc16),hs⟩
 ·rintro fr w ⟨rfl,hno,hs⟩
  refine nT ?_
  refine .ai (.z zg (.nil ?_))
  refine .ret (Fin.bJ Tryz.results89 rfl ?_)
  exact ⟨by rw [sK hno],hs.tail⟩
theorem oD{t:TD}{r:Rdg}{b:Nat}(hs:St H w σ)(hb:Row H b r.c):
  Cl Tryz.prog 173 [.agg #[I t.tape,I t.day],.pointer (some ⟨b,0,none⟩)] w fun u w'=>u= .bool (decide (t=r.td))∧St H w' σ:=by
 have hb0:bB H b 0 r.c:=hb.cells 0 r.c
 refine Cl.o Tryz.func173 Tryz.ntmps173 ag2 ?_
 refine .ai ?_
 refine .bx hs fun b2 w hs=>?_
 refine .z zg (.nil ?_)
 refine .seq (.draw mix rfl hs fun w hs=>?_)
 refine .ys 0 rfl hs [_,_] dO bE ?_;refine .ys 1 rfl hs [_,_,_,_,_,_,_] dN aH ?_
 refine .E 2 hs ?_
 refine .call GA rfl (fy hs) ?_;rintro _ w ⟨rfl,hs⟩
 refine .go ?_
 refine .z 3 rfl (r6 pX pY gB (fun f hf=>by
  simp only [List.mem_cons,List.not_mem_nil,or_false] at hf
  rcases hf with rfl|rfl<;>exact ⟨by decide,bp,ae⟩) rfl rfl) ?_
 refine .z 4 rfl zg ?_;refine .D hs ?_
 refine .ret (Fin.bJ Tryz.results173 rfl ?_)
 exact ⟨by congr 1;rw [decide_eq_decide];exact AF (t:=t) (u:=r.td),hs.tail⟩
set_option maxHeartbeats 1000000 in
theorem lZ{s:Srv}{vst vwa vr vc:Value}(hs:St H w σ)(hr:RRd H vr s.rs)(hl:s.rs.length≤1000000):
  Cl Tryz.prog 90 [.agg #[I s.sp.id,I s.sp.src,vst,vwa,I s.sp.al,I s.sp.up,vr,vc]] w fun u w'=>∃H1 en,HLe H H1∧cn 2 u (tdc s.bP).flatten en∧St H1 w' (en::σ):=by
 obtain ⟨ar,cr,rfl⟩:=RRd.shape hr
 refine Cl.o Tryz.func90 Tryz.ntmps90 ag1 ?_
 refine .ai ?_
 refine .bx hs fun b1 w hs=>?_
 refine .z zg (.nil (.ai (.z zg (.nil (.seq (.ai (.z (zfa aN) (.y hs (zld bu) (.z (c9 az) ?_)))))))))
 refine .z zm (.nil ?_)
 refine .for (N:=s.rs.length) (J:=fun k fr w=>∃vo en H1,fr=[(7,.slice ar s.rs.length cr),(3,vo)]∧HLe H H1∧cn 2 vo (tdc (bn (s.rs.take k))).flatten en∧St H1 w (en::σ)) aj ?_ ?_ ?_
 ·exact .mk ⟨_,.nul,H,rfl,HLe.refl _,.nil 2 none,hs.tail.nul⟩
 ·rintro k fr w hk ⟨vo,en,H1,rfl,hle1,hO,hs⟩
  obtain ⟨r,hx⟩:=nth hk
  have htk:=jO hx
  have htl:=kH s.rs k aj
  obtain ⟨ao,co,rfl⟩:=hO.iD (lC _) aj
  rw [dA] at hO ⊢
  refine .block (.ai ?_)
  refine .ixX (enc:=Rdg.c) hs (hr.mono hle1) rfl rfl az aH hx dy ?_;intro b11 o11 hc11
  refine .q hs (cI (vs:=(Rdg.c r)) rfl dN aH hc11) ?_
  refine .o (.alloc hs eH rfl fun b5 w hs=>?_)
  refine .o (.aU (vs:=r.c) hs rfl rfl aH fun w hs=>?_)
  obtain ⟨H2,hle2,r5,hs⟩:=hs.cK (b:=b5) (c:=r.c) .here
  have c5:bB H2 b5 0 r.c:=r5.cells 0 r.c
  refine .nil (.ai (.z zm ?_))
  refine .q hs (dR (f:=[]) (c:=[_]) rfl rfl) ?_
  refine .o (.call Tryz.call172 rfl (m7 (g:=173) (cap:=[.pointer (some ⟨b5,0,none⟩)]) (fun t=>decide (t=r.td)) hs hO aj Tryz.call173 (fun w t hs=>oD hs r5)) ?_);rintro _ w ⟨b15,rfl,hb15,hs⟩
  refine .z ir (.nil ?_)
  refine (.cond rfl (fun hc16=>?_) (fun hc16=>?_))
  ·refine .region (.z zm ?_)
   refine .q hs (cI (vs:=r.c) rfl dN aH c5) ?_
   refine .o (.call GA rfl (fy (r:=r) hs) ?_);rintro _ w ⟨rfl,hs⟩
   refine .o (.buildSlice (cells:=[_,_]) hs fZ rfl rfl fun b20 w hs=>?_)
   refine .o (.append (ys:=r.td.c) hs dV rfl rfl hO (.own .here rfl rfl) (by simp [TD.c,Value.oneCell']) (fun l h=>by rw [bT _ (lC _),dA] at h;omega) ?_);intro v21 en21 w hO2 hs
   refine .z zg (.nil ?_)
   refine nB (nT ?_)
   have hn:r.td∉bn (s.rs.take k):=fun hm=>by
    rw [hb15.2 ⟨_,hm,bV⟩] at hc16;cases hc16
   rw [←sJ,show bn (s.rs.take k)++[r.td]=bn (s.rs.take (k+1)) by rw [htk];unfold qQ;rw [if_neg hn]] at hO2
   exact .mk ⟨_,_,H2,rfl,hle1.trans hle2,hO2,hs.sb⟩
  ·refine .skip ?_
   refine nB (nT ?_)
   have hm:r.td∈bn (s.rs.take k):=by
    obtain ⟨x,h1,h2⟩:=hb15.1 (by simpa using hc16)
    rw [←of_decide_eq_true h2];exact h1
   exact .mk ⟨_,_,H2,rfl,hle1.trans hle2,by rw [htk];unfold qQ;rw [if_pos hm];exact hO,hs⟩
 ·rintro fr w ⟨vo,en,H1,rfl,hle1,hO,hs⟩
  rw [List.take_length] at hO
  refine nT ?_
  refine .ai (.z zm (.z zg (.nil ?_)))
  refine .ret (Fin.bJ Tryz.results90 rfl ?_)
  exact ⟨H1,en,hle1,hO,hs⟩
theorem jf{s:Srv}{vst vwa vr vc:Value}(hs:St H w σ)(hr:RRd H vr s.rs)(hl:s.rs.length≤1000000):
  Cl Tryz.prog 90 [.agg #[I s.sp.id,I s.sp.src,vst,vwa,I s.sp.al,I s.sp.up,vr,vc]] w fun u w'=>∃H1,HLe H H1∧RTd H1 u s.bP∧St H1 w' σ:=by
 refine (lZ hs hr hl).mono ?_
 rintro u w' ⟨H1,en,hle1,hO,hs⟩
 have htl:=dq s.rs
 have htl':s.bP.length≤1000000:=by unfold Srv.bP;omega
 obtain ⟨H2,hle2,hR,hs⟩:=cn.cK (m:=2) hO (lC _) aj (by rw [dA];omega) hs .here
 exact ⟨H2,hle1.trans hle2,hR,hs⟩
theorem p8{v:Value}{en:Ent}{xs:List TD}{t:TD}(hs:St H w (en::σ))(hO:cn 2 v (tdc xs).flatten en)(hl:xs.length≤1000000):
  Cl Tryz.prog 89 [v,.agg #[I t.tape,I t.day]] w fun u w'=>u=I (ja xs t)∧St H w' (en::σ):=by
 obtain ⟨a,c,rfl⟩:=hO.iD (lC xs) aj
 rw [dA] at hO ⊢
 refine Cl.o Tryz.func89 Tryz.ntmps89 ag2 ?_
 refine .ai ?_
 refine .bx hs fun b3 w hs=>?_
 refine .z zg (.nil (.seq (.ai (.z zm (.z (c9 bg) (.z zm (.nil ?_)))))))
 refine .for (N:=xs.length) (J:=fun k fr w=>fr=[(0,.slice a xs.length c),(3,.pointer (some ⟨b3,0,none⟩))]∧(∀j<k,∀y,xs[j]? =some y→¬y=t)∧St H w (.blk b3 [I t.tape,I t.day]::en::σ)) aj ?_ ?_ ?_
 ·exact .mk ⟨rfl,fun j hj=>by omega,hs⟩
 ·rintro k fr w hk ⟨rfl,hno,hs⟩
  obtain ⟨x,hx⟩:=nth hk
  obtain ⟨b,c',sp,hv,rfl,_⟩:=hO.EA (lC xs) aj (by rw [dA];omega)
  rw [dA] at hv
  cases hv
  refine .block (.ai (.z zm (.z zg (.nil ?_))))
  refine .seq (.draw mix rfl hs fun w hs=>?_)
  refine .ys 0 rfl hs [_,_] dO bE ?_;refine .z 1 rfl zm ?_;refine .z 2 rfl zm ?_;refine .z 3 rfl (ni bg bE) ?_
  refine .yu (i:=4) (vs:=x.c) hs rfl an .none rfl dO bE ?_ (hv:=u4 (lC xs) (yc hx) sp)
  refine .z 5 rfl (r6 pX pY gB (fun f hf=>by
   simp only [List.mem_cons,List.not_mem_nil,or_false] at hf
   rcases hf with rfl|rfl<;>exact ⟨by decide,bp,ae⟩) rfl rfl) ?_
  refine .D hs ?_
  refine (.cond rfl (fun hc16=>?_) (fun hc16=>?_))
  ·refine .ai (.z zm (.z zg (.nil ?_)))
   refine .ret (rB (rT (rB (rT (Fin.bJ Tryz.results89 rfl ?_)))))
   have e:x=t:=AF.1 (by have:=of_decide_eq_true hc16;exact ⟨this.1.symm,this.2.symm⟩)
   subst e
   exact ⟨by rw [nr hx fun j hj h=>hno j hj _ h rfl],hs.tail⟩
  ·refine .skip ?_
   refine nB (nT ?_)
   exact .mk ⟨rfl,fw hno hx (fun e=>by subst e;simp at hc16),hs⟩
 ·rintro fr w ⟨rfl,hno,hs⟩
  refine nT ?_
  refine .ai (.z zg (.nil ?_))
  refine .ret (Fin.bJ Tryz.results89 rfl ?_)
  exact ⟨by rw [sK hno],hs.tail⟩
theorem fT{x0 x1 x2 x3 x4 x5 x6 x7 x8 vl:Value}{en:Ent}{bm:Nat}{ls:List Lim}{a b hi lo by_:Int}(hs:St H w (.blk bm [x0,x1,x2,x3,x4,x5,x6,x7,x8,vl]::en::σ))(hO:cn 4 vl (gI ls) en)(hl:ls.length≤100000):
  Cl Tryz.prog 115 [.pointer (some ⟨bm,0,none⟩),I a,I b,I hi,I lo,I by_] w fun _ w'=>∃vl' en',cn 4 vl' (gI (ls++two a b hi lo by_)) en'∧St H w' (.blk bm [x0,x1,x2,x3,x4,x5,x6,x7,x8,vl']::en'::σ):=by
 obtain ⟨al,ll,cl,rfl,h⟩:=hO.shape
 refine Cl.of Tryz.func115 rfl Tryz.ntmps115 bV (ef (k:=0) rfl (ef (k:=1) rfl (ef (k:=2) rfl (ef (k:=3) rfl (ef (k:=4) rfl (ef (k:=5) rfl (wI))))))) ?_
 refine .region (.z zm (.z zm (.z znc (.z (zfa gR) (.y hs (zld cH) (.z zm (.z zm (.z zm (.z zm ?_)))))))))
 refine .z (zbd [_,_,_,_] eR) (.z zm (.z zm (.z zm (.z zm (.z (zbd [_,_,_,_] eR) ?_)))))
 refine .o (.buildSlice (cells:=gI (two a b hi lo by_)) hs fO rfl an fun b27 w hs=>?_)
 refine .o (.append (ys:=gI (two a b hi lo by_)) hs bZ rfl rfl hO (.own .here rfl rfl) (j7 _) (fun l h=>by rw [dM] at h;omega) ?_);intro v28 en28 w hO2 hs
 rw [←gH] at hO2
 obtain ⟨a28,l28,c28,rfl,h28⟩:=hO2.shape
 refine .z znc (.z (zfa gR) ?_)
 refine .o (.store hs rfl rfl mD fun w hs=>?_)
 refine .nil ?_
 exact Fin.xV Tryz.results115 ⟨_,_,hO2,hs.sb⟩
theorem jh{s:Spc}{vst vwa x6 x7 x8 vl:Value}{bm:Nat}{j:Int}(hs:St H w σ)(hm:Mem σ (.blk bm [I s.id,I s.src,vst,vwa,I s.al,I s.up,x6,x7,x8,vl]))(h1:RI H vst s.st)(h2:RI H vwa s.wa)(hb:s.st.length≤1000∧s.wa.length≤1000)(hj: -1≤j∧j≤1000):
  Cl Tryz.prog 116 [.pointer (some ⟨bm,0,none⟩),I j] w fun u w'=>u=I ((s.many:Int)+1+j)∧St H w' σ:=by
 have hmm:s.many≤1000000:=Nat.mul_le_mul hb.1 hb.2
 refine Cl.o Tryz.func116 Tryz.ntmps116 ag2 ?_
 refine .ai (.z zg (.nil (.ai (.z zm (.z znc (.z (zfa dH) (.z (zfa aS) ?_)))))))
 refine .q hs (kJ (vs:=[I s.id,I s.src,vst,vwa,I s.al,I s.up]) rfl aQ aI hm) ?_
 refine .o (.call Tryz.call91 rfl (gh (s:=s) hs h1 h2 hb) ?_);rintro _ w ⟨rfl,hs⟩
 refine .z cq (.z zm (.z cq (.z zg (.nil ?_))))
 refine .ret (Fin.bJ Tryz.results116 rfl ?_)
 exact ⟨rfl,hs⟩
theorem fk{s:Spc}(h:fX s):s.st.length≤1000∧s.wa.length≤1000∧0<s.wa.length∧s.many≤63:=by
 have h1:=h.st.many;have h2:=h.wa.many;have h3:=h.wa.two
 have:s.many≤9*7:=Nat.mul_le_mul h1 h2
 omega
theorem pB{s:Srv}{ts:List TD}{vst vwa vr vc vt vl:Value}{en:Ent}{bm:Nat}{ls:List Lim}(hs:St H w (.blk bm [I s.sp.id,I s.sp.src,vst,vwa,I s.sp.al,I s.sp.up,vr,vc,vt,vl]::en::σ))(hk:MkK H s ts vst vwa vr vc vt)(hO:cn 4 vl (gI ls) en)(hl:ls.length≤10000)(hok:fX s.sp):
  Cl Tryz.prog 174 [.pointer (some ⟨bm,0,none⟩)] w fun _ w'=>∃H1 vl' en',HLe H H1∧cn 4 vl' (gI (ls++eO (qV s.sp) s.sp.wa.length s.sp.st.length)) en'∧St H1 w' (.blk bm [I s.sp.id,I s.sp.src,vst,vwa,I s.sp.al,I s.sp.up,vr,vc,vt,vl']::en'::σ):=by
 have hsm:=fk hok
 refine Cl.o Tryz.func174 Tryz.ntmps174 ag1 ?_
 refine .ai ?_
 refine .bx hs fun b1 w hs=>?_
 refine .nil (.ai (.y hs (zld qY) (.z znc (.z (zfa dH) (.z (zfa aS) (.y hs (zls [_,_,_,_,_,_] aQ aI) ?_))))))
 refine .o (.call GB rfl (gK (s:=s.sp) hs hk.st hk.wa ⟨aj,aj⟩) ?_);rintro _ w ⟨H1,ba,hle1,rfl,hit,hs⟩
 refine .nil (.block ?_)
 refine .rangeFunc (gf:=190) (cap:=[.pointer (some ⟨ba,0,none⟩)]) (xs:=wQ s.sp) (σb:=[.blk bm [I s.sp.id,I s.sp.src,vst,vwa,I s.sp.al,I s.sp.up,vr,vc,vt,vl],en,.blk b1 [.pointer (some ⟨bm,0,none⟩)]]) (σf:=σ) (hs.sb) trivial rfl hit Gz (fun x hx=>by
   simp only [wQ,List.mem_map] at hx
   obtain ⟨j,_,rfl⟩:=hx;rfl) rfl
  (I:=fun p H' σb=>∃vl en,σb=[.blk bm [I s.sp.id,I s.sp.src,vst,vwa,I s.sp.al,I s.sp.up,vr,vc,vt,vl],en,.blk b1 [.pointer (some ⟨bm,0,none⟩)]]∧cn 4 vl (gI (ls++qo (qV s.sp) s.sp.wa.length p)) en) (Ix:=fun _ _ _=>False)
  (fun j _ _ σ g1 g2=>g2) (fun _ _ _ _ _ h=>h) ⟨vl,en,rfl,by rw [oo,List.append_nil];exact hO⟩ ?_ ?_ (fun D c H' σb w _ h _=>h.elim)
 ·rintro ly p hp H2 σb2 σf2 w hle2 ⟨vl,en,rfl,hO⟩ hs ⟨rr,hrr⟩
  have hpm:p<s.sp.many:=by rw [fj] at hp;exact hp
  have hsucc:=oq (qV s.sp) (p:=p) hsm.2.2.1
  have hpl:=jU (ox s.sp) hsm.2.2.1 p
  have hin:p/s.sp.wa.length<s.sp.st.length:=Nat.div_lt_of_lt_mul (by rw [Nat.mul_comm];exact hpm)
  have hkm:=Nat.mod_lt p hsm.2.2.1
  have hdm:=Nat.div_add_mod p s.sp.wa.length
  rw [Nat.mul_comm] at hdm
  have hu:(s.sp.u (p/s.sp.wa.length) (p%s.sp.wa.length):Int)=(p:Int)+1:=by unfold Spc.u;omega
  rw [oz hp]
  obtain ⟨al,ll,cl,rfl,hll⟩:=hO.shape
  generalize p/s.sp.wa.length=i at*
  generalize p%s.sp.wa.length=k at*
  have hk2:=hk.mono (hle1.trans hle2)
  refine .region ?_
  refine .o (.alloc hs oO rfl fun b2 w hs=>?_)
  refine .o (.aU (vs:=[_,_,_]) hs rfl rfl uK fun w hs=>?_)
  refine .nil ?_
  refine nT ?_
  refine ⟨H2,[.blk b2 [I (i:Int),I (k:Int),I ((p+1:Nat):Int)],.blk bm [I s.sp.id,I s.sp.src,vst,vwa,I s.sp.al,I s.sp.up,vr,vc,vt,.slice al ll cl],en,.blk b1 [.pointer (some ⟨bm,0,none⟩)]],HLe.refl _,hs,?_⟩;rintro w σf4 - hs
  refine .block ?_
  refine .draw mix rfl hs fun w hs=>?_
  refine .y 0 rfl hs qY ?_;refine .z 1 rfl (zfa eL) ?_;refine .y 2 rfl hs ae ?_;refine .y 3 rfl hs qY ?_;refine .z 4 rfl znc ?_;refine .z 5 rfl (zfa dH) ?_;refine .z 6 rfl (zfa aS) ?_;refine .z 7 rfl (zfa dB) ?_;refine .y 8 rfl hs ae ?_
  refine .E 9 hs ?_
  refine .call um rfl (fT (ls:=ls++qo (qV s.sp) s.sp.wa.length p) (hs.sb:St H2 w (.blk bm _::en:: .blk b1 _::σf4)) hO (by rw [List.length_append];omega)) ?_;rintro _ w ⟨vl3,en3,hO3,hs⟩
  rw [show two 0 ((p+1:Nat):Int) 20000 0 s.sp.src=qV s.sp i k by unfold qV;rw [hu];rfl,List.append_assoc,←hsucc] at hO3
  refine .go ?_
  refine .D hs ?_
  refine nB ?_
  exact ⟨H2,_,HLe.refl _,hs,_,_,rfl,hO3⟩
 ·rintro D H2 σb2 w hle2 ⟨vl,en,rfl,hO⟩ hs
  rw [fj,show s.sp.many=s.sp.st.length*s.sp.wa.length from rfl,qn _ hsm.2.2.1] at hO
  refine nB ?_
  exact Fin.FQ [D] [] hs fun w hs=>⟨_,results0 Tryz.results174,H2,vl,en,hle1.trans hle2,hO,(hs.sb:St H2 w (.blk bm _::en::σ))⟩
theorem sy{s:Srv}{ts:List TD}{vst vwa vr vc vt vl:Value}{en:Ent}{bm:Nat}{ls:List Lim}(hs:St H w (.blk bm [I s.sp.id,I s.sp.src,vst,vwa,I s.sp.al,I s.sp.up,vr,vc,vt,vl]::en::σ))(hk:MkK H s ts vst vwa vr vc vt)(hO:cn 4 vl (gI ls) en)(hl:ls.length≤10000)(hok:fX s.sp):
  Cl Tryz.prog 175 [.pointer (some ⟨bm,0,none⟩)] w fun _ w'=>∃H1 vl' en',HLe H H1∧cn 4 vl' (gI (ls++eO (alL s.sp) s.sp.wa.length s.sp.st.length)) en'∧St H1 w' (.blk bm [I s.sp.id,I s.sp.src,vst,vwa,I s.sp.al,I s.sp.up,vr,vc,vt,vl']::en'::σ):=by
 have hsm:=fk hok
 obtain ⟨ast,cst,rfl⟩:=RI.shape hk.st
 obtain ⟨awa,cwa,rfl⟩:=RI.shape hk.wa
 refine Cl.o Tryz.func175 Tryz.ntmps175 ag1 ?_
 refine .ai ?_
 refine .bx hs fun b1 w hs=>?_
 refine .nil (.ai (.y hs (zld qY) (.z znc (.z (zfa dH) (.z (zfa aS) (.y hs (zls [_,_,_,_,_,_] aQ aI) ?_))))))
 refine .o (.alloc hs jx rfl fun b2 w hs=>?_)
 refine .o (.aU (vs:=[_,_,_,_,_,_]) hs rfl rfl aI fun w hs=>?_)
 refine .nil (.ai (.y hs (zls [_,_,_,_,_,_] aQ aI) ?_))
 refine .o (.call GB rfl (gK (s:=s.sp) hs hk.st hk.wa ⟨aj,aj⟩) ?_);rintro _ w ⟨H1,ba,hle1,rfl,hit,hs⟩
 refine .nil (.block ?_)
 refine .rangeFunc (gf:=190) (cap:=[.pointer (some ⟨ba,0,none⟩)]) (xs:=wQ s.sp) (σb:=[.blk bm [I s.sp.id,I s.sp.src,.slice ast s.sp.st.length cst,.slice awa s.sp.wa.length cwa,I s.sp.al,I s.sp.up,vr,vc,vt,vl],en,.blk b1 [.pointer (some ⟨bm,0,none⟩)],.blk b2 [I s.sp.id,I s.sp.src,.slice ast s.sp.st.length cst,.slice awa s.sp.wa.length cwa,I s.sp.al,I s.sp.up]]) (σf:=σ) (hs.sb) trivial rfl hit Gz (fun x hx=>by
   simp only [wQ,List.mem_map] at hx
   obtain ⟨j,_,rfl⟩:=hx;rfl) rfl
  (I:=fun p H' σb=>∃vl en,σb=[.blk bm [I s.sp.id,I s.sp.src,.slice ast s.sp.st.length cst,.slice awa s.sp.wa.length cwa,I s.sp.al,I s.sp.up,vr,vc,vt,vl],en,.blk b1 [.pointer (some ⟨bm,0,none⟩)],.blk b2 [I s.sp.id,I s.sp.src,.slice ast s.sp.st.length cst,.slice awa s.sp.wa.length cwa,I s.sp.al,I s.sp.up]]∧cn 4 vl (gI (ls++qo (alL s.sp) s.sp.wa.length p)) en) (Ix:=fun _ _ _=>False)
  (fun j _ _ σ g1 g2=>g2) (fun _ _ _ _ _ h=>h) ⟨vl,en,rfl,by rw [oo,List.append_nil];exact hO⟩ ?_ ?_ (fun D c H' σb w _ h _=>h.elim)
 ·rintro ly p hp H2 σb2 σf2 w hle2 ⟨vl,en,rfl,hO⟩ hs ⟨rr,hrr⟩
  have hpm:p<s.sp.many:=by rw [fj] at hp;exact hp
  have hsucc:=oq (alL s.sp) (p:=p) hsm.2.2.1
  have hpl:=jU (rR s.sp) hsm.2.2.1 p
  have hin:p/s.sp.wa.length<s.sp.st.length:=Nat.div_lt_of_lt_mul (by rw [Nat.mul_comm];exact hpm)
  have hkm:=Nat.mod_lt p hsm.2.2.1
  have hdm:=Nat.div_add_mod p s.sp.wa.length
  rw [Nat.mul_comm] at hdm
  have hu:(s.sp.u (p/s.sp.wa.length) (p%s.sp.wa.length):Int)=(p:Int)+1:=by unfold Spc.u;omega
  rw [oz hp]
  obtain ⟨al,ll,cl,rfl,hll⟩:=hO.shape
  generalize p/s.sp.wa.length=i at*
  generalize p%s.sp.wa.length=k at*
  have hk2:=hk.mono (hle1.trans hle2)
  refine .region ?_
  refine .o (.alloc hs oO rfl fun b3 w hs=>?_)
  refine .o (.aU (vs:=[_,_,_]) hs rfl rfl uK fun w hs=>?_)
  refine .nil ?_
  refine nT ?_
  refine ⟨H2,[.blk b3 [I (i:Int),I (k:Int),I ((p+1:Nat):Int)],.blk bm [I s.sp.id,I s.sp.src,.slice ast s.sp.st.length cst,.slice awa s.sp.wa.length cwa,I s.sp.al,I s.sp.up,vr,vc,vt,.slice al ll cl],en,.blk b1 [.pointer (some ⟨bm,0,none⟩)],.blk b2 [I s.sp.id,I s.sp.src,.slice ast s.sp.st.length cst,.slice awa s.sp.wa.length cwa,I s.sp.al,I s.sp.up]],HLe.refl _,hs,?_⟩;rintro w σf4 - hs
  refine .block (.ai (.z (zfa dK) (.y hs (zld ae) (.z cq (.z (zfa bA) (.y hs (zld ak) (.z (c9 aa) (.z gx (.nil ?_)))))))))
  refine (.bM rfl (fun hc19=>?_) (fun hc19=>?_))
  ·refine .seq (.draw mix rfl hs fun w hs=>?_)
   refine .z 0 rfl (zfa ed) ?_;refine .z 1 rfl (zfa jr) ?_;refine .y 2 rfl hs ae ?_;refine .z 3 rfl (zfa bA) ?_;refine .y 4 rfl hs ak ?_;refine .z 5 rfl (zfa dK) ?_;refine .y 6 rfl hs ae ?_;refine .z 7 rfl cq ?_
   have hris:=hok.st.rise i aj
   have hq0:=hok.st.bd (i:=i) aj
   have hq1:=hok.st.bd (i:=i+1) aj
   have hal:=hok.al
   refine .ixX (enc:=fun x=>[I x]) (i:=8) hs rfl an .none hk2.st rfl rfl aa af (bL (l:=s.sp.st) (i:=(i+1)) aj) dy ?_;intro b28 o28 hc28;replace hc28:=bB.one hc28
   refine .r (i:=9) hs rfl an .none (aK rfl ae hc28) ?_
   refine .z 10 rfl (zfa bA) ?_;refine .y 11 rfl hs ak ?_;refine .z 12 rfl (zfa dK) ?_;refine .y 13 rfl hs ae ?_
   refine .ixX (enc:=fun x=>[I x]) (i:=14) hs rfl an .none hk2.st rfl rfl aa af (bL (l:=s.sp.st) (i:=i) aj) dy ?_;intro b34 o34 hc34;replace hc34:=bB.one hc34
   refine .r (i:=15) hs rfl an .none (aK rfl ae hc34) ?_
   refine .z 16 rfl gW ?_
   refine .E 17 hs ?_
   refine .call Tryz.call230 rfl (l5 hs aj aj) ?_;rintro _ w ⟨rfl,hs⟩
   refine .go ?_
   refine .z 18 rfl zg ?_;refine .D hs ?_
   refine .region (.y hs (zld qY) (.z (zfa eL) (.y hs (zld ae) (.z (zfa eL) (.y hs (zld ae) (.z (zfa bj) (.y hs (zld ak) (.z (c9 aa) (.z cq ?_)))))))))
   refine .z zm (.z zm (.z (zfa dB) (.y hs (zld ae) ?_)))
   refine .o (.call um rfl (fT (ls:=ls++qo (alL s.sp) s.sp.wa.length p) (hs.sb:St H2 w (.blk bm _::en:: .blk b1 _:: .blk b2 _::σf4)) hO (by rw [List.length_append];omega)) ?_);rintro _ w ⟨vl3,en3,hO3,hs⟩
   have hu2:(s.sp.u (i+1) k:Int)=((p+1:Nat):Int)+(s.sp.wa.length:Int):=by unfold Spc.u at hu ⊢;rw [Nat.add_mul];omega
   rw [show two ((p+1:Nat):Int) (((p+1:Nat):Int)+(s.sp.wa.length:Int)) (kd s.sp.al (gi s.sp.st (i+1) - gi s.sp.st i)) (kd s.sp.al (gi s.sp.st (i+1) - gi s.sp.st i)) s.sp.src=alL s.sp i k by unfold alL;rw [if_pos aj,hu,hu2];rfl,List.append_assoc,←hsucc] at hO3
   refine .nil ?_
   refine nB ?_
   exact ⟨H2,_,HLe.refl _,hs,_,_,rfl,hO3⟩
  ·refine .skip ?_
   refine nB ?_
   rw [show alL s.sp i k=[] by unfold alL;rw [if_neg aj],List.append_nil] at hsucc
   exact ⟨H2,_,HLe.refl _,(hs.sb:St H2 w (.blk bm _::en:: .blk b1 _:: .blk b2 _::σf4)),_,_,rfl,by rw [hsucc];exact hO⟩
 ·rintro D H2 σb2 w hle2 ⟨vl,en,rfl,hO⟩ hs
  rw [fj,show s.sp.many=s.sp.st.length*s.sp.wa.length from rfl,qn _ hsm.2.2.1] at hO
  refine nB ?_
  exact Fin.FQ [D] [] hs fun w hs=>⟨_,results0 Tryz.results175,H2,vl,en,hle1.trans hle2,hO,(hs.sb:St H2 w (.blk bm _::en::σ))⟩
theorem we{s:Srv}{ts:List TD}{vst vwa vr vc vt vl:Value}{en:Ent}{bm:Nat}{ls:List Lim}(hs:St H w (.blk bm [I s.sp.id,I s.sp.src,vst,vwa,I s.sp.al,I s.sp.up,vr,vc,vt,vl]::en::σ))(hk:MkK H s ts vst vwa vr vc vt)(hO:cn 4 vl (gI ls) en)(hl:ls.length≤10000)(hok:fX s.sp):
  Cl Tryz.prog 176 [.pointer (some ⟨bm,0,none⟩)] w fun _ w'=>∃H1 vl' en',HLe H H1∧cn 4 vl' (gI (ls++eO (upL s.sp) s.sp.wa.length s.sp.st.length)) en'∧St H1 w' (.blk bm [I s.sp.id,I s.sp.src,vst,vwa,I s.sp.al,I s.sp.up,vr,vc,vt,vl']::en'::σ):=by
 have hsm:=fk hok
 obtain ⟨ast,cst,rfl⟩:=RI.shape hk.st
 obtain ⟨awa,cwa,rfl⟩:=RI.shape hk.wa
 refine Cl.o Tryz.func176 Tryz.ntmps176 ag1 ?_
 refine .ai ?_
 refine .bx hs fun b1 w hs=>?_
 refine .nil (.ai (.y hs (zld qY) (.z znc (.z (zfa dH) (.z (zfa aS) (.y hs (zls [_,_,_,_,_,_] aQ aI) ?_))))))
 refine .o (.alloc hs jx rfl fun b2 w hs=>?_)
 refine .o (.aU (vs:=[_,_,_,_,_,_]) hs rfl rfl aI fun w hs=>?_)
 refine .nil (.ai (.y hs (zls [_,_,_,_,_,_] aQ aI) ?_))
 refine .o (.call GB rfl (gK (s:=s.sp) hs hk.st hk.wa ⟨aj,aj⟩) ?_);rintro _ w ⟨H1,ba,hle1,rfl,hit,hs⟩
 refine .nil (.block ?_)
 refine .rangeFunc (gf:=190) (cap:=[.pointer (some ⟨ba,0,none⟩)]) (xs:=wQ s.sp) (σb:=[.blk bm [I s.sp.id,I s.sp.src,.slice ast s.sp.st.length cst,.slice awa s.sp.wa.length cwa,I s.sp.al,I s.sp.up,vr,vc,vt,vl],en,.blk b1 [.pointer (some ⟨bm,0,none⟩)],.blk b2 [I s.sp.id,I s.sp.src,.slice ast s.sp.st.length cst,.slice awa s.sp.wa.length cwa,I s.sp.al,I s.sp.up]]) (σf:=σ) (hs.sb) trivial rfl hit Gz (fun x hx=>by
   simp only [wQ,List.mem_map] at hx
   obtain ⟨j,_,rfl⟩:=hx;rfl) rfl
  (I:=fun p H' σb=>∃vl en,σb=[.blk bm [I s.sp.id,I s.sp.src,.slice ast s.sp.st.length cst,.slice awa s.sp.wa.length cwa,I s.sp.al,I s.sp.up,vr,vc,vt,vl],en,.blk b1 [.pointer (some ⟨bm,0,none⟩)],.blk b2 [I s.sp.id,I s.sp.src,.slice ast s.sp.st.length cst,.slice awa s.sp.wa.length cwa,I s.sp.al,I s.sp.up]]∧cn 4 vl (gI (ls++qo (upL s.sp) s.sp.wa.length p)) en) (Ix:=fun _ _ _=>False)
  (fun j _ _ σ g1 g2=>g2) (fun _ _ _ _ _ h=>h) ⟨vl,en,rfl,by rw [oo,List.append_nil];exact hO⟩ ?_ ?_ (fun D c H' σb w _ h _=>h.elim)
 ·rintro ly p hp H2 σb2 σf2 w hle2 ⟨vl,en,rfl,hO⟩ hs ⟨rr,hrr⟩
  have hpm:p<s.sp.many:=by rw [fj] at hp;exact hp
  have hsucc:=oq (upL s.sp) (p:=p) hsm.2.2.1
  have hpl:=jU (q8 s.sp) hsm.2.2.1 p
  have hin:p/s.sp.wa.length<s.sp.st.length:=Nat.div_lt_of_lt_mul (by rw [Nat.mul_comm];exact hpm)
  have hkm:=Nat.mod_lt p hsm.2.2.1
  have hdm:=Nat.div_add_mod p s.sp.wa.length
  rw [Nat.mul_comm] at hdm
  have hu:(s.sp.u (p/s.sp.wa.length) (p%s.sp.wa.length):Int)=(p:Int)+1:=by unfold Spc.u;omega
  rw [oz hp]
  obtain ⟨al,ll,cl,rfl,hll⟩:=hO.shape
  generalize p/s.sp.wa.length=i at*
  generalize p%s.sp.wa.length=k at*
  have hk2:=hk.mono (hle1.trans hle2)
  refine .region ?_
  refine .o (.alloc hs oO rfl fun b3 w hs=>?_)
  refine .o (.aU (vs:=[_,_,_]) hs rfl rfl uK fun w hs=>?_)
  refine .nil ?_
  refine nT ?_
  refine ⟨H2,[.blk b3 [I (i:Int),I (k:Int),I ((p+1:Nat):Int)],.blk bm [I s.sp.id,I s.sp.src,.slice ast s.sp.st.length cst,.slice awa s.sp.wa.length cwa,I s.sp.al,I s.sp.up,vr,vc,vt,.slice al ll cl],en,.blk b1 [.pointer (some ⟨bm,0,none⟩)],.blk b2 [I s.sp.id,I s.sp.src,.slice ast s.sp.st.length cst,.slice awa s.sp.wa.length cwa,I s.sp.al,I s.sp.up]],HLe.refl _,hs,?_⟩;rintro w σf4 - hs
  refine .block (.ai (.z (zfa dx) (.y hs (zld ae) (.z cq (.z (zfa bj) (.y hs (zld ak) (.z (c9 aa) (.z gx (.nil ?_)))))))))
  refine (.bM rfl (fun hc19=>?_) (fun hc19=>?_))
  ·refine .seq (.draw mix rfl hs fun w hs=>?_)
   refine .z 0 rfl (zfa ed) ?_;refine .z 1 rfl (zfa jq) ?_;refine .y 2 rfl hs ae ?_;refine .z 3 rfl (zfa bj) ?_;refine .y 4 rfl hs ak ?_;refine .z 5 rfl (zfa dx) ?_;refine .y 6 rfl hs ae ?_;refine .z 7 rfl cq ?_
   have hris:=hok.wa.rise k aj
   have hq0:=hok.wa.bd (i:=k) aj
   have hq1:=hok.wa.bd (i:=k+1) aj
   have hal:=hok.up
   refine .ixX (enc:=fun x=>[I x]) (i:=8) hs rfl an .none hk2.wa rfl rfl aa af (bL (l:=s.sp.wa) (i:=(k+1)) aj) dy ?_;intro b28 o28 hc28;replace hc28:=bB.one hc28
   refine .r (i:=9) hs rfl an .none (aK rfl ae hc28) ?_
   refine .z 10 rfl (zfa bj) ?_;refine .y 11 rfl hs ak ?_;refine .z 12 rfl (zfa dx) ?_;refine .y 13 rfl hs ae ?_
   refine .ixX (enc:=fun x=>[I x]) (i:=14) hs rfl an .none hk2.wa rfl rfl aa af (bL (l:=s.sp.wa) (i:=k) aj) dy ?_;intro b34 o34 hc34;replace hc34:=bB.one hc34
   refine .r (i:=15) hs rfl an .none (aK rfl ae hc34) ?_
   refine .z 16 rfl gW ?_
   refine .E 17 hs ?_
   refine .call Tryz.call230 rfl (l5 hs aj aj) ?_;rintro _ w ⟨rfl,hs⟩
   refine .go ?_
   refine .z 18 rfl zg ?_;refine .D hs ?_
   refine .region (.y hs (zld qY) (.z (zfa eL) (.y hs (zld ae) (.z (zfa eL) (.y hs (zld ae) (.z cq (.z zm (.z zm (.z (zfa dB) ?_)))))))))
   refine .y hs (zld ae) ?_
   refine .o (.call um rfl (fT (ls:=ls++qo (upL s.sp) s.sp.wa.length p) (hs.sb:St H2 w (.blk bm _::en:: .blk b1 _:: .blk b2 _::σf4)) hO (by rw [List.length_append];omega)) ?_);rintro _ w ⟨vl3,en3,hO3,hs⟩
   have hu2:(s.sp.u i (k+1):Int)=((p+1:Nat):Int)+1:=by unfold Spc.u at hu ⊢;omega
   rw [show two ((p+1:Nat):Int) (((p+1:Nat):Int)+1) (kd s.sp.up (gi s.sp.wa (k+1) - gi s.sp.wa k)) (kd s.sp.up (gi s.sp.wa (k+1) - gi s.sp.wa k)) s.sp.src=upL s.sp i k by unfold upL;rw [if_pos aj,hu,hu2];rfl,List.append_assoc,←hsucc] at hO3
   refine .nil ?_
   refine nB ?_
   exact ⟨H2,_,HLe.refl _,hs,_,_,rfl,hO3⟩
  ·refine .skip ?_
   refine nB ?_
   rw [show upL s.sp i k=[] by unfold upL;rw [if_neg aj],List.append_nil] at hsucc
   exact ⟨H2,_,HLe.refl _,(hs.sb:St H2 w (.blk bm _::en:: .blk b1 _:: .blk b2 _::σf4)),_,_,rfl,by rw [hsucc];exact hO⟩
 ·rintro D H2 σb2 w hle2 ⟨vl,en,rfl,hO⟩ hs
  rw [fj,show s.sp.many=s.sp.st.length*s.sp.wa.length from rfl,qn _ hsm.2.2.1] at hO
  refine nB ?_
  exact Fin.FQ [D] [] hs fun w hs=>⟨_,results0 Tryz.results176,H2,vl,en,hle1.trans hle2,hO,(hs.sb:St H2 w (.blk bm _::en::σ))⟩
theorem rC{s:Srv}{ts:List TD}{vst vwa vr vc vt vl:Value}{en:Ent}{bm:Nat}{ls:List Lim}(hs:St H w (.blk bm [I s.sp.id,I s.sp.src,vst,vwa,I s.sp.al,I s.sp.up,vr,vc,vt,vl]::en::σ))(hk:MkK H s ts vst vwa vr vc vt)(hO:cn 4 vl (gI ls) en)(hl:ls.length≤10000)(hok:fX s.sp)(htl:ts.length≤100):
  Cl Tryz.prog 177 [.pointer (some ⟨bm,0,none⟩)] w fun _ w'=>∃H1 vl' en',HLe H H1∧cn 4 vl' (gI (ls++wz s.sp ts.length)) en'∧St H1 w' (.blk bm [I s.sp.id,I s.sp.src,vst,vwa,I s.sp.al,I s.sp.up,vr,vc,vt,vl']::en'::σ):=by
 have hsm:=fk hok
 obtain ⟨at_,ct,rfl⟩:=RTd.shape hk.ts
 refine Cl.o Tryz.func177 Tryz.ntmps177 ag1 ?_
 refine .ai (.z zm (.z znc (.z (zfa fM) (.y hs (zld Gy) (.z (c9 bg) (.z zm (.nil ?_)))))))
 refine .for (N:=ts.length) (J:=fun j fr w=>fr=[(0,.pointer (some ⟨bm,0,none⟩))]∧∃vl en,cn 4 vl (gI (ls++wz s.sp j)) en∧St H w (.blk bm [I s.sp.id,I s.sp.src,vst,vwa,I s.sp.al,I s.sp.up,vr,vc,.slice at_ ts.length ct,vl]::en::σ)) aj ?_ ?_ ?_
 ·exact .mk ⟨rfl,vl,en,by show cn 4 vl (gI (ls++[])) en;rw [List.append_nil];exact hO,hs⟩
 ·rintro j fr w hj ⟨rfl,vl,en,hO,hs⟩
  have hel:=jH s.sp j
  obtain ⟨al,ll,cl,rfl,hll⟩:=hO.shape
  refine .block (.ai (.z zm (.z zg (.nil ?_))))
  refine .draw mix rfl hs fun w hs=>?_
  refine .z 0 rfl zm ?_;refine .z 1 rfl zm ?_;refine .z 2 rfl zm ?_;refine .z 4 rfl zm ?_;refine .z 5 rfl znc ?_;refine .z 6 rfl (zfa dH) ?_;refine .z 7 rfl (zfa aS) ?_;refine .z 8 rfl (zfa dB) ?_;refine .y 9 rfl hs ae ?_
  refine .E 3 hs ?_
  refine .call Tryz.call116 rfl (jh (s:=s.sp) hs .here hk.st hk.wa ⟨aj,aj⟩ ⟨aj,aj⟩) ?_;rintro _ w ⟨rfl,hs⟩
  refine .go ?_
  refine .E 10 hs ?_
  refine .call um rfl (fT (ls:=ls++wz s.sp j) hs hO (by rw [List.length_append];omega)) ?_;rintro _ w ⟨vl3,en3,hO3,hs⟩
  rw [show (s.sp.many:Int)+1+(j:Int)=((s.sp.many+1+j:Nat):Int) by omega,List.append_assoc] at hO3
  refine .go ?_
  refine .D hs ?_
  refine nB (nT ?_)
  exact .mk ⟨rfl,vl3,en3,hO3,hs⟩
 ·rintro fr w ⟨rfl,vl,en,hO,hs⟩
  exact Fin.xV Tryz.results177 ⟨H,vl,en,HLe.refl _,hO,hs⟩
set_option maxHeartbeats 1000000 in
theorem kK{s:Srv}{ts:List TD}{vst vwa vr vc vt vl:Value}{en:Ent}{bm:Nat}{ls:List Lim}(hs:St H w (.blk bm [I s.sp.id,I s.sp.src,vst,vwa,I s.sp.al,I s.sp.up,vr,vc,vt,vl]::en::σ))(hk:MkK H s ts vst vwa vr vc vt)(hO:cn 4 vl (gI ls) en)(hl:ls.length≤10000)(hok:fX s.sp)(htl:ts.length≤100)(hcl:s.cs.length≤20)(hc:∀c∈s.cs,pP c){j0:Nat}(hj0:j0≤ts.length):
  Cl Tryz.prog 117 [.pointer (some ⟨bm,0,none⟩),I (j0:Int)] w fun _ w'=>∃H1 vl' en',HLe H H1∧cn 4 vl' (gI (ls++rK s.sp ts s.cs j0 s.cs.length)) en'∧St H1 w' (.blk bm [I s.sp.id,I s.sp.src,vst,vwa,I s.sp.al,I s.sp.up,vr,vc,vt,vl']::en'::σ):=by
 have hsm:=fk hok
 obtain ⟨at_,ct,rfl⟩:=RTd.shape hk.ts
 obtain ⟨ac,cc,rfl⟩:=RCm.shape hk.cs
 refine Cl.o Tryz.func117 Tryz.ntmps117 ag2 ?_
 refine .ai (.z zm (.z znc (.z (zfa dH) (.z (zfa bU) (.y hs (zld dW) (.z (c9 aW) (.z zm (.nil ?_))))))))
 refine .for (N:=s.cs.length) (J:=fun i fr w=>fr=[(12,.slice ac s.cs.length cc),(0,.pointer (some ⟨bm,0,none⟩)),(1,I (j0:Int))]∧∃vl en,cn 4 vl (gI (ls++rK s.sp ts s.cs j0 i)) en∧St H w (.blk bm [I s.sp.id,I s.sp.src,vst,vwa,I s.sp.al,I s.sp.up,vr,.slice ac s.cs.length cc,.slice at_ ts.length ct,vl]::en::σ)) aj ?_ ?_ ?_
 ·exact .mk ⟨rfl,vl,en,by show cn 4 vl (gI (ls++[])) en;rw [List.append_nil];exact hO,hs⟩
 ·rintro i fr w hi ⟨rfl,vl,en,hO,hs⟩
  obtain ⟨c,hx⟩:=nth hi
  obtain ⟨g1,g2,g3,g4,g5,g6⟩:=hc c (List.mem_of_getElem? hx)
  have hcl1:=iQ s.sp ts s.cs j0 i
  have hcl2:i*(2*(ts.length - j0))≤20*(2*100):=Nat.mul_le_mul aj aj
  refine .block (.ai ?_)
  refine .ixX (enc:=Cmp.c) hs hk.cs rfl rfl aW bY hx dy ?_;intro b16 o16 hc16
  refine .q hs (cI (vs:=(Cmp.c c)) rfl EP bY hc16) ?_
  refine .o (.alloc hs wV rfl fun b5 w hs=>?_)
  refine .o (.aU (vs:=c.c) hs rfl rfl bY fun w hs=>?_)
  replace hs:St H w (.blk bm [I s.sp.id,I s.sp.src,vst,vwa,I s.sp.al,I s.sp.up,vr,.slice ac s.cs.length cc,.slice at_ ts.length ct,vl]::en:: .blk b5 [I c.src,I c.tape,I c.fr,I c.to,I c.lo,I c.hi]::σ):=hs.sb
  refine .nil (.ai (.z zm (.z zg (.nil (.block ?_)))))
  refine .loop (fun j:Nat=>⟨62,[],[(6,I ((j0+j:Nat):Int)),(5,.pointer (some ⟨b5,0,none⟩)),(14,I (i:Int)),(13,I (s.cs.length:Int)),(12,.slice ac s.cs.length cc),(0,.pointer (some ⟨bm,0,none⟩)),(1,I (j0:Int))]⟩)
   (fun j w=>j0+j≤ts.length∧∃vl en,cn 4 vl (gI (ls++rK s.sp ts s.cs j0 i++kL s.sp ts c j0 j)) en∧St H w (.blk bm [I s.sp.id,I s.sp.src,vst,vwa,I s.sp.al,I s.sp.up,vr,.slice ac s.cs.length cc,.slice at_ ts.length ct,vl]::en:: .blk b5 [I c.src,I c.tape,I c.fr,I c.to,I c.lo,I c.hi]::σ)) (fun j=>ts.length - (j0+j)) 0 aR
   ⟨aj,vl,en,by show cn 4 vl (gI (_++[])) en;rw [List.append_nil];exact hO,hs⟩ ?_
  clear hO hs
  rintro j w ⟨hj,vl,en,hO,hs⟩
  have hl1:=lk s.sp ts c j0 j
  obtain ⟨al,ll,cl,rfl,hll⟩:=hO.shape
  refine .seq (.ai (.z zm (.z zm (.z znc (.z (zfa fM) (.y hs (zld Gy) (.z (c9 bg) (.z gx (.nil ?_)))))))))
  refine (.bM rfl (fun hc25=>?_) (fun hc25=>?_))
  ·refine .skip ?_
   refine nT ?_
   refine .seq (.block (.ai (.z zm (.z znc (.z (zfa fM) (.y hs (zld Gy) (.z zm ?_)))))))
   obtain ⟨t,ht⟩:=nth (l:=ts) (k:=j0+j) aj
   have ht0:=Dv ht
   refine .ixX (enc:=TD.c) hs hk.ts rfl rfl bg bE ht dy ?_;intro b33 o33 hc33
   refine .q hs (cI (vs:=(TD.c t)) rfl dO bE hc33) ?_
   refine .o (.alloc hs lI rfl fun b7 w hs=>?_)
   refine .o (.aU (vs:=t.c) hs rfl rfl bE fun w hs=>?_)
   change St _ _ (.blk b7 [I t.tape,I t.day]::_) at hs
   refine .nil (.ai (.z (zfa mR) (.y hs (zld ae) (.z (zfa iL) (.y hs (zld ae) (.z gC (.z zm ?_)))))))
   refine .iB (t':=40) rfl (fun hb40=>?_) (fun hb40=>?_)
   ·refine .gT rfl rfl ?_
    refine .z (zfa ke) ?_
    refine .gT rfl rfl ?_
    refine .y hs (zld ae) ?_
    refine .gT rfl rfl ?_
    refine .z (zfa fG) ?_
    refine .gT rfl rfl ?_
    refine .y hs (zld ae) ?_
    refine .gT rfl rfl ?_
    refine .z (zfa fi) ?_
    refine .gT rfl rfl ?_
    refine .y hs (zld ae) ?_
    refine .gT rfl rfl ?_
    refine .o (.call dP rfl (bw hs) ?_);rintro _ w ⟨rfl,hs⟩
    refine .z zpT (.nil ?_)
    refine (.cond rfl (fun hc48=>?_) (fun hc48=>?_))
    ·refine .draw mix rfl hs fun w hs=>?_
     refine .z 0 rfl zm ?_;refine .z 1 rfl zm ?_;refine .z 2 rfl zm ?_;refine .z 4 rfl (zfa fh) ?_;refine .y 5 rfl hs ae ?_;refine .z 6 rfl uN ?_;refine .z 7 rfl (zfa fg) ?_;refine .y 8 rfl hs ae ?_;refine .z 9 rfl (zfa gL) ?_;refine .y 10 rfl hs ae ?_
     refine .E 3 hs ?_
     refine .call Tryz.call116 rfl (jh (s:=s.sp) hs (.there .here) hk.st hk.wa ⟨aj,aj⟩ ⟨aj,aj⟩) ?_;rintro _ w ⟨rfl,hs⟩
     refine .go ?_
     refine .E 11 hs ?_
     refine .call um rfl (fT (ls:=ls++rK s.sp ts s.cs j0 i++kL s.sp ts c j0 j) (hs.tail:St H w (.blk bm _::en:: .blk b5 _::σ)) hO (by rw [List.length_append,List.length_append];omega)) ?_;rintro _ w ⟨vl3,en3,hO3,hs⟩
     refine .go ?_
     refine .D hs ?_
     refine nB (nT ?_)
     refine .region (.z zm (.z cq (.z zg (.nil ?_))))
     refine nT ?_
     have e:kL s.sp ts c j0 (j+1)=kL s.sp ts c j0 j++two 0 ((s.sp.many:Int)+1+((j0+j:Nat):Int)) (-c.lo) c.hi c.src:=by
      show _++lB c (td0 ts (j0+j)) _=_
      rw [ht0];unfold lB;rw [if_pos (by simp at hc48;omega)]
      rw [show ((s.sp.many+1+(j0+j):Nat):Int)=(s.sp.many:Int)+1+((j0+j:Nat):Int) by omega]
     rw [List.append_assoc _ (kL _ _ _ _ _),←e] at hO3
     exact ⟨j+1,.cj rfl (by simp;omega) aR,⟨aj,vl3,en3,hO3,hs⟩,aj⟩
    ·refine .skip ?_
     refine nB (nT ?_)
     refine .region (.z zm (.z cq (.z zg (.nil ?_))))
     refine nT ?_
     have e:kL s.sp ts c j0 (j+1)=kL s.sp ts c j0 j:=by
      show _++lB c (td0 ts (j0+j)) _=_
      rw [ht0];unfold lB;rw [if_neg (by simp at hc48;omega),List.append_nil]
     exact ⟨j+1,.cj rfl (by simp;omega) aR,⟨aj,_,en,by rw [e];exact hO,hs.tail⟩,aj⟩
   ·refine .gFs 7 5 true rfl rfl rfl ?_
    refine .z zpF (.nil ?_)
    refine (.cF ?_)
    refine .skip ?_
    refine nB (nT ?_)
    refine .region (.z zm (.z cq (.z zg (.nil ?_))))
    refine nT ?_
    have e:kL s.sp ts c j0 (j+1)=kL s.sp ts c j0 j:=by
     show _++lB c (td0 ts (j0+j)) _=_
     rw [ht0];unfold lB;rw [if_neg aj,List.append_nil]
    exact ⟨j+1,.cj rfl (by simp;omega) aR,⟨aj,_,en,by rw [e];exact hO,hs.tail⟩,aj⟩
  ·refine .exit ?_
   refine xT (xT (xB (nB (nT ?_))))
   obtain rfl:j=ts.length - j0:=by omega
   rw [List.append_assoc,show rK s.sp ts s.cs j0 i++kL s.sp ts c j0 (ts.length - j0)=rK s.sp ts s.cs j0 (i+1) by rw [←BF hx];rfl] at hO
   exact .mk ⟨rfl,_,en,hO,hs.sb⟩
 ·rintro fr w ⟨rfl,vl,en,hO,hs⟩
  exact Fin.xV Tryz.results117 ⟨H,vl,en,HLe.refl _,hO,hs⟩
theorem na{s:Srv}{ts:List TD}{vst vwa vr vc vt vl:Value}{en:Ent}{bm:Nat}{ls:List Lim}(hs:St H w (.blk bm [I s.sp.id,I s.sp.src,vst,vwa,I s.sp.al,I s.sp.up,vr,vc,vt,vl]::en::σ))(hk:MkK H s ts vst vwa vr vc vt)(hO:cn 4 vl (gI ls) en)(hl:ls.length≤10000)(hok:fX s.sp)(htl:ts.length≤100)(hcl:s.cs.length≤20)(hc:∀c∈s.cs,pP c):
  Cl Tryz.prog 178 [.pointer (some ⟨bm,0,none⟩)] w fun _ w'=>∃H1 vl' en',HLe H H1∧cn 4 vl' (gI (ls++rK s.sp ts s.cs 0 s.cs.length)) en'∧St H1 w' (.blk bm [I s.sp.id,I s.sp.src,vst,vwa,I s.sp.al,I s.sp.up,vr,vc,vt,vl']::en'::σ):=by
 refine Cl.o Tryz.func178 Tryz.ntmps178 ag1 ?_
 refine .region (.z zm ?_)
 refine .o (.call Tryz.call117 rfl (kK (s:=s) (ts:=ts) (j0:=0) hs hk hO hl hok htl hcl hc aj) ?_);rintro _ w hs
 refine .nil ?_
 exact Fin.xV Tryz.results178 hs
set_option maxHeartbeats 1000000 in
theorem pA{s:Srv}{ts:List TD}{vst vwa vr vc vt vl:Value}{en:Ent}{bm:Nat}{ls:List Lim}(hs:St H w (.blk bm [I s.sp.id,I s.sp.src,vst,vwa,I s.sp.al,I s.sp.up,vr,vc,vt,vl]::en::σ))(hk:MkK H s ts vst vwa vr vc vt)(hO:cn 4 vl (gI ls) en)(hl:ls.length≤10000)(hok:fX s.sp)(htl:ts.length≤100)(hrl:s.rs.length≤60)(hr:∀r∈s.rs,jJ s.sp r)(hmem:∀r∈s.rs,r.td∈ts):
  Cl Tryz.prog 179 [.pointer (some ⟨bm,0,none⟩)] w fun _ w'=>∃H1 vl' en',HLe H H1∧cn 4 vl' (gI (ls++uq s.sp ts s.rs s.rs.length)) en'∧St H1 w' (.blk bm [I s.sp.id,I s.sp.src,vst,vwa,I s.sp.al,I s.sp.up,vr,vc,vt,vl']::en'::σ):=by
 have hsm:=fk hok
 obtain ⟨at_,ct,rfl⟩:=RTd.shape hk.ts
 obtain ⟨ar,cr,rfl⟩:=RRd.shape hk.rs
 refine Cl.o Tryz.func179 Tryz.ntmps179 ag1 ?_
 refine .ai (.z zm (.z znc (.z (zfa dH) (.z (zfa aN) (.y hs (zld bu) (.z (c9 az) (.z zm (.nil ?_))))))))
 refine .for (N:=s.rs.length) (J:=fun i fr w=>fr=[(9,.slice ar s.rs.length cr),(0,.pointer (some ⟨bm,0,none⟩))]∧∃vl en,cn 4 vl (gI (ls++uq s.sp ts s.rs i)) en∧St H w (.blk bm [I s.sp.id,I s.sp.src,vst,vwa,I s.sp.al,I s.sp.up,.slice ar s.rs.length cr,vc,.slice at_ ts.length ct,vl]::en::σ)) aj ?_ ?_ ?_
 ·exact .mk ⟨rfl,vl,en,by show cn 4 vl (gI (ls++[])) en;rw [List.append_nil];exact hO,hs⟩
 ·rintro i fr w hi ⟨rfl,vl,en,hO,hs⟩
  obtain ⟨r,hx⟩:=nth hi
  obtain ⟨g1,g2,g3,g4,g5,g6,g7⟩:=hr r (List.mem_of_getElem? hx)
  obtain ⟨k,k1,k2,k3⟩:=gg (hmem r (List.mem_of_getElem? hx))
  have hrl1:=jG s.sp ts s.rs i
  obtain ⟨al,ll,cl,rfl,hll⟩:=hO.shape
  refine .block (.ai ?_)
  refine .ixX (enc:=Rdg.c) hs hk.rs rfl rfl az aH hx dy ?_;intro b13 o13 hc13
  refine .q hs (cI (vs:=(Rdg.c r)) rfl dN aH hc13) ?_
  refine .o (.alloc hs eH rfl fun b3 w hs=>?_)
  refine .o (.aU (vs:=r.c) hs rfl rfl aH fun w hs=>?_)
  change St _ _ (.blk b3 [I r.src,I r.st,I r.wa,I r.val,I r.tol,I r.tape,I r.day]::_) at hs
  refine .nil ?_
  refine .seq (.draw mix rfl hs fun w hs=>?_)
  refine .z 0 rfl zm ?_;refine .z 1 rfl znc ?_;refine .z 2 rfl (zfa fM) ?_;refine .y 3 rfl hs Gy ?_;refine .ys 4 rfl hs [_,_,_,_,_,_,_] dN aH ?_
  refine .E 5 hs ?_
  refine .call GA rfl (fy hs) ?_;rintro _ w ⟨rfl,hs⟩
  refine .go ?_
  refine .E 6 hs ?_
  refine .call Tryz.call89 rfl (nt (t:=r.td) hs hk.ts aj) ?_;rintro _ w ⟨rfl,hs⟩
  refine .go ?_
  refine .z 7 rfl zg ?_;refine .D hs ?_
  refine .draw mix rfl hs fun w hs=>?_
  refine .z 0 rfl zm ?_;refine .z 1 rfl zm ?_;refine .z 2 rfl zm ?_;refine .z 4 rfl zm ?_;refine .z 5 rfl znc ?_;refine .z 6 rfl (zfa dH) ?_;refine .z 7 rfl (zfa aS) ?_;refine .ys 8 rfl hs [_,_,_,_,_,_] aQ aI ?_;refine .z 9 rfl (zfa ff) ?_;refine .y 10 rfl hs ae ?_
  refine .z 11 rfl (zfa fc) ?_;refine .y 12 rfl hs ae ?_;refine .z 14 rfl (zfa db) ?_;refine .y 15 rfl hs ae ?_;refine .z 16 rfl (zfa ck) ?_;refine .y 17 rfl hs ae ?_;refine .z 18 rfl cq ?_;refine .z 19 rfl (zfa ck) ?_;refine .y 20 rfl hs ae ?_;refine .z 21 rfl (zfa db) ?_
  refine .y 22 rfl hs ae ?_;refine .z 23 rfl gW ?_;refine .z 24 rfl (zfa eG) ?_;refine .y 25 rfl hs ae ?_
  refine .E 3 hs ?_
  refine .call Tryz.call116 rfl (jh (s:=s.sp) hs (.there .here) hk.st hk.wa ⟨aj,aj⟩ ⟨aj,aj⟩) ?_;rintro _ w ⟨rfl,hs⟩
  refine .go ?_
  refine .E 13 hs ?_
  refine .call Tryz.call118 rfl (ku (s:=s.sp) hs hk.wa aj ⟨aj,aj⟩ ⟨aj,aj⟩) ?_;rintro _ w ⟨rfl,hs⟩
  refine .go ?_
  refine .E 26 hs ?_
  refine .call um rfl (fT (ls:=ls++uq s.sp ts s.rs i) (hs.sb:St H w (.blk bm _::en:: .blk b3 _::σ)) hO (by rw [List.length_append];omega)) ?_;rintro _ w ⟨vl3,en3,hO3,hs⟩
  refine .go ?_
  refine .D hs ?_
  refine nB (nT ?_)
  rw [List.append_assoc,show uq s.sp ts s.rs i++two ((s.sp.many:Int)+1+ja ts r.td) (1+r.st*s.sp.wa.length+r.wa) (r.val+r.tol) (r.tol - r.val) r.src=uq s.sp ts s.rs (i+1) by rw [←AU hx];rfl] at hO3
  exact .mk ⟨rfl,vl3,en3,hO3,hs.sb⟩
 ·rintro fr w ⟨rfl,vl,en,hO,hs⟩
  exact Fin.xV Tryz.results179 ⟨H,vl,en,HLe.refl _,hO,hs⟩
def fnK:Nat→Nat
 |0=>174
 |1=>175
 |2=>176
 |3=>177
 |4=>178
 |_=>179
theorem C1{k:Nat}(hk:k<6):∀args w,(callFunc (fnK k) args).run Tryz.prog w= .ok (.enter (fnK k) args) w:=by
 have h:k=0∨k=1∨k=2∨k=3∨k=4∨k=5:=by omega
 rcases h with rfl|rfl|rfl|rfl|rfl|rfl
 ·exact Tryz.call174
 ·exact Tryz.call175
 ·exact Tryz.call176
 ·exact Tryz.call177
 ·exact Tryz.call178
 ·exact Tryz.call179
theorem A4{s:Srv}{vst vwa vr vc vt vl:Value}{en:Ent}{bm k:Nat}(hs:St H w (.blk bm [I s.sp.id,I s.sp.src,vst,vwa,I s.sp.al,I s.sp.up,vr,vc,vt,vl]::en::σ))(hk:MkK H s s.bP vst vwa vr vc vt)(hO:cn 4 vl (gI (s.parts k)) en)(he:s.early)(hk6:k<6):
  Cl Tryz.prog (fnK k) [.pointer (some ⟨bm,0,none⟩)] w fun _ w'=>∃H1 vl' en',HLe H H1∧cn 4 vl' (gI (s.parts (k+1))) en'∧St H1 w' (.blk bm [I s.sp.id,I s.sp.src,vst,vwa,I s.sp.al,I s.sp.up,vr,vc,vt,vl']::en'::σ):=by
 have hl:=jR he k aj
 obtain ⟨hok,h1,h2,h3,h4⟩:=he
 have htl:s.bP.length≤100:=by have:=dq s.rs;unfold Srv.bP;omega
 have h:k=0∨k=1∨k=2∨k=3∨k=4∨k=5:=by omega
 rcases h with rfl|rfl|rfl|rfl|rfl|rfl
 ·exact pB hs hk hO (Nat.le_trans hl gq) hok
 ·exact sy hs hk hO (Nat.le_trans hl gq) hok
 ·exact we hs hk hO (Nat.le_trans hl gq) hok
 ·exact rC hs hk hO (Nat.le_trans hl gq) hok htl
 ·exact na hs hk hO (Nat.le_trans hl gq) hok htl h2 h4
 ·exact pA hs hk hO (Nat.le_trans hl gq) hok htl h1 h3 fun r hr=>gG.2 ⟨r,hr,rfl⟩
def fnV(b:Nat)(k:Nat):Value:= .func (.func (fnK k)) #[.pointer (some ⟨b,0,none⟩)] #[]
theorem Ej(b:Nat){k:Nat}(hk:k<6):[fnV b 0,fnV b 1,fnV b 2,fnV b 3,fnV b 4,fnV b 5][k]? =some (fnV b k):=by
 have h:k=0∨k=1∨k=2∨k=3∨k=4∨k=5:=by omega
 rcases h with rfl|rfl|rfl|rfl|rfl|rfl<;>rfl
set_option maxHeartbeats 1000000 in
theorem k9{s:Srv}{vst vwa vr vc:Value}(hs:St H w σ)(h1:RI H vst s.sp.st)(h2:RI H vwa s.sp.wa)(h3:RRd H vr s.rs)(h4:RCm H vc s.cs)(he:s.early):
  Cl Tryz.prog 92 [.agg #[I s.sp.id,I s.sp.src,vst,vwa,I s.sp.al,I s.sp.up,vr,vc]] w fun u w'=>∃H1 vl en,HLe H H1∧u= .agg #[I s.sys.many,vl]∧cn 4 vl (gI s.cO) en∧St H1 w' (en::σ):=by
 have hsm:=fk he.1
 have htl:s.bP.length≤60:=by have:=dq s.rs;have:=he.2.1;unfold Srv.bP;omega
 refine Cl.o Tryz.func92 Tryz.ntmps92 ag1 ?_
 refine .ai ?_
 refine .bx hs fun b1 w hs=>?_
 refine .o (.alloc hs dj rfl fun b2 w hs=>?_)
 refine .nil ?_
 refine .seq (.draw mix rfl hs fun w hs=>?_)
 refine .ys 0 rfl hs [_,_,_,_,_,_,_,_] aO aF ?_;refine .ys 1 rfl hs [_,_,_,_,_,_,_,_] aO aF ?_
 refine .E 2 hs ?_
 refine .call Tryz.call90 rfl (jf hs h3 (by have:=he.2.1;omega)) ?_;rintro v8 w ⟨H1,hle1,hT,hs⟩
 obtain ⟨at_,ct,rfl⟩:=RTd.shape hT
 have hk0:MkK H1 s s.bP vst vwa vr vc (.slice at_ s.bP.length ct):=⟨h1.mono hle1,h2.mono hle1,h3.mono hle1,h4.mono hle1,hT⟩
 refine .go ?_
 refine .z 3 rfl (zbd (vs:=[(0,.agg #[I s.sp.id,I s.sp.src,vst,vwa,I s.sp.al,I s.sp.up,vr,vc]),(1,.slice at_ s.bP.length ct)]) [I s.sp.id,I s.sp.src,vst,vwa,I s.sp.al,I s.sp.up,vr,vc,.slice at_ s.bP.length ct,.slice none 0 0] mf rfl an) ?_
 refine .E 4 hs ?_
 refine .box hs rfl rfl ?_;intro b10 w hs
 refine .go ?_
 refine .z 5 rfl zg ?_;refine .D hs ?_
 refine .seq (.ai (.z zm ?_))
 refine .q hs (dR (f:=[_]) (c:=[]) rfl rfl) ?_
 refine .z zm ?_
 refine .q hs (dR (f:=[_]) (c:=[]) rfl rfl) ?_
 refine .z zm ?_
 refine .q hs (dR (f:=[_]) (c:=[]) rfl rfl) ?_
 refine .z zm ?_
 refine .q hs (dR (f:=[_]) (c:=[]) rfl rfl) ?_
 refine .z zm ?_
 refine .q hs (dR (f:=[_]) (c:=[]) rfl rfl) ?_
 refine .z zm ?_
 refine .q hs (dR (f:=[_]) (c:=[]) rfl rfl) ?_
 refine .o (.buildSlice (cells:=[fnV b10 0,fnV b10 1,fnV b10 2,fnV b10 3,fnV b10 4,fnV b10 5]) hs wG rfl an fun b23 w hs=>?_)
 refine .z (c9 Tryz.runUnderlying223) ?_
 refine .z zm (.nil ?_)
 refine .for (N:=6) (J:=fun k fr w=>fr=[(23,.slice (some ⟨b23,0,none⟩) 6 6),(3,.pointer (some ⟨b10,0,none⟩)),(2,.pointer (some ⟨b2,0,none⟩)),(1,.pointer (some ⟨b1,0,none⟩))]∧∃H2 vl en,HLe H1 H2∧cn 4 vl (gI (s.parts k)) en∧St H2 w (.blk b10 [I s.sp.id,I s.sp.src,vst,vwa,I s.sp.al,I s.sp.up,vr,vc,.slice at_ s.bP.length ct,vl]::en:: .blk b23 [fnV b10 0,fnV b10 1,fnV b10 2,fnV b10 3,fnV b10 4,fnV b10 5]:: .blk b2 [I 0,.slice none 0 0]:: .blk b1 [I s.sp.id,I s.sp.src,vst,vwa,I s.sp.al,I s.sp.up,vr,vc]::σ)) aj ?_ ?_ ?_
 ·exact .mk ⟨rfl,H1,.slice none 0 0,.nul,HLe.refl _,.nil 4 none,hs.nul.sb⟩
 ·rintro k fr w hk ⟨rfl,H2,vl,en,hle2,hO,hs⟩
  refine .block (.ai ?_)
  refine .z (zix Tryz.runUnderlying223 Tryz.sizeOf1) ?_
  refine .q hs (dS rfl Tryz.isAgg1 (hv:=Ej b10 hk)) ?_
  refine .z zg (.nil (.region (.z zm ?_)))
  refine .o (.pH (first:=[.pointer (some ⟨b10,0,none⟩)]) (cap:=[]) rfl rfl (C1 hk) (A4 hs (hk0.mono hle2) hO he hk) ?_);rintro _ w ⟨H3,vl3,en3,hle3,hO3,hs⟩
  refine .nil ?_
  refine nB (nT ?_)
  exact .mk ⟨rfl,H3,vl3,en3,hle2.trans hle3,hO3,hs⟩
 ·rintro fr w ⟨rfl,H2,vl,en,hle2,hO,hs⟩
  rw [s.tE] at hO
  obtain ⟨al,ll,cl,rfl,hll⟩:=hO.shape
  refine nT ?_
  refine .seq (.draw mix rfl hs fun w hs=>?_)
  refine .z 0 rfl (zfa aS) ?_;refine .ys 1 rfl hs [_,_,_,_,_,_] aQ aI ?_;refine .z 3 rfl zm ?_;refine .z 4 rfl znc ?_;refine .z 5 rfl (zfa fM) ?_;refine .y 6 rfl hs Gy ?_;refine .z 7 rfl (c9 bg) ?_;refine .z 9 rfl zm ?_;refine .z 10 rfl znc ?_;refine .z 11 rfl (zfa gR) ?_
  refine .y 12 rfl hs cH ?_
  refine .E 2 hs ?_
  refine .call Tryz.call91 rfl (gh (s:=s.sp) hs (h1.mono (hle1.trans hle2)) (h2.mono (hle1.trans hle2)) ⟨aj,aj⟩) ?_;rintro _ w ⟨rfl,hs⟩
  refine .go ?_
  refine .z 8 rfl cq ?_;refine .z 13 rfl (zbd [_,_] iG) ?_
  refine .E 14 hs ?_
  refine .aU (vs:=[_,_]) hs rfl rfl aE ?_;intro w hs
  refine .go ?_
  refine .D hs ?_
  refine .ret ?_
  replace hs:St H2 w (.blk b2 [I ((s.sp.many:Int)+(s.bP.length:Int)),.slice al ll cl]::en::σ):=hs.sb
  exact Fin.iK [] [] hs fun w hs=>⟨_,results1 Tryz.results92 (dJ (vs:=[_,_]) hs rfl aT aE),H2,_,en,hle1.trans hle2,by show _=Value.agg #[I ((s.sp.many+s.bP.length:Nat):Int),_];rw [Int.natCast_add],hO,hs.tail⟩
theorem fA{s:Srv}{vst vwa vr vc:Value}(hs:St H w σ)(h1:RI H vst s.sp.st)(h2:RI H vwa s.sp.wa)(h3:RRd H vr s.rs)(h4:RCm H vc s.cs)(he:s.early):
  Cl Tryz.prog 92 [.agg #[I s.sp.id,I s.sp.src,vst,vwa,I s.sp.al,I s.sp.up,vr,vc]] w fun u w'=>∃H1,HLe H H1∧RSy H1 u s.sys∧St H1 w' σ:=by
 refine (k9 hs h1 h2 h3 h4 he).mono ?_
 rintro u w' ⟨H1,vl,en,hle,rfl,hO,hs⟩
 have hl:=jR he 6 aj
 rw [s.tE] at hl
 obtain ⟨H2,hle2,hR,hs⟩:=cn.cK (m:=4) (cs:=s.cO.map Lim.c) hO (fun c hc=>by simp only [List.mem_map] at hc;obtain ⟨x,_,rfl⟩:=hc;rfl) aj (by rw [List.length_map];omega) hs .here
 exact ⟨H2,hle.trans hle2,⟨vl,rfl,hR⟩,hs⟩
set_option maxHeartbeats 1000000 in
theorem fK{s:Srv}{vst vwa vr vc:Value}(hs:St H w σ)(h1:RI H vst s.sp.st)(h2:RI H vwa s.sp.wa)(h3:RRd H vr s.rs)(h4:RCm H vc s.cs):
  Cl Tryz.prog 42 [.agg #[I s.sp.id,I s.sp.src,vst,vwa,I s.sp.al,I s.sp.up,vr,vc]] w fun u w'=>∃H1 e,HLe H H1∧u=I e∧vv s e∧St H1 w' σ:=by
 obtain ⟨ast,cst,rfl⟩:=RI.shape h1
 obtain ⟨awa,cwa,rfl⟩:=RI.shape h2
 obtain ⟨ar,cr,rfl⟩:=RRd.shape h3
 obtain ⟨ac,cc,rfl⟩:=RCm.shape h4
 refine Cl.o Tryz.func42 Tryz.ntmps42 ag1 ?_
 refine .ai ?_
 refine .bx hs fun b1 w hs=>?_
 refine .z zg (.nil (.seq (.ai (.z (zfa aS) (.y hs (zls [_,_,_,_,_,_] aQ aI) ?_)))))
 refine .o (.call Tryz.call41 rfl (jg (s:=s.sp) hs h1 h2) ?_);rintro _ w ⟨H1,e,hle1,rfl,he,hs⟩
 refine .z zg (.nil (.ai (.z zm (.z ij (.nil ?_)))))
 refine (.eQ rfl (fun hc13=>?_) (fun hc13=>?_))
 ·refine .ai (.z zm (.z zg (.nil ?_)))
  refine .ret (rT (Fin.bJ kW rfl ?_))
  have hq:¬fX s.sp∧e=30:=he.resolve_left fun h=>hc13 h.2
  exact ⟨H1,_,hle1,rfl,by rw [hq.2];exact .space hq.1,hs.out⟩
 ·refine .skip ?_
  refine nT ?_
  refine .seq (.ai (.z (zfa aN) ?_))
  have hok:fX s.sp:=(he.resolve_right fun h=>by omega).1
  refine .y hs (zld bu) (.z (c9 az) (.z kD (.z zm ?_)))
  refine .iB (t':=19) rfl (fun hb19=>?_) (fun hb19=>?_)
  ·refine .gFs 4 4 false rfl rfl rfl ?_
   refine .z zpT (.nil ?_)
   refine (.cT ?_)
   refine .ai (.z zg (.nil ?_))
   refine .ret (rT (Fin.bJ kW rfl ?_))
   exact ⟨H1,_,hle1,rfl,.long hok aj,hs.out⟩
  ·refine .gT rfl rfl ?_
   refine .z (zfa bU) ?_
   refine .gT rfl rfl ?_
   refine .y hs (zld dW) ?_
   refine .gT rfl rfl ?_
   refine .z (c9 aW) ?_
   refine .gT rfl rfl ?_
   refine .z kD (.z zpF (.nil ?_))
   refine (.bM rfl (fun hc24=>?_) (fun hc24=>?_))
   ·refine .ai (.z zg (.nil ?_))
    refine .ret (rT (Fin.bJ kW rfl ?_))
    exact ⟨H1,_,hle1,rfl,.long hok aj,hs.out⟩
   ·refine .skip ?_
    refine nT ?_
    refine .seq (.ai (.z (zfa aN) (.y hs (zld bu) (.z (c9 az) (.z zm (.nil ?_))))))
    refine .for (N:=s.rs.length) (J:=fun k fr w=>fr=[(26,.slice ar s.rs.length cr),(1,.pointer (some ⟨b1,0,none⟩))]∧(∀j<k,∀y,s.rs[j]? =some y→jJ s.sp y)∧St H1 w (.blk b1 [I s.sp.id,I s.sp.src,.slice ast s.sp.st.length cst,.slice awa s.sp.wa.length cwa,I s.sp.al,I s.sp.up,.slice ar s.rs.length cr,.slice ac s.cs.length cc]::σ)) aj ?_ ?_ ?_
    ·exact .mk ⟨rfl,fun j hj=>by omega,hs⟩
    ·rintro k fr w hk ⟨rfl,hno,hs⟩
     obtain ⟨r,hx⟩:=nth hk
     refine .block (.ai ?_)
     refine .ixX (enc:=Rdg.c) hs (h3.mono hle1) rfl rfl az aH hx dy ?_;intro b30 o30 hc30
     refine .q hs (cI (vs:=(Rdg.c r)) rfl dN aH hc30) ?_
     refine .o (.alloc hs eH rfl fun b5 w hs=>?_)
     refine .o (.aU (vs:=r.c) hs rfl rfl aH fun w hs=>?_)
     change St _ _ (.blk b5 [I r.src,I r.st,I r.wa,I r.val,I r.tol,I r.tape,I r.day]::_) at hs
     refine .nil (.ai (.z (zfa aS) (.y hs (zls [_,_,_,_,_,_] aQ aI) (.y hs (zls [_,_,_,_,_,_,_] dN aH) ?_))))
     refine .o (.call Tryz.call107 rfl (jA (s:=s.sp) (r:=r) hs (h1.mono hle1) (h2.mono hle1)) ?_);rintro _ w ⟨b35,rfl,hb35,hs⟩
     refine .z ir (.nil ?_)
     refine (.cond rfl (fun hc36=>?_) (fun hc36=>?_))
     ·refine .ai (.z zg (.nil ?_))
      refine .ret (rB (rT (rB (rT (Fin.bJ kW rfl ?_)))))
      exact ⟨H1,_,hle1,rfl,.rdg hok aj (fun h=>by rw [hb35.2 (h r (List.mem_of_getElem? hx))] at hc36;cases hc36),hs.out⟩
     ·refine .skip ?_
      refine nB (nT ?_)
      exact .mk ⟨rfl,fw hno hx (hb35.1 (by simpa using hc36)),hs.tail⟩
    ·rintro fr w ⟨rfl,hno,hs⟩
     have hrs:∀r∈s.rs,jJ s.sp r:=fun r hr=>by
      obtain ⟨j,hj⟩:=List.getElem?_of_mem hr
      exact hno j (List.getElem?_eq_some_iff.1 hj).1 r hj
     clear hno
     refine nT ?_
     refine .seq (.ai (.z (zfa bU) (.y hs (zld dW) (.z (c9 aW) (.z zm (.nil ?_))))))
     refine .for (N:=s.cs.length) (J:=fun k fr w=>fr=[(39,.slice ac s.cs.length cc),(1,.pointer (some ⟨b1,0,none⟩))]∧(∀j<k,∀y,s.cs[j]? =some y→pP y)∧St H1 w (.blk b1 [I s.sp.id,I s.sp.src,.slice ast s.sp.st.length cst,.slice awa s.sp.wa.length cwa,I s.sp.al,I s.sp.up,.slice ar s.rs.length cr,.slice ac s.cs.length cc]::σ)) aj ?_ ?_ ?_
     ·exact .mk ⟨rfl,fun j hj=>by omega,hs⟩
     ·rintro k fr w hk ⟨rfl,hno,hs⟩
      obtain ⟨c,hx⟩:=nth hk
      refine .block (.ai ?_)
      refine .ixX (enc:=Cmp.c) hs (h4.mono hle1) rfl rfl aW bY hx dy ?_;intro b43 o43 hc43
      refine .q hs (cI (vs:=(Cmp.c c)) rfl EP bY hc43) ?_
      refine .o (.alloc hs wV rfl fun b7 w hs=>?_)
      refine .o (.aU (vs:=c.c) hs rfl rfl bY fun w hs=>?_)
      change St _ _ (.blk b7 [I c.src,I c.tape,I c.fr,I c.to,I c.lo,I c.hi]::_) at hs
      refine .nil (.ai (.y hs (zls [_,_,_,_,_,_] EP bY) ?_))
      refine .o (.call Tryz.call108 rfl (m9 (c:=c) hs) ?_);rintro _ w ⟨b46,rfl,hb46,hs⟩
      refine .z ir (.nil ?_)
      refine (.cond rfl (fun hc47=>?_) (fun hc47=>?_))
      ·refine .ai (.z zg (.nil ?_))
       refine .ret (rB (rT (rB (rT (Fin.bJ kW rfl ?_)))))
       exact ⟨H1,_,hle1,rfl,.cmp hok aj hrs (fun h=>by rw [hb46.2 (h c (List.mem_of_getElem? hx))] at hc47;cases hc47),hs.out⟩
      ·refine .skip ?_
       refine nB (nT ?_)
       exact .mk ⟨rfl,fw hno hx (hb46.1 (by simpa using hc47)),hs.tail⟩
     ·rintro fr w ⟨rfl,hno,hs⟩
      have hcs:∀c∈s.cs,pP c:=fun c hc=>by
       obtain ⟨j,hj⟩:=List.getElem?_of_mem hc
       exact hno j (List.getElem?_eq_some_iff.1 hj).1 c hj
      have hea:s.early:=⟨hok,aj,aj,hrs,hcs⟩
      have hsm:=fk hok
      have htl:s.bP.length≤60:=by have:=dq s.rs;have:=hea.2.1;unfold Srv.bP;omega
      have hll:=jR hea 6 aj
      rw [s.tE] at hll
      have hsm2:s.sys.many=((s.sp.many+s.bP.length:Nat):Int):=rfl
      refine nT ?_
      refine .seq (.ai (.y hs (zls [_,_,_,_,_,_,_,_] aO aF) ?_))
      refine .o (.call Dp rfl (fA (s:=s) hs (h1.mono hle1) (h2.mono hle1) (h3.mono hle1) (h4.mono hle1) hea) ?_);rintro _ w ⟨H2,hle2,⟨ul,rfl,hL⟩,hs⟩
      obtain ⟨al,cl,rfl⟩:=RL.shape hL
      have hsl:s.sys.cO.length=s.cO.length:=rfl
      refine .o (.alloc hs dj rfl fun b8 w hs=>?_)
      refine .o (.aU (vs:=[_,_]) hs rfl rfl aE fun w hs=>?_)
      refine .nil (.ai (.z (zfa bH) (.y hs (zld ae) (.z kD (.z zm ?_)))))
      refine .iB (t':=54) rfl (fun hb54=>?_) (fun hb54=>?_)
      ·refine .gFs 4 3 false rfl rfl rfl ?_
       refine .z zpT (.nil ?_)
       refine (.cT ?_)
       refine .ai (.z zg (.nil ?_))
       refine .ret (rT (Fin.bJ kW rfl ?_))
       exact ⟨H2,_,hle1.trans hle2,rfl,.big hea aj,hs.out⟩
      ·refine .gT rfl rfl ?_
       refine .z (zfa bO) ?_
       refine .gT rfl rfl ?_
       refine .y hs (zld cH) ?_
       refine .gT rfl rfl ?_
       refine .z (c9 aP) ?_
       refine .gT rfl rfl ?_
       refine .z kD (.z zpF (.nil ?_))
       refine (.bM rfl (fun hc59=>?_) (fun hc59=>?_))
       ·refine .ai (.z zg (.nil ?_))
        refine .ret (rT (Fin.bJ kW rfl ?_))
        exact ⟨H2,_,hle1.trans hle2,rfl,.big hea aj,hs.out⟩
       ·refine .skip ?_
        refine nT ?_
        refine .ai (.z zg (.nil ?_))
        refine .ret (Fin.bJ kW rfl ?_)
        exact ⟨H2,_,hle1.trans hle2,rfl,.ok hea ⟨aj,aj⟩,hs.out⟩
theorem dw{a0 a1 a2:Int}(hs:St H w σ):Cl Tryz.prog 83 [I a0,I a1,I a2] w fun v w'=>v= .bool (decide (a1≤a0∧a0≤a2))∧St H w' σ:=by
 refine Cl.o Tryz.func83 Tryz.ntmps83 ag3 ?_
 refine .ai (.z zg (.nil (.ai (.z zm (.z zm (.z vD (.z zm ?_)))))))
 refine .iB (t':=10) rfl (fun hb10=>?_) (fun hb10=>?_)
 ·refine .gT rfl rfl ?_
  refine .z zm ?_
  refine .gT rfl rfl ?_
  refine .z zm ?_
  refine .gT rfl rfl ?_
  refine .z uO (.z zpT (.z zg (.nil ?_)))
  refine .ret (Fin.bJ Tryz.results83 rfl ?_)
  exact ⟨by simp [*],hs.out⟩
 ·refine .gFs 3 3 true rfl rfl rfl ?_
  refine .z zpF (.z zg (.nil ?_))
  refine .ret (Fin.bJ Tryz.results83 rfl ?_)
  exact ⟨by simp [*],hs.out⟩
theorem EX{s:Spc}(h1:eX 9 100000 s.st)(h2:eX 9 100000 s.wa)(h3:s.wa.length≤7)(h4:gi s.wa (s.wa.length - 1)≤15000)(h5:1≤s.id∧s.id≤99999)(h6:1≤s.src∧s.src≤99999)(h7:0≤s.al∧s.al≤100000)(h8:0≤s.up∧s.up≤100000):fX s:=
 ⟨h1,⟨h2.two,h3,h2.low,h4,h2.rise⟩,h5,h6,h7,h8⟩
theorem yg{s:Spc}(h:fX s):eX 9 100000 s.wa:=⟨h.wa.two,by have:=h.wa.many;omega,h.wa.low,by have:=h.wa.high;omega,h.wa.rise⟩
theorem jP{s:Spc}{vst vwa:Value}(hs:St H w σ)(h1:RI H vst s.st)(h2:RI H vwa s.wa):
  Cl Tryz.prog 24 [.agg #[I s.id,I s.src,vst,vwa,I s.al,I s.up]] w fun v w'=>∃e,v=I e∧((fX s∧e=0)∨(¬fX s∧e=30))∧St H w' σ:=by
 obtain ⟨ast,cst,rfl⟩:=RI.shape h1
 obtain ⟨awa,cwa,rfl⟩:=RI.shape h2
 have l2:=(RI.len h2).2.2
 refine Cl.o Tryz.func24 Tryz.ntmps24 ag1 ?_
 refine .ai ?_
 refine .bx hs fun b1 w hs=>?_
 refine .z zg (.nil (.seq (.ai (.z (zfa lG) (.y hs (zld ae) ?_)))))
 refine .o (.call fI rfl (dw hs) ?_);rintro _ w ⟨rfl,hs⟩
 refine .z ir (.z zm ?_)
 refine .bif (t':=7) rfl (fun hb7=>?_) (fun hb7=>?_)
 ·refine .gFs 4 4 false rfl rfl rfl ?_
  refine .z zpT (.z zm ?_)
  refine .gFs 5 10 false rfl rfl rfl ?_
  refine .z zpT (.z zm ?_)
  refine .gFs 5 17 false rfl rfl rfl ?_
  refine .z zpT (.nil ?_)
  refine (.cT ?_)
  refine .ai (.z zg (.nil ?_))
  refine .ret (rT (Fin.bJ jz rfl ?_))
  exact ⟨_,rfl,.inr ⟨fun h=>by have:=h.id;simp_all,rfl⟩,hs.out⟩
 ·refine .gT rfl rfl ?_
  refine .z (zfa dB) ?_
  refine .gT rfl rfl ?_
  refine .y hs (zld ae) ?_
  refine .gT rfl rfl ?_
  refine .o (.call fI rfl (dw hs) ?_);rintro _ w ⟨rfl,hs⟩
  refine .gT rfl rfl ?_
  refine .z ir (.z zpF (.z zm ?_))
  refine .bif (t':=13) rfl (fun hb13=>?_) (fun hb13=>?_)
  ·refine .gFs 5 10 false rfl rfl rfl ?_
   refine .z zpT (.z zm ?_)
   refine .gFs 5 17 false rfl rfl rfl ?_
   refine .z zpT (.nil ?_)
   refine (.cT ?_)
   refine .ai (.z zg (.nil ?_))
   refine .ret (rT (Fin.bJ jz rfl ?_))
   exact ⟨_,rfl,.inr ⟨fun h=>by have:=h.src;simp_all,rfl⟩,hs.out⟩
  ·refine .gT rfl rfl ?_
   refine .z (zfa ed) ?_
   refine .gT rfl rfl ?_
   refine .z (zfa jr) ?_
   refine .gT rfl rfl ?_
   refine .y hs (zld ae) ?_
   refine .gT rfl rfl ?_
   refine .o (.call fI rfl (dw hs) ?_);rintro _ w ⟨rfl,hs⟩
   refine .gT rfl rfl ?_
   refine .z ir (.z zpF (.z zm ?_))
   refine .bif (t':=20) rfl (fun hb20=>?_) (fun hb20=>?_)
   ·refine .gFs 5 17 false rfl rfl rfl ?_
    refine .z zpT (.nil ?_)
    refine (.cT ?_)
    refine .ai (.z zg (.nil ?_))
    refine .ret (rT (Fin.bJ jz rfl ?_))
    exact ⟨_,rfl,.inr ⟨fun h=>by have:=h.al;simp_all,rfl⟩,hs.out⟩
   ·refine .gT rfl rfl ?_
    refine .z (zfa ed) ?_
    refine .gT rfl rfl ?_
    refine .z (zfa jq) ?_
    refine .gT rfl rfl ?_
    refine .y hs (zld ae) ?_
    refine .gT rfl rfl ?_
    refine .o (.call fI rfl (dw hs) ?_);rintro _ w ⟨rfl,hs⟩
    refine .gT rfl rfl ?_
    refine .z ir (.z zpF (.nil ?_))
    refine (.cond rfl (fun hc26=>?_) (fun hc26=>?_))
    ·refine .ai (.z zg (.nil ?_))
     refine .ret (rT (Fin.bJ jz rfl ?_))
     exact ⟨_,rfl,.inr ⟨fun h=>by have:=h.up;simp_all,rfl⟩,hs.out⟩
    ·refine .skip ?_
     refine nT ?_
     refine .seq (.ai (.z (zfa bA) (.y hs (zld ak) ?_)))
     refine .o (.call Tryz.call84 rfl (gP hs h1) ?_);rintro _ w ⟨e1,rfl,he1,hs⟩
     refine .z ij (.z zm ?_)
     refine .yF (t':=31) rfl (fun hb31=>?_) (fun hb31=>?_)
     ·refine .gFs 4 4 false rfl rfl rfl ?_
      refine .z zpT (.z zm ?_)
      refine .gFs 4 10 false rfl rfl rfl ?_
      refine .z zpT (.z zm ?_)
      refine .gFs 9 16 false rfl rfl rfl ?_
      refine .z zpT (.nil ?_)
      refine (.cT ?_)
      refine .ai (.z zg (.nil ?_))
      refine .ret (rT (Fin.bJ jz rfl ?_))
      exact ⟨_,rfl,.inr ⟨fun h=>hb31 (he1.elim (fun g=>g.2) fun g=>(g.1 h.st).elim),rfl⟩,hs.out⟩
     ·refine .gT rfl rfl ?_
      refine .z (zfa bj) ?_
      refine .gT rfl rfl ?_
      refine .y hs (zld ak) ?_
      refine .gT rfl rfl ?_
      refine .o (.call Tryz.call84 rfl (gP hs h2) ?_);rintro _ w ⟨e2,rfl,he2,hs⟩
      refine .gT rfl rfl ?_
      refine .z ij (.z zpF (.z zm ?_))
      refine .yF (t':=37) rfl (fun hb37=>?_) (fun hb37=>?_)
      ·refine .gFs 4 10 false rfl rfl rfl ?_
       refine .z zpT (.z zm ?_)
       refine .gFs 9 16 false rfl rfl rfl ?_
       refine .z zpT (.nil ?_)
       refine (.cT ?_)
       refine .ai (.z zg (.nil ?_))
       refine .ret (rT (Fin.bJ jz rfl ?_))
       exact ⟨_,rfl,.inr ⟨fun h=>hb37 (he2.elim (fun g=>g.2) fun g=>(g.1 (yg h)).elim),rfl⟩,hs.out⟩
      ·refine .gT rfl rfl ?_
       refine .z (zfa bj) ?_
       refine .gT rfl rfl ?_
       have hw:eX 9 100000 s.wa:=he2.elim (fun g=>g.1) fun g=>(g.2 aj).elim
       have hw2:=hw.two
       refine .y hs (zld ak) ?_
       refine .gT rfl rfl ?_
       refine .z (c9 aa) ?_
       refine .gT rfl rfl ?_
       refine .z kD (.z zpF (.z zm ?_))
       refine .iB (t':=43) rfl (fun hb43=>?_) (fun hb43=>?_)
       ·refine .gFs 9 16 false rfl rfl rfl ?_
        refine .z zpT (.nil ?_)
        refine (.cT ?_)
        refine .ai (.z zg (.nil ?_))
        refine .ret (rT (Fin.bJ jz rfl ?_))
        exact ⟨_,rfl,.inr ⟨fun h=>by have:=h.wa.many;omega,rfl⟩,hs.out⟩
       ·refine .gT rfl rfl ?_
        refine .z (zfa bj) ?_
        refine .gT rfl rfl ?_
        refine .y hs (zld ak) ?_
        refine .gT rfl rfl ?_
        refine .z (zfa bj) ?_
        refine .gT rfl rfl ?_
        refine .y hs (zld ak) ?_
        refine .gT rfl rfl ?_
        refine .z (c9 aa) ?_
        refine .gT rfl rfl ?_
        refine .z gW ?_
        refine .gT rfl rfl ?_
        refine .ixY hs h2 rfl rfl aa af (bL (l:=s.wa) (i:=(s.wa.length-1)) aj) dy ?_;intro b50 o50 hc50
        refine .gT rfl rfl ?_
        refine .q hs (aK rfl ae hc50) ?_
        refine .gT rfl rfl ?_
        refine .z kD (.z zpF (.nil ?_))
        refine (.bM rfl (fun hc53=>?_) (fun hc53=>?_))
        ·refine .ai (.z zg (.nil ?_))
         refine .ret (rT (Fin.bJ jz rfl ?_))
         exact ⟨_,rfl,.inr ⟨fun h=>by have:=h.wa.high;omega,rfl⟩,hs.out⟩
        ·refine .skip ?_
         refine nT ?_
         refine .ai (.z zg (.nil ?_))
         refine .ret (Fin.bJ jz rfl ?_)
         exact ⟨_,rfl,.inl ⟨EX (he1.elim (fun g=>g.1) fun g=>(g.2 aj).elim) hw aj aj (by simp_all) (by simp_all) (by simp_all) (by simp_all),rfl⟩,hs.out⟩
theorem jc{s:Spc}{r:Rdg}{vst vwa:Value}(hs:St H w σ)(h1:RI H vst s.st)(h2:RI H vwa s.wa):
  Cl Tryz.prog 109 [.agg #[I s.id,I s.src,vst,vwa,I s.al,I s.up],.agg #[I r.src,I r.st,I r.wa,I r.val,I r.tol,I r.tape,I r.day]] w fun v w'=>∃b:Bool,v= .bool b∧(b=true↔jJ s r)∧St H w' σ:=by
 obtain ⟨ast,cst,rfl⟩:=RI.shape h1
 obtain ⟨awa,cwa,rfl⟩:=RI.shape h2
 have l1:=(RI.len h1).2.2
 have l2:=(RI.len h2).2.2
 refine Cl.o Tryz.func109 Tryz.ntmps109 ag2 ?_
 refine .ai ?_
 refine .bx hs fun b2 w hs=>?_
 refine .bx hs fun b3 w hs=>?_
 refine .z zg (.nil (.ai (.z (zfa eG) (.y hs (zld ae) ?_))))
 refine .o (.call fI rfl (dw hs) ?_);rintro _ w ⟨rfl,hs⟩
 refine .z zm ?_
 refine .bif (t':=8) rfl (fun hb8=>?_) (fun hb8=>?_)
 ·refine .gT rfl rfl ?_
  refine .z (zfa ff) ?_
  refine .gT rfl rfl ?_
  refine .y hs (zld ae) ?_
  refine .gT rfl rfl ?_
  refine .z (zfa bA) ?_
  refine .gT rfl rfl ?_
  refine .y hs (zld ak) ?_
  refine .gT rfl rfl ?_
  refine .z (c9 aa) ?_
  refine .gT rfl rfl ?_
  refine .z gW ?_
  refine .gT rfl rfl ?_
  refine .o (.call fI rfl (dw hs) ?_);rintro _ w ⟨rfl,hs⟩
  refine .z zpT (.z zm ?_)
  refine .bif (t':=17) rfl (fun hb17=>?_) (fun hb17=>?_)
  ·refine .gT rfl rfl ?_
   refine .z (zfa fc) ?_
   refine .gT rfl rfl ?_
   refine .y hs (zld ae) ?_
   refine .gT rfl rfl ?_
   refine .z (zfa bj) ?_
   refine .gT rfl rfl ?_
   refine .y hs (zld ak) ?_
   refine .gT rfl rfl ?_
   refine .z (c9 aa) ?_
   refine .gT rfl rfl ?_
   refine .z gW ?_
   refine .gT rfl rfl ?_
   refine .o (.call fI rfl (dw hs) ?_);rintro _ w ⟨rfl,hs⟩
   refine .z zpT (.z zm ?_)
   refine .bif (t':=26) rfl (fun hb26=>?_) (fun hb26=>?_)
   ·refine .gT rfl rfl ?_
    refine .z (zfa ck) ?_
    refine .gT rfl rfl ?_
    refine .y hs (zld ae) ?_
    refine .gT rfl rfl ?_
    refine .o (.call fI rfl (dw hs) ?_);rintro _ w ⟨rfl,hs⟩
    refine .z zpT (.z zm ?_)
    refine .bif (t':=31) rfl (fun hb31=>?_) (fun hb31=>?_)
    ·refine .gT rfl rfl ?_
     refine .z (zfa db) ?_
     refine .gT rfl rfl ?_
     refine .y hs (zld ae) ?_
     refine .gT rfl rfl ?_
     refine .z (zfa ck) ?_
     refine .gT rfl rfl ?_
     refine .y hs (zld ae) ?_
     refine .gT rfl rfl ?_
     have ht:0≤r.tol∧r.tol≤1000:=by simp_all
     refine .z gW ?_
     refine .gT rfl rfl ?_
     refine .o (.call fI rfl (dw hs) ?_);rintro _ w ⟨rfl,hs⟩
     refine .z zpT (.z zm ?_)
     refine .bif (t':=39) rfl (fun hb39=>?_) (fun hb39=>?_)
     ·refine .gT rfl rfl ?_
      refine .z (zfa eF) ?_
      refine .gT rfl rfl ?_
      refine .y hs (zld ae) ?_
      refine .gT rfl rfl ?_
      refine .o (.call fI rfl (dw hs) ?_);rintro _ w ⟨rfl,hs⟩
      refine .z zpT (.z zm ?_)
      refine .bif (t':=44) rfl (fun hb44=>?_) (fun hb44=>?_)
      ·refine .gT rfl rfl ?_
       refine .z (zfa eE) ?_
       refine .gT rfl rfl ?_
       refine .y hs (zld ae) ?_
       refine .gT rfl rfl ?_
       refine .o (.call fI rfl (dw hs) ?_);rintro _ w ⟨rfl,hs⟩
       refine .z zpT (.z zg (.nil ?_))
       refine .ret (Fin.bJ mV rfl ?_)
       first
       |exact ⟨false,rfl,⟨fun h=>(by cases h),fun h=>(by obtain ⟨g1,g2,g3,g4,g5,g6,g7⟩:=h;simp_all;done)⟩,hs.out⟩
       |exact ⟨_,rfl,⟨fun h=>⟨by simp_all,by simp_all,by simp_all,by simp_all,by simp_all,by simp_all,by simpa using h⟩,fun h=>by simpa using h.day⟩,hs.out⟩
      ·refine .gFs 3 39 true rfl rfl rfl ?_
       refine .z zpF (.z zg (.nil ?_))
       refine .ret (Fin.bJ mV rfl ?_)
       first
       |exact ⟨false,rfl,⟨fun h=>(by cases h),fun h=>(by obtain ⟨g1,g2,g3,g4,g5,g6,g7⟩:=h;simp_all;done)⟩,hs.out⟩
       |exact ⟨_,rfl,⟨fun h=>⟨by simp_all,by simp_all,by simp_all,by simp_all,by simp_all,by simp_all,by simpa using h⟩,fun h=>by simpa using h.day⟩,hs.out⟩
     ·refine .gFs 3 34 true rfl rfl rfl ?_
      refine .z zpF (.z zm ?_)
      refine .gFs 3 39 true rfl rfl rfl ?_
      refine .z zpF (.z zg (.nil ?_))
      refine .ret (Fin.bJ mV rfl ?_)
      first
      |exact ⟨false,rfl,⟨fun h=>(by cases h),fun h=>(by obtain ⟨g1,g2,g3,g4,g5,g6,g7⟩:=h;simp_all;done)⟩,hs.out⟩
      |exact ⟨_,rfl,⟨fun h=>⟨by simp_all,by simp_all,by simp_all,by simp_all,by simp_all,by simp_all,by simpa using h⟩,fun h=>by simpa using h.day⟩,hs.out⟩
    ·refine .gFs 6 26 true rfl rfl rfl ?_
     refine .z zpF (.z zm ?_)
     refine .gFs 3 34 true rfl rfl rfl ?_
     refine .z zpF (.z zm ?_)
     refine .gFs 3 39 true rfl rfl rfl ?_
     refine .z zpF (.z zg (.nil ?_))
     refine .ret (Fin.bJ mV rfl ?_)
     first
     |exact ⟨false,rfl,⟨fun h=>(by cases h),fun h=>(by obtain ⟨g1,g2,g3,g4,g5,g6,g7⟩:=h;simp_all;done)⟩,hs.out⟩
     |exact ⟨_,rfl,⟨fun h=>⟨by simp_all,by simp_all,by simp_all,by simp_all,by simp_all,by simp_all,by simpa using h⟩,fun h=>by simpa using h.day⟩,hs.out⟩
   ·refine .gFs 3 21 true rfl rfl rfl ?_
    refine .z zpF (.z zm ?_)
    refine .gFs 6 26 true rfl rfl rfl ?_
    refine .z zpF (.z zm ?_)
    refine .gFs 3 34 true rfl rfl rfl ?_
    refine .z zpF (.z zm ?_)
    refine .gFs 3 39 true rfl rfl rfl ?_
    refine .z zpF (.z zg (.nil ?_))
    refine .ret (Fin.bJ mV rfl ?_)
    first
    |exact ⟨false,rfl,⟨fun h=>(by cases h),fun h=>(by obtain ⟨g1,g2,g3,g4,g5,g6,g7⟩:=h;simp_all;done)⟩,hs.out⟩
    |exact ⟨_,rfl,⟨fun h=>⟨by simp_all,by simp_all,by simp_all,by simp_all,by simp_all,by simp_all,by simpa using h⟩,fun h=>by simpa using h.day⟩,hs.out⟩
  ·refine .gFs 7 12 true rfl rfl rfl ?_
   refine .z zpF (.z zm ?_)
   refine .gFs 3 21 true rfl rfl rfl ?_
   refine .z zpF (.z zm ?_)
   refine .gFs 6 26 true rfl rfl rfl ?_
   refine .z zpF (.z zm ?_)
   refine .gFs 3 34 true rfl rfl rfl ?_
   refine .z zpF (.z zm ?_)
   refine .gFs 3 39 true rfl rfl rfl ?_
   refine .z zpF (.z zg (.nil ?_))
   refine .ret (Fin.bJ mV rfl ?_)
   first
   |exact ⟨false,rfl,⟨fun h=>(by cases h),fun h=>(by obtain ⟨g1,g2,g3,g4,g5,g6,g7⟩:=h;simp_all;done)⟩,hs.out⟩
   |exact ⟨_,rfl,⟨fun h=>⟨by simp_all,by simp_all,by simp_all,by simp_all,by simp_all,by simp_all,by simpa using h⟩,fun h=>by simpa using h.day⟩,hs.out⟩
 ·refine .gFs 7 3 true rfl rfl rfl ?_
  refine .z zpF (.z zm ?_)
  refine .gFs 7 12 true rfl rfl rfl ?_
  refine .z zpF (.z zm ?_)
  refine .gFs 3 21 true rfl rfl rfl ?_
  refine .z zpF (.z zm ?_)
  refine .gFs 6 26 true rfl rfl rfl ?_
  refine .z zpF (.z zm ?_)
  refine .gFs 3 34 true rfl rfl rfl ?_
  refine .z zpF (.z zm ?_)
  refine .gFs 3 39 true rfl rfl rfl ?_
  refine .z zpF (.z zg (.nil ?_))
  refine .ret (Fin.bJ mV rfl ?_)
  first
  |exact ⟨false,rfl,⟨fun h=>(by cases h),fun h=>(by obtain ⟨g1,g2,g3,g4,g5,g6,g7⟩:=h;simp_all;done)⟩,hs.out⟩
  |exact ⟨_,rfl,⟨fun h=>⟨by simp_all,by simp_all,by simp_all,by simp_all,by simp_all,by simp_all,by simpa using h⟩,fun h=>by simpa using h.day⟩,hs.out⟩
theorem mv{c:Cmp}(hs:St H w σ):
  Cl Tryz.prog 110 [.agg #[I c.src,I c.tape,I c.fr,I c.to,I c.lo,I c.hi]] w fun v w'=>∃b:Bool,v= .bool b∧(b=true↔pP c)∧St H w' σ:=by
 refine Cl.o Tryz.func110 Tryz.ntmps110 ag1 ?_
 refine .ai ?_
 refine .bx hs fun b1 w hs=>?_
 refine .z zg (.nil (.ai (.z (zfa gL) (.y hs (zld ae) ?_))))
 refine .o (.call fI rfl (dw hs) ?_);rintro _ w ⟨rfl,hs⟩
 refine .z zm ?_
 refine .bif (t':=6) rfl (fun hb6=>?_) (fun hb6=>?_)
 ·refine .gT rfl rfl ?_
  refine .z (zfa iL) ?_
  refine .gT rfl rfl ?_
  refine .y hs (zld ae) ?_
  refine .gT rfl rfl ?_
  refine .o (.call fI rfl (dw hs) ?_);rintro _ w ⟨rfl,hs⟩
  refine .z zpT (.z zm ?_)
  refine .bif (t':=11) rfl (fun hb11=>?_) (fun hb11=>?_)
  ·refine .gT rfl rfl ?_
   refine .z (zfa fG) ?_
   refine .gT rfl rfl ?_
   refine .y hs (zld ae) ?_
   refine .gT rfl rfl ?_
   refine .z vD (.z zpT (.z zm ?_))
   refine .iB (t':=16) rfl (fun hb16=>?_) (fun hb16=>?_)
   ·refine .gT rfl rfl ?_
    refine .z (zfa fG) ?_
    refine .gT rfl rfl ?_
    refine .y hs (zld ae) ?_
    refine .gT rfl rfl ?_
    refine .z (zfa fi) ?_
    refine .gT rfl rfl ?_
    refine .y hs (zld ae) ?_
    refine .gT rfl rfl ?_
    refine .z uO (.z zpT (.z zm ?_))
    refine .iB (t':=23) rfl (fun hb23=>?_) (fun hb23=>?_)
    ·refine .gT rfl rfl ?_
     refine .z (zfa fi) ?_
     refine .gT rfl rfl ?_
     refine .y hs (zld ae) ?_
     refine .gT rfl rfl ?_
     refine .z uO (.z zpT (.z zm ?_))
     refine .iB (t':=28) rfl (fun hb28=>?_) (fun hb28=>?_)
     ·refine .gT rfl rfl ?_
      refine .z (zfa fh) ?_
      refine .gT rfl rfl ?_
      refine .y hs (zld ae) ?_
      refine .gT rfl rfl ?_
      refine .z vD (.z zpT (.z zm ?_))
      refine .iB (t':=33) rfl (fun hb33=>?_) (fun hb33=>?_)
      ·refine .gT rfl rfl ?_
       refine .z (zfa fh) ?_
       refine .gT rfl rfl ?_
       refine .y hs (zld ae) ?_
       refine .gT rfl rfl ?_
       refine .z (zfa fg) ?_
       refine .gT rfl rfl ?_
       refine .y hs (zld ae) ?_
       refine .gT rfl rfl ?_
       refine .z uO (.z zpT (.z zm ?_))
       refine .iB (t':=40) rfl (fun hb40=>?_) (fun hb40=>?_)
       ·refine .gT rfl rfl ?_
        refine .z (zfa fg) ?_
        refine .gT rfl rfl ?_
        refine .y hs (zld ae) ?_
        refine .gT rfl rfl ?_
        refine .z uO (.z zpT (.z zg (.nil ?_)))
        refine .ret (Fin.bJ km rfl ?_)
        first
        |exact ⟨false,rfl,⟨fun h=>(by cases h),fun h=>(by obtain ⟨g1,g2,g3,g4,g5,g6⟩:=h;simp_all;omega)⟩,hs.out⟩
        |exact ⟨false,rfl,⟨fun h=>(by cases h),fun h=>(by obtain ⟨g1,g2,g3,g4,g5,g6⟩:=h;simp_all;done)⟩,hs.out⟩
        |exact ⟨_,rfl,⟨fun h=>⟨by simp_all,by simp_all,⟨aj,aj⟩,aj,⟨aj,aj⟩,of_decide_eq_true h⟩,fun h=>decide_eq_true h.hi⟩,hs.out⟩
       ·refine .gFs 3 37 true rfl rfl rfl ?_
        refine .z zpF (.z zg (.nil ?_))
        refine .ret (Fin.bJ km rfl ?_)
        first
        |exact ⟨false,rfl,⟨fun h=>(by cases h),fun h=>(by obtain ⟨g1,g2,g3,g4,g5,g6⟩:=h;simp_all;omega)⟩,hs.out⟩
        |exact ⟨false,rfl,⟨fun h=>(by cases h),fun h=>(by obtain ⟨g1,g2,g3,g4,g5,g6⟩:=h;simp_all;done)⟩,hs.out⟩
        |exact ⟨_,rfl,⟨fun h=>⟨by simp_all,by simp_all,⟨aj,aj⟩,aj,⟨aj,aj⟩,of_decide_eq_true h⟩,fun h=>decide_eq_true h.hi⟩,hs.out⟩
      ·refine .gFs 5 30 true rfl rfl rfl ?_
       refine .z zpF (.z zm ?_)
       refine .gFs 3 37 true rfl rfl rfl ?_
       refine .z zpF (.z zg (.nil ?_))
       refine .ret (Fin.bJ km rfl ?_)
       first
       |exact ⟨false,rfl,⟨fun h=>(by cases h),fun h=>(by obtain ⟨g1,g2,g3,g4,g5,g6⟩:=h;simp_all;omega)⟩,hs.out⟩
       |exact ⟨false,rfl,⟨fun h=>(by cases h),fun h=>(by obtain ⟨g1,g2,g3,g4,g5,g6⟩:=h;simp_all;done)⟩,hs.out⟩
       |exact ⟨_,rfl,⟨fun h=>⟨by simp_all,by simp_all,⟨aj,aj⟩,aj,⟨aj,aj⟩,of_decide_eq_true h⟩,fun h=>decide_eq_true h.hi⟩,hs.out⟩
     ·refine .gFs 3 25 true rfl rfl rfl ?_
      refine .z zpF (.z zm ?_)
      refine .gFs 5 30 true rfl rfl rfl ?_
      refine .z zpF (.z zm ?_)
      refine .gFs 3 37 true rfl rfl rfl ?_
      refine .z zpF (.z zg (.nil ?_))
      refine .ret (Fin.bJ km rfl ?_)
      first
      |exact ⟨false,rfl,⟨fun h=>(by cases h),fun h=>(by obtain ⟨g1,g2,g3,g4,g5,g6⟩:=h;simp_all;omega)⟩,hs.out⟩
      |exact ⟨false,rfl,⟨fun h=>(by cases h),fun h=>(by obtain ⟨g1,g2,g3,g4,g5,g6⟩:=h;simp_all;done)⟩,hs.out⟩
      |exact ⟨_,rfl,⟨fun h=>⟨by simp_all,by simp_all,⟨aj,aj⟩,aj,⟨aj,aj⟩,of_decide_eq_true h⟩,fun h=>decide_eq_true h.hi⟩,hs.out⟩
    ·refine .gFs 3 20 true rfl rfl rfl ?_
     refine .z zpF (.z zm ?_)
     refine .gFs 3 25 true rfl rfl rfl ?_
     refine .z zpF (.z zm ?_)
     refine .gFs 5 30 true rfl rfl rfl ?_
     refine .z zpF (.z zm ?_)
     refine .gFs 3 37 true rfl rfl rfl ?_
     refine .z zpF (.z zg (.nil ?_))
     refine .ret (Fin.bJ km rfl ?_)
     first
     |exact ⟨false,rfl,⟨fun h=>(by cases h),fun h=>(by obtain ⟨g1,g2,g3,g4,g5,g6⟩:=h;simp_all;omega)⟩,hs.out⟩
     |exact ⟨false,rfl,⟨fun h=>(by cases h),fun h=>(by obtain ⟨g1,g2,g3,g4,g5,g6⟩:=h;simp_all;done)⟩,hs.out⟩
     |exact ⟨_,rfl,⟨fun h=>⟨by simp_all,by simp_all,⟨aj,aj⟩,aj,⟨aj,aj⟩,of_decide_eq_true h⟩,fun h=>decide_eq_true h.hi⟩,hs.out⟩
   ·refine .gFs 5 13 true rfl rfl rfl ?_
    refine .z zpF (.z zm ?_)
    refine .gFs 3 20 true rfl rfl rfl ?_
    refine .z zpF (.z zm ?_)
    refine .gFs 3 25 true rfl rfl rfl ?_
    refine .z zpF (.z zm ?_)
    refine .gFs 5 30 true rfl rfl rfl ?_
    refine .z zpF (.z zm ?_)
    refine .gFs 3 37 true rfl rfl rfl ?_
    refine .z zpF (.z zg (.nil ?_))
    refine .ret (Fin.bJ km rfl ?_)
    first
    |exact ⟨false,rfl,⟨fun h=>(by cases h),fun h=>(by obtain ⟨g1,g2,g3,g4,g5,g6⟩:=h;simp_all;omega)⟩,hs.out⟩
    |exact ⟨false,rfl,⟨fun h=>(by cases h),fun h=>(by obtain ⟨g1,g2,g3,g4,g5,g6⟩:=h;simp_all;done)⟩,hs.out⟩
    |exact ⟨_,rfl,⟨fun h=>⟨by simp_all,by simp_all,⟨aj,aj⟩,aj,⟨aj,aj⟩,of_decide_eq_true h⟩,fun h=>decide_eq_true h.hi⟩,hs.out⟩
  ·refine .gFs 3 8 true rfl rfl rfl ?_
   refine .z zpF (.z zm ?_)
   refine .gFs 5 13 true rfl rfl rfl ?_
   refine .z zpF (.z zm ?_)
   refine .gFs 3 20 true rfl rfl rfl ?_
   refine .z zpF (.z zm ?_)
   refine .gFs 3 25 true rfl rfl rfl ?_
   refine .z zpF (.z zm ?_)
   refine .gFs 5 30 true rfl rfl rfl ?_
   refine .z zpF (.z zm ?_)
   refine .gFs 3 37 true rfl rfl rfl ?_
   refine .z zpF (.z zg (.nil ?_))
   refine .ret (Fin.bJ km rfl ?_)
   first
   |exact ⟨false,rfl,⟨fun h=>(by cases h),fun h=>(by obtain ⟨g1,g2,g3,g4,g5,g6⟩:=h;simp_all;omega)⟩,hs.out⟩
   |exact ⟨false,rfl,⟨fun h=>(by cases h),fun h=>(by obtain ⟨g1,g2,g3,g4,g5,g6⟩:=h;simp_all;done)⟩,hs.out⟩
   |exact ⟨_,rfl,⟨fun h=>⟨by simp_all,by simp_all,⟨aj,aj⟩,aj,⟨aj,aj⟩,of_decide_eq_true h⟩,fun h=>decide_eq_true h.hi⟩,hs.out⟩
 ·refine .gFs 3 3 true rfl rfl rfl ?_
  refine .z zpF (.z zm ?_)
  refine .gFs 3 8 true rfl rfl rfl ?_
  refine .z zpF (.z zm ?_)
  refine .gFs 5 13 true rfl rfl rfl ?_
  refine .z zpF (.z zm ?_)
  refine .gFs 3 20 true rfl rfl rfl ?_
  refine .z zpF (.z zm ?_)
  refine .gFs 3 25 true rfl rfl rfl ?_
  refine .z zpF (.z zm ?_)
  refine .gFs 5 30 true rfl rfl rfl ?_
  refine .z zpF (.z zm ?_)
  refine .gFs 3 37 true rfl rfl rfl ?_
  refine .z zpF (.z zg (.nil ?_))
  refine .ret (Fin.bJ km rfl ?_)
  first
  |exact ⟨false,rfl,⟨fun h=>(by cases h),fun h=>(by obtain ⟨g1,g2,g3,g4,g5,g6⟩:=h;simp_all;omega)⟩,hs.out⟩
  |exact ⟨false,rfl,⟨fun h=>(by cases h),fun h=>(by obtain ⟨g1,g2,g3,g4,g5,g6⟩:=h;simp_all;done)⟩,hs.out⟩
  |exact ⟨_,rfl,⟨fun h=>⟨by simp_all,by simp_all,⟨aj,aj⟩,aj,⟨aj,aj⟩,of_decide_eq_true h⟩,fun h=>decide_eq_true h.hi⟩,hs.out⟩
theorem fa{s:Spc}{vst vwa:Value}(hs:St H w σ)(h1:RI H vst s.st)(h2:RI H vwa s.wa)(hb:s.st.length≤1000∧s.wa.length≤1000):
  Cl Tryz.prog 97 [.agg #[I s.id,I s.src,vst,vwa,I s.al,I s.up]] w fun v w'=>v=I (s.many:Int)∧St H w' σ:=by
 obtain ⟨ast,cst,rfl⟩:=RI.shape h1
 obtain ⟨awa,cwa,rfl⟩:=RI.shape h2
 have hm:=lh (a:=(s.st.length:Int)) (b:=(s.wa.length:Int)) (A:=1000) (B:=1000) aj aj
 refine Cl.o Tryz.func97 Tryz.ntmps97 ag1 ?_
 refine .ai ?_
 refine .bx hs fun b1 w hs=>?_
 refine .z zg (.nil (.ai (.z (zfa bA) (.y hs (zld ak) (.z (c9 aa) (.z (zfa bj) (.y hs (zld ak) (.z (c9 aa) (.z ka ?_)))))))))
 refine .z zg (.nil ?_)
 refine .ret (Fin.bJ Tryz.results97 rfl ?_)
 exact ⟨by unfold Spc.many;rw [Int.natCast_mul],hs.out⟩
theorem dm{s:Spc}{vst vwa:Value}{a b:Int}(hs:St H w σ)(h2:RI H vwa s.wa)(hb:s.wa.length≤1000)(ha: -1000≤a∧a≤1000)(hb': -1000≤b∧b≤1000):
  Cl Tryz.prog 121 [.agg #[I s.id,I s.src,vst,vwa,I s.al,I s.up],I a,I b] w fun v w'=>v=I (1+a*s.wa.length+b)∧St H w' σ:=by
 obtain ⟨awa,cwa,rfl⟩:=RI.shape h2
 have hm:=lh (a:=a) (b:=(s.wa.length:Int)) (A:=1000) (B:=1000) aj aj
 refine Cl.o Tryz.func121 Tryz.ntmps121 ag3 ?_
 refine .ai ?_
 refine .bx hs fun b3 w hs=>?_
 refine .z zg (.nil (.ai (.z zm (.z (zfa bj) (.y hs (zld ak) (.z (c9 aa) (.z ka (.z cq (.z zm ?_)))))))))
 refine .z cq (.z zg (.nil ?_))
 refine .ret (Fin.bJ Tryz.results121 rfl ?_)
 exact ⟨rfl,hs.out⟩
theorem lW{a b:Int}(hs:St H w σ)(ha:0≤a∧a≤100000)(hb:0≤b∧b≤100000):
  Cl Tryz.prog 193 [I a,I b] w fun v w'=>v=I (kd a b)∧St H w' σ:=by
 have hm:=lh (a:=a) (b:=b) (A:=100000) (B:=100000) aj aj
 have h0:=Int.mul_nonneg ha.1 hb.1
 have hq0:0≤(a*b+999).tdiv 1000:=Int.tdiv_nonneg aj aj
 have hq1:(a*b+999).tdiv 1000≤a*b+999:=by rw [Int.tdiv_eq_ediv_of_nonneg aj];omega
 refine Cl.o Tryz.func193 Tryz.ntmps193 ag2 ?_
 refine .ai (.z zg (.nil (.ai (.z zm (.z zm (.z ka (.z cq ?_)))))))
 refine .q hs (uY rfl rfl aj aj) ?_
 refine .z As (.z zg (.nil ?_))
 refine .ret (Fin.bJ Tryz.results193 rfl ?_)
 exact ⟨rfl,hs⟩
theorem kI{a b m s:Int}(hs:St H w σ):
  Cl Tryz.prog 119 [I a,I b,I m,I s] w fun v w'=>∃b0,v= .slice (some ⟨b0,0,none⟩) 2 2∧St H w' (.blk b0 (gI (two a b m m s))::σ):=by
 refine Cl.o Tryz.func119 Tryz.ntmps119 ag4 ?_
 refine .ai (.z zg (.nil (.ai (.z zm (.z zm (.z zm (.z zm (.z (zbd [_,_,_,_] eR) (.z zm ?_)))))))))
 refine .z zm (.z zm (.z zm (.z (zbd [_,_,_,_] eR) ?_)))
 refine .o (.buildSlice (cells:=gI (two a b m m s)) hs fO rfl an fun b19 w hs=>?_)
 refine .z zg (.nil ?_)
 refine .ret (Fin.bJ Tryz.results119 rfl ?_)
 exact ⟨b19,rfl,hs⟩
theorem tn{c:Cmp}{t:TD}{f:Int}(hs:St H w σ)(hlo: -1000000≤c.lo∧c.lo≤1000000):
  Cl Tryz.prog 194 [.agg #[I c.src,I c.tape,I c.fr,I c.to,I c.lo,I c.hi],.agg #[I t.tape,I t.day],I f] w fun v w'=>∃en,cn 4 v (gI (lB c t f)) en∧St H w' (en::σ):=by
 refine Cl.o Tryz.func194 Tryz.ntmps194 ag3 ?_
 refine .ai ?_
 refine .bx hs fun b3 w hs=>?_
 refine .bx hs fun b4 w hs=>?_
 refine .z zg (.nil (.seq (.ai (.z (zfa iL) (.y hs (zld ae) (.z (zfa mR) (.y hs (zld ae) (.z ij (.z zm ?_)))))))))
 refine .yF (t':=12) rfl (fun hb12=>?_) (fun hb12=>?_)
 ·refine .gFs 5 5 false rfl rfl rfl ?_
  refine .z zpT (.z zm ?_)
  refine .gFs 5 12 false rfl rfl rfl ?_
  refine .z zpT (.nil ?_)
  refine (.cT ?_)
  refine .ai (.z zg (.nil ?_))
  refine .ret (rT (Fin.bJ Tryz.results194 rfl ?_))
  exact ⟨.nul,by unfold lB;rw [if_neg aj];exact .nil 4 none,hs.tail.tail.nul⟩
 ·refine .gT rfl rfl ?_
  refine .z (zfa ke) ?_
  refine .gT rfl rfl ?_
  refine .y hs (zld ae) ?_
  refine .gT rfl rfl ?_
  refine .z (zfa fG) ?_
  refine .gT rfl rfl ?_
  refine .y hs (zld ae) ?_
  refine .gT rfl rfl ?_
  refine .z gx (.z zpF (.z zm ?_))
  refine .iB (t':=19) rfl (fun hb19=>?_) (fun hb19=>?_)
  ·refine .gFs 5 12 false rfl rfl rfl ?_
   refine .z zpT (.nil ?_)
   refine (.cT ?_)
   refine .ai (.z zg (.nil ?_))
   refine .ret (rT (Fin.bJ Tryz.results194 rfl ?_))
   exact ⟨.nul,by unfold lB;rw [if_neg aj];exact .nil 4 none,hs.tail.tail.nul⟩
  ·refine .gT rfl rfl ?_
   refine .z (zfa ke) ?_
   refine .gT rfl rfl ?_
   refine .y hs (zld ae) ?_
   refine .gT rfl rfl ?_
   refine .z (zfa fi) ?_
   refine .gT rfl rfl ?_
   refine .y hs (zld ae) ?_
   refine .gT rfl rfl ?_
   refine .z kD (.z zpF (.nil ?_))
   refine (.bM rfl (fun hc25=>?_) (fun hc25=>?_))
   ·refine .ai (.z zg (.nil ?_))
    refine .ret (rT (Fin.bJ Tryz.results194 rfl ?_))
    exact ⟨.nul,by unfold lB;rw [if_neg aj];exact .nil 4 none,hs.tail.tail.nul⟩
   ·refine .skip ?_
    refine nT ?_
    refine .ai (.z zm (.z (zfa fh) (.y hs (zld ae) (.z uN (.z (zfa gL) (.y hs (zld ae) (.z (zbd [_,_,_,_] eR) (.z zm (.z (zfa fg) ?_)))))))))
    refine .y hs (zld ae) (.z (zfa gL) (.y hs (zld ae) (.z (zbd [_,_,_,_] eR) ?_)))
    refine .o (.buildSlice (cells:=gI (two 0 f (-c.lo) c.hi c.src)) hs fO rfl an fun b39 w hs=>?_)
    refine .z zg (.nil ?_)
    refine .ret (Fin.bJ Tryz.results194 rfl ?_)
    exact ⟨_,by unfold lB;rw [if_pos aj];exact .full (by simp [two,dM]),hs.sb⟩
theorem kc{v:Value}{xs:List TD}{t:TD}(hs:St H w σ)(hr:RTd H v xs)(hl:xs.length≤1000000):
  Cl Tryz.prog 93 [v,.agg #[I t.tape,I t.day]] w fun u w'=>u=I (ja xs t)∧St H w' σ:=by
 obtain ⟨a,c,rfl⟩:=RTd.shape hr
 refine Cl.o Tryz.func93 Tryz.ntmps93 ag2 ?_
 refine .ai ?_
 refine .bx hs fun b3 w hs=>?_
 refine .z zg (.nil (.seq (.ai (.z zg (.nil (.block ?_))))))
 refine .loop (fun k:Nat=>⟨19,[],[(5,I (k:Int)),(3,.pointer (some ⟨b3,0,none⟩)),(0,.slice a xs.length c)]⟩)
  (fun k w=>k≤xs.length∧(∀j<k,∀y,xs[j]? =some y→¬y=t)∧St H w (.blk b3 [I t.tape,I t.day]::σ)) (fun k=>xs.length - k) 0 (.cj rfl bV aR)
  ⟨Nat.zero_le _,fun j hj=>by omega,hs⟩ ?_
 rintro k w ⟨hk,hno,hs⟩
 refine .seq (.ai (.z zm (.z zm (.z (c9 bg) (.z gx (.nil ?_))))))
 refine (.bM rfl (fun hc9=>?_) (fun hc9=>?_))
 ·refine .skip ?_
  refine nT ?_
  refine .seq (.block ?_)
  refine .seq (.draw mix rfl hs fun w hs=>?_)
  refine .z 0 rfl zm ?_;refine .z 1 rfl zm ?_
  obtain ⟨x,hx⟩:=nth (l:=xs) (k:=k) aj
  refine .ixX (enc:=TD.c) (i:=2) hs rfl an .none hr rfl rfl bg bE hx dy ?_;intro b14 o14 hc14
  refine .r (i:=3) hs rfl an .none (cI (vs:=x.c) rfl dO bE hc14) ?_
  refine .ys 4 rfl hs [_,_] dO bE ?_
  refine .z 5 rfl (r6 pX pY gB (fun f hf=>by
   simp only [List.mem_cons,List.not_mem_nil,or_false] at hf
   rcases hf with rfl|rfl<;>exact ⟨by decide,bp,ae⟩) rfl rfl) ?_
  refine .D hs ?_
  refine (.cond rfl (fun hc17=>?_) (fun hc17=>?_))
  ·refine .ai (.z zm (.z zg (.nil ?_)))
   refine .ret (rB (rT (rT (rB (rT (Fin.bJ Tryz.results93 rfl ?_))))))
   have e:x=t:=AF.1 (of_decide_eq_true hc17)
   subst e
   exact ⟨by rw [nr hx fun j hj h=>hno j hj _ h rfl],hs.tail⟩
  ·refine .skip ?_
   refine nB (nT ?_)
   refine .region (.z zm (.z cq (.z zg (.nil ?_))))
   refine nT ?_
   exact ⟨k+1,.cj rfl bV aR,⟨aj,fw hno hx (fun e=>by subst e;simp at hc17),hs⟩,aj⟩
 ·refine .exit ?_
  refine xT (xT (xB (nT ?_)))
  refine .ai (.z zg (.nil ?_))
  refine .ret (Fin.bJ Tryz.results93 rfl ?_)
  obtain rfl:k=xs.length:=by omega
  exact ⟨by rw [sK hno],hs.tail⟩
theorem nv{v:Value}{en:Ent}{xs:List TD}{t:TD}(hs:St H w (en::σ))(hO:cn 2 v (tdc xs).flatten en)(hl:xs.length≤1000000):
  Cl Tryz.prog 93 [v,.agg #[I t.tape,I t.day]] w fun u w'=>u=I (ja xs t)∧St H w' (en::σ):=by
 obtain ⟨a,c,rfl⟩:=hO.iD (lC xs) aj
 rw [dA] at hO ⊢
 refine Cl.o Tryz.func93 Tryz.ntmps93 ag2 ?_
 refine .ai ?_
 refine .bx hs fun b3 w hs=>?_
 refine .z zg (.nil (.seq (.ai (.z zg (.nil (.block ?_))))))
 refine .loop (fun k:Nat=>⟨19,[],[(5,I (k:Int)),(3,.pointer (some ⟨b3,0,none⟩)),(0,.slice a xs.length c)]⟩)
  (fun k w=>k≤xs.length∧(∀j<k,∀y,xs[j]? =some y→¬y=t)∧St H w (.blk b3 [I t.tape,I t.day]::en::σ)) (fun k=>xs.length - k) 0 (.cj rfl bV aR)
  ⟨Nat.zero_le _,fun j hj=>by omega,hs⟩ ?_
 rintro k w ⟨hk,hno,hs⟩
 refine .seq (.ai (.z zm (.z zm (.z (c9 bg) (.z gx (.nil ?_))))))
 refine (.bM rfl (fun hc9=>?_) (fun hc9=>?_))
 ·refine .skip ?_
  refine nT ?_
  refine .seq (.block ?_)
  refine .seq (.draw mix rfl hs fun w hs=>?_)
  refine .z 0 rfl zm ?_;refine .z 1 rfl zm ?_
  obtain ⟨x,hx⟩:=nth (l:=xs) (k:=k) aj
  obtain ⟨b,c',sp,hv,rfl,_⟩:=hO.EA (lC xs) aj (by rw [dA];omega)
  rw [dA] at hv
  cases hv
  refine .z 2 rfl (ni bg bE) ?_
  refine .yu (i:=3) (vs:=x.c) hs rfl an .none rfl dO bE ?_ (hv:=u4 (lC xs) (yc hx) sp)
  refine .ys 4 rfl hs [_,_] dO bE ?_
  refine .z 5 rfl (r6 pX pY gB (fun f hf=>by
   simp only [List.mem_cons,List.not_mem_nil,or_false] at hf
   rcases hf with rfl|rfl<;>exact ⟨by decide,bp,ae⟩) rfl rfl) ?_
  refine .D hs ?_
  refine (.cond rfl (fun hc17=>?_) (fun hc17=>?_))
  ·refine .ai (.z zm (.z zg (.nil ?_)))
   refine .ret (rB (rT (rT (rB (rT (Fin.bJ Tryz.results93 rfl ?_))))))
   have e:x=t:=AF.1 (of_decide_eq_true hc17)
   subst e
   exact ⟨by rw [nr hx fun j hj h=>hno j hj _ h rfl],hs.tail⟩
  ·refine .skip ?_
   refine nB (nT ?_)
   refine .region (.z zm (.z cq (.z zg (.nil ?_))))
   refine nT ?_
   exact ⟨k+1,.cj rfl bV aR,⟨aj,fw hno hx (fun e=>by subst e;simp at hc17),hs⟩,aj⟩
 ·refine .exit ?_
  refine xT (xT (xB (nT ?_)))
  refine .ai (.z zg (.nil ?_))
  refine .ret (Fin.bJ Tryz.results93 rfl ?_)
  obtain rfl:k=xs.length:=by omega
  exact ⟨by rw [sK hno],hs.tail⟩
set_option maxHeartbeats 1000000 in
theorem gJ{vr:Value}{rs:List Rdg}(hs:St H w σ)(hr:RRd H vr rs)(hl:rs.length≤1000000):
  Cl Tryz.prog 94 [vr] w fun u w'=>∃H1,HLe H H1∧RTd H1 u (bn rs)∧St H1 w' σ:=by
 obtain ⟨ar,cr,rfl⟩:=RRd.shape hr
 refine Cl.o Tryz.func94 Tryz.ntmps94 ag1 ?_
 refine .ai (.z zg (.nil (.ai (.z zg (.nil (.seq (.ai (.z zg (.nil ?_)))))))))
 refine .block ?_
 refine .loop (fun p:Nat×Value=>⟨32,[],[(4,I (p.1:Int)),(3,p.2),(0,.slice ar rs.length cr)]⟩)
  (fun p w=>p.1≤rs.length∧∃en,cn 2 p.2 (tdc (bn (rs.take p.1))).flatten en∧St H w (en::σ)) (fun p=>rs.length - p.1) (0,.slice none 0 0) aR
  ⟨Nat.zero_le _,_,.nil 2 none,hs.nul⟩ ?_
 rintro ⟨k,vo⟩ w ⟨hk,en,hO,hs⟩
 dsimp only at hk hO ⊢
 have htl:=kH rs k aj
 obtain ⟨ao,co,rfl⟩:=hO.iD (lC _) aj
 rw [dA] at hO ⊢
 refine .seq (.ai (.z zm (.z zm (.z (c9 az) (.z gx (.nil ?_))))))
 refine (.bM rfl (fun hc9=>?_) (fun hc9=>?_))
 ·refine .skip ?_
  refine nT ?_
  refine .seq (.block ?_)
  refine .seq (.draw mix rfl hs fun w hs=>?_)
  refine .z 0 rfl zm ?_;refine .z 1 rfl zm ?_
  obtain ⟨r,hx⟩:=nth (l:=rs) (k:=k) aj
  have htk:=jO hx
  refine .ixX (enc:=Rdg.c) (i:=2) hs rfl an .none hr rfl rfl az aH hx dy ?_;intro b14 o14 hc14
  have d14:cellAt H b14 (o14+5)=some (I r.tape):=hc14 5 _ rfl
  refine .z 3 rfl (zfa eF) ?_;refine .y 4 rfl hs ae ?_;refine .z 5 rfl zm ?_;refine .z 6 rfl zm ?_
  refine .ixX (enc:=Rdg.c) (i:=7) hs rfl an .none hr rfl rfl az aH hx dy ?_;intro b19 o19 hc19
  have d19:cellAt H b19 (o19+6)=some (I r.day):=hc19 6 _ rfl
  refine .z 8 rfl (zfa eE) ?_;refine .y 9 rfl hs ae ?_;refine .z 10 rfl (zbd [_,_] gv) ?_
  refine .E 11 hs ?_
  refine .alloc hs lI rfl ?_;intro b5 w hs
  refine .go ?_
  refine .E 12 hs ?_
  refine .aU (vs:=[_,_]) hs rfl rfl bE ?_;intro w hs
  refine .go ?_
  refine .D hs ?_
  refine .ai (.z zm (.y hs (zls [_,_] dO bE) ?_))
  refine .o (.call Tryz.call93 rfl (nv (t:=r.td) (hs.sb:St H w (en:: .blk b5 [I r.tape,I r.day]::σ)) hO aj) ?_);rintro _ w ⟨rfl,hs⟩
  have hnn:=kY (l:=bn (rs.take k)) (t:=r.td)
  refine .z gx (.nil ?_)
  refine (.bM rfl (fun hc26=>?_) (fun hc26=>?_))
  ·refine .region (.z zm (.y hs (zls [_,_] dO bE) ?_))
   refine .o (.buildSlice (cells:=[_,_]) hs fZ rfl rfl fun b29 w hs=>?_)
   refine .o (.append (ys:=r.td.c) hs dV rfl rfl hO (.own .here rfl rfl) (by simp [TD.c,Value.oneCell']) (fun l h=>by rw [bT _ (lC _),dA] at h;omega) ?_);intro v30 en30 w hO2 hs
   refine .z zg (.nil ?_)
   refine nB (nT ?_)
   refine .region (.z zm (.z cq (.z zg (.nil ?_))))
   refine nT ?_
   have hn:r.td∉bn (rs.take k):=fun hm=>by have:=hnn.2 hm;omega
   rw [←sJ,show bn (rs.take k)++[r.td]=bn (rs.take (k+1)) by rw [htk];unfold qQ;rw [if_neg hn]] at hO2
   exact ⟨(k+1,v30),.cj rfl bV aR,⟨by dsimp only;omega,_,hO2,hs.sb⟩,by dsimp only;omega⟩
  ·refine .skip ?_
   refine nB (nT ?_)
   refine .region (.z zm (.z cq (.z zg (.nil ?_))))
   refine nT ?_
   have hm:r.td∈bn (rs.take k):=hnn.1 aj
   exact ⟨(k+1,_),.cj rfl bV aR,⟨by dsimp only;omega,en,by dsimp only;rw [htk];unfold qQ;rw [if_pos hm];exact hO,hs.sb⟩,by dsimp only;omega⟩
 ·refine .exit ?_
  refine xT (xT (xB (nT ?_)))
  refine .ai (.z zm (.z zg (.nil ?_)))
  refine .ret (Fin.bJ Tryz.results94 rfl ?_)
  obtain rfl:k=rs.length:=by omega
  rw [List.take_length] at hO
  have htl:=dq rs
  obtain ⟨H2,hle2,hR,hs⟩:=cn.cK (m:=2) (cs:=tdc (bn rs)) hO (lC _) aj (by rw [dA];omega) hs .here
  rw [List.take_length]
  exact ⟨H2,hle2,hR,hs⟩
end Go.Proofs.YtddaejgfjlneoaaGreat
