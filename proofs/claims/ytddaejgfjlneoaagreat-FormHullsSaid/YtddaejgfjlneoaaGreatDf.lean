/-
  Texts of these claims, joined: Ng Nh Ni Nj Nk.
-/
import Derived.Test.YtddaejgfjlneoaaGreatDe
namespace Go.Proofs.YtddaejgfjlneoaaGreat
open Go.MW
variable{H:cE}{w:World}{σ:List Ent}
theorem lG{v:Value}{xs:List Int}{en:Ent}(hs:St H w (en::σ))(hO:cz 1 v (Is xs) en)(hl:xs.length≤17592186044416):
  Cl Tryz.prog 138 [v] w fun u w'=>∃en',u= .tuple #[]∧cz 1 v (Is (xs.mergeSort fun x y=>decide (x≤y))) en'∧St H w' (en'::σ):=by
 rcases hO with ⟨a,rfl,h0,rfl⟩|⟨b,len,cap,sp,rfl,rfl,h3,h4,h5⟩
 ·obtain rfl:xs=[]:=by simpa using h0
  exact (mB hs).mono fun u w' ⟨h,hs⟩=>⟨.nul,h,by simpa using cz.nil 1 a,hs⟩
 ·obtain rfl:len=xs.length:=by simpa using h3.symm
  exact (nj hs hl).mono fun u w' ⟨h,hs⟩=>⟨_,h,.inr ⟨b,_,cap,sp,rfl,rfl,bQ,by simpa using h4,h5⟩,hs⟩
theorem jF{v:Value}{xs:List Int}{en:Ent}(hs:St H w (en::σ))(hO:cz 1 v (Is xs) en)(hl:xs.length≤17592186044416):
  Cl Tryz.prog 139 [v] w fun u w'=>∃en',cz 1 u (Is (Go.Lib.compact xs)) en'∧St H w' (en'::σ):=by
 rcases hO with ⟨a,rfl,h0,rfl⟩|⟨b,len,cap,sp,rfl,rfl,h3,h4,h5⟩
 ·obtain rfl:xs=[]:=by simpa using h0
  exact (kK hs).mono fun u w' ⟨h,hs⟩=>⟨.nul,by rw [h];exact .nil 1 a,hs⟩
 ·obtain rfl:len=xs.length:=by simpa using h3.symm
  have hcl:=Go.Lib.compact_length_le xs
  have h4':xs.length+sp.length=cap:=by simpa using h4
  exact (lk hs hl h5).mono fun u w' ⟨h,hs⟩=>⟨_,.inr ⟨b,_,cap,Is (List.replicate (xs.length - (Go.Lib.compact xs).length) 0)++sp,h,rfl,bQ,by simp;omega,ak⟩,hs⟩
set_option maxHeartbeats 1000000 in
theorem jV{s:Srv}{vst vwa vr vc:Value}(hs:St H w σ)(h3:RRd H vr s.rs)(h4:RCm H vc s.cs)(l3:s.rs.length≤1000000)(l4:s.cs.length≤1000000):
  Cl Tryz.prog 137 [.agg #[I s.sp.id,I s.sp.src,vst,vwa,I s.sp.al,I s.sp.up,vr,vc]] w fun u w'=>∃L en,cz 1 u (Is L) en∧L.length≤s.rs.length+s.cs.length∧hZ s.Src L∧St H w' (en::σ):=by
 obtain ⟨ar,cr,rfl⟩:=RRd.shape h3
 obtain ⟨ac,cc,rfl⟩:=RCm.shape h4
 refine Cl.o Tryz.func137 Tryz.ntmps137 ag1 ?_
 refine .aj ?_
 refine .bx hs fun b1 w hs=>?_
 refine .z zg (.nil (.aj (.z zg (.nil (.seq (.aj (.z (zfa aI) (.y hs (zld aU) (.z (cN aA) ?_)))))))))
 refine .z zm (.nil ?_)
 refine .for (N:=s.rs.length) (J:=fun k fr w=>∃v3 en,cz 1 v3 (Is ((s.rs.take k).map Rdg.src)) en∧fr=[(3,v3),(9,.slice ar s.rs.length cr),(1,.pointer (some ⟨b1,0,none⟩))]∧St H w (en:: .blk b1 [I s.sp.id,I s.sp.src,vst,vwa,I s.sp.al,I s.sp.up,.slice ar s.rs.length cr,.slice ac s.cs.length cc]::σ)) ak ?_ ?_ ?_
 ·exact .mk ⟨_,_,.nil 1 none,rfl,hs.nul.sb⟩
 ·rintro k fr w hk ⟨v3,en,hO,rfl,hs⟩
  obtain ⟨x,hx⟩:=nth (l:=s.rs) hk
  obtain ⟨a3,l3',c3,rfl,h3'⟩:=hO.shape
  refine .block (.aj ?_)
  refine .ixX (enc:=Rdg.c) hs h3 rfl rfl aA aE hx rfl ?_;intro b13 o13 hc13
  refine .q hs (cj (vs:=x.c) rfl bZ aE hc13) ?_
  refine .o (.alloc hs eE rfl fun b5 w hs=>?_)
  refine .o (.aZ (vs:=x.c) hs rfl rfl aE fun w hs=>?_)
  refine .nil (.region (.z zm (.z (zfa dU) (.y hs (zld af) ?_))))
  refine .o (.buildSlice (cells:=[_]) hs bX rfl rfl fun b18 w hs=>?_)
  refine .o (.append (ys:=Is [x.src]) hs bg rfl rfl hO (.own .here rfl rfl) (dM _) (fun l' h=>by simp at h;omega) ?_);intro v19 en19 w hO2 hs
  rw [←List.map_append] at hO2
  refine .z zg (.nil ?_)
  refine nB (nT ?_)
  exact .mk ⟨_,_,by rw [df hx,List.map_append];exact hO2,rfl,hs.sb⟩
 ·rintro fr w ⟨v3,en,hO,rfl,hs⟩
  rw [List.take_length] at hO
  refine nT ?_
  refine .seq (.aj (.z (zfa bq) (.y hs (zld cB) (.z (cN aN) (.z zm (.nil ?_))))))
  refine .for (N:=s.cs.length) (J:=fun k fr w=>∃v3 en,cz 1 v3 (Is (s.rs.map Rdg.src++(s.cs.take k).map Cmp.src)) en∧fr=[(3,v3),(22,.slice ac s.cs.length cc),(1,.pointer (some ⟨b1,0,none⟩))]∧St H w (en:: .blk b1 [I s.sp.id,I s.sp.src,vst,vwa,I s.sp.al,I s.sp.up,.slice ar s.rs.length cr,.slice ac s.cs.length cc]::σ)) ak ?_ ?_ ?_
  ·exact .mk ⟨_,_,by simpa using hO,rfl,hs⟩
  ·rintro k fr w hk ⟨v3,en,hO,rfl,hs⟩
   obtain ⟨x,hx⟩:=nth (l:=s.cs) hk
   obtain ⟨a3,l3',c3,rfl,h3'⟩:=hO.shape
   refine .block (.aj ?_)
   refine .ixX (enc:=Cmp.c) hs h4 rfl rfl aN bB hx rfl ?_;intro b26 o26 hc26
   refine .q hs (cj (vs:=x.c) rfl kq bB hc26) ?_
   refine .o (.alloc hs kG rfl fun b7 w hs=>?_)
   refine .o (.aZ (vs:=x.c) hs rfl rfl bB fun w hs=>?_)
   refine .nil (.region (.z zm (.z (zfa fi) (.y hs (zld af) ?_))))
   refine .o (.buildSlice (cells:=[_]) hs bX rfl rfl fun b31 w hs=>?_)
   refine .o (.append (ys:=Is [x.src]) hs bg rfl rfl hO (.own .here rfl rfl) (dM _) (fun l' h=>by simp at h;omega) ?_);intro v32 en32 w hO2 hs
   rw [←List.map_append] at hO2
   refine .z zg (.nil ?_)
   refine nB (nT ?_)
   exact .mk ⟨_,_,by rw [df hx,List.map_append,←List.append_assoc];exact hO2,rfl,hs.sb⟩
  ·rintro fr w ⟨v3,en,hO,rfl,hs⟩
   rw [List.take_length] at hO
   have hlen:(s.rs.map Rdg.src++s.cs.map Cmp.src).length=s.rs.length+s.cs.length:=by simp
   refine nT ?_
   refine .aj (.z zm ?_)
   refine .o (.call Hh rfl (lG hs hO ak) ?_);rintro _ w ⟨en2,rfl,hO2,hs⟩
   have hml:((s.rs.map Rdg.src++s.cs.map Cmp.src).mergeSort fun x y=>decide (x≤y)).length=s.rs.length+s.cs.length:=by rw [List.length_mergeSort,hlen]
   refine .nil (.aj (.z zm ?_))
   refine .o (.call Hg rfl (jF hs hO2 ak) ?_);rintro v37 w ⟨en3,hO3,hs⟩
   have hcl:=Go.Lib.compact_length_le ((s.rs.map Rdg.src++s.cs.map Cmp.src).mergeSort fun x y=>decide (x≤y))
   refine .z zg (.nil ?_)
   refine .ret (Fin.bK Tryz.results137 rfl ?_)
   exact ⟨_,en3,hO3,ak,ml.congr fun x=>EN,hs.sb⟩
set_option maxHeartbeats 1000000 in
theorem oB{s:Srv}{vst vwa vr vc:Value}(hs:St H w σ)(h1:RI H vst s.sp.st)(h2:RI H vwa s.sp.wa)(h3:RRd H vr s.rs)(h4:RCm H vc s.cs):
  Cl Tryz.prog 55 [.agg #[I s.sp.id,I s.sp.src,vst,vwa,I s.sp.al,I s.sp.up,vr,vc]] w fun u w'=>∃H1 vx L e,HLe H H1∧u= .tuple #[vx,I e]∧RI H1 vx L∧L.length≤s.rs.length+s.cs.length+1∧zn s L e∧St H1 w' σ:=by
 refine Cl.o Tryz.func55 Tryz.ntmps55 ag1 ?_
 refine .aj ?_
 refine .bx hs fun b1 w hs=>?_
 refine .z zg (.z zg (.nil (.seq (.aj (.y hs (zls [_,_,_,_,_,_,_,_] aD az) ?_)))))
 refine .o (.call jQ rfl (dp (s:=s) hs h1 h2 h3 h4) ?_);rintro _ w ⟨H1,e,hle1,rfl,hC,hs⟩
 refine .z zg (.nil (.aj (.z zm (.z gP (.nil ?_)))))
 refine (.eI rfl (fun hc9=>?_) (fun hc9=>?_))
 ·refine .aj (.z zm (.z zg (.z zg (.nil ?_))))
  refine .ret (rT (Fin.jx Tryz.results55 rfl rfl ?_))
  exact ⟨H1,_,[],_,hle1,rfl,RS.nil H1 1 none 0,bQ,.bad hC hc9 rfl,hs.out⟩
 ·refine .skip ?_
  refine nT ?_
  refine .seq (.draw mix rfl hs fun w hs=>?_)
  refine .ys 0 rfl hs [_,_,_,_,_,_,_,_] aD az ?_;refine .z 2 rfl (zfa aJ) ?_;refine .z 3 rfl (zfa cQ) ?_;refine .y 4 rfl hs af ?_
  refine .e2 (i:=1) (j:=5) aq rfl rfl rfl rfl .none .none hs ?_ ?_
  ·have hok:eD s:=hC.cD.1 (by simpa using hc9)
   have hrl:=hok.early.2.1
   have hcl:=hok.early.2.2.1
   refine .call Tryz.call137 rfl (jV (s:=s) hs (h3.mono hle1) (h4.mono hle1) ak ak) ?_;rintro v12 w ⟨L,en,hO,hLl,hR,hs⟩
   obtain ⟨a12,c12,rfl⟩:=hO.kL
   refine .go ?_
   refine .E 5 hs ?_
   refine .buildSlice (cells:=Is [s.sp.src]) hs bX rfl rfl ?_;intro b16 w hs
   refine .go ?_
   refine .E 6 hs ?_
   refine .append (ys:=Is [s.sp.src]) hs bg rfl rfl hO (.own (c:=Is [s.sp.src]) (by first|exact .here|exact .there .here|exact .there (.there .here)) rfl rfl) (dM _) (fun l' h=>by simp at h;omega) ?_;intro v17 en17 w hO2 hs
   rw [←List.map_append] at hO2
   have hlen:(L++[s.sp.src]).length=L.length+1:=by simp
   refine .go ?_
   refine .z 7 rfl zg ?_;refine .D hs ?_
   refine .aj (.z zm ?_)
   refine .o (.call Hh rfl (lG hs hO2 ak) ?_);rintro _ w ⟨en3,rfl,hO3,hs⟩
   have hml:((L++[s.sp.src]).mergeSort fun x y=>decide (x≤y)).length=L.length+1:=by rw [List.length_mergeSort,hlen]
   refine .nil (.aj (.z zm ?_))
   refine .o (.call Hg rfl (jF hs hO3 ak) ?_);rintro v21 w ⟨en4,hO4,hs⟩
   have hcl2:=Go.Lib.compact_length_le ((L++[s.sp.src]).mergeSort fun x y=>decide (x≤y))
   refine .z zg (.z zg (.nil ?_))
   refine .ret (Fin.jx Tryz.results55 rfl rfl ?_)
   obtain ⟨H2,g1,r1,hs⟩:=cz.cK hO4 ak hs cU
   exact ⟨H2,_,_,0,hle1.trans g1,rfl,r1,ak,.ok hok (ml.congr fun x=>by rw [List.mem_append,List.mem_singleton,hR.mem]),hs.out⟩
  ·refine .buildSlice (cells:=Is [s.sp.src]) hs bX rfl rfl ?_;intro b16 w hs
   refine .go ?_
   refine .E 1 hs ?_
   have hok:eD s:=hC.cD.1 (by simpa using hc9)
   have hrl:=hok.early.2.1
   have hcl:=hok.early.2.2.1
   refine .call Tryz.call137 rfl (jV (s:=s) hs (h3.mono hle1) (h4.mono hle1) ak ak) ?_;rintro v12 w ⟨L,en,hO,hLl,hR,hs⟩
   obtain ⟨a12,c12,rfl⟩:=hO.kL
   refine .go ?_
   refine .E 6 hs ?_
   refine .append (ys:=Is [s.sp.src]) hs bg rfl rfl hO (.own (c:=Is [s.sp.src]) (by first|exact .here|exact .there .here|exact .there (.there .here)) rfl rfl) (dM _) (fun l' h=>by simp at h;omega) ?_;intro v17 en17 w hO2 hs
   rw [←List.map_append] at hO2
   have hlen:(L++[s.sp.src]).length=L.length+1:=by simp
   refine .go ?_
   refine .z 7 rfl zg ?_;refine .D hs ?_
   refine .aj (.z zm ?_)
   refine .o (.call Hh rfl (lG hs hO2 ak) ?_);rintro _ w ⟨en3,rfl,hO3,hs⟩
   have hml:((L++[s.sp.src]).mergeSort fun x y=>decide (x≤y)).length=L.length+1:=by rw [List.length_mergeSort,hlen]
   refine .nil (.aj (.z zm ?_))
   refine .o (.call Hg rfl (jF hs hO3 ak) ?_);rintro v21 w ⟨en4,hO4,hs⟩
   have hcl2:=Go.Lib.compact_length_le ((L++[s.sp.src]).mergeSort fun x y=>decide (x≤y))
   refine .z zg (.z zg (.nil ?_))
   refine .ret (Fin.jx Tryz.results55 rfl rfl ?_)
   obtain ⟨H2,g1,r1,hs⟩:=cz.cK hO4 ak hs cU
   exact ⟨H2,_,_,0,hle1.trans g1,rfl,r1,ak,.ok hok (ml.congr fun x=>by rw [List.mem_append,List.mem_singleton,hR.mem]),hs.out⟩
set_option maxHeartbeats 1000000 in
theorem lJ{v:Value}{ls:List Int}{n:Int}{S:Int→Prop}(hs:St H w σ)(hr:RI H v ls)(hR:hZ S ls)(hlen:ls.length≤17592186044000):
  Cl Tryz.prog 140 [v,I n] w fun u w'=>∃H1 L,HLe H H1∧RI H1 u L∧hZ (fun x=>S x∨x=n) L∧L.length≤ls.length+1∧St H1 w' σ:=by
 obtain ⟨a,c,rfl⟩:=RI.shape hr
 have hcap:=RI.len hr
 refine Cl.o Tryz.func140 Tryz.ntmps140 ag2 ?_
 refine .aj (.z zg (.nil (.aj (.z zg (.nil ?_)))))
 refine .cut (fun fs w=>∃t:Nat,kB fs ⟨45,[],[(5,I (t:Int)),(1,I n),(0,.slice a ls.length c)]⟩∧t≤ls.length∧(∀j,t≤j→j<ls.length→n≤gi ls j)∧(∀j<t,j<ls.length→gi ls j<n)∧St H w σ) ?_ ?_
 ·refine .block ?_
  refine .loop (fun t:Nat=>⟨45,[],[(5,I (t:Int)),(1,I n),(0,.slice a ls.length c)]⟩)
   (fun t w=>t≤ls.length∧(∀j<t,gi ls j<n)∧St H w σ) (fun t=>ls.length - t) 0 a8 ⟨Nat.zero_le _,fun j hj=>by omega,hs⟩ ?_
  clear hs
  rintro t w ⟨ht,hlt,hs⟩
  refine .seq (.aj (.z zm (.z zm (.z (cN ae) (.z fD (.z zm ?_))))))
  refine .iB (t':=10) rfl (fun hb10=>?_) (fun hb10=>?_)
  ·refine .gT rfl rfl ?_
   refine .z zm ?_
   refine .gT rfl rfl ?_
   refine .z zm ?_
   refine .gT rfl rfl ?_
   refine .ixY hs hr rfl rfl ae ai (bE (l:=ls) (i:=t) ak) cJ ?_;intro b13 o13 hc13
   refine .gT rfl rfl ?_
   refine .q hs (aO rfl af hc13) ?_
   refine .gT rfl rfl ?_
   refine .z zm ?_
   refine .gT rfl rfl ?_
   refine .z fD (.z zpT (.nil ?_))
   refine (.bJ rfl (fun hc17=>?_) (fun hc17=>?_))
   ·refine .skip ?_
    refine nT ?_
    refine .block (.region (.z zm (.z cH (.z zg (.nil ?_)))))
    refine nB (nT ?_)
    exact ⟨t+1,.cn rfl ak a8,⟨ak,fun j h1=>by
     by_cases e:j=t
     ·subst e;omega
     ·exact hlt j ak,hs⟩,ak⟩
   ·refine .exit ?_
    refine xT (xT (xB (nT ?_)))
    exact ⟨t,a8,ht,fun j h1 h2=>by
     by_cases e:j=t
     ·subst e;omega
     ·have:=pj hR (i:=t) (j:=j) ak h2;omega,fun j h1 _=>hlt j h1,hs⟩
  ·refine .gFs 6 4 true rfl rfl rfl ?_
   refine .z zpF (.nil ?_)
   refine (.cF ?_)
   refine .exit ?_
   refine xT (xT (xB (nT ?_)))
   exact ⟨t,a8,ht,fun j h1 h2=>by omega,fun j h1 _=>hlt j h1,hs⟩
 ·rintro fs w ⟨t,hfs,ht,hge,hlt,hs⟩
  refine WE.sub ?_ hfs
  refine .seq (.aj (.z zm (.z zm (.z (cN ae) (.z fD (.z zm ?_))))))
  refine .iB (t':=24) rfl (fun hb24=>?_) (fun hb24=>?_)
  ·refine .gT rfl rfl ?_
   refine .z zm ?_
   refine .gT rfl rfl ?_
   refine .z zm ?_
   refine .gT rfl rfl ?_
   refine .ixY hs hr rfl rfl ae ai (bE (l:=ls) (i:=t) ak) cJ ?_;intro b27 o27 hc27
   refine .gT rfl rfl ?_
   refine .q hs (aO rfl af hc27) ?_
   refine .gT rfl rfl ?_
   refine .z zm ?_
   refine .gT rfl rfl ?_
   refine .z fw (.z zpT (.nil ?_))
   refine (.bJ rfl (fun hc31=>?_) (fun hc31=>?_))
   ·refine .aj (.z zm (.z zg (.nil ?_)))
    refine .ret (rT (Fin.bK mN rfl ?_))
    exact ⟨H,ls,HLe.refl H,hr,hR.congr fun x=>⟨.inl,fun h=>h.elim id fun e=>by
     subst e
     rw [←hc31]
     exact (hR.mem _).1 (List.mem_of_getElem? (bE ak))⟩,ak,hs⟩
   ·refine .skip ?_
    refine nT ?_
    refine .seq (.draw mix rfl hs fun w hs=>?_)
    refine .z 1 rfl zm ?_;refine .z 2 rfl zm ?_
    refine .z 3 rfl (kM (k:=t) rfl rfl ae ai rfl ak) ?_
    refine .z 5 rfl zm ?_;refine .z 8 rfl zm ?_;refine .z 9 rfl zm ?_
    refine .z 10 rfl (qf (k:=t) rfl rfl ae ai ak ak) ?_
    refine .e2 (i:=0) (j:=6) aq rfl rfl rfl rfl .none .none hs ?_ ?_
    ·refine .buildSlice (cells:=[]) hs fT rfl rfl ?_;intro b33 w hs
     refine .go ?_
     refine .e2 (i:=4) (j:=6) aq rfl rfl rfl rfl .none .none hs ?_ ?_
     ·refine .append (xs:=[]) (ys:=Is (ls.take t)) hs bg rfl rfl (.full (len:=0) rfl) (.ints (RI.head hr (k:=t) ht)) (dM _) (fun l h=>by simp at h;rw [List.length_take];omega) ?_;intro v37 en37 w hO1 hs
      rw [List.nil_append] at hO1
      obtain ⟨a37,l37,c37,rfl,h37⟩:=hO1.shape
      refine .go ?_
      refine .E 6 hs ?_
      refine .buildSlice (cells:=Is [n]) hs bX rfl rfl ?_;intro b39 w hs
      refine .go ?_
      refine .E 7 hs ?_
      refine .append (ys:=Is [n]) hs bg rfl rfl hO1 (.own (c:=Is [n]) (by first|exact .here|exact .there .here|exact .there (.there .here)) rfl rfl) (dM _) (fun l h=>by simp at h;omega) ?_;intro v40 en40 w hO2 hs
      rw [←List.map_append] at hO2
      obtain ⟨a40,l40,c40,rfl,h40⟩:=hO2.shape
      refine .go ?_
      refine .E 11 hs ?_
      refine .append (ys:=Is (ls.drop t)) hs bg rfl rfl hO2 (.ints (RI.tail hr (k:=t) ht)) (dM _) (fun l h=>by simp at h;rw [List.length_drop];omega) ?_;intro v44 en44 w hO3 hs
      rw [←List.map_append,List.append_assoc,List.singleton_append] at hO3
      refine .go ?_
      refine .z 12 rfl zg ?_;refine .D hs ?_
      refine .ret (Fin.bK mN rfl ?_)
      have hfin:¬(t<ls.length∧gi ls t=n):=fun h=>by first|omega|(exact hc31 h.2)
      have hR3:=hR.put (k:=t) (z:=n) (nY hlt) (oo fun j h1 h2=>by
       have h3:=hge j h1 h2
       by_cases e:j=t
       ·subst e;omega
       ·have:=pj hR (i:=t) (j:=j) ak h2
        have:=hge t (Nat.le_refl _) ak
        omega)
      obtain ⟨H1,g1,r1,hs⟩:=cz.cK hO3 (by simp;omega) hs cU
      exact ⟨H1,_,g1,r1,hR3,by simp;omega,hs.out⟩
     ·refine .buildSlice (cells:=Is [n]) hs bX rfl rfl ?_;intro b39 w hs
      refine .go ?_
      refine .E 4 hs ?_
      refine .append (xs:=[]) (ys:=Is (ls.take t)) hs bg rfl rfl (.full (len:=0) rfl) (.ints (RI.head hr (k:=t) ht)) (dM _) (fun l h=>by simp at h;rw [List.length_take];omega) ?_;intro v37 en37 w hO1 hs
      rw [List.nil_append] at hO1
      obtain ⟨a37,l37,c37,rfl,h37⟩:=hO1.shape
      refine .go ?_
      refine .E 7 hs ?_
      refine .append (ys:=Is [n]) hs bg rfl rfl hO1 (.own (c:=Is [n]) (by first|exact .here|exact .there .here|exact .there (.there .here)) rfl rfl) (dM _) (fun l h=>by simp at h;omega) ?_;intro v40 en40 w hO2 hs
      rw [←List.map_append] at hO2
      obtain ⟨a40,l40,c40,rfl,h40⟩:=hO2.shape
      refine .go ?_
      refine .E 11 hs ?_
      refine .append (ys:=Is (ls.drop t)) hs bg rfl rfl hO2 (.ints (RI.tail hr (k:=t) ht)) (dM _) (fun l h=>by simp at h;rw [List.length_drop];omega) ?_;intro v44 en44 w hO3 hs
      rw [←List.map_append,List.append_assoc,List.singleton_append] at hO3
      refine .go ?_
      refine .z 12 rfl zg ?_;refine .D hs ?_
      refine .ret (Fin.bK mN rfl ?_)
      have hfin:¬(t<ls.length∧gi ls t=n):=fun h=>by first|omega|(exact hc31 h.2)
      have hR3:=hR.put (k:=t) (z:=n) (nY hlt) (oo fun j h1 h2=>by
       have h3:=hge j h1 h2
       by_cases e:j=t
       ·subst e;omega
       ·have:=pj hR (i:=t) (j:=j) ak h2
        have:=hge t (Nat.le_refl _) ak
        omega)
      obtain ⟨H1,g1,r1,hs⟩:=cz.cK hO3 (by simp;omega) hs cU
      exact ⟨H1,_,g1,r1,hR3,by simp;omega,hs.out⟩
    ·refine .buildSlice (cells:=Is [n]) hs bX rfl rfl ?_;intro b39 w hs
     refine .go ?_
     refine .E 0 hs ?_
     refine .buildSlice (cells:=[]) hs fT rfl rfl ?_;intro b33 w hs
     refine .go ?_
     refine .E 4 hs ?_
     refine .append (xs:=[]) (ys:=Is (ls.take t)) hs bg rfl rfl (.full (len:=0) rfl) (.ints (RI.head hr (k:=t) ht)) (dM _) (fun l h=>by simp at h;rw [List.length_take];omega) ?_;intro v37 en37 w hO1 hs
     rw [List.nil_append] at hO1
     obtain ⟨a37,l37,c37,rfl,h37⟩:=hO1.shape
     refine .go ?_
     refine .E 7 hs ?_
     refine .append (ys:=Is [n]) hs bg rfl rfl hO1 (.own (c:=Is [n]) (by first|exact .here|exact .there .here|exact .there (.there .here)) rfl rfl) (dM _) (fun l h=>by simp at h;omega) ?_;intro v40 en40 w hO2 hs
     rw [←List.map_append] at hO2
     obtain ⟨a40,l40,c40,rfl,h40⟩:=hO2.shape
     refine .go ?_
     refine .E 11 hs ?_
     refine .append (ys:=Is (ls.drop t)) hs bg rfl rfl hO2 (.ints (RI.tail hr (k:=t) ht)) (dM _) (fun l h=>by simp at h;rw [List.length_drop];omega) ?_;intro v44 en44 w hO3 hs
     rw [←List.map_append,List.append_assoc,List.singleton_append] at hO3
     refine .go ?_
     refine .z 12 rfl zg ?_;refine .D hs ?_
     refine .ret (Fin.bK mN rfl ?_)
     have hfin:¬(t<ls.length∧gi ls t=n):=fun h=>by first|omega|(exact hc31 h.2)
     have hR3:=hR.put (k:=t) (z:=n) (nY hlt) (oo fun j h1 h2=>by
      have h3:=hge j h1 h2
      by_cases e:j=t
      ·subst e;omega
      ·have:=pj hR (i:=t) (j:=j) ak h2
       have:=hge t (Nat.le_refl _) ak
       omega)
     obtain ⟨H1,g1,r1,hs⟩:=cz.cK hO3 (by simp;omega) hs cU
     exact ⟨H1,_,g1,r1,hR3,by simp;omega,hs.out⟩
  ·refine .gFs 6 4 true rfl rfl rfl ?_
   refine .z zpF (.nil ?_)
   refine (.cF ?_)
   refine .skip ?_
   refine nT ?_
   refine .seq (.draw mix rfl hs fun w hs=>?_)
   refine .z 1 rfl zm ?_;refine .z 2 rfl zm ?_
   refine .z 3 rfl (kM (k:=t) rfl rfl ae ai rfl ak) ?_
   refine .z 5 rfl zm ?_;refine .z 8 rfl zm ?_;refine .z 9 rfl zm ?_
   refine .z 10 rfl (qf (k:=t) rfl rfl ae ai ak ak) ?_
   refine .e2 (i:=0) (j:=6) aq rfl rfl rfl rfl .none .none hs ?_ ?_
   ·refine .buildSlice (cells:=[]) hs fT rfl rfl ?_;intro b33 w hs
    refine .go ?_
    refine .e2 (i:=4) (j:=6) aq rfl rfl rfl rfl .none .none hs ?_ ?_
    ·refine .append (xs:=[]) (ys:=Is (ls.take t)) hs bg rfl rfl (.full (len:=0) rfl) (.ints (RI.head hr (k:=t) ht)) (dM _) (fun l h=>by simp at h;rw [List.length_take];omega) ?_;intro v37 en37 w hO1 hs
     rw [List.nil_append] at hO1
     obtain ⟨a37,l37,c37,rfl,h37⟩:=hO1.shape
     refine .go ?_
     refine .E 6 hs ?_
     refine .buildSlice (cells:=Is [n]) hs bX rfl rfl ?_;intro b39 w hs
     refine .go ?_
     refine .E 7 hs ?_
     refine .append (ys:=Is [n]) hs bg rfl rfl hO1 (.own (c:=Is [n]) (by first|exact .here|exact .there .here|exact .there (.there .here)) rfl rfl) (dM _) (fun l h=>by simp at h;omega) ?_;intro v40 en40 w hO2 hs
     rw [←List.map_append] at hO2
     obtain ⟨a40,l40,c40,rfl,h40⟩:=hO2.shape
     refine .go ?_
     refine .E 11 hs ?_
     refine .append (ys:=Is (ls.drop t)) hs bg rfl rfl hO2 (.ints (RI.tail hr (k:=t) ht)) (dM _) (fun l h=>by simp at h;rw [List.length_drop];omega) ?_;intro v44 en44 w hO3 hs
     rw [←List.map_append,List.append_assoc,List.singleton_append] at hO3
     refine .go ?_
     refine .z 12 rfl zg ?_;refine .D hs ?_
     refine .ret (Fin.bK mN rfl ?_)
     have hfin:¬(t<ls.length∧gi ls t=n):=fun h=>by first|omega|(exact hc31 h.2)
     have hR3:=hR.put (k:=t) (z:=n) (nY hlt) (oo fun j h1 h2=>by
      have h3:=hge j h1 h2
      by_cases e:j=t
      ·subst e;omega
      ·have:=pj hR (i:=t) (j:=j) ak h2
       have:=hge t (Nat.le_refl _) ak
       omega)
     obtain ⟨H1,g1,r1,hs⟩:=cz.cK hO3 (by simp;omega) hs cU
     exact ⟨H1,_,g1,r1,hR3,by simp;omega,hs.out⟩
    ·refine .buildSlice (cells:=Is [n]) hs bX rfl rfl ?_;intro b39 w hs
     refine .go ?_
     refine .E 4 hs ?_
     refine .append (xs:=[]) (ys:=Is (ls.take t)) hs bg rfl rfl (.full (len:=0) rfl) (.ints (RI.head hr (k:=t) ht)) (dM _) (fun l h=>by simp at h;rw [List.length_take];omega) ?_;intro v37 en37 w hO1 hs
     rw [List.nil_append] at hO1
     obtain ⟨a37,l37,c37,rfl,h37⟩:=hO1.shape
     refine .go ?_
     refine .E 7 hs ?_
     refine .append (ys:=Is [n]) hs bg rfl rfl hO1 (.own (c:=Is [n]) (by first|exact .here|exact .there .here|exact .there (.there .here)) rfl rfl) (dM _) (fun l h=>by simp at h;omega) ?_;intro v40 en40 w hO2 hs
     rw [←List.map_append] at hO2
     obtain ⟨a40,l40,c40,rfl,h40⟩:=hO2.shape
     refine .go ?_
     refine .E 11 hs ?_
     refine .append (ys:=Is (ls.drop t)) hs bg rfl rfl hO2 (.ints (RI.tail hr (k:=t) ht)) (dM _) (fun l h=>by simp at h;rw [List.length_drop];omega) ?_;intro v44 en44 w hO3 hs
     rw [←List.map_append,List.append_assoc,List.singleton_append] at hO3
     refine .go ?_
     refine .z 12 rfl zg ?_;refine .D hs ?_
     refine .ret (Fin.bK mN rfl ?_)
     have hfin:¬(t<ls.length∧gi ls t=n):=fun h=>by first|omega|(exact hc31 h.2)
     have hR3:=hR.put (k:=t) (z:=n) (nY hlt) (oo fun j h1 h2=>by
      have h3:=hge j h1 h2
      by_cases e:j=t
      ·subst e;omega
      ·have:=pj hR (i:=t) (j:=j) ak h2
       have:=hge t (Nat.le_refl _) ak
       omega)
     obtain ⟨H1,g1,r1,hs⟩:=cz.cK hO3 (by simp;omega) hs cU
     exact ⟨H1,_,g1,r1,hR3,by simp;omega,hs.out⟩
   ·refine .buildSlice (cells:=Is [n]) hs bX rfl rfl ?_;intro b39 w hs
    refine .go ?_
    refine .E 0 hs ?_
    refine .buildSlice (cells:=[]) hs fT rfl rfl ?_;intro b33 w hs
    refine .go ?_
    refine .E 4 hs ?_
    refine .append (xs:=[]) (ys:=Is (ls.take t)) hs bg rfl rfl (.full (len:=0) rfl) (.ints (RI.head hr (k:=t) ht)) (dM _) (fun l h=>by simp at h;rw [List.length_take];omega) ?_;intro v37 en37 w hO1 hs
    rw [List.nil_append] at hO1
    obtain ⟨a37,l37,c37,rfl,h37⟩:=hO1.shape
    refine .go ?_
    refine .E 7 hs ?_
    refine .append (ys:=Is [n]) hs bg rfl rfl hO1 (.own (c:=Is [n]) (by first|exact .here|exact .there .here|exact .there (.there .here)) rfl rfl) (dM _) (fun l h=>by simp at h;omega) ?_;intro v40 en40 w hO2 hs
    rw [←List.map_append] at hO2
    obtain ⟨a40,l40,c40,rfl,h40⟩:=hO2.shape
    refine .go ?_
    refine .E 11 hs ?_
    refine .append (ys:=Is (ls.drop t)) hs bg rfl rfl hO2 (.ints (RI.tail hr (k:=t) ht)) (dM _) (fun l h=>by simp at h;rw [List.length_drop];omega) ?_;intro v44 en44 w hO3 hs
    rw [←List.map_append,List.append_assoc,List.singleton_append] at hO3
    refine .go ?_
    refine .z 12 rfl zg ?_;refine .D hs ?_
    refine .ret (Fin.bK mN rfl ?_)
    have hfin:¬(t<ls.length∧gi ls t=n):=fun h=>by first|omega|(exact hc31 h.2)
    have hR3:=hR.put (k:=t) (z:=n) (nY hlt) (oo fun j h1 h2=>by
     have h3:=hge j h1 h2
     by_cases e:j=t
     ·subst e;omega
     ·have:=pj hR (i:=t) (j:=j) ak h2
      have:=hge t (Nat.le_refl _) ak
      omega)
    obtain ⟨H1,g1,r1,hs⟩:=cz.cK hO3 (by simp;omega) hs cU
    exact ⟨H1,_,g1,r1,hR3,by simp;omega,hs.out⟩
set_option maxHeartbeats 1000000 in
theorem pZ{s:Srv}{vst vwa vr vc:Value}(hs:St H w σ)(h3:RRd H vr s.rs)(h4:RCm H vc s.cs)(l3:s.rs.length≤1000000)(l4:s.cs.length≤1000000):
  Cl Tryz.prog 141 [.agg #[I s.sp.id,I s.sp.src,vst,vwa,I s.sp.al,I s.sp.up,vr,vc]] w fun u w'=>∃H1 L,HLe H H1∧RI H1 u L∧L.length≤s.rs.length+s.cs.length∧hZ s.Src L∧St H1 w' σ:=by
 obtain ⟨ar,cr,rfl⟩:=RRd.shape h3
 obtain ⟨ac,cc,rfl⟩:=RCm.shape h4
 refine Cl.o Tryz.func141 Tryz.ntmps141 ag1 ?_
 refine .aj ?_
 refine .bx hs fun b1 w hs=>?_
 refine .z zg (.nil (.aj (.z zg (.nil (.seq (.aj (.z zg (.nil (.block ?_)))))))))
 refine .loop (fun p:Nat×Value=>⟨37,[],[(4,I (p.1:Int)),(3,p.2),(1,.pointer (some ⟨b1,0,none⟩))]⟩)
  (fun p w=>p.1≤s.rs.length∧∃H1 L,HLe H H1∧RI H1 p.2 L∧L.length≤p.1∧hZ (fun x=>∃r∈s.rs.take p.1,r.src=x) L∧St H1 w (.blk b1 [I s.sp.id,I s.sp.src,vst,vwa,I s.sp.al,I s.sp.up,.slice ar s.rs.length cr,.slice ac s.cs.length cc]::σ)) (fun p=>s.rs.length - p.1) (0,.slice none 0 0) a8
  ⟨Nat.zero_le _,H,[],HLe.refl H,RS.nil H 1 none 0,bQ,.nil bQ,hs⟩ ?_
 clear hs
 rintro ⟨k,vo⟩ w ⟨hk,H1,L,hle1,hL,hLl,hR,hs⟩
 dsimp only at hk hL hLl hR ⊢
 refine .seq (.aj (.z zm (.z (zfa aI) (.y hs (zld aU) (.z (cN aA) (.z fD (.nil ?_)))))))
 refine (.bJ rfl (fun hc10=>?_) (fun hc10=>?_))
 ·refine .skip ?_
  refine nT ?_
  refine .seq (.block (.region (.z zm (.z (zfa aI) (.y hs (zld aU) (.z zm ?_))))))
  obtain ⟨x,hx⟩:=nth (l:=s.rs) (k:=k) ak
  refine .ixX (enc:=Rdg.c) hs (h3.mono hle1) rfl rfl aA aE hx cJ ?_;intro b17 o17 hc17
  refine .z (zfa dU) ?_
  refine .q hs (aO rfl af (hc17.get 0 rfl)) ?_
  refine .o (.call Tryz.call140 rfl (lJ hs hL hR ak) ?_);rintro v20 w ⟨H2,L2,hle2,hL2,hR2,hl2,hs⟩
  refine .z zg (.nil ?_)
  refine nB (nT ?_)
  refine .region (.z zm (.z cH (.z zg (.nil ?_))))
  refine nT ?_
  exact ⟨(k+1,v20),.cn rfl bQ a8,⟨by dsimp only;omega,H2,L2,hle1.trans hle2,hL2,by dsimp only;omega,hR2.congr fun y=>by
   dsimp only
   rw [df hx]
   simp only [List.mem_append,List.mem_singleton]
   constructor
   ·rintro (⟨r,g1,g2⟩|h)
    ·exact ⟨r,.inl g1,g2⟩
    ·exact ⟨x,.inr rfl,h.symm⟩
   ·rintro ⟨r,g1|g1,g2⟩
    ·exact .inl ⟨r,g1,g2⟩
    ·subst g1;exact .inr g2.symm,hs⟩,by dsimp only;omega⟩
 ·refine .exit ?_
  refine xT (xT (xB (nT ?_)))
  refine .seq (.aj (.z zg (.nil (.block ?_))))
  obtain rfl:k=s.rs.length:=by omega
  rw [List.take_length] at hR
  refine .loop (fun p:Nat×Value=>⟨37,[],[(5,I (p.1:Int)),(3,p.2),(1,.pointer (some ⟨b1,0,none⟩))]⟩)
   (fun p w=>p.1≤s.cs.length∧∃H1 L,HLe H H1∧RI H1 p.2 L∧L.length≤s.rs.length+p.1∧hZ (fun x=>(∃r∈s.rs,r.src=x)∨∃c∈s.cs.take p.1,c.src=x) L∧St H1 w (.blk b1 [I s.sp.id,I s.sp.src,vst,vwa,I s.sp.al,I s.sp.up,.slice ar s.rs.length cr,.slice ac s.cs.length cc]::σ)) (fun p=>s.cs.length - p.1) (0,vo) a8
   ⟨Nat.zero_le _,H1,L,hle1,hL,by dsimp only;omega,hR.congr fun x=>by simp,hs⟩ ?_
  clear hs hle1 hL hLl hR
  rintro ⟨k,vo⟩ w ⟨hk,H1,L,hle1,hL,hLl,hR,hs⟩
  dsimp only at hk hL hLl hR ⊢
  refine .seq (.aj (.z zm (.z (zfa bq) (.y hs (zld cB) (.z (cN aN) (.z fD (.nil ?_)))))))
  refine (.bJ rfl (fun hc25=>?_) (fun hc25=>?_))
  ·refine .skip ?_
   refine nT ?_
   refine .seq (.block (.region (.z zm (.z (zfa bq) (.y hs (zld cB) (.z zm ?_))))))
   obtain ⟨x,hx⟩:=nth (l:=s.cs) (k:=k) ak
   refine .ixX (enc:=Cmp.c) hs (h4.mono hle1) rfl rfl aN bB hx cJ ?_;intro b32 o32 hc32
   refine .z (zfa fi) ?_
   refine .q hs (aO rfl af (hc32.get 0 rfl)) ?_
   refine .o (.call Tryz.call140 rfl (lJ hs hL hR ak) ?_);rintro v35 w ⟨H2,L2,hle2,hL2,hR2,hl2,hs⟩
   refine .z zg (.nil ?_)
   refine nB (nT ?_)
   refine .region (.z zm (.z cH (.z zg (.nil ?_))))
   refine nT ?_
   exact ⟨(k+1,v35),.cn rfl bQ a8,⟨by dsimp only;omega,H2,L2,hle1.trans hle2,hL2,by dsimp only;omega,hR2.congr fun y=>by
    dsimp only
    rw [df hx]
    simp only [List.mem_append,List.mem_singleton]
    constructor
    ·rintro ((h|⟨r,g1,g2⟩)|h)
     ·exact .inl h
     ·exact .inr ⟨r,.inl g1,g2⟩
     ·exact .inr ⟨x,.inr rfl,h.symm⟩
    ·rintro (h|⟨r,g1|g1,g2⟩)
     ·exact .inl (.inl h)
     ·exact .inl (.inr ⟨r,g1,g2⟩)
     ·subst g1;exact .inr g2.symm,hs⟩,by dsimp only;omega⟩
  ·refine .exit ?_
   refine xT (xT (xB (nT ?_)))
   refine .aj (.z zm (.z zg (.nil ?_)))
   refine .ret (Fin.bK Tryz.results141 rfl ?_)
   obtain rfl:k=s.cs.length:=by omega
   rw [List.take_length] at hR
   exact ⟨H1,L,hle1,hL,hLl,hR,hs.out⟩
set_option maxHeartbeats 1000000 in
theorem p9{s:Srv}{vst vwa vr vc:Value}(hs:St H w σ)(h1:RI H vst s.sp.st)(h2:RI H vwa s.sp.wa)(h3:RRd H vr s.rs)(h4:RCm H vc s.cs):
  Cl Tryz.prog 56 [.agg #[I s.sp.id,I s.sp.src,vst,vwa,I s.sp.al,I s.sp.up,vr,vc]] w fun u w'=>∃H1 vx L e,HLe H H1∧u= .tuple #[vx,I e]∧RI H1 vx L∧zn s L e∧St H1 w' σ:=by
 refine Cl.o Tryz.func56 Tryz.ntmps56 ag1 ?_
 refine .aj ?_
 refine .bx hs fun b1 w hs=>?_
 refine .z zg (.z zg (.nil (.aj (.y hs (zls [_,_,_,_,_,_,_,_] aD az) ?_))))
 refine .o (.call sf rfl (eM (s:=s) hs h1 h2 h3 h4) ?_);rintro _ w ⟨H1,e,hle1,rfl,hC,hs⟩
 refine .z zg (.nil (.seq (.aj (.z zm (.z gP (.nil ?_))))))
 refine (.eI rfl (fun hc8=>?_) (fun hc8=>?_))
 ·refine .aj (.z zm (.z zg (.z zg (.nil ?_))))
  refine .ret (rT (Fin.jx Tryz.results56 rfl rfl ?_))
  exact ⟨H1,_,[],_,hle1,rfl,RS.nil H1 1 none 0,.bad hC hc8 rfl,hs.out⟩
 ·refine .skip ?_
  refine nT ?_
  refine .seq (.draw mix rfl hs fun w hs=>?_)
  refine .ys 0 rfl hs [_,_,_,_,_,_,_,_] aD az ?_;refine .z 2 rfl (zfa aJ) ?_;refine .z 3 rfl (zfa cQ) ?_;refine .y 4 rfl hs af ?_
  refine .E 1 hs ?_
  have hok:eD s:=hC.cD.1 (by simpa using hc8)
  have hrl:=hok.early.2.1
  have hcl:=hok.early.2.2.1
  refine .call Tryz.call141 rfl (pZ (s:=s) hs (h3.mono hle1) (h4.mono hle1) ak ak) ?_;rintro v11 w ⟨H2,L,hle2,hL,hLl,hR,hs⟩
  refine .go ?_
  refine .E 5 hs ?_
  refine .call Tryz.call140 rfl (lJ hs hL hR ak) ?_;rintro v15 w ⟨H3,L2,hle3,hL2,hR2,hl2,hs⟩
  refine .go ?_
  refine .z 6 rfl zg ?_;refine .z 7 rfl zg ?_;refine .D hs ?_
  refine .ret (Fin.jx Tryz.results56 rfl rfl ?_)
  exact ⟨H3,_,L2,0,hle1.trans (hle2.trans hle3),rfl,hL2,.ok hok hR2,hs.out⟩
theorem oA{s:Spc}{vst vwa:Value}{a b:Int}(hs:St H w σ)(h1:RI H vst s.st)(h2:RI H vwa s.wa):
  Cl Tryz.prog 57 [.agg #[I s.id,I s.src,vst,vwa,I s.al,I s.up],I a,I b] w fun u w'=>∃H1 x e,HLe H H1∧u= .tuple #[I x,I e]∧ED s a b x e∧St H1 w' σ:=by
 obtain ⟨ast,cst,rfl⟩:=RI.shape h1
 obtain ⟨awa,cwa,rfl⟩:=RI.shape h2
 refine Cl.o Tryz.func57 Tryz.ntmps57 ag3 ?_
 refine .aj ?_
 refine .bx hs fun b3 w hs=>?_
 refine .z zg (.z zg (.nil (.seq (.aj (.y hs (zls [_,_,_,_,_,_] aF aB) ?_)))))
 refine .o (.call Tryz.call41 rfl (fo (s:=s) hs h1 h2) ?_);rintro _ w ⟨H1,e,hle1,rfl,hC,hs⟩
 refine .z zg (.nil (.aj (.z zm (.z gP (.nil ?_)))))
 refine (.eI rfl (fun hc12=>?_) (fun hc12=>?_))
 ·refine .aj (.z zm (.z zg (.z zg (.nil ?_))))
  refine .ret (rT (Fin.jx Tryz.results57 rfl rfl ?_))
  obtain ⟨hn,rfl⟩:¬eT s∧e=30:=hC.resolve_left fun h=>hc12 h.2
  exact ⟨H1,_,_,hle1,rfl,.bad hn,hs.out⟩
 ·refine .skip ?_
  refine nT ?_
  refine .seq (.aj ?_)
  have hok:eT s:=(hC.resolve_right fun h=>by omega).1
  have hsm:=dK hok
  refine .z zm (.z (zfa bj) (.y hs (zld an) (.z (cN ae) (.z gO ?_))))
  refine .o (.call dF rfl (bG hs) ?_);rintro _ w ⟨rfl,hs⟩
  refine .z iD (.z zm ?_)
  refine .bif (t':=21) rfl (fun hb21=>?_) (fun hb21=>?_)
  ·refine .gFs 7 7 false rfl rfl rfl ?_
   refine .z zpT (.nil ?_)
   refine (.cT ?_)
   refine .aj (.z zg (.z zg (.nil ?_)))
   refine .ret (rT (Fin.jx Tryz.results57 rfl rfl ?_))
   exact ⟨H1,_,_,hle1,rfl,.none hok (by simp_all;omega),hs.out⟩
  ·refine .gT rfl rfl ?_
   refine .z zm ?_
   refine .gT rfl rfl ?_
   refine .z (zfa aS) ?_
   refine .gT rfl rfl ?_
   refine .y hs (zld an) ?_
   refine .gT rfl rfl ?_
   refine .z (cN ae) ?_
   refine .gT rfl rfl ?_
   refine .z gO ?_
   refine .gT rfl rfl ?_
   refine .o (.call dF rfl (bG hs) ?_);rintro _ w ⟨rfl,hs⟩
   refine .gT rfl rfl ?_
   refine .z iD (.z zpF (.nil ?_))
   refine (.cond rfl (fun hc29=>?_) (fun hc29=>?_))
   ·refine .aj (.z zg (.z zg (.nil ?_)))
    refine .ret (rT (Fin.jx Tryz.results57 rfl rfl ?_))
    exact ⟨H1,_,_,hle1,rfl,.none hok (by simp_all;omega),hs.out⟩
   ·refine .skip ?_
    refine nT ?_
    refine .aj (.y hs (zls [_,_,_,_,_,_] aF aB) (.z zm (.z zm ?_)))
    have hin:(0≤a∧a≤(s.st.length:Int) - 1)∧0≤b∧b≤(s.wa.length:Int) - 1:=by simp_all
    refine .o (.call Tryz.call118 rfl (iK (s:=s) hs (h2.mono hle1) ak ⟨ak,ak⟩ ⟨ak,ak⟩) ?_);rintro _ w ⟨rfl,hs⟩
    refine .z zg (.z zg (.nil ?_))
    refine .ret (Fin.jx Tryz.results57 rfl rfl ?_)
    exact ⟨H1,_,_,hle1,rfl,.ok hok hin,hs.out⟩
theorem p8{s:Spc}{vst vwa:Value}{a b:Int}(hs:St H w σ)(h1:RI H vst s.st)(h2:RI H vwa s.wa):
  Cl Tryz.prog 58 [.agg #[I s.id,I s.src,vst,vwa,I s.al,I s.up],I a,I b] w fun u w'=>∃x e,u= .tuple #[I x,I e]∧ED s a b x e∧St H w' σ:=by
 obtain ⟨ast,cst,rfl⟩:=RI.shape h1
 obtain ⟨awa,cwa,rfl⟩:=RI.shape h2
 refine Cl.o Tryz.func58 Tryz.ntmps58 ag3 ?_
 refine .aj ?_
 refine .bx hs fun b3 w hs=>?_
 refine .z zg (.z zg (.nil (.seq (.aj (.y hs (zls [_,_,_,_,_,_] aF aB) ?_)))))
 refine .o (.call Tryz.call24 rfl (fP (s:=s) hs h1 h2) ?_);rintro _ w ⟨e,rfl,hC,hs⟩
 refine .z gP (.nil ?_)
 refine (.eI rfl (fun hc10=>?_) (fun hc10=>?_))
 ·refine .aj (.z zg (.z zg (.nil ?_)))
  refine .ret (rT (Fin.jx Tryz.results58 rfl rfl ?_))
  obtain ⟨hn,rfl⟩:¬eT s∧e=30:=hC.resolve_left fun h=>hc10 h.2
  exact ⟨_,_,rfl,.bad hn,hs.out⟩
 ·refine .skip ?_
  refine nT ?_
  refine .seq (.aj ?_)
  have hok:eT s:=(hC.resolve_right fun h=>by omega).1
  have hsm:=dK hok
  refine .z zm (.z (zfa bj) (.y hs (zld an) (.z (cN ae) (.z gO ?_))))
  refine .o (.call eK rfl (dh hs) ?_);rintro _ w ⟨rfl,hs⟩
  refine .z iD (.z zm ?_)
  refine .bif (t':=18) rfl (fun hb18=>?_) (fun hb18=>?_)
  ·refine .gFs 7 7 false rfl rfl rfl ?_
   refine .z zpT (.nil ?_)
   refine (.cT ?_)
   refine .aj (.z zg (.z zg (.nil ?_)))
   refine .ret (rT (Fin.jx Tryz.results58 rfl rfl ?_))
   exact ⟨_,_,rfl,.none hok (by simp_all;omega),hs.out⟩
  ·refine .gT rfl rfl ?_
   refine .z zm ?_
   refine .gT rfl rfl ?_
   refine .z (zfa aS) ?_
   refine .gT rfl rfl ?_
   refine .y hs (zld an) ?_
   refine .gT rfl rfl ?_
   refine .z (cN ae) ?_
   refine .gT rfl rfl ?_
   refine .z gO ?_
   refine .gT rfl rfl ?_
   refine .o (.call eK rfl (dh hs) ?_);rintro _ w ⟨rfl,hs⟩
   refine .gT rfl rfl ?_
   refine .z iD (.z zpF (.nil ?_))
   refine (.cond rfl (fun hc26=>?_) (fun hc26=>?_))
   ·refine .aj (.z zg (.z zg (.nil ?_)))
    refine .ret (rT (Fin.jx Tryz.results58 rfl rfl ?_))
    exact ⟨_,_,rfl,.none hok (by simp_all;omega),hs.out⟩
   ·refine .skip ?_
    refine nT ?_
    refine .aj (.y hs (zls [_,_,_,_,_,_] aF aB) (.z zm (.z zm ?_)))
    have hin:(0≤a∧a≤(s.st.length:Int) - 1)∧0≤b∧b≤(s.wa.length:Int) - 1:=by simp_all
    refine .o (.call fL rfl (cP (s:=s) hs h2 ak ⟨ak,ak⟩ ⟨ak,ak⟩) ?_);rintro _ w ⟨rfl,hs⟩
    refine .z zg (.z zg (.nil ?_))
    refine .ret (Fin.jx Tryz.results58 rfl rfl ?_)
    exact ⟨_,_,rfl,.ok hok hin,hs.out⟩
theorem ql{s:Srv}{vst vwa vr vc:Value}(hs:St H w σ)(h1:RI H vst s.sp.st)(h2:RI H vwa s.sp.wa)(h3:RRd H vr s.rs)(h4:RCm H vc s.cs):
  Cl Tryz.prog 54 [.agg #[I s.sp.id,I s.sp.src,vst,vwa,I s.sp.al,I s.sp.up,vr,vc]] w fun u w'=>∃H1 vt ts e,HLe H H1∧u= .tuple #[vt,I e]∧RTd H1 vt ts∧tl s e∧ts.length≤60∧(ts=if e=0 then s.bD else [])∧St H1 w' σ:=by
 refine Cl.o Tryz.func54 Tryz.ntmps54 ag1 ?_
 refine .aj ?_
 refine .bx hs fun b1 w hs=>?_
 refine .z zg (.z zg (.nil (.seq (.aj (.y hs (zls [_,_,_,_,_,_,_,_] aD az) ?_)))))
 refine .o (.call jQ rfl (dp (s:=s) hs h1 h2 h3 h4) ?_);rintro _ w ⟨H1,e,hle1,rfl,hC,hs⟩
 refine .z zg (.nil (.aj (.z zm (.z gP (.nil ?_)))))
 refine (.eI rfl (fun hc8=>?_) (fun hc8=>?_))
 ·refine .aj (.z zm (.z zg (.z zg (.nil ?_))))
  refine .ret (rT (Fin.jx Tryz.results54 rfl rfl ?_))
  exact ⟨H1,_,[],_,hle1,rfl,RS.nil H1 2 none 0,hC,bQ,by rw [if_neg hc8],hs.out⟩
 ·refine .skip ?_
  refine nT ?_
  refine .aj (.y hs (zls [_,_,_,_,_,_,_,_] aD az) ?_)
  have hok:eD s:=hC.cD.1 (by simpa using hc8)
  have hrl:=hok.early.2.1
  refine .o (.call Tryz.call90 rfl (gX (s:=s) hs (h3.mono hle1) ak) ?_);rintro v11 w ⟨H2,hle2,hT,hs⟩
  refine .z zg (.z zg (.nil ?_))
  refine .ret (Fin.jx Tryz.results54 rfl rfl ?_)
  exact ⟨H2,_,s.bD,_,hle1.trans hle2,rfl,hT,hC.cD.2 hok▸hC,by have:=db s.rs;unfold Srv.bD;omega,by rw [if_pos rfl],hs.out⟩
theorem qa{v1 v2:Value}{ts:List TD}(hs:St H w σ)(h1:RTd H v1 ts)(h2:RTd H v2 ts):
  Cl Tryz.prog 59 [v1,v2] w fun u w'=>u= .bool true∧St H w' σ:=by
 obtain ⟨a1,c1,rfl⟩:=RTd.shape h1
 obtain ⟨a2,c2,rfl⟩:=RTd.shape h2
 have l1:=(RS.len h1).2.2
 refine Cl.o Tryz.func59 Tryz.ntmps59 ag2 ?_
 refine .aj (.z zg (.nil (.aj (.z zm (.z (cN aT) (.z zm (.z (cN aT) (.z fw (.z zg ?_)))))))))
 refine .nil (.seq (.aj (.z zg (.nil (.block ?_)))))
 refine .loop (fun k:Nat=>⟨31,[],[(6,I (k:Int)),(5,.bool true),(0,.slice a1 ts.length c1),(1,.slice a2 ts.length c2)]⟩)
  (fun k w=>k≤ts.length∧St H w σ) (fun k=>ts.length - k) 0 (.cn rfl bQ (.AV rfl bQ a8))
  ⟨Nat.zero_le _,hs⟩ ?_
 clear hs
 rintro k w ⟨hk,hs⟩
 refine .seq (.aj (.z zm (.z zm (.z (cN aT) (.z fD (.z zm ?_))))))
 refine .iB (t':=16) rfl (fun hb16=>?_) (fun hb16=>?_)
 ·refine .gT rfl rfl ?_
  refine .z zm (.z zpT (.nil ?_))
  refine (.cT ?_)
  refine .skip ?_
  refine nT ?_
  refine .seq (.block ?_)
  refine .draw mix rfl hs fun w hs=>?_
  refine .z 0 rfl zm ?_;refine .z 1 rfl zm ?_
  obtain ⟨x,hx⟩:=nth (l:=ts) (k:=k) ak
  refine .ixX (enc:=TD.c) (i:=2) hs rfl aq .none h1 rfl rfl aT bn hx cJ ?_;intro b23 o23 hc23
  refine .r (i:=3) hs rfl aq .none (cj (vs:=x.c) rfl da bn hc23) ?_
  refine .z 4 rfl zm ?_;refine .z 5 rfl zm ?_
  refine .ixX (enc:=TD.c) (i:=6) hs rfl aq .none h2 rfl rfl aT bn hx cJ ?_;intro b27 o27 hc27
  refine .r (i:=7) hs rfl aq .none (cj (vs:=x.c) rfl da bn hc27) ?_
  refine .z 8 rfl (nA nW nX fu (fun f hf=>by
   simp only [List.mem_cons,List.not_mem_nil,or_false] at hf
   rcases hf with rfl|rfl<;>exact ⟨by decide,aV,af⟩) rfl rfl) ?_
  refine .z 9 rfl zg ?_;refine .D hs ?_
  refine nB (nT ?_)
  refine .region (.z zm (.z cH (.z zg (.nil ?_))))
  refine nT ?_
  exact ⟨k+1,.cn rfl bQ (.AV rfl bQ a8),⟨ak,hs⟩,ak⟩
 ·refine .gFs 1 4 true rfl rfl rfl ?_
  refine .z zpF (.nil ?_)
  refine (.cF ?_)
  refine .exit ?_
  refine xT (xT (xB (nT ?_)))
  refine .aj (.z zm (.z zg (.nil ?_)))
  refine .ret (Fin.bK Tryz.results59 rfl ?_)
  exact ⟨rfl,hs.out⟩
set_option maxHeartbeats 4000000 in
theorem pE{v:Value}{g:EE}{a b:Int}(hs:St H w σ)(hg:zo H v g):
  Cl Tryz.prog 11 [v,.agg #[I a,I b]] w fun v w'=>v= .bool true∧∃H',HLe H H'∧St H' w' σ:=by
 obtain ⟨vs,v5,v4,vp,rfl,g1,g2,g3,g4⟩:=hg
 refine Cl.o Tryz.func11 Tryz.ntmps11 ag2 ?_
 refine .aj ?_
 refine .bx hs fun b2 w hs=>?_
 refine .bx hs fun b3 w hs=>?_
 refine .z zg (.nil (.aj ?_))
 refine .o (.call Tryz.call22 rfl (kR hs) ?_);rintro _ w ⟨rfl,H1,hle1,hs⟩
 refine .z zg (.nil (.aj (.y hs (zls [_,_,_,_,_,_,_] He FG) ?_)))
 refine .o (.call Tryz.call23 rfl (jH hs (g1.mono hle1) (g2.mono hle1) (g3.mono hle1) (g4.mono hle1)) ?_);rintro _ w ⟨H2,s,vst,vwa,vr,vc,hle2,rfl,h1,h2,h3,h4,hSpl,hs⟩
 obtain ⟨ast,cst,rfl⟩:=RI.shape h1
 obtain ⟨awa,cwa,rfl⟩:=RI.shape h2
 obtain ⟨ar,cr,rfl⟩:=RRd.shape h3
 obtain ⟨ac,cc,rfl⟩:=RCm.shape h4
 have hle02:=hle1.trans hle2
 refine .o (.alloc hs ck rfl fun b6 w hs=>?_)
 refine .o (.aZ (vs:=[_,_,_,_,_,_,_,_]) hs rfl rfl az fun w hs=>?_)
 refine .nil (.aj (.y hs (zls [_,_,_,_,_,_,_,_] aD az) ?_))
 refine .o (.call Tryz.call54 rfl (ql (s:=s) hs h1 h2 h3 h4) ?_);rintro _ w ⟨H3,vt,ts,e1,hle3,rfl,hT,hE1,htl,htE,hs⟩
 replace h1:=h1.mono hle3
 replace h2:=h2.mono hle3
 replace h3:=h3.mono hle3
 replace h4:=h4.mono hle3
 refine .z zm (.z zex (.z zex (.z zg (.z zg (.nil (.aj (.y hs (zls [_,_,_,_,_,_,_,_] aD az) ?_)))))))
 refine .o (.call Tryz.call30 rfl (sF (s:=s) hs h1 h2 h3 h4) ?_);rintro _ w ⟨H4,vt',ts',e2,hle4,rfl,hT',hE2,htl',htE',hs⟩
 obtain rfl:=hE1.uniq hE2
 obtain rfl:ts=ts':=htE.trans htE'.symm
 replace h1:=h1.mono hle4
 replace h2:=h2.mono hle4
 replace h3:=h3.mono hle4
 replace h4:=h4.mono hle4
 refine .z zm (.z zex (.z zex (.z zg (.z zg (.nil (.aj (.y hs (zls [_,_,_,_,_,_,_,_] aD az) ?_)))))))
 refine .o (.call Tryz.call38 rfl (pz (s:=s) hs h1 h2 h3 h4) ?_);rintro _ w ⟨H5,t,ul,e3,hle5,rfl,hL,hS,hs⟩
 obtain ⟨al,cl,rfl⟩:=RL.shape hL
 replace h1:=h1.mono hle5
 replace h2:=h2.mono hle5
 replace h3:=h3.mono hle5
 replace h4:=h4.mono hle5
 refine .z zm (.z zex (.z zex ?_))
 refine .o (.alloc hs dd rfl fun b11 w hs=>?_)
 refine .o (.aZ (vs:=[_,_]) hs rfl rfl aM fun w hs=>?_)
 refine .z zg (.nil (.aj (.y hs (zls [_,_,_,_,_,_,_,_] aD az) ?_)))
 refine .o (.call Tryz.call39 rfl (rA (s:=s) hs h1 h2 h3 h4) ?_);rintro _ w ⟨H6,t',ul',e4,hle6,rfl,hL',hS',hs⟩
 obtain ⟨al',cl',rfl⟩:=RL.shape hL'
 obtain ⟨rfl,rfl⟩:=hS.uniq hS'
 replace h1:=h1.mono hle6
 replace h2:=h2.mono hle6
 replace h3:=h3.mono hle6
 replace h4:=h4.mono hle6
 refine .z zm (.z zex (.z zex ?_))
 refine .o (.alloc hs dd rfl fun b13 w hs=>?_)
 refine .o (.aZ (vs:=[_,_]) hs rfl rfl aM fun w hs=>?_)
 refine .z zg (.nil (.aj (.y hs (zls [_,_,_,_,_,_,_,_] aD az) ?_)))
 refine .o (.call Tryz.call55 rfl (oB (s:=s) hs h1 h2 h3 h4) ?_);rintro _ w ⟨H7,vx,X,e5,hle7,rfl,hX,-,hXR,hs⟩
 replace h1:=h1.mono hle7
 replace h2:=h2.mono hle7
 replace h3:=h3.mono hle7
 replace h4:=h4.mono hle7
 refine .z zm (.z zex (.z zex (.z zg (.z zg (.nil (.aj (.y hs (zls [_,_,_,_,_,_,_,_] aD az) ?_)))))))
 refine .o (.call Tryz.call56 rfl (p9 (s:=s) hs h1 h2 h3 h4) ?_);rintro _ w ⟨H8,vy,Y,e6,hle8,rfl,hY,hYR,hs⟩
 obtain ⟨rfl,rfl⟩:=hXR.uniq hYR
 replace h1:=h1.mono hle8
 replace h2:=h2.mono hle8
 replace h3:=h3.mono hle8
 replace h4:=h4.mono hle8
 refine .z zm (.z zex (.z zex (.z zg (.z zg (.nil (.aj (.z (zfa aJ) (.y hs (zls [_,_,_,_,_,_] aF aB) ?_))))))))
 refine .z (zia 0 jd ai) ?_
 refine .y hs (zld af) ?_
 refine .z (zia 1 jd ai) ?_
 refine .y hs (zld af) ?_
 refine .o (.call Tryz.call57 rfl (oA (s:=s.sp) (a:=a) (b:=b) hs h1 h2) ?_);rintro _ w ⟨H9,x,e7,hle9,rfl,hU,hs⟩
 replace h1:=h1.mono hle9
 replace h2:=h2.mono hle9
 replace h3:=h3.mono hle9
 replace h4:=h4.mono hle9
 refine .z zm (.z zex (.z zex (.z zg (.z zg (.nil (.aj (.z (zfa aJ) (.y hs (zls [_,_,_,_,_,_] aF aB) ?_))))))))
 refine .z (zia 0 jd ai) ?_
 refine .y hs (zld af) ?_
 refine .z (zia 1 jd ai) ?_
 refine .y hs (zld af) ?_
 refine .o (.call Tryz.call58 rfl (p8 (s:=s.sp) (a:=a) (b:=b) hs h1 h2) ?_);rintro _ w ⟨x',e8,rfl,hU',hs⟩
 obtain ⟨rfl,rfl⟩:=hU.uniq hU'
 have k1:=hle4.trans (hle5.trans (hle6.trans (hle7.trans (hle8.trans hle9))))
 have k2:=hle7.trans (hle8.trans hle9)
 have hle09:=hle02.trans (hle3.trans k1)
 refine .z zm (.z zex (.z zex (.z zg (.z zg (.nil (.aj (.z zm (.z zm ?_))))))))
 refine .o (.call Tryz.call59 rfl (qa hs (hT.mono k1) (hT'.mono (hle5.trans (hle6.trans k2)))) ?_);rintro _ w ⟨rfl,hs⟩
 refine .z zg (.nil (.aj (.y hs (zls [_,_] bp aM) (.y hs (zls [_,_] bp aM) ?_))))
 refine .o (.call Tryz.call40 rfl (nv (a:=t) (b:=t) hs ⟨_,rfl,hL.mono (hle6.trans k2)⟩ ⟨_,rfl,hL'.mono k2⟩) ?_);rintro _ w ⟨bb,rfl,hbb,hs⟩
 obtain rfl:bb=true:=hbb.2 rfl
 refine .z zg (.nil (.aj (.z zm (.z zm ?_))))
 refine .o (.call Tryz.call34 rfl (gI hs (hX.mono (hle8.trans hle9)) (hY.mono hle9)) ?_);rintro _ w ⟨rfl,hs⟩
 rw [decide_eq_true rfl]
 refine .z zg (.nil ?_)
 refine .seq (.draw mix rfl hs fun w hs=>?_)
 refine .z 0 rfl zm ?_;refine .z 1 rfl zm ?_;refine .z 2 rfl (zfa aJ) ?_;refine .ys 3 rfl hs [_,_,_,_,_,_] aF aB ?_;refine .z 5 rfl (zfa aJ) ?_;refine .ys 6 rfl hs [_,_,_,_,_,_] aF aB ?_
 refine .E 4 hs ?_
 refine .call Tryz.call41 rfl (fo (s:=s.sp) hs h1 h2) ?_;rintro _ w ⟨H10,e92,hle10,rfl,q92,hs⟩
 have hle010:=hle09.trans hle10
 refine .go ?_
 refine .E 7 hs ?_
 refine .call Tryz.call24 rfl (fP (s:=s.sp) hs (h1.mono hle10) (h2.mono hle10)) ?_;rintro _ w ⟨e95,rfl,q95,hs⟩
 obtain rfl:=C4 q92 q95
 refine .go ?_
 refine .z 8 rfl fw ?_;rw [decide_eq_true rfl]
 refine .z 9 rfl zpT ?_;refine .z 10 rfl zm ?_;refine .ys 11 rfl hs [_,_,_,_,_,_,_,_] aD az ?_;refine .ys 13 rfl hs [_,_,_,_,_,_,_,_] aD az ?_
 refine .E 12 hs ?_
 refine .call jQ rfl (dp (s:=s) hs (h1.mono hle10) (h2.mono hle10) (h3.mono hle10) (h4.mono hle10)) ?_;rintro _ w ⟨H11,e100,hle11,rfl,q100,hs⟩
 have hle011:=hle10.trans hle11
 refine .go ?_
 refine .E 14 hs ?_
 refine .call sf rfl (eM (s:=s) hs (h1.mono hle011) (h2.mono hle011) (h3.mono hle011) (h4.mono hle011)) ?_;rintro _ w ⟨H12,e102,hle12,rfl,q102,hs⟩
 obtain rfl:=q100.uniq q102
 refine .go ?_
 refine .z 15 rfl fw ?_;rw [decide_eq_true rfl]
 refine .z 16 rfl zpT ?_;refine .z 17 rfl zm ?_;refine .z 18 rfl zm ?_;refine .z 19 rfl zpT ?_;refine .z 20 rfl zm ?_;refine .z 21 rfl zm ?_;refine .z 22 rfl zm ?_
 refine .z 23 rfl fw ?_;rw [decide_eq_true rfl]
 refine .z 24 rfl zpT ?_;refine .z 25 rfl zm ?_;refine .z 26 rfl zm ?_;refine .z 27 rfl zpT ?_;refine .z 28 rfl zm ?_;refine .z 29 rfl zm ?_;refine .z 30 rfl zm ?_
 refine .z 31 rfl fw ?_;rw [decide_eq_true rfl]
 refine .z 32 rfl zpT ?_;refine .z 33 rfl zm ?_;refine .z 34 rfl zm ?_;refine .z 35 rfl zpT ?_;refine .z 36 rfl zm ?_;refine .z 37 rfl zm ?_;refine .z 38 rfl zm ?_
 refine .z 39 rfl fw ?_;rw [decide_eq_true rfl]
 refine .z 40 rfl zpT ?_;refine .z 41 rfl zm ?_;refine .z 42 rfl zm ?_;refine .z 43 rfl zm ?_
 refine .z 44 rfl fw ?_;rw [decide_eq_true rfl]
 refine .z 45 rfl zpT ?_;refine .z 46 rfl zm ?_;refine .z 47 rfl zm ?_;refine .z 48 rfl zm ?_
 refine .z 49 rfl fw ?_;rw [decide_eq_true rfl]
 refine .z 50 rfl zpT ?_;refine .z 51 rfl zg ?_;refine .D hs ?_
 refine .ret (Fin.bK Tryz.results11 rfl ?_)
 exact ⟨rfl,H12,hle09.trans (hle011.trans hle12),hs.out⟩
theorem lY{s:Spc}{vst vwa vh:Value}{rows:List (List Int)}(hs:St H w σ)(h1:RI H vst s.st)(h2:RI H vwa s.wa)(hr:RT H vh rows):
  Cl Tryz.prog 145 [.agg #[I s.id,I s.src,vst,vwa,I s.al,I s.up],.agg #[vh]] w fun u w'=>∃b:Bool,u= .bool b∧(b=true↔jv s rows)∧St H w' σ:=by
 obtain ⟨ast,cst,rfl⟩:=RI.shape h1
 obtain ⟨awa,cwa,rfl⟩:=RI.shape h2
 obtain ⟨ah,ch,rfl⟩:=hr.shape
 have hrl:=(hr.len).2.2
 have hwl:=(RI.len h2).2.2
 refine Cl.o Tryz.func145 Tryz.ntmps145 ag2 ?_
 refine .aj ?_
 refine .bx hs fun b2 w hs=>?_
 refine .bx hs fun b3 w hs=>?_
 refine .z zg (.nil (.seq (.aj (.z (zfa dz) (.y hs (zld eg) (.z (cN au) (.z (zfa bj) (.y hs (zld an) (.z (cN ae) ?_)))))))))
 refine .z gP (.nil ?_)
 refine (.eI rfl (fun hc13=>?_) (fun hc13=>?_))
 ·refine .aj (.z zg (.nil ?_))
  refine .ret (rT (Fin.bK Tryz.results145 rfl ?_))
  exact ⟨false,rfl,⟨fun h=>(by cases h),fun h=>by have:=h.len;simp_all⟩,hs.out⟩
 ·refine .skip ?_
  refine nT ?_
  refine .seq (.aj (.z zg (.nil (.block ?_))))
  have hrows:rows.length=s.st.length:=by omega
  refine .loop (fun i:Nat=>⟨51,[],[(5,I (i:Int)),(3,.pointer (some ⟨b3,0,none⟩)),(2,.pointer (some ⟨b2,0,none⟩))]⟩)
   (fun i w=>i≤rows.length∧(∀j<i,(gr rows j).length=s.wa.length∧∀k<s.wa.length,0≤gt rows j k∧gt rows j k≤20000)∧St H w (.blk b3 [.slice ah rows.length ch]:: .blk b2 [I s.id,I s.src,.slice ast s.st.length cst,.slice awa s.wa.length cwa,I s.al,I s.up]::σ)) (fun i=>rows.length - i) 0 a8
   ⟨Nat.zero_le _,fun j hj=>by omega,hs⟩ ?_
  clear hs
  rintro i w ⟨hi,hall,hs⟩
  refine .seq (.aj (.z zm (.z (zfa dz) (.y hs (zld eg) (.z (cN au) (.z fD (.nil ?_)))))))
  refine (.bJ rfl (fun hc18=>?_) (fun hc18=>?_))
  ·refine .skip ?_
   refine nT ?_
   refine .seq (.block (.seq ?_))
   refine .seq (.draw mix rfl hs fun w hs=>?_)
   refine .z 0 rfl (zfa dz) ?_;refine .y 1 rfl hs eg ?_;refine .z 2 rfl zm ?_
   refine .ixT (i:=3) hs rfl aq .none hr rfl rfl au aC (show i<_ by omega) cJ ?_;intro b24 o24 a24 c24 hc24 hR24
   refine .r (i:=4) hs rfl aq .none (aO rfl an hc24) ?_
   refine .z 5 rfl (cN ae) ?_;refine .z 6 rfl (zfa aS) ?_;refine .y 7 rfl hs an ?_;refine .z 8 rfl (cN ae) ?_;refine .z 9 rfl gP ?_;refine .D hs ?_
   refine (.eI rfl (fun hc30=>?_) (fun hc30=>?_))
   ·refine .aj (.z zg (.nil ?_))
    refine .ret (rT (rB (rT (rT (rB (rT (Fin.bK Tryz.results145 rfl ?_)))))))
    exact ⟨false,rfl,⟨fun h=>(by cases h),fun h=>by have:=h.row i ak;simp_all⟩,hs.out⟩
   ·refine .skip ?_
    refine nT ?_
    refine .aj (.z zg (.nil (.block ?_)))
    have hrow:(gr rows i).length=s.wa.length:=by simp_all;omega
    refine .loop (fun k:Nat=>⟨51,[],[(6,I (k:Int)),(5,I (i:Int)),(3,.pointer (some ⟨b3,0,none⟩)),(2,.pointer (some ⟨b2,0,none⟩))]⟩)
     (fun k w=>k≤s.wa.length∧(∀j<k,0≤gt rows i j∧gt rows i j≤20000)∧St H w (.blk b3 [.slice ah rows.length ch]:: .blk b2 [I s.id,I s.src,.slice ast s.st.length cst,.slice awa s.wa.length cwa,I s.al,I s.up]::σ)) (fun k=>s.wa.length - k) 0 a8
     ⟨Nat.zero_le _,fun j hj=>by omega,hs⟩ ?_
    clear hs
    rintro k w ⟨hk,hin,hs⟩
    refine .seq (.aj (.z zm (.z (zfa dz) (.y hs (zld eg) (.z zm ?_)))))
    refine .ixT hs hr rfl rfl au aC (show i<_ by omega) cJ ?_;intro b35 o35 a35 c35 hc35 hR35
    refine .q hs (aO rfl an hc35) ?_
    refine .z (cN ae) (.z fD (.nil ?_))
    refine (.bJ rfl (fun hc38=>?_) (fun hc38=>?_))
    ·refine .skip ?_
     refine nT ?_
     refine .seq (.block (.aj (.z (zfa dz) (.y hs (zld eg) (.z zm ?_)))))
     refine .ixT hs hr rfl rfl au aC (show i<_ by omega) cJ ?_;intro b44 o44 a44 c44 hc44 hR44
     refine .q hs (aO rfl an hc44) ?_
     refine .z zm ?_
     refine .ixY hs hR44 rfl rfl ae ai (bE (l:=(gr rows i)) (i:=k) ak) cJ ?_;intro b47 o47 hc47
     refine .q hs (aO rfl af hc47) ?_
     refine .o (.call eK rfl (dh hs) ?_);rintro _ w ⟨rfl,hs⟩
     refine .z iD (.nil ?_)
     refine (.cond rfl (fun hc50=>?_) (fun hc50=>?_))
     ·refine .aj (.z zg (.nil ?_))
      refine .ret (rB (rT (rT (rB (rB (rT (rT (rB (rT (Fin.bK Tryz.results145 rfl ?_))))))))))
      exact ⟨false,rfl,⟨fun h=>(by cases h),fun h=>by
       have:=h.num i ak k ak
       unfold gt at this
       simp_all⟩,hs.out⟩
     ·refine .skip ?_
      refine nB (nT ?_)
      refine .region (.z zm (.z cH (.z zg (.nil ?_))))
      refine nT ?_
      exact ⟨k+1,.cn rfl bQ a8,⟨ak,fun j hj=>by
       by_cases e:j=k
       ·subst e
        have:0≤gi (gr rows i) j∧gi (gr rows i) j≤20000:=by simp_all
        exact this
       ·exact hin j ak,hs⟩,ak⟩
    ·refine .exit ?_
     refine xT (xT (xB (nB (nT ?_))))
     refine .region (.z zm (.z cH (.z zg (.nil ?_))))
     refine nT ?_
     exact ⟨i+1,.cn rfl bQ a8,⟨ak,fun j hj=>by
      by_cases e:j=i
      ·subst e;exact ⟨hrow,fun k' hk'=>hin k' ak⟩
      ·exact hall j ak,hs⟩,ak⟩
  ·refine .exit ?_
   refine xT (xT (xB (nT ?_)))
   refine .aj (.z zg (.nil ?_))
   refine .ret (Fin.bK Tryz.results145 rfl ?_)
   exact ⟨true,rfl,⟨fun _=>⟨hrows,fun j hj=>(hall j ak).1,fun j hj=>(hall j ak).2⟩,fun _=>rfl⟩,hs.out⟩
theorem gv{s:Spc}{vst vwa vh:Value}{rows:List (List Int)}{b:Nat}(hs:St H w σ)(h2:RI H vwa s.wa)(hr:RT H vh rows)(hh:jv s rows)(hb:b≤s.many)(hbd:s.many≤1000000):
  Cl Tryz.prog 146 [.agg #[I s.id,I s.src,vst,vwa,I s.al,I s.up],.agg #[vh],I (b:Int)] w fun u w'=>u=I (hpt s (gt rows) b)∧St H w' σ:=by
 obtain ⟨awa,cwa,rfl⟩:=RI.shape h2
 obtain ⟨ah,ch,rfl⟩:=hr.shape
 have hrl:=hh.len
 by_cases hb0:b=0
 ·subst hb0
  refine Cl.o Tryz.func146 Tryz.ntmps146 ag3 ?_
  refine .aj ?_
  refine .bx hs fun b3 w hs=>?_
  refine .bx hs fun b4 w hs=>?_
  refine .z zg (.nil (.seq (.aj (.z zm (.z fw (.nil ?_))))))
  refine (.bJ rfl (fun hc8=>?_) (fun hc8=>?_))
  ·refine .aj (.z zg (.nil ?_))
   refine .ret (rT (Fin.bK Tryz.results146 rfl ?_))
   exact ⟨rfl,hs.out⟩
  ·exact absurd hc8 bQ
 have hm:b - 1<s.st.length*s.wa.length:=by unfold Spc.many at hb;omega
 have hw:0<s.wa.length:=by
  rcases Nat.eq_zero_or_pos s.wa.length with e|e
  ·rw [e,Nat.mul_zero] at hm;omega
  ·exact e
 have e0:(b:Int) - 1=((b - 1:Nat):Int):=by omega
 have e1:((b:Int) - 1).tdiv (s.wa.length:Int)=(((b - 1)/s.wa.length:Nat):Int):=by rw [e0];exact (Int.ofNat_tdiv _ _).symm
 have e2:((b:Int) - 1).tmod (s.wa.length:Int)=(((b - 1)%s.wa.length:Nat):Int):=by rw [e0];exact (Int.ofNat_tmod _ _).symm
 have hi:(b - 1)/s.wa.length<s.st.length:=Nat.div_lt_of_lt_mul (by rw [Nat.mul_comm];exact hm)
 have hk:=Nat.mod_lt (b - 1) hw
 have hrow:=hh.row _ hi
 have hpt':hpt s (gt rows) b=gi (gr rows ((b - 1)/s.wa.length)) ((b - 1)%s.wa.length):=by unfold hpt;rw [if_neg hb0];rfl
 have hd1:(b - 1)/s.wa.length≤1000000:=Nat.le_trans (Nat.div_le_self _ _) ak
 generalize (b - 1)/s.wa.length=i at*
 generalize (b - 1)%s.wa.length=k at*
 refine Cl.o Tryz.func146 Tryz.ntmps146 ag3 ?_
 refine .aj ?_
 refine .bx hs fun b3 w hs=>?_
 refine .bx hs fun b4 w hs=>?_
 refine .z zg (.nil (.seq (.aj (.z zm (.z fw (.nil ?_))))))
 refine (.bJ rfl (fun hc8=>?_) (fun hc8=>?_))
 ·refine .aj (.z zg (.nil ?_))
  refine .ret (rT (Fin.bK Tryz.results146 rfl ?_))
  exact absurd hc8 ak
 ·refine .skip ?_
  refine nT ?_
  refine .seq (.draw mix rfl hs fun w hs=>?_)
  refine .z 0 rfl (zfa dz) ?_;refine .y 1 rfl hs eg ?_;refine .z 2 rfl zm ?_;refine .z 3 rfl gO ?_;refine .z 4 rfl (zfa aS) ?_;refine .y 5 rfl hs an ?_;refine .z 6 rfl (cN ae) ?_
  refine .z 7 rfl (ue rfl rfl ak (by rw [e1];exact ⟨ak,ak⟩)) ?_
  rw [e1]
  refine .ixT (i:=8) hs rfl aq .none hr rfl rfl au aC (show i<_ by omega) cJ ?_;intro b17 o17 a17 c17 hc17 hR17
  refine .r (i:=9) hs rfl aq .none (aO rfl an hc17) ?_
  refine .z 10 rfl zm ?_;refine .z 11 rfl gO ?_;refine .z 12 rfl (zfa aS) ?_;refine .y 13 rfl hs an ?_;refine .z 14 rfl (cN ae) ?_;refine .z 15 rfl CI ?_
  rw [e2]
  refine .ixX (enc:=fun x=>[I x]) (i:=16) hs rfl aq .none hR17 rfl rfl ae ai (bE (l:=(gr rows i)) (i:=k) ak) cJ ?_;intro b25 o25 hc25;replace hc25:=bI.one hc25
  refine .r (i:=17) hs rfl aq .none (aO rfl af hc25) ?_
  refine .z 18 rfl zg ?_;refine .D hs ?_
  refine .ret (Fin.bK Tryz.results146 rfl ?_)
  exact ⟨by rw [hpt'],hs.out⟩
theorem tN{s:Spc}{vst vwa vh:Value}{rows:List (List Int)}{l:Lim}(hs:St H w σ)(h1:RI H vst s.st)(h2:RI H vwa s.wa)(hr:RT H vh rows)(hok:eT s)(hh:jv s rows)(hA:0≤l.A)(hB:0≤l.B):
  Cl Tryz.prog 147 [.agg #[I s.id,I s.src,vst,vwa,I s.al,I s.up],.agg #[vh],.agg #[I l.A,I l.B,I l.M,I l.S]] w fun u w'=>∃b:Bool,u= .bool b∧(b=true↔(l.A.toNat≤s.many→l.B.toNat≤s.many→hpt s (gt rows) l.B.toNat≤hpt s (gt rows) l.A.toNat+l.M))∧St H w' σ:=by
 obtain ⟨ast,cst,rfl⟩:=RI.shape h1
 obtain ⟨awa,cwa,rfl⟩:=RI.shape h2
 have hsm:=dK hok
 have hmm:s.many≤1000000:=by
  have:s.st.length*s.wa.length≤1000*1000:=Nat.mul_le_mul ak ak
  unfold Spc.many;omega
 have hbd:=fun b hb=>x9 (b:=b) hh hb
 obtain ⟨a,ha⟩:∃a:Nat,l.A=a:=⟨_,(Int.toNat_of_nonneg hA).symm⟩
 obtain ⟨b,hb⟩:∃b:Nat,l.B=b:=⟨_,(Int.toNat_of_nonneg hB).symm⟩
 rw [ha,hb,Int.toNat_natCast,Int.toNat_natCast]
 refine Cl.o Tryz.func147 Tryz.ntmps147 ag3 ?_
 refine .aj ?_
 refine .bx hs fun b3 w hs=>?_
 refine .bx hs fun b4 w hs=>?_
 refine .bx hs fun b5 w hs=>?_
 refine .z zg (.nil (.aj (.y hs (zls [_,_,_,_,_,_] aF aB) ?_)))
 refine .o (.call m7 rfl (dQ (s:=s) hs h1 h2 ⟨ak,ak⟩) ?_);rintro _ w ⟨rfl,hs⟩
 refine .z zg (.nil (.seq (.aj (.z (zfa dD) (.y hs (zld af) (.z zm (.z kD (.z zm ?_))))))))
 refine .iB (t':=14) rfl (fun hb14=>?_) (fun hb14=>?_)
 ·refine .gFs 4 4 false rfl rfl rfl ?_
  refine .z zpT (.nil ?_)
  refine (.cT ?_)
  refine .aj (.z zg (.nil ?_))
  refine .ret (rT (Fin.bK Tryz.results147 rfl ?_))
  exact ⟨true,rfl,⟨fun _ g1 g2=>by omega,fun _=>rfl⟩,hs.out⟩
 ·refine .gT rfl rfl ?_
  refine .z (zfa dO) ?_
  refine .gT rfl rfl ?_
  refine .y hs (zld af) ?_
  refine .gT rfl rfl ?_
  refine .z zm ?_
  refine .gT rfl rfl ?_
  refine .z kD (.z zpF (.nil ?_))
  refine (.bJ rfl (fun hc19=>?_) (fun hc19=>?_))
  ·refine .aj (.z zg (.nil ?_))
   refine .ret (rT (Fin.bK Tryz.results147 rfl ?_))
   exact ⟨true,rfl,⟨fun _ g1 g2=>by omega,fun _=>rfl⟩,hs.out⟩
  ·refine .skip ?_
   refine nT ?_
   refine .seq (.draw mix rfl hs fun w hs=>?_)
   refine .ys 0 rfl hs [_,_,_,_,_,_] aF aB ?_;refine .ys 1 rfl hs [_] dw cM ?_;refine .z 2 rfl (zfa dO) ?_;refine .y 3 rfl hs af ?_;refine .ys 5 rfl hs [_,_,_,_,_,_] aF aB ?_;refine .ys 6 rfl hs [_] dw cM ?_;refine .z 7 rfl (zfa dD) ?_;refine .y 8 rfl hs af ?_;refine .z 11 rfl (zfa eH) ?_;refine .y 12 rfl hs af ?_
   refine .E 4 hs ?_
   have hb1:=hbd b ak
   have ha1:=hbd a ak
   refine .call Hf rfl (gv (s:=s) (b:=b) hs h2 hr hh ak hmm) ?_;rintro _ w ⟨rfl,hs⟩
   refine .go ?_
   refine .E 9 hs ?_
   refine .call Hf rfl (gv (s:=s) (b:=a) hs h2 hr hh ak hmm) ?_;rintro _ w ⟨rfl,hs⟩
   refine .go ?_
   refine .z 10 rfl gO ?_;refine .z 13 rfl wc ?_;refine .z 14 rfl zg ?_;refine .D hs ?_
   refine .ret (Fin.bK Tryz.results147 rfl ?_)
   exact ⟨_,rfl,by rw [decide_eq_true_eq];exact ⟨fun g _ _=>by omega,fun g=>by have:=g ak ak;omega⟩,hs.out⟩
set_option maxHeartbeats 1000000 in
theorem mD{s:Spc}{q:Wht}{vst vwa vh:Value}{rows:List (List Int)}(hs:St H w σ)(h1:RI H vst s.st)(h2:RI H vwa s.wa)(hr:RT H vh rows):
  Cl Tryz.prog 62 [.agg #[I s.id,I s.src,vst,vwa,I s.al,I s.up],.agg #[vh],.agg #[I q.kind,I q.st,I q.wa]] w fun u w'=>∃H1 n e,HLe H H1∧u= .tuple #[I n,I e]∧vi s rows q n e∧St H1 w' σ:=by
 obtain ⟨ast,cst,rfl⟩:=RI.shape h1
 obtain ⟨awa,cwa,rfl⟩:=RI.shape h2
 obtain ⟨ah,ch,rfl⟩:=hr.shape
 refine Cl.o Tryz.func62 Tryz.ntmps62 ag3 ?_
 refine .aj ?_
 refine .bx hs fun b3 w hs=>?_
 refine .bx hs fun b4 w hs=>?_
 refine .bx hs fun b5 w hs=>?_
 refine .z zg (.z zg (.nil (.seq (.aj (.y hs (zls [_,_,_,_,_,_] aF aB) ?_)))))
 refine .o (.call Tryz.call24 rfl (fP (s:=s) hs h1 h2) ?_);rintro _ w ⟨e,rfl,he,hs⟩
 refine .z gP (.nil ?_)
 refine (.eI rfl (fun hc14=>?_) (fun hc14=>?_))
 ·refine .aj (.z zg (.z zg (.nil ?_)))
  refine .ret (rT (Fin.jx Tryz.results62 rfl rfl ?_))
  have hq:¬eT s∧e=30:=he.resolve_left fun h=>hc14 h.2
  exact ⟨H,_,_,HLe.refl H,rfl,.space hq.1,hs.out⟩
 ·refine .skip ?_
  refine nT ?_
  refine .seq (.aj (.y hs (zls [_,_,_,_,_,_] aF aB) (.y hs (zls [_] dw cM) ?_)))
  have hok:eT s:=(he.resolve_right fun h=>by omega).1
  have hsm:=dK hok
  refine .o (.call Tryz.call145 rfl (lY (s:=s) hs h1 h2 hr) ?_);rintro _ w ⟨b17,rfl,hb17,hs⟩
  refine .z iD (.nil ?_)
  refine (.cond rfl (fun hc18=>?_) (fun hc18=>?_))
  ·refine .aj (.z zg (.z zg (.nil ?_)))
   refine .ret (rT (Fin.jx Tryz.results62 rfl rfl ?_))
   exact ⟨H,_,_,HLe.refl H,rfl,.hull hok (fun h=>by rw [hb17.2 h] at hc18;cases hc18),hs.out⟩
  ·refine .skip ?_
   refine nT ?_
   refine .seq (.aj (.y hs (zls [_,_,_,_,_,_] aF aB) (.y hs (zls [_,_,_] dP bV) ?_)))
   have hh:jv s rows:=hb17.1 (by simpa using hc18)
   refine .o (.call Tryz.call112 rfl (rz (s:=s) (q:=q) hs h1 h2) ?_);rintro _ w ⟨b21,rfl,hb21,hs⟩
   refine .z iD (.nil ?_)
   refine (.cond rfl (fun hc22=>?_) (fun hc22=>?_))
   ·refine .aj (.z zg (.z zg (.nil ?_)))
    refine .ret (rT (Fin.jx Tryz.results62 rfl rfl ?_))
    exact ⟨H,_,_,HLe.refl H,rfl,.what hok hh (fun h=>by rw [hb21.2 h] at hc22;cases hc22),hs.out⟩
   ·refine .skip ?_
    refine nT ?_
    refine .aj (.y hs (zls [_,_,_,_,_,_] aF aB) (.y hs (zls [_,_,_] dP bV) ?_))
    have hq:gW s q:=hb21.1 (by simpa using hc22)
    have hmm:s.many≤1000000:=by
     have:s.st.length*s.wa.length≤1000*1000:=Nat.mul_le_mul ak ak
     unfold Spc.many;omega
    have hwl:=gG s q
    have hwz:=nV hok hq
    refine .o (.call Tryz.call113 rfl (ru (s:=s) (q:=q) hs h1 h2 hok hq) ?_);rintro _ w ⟨H1,vl,en,hle1,rfl,hO,hs⟩
    obtain ⟨H2,hle2,hW,hs⟩:=cz.cK hO ak hs cU
    obtain ⟨aw,cw,rfl⟩:=RI.shape hW
    have hle02:=hle1.trans hle2
    replace h1:=h1.mono hle02
    replace h2:=h2.mono hle02
    replace hr:=hr.mono hle02
    refine .z zm (.z zex (.z zex (.z zg (.z zg (.nil (.aj (.z zg (.nil (.seq ?_)))))))))
    refine .aj (.z zg (.nil (.block ?_)))
    refine .loop (fun p:Nat=>⟨49,[],[(11,I ((p+1:Nat):Int)),(10,I (im s q rows p)),(9,I (oU q)),(8,.slice aw (mQ s q).length cw),(4,.pointer (some ⟨b4,0,none⟩)),(3,.pointer (some ⟨b3,0,none⟩))]⟩)
     (fun p w=>p≤s.many∧St H2 w (.blk b5 [I q.kind,I q.st,I q.wa]:: .blk b4 [.slice ah rows.length ch]:: .blk b3 [I s.id,I s.src,.slice ast s.st.length cst,.slice awa s.wa.length cwa,I s.al,I s.up]::σ)) (fun p=>s.many - p) 0 a8
     ⟨Nat.zero_le _,hs⟩ ?_
    clear hs hO
    rintro p w ⟨hp,hs⟩
    refine .seq (.aj (.z zm (.z zm (.z (cN ae) (.z fD (.nil ?_))))))
    refine (.bJ rfl (fun hc32=>?_) (fun hc32=>?_))
    ·refine .skip ?_
     refine nT ?_
     refine .seq (.block ?_)
     refine .draw mix rfl hs fun w hs=>?_
     refine .z 0 rfl zm ?_;refine .z 1 rfl zm ?_;refine .z 2 rfl zm ?_
     have hpm:p<s.many:=by omega
     have hsucc:im s q rows (p+1)=im s q rows p+gi (mQ s q) (p+1)*hpt s (gt rows) (p+1):=rfl
     have hb0:=jL hok hq hh p ak
     have hb1:=jL hok hq hh (p+1) ak
     have hwz2:=iU (mQ s q) (v:=p+1) (n:=s.many+1) ak
     have hnum:=x9 (b:=p+1) hh ak
     have hprd:=kP (a:=gi (mQ s q) (p+1)) (b:=hpt s (gt rows) (p+1)) (A:=3456000000000) (B:=20000) ak ak
     refine .ixX (enc:=fun x=>[I x]) (i:=3) hs rfl aq .none hW rfl rfl ae ai (bE (l:=(mQ s q)) (i:=(p+1)) ak) cJ ?_;intro b38 o38 hc38;replace hc38:=bI.one hc38
     refine .r (i:=4) hs rfl aq .none (aO rfl af hc38) ?_
     refine .ys 5 rfl hs [_,_,_,_,_,_] aF aB ?_;refine .ys 6 rfl hs [_] dw cM ?_;refine .z 7 rfl zm ?_
     refine .E 8 hs ?_
     refine .call Hf rfl (gv (s:=s) (b:=p+1) hs h2 hr hh ak hmm) ?_;rintro _ w ⟨rfl,hs⟩
     refine .go ?_
     refine .z 9 rfl ki ?_;refine .z 10 rfl cH ?_;refine .z 11 rfl zg ?_;refine .D hs ?_
     refine nB (nT ?_)
     refine .region (.z zm (.z cH (.z zg (.nil ?_))))
     refine nT ?_
     exact ⟨p+1,.cn rfl bQ (.cn rfl (by rw [hsucc]) a8),⟨ak,hs⟩,ak⟩
    ·refine .exit ?_
     refine xT (xT (xB (nT ?_)))
     refine .aj (.z zm (.z zm ?_))
     obtain rfl:p=s.many:=by omega
     have hbd:=jL hok hq hh s.many ak
     have hdp:=wT q
     refine .o (.call Tryz.call78 rfl (tQ hs ak ak) ?_);rintro _ w ⟨rfl,hs⟩
     refine .z zg (.z zg (.nil ?_))
     refine .ret (Fin.jx Tryz.results62 rfl rfl ?_)
     exact ⟨H2,_,_,hle02,rfl,.ok hok hh hq,hs.out⟩
set_option maxHeartbeats 1000000 in
theorem uX{s:Spc}{vst vwa vx:Value}{x:List Int}(hs:St H w σ)(h1:RI H vst s.st)(h2:RI H vwa s.wa)(hx:RI H vx x)(hb1:s.st.length≤1000)(hb2:s.wa.length≤1000)(hxl:s.many+1≤x.length):
  Cl Tryz.prog 61 [.agg #[I s.id,I s.src,vst,vwa,I s.al,I s.up],vx] w fun u w'=>∃va us en ens,u= .agg #[va]∧cz 1 va us en∧pO us (sE s x s.st.length) ens∧St H w' (en::(ens++σ)):=by
 obtain ⟨ast,cst,rfl⟩:=RI.shape h1
 obtain ⟨awa,cwa,rfl⟩:=RI.shape h2
 obtain ⟨ax,cx,rfl⟩:=RI.shape hx
 refine Cl.o Tryz.func61 Tryz.ntmps61 ag2 ?_
 refine .aj ?_
 refine .bx hs fun b2 w hs=>?_
 refine .o (.alloc hs Tryz.zeroValue63 rfl fun b4 w hs=>?_)
 refine .nil (.aj ?_)
 refine .o (.alloc hs Tryz.zeroValue63 rfl fun b5 w hs=>?_)
 refine .nil (.seq (.aj (.z zg (.nil (.block ?_)))))
 refine .loop (fun i:Nat=>⟨40,[],[(6,I (i:Int)),(1,.slice ax x.length cx),(5,.pointer (some ⟨b5,0,none⟩)),(4,.pointer (some ⟨b4,0,none⟩)),(2,.pointer (some ⟨b2,0,none⟩))]⟩)
  (fun i w=>i≤s.st.length∧∃va us en ens,cz 1 va us en∧pO us (sE s x i) ens∧St H w (.blk b5 [va]::en:: .blk b4 [.slice none 0 0]:: .blk b2 [I s.id,I s.src,.slice ast s.st.length cst,.slice awa s.wa.length cwa,I s.al,I s.up]::(ens++σ))) (fun i=>s.st.length - i) 0 a8
  ⟨Nat.zero_le _,_,[],.nul,[],.nil 1 none,.nil,hs.nul.sb⟩ ?_
 clear hs
 rintro i w ⟨hi,va,us,en,ens,hO,hR,hs⟩
 have hul:=hR.length
 rw [np] at hul
 obtain ⟨aa,la,ca,rfl,hla⟩:=hO.shape
 refine .seq (.aj (.z zm (.z (zfa bj) (.y hs (zld an) (.z (cN ae) (.z fD (.nil ?_)))))))
 refine (.bJ rfl (fun hc13=>?_) (fun hc13=>?_))
 ·refine .skip ?_
  refine nT ?_
  refine .seq (.block (.aj (.z zg (.nil (.seq (.aj (.z zg (.nil (.block ?_)))))))))
  refine .loop (fun p:Nat×Value=>⟨40,[],[(8,I (p.1:Int)),(7,p.2),(6,I (i:Int)),(1,.slice ax x.length cx),(5,.pointer (some ⟨b5,0,none⟩)),(4,.pointer (some ⟨b4,0,none⟩)),(2,.pointer (some ⟨b2,0,none⟩))]⟩)
   (fun p w=>p.1≤s.wa.length∧∃er,cz 1 p.2 (Is (lU s x i p.1)) er∧St H w (er:: .blk b5 [.slice aa la ca]::en:: .blk b4 [.slice none 0 0]:: .blk b2 [I s.id,I s.src,.slice ast s.st.length cst,.slice awa s.wa.length cwa,I s.al,I s.up]::(ens++σ))) (fun p=>s.wa.length - p.1) (0,.slice none 0 0) a8
   ⟨Nat.zero_le _,.nul,.nil 1 none,hs.nul⟩ ?_
  clear hs
  rintro ⟨k,vr⟩ w ⟨hk,er,hOr,hs⟩
  dsimp only at hk hOr hs ⊢
  have hrl:=nq s x i k
  refine .seq (.aj (.z zm (.z (zfa aS) (.y hs (zld an) (.z (cN ae) (.z fD (.nil ?_)))))))
  refine (.bJ rfl (fun hc20=>?_) (fun hc20=>?_))
  ·refine .skip ?_
   refine nT ?_
   refine .seq (.block (.region (.z zm (.z zm (.y hs (zls [_,_,_,_,_,_] aF aB) (.z zm (.z zm ?_)))))))
   have hub:=sh (s:=s) (i:=i) (k:=k) ak ak
   refine .o (.call fL rfl (cP (s:=s) hs h2 ak ⟨ak,ak⟩ ⟨ak,ak⟩) ?_);rintro _ w ⟨rfl,hs⟩
   rw [show 1+(i:Int)*(s.wa.length:Int)+(k:Int)=((s.u i k:Nat):Int) by unfold Spc.u;push_cast;rfl]
   refine .ixY hs hx rfl rfl ae ai (bE (l:=x) (i:=(s.u i k)) ak) cJ ?_;intro b29 o29 hc29
   refine .q hs (aO rfl af hc29) ?_
   refine .o (.buildSlice (cells:=[_]) hs bX rfl rfl fun b31 w hs=>?_)
   refine .o (.append (ys:=Is [gi x (s.u i k)]) hs bg rfl rfl hOr (.own .here rfl rfl) (dM _) (fun l h=>by simp at h;omega) ?_);intro v32 en32 w hO2 hs
   rw [←List.map_append,←Ay] at hO2
   refine .z zg (.nil ?_)
   refine nB (nT ?_)
   refine .region (.z zm (.z cH (.z zg (.nil ?_))))
   refine nT ?_
   exact ⟨(k+1,v32),.cn rfl bQ a8,⟨by dsimp only;omega,_,hO2,hs.sb⟩,by dsimp only;omega⟩
  ·refine .exit ?_
   refine xT (xT (xB (nT ?_)))
   refine .region (.z (zfa dz) (.y hs (zld eg) (.z zm ?_)))
   obtain rfl:k=s.wa.length:=by omega
   obtain ⟨ar,cr,rfl⟩:=hOr.kL
   refine .o (.buildSlice (cells:=[.slice ar (lU s x i s.wa.length).length cr]) hs oV rfl rfl fun b36 w hs=>?_)
   refine .o (.append (ys:=[.slice ar (lU s x i s.wa.length).length cr]) hs kU rfl rfl hO (.own .here rfl rfl) (by simp [Value.oneCell']) (fun l h=>by omega) fun v37 en37 w hO3 hs=>?_)
   obtain ⟨a37,l37,c37,rfl,h37⟩:=hO3.shape
   refine .z (zfa dz) ?_
   refine .o (.store hs rfl rfl Tryz.sizeOf61 fun w hs=>?_)
   refine .nil ?_
   refine nB (nT ?_)
   refine .region (.z zm (.z cH (.z zg (.nil ?_))))
   refine nT ?_
   refine ⟨i+1,.cn rfl bQ a8,⟨ak,_,_,en37,ens++[er],hO3,by rw [Ax];exact hR.snoc hOr,?_⟩,ak⟩
   replace hs:St H w (.blk b5 [.slice a37 l37 c37]::en37:: .blk b4 [.slice none 0 0]:: .blk b2 [I s.id,I s.src,.slice ast s.st.length cst,.slice awa s.wa.length cwa,I s.al,I s.up]::er::(ens++σ)):=hs.sb
   rw [List.append_assoc]
   exact hs.perm (.cons _ (.cons _ (.cons _ (.cons _ List.perm_middle.symm))))
 ·refine .exit ?_
  refine xT (xT (xB (nT ?_)))
  refine .aj (.y hs (zls [_] dw cM) ?_)
  refine .o (.aZ (vs:=[_]) hs rfl rfl cM fun w hs=>?_)
  refine .nil ?_
  refine .ret ?_
  obtain rfl:i=s.st.length:=by omega
  exact Fin.gR [] [] hs fun w hs=>⟨_,results1 Tryz.results61 (dv (vs:=[_]) hs rfl dw cM),_,us,en,ens,rfl,hO,hR,hs.sb⟩
set_option maxHeartbeats 4000000 in
theorem iJ{s:Srv}{rows:List (List Int)}{vst vwa vr vc vh:Value}(hs:St H w σ)(h1:RI H vst s.sp.st)(h2:RI H vwa s.sp.wa)(h3:RRd H vr s.rs)(h4:RCm H vc s.cs)(hh:RT H vh rows):
  Cl Tryz.prog 64 [.agg #[I s.sp.id,I s.sp.src,vst,vwa,I s.sp.al,I s.sp.up,vr,vc],.agg #[vh]] w fun u w'=>∃H1 e,HLe H H1∧u=I e∧Ef s rows e∧St H1 w' σ:=by
 obtain ⟨ast,cst,rfl⟩:=RI.shape h1
 obtain ⟨awa,cwa,rfl⟩:=RI.shape h2
 obtain ⟨ar,cr,rfl⟩:=RRd.shape h3
 obtain ⟨ac,cc,rfl⟩:=RCm.shape h4
 obtain ⟨ah,ch,rfl⟩:=hh.shape
 refine Cl.o Tryz.func64 Tryz.ntmps64 ag2 ?_
 refine .aj ?_
 refine .bx hs fun b2 w hs=>?_
 refine .bx hs fun b3 w hs=>?_
 refine .z zg (.nil (.aj (.y hs (zls [_,_,_,_,_,_,_,_] aD az) ?_)))
 refine .o (.call sf rfl (eM (s:=s) hs h1 h2 h3 h4) ?_);rintro _ w ⟨H1,e,hle1,rfl,hC,hs⟩
 refine .z zg (.nil (.seq (.aj (.z zm (.z gP (.nil ?_))))))
 refine (.eI rfl (fun hc17=>?_) (fun hc17=>?_))
 ·refine .aj (.z zm (.z zg (.nil ?_)))
  refine .ret (rT (Fin.bK Ek rfl ?_))
  exact ⟨H1,_,hle1,rfl,.bad hC hc17,hs.out⟩
 ·refine .skip ?_
  refine nT ?_
  refine .aj (.z (zfa aJ) (.y hs (zls [_,_,_,_,_,_] aF aB) ?_))
  refine .o (.alloc hs gh rfl fun b6 w hs=>?_)
  refine .o (.aZ (vs:=[_,_,_,_,_,_]) hs rfl rfl aB fun w hs=>?_)
  refine .nil (.seq (.aj (.y hs (zls [_,_,_,_,_,_] aF aB) (.y hs (zls [_] dw cM) ?_))))
  have hok:eD s:=hC.cD.1 (by simpa using hc17)
  have hsm:=dK hok.early.1
  have hrl:=hok.early.2.1
  refine .o (.call Tryz.call145 rfl (lY (s:=s.sp) hs (h1.mono hle1) (h2.mono hle1) (hh.mono hle1)) ?_);rintro _ w ⟨b23,rfl,hb23,hs⟩
  refine .z iD (.nil ?_)
  refine (.cond rfl (fun hc24=>?_) (fun hc24=>?_))
  ·refine .aj (.z zg (.nil ?_))
   refine .ret (rT (Fin.bK Ek rfl ?_))
   exact ⟨H1,_,hle1,rfl,.hull hok (fun h=>by rw [hb23.2 h] at hc24;cases hc24),hs.out⟩
  ·refine .skip ?_
   refine nT ?_
   refine .aj (.y hs (zls [_,_,_,_,_,_,_,_] aD az) ?_)
   have hhull:jv s.sp rows:=hb23.1 (by simpa using hc24)
   have hll:=hok.bU
   have hmm:s.sp.many≤64:=by have:=hok.many;omega
   refine .o (.call Tryz.call111 rfl (kb (s:=s) hs (h1.mono hle1) (h2.mono hle1) (h3.mono hle1) (h4.mono hle1) hok.early) ?_);rintro v26 w ⟨H2,en,hle2,hO,hs⟩
   obtain ⟨H3,hle3,hL,hs⟩:=cz.cO (m:=4) (cs:=s.bU.map Lim.c) hO (fun c hc=>by simp only [List.mem_map] at hc;obtain ⟨x,_,rfl⟩:=hc;rfl) ak (by rw [List.length_map];omega) hs .here
   replace hL:RL H3 v26 s.bU:=hL
   obtain ⟨al,cl,rfl⟩:=RL.shape hL
   have hle03:=hle1.trans (hle2.trans hle3)
   replace h1:=h1.mono hle03
   replace h2:=h2.mono hle03
   replace h3:=h3.mono hle03
   replace h4:=h4.mono hle03
   replace hh:=hh.mono hle03
   have hbd:=fun b hb=>x9 (b:=b) hhull hb
   have hlim:=fun l hl=>hok.sys.lim l hl
   refine .z zg (.nil (.aj (.y hs (zls [_,_,_,_,_,_] aF aB) ?_)))
   refine .o (.call m7 rfl (dQ (s:=s.sp) hs h1 h2 ⟨ak,ak⟩) ?_);rintro _ w ⟨rfl,hs⟩
   refine .z zg (.nil (.seq (.aj (.z zg (.nil (.block ?_))))))
   refine .loop (fun k:Nat=>⟨112,[],[(9,I (k:Int)),(8,I (s.sp.many:Int)),(7,.slice al s.bU.length cl),(6,.pointer (some ⟨b6,0,none⟩)),(3,.pointer (some ⟨b3,0,none⟩)),(2,.pointer (some ⟨b2,0,none⟩))]⟩)
    (fun k w=>k≤s.bU.length∧(∀l∈s.bU.take k,l.A.toNat≤s.sp.many→l.B.toNat≤s.sp.many→hpt s.sp (gt rows) l.B.toNat≤hpt s.sp (gt rows) l.A.toNat+l.M)∧St H3 w (.blk b6 [I s.sp.id,I s.sp.src,.slice ast s.sp.st.length cst,.slice awa s.sp.wa.length cwa,I s.sp.al,I s.sp.up]:: .blk b3 [.slice ah rows.length ch]:: .blk b2 [I s.sp.id,I s.sp.src,.slice ast s.sp.st.length cst,.slice awa s.sp.wa.length cwa,I s.sp.al,I s.sp.up,.slice ar s.rs.length cr,.slice ac s.cs.length cc]::σ)) (fun k=>s.bU.length - k) 0 a8
    ⟨Nat.zero_le _,bQ,hs⟩ ?_
   clear hs hO
   rintro k w ⟨hk,hin,hs⟩
   refine .seq (.aj (.z zm (.z zm (.z (cN aH) (.z fD (.nil ?_))))))
   refine (.bJ rfl (fun hc32=>?_) (fun hc32=>?_))
   ·refine .skip ?_
    refine nT ?_
    refine .seq (.block ?_)
    refine .seq (.draw mix rfl hs fun w hs=>?_)
    refine .ys 0 rfl hs [_,_,_,_,_,_] aF aB ?_;refine .ys 1 rfl hs [_] dw cM ?_;refine .z 2 rfl zm ?_;refine .z 3 rfl zm ?_
    obtain ⟨l,hx⟩:=nth (l:=s.bU) (k:=k) ak
    have hlm:=List.mem_of_getElem? hx
    obtain ⟨⟨gA,gB⟩,hsd⟩:=jX hok.early hlm
    refine .ixX (enc:=Lim.c) (i:=4) hs rfl aq .none hL rfl rfl aH aQ hx cJ ?_;intro b39 o39 hc39
    refine .r (i:=5) hs rfl aq .none (cj (vs:=l.c) rfl dS aQ hc39) ?_
    refine .E 6 hs ?_
    refine .call Tryz.call147 rfl (tN (s:=s.sp) (l:=l) hs h1 h2 hh hok.early.1 hhull gA gB) ?_;rintro _ w ⟨b41,rfl,hb41,hs⟩
    refine .go ?_
    refine .z 7 rfl iD ?_;refine .D hs ?_
    refine (.cond rfl (fun hc42=>?_) (fun hc42=>?_))
    ·refine .aj (.z zg (.nil ?_))
     refine .ret (rB (rT (rT (rB (rT (Fin.bK Ek rfl ?_))))))
     exact ⟨H3,_,hle03,rfl,.no hok hhull (fun h=>by
      rw [hb41.2 (((qw hok.early).1 h).1 l hlm)] at hc42;cases hc42),hs.out⟩
    ·refine .skip ?_
     refine nB (nT ?_)
     refine .region (.z zm (.z cH (.z zg (.nil ?_))))
     refine nT ?_
     exact ⟨k+1,.cn rfl bQ a8,⟨ak,fun y hy=>by
      rw [df hx] at hy
      simp only [List.mem_append,List.mem_singleton] at hy
      rcases hy with hy|rfl
      ·exact hin y hy
      ·exact hb41.1 (by simpa using hc42),hs⟩,ak⟩
   ·refine .exit ?_
    refine xT (xT (xB (nT ?_)))
    refine .seq (.aj (.z zg (.nil (.block ?_))))
    obtain rfl:k=s.bU.length:=by omega
    rw [List.take_length] at hin
    have hInner:A0 s (hpt s.sp (gt rows)):=hin
    refine .loop (fun j:Nat=>⟨112,[],[(10,I (j:Int)),(8,I (s.sp.many:Int)),(7,.slice al s.bU.length cl),(6,.pointer (some ⟨b6,0,none⟩)),(3,.pointer (some ⟨b3,0,none⟩)),(2,.pointer (some ⟨b2,0,none⟩))]⟩)
     (fun j w=>j≤s.bD.length∧(∀i<j,sn (hpt s.sp (gt rows)) (s.sp.many+1+i:Nat) s.bU≤nE (hpt s.sp (gt rows)) (s.sp.many+1+i:Nat) s.bU)∧St H3 w (.blk b6 [I s.sp.id,I s.sp.src,.slice ast s.sp.st.length cst,.slice awa s.sp.wa.length cwa,I s.sp.al,I s.sp.up]:: .blk b3 [.slice ah rows.length ch]:: .blk b2 [I s.sp.id,I s.sp.src,.slice ast s.sp.st.length cst,.slice awa s.sp.wa.length cwa,I s.sp.al,I s.sp.up,.slice ar s.rs.length cr,.slice ac s.cs.length cc]::σ)) (fun j=>s.bD.length - j) 0 a8
     ⟨Nat.zero_le _,fun i hi=>by omega,hs⟩ ?_
    clear hs hin
    rintro j w ⟨hj,hlow,hs⟩
    refine .seq (.aj (.z zm (.z (zfa aI) (.y hs (zld aU) ?_))))
    refine .o (.call lg rfl (ns hs h3 ak) ?_);rintro v46 w ⟨en46,hO46,hs⟩
    replace hO46:cz 2 v46 (tdc s.bD).flatten en46:=hO46
    obtain ⟨a46,c46,rfl⟩:=hO46.fM (kX _) ak
    rw [dI]
    have htl:=hok.many
    refine .z (cN aT) (.z fD (.nil ?_))
    refine (.bJ rfl (fun hc48=>?_) (fun hc48=>?_))
    ·refine .skip ?_
     refine nT ?_
     refine .seq (.block (.aj (.z zg (.nil (.aj (.z zg (.nil (.seq (.aj ?_)))))))))
     refine .z zg (.nil (.block ?_))
     refine .loop (fun p:Nat×Int×Int=>⟨112,[],[(13,I (p.1:Int)),(12,I p.2.2),(11,I p.2.1),(10,I (j:Int)),(8,I (s.sp.many:Int)),(7,.slice al s.bU.length cl),(6,.pointer (some ⟨b6,0,none⟩)),(3,.pointer (some ⟨b3,0,none⟩)),(2,.pointer (some ⟨b2,0,none⟩))]⟩)
      (fun p w=>p.1≤s.bU.length∧p.2.1=sn (hpt s.sp (gt rows)) (s.sp.many+1+j:Nat) (s.bU.take p.1)∧p.2.2=nE (hpt s.sp (gt rows)) (s.sp.many+1+j:Nat) (s.bU.take p.1)∧St H3 w (.blk b6 [I s.sp.id,I s.sp.src,.slice ast s.sp.st.length cst,.slice awa s.sp.wa.length cwa,I s.sp.al,I s.sp.up]:: .blk b3 [.slice ah rows.length ch]:: .blk b2 [I s.sp.id,I s.sp.src,.slice ast s.sp.st.length cst,.slice awa s.sp.wa.length cwa,I s.sp.al,I s.sp.up,.slice ar s.rs.length cr,.slice ac s.cs.length cc]::σ)) (fun p=>s.bU.length - p.1) (0,-1000,1000) a8
      ⟨Nat.zero_le _,rfl,rfl,hs.sb⟩ ?_
     clear hs hO46
     rintro ⟨k,lo,hi⟩ w ⟨hk,hlo0,hhi0,hs⟩
     dsimp only at hk hlo0 hhi0 hs ⊢
     subst hlo0;subst hhi0
     refine .seq (.aj (.z zm (.z zm (.z (cN aH) (.z fD (.nil ?_))))))
     refine (.bJ rfl (fun hc54=>?_) (fun hc54=>?_))
     ·refine .skip ?_
      refine nT ?_
      refine .seq (.block ?_)
      refine .cut (fun fs w=>∃hi',kB fs ⟨112,[],[(13,I (k:Int)),(12,I hi'),(11,I (sn (hpt s.sp (gt rows)) (s.sp.many+1+j:Nat) (s.bU.take k))),(10,I (j:Int)),(8,I (s.sp.many:Int)),(7,.slice al s.bU.length cl),(6,.pointer (some ⟨b6,0,none⟩)),(3,.pointer (some ⟨b3,0,none⟩)),(2,.pointer (some ⟨b2,0,none⟩))]⟩∧hi'=nE (hpt s.sp (gt rows)) (s.sp.many+1+j:Nat) (s.bU.take (k+1))∧St H3 w (.blk b6 [I s.sp.id,I s.sp.src,.slice ast s.sp.st.length cst,.slice awa s.sp.wa.length cwa,I s.sp.al,I s.sp.up]:: .blk b3 [.slice ah rows.length ch]:: .blk b2 [I s.sp.id,I s.sp.src,.slice ast s.sp.st.length cst,.slice awa s.sp.wa.length cwa,I s.sp.al,I s.sp.up,.slice ar s.rs.length cr,.slice ac s.cs.length cc]::σ)) ?_ ?_
      ·refine .aj (.z zm (.z zm ?_))
       obtain ⟨l,hx⟩:=nth (l:=s.bU) (k:=k) ak
       have hlm:=List.mem_of_getElem? hx
       obtain ⟨⟨gA,gB⟩,hsd⟩:=jX hok.early hlm
       have hM:=(hlim l hlm).2.2.2.1
       obtain ⟨eA,hA⟩:∃a:Nat,l.A=a:=⟨_,(Int.toNat_of_nonneg gA).symm⟩
       obtain ⟨eB,hB⟩:∃b:Nat,l.B=b:=⟨_,(Int.toNat_of_nonneg gB).symm⟩
       have hA1:l.A.toNat=eA:=by rw [hA,Int.toNat_natCast]
       have hB1:l.B.toNat=eB:=by rw [hB,Int.toNat_natCast]
       rw [hA1,hB1] at hsd
       refine .ixX (enc:=Lim.c) hs hL rfl rfl aH aQ hx cJ ?_;intro b59 o59 hc59
       refine .z (zfa dO) ?_
       refine .q hs (aO rfl af (hc59.get 1 rfl)) ?_
       refine .z zm (.z cH (.z zm (.z cH (.z fw (.nil ?_)))))
       refine (.bJ rfl (fun hc66=>?_) (fun hc66=>?_))
       ·refine .draw mix rfl hs fun w hs=>?_
        refine .z 0 rfl zm ?_;refine .ys 1 rfl hs [_,_,_,_,_,_] aF aB ?_;refine .ys 2 rfl hs [_] dw cM ?_;refine .z 3 rfl zm ?_;refine .z 4 rfl zm ?_
        refine .ixX (enc:=Lim.c) (i:=5) hs rfl aq .none hL rfl rfl aH aQ hx cJ ?_;intro b72 o72 hc72
        have q72:=hc72.get 0 rfl
        refine .z 6 rfl (zfa dD) ?_;refine .y 7 rfl hs af ?_;refine .z 9 rfl zm ?_;refine .z 10 rfl zm ?_
        refine .ixX (enc:=Lim.c) (i:=11) hs rfl aq .none hL rfl rfl aH aQ hx cJ ?_;intro b78 o78 hc78
        have q78:=hc78.get 2 rfl
        refine .z 12 rfl (zfa eH) ?_;refine .y 13 rfl hs af ?_
        refine .E 8 hs ?_
        have hbA:=hbd eA ak
        rw [hA]
        refine .call Hf rfl (gv (s:=s.sp) (b:=eA) hs h2 hh hhull ak ak) ?_;rintro _ w ⟨rfl,hs⟩
        refine .go ?_
        refine .z 14 rfl cH ?_;refine .z 15 rfl zw ?_;refine .z 16 rfl zg ?_;refine .D hs ?_
        refine nT ?_
        exact ⟨_,a8,by rw [df hx,rM,if_pos ak,hA1],hs⟩
       ·refine .skip ?_
        refine nT ?_
        exact ⟨_,a8,by rw [df hx,rM,if_neg ak],hs⟩
      ·clear hs
       rintro fs w ⟨hi',hfs,hhi,hs⟩
       refine WE.sub ?_ hfs
       clear hfs
       obtain ⟨l,hx⟩:=nth (l:=s.bU) (k:=k) ak
       have hlm:=List.mem_of_getElem? hx
       obtain ⟨⟨gA,gB⟩,hsd⟩:=jX hok.early hlm
       have hM:=(hlim l hlm).2.2.2.1
       obtain ⟨eA,hA⟩:∃a:Nat,l.A=a:=⟨_,(Int.toNat_of_nonneg gA).symm⟩
       obtain ⟨eB,hB⟩:∃b:Nat,l.B=b:=⟨_,(Int.toNat_of_nonneg gB).symm⟩
       have hA1:l.A.toNat=eA:=by rw [hA,Int.toNat_natCast]
       have hB1:l.B.toNat=eB:=by rw [hB,Int.toNat_natCast]
       rw [hA1,hB1] at hsd
       refine .aj (.z zm (.z zm ?_))
       refine .ixX (enc:=Lim.c) hs hL rfl rfl aH aQ hx cJ ?_;intro b85 o85 hc85
       refine .z (zfa dD) ?_
       refine .q hs (aO rfl af (hc85.get 0 rfl)) ?_
       refine .z zm (.z cH (.z zm (.z cH (.z fw (.nil ?_)))))
       refine (.bJ rfl (fun hc92=>?_) (fun hc92=>?_))
       ·refine .draw mix rfl hs fun w hs=>?_
        refine .z 0 rfl zm ?_;refine .ys 1 rfl hs [_,_,_,_,_,_] aF aB ?_;refine .ys 2 rfl hs [_] dw cM ?_;refine .z 3 rfl zm ?_;refine .z 4 rfl zm ?_
        refine .ixX (enc:=Lim.c) (i:=5) hs rfl aq .none hL rfl rfl aH aQ hx cJ ?_;intro b98 o98 hc98
        have q98:=hc98.get 1 rfl
        refine .z 6 rfl (zfa dO) ?_;refine .y 7 rfl hs af ?_;refine .z 9 rfl zm ?_;refine .z 10 rfl zm ?_
        refine .ixX (enc:=Lim.c) (i:=11) hs rfl aq .none hL rfl rfl aH aQ hx cJ ?_;intro b104 o104 hc104
        have q104:=hc104.get 2 rfl
        refine .z 12 rfl (zfa eH) ?_;refine .y 13 rfl hs af ?_
        refine .E 8 hs ?_
        have hbB:=hbd eB ak
        rw [hB]
        refine .call Hf rfl (gv (s:=s.sp) (b:=eB) hs h2 hh hhull ak ak) ?_;rintro _ w ⟨rfl,hs⟩
        refine .go ?_
        refine .z 14 rfl gO ?_;refine .z 15 rfl CJ ?_;refine .z 16 rfl zg ?_;refine .D hs ?_
        refine nB (nT ?_)
        refine .region (.z zm (.z cH (.z zg (.nil ?_))))
        refine nT ?_
        exact ⟨(k+1,_,hi'),.cn rfl bQ a8,⟨by dsimp only;omega,by dsimp only;rw [df hx,nC,if_pos ak,hB1],hhi,hs⟩,by dsimp only;omega⟩
       ·refine .skip ?_
        refine nB (nT ?_)
        refine .region (.z zm (.z cH (.z zg (.nil ?_))))
        refine nT ?_
        exact ⟨(k+1,sn (hpt s.sp (gt rows)) (s.sp.many+1+j:Nat) (s.bU.take k),hi'),.cn rfl bQ a8,⟨by dsimp only;omega,by dsimp only;rw [df hx,nC,if_neg ak],hhi,hs⟩,by dsimp only;omega⟩
     ·refine .exit ?_
      refine xT (xT (xB (nT ?_)))
      refine .aj (.z zm (.z zm (.z kD (.nil ?_))))
      refine (.bJ rfl (fun hc111=>?_) (fun hc111=>?_))
      ·refine .aj (.z zg (.nil ?_))
       refine .ret (rB (rT (rT (rB (rT (Fin.bK Ek rfl ?_))))))
       obtain rfl:k=s.bU.length:=by omega
       rw [List.take_length] at hc111
       exact ⟨H3,_,hle03,rfl,.no hok hhull (fun h=>by
        have:=((qw hok.early).1 h).2 j ak
        omega),hs.out⟩
      ·refine .skip ?_
       refine nB (nT ?_)
       refine .region (.z zm (.z cH (.z zg (.nil ?_))))
       refine nT ?_
       obtain rfl:k=s.bU.length:=by omega
       rw [List.take_length] at hc111
       exact ⟨j+1,.cn rfl bQ a8,⟨ak,fun i hi=>by
        by_cases e:i=j
        ·subst e;exact Int.not_lt.1 hc111
        ·exact hlow i ak,hs⟩,ak⟩
    ·refine .exit ?_
     refine xT (xT (xB (nT ?_)))
     refine .aj (.z zg (.nil ?_))
     refine .ret (Fin.bK Ek rfl ?_)
     exact ⟨H3,_,hle03,rfl,.ok hok hhull ((qw hok.early).2 ⟨hInner,fun i hi=>hlow i ak⟩),hs.out⟩
set_option maxHeartbeats 4000000 in
theorem gV{s:Srv}{rows:List (List Int)}{vst vwa vr vc vh:Value}(hs:St H w σ)(h1:RI H vst s.sp.st)(h2:RI H vwa s.sp.wa)(h3:RRd H vr s.rs)(h4:RCm H vc s.cs)(hh:RT H vh rows):
  Cl Tryz.prog 63 [.agg #[I s.sp.id,I s.sp.src,vst,vwa,I s.sp.al,I s.sp.up,vr,vc],.agg #[vh]] w fun u w'=>∃H1 e,HLe H H1∧u=I e∧Ef s rows e∧St H1 w' σ:=by
 obtain ⟨ast,cst,rfl⟩:=RI.shape h1
 obtain ⟨awa,cwa,rfl⟩:=RI.shape h2
 obtain ⟨ar,cr,rfl⟩:=RRd.shape h3
 obtain ⟨ac,cc,rfl⟩:=RCm.shape h4
 obtain ⟨ah,ch,rfl⟩:=hh.shape
 refine Cl.o Tryz.func63 Tryz.ntmps63 ag2 ?_
 refine .aj ?_
 refine .bx hs fun b2 w hs=>?_
 refine .bx hs fun b3 w hs=>?_
 refine .z zg (.nil (.seq (.aj (.y hs (zls [_,_,_,_,_,_,_,_] aD az) ?_))))
 refine .o (.call jQ rfl (dp (s:=s) hs h1 h2 h3 h4) ?_);rintro _ w ⟨H1,e,hle1,rfl,hC,hs⟩
 refine .z zg (.nil (.aj (.z zm (.z gP (.nil ?_)))))
 refine (.eI rfl (fun hc16=>?_) (fun hc16=>?_))
 ·refine .aj (.z zm (.z zg (.nil ?_)))
  refine .ret (rT (?_))
  exact Fin.bK Tryz.results63 rfl ⟨H1,_,hle1,rfl,.bad hC hc16,hs.out⟩
 ·refine .skip ?_
  refine nT ?_
  refine .seq (.aj (.z (zfa aJ) (.y hs (zls [_,_,_,_,_,_] aF aB) (.y hs (zls [_] dw cM) ?_))))
  have hok:eD s:=hC.cD.1 (by simpa using hc16)
  have hsm:=dK hok.early.1
  have hrl:=hok.early.2.1
  refine .o (.call Tryz.call101 rfl (kO (s:=s.sp) hs (h1.mono hle1) (h2.mono hle1) (hh.mono hle1)) ?_);rintro _ w ⟨H2,b21,hle2,rfl,hb21,hs⟩
  have hle02:=hle1.trans hle2
  refine .z iD (.nil ?_)
  refine (.cond rfl (fun hc22=>?_) (fun hc22=>?_))
  ·refine .aj (.z zg (.nil ?_))
   refine .ret (rT (?_))
   exact Fin.bK Tryz.results63 rfl ⟨H2,_,hle02,rfl,.hull hok (fun h=>by rw [hb21.2 h] at hc22;cases hc22),hs.out⟩
  ·refine .skip ?_
   refine nT ?_
   refine .aj (.y hs (zls [_,_,_,_,_,_,_,_] aD az) ?_)
   have hhull:jv s.sp rows:=hb21.1 (by simpa using hc22)
   have hll:=hok.bU
   have hmm:=hok.many
   refine .o (.call se rfl (eC (s:=s) hs (h1.mono hle02) (h2.mono hle02) (h3.mono hle02) (h4.mono hle02) hok.early) ?_);rintro _ w ⟨H3,hle3,⟨ul,rfl,hL⟩,hs⟩
   obtain ⟨al,cl,rfl⟩:=RL.shape hL
   have hle03:=hle02.trans hle3
   have hbd:=fun b hb=>x9 (b:=b) hhull hb
   have hlim:=fun l hl=>hok.sys.lim l hl
   refine .o (.alloc hs dd rfl fun b6 w hs=>?_)
   refine .o (.aZ (vs:=[_,_]) hs rfl rfl aM fun w hs=>?_)
   refine .nil (.aj ?_)
   refine .o (.buildSlice (cells:=[_]) hs bX rfl rfl fun b25 w hs=>?_)
   refine .o (.alloc hs dV rfl fun b7 w hs=>?_)
   refine .o (.store hs rfl rfl aC fun w hs=>?_)
   refine .nil (.seq (.aj (.z (zfa aJ) (.y hs (zls [_,_,_,_,_,_] aF aB) ?_))))
   refine .o (.call A4 rfl (fN (s:=s.sp) hs (h1.mono hle03) (h2.mono hle03) ⟨ak,ak⟩) ?_);rintro _ w ⟨H4,ba,hle4,rfl,hit,hs⟩
   have hle04:=hle03.trans hle4
   refine .nil (.block ?_)
   refine .rangeFunc (gf:=190) (cap:=[.pointer (some ⟨ba,0,none⟩)]) (xs:=vX s.sp) (σb:=[.blk b7 [.slice (some ⟨b25,0,none⟩) 1 1],.blk b25 (Is [0]),.blk b6 [I s.sys.many,.slice al s.bU.length cl],.blk b3 [.slice ah rows.length ch]]) (σf:=σ) (hs.sb) trivial rfl hit A2 (fun x hx=>by
     simp only [vX,List.mem_map] at hx
     obtain ⟨j,_,rfl⟩:=hx;rfl) rfl
    (I:=fun p H' σb=>∃vo en,σb=[.blk b7 [vo],en,.blk b6 [I s.sys.many,.slice al s.bU.length cl],.blk b3 [.slice ah rows.length ch]]∧cz 1 vo (Is (xl1 s (gt rows) (p+1))) en) (Ix:=fun _ _ _=>False)
    (fun j _ _ σ g1 g2=>g2) (fun _ _ _ _ _ h=>h) ⟨_,_,rfl,.full rfl⟩ ?_ ?_ (fun D c H' σb w _ h _=>h.elim)
   ·rintro ly p hp H5 σb2 σf2 w hle5 ⟨vo,en,rfl,hO⟩ hs ⟨rr,hrr⟩
    have hpm:p<s.sp.many:=by rw [eJ] at hp;exact hp
    have hin:p/s.sp.wa.length<s.sp.st.length:=Nat.div_lt_of_lt_mul (by rw [Nat.mul_comm];exact hpm)
    have hkm:=Nat.mod_lt p hsm.2.2.1
    have hval:hpt s.sp (gt rows) (p+1)=gi (gr rows (p/s.sp.wa.length)) (p%s.sp.wa.length):=rfl
    have hrow:=hhull.row _ hin
    have hrlen:=hhull.len
    have hr5:=hh.mono (hle04.trans hle5)
    rw [mx hp]
    obtain ⟨ao,lo,co,rfl,hlo⟩:=hO.shape
    have hxl:=lO s (gt rows) (p+1)
    generalize p/s.sp.wa.length=i at*
    generalize p%s.sp.wa.length=k at*
    refine .region ?_
    refine .o (.alloc hs kF rfl fun b8 w hs=>?_)
    refine .o (.aZ (vs:=[_,_,_]) hs rfl rfl oL fun w hs=>?_)
    refine .nil ?_
    refine nT ?_
    refine ⟨H5,[.blk b8 [I (i:Int),I (k:Int),I ((p+1:Nat):Int)],.blk b7 [.slice ao lo co],en,.blk b6 [I s.sys.many,.slice al s.bU.length cl],.blk b3 [.slice ah rows.length ch]],HLe.refl _,hs,?_⟩;rintro w σf4 - hs
    refine .block ?_
    refine .draw mix rfl hs fun w hs=>?_
    refine .y 0 rfl hs an ?_;refine .z 1 rfl (zfa dz) ?_;refine .y 2 rfl hs eg ?_;refine .z 3 rfl (zfa dJ) ?_;refine .y 4 rfl hs af ?_
    refine .ixT (i:=5) hs rfl aq .none hr5 rfl rfl au aC (show i<_ by omega) cJ ?_;intro b35 o35 a35 c35 hc35 hR35
    refine .r (i:=6) hs rfl aq .none (aO rfl an hc35) ?_
    refine .z 7 rfl (zfa dt) ?_;refine .y 8 rfl hs af ?_
    refine .ixX (enc:=fun x=>[I x]) (i:=9) hs rfl aq .none hR35 rfl rfl ae ai (bE (l:=(gr rows i)) (i:=k) ak) cJ ?_;intro b39 o39 hc39;replace hc39:=bI.one hc39
    refine .r (i:=10) hs rfl aq .none (aO rfl af hc39) ?_
    refine .E 11 hs ?_
    refine .buildSlice (cells:=[_]) hs bX rfl rfl ?_;intro b41 w hs
    refine .go ?_
    refine .E 12 hs ?_
    refine .append (ys:=Is [gi (gr rows i) k]) hs bg rfl rfl hO (.own (c:=Is [gi (gr rows i) k]) (by first|exact .here|exact .there .here) rfl rfl) (dM _) (fun l h=>by simp at h;omega) ?_;intro v42 en42 w hO2 hs
    rw [←List.map_append,←hval,←CR] at hO2
    obtain ⟨a42,l42,c42,rfl,h42⟩:=hO2.shape
    refine .go ?_
    refine .E 13 hs ?_
    refine .store hs rfl rfl aC ?_;intro w hs
    refine .go ?_
    refine .D hs ?_
    refine nB ?_
    exact ⟨H5,[.blk b7 [.slice a42 l42 c42],en42,.blk b6 [I s.sys.many,.slice al s.bU.length cl],.blk b3 [.slice ah rows.length ch]],HLe.refl _,(hs.sb:St H5 w (.blk b7 _::en42:: .blk b6 _:: .blk b3 _::σf4)),_,_,rfl,hO2⟩
   ·rintro D H5 σb2 w hle5 ⟨vo,en,rfl,hO⟩ hs
    rw [eJ] at hO
    replace hs:St H5 w (.obj D (.deferred (some [])):: .blk b7 [vo]::en:: .blk b6 [I s.sys.many,.slice al s.bU.length cl]:: .blk b3 [.slice ah rows.length ch]::σ):=hs
    obtain ⟨ao,lo,co,rfl,hlo⟩:=hO.shape
    have hxl:=lO s (gt rows) (s.sp.many+1)
    have hlo':lo=s.sp.many+1:=by simp [Is] at hlo;omega
    subst hlo'
    have hL5:=hL.mono (hle4.trans hle5)
    have hleF:=hle04.trans hle5
    refine nB (nT ?_)
    refine .seq (.aj (.y hs (zld an) (.z (cN ae) (.z zg (.nil (.block ?_))))))
    refine .loop (fun j:Nat=>⟨81,marks [D],[(9,I ((s.sp.many+1+j:Nat):Int)),(7,.pointer (some ⟨b7,0,none⟩)),(6,.pointer (some ⟨b6,0,none⟩))]⟩)
     (fun j w=>j≤s.bD.length∧∃ax cx en,cz 1 (.slice ax (s.sp.many+1+j) cx) (Is (xl1 s (gt rows) (s.sp.many+1)++xl2 s (gt rows) j)) en∧St H5 w (.obj D (.deferred (some [])):: .blk b7 [.slice ax (s.sp.many+1+j) cx]::en:: .blk b6 [I s.sys.many,.slice al s.bU.length cl]::σ)) (fun j=>s.bD.length - j) 0 a8
     ⟨Nat.zero_le _,_,_,_,by show cz 1 _ (Is (_++[])) _;rw [List.append_nil];exact hO,hs.sb⟩ ?_
    clear hs hO
    rintro j w ⟨hj,ax,cx,en,hO,hs⟩
    have hsys:s.sys.many=((s.sp.many+s.bD.length:Nat):Int):=rfl
    have hx2:=vC s (gt rows) j
    have hxall:(xl1 s (gt rows) (s.sp.many+1)++xl2 s (gt rows) j).length=s.sp.many+1+j:=by rw [List.length_append,hxl,hx2]
    refine .seq (.aj (.z zm (.z (zfa bA) (.y hs (zld af) (.z wc (.nil ?_))))))
    refine (.bJ rfl (fun hc48=>?_) (fun hc48=>?_))
    ·refine .skip ?_
     refine nT ?_
     refine .seq (.block (.aj (.z zg (.nil (.seq (.aj (.z (zfa bh) (.y hs (zld bT) (.z (cN aH) ?_)))))))))
     refine .z zm (.nil ?_)
     refine .for (N:=s.bU.length) (J:=fun k fr w=>fr=[(10,I (sn (hpt s.sp (gt rows)) (s.sp.many+1+j:Nat) (s.bU.take k))),(52,.slice al s.bU.length cl),(9,I ((s.sp.many+1+j:Nat):Int)),(7,.pointer (some ⟨b7,0,none⟩)),(6,.pointer (some ⟨b6,0,none⟩))]∧St H5 w (.obj D (.deferred (some [])):: .blk b7 [.slice ax (s.sp.many+1+j) cx]::en:: .blk b6 [I s.sys.many,.slice al s.bU.length cl]::σ)) ak ?_ ?_ ?_
     ·exact .mk ⟨rfl,hs⟩
     ·rintro k fr w hk ⟨rfl,hs⟩
      obtain ⟨l,hx⟩:=nth (l:=s.bU) hk
      have hlm:=List.mem_of_getElem? hx
      obtain ⟨⟨gA,gB⟩,hsd⟩:=jX hok.early hlm
      have hM:=(hlim l hlm).2.2.2.1
      obtain ⟨eB,hB⟩:∃b:Nat,l.B=b:=⟨_,(Int.toNat_of_nonneg gB).symm⟩
      have hB1:l.B.toNat=eB:=by rw [hB,Int.toNat_natCast]
      rw [hB1] at hsd
      have hbl:=yV (hpt s.sp (gt rows)) (s.sp.many+1+j:Nat) (s.bU.take k)
      refine .block (.aj ?_)
      refine .ixX (enc:=Lim.c) hs hL5 rfl rfl aH aQ hx rfl ?_;intro b56 o56 hc56
      refine .q hs (cj (vs:=l.c) rfl dS aQ hc56) ?_
      refine .o (.alloc hs eG rfl fun b12 w hs=>?_)
      refine .o (.aZ (vs:=l.c) hs rfl rfl aQ fun w hs=>?_)
      refine .nil (.aj (.z (zfa dD) (.y hs (zld af) (.z zm (.z fw (.nil ?_))))))
      refine (.bJ rfl (fun hc61=>?_) (fun hc61=>?_))
      ·refine .draw mix rfl hs fun w hs=>?_
       have hbB:=hbd eB ak
       obtain ⟨bo,co',sp,hv,rfl,hcap⟩:=hO.blk (by rw [hxall];omega)
       simp only [Value.slice.injEq] at hv
       obtain ⟨rfl,-,rfl⟩:=hv
       have hgx:gi (xl1 s (gt rows) (s.sp.many+1)++xl2 s (gt rows) j) eB=hpt s.sp (gt rows) eB:=we s _ _ ak
       refine .z 0 rfl zm ?_;refine .y 1 rfl hs an ?_;refine .z 2 rfl (zfa dO) ?_;refine .y 3 rfl hs af ?_
       rw [hB]
       refine .z 4 rfl (zix (j:=eB) ae ai) ?_
       refine .load (i:=5) hs rfl aq .none rfl af ?_ (hv:=fI ak sp)
       rw [hgx]
       refine .z 6 rfl (zfa eH) ?_;refine .y 7 rfl hs af ?_;refine .z 8 rfl gO ?_;refine .z 9 rfl CJ ?_;refine .z 10 rfl zg ?_;refine .D hs ?_
       refine nB (nT ?_)
       exact .mk ⟨by rw [df hx,nC,if_pos ak,hB1],hs.sb⟩
      ·refine .skip ?_
       refine nB (nT ?_)
       exact .mk ⟨by rw [df hx,nC,if_neg ak],hs.sb⟩
     ·rintro fr w ⟨rfl,hs⟩
      rw [List.take_length]
      refine nT ?_
      refine .region (.y hs (zld an) (.z zm ?_))
      refine .o (.buildSlice (cells:=[_]) hs bX rfl rfl fun b75 w hs=>?_)
      refine .o (.append (ys:=Is [sn (hpt s.sp (gt rows)) (s.sp.many+1+j:Nat) s.bU]) hs bg rfl rfl hO (.own .here rfl rfl) (dM _) (fun l h=>by simp only [Is,List.length_map,hxall] at h;omega) ?_);intro v76 en76 w hO2 hs
      rw [←List.map_append,List.append_assoc,←CQ] at hO2
      obtain ⟨a76,c76,rfl⟩:=hO2.kL
      have hx3:(xl1 s (gt rows) (s.sp.many+1)++xl2 s (gt rows) (j+1)).length=s.sp.many+1+(j+1):=by rw [List.length_append,hxl,vC]
      rw [hx3] at hO2 ⊢
      refine .o (.store hs rfl rfl aC fun w hs=>?_)
      refine .nil ?_
      refine nB (nT ?_)
      refine .region (.z zm (.z cH (.z zg (.nil ?_))))
      refine nT ?_
      exact ⟨j+1,.cn rfl (by simp;omega) a8,⟨ak,_,_,_,hO2,hs.sb⟩,ak⟩
    ·refine .exit ?_
     refine xT (xT (xB (nT ?_)))
     refine .seq (.aj (.y hs (zls [_,_] bp aM) (.y hs (zld an) ?_)))
     obtain rfl:j=s.bD.length:=by omega
     obtain ⟨H6,hle6,hX,hs⟩:=cz.cK hO (by rw [hxall];omega) hs cU
     refine .o (.call Tryz.call76 rfl (nM (s:=s.sys) hs ⟨_,rfl,hL5.mono hle6⟩ hX) ?_);rintro _ w ⟨e79,rfl,hP,hs⟩
     have hn:=rj s
     have hkeep:Cz s.sys (xl1 s (gt rows) (s.sp.many+1)++xl2 s (gt rows) s.bD.length)↔∃f,Kp s (gt rows) f:=by
      rw [←CP hok]
      refine ⟨fun h=>h.xm,fun h=>⟨by rw [hxall,hn];omega,by rw [we s _ _ ak];rfl,fun b hb=>?_,h⟩⟩
      rw [hn] at hb
      by_cases e:b<s.sp.many+1
      ·rw [we s _ _ e]
       have:=hbd b ak
       omega
      ·rw [show b=s.sp.many+1+(b - (s.sp.many+1)) by omega,zx s _ ak]
       have g1:=yV (hpt s.sp (gt rows)) (s.sp.many+1+(b - (s.sp.many+1)):Nat) s.bU
       have g2:=DJ hok hhull (b - (s.sp.many+1))
       omega
     refine .z gP (.nil ?_)
     refine (.eI rfl (fun hc80=>?_) (fun hc80=>?_))
     ·refine .aj (.z zg (.nil ?_))
      refine .ret (rT (?_))
      refine Fin.gR [D] [] hs fun w hs=>⟨_,results1 Tryz.results63 rfl,H6,_,hleF.trans hle6,rfl,.no hok hhull (fun h=>hc80 ?_),hs.out⟩
      cases hP with
      |bad h=>exact (h (s.sys.cD.2 hok.sys)).elim
      |off _ h1=>exact (h1 (hkeep.2 h)).elim
      |ok=>rfl
     ·refine .skip ?_
      refine nT ?_
      refine .aj (.z zg (.nil ?_))
      refine .ret ?_
      refine Fin.gR [D] [] hs fun w hs=>⟨_,results1 Tryz.results63 rfl,H6,_,hleF.trans hle6,rfl,.ok hok hhull (hkeep.1 ?_),hs.out⟩
      cases hP with
      |bad h=>exact (h (s.sys.cD.2 hok.sys)).elim
      |off _ h1=>omega
      |ok _ h1=>exact h1
set_option maxHeartbeats 8000000 in
theorem qu{v vh:Value}{g:EE}{rows:List (List Int)}{x:Six}(hs:St H w σ)(hg:zo H v g)(hh:RT H vh rows):
  Cl Tryz.prog 12 [v,.agg #[vh],.agg #[I x.a,I x.b,I x.c,I x.d,I x.e,I x.f]] w fun v w'=>v= .bool true∧∃H',HLe H H'∧St H' w' σ:=by
 obtain ⟨vs,v5,v4,vp,rfl,g1,g2,g3,g4⟩:=hg
 obtain ⟨avs,cvs,rfl⟩:=RI.shape g1
 obtain ⟨av5,cv5,rfl⟩:=g2.shape
 obtain ⟨av4,cv4,rfl⟩:=g3.shape
 obtain ⟨avp,cvp,rfl⟩:=RI.shape g4
 obtain ⟨ah,ch,rfl⟩:=hh.shape
 refine Cl.o Tryz.func12 Tryz.ntmps12 ag3 ?_
 refine .aj ?_
 refine .bx hs fun b3 w hs=>?_
 refine .bx hs fun b4 w hs=>?_
 refine .bx hs fun b5 w hs=>?_
 refine .z zg (.nil (.aj ?_))
 refine .o (.call Tryz.call22 rfl (kR hs) ?_);rintro _ w ⟨rfl,H1,hle1,hs⟩
 replace g1:=g1.mono hle1
 replace g2:=g2.mono hle1
 replace g3:=g3.mono hle1
 replace g4:=g4.mono hle1
 refine .z zg (.nil (.aj (.y hs (zls [_,_,_,_,_,_,_] He FG) ?_)))
 refine .o (.call Tryz.call23 rfl (jH hs g1 g2 g3 g4) ?_);rintro _ w ⟨H2,s,vst,vwa,vr,vc,hle2,rfl,h1,h2,h3,h4,hSpl,hs⟩
 obtain ⟨ast,cst,rfl⟩:=RI.shape h1
 obtain ⟨awa,cwa,rfl⟩:=RI.shape h2
 obtain ⟨ar,cr,rfl⟩:=RRd.shape h3
 obtain ⟨ac,cc,rfl⟩:=RCm.shape h4
 refine .o (.alloc hs ck rfl fun b8 w hs=>?_)
 refine .o (.aZ (vs:=[_,_,_,_,_,_,_,_]) hs rfl rfl az fun w hs=>?_)
 refine .nil (.aj (.y hs (zls [_,_,_,_,_,_,_] He FG) ?_))
 refine .o (.call Tryz.call60 rfl (oQ hs (g1.mono hle2) (g2.mono hle2) (g3.mono hle2) (g4.mono hle2)) ?_);rintro _ w ⟨H3,m,y,ust,uwa,ur,uc,uy,e1,e2,e3,e4,e5,hle3,rfl,hM,hOV,hOy,hK,hs⟩
 have hst2:=hM.ok.early.1.st.two
 have hwa2:=hM.ok.early.1.wa.two
 have hst4:=hM.st
 have hwa3:=hM.wa
 have hmr:=hM.rs
 have hmc:=hM.cs
 obtain ⟨H4,hle4,r1,r2,r3,r4,hs,-⟩:=Cy.yX hOV ak ak ak ak hs
 obtain ⟨hyl,-,hyb⟩:=hK.bd
 have hmt:=hM.ok.many
 obtain ⟨H5,hle5,hY,hs⟩:=cz.cK hOy ak hs .here
 obtain ⟨bst,dst,rfl⟩:=RI.shape r1
 obtain ⟨bwa,dwa,rfl⟩:=RI.shape r2
 obtain ⟨br,dr,rfl⟩:=RRd.shape r3
 obtain ⟨bc,dc,rfl⟩:=RCm.shape r4
 obtain ⟨ay,cy,rfl⟩:=RI.shape hY
 have hle25:=hle3.trans (hle4.trans hle5)
 have hle05:=hle1.trans (hle2.trans hle25)
 replace r1:=r1.mono hle5
 replace r2:=r2.mono hle5
 replace r3:=r3.mono hle5
 replace r4:=r4.mono hle5
 replace h1:=h1.mono hle25
 replace h2:=h2.mono hle25
 replace h3:=h3.mono hle25
 replace h4:=h4.mono hle25
 refine .z zm (.z zex (.z zex ?_))
 refine .o (.alloc hs ck rfl fun b9 w hs=>?_)
 refine .o (.aZ (vs:=[_,_,_,_,_,_,_,_]) hs rfl rfl az fun w hs=>?_)
 refine .z zg (.nil (.aj (.z (zfa aJ) (.y hs (zls [_,_,_,_,_,_] aF aB) (.z zm ?_)))))
 refine .o (.call Tryz.call61 rfl (uX (s:=m.sp) hs r1 r2 hY ak ak ak) ?_);rintro _ w ⟨va,us,en,ens,rfl,hO,hR,hs⟩
 have hs:=hs.perm (.cons _ List.perm_append_comm)
 simp only [List.cons_append] at hs
 have hul:=hR.length
 rw [np] at hul
 obtain ⟨bo,cap,sp,rfl,rfl,hcap⟩:∃b cap sp,va= .slice (some ⟨b,0,none⟩) m.sp.st.length cap∧en= .blk b (us++sp)∧us.length+sp.length=cap:=by
  rcases hO with ⟨a,_,h0,_⟩|⟨b,len,cap,sp,g1,g2,g3,g4,g5⟩
  ·rw [h0] at hul;simp at hul;omega
  ·obtain rfl:len=m.sp.st.length:=by omega
   exact ⟨b,cap,sp,g1,g2,by simpa using g4⟩
 refine .o (.alloc hs Tryz.zeroValue63 rfl fun b11 w hs=>?_)
 refine .o (.aZ (vs:=[_]) hs rfl rfl cM fun w hs=>?_)
 refine .nil (.aj ?_)
 refine .z (zia 3 k7 ai) ?_
 refine .y hs (zld af) (.z (zfa dz) (.y hs (zld eg) (.z (cN au) ?_)))
 refine .o (.call di rfl (bP hs ak) ?_);rintro _ w ⟨i,hi,rfl,hs⟩
 have hrow:=tK (s:=m.sp) (x:=y) (i:=i) (n:=m.sp.st.length) ak
 obtain ⟨u,er,A,B,hu,hOr,hE,hupd⟩:=hR.row hrow
 have hrl:=nq m.sp y i m.sp.wa.length
 obtain ⟨b2,cap2,sp2,rfl,rfl,hcap2⟩:=hOr.blk ak
 rw [hrl] at hOr hu hcap2 hupd
 subst hE
 replace hs:St H5 w ((.blk b11 _:: .blk bo _:: .blk b9 _:: .blk b8 _:: .blk b5 _:: .blk b4 _:: .blk b3 _::σ)++(A++ .blk b2 (Is (lU m.sp y i m.sp.wa.length)++sp2)::B)):=hs
 replace hs:=hs.perm xH
 simp only [List.cons_append] at hs
 have hu':(us++sp)[i]? =some (.slice (some ⟨b2,0,none⟩) m.sp.wa.length cap2):=by rw [List.getElem?_append_left ak];exact hu
 refine .z zg (.nil ?_)
 refine .seq (.draw mix rfl hs fun w hs=>?_)
 refine .z 0 rfl (zia 4 k7 ai) ?_
 refine .y 1 rfl hs af ?_;refine .z 2 rfl (zfa dz) ?_;refine .y 3 rfl hs eg ?_;refine .z 4 rfl zm ?_;refine .z 5 rfl (zix (j:=i) au aC) ?_
 refine .load (i:=6) hs rfl aq .none rfl an ?_ (hv:=hu')
 refine .z 7 rfl (cN ae) ?_
 refine .E 8 hs ?_
 refine .call di rfl (bP hs ak) ?_;rintro _ w ⟨k,hk,rfl,hs⟩
 have hyk:=hyb i ak k ak
 have hgk:gi (lU m.sp y i m.sp.wa.length) k=gi y (m.sp.u i k):=by
  have:=DU (s:=m.sp) (x:=y) (i:=i) (k:=k) (n:=m.sp.st.length) ak ak
  unfold gt at this
  rw [Aa ak] at this
  exact this
 refine .go ?_
 refine .z 9 rfl zg ?_;refine .D hs ?_
 refine .seq (.draw mix rfl hs fun w hs=>?_)
 refine .z 0 rfl (zfa dz) ?_;refine .y 1 rfl hs eg ?_;refine .z 2 rfl zm ?_;refine .z 3 rfl (zix (j:=i) au aC) ?_
 refine .load (i:=4) hs rfl aq .none rfl an ?_ (hv:=hu')
 refine .z 5 rfl zm ?_;refine .z 6 rfl (zfa dz) ?_;refine .y 7 rfl hs eg ?_;refine .z 8 rfl zm ?_;refine .z 9 rfl (zix (j:=i) au aC) ?_
 refine .load (i:=10) hs rfl aq .none rfl an ?_ (hv:=hu')
 refine .z 11 rfl zm ?_;refine .z 12 rfl (zix (j:=k) ae ai) ?_
 refine .load (i:=13) hs rfl aq .none rfl af ?_ (hv:=fI ak sp2)
 rw [hgk]
 refine .z 14 rfl (zia 5 k7 ai) ?_
 refine .y 15 rfl hs af ?_
 refine .E 16 hs ?_
 refine .call di rfl (bP hs ak) ?_;rintro _ w ⟨q,hq,rfl,hs⟩
 refine .go ?_
 refine .z 17 rfl cH ?_;refine .z 18 rfl gO ?_;refine .z 19 rfl (zix (j:=k) ae ai) ?_
 refine .E 20 hs ?_
 refine .store (c':=Is ((lU m.sp y i m.sp.wa.length).set k (gi y (m.sp.u i k)+(q:Int) - 20))++sp2) hs rfl rfl ai ?_ .here (j9 ak sp2) (iR ak sp2 _);intro w hs
 refine .go ?_
 refine .D hs ?_
 have hR':=hupd ((lU m.sp y i m.sp.wa.length).set k (gi y (m.sp.u i k)+(q:Int) - 20)) (.blk b2 (Is ((lU m.sp y i m.sp.wa.length).set k (gi y (m.sp.u i k)+(q:Int) - 20))++sp2)) (.inr ⟨b2,m.sp.wa.length,cap2,sp2,rfl,rfl,by simp [Is,hrl],by simp [Is,hrl];omega,ak⟩)
 replace hs:St H5 w (.blk b2 (Is ((lU m.sp y i m.sp.wa.length).set k (gi y (m.sp.u i k)+(q:Int) - 20))++sp2)::((.blk b11 _:: .blk bo _:: .blk b9 _:: .blk b8 _:: .blk b5 _:: .blk b4 _:: .blk b3 _::σ)++(A++B))):=hs
 have hs:=(hs.perm xH.symm).perm List.perm_append_comm
 obtain ⟨H6,hle6,hRL,hs⟩:=hR'.cO (fun r hr=>by
  rcases List.mem_or_eq_of_mem_set hr with h|h
  ·obtain ⟨j,hj⟩:=List.getElem?_of_mem h
   have hjl:=(List.getElem?_eq_some_iff.1 hj).1
   rw [np] at hjl
   rw [tK hjl] at hj
   obtain rfl:=Option.some.inj hj
   rw [nq];omega
  ·subst h;rw [List.length_set,hrl];omega) hs
 obtain ⟨H7,hle7,hRT,hs⟩:=hRL.cO hO ak hs (.there .here)
 have hle57:=hle6.trans hle7
 replace r1:=r1.mono hle57
 replace r2:=r2.mono hle57
 replace r3:=r3.mono hle57
 replace r4:=r4.mono hle57
 replace h1:=h1.mono hle57
 replace h2:=h2.mono hle57
 replace h3:=h3.mono hle57
 replace h4:=h4.mono hle57
 replace hh:=hh.mono (hle05.trans hle57)
 generalize (sE m.sp y m.sp.st.length).set i ((lU m.sp y i m.sp.wa.length).set k (gi y (m.sp.u i k)+(q:Int) - 20))=t at*
 clear hR' hRL hupd hOr hu' hu hrow
 refine .aj (.z (zfa aJ) (.y hs (zls [_,_,_,_,_,_] aF aB) ?_))
 refine .z (zia 0 k7 ai) ?_
 refine .y hs (zld af) ?_
 refine .z (zia 1 k7 ai) ?_
 refine .y hs (zld af) ?_
 refine .z (zia 2 k7 ai) ?_
 refine .y hs (zld af) ?_
 refine .q hs (zL (vs:=[(0,I x.a),(1,I x.b),(2,I x.c)]) (cells:=[I x.a,I x.b,I x.c]) Tryz.zeroValue25 rfl aW ai rfl) ?_
 refine .o (.call Tryz.call25 rfl (pn (s:=m.sp) hs r1 r2 hM.ok.early.1) ?_);rintro _ w ⟨q1,rfl,hq1,hs⟩
 refine .o (.alloc hs Tryz.zeroValue29 rfl fun b14 w hs=>?_)
 refine .o (.aZ (vs:=[_,_,_]) hs rfl rfl bV fun w hs=>?_)
 refine .nil (.aj (.z (zfa aJ) (.y hs (zls [_,_,_,_,_,_] aF aB) (.y hs (zls [_] dw cM) (.y hs (zls [_,_,_] dP bV) ?_)))))
 refine .o (.call Tryz.call37 rfl (jq (s:=s.sp) (q:=q1) hs h1 h2 hRT) ?_);rintro _ w ⟨H8,n1,f1,hle8,rfl,hQ1,hs⟩
 refine .z zm (.z zex (.z zex (.z zg (.z zg (.nil (.aj (.z (zfa aJ) (.y hs (zls [_,_,_,_,_,_] aF aB) (.y hs (zls [_] dw cM) ?_)))))))))
 refine .y hs (zls [_,_,_] dP bV) ?_
 refine .o (.call Tryz.call62 rfl (mD (s:=s.sp) (q:=q1) hs (h1.mono hle8) (h2.mono hle8) (hRT.mono hle8)) ?_);rintro _ w ⟨H9,n2,f2,hle9,rfl,hQ2,hs⟩
 obtain ⟨rfl,rfl⟩:=hQ1.uniq hQ2
 have hle79:=hle8.trans hle9
 refine .z zm (.z zex (.z zex (.z zg (.z zg (.nil (.aj (.z (zfa aJ) (.y hs (zls [_,_,_,_,_,_] aF aB) (.y hs (zls [_] dw cM) ?_)))))))))
 refine .y hs (zls [_,_,_] dP bV) ?_
 refine .o (.call Tryz.call37 rfl (jq (s:=s.sp) (q:=q1) hs (h1.mono hle79) (h2.mono hle79) (hh.mono hle79)) ?_);rintro _ w ⟨H10,n3,f3,hle10,rfl,hQ3,hs⟩
 have hle710:=hle79.trans hle10
 refine .z zm (.z zex (.z zex (.z zg (.z zg (.nil (.aj (.z (zfa aJ) (.y hs (zls [_,_,_,_,_,_] aF aB) (.y hs (zls [_] dw cM) ?_)))))))))
 refine .y hs (zls [_,_,_] dP bV) ?_
 refine .o (.call Tryz.call62 rfl (mD (s:=s.sp) (q:=q1) hs (h1.mono hle710) (h2.mono hle710) (hh.mono hle710)) ?_);rintro _ w ⟨H11,n4,f4,hle11,rfl,hQ4,hs⟩
 obtain ⟨rfl,rfl⟩:=hQ3.uniq hQ4
 have hle711:=hle710.trans hle11
 replace r1:=r1.mono hle711
 replace r2:=r2.mono hle711
 replace r3:=r3.mono hle711
 replace r4:=r4.mono hle711
 replace h1:=h1.mono hle711
 replace h2:=h2.mono hle711
 replace h3:=h3.mono hle711
 replace h4:=h4.mono hle711
 replace hh:=hh.mono hle711
 replace hRT:=hRT.mono hle711
 have hle011:=hle05.trans (hle57.trans hle711)
 refine .z zm (.z zex (.z zex (.z zg (.z zg (.nil ?_)))))
 refine .seq (.draw mix rfl hs fun w hs=>?_)
 refine .z 0 rfl zm ?_;refine .z 1 rfl zm ?_;refine .ys 2 rfl hs [_,_,_,_,_,_,_,_] aD az ?_;refine .ys 3 rfl hs [_] dw cM ?_;refine .ys 5 rfl hs [_,_,_,_,_,_,_,_] aD az ?_;refine .ys 6 rfl hs [_] dw cM ?_
 refine .E 4 hs ?_
 refine .call Tryz.call63 rfl (gV (s:=s) hs h1 h2 h3 h4 hh) ?_;rintro _ w ⟨H12,c1,hle12,rfl,hC1,hs⟩
 refine .go ?_
 refine .E 7 hs ?_
 refine .call Tryz.call64 rfl (iJ (s:=s) hs (h1.mono hle12) (h2.mono hle12) (h3.mono hle12) (h4.mono hle12) (hh.mono hle12)) ?_;rintro _ w ⟨H13,c2,hle13,rfl,hC2,hs⟩
 obtain rfl:=hC1.uniq hC2
 have hle1113:=hle12.trans hle13
 refine .go ?_
 refine .z 8 rfl fw ?_;rw [decide_eq_true rfl]
 refine .z 9 rfl zpT ?_;refine .z 10 rfl zm ?_;refine .ys 11 rfl hs [_,_,_,_,_,_,_,_] aD az ?_;refine .ys 12 rfl hs [_] dw cM ?_;refine .ys 14 rfl hs [_,_,_,_,_,_,_,_] aD az ?_;refine .ys 15 rfl hs [_] dw cM ?_
 refine .E 13 hs ?_
 refine .call Tryz.call63 rfl (gV (s:=s) hs (h1.mono hle1113) (h2.mono hle1113) (h3.mono hle1113) (h4.mono hle1113) (hRT.mono hle1113)) ?_;rintro _ w ⟨H14,c3,hle14,rfl,hC3,hs⟩
 have hle1114:=hle1113.trans hle14
 refine .go ?_
 refine .E 16 hs ?_
 refine .call Tryz.call64 rfl (iJ (s:=s) hs (h1.mono hle1114) (h2.mono hle1114) (h3.mono hle1114) (h4.mono hle1114) (hRT.mono hle1114)) ?_;rintro _ w ⟨H15,c4,hle15,rfl,hC4,hs⟩
 obtain rfl:=hC3.uniq hC4
 have hle1115:=hle1114.trans hle15
 refine .go ?_
 refine .z 17 rfl fw ?_;rw [decide_eq_true rfl]
 refine .z 18 rfl zpT ?_;refine .z 19 rfl zm ?_;refine .ys 20 rfl hs [_,_,_,_,_,_,_,_] aD az ?_;refine .ys 21 rfl hs [_] dw cM ?_;refine .ys 23 rfl hs [_,_,_,_,_,_,_,_] aD az ?_;refine .ys 24 rfl hs [_] dw cM ?_
 refine .E 22 hs ?_
 refine .call Tryz.call63 rfl (gV (s:=m) hs (r1.mono hle1115) (r2.mono hle1115) (r3.mono hle1115) (r4.mono hle1115) (hRT.mono hle1115)) ?_;rintro _ w ⟨H16,c5,hle16,rfl,hC5,hs⟩
 have hle1116:=hle1115.trans hle16
 refine .go ?_
 refine .E 25 hs ?_
 refine .call Tryz.call64 rfl (iJ (s:=m) hs (r1.mono hle1116) (r2.mono hle1116) (r3.mono hle1116) (r4.mono hle1116) (hRT.mono hle1116)) ?_;rintro _ w ⟨H17,c6,hle17,rfl,hC6,hs⟩
 obtain rfl:=hC5.uniq hC6
 have hleF:=hle011.trans (hle1116.trans hle17)
 refine .go ?_
 refine .z 26 rfl fw ?_;rw [decide_eq_true rfl]
 refine .z 27 rfl zpT ?_;refine .z 28 rfl zm ?_;refine .z 29 rfl zm ?_;refine .z 30 rfl zm ?_
 refine .z 31 rfl fw ?_;rw [decide_eq_true rfl]
 refine .z 32 rfl zpT ?_;refine .z 33 rfl zm ?_;refine .z 34 rfl zm ?_;refine .z 35 rfl zm ?_
 refine .z 36 rfl fw ?_;rw [decide_eq_true rfl]
 refine .z 37 rfl zpT ?_;refine .z 38 rfl zm ?_;refine .z 39 rfl zm ?_;refine .z 40 rfl zm ?_
 refine .z 41 rfl fw ?_;rw [decide_eq_true rfl]
 refine .z 42 rfl zpT ?_;refine .z 43 rfl zm ?_;refine .z 44 rfl zm ?_;refine .z 45 rfl zm ?_
 refine .z 46 rfl fw ?_;rw [decide_eq_true rfl]
 refine .z 47 rfl zpT ?_;refine .z 48 rfl zg ?_;refine .D hs ?_
 refine .ret (Fin.bK Tryz.results12 rfl ?_)
 exact ⟨rfl,H17,hleF,hs.out⟩
end Go.Proofs.YtddaejgfjlneoaaGreat
