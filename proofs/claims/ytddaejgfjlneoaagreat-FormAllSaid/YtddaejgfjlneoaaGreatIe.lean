/-
  Texts of these claims, joined: Na Nc Nf Ng Ni Nj Nl Nm Nn Nq Nu Nv Ny Nz Oa.
-/
import Derived.Test.YtddaejgfjlneoaaGreatId
namespace Go.Proofs.YtddaejgfjlneoaaGreat
open Go.MW
variable{H:bP}{w:World}{σ:List Ent}
theorem yK{s:Spc}{rs R:List Rdg}{cs:List Cmp}{x:List Int}(hf:fE (Srv.mR ⟨s,rs,cs⟩).cK (gi x))(hx0:gi x 0=0)(hxl:x.length=s.many+(aS rs).length+1)(ht:aS R=aS rs)(hS:∀r∈R,RdS s r)(hR:∀r∈R,AQ s (aS rs) x r):
  nm ⟨s,gy s R,cs⟩ (EC ⟨s,R,cs⟩ x):=by
 have hl:(x.take (s.many+1)).length=s.many+1:=by rw [List.length_take];omega
 refine Ag (R:=R) (x:=x) List.filter_sublist hS hx0 (As hf ht hR) ?_ (fun b hb=>?_) fun j hj=>?_
 ·show (x.take (s.many+1)++(aS (gy s R)).map (lI ⟨s,R,cs⟩ x)).length=_
  rw [List.length_append,hl,List.length_map]
 ·show gi (x.take (s.many+1)++(aS (gy s R)).map (lI ⟨s,R,cs⟩ x)) b=_
  unfold gi
  simp only [List.getD]
  rw [List.getElem?_append_left aj,List.getElem?_take_of_lt aj]
 ·show gi (x.take (s.many+1)++(aS (gy s R)).map (lI ⟨s,R,cs⟩ x)) (s.many+1+j)=_
  have e:∀t,(aS (gy s R))[j]? =some t→gi (x.take (s.many+1)++(aS (gy s R)).map (lI ⟨s,R,cs⟩ x)) (s.many+1+j)=lI ⟨s,R,cs⟩ x t:=fun t ht=>by
   unfold gi
   simp only [List.getD]
   rw [List.getElem?_append_right aj,hl,show s.many+1+j - (s.many+1)=j by omega,List.getElem?_map,ht]
   rfl
  rw [e _ (rj hj)];rfl
set_option maxHeartbeats 2000000 in
theorem sx{vs v5 v4 vp:Value}{sl pk:List Int}{fs5:List F5}{fs4:List F4}{z1 z2 z3:Int}(hs:St H w σ)(g1:RI H vs sl)(g2:RF5 H v5 fs5)(g3:RF4 H v4 fs4)(g4:RI H vp pk):
  Cl Tryz.prog 60 [.agg #[vs,v5,v4,vp,I z1,I z2,I z3]] w fun u w'=>∃H1 s y vst vwa vr vc vy e1 e2 e3 e4 e5,HLe H H1∧u= .tuple #[.agg #[I s.sp.id,I s.sp.src,vst,vwa,I s.sp.al,I s.sp.up,vr,vc],vy]∧AR s∧yY s vst vwa vr vc e1 e2 e3 e4∧bS 1 vy (Is y) e5∧nm s y∧St H1 w' (e1::e2::e3::e4::e5::σ):=by
 obtain ⟨avs,cvs,rfl⟩:=RI.shape g1
 obtain ⟨av5,cv5,rfl⟩:=g2.shape
 obtain ⟨av4,cv4,rfl⟩:=g3.shape
 obtain ⟨avp,cvp,rfl⟩:=RI.shape g4
 refine Cl.o Tryz.func60 Tryz.ntmps60 ag1 ?_
 refine .af ?_
 refine .bx hs fun b1 w hs=>?_
 refine .o (.alloc hs bK rfl fun b2 w hs=>?_)
 refine .z zg (.nil (.af (.z (zfa mi) (.y hs (zld ak) ?_))))
 refine .o (.call Tryz.call35 rfl (nC hs g1) ?_);rintro _ w ⟨s,vst,vwa,e1,e2,rfl,hSp,hO1,hO2,hs⟩
 have hSt:=hSp.st
 have hWa:=hSp.wa
 have hSt2:=hSp.ok.st.two
 have hWa2:=hSp.ok.wa.two
 obtain ⟨ast,lst,cst,rfl,hlst⟩:=hO1.shape
 obtain ⟨awa,lwa,cwa,rfl,hlwa⟩:=hO2.shape
 obtain rfl:s.st.length=lst:=by simpa [Is] using hlst
 obtain rfl:s.wa.length=lwa:=by simpa [Is] using hlwa
 refine .z (zbd [_,_,_,_,_,_,_,_] eW) ?_
 refine .o (.alloc hs bK rfl fun b4 w hs=>?_)
 refine .o (.aO (vs:=[_,_,_,_,_,_,_,_]) hs rfl rfl an fun w hs=>?_)
 refine .nil (.af (.z (zfa aK) (.y hs (zls [_,_,_,_,_,_] aM aE) ?_)))
 refine .o (.alloc hs im rfl fun b5 w hs=>?_)
 refine .o (.aO (vs:=[_,_,_,_,_,_]) hs rfl rfl aE fun w hs=>?_)
 refine .nil ?_
 refine .cut (fun fs w=>∃rs e3 ar cr,mE fs ⟨208,[],[(5,.pointer (some ⟨b5,0,none⟩)),(4,.pointer (some ⟨b4,0,none⟩)),(2,.pointer (some ⟨b2,0,none⟩)),(1,.pointer (some ⟨b1,0,none⟩))]⟩∧rs.length≤14∧rs.length≤fs5.length∧(∀r∈rs,fN s r)∧bS 7 (.slice ar rs.length cr) (rdc rs).flatten e3∧St H w (e3:: .blk b5 [I s.id,I s.src,.slice ast s.st.length cst,.slice awa s.wa.length cwa,I s.al,I s.up]:: .blk b4 [I s.id,I s.src,.slice ast s.st.length cst,.slice awa s.wa.length cwa,I s.al,I s.up,.slice ar rs.length cr,.slice none 0 0]::e1::e2:: .blk b2 [I 0,I 0,.slice none 0 0,.slice none 0 0,I 0,I 0,.slice none 0 0,.slice none 0 0]:: .blk b1 [.slice avs sl.length cvs,.slice av5 fs5.length cv5,.slice av4 fs4.length cv4,.slice avp pk.length cvp,I z1,I z2,I z3]::σ)) ?_ ?_
 ·refine .af (.z zg (.nil (.block ?_)))
  refine .loop (fun p:List Rdg×Option Addr×Nat=>⟨208,[],[(6,I (p.1.length:Int)),(5,.pointer (some ⟨b5,0,none⟩)),(4,.pointer (some ⟨b4,0,none⟩)),(2,.pointer (some ⟨b2,0,none⟩)),(1,.pointer (some ⟨b1,0,none⟩))]⟩)
   (fun p w=>p.1.length≤14∧p.1.length≤fs5.length∧(∀r∈p.1,fN s r)∧∃e3,bS 7 (.slice p.2.1 p.1.length p.2.2) (rdc p.1).flatten e3∧
    St H w (e3:: .blk b5 [I s.id,I s.src,.slice ast s.st.length cst,.slice awa s.wa.length cwa,I s.al,I s.up]:: .blk b4 [I s.id,I s.src,.slice ast s.st.length cst,.slice awa s.wa.length cwa,I s.al,I s.up,.slice p.2.1 p.1.length p.2.2,.slice none 0 0]::e1::e2:: .blk b2 [I 0,I 0,.slice none 0 0,.slice none 0 0,I 0,I 0,.slice none 0 0,.slice none 0 0]:: .blk b1 [.slice avs sl.length cvs,.slice av5 fs5.length cv5,.slice av4 fs4.length cv4,.slice avp pk.length cvp,I z1,I z2,I z3]::σ)) (fun p=>14 - p.1.length) ([],none,0) bD
   ⟨cm,cm,cm,_,.nil 7 none,(hs.sb).nul⟩ ?_
  clear hs
  rintro ⟨rs,ar,cr⟩ w ⟨hr14,hrf,hrok,e3,hO3,hs⟩
  dsimp only at hr14 hrf hrok hO3 hs ⊢
  refine .seq (.af (.z zm (.z (zfa fU) (.y hs (zld Tryz.isAgg23) (.z (c9 Tryz.runUnderlying23) (.z gp (.z zm ?_)))))))
  refine .kf (t':=31) rfl (fun hb31=>?_) (fun hb31=>?_)
  ·refine .gT rfl rfl ?_
   refine .z zm ?_
   refine .gT rfl rfl ?_
   refine .z gp (.z zpT (.nil ?_))
   refine (.ck rfl (fun hc34=>?_) (fun hc34=>?_))
   ·refine .skip ?_
    refine nT ?_
    refine .seq (.block (.af (.z (zfa fU) (.y hs (zld Tryz.isAgg23) (.z zm ?_)))))
    obtain ⟨n,hn⟩:=nth (l:=fs5) (k:=rs.length) aj
    refine .ixX (enc:=F5.v) hs g2 rfl rfl Tryz.runUnderlying23 sL hn dx ?_;intro b40 o40 hc40
    refine .q hs (cd (vs:=n.v) rfl Tryz.isAgg106 sL hc40) ?_
    refine .o (.alloc hs Tryz.zeroValue106 rfl fun b7 w hs=>?_)
    refine .o (.aO (vs:=[_,_,_,_,_]) hs rfl rfl sL fun w hs=>?_)
    refine .nil ?_
    refine .seq (.draw mix rfl hs fun w hs=>?_)
    refine .z 0 rfl (zia 4 br ai) ?_
    refine .y 1 rfl hs ae ?_
    refine .z 3 rfl (zia 4 br ai) ?_
    refine .y 4 rfl hs ae ?_;refine .z 5 rfl DV ?_
    refine .E 2 hs ?_
    refine .call aU rfl (aI hs aj) ?_;rintro _ w ⟨k44,g44,rfl,hs⟩
    refine .go ?_
    refine .E 6 hs ?_
    refine .call aU rfl (aI hs aj) ?_;rintro _ w ⟨k48,g48,rfl,hs⟩
    have m49:0≤(k44:Int)*(k48:Int)∧(k44:Int)*(k48:Int)≤39:=by
     have e1:k48=0∨k48=1:=by omega
     rcases e1 with rfl|rfl<;>simp<;>omega
    refine .go ?_
    refine .z 7 rfl kG ?_;refine .z 8 rfl zg ?_;refine .D hs ?_
    refine .draw mix rfl hs fun w hs=>?_
    refine .z 0 rfl (zfa aZ) ?_;refine .y 1 rfl hs bZ ?_;refine .z 2 rfl zm ?_;refine .z 3 rfl cC ?_
    refine .z 4 rfl (zia 0 br ai) ?_
    refine .y 5 rfl hs ae ?_;refine .z 6 rfl (zfa bu) ?_;refine .y 7 rfl hs ak ?_;refine .z 8 rfl (c9 ad) ?_
    refine .z 10 rfl (zia 1 br ai) ?_
    refine .y 11 rfl hs ae ?_;refine .z 12 rfl (zfa bn) ?_;refine .y 13 rfl hs ak ?_;refine .z 14 rfl (c9 ad) ?_;refine .z 16 rfl zm ?_
    refine .z 17 rfl (zia 2 br ai) ?_
    refine .y 18 rfl hs ae ?_
    refine .z 21 rfl (zia 3 br ai) ?_
    refine .y 22 rfl hs ae ?_
    refine .E 9 hs ?_
    refine .call aU rfl (aI hs aj) ?_;rintro _ w ⟨k59,g59,rfl,hs⟩
    refine .go ?_
    refine .E 15 hs ?_
    refine .call aU rfl (aI hs aj) ?_;rintro _ w ⟨k65,g65,rfl,hs⟩
    refine .go ?_
    refine .E 19 hs ?_
    refine .call aU rfl (aI hs aj) ?_;rintro _ w ⟨k69,g69,rfl,hs⟩
    refine .go ?_
    refine .z 20 rfl cC ?_
    refine .E 23 hs ?_
    refine .call aU rfl (aI hs aj) ?_;rintro _ w ⟨k73,g73,rfl,hs⟩
    obtain ⟨r,hr⟩:∃r:Rdg,r=⟨10+(rs.length:Int),(k59:Int),(k65:Int),0,(k44:Int)*(k48:Int),1+(k69:Int),(k73:Int)⟩:=⟨_,rfl⟩
    have hrOk:fN s r:=by subst hr;exact ⟨by dsimp only;omega,by dsimp only;omega,by dsimp only;omega,by dsimp only;omega,by dsimp only;omega,by dsimp only;omega,by dsimp only;omega⟩
    refine .go ?_
    refine .z 24 rfl (zbd [_,_,_,_,_,_,_] bU) ?_
    refine .E 25 hs ?_
    refine .buildSlice (cells:=r.c) hs eZ rfl (by subst hr;kernel_rfl) ?_;intro b75 w hs
    refine .go ?_
    refine .E 26 hs ?_
    refine .append (ys:=r.c) hs cn rfl rfl hO3 (.own .here rfl rfl) (by simp [Rdg.c,Value.oneCell']) (fun l' h=>by rw [bE _ (gg _),cJ] at h;omega) ?_;intro v76 en76 w hO4 hs
    rw [←qU] at hO4
    obtain ⟨a76,c76,rfl⟩:=hO4.fj (gg _) aj
    rw [cJ] at hO4 ⊢
    refine .go ?_
    refine .z 27 rfl (zfa aZ) ?_
    refine .E 28 hs ?_
    refine .store hs rfl rfl jg ?_;intro w hs
    refine .go ?_
    refine .D hs ?_
    refine nB (nT ?_)
    refine .region (.z zm (.z cC (.z zg (.nil ?_))))
    refine nT ?_
    exact ⟨(rs++[r],a76,c76),.de rfl cm bD,⟨by simp;omega,by simp;omega,fun q hq=>by
      simp only [List.mem_append,List.mem_singleton] at hq
      rcases hq with hq|rfl
      ·exact hrok q hq
      ·exact hrOk,_,hO4,hs.sb⟩,by simp;omega⟩
   ·refine .exit ?_
    refine xT (xT (xB (nT ?_)))
    exact ⟨rs,e3,ar,cr,bD,hr14,hrf,hrok,hO3,hs⟩
  ·refine .gFs 2 5 true rfl rfl rfl ?_
   refine .z zpF (.nil ?_)
   refine (.cF ?_)
   refine .exit ?_
   refine xT (xT (xB (nT ?_)))
   exact ⟨rs,e3,ar,cr,bD,hr14,hrf,hrok,hO3,hs⟩
 ·clear hs
  rintro fs w ⟨rs,e3,ar,cr,hfs,hr14,hrf,hrok,hO3,hs⟩
  refine WE.sub ?_ hfs
  clear hfs
  refine .cut (fun fs w=>∃cs e4 ac cc,mE fs ⟨208,[],[(5,.pointer (some ⟨b5,0,none⟩)),(4,.pointer (some ⟨b4,0,none⟩)),(2,.pointer (some ⟨b2,0,none⟩)),(1,.pointer (some ⟨b1,0,none⟩))]⟩∧cs.length≤5∧(∀c∈cs,nY c)∧(Srv.mR ⟨s,rs,cs⟩).Sound∧bS 6 (.slice ac cs.length cc) (cmc cs).flatten e4∧St H w (e1::e2::e3::e4:: .blk b5 [I s.id,I s.src,.slice ast s.st.length cst,.slice awa s.wa.length cwa,I s.al,I s.up]:: .blk b4 [I s.id,I s.src,.slice ast s.st.length cst,.slice awa s.wa.length cwa,I s.al,I s.up,.slice ar rs.length cr,.slice ac cs.length cc]:: .blk b2 [I 0,I 0,.slice none 0 0,.slice none 0 0,I 0,I 0,.slice none 0 0,.slice none 0 0]:: .blk b1 [.slice avs sl.length cvs,.slice av5 fs5.length cv5,.slice av4 fs4.length cv4,.slice avp pk.length cvp,I z1,I z2,I z3]::σ)) ?_ ?_
  ·refine .af (.z zg (.nil (.block ?_)))
   refine .loop (fun p:Nat×List Cmp×Option Addr×Nat=>⟨208,[],[(9,I (p.1:Int)),(5,.pointer (some ⟨b5,0,none⟩)),(4,.pointer (some ⟨b4,0,none⟩)),(2,.pointer (some ⟨b2,0,none⟩)),(1,.pointer (some ⟨b1,0,none⟩))]⟩)
    (fun p w=>p.1≤5∧p.1≤fs4.length∧p.2.1.length≤p.1∧(∀c∈p.2.1,nY c)∧(Srv.mR ⟨s,rs,p.2.1⟩).Sound∧∃e4,bS 6 (.slice p.2.2.1 p.2.1.length p.2.2.2) (cmc p.2.1).flatten e4∧
     St H w (e1::e2::e3::e4:: .blk b5 [I s.id,I s.src,.slice ast s.st.length cst,.slice awa s.wa.length cwa,I s.al,I s.up]:: .blk b4 [I s.id,I s.src,.slice ast s.st.length cst,.slice awa s.wa.length cwa,I s.al,I s.up,.slice ar rs.length cr,.slice p.2.2.1 p.2.1.length p.2.2.2]:: .blk b2 [I 0,I 0,.slice none 0 0,.slice none 0 0,I 0,I 0,.slice none 0 0,.slice none 0 0]:: .blk b1 [.slice avs sl.length cvs,.slice av5 fs5.length cv5,.slice av4 fs4.length cv4,.slice avp pk.length cvp,I z1,I z2,I z3]::σ)) (fun p=>5 - p.1) (0,[],none,0) bD
    ⟨cm,cm,cm,cm,Au (tQ hSp.ok hSt hWa hr14 cm hrok cm) rfl,.nul,.nil 6 none,(hs.nul).sb⟩ ?_
   clear hs
   rintro ⟨k,cs,ac,cc⟩ w ⟨hk5,hkf,hck,hcok,hsd,e4,hO4,hs⟩
   dsimp only at hk5 hkf hck hcok hsd hO4 hs ⊢
   refine .seq (.af (.z zm (.z (zfa iO) (.y hs (zld Tryz.isAgg24) (.z (c9 Tryz.runUnderlying24) (.z gp (.z zm ?_)))))))
   refine .kf (t':=83) rfl (fun hb83=>?_) (fun hb83=>?_)
   ·refine .gT rfl rfl ?_
    refine .z zm ?_
    refine .gT rfl rfl ?_
    refine .z gp (.z zpT (.nil ?_))
    refine (.ck rfl (fun hc86=>?_) (fun hc86=>?_))
    ·refine .skip ?_
     refine nT ?_
     refine .seq (.block (.af (.z (zfa iO) (.y hs (zld Tryz.isAgg24) (.z zm ?_)))))
     obtain ⟨n,hn⟩:=nth (l:=fs4) (k:=k) aj
     refine .ixX (enc:=F4.v) hs g3 rfl rfl Tryz.runUnderlying24 Tryz.sizeOf199 hn dx ?_;intro b92 o92 hc92
     refine .q hs (cd (vs:=n.v) rfl Tryz.isAgg199 Tryz.sizeOf199 hc92) ?_
     refine .o (.alloc hs Tryz.zeroValue199 rfl fun b10 w hs=>?_)
     refine .o (.aO (vs:=[_,_,_,_]) hs rfl rfl Tryz.sizeOf199 fun w hs=>?_)
     refine .nil (.af ?_)
     refine .z (zia 1 nZ ai) ?_
     refine .y hs (zld ae) ?_
     refine .o (.call aU rfl (aI hs aj) ?_);rintro _ w ⟨k96,g96,rfl,hs⟩
     refine .z hZ (.z zg (.nil (.af ?_)))
     refine .z (zia 3 nZ ai) ?_
     refine .y hs (zld ae) ?_
     refine .o (.call aU rfl (aI hs aj) ?_);rintro _ w ⟨k100,g100,rfl,hs⟩
     refine .z zg (.nil ?_)
     refine .seq (.draw mix rfl hs fun w hs=>?_)
     refine .z 0 rfl (zfa bT) ?_;refine .y 1 rfl hs fO ?_;refine .z 2 rfl zm ?_;refine .z 3 rfl cC ?_
     refine .z 4 rfl (zia 0 nZ ai) ?_
     refine .y 5 rfl hs ae ?_;refine .z 8 rfl zm ?_;refine .z 9 rfl zm ?_
     refine .z 10 rfl (zia 3 nZ ai) ?_
     refine .y 11 rfl hs ae ?_;refine .z 12 rfl DV ?_;refine .z 15 rfl zm ?_;refine .z 16 rfl zm ?_
     refine .z 17 rfl (zia 2 nZ ai) ?_
     refine .y 18 rfl hs ae ?_
     refine .E 6 hs ?_
     refine .call aU rfl (aI hs aj) ?_;rintro _ w ⟨k107,g107,rfl,hs⟩
     refine .go ?_
     refine .z 7 rfl cC ?_
     refine .E 13 hs ?_
     refine .call aU rfl (aI hs aj) ?_;rintro _ w ⟨k114,g114,rfl,hs⟩
     refine .go ?_
     refine .z 14 rfl cC ?_
     refine .E 19 hs ?_
     refine .call aU rfl (aI hs aj) ?_;rintro _ w ⟨k120,g120,rfl,hs⟩
     obtain ⟨c,hc⟩:∃c:Cmp,c=⟨30+(k:Int),1+(k107:Int),(k100:Int),(k100:Int)+(k114:Int),(k96:Int) - 40,(k96:Int) - 40+(k120:Int)⟩:=⟨_,rfl⟩
     have hcOk:nY c:=by subst hc;exact ⟨by dsimp only;omega,by dsimp only;omega,by dsimp only;omega,by dsimp only;omega,by dsimp only;omega,by dsimp only;omega⟩
     refine .go ?_
     refine .z 20 rfl cC ?_;refine .z 21 rfl (zbd [_,_,_,_,_,_] jC) ?_
     refine .E 22 hs ?_
     refine .buildSlice (cells:=c.c) hs gC rfl (by subst hc;kernel_rfl) ?_;intro b123 w hs
     refine .go ?_
     refine .E 23 hs ?_
     refine .append (ys:=c.c) hs dn rfl rfl hO4 (.own .here rfl rfl) (by simp [Cmp.c,Value.oneCell']) (fun l' h=>by rw [bE _ (iY _),dp] at h;omega) ?_;intro v124 en124 w hO5 hs
     rw [←ug] at hO5
     obtain ⟨a124,c124,rfl⟩:=hO5.fj (iY _) aj
     rw [dp] at hO5 ⊢
     have hcl:(cs++[c]).length=cs.length+1:=by simp
     have hcok':∀d∈cs++[c],nY d:=fun d hd=>by
      simp only [List.mem_append,List.mem_singleton] at hd
      rcases hd with hd|rfl
      ·exact hcok d hd
      ·exact hcOk
     have hsok:cS ⟨s,rs,cs++[c]⟩:=tQ hSp.ok hSt hWa hr14 aj hrok hcok'
     refine .go ?_
     refine .z 24 rfl (zfa bT) ?_
     refine .E 25 hs ?_
     refine .store hs rfl rfl pA ?_;intro w hs
     refine .go ?_
     refine .D hs ?_
     refine .af (.y hs (zls [_,_,_,_,_,_,_,_] aq an) ?_)
     obtain ⟨Hx,hlex,r1,r2,r3,r4,hs2,back⟩:=yY.uI (s:=⟨s,rs,cs++[c]⟩) ⟨hO1,hO2,hO3,hO5⟩ (by show s.st.length≤_;omega) (by show s.wa.length≤_;omega) (by show rs.length≤_;omega) (by show (cs++[c]).length≤_;omega) (hs.sb:St H w (e1::e2::e3::en124:: .blk b5 [I s.id,I s.src,.slice ast s.st.length cst,.slice awa s.wa.length cwa,I s.al,I s.up]:: .blk b4 [I s.id,I s.src,.slice ast s.st.length cst,.slice awa s.wa.length cwa,I s.al,I s.up,.slice ar rs.length cr,.slice a124 (cs++[c]).length c124]:: .blk b2 [I 0,I 0,.slice none 0 0,.slice none 0 0,I 0,I 0,.slice none 0 0,.slice none 0 0]:: .blk b1 [.slice avs sl.length cvs,.slice av5 fs5.length cv5,.slice av4 fs4.length cv4,.slice avp pk.length cvp,I z1,I z2,I z3]::σ))
     refine .o (.call Tryz.call142 rfl (rD (s:=⟨s,rs,cs++[c]⟩) hs2 r1 r2 r3 r4 hsok.early (wY hsok)) ?_);rintro _ w ⟨Hy,b127,hley,rfl,hb127,hs3⟩
     have hs:=back hley hs3
     clear hs2 hs3 back
     refine .nil ?_
     refine (.cond rfl (fun hc127=>?_) (fun hc127=>?_))
     ·refine .region (.z (zfa bT) (.y hs (zld fO) (.z (zfa bT) (.y hs (zld fO) (.z (c9 bk) (.z hZ ?_))))))
      refine .q hs (oE (k:=cs.length) rfl rfl bk bG aj (by have:=hO5.le;omega)) ?_
      refine .z (zfa bT) ?_
      refine .o (.store hs rfl rfl pA fun w hs=>?_)
      refine .nil ?_
      refine nB (nT ?_)
      refine .region (.z zm (.z cC (.z zg (.nil ?_))))
      refine nT ?_
      exact ⟨(k+1,cs,a124,c124),.de rfl cm bD,⟨by dsimp only;omega,by dsimp only;omega,by dsimp only;omega,hcok,hsd,_,hO5.Dv,hs.sb⟩,by dsimp only;omega⟩
     ·refine .skip ?_
      refine nB (nT ?_)
      refine .region (.z zm (.z cC (.z zg (.nil ?_))))
      refine nT ?_
      exact ⟨(k+1,cs++[c],a124,c124),.de rfl cm bD,⟨by dsimp only;omega,by dsimp only;omega,by dsimp only;omega,hcok',hb127 (by simpa using hc127),_,hO5,hs.sb⟩,by dsimp only;omega⟩
    ·refine .exit ?_
     refine xT (xT (xB (nT ?_)))
     exact ⟨cs,e4,ac,cc,bD,aj,hcok,hsd,hO4,hs⟩
   ·refine .gFs 2 5 true rfl rfl rfl ?_
    refine .z zpF (.nil ?_)
    refine (.cF ?_)
    refine .exit ?_
    refine xT (xT (xB (nT ?_)))
    exact ⟨cs,e4,ac,cc,bD,aj,hcok,hsd,hO4,hs⟩
  ·clear hs
   rintro fs w ⟨cs,e4,ac,cc,hfs,hc5,hcok,hsd,hO4,hs⟩
   refine WE.sub ?_ hfs
   clear hfs
   have hsok:cS ⟨s,rs,cs⟩:=tQ hSp.ok hSt hWa hr14 hc5 hrok hcok
   refine .af (.y hs (zls [_,_,_,_,_,_,_,_] aq an) (.z (zfa mh) (.y hs (zld ak) ?_)))
   obtain ⟨Hx,hlex,r1,r2,r3,r4,hs2,back⟩:=yY.uI (s:=⟨s,rs,cs⟩) ⟨hO1,hO2,hO3,hO4⟩ (by show s.st.length≤_;omega) (by show s.wa.length≤_;omega) (by show rs.length≤_;omega) (by show cs.length≤_;omega) hs
   refine .o (.call Tryz.call143 rfl (rC (s:=⟨s,rs,cs⟩) hs2 r1 r2 r3 r4 (g4.mono hlex) hsok.early ⟨wY hsok,hsd⟩) ?_);rintro v139 w ⟨Hy,x,ex,hley,hOx,hP,hs3⟩
   have hs:=back hley hs3
   clear hs2 hs3 back r1 r2 r3 r4
   obtain ⟨hxl,hx0,hxb,hfe⟩:=hP.vQ (wY hsok) hsd
   have hsm:=hsok.many
   have hfn:(Srv.mR ⟨s,rs,cs⟩).n=s.many+(aS rs).length+1:=kI ⟨s,rs,cs⟩
   have hxl:x.length=s.many+(aS rs).length+1:=by rw [hxl];exact hfn
   rw [hfn] at hxb
   have hsm:s.many+(aS rs).length≤64:=hsm
   obtain ⟨Hz,hlez,hX,hs⟩:=bS.cV hOx aj hs dw
   obtain ⟨ax,cx,rfl⟩:=RI.shape hX
   refine .z zg (.nil (.seq (.af (.z zg (.nil (.block ?_))))))
   refine .loop (fun p:Nat×List Rdg=>⟨208,[],[(14,I (p.1:Int)),(13,.slice ax x.length cx),(5,.pointer (some ⟨b5,0,none⟩)),(4,.pointer (some ⟨b4,0,none⟩)),(2,.pointer (some ⟨b2,0,none⟩)),(1,.pointer (some ⟨b1,0,none⟩))]⟩)
    (fun p w=>p.1≤rs.length∧p.2.length=rs.length∧aS p.2=aS rs∧(∀r∈p.2,RdS s r)∧(∀j<p.1,∀r,p.2[j]? =some r→AQ s (aS rs) x r)∧∃e3,bS 7 (.slice ar rs.length cr) (rdc p.2).flatten e3∧
     St Hz w (e1::e2::e3::e4:: .blk b5 [I s.id,I s.src,.slice ast s.st.length cst,.slice awa s.wa.length cwa,I s.al,I s.up]:: .blk b4 [I s.id,I s.src,.slice ast s.st.length cst,.slice awa s.wa.length cwa,I s.al,I s.up,.slice ar rs.length cr,.slice ac cs.length cc]:: .blk b2 [I 0,I 0,.slice none 0 0,.slice none 0 0,I 0,I 0,.slice none 0 0,.slice none 0 0]:: .blk b1 [.slice avs sl.length cvs,.slice av5 fs5.length cv5,.slice av4 fs4.length cv4,.slice avp pk.length cvp,I z1,I z2,I z3]::σ)) (fun p=>rs.length - p.1) (0,rs) bD
    ⟨cm,rfl,rfl,fun r hr=>⟨(hrok r hr).st,(hrok r hr).wa,(hrok r hr).tol⟩,fun j hj=>by omega,e3,hO3,hs⟩ ?_
   clear hs hO3
   rintro ⟨k,R⟩ w ⟨hk,hRl,hRt,hRs,hRv,e3,hO3,hs⟩
   dsimp only at hk hRl hRt hRs hRv hO3 hs ⊢
   refine .seq (.af (.z zm (.z (zfa aZ) (.y hs (zld bZ) (.z (c9 aF) (.z gp (.nil ?_)))))))
   refine (.ck rfl (fun hc144=>?_) (fun hc144=>?_))
   ·refine .skip ?_
    refine nT ?_
    refine .seq (.block (.af (.z (zfa fU) (.y hs (zld Tryz.isAgg23) (.z zm ?_)))))
    obtain ⟨n,hn⟩:=nth (l:=fs5) (k:=k) aj
    obtain ⟨r,hr⟩:=nth (l:=R) (k:=k) aj
    have hrS:=hRs r (List.mem_of_getElem? hr)
    obtain ⟨u,hu1,hu2⟩:=hrS.u
    have hrst:=hrS.st
    have hrwa:=hrS.wa
    have hrtol:=hrS.tol
    have hmem:r.td∈aS R:=dV.2 ⟨r,List.mem_of_getElem? hr,rfl⟩
    obtain ⟨q,q1,q2,q3⟩:=ee hmem
    rw [hRt] at q3
    have hb1:=hxb u aj
    have hb2:=hxb (s.many+1+q) aj
    obtain ⟨bo,co,sp,hv,rfl,hcap⟩:=hO3.CO (gg _) aj (by rw [cJ];omega)
    simp only [Value.slice.injEq] at hv
    obtain ⟨rfl,hv2,rfl⟩:=hv
    obtain ⟨Hx,hlex,r1,r2,r3,r4,hs2,back⟩:=yY.uI (s:=⟨s,R,cs⟩) ⟨hO1,hO2,hO3,hO4⟩ (by show s.st.length≤_;omega) (by show s.wa.length≤_;omega) (by show R.length≤_;omega) (by show cs.length≤_;omega) hs
    clear hs
    have hs:=hs2
    clear hs2
    refine .ixX (enc:=F5.v) hs (g2.mono (hlez.trans hlex)) rfl rfl Tryz.runUnderlying23 sL hn dx ?_;intro b150 o150 hc150
    refine .q hs (cd (vs:=n.v) rfl Tryz.isAgg106 sL hc150) ?_
    refine .o (.alloc hs Tryz.zeroValue106 rfl fun b15 w hs=>?_)
    refine .o (.aO (vs:=[_,_,_,_,_]) hs rfl rfl sL fun w hs=>?_)
    refine .nil (.af (.z (zfa aZ) (.y hs (zld bZ) (.z zm ?_))))
    refine .ixX (enc:=Rdg.c) hs r3 rfl rfl aF aD hr dx ?_;intro b155 o155 hc155
    refine .q hs (cd (vs:=r.c) rfl cg aD hc155) ?_
    refine .o (.alloc hs bH rfl fun b16 w hs=>?_)
    refine .o (.aO (vs:=[_,_,_,_,_,_,_]) hs rfl rfl aD fun w hs=>?_)
    refine .nil (.af (.y hs (zls [_,_,_,_,_,_] aM aE) (.z (zfa ea) (.y hs (zld ae) (.z (zfa dZ) (.y hs (zld ae) ?_))))))
    refine .o (.call m8 rfl (dC (s:=s) hs r2 aj aj aj) ?_);rintro _ w ⟨rfl,hs⟩
    rw [hu1]
    refine .z zg (.nil ?_)
    refine .seq (.draw mix rfl hs fun w hs=>?_)
    refine .ys 0 rfl hs [_,_,_,_,_,_] aM aE ?_;refine .z 3 rfl (zfa aZ) ?_;refine .y 4 rfl hs bZ ?_;refine .z 6 rfl (zfa dY) ?_;refine .y 7 rfl hs ae ?_;refine .z 8 rfl (zfa dX) ?_;refine .y 9 rfl hs ae ?_;refine .z 10 rfl (zbd [_,_] fb) ?_
    refine .E 1 hs ?_
    refine .call Tryz.call97 rfl (fI (s:=s) hs r1 r2 ⟨aj,aj⟩) ?_;rintro _ w ⟨rfl,hs⟩
    refine .go ?_
    refine .z 2 rfl cC ?_
    refine .E 5 hs ?_
    refine .call Tryz.call94 rfl (gJ (rs:=R) hs r3 aj) ?_;rintro v168 w ⟨Hw,hlew,hT,hs⟩
    refine .go ?_
    refine .E 11 hs ?_
    refine .call Tryz.call93 rfl (iS (t:=r.td) hs hT (by rw [hRt];omega)) ?_;rintro _ w ⟨rfl,hs⟩
    rw [q1]
    refine .go ?_
    refine .z 12 rfl cC ?_;refine .z 13 rfl zg ?_;refine .D hs ?_
    refine .seq (.draw mix rfl hs fun w hs=>?_)
    refine .z 0 rfl (zia 4 br ai) ?_
    refine .y 1 rfl hs ae ?_;refine .z 2 rfl DV ?_;refine .z 3 rfl (zfa bR) ?_;refine .y 4 rfl hs ae ?_;refine .z 5 rfl kG ?_;refine .z 6 rfl cC ?_;refine .z 8 rfl (zfa bR) ?_;refine .y 9 rfl hs ae ?_
    refine .E 7 hs ?_
    refine .call aU rfl (aI hs aj) ?_;rintro _ w ⟨k183,g183,rfl,hs⟩
    refine .go ?_
    refine .z 10 rfl hZ ?_;refine .z 11 rfl zg ?_;refine .D hs ?_
    refine .draw mix rfl hs fun w hs=>?_
    refine .z 0 rfl (zfa aZ) ?_;refine .y 1 rfl hs bZ ?_;refine .z 2 rfl zm ?_;refine .z 3 rfl zm ?_;refine .z 4 rfl zm ?_
    have hs:=back hlew hs
    refine .ixX (enc:=fun x=>[I x]) (i:=5) hs rfl au .none hX rfl rfl ad ai (bJ (l:=x) (i:=u) aj) rfl ?_;intro b192 o192 hc192;replace hc192:=bQ.one hc192
    refine .r (i:=6) hs rfl au .none (bh rfl ae hc192) ?_
    refine .z 7 rfl zm ?_;refine .z 8 rfl zm ?_
    refine .ixX (enc:=fun x=>[I x]) (i:=9) hs rfl au .none hX rfl rfl ad ai (bJ (l:=x) (i:=s.many+1+q) aj) (by push_cast;rfl) ?_;intro b196 o196 hc196;replace hc196:=bQ.one hc196
    refine .r (i:=10) hs rfl au .none (bh rfl ae hc196) ?_
    refine .z 11 rfl hZ ?_;refine .z 12 rfl zm ?_;refine .z 13 rfl cC ?_
    first|(refine .ixw 14 rfl hs aF aD ?_;intro b201 o201 hc201)|refine .z 14 rfl (sO aF aD) ?_
    refine .z 15 rfl (zfa dv) ?_
    refine .E 16 hs ?_
    refine .store (c':=(rdc (R.set k {r with val:=gi x u - gi x (s.many+1+q)+((k183:Int) - r.tol)})).flatten++sp) hs rfl rfl ai ?_ dw (Nat.ble_eq_true_of_le (by rw [List.length_append,bE _ (gg _),cJ];omega)) (wG hr sp _);intro w hs
    refine .go ?_
    refine .D hs ?_
    refine nB (nT ?_)
    refine .region (.z zm (.z cC (.z zg (.nil ?_))))
    refine nT ?_
    exact ⟨(k+1,R.set k {r with val:=gi x u - gi x (s.many+1+q)+((k183:Int) - r.tol)}),.de rfl cm bD,⟨by dsimp only;omega,by dsimp only;rw [List.length_set];exact hRl,by dsimp only;rw [uT hr];exact hRt,fun y hy=>by
      rcases List.mem_or_eq_of_mem_set hy with h|h
      ·exact hRs y h
      ·subst h;exact ⟨hrst,hrwa,hrtol⟩,fun j hj y hy=>by
      dsimp only at hj hy
      by_cases e:j=k
      ·subst e
       rw [List.getElem?_set_self aj] at hy
       obtain rfl:=Option.some.inj hy
       have q1':gS (aS rs) r.td=q:=by rw [←hRt];exact q1
       unfold AQ
       show gi x (1+r.st*s.wa.length+r.wa).toNat - gi x (s.many+1+gS (aS rs) r.td).toNat - r.tol≤_∧_≤gi x (1+r.st*s.wa.length+r.wa).toNat - gi x (s.many+1+gS (aS rs) r.td).toNat+r.tol
       rw [hu1,q1',show ((s.many:Int)+1+(q:Int)).toNat=s.many+1+q by omega,Int.toNat_natCast]
       dsimp only
       omega
      ·rw [List.getElem?_set_ne aj] at hy
       exact hRv j aj y hy,_,BI hO3 _,hs.sb⟩,by dsimp only;omega⟩
   ·refine .exit ?_
    refine xT (xT (xB (nT ?_)))
    refine .af (.y hs (zls [_,_,_,_,_,_,_,_] aq an) (.z zm ?_))
    obtain rfl:k=rs.length:=by omega
    obtain ⟨Hx,hlex,r1,r2,r3,r4,hs2,back⟩:=yY.uI (s:=⟨s,R,cs⟩) ⟨hO1,hO2,hO3,hO4⟩ (by show s.st.length≤_;omega) (by show s.wa.length≤_;omega) (by show R.length≤_;omega) (by show cs.length≤_;omega) hs
    refine .o (.call Tryz.call144 rfl (oC (s:=⟨s,R,cs⟩) (x:=x) hs2 r1 r2 r3 ⟨_,_,_,rfl⟩ (hX.mono hlex) (by rw [kI];show _=s.many+(aS R).length+1;rw [hRt];exact hxl) ⟨by show s.st.length≤_;omega,by show s.wa.length≤_;omega,by show R.length≤_;omega⟩) ?_);rintro _ w ⟨Hy,vr',vy,er,ey,hley,rfl,hOr,hOy,hs3⟩
    have hs:=back hley hs3
    clear hs2 hs3 back r1 r2 r3 r4
    have hkl:=rV s R
    obtain ⟨arr,crr,rfl⟩:=hOr.fj (gg _) aj
    obtain ⟨ayy,lyy,cyy,rfl,-⟩:=hOy.shape
    refine .z zex (.z zex ?_)
    refine .o (.aO (vs:=[_,_,_,_,_,_,_,_]) hs rfl rfl an fun w hs=>?_)
    refine .z zg (.nil ?_)
    refine .ret ?_
    exact Fin.gI [] [] hs fun w hs=>⟨_,results2 Tryz.results60 (di (vs:=[_,_,_,_,_,_,_,_]) hs rfl aq an) rfl,Hz,⟨s,gy s R,cs⟩,_,_,_,_,_,_,e1,e2,er,e4,ey,hlez,rfl,
     ⟨hSt,hWa,by show (gy s R).length≤14;omega,hc5,tQ hSp.ok hSt hWa aj hc5 (fun r h=>(vF h).2) hcok⟩,⟨hO1,hO2,hOr,hO4⟩,hOy,yK hfe hx0 hxl hRt hRs (fun r hr=>by
      obtain ⟨j,hj⟩:=List.getElem?_of_mem hr
      have:=(List.getElem?_eq_some_iff.1 hj).1
      exact hRv j aj r hj),hs.sb⟩
end Go.Proofs.YtddaejgfjlneoaaGreat
namespace Go.Proofs.YtddaejgfjlneoaaGreat
open Go.MW
theorem oA:Tryz.prog.stoodInHeld 44=false:=by kernel_rfl
theorem oB:Tryz.prog.eqGuardType Tryz.prog.depth 44=false:=by kernel_rfl
end Go.Proofs.YtddaejgfjlneoaaGreat
namespace Go.Proofs.YtddaejgfjlneoaaGreat
open Go.MW
variable{H:bP}{w:World}{σ:List Ent}
theorem qw{v:Value}{xs:List Rdg}(hs:St H w σ)(hr:RRd H v xs)(hx:xs.length≤1000000):Cl Tryz.prog 198 [v] w fun v w'=>∃en,bS 7 v (rdc xs).flatten en∧St H w' (en::σ):=by
 obtain ⟨a,c,rfl⟩:=RRd.shape hr
 refine Cl.o Tryz.func198 Tryz.ntmps198 ag1 ?_
 refine .af (.z zg (.nil (.seq (.af (.z zm ?_)))))
 refine .q hs (zQ rfl rfl aF) ?_
 refine .nil ?_
 refine (.cond rfl (fun hc4=>?_) (fun hc4=>?_))
 ·refine .af (.z zg (.nil ?_))
  refine .ret (rT (Fin.bI Tryz.results198 rfl ?_))
  obtain rfl:a=none:=by simpa using hc4
  obtain rfl:=RRd.zY hr
  exact ⟨.nul,.nil 7 none,hs.nul⟩
 ·refine .skip ?_
  refine nT ?_
  refine .af ?_
  refine .o (.buildSlice (cells:=[]) hs je rfl rfl fun b5 w hs=>?_)
  refine .z zm ?_
  refine .o (.append (xs:=[]) (ys:=(rdc xs).flatten) hs cn rfl rfl (.full (len:=0) rfl) (DM hr) (Bx xs) (fun l h=>by simp at h;omega) ?_);intro v7 en7 w hO hs
  refine .z zg (.nil ?_)
  refine .ret (Fin.bI Tryz.results198 rfl ?_)
  exact ⟨en7,hO,hs⟩
theorem qx{v:Value}{xs:List Cmp}(hs:St H w σ)(hr:RCm H v xs)(hx:xs.length≤1000000):Cl Tryz.prog 199 [v] w fun v w'=>∃en,bS 6 v (cmc xs).flatten en∧St H w' (en::σ):=by
 obtain ⟨a,c,rfl⟩:=RCm.shape hr
 refine Cl.o Tryz.func199 Tryz.ntmps199 ag1 ?_
 refine .af (.z zg (.nil (.seq (.af (.z zm ?_)))))
 refine .q hs (zQ rfl rfl bk) ?_
 refine .nil ?_
 refine (.cond rfl (fun hc4=>?_) (fun hc4=>?_))
 ·refine .af (.z zg (.nil ?_))
  refine .ret (rT (Fin.bI Tryz.results199 rfl ?_))
  obtain rfl:a=none:=by simpa using hc4
  obtain rfl:=RCm.zY hr
  exact ⟨.nul,.nil 6 none,hs.nul⟩
 ·refine .skip ?_
  refine nT ?_
  refine .af ?_
  refine .o (.buildSlice (cells:=[]) hs jf rfl rfl fun b5 w hs=>?_)
  refine .z zm ?_
  refine .o (.append (xs:=[]) (ys:=(cmc xs).flatten) hs dn rfl rfl (.full (len:=0) rfl) (AP hr) (x9 xs) (fun l h=>by simp at h;omega) ?_);intro v7 en7 w hO hs
  refine .z zg (.nil ?_)
  refine .ret (Fin.bI Tryz.results199 rfl ?_)
  exact ⟨en7,hO,hs⟩
set_option maxHeartbeats 1000000 in
theorem jz{s:Srv}{vst vwa vr vc:Value}(hs:St H w σ)(h1:RI H vst s.sp.st)(h2:RI H vwa s.sp.wa)(h3:RRd H vr s.rs)(h4:RCm H vc s.cs)
  (l1:s.sp.st.length≤1000000) (l2:s.sp.wa.length≤1000000) (l3:s.rs.length≤1000000) (l4:s.cs.length≤1000000):
  Cl Tryz.prog 122 [.agg #[I s.sp.id,I s.sp.src,vst,vwa,I s.sp.al,I s.sp.up,vr,vc]] w fun u w'=>∃ust uwa ur uc e1 e2 e3 e4,u= .agg #[I s.sp.id,I s.sp.src,ust,uwa,I s.sp.al,I s.sp.up,ur,uc]∧yY s ust uwa ur uc e1 e2 e3 e4∧St H w' (e1::e2::e3::e4::σ):=by
 obtain ⟨ast,cst,rfl⟩:=RI.shape h1
 obtain ⟨awa,cwa,rfl⟩:=RI.shape h2
 obtain ⟨ar,cr,rfl⟩:=RRd.shape h3
 obtain ⟨ac,cc,rfl⟩:=RCm.shape h4
 refine Cl.o Tryz.func122 Tryz.ntmps122 ag1 ?_
 refine .af ?_
 refine .bx hs fun b1 w hs=>?_
 refine .o (.alloc hs bK rfl fun b2 w hs=>?_)
 refine .nil ?_
 refine .seq (.draw mix rfl hs fun w hs=>?_)
 refine .z 0 rfl (zfa aK) ?_;refine .z 1 rfl (zfa bu) ?_;refine .y 2 rfl hs ak ?_;refine .z 4 rfl (zfa aK) ?_;refine .z 5 rfl (zfa bn) ?_;refine .y 6 rfl hs ak ?_
 refine .E 3 hs ?_
 refine .call Tryz.call197 rfl (gH hs h1 aj) ?_;rintro v6 w ⟨e1,hO1,hs⟩
 obtain ⟨a6,c6,rfl⟩:=hO1.kq
 refine .go ?_
 refine .z 8 rfl (zfa aK) ?_;refine .z 9 rfl (zfa bu) ?_
 refine .E 7 hs ?_
 refine .call Tryz.call197 rfl (gH hs h2 aj) ?_;rintro v10 w ⟨e2,hO2,hs⟩
 obtain ⟨a10,c10,rfl⟩:=hO2.kq
 refine .go ?_
 refine .E 10 hs ?_
 refine .store hs rfl rfl aB ?_;intro w hs
 refine .go ?_
 refine .z 11 rfl (zfa aK) ?_;refine .z 12 rfl (zfa bn) ?_
 refine .E 13 hs ?_
 refine .store hs rfl rfl aB ?_;intro w hs
 refine .go ?_
 refine .D hs ?_
 refine .seq (.draw mix rfl hs fun w hs=>?_)
 refine .z 0 rfl (zfa aZ) ?_;refine .y 1 rfl hs bZ ?_;refine .z 3 rfl (zfa bT) ?_;refine .y 4 rfl hs fO ?_
 refine .E 2 hs ?_
 refine .call Tryz.call198 rfl (qw hs h3 aj) ?_;rintro v17 w ⟨e3,hO3,hs⟩
 obtain ⟨a17,c17,rfl⟩:=hO3.fj (gg _) aj
 refine .go ?_
 refine .z 6 rfl (zfa aZ) ?_
 refine .E 5 hs ?_
 refine .call Tryz.call199 rfl (qx hs h4 aj) ?_;rintro v20 w ⟨e4,hO4,hs⟩
 obtain ⟨a20,c20,rfl⟩:=hO4.fj (iY _) aj
 refine .go ?_
 refine .E 7 hs ?_
 refine .store hs rfl rfl jg ?_;intro w hs
 refine .go ?_
 refine .z 8 rfl (zfa bT) ?_
 refine .E 9 hs ?_
 refine .store hs rfl rfl pA ?_;intro w hs
 refine .go ?_
 refine .D hs ?_
 refine .af (.y hs (zls [_,_,_,_,_,_,_,_] aq an) ?_)
 refine .o (.aO (vs:=[_,_,_,_,_,_,_,_]) hs rfl rfl an fun w hs=>?_)
 refine .nil ?_
 refine .ret ?_
 exact Fin.gI [] [] hs fun w hs=>⟨_,results1 Tryz.results122 (di (vs:=[_,_,_,_,_,_,_,_]) hs rfl aq an),_,_,_,_,e1,e2,e3,e4,rfl,⟨hO1,hO2,hO3,hO4⟩,hs.sb⟩
set_option maxHeartbeats 2000000 in
theorem ky{s:Srv}{r:Rdg}{vst vwa vr vc:Value}(hs:St H w σ)(h1:RI H vst s.sp.st)(h2:RI H vwa s.sp.wa)(h3:RRd H vr s.rs)(h4:RCm H vc s.cs):
  Cl Tryz.prog 48 [.agg #[I s.sp.id,I s.sp.src,vst,vwa,I s.sp.al,I s.sp.up,vr,vc],.agg #[I r.src,I r.st,I r.wa,I r.val,I r.tol,I r.tape,I r.day]] w fun u w'=>∃H1 v t e,HLe H H1∧u= .tuple #[v,I e]∧RSv H1 v t∧wc s r t e∧St H1 w' σ:=by
 obtain ⟨ast,cst,rfl⟩:=RI.shape h1
 obtain ⟨awa,cwa,rfl⟩:=RI.shape h2
 obtain ⟨ar,cr,rfl⟩:=RRd.shape h3
 obtain ⟨ac,cc,rfl⟩:=RCm.shape h4
 refine Cl.o Tryz.func48 Tryz.ntmps48 ag2 ?_
 refine .af ?_
 refine .bx hs fun b2 w hs=>?_
 refine .bx hs fun b3 w hs=>?_
 refine .o (.alloc hs bK rfl fun b4 w hs=>?_)
 refine .z zg (.nil (.seq (.af (.y hs (zls [_,_,_,_,_,_,_,_] aq an) ?_))))
 refine .o (.call iG rfl (cD (s:=s) hs h1 h2 h3 h4) ?_);rintro _ w ⟨H1,e,hle1,rfl,hC,hs⟩
 refine .z zg (.nil (.af (.z zm (.z fM (.nil ?_)))))
 refine (.eD rfl (fun hc11=>?_) (fun hc11=>?_))
 ·refine .af (.z (zbd [_,_,_,_,_,_,_,_] eW) (.z zm ?_))
  refine .o (.aO (vs:=[_,_,_,_,_,_,_,_]) hs rfl rfl an fun w hs=>?_)
  refine .z zg (.nil ?_)
  refine .ret (rT (?_))
  exact Fin.gI [] [] hs fun w hs=>⟨_,results2 Tryz.results48 (di (vs:=[_,_,_,_,_,_,_,_]) hs rfl aq an) rfl,H1,_,_,_,hle1,rfl,EL _,.bad hC hc11,hs.out⟩
 ·refine .skip ?_
  refine nT ?_
  refine .seq (.af (.z (zfa aK) (.y hs (zls [_,_,_,_,_,_] aM aE) (.y hs (zls [_,_,_,_,_,_,_] cg aD) ?_))))
  have hok:cS s:=hC.bL.1 (by simpa using hc11)
  have hsm:=dB hok.early.1
  have hrl:=hok.early.2.1
  have hcl:=hok.early.2.2.1
  refine .o (.call Tryz.call107 rfl (fF (s:=s.sp) (r:=r) hs (h1.mono hle1) (h2.mono hle1)) ?_);rintro _ w ⟨b17,rfl,hb17,hs⟩
  refine .z iq (.nil ?_)
  refine (.cond rfl (fun hc18=>?_) (fun hc18=>?_))
  ·refine .af (.z (zbd [_,_,_,_,_,_,_,_] eW) ?_)
   refine .o (.aO (vs:=[_,_,_,_,_,_,_,_]) hs rfl rfl an fun w hs=>?_)
   refine .z zg (.nil ?_)
   refine .ret (rT (?_))
   exact Fin.gI [] [] hs fun w hs=>⟨_,results2 Tryz.results48 (di (vs:=[_,_,_,_,_,_,_,_]) hs rfl aq an) rfl,H1,_,_,_,hle1,rfl,EL _,.rdg hok (fun h=>by rw [hb17.2 h] at hc18;cases hc18),hs.out⟩
  ·refine .skip ?_
   refine nT ?_
   refine .af (.y hs (zls [_,_,_,_,_,_,_,_] aq an) ?_)
   have hr:fN s.sp r:=hb17.1 (by simpa using hc18)
   refine .o (.call Tryz.call122 rfl (jz (s:=s) hs (h1.mono hle1) (h2.mono hle1) (h3.mono hle1) (h4.mono hle1) aj aj aj aj) ?_);rintro _ w ⟨ust,uwa,ur,uc,e1,e2,e3,e4,rfl,⟨hO1,hO2,hO3,hO4⟩,hs⟩
   obtain ⟨a1,c1,rfl⟩:=hO1.kq
   obtain ⟨a2,c2,rfl⟩:=hO2.kq
   obtain ⟨a3,c3,rfl⟩:=hO3.fj (gg _) aj
   obtain ⟨a4,c4,rfl⟩:=hO4.fj (iY _) aj
   rw [cJ] at hO3 ⊢
   rw [dp] at hO4 ⊢
   refine .o (.alloc hs bK rfl fun b7 w hs=>?_)
   refine .o (.aO (vs:=[_,_,_,_,_,_,_,_]) hs rfl rfl an fun w hs=>?_)
   refine .nil (.af (.z (zfa aZ) (.y hs (zld bZ) (.y hs (zls [_,_,_,_,_,_,_] cg aD) ?_))))
   refine .o (.buildSlice (cells:=r.c) hs eZ rfl au fun b25 w hs=>?_)
   refine .o (.append (ys:=r.c) hs cn rfl rfl hO3 (.own .here rfl rfl) (by simp [Rdg.c,Value.oneCell']) (fun l' h=>by rw [bE _ (gg _),cJ] at h;omega) ?_);intro v26 e3' w hO26 hs
   rw [←qU] at hO26
   obtain ⟨a26,c26,rfl⟩:=hO26.fj (gg _) aj
   rw [cJ] at hO26 ⊢
   refine .z (zfa aZ) ?_
   refine .o (.store hs rfl rfl jg fun w hs=>?_)
   refine .nil (.seq (.af (.y hs (zls [_,_,_,_,_,_,_,_] aq an) ?_)))
   obtain ⟨H2,g1,r1,hs⟩:=bS.cV hO1 aj hs dw
   obtain ⟨H3,g2,r2,hs⟩:=bS.cV hO2 aj hs dw
   obtain ⟨H4,g3,r3,hs⟩:=bS.cf (m:=7) (cs:=rdc (s.rs++[r])) hO26 (gg _) aj (by rw [cJ];simp;omega) hs dw
   obtain ⟨H5,g4,r4,hs⟩:=bS.cf (m:=6) (cs:=cmc s.cs) hO4 (iY _) aj (by rw [dp];omega) hs dw
   replace r1:=r1.mono (g2.trans (g3.trans g4))
   replace r2:=r2.mono (g3.trans g4)
   replace r3:RRd H5 _ (s.rs++[r]):=RRd.mono r3 g4
   replace r4:RCm H5 _ s.cs:=r4
   have hle5:=hle1.trans (g1.trans (g2.trans (g3.trans g4)))
   refine .o (.call iG rfl (cD (s:=s.add r) hs r1 r2 r3 r4) ?_);rintro _ w ⟨H6,e,hle6,rfl,hC2,hs⟩
   have hleF:=hle5.trans hle6
   refine .z fM (.nil ?_)
   refine (.eD rfl (fun hc30=>?_) (fun hc30=>?_))
   ·refine .af (.z (zbd [_,_,_,_,_,_,_,_] eW) ?_)
    refine .o (.aO (vs:=[_,_,_,_,_,_,_,_]) hs rfl rfl an fun w hs=>?_)
    refine .z zg (.nil ?_)
    refine .ret (rT (?_))
    exact Fin.gI [] [] hs fun w hs=>⟨_,results2 Tryz.results48 (di (vs:=[_,_,_,_,_,_,_,_]) hs rfl aq an) rfl,H6,_,_,_,hleF,rfl,EL _,.long hok hr (fun h=>hc30 (hC2.bL.2 h)),hs.out⟩
   ·refine .skip ?_
    refine nT ?_
    refine .af (.y hs (zls [_,_,_,_,_,_,_,_] aq an) ?_)
    refine .o (.aO (vs:=[_,_,_,_,_,_,_,_]) hs rfl rfl an fun w hs=>?_)
    refine .z zg (.nil ?_)
    refine .ret ?_
    exact Fin.gI [] [] hs fun w hs=>⟨_,results2 Tryz.results48 (di (vs:=[_,_,_,_,_,_,_,_]) hs rfl aq an) rfl,H6,_,s.add r,_,hleF,rfl,⟨_,_,_,_,rfl,r1.mono hle6,r2.mono hle6,r3.mono hle6,r4.mono hle6⟩,.ok hok hr (hC2.bL.1 (by simpa using hc30)),hs.out⟩
theorem j6{v:Value}{xs:List Int}{en:Ent}(hs:St H w (en::σ))(hO:bS 1 v (Is xs) en)(hl:xs.length≤17592186044416):
  Cl Tryz.prog 138 [v] w fun u w'=>∃en',u= .tuple #[]∧bS 1 v (Is (xs.mergeSort fun x y=>decide (x≤y))) en'∧St H w' (en'::σ):=by
 rcases hO with ⟨a,rfl,h0,rfl⟩|⟨b,len,cap,sp,rfl,rfl,h3,h4,h5⟩
 ·obtain rfl:xs=[]:=by simpa using h0
  exact (k8 hs).mono fun u w' ⟨h,hs⟩=>⟨.nul,h,by simpa using bS.nil 1 a,hs⟩
 ·obtain rfl:len=xs.length:=by simpa using h3.symm
  exact (lR hs hl).mono fun u w' ⟨h,hs⟩=>⟨_,h,.inr ⟨b,_,cap,sp,rfl,rfl,cm,by simpa using h4,h5⟩,hs⟩
theorem iA{v:Value}{xs:List Int}{en:Ent}(hs:St H w (en::σ))(hO:bS 1 v (Is xs) en)(hl:xs.length≤17592186044416):
  Cl Tryz.prog 139 [v] w fun u w'=>∃en',bS 1 u (Is (Go.Lib.compact xs)) en'∧St H w' (en'::σ):=by
 rcases hO with ⟨a,rfl,h0,rfl⟩|⟨b,len,cap,sp,rfl,rfl,h3,h4,h5⟩
 ·obtain rfl:xs=[]:=by simpa using h0
  exact (jv hs).mono fun u w' ⟨h,hs⟩=>⟨.nul,by rw [h];exact .nil 1 a,hs⟩
 ·obtain rfl:len=xs.length:=by simpa using h3.symm
  have hcl:=Go.Lib.compact_length_le xs
  have h4':xs.length+sp.length=cap:=by simpa using h4
  exact (jN hs hl h5).mono fun u w' ⟨h,hs⟩=>⟨_,.inr ⟨b,_,cap,Is (List.replicate (xs.length - (Go.Lib.compact xs).length) 0)++sp,h,rfl,cm,by simp;omega,aj⟩,hs⟩
set_option maxHeartbeats 1000000 in
theorem eI{s:Srv}{vst vwa vr vc:Value}(hs:St H w σ)(h3:RRd H vr s.rs)(h4:RCm H vc s.cs)(l3:s.rs.length≤1000000)(l4:s.cs.length≤1000000):
  Cl Tryz.prog 137 [.agg #[I s.sp.id,I s.sp.src,vst,vwa,I s.sp.al,I s.sp.up,vr,vc]] w fun u w'=>∃L en,bS 1 u (Is L) en∧L.length≤s.rs.length+s.cs.length∧ig s.Src L∧St H w' (en::σ):=by
 obtain ⟨ar,cr,rfl⟩:=RRd.shape h3
 obtain ⟨ac,cc,rfl⟩:=RCm.shape h4
 refine Cl.o Tryz.func137 Tryz.ntmps137 ag1 ?_
 refine .af ?_
 refine .bx hs fun b1 w hs=>?_
 refine .z zg (.nil (.af (.z zg (.nil (.seq (.af (.z (zfa aZ) (.y hs (zld bZ) (.z (c9 aF) ?_)))))))))
 refine .z zm (.nil ?_)
 refine .for (N:=s.rs.length) (J:=fun k fr w=>∃v3 en,bS 1 v3 (Is ((s.rs.take k).map Rdg.src)) en∧fr=[(3,v3),(9,.slice ar s.rs.length cr),(1,.pointer (some ⟨b1,0,none⟩))]∧St H w (en:: .blk b1 [I s.sp.id,I s.sp.src,vst,vwa,I s.sp.al,I s.sp.up,.slice ar s.rs.length cr,.slice ac s.cs.length cc]::σ)) aj ?_ ?_ ?_
 ·exact .mk ⟨_,_,.nil 1 none,rfl,hs.nul.sb⟩
 ·rintro k fr w hk ⟨v3,en,hO,rfl,hs⟩
  obtain ⟨x,hx⟩:=nth (l:=s.rs) hk
  obtain ⟨a3,l3',c3,rfl,h3'⟩:=hO.shape
  refine .block (.af ?_)
  refine .ixX (enc:=Rdg.c) hs h3 rfl rfl aF aD hx rfl ?_;intro b13 o13 hc13
  refine .q hs (cd (vs:=x.c) rfl cg aD hc13) ?_
  refine .o (.alloc hs bH rfl fun b5 w hs=>?_)
  refine .o (.aO (vs:=x.c) hs rfl rfl aD fun w hs=>?_)
  refine .nil (.region (.z zm (.z (zfa eb) (.y hs (zld ae) ?_))))
  refine .o (.buildSlice (cells:=[_]) hs bY rfl rfl fun b18 w hs=>?_)
  refine .o (.append (ys:=Is [x.src]) hs bN rfl rfl hO (.own .here rfl rfl) (fH _) (fun l' h=>by simp at h;omega) ?_);intro v19 en19 w hO2 hs
  rw [←List.map_append] at hO2
  refine .z zg (.nil ?_)
  refine nB (nT ?_)
  exact .mk ⟨_,_,by rw [cM hx,List.map_append];exact hO2,rfl,hs.sb⟩
 ·rintro fr w ⟨v3,en,hO,rfl,hs⟩
  rw [List.take_length] at hO
  refine nT ?_
  refine .seq (.af (.z (zfa bT) (.y hs (zld fO) (.z (c9 bk) (.z zm (.nil ?_))))))
  refine .for (N:=s.cs.length) (J:=fun k fr w=>∃v3 en,bS 1 v3 (Is (s.rs.map Rdg.src++(s.cs.take k).map Cmp.src)) en∧fr=[(3,v3),(22,.slice ac s.cs.length cc),(1,.pointer (some ⟨b1,0,none⟩))]∧St H w (en:: .blk b1 [I s.sp.id,I s.sp.src,vst,vwa,I s.sp.al,I s.sp.up,.slice ar s.rs.length cr,.slice ac s.cs.length cc]::σ)) aj ?_ ?_ ?_
  ·exact .mk ⟨_,_,by simpa using hO,rfl,hs⟩
  ·rintro k fr w hk ⟨v3,en,hO,rfl,hs⟩
   obtain ⟨x,hx⟩:=nth (l:=s.cs) hk
   obtain ⟨a3,l3',c3,rfl,h3'⟩:=hO.shape
   refine .block (.af ?_)
   refine .ixX (enc:=Cmp.c) hs h4 rfl rfl bk bG hx rfl ?_;intro b26 o26 hc26
   refine .q hs (cd (vs:=x.c) rfl jh bG hc26) ?_
   refine .o (.alloc hs fB rfl fun b7 w hs=>?_)
   refine .o (.aO (vs:=x.c) hs rfl rfl bG fun w hs=>?_)
   refine .nil (.region (.z zm (.z (zfa eH) (.y hs (zld ae) ?_))))
   refine .o (.buildSlice (cells:=[_]) hs bY rfl rfl fun b31 w hs=>?_)
   refine .o (.append (ys:=Is [x.src]) hs bN rfl rfl hO (.own .here rfl rfl) (fH _) (fun l' h=>by simp at h;omega) ?_);intro v32 en32 w hO2 hs
   rw [←List.map_append] at hO2
   refine .z zg (.nil ?_)
   refine nB (nT ?_)
   exact .mk ⟨_,_,by rw [cM hx,List.map_append,←List.append_assoc];exact hO2,rfl,hs.sb⟩
  ·rintro fr w ⟨v3,en,hO,rfl,hs⟩
   rw [List.take_length] at hO
   have hlen:(s.rs.map Rdg.src++s.cs.map Cmp.src).length=s.rs.length+s.cs.length:=by simp
   refine nT ?_
   refine .af (.z zm ?_)
   refine .o (.call FC rfl (j6 hs hO aj) ?_);rintro _ w ⟨en2,rfl,hO2,hs⟩
   have hml:((s.rs.map Rdg.src++s.cs.map Cmp.src).mergeSort fun x y=>decide (x≤y)).length=s.rs.length+s.cs.length:=by rw [List.length_mergeSort,hlen]
   refine .nil (.af (.z zm ?_))
   refine .o (.call FB rfl (iA hs hO2 aj) ?_);rintro v37 w ⟨en3,hO3,hs⟩
   have hcl:=Go.Lib.compact_length_le ((s.rs.map Rdg.src++s.cs.map Cmp.src).mergeSort fun x y=>decide (x≤y))
   refine .z zg (.nil ?_)
   refine .ret (Fin.bI Tryz.results137 rfl ?_)
   exact ⟨_,en3,hO3,aj,kJ.congr fun x=>C5,hs.sb⟩
set_option maxHeartbeats 1000000 in
theorem mO{s:Srv}{vst vwa vr vc:Value}(hs:St H w σ)(h1:RI H vst s.sp.st)(h2:RI H vwa s.sp.wa)(h3:RRd H vr s.rs)(h4:RCm H vc s.cs):
  Cl Tryz.prog 55 [.agg #[I s.sp.id,I s.sp.src,vst,vwa,I s.sp.al,I s.sp.up,vr,vc]] w fun u w'=>∃H1 vx L e,HLe H H1∧u= .tuple #[vx,I e]∧RI H1 vx L∧L.length≤s.rs.length+s.cs.length+1∧DL s L e∧St H1 w' σ:=by
 refine Cl.o Tryz.func55 Tryz.ntmps55 ag1 ?_
 refine .af ?_
 refine .bx hs fun b1 w hs=>?_
 refine .z zg (.z zg (.nil (.seq (.af (.y hs (zls [_,_,_,_,_,_,_,_] aq an) ?_)))))
 refine .o (.call iG rfl (cD (s:=s) hs h1 h2 h3 h4) ?_);rintro _ w ⟨H1,e,hle1,rfl,hC,hs⟩
 refine .z zg (.nil (.af (.z zm (.z fM (.nil ?_)))))
 refine (.eD rfl (fun hc9=>?_) (fun hc9=>?_))
 ·refine .af (.z zm (.z zg (.z zg (.nil ?_))))
  refine .ret (rT (Fin.kK Tryz.results55 rfl rfl ?_))
  exact ⟨H1,_,[],_,hle1,rfl,RS.nil H1 1 none 0,cm,.bad hC hc9 rfl,hs.out⟩
 ·refine .skip ?_
  refine nT ?_
  refine .seq (.draw mix rfl hs fun w hs=>?_)
  refine .ys 0 rfl hs [_,_,_,_,_,_,_,_] aq an ?_;refine .z 2 rfl (zfa aK) ?_;refine .z 3 rfl (zfa dh) ?_;refine .y 4 rfl hs ae ?_
  refine .e2 (i:=1) (j:=5) au rfl rfl rfl rfl .none .none hs ?_ ?_
  ·have hok:cS s:=hC.bL.1 (by simpa using hc9)
   have hrl:=hok.early.2.1
   have hcl:=hok.early.2.2.1
   refine .call Tryz.call137 rfl (eI (s:=s) hs (h3.mono hle1) (h4.mono hle1) aj aj) ?_;rintro v12 w ⟨L,en,hO,hLl,hR,hs⟩
   obtain ⟨a12,c12,rfl⟩:=hO.kq
   refine .go ?_
   refine .E 5 hs ?_
   refine .buildSlice (cells:=Is [s.sp.src]) hs bY rfl rfl ?_;intro b16 w hs
   refine .go ?_
   refine .E 6 hs ?_
   refine .append (ys:=Is [s.sp.src]) hs bN rfl rfl hO (.own (c:=Is [s.sp.src]) (by first|exact .here|exact .there .here|exact .there (.there .here)) rfl rfl) (fH _) (fun l' h=>by simp at h;omega) ?_;intro v17 en17 w hO2 hs
   rw [←List.map_append] at hO2
   have hlen:(L++[s.sp.src]).length=L.length+1:=by simp
   refine .go ?_
   refine .z 7 rfl zg ?_;refine .D hs ?_
   refine .af (.z zm ?_)
   refine .o (.call FC rfl (j6 hs hO2 aj) ?_);rintro _ w ⟨en3,rfl,hO3,hs⟩
   have hml:((L++[s.sp.src]).mergeSort fun x y=>decide (x≤y)).length=L.length+1:=by rw [List.length_mergeSort,hlen]
   refine .nil (.af (.z zm ?_))
   refine .o (.call FB rfl (iA hs hO3 aj) ?_);rintro v21 w ⟨en4,hO4,hs⟩
   have hcl2:=Go.Lib.compact_length_le ((L++[s.sp.src]).mergeSort fun x y=>decide (x≤y))
   refine .z zg (.z zg (.nil ?_))
   refine .ret (Fin.kK Tryz.results55 rfl rfl ?_)
   obtain ⟨H2,g1,r1,hs⟩:=bS.cV hO4 aj hs dw
   exact ⟨H2,_,_,0,hle1.trans g1,rfl,r1,aj,.ok hok (kJ.congr fun x=>by rw [List.mem_append,List.mem_singleton,hR.mem]),hs.out⟩
  ·refine .buildSlice (cells:=Is [s.sp.src]) hs bY rfl rfl ?_;intro b16 w hs
   refine .go ?_
   refine .E 1 hs ?_
   have hok:cS s:=hC.bL.1 (by simpa using hc9)
   have hrl:=hok.early.2.1
   have hcl:=hok.early.2.2.1
   refine .call Tryz.call137 rfl (eI (s:=s) hs (h3.mono hle1) (h4.mono hle1) aj aj) ?_;rintro v12 w ⟨L,en,hO,hLl,hR,hs⟩
   obtain ⟨a12,c12,rfl⟩:=hO.kq
   refine .go ?_
   refine .E 6 hs ?_
   refine .append (ys:=Is [s.sp.src]) hs bN rfl rfl hO (.own (c:=Is [s.sp.src]) (by first|exact .here|exact .there .here|exact .there (.there .here)) rfl rfl) (fH _) (fun l' h=>by simp at h;omega) ?_;intro v17 en17 w hO2 hs
   rw [←List.map_append] at hO2
   have hlen:(L++[s.sp.src]).length=L.length+1:=by simp
   refine .go ?_
   refine .z 7 rfl zg ?_;refine .D hs ?_
   refine .af (.z zm ?_)
   refine .o (.call FC rfl (j6 hs hO2 aj) ?_);rintro _ w ⟨en3,rfl,hO3,hs⟩
   have hml:((L++[s.sp.src]).mergeSort fun x y=>decide (x≤y)).length=L.length+1:=by rw [List.length_mergeSort,hlen]
   refine .nil (.af (.z zm ?_))
   refine .o (.call FB rfl (iA hs hO3 aj) ?_);rintro v21 w ⟨en4,hO4,hs⟩
   have hcl2:=Go.Lib.compact_length_le ((L++[s.sp.src]).mergeSort fun x y=>decide (x≤y))
   refine .z zg (.z zg (.nil ?_))
   refine .ret (Fin.kK Tryz.results55 rfl rfl ?_)
   obtain ⟨H2,g1,r1,hs⟩:=bS.cV hO4 aj hs dw
   exact ⟨H2,_,_,0,hle1.trans g1,rfl,r1,aj,.ok hok (kJ.congr fun x=>by rw [List.mem_append,List.mem_singleton,hR.mem]),hs.out⟩
theorem mN{s:Spc}{vst vwa:Value}{a b:Int}(hs:St H w σ)(h1:RI H vst s.st)(h2:RI H vwa s.wa):
  Cl Tryz.prog 57 [.agg #[I s.id,I s.src,vst,vwa,I s.al,I s.up],I a,I b] w fun u w'=>∃H1 x e,HLe H H1∧u= .tuple #[I x,I e]∧DJ s a b x e∧St H1 w' σ:=by
 obtain ⟨ast,cst,rfl⟩:=RI.shape h1
 obtain ⟨awa,cwa,rfl⟩:=RI.shape h2
 refine Cl.o Tryz.func57 Tryz.ntmps57 ag3 ?_
 refine .af ?_
 refine .bx hs fun b3 w hs=>?_
 refine .z zg (.z zg (.nil (.seq (.af (.y hs (zls [_,_,_,_,_,_] aM aE) ?_)))))
 refine .o (.call Tryz.call41 rfl (eg (s:=s) hs h1 h2) ?_);rintro _ w ⟨H1,e,hle1,rfl,hC,hs⟩
 refine .z zg (.nil (.af (.z zm (.z fM (.nil ?_)))))
 refine (.eD rfl (fun hc12=>?_) (fun hc12=>?_))
 ·refine .af (.z zm (.z zg (.z zg (.nil ?_))))
  refine .ret (rT (Fin.kK Tryz.results57 rfl rfl ?_))
  obtain ⟨hn,rfl⟩:¬ez s∧e=30:=hC.resolve_left fun h=>hc12 h.2
  exact ⟨H1,_,_,hle1,rfl,.bad hn,hs.out⟩
 ·refine .skip ?_
  refine nT ?_
  refine .seq (.af ?_)
  have hok:ez s:=(hC.resolve_right fun h=>by omega).1
  have hsm:=dB hok
  refine .z zm (.z (zfa bu) (.y hs (zld ak) (.z (c9 ad) (.z hZ ?_))))
  refine .o (.call cQ rfl (bp hs) ?_);rintro _ w ⟨rfl,hs⟩
  refine .z iq (.z zm ?_)
  refine .bif (t':=21) rfl (fun hb21=>?_) (fun hb21=>?_)
  ·refine .gFs 7 7 false rfl rfl rfl ?_
   refine .z zpT (.nil ?_)
   refine (.cT ?_)
   refine .af (.z zg (.z zg (.nil ?_)))
   refine .ret (rT (Fin.kK Tryz.results57 rfl rfl ?_))
   exact ⟨H1,_,_,hle1,rfl,.none hok (by simp_all;omega),hs.out⟩
  ·refine .gT rfl rfl ?_
   refine .z zm ?_
   refine .gT rfl rfl ?_
   refine .z (zfa bn) ?_
   refine .gT rfl rfl ?_
   refine .y hs (zld ak) ?_
   refine .gT rfl rfl ?_
   refine .z (c9 ad) ?_
   refine .gT rfl rfl ?_
   refine .z hZ ?_
   refine .gT rfl rfl ?_
   refine .o (.call cQ rfl (bp hs) ?_);rintro _ w ⟨rfl,hs⟩
   refine .gT rfl rfl ?_
   refine .z iq (.z zpF (.nil ?_))
   refine (.cond rfl (fun hc29=>?_) (fun hc29=>?_))
   ·refine .af (.z zg (.z zg (.nil ?_)))
    refine .ret (rT (Fin.kK Tryz.results57 rfl rfl ?_))
    exact ⟨H1,_,_,hle1,rfl,.none hok (by simp_all;omega),hs.out⟩
   ·refine .skip ?_
    refine nT ?_
    refine .af (.y hs (zls [_,_,_,_,_,_] aM aE) (.z zm (.z zm ?_)))
    have hin:(0≤a∧a≤(s.st.length:Int) - 1)∧0≤b∧b≤(s.wa.length:Int) - 1:=by simp_all
    refine .o (.call Tryz.call118 rfl (gx (s:=s) hs (h2.mono hle1) aj ⟨aj,aj⟩ ⟨aj,aj⟩) ?_);rintro _ w ⟨rfl,hs⟩
    refine .z zg (.z zg (.nil ?_))
    refine .ret (Fin.kK Tryz.results57 rfl rfl ?_)
    exact ⟨H1,_,_,hle1,rfl,.ok hok hin,hs.out⟩
theorem oK{s:Srv}{vst vwa vr vc:Value}(hs:St H w σ)(h1:RI H vst s.sp.st)(h2:RI H vwa s.sp.wa)(h3:RRd H vr s.rs)(h4:RCm H vc s.cs):
  Cl Tryz.prog 54 [.agg #[I s.sp.id,I s.sp.src,vst,vwa,I s.sp.al,I s.sp.up,vr,vc]] w fun u w'=>∃H1 vt ts e,HLe H H1∧u= .tuple #[vt,I e]∧RTd H1 vt ts∧se s e∧ts.length≤60∧(ts=if e=0 then s.bg else [])∧St H1 w' σ:=by
 refine Cl.o Tryz.func54 Tryz.ntmps54 ag1 ?_
 refine .af ?_
 refine .bx hs fun b1 w hs=>?_
 refine .z zg (.z zg (.nil (.seq (.af (.y hs (zls [_,_,_,_,_,_,_,_] aq an) ?_)))))
 refine .o (.call iG rfl (cD (s:=s) hs h1 h2 h3 h4) ?_);rintro _ w ⟨H1,e,hle1,rfl,hC,hs⟩
 refine .z zg (.nil (.af (.z zm (.z fM (.nil ?_)))))
 refine (.eD rfl (fun hc8=>?_) (fun hc8=>?_))
 ·refine .af (.z zm (.z zg (.z zg (.nil ?_))))
  refine .ret (rT (Fin.kK Tryz.results54 rfl rfl ?_))
  exact ⟨H1,_,[],_,hle1,rfl,RS.nil H1 2 none 0,hC,cm,by rw [if_neg hc8],hs.out⟩
 ·refine .skip ?_
  refine nT ?_
  refine .af (.y hs (zls [_,_,_,_,_,_,_,_] aq an) ?_)
  have hok:cS s:=hC.bL.1 (by simpa using hc8)
  have hrl:=hok.early.2.1
  refine .o (.call Tryz.call90 rfl (fJ (s:=s) hs (h3.mono hle1) aj) ?_);rintro v11 w ⟨H2,hle2,hT,hs⟩
  refine .z zg (.z zg (.nil ?_))
  refine .ret (Fin.kK Tryz.results54 rfl rfl ?_)
  exact ⟨H2,_,s.bg,_,hle1.trans hle2,rfl,hT,hC.bL.2 hok▸hC,by have:=cH s.rs;unfold Srv.bg;omega,by rw [if_pos rfl],hs.out⟩
set_option maxHeartbeats 1000000 in
theorem sw{s:Spc}{vst vwa vx:Value}{x:List Int}(hs:St H w σ)(h1:RI H vst s.st)(h2:RI H vwa s.wa)(hx:RI H vx x)(hb1:s.st.length≤1000)(hb2:s.wa.length≤1000)(hxl:s.many+1≤x.length):
  Cl Tryz.prog 61 [.agg #[I s.id,I s.src,vst,vwa,I s.al,I s.up],vx] w fun u w'=>∃va us en ens,u= .agg #[va]∧bS 1 va us en∧qL us (lE s x s.st.length) ens∧St H w' (en::(ens++σ)):=by
 obtain ⟨ast,cst,rfl⟩:=RI.shape h1
 obtain ⟨awa,cwa,rfl⟩:=RI.shape h2
 obtain ⟨ax,cx,rfl⟩:=RI.shape hx
 refine Cl.o Tryz.func61 Tryz.ntmps61 ag2 ?_
 refine .af ?_
 refine .bx hs fun b2 w hs=>?_
 refine .o (.alloc hs Tryz.zeroValue63 rfl fun b4 w hs=>?_)
 refine .nil (.af ?_)
 refine .o (.alloc hs Tryz.zeroValue63 rfl fun b5 w hs=>?_)
 refine .nil (.seq (.af (.z zg (.nil (.block ?_)))))
 refine .loop (fun i:Nat=>⟨40,[],[(6,I (i:Int)),(1,.slice ax x.length cx),(5,.pointer (some ⟨b5,0,none⟩)),(4,.pointer (some ⟨b4,0,none⟩)),(2,.pointer (some ⟨b2,0,none⟩))]⟩)
  (fun i w=>i≤s.st.length∧∃va us en ens,bS 1 va us en∧qL us (lE s x i) ens∧St H w (.blk b5 [va]::en:: .blk b4 [.slice none 0 0]:: .blk b2 [I s.id,I s.src,.slice ast s.st.length cst,.slice awa s.wa.length cwa,I s.al,I s.up]::(ens++σ))) (fun i=>s.st.length - i) 0 bD
  ⟨Nat.zero_le _,_,[],.nul,[],.nil 1 none,.nil,hs.nul.sb⟩ ?_
 clear hs
 rintro i w ⟨hi,va,us,en,ens,hO,hR,hs⟩
 have hul:=hR.length
 rw [jP] at hul
 obtain ⟨aa,la,ca,rfl,hla⟩:=hO.shape
 refine .seq (.af (.z zm (.z (zfa bu) (.y hs (zld ak) (.z (c9 ad) (.z gp (.nil ?_)))))))
 refine (.ck rfl (fun hc13=>?_) (fun hc13=>?_))
 ·refine .skip ?_
  refine nT ?_
  refine .seq (.block (.af (.z zg (.nil (.seq (.af (.z zg (.nil (.block ?_)))))))))
  refine .loop (fun p:Nat×Value=>⟨40,[],[(8,I (p.1:Int)),(7,p.2),(6,I (i:Int)),(1,.slice ax x.length cx),(5,.pointer (some ⟨b5,0,none⟩)),(4,.pointer (some ⟨b4,0,none⟩)),(2,.pointer (some ⟨b2,0,none⟩))]⟩)
   (fun p w=>p.1≤s.wa.length∧∃er,bS 1 p.2 (Is (pM s x i p.1)) er∧St H w (er:: .blk b5 [.slice aa la ca]::en:: .blk b4 [.slice none 0 0]:: .blk b2 [I s.id,I s.src,.slice ast s.st.length cst,.slice awa s.wa.length cwa,I s.al,I s.up]::(ens++σ))) (fun p=>s.wa.length - p.1) (0,.slice none 0 0) bD
   ⟨Nat.zero_le _,.nul,.nil 1 none,hs.nul⟩ ?_
  clear hs
  rintro ⟨k,vr⟩ w ⟨hk,er,hOr,hs⟩
  dsimp only at hk hOr hs ⊢
  have hrl:=lW s x i k
  refine .seq (.af (.z zm (.z (zfa bn) (.y hs (zld ak) (.z (c9 ad) (.z gp (.nil ?_)))))))
  refine (.ck rfl (fun hc20=>?_) (fun hc20=>?_))
  ·refine .skip ?_
   refine nT ?_
   refine .seq (.block (.region (.z zm (.z zm (.y hs (zls [_,_,_,_,_,_] aM aE) (.z zm (.z zm ?_)))))))
   have hub:=re (s:=s) (i:=i) (k:=k) aj aj
   refine .o (.call m8 rfl (dC (s:=s) hs h2 aj ⟨aj,aj⟩ ⟨aj,aj⟩) ?_);rintro _ w ⟨rfl,hs⟩
   rw [show 1+(i:Int)*(s.wa.length:Int)+(k:Int)=((s.u i k:Nat):Int) by unfold Spc.u;push_cast;rfl]
   refine .ixY hs hx rfl rfl ad ai (bJ (l:=x) (i:=(s.u i k)) aj) dx ?_;intro b29 o29 hc29
   refine .q hs (bh rfl ae hc29) ?_
   refine .o (.buildSlice (cells:=[_]) hs bY rfl rfl fun b31 w hs=>?_)
   refine .o (.append (ys:=Is [gi x (s.u i k)]) hs bN rfl rfl hOr (.own .here rfl rfl) (fH _) (fun l h=>by simp at h;omega) ?_);intro v32 en32 w hO2 hs
   rw [←List.map_append,←yu] at hO2
   refine .z zg (.nil ?_)
   refine nB (nT ?_)
   refine .region (.z zm (.z cC (.z zg (.nil ?_))))
   refine nT ?_
   exact ⟨(k+1,v32),.de rfl cm bD,⟨by dsimp only;omega,_,hO2,hs.sb⟩,by dsimp only;omega⟩
  ·refine .exit ?_
   refine xT (xT (xB (nT ?_)))
   refine .region (.z (zfa gh) (.y hs (zld m6) (.z zm ?_)))
   obtain rfl:k=s.wa.length:=by omega
   obtain ⟨ar,cr,rfl⟩:=hOr.kq
   refine .o (.buildSlice (cells:=[.slice ar (pM s x i s.wa.length).length cr]) hs sI rfl rfl fun b36 w hs=>?_)
   refine .o (.append (ys:=[.slice ar (pM s x i s.wa.length).length cr]) hs nQ rfl rfl hO (.own .here rfl rfl) (by simp [Value.oneCell']) (fun l h=>by omega) fun v37 en37 w hO3 hs=>?_)
   obtain ⟨a37,l37,c37,rfl,h37⟩:=hO3.shape
   refine .z (zfa gh) ?_
   refine .o (.store hs rfl rfl Tryz.sizeOf61 fun w hs=>?_)
   refine .nil ?_
   refine nB (nT ?_)
   refine .region (.z zm (.z cC (.z zg (.nil ?_))))
   refine nT ?_
   refine ⟨i+1,.de rfl cm bD,⟨aj,_,_,en37,ens++[er],hO3,by rw [yt];exact hR.snoc hOr,?_⟩,aj⟩
   replace hs:St H w (.blk b5 [.slice a37 l37 c37]::en37:: .blk b4 [.slice none 0 0]:: .blk b2 [I s.id,I s.src,.slice ast s.st.length cst,.slice awa s.wa.length cwa,I s.al,I s.up]::er::(ens++σ)):=hs.sb
   rw [List.append_assoc]
   exact hs.perm (.cons _ (.cons _ (.cons _ (.cons _ List.perm_middle.symm))))
 ·refine .exit ?_
  refine xT (xT (xB (nT ?_)))
  refine .af (.y hs (zls [_] Tryz.isAgg63 D1) ?_)
  refine .o (.aO (vs:=[_]) hs rfl rfl D1 fun w hs=>?_)
  refine .nil ?_
  refine .ret ?_
  obtain rfl:i=s.st.length:=by omega
  exact Fin.gI [] [] hs fun w hs=>⟨_,results1 Tryz.results61 (di (vs:=[_]) hs rfl Tryz.isAgg63 D1),_,us,en,ens,rfl,hO,hR,hs.sb⟩
set_option maxHeartbeats 4000000 in
theorem lG{s:Srv}{rows:List (List Int)}{vst vwa vr vc vh:Value}(hs:St H w σ)(h1:RI H vst s.sp.st)(h2:RI H vwa s.sp.wa)(h3:RRd H vr s.rs)(h4:RCm H vc s.cs)(hh:RT H vh rows):
  Cl Tryz.prog 63 [.agg #[I s.sp.id,I s.sp.src,vst,vwa,I s.sp.al,I s.sp.up,vr,vc],.agg #[vh]] w fun u w'=>∃H1 e,HLe H H1∧u=I e∧Ck s rows e∧St H1 w' σ:=by
 obtain ⟨ast,cst,rfl⟩:=RI.shape h1
 obtain ⟨awa,cwa,rfl⟩:=RI.shape h2
 obtain ⟨ar,cr,rfl⟩:=RRd.shape h3
 obtain ⟨ac,cc,rfl⟩:=RCm.shape h4
 obtain ⟨ah,ch,rfl⟩:=hh.shape
 refine Cl.o Tryz.func63 Tryz.ntmps63 ag2 ?_
 refine .af ?_
 refine .bx hs fun b2 w hs=>?_
 refine .bx hs fun b3 w hs=>?_
 refine .z zg (.nil (.seq (.af (.y hs (zls [_,_,_,_,_,_,_,_] aq an) ?_))))
 refine .o (.call iG rfl (cD (s:=s) hs h1 h2 h3 h4) ?_);rintro _ w ⟨H1,e,hle1,rfl,hC,hs⟩
 refine .z zg (.nil (.af (.z zm (.z fM (.nil ?_)))))
 refine (.eD rfl (fun hc16=>?_) (fun hc16=>?_))
 ·refine .af (.z zm (.z zg (.nil ?_)))
  refine .ret (rT (?_))
  exact Fin.bI Tryz.results63 rfl ⟨H1,_,hle1,rfl,.bad hC hc16,hs.out⟩
 ·refine .skip ?_
  refine nT ?_
  refine .seq (.af (.z (zfa aK) (.y hs (zls [_,_,_,_,_,_] aM aE) (.y hs (zls [_] Tryz.isAgg63 D1) ?_))))
  have hok:cS s:=hC.bL.1 (by simpa using hc16)
  have hsm:=dB hok.early.1
  have hrl:=hok.early.2.1
  refine .o (.call Tryz.call101 rfl (jy (s:=s.sp) hs (h1.mono hle1) (h2.mono hle1) (hh.mono hle1)) ?_);rintro _ w ⟨H2,b21,hle2,rfl,hb21,hs⟩
  have hle02:=hle1.trans hle2
  refine .z iq (.nil ?_)
  refine (.cond rfl (fun hc22=>?_) (fun hc22=>?_))
  ·refine .af (.z zg (.nil ?_))
   refine .ret (rT (?_))
   exact Fin.bI Tryz.results63 rfl ⟨H2,_,hle02,rfl,.hull hok (fun h=>by rw [hb21.2 h] at hc22;cases hc22),hs.out⟩
  ·refine .skip ?_
   refine nT ?_
   refine .af (.y hs (zls [_,_,_,_,_,_,_,_] aq an) ?_)
   have hhull:jE s.sp rows:=hb21.1 (by simpa using hc22)
   have hll:=hok.bV
   have hmm:=hok.many
   refine .o (.call qd rfl (dz (s:=s) hs (h1.mono hle02) (h2.mono hle02) (h3.mono hle02) (h4.mono hle02) hok.early) ?_);rintro _ w ⟨H3,hle3,⟨ul,rfl,hL⟩,hs⟩
   obtain ⟨al,cl,rfl⟩:=RL.shape hL
   have hle03:=hle02.trans hle3
   have hbd:=fun b hb=>CF (b:=b) hhull hb
   have hlim:=fun l hl=>hok.sys.lim l hl
   refine .o (.alloc hs cu rfl fun b6 w hs=>?_)
   refine .o (.aO (vs:=[_,_]) hs rfl rfl aC fun w hs=>?_)
   refine .nil (.af ?_)
   refine .o (.buildSlice (cells:=[_]) hs bY rfl rfl fun b25 w hs=>?_)
   refine .o (.alloc hs dA rfl fun b7 w hs=>?_)
   refine .o (.store hs rfl rfl aB fun w hs=>?_)
   refine .nil (.seq (.af (.z (zfa aK) (.y hs (zls [_,_,_,_,_,_] aM aE) ?_))))
   refine .o (.call zb rfl (eG (s:=s.sp) hs (h1.mono hle03) (h2.mono hle03) ⟨aj,aj⟩) ?_);rintro _ w ⟨H4,ba,hle4,rfl,hit,hs⟩
   have hle04:=hle03.trans hle4
   refine .nil (.block ?_)
   refine .rangeFunc (gf:=190) (cap:=[.pointer (some ⟨ba,0,none⟩)]) (xs:=tp s.sp) (σb:=[.blk b7 [.slice (some ⟨b25,0,none⟩) 1 1],.blk b25 (Is [0]),.blk b6 [I s.sys.many,.slice al s.bV.length cl],.blk b3 [.slice ah rows.length ch]]) (σf:=σ) (hs.sb) trivial rfl hit za (fun x hx=>by
     simp only [tp,List.mem_map] at hx
     obtain ⟨j,_,rfl⟩:=hx;rfl) rfl
    (I:=fun p H' σb=>∃vo en,σb=[.blk b7 [vo],en,.blk b6 [I s.sys.many,.slice al s.bV.length cl],.blk b3 [.slice ah rows.length ch]]∧bS 1 vo (Is (xl1 s (gt rows) (p+1))) en) (Ix:=fun _ _ _=>False)
    (fun j _ _ σ g1 g2=>g2) (fun _ _ _ _ _ h=>h) ⟨_,_,rfl,.full rfl⟩ ?_ ?_ (fun D c H' σb w _ h _=>h.elim)
   ·rintro ly p hp H5 σb2 σf2 w hle5 ⟨vo,en,rfl,hO⟩ hs ⟨rr,hrr⟩
    have hpm:p<s.sp.many:=by rw [dI] at hp;exact hp
    have hin:p/s.sp.wa.length<s.sp.st.length:=Nat.div_lt_of_lt_mul (by rw [Nat.mul_comm];exact hpm)
    have hkm:=Nat.mod_lt p hsm.2.2.1
    have hval:hpt s.sp (gt rows) (p+1)=gi (gr rows (p/s.sp.wa.length)) (p%s.sp.wa.length):=rfl
    have hrow:=hhull.row _ hin
    have hrlen:=hhull.len
    have hr5:=hh.mono (hle04.trans hle5)
    rw [kY hp]
    obtain ⟨ao,lo,co,rfl,hlo⟩:=hO.shape
    have hxl:=kl s (gt rows) (p+1)
    generalize p/s.sp.wa.length=i at*
    generalize p%s.sp.wa.length=k at*
    refine .region ?_
    refine .o (.alloc hs jn rfl fun b8 w hs=>?_)
    refine .o (.aO (vs:=[_,_,_]) hs rfl rfl mX fun w hs=>?_)
    refine .nil ?_
    refine nT ?_
    refine ⟨H5,[.blk b8 [I (i:Int),I (k:Int),I ((p+1:Nat):Int)],.blk b7 [.slice ao lo co],en,.blk b6 [I s.sys.many,.slice al s.bV.length cl],.blk b3 [.slice ah rows.length ch]],HLe.refl _,hs,?_⟩;rintro w σf4 - hs
    refine .block ?_
    refine .draw mix rfl hs fun w hs=>?_
    refine .y 0 rfl hs ak ?_;refine .z 1 rfl (zfa gh) ?_;refine .y 2 rfl hs m6 ?_;refine .z 3 rfl (zfa cZ) ?_;refine .y 4 rfl hs ae ?_
    refine .ixT (i:=5) hs rfl au .none hr5 rfl rfl aA aB (show i<_ by omega) dx ?_;intro b35 o35 a35 c35 hc35 hR35
    refine .r (i:=6) hs rfl au .none (bh rfl ak hc35) ?_
    refine .z 7 rfl (zfa cI) ?_;refine .y 8 rfl hs ae ?_
    refine .ixX (enc:=fun x=>[I x]) (i:=9) hs rfl au .none hR35 rfl rfl ad ai (bJ (l:=(gr rows i)) (i:=k) aj) dx ?_;intro b39 o39 hc39;replace hc39:=bQ.one hc39
    refine .r (i:=10) hs rfl au .none (bh rfl ae hc39) ?_
    refine .E 11 hs ?_
    refine .buildSlice (cells:=[_]) hs bY rfl rfl ?_;intro b41 w hs
    refine .go ?_
    refine .E 12 hs ?_
    refine .append (ys:=Is [gi (gr rows i) k]) hs bN rfl rfl hO (.own (c:=Is [gi (gr rows i) k]) (by first|exact .here|exact .there .here) rfl rfl) (fH _) (fun l h=>by simp at h;omega) ?_;intro v42 en42 w hO2 hs
    rw [←List.map_append,←hval,←A8] at hO2
    obtain ⟨a42,l42,c42,rfl,h42⟩:=hO2.shape
    refine .go ?_
    refine .E 13 hs ?_
    refine .store hs rfl rfl aB ?_;intro w hs
    refine .go ?_
    refine .D hs ?_
    refine nB ?_
    exact ⟨H5,[.blk b7 [.slice a42 l42 c42],en42,.blk b6 [I s.sys.many,.slice al s.bV.length cl],.blk b3 [.slice ah rows.length ch]],HLe.refl _,(hs.sb:St H5 w (.blk b7 _::en42:: .blk b6 _:: .blk b3 _::σf4)),_,_,rfl,hO2⟩
   ·rintro D H5 σb2 w hle5 ⟨vo,en,rfl,hO⟩ hs
    rw [dI] at hO
    replace hs:St H5 w (.obj D (.deferred (some [])):: .blk b7 [vo]::en:: .blk b6 [I s.sys.many,.slice al s.bV.length cl]:: .blk b3 [.slice ah rows.length ch]::σ):=hs
    obtain ⟨ao,lo,co,rfl,hlo⟩:=hO.shape
    have hxl:=kl s (gt rows) (s.sp.many+1)
    have hlo':lo=s.sp.many+1:=by simp [Is] at hlo;omega
    subst hlo'
    have hL5:=hL.mono (hle4.trans hle5)
    have hleF:=hle04.trans hle5
    refine nB (nT ?_)
    refine .seq (.af (.y hs (zld ak) (.z (c9 ad) (.z zg (.nil (.block ?_))))))
    refine .loop (fun j:Nat=>⟨81,marks [D],[(9,I ((s.sp.many+1+j:Nat):Int)),(7,.pointer (some ⟨b7,0,none⟩)),(6,.pointer (some ⟨b6,0,none⟩))]⟩)
     (fun j w=>j≤s.bg.length∧∃ax cx en,bS 1 (.slice ax (s.sp.many+1+j) cx) (Is (xl1 s (gt rows) (s.sp.many+1)++xl2 s (gt rows) j)) en∧St H5 w (.obj D (.deferred (some [])):: .blk b7 [.slice ax (s.sp.many+1+j) cx]::en:: .blk b6 [I s.sys.many,.slice al s.bV.length cl]::σ)) (fun j=>s.bg.length - j) 0 bD
     ⟨Nat.zero_le _,_,_,_,by show bS 1 _ (Is (_++[])) _;rw [List.append_nil];exact hO,hs.sb⟩ ?_
    clear hs hO
    rintro j w ⟨hj,ax,cx,en,hO,hs⟩
    have hsys:s.sys.many=((s.sp.many+s.bg.length:Nat):Int):=rfl
    have hx2:=sP s (gt rows) j
    have hxall:(xl1 s (gt rows) (s.sp.many+1)++xl2 s (gt rows) j).length=s.sp.many+1+j:=by rw [List.length_append,hxl,hx2]
    refine .seq (.af (.z zm (.z (zfa bB) (.y hs (zld ae) (.z wv (.nil ?_))))))
    refine (.ck rfl (fun hc48=>?_) (fun hc48=>?_))
    ·refine .skip ?_
     refine nT ?_
     refine .seq (.block (.af (.z zg (.nil (.seq (.af (.z (zfa bF) (.y hs (zld cA) (.z (c9 aN) ?_)))))))))
     refine .z zm (.nil ?_)
     refine .for (N:=s.bV.length) (J:=fun k fr w=>fr=[(10,I (sq (hpt s.sp (gt rows)) (s.sp.many+1+j:Nat) (s.bV.take k))),(52,.slice al s.bV.length cl),(9,I ((s.sp.many+1+j:Nat):Int)),(7,.pointer (some ⟨b7,0,none⟩)),(6,.pointer (some ⟨b6,0,none⟩))]∧St H5 w (.obj D (.deferred (some [])):: .blk b7 [.slice ax (s.sp.many+1+j) cx]::en:: .blk b6 [I s.sys.many,.slice al s.bV.length cl]::σ)) aj ?_ ?_ ?_
     ·exact .mk ⟨rfl,hs⟩
     ·rintro k fr w hk ⟨rfl,hs⟩
      obtain ⟨l,hx⟩:=nth (l:=s.bV) hk
      have hlm:=List.mem_of_getElem? hx
      obtain ⟨⟨gA,gB⟩,hsd⟩:=l8 hok.early hlm
      have hM:=(hlim l hlm).2.2.2.1
      obtain ⟨eB,hB⟩:∃b:Nat,l.B=b:=⟨_,(Int.toNat_of_nonneg gB).symm⟩
      have hB1:l.B.toNat=eB:=by rw [hB,Int.toNat_natCast]
      rw [hB1] at hsd
      have hbl:=wR (hpt s.sp (gt rows)) (s.sp.many+1+j:Nat) (s.bV.take k)
      refine .block (.af ?_)
      refine .ixX (enc:=Lim.c) hs hL5 rfl rfl aN bj hx rfl ?_;intro b56 o56 hc56
      refine .q hs (cd (vs:=l.c) rfl eC bj hc56) ?_
      refine .o (.alloc hs dF rfl fun b12 w hs=>?_)
      refine .o (.aO (vs:=l.c) hs rfl rfl bj fun w hs=>?_)
      refine .nil (.af (.z (zfa dH) (.y hs (zld ae) (.z zm (.z ir (.nil ?_))))))
      refine (.ck rfl (fun hc61=>?_) (fun hc61=>?_))
      ·refine .draw mix rfl hs fun w hs=>?_
       have hbB:=hbd eB aj
       obtain ⟨bo,co',sp,hv,rfl,hcap⟩:=hO.blk (by rw [hxall];omega)
       simp only [Value.slice.injEq] at hv
       obtain ⟨rfl,-,rfl⟩:=hv
       have hgx:gi (xl1 s (gt rows) (s.sp.many+1)++xl2 s (gt rows) j) eB=hpt s.sp (gt rows) eB:=tu s _ _ aj
       refine .z 0 rfl zm ?_;refine .y 1 rfl hs ak ?_;refine .z 2 rfl (zfa dP) ?_;refine .y 3 rfl hs ae ?_
       rw [hB]
       refine .z 4 rfl (zix (j:=eB) ad ai) ?_
       refine .load (i:=5) hs rfl au .none rfl ae ?_ (hv:=eQ aj sp)
       rw [hgx]
       refine .z 6 rfl (zfa eV) ?_;refine .y 7 rfl hs ae ?_;refine .z 8 rfl hZ ?_;refine .z 9 rfl Cs ?_;refine .z 10 rfl zg ?_;refine .D hs ?_
       refine nB (nT ?_)
       exact .mk ⟨by rw [cM hx,rR,if_pos aj,hB1],hs.sb⟩
      ·refine .skip ?_
       refine nB (nT ?_)
       exact .mk ⟨by rw [cM hx,rR,if_neg aj],hs.sb⟩
     ·rintro fr w ⟨rfl,hs⟩
      rw [List.take_length]
      refine nT ?_
      refine .region (.y hs (zld ak) (.z zm ?_))
      refine .o (.buildSlice (cells:=[_]) hs bY rfl rfl fun b75 w hs=>?_)
      refine .o (.append (ys:=Is [sq (hpt s.sp (gt rows)) (s.sp.many+1+j:Nat) s.bV]) hs bN rfl rfl hO (.own .here rfl rfl) (fH _) (fun l h=>by simp only [Is,List.length_map,hxall] at h;omega) ?_);intro v76 en76 w hO2 hs
      rw [←List.map_append,List.append_assoc,←A7] at hO2
      obtain ⟨a76,c76,rfl⟩:=hO2.kq
      have hx3:(xl1 s (gt rows) (s.sp.many+1)++xl2 s (gt rows) (j+1)).length=s.sp.many+1+(j+1):=by rw [List.length_append,hxl,sP]
      rw [hx3] at hO2 ⊢
      refine .o (.store hs rfl rfl aB fun w hs=>?_)
      refine .nil ?_
      refine nB (nT ?_)
      refine .region (.z zm (.z cC (.z zg (.nil ?_))))
      refine nT ?_
      exact ⟨j+1,.de rfl (by simp;omega) bD,⟨aj,_,_,_,hO2,hs.sb⟩,aj⟩
    ·refine .exit ?_
     refine xT (xT (xB (nT ?_)))
     refine .seq (.af (.y hs (zls [_,_] a8 aC) (.y hs (zld ak) ?_)))
     obtain rfl:j=s.bg.length:=by omega
     obtain ⟨H6,hle6,hX,hs⟩:=bS.cV hO (by rw [hxall];omega) hs dw
     refine .o (.call Tryz.call76 rfl (fY (s:=s.sys) hs ⟨_,rfl,hL5.mono hle6⟩ hX) ?_);rintro _ w ⟨e79,rfl,hP,hs⟩
     have hn:=kI s
     have hkeep:yi s.sys (xl1 s (gt rows) (s.sp.many+1)++xl2 s (gt rows) s.bg.length)↔∃f,Kp s (gt rows) f:=by
      rw [←A6 hok]
      refine ⟨fun h=>h.vQ,fun h=>⟨by rw [hxall,hn];omega,by rw [tu s _ _ aj];rfl,fun b hb=>?_,h⟩⟩
      rw [hn] at hb
      by_cases e:b<s.sp.many+1
      ·rw [tu s _ _ e]
       have:=hbd b aj
       omega
      ·rw [show b=s.sp.many+1+(b - (s.sp.many+1)) by omega,xl s _ aj]
       have g1:=wR (hpt s.sp (gt rows)) (s.sp.many+1+(b - (s.sp.many+1)):Nat) s.bV
       have g2:=BT hok hhull (b - (s.sp.many+1))
       omega
     refine .z fM (.nil ?_)
     refine (.eD rfl (fun hc80=>?_) (fun hc80=>?_))
     ·refine .af (.z zg (.nil ?_))
      refine .ret (rT (?_))
      refine Fin.gI [D] [] hs fun w hs=>⟨_,results1 Tryz.results63 rfl,H6,_,hleF.trans hle6,rfl,.no hok hhull (fun h=>hc80 ?_),hs.out⟩
      cases hP with
      |bad h=>exact (h (s.sys.bL.2 hok.sys)).elim
      |off _ h1=>exact (h1 (hkeep.2 h)).elim
      |ok=>rfl
     ·refine .skip ?_
      refine nT ?_
      refine .af (.z zg (.nil ?_))
      refine .ret ?_
      refine Fin.gI [D] [] hs fun w hs=>⟨_,results1 Tryz.results63 rfl,H6,_,hleF.trans hle6,rfl,.ok hok hhull (hkeep.1 ?_),hs.out⟩
      cases hP with
      |bad h=>exact (h (s.sys.bL.2 hok.sys)).elim
      |off _ h1=>omega
      |ok _ h1=>exact h1
theorem mH{v:Value}{en:Ent}{xs:List Rdg}{g:Nat}{cap:List Value}(q:Rdg→Bool)(hs:St H w (en::σ))(hO:bS 7 v (rdc xs).flatten en)(hl:xs.length≤1000000)(hc:∀args w,(callFunc g args).run Tryz.prog w= .ok (.enter g args) w)
  (hp:∀H' w σ (r:Rdg),HLe H H'→St H' w σ→Cl Tryz.prog g ([.agg r.c.toArray]++cap) w fun u w'=>∃H1,HLe H' H1∧u= .bool (q r)∧St H1 w' σ):
  Cl Tryz.prog 265 [v,.func (.func g) #[] cap.toArray] w fun u w'=>∃H1 i,HLe H H1∧u=I i∧((i= -1∧∀x∈xs,q x=false)∨(∃(k:Nat) (x:Rdg),i=k∧xs[k]? =some x∧q x=true∧∀j<k,∀y,xs[j]? =some y→q y=false))∧St H1 w' (en::σ):=by
 obtain ⟨a,c,rfl⟩:=hO.fj (gg _) aj
 rw [cJ] at hO ⊢
 refine Cl.o Tryz.func265 Tryz.ntmps265 ag2 ?_
 refine .af (.z zg (.nil (.seq (.af (.z zm (.z (c9 aF) (.z zm (.nil ?_))))))))
 refine .for (N:=xs.length) (J:=fun k fr w=>fr=[(1,.func (.func g) #[] cap.toArray),(0,.slice a xs.length c)]∧∃H1,HLe H H1∧(∀j<k,∀y,xs[j]? =some y→q y=false)∧St H1 w (en::σ)) aj ?_ ?_ ?_
 ·exact .mk ⟨rfl,H,HLe.refl H,fun j hj=>by omega,hs⟩
 ·rintro k fr w hk ⟨rfl,H1,hle1,hno,hs⟩
  obtain ⟨x,hx⟩:=nth (l:=xs) hk
  obtain ⟨b,c',sp,hv,rfl,_⟩:=hO.CO (gg _) aj (by rw [cJ];omega)
  simp only [Value.slice.injEq] at hv
  obtain ⟨rfl,-,rfl⟩:=hv
  refine .block (.af (.z zm (.z zg (.nil (.af (.z zm (.z zm (.z zm (.z (sO aF aD) ?_)))))))))
  refine .q hs (gU (vs:=x.c) rfl cg aD .here (qh (gg xs) (wH hx) sp)) ?_
  refine .o (.kT (first:=[]) (cap:=cap) rfl rfl hc (hp _ _ _ x hle1 hs) ?_);rintro _ w ⟨H2,hle2,rfl,hs⟩
  refine .nil ?_
  refine (.cond rfl (fun hc16=>?_) (fun hc16=>?_))
  ·refine .af (.z zm (.z zg (.nil ?_)))
   refine .ret (rB (rT (rB (rT (Fin.bI Tryz.results265 rfl ?_)))))
   exact ⟨H2,_,hle1.trans hle2,rfl,.inr ⟨k,_,rfl,hx,hc16,hno⟩,hs⟩
  ·refine .skip ?_
   refine nB (nT ?_)
   exact .mk ⟨rfl,H2,hle1.trans hle2,ed hno hx hc16,hs⟩
 ·rintro fr w ⟨rfl,H1,hle1,hno,hs⟩
  refine nT ?_
  refine .af (.z zg (.nil ?_))
  refine .ret (Fin.bI Tryz.results265 rfl ?_)
  exact ⟨H1,_,hle1,rfl,.inl ⟨rfl,fun x hx=>by
   obtain ⟨j,hj⟩:=List.getElem?_of_mem hx
   exact hno j (List.getElem?_eq_some_iff.1 hj).1 x hj⟩,hs⟩
set_option maxHeartbeats 1000000 in
theorem lU{v:Value}{en:Ent}{xs:List Rdg}{g:Nat}{cap:List Value}(q:Rdg→Bool)(hs:St H w (en::σ))(hO:bS 7 v (rdc xs).flatten en)(hl:xs.length≤1000000)(hc:∀args w,(callFunc g args).run Tryz.prog w= .ok (.enter g args) w)
  (hp:∀H' w σ (r:Rdg),HLe H H'→St H' w σ→Cl Tryz.prog g ([.agg r.c.toArray]++cap) w fun u w'=>∃H1,HLe H' H1∧u= .bool (q r)∧St H1 w' σ):
  Cl Tryz.prog 213 [v,.func (.func g) #[] cap.toArray] w fun u w'=>∃H1 en',HLe H H1∧bS 7 u (rdc (xs.filter fun x=> !q x)).flatten en'∧St H1 w' (en'::σ):=by
 obtain ⟨a,c,rfl⟩:=hO.fj (gg _) aj
 rw [cJ] at hO ⊢
 refine Cl.o Tryz.func213 Tryz.ntmps213 ag2 ?_
 refine .af (.z zg (.nil (.af (.z zm (.z zm ?_)))))
 refine .o (.call Tryz.call265 rfl (mH q hs hO hl hc hp) ?_);rintro _ w ⟨H1,i0,hle1,rfl,hcase,hs⟩
 refine .z zg (.nil (.seq (.af (.z zm (.z ir (.nil ?_))))))
 refine (.ck rfl (fun hc12=>?_) (fun hc12=>?_))
 ·refine .af (.z zm (.z zg (.nil ?_)))
  refine .ret (rT (Fin.bI Tryz.results213 rfl ?_))
  have hno:∀x∈xs,q x=false:=by
   rcases hcase with ⟨_,h⟩|⟨k,x,h,_⟩
   ·exact h
   ·omega
  have e:xs.filter (fun x=> !q x)=xs:=List.filter_eq_self.2 fun x hx=>by simp [hno x hx]
  exact ⟨H1,en,hle1,by rw [e];exact hO,hs⟩
 ·refine .skip ?_
  refine nT ?_
  refine .seq (.af (.z zm ?_))
  obtain ⟨k0,x0,rfl,hx0,hq0,hno⟩:∃(k:Nat) (x:Rdg),i0=k∧xs[k]? =some x∧q x=true∧∀j<k,∀y,xs[j]? =some y→q y=false:=hcase.resolve_left fun h=>hc12 h.1
  have hk0:=(List.getElem?_eq_some_iff.1 hx0).1
  obtain ⟨b,c',sp,hv,rfl,hc'⟩:=hO.CO (gg _) aj (by rw [cJ];omega)
  simp only [Value.slice.injEq] at hv
  obtain ⟨rfl,-,rfl⟩:=hv
  have hcc:∀Y:List Rdg,((rdc Y).flatten++sp).length=Y.length*7+sp.length:=fun Y=>by rw [List.length_append,bE _ (gg _),cJ]
  have hcap:xs.length≤c:=hO.le
  refine .z cC (.z zg (.nil (.block ?_)))
  refine .loop (fun p:Nat×Nat=>⟨42,[],[(5,I (p.1:Int)),(6,I (p.2:Int)),(1,.func (.func g) #[] cap.toArray),(0,.slice (some ⟨b,0,none⟩) xs.length c)]⟩)
   (fun p w=>k0<p.2∧∃Y H1,HLe H H1∧wq q xs Y p.1 p.2∧St H1 w (.blk b ((rdc Y).flatten++sp)::σ))
   (fun p=>xs.length - p.2) (k0,k0+1) (.cons rfl (.de rfl (by dsimp only;omega) bD))
   ⟨by dsimp only;omega,xs,H1,hle1,.start hx0 hq0 hno,hs⟩ ?_
  clear hs hle1 hcase
  rintro ⟨i,j⟩ w ⟨hkj,Y,H1,hle1,hD,hs⟩
  dsimp only at hkj hD ⊢
  have hYl:=hD.len
  have hij:=hD.le
  have hjl:=hD.jl
  have hilt:=hD.lt hx0 hq0 hkj
  refine .seq (.af (.z zm (.z zm (.z (c9 aF) (.z gp (.nil ?_))))))
  refine (.ck rfl (fun hc19=>?_) (fun hc19=>?_))
  ·refine .skip ?_
   refine nT ?_
   refine .seq (.block (.af (.z zm (.z zm ?_))))
   obtain ⟨x,hxY⟩:=nth (l:=Y) (k:=j) aj
   have hx:xs[j]? =some x:=by rw [←hD.rest j (Nat.le_refl _)];exact hxY
   refine .z (sO aF aD) ?_
   refine .q hs (gU (vs:=x.c) rfl cg aD .here (qh (gg Y) (wH hxY) sp)) ?_
   refine .o (.alloc hs bH rfl fun b7 w hs=>?_)
   refine .o (.aO (vs:=x.c) hs rfl rfl aD fun w hs=>?_)
   refine .nil (.af (.z zm (.y hs (zls [_,_,_,_,_,_,_] cg aD) ?_)))
   refine .o (.kT (first:=[]) (cap:=cap) rfl rfl hc (hp _ _ _ x hle1 hs) ?_);rintro _ w ⟨H2,hle2,rfl,hs⟩
   refine .z iq (.nil ?_)
   refine (.cond rfl (fun hc29=>?_) (fun hc29=>?_))
   ·refine .af (.z zm (.z zm (.y hs (zls [_,_,_,_,_,_,_] cg aD) (.z (sO aF aD) ?_))))
    refine .o (.aO (vs:=x.c) (c':=(rdc (Y.set i x)).flatten++sp) hs rfl rfl aD ?_ dw (Nat.ble_eq_true_of_le (by rw [hcc];show i*7+7≤_;omega)) (by rw [uW (gg Y) (by rw [cJ];omega) rfl sp];unfold rdc;rw [List.map_set]));intro w hs
    refine .nil (.region (.z zm (.z cC (.z zg (.nil ?_)))))
    refine nB (nT ?_)
    refine .region (.z zm (.z cC (.z zg (.nil ?_))))
    refine nT ?_
    exact ⟨(i+1,j+1),.de rfl (by dsimp only;omega) (.de rfl (by dsimp only;omega) bD),⟨by dsimp only;omega,_,H2,hle1.trans hle2,hD.keep hx (by simpa using hc29),hs.sb⟩,by dsimp only;omega⟩
   ·refine .skip ?_
    refine nB (nT ?_)
    refine .region (.z zm (.z cC (.z zg (.nil ?_))))
    refine nT ?_
    exact ⟨(i,j+1),.cons rfl (.de rfl (by dsimp only;omega) bD),⟨by dsimp only;omega,_,H2,hle1.trans hle2,hD.skip hx (by simpa using hc29),hs.sb⟩,by dsimp only;omega⟩
  ·refine .exit ?_
   refine xT (xT (xB (nT ?_)))
   refine .af (.z zm (.z zm ?_))
   obtain rfl:xs.length=j:=by omega
   refine .q hs (oD (k:=i) rfl rfl aF aD aj aj) ?_
   rw [show 0+i*7=i*7 by omega]
   refine .o (.CM (c:=(rdc Y).flatten++sp) (m:=7) (zl:=List.replicate 7 (I 0)) hs rfl aF bH rfl (fun v hv=>by rw [List.eq_of_mem_replicate hv];rfl) rfl aj (by rw [hcc];have:=Nat.sub_mul xs.length i 7;omega) ?_);intro w hs
   have hdone:=hD.done
   have hil:=hD.il
   rw [List.take_length] at hil
   have hfl:((rdc (xs.filter fun x=> !q x)).flatten).length=i*7:=by rw [bE _ (gg _),cJ,←hil]
   rw [show (rdc Y).flatten++sp=(rdc (xs.filter fun x=> !q x)).flatten++(rdc (Y.drop i)).flatten++sp by
    rw [←hdone];unfold rdc;rw [←List.flatten_append,←List.map_append,List.take_append_drop]] at hs
   have hmid:=qT (List.replicate (xs.length - i) (List.replicate 7 (I 0))).flatten (rdc (xs.filter fun x=> !q x)).flatten sp (rdc (Y.drop i)).flatten (by
    rw [bE _ (gg _),cJ,List.length_drop,bE (m:=7) _ (fun c hc=>by rw [List.eq_of_mem_replicate hc];rfl),List.length_replicate,hYl])
   rw [hfl] at hmid
   rw [hmid,List.append_assoc] at hs
   refine .nil (.af (.z zm (.z zm ?_)))
   refine .q hs (l5 (k:=i) rfl rfl aF aD aj) ?_
   refine .z zg (.nil ?_)
   refine .ret (Fin.bI Tryz.results213 rfl ?_)
   refine ⟨H1,_,hle1,.inr ⟨b,i,c,_,rfl,rfl,hfl,?_,aj⟩,hs⟩
   have h1:=hcc xs
   rcases hO with ⟨_,h,_⟩|⟨_,_,_,sp',e1,e2,e3,e4,e5⟩
   ·simp only [Value.slice.injEq] at h;omega
   ·cases e1
    simp only [Ent.blk.injEq,true_and] at e2
    have:=List.append_cancel_left e2
    subst this
    have hfx:(rdc xs).flatten.length=xs.length*7:=by rw [bE _ (gg _),cJ]
    rw [List.length_append,List.length_append,hfl,bE (m:=7) _ (fun c hc=>by rw [List.eq_of_mem_replicate hc];rfl),List.length_replicate]
    have:=Nat.sub_mul xs.length i 7
    have:i*7≤xs.length*7:=Nat.mul_le_mul_right _ aj
    omega
theorem mJ{v:Value}{en:Ent}{xs:List Cmp}{g:Nat}{cap:List Value}(q:Cmp→Bool)(hs:St H w (en::σ))(hO:bS 6 v (cmc xs).flatten en)(hl:xs.length≤1000000)(hc:∀args w,(callFunc g args).run Tryz.prog w= .ok (.enter g args) w)
  (hp:∀H' w σ (r:Cmp),HLe H H'→St H' w σ→Cl Tryz.prog g ([.agg r.c.toArray]++cap) w fun u w'=>∃H1,HLe H' H1∧u= .bool (q r)∧St H1 w' σ):
  Cl Tryz.prog 266 [v,.func (.func g) #[] cap.toArray] w fun u w'=>∃H1 i,HLe H H1∧u=I i∧((i= -1∧∀x∈xs,q x=false)∨(∃(k:Nat) (x:Cmp),i=k∧xs[k]? =some x∧q x=true∧∀j<k,∀y,xs[j]? =some y→q y=false))∧St H1 w' (en::σ):=by
 obtain ⟨a,c,rfl⟩:=hO.fj (iY _) aj
 rw [dp] at hO ⊢
 refine Cl.o Tryz.func266 Tryz.ntmps266 ag2 ?_
 refine .af (.z zg (.nil (.seq (.af (.z zm (.z (c9 bk) (.z zm (.nil ?_))))))))
 refine .for (N:=xs.length) (J:=fun k fr w=>fr=[(1,.func (.func g) #[] cap.toArray),(0,.slice a xs.length c)]∧∃H1,HLe H H1∧(∀j<k,∀y,xs[j]? =some y→q y=false)∧St H1 w (en::σ)) aj ?_ ?_ ?_
 ·exact .mk ⟨rfl,H,HLe.refl H,fun j hj=>by omega,hs⟩
 ·rintro k fr w hk ⟨rfl,H1,hle1,hno,hs⟩
  obtain ⟨x,hx⟩:=nth (l:=xs) hk
  obtain ⟨b,c',sp,hv,rfl,_⟩:=hO.CO (iY _) aj (by rw [dp];omega)
  simp only [Value.slice.injEq] at hv
  obtain ⟨rfl,-,rfl⟩:=hv
  refine .block (.af (.z zm (.z zg (.nil (.af (.z zm (.z zm (.z zm (.z (sO bk bG) ?_)))))))))
  refine .q hs (gU (vs:=x.c) rfl jh bG .here (qh (iY xs) (AJ hx) sp)) ?_
  refine .o (.kT (first:=[]) (cap:=cap) rfl rfl hc (hp _ _ _ x hle1 hs) ?_);rintro _ w ⟨H2,hle2,rfl,hs⟩
  refine .nil ?_
  refine (.cond rfl (fun hc16=>?_) (fun hc16=>?_))
  ·refine .af (.z zm (.z zg (.nil ?_)))
   refine .ret (rB (rT (rB (rT (Fin.bI Tryz.results266 rfl ?_)))))
   exact ⟨H2,_,hle1.trans hle2,rfl,.inr ⟨k,_,rfl,hx,hc16,hno⟩,hs⟩
  ·refine .skip ?_
   refine nB (nT ?_)
   exact .mk ⟨rfl,H2,hle1.trans hle2,ed hno hx hc16,hs⟩
 ·rintro fr w ⟨rfl,H1,hle1,hno,hs⟩
  refine nT ?_
  refine .af (.z zg (.nil ?_))
  refine .ret (Fin.bI Tryz.results266 rfl ?_)
  exact ⟨H1,_,hle1,rfl,.inl ⟨rfl,fun x hx=>by
   obtain ⟨j,hj⟩:=List.getElem?_of_mem hx
   exact hno j (List.getElem?_eq_some_iff.1 hj).1 x hj⟩,hs⟩
set_option maxHeartbeats 1000000 in
theorem lV{v:Value}{en:Ent}{xs:List Cmp}{g:Nat}{cap:List Value}(q:Cmp→Bool)(hs:St H w (en::σ))(hO:bS 6 v (cmc xs).flatten en)(hl:xs.length≤1000000)(hc:∀args w,(callFunc g args).run Tryz.prog w= .ok (.enter g args) w)
  (hp:∀H' w σ (r:Cmp),HLe H H'→St H' w σ→Cl Tryz.prog g ([.agg r.c.toArray]++cap) w fun u w'=>∃H1,HLe H' H1∧u= .bool (q r)∧St H1 w' σ):
  Cl Tryz.prog 215 [v,.func (.func g) #[] cap.toArray] w fun u w'=>∃H1 en',HLe H H1∧bS 6 u (cmc (xs.filter fun x=> !q x)).flatten en'∧St H1 w' (en'::σ):=by
 obtain ⟨a,c,rfl⟩:=hO.fj (iY _) aj
 rw [dp] at hO ⊢
 refine Cl.o Tryz.func215 Tryz.ntmps215 ag2 ?_
 refine .af (.z zg (.nil (.af (.z zm (.z zm ?_)))))
 refine .o (.call Tryz.call266 rfl (mJ q hs hO hl hc hp) ?_);rintro _ w ⟨H1,i0,hle1,rfl,hcase,hs⟩
 refine .z zg (.nil (.seq (.af (.z zm (.z ir (.nil ?_))))))
 refine (.ck rfl (fun hc12=>?_) (fun hc12=>?_))
 ·refine .af (.z zm (.z zg (.nil ?_)))
  refine .ret (rT (Fin.bI Tryz.results215 rfl ?_))
  have hno:∀x∈xs,q x=false:=by
   rcases hcase with ⟨_,h⟩|⟨k,x,h,_⟩
   ·exact h
   ·omega
  have e:xs.filter (fun x=> !q x)=xs:=List.filter_eq_self.2 fun x hx=>by simp [hno x hx]
  exact ⟨H1,en,hle1,by rw [e];exact hO,hs⟩
 ·refine .skip ?_
  refine nT ?_
  refine .seq (.af (.z zm ?_))
  obtain ⟨k0,x0,rfl,hx0,hq0,hno⟩:∃(k:Nat) (x:Cmp),i0=k∧xs[k]? =some x∧q x=true∧∀j<k,∀y,xs[j]? =some y→q y=false:=hcase.resolve_left fun h=>hc12 h.1
  have hk0:=(List.getElem?_eq_some_iff.1 hx0).1
  obtain ⟨b,c',sp,hv,rfl,hc'⟩:=hO.CO (iY _) aj (by rw [dp];omega)
  simp only [Value.slice.injEq] at hv
  obtain ⟨rfl,-,rfl⟩:=hv
  have hcc:∀Y:List Cmp,((cmc Y).flatten++sp).length=Y.length*6+sp.length:=fun Y=>by rw [List.length_append,bE _ (iY _),dp]
  have hcap:xs.length≤c:=hO.le
  refine .z cC (.z zg (.nil (.block ?_)))
  refine .loop (fun p:Nat×Nat=>⟨42,[],[(5,I (p.1:Int)),(6,I (p.2:Int)),(1,.func (.func g) #[] cap.toArray),(0,.slice (some ⟨b,0,none⟩) xs.length c)]⟩)
   (fun p w=>k0<p.2∧∃Y H1,HLe H H1∧wq q xs Y p.1 p.2∧St H1 w (.blk b ((cmc Y).flatten++sp)::σ))
   (fun p=>xs.length - p.2) (k0,k0+1) (.cons rfl (.de rfl (by dsimp only;omega) bD))
   ⟨by dsimp only;omega,xs,H1,hle1,.start hx0 hq0 hno,hs⟩ ?_
  clear hs hle1 hcase
  rintro ⟨i,j⟩ w ⟨hkj,Y,H1,hle1,hD,hs⟩
  dsimp only at hkj hD ⊢
  have hYl:=hD.len
  have hij:=hD.le
  have hjl:=hD.jl
  have hilt:=hD.lt hx0 hq0 hkj
  refine .seq (.af (.z zm (.z zm (.z (c9 bk) (.z gp (.nil ?_))))))
  refine (.ck rfl (fun hc19=>?_) (fun hc19=>?_))
  ·refine .skip ?_
   refine nT ?_
   refine .seq (.block (.af (.z zm (.z zm ?_))))
   obtain ⟨x,hxY⟩:=nth (l:=Y) (k:=j) aj
   have hx:xs[j]? =some x:=by rw [←hD.rest j (Nat.le_refl _)];exact hxY
   refine .z (sO bk bG) ?_
   refine .q hs (gU (vs:=x.c) rfl jh bG .here (qh (iY Y) (AJ hxY) sp)) ?_
   refine .o (.alloc hs fB rfl fun b7 w hs=>?_)
   refine .o (.aO (vs:=x.c) hs rfl rfl bG fun w hs=>?_)
   refine .nil (.af (.z zm (.y hs (zls [_,_,_,_,_,_] jh bG) ?_)))
   refine .o (.kT (first:=[]) (cap:=cap) rfl rfl hc (hp _ _ _ x hle1 hs) ?_);rintro _ w ⟨H2,hle2,rfl,hs⟩
   refine .z iq (.nil ?_)
   refine (.cond rfl (fun hc29=>?_) (fun hc29=>?_))
   ·refine .af (.z zm (.z zm (.y hs (zls [_,_,_,_,_,_] jh bG) (.z (sO bk bG) ?_))))
    refine .o (.aO (vs:=x.c) (c':=(cmc (Y.set i x)).flatten++sp) hs rfl rfl bG ?_ dw (Nat.ble_eq_true_of_le (by rw [hcc];show i*6+6≤_;omega)) (by rw [uW (iY Y) (by rw [dp];omega) rfl sp];unfold cmc;rw [List.map_set]));intro w hs
    refine .nil (.region (.z zm (.z cC (.z zg (.nil ?_)))))
    refine nB (nT ?_)
    refine .region (.z zm (.z cC (.z zg (.nil ?_))))
    refine nT ?_
    exact ⟨(i+1,j+1),.de rfl (by dsimp only;omega) (.de rfl (by dsimp only;omega) bD),⟨by dsimp only;omega,_,H2,hle1.trans hle2,hD.keep hx (by simpa using hc29),hs.sb⟩,by dsimp only;omega⟩
   ·refine .skip ?_
    refine nB (nT ?_)
    refine .region (.z zm (.z cC (.z zg (.nil ?_))))
    refine nT ?_
    exact ⟨(i,j+1),.cons rfl (.de rfl (by dsimp only;omega) bD),⟨by dsimp only;omega,_,H2,hle1.trans hle2,hD.skip hx (by simpa using hc29),hs.sb⟩,by dsimp only;omega⟩
  ·refine .exit ?_
   refine xT (xT (xB (nT ?_)))
   refine .af (.z zm (.z zm ?_))
   obtain rfl:xs.length=j:=by omega
   refine .q hs (oD (k:=i) rfl rfl bk bG aj aj) ?_
   rw [show 0+i*6=i*6 by omega]
   refine .o (.CM (c:=(cmc Y).flatten++sp) (m:=6) (zl:=List.replicate 6 (I 0)) hs rfl bk fB rfl (fun v hv=>by rw [List.eq_of_mem_replicate hv];rfl) rfl aj (by rw [hcc];have:=Nat.sub_mul xs.length i 6;omega) ?_);intro w hs
   have hdone:=hD.done
   have hil:=hD.il
   rw [List.take_length] at hil
   have hfl:((cmc (xs.filter fun x=> !q x)).flatten).length=i*6:=by rw [bE _ (iY _),dp,←hil]
   rw [show (cmc Y).flatten++sp=(cmc (xs.filter fun x=> !q x)).flatten++(cmc (Y.drop i)).flatten++sp by
    rw [←hdone];unfold cmc;rw [←List.flatten_append,←List.map_append,List.take_append_drop]] at hs
   have hmid:=qT (List.replicate (xs.length - i) (List.replicate 6 (I 0))).flatten (cmc (xs.filter fun x=> !q x)).flatten sp (cmc (Y.drop i)).flatten (by
    rw [bE _ (iY _),dp,List.length_drop,bE (m:=6) _ (fun c hc=>by rw [List.eq_of_mem_replicate hc];rfl),List.length_replicate,hYl])
   rw [hfl] at hmid
   rw [hmid,List.append_assoc] at hs
   refine .nil (.af (.z zm (.z zm ?_)))
   refine .q hs (l5 (k:=i) rfl rfl bk bG aj) ?_
   refine .z zg (.nil ?_)
   refine .ret (Fin.bI Tryz.results215 rfl ?_)
   refine ⟨H1,_,hle1,.inr ⟨b,i,c,_,rfl,rfl,hfl,?_,aj⟩,hs⟩
   have h1:=hcc xs
   rcases hO with ⟨_,h,_⟩|⟨_,_,_,sp',e1,e2,e3,e4,e5⟩
   ·simp only [Value.slice.injEq] at h;omega
   ·cases e1
    simp only [Ent.blk.injEq,true_and] at e2
    have:=List.append_cancel_left e2
    subst this
    have hfx:(cmc xs).flatten.length=xs.length*6:=by rw [bE _ (iY _),dp]
    rw [List.length_append,List.length_append,hfl,bE (m:=6) _ (fun c hc=>by rw [List.eq_of_mem_replicate hc];rfl),List.length_replicate]
    have:=Nat.sub_mul xs.length i 6
    have:i*6≤xs.length*6:=Nat.mul_le_mul_right _ aj
    omega
theorem pV{b:Nat}{x:Int}{r:Rdg}(hs:St H w σ)(hb:Row H b [I x]):
  Cl Tryz.prog 214 [.agg r.c.toArray,.pointer (some ⟨b,0,none⟩)] w fun u w'=>∃H1,HLe H H1∧u= .bool (decide (r.src=x))∧St H1 w' σ:=by
 have hb0:=hb.at 0
 refine Cl.o Tryz.func214 Tryz.ntmps214 ag2 ?_
 refine .af ?_
 refine .o (.box (cl:=r.c) hs rfl rfl fun b2 w hs=>?_)
 refine .z zg (.nil (.af (.z (zfa eb) (.y hs (zld ae) (.y hs (zld ae) (.z ir (.z zg (.nil ?_))))))))
 refine .ret (Fin.bI Tryz.results214 rfl ?_)
 exact ⟨H,HLe.refl H,rfl,hs.out⟩
theorem pU{b:Nat}{x:Int}{r:Cmp}(hs:St H w σ)(hb:Row H b [I x]):
  Cl Tryz.prog 216 [.agg r.c.toArray,.pointer (some ⟨b,0,none⟩)] w fun u w'=>∃H1,HLe H H1∧u= .bool (decide (r.src=x))∧St H1 w' σ:=by
 have hb0:=hb.at 0
 refine Cl.o Tryz.func216 Tryz.ntmps216 ag2 ?_
 refine .af ?_
 refine .o (.box (cl:=r.c) hs rfl rfl fun b2 w hs=>?_)
 refine .z zg (.nil (.af (.z (zfa eH) (.y hs (zld ae) (.y hs (zld ae) (.z ir (.z zg (.nil ?_))))))))
 refine .ret (Fin.bI Tryz.results216 rfl ?_)
 exact ⟨H,HLe.refl H,rfl,hs.out⟩
set_option maxHeartbeats 1000000 in
theorem gV{s:Srv}{x:Int}{vst vwa vr vc:Value}(hs:St H w σ)(h1:RI H vst s.sp.st)(h2:RI H vwa s.sp.wa)(h3:RRd H vr s.rs)(h4:RCm H vc s.cs)
  (l1:s.sp.st.length≤1000000) (l2:s.sp.wa.length≤1000000) (l3:s.rs.length≤1000000) (l4:s.cs.length≤1000000):
  Cl Tryz.prog 148 [.agg #[I s.sp.id,I s.sp.src,vst,vwa,I s.sp.al,I s.sp.up,vr,vc],I x] w fun u w'=>∃H1 ust uwa ur uc e1 e2 e3 e4,HLe H H1∧u= .agg #[I s.sp.id,I s.sp.src,ust,uwa,I s.sp.al,I s.sp.up,ur,uc]∧yY (s.no x) ust uwa ur uc e1 e2 e3 e4∧St H1 w' (e1::e2::e3::e4::σ):=by
 obtain ⟨ast,cst,rfl⟩:=RI.shape h1
 obtain ⟨awa,cwa,rfl⟩:=RI.shape h2
 obtain ⟨ar,cr,rfl⟩:=RRd.shape h3
 obtain ⟨ac,cc,rfl⟩:=RCm.shape h4
 refine Cl.o Tryz.func148 Tryz.ntmps148 ag2 ?_
 refine .af ?_
 refine .bx hs fun b2 w hs=>?_
 refine .bx hs fun b3 w hs=>?_
 refine .o (.alloc hs bK rfl fun b4 w hs=>?_)
 refine .nil (.af (.y hs (zls [_,_,_,_,_,_,_,_] aq an) ?_))
 refine .o (.call Tryz.call122 rfl (jz (s:=s) hs h1 h2 h3 h4 l1 l2 l3 l4) ?_);rintro _ w ⟨ust,uwa,ur,uc,e1,e2,e3,e4,rfl,⟨hO1,hO2,hO3,hO4⟩,hs⟩
 obtain ⟨a1,c1,rfl⟩:=hO1.kq
 obtain ⟨a2,c2,rfl⟩:=hO2.kq
 obtain ⟨a3,c3,rfl⟩:=hO3.fj (gg _) aj
 obtain ⟨a4,c4,rfl⟩:=hO4.fj (iY _) aj
 refine .o (.aO (vs:=[_,_,_,_,_,_,_,_]) hs rfl rfl an fun w hs=>?_)
 refine .nil (.af (.z (zfa aZ) (.y hs (zld bZ) ?_)))
 refine .q hs (cU (f:=[]) (c:=[_]) rfl rfl) ?_
 obtain ⟨H1,hle1,hb3,hs⟩:=hs.cf (b:=b3) dw
 replace hs:=hs.sub (τ:=e3::e1::e2::e4:: .blk b4 _:: .blk b2 _::σ) (by repeat (first|exact Sub.refl _|constructor|apply Sub.weaken))
 refine .o (.call Tryz.call213 rfl (lU (g:=214) (cap:=[.pointer (some ⟨b3,0,none⟩)]) (fun r=>decide (r.src=x)) hs hO3 l3 Tryz.call214 (fun H' w σ r hle hs=>pV hs (hb3.mono hle))) ?_);rintro v10 w ⟨H2,e3',hle2,hO3',hs⟩
 obtain ⟨a10,c10,rfl⟩:=hO3'.fj (gg _) aj
 refine .z (zfa aZ) ?_
 refine .o (.store hs rfl rfl jg fun w hs=>?_)
 refine .nil (.af (.z (zfa bT) (.y hs (zld fO) ?_)))
 refine .q hs (cU (f:=[]) (c:=[_]) rfl rfl) ?_
 replace hs:=hs.sub (τ:=e4::e1::e2::e3':: .blk b4 _:: .blk b2 _::σ) (by repeat (first|exact Sub.refl _|constructor|apply Sub.weaken))
 refine .o (.call Tryz.call215 rfl (lV (g:=216) (cap:=[.pointer (some ⟨b3,0,none⟩)]) (fun r=>decide (r.src=x)) hs hO4 l4 Tryz.call216 (fun H' w σ r hle hs=>pU hs (hb3.mono (hle2.trans hle)))) ?_);rintro v15 w ⟨H3,e4',hle3,hO4',hs⟩
 obtain ⟨a15,c15,rfl⟩:=hO4'.fj (iY _) aj
 refine .z (zfa bT) ?_
 refine .o (.store hs rfl rfl pA fun w hs=>?_)
 refine .nil (.af (.y hs (zls [_,_,_,_,_,_,_,_] aq an) ?_))
 refine .o (.aO (vs:=[_,_,_,_,_,_,_,_]) hs rfl rfl an fun w hs=>?_)
 refine .nil ?_
 refine .ret ?_
 exact Fin.gI [] [] hs fun w hs=>⟨_,results1 Tryz.results148 (di (vs:=[_,_,_,_,_,_,_,_]) hs rfl aq an),H3,_,_,_,_,e1,e2,e3',e4',hle1.trans (hle2.trans hle3),rfl,⟨hO1,hO2,hO3',hO4'⟩,hs.sb⟩
set_option maxHeartbeats 1000000 in
theorem jc{s:Srv}{x:Int}{vst vwa vr vc:Value}(hs:St H w σ)(h1:RI H vst s.sp.st)(h2:RI H vwa s.sp.wa)(h3:RRd H vr s.rs)(h4:RCm H vc s.cs):
  Cl Tryz.prog 65 [.agg #[I s.sp.id,I s.sp.src,vst,vwa,I s.sp.al,I s.sp.up,vr,vc],I x] w fun u w'=>∃H1 v t e,HLe H H1∧u= .tuple #[v,I e]∧RSv H1 v t∧AO s x t e∧St H1 w' σ:=by
 obtain ⟨ast,cst,rfl⟩:=RI.shape h1
 obtain ⟨awa,cwa,rfl⟩:=RI.shape h2
 obtain ⟨ar,cr,rfl⟩:=RRd.shape h3
 obtain ⟨ac,cc,rfl⟩:=RCm.shape h4
 refine Cl.o Tryz.func65 Tryz.ntmps65 ag2 ?_
 refine .af ?_
 refine .bx hs fun b2 w hs=>?_
 refine .o (.alloc hs bK rfl fun b4 w hs=>?_)
 refine .z zg (.nil (.seq (.af (.y hs (zls [_,_,_,_,_,_,_,_] aq an) ?_))))
 refine .o (.call iG rfl (cD (s:=s) hs h1 h2 h3 h4) ?_);rintro _ w ⟨H1,e,hle1,rfl,hC,hs⟩
 refine .z zg (.nil (.af (.z zm (.z fM (.nil ?_)))))
 refine (.eD rfl (fun hc10=>?_) (fun hc10=>?_))
 ·refine .af (.z (zbd [_,_,_,_,_,_,_,_] eW) (.z zm ?_))
  refine .o (.aO (vs:=[_,_,_,_,_,_,_,_]) hs rfl rfl an fun w hs=>?_)
  refine .z zg (.nil ?_)
  refine .ret (rT (?_))
  exact Fin.gI [] [] hs fun w hs=>⟨_,results2 Tryz.results65 (di (vs:=[_,_,_,_,_,_,_,_]) hs rfl aq an) rfl,H1,_,Cz,_,hle1,rfl,EL _,.bad hC hc10,hs.out⟩
 ·refine .skip ?_
  refine nT ?_
  refine .seq (.af (.y hs (zls [_,_,_,_,_,_,_,_] aq an) ?_))
  have hok:cS s:=hC.bL.1 (by simpa using hc10)
  have hsm:=dB hok.early.1
  have hrl:=hok.early.2.1
  have hcl:=hok.early.2.2.1
  refine .o (.call Tryz.call137 rfl (eI (s:=s) hs (h3.mono hle1) (h4.mono hle1) aj aj) ?_);rintro v14 w ⟨L,en,hO,hLl,hR,hs⟩
  obtain ⟨H2,hle2,hL,hs⟩:=bS.cV hO aj hs .here
  have hle02:=hle1.trans hle2
  refine .z zm ?_
  refine .o (.call Tryz.call130 rfl (ju hs hL) ?_);rintro _ w ⟨rfl,hs⟩
  refine .z iq (.nil ?_)
  refine (.cond rfl (fun hc17=>?_) (fun hc17=>?_))
  ·refine .af (.z (zbd [_,_,_,_,_,_,_,_] eW) ?_)
   refine .o (.aO (vs:=[_,_,_,_,_,_,_,_]) hs rfl rfl an fun w hs=>?_)
   refine .z zg (.nil ?_)
   refine .ret (rT (?_))
   exact Fin.gI [] [] hs fun w hs=>⟨_,results2 Tryz.results65 (di (vs:=[_,_,_,_,_,_,_,_]) hs rfl aq an) rfl,H2,_,Cz,_,hle02,rfl,EL _,.none hok (fun h=>by have:=(hR.mem x).2 h;simp_all),hs.out⟩
  ·refine .skip ?_
   refine nT ?_
   refine .af (.y hs (zls [_,_,_,_,_,_,_,_] aq an) (.z zm ?_))
   have hx:s.Src x:=(hR.mem x).1 (by simp_all)
   refine .o (.call Tryz.call148 rfl (gV (s:=s) (x:=x) hs (h1.mono hle02) (h2.mono hle02) (h3.mono hle02) (h4.mono hle02) aj aj aj aj) ?_);rintro _ w ⟨H3,ust,uwa,ur,uc,e1,e2,e3,e4,hle3,rfl,hV,hs⟩
   have hle03:=hle02.trans hle3
   have hokn:=(yH s x).ok hok
   obtain ⟨H4,hle4,r1,r2,r3,r4,hs,-⟩:=yY.uI hV (by show s.sp.st.length≤_;omega) (by show s.sp.wa.length≤_;omega) (by have:=hokn.early.2.1;omega) (by have:=hokn.early.2.2.1;omega) hs
   obtain ⟨_,_,rfl⟩:=RI.shape r1
   obtain ⟨_,_,rfl⟩:=RI.shape r2
   obtain ⟨_,_,rfl⟩:=RRd.shape r3
   obtain ⟨_,_,rfl⟩:=RCm.shape r4
   refine .o (.aO (vs:=[_,_,_,_,_,_,_,_]) hs rfl rfl an fun w hs=>?_)
   refine .z zg (.nil ?_)
   refine .ret ?_
   exact Fin.gI [] [] hs fun w hs=>⟨_,results2 Tryz.results65 (di (vs:=[_,_,_,_,_,_,_,_]) hs rfl aq an) rfl,H4,_,s.no x,_,hle03.trans hle4,rfl,⟨_,_,_,_,rfl,r1,r2,r3,r4⟩,.ok hok hx,hs.out⟩
open Classical in
set_option maxHeartbeats 1000000 in
theorem rO{n lo hi:Int}{b2 b3 b6:Nat}{s:Srv}{q:Wht}{vst vwa vr vc:Value}(hs:St H w σ)(k2:Row H b2 [I s.sp.id,I s.sp.src,vst,vwa,I s.sp.al,I s.sp.up,vr,vc])(k3:Row H b3 [I q.kind,I q.st,I q.wa])(k6:Row H b6 [I lo,I hi])
  (h1:RI H vst s.sp.st) (h2:RI H vwa s.sp.wa) (h3:RRd H vr s.rs) (h4:RCm H vc s.cs) (hok:cS s) (hq:nV s q lo hi 0):
  Cl Tryz.prog 151 [I n,.pointer (some ⟨b2,0,none⟩),.pointer (some ⟨b3,0,none⟩),.pointer (some ⟨b6,0,none⟩)] w fun u w'=>∃H1,HLe H H1∧u= .bool (decide (nV (s.no n) q lo hi 0))∧St H1 w' σ:=by
 have hsm:=dB hok.early.1
 have hrl:=hok.early.2.1
 have hcl:=hok.early.2.2.1
 have c2:=k2.cells 0 [I s.sp.id,I s.sp.src,vst,vwa,I s.sp.al,I s.sp.up,vr,vc]
 have c3:=k3.cells 0 [I q.kind,I q.st,I q.wa]
 have c6:=k6.cells 0 [I lo,I hi]
 refine Cl.o Tryz.func151 Tryz.ntmps151 ag4 ?_
 refine .af (.z zg (.nil ?_))
 refine .seq (.draw mix rfl hs fun w hs=>?_)
 refine .r (i:=0) hs rfl au .none (cd (vs:=[I s.sp.id,I s.sp.src,vst,vwa,I s.sp.al,I s.sp.up,vr,vc]) rfl aq an c2) ?_
 refine .z 1 rfl zm ?_
 refine .r (i:=3) hs rfl au .none (cd (vs:=[I q.kind,I q.st,I q.wa]) rfl cj bw (by first|exact c3|exact c3.mono hle3|exact c3.mono hle04)) ?_
 refine .e2 (i:=2) (j:=8) au rfl rfl rfl rfl .none .none hs ?_ ?_
 ·refine .call Tryz.call148 rfl (gV (s:=s) (x:=n) hs h1 h2 h3 h4 aj aj aj aj) ?_;rintro _ w ⟨H3,ust,uwa,ur,uc,e1,e2,e3,e4,hle3,rfl,hV,hs⟩
  have hokn:=(yH s n).ok hok
  obtain ⟨H4,hle4,r1,r2,r3,r4,hs,-⟩:=yY.uI hV (by show s.sp.st.length≤_;omega) (by show s.sp.wa.length≤_;omega) (by have:=hokn.early.2.1;omega) (by have:=hokn.early.2.2.1;omega) hs
  have hle04:=hle3.trans hle4
  refine .go ?_
  refine .e2 (i:=4) (j:=8) au rfl rfl rfl rfl .none .none hs ?_ ?_
  ·refine .call lK rfl (dc (s:=s.no n) (q:=q) hs r1 r2 r3 r4) ?_;rintro _ w ⟨H5,c,d,e,hle5,rfl,hB,hs⟩
   have hle05:=hle04.trans hle5
   refine .go ?_
   refine .z 5 rfl zm ?_;refine .z 6 rfl zex ?_;refine .z 7 rfl zex ?_
   refine .E 8 hs ?_
   refine .alloc hs cz rfl ?_;intro b6 w hs
   refine .go ?_
   refine .E 9 hs ?_
   refine .aO (vs:=[_,_]) hs rfl rfl aJ ?_;intro w hs
   refine .go ?_
   refine .z 10 rfl zg ?_;refine .D hs ?_
   refine .af (.y hs (zls [_,_] bX aJ) ?_)
   refine .q hs (cd (vs:=[I lo,I hi]) rfl bX aJ (c6.mono hle05)) ?_
   refine .q hs (ld oA oB dK (fun f hf=>by
    simp only [List.mem_cons,List.not_mem_nil,or_false] at hf
    rcases hf with rfl|rfl<;>exact ⟨by decide,aQ,ae⟩) rfl rfl) ?_
   refine .z zg (.nil ?_)
   refine .ret (Fin.bI Tryz.results151 rfl ?_)
   exact ⟨H5,hle05,by congr 1;exact decide_eq_decide.2 (hq.EX hB),hs.out⟩
  ·refine .alloc hs cz rfl ?_;intro b6 w hs
   refine .go ?_
   refine .E 4 hs ?_
   refine .call lK rfl (dc (s:=s.no n) (q:=q) hs r1 r2 r3 r4) ?_;rintro _ w ⟨H5,c,d,e,hle5,rfl,hB,hs⟩
   have hle05:=hle04.trans hle5
   refine .go ?_
   refine .z 5 rfl zm ?_;refine .z 6 rfl zex ?_;refine .z 7 rfl zex ?_
   refine .E 9 hs ?_
   refine .aO (vs:=[_,_]) hs rfl rfl aJ ?_;intro w hs
   refine .go ?_
   refine .z 10 rfl zg ?_;refine .D hs ?_
   refine .af (.y hs (zls [_,_] bX aJ) ?_)
   refine .q hs (cd (vs:=[I lo,I hi]) rfl bX aJ (c6.mono hle05)) ?_
   refine .q hs (ld oA oB dK (fun f hf=>by
    simp only [List.mem_cons,List.not_mem_nil,or_false] at hf
    rcases hf with rfl|rfl<;>exact ⟨by decide,aQ,ae⟩) rfl rfl) ?_
   refine .z zg (.nil ?_)
   refine .ret (Fin.bI Tryz.results151 rfl ?_)
   exact ⟨H5,hle05,by congr 1;exact decide_eq_decide.2 (hq.EX hB),hs.out⟩
 ·refine .alloc hs cz rfl ?_;intro b6 w hs
  refine .go ?_
  refine .E 2 hs ?_
  refine .call Tryz.call148 rfl (gV (s:=s) (x:=n) hs h1 h2 h3 h4 aj aj aj aj) ?_;rintro _ w ⟨H3,ust,uwa,ur,uc,e1,e2,e3,e4,hle3,rfl,hV,hs⟩
  have hokn:=(yH s n).ok hok
  obtain ⟨H4,hle4,r1,r2,r3,r4,hs,-⟩:=yY.uI hV (by show s.sp.st.length≤_;omega) (by show s.sp.wa.length≤_;omega) (by have:=hokn.early.2.1;omega) (by have:=hokn.early.2.2.1;omega) hs
  have hle04:=hle3.trans hle4
  refine .go ?_
  refine .E 4 hs ?_
  refine .call lK rfl (dc (s:=s.no n) (q:=q) hs r1 r2 r3 r4) ?_;rintro _ w ⟨H5,c,d,e,hle5,rfl,hB,hs⟩
  have hle05:=hle04.trans hle5
  refine .go ?_
  refine .z 5 rfl zm ?_;refine .z 6 rfl zex ?_;refine .z 7 rfl zex ?_
  refine .E 9 hs ?_
  refine .aO (vs:=[_,_]) hs rfl rfl aJ ?_;intro w hs
  refine .go ?_
  refine .z 10 rfl zg ?_;refine .D hs ?_
  refine .af (.y hs (zls [_,_] bX aJ) ?_)
  refine .q hs (cd (vs:=[I lo,I hi]) rfl bX aJ (c6.mono hle05)) ?_
  refine .q hs (ld oA oB dK (fun f hf=>by
   simp only [List.mem_cons,List.not_mem_nil,or_false] at hf
   rcases hf with rfl|rfl<;>exact ⟨by decide,aQ,ae⟩) rfl rfl) ?_
  refine .z zg (.nil ?_)
  refine .ret (Fin.bI Tryz.results151 rfl ?_)
  exact ⟨H5,hle05,by congr 1;exact decide_eq_decide.2 (hq.EX hB),hs.out⟩
open Classical in
set_option maxHeartbeats 1000000 in
theorem oL{s:Srv}{q:Wht}{vst vwa vr vc:Value}(hs:St H w σ)(h1:RI H vst s.sp.st)(h2:RI H vwa s.sp.wa)(h3:RRd H vr s.rs)(h4:RCm H vc s.cs):
  Cl Tryz.prog 67 [.agg #[I s.sp.id,I s.sp.src,vst,vwa,I s.sp.al,I s.sp.up,vr,vc],.agg #[I q.kind,I q.st,I q.wa]] w fun u w'=>∃H1 vx L e,HLe H H1∧u= .tuple #[vx,I e]∧RI H1 vx L∧DN s q L e∧St H1 w' σ:=by
 obtain ⟨ast,cst,rfl⟩:=RI.shape h1
 obtain ⟨awa,cwa,rfl⟩:=RI.shape h2
 obtain ⟨ar,cr,rfl⟩:=RRd.shape h3
 obtain ⟨ac,cc,rfl⟩:=RCm.shape h4
 refine Cl.o Tryz.func67 Tryz.ntmps67 ag2 ?_
 refine .af ?_
 refine .bx hs fun b2 w hs=>?_
 refine .bx hs fun b3 w hs=>?_
 refine .z zg (.z zg (.nil (.af (.y hs (zls [_,_,_,_,_,_,_,_] aq an) (.y hs (zls [_,_,_] cj bw) ?_)))))
 refine .o (.call lK rfl (dc (s:=s) (q:=q) hs h1 h2 h3 h4) ?_);rintro _ w ⟨H1,lo,hi,e,hle1,rfl,hB,hs⟩
 refine .z zm (.z zex (.z zex ?_))
 refine .o (.alloc hs cz rfl fun b6 w hs=>?_)
 refine .o (.aO (vs:=[_,_]) hs rfl rfl aJ fun w hs=>?_)
 refine .z zg (.nil (.seq (.af (.z zm (.z fM (.nil ?_))))))
 refine (.eD rfl (fun hc15=>?_) (fun hc15=>?_))
 ·refine .af (.z zm (.z zg (.z zg (.nil ?_))))
  refine .ret (rT (Fin.kK Tryz.results67 rfl rfl ?_))
  exact ⟨H1,_,[],_,hle1,rfl,RS.nil H1 1 none 0,.bad hB hc15,hs.out⟩
 ·refine .skip ?_
  refine nT ?_
  refine .af (.y hs (zls [_,_,_,_,_,_,_,_] aq an) ?_)
  obtain rfl:e=0:=by simpa using hc15
  have hok:cS s:=hB.ok0
  have hrl:=hok.early.2.1
  have hcl:=hok.early.2.2.1
  refine .o (.call Tryz.call137 rfl (eI (s:=s) hs (h3.mono hle1) (h4.mono hle1) aj aj) ?_);rintro v18 w ⟨L,en,hO,hLl,hR,hs⟩
  refine .q hs (cU (f:=[]) (c:=[_,_,_]) rfl rfl) ?_
  obtain ⟨H2,hle2,k2,hs⟩:=hs.cf (b:=b2) dw
  obtain ⟨H3,hle3,k3,hs⟩:=hs.cf (b:=b3) dw
  obtain ⟨H4,hle4,k6,hs⟩:=hs.cf (b:=b6) dw
  have hle04:=hle1.trans (hle2.trans (hle3.trans hle4))
  refine .o (.call Tryz.call150 rfl (iw (g:=151) (cap:=[.pointer (some ⟨b2,0,none⟩),.pointer (some ⟨b3,0,none⟩),.pointer (some ⟨b6,0,none⟩)]) (fun n=>decide (nV (s.no n) q lo hi 0)) hs hO aj Tryz.call151
   (fun H' w σ n _ hle hs=>rO (s:=s) hs ((k2.mono (hle3.trans hle4)).mono hle) ((k3.mono hle4).mono hle) (k6.mono hle) (h1.mono (hle04.trans hle)) (h2.mono (hle04.trans hle)) (h3.mono (hle04.trans hle)) (h4.mono (hle04.trans hle)) hok hB)) ?_);rintro v20 w ⟨H5,en5,hle5,hO5,hs⟩
  refine .z zg (.z zg (.nil ?_))
  refine .ret (Fin.kK Tryz.results67 rfl rfl ?_)
  have hfl:=List.length_filter_le (fun n=> !decide (nV (s.no n) q lo hi 0)) L
  obtain ⟨H6,hle6,hR6,hs⟩:=bS.cV hO5 aj hs .here
  exact ⟨H6,_,_,0,hle04.trans (hle5.trans hle6),rfl,hR6,.ok hB ((hR.filter _).congr fun x=>by simp),hs.out⟩
end Go.Proofs.YtddaejgfjlneoaaGreat
namespace Go.Proofs.YtddaejgfjlneoaaGreat
open Go.MW
theorem C8{v:Srv}{q:Wht}{lo hi:Int}(g:nV v q lo hi 0):∃a b,lo=a/o8 q∧hi=b/o8 q∧cS v∧eX v.sp q∧dJ v.sys (v.w q) a b 0:=by
 generalize hz:(0:Int)=z at g
 cases g with
 |bad g ge=>exact (ge hz.symm).elim
 |what=>omega
 |fls=>omega
 |ok h1 h2 h3 h4=>exact ⟨_,_,rfl,rfl,h1,h2,h4⟩
end Go.Proofs.YtddaejgfjlneoaaGreat
namespace Go.Proofs.YtddaejgfjlneoaaGreat
open Go.MW
variable{H:bP}{w:World}{σ:List Ent}
theorem sC{vb:Value}{bs:List Int}{x:Int}(hs:St H w σ)(hb:RI H vb bs):
  Cl Tryz.prog 70 [vb,I x] w fun u w'=>u= .bool (decide (x∈bs))∧St H w' σ:=by
 obtain ⟨ab,cb,rfl⟩:=RI.shape hb
 have hbl:=(RI.len hb).2.2
 refine Cl.o Tryz.func70 Tryz.ntmps70 ag2 ?_
 refine .af (.z zg (.nil (.seq (.af (.z zg (.nil (.block ?_)))))))
 refine .loop (fun i:Nat=>⟨18,[],[(5,I (i:Int)),(0,.slice ab bs.length cb),(1,I x)]⟩)
  (fun i w=>i≤bs.length∧(∀j<i,gi bs j≠x)∧St H w σ) (fun i=>bs.length - i) 0 bD
  ⟨Nat.zero_le _,fun j hj=>by omega,hs⟩ ?_
 clear hs
 rintro i w ⟨hi,hall,hs⟩
 refine .seq (.af (.z zm (.z zm (.z (c9 ad) (.z gp (.nil ?_))))))
 refine (.ck rfl (fun hc9=>?_) (fun hc9=>?_))
 ·refine .skip ?_
  refine nT ?_
  refine .seq (.block (.af (.z zm (.z zm ?_))))
  refine .ixY hs hb rfl rfl ad ai (bJ (l:=bs) (i:=i) aj) dx ?_;intro b14 o14 hc14
  refine .q hs (bh rfl ae hc14) ?_
  refine .z zm (.z ir (.nil ?_))
  refine (.ck rfl (fun hc17=>?_) (fun hc17=>?_))
  ·refine .af (.z zg (.nil ?_))
   refine .ret (rB (rT (rT (rB (rT (Fin.bI Tryz.results70 rfl ?_))))))
   exact ⟨by rw [decide_eq_true (by rw [←hc17];exact List.mem_of_getElem? (bJ aj))],hs⟩
  ·refine .skip ?_
   refine nB (nT ?_)
   refine .region (.z zm (.z cC (.z zg (.nil ?_))))
   refine nT ?_
   exact ⟨i+1,.de rfl cm bD,⟨aj,fun j hj=>by
    by_cases e:j=i
    ·subst e;exact hc17
    ·exact hall j aj,hs⟩,aj⟩
 ·refine .exit ?_
  refine xT (xT (xB (nT ?_)))
  refine .af (.z zg (.nil ?_))
  refine .ret (Fin.bI Tryz.results70 rfl ?_)
  exact ⟨by rw [decide_eq_false (fun h=>by
   obtain ⟨j,hj⟩:=List.getElem?_of_mem h
   have hjl:=(List.getElem?_eq_some_iff.1 hj).1
   have hg:=bJ hjl
   rw [hj] at hg
   exact hall j aj (Option.some.inj hg).symm)],hs⟩
theorem p4{n lo hi:Int}(hs:St H w σ):Cl Tryz.prog 79 [I n,.agg #[I lo,I hi]] w fun u w'=>u= .bool (decide (lo≤n∧n≤hi))∧St H w' σ:=by
 refine Cl.o Tryz.func79 Tryz.ntmps79 ag2 ?_
 refine .af ?_
 refine .bx hs fun b3 w hs=>?_
 refine .z zg (.nil (.af (.z (zfa dt) (.y hs (zld ae) (.z zm (.z wv (.z zm ?_)))))))
 refine .kf (t':=9) rfl (fun hb9=>?_) (fun hb9=>?_)
 ·refine .gT rfl rfl ?_
  refine .z zm ?_
  refine .gT rfl rfl ?_
  refine .z (zfa dG) ?_
  refine .gT rfl rfl ?_
  refine .y hs (zld ae) ?_
  refine .gT rfl rfl ?_
  refine .z wv (.z zpT (.z zg (.nil ?_)))
  refine .ret (Fin.bI Tryz.results79 rfl ?_)
  exact ⟨by first|(simp_all;done)|(simp_all;omega),hs.out⟩
 ·refine .gFs 4 4 true rfl rfl rfl ?_
  refine .z zpF (.z zg (.nil ?_))
  refine .ret (Fin.bI Tryz.results79 rfl ?_)
  exact ⟨by first|(simp_all;done)|(simp_all;omega),hs.out⟩
theorem kc{vs v5 v4 vp:Value}{sl pk:List Int}{fs5:List F5}{fs4:List F4}{z1 z2 z3:Int}(hs:St H w σ)(g1:RI H vs sl)(g2:RF5 H v5 fs5)(g3:RF4 H v4 fs4)(g4:RI H vp pk):
  Cl Tryz.prog 60 [.agg #[vs,v5,v4,vp,I z1,I z2,I z3]] w fun u w'=>∃H1 s y vst vwa vr vc vy,HLe H H1∧u= .tuple #[.agg #[I s.sp.id,I s.sp.src,vst,vwa,I s.sp.al,I s.sp.up,vr,vc],vy]∧AR s∧nm s y∧RI H1 vst s.sp.st∧RI H1 vwa s.sp.wa∧RRd H1 vr s.rs∧RCm H1 vc s.cs∧RI H1 vy y∧St H1 w' σ:=by
 refine (sx hs g1 g2 g3 g4).mono ?_
 rintro _ w ⟨H3,m,y,ust,uwa,ur,uc,uy,e1,e2,e3,e4,e5,hle3,rfl,hM,hOV,hOy,hK,hs⟩
 have hst4:=hM.st
 have hwa3:=hM.wa
 have hmr:=hM.rs
 have hmc:=hM.cs
 obtain ⟨H4,hle4,r1,r2,r3,r4,hs,-⟩:=yY.uI hOV aj aj aj aj hs
 obtain ⟨hyl,-,hyb⟩:=hK.bd
 have hmt:=hM.ok.many
 obtain ⟨H5,hle5,hY,hs⟩:=bS.cV hOy aj hs .here
 exact ⟨H5,m,y,_,_,_,_,_,hle3.trans (hle4.trans hle5),rfl,hM,hK,r1.mono hle5,r2.mono hle5,r3.mono hle5,r4.mono hle5,hY,hs⟩
theorem sv{s:Spc}{vst vwa vx:Value}{x:List Int}(hs:St H w σ)(h1:RI H vst s.st)(h2:RI H vwa s.wa)(hx:RI H vx x)(hb1:s.st.length≤1000)(hb2:s.wa.length≤1000)(hxl:s.many+1≤x.length):
  Cl Tryz.prog 61 [.agg #[I s.id,I s.src,vst,vwa,I s.al,I s.up],vx] w fun u w'=>∃H1 va,HLe H H1∧u= .agg #[va]∧RT H1 va (lE s x s.st.length)∧St H1 w' σ:=by
 refine (sw hs h1 h2 hx hb1 hb2 hxl).mono ?_
 rintro _ w ⟨va,us,en,ens,rfl,hO,hR,hs⟩
 have hul:=hR.length
 rw [jP] at hul
 replace hs:St H w (ens++(en::σ)):=hs.perm List.perm_middle.symm
 obtain ⟨H6,hle6,hRL,hs⟩:=hR.cf (fun r hr=>by
  obtain ⟨j,hj⟩:=List.getElem?_of_mem hr
  have hjl:=(List.getElem?_eq_some_iff.1 hj).1
  rw [jP] at hjl
  rw [uY hjl] at hj
  obtain rfl:=Option.some.inj hj
  rw [lW];omega) hs
 obtain ⟨H7,hle7,hRT,hs⟩:=hRL.cf hO aj hs .here
 exact ⟨H7,_,hle6.trans hle7,rfl,hRT,hs⟩
set_option maxHeartbeats 8000000 in
theorem oS{v:Value}{g:CQ}{x0 x1 x2 x3 x4:Int}(hs:St H w σ)(hg:xg H v g):
  Cl Tryz.prog 18 [v,.agg #[I x0,I x1,I x2,I x3,I x4]] w fun v w'=>v= .bool true∧∃H',HLe H H'∧St H' w' σ:=by
 obtain ⟨vs,v5,v4,vp,rfl,g1,g2,g3,g4⟩:=hg
 refine Cl.o Tryz.func18 Tryz.ntmps18 ag2 ?_
 refine .af ?_
 refine .bx hs fun b2 w hs=>?_
 refine .bx hs fun b3 w hs=>?_
 refine .z zg (.nil (.af ?_))
 refine .o (.call Tryz.call22 rfl (jB hs) ?_);rintro _ w ⟨rfl,H1,hle1,hs⟩
 refine .z zg (.nil (.af (.y hs (zls [_,_,_,_,_,_,_] Tryz.isAgg27 Tryz.sizeOf27) ?_)))
 refine .o (.call Tryz.call60 rfl (kc hs (g1.mono hle1) (g2.mono hle1) (g3.mono hle1) (g4.mono hle1)) ?_);rintro _ w ⟨H2,s,y,vst,vwa,vr,vc,vy,hle2,rfl,hM,hK,h1,h2,h3,h4,hY,hs⟩
 obtain ⟨ast,cst,rfl⟩:=RI.shape h1
 obtain ⟨awa,cwa,rfl⟩:=RI.shape h2
 obtain ⟨ar,cr,rfl⟩:=RRd.shape h3
 obtain ⟨ac,cc,rfl⟩:=RCm.shape h4
 obtain ⟨ay,cy,rfl⟩:=RI.shape hY
 have hst4:=hM.st
 have hwa3:=hM.wa
 have hok:=hM.ok
 have hst2:=hok.early.1.st.two
 have hwa2:=hok.early.1.wa.two
 have hmt:=hok.many
 obtain ⟨hyl,-,-⟩:=hK.bd
 have hle02:=hle1.trans hle2
 refine .z zm (.z zex (.z zex ?_))
 refine .o (.alloc hs bK rfl fun b6 w hs=>?_)
 refine .o (.aO (vs:=[_,_,_,_,_,_,_,_]) hs rfl rfl an fun w hs=>?_)
 refine .z zg (.nil (.af (.y hs (zls [_,_,_,_,_,_,_,_] aq an) ?_)))
 refine .o (.call Tryz.call54 rfl (oK (s:=s) hs h1 h2 h3 h4) ?_);rintro _ w ⟨H3,vt,ts,e15,hle3,rfl,hTd,hSr,hts60,hts,hs⟩
 obtain rfl:e15=0:=hSr.bL.2 hok
 rw [if_pos rfl] at hts
 subst hts
 obtain ⟨at',ct,rfl⟩:=RTd.shape hTd
 replace h1:=h1.mono hle3
 replace h2:=h2.mono hle3
 replace h3:=h3.mono hle3
 replace h4:=h4.mono hle3
 replace hY:=hY.mono hle3
 have hle03:=hle02.trans hle3
 have hmi:(s.sp.st.length:Int)*(s.sp.wa.length:Int)=(s.sp.many:Int):=by unfold Spc.many;push_cast;rfl
 refine .z zm (.z zex (.z zex (.z zg (.z zg (.nil (.seq (.af (.z zm (.z (c9 aP) ?_)))))))))
 refine .z ir (.nil ?_)
 refine (.ck rfl (fun hc33=>?_) (fun hc33=>?_))
 ·refine .af (.z zm (.z zm ?_))
  refine .gT rfl rfl ?_
  refine .z zm ?_
  refine .gT rfl rfl ?_
  refine .z ir (.z zpT (.z zg (.nil ?_)))
  refine .ret (rT (Fin.bI Tryz.results18 rfl ?_))
  exact ⟨cm,H3,hle03,hs.out⟩
 ·refine .skip ?_
  refine nT ?_
  refine .af ?_
  refine .z (zia 0 br ai) ?_
  refine .y hs (zld ae) (.z zm (.z (c9 aP) ?_))
  refine .o (.call aU rfl (aI hs aj) ?_);rintro _ w ⟨j,gj,rfl,hs⟩
  obtain ⟨td,htd⟩:=nth (l:=s.bg) (k:=j) aj
  have htm:=List.mem_of_getElem? htd
  refine .z zg (.nil ?_)
  refine .cut (fun fs w=>∃b11 a b tol:Nat,mE fs ⟨176,[],[(11,.pointer (some ⟨b11,0,none⟩)),(10,I (j:Int)),(9,I 0),(7,.slice ay y.length cy),(6,.pointer (some ⟨b6,0,none⟩)),(5,.bool true),(3,.pointer (some ⟨b3,0,none⟩))]⟩∧a<s.sp.st.length∧b<s.sp.wa.length∧tol<30∧St H3 w (.blk b11 [I 61,I (a:Int),I (b:Int),I 0,I (tol:Int),I td.tape,I td.day]:: .blk b6 [I s.sp.id,I s.sp.src,.slice ast s.sp.st.length cst,.slice awa s.sp.wa.length cwa,I s.sp.al,I s.sp.up,.slice ar s.rs.length cr,.slice ac s.cs.length cc]:: .blk b3 [I x0,I x1,I x2,I x3,I x4]::σ)) ?_ ?_
  ·refine .draw mix rfl hs fun w hs=>?_
   refine .z 0 rfl (zia 1 br ai) ?_
   refine .y 1 rfl hs ae ?_;refine .z 2 rfl (zfa aK) ?_;refine .z 3 rfl (zfa bu) ?_;refine .y 4 rfl hs ak ?_;refine .z 5 rfl (c9 ad) ?_
   refine .z 7 rfl (zia 2 br ai) ?_
   refine .y 8 rfl hs ae ?_;refine .z 9 rfl (zfa aK) ?_;refine .z 10 rfl (zfa bn) ?_;refine .y 11 rfl hs ak ?_;refine .z 12 rfl (c9 ad) ?_
   refine .z 14 rfl (zia 3 br ai) ?_
   refine .y 15 rfl hs ae ?_;refine .z 17 rfl zm ?_;refine .z 18 rfl zm ?_
   refine .ixX (enc:=TD.c) (i:=19) hs rfl au .none hTd rfl rfl aP bq htd rfl ?_;intro b63 o63 hc63
   refine .z 20 rfl (zfa iU) ?_
   refine .r (i:=21) hs rfl au .none (bh rfl ae (hc63.get 0 rfl)) ?_
   refine .z 22 rfl zm ?_;refine .z 23 rfl zm ?_
   refine .ixX (enc:=TD.c) (i:=24) hs rfl au .none hTd rfl rfl aP bq htd rfl ?_;intro b68 o68 hc68
   refine .z 25 rfl (zfa gK) ?_
   refine .r (i:=26) hs rfl au .none (bh rfl ae (hc68.get 1 rfl)) ?_
   refine .e2 (i:=6) (j:=28) au rfl rfl rfl rfl .none .none hs ?_ ?_
   ·refine .call aU rfl (aI hs aj) ?_;rintro _ w ⟨a,ga,rfl,hs⟩
    refine .go ?_
    refine .e2 (i:=13) (j:=28) au rfl rfl rfl rfl .none .none hs ?_ ?_
    ·refine .call aU rfl (aI hs aj) ?_;rintro _ w ⟨b,gb,rfl,hs⟩
     refine .go ?_
     refine .e2 (i:=16) (j:=28) au rfl rfl rfl rfl .none .none hs ?_ ?_
     ·refine .call aU rfl (aI hs aj) ?_;rintro _ w ⟨tol,gt_,rfl,hs⟩
      refine .go ?_
      refine .z 27 rfl (zbd [_,_,_,_,_,_,_] bU) ?_
      refine .E 28 hs ?_
      refine .alloc hs bH rfl ?_;intro b11 w hs
      refine .go ?_
      refine .E 29 hs ?_
      refine .aO (vs:=[_,_,_,_,_,_,_]) hs rfl rfl aD ?_;intro w hs
      refine .go ?_
      refine .D hs ?_
      exact nT ⟨_,a,b,tol,bD,aj,aj,aj,hs.sb⟩
     ·refine .alloc hs bH rfl ?_;intro b11 w hs
      refine .go ?_
      refine .E 16 hs ?_
      refine .call aU rfl (aI hs aj) ?_;rintro _ w ⟨tol,gt_,rfl,hs⟩
      refine .go ?_
      refine .z 27 rfl (zbd [_,_,_,_,_,_,_] bU) ?_
      refine .E 29 hs ?_
      refine .aO (vs:=[_,_,_,_,_,_,_]) hs rfl rfl aD ?_;intro w hs
      refine .go ?_
      refine .D hs ?_
      exact nT ⟨_,a,b,tol,bD,aj,aj,aj,hs.sb⟩
    ·refine .alloc hs bH rfl ?_;intro b11 w hs
     refine .go ?_
     refine .E 13 hs ?_
     refine .call aU rfl (aI hs aj) ?_;rintro _ w ⟨b,gb,rfl,hs⟩
     refine .go ?_
     refine .E 16 hs ?_
     refine .call aU rfl (aI hs aj) ?_;rintro _ w ⟨tol,gt_,rfl,hs⟩
     refine .go ?_
     refine .z 27 rfl (zbd [_,_,_,_,_,_,_] bU) ?_
     refine .E 29 hs ?_
     refine .aO (vs:=[_,_,_,_,_,_,_]) hs rfl rfl aD ?_;intro w hs
     refine .go ?_
     refine .D hs ?_
     exact nT ⟨_,a,b,tol,bD,aj,aj,aj,hs.sb⟩
   ·refine .alloc hs bH rfl ?_;intro b11 w hs
    refine .go ?_
    refine .E 6 hs ?_
    refine .call aU rfl (aI hs aj) ?_;rintro _ w ⟨a,ga,rfl,hs⟩
    refine .go ?_
    refine .E 13 hs ?_
    refine .call aU rfl (aI hs aj) ?_;rintro _ w ⟨b,gb,rfl,hs⟩
    refine .go ?_
    refine .E 16 hs ?_
    refine .call aU rfl (aI hs aj) ?_;rintro _ w ⟨tol,gt_,rfl,hs⟩
    refine .go ?_
    refine .z 27 rfl (zbd [_,_,_,_,_,_,_] bU) ?_
    refine .E 29 hs ?_
    refine .aO (vs:=[_,_,_,_,_,_,_]) hs rfl rfl aD ?_;intro w hs
    refine .go ?_
    refine .D hs ?_
    exact nT ⟨_,a,b,tol,bD,aj,aj,aj,hs.sb⟩
  ·rintro fs w ⟨b11,a,b,tol,hfs,ga,gb,gtol,hs⟩
   refine WE.sub ?_ hfs
   clear hfs
   refine .af (.z (zfa aK) (.y hs (zls [_,_,_,_,_,_] aM aE) (.z (zfa ea) (.y hs (zld ae) (.z (zfa dZ) (.y hs (zld ae) ?_))))))
   have hub:=re (s:=s.sp) (i:=a) (k:=b) aj aj
   refine .o (.call Tryz.call57 rfl (mN (s:=s.sp) (a:=a) (b:=b) hs h1 h2) ?_);rintro _ w ⟨H4,xu,e4,hle4,rfl,hUn,hs⟩
   obtain ⟨rfl,rfl⟩:=hUn.uniq (.ok hok.early.1 ⟨⟨aj,aj⟩,aj,aj⟩)
   rw [show 1+(a:Int)*(s.sp.wa.length:Int)+(b:Int)=((s.sp.u a b:Nat):Int) by unfold Spc.u;push_cast;rfl]
   have hyu:=(hK.bd).2.2 a aj b aj
   have hye:=BZ hK (j:=j) aj
   replace h1:=h1.mono hle4
   replace h2:=h2.mono hle4
   replace h3:=h3.mono hle4
   replace h4:=h4.mono hle4
   replace hY:=hY.mono hle4
   have hle04:=hle03.trans hle4
   refine .z zm (.z zex (.z zex (.z zg (.z zg (.nil (.af (.z (zfa aK) (.z (zfa bu) (.y hs (zld ak) ?_)))))))))
   refine .z (c9 ad) (.z (zfa aK) (.z (zfa bn) (.y hs (zld ak) (.z (c9 ad) (.z kG ?_)))))
   rw [hmi]
   refine .z zg (.nil (.seq (.af (.z zm (.z fM ?_)))))
   rw [decide_eq_true rfl]
   refine .z zm ?_
   refine .gT rfl rfl ?_
   refine .z zm ?_
   refine .gT rfl rfl ?_
   refine .z fM ?_
   rw [decide_eq_true rfl]
   refine .z zpF (.z zm ?_)
   refine .gT rfl rfl ?_
   refine .z zm ?_
   refine .gT rfl rfl ?_
   refine .z gp ?_
   rw [decide_eq_false aj]
   refine .z zpF (.z zm ?_)
   refine .gT rfl rfl ?_
   refine .z zm ?_
   refine .gT rfl rfl ?_
   refine .z zm ?_
   refine .gT rfl rfl ?_
   refine .z od ?_
   rw [decide_eq_false aj]
   refine .z zpF (.nil ?_)
   refine (.cF ?_)
   refine .skip ?_
   refine nT ?_
   refine .seq (.draw mix rfl hs fun w hs=>?_)
   refine .z 0 rfl zm ?_;refine .z 1 rfl zm ?_
   refine .ixX (enc:=fun x=>[I x]) (i:=2) hs rfl au .none hY rfl rfl ad ai (bJ (l:=y) (i:=(s.sp.u a b)) aj) dx ?_;intro b108 o108 hc108;replace hc108:=bQ.one hc108
   refine .r (i:=3) hs rfl au .none (bh rfl ae hc108) ?_
   refine .z 4 rfl zm ?_;refine .z 5 rfl zm ?_;refine .z 6 rfl cC ?_;refine .z 7 rfl zm ?_;refine .z 8 rfl cC ?_
   refine .ixX (enc:=fun x=>[I x]) (i:=9) hs rfl au .none hY rfl rfl ad ai (bJ (l:=y) (i:=(s.sp.many+1+j)) aj) dx ?_;intro b115 o115 hc115;replace hc115:=bQ.one hc115
   refine .r (i:=10) hs rfl au .none (bh rfl ae hc115) ?_
   refine .z 11 rfl hZ ?_
   refine .z 12 rfl (zia 4 br ai) ?_
   refine .y 13 rfl hs ae ?_;refine .z 14 rfl (zfa bR) ?_;refine .y 15 rfl hs ae ?_;refine .z 16 rfl kG ?_;refine .z 17 rfl cC ?_;refine .z 20 rfl (zfa bR) ?_;refine .y 21 rfl hs ae ?_
   refine .E 18 hs ?_
   refine .call aU rfl (aI hs aj) ?_;rintro _ w ⟨m,gm,rfl,hs⟩
   refine .go ?_
   refine .z 19 rfl cC ?_;refine .z 22 rfl hZ ?_;refine .z 23 rfl zg ?_;refine .D hs ?_
   refine .seq (.af (.z zm (.z gp (.z zm ?_))))
   refine .kf (t':=131) rfl (fun hb131=>?_) (fun hb131=>?_)
   ·refine .gFs 5 2 false rfl rfl rfl ?_
    refine .z zpT (.nil ?_)
    refine (.cT ?_)
    refine .af (.z zm (.z zg (.nil ?_)))
    refine .ret (rT (Fin.bI Tryz.results18 rfl ?_))
    exact ⟨rfl,H4,hle04,hs.out⟩
   ·refine .gT rfl rfl ?_
    refine .z zm ?_
    refine .gT rfl rfl ?_
    refine .z (zfa bR) ?_
    refine .gT rfl rfl ?_
    refine .y hs (zld ae) ?_
    refine .gT rfl rfl ?_
    refine .z hZ ?_
    refine .gT rfl rfl ?_
    refine .z od (.z zpF (.nil ?_))
    refine (.ck rfl (fun hc137=>?_) (fun hc137=>?_))
    ·refine .af (.z zm (.z zg (.nil ?_)))
     refine .ret (rT (Fin.bI Tryz.results18 rfl ?_))
     exact ⟨rfl,H4,hle04,hs.out⟩
    ·refine .skip ?_
     refine nT ?_
     refine .af (.y hs (zls [_,_,_,_,_,_,_,_] aq an) (.y hs (zls [_,_,_,_,_,_,_] cg aD) ?_))
     generalize hx:gi y (s.sp.u a b) - gi y (s.sp.many+1+j)+(m:Int) - (tol:Int)=x at*
     obtain ⟨hTo,hRo,hSo,hCo⟩:=again hM hK htd ga gb gtol (m:=m) aj (x:=x) aj aj
     refine .o (.call Tryz.call46 rfl (kz (s:=s) (r:=⟨61,a,b,0,tol,td.tape,td.day⟩) (z:=0) hs h1 h2 h3 h4 rfl) ?_);rintro _ w ⟨H5,lo,hi,e5,hle5,rfl,hT5,hs⟩
     obtain ⟨rfl,hin⟩:=hTo _ _ _ hT5
     replace h1:=h1.mono hle5
     replace h2:=h2.mono hle5
     replace h3:=h3.mono hle5
     replace h4:=h4.mono hle5
     replace hY:=hY.mono hle5
     have hle05:=hle04.trans hle5
     refine .z zm (.z zex (.z zex ?_))
     refine .o (.alloc hs cz rfl fun b16 w hs=>?_)
     refine .o (.aO (vs:=[_,_]) hs rfl rfl aJ fun w hs=>?_)
     refine .z zg (.nil (.af (.z zm (.z (zfa dv) ?_))))
     refine .o (.store hs rfl rfl ai fun w hs=>?_)
     refine .nil (.af (.y hs (zls [_,_,_,_,_,_,_,_] aq an) (.y hs (zls [_,_,_,_,_,_,_] cg aD) ?_)))
     refine .o (.call Tryz.call48 rfl (ky (s:=s) (r:=⟨61,a,b,x,tol,td.tape,td.day⟩) hs h1 h2 h3 h4) ?_);rintro _ w ⟨H6,_,sA,e6,hle6,rfl,⟨z1,z2,z3,z4,rfl,k1,k2,k3,k4⟩,hW6,hs⟩
     obtain ⟨rfl,rfl⟩:=hW6.uniq (.ok hok hRo hSo)
     obtain ⟨z5,z6,rfl⟩:=RI.shape k1
     obtain ⟨z7,z8,rfl⟩:=RI.shape k2
     obtain ⟨z9,z10,rfl⟩:=RRd.shape k3
     obtain ⟨z11,z12,rfl⟩:=RCm.shape k4
     replace h1:=h1.mono hle6
     replace h2:=h2.mono hle6
     replace h3:=h3.mono hle6
     replace h4:=h4.mono hle6
     replace hY:=hY.mono hle6
     have hle06:=hle05.trans hle6
     refine .z zm (.z zex (.z zex ?_))
     refine .o (.alloc hs bK rfl fun b18 w hs=>?_)
     refine .o (.aO (vs:=[_,_,_,_,_,_,_,_]) hs rfl rfl an fun w hs=>?_)
     refine .z zg (.nil ?_)
     refine .seq (.draw mix rfl hs fun w hs=>?_)
     refine .z 0 rfl zm ?_;refine .z 1 rfl zm ?_;refine .z 2 rfl zm ?_;refine .z 3 rfl ir ?_
     rw [decide_eq_true rfl]
     refine .z 4 rfl zpT ?_;refine .z 5 rfl zm ?_;refine .z 6 rfl zm ?_;refine .ys 7 rfl hs [_,_] bX aJ ?_
     refine .E 8 hs ?_
     refine .call Tryz.call79 rfl (p4 hs) ?_;rintro _ w ⟨rfl,hs⟩
     rw [decide_eq_true hin]
     refine .go ?_
     refine .z 9 rfl zpT ?_;refine .z 10 rfl zm ?_;refine .z 11 rfl zm ?_;refine .z 12 rfl ir ?_
     rw [decide_eq_true rfl]
     refine .z 13 rfl zpT ?_;refine .z 14 rfl zm ?_;refine .ys 15 rfl hs [_,_,_,_,_,_,_,_] aq an ?_;refine .z 16 rfl (zfa aK) ?_;refine .ys 17 rfl hs [_,_,_,_,_,_] aM aE ?_;refine .z 18 rfl zm ?_
     refine .E 19 hs ?_
     refine .call Tryz.call61 rfl (sv (s:=s.sp) hs h1 h2 hY aj aj aj) ?_;rintro _ w ⟨H7,va,hle7,rfl,hT,hs⟩
     obtain ⟨aT,cT,rfl⟩:=hT.shape
     replace k1:=k1.mono hle7
     replace k2:=k2.mono hle7
     replace k3:=k3.mono hle7
     replace k4:=k4.mono hle7
     refine .go ?_
     refine .E 20 hs ?_
     refine .call Tryz.call63 rfl (lG (s:=s.add ⟨61,a,b,x,tol,td.tape,td.day⟩) hs k1 k2 k3 k4 hT) ?_;rintro _ w ⟨H8,e8,hle8,rfl,hC8,hs⟩
     obtain rfl:=hC8.uniq hCo
     refine .go ?_
     refine .z 21 rfl ir ?_;refine .z 22 rfl zpT ?_;refine .z 23 rfl zg ?_;refine .D hs ?_
     refine .ret (Fin.bI Tryz.results18 rfl ?_)
     exact ⟨cm,H8,hle06.trans (hle7.trans hle8),hs.out⟩
set_option maxHeartbeats 8000000 in
theorem mP{v:Value}{g:CQ}{a b c x0 x1 x2 x3 x4:Int}(hs:St H w σ)(hg:xg H v g):
  Cl Tryz.prog 15 [v,.agg #[I a,I b,I c],.agg #[I x0,I x1,I x2,I x3,I x4]] w fun v w'=>v= .bool true∧∃H',HLe H H'∧St H' w' σ:=by
 obtain ⟨vs,v5,v4,vp,rfl,g1,g2,g3,g4⟩:=hg
 refine Cl.o Tryz.func15 Tryz.ntmps15 ag3 ?_
 refine .af ?_
 refine .bx hs fun b3 w hs=>?_
 refine .bx hs fun b4 w hs=>?_
 refine .bx hs fun b5 w hs=>?_
 refine .z zg (.nil (.af ?_))
 refine .o (.call Tryz.call22 rfl (jB hs) ?_);rintro _ w ⟨rfl,H1,hle1,hs⟩
 refine .z zg (.nil (.af (.y hs (zls [_,_,_,_,_,_,_] Tryz.isAgg27 Tryz.sizeOf27) ?_)))
 refine .o (.call Tryz.call60 rfl (kc hs (g1.mono hle1) (g2.mono hle1) (g3.mono hle1) (g4.mono hle1)) ?_);rintro _ w ⟨H2,s,y,vst,vwa,vr,vc,vy,hle2,rfl,hM,hK,h1,h2,h3,h4,-,hs⟩
 obtain ⟨ast,cst,rfl⟩:=RI.shape h1
 obtain ⟨awa,cwa,rfl⟩:=RI.shape h2
 obtain ⟨ar,cr,rfl⟩:=RRd.shape h3
 obtain ⟨ac,cc,rfl⟩:=RCm.shape h4
 have hst4:=hM.st
 have hwa3:=hM.wa
 have hcs5:=hM.cs
 have hmr:=hM.rs
 have hok:=hM.ok
 have hst2:=hok.early.1.st.two
 have hwa2:=hok.early.1.wa.two
 have hsd:=ta hok hK
 have hle02:=hle1.trans hle2
 refine .z zm (.z zex (.z zex ?_))
 refine .o (.alloc hs bK rfl fun b8 w hs=>?_)
 refine .o (.aO (vs:=[_,_,_,_,_,_,_,_]) hs rfl rfl an fun w hs=>?_)
 refine .z zg (.nil (.af (.z (zfa aK) (.y hs (zls [_,_,_,_,_,_] aM aE) (.y hs (zls [_,_,_] Tryz.isAgg25 Tryz.sizeOf25) ?_)))))
 refine .o (.call Tryz.call25 rfl (jx (s:=s.sp) hs h1 h2 hok.early.1) ?_);rintro _ w ⟨q,rfl,hq,hs⟩
 refine .o (.alloc hs xi rfl fun b10 w hs=>?_)
 refine .o (.aO (vs:=[_,_,_]) hs rfl rfl bw fun w hs=>?_)
 refine .nil (.af (.y hs (zls [_,_,_,_,_,_,_,_] aq an) (.y hs (zls [_,_,_] cj bw) ?_)))
 refine .o (.call lK rfl (dc (s:=s) (q:=q) hs h1 h2 h3 h4) ?_);rintro _ w ⟨H3,lo,hi,e,hle3,rfl,hB,hs⟩
 obtain rfl:=(vg hB hok hq).1 hsd
 replace h1:=h1.mono hle3
 replace h2:=h2.mono hle3
 replace h3:=h3.mono hle3
 replace h4:=h4.mono hle3
 have hle03:=hle02.trans hle3
 refine .z zm (.z zex (.z zex ?_))
 refine .o (.alloc hs cz rfl fun b11 w hs=>?_)
 refine .o (.aO (vs:=[_,_]) hs rfl rfl aJ fun w hs=>?_)
 refine .z zg (.nil (.af (.y hs (zls [_,_,_,_,_,_,_,_] aq an) ?_)))
 refine .o (.alloc hs bK rfl fun b13 w hs=>?_)
 refine .o (.aO (vs:=[_,_,_,_,_,_,_,_]) hs rfl rfl an fun w hs=>?_)
 refine .nil ?_
 refine .cut (fun fs w=>∃H4 t ust uwa ur uc,mE fs ⟨217,[],[(13,.pointer (some ⟨b13,0,none⟩)),(12,I 0),(11,.pointer (some ⟨b11,0,none⟩)),(10,.pointer (some ⟨b10,0,none⟩)),(8,.pointer (some ⟨b8,0,none⟩)),(7,.bool true)]⟩∧HLe H3 H4∧LeV s t∧cS t∧RI H4 ust t.sp.st∧RI H4 uwa t.sp.wa∧RRd H4 ur t.rs∧RCm H4 uc t.cs∧St H4 w (.blk b13 [I t.sp.id,I t.sp.src,ust,uwa,I t.sp.al,I t.sp.up,ur,uc]:: .blk b11 [I lo,I hi]:: .blk b10 [I q.kind,I q.st,I q.wa]:: .blk b8 [I s.sp.id,I s.sp.src,.slice ast s.sp.st.length cst,.slice awa s.sp.wa.length cwa,I s.sp.al,I s.sp.up,.slice ar s.rs.length cr,.slice ac s.cs.length cc]::σ)) ?_ ?_
 ·refine .af ?_
  refine .z (zia 4 br ai) ?_
  refine .y hs (zld ae) (.z A2 (.z ir (.nil ?_)))
  refine (.ck rfl (fun hc49=>?_) (fun hc49=>?_))
  ·refine .cut (fun fs w=>∃(b14 a b k2 k3 k4:Nat),mE fs ⟨217,[],[(14,.pointer (some ⟨b14,0,none⟩)),(13,.pointer (some ⟨b13,0,none⟩)),(12,I 0),(11,.pointer (some ⟨b11,0,none⟩)),(10,.pointer (some ⟨b10,0,none⟩)),(8,.pointer (some ⟨b8,0,none⟩)),(7,.bool true)]⟩∧(a<s.sp.st.length∧b<s.sp.wa.length∧k2<3000∧k3<500∧k4<3)∧St H3 w (.blk b14 [I 60,I (a:Int),I (b:Int),I (k2:Int),I (k3:Int),I (1+(k4:Int)),I 0]:: .blk b13 [I s.sp.id,I s.sp.src,.slice ast s.sp.st.length cst,.slice awa s.sp.wa.length cwa,I s.sp.al,I s.sp.up,.slice ar s.rs.length cr,.slice ac s.cs.length cc]:: .blk b11 [I lo,I hi]:: .blk b10 [I q.kind,I q.st,I q.wa]:: .blk b8 [I s.sp.id,I s.sp.src,.slice ast s.sp.st.length cst,.slice awa s.sp.wa.length cwa,I s.sp.al,I s.sp.up,.slice ar s.rs.length cr,.slice ac s.cs.length cc]::σ)) ?_ ?_
   ·refine .draw mix rfl hs fun w hs=>?_
    refine .z 0 rfl (zia 0 br ai) ?_
    refine .y 1 rfl hs ae ?_;refine .z 2 rfl (zfa aK) ?_;refine .z 3 rfl (zfa bu) ?_;refine .y 4 rfl hs ak ?_;refine .z 5 rfl (c9 ad) ?_
    refine .z 7 rfl (zia 1 br ai) ?_
    refine .y 8 rfl hs ae ?_;refine .z 9 rfl (zfa aK) ?_;refine .z 10 rfl (zfa bn) ?_;refine .y 11 rfl hs ak ?_;refine .z 12 rfl (c9 ad) ?_
    refine .z 14 rfl (zia 2 br ai) ?_
    refine .y 15 rfl hs ae ?_
    refine .z 17 rfl (zia 3 br ai) ?_
    refine .y 18 rfl hs ae ?_
    refine .z 20 rfl (zia 4 br ai) ?_
    refine .y 21 rfl hs ae ?_;refine .z 22 rfl DV ?_
    refine .e2 (i:=6) (j:=26) au rfl rfl rfl rfl .none .none hs ?_ ?_
    ·refine .call aU rfl (aI hs aj) ?_;rintro _ w ⟨ka,ga,rfl,hs⟩
     refine .go ?_
     refine .e2 (i:=13) (j:=26) au rfl rfl rfl rfl .none .none hs ?_ ?_
     ·refine .call aU rfl (aI hs aj) ?_;rintro _ w ⟨kb,gb,rfl,hs⟩
      refine .go ?_
      refine .e2 (i:=16) (j:=26) au rfl rfl rfl rfl .none .none hs ?_ ?_
      ·refine .call aU rfl (aI hs aj) ?_;rintro _ w ⟨k2,gk2,rfl,hs⟩
       refine .go ?_
       refine .e2 (i:=19) (j:=26) au rfl rfl rfl rfl .none .none hs ?_ ?_
       ·refine .call aU rfl (aI hs aj) ?_;rintro _ w ⟨k3,gk3,rfl,hs⟩
        refine .go ?_
        refine .e2 (i:=23) (j:=26) au rfl rfl rfl rfl .none .none hs ?_ ?_
        ·refine .call aU rfl (aI hs aj) ?_;rintro _ w ⟨k4,gk4,rfl,hs⟩
         refine .go ?_
         refine .z 24 rfl cC ?_;refine .z 25 rfl (zbd [_,_,_,_,_,_,_] bU) ?_
         refine .E 26 hs ?_
         refine .alloc hs bH rfl ?_;intro b14 w hs
         refine .go ?_
         refine .E 27 hs ?_
         refine .aO (vs:=[_,_,_,_,_,_,_]) hs rfl rfl aD ?_;intro w hs
         refine .go ?_
         refine .D hs ?_
         exact nT ⟨_,ka,kb,k2,k3,k4,bD,⟨aj,aj,aj,aj,aj⟩,hs.sb⟩
        ·refine .alloc hs bH rfl ?_;intro b14 w hs
         refine .go ?_
         refine .E 23 hs ?_
         refine .call aU rfl (aI hs aj) ?_;rintro _ w ⟨k4,gk4,rfl,hs⟩
         refine .go ?_
         refine .z 24 rfl cC ?_;refine .z 25 rfl (zbd [_,_,_,_,_,_,_] bU) ?_
         refine .E 27 hs ?_
         refine .aO (vs:=[_,_,_,_,_,_,_]) hs rfl rfl aD ?_;intro w hs
         refine .go ?_
         refine .D hs ?_
         exact nT ⟨_,ka,kb,k2,k3,k4,bD,⟨aj,aj,aj,aj,aj⟩,hs.sb⟩
       ·refine .alloc hs bH rfl ?_;intro b14 w hs
        refine .go ?_
        refine .E 19 hs ?_
        refine .call aU rfl (aI hs aj) ?_;rintro _ w ⟨k3,gk3,rfl,hs⟩
        refine .go ?_
        refine .E 23 hs ?_
        refine .call aU rfl (aI hs aj) ?_;rintro _ w ⟨k4,gk4,rfl,hs⟩
        refine .go ?_
        refine .z 24 rfl cC ?_;refine .z 25 rfl (zbd [_,_,_,_,_,_,_] bU) ?_
        refine .E 27 hs ?_
        refine .aO (vs:=[_,_,_,_,_,_,_]) hs rfl rfl aD ?_;intro w hs
        refine .go ?_
        refine .D hs ?_
        exact nT ⟨_,ka,kb,k2,k3,k4,bD,⟨aj,aj,aj,aj,aj⟩,hs.sb⟩
      ·refine .alloc hs bH rfl ?_;intro b14 w hs
       refine .go ?_
       refine .E 16 hs ?_
       refine .call aU rfl (aI hs aj) ?_;rintro _ w ⟨k2,gk2,rfl,hs⟩
       refine .go ?_
       refine .E 19 hs ?_
       refine .call aU rfl (aI hs aj) ?_;rintro _ w ⟨k3,gk3,rfl,hs⟩
       refine .go ?_
       refine .E 23 hs ?_
       refine .call aU rfl (aI hs aj) ?_;rintro _ w ⟨k4,gk4,rfl,hs⟩
       refine .go ?_
       refine .z 24 rfl cC ?_;refine .z 25 rfl (zbd [_,_,_,_,_,_,_] bU) ?_
       refine .E 27 hs ?_
       refine .aO (vs:=[_,_,_,_,_,_,_]) hs rfl rfl aD ?_;intro w hs
       refine .go ?_
       refine .D hs ?_
       exact nT ⟨_,ka,kb,k2,k3,k4,bD,⟨aj,aj,aj,aj,aj⟩,hs.sb⟩
     ·refine .alloc hs bH rfl ?_;intro b14 w hs
      refine .go ?_
      refine .E 13 hs ?_
      refine .call aU rfl (aI hs aj) ?_;rintro _ w ⟨kb,gb,rfl,hs⟩
      refine .go ?_
      refine .E 16 hs ?_
      refine .call aU rfl (aI hs aj) ?_;rintro _ w ⟨k2,gk2,rfl,hs⟩
      refine .go ?_
      refine .E 19 hs ?_
      refine .call aU rfl (aI hs aj) ?_;rintro _ w ⟨k3,gk3,rfl,hs⟩
      refine .go ?_
      refine .E 23 hs ?_
      refine .call aU rfl (aI hs aj) ?_;rintro _ w ⟨k4,gk4,rfl,hs⟩
      refine .go ?_
      refine .z 24 rfl cC ?_;refine .z 25 rfl (zbd [_,_,_,_,_,_,_] bU) ?_
      refine .E 27 hs ?_
      refine .aO (vs:=[_,_,_,_,_,_,_]) hs rfl rfl aD ?_;intro w hs
      refine .go ?_
      refine .D hs ?_
      exact nT ⟨_,ka,kb,k2,k3,k4,bD,⟨aj,aj,aj,aj,aj⟩,hs.sb⟩
    ·refine .alloc hs bH rfl ?_;intro b14 w hs
     refine .go ?_
     refine .E 6 hs ?_
     refine .call aU rfl (aI hs aj) ?_;rintro _ w ⟨ka,ga,rfl,hs⟩
     refine .go ?_
     refine .E 13 hs ?_
     refine .call aU rfl (aI hs aj) ?_;rintro _ w ⟨kb,gb,rfl,hs⟩
     refine .go ?_
     refine .E 16 hs ?_
     refine .call aU rfl (aI hs aj) ?_;rintro _ w ⟨k2,gk2,rfl,hs⟩
     refine .go ?_
     refine .E 19 hs ?_
     refine .call aU rfl (aI hs aj) ?_;rintro _ w ⟨k3,gk3,rfl,hs⟩
     refine .go ?_
     refine .E 23 hs ?_
     refine .call aU rfl (aI hs aj) ?_;rintro _ w ⟨k4,gk4,rfl,hs⟩
     refine .go ?_
     refine .z 24 rfl cC ?_;refine .z 25 rfl (zbd [_,_,_,_,_,_,_] bU) ?_
     refine .E 27 hs ?_
     refine .aO (vs:=[_,_,_,_,_,_,_]) hs rfl rfl aD ?_;intro w hs
     refine .go ?_
     refine .D hs ?_
     exact nT ⟨_,ka,kb,k2,k3,k4,bD,⟨aj,aj,aj,aj,aj⟩,hs.sb⟩
   ·rintro fs w ⟨b14,ka,kb,k2,k3,k4,hfs,⟨ga,gb,gk2,gk3,gk4⟩,hs⟩
    refine WE.sub ?_ hfs
    clear hfs
    have hRk:fN s.sp ⟨60,ka,kb,k2,k3,1+(k4:Int),0⟩:=⟨by show (1:Int)≤60∧(60:Int)≤99999;omega,⟨by show (0:Int)≤(ka:Int);omega,by show (ka:Int)≤_;omega⟩,⟨by show (0:Int)≤(kb:Int);omega,by show (kb:Int)≤_;omega⟩,⟨by show (0:Int)≤(k3:Int);omega,by show (k3:Int)≤1000;omega⟩,⟨by show (0:Int)≤(k2:Int);omega,by show (k2:Int)≤20000 - (k3:Int);omega⟩,⟨by show (1:Int)≤1+(k4:Int);omega,by show 1+(k4:Int)≤99;omega⟩,by show (0:Int)≤0∧(0:Int)≤100000;omega⟩
    have hSk:=xC hM hRk
    refine .af (.y hs (zls [_,_,_,_,_,_,_,_] aq an) (.y hs (zls [_,_,_,_,_,_,_] cg aD) ?_))
    refine .o (.call Tryz.call48 rfl (ky (s:=s) (r:=⟨60,ka,kb,k2,k3,1+(k4:Int),0⟩) hs h1 h2 h3 h4) ?_);rintro _ w ⟨H6,_,sA,e6,hle6,rfl,⟨z1,z2,z3,z4,rfl,k1',k2',k3',k4'⟩,hW6,hs⟩
    obtain ⟨rfl,rfl⟩:=hW6.uniq (.ok hok hRk hSk)
    obtain ⟨z5,z6,rfl⟩:=RI.shape k1'
    obtain ⟨z7,z8,rfl⟩:=RI.shape k2'
    obtain ⟨z9,z10,rfl⟩:=RRd.shape k3'
    obtain ⟨z11,z12,rfl⟩:=RCm.shape k4'
    refine .z zm (.z zex (.z zex ?_))
    refine .o (.alloc hs bK rfl fun b15 w hs=>?_)
    refine .o (.aO (vs:=[_,_,_,_,_,_,_,_]) hs rfl rfl an fun w hs=>?_)
    refine .z zg (.nil (.seq (.af (.z zm (.z fM ?_)))))
    rw [decide_eq_true rfl]
    refine .nil ?_
    refine (.cF ?_)
    refine .skip ?_
    refine nT ?_
    refine .region (.y hs (zls [_,_,_,_,_,_,_,_] aq an) ?_)
    refine .o (.aO (vs:=[_,_,_,_,_,_,_,_]) hs rfl rfl an fun w hs=>?_)
    refine .nil ?_
    refine nT ?_
    exact ⟨H6,_,_,_,_,_,bD,hle6,EJ _ _,hSk,k1',k2',k3',k4',hs.sb⟩
  ·refine .af ?_
   refine .z (zia 1 br ai) ?_
   refine .y hs (zld ae) ?_
   refine .o (.call aU rfl (aI hs aj) ?_);rintro _ w ⟨k80,gk80,rfl,hs⟩
   refine .z hZ (.z zg (.nil ?_))
   refine .draw mix rfl hs fun w hs=>?_
   refine .z 1 rfl (zfa bT) ?_;refine .y 2 rfl hs fO ?_
   refine .z 4 rfl (zia 0 br ai) ?_
   refine .y 5 rfl hs ae ?_;refine .z 8 rfl zm ?_;refine .z 9 rfl zm ?_
   refine .z 10 rfl (zia 2 br ai) ?_
   refine .y 11 rfl hs ae ?_
   refine .E 0 hs ?_
   refine .buildSlice (cells:=[]) hs jf rfl rfl ?_;intro b89 w hs
   refine .go ?_
   refine .E 3 hs ?_
   refine .append (xs:=[]) hs dn rfl rfl (.full (len:=0) rfl) (AP h4) (x9 s.cs) (fun l' h=>by simp at h;obtain rfl:l'=0:=aj;omega) ?_;intro v92 en92 w hO hs
   rw [List.nil_append] at hO
   obtain ⟨a92,c92,rfl⟩:=hO.fj (iY _) aj
   rw [dp] at hO ⊢
   refine .go ?_
   refine .E 6 hs ?_
   refine .call aU rfl (aI hs aj) ?_;rintro _ w ⟨k3,gk3,rfl,hs⟩
   refine .go ?_
   refine .z 7 rfl cC ?_
   refine .E 12 hs ?_
   refine .call aU rfl (aI hs aj) ?_;rintro _ w ⟨k60,gk60,rfl,hs⟩
   refine .go ?_
   refine .z 13 rfl cC ?_;refine .z 14 rfl (zbd [_,_,_,_,_,_] jC) ?_
   refine .E 15 hs ?_
   refine .buildSlice (cells:=Cmp.c ⟨60,1+(k3:Int),0,2,(k80:Int) - 40,(k80:Int) - 40+(k60:Int)⟩) hs gC rfl au ?_;intro b104 w hs
   refine .go ?_
   refine .E 16 hs ?_
   refine .append (ys:=Cmp.c ⟨60,1+(k3:Int),0,2,(k80:Int) - 40,(k80:Int) - 40+(k60:Int)⟩) hs dn rfl rfl hO (.own dw rfl rfl) (by simp [Cmp.c,Value.oneCell']) (fun l' h=>by rw [bE _ (iY _),dp] at h;omega) ?_;intro v105 en105 w hO5 hs
   rw [←ug] at hO5
   obtain ⟨a105,c105,rfl⟩:=hO5.fj (iY _) aj
   refine .go ?_
   refine .z 17 rfl (zfa bT) ?_
   refine .E 18 hs ?_
   refine .store hs rfl rfl pA ?_;intro w hs
   refine .go ?_
   refine .D hs ?_
   refine nT ?_
   have hCk:nY ⟨60,1+(k3:Int),0,2,(k80:Int) - 40,(k80:Int) - 40+(k60:Int)⟩:=⟨by show (1:Int)≤60∧(60:Int)≤99999;omega,⟨by show (1:Int)≤1+(k3:Int);omega,by show 1+(k3:Int)≤99;omega⟩,by show (0:Int)≤0∧(0:Int)≤2;omega,by show (2:Int)≤100000;omega,⟨by show (-1000:Int)≤(k80:Int) - 40;omega,by show (k80:Int) - 40≤(k80:Int) - 40+(k60:Int);omega⟩,by show (k80:Int) - 40+(k60:Int)≤1000;omega⟩
   obtain ⟨H6,hle6,hRC,hs⟩:=bS.cf (m:=6) (cs:=cmc _) hO5 (iY _) aj (by rw [dp,List.length_append,List.length_singleton];omega) hs dw
   exact ⟨H6,s.cmp ⟨60,1+(k3:Int),0,2,(k80:Int) - 40,(k80:Int) - 40+(k60:Int)⟩,_,_,_,_,bD,hle6,EH _ _,BR hM hCk,h1.mono hle6,h2.mono hle6,h3.mono hle6,hRC,hs.sb⟩
 ·clear hs
  rintro fs w ⟨H4,t,ust,uwa,ur,uc,hfs,hle4,hLe,hTk,u1,u2,u3,u4,hs⟩
  refine WE.sub ?_ hfs
  clear hfs
  obtain ⟨z1,z2,rfl⟩:=RI.shape u1
  obtain ⟨z3,z4,rfl⟩:=RI.shape u2
  obtain ⟨z5,z6,rfl⟩:=RRd.shape u3
  obtain ⟨z7,z8,rfl⟩:=RCm.shape u4
  replace h1:=h1.mono hle4
  replace h2:=h2.mono hle4
  replace h3:=h3.mono hle4
  replace h4:=h4.mono hle4
  have hle04:=hle03.trans hle4
  refine .af (.y hs (zls [_,_,_,_,_,_,_,_] aq an) (.y hs (zls [_,_,_] cj bw) ?_))
  refine .o (.call lK rfl (dc (s:=t) (q:=q) hs u1 u2 u3 u4) ?_);rintro _ w ⟨H5,lo2,hi2,e19,hle5,rfl,hB2,hs⟩
  obtain ⟨hn1,hn2⟩:=yA hB hLe hTk hB2
  replace h1:=h1.mono hle5
  replace h2:=h2.mono hle5
  replace h3:=h3.mono hle5
  replace h4:=h4.mono hle5
  have hle05:=hle04.trans hle5
  refine .z zm (.z zex (.z zex ?_))
  refine .o (.alloc hs cz rfl fun b18 w hs=>?_)
  refine .o (.aO (vs:=[_,_]) hs rfl rfl aJ fun w hs=>?_)
  refine .z zg (.nil ?_)
  refine .cut (fun fs w=>mE fs ⟨217,[],[(12,I 0),(11,.pointer (some ⟨b11,0,none⟩)),(10,.pointer (some ⟨b10,0,none⟩)),(8,.pointer (some ⟨b8,0,none⟩)),(7,.bool true)]⟩∧St H5 w (.blk b11 [I lo,I hi]:: .blk b10 [I q.kind,I q.st,I q.wa]:: .blk b8 [I s.sp.id,I s.sp.src,.slice ast s.sp.st.length cst,.slice awa s.sp.wa.length cwa,I s.sp.al,I s.sp.up,.slice ar s.rs.length cr,.slice ac s.cs.length cc]::σ)) ?_ ?_
  ·refine .af (.z zm (.z iq (.z zm ?_)))
   refine .gT rfl rfl ?_
   refine .z zm ?_
   refine .gT rfl rfl ?_
   refine .z fM ?_
   rw [decide_eq_true rfl]
   refine .z zpF (.z zm ?_)
   refine .gT rfl rfl ?_
   refine .z zm ?_
   refine .gT rfl rfl ?_
   refine .z fM ?_
   refine .gT rfl rfl ?_
   refine .z zm ?_
   refine .yU (t':=122) rfl (fun hb122=>?_) (fun hb122=>?_)
   ·refine .gT rfl rfl ?_
    refine .z zm ?_
    refine .gT rfl rfl ?_
    refine .z fM ?_
    refine .gT rfl rfl ?_
    refine .z zpT (.z zpF (.z zm ?_))
    refine .yU (t':=127) rfl (fun hb127=>?_) (fun hb127=>?_)
    ·refine .gFs 3 14 false rfl rfl rfl ?_
     refine .gFs 6 17 true rfl rfl rfl ?_
     refine .gFs 5 23 false rfl rfl rfl ?_
     refine .gFs 1 17 true rfl rfl rfl ?_
     refine .gFs 1 14 false rfl rfl rfl ?_
     refine .z zpT (.nil ?_)
     refine (.cT ?_)
     refine .af (.z zg (.nil ?_))
     refine .ret (rT (Fin.bI mZ rfl ?_))
     first
     |exact ⟨rfl,H8,hle07.trans hle8,hs.out⟩
     |(exfalso;rcases hn1 with h|h<;>first|omega|(have:=hn2 h;omega))
     |(exfalso;clear hn1 hn2;by_cases hA:lo3=lo∧hi3=hi<;>by_cases hBm:gi L2 i∈L1<;>simp_all)
    ·refine .gT rfl rfl ?_
     refine .z zm ?_
     refine .gT rfl rfl ?_
     refine .z ir ?_
     refine .gT rfl rfl ?_
     refine .z zm ?_
     refine .kf (t':=130) rfl (fun hb130=>?_) (fun hb130=>?_)
     ·refine .gT rfl rfl ?_
      refine .z (zfa dt) ?_
      refine .gT rfl rfl ?_
      refine .y hs (zld ae) ?_
      refine .gT rfl rfl ?_
      refine .z (zfa dt) ?_
      refine .gT rfl rfl ?_
      refine .y hs (zld ae) ?_
      refine .gT rfl rfl ?_
      refine .z gp ?_
      refine .gT rfl rfl ?_
      refine .z zm ?_
      refine .kf (t':=136) rfl (fun hb136=>?_) (fun hb136=>?_)
      ·refine .gFs 5 23 false rfl rfl rfl ?_
       refine .gT rfl rfl ?_
       refine .z zpT ?_
       refine .gT rfl rfl ?_
       refine .z zpT (.z zpF (.nil ?_))
       refine (.cT ?_)
       refine .af (.z zg (.nil ?_))
       refine .ret (rT (Fin.bI mZ rfl ?_))
       first
       |exact ⟨rfl,H8,hle07.trans hle8,hs.out⟩
       |(exfalso;rcases hn1 with h|h<;>first|omega|(have:=hn2 h;omega))
       |(exfalso;clear hn1 hn2;by_cases hA:lo3=lo∧hi3=hi<;>by_cases hBm:gi L2 i∈L1<;>simp_all)
      ·refine .gT rfl rfl ?_
       refine .z (zfa dG) ?_
       refine .gT rfl rfl ?_
       refine .y hs (zld ae) ?_
       refine .gT rfl rfl ?_
       refine .z (zfa dG) ?_
       refine .gT rfl rfl ?_
       refine .y hs (zld ae) ?_
       refine .gT rfl rfl ?_
       refine .z od ?_
       refine .gT rfl rfl ?_
       refine .z zpF ?_
       refine .gT rfl rfl ?_
       refine .z zpT (.z zpF (.nil ?_))
       refine (.ck rfl (fun hc144=>?_) (fun hc144=>?_))
       ·refine .af (.z zg (.nil ?_))
        refine .ret (rT (Fin.bI mZ rfl ?_))
        first
        |exact ⟨rfl,H8,hle07.trans hle8,hs.out⟩
        |(exfalso;rcases hn1 with h|h<;>first|omega|(have:=hn2 h;omega))
        |(exfalso;clear hn1 hn2;by_cases hA:lo3=lo∧hi3=hi<;>by_cases hBm:gi L2 i∈L1<;>simp_all)
       ·refine .skip ?_
        refine nT ?_
        exact ⟨bD,hs.sb⟩
     ·refine .gFs 6 17 true rfl rfl rfl ?_
      refine .gFs 5 23 false rfl rfl rfl ?_
      refine .gFs 1 17 true rfl rfl rfl ?_
      refine .gT rfl rfl ?_
      refine .z zpF (.z zpF (.nil ?_))
      refine (.cF ?_)
      refine .skip ?_
      refine nT ?_
      exact ⟨bD,hs.sb⟩
   ·refine .gFs 2 9 true rfl rfl rfl ?_
    refine .gT rfl rfl ?_
    refine .z zpF (.z zpF (.z zm ?_))
    refine .gT rfl rfl ?_
    refine .z zm ?_
    refine .gT rfl rfl ?_
    refine .z ir ?_
    refine .gT rfl rfl ?_
    refine .z zm ?_
    refine .kf (t':=130) rfl (fun hb130=>?_) (fun hb130=>?_)
    ·refine .gT rfl rfl ?_
     refine .z (zfa dt) ?_
     refine .gT rfl rfl ?_
     refine .y hs (zld ae) ?_
     refine .gT rfl rfl ?_
     refine .z (zfa dt) ?_
     refine .gT rfl rfl ?_
     refine .y hs (zld ae) ?_
     refine .gT rfl rfl ?_
     refine .z gp ?_
     refine .gT rfl rfl ?_
     refine .z zm ?_
     refine .kf (t':=136) rfl (fun hb136=>?_) (fun hb136=>?_)
     ·refine .gFs 5 23 false rfl rfl rfl ?_
      refine .gT rfl rfl ?_
      refine .z zpT ?_
      refine .gT rfl rfl ?_
      refine .z zpT (.z zpF (.nil ?_))
      refine (.cT ?_)
      refine .af (.z zg (.nil ?_))
      refine .ret (rT (Fin.bI mZ rfl ?_))
      first
      |exact ⟨rfl,H8,hle07.trans hle8,hs.out⟩
      |(exfalso;rcases hn1 with h|h<;>first|omega|(have:=hn2 h;omega))
      |(exfalso;clear hn1 hn2;by_cases hA:lo3=lo∧hi3=hi<;>by_cases hBm:gi L2 i∈L1<;>simp_all)
     ·refine .gT rfl rfl ?_
      refine .z (zfa dG) ?_
      refine .gT rfl rfl ?_
      refine .y hs (zld ae) ?_
      refine .gT rfl rfl ?_
      refine .z (zfa dG) ?_
      refine .gT rfl rfl ?_
      refine .y hs (zld ae) ?_
      refine .gT rfl rfl ?_
      refine .z od ?_
      refine .gT rfl rfl ?_
      refine .z zpF ?_
      refine .gT rfl rfl ?_
      refine .z zpT (.z zpF (.nil ?_))
      refine (.ck rfl (fun hc144=>?_) (fun hc144=>?_))
      ·refine .af (.z zg (.nil ?_))
       refine .ret (rT (Fin.bI mZ rfl ?_))
       first
       |exact ⟨rfl,H8,hle07.trans hle8,hs.out⟩
       |(exfalso;rcases hn1 with h|h<;>first|omega|(have:=hn2 h;omega))
       |(exfalso;clear hn1 hn2;by_cases hA:lo3=lo∧hi3=hi<;>by_cases hBm:gi L2 i∈L1<;>simp_all)
      ·refine .skip ?_
       refine nT ?_
       exact ⟨bD,hs.sb⟩
    ·refine .gFs 6 17 true rfl rfl rfl ?_
     refine .gFs 5 23 false rfl rfl rfl ?_
     refine .gFs 1 17 true rfl rfl rfl ?_
     refine .gT rfl rfl ?_
     refine .z zpF (.z zpF (.nil ?_))
     refine (.cF ?_)
     refine .skip ?_
     refine nT ?_
     exact ⟨bD,hs.sb⟩
  ·clear hs
   rintro fs w ⟨hfs,hs⟩
   refine WE.sub ?_ hfs
   clear hfs
   refine .af (.y hs (zls [_,_,_,_,_,_,_,_] aq an) (.y hs (zls [_,_,_] cj bw) ?_))
   refine .o (.call Tryz.call67 rfl (oL (s:=s) (q:=q) hs h1 h2 h3 h4) ?_);rintro _ w ⟨H6,vR,L1,e21,hle6,rfl,hR1,hRs,hs⟩
   obtain ⟨aR,cR,rfl⟩:=RI.shape hR1
   obtain ⟨rfl,hRm⟩:e21=0∧∀x,x∈L1↔s.Src x∧¬nV (s.no x) q lo hi 0:=by
    cases hRs with
    |bad h he=>exact (he ((h.uniq hB).2.2)).elim
    |ok h g=>
     obtain ⟨rfl,rfl,_⟩:=h.uniq hB
     exact ⟨rfl,g.mem⟩
   replace h1:=h1.mono hle6
   replace h2:=h2.mono hle6
   replace h3:=h3.mono hle6
   replace h4:=h4.mono hle6
   have hle06:=hle05.trans hle6
   refine .z zm (.z zex (.z zex (.z zg (.z zg (.nil (.af (.y hs (zls [_,_,_,_,_,_,_,_] aq an) ?_)))))))
   refine .o (.call Tryz.call55 rfl (mO (s:=s) hs h1 h2 h3 h4) ?_);rintro _ w ⟨H7,vL,L2,e23,hle7,rfl,hR2,hLl,hSs,hs⟩
   obtain ⟨aL,cL,rfl⟩:=RI.shape hR2
   obtain rfl:e23=0:=by
    cases hSs with
    |bad h he=>exact (he (h.bL.2 hok)).elim
    |ok=>rfl
   replace hR1:=hR1.mono hle7
   replace h1:=h1.mono hle7
   replace h2:=h2.mono hle7
   replace h3:=h3.mono hle7
   replace h4:=h4.mono hle7
   have hle07:=hle06.trans hle7
   refine .z zm (.z zex (.z zex (.z zg (.z zg (.nil (.seq (.af (.z zm (.z fM ?_)))))))))
   rw [decide_eq_true rfl]
   refine .z zm ?_
   refine .gT rfl rfl ?_
   refine .z zm ?_
   refine .gT rfl rfl ?_
   refine .z fM ?_
   rw [decide_eq_true rfl]
   refine .z zpF (.nil ?_)
   refine (.cF ?_)
   refine .skip ?_
   refine nT ?_
   refine .seq (.af (.z zg (.nil (.block ?_))))
   refine .loop (fun i:Nat=>⟨217,[],[(24,I (i:Int)),(22,.slice aL L2.length cL),(20,.slice aR L1.length cR),(11,.pointer (some ⟨b11,0,none⟩)),(10,.pointer (some ⟨b10,0,none⟩)),(8,.pointer (some ⟨b8,0,none⟩)),(7,.bool true)]⟩)
    (fun i w=>i≤L2.length∧∃H',HLe H7 H'∧St H' w (.blk b11 [I lo,I hi]:: .blk b10 [I q.kind,I q.st,I q.wa]:: .blk b8 [I s.sp.id,I s.sp.src,.slice ast s.sp.st.length cst,.slice awa s.sp.wa.length cwa,I s.sp.al,I s.sp.up,.slice ar s.rs.length cr,.slice ac s.cs.length cc]::σ)) (fun i=>L2.length - i) 0 bD
    ⟨Nat.zero_le _,H7,HLe.refl _,hs.sb⟩ ?_
   clear hs
   rintro i w ⟨hil,H8,hle8,hs⟩
   have hRx:=hR2.mono hle8
   refine .seq (.af (.z zm (.z zm (.z (c9 ad) (.z gp (.nil ?_))))))
   refine (.ck rfl (fun hc165=>?_) (fun hc165=>?_))
   ·refine .skip ?_
    refine nT ?_
    refine .seq (.block ?_)
    refine .cut (fun fs w=>∃H9 b25 t' vst' vwa' vr' vc' e26,mE fs ⟨217,[],[(26,I e26),(25,.pointer (some ⟨b25,0,none⟩)),(24,I (i:Int)),(22,.slice aL L2.length cL),(20,.slice aR L1.length cR),(11,.pointer (some ⟨b11,0,none⟩)),(10,.pointer (some ⟨b10,0,none⟩)),(8,.pointer (some ⟨b8,0,none⟩)),(7,.bool true)]⟩∧HLe H8 H9∧AO s (gi L2 i) t' e26∧RI H9 vst' t'.sp.st∧RI H9 vwa' t'.sp.wa∧RRd H9 vr' t'.rs∧RCm H9 vc' t'.cs∧St H9 w (.blk b25 [I t'.sp.id,I t'.sp.src,vst',vwa',I t'.sp.al,I t'.sp.up,vr',vc']:: .blk b11 [I lo,I hi]:: .blk b10 [I q.kind,I q.st,I q.wa]:: .blk b8 [I s.sp.id,I s.sp.src,.slice ast s.sp.st.length cst,.slice awa s.sp.wa.length cwa,I s.sp.al,I s.sp.up,.slice ar s.rs.length cr,.slice ac s.cs.length cc]::σ)) ?_ ?_
    ·refine .draw mix rfl hs fun w hs=>?_
     refine .ys 0 rfl hs [_,_,_,_,_,_,_,_] aq an ?_;refine .z 1 rfl zm ?_;refine .z 2 rfl zm ?_
     refine .ixX (enc:=fun x=>[I x]) (i:=3) hs rfl au .none hRx rfl rfl ad ai (bJ (l:=L2) (i:=i) aj) dx ?_;intro b172 o172 hc172;replace hc172:=bQ.one hc172
     refine .r (i:=4) hs rfl au .none (bh rfl ae hc172) ?_
     refine .e2 (i:=5) (j:=9) au rfl rfl rfl rfl .none .none hs ?_ ?_
     ·refine .call Tryz.call65 rfl (jc (s:=s) (x:=gi L2 i) hs (h1.mono hle8) (h2.mono hle8) (h3.mono hle8) (h4.mono hle8)) ?_;rintro _ w ⟨H9,_,t',e26,hle9,rfl,⟨z11,z12,z13,z14,rfl,k1',k2',k3',k4'⟩,hW,hs⟩
      obtain ⟨y5,y6,rfl⟩:=RI.shape k1'
      obtain ⟨y7,y8,rfl⟩:=RI.shape k2'
      obtain ⟨y9,y10,rfl⟩:=RRd.shape k3'
      obtain ⟨y11,y12,rfl⟩:=RCm.shape k4'
      refine .go ?_
      refine .z 6 rfl zm ?_;refine .z 7 rfl zex ?_;refine .z 8 rfl zex ?_
      refine .E 9 hs ?_
      refine .alloc hs bK rfl ?_;intro b25 w hs
      refine .go ?_
      refine .E 10 hs ?_
      refine .aO (vs:=[_,_,_,_,_,_,_,_]) hs rfl rfl an ?_;intro w hs
      refine .go ?_
      refine .z 11 rfl zg ?_;refine .D hs ?_
      exact nT ⟨H9,_,t',_,_,_,_,e26,bD,hle9,hW,k1',k2',k3',k4',hs.sb⟩
     ·refine .alloc hs bK rfl ?_;intro b25 w hs
      refine .go ?_
      refine .E 5 hs ?_
      refine .call Tryz.call65 rfl (jc (s:=s) (x:=gi L2 i) hs (h1.mono hle8) (h2.mono hle8) (h3.mono hle8) (h4.mono hle8)) ?_;rintro _ w ⟨H9,_,t',e26,hle9,rfl,⟨z11,z12,z13,z14,rfl,k1',k2',k3',k4'⟩,hW,hs⟩
      obtain ⟨y5,y6,rfl⟩:=RI.shape k1'
      obtain ⟨y7,y8,rfl⟩:=RI.shape k2'
      obtain ⟨y9,y10,rfl⟩:=RRd.shape k3'
      obtain ⟨y11,y12,rfl⟩:=RCm.shape k4'
      refine .go ?_
      refine .z 6 rfl zm ?_;refine .z 7 rfl zex ?_;refine .z 8 rfl zex ?_
      refine .E 10 hs ?_
      refine .aO (vs:=[_,_,_,_,_,_,_,_]) hs rfl rfl an ?_;intro w hs
      refine .go ?_
      refine .z 11 rfl zg ?_;refine .D hs ?_
      exact nT ⟨H9,_,t',_,_,_,_,e26,bD,hle9,hW,k1',k2',k3',k4',hs.sb⟩
    ·rintro fs w ⟨H9,b25,t',vst',vwa',vr',vc',e26,hfs,hle9,hW,k1',k2',k3',k4',hs⟩
     refine WE.sub ?_ hfs
     clear hfs
     obtain ⟨y5,y6,rfl⟩:=RI.shape k1'
     obtain ⟨y7,y8,rfl⟩:=RI.shape k2'
     obtain ⟨y9,y10,rfl⟩:=RRd.shape k3'
     obtain ⟨y11,y12,rfl⟩:=RCm.shape k4'
     have hle79:=hle8.trans hle9
     refine .seq (.af (.z zm (.z ir (.nil ?_))))
     refine (.ck rfl (fun hc178=>?_) (fun hc178=>?_))
     ·refine .exit ?_
      refine xT (xB (nT ?_))
      refine .region (.z zm (.z cC (.z zg (.nil ?_))))
      refine nT ?_
      exact ⟨i+1,.de rfl cm bD,⟨aj,H9,hle79,hs.sb⟩,aj⟩
     ·refine .skip ?_
      refine nT ?_
      refine .af (.y hs (zls [_,_,_,_,_,_,_,_] aq an) (.y hs (zls [_,_,_] cj bw) ?_))
      refine .o (.call lK rfl (dc (s:=t') (q:=q) hs k1' k2' k3' k4') ?_);rintro _ w ⟨H10,lo3,hi3,e28,hle10,rfl,hB3,hs⟩
      obtain ⟨hSx,rfl,rfl⟩:s.Src (gi L2 i)∧t'=s.no (gi L2 i)∧e26=0:=by
       cases hW with
       |bad h he=>exact (he (h.bL.2 hok)).elim
       |none=>exact (hc178 rfl).elim
       |ok _ h=>exact ⟨h,rfl,rfl⟩
      obtain ⟨rfl,hn3,hn4⟩:=hB.no _ hB3
      have hno:=hB.EX hB3
      have hmm:=hRm (gi L2 i)
      rw [←hno] at hmm
      have hle710:=hle79.trans hle10
      have hRx2:=hR2.mono hle710
      have hRx1:=hR1.mono hle710
      refine .z zm (.z zex (.z zex ?_))
      refine .o (.alloc hs cz rfl fun b27 w hs=>?_)
      refine .o (.aO (vs:=[_,_]) hs rfl rfl aJ fun w hs=>?_)
      refine .z zg (.nil ?_)
      refine .seq (.draw mix rfl hs fun w hs=>?_)
      refine .z 0 rfl zm ?_;refine .z 1 rfl fM ?_
      rw [decide_eq_true rfl]
      refine .z 2 rfl zm ?_;refine .z 3 rfl zm ?_;refine .z 4 rfl fM ?_
      rw [decide_eq_true rfl]
      refine .z 5 rfl zpF ?_;refine .z 6 rfl zm ?_;refine .z 7 rfl (zfa dt) ?_;refine .y 8 rfl hs ae ?_;refine .z 9 rfl (zfa dt) ?_;refine .y 10 rfl hs ae ?_;refine .z 11 rfl od ?_
      rw [decide_eq_false aj]
      refine .z 12 rfl zpF ?_;refine .z 13 rfl zm ?_;refine .z 14 rfl (zfa dG) ?_;refine .y 15 rfl hs ae ?_;refine .z 16 rfl (zfa dG) ?_;refine .y 17 rfl hs ae ?_;refine .z 18 rfl gp ?_
      rw [decide_eq_false aj]
      refine .z 19 rfl zpF ?_;refine .z 20 rfl zm ?_;refine .ys 21 rfl hs [_,_] bX aJ ?_;refine .ys 22 rfl hs [_,_] bX aJ ?_
      refine .z 23 rfl (ld oA oB dK (fun f hf=>by
       simp only [List.mem_cons,List.not_mem_nil,or_false] at hf
       rcases hf with rfl|rfl<;>exact ⟨by decide,aQ,ae⟩) rfl rfl) ?_
      refine .z 24 rfl zm ?_;refine .z 25 rfl zm ?_;refine .z 26 rfl zm ?_
      refine .ixX (enc:=fun x=>[I x]) (i:=27) hs rfl au (.some rfl rfl) hRx2 rfl rfl ad ai (bJ (l:=L2) (i:=i) aj) dx ?_;intro b212 o212 hc212;replace hc212:=bQ.one hc212
      refine .r (i:=28) hs rfl au (.some rfl rfl) (bh rfl ae hc212) ?_
      refine .E 29 hs ?_
      refine .call Tryz.call70 rfl (sC hs hRx1) ?_;rintro _ w ⟨rfl,hs⟩
      refine .go ?_
      refine .z 30 rfl (Fh rfl rfl Tryz.runUnderlying4) ?_
      refine .z 31 rfl zpF ?_;refine .D hs ?_
      refine (.cond rfl (fun hc216=>?_) (fun hc216=>?_))
      ·refine .af (.z zg (.nil ?_))
       refine .ret (rB (rT (rT (rB (rT (Fin.bI mZ rfl ?_))))))
       first
       |exact ⟨rfl,H8,hle07.trans hle8,hs.out⟩
       |(exfalso;rcases hn1 with h|h<;>first|omega|(have:=hn2 h;omega))
       |(exfalso;clear hn1 hn2;by_cases hA:lo3=lo∧hi3=hi<;>by_cases hBm:gi L2 i∈L1<;>simp_all)
      ·refine .skip ?_
       refine nB (nT ?_)
       refine .region (.z zm (.z cC (.z zg (.nil ?_))))
       refine nT ?_
       exact ⟨i+1,.de rfl cm bD,⟨aj,H10,hle710,hs.sb⟩,aj⟩
   ·refine .exit ?_
    refine xT (xT (xB (nT ?_)))
    refine .af (.z zg (.nil ?_))
    refine .ret (Fin.bI mZ rfl ?_)
    first
    |exact ⟨rfl,H8,hle07.trans hle8,hs.out⟩
    |(exfalso;rcases hn1 with h|h<;>first|omega|(have:=hn2 h;omega))
    |(exfalso;clear hn1 hn2;by_cases hA:lo3=lo∧hi3=hi<;>by_cases hBm:gi L2 i∈L1<;>simp_all)
theorem tm{s:cq}{w x:List Int}(h:we s w x):yi s x:=⟨h.len,h.zero,fun b hb=>by have:=h.low b hb;omega,h.vQ⟩
set_option maxHeartbeats 1000000 in
theorem oT{s:Srv}{q:Wht}{vst vwa vr vc:Value}(hs:St H w σ)(h1:RI H vst s.sp.st)(h2:RI H vwa s.sp.wa)(h3:RRd H vr s.rs)(h4:RCm H vc s.cs)(hok:cS s)(hq:eX s.sp q):
  Cl Tryz.prog 73 [.agg #[I s.sp.id,I s.sp.src,vst,vwa,I s.sp.al,I s.sp.up,vr,vc],.agg #[I q.kind,I q.st,I q.wa]] w fun u w'=>∃H1 vl ul,HLe H H1∧u= .tuple #[vl,I (o8 q),.agg #[I s.sys.many,ul]]∧RI H1 vl (s.w q)∧RL H1 ul s.bV∧St H1 w' σ:=by
 have hn:=kI s
 have hm:=hok.many
 have hsm:s.sys.many+1=(s.sys.n:Int):=by rw [hn];show ((s.sp.many+s.bg.length:Nat):Int)+1=_;omega
 have hwl:=fo s.sp q
 obtain ⟨ast,cst,rfl⟩:=RI.shape h1
 obtain ⟨awa,cwa,rfl⟩:=RI.shape h2
 obtain ⟨ar,cr,rfl⟩:=RRd.shape h3
 obtain ⟨ac,cc,rfl⟩:=RCm.shape h4
 refine Cl.o Tryz.func73 Tryz.ntmps73 ag2 ?_
 refine .af ?_
 refine .bx hs fun b2 w hs=>?_
 refine .bx hs fun b3 w hs=>?_
 refine .z zg (.z zg ?_)
 refine .o (.alloc hs cu rfl fun b6 w hs=>?_)
 refine .nil (.af (.z (zfa aK) (.y hs (zls [_,_,_,_,_,_] aM aE) (.y hs (zls [_,_,_] cj bw) ?_))))
 refine .o (.call Tryz.call44 rfl (mM (s:=s.sp) (q:=q) hs h1 h2) ?_);rintro _ w ⟨H1,vL,L,d,e,hle1,rfl,hL,hW,hs⟩
 obtain ⟨rfl,rfl,rfl⟩:=hW.uniq (.ok hok.early.1 hq)
 obtain ⟨aL,cL,rfl⟩:=RI.shape hL
 refine .z zm (.z zex (.z zex (.z zex (.z zg (.z zg (.z zg (.nil (.af (.y hs (zls [_,_,_,_,_,_,_,_] aq an) ?_)))))))))
 refine .o (.call Tryz.call38 rfl (nG (s:=s) hs (h1.mono hle1) (h2.mono hle1) (h3.mono hle1) (h4.mono hle1)) ?_);rintro _ w ⟨H2,t,ul,e2,hle2,rfl,hU,hSy,hs⟩
 obtain rfl:e2=0:=hSy.1.bL.2 hok
 obtain rfl:t=s.sys:=hSy.2.1 rfl
 obtain ⟨al,cl,rfl⟩:=RL.shape hU
 replace hL:=hL.mono hle2
 have hle02:=hle1.trans hle2
 refine .z zm (.z zex (.z zex ?_))
 refine .o (.alloc hs cu rfl fun b10 w hs=>?_)
 refine .o (.aO (vs:=[_,_]) hs rfl rfl aC fun w hs=>?_)
 refine .z zg (.nil (.af ?_))
 refine .o (.buildSlice (cells:=[]) hs ml rfl rfl fun b26 w hs=>?_)
 refine .z zm ?_
 refine .o (.append (xs:=[]) hs bN rfl rfl (.full (len:=0) rfl) (Src.ints hL) (fH _) (fun l' h=>by simp at h;obtain rfl:l'=0:=aj;omega) ?_);intro v28 en28 w hO hs
 rw [List.nil_append] at hO
 refine .z zg (.nil (.seq (.block ?_)))
 refine .loop (fun p:Nat×Value=>⟨41,[],[(12,p.2),(8,I (o8 q)),(10,.pointer (some ⟨b10,0,none⟩)),(6,.pointer (some ⟨b6,0,none⟩))]⟩)
  (fun p w=>(jk s.sp q).length+p.1≤s.sys.n∧∃en,bS 1 p.2 (Is (jk s.sp q++List.replicate p.1 0)) en∧St H2 w (en:: .blk b10 [I s.sys.many,.slice al s.sys.bV.length cl]:: .blk b6 [I 0,.slice none 0 0]::σ)) (fun p=>s.sys.n - ((jk s.sp q).length+p.1)) (0,v28) bD
  ⟨by dsimp only;omega,en28,by simpa using hO,hs.sb⟩ ?_
 clear hO hs
 rintro ⟨j,vo⟩ w ⟨hj,en,hO,hs⟩
 dsimp only at hj hO ⊢
 obtain ⟨ao,lo,co,rfl,hlo⟩:=hO.shape
 have hlo':lo=(jk s.sp q).length+j:=by simp [Is] at hlo;omega
 refine .seq (.af (.z zm (.z (c9 ad) (.z (zfa bB) (.y hs (zld ae) (.z cC (.z gp (.nil ?_))))))))
 refine (.ck rfl (fun hc34=>?_) (fun hc34=>?_))
 ·refine .skip ?_
  refine nT ?_
  refine .block (.region (.z zm ?_))
  refine .o (.buildSlice (cells:=[_]) hs bY rfl rfl fun b36 w hs=>?_)
  refine .o (.append (ys:=Is [0]) hs bN rfl rfl hO (.own .here rfl rfl) (fH _) (fun l' h=>by simp [Is] at h;omega) ?_);intro v37 en37 w hO2 hs
  rw [show Is (jk s.sp q++List.replicate j 0)++Is [0]=Is (jk s.sp q++List.replicate (j+1) 0) by rw [←yc];simp [Is]] at hO2
  refine .z zg (.nil ?_)
  refine nB (nT ?_)
  exact ⟨(j+1,v37),bD,⟨by dsimp only;omega,_,hO2,hs.sb⟩,by dsimp only;omega⟩
 ·refine .exit ?_
  refine xT (xT (xB (nT ?_)))
  refine .seq (.draw mix rfl hs fun w hs=>?_)
  refine .z 0 rfl zm ?_;refine .z 1 rfl zm ?_;refine .ys 2 rfl hs [_,_] a8 aC ?_;refine .z 3 rfl zg ?_;refine .z 4 rfl zg ?_
  refine .E 5 hs ?_
  refine .aO (vs:=[_,_]) hs rfl rfl aC ?_;intro w hs
  refine .go ?_
  refine .D hs ?_
  refine .ret ?_
  have hjn:(jk s.sp q).length+j=s.sys.n:=by omega
  obtain ⟨H3,hle3,hR,hs⟩:=bS.cV hO (by simp;omega) hs dw
  exact Fin.gI [] [] hs fun w hs=>⟨_,results3 Tryz.results73 rfl rfl (di (vs:=[_,_]) hs rfl a8 aC),H3,_,_,hle02.trans hle3,rfl,by
   rw [hwl,hn] at hjn
   unfold Srv.w;rw [show s.bg.length=j by omega];exact hR,RS.mono hU hle3,hs.out⟩
set_option maxHeartbeats 8000000 in
theorem qG{v:Value}{g:CQ}{a1 a2 a3 x0:Int}(hs:St H w σ)(hg:xg H v g):
  Cl Tryz.prog 17 [v,.agg #[I a1,I a2,I a3],I x0] w fun v w'=>v= .bool true∧∃H',HLe H H'∧St H' w' σ:=by
 obtain ⟨vs,v5,v4,vp,rfl,g1,g2,g3,g4⟩:=hg
 refine Cl.o Tryz.func17 Tryz.ntmps17 ag3 ?_
 refine .af ?_
 refine .bx hs fun b3 w hs=>?_
 refine .bx hs fun b4 w hs=>?_
 refine .z zg (.nil (.af ?_))
 refine .o (.call Tryz.call22 rfl (jB hs) ?_);rintro _ w ⟨rfl,H1,hle1,hs⟩
 refine .z zg (.nil (.af (.y hs (zls [_,_,_,_,_,_,_] Tryz.isAgg27 Tryz.sizeOf27) ?_)))
 refine .o (.call Tryz.call60 rfl (kc hs (g1.mono hle1) (g2.mono hle1) (g3.mono hle1) (g4.mono hle1)) ?_);rintro _ w ⟨H2,s,y,vst,vwa,vr,vc,vy,hle2,rfl,hM,hK,h1,h2,h3,h4,-,hs⟩
 obtain ⟨ast,cst,rfl⟩:=RI.shape h1
 obtain ⟨awa,cwa,rfl⟩:=RI.shape h2
 obtain ⟨ar,cr,rfl⟩:=RRd.shape h3
 obtain ⟨ac,cc,rfl⟩:=RCm.shape h4
 have hok:=hM.ok
 have hsd:=ta hok hK
 have hle02:=hle1.trans hle2
 refine .z zm (.z zex (.z zex ?_))
 refine .o (.alloc hs bK rfl fun b8 w hs=>?_)
 refine .o (.aO (vs:=[_,_,_,_,_,_,_,_]) hs rfl rfl an fun w hs=>?_)
 refine .z zg (.nil (.af (.z (zfa aK) (.y hs (zls [_,_,_,_,_,_] aM aE) (.y hs (zls [_,_,_] Tryz.isAgg25 Tryz.sizeOf25) ?_)))))
 refine .o (.call Tryz.call25 rfl (jx (s:=s.sp) hs h1 h2 hok.early.1) ?_);rintro _ w ⟨q,rfl,hq,hs⟩
 have hA:=hok.ask hq
 have hd:=o7 q
 refine .o (.alloc hs xi rfl fun b10 w hs=>?_)
 refine .o (.aO (vs:=[_,_,_]) hs rfl rfl bw fun w hs=>?_)
 refine .nil (.af (.y hs (zls [_,_,_,_,_,_,_,_] aq an) (.y hs (zls [_,_,_] cj bw) ?_)))
 refine .o (.call lK rfl (dc (s:=s) (q:=q) hs h1 h2 h3 h4) ?_);rintro _ w ⟨H3,lo,hi,e,hle3,rfl,hB,hs⟩
 obtain rfl:=(vg hB hok hq).1 hsd
 obtain ⟨a,b,hlo,hhi,-,-,hRR⟩:=C8 hB
 obtain ⟨hs1,hs2,hs3⟩:=wI hok hq hRR
 have hdm:=Int.mul_le_mul_of_nonneg_left hd.1 (show (0:Int)≤69120000000000000 by omega)
 have hls: -69120000000000000≤lo:=by rw [hlo];exact Int.le_ediv_of_mul_le aj aj
 have hhs:hi≤69120000000000000:=by rw [hhi];exact Int.ediv_le_of_le_mul aj aj
 have hlh:lo≤hi:=by rw [hlo,hhi];exact Int.ediv_le_ediv aj hs2
 replace h1:=h1.mono hle3
 replace h2:=h2.mono hle3
 replace h3:=h3.mono hle3
 replace h4:=h4.mono hle3
 refine .z zm (.z zex (.z zex ?_))
 refine .o (.alloc hs cz rfl fun b11 w hs=>?_)
 refine .o (.aO (vs:=[_,_]) hs rfl rfl aJ fun w hs=>?_)
 refine .z zg (.nil (.af (.y hs (zls [_,_,_,_,_,_,_,_] aq an) (.y hs (zls [_,_,_] cj bw) ?_))))
 refine .o (.call Tryz.call73 rfl (oT (s:=s) (q:=q) hs h1 h2 h3 h4 hok hq) ?_);rintro _ w ⟨H4,vl,ul,hle4,rfl,hW,hU,hs⟩
 obtain ⟨aW,cW,rfl⟩:=RI.shape hW
 obtain ⟨al,cl,rfl⟩:=RL.shape hU
 refine .z zm (.z zex (.z zex (.z zex ?_)))
 refine .o (.alloc hs cu rfl fun b15 w hs=>?_)
 refine .z zg (.z zg ?_)
 refine .o (.aO (vs:=[_,_]) hs rfl rfl aC fun w hs=>?_)
 refine .nil (.af (.y hs (zls [_,_] a8 aC) (.z zm ?_)))
 refine .o (.call Tryz.call74 rfl (gO (s:=s.sys) hs ⟨_,rfl,hU⟩ hW) ?_);rintro _ w ⟨H5,a',b',e18,hle5,rfl,hR,hs⟩
 obtain ⟨rfl,rfl,rfl⟩:=hR.uniq hRR
 replace hU:=RS.mono hU hle5
 replace hW:=hW.mono hle5
 have hle05:=hle02.trans (hle3.trans (hle4.trans hle5))
 refine .z zm (.z zex (.z zex (.z zex (.z zg (.z zg (.z zg (.nil (.seq (.af ?_)))))))))
 refine .z zm (.z iq (.z zm ?_))
 refine .gT rfl rfl ?_
 refine .z zm ?_
 refine .gT rfl rfl ?_
 refine .z fM ?_
 rw [decide_eq_true rfl]
 refine .z zpF (.z zm ?_)
 refine .gT rfl rfl ?_
 refine .z zm ?_
 refine .gT rfl rfl ?_
 refine .z fM ?_
 rw [decide_eq_true rfl]
 refine .z zpF (.z zm ?_)
 refine .gT rfl rfl ?_
 refine .z zm ?_
 refine .gT rfl rfl ?_
 refine .z gp ?_
 rw [decide_eq_false aj]
 refine .z zpF (.z zm ?_)
 refine .gT rfl rfl ?_
 refine .z (zfa dt) ?_
 refine .gT rfl rfl ?_
 refine .y hs (zld ae) ?_
 refine .gT rfl rfl ?_
 refine .z (zfa dG) ?_
 refine .gT rfl rfl ?_
 refine .y hs (zld ae) ?_
 refine .gT rfl rfl ?_
 refine .z od ?_
 rw [decide_eq_false aj]
 refine .z zpF (.nil ?_)
 refine (.cF ?_)
 refine .skip ?_
 refine nT ?_
 refine .seq (.draw mix rfl hs fun w hs=>?_)
 refine .z 0 rfl (zfa dt) ?_;refine .y 1 rfl hs ae ?_;refine .z 2 rfl zm ?_;refine .z 3 rfl (zfa dG) ?_;refine .y 4 rfl hs ae ?_;refine .z 5 rfl (zfa dt) ?_;refine .y 6 rfl hs ae ?_;refine .z 7 rfl hZ ?_;refine .z 8 rfl cC ?_
 refine .E 9 hs ?_
 refine .call aU rfl (aI hs aj) ?_;rintro _ w ⟨k,gk,rfl,hs⟩
 refine .go ?_
 refine .z 10 rfl cC ?_;refine .z 11 rfl zg ?_;refine .D hs ?_
 refine .af (.z zm (.z zm ?_))
 obtain ⟨u1,u2,u3,u4,u5⟩:=CX (t:=lo+(k:Int)) hd.1 hs2 ⟨aj,aj⟩
 refine .z kG (.z zm (.z Cs (.z zm (.z A3 (.z zg (.nil (.af (.y hs (zls [_,_] a8 aC) (.z zm ?_)))))))))
 refine .z zm ?_
 generalize hz:min (max ((lo+(k:Int))*o8 q) a') b'=z at*
 refine .o (.call Tryz.call75 rfl (po (s:=s.sys) hs ⟨_,rfl,hU⟩ hW) ?_);rintro _ w ⟨H6,vx,vy,x,y',n,d,e25,hle6,rfl,hX,hY,hBt,hs⟩
 obtain ⟨hbx,hby,hnd,rfl⟩:we s.sys (tL (s.w q)) x∧we s.sys (s.w q) y'∧((a'=b'∧n=0∧d=1)∨(a'≠b'∧n=z - a'∧d=b' - a'))∧e25=0:=by
  cases hBt with
  |bad h he=>exact (he ((h.uniq hRR).2.2)).elim
  |none h h1=>obtain ⟨rfl,rfl,_⟩:=h.uniq hRR;exact (h1 ⟨u3,u4⟩).elim
  |ok h h1 hx hy hn=>obtain ⟨rfl,rfl,_⟩:=h.uniq hRR;exact ⟨hx,hy,hn,rfl⟩
 obtain ⟨aX,cX,rfl⟩:=RI.shape hX
 obtain ⟨aY,cY,rfl⟩:=RI.shape hY
 replace hU:=RS.mono hU hle6
 replace hW:=hW.mono hle6
 have hle06:=hle05.trans hle6
 have hn0:0≤n∧n≤d∧1≤d∧n=z - a':=by omega
 refine .z zm (.z zex (.z zex (.z zex (.z zex (.z zex (.z zg (.z zg (.z zg (.z zg ?_)))))))))
 refine .z zg (.nil (.seq (.af (.z zm (.z fM ?_)))))
 rw [decide_eq_true rfl]
 refine .z zm ?_
 refine .gT rfl rfl ?_
 refine .y hs (zls [_,_] a8 aC) ?_
 refine .gT rfl rfl ?_
 refine .z zm ?_
 refine .gT rfl rfl ?_
 refine .o (.call Tryz.call76 rfl (fY (s:=s.sys) hs ⟨_,rfl,hU⟩ hX) ?_);rintro _ w ⟨e114,rfl,hP,hs⟩
 obtain rfl:=hP.uniq (.ok hok.sys (tm hbx))
 refine .gT rfl rfl ?_
 refine .z fM ?_
 rw [decide_eq_true rfl]
 refine .z zpF (.z zm ?_)
 refine .gT rfl rfl ?_
 refine .y hs (zls [_,_] a8 aC) ?_
 refine .gT rfl rfl ?_
 refine .z zm ?_
 refine .gT rfl rfl ?_
 refine .o (.call Tryz.call76 rfl (fY (s:=s.sys) hs ⟨_,rfl,hU⟩ hY) ?_);rintro _ w ⟨e120,rfl,hP2,hs⟩
 obtain rfl:=hP2.uniq (.ok hok.sys (tm hby))
 refine .gT rfl rfl ?_
 refine .z fM ?_
 rw [decide_eq_true rfl]
 refine .z zpF (.z zm ?_)
 refine .gT rfl rfl ?_
 refine .z zm ?_
 refine .gT rfl rfl ?_
 refine .z gp ?_
 rw [decide_eq_false aj]
 refine .z zpF (.z zm ?_)
 refine .gT rfl rfl ?_
 refine .z zm ?_
 refine .gT rfl rfl ?_
 refine .z zm ?_
 refine .gT rfl rfl ?_
 refine .z od ?_
 rw [decide_eq_false aj]
 refine .z zpF (.z zm ?_)
 refine .gT rfl rfl ?_
 refine .z zm ?_
 refine .gT rfl rfl ?_
 refine .z gp ?_
 rw [decide_eq_false aj]
 refine .z zpF (.nil ?_)
 refine (.cF ?_)
 refine .skip ?_
 refine nT ?_
 refine .af (.z zm (.z zm ?_))
 refine .o (.call Tryz.call77 rfl (lg hs hW hX) ?_);rintro _ w ⟨v26,e26,rfl,hV1,hs⟩
 obtain ⟨rfl,rfl⟩:=hV1.uniq (tl hA hbx.len hbx.low)
 rw [DB hRR hbx]
 refine .z zm (.z zex (.z zex (.z zg (.z zg (.nil (.af (.z zm (.z zm ?_))))))))
 refine .o (.call Tryz.call77 rfl (lg hs hW hY) ?_);rintro _ w ⟨v28,e28,rfl,hV2,hs⟩
 obtain ⟨rfl,rfl⟩:=hV2.uniq (tl hA hby.len hby.low)
 rw [DC hRR hby]
 refine .z zm (.z zex (.z zex (.z zg (.z zg (.nil (.af (.z zm (.z ir ?_))))))))
 rw [decide_eq_true rfl]
 refine .z zm ?_
 refine .gT rfl rfl ?_
 refine .z zm ?_
 refine .gT rfl rfl ?_
 refine .z ir ?_
 rw [decide_eq_true rfl]
 refine .z zpT (.z zm ?_)
 refine .gT rfl rfl ?_
 refine .z zm ?_
 refine .gT rfl rfl ?_
 refine .z zm ?_
 refine .gT rfl rfl ?_
 refine .z ir ?_
 rw [decide_eq_true rfl]
 refine .z zpT (.z zm ?_)
 refine .gT rfl rfl ?_
 refine .z zm ?_
 refine .gT rfl rfl ?_
 refine .z zm ?_
 refine .gT rfl rfl ?_
 refine .z ir ?_
 rw [decide_eq_true rfl]
 refine .z zpT (.z zm ?_)
 refine .gT rfl rfl ?_
 refine .z zm ?_
 refine .gT rfl rfl ?_
 refine .z zm ?_
 refine .gT rfl rfl ?_
 refine .o (.call Tryz.call78 rfl (rE hs aj aj) ?_);rintro _ w ⟨rfl,hs⟩
 rw [u5]
 refine .gT rfl rfl ?_
 refine .z zm ?_
 refine .gT rfl rfl ?_
 refine .z ir ?_
 rw [decide_eq_true rfl]
 refine .z zpT (.z zm ?_)
 refine .gT rfl rfl ?_
 refine .z zm ?_
 refine .gT rfl rfl ?_
 refine .z zm ?_
 refine .gT rfl rfl ?_
 refine .z zm ?_
 refine .gT rfl rfl ?_
 refine .z hZ ?_
 refine .gT rfl rfl ?_
 refine .z ir ?_
 rw [decide_eq_true aj]
 refine .z zpT (.z zm ?_)
 refine .gT rfl rfl ?_
 refine .z zm ?_
 refine .gT rfl rfl ?_
 refine .z zm ?_
 refine .gT rfl rfl ?_
 refine .z zm ?_
 refine .gT rfl rfl ?_
 refine .z hZ ?_
 refine .gT rfl rfl ?_
 refine .z ir ?_
 refine .gT rfl rfl ?_
 refine .z zm ?_
 refine .kf (t':=184) rfl (fun hb184=>?_) (fun hb184=>?_)
 ·refine .gFs 4 36 false rfl rfl rfl ?_
  refine .gFs 2 40 true rfl rfl rfl ?_
  refine .gFs 1 36 false rfl rfl rfl ?_
  refine .gT rfl rfl ?_
  refine .z zpT (.z zpT (.z zg (.nil ?_)))
  refine .ret (Fin.bI Tryz.results17 rfl ?_)
  exact ⟨by first|rfl|(simp;omega)|(simp_all;omega)|(exfalso;omega),H6,hle06,hs.out⟩
 ·refine .gT rfl rfl ?_
  refine .z zm ?_
  refine .gT rfl rfl ?_
  refine .z zm ?_
  refine .gT rfl rfl ?_
  refine .z ir ?_
  refine .gT rfl rfl ?_
  refine .z zm ?_
  refine .kf (t':=188) rfl (fun hb188=>?_) (fun hb188=>?_)
  ·refine .gT rfl rfl ?_
   refine .z zm ?_
   refine .gT rfl rfl ?_
   refine .z ir ?_
   refine .gT rfl rfl ?_
   refine .z zpT ?_
   refine .gT rfl rfl ?_
   refine .z zpF (.z zpT (.z zg (.nil ?_)))
   refine .ret (Fin.bI Tryz.results17 rfl ?_)
   exact ⟨by first|rfl|(simp;omega)|(simp_all;omega)|(exfalso;omega),H6,hle06,hs.out⟩
  ·refine .gFs 2 40 true rfl rfl rfl ?_
   refine .gT rfl rfl ?_
   refine .z zpF ?_
   refine .gT rfl rfl ?_
   refine .z zpF (.z zpT (.z zg (.nil ?_)))
   refine .ret (Fin.bI Tryz.results17 rfl ?_)
   exact ⟨by first|rfl|(simp;omega)|(simp_all;omega)|(exfalso;omega),H6,hle06,hs.out⟩
end Go.Proofs.YtddaejgfjlneoaaGreat
