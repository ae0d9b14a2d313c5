/-
  Texts of these claims, joined: Yq Za Zb Zc Zd Ze Zf Zg Zh Zi Zj Zk Zl Zm Zn.
-/
import Derived.Test.YtddaejgfjlneoaaGreatEc
namespace Go.Proofs.YtddaejgfjlneoaaGreat
open Go.MW
variable{H:cu}{w:World}{σ:List Ent}
theorem mi{v:Value}{xs:List Int}{g:Nat}{cap:List Value}(q:Int→Prop)(hs:St H w σ)(hR:RI H v xs)(hc:∀args w,(callFunc g args).run Tryz.prog w= .ok (.enter g args) w)
  (hp:∀H' w σ (n:Int),n∈xs→HLe H H'→St H' w σ→Cl Tryz.prog g ([I n]++cap) w fun u w'=>∃H1 b,HLe H' H1∧u= .bool b∧(b=true↔q n)∧St H1 w' σ):
  Cl Tryz.prog 206 [v,.func (.func g) #[] cap.toArray] w fun u w'=>∃H1 i,HLe H H1∧u=I i∧(0≤i↔∃x∈xs,q x)∧St H1 w' σ:=by
 obtain ⟨a,c,rfl⟩:=RI.shape hR
 have hl:=(RI.len hR).2.2
 refine Cl.o Tryz.func206 Tryz.ntmps206 ag2 ?_
 refine .ai (.z zg (.nil (.seq (.ai (.z zm (.z (cH aa) (.z zm (.nil ?_))))))))
 refine .for (N:=xs.length) (J:=fun k fr w=>fr=[(1,.func (.func g) #[] cap.toArray),(0,.slice a xs.length c)]∧∃H1,HLe H H1∧(∀j<k,∀y,xs[j]? =some y→¬q y)∧St H1 w σ) aj ?_ ?_ ?_
 ·exact .mk ⟨rfl,H,HLe.refl H,fun j hj=>by omega,hs⟩
 ·rintro k fr w hk ⟨rfl,H1,hle1,hno,hs⟩
  obtain ⟨x,hx⟩:=nth hk
  refine .block (.ai (.z zm (.z zg (.nil (.ai (.z zm (.z zm (.z zm ?_))))))))
  refine .ixY hs (hR.mono hle1) rfl rfl aa af hx rfl ?_;intro b14 o14 hc14
  refine .q hs (aK rfl ae hc14) ?_
  refine .o (.mr (first:=[]) (cap:=cap) rfl rfl hc (hp _ _ _ x (List.mem_of_getElem? hx) hle1 hs) ?_);rintro _ w ⟨H2,b16,hle2,rfl,hb16,hs⟩
  refine .nil ?_
  refine (.cond rfl (fun hc16=>?_) (fun hc16=>?_))
  ·refine .ai (.z zm (.z zg (.nil ?_)))
   refine .ret (rB (rT (rB (rT (Fin.bL Tryz.results206 rfl ?_)))))
   exact ⟨H2,_,hle1.trans hle2,rfl,⟨fun _=>⟨x,List.mem_of_getElem? hx,hb16.1 hc16⟩,fun _=>by omega⟩,hs⟩
  ·refine .skip ?_
   refine nB (nT ?_)
   exact .mk ⟨rfl,H2,hle1.trans hle2,eE hno hx (fun h=>by rw [hb16.2 h] at hc16;cases hc16),hs⟩
 ·rintro fr w ⟨rfl,H1,hle1,hno,hs⟩
  refine nT ?_
  refine .ai (.z zg (.nil ?_))
  refine .ret (Fin.bL Tryz.results206 rfl ?_)
  exact ⟨H1,_,hle1,rfl,⟨fun h=>by omega,fun ⟨x,h1,h2⟩=>by
   obtain ⟨j,hj⟩:=List.getElem?_of_mem h1
   exact (hno j (List.getElem?_eq_some_iff.1 hj).1 x hj h2).elim⟩,hs⟩
theorem kO{v:Value}{xs:List Int}{g:Nat}{cap:List Value}(q:Int→Prop)(hs:St H w σ)(hR:RI H v xs)(hc:∀args w,(callFunc g args).run Tryz.prog w= .ok (.enter g args) w)
  (hp:∀H' w σ (n:Int),n∈xs→HLe H H'→St H' w σ→Cl Tryz.prog g ([I n]++cap) w fun u w'=>∃H1 b,HLe H' H1∧u= .bool b∧(b=true↔q n)∧St H1 w' σ):
  Cl Tryz.prog 134 [v,.func (.func g) #[] cap.toArray] w fun u w'=>∃H1 b,HLe H H1∧u= .bool b∧(b=true↔∃x∈xs,q x)∧St H1 w' σ:=by
 refine Cl.o Tryz.func134 Tryz.ntmps134 ag2 ?_
 refine .ai (.z zg (.nil (.ai (.z zm (.z zm ?_)))))
 refine .o (.call Tryz.call206 rfl (mi q hs hR hc hp) ?_);rintro _ w ⟨H1,i,hle1,rfl,hi,hs⟩
 refine .z xo (.z zg (.nil ?_))
 refine .ret (Fin.bL Tryz.results134 rfl ?_)
 exact ⟨H1,_,hle1,rfl,by simp only [decide_eq_true_eq];exact hi,hs⟩
theorem og{a0 a1 a2:Int}(hs:St H w σ):Cl Tryz.prog 274 [I a0,I a1,I a2] w fun v w'=>v= .bool (decide (a1≤a0∧a0≤a2))∧St H w' σ:=by
 refine Cl.o Tryz.func274 Tryz.ntmps274 ag3 ?_
 refine .ai (.z zg (.nil (.ai (.z zm (.z zm (.z wi (.z zm ?_)))))))
 refine .iq (t':=10) rfl (fun hb10=>?_) (fun hb10=>?_)
 ·refine .gT rfl rfl ?_
  refine .z zm ?_
  refine .gT rfl rfl ?_
  refine .z zm ?_
  refine .gT rfl rfl ?_
  refine .z wi (.z zpT (.z zg (.nil ?_)))
  refine .ret (Fin.bL Tryz.results274 rfl ?_)
  exact ⟨by simp [*],hs.out⟩
 ·refine .gFs 3 3 true rfl rfl rfl ?_
  refine .z zpF (.z zg (.nil ?_))
  refine .ret (Fin.bL Tryz.results274 rfl ?_)
  exact ⟨by simp [*],hs.out⟩
theorem gU{v:Value}{l:List Int}{many:Nat}{most:Int}(hs:St H w σ)(hr:RI H v l):
  Cl Tryz.prog 247 [v,I many,I most] w fun v w'=>∃b:Bool,v= .bool b∧(b=true↔eH many most l)∧St H w' σ:=by
 obtain ⟨a,c,rfl⟩:=RI.shape hr
 have hlen:=(RI.len hr).2.2
 refine Cl.o Tryz.func247 Tryz.ntmps247 ag3 ?_
 refine .ai (.z zg (.nil (.seq (.ai (.z zm (.z (cH aa) (.z zm ?_)))))))
 refine .o (.call Tryz.call274 rfl (og hs) ?_);rintro _ w ⟨rfl,hs⟩
 refine .z iO (.z zm ?_)
 refine .bif (t':=14) rfl (fun hb14=>?_) (fun hb14=>?_)
 ·refine .gFs 4 5 false rfl rfl rfl ?_
  refine .z zpT (.z zm ?_)
  refine .gFs 8 11 false rfl rfl rfl ?_
  refine .z zpT (.nil ?_)
  refine (.cT ?_)
  refine .ai (.z zg (.nil ?_))
  refine .ret (rT (Fin.bL zN rfl ?_))
  exact ⟨false,rfl,⟨fun h=>(by cases h),fun h=>by have:=h.two;have:=h.many;simp at hb14;omega⟩,hs⟩
 ·refine .gT rfl rfl ?_
  refine .z zm ?_
  refine .gT rfl rfl ?_
  have htwo:2≤l.length∧l.length≤many:=by simp at hb14;omega
  refine .ixY hs hr rfl rfl aa af (bu (l:=l) (i:=0) aj) cM ?_;intro b16 o16 hc16
  refine .gT rfl rfl ?_
  refine .q hs (aK rfl ae hc16) ?_
  refine .gT rfl rfl ?_
  refine .z fj (.z zpF (.z zm ?_))
  refine .iq (t':=20) rfl (fun hb20=>?_) (fun hb20=>?_)
  ·refine .gFs 8 11 false rfl rfl rfl ?_
   refine .z zpT (.nil ?_)
   refine (.cT ?_)
   refine .ai (.z zg (.nil ?_))
   refine .ret (rT (Fin.bL zN rfl ?_))
   exact ⟨false,rfl,⟨fun h=>(by cases h),fun h=>by have:=h.low;omega⟩,hs⟩
  ·refine .gT rfl rfl ?_
   refine .z zm ?_
   refine .gT rfl rfl ?_
   refine .z zm ?_
   refine .gT rfl rfl ?_
   refine .z (cH aa) ?_
   refine .gT rfl rfl ?_
   refine .z ir ?_
   refine .gT rfl rfl ?_
   refine .ixY hs hr rfl rfl aa af (bu (l:=l) (i:=(l.length - 1)) aj) cM ?_;intro b25 o25 hc25
   refine .gT rfl rfl ?_
   refine .q hs (aK rfl ae hc25) ?_
   refine .gT rfl rfl ?_
   refine .z zm ?_
   refine .gT rfl rfl ?_
   refine .z kT (.z zpF (.nil ?_))
   refine (.bJ rfl (fun hc29=>?_) (fun hc29=>?_))
   ·refine .ai (.z zg (.nil ?_))
    refine .ret (rT (Fin.bL zN rfl ?_))
    exact ⟨false,rfl,⟨fun h=>(by cases h),fun h=>by have:=h.high;omega⟩,hs⟩
   ·refine .skip ?_
    refine nT ?_
    refine .seq (.ai (.z zm ?_))
    refine .q hs (pC (k:=1) rfl rfl aa af aj aj) ?_
    refine .z (cH aa) (.z zm (.nil ?_))
    refine .for (N:=l.length - 1) (J:=fun k fr w=>fr=[(31,.slice (if c=1 then a else a.map (·.add (1*1))) (l.length - 1) (c - 1)),(0,.slice a l.length c)]∧(∀j<k,gi l j<gi l (j+1))∧St H w σ) aj ?_ ?_ ?_
    ·exact .mk ⟨rfl,fun j hj=>by omega,hs⟩
    ·rintro k fr w hk ⟨rfl,hno,hs⟩
     have ht:=hr.tail (k:=1) aj
     have hx:(l.drop 1)[k]? =some (gi l (k+1)):=by rw [List.getElem?_drop,Nat.add_comm];exact bu aj
     refine .block (.ai (.z zm ?_))
     refine .ixY hs ht rfl rfl aa af hx rfl ?_;intro b36 o36 hc36
     refine .q hs (aK rfl ae hc36) ?_
     refine .z zg (.z zg (.nil (.ai (.z zm (.z zm ?_)))))
     refine .ixY hs hr rfl rfl aa af (bu (l:=l) (i:=k) aj) cM ?_;intro b40 o40 hc40
     refine .q hs (aK rfl ae hc40) ?_
     refine .z zm (.z xo (.nil ?_))
     refine (.bJ rfl (fun hc43=>?_) (fun hc43=>?_))
     ·refine .ai (.z zg (.nil ?_))
      refine .ret (rB (rT (rB (rT (Fin.bL zN rfl ?_)))))
      exact ⟨false,rfl,⟨fun h=>(by cases h),fun h=>by have:=h.rise k aj;omega⟩,hs⟩
     ·refine .skip ?_
      refine nB (nT ?_)
      exact .mk ⟨rfl,fun j hj=>by
       by_cases e:j=k
       ·subst e;omega
       ·exact hno j aj,hs⟩
    ·rintro fr w ⟨rfl,hno,hs⟩
     refine nT ?_
     refine .ai (.z zg (.nil ?_))
     refine .ret (Fin.bL zN rfl ?_)
     exact ⟨true,rfl,⟨fun _=>⟨aj,aj,aj,aj,fun i hi=>hno i aj⟩,fun _=>rfl⟩,hs⟩
theorem mg{v:Value}{l:List Int}(hs:St H w σ)(hr:RI H v l):
  Cl Tryz.prog 294 [v] w fun v w'=>∃e,v=I e∧((eH 9 100000 l∧e=0)∨(¬eH 9 100000 l∧e≠0))∧St H w' σ:=by
 obtain ⟨a,c,rfl⟩:=RI.shape hr
 refine Cl.o Tryz.func294 Tryz.ntmps294 ag1 ?_
 refine .ai (.z zg (.nil (.seq (.ai (.z zm ?_)))))
 refine .o (.call Tryz.call247 rfl (gU (many:=9) (most:=100000) hs hr) ?_);rintro _ w ⟨b4,rfl,hb4,hs⟩
 refine .z iO (.nil ?_)
 refine (.cond rfl (fun hc5=>?_) (fun hc5=>?_))
 ·refine .ai (.z zg (.nil ?_))
  refine .ret (rT (Fin.bL Tryz.results294 rfl ?_))
  exact ⟨_,rfl,.inr ⟨fun h=>by simp [hb4.2 h] at hc5,by decide⟩,hs⟩
 ·refine .skip ?_
  refine nT ?_
  refine .ai (.z zg (.nil ?_))
  refine .ret (Fin.bL Tryz.results294 rfl ?_)
  exact ⟨_,rfl,.inl ⟨hb4.1 (by simpa using hc5),rfl⟩,hs⟩
theorem ic{a b:Int}(hs:St H w σ)(ha:0<a)(hb:0<b∧b≤100000):
  Cl Tryz.prog 277 [I a,I b] w fun v w'=>v=I (rat a b)∧St H w' σ:=by
 have h1:0≤b.tdiv a:=Int.tdiv_nonneg aj aj
 have h2:b.tdiv a≤b:=by rw [Int.tdiv_eq_ediv_of_nonneg aj];exact Int.ediv_le_self _ aj
 have hw:=kh (m:=b.tdiv a) ⟨aj,aj⟩
 refine Cl.o Tryz.func277 Tryz.ntmps277 ag2 ?_
 refine .ai (.z zg (.nil (.seq (.ai (.z zm (.z zm (.z Bv (.z fL (.z zm ?_)))))))))
 refine .iq (t':=9) rfl (fun hb9=>?_) (fun hb9=>?_)
 ·refine .gT rfl rfl ?_
  refine .z zm ?_
  refine .gT rfl rfl ?_
  refine .z zm ?_
  refine .gT rfl rfl ?_
  refine .z Eg ?_
  refine .gT rfl rfl ?_
  refine .z wi (.z zpT (.nil ?_))
  refine (.bJ rfl (fun hc14=>?_) (fun hc14=>?_))
  ·refine .ai (.z zm (.z zm (.z Eg (.z zg (.nil ?_)))))
   refine .ret (rT (Fin.bL Tryz.results277 rfl ?_))
   rw [hw] at hc14 ⊢
   exact ⟨by unfold rat;rw [if_pos ⟨by assumption,by assumption⟩],hs⟩
  ·refine .skip ?_
   refine nT ?_
   refine .ai (.z zg (.nil ?_))
   refine .ret (Fin.bL Tryz.results277 rfl ?_)
   rw [hw] at hc14
   exact ⟨by unfold rat;rw [if_neg aj],hs⟩
 ·refine .gFs 4 4 true rfl rfl rfl ?_
  refine .z zpF (.nil ?_)
  refine (.cF ?_)
  refine .skip ?_
  refine nT ?_
  refine .ai (.z zg (.nil ?_))
  refine .ret (Fin.bL Tryz.results277 rfl ?_)
  exact ⟨by unfold rat;rw [if_neg aj],hs⟩
def pT(l:List Int):List (List Value):=(lk l).map fun g=>[Value.agg #[I (g.at_:Int),I (g.n:Int)]]
theorem zS{l:List Int}(hp:eH 9 100000 l){i:Nat}(h:i+2<l.length):eA l i=true↔0<rat (gi l (i+1) - gi l i) (gi l (i+2) - gi l (i+1))∨0<rat (gi l (i+2) - gi l (i+1)) (gi l (i+1) - gi l i):=by
 have h1:=hp.rise i aj
 have h2:gi l (i+1)<gi l (i+2):=hp.rise (i+1) aj
 unfold eA
 rw [zW aj aj]
 simp only [Bool.and_eq_true,decide_eq_true_eq]
 omega
theorem oh{H:cu}{b:Nat}{v:Value}{l:List Int}(hp:eH 9 100000 l)(hb:Row H b [v])(hr:RI H v l):Iter Tryz.prog 295 [.pointer (some ⟨b,0,none⟩)] H (pT l):=by
 intro ly II Ix _ _ hy H0 σb0 σf w hle hI0 hs
 obtain ⟨a,c,rfl⟩:=RI.shape hr
 have hlen:=hp.many
 have hb0:cellAt H0 b 0=some (.slice a l.length c):=cellAt.mono (hb.at 0) hle
 refine Cl.o Tryz.func295 Tryz.ntmps295 ag2 ?_
 refine .ai (.z zg (.nil (.block ?_)))
 refine .loop (fun i:Nat=>⟨59,[],[(3,I (i:Int)),(0,.func (.yield ly) #[] #[]),(1,.pointer (some ⟨b,0,none⟩))]⟩)
  (fun i w=>i≤l.length∧∃j,j≤(lk l).length∧(lk l).drop j=lZ l i∧∃H1 σb,HLe H H1∧HLe H0 H1∧II j H1 σb∧St H1 w (σb++σf)) (fun i=>l.length - i) 0 (.bX rfl bQ aU)
  ⟨Nat.zero_le _,0,Nat.zero_le _,rfl,H0,σb0,hle,HLe.refl _,hI0,hs⟩ ?_
 clear hs hI0
 rintro i w ⟨hil,j,hj,hd,H1,σb,hle1,hle0,hI,hs⟩
 have hb1:cellAt H1 b 0=some (.slice a l.length c):=cellAt.mono hb0 hle0
 refine .seq (.ai (.z zm (.z cA (.y hs (zld ak) (.z (cH aa) (.z fj (.nil ?_)))))))
 refine (.bJ rfl (fun hc11=>?_) (fun hc11=>?_))
 ·refine .skip ?_
  refine nT ?_
  refine .block (.ai (.z zm (.z (zbd [_,_] qd) ?_)))
  refine .o (.alloc hs wg rfl fun b4 w hs=>?_)
  refine .o (.aV (vs:=[_,_]) hs rfl rfl nR fun w hs=>?_)
  refine .nil ?_
  refine .cut (fun fs w=>jU fs ⟨59,[],[(4,.pointer (some ⟨b4,0,none⟩)),(3,I (i:Int)),(0,.func (.yield ly) #[] #[]),(1,.pointer (some ⟨b,0,none⟩))]⟩∧St H1 w (.blk b4 [I (i:Int),I (((if eA l i then 2 else 1:Nat)):Int)]::(σb++σf))) ?_ ?_
  ·refine .ai (.z zm (.z cA (.y hs (zld ak) (.z (cH aa) (.z fj (.nil ?_))))))
   refine (.bJ rfl (fun hc18=>?_) (fun hc18=>?_))
   ·refine .seq (.draw mix rfl hs fun w hs=>?_)
    refine .y 0 rfl hs ak ?_;refine .z 1 rfl zm ?_;refine .z 2 rfl cA ?_
    have r1:=hp.rise i aj
    have r2:gi l (i+1)<gi l (i+2):=hp.rise (i+1) aj
    have hiff:=zS hp (i:=i) aj
    have q1:=hp.bd (i:=i) aj
    have q2:=hp.bd (i:=i+2) aj
    refine .ixX (enc:=fun x=>[I x]) (i:=3) hs rfl aq .none (hr.mono hle1) rfl rfl aa af (bu (l:=l) (i:=(i+1)) aj) cM ?_;intro b22 o22 hc22;replace hc22:=bH.one hc22
    refine .r (i:=4) hs rfl aq .none (aK rfl ae hc22) ?_
    refine .y 5 rfl hs ak ?_;refine .z 6 rfl zm ?_
    refine .ixX (enc:=fun x=>[I x]) (i:=7) hs rfl aq .none (hr.mono hle1) rfl rfl aa af (bu (l:=l) (i:=i) aj) cM ?_;intro b26 o26 hc26;replace hc26:=bH.one hc26
    refine .r (i:=8) hs rfl aq .none (aK rfl ae hc26) ?_
    refine .z 9 rfl ir ?_;refine .y 10 rfl hs ak ?_;refine .z 11 rfl zm ?_;refine .z 12 rfl cA ?_
    refine .ixX (enc:=fun x=>[I x]) (i:=13) hs rfl aq .none (hr.mono hle1) rfl rfl aa af (bu (l:=l) (i:=(i+2)) aj) cM ?_;intro b32 o32 hc32;replace hc32:=bH.one hc32
    refine .r (i:=14) hs rfl aq .none (aK rfl ae hc32) ?_
    refine .y 15 rfl hs ak ?_;refine .z 16 rfl zm ?_;refine .z 17 rfl cA ?_
    refine .ixX (enc:=fun x=>[I x]) (i:=18) hs rfl aq .none (hr.mono hle1) rfl rfl aa af (bu (l:=l) (i:=(i+1)) aj) cM ?_;intro b37 o37 hc37;replace hc37:=bH.one hc37
    refine .r (i:=19) hs rfl aq .none (aK rfl ae hc37) ?_
    refine .z 20 rfl ir ?_;refine .z 21 rfl zg ?_;refine .z 22 rfl zg ?_;refine .D hs ?_
    refine .ai (.z zm (.z zm ?_))
    refine .o (.call Tryz.call277 rfl (ic hs aj aj) ?_);rintro _ w ⟨rfl,hs⟩
    refine .z kT (.z zm ?_)
    refine .iq (t':=44) rfl (fun hb44=>?_) (fun hb44=>?_)
    ·refine .gFs 4 4 false rfl rfl rfl ?_
     refine .z zpT (.nil ?_)
     refine (.cT ?_)
     refine .region (.z (zfa hZ) ?_)
     refine .o (.store hs rfl rfl af fun w hs=>?_)
     refine .nil ?_
     refine nT ?_
     rw [hiff.2 (.inl hb44)];exact ⟨aU,hs⟩
    ·refine .gT rfl rfl ?_
     refine .z zm ?_
     refine .gT rfl rfl ?_
     refine .z zm ?_
     refine .gT rfl rfl ?_
     refine .o (.call Tryz.call277 rfl (ic hs aj aj) ?_);rintro _ w ⟨rfl,hs⟩
     refine .gT rfl rfl ?_
     refine .z kT (.z zpF (.nil ?_))
     refine (.bJ rfl (fun hc49=>?_) (fun hc49=>?_))
     ·refine .region (.z (zfa hZ) ?_)
      refine .o (.store hs rfl rfl af fun w hs=>?_)
      refine .nil ?_
      refine nT ?_
      rw [hiff.2 (.inr hc49)];exact ⟨aU,hs⟩
     ·refine .skip ?_
      refine nT ?_
      rw [show eA l i=false from Bool.eq_false_iff.2 fun h=>by have:=hiff.1 h;omega];exact ⟨aU,hs⟩
   ·refine .skip ?_
    refine nT ?_
    rw [show eA l i=false by simp [eA];omega];exact ⟨aU,hs⟩
  ·rintro fs w ⟨hfs,hs⟩
   refine WE.sub ?_ hfs
   have hgo:=te (l:=l) (i:=i) aj
   rw [hgo] at hd
   have hjl:j<(lk l).length:=by
    have:=congrArg List.length hd
    simp at this;omega
   have hgj:(lk l)[j]=⟨i,eA l i⟩:=by
    rw [List.drop_eq_getElem_cons hjl] at hd
    exact (List.cons.inj hd).1
   have hdj:(lk l).drop (j+1)=lZ l (i+(if eA l i then 2 else 1)):=by
    rw [List.drop_eq_getElem_cons hjl] at hd
    exact (List.cons.inj hd).2
   have hn12:(if eA l i then 2 else 1:Nat)=1∨(if eA l i then 2 else 1:Nat)=2:=by split<;>simp
   refine .seq (.ai (.z zm (.y hs (zls [_,_] Tryz.isAgg300 nR) ?_)))
   have hk':j<(pT l).length:=by simpa [pT] using hjl
   have hyd:=hy j hk' H1 σb (.blk b4 [I (i:Int),I (((if eA l i then 2 else 1:Nat)):Int)]::σf) w hle1 hI (St.deep hs)
   rw [show (pT l)[j]=[Value.agg #[I (i:Int),I (((if eA l i then 2 else 1:Nat)):Int)]] by simp only [pT,List.getElem_map,hgj];rfl] at hyd
   refine .o (.yield rfl rfl hyd ?_);rintro v53 w ⟨H2,σ2,g1,hs,g3⟩
   obtain ⟨bb,rfl,gT,gF⟩:=od g3
   replace hs:=St.shallow hs
   refine .z iO (.nil ?_)
   refine (.cond rfl (fun hc54=>?_) (fun hc54=>?_))
   ·refine .ret (rT (rB (rT (rB (Fin.Eo Tryz.results295 ?_)))))
    exact ⟨H2,σ2,hle0.trans g1,hs.tail,.inr (gF (by simpa using hc54))⟩
   ·refine .skip ?_
    refine nT ?_
    refine .region (.z zm (.z (zfa hZ) (.y hs (zld ae) (.z cA (.z zg (.nil ?_))))))
    refine nB (nT ?_)
    generalize (if eA l i then 2 else 1:Nat)=n at*
    exact ⟨i+n,.bX rfl bQ aU,⟨aj,j+1,hjl,hdj,H2,σ2,hle1.trans g1,hle0.trans g1,gT (by simpa using hc54),hs.tail⟩,aj⟩
 ·refine .exit ?_
  refine xT (xT (xB ?_))
  rw [qM aj] at hd
  have:(lk l).length≤j:=by simpa using hd
  obtain rfl:j=(lk l).length:=by omega
  exact Fin.xk Tryz.results295 ⟨H1,σb,hle0,hs,.inl (by simpa [pT] using hI)⟩
theorem qo{v:Value}{l:List Int}(hs:St H w σ)(hr:RI H v l)(hp:eH 9 100000 l):
  Cl Tryz.prog 276 [v] w fun u w'=>∃H1 b,HLe H H1∧u= .func (.func 295) #[] #[.pointer (some ⟨b,0,none⟩)]∧Iter Tryz.prog 295 [.pointer (some ⟨b,0,none⟩)] H1 (pT l)∧St H1 w' σ:=by
 obtain ⟨a,c,rfl⟩:=RI.shape hr
 refine Cl.o Tryz.func276 Tryz.ntmps276 ag1 ?_
 refine .ai ?_
 refine .bx hs fun b1 w hs=>?_
 refine .z zg (.nil (.ai ?_))
 refine .q hs (dx (f:=[]) (c:=[_]) rfl rfl) ?_
 refine .z zg (.nil ?_)
 refine .ret (Fin.bL Tryz.results276 rfl ?_)
 obtain ⟨H1,g1,g2,hs⟩:=hs.cI .here
 exact ⟨H1,b1,g1,rfl,oh hp g2 (hr.mono g1),hs⟩
theorem nU{bs bW from_ n:Nat}{W xs:List Int}{v:Value}(hs:St H w (.blk bs [.slice (some ⟨bW,0,none⟩) n n]:: .blk bW (Is W)::σ))(hW:W.length=n)(hr:RI H v xs)(hl:from_+xs.length≤n)(hn:n≤9)
  (hz:bG W n≤1000000000) (ha:uE xs≤1000000000):
  Cl Tryz.prog 275 [.pointer (some ⟨bs,0,none⟩),I (from_:Int),v] w fun _ w'=>St H w' (.blk bs [.slice (some ⟨bW,0,none⟩) n n]:: .blk bW (Is (kl W from_ xs))::σ):=by
 obtain ⟨a,c,rfl⟩:=RI.shape hr
 have hlen:=(RI.len hr).2.2
 refine Cl.o Tryz.func275 Tryz.ntmps275 ag3 ?_
 refine .ai (.z zm (.z (cH aa) (.z zm (.nil ?_))))
 refine .for (N:=xs.length) (J:=fun k fr w=>fr=[(8,.slice a xs.length c),(0,.pointer (some ⟨bs,0,none⟩)),(1,I (from_:Int))]∧St H w (.blk bs [.slice (some ⟨bW,0,none⟩) n n]:: .blk bW (Is (kl W from_ (xs.take k)))::σ)) aj ?_ ?_ ?_
 ·exact .mk ⟨rfl,hs⟩
 ·rintro k fr w hk ⟨rfl,hs⟩
  have hal:=na (xs.take k) W from_
  have hsz:=oR (xs.take k) W from_ (by rw [List.length_take];omega)
  rw [hW] at hsz
  have h1:=xd xs k
  have h2:=Bf xs k
  have h3:=ig (kl W from_ (xs.take k)) (v:=from_+k) (n:=n) aj
  have h4:=zG hk W from_
  refine .block (.ai (.z zm ?_))
  refine .ixY hs hr rfl rfl aa af (bu (l:=xs) (i:=k) aj) cM ?_;intro b13 o13 hc13
  refine .q hs (aK rfl ae hc13) ?_
  refine .z zg (.z zg (.nil (.region (.z zm (.z znc (.z (zfa nY) (.y hs (zld ak) (.z zm (.z zm ?_)))))))))
  refine .z cA ?_
  refine .q hs (dS (k:=from_+k) rfl rfl aa af aj aj) ?_
  refine .y hs (zld ae) (.z zm (.z cA ?_))
  refine .q hs (dS (k:=from_+k) rfl rfl aa af aj aj) ?_
  refine .o (.store hs rfl rfl af fun w hs=>?_)
  refine .nil ?_
  refine nB (nT ?_)
  exact .mk ⟨rfl,by rw [h4];exact hs⟩
 ·rintro fr w ⟨rfl,hs⟩
  rw [List.take_length] at hs
  exact Fin.xk Tryz.results275 hs
theorem uv{a b:Int}(ha:0<a∧a≤100000)(hb:0<b∧b≤100000):0≤min a b∧min a b≤100000:=by omega
theorem zX{a b:Int}(h:0<tms a b):tms a b=1∨tms a b=2∨tms a b=3:=by have:=CW a b;omega
set_option maxHeartbeats 1000000 in
theorem iP{v:Value}{l:List Int}(hs:St H w σ)(hr:RI H v l)(hp:eH 9 100000 l):
  Cl Tryz.prog 248 [v] w fun u w'=>∃H1,HLe H H1∧RI H1 u (wts l)∧St H1 w' σ:=by
 obtain ⟨a,c,rfl⟩:=RI.shape hr
 have hln:=hp.many
 have hgl:(lk l).length≤9:=by have:=kH l l.length 0;unfold lk;omega
 refine Cl.o Tryz.func248 Tryz.ntmps248 ag1 ?_
 refine .ai ?_
 refine .bx hs fun b1 w hs=>?_
 refine .z zg (.nil (.ai (.y hs (zld ak) (.z (cH aa) ?_))))
 refine .o (.pR l.length hs rfl rfl aa dY rfl af bO aj fun b13 w hs=>?_)
 refine .z (zbd [_] vK) ?_
 refine .o (.alloc hs Tryz.zeroValue294 rfl fun b3 w hs=>?_)
 refine .o (.aV (vs:=[_]) hs rfl rfl Tryz.sizeOf294 fun w hs=>?_)
 refine .nil (.ai ?_)
 refine .q hs (dx (f:=[_]) (c:=[]) rfl rfl) ?_
 refine .o (.alloc hs Tryz.zeroValue295 rfl fun b4 w hs=>?_)
 refine .o (.store hs rfl rfl Tryz.sizeOf295 fun w hs=>?_)
 refine .nil (.seq (.ai (.y hs (zld ak) ?_)))
 refine .o (.call Tryz.call276 rfl (qo hs hr hp) ?_);rintro _ w ⟨H1,b17,hle1,rfl,hit,hs⟩
 refine .nil (.block ?_)
 refine .rangeFunc (gf:=295) (cap:=[.pointer (some ⟨b17,0,none⟩)]) (xs:=pT l) (σb:=[.blk b3 [.slice (some ⟨b13,0,none⟩) l.length l.length],.blk b13 (Is (su l 0)),.blk b4 [.func (.func 275) #[.pointer (some ⟨b3,0,none⟩)] #[]],.blk b1 [.slice a l.length c]]) (σf:=σ) (hs.sb) trivial rfl hit Tryz.call295 (fun x hx=>by
   simp only [pT,List.mem_map] at hx
   obtain ⟨j,_,rfl⟩:=hx;rfl) rfl
  (I:=fun j H' σb=>σb=[.blk b3 [.slice (some ⟨b13,0,none⟩) l.length l.length],.blk b13 (Is (su l j)),.blk b4 [.func (.func 275) #[.pointer (some ⟨b3,0,none⟩)] #[]],.blk b1 [.slice a l.length c]]) (Ix:=fun _ _ _=>False)
  (fun j _ _ σ g1 g2=>g2) (fun _ _ _ _ _ h=>h) rfl ?_ ?_ (fun D c H' σb w _ h _=>h.elim)
 ·rintro ly j hj H2 σb2 σf2 w hle2 rfl hs ⟨rr,hrr⟩
  have hjl:j<(lk l).length:=by simpa [pT] using hj
  obtain ⟨g,hg⟩:=nth hjl
  rw [show (pT l)[j]=[Value.agg #[I (g.at_:Int),I (g.n:Int)]] by
   rw [List.getElem?_eq_getElem hjl] at hg
   simp only [pT,List.getElem_map,Option.some.inj hg]]
  obtain ⟨i1,i2,i3,i4,i5⟩:=tf hp (List.mem_of_getElem? hg)
  have hK:=ss hg
  have hKl:=lB l j
  have hKz:=ql hp j aj
  have hr2:=hr.mono (hle1.trans hle2)
  have hq0:=hp.bd (i:=g.at_) aj
  have hq1:=hp.bd (i:=g.at_+1) aj
  generalize hA:gi l (g.at_+1) - gi l g.at_=A at*
  refine .region ?_
  refine .o (.alloc hs wg rfl fun b5 w hs=>?_)
  refine .o (.aV (vs:=[_,_]) hs rfl rfl nR fun w hs=>?_)
  refine .nil ?_
  refine nT ?_
  refine ⟨H2,[.blk b5 [I (g.at_:Int),I (g.n:Int)],.blk b3 [.slice (some ⟨b13,0,none⟩) l.length l.length],.blk b13 (Is (su l j)),.blk b4 [.func (.func 275) #[.pointer (some ⟨b3,0,none⟩)] #[]],.blk b1 [.slice a l.length c]],HLe.refl _,hs,?_⟩;rintro w σf4 - hs
  refine .block ?_
  refine .seq (.draw mix rfl hs fun w hs=>?_)
  refine .y 0 rfl hs ak ?_;refine .z 1 rfl (zfa fE) ?_;refine .y 2 rfl hs ae ?_;refine .z 3 rfl cA ?_
  refine .ixX (enc:=fun x=>[I x]) (i:=4) hs rfl aq .none hr2 rfl rfl aa af (bu (l:=l) (i:=(g.at_+1)) aj) cM ?_;intro b23 o23 hc23;replace hc23:=bH.one hc23
  refine .r (i:=5) hs rfl aq .none (aK rfl ae hc23) ?_
  refine .y 6 rfl hs ak ?_;refine .z 7 rfl (zfa fE) ?_;refine .y 8 rfl hs ae ?_
  refine .ixX (enc:=fun x=>[I x]) (i:=9) hs rfl aq .none hr2 rfl rfl aa af (bu (l:=l) (i:=g.at_) aj) cM ?_;intro b28 o28 hc28;replace hc28:=bH.one hc28
  refine .r (i:=10) hs rfl aq .none (aK rfl ae hc28) ?_
  refine .z 11 rfl ir ?_
  rw [hA]
  refine .z 12 rfl zg ?_;refine .D hs ?_
  refine .seq (.ai (.z (zfa hZ) (.y hs (zld ae) (.z fL ?_))))
  skip
  refine .nil ?_
  refine (.bJ rfl (fun hc33=>?_) (fun hc33=>?_))
  ·refine .ai ?_
   refine .y hs (zld Tryz.isAgg295) ?_
   refine .z (zfa fE) (.y hs (zld ae) (.z zm (.z jV (.z zm (.z jV ?_)))))
   refine .o (.buildSlice (cells:=[_,_]) hs iL rfl rfl fun b41 w hs=>?_)
   have h2:g.two=false:=by
    cases e:g.two with
    |false=>rfl
    |true=>simp [Grp.n,e] at hc33
   obtain ⟨H3,hle3,r41,hs⟩:=cn.cN (xs:=[18*A,18*A]) (v:= .slice (some ⟨b41,0,none⟩) 2 2) (.full (len:=2) rfl) bQ hs cJ
   have hgw:=yG h2 hA
   rw [hgw] at hK i5
   replace hs:St H3 w (.blk b3 [.slice (some ⟨b13,0,none⟩) l.length l.length]:: .blk b13 (Is (su l j)):: .blk b5 [I (g.at_:Int),I (g.n:Int)]:: .blk b4 [.func (.func 275) #[.pointer (some ⟨b3,0,none⟩)] #[]]:: .blk b1 [.slice a l.length c]::σf4):=hs.sb
   refine .o (.mr (first:=[.pointer (some ⟨b3,0,none⟩)]) (cap:=[]) rfl rfl Tryz.call275 (nU (from_:=g.at_) (xs:=[18*A,18*A]) hs hKl r41 (by simp;omega) aj aj aj) ?_);rintro _ w hs
   rw [←hK] at hs
   refine .nil ?_
   refine .exit ?_
   refine xT (xB ?_)
   exact ⟨H3,_,hle3,(hs.sb:St H3 w (.blk b3 _:: .blk b13 _:: .blk b4 _:: .blk b1 _::σf4)),rfl⟩
  ·refine .skip ?_
   refine nT ?_
   refine .seq (.draw mix rfl hs fun w hs=>?_)
   have h2:g.two=true:=by
    cases e:g.two with
    |true=>rfl
    |false=>simp [Grp.n,e] at hc33
   obtain ⟨j1,j2,j3,j4⟩:=i4 h2
   have hq2:=hp.bd (i:=g.at_+2) aj
   generalize hB:gi l (g.at_+2) - gi l (g.at_+1)=B at*
   have hmx:=zW (a:=A) (b:=B) aj aj
   have hk:=zX j4
   have hmm:=uv (a:=A) (b:=B) ⟨aj,aj⟩ ⟨aj,aj⟩
   obtain ⟨n1,n2,n3,n4⟩:=yE hk hmm.1 hmm.2
   obtain ⟨n5,n6,n7,n8,n9⟩:=n4 _ n3.1 n3.2
   generalize hT:tms A B=T at*
   generalize hM:min A B=M at*
   have hgw:=yF h2 hA hB hT hM
   refine .y 0 rfl hs ak ?_;refine .z 1 rfl (zfa fE) ?_;refine .y 2 rfl hs ae ?_;refine .z 3 rfl cA ?_
   refine .ixX (enc:=fun x=>[I x]) (i:=4) hs rfl aq .none hr2 rfl rfl aa af (bu (l:=l) (i:=(g.at_+2)) aj) cM ?_;intro b47 o47 hc47;replace hc47:=bH.one hc47
   refine .r (i:=5) hs rfl aq .none (aK rfl ae hc47) ?_
   refine .y 6 rfl hs ak ?_;refine .z 7 rfl (zfa fE) ?_;refine .y 8 rfl hs ae ?_;refine .z 9 rfl cA ?_
   refine .ixX (enc:=fun x=>[I x]) (i:=10) hs rfl aq .none hr2 rfl rfl aa af (bu (l:=l) (i:=(g.at_+1)) aj) cM ?_;intro b53 o53 hc53;replace hc53:=bH.one hc53
   refine .r (i:=11) hs rfl aq .none (aK rfl ae hc53) ?_
   refine .z 12 rfl ir ?_
   rw [hB]
   refine .z 13 rfl zg ?_;refine .D hs ?_
   refine .ai (.z zm (.z zm ?_))
   refine .o (.call Tryz.call277 rfl (ic hs aj aj) ?_);rintro _ w ⟨rfl,hs⟩
   refine .z zm (.z zm ?_)
   refine .o (.call Tryz.call277 rfl (ic hs aj aj) ?_);rintro _ w ⟨rfl,hs⟩
   refine .z Dd ?_
   rw [←hmx]
   refine .z zg (.nil (.ai (.z zm ?_)))
   refine .q hs (uq rfl rfl aj aj) ?_
   refine .z zm (.z cA (.z jV (.z zm (.z zm (.z zL ?_)))))
   rw [hM]
   refine .z jV (.z zg (.nil (.ai (.z zm (.z zm (.z jV (.z zm (.z ir (.z jV ?_)))))))))
   refine .z zm (.z zm (.z cA (.z jV (.z zm (.z cA (.z jV (.z zm (.z zm (.z jV ?_)))))))))
   refine .z ir (.z jV ?_)
   refine .o (.buildSlice (cells:=[_,_,_]) hs w9 rfl rfl fun b90 w hs=>?_)
   refine .z zg (.nil ?_)
   refine .cut (fun fs w=>∃H3,jU fs ⟨103,[],[(10,.slice (some ⟨b90,0,none⟩) 3 3),(5,.pointer (some ⟨b5,0,none⟩)),(4,.pointer (some ⟨b4,0,none⟩)),(3,.pointer (some ⟨b3,0,none⟩)),(1,.pointer (some ⟨b1,0,none⟩))]⟩∧HLe H2 H3∧RI H3 (.slice (some ⟨b90,0,none⟩) 3 3) (tO l g)∧St H3 w (.blk b3 [.slice (some ⟨b13,0,none⟩) l.length l.length]:: .blk b13 (Is (su l j)):: .blk b5 [I (g.at_:Int),I (g.n:Int)]:: .blk b4 [.func (.func 275) #[.pointer (some ⟨b3,0,none⟩)] #[]]:: .blk b1 [.slice a l.length c]::σf4)) ?_ ?_
   ·refine .ai (.z zm (.z zm (.z kT (.nil ?_))))
    refine (.bJ rfl (fun hc93=>?_) (fun hc93=>?_))
    ·refine .region (.z zm ?_)
     refine .o (.call Tryz.call128 rfl (kA (en:= .blk b90 (Is [(6:Int).tdiv T*(1+T)*M*T*(2 - T),(6:Int).tdiv T*(1+T)*M*(1+T)*(1+T),(6:Int).tdiv T*(1+T)*M*(2*T - 1)])) (hs.sb:St H2 w (.blk b90 _:: .blk b3 _:: .blk b13 _:: .blk b5 _:: .blk b4 _:: .blk b1 _::σf4)) (.full rfl) bQ) ?_);rintro _ w ⟨en95,hO95,hs⟩
     refine .nil ?_
     refine nT ?_
     obtain ⟨H3,hle3,r90,hs⟩:=cn.cN hO95 bQ hs .here
     rw [if_pos hc93] at hgw
     rw [hgw]
     exact ⟨H3,aU,hle3,r90,hs⟩
    ·refine .skip ?_
     refine nT ?_
     obtain ⟨H3,hle3,r90,hs⟩:=cn.cN (xs:=[(6:Int).tdiv T*(1+T)*M*T*(2 - T),(6:Int).tdiv T*(1+T)*M*(1+T)*(1+T),(6:Int).tdiv T*(1+T)*M*(2*T - 1)]) (v:= .slice (some ⟨b90,0,none⟩) 3 3) (.full (len:=3) rfl) bQ hs cJ
     rw [if_neg aj] at hgw
     rw [hgw]
     exact ⟨H3,aU,hle3,r90,hs.sb⟩
   ·rintro fs w ⟨H3,hfs,hle3,r90,hs⟩
    refine WE.sub ?_ hfs
    refine .region ?_
    refine .y hs (zld Tryz.isAgg295) ?_
    refine .z (zfa fE) (.y hs (zld ae) (.z zm ?_))
    refine .o (.mr (first:=[.pointer (some ⟨b3,0,none⟩)]) (cap:=[]) rfl rfl Tryz.call275 (nU (from_:=g.at_) (xs:=tO l g) hs hKl r90 (by rw [yH,show g.n=2 by unfold Grp.n;rw [h2];rfl];omega) aj aj aj) ?_);rintro _ w hs
    rw [←hK] at hs
    refine .nil ?_
    refine nB ?_
    exact ⟨H3,_,hle3,(hs.sb:St H3 w (.blk b3 _:: .blk b13 _:: .blk b4 _:: .blk b1 _::σf4)),rfl⟩
 ·rintro D H2 σb2 w hle2 rfl hs
  rw [show (pT l).length=(lk l).length by simp [pT],ye] at hs
  replace hs:St H2 w (.obj D (.deferred (some [])):: .blk b3 [.slice (some ⟨b13,0,none⟩) l.length l.length]:: .blk b13 (Is (wts l)):: .blk b4 [.func (.func 275) #[.pointer (some ⟨b3,0,none⟩)] #[]]:: .blk b1 [.slice a l.length c]::σ):=hs
  refine nB (nT ?_)
  refine .ai (.z (zfa nY) (.y hs (zld ak) (.z zg (.nil ?_))))
  refine .ret ?_
  obtain ⟨H3,hle3,hR,hs⟩:=cn.cN (xs:=wts l) (v:= .slice (some ⟨b13,0,none⟩) l.length l.length) (.full (by simp [Is,eu])) (by rw [eu];omega) hs cJ
  exact Fin.gO [D] [] hs fun w hs=>⟨_,results1 Tryz.results248 rfl,H3,hle1.trans (hle2.trans hle3),hR,hs.out⟩
def vX(X Y:List Int)(i:Nat):List Int:=(List.range Y.length).map fun k=>gi X i*gi Y k
def ln(X Y:List Int)(i:Nat):List (List Int):=(List.range i).map (vX X Y)
theorem jj(X Y:List Int)(i:Nat):(vX X Y i).length=Y.length:=by simp [vX]
theorem jy(X Y:List Int)(i:Nat):(ln X Y i).length=i:=by simp [ln]
theorem uA(X Y:List Int)(i:Nat):ln X Y (i+1)=ln X Y i++[vX X Y i]:=by simp [ln,List.range_succ]
theorem wA{X Y:List Int}{i k:Nat}(hk:k<Y.length):(vX X Y i).take (k+1)=(vX X Y i).take k++[gi X i*gi Y k]:=by
 rw [cB (by simp [vX,hk]:(vX X Y i)[k]? =some (gi X i*gi Y k))]
theorem vk{X Y:List Int}{n i:Nat}(h:i<n):gr (ln X Y n) i=vX X Y i:=by simp [gr,List.getD,ln,h]
theorem yJ{X Y:List Int}{n i k:Nat}(h:i<n)(hk:k<Y.length):gt (ln X Y n) i k=gi X i*gi Y k:=by
 unfold gt;rw [vk h];simp [gi,List.getD,vX,hk]
inductive GrS(X Y:List Int)(b:Nat)(i k:Nat)(H:cu)(σ:List Ent):Prop
 |go (us:List Value) (v:Value) (en:Ent) (h:i<X.length) (h1:RLs H us (ln X Y i)) (h2:cn 1 v (Is ((vX X Y i).take k)) en) (h3:σ=[.blk b (us++v::List.replicate (X.length - i - 1) (.slice none 0 0)),en])
 |fin (us:List Value) (h:i=X.length) (h1:RLs H us (ln X Y i)) (h3:σ=[.blk b us])
theorem GrS.mono{X Y:List Int}{b i k:Nat}{H H':cu}{σ:List Ent}(h:GrS X Y b i k H σ)(hl:HLe H H'):GrS X Y b i k H' σ:=by
 cases h with
 |go us v en h h1 h2 h3=>exact .go us v en h (h1.mono hl) h2 h3
 |fin us h h1 h3=>exact .fin us h (h1.mono hl) h3
theorem ky{v:Value}{l:List Int}(hs:St H w σ)(hr:RI H v l):
  Cl Tryz.prog 273 [v] w fun u w'=>∃H1 vo e,HLe H H1∧u= .tuple #[vo,I e]∧(eH 9 100000 l→e=0∧RI H1 vo (wts l))∧St H1 w' σ:=by
 obtain ⟨a,c,rfl⟩:=RI.shape hr
 refine Cl.o Tryz.func273 Tryz.ntmps273 ag1 ?_
 refine .ai (.z zg (.z zg (.nil (.seq (.ai (.z zm ?_))))))
 refine .o (.call Tryz.call294 rfl (mg hs hr) ?_);rintro _ w ⟨e,rfl,he,hs⟩
 refine .z zg (.nil (.ai (.z zm (.z iw (.nil ?_)))))
 refine (.fc rfl (fun hc8=>?_) (fun hc8=>?_))
 ·refine .ai (.z zm (.z zg (.z zg (.nil ?_))))
  refine .ret (rT (Fin.lz Tryz.results273 rfl rfl ?_))
  exact ⟨H,_,_,HLe.refl H,rfl,fun h=>by rcases he with ⟨_,h2⟩|⟨h1,_⟩;exact (hc8 h2).elim;exact (h1 h).elim,hs⟩
 ·refine .skip ?_
  refine nT ?_
  refine .ai (.z zm ?_)
  have hp:eH 9 100000 l:=by rcases he with ⟨h,_⟩|⟨_,h2⟩;exact h;exact (h2 (by simpa using hc8)).elim
  refine .o (.call Tryz.call248 rfl (iP hs hr hp) ?_);rintro v11 w ⟨H1,hle1,hR,hs⟩
  refine .z zg (.z zg (.nil ?_))
  refine .ret (Fin.lz Tryz.results273 rfl rfl ?_)
  exact ⟨H1,_,_,hle1,rfl,fun _=>⟨rfl,hR⟩,hs⟩
theorem qn{v1 v2:Value}{a b:List Int}(hs:St H w σ)(h1:RI H v1 a)(h2:RI H v2 b):
  Cl Tryz.prog 191 [v1,v2] w fun u w'=>∃bb:Bool,u= .bool bb∧(bb=true↔eH 9 100000 a∧eH 7 15000 b)∧St H w' σ:=by
 refine Cl.o Tryz.func191 Tryz.ntmps191 ag2 ?_
 refine .ai (.z zg (.nil (.ai (.z zm ?_))))
 refine .o (.call Tryz.call247 rfl (gU (many:=9) (most:=100000) hs h1) ?_);rintro _ w ⟨b6,rfl,hb6,hs⟩
 refine .z zm ?_
 refine .bif (t':=7) rfl (fun hb7=>?_) (fun hb7=>?_)
 ·refine .gT rfl rfl ?_
  refine .z zm ?_
  refine .gT rfl rfl ?_
  refine .o (.call Tryz.call247 rfl (gU (many:=7) (most:=15000) hs h2) ?_);rintro _ w ⟨b9,rfl,hb9,hs⟩
  refine .z zpT (.z zg (.nil ?_))
  refine .ret (Fin.bL Tryz.results191 rfl ?_)
  exact ⟨_,rfl,by rw [hb9];exact ⟨fun h=>⟨hb6.1 hb7,h⟩,fun h=>h.2⟩,hs⟩
 ·refine .gFs 2 2 true rfl rfl rfl ?_
  refine .z zpF (.z zg (.nil ?_))
  refine .ret (Fin.bL Tryz.results191 rfl ?_)
  exact ⟨_,rfl,⟨fun h=>(by cases h),fun h=>by rw [hb6.2 h.1] at hb7;cases hb7⟩,hs⟩
theorem nA{bx by_:Nat}{x y:Int}(hs:St H w σ)(hx:Row H bx [I x])(hy:Row H by_ [I y]):
  Cl Tryz.prog 279 [.pointer (some ⟨bx,0,none⟩),.pointer (some ⟨by_,0,none⟩)] w fun u w'=>u= .tuple #[I x,I y]∧St H w' σ:=by
 have hx0:=hx.at 0
 have hy0:=hy.at 0
 refine Cl.o Tryz.func279 Tryz.ntmps279 ag2 ?_
 refine .ai (.z zg (.z zg (.nil ?_)))
 refine .seq (.draw mix rfl hs fun w hs=>?_)
 refine .y 0 rfl hs ae ?_;refine .y 1 rfl hs ae ?_;refine .z 2 rfl zg ?_;refine .z 3 rfl zg ?_;refine .D hs ?_
 refine .ret (Fin.lz Tryz.results279 rfl rfl ?_)
 exact ⟨rfl,hs⟩
def PrE(X Y:List Int)(p:Nat)(H:cu)(z:List Value):Prop:=
 ∃bx by_,z=[.agg #[I ((p/Y.length:Nat):Int),I ((p%Y.length:Nat):Int)],.func (.func 279) #[] #[.pointer (some ⟨bx,0,none⟩),.pointer (some ⟨by_,0,none⟩)]]∧Row H bx [I (gi X (p/Y.length))]∧Row H by_ [I (gi Y (p%Y.length))]
theorem o7{H:cu}{b1 b2:Nat}{v1 v2:Value}{X Y:List Int}(hb1:Row H b1 [v1])(hb2:Row H b2 [v2])(hX:RI H v1 X)(hY:RI H v2 Y)(hXl:X.length≤1000)(hYl:Y.length≤1000):
  CL Tryz.prog 278 [.pointer (some ⟨b1,0,none⟩),.pointer (some ⟨b2,0,none⟩)] H (X.length*Y.length) (PrE X Y):=by
 intro ly II Ix hmI _ hy H0 σb0 σf w hle hI0 hs
 obtain ⟨a1,c1,rfl⟩:=RI.shape hX
 obtain ⟨a2,c2,rfl⟩:=RI.shape hY
 have h01:cellAt H0 b1 0=some (.slice a1 X.length c1):=cellAt.mono (hb1.at 0) hle
 have h02:cellAt H0 b2 0=some (.slice a2 Y.length c2):=cellAt.mono (hb2.at 0) hle
 refine Cl.o Tryz.func278 Tryz.ntmps278 ag3 ?_
 refine .ai (.y hs (zld ak) (.z (cH aa) (.z zm (.nil ?_))))
 refine .for (N:=X.length) (J:=fun i fr w=>fr=[(8,.slice a1 X.length c1),(0,.func (.yield ly) #[] #[]),(1,.pointer (some ⟨b1,0,none⟩)),(2,.pointer (some ⟨b2,0,none⟩))]∧∃H1 σb,HLe H H1∧HLe H0 H1∧II (i*Y.length) H1 σb∧St H1 w (σb++σf)) aj ?_ ?_ ?_
 ·exact .mk ⟨rfl,H0,σb0,hle,HLe.refl _,by rw [Nat.zero_mul];exact hI0,hs⟩
 ·rintro i fr w hi ⟨rfl,H1,σb,hle1,hle0,hI,hs⟩
  refine .block (.ai (.z zm ?_))
  refine .ixY hs (hX.mono hle1) rfl rfl aa af (bu (l:=X) (i:=i) aj) cM ?_;intro b13 o13 hc13
  refine .q hs (aK rfl ae hc13) ?_
  refine .o (.alloc hs bO rfl fun b5 w hs=>?_)
  refine .z zg ?_
  refine .o (.store hs rfl rfl af fun w hs=>?_)
  refine .nil (.ai ?_)
  obtain ⟨H2,hle2,r5,hs⟩:=hs.cI (b:=b5) .here
  have h22:=cellAt.mono h02 (hle0.trans hle2)
  refine .y hs (zld ak) (.z (cH aa) (.z zm (.nil ?_)))
  refine .for (N:=Y.length) (J:=fun k fr w=>fr=[(15,.slice a2 Y.length c2),(4,I (i:Int)),(10,I (i:Int)),(9,I (X.length:Int)),(5,.pointer (some ⟨b5,0,none⟩)),(8,.slice a1 X.length c1),(0,.func (.yield ly) #[] #[]),(1,.pointer (some ⟨b1,0,none⟩)),(2,.pointer (some ⟨b2,0,none⟩))]∧∃H3 σb,HLe H2 H3∧II (i*Y.length+k) H3 σb∧St H3 w (σb++σf)) aj ?_ ?_ ?_
  ·exact .mk ⟨rfl,H2,σb,HLe.refl _,hmI _ _ _ _ hle2 hI,hs⟩
  ·rintro k fr w hk ⟨rfl,H3,σb3,hle3,hI3,hs⟩
   have hle03:=hle0.trans (hle2.trans hle3)
   have hle13:=hle1.trans (hle2.trans hle3)
   refine .block (.ai (.z zm ?_))
   refine .ixY hs (hY.mono hle13) rfl rfl aa af (bu (l:=Y) (i:=k) aj) cM ?_;intro b20 o20 hc20
   refine .q hs (aK rfl ae hc20) ?_
   refine .o (.alloc hs bO rfl fun b7 w hs=>?_)
   refine .z zg ?_
   refine .o (.store hs rfl rfl af fun w hs=>?_)
   refine .nil (.ai (.z zm (.z zm (.z zm ?_))))
   refine .q hs (B4 (vs:=[(0,I (i:Int)),(1,I (k:Int))]) (cells:=[I (i:Int),I (k:Int)]) Tryz.zeroValue90 rfl Tryz.runUnderlying90 af rfl) ?_
   refine .q hs (dx (f:=[]) (c:=[_,_]) rfl rfl) ?_
   obtain ⟨H4,hle4,r7,hs⟩:=hs.cI (b:=b7) .here
   obtain ⟨d1,d2⟩:=Dj (nw:=Y.length) (i:=i) (k:=k) hk
   have hlt:i*Y.length+k<X.length*Y.length:=by
    have:=Nat.mul_le_mul_right Y.length (show i+1≤X.length by omega)
    rw [Nat.add_mul,Nat.one_mul] at this;omega
   have hyd:=hy (i*Y.length+k) hlt [.agg #[I (i:Int),I (k:Int)],.func (.func 279) #[] #[.pointer (some ⟨b5,0,none⟩),.pointer (some ⟨b7,0,none⟩)]] H4 σb3 σf w (hle13.trans hle4) ⟨b5,b7,by rw [d1,d2],by rw [d1];exact r5.mono (hle3.trans hle4),by rw [d2];exact r7⟩ (hmI _ _ _ _ hle4 hI3) hs
   refine .o (.yield rfl rfl hyd ?_);rintro v27 w ⟨H5,σ5,g1,hs,g3⟩
   obtain ⟨bb,rfl,gT,gF⟩:=od g3
   refine .z iO (.nil ?_)
   refine (.cond rfl (fun hc28=>?_) (fun hc28=>?_))
   ·refine .ret (rB (rT (rB (rB (rT (rB (Fin.Eo Tryz.results278 ?_)))))))
    exact ⟨H5,σ5,hle03.trans (hle4.trans g1),hs,.inr (gF (by simpa using hc28))⟩
   ·refine .skip ?_
    refine nB (nT ?_)
    exact .mk ⟨rfl,H5,σ5,hle3.trans (hle4.trans g1),gT (by simpa using hc28),hs⟩
  ·rintro fr w ⟨rfl,H3,σb3,hle3,hI3,hs⟩
   refine nB (nT ?_)
   exact .mk ⟨rfl,H3,σb3,hle1.trans (hle2.trans hle3),hle0.trans (hle2.trans hle3),by rw [Nat.add_mul,Nat.one_mul];exact hI3,hs⟩
 ·rintro fr w ⟨rfl,H1,σb,hle1,hle0,hI,hs⟩
  exact Fin.xk Tryz.results278 ⟨H1,σb,hle0,hs,.inl hI⟩
theorem rm{v1 v2:Value}{X Y:List Int}(hs:St H w σ)(hX:RI H v1 X)(hY:RI H v2 Y)(hXl:X.length≤1000)(hYl:Y.length≤1000):
  Cl Tryz.prog 249 [v1,v2] w fun u w'=>∃H1 b1 b2,HLe H H1∧u= .func (.func 278) #[] #[.pointer (some ⟨b1,0,none⟩),.pointer (some ⟨b2,0,none⟩)]∧CL Tryz.prog 278 [.pointer (some ⟨b1,0,none⟩),.pointer (some ⟨b2,0,none⟩)] H1 (X.length*Y.length) (PrE X Y)∧St H1 w' σ:=by
 obtain ⟨a1,c1,rfl⟩:=RI.shape hX
 obtain ⟨a2,c2,rfl⟩:=RI.shape hY
 refine Cl.o Tryz.func249 Tryz.ntmps249 ag2 ?_
 refine .ai ?_
 refine .bx hs fun b2 w hs=>?_
 refine .bx hs fun b3 w hs=>?_
 refine .z zg (.nil (.ai ?_))
 refine .q hs (dx (f:=[]) (c:=[_,_]) rfl rfl) ?_
 refine .z zg (.nil ?_)
 refine .ret (Fin.bL Tryz.results249 rfl ?_)
 obtain ⟨H1,g1,r1,hs⟩:=hs.cI (b:=b2) cJ
 obtain ⟨H2,g2,r2,hs⟩:=hs.cI (b:=b3) cJ
 exact ⟨H2,b2,b3,g1.trans g2,rfl,o7 (r1.mono g2) r2 (hX.mono (g1.trans g2)) (hY.mono (g1.trans g2)) hXl hYl,hs⟩
set_option maxHeartbeats 1000000 in
theorem sx{v1 v2:Value}{l1 l2:List Int}(hs:St H w σ)(hr1:RI H v1 l1)(hr2:RI H v2 l2)(hp1:eH 9 100000 l1)(hp2:eH 7 15000 l2):
  Cl Tryz.prog 192 [v1,v2] w fun u w'=>∃H1,HLe H H1∧RT H1 u (ln (wts l1) (wts l2) l1.length)∧St H1 w' σ:=by
 obtain ⟨a1,c1,rfl⟩:=RI.shape hr1
 obtain ⟨a2,c2,rfl⟩:=RI.shape hr2
 have hn1:=hp1.many
 have hn2:=hp2.many
 have htw1:=hp1.two
 have htw2:=hp2.two
 have hp2':eH 9 100000 l2:=⟨hp2.two,aj,hp2.low,by have:=hp2.high;omega,hp2.rise⟩
 have hXl:=eu l1
 have hYl:=eu l2
 have hXb:=yd hp1
 have hYb:=yd hp2
 refine Cl.o Tryz.func192 Tryz.ntmps192 ag2 ?_
 refine .ai (.z zg (.nil (.ai (.z zm ?_))))
 refine .o (.call Tryz.call248 rfl (iP hs hr1 hp1) ?_);rintro v13 w ⟨H1,hle1,hX,hs⟩
 refine .z zm ?_
 refine .o (.call Tryz.call248 rfl (iP hs (hr2.mono hle1) hp2') ?_);rintro v15 w ⟨H2,hle2,hY,hs⟩
 replace hX:=hX.mono hle2
 generalize wts l1=X at*
 generalize wts l2=Y at*
 obtain ⟨aX,cX,rfl⟩:=RI.shape hX
 obtain ⟨aY,cY,rfl⟩:=RI.shape hY
 refine .z zg (.z zg (.nil (.ai (.z zm (.z (cH aa) ?_)))))
 refine .o (.DF l1.length hs rfl rfl au Tryz.typeInfo22 rfl aB dZ aj fun b18 w hs=>?_)
 refine .o (.alloc hs Tryz.zeroValue61 rfl fun b7 w hs=>?_)
 refine .o (.store hs rfl rfl Tryz.sizeOf61 fun w hs=>?_)
 refine .nil (.seq (.ai (.z zm (.z zm ?_))))
 refine .o (.call Tryz.call249 rfl (rm hs hX hY aj aj) ?_);rintro _ w ⟨H3,bp1,bp2,hle3,rfl,hit,hs⟩
 have hle03:=hle1.trans (hle2.trans hle3)
 have h0:GrS X Y b18 0 0 H3 [.blk b18 (List.replicate l1.length (.slice none 0 0)),.nul]:=by
  refine .go [] (.slice none 0 0) .nul aj (RLs.nil _) (.nil 1 none) ?_
  rw [hXl]
  obtain ⟨m,hm⟩:∃m,l1.length=m+1:=⟨l1.length - 1,aj⟩
  rw [hm]
  rfl
 refine .nil (.block ?_)
 refine .C2 (gf:=278) (cap:=[.pointer (some ⟨bp1,0,none⟩),.pointer (some ⟨bp2,0,none⟩)]) (N:=X.length*Y.length) (E:=PrE X Y) (σb:= .blk b7 [.slice (some ⟨b18,0,none⟩) l1.length l1.length]::[.blk b18 (List.replicate l1.length (.slice none 0 0)),.nul]) (σf:=σ) (hs.nul.sb) trivial rfl hit Tryz.call278 (fun k H' z ⟨_,_,hz,_⟩=>by rw [hz];rfl) rfl
  (I:=fun p H' σb=>∃σ1,σb= .blk b7 [.slice (some ⟨b18,0,none⟩) l1.length l1.length]::σ1∧GrS X Y b18 (p/Y.length) (p%Y.length) H' σ1) (Ix:=fun _ _ _=>False)
  (fun j _ _ σ g1 ⟨σ1,g2,g3⟩=>⟨σ1,g2,g3.mono g1⟩) (fun _ _ _ _ _ h=>h) ⟨_,rfl,by rw [Nat.zero_div,Nat.zero_mod];exact h0⟩ ?_ ?_ (fun D c H' σb w _ h _=>h.elim)
 ·rintro ly p hp z H4 σb2 σf2 w hle4 ⟨bx,by_,rfl,rx,ry⟩ ⟨σ1,rfl,hG⟩ hs ⟨rr,hrr⟩
  have hnext:=yw (p:=p) (m:=Y.length) aj
  have hkm:=Nat.mod_lt p (show 0<Y.length by omega)
  have hin:p/Y.length<X.length:=Nat.div_lt_of_lt_mul (by rw [Nat.mul_comm];exact hp)
  generalize hi:p/Y.length=i at*
  generalize hk:p%Y.length=k at*
  cases hG with
  |fin us h=>omega
  |go us v en h h1 h2 h3=>
  subst h3
  obtain ⟨av,lv,cv,rfl,hlv⟩:=h2.shape
  have husl:us.length=i:=by rw [h1.1,jy]
  have hb1:=hXb i
  have hb2:=hYb k
  have hpr:=Dc (gi X i) (gi Y k)
  have hprb: -3456000000000≤gi X i*gi Y k∧gi X i*gi Y k≤3456000000000:=kG (A:=4800000) (B:=720000) (by unfold ab at hb1;omega) (by unfold ab at hb2;omega)
  refine .ai ?_
  refine .o (.alloc hs Tryz.zeroValue90 rfl fun b8 w hs=>?_)
  refine .o (.aV (vs:=[_,_]) hs rfl rfl Tryz.sizeOf90 fun w hs=>?_)
  refine .nil (.region (.z zg (.nil ?_)))
  refine nT ?_
  refine ⟨H4,[.blk b8 [I (i:Int),I (k:Int)],.blk b7 [.slice (some ⟨b18,0,none⟩) l1.length l1.length],.blk b18 (us++Value.slice av lv cv::List.replicate (X.length - i - 1) (Value.slice none 0 0)),en],HLe.refl _,hs,?_⟩;rintro w σf4 - hs
  refine .block (.ai (.z zm ?_))
  refine .o (.mr (first:=[]) (cap:=[.pointer (some ⟨bx,0,none⟩),.pointer (some ⟨by_,0,none⟩)]) rfl rfl Tryz.call279 (nA hs rx ry) ?_);rintro _ w ⟨rfl,hs⟩
  refine .z zm (.z zex (.z zex (.z zg (.z zg (.nil ?_)))))
  refine .draw mix rfl hs fun w hs=>?_
  refine .y 0 rfl hs zJ ?_
  refine .z 1 rfl (zia 0 Tryz.runUnderlying90 af) ?_
  refine .y 2 rfl hs ae ?_;refine .y 3 rfl hs zJ ?_
  refine .z 4 rfl (zia 0 Tryz.runUnderlying90 af) ?_
  refine .y 5 rfl hs ae ?_
  refine .z 6 rfl (dS (k:=i) rfl rfl au aB rfl aj) ?_
  refine .load (i:=7) hs rfl aq .none rfl ak ?_ (hv:=by rw [List.getElem?_append_right aj,husl,Nat.sub_self];rfl)
  refine .z 8 rfl zm ?_;refine .z 9 rfl zm ?_;refine .z 10 rfl jV ?_
  refine .E 11 hs ?_
  refine .buildSlice (cells:=[_]) hs cf rfl rfl ?_;intro b40 w hs
  refine .go ?_
  refine .E 12 hs ?_
  refine .append (ys:=Is [gi X i*gi Y k]) hs aZ rfl rfl h2 (.own .here rfl rfl) (dL _) (fun l' h=>by simp at h;omega) ?_;intro v41 en41 w hO hs
  rw [show Is ((vX X Y i).take k)++Is [gi X i*gi Y k]=Is ((vX X Y i).take (k+1)) by rw [wA hkm];simp [Is]] at hO
  obtain ⟨a41,l41,c41,rfl,hl41⟩:=hO.shape
  refine .go ?_
  refine .z 13 rfl (dS (k:=i) rfl rfl au aB rfl aj) ?_
  refine .E 14 hs ?_
  refine .store (c':=us++ .slice a41 l41 c41::List.replicate (X.length - i - 1) (.slice none 0 0)) hs rfl rfl aB ?_ cJ (by simp;omega) (by rw [List.set_append_right _ _ aj,husl,Nat.sub_self];rfl);intro w hs
  refine .go ?_
  refine .D hs ?_
  refine nB ?_
  rcases hnext with ⟨g1,g2,g3⟩|⟨g1,g2,g3⟩
  ·exact ⟨H4,[.blk b7 [.slice (some ⟨b18,0,none⟩) l1.length l1.length],.blk b18 (us++ .slice a41 l41 c41::List.replicate (X.length - i - 1) (.slice none 0 0)),en41],HLe.refl _,(hs.sb:St H4 w (.blk b7 _:: .blk b18 _::en41::σf4)),_,rfl,by rw [g2,g3];exact .go us _ en41 h h1 hO rfl⟩
  ·obtain ⟨H5,hle5,hR,hs⟩:=cn.cN hO (by rw [List.length_take,jj];omega) hs cJ
   rw [List.take_of_length_le (by rw [jj];omega)] at hR
   have h1':RLs H5 (us++[.slice a41 l41 c41]) (ln X Y (i+1)):=by rw [uA];exact (h1.mono hle5).snoc hR
   by_cases e:i+1<X.length
   ·refine ⟨H5,[.blk b7 [.slice (some ⟨b18,0,none⟩) l1.length l1.length],.blk b18 (us++ .slice a41 l41 c41::List.replicate (X.length - i - 1) (.slice none 0 0)),.nul],hle5,(hs.nul.sb:St H5 w (.blk b7 _:: .blk b18 _:: .nul::σf4)),_,rfl,?_⟩
    rw [g2,g3]
    refine .go (us++[.slice a41 l41 c41]) (.slice none 0 0) .nul e h1' (.nil 1 none) ?_
    obtain ⟨m,hm⟩:∃m,X.length - i - 1=m+1:=⟨X.length - i - 2,aj⟩
    rw [hm,show X.length - (i+1) - 1=m by omega,List.append_assoc]
    rfl
   ·refine ⟨H5,[.blk b7 [.slice (some ⟨b18,0,none⟩) l1.length l1.length],.blk b18 (us++ .slice a41 l41 c41::List.replicate (X.length - i - 1) (.slice none 0 0))],hle5,(hs.sb:St H5 w (.blk b7 _:: .blk b18 _::σf4)),_,rfl,?_⟩
    rw [g2,g3]
    refine .fin (us++[.slice a41 l41 c41]) aj h1' ?_
    rw [show X.length - i - 1=0 by omega]
    rfl
 ·rintro D H4 σb2 w hle4 ⟨σ1,rfl,hG⟩ hs
  rw [Nat.mul_div_cancel _ aj,Nat.mul_mod_left] at hG
  cases hG with
  |go us v en h=>omega
  |fin us h h1 h3=>
  subst h3
  replace hs:St H4 w (.obj D (.deferred (some [])):: .blk b7 [.slice (some ⟨b18,0,none⟩) l1.length l1.length]:: .blk b18 us::σ):=hs
  have husl:us.length=l1.length:=by rw [h1.1,jy,hXl]
  refine nB (nT ?_)
  refine .ai (.y hs (zld zJ) (.z zg (.nil ?_)))
  refine .ret ?_
  obtain ⟨H5,hle5,hR,hs⟩:=h1.cI (v:= .slice (some ⟨b18,0,none⟩) l1.length l1.length) (en:= .blk b18 us) (.full (by simp [husl])) aj hs cJ
  rw [hXl] at hR
  exact Fin.gO [D] [] hs fun w hs=>⟨_,results1 Tryz.results192 rfl,H5,hle03.trans (hle4.trans hle5),hR,hs.out⟩
theorem mA{v1 v2:Value}{l1 l2:List Int}(hs:St H w σ)(hr1:RI H v1 l1)(hr2:RI H v2 l2):
  Cl Tryz.prog 104 [v1,v2] w fun u w'=>∃H1 vo e,HLe H H1∧u= .tuple #[vo,I e]∧(eH 9 100000 l1∧eH 7 15000 l2→e=0∧RT H1 vo (ln (wts l1) (wts l2) l1.length))∧(e=0→eH 9 100000 l1∧eH 7 15000 l2)∧St H1 w' σ:=by
 refine Cl.o Tryz.func104 Tryz.ntmps104 ag2 ?_
 refine .ai (.z zg (.z zg (.nil (.seq (.ai (.z zm (.z zm ?_)))))))
 refine .o (.call Tryz.call191 rfl (qn hs hr1 hr2) ?_);rintro _ w ⟨b8,rfl,hb8,hs⟩
 refine .z iO (.nil ?_)
 refine (.cond rfl (fun hc9=>?_) (fun hc9=>?_))
 ·refine .ai (.z zg (.z zg (.nil ?_)))
  refine .ret (rT (Fin.lz Tryz.results104 rfl rfl ?_))
  exact ⟨H,_,_,HLe.refl H,rfl,fun h=>(by rw [hb8.2 h] at hc9;cases hc9),fun h=>aj,hs⟩
 ·refine .skip ?_
  refine nT ?_
  refine .ai (.z zm (.z zm ?_))
  have hp:=hb8.1 (by simpa using hc9)
  refine .o (.call Tryz.call192 rfl (sx hs hr1 hr2 hp.1 hp.2) ?_);rintro v12 w ⟨H1,hle1,hR,hs⟩
  refine .z zg (.z zg (.nil ?_))
  refine .ret (Fin.lz Tryz.results104 rfl rfl ?_)
  exact ⟨H1,_,_,hle1,rfl,fun _=>⟨rfl,hR⟩,fun _=>hp,hs⟩
theorem EH{many:Nat}{most:Int}{l:List Int}(h2:2≤l.length)(hm:l.length≤many)(h:∀j<l.length,0≤gi l j∧gi l j≤most∧(0<j→gi l (j - 1)<gi l j)):eH many most l:=
 ⟨h2,hm,(h 0 aj).1,(h (l.length - 1) aj).2.1,fun i hi=>by have:=(h (i+1) hi).2.2 aj;rwa [Nat.add_sub_cancel] at this⟩
theorem qV{many:Nat}{most:Int}{l:List Int}(h:eH many most l){j:Nat}(hj:j<l.length):0≤gi l j∧gi l j≤most∧(0<j→gi l (j - 1)<gi l j):=
 ⟨(h.bd hj).1,(h.bd hj).2,fun h0=>by have:=h.rise (j - 1) aj;rwa [Nat.sub_add_cancel h0] at this⟩
theorem jm{v:Value}{l:List Int}{many:Nat}{most:Int}(hs:St H w σ)(hr:RI H v l)(hmany:many≤1000):
  Cl Tryz.prog 168 [v,I many,I most] w fun u w'=>∃b:Bool,u= .bool b∧(b=true↔eH many most l)∧St H w' σ:=by
 obtain ⟨a,c,rfl⟩:=RI.shape hr
 have hlen:=(RI.len hr).2.2
 refine Cl.o Tryz.func168 Tryz.ntmps168 ag3 ?_
 refine .ai (.z zg (.nil (.seq (.ai (.z zm (.z (cH aa) (.z fj (.z zm ?_))))))))
 refine .iq (t':=11) rfl (fun hb11=>?_) (fun hb11=>?_)
 ·refine .gFs 4 3 false rfl rfl rfl ?_
  refine .z zpT (.nil ?_)
  refine (.cT ?_)
  refine .ai (.z zg (.nil ?_))
  refine .ret (rT (Fin.bL rU rfl ?_))
  exact ⟨false,rfl,⟨fun h=>(by cases h),fun h=>by have:=h.two;omega⟩,hs⟩
 ·refine .gT rfl rfl ?_
  refine .z zm ?_
  refine .gT rfl rfl ?_
  refine .z (cH aa) ?_
  refine .gT rfl rfl ?_
  refine .z zm ?_
  refine .gT rfl rfl ?_
  refine .z kT (.z zpF (.nil ?_))
  refine (.bJ rfl (fun hc16=>?_) (fun hc16=>?_))
  ·refine .ai (.z zg (.nil ?_))
   refine .ret (rT (Fin.bL rU rfl ?_))
   exact ⟨false,rfl,⟨fun h=>(by cases h),fun h=>by have:=h.many;omega⟩,hs⟩
  ·refine .skip ?_
   refine nT ?_
   refine .seq (.ai (.z zg (.nil (.block ?_))))
   refine .loop (fun k:Nat=>⟨52,[],[(7,I (k:Int)),(0,.slice a l.length c),(1,I (many:Int)),(2,I most)]⟩)
    (fun k w=>k≤l.length∧(∀j<k,0≤gi l j∧gi l j≤most∧(0<j→gi l (j - 1)<gi l j))∧St H w σ) (fun k=>l.length - k) 0 (.bX rfl bQ aU)
    ⟨Nat.zero_le _,fun j hj=>by omega,hs⟩ ?_
   rintro k w ⟨hk,hno,hs⟩
   refine .seq (.ai (.z zm (.z zm (.z (cH aa) (.z fj (.nil ?_))))))
   refine (.bJ rfl (fun hc20=>?_) (fun hc20=>?_))
   ·refine .skip ?_
    refine nT ?_
    refine .seq (.block ?_)
    refine .seq (.draw mix rfl hs fun w hs=>?_)
    refine .z 0 rfl zm ?_;refine .z 1 rfl zm ?_
    refine .ixX (enc:=fun x=>[I x]) (i:=2) hs rfl aq .none hr rfl rfl aa af (bu (l:=l) (i:=k) aj) cM ?_;intro b25 o25 hc25;replace hc25:=bH.one hc25
    refine .r (i:=3) hs rfl aq .none (aK rfl ae hc25) ?_
    refine .z 4 rfl fj ?_;refine .z 5 rfl zm ?_
    refine .iq (t':=28) rfl (fun hb28=>?_) (fun hb28=>?_)
    ·refine .qF (i:=6) rfl aq rfl rfl ?_
     refine .qF (i:=7) rfl aq rfl rfl ?_
     refine .qF (i:=8) rfl aq rfl rfl ?_
     refine .qF (i:=9) rfl aq rfl rfl ?_
     refine .qF (i:=10) rfl aq rfl rfl ?_
     refine .qF (i:=11) rfl aq rfl rfl ?_
     refine .z 12 rfl zpT ?_;refine .z 13 rfl zm ?_
     refine .qF (i:=14) rfl aq rfl rfl ?_
     refine .qF (i:=15) rfl aq rfl rfl ?_
     refine .qF (i:=16) rfl aq rfl rfl ?_
     refine .qF (i:=17) rfl aq rfl rfl ?_
     refine .qF (i:=18) rfl aq rfl rfl ?_
     refine .qF (i:=19) rfl aq rfl rfl ?_
     refine .qF (i:=20) rfl aq rfl rfl ?_
     refine .qF (i:=21) rfl aq rfl rfl ?_
     refine .qF (i:=22) rfl aq rfl rfl ?_
     refine .qF (i:=23) rfl aq rfl rfl ?_
     refine .qF (i:=24) rfl aq rfl rfl ?_
     refine .qF (i:=25) rfl aq rfl rfl ?_
     refine .qF (i:=26) rfl aq rfl rfl ?_
     refine .qF (i:=27) rfl aq rfl rfl ?_
     refine .z 28 rfl zpT ?_;refine .D hs ?_
     refine (.cT ?_)
     refine .ai (.z zg (.nil ?_))
     refine .ret (rB (rT (rT (rB (rT (Fin.bL rU rfl ?_))))))
     exact ⟨false,rfl,⟨fun h=>(by cases h),fun h=>by have:=qV h (j:=k) aj;omega⟩,hs⟩
    ·refine .z 6 rfl zm ?_;refine .z 7 rfl zm ?_
     refine .ixX (enc:=fun x=>[I x]) (i:=8) hs rfl aq (.some rfl rfl) hr rfl rfl aa af (bu (l:=l) (i:=k) aj) cM ?_;intro b31 o31 hc31;replace hc31:=bH.one hc31
     refine .r (i:=9) hs rfl aq (.some rfl rfl) (aK rfl ae hc31) ?_
     refine .z 10 rfl zm ?_;refine .z 11 rfl kT ?_;refine .z 12 rfl zpF ?_;refine .z 13 rfl zm ?_
     refine .iq (t':=36) rfl (fun hb36=>?_) (fun hb36=>?_)
     ·refine .qF (i:=14) rfl aq rfl rfl ?_
      refine .qF (i:=15) rfl aq rfl rfl ?_
      refine .qF (i:=16) rfl aq rfl rfl ?_
      refine .qF (i:=17) rfl aq rfl rfl ?_
      refine .qF (i:=18) rfl aq rfl rfl ?_
      refine .qF (i:=19) rfl aq rfl rfl ?_
      refine .qF (i:=20) rfl aq rfl rfl ?_
      refine .qF (i:=21) rfl aq rfl rfl ?_
      refine .qF (i:=22) rfl aq rfl rfl ?_
      refine .qF (i:=23) rfl aq rfl rfl ?_
      refine .qF (i:=24) rfl aq rfl rfl ?_
      refine .qF (i:=25) rfl aq rfl rfl ?_
      refine .qF (i:=26) rfl aq rfl rfl ?_
      refine .qF (i:=27) rfl aq rfl rfl ?_
      refine .z 28 rfl zpT ?_;refine .D hs ?_
      refine (.cT ?_)
      refine .ai (.z zg (.nil ?_))
      refine .ret (rB (rT (rT (rB (rT (Fin.bL rU rfl ?_))))))
      exact ⟨false,rfl,⟨fun h=>(by cases h),fun h=>by have:=qV h (j:=k) aj;omega⟩,hs⟩
     ·refine .z 14 rfl zm ?_;refine .z 15 rfl kT ?_;refine .z 16 rfl zm ?_
      refine .iq (t':=39) rfl (fun hb39=>?_) (fun hb39=>?_)
      ·refine .z 17 rfl zm ?_;refine .z 18 rfl zm ?_;refine .z 19 rfl ir ?_
       refine .ixX (enc:=fun x=>[I x]) (i:=20) hs rfl aq (.some rfl rfl) hr rfl rfl aa af (bu (l:=l) (i:=(k-1)) aj) cM ?_;intro b43 o43 hc43;replace hc43:=bH.one hc43
       refine .r (i:=21) hs rfl aq (.some rfl rfl) (aK rfl ae hc43) ?_
       refine .z 22 rfl zm ?_;refine .z 23 rfl zm ?_
       refine .ixX (enc:=fun x=>[I x]) (i:=24) hs rfl aq (.some rfl rfl) hr rfl rfl aa af (bu (l:=l) (i:=k) aj) cM ?_;intro b47 o47 hc47;replace hc47:=bH.one hc47
       refine .r (i:=25) hs rfl aq (.some rfl rfl) (aK rfl ae hc47) ?_
       refine .z 26 rfl xo ?_;refine .z 27 rfl zpT ?_;refine .z 28 rfl zpF ?_;refine .D hs ?_
       refine (.bJ rfl (fun hc51=>?_) (fun hc51=>?_))
       ·refine .ai (.z zg (.nil ?_))
        refine .ret (rB (rT (rT (rB (rT (Fin.bL rU rfl ?_))))))
        exact ⟨false,rfl,⟨fun h=>(by cases h),fun h=>by have:=qV h (j:=k) aj;omega⟩,hs⟩
       ·refine .skip ?_
        refine nB (nT ?_)
        refine .region (.z zm (.z cA (.z zg (.nil ?_))))
        refine nT ?_
        exact ⟨k+1,.bX rfl bQ aU,⟨aj,fun j hj=>by
         by_cases e:j=k
         ·subst e;exact ⟨aj,aj,fun _=>by omega⟩
         ·exact hno j aj,hs⟩,aj⟩
      ·refine .qF (i:=17) rfl aq rfl rfl ?_
       refine .qF (i:=18) rfl aq rfl rfl ?_
       refine .qF (i:=19) rfl aq rfl rfl ?_
       refine .qF (i:=20) rfl aq rfl rfl ?_
       refine .qF (i:=21) rfl aq rfl rfl ?_
       refine .qF (i:=22) rfl aq rfl rfl ?_
       refine .qF (i:=23) rfl aq rfl rfl ?_
       refine .qF (i:=24) rfl aq rfl rfl ?_
       refine .qF (i:=25) rfl aq rfl rfl ?_
       refine .qF (i:=26) rfl aq rfl rfl ?_
       refine .z 27 rfl zpF ?_;refine .z 28 rfl zpF ?_;refine .D hs ?_
       refine (.cF ?_)
       refine .skip ?_
       refine nB (nT ?_)
       refine .region (.z zm (.z cA (.z zg (.nil ?_))))
       refine nT ?_
       exact ⟨k+1,.bX rfl bQ aU,⟨aj,fun j hj=>by
        by_cases e:j=k
        ·subst e;exact ⟨aj,aj,fun _=>by omega⟩
        ·exact hno j aj,hs⟩,aj⟩
   ·refine .exit ?_
    refine xT (xT (xB (nT ?_)))
    refine .ai (.z zg (.nil ?_))
    refine .ret (Fin.bL rU rfl ?_)
    exact ⟨true,rfl,⟨fun _=>EH aj aj fun j hj=>hno j aj,fun _=>rfl⟩,hs⟩
theorem gw{v:Value}{l:List Int}(hs:St H w σ)(hr:RI H v l):
  Cl Tryz.prog 84 [v] w fun u w'=>∃e,u=I e∧((eH 9 100000 l∧e=0)∨(¬eH 9 100000 l∧e≠0))∧St H w' σ:=by
 refine Cl.o Tryz.func84 Tryz.ntmps84 ag1 ?_
 refine .ai (.z zg (.nil (.seq (.ai (.z zm ?_)))))
 refine .o (.call Tryz.call168 rfl (jm (many:=9) (most:=100000) hs hr aj) ?_);rintro _ w ⟨b4,rfl,hb4,hs⟩
 refine .z iO (.nil ?_)
 refine (.cond rfl (fun hc5=>?_) (fun hc5=>?_))
 ·refine .ai (.z zg (.nil ?_))
  refine .ret (rT (Fin.bL Tryz.results84 rfl ?_))
  exact ⟨_,rfl,.inr ⟨fun h=>by simp [hb4.2 h] at hc5,by decide⟩,hs⟩
 ·refine .skip ?_
  refine nT ?_
  refine .ai (.z zg (.nil ?_))
  refine .ret (Fin.bL Tryz.results84 rfl ?_)
  exact ⟨_,rfl,.inl ⟨hb4.1 (by simpa using hc5),rfl⟩,hs⟩
theorem CX{a b k:Int}(hk:1≤k∧k≤3)(h:a*k=b∨b*k=a)(hno:∀j:Int,1≤j→j<k→¬(a*j=b∨b*j=a)):tms a b=k:=by
 have h3:k=1∨k=2∨k=3:=by omega
 unfold tms
 rcases h3 with rfl|rfl|rfl
 ·rw [if_pos aj]
 ·have:=hno 1 aj aj
  rw [if_neg aj,if_pos h]
 ·have:=hno 1 aj aj
  have:=hno 2 aj aj
  rw [if_neg aj,if_neg this,if_pos h]
theorem El{a b:Int}(hno:∀j:Int,1≤j→j<4→¬(a*j=b∨b*j=a)):tms a b=0:=by
 have:=hno 1 aj aj
 have h2:=hno 2 aj aj
 have h3:=hno 3 aj aj
 unfold tms
 rw [if_neg aj,if_neg h2,if_neg h3]
theorem lX{a b:Int}(hs:St H w σ)(ha:0≤a∧a≤100000)(hb:0≤b∧b≤100000):
  Cl Tryz.prog 281 [I a,I b] w fun u w'=>u=I (tms a b)∧St H w' σ:=by
 refine Cl.o Tryz.func281 Tryz.ntmps281 ag2 ?_
 refine .ai (.z zg (.nil (.seq (.ai (.z zg (.nil (.block ?_)))))))
 refine .loop (fun k:Nat=>⟨23,[],[(5,I (k:Int)),(0,I a),(1,I b)]⟩)
  (fun k w=>1≤k∧k≤4∧(∀j:Int,1≤j→j<k→¬(a*j=b∨b*j=a))∧St H w σ) (fun k=>4 - k) 1 (.bX rfl bQ aU)
  ⟨aj,aj,fun j h1 h2=>by omega,hs⟩ ?_
 rintro k w ⟨hk1,hk4,hno,hs⟩
 have hba:=kG (a:=a) (b:=(k:Int)) (A:=100000) (B:=4) aj aj
 have hbb:=kG (a:=b) (b:=(k:Int)) (A:=100000) (B:=4) aj aj
 refine .seq (.ai (.z zm (.z wi (.nil ?_))))
 refine (.bJ rfl (fun hc7=>?_) (fun hc7=>?_))
 ·refine .skip ?_
  refine nT ?_
  refine .seq (.block (.ai (.z zm (.z zm (.z jV (.z zm (.z fL (.z zm ?_))))))))
  refine .iq (t':=15) rfl (fun hb15=>?_) (fun hb15=>?_)
  ·refine .gFs 5 5 false rfl rfl rfl ?_
   refine .z zpT (.nil ?_)
   refine (.cT ?_)
   refine .ai (.z zm (.z zg (.nil ?_)))
   refine .ret (rB (rT (rT (rB (rT (Fin.bL Tryz.results281 rfl ?_))))))
   exact ⟨by rw [CX ⟨aj,aj⟩ (.inl hb15) hno],hs⟩
  ·refine .gT rfl rfl ?_
   refine .z zm ?_
   refine .gT rfl rfl ?_
   refine .z zm ?_
   refine .gT rfl rfl ?_
   refine .z jV ?_
   refine .gT rfl rfl ?_
   refine .z zm ?_
   refine .gT rfl rfl ?_
   refine .z fL (.z zpF (.nil ?_))
   refine (.bJ rfl (fun hc21=>?_) (fun hc21=>?_))
   ·refine .ai (.z zm (.z zg (.nil ?_)))
    refine .ret (rB (rT (rT (rB (rT (Fin.bL Tryz.results281 rfl ?_))))))
    exact ⟨by rw [CX ⟨aj,aj⟩ (.inr hc21) hno],hs⟩
   ·refine .skip ?_
    refine nB (nT ?_)
    refine .region (.z zm (.z cA (.z zg (.nil ?_))))
    refine nT ?_
    exact ⟨k+1,.bX rfl bQ aU,⟨aj,aj,fun j h1 h2=>by
     by_cases e:j=(k:Int)
     ·subst e;omega
     ·exact hno j h1 aj,hs⟩,aj⟩
 ·refine .exit ?_
  refine xT (xT (xB (nT ?_)))
  refine .ai (.z zg (.nil ?_))
  refine .ret (Fin.bL Tryz.results281 rfl ?_)
  obtain rfl:k=4:=by omega
  exact ⟨by rw [El hno],hs⟩
def Grp.c(g:Grp):List Value:=[I (g.at_:Int),I (g.n:Int)]
def CM(l:List Grp):List Value:=(l.map Grp.c).flatten
theorem ya(a b:List Grp):CM (a++b)=CM a++CM b:=by simp [CM]
theorem tu:∀l:List Grp,(CM l).length=l.length*2
 |[]=>rfl
 |g::l=>by have:=tu l;simp only [CM,List.map_cons,List.flatten_cons,List.length_append,List.length_cons] at this ⊢;rw [this];simp [Grp.c];omega
set_option maxHeartbeats 1000000 in
theorem qD{v:Value}{l:List Int}(hs:St H w σ)(hr:RI H v l)(hp:eH 9 100000 l):
  Cl Tryz.prog 280 [v] w fun u w'=>∃H1,HLe H H1∧RS H1 2 u ((lk l).map Grp.c)∧St H1 w' σ:=by
 obtain ⟨a,c,rfl⟩:=RI.shape hr
 have hlen:=hp.many
 have hgl:(lk l).length≤9:=by have:=kH l l.length 0;unfold lk;omega
 refine Cl.o Tryz.func280 Tryz.ntmps280 ag1 ?_
 refine .ai (.z zg (.nil (.ai (.z zg (.nil (.ai (.z zg (.nil (.seq ?_)))))))))
 refine .block ?_
 refine .loop (fun p:Nat×Value=>⟨51,[],[(4,I (p.1:Int)),(3,p.2),(0,.slice a l.length c)]⟩)
  (fun p w=>p.1≤l.length∧∃j en,j≤(lk l).length∧(lk l).drop j=lZ l p.1∧cn 2 p.2 (CM ((lk l).take j)) en∧St H w (en::σ)) (fun p=>l.length - p.1) (0,.slice none 0 0) aU
  ⟨Nat.zero_le _,0,_,Nat.zero_le _,rfl,.nil 2 none,hs.nul⟩ ?_
 rintro ⟨i,vo⟩ w ⟨hil,j,en,hj,hd,hO,hs⟩
 dsimp only at hil hd hO ⊢
 have htl:=List.length_take_le j (lk l)
 refine .seq (.ai (.z zm (.z cA (.z zm (.z (cH aa) (.z fj (.nil ?_)))))))
 refine (.bJ rfl (fun hc10=>?_) (fun hc10=>?_))
 ·refine .skip ?_
  refine nT ?_
  refine .block (.ai (.z zg (.nil ?_)))
  refine .cut (fun fs w=>jU fs ⟨51,[],[(5,I (((if eA l i then 2 else 1:Nat)):Int)),(4,I (i:Int)),(3,vo),(0,.slice a l.length c)]⟩∧St H w (en::σ)) ?_ ?_
  ·refine .seq (.draw mix rfl hs fun w hs=>?_)
   refine .z 0 rfl zm ?_;refine .z 1 rfl cA ?_;refine .z 2 rfl zm ?_;refine .z 3 rfl (cH aa) ?_;refine .z 4 rfl fj ?_;refine .z 5 rfl zm ?_
   refine .iq (t':=16) rfl (fun hb16=>?_) (fun hb16=>?_)
   ·refine .z 6 rfl zm ?_;refine .z 7 rfl zm ?_;refine .z 8 rfl cA ?_
    have r1:=hp.rise i aj
    have r2:gi l (i+1)<gi l (i+2):=hp.rise (i+1) aj
    have q1:=hp.bd (i:=i) aj
    have q2:=hp.bd (i:=i+2) aj
    refine .ixX (enc:=fun x=>[I x]) (i:=9) hs rfl aq (.some rfl rfl) hr rfl rfl aa af (bu (l:=l) (i:=(i+1)) aj) cM ?_;intro b20 o20 hc20;replace hc20:=bH.one hc20
    refine .r (i:=10) hs rfl aq (.some rfl rfl) (aK rfl ae hc20) ?_
    refine .z 11 rfl zm ?_;refine .z 12 rfl zm ?_
    refine .ixX (enc:=fun x=>[I x]) (i:=13) hs rfl aq (.some rfl rfl) hr rfl rfl aa af (bu (l:=l) (i:=i) aj) cM ?_;intro b24 o24 hc24;replace hc24:=bH.one hc24
    refine .r (i:=14) hs rfl aq (.some rfl rfl) (aK rfl ae hc24) ?_
    refine .z 15 rfl ir ?_;refine .z 16 rfl zm ?_;refine .z 17 rfl zm ?_;refine .z 18 rfl cA ?_
    refine .ixX (enc:=fun x=>[I x]) (i:=19) hs rfl aq (.some rfl rfl) hr rfl rfl aa af (bu (l:=l) (i:=(i+2)) aj) cM ?_;intro b30 o30 hc30;replace hc30:=bH.one hc30
    refine .r (i:=20) hs rfl aq (.some rfl rfl) (aK rfl ae hc30) ?_
    refine .z 21 rfl zm ?_;refine .z 22 rfl zm ?_;refine .z 23 rfl cA ?_
    refine .ixX (enc:=fun x=>[I x]) (i:=24) hs rfl aq (.some rfl rfl) hr rfl rfl aa af (bu (l:=l) (i:=(i+1)) aj) cM ?_;intro b35 o35 hc35;replace hc35:=bH.one hc35
    refine .r (i:=25) hs rfl aq (.some rfl rfl) (aK rfl ae hc35) ?_
    refine .z 26 rfl ir ?_
    refine .E 27 hs ?_
    refine .call Tryz.call281 rfl (lX hs aj aj) ?_;rintro _ w ⟨rfl,hs⟩
    refine .go ?_
    refine .z 28 rfl kT ?_;refine .z 29 rfl zpT ?_;refine .D hs ?_
    refine (.bJ rfl (fun hc40=>?_) (fun hc40=>?_))
    ·refine .region (.z zg (.nil ?_))
     refine nT ?_
     have e:eA l i=true:=by simp [eA];omega
     rw [e];exact ⟨aU,hs⟩
    ·refine .skip ?_
     refine nT ?_
     have e:eA l i=false:=by simp [eA];omega
     rw [e];exact ⟨aU,hs⟩
   ·refine .qF (i:=6) rfl aq rfl rfl ?_
    refine .qF (i:=7) rfl aq rfl rfl ?_
    refine .qF (i:=8) rfl aq rfl rfl ?_
    refine .qF (i:=9) rfl aq rfl rfl ?_
    refine .qF (i:=10) rfl aq rfl rfl ?_
    refine .qF (i:=11) rfl aq rfl rfl ?_
    refine .qF (i:=12) rfl aq rfl rfl ?_
    refine .qF (i:=13) rfl aq rfl rfl ?_
    refine .qF (i:=14) rfl aq rfl rfl ?_
    refine .qF (i:=15) rfl aq rfl rfl ?_
    refine .qF (i:=16) rfl aq rfl rfl ?_
    refine .qF (i:=17) rfl aq rfl rfl ?_
    refine .qF (i:=18) rfl aq rfl rfl ?_
    refine .qF (i:=19) rfl aq rfl rfl ?_
    refine .qF (i:=20) rfl aq rfl rfl ?_
    refine .qF (i:=21) rfl aq rfl rfl ?_
    refine .qF (i:=22) rfl aq rfl rfl ?_
    refine .qF (i:=23) rfl aq rfl rfl ?_
    refine .qF (i:=24) rfl aq rfl rfl ?_
    refine .qF (i:=25) rfl aq rfl rfl ?_
    refine .qF (i:=26) rfl aq rfl rfl ?_
    refine .qF (i:=27) rfl aq rfl rfl ?_
    refine .qF (i:=28) rfl aq rfl rfl ?_
    refine .z 29 rfl zpF ?_;refine .D hs ?_
    refine (.cF ?_)
    refine .skip ?_
    refine nT ?_
    have e:eA l i=false:=by simp [eA];omega
    rw [e];exact ⟨aU,hs⟩
  ·rintro fs w ⟨hfs,hs⟩
   refine WE.sub ?_ hfs
   have hgo:=te (l:=l) (i:=i) aj
   rw [hgo] at hd
   have hjl:j<(lk l).length:=by
    have:=congrArg List.length hd
    simp at this;omega
   have hgj:(lk l)[j]? =some ⟨i,eA l i⟩:=by
    rw [List.drop_eq_getElem_cons hjl] at hd
    rw [List.getElem?_eq_getElem hjl,(List.cons.inj hd).1]
   have hdj:(lk l).drop (j+1)=lZ l (i+(if eA l i then 2 else 1)):=by
    rw [List.drop_eq_getElem_cons hjl] at hd
    exact (List.cons.inj hd).2
   have hn12:(if eA l i then 2 else 1:Nat)=1∨(if eA l i then 2 else 1:Nat)=2:=by split<;>simp
   have hgc:Grp.c ⟨i,eA l i⟩=[I (i:Int),I (((if eA l i then 2 else 1:Nat)):Int)]:=rfl
   generalize (if eA l i then 2 else 1:Nat)=n at*
   refine .ai (.z zm (.z zm (.z zm (.z (zbd [_,_] qd) ?_))))
   refine .o (.buildSlice (cells:=[_,_]) hs qa rfl rfl fun b45 w hs=>?_)
   refine .o (.append (ys:=[I (i:Int),I (n:Int)]) hs kq rfl rfl hO (.own .here rfl rfl) (by simp [Value.oneCell']) (fun l' h=>by rw [tu] at h;omega) ?_);intro v46 en46 w hO2 hs
   rw [←hgc,show Grp.c ⟨i,eA l i⟩=CM [⟨i,eA l i⟩] by simp [CM],←ya,←cB hgj] at hO2
   refine .z zg (.nil (.region (.z zm (.z zm (.z cA (.z zg (.nil ?_)))))))
   refine nB (nT ?_)
   exact ⟨(i+n,v46),.bX rfl bQ aU,⟨by dsimp only;omega,j+1,_,hjl,hdj,hO2,hs.sb⟩,by dsimp only;omega⟩
 ·refine .exit ?_
  refine xT (xT (xB (nT ?_)))
  refine .ai (.z zm (.z zg (.nil ?_)))
  refine .ret (Fin.bL Tryz.results280 rfl ?_)
  rw [qM aj] at hd
  have:(lk l).length≤j:=by simpa using hd
  obtain rfl:j=(lk l).length:=by omega
  rw [List.take_length] at hO
  obtain ⟨H1,g1,r1,hs⟩:=cn.cI (m:=2) (cs:=(lk l).map Grp.c) hO (fun c hc=>by simp only [List.mem_map] at hc;obtain ⟨x,_,rfl⟩:=hc;rfl) aj (by rw [List.length_map];omega) hs .here
  exact ⟨H1,g1,r1,hs⟩
theorem pU{l:List Int}{i j:Nat}(h:i≠j)(x:Int):gi (l.set i x) j=gi l j:=by
 simp [gi,List.getD,h]
set_option maxHeartbeats 1000000 in
theorem iS{v:Value}{l:List Int}(hs:St H w σ)(hr:RI H v l)(hp:eH 9 100000 l):
  Cl Tryz.prog 251 [v] w fun u w'=>∃H1,HLe H H1∧RI H1 u (wts l)∧St H1 w' σ:=by
 obtain ⟨a,c,rfl⟩:=RI.shape hr
 have hln:=hp.many
 have hgl:(lk l).length≤9:=by have:=kH l l.length 0;unfold lk;omega
 refine Cl.o Tryz.func251 Tryz.ntmps251 ag1 ?_
 refine .ai (.z zg (.nil (.ai (.z zm (.z (cH aa) ?_)))))
 refine .o (.pR l.length hs rfl rfl aa dY rfl af bO aj fun b16 w hs=>?_)
 replace hs:St H w (.blk b16 (Is (su l 0))::σ):=hs
 refine .z zg (.nil (.ai (.z zm ?_)))
 refine .o (.call Tryz.call280 rfl (qD hs hr hp) ?_);rintro v18 w ⟨H1,hle1,hG,hs⟩
 have hrr:=hr.mono hle1
 obtain ⟨ag,cg,rfl⟩:=RS.shape hG
 rw [List.length_map] at hG ⊢
 refine .z zg (.nil (.seq (.ai (.z zg (.nil (.block ?_))))))
 refine .loop (fun k:Nat=>⟨133,[],[(5,I (k:Int)),(4,.slice ag (lk l).length cg),(3,.slice (some ⟨b16,0,none⟩) l.length l.length),(0,.slice a l.length c)]⟩)
  (fun k w=>k≤(lk l).length∧St H1 w (.blk b16 (Is (su l k))::σ)) (fun k=>(lk l).length - k) 0 (.bX rfl bQ aU)
  ⟨Nat.zero_le _,hs⟩ ?_
 rintro k w ⟨hk,hs⟩
 refine .seq (.ai (.z zm (.z zm (.z (cH j6) (.z fj (.nil ?_))))))
 refine (.bJ rfl (fun hc22=>?_) (fun hc22=>?_))
 ·refine .skip ?_
  refine nT ?_
  refine .seq (.block (.ai (.z zm (.z zm ?_))))
  have hjl:k<(lk l).length:=by omega
  obtain ⟨g,hg⟩:=nth hjl
  obtain ⟨i1,i2,i3,i4,i5⟩:=tf hp (List.mem_of_getElem? hg)
  have hK:=ss hg
  have hKl:=lB l k
  have hKz:=ql hp k aj
  have z0:=ig (su l k) (v:=g.at_) (n:=l.length) aj
  have z1:=ig (su l k) (v:=g.at_+1) (n:=l.length) aj
  have hq0:=hp.bd (i:=g.at_) aj
  have hq1:=hp.bd (i:=g.at_+1) aj
  have hgm:((lk l).map Grp.c)[k]? =some (Grp.c g):=by rw [List.getElem?_map,hg];rfl
  generalize su l k=W at*
  have e1:∀x,gi (W.set g.at_ x) (g.at_+1)=gi W (g.at_+1):=fun x=>pU aj x
  generalize hA:gi l (g.at_+1) - gi l g.at_=A at*
  refine .ixX (enc:=Grp.c) hs hG rfl rfl j6 nR hg cM ?_;intro b27 o27 hc27
  have d0:cellAt H1 b27 o27=some (I (g.at_:Int)):=hc27 0 _ rfl
  have d1:cellAt H1 b27 (o27+1)=some (I (g.n:Int)):=hc27 1 _ rfl
  refine .z (zfa fE) (.y hs (zld ae) (.z zg (.nil ?_)))
  refine .seq (.draw mix rfl hs fun w hs=>?_)
  refine .z 0 rfl zm ?_;refine .z 1 rfl zm ?_;refine .z 2 rfl cA ?_
  refine .ixX (enc:=fun x=>[I x]) (i:=3) hs rfl aq .none hrr rfl rfl aa af (bu (l:=l) (i:=(g.at_+1)) aj) cM ?_;intro b33 o33 hc33;replace hc33:=bH.one hc33
  refine .r (i:=4) hs rfl aq .none (aK rfl ae hc33) ?_
  refine .z 5 rfl zm ?_;refine .z 6 rfl zm ?_
  refine .ixX (enc:=fun x=>[I x]) (i:=7) hs rfl aq .none hrr rfl rfl aa af (bu (l:=l) (i:=g.at_) aj) cM ?_;intro b37 o37 hc37;replace hc37:=bH.one hc37
  refine .r (i:=8) hs rfl aq .none (aK rfl ae hc37) ?_
  refine .z 9 rfl ir ?_
  rw [hA]
  refine .z 10 rfl zg ?_;refine .D hs ?_
  refine .seq (.ai (.z zm (.z zm ?_)))
  refine .ixX (enc:=Grp.c) hs hG rfl rfl j6 nR hg cM ?_;intro b42 o42 hc42
  have d2:cellAt H1 b42 (o42+1)=some (I (g.n:Int)):=hc42 1 _ rfl
  refine .z (zfa hZ) (.y hs (zld ae) (.z fL (.nil ?_)))
  refine (.bJ rfl (fun hc45=>?_) (fun hc45=>?_))
  ·refine .ai (.z zm (.z zm ?_))
   refine .q hs (dS (k:=g.at_) rfl rfl aa af aj aj) ?_
   refine .y hs (zld ae) (.z zm (.z jV (.z cA ?_)))
   refine .q hs (dS (k:=g.at_) rfl rfl aa af aj aj) ?_
   refine .o (.store hs rfl rfl af fun w hs=>?_)
   refine .nil (.ai (.z zm (.z zm (.z cA ?_))))
   refine .q hs (dS (k:=g.at_+1) rfl rfl aa af aj aj) ?_
   refine .q hs (dO rfl ae (hv:=eS (by rw [List.length_set];omega))) ?_
   rw [e1]
   refine .z zm (.z jV (.z cA ?_))
   refine .q hs (dS (k:=g.at_+1) rfl rfl aa af aj aj) ?_
   refine .o (.store hs rfl rfl af ?_ cJ (by simp [Is];omega));intro w hs
   refine .nil ?_
   refine .exit ?_
   refine xT (xB (nT ?_))
   refine .region (.z zm (.z cA (.z zg (.nil ?_))))
   refine nT ?_
   have h2:g.two=false:=by
    cases e:g.two with
    |false=>rfl
    |true=>simp [Grp.n,e] at hc45
   rw [yG h2 hA] at hK
   have e:su l (k+1)=(W.set g.at_ (gi W g.at_+18*A)).set (g.at_+1) (gi W (g.at_+1)+18*A):=by rw [hK];simp only [kl];rw [e1]
   exact ⟨k+1,.bX rfl bQ aU,⟨aj,by rw [e];exact hs⟩,aj⟩
  ·refine .skip ?_
   refine nT ?_
   refine .seq (.draw mix rfl hs fun w hs=>?_)
   have h2:g.two=true:=by
    cases e:g.two with
    |true=>rfl
    |false=>simp [Grp.n,e] at hc45
   obtain ⟨j1,j2,j3,j4⟩:=i4 h2
   have hq2:=hp.bd (i:=g.at_+2) aj
   have z2:=ig W (v:=g.at_+2) (n:=l.length) aj
   have e2:∀x y,gi ((W.set g.at_ x).set (g.at_+1) y) (g.at_+2)=gi W (g.at_+2):=fun x y=>by rw [pU aj,pU aj]
   generalize hB:gi l (g.at_+2) - gi l (g.at_+1)=B at*
   have hk3:=zX j4
   have hmm:=uv (a:=A) (b:=B) ⟨aj,aj⟩ ⟨aj,aj⟩
   obtain ⟨n1,n2,n3,n4⟩:=yE hk3 hmm.1 hmm.2
   obtain ⟨n5,n6,n7,n8,n9⟩:=n4 _ n3.1 n3.2
   have hgw0:=yF h2 hA hB rfl rfl
   refine .z 0 rfl zm ?_;refine .z 1 rfl zm ?_;refine .z 2 rfl cA ?_
   refine .ixX (enc:=fun x=>[I x]) (i:=3) hs rfl aq .none hrr rfl rfl aa af (bu (l:=l) (i:=(g.at_+2)) aj) cM ?_;intro b66 o66 hc66;replace hc66:=bH.one hc66
   refine .r (i:=4) hs rfl aq .none (aK rfl ae hc66) ?_
   refine .z 5 rfl zm ?_;refine .z 6 rfl zm ?_;refine .z 7 rfl cA ?_
   refine .ixX (enc:=fun x=>[I x]) (i:=8) hs rfl aq .none hrr rfl rfl aa af (bu (l:=l) (i:=(g.at_+1)) aj) cM ?_;intro b71 o71 hc71;replace hc71:=bH.one hc71
   refine .r (i:=9) hs rfl aq .none (aK rfl ae hc71) ?_
   refine .z 10 rfl ir ?_
   rw [hB]
   refine .z 11 rfl zg ?_;refine .D hs ?_
   refine .ai (.z zm (.z zm ?_))
   refine .o (.call Tryz.call281 rfl (lX hs aj aj) ?_);rintro _ w ⟨rfl,hs⟩
   generalize hT:tms A B=T at*
   refine .z zg (.nil (.ai (.z zm (.z zm (.z zL ?_)))))
   generalize hM:min A B=M at*
   refine .z zg (.nil (.ai (.z zm ?_)))
   refine .q hs (uq rfl rfl aj aj) ?_
   refine .z zm (.z cA (.z jV (.z zm (.z jV (.z zg (.nil (.ai (.z zm (.z zm ?_)))))))))
   refine .z jV (.z zm (.z ir (.z jV (.z zg (.nil (.ai (.z zm (.z zm (.z jV ?_)))))))))
   refine .z ir (.z jV (.z zg (.nil ?_)))
   refine .cut (fun fs w=>∃x y:Int,jU fs ⟨133,[],[(13,I y),(12,I x),(11,I ((6:Int).tdiv T*(1+T)*M)),(9,I T),(6,I (g.at_:Int)),(5,I (k:Int)),(4,.slice ag (lk l).length cg),(3,.slice (some ⟨b16,0,none⟩) l.length l.length),(0,.slice a l.length c)]⟩∧(-6000000≤x∧x≤6000000)∧(-6000000≤y∧y≤6000000)∧tO l g=[x,(6:Int).tdiv T*(1+T)*M*(1+T)*(1+T),y]∧St H1 w (.blk b16 (Is W)::σ)) ?_ ?_
   ·refine .ai (.z zm (.z zm (.z kT (.nil ?_))))
    refine (.bJ rfl (fun hc100=>?_) (fun hc100=>?_))
    ·refine .region (.z zm (.z zm (.z zg (.z zg (.nil ?_)))))
     refine nT ?_
     exact ⟨_,_,aU,aj,aj,by rw [hgw0,if_pos hc100],hs⟩
    ·refine .skip ?_
     refine nT ?_
     exact ⟨_,_,aU,aj,aj,by rw [hgw0,if_neg aj],hs⟩
   ·rintro fs w ⟨x,y,hfs,hx,hy,hgw,hs⟩
    refine WE.sub ?_ hfs
    have e:su l (k+1)=((W.set g.at_ (gi W g.at_+x)).set (g.at_+1) (gi W (g.at_+1)+(6:Int).tdiv T*(1+T)*M*(1+T)*(1+T))).set (g.at_+2) (gi W (g.at_+2)+y):=by
     rw [hK,hgw];simp only [kl];rw [e1,show g.at_+1+1=g.at_+2 by omega,e2]
    refine .ai (.z zm (.z zm ?_))
    refine .q hs (dS (k:=g.at_) rfl rfl aa af aj aj) ?_
    refine .y hs (zld ae) (.z zm (.z cA ?_))
    refine .q hs (dS (k:=g.at_) rfl rfl aa af aj aj) ?_
    refine .o (.store hs rfl rfl af fun w hs=>?_)
    refine .nil (.ai (.z zm (.z zm (.z cA ?_))))
    refine .q hs (dS (k:=g.at_+1) rfl rfl aa af aj aj) ?_
    refine .q hs (dO rfl ae (hv:=eS (by rw [List.length_set];omega))) ?_
    rw [e1]
    refine .z zm (.z zm (.z cA (.z jV (.z zm (.z cA (.z jV (.z cA ?_)))))))
    refine .q hs (dS (k:=g.at_+1) rfl rfl aa af aj aj) ?_
    refine .o (.store hs rfl rfl af ?_ cJ (by simp [Is];omega));intro w hs
    refine .nil (.region (.z zm (.z zm (.z cA ?_))))
    refine .q hs (dS (k:=g.at_+2) rfl rfl aa af aj aj) ?_
    refine .q hs (dO rfl ae (hv:=eS (by rw [List.length_set,List.length_set];omega))) ?_
    rw [e2]
    refine .z zm (.z cA ?_)
    refine .q hs (dS (k:=g.at_+2) rfl rfl aa af aj aj) ?_
    refine .o (.store hs rfl rfl af ?_ cJ (by simp [Is];omega));intro w hs
    refine .nil ?_
    refine nB (nT ?_)
    refine .region (.z zm (.z cA (.z zg (.nil ?_))))
    refine nT ?_
    exact ⟨k+1,.bX rfl bQ aU,⟨aj,by rw [e];exact hs⟩,aj⟩
 ·refine .exit ?_
  refine xT (xT (xB (nT ?_)))
  refine .ai (.z zm (.z zg (.nil ?_)))
  refine .ret (Fin.bL Tryz.results251 rfl ?_)
  obtain rfl:k=(lk l).length:=by omega
  rw [ye] at hs
  obtain ⟨H3,hle3,hR,hs⟩:=cn.cN (xs:=wts l) (v:= .slice (some ⟨b16,0,none⟩) l.length l.length) (.full (by simp [Is,eu])) (by rw [eu];omega) hs .here
  exact ⟨H3,hle1.trans hle3,hR,hs⟩
theorem kC{v:Value}{l:List Int}(hs:St H w σ)(hr:RI H v l)(hp:eH 9 100000 l):
  Cl Tryz.prog 196 [v] w fun u w'=>∃H1 vo,HLe H H1∧u= .tuple #[vo,I 0]∧RI H1 vo (wts l)∧St H1 w' σ:=by
 refine Cl.o Tryz.func196 Tryz.ntmps196 ag1 ?_
 refine .ai (.z zg (.z zg (.nil (.seq (.ai (.z zm ?_))))))
 refine .o (.call Tryz.call84 rfl (gw hs hr) ?_);rintro _ w ⟨e,rfl,he,hs⟩
 obtain rfl:e=0:=he.elim (fun h=>h.2) fun h=>(h.1 hp).elim
 refine .z iw (.nil ?_)
 refine (.fc rfl (fun hc7=>?_) (fun hc7=>?_))
 ·refine .ai (.z zg (.z zg (.nil ?_)))
  refine .ret (rT (Fin.lz Tryz.results196 rfl rfl ?_))
  exact (hc7 rfl).elim
 ·refine .skip ?_
  refine nT ?_
  refine .ai (.z zm ?_)
  refine .o (.call Tryz.call251 rfl (iS hs hr hp) ?_);rintro v9 w ⟨H1,hle1,hR,hs⟩
  refine .z zg (.nil (.ai (.z zm (.z zg (.z zg (.nil ?_))))))
  refine .ret (Fin.lz Tryz.results196 rfl rfl ?_)
  exact ⟨H1,_,hle1,rfl,hR,hs⟩
theorem pB{v1 v2:Value}{a b:List Int}(hs:St H w σ)(h1:RI H v1 a)(h2:RI H v2 b)(hp1:eH 9 100000 a)(hp2:eH 7 15000 b):
  Cl Tryz.prog 250 [v1,v2] w fun u w'=>u= .bool true∧St H w' σ:=by
 refine Cl.o Tryz.func250 Tryz.ntmps250 ag2 ?_
 refine .ai (.z zg (.nil (.ai (.z zm ?_))))
 refine .o (.call Tryz.call168 rfl (jm (many:=9) (most:=100000) hs h1 aj) ?_);rintro _ w ⟨b6,rfl,hb6,hs⟩
 refine .z zm ?_
 refine .bif (t':=7) rfl (fun hb7=>?_) (fun hb7=>?_)
 ·refine .gT rfl rfl ?_
  refine .z zm ?_
  refine .gT rfl rfl ?_
  refine .o (.call Tryz.call168 rfl (jm (many:=7) (most:=15000) hs h2 aj) ?_);rintro _ w ⟨b9,rfl,hb9,hs⟩
  refine .z zpT (.z zg (.nil ?_))
  refine .ret (Fin.bL Tryz.results250 rfl ?_)
  exact ⟨by rw [hb9.2 hp2],hs⟩
 ·refine .gFs 2 2 true rfl rfl rfl ?_
  refine .z zpF (.z zg (.nil ?_))
  refine .ret (Fin.bL Tryz.results250 rfl ?_)
  rw [hb6.2 hp1] at hb7;cases hb7
set_option maxHeartbeats 1000000 in
theorem sV{v1 v2:Value}{l1 l2:List Int}(hs:St H w σ)(hr1:RI H v1 l1)(hr2:RI H v2 l2)(hp1:eH 9 100000 l1)(hp2:eH 7 15000 l2):
  Cl Tryz.prog 195 [v1,v2] w fun u w'=>∃H1 vo,HLe H H1∧u= .tuple #[vo,I 0]∧RT H1 vo (ln (wts l1) (wts l2) l1.length)∧St H1 w' σ:=by
 obtain ⟨a1,c1,rfl⟩:=RI.shape hr1
 obtain ⟨a2,c2,rfl⟩:=RI.shape hr2
 have hn1:=hp1.many
 have hn2:=hp2.many
 have hp2':eH 9 100000 l2:=⟨hp2.two,aj,hp2.low,by have:=hp2.high;omega,hp2.rise⟩
 have hXl:=eu l1
 have hYl:=eu l2
 have hXb:=yd hp1
 have hYb:=yd hp2
 refine Cl.o Tryz.func195 Tryz.ntmps195 ag2 ?_
 refine .ai (.z zg (.z zg (.nil (.seq (.ai (.z zm (.z zm ?_)))))))
 refine .o (.call Tryz.call250 rfl (pB hs hr1 hr2 hp1 hp2) ?_);rintro _ w ⟨rfl,hs⟩
 refine .z iO (.nil ?_)
 refine (.cond rfl (fun hc15=>?_) (fun hc15=>?_))
 ·refine .ai (.z zg (.z zg (.nil ?_)))
  refine .ret (rT (Fin.lz Tryz.results195 rfl rfl ?_))
  cases hc15
 ·refine .skip ?_
  refine nT ?_
  refine .ai (.z zm ?_)
  refine .o (.call Tryz.call251 rfl (iS hs hr1 hp1) ?_);rintro v17 w ⟨H1,hle1,hX,hs⟩
  refine .z zg (.nil (.ai (.z zm ?_)))
  refine .o (.call Tryz.call251 rfl (iS hs (hr2.mono hle1) hp2') ?_);rintro v19 w ⟨H2,hle2,hY,hs⟩
  replace hX:=hX.mono hle2
  generalize wts l1=X at*
  generalize wts l2=Y at*
  obtain ⟨aX,cX,rfl⟩:=RI.shape hX
  obtain ⟨aY,cY,rfl⟩:=RI.shape hY
  refine .z zg (.nil (.ai (.z zg (.nil (.seq (.ai (.z zg (.nil (.block ?_)))))))))
  refine .loop (fun p:Nat×Value=>⟨49,[],[(9,I (p.1:Int)),(8,p.2),(7,.slice aY Y.length cY),(6,.slice aX X.length cX)]⟩)
   (fun p w=>p.1≤X.length∧∃H3 us en,HLe H2 H3∧RLs H3 us (ln X Y p.1)∧cn 1 p.2 us en∧St H3 w (en::σ)) (fun p=>X.length - p.1) (0,.slice none 0 0) aU
   ⟨Nat.zero_le _,H2,[],_,HLe.refl _,RLs.nil _,.nil 1 none,hs.nul⟩ ?_
  rintro ⟨i,vo⟩ w ⟨hi,H3,us,en,hle3,hRL,hO,hs⟩
  dsimp only at hi hRL hO ⊢
  have husl:us.length=i:=by rw [hRL.1,jy]
  refine .seq (.ai (.z zm (.z zm (.z (cH aa) (.z fj (.nil ?_))))))
  refine (.bJ rfl (fun hc23=>?_) (fun hc23=>?_))
  ·refine .skip ?_
   refine nT ?_
   refine .seq (.block (.ai (.z zg (.nil (.seq (.ai (.z zg (.nil (.block ?_)))))))))
   refine .loop (fun p:Nat×Value=>⟨49,[],[(11,I (p.1:Int)),(10,p.2),(9,I (i:Int)),(8,vo),(7,.slice aY Y.length cY),(6,.slice aX X.length cX)]⟩)
    (fun p w=>p.1≤Y.length∧∃en2,cn 1 p.2 (Is ((vX X Y i).take p.1)) en2∧St H3 w (en2::en::σ)) (fun p=>Y.length - p.1) (0,.slice none 0 0) aU
    ⟨Nat.zero_le _,_,.nil 1 none,hs.nul⟩ ?_
   rintro ⟨k,vr⟩ w ⟨hk,en2,hO2,hs⟩
   dsimp only at hk hO2 ⊢
   refine .seq (.ai (.z zm (.z zm (.z (cH aa) (.z fj (.nil ?_))))))
   refine (.bJ rfl (fun hc29=>?_) (fun hc29=>?_))
   ·refine .skip ?_
    refine nT ?_
    refine .seq (.block ?_)
    refine .draw mix rfl hs fun w hs=>?_
    refine .z 0 rfl zm ?_;refine .z 1 rfl zm ?_;refine .z 2 rfl zm ?_
    have hkm:k<Y.length:=by omega
    have hb1:=hXb i
    have hb2:=hYb k
    have hprb: -3456000000000≤gi X i*gi Y k∧gi X i*gi Y k≤3456000000000:=kG (A:=4800000) (B:=720000) (by unfold ab at hb1;omega) (by unfold ab at hb2;omega)
    refine .ixX (enc:=fun x=>[I x]) (i:=3) hs rfl aq .none (hX.mono hle3) rfl rfl aa af (bu (l:=X) (i:=i) aj) cM ?_;intro b35 o35 hc35;replace hc35:=bH.one hc35
    refine .r (i:=4) hs rfl aq .none (aK rfl ae hc35) ?_
    refine .z 5 rfl zm ?_;refine .z 6 rfl zm ?_
    refine .ixX (enc:=fun x=>[I x]) (i:=7) hs rfl aq .none (hY.mono hle3) rfl rfl aa af (bu (l:=Y) (i:=k) aj) cM ?_;intro b39 o39 hc39;replace hc39:=bH.one hc39
    refine .r (i:=8) hs rfl aq .none (aK rfl ae hc39) ?_
    refine .z 9 rfl jV ?_
    refine .E 10 hs ?_
    refine .buildSlice (cells:=[_]) hs cf rfl rfl ?_;intro b42 w hs
    refine .go ?_
    refine .E 11 hs ?_
    refine .append (ys:=Is [gi X i*gi Y k]) hs aZ rfl rfl hO2 (.own .here rfl rfl) (dL _) (fun l' h=>by simp at h;omega) ?_;intro v43 en43 w hO43 hs
    rw [show Is ((vX X Y i).take k)++Is [gi X i*gi Y k]=Is ((vX X Y i).take (k+1)) by rw [wA hkm];simp [Is]] at hO43
    refine .go ?_
    refine .z 12 rfl zg ?_;refine .D hs ?_
    refine nB (nT ?_)
    refine .region (.z zm (.z cA (.z zg (.nil ?_))))
    refine nT ?_
    exact ⟨(k+1,v43),.bX rfl bQ aU,⟨by dsimp only;omega,_,hO43,hs.sb⟩,by dsimp only;omega⟩
   ·refine .exit ?_
    refine xT (xT (xB (nT ?_)))
    refine .region (.z zm (.z zm ?_))
    obtain ⟨H4,hle4,hR,hs⟩:=cn.cN hO2 (by rw [List.length_take,jj];omega) hs .here
    rw [List.take_of_length_le (by rw [jj];omega)] at hR
    obtain ⟨ar,cr,rfl⟩:=RI.shape hR
    refine .o (.buildSlice (cells:=[_]) hs tT rfl rfl fun b46 w hs=>?_)
    refine .o (.append (ys:=[.slice ar (vX X Y i).length cr]) hs oQ rfl rfl hO (.own .here rfl rfl) (by simp [Value.oneCell']) (fun l' h=>by omega) fun v47 en47 w hO47 hs=>?_)
    have hRL':RLs H4 (us++[.slice ar (vX X Y i).length cr]) (ln X Y (i+1)):=by rw [uA];exact (hRL.mono hle4).snoc hR
    refine .z zg (.nil ?_)
    refine nB (nT ?_)
    refine .region (.z zm (.z cA (.z zg (.nil ?_))))
    refine nT ?_
    exact ⟨(i+1,v47),.bX rfl bQ aU,⟨by dsimp only;omega,H4,_,_,hle3.trans hle4,hRL',hO47,hs.sb⟩,by dsimp only;omega⟩
  ·refine .exit ?_
   refine xT (xT (xB (nT ?_)))
   refine .ai (.z zm (.z zg (.z zg (.nil ?_))))
   refine .ret (Fin.lz Tryz.results195 rfl rfl ?_)
   obtain rfl:i=X.length:=by omega
   obtain ⟨H5,hle5,hR,hs⟩:=hRL.cI hO aj hs .here
   exact ⟨H5,_,hle1.trans (hle2.trans (hle3.trans hle5)),rfl,by rw [←hXl];exact hR,hs⟩
theorem bB{a0 a1 a2:Int}(hs:St H w σ):Cl Tryz.prog 105 [I a0,I a1,I a2] w fun v w'=>v= .bool (decide (a1≤a0∧a0≤a2))∧St H w' σ:=by
 refine Cl.o Tryz.func105 Tryz.ntmps105 ag3 ?_
 refine .ai (.z zg (.nil (.ai (.z zm (.z zm (.z wi (.z zm ?_)))))))
 refine .iq (t':=10) rfl (fun hb10=>?_) (fun hb10=>?_)
 ·refine .gT rfl rfl ?_
  refine .z zm ?_
  refine .gT rfl rfl ?_
  refine .z zm ?_
  refine .gT rfl rfl ?_
  refine .z wi (.z zpT (.z zg (.nil ?_)))
  refine .ret (Fin.bL Tryz.results105 rfl ?_)
  exact ⟨by simp [*],hs.out⟩
 ·refine .gFs 3 3 true rfl rfl rfl ?_
  refine .z zpF (.z zg (.nil ?_))
  refine .ret (Fin.bL Tryz.results105 rfl ?_)
  exact ⟨by simp [*],hs.out⟩
theorem gE{a0:Int}(hs:St H w σ):Cl Tryz.prog 106 [I a0] w fun v w'=>v= .bool (decide (1≤a0∧a0≤99999))∧St H w' σ:=by
 refine Cl.o Tryz.func106 Tryz.ntmps106 ag1 ?_
 refine .ai (.z zg (.nil (.ai (.z zm ?_))))
 refine .o (.call dN rfl (bB hs) ?_);rintro _ w ⟨rfl,hs⟩
 refine .z zg (.nil ?_)
 refine .ret (Fin.bL Tryz.results106 rfl ?_)
 exact ⟨rfl,hs⟩
theorem iV{s:Spc}{vst vwa:Value}(hs:St H w σ)(h1:RI H vst s.st)(h2:RI H vwa s.wa):
  Cl Tryz.prog 41 [.agg #[I s.id,I s.src,vst,vwa,I s.al,I s.up]] w fun v w'=>∃H1 e,HLe H H1∧v=I e∧((fG s∧e=0)∨(¬fG s∧e=30))∧St H1 w' σ:=by
 obtain ⟨ast,cst,rfl⟩:=RI.shape h1
 obtain ⟨awa,cwa,rfl⟩:=RI.shape h2
 refine Cl.o Tryz.func41 Tryz.ntmps41 ag1 ?_
 refine .ai ?_
 refine .bx hs fun b1 w hs=>?_
 refine .z zg (.nil (.seq (.ai (.z (zfa bn) (.y hs (zld ak) (.z (zfa aW) (.y hs (zld ak) ?_)))))))
 refine .o (.call Tryz.call104 rfl (mA hs h1 h2) ?_);rintro _ w ⟨H1,vo,e,hle1,rfl,hG,hG',hs⟩
 refine .z zm (.z zex (.z zex (.z zg (.z zg (.nil (.ai (.z zm (.z iw (.z zm ?_)))))))))
 refine .xW (t':=15) rfl (fun hb15=>?_) (fun hb15=>?_)
 ·refine .gFs 4 2 false rfl rfl rfl ?_
  refine .z zpT (.z zm ?_)
  refine .gFs 4 8 false rfl rfl rfl ?_
  refine .z zpT (.z zm ?_)
  refine .gFs 5 14 false rfl rfl rfl ?_
  refine .z zpT (.z zm ?_)
  refine .gFs 5 21 false rfl rfl rfl ?_
  refine .z zpT (.nil ?_)
  refine (.cT ?_)
  refine .ai (.z zg (.nil ?_))
  refine .ret (rT (Fin.bL ud rfl ?_))
  exact ⟨H1,_,hle1,rfl,.inr ⟨fun h=>by have:=(hG ⟨h.st,h.wa⟩).1;simp_all,rfl⟩,hs.out⟩
 ·refine .gT rfl rfl ?_
  refine .z (zfa gY) ?_
  refine .gT rfl rfl ?_
  refine .y hs (zld ae) ?_
  refine .gT rfl rfl ?_
  refine .o (.call dN rfl (bB hs) ?_);rintro _ w ⟨rfl,hs⟩
  refine .gT rfl rfl ?_
  refine .z iO (.z zpF (.z zm ?_))
  refine .bif (t':=21) rfl (fun hb21=>?_) (fun hb21=>?_)
  ·refine .gFs 4 8 false rfl rfl rfl ?_
   refine .z zpT (.z zm ?_)
   refine .gFs 5 14 false rfl rfl rfl ?_
   refine .z zpT (.z zm ?_)
   refine .gFs 5 21 false rfl rfl rfl ?_
   refine .z zpT (.nil ?_)
   refine (.cT ?_)
   refine .ai (.z zg (.nil ?_))
   refine .ret (rT (Fin.bL ud rfl ?_))
   exact ⟨H1,_,hle1,rfl,.inr ⟨fun h=>by have:=h.id;simp_all,rfl⟩,hs.out⟩
  ·refine .gT rfl rfl ?_
   refine .z (zfa df) ?_
   refine .gT rfl rfl ?_
   refine .y hs (zld ae) ?_
   refine .gT rfl rfl ?_
   refine .o (.call Tryz.call106 rfl (gE hs) ?_);rintro _ w ⟨rfl,hs⟩
   refine .gT rfl rfl ?_
   refine .z iO (.z zpF (.z zm ?_))
   refine .bif (t':=27) rfl (fun hb27=>?_) (fun hb27=>?_)
   ·refine .gFs 5 14 false rfl rfl rfl ?_
    refine .z zpT (.z zm ?_)
    refine .gFs 5 21 false rfl rfl rfl ?_
    refine .z zpT (.nil ?_)
    refine (.cT ?_)
    refine .ai (.z zg (.nil ?_))
    refine .ret (rT (Fin.bL ud rfl ?_))
    exact ⟨H1,_,hle1,rfl,.inr ⟨fun h=>by have:=h.src;simp_all,rfl⟩,hs.out⟩
   ·refine .gT rfl rfl ?_
    refine .z (zfa dF) ?_
    refine .gT rfl rfl ?_
    refine .z (zfa iZ) ?_
    refine .gT rfl rfl ?_
    refine .y hs (zld ae) ?_
    refine .gT rfl rfl ?_
    refine .o (.call dN rfl (bB hs) ?_);rintro _ w ⟨rfl,hs⟩
    refine .gT rfl rfl ?_
    refine .z iO (.z zpF (.z zm ?_))
    refine .bif (t':=34) rfl (fun hb34=>?_) (fun hb34=>?_)
    ·refine .gFs 5 21 false rfl rfl rfl ?_
     refine .z zpT (.nil ?_)
     refine (.cT ?_)
     refine .ai (.z zg (.nil ?_))
     refine .ret (rT (Fin.bL ud rfl ?_))
     exact ⟨H1,_,hle1,rfl,.inr ⟨fun h=>by have:=h.al;simp_all,rfl⟩,hs.out⟩
    ·refine .gT rfl rfl ?_
     refine .z (zfa dF) ?_
     refine .gT rfl rfl ?_
     refine .z (zfa iY) ?_
     refine .gT rfl rfl ?_
     refine .y hs (zld ae) ?_
     refine .gT rfl rfl ?_
     refine .o (.call dN rfl (bB hs) ?_);rintro _ w ⟨rfl,hs⟩
     refine .gT rfl rfl ?_
     refine .z iO (.z zpF (.nil ?_))
     refine (.cond rfl (fun hc40=>?_) (fun hc40=>?_))
     ·refine .ai (.z zg (.nil ?_))
      refine .ret (rT (Fin.bL ud rfl ?_))
      exact ⟨H1,_,hle1,rfl,.inr ⟨fun h=>by have:=h.up;simp_all,rfl⟩,hs.out⟩
     ·refine .skip ?_
      refine nT ?_
      refine .ai (.z zg (.nil ?_))
      refine .ret (Fin.bL ud rfl ?_)
      have hg:=hG' (by simp_all)
      exact ⟨H1,_,hle1,rfl,.inl ⟨⟨hg.1,hg.2,by simp_all,by simp_all,by simp_all,by simp_all⟩,rfl⟩,hs.out⟩
theorem jf{s:Spc}{r:Rdg}{vst vwa:Value}(hs:St H w σ)(h1:RI H vst s.st)(h2:RI H vwa s.wa):
  Cl Tryz.prog 107 [.agg #[I s.id,I s.src,vst,vwa,I s.al,I s.up],.agg #[I r.src,I r.st,I r.wa,I r.val,I r.tol,I r.tape,I r.day]] w fun v w'=>∃b:Bool,v= .bool b∧(b=true↔jo s r)∧St H w' σ:=by
 obtain ⟨ast,cst,rfl⟩:=RI.shape h1
 obtain ⟨awa,cwa,rfl⟩:=RI.shape h2
 have l1:=(RI.len h1).2.2
 have l2:=(RI.len h2).2.2
 refine Cl.o Tryz.func107 Tryz.ntmps107 ag2 ?_
 refine .ai ?_
 refine .bx hs fun b2 w hs=>?_
 refine .bx hs fun b3 w hs=>?_
 refine .z zg (.nil (.ai (.z (zfa dk) (.y hs (zld ae) ?_))))
 refine .o (.call Tryz.call106 rfl (gE hs) ?_);rintro _ w ⟨rfl,hs⟩
 refine .z zm ?_
 refine .bif (t':=8) rfl (fun hb8=>?_) (fun hb8=>?_)
 ·refine .gT rfl rfl ?_
  refine .z (zfa eN) ?_
  refine .gT rfl rfl ?_
  refine .y hs (zld ae) ?_
  refine .gT rfl rfl ?_
  refine .z (zfa bn) ?_
  refine .gT rfl rfl ?_
  refine .y hs (zld ak) ?_
  refine .gT rfl rfl ?_
  refine .z (cH aa) ?_
  refine .gT rfl rfl ?_
  refine .z ir ?_
  refine .gT rfl rfl ?_
  refine .o (.call dN rfl (bB hs) ?_);rintro _ w ⟨rfl,hs⟩
  refine .z zpT (.z zm ?_)
  refine .bif (t':=17) rfl (fun hb17=>?_) (fun hb17=>?_)
  ·refine .gT rfl rfl ?_
   refine .z (zfa eM) ?_
   refine .gT rfl rfl ?_
   refine .y hs (zld ae) ?_
   refine .gT rfl rfl ?_
   refine .z (zfa aW) ?_
   refine .gT rfl rfl ?_
   refine .y hs (zld ak) ?_
   refine .gT rfl rfl ?_
   refine .z (cH aa) ?_
   refine .gT rfl rfl ?_
   refine .z ir ?_
   refine .gT rfl rfl ?_
   refine .o (.call dN rfl (bB hs) ?_);rintro _ w ⟨rfl,hs⟩
   refine .z zpT (.z zm ?_)
   refine .bif (t':=26) rfl (fun hb26=>?_) (fun hb26=>?_)
   ·refine .gT rfl rfl ?_
    refine .z (zfa cz) ?_
    refine .gT rfl rfl ?_
    refine .y hs (zld ae) ?_
    refine .gT rfl rfl ?_
    refine .o (.call dN rfl (bB hs) ?_);rintro _ w ⟨rfl,hs⟩
    refine .z zpT (.z zm ?_)
    refine .bif (t':=31) rfl (fun hb31=>?_) (fun hb31=>?_)
    ·refine .gT rfl rfl ?_
     refine .z (zfa cU) ?_
     refine .gT rfl rfl ?_
     refine .y hs (zld ae) ?_
     refine .gT rfl rfl ?_
     refine .z (zfa cz) ?_
     refine .gT rfl rfl ?_
     refine .y hs (zld ae) ?_
     refine .gT rfl rfl ?_
     have ht:0≤r.tol∧r.tol≤1000:=by simp_all
     refine .z ir ?_
     refine .gT rfl rfl ?_
     refine .o (.call dN rfl (bB hs) ?_);rintro _ w ⟨rfl,hs⟩
     refine .z zpT (.z zm ?_)
     refine .bif (t':=39) rfl (fun hb39=>?_) (fun hb39=>?_)
     ·refine .gT rfl rfl ?_
      refine .z (zfa eh) ?_
      refine .gT rfl rfl ?_
      refine .y hs (zld ae) ?_
      refine .gT rfl rfl ?_
      refine .o (.call dN rfl (bB hs) ?_);rintro _ w ⟨rfl,hs⟩
      refine .z zpT (.z zm ?_)
      refine .bif (t':=44) rfl (fun hb44=>?_) (fun hb44=>?_)
      ·refine .gT rfl rfl ?_
       refine .z (zfa eg) ?_
       refine .gT rfl rfl ?_
       refine .y hs (zld ae) ?_
       refine .gT rfl rfl ?_
       refine .o (.call dN rfl (bB hs) ?_);rintro _ w ⟨rfl,hs⟩
       refine .z zpT (.z zg (.nil ?_))
       refine .ret (Fin.bL mf rfl ?_)
       first
       |exact ⟨false,rfl,⟨fun h=>(by cases h),fun h=>(by obtain ⟨g1,g2,g3,g4,g5,g6,g7⟩:=h;simp_all;done)⟩,hs.out⟩
       |exact ⟨_,rfl,⟨fun h=>⟨by simp_all,by simp_all,by simp_all,by simp_all,by simp_all,by simp_all,by simpa using h⟩,fun h=>by simpa using h.day⟩,hs.out⟩
      ·refine .gFs 3 39 true rfl rfl rfl ?_
       refine .z zpF (.z zg (.nil ?_))
       refine .ret (Fin.bL mf rfl ?_)
       first
       |exact ⟨false,rfl,⟨fun h=>(by cases h),fun h=>(by obtain ⟨g1,g2,g3,g4,g5,g6,g7⟩:=h;simp_all;done)⟩,hs.out⟩
       |exact ⟨_,rfl,⟨fun h=>⟨by simp_all,by simp_all,by simp_all,by simp_all,by simp_all,by simp_all,by simpa using h⟩,fun h=>by simpa using h.day⟩,hs.out⟩
     ·refine .gFs 3 34 true rfl rfl rfl ?_
      refine .z zpF (.z zm ?_)
      refine .gFs 3 39 true rfl rfl rfl ?_
      refine .z zpF (.z zg (.nil ?_))
      refine .ret (Fin.bL mf rfl ?_)
      first
      |exact ⟨false,rfl,⟨fun h=>(by cases h),fun h=>(by obtain ⟨g1,g2,g3,g4,g5,g6,g7⟩:=h;simp_all;done)⟩,hs.out⟩
      |exact ⟨_,rfl,⟨fun h=>⟨by simp_all,by simp_all,by simp_all,by simp_all,by simp_all,by simp_all,by simpa using h⟩,fun h=>by simpa using h.day⟩,hs.out⟩
    ·refine .gFs 6 26 true rfl rfl rfl ?_
     refine .z zpF (.z zm ?_)
     refine .gFs 3 34 true rfl rfl rfl ?_
     refine .z zpF (.z zm ?_)
     refine .gFs 3 39 true rfl rfl rfl ?_
     refine .z zpF (.z zg (.nil ?_))
     refine .ret (Fin.bL mf rfl ?_)
     first
     |exact ⟨false,rfl,⟨fun h=>(by cases h),fun h=>(by obtain ⟨g1,g2,g3,g4,g5,g6,g7⟩:=h;simp_all;done)⟩,hs.out⟩
     |exact ⟨_,rfl,⟨fun h=>⟨by simp_all,by simp_all,by simp_all,by simp_all,by simp_all,by simp_all,by simpa using h⟩,fun h=>by simpa using h.day⟩,hs.out⟩
   ·refine .gFs 3 21 true rfl rfl rfl ?_
    refine .z zpF (.z zm ?_)
    refine .gFs 6 26 true rfl rfl rfl ?_
    refine .z zpF (.z zm ?_)
    refine .gFs 3 34 true rfl rfl rfl ?_
    refine .z zpF (.z zm ?_)
    refine .gFs 3 39 true rfl rfl rfl ?_
    refine .z zpF (.z zg (.nil ?_))
    refine .ret (Fin.bL mf rfl ?_)
    first
    |exact ⟨false,rfl,⟨fun h=>(by cases h),fun h=>(by obtain ⟨g1,g2,g3,g4,g5,g6,g7⟩:=h;simp_all;done)⟩,hs.out⟩
    |exact ⟨_,rfl,⟨fun h=>⟨by simp_all,by simp_all,by simp_all,by simp_all,by simp_all,by simp_all,by simpa using h⟩,fun h=>by simpa using h.day⟩,hs.out⟩
  ·refine .gFs 7 12 true rfl rfl rfl ?_
   refine .z zpF (.z zm ?_)
   refine .gFs 3 21 true rfl rfl rfl ?_
   refine .z zpF (.z zm ?_)
   refine .gFs 6 26 true rfl rfl rfl ?_
   refine .z zpF (.z zm ?_)
   refine .gFs 3 34 true rfl rfl rfl ?_
   refine .z zpF (.z zm ?_)
   refine .gFs 3 39 true rfl rfl rfl ?_
   refine .z zpF (.z zg (.nil ?_))
   refine .ret (Fin.bL mf rfl ?_)
   first
   |exact ⟨false,rfl,⟨fun h=>(by cases h),fun h=>(by obtain ⟨g1,g2,g3,g4,g5,g6,g7⟩:=h;simp_all;done)⟩,hs.out⟩
   |exact ⟨_,rfl,⟨fun h=>⟨by simp_all,by simp_all,by simp_all,by simp_all,by simp_all,by simp_all,by simpa using h⟩,fun h=>by simpa using h.day⟩,hs.out⟩
 ·refine .gFs 7 3 true rfl rfl rfl ?_
  refine .z zpF (.z zm ?_)
  refine .gFs 7 12 true rfl rfl rfl ?_
  refine .z zpF (.z zm ?_)
  refine .gFs 3 21 true rfl rfl rfl ?_
  refine .z zpF (.z zm ?_)
  refine .gFs 6 26 true rfl rfl rfl ?_
  refine .z zpF (.z zm ?_)
  refine .gFs 3 34 true rfl rfl rfl ?_
  refine .z zpF (.z zm ?_)
  refine .gFs 3 39 true rfl rfl rfl ?_
  refine .z zpF (.z zg (.nil ?_))
  refine .ret (Fin.bL mf rfl ?_)
  first
  |exact ⟨false,rfl,⟨fun h=>(by cases h),fun h=>(by obtain ⟨g1,g2,g3,g4,g5,g6,g7⟩:=h;simp_all;done)⟩,hs.out⟩
  |exact ⟨_,rfl,⟨fun h=>⟨by simp_all,by simp_all,by simp_all,by simp_all,by simp_all,by simp_all,by simpa using h⟩,fun h=>by simpa using h.day⟩,hs.out⟩
theorem mm{c:Cmp}(hs:St H w σ):
  Cl Tryz.prog 108 [.agg #[I c.src,I c.tape,I c.fr,I c.to,I c.lo,I c.hi]] w fun v w'=>∃b:Bool,v= .bool b∧(b=true↔oT c)∧St H w' σ:=by
 refine Cl.o Tryz.func108 Tryz.ntmps108 ag1 ?_
 refine .ai ?_
 refine .bx hs fun b1 w hs=>?_
 refine .z zg (.nil (.ai (.z (zfa dX) (.y hs (zld ae) ?_))))
 refine .o (.call Tryz.call106 rfl (gE hs) ?_);rintro _ w ⟨rfl,hs⟩
 refine .z zm ?_
 refine .bif (t':=6) rfl (fun hb6=>?_) (fun hb6=>?_)
 ·refine .gT rfl rfl ?_
  refine .z (zfa ik) ?_
  refine .gT rfl rfl ?_
  refine .y hs (zld ae) ?_
  refine .gT rfl rfl ?_
  refine .o (.call dN rfl (bB hs) ?_);rintro _ w ⟨rfl,hs⟩
  refine .z zpT (.z zm ?_)
  refine .bif (t':=11) rfl (fun hb11=>?_) (fun hb11=>?_)
  ·refine .gT rfl rfl ?_
   refine .z (zfa fk) ?_
   refine .gT rfl rfl ?_
   refine .y hs (zld ae) ?_
   refine .gT rfl rfl ?_
   refine .z (zfa eQ) ?_
   refine .gT rfl rfl ?_
   refine .y hs (zld ae) ?_
   refine .gT rfl rfl ?_
   refine .o (.call dN rfl (bB hs) ?_);rintro _ w ⟨rfl,hs⟩
   refine .z zpT (.z zm ?_)
   refine .bif (t':=18) rfl (fun hb18=>?_) (fun hb18=>?_)
   ·refine .gT rfl rfl ?_
    refine .z (zfa eQ) ?_
    refine .gT rfl rfl ?_
    refine .y hs (zld ae) ?_
    refine .gT rfl rfl ?_
    refine .o (.call dN rfl (bB hs) ?_);rintro _ w ⟨rfl,hs⟩
    refine .z zpT (.z zm ?_)
    refine .bif (t':=23) rfl (fun hb23=>?_) (fun hb23=>?_)
    ·refine .gT rfl rfl ?_
     refine .z (zfa eP) ?_
     refine .gT rfl rfl ?_
     refine .y hs (zld ae) ?_
     refine .gT rfl rfl ?_
     refine .z (zfa eO) ?_
     refine .gT rfl rfl ?_
     refine .y hs (zld ae) ?_
     refine .gT rfl rfl ?_
     refine .o (.call dN rfl (bB hs) ?_);rintro _ w ⟨rfl,hs⟩
     refine .z zpT (.z zm ?_)
     refine .bif (t':=30) rfl (fun hb30=>?_) (fun hb30=>?_)
     ·refine .gT rfl rfl ?_
      refine .z (zfa eO) ?_
      refine .gT rfl rfl ?_
      refine .y hs (zld ae) ?_
      refine .gT rfl rfl ?_
      refine .o (.call dN rfl (bB hs) ?_);rintro _ w ⟨rfl,hs⟩
      refine .z zpT (.z zg (.nil ?_))
      refine .ret (Fin.bL rV rfl ?_)
      first
      |exact ⟨false,rfl,⟨fun h=>(by cases h),fun h=>(by obtain ⟨g1,g2,g3,g4,g5,g6⟩:=h;simp_all;omega)⟩,hs.out⟩
      |exact ⟨false,rfl,⟨fun h=>(by cases h),fun h=>(by obtain ⟨g1,g2,g3,g4,g5,g6⟩:=h;simp_all;done)⟩,hs.out⟩
      |exact ⟨_,rfl,⟨fun h=>⟨by simp_all,by simp_all,by simp_all,by simp_all,by simp_all,(by simpa using h:_∧_).2⟩,fun h=>by have:=h.lo;have:=h.hi;simp;omega⟩,hs.out⟩
     ·refine .gFs 3 27 true rfl rfl rfl ?_
      refine .z zpF (.z zg (.nil ?_))
      refine .ret (Fin.bL rV rfl ?_)
      first
      |exact ⟨false,rfl,⟨fun h=>(by cases h),fun h=>(by obtain ⟨g1,g2,g3,g4,g5,g6⟩:=h;simp_all;omega)⟩,hs.out⟩
      |exact ⟨false,rfl,⟨fun h=>(by cases h),fun h=>(by obtain ⟨g1,g2,g3,g4,g5,g6⟩:=h;simp_all;done)⟩,hs.out⟩
      |exact ⟨_,rfl,⟨fun h=>⟨by simp_all,by simp_all,by simp_all,by simp_all,by simp_all,(by simpa using h:_∧_).2⟩,fun h=>by have:=h.lo;have:=h.hi;simp;omega⟩,hs.out⟩
    ·refine .gFs 5 20 true rfl rfl rfl ?_
     refine .z zpF (.z zm ?_)
     refine .gFs 3 27 true rfl rfl rfl ?_
     refine .z zpF (.z zg (.nil ?_))
     refine .ret (Fin.bL rV rfl ?_)
     first
     |exact ⟨false,rfl,⟨fun h=>(by cases h),fun h=>(by obtain ⟨g1,g2,g3,g4,g5,g6⟩:=h;simp_all;omega)⟩,hs.out⟩
     |exact ⟨false,rfl,⟨fun h=>(by cases h),fun h=>(by obtain ⟨g1,g2,g3,g4,g5,g6⟩:=h;simp_all;done)⟩,hs.out⟩
     |exact ⟨_,rfl,⟨fun h=>⟨by simp_all,by simp_all,by simp_all,by simp_all,by simp_all,(by simpa using h:_∧_).2⟩,fun h=>by have:=h.lo;have:=h.hi;simp;omega⟩,hs.out⟩
   ·refine .gFs 3 15 true rfl rfl rfl ?_
    refine .z zpF (.z zm ?_)
    refine .gFs 5 20 true rfl rfl rfl ?_
    refine .z zpF (.z zm ?_)
    refine .gFs 3 27 true rfl rfl rfl ?_
    refine .z zpF (.z zg (.nil ?_))
    refine .ret (Fin.bL rV rfl ?_)
    first
    |exact ⟨false,rfl,⟨fun h=>(by cases h),fun h=>(by obtain ⟨g1,g2,g3,g4,g5,g6⟩:=h;simp_all;omega)⟩,hs.out⟩
    |exact ⟨false,rfl,⟨fun h=>(by cases h),fun h=>(by obtain ⟨g1,g2,g3,g4,g5,g6⟩:=h;simp_all;done)⟩,hs.out⟩
    |exact ⟨_,rfl,⟨fun h=>⟨by simp_all,by simp_all,by simp_all,by simp_all,by simp_all,(by simpa using h:_∧_).2⟩,fun h=>by have:=h.lo;have:=h.hi;simp;omega⟩,hs.out⟩
  ·refine .gFs 5 8 true rfl rfl rfl ?_
   refine .z zpF (.z zm ?_)
   refine .gFs 3 15 true rfl rfl rfl ?_
   refine .z zpF (.z zm ?_)
   refine .gFs 5 20 true rfl rfl rfl ?_
   refine .z zpF (.z zm ?_)
   refine .gFs 3 27 true rfl rfl rfl ?_
   refine .z zpF (.z zg (.nil ?_))
   refine .ret (Fin.bL rV rfl ?_)
   first
   |exact ⟨false,rfl,⟨fun h=>(by cases h),fun h=>(by obtain ⟨g1,g2,g3,g4,g5,g6⟩:=h;simp_all;omega)⟩,hs.out⟩
   |exact ⟨false,rfl,⟨fun h=>(by cases h),fun h=>(by obtain ⟨g1,g2,g3,g4,g5,g6⟩:=h;simp_all;done)⟩,hs.out⟩
   |exact ⟨_,rfl,⟨fun h=>⟨by simp_all,by simp_all,by simp_all,by simp_all,by simp_all,(by simpa using h:_∧_).2⟩,fun h=>by have:=h.lo;have:=h.hi;simp;omega⟩,hs.out⟩
 ·refine .gFs 3 3 true rfl rfl rfl ?_
  refine .z zpF (.z zm ?_)
  refine .gFs 5 8 true rfl rfl rfl ?_
  refine .z zpF (.z zm ?_)
  refine .gFs 3 15 true rfl rfl rfl ?_
  refine .z zpF (.z zm ?_)
  refine .gFs 5 20 true rfl rfl rfl ?_
  refine .z zpF (.z zm ?_)
  refine .gFs 3 27 true rfl rfl rfl ?_
  refine .z zpF (.z zg (.nil ?_))
  refine .ret (Fin.bL rV rfl ?_)
  first
  |exact ⟨false,rfl,⟨fun h=>(by cases h),fun h=>(by obtain ⟨g1,g2,g3,g4,g5,g6⟩:=h;simp_all;omega)⟩,hs.out⟩
  |exact ⟨false,rfl,⟨fun h=>(by cases h),fun h=>(by obtain ⟨g1,g2,g3,g4,g5,g6⟩:=h;simp_all;done)⟩,hs.out⟩
  |exact ⟨_,rfl,⟨fun h=>⟨by simp_all,by simp_all,by simp_all,by simp_all,by simp_all,(by simpa using h:_∧_).2⟩,fun h=>by have:=h.lo;have:=h.hi;simp;omega⟩,hs.out⟩
theorem fN{s:Spc}{vst vwa:Value}(hs:St H w σ)(h1:RI H vst s.st)(h2:RI H vwa s.wa)(hb:s.st.length≤1000∧s.wa.length≤1000):
  Cl Tryz.prog 91 [.agg #[I s.id,I s.src,vst,vwa,I s.al,I s.up]] w fun v w'=>v=I (s.many:Int)∧St H w' σ:=by
 obtain ⟨ast,cst,rfl⟩:=RI.shape h1
 obtain ⟨awa,cwa,rfl⟩:=RI.shape h2
 have hm:=kG (a:=(s.st.length:Int)) (b:=(s.wa.length:Int)) (A:=1000) (B:=1000) aj aj
 refine Cl.o Tryz.func91 Tryz.ntmps91 ag1 ?_
 refine .ai ?_
 refine .bx hs fun b1 w hs=>?_
 refine .z zg (.nil (.ai (.z (zfa bn) (.y hs (zld ak) (.z (cH aa) (.z (zfa aW) (.y hs (zld ak) (.z (cH aa) (.z jV ?_)))))))))
 refine .z zg (.nil ?_)
 refine .ret (Fin.bL Tryz.results91 rfl ?_)
 exact ⟨by unfold Spc.many;rw [Int.natCast_mul],hs.out⟩
theorem jT{s:Spc}{vst vwa:Value}{a b:Int}(hs:St H w σ)(h2:RI H vwa s.wa)(hb:s.wa.length≤1000)(ha: -1000≤a∧a≤1000)(hb': -1000≤b∧b≤1000):
  Cl Tryz.prog 118 [.agg #[I s.id,I s.src,vst,vwa,I s.al,I s.up],I a,I b] w fun v w'=>v=I (1+a*s.wa.length+b)∧St H w' σ:=by
 obtain ⟨awa,cwa,rfl⟩:=RI.shape h2
 have hm:=kG (a:=a) (b:=(s.wa.length:Int)) (A:=1000) (B:=1000) aj aj
 refine Cl.o Tryz.func118 Tryz.ntmps118 ag3 ?_
 refine .ai ?_
 refine .bx hs fun b3 w hs=>?_
 refine .z zg (.nil (.ai (.z zm (.z (zfa aW) (.y hs (zld ak) (.z (cH aa) (.z jV (.z cA (.z zm ?_)))))))))
 refine .z cA (.z zg (.nil ?_))
 refine .ret (Fin.bL Tryz.results118 rfl ?_)
 exact ⟨rfl,hs.out⟩
theorem e9{r:Rdg}(hs:St H w σ):
  Cl Tryz.prog 114 [.agg #[I r.src,I r.st,I r.wa,I r.val,I r.tol,I r.tape,I r.day]] w fun v w'=>v= .agg #[I r.tape,I r.day]∧St H w' σ:=by
 refine Cl.o Tryz.func114 Tryz.ntmps114 ag1 ?_
 refine .ai ?_
 refine .bx hs fun b1 w hs=>?_
 refine .o (.alloc hs kR rfl fun b2 w hs=>?_)
 refine .nil (.ai (.z (zfa eh) (.y hs (zld ae) (.z (zfa eg) (.y hs (zld ae) (.z (zbd [_,_] fQ) ?_))))))
 refine .o (.aV (vs:=[_,_]) hs rfl rfl bD fun w hs=>?_)
 refine .nil ?_
 refine .ret ?_
 exact Fin.gO [] [] hs fun w hs=>⟨_,results1 Tryz.results114 (dA (vs:=[_,_]) hs rfl dM bD),rfl,hs.out⟩
theorem ld{a b:Int}(hs:St H w σ)(ha:0≤a∧a≤100000)(hb:0≤b∧b≤100000):
  Cl Tryz.prog 230 [I a,I b] w fun v w'=>v=I (jJ a b)∧St H w' σ:=by
 have hm:=kG (a:=a) (b:=b) (A:=100000) (B:=100000) aj aj
 have h0:=Int.mul_nonneg ha.1 hb.1
 have hq0:0≤(a*b+999).tdiv 1000:=Int.tdiv_nonneg aj aj
 have hq1:(a*b+999).tdiv 1000≤a*b+999:=by rw [Int.tdiv_eq_ediv_of_nonneg aj];omega
 refine Cl.o Tryz.func230 Tryz.ntmps230 ag2 ?_
 refine .ai (.z zg (.nil (.ai (.z zm (.z zm (.z jV (.z cA ?_)))))))
 refine .q hs (uq rfl rfl aj aj) ?_
 refine .z zL (.z zg (.nil ?_))
 refine .ret (Fin.bL Tryz.results230 rfl ?_)
 exact ⟨rfl,hs⟩
def vY(s:Spc):List (List Value):=(List.range s.many).map fun p=>[Value.agg #[I ((p/s.wa.length:Nat):Int),I ((p%s.wa.length:Nat):Int),I ((p+1:Nat):Int)]]
theorem eR(s:Spc):(vY s).length=s.many:=by simp [vY]
theorem nz{s:Spc}{p:Nat}(h:p<(vY s).length):(vY s)[p]=[Value.agg #[I ((p/s.wa.length:Nat):Int),I ((p%s.wa.length:Nat):Int),I ((p+1:Nat):Int)]]:=by simp [vY]
theorem pI{H:cu}{b:Nat}{s:Spc}{vst vwa:Value}(hb:Row H b [I s.id,I s.src,vst,vwa,I s.al,I s.up])(h1:RI H vst s.st)(h2:RI H vwa s.wa)(hbd:s.st.length≤1000∧s.wa.length≤1000):
  Iter Tryz.prog 190 [.pointer (some ⟨b,0,none⟩)] H (vY s):=by
 intro ly II Ix hmI _ hy H0 σb0 σf w hle hI0 hs
 obtain ⟨ast,cst,rfl⟩:=RI.shape h1
 obtain ⟨awa,cwa,rfl⟩:=RI.shape h2
 have g2:cellAt H0 b 2=some (.slice ast s.st.length cst):=cellAt.mono (hb.at 2) hle
 have g3:cellAt H0 b 3=some (.slice awa s.wa.length cwa):=cellAt.mono (hb.at 3) hle
 have hm:s.many≤1000000:=Nat.mul_le_mul hbd.1 hbd.2
 refine Cl.o Tryz.func190 Tryz.ntmps190 ag2 ?_
 refine .ai (.z zg (.nil (.ai (.z (zfa bn) (.y hs (zld ak) (.z (cH aa) (.z zm (.nil ?_))))))))
 refine .for (N:=s.st.length) (J:=fun i fr w=>fr=[(3,I ((i*s.wa.length:Nat):Int)),(0,.func (.yield ly) #[] #[]),(1,.pointer (some ⟨b,0,none⟩))]∧∃H1 σb,HLe H H1∧HLe H0 H1∧II (i*s.wa.length) H1 σb∧St H1 w (σb++σf)) aj ?_ ?_ ?_
 ·exact .mk ⟨by rw [Nat.zero_mul],H0,σb0,hle,HLe.refl _,by rw [Nat.zero_mul];exact hI0,hs⟩
 ·rintro i fr w hi ⟨rfl,H1,σb,hle1,hle0,hI,hs⟩
  have h23:=cellAt.mono g3 hle0
  refine .block (.ai (.z zm (.z zg (.nil (.ai (.z (zfa aW) (.y hs (zld ak) (.z (cH aa) (.z zm ?_)))))))))
  refine .nil ?_
  refine .for (N:=s.wa.length) (J:=fun k fr w=>fr=[(3,I ((i*s.wa.length+k:Nat):Int)),(4,I (i:Int)),(9,I (i:Int)),(8,I (s.st.length:Int)),(0,.func (.yield ly) #[] #[]),(1,.pointer (some ⟨b,0,none⟩))]∧∃H3 σb,HLe H1 H3∧II (i*s.wa.length+k) H3 σb∧St H3 w (σb++σf)) aj ?_ ?_ ?_
  ·exact .mk ⟨rfl,H1,σb,HLe.refl _,hI,hs⟩
  ·rintro k fr w hk ⟨rfl,H3,σb3,hle3,hI3,hs⟩
   obtain ⟨d1,d2⟩:=Dj (nw:=s.wa.length) (i:=i) (k:=k) hk
   have hlt:=FY hi hk
   refine .block (.ai (.z zm (.z zg (.nil (.ai (.z zm (.z cA (.z zg (.nil ?_)))))))))
   refine .ai (.z zm (.z zm (.z zm (.z zm (.z (zbd [_,_,_] qb) ?_)))))
   have hk':i*s.wa.length+k<(vY s).length:=by rw [eR];exact hlt
   have hyd:=hy (i*s.wa.length+k) hk' H3 σb3 σf w (hle1.trans hle3) hI3 hs
   rw [nz hk',d1,d2,show ((i*s.wa.length+k+1:Nat):Int)=((i*s.wa.length+k:Nat):Int)+1 by omega] at hyd
   refine .o (.yield rfl rfl hyd ?_);rintro v25 w ⟨H5,σ5,g1,hs,g3'⟩
   obtain ⟨bb,rfl,gT,gF⟩:=od g3'
   refine .z iO (.nil ?_)
   refine (.cond rfl (fun hc26=>?_) (fun hc26=>?_))
   ·refine .ret (rB (rT (rB (rB (rT (rB (Fin.Eo Tryz.results190 ?_)))))))
    exact ⟨H5,σ5,hle0.trans (hle3.trans g1),hs,.inr (gF (by simpa using hc26))⟩
   ·refine .skip ?_
    refine nB (nT ?_)
    exact .mk ⟨rfl,H5,σ5,hle3.trans g1,gT (by simpa using hc26),hs⟩
  ·rintro fr w ⟨rfl,H3,σb3,hle3,hI3,hs⟩
   have e:i*s.wa.length+s.wa.length=(i+1)*s.wa.length:=by rw [Nat.add_mul,Nat.one_mul]
   rw [e] at hI3 ⊢
   refine nB (nT ?_)
   exact .mk ⟨rfl,H3,σb3,hle1.trans hle3,hle0.trans hle3,hI3,hs⟩
 ·rintro fr w ⟨rfl,H1,σb,hle1,hle0,hI,hs⟩
  exact Fin.xk Tryz.results190 ⟨H1,σb,hle0,hs,.inl (by rw [eR];exact hI)⟩
theorem gn{s:Spc}{vst vwa:Value}(hs:St H w σ)(h1:RI H vst s.st)(h2:RI H vwa s.wa)(hbd:s.st.length≤1000∧s.wa.length≤1000):
  Cl Tryz.prog 103 [.agg #[I s.id,I s.src,vst,vwa,I s.al,I s.up]] w fun u w'=>∃H1 b,HLe H H1∧u= .func (.func 190) #[] #[.pointer (some ⟨b,0,none⟩)]∧Iter Tryz.prog 190 [.pointer (some ⟨b,0,none⟩)] H1 (vY s)∧St H1 w' σ:=by
 obtain ⟨ast,cst,rfl⟩:=RI.shape h1
 obtain ⟨awa,cwa,rfl⟩:=RI.shape h2
 refine Cl.o Tryz.func103 Tryz.ntmps103 ag1 ?_
 refine .ai ?_
 refine .bx hs fun b1 w hs=>?_
 refine .z zg (.nil (.ai ?_))
 refine .q hs (dx (f:=[]) (c:=[_]) rfl rfl) ?_
 refine .z zg (.nil ?_)
 refine .ret (Fin.bL Tryz.results103 rfl ?_)
 obtain ⟨H1,g1,g2,hs⟩:=hs.cI .here
 exact ⟨H1,b1,g1,rfl,pI g2 (h1.mono g1) (h2.mono g1) hbd,hs⟩
set_option maxRecDepth 100000 in
theorem o8:Tryz.prog.stoodInHeld 49=false:=by kernel_rfl
set_option maxRecDepth 100000 in
theorem o9:Tryz.prog.eqGuardType Tryz.prog.depth 49=false:=by kernel_rfl
theorem oq{v:Value}{en:Ent}{xs:List TD}{g:Nat}{cap:List Value}(q:TD→Bool)(hs:St H w (en::σ))(hO:cn 2 v (tdc xs).flatten en)(hl:xs.length≤1000000)(hc:∀args w,(callFunc g args).run Tryz.prog w= .ok (.enter g args) w)
  (hp:∀w (t:TD),St H w (en::σ)→Cl Tryz.prog g ([.agg #[I t.tape,I t.day]]++cap) w fun u w'=>u= .bool (q t)∧St H w' (en::σ)):
  Cl Tryz.prog 229 [v,.func (.func g) #[] cap.toArray] w fun u w'=>∃i:Int,u=I i∧(0≤i↔∃x∈xs,q x=true)∧St H w' (en::σ):=by
 obtain ⟨a,c,rfl⟩:=hO.ek (kN xs) aj
 rw [dE] at hO ⊢
 refine Cl.o Tryz.func229 Tryz.ntmps229 ag2 ?_
 refine .ai (.z zg (.nil (.seq (.ai (.z zm (.z (cH bg) (.z zm (.nil ?_))))))))
 refine .for (N:=xs.length) (J:=fun k fr w=>fr=[(1,.func (.func g) #[] cap.toArray),(0,.slice a xs.length c)]∧(∀j<k,∀y,xs[j]? =some y→¬q y=true)∧St H w (en::σ)) aj ?_ ?_ ?_
 ·exact .mk ⟨rfl,fun j hj=>by omega,hs⟩
 ·rintro k fr w hk ⟨rfl,hno,hs⟩
  obtain ⟨x,hx⟩:=nth hk
  obtain ⟨b,c',sp,hv,rfl,_⟩:=hO.Bt (kN xs) aj (by rw [dE];omega)
  rw [dE] at hv
  cases hv
  refine .block (.ai (.z zm (.z zg (.nil (.ai (.z zm (.z zm (.z zm (.z (lA bg bD) ?_)))))))))
  refine .q hs (iC (vs:=x.c) rfl dM bD .here (nW (kN xs) (xr hx) sp)) ?_
  refine .o (.mr (first:=[]) (cap:=cap) rfl rfl hc (hp _ x hs) ?_);rintro _ w ⟨rfl,hs⟩
  refine .nil ?_
  refine (.cond rfl (fun hc16=>?_) (fun hc16=>?_))
  ·refine .ai (.z zm (.z zg (.nil ?_)))
   refine .ret (rB (rT (rB (rT (Fin.bL Tryz.results229 rfl ?_)))))
   exact ⟨_,rfl,⟨fun _=>⟨x,List.mem_of_getElem? hx,hc16⟩,fun _=>by omega⟩,hs⟩
  ·refine .skip ?_
   refine nB (nT ?_)
   exact .mk ⟨rfl,eE hno hx (by simpa using hc16),hs⟩
 ·rintro fr w ⟨rfl,hno,hs⟩
  refine nT ?_
  refine .ai (.z zg (.nil ?_))
  refine .ret (Fin.bL Tryz.results229 rfl ?_)
  exact ⟨_,rfl,⟨fun h=>by omega,fun ⟨x,h1,h2⟩=>by
   obtain ⟨j,hj⟩:=List.getElem?_of_mem h1
   exact (hno j (List.getElem?_eq_some_iff.1 hj).1 x hj h2).elim⟩,hs⟩
theorem mj{v:Value}{en:Ent}{xs:List TD}{g:Nat}{cap:List Value}(q:TD→Bool)(hs:St H w (en::σ))(hO:cn 2 v (tdc xs).flatten en)(hl:xs.length≤1000000)(hc:∀args w,(callFunc g args).run Tryz.prog w= .ok (.enter g args) w)
  (hp:∀w (t:TD),St H w (en::σ)→Cl Tryz.prog g ([.agg #[I t.tape,I t.day]]++cap) w fun u w'=>u= .bool (q t)∧St H w' (en::σ)):
  Cl Tryz.prog 172 [v,.func (.func g) #[] cap.toArray] w fun u w'=>∃b:Bool,u= .bool b∧(b=true↔∃x∈xs,q x=true)∧St H w' (en::σ):=by
 refine Cl.o Tryz.func172 Tryz.ntmps172 ag2 ?_
 refine .ai (.z zg (.nil (.ai (.z zm (.z zm ?_)))))
 refine .o (.call Tryz.call229 rfl (oq q hs hO hl hc hp) ?_);rintro _ w ⟨i,rfl,hi,hs⟩
 refine .z xo (.z zg (.nil ?_))
 refine .ret (Fin.bL Tryz.results172 rfl ?_)
 exact ⟨_,rfl,by simp only [decide_eq_true_eq];exact hi,hs⟩
theorem mG{v:Value}{xs:List TD}{t:TD}(hs:St H w σ)(hr:RTd H v xs)(hl:xs.length≤1000000):
  Cl Tryz.prog 89 [v,.agg #[I t.tape,I t.day]] w fun u w'=>u=I (iN xs t)∧St H w' σ:=by
 obtain ⟨a,c,rfl⟩:=RTd.shape hr
 refine Cl.o Tryz.func89 Tryz.ntmps89 ag2 ?_
 refine .ai ?_
 refine .bx hs fun b3 w hs=>?_
 refine .z zg (.nil (.seq (.ai (.z zm (.z (cH bg) (.z zm (.nil ?_)))))))
 refine .for (N:=xs.length) (J:=fun k fr w=>fr=[(0,.slice a xs.length c),(3,.pointer (some ⟨b3,0,none⟩))]∧(∀j<k,∀y,xs[j]? =some y→¬y=t)∧St H w (.blk b3 [I t.tape,I t.day]::σ)) aj ?_ ?_ ?_
 ·exact .mk ⟨rfl,fun j hj=>by omega,hs⟩
 ·rintro k fr w hk ⟨rfl,hno,hs⟩
  obtain ⟨x,hx⟩:=nth hk
  refine .block (.ai (.z zm (.z zg (.nil ?_))))
  refine .seq (.draw mix rfl hs fun w hs=>?_)
  refine .ys 0 rfl hs [_,_] dM bD ?_;refine .z 1 rfl zm ?_;refine .z 2 rfl zm ?_
  refine .ixX (enc:=TD.c) (i:=3) hs rfl aq .none hr rfl rfl bg bD hx cM ?_;intro b14 o14 hc14
  refine .r (i:=4) hs rfl aq .none (bY (vs:=x.c) rfl dM bD hc14) ?_
  refine .z 5 rfl (lY o8 o9 fW (fun f hf=>by
   simp only [List.mem_cons,List.not_mem_nil,or_false] at hf
   rcases hf with rfl|rfl<;>exact ⟨by decide,aS,ae⟩) rfl rfl) ?_
  refine .D hs ?_
  refine (.cond rfl (fun hc16=>?_) (fun hc16=>?_))
  ·refine .ai (.z zm (.z zg (.nil ?_)))
   refine .ret (rB (rT (rB (rT (Fin.bL Tryz.results89 rfl ?_)))))
   have e:x=t:=zY.1 (by have:=of_decide_eq_true hc16;exact ⟨this.1.symm,this.2.symm⟩)
   subst e
   exact ⟨by rw [mD hx fun j hj h=>hno j hj _ h rfl],hs.tail⟩
  ·refine .skip ?_
   refine nB (nT ?_)
   exact .mk ⟨rfl,eE hno hx (fun e=>by subst e;simp at hc16),hs⟩
 ·rintro fr w ⟨rfl,hno,hs⟩
  refine nT ?_
  refine .ai (.z zg (.nil ?_))
  refine .ret (Fin.bL Tryz.results89 rfl ?_)
  exact ⟨by rw [rY hno],hs.tail⟩
theorem nG{t:TD}{r:Rdg}{b:Nat}(hs:St H w σ)(hb:Row H b r.c):
  Cl Tryz.prog 173 [.agg #[I t.tape,I t.day],.pointer (some ⟨b,0,none⟩)] w fun u w'=>u= .bool (decide (t=r.td))∧St H w' σ:=by
 have hb0:bH H b 0 r.c:=hb.cells 0 r.c
 refine Cl.o Tryz.func173 Tryz.ntmps173 ag2 ?_
 refine .ai ?_
 refine .bx hs fun b2 w hs=>?_
 refine .z zg (.nil ?_)
 refine .seq (.draw mix rfl hs fun w hs=>?_)
 refine .ys 0 rfl hs [_,_] dM bD ?_;refine .ys 1 rfl hs [_,_,_,_,_,_,_] cq aA ?_
 refine .E 2 hs ?_
 refine .call FT rfl (e9 hs) ?_;rintro _ w ⟨rfl,hs⟩
 refine .go ?_
 refine .z 3 rfl (lY o8 o9 fW (fun f hf=>by
  simp only [List.mem_cons,List.not_mem_nil,or_false] at hf
  rcases hf with rfl|rfl<;>exact ⟨by decide,aS,ae⟩) rfl rfl) ?_
 refine .z 4 rfl zg ?_;refine .D hs ?_
 refine .ret (Fin.bL Tryz.results173 rfl ?_)
 exact ⟨by congr 1;rw [decide_eq_decide];exact zY (t:=t) (u:=r.td),hs.tail⟩
set_option maxHeartbeats 1000000 in
theorem la{s:Srv}{vst vwa vr vc:Value}(hs:St H w σ)(hr:RRd H vr s.rs)(hl:s.rs.length≤1000000):
  Cl Tryz.prog 90 [.agg #[I s.sp.id,I s.sp.src,vst,vwa,I s.sp.al,I s.sp.up,vr,vc]] w fun u w'=>∃H1 en,HLe H H1∧cn 2 u (tdc s.bw).flatten en∧St H1 w' (en::σ):=by
 obtain ⟨ar,cr,rfl⟩:=RRd.shape hr
 refine Cl.o Tryz.func90 Tryz.ntmps90 ag1 ?_
 refine .ai ?_
 refine .bx hs fun b1 w hs=>?_
 refine .z zg (.nil (.ai (.z zg (.nil (.seq (.ai (.z (zfa aD) (.y hs (zld aO) (.z (cH an) ?_)))))))))
 refine .z zm (.nil ?_)
 refine .for (N:=s.rs.length) (J:=fun k fr w=>∃vo en H1,fr=[(7,.slice ar s.rs.length cr),(3,vo)]∧HLe H H1∧cn 2 vo (tdc (bj (s.rs.take k))).flatten en∧St H1 w (en::σ)) aj ?_ ?_ ?_
 ·exact .mk ⟨_,.nul,H,rfl,HLe.refl _,.nil 2 none,hs.tail.nul⟩
 ·rintro k fr w hk ⟨vo,en,H1,rfl,hle1,hO,hs⟩
  obtain ⟨r,hx⟩:=nth hk
  have htk:=iJ hx
  have htl:=kb s.rs k aj
  obtain ⟨ao,co,rfl⟩:=hO.ek (kN _) aj
  rw [dE] at hO ⊢
  refine .block (.ai ?_)
  refine .ixX (enc:=Rdg.c) hs (hr.mono hle1) rfl rfl an aA hx cM ?_;intro b11 o11 hc11
  refine .q hs (bY (vs:=(Rdg.c r)) rfl cq aA hc11) ?_
  refine .o (.alloc hs dC rfl fun b5 w hs=>?_)
  refine .o (.aV (vs:=r.c) hs rfl rfl aA fun w hs=>?_)
  obtain ⟨H2,hle2,r5,hs⟩:=hs.cI (b:=b5) (c:=r.c) .here
  have c5:bH H2 b5 0 r.c:=r5.cells 0 r.c
  refine .nil (.ai (.z zm ?_))
  refine .q hs (dx (f:=[]) (c:=[_]) rfl rfl) ?_
  refine .o (.call Tryz.call172 rfl (mj (g:=173) (cap:=[.pointer (some ⟨b5,0,none⟩)]) (fun t=>decide (t=r.td)) hs hO aj Tryz.call173 (fun w t hs=>nG hs r5)) ?_);rintro _ w ⟨b15,rfl,hb15,hs⟩
  refine .z iO (.nil ?_)
  refine (.cond rfl (fun hc16=>?_) (fun hc16=>?_))
  ·refine .region (.z zm ?_)
   refine .q hs (bY (vs:=r.c) rfl cq aA c5) ?_
   refine .o (.call FT rfl (e9 (r:=r) hs) ?_);rintro _ w ⟨rfl,hs⟩
   refine .o (.buildSlice (cells:=[_,_]) hs fH rfl rfl fun b20 w hs=>?_)
   refine .o (.append (ys:=r.td.c) hs dR rfl rfl hO (.own .here rfl rfl) (by simp [TD.c,Value.oneCell']) (fun l h=>by rw [bq _ (kN _),dE] at h;omega) ?_);intro v21 en21 w hO2 hs
   refine .z zg (.nil ?_)
   refine nB (nT ?_)
   have hn:r.td∉bj (s.rs.take k):=fun hm=>by
    rw [hb15.2 ⟨_,hm,bQ⟩] at hc16;cases hc16
   rw [←rX,show bj (s.rs.take k)++[r.td]=bj (s.rs.take (k+1)) by rw [htk];unfold nO;rw [if_neg hn]] at hO2
   exact .mk ⟨_,_,H2,rfl,hle1.trans hle2,hO2,hs.sb⟩
  ·refine .skip ?_
   refine nB (nT ?_)
   have hm:r.td∈bj (s.rs.take k):=by
    obtain ⟨x,h1,h2⟩:=hb15.1 (by simpa using hc16)
    rw [←of_decide_eq_true h2];exact h1
   exact .mk ⟨_,_,H2,rfl,hle1.trans hle2,by rw [htk];unfold nO;rw [if_pos hm];exact hO,hs⟩
 ·rintro fr w ⟨vo,en,H1,rfl,hle1,hO,hs⟩
  rw [List.take_length] at hO
  refine nT ?_
  refine .ai (.z zm (.z zg (.nil ?_)))
  refine .ret (Fin.bL Tryz.results90 rfl ?_)
  exact ⟨H1,en,hle1,hO,hs⟩
theorem iU{s:Srv}{vst vwa vr vc:Value}(hs:St H w σ)(hr:RRd H vr s.rs)(hl:s.rs.length≤1000000):
  Cl Tryz.prog 90 [.agg #[I s.sp.id,I s.sp.src,vst,vwa,I s.sp.al,I s.sp.up,vr,vc]] w fun u w'=>∃H1,HLe H H1∧RTd H1 u s.bw∧St H1 w' σ:=by
 refine (la hs hr hl).mono ?_
 rintro u w' ⟨H1,en,hle1,hO,hs⟩
 have htl:=dq s.rs
 have htl':s.bw.length≤1000000:=by unfold Srv.bw;omega
 obtain ⟨H2,hle2,hR,hs⟩:=cn.cI (m:=2) hO (kN _) aj (by rw [dE];omega) hs .here
 exact ⟨H2,hle1.trans hle2,hR,hs⟩
theorem pn{v:Value}{en:Ent}{xs:List TD}{t:TD}(hs:St H w (en::σ))(hO:cn 2 v (tdc xs).flatten en)(hl:xs.length≤1000000):
  Cl Tryz.prog 89 [v,.agg #[I t.tape,I t.day]] w fun u w'=>u=I (iN xs t)∧St H w' (en::σ):=by
 obtain ⟨a,c,rfl⟩:=hO.ek (kN xs) aj
 rw [dE] at hO ⊢
 refine Cl.o Tryz.func89 Tryz.ntmps89 ag2 ?_
 refine .ai ?_
 refine .bx hs fun b3 w hs=>?_
 refine .z zg (.nil (.seq (.ai (.z zm (.z (cH bg) (.z zm (.nil ?_)))))))
 refine .for (N:=xs.length) (J:=fun k fr w=>fr=[(0,.slice a xs.length c),(3,.pointer (some ⟨b3,0,none⟩))]∧(∀j<k,∀y,xs[j]? =some y→¬y=t)∧St H w (.blk b3 [I t.tape,I t.day]::en::σ)) aj ?_ ?_ ?_
 ·exact .mk ⟨rfl,fun j hj=>by omega,hs⟩
 ·rintro k fr w hk ⟨rfl,hno,hs⟩
  obtain ⟨x,hx⟩:=nth hk
  obtain ⟨b,c',sp,hv,rfl,_⟩:=hO.Bt (kN xs) aj (by rw [dE];omega)
  rw [dE] at hv
  cases hv
  refine .block (.ai (.z zm (.z zg (.nil ?_))))
  refine .seq (.draw mix rfl hs fun w hs=>?_)
  refine .ys 0 rfl hs [_,_] dM bD ?_;refine .z 1 rfl zm ?_;refine .z 2 rfl zm ?_;refine .z 3 rfl (lA bg bD) ?_
  refine .xI (i:=4) (vs:=x.c) hs rfl aq .none rfl dM bD ?_ (hv:=nW (kN xs) (xr hx) sp)
  refine .z 5 rfl (lY o8 o9 fW (fun f hf=>by
   simp only [List.mem_cons,List.not_mem_nil,or_false] at hf
   rcases hf with rfl|rfl<;>exact ⟨by decide,aS,ae⟩) rfl rfl) ?_
  refine .D hs ?_
  refine (.cond rfl (fun hc16=>?_) (fun hc16=>?_))
  ·refine .ai (.z zm (.z zg (.nil ?_)))
   refine .ret (rB (rT (rB (rT (Fin.bL Tryz.results89 rfl ?_)))))
   have e:x=t:=zY.1 (by have:=of_decide_eq_true hc16;exact ⟨this.1.symm,this.2.symm⟩)
   subst e
   exact ⟨by rw [mD hx fun j hj h=>hno j hj _ h rfl],hs.tail⟩
  ·refine .skip ?_
   refine nB (nT ?_)
   exact .mk ⟨rfl,eE hno hx (fun e=>by subst e;simp at hc16),hs⟩
 ·rintro fr w ⟨rfl,hno,hs⟩
  refine nT ?_
  refine .ai (.z zg (.nil ?_))
  refine .ret (Fin.bL Tryz.results89 rfl ?_)
  exact ⟨by rw [rY hno],hs.tail⟩
theorem fB{x0 x1 x2 x3 x4 x5 x6 x7 x8 vl:Value}{en:Ent}{bm:Nat}{ls:List Lim}{a b hi lo by_:Int}(hs:St H w (.blk bm [x0,x1,x2,x3,x4,x5,x6,x7,x8,vl]::en::σ))(hO:cn 4 vl (gg ls) en)(hl:ls.length≤100000):
  Cl Tryz.prog 115 [.pointer (some ⟨bm,0,none⟩),I a,I b,I hi,I lo,I by_] w fun _ w'=>∃vl' en',cn 4 vl' (gg (ls++two a b hi lo by_)) en'∧St H w' (.blk bm [x0,x1,x2,x3,x4,x5,x6,x7,x8,vl']::en'::σ):=by
 obtain ⟨al,ll,cl,rfl,h⟩:=hO.shape
 refine Cl.of Tryz.func115 rfl Tryz.ntmps115 bQ (dV (k:=0) rfl (dV (k:=1) rfl (dV (k:=2) rfl (dV (k:=3) rfl (dV (k:=4) rfl (dV (k:=5) rfl (vN))))))) ?_
 refine .region (.z zm (.z zm (.z znc (.z (zfa gx) (.y hs (zld du) (.z zm (.z zm (.z zm (.z zm ?_)))))))))
 refine .z (zbd [_,_,_,_] eD) (.z zm (.z zm (.z zm (.z zm (.z (zbd [_,_,_,_] eD) ?_)))))
 refine .o (.buildSlice (cells:=gg (two a b hi lo by_)) hs fw rfl aq fun b27 w hs=>?_)
 refine .o (.append (ys:=gg (two a b hi lo by_)) hs ck rfl rfl hO (.own .here rfl rfl) (jG _) (fun l h=>by rw [dK] at h;omega) ?_);intro v28 en28 w hO2 hs
 rw [←gd] at hO2
 obtain ⟨a28,l28,c28,rfl,h28⟩:=hO2.shape
 refine .z znc (.z (zfa gx) ?_)
 refine .o (.store hs rfl rfl lP fun w hs=>?_)
 refine .nil ?_
 exact Fin.xk Tryz.results115 ⟨_,_,hO2,hs.sb⟩
theorem iW{s:Spc}{vst vwa x6 x7 x8 vl:Value}{bm:Nat}{j:Int}(hs:St H w σ)(hm:Mem σ (.blk bm [I s.id,I s.src,vst,vwa,I s.al,I s.up,x6,x7,x8,vl]))(h1:RI H vst s.st)(h2:RI H vwa s.wa)(hb:s.st.length≤1000∧s.wa.length≤1000)(hj: -1≤j∧j≤1000):
  Cl Tryz.prog 116 [.pointer (some ⟨bm,0,none⟩),I j] w fun u w'=>u=I ((s.many:Int)+1+j)∧St H w' σ:=by
 have hmm:s.many≤1000000:=Nat.mul_le_mul hb.1 hb.2
 refine Cl.o Tryz.func116 Tryz.ntmps116 ag2 ?_
 refine .ai (.z zg (.nil (.ai (.z zm (.z znc (.z (zfa dH) (.z (zfa aN) ?_)))))))
 refine .q hs (iC (vs:=[I s.id,I s.src,vst,vwa,I s.al,I s.up]) rfl aQ aH hm) ?_
 refine .o (.call Tryz.call91 rfl (fN (s:=s) hs h1 h2 hb) ?_);rintro _ w ⟨rfl,hs⟩
 refine .z cA (.z zm (.z cA (.z zg (.nil ?_))))
 refine .ret (Fin.bL Tryz.results116 rfl ?_)
 exact ⟨rfl,hs⟩
theorem ea{s:Spc}(h:fG s):s.st.length≤1000∧s.wa.length≤1000∧0<s.wa.length∧s.many≤63:=by
 have h1:=h.st.many;have h2:=h.wa.many;have h3:=h.wa.two
 have:s.many≤9*7:=Nat.mul_le_mul h1 h2
 omega
theorem oG{s:Srv}{ts:List TD}{vst vwa vr vc vt vl:Value}{en:Ent}{bm:Nat}{ls:List Lim}(hs:St H w (.blk bm [I s.sp.id,I s.sp.src,vst,vwa,I s.sp.al,I s.sp.up,vr,vc,vt,vl]::en::σ))(hk:MkK H s ts vst vwa vr vc vt)(hO:cn 4 vl (gg ls) en)(hl:ls.length≤10000)(hok:fG s.sp):
  Cl Tryz.prog 174 [.pointer (some ⟨bm,0,none⟩)] w fun _ w'=>∃H1 vl' en',HLe H H1∧cn 4 vl' (gg (ls++eB (qh s.sp) s.sp.wa.length s.sp.st.length)) en'∧St H1 w' (.blk bm [I s.sp.id,I s.sp.src,vst,vwa,I s.sp.al,I s.sp.up,vr,vc,vt,vl']::en'::σ):=by
 have hsm:=ea hok
 refine Cl.o Tryz.func174 Tryz.ntmps174 ag1 ?_
 refine .ai ?_
 refine .bx hs fun b1 w hs=>?_
 refine .nil (.ai (.y hs (zld qk) (.z znc (.z (zfa dH) (.z (zfa aN) (.y hs (zls [_,_,_,_,_,_] aQ aH) ?_))))))
 refine .o (.call FU rfl (gn (s:=s.sp) hs hk.st hk.wa ⟨aj,aj⟩) ?_);rintro _ w ⟨H1,ba,hle1,rfl,hit,hs⟩
 refine .nil (.block ?_)
 refine .rangeFunc (gf:=190) (cap:=[.pointer (some ⟨ba,0,none⟩)]) (xs:=vY s.sp) (σb:=[.blk bm [I s.sp.id,I s.sp.src,vst,vwa,I s.sp.al,I s.sp.up,vr,vc,vt,vl],en,.blk b1 [.pointer (some ⟨bm,0,none⟩)]]) (σf:=σ) (hs.sb) trivial rfl hit FQ (fun x hx=>by
   simp only [vY,List.mem_map] at hx
   obtain ⟨j,_,rfl⟩:=hx;rfl) rfl
  (I:=fun p H' σb=>∃vl en,σb=[.blk bm [I s.sp.id,I s.sp.src,vst,vwa,I s.sp.al,I s.sp.up,vr,vc,vt,vl],en,.blk b1 [.pointer (some ⟨bm,0,none⟩)]]∧cn 4 vl (gg (ls++pN (qh s.sp) s.sp.wa.length p)) en) (Ix:=fun _ _ _=>False)
  (fun j _ _ σ g1 g2=>g2) (fun _ _ _ _ _ h=>h) ⟨vl,en,rfl,by rw [nr,List.append_nil];exact hO⟩ ?_ ?_ (fun D c H' σb w _ h _=>h.elim)
 ·rintro ly p hp H2 σb2 σf2 w hle2 ⟨vl,en,rfl,hO⟩ hs ⟨rr,hrr⟩
  have hpm:p<s.sp.many:=by rw [eR] at hp;exact hp
  have hsucc:=ns (qh s.sp) (p:=p) hsm.2.2.1
  have hpl:=jx (ny s.sp) hsm.2.2.1 p
  have hin:p/s.sp.wa.length<s.sp.st.length:=Nat.div_lt_of_lt_mul (by rw [Nat.mul_comm];exact hpm)
  have hkm:=Nat.mod_lt p hsm.2.2.1
  have hdm:=Nat.div_add_mod p s.sp.wa.length
  rw [Nat.mul_comm] at hdm
  have hu:(s.sp.u (p/s.sp.wa.length) (p%s.sp.wa.length):Int)=(p:Int)+1:=by unfold Spc.u;omega
  rw [nz hp]
  obtain ⟨al,ll,cl,rfl,hll⟩:=hO.shape
  generalize p/s.sp.wa.length=i at*
  generalize p%s.sp.wa.length=k at*
  have hk2:=hk.mono (hle1.trans hle2)
  refine .region ?_
  refine .o (.alloc hs nQ rfl fun b2 w hs=>?_)
  refine .o (.aV (vs:=[_,_,_]) hs rfl rfl tZ fun w hs=>?_)
  refine .nil ?_
  refine nT ?_
  refine ⟨H2,[.blk b2 [I (i:Int),I (k:Int),I ((p+1:Nat):Int)],.blk bm [I s.sp.id,I s.sp.src,vst,vwa,I s.sp.al,I s.sp.up,vr,vc,vt,.slice al ll cl],en,.blk b1 [.pointer (some ⟨bm,0,none⟩)]],HLe.refl _,hs,?_⟩;rintro w σf4 - hs
  refine .block ?_
  refine .draw mix rfl hs fun w hs=>?_
  refine .y 0 rfl hs qk ?_;refine .z 1 rfl (zfa ew) ?_;refine .y 2 rfl hs ae ?_;refine .y 3 rfl hs qk ?_;refine .z 4 rfl znc ?_;refine .z 5 rfl (zfa dH) ?_;refine .z 6 rfl (zfa aN) ?_;refine .z 7 rfl (zfa df) ?_;refine .y 8 rfl hs ae ?_
  refine .E 9 hs ?_
  refine .call tz rfl (fB (ls:=ls++pN (qh s.sp) s.sp.wa.length p) (hs.sb:St H2 w (.blk bm _::en:: .blk b1 _::σf4)) hO (by rw [List.length_append];omega)) ?_;rintro _ w ⟨vl3,en3,hO3,hs⟩
  rw [show two 0 ((p+1:Nat):Int) 20000 0 s.sp.src=qh s.sp i k by unfold qh;rw [hu];rfl,List.append_assoc,←hsucc] at hO3
  refine .go ?_
  refine .D hs ?_
  refine nB ?_
  exact ⟨H2,_,HLe.refl _,hs,_,_,rfl,hO3⟩
 ·rintro D H2 σb2 w hle2 ⟨vl,en,rfl,hO⟩ hs
  rw [eR,show s.sp.many=s.sp.st.length*s.sp.wa.length from rfl,pM _ hsm.2.2.1] at hO
  refine nB ?_
  exact Fin.Fb [D] [] hs fun w hs=>⟨_,results0 Tryz.results174,H2,vl,en,hle1.trans hle2,hO,(hs.sb:St H2 w (.blk bm _::en::σ))⟩
theorem rM{s:Srv}{ts:List TD}{vst vwa vr vc vt vl:Value}{en:Ent}{bm:Nat}{ls:List Lim}(hs:St H w (.blk bm [I s.sp.id,I s.sp.src,vst,vwa,I s.sp.al,I s.sp.up,vr,vc,vt,vl]::en::σ))(hk:MkK H s ts vst vwa vr vc vt)(hO:cn 4 vl (gg ls) en)(hl:ls.length≤10000)(hok:fG s.sp):
  Cl Tryz.prog 175 [.pointer (some ⟨bm,0,none⟩)] w fun _ w'=>∃H1 vl' en',HLe H H1∧cn 4 vl' (gg (ls++eB (alL s.sp) s.sp.wa.length s.sp.st.length)) en'∧St H1 w' (.blk bm [I s.sp.id,I s.sp.src,vst,vwa,I s.sp.al,I s.sp.up,vr,vc,vt,vl']::en'::σ):=by
 have hsm:=ea hok
 obtain ⟨ast,cst,rfl⟩:=RI.shape hk.st
 obtain ⟨awa,cwa,rfl⟩:=RI.shape hk.wa
 refine Cl.o Tryz.func175 Tryz.ntmps175 ag1 ?_
 refine .ai ?_
 refine .bx hs fun b1 w hs=>?_
 refine .nil (.ai (.y hs (zld qk) (.z znc (.z (zfa dH) (.z (zfa aN) (.y hs (zls [_,_,_,_,_,_] aQ aH) ?_))))))
 refine .o (.alloc hs gN rfl fun b2 w hs=>?_)
 refine .o (.aV (vs:=[_,_,_,_,_,_]) hs rfl rfl aH fun w hs=>?_)
 refine .nil (.ai (.y hs (zls [_,_,_,_,_,_] aQ aH) ?_))
 refine .o (.call FU rfl (gn (s:=s.sp) hs hk.st hk.wa ⟨aj,aj⟩) ?_);rintro _ w ⟨H1,ba,hle1,rfl,hit,hs⟩
 refine .nil (.block ?_)
 refine .rangeFunc (gf:=190) (cap:=[.pointer (some ⟨ba,0,none⟩)]) (xs:=vY s.sp) (σb:=[.blk bm [I s.sp.id,I s.sp.src,.slice ast s.sp.st.length cst,.slice awa s.sp.wa.length cwa,I s.sp.al,I s.sp.up,vr,vc,vt,vl],en,.blk b1 [.pointer (some ⟨bm,0,none⟩)],.blk b2 [I s.sp.id,I s.sp.src,.slice ast s.sp.st.length cst,.slice awa s.sp.wa.length cwa,I s.sp.al,I s.sp.up]]) (σf:=σ) (hs.sb) trivial rfl hit FQ (fun x hx=>by
   simp only [vY,List.mem_map] at hx
   obtain ⟨j,_,rfl⟩:=hx;rfl) rfl
  (I:=fun p H' σb=>∃vl en,σb=[.blk bm [I s.sp.id,I s.sp.src,.slice ast s.sp.st.length cst,.slice awa s.sp.wa.length cwa,I s.sp.al,I s.sp.up,vr,vc,vt,vl],en,.blk b1 [.pointer (some ⟨bm,0,none⟩)],.blk b2 [I s.sp.id,I s.sp.src,.slice ast s.sp.st.length cst,.slice awa s.sp.wa.length cwa,I s.sp.al,I s.sp.up]]∧cn 4 vl (gg (ls++pN (alL s.sp) s.sp.wa.length p)) en) (Ix:=fun _ _ _=>False)
  (fun j _ _ σ g1 g2=>g2) (fun _ _ _ _ _ h=>h) ⟨vl,en,rfl,by rw [nr,List.append_nil];exact hO⟩ ?_ ?_ (fun D c H' σb w _ h _=>h.elim)
 ·rintro ly p hp H2 σb2 σf2 w hle2 ⟨vl,en,rfl,hO⟩ hs ⟨rr,hrr⟩
  have hpm:p<s.sp.many:=by rw [eR] at hp;exact hp
  have hsucc:=ns (alL s.sp) (p:=p) hsm.2.2.1
  have hpl:=jx (qU s.sp) hsm.2.2.1 p
  have hin:p/s.sp.wa.length<s.sp.st.length:=Nat.div_lt_of_lt_mul (by rw [Nat.mul_comm];exact hpm)
  have hkm:=Nat.mod_lt p hsm.2.2.1
  have hdm:=Nat.div_add_mod p s.sp.wa.length
  rw [Nat.mul_comm] at hdm
  have hu:(s.sp.u (p/s.sp.wa.length) (p%s.sp.wa.length):Int)=(p:Int)+1:=by unfold Spc.u;omega
  rw [nz hp]
  obtain ⟨al,ll,cl,rfl,hll⟩:=hO.shape
  generalize p/s.sp.wa.length=i at*
  generalize p%s.sp.wa.length=k at*
  have hk2:=hk.mono (hle1.trans hle2)
  refine .region ?_
  refine .o (.alloc hs nQ rfl fun b3 w hs=>?_)
  refine .o (.aV (vs:=[_,_,_]) hs rfl rfl tZ fun w hs=>?_)
  refine .nil ?_
  refine nT ?_
  refine ⟨H2,[.blk b3 [I (i:Int),I (k:Int),I ((p+1:Nat):Int)],.blk bm [I s.sp.id,I s.sp.src,.slice ast s.sp.st.length cst,.slice awa s.sp.wa.length cwa,I s.sp.al,I s.sp.up,vr,vc,vt,.slice al ll cl],en,.blk b1 [.pointer (some ⟨bm,0,none⟩)],.blk b2 [I s.sp.id,I s.sp.src,.slice ast s.sp.st.length cst,.slice awa s.sp.wa.length cwa,I s.sp.al,I s.sp.up]],HLe.refl _,hs,?_⟩;rintro w σf4 - hs
  refine .block (.ai (.z (zfa dJ) (.y hs (zld ae) (.z cA (.z (zfa bn) (.y hs (zld ak) (.z (cH aa) (.z fj (.nil ?_)))))))))
  refine (.bJ rfl (fun hc19=>?_) (fun hc19=>?_))
  ·refine .seq (.draw mix rfl hs fun w hs=>?_)
   refine .z 0 rfl (zfa dF) ?_;refine .z 1 rfl (zfa iZ) ?_;refine .y 2 rfl hs ae ?_;refine .z 3 rfl (zfa bn) ?_;refine .y 4 rfl hs ak ?_;refine .z 5 rfl (zfa dJ) ?_;refine .y 6 rfl hs ae ?_;refine .z 7 rfl cA ?_
   have hris:=hok.st.rise i aj
   have hq0:=hok.st.bd (i:=i) aj
   have hq1:=hok.st.bd (i:=i+1) aj
   have hal:=hok.al
   refine .ixX (enc:=fun x=>[I x]) (i:=8) hs rfl aq .none hk2.st rfl rfl aa af (bu (l:=s.sp.st) (i:=(i+1)) aj) cM ?_;intro b28 o28 hc28;replace hc28:=bH.one hc28
   refine .r (i:=9) hs rfl aq .none (aK rfl ae hc28) ?_
   refine .z 10 rfl (zfa bn) ?_;refine .y 11 rfl hs ak ?_;refine .z 12 rfl (zfa dJ) ?_;refine .y 13 rfl hs ae ?_
   refine .ixX (enc:=fun x=>[I x]) (i:=14) hs rfl aq .none hk2.st rfl rfl aa af (bu (l:=s.sp.st) (i:=i) aj) cM ?_;intro b34 o34 hc34;replace hc34:=bH.one hc34
   refine .r (i:=15) hs rfl aq .none (aK rfl ae hc34) ?_
   refine .z 16 rfl ir ?_
   refine .E 17 hs ?_
   refine .call Tryz.call230 rfl (ld hs aj aj) ?_;rintro _ w ⟨rfl,hs⟩
   refine .go ?_
   refine .z 18 rfl zg ?_;refine .D hs ?_
   refine .region (.y hs (zld qk) (.z (zfa ew) (.y hs (zld ae) (.z (zfa ew) (.y hs (zld ae) (.z (zfa aW) (.y hs (zld ak) (.z (cH aa) (.z cA ?_)))))))))
   refine .z zm (.z zm (.z (zfa df) (.y hs (zld ae) ?_)))
   refine .o (.call tz rfl (fB (ls:=ls++pN (alL s.sp) s.sp.wa.length p) (hs.sb:St H2 w (.blk bm _::en:: .blk b1 _:: .blk b2 _::σf4)) hO (by rw [List.length_append];omega)) ?_);rintro _ w ⟨vl3,en3,hO3,hs⟩
   have hu2:(s.sp.u (i+1) k:Int)=((p+1:Nat):Int)+(s.sp.wa.length:Int):=by unfold Spc.u at hu ⊢;rw [Nat.add_mul];omega
   rw [show two ((p+1:Nat):Int) (((p+1:Nat):Int)+(s.sp.wa.length:Int)) (jJ s.sp.al (gi s.sp.st (i+1) - gi s.sp.st i)) (jJ s.sp.al (gi s.sp.st (i+1) - gi s.sp.st i)) s.sp.src=alL s.sp i k by unfold alL;rw [if_pos aj,hu,hu2];rfl,List.append_assoc,←hsucc] at hO3
   refine .nil ?_
   refine nB ?_
   exact ⟨H2,_,HLe.refl _,hs,_,_,rfl,hO3⟩
  ·refine .skip ?_
   refine nB ?_
   rw [show alL s.sp i k=[] by unfold alL;rw [if_neg aj],List.append_nil] at hsucc
   exact ⟨H2,_,HLe.refl _,(hs.sb:St H2 w (.blk bm _::en:: .blk b1 _:: .blk b2 _::σf4)),_,_,rfl,by rw [hsucc];exact hO⟩
 ·rintro D H2 σb2 w hle2 ⟨vl,en,rfl,hO⟩ hs
  rw [eR,show s.sp.many=s.sp.st.length*s.sp.wa.length from rfl,pM _ hsm.2.2.1] at hO
  refine nB ?_
  exact Fin.Fb [D] [] hs fun w hs=>⟨_,results0 Tryz.results175,H2,vl,en,hle1.trans hle2,hO,(hs.sb:St H2 w (.blk bm _::en::σ))⟩
theorem vf{s:Srv}{ts:List TD}{vst vwa vr vc vt vl:Value}{en:Ent}{bm:Nat}{ls:List Lim}(hs:St H w (.blk bm [I s.sp.id,I s.sp.src,vst,vwa,I s.sp.al,I s.sp.up,vr,vc,vt,vl]::en::σ))(hk:MkK H s ts vst vwa vr vc vt)(hO:cn 4 vl (gg ls) en)(hl:ls.length≤10000)(hok:fG s.sp):
  Cl Tryz.prog 176 [.pointer (some ⟨bm,0,none⟩)] w fun _ w'=>∃H1 vl' en',HLe H H1∧cn 4 vl' (gg (ls++eB (upL s.sp) s.sp.wa.length s.sp.st.length)) en'∧St H1 w' (.blk bm [I s.sp.id,I s.sp.src,vst,vwa,I s.sp.al,I s.sp.up,vr,vc,vt,vl']::en'::σ):=by
 have hsm:=ea hok
 obtain ⟨ast,cst,rfl⟩:=RI.shape hk.st
 obtain ⟨awa,cwa,rfl⟩:=RI.shape hk.wa
 refine Cl.o Tryz.func176 Tryz.ntmps176 ag1 ?_
 refine .ai ?_
 refine .bx hs fun b1 w hs=>?_
 refine .nil (.ai (.y hs (zld qk) (.z znc (.z (zfa dH) (.z (zfa aN) (.y hs (zls [_,_,_,_,_,_] aQ aH) ?_))))))
 refine .o (.alloc hs gN rfl fun b2 w hs=>?_)
 refine .o (.aV (vs:=[_,_,_,_,_,_]) hs rfl rfl aH fun w hs=>?_)
 refine .nil (.ai (.y hs (zls [_,_,_,_,_,_] aQ aH) ?_))
 refine .o (.call FU rfl (gn (s:=s.sp) hs hk.st hk.wa ⟨aj,aj⟩) ?_);rintro _ w ⟨H1,ba,hle1,rfl,hit,hs⟩
 refine .nil (.block ?_)
 refine .rangeFunc (gf:=190) (cap:=[.pointer (some ⟨ba,0,none⟩)]) (xs:=vY s.sp) (σb:=[.blk bm [I s.sp.id,I s.sp.src,.slice ast s.sp.st.length cst,.slice awa s.sp.wa.length cwa,I s.sp.al,I s.sp.up,vr,vc,vt,vl],en,.blk b1 [.pointer (some ⟨bm,0,none⟩)],.blk b2 [I s.sp.id,I s.sp.src,.slice ast s.sp.st.length cst,.slice awa s.sp.wa.length cwa,I s.sp.al,I s.sp.up]]) (σf:=σ) (hs.sb) trivial rfl hit FQ (fun x hx=>by
   simp only [vY,List.mem_map] at hx
   obtain ⟨j,_,rfl⟩:=hx;rfl) rfl
  (I:=fun p H' σb=>∃vl en,σb=[.blk bm [I s.sp.id,I s.sp.src,.slice ast s.sp.st.length cst,.slice awa s.sp.wa.length cwa,I s.sp.al,I s.sp.up,vr,vc,vt,vl],en,.blk b1 [.pointer (some ⟨bm,0,none⟩)],.blk b2 [I s.sp.id,I s.sp.src,.slice ast s.sp.st.length cst,.slice awa s.sp.wa.length cwa,I s.sp.al,I s.sp.up]]∧cn 4 vl (gg (ls++pN (upL s.sp) s.sp.wa.length p)) en) (Ix:=fun _ _ _=>False)
  (fun j _ _ σ g1 g2=>g2) (fun _ _ _ _ _ h=>h) ⟨vl,en,rfl,by rw [nr,List.append_nil];exact hO⟩ ?_ ?_ (fun D c H' σb w _ h _=>h.elim)
 ·rintro ly p hp H2 σb2 σf2 w hle2 ⟨vl,en,rfl,hO⟩ hs ⟨rr,hrr⟩
  have hpm:p<s.sp.many:=by rw [eR] at hp;exact hp
  have hsucc:=ns (upL s.sp) (p:=p) hsm.2.2.1
  have hpl:=jx (qp s.sp) hsm.2.2.1 p
  have hin:p/s.sp.wa.length<s.sp.st.length:=Nat.div_lt_of_lt_mul (by rw [Nat.mul_comm];exact hpm)
  have hkm:=Nat.mod_lt p hsm.2.2.1
  have hdm:=Nat.div_add_mod p s.sp.wa.length
  rw [Nat.mul_comm] at hdm
  have hu:(s.sp.u (p/s.sp.wa.length) (p%s.sp.wa.length):Int)=(p:Int)+1:=by unfold Spc.u;omega
  rw [nz hp]
  obtain ⟨al,ll,cl,rfl,hll⟩:=hO.shape
  generalize p/s.sp.wa.length=i at*
  generalize p%s.sp.wa.length=k at*
  have hk2:=hk.mono (hle1.trans hle2)
  refine .region ?_
  refine .o (.alloc hs nQ rfl fun b3 w hs=>?_)
  refine .o (.aV (vs:=[_,_,_]) hs rfl rfl tZ fun w hs=>?_)
  refine .nil ?_
  refine nT ?_
  refine ⟨H2,[.blk b3 [I (i:Int),I (k:Int),I ((p+1:Nat):Int)],.blk bm [I s.sp.id,I s.sp.src,.slice ast s.sp.st.length cst,.slice awa s.sp.wa.length cwa,I s.sp.al,I s.sp.up,vr,vc,vt,.slice al ll cl],en,.blk b1 [.pointer (some ⟨bm,0,none⟩)],.blk b2 [I s.sp.id,I s.sp.src,.slice ast s.sp.st.length cst,.slice awa s.sp.wa.length cwa,I s.sp.al,I s.sp.up]],HLe.refl _,hs,?_⟩;rintro w σf4 - hs
  refine .block (.ai (.z (zfa dz) (.y hs (zld ae) (.z cA (.z (zfa aW) (.y hs (zld ak) (.z (cH aa) (.z fj (.nil ?_)))))))))
  refine (.bJ rfl (fun hc19=>?_) (fun hc19=>?_))
  ·refine .seq (.draw mix rfl hs fun w hs=>?_)
   refine .z 0 rfl (zfa dF) ?_;refine .z 1 rfl (zfa iY) ?_;refine .y 2 rfl hs ae ?_;refine .z 3 rfl (zfa aW) ?_;refine .y 4 rfl hs ak ?_;refine .z 5 rfl (zfa dz) ?_;refine .y 6 rfl hs ae ?_;refine .z 7 rfl cA ?_
   have hris:=hok.wa.rise k aj
   have hq0:=hok.wa.bd (i:=k) aj
   have hq1:=hok.wa.bd (i:=k+1) aj
   have hal:=hok.up
   refine .ixX (enc:=fun x=>[I x]) (i:=8) hs rfl aq .none hk2.wa rfl rfl aa af (bu (l:=s.sp.wa) (i:=(k+1)) aj) cM ?_;intro b28 o28 hc28;replace hc28:=bH.one hc28
   refine .r (i:=9) hs rfl aq .none (aK rfl ae hc28) ?_
   refine .z 10 rfl (zfa aW) ?_;refine .y 11 rfl hs ak ?_;refine .z 12 rfl (zfa dz) ?_;refine .y 13 rfl hs ae ?_
   refine .ixX (enc:=fun x=>[I x]) (i:=14) hs rfl aq .none hk2.wa rfl rfl aa af (bu (l:=s.sp.wa) (i:=k) aj) cM ?_;intro b34 o34 hc34;replace hc34:=bH.one hc34
   refine .r (i:=15) hs rfl aq .none (aK rfl ae hc34) ?_
   refine .z 16 rfl ir ?_
   refine .E 17 hs ?_
   refine .call Tryz.call230 rfl (ld hs aj aj) ?_;rintro _ w ⟨rfl,hs⟩
   refine .go ?_
   refine .z 18 rfl zg ?_;refine .D hs ?_
   refine .region (.y hs (zld qk) (.z (zfa ew) (.y hs (zld ae) (.z (zfa ew) (.y hs (zld ae) (.z cA (.z zm (.z zm (.z (zfa df) ?_)))))))))
   refine .y hs (zld ae) ?_
   refine .o (.call tz rfl (fB (ls:=ls++pN (upL s.sp) s.sp.wa.length p) (hs.sb:St H2 w (.blk bm _::en:: .blk b1 _:: .blk b2 _::σf4)) hO (by rw [List.length_append];omega)) ?_);rintro _ w ⟨vl3,en3,hO3,hs⟩
   have hu2:(s.sp.u i (k+1):Int)=((p+1:Nat):Int)+1:=by unfold Spc.u at hu ⊢;omega
   rw [show two ((p+1:Nat):Int) (((p+1:Nat):Int)+1) (jJ s.sp.up (gi s.sp.wa (k+1) - gi s.sp.wa k)) (jJ s.sp.up (gi s.sp.wa (k+1) - gi s.sp.wa k)) s.sp.src=upL s.sp i k by unfold upL;rw [if_pos aj,hu,hu2];rfl,List.append_assoc,←hsucc] at hO3
   refine .nil ?_
   refine nB ?_
   exact ⟨H2,_,HLe.refl _,hs,_,_,rfl,hO3⟩
  ·refine .skip ?_
   refine nB ?_
   rw [show upL s.sp i k=[] by unfold upL;rw [if_neg aj],List.append_nil] at hsucc
   exact ⟨H2,_,HLe.refl _,(hs.sb:St H2 w (.blk bm _::en:: .blk b1 _:: .blk b2 _::σf4)),_,_,rfl,by rw [hsucc];exact hO⟩
 ·rintro D H2 σb2 w hle2 ⟨vl,en,rfl,hO⟩ hs
  rw [eR,show s.sp.many=s.sp.st.length*s.sp.wa.length from rfl,pM _ hsm.2.2.1] at hO
  refine nB ?_
  exact Fin.Fb [D] [] hs fun w hs=>⟨_,results0 Tryz.results176,H2,vl,en,hle1.trans hle2,hO,(hs.sb:St H2 w (.blk bm _::en::σ))⟩
theorem qL{s:Srv}{ts:List TD}{vst vwa vr vc vt vl:Value}{en:Ent}{bm:Nat}{ls:List Lim}(hs:St H w (.blk bm [I s.sp.id,I s.sp.src,vst,vwa,I s.sp.al,I s.sp.up,vr,vc,vt,vl]::en::σ))(hk:MkK H s ts vst vwa vr vc vt)(hO:cn 4 vl (gg ls) en)(hl:ls.length≤10000)(hok:fG s.sp)(htl:ts.length≤100):
  Cl Tryz.prog 177 [.pointer (some ⟨bm,0,none⟩)] w fun _ w'=>∃H1 vl' en',HLe H H1∧cn 4 vl' (gg (ls++vD s.sp ts.length)) en'∧St H1 w' (.blk bm [I s.sp.id,I s.sp.src,vst,vwa,I s.sp.al,I s.sp.up,vr,vc,vt,vl']::en'::σ):=by
 have hsm:=ea hok
 obtain ⟨at_,ct,rfl⟩:=RTd.shape hk.ts
 refine Cl.o Tryz.func177 Tryz.ntmps177 ag1 ?_
 refine .ai (.z zm (.z znc (.z (zfa ft) (.y hs (zld FP) (.z (cH bg) (.z zm (.nil ?_)))))))
 refine .for (N:=ts.length) (J:=fun j fr w=>fr=[(0,.pointer (some ⟨bm,0,none⟩))]∧∃vl en,cn 4 vl (gg (ls++vD s.sp j)) en∧St H w (.blk bm [I s.sp.id,I s.sp.src,vst,vwa,I s.sp.al,I s.sp.up,vr,vc,.slice at_ ts.length ct,vl]::en::σ)) aj ?_ ?_ ?_
 ·exact .mk ⟨rfl,vl,en,by show cn 4 vl (gg (ls++[])) en;rw [List.append_nil];exact hO,hs⟩
 ·rintro j fr w hj ⟨rfl,vl,en,hO,hs⟩
  have hel:=gK s.sp j
  obtain ⟨al,ll,cl,rfl,hll⟩:=hO.shape
  refine .block (.ai (.z zm (.z zg (.nil ?_))))
  refine .draw mix rfl hs fun w hs=>?_
  refine .z 0 rfl zm ?_;refine .z 1 rfl zm ?_;refine .z 2 rfl zm ?_;refine .z 4 rfl zm ?_;refine .z 5 rfl znc ?_;refine .z 6 rfl (zfa dH) ?_;refine .z 7 rfl (zfa aN) ?_;refine .z 8 rfl (zfa df) ?_;refine .y 9 rfl hs ae ?_
  refine .E 3 hs ?_
  refine .call Tryz.call116 rfl (iW (s:=s.sp) hs .here hk.st hk.wa ⟨aj,aj⟩ ⟨aj,aj⟩) ?_;rintro _ w ⟨rfl,hs⟩
  refine .go ?_
  refine .E 10 hs ?_
  refine .call tz rfl (fB (ls:=ls++vD s.sp j) hs hO (by rw [List.length_append];omega)) ?_;rintro _ w ⟨vl3,en3,hO3,hs⟩
  rw [show (s.sp.many:Int)+1+(j:Int)=((s.sp.many+1+j:Nat):Int) by omega,List.append_assoc] at hO3
  refine .go ?_
  refine .D hs ?_
  refine nB (nT ?_)
  exact .mk ⟨rfl,vl3,en3,hO3,hs⟩
 ·rintro fr w ⟨rfl,vl,en,hO,hs⟩
  exact Fin.xk Tryz.results177 ⟨H,vl,en,HLe.refl _,hO,hs⟩
set_option maxHeartbeats 1000000 in
theorem kg{s:Srv}{ts:List TD}{vst vwa vr vc vt vl:Value}{en:Ent}{bm:Nat}{ls:List Lim}(hs:St H w (.blk bm [I s.sp.id,I s.sp.src,vst,vwa,I s.sp.al,I s.sp.up,vr,vc,vt,vl]::en::σ))(hk:MkK H s ts vst vwa vr vc vt)(hO:cn 4 vl (gg ls) en)(hl:ls.length≤10000)(hok:fG s.sp)(htl:ts.length≤100)(hcl:s.cs.length≤20)(hc:∀c∈s.cs,oT c){j0:Nat}(hj0:j0≤ts.length):
  Cl Tryz.prog 117 [.pointer (some ⟨bm,0,none⟩),I (j0:Int)] w fun _ w'=>∃H1 vl' en',HLe H H1∧cn 4 vl' (gg (ls++oU s.sp ts s.cs j0 s.cs.length)) en'∧St H1 w' (.blk bm [I s.sp.id,I s.sp.src,vst,vwa,I s.sp.al,I s.sp.up,vr,vc,vt,vl']::en'::σ):=by
 have hsm:=ea hok
 obtain ⟨at_,ct,rfl⟩:=RTd.shape hk.ts
 obtain ⟨ac,cc,rfl⟩:=RCm.shape hk.cs
 refine Cl.o Tryz.func117 Tryz.ntmps117 ag2 ?_
 refine .ai (.z zm (.z znc (.z (zfa dH) (.z (zfa aR) (.y hs (zld bI) (.z (cH aC) (.z zm (.nil ?_))))))))
 refine .for (N:=s.cs.length) (J:=fun i fr w=>fr=[(12,.slice ac s.cs.length cc),(0,.pointer (some ⟨bm,0,none⟩)),(1,I (j0:Int))]∧∃vl en,cn 4 vl (gg (ls++oU s.sp ts s.cs j0 i)) en∧St H w (.blk bm [I s.sp.id,I s.sp.src,vst,vwa,I s.sp.al,I s.sp.up,vr,.slice ac s.cs.length cc,.slice at_ ts.length ct,vl]::en::σ)) aj ?_ ?_ ?_
 ·exact .mk ⟨rfl,vl,en,by show cn 4 vl (gg (ls++[])) en;rw [List.append_nil];exact hO,hs⟩
 ·rintro i fr w hi ⟨rfl,vl,en,hO,hs⟩
  obtain ⟨c,hx⟩:=nth hi
  obtain ⟨g1,g2,g3,g4,g5,g6⟩:=hc c (List.mem_of_getElem? hx)
  have hcl1:=iF s.sp ts s.cs j0 i
  have hcl2:i*(2*(ts.length - j0))≤20*(2*100):=Nat.mul_le_mul aj aj
  refine .block (.ai ?_)
  refine .ixX (enc:=Cmp.c) hs hk.cs rfl rfl aC aP hx cM ?_;intro b16 o16 hc16
  refine .q hs (bY (vs:=(Cmp.c c)) rfl fh aP hc16) ?_
  refine .o (.alloc hs gh rfl fun b5 w hs=>?_)
  refine .o (.aV (vs:=c.c) hs rfl rfl aP fun w hs=>?_)
  replace hs:St H w (.blk bm [I s.sp.id,I s.sp.src,vst,vwa,I s.sp.al,I s.sp.up,vr,.slice ac s.cs.length cc,.slice at_ ts.length ct,vl]::en:: .blk b5 [I c.src,I c.tape,I c.fr,I c.to,I c.lo,I c.hi]::σ):=hs.sb
  refine .nil (.ai (.z zm (.z zg (.nil (.block ?_)))))
  refine .loop (fun j:Nat=>⟨62,[],[(6,I ((j0+j:Nat):Int)),(5,.pointer (some ⟨b5,0,none⟩)),(14,I (i:Int)),(13,I (s.cs.length:Int)),(12,.slice ac s.cs.length cc),(0,.pointer (some ⟨bm,0,none⟩)),(1,I (j0:Int))]⟩)
   (fun j w=>j0+j≤ts.length∧∃vl en,cn 4 vl (gg (ls++oU s.sp ts s.cs j0 i++jD s.sp ts c j0 j)) en∧St H w (.blk bm [I s.sp.id,I s.sp.src,vst,vwa,I s.sp.al,I s.sp.up,vr,.slice ac s.cs.length cc,.slice at_ ts.length ct,vl]::en:: .blk b5 [I c.src,I c.tape,I c.fr,I c.to,I c.lo,I c.hi]::σ)) (fun j=>ts.length - (j0+j)) 0 aU
   ⟨aj,vl,en,by show cn 4 vl (gg (_++[])) en;rw [List.append_nil];exact hO,hs⟩ ?_
  clear hO hs
  rintro j w ⟨hj,vl,en,hO,hs⟩
  have hl1:=kI s.sp ts c j0 j
  obtain ⟨al,ll,cl,rfl,hll⟩:=hO.shape
  refine .seq (.ai (.z zm (.z zm (.z znc (.z (zfa ft) (.y hs (zld FP) (.z (cH bg) (.z fj (.nil ?_)))))))))
  refine (.bJ rfl (fun hc25=>?_) (fun hc25=>?_))
  ·refine .skip ?_
   refine nT ?_
   refine .seq (.block (.ai (.z zm (.z znc (.z (zfa ft) (.y hs (zld FP) (.z zm ?_)))))))
   obtain ⟨t,ht⟩:=nth (l:=ts) (k:=j0+j) aj
   have ht0:=CY ht
   refine .ixX (enc:=TD.c) hs hk.ts rfl rfl bg bD ht cM ?_;intro b33 o33 hc33
   refine .q hs (bY (vs:=(TD.c t)) rfl dM bD hc33) ?_
   refine .o (.alloc hs kR rfl fun b7 w hs=>?_)
   refine .o (.aV (vs:=t.c) hs rfl rfl bD fun w hs=>?_)
   change St _ _ (.blk b7 [I t.tape,I t.day]::_) at hs
   refine .nil (.ai (.z (zfa l5) (.y hs (zld ae) (.z (zfa ik) (.y hs (zld ae) (.z fL (.z zm ?_)))))))
   refine .iq (t':=40) rfl (fun hb40=>?_) (fun hb40=>?_)
   ·refine .gT rfl rfl ?_
    refine .z (zfa jK) ?_
    refine .gT rfl rfl ?_
    refine .y hs (zld ae) ?_
    refine .gT rfl rfl ?_
    refine .z (zfa fk) ?_
    refine .gT rfl rfl ?_
    refine .y hs (zld ae) ?_
    refine .gT rfl rfl ?_
    refine .z (zfa eQ) ?_
    refine .gT rfl rfl ?_
    refine .y hs (zld ae) ?_
    refine .gT rfl rfl ?_
    refine .o (.call dN rfl (bB hs) ?_);rintro _ w ⟨rfl,hs⟩
    refine .z zpT (.nil ?_)
    refine (.cond rfl (fun hc48=>?_) (fun hc48=>?_))
    ·refine .draw mix rfl hs fun w hs=>?_
     refine .z 0 rfl zm ?_;refine .z 1 rfl zm ?_;refine .z 2 rfl zm ?_;refine .z 4 rfl (zfa eP) ?_;refine .y 5 rfl hs ae ?_;refine .z 6 rfl xn ?_;refine .z 7 rfl (zfa eO) ?_;refine .y 8 rfl hs ae ?_;refine .z 9 rfl (zfa dX) ?_;refine .y 10 rfl hs ae ?_
     refine .E 3 hs ?_
     refine .call Tryz.call116 rfl (iW (s:=s.sp) hs (.there .here) hk.st hk.wa ⟨aj,aj⟩ ⟨aj,aj⟩) ?_;rintro _ w ⟨rfl,hs⟩
     refine .go ?_
     refine .E 11 hs ?_
     refine .call tz rfl (fB (ls:=ls++oU s.sp ts s.cs j0 i++jD s.sp ts c j0 j) (hs.tail:St H w (.blk bm _::en:: .blk b5 _::σ)) hO (by rw [List.length_append,List.length_append];omega)) ?_;rintro _ w ⟨vl3,en3,hO3,hs⟩
     refine .go ?_
     refine .D hs ?_
     refine nB (nT ?_)
     refine .region (.z zm (.z cA (.z zg (.nil ?_))))
     refine nT ?_
     have e:jD s.sp ts c j0 (j+1)=jD s.sp ts c j0 j++two 0 ((s.sp.many:Int)+1+((j0+j:Nat):Int)) (-c.lo) c.hi c.src:=by
      show _++ka c (td0 ts (j0+j)) _=_
      rw [ht0];unfold ka;rw [if_pos (by simp at hc48;omega)]
      rw [show ((s.sp.many+1+(j0+j):Nat):Int)=(s.sp.many:Int)+1+((j0+j:Nat):Int) by omega]
     rw [List.append_assoc _ (jD _ _ _ _ _),←e] at hO3
     exact ⟨j+1,.bX rfl (by simp;omega) aU,⟨aj,vl3,en3,hO3,hs⟩,aj⟩
    ·refine .skip ?_
     refine nB (nT ?_)
     refine .region (.z zm (.z cA (.z zg (.nil ?_))))
     refine nT ?_
     have e:jD s.sp ts c j0 (j+1)=jD s.sp ts c j0 j:=by
      show _++ka c (td0 ts (j0+j)) _=_
      rw [ht0];unfold ka;rw [if_neg (by simp at hc48;omega),List.append_nil]
     exact ⟨j+1,.bX rfl (by simp;omega) aU,⟨aj,_,en,by rw [e];exact hO,hs.tail⟩,aj⟩
   ·refine .gFs 7 5 true rfl rfl rfl ?_
    refine .z zpF (.nil ?_)
    refine (.cF ?_)
    refine .skip ?_
    refine nB (nT ?_)
    refine .region (.z zm (.z cA (.z zg (.nil ?_))))
    refine nT ?_
    have e:jD s.sp ts c j0 (j+1)=jD s.sp ts c j0 j:=by
     show _++ka c (td0 ts (j0+j)) _=_
     rw [ht0];unfold ka;rw [if_neg aj,List.append_nil]
    exact ⟨j+1,.bX rfl (by simp;omega) aU,⟨aj,_,en,by rw [e];exact hO,hs.tail⟩,aj⟩
  ·refine .exit ?_
   refine xT (xT (xB (nB (nT ?_))))
   obtain rfl:j=ts.length - j0:=by omega
   rw [List.append_assoc,show oU s.sp ts s.cs j0 i++jD s.sp ts c j0 (ts.length - j0)=oU s.sp ts s.cs j0 (i+1) by rw [←Bb hx];rfl] at hO
   exact .mk ⟨rfl,_,en,hO,hs.sb⟩
 ·rintro fr w ⟨rfl,vl,en,hO,hs⟩
  exact Fin.xk Tryz.results117 ⟨H,vl,en,HLe.refl _,hO,hs⟩
theorem mn{s:Srv}{ts:List TD}{vst vwa vr vc vt vl:Value}{en:Ent}{bm:Nat}{ls:List Lim}(hs:St H w (.blk bm [I s.sp.id,I s.sp.src,vst,vwa,I s.sp.al,I s.sp.up,vr,vc,vt,vl]::en::σ))(hk:MkK H s ts vst vwa vr vc vt)(hO:cn 4 vl (gg ls) en)(hl:ls.length≤10000)(hok:fG s.sp)(htl:ts.length≤100)(hcl:s.cs.length≤20)(hc:∀c∈s.cs,oT c):
  Cl Tryz.prog 178 [.pointer (some ⟨bm,0,none⟩)] w fun _ w'=>∃H1 vl' en',HLe H H1∧cn 4 vl' (gg (ls++oU s.sp ts s.cs 0 s.cs.length)) en'∧St H1 w' (.blk bm [I s.sp.id,I s.sp.src,vst,vwa,I s.sp.al,I s.sp.up,vr,vc,vt,vl']::en'::σ):=by
 refine Cl.o Tryz.func178 Tryz.ntmps178 ag1 ?_
 refine .region (.z zm ?_)
 refine .o (.call Tryz.call117 rfl (kg (s:=s) (ts:=ts) (j0:=0) hs hk hO hl hok htl hcl hc aj) ?_);rintro _ w hs
 refine .nil ?_
 exact Fin.xk Tryz.results178 hs
set_option maxHeartbeats 1000000 in
theorem oF{s:Srv}{ts:List TD}{vst vwa vr vc vt vl:Value}{en:Ent}{bm:Nat}{ls:List Lim}(hs:St H w (.blk bm [I s.sp.id,I s.sp.src,vst,vwa,I s.sp.al,I s.sp.up,vr,vc,vt,vl]::en::σ))(hk:MkK H s ts vst vwa vr vc vt)(hO:cn 4 vl (gg ls) en)(hl:ls.length≤10000)(hok:fG s.sp)(htl:ts.length≤100)(hrl:s.rs.length≤60)(hr:∀r∈s.rs,jo s.sp r)(hmem:∀r∈s.rs,r.td∈ts):
  Cl Tryz.prog 179 [.pointer (some ⟨bm,0,none⟩)] w fun _ w'=>∃H1 vl' en',HLe H H1∧cn 4 vl' (gg (ls++tD s.sp ts s.rs s.rs.length)) en'∧St H1 w' (.blk bm [I s.sp.id,I s.sp.src,vst,vwa,I s.sp.al,I s.sp.up,vr,vc,vt,vl']::en'::σ):=by
 have hsm:=ea hok
 obtain ⟨at_,ct,rfl⟩:=RTd.shape hk.ts
 obtain ⟨ar,cr,rfl⟩:=RRd.shape hk.rs
 refine Cl.o Tryz.func179 Tryz.ntmps179 ag1 ?_
 refine .ai (.z zm (.z znc (.z (zfa dH) (.z (zfa aD) (.y hs (zld aO) (.z (cH an) (.z zm (.nil ?_))))))))
 refine .for (N:=s.rs.length) (J:=fun i fr w=>fr=[(9,.slice ar s.rs.length cr),(0,.pointer (some ⟨bm,0,none⟩))]∧∃vl en,cn 4 vl (gg (ls++tD s.sp ts s.rs i)) en∧St H w (.blk bm [I s.sp.id,I s.sp.src,vst,vwa,I s.sp.al,I s.sp.up,.slice ar s.rs.length cr,vc,.slice at_ ts.length ct,vl]::en::σ)) aj ?_ ?_ ?_
 ·exact .mk ⟨rfl,vl,en,by show cn 4 vl (gg (ls++[])) en;rw [List.append_nil];exact hO,hs⟩
 ·rintro i fr w hi ⟨rfl,vl,en,hO,hs⟩
  obtain ⟨r,hx⟩:=nth hi
  obtain ⟨g1,g2,g3,g4,g5,g6,g7⟩:=hr r (List.mem_of_getElem? hx)
  obtain ⟨k,k1,k2,k3⟩:=fm (hmem r (List.mem_of_getElem? hx))
  have hrl1:=gD s.sp ts s.rs i
  obtain ⟨al,ll,cl,rfl,hll⟩:=hO.shape
  refine .block (.ai ?_)
  refine .ixX (enc:=Rdg.c) hs hk.rs rfl rfl an aA hx cM ?_;intro b13 o13 hc13
  refine .q hs (bY (vs:=(Rdg.c r)) rfl cq aA hc13) ?_
  refine .o (.alloc hs dC rfl fun b3 w hs=>?_)
  refine .o (.aV (vs:=r.c) hs rfl rfl aA fun w hs=>?_)
  change St _ _ (.blk b3 [I r.src,I r.st,I r.wa,I r.val,I r.tol,I r.tape,I r.day]::_) at hs
  refine .nil ?_
  refine .seq (.draw mix rfl hs fun w hs=>?_)
  refine .z 0 rfl zm ?_;refine .z 1 rfl znc ?_;refine .z 2 rfl (zfa ft) ?_;refine .y 3 rfl hs FP ?_;refine .ys 4 rfl hs [_,_,_,_,_,_,_] cq aA ?_
  refine .E 5 hs ?_
  refine .call FT rfl (e9 hs) ?_;rintro _ w ⟨rfl,hs⟩
  refine .go ?_
  refine .E 6 hs ?_
  refine .call Tryz.call89 rfl (mG (t:=r.td) hs hk.ts aj) ?_;rintro _ w ⟨rfl,hs⟩
  refine .go ?_
  refine .z 7 rfl zg ?_;refine .D hs ?_
  refine .draw mix rfl hs fun w hs=>?_
  refine .z 0 rfl zm ?_;refine .z 1 rfl zm ?_;refine .z 2 rfl zm ?_;refine .z 4 rfl zm ?_;refine .z 5 rfl znc ?_;refine .z 6 rfl (zfa dH) ?_;refine .z 7 rfl (zfa aN) ?_;refine .ys 8 rfl hs [_,_,_,_,_,_] aQ aH ?_;refine .z 9 rfl (zfa eN) ?_;refine .y 10 rfl hs ae ?_
  refine .z 11 rfl (zfa eM) ?_;refine .y 12 rfl hs ae ?_;refine .z 14 rfl (zfa cU) ?_;refine .y 15 rfl hs ae ?_;refine .z 16 rfl (zfa cz) ?_;refine .y 17 rfl hs ae ?_;refine .z 18 rfl cA ?_;refine .z 19 rfl (zfa cz) ?_;refine .y 20 rfl hs ae ?_;refine .z 21 rfl (zfa cU) ?_
  refine .y 22 rfl hs ae ?_;refine .z 23 rfl ir ?_;refine .z 24 rfl (zfa dk) ?_;refine .y 25 rfl hs ae ?_
  refine .E 3 hs ?_
  refine .call Tryz.call116 rfl (iW (s:=s.sp) hs (.there .here) hk.st hk.wa ⟨aj,aj⟩ ⟨aj,aj⟩) ?_;rintro _ w ⟨rfl,hs⟩
  refine .go ?_
  refine .E 13 hs ?_
  refine .call Tryz.call118 rfl (jT (s:=s.sp) hs hk.wa aj ⟨aj,aj⟩ ⟨aj,aj⟩) ?_;rintro _ w ⟨rfl,hs⟩
  refine .go ?_
  refine .E 26 hs ?_
  refine .call tz rfl (fB (ls:=ls++tD s.sp ts s.rs i) (hs.sb:St H w (.blk bm _::en:: .blk b3 _::σ)) hO (by rw [List.length_append];omega)) ?_;rintro _ w ⟨vl3,en3,hO3,hs⟩
  refine .go ?_
  refine .D hs ?_
  refine nB (nT ?_)
  rw [List.append_assoc,show tD s.sp ts s.rs i++two ((s.sp.many:Int)+1+iN ts r.td) (1+r.st*s.sp.wa.length+r.wa) (r.val+r.tol) (r.tol - r.val) r.src=tD s.sp ts s.rs (i+1) by rw [←Ak hx];rfl] at hO3
  exact .mk ⟨rfl,vl3,en3,hO3,hs.sb⟩
 ·rintro fr w ⟨rfl,vl,en,hO,hs⟩
  exact Fin.xk Tryz.results179 ⟨H,vl,en,HLe.refl _,hO,hs⟩
def fnK:Nat→Nat
 |0=>174
 |1=>175
 |2=>176
 |3=>177
 |4=>178
 |_=>179
theorem Cs{k:Nat}(hk:k<6):∀args w,(callFunc (fnK k) args).run Tryz.prog w= .ok (.enter (fnK k) args) w:=by
 have h:k=0∨k=1∨k=2∨k=3∨k=4∨k=5:=by omega
 rcases h with rfl|rfl|rfl|rfl|rfl|rfl
 ·exact Tryz.call174
 ·exact Tryz.call175
 ·exact Tryz.call176
 ·exact Tryz.call177
 ·exact Tryz.call178
 ·exact Tryz.call179
theorem Ay{s:Srv}{vst vwa vr vc vt vl:Value}{en:Ent}{bm k:Nat}(hs:St H w (.blk bm [I s.sp.id,I s.sp.src,vst,vwa,I s.sp.al,I s.sp.up,vr,vc,vt,vl]::en::σ))(hk:MkK H s s.bw vst vwa vr vc vt)(hO:cn 4 vl (gg (s.parts k)) en)(he:s.early)(hk6:k<6):
  Cl Tryz.prog (fnK k) [.pointer (some ⟨bm,0,none⟩)] w fun _ w'=>∃H1 vl' en',HLe H H1∧cn 4 vl' (gg (s.parts (k+1))) en'∧St H1 w' (.blk bm [I s.sp.id,I s.sp.src,vst,vwa,I s.sp.al,I s.sp.up,vr,vc,vt,vl']::en'::σ):=by
 have hl:=jv he k aj
 obtain ⟨hok,h1,h2,h3,h4⟩:=he
 have htl:s.bw.length≤100:=by have:=dq s.rs;unfold Srv.bw;omega
 have h:k=0∨k=1∨k=2∨k=3∨k=4∨k=5:=by omega
 rcases h with rfl|rfl|rfl|rfl|rfl|rfl
 ·exact oG hs hk hO (Nat.le_trans hl gp) hok
 ·exact rM hs hk hO (Nat.le_trans hl gp) hok
 ·exact vf hs hk hO (Nat.le_trans hl gp) hok
 ·exact qL hs hk hO (Nat.le_trans hl gp) hok htl
 ·exact mn hs hk hO (Nat.le_trans hl gp) hok htl h2 h4
 ·exact oF hs hk hO (Nat.le_trans hl gp) hok htl h1 h3 fun r hr=>fZ.2 ⟨r,hr,rfl⟩
def fnV(b:Nat)(k:Nat):Value:= .func (.func (fnK k)) #[.pointer (some ⟨b,0,none⟩)] #[]
theorem DI(b:Nat){k:Nat}(hk:k<6):[fnV b 0,fnV b 1,fnV b 2,fnV b 3,fnV b 4,fnV b 5][k]? =some (fnV b k):=by
 have h:k=0∨k=1∨k=2∨k=3∨k=4∨k=5:=by omega
 rcases h with rfl|rfl|rfl|rfl|rfl|rfl<;>rfl
set_option maxHeartbeats 1000000 in
theorem kD{s:Srv}{vst vwa vr vc:Value}(hs:St H w σ)(h1:RI H vst s.sp.st)(h2:RI H vwa s.sp.wa)(h3:RRd H vr s.rs)(h4:RCm H vc s.cs)(he:s.early):
  Cl Tryz.prog 92 [.agg #[I s.sp.id,I s.sp.src,vst,vwa,I s.sp.al,I s.sp.up,vr,vc]] w fun u w'=>∃H1 vl en,HLe H H1∧u= .agg #[I s.sys.many,vl]∧cn 4 vl (gg s.db) en∧St H1 w' (en::σ):=by
 have hsm:=ea he.1
 have htl:s.bw.length≤60:=by have:=dq s.rs;have:=he.2.1;unfold Srv.bw;omega
 refine Cl.o Tryz.func92 Tryz.ntmps92 ag1 ?_
 refine .ai ?_
 refine .bx hs fun b1 w hs=>?_
 refine .o (.alloc hs dD rfl fun b2 w hs=>?_)
 refine .nil ?_
 refine .seq (.draw mix rfl hs fun w hs=>?_)
 refine .ys 0 rfl hs [_,_,_,_,_,_,_,_] aF az ?_;refine .ys 1 rfl hs [_,_,_,_,_,_,_,_] aF az ?_
 refine .E 2 hs ?_
 refine .call Tryz.call90 rfl (iU hs h3 (by have:=he.2.1;omega)) ?_;rintro v8 w ⟨H1,hle1,hT,hs⟩
 obtain ⟨at_,ct,rfl⟩:=RTd.shape hT
 have hk0:MkK H1 s s.bw vst vwa vr vc (.slice at_ s.bw.length ct):=⟨h1.mono hle1,h2.mono hle1,h3.mono hle1,h4.mono hle1,hT⟩
 refine .go ?_
 refine .z 3 rfl (zbd (vs:=[(0,.agg #[I s.sp.id,I s.sp.src,vst,vwa,I s.sp.al,I s.sp.up,vr,vc]),(1,.slice at_ s.bw.length ct)]) [I s.sp.id,I s.sp.src,vst,vwa,I s.sp.al,I s.sp.up,vr,vc,.slice at_ s.bw.length ct,.slice none 0 0] lq rfl aq) ?_
 refine .E 4 hs ?_
 refine .box hs rfl rfl ?_;intro b10 w hs
 refine .go ?_
 refine .z 5 rfl zg ?_;refine .D hs ?_
 refine .seq (.ai (.z zm ?_))
 refine .q hs (dx (f:=[_]) (c:=[]) rfl rfl) ?_
 refine .z zm ?_
 refine .q hs (dx (f:=[_]) (c:=[]) rfl rfl) ?_
 refine .z zm ?_
 refine .q hs (dx (f:=[_]) (c:=[]) rfl rfl) ?_
 refine .z zm ?_
 refine .q hs (dx (f:=[_]) (c:=[]) rfl rfl) ?_
 refine .z zm ?_
 refine .q hs (dx (f:=[_]) (c:=[]) rfl rfl) ?_
 refine .z zm ?_
 refine .q hs (dx (f:=[_]) (c:=[]) rfl rfl) ?_
 refine .o (.buildSlice (cells:=[fnV b10 0,fnV b10 1,fnV b10 2,fnV b10 3,fnV b10 4,fnV b10 5]) hs vJ rfl aq fun b23 w hs=>?_)
 refine .z (cH Tryz.runUnderlying223) ?_
 refine .z zm (.nil ?_)
 refine .for (N:=6) (J:=fun k fr w=>fr=[(23,.slice (some ⟨b23,0,none⟩) 6 6),(3,.pointer (some ⟨b10,0,none⟩)),(2,.pointer (some ⟨b2,0,none⟩)),(1,.pointer (some ⟨b1,0,none⟩))]∧∃H2 vl en,HLe H1 H2∧cn 4 vl (gg (s.parts k)) en∧St H2 w (.blk b10 [I s.sp.id,I s.sp.src,vst,vwa,I s.sp.al,I s.sp.up,vr,vc,.slice at_ s.bw.length ct,vl]::en:: .blk b23 [fnV b10 0,fnV b10 1,fnV b10 2,fnV b10 3,fnV b10 4,fnV b10 5]:: .blk b2 [I 0,.slice none 0 0]:: .blk b1 [I s.sp.id,I s.sp.src,vst,vwa,I s.sp.al,I s.sp.up,vr,vc]::σ)) aj ?_ ?_ ?_
 ·exact .mk ⟨rfl,H1,.slice none 0 0,.nul,HLe.refl _,.nil 4 none,hs.nul.sb⟩
 ·rintro k fr w hk ⟨rfl,H2,vl,en,hle2,hO,hs⟩
  refine .block (.ai ?_)
  refine .z (zix Tryz.runUnderlying223 Tryz.sizeOf1) ?_
  refine .q hs (dO rfl Tryz.isAgg1 (hv:=DI b10 hk)) ?_
  refine .z zg (.nil (.region (.z zm ?_)))
  refine .o (.mr (first:=[.pointer (some ⟨b10,0,none⟩)]) (cap:=[]) rfl rfl (Cs hk) (Ay hs (hk0.mono hle2) hO he hk) ?_);rintro _ w ⟨H3,vl3,en3,hle3,hO3,hs⟩
  refine .nil ?_
  refine nB (nT ?_)
  exact .mk ⟨rfl,H3,vl3,en3,hle2.trans hle3,hO3,hs⟩
 ·rintro fr w ⟨rfl,H2,vl,en,hle2,hO,hs⟩
  rw [s.sZ] at hO
  obtain ⟨al,ll,cl,rfl,hll⟩:=hO.shape
  refine nT ?_
  refine .seq (.draw mix rfl hs fun w hs=>?_)
  refine .z 0 rfl (zfa aN) ?_;refine .ys 1 rfl hs [_,_,_,_,_,_] aQ aH ?_;refine .z 3 rfl zm ?_;refine .z 4 rfl znc ?_;refine .z 5 rfl (zfa ft) ?_;refine .y 6 rfl hs FP ?_;refine .z 7 rfl (cH bg) ?_;refine .z 9 rfl zm ?_;refine .z 10 rfl znc ?_;refine .z 11 rfl (zfa gx) ?_
  refine .y 12 rfl hs du ?_
  refine .E 2 hs ?_
  refine .call Tryz.call91 rfl (fN (s:=s.sp) hs (h1.mono (hle1.trans hle2)) (h2.mono (hle1.trans hle2)) ⟨aj,aj⟩) ?_;rintro _ w ⟨rfl,hs⟩
  refine .go ?_
  refine .z 8 rfl cA ?_;refine .z 13 rfl (zbd [_,_] ia) ?_
  refine .E 14 hs ?_
  refine .aV (vs:=[_,_]) hs rfl rfl aI ?_;intro w hs
  refine .go ?_
  refine .D hs ?_
  refine .ret ?_
  replace hs:St H2 w (.blk b2 [I ((s.sp.many:Int)+(s.bw.length:Int)),.slice al ll cl]::en::σ):=hs.sb
  exact Fin.gO [] [] hs fun w hs=>⟨_,results1 Tryz.results92 (dA (vs:=[_,_]) hs rfl bp aI),H2,_,en,hle1.trans hle2,by show _=Value.agg #[I ((s.sp.many+s.bw.length:Nat):Int),_];rw [Int.natCast_add],hO,hs.tail⟩
theorem fa{s:Srv}{vst vwa vr vc:Value}(hs:St H w σ)(h1:RI H vst s.sp.st)(h2:RI H vwa s.sp.wa)(h3:RRd H vr s.rs)(h4:RCm H vc s.cs)(he:s.early):
  Cl Tryz.prog 92 [.agg #[I s.sp.id,I s.sp.src,vst,vwa,I s.sp.al,I s.sp.up,vr,vc]] w fun u w'=>∃H1,HLe H H1∧RSy H1 u s.sys∧St H1 w' σ:=by
 refine (kD hs h1 h2 h3 h4 he).mono ?_
 rintro u w' ⟨H1,vl,en,hle,rfl,hO,hs⟩
 have hl:=jv he 6 aj
 rw [s.sZ] at hl
 obtain ⟨H2,hle2,hR,hs⟩:=cn.cI (m:=4) (cs:=s.db.map Lim.c) hO (fun c hc=>by simp only [List.mem_map] at hc;obtain ⟨x,_,rfl⟩:=hc;rfl) aj (by rw [List.length_map];omega) hs .here
 exact ⟨H2,hle.trans hle2,⟨vl,rfl,hR⟩,hs⟩
set_option maxHeartbeats 1000000 in
theorem fo{s:Srv}{vst vwa vr vc:Value}(hs:St H w σ)(h1:RI H vst s.sp.st)(h2:RI H vwa s.sp.wa)(h3:RRd H vr s.rs)(h4:RCm H vc s.cs):
  Cl Tryz.prog 42 [.agg #[I s.sp.id,I s.sp.src,vst,vwa,I s.sp.al,I s.sp.up,vr,vc]] w fun u w'=>∃H1 e,HLe H H1∧u=I e∧uF s e∧St H1 w' σ:=by
 obtain ⟨ast,cst,rfl⟩:=RI.shape h1
 obtain ⟨awa,cwa,rfl⟩:=RI.shape h2
 obtain ⟨ar,cr,rfl⟩:=RRd.shape h3
 obtain ⟨ac,cc,rfl⟩:=RCm.shape h4
 refine Cl.o Tryz.func42 Tryz.ntmps42 ag1 ?_
 refine .ai ?_
 refine .bx hs fun b1 w hs=>?_
 refine .z zg (.nil (.seq (.ai (.z (zfa aN) (.y hs (zls [_,_,_,_,_,_] aQ aH) ?_)))))
 refine .o (.call Tryz.call41 rfl (iV (s:=s.sp) hs h1 h2) ?_);rintro _ w ⟨H1,e,hle1,rfl,he,hs⟩
 refine .z zg (.nil (.ai (.z zm (.z iw (.nil ?_)))))
 refine (.fc rfl (fun hc13=>?_) (fun hc13=>?_))
 ·refine .ai (.z zm (.z zg (.nil ?_)))
  refine .ret (rT (Fin.bL kx rfl ?_))
  have hq:¬fG s.sp∧e=30:=he.resolve_left fun h=>hc13 h.2
  exact ⟨H1,_,hle1,rfl,by rw [hq.2];exact .space hq.1,hs.out⟩
 ·refine .skip ?_
  refine nT ?_
  refine .seq (.ai (.z (zfa aD) ?_))
  have hok:fG s.sp:=(he.resolve_right fun h=>by omega).1
  refine .y hs (zld aO) (.z (cH an) (.z kT (.z zm ?_)))
  refine .iq (t':=19) rfl (fun hb19=>?_) (fun hb19=>?_)
  ·refine .gFs 4 4 false rfl rfl rfl ?_
   refine .z zpT (.nil ?_)
   refine (.cT ?_)
   refine .ai (.z zg (.nil ?_))
   refine .ret (rT (Fin.bL kx rfl ?_))
   exact ⟨H1,_,hle1,rfl,.long hok aj,hs.out⟩
  ·refine .gT rfl rfl ?_
   refine .z (zfa aR) ?_
   refine .gT rfl rfl ?_
   refine .y hs (zld bI) ?_
   refine .gT rfl rfl ?_
   refine .z (cH aC) ?_
   refine .gT rfl rfl ?_
   refine .z kT (.z zpF (.nil ?_))
   refine (.bJ rfl (fun hc24=>?_) (fun hc24=>?_))
   ·refine .ai (.z zg (.nil ?_))
    refine .ret (rT (Fin.bL kx rfl ?_))
    exact ⟨H1,_,hle1,rfl,.long hok aj,hs.out⟩
   ·refine .skip ?_
    refine nT ?_
    refine .seq (.ai (.z (zfa aD) (.y hs (zld aO) (.z (cH an) (.z zm (.nil ?_))))))
    refine .for (N:=s.rs.length) (J:=fun k fr w=>fr=[(26,.slice ar s.rs.length cr),(1,.pointer (some ⟨b1,0,none⟩))]∧(∀j<k,∀y,s.rs[j]? =some y→jo s.sp y)∧St H1 w (.blk b1 [I s.sp.id,I s.sp.src,.slice ast s.sp.st.length cst,.slice awa s.sp.wa.length cwa,I s.sp.al,I s.sp.up,.slice ar s.rs.length cr,.slice ac s.cs.length cc]::σ)) aj ?_ ?_ ?_
    ·exact .mk ⟨rfl,fun j hj=>by omega,hs⟩
    ·rintro k fr w hk ⟨rfl,hno,hs⟩
     obtain ⟨r,hx⟩:=nth hk
     refine .block (.ai ?_)
     refine .ixX (enc:=Rdg.c) hs (h3.mono hle1) rfl rfl an aA hx cM ?_;intro b30 o30 hc30
     refine .q hs (bY (vs:=(Rdg.c r)) rfl cq aA hc30) ?_
     refine .o (.alloc hs dC rfl fun b5 w hs=>?_)
     refine .o (.aV (vs:=r.c) hs rfl rfl aA fun w hs=>?_)
     change St _ _ (.blk b5 [I r.src,I r.st,I r.wa,I r.val,I r.tol,I r.tape,I r.day]::_) at hs
     refine .nil (.ai (.z (zfa aN) (.y hs (zls [_,_,_,_,_,_] aQ aH) (.y hs (zls [_,_,_,_,_,_,_] cq aA) ?_))))
     refine .o (.call Tryz.call107 rfl (jf (s:=s.sp) (r:=r) hs (h1.mono hle1) (h2.mono hle1)) ?_);rintro _ w ⟨b35,rfl,hb35,hs⟩
     refine .z iO (.nil ?_)
     refine (.cond rfl (fun hc36=>?_) (fun hc36=>?_))
     ·refine .ai (.z zg (.nil ?_))
      refine .ret (rB (rT (rB (rT (Fin.bL kx rfl ?_)))))
      exact ⟨H1,_,hle1,rfl,.rdg hok aj (fun h=>by rw [hb35.2 (h r (List.mem_of_getElem? hx))] at hc36;cases hc36),hs.out⟩
     ·refine .skip ?_
      refine nB (nT ?_)
      exact .mk ⟨rfl,eE hno hx (hb35.1 (by simpa using hc36)),hs.tail⟩
    ·rintro fr w ⟨rfl,hno,hs⟩
     have hrs:∀r∈s.rs,jo s.sp r:=fun r hr=>by
      obtain ⟨j,hj⟩:=List.getElem?_of_mem hr
      exact hno j (List.getElem?_eq_some_iff.1 hj).1 r hj
     clear hno
     refine nT ?_
     refine .seq (.ai (.z (zfa aR) (.y hs (zld bI) (.z (cH aC) (.z zm (.nil ?_))))))
     refine .for (N:=s.cs.length) (J:=fun k fr w=>fr=[(39,.slice ac s.cs.length cc),(1,.pointer (some ⟨b1,0,none⟩))]∧(∀j<k,∀y,s.cs[j]? =some y→oT y)∧St H1 w (.blk b1 [I s.sp.id,I s.sp.src,.slice ast s.sp.st.length cst,.slice awa s.sp.wa.length cwa,I s.sp.al,I s.sp.up,.slice ar s.rs.length cr,.slice ac s.cs.length cc]::σ)) aj ?_ ?_ ?_
     ·exact .mk ⟨rfl,fun j hj=>by omega,hs⟩
     ·rintro k fr w hk ⟨rfl,hno,hs⟩
      obtain ⟨c,hx⟩:=nth hk
      refine .block (.ai ?_)
      refine .ixX (enc:=Cmp.c) hs (h4.mono hle1) rfl rfl aC aP hx cM ?_;intro b43 o43 hc43
      refine .q hs (bY (vs:=(Cmp.c c)) rfl fh aP hc43) ?_
      refine .o (.alloc hs gh rfl fun b7 w hs=>?_)
      refine .o (.aV (vs:=c.c) hs rfl rfl aP fun w hs=>?_)
      change St _ _ (.blk b7 [I c.src,I c.tape,I c.fr,I c.to,I c.lo,I c.hi]::_) at hs
      refine .nil (.ai (.y hs (zls [_,_,_,_,_,_] fh aP) ?_))
      refine .o (.call Tryz.call108 rfl (mm (c:=c) hs) ?_);rintro _ w ⟨b46,rfl,hb46,hs⟩
      refine .z iO (.nil ?_)
      refine (.cond rfl (fun hc47=>?_) (fun hc47=>?_))
      ·refine .ai (.z zg (.nil ?_))
       refine .ret (rB (rT (rB (rT (Fin.bL kx rfl ?_)))))
       exact ⟨H1,_,hle1,rfl,.cmp hok aj hrs (fun h=>by rw [hb46.2 (h c (List.mem_of_getElem? hx))] at hc47;cases hc47),hs.out⟩
      ·refine .skip ?_
       refine nB (nT ?_)
       exact .mk ⟨rfl,eE hno hx (hb46.1 (by simpa using hc47)),hs.tail⟩
     ·rintro fr w ⟨rfl,hno,hs⟩
      have hcs:∀c∈s.cs,oT c:=fun c hc=>by
       obtain ⟨j,hj⟩:=List.getElem?_of_mem hc
       exact hno j (List.getElem?_eq_some_iff.1 hj).1 c hj
      have hea:s.early:=⟨hok,aj,aj,hrs,hcs⟩
      have hsm:=ea hok
      have htl:s.bw.length≤60:=by have:=dq s.rs;have:=hea.2.1;unfold Srv.bw;omega
      have hll:=jv hea 6 aj
      rw [s.sZ] at hll
      have hsm2:s.sys.many=((s.sp.many+s.bw.length:Nat):Int):=rfl
      refine nT ?_
      refine .seq (.ai (.y hs (zls [_,_,_,_,_,_,_,_] aF az) ?_))
      refine .o (.call CT rfl (fa (s:=s) hs (h1.mono hle1) (h2.mono hle1) (h3.mono hle1) (h4.mono hle1) hea) ?_);rintro _ w ⟨H2,hle2,⟨ul,rfl,hL⟩,hs⟩
      obtain ⟨al,cl,rfl⟩:=RL.shape hL
      have hsl:s.sys.db.length=s.db.length:=rfl
      refine .o (.alloc hs dD rfl fun b8 w hs=>?_)
      refine .o (.aV (vs:=[_,_]) hs rfl rfl aI fun w hs=>?_)
      refine .nil (.ai (.z (zfa bP) (.y hs (zld ae) (.z kT (.z zm ?_)))))
      refine .iq (t':=54) rfl (fun hb54=>?_) (fun hb54=>?_)
      ·refine .gFs 4 3 false rfl rfl rfl ?_
       refine .z zpT (.nil ?_)
       refine (.cT ?_)
       refine .ai (.z zg (.nil ?_))
       refine .ret (rT (Fin.bL kx rfl ?_))
       exact ⟨H2,_,hle1.trans hle2,rfl,.big hea aj,hs.out⟩
      ·refine .gT rfl rfl ?_
       refine .z (zfa bV) ?_
       refine .gT rfl rfl ?_
       refine .y hs (zld du) ?_
       refine .gT rfl rfl ?_
       refine .z (cH a8) ?_
       refine .gT rfl rfl ?_
       refine .z kT (.z zpF (.nil ?_))
       refine (.bJ rfl (fun hc59=>?_) (fun hc59=>?_))
       ·refine .ai (.z zg (.nil ?_))
        refine .ret (rT (Fin.bL kx rfl ?_))
        exact ⟨H2,_,hle1.trans hle2,rfl,.big hea aj,hs.out⟩
       ·refine .skip ?_
        refine nT ?_
        refine .ai (.z zg (.nil ?_))
        refine .ret (Fin.bL kx rfl ?_)
        exact ⟨H2,_,hle1.trans hle2,rfl,.ok hea ⟨aj,aj⟩,hs.out⟩
theorem dy{a0 a1 a2:Int}(hs:St H w σ):Cl Tryz.prog 83 [I a0,I a1,I a2] w fun v w'=>v= .bool (decide (a1≤a0∧a0≤a2))∧St H w' σ:=by
 refine Cl.o Tryz.func83 Tryz.ntmps83 ag3 ?_
 refine .ai (.z zg (.nil (.ai (.z zm (.z zm (.z xo (.z zm ?_)))))))
 refine .iq (t':=10) rfl (fun hb10=>?_) (fun hb10=>?_)
 ·refine .gT rfl rfl ?_
  refine .z zm ?_
  refine .gT rfl rfl ?_
  refine .z zm ?_
  refine .gT rfl rfl ?_
  refine .z wi (.z zpT (.z zg (.nil ?_)))
  refine .ret (Fin.bL Tryz.results83 rfl ?_)
  exact ⟨by simp [*],hs.out⟩
 ·refine .gFs 3 3 true rfl rfl rfl ?_
  refine .z zpF (.z zg (.nil ?_))
  refine .ret (Fin.bL Tryz.results83 rfl ?_)
  exact ⟨by simp [*],hs.out⟩
theorem Em{s:Spc}(h1:eH 9 100000 s.st)(h2:eH 9 100000 s.wa)(h3:s.wa.length≤7)(h4:gi s.wa (s.wa.length - 1)≤15000)(h5:1≤s.id∧s.id≤99999)(h6:1≤s.src∧s.src≤99999)(h7:0≤s.al∧s.al≤100000)(h8:0≤s.up∧s.up≤100000):fG s:=
 ⟨h1,⟨h2.two,h3,h2.low,h4,h2.rise⟩,h5,h6,h7,h8⟩
theorem xw{s:Spc}(h:fG s):eH 9 100000 s.wa:=⟨h.wa.two,by have:=h.wa.many;omega,h.wa.low,by have:=h.wa.high;omega,h.wa.rise⟩
theorem jt{s:Spc}{vst vwa:Value}(hs:St H w σ)(h1:RI H vst s.st)(h2:RI H vwa s.wa):
  Cl Tryz.prog 24 [.agg #[I s.id,I s.src,vst,vwa,I s.al,I s.up]] w fun v w'=>∃e,v=I e∧((fG s∧e=0)∨(¬fG s∧e=30))∧St H w' σ:=by
 obtain ⟨ast,cst,rfl⟩:=RI.shape h1
 obtain ⟨awa,cwa,rfl⟩:=RI.shape h2
 have l2:=(RI.len h2).2.2
 refine Cl.o Tryz.func24 Tryz.ntmps24 ag1 ?_
 refine .ai ?_
 refine .bx hs fun b1 w hs=>?_
 refine .z zg (.nil (.seq (.ai (.z (zfa gY) (.y hs (zld ae) ?_)))))
 refine .o (.call fl rfl (dy hs) ?_);rintro _ w ⟨rfl,hs⟩
 refine .z iO (.z zm ?_)
 refine .bif (t':=7) rfl (fun hb7=>?_) (fun hb7=>?_)
 ·refine .gFs 4 4 false rfl rfl rfl ?_
  refine .z zpT (.z zm ?_)
  refine .gFs 5 10 false rfl rfl rfl ?_
  refine .z zpT (.z zm ?_)
  refine .gFs 5 17 false rfl rfl rfl ?_
  refine .z zpT (.nil ?_)
  refine (.cT ?_)
  refine .ai (.z zg (.nil ?_))
  refine .ret (rT (Fin.bL jd rfl ?_))
  exact ⟨_,rfl,.inr ⟨fun h=>by have:=h.id;simp_all,rfl⟩,hs.out⟩
 ·refine .gT rfl rfl ?_
  refine .z (zfa df) ?_
  refine .gT rfl rfl ?_
  refine .y hs (zld ae) ?_
  refine .gT rfl rfl ?_
  refine .o (.call fl rfl (dy hs) ?_);rintro _ w ⟨rfl,hs⟩
  refine .gT rfl rfl ?_
  refine .z iO (.z zpF (.z zm ?_))
  refine .bif (t':=13) rfl (fun hb13=>?_) (fun hb13=>?_)
  ·refine .gFs 5 10 false rfl rfl rfl ?_
   refine .z zpT (.z zm ?_)
   refine .gFs 5 17 false rfl rfl rfl ?_
   refine .z zpT (.nil ?_)
   refine (.cT ?_)
   refine .ai (.z zg (.nil ?_))
   refine .ret (rT (Fin.bL jd rfl ?_))
   exact ⟨_,rfl,.inr ⟨fun h=>by have:=h.src;simp_all,rfl⟩,hs.out⟩
  ·refine .gT rfl rfl ?_
   refine .z (zfa dF) ?_
   refine .gT rfl rfl ?_
   refine .z (zfa iZ) ?_
   refine .gT rfl rfl ?_
   refine .y hs (zld ae) ?_
   refine .gT rfl rfl ?_
   refine .o (.call fl rfl (dy hs) ?_);rintro _ w ⟨rfl,hs⟩
   refine .gT rfl rfl ?_
   refine .z iO (.z zpF (.z zm ?_))
   refine .bif (t':=20) rfl (fun hb20=>?_) (fun hb20=>?_)
   ·refine .gFs 5 17 false rfl rfl rfl ?_
    refine .z zpT (.nil ?_)
    refine (.cT ?_)
    refine .ai (.z zg (.nil ?_))
    refine .ret (rT (Fin.bL jd rfl ?_))
    exact ⟨_,rfl,.inr ⟨fun h=>by have:=h.al;simp_all,rfl⟩,hs.out⟩
   ·refine .gT rfl rfl ?_
    refine .z (zfa dF) ?_
    refine .gT rfl rfl ?_
    refine .z (zfa iY) ?_
    refine .gT rfl rfl ?_
    refine .y hs (zld ae) ?_
    refine .gT rfl rfl ?_
    refine .o (.call fl rfl (dy hs) ?_);rintro _ w ⟨rfl,hs⟩
    refine .gT rfl rfl ?_
    refine .z iO (.z zpF (.nil ?_))
    refine (.cond rfl (fun hc26=>?_) (fun hc26=>?_))
    ·refine .ai (.z zg (.nil ?_))
     refine .ret (rT (Fin.bL jd rfl ?_))
     exact ⟨_,rfl,.inr ⟨fun h=>by have:=h.up;simp_all,rfl⟩,hs.out⟩
    ·refine .skip ?_
     refine nT ?_
     refine .seq (.ai (.z (zfa bn) (.y hs (zld ak) ?_)))
     refine .o (.call Tryz.call84 rfl (gw hs h1) ?_);rintro _ w ⟨e1,rfl,he1,hs⟩
     refine .z iw (.z zm ?_)
     refine .xW (t':=31) rfl (fun hb31=>?_) (fun hb31=>?_)
     ·refine .gFs 4 4 false rfl rfl rfl ?_
      refine .z zpT (.z zm ?_)
      refine .gFs 4 10 false rfl rfl rfl ?_
      refine .z zpT (.z zm ?_)
      refine .gFs 9 16 false rfl rfl rfl ?_
      refine .z zpT (.nil ?_)
      refine (.cT ?_)
      refine .ai (.z zg (.nil ?_))
      refine .ret (rT (Fin.bL jd rfl ?_))
      exact ⟨_,rfl,.inr ⟨fun h=>hb31 (he1.elim (fun g=>g.2) fun g=>(g.1 h.st).elim),rfl⟩,hs.out⟩
     ·refine .gT rfl rfl ?_
      refine .z (zfa aW) ?_
      refine .gT rfl rfl ?_
      refine .y hs (zld ak) ?_
      refine .gT rfl rfl ?_
      refine .o (.call Tryz.call84 rfl (gw hs h2) ?_);rintro _ w ⟨e2,rfl,he2,hs⟩
      refine .gT rfl rfl ?_
      refine .z iw (.z zpF (.z zm ?_))
      refine .xW (t':=37) rfl (fun hb37=>?_) (fun hb37=>?_)
      ·refine .gFs 4 10 false rfl rfl rfl ?_
       refine .z zpT (.z zm ?_)
       refine .gFs 9 16 false rfl rfl rfl ?_
       refine .z zpT (.nil ?_)
       refine (.cT ?_)
       refine .ai (.z zg (.nil ?_))
       refine .ret (rT (Fin.bL jd rfl ?_))
       exact ⟨_,rfl,.inr ⟨fun h=>hb37 (he2.elim (fun g=>g.2) fun g=>(g.1 (xw h)).elim),rfl⟩,hs.out⟩
      ·refine .gT rfl rfl ?_
       refine .z (zfa aW) ?_
       refine .gT rfl rfl ?_
       have hw:eH 9 100000 s.wa:=he2.elim (fun g=>g.1) fun g=>(g.2 aj).elim
       have hw2:=hw.two
       refine .y hs (zld ak) ?_
       refine .gT rfl rfl ?_
       refine .z (cH aa) ?_
       refine .gT rfl rfl ?_
       refine .z kT (.z zpF (.z zm ?_))
       refine .iq (t':=43) rfl (fun hb43=>?_) (fun hb43=>?_)
       ·refine .gFs 9 16 false rfl rfl rfl ?_
        refine .z zpT (.nil ?_)
        refine (.cT ?_)
        refine .ai (.z zg (.nil ?_))
        refine .ret (rT (Fin.bL jd rfl ?_))
        exact ⟨_,rfl,.inr ⟨fun h=>by have:=h.wa.many;omega,rfl⟩,hs.out⟩
       ·refine .gT rfl rfl ?_
        refine .z (zfa aW) ?_
        refine .gT rfl rfl ?_
        refine .y hs (zld ak) ?_
        refine .gT rfl rfl ?_
        refine .z (zfa aW) ?_
        refine .gT rfl rfl ?_
        refine .y hs (zld ak) ?_
        refine .gT rfl rfl ?_
        refine .z (cH aa) ?_
        refine .gT rfl rfl ?_
        refine .z ir ?_
        refine .gT rfl rfl ?_
        refine .ixY hs h2 rfl rfl aa af (bu (l:=s.wa) (i:=(s.wa.length-1)) aj) cM ?_;intro b50 o50 hc50
        refine .gT rfl rfl ?_
        refine .q hs (aK rfl ae hc50) ?_
        refine .gT rfl rfl ?_
        refine .z kT (.z zpF (.nil ?_))
        refine (.bJ rfl (fun hc53=>?_) (fun hc53=>?_))
        ·refine .ai (.z zg (.nil ?_))
         refine .ret (rT (Fin.bL jd rfl ?_))
         exact ⟨_,rfl,.inr ⟨fun h=>by have:=h.wa.high;omega,rfl⟩,hs.out⟩
        ·refine .skip ?_
         refine nT ?_
         refine .ai (.z zg (.nil ?_))
         refine .ret (Fin.bL jd rfl ?_)
         exact ⟨_,rfl,.inl ⟨Em (he1.elim (fun g=>g.1) fun g=>(g.2 aj).elim) hw aj aj (by simp_all) (by simp_all) (by simp_all) (by simp_all),rfl⟩,hs.out⟩
theorem iR{s:Spc}{r:Rdg}{vst vwa:Value}(hs:St H w σ)(h1:RI H vst s.st)(h2:RI H vwa s.wa):
  Cl Tryz.prog 109 [.agg #[I s.id,I s.src,vst,vwa,I s.al,I s.up],.agg #[I r.src,I r.st,I r.wa,I r.val,I r.tol,I r.tape,I r.day]] w fun v w'=>∃b:Bool,v= .bool b∧(b=true↔jo s r)∧St H w' σ:=by
 obtain ⟨ast,cst,rfl⟩:=RI.shape h1
 obtain ⟨awa,cwa,rfl⟩:=RI.shape h2
 have l1:=(RI.len h1).2.2
 have l2:=(RI.len h2).2.2
 refine Cl.o Tryz.func109 Tryz.ntmps109 ag2 ?_
 refine .ai ?_
 refine .bx hs fun b2 w hs=>?_
 refine .bx hs fun b3 w hs=>?_
 refine .z zg (.nil (.ai (.z (zfa dk) (.y hs (zld ae) ?_))))
 refine .o (.call fl rfl (dy hs) ?_);rintro _ w ⟨rfl,hs⟩
 refine .z zm ?_
 refine .bif (t':=8) rfl (fun hb8=>?_) (fun hb8=>?_)
 ·refine .gT rfl rfl ?_
  refine .z (zfa eN) ?_
  refine .gT rfl rfl ?_
  refine .y hs (zld ae) ?_
  refine .gT rfl rfl ?_
  refine .z (zfa bn) ?_
  refine .gT rfl rfl ?_
  refine .y hs (zld ak) ?_
  refine .gT rfl rfl ?_
  refine .z (cH aa) ?_
  refine .gT rfl rfl ?_
  refine .z ir ?_
  refine .gT rfl rfl ?_
  refine .o (.call fl rfl (dy hs) ?_);rintro _ w ⟨rfl,hs⟩
  refine .z zpT (.z zm ?_)
  refine .bif (t':=17) rfl (fun hb17=>?_) (fun hb17=>?_)
  ·refine .gT rfl rfl ?_
   refine .z (zfa eM) ?_
   refine .gT rfl rfl ?_
   refine .y hs (zld ae) ?_
   refine .gT rfl rfl ?_
   refine .z (zfa aW) ?_
   refine .gT rfl rfl ?_
   refine .y hs (zld ak) ?_
   refine .gT rfl rfl ?_
   refine .z (cH aa) ?_
   refine .gT rfl rfl ?_
   refine .z ir ?_
   refine .gT rfl rfl ?_
   refine .o (.call fl rfl (dy hs) ?_);rintro _ w ⟨rfl,hs⟩
   refine .z zpT (.z zm ?_)
   refine .bif (t':=26) rfl (fun hb26=>?_) (fun hb26=>?_)
   ·refine .gT rfl rfl ?_
    refine .z (zfa cz) ?_
    refine .gT rfl rfl ?_
    refine .y hs (zld ae) ?_
    refine .gT rfl rfl ?_
    refine .o (.call fl rfl (dy hs) ?_);rintro _ w ⟨rfl,hs⟩
    refine .z zpT (.z zm ?_)
    refine .bif (t':=31) rfl (fun hb31=>?_) (fun hb31=>?_)
    ·refine .gT rfl rfl ?_
     refine .z (zfa cU) ?_
     refine .gT rfl rfl ?_
     refine .y hs (zld ae) ?_
     refine .gT rfl rfl ?_
     refine .z (zfa cz) ?_
     refine .gT rfl rfl ?_
     refine .y hs (zld ae) ?_
     refine .gT rfl rfl ?_
     have ht:0≤r.tol∧r.tol≤1000:=by simp_all
     refine .z ir ?_
     refine .gT rfl rfl ?_
     refine .o (.call fl rfl (dy hs) ?_);rintro _ w ⟨rfl,hs⟩
     refine .z zpT (.z zm ?_)
     refine .bif (t':=39) rfl (fun hb39=>?_) (fun hb39=>?_)
     ·refine .gT rfl rfl ?_
      refine .z (zfa eh) ?_
      refine .gT rfl rfl ?_
      refine .y hs (zld ae) ?_
      refine .gT rfl rfl ?_
      refine .o (.call fl rfl (dy hs) ?_);rintro _ w ⟨rfl,hs⟩
      refine .z zpT (.z zm ?_)
      refine .bif (t':=44) rfl (fun hb44=>?_) (fun hb44=>?_)
      ·refine .gT rfl rfl ?_
       refine .z (zfa eg) ?_
       refine .gT rfl rfl ?_
       refine .y hs (zld ae) ?_
       refine .gT rfl rfl ?_
       refine .o (.call fl rfl (dy hs) ?_);rintro _ w ⟨rfl,hs⟩
       refine .z zpT (.z zg (.nil ?_))
       refine .ret (Fin.bL me rfl ?_)
       first
       |exact ⟨false,rfl,⟨fun h=>(by cases h),fun h=>(by obtain ⟨g1,g2,g3,g4,g5,g6,g7⟩:=h;simp_all;done)⟩,hs.out⟩
       |exact ⟨_,rfl,⟨fun h=>⟨by simp_all,by simp_all,by simp_all,by simp_all,by simp_all,by simp_all,by simpa using h⟩,fun h=>by simpa using h.day⟩,hs.out⟩
      ·refine .gFs 3 39 true rfl rfl rfl ?_
       refine .z zpF (.z zg (.nil ?_))
       refine .ret (Fin.bL me rfl ?_)
       first
       |exact ⟨false,rfl,⟨fun h=>(by cases h),fun h=>(by obtain ⟨g1,g2,g3,g4,g5,g6,g7⟩:=h;simp_all;done)⟩,hs.out⟩
       |exact ⟨_,rfl,⟨fun h=>⟨by simp_all,by simp_all,by simp_all,by simp_all,by simp_all,by simp_all,by simpa using h⟩,fun h=>by simpa using h.day⟩,hs.out⟩
     ·refine .gFs 3 34 true rfl rfl rfl ?_
      refine .z zpF (.z zm ?_)
      refine .gFs 3 39 true rfl rfl rfl ?_
      refine .z zpF (.z zg (.nil ?_))
      refine .ret (Fin.bL me rfl ?_)
      first
      |exact ⟨false,rfl,⟨fun h=>(by cases h),fun h=>(by obtain ⟨g1,g2,g3,g4,g5,g6,g7⟩:=h;simp_all;done)⟩,hs.out⟩
      |exact ⟨_,rfl,⟨fun h=>⟨by simp_all,by simp_all,by simp_all,by simp_all,by simp_all,by simp_all,by simpa using h⟩,fun h=>by simpa using h.day⟩,hs.out⟩
    ·refine .gFs 6 26 true rfl rfl rfl ?_
     refine .z zpF (.z zm ?_)
     refine .gFs 3 34 true rfl rfl rfl ?_
     refine .z zpF (.z zm ?_)
     refine .gFs 3 39 true rfl rfl rfl ?_
     refine .z zpF (.z zg (.nil ?_))
     refine .ret (Fin.bL me rfl ?_)
     first
     |exact ⟨false,rfl,⟨fun h=>(by cases h),fun h=>(by obtain ⟨g1,g2,g3,g4,g5,g6,g7⟩:=h;simp_all;done)⟩,hs.out⟩
     |exact ⟨_,rfl,⟨fun h=>⟨by simp_all,by simp_all,by simp_all,by simp_all,by simp_all,by simp_all,by simpa using h⟩,fun h=>by simpa using h.day⟩,hs.out⟩
   ·refine .gFs 3 21 true rfl rfl rfl ?_
    refine .z zpF (.z zm ?_)
    refine .gFs 6 26 true rfl rfl rfl ?_
    refine .z zpF (.z zm ?_)
    refine .gFs 3 34 true rfl rfl rfl ?_
    refine .z zpF (.z zm ?_)
    refine .gFs 3 39 true rfl rfl rfl ?_
    refine .z zpF (.z zg (.nil ?_))
    refine .ret (Fin.bL me rfl ?_)
    first
    |exact ⟨false,rfl,⟨fun h=>(by cases h),fun h=>(by obtain ⟨g1,g2,g3,g4,g5,g6,g7⟩:=h;simp_all;done)⟩,hs.out⟩
    |exact ⟨_,rfl,⟨fun h=>⟨by simp_all,by simp_all,by simp_all,by simp_all,by simp_all,by simp_all,by simpa using h⟩,fun h=>by simpa using h.day⟩,hs.out⟩
  ·refine .gFs 7 12 true rfl rfl rfl ?_
   refine .z zpF (.z zm ?_)
   refine .gFs 3 21 true rfl rfl rfl ?_
   refine .z zpF (.z zm ?_)
   refine .gFs 6 26 true rfl rfl rfl ?_
   refine .z zpF (.z zm ?_)
   refine .gFs 3 34 true rfl rfl rfl ?_
   refine .z zpF (.z zm ?_)
   refine .gFs 3 39 true rfl rfl rfl ?_
   refine .z zpF (.z zg (.nil ?_))
   refine .ret (Fin.bL me rfl ?_)
   first
   |exact ⟨false,rfl,⟨fun h=>(by cases h),fun h=>(by obtain ⟨g1,g2,g3,g4,g5,g6,g7⟩:=h;simp_all;done)⟩,hs.out⟩
   |exact ⟨_,rfl,⟨fun h=>⟨by simp_all,by simp_all,by simp_all,by simp_all,by simp_all,by simp_all,by simpa using h⟩,fun h=>by simpa using h.day⟩,hs.out⟩
 ·refine .gFs 7 3 true rfl rfl rfl ?_
  refine .z zpF (.z zm ?_)
  refine .gFs 7 12 true rfl rfl rfl ?_
  refine .z zpF (.z zm ?_)
  refine .gFs 3 21 true rfl rfl rfl ?_
  refine .z zpF (.z zm ?_)
  refine .gFs 6 26 true rfl rfl rfl ?_
  refine .z zpF (.z zm ?_)
  refine .gFs 3 34 true rfl rfl rfl ?_
  refine .z zpF (.z zm ?_)
  refine .gFs 3 39 true rfl rfl rfl ?_
  refine .z zpF (.z zg (.nil ?_))
  refine .ret (Fin.bL me rfl ?_)
  first
  |exact ⟨false,rfl,⟨fun h=>(by cases h),fun h=>(by obtain ⟨g1,g2,g3,g4,g5,g6,g7⟩:=h;simp_all;done)⟩,hs.out⟩
  |exact ⟨_,rfl,⟨fun h=>⟨by simp_all,by simp_all,by simp_all,by simp_all,by simp_all,by simp_all,by simpa using h⟩,fun h=>by simpa using h.day⟩,hs.out⟩
theorem lE{c:Cmp}(hs:St H w σ):
  Cl Tryz.prog 110 [.agg #[I c.src,I c.tape,I c.fr,I c.to,I c.lo,I c.hi]] w fun v w'=>∃b:Bool,v= .bool b∧(b=true↔oT c)∧St H w' σ:=by
 refine Cl.o Tryz.func110 Tryz.ntmps110 ag1 ?_
 refine .ai ?_
 refine .bx hs fun b1 w hs=>?_
 refine .z zg (.nil (.ai (.z (zfa dX) (.y hs (zld ae) ?_))))
 refine .o (.call fl rfl (dy hs) ?_);rintro _ w ⟨rfl,hs⟩
 refine .z zm ?_
 refine .bif (t':=6) rfl (fun hb6=>?_) (fun hb6=>?_)
 ·refine .gT rfl rfl ?_
  refine .z (zfa ik) ?_
  refine .gT rfl rfl ?_
  refine .y hs (zld ae) ?_
  refine .gT rfl rfl ?_
  refine .o (.call fl rfl (dy hs) ?_);rintro _ w ⟨rfl,hs⟩
  refine .z zpT (.z zm ?_)
  refine .bif (t':=11) rfl (fun hb11=>?_) (fun hb11=>?_)
  ·refine .gT rfl rfl ?_
   refine .z (zfa fk) ?_
   refine .gT rfl rfl ?_
   refine .y hs (zld ae) ?_
   refine .gT rfl rfl ?_
   refine .z xo (.z zpT (.z zm ?_))
   refine .iq (t':=16) rfl (fun hb16=>?_) (fun hb16=>?_)
   ·refine .gT rfl rfl ?_
    refine .z (zfa fk) ?_
    refine .gT rfl rfl ?_
    refine .y hs (zld ae) ?_
    refine .gT rfl rfl ?_
    refine .z (zfa eQ) ?_
    refine .gT rfl rfl ?_
    refine .y hs (zld ae) ?_
    refine .gT rfl rfl ?_
    refine .z wi (.z zpT (.z zm ?_))
    refine .iq (t':=23) rfl (fun hb23=>?_) (fun hb23=>?_)
    ·refine .gT rfl rfl ?_
     refine .z (zfa eQ) ?_
     refine .gT rfl rfl ?_
     refine .y hs (zld ae) ?_
     refine .gT rfl rfl ?_
     refine .z wi (.z zpT (.z zm ?_))
     refine .iq (t':=28) rfl (fun hb28=>?_) (fun hb28=>?_)
     ·refine .gT rfl rfl ?_
      refine .z (zfa eP) ?_
      refine .gT rfl rfl ?_
      refine .y hs (zld ae) ?_
      refine .gT rfl rfl ?_
      refine .z xo (.z zpT (.z zm ?_))
      refine .iq (t':=33) rfl (fun hb33=>?_) (fun hb33=>?_)
      ·refine .gT rfl rfl ?_
       refine .z (zfa eP) ?_
       refine .gT rfl rfl ?_
       refine .y hs (zld ae) ?_
       refine .gT rfl rfl ?_
       refine .z (zfa eO) ?_
       refine .gT rfl rfl ?_
       refine .y hs (zld ae) ?_
       refine .gT rfl rfl ?_
       refine .z wi (.z zpT (.z zm ?_))
       refine .iq (t':=40) rfl (fun hb40=>?_) (fun hb40=>?_)
       ·refine .gT rfl rfl ?_
        refine .z (zfa eO) ?_
        refine .gT rfl rfl ?_
        refine .y hs (zld ae) ?_
        refine .gT rfl rfl ?_
        refine .z wi (.z zpT (.z zg (.nil ?_)))
        refine .ret (Fin.bL jP rfl ?_)
        first
        |exact ⟨false,rfl,⟨fun h=>(by cases h),fun h=>(by obtain ⟨g1,g2,g3,g4,g5,g6⟩:=h;simp_all;omega)⟩,hs.out⟩
        |exact ⟨false,rfl,⟨fun h=>(by cases h),fun h=>(by obtain ⟨g1,g2,g3,g4,g5,g6⟩:=h;simp_all;done)⟩,hs.out⟩
        |exact ⟨_,rfl,⟨fun h=>⟨by simp_all,by simp_all,⟨aj,aj⟩,aj,⟨aj,aj⟩,of_decide_eq_true h⟩,fun h=>decide_eq_true h.hi⟩,hs.out⟩
       ·refine .gFs 3 37 true rfl rfl rfl ?_
        refine .z zpF (.z zg (.nil ?_))
        refine .ret (Fin.bL jP rfl ?_)
        first
        |exact ⟨false,rfl,⟨fun h=>(by cases h),fun h=>(by obtain ⟨g1,g2,g3,g4,g5,g6⟩:=h;simp_all;omega)⟩,hs.out⟩
        |exact ⟨false,rfl,⟨fun h=>(by cases h),fun h=>(by obtain ⟨g1,g2,g3,g4,g5,g6⟩:=h;simp_all;done)⟩,hs.out⟩
        |exact ⟨_,rfl,⟨fun h=>⟨by simp_all,by simp_all,⟨aj,aj⟩,aj,⟨aj,aj⟩,of_decide_eq_true h⟩,fun h=>decide_eq_true h.hi⟩,hs.out⟩
      ·refine .gFs 5 30 true rfl rfl rfl ?_
       refine .z zpF (.z zm ?_)
       refine .gFs 3 37 true rfl rfl rfl ?_
       refine .z zpF (.z zg (.nil ?_))
       refine .ret (Fin.bL jP rfl ?_)
       first
       |exact ⟨false,rfl,⟨fun h=>(by cases h),fun h=>(by obtain ⟨g1,g2,g3,g4,g5,g6⟩:=h;simp_all;omega)⟩,hs.out⟩
       |exact ⟨false,rfl,⟨fun h=>(by cases h),fun h=>(by obtain ⟨g1,g2,g3,g4,g5,g6⟩:=h;simp_all;done)⟩,hs.out⟩
       |exact ⟨_,rfl,⟨fun h=>⟨by simp_all,by simp_all,⟨aj,aj⟩,aj,⟨aj,aj⟩,of_decide_eq_true h⟩,fun h=>decide_eq_true h.hi⟩,hs.out⟩
     ·refine .gFs 3 25 true rfl rfl rfl ?_
      refine .z zpF (.z zm ?_)
      refine .gFs 5 30 true rfl rfl rfl ?_
      refine .z zpF (.z zm ?_)
      refine .gFs 3 37 true rfl rfl rfl ?_
      refine .z zpF (.z zg (.nil ?_))
      refine .ret (Fin.bL jP rfl ?_)
      first
      |exact ⟨false,rfl,⟨fun h=>(by cases h),fun h=>(by obtain ⟨g1,g2,g3,g4,g5,g6⟩:=h;simp_all;omega)⟩,hs.out⟩
      |exact ⟨false,rfl,⟨fun h=>(by cases h),fun h=>(by obtain ⟨g1,g2,g3,g4,g5,g6⟩:=h;simp_all;done)⟩,hs.out⟩
      |exact ⟨_,rfl,⟨fun h=>⟨by simp_all,by simp_all,⟨aj,aj⟩,aj,⟨aj,aj⟩,of_decide_eq_true h⟩,fun h=>decide_eq_true h.hi⟩,hs.out⟩
    ·refine .gFs 3 20 true rfl rfl rfl ?_
     refine .z zpF (.z zm ?_)
     refine .gFs 3 25 true rfl rfl rfl ?_
     refine .z zpF (.z zm ?_)
     refine .gFs 5 30 true rfl rfl rfl ?_
     refine .z zpF (.z zm ?_)
     refine .gFs 3 37 true rfl rfl rfl ?_
     refine .z zpF (.z zg (.nil ?_))
     refine .ret (Fin.bL jP rfl ?_)
     first
     |exact ⟨false,rfl,⟨fun h=>(by cases h),fun h=>(by obtain ⟨g1,g2,g3,g4,g5,g6⟩:=h;simp_all;omega)⟩,hs.out⟩
     |exact ⟨false,rfl,⟨fun h=>(by cases h),fun h=>(by obtain ⟨g1,g2,g3,g4,g5,g6⟩:=h;simp_all;done)⟩,hs.out⟩
     |exact ⟨_,rfl,⟨fun h=>⟨by simp_all,by simp_all,⟨aj,aj⟩,aj,⟨aj,aj⟩,of_decide_eq_true h⟩,fun h=>decide_eq_true h.hi⟩,hs.out⟩
   ·refine .gFs 5 13 true rfl rfl rfl ?_
    refine .z zpF (.z zm ?_)
    refine .gFs 3 20 true rfl rfl rfl ?_
    refine .z zpF (.z zm ?_)
    refine .gFs 3 25 true rfl rfl rfl ?_
    refine .z zpF (.z zm ?_)
    refine .gFs 5 30 true rfl rfl rfl ?_
    refine .z zpF (.z zm ?_)
    refine .gFs 3 37 true rfl rfl rfl ?_
    refine .z zpF (.z zg (.nil ?_))
    refine .ret (Fin.bL jP rfl ?_)
    first
    |exact ⟨false,rfl,⟨fun h=>(by cases h),fun h=>(by obtain ⟨g1,g2,g3,g4,g5,g6⟩:=h;simp_all;omega)⟩,hs.out⟩
    |exact ⟨false,rfl,⟨fun h=>(by cases h),fun h=>(by obtain ⟨g1,g2,g3,g4,g5,g6⟩:=h;simp_all;done)⟩,hs.out⟩
    |exact ⟨_,rfl,⟨fun h=>⟨by simp_all,by simp_all,⟨aj,aj⟩,aj,⟨aj,aj⟩,of_decide_eq_true h⟩,fun h=>decide_eq_true h.hi⟩,hs.out⟩
  ·refine .gFs 3 8 true rfl rfl rfl ?_
   refine .z zpF (.z zm ?_)
   refine .gFs 5 13 true rfl rfl rfl ?_
   refine .z zpF (.z zm ?_)
   refine .gFs 3 20 true rfl rfl rfl ?_
   refine .z zpF (.z zm ?_)
   refine .gFs 3 25 true rfl rfl rfl ?_
   refine .z zpF (.z zm ?_)
   refine .gFs 5 30 true rfl rfl rfl ?_
   refine .z zpF (.z zm ?_)
   refine .gFs 3 37 true rfl rfl rfl ?_
   refine .z zpF (.z zg (.nil ?_))
   refine .ret (Fin.bL jP rfl ?_)
   first
   |exact ⟨false,rfl,⟨fun h=>(by cases h),fun h=>(by obtain ⟨g1,g2,g3,g4,g5,g6⟩:=h;simp_all;omega)⟩,hs.out⟩
   |exact ⟨false,rfl,⟨fun h=>(by cases h),fun h=>(by obtain ⟨g1,g2,g3,g4,g5,g6⟩:=h;simp_all;done)⟩,hs.out⟩
   |exact ⟨_,rfl,⟨fun h=>⟨by simp_all,by simp_all,⟨aj,aj⟩,aj,⟨aj,aj⟩,of_decide_eq_true h⟩,fun h=>decide_eq_true h.hi⟩,hs.out⟩
 ·refine .gFs 3 3 true rfl rfl rfl ?_
  refine .z zpF (.z zm ?_)
  refine .gFs 3 8 true rfl rfl rfl ?_
  refine .z zpF (.z zm ?_)
  refine .gFs 5 13 true rfl rfl rfl ?_
  refine .z zpF (.z zm ?_)
  refine .gFs 3 20 true rfl rfl rfl ?_
  refine .z zpF (.z zm ?_)
  refine .gFs 3 25 true rfl rfl rfl ?_
  refine .z zpF (.z zm ?_)
  refine .gFs 5 30 true rfl rfl rfl ?_
  refine .z zpF (.z zm ?_)
  refine .gFs 3 37 true rfl rfl rfl ?_
  refine .z zpF (.z zg (.nil ?_))
  refine .ret (Fin.bL jP rfl ?_)
  first
  |exact ⟨false,rfl,⟨fun h=>(by cases h),fun h=>(by obtain ⟨g1,g2,g3,g4,g5,g6⟩:=h;simp_all;omega)⟩,hs.out⟩
  |exact ⟨false,rfl,⟨fun h=>(by cases h),fun h=>(by obtain ⟨g1,g2,g3,g4,g5,g6⟩:=h;simp_all;done)⟩,hs.out⟩
  |exact ⟨_,rfl,⟨fun h=>⟨by simp_all,by simp_all,⟨aj,aj⟩,aj,⟨aj,aj⟩,of_decide_eq_true h⟩,fun h=>decide_eq_true h.hi⟩,hs.out⟩
theorem eJ{s:Spc}{vst vwa:Value}(hs:St H w σ)(h1:RI H vst s.st)(h2:RI H vwa s.wa)(hb:s.st.length≤1000∧s.wa.length≤1000):
  Cl Tryz.prog 97 [.agg #[I s.id,I s.src,vst,vwa,I s.al,I s.up]] w fun v w'=>v=I (s.many:Int)∧St H w' σ:=by
 obtain ⟨ast,cst,rfl⟩:=RI.shape h1
 obtain ⟨awa,cwa,rfl⟩:=RI.shape h2
 have hm:=kG (a:=(s.st.length:Int)) (b:=(s.wa.length:Int)) (A:=1000) (B:=1000) aj aj
 refine Cl.o Tryz.func97 Tryz.ntmps97 ag1 ?_
 refine .ai ?_
 refine .bx hs fun b1 w hs=>?_
 refine .z zg (.nil (.ai (.z (zfa bn) (.y hs (zld ak) (.z (cH aa) (.z (zfa aW) (.y hs (zld ak) (.z (cH aa) (.z jV ?_)))))))))
 refine .z zg (.nil ?_)
 refine .ret (Fin.bL Tryz.results97 rfl ?_)
 exact ⟨by unfold Spc.many;rw [Int.natCast_mul],hs.out⟩
theorem dn{s:Spc}{vst vwa:Value}{a b:Int}(hs:St H w σ)(h2:RI H vwa s.wa)(hb:s.wa.length≤1000)(ha: -1000≤a∧a≤1000)(hb': -1000≤b∧b≤1000):
  Cl Tryz.prog 121 [.agg #[I s.id,I s.src,vst,vwa,I s.al,I s.up],I a,I b] w fun v w'=>v=I (1+a*s.wa.length+b)∧St H w' σ:=by
 obtain ⟨awa,cwa,rfl⟩:=RI.shape h2
 have hm:=kG (a:=a) (b:=(s.wa.length:Int)) (A:=1000) (B:=1000) aj aj
 refine Cl.o Tryz.func121 Tryz.ntmps121 ag3 ?_
 refine .ai ?_
 refine .bx hs fun b3 w hs=>?_
 refine .z zg (.nil (.ai (.z zm (.z (zfa aW) (.y hs (zld ak) (.z (cH aa) (.z jV (.z cA (.z zm ?_)))))))))
 refine .z cA (.z zg (.nil ?_))
 refine .ret (Fin.bL Tryz.results121 rfl ?_)
 exact ⟨rfl,hs.out⟩
theorem k9{a b:Int}(hs:St H w σ)(ha:0≤a∧a≤100000)(hb:0≤b∧b≤100000):
  Cl Tryz.prog 193 [I a,I b] w fun v w'=>v=I (jJ a b)∧St H w' σ:=by
 have hm:=kG (a:=a) (b:=b) (A:=100000) (B:=100000) aj aj
 have h0:=Int.mul_nonneg ha.1 hb.1
 have hq0:0≤(a*b+999).tdiv 1000:=Int.tdiv_nonneg aj aj
 have hq1:(a*b+999).tdiv 1000≤a*b+999:=by rw [Int.tdiv_eq_ediv_of_nonneg aj];omega
 refine Cl.o Tryz.func193 Tryz.ntmps193 ag2 ?_
 refine .ai (.z zg (.nil (.ai (.z zm (.z zm (.z jV (.z cA ?_)))))))
 refine .q hs (uq rfl rfl aj aj) ?_
 refine .z zL (.z zg (.nil ?_))
 refine .ret (Fin.bL Tryz.results193 rfl ?_)
 exact ⟨rfl,hs⟩
theorem ke{a b m s:Int}(hs:St H w σ):
  Cl Tryz.prog 119 [I a,I b,I m,I s] w fun v w'=>∃b0,v= .slice (some ⟨b0,0,none⟩) 2 2∧St H w' (.blk b0 (gg (two a b m m s))::σ):=by
 refine Cl.o Tryz.func119 Tryz.ntmps119 ag4 ?_
 refine .ai (.z zg (.nil (.ai (.z zm (.z zm (.z zm (.z zm (.z (zbd [_,_,_,_] eD) (.z zm ?_)))))))))
 refine .z zm (.z zm (.z zm (.z (zbd [_,_,_,_] eD) ?_)))
 refine .o (.buildSlice (cells:=gg (two a b m m s)) hs fw rfl aq fun b19 w hs=>?_)
 refine .z zg (.nil ?_)
 refine .ret (Fin.bL Tryz.results119 rfl ?_)
 exact ⟨b19,rfl,hs⟩
theorem sL{c:Cmp}{t:TD}{f:Int}(hs:St H w σ)(hlo: -1000000≤c.lo∧c.lo≤1000000):
  Cl Tryz.prog 194 [.agg #[I c.src,I c.tape,I c.fr,I c.to,I c.lo,I c.hi],.agg #[I t.tape,I t.day],I f] w fun v w'=>∃en,cn 4 v (gg (ka c t f)) en∧St H w' (en::σ):=by
 refine Cl.o Tryz.func194 Tryz.ntmps194 ag3 ?_
 refine .ai ?_
 refine .bx hs fun b3 w hs=>?_
 refine .bx hs fun b4 w hs=>?_
 refine .z zg (.nil (.seq (.ai (.z (zfa ik) (.y hs (zld ae) (.z (zfa l5) (.y hs (zld ae) (.z iw (.z zm ?_)))))))))
 refine .xW (t':=12) rfl (fun hb12=>?_) (fun hb12=>?_)
 ·refine .gFs 5 5 false rfl rfl rfl ?_
  refine .z zpT (.z zm ?_)
  refine .gFs 5 12 false rfl rfl rfl ?_
  refine .z zpT (.nil ?_)
  refine (.cT ?_)
  refine .ai (.z zg (.nil ?_))
  refine .ret (rT (Fin.bL Tryz.results194 rfl ?_))
  exact ⟨.nul,by unfold ka;rw [if_neg aj];exact .nil 4 none,hs.tail.tail.nul⟩
 ·refine .gT rfl rfl ?_
  refine .z (zfa jK) ?_
  refine .gT rfl rfl ?_
  refine .y hs (zld ae) ?_
  refine .gT rfl rfl ?_
  refine .z (zfa fk) ?_
  refine .gT rfl rfl ?_
  refine .y hs (zld ae) ?_
  refine .gT rfl rfl ?_
  refine .z fj (.z zpF (.z zm ?_))
  refine .iq (t':=19) rfl (fun hb19=>?_) (fun hb19=>?_)
  ·refine .gFs 5 12 false rfl rfl rfl ?_
   refine .z zpT (.nil ?_)
   refine (.cT ?_)
   refine .ai (.z zg (.nil ?_))
   refine .ret (rT (Fin.bL Tryz.results194 rfl ?_))
   exact ⟨.nul,by unfold ka;rw [if_neg aj];exact .nil 4 none,hs.tail.tail.nul⟩
  ·refine .gT rfl rfl ?_
   refine .z (zfa jK) ?_
   refine .gT rfl rfl ?_
   refine .y hs (zld ae) ?_
   refine .gT rfl rfl ?_
   refine .z (zfa eQ) ?_
   refine .gT rfl rfl ?_
   refine .y hs (zld ae) ?_
   refine .gT rfl rfl ?_
   refine .z kT (.z zpF (.nil ?_))
   refine (.bJ rfl (fun hc25=>?_) (fun hc25=>?_))
   ·refine .ai (.z zg (.nil ?_))
    refine .ret (rT (Fin.bL Tryz.results194 rfl ?_))
    exact ⟨.nul,by unfold ka;rw [if_neg aj];exact .nil 4 none,hs.tail.tail.nul⟩
   ·refine .skip ?_
    refine nT ?_
    refine .ai (.z zm (.z (zfa eP) (.y hs (zld ae) (.z xn (.z (zfa dX) (.y hs (zld ae) (.z (zbd [_,_,_,_] eD) (.z zm (.z (zfa eO) ?_)))))))))
    refine .y hs (zld ae) (.z (zfa dX) (.y hs (zld ae) (.z (zbd [_,_,_,_] eD) ?_)))
    refine .o (.buildSlice (cells:=gg (two 0 f (-c.lo) c.hi c.src)) hs fw rfl aq fun b39 w hs=>?_)
    refine .z zg (.nil ?_)
    refine .ret (Fin.bL Tryz.results194 rfl ?_)
    exact ⟨_,by unfold ka;rw [if_pos aj];exact .full (by simp [two,dK]),hs.sb⟩
theorem jI{v:Value}{xs:List TD}{t:TD}(hs:St H w σ)(hr:RTd H v xs)(hl:xs.length≤1000000):
  Cl Tryz.prog 93 [v,.agg #[I t.tape,I t.day]] w fun u w'=>u=I (iN xs t)∧St H w' σ:=by
 obtain ⟨a,c,rfl⟩:=RTd.shape hr
 refine Cl.o Tryz.func93 Tryz.ntmps93 ag2 ?_
 refine .ai ?_
 refine .bx hs fun b3 w hs=>?_
 refine .z zg (.nil (.seq (.ai (.z zg (.nil (.block ?_))))))
 refine .loop (fun k:Nat=>⟨19,[],[(5,I (k:Int)),(3,.pointer (some ⟨b3,0,none⟩)),(0,.slice a xs.length c)]⟩)
  (fun k w=>k≤xs.length∧(∀j<k,∀y,xs[j]? =some y→¬y=t)∧St H w (.blk b3 [I t.tape,I t.day]::σ)) (fun k=>xs.length - k) 0 (.bX rfl bQ aU)
  ⟨Nat.zero_le _,fun j hj=>by omega,hs⟩ ?_
 rintro k w ⟨hk,hno,hs⟩
 refine .seq (.ai (.z zm (.z zm (.z (cH bg) (.z fj (.nil ?_))))))
 refine (.bJ rfl (fun hc9=>?_) (fun hc9=>?_))
 ·refine .skip ?_
  refine nT ?_
  refine .seq (.block ?_)
  refine .seq (.draw mix rfl hs fun w hs=>?_)
  refine .z 0 rfl zm ?_;refine .z 1 rfl zm ?_
  obtain ⟨x,hx⟩:=nth (l:=xs) (k:=k) aj
  refine .ixX (enc:=TD.c) (i:=2) hs rfl aq .none hr rfl rfl bg bD hx cM ?_;intro b14 o14 hc14
  refine .r (i:=3) hs rfl aq .none (bY (vs:=x.c) rfl dM bD hc14) ?_
  refine .ys 4 rfl hs [_,_] dM bD ?_
  refine .z 5 rfl (lY o8 o9 fW (fun f hf=>by
   simp only [List.mem_cons,List.not_mem_nil,or_false] at hf
   rcases hf with rfl|rfl<;>exact ⟨by decide,aS,ae⟩) rfl rfl) ?_
  refine .D hs ?_
  refine (.cond rfl (fun hc17=>?_) (fun hc17=>?_))
  ·refine .ai (.z zm (.z zg (.nil ?_)))
   refine .ret (rB (rT (rT (rB (rT (Fin.bL Tryz.results93 rfl ?_))))))
   have e:x=t:=zY.1 (of_decide_eq_true hc17)
   subst e
   exact ⟨by rw [mD hx fun j hj h=>hno j hj _ h rfl],hs.tail⟩
  ·refine .skip ?_
   refine nB (nT ?_)
   refine .region (.z zm (.z cA (.z zg (.nil ?_))))
   refine nT ?_
   exact ⟨k+1,.bX rfl bQ aU,⟨aj,eE hno hx (fun e=>by subst e;simp at hc17),hs⟩,aj⟩
 ·refine .exit ?_
  refine xT (xT (xB (nT ?_)))
  refine .ai (.z zg (.nil ?_))
  refine .ret (Fin.bL Tryz.results93 rfl ?_)
  obtain rfl:k=xs.length:=by omega
  exact ⟨by rw [rY hno],hs.tail⟩
theorem mL{v:Value}{en:Ent}{xs:List TD}{t:TD}(hs:St H w (en::σ))(hO:cn 2 v (tdc xs).flatten en)(hl:xs.length≤1000000):
  Cl Tryz.prog 93 [v,.agg #[I t.tape,I t.day]] w fun u w'=>u=I (iN xs t)∧St H w' (en::σ):=by
 obtain ⟨a,c,rfl⟩:=hO.ek (kN xs) aj
 rw [dE] at hO ⊢
 refine Cl.o Tryz.func93 Tryz.ntmps93 ag2 ?_
 refine .ai ?_
 refine .bx hs fun b3 w hs=>?_
 refine .z zg (.nil (.seq (.ai (.z zg (.nil (.block ?_))))))
 refine .loop (fun k:Nat=>⟨19,[],[(5,I (k:Int)),(3,.pointer (some ⟨b3,0,none⟩)),(0,.slice a xs.length c)]⟩)
  (fun k w=>k≤xs.length∧(∀j<k,∀y,xs[j]? =some y→¬y=t)∧St H w (.blk b3 [I t.tape,I t.day]::en::σ)) (fun k=>xs.length - k) 0 (.bX rfl bQ aU)
  ⟨Nat.zero_le _,fun j hj=>by omega,hs⟩ ?_
 rintro k w ⟨hk,hno,hs⟩
 refine .seq (.ai (.z zm (.z zm (.z (cH bg) (.z fj (.nil ?_))))))
 refine (.bJ rfl (fun hc9=>?_) (fun hc9=>?_))
 ·refine .skip ?_
  refine nT ?_
  refine .seq (.block ?_)
  refine .seq (.draw mix rfl hs fun w hs=>?_)
  refine .z 0 rfl zm ?_;refine .z 1 rfl zm ?_
  obtain ⟨x,hx⟩:=nth (l:=xs) (k:=k) aj
  obtain ⟨b,c',sp,hv,rfl,_⟩:=hO.Bt (kN xs) aj (by rw [dE];omega)
  rw [dE] at hv
  cases hv
  refine .z 2 rfl (lA bg bD) ?_
  refine .xI (i:=3) (vs:=x.c) hs rfl aq .none rfl dM bD ?_ (hv:=nW (kN xs) (xr hx) sp)
  refine .ys 4 rfl hs [_,_] dM bD ?_
  refine .z 5 rfl (lY o8 o9 fW (fun f hf=>by
   simp only [List.mem_cons,List.not_mem_nil,or_false] at hf
   rcases hf with rfl|rfl<;>exact ⟨by decide,aS,ae⟩) rfl rfl) ?_
  refine .D hs ?_
  refine (.cond rfl (fun hc17=>?_) (fun hc17=>?_))
  ·refine .ai (.z zm (.z zg (.nil ?_)))
   refine .ret (rB (rT (rT (rB (rT (Fin.bL Tryz.results93 rfl ?_))))))
   have e:x=t:=zY.1 (of_decide_eq_true hc17)
   subst e
   exact ⟨by rw [mD hx fun j hj h=>hno j hj _ h rfl],hs.tail⟩
  ·refine .skip ?_
   refine nB (nT ?_)
   refine .region (.z zm (.z cA (.z zg (.nil ?_))))
   refine nT ?_
   exact ⟨k+1,.bX rfl bQ aU,⟨aj,eE hno hx (fun e=>by subst e;simp at hc17),hs⟩,aj⟩
 ·refine .exit ?_
  refine xT (xT (xB (nT ?_)))
  refine .ai (.z zg (.nil ?_))
  refine .ret (Fin.bL Tryz.results93 rfl ?_)
  obtain rfl:k=xs.length:=by omega
  exact ⟨by rw [rY hno],hs.tail⟩
set_option maxHeartbeats 1000000 in
theorem gj{vr:Value}{rs:List Rdg}(hs:St H w σ)(hr:RRd H vr rs)(hl:rs.length≤1000000):
  Cl Tryz.prog 94 [vr] w fun u w'=>∃H1,HLe H H1∧RTd H1 u (bj rs)∧St H1 w' σ:=by
 obtain ⟨ar,cr,rfl⟩:=RRd.shape hr
 refine Cl.o Tryz.func94 Tryz.ntmps94 ag1 ?_
 refine .ai (.z zg (.nil (.ai (.z zg (.nil (.seq (.ai (.z zg (.nil ?_)))))))))
 refine .block ?_
 refine .loop (fun p:Nat×Value=>⟨32,[],[(4,I (p.1:Int)),(3,p.2),(0,.slice ar rs.length cr)]⟩)
  (fun p w=>p.1≤rs.length∧∃en,cn 2 p.2 (tdc (bj (rs.take p.1))).flatten en∧St H w (en::σ)) (fun p=>rs.length - p.1) (0,.slice none 0 0) aU
  ⟨Nat.zero_le _,_,.nil 2 none,hs.nul⟩ ?_
 rintro ⟨k,vo⟩ w ⟨hk,en,hO,hs⟩
 dsimp only at hk hO ⊢
 have htl:=kb rs k aj
 obtain ⟨ao,co,rfl⟩:=hO.ek (kN _) aj
 rw [dE] at hO ⊢
 refine .seq (.ai (.z zm (.z zm (.z (cH an) (.z fj (.nil ?_))))))
 refine (.bJ rfl (fun hc9=>?_) (fun hc9=>?_))
 ·refine .skip ?_
  refine nT ?_
  refine .seq (.block ?_)
  refine .seq (.draw mix rfl hs fun w hs=>?_)
  refine .z 0 rfl zm ?_;refine .z 1 rfl zm ?_
  obtain ⟨r,hx⟩:=nth (l:=rs) (k:=k) aj
  have htk:=iJ hx
  refine .ixX (enc:=Rdg.c) (i:=2) hs rfl aq .none hr rfl rfl an aA hx cM ?_;intro b14 o14 hc14
  have d14:cellAt H b14 (o14+5)=some (I r.tape):=hc14 5 _ rfl
  refine .z 3 rfl (zfa eh) ?_;refine .y 4 rfl hs ae ?_;refine .z 5 rfl zm ?_;refine .z 6 rfl zm ?_
  refine .ixX (enc:=Rdg.c) (i:=7) hs rfl aq .none hr rfl rfl an aA hx cM ?_;intro b19 o19 hc19
  have d19:cellAt H b19 (o19+6)=some (I r.day):=hc19 6 _ rfl
  refine .z 8 rfl (zfa eg) ?_;refine .y 9 rfl hs ae ?_;refine .z 10 rfl (zbd [_,_] fQ) ?_
  refine .E 11 hs ?_
  refine .alloc hs kR rfl ?_;intro b5 w hs
  refine .go ?_
  refine .E 12 hs ?_
  refine .aV (vs:=[_,_]) hs rfl rfl bD ?_;intro w hs
  refine .go ?_
  refine .D hs ?_
  refine .ai (.z zm (.y hs (zls [_,_] dM bD) ?_))
  refine .o (.call Tryz.call93 rfl (mL (t:=r.td) (hs.sb:St H w (en:: .blk b5 [I r.tape,I r.day]::σ)) hO aj) ?_);rintro _ w ⟨rfl,hs⟩
  have hnn:=kz (l:=bj (rs.take k)) (t:=r.td)
  refine .z fj (.nil ?_)
  refine (.bJ rfl (fun hc26=>?_) (fun hc26=>?_))
  ·refine .region (.z zm (.y hs (zls [_,_] dM bD) ?_))
   refine .o (.buildSlice (cells:=[_,_]) hs fH rfl rfl fun b29 w hs=>?_)
   refine .o (.append (ys:=r.td.c) hs dR rfl rfl hO (.own .here rfl rfl) (by simp [TD.c,Value.oneCell']) (fun l h=>by rw [bq _ (kN _),dE] at h;omega) ?_);intro v30 en30 w hO2 hs
   refine .z zg (.nil ?_)
   refine nB (nT ?_)
   refine .region (.z zm (.z cA (.z zg (.nil ?_))))
   refine nT ?_
   have hn:r.td∉bj (rs.take k):=fun hm=>by have:=hnn.2 hm;omega
   rw [←rX,show bj (rs.take k)++[r.td]=bj (rs.take (k+1)) by rw [htk];unfold nO;rw [if_neg hn]] at hO2
   exact ⟨(k+1,v30),.bX rfl bQ aU,⟨by dsimp only;omega,_,hO2,hs.sb⟩,by dsimp only;omega⟩
  ·refine .skip ?_
   refine nB (nT ?_)
   refine .region (.z zm (.z cA (.z zg (.nil ?_))))
   refine nT ?_
   have hm:r.td∈bj (rs.take k):=hnn.1 aj
   exact ⟨(k+1,_),.bX rfl bQ aU,⟨by dsimp only;omega,en,by dsimp only;rw [htk];unfold nO;rw [if_pos hm];exact hO,hs.sb⟩,by dsimp only;omega⟩
 ·refine .exit ?_
  refine xT (xT (xB (nT ?_)))
  refine .ai (.z zm (.z zg (.nil ?_)))
  refine .ret (Fin.bL Tryz.results94 rfl ?_)
  obtain rfl:k=rs.length:=by omega
  rw [List.take_length] at hO
  have htl:=dq rs
  obtain ⟨H2,hle2,hR,hs⟩:=cn.cI (m:=2) (cs:=tdc (bj rs)) hO (kN _) aj (by rw [dE];omega) hs .here
  rw [List.take_length]
  exact ⟨H2,hle2,hR,hs⟩
theorem uM(s:Spc)(i k:Nat):1+(i:Int)*(s.wa.length:Int)+(k:Int)=(s.u i k:Int):=by
 unfold Spc.u;rw [Int.natCast_add,Int.natCast_add,Int.natCast_mul];rfl
theorem Ej(s:Spc)(i k:Nat):1+((i:Int)+1)*(s.wa.length:Int)+(k:Int)=(s.u (i+1) k:Int):=by
 rw [←uM];rfl
theorem Ei(s:Spc)(i k:Nat):1+(i:Int)*(s.wa.length:Int)+((k:Int)+1)=(s.u i (k+1):Int):=by
 rw [←uM];rfl
theorem kF{f:Nat→Nat→List Lim}(hf:∀i k,(f i k).length≤2)(i:Nat):∀k,(lh f i k).length≤2*k
 |0=>by simp [lh]
 |k+1=>by have:=kF hf i k;have:=hf i k;simp only [lh,List.length_append];omega
theorem lg{f:Nat→Nat→List Lim}(hf:∀i k,(f i k).length≤2){m n:Nat}(hm:m≤7)(hn:n≤9)(h0:0<m):(eB f m n).length≤126:=by
 have h1:=gG hf (n:=n) h0
 have:n*m≤9*7:=Nat.mul_le_mul hn hm
 omega
theorem D2{s:Spc}(h0:0<s.st.length):eB (alL s) s.wa.length s.st.length=eB (alL s) s.wa.length (s.st.length - 1):=by
 obtain ⟨n,hn⟩:∃n,s.st.length=n+1:=⟨s.st.length - 1,aj⟩
 have key:∀k,lh (alL s) n k=[]:=by
  intro k
  induction k with
  |zero=>rfl
  |succ k ih=>simp only [lh];rw [ih];unfold alL;rw [if_neg aj];rfl
 rw [hn,Nat.add_sub_cancel]
 simp only [eB]
 rw [key,List.append_nil]
theorem Di{s:Spc}(i:Nat)(h0:0<s.wa.length):lh (upL s) i s.wa.length=lh (upL s) i (s.wa.length - 1):=by
 obtain ⟨n,hn⟩:∃n,s.wa.length=n+1:=⟨s.wa.length - 1,aj⟩
 have e:upL s i n=[]:=by unfold upL;rw [if_neg aj]
 rw [hn,Nat.add_sub_cancel]
 simp only [lh]
 rw [e,List.append_nil]
set_option maxHeartbeats 4000000 in
theorem lS{s:Srv}{vst vwa vr vc:Value}(hs:St H w σ)(h1:RI H vst s.sp.st)(h2:RI H vwa s.sp.wa)(h3:RRd H vr s.rs)(h4:RCm H vc s.cs)(he:s.early):
  Cl Tryz.prog 111 [.agg #[I s.sp.id,I s.sp.src,vst,vwa,I s.sp.al,I s.sp.up,vr,vc]] w fun u w'=>∃H1 en,HLe H H1∧cn 4 u (gg s.db) en∧St H1 w' (en::σ):=by
 obtain ⟨ast,cst,rfl⟩:=RI.shape h1
 obtain ⟨awa,cwa,rfl⟩:=RI.shape h2
 obtain ⟨ar,cr,rfl⟩:=RRd.shape h3
 obtain ⟨ac,cc,rfl⟩:=RCm.shape h4
 obtain ⟨hok,hrl,hcl,hrs,hcs⟩:=he
 have hsm:=ea hok
 have hn1:=hok.st.many
 have hn2:=hok.wa.many
 have hn3:=hok.st.two
 have hn4:=hok.wa.two
 have ha:=lg (ny s.sp) (m:=s.sp.wa.length) (n:=s.sp.st.length) aj aj aj
 have hb:=lg (qU s.sp) (m:=s.sp.wa.length) (n:=s.sp.st.length) aj aj aj
 have hc:=lg (qp s.sp) (m:=s.sp.wa.length) (n:=s.sp.st.length) aj aj aj
 have hal:=hok.al
 have hup:=hok.up
 refine Cl.o Tryz.func111 Tryz.ntmps111 ag1 ?_
 refine .ai ?_
 refine .bx hs fun b1 w hs=>?_
 refine .z zg (.nil (.ai (.z (zfa aN) (.y hs (zls [_,_,_,_,_,_] aQ aH) ?_))))
 refine .o (.alloc hs gN rfl fun b3 w hs=>?_)
 refine .o (.aV (vs:=[_,_,_,_,_,_]) hs rfl rfl aH fun w hs=>?_)
 refine .nil (.ai (.z zg (.nil (.seq (.ai (.z zg (.nil (.block ?_))))))))
 refine .loop (fun p:Nat×Value=>⟨243,[],[(5,I (p.1:Int)),(4,p.2),(3,.pointer (some ⟨b3,0,none⟩)),(1,.pointer (some ⟨b1,0,none⟩))]⟩)
  (fun p w=>p.1≤s.sp.st.length∧∃en,cn 4 p.2 (gg (eB (qh s.sp) s.sp.wa.length p.1)) en∧St H w (en:: .blk b3 [I s.sp.id,I s.sp.src,.slice ast s.sp.st.length cst,.slice awa s.sp.wa.length cwa,I s.sp.al,I s.sp.up]:: .blk b1 [I s.sp.id,I s.sp.src,.slice ast s.sp.st.length cst,.slice awa s.sp.wa.length cwa,I s.sp.al,I s.sp.up,.slice ar s.rs.length cr,.slice ac s.cs.length cc]::σ)) (fun p=>s.sp.st.length - p.1) (0,.slice none 0 0) aU
  ⟨by first|omega|exact Nat.zero_le _,_,.nil 4 none,hs.nul⟩ ?_
 rintro ⟨i,vo⟩ w ⟨hi,en,hO,hs⟩
 dsimp only at hi hO ⊢
 refine .seq (.ai (.z zm (.z (zfa bn) (.y hs (zld ak) (.z (cH aa) (.z fj (.nil ?_)))))))
 refine (.bJ rfl (fun hc27=>?_) (fun hc27=>?_))
 ·refine .skip ?_
  refine nT ?_
  refine .seq (.block (.ai (.z zg (.nil (.block ?_)))))
  refine .loop (fun p:Nat×Value=>⟨243,[],[(6,I (p.1:Int)),(4,p.2),(5,I (i:Int)),(3,.pointer (some ⟨b3,0,none⟩)),(1,.pointer (some ⟨b1,0,none⟩))]⟩)
   (fun p w=>p.1≤s.sp.wa.length∧∃en,cn 4 p.2 (gg (eB (qh s.sp) s.sp.wa.length i++lh (qh s.sp) i p.1)) en∧St H w (en:: .blk b3 [I s.sp.id,I s.sp.src,.slice ast s.sp.st.length cst,.slice awa s.sp.wa.length cwa,I s.sp.al,I s.sp.up]:: .blk b1 [I s.sp.id,I s.sp.src,.slice ast s.sp.st.length cst,.slice awa s.sp.wa.length cwa,I s.sp.al,I s.sp.up,.slice ar s.rs.length cr,.slice ac s.cs.length cc]::σ)) (fun p=>s.sp.wa.length - p.1) (0,vo) aU
   ⟨by first|omega|exact Nat.zero_le _,en,by show cn 4 vo (gg (_++[])) en;rw [List.append_nil];exact hO,hs⟩ ?_
  clear hO hs
  rintro ⟨k,vo⟩ w ⟨hk,en,hO,hs⟩
  dsimp only at hk hO ⊢
  have hl1:=lg (ny s.sp) (m:=s.sp.wa.length) (n:=i) aj aj aj
  have hl2:=kF (ny s.sp) i k
  refine .seq (.ai (.z zm (.z (zfa aW) (.y hs (zld ak) (.z (cH aa) (.z fj (.nil ?_)))))))
  refine (.bJ rfl (fun hc34=>?_) (fun hc34=>?_))
  ·refine .skip ?_
   refine nT ?_
   refine .seq (.block (.ai (.y hs (zls [_,_,_,_,_,_] aQ aH) (.z zm (.z zm ?_)))))
   refine .o (.call iH rfl (dn (s:=s.sp) hs h2 aj ⟨aj,aj⟩ ⟨aj,aj⟩) ?_);rintro _ w ⟨rfl,hs⟩
   rw [uM]
   refine .z zg (.nil (.region (.z zm (.z zm (.z (zfa df) (.y hs (zld ae) (.z (zbd [_,_,_,_] eD) (.z zm (.z (zfa df) ?_)))))))))
   refine .y hs (zld ae) (.z (zbd [_,_,_,_] eD) ?_)
   refine .o (.buildSlice (cells:=gg (qh s.sp i k)) hs fw rfl aq fun b50 w hs=>?_)
   refine .o (.append (ys:=gg (qh s.sp i k)) hs ck rfl rfl hO (.own .here rfl rfl) (jG _) (fun l h=>by rw [dK,List.length_append] at h;omega) ?_);intro v51 en51 w hO2 hs
   rw [←gd,List.append_assoc] at hO2
   refine .z zg (.nil ?_)
   refine nB (nT ?_)
   refine .region (.z zm (.z cA (.z zg (.nil ?_))))
   refine nT ?_
   exact ⟨(k+1,v51),.bX rfl bQ aU,⟨by dsimp only;omega,_,hO2,hs.sb⟩,by dsimp only;omega⟩
  ·refine .exit ?_
   refine xT (xT (xB (nB (nT ?_))))
   refine .region (.z zm (.z cA (.z zg (.nil ?_))))
   refine nT ?_
   obtain rfl:k=s.sp.wa.length:=by omega
   exact ⟨(i+1,_),.bX rfl bQ aU,⟨by dsimp only;omega,en,hO,hs⟩,by dsimp only;omega⟩
 ·refine .exit ?_
  refine xT (xT (xB (nT ?_)))
  refine .seq (.ai (.z zg (.nil (.block ?_))))
  refine .loop (fun p:Nat×Value=>⟨243,[],[(8,I (p.1:Int)),(4,p.2),(3,.pointer (some ⟨b3,0,none⟩)),(1,.pointer (some ⟨b1,0,none⟩))]⟩)
   (fun p w=>p.1+1≤s.sp.st.length∧∃en,cn 4 p.2 (gg (eB (qh s.sp) s.sp.wa.length s.sp.st.length++eB (alL s.sp) s.sp.wa.length p.1)) en∧St H w (en:: .blk b3 [I s.sp.id,I s.sp.src,.slice ast s.sp.st.length cst,.slice awa s.sp.wa.length cwa,I s.sp.al,I s.sp.up]:: .blk b1 [I s.sp.id,I s.sp.src,.slice ast s.sp.st.length cst,.slice awa s.sp.wa.length cwa,I s.sp.al,I s.sp.up,.slice ar s.rs.length cr,.slice ac s.cs.length cc]::σ)) (fun p=>s.sp.st.length - p.1) (0,vo) aU
   ⟨by first|omega|exact Nat.zero_le _,en,by show cn 4 vo (gg (_++[])) en;rw [List.append_nil,←show i=s.sp.st.length by omega];exact hO,hs⟩ ?_
  clear hO hs
  rintro ⟨i,vo⟩ w ⟨hi,en,hO,hs⟩
  dsimp only at hi hO ⊢
  refine .seq (.ai (.z zm (.z cA (.z (zfa bn) (.y hs (zld ak) (.z (cH aa) (.z fj (.nil ?_))))))))
  refine (.bJ rfl (fun hc57=>?_) (fun hc57=>?_))
  ·refine .skip ?_
   refine nT ?_
   refine .seq (.block (.ai (.z zg (.nil (.block ?_)))))
   refine .loop (fun p:Nat×Value=>⟨243,[],[(9,I (p.1:Int)),(4,p.2),(8,I (i:Int)),(3,.pointer (some ⟨b3,0,none⟩)),(1,.pointer (some ⟨b1,0,none⟩))]⟩)
    (fun p w=>p.1≤s.sp.wa.length∧∃en,cn 4 p.2 (gg (eB (qh s.sp) s.sp.wa.length s.sp.st.length++eB (alL s.sp) s.sp.wa.length i++lh (alL s.sp) i p.1)) en∧St H w (en:: .blk b3 [I s.sp.id,I s.sp.src,.slice ast s.sp.st.length cst,.slice awa s.sp.wa.length cwa,I s.sp.al,I s.sp.up]:: .blk b1 [I s.sp.id,I s.sp.src,.slice ast s.sp.st.length cst,.slice awa s.sp.wa.length cwa,I s.sp.al,I s.sp.up,.slice ar s.rs.length cr,.slice ac s.cs.length cc]::σ)) (fun p=>s.sp.wa.length - p.1) (0,vo) aU
    ⟨by first|omega|exact Nat.zero_le _,en,by show cn 4 vo (gg (_++[])) en;rw [List.append_nil];exact hO,hs⟩ ?_
   clear hO hs
   rintro ⟨k,vo⟩ w ⟨hk,en,hO,hs⟩
   dsimp only at hk hO ⊢
   have hl1:=lg (qU s.sp) (m:=s.sp.wa.length) (n:=i) aj aj aj
   have hl2:=kF (qU s.sp) i k
   refine .seq (.ai (.z zm (.z (zfa aW) (.y hs (zld ak) (.z (cH aa) (.z fj (.nil ?_)))))))
   refine (.bJ rfl (fun hc64=>?_) (fun hc64=>?_))
   ·refine .skip ?_
    refine nT ?_
    refine .seq (.block ?_)
    refine .draw mix rfl hs fun w hs=>?_
    refine .z 0 rfl zm ?_;refine .ys 1 rfl hs [_,_,_,_,_,_] aQ aH ?_;refine .z 2 rfl zm ?_;refine .z 3 rfl zm ?_;refine .ys 5 rfl hs [_,_,_,_,_,_] aQ aH ?_;refine .z 6 rfl zm ?_;refine .z 7 rfl cA ?_;refine .z 8 rfl zm ?_;refine .z 10 rfl (zfa dF) ?_;refine .z 11 rfl (zfa iZ) ?_
    refine .y 12 rfl hs ae ?_;refine .z 13 rfl (zfa bn) ?_;refine .y 14 rfl hs ak ?_;refine .z 15 rfl zm ?_;refine .z 16 rfl cA ?_
    have hris:=hok.st.rise i aj
    have hq0:=hok.st.bd (i:=i) aj
    have hq1:=hok.st.bd (i:=i+1) aj
    refine .ixX (enc:=fun x=>[I x]) (i:=17) hs rfl aq .none h1 rfl rfl aa af (bu (l:=s.sp.st) (i:=(i+1)) aj) cM ?_;intro b84 o84 hc84;replace hc84:=bH.one hc84
    refine .r (i:=18) hs rfl aq .none (aK rfl ae hc84) ?_
    refine .z 19 rfl (zfa bn) ?_;refine .y 20 rfl hs ak ?_;refine .z 21 rfl zm ?_
    refine .ixX (enc:=fun x=>[I x]) (i:=22) hs rfl aq .none h1 rfl rfl aa af (bu (l:=s.sp.st) (i:=i) aj) cM ?_;intro b89 o89 hc89;replace hc89:=bH.one hc89
    refine .r (i:=23) hs rfl aq .none (aK rfl ae hc89) ?_
    refine .z 24 rfl ir ?_;refine .z 26 rfl (zfa df) ?_;refine .y 27 rfl hs ae ?_
    refine .E 4 hs ?_
    refine .call iH rfl (dn (s:=s.sp) hs h2 aj ⟨aj,aj⟩ ⟨aj,aj⟩) ?_;rintro _ w ⟨rfl,hs⟩
    rw [uM]
    refine .go ?_
    refine .E 9 hs ?_
    refine .call iH rfl (dn (s:=s.sp) hs h2 aj ⟨aj,aj⟩ ⟨aj,aj⟩) ?_;rintro _ w ⟨rfl,hs⟩
    rw [Ej]
    refine .go ?_
    refine .E 25 hs ?_
    refine .call Tryz.call193 rfl (k9 hs aj aj) ?_;rintro _ w ⟨rfl,hs⟩
    refine .go ?_
    refine .E 28 hs ?_
    refine .call Tryz.call119 rfl (ke hs) ?_;rintro _ w ⟨b95,rfl,hs⟩
    rw [show two (s.sp.u i k:Int) _ _ _ _=alL s.sp i k by unfold alL;rw [if_pos aj]] at hs
    refine .go ?_
    refine .E 29 hs ?_
    refine .append (ys:=gg (alL s.sp i k)) hs ck rfl rfl hO (.own .here bQ (by rw [dK];unfold alL;rw [if_pos aj];rfl)) (jG _) (fun l h=>by rw [dK] at h;simp only [List.length_append] at h;omega) ?_;intro v96 en96 w hO2 hs
    rw [←gd,List.append_assoc _ (lh _ _ _)] at hO2
    refine .go ?_
    refine .z 30 rfl zg ?_;refine .D hs ?_
    refine nB (nT ?_)
    refine .region (.z zm (.z cA (.z zg (.nil ?_))))
    refine nT ?_
    exact ⟨(k+1,v96),.bX rfl bQ aU,⟨by dsimp only;omega,_,hO2,hs.sb⟩,by dsimp only;omega⟩
   ·refine .exit ?_
    refine xT (xT (xB (nB (nT ?_))))
    refine .region (.z zm (.z cA (.z zg (.nil ?_))))
    refine nT ?_
    obtain rfl:k=s.sp.wa.length:=by omega
    rw [List.append_assoc] at hO
    exact ⟨(i+1,_),.bX rfl bQ aU,⟨by dsimp only;omega,en,hO,hs⟩,by dsimp only;omega⟩
  ·refine .exit ?_
   refine xT (xT (xB (nT ?_)))
   refine .seq (.ai (.z zg (.nil (.block ?_))))
   refine .loop (fun p:Nat×Value=>⟨243,[],[(10,I (p.1:Int)),(4,p.2),(3,.pointer (some ⟨b3,0,none⟩)),(1,.pointer (some ⟨b1,0,none⟩))]⟩)
    (fun p w=>p.1≤s.sp.st.length∧∃en,cn 4 p.2 (gg (eB (qh s.sp) s.sp.wa.length s.sp.st.length++eB (alL s.sp) s.sp.wa.length s.sp.st.length++eB (upL s.sp) s.sp.wa.length p.1)) en∧St H w (en:: .blk b3 [I s.sp.id,I s.sp.src,.slice ast s.sp.st.length cst,.slice awa s.sp.wa.length cwa,I s.sp.al,I s.sp.up]:: .blk b1 [I s.sp.id,I s.sp.src,.slice ast s.sp.st.length cst,.slice awa s.sp.wa.length cwa,I s.sp.al,I s.sp.up,.slice ar s.rs.length cr,.slice ac s.cs.length cc]::σ)) (fun p=>s.sp.st.length - p.1) (0,vo) aU
    ⟨by first|omega|exact Nat.zero_le _,en,by show cn 4 vo (gg (_++[])) en;rw [List.append_nil,D2 aj,←show i=s.sp.st.length - 1 by omega];exact hO,hs⟩ ?_
   clear hO hs
   rintro ⟨i,vo⟩ w ⟨hi,en,hO,hs⟩
   dsimp only at hi hO ⊢
   refine .seq (.ai (.z zm (.z (zfa bn) (.y hs (zld ak) (.z (cH aa) (.z fj (.nil ?_)))))))
   refine (.bJ rfl (fun hc101=>?_) (fun hc101=>?_))
   ·refine .skip ?_
    refine nT ?_
    refine .seq (.block (.ai (.z zg (.nil (.block ?_)))))
    refine .loop (fun p:Nat×Value=>⟨243,[],[(11,I (p.1:Int)),(4,p.2),(10,I (i:Int)),(3,.pointer (some ⟨b3,0,none⟩)),(1,.pointer (some ⟨b1,0,none⟩))]⟩)
     (fun p w=>p.1+1≤s.sp.wa.length∧∃en,cn 4 p.2 (gg (eB (qh s.sp) s.sp.wa.length s.sp.st.length++eB (alL s.sp) s.sp.wa.length s.sp.st.length++eB (upL s.sp) s.sp.wa.length i++lh (upL s.sp) i p.1)) en∧St H w (en:: .blk b3 [I s.sp.id,I s.sp.src,.slice ast s.sp.st.length cst,.slice awa s.sp.wa.length cwa,I s.sp.al,I s.sp.up]:: .blk b1 [I s.sp.id,I s.sp.src,.slice ast s.sp.st.length cst,.slice awa s.sp.wa.length cwa,I s.sp.al,I s.sp.up,.slice ar s.rs.length cr,.slice ac s.cs.length cc]::σ)) (fun p=>s.sp.wa.length - p.1) (0,vo) aU
     ⟨by first|omega|exact Nat.zero_le _,en,by show cn 4 vo (gg (_++[])) en;rw [List.append_nil];exact hO,hs⟩ ?_
    clear hO hs
    rintro ⟨k,vo⟩ w ⟨hk,en,hO,hs⟩
    dsimp only at hk hO ⊢
    have hl1:=lg (qp s.sp) (m:=s.sp.wa.length) (n:=i) aj aj aj
    have hl2:=kF (qp s.sp) i k
    refine .seq (.ai (.z zm (.z cA (.z (zfa aW) (.y hs (zld ak) (.z (cH aa) (.z fj (.nil ?_))))))))
    refine (.bJ rfl (fun hc109=>?_) (fun hc109=>?_))
    ·refine .skip ?_
     refine nT ?_
     refine .seq (.block ?_)
     refine .draw mix rfl hs fun w hs=>?_
     refine .z 0 rfl zm ?_;refine .ys 1 rfl hs [_,_,_,_,_,_] aQ aH ?_;refine .z 2 rfl zm ?_;refine .z 3 rfl zm ?_;refine .ys 5 rfl hs [_,_,_,_,_,_] aQ aH ?_;refine .z 6 rfl zm ?_;refine .z 7 rfl zm ?_;refine .z 8 rfl cA ?_;refine .z 10 rfl (zfa dF) ?_;refine .z 11 rfl (zfa iY) ?_
     refine .y 12 rfl hs ae ?_;refine .z 13 rfl (zfa aW) ?_;refine .y 14 rfl hs ak ?_;refine .z 15 rfl zm ?_;refine .z 16 rfl cA ?_
     have hris:=hok.wa.rise k aj
     have hq0:=hok.wa.bd (i:=k) aj
     have hq1:=hok.wa.bd (i:=k+1) aj
     refine .ixX (enc:=fun x=>[I x]) (i:=17) hs rfl aq .none h2 rfl rfl aa af (bu (l:=s.sp.wa) (i:=(k+1)) aj) cM ?_;intro b129 o129 hc129;replace hc129:=bH.one hc129
     refine .r (i:=18) hs rfl aq .none (aK rfl ae hc129) ?_
     refine .z 19 rfl (zfa aW) ?_;refine .y 20 rfl hs ak ?_;refine .z 21 rfl zm ?_
     refine .ixX (enc:=fun x=>[I x]) (i:=22) hs rfl aq .none h2 rfl rfl aa af (bu (l:=s.sp.wa) (i:=k) aj) cM ?_;intro b134 o134 hc134;replace hc134:=bH.one hc134
     refine .r (i:=23) hs rfl aq .none (aK rfl ae hc134) ?_
     refine .z 24 rfl ir ?_;refine .z 26 rfl (zfa df) ?_;refine .y 27 rfl hs ae ?_
     refine .E 4 hs ?_
     refine .call iH rfl (dn (s:=s.sp) hs h2 aj ⟨aj,aj⟩ ⟨aj,aj⟩) ?_;rintro _ w ⟨rfl,hs⟩
     rw [uM]
     refine .go ?_
     refine .E 9 hs ?_
     refine .call iH rfl (dn (s:=s.sp) hs h2 aj ⟨aj,aj⟩ ⟨aj,aj⟩) ?_;rintro _ w ⟨rfl,hs⟩
     rw [Ei]
     refine .go ?_
     refine .E 25 hs ?_
     refine .call Tryz.call193 rfl (k9 hs aj aj) ?_;rintro _ w ⟨rfl,hs⟩
     refine .go ?_
     refine .E 28 hs ?_
     refine .call Tryz.call119 rfl (ke hs) ?_;rintro _ w ⟨b140,rfl,hs⟩
     rw [show two (s.sp.u i k:Int) _ _ _ _=upL s.sp i k by unfold upL;rw [if_pos aj]] at hs
     refine .go ?_
     refine .E 29 hs ?_
     refine .append (ys:=gg (upL s.sp i k)) hs ck rfl rfl hO (.own .here bQ (by rw [dK];unfold upL;rw [if_pos aj];rfl)) (jG _) (fun l h=>by rw [dK] at h;simp only [List.length_append] at h;omega) ?_;intro v141 en141 w hO2 hs
     rw [←gd,List.append_assoc _ (lh _ _ _)] at hO2
     refine .go ?_
     refine .z 30 rfl zg ?_;refine .D hs ?_
     refine nB (nT ?_)
     refine .region (.z zm (.z cA (.z zg (.nil ?_))))
     refine nT ?_
     exact ⟨(k+1,v141),.bX rfl bQ aU,⟨by dsimp only;omega,_,hO2,hs.sb⟩,by dsimp only;omega⟩
    ·refine .exit ?_
     refine xT (xT (xB (nB (nT ?_))))
     refine .region (.z zm (.z cA (.z zg (.nil ?_))))
     refine nT ?_
     obtain rfl:k=s.sp.wa.length - 1:=by omega
     rw [List.append_assoc,←Di i aj] at hO
     exact ⟨(i+1,_),.bX rfl bQ aU,⟨by dsimp only;omega,en,hO,hs⟩,by dsimp only;omega⟩
   ·refine .exit ?_
    refine xT (xT (xB (nT ?_)))
    refine .ai (.z (zfa aD) (.y hs (zld aO) ?_))
    obtain rfl:i=s.sp.st.length:=by omega
    refine .o (.call CS rfl (gj hs h3 aj) ?_);rintro v144 w ⟨H1,hle1,hT,hs⟩
    replace hT:RTd H1 v144 s.bw:=hT
    have htl:s.bw.length≤60:=by have:=dq s.rs;unfold Srv.bw;omega
    have hmem:∀r∈s.rs,r.td∈s.bw:=fun r hr=>fZ.2 ⟨r,hr,rfl⟩
    have hlims:s.db=eB (qh s.sp) s.sp.wa.length s.sp.st.length++eB (alL s.sp) s.sp.wa.length s.sp.st.length++eB (upL s.sp) s.sp.wa.length s.sp.st.length++vD s.sp s.bw.length++oU s.sp s.bw s.cs 0 s.cs.length++tD s.sp s.bw s.rs s.rs.length:=rfl
    generalize s.bw=ts at*
    obtain ⟨at_,ct,rfl⟩:=RTd.shape hT
    refine .z zg (.nil (.ai (.y hs (zls [_,_,_,_,_,_] aQ aH) ?_)))
    refine .o (.call CR rfl (eJ (s:=s.sp) hs (h1.mono hle1) (h2.mono hle1) ⟨aj,aj⟩) ?_);rintro _ w ⟨rfl,hs⟩
    refine .z zg (.nil (.seq (.ai (.z zg (.nil (.block ?_))))))
    refine .loop (fun p:Nat×Value=>⟨243,[],[(14,I (p.1:Int)),(4,p.2),(12,.slice at_ ts.length ct),(13,I (s.sp.many:Int)),(3,.pointer (some ⟨b3,0,none⟩)),(1,.pointer (some ⟨b1,0,none⟩))]⟩)
     (fun p w=>p.1≤ts.length∧∃en,cn 4 p.2 (gg (eB (qh s.sp) s.sp.wa.length s.sp.st.length++eB (alL s.sp) s.sp.wa.length s.sp.st.length++eB (upL s.sp) s.sp.wa.length s.sp.st.length++vD s.sp p.1)) en∧St H1 w (en:: .blk b3 [I s.sp.id,I s.sp.src,.slice ast s.sp.st.length cst,.slice awa s.sp.wa.length cwa,I s.sp.al,I s.sp.up]:: .blk b1 [I s.sp.id,I s.sp.src,.slice ast s.sp.st.length cst,.slice awa s.sp.wa.length cwa,I s.sp.al,I s.sp.up,.slice ar s.rs.length cr,.slice ac s.cs.length cc]::σ)) (fun p=>ts.length - p.1) (0,vo) aU
     ⟨by first|omega|exact Nat.zero_le _,en,by show cn 4 vo (gg (_++[])) en;rw [List.append_nil];exact hO,hs⟩ ?_
    clear hO hs
    rintro ⟨j,vo⟩ w ⟨hj,en,hO,hs⟩
    dsimp only at hj hO ⊢
    have hel:=gK s.sp j
    refine .seq (.ai (.z zm (.z zm (.z (cH bg) (.z fj (.nil ?_))))))
    refine (.bJ rfl (fun hc150=>?_) (fun hc150=>?_))
    ·refine .skip ?_
     refine nT ?_
     refine .seq (.block (.region (.z zm (.z zm (.z cA (.z zm (.z cA (.z (zfa df) (.y hs (zld ae) ?_)))))))))
     refine .o (.call Tryz.call119 rfl (ke hs) ?_);rintro _ w ⟨b160,rfl,hs⟩
     refine .o (.append (ys:=gg (two 0 ((s.sp.many:Int)+1+(j:Int)) 1000 1000 s.sp.src)) hs ck rfl rfl hO (.own .here rfl rfl) (jG _) (fun l h=>by rw [dK] at h;simp only [List.length_append] at h;omega) ?_);intro v161 en161 w hO2 hs
     rw [←gd,List.append_assoc _ (vD _ _),show (s.sp.many:Int)+1+(j:Int)=((s.sp.many+1+j:Nat):Int) by omega] at hO2
     refine .z zg (.nil ?_)
     refine nB (nT ?_)
     refine .region (.z zm (.z cA (.z zg (.nil ?_))))
     refine nT ?_
     exact ⟨(j+1,v161),.bX rfl bQ aU,⟨by dsimp only;omega,_,hO2,hs.sb⟩,by dsimp only;omega⟩
    ·refine .exit ?_
     refine xT (xT (xB (nT ?_)))
     refine .seq (.ai (.z zg (.nil (.block ?_))))
     refine .loop (fun p:Nat×Value=>⟨243,[],[(15,I (p.1:Int)),(4,p.2),(12,.slice at_ ts.length ct),(13,I (s.sp.many:Int)),(3,.pointer (some ⟨b3,0,none⟩)),(1,.pointer (some ⟨b1,0,none⟩))]⟩)
      (fun p w=>p.1≤s.cs.length∧∃en,cn 4 p.2 (gg (eB (qh s.sp) s.sp.wa.length s.sp.st.length++eB (alL s.sp) s.sp.wa.length s.sp.st.length++eB (upL s.sp) s.sp.wa.length s.sp.st.length++vD s.sp ts.length++oU s.sp ts s.cs 0 p.1)) en∧St H1 w (en:: .blk b3 [I s.sp.id,I s.sp.src,.slice ast s.sp.st.length cst,.slice awa s.sp.wa.length cwa,I s.sp.al,I s.sp.up]:: .blk b1 [I s.sp.id,I s.sp.src,.slice ast s.sp.st.length cst,.slice awa s.sp.wa.length cwa,I s.sp.al,I s.sp.up,.slice ar s.rs.length cr,.slice ac s.cs.length cc]::σ)) (fun p=>s.cs.length - p.1) (0,vo) aU
      ⟨by first|omega|exact Nat.zero_le _,en,by show cn 4 vo (gg (_++[])) en;rw [List.append_nil,←show j=ts.length by omega];exact hO,hs⟩ ?_
     clear hO hs
     rintro ⟨i,vo⟩ w ⟨hi,en,hO,hs⟩
     dsimp only at hi hO ⊢
     have hel:=gK s.sp ts.length
     have hcl1:=iF s.sp ts s.cs 0 i
     have hcl2:i*(2*(ts.length - 0))≤20*(2*60):=Nat.mul_le_mul aj aj
     refine .seq (.ai (.z zm (.z (zfa aR) (.y hs (zld bI) (.z (cH aC) (.z fj (.nil ?_)))))))
     refine (.bJ rfl (fun hc166=>?_) (fun hc166=>?_))
     ·refine .skip ?_
      refine nT ?_
      refine .seq (.block (.ai (.z zg (.nil (.block ?_)))))
      refine .loop (fun p:Nat×Value=>⟨243,[],[(16,I (p.1:Int)),(4,p.2),(15,I (i:Int)),(12,.slice at_ ts.length ct),(13,I (s.sp.many:Int)),(3,.pointer (some ⟨b3,0,none⟩)),(1,.pointer (some ⟨b1,0,none⟩))]⟩)
       (fun p w=>p.1≤ts.length∧∃en,cn 4 p.2 (gg (eB (qh s.sp) s.sp.wa.length s.sp.st.length++eB (alL s.sp) s.sp.wa.length s.sp.st.length++eB (upL s.sp) s.sp.wa.length s.sp.st.length++vD s.sp ts.length++oU s.sp ts s.cs 0 i++jD s.sp ts (xU s.cs i) 0 p.1)) en∧St H1 w (en:: .blk b3 [I s.sp.id,I s.sp.src,.slice ast s.sp.st.length cst,.slice awa s.sp.wa.length cwa,I s.sp.al,I s.sp.up]:: .blk b1 [I s.sp.id,I s.sp.src,.slice ast s.sp.st.length cst,.slice awa s.sp.wa.length cwa,I s.sp.al,I s.sp.up,.slice ar s.rs.length cr,.slice ac s.cs.length cc]::σ)) (fun p=>ts.length - p.1) (0,vo) aU
       ⟨by first|omega|exact Nat.zero_le _,en,by show cn 4 vo (gg (_++[])) en;rw [List.append_nil];exact hO,hs⟩ ?_
      clear hO hs
      rintro ⟨j,vo⟩ w ⟨hj,en,hO,hs⟩
      dsimp only at hj hO ⊢
      have hl1:=kI s.sp ts (xU s.cs i) 0 j
      refine .seq (.ai (.z zm (.z zm (.z (cH bg) (.z fj (.nil ?_))))))
      refine (.bJ rfl (fun hc172=>?_) (fun hc172=>?_))
      ·refine .skip ?_
       refine nT ?_
       refine .seq (.block ?_)
       refine .draw mix rfl hs fun w hs=>?_
       refine .z 0 rfl zm ?_;refine .z 1 rfl (zfa aR) ?_;refine .y 2 rfl hs bI ?_;refine .z 3 rfl zm ?_
       obtain ⟨c,hx⟩:=nth (l:=s.cs) (k:=i) aj
       obtain ⟨t,ht⟩:=nth (l:=ts) (k:=j) aj
       obtain ⟨g1,g2,g3,g4,g5,g6⟩:=hcs c (List.mem_of_getElem? hx)
       have ec:=Bb hx
       have et:=CY ht
       refine .ixX (enc:=Cmp.c) (i:=4) hs rfl aq .none (h4.mono hle1) rfl rfl aC aP hx cM ?_;intro b179 o179 hc179
       refine .r (i:=5) hs rfl aq .none (bY (vs:=c.c) rfl fh aP hc179) ?_
       refine .z 6 rfl zm ?_;refine .z 7 rfl zm ?_
       refine .ixX (enc:=TD.c) (i:=8) hs rfl aq .none hT rfl rfl bg bD ht cM ?_;intro b183 o183 hc183
       refine .r (i:=9) hs rfl aq .none (bY (vs:=t.c) rfl dM bD hc183) ?_
       refine .z 10 rfl zm ?_;refine .z 11 rfl cA ?_;refine .z 12 rfl zm ?_;refine .z 13 rfl cA ?_
       refine .E 14 hs ?_
       refine .call Tryz.call194 rfl (sL (c:=c) (t:=t) hs ⟨aj,aj⟩) ?_;rintro v189 w ⟨en189,hO189,hs⟩
       obtain ⟨a189,l189,c189,rfl,h189⟩:=hO189.shape
       refine .go ?_
       refine .E 15 hs ?_
       refine .append (ys:=gg (ka c t ((s.sp.many:Int)+1+(j:Int)))) hs ck rfl rfl hO (Src.EK hO189 .here) (jG _) (fun l h=>by rw [dK] at h;simp only [List.length_append] at h;have:=wj c t ((s.sp.many:Int)+1+(j:Int));rw [dK] at h189;omega) ?_;intro v190 en190 w hO2 hs
       rw [←gd,List.append_assoc _ (jD _ _ _ _ _),show jD s.sp ts (xU s.cs i) 0 j++ka c t ((s.sp.many:Int)+1+(j:Int))=jD s.sp ts (xU s.cs i) 0 (j+1) by
        show _=_++ka (xU s.cs i) (td0 ts (0+j)) ((s.sp.many+1+(0+j):Nat):Int)
        rw [Nat.zero_add,ec,et,show ((s.sp.many+1+j:Nat):Int)=(s.sp.many:Int)+1+(j:Int) by omega]] at hO2
       refine .go ?_
       refine .z 16 rfl zg ?_;refine .D hs ?_
       refine nB (nT ?_)
       refine .region (.z zm (.z cA (.z zg (.nil ?_))))
       refine nT ?_
       exact ⟨(j+1,v190),.bX rfl bQ aU,⟨by dsimp only;omega,_,hO2,hs.sb⟩,by dsimp only;omega⟩
      ·refine .exit ?_
       refine xT (xT (xB (nB (nT ?_))))
       refine .region (.z zm (.z cA (.z zg (.nil ?_))))
       refine nT ?_
       obtain rfl:j=ts.length:=by omega
       rw [List.append_assoc _ (oU _ _ _ _ _)] at hO
       exact ⟨(i+1,_),.bX rfl bQ aU,⟨by dsimp only;omega,en,hO,hs⟩,by dsimp only;omega⟩
     ·refine .exit ?_
      refine xT (xT (xB (nT ?_)))
      refine .seq (.ai (.z zg (.nil (.block ?_))))
      refine .loop (fun p:Nat×Value=>⟨243,[],[(17,I (p.1:Int)),(4,p.2),(12,.slice at_ ts.length ct),(13,I (s.sp.many:Int)),(3,.pointer (some ⟨b3,0,none⟩)),(1,.pointer (some ⟨b1,0,none⟩))]⟩)
       (fun p w=>p.1≤s.rs.length∧∃en,cn 4 p.2 (gg (eB (qh s.sp) s.sp.wa.length s.sp.st.length++eB (alL s.sp) s.sp.wa.length s.sp.st.length++eB (upL s.sp) s.sp.wa.length s.sp.st.length++vD s.sp ts.length++oU s.sp ts s.cs 0 s.cs.length++tD s.sp ts s.rs p.1)) en∧St H1 w (en:: .blk b3 [I s.sp.id,I s.sp.src,.slice ast s.sp.st.length cst,.slice awa s.sp.wa.length cwa,I s.sp.al,I s.sp.up]:: .blk b1 [I s.sp.id,I s.sp.src,.slice ast s.sp.st.length cst,.slice awa s.sp.wa.length cwa,I s.sp.al,I s.sp.up,.slice ar s.rs.length cr,.slice ac s.cs.length cc]::σ)) (fun p=>s.rs.length - p.1) (0,vo) aU
       ⟨by first|omega|exact Nat.zero_le _,en,by show cn 4 vo (gg (_++[])) en;rw [List.append_nil,←show i=s.cs.length by omega];exact hO,hs⟩ ?_
      clear hO hs
      rintro ⟨q,vo⟩ w ⟨hq,en,hO,hs⟩
      dsimp only at hq hO ⊢
      have hrl1:=gD s.sp ts s.rs q
      have hcl3:=iF s.sp ts s.cs 0 s.cs.length
      have hcl4:s.cs.length*(2*(ts.length - 0))≤20*(2*60):=Nat.mul_le_mul aj aj
      refine .seq (.ai (.z zm (.z (zfa aD) (.y hs (zld aO) (.z (cH an) (.z fj (.nil ?_)))))))
      refine (.bJ rfl (fun hc195=>?_) (fun hc195=>?_))
      ·refine .skip ?_
       refine nT ?_
       refine .seq (.block (.ai (.z (zfa aD) (.y hs (zld aO) (.z zm ?_)))))
       obtain ⟨r,hx⟩:=nth (l:=s.rs) (k:=q) aj
       obtain ⟨g1,g2,g3,g4,g5,g6,g7⟩:=hrs r (List.mem_of_getElem? hx)
       obtain ⟨m,k1,k2,k3⟩:=fm (hmem r (List.mem_of_getElem? hx))
       refine .ixX (enc:=Rdg.c) hs (h3.mono hle1) rfl rfl an aA hx cM ?_;intro b201 o201 hc201
       refine .q hs (bY (vs:=(Rdg.c r)) rfl cq aA hc201) ?_
       refine .o (.alloc hs dC rfl fun b18 w hs=>?_)
       refine .o (.aV (vs:=r.c) hs rfl rfl aA fun w hs=>?_)
       change St _ _ (.blk b18 [I r.src,I r.st,I r.wa,I r.val,I r.tol,I r.tape,I r.day]::_) at hs
       refine .nil (.ai (.y hs (zls [_,_,_,_,_,_] aQ aH) (.z (zfa eN) (.y hs (zld ae) (.z (zfa eM) (.y hs (zld ae) ?_))))))
       refine .o (.call iH rfl (dn (s:=s.sp) hs (h2.mono hle1) aj ⟨aj,aj⟩ ⟨aj,aj⟩) ?_);rintro _ w ⟨rfl,hs⟩
       refine .z zg (.nil (.ai (.z zm (.z cA (.z zm (.z (zfa eh) (.y hs (zld ae) (.z (zfa eg) (.y hs (zld ae) ?_)))))))))
       refine .z (zbd [_,_] fQ) ?_
       refine .o (.call Tryz.call93 rfl (jI (t:=r.td) hs hT aj) ?_);rintro _ w ⟨rfl,hs⟩
       refine .z cA (.z zg (.nil (.region (.z zm (.z zm (.z zm (.z (zfa cU) (.y hs (zld ae) (.z (zfa cz) ?_)))))))))
       refine .y hs (zld ae) (.z cA (.z (zfa dk) (.y hs (zld ae) (.z (zbd [_,_,_,_] eD) (.z zm (.z zm (.z (zfa cz) (.y hs (zld ae) (.z (zfa cU) ?_)))))))))
       refine .y hs (zld ae) (.z ir (.z (zfa dk) (.y hs (zld ae) (.z (zbd [_,_,_,_] eD) ?_))))
       refine .o (.buildSlice (cells:=gg (rJ s.sp ts r)) hs fw rfl aq fun b240 w hs=>?_)
       refine .o (.append (ys:=gg (rJ s.sp ts r)) hs ck rfl rfl hO (.own .here rfl rfl) (jG _) (fun l h=>by rw [dK] at h;simp only [List.length_append] at h;omega) ?_);intro v241 en241 w hO2 hs
       rw [←gd,List.append_assoc _ (tD _ _ _ _),show tD s.sp ts s.rs q++rJ s.sp ts r=tD s.sp ts s.rs (q+1) by rw [←Ak hx];rfl] at hO2
       refine .z zg (.nil ?_)
       refine nB (nT ?_)
       refine .region (.z zm (.z cA (.z zg (.nil ?_))))
       refine nT ?_
       exact ⟨(q+1,v241),.bX rfl bQ aU,⟨by dsimp only;omega,_,hO2,hs.sb⟩,by dsimp only;omega⟩
      ·refine .exit ?_
       refine xT (xT (xB (nT ?_)))
       refine .ai (.z zm (.z zg (.nil ?_)))
       refine .ret (Fin.bL Tryz.results111 rfl ?_)
       obtain rfl:q=s.rs.length:=by omega
       exact ⟨H1,en,hle1,by rw [hlims];exact hO,hs.sb⟩
theorem rA{s:Srv}{vst vwa vr vc:Value}(hs:St H w σ)(h1:RI H vst s.sp.st)(h2:RI H vwa s.sp.wa)(h3:RRd H vr s.rs)(h4:RCm H vc s.cs)(he:s.early):
  Cl Tryz.prog 95 [.agg #[I s.sp.id,I s.sp.src,vst,vwa,I s.sp.al,I s.sp.up,vr,vc]] w fun u w'=>∃H1 vl en,HLe H H1∧u= .agg #[I s.sys.many,vl]∧cn 4 vl (gg s.db) en∧St H1 w' (en::σ):=by
 have hsm:=ea he.1
 have hrl:=he.2.1
 have htl:s.bw.length≤60:=by have:=dq s.rs;unfold Srv.bw;omega
 refine Cl.o Tryz.func95 Tryz.ntmps95 ag1 ?_
 refine .ai ?_
 refine .bx hs fun b1 w hs=>?_
 refine .o (.alloc hs dD rfl fun b2 w hs=>?_)
 refine .nil ?_
 refine .seq (.draw mix rfl hs fun w hs=>?_)
 refine .z 0 rfl (zfa aN) ?_;refine .ys 1 rfl hs [_,_,_,_,_,_] aQ aH ?_;refine .z 3 rfl (zfa aD) ?_;refine .y 4 rfl hs aO ?_;refine .ys 8 rfl hs [_,_,_,_,_,_,_,_] aF az ?_
 refine .E 2 hs ?_
 refine .call CR rfl (eJ (s:=s.sp) hs h1 h2 ⟨aj,aj⟩) ?_;rintro _ w ⟨rfl,hs⟩
 refine .go ?_
 refine .E 5 hs ?_
 refine .call CS rfl (gj hs h3 aj) ?_;rintro v8 w ⟨H1,hle1,hT,hs⟩
 replace hT:RTd H1 v8 s.bw:=hT
 obtain ⟨at_,ct,rfl⟩:=RTd.shape hT
 refine .go ?_
 refine .z 6 rfl (cH bg) ?_;refine .z 7 rfl cA ?_
 refine .E 9 hs ?_
 refine .call Tryz.call111 rfl (lS (s:=s) hs (h1.mono hle1) (h2.mono hle1) (h3.mono hle1) (h4.mono hle1) he) ?_;rintro v12 w ⟨H2,en,hle2,hO,hs⟩
 obtain ⟨al,ll,cl,rfl,hll⟩:=hO.shape
 refine .go ?_
 refine .z 10 rfl (zbd [_,_] ia) ?_
 refine .E 11 hs ?_
 refine .aV (vs:=[_,_]) hs rfl rfl aI ?_;intro w hs
 refine .go ?_
 refine .D hs ?_
 refine .ret ?_
 replace hs:St H2 w (.blk b2 [I ((s.sp.many:Int)+(s.bw.length:Int)),.slice al ll cl]::en::σ):=hs.sb
 exact Fin.gO [] [] hs fun w hs=>⟨_,results1 Tryz.results95 (dA (vs:=[_,_]) hs rfl bp aI),H2,_,en,hle1.trans hle2,by show _=Value.agg #[I ((s.sp.many+s.bw.length:Nat):Int),_];rw [Int.natCast_add],hO,hs.tail⟩
theorem k8{s:Srv}{vst vwa vr vc:Value}(hs:St H w σ)(h1:RI H vst s.sp.st)(h2:RI H vwa s.sp.wa)(h3:RRd H vr s.rs)(h4:RCm H vc s.cs)(he:s.early):
  Cl Tryz.prog 95 [.agg #[I s.sp.id,I s.sp.src,vst,vwa,I s.sp.al,I s.sp.up,vr,vc]] w fun u w'=>∃H1,HLe H H1∧RSy H1 u s.sys∧St H1 w' σ:=by
 refine (rA hs h1 h2 h3 h4 he).mono ?_
 rintro u w' ⟨H1,vl,en,hle,rfl,hO,hs⟩
 have hl:=jv he 6 aj
 rw [s.sZ] at hl
 obtain ⟨H2,hle2,hR,hs⟩:=cn.cI (m:=4) (cs:=s.db.map Lim.c) hO (fun c hc=>by simp only [List.mem_map] at hc;obtain ⟨x,_,rfl⟩:=hc;rfl) aj (by rw [List.length_map];omega) hs .here
 exact ⟨H2,hle.trans hle2,⟨vl,rfl,hR⟩,hs⟩
set_option maxHeartbeats 1000000 in
theorem lT{s:Srv}{vst vwa vr vc:Value}(hs:St H w σ)(h1:RI H vst s.sp.st)(h2:RI H vwa s.sp.wa)(h3:RRd H vr s.rs)(h4:RCm H vc s.cs):
  Cl Tryz.prog 43 [.agg #[I s.sp.id,I s.sp.src,vst,vwa,I s.sp.al,I s.sp.up,vr,vc]] w fun u w'=>∃H1 e,HLe H H1∧u=I e∧uF s e∧St H1 w' σ:=by
 obtain ⟨ast,cst,rfl⟩:=RI.shape h1
 obtain ⟨awa,cwa,rfl⟩:=RI.shape h2
 obtain ⟨ar,cr,rfl⟩:=RRd.shape h3
 obtain ⟨ac,cc,rfl⟩:=RCm.shape h4
 refine Cl.o Tryz.func43 Tryz.ntmps43 ag1 ?_
 refine .ai ?_
 refine .bx hs fun b1 w hs=>?_
 refine .z zg (.nil (.seq (.ai (.z (zfa aN) (.y hs (zls [_,_,_,_,_,_] aQ aH) ?_)))))
 refine .o (.call Tryz.call24 rfl (jt (s:=s.sp) hs h1 h2) ?_);rintro _ w ⟨e,rfl,he,hs⟩
 refine .z iw (.nil ?_)
 refine (.fc rfl (fun hc8=>?_) (fun hc8=>?_))
 ·refine .ai (.z zg (.nil ?_))
  refine .ret (rT (Fin.bL kv rfl ?_))
  have hq:¬fG s.sp∧e=30:=he.resolve_left fun h=>hc8 h.2
  exact ⟨H,_,HLe.refl H,rfl,.space hq.1,hs.out⟩
 ·refine .skip ?_
  refine nT ?_
  refine .seq (.ai (.z (zfa aD) ?_))
  have hok:fG s.sp:=(he.resolve_right fun h=>by omega).1
  refine .y hs (zld aO) (.z (cH an) (.z kT (.z zm ?_)))
  refine .iq (t':=13) rfl (fun hb13=>?_) (fun hb13=>?_)
  ·refine .gFs 4 4 false rfl rfl rfl ?_
   refine .z zpT (.nil ?_)
   refine (.cT ?_)
   refine .ai (.z zg (.nil ?_))
   refine .ret (rT (Fin.bL kv rfl ?_))
   exact ⟨H,_,HLe.refl H,rfl,.long hok aj,hs.out⟩
  ·refine .gT rfl rfl ?_
   refine .z (zfa aR) ?_
   refine .gT rfl rfl ?_
   refine .y hs (zld bI) ?_
   refine .gT rfl rfl ?_
   refine .z (cH aC) ?_
   refine .gT rfl rfl ?_
   refine .z kT (.z zpF (.nil ?_))
   refine (.bJ rfl (fun hc18=>?_) (fun hc18=>?_))
   ·refine .ai (.z zg (.nil ?_))
    refine .ret (rT (Fin.bL kv rfl ?_))
    exact ⟨H,_,HLe.refl H,rfl,.long hok aj,hs.out⟩
   ·refine .skip ?_
    refine nT ?_
    refine .seq (.ai (.z zg (.nil (.block ?_))))
    refine .loop (fun k:Nat=>⟨64,[],[(3,I (k:Int)),(1,.pointer (some ⟨b1,0,none⟩))]⟩)
     (fun k w=>k≤s.rs.length∧(∀j<k,∀y,s.rs[j]? =some y→jo s.sp y)∧St H w (.blk b1 [I s.sp.id,I s.sp.src,.slice ast s.sp.st.length cst,.slice awa s.sp.wa.length cwa,I s.sp.al,I s.sp.up,.slice ar s.rs.length cr,.slice ac s.cs.length cc]::σ)) (fun k=>s.rs.length - k) 0 aU
     ⟨Nat.zero_le _,fun j hj=>by omega,hs⟩ ?_
    rintro k w ⟨hk,hno,hs⟩
    refine .seq (.ai (.z zm (.z (zfa aD) (.y hs (zld aO) (.z (cH an) (.z fj (.nil ?_)))))))
    refine (.bJ rfl (fun hc23=>?_) (fun hc23=>?_))
    ·refine .skip ?_
     refine nT ?_
     refine .seq (.block ?_)
     refine .seq (.draw mix rfl hs fun w hs=>?_)
     refine .z 0 rfl (zfa aN) ?_;refine .ys 1 rfl hs [_,_,_,_,_,_] aQ aH ?_;refine .z 2 rfl (zfa aD) ?_;refine .y 3 rfl hs aO ?_;refine .z 4 rfl zm ?_
     obtain ⟨r,hx⟩:=nth (l:=s.rs) (k:=k) aj
     refine .ixX (enc:=Rdg.c) (i:=5) hs rfl aq .none h3 rfl rfl an aA hx cM ?_;intro b31 o31 hc31
     refine .r (i:=6) hs rfl aq .none (bY (vs:=r.c) rfl cq aA hc31) ?_
     refine .E 7 hs ?_
     refine .call Tryz.call109 rfl (iR (s:=s.sp) (r:=r) hs h1 h2) ?_;rintro _ w ⟨b33,rfl,hb33,hs⟩
     refine .go ?_
     refine .z 8 rfl iO ?_;refine .D hs ?_
     refine (.cond rfl (fun hc34=>?_) (fun hc34=>?_))
     ·refine .ai (.z zg (.nil ?_))
      refine .ret (rB (rT (rT (rB (rT (Fin.bL kv rfl ?_))))))
      exact ⟨H,_,HLe.refl H,rfl,.rdg hok aj (fun h=>by rw [hb33.2 (h r (List.mem_of_getElem? hx))] at hc34;cases hc34),hs.out⟩
     ·refine .skip ?_
      refine nB (nT ?_)
      refine .region (.z zm (.z cA (.z zg (.nil ?_))))
      refine nT ?_
      exact ⟨k+1,.bX rfl bQ aU,⟨aj,eE hno hx (hb33.1 (by simpa using hc34)),hs⟩,aj⟩
    ·refine .exit ?_
     refine xT (xT (xB (nT ?_)))
     refine .seq (.ai (.z zg (.nil (.block ?_))))
     have hrs:∀r∈s.rs,jo s.sp r:=fun r hr=>by
      obtain ⟨j,hj⟩:=List.getElem?_of_mem hr
      have:=(List.getElem?_eq_some_iff.1 hj).1
      exact hno j aj r hj
     clear hno
     refine .loop (fun k:Nat=>⟨64,[],[(4,I (k:Int)),(1,.pointer (some ⟨b1,0,none⟩))]⟩)
      (fun k w=>k≤s.cs.length∧(∀j<k,∀y,s.cs[j]? =some y→oT y)∧St H w (.blk b1 [I s.sp.id,I s.sp.src,.slice ast s.sp.st.length cst,.slice awa s.sp.wa.length cwa,I s.sp.al,I s.sp.up,.slice ar s.rs.length cr,.slice ac s.cs.length cc]::σ)) (fun k=>s.cs.length - k) 0 aU
      ⟨Nat.zero_le _,fun j hj=>by omega,hs⟩ ?_
     rintro i w ⟨hi,hno,hs⟩
     refine .seq (.ai (.z zm (.z (zfa aR) (.y hs (zld bI) (.z (cH aC) (.z fj (.nil ?_)))))))
     refine (.bJ rfl (fun hc39=>?_) (fun hc39=>?_))
     ·refine .skip ?_
      refine nT ?_
      refine .seq (.block (.ai (.z (zfa aR) (.y hs (zld bI) (.z zm ?_)))))
      obtain ⟨c,hx⟩:=nth (l:=s.cs) (k:=i) aj
      refine .ixX (enc:=Cmp.c) hs h4 rfl rfl aC aP hx cM ?_;intro b45 o45 hc45
      refine .q hs (bY (vs:=(Cmp.c c)) rfl fh aP hc45) ?_
      refine .o (.call Tryz.call110 rfl (lE (c:=c) hs) ?_);rintro _ w ⟨b47,rfl,hb47,hs⟩
      refine .z iO (.nil ?_)
      refine (.cond rfl (fun hc48=>?_) (fun hc48=>?_))
      ·refine .ai (.z zg (.nil ?_))
       refine .ret (rB (rT (rT (rB (rT (Fin.bL kv rfl ?_))))))
       exact ⟨H,_,HLe.refl H,rfl,.cmp hok aj hrs (fun h=>by rw [hb47.2 (h c (List.mem_of_getElem? hx))] at hc48;cases hc48),hs.out⟩
      ·refine .skip ?_
       refine nB (nT ?_)
       refine .region (.z zm (.z cA (.z zg (.nil ?_))))
       refine nT ?_
       exact ⟨i+1,.bX rfl bQ aU,⟨aj,eE hno hx (hb47.1 (by simpa using hc48)),hs⟩,aj⟩
     ·refine .exit ?_
      refine xT (xT (xB (nT ?_)))
      refine .seq ?_
      refine .seq (.draw mix rfl hs fun w hs=>?_)
      refine .z 0 rfl (zfa aN) ?_;refine .ys 1 rfl hs [_,_,_,_,_,_] aQ aH ?_;refine .z 3 rfl (zfa aD) ?_;refine .y 4 rfl hs aO ?_
      refine .E 2 hs ?_
      have hcs:∀c∈s.cs,oT c:=fun c hc=>by
       obtain ⟨j,hj⟩:=List.getElem?_of_mem hc
       have:=(List.getElem?_eq_some_iff.1 hj).1
       exact hno j aj c hj
      have hea:s.early:=⟨hok,aj,aj,hrs,hcs⟩
      have hsm:=ea hok
      have hrl:=hea.2.1
      have htl:s.bw.length≤60:=by have:=dq s.rs;unfold Srv.bw;omega
      have hll:=jv hea 6 aj
      rw [s.sZ] at hll
      refine .call CR rfl (eJ (s:=s.sp) hs h1 h2 ⟨aj,aj⟩) ?_;rintro _ w ⟨rfl,hs⟩
      refine .go ?_
      refine .E 5 hs ?_
      refine .call CS rfl (gj hs h3 aj) ?_;rintro v54 w ⟨H1,hle1,hT,hs⟩
      replace hT:RTd H1 v54 s.bw:=hT
      obtain ⟨at_,ct,rfl⟩:=RTd.shape hT
      refine .go ?_
      refine .z 6 rfl (cH bg) ?_;refine .z 7 rfl cA ?_;refine .z 8 rfl kT ?_;refine .z 9 rfl zm ?_
      refine .iq (t':=58) rfl (fun hb58=>?_) (fun hb58=>?_)
      ·refine .qF (i:=10) rfl aq rfl rfl ?_
       refine .qF (i:=11) rfl aq rfl rfl ?_
       refine .qF (i:=12) rfl aq rfl rfl ?_
       refine .qF (i:=13) rfl aq rfl rfl ?_
       refine .z 14 rfl zpT ?_;refine .D hs ?_
       refine (.cT ?_)
       refine .ai (.z zg (.nil ?_))
       refine .ret (rT (Fin.bL kv rfl ?_))
       exact ⟨H1,_,hle1,rfl,.big hea aj,hs.out⟩
      ·refine .ys 10 rfl hs [_,_,_,_,_,_,_,_] aF az ?_
       refine .E 11 hs ?_
       refine .call Tryz.call111 rfl (lS (s:=s) hs (h1.mono hle1) (h2.mono hle1) (h3.mono hle1) (h4.mono hle1) hea) ?_;rintro v60 w ⟨H2,en,hle2,hO,hs⟩
       obtain ⟨al,ll,cl,rfl,hl60⟩:=hO.shape
       rw [dK] at hl60
       refine .go ?_
       refine .z 12 rfl (cH a8) ?_;refine .z 13 rfl kT ?_;refine .z 14 rfl zpF ?_;refine .D hs ?_
       refine (.bJ rfl (fun hc63=>?_) (fun hc63=>?_))
       ·refine .ai (.z zg (.nil ?_))
        refine .ret (rT (Fin.bL kv rfl ?_))
        exact ⟨H2,_,hle1.trans hle2,rfl,.big hea aj,hs.out⟩
       ·refine .skip ?_
        refine nT ?_
        refine .ai (.z zg (.nil ?_))
        refine .ret (Fin.bL kv rfl ?_)
        exact ⟨H2,_,hle1.trans hle2,rfl,.ok hea ⟨aj,aj⟩,hs.out⟩
theorem ji{s:Spc}{q:Wht}{vst vwa:Value}(hs:St H w σ)(h2:RI H vwa s.wa):
  Cl Tryz.prog 238 [.agg #[I q.kind,I q.st,I q.wa,I s.id,I s.src,vst,vwa,I s.al,I s.up]] w fun v w'=>v= .bool (decide (0≤q.wa∧q.wa≤(s.wa.length:Int) - 1))∧St H w' σ:=by
 obtain ⟨awa,cwa,rfl⟩:=RI.shape h2
 have l2:=(RI.len h2).2.2
 refine Cl.o Tryz.func238 Tryz.ntmps238 ag1 ?_
 refine .ai ?_
 refine .bx hs fun b1 w hs=>?_
 refine .z zg (.nil (.ai (.z (zfa cQ) (.z (zfa dj) (.y hs (zld ae) (.z (zfa e7) (.z (zfa aW) (.y hs (zld ak) (.z (cH aa) ?_)))))))))
 refine .z ir ?_
 refine .o (.call dN rfl (bB hs) ?_);rintro _ w ⟨rfl,hs⟩
 refine .z zg (.nil ?_)
 refine .ret (Fin.bL Tryz.results238 rfl ?_)
 exact ⟨rfl,hs.out⟩
theorem j9{s:Spc}{q:Wht}{vst vwa:Value}(hs:St H w σ)(h1:RI H vst s.st):
  Cl Tryz.prog 243 [.agg #[I q.kind,I q.st,I q.wa,I s.id,I s.src,vst,vwa,I s.al,I s.up]] w fun v w'=>v= .bool (decide (0≤q.st∧q.st≤(s.st.length:Int) - 1))∧St H w' σ:=by
 obtain ⟨ast,cst,rfl⟩:=RI.shape h1
 have l1:=(RI.len h1).2.2
 refine Cl.o Tryz.func243 Tryz.ntmps243 ag1 ?_
 refine .ai ?_
 refine .bx hs fun b1 w hs=>?_
 refine .z zg (.nil (.ai (.z (zfa cQ) (.z (zfa dW) (.y hs (zld ae) (.z (zfa e7) (.z (zfa bn) (.y hs (zld ak) (.z (cH aa) ?_)))))))))
 refine .z ir ?_
 refine .o (.call dN rfl (bB hs) ?_);rintro _ w ⟨rfl,hs⟩
 refine .z zg (.nil ?_)
 refine .ret (Fin.bL Tryz.results243 rfl ?_)
 exact ⟨rfl,hs.out⟩
theorem my{s:Spc}{q:Wht}:fR s q↔(q.kind=1∧q.st=0∧s.isW q∧0<q.wa)∨(q.kind=2∧q.st=0∧s.isW q)∨(q.kind=3∧q.wa=0∧s.isS q)∨(q.kind=4∧s.isS q∧s.isW q):=by
 constructor
 ·intro h
  cases h with
  |litres a b c d=>exact .inl ⟨a,b,c,d⟩
  |plane a b c=>exact .inr (.inl ⟨a,b,c⟩)
  |section_ a b c=>exact .inr (.inr (.inl ⟨a,b,c⟩))
  |offset a b c=>exact .inr (.inr (.inr ⟨a,b,c⟩))
 ·rintro (⟨a,b,c,d⟩|⟨a,b,c⟩|⟨a,b,c⟩|⟨a,b,c⟩)
  ·exact .litres a b c d
  ·exact .plane a b c
  ·exact .section_ a b c
  ·exact .offset a b c
theorem wO{s:Spc}{q:Wht}{vst vwa:Value}(hs:St H w σ)(h2:RI H vwa s.wa)(hk:q.kind=1):
  Cl Tryz.prog 237 [.agg #[I q.kind,I q.st,I q.wa,I s.id,I s.src,vst,vwa,I s.al,I s.up]] w fun v w'=>∃b:Bool,v= .bool b∧(b=true↔fR s q)∧St H w' σ:=by
 have hi:=my (s:=s) (q:=q)
 simp only [Spc.isW,Spc.isS] at hi
 refine Cl.o Tryz.func237 Tryz.ntmps237 ag1 ?_
 refine .ai ?_
 refine .bx hs fun b1 w hs=>?_
 refine .z zg (.nil (.ai (.y hs (zls [_,_,_,_,_,_,_,_,_] qi kr) ?_)))
 refine .o (.call Tryz.call238 rfl (ji hs h2) ?_);rintro _ w ⟨rfl,hs⟩
 refine .z zm ?_
 refine .bif (t':=5) rfl (fun hb5=>?_) (fun hb5=>?_)
 ·refine .gT rfl rfl ?_
  refine .z (zfa cQ) ?_
  refine .gT rfl rfl ?_
  refine .z (zfa dj) ?_
  refine .gT rfl rfl ?_
  refine .y hs (zld ae) ?_
  refine .gT rfl rfl ?_
  refine .z kT (.z zpT (.z zm ?_))
  refine .iq (t':=11) rfl (fun hb11=>?_) (fun hb11=>?_)
  ·refine .gT rfl rfl ?_
   refine .z (zfa cQ) ?_
   refine .gT rfl rfl ?_
   refine .z (zfa dW) ?_
   refine .gT rfl rfl ?_
   refine .y hs (zld ae) ?_
   refine .gT rfl rfl ?_
   refine .z fL (.z zpT (.z zg (.nil ?_)))
   refine .ret (Fin.bL Tryz.results237 rfl ?_)
   exact ⟨_,rfl,by rw [hi];simp_all<;>omega,hs.out⟩
  ·refine .gFs 4 8 true rfl rfl rfl ?_
   refine .z zpF (.z zg (.nil ?_))
   refine .ret (Fin.bL Tryz.results237 rfl ?_)
   exact ⟨_,rfl,by rw [hi];simp_all<;>omega,hs.out⟩
 ·refine .gFs 4 2 true rfl rfl rfl ?_
  refine .z zpF (.z zm ?_)
  refine .gFs 4 8 true rfl rfl rfl ?_
  refine .z zpF (.z zg (.nil ?_))
  refine .ret (Fin.bL Tryz.results237 rfl ?_)
  exact ⟨_,rfl,by rw [hi];simp_all<;>omega,hs.out⟩
theorem wN{s:Spc}{q:Wht}{vst vwa:Value}(hs:St H w σ)(h2:RI H vwa s.wa)(hk:q.kind=2):
  Cl Tryz.prog 240 [.agg #[I q.kind,I q.st,I q.wa,I s.id,I s.src,vst,vwa,I s.al,I s.up]] w fun v w'=>∃b:Bool,v= .bool b∧(b=true↔fR s q)∧St H w' σ:=by
 have hi:=my (s:=s) (q:=q)
 simp only [Spc.isW,Spc.isS] at hi
 refine Cl.o Tryz.func240 Tryz.ntmps240 ag1 ?_
 refine .ai ?_
 refine .bx hs fun b1 w hs=>?_
 refine .z zg (.nil (.ai (.y hs (zls [_,_,_,_,_,_,_,_,_] qi kr) ?_)))
 refine .o (.call Tryz.call238 rfl (ji hs h2) ?_);rintro _ w ⟨rfl,hs⟩
 refine .z zm ?_
 refine .bif (t':=5) rfl (fun hb5=>?_) (fun hb5=>?_)
 ·refine .gT rfl rfl ?_
  refine .z (zfa cQ) ?_
  refine .gT rfl rfl ?_
  refine .z (zfa dW) ?_
  refine .gT rfl rfl ?_
  refine .y hs (zld ae) ?_
  refine .gT rfl rfl ?_
  refine .z fL (.z zpT (.z zg (.nil ?_)))
  refine .ret (Fin.bL Tryz.results240 rfl ?_)
  exact ⟨_,rfl,by rw [hi];simp_all<;>omega,hs.out⟩
 ·refine .gFs 4 2 true rfl rfl rfl ?_
  refine .z zpF (.z zg (.nil ?_))
  refine .ret (Fin.bL Tryz.results240 rfl ?_)
  exact ⟨_,rfl,by rw [hi];simp_all<;>omega,hs.out⟩
theorem wM{s:Spc}{q:Wht}{vst vwa:Value}(hs:St H w σ)(h1:RI H vst s.st)(hk:q.kind=3):
  Cl Tryz.prog 242 [.agg #[I q.kind,I q.st,I q.wa,I s.id,I s.src,vst,vwa,I s.al,I s.up]] w fun v w'=>∃b:Bool,v= .bool b∧(b=true↔fR s q)∧St H w' σ:=by
 have hi:=my (s:=s) (q:=q)
 simp only [Spc.isW,Spc.isS] at hi
 refine Cl.o Tryz.func242 Tryz.ntmps242 ag1 ?_
 refine .ai ?_
 refine .bx hs fun b1 w hs=>?_
 refine .z zg (.nil (.ai (.y hs (zls [_,_,_,_,_,_,_,_,_] qi kr) ?_)))
 refine .o (.call Tryz.call243 rfl (j9 hs h1) ?_);rintro _ w ⟨rfl,hs⟩
 refine .z zm ?_
 refine .bif (t':=5) rfl (fun hb5=>?_) (fun hb5=>?_)
 ·refine .gT rfl rfl ?_
  refine .z (zfa cQ) ?_
  refine .gT rfl rfl ?_
  refine .z (zfa dj) ?_
  refine .gT rfl rfl ?_
  refine .y hs (zld ae) ?_
  refine .gT rfl rfl ?_
  refine .z fL (.z zpT (.z zg (.nil ?_)))
  refine .ret (Fin.bL Tryz.results242 rfl ?_)
  exact ⟨_,rfl,by rw [hi];simp_all<;>omega,hs.out⟩
 ·refine .gFs 4 2 true rfl rfl rfl ?_
  refine .z zpF (.z zg (.nil ?_))
  refine .ret (Fin.bL Tryz.results242 rfl ?_)
  exact ⟨_,rfl,by rw [hi];simp_all<;>omega,hs.out⟩
theorem wL{s:Spc}{q:Wht}{vst vwa:Value}(hs:St H w σ)(h1:RI H vst s.st)(h2:RI H vwa s.wa)(hk:q.kind=4):
  Cl Tryz.prog 245 [.agg #[I q.kind,I q.st,I q.wa,I s.id,I s.src,vst,vwa,I s.al,I s.up]] w fun v w'=>∃b:Bool,v= .bool b∧(b=true↔fR s q)∧St H w' σ:=by
 have hi:=my (s:=s) (q:=q)
 simp only [Spc.isW,Spc.isS] at hi
 refine Cl.o Tryz.func245 Tryz.ntmps245 ag1 ?_
 refine .ai ?_
 refine .bx hs fun b1 w hs=>?_
 refine .z zg (.nil (.ai (.y hs (zls [_,_,_,_,_,_,_,_,_] qi kr) ?_)))
 refine .o (.call Tryz.call243 rfl (j9 hs h1) ?_);rintro _ w ⟨rfl,hs⟩
 refine .z zm ?_
 refine .bif (t':=5) rfl (fun hb5=>?_) (fun hb5=>?_)
 ·refine .gT rfl rfl ?_
  refine .y hs (zls [_,_,_,_,_,_,_,_,_] qi kr) ?_
  refine .gT rfl rfl ?_
  refine .o (.call Tryz.call238 rfl (ji hs h2) ?_);rintro _ w ⟨rfl,hs⟩
  refine .z zpT (.z zg (.nil ?_))
  refine .ret (Fin.bL Tryz.results245 rfl ?_)
  exact ⟨_,rfl,by rw [hi];simp_all<;>omega,hs.out⟩
 ·refine .gFs 2 2 true rfl rfl rfl ?_
  refine .z zpF (.z zg (.nil ?_))
  refine .ret (Fin.bL Tryz.results245 rfl ?_)
  exact ⟨_,rfl,by rw [hi];simp_all<;>omega,hs.out⟩
theorem rl{s:Spc}{q:Wht}{vst vwa:Value}{i k:Nat}{u:Int}(hs:St H w σ)(h1:RI H vst s.st)(h2:RI H vwa s.wa)(hok:fG s)(hq:fR s q)(hk1:q.kind=1)(hi:i<s.st.length):
  Cl Tryz.prog 239 [.agg #[I q.kind,I q.st,I q.wa,I s.id,I s.src,vst,vwa,I s.al,I s.up],.agg #[I (i:Int),I (k:Int),I u]] w fun v w'=>∃H1,HLe H H1∧v=I (jH s q i k)∧St H1 w' σ:=by
 obtain ⟨ast,cst,rfl⟩:=RI.shape h1
 obtain ⟨awa,cwa,rfl⟩:=RI.shape h2
 have hn:=hok.wa.many
 have hcap:=(RI.len h2).2.1
 obtain ⟨_,hw1,hw2,hw3⟩:q.st=0∧0<q.wa∧0≤q.wa∧q.wa≤(s.wa.length:Int) - 1:=by
  rcases my.1 hq with h|h|h|h
  ·exact ⟨h.2.1,h.2.2.2,h.2.2.1.1,h.2.2.1.2⟩
  all_goals omega
 obtain ⟨m,hm⟩:∃m:Nat,q.wa=m:=⟨q.wa.toNat,aj⟩
 have hW:jH s q i k=if (k:Int)≤q.wa then gi (wts s.st) i*gi (wts (s.wa.take (q.wa.toNat+1))) k else 0:=by unfold jH;rw [if_pos hk1]
 have hmt:q.wa.toNat=m:=by omega
 rw [hmt] at hW
 refine Cl.o Tryz.func239 Tryz.ntmps239 ag2 ?_
 refine .ai ?_
 refine .bx hs fun b2 w hs=>?_
 refine .bx hs fun b3 w hs=>?_
 refine .z zg (.nil (.seq (.ai (.z (zfa dz) (.y hs (zld ae) (.z (zfa cQ) (.z (zfa dj) (.y hs (zld ae) (.z kT ?_)))))))))
 refine .nil ?_
 refine (.bJ rfl (fun hc12=>?_) (fun hc12=>?_))
 ·refine .ai (.z zg (.nil ?_))
  refine .ret (rT (Fin.bL Tryz.results239 rfl ?_))
  exact ⟨H,HLe.refl H,by rw [hW,if_neg aj],hs.out⟩
 ·refine .skip ?_
  refine nT ?_
  refine .seq (.draw mix rfl hs fun w hs=>?_)
  refine .z 0 rfl (zfa e7) ?_;refine .z 1 rfl (zfa bn) ?_;refine .y 2 rfl hs ak ?_;refine .z 3 rfl (zfa e7) ?_;refine .z 4 rfl (zfa aW) ?_;refine .y 5 rfl hs ak ?_;refine .z 6 rfl (zfa cQ) ?_;refine .z 7 rfl (zfa dj) ?_;refine .y 8 rfl hs ae ?_;refine .z 9 rfl cA ?_
  refine .z 10 rfl (kf (k:=m+1) rfl rfl aa af aj aj) ?_
  refine .E 11 hs ?_
  have hP:eH 7 15000 (s.wa.take (m+1)):=hok.wa.take aj aj
  refine .call Tryz.call104 rfl (mA hs h1 (h2.head (k:=m+1) aj)) ?_;rintro _ w ⟨H1,vo,e,hle1,rfl,hGx,-,hs⟩
  obtain ⟨rfl,hG⟩:=hGx ⟨hok.st,hP⟩
  have hgl:=jy (wts s.st) (wts (s.wa.take (m+1))) s.st.length
  have hyl:(wts (s.wa.take (m+1))).length=m+1:=by rw [eu,List.length_take];omega
  have hgr:=vk (X:=wts s.st) (Y:=wts (s.wa.take (m+1))) (n:=s.st.length) hi
  have hgt:=yJ (X:=wts s.st) (Y:=wts (s.wa.take (m+1))) (n:=s.st.length) (k:=k) hi aj
  have hrl:=jj (wts s.st) (wts (s.wa.take (m+1))) i
  rw [←hgr] at hrl
  generalize ln (wts s.st) (wts (s.wa.take (m+1))) s.st.length=G at*
  obtain ⟨aG,cG,rfl⟩:=hG.shape
  refine .go ?_
  refine .z 12 rfl zm ?_;refine .z 13 rfl zex ?_;refine .z 14 rfl zex ?_;refine .z 15 rfl zg ?_;refine .z 16 rfl zg ?_;refine .D hs ?_
  refine .seq (.draw mix rfl hs fun w hs=>?_)
  refine .z 0 rfl zm ?_;refine .z 1 rfl (zfa dJ) ?_;refine .y 2 rfl hs ae ?_
  refine .ixT (i:=3) hs rfl aq .none hG rfl rfl au aB (show i<_ by omega) cM ?_;intro b31 o31 a31 c31 hc31 hR31
  refine .r (i:=4) hs rfl aq .none (aK rfl ak hc31) ?_
  refine .z 5 rfl (zfa dz) ?_;refine .y 6 rfl hs ae ?_
  refine .ixX (enc:=fun x=>[I x]) (i:=7) hs rfl aq .none hR31 rfl rfl aa af (bu (l:=(gr G i)) (i:=k) aj) cM ?_;intro b35 o35 hc35;replace hc35:=bH.one hc35
  refine .r (i:=8) hs rfl aq .none (aK rfl ae hc35) ?_
  refine .z 9 rfl zg ?_;refine .D hs ?_
  refine .ret (Fin.bL Tryz.results239 rfl ?_)
  exact ⟨H1,hle1,by rw [hW,if_pos aj,←hgt];rfl,hs.out⟩
theorem sw{s:Spc}{q:Wht}{vst vwa:Value}{i k:Nat}{u:Int}(hs:St H w σ)(h1:RI H vst s.st)(hok:fG s)(hk1:q.kind=2)(hi:i<s.st.length):
  Cl Tryz.prog 241 [.agg #[I q.kind,I q.st,I q.wa,I s.id,I s.src,vst,vwa,I s.al,I s.up],.agg #[I (i:Int),I (k:Int),I u]] w fun v w'=>∃H1,HLe H H1∧v=I (jH s q i k)∧St H1 w' σ:=by
 have hW:jH s q i k=if (k:Int)=q.wa then gi (wts s.st) i else 0:=by unfold jH;rw [if_neg aj,if_pos hk1]
 have hl:=eu s.st
 refine Cl.o Tryz.func241 Tryz.ntmps241 ag2 ?_
 refine .ai ?_
 refine .bx hs fun b2 w hs=>?_
 refine .bx hs fun b3 w hs=>?_
 refine .z zg (.nil (.seq (.ai (.z (zfa dz) (.y hs (zld ae) (.z (zfa cQ) (.z (zfa dj) (.y hs (zld ae) (.z iw ?_)))))))))
 refine .nil ?_
 refine (.fc rfl (fun hc12=>?_) (fun hc12=>?_))
 ·refine .ai (.z zg (.nil ?_))
  refine .ret (rT (Fin.bL Tryz.results241 rfl ?_))
  exact ⟨H,HLe.refl H,by rw [hW,if_neg aj],hs.out⟩
 ·refine .skip ?_
  refine nT ?_
  refine .ai (.z (zfa e7) (.z (zfa bn) (.y hs (zld ak) ?_)))
  refine .o (.call Tryz.call273 rfl (ky hs h1) ?_);rintro _ w ⟨H1,vo,e,hle1,rfl,hGx,hs⟩
  obtain ⟨rfl,hG⟩:=hGx hok.st
  obtain ⟨aG,cG,rfl⟩:=RI.shape hG
  refine .z zm (.z zex (.z zex (.z zg (.z zg (.nil (.ai (.z zm (.z (zfa dJ) (.y hs (zld ae) ?_)))))))))
  refine .ixY hs hG rfl rfl aa af (bu (l:=(wts s.st)) (i:=i) aj) cM ?_;intro b23 o23 hc23
  refine .q hs (aK rfl ae hc23) ?_
  refine .z zg (.nil ?_)
  refine .ret (Fin.bL Tryz.results241 rfl ?_)
  exact ⟨H1,hle1,by rw [hW,if_pos aj],hs.out⟩
theorem qm{s:Spc}{q:Wht}{vst vwa:Value}{i k:Nat}{u:Int}(hs:St H w σ)(h2:RI H vwa s.wa)(hok:fG s)(hk1:q.kind=3)(hk:k<s.wa.length):
  Cl Tryz.prog 244 [.agg #[I q.kind,I q.st,I q.wa,I s.id,I s.src,vst,vwa,I s.al,I s.up],.agg #[I (i:Int),I (k:Int),I u]] w fun v w'=>∃H1,HLe H H1∧v=I (jH s q i k)∧St H1 w' σ:=by
 have hW:jH s q i k=if (i:Int)=q.st then gi (wts s.wa) k else 0:=by unfold jH;rw [if_neg aj,if_neg aj,if_pos hk1]
 have hl:=eu s.wa
 refine Cl.o Tryz.func244 Tryz.ntmps244 ag2 ?_
 refine .ai ?_
 refine .bx hs fun b2 w hs=>?_
 refine .bx hs fun b3 w hs=>?_
 refine .z zg (.nil (.seq (.ai (.z (zfa dJ) (.y hs (zld ae) (.z (zfa cQ) (.z (zfa dW) (.y hs (zld ae) (.z iw ?_)))))))))
 refine .nil ?_
 refine (.fc rfl (fun hc12=>?_) (fun hc12=>?_))
 ·refine .ai (.z zg (.nil ?_))
  refine .ret (rT (Fin.bL Tryz.results244 rfl ?_))
  exact ⟨H,HLe.refl H,by rw [hW,if_neg aj],hs.out⟩
 ·refine .skip ?_
  refine nT ?_
  refine .ai (.z (zfa e7) (.z (zfa aW) (.y hs (zld ak) ?_)))
  refine .o (.call Tryz.call273 rfl (ky hs h2) ?_);rintro _ w ⟨H1,vo,e,hle1,rfl,hGx,hs⟩
  obtain ⟨rfl,hG⟩:=hGx (xw hok)
  obtain ⟨aG,cG,rfl⟩:=RI.shape hG
  refine .z zm (.z zex (.z zex (.z zg (.z zg (.nil (.ai (.z zm (.z (zfa dz) (.y hs (zld ae) ?_)))))))))
  refine .ixY hs hG rfl rfl aa af (bu (l:=(wts s.wa)) (i:=k) aj) cM ?_;intro b23 o23 hc23
  refine .q hs (aK rfl ae hc23) ?_
  refine .z zg (.nil ?_)
  refine .ret (Fin.bL Tryz.results244 rfl ?_)
  exact ⟨H1,hle1,by rw [hW,if_pos aj],hs.out⟩
theorem rk{s:Spc}{q:Wht}{vst vwa:Value}{i k:Nat}{u:Int}(hs:St H w σ)(hk1:q.kind=4):
  Cl Tryz.prog 246 [.agg #[I q.kind,I q.st,I q.wa,I s.id,I s.src,vst,vwa,I s.al,I s.up],.agg #[I (i:Int),I (k:Int),I u]] w fun v w'=>∃H1,HLe H H1∧v=I (jH s q i k)∧St H1 w' σ:=by
 have hW:jH s q i k=if (i:Int)=q.st∧(k:Int)=q.wa then 1 else 0:=by unfold jH;rw [if_neg aj,if_neg aj,if_neg aj]
 refine Cl.o Tryz.func246 Tryz.ntmps246 ag2 ?_
 refine .ai ?_
 refine .bx hs fun b2 w hs=>?_
 refine .bx hs fun b3 w hs=>?_
 refine .z zg (.nil (.seq (.ai (.z (zfa dJ) (.y hs (zld ae) (.z (zfa cQ) (.z (zfa dW) (.y hs (zld ae) (.z iw ?_)))))))))
 refine .z zm ?_
 refine .xW (t':=11) rfl (fun hb11=>?_) (fun hb11=>?_)
 ·refine .gFs 6 6 false rfl rfl rfl ?_
  refine .z zpT (.nil ?_)
  refine (.cT ?_)
  refine .ai (.z zg (.nil ?_))
  refine .ret (rT (Fin.bL Tryz.results246 rfl ?_))
  first
  |exact ⟨H,HLe.refl H,by rw [hW,if_neg aj],hs.out⟩
  |exact ⟨H,HLe.refl H,by rw [hW,if_pos aj],hs.out⟩
 ·refine .gT rfl rfl ?_
  refine .z (zfa dz) ?_
  refine .gT rfl rfl ?_
  refine .y hs (zld ae) ?_
  refine .gT rfl rfl ?_
  refine .z (zfa cQ) ?_
  refine .gT rfl rfl ?_
  refine .z (zfa dj) ?_
  refine .gT rfl rfl ?_
  refine .y hs (zld ae) ?_
  refine .gT rfl rfl ?_
  refine .z iw (.z zpF (.nil ?_))
  refine (.fc rfl (fun hc18=>?_) (fun hc18=>?_))
  ·refine .ai (.z zg (.nil ?_))
   refine .ret (rT (Fin.bL Tryz.results246 rfl ?_))
   first
   |exact ⟨H,HLe.refl H,by rw [hW,if_neg aj],hs.out⟩
   |exact ⟨H,HLe.refl H,by rw [hW,if_pos aj],hs.out⟩
  ·refine .skip ?_
   refine nT ?_
   refine .ai (.z zg (.nil ?_))
   refine .ret (Fin.bL Tryz.results246 rfl ?_)
   first
   |exact ⟨H,HLe.refl H,by rw [hW,if_neg aj],hs.out⟩
   |exact ⟨H,HLe.refl H,by rw [hW,if_pos aj],hs.out⟩
def zc(k:Int):Nat:=if k=1 then 237 else if k=2 then 240 else if k=3 then 242 else 245
def y9(k:Int):Nat:=if k=1 then 239 else if k=2 then 241 else if k=3 then 244 else 246
def yC(k:Int):Value:= .agg #[.func (.func (zc k)) #[] #[],.func (.func (y9 k)) #[] #[],I (m7 ⟨k,0,0⟩)]
def Ec:List MapEntry:=[{key:=I 1,val:=yC 1,born:=0},{key:=I 2,val:=yC 2,born:=1},{key:=I 3,val:=yC 3,born:=2},{key:=I 4,val:=yC 4,born:=3}]
theorem kE(hs:St H w σ):
  Cl Tryz.prog 189 [] w fun v w'=>∃b,v= .map (some b)∧St H w' (.obj b (.map Ec.toArray 4)::σ):=by
 refine Cl.of Tryz.func189 rfl Tryz.ntmps189 bQ (vN) ?_
 refine .ai (.z zg (.nil (.ai ?_)))
 refine .o (.makeMap hs fun b1 w hs=>?_)
 refine .z (zbd [_,_,_] im) ?_
 refine .o (.insert (es:=[]) hs rfl rfl rfl eG aS rfl fun w hs=>?_)
 refine .z (zbd [_,_,_] im) ?_
 refine .o (.insert (es:=[{key:=I 1,val:=yC 1,born:=0}]) hs rfl rfl rfl eG aS rfl fun w hs=>?_)
 refine .z (zbd [_,_,_] im) ?_
 refine .o (.insert (es:=[{key:=I 1,val:=yC 1,born:=0},{key:=I 2,val:=yC 2,born:=1}]) hs rfl rfl rfl eG aS rfl fun w hs=>?_)
 refine .z (zbd [_,_,_] im) ?_
 refine .o (.insert (es:=[{key:=I 1,val:=yC 1,born:=0},{key:=I 2,val:=yC 2,born:=1},{key:=I 3,val:=yC 3,born:=2}]) hs rfl rfl rfl eG aS rfl fun w hs=>?_)
 refine .z zm (.z zg (.nil ?_))
 refine .ret (Fin.bL Tryz.results189 rfl ?_)
 exact ⟨b1,rfl,hs⟩
def lF1(k:Int):Value:=if 1≤k∧k≤4 then .func (.func (zc k)) #[] #[] else .nilFunc
def lF2(k:Int):Value:=if 1≤k∧k≤4 then .func (.func (y9 k)) #[] #[] else .nilFunc
def lD(k:Int):Int:=if 1≤k∧k≤4 then m7 ⟨k,0,0⟩ else 0
theorem yB(k:Int):[lF1 k,lF2 k,I (lD k)].all Value.oneCell'=true:=by
 unfold lF1 lF2;split<;>rfl
theorem Ap{H:cu}{s:FS}{x y:Operand}{b:Nat}(k:Int)(hx:FS.ev s x=some (.map (some b)))(hy:FS.ev s y=some (I k)):
  QJ Tryz.prog H [.obj b (.map Ec.toArray 4)] s (.lookup 233 x y true) (.tuple #[.agg #[lF1 k,lF2 k,I (lD k)],.bool (decide (1≤k∧k≤4))]):=by
 by_cases h:1≤k∧k≤4
 ·rw [decide_eq_true h]
  have h4:k=1∨k=2∨k=3∨k=4:=by omega
  rcases h4 with rfl|rfl|rfl|rfl
  ·exact yq (v:=yC 1) (j:=0) hx hy eG aS rfl .here
  ·exact yq (v:=yC 2) (j:=1) hx hy eG aS rfl .here
  ·exact yq (v:=yC 3) (j:=2) hx hy eG aS rfl .here
  ·exact yq (v:=yC 4) (j:=3) hx hy eG aS rfl .here
 ·rw [decide_eq_false h]
  have e1:lF1 k= .nilFunc:=if_neg h
  have e2:lF2 k= .nilFunc:=if_neg h
  have e3:lD k=0:=if_neg h
  rw [e1,e2,e3]
  refine Dx (es:=Ec) (c:=4) hx hy eG aS FO ?_ .here
  have n1:(k==1)=false:=by simp only [beq_eq_false_iff_ne];omega
  have n2:(k==2)=false:=by simp only [beq_eq_false_iff_ne];omega
  have n3:(k==3)=false:=by simp only [beq_eq_false_iff_ne];omega
  have n4:(k==4)=false:=by simp only [beq_eq_false_iff_ne];omega
  simp [Instr.findNow,Instr.sameNow,Ec,n1,n2,n3,n4]
theorem BQ(k:Int):∀args w,(callFunc (zc k) args).run Tryz.prog w= .ok (.enter (zc k) args) w:=by
 unfold zc
 split
 ·exact Tryz.call237
 ·split
  ·exact Tryz.call240
  ·split
   ·exact Tryz.call242
   ·exact Tryz.call245
theorem BA(k:Int):∀args w,(callFunc (y9 k) args).run Tryz.prog w= .ok (.enter (y9 k) args) w:=by
 unfold y9
 split
 ·exact Tryz.call239
 ·split
  ·exact Tryz.call241
  ·split
   ·exact Tryz.call244
   ·exact Tryz.call246
theorem BP{s:Spc}{q:Wht}{vst vwa:Value}(hs:St H w σ)(h1:RI H vst s.st)(h2:RI H vwa s.wa)(hk:1≤q.kind∧q.kind≤4):
  Cl Tryz.prog (zc q.kind) [.agg #[I q.kind,I q.st,I q.wa,I s.id,I s.src,vst,vwa,I s.al,I s.up]] w fun v w'=>∃b:Bool,v= .bool b∧(b=true↔fR s q)∧St H w' σ:=by
 unfold zc
 split
 ·exact wO hs h2 cE
 ·split
  ·exact wN hs h2 cE
  ·split
   ·exact wM hs h1 cE
   ·exact wL hs h1 h2 aj
theorem Bz{s:Spc}{q:Wht}{vst vwa:Value}{i k:Nat}{u:Int}(hs:St H w σ)(h1:RI H vst s.st)(h2:RI H vwa s.wa)(hok:fG s)(hq:fR s q)(hk:1≤q.kind∧q.kind≤4)(hi:i<s.st.length)(hkw:k<s.wa.length):
  Cl Tryz.prog (y9 q.kind) [.agg #[I q.kind,I q.st,I q.wa,I s.id,I s.src,vst,vwa,I s.al,I s.up],.agg #[I (i:Int),I (k:Int),I u]] w fun v w'=>∃H1,HLe H H1∧v=I (jH s q i k)∧St H1 w' σ:=by
 unfold y9
 split
 ·exact rl hs h1 h2 hok hq cE hi
 ·split
  ·exact sw hs h1 hok cE hi
  ·split
   ·exact qm hs h2 hok cE hkw
   ·exact rk hs aj
theorem EN{q:Wht}(h:1≤q.kind∧q.kind≤4):lD q.kind=m7 q:=by
 unfold lD;rw [if_pos h];rfl
theorem Bx{s:Spc}{q:Wht}(h:fR s q):1≤q.kind∧q.kind≤4:=by
 rcases my.1 h with h|h|h|h<;>omega
set_option maxHeartbeats 1000000 in
theorem jS{s:Spc}{q:Wht}{vst vwa:Value}(hs:St H w σ)(h1:RI H vst s.st)(h2:RI H vwa s.wa)(hok:fG s):
  Cl Tryz.prog 102 [.agg #[I s.id,I s.src,vst,vwa,I s.al,I s.up],.agg #[I q.kind,I q.st,I q.wa]] w fun u w'=>∃H1 vl L d b en,HLe H H1∧u= .tuple #[vl,I d,.bool b]∧cn 1 vl (Is L) en∧((b=true∧fR s q∧L=kn s q∧d=m7 q)∨(b=false∧¬fR s q∧L=[]∧d=0))∧St H1 w' (en::σ):=by
 have hsm:=ea hok
 obtain ⟨ast,cst,rfl⟩:=RI.shape h1
 obtain ⟨awa,cwa,rfl⟩:=RI.shape h2
 refine Cl.o Tryz.func102 Tryz.ntmps102 ag2 ?_
 refine .ai ?_
 refine .bx hs fun b2 w hs=>?_
 refine .bx hs fun b3 w hs=>?_
 refine .z zg (.z zg (.z zg (.nil ?_)))
 refine .cut (fun fs w=>∃b7,jU fs ⟨46,[],[(8,.bool (decide (1≤q.kind∧q.kind≤4))),(7,.pointer (some ⟨b7,0,none⟩)),(2,.pointer (some ⟨b2,0,none⟩)),(3,.pointer (some ⟨b3,0,none⟩))]⟩∧St H w (.blk b7 [lF1 q.kind,lF2 q.kind,I (lD q.kind)]:: .blk b3 [I q.kind,I q.st,I q.wa]:: .blk b2 [I s.id,I s.src,(.slice ast s.st.length cst),(.slice awa s.wa.length cwa),I s.al,I s.up]::σ)) ?_ ?_
 ·refine .draw mix rfl hs fun w hs=>?_
  refine .z 1 rfl (zfa jZ) ?_;refine .y 2 rfl hs ae ?_
  refine .e2 (i:=0) (j:=7) aq rfl rfl rfl rfl .none .none hs ?_ ?_
  ·refine .call Tryz.call189 rfl (kE hs) ?_;rintro _ w ⟨b13,rfl,hs⟩
   refine .go ?_
   refine .q (i:=3) [.obj b13 (.map Ec.toArray 4)] rfl aq .none (Ap (H:= .bot) q.kind rfl rfl) ?_
   refine .z 4 rfl zm ?_;refine .z 5 rfl zex ?_;refine .z 6 rfl zex ?_
   refine .E 7 hs ?_
   refine .alloc hs FO rfl ?_;intro b7 w hs
   refine .go ?_
   refine .E 8 hs ?_
   refine .aV (vs:=[lF1 q.kind,lF2 q.kind,I (lD q.kind)]) hs rfl rfl Tryz.sizeOf231 ?_ (hv:=yB _);intro w hs
   refine .go ?_
   refine .z 9 rfl zg ?_;refine .D hs ?_
   exact nT ⟨b7,aU,hs.sb⟩
  ·refine .alloc hs FO rfl ?_;intro b7 w hs
   refine .go ?_
   refine .E 0 hs ?_
   refine .call Tryz.call189 rfl (kE hs) ?_;rintro _ w ⟨b13,rfl,hs⟩
   refine .go ?_
   refine .q (i:=3) [.obj b13 (.map Ec.toArray 4)] rfl aq .none (Ap (H:= .bot) q.kind rfl rfl) ?_
   refine .z 4 rfl zm ?_;refine .z 5 rfl zex ?_;refine .z 6 rfl zex ?_
   refine .E 8 hs ?_
   refine .aV (vs:=[lF1 q.kind,lF2 q.kind,I (lD q.kind)]) hs rfl rfl Tryz.sizeOf231 ?_ (hv:=yB _);intro w hs
   refine .go ?_
   refine .z 9 rfl zg ?_;refine .D hs ?_
   exact nT ⟨b7,aU,hs.sb⟩
 ·rintro fs w ⟨b7,hfs,hs⟩
  refine WE.sub ?_ hfs
  refine .ai (.y hs (zls [_,_,_] cP bE) (.y hs (zls [_,_,_,_,_,_] aQ aH) (.z (zbd (vs:=[(0,.agg #[I q.kind,I q.st,I q.wa]),(1,.agg #[I s.id,I s.src,(.slice ast s.st.length cst),(.slice awa s.wa.length cwa),I s.al,I s.up])]) [I q.kind,I q.st,I q.wa,I s.id,I s.src,(.slice ast s.st.length cst),(.slice awa s.wa.length cwa),I s.al,I s.up] rQ rfl aq) ?_)))
  refine .o (.alloc hs Tryz.zeroValue236 rfl fun b9 w hs=>?_)
  refine .o (.aV (vs:=[_,_,_,_,_,_,_,_,_]) hs rfl rfl kr fun w hs=>?_)
  refine .nil (.seq (.ai (.z zm (.z iO (.z zm ?_)))))
  refine .bif (t':=24) rfl (fun hb24=>?_) (fun hb24=>?_)
  ·refine .gFs 5 2 false rfl rfl rfl ?_
   refine .z zpT (.nil ?_)
   refine (.cT ?_)
   refine .ai (.z zg (.z zg (.z zg (.nil ?_))))
   refine .ret (rT (?_))
   have hn:¬fR s q:=fun h=>by have:=Bx h;simp [this] at hb24
   exact Fin.gO [] [] hs fun w hs=>⟨_,results3 Tryz.results102 rfl rfl rfl,H,_,[],_,_,.nul,HLe.refl H,rfl,.nil 1 none,.inr ⟨rfl,hn,rfl,rfl⟩,hs.out.nul⟩
  ·refine .gT rfl rfl ?_
   have hk:1≤q.kind∧q.kind≤4:=by simpa using hb24
   rw [show lF1 q.kind= .func (.func (zc q.kind)) #[] #[] from if_pos hk,show lF2 q.kind= .func (.func (y9 q.kind)) #[] #[] from if_pos hk,EN hk] at hs
   refine .z (zfa qQ) ?_
   refine .gT rfl rfl ?_
   refine .y hs (zld Tryz.isAgg228) ?_
   refine .gT rfl rfl ?_
   refine .y hs (zls [_,_,_,_,_,_,_,_,_] qi kr) ?_
   refine .gT rfl rfl ?_
   refine .o (.mr (first:=[]) (cap:=[]) rfl rfl (BQ q.kind) (BP (s:=s) hs h1 h2 hk) ?_);rintro _ w ⟨b28,rfl,hb28,hs⟩
   refine .gT rfl rfl ?_
   refine .z iO (.z zpF (.nil ?_))
   refine (.cond rfl (fun hc30=>?_) (fun hc30=>?_))
   ·refine .ai (.z zg (.z zg (.z zg (.nil ?_))))
    refine .ret (rT (?_))
    have hn:¬fR s q:=fun h=>by rw [hb28.2 h] at hc30;cases hc30
    exact Fin.gO [] [] hs fun w hs=>⟨_,results3 Tryz.results102 rfl rfl rfl,H,_,[],_,_,.nul,HLe.refl H,rfl,.nil 1 none,.inr ⟨rfl,hn,rfl,rfl⟩,hs.out.nul⟩
   ·refine .skip ?_
    refine nT ?_
    refine .ai ?_
    refine .o (.buildSlice (cells:=[_]) hs cf rfl rfl fun b31 w hs=>?_)
    refine .o (.alloc hs dZ rfl fun b10 w hs=>?_)
    refine .o (.store hs rfl rfl aB fun w hs=>?_)
    refine .nil (.seq (.ai (.y hs (zls [_,_,_,_,_,_] aQ aH) ?_)))
    have hq:fR s q:=hb28.1 (by simpa using hc30)
    refine .o (.call FU rfl (gn (s:=s) hs h1 h2 ⟨aj,aj⟩) ?_);rintro _ w ⟨H1,ba,hle1,rfl,hit,hs⟩
    have hwl:=e8 s q
    refine .nil (.block ?_)
    refine .rangeFunc (gf:=190) (cap:=[.pointer (some ⟨ba,0,none⟩)]) (xs:=vY s) (σb:=[.blk b10 [.slice (some ⟨b31,0,none⟩) 1 1],.blk b31 (Is [0]),.blk b7 [.func (.func (zc q.kind)) #[] #[],.func (.func (y9 q.kind)) #[] #[],I (m7 q)],.blk b9 [I q.kind,I q.st,I q.wa,I s.id,I s.src,(.slice ast s.st.length cst),(.slice awa s.wa.length cwa),I s.al,I s.up]]) (σf:=σ) (hs.sb) trivial rfl hit FQ (fun x hx=>by
      simp only [vY,List.mem_map] at hx
      obtain ⟨j,_,rfl⟩:=hx;rfl) rfl
     (I:=fun p H' σb=>∃vo en,σb=[.blk b10 [vo],en,.blk b7 [.func (.func (zc q.kind)) #[] #[],.func (.func (y9 q.kind)) #[] #[],I (m7 q)],.blk b9 [I q.kind,I q.st,I q.wa,I s.id,I s.src,(.slice ast s.st.length cst),(.slice awa s.wa.length cwa),I s.al,I s.up]]∧cn 1 vo (Is ((kn s q).take (p+1))) en) (Ix:=fun _ _ _=>False)
     (fun j _ _ σ g1 g2=>g2) (fun _ _ _ _ _ h=>h) ⟨_,_,rfl,.full rfl⟩ ?_ ?_ (fun D c H' σb w _ h _=>h.elim)
    ·rintro ly p hp H2 σb2 σf2 w hle2 ⟨vo,en,rfl,hO⟩ hs ⟨rr,hrr⟩
     have hpm:p<s.many:=by rw [eR] at hp;exact hp
     have hin:p/s.wa.length<s.st.length:=Nat.div_lt_of_lt_mul (by rw [Nat.mul_comm];exact hpm)
     have hkm:=Nat.mod_lt p hsm.2.2.1
     have hws:=sv s q hpm
     have hget:(kn s q)[p+1]? =some (jH s q (p/s.wa.length) (p%s.wa.length)):=by rw [←hws];exact bu aj
     rw [nz hp]
     obtain ⟨al,ll,cl,rfl,hll⟩:=hO.shape
     generalize p/s.wa.length=i at*
     generalize p%s.wa.length=k at*
     refine .region ?_
     refine .o (.alloc hs nQ rfl fun b11 w hs=>?_)
     refine .o (.aV (vs:=[_,_,_]) hs rfl rfl tZ fun w hs=>?_)
     refine .nil ?_
     refine nT ?_
     refine ⟨H2,[.blk b11 [I (i:Int),I (k:Int),I ((p+1:Nat):Int)],.blk b10 [Value.slice al ll cl],en,.blk b7 [.func (.func (zc q.kind)) #[] #[],.func (.func (y9 q.kind)) #[] #[],I (m7 q)],.blk b9 [I q.kind,I q.st,I q.wa,I s.id,I s.src,(.slice ast s.st.length cst),(.slice awa s.wa.length cwa),I s.al,I s.up]],HLe.refl _,hs,?_⟩;rintro w σf4 - hs
     refine .block ?_
     refine .draw mix rfl hs fun w hs=>?_
     refine .y 0 rfl hs ak ?_;refine .z 1 rfl (zfa qP) ?_
     refine .y 2 rfl hs Tryz.isAgg229 ?_
     refine .ys 3 rfl hs [_,_,_,_,_,_,_,_,_] qi kr ?_;refine .ys 4 rfl hs [_,_,_] Tryz.isAgg158 tZ ?_
     refine .E 5 hs ?_
     refine .mr (first:=[]) (cap:=[]) rfl rfl (BA q.kind) (Bz (s:=s) (q:=q) (i:=i) (k:=k) hs (h1.mono (hle1.trans hle2)) (h2.mono (hle1.trans hle2)) hok hq hk hin hkm) ?_;rintro _ w ⟨H3,hle3,rfl,hs⟩
     refine .go ?_
     refine .E 6 hs ?_
     refine .buildSlice (cells:=[_]) hs cf rfl rfl ?_;intro b41 w hs
     refine .go ?_
     refine .E 7 hs ?_
     refine .append (ys:=Is [jH s q i k]) hs aZ rfl rfl hO (.own .here rfl rfl) (dL _) (fun l h=>by simp at h;omega) ?_;intro v42 en42 w hO2 hs
     rw [show Is ((kn s q).take (p+1))++Is [jH s q i k]=Is ((kn s q).take (p+1+1)) by rw [cB hget];simp [Is]] at hO2
     obtain ⟨a42,l42,c42,rfl,h42⟩:=hO2.shape
     refine .go ?_
     refine .E 8 hs ?_
     refine .store hs rfl rfl aB ?_;intro w hs
     refine .go ?_
     refine .D hs ?_
     refine nB ?_
     exact ⟨H3,[.blk b10 [.slice a42 l42 c42],en42,.blk b7 [.func (.func (zc q.kind)) #[] #[],.func (.func (y9 q.kind)) #[] #[],I (m7 q)],.blk b9 [I q.kind,I q.st,I q.wa,I s.id,I s.src,(.slice ast s.st.length cst),(.slice awa s.wa.length cwa),I s.al,I s.up]],hle3,(hs.sb:St H3 w (.blk b10 _::en42:: .blk b7 _:: .blk b9 _::σf4)),_,_,rfl,hO2⟩
    ·rintro D H2 σb2 w hle2 ⟨vo,en,rfl,hO⟩ hs
     rw [eR,←hwl,List.take_length] at hO
     replace hs:St H2 w (.obj D (.deferred (some [])):: .blk b10 [vo]::en:: .blk b7 [.func (.func (zc q.kind)) #[] #[],.func (.func (y9 q.kind)) #[] #[],I (m7 q)]:: .blk b9 [I q.kind,I q.st,I q.wa,I s.id,I s.src,(.slice ast s.st.length cst),(.slice awa s.wa.length cwa),I s.al,I s.up]::σ):=hs
     obtain ⟨al,ll,cl,rfl,hll⟩:=hO.shape
     refine nB (nT ?_)
     refine .seq (.draw mix rfl hs fun w hs=>?_)
     refine .y 0 rfl hs ak ?_;refine .z 1 rfl (zfa qO) ?_;refine .y 2 rfl hs ae ?_;refine .z 3 rfl zg ?_;refine .z 4 rfl zg ?_;refine .z 5 rfl zg ?_;refine .D hs ?_
     refine .ret ?_
     exact Fin.gO [D] [] hs fun w hs=>⟨_,results3 Tryz.results102 rfl rfl rfl,H2,_,_,_,_,en,hle1.trans hle2,rfl,hO,.inl ⟨rfl,hq,rfl,rfl⟩,hs.sb⟩
theorem jn{a d:Int}(hs:St H w σ)(hd:1≤d)(ha: -4608000000000000000≤a∧a≤4608000000000000000):
  Cl Tryz.prog 86 [I a,I d] w fun v w'=>v=I (a/d)∧St H w' σ:=by
 have hq: -4608000000000000000≤a.tdiv d∧a.tdiv d≤4608000000000000000:=by
  have h1:=sf (n:=a) (d:=d) aj
  have h2:a/d≤4608000000000000000:=Int.ediv_le_of_le_mul aj (by
   have:=Int.mul_le_mul_of_nonneg_left hd (show (0:Int)≤4608000000000000000 by omega);omega)
  have h3: -4608000000000000000≤a/d:=Int.le_ediv_of_mul_le aj (by
   have:=Int.mul_le_mul_of_nonneg_left hd (show (0:Int)≤4608000000000000000 by omega);omega)
  by_cases h0:0≤a
  ·rw [Int.tdiv_eq_ediv_of_nonneg h0];omega
  ·split at h1
   ·have:a/d<0:=Int.ediv_neg_of_neg_of_pos aj aj
    omega
   ·omega
 have hfl:=sf (n:=a) (d:=d) aj
 refine Cl.o Tryz.func86 Tryz.ntmps86 ag2 ?_
 refine .ai (.z zg (.nil (.ai (.z zm (.z zm ?_)))))
 refine .q hs (uq rfl rfl aj ⟨aj,aj⟩) ?_
 refine .z zg (.nil (.seq (.ai (.z zm (.z zm (.z Bv (.z fj (.nil ?_))))))))
 refine (.bJ rfl (fun hc12=>?_) (fun hc12=>?_))
 ·refine .region (.z zm (.z ir (.z zg (.nil ?_))))
  refine nT ?_
  refine .ai (.z zm (.z zg (.nil ?_)))
  refine .ret (Fin.bL Tryz.results86 rfl ?_)
  rw [if_pos hc12] at hfl
  exact ⟨by rw [hfl],hs⟩
 ·refine .skip ?_
  refine nT ?_
  refine .ai (.z zm (.z zg (.nil ?_)))
  refine .ret (Fin.bL Tryz.results86 rfl ?_)
  rw [if_neg hc12,Int.sub_zero] at hfl
  exact ⟨by rw [hfl],hs⟩
theorem oB{s:Srv}{vst vwa vr vc:Value}(hs:St H w σ)(h1:RI H vst s.sp.st)(h2:RI H vwa s.sp.wa)(h3:RRd H vr s.rs)(h4:RCm H vc s.cs)(hok:ez s):
  Cl Tryz.prog 169 [.agg #[I s.sp.id,I s.sp.src,vst,vwa,I s.sp.al,I s.sp.up,vr,vc]] w fun u w'=>∃H1,∃b:Bool,HLe H H1∧u= .bool b∧(b=true↔s.sys.Sound)∧St H1 w' σ:=by
 refine Cl.o Tryz.func169 Tryz.ntmps169 ag1 ?_
 refine .ai ?_
 refine .bx hs fun b1 w hs=>?_
 refine .z zg (.nil (.ai (.y hs (zls [_,_,_,_,_,_,_,_] aF az) ?_)))
 refine .o (.call CT rfl (fa (s:=s) hs h1 h2 h3 h4 hok.early) ?_);rintro v7 w ⟨H1,hle1,hS,hs⟩
 refine .o (.call Tryz.call51 rfl (rO (s:=s.sys) hs hS) ?_);rintro _ w ⟨H2,vx,xs,e,hle2,rfl,rx,hC,hs⟩
 obtain ⟨ax,cx,rfl⟩:=RI.shape rx
 have hchk:s.sys.check=0:=s.sys.dG.2 hok.sys
 obtain rfl:e=0:=by
  cases hC with
  |bad h=>exact (h hchk).elim
  |sound=>rfl
  |chain=>rfl
 have hiff:=hC.Ac
 refine .z zm (.z zex (.z zex (.z zg (.z zg (.nil (.ai (.z zm (.z fL (.z zm ?_)))))))))
 refine .iq (t':=13) rfl (fun hb13=>?_) (fun hb13=>?_)
 ·refine .gT rfl rfl ?_
  refine .z zm ?_
  refine .gT rfl rfl ?_
  refine .z (cH aa) ?_
  refine .gT rfl rfl ?_
  refine .z fL (.z zpT (.z zg (.nil ?_)))
  refine .ret (Fin.bL Tryz.results169 rfl ?_)
  first
  |exact ⟨H2,_,hle1.trans hle2,rfl,by rw [←hiff,decide_eq_true_eq];exact ⟨fun h=>List.length_eq_zero_iff.1 aj,fun h=>by rw [h];rfl⟩,hs.out⟩
  |exact (hb13 rfl).elim
 ·refine .gFs 3 2 true rfl rfl rfl ?_
  refine .z zpF (.z zg (.nil ?_))
  refine .ret (Fin.bL Tryz.results169 rfl ?_)
  first
  |exact ⟨H2,_,hle1.trans hle2,rfl,by rw [←hiff,decide_eq_true_eq];exact ⟨fun h=>List.length_eq_zero_iff.1 aj,fun h=>by rw [h];rfl⟩,hs.out⟩
  |exact (hb13 rfl).elim
theorem yW(L:List Int)(j:Nat):L++List.replicate j 0++[0]=L++List.replicate (j+1) 0:=by
 rw [List.append_assoc,←List.replicate_succ']
set_option maxHeartbeats 1000000 in
theorem rK{s:Srv}{q:Wht}{vst vwa vr vc:Value}(hs:St H w σ)(h1:RI H vst s.sp.st)(h2:RI H vwa s.sp.wa)(h3:RRd H vr s.rs)(h4:RCm H vc s.cs)(hok:ez s):
  Cl Tryz.prog 155 [.agg #[I s.sp.id,I s.sp.src,vst,vwa,I s.sp.al,I s.sp.up,vr,vc],.agg #[I q.kind,I q.st,I q.wa]] w fun u w'=>∃H1 ul vw L d b,HLe H H1∧u= .tuple #[.agg #[I s.sys.many,ul,vw,I d],.bool b]∧RL H1 ul s.db∧RI H1 vw L∧L.length=s.sys.n∧((b=true∧fR s.sp q∧L=s.w q∧d=m7 q)∨(b=false∧¬fR s.sp q))∧St H1 w' σ:=by
 have hn:=rn s
 have hm:=hok.many
 have hsm:s.sys.many+1=(s.sys.n:Int):=by rw [hn];show ((s.sp.many+s.bw.length:Nat):Int)+1=_;omega
 refine Cl.o Tryz.func155 Tryz.ntmps155 ag2 ?_
 refine .ai ?_
 refine .bx hs fun b2 w hs=>?_
 refine .bx hs fun b3 w hs=>?_
 refine .o (.alloc hs wh rfl fun b4 w hs=>?_)
 refine .z zg (.nil (.ai (.y hs (zls [_,_,_,_,_,_,_,_] aF az) ?_)))
 refine .o (.call CT rfl (fa (s:=s) hs h1 h2 h3 h4 hok.early) ?_);rintro _ w ⟨H1,hle1,⟨ul,rfl,hL⟩,hs⟩
 obtain ⟨al,cl,rfl⟩:=RL.shape hL
 refine .o (.alloc hs dD rfl fun b6 w hs=>?_)
 refine .o (.aV (vs:=[_,_]) hs rfl rfl aI fun w hs=>?_)
 refine .nil (.ai (.z (zfa aN) (.y hs (zls [_,_,_,_,_,_] aQ aH) (.y hs (zls [_,_,_] cP bE) ?_))))
 refine .o (.call Tryz.call102 rfl (jS (s:=s.sp) (q:=q) hs (h1.mono hle1) (h2.mono hle1) hok.early.1) ?_);rintro _ w ⟨H2,vl,L0,d,b,en,hle2,rfl,hO,hcase,hs⟩
 have hL0:L0.length≤s.sys.n:=by
  rcases hcase with ⟨_,_,rfl,_⟩|⟨_,_,rfl,_⟩
  ·rw [e8,hn];omega
  ·simp
 have hle02:=hle1.trans hle2
 refine .z zm (.z zex (.z zex (.z zex (.z zg (.z zg (.z zg (.nil (.seq (.block ?_)))))))))
 refine .loop (fun p:Nat×Value=>⟨34,[],[(7,p.2),(8,I d),(9,.bool b),(6,.pointer (some ⟨b6,0,none⟩)),(4,.pointer (some ⟨b4,0,none⟩))]⟩)
  (fun p w=>L0.length+p.1≤s.sys.n∧∃en,cn 1 p.2 (Is (L0++List.replicate p.1 0)) en∧St H2 w (en:: .blk b6 [I s.sys.many,.slice al s.db.length cl]:: .blk b4 [I 0,.slice none 0 0,.slice none 0 0,I 0]::σ)) (fun p=>s.sys.n - (L0.length+p.1)) (0,vl) aU
  ⟨by simpa using hL0,en,by simpa using hO,hs.sb⟩ ?_
 clear hO hs
 rintro ⟨j,vo⟩ w ⟨hj,en,hO,hs⟩
 dsimp only at hj hO ⊢
 obtain ⟨ao,lo,co,rfl,hlo⟩:=hO.shape
 have hlo':lo=L0.length+j:=by simp [Is] at hlo;omega
 refine .seq (.ai (.z zm (.z (cH aa) (.z (zfa bP) (.y hs (zld ae) (.z cA (.z fj (.nil ?_))))))))
 refine (.bJ rfl (fun hc25=>?_) (fun hc25=>?_))
 ·refine .skip ?_
  refine nT ?_
  refine .block (.region (.z zm ?_))
  refine .o (.buildSlice (cells:=[_]) hs cf rfl rfl fun b27 w hs=>?_)
  refine .o (.append (ys:=Is [0]) hs aZ rfl rfl hO (.own .here rfl rfl) (dL _) (fun l' h=>by simp [Is] at h;omega) ?_);intro v28 en28 w hO2 hs
  rw [show Is (L0++List.replicate j 0)++Is [0]=Is (L0++List.replicate (j+1) 0) by rw [←yW];simp [Is]] at hO2
  refine .z zg (.nil ?_)
  refine nB (nT ?_)
  exact ⟨(j+1,v28),aU,⟨by dsimp only;omega,_,hO2,hs.sb⟩,by dsimp only;omega⟩
 ·refine .exit ?_
  refine xT (xT (xB (nT ?_)))
  refine .ai (.y hs (zls [_,_] bp aI) (.z zm (.z zm (.z (zbd [_,_,_,_] fK) (.z zm ?_)))))
  refine .o (.aV (vs:=[_,_,_,_]) hs rfl rfl eI fun w hs=>?_)
  refine .z zg (.nil ?_)
  refine .ret ?_
  have hjn:L0.length+j=s.sys.n:=by omega
  obtain ⟨H3,hle3,hR,hs⟩:=cn.cN hO (by simp;omega) hs cJ
  exact Fin.gO [] [] hs fun w hs=>⟨_,results2 Tryz.results155 (dA (vs:=[_,_,_,_]) hs rfl xi eI) rfl,H3,_,_,_,d,b,hle02.trans hle3,rfl,hL.mono (hle2.trans hle3),hR,by simp;omega,by
   rcases hcase with ⟨g1,g2,rfl,g3⟩|⟨g1,g2,_,_⟩
   ·refine .inl ⟨g1,g2,?_,g3⟩
    rw [e8,hn] at hjn
    unfold Srv.w;rw [show j=s.bw.length by omega]
   ·exact .inr ⟨g1,g2⟩,hs.out⟩
end Go.Proofs.YtddaejgfjlneoaaGreat
