/-
  Texts of these claims, joined: Yf Yq Za Zb Zc Zd Ze Zf Zg Zh Zi Zj Zk Zl Zm.
-/
import Derived.Test.YtddaejgfjlneoaaGreatGc
namespace Go.Proofs.YtddaejgfjlneoaaGreat
open Go.MW
variable{H:bX}{w:World}{σ:List Ent}
def uh(L:List Int):List (List Value):=(List.range L.length).map fun j=>[I ((L.length - 1 - j:Nat):Int),I (gi L (L.length - 1 - j))]
theorem k8(L:List Int):(uh L).length=L.length:=by simp [uh]
theorem xl{L:List Int}{j:Nat}(h:j<(uh L).length):(uh L)[j]=[I ((L.length - 1 - j:Nat):Int),I (gi L (L.length - 1 - j))]:=by simp [uh]
theorem mL{H:bX}{b:Nat}{v:Value}{L:List Int}(hb:Row H b [v])(hr:RI H v L):Iter Tryz.prog 231 [.pointer (some ⟨b,0,none⟩)] H (uh L):=by
 intro l II Ix _ _ hy H0 σb0 σf w hle hI0 hs
 obtain ⟨a,c,rfl⟩:=RI.shape hr
 have hlen:=(RI.len hr).2.2
 have hb0:cellAt H0 b 0=some (.slice a L.length c):=cellAt.mono (hb.at 0) hle
 refine Cl.o Tryz.func231 Tryz.ntmps231 ag2 ?_
 refine .aj (.y hs (zld an) (.z (cB ae) (.z gL (.z zg (.nil (.block ?_))))))
 refine .loop (fun j:Nat=>⟨19,[],[(3,I ((L.length:Int) - 1 - (j:Int))),(0,.func (.yield l) #[] #[]),(1,.pointer (some ⟨b,0,none⟩))]⟩)
  (fun j w=>j≤L.length∧∃H1 σb,HLe H H1∧HLe H0 H1∧II j H1 σb∧St H1 w (σb++σf)) (fun j=>L.length - j) 0 (.bU rfl bL aR)
  ⟨Nat.zero_le _,H0,σb0,hle,HLe.refl _,hI0,hs⟩ ?_
 clear hs hI0
 rintro j w ⟨hj,H1,σb,hle1,hle0,hI,hs⟩
 have hb1:cellAt H1 b 0=some (.slice a L.length c):=cellAt.mono hb0 hle0
 refine .seq (.aj (.z zm (.z xt (.nil ?_))))
 refine (.bB rfl (fun hc8=>?_) (fun hc8=>?_))
 ·refine .skip ?_
  refine nT ?_
  refine .seq (.block (.aj (.z zm (.z zm (.y hs (zld an) (.z zm ?_))))))
  refine .ixY hs (hr.mono hle1) rfl rfl ae ai (bn (l:=L) (i:=L.length - 1 - j) ak) ak ?_;intro b15 o15 hc15
  refine .q hs (aJ rfl af hc15) ?_
  have hk':j<(uh L).length:=by rw [k8];omega
  have hyd:=hy j hk' H1 σb σf w hle1 hI hs
  rw [xl hk',show ((L.length - 1 - j:Nat):Int)=(L.length:Int) - 1 - (j:Int) by omega] at hyd
  refine .o (.yield rfl rfl hyd ?_);rintro v17 w ⟨H2,σ2,g1,hs,g3⟩
  obtain ⟨bb,rfl,gT,gF⟩:=oG g3
  refine .z gV (.nil ?_)
  refine (.cond rfl (fun hc18=>?_) (fun hc18=>?_))
  ·refine .ret (rB (rT (rT (rB (Fin.EK Tryz.results231 ?_)))))
   exact ⟨H2,σ2,hle0.trans g1,hs,.inr (gF (by simpa using hc18))⟩
  ·refine .skip ?_
   refine nB (nT ?_)
   refine .region (.z zm (.z gL (.z zg (.nil ?_))))
   refine nT ?_
   exact ⟨j+1,.bU rfl (by simp;omega) aR,⟨ak,H2,σ2,hle1.trans g1,hle0.trans g1,gT (by simpa using hc18),hs⟩,ak⟩
 ·refine .exit ?_
  refine xT (xT (xB ?_))
  obtain rfl:L.length=j:=by omega
  exact Fin.xu Tryz.results231 ⟨H1,σb,hle0,hs,.inl (by rw [k8];exact hI)⟩
theorem nU{v:Value}{L:List Int}(hs:St H w σ)(hr:RI H v L):
  Cl Tryz.prog 180 [v] w fun u w'=>∃H1 b,HLe H H1∧u= .func (.func 231) #[] #[.pointer (some ⟨b,0,none⟩)]∧Iter Tryz.prog 231 [.pointer (some ⟨b,0,none⟩)] H1 (uh L)∧St H1 w' σ:=by
 obtain ⟨a,c,rfl⟩:=RI.shape hr
 refine Cl.o Tryz.func180 Tryz.ntmps180 ag1 ?_
 refine .aj ?_
 refine .bx hs fun b1 w hs=>?_
 refine .z zg (.nil (.aj ?_))
 refine .q hs (du (f:=[]) (c:=[_]) rfl rfl) ?_
 refine .z zg (.nil ?_)
 refine .ret (Fin.bH Tryz.results180 rfl ?_)
 obtain ⟨H1,g1,g2,hs⟩:=hs.cq .here
 exact ⟨H1,b1,g1,rfl,mL g2 (hr.mono g1),hs⟩
theorem rX{n m:Int}{b:Nat}(hs:St H w σ)(hb:Row H b [I m]):
  Cl Tryz.prog 181 [I n,.pointer (some ⟨b,0,none⟩)] w fun u w'=>u= .bool (decide (n=m))∧St H w' σ:=by
 have hb0:cellAt H b 0=some (I m):=hb.at 0
 refine Cl.o Tryz.func181 Tryz.ntmps181 ag2 ?_
 refine .aj (.z zg (.nil (.aj (.z zm (.y hs (zld af) (.z fo (.z zg (.nil ?_))))))))
 refine .ret (Fin.bH Tryz.results181 rfl ?_)
 exact ⟨rfl,hs⟩
set_option maxHeartbeats 1000000 in
theorem pa{v:Value}{s:cj}(hs:St H w σ)(hr:RSy H v s):
  Cl Tryz.prog 98 [v] w fun u w'=>∃H1 vx out e,HLe H H1∧u= .tuple #[vx,I e]∧RI H1 vx out∧om s out e∧St H1 w' σ:=by
 obtain ⟨ul,rfl,hl⟩:=hr
 obtain ⟨al,cl,rfl⟩:=RL.shape hl
 refine Cl.o Tryz.func98 Tryz.ntmps98 ag1 ?_
 refine .aj ?_
 refine .bx hs fun b1 w hs=>?_
 refine .z zg (.z zg (.nil (.seq (.aj (.y hs (zls [_,_] aN aB) ?_)))))
 refine .o (.call Tryz.call125 rfl (ib (s:=s) hs ⟨_,rfl,hl⟩) ?_);rintro _ w ⟨rfl,hs⟩
 refine .z zg (.nil (.aj (.z zm (.z gx (.nil ?_)))))
 refine (.eH rfl (fun hc12=>?_) (fun hc12=>?_))
 ·refine .aj (.z zm (.z zg (.z zg (.nil ?_))))
  refine .ret (rT (?_))
  exact Fin.iA [] [] hs fun w hs=>⟨_,results2 Tryz.results98 rfl rfl,H,_,[],_,HLe.refl H,rfl,RS.nil H 1 none 0,.bad hc12,hs.out⟩
 ·refine .skip ?_
  refine nT ?_
  refine .seq (.aj (.y hs (zls [_,_] aN aB) ?_))
  have hok:s.Ok:=s.cu.1 (by simpa using hc12)
  have hll:=hok.len
  refine .o (.call Gf rfl (fw (s:=s) hs hok ⟨_,rfl,hl⟩) ?_);rintro _ w ⟨H1,bb,hle1,rfl,hbb,hs⟩
  refine .nil ?_
  refine (.cond rfl (fun hc15=>?_) (fun hc15=>?_))
  ·refine .aj (.z zg (.z zg (.nil ?_)))
   refine .ret (rT (?_))
   exact Fin.iA [] [] hs fun w hs=>⟨_,results2 Tryz.results98 rfl rfl,H1,_,[],_,hle1,rfl,RS.nil H1 1 none 0,.none hok (hbb.1 hc15),hs.out⟩
  ·refine .skip ?_
   refine nT ?_
   refine .aj (.y hs (zls [_,_] aN aB) ?_)
   have hns:¬s.Sound:=fun h=>by rw [hbb.2 h] at hc15;cases hc15
   refine .o (.call Tryz.call129 rfl (iS (s:=s) hs ⟨_,rfl,hl.mono hle1⟩ ak) ?_);rintro v17 w ⟨L,en,hO,hLl,hRise,hs⟩
   obtain ⟨a17,l17,c17,rfl,h17⟩:=hO.shape
   refine .o (.alloc hs dV rfl fun b5 w hs=>?_)
   refine .o (.store hs rfl rfl az fun w hs=>?_)
   refine .nil (.seq (.aj (.y hs (zls [_,_] aN aB) ?_)))
   refine .o (.call Tryz.call129 rfl (iS (s:=s) hs ⟨_,rfl,hl.mono hle1⟩ ak) ?_);rintro v19 w ⟨L',en',hO',hLl',hRise',hs⟩
   obtain rfl:L=L':=hRise.uniq hRise'
   obtain ⟨H2,hle2,hR19,hs⟩:=cf.de hO' ak hs .here
   refine .o (.call Tryz.call180 rfl (nU hs hR19) ?_);rintro _ w ⟨H3,b20,hle3,rfl,hit,hs⟩
   have hle03:=hle1.trans (hle2.trans hle3)
   refine .nil (.block ?_)
   refine .rangeFunc (gf:=231) (cap:=[.pointer (some ⟨b20,0,none⟩)]) (xs:=uh L) (σb:=[.blk b1 [I s.many,.slice al s.bP.length cl],.blk b5 [.slice a17 l17 c17],en]) (σf:=σ) (hs.sb:St H3 w (.blk b1 _:: .blk b5 _::en::σ)) trivial rfl hit Tryz.call231 (fun x hx=>by
     simp only [uh,List.mem_map] at hx
     obtain ⟨j,_,rfl⟩:=hx;rfl) rfl
    (I:=fun j H' σb=>∃(t:cj) (ut vo:Value) (out:List Int) (en:Ent),σb=[.blk b1 [I t.many,ut],.blk b5 [vo],en]∧RL H' ut t.bP∧cf 1 vo (Is out) en∧out.length≤L.length∧t.Ok∧kG s L (L.length - j) t out) (Ix:=fun _ _ _=>False)
    (fun j _ _ σ g1 ⟨t,ut,vo,out,en,g2,g3,g4⟩=>⟨t,ut,vo,out,en,g2,g3.mono g1,g4⟩) (fun _ _ _ _ _ h=>h)
    ⟨s,_,_,L,en,rfl,hl.mono hle03,hO,Nat.le_refl _,hok,.start⟩ ?_ ?_ (fun D c H' σb w _ h _=>h.elim)
   ·rintro l j hj H4 σb2 σf2 w hle4 ⟨t,ut,vo,out,en,rfl,hut,hOo,hol,htok,hC⟩ hs ⟨rr,hrr⟩
    rw [xl hj]
    have hjL:j<L.length:=by rw [k8] at hj;exact hj
    obtain ⟨at',ct,rfl⟩:=RL.shape hut
    obtain ⟨ao,lo,co,rfl,hlo⟩:=hOo.shape
    refine .region ?_
    refine .o (.alloc hs bJ rfl fun b7 w hs=>?_)
    refine .o (.store hs rfl rfl ai fun w hs=>?_)
    refine .nil ?_
    refine nT ?_
    refine ⟨H4,[.blk b7 [I (gi L (L.length - 1 - j))],.blk b1 [I t.many,.slice at' t.bP.length ct],.blk b5 [.slice ao lo co],en],HLe.refl _,hs,?_⟩;rintro w σf4 - hs
    refine .block (.aj (.y hs (zls [_,_] aN aB) (.y hs (zld af) ?_)))
    refine .o (.buildSlice (cells:=[_]) hs cQ rfl rfl fun b25 w hs=>?_)
    obtain ⟨H5,hle5,r25,hs⟩:=cf.de (xs:=[gi L (L.length - 1 - j)]) (v:= .slice (some ⟨b25,0,none⟩) 1 1) (.full (len:=1) rfl) bL hs cP
    refine .o (.call Tryz.call136 rfl (kY (s:=t) hs ⟨_,rfl,hut.mono hle5⟩ r25 (by have:=htok.len;omega)) ?_);rintro _ w ⟨H6,hle6,⟨u26,rfl,hL26⟩,hs⟩
    obtain ⟨a26,c26,rfl⟩:=RL.shape hL26
    refine .o (.alloc hs bV rfl fun b8 w hs=>?_)
    refine .o (.aZ (vs:=[_,_]) hs rfl rfl aB fun w hs=>?_)
    refine .nil (.aj (.y hs (zls [_,_] aN aB) ?_))
    refine .o (.call Gf rfl (fw (s:=t.wo [gi L (L.length - 1 - j)]) hs (htok.wo _) ⟨_,rfl,hL26⟩) ?_);rintro _ w ⟨H7,b28,hle7,rfl,hb28,hs⟩
    have hle47:=hle5.trans (hle6.trans hle7)
    refine .z gV (.nil ?_)
    refine (.cond rfl (fun hc29=>?_) (fun hc29=>?_))
    ·refine .aj (.y hs (zls [_,_] aN aB) ?_)
     refine .o (.aZ (vs:=[_,_]) hs rfl rfl aB fun w hs=>?_)
     refine .nil (.region (.y hs (zld an) ?_))
     refine .q hs (du (f:=[]) (c:=[_]) rfl rfl) ?_
     obtain ⟨H8,hle8,r7,hs⟩:=hs.cq (b:=b7) cP
     replace hs:St H8 w (en:: .blk b1 [I t.many,.slice a26 (t.wo [gi L (L.length - 1 - j)]).bP.length c26]:: .blk b5 [.slice ao lo co]::σf4):=hs.sb
     refine .o (.call Tryz.call150 rfl (mJ (g:=181) (cap:=[.pointer (some ⟨b7,0,none⟩)]) (fun n=>decide (n=gi L (L.length - 1 - j))) hs hOo ak Tryz.call181
      (fun H' w σ n _ hle hs=>(rX hs (r7.mono hle)).mono fun u w' ⟨g1,g2⟩=>⟨H',HLe.refl _,g1,g2⟩)) ?_);rintro v33 w ⟨H9,en9,hle9,hO9,hs⟩
     obtain ⟨a33,l33,c33,rfl,h33⟩:=hO9.shape
     refine .o (.store hs rfl rfl az fun w hs=>?_)
     refine .nil ?_
     refine nB ?_
     have hfl:=List.length_filter_le (fun n=> !decide (n=gi L (L.length - 1 - j))) out
     have e:L.length - (j+1)=L.length - 1 - j:=by omega
     have hns':¬(t.wo [gi L (L.length - 1 - j)]).Sound:=fun h=>by rw [hb28.2 h] at hc29;cases hc29
     exact ⟨H9,[.blk b1 [I t.many,.slice a26 (t.wo [gi L (L.length - 1 - j)]).bP.length c26],.blk b5 [.slice a33 l33 c33],en9],hle47.trans (hle8.trans hle9),(hs.sb:St H9 w (.blk b1 _:: .blk b5 _::en9::σf4)),t.wo [gi L (L.length - 1 - j)],_,_,_,_,rfl,hL26.mono (hle7.trans (hle8.trans hle9)),hO9,ak,htok.wo _,by
      rw [e]
      exact .drop (by rw [show L.length - 1 - j+1=L.length - j by omega];exact hC) hns'⟩
    ·refine .skip ?_
     refine nB ?_
     have e:L.length - (j+1)=L.length - 1 - j:=by omega
     have hsd':(t.wo [gi L (L.length - 1 - j)]).Sound:=hb28.1 (by simpa using hc29)
     exact ⟨H7,[.blk b1 [I t.many,.slice at' t.bP.length ct],.blk b5 [.slice ao lo co],en],hle47,(hs.sb:St H7 w (.blk b1 _:: .blk b5 _::en::σf4)),t,_,_,_,_,rfl,hut.mono hle47,hOo,hol,htok,by
      rw [e]
      exact .keep (by rw [show L.length - 1 - j+1=L.length - j by omega];exact hC) hsd'⟩
   ·rintro D H4 σb2 w hle4 ⟨t,ut,vo,out,en,rfl,hut,hOo,hol,htok,hC⟩ hs
    rw [k8,Nat.sub_self] at hC
    obtain ⟨ao,lo,co,rfl,hlo⟩:=hOo.shape
    replace hs:St H4 w (.obj D (.deferred (some [])):: .blk b1 [I t.many,ut]:: .blk b5 [.slice ao lo co]::en::σ):=hs
    refine nB (nT ?_)
    refine .aj (.y hs (zld an) (.z zg (.z zg (.nil ?_))))
    refine .ret ?_
    obtain ⟨H5,hle5,hR5,hs⟩:=cf.de hOo ak hs cP
    exact Fin.iA [D] [] hs fun w hs=>⟨_,results2 Tryz.results98 rfl rfl,H5,_,out,0,hle03.trans (hle4.trans hle5),rfl,hR5,.ok hok hns hRise hC,hs.out⟩
theorem mI{v:Value}{xs:List Int}{g:Nat}{cap:List Value}(q:Int→Prop)(hs:St H w σ)(hR:RI H v xs)(hc:∀args w,(callFunc g args).run Tryz.prog w= .ok (.enter g args) w)
  (hp:∀H' w σ (n:Int),n∈xs→HLe H H'→St H' w σ→Cl Tryz.prog g ([I n]++cap) w fun u w'=>∃H1 b,HLe H' H1∧u= .bool b∧(b=true↔q n)∧St H1 w' σ):
  Cl Tryz.prog 206 [v,.func (.func g) #[] cap.toArray] w fun u w'=>∃H1 i,HLe H H1∧u=I i∧(0≤i↔∃x∈xs,q x)∧St H1 w' σ:=by
 obtain ⟨a,c,rfl⟩:=RI.shape hR
 have hl:=(RI.len hR).2.2
 refine Cl.o Tryz.func206 Tryz.ntmps206 ag2 ?_
 refine .aj (.z zg (.nil (.seq (.aj (.z zm (.z (cB ae) (.z zm (.nil ?_))))))))
 refine .for (N:=xs.length) (J:=fun k fr w=>fr=[(1,.func (.func g) #[] cap.toArray),(0,.slice a xs.length c)]∧∃H1,HLe H H1∧(∀j<k,∀y,xs[j]? =some y→¬q y)∧St H1 w σ) ak ?_ ?_ ?_
 ·exact .mk ⟨rfl,H,HLe.refl H,fun j hj=>by omega,hs⟩
 ·rintro k fr w hk ⟨rfl,H1,hle1,hno,hs⟩
  obtain ⟨x,hx⟩:=nth hk
  refine .block (.aj (.z zm (.z zg (.nil (.aj (.z zm (.z zm (.z zm ?_))))))))
  refine .ixY hs (hR.mono hle1) rfl rfl ae ai hx rfl ?_;intro b14 o14 hc14
  refine .q hs (aJ rfl af hc14) ?_
  refine .o (.o8 (first:=[]) (cap:=cap) rfl rfl hc (hp _ _ _ x (List.mem_of_getElem? hx) hle1 hs) ?_);rintro _ w ⟨H2,b16,hle2,rfl,hb16,hs⟩
  refine .nil ?_
  refine (.cond rfl (fun hc16=>?_) (fun hc16=>?_))
  ·refine .aj (.z zm (.z zg (.nil ?_)))
   refine .ret (rB (rT (rB (rT (Fin.bH Tryz.results206 rfl ?_)))))
   exact ⟨H2,_,hle1.trans hle2,rfl,⟨fun _=>⟨x,List.mem_of_getElem? hx,hb16.1 hc16⟩,fun _=>by omega⟩,hs⟩
  ·refine .skip ?_
   refine nB (nT ?_)
   exact .mk ⟨rfl,H2,hle1.trans hle2,e9 hno hx (fun h=>by rw [hb16.2 h] at hc16;cases hc16),hs⟩
 ·rintro fr w ⟨rfl,H1,hle1,hno,hs⟩
  refine nT ?_
  refine .aj (.z zg (.nil ?_))
  refine .ret (Fin.bH Tryz.results206 rfl ?_)
  exact ⟨H1,_,hle1,rfl,⟨fun h=>by omega,fun ⟨x,h1,h2⟩=>by
   obtain ⟨j,hj⟩:=List.getElem?_of_mem h1
   exact (hno j (List.getElem?_eq_some_iff.1 hj).1 x hj h2).elim⟩,hs⟩
theorem gW{v:Value}{xs:List Int}{g:Nat}{cap:List Value}(q:Int→Prop)(hs:St H w σ)(hR:RI H v xs)(hc:∀args w,(callFunc g args).run Tryz.prog w= .ok (.enter g args) w)
  (hp:∀H' w σ (n:Int),n∈xs→HLe H H'→St H' w σ→Cl Tryz.prog g ([I n]++cap) w fun u w'=>∃H1 b,HLe H' H1∧u= .bool b∧(b=true↔q n)∧St H1 w' σ):
  Cl Tryz.prog 134 [v,.func (.func g) #[] cap.toArray] w fun u w'=>∃H1 b,HLe H H1∧u= .bool b∧(b=true↔∃x∈xs,q x)∧St H1 w' σ:=by
 refine Cl.o Tryz.func134 Tryz.ntmps134 ag2 ?_
 refine .aj (.z zg (.nil (.aj (.z zm (.z zm ?_)))))
 refine .o (.call Tryz.call206 rfl (mI q hs hR hc hp) ?_);rintro _ w ⟨H1,i,hle1,rfl,hi,hs⟩
 refine .z xt (.z zg (.nil ?_))
 refine .ret (Fin.bH Tryz.results134 rfl ?_)
 exact ⟨H1,_,hle1,rfl,by simp only [decide_eq_true_eq];exact hi,hs⟩
theorem nx{b:Nat}{i:Int}{l:Lim}{vb:Value}{bs:List Int}(hs:St H w σ)(hb:Row H b [vb])(hr:RI H vb bs):
  Cl Tryz.prog 132 [I i,.agg l.c.toArray,.pointer (some ⟨b,0,none⟩)] w fun u w'=>u= .bool (decide (l.S∈bs))∧St H w' σ:=by
 have hb0:cellAt H b 0=some vb:=by rw [hb.cell];rfl
 refine Cl.o Tryz.func132 Tryz.ntmps132 ag3 ?_
 refine .aj ?_
 refine .bx hs fun b4 w hs=>?_
 refine .z zg (.nil (.aj (.y hs (zld an) (.z (zfa gj) (.y hs (zld af) ?_)))))
 refine .o (.call Tryz.call130 rfl (im hs hr) ?_);rintro _ w ⟨rfl,hs⟩
 refine .z zg (.nil ?_)
 refine .ret (Fin.bH Tryz.results132 rfl ?_)
 exact ⟨rfl,hs.out⟩
theorem nv{n:Int}{b:Nat}{s:cj}{ul:Value}(hs:St H w σ)(r:Row H b [I s.many,ul])(hl:RL H ul s.bP)(hok:s.Ok):
  Cl Tryz.prog 135 [I n,.pointer (some ⟨b,0,none⟩)] w fun u w'=>∃H1 bb,HLe H H1∧u= .bool bb∧(bb=true↔¬(s.wo [n]).Sound)∧St H1 w' σ:=by
 obtain ⟨al,cl,rfl⟩:=RL.shape hl
 have c1:=r.cells 0 [I s.many,.slice al s.bP.length cl]
 have hll:=hok.len
 refine Cl.o Tryz.func135 Tryz.ntmps135 ag2 ?_
 refine .aj (.z zg (.nil (.aj (.y hs (zls [_,_] aN aB) (.z zm ?_)))))
 refine .o (.buildSlice (cells:=[_]) hs cQ rfl rfl fun b6 w hs=>?_)
 obtain ⟨H1,hle1,r6,hs⟩:=cf.de (xs:=[n]) (v:= .slice (some ⟨b6,0,none⟩) 1 1) (.full (len:=1) rfl) bL hs cP
 refine .o (.call Tryz.call136 rfl (kY (s:=s) hs ⟨_,rfl,hl.mono hle1⟩ r6 ak) ?_);rintro _ w ⟨H2,hle2,hS7,hs⟩
 refine .o (.call Gf rfl (fw (s:=s.wo [n]) hs (hok.wo _) hS7) ?_);rintro _ w ⟨H3,b8,hle3,rfl,hb8,hs⟩
 refine .z gV (.z zg (.nil ?_))
 refine .ret (Fin.bH Tryz.results135 rfl ?_)
 exact ⟨H3,_,hle1.trans (hle2.trans hle3),rfl,by rw [←hb8];cases b8<;>simp,hs.out⟩
theorem E4{bs:List Int}(h:∀j<bs.length,0<j→gi bs (j - 1)<gi bs j):bs.Pairwise (·<·):=by
 have key:∀j i,i<j→j<bs.length→gi bs i<gi bs j:=by
  intro j
  induction j with
  |zero=>intro i hi;omega
  |succ j ih=>
   intro i hi hj
   have h1:=h (j+1) hj ak
   rw [Nat.add_sub_cancel] at h1
   by_cases e:i=j
   ·subst e;exact h1
   ·have:=ih i ak ak;omega
 rw [List.pairwise_iff_getElem]
 intro i j hi hj hij
 have h1:=key j i hij hj
 have e1:gi bs i=bs[i]:=by have:=bn hi;rw [List.getElem?_eq_getElem hi] at this;exact (Option.some.inj this).symm
 have e2:gi bs j=bs[j]:=by have:=bn hj;rw [List.getElem?_eq_getElem hj] at this;exact (Option.some.inj this).symm
 rw [e1,e2] at h1
 exact h1
set_option maxHeartbeats 2000000 in
theorem lX{v vb:Value}{s:cj}{bs:List Int}(hs:St H w σ)(hr:RSy H v s)(hb:RI H vb bs):
  Cl Tryz.prog 53 [v,vb] w fun u w'=>∃H1 e,HLe H H1∧u=I e∧tM s bs e∧St H1 w' σ:=by
 obtain ⟨ul,rfl,hl⟩:=hr
 obtain ⟨al,cl,rfl⟩:=RL.shape hl
 obtain ⟨ab,cb,rfl⟩:=RI.shape hb
 have hbl:=(RI.len hb).2.2
 refine Cl.o Tryz.func53 Tryz.ntmps53 ag2 ?_
 refine .aj ?_
 refine .bx hs fun b2 w hs=>?_
 refine .bx hs fun b3 w hs=>?_
 refine .z zg (.nil (.seq (.aj (.y hs (zls [_,_] aN aB) ?_))))
 refine .o (.call Tryz.call125 rfl (ib (s:=s) hs ⟨_,rfl,hl⟩) ?_);rintro _ w ⟨rfl,hs⟩
 refine .z zg (.nil (.aj (.z zm (.z gx (.nil ?_)))))
 refine (.eH rfl (fun hc13=>?_) (fun hc13=>?_))
 ·refine .aj (.z zm (.z zg (.nil ?_)))
  refine .ret (rT (Fin.bH um rfl ?_))
  exact ⟨H,_,HLe.refl H,rfl,.bad hc13,hs.out⟩
 ·refine .skip ?_
  refine nT ?_
  refine .aj (.y hs (zls [_,_] aN aB) ?_)
  have hok:s.Ok:=s.cu.1 (by simpa using hc13)
  have hll:=hok.len
  refine .o (.call Tryz.call129 rfl (iS (s:=s) hs ⟨_,rfl,hl⟩ ak) ?_);rintro v16 w ⟨L,en,hO,hLl,hRise,hs⟩
  obtain ⟨H1,hle1,rL,hs⟩:=cf.de hO ak hs .here
  obtain ⟨aL,cL,rfl⟩:=RI.shape rL
  refine .z zg (.nil (.seq (.aj (.y hs (zld an) (.z (cB ae) (.z zm (.nil ?_)))))))
  refine .for (N:=bs.length) (J:=fun k fr w=>fr=[(17,.slice ab bs.length cb),(6,.slice aL L.length cL),(3,.pointer (some ⟨b3,0,none⟩)),(2,.pointer (some ⟨b2,0,none⟩))]∧(∀j<k,BV s.bP (gi bs j)∧(0<j→gi bs (j - 1)<gi bs j))∧St H1 w (.blk b3 [.slice ab bs.length cb]:: .blk b2 [I s.many,.slice al s.bP.length cl]::σ)) ak ?_ ?_ ?_
  ·exact .mk ⟨rfl,fun j hj=>by omega,hs⟩
  ·rintro k fr w hk ⟨rfl,hno,hs⟩
   have hx:=bn hk
   refine .block (.aj (.z zm ?_))
   refine .ixY hs (hb.mono hle1) rfl rfl ae ai hx rfl ?_;intro b22 o22 hc22
   refine .q hs (aJ rfl af hc22) ?_
   refine .z zg (.z zg (.nil (.aj (.z zm (.z zm ?_)))))
   refine .o (.call Tryz.call130 rfl (im hs rL) ?_);rintro _ w ⟨rfl,hs⟩
   refine .z gV (.z zm ?_)
   refine .bif (t':=28) rfl (fun hb28=>?_) (fun hb28=>?_)
   ·refine .gFs 3 4 false rfl rfl rfl ?_
    refine .gFs 7 7 true rfl rfl rfl ?_
    refine .gFs 1 4 false rfl rfl rfl ?_
    refine .z zpT (.nil ?_)
    refine (.cT ?_)
    refine .aj (.z zg (.nil ?_))
    refine .ret (rB (rT (rB (rT (Fin.bH um rfl ?_)))))
    exact ⟨H1,_,hle1,rfl,.no hok (fun h=>by
     have:=(hRise.mem _).2 (h.src _ (List.mem_of_getElem? hx))
     simp [this] at hb28),hs.out⟩
   ·refine .gT rfl rfl ?_
    refine .z zm ?_
    refine .gT rfl rfl ?_
    refine .z kD ?_
    refine .gT rfl rfl ?_
    refine .z zm ?_
    refine .iD (t':=31) rfl (fun hb31=>?_) (fun hb31=>?_)
    ·refine .gT rfl rfl ?_
     refine .y hs (zld an) ?_
     refine .gT rfl rfl ?_
     refine .z zm ?_
     refine .gT rfl rfl ?_
     refine .z gL ?_
     refine .gT rfl rfl ?_
     refine .ixY hs (hb.mono hle1) rfl rfl ae ai (bn (l:=bs) (i:=k - 1) ak) ak ?_;intro b35 o35 hc35
     refine .gT rfl rfl ?_
     refine .q hs (aJ rfl af hc35) ?_
     refine .gT rfl rfl ?_
     refine .z zm ?_
     refine .gT rfl rfl ?_
     refine .z xt ?_
     refine .gT rfl rfl ?_
     refine .z zpT (.z zpF (.nil ?_))
     refine (.bB rfl (fun hc40=>?_) (fun hc40=>?_))
     ·refine .aj (.z zg (.nil ?_))
      refine .ret (rB (rT (rB (rT (Fin.bH um rfl ?_)))))
      exact ⟨H1,_,hle1,rfl,.no hok (fun h=>by
       have:=AH (S:=fun x=>x∈bs) ⟨h.up,fun _=>Iff.rfl⟩ (i:=k - 1) (j:=k) ak hk
       omega),hs.out⟩
     ·refine .skip ?_
      refine nB (nT ?_)
      have hm:gi bs k∈L:=by simpa using hb28
      exact .mk ⟨rfl,fun j hj=>by
       by_cases e:j=k
       ·subst e;exact ⟨(hRise.mem _).1 hm,fun h0=>by omega⟩
       ·exact hno j ak,hs⟩
    ·refine .gFs 7 7 true rfl rfl rfl ?_
     refine .gT rfl rfl ?_
     refine .z zpF (.z zpF (.nil ?_))
     refine (.cF ?_)
     refine .skip ?_
     refine nB (nT ?_)
     have hm:gi bs k∈L:=by simpa using hb28
     exact .mk ⟨rfl,fun j hj=>by
      by_cases e:j=k
      ·subst e;exact ⟨(hRise.mem _).1 hm,fun h0=>by omega⟩
      ·exact hno j ak,hs⟩
  ·rintro fr w ⟨rfl,hno,hs⟩
   have hup:bs.Pairwise (·<·):=E4 fun j hj h0=>(hno j hj).2 h0
   have hsrc:∀x∈bs,BV s.bP x:=fun x hx=>by
    obtain ⟨j,hj⟩:=List.getElem?_of_mem hx
    have hjl:=(List.getElem?_eq_some_iff.1 hj).1
    have:=bn hjl
    rw [hj] at this
    rw [Option.some.inj this]
    exact (hno j hjl).1
   refine nT ?_
   refine .aj (.y hs (zls [_,_] aN aB) ?_)
   refine .q hs (du (f:=[]) (c:=[_]) rfl rfl) ?_
   obtain ⟨H2,hle2,r3,hs⟩:=hs.cq (b:=b3) cP
   have hle02:=hle1.trans hle2
   refine .o (.call Tryz.call131 rfl (nt (g:=132) (cap:=[.pointer (some ⟨b3,0,none⟩)]) (s:=s) (fun _ l=>decide (l.S∈bs)) hs ⟨_,rfl,hl.mono hle02⟩ ak Tryz.call132 (fun w σ k l _ hs=>nx hs r3 (hb.mono hle02))) ?_);rintro _ w ⟨H3,hle3,⟨u44,rfl,hL44⟩,hs⟩
   rw [uD] at hL44
   obtain ⟨a44,c44,rfl⟩:=RL.shape hL44
   replace hL44:RL H3 _ (s.only bs).bP:=hL44
   have hle03:=hle02.trans hle3
   refine .o (.alloc hs bV rfl fun b9 w hs=>?_)
   refine .o (.aZ (vs:=[_,_]) hs rfl rfl aB fun w hs=>?_)
   refine .nil (.seq (.aj (.y hs (zls [_,_] aN aB) ?_)))
   refine .o (.call Gf rfl (fw (s:=s.only bs) hs (hok.only bs) ⟨_,rfl,hL44⟩) ?_);rintro _ w ⟨H4,b46,hle4,rfl,hq46,hs⟩
   have hle04:=hle03.trans hle4
   have c3:=(r3.mono (hle3.trans hle4)).at 0
   refine .z zm ?_
   refine .bif (t':=47) rfl (fun hb47=>?_) (fun hb47=>?_)
   ·refine .gFs 3 2 false rfl rfl rfl ?_
    refine .z zpT (.nil ?_)
    refine (.cT ?_)
    refine .aj (.z zg (.nil ?_))
    refine .ret (rT (Fin.bH um rfl ?_))
    exact ⟨H4,_,hle04,rfl,.no hok (fun h=>h.bad (hq46.1 hb47)),hs.out⟩
   ·refine .gT rfl rfl ?_
    refine .q hs (aJ rfl an c3) ?_
    refine .gT rfl rfl ?_
    refine .q hs (du (f:=[]) (c:=[_]) rfl rfl) ?_
    refine .gT rfl rfl ?_
    obtain ⟨H5,hle5,r9,hs⟩:=hs.cq (b:=b9) cP
    have hle05:=hle04.trans hle5
    refine .o (.call Tryz.call134 rfl (gW (g:=135) (cap:=[.pointer (some ⟨b9,0,none⟩)]) (fun n=>¬((s.only bs).wo [n]).Sound) hs (hb.mono hle05) Tryz.call135 (fun H' w σ n _ hle hs=>nv (s:=s.only bs) hs (r9.mono hle) (hL44.mono ((hle4.trans hle5).trans hle)) (hok.only bs))) ?_);rintro _ w ⟨H6,b50,hle6,rfl,hq50,hs⟩
    have hle06:=hle05.trans hle6
    refine .z zpF (.nil ?_)
    refine (.cond rfl (fun hc51=>?_) (fun hc51=>?_))
    ·refine .aj (.z zg (.nil ?_))
     refine .ret (rT (Fin.bH um rfl ?_))
     exact ⟨H6,_,hle06,rfl,.no hok (fun h=>by
      obtain ⟨x,hx,hn⟩:=hq50.1 hc51
      exact hn (h.least x hx)),hs.out⟩
    ·refine .skip ?_
     refine nT ?_
     refine .aj (.z zg (.nil ?_))
     refine .ret (Fin.bH um rfl ?_)
     exact ⟨H6,_,hle06,rfl,.ok hok ⟨hsrc,hup,fun h=>by simp [hq46.2 h] at hb47,fun x hx=>Classical.byContradiction fun hn=>by simp [hq50.2 ⟨x,hx,hn⟩] at hc51⟩,hs.out⟩
theorem oI{a0 a1 a2:Int}(hs:St H w σ):Cl Tryz.prog 274 [I a0,I a1,I a2] w fun v w'=>v= .bool (decide (a1≤a0∧a0≤a2))∧St H w' σ:=by
 refine Cl.o Tryz.func274 Tryz.ntmps274 ag3 ?_
 refine .aj (.z zg (.nil (.aj (.z zm (.z zm (.z wh (.z zm ?_)))))))
 refine .iD (t':=10) rfl (fun hb10=>?_) (fun hb10=>?_)
 ·refine .gT rfl rfl ?_
  refine .z zm ?_
  refine .gT rfl rfl ?_
  refine .z zm ?_
  refine .gT rfl rfl ?_
  refine .z wh (.z zpT (.z zg (.nil ?_)))
  refine .ret (Fin.bH Tryz.results274 rfl ?_)
  exact ⟨by simp [*],hs.out⟩
 ·refine .gFs 3 3 true rfl rfl rfl ?_
  refine .z zpF (.z zg (.nil ?_))
  refine .ret (Fin.bH Tryz.results274 rfl ?_)
  exact ⟨by simp [*],hs.out⟩
theorem gR{v:Value}{l:List Int}{many:Nat}{most:Int}(hs:St H w σ)(hr:RI H v l):
  Cl Tryz.prog 247 [v,I many,I most] w fun v w'=>∃b:Bool,v= .bool b∧(b=true↔eI many most l)∧St H w' σ:=by
 obtain ⟨a,c,rfl⟩:=RI.shape hr
 have hlen:=(RI.len hr).2.2
 refine Cl.o Tryz.func247 Tryz.ntmps247 ag3 ?_
 refine .aj (.z zg (.nil (.seq (.aj (.z zm (.z (cB ae) (.z zm ?_)))))))
 refine .o (.call Tryz.call274 rfl (oI hs) ?_);rintro _ w ⟨rfl,hs⟩
 refine .z gV (.z zm ?_)
 refine .bif (t':=14) rfl (fun hb14=>?_) (fun hb14=>?_)
 ·refine .gFs 4 5 false rfl rfl rfl ?_
  refine .z zpT (.z zm ?_)
  refine .gFs 8 11 false rfl rfl rfl ?_
  refine .z zpT (.nil ?_)
  refine (.cT ?_)
  refine .aj (.z zg (.nil ?_))
  refine .ret (rT (Fin.bH Ai rfl ?_))
  exact ⟨false,rfl,⟨fun h=>(by cases h),fun h=>by have:=h.two;have:=h.many;simp at hb14;omega⟩,hs⟩
 ·refine .gT rfl rfl ?_
  refine .z zm ?_
  refine .gT rfl rfl ?_
  have htwo:2≤l.length∧l.length≤many:=by simp at hb14;omega
  refine .ixY hs hr rfl rfl ae ai (bn (l:=l) (i:=0) ak) cD ?_;intro b16 o16 hc16
  refine .gT rfl rfl ?_
  refine .q hs (aJ rfl af hc16) ?_
  refine .gT rfl rfl ?_
  refine .z fH (.z zpF (.z zm ?_))
  refine .iD (t':=20) rfl (fun hb20=>?_) (fun hb20=>?_)
  ·refine .gFs 8 11 false rfl rfl rfl ?_
   refine .z zpT (.nil ?_)
   refine (.cT ?_)
   refine .aj (.z zg (.nil ?_))
   refine .ret (rT (Fin.bH Ai rfl ?_))
   exact ⟨false,rfl,⟨fun h=>(by cases h),fun h=>by have:=h.low;omega⟩,hs⟩
  ·refine .gT rfl rfl ?_
   refine .z zm ?_
   refine .gT rfl rfl ?_
   refine .z zm ?_
   refine .gT rfl rfl ?_
   refine .z (cB ae) ?_
   refine .gT rfl rfl ?_
   refine .z gL ?_
   refine .gT rfl rfl ?_
   refine .ixY hs hr rfl rfl ae ai (bn (l:=l) (i:=(l.length - 1)) ak) cD ?_;intro b25 o25 hc25
   refine .gT rfl rfl ?_
   refine .q hs (aJ rfl af hc25) ?_
   refine .gT rfl rfl ?_
   refine .z zm ?_
   refine .gT rfl rfl ?_
   refine .z kD (.z zpF (.nil ?_))
   refine (.bB rfl (fun hc29=>?_) (fun hc29=>?_))
   ·refine .aj (.z zg (.nil ?_))
    refine .ret (rT (Fin.bH Ai rfl ?_))
    exact ⟨false,rfl,⟨fun h=>(by cases h),fun h=>by have:=h.high;omega⟩,hs⟩
   ·refine .skip ?_
    refine nT ?_
    refine .seq (.aj (.z zm ?_))
    refine .q hs (ta (k:=1) rfl rfl ae ai ak ak) ?_
    refine .z (cB ae) (.z zm (.nil ?_))
    refine .for (N:=l.length - 1) (J:=fun k fr w=>fr=[(31,.slice (if c=1 then a else a.map (·.add (1*1))) (l.length - 1) (c - 1)),(0,.slice a l.length c)]∧(∀j<k,gi l j<gi l (j+1))∧St H w σ) ak ?_ ?_ ?_
    ·exact .mk ⟨rfl,fun j hj=>by omega,hs⟩
    ·rintro k fr w hk ⟨rfl,hno,hs⟩
     have ht:=hr.tail (k:=1) ak
     have hx:(l.drop 1)[k]? =some (gi l (k+1)):=by rw [List.getElem?_drop,Nat.add_comm];exact bn ak
     refine .block (.aj (.z zm ?_))
     refine .ixY hs ht rfl rfl ae ai hx rfl ?_;intro b36 o36 hc36
     refine .q hs (aJ rfl af hc36) ?_
     refine .z zg (.z zg (.nil (.aj (.z zm (.z zm ?_)))))
     refine .ixY hs hr rfl rfl ae ai (bn (l:=l) (i:=k) ak) cD ?_;intro b40 o40 hc40
     refine .q hs (aJ rfl af hc40) ?_
     refine .z zm (.z xt (.nil ?_))
     refine (.bB rfl (fun hc43=>?_) (fun hc43=>?_))
     ·refine .aj (.z zg (.nil ?_))
      refine .ret (rB (rT (rB (rT (Fin.bH Ai rfl ?_)))))
      exact ⟨false,rfl,⟨fun h=>(by cases h),fun h=>by have:=h.rise k ak;omega⟩,hs⟩
     ·refine .skip ?_
      refine nB (nT ?_)
      exact .mk ⟨rfl,fun j hj=>by
       by_cases e:j=k
       ·subst e;omega
       ·exact hno j ak,hs⟩
    ·rintro fr w ⟨rfl,hno,hs⟩
     refine nT ?_
     refine .aj (.z zg (.nil ?_))
     refine .ret (Fin.bH Ai rfl ?_)
     exact ⟨true,rfl,⟨fun _=>⟨ak,ak,ak,ak,fun i hi=>hno i ak⟩,fun _=>rfl⟩,hs⟩
theorem mG{v:Value}{l:List Int}(hs:St H w σ)(hr:RI H v l):
  Cl Tryz.prog 294 [v] w fun v w'=>∃e,v=I e∧((eI 9 100000 l∧e=0)∨(¬eI 9 100000 l∧e≠0))∧St H w' σ:=by
 obtain ⟨a,c,rfl⟩:=RI.shape hr
 refine Cl.o Tryz.func294 Tryz.ntmps294 ag1 ?_
 refine .aj (.z zg (.nil (.seq (.aj (.z zm ?_)))))
 refine .o (.call Tryz.call247 rfl (gR (many:=9) (most:=100000) hs hr) ?_);rintro _ w ⟨b4,rfl,hb4,hs⟩
 refine .z gV (.nil ?_)
 refine (.cond rfl (fun hc5=>?_) (fun hc5=>?_))
 ·refine .aj (.z zg (.nil ?_))
  refine .ret (rT (Fin.bH Tryz.results294 rfl ?_))
  exact ⟨_,rfl,.inr ⟨fun h=>by simp [hb4.2 h] at hc5,by decide⟩,hs⟩
 ·refine .skip ?_
  refine nT ?_
  refine .aj (.z zg (.nil ?_))
  refine .ret (Fin.bH Tryz.results294 rfl ?_)
  exact ⟨_,rfl,.inl ⟨hb4.1 (by simpa using hc5),rfl⟩,hs⟩
theorem hZ{a b:Int}(hs:St H w σ)(ha:0<a)(hb:0<b∧b≤100000):
  Cl Tryz.prog 277 [I a,I b] w fun v w'=>v=I (rat a b)∧St H w' σ:=by
 have h1:0≤b.tdiv a:=Int.tdiv_nonneg ak ak
 have h2:b.tdiv a≤b:=by rw [Int.tdiv_eq_ediv_of_nonneg ak];exact Int.ediv_le_self _ ak
 have hw:=kv (m:=b.tdiv a) ⟨ak,ak⟩
 refine Cl.o Tryz.func277 Tryz.ntmps277 ag2 ?_
 refine .aj (.z zg (.nil (.seq (.aj (.z zm (.z zm (.z BQ (.z fo (.z zm ?_)))))))))
 refine .iD (t':=9) rfl (fun hb9=>?_) (fun hb9=>?_)
 ·refine .gT rfl rfl ?_
  refine .z zm ?_
  refine .gT rfl rfl ?_
  refine .z zm ?_
  refine .gT rfl rfl ?_
  refine .z EC ?_
  refine .gT rfl rfl ?_
  refine .z wh (.z zpT (.nil ?_))
  refine (.bB rfl (fun hc14=>?_) (fun hc14=>?_))
  ·refine .aj (.z zm (.z zm (.z EC (.z zg (.nil ?_)))))
   refine .ret (rT (Fin.bH Tryz.results277 rfl ?_))
   rw [hw] at hc14 ⊢
   exact ⟨by unfold rat;rw [if_pos ⟨by assumption,by assumption⟩],hs⟩
  ·refine .skip ?_
   refine nT ?_
   refine .aj (.z zg (.nil ?_))
   refine .ret (Fin.bH Tryz.results277 rfl ?_)
   rw [hw] at hc14
   exact ⟨by unfold rat;rw [if_neg ak],hs⟩
 ·refine .gFs 4 4 true rfl rfl rfl ?_
  refine .z zpF (.nil ?_)
  refine (.cF ?_)
  refine .skip ?_
  refine nT ?_
  refine .aj (.z zg (.nil ?_))
  refine .ret (Fin.bH Tryz.results277 rfl ?_)
  exact ⟨by unfold rat;rw [if_neg ak],hs⟩
def qa(l:List Int):List (List Value):=(lV l).map fun g=>[Value.agg #[I (g.at_:Int),I (g.n:Int)]]
theorem An{l:List Int}(hp:eI 9 100000 l){i:Nat}(h:i+2<l.length):ez l i=true↔0<rat (gi l (i+1) - gi l i) (gi l (i+2) - gi l (i+1))∨0<rat (gi l (i+2) - gi l (i+1)) (gi l (i+1) - gi l i):=by
 have h1:=hp.rise i ak
 have h2:gi l (i+1)<gi l (i+2):=hp.rise (i+1) ak
 unfold ez
 rw [Aq ak ak]
 simp only [Bool.and_eq_true,decide_eq_true_eq]
 omega
theorem oJ{H:bX}{b:Nat}{v:Value}{l:List Int}(hp:eI 9 100000 l)(hb:Row H b [v])(hr:RI H v l):Iter Tryz.prog 295 [.pointer (some ⟨b,0,none⟩)] H (qa l):=by
 intro ly II Ix _ _ hy H0 σb0 σf w hle hI0 hs
 obtain ⟨a,c,rfl⟩:=RI.shape hr
 have hlen:=hp.many
 have hb0:cellAt H0 b 0=some (.slice a l.length c):=cellAt.mono (hb.at 0) hle
 refine Cl.o Tryz.func295 Tryz.ntmps295 ag2 ?_
 refine .aj (.z zg (.nil (.block ?_)))
 refine .loop (fun i:Nat=>⟨59,[],[(3,I (i:Int)),(0,.func (.yield ly) #[] #[]),(1,.pointer (some ⟨b,0,none⟩))]⟩)
  (fun i w=>i≤l.length∧∃j,j≤(lV l).length∧(lV l).drop j=mw l i∧∃H1 σb,HLe H H1∧HLe H0 H1∧II j H1 σb∧St H1 w (σb++σf)) (fun i=>l.length - i) 0 (.bU rfl bL aR)
  ⟨Nat.zero_le _,0,Nat.zero_le _,rfl,H0,σb0,hle,HLe.refl _,hI0,hs⟩ ?_
 clear hs hI0
 rintro i w ⟨hil,j,hj,hd,H1,σb,hle1,hle0,hI,hs⟩
 have hb1:cellAt H1 b 0=some (.slice a l.length c):=cellAt.mono hb0 hle0
 refine .seq (.aj (.z zm (.z ck (.y hs (zld an) (.z (cB ae) (.z fH (.nil ?_)))))))
 refine (.bB rfl (fun hc11=>?_) (fun hc11=>?_))
 ·refine .skip ?_
  refine nT ?_
  refine .block (.aj (.z zm (.z (zbd [_,_] qn) ?_)))
  refine .o (.alloc hs wq rfl fun b4 w hs=>?_)
  refine .o (.aZ (vs:=[_,_]) hs rfl rfl oq fun w hs=>?_)
  refine .nil ?_
  refine .cut (fun fs w=>kg fs ⟨59,[],[(4,.pointer (some ⟨b4,0,none⟩)),(3,I (i:Int)),(0,.func (.yield ly) #[] #[]),(1,.pointer (some ⟨b,0,none⟩))]⟩∧St H1 w (.blk b4 [I (i:Int),I (((if ez l i then 2 else 1:Nat)):Int)]::(σb++σf))) ?_ ?_
  ·refine .aj (.z zm (.z ck (.y hs (zld an) (.z (cB ae) (.z fH (.nil ?_))))))
   refine (.bB rfl (fun hc18=>?_) (fun hc18=>?_))
   ·refine .seq (.draw mix rfl hs fun w hs=>?_)
    refine .y 0 rfl hs an ?_;refine .z 1 rfl zm ?_;refine .z 2 rfl ck ?_
    have r1:=hp.rise i ak
    have r2:gi l (i+1)<gi l (i+2):=hp.rise (i+1) ak
    have hiff:=An hp (i:=i) ak
    have q1:=hp.bd (i:=i) ak
    have q2:=hp.bd (i:=i+2) ak
    refine .ixX (enc:=fun x=>[I x]) (i:=3) hs rfl au .none (hr.mono hle1) rfl rfl ae ai (bn (l:=l) (i:=(i+1)) ak) cD ?_;intro b22 o22 hc22;replace hc22:=bu.one hc22
    refine .r (i:=4) hs rfl au .none (aJ rfl af hc22) ?_
    refine .y 5 rfl hs an ?_;refine .z 6 rfl zm ?_
    refine .ixX (enc:=fun x=>[I x]) (i:=7) hs rfl au .none (hr.mono hle1) rfl rfl ae ai (bn (l:=l) (i:=i) ak) cD ?_;intro b26 o26 hc26;replace hc26:=bu.one hc26
    refine .r (i:=8) hs rfl au .none (aJ rfl af hc26) ?_
    refine .z 9 rfl gL ?_;refine .y 10 rfl hs an ?_;refine .z 11 rfl zm ?_;refine .z 12 rfl ck ?_
    refine .ixX (enc:=fun x=>[I x]) (i:=13) hs rfl au .none (hr.mono hle1) rfl rfl ae ai (bn (l:=l) (i:=(i+2)) ak) cD ?_;intro b32 o32 hc32;replace hc32:=bu.one hc32
    refine .r (i:=14) hs rfl au .none (aJ rfl af hc32) ?_
    refine .y 15 rfl hs an ?_;refine .z 16 rfl zm ?_;refine .z 17 rfl ck ?_
    refine .ixX (enc:=fun x=>[I x]) (i:=18) hs rfl au .none (hr.mono hle1) rfl rfl ae ai (bn (l:=l) (i:=(i+1)) ak) cD ?_;intro b37 o37 hc37;replace hc37:=bu.one hc37
    refine .r (i:=19) hs rfl au .none (aJ rfl af hc37) ?_
    refine .z 20 rfl gL ?_;refine .z 21 rfl zg ?_;refine .z 22 rfl zg ?_;refine .D hs ?_
    refine .aj (.z zm (.z zm ?_))
    refine .o (.call Tryz.call277 rfl (hZ hs ak ak) ?_);rintro _ w ⟨rfl,hs⟩
    refine .z kD (.z zm ?_)
    refine .iD (t':=44) rfl (fun hb44=>?_) (fun hb44=>?_)
    ·refine .gFs 4 4 false rfl rfl rfl ?_
     refine .z zpT (.nil ?_)
     refine (.cT ?_)
     refine .region (.z (zfa gY) ?_)
     refine .o (.store hs rfl rfl ai fun w hs=>?_)
     refine .nil ?_
     refine nT ?_
     rw [hiff.2 (.inl hb44)];exact ⟨aR,hs⟩
    ·refine .gT rfl rfl ?_
     refine .z zm ?_
     refine .gT rfl rfl ?_
     refine .z zm ?_
     refine .gT rfl rfl ?_
     refine .o (.call Tryz.call277 rfl (hZ hs ak ak) ?_);rintro _ w ⟨rfl,hs⟩
     refine .gT rfl rfl ?_
     refine .z kD (.z zpF (.nil ?_))
     refine (.bB rfl (fun hc49=>?_) (fun hc49=>?_))
     ·refine .region (.z (zfa gY) ?_)
      refine .o (.store hs rfl rfl ai fun w hs=>?_)
      refine .nil ?_
      refine nT ?_
      rw [hiff.2 (.inr hc49)];exact ⟨aR,hs⟩
     ·refine .skip ?_
      refine nT ?_
      rw [show ez l i=false from Bool.eq_false_iff.2 fun h=>by have:=hiff.1 h;omega];exact ⟨aR,hs⟩
   ·refine .skip ?_
    refine nT ?_
    rw [show ez l i=false by simp [ez];omega];exact ⟨aR,hs⟩
  ·rintro fs w ⟨hfs,hs⟩
   refine WE.sub ?_ hfs
   have hgo:=tt (l:=l) (i:=i) ak
   rw [hgo] at hd
   have hjl:j<(lV l).length:=by
    have:=congrArg List.length hd
    simp at this;omega
   have hgj:(lV l)[j]=⟨i,ez l i⟩:=by
    rw [List.drop_eq_getElem_cons hjl] at hd
    exact (List.cons.inj hd).1
   have hdj:(lV l).drop (j+1)=mw l (i+(if ez l i then 2 else 1)):=by
    rw [List.drop_eq_getElem_cons hjl] at hd
    exact (List.cons.inj hd).2
   have hn12:(if ez l i then 2 else 1:Nat)=1∨(if ez l i then 2 else 1:Nat)=2:=by split<;>simp
   refine .seq (.aj (.z zm (.y hs (zls [_,_] Tryz.isAgg300 oq) ?_)))
   have hk':j<(qa l).length:=by simpa [qa] using hjl
   have hyd:=hy j hk' H1 σb (.blk b4 [I (i:Int),I (((if ez l i then 2 else 1:Nat)):Int)]::σf) w hle1 hI (St.deep hs)
   rw [show (qa l)[j]=[Value.agg #[I (i:Int),I (((if ez l i then 2 else 1:Nat)):Int)]] by simp only [qa,List.getElem_map,hgj];rfl] at hyd
   refine .o (.yield rfl rfl hyd ?_);rintro v53 w ⟨H2,σ2,g1,hs,g3⟩
   obtain ⟨bb,rfl,gT,gF⟩:=oG g3
   replace hs:=St.shallow hs
   refine .z gV (.nil ?_)
   refine (.cond rfl (fun hc54=>?_) (fun hc54=>?_))
   ·refine .ret (rT (rB (rT (rB (Fin.EK Tryz.results295 ?_)))))
    exact ⟨H2,σ2,hle0.trans g1,hs.tail,.inr (gF (by simpa using hc54))⟩
   ·refine .skip ?_
    refine nT ?_
    refine .region (.z zm (.z (zfa gY) (.y hs (zld af) (.z ck (.z zg (.nil ?_))))))
    refine nB (nT ?_)
    generalize (if ez l i then 2 else 1:Nat)=n at*
    exact ⟨i+n,.bU rfl bL aR,⟨ak,j+1,hjl,hdj,H2,σ2,hle1.trans g1,hle0.trans g1,gT (by simpa using hc54),hs.tail⟩,ak⟩
 ·refine .exit ?_
  refine xT (xT (xB ?_))
  rw [qU ak] at hd
  have:(lV l).length≤j:=by simpa using hd
  obtain rfl:j=(lV l).length:=by omega
  exact Fin.xu Tryz.results295 ⟨H1,σb,hle0,hs,.inl (by simpa [qa] using hI)⟩
theorem qA{v:Value}{l:List Int}(hs:St H w σ)(hr:RI H v l)(hp:eI 9 100000 l):
  Cl Tryz.prog 276 [v] w fun u w'=>∃H1 b,HLe H H1∧u= .func (.func 295) #[] #[.pointer (some ⟨b,0,none⟩)]∧Iter Tryz.prog 295 [.pointer (some ⟨b,0,none⟩)] H1 (qa l)∧St H1 w' σ:=by
 obtain ⟨a,c,rfl⟩:=RI.shape hr
 refine Cl.o Tryz.func276 Tryz.ntmps276 ag1 ?_
 refine .aj ?_
 refine .bx hs fun b1 w hs=>?_
 refine .z zg (.nil (.aj ?_))
 refine .q hs (du (f:=[]) (c:=[_]) rfl rfl) ?_
 refine .z zg (.nil ?_)
 refine .ret (Fin.bH Tryz.results276 rfl ?_)
 obtain ⟨H1,g1,g2,hs⟩:=hs.cq .here
 exact ⟨H1,b1,g1,rfl,oJ hp g2 (hr.mono g1),hs⟩
theorem ox{bs bW from_ n:Nat}{W xs:List Int}{v:Value}(hs:St H w (.blk bs [.slice (some ⟨bW,0,none⟩) n n]:: .blk bW (Is W)::σ))(hW:W.length=n)(hr:RI H v xs)(hl:from_+xs.length≤n)(hn:n≤9)
  (hz:bG W n≤1000000000) (ha:uS xs≤1000000000):
  Cl Tryz.prog 275 [.pointer (some ⟨bs,0,none⟩),I (from_:Int),v] w fun _ w'=>St H w' (.blk bs [.slice (some ⟨bW,0,none⟩) n n]:: .blk bW (Is (kB W from_ xs))::σ):=by
 obtain ⟨a,c,rfl⟩:=RI.shape hr
 have hlen:=(RI.len hr).2.2
 refine Cl.o Tryz.func275 Tryz.ntmps275 ag3 ?_
 refine .aj (.z zm (.z (cB ae) (.z zm (.nil ?_))))
 refine .for (N:=xs.length) (J:=fun k fr w=>fr=[(8,.slice a xs.length c),(0,.pointer (some ⟨bs,0,none⟩)),(1,I (from_:Int))]∧St H w (.blk bs [.slice (some ⟨bW,0,none⟩) n n]:: .blk bW (Is (kB W from_ (xs.take k)))::σ)) ak ?_ ?_ ?_
 ·exact .mk ⟨rfl,hs⟩
 ·rintro k fr w hk ⟨rfl,hs⟩
  have hal:=nA (xs.take k) W from_
  have hsz:=ph (xs.take k) W from_ (by rw [List.length_take];omega)
  rw [hW] at hsz
  have h1:=xn xs k
  have h2:=BD xs k
  have h3:=gM (kB W from_ (xs.take k)) (v:=from_+k) (n:=n) ak
  have h4:=z7 hk W from_
  refine .block (.aj (.z zm ?_))
  refine .ixY hs hr rfl rfl ae ai (bn (l:=xs) (i:=k) ak) cD ?_;intro b13 o13 hc13
  refine .q hs (aJ rfl af hc13) ?_
  refine .z zg (.z zg (.nil (.region (.z zm (.z znc (.z (zfa oz) (.y hs (zld an) (.z zm (.z zm ?_)))))))))
  refine .z ck ?_
  refine .q hs (dH (k:=from_+k) rfl rfl ae ai ak ak) ?_
  refine .y hs (zld af) (.z zm (.z ck ?_))
  refine .q hs (dH (k:=from_+k) rfl rfl ae ai ak ak) ?_
  refine .o (.store hs rfl rfl ai fun w hs=>?_)
  refine .nil ?_
  refine nB (nT ?_)
  exact .mk ⟨rfl,by rw [h4];exact hs⟩
 ·rintro fr w ⟨rfl,hs⟩
  rw [List.take_length] at hs
  exact Fin.xu Tryz.results275 hs
theorem uG{a b:Int}(ha:0<a∧a≤100000)(hb:0<b∧b≤100000):0≤min a b∧min a b≤100000:=by omega
theorem Ar{a b:Int}(h:0<tms a b):tms a b=1∨tms a b=2∨tms a b=3:=by have:=Dg a b;omega
set_option maxHeartbeats 1000000 in
theorem iH{v:Value}{l:List Int}(hs:St H w σ)(hr:RI H v l)(hp:eI 9 100000 l):
  Cl Tryz.prog 248 [v] w fun u w'=>∃H1,HLe H H1∧RI H1 u (wts l)∧St H1 w' σ:=by
 obtain ⟨a,c,rfl⟩:=RI.shape hr
 have hln:=hp.many
 have hgl:(lV l).length≤9:=by have:=kW l l.length 0;unfold lV;omega
 refine Cl.o Tryz.func248 Tryz.ntmps248 ag1 ?_
 refine .aj ?_
 refine .bx hs fun b1 w hs=>?_
 refine .z zg (.nil (.aj (.y hs (zld an) (.z (cB ae) ?_))))
 refine .o (.pZ l.length hs rfl rfl ae dS rfl ai bJ ak fun b13 w hs=>?_)
 refine .z (zbd [_] vY) ?_
 refine .o (.alloc hs Tryz.zeroValue294 rfl fun b3 w hs=>?_)
 refine .o (.aZ (vs:=[_]) hs rfl rfl Tryz.sizeOf294 fun w hs=>?_)
 refine .nil (.aj ?_)
 refine .q hs (du (f:=[_]) (c:=[]) rfl rfl) ?_
 refine .o (.alloc hs Tryz.zeroValue295 rfl fun b4 w hs=>?_)
 refine .o (.store hs rfl rfl Tryz.sizeOf295 fun w hs=>?_)
 refine .nil (.seq (.aj (.y hs (zld an) ?_)))
 refine .o (.call Tryz.call276 rfl (qA hs hr hp) ?_);rintro _ w ⟨H1,b17,hle1,rfl,hit,hs⟩
 refine .nil (.block ?_)
 refine .rangeFunc (gf:=295) (cap:=[.pointer (some ⟨b17,0,none⟩)]) (xs:=qa l) (σb:=[.blk b3 [.slice (some ⟨b13,0,none⟩) l.length l.length],.blk b13 (Is (sz l 0)),.blk b4 [.func (.func 275) #[.pointer (some ⟨b3,0,none⟩)] #[]],.blk b1 [.slice a l.length c]]) (σf:=σ) (hs.sb) trivial rfl hit Tryz.call295 (fun x hx=>by
   simp only [qa,List.mem_map] at hx
   obtain ⟨j,_,rfl⟩:=hx;rfl) rfl
  (I:=fun j H' σb=>σb=[.blk b3 [.slice (some ⟨b13,0,none⟩) l.length l.length],.blk b13 (Is (sz l j)),.blk b4 [.func (.func 275) #[.pointer (some ⟨b3,0,none⟩)] #[]],.blk b1 [.slice a l.length c]]) (Ix:=fun _ _ _=>False)
  (fun j _ _ σ g1 g2=>g2) (fun _ _ _ _ _ h=>h) rfl ?_ ?_ (fun D c H' σb w _ h _=>h.elim)
 ·rintro ly j hj H2 σb2 σf2 w hle2 rfl hs ⟨rr,hrr⟩
  have hjl:j<(lV l).length:=by simpa [qa] using hj
  obtain ⟨g,hg⟩:=nth hjl
  rw [show (qa l)[j]=[Value.agg #[I (g.at_:Int),I (g.n:Int)]] by
   rw [List.getElem?_eq_getElem hjl] at hg
   simp only [qa,List.getElem_map,Option.some.inj hg]]
  obtain ⟨i1,i2,i3,i4,i5⟩:=tu hp (List.mem_of_getElem? hg)
  have hK:=sy hg
  have hKl:=l5 l j
  have hKz:=qx hp j ak
  have hr2:=hr.mono (hle1.trans hle2)
  have hq0:=hp.bd (i:=g.at_) ak
  have hq1:=hp.bd (i:=g.at_+1) ak
  generalize hA:gi l (g.at_+1) - gi l g.at_=A at*
  refine .region ?_
  refine .o (.alloc hs wq rfl fun b5 w hs=>?_)
  refine .o (.aZ (vs:=[_,_]) hs rfl rfl oq fun w hs=>?_)
  refine .nil ?_
  refine nT ?_
  refine ⟨H2,[.blk b5 [I (g.at_:Int),I (g.n:Int)],.blk b3 [.slice (some ⟨b13,0,none⟩) l.length l.length],.blk b13 (Is (sz l j)),.blk b4 [.func (.func 275) #[.pointer (some ⟨b3,0,none⟩)] #[]],.blk b1 [.slice a l.length c]],HLe.refl _,hs,?_⟩;rintro w σf4 - hs
  refine .block ?_
  refine .seq (.draw mix rfl hs fun w hs=>?_)
  refine .y 0 rfl hs an ?_;refine .z 1 rfl (zfa fE) ?_;refine .y 2 rfl hs af ?_;refine .z 3 rfl ck ?_
  refine .ixX (enc:=fun x=>[I x]) (i:=4) hs rfl au .none hr2 rfl rfl ae ai (bn (l:=l) (i:=(g.at_+1)) ak) cD ?_;intro b23 o23 hc23;replace hc23:=bu.one hc23
  refine .r (i:=5) hs rfl au .none (aJ rfl af hc23) ?_
  refine .y 6 rfl hs an ?_;refine .z 7 rfl (zfa fE) ?_;refine .y 8 rfl hs af ?_
  refine .ixX (enc:=fun x=>[I x]) (i:=9) hs rfl au .none hr2 rfl rfl ae ai (bn (l:=l) (i:=g.at_) ak) cD ?_;intro b28 o28 hc28;replace hc28:=bu.one hc28
  refine .r (i:=10) hs rfl au .none (aJ rfl af hc28) ?_
  refine .z 11 rfl gL ?_
  rw [hA]
  refine .z 12 rfl zg ?_;refine .D hs ?_
  refine .seq (.aj (.z (zfa gY) (.y hs (zld af) (.z fo ?_))))
  skip
  refine .nil ?_
  refine (.bB rfl (fun hc33=>?_) (fun hc33=>?_))
  ·refine .aj ?_
   refine .y hs (zld Tryz.isAgg295) ?_
   refine .z (zfa fE) (.y hs (zld af) (.z zm (.z jS (.z zm (.z jS ?_)))))
   refine .o (.buildSlice (cells:=[_,_]) hs iC rfl rfl fun b41 w hs=>?_)
   have h2:g.two=false:=by
    cases e:g.two with
    |false=>rfl
    |true=>simp [Grp.n,e] at hc33
   obtain ⟨H3,hle3,r41,hs⟩:=cf.de (xs:=[18*A,18*A]) (v:= .slice (some ⟨b41,0,none⟩) 2 2) (.full (len:=2) rfl) bL hs cP
   have hgw:=yQ h2 hA
   rw [hgw] at hK i5
   replace hs:St H3 w (.blk b3 [.slice (some ⟨b13,0,none⟩) l.length l.length]:: .blk b13 (Is (sz l j)):: .blk b5 [I (g.at_:Int),I (g.n:Int)]:: .blk b4 [.func (.func 275) #[.pointer (some ⟨b3,0,none⟩)] #[]]:: .blk b1 [.slice a l.length c]::σf4):=hs.sb
   refine .o (.o8 (first:=[.pointer (some ⟨b3,0,none⟩)]) (cap:=[]) rfl rfl Tryz.call275 (ox (from_:=g.at_) (xs:=[18*A,18*A]) hs hKl r41 (by simp;omega) ak ak ak) ?_);rintro _ w hs
   rw [←hK] at hs
   refine .nil ?_
   refine .exit ?_
   refine xT (xB ?_)
   exact ⟨H3,_,hle3,(hs.sb:St H3 w (.blk b3 _:: .blk b13 _:: .blk b4 _:: .blk b1 _::σf4)),rfl⟩
  ·refine .skip ?_
   refine nT ?_
   refine .seq (.draw mix rfl hs fun w hs=>?_)
   have h2:g.two=true:=by
    cases e:g.two with
    |true=>rfl
    |false=>simp [Grp.n,e] at hc33
   obtain ⟨j1,j2,j3,j4⟩:=i4 h2
   have hq2:=hp.bd (i:=g.at_+2) ak
   generalize hB:gi l (g.at_+2) - gi l (g.at_+1)=B at*
   have hmx:=Aq (a:=A) (b:=B) ak ak
   have hk:=Ar j4
   have hmm:=uG (a:=A) (b:=B) ⟨ak,ak⟩ ⟨ak,ak⟩
   obtain ⟨n1,n2,n3,n4⟩:=yO hk hmm.1 hmm.2
   obtain ⟨n5,n6,n7,n8,n9⟩:=n4 _ n3.1 n3.2
   generalize hT:tms A B=T at*
   generalize hM:min A B=M at*
   have hgw:=yP h2 hA hB hT hM
   refine .y 0 rfl hs an ?_;refine .z 1 rfl (zfa fE) ?_;refine .y 2 rfl hs af ?_;refine .z 3 rfl ck ?_
   refine .ixX (enc:=fun x=>[I x]) (i:=4) hs rfl au .none hr2 rfl rfl ae ai (bn (l:=l) (i:=(g.at_+2)) ak) cD ?_;intro b47 o47 hc47;replace hc47:=bu.one hc47
   refine .r (i:=5) hs rfl au .none (aJ rfl af hc47) ?_
   refine .y 6 rfl hs an ?_;refine .z 7 rfl (zfa fE) ?_;refine .y 8 rfl hs af ?_;refine .z 9 rfl ck ?_
   refine .ixX (enc:=fun x=>[I x]) (i:=10) hs rfl au .none hr2 rfl rfl ae ai (bn (l:=l) (i:=(g.at_+1)) ak) cD ?_;intro b53 o53 hc53;replace hc53:=bu.one hc53
   refine .r (i:=11) hs rfl au .none (aJ rfl af hc53) ?_
   refine .z 12 rfl gL ?_
   rw [hB]
   refine .z 13 rfl zg ?_;refine .D hs ?_
   refine .aj (.z zm (.z zm ?_))
   refine .o (.call Tryz.call277 rfl (hZ hs ak ak) ?_);rintro _ w ⟨rfl,hs⟩
   refine .z zm (.z zm ?_)
   refine .o (.call Tryz.call277 rfl (hZ hs ak ak) ?_);rintro _ w ⟨rfl,hs⟩
   refine .z Dd ?_
   rw [←hmx]
   refine .z zg (.nil (.aj (.z zm ?_)))
   refine .q hs (te rfl rfl ak ak) ?_
   refine .z zm (.z ck (.z jS (.z zm (.z zm (.z zr ?_)))))
   rw [hM]
   refine .z jS (.z zg (.nil (.aj (.z zm (.z zm (.z jS (.z zm (.z gL (.z jS ?_)))))))))
   refine .z zm (.z zm (.z ck (.z jS (.z zm (.z ck (.z jS (.z zm (.z zm (.z jS ?_)))))))))
   refine .z gL (.z jS ?_)
   refine .o (.buildSlice (cells:=[_,_,_]) hs xk rfl rfl fun b90 w hs=>?_)
   refine .z zg (.nil ?_)
   refine .cut (fun fs w=>∃H3,kg fs ⟨103,[],[(10,.slice (some ⟨b90,0,none⟩) 3 3),(5,.pointer (some ⟨b5,0,none⟩)),(4,.pointer (some ⟨b4,0,none⟩)),(3,.pointer (some ⟨b3,0,none⟩)),(1,.pointer (some ⟨b1,0,none⟩))]⟩∧HLe H2 H3∧RI H3 (.slice (some ⟨b90,0,none⟩) 3 3) (ue l g)∧St H3 w (.blk b3 [.slice (some ⟨b13,0,none⟩) l.length l.length]:: .blk b13 (Is (sz l j)):: .blk b5 [I (g.at_:Int),I (g.n:Int)]:: .blk b4 [.func (.func 275) #[.pointer (some ⟨b3,0,none⟩)] #[]]:: .blk b1 [.slice a l.length c]::σf4)) ?_ ?_
   ·refine .aj (.z zm (.z zm (.z kD (.nil ?_))))
    refine (.bB rfl (fun hc93=>?_) (fun hc93=>?_))
    ·refine .region (.z zm ?_)
     refine .o (.call Tryz.call128 rfl (kO (en:= .blk b90 (Is [(6:Int).tdiv T*(1+T)*M*T*(2 - T),(6:Int).tdiv T*(1+T)*M*(1+T)*(1+T),(6:Int).tdiv T*(1+T)*M*(2*T - 1)])) (hs.sb:St H2 w (.blk b90 _:: .blk b3 _:: .blk b13 _:: .blk b5 _:: .blk b4 _:: .blk b1 _::σf4)) (.full rfl) bL) ?_);rintro _ w ⟨en95,hO95,hs⟩
     refine .nil ?_
     refine nT ?_
     obtain ⟨H3,hle3,r90,hs⟩:=cf.de hO95 bL hs .here
     rw [if_pos hc93] at hgw
     rw [hgw]
     exact ⟨H3,aR,hle3,r90,hs⟩
    ·refine .skip ?_
     refine nT ?_
     obtain ⟨H3,hle3,r90,hs⟩:=cf.de (xs:=[(6:Int).tdiv T*(1+T)*M*T*(2 - T),(6:Int).tdiv T*(1+T)*M*(1+T)*(1+T),(6:Int).tdiv T*(1+T)*M*(2*T - 1)]) (v:= .slice (some ⟨b90,0,none⟩) 3 3) (.full (len:=3) rfl) bL hs cP
     rw [if_neg ak] at hgw
     rw [hgw]
     exact ⟨H3,aR,hle3,r90,hs.sb⟩
   ·rintro fs w ⟨H3,hfs,hle3,r90,hs⟩
    refine WE.sub ?_ hfs
    refine .region ?_
    refine .y hs (zld Tryz.isAgg295) ?_
    refine .z (zfa fE) (.y hs (zld af) (.z zm ?_))
    refine .o (.o8 (first:=[.pointer (some ⟨b3,0,none⟩)]) (cap:=[]) rfl rfl Tryz.call275 (ox (from_:=g.at_) (xs:=ue l g) hs hKl r90 (by rw [yR,show g.n=2 by unfold Grp.n;rw [h2];rfl];omega) ak ak ak) ?_);rintro _ w hs
    rw [←hK] at hs
    refine .nil ?_
    refine nB ?_
    exact ⟨H3,_,hle3,(hs.sb:St H3 w (.blk b3 _:: .blk b13 _:: .blk b4 _:: .blk b1 _::σf4)),rfl⟩
 ·rintro D H2 σb2 w hle2 rfl hs
  rw [show (qa l).length=(lV l).length by simp [qa],yq] at hs
  replace hs:St H2 w (.obj D (.deferred (some [])):: .blk b3 [.slice (some ⟨b13,0,none⟩) l.length l.length]:: .blk b13 (Is (wts l)):: .blk b4 [.func (.func 275) #[.pointer (some ⟨b3,0,none⟩)] #[]]:: .blk b1 [.slice a l.length c]::σ):=hs
  refine nB (nT ?_)
  refine .aj (.z (zfa oz) (.y hs (zld an) (.z zg (.nil ?_))))
  refine .ret ?_
  obtain ⟨H3,hle3,hR,hs⟩:=cf.de (xs:=wts l) (v:= .slice (some ⟨b13,0,none⟩) l.length l.length) (.full (by simp [Is,eu])) (by rw [eu];omega) hs cP
  exact Fin.iA [D] [] hs fun w hs=>⟨_,results1 Tryz.results248 rfl,H3,hle1.trans (hle2.trans hle3),hR,hs.out⟩
def wi(X Y:List Int)(i:Nat):List Int:=(List.range Y.length).map fun k=>gi X i*gi Y k
def lW(X Y:List Int)(i:Nat):List (List Int):=(List.range i).map (wi X Y)
theorem jb(X Y:List Int)(i:Nat):(wi X Y i).length=Y.length:=by simp [wi]
theorem ju(X Y:List Int)(i:Nat):(lW X Y i).length=i:=by simp [lW]
theorem uM(X Y:List Int)(i:Nat):lW X Y (i+1)=lW X Y i++[wi X Y i]:=by simp [lW,List.range_succ]
theorem wI{X Y:List Int}{i k:Nat}(hk:k<Y.length):(wi X Y i).take (k+1)=(wi X Y i).take k++[gi X i*gi Y k]:=by
 rw [dh (by simp [wi,hk]:(wi X Y i)[k]? =some (gi X i*gi Y k))]
theorem vI{X Y:List Int}{n i:Nat}(h:i<n):gr (lW X Y n) i=wi X Y i:=by simp [gr,List.getD,lW,h]
theorem yT{X Y:List Int}{n i k:Nat}(h:i<n)(hk:k<Y.length):gt (lW X Y n) i k=gi X i*gi Y k:=by
 unfold gt;rw [vI h];simp [gi,List.getD,wi,hk]
inductive GrS(X Y:List Int)(b:Nat)(i k:Nat)(H:bX)(σ:List Ent):Prop
 |go (us:List Value) (v:Value) (en:Ent) (h:i<X.length) (h1:RLs H us (lW X Y i)) (h2:cf 1 v (Is ((wi X Y i).take k)) en) (h3:σ=[.blk b (us++v::List.replicate (X.length - i - 1) (.slice none 0 0)),en])
 |fin (us:List Value) (h:i=X.length) (h1:RLs H us (lW X Y i)) (h3:σ=[.blk b us])
theorem GrS.mono{X Y:List Int}{b i k:Nat}{H H':bX}{σ:List Ent}(h:GrS X Y b i k H σ)(hl:HLe H H'):GrS X Y b i k H' σ:=by
 cases h with
 |go us v en h h1 h2 h3=>exact .go us v en h (h1.mono hl) h2 h3
 |fin us h h1 h3=>exact .fin us h (h1.mono hl) h3
theorem kM{v:Value}{l:List Int}(hs:St H w σ)(hr:RI H v l):
  Cl Tryz.prog 273 [v] w fun u w'=>∃H1 vo e,HLe H H1∧u= .tuple #[vo,I e]∧(eI 9 100000 l→e=0∧RI H1 vo (wts l))∧St H1 w' σ:=by
 obtain ⟨a,c,rfl⟩:=RI.shape hr
 refine Cl.o Tryz.func273 Tryz.ntmps273 ag1 ?_
 refine .aj (.z zg (.z zg (.nil (.seq (.aj (.z zm ?_))))))
 refine .o (.call Tryz.call294 rfl (mG hs hr) ?_);rintro _ w ⟨e,rfl,he,hs⟩
 refine .z zg (.nil (.aj (.z zm (.z gx (.nil ?_)))))
 refine (.eH rfl (fun hc8=>?_) (fun hc8=>?_))
 ·refine .aj (.z zm (.z zg (.z zg (.nil ?_))))
  refine .ret (rT (Fin.lq Tryz.results273 rfl rfl ?_))
  exact ⟨H,_,_,HLe.refl H,rfl,fun h=>by rcases he with ⟨_,h2⟩|⟨h1,_⟩;exact (hc8 h2).elim;exact (h1 h).elim,hs⟩
 ·refine .skip ?_
  refine nT ?_
  refine .aj (.z zm ?_)
  have hp:eI 9 100000 l:=by rcases he with ⟨h,_⟩|⟨_,h2⟩;exact h;exact (h2 (by simpa using hc8)).elim
  refine .o (.call Tryz.call248 rfl (iH hs hr hp) ?_);rintro v11 w ⟨H1,hle1,hR,hs⟩
  refine .z zg (.z zg (.nil ?_))
  refine .ret (Fin.lq Tryz.results273 rfl rfl ?_)
  exact ⟨H1,_,_,hle1,rfl,fun _=>⟨rfl,hR⟩,hs⟩
theorem qz{v1 v2:Value}{a b:List Int}(hs:St H w σ)(h1:RI H v1 a)(h2:RI H v2 b):
  Cl Tryz.prog 191 [v1,v2] w fun u w'=>∃bb:Bool,u= .bool bb∧(bb=true↔eI 9 100000 a∧eI 7 15000 b)∧St H w' σ:=by
 refine Cl.o Tryz.func191 Tryz.ntmps191 ag2 ?_
 refine .aj (.z zg (.nil (.aj (.z zm ?_))))
 refine .o (.call Tryz.call247 rfl (gR (many:=9) (most:=100000) hs h1) ?_);rintro _ w ⟨b6,rfl,hb6,hs⟩
 refine .z zm ?_
 refine .bif (t':=7) rfl (fun hb7=>?_) (fun hb7=>?_)
 ·refine .gT rfl rfl ?_
  refine .z zm ?_
  refine .gT rfl rfl ?_
  refine .o (.call Tryz.call247 rfl (gR (many:=7) (most:=15000) hs h2) ?_);rintro _ w ⟨b9,rfl,hb9,hs⟩
  refine .z zpT (.z zg (.nil ?_))
  refine .ret (Fin.bH Tryz.results191 rfl ?_)
  exact ⟨_,rfl,by rw [hb9];exact ⟨fun h=>⟨hb6.1 hb7,h⟩,fun h=>h.2⟩,hs⟩
 ·refine .gFs 2 2 true rfl rfl rfl ?_
  refine .z zpF (.z zg (.nil ?_))
  refine .ret (Fin.bH Tryz.results191 rfl ?_)
  exact ⟨_,rfl,⟨fun h=>(by cases h),fun h=>by rw [hb6.2 h.1] at hb7;cases hb7⟩,hs⟩
theorem nR{bx by_:Nat}{x y:Int}(hs:St H w σ)(hx:Row H bx [I x])(hy:Row H by_ [I y]):
  Cl Tryz.prog 279 [.pointer (some ⟨bx,0,none⟩),.pointer (some ⟨by_,0,none⟩)] w fun u w'=>u= .tuple #[I x,I y]∧St H w' σ:=by
 have hx0:=hx.at 0
 have hy0:=hy.at 0
 refine Cl.o Tryz.func279 Tryz.ntmps279 ag2 ?_
 refine .aj (.z zg (.z zg (.nil ?_)))
 refine .seq (.draw mix rfl hs fun w hs=>?_)
 refine .y 0 rfl hs af ?_;refine .y 1 rfl hs af ?_;refine .z 2 rfl zg ?_;refine .z 3 rfl zg ?_;refine .D hs ?_
 refine .ret (Fin.lq Tryz.results279 rfl rfl ?_)
 exact ⟨rfl,hs⟩
def PrE(X Y:List Int)(p:Nat)(H:bX)(z:List Value):Prop:=
 ∃bx by_,z=[.agg #[I ((p/Y.length:Nat):Int),I ((p%Y.length:Nat):Int)],.func (.func 279) #[] #[.pointer (some ⟨bx,0,none⟩),.pointer (some ⟨by_,0,none⟩)]]∧Row H bx [I (gi X (p/Y.length))]∧Row H by_ [I (gi Y (p%Y.length))]
theorem py{H:bX}{b1 b2:Nat}{v1 v2:Value}{X Y:List Int}(hb1:Row H b1 [v1])(hb2:Row H b2 [v2])(hX:RI H v1 X)(hY:RI H v2 Y)(hXl:X.length≤1000)(hYl:Y.length≤1000):
  C6 Tryz.prog 278 [.pointer (some ⟨b1,0,none⟩),.pointer (some ⟨b2,0,none⟩)] H (X.length*Y.length) (PrE X Y):=by
 intro ly II Ix hmI _ hy H0 σb0 σf w hle hI0 hs
 obtain ⟨a1,c1,rfl⟩:=RI.shape hX
 obtain ⟨a2,c2,rfl⟩:=RI.shape hY
 have h01:cellAt H0 b1 0=some (.slice a1 X.length c1):=cellAt.mono (hb1.at 0) hle
 have h02:cellAt H0 b2 0=some (.slice a2 Y.length c2):=cellAt.mono (hb2.at 0) hle
 refine Cl.o Tryz.func278 Tryz.ntmps278 ag3 ?_
 refine .aj (.y hs (zld an) (.z (cB ae) (.z zm (.nil ?_))))
 refine .for (N:=X.length) (J:=fun i fr w=>fr=[(8,.slice a1 X.length c1),(0,.func (.yield ly) #[] #[]),(1,.pointer (some ⟨b1,0,none⟩)),(2,.pointer (some ⟨b2,0,none⟩))]∧∃H1 σb,HLe H H1∧HLe H0 H1∧II (i*Y.length) H1 σb∧St H1 w (σb++σf)) ak ?_ ?_ ?_
 ·exact .mk ⟨rfl,H0,σb0,hle,HLe.refl _,by rw [Nat.zero_mul];exact hI0,hs⟩
 ·rintro i fr w hi ⟨rfl,H1,σb,hle1,hle0,hI,hs⟩
  refine .block (.aj (.z zm ?_))
  refine .ixY hs (hX.mono hle1) rfl rfl ae ai (bn (l:=X) (i:=i) ak) cD ?_;intro b13 o13 hc13
  refine .q hs (aJ rfl af hc13) ?_
  refine .o (.alloc hs bJ rfl fun b5 w hs=>?_)
  refine .z zg ?_
  refine .o (.store hs rfl rfl ai fun w hs=>?_)
  refine .nil (.aj ?_)
  obtain ⟨H2,hle2,r5,hs⟩:=hs.cq (b:=b5) .here
  have h22:=cellAt.mono h02 (hle0.trans hle2)
  refine .y hs (zld an) (.z (cB ae) (.z zm (.nil ?_)))
  refine .for (N:=Y.length) (J:=fun k fr w=>fr=[(15,.slice a2 Y.length c2),(4,I (i:Int)),(10,I (i:Int)),(9,I (X.length:Int)),(5,.pointer (some ⟨b5,0,none⟩)),(8,.slice a1 X.length c1),(0,.func (.yield ly) #[] #[]),(1,.pointer (some ⟨b1,0,none⟩)),(2,.pointer (some ⟨b2,0,none⟩))]∧∃H3 σb,HLe H2 H3∧II (i*Y.length+k) H3 σb∧St H3 w (σb++σf)) ak ?_ ?_ ?_
  ·exact .mk ⟨rfl,H2,σb,HLe.refl _,hmI _ _ _ _ hle2 hI,hs⟩
  ·rintro k fr w hk ⟨rfl,H3,σb3,hle3,hI3,hs⟩
   have hle03:=hle0.trans (hle2.trans hle3)
   have hle13:=hle1.trans (hle2.trans hle3)
   refine .block (.aj (.z zm ?_))
   refine .ixY hs (hY.mono hle13) rfl rfl ae ai (bn (l:=Y) (i:=k) ak) cD ?_;intro b20 o20 hc20
   refine .q hs (aJ rfl af hc20) ?_
   refine .o (.alloc hs bJ rfl fun b7 w hs=>?_)
   refine .z zg ?_
   refine .o (.store hs rfl rfl ai fun w hs=>?_)
   refine .nil (.aj (.z zm (.z zm (.z zm ?_))))
   refine .q hs (Cr (vs:=[(0,I (i:Int)),(1,I (k:Int))]) (cells:=[I (i:Int),I (k:Int)]) Tryz.zeroValue90 rfl Tryz.runUnderlying90 ai rfl) ?_
   refine .q hs (du (f:=[]) (c:=[_,_]) rfl rfl) ?_
   obtain ⟨H4,hle4,r7,hs⟩:=hs.cq (b:=b7) .here
   obtain ⟨d1,d2⟩:=DI (nw:=Y.length) (i:=i) (k:=k) hk
   have hlt:i*Y.length+k<X.length*Y.length:=by
    have:=Nat.mul_le_mul_right Y.length (show i+1≤X.length by omega)
    rw [Nat.add_mul,Nat.one_mul] at this;omega
   have hyd:=hy (i*Y.length+k) hlt [.agg #[I (i:Int),I (k:Int)],.func (.func 279) #[] #[.pointer (some ⟨b5,0,none⟩),.pointer (some ⟨b7,0,none⟩)]] H4 σb3 σf w (hle13.trans hle4) ⟨b5,b7,by rw [d1,d2],by rw [d1];exact r5.mono (hle3.trans hle4),by rw [d2];exact r7⟩ (hmI _ _ _ _ hle4 hI3) hs
   refine .o (.yield rfl rfl hyd ?_);rintro v27 w ⟨H5,σ5,g1,hs,g3⟩
   obtain ⟨bb,rfl,gT,gF⟩:=oG g3
   refine .z gV (.nil ?_)
   refine (.cond rfl (fun hc28=>?_) (fun hc28=>?_))
   ·refine .ret (rB (rT (rB (rB (rT (rB (Fin.EK Tryz.results278 ?_)))))))
    exact ⟨H5,σ5,hle03.trans (hle4.trans g1),hs,.inr (gF (by simpa using hc28))⟩
   ·refine .skip ?_
    refine nB (nT ?_)
    exact .mk ⟨rfl,H5,σ5,hle3.trans (hle4.trans g1),gT (by simpa using hc28),hs⟩
  ·rintro fr w ⟨rfl,H3,σb3,hle3,hI3,hs⟩
   refine nB (nT ?_)
   exact .mk ⟨rfl,H3,σb3,hle1.trans (hle2.trans hle3),hle0.trans (hle2.trans hle3),by rw [Nat.add_mul,Nat.one_mul];exact hI3,hs⟩
 ·rintro fr w ⟨rfl,H1,σb,hle1,hle0,hI,hs⟩
  exact Fin.xu Tryz.results278 ⟨H1,σb,hle0,hs,.inl hI⟩
theorem rD{v1 v2:Value}{X Y:List Int}(hs:St H w σ)(hX:RI H v1 X)(hY:RI H v2 Y)(hXl:X.length≤1000)(hYl:Y.length≤1000):
  Cl Tryz.prog 249 [v1,v2] w fun u w'=>∃H1 b1 b2,HLe H H1∧u= .func (.func 278) #[] #[.pointer (some ⟨b1,0,none⟩),.pointer (some ⟨b2,0,none⟩)]∧C6 Tryz.prog 278 [.pointer (some ⟨b1,0,none⟩),.pointer (some ⟨b2,0,none⟩)] H1 (X.length*Y.length) (PrE X Y)∧St H1 w' σ:=by
 obtain ⟨a1,c1,rfl⟩:=RI.shape hX
 obtain ⟨a2,c2,rfl⟩:=RI.shape hY
 refine Cl.o Tryz.func249 Tryz.ntmps249 ag2 ?_
 refine .aj ?_
 refine .bx hs fun b2 w hs=>?_
 refine .bx hs fun b3 w hs=>?_
 refine .z zg (.nil (.aj ?_))
 refine .q hs (du (f:=[]) (c:=[_,_]) rfl rfl) ?_
 refine .z zg (.nil ?_)
 refine .ret (Fin.bH Tryz.results249 rfl ?_)
 obtain ⟨H1,g1,r1,hs⟩:=hs.cq (b:=b2) cP
 obtain ⟨H2,g2,r2,hs⟩:=hs.cq (b:=b3) cP
 exact ⟨H2,b2,b3,g1.trans g2,rfl,py (r1.mono g2) r2 (hX.mono (g1.trans g2)) (hY.mono (g1.trans g2)) hXl hYl,hs⟩
set_option maxHeartbeats 1000000 in
theorem sD{v1 v2:Value}{l1 l2:List Int}(hs:St H w σ)(hr1:RI H v1 l1)(hr2:RI H v2 l2)(hp1:eI 9 100000 l1)(hp2:eI 7 15000 l2):
  Cl Tryz.prog 192 [v1,v2] w fun u w'=>∃H1,HLe H H1∧RT H1 u (lW (wts l1) (wts l2) l1.length)∧St H1 w' σ:=by
 obtain ⟨a1,c1,rfl⟩:=RI.shape hr1
 obtain ⟨a2,c2,rfl⟩:=RI.shape hr2
 have hn1:=hp1.many
 have hn2:=hp2.many
 have htw1:=hp1.two
 have htw2:=hp2.two
 have hp2':eI 9 100000 l2:=⟨hp2.two,ak,hp2.low,by have:=hp2.high;omega,hp2.rise⟩
 have hXl:=eu l1
 have hYl:=eu l2
 have hXb:=yp hp1
 have hYb:=yp hp2
 refine Cl.o Tryz.func192 Tryz.ntmps192 ag2 ?_
 refine .aj (.z zg (.nil (.aj (.z zm ?_))))
 refine .o (.call Tryz.call248 rfl (iH hs hr1 hp1) ?_);rintro v13 w ⟨H1,hle1,hX,hs⟩
 refine .z zm ?_
 refine .o (.call Tryz.call248 rfl (iH hs (hr2.mono hle1) hp2') ?_);rintro v15 w ⟨H2,hle2,hY,hs⟩
 replace hX:=hX.mono hle2
 generalize wts l1=X at*
 generalize wts l2=Y at*
 obtain ⟨aX,cX,rfl⟩:=RI.shape hX
 obtain ⟨aY,cY,rfl⟩:=RI.shape hY
 refine .z zg (.z zg (.nil (.aj (.z zm (.z (cB ae) ?_)))))
 refine .o (.DY l1.length hs rfl rfl aq Tryz.typeInfo22 rfl az dV ak fun b18 w hs=>?_)
 refine .o (.alloc hs Tryz.zeroValue61 rfl fun b7 w hs=>?_)
 refine .o (.store hs rfl rfl Tryz.sizeOf61 fun w hs=>?_)
 refine .nil (.seq (.aj (.z zm (.z zm ?_))))
 refine .o (.call Tryz.call249 rfl (rD hs hX hY ak ak) ?_);rintro _ w ⟨H3,bp1,bp2,hle3,rfl,hit,hs⟩
 have hle03:=hle1.trans (hle2.trans hle3)
 have h0:GrS X Y b18 0 0 H3 [.blk b18 (List.replicate l1.length (.slice none 0 0)),.nul]:=by
  refine .go [] (.slice none 0 0) .nul ak (RLs.nil _) (.nil 1 none) ?_
  rw [hXl]
  obtain ⟨m,hm⟩:∃m,l1.length=m+1:=⟨l1.length - 1,ak⟩
  rw [hm]
  rfl
 refine .nil (.block ?_)
 refine .Dm (gf:=278) (cap:=[.pointer (some ⟨bp1,0,none⟩),.pointer (some ⟨bp2,0,none⟩)]) (N:=X.length*Y.length) (E:=PrE X Y) (σb:= .blk b7 [.slice (some ⟨b18,0,none⟩) l1.length l1.length]::[.blk b18 (List.replicate l1.length (.slice none 0 0)),.nul]) (σf:=σ) (hs.nul.sb) trivial rfl hit Tryz.call278 (fun k H' z ⟨_,_,hz,_⟩=>by rw [hz];rfl) rfl
  (I:=fun p H' σb=>∃σ1,σb= .blk b7 [.slice (some ⟨b18,0,none⟩) l1.length l1.length]::σ1∧GrS X Y b18 (p/Y.length) (p%Y.length) H' σ1) (Ix:=fun _ _ _=>False)
  (fun j _ _ σ g1 ⟨σ1,g2,g3⟩=>⟨σ1,g2,g3.mono g1⟩) (fun _ _ _ _ _ h=>h) ⟨_,rfl,by rw [Nat.zero_div,Nat.zero_mod];exact h0⟩ ?_ ?_ (fun D c H' σb w _ h _=>h.elim)
 ·rintro ly p hp z H4 σb2 σf2 w hle4 ⟨bx,by_,rfl,rx,ry⟩ ⟨σ1,rfl,hG⟩ hs ⟨rr,hrr⟩
  have hnext:=yH (p:=p) (m:=Y.length) ak
  have hkm:=Nat.mod_lt p (show 0<Y.length by omega)
  have hin:p/Y.length<X.length:=Nat.div_lt_of_lt_mul (by rw [Nat.mul_comm];exact hp)
  generalize hi:p/Y.length=i at*
  generalize hk:p%Y.length=k at*
  cases hG with
  |fin us h=>omega
  |go us v en h h1 h2 h3=>
  subst h3
  obtain ⟨av,lv,cv,rfl,hlv⟩:=h2.shape
  have husl:us.length=i:=by rw [h1.1,ju]
  have hb1:=hXb i
  have hb2:=hYb k
  have hpr:=Dz (gi X i) (gi Y k)
  have hprb: -3456000000000≤gi X i*gi Y k∧gi X i*gi Y k≤3456000000000:=kr (A:=4800000) (B:=720000) (by unfold ab at hb1;omega) (by unfold ab at hb2;omega)
  refine .aj ?_
  refine .o (.alloc hs Tryz.zeroValue90 rfl fun b8 w hs=>?_)
  refine .o (.aZ (vs:=[_,_]) hs rfl rfl Tryz.sizeOf90 fun w hs=>?_)
  refine .nil (.region (.z zg (.nil ?_)))
  refine nT ?_
  refine ⟨H4,[.blk b8 [I (i:Int),I (k:Int)],.blk b7 [.slice (some ⟨b18,0,none⟩) l1.length l1.length],.blk b18 (us++Value.slice av lv cv::List.replicate (X.length - i - 1) (Value.slice none 0 0)),en],HLe.refl _,hs,?_⟩;rintro w σf4 - hs
  refine .block (.aj (.z zm ?_))
  refine .o (.o8 (first:=[]) (cap:=[.pointer (some ⟨bx,0,none⟩),.pointer (some ⟨by_,0,none⟩)]) rfl rfl Tryz.call279 (nR hs rx ry) ?_);rintro _ w ⟨rfl,hs⟩
  refine .z zm (.z zex (.z zex (.z zg (.z zg (.nil ?_)))))
  refine .draw mix rfl hs fun w hs=>?_
  refine .y 0 rfl hs ep ?_
  refine .z 1 rfl (zia 0 Tryz.runUnderlying90 ai) ?_
  refine .y 2 rfl hs af ?_;refine .y 3 rfl hs ep ?_
  refine .z 4 rfl (zia 0 Tryz.runUnderlying90 ai) ?_
  refine .y 5 rfl hs af ?_
  refine .z 6 rfl (dH (k:=i) rfl rfl aq az rfl ak) ?_
  refine .load (i:=7) hs rfl au .none rfl an ?_ (hv:=by rw [List.getElem?_append_right ak,husl,Nat.sub_self];rfl)
  refine .z 8 rfl zm ?_;refine .z 9 rfl zm ?_;refine .z 10 rfl jS ?_
  refine .E 11 hs ?_
  refine .buildSlice (cells:=[_]) hs cQ rfl rfl ?_;intro b40 w hs
  refine .go ?_
  refine .E 12 hs ?_
  refine .append (ys:=Is [gi X i*gi Y k]) hs bZ rfl rfl h2 (.own .here rfl rfl) (gU _) (fun l' h=>by simp at h;omega) ?_;intro v41 en41 w hO hs
  rw [show Is ((wi X Y i).take k)++Is [gi X i*gi Y k]=Is ((wi X Y i).take (k+1)) by rw [wI hkm];simp [Is]] at hO
  obtain ⟨a41,l41,c41,rfl,hl41⟩:=hO.shape
  refine .go ?_
  refine .z 13 rfl (dH (k:=i) rfl rfl aq az rfl ak) ?_
  refine .E 14 hs ?_
  refine .store (c':=us++ .slice a41 l41 c41::List.replicate (X.length - i - 1) (.slice none 0 0)) hs rfl rfl az ?_ cP (by simp;omega) (by rw [List.set_append_right _ _ ak,husl,Nat.sub_self];rfl);intro w hs
  refine .go ?_
  refine .D hs ?_
  refine nB ?_
  rcases hnext with ⟨g1,g2,g3⟩|⟨g1,g2,g3⟩
  ·exact ⟨H4,[.blk b7 [.slice (some ⟨b18,0,none⟩) l1.length l1.length],.blk b18 (us++ .slice a41 l41 c41::List.replicate (X.length - i - 1) (.slice none 0 0)),en41],HLe.refl _,(hs.sb:St H4 w (.blk b7 _:: .blk b18 _::en41::σf4)),_,rfl,by rw [g2,g3];exact .go us _ en41 h h1 hO rfl⟩
  ·obtain ⟨H5,hle5,hR,hs⟩:=cf.de hO (by rw [List.length_take,jb];omega) hs cP
   rw [List.take_of_length_le (by rw [jb];omega)] at hR
   have h1':RLs H5 (us++[.slice a41 l41 c41]) (lW X Y (i+1)):=by rw [uM];exact (h1.mono hle5).snoc hR
   by_cases e:i+1<X.length
   ·refine ⟨H5,[.blk b7 [.slice (some ⟨b18,0,none⟩) l1.length l1.length],.blk b18 (us++ .slice a41 l41 c41::List.replicate (X.length - i - 1) (.slice none 0 0)),.nul],hle5,(hs.nul.sb:St H5 w (.blk b7 _:: .blk b18 _:: .nul::σf4)),_,rfl,?_⟩
    rw [g2,g3]
    refine .go (us++[.slice a41 l41 c41]) (.slice none 0 0) .nul e h1' (.nil 1 none) ?_
    obtain ⟨m,hm⟩:∃m,X.length - i - 1=m+1:=⟨X.length - i - 2,ak⟩
    rw [hm,show X.length - (i+1) - 1=m by omega,List.append_assoc]
    rfl
   ·refine ⟨H5,[.blk b7 [.slice (some ⟨b18,0,none⟩) l1.length l1.length],.blk b18 (us++ .slice a41 l41 c41::List.replicate (X.length - i - 1) (.slice none 0 0))],hle5,(hs.sb:St H5 w (.blk b7 _:: .blk b18 _::σf4)),_,rfl,?_⟩
    rw [g2,g3]
    refine .fin (us++[.slice a41 l41 c41]) ak h1' ?_
    rw [show X.length - i - 1=0 by omega]
    rfl
 ·rintro D H4 σb2 w hle4 ⟨σ1,rfl,hG⟩ hs
  rw [Nat.mul_div_cancel _ ak,Nat.mul_mod_left] at hG
  cases hG with
  |go us v en h=>omega
  |fin us h h1 h3=>
  subst h3
  replace hs:St H4 w (.obj D (.deferred (some [])):: .blk b7 [.slice (some ⟨b18,0,none⟩) l1.length l1.length]:: .blk b18 us::σ):=hs
  have husl:us.length=l1.length:=by rw [h1.1,ju,hXl]
  refine nB (nT ?_)
  refine .aj (.y hs (zld ep) (.z zg (.nil ?_)))
  refine .ret ?_
  obtain ⟨H5,hle5,hR,hs⟩:=h1.cq (v:= .slice (some ⟨b18,0,none⟩) l1.length l1.length) (en:= .blk b18 us) (.full (by simp [husl])) ak hs cP
  rw [hXl] at hR
  exact Fin.iA [D] [] hs fun w hs=>⟨_,results1 Tryz.results192 rfl,H5,hle03.trans (hle4.trans hle5),hR,hs.out⟩
theorem mU{v1 v2:Value}{l1 l2:List Int}(hs:St H w σ)(hr1:RI H v1 l1)(hr2:RI H v2 l2):
  Cl Tryz.prog 104 [v1,v2] w fun u w'=>∃H1 vo e,HLe H H1∧u= .tuple #[vo,I e]∧(eI 9 100000 l1∧eI 7 15000 l2→e=0∧RT H1 vo (lW (wts l1) (wts l2) l1.length))∧(e=0→eI 9 100000 l1∧eI 7 15000 l2)∧St H1 w' σ:=by
 refine Cl.o Tryz.func104 Tryz.ntmps104 ag2 ?_
 refine .aj (.z zg (.z zg (.nil (.seq (.aj (.z zm (.z zm ?_)))))))
 refine .o (.call Tryz.call191 rfl (qz hs hr1 hr2) ?_);rintro _ w ⟨b8,rfl,hb8,hs⟩
 refine .z gV (.nil ?_)
 refine (.cond rfl (fun hc9=>?_) (fun hc9=>?_))
 ·refine .aj (.z zg (.z zg (.nil ?_)))
  refine .ret (rT (Fin.lq Tryz.results104 rfl rfl ?_))
  exact ⟨H,_,_,HLe.refl H,rfl,fun h=>(by rw [hb8.2 h] at hc9;cases hc9),fun h=>ak,hs⟩
 ·refine .skip ?_
  refine nT ?_
  refine .aj (.z zm (.z zm ?_))
  have hp:=hb8.1 (by simpa using hc9)
  refine .o (.call Tryz.call192 rfl (sD hs hr1 hr2 hp.1 hp.2) ?_);rintro v12 w ⟨H1,hle1,hR,hs⟩
  refine .z zg (.z zg (.nil ?_))
  refine .ret (Fin.lq Tryz.results104 rfl rfl ?_)
  exact ⟨H1,_,_,hle1,rfl,fun _=>⟨rfl,hR⟩,fun _=>hp,hs⟩
theorem E5{many:Nat}{most:Int}{l:List Int}(h2:2≤l.length)(hm:l.length≤many)(h:∀j<l.length,0≤gi l j∧gi l j≤most∧(0<j→gi l (j - 1)<gi l j)):eI many most l:=
 ⟨h2,hm,(h 0 ak).1,(h (l.length - 1) ak).2.1,fun i hi=>by have:=(h (i+1) hi).2.2 ak;rwa [Nat.add_sub_cancel] at this⟩
theorem q9{many:Nat}{most:Int}{l:List Int}(h:eI many most l){j:Nat}(hj:j<l.length):0≤gi l j∧gi l j≤most∧(0<j→gi l (j - 1)<gi l j):=
 ⟨(h.bd hj).1,(h.bd hj).2,fun h0=>by have:=h.rise (j - 1) ak;rwa [Nat.sub_add_cancel h0] at this⟩
theorem jc{v:Value}{l:List Int}{many:Nat}{most:Int}(hs:St H w σ)(hr:RI H v l)(hmany:many≤1000):
  Cl Tryz.prog 168 [v,I many,I most] w fun u w'=>∃b:Bool,u= .bool b∧(b=true↔eI many most l)∧St H w' σ:=by
 obtain ⟨a,c,rfl⟩:=RI.shape hr
 have hlen:=(RI.len hr).2.2
 refine Cl.o Tryz.func168 Tryz.ntmps168 ag3 ?_
 refine .aj (.z zg (.nil (.seq (.aj (.z zm (.z (cB ae) (.z fH (.z zm ?_))))))))
 refine .iD (t':=11) rfl (fun hb11=>?_) (fun hb11=>?_)
 ·refine .gFs 4 3 false rfl rfl rfl ?_
  refine .z zpT (.nil ?_)
  refine (.cT ?_)
  refine .aj (.z zg (.nil ?_))
  refine .ret (rT (Fin.bH sc rfl ?_))
  exact ⟨false,rfl,⟨fun h=>(by cases h),fun h=>by have:=h.two;omega⟩,hs⟩
 ·refine .gT rfl rfl ?_
  refine .z zm ?_
  refine .gT rfl rfl ?_
  refine .z (cB ae) ?_
  refine .gT rfl rfl ?_
  refine .z zm ?_
  refine .gT rfl rfl ?_
  refine .z kD (.z zpF (.nil ?_))
  refine (.bB rfl (fun hc16=>?_) (fun hc16=>?_))
  ·refine .aj (.z zg (.nil ?_))
   refine .ret (rT (Fin.bH sc rfl ?_))
   exact ⟨false,rfl,⟨fun h=>(by cases h),fun h=>by have:=h.many;omega⟩,hs⟩
  ·refine .skip ?_
   refine nT ?_
   refine .seq (.aj (.z zg (.nil (.block ?_))))
   refine .loop (fun k:Nat=>⟨52,[],[(7,I (k:Int)),(0,.slice a l.length c),(1,I (many:Int)),(2,I most)]⟩)
    (fun k w=>k≤l.length∧(∀j<k,0≤gi l j∧gi l j≤most∧(0<j→gi l (j - 1)<gi l j))∧St H w σ) (fun k=>l.length - k) 0 (.bU rfl bL aR)
    ⟨Nat.zero_le _,fun j hj=>by omega,hs⟩ ?_
   rintro k w ⟨hk,hno,hs⟩
   refine .seq (.aj (.z zm (.z zm (.z (cB ae) (.z fH (.nil ?_))))))
   refine (.bB rfl (fun hc20=>?_) (fun hc20=>?_))
   ·refine .skip ?_
    refine nT ?_
    refine .seq (.block ?_)
    refine .seq (.draw mix rfl hs fun w hs=>?_)
    refine .z 0 rfl zm ?_;refine .z 1 rfl zm ?_
    refine .ixX (enc:=fun x=>[I x]) (i:=2) hs rfl au .none hr rfl rfl ae ai (bn (l:=l) (i:=k) ak) cD ?_;intro b25 o25 hc25;replace hc25:=bu.one hc25
    refine .r (i:=3) hs rfl au .none (aJ rfl af hc25) ?_
    refine .z 4 rfl fH ?_;refine .z 5 rfl zm ?_
    refine .iD (t':=28) rfl (fun hb28=>?_) (fun hb28=>?_)
    ·refine .qF (i:=6) rfl au rfl rfl ?_
     refine .qF (i:=7) rfl au rfl rfl ?_
     refine .qF (i:=8) rfl au rfl rfl ?_
     refine .qF (i:=9) rfl au rfl rfl ?_
     refine .qF (i:=10) rfl au rfl rfl ?_
     refine .qF (i:=11) rfl au rfl rfl ?_
     refine .z 12 rfl zpT ?_;refine .z 13 rfl zm ?_
     refine .qF (i:=14) rfl au rfl rfl ?_
     refine .qF (i:=15) rfl au rfl rfl ?_
     refine .qF (i:=16) rfl au rfl rfl ?_
     refine .qF (i:=17) rfl au rfl rfl ?_
     refine .qF (i:=18) rfl au rfl rfl ?_
     refine .qF (i:=19) rfl au rfl rfl ?_
     refine .qF (i:=20) rfl au rfl rfl ?_
     refine .qF (i:=21) rfl au rfl rfl ?_
     refine .qF (i:=22) rfl au rfl rfl ?_
     refine .qF (i:=23) rfl au rfl rfl ?_
     refine .qF (i:=24) rfl au rfl rfl ?_
     refine .qF (i:=25) rfl au rfl rfl ?_
     refine .qF (i:=26) rfl au rfl rfl ?_
     refine .qF (i:=27) rfl au rfl rfl ?_
     refine .z 28 rfl zpT ?_;refine .D hs ?_
     refine (.cT ?_)
     refine .aj (.z zg (.nil ?_))
     refine .ret (rB (rT (rT (rB (rT (Fin.bH sc rfl ?_))))))
     exact ⟨false,rfl,⟨fun h=>(by cases h),fun h=>by have:=q9 h (j:=k) ak;omega⟩,hs⟩
    ·refine .z 6 rfl zm ?_;refine .z 7 rfl zm ?_
     refine .ixX (enc:=fun x=>[I x]) (i:=8) hs rfl au (.some rfl rfl) hr rfl rfl ae ai (bn (l:=l) (i:=k) ak) cD ?_;intro b31 o31 hc31;replace hc31:=bu.one hc31
     refine .r (i:=9) hs rfl au (.some rfl rfl) (aJ rfl af hc31) ?_
     refine .z 10 rfl zm ?_;refine .z 11 rfl kD ?_;refine .z 12 rfl zpF ?_;refine .z 13 rfl zm ?_
     refine .iD (t':=36) rfl (fun hb36=>?_) (fun hb36=>?_)
     ·refine .qF (i:=14) rfl au rfl rfl ?_
      refine .qF (i:=15) rfl au rfl rfl ?_
      refine .qF (i:=16) rfl au rfl rfl ?_
      refine .qF (i:=17) rfl au rfl rfl ?_
      refine .qF (i:=18) rfl au rfl rfl ?_
      refine .qF (i:=19) rfl au rfl rfl ?_
      refine .qF (i:=20) rfl au rfl rfl ?_
      refine .qF (i:=21) rfl au rfl rfl ?_
      refine .qF (i:=22) rfl au rfl rfl ?_
      refine .qF (i:=23) rfl au rfl rfl ?_
      refine .qF (i:=24) rfl au rfl rfl ?_
      refine .qF (i:=25) rfl au rfl rfl ?_
      refine .qF (i:=26) rfl au rfl rfl ?_
      refine .qF (i:=27) rfl au rfl rfl ?_
      refine .z 28 rfl zpT ?_;refine .D hs ?_
      refine (.cT ?_)
      refine .aj (.z zg (.nil ?_))
      refine .ret (rB (rT (rT (rB (rT (Fin.bH sc rfl ?_))))))
      exact ⟨false,rfl,⟨fun h=>(by cases h),fun h=>by have:=q9 h (j:=k) ak;omega⟩,hs⟩
     ·refine .z 14 rfl zm ?_;refine .z 15 rfl kD ?_;refine .z 16 rfl zm ?_
      refine .iD (t':=39) rfl (fun hb39=>?_) (fun hb39=>?_)
      ·refine .z 17 rfl zm ?_;refine .z 18 rfl zm ?_;refine .z 19 rfl gL ?_
       refine .ixX (enc:=fun x=>[I x]) (i:=20) hs rfl au (.some rfl rfl) hr rfl rfl ae ai (bn (l:=l) (i:=(k-1)) ak) cD ?_;intro b43 o43 hc43;replace hc43:=bu.one hc43
       refine .r (i:=21) hs rfl au (.some rfl rfl) (aJ rfl af hc43) ?_
       refine .z 22 rfl zm ?_;refine .z 23 rfl zm ?_
       refine .ixX (enc:=fun x=>[I x]) (i:=24) hs rfl au (.some rfl rfl) hr rfl rfl ae ai (bn (l:=l) (i:=k) ak) cD ?_;intro b47 o47 hc47;replace hc47:=bu.one hc47
       refine .r (i:=25) hs rfl au (.some rfl rfl) (aJ rfl af hc47) ?_
       refine .z 26 rfl xt ?_;refine .z 27 rfl zpT ?_;refine .z 28 rfl zpF ?_;refine .D hs ?_
       refine (.bB rfl (fun hc51=>?_) (fun hc51=>?_))
       ·refine .aj (.z zg (.nil ?_))
        refine .ret (rB (rT (rT (rB (rT (Fin.bH sc rfl ?_))))))
        exact ⟨false,rfl,⟨fun h=>(by cases h),fun h=>by have:=q9 h (j:=k) ak;omega⟩,hs⟩
       ·refine .skip ?_
        refine nB (nT ?_)
        refine .region (.z zm (.z ck (.z zg (.nil ?_))))
        refine nT ?_
        exact ⟨k+1,.bU rfl bL aR,⟨ak,fun j hj=>by
         by_cases e:j=k
         ·subst e;exact ⟨ak,ak,fun _=>by omega⟩
         ·exact hno j ak,hs⟩,ak⟩
      ·refine .qF (i:=17) rfl au rfl rfl ?_
       refine .qF (i:=18) rfl au rfl rfl ?_
       refine .qF (i:=19) rfl au rfl rfl ?_
       refine .qF (i:=20) rfl au rfl rfl ?_
       refine .qF (i:=21) rfl au rfl rfl ?_
       refine .qF (i:=22) rfl au rfl rfl ?_
       refine .qF (i:=23) rfl au rfl rfl ?_
       refine .qF (i:=24) rfl au rfl rfl ?_
       refine .qF (i:=25) rfl au rfl rfl ?_
       refine .qF (i:=26) rfl au rfl rfl ?_
       refine .z 27 rfl zpF ?_;refine .z 28 rfl zpF ?_;refine .D hs ?_
       refine (.cF ?_)
       refine .skip ?_
       refine nB (nT ?_)
       refine .region (.z zm (.z ck (.z zg (.nil ?_))))
       refine nT ?_
       exact ⟨k+1,.bU rfl bL aR,⟨ak,fun j hj=>by
        by_cases e:j=k
        ·subst e;exact ⟨ak,ak,fun _=>by omega⟩
        ·exact hno j ak,hs⟩,ak⟩
   ·refine .exit ?_
    refine xT (xT (xB (nT ?_)))
    refine .aj (.z zg (.nil ?_))
    refine .ret (Fin.bH sc rfl ?_)
    exact ⟨true,rfl,⟨fun _=>E5 ak ak fun j hj=>hno j ak,fun _=>rfl⟩,hs⟩
theorem gn{v:Value}{l:List Int}(hs:St H w σ)(hr:RI H v l):
  Cl Tryz.prog 84 [v] w fun u w'=>∃e,u=I e∧((eI 9 100000 l∧e=0)∨(¬eI 9 100000 l∧e≠0))∧St H w' σ:=by
 refine Cl.o Tryz.func84 Tryz.ntmps84 ag1 ?_
 refine .aj (.z zg (.nil (.seq (.aj (.z zm ?_)))))
 refine .o (.call Tryz.call168 rfl (jc (many:=9) (most:=100000) hs hr ak) ?_);rintro _ w ⟨b4,rfl,hb4,hs⟩
 refine .z gV (.nil ?_)
 refine (.cond rfl (fun hc5=>?_) (fun hc5=>?_))
 ·refine .aj (.z zg (.nil ?_))
  refine .ret (rT (Fin.bH Tryz.results84 rfl ?_))
  exact ⟨_,rfl,.inr ⟨fun h=>by simp [hb4.2 h] at hc5,by decide⟩,hs⟩
 ·refine .skip ?_
  refine nT ?_
  refine .aj (.z zg (.nil ?_))
  refine .ret (Fin.bH Tryz.results84 rfl ?_)
  exact ⟨_,rfl,.inl ⟨hb4.1 (by simpa using hc5),rfl⟩,hs⟩
theorem Dh{a b k:Int}(hk:1≤k∧k≤3)(h:a*k=b∨b*k=a)(hno:∀j:Int,1≤j→j<k→¬(a*j=b∨b*j=a)):tms a b=k:=by
 have h3:k=1∨k=2∨k=3:=by omega
 unfold tms
 rcases h3 with rfl|rfl|rfl
 ·rw [if_pos ak]
 ·have:=hno 1 ak ak
  rw [if_neg ak,if_pos h]
 ·have:=hno 1 ak ak
  have:=hno 2 ak ak
  rw [if_neg ak,if_neg this,if_pos h]
theorem EG{a b:Int}(hno:∀j:Int,1≤j→j<4→¬(a*j=b∨b*j=a)):tms a b=0:=by
 have:=hno 1 ak ak
 have h2:=hno 2 ak ak
 have h3:=hno 3 ak ak
 unfold tms
 rw [if_neg ak,if_neg h2,if_neg h3]
theorem mv{a b:Int}(hs:St H w σ)(ha:0≤a∧a≤100000)(hb:0≤b∧b≤100000):
  Cl Tryz.prog 281 [I a,I b] w fun u w'=>u=I (tms a b)∧St H w' σ:=by
 refine Cl.o Tryz.func281 Tryz.ntmps281 ag2 ?_
 refine .aj (.z zg (.nil (.seq (.aj (.z zg (.nil (.block ?_)))))))
 refine .loop (fun k:Nat=>⟨23,[],[(5,I (k:Int)),(0,I a),(1,I b)]⟩)
  (fun k w=>1≤k∧k≤4∧(∀j:Int,1≤j→j<k→¬(a*j=b∨b*j=a))∧St H w σ) (fun k=>4 - k) 1 (.bU rfl bL aR)
  ⟨ak,ak,fun j h1 h2=>by omega,hs⟩ ?_
 rintro k w ⟨hk1,hk4,hno,hs⟩
 have hba:=kr (a:=a) (b:=(k:Int)) (A:=100000) (B:=4) ak ak
 have hbb:=kr (a:=b) (b:=(k:Int)) (A:=100000) (B:=4) ak ak
 refine .seq (.aj (.z zm (.z wh (.nil ?_))))
 refine (.bB rfl (fun hc7=>?_) (fun hc7=>?_))
 ·refine .skip ?_
  refine nT ?_
  refine .seq (.block (.aj (.z zm (.z zm (.z jS (.z zm (.z fo (.z zm ?_))))))))
  refine .iD (t':=15) rfl (fun hb15=>?_) (fun hb15=>?_)
  ·refine .gFs 5 5 false rfl rfl rfl ?_
   refine .z zpT (.nil ?_)
   refine (.cT ?_)
   refine .aj (.z zm (.z zg (.nil ?_)))
   refine .ret (rB (rT (rT (rB (rT (Fin.bH Tryz.results281 rfl ?_))))))
   exact ⟨by rw [Dh ⟨ak,ak⟩ (.inl hb15) hno],hs⟩
  ·refine .gT rfl rfl ?_
   refine .z zm ?_
   refine .gT rfl rfl ?_
   refine .z zm ?_
   refine .gT rfl rfl ?_
   refine .z jS ?_
   refine .gT rfl rfl ?_
   refine .z zm ?_
   refine .gT rfl rfl ?_
   refine .z fo (.z zpF (.nil ?_))
   refine (.bB rfl (fun hc21=>?_) (fun hc21=>?_))
   ·refine .aj (.z zm (.z zg (.nil ?_)))
    refine .ret (rB (rT (rT (rB (rT (Fin.bH Tryz.results281 rfl ?_))))))
    exact ⟨by rw [Dh ⟨ak,ak⟩ (.inr hc21) hno],hs⟩
   ·refine .skip ?_
    refine nB (nT ?_)
    refine .region (.z zm (.z ck (.z zg (.nil ?_))))
    refine nT ?_
    exact ⟨k+1,.bU rfl bL aR,⟨ak,ak,fun j h1 h2=>by
     by_cases e:j=(k:Int)
     ·subst e;omega
     ·exact hno j h1 ak,hs⟩,ak⟩
 ·refine .exit ?_
  refine xT (xT (xB (nT ?_)))
  refine .aj (.z zg (.nil ?_))
  refine .ret (Fin.bH Tryz.results281 rfl ?_)
  obtain rfl:k=4:=by omega
  exact ⟨by rw [EG hno],hs⟩
def Grp.c(g:Grp):List Value:=[I (g.at_:Int),I (g.n:Int)]
def C7(l:List Grp):List Value:=(l.map Grp.c).flatten
theorem yj(a b:List Grp):C7 (a++b)=C7 a++C7 b:=by simp [C7]
theorem tK:∀l:List Grp,(C7 l).length=l.length*2
 |[]=>rfl
 |g::l=>by have:=tK l;simp only [C7,List.map_cons,List.flatten_cons,List.length_append,List.length_cons] at this ⊢;rw [this];simp [Grp.c];omega
set_option maxHeartbeats 1000000 in
theorem qM{v:Value}{l:List Int}(hs:St H w σ)(hr:RI H v l)(hp:eI 9 100000 l):
  Cl Tryz.prog 280 [v] w fun u w'=>∃H1,HLe H H1∧RS H1 2 u ((lV l).map Grp.c)∧St H1 w' σ:=by
 obtain ⟨a,c,rfl⟩:=RI.shape hr
 have hlen:=hp.many
 have hgl:(lV l).length≤9:=by have:=kW l l.length 0;unfold lV;omega
 refine Cl.o Tryz.func280 Tryz.ntmps280 ag1 ?_
 refine .aj (.z zg (.nil (.aj (.z zg (.nil (.aj (.z zg (.nil (.seq ?_)))))))))
 refine .block ?_
 refine .loop (fun p:Nat×Value=>⟨51,[],[(4,I (p.1:Int)),(3,p.2),(0,.slice a l.length c)]⟩)
  (fun p w=>p.1≤l.length∧∃j en,j≤(lV l).length∧(lV l).drop j=mw l p.1∧cf 2 p.2 (C7 ((lV l).take j)) en∧St H w (en::σ)) (fun p=>l.length - p.1) (0,.slice none 0 0) aR
  ⟨Nat.zero_le _,0,_,Nat.zero_le _,rfl,.nil 2 none,hs.nul⟩ ?_
 rintro ⟨i,vo⟩ w ⟨hil,j,en,hj,hd,hO,hs⟩
 dsimp only at hil hd hO ⊢
 have htl:=List.length_take_le j (lV l)
 refine .seq (.aj (.z zm (.z ck (.z zm (.z (cB ae) (.z fH (.nil ?_)))))))
 refine (.bB rfl (fun hc10=>?_) (fun hc10=>?_))
 ·refine .skip ?_
  refine nT ?_
  refine .block (.aj (.z zg (.nil ?_)))
  refine .cut (fun fs w=>kg fs ⟨51,[],[(5,I (((if ez l i then 2 else 1:Nat)):Int)),(4,I (i:Int)),(3,vo),(0,.slice a l.length c)]⟩∧St H w (en::σ)) ?_ ?_
  ·refine .seq (.draw mix rfl hs fun w hs=>?_)
   refine .z 0 rfl zm ?_;refine .z 1 rfl ck ?_;refine .z 2 rfl zm ?_;refine .z 3 rfl (cB ae) ?_;refine .z 4 rfl fH ?_;refine .z 5 rfl zm ?_
   refine .iD (t':=16) rfl (fun hb16=>?_) (fun hb16=>?_)
   ·refine .z 6 rfl zm ?_;refine .z 7 rfl zm ?_;refine .z 8 rfl ck ?_
    have r1:=hp.rise i ak
    have r2:gi l (i+1)<gi l (i+2):=hp.rise (i+1) ak
    have q1:=hp.bd (i:=i) ak
    have q2:=hp.bd (i:=i+2) ak
    refine .ixX (enc:=fun x=>[I x]) (i:=9) hs rfl au (.some rfl rfl) hr rfl rfl ae ai (bn (l:=l) (i:=(i+1)) ak) cD ?_;intro b20 o20 hc20;replace hc20:=bu.one hc20
    refine .r (i:=10) hs rfl au (.some rfl rfl) (aJ rfl af hc20) ?_
    refine .z 11 rfl zm ?_;refine .z 12 rfl zm ?_
    refine .ixX (enc:=fun x=>[I x]) (i:=13) hs rfl au (.some rfl rfl) hr rfl rfl ae ai (bn (l:=l) (i:=i) ak) cD ?_;intro b24 o24 hc24;replace hc24:=bu.one hc24
    refine .r (i:=14) hs rfl au (.some rfl rfl) (aJ rfl af hc24) ?_
    refine .z 15 rfl gL ?_;refine .z 16 rfl zm ?_;refine .z 17 rfl zm ?_;refine .z 18 rfl ck ?_
    refine .ixX (enc:=fun x=>[I x]) (i:=19) hs rfl au (.some rfl rfl) hr rfl rfl ae ai (bn (l:=l) (i:=(i+2)) ak) cD ?_;intro b30 o30 hc30;replace hc30:=bu.one hc30
    refine .r (i:=20) hs rfl au (.some rfl rfl) (aJ rfl af hc30) ?_
    refine .z 21 rfl zm ?_;refine .z 22 rfl zm ?_;refine .z 23 rfl ck ?_
    refine .ixX (enc:=fun x=>[I x]) (i:=24) hs rfl au (.some rfl rfl) hr rfl rfl ae ai (bn (l:=l) (i:=(i+1)) ak) cD ?_;intro b35 o35 hc35;replace hc35:=bu.one hc35
    refine .r (i:=25) hs rfl au (.some rfl rfl) (aJ rfl af hc35) ?_
    refine .z 26 rfl gL ?_
    refine .E 27 hs ?_
    refine .call Tryz.call281 rfl (mv hs ak ak) ?_;rintro _ w ⟨rfl,hs⟩
    refine .go ?_
    refine .z 28 rfl kD ?_;refine .z 29 rfl zpT ?_;refine .D hs ?_
    refine (.bB rfl (fun hc40=>?_) (fun hc40=>?_))
    ·refine .region (.z zg (.nil ?_))
     refine nT ?_
     have e:ez l i=true:=by simp [ez];omega
     rw [e];exact ⟨aR,hs⟩
    ·refine .skip ?_
     refine nT ?_
     have e:ez l i=false:=by simp [ez];omega
     rw [e];exact ⟨aR,hs⟩
   ·refine .qF (i:=6) rfl au rfl rfl ?_
    refine .qF (i:=7) rfl au rfl rfl ?_
    refine .qF (i:=8) rfl au rfl rfl ?_
    refine .qF (i:=9) rfl au rfl rfl ?_
    refine .qF (i:=10) rfl au rfl rfl ?_
    refine .qF (i:=11) rfl au rfl rfl ?_
    refine .qF (i:=12) rfl au rfl rfl ?_
    refine .qF (i:=13) rfl au rfl rfl ?_
    refine .qF (i:=14) rfl au rfl rfl ?_
    refine .qF (i:=15) rfl au rfl rfl ?_
    refine .qF (i:=16) rfl au rfl rfl ?_
    refine .qF (i:=17) rfl au rfl rfl ?_
    refine .qF (i:=18) rfl au rfl rfl ?_
    refine .qF (i:=19) rfl au rfl rfl ?_
    refine .qF (i:=20) rfl au rfl rfl ?_
    refine .qF (i:=21) rfl au rfl rfl ?_
    refine .qF (i:=22) rfl au rfl rfl ?_
    refine .qF (i:=23) rfl au rfl rfl ?_
    refine .qF (i:=24) rfl au rfl rfl ?_
    refine .qF (i:=25) rfl au rfl rfl ?_
    refine .qF (i:=26) rfl au rfl rfl ?_
    refine .qF (i:=27) rfl au rfl rfl ?_
    refine .qF (i:=28) rfl au rfl rfl ?_
    refine .z 29 rfl zpF ?_;refine .D hs ?_
    refine (.cF ?_)
    refine .skip ?_
    refine nT ?_
    have e:ez l i=false:=by simp [ez];omega
    rw [e];exact ⟨aR,hs⟩
  ·rintro fs w ⟨hfs,hs⟩
   refine WE.sub ?_ hfs
   have hgo:=tt (l:=l) (i:=i) ak
   rw [hgo] at hd
   have hjl:j<(lV l).length:=by
    have:=congrArg List.length hd
    simp at this;omega
   have hgj:(lV l)[j]? =some ⟨i,ez l i⟩:=by
    rw [List.drop_eq_getElem_cons hjl] at hd
    rw [List.getElem?_eq_getElem hjl,(List.cons.inj hd).1]
   have hdj:(lV l).drop (j+1)=mw l (i+(if ez l i then 2 else 1)):=by
    rw [List.drop_eq_getElem_cons hjl] at hd
    exact (List.cons.inj hd).2
   have hn12:(if ez l i then 2 else 1:Nat)=1∨(if ez l i then 2 else 1:Nat)=2:=by split<;>simp
   have hgc:Grp.c ⟨i,ez l i⟩=[I (i:Int),I (((if ez l i then 2 else 1:Nat)):Int)]:=rfl
   generalize (if ez l i then 2 else 1:Nat)=n at*
   refine .aj (.z zm (.z zm (.z zm (.z (zbd [_,_] qn) ?_))))
   refine .o (.buildSlice (cells:=[_,_]) hs qk rfl rfl fun b45 w hs=>?_)
   refine .o (.append (ys:=[I (i:Int),I (n:Int)]) hs kF rfl rfl hO (.own .here rfl rfl) (by simp [Value.oneCell']) (fun l' h=>by rw [tK] at h;omega) ?_);intro v46 en46 w hO2 hs
   rw [←hgc,show Grp.c ⟨i,ez l i⟩=C7 [⟨i,ez l i⟩] by simp [C7],←yj,←dh hgj] at hO2
   refine .z zg (.nil (.region (.z zm (.z zm (.z ck (.z zg (.nil ?_)))))))
   refine nB (nT ?_)
   exact ⟨(i+n,v46),.bU rfl bL aR,⟨by dsimp only;omega,j+1,_,hjl,hdj,hO2,hs.sb⟩,by dsimp only;omega⟩
 ·refine .exit ?_
  refine xT (xT (xB (nT ?_)))
  refine .aj (.z zm (.z zg (.nil ?_)))
  refine .ret (Fin.bH Tryz.results280 rfl ?_)
  rw [qU ak] at hd
  have:(lV l).length≤j:=by simpa using hd
  obtain rfl:j=(lV l).length:=by omega
  rw [List.take_length] at hO
  obtain ⟨H1,g1,r1,hs⟩:=cf.cq (m:=2) (cs:=(lV l).map Grp.c) hO (fun c hc=>by simp only [List.mem_map] at hc;obtain ⟨x,_,rfl⟩:=hc;rfl) ak (by rw [List.length_map];omega) hs .here
  exact ⟨H1,g1,r1,hs⟩
theorem qb{l:List Int}{i j:Nat}(h:i≠j)(x:Int):gi (l.set i x) j=gi l j:=by
 simp [gi,List.getD,h]
set_option maxHeartbeats 1000000 in
theorem iK{v:Value}{l:List Int}(hs:St H w σ)(hr:RI H v l)(hp:eI 9 100000 l):
  Cl Tryz.prog 251 [v] w fun u w'=>∃H1,HLe H H1∧RI H1 u (wts l)∧St H1 w' σ:=by
 obtain ⟨a,c,rfl⟩:=RI.shape hr
 have hln:=hp.many
 have hgl:(lV l).length≤9:=by have:=kW l l.length 0;unfold lV;omega
 refine Cl.o Tryz.func251 Tryz.ntmps251 ag1 ?_
 refine .aj (.z zg (.nil (.aj (.z zm (.z (cB ae) ?_)))))
 refine .o (.pZ l.length hs rfl rfl ae dS rfl ai bJ ak fun b16 w hs=>?_)
 replace hs:St H w (.blk b16 (Is (sz l 0))::σ):=hs
 refine .z zg (.nil (.aj (.z zm ?_)))
 refine .o (.call Tryz.call280 rfl (qM hs hr hp) ?_);rintro v18 w ⟨H1,hle1,hG,hs⟩
 have hrr:=hr.mono hle1
 obtain ⟨ag,cg,rfl⟩:=RS.shape hG
 rw [List.length_map] at hG ⊢
 refine .z zg (.nil (.seq (.aj (.z zg (.nil (.block ?_))))))
 refine .loop (fun k:Nat=>⟨133,[],[(5,I (k:Int)),(4,.slice ag (lV l).length cg),(3,.slice (some ⟨b16,0,none⟩) l.length l.length),(0,.slice a l.length c)]⟩)
  (fun k w=>k≤(lV l).length∧St H1 w (.blk b16 (Is (sz l k))::σ)) (fun k=>(lV l).length - k) 0 (.bU rfl bL aR)
  ⟨Nat.zero_le _,hs⟩ ?_
 rintro k w ⟨hk,hs⟩
 refine .seq (.aj (.z zm (.z zm (.z (cB ke) (.z fH (.nil ?_))))))
 refine (.bB rfl (fun hc22=>?_) (fun hc22=>?_))
 ·refine .skip ?_
  refine nT ?_
  refine .seq (.block (.aj (.z zm (.z zm ?_))))
  have hjl:k<(lV l).length:=by omega
  obtain ⟨g,hg⟩:=nth hjl
  obtain ⟨i1,i2,i3,i4,i5⟩:=tu hp (List.mem_of_getElem? hg)
  have hK:=sy hg
  have hKl:=l5 l k
  have hKz:=qx hp k ak
  have z0:=gM (sz l k) (v:=g.at_) (n:=l.length) ak
  have z1:=gM (sz l k) (v:=g.at_+1) (n:=l.length) ak
  have hq0:=hp.bd (i:=g.at_) ak
  have hq1:=hp.bd (i:=g.at_+1) ak
  have hgm:((lV l).map Grp.c)[k]? =some (Grp.c g):=by rw [List.getElem?_map,hg];rfl
  generalize sz l k=W at*
  have e1:∀x,gi (W.set g.at_ x) (g.at_+1)=gi W (g.at_+1):=fun x=>qb ak x
  generalize hA:gi l (g.at_+1) - gi l g.at_=A at*
  refine .ixX (enc:=Grp.c) hs hG rfl rfl ke oq hg cD ?_;intro b27 o27 hc27
  have d0:cellAt H1 b27 o27=some (I (g.at_:Int)):=hc27 0 _ rfl
  have d1:cellAt H1 b27 (o27+1)=some (I (g.n:Int)):=hc27 1 _ rfl
  refine .z (zfa fE) (.y hs (zld af) (.z zg (.nil ?_)))
  refine .seq (.draw mix rfl hs fun w hs=>?_)
  refine .z 0 rfl zm ?_;refine .z 1 rfl zm ?_;refine .z 2 rfl ck ?_
  refine .ixX (enc:=fun x=>[I x]) (i:=3) hs rfl au .none hrr rfl rfl ae ai (bn (l:=l) (i:=(g.at_+1)) ak) cD ?_;intro b33 o33 hc33;replace hc33:=bu.one hc33
  refine .r (i:=4) hs rfl au .none (aJ rfl af hc33) ?_
  refine .z 5 rfl zm ?_;refine .z 6 rfl zm ?_
  refine .ixX (enc:=fun x=>[I x]) (i:=7) hs rfl au .none hrr rfl rfl ae ai (bn (l:=l) (i:=g.at_) ak) cD ?_;intro b37 o37 hc37;replace hc37:=bu.one hc37
  refine .r (i:=8) hs rfl au .none (aJ rfl af hc37) ?_
  refine .z 9 rfl gL ?_
  rw [hA]
  refine .z 10 rfl zg ?_;refine .D hs ?_
  refine .seq (.aj (.z zm (.z zm ?_)))
  refine .ixX (enc:=Grp.c) hs hG rfl rfl ke oq hg cD ?_;intro b42 o42 hc42
  have d2:cellAt H1 b42 (o42+1)=some (I (g.n:Int)):=hc42 1 _ rfl
  refine .z (zfa gY) (.y hs (zld af) (.z fo (.nil ?_)))
  refine (.bB rfl (fun hc45=>?_) (fun hc45=>?_))
  ·refine .aj (.z zm (.z zm ?_))
   refine .q hs (dH (k:=g.at_) rfl rfl ae ai ak ak) ?_
   refine .y hs (zld af) (.z zm (.z jS (.z ck ?_)))
   refine .q hs (dH (k:=g.at_) rfl rfl ae ai ak ak) ?_
   refine .o (.store hs rfl rfl ai fun w hs=>?_)
   refine .nil (.aj (.z zm (.z zm (.z ck ?_))))
   refine .q hs (dH (k:=g.at_+1) rfl rfl ae ai ak ak) ?_
   refine .q hs (dG rfl af (hv:=eQ (by rw [List.length_set];omega))) ?_
   rw [e1]
   refine .z zm (.z jS (.z ck ?_))
   refine .q hs (dH (k:=g.at_+1) rfl rfl ae ai ak ak) ?_
   refine .o (.store hs rfl rfl ai ?_ cP (by simp [Is];omega));intro w hs
   refine .nil ?_
   refine .exit ?_
   refine xT (xB (nT ?_))
   refine .region (.z zm (.z ck (.z zg (.nil ?_))))
   refine nT ?_
   have h2:g.two=false:=by
    cases e:g.two with
    |false=>rfl
    |true=>simp [Grp.n,e] at hc45
   rw [yQ h2 hA] at hK
   have e:sz l (k+1)=(W.set g.at_ (gi W g.at_+18*A)).set (g.at_+1) (gi W (g.at_+1)+18*A):=by rw [hK];simp only [kB];rw [e1]
   exact ⟨k+1,.bU rfl bL aR,⟨ak,by rw [e];exact hs⟩,ak⟩
  ·refine .skip ?_
   refine nT ?_
   refine .seq (.draw mix rfl hs fun w hs=>?_)
   have h2:g.two=true:=by
    cases e:g.two with
    |true=>rfl
    |false=>simp [Grp.n,e] at hc45
   obtain ⟨j1,j2,j3,j4⟩:=i4 h2
   have hq2:=hp.bd (i:=g.at_+2) ak
   have z2:=gM W (v:=g.at_+2) (n:=l.length) ak
   have e2:∀x y,gi ((W.set g.at_ x).set (g.at_+1) y) (g.at_+2)=gi W (g.at_+2):=fun x y=>by rw [qb ak,qb ak]
   generalize hB:gi l (g.at_+2) - gi l (g.at_+1)=B at*
   have hk3:=Ar j4
   have hmm:=uG (a:=A) (b:=B) ⟨ak,ak⟩ ⟨ak,ak⟩
   obtain ⟨n1,n2,n3,n4⟩:=yO hk3 hmm.1 hmm.2
   obtain ⟨n5,n6,n7,n8,n9⟩:=n4 _ n3.1 n3.2
   have hgw0:=yP h2 hA hB rfl rfl
   refine .z 0 rfl zm ?_;refine .z 1 rfl zm ?_;refine .z 2 rfl ck ?_
   refine .ixX (enc:=fun x=>[I x]) (i:=3) hs rfl au .none hrr rfl rfl ae ai (bn (l:=l) (i:=(g.at_+2)) ak) cD ?_;intro b66 o66 hc66;replace hc66:=bu.one hc66
   refine .r (i:=4) hs rfl au .none (aJ rfl af hc66) ?_
   refine .z 5 rfl zm ?_;refine .z 6 rfl zm ?_;refine .z 7 rfl ck ?_
   refine .ixX (enc:=fun x=>[I x]) (i:=8) hs rfl au .none hrr rfl rfl ae ai (bn (l:=l) (i:=(g.at_+1)) ak) cD ?_;intro b71 o71 hc71;replace hc71:=bu.one hc71
   refine .r (i:=9) hs rfl au .none (aJ rfl af hc71) ?_
   refine .z 10 rfl gL ?_
   rw [hB]
   refine .z 11 rfl zg ?_;refine .D hs ?_
   refine .aj (.z zm (.z zm ?_))
   refine .o (.call Tryz.call281 rfl (mv hs ak ak) ?_);rintro _ w ⟨rfl,hs⟩
   generalize hT:tms A B=T at*
   refine .z zg (.nil (.aj (.z zm (.z zm (.z zr ?_)))))
   generalize hM:min A B=M at*
   refine .z zg (.nil (.aj (.z zm ?_)))
   refine .q hs (te rfl rfl ak ak) ?_
   refine .z zm (.z ck (.z jS (.z zm (.z jS (.z zg (.nil (.aj (.z zm (.z zm ?_)))))))))
   refine .z jS (.z zm (.z gL (.z jS (.z zg (.nil (.aj (.z zm (.z zm (.z jS ?_)))))))))
   refine .z gL (.z jS (.z zg (.nil ?_)))
   refine .cut (fun fs w=>∃x y:Int,kg fs ⟨133,[],[(13,I y),(12,I x),(11,I ((6:Int).tdiv T*(1+T)*M)),(9,I T),(6,I (g.at_:Int)),(5,I (k:Int)),(4,.slice ag (lV l).length cg),(3,.slice (some ⟨b16,0,none⟩) l.length l.length),(0,.slice a l.length c)]⟩∧(-6000000≤x∧x≤6000000)∧(-6000000≤y∧y≤6000000)∧ue l g=[x,(6:Int).tdiv T*(1+T)*M*(1+T)*(1+T),y]∧St H1 w (.blk b16 (Is W)::σ)) ?_ ?_
   ·refine .aj (.z zm (.z zm (.z kD (.nil ?_))))
    refine (.bB rfl (fun hc100=>?_) (fun hc100=>?_))
    ·refine .region (.z zm (.z zm (.z zg (.z zg (.nil ?_)))))
     refine nT ?_
     exact ⟨_,_,aR,ak,ak,by rw [hgw0,if_pos hc100],hs⟩
    ·refine .skip ?_
     refine nT ?_
     exact ⟨_,_,aR,ak,ak,by rw [hgw0,if_neg ak],hs⟩
   ·rintro fs w ⟨x,y,hfs,hx,hy,hgw,hs⟩
    refine WE.sub ?_ hfs
    have e:sz l (k+1)=((W.set g.at_ (gi W g.at_+x)).set (g.at_+1) (gi W (g.at_+1)+(6:Int).tdiv T*(1+T)*M*(1+T)*(1+T))).set (g.at_+2) (gi W (g.at_+2)+y):=by
     rw [hK,hgw];simp only [kB];rw [e1,show g.at_+1+1=g.at_+2 by omega,e2]
    refine .aj (.z zm (.z zm ?_))
    refine .q hs (dH (k:=g.at_) rfl rfl ae ai ak ak) ?_
    refine .y hs (zld af) (.z zm (.z ck ?_))
    refine .q hs (dH (k:=g.at_) rfl rfl ae ai ak ak) ?_
    refine .o (.store hs rfl rfl ai fun w hs=>?_)
    refine .nil (.aj (.z zm (.z zm (.z ck ?_))))
    refine .q hs (dH (k:=g.at_+1) rfl rfl ae ai ak ak) ?_
    refine .q hs (dG rfl af (hv:=eQ (by rw [List.length_set];omega))) ?_
    rw [e1]
    refine .z zm (.z zm (.z ck (.z jS (.z zm (.z ck (.z jS (.z ck ?_)))))))
    refine .q hs (dH (k:=g.at_+1) rfl rfl ae ai ak ak) ?_
    refine .o (.store hs rfl rfl ai ?_ cP (by simp [Is];omega));intro w hs
    refine .nil (.region (.z zm (.z zm (.z ck ?_))))
    refine .q hs (dH (k:=g.at_+2) rfl rfl ae ai ak ak) ?_
    refine .q hs (dG rfl af (hv:=eQ (by rw [List.length_set,List.length_set];omega))) ?_
    rw [e2]
    refine .z zm (.z ck ?_)
    refine .q hs (dH (k:=g.at_+2) rfl rfl ae ai ak ak) ?_
    refine .o (.store hs rfl rfl ai ?_ cP (by simp [Is];omega));intro w hs
    refine .nil ?_
    refine nB (nT ?_)
    refine .region (.z zm (.z ck (.z zg (.nil ?_))))
    refine nT ?_
    exact ⟨k+1,.bU rfl bL aR,⟨ak,by rw [e];exact hs⟩,ak⟩
 ·refine .exit ?_
  refine xT (xT (xB (nT ?_)))
  refine .aj (.z zm (.z zg (.nil ?_)))
  refine .ret (Fin.bH Tryz.results251 rfl ?_)
  obtain rfl:k=(lV l).length:=by omega
  rw [yq] at hs
  obtain ⟨H3,hle3,hR,hs⟩:=cf.de (xs:=wts l) (v:= .slice (some ⟨b16,0,none⟩) l.length l.length) (.full (by simp [Is,eu])) (by rw [eu];omega) hs .here
  exact ⟨H3,hle1.trans hle3,hR,hs⟩
theorem kP{v:Value}{l:List Int}(hs:St H w σ)(hr:RI H v l)(hp:eI 9 100000 l):
  Cl Tryz.prog 196 [v] w fun u w'=>∃H1 vo,HLe H H1∧u= .tuple #[vo,I 0]∧RI H1 vo (wts l)∧St H1 w' σ:=by
 refine Cl.o Tryz.func196 Tryz.ntmps196 ag1 ?_
 refine .aj (.z zg (.z zg (.nil (.seq (.aj (.z zm ?_))))))
 refine .o (.call Tryz.call84 rfl (gn hs hr) ?_);rintro _ w ⟨e,rfl,he,hs⟩
 obtain rfl:e=0:=he.elim (fun h=>h.2) fun h=>(h.1 hp).elim
 refine .z gx (.nil ?_)
 refine (.eH rfl (fun hc7=>?_) (fun hc7=>?_))
 ·refine .aj (.z zg (.z zg (.nil ?_)))
  refine .ret (rT (Fin.lq Tryz.results196 rfl rfl ?_))
  exact (hc7 rfl).elim
 ·refine .skip ?_
  refine nT ?_
  refine .aj (.z zm ?_)
  refine .o (.call Tryz.call251 rfl (iK hs hr hp) ?_);rintro v9 w ⟨H1,hle1,hR,hs⟩
  refine .z zg (.nil (.aj (.z zm (.z zg (.z zg (.nil ?_))))))
  refine .ret (Fin.lq Tryz.results196 rfl rfl ?_)
  exact ⟨H1,_,hle1,rfl,hR,hs⟩
theorem pL{v1 v2:Value}{a b:List Int}(hs:St H w σ)(h1:RI H v1 a)(h2:RI H v2 b)(hp1:eI 9 100000 a)(hp2:eI 7 15000 b):
  Cl Tryz.prog 250 [v1,v2] w fun u w'=>u= .bool true∧St H w' σ:=by
 refine Cl.o Tryz.func250 Tryz.ntmps250 ag2 ?_
 refine .aj (.z zg (.nil (.aj (.z zm ?_))))
 refine .o (.call Tryz.call168 rfl (jc (many:=9) (most:=100000) hs h1 ak) ?_);rintro _ w ⟨b6,rfl,hb6,hs⟩
 refine .z zm ?_
 refine .bif (t':=7) rfl (fun hb7=>?_) (fun hb7=>?_)
 ·refine .gT rfl rfl ?_
  refine .z zm ?_
  refine .gT rfl rfl ?_
  refine .o (.call Tryz.call168 rfl (jc (many:=7) (most:=15000) hs h2 ak) ?_);rintro _ w ⟨b9,rfl,hb9,hs⟩
  refine .z zpT (.z zg (.nil ?_))
  refine .ret (Fin.bH Tryz.results250 rfl ?_)
  exact ⟨by rw [hb9.2 hp2],hs⟩
 ·refine .gFs 2 2 true rfl rfl rfl ?_
  refine .z zpF (.z zg (.nil ?_))
  refine .ret (Fin.bH Tryz.results250 rfl ?_)
  rw [hb6.2 hp1] at hb7;cases hb7
set_option maxHeartbeats 1000000 in
theorem s6{v1 v2:Value}{l1 l2:List Int}(hs:St H w σ)(hr1:RI H v1 l1)(hr2:RI H v2 l2)(hp1:eI 9 100000 l1)(hp2:eI 7 15000 l2):
  Cl Tryz.prog 195 [v1,v2] w fun u w'=>∃H1 vo,HLe H H1∧u= .tuple #[vo,I 0]∧RT H1 vo (lW (wts l1) (wts l2) l1.length)∧St H1 w' σ:=by
 obtain ⟨a1,c1,rfl⟩:=RI.shape hr1
 obtain ⟨a2,c2,rfl⟩:=RI.shape hr2
 have hn1:=hp1.many
 have hn2:=hp2.many
 have hp2':eI 9 100000 l2:=⟨hp2.two,ak,hp2.low,by have:=hp2.high;omega,hp2.rise⟩
 have hXl:=eu l1
 have hYl:=eu l2
 have hXb:=yp hp1
 have hYb:=yp hp2
 refine Cl.o Tryz.func195 Tryz.ntmps195 ag2 ?_
 refine .aj (.z zg (.z zg (.nil (.seq (.aj (.z zm (.z zm ?_)))))))
 refine .o (.call Tryz.call250 rfl (pL hs hr1 hr2 hp1 hp2) ?_);rintro _ w ⟨rfl,hs⟩
 refine .z gV (.nil ?_)
 refine (.cond rfl (fun hc15=>?_) (fun hc15=>?_))
 ·refine .aj (.z zg (.z zg (.nil ?_)))
  refine .ret (rT (Fin.lq Tryz.results195 rfl rfl ?_))
  cases hc15
 ·refine .skip ?_
  refine nT ?_
  refine .aj (.z zm ?_)
  refine .o (.call Tryz.call251 rfl (iK hs hr1 hp1) ?_);rintro v17 w ⟨H1,hle1,hX,hs⟩
  refine .z zg (.nil (.aj (.z zm ?_)))
  refine .o (.call Tryz.call251 rfl (iK hs (hr2.mono hle1) hp2') ?_);rintro v19 w ⟨H2,hle2,hY,hs⟩
  replace hX:=hX.mono hle2
  generalize wts l1=X at*
  generalize wts l2=Y at*
  obtain ⟨aX,cX,rfl⟩:=RI.shape hX
  obtain ⟨aY,cY,rfl⟩:=RI.shape hY
  refine .z zg (.nil (.aj (.z zg (.nil (.seq (.aj (.z zg (.nil (.block ?_)))))))))
  refine .loop (fun p:Nat×Value=>⟨49,[],[(9,I (p.1:Int)),(8,p.2),(7,.slice aY Y.length cY),(6,.slice aX X.length cX)]⟩)
   (fun p w=>p.1≤X.length∧∃H3 us en,HLe H2 H3∧RLs H3 us (lW X Y p.1)∧cf 1 p.2 us en∧St H3 w (en::σ)) (fun p=>X.length - p.1) (0,.slice none 0 0) aR
   ⟨Nat.zero_le _,H2,[],_,HLe.refl _,RLs.nil _,.nil 1 none,hs.nul⟩ ?_
  rintro ⟨i,vo⟩ w ⟨hi,H3,us,en,hle3,hRL,hO,hs⟩
  dsimp only at hi hRL hO ⊢
  have husl:us.length=i:=by rw [hRL.1,ju]
  refine .seq (.aj (.z zm (.z zm (.z (cB ae) (.z fH (.nil ?_))))))
  refine (.bB rfl (fun hc23=>?_) (fun hc23=>?_))
  ·refine .skip ?_
   refine nT ?_
   refine .seq (.block (.aj (.z zg (.nil (.seq (.aj (.z zg (.nil (.block ?_)))))))))
   refine .loop (fun p:Nat×Value=>⟨49,[],[(11,I (p.1:Int)),(10,p.2),(9,I (i:Int)),(8,vo),(7,.slice aY Y.length cY),(6,.slice aX X.length cX)]⟩)
    (fun p w=>p.1≤Y.length∧∃en2,cf 1 p.2 (Is ((wi X Y i).take p.1)) en2∧St H3 w (en2::en::σ)) (fun p=>Y.length - p.1) (0,.slice none 0 0) aR
    ⟨Nat.zero_le _,_,.nil 1 none,hs.nul⟩ ?_
   rintro ⟨k,vr⟩ w ⟨hk,en2,hO2,hs⟩
   dsimp only at hk hO2 ⊢
   refine .seq (.aj (.z zm (.z zm (.z (cB ae) (.z fH (.nil ?_))))))
   refine (.bB rfl (fun hc29=>?_) (fun hc29=>?_))
   ·refine .skip ?_
    refine nT ?_
    refine .seq (.block ?_)
    refine .draw mix rfl hs fun w hs=>?_
    refine .z 0 rfl zm ?_;refine .z 1 rfl zm ?_;refine .z 2 rfl zm ?_
    have hkm:k<Y.length:=by omega
    have hb1:=hXb i
    have hb2:=hYb k
    have hprb: -3456000000000≤gi X i*gi Y k∧gi X i*gi Y k≤3456000000000:=kr (A:=4800000) (B:=720000) (by unfold ab at hb1;omega) (by unfold ab at hb2;omega)
    refine .ixX (enc:=fun x=>[I x]) (i:=3) hs rfl au .none (hX.mono hle3) rfl rfl ae ai (bn (l:=X) (i:=i) ak) cD ?_;intro b35 o35 hc35;replace hc35:=bu.one hc35
    refine .r (i:=4) hs rfl au .none (aJ rfl af hc35) ?_
    refine .z 5 rfl zm ?_;refine .z 6 rfl zm ?_
    refine .ixX (enc:=fun x=>[I x]) (i:=7) hs rfl au .none (hY.mono hle3) rfl rfl ae ai (bn (l:=Y) (i:=k) ak) cD ?_;intro b39 o39 hc39;replace hc39:=bu.one hc39
    refine .r (i:=8) hs rfl au .none (aJ rfl af hc39) ?_
    refine .z 9 rfl jS ?_
    refine .E 10 hs ?_
    refine .buildSlice (cells:=[_]) hs cQ rfl rfl ?_;intro b42 w hs
    refine .go ?_
    refine .E 11 hs ?_
    refine .append (ys:=Is [gi X i*gi Y k]) hs bZ rfl rfl hO2 (.own .here rfl rfl) (gU _) (fun l' h=>by simp at h;omega) ?_;intro v43 en43 w hO43 hs
    rw [show Is ((wi X Y i).take k)++Is [gi X i*gi Y k]=Is ((wi X Y i).take (k+1)) by rw [wI hkm];simp [Is]] at hO43
    refine .go ?_
    refine .z 12 rfl zg ?_;refine .D hs ?_
    refine nB (nT ?_)
    refine .region (.z zm (.z ck (.z zg (.nil ?_))))
    refine nT ?_
    exact ⟨(k+1,v43),.bU rfl bL aR,⟨by dsimp only;omega,_,hO43,hs.sb⟩,by dsimp only;omega⟩
   ·refine .exit ?_
    refine xT (xT (xB (nT ?_)))
    refine .region (.z zm (.z zm ?_))
    obtain ⟨H4,hle4,hR,hs⟩:=cf.de hO2 (by rw [List.length_take,jb];omega) hs .here
    rw [List.take_of_length_le (by rw [jb];omega)] at hR
    obtain ⟨ar,cr,rfl⟩:=RI.shape hR
    refine .o (.buildSlice (cells:=[_]) hs oB rfl rfl fun b46 w hs=>?_)
    refine .o (.append (ys:=[.slice ar (wi X Y i).length cr]) hs kA rfl rfl hO (.own .here rfl rfl) (by simp [Value.oneCell']) (fun l' h=>by omega) fun v47 en47 w hO47 hs=>?_)
    have hRL':RLs H4 (us++[.slice ar (wi X Y i).length cr]) (lW X Y (i+1)):=by rw [uM];exact (hRL.mono hle4).snoc hR
    refine .z zg (.nil ?_)
    refine nB (nT ?_)
    refine .region (.z zm (.z ck (.z zg (.nil ?_))))
    refine nT ?_
    exact ⟨(i+1,v47),.bU rfl bL aR,⟨by dsimp only;omega,H4,_,_,hle3.trans hle4,hRL',hO47,hs.sb⟩,by dsimp only;omega⟩
  ·refine .exit ?_
   refine xT (xT (xB (nT ?_)))
   refine .aj (.z zm (.z zg (.z zg (.nil ?_))))
   refine .ret (Fin.lq Tryz.results195 rfl rfl ?_)
   obtain rfl:i=X.length:=by omega
   obtain ⟨H5,hle5,hR,hs⟩:=hRL.cq hO ak hs .here
   exact ⟨H5,_,hle1.trans (hle2.trans (hle3.trans hle5)),rfl,by rw [←hXl];exact hR,hs⟩
theorem br{a0 a1 a2:Int}(hs:St H w σ):Cl Tryz.prog 105 [I a0,I a1,I a2] w fun v w'=>v= .bool (decide (a1≤a0∧a0≤a2))∧St H w' σ:=by
 refine Cl.o Tryz.func105 Tryz.ntmps105 ag3 ?_
 refine .aj (.z zg (.nil (.aj (.z zm (.z zm (.z wh (.z zm ?_)))))))
 refine .iD (t':=10) rfl (fun hb10=>?_) (fun hb10=>?_)
 ·refine .gT rfl rfl ?_
  refine .z zm ?_
  refine .gT rfl rfl ?_
  refine .z zm ?_
  refine .gT rfl rfl ?_
  refine .z wh (.z zpT (.z zg (.nil ?_)))
  refine .ret (Fin.bH Tryz.results105 rfl ?_)
  exact ⟨by simp [*],hs.out⟩
 ·refine .gFs 3 3 true rfl rfl rfl ?_
  refine .z zpF (.z zg (.nil ?_))
  refine .ret (Fin.bH Tryz.results105 rfl ?_)
  exact ⟨by simp [*],hs.out⟩
theorem gC{a0:Int}(hs:St H w σ):Cl Tryz.prog 106 [I a0] w fun v w'=>v= .bool (decide (1≤a0∧a0≤99999))∧St H w' σ:=by
 refine Cl.o Tryz.func106 Tryz.ntmps106 ag1 ?_
 refine .aj (.z zg (.nil (.aj (.z zm ?_))))
 refine .o (.call dD rfl (br hs) ?_);rintro _ w ⟨rfl,hs⟩
 refine .z zg (.nil ?_)
 refine .ret (Fin.bH Tryz.results106 rfl ?_)
 exact ⟨rfl,hs⟩
theorem iN{s:Spc}{vst vwa:Value}(hs:St H w σ)(h1:RI H vst s.st)(h2:RI H vwa s.wa):
  Cl Tryz.prog 41 [.agg #[I s.id,I s.src,vst,vwa,I s.al,I s.up]] w fun v w'=>∃H1 e,HLe H H1∧v=I e∧((fl s∧e=0)∨(¬fl s∧e=30))∧St H1 w' σ:=by
 obtain ⟨ast,cst,rfl⟩:=RI.shape h1
 obtain ⟨awa,cwa,rfl⟩:=RI.shape h2
 refine Cl.o Tryz.func41 Tryz.ntmps41 ag1 ?_
 refine .aj ?_
 refine .bx hs fun b1 w hs=>?_
 refine .z zg (.nil (.seq (.aj (.z (zfa bp) (.y hs (zld an) (.z (zfa aW) (.y hs (zld an) ?_)))))))
 refine .o (.call Tryz.call104 rfl (mU hs h1 h2) ?_);rintro _ w ⟨H1,vo,e,hle1,rfl,hG,hG',hs⟩
 refine .z zm (.z zex (.z zex (.z zg (.z zg (.nil (.aj (.z zm (.z gx (.z zm ?_)))))))))
 refine .yf (t':=15) rfl (fun hb15=>?_) (fun hb15=>?_)
 ·refine .gFs 4 2 false rfl rfl rfl ?_
  refine .z zpT (.z zm ?_)
  refine .gFs 4 8 false rfl rfl rfl ?_
  refine .z zpT (.z zm ?_)
  refine .gFs 5 14 false rfl rfl rfl ?_
  refine .z zpT (.z zm ?_)
  refine .gFs 5 21 false rfl rfl rfl ?_
  refine .z zpT (.nil ?_)
  refine (.cT ?_)
  refine .aj (.z zg (.nil ?_))
  refine .ret (rT (Fin.bH uo rfl ?_))
  exact ⟨H1,_,hle1,rfl,.inr ⟨fun h=>by have:=(hG ⟨h.st,h.wa⟩).1;simp_all,rfl⟩,hs.out⟩
 ·refine .gT rfl rfl ?_
  refine .z (zfa lg) ?_
  refine .gT rfl rfl ?_
  refine .y hs (zld af) ?_
  refine .gT rfl rfl ?_
  refine .o (.call dD rfl (br hs) ?_);rintro _ w ⟨rfl,hs⟩
  refine .gT rfl rfl ?_
  refine .z gV (.z zpF (.z zm ?_))
  refine .bif (t':=21) rfl (fun hb21=>?_) (fun hb21=>?_)
  ·refine .gFs 4 8 false rfl rfl rfl ?_
   refine .z zpT (.z zm ?_)
   refine .gFs 5 14 false rfl rfl rfl ?_
   refine .z zpT (.z zm ?_)
   refine .gFs 5 21 false rfl rfl rfl ?_
   refine .z zpT (.nil ?_)
   refine (.cT ?_)
   refine .aj (.z zg (.nil ?_))
   refine .ret (rT (Fin.bH uo rfl ?_))
   exact ⟨H1,_,hle1,rfl,.inr ⟨fun h=>by have:=h.id;simp_all,rfl⟩,hs.out⟩
  ·refine .gT rfl rfl ?_
   refine .z (zfa dv) ?_
   refine .gT rfl rfl ?_
   refine .y hs (zld af) ?_
   refine .gT rfl rfl ?_
   refine .o (.call Tryz.call106 rfl (gC hs) ?_);rintro _ w ⟨rfl,hs⟩
   refine .gT rfl rfl ?_
   refine .z gV (.z zpF (.z zm ?_))
   refine .bif (t':=27) rfl (fun hb27=>?_) (fun hb27=>?_)
   ·refine .gFs 5 14 false rfl rfl rfl ?_
    refine .z zpT (.z zm ?_)
    refine .gFs 5 21 false rfl rfl rfl ?_
    refine .z zpT (.nil ?_)
    refine (.cT ?_)
    refine .aj (.z zg (.nil ?_))
    refine .ret (rT (Fin.bH uo rfl ?_))
    exact ⟨H1,_,hle1,rfl,.inr ⟨fun h=>by have:=h.src;simp_all,rfl⟩,hs.out⟩
   ·refine .gT rfl rfl ?_
    refine .z (zfa dO) ?_
    refine .gT rfl rfl ?_
    refine .z (zfa iQ) ?_
    refine .gT rfl rfl ?_
    refine .y hs (zld af) ?_
    refine .gT rfl rfl ?_
    refine .o (.call dD rfl (br hs) ?_);rintro _ w ⟨rfl,hs⟩
    refine .gT rfl rfl ?_
    refine .z gV (.z zpF (.z zm ?_))
    refine .bif (t':=34) rfl (fun hb34=>?_) (fun hb34=>?_)
    ·refine .gFs 5 21 false rfl rfl rfl ?_
     refine .z zpT (.nil ?_)
     refine (.cT ?_)
     refine .aj (.z zg (.nil ?_))
     refine .ret (rT (Fin.bH uo rfl ?_))
     exact ⟨H1,_,hle1,rfl,.inr ⟨fun h=>by have:=h.al;simp_all,rfl⟩,hs.out⟩
    ·refine .gT rfl rfl ?_
     refine .z (zfa dO) ?_
     refine .gT rfl rfl ?_
     refine .z (zfa iP) ?_
     refine .gT rfl rfl ?_
     refine .y hs (zld af) ?_
     refine .gT rfl rfl ?_
     refine .o (.call dD rfl (br hs) ?_);rintro _ w ⟨rfl,hs⟩
     refine .gT rfl rfl ?_
     refine .z gV (.z zpF (.nil ?_))
     refine (.cond rfl (fun hc40=>?_) (fun hc40=>?_))
     ·refine .aj (.z zg (.nil ?_))
      refine .ret (rT (Fin.bH uo rfl ?_))
      exact ⟨H1,_,hle1,rfl,.inr ⟨fun h=>by have:=h.up;simp_all,rfl⟩,hs.out⟩
     ·refine .skip ?_
      refine nT ?_
      refine .aj (.z zg (.nil ?_))
      refine .ret (Fin.bH uo rfl ?_)
      have hg:=hG' (by simp_all)
      exact ⟨H1,_,hle1,rfl,.inl ⟨⟨hg.1,hg.2,by simp_all,by simp_all,by simp_all,by simp_all⟩,rfl⟩,hs.out⟩
theorem iW{s:Spc}{r:Rdg}{vst vwa:Value}(hs:St H w σ)(h1:RI H vst s.st)(h2:RI H vwa s.wa):
  Cl Tryz.prog 107 [.agg #[I s.id,I s.src,vst,vwa,I s.al,I s.up],.agg #[I r.src,I r.st,I r.wa,I r.val,I r.tol,I r.tape,I r.day]] w fun v w'=>∃b:Bool,v= .bool b∧(b=true↔jh s r)∧St H w' σ:=by
 obtain ⟨ast,cst,rfl⟩:=RI.shape h1
 obtain ⟨awa,cwa,rfl⟩:=RI.shape h2
 have l1:=(RI.len h1).2.2
 have l2:=(RI.len h2).2.2
 refine Cl.o Tryz.func107 Tryz.ntmps107 ag2 ?_
 refine .aj ?_
 refine .bx hs fun b2 w hs=>?_
 refine .bx hs fun b3 w hs=>?_
 refine .z zg (.nil (.aj (.z (zfa eg) (.y hs (zld af) ?_))))
 refine .o (.call Tryz.call106 rfl (gC hs) ?_);rintro _ w ⟨rfl,hs⟩
 refine .z zm ?_
 refine .bif (t':=8) rfl (fun hb8=>?_) (fun hb8=>?_)
 ·refine .gT rfl rfl ?_
  refine .z (zfa eM) ?_
  refine .gT rfl rfl ?_
  refine .y hs (zld af) ?_
  refine .gT rfl rfl ?_
  refine .z (zfa bp) ?_
  refine .gT rfl rfl ?_
  refine .y hs (zld an) ?_
  refine .gT rfl rfl ?_
  refine .z (cB ae) ?_
  refine .gT rfl rfl ?_
  refine .z gL ?_
  refine .gT rfl rfl ?_
  refine .o (.call dD rfl (br hs) ?_);rintro _ w ⟨rfl,hs⟩
  refine .z zpT (.z zm ?_)
  refine .bif (t':=17) rfl (fun hb17=>?_) (fun hb17=>?_)
  ·refine .gT rfl rfl ?_
   refine .z (zfa eL) ?_
   refine .gT rfl rfl ?_
   refine .y hs (zld af) ?_
   refine .gT rfl rfl ?_
   refine .z (zfa aW) ?_
   refine .gT rfl rfl ?_
   refine .y hs (zld an) ?_
   refine .gT rfl rfl ?_
   refine .z (cB ae) ?_
   refine .gT rfl rfl ?_
   refine .z gL ?_
   refine .gT rfl rfl ?_
   refine .o (.call dD rfl (br hs) ?_);rintro _ w ⟨rfl,hs⟩
   refine .z zpT (.z zm ?_)
   refine .bif (t':=26) rfl (fun hb26=>?_) (fun hb26=>?_)
   ·refine .gT rfl rfl ?_
    refine .z (zfa bY) ?_
    refine .gT rfl rfl ?_
    refine .y hs (zld af) ?_
    refine .gT rfl rfl ?_
    refine .o (.call dD rfl (br hs) ?_);rintro _ w ⟨rfl,hs⟩
    refine .z zpT (.z zm ?_)
    refine .bif (t':=31) rfl (fun hb31=>?_) (fun hb31=>?_)
    ·refine .gT rfl rfl ?_
     refine .z (zfa cM) ?_
     refine .gT rfl rfl ?_
     refine .y hs (zld af) ?_
     refine .gT rfl rfl ?_
     refine .z (zfa bY) ?_
     refine .gT rfl rfl ?_
     refine .y hs (zld af) ?_
     refine .gT rfl rfl ?_
     have ht:0≤r.tol∧r.tol≤1000:=by simp_all
     refine .z gL ?_
     refine .gT rfl rfl ?_
     refine .o (.call dD rfl (br hs) ?_);rintro _ w ⟨rfl,hs⟩
     refine .z zpT (.z zm ?_)
     refine .bif (t':=39) rfl (fun hb39=>?_) (fun hb39=>?_)
     ·refine .gT rfl rfl ?_
      refine .z (zfa ef) ?_
      refine .gT rfl rfl ?_
      refine .y hs (zld af) ?_
      refine .gT rfl rfl ?_
      refine .o (.call dD rfl (br hs) ?_);rintro _ w ⟨rfl,hs⟩
      refine .z zpT (.z zm ?_)
      refine .bif (t':=44) rfl (fun hb44=>?_) (fun hb44=>?_)
      ·refine .gT rfl rfl ?_
       refine .z (zfa ee) ?_
       refine .gT rfl rfl ?_
       refine .y hs (zld af) ?_
       refine .gT rfl rfl ?_
       refine .o (.call dD rfl (br hs) ?_);rintro _ w ⟨rfl,hs⟩
       refine .z zpT (.z zg (.nil ?_))
       refine .ret (Fin.bH mE rfl ?_)
       first
       |exact ⟨false,rfl,⟨fun h=>(by cases h),fun h=>(by obtain ⟨g1,g2,g3,g4,g5,g6,g7⟩:=h;simp_all;done)⟩,hs.out⟩
       |exact ⟨_,rfl,⟨fun h=>⟨by simp_all,by simp_all,by simp_all,by simp_all,by simp_all,by simp_all,by simpa using h⟩,fun h=>by simpa using h.day⟩,hs.out⟩
      ·refine .gFs 3 39 true rfl rfl rfl ?_
       refine .z zpF (.z zg (.nil ?_))
       refine .ret (Fin.bH mE rfl ?_)
       first
       |exact ⟨false,rfl,⟨fun h=>(by cases h),fun h=>(by obtain ⟨g1,g2,g3,g4,g5,g6,g7⟩:=h;simp_all;done)⟩,hs.out⟩
       |exact ⟨_,rfl,⟨fun h=>⟨by simp_all,by simp_all,by simp_all,by simp_all,by simp_all,by simp_all,by simpa using h⟩,fun h=>by simpa using h.day⟩,hs.out⟩
     ·refine .gFs 3 34 true rfl rfl rfl ?_
      refine .z zpF (.z zm ?_)
      refine .gFs 3 39 true rfl rfl rfl ?_
      refine .z zpF (.z zg (.nil ?_))
      refine .ret (Fin.bH mE rfl ?_)
      first
      |exact ⟨false,rfl,⟨fun h=>(by cases h),fun h=>(by obtain ⟨g1,g2,g3,g4,g5,g6,g7⟩:=h;simp_all;done)⟩,hs.out⟩
      |exact ⟨_,rfl,⟨fun h=>⟨by simp_all,by simp_all,by simp_all,by simp_all,by simp_all,by simp_all,by simpa using h⟩,fun h=>by simpa using h.day⟩,hs.out⟩
    ·refine .gFs 6 26 true rfl rfl rfl ?_
     refine .z zpF (.z zm ?_)
     refine .gFs 3 34 true rfl rfl rfl ?_
     refine .z zpF (.z zm ?_)
     refine .gFs 3 39 true rfl rfl rfl ?_
     refine .z zpF (.z zg (.nil ?_))
     refine .ret (Fin.bH mE rfl ?_)
     first
     |exact ⟨false,rfl,⟨fun h=>(by cases h),fun h=>(by obtain ⟨g1,g2,g3,g4,g5,g6,g7⟩:=h;simp_all;done)⟩,hs.out⟩
     |exact ⟨_,rfl,⟨fun h=>⟨by simp_all,by simp_all,by simp_all,by simp_all,by simp_all,by simp_all,by simpa using h⟩,fun h=>by simpa using h.day⟩,hs.out⟩
   ·refine .gFs 3 21 true rfl rfl rfl ?_
    refine .z zpF (.z zm ?_)
    refine .gFs 6 26 true rfl rfl rfl ?_
    refine .z zpF (.z zm ?_)
    refine .gFs 3 34 true rfl rfl rfl ?_
    refine .z zpF (.z zm ?_)
    refine .gFs 3 39 true rfl rfl rfl ?_
    refine .z zpF (.z zg (.nil ?_))
    refine .ret (Fin.bH mE rfl ?_)
    first
    |exact ⟨false,rfl,⟨fun h=>(by cases h),fun h=>(by obtain ⟨g1,g2,g3,g4,g5,g6,g7⟩:=h;simp_all;done)⟩,hs.out⟩
    |exact ⟨_,rfl,⟨fun h=>⟨by simp_all,by simp_all,by simp_all,by simp_all,by simp_all,by simp_all,by simpa using h⟩,fun h=>by simpa using h.day⟩,hs.out⟩
  ·refine .gFs 7 12 true rfl rfl rfl ?_
   refine .z zpF (.z zm ?_)
   refine .gFs 3 21 true rfl rfl rfl ?_
   refine .z zpF (.z zm ?_)
   refine .gFs 6 26 true rfl rfl rfl ?_
   refine .z zpF (.z zm ?_)
   refine .gFs 3 34 true rfl rfl rfl ?_
   refine .z zpF (.z zm ?_)
   refine .gFs 3 39 true rfl rfl rfl ?_
   refine .z zpF (.z zg (.nil ?_))
   refine .ret (Fin.bH mE rfl ?_)
   first
   |exact ⟨false,rfl,⟨fun h=>(by cases h),fun h=>(by obtain ⟨g1,g2,g3,g4,g5,g6,g7⟩:=h;simp_all;done)⟩,hs.out⟩
   |exact ⟨_,rfl,⟨fun h=>⟨by simp_all,by simp_all,by simp_all,by simp_all,by simp_all,by simp_all,by simpa using h⟩,fun h=>by simpa using h.day⟩,hs.out⟩
 ·refine .gFs 7 3 true rfl rfl rfl ?_
  refine .z zpF (.z zm ?_)
  refine .gFs 7 12 true rfl rfl rfl ?_
  refine .z zpF (.z zm ?_)
  refine .gFs 3 21 true rfl rfl rfl ?_
  refine .z zpF (.z zm ?_)
  refine .gFs 6 26 true rfl rfl rfl ?_
  refine .z zpF (.z zm ?_)
  refine .gFs 3 34 true rfl rfl rfl ?_
  refine .z zpF (.z zm ?_)
  refine .gFs 3 39 true rfl rfl rfl ?_
  refine .z zpF (.z zg (.nil ?_))
  refine .ret (Fin.bH mE rfl ?_)
  first
  |exact ⟨false,rfl,⟨fun h=>(by cases h),fun h=>(by obtain ⟨g1,g2,g3,g4,g5,g6,g7⟩:=h;simp_all;done)⟩,hs.out⟩
  |exact ⟨_,rfl,⟨fun h=>⟨by simp_all,by simp_all,by simp_all,by simp_all,by simp_all,by simp_all,by simpa using h⟩,fun h=>by simpa using h.day⟩,hs.out⟩
theorem mM{c:Cmp}(hs:St H w σ):
  Cl Tryz.prog 108 [.agg #[I c.src,I c.tape,I c.fr,I c.to,I c.lo,I c.hi]] w fun v w'=>∃b:Bool,v= .bool b∧(b=true↔po c)∧St H w' σ:=by
 refine Cl.o Tryz.func108 Tryz.ntmps108 ag1 ?_
 refine .aj ?_
 refine .bx hs fun b1 w hs=>?_
 refine .z zg (.nil (.aj (.z (zfa fZ) (.y hs (zld af) ?_))))
 refine .o (.call Tryz.call106 rfl (gC hs) ?_);rintro _ w ⟨rfl,hs⟩
 refine .z zm ?_
 refine .bif (t':=6) rfl (fun hb6=>?_) (fun hb6=>?_)
 ·refine .gT rfl rfl ?_
  refine .z (zfa ia) ?_
  refine .gT rfl rfl ?_
  refine .y hs (zld af) ?_
  refine .gT rfl rfl ?_
  refine .o (.call dD rfl (br hs) ?_);rintro _ w ⟨rfl,hs⟩
  refine .z zpT (.z zm ?_)
  refine .bif (t':=11) rfl (fun hb11=>?_) (fun hb11=>?_)
  ·refine .gT rfl rfl ?_
   refine .z (zfa fq) ?_
   refine .gT rfl rfl ?_
   refine .y hs (zld af) ?_
   refine .gT rfl rfl ?_
   refine .z (zfa eP) ?_
   refine .gT rfl rfl ?_
   refine .y hs (zld af) ?_
   refine .gT rfl rfl ?_
   refine .o (.call dD rfl (br hs) ?_);rintro _ w ⟨rfl,hs⟩
   refine .z zpT (.z zm ?_)
   refine .bif (t':=18) rfl (fun hb18=>?_) (fun hb18=>?_)
   ·refine .gT rfl rfl ?_
    refine .z (zfa eP) ?_
    refine .gT rfl rfl ?_
    refine .y hs (zld af) ?_
    refine .gT rfl rfl ?_
    refine .o (.call dD rfl (br hs) ?_);rintro _ w ⟨rfl,hs⟩
    refine .z zpT (.z zm ?_)
    refine .bif (t':=23) rfl (fun hb23=>?_) (fun hb23=>?_)
    ·refine .gT rfl rfl ?_
     refine .z (zfa eO) ?_
     refine .gT rfl rfl ?_
     refine .y hs (zld af) ?_
     refine .gT rfl rfl ?_
     refine .z (zfa eN) ?_
     refine .gT rfl rfl ?_
     refine .y hs (zld af) ?_
     refine .gT rfl rfl ?_
     refine .o (.call dD rfl (br hs) ?_);rintro _ w ⟨rfl,hs⟩
     refine .z zpT (.z zm ?_)
     refine .bif (t':=30) rfl (fun hb30=>?_) (fun hb30=>?_)
     ·refine .gT rfl rfl ?_
      refine .z (zfa eN) ?_
      refine .gT rfl rfl ?_
      refine .y hs (zld af) ?_
      refine .gT rfl rfl ?_
      refine .o (.call dD rfl (br hs) ?_);rintro _ w ⟨rfl,hs⟩
      refine .z zpT (.z zg (.nil ?_))
      refine .ret (Fin.bH sd rfl ?_)
      first
      |exact ⟨false,rfl,⟨fun h=>(by cases h),fun h=>(by obtain ⟨g1,g2,g3,g4,g5,g6⟩:=h;simp_all;omega)⟩,hs.out⟩
      |exact ⟨false,rfl,⟨fun h=>(by cases h),fun h=>(by obtain ⟨g1,g2,g3,g4,g5,g6⟩:=h;simp_all;done)⟩,hs.out⟩
      |exact ⟨_,rfl,⟨fun h=>⟨by simp_all,by simp_all,by simp_all,by simp_all,by simp_all,(by simpa using h:_∧_).2⟩,fun h=>by have:=h.lo;have:=h.hi;simp;omega⟩,hs.out⟩
     ·refine .gFs 3 27 true rfl rfl rfl ?_
      refine .z zpF (.z zg (.nil ?_))
      refine .ret (Fin.bH sd rfl ?_)
      first
      |exact ⟨false,rfl,⟨fun h=>(by cases h),fun h=>(by obtain ⟨g1,g2,g3,g4,g5,g6⟩:=h;simp_all;omega)⟩,hs.out⟩
      |exact ⟨false,rfl,⟨fun h=>(by cases h),fun h=>(by obtain ⟨g1,g2,g3,g4,g5,g6⟩:=h;simp_all;done)⟩,hs.out⟩
      |exact ⟨_,rfl,⟨fun h=>⟨by simp_all,by simp_all,by simp_all,by simp_all,by simp_all,(by simpa using h:_∧_).2⟩,fun h=>by have:=h.lo;have:=h.hi;simp;omega⟩,hs.out⟩
    ·refine .gFs 5 20 true rfl rfl rfl ?_
     refine .z zpF (.z zm ?_)
     refine .gFs 3 27 true rfl rfl rfl ?_
     refine .z zpF (.z zg (.nil ?_))
     refine .ret (Fin.bH sd rfl ?_)
     first
     |exact ⟨false,rfl,⟨fun h=>(by cases h),fun h=>(by obtain ⟨g1,g2,g3,g4,g5,g6⟩:=h;simp_all;omega)⟩,hs.out⟩
     |exact ⟨false,rfl,⟨fun h=>(by cases h),fun h=>(by obtain ⟨g1,g2,g3,g4,g5,g6⟩:=h;simp_all;done)⟩,hs.out⟩
     |exact ⟨_,rfl,⟨fun h=>⟨by simp_all,by simp_all,by simp_all,by simp_all,by simp_all,(by simpa using h:_∧_).2⟩,fun h=>by have:=h.lo;have:=h.hi;simp;omega⟩,hs.out⟩
   ·refine .gFs 3 15 true rfl rfl rfl ?_
    refine .z zpF (.z zm ?_)
    refine .gFs 5 20 true rfl rfl rfl ?_
    refine .z zpF (.z zm ?_)
    refine .gFs 3 27 true rfl rfl rfl ?_
    refine .z zpF (.z zg (.nil ?_))
    refine .ret (Fin.bH sd rfl ?_)
    first
    |exact ⟨false,rfl,⟨fun h=>(by cases h),fun h=>(by obtain ⟨g1,g2,g3,g4,g5,g6⟩:=h;simp_all;omega)⟩,hs.out⟩
    |exact ⟨false,rfl,⟨fun h=>(by cases h),fun h=>(by obtain ⟨g1,g2,g3,g4,g5,g6⟩:=h;simp_all;done)⟩,hs.out⟩
    |exact ⟨_,rfl,⟨fun h=>⟨by simp_all,by simp_all,by simp_all,by simp_all,by simp_all,(by simpa using h:_∧_).2⟩,fun h=>by have:=h.lo;have:=h.hi;simp;omega⟩,hs.out⟩
  ·refine .gFs 5 8 true rfl rfl rfl ?_
   refine .z zpF (.z zm ?_)
   refine .gFs 3 15 true rfl rfl rfl ?_
   refine .z zpF (.z zm ?_)
   refine .gFs 5 20 true rfl rfl rfl ?_
   refine .z zpF (.z zm ?_)
   refine .gFs 3 27 true rfl rfl rfl ?_
   refine .z zpF (.z zg (.nil ?_))
   refine .ret (Fin.bH sd rfl ?_)
   first
   |exact ⟨false,rfl,⟨fun h=>(by cases h),fun h=>(by obtain ⟨g1,g2,g3,g4,g5,g6⟩:=h;simp_all;omega)⟩,hs.out⟩
   |exact ⟨false,rfl,⟨fun h=>(by cases h),fun h=>(by obtain ⟨g1,g2,g3,g4,g5,g6⟩:=h;simp_all;done)⟩,hs.out⟩
   |exact ⟨_,rfl,⟨fun h=>⟨by simp_all,by simp_all,by simp_all,by simp_all,by simp_all,(by simpa using h:_∧_).2⟩,fun h=>by have:=h.lo;have:=h.hi;simp;omega⟩,hs.out⟩
 ·refine .gFs 3 3 true rfl rfl rfl ?_
  refine .z zpF (.z zm ?_)
  refine .gFs 5 8 true rfl rfl rfl ?_
  refine .z zpF (.z zm ?_)
  refine .gFs 3 15 true rfl rfl rfl ?_
  refine .z zpF (.z zm ?_)
  refine .gFs 5 20 true rfl rfl rfl ?_
  refine .z zpF (.z zm ?_)
  refine .gFs 3 27 true rfl rfl rfl ?_
  refine .z zpF (.z zg (.nil ?_))
  refine .ret (Fin.bH sd rfl ?_)
  first
  |exact ⟨false,rfl,⟨fun h=>(by cases h),fun h=>(by obtain ⟨g1,g2,g3,g4,g5,g6⟩:=h;simp_all;omega)⟩,hs.out⟩
  |exact ⟨false,rfl,⟨fun h=>(by cases h),fun h=>(by obtain ⟨g1,g2,g3,g4,g5,g6⟩:=h;simp_all;done)⟩,hs.out⟩
  |exact ⟨_,rfl,⟨fun h=>⟨by simp_all,by simp_all,by simp_all,by simp_all,by simp_all,(by simpa using h:_∧_).2⟩,fun h=>by have:=h.lo;have:=h.hi;simp;omega⟩,hs.out⟩
theorem fM{s:Spc}{vst vwa:Value}(hs:St H w σ)(h1:RI H vst s.st)(h2:RI H vwa s.wa)(hb:s.st.length≤1000∧s.wa.length≤1000):
  Cl Tryz.prog 91 [.agg #[I s.id,I s.src,vst,vwa,I s.al,I s.up]] w fun v w'=>v=I (s.many:Int)∧St H w' σ:=by
 obtain ⟨ast,cst,rfl⟩:=RI.shape h1
 obtain ⟨awa,cwa,rfl⟩:=RI.shape h2
 have hm:=kr (a:=(s.st.length:Int)) (b:=(s.wa.length:Int)) (A:=1000) (B:=1000) ak ak
 refine Cl.o Tryz.func91 Tryz.ntmps91 ag1 ?_
 refine .aj ?_
 refine .bx hs fun b1 w hs=>?_
 refine .z zg (.nil (.aj (.z (zfa bp) (.y hs (zld an) (.z (cB ae) (.z (zfa aW) (.y hs (zld an) (.z (cB ae) (.z jS ?_)))))))))
 refine .z zg (.nil ?_)
 refine .ret (Fin.bH Tryz.results91 rfl ?_)
 exact ⟨by unfold Spc.many;rw [Int.natCast_mul],hs.out⟩
theorem jY{s:Spc}{vst vwa:Value}{a b:Int}(hs:St H w σ)(h2:RI H vwa s.wa)(hb:s.wa.length≤1000)(ha: -1000≤a∧a≤1000)(hb': -1000≤b∧b≤1000):
  Cl Tryz.prog 118 [.agg #[I s.id,I s.src,vst,vwa,I s.al,I s.up],I a,I b] w fun v w'=>v=I (1+a*s.wa.length+b)∧St H w' σ:=by
 obtain ⟨awa,cwa,rfl⟩:=RI.shape h2
 have hm:=kr (a:=a) (b:=(s.wa.length:Int)) (A:=1000) (B:=1000) ak ak
 refine Cl.o Tryz.func118 Tryz.ntmps118 ag3 ?_
 refine .aj ?_
 refine .bx hs fun b3 w hs=>?_
 refine .z zg (.nil (.aj (.z zm (.z (zfa aW) (.y hs (zld an) (.z (cB ae) (.z jS (.z ck (.z zm ?_)))))))))
 refine .z ck (.z zg (.nil ?_))
 refine .ret (Fin.bH Tryz.results118 rfl ?_)
 exact ⟨rfl,hs.out⟩
theorem fb{r:Rdg}(hs:St H w σ):
  Cl Tryz.prog 114 [.agg #[I r.src,I r.st,I r.wa,I r.val,I r.tol,I r.tape,I r.day]] w fun v w'=>v= .agg #[I r.tape,I r.day]∧St H w' σ:=by
 refine Cl.o Tryz.func114 Tryz.ntmps114 ag1 ?_
 refine .aj ?_
 refine .bx hs fun b1 w hs=>?_
 refine .o (.alloc hs lk rfl fun b2 w hs=>?_)
 refine .nil (.aj (.z (zfa ef) (.y hs (zld af) (.z (zfa ee) (.y hs (zld af) (.z (zbd [_,_] fO) ?_))))))
 refine .o (.aZ (vs:=[_,_]) hs rfl rfl bw fun w hs=>?_)
 refine .nil ?_
 refine .ret ?_
 exact Fin.iA [] [] hs fun w hs=>⟨_,results1 Tryz.results114 (dF (vs:=[_,_]) hs rfl dC bw),rfl,hs.out⟩
theorem lQ{a b:Int}(hs:St H w σ)(ha:0≤a∧a≤100000)(hb:0≤b∧b≤100000):
  Cl Tryz.prog 230 [I a,I b] w fun v w'=>v=I (jK a b)∧St H w' σ:=by
 have hm:=kr (a:=a) (b:=b) (A:=100000) (B:=100000) ak ak
 have h0:=Int.mul_nonneg ha.1 hb.1
 have hq0:0≤(a*b+999).tdiv 1000:=Int.tdiv_nonneg ak ak
 have hq1:(a*b+999).tdiv 1000≤a*b+999:=by rw [Int.tdiv_eq_ediv_of_nonneg ak];omega
 refine Cl.o Tryz.func230 Tryz.ntmps230 ag2 ?_
 refine .aj (.z zg (.nil (.aj (.z zm (.z zm (.z jS (.z ck ?_)))))))
 refine .q hs (te rfl rfl ak ak) ?_
 refine .z zr (.z zg (.nil ?_))
 refine .ret (Fin.bH Tryz.results230 rfl ?_)
 exact ⟨rfl,hs⟩
def uQ(s:Spc):List (List Value):=(List.range s.many).map fun p=>[Value.agg #[I ((p/s.wa.length:Nat):Int),I ((p%s.wa.length:Nat):Int),I ((p+1:Nat):Int)]]
theorem ea(s:Spc):(uQ s).length=s.many:=by simp [uQ]
theorem mg{s:Spc}{p:Nat}(h:p<(uQ s).length):(uQ s)[p]=[Value.agg #[I ((p/s.wa.length:Nat):Int),I ((p%s.wa.length:Nat):Int),I ((p+1:Nat):Int)]]:=by simp [uQ]
theorem pR{H:bX}{b:Nat}{s:Spc}{vst vwa:Value}(hb:Row H b [I s.id,I s.src,vst,vwa,I s.al,I s.up])(h1:RI H vst s.st)(h2:RI H vwa s.wa)(hbd:s.st.length≤1000∧s.wa.length≤1000):
  Iter Tryz.prog 190 [.pointer (some ⟨b,0,none⟩)] H (uQ s):=by
 intro ly II Ix hmI _ hy H0 σb0 σf w hle hI0 hs
 obtain ⟨ast,cst,rfl⟩:=RI.shape h1
 obtain ⟨awa,cwa,rfl⟩:=RI.shape h2
 have g2:cellAt H0 b 2=some (.slice ast s.st.length cst):=cellAt.mono (hb.at 2) hle
 have g3:cellAt H0 b 3=some (.slice awa s.wa.length cwa):=cellAt.mono (hb.at 3) hle
 have hm:s.many≤1000000:=Nat.mul_le_mul hbd.1 hbd.2
 refine Cl.o Tryz.func190 Tryz.ntmps190 ag2 ?_
 refine .aj (.z zg (.nil (.aj (.z (zfa bp) (.y hs (zld an) (.z (cB ae) (.z zm (.nil ?_))))))))
 refine .for (N:=s.st.length) (J:=fun i fr w=>fr=[(3,I ((i*s.wa.length:Nat):Int)),(0,.func (.yield ly) #[] #[]),(1,.pointer (some ⟨b,0,none⟩))]∧∃H1 σb,HLe H H1∧HLe H0 H1∧II (i*s.wa.length) H1 σb∧St H1 w (σb++σf)) ak ?_ ?_ ?_
 ·exact .mk ⟨by rw [Nat.zero_mul],H0,σb0,hle,HLe.refl _,by rw [Nat.zero_mul];exact hI0,hs⟩
 ·rintro i fr w hi ⟨rfl,H1,σb,hle1,hle0,hI,hs⟩
  have h23:=cellAt.mono g3 hle0
  refine .block (.aj (.z zm (.z zg (.nil (.aj (.z (zfa aW) (.y hs (zld an) (.z (cB ae) (.z zm ?_)))))))))
  refine .nil ?_
  refine .for (N:=s.wa.length) (J:=fun k fr w=>fr=[(3,I ((i*s.wa.length+k:Nat):Int)),(4,I (i:Int)),(9,I (i:Int)),(8,I (s.st.length:Int)),(0,.func (.yield ly) #[] #[]),(1,.pointer (some ⟨b,0,none⟩))]∧∃H3 σb,HLe H1 H3∧II (i*s.wa.length+k) H3 σb∧St H3 w (σb++σf)) ak ?_ ?_ ?_
  ·exact .mk ⟨rfl,H1,σb,HLe.refl _,hI,hs⟩
  ·rintro k fr w hk ⟨rfl,H3,σb3,hle3,hI3,hs⟩
   obtain ⟨d1,d2⟩:=DI (nw:=s.wa.length) (i:=i) (k:=k) hk
   have hlt:=Gi hi hk
   refine .block (.aj (.z zm (.z zg (.nil (.aj (.z zm (.z ck (.z zg (.nil ?_)))))))))
   refine .aj (.z zm (.z zm (.z zm (.z zm (.z (zbd [_,_,_] ql) ?_)))))
   have hk':i*s.wa.length+k<(uQ s).length:=by rw [ea];exact hlt
   have hyd:=hy (i*s.wa.length+k) hk' H3 σb3 σf w (hle1.trans hle3) hI3 hs
   rw [mg hk',d1,d2,show ((i*s.wa.length+k+1:Nat):Int)=((i*s.wa.length+k:Nat):Int)+1 by omega] at hyd
   refine .o (.yield rfl rfl hyd ?_);rintro v25 w ⟨H5,σ5,g1,hs,g3'⟩
   obtain ⟨bb,rfl,gT,gF⟩:=oG g3'
   refine .z gV (.nil ?_)
   refine (.cond rfl (fun hc26=>?_) (fun hc26=>?_))
   ·refine .ret (rB (rT (rB (rB (rT (rB (Fin.EK Tryz.results190 ?_)))))))
    exact ⟨H5,σ5,hle0.trans (hle3.trans g1),hs,.inr (gF (by simpa using hc26))⟩
   ·refine .skip ?_
    refine nB (nT ?_)
    exact .mk ⟨rfl,H5,σ5,hle3.trans g1,gT (by simpa using hc26),hs⟩
  ·rintro fr w ⟨rfl,H3,σb3,hle3,hI3,hs⟩
   have e:i*s.wa.length+s.wa.length=(i+1)*s.wa.length:=by rw [Nat.add_mul,Nat.one_mul]
   rw [e] at hI3 ⊢
   refine nB (nT ?_)
   exact .mk ⟨rfl,H3,σb3,hle1.trans hle3,hle0.trans hle3,hI3,hs⟩
 ·rintro fr w ⟨rfl,H1,σb,hle1,hle0,hI,hs⟩
  exact Fin.xu Tryz.results190 ⟨H1,σb,hle0,hs,.inl (by rw [ea];exact hI)⟩
theorem fp{s:Spc}{vst vwa:Value}(hs:St H w σ)(h1:RI H vst s.st)(h2:RI H vwa s.wa)(hbd:s.st.length≤1000∧s.wa.length≤1000):
  Cl Tryz.prog 103 [.agg #[I s.id,I s.src,vst,vwa,I s.al,I s.up]] w fun u w'=>∃H1 b,HLe H H1∧u= .func (.func 190) #[] #[.pointer (some ⟨b,0,none⟩)]∧Iter Tryz.prog 190 [.pointer (some ⟨b,0,none⟩)] H1 (uQ s)∧St H1 w' σ:=by
 obtain ⟨ast,cst,rfl⟩:=RI.shape h1
 obtain ⟨awa,cwa,rfl⟩:=RI.shape h2
 refine Cl.o Tryz.func103 Tryz.ntmps103 ag1 ?_
 refine .aj ?_
 refine .bx hs fun b1 w hs=>?_
 refine .z zg (.nil (.aj ?_))
 refine .q hs (du (f:=[]) (c:=[_]) rfl rfl) ?_
 refine .z zg (.nil ?_)
 refine .ret (Fin.bH Tryz.results103 rfl ?_)
 obtain ⟨H1,g1,g2,hs⟩:=hs.cq .here
 exact ⟨H1,b1,g1,rfl,pR g2 (h1.mono g1) (h2.mono g1) hbd,hs⟩
set_option maxRecDepth 100000 in
theorem pz:Tryz.prog.stoodInHeld 49=false:=by kernel_rfl
set_option maxRecDepth 100000 in
theorem pA:Tryz.prog.eqGuardType Tryz.prog.depth 49=false:=by kernel_rfl
theorem oM{v:Value}{en:Ent}{xs:List TD}{g:Nat}{cap:List Value}(q:TD→Bool)(hs:St H w (en::σ))(hO:cf 2 v (tdc xs).flatten en)(hl:xs.length≤1000000)(hc:∀args w,(callFunc g args).run Tryz.prog w= .ok (.enter g args) w)
  (hp:∀w (t:TD),St H w (en::σ)→Cl Tryz.prog g ([.agg #[I t.tape,I t.day]]++cap) w fun u w'=>u= .bool (q t)∧St H w' (en::σ)):
  Cl Tryz.prog 229 [v,.func (.func g) #[] cap.toArray] w fun u w'=>∃i:Int,u=I i∧(0≤i↔∃x∈xs,q x=true)∧St H w' (en::σ):=by
 obtain ⟨a,c,rfl⟩:=hO.jV (kE xs) ak
 rw [dr] at hO ⊢
 refine Cl.o Tryz.func229 Tryz.ntmps229 ag2 ?_
 refine .aj (.z zg (.nil (.seq (.aj (.z zm (.z (cB aU) (.z zm (.nil ?_))))))))
 refine .for (N:=xs.length) (J:=fun k fr w=>fr=[(1,.func (.func g) #[] cap.toArray),(0,.slice a xs.length c)]∧(∀j<k,∀y,xs[j]? =some y→¬q y=true)∧St H w (en::σ)) ak ?_ ?_ ?_
 ·exact .mk ⟨rfl,fun j hj=>by omega,hs⟩
 ·rintro k fr w hk ⟨rfl,hno,hs⟩
  obtain ⟨x,hx⟩:=nth hk
  obtain ⟨b,c',sp,hv,rfl,_⟩:=hO.Ey (kE xs) ak (by rw [dr];omega)
  rw [dr] at hv
  cases hv
  refine .block (.aj (.z zm (.z zg (.nil (.aj (.z zm (.z zm (.z zm (.z (nQ aU bw) ?_)))))))))
  refine .q hs (kq (vs:=x.c) rfl dC bw .here (uE (kE xs) (xz hx) sp)) ?_
  refine .o (.o8 (first:=[]) (cap:=cap) rfl rfl hc (hp _ x hs) ?_);rintro _ w ⟨rfl,hs⟩
  refine .nil ?_
  refine (.cond rfl (fun hc16=>?_) (fun hc16=>?_))
  ·refine .aj (.z zm (.z zg (.nil ?_)))
   refine .ret (rB (rT (rB (rT (Fin.bH Tryz.results229 rfl ?_)))))
   exact ⟨_,rfl,⟨fun _=>⟨x,List.mem_of_getElem? hx,hc16⟩,fun _=>by omega⟩,hs⟩
  ·refine .skip ?_
   refine nB (nT ?_)
   exact .mk ⟨rfl,e9 hno hx (by simpa using hc16),hs⟩
 ·rintro fr w ⟨rfl,hno,hs⟩
  refine nT ?_
  refine .aj (.z zg (.nil ?_))
  refine .ret (Fin.bH Tryz.results229 rfl ?_)
  exact ⟨_,rfl,⟨fun h=>by omega,fun ⟨x,h1,h2⟩=>by
   obtain ⟨j,hj⟩:=List.getElem?_of_mem h1
   exact (hno j (List.getElem?_eq_some_iff.1 hj).1 x hj h2).elim⟩,hs⟩
theorem mK{v:Value}{en:Ent}{xs:List TD}{g:Nat}{cap:List Value}(q:TD→Bool)(hs:St H w (en::σ))(hO:cf 2 v (tdc xs).flatten en)(hl:xs.length≤1000000)(hc:∀args w,(callFunc g args).run Tryz.prog w= .ok (.enter g args) w)
  (hp:∀w (t:TD),St H w (en::σ)→Cl Tryz.prog g ([.agg #[I t.tape,I t.day]]++cap) w fun u w'=>u= .bool (q t)∧St H w' (en::σ)):
  Cl Tryz.prog 172 [v,.func (.func g) #[] cap.toArray] w fun u w'=>∃b:Bool,u= .bool b∧(b=true↔∃x∈xs,q x=true)∧St H w' (en::σ):=by
 refine Cl.o Tryz.func172 Tryz.ntmps172 ag2 ?_
 refine .aj (.z zg (.nil (.aj (.z zm (.z zm ?_)))))
 refine .o (.call Tryz.call229 rfl (oM q hs hO hl hc hp) ?_);rintro _ w ⟨i,rfl,hi,hs⟩
 refine .z xt (.z zg (.nil ?_))
 refine .ret (Fin.bH Tryz.results172 rfl ?_)
 exact ⟨_,rfl,by simp only [decide_eq_true_eq];exact hi,hs⟩
theorem mZ{v:Value}{xs:List TD}{t:TD}(hs:St H w σ)(hr:RTd H v xs)(hl:xs.length≤1000000):
  Cl Tryz.prog 89 [v,.agg #[I t.tape,I t.day]] w fun u w'=>u=I (ij xs t)∧St H w' σ:=by
 obtain ⟨a,c,rfl⟩:=RTd.shape hr
 refine Cl.o Tryz.func89 Tryz.ntmps89 ag2 ?_
 refine .aj ?_
 refine .bx hs fun b3 w hs=>?_
 refine .z zg (.nil (.seq (.aj (.z zm (.z (cB aU) (.z zm (.nil ?_)))))))
 refine .for (N:=xs.length) (J:=fun k fr w=>fr=[(0,.slice a xs.length c),(3,.pointer (some ⟨b3,0,none⟩))]∧(∀j<k,∀y,xs[j]? =some y→¬y=t)∧St H w (.blk b3 [I t.tape,I t.day]::σ)) ak ?_ ?_ ?_
 ·exact .mk ⟨rfl,fun j hj=>by omega,hs⟩
 ·rintro k fr w hk ⟨rfl,hno,hs⟩
  obtain ⟨x,hx⟩:=nth hk
  refine .block (.aj (.z zm (.z zg (.nil ?_))))
  refine .seq (.draw mix rfl hs fun w hs=>?_)
  refine .ys 0 rfl hs [_,_] dC bw ?_;refine .z 1 rfl zm ?_;refine .z 2 rfl zm ?_
  refine .ixX (enc:=TD.c) (i:=3) hs rfl au .none hr rfl rfl aU bw hx cD ?_;intro b14 o14 hc14
  refine .r (i:=4) hs rfl au .none (cI (vs:=x.c) rfl dC bw hc14) ?_
  refine .z 5 rfl (rm pz pA fS (fun f hf=>by
   simp only [List.mem_cons,List.not_mem_nil,or_false] at hf
   rcases hf with rfl|rfl<;>exact ⟨by decide,bh,af⟩) rfl rfl) ?_
  refine .D hs ?_
  refine (.cond rfl (fun hc16=>?_) (fun hc16=>?_))
  ·refine .aj (.z zm (.z zg (.nil ?_)))
   refine .ret (rB (rT (rB (rT (Fin.bH Tryz.results89 rfl ?_)))))
   have e:x=t:=As.1 (by have:=of_decide_eq_true hc16;exact ⟨this.1.symm,this.2.symm⟩)
   subst e
   exact ⟨by rw [mW hx fun j hj h=>hno j hj _ h rfl],hs.tail⟩
  ·refine .skip ?_
   refine nB (nT ?_)
   exact .mk ⟨rfl,e9 hno hx (fun e=>by subst e;simp at hc16),hs⟩
 ·rintro fr w ⟨rfl,hno,hs⟩
  refine nT ?_
  refine .aj (.z zg (.nil ?_))
  refine .ret (Fin.bH Tryz.results89 rfl ?_)
  exact ⟨by rw [sf hno],hs.tail⟩
theorem nW{t:TD}{r:Rdg}{b:Nat}(hs:St H w σ)(hb:Row H b r.c):
  Cl Tryz.prog 173 [.agg #[I t.tape,I t.day],.pointer (some ⟨b,0,none⟩)] w fun u w'=>u= .bool (decide (t=r.td))∧St H w' σ:=by
 have hb0:bu H b 0 r.c:=hb.cells 0 r.c
 refine Cl.o Tryz.func173 Tryz.ntmps173 ag2 ?_
 refine .aj ?_
 refine .bx hs fun b2 w hs=>?_
 refine .z zg (.nil ?_)
 refine .seq (.draw mix rfl hs fun w hs=>?_)
 refine .ys 0 rfl hs [_,_] dC bw ?_;refine .ys 1 rfl hs [_,_,_,_,_,_,_] dB aF ?_
 refine .E 2 hs ?_
 refine .call Gg rfl (fb hs) ?_;rintro _ w ⟨rfl,hs⟩
 refine .go ?_
 refine .z 3 rfl (rm pz pA fS (fun f hf=>by
  simp only [List.mem_cons,List.not_mem_nil,or_false] at hf
  rcases hf with rfl|rfl<;>exact ⟨by decide,bh,af⟩) rfl rfl) ?_
 refine .z 4 rfl zg ?_;refine .D hs ?_
 refine .ret (Fin.bH Tryz.results173 rfl ?_)
 exact ⟨by congr 1;rw [decide_eq_decide];exact As (t:=t) (u:=r.td),hs.tail⟩
set_option maxHeartbeats 1000000 in
theorem lP{s:Srv}{vst vwa vr vc:Value}(hs:St H w σ)(hr:RRd H vr s.rs)(hl:s.rs.length≤1000000):
  Cl Tryz.prog 90 [.agg #[I s.sp.id,I s.sp.src,vst,vwa,I s.sp.al,I s.sp.up,vr,vc]] w fun u w'=>∃H1 en,HLe H H1∧cf 2 u (tdc s.bq).flatten en∧St H1 w' (en::σ):=by
 obtain ⟨ar,cr,rfl⟩:=RRd.shape hr
 refine Cl.o Tryz.func90 Tryz.ntmps90 ag1 ?_
 refine .aj ?_
 refine .bx hs fun b1 w hs=>?_
 refine .z zg (.nil (.aj (.z zg (.nil (.seq (.aj (.z (zfa aM) (.y hs (zld bj) (.z (cB aA) ?_)))))))))
 refine .z zm (.nil ?_)
 refine .for (N:=s.rs.length) (J:=fun k fr w=>∃vo en H1,fr=[(7,.slice ar s.rs.length cr),(3,vo)]∧HLe H H1∧cf 2 vo (tdc (bg (s.rs.take k))).flatten en∧St H1 w (en::σ)) ak ?_ ?_ ?_
 ·exact .mk ⟨_,.nul,H,rfl,HLe.refl _,.nil 2 none,hs.tail.nul⟩
 ·rintro k fr w hk ⟨vo,en,H1,rfl,hle1,hO,hs⟩
  obtain ⟨r,hx⟩:=nth hk
  have htk:=jm hx
  have htl:=kl s.rs k ak
  obtain ⟨ao,co,rfl⟩:=hO.jV (kE _) ak
  rw [dr] at hO ⊢
  refine .block (.aj ?_)
  refine .ixX (enc:=Rdg.c) hs (hr.mono hle1) rfl rfl aA aF hx cD ?_;intro b11 o11 hc11
  refine .q hs (cI (vs:=(Rdg.c r)) rfl dB aF hc11) ?_
  refine .o (.alloc hs ek rfl fun b5 w hs=>?_)
  refine .o (.aZ (vs:=r.c) hs rfl rfl aF fun w hs=>?_)
  obtain ⟨H2,hle2,r5,hs⟩:=hs.cq (b:=b5) (c:=r.c) .here
  have c5:bu H2 b5 0 r.c:=r5.cells 0 r.c
  refine .nil (.aj (.z zm ?_))
  refine .q hs (du (f:=[]) (c:=[_]) rfl rfl) ?_
  refine .o (.call Tryz.call172 rfl (mK (g:=173) (cap:=[.pointer (some ⟨b5,0,none⟩)]) (fun t=>decide (t=r.td)) hs hO ak Tryz.call173 (fun w t hs=>nW hs r5)) ?_);rintro _ w ⟨b15,rfl,hb15,hs⟩
  refine .z gV (.nil ?_)
  refine (.cond rfl (fun hc16=>?_) (fun hc16=>?_))
  ·refine .region (.z zm ?_)
   refine .q hs (cI (vs:=r.c) rfl dB aF c5) ?_
   refine .o (.call Gg rfl (fb (r:=r) hs) ?_);rintro _ w ⟨rfl,hs⟩
   refine .o (.buildSlice (cells:=[_,_]) hs fI rfl rfl fun b20 w hs=>?_)
   refine .o (.append (ys:=r.td.c) hs dK rfl rfl hO (.own .here rfl rfl) (by simp [TD.c,Value.oneCell']) (fun l h=>by rw [bT _ (kE _),dr] at h;omega) ?_);intro v21 en21 w hO2 hs
   refine .z zg (.nil ?_)
   refine nB (nT ?_)
   have hn:r.td∉bg (s.rs.take k):=fun hm=>by
    rw [hb15.2 ⟨_,hm,bL⟩] at hc16;cases hc16
   rw [←se,show bg (s.rs.take k)++[r.td]=bg (s.rs.take (k+1)) by rw [htk];unfold qp;rw [if_neg hn]] at hO2
   exact .mk ⟨_,_,H2,rfl,hle1.trans hle2,hO2,hs.sb⟩
  ·refine .skip ?_
   refine nB (nT ?_)
   have hm:r.td∈bg (s.rs.take k):=by
    obtain ⟨x,h1,h2⟩:=hb15.1 (by simpa using hc16)
    rw [←of_decide_eq_true h2];exact h1
   exact .mk ⟨_,_,H2,rfl,hle1.trans hle2,by rw [htk];unfold qp;rw [if_pos hm];exact hO,hs⟩
 ·rintro fr w ⟨vo,en,H1,rfl,hle1,hO,hs⟩
  rw [List.take_length] at hO
  refine nT ?_
  refine .aj (.z zm (.z zg (.nil ?_)))
  refine .ret (Fin.bH Tryz.results90 rfl ?_)
  exact ⟨H1,en,hle1,hO,hs⟩
theorem iM{s:Srv}{vst vwa vr vc:Value}(hs:St H w σ)(hr:RRd H vr s.rs)(hl:s.rs.length≤1000000):
  Cl Tryz.prog 90 [.agg #[I s.sp.id,I s.sp.src,vst,vwa,I s.sp.al,I s.sp.up,vr,vc]] w fun u w'=>∃H1,HLe H H1∧RTd H1 u s.bq∧St H1 w' σ:=by
 refine (lP hs hr hl).mono ?_
 rintro u w' ⟨H1,en,hle1,hO,hs⟩
 have htl:=dp s.rs
 have htl':s.bq.length≤1000000:=by unfold Srv.bq;omega
 obtain ⟨H2,hle2,hR,hs⟩:=cf.cq (m:=2) hO (kE _) ak (by rw [dr];omega) hs .here
 exact ⟨H2,hle1.trans hle2,hR,hs⟩
theorem pG{v:Value}{en:Ent}{xs:List TD}{t:TD}(hs:St H w (en::σ))(hO:cf 2 v (tdc xs).flatten en)(hl:xs.length≤1000000):
  Cl Tryz.prog 89 [v,.agg #[I t.tape,I t.day]] w fun u w'=>u=I (ij xs t)∧St H w' (en::σ):=by
 obtain ⟨a,c,rfl⟩:=hO.jV (kE xs) ak
 rw [dr] at hO ⊢
 refine Cl.o Tryz.func89 Tryz.ntmps89 ag2 ?_
 refine .aj ?_
 refine .bx hs fun b3 w hs=>?_
 refine .z zg (.nil (.seq (.aj (.z zm (.z (cB aU) (.z zm (.nil ?_)))))))
 refine .for (N:=xs.length) (J:=fun k fr w=>fr=[(0,.slice a xs.length c),(3,.pointer (some ⟨b3,0,none⟩))]∧(∀j<k,∀y,xs[j]? =some y→¬y=t)∧St H w (.blk b3 [I t.tape,I t.day]::en::σ)) ak ?_ ?_ ?_
 ·exact .mk ⟨rfl,fun j hj=>by omega,hs⟩
 ·rintro k fr w hk ⟨rfl,hno,hs⟩
  obtain ⟨x,hx⟩:=nth hk
  obtain ⟨b,c',sp,hv,rfl,_⟩:=hO.Ey (kE xs) ak (by rw [dr];omega)
  rw [dr] at hv
  cases hv
  refine .block (.aj (.z zm (.z zg (.nil ?_))))
  refine .seq (.draw mix rfl hs fun w hs=>?_)
  refine .ys 0 rfl hs [_,_] dC bw ?_;refine .z 1 rfl zm ?_;refine .z 2 rfl zm ?_;refine .z 3 rfl (nQ aU bw) ?_
  refine .xV (i:=4) (vs:=x.c) hs rfl au .none rfl dC bw ?_ (hv:=uE (kE xs) (xz hx) sp)
  refine .z 5 rfl (rm pz pA fS (fun f hf=>by
   simp only [List.mem_cons,List.not_mem_nil,or_false] at hf
   rcases hf with rfl|rfl<;>exact ⟨by decide,bh,af⟩) rfl rfl) ?_
  refine .D hs ?_
  refine (.cond rfl (fun hc16=>?_) (fun hc16=>?_))
  ·refine .aj (.z zm (.z zg (.nil ?_)))
   refine .ret (rB (rT (rB (rT (Fin.bH Tryz.results89 rfl ?_)))))
   have e:x=t:=As.1 (by have:=of_decide_eq_true hc16;exact ⟨this.1.symm,this.2.symm⟩)
   subst e
   exact ⟨by rw [mW hx fun j hj h=>hno j hj _ h rfl],hs.tail⟩
  ·refine .skip ?_
   refine nB (nT ?_)
   exact .mk ⟨rfl,e9 hno hx (fun e=>by subst e;simp at hc16),hs⟩
 ·rintro fr w ⟨rfl,hno,hs⟩
  refine nT ?_
  refine .aj (.z zg (.nil ?_))
  refine .ret (Fin.bH Tryz.results89 rfl ?_)
  exact ⟨by rw [sf hno],hs.tail⟩
theorem fC{x0 x1 x2 x3 x4 x5 x6 x7 x8 vl:Value}{en:Ent}{bm:Nat}{ls:List Lim}{a b hi lo by_:Int}(hs:St H w (.blk bm [x0,x1,x2,x3,x4,x5,x6,x7,x8,vl]::en::σ))(hO:cf 4 vl (fV ls) en)(hl:ls.length≤100000):
  Cl Tryz.prog 115 [.pointer (some ⟨bm,0,none⟩),I a,I b,I hi,I lo,I by_] w fun _ w'=>∃vl' en',cf 4 vl' (fV (ls++two a b hi lo by_)) en'∧St H w' (.blk bm [x0,x1,x2,x3,x4,x5,x6,x7,x8,vl']::en'::σ):=by
 obtain ⟨al,ll,cl,rfl,h⟩:=hO.shape
 refine Cl.of Tryz.func115 rfl Tryz.ntmps115 bL (dQ (k:=0) rfl (dQ (k:=1) rfl (dQ (k:=2) rfl (dQ (k:=3) rfl (dQ (k:=4) rfl (dQ (k:=5) rfl (vZ))))))) ?_
 refine .region (.z zm (.z zm (.z znc (.z (zfa gq) (.y hs (zld cA) (.z zm (.z zm (.z zm (.z zm ?_)))))))))
 refine .z (zbd [_,_,_,_] eD) (.z zm (.z zm (.z zm (.z zm (.z (zbd [_,_,_,_] eD) ?_)))))
 refine .o (.buildSlice (cells:=fV (two a b hi lo by_)) hs fy rfl au fun b27 w hs=>?_)
 refine .o (.append (ys:=fV (two a b hi lo by_)) hs bM rfl rfl hO (.own .here rfl rfl) (jF _) (fun l h=>by rw [dx] at h;omega) ?_);intro v28 en28 w hO2 hs
 rw [←fG] at hO2
 obtain ⟨a28,l28,c28,rfl,h28⟩:=hO2.shape
 refine .z znc (.z (zfa gq) ?_)
 refine .o (.store hs rfl rfl j7 fun w hs=>?_)
 refine .nil ?_
 exact Fin.xu Tryz.results115 ⟨_,_,hO2,hs.sb⟩
theorem iO{s:Spc}{vst vwa x6 x7 x8 vl:Value}{bm:Nat}{j:Int}(hs:St H w σ)(hm:Mem σ (.blk bm [I s.id,I s.src,vst,vwa,I s.al,I s.up,x6,x7,x8,vl]))(h1:RI H vst s.st)(h2:RI H vwa s.wa)(hb:s.st.length≤1000∧s.wa.length≤1000)(hj: -1≤j∧j≤1000):
  Cl Tryz.prog 116 [.pointer (some ⟨bm,0,none⟩),I j] w fun u w'=>u=I ((s.many:Int)+1+j)∧St H w' σ:=by
 have hmm:s.many≤1000000:=Nat.mul_le_mul hb.1 hb.2
 refine Cl.o Tryz.func116 Tryz.ntmps116 ag2 ?_
 refine .aj (.z zg (.nil (.aj (.z zm (.z znc (.z (zfa dy) (.z (zfa aO) ?_)))))))
 refine .q hs (kq (vs:=[I s.id,I s.src,vst,vwa,I s.al,I s.up]) rfl aH aC hm) ?_
 refine .o (.call Tryz.call91 rfl (fM (s:=s) hs h1 h2 hb) ?_);rintro _ w ⟨rfl,hs⟩
 refine .z ck (.z zm (.z ck (.z zg (.nil ?_))))
 refine .ret (Fin.bH Tryz.results116 rfl ?_)
 exact ⟨rfl,hs⟩
theorem dW{s:Spc}(h:fl s):s.st.length≤1000∧s.wa.length≤1000∧0<s.wa.length∧s.many≤63:=by
 have h1:=h.st.many;have h2:=h.wa.many;have h3:=h.wa.two
 have:s.many≤9*7:=Nat.mul_le_mul h1 h2
 omega
theorem o5{s:Srv}{ts:List TD}{vst vwa vr vc vt vl:Value}{en:Ent}{bm:Nat}{ls:List Lim}(hs:St H w (.blk bm [I s.sp.id,I s.sp.src,vst,vwa,I s.sp.al,I s.sp.up,vr,vc,vt,vl]::en::σ))(hk:MkK H s ts vst vwa vr vc vt)(hO:cf 4 vl (fV ls) en)(hl:ls.length≤10000)(hok:fl s.sp):
  Cl Tryz.prog 174 [.pointer (some ⟨bm,0,none⟩)] w fun _ w'=>∃H1 vl' en',HLe H H1∧cf 4 vl' (fV (ls++eC (qs s.sp) s.sp.wa.length s.sp.st.length)) en'∧St H1 w' (.blk bm [I s.sp.id,I s.sp.src,vst,vwa,I s.sp.al,I s.sp.up,vr,vc,vt,vl']::en'::σ):=by
 have hsm:=dW hok
 refine Cl.o Tryz.func174 Tryz.ntmps174 ag1 ?_
 refine .aj ?_
 refine .bx hs fun b1 w hs=>?_
 refine .nil (.aj (.y hs (zld qv) (.z znc (.z (zfa dy) (.z (zfa aO) (.y hs (zls [_,_,_,_,_,_] aH aC) ?_))))))
 refine .o (.call Ag rfl (fp (s:=s.sp) hs hk.st hk.wa ⟨ak,ak⟩) ?_);rintro _ w ⟨H1,ba,hle1,rfl,hit,hs⟩
 refine .nil (.block ?_)
 refine .rangeFunc (gf:=190) (cap:=[.pointer (some ⟨ba,0,none⟩)]) (xs:=uQ s.sp) (σb:=[.blk bm [I s.sp.id,I s.sp.src,vst,vwa,I s.sp.al,I s.sp.up,vr,vc,vt,vl],en,.blk b1 [.pointer (some ⟨bm,0,none⟩)]]) (σf:=σ) (hs.sb) trivial rfl hit Af (fun x hx=>by
   simp only [uQ,List.mem_map] at hx
   obtain ⟨j,_,rfl⟩:=hx;rfl) rfl
  (I:=fun p H' σb=>∃vl en,σb=[.blk bm [I s.sp.id,I s.sp.src,vst,vwa,I s.sp.al,I s.sp.up,vr,vc,vt,vl],en,.blk b1 [.pointer (some ⟨bm,0,none⟩)]]∧cf 4 vl (fV (ls++pU (qs s.sp) s.sp.wa.length p)) en) (Ix:=fun _ _ _=>False)
  (fun j _ _ σ g1 g2=>g2) (fun _ _ _ _ _ h=>h) ⟨vl,en,rfl,by rw [nK,List.append_nil];exact hO⟩ ?_ ?_ (fun D c H' σb w _ h _=>h.elim)
 ·rintro ly p hp H2 σb2 σf2 w hle2 ⟨vl,en,rfl,hO⟩ hs ⟨rr,hrr⟩
  have hpm:p<s.sp.many:=by rw [ea] at hp;exact hp
  have hsucc:=nL (qs s.sp) (p:=p) hsm.2.2.1
  have hpl:=jt (nO s.sp) hsm.2.2.1 p
  have hin:p/s.sp.wa.length<s.sp.st.length:=Nat.div_lt_of_lt_mul (by rw [Nat.mul_comm];exact hpm)
  have hkm:=Nat.mod_lt p hsm.2.2.1
  have hdm:=Nat.div_add_mod p s.sp.wa.length
  rw [Nat.mul_comm] at hdm
  have hu:(s.sp.u (p/s.sp.wa.length) (p%s.sp.wa.length):Int)=(p:Int)+1:=by unfold Spc.u;omega
  rw [mg hp]
  obtain ⟨al,ll,cl,rfl,hll⟩:=hO.shape
  generalize p/s.sp.wa.length=i at*
  generalize p%s.sp.wa.length=k at*
  have hk2:=hk.mono (hle1.trans hle2)
  refine .region ?_
  refine .o (.alloc hs kh rfl fun b2 w hs=>?_)
  refine .o (.aZ (vs:=[_,_,_]) hs rfl rfl ou fun w hs=>?_)
  refine .nil ?_
  refine nT ?_
  refine ⟨H2,[.blk b2 [I (i:Int),I (k:Int),I ((p+1:Nat):Int)],.blk bm [I s.sp.id,I s.sp.src,vst,vwa,I s.sp.al,I s.sp.up,vr,vc,vt,.slice al ll cl],en,.blk b1 [.pointer (some ⟨bm,0,none⟩)]],HLe.refl _,hs,?_⟩;rintro w σf4 - hs
  refine .block ?_
  refine .draw mix rfl hs fun w hs=>?_
  refine .y 0 rfl hs qv ?_;refine .z 1 rfl (zfa dU) ?_;refine .y 2 rfl hs af ?_;refine .y 3 rfl hs qv ?_;refine .z 4 rfl znc ?_;refine .z 5 rfl (zfa dy) ?_;refine .z 6 rfl (zfa aO) ?_;refine .z 7 rfl (zfa dv) ?_;refine .y 8 rfl hs af ?_
  refine .E 9 hs ?_
  refine .call tQ rfl (fC (ls:=ls++pU (qs s.sp) s.sp.wa.length p) (hs.sb:St H2 w (.blk bm _::en:: .blk b1 _::σf4)) hO (by rw [List.length_append];omega)) ?_;rintro _ w ⟨vl3,en3,hO3,hs⟩
  rw [show two 0 ((p+1:Nat):Int) 20000 0 s.sp.src=qs s.sp i k by unfold qs;rw [hu];rfl,List.append_assoc,←hsucc] at hO3
  refine .go ?_
  refine .D hs ?_
  refine nB ?_
  exact ⟨H2,_,HLe.refl _,hs,_,_,rfl,hO3⟩
 ·rintro D H2 σb2 w hle2 ⟨vl,en,rfl,hO⟩ hs
  rw [ea,show s.sp.many=s.sp.st.length*s.sp.wa.length from rfl,pT _ hsm.2.2.1] at hO
  refine nB ?_
  exact Fin.Fy [D] [] hs fun w hs=>⟨_,results0 Tryz.results174,H2,vl,en,hle1.trans hle2,hO,(hs.sb:St H2 w (.blk bm _::en::σ))⟩
theorem rU{s:Srv}{ts:List TD}{vst vwa vr vc vt vl:Value}{en:Ent}{bm:Nat}{ls:List Lim}(hs:St H w (.blk bm [I s.sp.id,I s.sp.src,vst,vwa,I s.sp.al,I s.sp.up,vr,vc,vt,vl]::en::σ))(hk:MkK H s ts vst vwa vr vc vt)(hO:cf 4 vl (fV ls) en)(hl:ls.length≤10000)(hok:fl s.sp):
  Cl Tryz.prog 175 [.pointer (some ⟨bm,0,none⟩)] w fun _ w'=>∃H1 vl' en',HLe H H1∧cf 4 vl' (fV (ls++eC (alL s.sp) s.sp.wa.length s.sp.st.length)) en'∧St H1 w' (.blk bm [I s.sp.id,I s.sp.src,vst,vwa,I s.sp.al,I s.sp.up,vr,vc,vt,vl']::en'::σ):=by
 have hsm:=dW hok
 obtain ⟨ast,cst,rfl⟩:=RI.shape hk.st
 obtain ⟨awa,cwa,rfl⟩:=RI.shape hk.wa
 refine Cl.o Tryz.func175 Tryz.ntmps175 ag1 ?_
 refine .aj ?_
 refine .bx hs fun b1 w hs=>?_
 refine .nil (.aj (.y hs (zld qv) (.z znc (.z (zfa dy) (.z (zfa aO) (.y hs (zls [_,_,_,_,_,_] aH aC) ?_))))))
 refine .o (.alloc hs gK rfl fun b2 w hs=>?_)
 refine .o (.aZ (vs:=[_,_,_,_,_,_]) hs rfl rfl aC fun w hs=>?_)
 refine .nil (.aj (.y hs (zls [_,_,_,_,_,_] aH aC) ?_))
 refine .o (.call Ag rfl (fp (s:=s.sp) hs hk.st hk.wa ⟨ak,ak⟩) ?_);rintro _ w ⟨H1,ba,hle1,rfl,hit,hs⟩
 refine .nil (.block ?_)
 refine .rangeFunc (gf:=190) (cap:=[.pointer (some ⟨ba,0,none⟩)]) (xs:=uQ s.sp) (σb:=[.blk bm [I s.sp.id,I s.sp.src,.slice ast s.sp.st.length cst,.slice awa s.sp.wa.length cwa,I s.sp.al,I s.sp.up,vr,vc,vt,vl],en,.blk b1 [.pointer (some ⟨bm,0,none⟩)],.blk b2 [I s.sp.id,I s.sp.src,.slice ast s.sp.st.length cst,.slice awa s.sp.wa.length cwa,I s.sp.al,I s.sp.up]]) (σf:=σ) (hs.sb) trivial rfl hit Af (fun x hx=>by
   simp only [uQ,List.mem_map] at hx
   obtain ⟨j,_,rfl⟩:=hx;rfl) rfl
  (I:=fun p H' σb=>∃vl en,σb=[.blk bm [I s.sp.id,I s.sp.src,.slice ast s.sp.st.length cst,.slice awa s.sp.wa.length cwa,I s.sp.al,I s.sp.up,vr,vc,vt,vl],en,.blk b1 [.pointer (some ⟨bm,0,none⟩)],.blk b2 [I s.sp.id,I s.sp.src,.slice ast s.sp.st.length cst,.slice awa s.sp.wa.length cwa,I s.sp.al,I s.sp.up]]∧cf 4 vl (fV (ls++pU (alL s.sp) s.sp.wa.length p)) en) (Ix:=fun _ _ _=>False)
  (fun j _ _ σ g1 g2=>g2) (fun _ _ _ _ _ h=>h) ⟨vl,en,rfl,by rw [nK,List.append_nil];exact hO⟩ ?_ ?_ (fun D c H' σb w _ h _=>h.elim)
 ·rintro ly p hp H2 σb2 σf2 w hle2 ⟨vl,en,rfl,hO⟩ hs ⟨rr,hrr⟩
  have hpm:p<s.sp.many:=by rw [ea] at hp;exact hp
  have hsucc:=nL (alL s.sp) (p:=p) hsm.2.2.1
  have hpl:=jt (q8 s.sp) hsm.2.2.1 p
  have hin:p/s.sp.wa.length<s.sp.st.length:=Nat.div_lt_of_lt_mul (by rw [Nat.mul_comm];exact hpm)
  have hkm:=Nat.mod_lt p hsm.2.2.1
  have hdm:=Nat.div_add_mod p s.sp.wa.length
  rw [Nat.mul_comm] at hdm
  have hu:(s.sp.u (p/s.sp.wa.length) (p%s.sp.wa.length):Int)=(p:Int)+1:=by unfold Spc.u;omega
  rw [mg hp]
  obtain ⟨al,ll,cl,rfl,hll⟩:=hO.shape
  generalize p/s.sp.wa.length=i at*
  generalize p%s.sp.wa.length=k at*
  have hk2:=hk.mono (hle1.trans hle2)
  refine .region ?_
  refine .o (.alloc hs kh rfl fun b3 w hs=>?_)
  refine .o (.aZ (vs:=[_,_,_]) hs rfl rfl ou fun w hs=>?_)
  refine .nil ?_
  refine nT ?_
  refine ⟨H2,[.blk b3 [I (i:Int),I (k:Int),I ((p+1:Nat):Int)],.blk bm [I s.sp.id,I s.sp.src,.slice ast s.sp.st.length cst,.slice awa s.sp.wa.length cwa,I s.sp.al,I s.sp.up,vr,vc,vt,.slice al ll cl],en,.blk b1 [.pointer (some ⟨bm,0,none⟩)],.blk b2 [I s.sp.id,I s.sp.src,.slice ast s.sp.st.length cst,.slice awa s.sp.wa.length cwa,I s.sp.al,I s.sp.up]],HLe.refl _,hs,?_⟩;rintro w σf4 - hs
  refine .block (.aj (.z (zfa cZ) (.y hs (zld af) (.z ck (.z (zfa bp) (.y hs (zld an) (.z (cB ae) (.z fH (.nil ?_)))))))))
  refine (.bB rfl (fun hc19=>?_) (fun hc19=>?_))
  ·refine .seq (.draw mix rfl hs fun w hs=>?_)
   refine .z 0 rfl (zfa dO) ?_;refine .z 1 rfl (zfa iQ) ?_;refine .y 2 rfl hs af ?_;refine .z 3 rfl (zfa bp) ?_;refine .y 4 rfl hs an ?_;refine .z 5 rfl (zfa cZ) ?_;refine .y 6 rfl hs af ?_;refine .z 7 rfl ck ?_
   have hris:=hok.st.rise i ak
   have hq0:=hok.st.bd (i:=i) ak
   have hq1:=hok.st.bd (i:=i+1) ak
   have hal:=hok.al
   refine .ixX (enc:=fun x=>[I x]) (i:=8) hs rfl au .none hk2.st rfl rfl ae ai (bn (l:=s.sp.st) (i:=(i+1)) ak) cD ?_;intro b28 o28 hc28;replace hc28:=bu.one hc28
   refine .r (i:=9) hs rfl au .none (aJ rfl af hc28) ?_
   refine .z 10 rfl (zfa bp) ?_;refine .y 11 rfl hs an ?_;refine .z 12 rfl (zfa cZ) ?_;refine .y 13 rfl hs af ?_
   refine .ixX (enc:=fun x=>[I x]) (i:=14) hs rfl au .none hk2.st rfl rfl ae ai (bn (l:=s.sp.st) (i:=i) ak) cD ?_;intro b34 o34 hc34;replace hc34:=bu.one hc34
   refine .r (i:=15) hs rfl au .none (aJ rfl af hc34) ?_
   refine .z 16 rfl gL ?_
   refine .E 17 hs ?_
   refine .call Tryz.call230 rfl (lQ hs ak ak) ?_;rintro _ w ⟨rfl,hs⟩
   refine .go ?_
   refine .z 18 rfl zg ?_;refine .D hs ?_
   refine .region (.y hs (zld qv) (.z (zfa dU) (.y hs (zld af) (.z (zfa dU) (.y hs (zld af) (.z (zfa aW) (.y hs (zld an) (.z (cB ae) (.z ck ?_)))))))))
   refine .z zm (.z zm (.z (zfa dv) (.y hs (zld af) ?_)))
   refine .o (.call tQ rfl (fC (ls:=ls++pU (alL s.sp) s.sp.wa.length p) (hs.sb:St H2 w (.blk bm _::en:: .blk b1 _:: .blk b2 _::σf4)) hO (by rw [List.length_append];omega)) ?_);rintro _ w ⟨vl3,en3,hO3,hs⟩
   have hu2:(s.sp.u (i+1) k:Int)=((p+1:Nat):Int)+(s.sp.wa.length:Int):=by unfold Spc.u at hu ⊢;rw [Nat.add_mul];omega
   rw [show two ((p+1:Nat):Int) (((p+1:Nat):Int)+(s.sp.wa.length:Int)) (jK s.sp.al (gi s.sp.st (i+1) - gi s.sp.st i)) (jK s.sp.al (gi s.sp.st (i+1) - gi s.sp.st i)) s.sp.src=alL s.sp i k by unfold alL;rw [if_pos ak,hu,hu2];rfl,List.append_assoc,←hsucc] at hO3
   refine .nil ?_
   refine nB ?_
   exact ⟨H2,_,HLe.refl _,hs,_,_,rfl,hO3⟩
  ·refine .skip ?_
   refine nB ?_
   rw [show alL s.sp i k=[] by unfold alL;rw [if_neg ak],List.append_nil] at hsucc
   exact ⟨H2,_,HLe.refl _,(hs.sb:St H2 w (.blk bm _::en:: .blk b1 _:: .blk b2 _::σf4)),_,_,rfl,by rw [hsucc];exact hO⟩
 ·rintro D H2 σb2 w hle2 ⟨vl,en,rfl,hO⟩ hs
  rw [ea,show s.sp.many=s.sp.st.length*s.sp.wa.length from rfl,pT _ hsm.2.2.1] at hO
  refine nB ?_
  exact Fin.Fy [D] [] hs fun w hs=>⟨_,results0 Tryz.results175,H2,vl,en,hle1.trans hle2,hO,(hs.sb:St H2 w (.blk bm _::en::σ))⟩
theorem vD{s:Srv}{ts:List TD}{vst vwa vr vc vt vl:Value}{en:Ent}{bm:Nat}{ls:List Lim}(hs:St H w (.blk bm [I s.sp.id,I s.sp.src,vst,vwa,I s.sp.al,I s.sp.up,vr,vc,vt,vl]::en::σ))(hk:MkK H s ts vst vwa vr vc vt)(hO:cf 4 vl (fV ls) en)(hl:ls.length≤10000)(hok:fl s.sp):
  Cl Tryz.prog 176 [.pointer (some ⟨bm,0,none⟩)] w fun _ w'=>∃H1 vl' en',HLe H H1∧cf 4 vl' (fV (ls++eC (upL s.sp) s.sp.wa.length s.sp.st.length)) en'∧St H1 w' (.blk bm [I s.sp.id,I s.sp.src,vst,vwa,I s.sp.al,I s.sp.up,vr,vc,vt,vl']::en'::σ):=by
 have hsm:=dW hok
 obtain ⟨ast,cst,rfl⟩:=RI.shape hk.st
 obtain ⟨awa,cwa,rfl⟩:=RI.shape hk.wa
 refine Cl.o Tryz.func176 Tryz.ntmps176 ag1 ?_
 refine .aj ?_
 refine .bx hs fun b1 w hs=>?_
 refine .nil (.aj (.y hs (zld qv) (.z znc (.z (zfa dy) (.z (zfa aO) (.y hs (zls [_,_,_,_,_,_] aH aC) ?_))))))
 refine .o (.alloc hs gK rfl fun b2 w hs=>?_)
 refine .o (.aZ (vs:=[_,_,_,_,_,_]) hs rfl rfl aC fun w hs=>?_)
 refine .nil (.aj (.y hs (zls [_,_,_,_,_,_] aH aC) ?_))
 refine .o (.call Ag rfl (fp (s:=s.sp) hs hk.st hk.wa ⟨ak,ak⟩) ?_);rintro _ w ⟨H1,ba,hle1,rfl,hit,hs⟩
 refine .nil (.block ?_)
 refine .rangeFunc (gf:=190) (cap:=[.pointer (some ⟨ba,0,none⟩)]) (xs:=uQ s.sp) (σb:=[.blk bm [I s.sp.id,I s.sp.src,.slice ast s.sp.st.length cst,.slice awa s.sp.wa.length cwa,I s.sp.al,I s.sp.up,vr,vc,vt,vl],en,.blk b1 [.pointer (some ⟨bm,0,none⟩)],.blk b2 [I s.sp.id,I s.sp.src,.slice ast s.sp.st.length cst,.slice awa s.sp.wa.length cwa,I s.sp.al,I s.sp.up]]) (σf:=σ) (hs.sb) trivial rfl hit Af (fun x hx=>by
   simp only [uQ,List.mem_map] at hx
   obtain ⟨j,_,rfl⟩:=hx;rfl) rfl
  (I:=fun p H' σb=>∃vl en,σb=[.blk bm [I s.sp.id,I s.sp.src,.slice ast s.sp.st.length cst,.slice awa s.sp.wa.length cwa,I s.sp.al,I s.sp.up,vr,vc,vt,vl],en,.blk b1 [.pointer (some ⟨bm,0,none⟩)],.blk b2 [I s.sp.id,I s.sp.src,.slice ast s.sp.st.length cst,.slice awa s.sp.wa.length cwa,I s.sp.al,I s.sp.up]]∧cf 4 vl (fV (ls++pU (upL s.sp) s.sp.wa.length p)) en) (Ix:=fun _ _ _=>False)
  (fun j _ _ σ g1 g2=>g2) (fun _ _ _ _ _ h=>h) ⟨vl,en,rfl,by rw [nK,List.append_nil];exact hO⟩ ?_ ?_ (fun D c H' σb w _ h _=>h.elim)
 ·rintro ly p hp H2 σb2 σf2 w hle2 ⟨vl,en,rfl,hO⟩ hs ⟨rr,hrr⟩
  have hpm:p<s.sp.many:=by rw [ea] at hp;exact hp
  have hsucc:=nL (upL s.sp) (p:=p) hsm.2.2.1
  have hpl:=jt (qB s.sp) hsm.2.2.1 p
  have hin:p/s.sp.wa.length<s.sp.st.length:=Nat.div_lt_of_lt_mul (by rw [Nat.mul_comm];exact hpm)
  have hkm:=Nat.mod_lt p hsm.2.2.1
  have hdm:=Nat.div_add_mod p s.sp.wa.length
  rw [Nat.mul_comm] at hdm
  have hu:(s.sp.u (p/s.sp.wa.length) (p%s.sp.wa.length):Int)=(p:Int)+1:=by unfold Spc.u;omega
  rw [mg hp]
  obtain ⟨al,ll,cl,rfl,hll⟩:=hO.shape
  generalize p/s.sp.wa.length=i at*
  generalize p%s.sp.wa.length=k at*
  have hk2:=hk.mono (hle1.trans hle2)
  refine .region ?_
  refine .o (.alloc hs kh rfl fun b3 w hs=>?_)
  refine .o (.aZ (vs:=[_,_,_]) hs rfl rfl ou fun w hs=>?_)
  refine .nil ?_
  refine nT ?_
  refine ⟨H2,[.blk b3 [I (i:Int),I (k:Int),I ((p+1:Nat):Int)],.blk bm [I s.sp.id,I s.sp.src,.slice ast s.sp.st.length cst,.slice awa s.sp.wa.length cwa,I s.sp.al,I s.sp.up,vr,vc,vt,.slice al ll cl],en,.blk b1 [.pointer (some ⟨bm,0,none⟩)],.blk b2 [I s.sp.id,I s.sp.src,.slice ast s.sp.st.length cst,.slice awa s.sp.wa.length cwa,I s.sp.al,I s.sp.up]],HLe.refl _,hs,?_⟩;rintro w σf4 - hs
  refine .block (.aj (.z (zfa cV) (.y hs (zld af) (.z ck (.z (zfa aW) (.y hs (zld an) (.z (cB ae) (.z fH (.nil ?_)))))))))
  refine (.bB rfl (fun hc19=>?_) (fun hc19=>?_))
  ·refine .seq (.draw mix rfl hs fun w hs=>?_)
   refine .z 0 rfl (zfa dO) ?_;refine .z 1 rfl (zfa iP) ?_;refine .y 2 rfl hs af ?_;refine .z 3 rfl (zfa aW) ?_;refine .y 4 rfl hs an ?_;refine .z 5 rfl (zfa cV) ?_;refine .y 6 rfl hs af ?_;refine .z 7 rfl ck ?_
   have hris:=hok.wa.rise k ak
   have hq0:=hok.wa.bd (i:=k) ak
   have hq1:=hok.wa.bd (i:=k+1) ak
   have hal:=hok.up
   refine .ixX (enc:=fun x=>[I x]) (i:=8) hs rfl au .none hk2.wa rfl rfl ae ai (bn (l:=s.sp.wa) (i:=(k+1)) ak) cD ?_;intro b28 o28 hc28;replace hc28:=bu.one hc28
   refine .r (i:=9) hs rfl au .none (aJ rfl af hc28) ?_
   refine .z 10 rfl (zfa aW) ?_;refine .y 11 rfl hs an ?_;refine .z 12 rfl (zfa cV) ?_;refine .y 13 rfl hs af ?_
   refine .ixX (enc:=fun x=>[I x]) (i:=14) hs rfl au .none hk2.wa rfl rfl ae ai (bn (l:=s.sp.wa) (i:=k) ak) cD ?_;intro b34 o34 hc34;replace hc34:=bu.one hc34
   refine .r (i:=15) hs rfl au .none (aJ rfl af hc34) ?_
   refine .z 16 rfl gL ?_
   refine .E 17 hs ?_
   refine .call Tryz.call230 rfl (lQ hs ak ak) ?_;rintro _ w ⟨rfl,hs⟩
   refine .go ?_
   refine .z 18 rfl zg ?_;refine .D hs ?_
   refine .region (.y hs (zld qv) (.z (zfa dU) (.y hs (zld af) (.z (zfa dU) (.y hs (zld af) (.z ck (.z zm (.z zm (.z (zfa dv) ?_)))))))))
   refine .y hs (zld af) ?_
   refine .o (.call tQ rfl (fC (ls:=ls++pU (upL s.sp) s.sp.wa.length p) (hs.sb:St H2 w (.blk bm _::en:: .blk b1 _:: .blk b2 _::σf4)) hO (by rw [List.length_append];omega)) ?_);rintro _ w ⟨vl3,en3,hO3,hs⟩
   have hu2:(s.sp.u i (k+1):Int)=((p+1:Nat):Int)+1:=by unfold Spc.u at hu ⊢;omega
   rw [show two ((p+1:Nat):Int) (((p+1:Nat):Int)+1) (jK s.sp.up (gi s.sp.wa (k+1) - gi s.sp.wa k)) (jK s.sp.up (gi s.sp.wa (k+1) - gi s.sp.wa k)) s.sp.src=upL s.sp i k by unfold upL;rw [if_pos ak,hu,hu2];rfl,List.append_assoc,←hsucc] at hO3
   refine .nil ?_
   refine nB ?_
   exact ⟨H2,_,HLe.refl _,hs,_,_,rfl,hO3⟩
  ·refine .skip ?_
   refine nB ?_
   rw [show upL s.sp i k=[] by unfold upL;rw [if_neg ak],List.append_nil] at hsucc
   exact ⟨H2,_,HLe.refl _,(hs.sb:St H2 w (.blk bm _::en:: .blk b1 _:: .blk b2 _::σf4)),_,_,rfl,by rw [hsucc];exact hO⟩
 ·rintro D H2 σb2 w hle2 ⟨vl,en,rfl,hO⟩ hs
  rw [ea,show s.sp.many=s.sp.st.length*s.sp.wa.length from rfl,pT _ hsm.2.2.1] at hO
  refine nB ?_
  exact Fin.Fy [D] [] hs fun w hs=>⟨_,results0 Tryz.results176,H2,vl,en,hle1.trans hle2,hO,(hs.sb:St H2 w (.blk bm _::en::σ))⟩
theorem qS{s:Srv}{ts:List TD}{vst vwa vr vc vt vl:Value}{en:Ent}{bm:Nat}{ls:List Lim}(hs:St H w (.blk bm [I s.sp.id,I s.sp.src,vst,vwa,I s.sp.al,I s.sp.up,vr,vc,vt,vl]::en::σ))(hk:MkK H s ts vst vwa vr vc vt)(hO:cf 4 vl (fV ls) en)(hl:ls.length≤10000)(hok:fl s.sp)(htl:ts.length≤100):
  Cl Tryz.prog 177 [.pointer (some ⟨bm,0,none⟩)] w fun _ w'=>∃H1 vl' en',HLe H H1∧cf 4 vl' (fV (ls++vR s.sp ts.length)) en'∧St H1 w' (.blk bm [I s.sp.id,I s.sp.src,vst,vwa,I s.sp.al,I s.sp.up,vr,vc,vt,vl']::en'::σ):=by
 have hsm:=dW hok
 obtain ⟨at_,ct,rfl⟩:=RTd.shape hk.ts
 refine Cl.o Tryz.func177 Tryz.ntmps177 ag1 ?_
 refine .aj (.z zm (.z znc (.z (zfa fu) (.y hs (zld Gc) (.z (cB aU) (.z zm (.nil ?_)))))))
 refine .for (N:=ts.length) (J:=fun j fr w=>fr=[(0,.pointer (some ⟨bm,0,none⟩))]∧∃vl en,cf 4 vl (fV (ls++vR s.sp j)) en∧St H w (.blk bm [I s.sp.id,I s.sp.src,vst,vwa,I s.sp.al,I s.sp.up,vr,vc,.slice at_ ts.length ct,vl]::en::σ)) ak ?_ ?_ ?_
 ·exact .mk ⟨rfl,vl,en,by show cf 4 vl (fV (ls++[])) en;rw [List.append_nil];exact hO,hs⟩
 ·rintro j fr w hj ⟨rfl,vl,en,hO,hs⟩
  have hel:=jg s.sp j
  obtain ⟨al,ll,cl,rfl,hll⟩:=hO.shape
  refine .block (.aj (.z zm (.z zg (.nil ?_))))
  refine .draw mix rfl hs fun w hs=>?_
  refine .z 0 rfl zm ?_;refine .z 1 rfl zm ?_;refine .z 2 rfl zm ?_;refine .z 4 rfl zm ?_;refine .z 5 rfl znc ?_;refine .z 6 rfl (zfa dy) ?_;refine .z 7 rfl (zfa aO) ?_;refine .z 8 rfl (zfa dv) ?_;refine .y 9 rfl hs af ?_
  refine .E 3 hs ?_
  refine .call Tryz.call116 rfl (iO (s:=s.sp) hs .here hk.st hk.wa ⟨ak,ak⟩ ⟨ak,ak⟩) ?_;rintro _ w ⟨rfl,hs⟩
  refine .go ?_
  refine .E 10 hs ?_
  refine .call tQ rfl (fC (ls:=ls++vR s.sp j) hs hO (by rw [List.length_append];omega)) ?_;rintro _ w ⟨vl3,en3,hO3,hs⟩
  rw [show (s.sp.many:Int)+1+(j:Int)=((s.sp.many+1+j:Nat):Int) by omega,List.append_assoc] at hO3
  refine .go ?_
  refine .D hs ?_
  refine nB (nT ?_)
  exact .mk ⟨rfl,vl3,en3,hO3,hs⟩
 ·rintro fr w ⟨rfl,vl,en,hO,hs⟩
  exact Fin.xu Tryz.results177 ⟨H,vl,en,HLe.refl _,hO,hs⟩
set_option maxHeartbeats 1000000 in
theorem ku{s:Srv}{ts:List TD}{vst vwa vr vc vt vl:Value}{en:Ent}{bm:Nat}{ls:List Lim}(hs:St H w (.blk bm [I s.sp.id,I s.sp.src,vst,vwa,I s.sp.al,I s.sp.up,vr,vc,vt,vl]::en::σ))(hk:MkK H s ts vst vwa vr vc vt)(hO:cf 4 vl (fV ls) en)(hl:ls.length≤10000)(hok:fl s.sp)(htl:ts.length≤100)(hcl:s.cs.length≤20)(hc:∀c∈s.cs,po c){j0:Nat}(hj0:j0≤ts.length):
  Cl Tryz.prog 117 [.pointer (some ⟨bm,0,none⟩),I (j0:Int)] w fun _ w'=>∃H1 vl' en',HLe H H1∧cf 4 vl' (fV (ls++qZ s.sp ts s.cs j0 s.cs.length)) en'∧St H1 w' (.blk bm [I s.sp.id,I s.sp.src,vst,vwa,I s.sp.al,I s.sp.up,vr,vc,vt,vl']::en'::σ):=by
 have hsm:=dW hok
 obtain ⟨at_,ct,rfl⟩:=RTd.shape hk.ts
 obtain ⟨ac,cc,rfl⟩:=RCm.shape hk.cs
 refine Cl.o Tryz.func117 Tryz.ntmps117 ag2 ?_
 refine .aj (.z zm (.z znc (.z (zfa dy) (.z (zfa bO) (.y hs (zld dL) (.z (cB aV) (.z zm (.nil ?_))))))))
 refine .for (N:=s.cs.length) (J:=fun i fr w=>fr=[(12,.slice ac s.cs.length cc),(0,.pointer (some ⟨bm,0,none⟩)),(1,I (j0:Int))]∧∃vl en,cf 4 vl (fV (ls++qZ s.sp ts s.cs j0 i)) en∧St H w (.blk bm [I s.sp.id,I s.sp.src,vst,vwa,I s.sp.al,I s.sp.up,vr,.slice ac s.cs.length cc,.slice at_ ts.length ct,vl]::en::σ)) ak ?_ ?_ ?_
 ·exact .mk ⟨rfl,vl,en,by show cf 4 vl (fV (ls++[])) en;rw [List.append_nil];exact hO,hs⟩
 ·rintro i fr w hi ⟨rfl,vl,en,hO,hs⟩
  obtain ⟨c,hx⟩:=nth hi
  obtain ⟨g1,g2,g3,g4,g5,g6⟩:=hc c (List.mem_of_getElem? hx)
  have hcl1:=ir s.sp ts s.cs j0 i
  have hcl2:i*(2*(ts.length - j0))≤20*(2*100):=Nat.mul_le_mul ak ak
  refine .block (.aj ?_)
  refine .ixX (enc:=Cmp.c) hs hk.cs rfl rfl aV bQ hx cD ?_;intro b16 o16 hc16
  refine .q hs (cI (vs:=(Cmp.c c)) rfl EB bQ hc16) ?_
  refine .o (.alloc hs wu rfl fun b5 w hs=>?_)
  refine .o (.aZ (vs:=c.c) hs rfl rfl bQ fun w hs=>?_)
  replace hs:St H w (.blk bm [I s.sp.id,I s.sp.src,vst,vwa,I s.sp.al,I s.sp.up,vr,.slice ac s.cs.length cc,.slice at_ ts.length ct,vl]::en:: .blk b5 [I c.src,I c.tape,I c.fr,I c.to,I c.lo,I c.hi]::σ):=hs.sb
  refine .nil (.aj (.z zm (.z zg (.nil (.block ?_)))))
  refine .loop (fun j:Nat=>⟨62,[],[(6,I ((j0+j:Nat):Int)),(5,.pointer (some ⟨b5,0,none⟩)),(14,I (i:Int)),(13,I (s.cs.length:Int)),(12,.slice ac s.cs.length cc),(0,.pointer (some ⟨bm,0,none⟩)),(1,I (j0:Int))]⟩)
   (fun j w=>j0+j≤ts.length∧∃vl en,cf 4 vl (fV (ls++qZ s.sp ts s.cs j0 i++kx s.sp ts c j0 j)) en∧St H w (.blk bm [I s.sp.id,I s.sp.src,vst,vwa,I s.sp.al,I s.sp.up,vr,.slice ac s.cs.length cc,.slice at_ ts.length ct,vl]::en:: .blk b5 [I c.src,I c.tape,I c.fr,I c.to,I c.lo,I c.hi]::σ)) (fun j=>ts.length - (j0+j)) 0 aR
   ⟨ak,vl,en,by show cf 4 vl (fV (_++[])) en;rw [List.append_nil];exact hO,hs⟩ ?_
  clear hO hs
  rintro j w ⟨hj,vl,en,hO,hs⟩
  have hl1:=kX s.sp ts c j0 j
  obtain ⟨al,ll,cl,rfl,hll⟩:=hO.shape
  refine .seq (.aj (.z zm (.z zm (.z znc (.z (zfa fu) (.y hs (zld Gc) (.z (cB aU) (.z fH (.nil ?_)))))))))
  refine (.bB rfl (fun hc25=>?_) (fun hc25=>?_))
  ·refine .skip ?_
   refine nT ?_
   refine .seq (.block (.aj (.z zm (.z znc (.z (zfa fu) (.y hs (zld Gc) (.z zm ?_)))))))
   obtain ⟨t,ht⟩:=nth (l:=ts) (k:=j0+j) ak
   have ht0:=Di ht
   refine .ixX (enc:=TD.c) hs hk.ts rfl rfl aU bw ht cD ?_;intro b33 o33 hc33
   refine .q hs (cI (vs:=(TD.c t)) rfl dC bw hc33) ?_
   refine .o (.alloc hs lk rfl fun b7 w hs=>?_)
   refine .o (.aZ (vs:=t.c) hs rfl rfl bw fun w hs=>?_)
   change St _ _ (.blk b7 [I t.tape,I t.day]::_) at hs
   refine .nil (.aj (.z (zfa mx) (.y hs (zld af) (.z (zfa ia) (.y hs (zld af) (.z fo (.z zm ?_)))))))
   refine .iD (t':=40) rfl (fun hb40=>?_) (fun hb40=>?_)
   ·refine .gT rfl rfl ?_
    refine .z (zfa jL) ?_
    refine .gT rfl rfl ?_
    refine .y hs (zld af) ?_
    refine .gT rfl rfl ?_
    refine .z (zfa fq) ?_
    refine .gT rfl rfl ?_
    refine .y hs (zld af) ?_
    refine .gT rfl rfl ?_
    refine .z (zfa eP) ?_
    refine .gT rfl rfl ?_
    refine .y hs (zld af) ?_
    refine .gT rfl rfl ?_
    refine .o (.call dD rfl (br hs) ?_);rintro _ w ⟨rfl,hs⟩
    refine .z zpT (.nil ?_)
    refine (.cond rfl (fun hc48=>?_) (fun hc48=>?_))
    ·refine .draw mix rfl hs fun w hs=>?_
     refine .z 0 rfl zm ?_;refine .z 1 rfl zm ?_;refine .z 2 rfl zm ?_;refine .z 4 rfl (zfa eO) ?_;refine .y 5 rfl hs af ?_;refine .z 6 rfl xr ?_;refine .z 7 rfl (zfa eN) ?_;refine .y 8 rfl hs af ?_;refine .z 9 rfl (zfa fZ) ?_;refine .y 10 rfl hs af ?_
     refine .E 3 hs ?_
     refine .call Tryz.call116 rfl (iO (s:=s.sp) hs (.there .here) hk.st hk.wa ⟨ak,ak⟩ ⟨ak,ak⟩) ?_;rintro _ w ⟨rfl,hs⟩
     refine .go ?_
     refine .E 11 hs ?_
     refine .call tQ rfl (fC (ls:=ls++qZ s.sp ts s.cs j0 i++kx s.sp ts c j0 j) (hs.tail:St H w (.blk bm _::en:: .blk b5 _::σ)) hO (by rw [List.length_append,List.length_append];omega)) ?_;rintro _ w ⟨vl3,en3,hO3,hs⟩
     refine .go ?_
     refine .D hs ?_
     refine nB (nT ?_)
     refine .region (.z zm (.z ck (.z zg (.nil ?_))))
     refine nT ?_
     have e:kx s.sp ts c j0 (j+1)=kx s.sp ts c j0 j++two 0 ((s.sp.many:Int)+1+((j0+j:Nat):Int)) (-c.lo) c.hi c.src:=by
      show _++k9 c (td0 ts (j0+j)) _=_
      rw [ht0];unfold k9;rw [if_pos (by simp at hc48;omega)]
      rw [show ((s.sp.many+1+(j0+j):Nat):Int)=(s.sp.many:Int)+1+((j0+j:Nat):Int) by omega]
     rw [List.append_assoc _ (kx _ _ _ _ _),←e] at hO3
     exact ⟨j+1,.bU rfl (by simp;omega) aR,⟨ak,vl3,en3,hO3,hs⟩,ak⟩
    ·refine .skip ?_
     refine nB (nT ?_)
     refine .region (.z zm (.z ck (.z zg (.nil ?_))))
     refine nT ?_
     have e:kx s.sp ts c j0 (j+1)=kx s.sp ts c j0 j:=by
      show _++k9 c (td0 ts (j0+j)) _=_
      rw [ht0];unfold k9;rw [if_neg (by simp at hc48;omega),List.append_nil]
     exact ⟨j+1,.bU rfl (by simp;omega) aR,⟨ak,_,en,by rw [e];exact hO,hs.tail⟩,ak⟩
   ·refine .gFs 7 5 true rfl rfl rfl ?_
    refine .z zpF (.nil ?_)
    refine (.cF ?_)
    refine .skip ?_
    refine nB (nT ?_)
    refine .region (.z zm (.z ck (.z zg (.nil ?_))))
    refine nT ?_
    have e:kx s.sp ts c j0 (j+1)=kx s.sp ts c j0 j:=by
     show _++k9 c (td0 ts (j0+j)) _=_
     rw [ht0];unfold k9;rw [if_neg ak,List.append_nil]
    exact ⟨j+1,.bU rfl (by simp;omega) aR,⟨ak,_,en,by rw [e];exact hO,hs.tail⟩,ak⟩
  ·refine .exit ?_
   refine xT (xT (xB (nB (nT ?_))))
   obtain rfl:j=ts.length - j0:=by omega
   rw [List.append_assoc,show qZ s.sp ts s.cs j0 i++kx s.sp ts c j0 (ts.length - j0)=qZ s.sp ts s.cs j0 (i+1) by rw [←Bu hx];rfl] at hO
   exact .mk ⟨rfl,_,en,hO,hs.sb⟩
 ·rintro fr w ⟨rfl,vl,en,hO,hs⟩
  exact Fin.xu Tryz.results117 ⟨H,vl,en,HLe.refl _,hO,hs⟩
theorem mN{s:Srv}{ts:List TD}{vst vwa vr vc vt vl:Value}{en:Ent}{bm:Nat}{ls:List Lim}(hs:St H w (.blk bm [I s.sp.id,I s.sp.src,vst,vwa,I s.sp.al,I s.sp.up,vr,vc,vt,vl]::en::σ))(hk:MkK H s ts vst vwa vr vc vt)(hO:cf 4 vl (fV ls) en)(hl:ls.length≤10000)(hok:fl s.sp)(htl:ts.length≤100)(hcl:s.cs.length≤20)(hc:∀c∈s.cs,po c):
  Cl Tryz.prog 178 [.pointer (some ⟨bm,0,none⟩)] w fun _ w'=>∃H1 vl' en',HLe H H1∧cf 4 vl' (fV (ls++qZ s.sp ts s.cs 0 s.cs.length)) en'∧St H1 w' (.blk bm [I s.sp.id,I s.sp.src,vst,vwa,I s.sp.al,I s.sp.up,vr,vc,vt,vl']::en'::σ):=by
 refine Cl.o Tryz.func178 Tryz.ntmps178 ag1 ?_
 refine .region (.z zm ?_)
 refine .o (.call Tryz.call117 rfl (ku (s:=s) (ts:=ts) (j0:=0) hs hk hO hl hok htl hcl hc ak) ?_);rintro _ w hs
 refine .nil ?_
 exact Fin.xu Tryz.results178 hs
set_option maxHeartbeats 1000000 in
theorem oZ{s:Srv}{ts:List TD}{vst vwa vr vc vt vl:Value}{en:Ent}{bm:Nat}{ls:List Lim}(hs:St H w (.blk bm [I s.sp.id,I s.sp.src,vst,vwa,I s.sp.al,I s.sp.up,vr,vc,vt,vl]::en::σ))(hk:MkK H s ts vst vwa vr vc vt)(hO:cf 4 vl (fV ls) en)(hl:ls.length≤10000)(hok:fl s.sp)(htl:ts.length≤100)(hrl:s.rs.length≤60)(hr:∀r∈s.rs,jh s.sp r)(hmem:∀r∈s.rs,r.td∈ts):
  Cl Tryz.prog 179 [.pointer (some ⟨bm,0,none⟩)] w fun _ w'=>∃H1 vl' en',HLe H H1∧cf 4 vl' (fV (ls++tS s.sp ts s.rs s.rs.length)) en'∧St H1 w' (.blk bm [I s.sp.id,I s.sp.src,vst,vwa,I s.sp.al,I s.sp.up,vr,vc,vt,vl']::en'::σ):=by
 have hsm:=dW hok
 obtain ⟨at_,ct,rfl⟩:=RTd.shape hk.ts
 obtain ⟨ar,cr,rfl⟩:=RRd.shape hk.rs
 refine Cl.o Tryz.func179 Tryz.ntmps179 ag1 ?_
 refine .aj (.z zm (.z znc (.z (zfa dy) (.z (zfa aM) (.y hs (zld bj) (.z (cB aA) (.z zm (.nil ?_))))))))
 refine .for (N:=s.rs.length) (J:=fun i fr w=>fr=[(9,.slice ar s.rs.length cr),(0,.pointer (some ⟨bm,0,none⟩))]∧∃vl en,cf 4 vl (fV (ls++tS s.sp ts s.rs i)) en∧St H w (.blk bm [I s.sp.id,I s.sp.src,vst,vwa,I s.sp.al,I s.sp.up,.slice ar s.rs.length cr,vc,.slice at_ ts.length ct,vl]::en::σ)) ak ?_ ?_ ?_
 ·exact .mk ⟨rfl,vl,en,by show cf 4 vl (fV (ls++[])) en;rw [List.append_nil];exact hO,hs⟩
 ·rintro i fr w hi ⟨rfl,vl,en,hO,hs⟩
  obtain ⟨r,hx⟩:=nth hi
  obtain ⟨g1,g2,g3,g4,g5,g6,g7⟩:=hr r (List.mem_of_getElem? hx)
  obtain ⟨k,k1,k2,k3⟩:=fa (hmem r (List.mem_of_getElem? hx))
  have hrl1:=jd s.sp ts s.rs i
  obtain ⟨al,ll,cl,rfl,hll⟩:=hO.shape
  refine .block (.aj ?_)
  refine .ixX (enc:=Rdg.c) hs hk.rs rfl rfl aA aF hx cD ?_;intro b13 o13 hc13
  refine .q hs (cI (vs:=(Rdg.c r)) rfl dB aF hc13) ?_
  refine .o (.alloc hs ek rfl fun b3 w hs=>?_)
  refine .o (.aZ (vs:=r.c) hs rfl rfl aF fun w hs=>?_)
  change St _ _ (.blk b3 [I r.src,I r.st,I r.wa,I r.val,I r.tol,I r.tape,I r.day]::_) at hs
  refine .nil ?_
  refine .seq (.draw mix rfl hs fun w hs=>?_)
  refine .z 0 rfl zm ?_;refine .z 1 rfl znc ?_;refine .z 2 rfl (zfa fu) ?_;refine .y 3 rfl hs Gc ?_;refine .ys 4 rfl hs [_,_,_,_,_,_,_] dB aF ?_
  refine .E 5 hs ?_
  refine .call Gg rfl (fb hs) ?_;rintro _ w ⟨rfl,hs⟩
  refine .go ?_
  refine .E 6 hs ?_
  refine .call Tryz.call89 rfl (mZ (t:=r.td) hs hk.ts ak) ?_;rintro _ w ⟨rfl,hs⟩
  refine .go ?_
  refine .z 7 rfl zg ?_;refine .D hs ?_
  refine .draw mix rfl hs fun w hs=>?_
  refine .z 0 rfl zm ?_;refine .z 1 rfl zm ?_;refine .z 2 rfl zm ?_;refine .z 4 rfl zm ?_;refine .z 5 rfl znc ?_;refine .z 6 rfl (zfa dy) ?_;refine .z 7 rfl (zfa aO) ?_;refine .ys 8 rfl hs [_,_,_,_,_,_] aH aC ?_;refine .z 9 rfl (zfa eM) ?_;refine .y 10 rfl hs af ?_
  refine .z 11 rfl (zfa eL) ?_;refine .y 12 rfl hs af ?_;refine .z 14 rfl (zfa cM) ?_;refine .y 15 rfl hs af ?_;refine .z 16 rfl (zfa bY) ?_;refine .y 17 rfl hs af ?_;refine .z 18 rfl ck ?_;refine .z 19 rfl (zfa bY) ?_;refine .y 20 rfl hs af ?_;refine .z 21 rfl (zfa cM) ?_
  refine .y 22 rfl hs af ?_;refine .z 23 rfl gL ?_;refine .z 24 rfl (zfa eg) ?_;refine .y 25 rfl hs af ?_
  refine .E 3 hs ?_
  refine .call Tryz.call116 rfl (iO (s:=s.sp) hs (.there .here) hk.st hk.wa ⟨ak,ak⟩ ⟨ak,ak⟩) ?_;rintro _ w ⟨rfl,hs⟩
  refine .go ?_
  refine .E 13 hs ?_
  refine .call Tryz.call118 rfl (jY (s:=s.sp) hs hk.wa ak ⟨ak,ak⟩ ⟨ak,ak⟩) ?_;rintro _ w ⟨rfl,hs⟩
  refine .go ?_
  refine .E 26 hs ?_
  refine .call tQ rfl (fC (ls:=ls++tS s.sp ts s.rs i) (hs.sb:St H w (.blk bm _::en:: .blk b3 _::σ)) hO (by rw [List.length_append];omega)) ?_;rintro _ w ⟨vl3,en3,hO3,hs⟩
  refine .go ?_
  refine .D hs ?_
  refine nB (nT ?_)
  rw [List.append_assoc,show tS s.sp ts s.rs i++two ((s.sp.many:Int)+1+ij ts r.td) (1+r.st*s.sp.wa.length+r.wa) (r.val+r.tol) (r.tol - r.val) r.src=tS s.sp ts s.rs (i+1) by rw [←AK hx];rfl] at hO3
  exact .mk ⟨rfl,vl3,en3,hO3,hs.sb⟩
 ·rintro fr w ⟨rfl,vl,en,hO,hs⟩
  exact Fin.xu Tryz.results179 ⟨H,vl,en,HLe.refl _,hO,hs⟩
def fnK:Nat→Nat
 |0=>174
 |1=>175
 |2=>176
 |3=>177
 |4=>178
 |_=>179
theorem CQ{k:Nat}(hk:k<6):∀args w,(callFunc (fnK k) args).run Tryz.prog w= .ok (.enter (fnK k) args) w:=by
 have h:k=0∨k=1∨k=2∨k=3∨k=4∨k=5:=by omega
 rcases h with rfl|rfl|rfl|rfl|rfl|rfl
 ·exact Tryz.call174
 ·exact Tryz.call175
 ·exact Tryz.call176
 ·exact Tryz.call177
 ·exact Tryz.call178
 ·exact Tryz.call179
theorem AX{s:Srv}{vst vwa vr vc vt vl:Value}{en:Ent}{bm k:Nat}(hs:St H w (.blk bm [I s.sp.id,I s.sp.src,vst,vwa,I s.sp.al,I s.sp.up,vr,vc,vt,vl]::en::σ))(hk:MkK H s s.bq vst vwa vr vc vt)(hO:cf 4 vl (fV (s.parts k)) en)(he:s.early)(hk6:k<6):
  Cl Tryz.prog (fnK k) [.pointer (some ⟨bm,0,none⟩)] w fun _ w'=>∃H1 vl' en',HLe H H1∧cf 4 vl' (fV (s.parts (k+1))) en'∧St H1 w' (.blk bm [I s.sp.id,I s.sp.src,vst,vwa,I s.sp.al,I s.sp.up,vr,vc,vt,vl']::en'::σ):=by
 have hl:=jq he k ak
 obtain ⟨hok,h1,h2,h3,h4⟩:=he
 have htl:s.bq.length≤100:=by have:=dp s.rs;unfold Srv.bq;omega
 have h:k=0∨k=1∨k=2∨k=3∨k=4∨k=5:=by omega
 rcases h with rfl|rfl|rfl|rfl|rfl|rfl
 ·exact o5 hs hk hO (Nat.le_trans hl gd) hok
 ·exact rU hs hk hO (Nat.le_trans hl gd) hok
 ·exact vD hs hk hO (Nat.le_trans hl gd) hok
 ·exact qS hs hk hO (Nat.le_trans hl gd) hok htl
 ·exact mN hs hk hO (Nat.le_trans hl gd) hok htl h2 h4
 ·exact oZ hs hk hO (Nat.le_trans hl gd) hok htl h1 h3 fun r hr=>fW.2 ⟨r,hr,rfl⟩
def fnV(b:Nat)(k:Nat):Value:= .func (.func (fnK k)) #[.pointer (some ⟨b,0,none⟩)] #[]
theorem D1(b:Nat){k:Nat}(hk:k<6):[fnV b 0,fnV b 1,fnV b 2,fnV b 3,fnV b 4,fnV b 5][k]? =some (fnV b k):=by
 have h:k=0∨k=1∨k=2∨k=3∨k=4∨k=5:=by omega
 rcases h with rfl|rfl|rfl|rfl|rfl|rfl<;>rfl
set_option maxHeartbeats 1000000 in
theorem kQ{s:Srv}{vst vwa vr vc:Value}(hs:St H w σ)(h1:RI H vst s.sp.st)(h2:RI H vwa s.sp.wa)(h3:RRd H vr s.rs)(h4:RCm H vc s.cs)(he:s.early):
  Cl Tryz.prog 92 [.agg #[I s.sp.id,I s.sp.src,vst,vwa,I s.sp.al,I s.sp.up,vr,vc]] w fun u w'=>∃H1 vl en,HLe H H1∧u= .agg #[I s.sys.many,vl]∧cf 4 vl (fV s.bP) en∧St H1 w' (en::σ):=by
 have hsm:=dW he.1
 have htl:s.bq.length≤60:=by have:=dp s.rs;have:=he.2.1;unfold Srv.bq;omega
 refine Cl.o Tryz.func92 Tryz.ntmps92 ag1 ?_
 refine .aj ?_
 refine .bx hs fun b1 w hs=>?_
 refine .o (.alloc hs bV rfl fun b2 w hs=>?_)
 refine .nil ?_
 refine .seq (.draw mix rfl hs fun w hs=>?_)
 refine .ys 0 rfl hs [_,_,_,_,_,_,_,_] aP aE ?_;refine .ys 1 rfl hs [_,_,_,_,_,_,_,_] aP aE ?_
 refine .E 2 hs ?_
 refine .call Tryz.call90 rfl (iM hs h3 (by have:=he.2.1;omega)) ?_;rintro v8 w ⟨H1,hle1,hT,hs⟩
 obtain ⟨at_,ct,rfl⟩:=RTd.shape hT
 have hk0:MkK H1 s s.bq vst vwa vr vc (.slice at_ s.bq.length ct):=⟨h1.mono hle1,h2.mono hle1,h3.mono hle1,h4.mono hle1,hT⟩
 refine .go ?_
 refine .z 3 rfl (zbd (vs:=[(0,.agg #[I s.sp.id,I s.sp.src,vst,vwa,I s.sp.al,I s.sp.up,vr,vc]),(1,.slice at_ s.bq.length ct)]) [I s.sp.id,I s.sp.src,vst,vwa,I s.sp.al,I s.sp.up,vr,vc,.slice at_ s.bq.length ct,.slice none 0 0] lY rfl au) ?_
 refine .E 4 hs ?_
 refine .box hs rfl rfl ?_;intro b10 w hs
 refine .go ?_
 refine .z 5 rfl zg ?_;refine .D hs ?_
 refine .seq (.aj (.z zm ?_))
 refine .q hs (du (f:=[_]) (c:=[]) rfl rfl) ?_
 refine .z zm ?_
 refine .q hs (du (f:=[_]) (c:=[]) rfl rfl) ?_
 refine .z zm ?_
 refine .q hs (du (f:=[_]) (c:=[]) rfl rfl) ?_
 refine .z zm ?_
 refine .q hs (du (f:=[_]) (c:=[]) rfl rfl) ?_
 refine .z zm ?_
 refine .q hs (du (f:=[_]) (c:=[]) rfl rfl) ?_
 refine .z zm ?_
 refine .q hs (du (f:=[_]) (c:=[]) rfl rfl) ?_
 refine .o (.buildSlice (cells:=[fnV b10 0,fnV b10 1,fnV b10 2,fnV b10 3,fnV b10 4,fnV b10 5]) hs vX rfl au fun b23 w hs=>?_)
 refine .z (cB Tryz.runUnderlying223) ?_
 refine .z zm (.nil ?_)
 refine .for (N:=6) (J:=fun k fr w=>fr=[(23,.slice (some ⟨b23,0,none⟩) 6 6),(3,.pointer (some ⟨b10,0,none⟩)),(2,.pointer (some ⟨b2,0,none⟩)),(1,.pointer (some ⟨b1,0,none⟩))]∧∃H2 vl en,HLe H1 H2∧cf 4 vl (fV (s.parts k)) en∧St H2 w (.blk b10 [I s.sp.id,I s.sp.src,vst,vwa,I s.sp.al,I s.sp.up,vr,vc,.slice at_ s.bq.length ct,vl]::en:: .blk b23 [fnV b10 0,fnV b10 1,fnV b10 2,fnV b10 3,fnV b10 4,fnV b10 5]:: .blk b2 [I 0,.slice none 0 0]:: .blk b1 [I s.sp.id,I s.sp.src,vst,vwa,I s.sp.al,I s.sp.up,vr,vc]::σ)) ak ?_ ?_ ?_
 ·exact .mk ⟨rfl,H1,.slice none 0 0,.nul,HLe.refl _,.nil 4 none,hs.nul.sb⟩
 ·rintro k fr w hk ⟨rfl,H2,vl,en,hle2,hO,hs⟩
  refine .block (.aj ?_)
  refine .z (zix Tryz.runUnderlying223 Tryz.sizeOf1) ?_
  refine .q hs (dG rfl Tryz.isAgg1 (hv:=D1 b10 hk)) ?_
  refine .z zg (.nil (.region (.z zm ?_)))
  refine .o (.o8 (first:=[.pointer (some ⟨b10,0,none⟩)]) (cap:=[]) rfl rfl (CQ hk) (AX hs (hk0.mono hle2) hO he hk) ?_);rintro _ w ⟨H3,vl3,en3,hle3,hO3,hs⟩
  refine .nil ?_
  refine nB (nT ?_)
  exact .mk ⟨rfl,H3,vl3,en3,hle2.trans hle3,hO3,hs⟩
 ·rintro fr w ⟨rfl,H2,vl,en,hle2,hO,hs⟩
  rw [s.tf] at hO
  obtain ⟨al,ll,cl,rfl,hll⟩:=hO.shape
  refine nT ?_
  refine .seq (.draw mix rfl hs fun w hs=>?_)
  refine .z 0 rfl (zfa aO) ?_;refine .ys 1 rfl hs [_,_,_,_,_,_] aH aC ?_;refine .z 3 rfl zm ?_;refine .z 4 rfl znc ?_;refine .z 5 rfl (zfa fu) ?_;refine .y 6 rfl hs Gc ?_;refine .z 7 rfl (cB aU) ?_;refine .z 9 rfl zm ?_;refine .z 10 rfl znc ?_;refine .z 11 rfl (zfa gq) ?_
  refine .y 12 rfl hs cA ?_
  refine .E 2 hs ?_
  refine .call Tryz.call91 rfl (fM (s:=s.sp) hs (h1.mono (hle1.trans hle2)) (h2.mono (hle1.trans hle2)) ⟨ak,ak⟩) ?_;rintro _ w ⟨rfl,hs⟩
  refine .go ?_
  refine .z 8 rfl ck ?_;refine .z 13 rfl (zbd [_,_] fF) ?_
  refine .E 14 hs ?_
  refine .aZ (vs:=[_,_]) hs rfl rfl aB ?_;intro w hs
  refine .go ?_
  refine .D hs ?_
  refine .ret ?_
  replace hs:St H2 w (.blk b2 [I ((s.sp.many:Int)+(s.bq.length:Int)),.slice al ll cl]::en::σ):=hs.sb
  exact Fin.iA [] [] hs fun w hs=>⟨_,results1 Tryz.results92 (dF (vs:=[_,_]) hs rfl aN aB),H2,_,en,hle1.trans hle2,by show _=Value.agg #[I ((s.sp.many+s.bq.length:Nat):Int),_];rw [Int.natCast_add],hO,hs.tail⟩
theorem ew{s:Srv}{vst vwa vr vc:Value}(hs:St H w σ)(h1:RI H vst s.sp.st)(h2:RI H vwa s.sp.wa)(h3:RRd H vr s.rs)(h4:RCm H vc s.cs)(he:s.early):
  Cl Tryz.prog 92 [.agg #[I s.sp.id,I s.sp.src,vst,vwa,I s.sp.al,I s.sp.up,vr,vc]] w fun u w'=>∃H1,HLe H H1∧RSy H1 u s.sys∧St H1 w' σ:=by
 refine (kQ hs h1 h2 h3 h4 he).mono ?_
 rintro u w' ⟨H1,vl,en,hle,rfl,hO,hs⟩
 have hl:=jq he 6 ak
 rw [s.tf] at hl
 obtain ⟨H2,hle2,hR,hs⟩:=cf.cq (m:=4) (cs:=s.bP.map Lim.c) hO (fun c hc=>by simp only [List.mem_map] at hc;obtain ⟨x,_,rfl⟩:=hc;rfl) ak (by rw [List.length_map];omega) hs .here
 exact ⟨H2,hle.trans hle2,⟨vl,rfl,hR⟩,hs⟩
set_option maxHeartbeats 1000000 in
theorem dY{s:Srv}{vst vwa vr vc:Value}(hs:St H w σ)(h1:RI H vst s.sp.st)(h2:RI H vwa s.sp.wa)(h3:RRd H vr s.rs)(h4:RCm H vc s.cs):
  Cl Tryz.prog 42 [.agg #[I s.sp.id,I s.sp.src,vst,vwa,I s.sp.al,I s.sp.up,vr,vc]] w fun u w'=>∃H1 e,HLe H H1∧u=I e∧tT s e∧St H1 w' σ:=by
 obtain ⟨ast,cst,rfl⟩:=RI.shape h1
 obtain ⟨awa,cwa,rfl⟩:=RI.shape h2
 obtain ⟨ar,cr,rfl⟩:=RRd.shape h3
 obtain ⟨ac,cc,rfl⟩:=RCm.shape h4
 refine Cl.o Tryz.func42 Tryz.ntmps42 ag1 ?_
 refine .aj ?_
 refine .bx hs fun b1 w hs=>?_
 refine .z zg (.nil (.seq (.aj (.z (zfa aO) (.y hs (zls [_,_,_,_,_,_] aH aC) ?_)))))
 refine .o (.call Tryz.call41 rfl (iN (s:=s.sp) hs h1 h2) ?_);rintro _ w ⟨H1,e,hle1,rfl,he,hs⟩
 refine .z zg (.nil (.aj (.z zm (.z gx (.nil ?_)))))
 refine (.eH rfl (fun hc13=>?_) (fun hc13=>?_))
 ·refine .aj (.z zm (.z zg (.nil ?_)))
  refine .ret (rT (Fin.bH kL rfl ?_))
  have hq:¬fl s.sp∧e=30:=he.resolve_left fun h=>hc13 h.2
  exact ⟨H1,_,hle1,rfl,by rw [hq.2];exact .space hq.1,hs.out⟩
 ·refine .skip ?_
  refine nT ?_
  refine .seq (.aj (.z (zfa aM) ?_))
  have hok:fl s.sp:=(he.resolve_right fun h=>by omega).1
  refine .y hs (zld bj) (.z (cB aA) (.z kD (.z zm ?_)))
  refine .iD (t':=19) rfl (fun hb19=>?_) (fun hb19=>?_)
  ·refine .gFs 4 4 false rfl rfl rfl ?_
   refine .z zpT (.nil ?_)
   refine (.cT ?_)
   refine .aj (.z zg (.nil ?_))
   refine .ret (rT (Fin.bH kL rfl ?_))
   exact ⟨H1,_,hle1,rfl,.long hok ak,hs.out⟩
  ·refine .gT rfl rfl ?_
   refine .z (zfa bO) ?_
   refine .gT rfl rfl ?_
   refine .y hs (zld dL) ?_
   refine .gT rfl rfl ?_
   refine .z (cB aV) ?_
   refine .gT rfl rfl ?_
   refine .z kD (.z zpF (.nil ?_))
   refine (.bB rfl (fun hc24=>?_) (fun hc24=>?_))
   ·refine .aj (.z zg (.nil ?_))
    refine .ret (rT (Fin.bH kL rfl ?_))
    exact ⟨H1,_,hle1,rfl,.long hok ak,hs.out⟩
   ·refine .skip ?_
    refine nT ?_
    refine .seq (.aj (.z (zfa aM) (.y hs (zld bj) (.z (cB aA) (.z zm (.nil ?_))))))
    refine .for (N:=s.rs.length) (J:=fun k fr w=>fr=[(26,.slice ar s.rs.length cr),(1,.pointer (some ⟨b1,0,none⟩))]∧(∀j<k,∀y,s.rs[j]? =some y→jh s.sp y)∧St H1 w (.blk b1 [I s.sp.id,I s.sp.src,.slice ast s.sp.st.length cst,.slice awa s.sp.wa.length cwa,I s.sp.al,I s.sp.up,.slice ar s.rs.length cr,.slice ac s.cs.length cc]::σ)) ak ?_ ?_ ?_
    ·exact .mk ⟨rfl,fun j hj=>by omega,hs⟩
    ·rintro k fr w hk ⟨rfl,hno,hs⟩
     obtain ⟨r,hx⟩:=nth hk
     refine .block (.aj ?_)
     refine .ixX (enc:=Rdg.c) hs (h3.mono hle1) rfl rfl aA aF hx cD ?_;intro b30 o30 hc30
     refine .q hs (cI (vs:=(Rdg.c r)) rfl dB aF hc30) ?_
     refine .o (.alloc hs ek rfl fun b5 w hs=>?_)
     refine .o (.aZ (vs:=r.c) hs rfl rfl aF fun w hs=>?_)
     change St _ _ (.blk b5 [I r.src,I r.st,I r.wa,I r.val,I r.tol,I r.tape,I r.day]::_) at hs
     refine .nil (.aj (.z (zfa aO) (.y hs (zls [_,_,_,_,_,_] aH aC) (.y hs (zls [_,_,_,_,_,_,_] dB aF) ?_))))
     refine .o (.call Tryz.call107 rfl (iW (s:=s.sp) (r:=r) hs (h1.mono hle1) (h2.mono hle1)) ?_);rintro _ w ⟨b35,rfl,hb35,hs⟩
     refine .z gV (.nil ?_)
     refine (.cond rfl (fun hc36=>?_) (fun hc36=>?_))
     ·refine .aj (.z zg (.nil ?_))
      refine .ret (rB (rT (rB (rT (Fin.bH kL rfl ?_)))))
      exact ⟨H1,_,hle1,rfl,.rdg hok ak (fun h=>by rw [hb35.2 (h r (List.mem_of_getElem? hx))] at hc36;cases hc36),hs.out⟩
     ·refine .skip ?_
      refine nB (nT ?_)
      exact .mk ⟨rfl,e9 hno hx (hb35.1 (by simpa using hc36)),hs.tail⟩
    ·rintro fr w ⟨rfl,hno,hs⟩
     have hrs:∀r∈s.rs,jh s.sp r:=fun r hr=>by
      obtain ⟨j,hj⟩:=List.getElem?_of_mem hr
      exact hno j (List.getElem?_eq_some_iff.1 hj).1 r hj
     clear hno
     refine nT ?_
     refine .seq (.aj (.z (zfa bO) (.y hs (zld dL) (.z (cB aV) (.z zm (.nil ?_))))))
     refine .for (N:=s.cs.length) (J:=fun k fr w=>fr=[(39,.slice ac s.cs.length cc),(1,.pointer (some ⟨b1,0,none⟩))]∧(∀j<k,∀y,s.cs[j]? =some y→po y)∧St H1 w (.blk b1 [I s.sp.id,I s.sp.src,.slice ast s.sp.st.length cst,.slice awa s.sp.wa.length cwa,I s.sp.al,I s.sp.up,.slice ar s.rs.length cr,.slice ac s.cs.length cc]::σ)) ak ?_ ?_ ?_
     ·exact .mk ⟨rfl,fun j hj=>by omega,hs⟩
     ·rintro k fr w hk ⟨rfl,hno,hs⟩
      obtain ⟨c,hx⟩:=nth hk
      refine .block (.aj ?_)
      refine .ixX (enc:=Cmp.c) hs (h4.mono hle1) rfl rfl aV bQ hx cD ?_;intro b43 o43 hc43
      refine .q hs (cI (vs:=(Cmp.c c)) rfl EB bQ hc43) ?_
      refine .o (.alloc hs wu rfl fun b7 w hs=>?_)
      refine .o (.aZ (vs:=c.c) hs rfl rfl bQ fun w hs=>?_)
      change St _ _ (.blk b7 [I c.src,I c.tape,I c.fr,I c.to,I c.lo,I c.hi]::_) at hs
      refine .nil (.aj (.y hs (zls [_,_,_,_,_,_] EB bQ) ?_))
      refine .o (.call Tryz.call108 rfl (mM (c:=c) hs) ?_);rintro _ w ⟨b46,rfl,hb46,hs⟩
      refine .z gV (.nil ?_)
      refine (.cond rfl (fun hc47=>?_) (fun hc47=>?_))
      ·refine .aj (.z zg (.nil ?_))
       refine .ret (rB (rT (rB (rT (Fin.bH kL rfl ?_)))))
       exact ⟨H1,_,hle1,rfl,.cmp hok ak hrs (fun h=>by rw [hb46.2 (h c (List.mem_of_getElem? hx))] at hc47;cases hc47),hs.out⟩
      ·refine .skip ?_
       refine nB (nT ?_)
       exact .mk ⟨rfl,e9 hno hx (hb46.1 (by simpa using hc47)),hs.tail⟩
     ·rintro fr w ⟨rfl,hno,hs⟩
      have hcs:∀c∈s.cs,po c:=fun c hc=>by
       obtain ⟨j,hj⟩:=List.getElem?_of_mem hc
       exact hno j (List.getElem?_eq_some_iff.1 hj).1 c hj
      have hea:s.early:=⟨hok,ak,ak,hrs,hcs⟩
      have hsm:=dW hok
      have htl:s.bq.length≤60:=by have:=dp s.rs;have:=hea.2.1;unfold Srv.bq;omega
      have hll:=jq hea 6 ak
      rw [s.tf] at hll
      have hsm2:s.sys.many=((s.sp.many+s.bq.length:Nat):Int):=rfl
      refine nT ?_
      refine .seq (.aj (.y hs (zls [_,_,_,_,_,_,_,_] aP aE) ?_))
      refine .o (.call wx rfl (ew (s:=s) hs (h1.mono hle1) (h2.mono hle1) (h3.mono hle1) (h4.mono hle1) hea) ?_);rintro _ w ⟨H2,hle2,⟨ul,rfl,hL⟩,hs⟩
      obtain ⟨al,cl,rfl⟩:=RL.shape hL
      have hsl:s.sys.bP.length=s.bP.length:=rfl
      refine .o (.alloc hs bV rfl fun b8 w hs=>?_)
      refine .o (.aZ (vs:=[_,_]) hs rfl rfl aB fun w hs=>?_)
      refine .nil (.aj (.z (zfa bI) (.y hs (zld af) (.z kD (.z zm ?_)))))
      refine .iD (t':=54) rfl (fun hb54=>?_) (fun hb54=>?_)
      ·refine .gFs 4 3 false rfl rfl rfl ?_
       refine .z zpT (.nil ?_)
       refine (.cT ?_)
       refine .aj (.z zg (.nil ?_))
       refine .ret (rT (Fin.bH kL rfl ?_))
       exact ⟨H2,_,hle1.trans hle2,rfl,.big hea ak,hs.out⟩
      ·refine .gT rfl rfl ?_
       refine .z (zfa bE) ?_
       refine .gT rfl rfl ?_
       refine .y hs (zld cA) ?_
       refine .gT rfl rfl ?_
       refine .z (cB aI) ?_
       refine .gT rfl rfl ?_
       refine .z kD (.z zpF (.nil ?_))
       refine (.bB rfl (fun hc59=>?_) (fun hc59=>?_))
       ·refine .aj (.z zg (.nil ?_))
        refine .ret (rT (Fin.bH kL rfl ?_))
        exact ⟨H2,_,hle1.trans hle2,rfl,.big hea ak,hs.out⟩
       ·refine .skip ?_
        refine nT ?_
        refine .aj (.z zg (.nil ?_))
        refine .ret (Fin.bH kL rfl ?_)
        exact ⟨H2,_,hle1.trans hle2,rfl,.ok hea ⟨ak,ak⟩,hs.out⟩
theorem dd{a0 a1 a2:Int}(hs:St H w σ):Cl Tryz.prog 83 [I a0,I a1,I a2] w fun v w'=>v= .bool (decide (a1≤a0∧a0≤a2))∧St H w' σ:=by
 refine Cl.o Tryz.func83 Tryz.ntmps83 ag3 ?_
 refine .aj (.z zg (.nil (.aj (.z zm (.z zm (.z xt (.z zm ?_)))))))
 refine .iD (t':=10) rfl (fun hb10=>?_) (fun hb10=>?_)
 ·refine .gT rfl rfl ?_
  refine .z zm ?_
  refine .gT rfl rfl ?_
  refine .z zm ?_
  refine .gT rfl rfl ?_
  refine .z wh (.z zpT (.z zg (.nil ?_)))
  refine .ret (Fin.bH Tryz.results83 rfl ?_)
  exact ⟨by simp [*],hs.out⟩
 ·refine .gFs 3 3 true rfl rfl rfl ?_
  refine .z zpF (.z zg (.nil ?_))
  refine .ret (Fin.bH Tryz.results83 rfl ?_)
  exact ⟨by simp [*],hs.out⟩
theorem EH{s:Spc}(h1:eI 9 100000 s.st)(h2:eI 9 100000 s.wa)(h3:s.wa.length≤7)(h4:gi s.wa (s.wa.length - 1)≤15000)(h5:1≤s.id∧s.id≤99999)(h6:1≤s.src∧s.src≤99999)(h7:0≤s.al∧s.al≤100000)(h8:0≤s.up∧s.up≤100000):fl s:=
 ⟨h1,⟨h2.two,h3,h2.low,h4,h2.rise⟩,h5,h6,h7,h8⟩
theorem xF{s:Spc}(h:fl s):eI 9 100000 s.wa:=⟨h.wa.two,by have:=h.wa.many;omega,h.wa.low,by have:=h.wa.high;omega,h.wa.rise⟩
theorem gz{s:Spc}{vst vwa:Value}(hs:St H w σ)(h1:RI H vst s.st)(h2:RI H vwa s.wa):
  Cl Tryz.prog 24 [.agg #[I s.id,I s.src,vst,vwa,I s.al,I s.up]] w fun v w'=>∃e,v=I e∧((fl s∧e=0)∨(¬fl s∧e=30))∧St H w' σ:=by
 obtain ⟨ast,cst,rfl⟩:=RI.shape h1
 obtain ⟨awa,cwa,rfl⟩:=RI.shape h2
 have l2:=(RI.len h2).2.2
 refine Cl.o Tryz.func24 Tryz.ntmps24 ag1 ?_
 refine .aj ?_
 refine .bx hs fun b1 w hs=>?_
 refine .z zg (.nil (.seq (.aj (.z (zfa lg) (.y hs (zld af) ?_)))))
 refine .o (.call eV rfl (dd hs) ?_);rintro _ w ⟨rfl,hs⟩
 refine .z gV (.z zm ?_)
 refine .bif (t':=7) rfl (fun hb7=>?_) (fun hb7=>?_)
 ·refine .gFs 4 4 false rfl rfl rfl ?_
  refine .z zpT (.z zm ?_)
  refine .gFs 5 10 false rfl rfl rfl ?_
  refine .z zpT (.z zm ?_)
  refine .gFs 5 17 false rfl rfl rfl ?_
  refine .z zpT (.nil ?_)
  refine (.cT ?_)
  refine .aj (.z zg (.nil ?_))
  refine .ret (rT (Fin.bH iV rfl ?_))
  exact ⟨_,rfl,.inr ⟨fun h=>by have:=h.id;simp_all,rfl⟩,hs.out⟩
 ·refine .gT rfl rfl ?_
  refine .z (zfa dv) ?_
  refine .gT rfl rfl ?_
  refine .y hs (zld af) ?_
  refine .gT rfl rfl ?_
  refine .o (.call eV rfl (dd hs) ?_);rintro _ w ⟨rfl,hs⟩
  refine .gT rfl rfl ?_
  refine .z gV (.z zpF (.z zm ?_))
  refine .bif (t':=13) rfl (fun hb13=>?_) (fun hb13=>?_)
  ·refine .gFs 5 10 false rfl rfl rfl ?_
   refine .z zpT (.z zm ?_)
   refine .gFs 5 17 false rfl rfl rfl ?_
   refine .z zpT (.nil ?_)
   refine (.cT ?_)
   refine .aj (.z zg (.nil ?_))
   refine .ret (rT (Fin.bH iV rfl ?_))
   exact ⟨_,rfl,.inr ⟨fun h=>by have:=h.src;simp_all,rfl⟩,hs.out⟩
  ·refine .gT rfl rfl ?_
   refine .z (zfa dO) ?_
   refine .gT rfl rfl ?_
   refine .z (zfa iQ) ?_
   refine .gT rfl rfl ?_
   refine .y hs (zld af) ?_
   refine .gT rfl rfl ?_
   refine .o (.call eV rfl (dd hs) ?_);rintro _ w ⟨rfl,hs⟩
   refine .gT rfl rfl ?_
   refine .z gV (.z zpF (.z zm ?_))
   refine .bif (t':=20) rfl (fun hb20=>?_) (fun hb20=>?_)
   ·refine .gFs 5 17 false rfl rfl rfl ?_
    refine .z zpT (.nil ?_)
    refine (.cT ?_)
    refine .aj (.z zg (.nil ?_))
    refine .ret (rT (Fin.bH iV rfl ?_))
    exact ⟨_,rfl,.inr ⟨fun h=>by have:=h.al;simp_all,rfl⟩,hs.out⟩
   ·refine .gT rfl rfl ?_
    refine .z (zfa dO) ?_
    refine .gT rfl rfl ?_
    refine .z (zfa iP) ?_
    refine .gT rfl rfl ?_
    refine .y hs (zld af) ?_
    refine .gT rfl rfl ?_
    refine .o (.call eV rfl (dd hs) ?_);rintro _ w ⟨rfl,hs⟩
    refine .gT rfl rfl ?_
    refine .z gV (.z zpF (.nil ?_))
    refine (.cond rfl (fun hc26=>?_) (fun hc26=>?_))
    ·refine .aj (.z zg (.nil ?_))
     refine .ret (rT (Fin.bH iV rfl ?_))
     exact ⟨_,rfl,.inr ⟨fun h=>by have:=h.up;simp_all,rfl⟩,hs.out⟩
    ·refine .skip ?_
     refine nT ?_
     refine .seq (.aj (.z (zfa bp) (.y hs (zld an) ?_)))
     refine .o (.call Tryz.call84 rfl (gn hs h1) ?_);rintro _ w ⟨e1,rfl,he1,hs⟩
     refine .z gx (.z zm ?_)
     refine .yf (t':=31) rfl (fun hb31=>?_) (fun hb31=>?_)
     ·refine .gFs 4 4 false rfl rfl rfl ?_
      refine .z zpT (.z zm ?_)
      refine .gFs 4 10 false rfl rfl rfl ?_
      refine .z zpT (.z zm ?_)
      refine .gFs 9 16 false rfl rfl rfl ?_
      refine .z zpT (.nil ?_)
      refine (.cT ?_)
      refine .aj (.z zg (.nil ?_))
      refine .ret (rT (Fin.bH iV rfl ?_))
      exact ⟨_,rfl,.inr ⟨fun h=>hb31 (he1.elim (fun g=>g.2) fun g=>(g.1 h.st).elim),rfl⟩,hs.out⟩
     ·refine .gT rfl rfl ?_
      refine .z (zfa aW) ?_
      refine .gT rfl rfl ?_
      refine .y hs (zld an) ?_
      refine .gT rfl rfl ?_
      refine .o (.call Tryz.call84 rfl (gn hs h2) ?_);rintro _ w ⟨e2,rfl,he2,hs⟩
      refine .gT rfl rfl ?_
      refine .z gx (.z zpF (.z zm ?_))
      refine .yf (t':=37) rfl (fun hb37=>?_) (fun hb37=>?_)
      ·refine .gFs 4 10 false rfl rfl rfl ?_
       refine .z zpT (.z zm ?_)
       refine .gFs 9 16 false rfl rfl rfl ?_
       refine .z zpT (.nil ?_)
       refine (.cT ?_)
       refine .aj (.z zg (.nil ?_))
       refine .ret (rT (Fin.bH iV rfl ?_))
       exact ⟨_,rfl,.inr ⟨fun h=>hb37 (he2.elim (fun g=>g.2) fun g=>(g.1 (xF h)).elim),rfl⟩,hs.out⟩
      ·refine .gT rfl rfl ?_
       refine .z (zfa aW) ?_
       refine .gT rfl rfl ?_
       have hw:eI 9 100000 s.wa:=he2.elim (fun g=>g.1) fun g=>(g.2 ak).elim
       have hw2:=hw.two
       refine .y hs (zld an) ?_
       refine .gT rfl rfl ?_
       refine .z (cB ae) ?_
       refine .gT rfl rfl ?_
       refine .z kD (.z zpF (.z zm ?_))
       refine .iD (t':=43) rfl (fun hb43=>?_) (fun hb43=>?_)
       ·refine .gFs 9 16 false rfl rfl rfl ?_
        refine .z zpT (.nil ?_)
        refine (.cT ?_)
        refine .aj (.z zg (.nil ?_))
        refine .ret (rT (Fin.bH iV rfl ?_))
        exact ⟨_,rfl,.inr ⟨fun h=>by have:=h.wa.many;omega,rfl⟩,hs.out⟩
       ·refine .gT rfl rfl ?_
        refine .z (zfa aW) ?_
        refine .gT rfl rfl ?_
        refine .y hs (zld an) ?_
        refine .gT rfl rfl ?_
        refine .z (zfa aW) ?_
        refine .gT rfl rfl ?_
        refine .y hs (zld an) ?_
        refine .gT rfl rfl ?_
        refine .z (cB ae) ?_
        refine .gT rfl rfl ?_
        refine .z gL ?_
        refine .gT rfl rfl ?_
        refine .ixY hs h2 rfl rfl ae ai (bn (l:=s.wa) (i:=(s.wa.length-1)) ak) cD ?_;intro b50 o50 hc50
        refine .gT rfl rfl ?_
        refine .q hs (aJ rfl af hc50) ?_
        refine .gT rfl rfl ?_
        refine .z kD (.z zpF (.nil ?_))
        refine (.bB rfl (fun hc53=>?_) (fun hc53=>?_))
        ·refine .aj (.z zg (.nil ?_))
         refine .ret (rT (Fin.bH iV rfl ?_))
         exact ⟨_,rfl,.inr ⟨fun h=>by have:=h.wa.high;omega,rfl⟩,hs.out⟩
        ·refine .skip ?_
         refine nT ?_
         refine .aj (.z zg (.nil ?_))
         refine .ret (Fin.bH iV rfl ?_)
         exact ⟨_,rfl,.inl ⟨EH (he1.elim (fun g=>g.1) fun g=>(g.2 ak).elim) hw ak ak (by simp_all) (by simp_all) (by simp_all) (by simp_all),rfl⟩,hs.out⟩
theorem iJ{s:Spc}{r:Rdg}{vst vwa:Value}(hs:St H w σ)(h1:RI H vst s.st)(h2:RI H vwa s.wa):
  Cl Tryz.prog 109 [.agg #[I s.id,I s.src,vst,vwa,I s.al,I s.up],.agg #[I r.src,I r.st,I r.wa,I r.val,I r.tol,I r.tape,I r.day]] w fun v w'=>∃b:Bool,v= .bool b∧(b=true↔jh s r)∧St H w' σ:=by
 obtain ⟨ast,cst,rfl⟩:=RI.shape h1
 obtain ⟨awa,cwa,rfl⟩:=RI.shape h2
 have l1:=(RI.len h1).2.2
 have l2:=(RI.len h2).2.2
 refine Cl.o Tryz.func109 Tryz.ntmps109 ag2 ?_
 refine .aj ?_
 refine .bx hs fun b2 w hs=>?_
 refine .bx hs fun b3 w hs=>?_
 refine .z zg (.nil (.aj (.z (zfa eg) (.y hs (zld af) ?_))))
 refine .o (.call eV rfl (dd hs) ?_);rintro _ w ⟨rfl,hs⟩
 refine .z zm ?_
 refine .bif (t':=8) rfl (fun hb8=>?_) (fun hb8=>?_)
 ·refine .gT rfl rfl ?_
  refine .z (zfa eM) ?_
  refine .gT rfl rfl ?_
  refine .y hs (zld af) ?_
  refine .gT rfl rfl ?_
  refine .z (zfa bp) ?_
  refine .gT rfl rfl ?_
  refine .y hs (zld an) ?_
  refine .gT rfl rfl ?_
  refine .z (cB ae) ?_
  refine .gT rfl rfl ?_
  refine .z gL ?_
  refine .gT rfl rfl ?_
  refine .o (.call eV rfl (dd hs) ?_);rintro _ w ⟨rfl,hs⟩
  refine .z zpT (.z zm ?_)
  refine .bif (t':=17) rfl (fun hb17=>?_) (fun hb17=>?_)
  ·refine .gT rfl rfl ?_
   refine .z (zfa eL) ?_
   refine .gT rfl rfl ?_
   refine .y hs (zld af) ?_
   refine .gT rfl rfl ?_
   refine .z (zfa aW) ?_
   refine .gT rfl rfl ?_
   refine .y hs (zld an) ?_
   refine .gT rfl rfl ?_
   refine .z (cB ae) ?_
   refine .gT rfl rfl ?_
   refine .z gL ?_
   refine .gT rfl rfl ?_
   refine .o (.call eV rfl (dd hs) ?_);rintro _ w ⟨rfl,hs⟩
   refine .z zpT (.z zm ?_)
   refine .bif (t':=26) rfl (fun hb26=>?_) (fun hb26=>?_)
   ·refine .gT rfl rfl ?_
    refine .z (zfa bY) ?_
    refine .gT rfl rfl ?_
    refine .y hs (zld af) ?_
    refine .gT rfl rfl ?_
    refine .o (.call eV rfl (dd hs) ?_);rintro _ w ⟨rfl,hs⟩
    refine .z zpT (.z zm ?_)
    refine .bif (t':=31) rfl (fun hb31=>?_) (fun hb31=>?_)
    ·refine .gT rfl rfl ?_
     refine .z (zfa cM) ?_
     refine .gT rfl rfl ?_
     refine .y hs (zld af) ?_
     refine .gT rfl rfl ?_
     refine .z (zfa bY) ?_
     refine .gT rfl rfl ?_
     refine .y hs (zld af) ?_
     refine .gT rfl rfl ?_
     have ht:0≤r.tol∧r.tol≤1000:=by simp_all
     refine .z gL ?_
     refine .gT rfl rfl ?_
     refine .o (.call eV rfl (dd hs) ?_);rintro _ w ⟨rfl,hs⟩
     refine .z zpT (.z zm ?_)
     refine .bif (t':=39) rfl (fun hb39=>?_) (fun hb39=>?_)
     ·refine .gT rfl rfl ?_
      refine .z (zfa ef) ?_
      refine .gT rfl rfl ?_
      refine .y hs (zld af) ?_
      refine .gT rfl rfl ?_
      refine .o (.call eV rfl (dd hs) ?_);rintro _ w ⟨rfl,hs⟩
      refine .z zpT (.z zm ?_)
      refine .bif (t':=44) rfl (fun hb44=>?_) (fun hb44=>?_)
      ·refine .gT rfl rfl ?_
       refine .z (zfa ee) ?_
       refine .gT rfl rfl ?_
       refine .y hs (zld af) ?_
       refine .gT rfl rfl ?_
       refine .o (.call eV rfl (dd hs) ?_);rintro _ w ⟨rfl,hs⟩
       refine .z zpT (.z zg (.nil ?_))
       refine .ret (Fin.bH mD rfl ?_)
       first
       |exact ⟨false,rfl,⟨fun h=>(by cases h),fun h=>(by obtain ⟨g1,g2,g3,g4,g5,g6,g7⟩:=h;simp_all;done)⟩,hs.out⟩
       |exact ⟨_,rfl,⟨fun h=>⟨by simp_all,by simp_all,by simp_all,by simp_all,by simp_all,by simp_all,by simpa using h⟩,fun h=>by simpa using h.day⟩,hs.out⟩
      ·refine .gFs 3 39 true rfl rfl rfl ?_
       refine .z zpF (.z zg (.nil ?_))
       refine .ret (Fin.bH mD rfl ?_)
       first
       |exact ⟨false,rfl,⟨fun h=>(by cases h),fun h=>(by obtain ⟨g1,g2,g3,g4,g5,g6,g7⟩:=h;simp_all;done)⟩,hs.out⟩
       |exact ⟨_,rfl,⟨fun h=>⟨by simp_all,by simp_all,by simp_all,by simp_all,by simp_all,by simp_all,by simpa using h⟩,fun h=>by simpa using h.day⟩,hs.out⟩
     ·refine .gFs 3 34 true rfl rfl rfl ?_
      refine .z zpF (.z zm ?_)
      refine .gFs 3 39 true rfl rfl rfl ?_
      refine .z zpF (.z zg (.nil ?_))
      refine .ret (Fin.bH mD rfl ?_)
      first
      |exact ⟨false,rfl,⟨fun h=>(by cases h),fun h=>(by obtain ⟨g1,g2,g3,g4,g5,g6,g7⟩:=h;simp_all;done)⟩,hs.out⟩
      |exact ⟨_,rfl,⟨fun h=>⟨by simp_all,by simp_all,by simp_all,by simp_all,by simp_all,by simp_all,by simpa using h⟩,fun h=>by simpa using h.day⟩,hs.out⟩
    ·refine .gFs 6 26 true rfl rfl rfl ?_
     refine .z zpF (.z zm ?_)
     refine .gFs 3 34 true rfl rfl rfl ?_
     refine .z zpF (.z zm ?_)
     refine .gFs 3 39 true rfl rfl rfl ?_
     refine .z zpF (.z zg (.nil ?_))
     refine .ret (Fin.bH mD rfl ?_)
     first
     |exact ⟨false,rfl,⟨fun h=>(by cases h),fun h=>(by obtain ⟨g1,g2,g3,g4,g5,g6,g7⟩:=h;simp_all;done)⟩,hs.out⟩
     |exact ⟨_,rfl,⟨fun h=>⟨by simp_all,by simp_all,by simp_all,by simp_all,by simp_all,by simp_all,by simpa using h⟩,fun h=>by simpa using h.day⟩,hs.out⟩
   ·refine .gFs 3 21 true rfl rfl rfl ?_
    refine .z zpF (.z zm ?_)
    refine .gFs 6 26 true rfl rfl rfl ?_
    refine .z zpF (.z zm ?_)
    refine .gFs 3 34 true rfl rfl rfl ?_
    refine .z zpF (.z zm ?_)
    refine .gFs 3 39 true rfl rfl rfl ?_
    refine .z zpF (.z zg (.nil ?_))
    refine .ret (Fin.bH mD rfl ?_)
    first
    |exact ⟨false,rfl,⟨fun h=>(by cases h),fun h=>(by obtain ⟨g1,g2,g3,g4,g5,g6,g7⟩:=h;simp_all;done)⟩,hs.out⟩
    |exact ⟨_,rfl,⟨fun h=>⟨by simp_all,by simp_all,by simp_all,by simp_all,by simp_all,by simp_all,by simpa using h⟩,fun h=>by simpa using h.day⟩,hs.out⟩
  ·refine .gFs 7 12 true rfl rfl rfl ?_
   refine .z zpF (.z zm ?_)
   refine .gFs 3 21 true rfl rfl rfl ?_
   refine .z zpF (.z zm ?_)
   refine .gFs 6 26 true rfl rfl rfl ?_
   refine .z zpF (.z zm ?_)
   refine .gFs 3 34 true rfl rfl rfl ?_
   refine .z zpF (.z zm ?_)
   refine .gFs 3 39 true rfl rfl rfl ?_
   refine .z zpF (.z zg (.nil ?_))
   refine .ret (Fin.bH mD rfl ?_)
   first
   |exact ⟨false,rfl,⟨fun h=>(by cases h),fun h=>(by obtain ⟨g1,g2,g3,g4,g5,g6,g7⟩:=h;simp_all;done)⟩,hs.out⟩
   |exact ⟨_,rfl,⟨fun h=>⟨by simp_all,by simp_all,by simp_all,by simp_all,by simp_all,by simp_all,by simpa using h⟩,fun h=>by simpa using h.day⟩,hs.out⟩
 ·refine .gFs 7 3 true rfl rfl rfl ?_
  refine .z zpF (.z zm ?_)
  refine .gFs 7 12 true rfl rfl rfl ?_
  refine .z zpF (.z zm ?_)
  refine .gFs 3 21 true rfl rfl rfl ?_
  refine .z zpF (.z zm ?_)
  refine .gFs 6 26 true rfl rfl rfl ?_
  refine .z zpF (.z zm ?_)
  refine .gFs 3 34 true rfl rfl rfl ?_
  refine .z zpF (.z zm ?_)
  refine .gFs 3 39 true rfl rfl rfl ?_
  refine .z zpF (.z zg (.nil ?_))
  refine .ret (Fin.bH mD rfl ?_)
  first
  |exact ⟨false,rfl,⟨fun h=>(by cases h),fun h=>(by obtain ⟨g1,g2,g3,g4,g5,g6,g7⟩:=h;simp_all;done)⟩,hs.out⟩
  |exact ⟨_,rfl,⟨fun h=>⟨by simp_all,by simp_all,by simp_all,by simp_all,by simp_all,by simp_all,by simpa using h⟩,fun h=>by simpa using h.day⟩,hs.out⟩
theorem l9{c:Cmp}(hs:St H w σ):
  Cl Tryz.prog 110 [.agg #[I c.src,I c.tape,I c.fr,I c.to,I c.lo,I c.hi]] w fun v w'=>∃b:Bool,v= .bool b∧(b=true↔po c)∧St H w' σ:=by
 refine Cl.o Tryz.func110 Tryz.ntmps110 ag1 ?_
 refine .aj ?_
 refine .bx hs fun b1 w hs=>?_
 refine .z zg (.nil (.aj (.z (zfa fZ) (.y hs (zld af) ?_))))
 refine .o (.call eV rfl (dd hs) ?_);rintro _ w ⟨rfl,hs⟩
 refine .z zm ?_
 refine .bif (t':=6) rfl (fun hb6=>?_) (fun hb6=>?_)
 ·refine .gT rfl rfl ?_
  refine .z (zfa ia) ?_
  refine .gT rfl rfl ?_
  refine .y hs (zld af) ?_
  refine .gT rfl rfl ?_
  refine .o (.call eV rfl (dd hs) ?_);rintro _ w ⟨rfl,hs⟩
  refine .z zpT (.z zm ?_)
  refine .bif (t':=11) rfl (fun hb11=>?_) (fun hb11=>?_)
  ·refine .gT rfl rfl ?_
   refine .z (zfa fq) ?_
   refine .gT rfl rfl ?_
   refine .y hs (zld af) ?_
   refine .gT rfl rfl ?_
   refine .z xt (.z zpT (.z zm ?_))
   refine .iD (t':=16) rfl (fun hb16=>?_) (fun hb16=>?_)
   ·refine .gT rfl rfl ?_
    refine .z (zfa fq) ?_
    refine .gT rfl rfl ?_
    refine .y hs (zld af) ?_
    refine .gT rfl rfl ?_
    refine .z (zfa eP) ?_
    refine .gT rfl rfl ?_
    refine .y hs (zld af) ?_
    refine .gT rfl rfl ?_
    refine .z wh (.z zpT (.z zm ?_))
    refine .iD (t':=23) rfl (fun hb23=>?_) (fun hb23=>?_)
    ·refine .gT rfl rfl ?_
     refine .z (zfa eP) ?_
     refine .gT rfl rfl ?_
     refine .y hs (zld af) ?_
     refine .gT rfl rfl ?_
     refine .z wh (.z zpT (.z zm ?_))
     refine .iD (t':=28) rfl (fun hb28=>?_) (fun hb28=>?_)
     ·refine .gT rfl rfl ?_
      refine .z (zfa eO) ?_
      refine .gT rfl rfl ?_
      refine .y hs (zld af) ?_
      refine .gT rfl rfl ?_
      refine .z xt (.z zpT (.z zm ?_))
      refine .iD (t':=33) rfl (fun hb33=>?_) (fun hb33=>?_)
      ·refine .gT rfl rfl ?_
       refine .z (zfa eO) ?_
       refine .gT rfl rfl ?_
       refine .y hs (zld af) ?_
       refine .gT rfl rfl ?_
       refine .z (zfa eN) ?_
       refine .gT rfl rfl ?_
       refine .y hs (zld af) ?_
       refine .gT rfl rfl ?_
       refine .z wh (.z zpT (.z zm ?_))
       refine .iD (t':=40) rfl (fun hb40=>?_) (fun hb40=>?_)
       ·refine .gT rfl rfl ?_
        refine .z (zfa eN) ?_
        refine .gT rfl rfl ?_
        refine .y hs (zld af) ?_
        refine .gT rfl rfl ?_
        refine .z wh (.z zpT (.z zg (.nil ?_)))
        refine .ret (Fin.bH jR rfl ?_)
        first
        |exact ⟨false,rfl,⟨fun h=>(by cases h),fun h=>(by obtain ⟨g1,g2,g3,g4,g5,g6⟩:=h;simp_all;omega)⟩,hs.out⟩
        |exact ⟨false,rfl,⟨fun h=>(by cases h),fun h=>(by obtain ⟨g1,g2,g3,g4,g5,g6⟩:=h;simp_all;done)⟩,hs.out⟩
        |exact ⟨_,rfl,⟨fun h=>⟨by simp_all,by simp_all,⟨ak,ak⟩,ak,⟨ak,ak⟩,of_decide_eq_true h⟩,fun h=>decide_eq_true h.hi⟩,hs.out⟩
       ·refine .gFs 3 37 true rfl rfl rfl ?_
        refine .z zpF (.z zg (.nil ?_))
        refine .ret (Fin.bH jR rfl ?_)
        first
        |exact ⟨false,rfl,⟨fun h=>(by cases h),fun h=>(by obtain ⟨g1,g2,g3,g4,g5,g6⟩:=h;simp_all;omega)⟩,hs.out⟩
        |exact ⟨false,rfl,⟨fun h=>(by cases h),fun h=>(by obtain ⟨g1,g2,g3,g4,g5,g6⟩:=h;simp_all;done)⟩,hs.out⟩
        |exact ⟨_,rfl,⟨fun h=>⟨by simp_all,by simp_all,⟨ak,ak⟩,ak,⟨ak,ak⟩,of_decide_eq_true h⟩,fun h=>decide_eq_true h.hi⟩,hs.out⟩
      ·refine .gFs 5 30 true rfl rfl rfl ?_
       refine .z zpF (.z zm ?_)
       refine .gFs 3 37 true rfl rfl rfl ?_
       refine .z zpF (.z zg (.nil ?_))
       refine .ret (Fin.bH jR rfl ?_)
       first
       |exact ⟨false,rfl,⟨fun h=>(by cases h),fun h=>(by obtain ⟨g1,g2,g3,g4,g5,g6⟩:=h;simp_all;omega)⟩,hs.out⟩
       |exact ⟨false,rfl,⟨fun h=>(by cases h),fun h=>(by obtain ⟨g1,g2,g3,g4,g5,g6⟩:=h;simp_all;done)⟩,hs.out⟩
       |exact ⟨_,rfl,⟨fun h=>⟨by simp_all,by simp_all,⟨ak,ak⟩,ak,⟨ak,ak⟩,of_decide_eq_true h⟩,fun h=>decide_eq_true h.hi⟩,hs.out⟩
     ·refine .gFs 3 25 true rfl rfl rfl ?_
      refine .z zpF (.z zm ?_)
      refine .gFs 5 30 true rfl rfl rfl ?_
      refine .z zpF (.z zm ?_)
      refine .gFs 3 37 true rfl rfl rfl ?_
      refine .z zpF (.z zg (.nil ?_))
      refine .ret (Fin.bH jR rfl ?_)
      first
      |exact ⟨false,rfl,⟨fun h=>(by cases h),fun h=>(by obtain ⟨g1,g2,g3,g4,g5,g6⟩:=h;simp_all;omega)⟩,hs.out⟩
      |exact ⟨false,rfl,⟨fun h=>(by cases h),fun h=>(by obtain ⟨g1,g2,g3,g4,g5,g6⟩:=h;simp_all;done)⟩,hs.out⟩
      |exact ⟨_,rfl,⟨fun h=>⟨by simp_all,by simp_all,⟨ak,ak⟩,ak,⟨ak,ak⟩,of_decide_eq_true h⟩,fun h=>decide_eq_true h.hi⟩,hs.out⟩
    ·refine .gFs 3 20 true rfl rfl rfl ?_
     refine .z zpF (.z zm ?_)
     refine .gFs 3 25 true rfl rfl rfl ?_
     refine .z zpF (.z zm ?_)
     refine .gFs 5 30 true rfl rfl rfl ?_
     refine .z zpF (.z zm ?_)
     refine .gFs 3 37 true rfl rfl rfl ?_
     refine .z zpF (.z zg (.nil ?_))
     refine .ret (Fin.bH jR rfl ?_)
     first
     |exact ⟨false,rfl,⟨fun h=>(by cases h),fun h=>(by obtain ⟨g1,g2,g3,g4,g5,g6⟩:=h;simp_all;omega)⟩,hs.out⟩
     |exact ⟨false,rfl,⟨fun h=>(by cases h),fun h=>(by obtain ⟨g1,g2,g3,g4,g5,g6⟩:=h;simp_all;done)⟩,hs.out⟩
     |exact ⟨_,rfl,⟨fun h=>⟨by simp_all,by simp_all,⟨ak,ak⟩,ak,⟨ak,ak⟩,of_decide_eq_true h⟩,fun h=>decide_eq_true h.hi⟩,hs.out⟩
   ·refine .gFs 5 13 true rfl rfl rfl ?_
    refine .z zpF (.z zm ?_)
    refine .gFs 3 20 true rfl rfl rfl ?_
    refine .z zpF (.z zm ?_)
    refine .gFs 3 25 true rfl rfl rfl ?_
    refine .z zpF (.z zm ?_)
    refine .gFs 5 30 true rfl rfl rfl ?_
    refine .z zpF (.z zm ?_)
    refine .gFs 3 37 true rfl rfl rfl ?_
    refine .z zpF (.z zg (.nil ?_))
    refine .ret (Fin.bH jR rfl ?_)
    first
    |exact ⟨false,rfl,⟨fun h=>(by cases h),fun h=>(by obtain ⟨g1,g2,g3,g4,g5,g6⟩:=h;simp_all;omega)⟩,hs.out⟩
    |exact ⟨false,rfl,⟨fun h=>(by cases h),fun h=>(by obtain ⟨g1,g2,g3,g4,g5,g6⟩:=h;simp_all;done)⟩,hs.out⟩
    |exact ⟨_,rfl,⟨fun h=>⟨by simp_all,by simp_all,⟨ak,ak⟩,ak,⟨ak,ak⟩,of_decide_eq_true h⟩,fun h=>decide_eq_true h.hi⟩,hs.out⟩
  ·refine .gFs 3 8 true rfl rfl rfl ?_
   refine .z zpF (.z zm ?_)
   refine .gFs 5 13 true rfl rfl rfl ?_
   refine .z zpF (.z zm ?_)
   refine .gFs 3 20 true rfl rfl rfl ?_
   refine .z zpF (.z zm ?_)
   refine .gFs 3 25 true rfl rfl rfl ?_
   refine .z zpF (.z zm ?_)
   refine .gFs 5 30 true rfl rfl rfl ?_
   refine .z zpF (.z zm ?_)
   refine .gFs 3 37 true rfl rfl rfl ?_
   refine .z zpF (.z zg (.nil ?_))
   refine .ret (Fin.bH jR rfl ?_)
   first
   |exact ⟨false,rfl,⟨fun h=>(by cases h),fun h=>(by obtain ⟨g1,g2,g3,g4,g5,g6⟩:=h;simp_all;omega)⟩,hs.out⟩
   |exact ⟨false,rfl,⟨fun h=>(by cases h),fun h=>(by obtain ⟨g1,g2,g3,g4,g5,g6⟩:=h;simp_all;done)⟩,hs.out⟩
   |exact ⟨_,rfl,⟨fun h=>⟨by simp_all,by simp_all,⟨ak,ak⟩,ak,⟨ak,ak⟩,of_decide_eq_true h⟩,fun h=>decide_eq_true h.hi⟩,hs.out⟩
 ·refine .gFs 3 3 true rfl rfl rfl ?_
  refine .z zpF (.z zm ?_)
  refine .gFs 3 8 true rfl rfl rfl ?_
  refine .z zpF (.z zm ?_)
  refine .gFs 5 13 true rfl rfl rfl ?_
  refine .z zpF (.z zm ?_)
  refine .gFs 3 20 true rfl rfl rfl ?_
  refine .z zpF (.z zm ?_)
  refine .gFs 3 25 true rfl rfl rfl ?_
  refine .z zpF (.z zm ?_)
  refine .gFs 5 30 true rfl rfl rfl ?_
  refine .z zpF (.z zm ?_)
  refine .gFs 3 37 true rfl rfl rfl ?_
  refine .z zpF (.z zg (.nil ?_))
  refine .ret (Fin.bH jR rfl ?_)
  first
  |exact ⟨false,rfl,⟨fun h=>(by cases h),fun h=>(by obtain ⟨g1,g2,g3,g4,g5,g6⟩:=h;simp_all;omega)⟩,hs.out⟩
  |exact ⟨false,rfl,⟨fun h=>(by cases h),fun h=>(by obtain ⟨g1,g2,g3,g4,g5,g6⟩:=h;simp_all;done)⟩,hs.out⟩
  |exact ⟨_,rfl,⟨fun h=>⟨by simp_all,by simp_all,⟨ak,ak⟩,ak,⟨ak,ak⟩,of_decide_eq_true h⟩,fun h=>decide_eq_true h.hi⟩,hs.out⟩
theorem dJ{s:Spc}{vst vwa:Value}(hs:St H w σ)(h1:RI H vst s.st)(h2:RI H vwa s.wa)(hb:s.st.length≤1000∧s.wa.length≤1000):
  Cl Tryz.prog 97 [.agg #[I s.id,I s.src,vst,vwa,I s.al,I s.up]] w fun v w'=>v=I (s.many:Int)∧St H w' σ:=by
 obtain ⟨ast,cst,rfl⟩:=RI.shape h1
 obtain ⟨awa,cwa,rfl⟩:=RI.shape h2
 have hm:=kr (a:=(s.st.length:Int)) (b:=(s.wa.length:Int)) (A:=1000) (B:=1000) ak ak
 refine Cl.o Tryz.func97 Tryz.ntmps97 ag1 ?_
 refine .aj ?_
 refine .bx hs fun b1 w hs=>?_
 refine .z zg (.nil (.aj (.z (zfa bp) (.y hs (zld an) (.z (cB ae) (.z (zfa aW) (.y hs (zld an) (.z (cB ae) (.z jS ?_)))))))))
 refine .z zg (.nil ?_)
 refine .ret (Fin.bH Tryz.results97 rfl ?_)
 exact ⟨by unfold Spc.many;rw [Int.natCast_mul],hs.out⟩
theorem dj{s:Spc}{vst vwa:Value}{a b:Int}(hs:St H w σ)(h2:RI H vwa s.wa)(hb:s.wa.length≤1000)(ha: -1000≤a∧a≤1000)(hb': -1000≤b∧b≤1000):
  Cl Tryz.prog 121 [.agg #[I s.id,I s.src,vst,vwa,I s.al,I s.up],I a,I b] w fun v w'=>v=I (1+a*s.wa.length+b)∧St H w' σ:=by
 obtain ⟨awa,cwa,rfl⟩:=RI.shape h2
 have hm:=kr (a:=a) (b:=(s.wa.length:Int)) (A:=1000) (B:=1000) ak ak
 refine Cl.o Tryz.func121 Tryz.ntmps121 ag3 ?_
 refine .aj ?_
 refine .bx hs fun b3 w hs=>?_
 refine .z zg (.nil (.aj (.z zm (.z (zfa aW) (.y hs (zld an) (.z (cB ae) (.z jS (.z ck (.z zm ?_)))))))))
 refine .z ck (.z zg (.nil ?_))
 refine .ret (Fin.bH Tryz.results121 rfl ?_)
 exact ⟨rfl,hs.out⟩
theorem lJ{a b:Int}(hs:St H w σ)(ha:0≤a∧a≤100000)(hb:0≤b∧b≤100000):
  Cl Tryz.prog 193 [I a,I b] w fun v w'=>v=I (jK a b)∧St H w' σ:=by
 have hm:=kr (a:=a) (b:=b) (A:=100000) (B:=100000) ak ak
 have h0:=Int.mul_nonneg ha.1 hb.1
 have hq0:0≤(a*b+999).tdiv 1000:=Int.tdiv_nonneg ak ak
 have hq1:(a*b+999).tdiv 1000≤a*b+999:=by rw [Int.tdiv_eq_ediv_of_nonneg ak];omega
 refine Cl.o Tryz.func193 Tryz.ntmps193 ag2 ?_
 refine .aj (.z zg (.nil (.aj (.z zm (.z zm (.z jS (.z ck ?_)))))))
 refine .q hs (te rfl rfl ak ak) ?_
 refine .z zr (.z zg (.nil ?_))
 refine .ret (Fin.bH Tryz.results193 rfl ?_)
 exact ⟨rfl,hs⟩
theorem km{a b m s:Int}(hs:St H w σ):
  Cl Tryz.prog 119 [I a,I b,I m,I s] w fun v w'=>∃b0,v= .slice (some ⟨b0,0,none⟩) 2 2∧St H w' (.blk b0 (fV (two a b m m s))::σ):=by
 refine Cl.o Tryz.func119 Tryz.ntmps119 ag4 ?_
 refine .aj (.z zg (.nil (.aj (.z zm (.z zm (.z zm (.z zm (.z (zbd [_,_,_,_] eD) (.z zm ?_)))))))))
 refine .z zm (.z zm (.z zm (.z (zbd [_,_,_,_] eD) ?_)))
 refine .o (.buildSlice (cells:=fV (two a b m m s)) hs fy rfl au fun b19 w hs=>?_)
 refine .z zg (.nil ?_)
 refine .ret (Fin.bH Tryz.results119 rfl ?_)
 exact ⟨b19,rfl,hs⟩
theorem sU{c:Cmp}{t:TD}{f:Int}(hs:St H w σ)(hlo: -1000000≤c.lo∧c.lo≤1000000):
  Cl Tryz.prog 194 [.agg #[I c.src,I c.tape,I c.fr,I c.to,I c.lo,I c.hi],.agg #[I t.tape,I t.day],I f] w fun v w'=>∃en,cf 4 v (fV (k9 c t f)) en∧St H w' (en::σ):=by
 refine Cl.o Tryz.func194 Tryz.ntmps194 ag3 ?_
 refine .aj ?_
 refine .bx hs fun b3 w hs=>?_
 refine .bx hs fun b4 w hs=>?_
 refine .z zg (.nil (.seq (.aj (.z (zfa ia) (.y hs (zld af) (.z (zfa mx) (.y hs (zld af) (.z gx (.z zm ?_)))))))))
 refine .yf (t':=12) rfl (fun hb12=>?_) (fun hb12=>?_)
 ·refine .gFs 5 5 false rfl rfl rfl ?_
  refine .z zpT (.z zm ?_)
  refine .gFs 5 12 false rfl rfl rfl ?_
  refine .z zpT (.nil ?_)
  refine (.cT ?_)
  refine .aj (.z zg (.nil ?_))
  refine .ret (rT (Fin.bH Tryz.results194 rfl ?_))
  exact ⟨.nul,by unfold k9;rw [if_neg ak];exact .nil 4 none,hs.tail.tail.nul⟩
 ·refine .gT rfl rfl ?_
  refine .z (zfa jL) ?_
  refine .gT rfl rfl ?_
  refine .y hs (zld af) ?_
  refine .gT rfl rfl ?_
  refine .z (zfa fq) ?_
  refine .gT rfl rfl ?_
  refine .y hs (zld af) ?_
  refine .gT rfl rfl ?_
  refine .z fH (.z zpF (.z zm ?_))
  refine .iD (t':=19) rfl (fun hb19=>?_) (fun hb19=>?_)
  ·refine .gFs 5 12 false rfl rfl rfl ?_
   refine .z zpT (.nil ?_)
   refine (.cT ?_)
   refine .aj (.z zg (.nil ?_))
   refine .ret (rT (Fin.bH Tryz.results194 rfl ?_))
   exact ⟨.nul,by unfold k9;rw [if_neg ak];exact .nil 4 none,hs.tail.tail.nul⟩
  ·refine .gT rfl rfl ?_
   refine .z (zfa jL) ?_
   refine .gT rfl rfl ?_
   refine .y hs (zld af) ?_
   refine .gT rfl rfl ?_
   refine .z (zfa eP) ?_
   refine .gT rfl rfl ?_
   refine .y hs (zld af) ?_
   refine .gT rfl rfl ?_
   refine .z kD (.z zpF (.nil ?_))
   refine (.bB rfl (fun hc25=>?_) (fun hc25=>?_))
   ·refine .aj (.z zg (.nil ?_))
    refine .ret (rT (Fin.bH Tryz.results194 rfl ?_))
    exact ⟨.nul,by unfold k9;rw [if_neg ak];exact .nil 4 none,hs.tail.tail.nul⟩
   ·refine .skip ?_
    refine nT ?_
    refine .aj (.z zm (.z (zfa eO) (.y hs (zld af) (.z xr (.z (zfa fZ) (.y hs (zld af) (.z (zbd [_,_,_,_] eD) (.z zm (.z (zfa eN) ?_)))))))))
    refine .y hs (zld af) (.z (zfa fZ) (.y hs (zld af) (.z (zbd [_,_,_,_] eD) ?_)))
    refine .o (.buildSlice (cells:=fV (two 0 f (-c.lo) c.hi c.src)) hs fy rfl au fun b39 w hs=>?_)
    refine .z zg (.nil ?_)
    refine .ret (Fin.bH Tryz.results194 rfl ?_)
    exact ⟨_,by unfold k9;rw [if_pos ak];exact .full (by simp [two,dx]),hs.sb⟩
theorem jJ{v:Value}{xs:List TD}{t:TD}(hs:St H w σ)(hr:RTd H v xs)(hl:xs.length≤1000000):
  Cl Tryz.prog 93 [v,.agg #[I t.tape,I t.day]] w fun u w'=>u=I (ij xs t)∧St H w' σ:=by
 obtain ⟨a,c,rfl⟩:=RTd.shape hr
 refine Cl.o Tryz.func93 Tryz.ntmps93 ag2 ?_
 refine .aj ?_
 refine .bx hs fun b3 w hs=>?_
 refine .z zg (.nil (.seq (.aj (.z zg (.nil (.block ?_))))))
 refine .loop (fun k:Nat=>⟨19,[],[(5,I (k:Int)),(3,.pointer (some ⟨b3,0,none⟩)),(0,.slice a xs.length c)]⟩)
  (fun k w=>k≤xs.length∧(∀j<k,∀y,xs[j]? =some y→¬y=t)∧St H w (.blk b3 [I t.tape,I t.day]::σ)) (fun k=>xs.length - k) 0 (.bU rfl bL aR)
  ⟨Nat.zero_le _,fun j hj=>by omega,hs⟩ ?_
 rintro k w ⟨hk,hno,hs⟩
 refine .seq (.aj (.z zm (.z zm (.z (cB aU) (.z fH (.nil ?_))))))
 refine (.bB rfl (fun hc9=>?_) (fun hc9=>?_))
 ·refine .skip ?_
  refine nT ?_
  refine .seq (.block ?_)
  refine .seq (.draw mix rfl hs fun w hs=>?_)
  refine .z 0 rfl zm ?_;refine .z 1 rfl zm ?_
  obtain ⟨x,hx⟩:=nth (l:=xs) (k:=k) ak
  refine .ixX (enc:=TD.c) (i:=2) hs rfl au .none hr rfl rfl aU bw hx cD ?_;intro b14 o14 hc14
  refine .r (i:=3) hs rfl au .none (cI (vs:=x.c) rfl dC bw hc14) ?_
  refine .ys 4 rfl hs [_,_] dC bw ?_
  refine .z 5 rfl (rm pz pA fS (fun f hf=>by
   simp only [List.mem_cons,List.not_mem_nil,or_false] at hf
   rcases hf with rfl|rfl<;>exact ⟨by decide,bh,af⟩) rfl rfl) ?_
  refine .D hs ?_
  refine (.cond rfl (fun hc17=>?_) (fun hc17=>?_))
  ·refine .aj (.z zm (.z zg (.nil ?_)))
   refine .ret (rB (rT (rT (rB (rT (Fin.bH Tryz.results93 rfl ?_))))))
   have e:x=t:=As.1 (of_decide_eq_true hc17)
   subst e
   exact ⟨by rw [mW hx fun j hj h=>hno j hj _ h rfl],hs.tail⟩
  ·refine .skip ?_
   refine nB (nT ?_)
   refine .region (.z zm (.z ck (.z zg (.nil ?_))))
   refine nT ?_
   exact ⟨k+1,.bU rfl bL aR,⟨ak,e9 hno hx (fun e=>by subst e;simp at hc17),hs⟩,ak⟩
 ·refine .exit ?_
  refine xT (xT (xB (nT ?_)))
  refine .aj (.z zg (.nil ?_))
  refine .ret (Fin.bH Tryz.results93 rfl ?_)
  obtain rfl:k=xs.length:=by omega
  exact ⟨by rw [sf hno],hs.tail⟩
theorem m8{v:Value}{en:Ent}{xs:List TD}{t:TD}(hs:St H w (en::σ))(hO:cf 2 v (tdc xs).flatten en)(hl:xs.length≤1000000):
  Cl Tryz.prog 93 [v,.agg #[I t.tape,I t.day]] w fun u w'=>u=I (ij xs t)∧St H w' (en::σ):=by
 obtain ⟨a,c,rfl⟩:=hO.jV (kE xs) ak
 rw [dr] at hO ⊢
 refine Cl.o Tryz.func93 Tryz.ntmps93 ag2 ?_
 refine .aj ?_
 refine .bx hs fun b3 w hs=>?_
 refine .z zg (.nil (.seq (.aj (.z zg (.nil (.block ?_))))))
 refine .loop (fun k:Nat=>⟨19,[],[(5,I (k:Int)),(3,.pointer (some ⟨b3,0,none⟩)),(0,.slice a xs.length c)]⟩)
  (fun k w=>k≤xs.length∧(∀j<k,∀y,xs[j]? =some y→¬y=t)∧St H w (.blk b3 [I t.tape,I t.day]::en::σ)) (fun k=>xs.length - k) 0 (.bU rfl bL aR)
  ⟨Nat.zero_le _,fun j hj=>by omega,hs⟩ ?_
 rintro k w ⟨hk,hno,hs⟩
 refine .seq (.aj (.z zm (.z zm (.z (cB aU) (.z fH (.nil ?_))))))
 refine (.bB rfl (fun hc9=>?_) (fun hc9=>?_))
 ·refine .skip ?_
  refine nT ?_
  refine .seq (.block ?_)
  refine .seq (.draw mix rfl hs fun w hs=>?_)
  refine .z 0 rfl zm ?_;refine .z 1 rfl zm ?_
  obtain ⟨x,hx⟩:=nth (l:=xs) (k:=k) ak
  obtain ⟨b,c',sp,hv,rfl,_⟩:=hO.Ey (kE xs) ak (by rw [dr];omega)
  rw [dr] at hv
  cases hv
  refine .z 2 rfl (nQ aU bw) ?_
  refine .xV (i:=3) (vs:=x.c) hs rfl au .none rfl dC bw ?_ (hv:=uE (kE xs) (xz hx) sp)
  refine .ys 4 rfl hs [_,_] dC bw ?_
  refine .z 5 rfl (rm pz pA fS (fun f hf=>by
   simp only [List.mem_cons,List.not_mem_nil,or_false] at hf
   rcases hf with rfl|rfl<;>exact ⟨by decide,bh,af⟩) rfl rfl) ?_
  refine .D hs ?_
  refine (.cond rfl (fun hc17=>?_) (fun hc17=>?_))
  ·refine .aj (.z zm (.z zg (.nil ?_)))
   refine .ret (rB (rT (rT (rB (rT (Fin.bH Tryz.results93 rfl ?_))))))
   have e:x=t:=As.1 (of_decide_eq_true hc17)
   subst e
   exact ⟨by rw [mW hx fun j hj h=>hno j hj _ h rfl],hs.tail⟩
  ·refine .skip ?_
   refine nB (nT ?_)
   refine .region (.z zm (.z ck (.z zg (.nil ?_))))
   refine nT ?_
   exact ⟨k+1,.bU rfl bL aR,⟨ak,e9 hno hx (fun e=>by subst e;simp at hc17),hs⟩,ak⟩
 ·refine .exit ?_
  refine xT (xT (xB (nT ?_)))
  refine .aj (.z zg (.nil ?_))
  refine .ret (Fin.bH Tryz.results93 rfl ?_)
  obtain rfl:k=xs.length:=by omega
  exact ⟨by rw [sf hno],hs.tail⟩
set_option maxHeartbeats 1000000 in
theorem fY{vr:Value}{rs:List Rdg}(hs:St H w σ)(hr:RRd H vr rs)(hl:rs.length≤1000000):
  Cl Tryz.prog 94 [vr] w fun u w'=>∃H1,HLe H H1∧RTd H1 u (bg rs)∧St H1 w' σ:=by
 obtain ⟨ar,cr,rfl⟩:=RRd.shape hr
 refine Cl.o Tryz.func94 Tryz.ntmps94 ag1 ?_
 refine .aj (.z zg (.nil (.aj (.z zg (.nil (.seq (.aj (.z zg (.nil ?_)))))))))
 refine .block ?_
 refine .loop (fun p:Nat×Value=>⟨32,[],[(4,I (p.1:Int)),(3,p.2),(0,.slice ar rs.length cr)]⟩)
  (fun p w=>p.1≤rs.length∧∃en,cf 2 p.2 (tdc (bg (rs.take p.1))).flatten en∧St H w (en::σ)) (fun p=>rs.length - p.1) (0,.slice none 0 0) aR
  ⟨Nat.zero_le _,_,.nil 2 none,hs.nul⟩ ?_
 rintro ⟨k,vo⟩ w ⟨hk,en,hO,hs⟩
 dsimp only at hk hO ⊢
 have htl:=kl rs k ak
 obtain ⟨ao,co,rfl⟩:=hO.jV (kE _) ak
 rw [dr] at hO ⊢
 refine .seq (.aj (.z zm (.z zm (.z (cB aA) (.z fH (.nil ?_))))))
 refine (.bB rfl (fun hc9=>?_) (fun hc9=>?_))
 ·refine .skip ?_
  refine nT ?_
  refine .seq (.block ?_)
  refine .seq (.draw mix rfl hs fun w hs=>?_)
  refine .z 0 rfl zm ?_;refine .z 1 rfl zm ?_
  obtain ⟨r,hx⟩:=nth (l:=rs) (k:=k) ak
  have htk:=jm hx
  refine .ixX (enc:=Rdg.c) (i:=2) hs rfl au .none hr rfl rfl aA aF hx cD ?_;intro b14 o14 hc14
  have d14:cellAt H b14 (o14+5)=some (I r.tape):=hc14 5 _ rfl
  refine .z 3 rfl (zfa ef) ?_;refine .y 4 rfl hs af ?_;refine .z 5 rfl zm ?_;refine .z 6 rfl zm ?_
  refine .ixX (enc:=Rdg.c) (i:=7) hs rfl au .none hr rfl rfl aA aF hx cD ?_;intro b19 o19 hc19
  have d19:cellAt H b19 (o19+6)=some (I r.day):=hc19 6 _ rfl
  refine .z 8 rfl (zfa ee) ?_;refine .y 9 rfl hs af ?_;refine .z 10 rfl (zbd [_,_] fO) ?_
  refine .E 11 hs ?_
  refine .alloc hs lk rfl ?_;intro b5 w hs
  refine .go ?_
  refine .E 12 hs ?_
  refine .aZ (vs:=[_,_]) hs rfl rfl bw ?_;intro w hs
  refine .go ?_
  refine .D hs ?_
  refine .aj (.z zm (.y hs (zls [_,_] dC bw) ?_))
  refine .o (.call Tryz.call93 rfl (m8 (t:=r.td) (hs.sb:St H w (en:: .blk b5 [I r.tape,I r.day]::σ)) hO ak) ?_);rintro _ w ⟨rfl,hs⟩
  have hnn:=kN (l:=bg (rs.take k)) (t:=r.td)
  refine .z fH (.nil ?_)
  refine (.bB rfl (fun hc26=>?_) (fun hc26=>?_))
  ·refine .region (.z zm (.y hs (zls [_,_] dC bw) ?_))
   refine .o (.buildSlice (cells:=[_,_]) hs fI rfl rfl fun b29 w hs=>?_)
   refine .o (.append (ys:=r.td.c) hs dK rfl rfl hO (.own .here rfl rfl) (by simp [TD.c,Value.oneCell']) (fun l h=>by rw [bT _ (kE _),dr] at h;omega) ?_);intro v30 en30 w hO2 hs
   refine .z zg (.nil ?_)
   refine nB (nT ?_)
   refine .region (.z zm (.z ck (.z zg (.nil ?_))))
   refine nT ?_
   have hn:r.td∉bg (rs.take k):=fun hm=>by have:=hnn.2 hm;omega
   rw [←se,show bg (rs.take k)++[r.td]=bg (rs.take (k+1)) by rw [htk];unfold qp;rw [if_neg hn]] at hO2
   exact ⟨(k+1,v30),.bU rfl bL aR,⟨by dsimp only;omega,_,hO2,hs.sb⟩,by dsimp only;omega⟩
  ·refine .skip ?_
   refine nB (nT ?_)
   refine .region (.z zm (.z ck (.z zg (.nil ?_))))
   refine nT ?_
   have hm:r.td∈bg (rs.take k):=hnn.1 ak
   exact ⟨(k+1,_),.bU rfl bL aR,⟨by dsimp only;omega,en,by dsimp only;rw [htk];unfold qp;rw [if_pos hm];exact hO,hs.sb⟩,by dsimp only;omega⟩
 ·refine .exit ?_
  refine xT (xT (xB (nT ?_)))
  refine .aj (.z zm (.z zg (.nil ?_)))
  refine .ret (Fin.bH Tryz.results94 rfl ?_)
  obtain rfl:k=rs.length:=by omega
  rw [List.take_length] at hO
  have htl:=dp rs
  obtain ⟨H2,hle2,hR,hs⟩:=cf.cq (m:=2) (cs:=tdc (bg rs)) hO (kE _) ak (by rw [dr];omega) hs .here
  rw [List.take_length]
  exact ⟨H2,hle2,hR,hs⟩
theorem u4(s:Spc)(i k:Nat):1+(i:Int)*(s.wa.length:Int)+(k:Int)=(s.u i k:Int):=by
 unfold Spc.u;rw [Int.natCast_add,Int.natCast_add,Int.natCast_mul];rfl
theorem EE(s:Spc)(i k:Nat):1+((i:Int)+1)*(s.wa.length:Int)+(k:Int)=(s.u (i+1) k:Int):=by
 rw [←u4];rfl
theorem ED(s:Spc)(i k:Nat):1+(i:Int)*(s.wa.length:Int)+((k:Int)+1)=(s.u i (k+1):Int):=by
 rw [←u4];rfl
theorem kV{f:Nat→Nat→List Lim}(hf:∀i k,(f i k).length≤2)(i:Nat):∀k,(lS f i k).length≤2*k
 |0=>by simp [lS]
 |k+1=>by have:=kV hf i k;have:=hf i k;simp only [lS,List.length_append];omega
theorem lR{f:Nat→Nat→List Lim}(hf:∀i k,(f i k).length≤2){m n:Nat}(hm:m≤7)(hn:n≤9)(h0:0<m):(eC f m n).length≤126:=by
 have h1:=gD hf (n:=n) h0
 have:n*m≤9*7:=Nat.mul_le_mul hn hm
 omega
theorem En{s:Spc}(h0:0<s.st.length):eC (alL s) s.wa.length s.st.length=eC (alL s) s.wa.length (s.st.length - 1):=by
 obtain ⟨n,hn⟩:∃n,s.st.length=n+1:=⟨s.st.length - 1,ak⟩
 have key:∀k,lS (alL s) n k=[]:=by
  intro k
  induction k with
  |zero=>rfl
  |succ k ih=>simp only [lS];rw [ih];unfold alL;rw [if_neg ak];rfl
 rw [hn,Nat.add_sub_cancel]
 simp only [eC]
 rw [key,List.append_nil]
theorem DH{s:Spc}(i:Nat)(h0:0<s.wa.length):lS (upL s) i s.wa.length=lS (upL s) i (s.wa.length - 1):=by
 obtain ⟨n,hn⟩:∃n,s.wa.length=n+1:=⟨s.wa.length - 1,ak⟩
 have e:upL s i n=[]:=by unfold upL;rw [if_neg ak]
 rw [hn,Nat.add_sub_cancel]
 simp only [lS]
 rw [e,List.append_nil]
set_option maxHeartbeats 4000000 in
theorem jI{s:Srv}{vst vwa vr vc:Value}(hs:St H w σ)(h1:RI H vst s.sp.st)(h2:RI H vwa s.sp.wa)(h3:RRd H vr s.rs)(h4:RCm H vc s.cs)(he:s.early):
  Cl Tryz.prog 111 [.agg #[I s.sp.id,I s.sp.src,vst,vwa,I s.sp.al,I s.sp.up,vr,vc]] w fun u w'=>∃H1 en,HLe H H1∧cf 4 u (fV s.bP) en∧St H1 w' (en::σ):=by
 obtain ⟨ast,cst,rfl⟩:=RI.shape h1
 obtain ⟨awa,cwa,rfl⟩:=RI.shape h2
 obtain ⟨ar,cr,rfl⟩:=RRd.shape h3
 obtain ⟨ac,cc,rfl⟩:=RCm.shape h4
 obtain ⟨hok,hrl,hcl,hrs,hcs⟩:=he
 have hsm:=dW hok
 have hn1:=hok.st.many
 have hn2:=hok.wa.many
 have hn3:=hok.st.two
 have hn4:=hok.wa.two
 have ha:=lR (nO s.sp) (m:=s.sp.wa.length) (n:=s.sp.st.length) ak ak ak
 have hb:=lR (q8 s.sp) (m:=s.sp.wa.length) (n:=s.sp.st.length) ak ak ak
 have hc:=lR (qB s.sp) (m:=s.sp.wa.length) (n:=s.sp.st.length) ak ak ak
 have hal:=hok.al
 have hup:=hok.up
 refine Cl.o Tryz.func111 Tryz.ntmps111 ag1 ?_
 refine .aj ?_
 refine .bx hs fun b1 w hs=>?_
 refine .z zg (.nil (.aj (.z (zfa aO) (.y hs (zls [_,_,_,_,_,_] aH aC) ?_))))
 refine .o (.alloc hs gK rfl fun b3 w hs=>?_)
 refine .o (.aZ (vs:=[_,_,_,_,_,_]) hs rfl rfl aC fun w hs=>?_)
 refine .nil (.aj (.z zg (.nil (.seq (.aj (.z zg (.nil (.block ?_))))))))
 refine .loop (fun p:Nat×Value=>⟨243,[],[(5,I (p.1:Int)),(4,p.2),(3,.pointer (some ⟨b3,0,none⟩)),(1,.pointer (some ⟨b1,0,none⟩))]⟩)
  (fun p w=>p.1≤s.sp.st.length∧∃en,cf 4 p.2 (fV (eC (qs s.sp) s.sp.wa.length p.1)) en∧St H w (en:: .blk b3 [I s.sp.id,I s.sp.src,.slice ast s.sp.st.length cst,.slice awa s.sp.wa.length cwa,I s.sp.al,I s.sp.up]:: .blk b1 [I s.sp.id,I s.sp.src,.slice ast s.sp.st.length cst,.slice awa s.sp.wa.length cwa,I s.sp.al,I s.sp.up,.slice ar s.rs.length cr,.slice ac s.cs.length cc]::σ)) (fun p=>s.sp.st.length - p.1) (0,.slice none 0 0) aR
  ⟨by first|omega|exact Nat.zero_le _,_,.nil 4 none,hs.nul⟩ ?_
 rintro ⟨i,vo⟩ w ⟨hi,en,hO,hs⟩
 dsimp only at hi hO ⊢
 refine .seq (.aj (.z zm (.z (zfa bp) (.y hs (zld an) (.z (cB ae) (.z fH (.nil ?_)))))))
 refine (.bB rfl (fun hc27=>?_) (fun hc27=>?_))
 ·refine .skip ?_
  refine nT ?_
  refine .seq (.block (.aj (.z zg (.nil (.block ?_)))))
  refine .loop (fun p:Nat×Value=>⟨243,[],[(6,I (p.1:Int)),(4,p.2),(5,I (i:Int)),(3,.pointer (some ⟨b3,0,none⟩)),(1,.pointer (some ⟨b1,0,none⟩))]⟩)
   (fun p w=>p.1≤s.sp.wa.length∧∃en,cf 4 p.2 (fV (eC (qs s.sp) s.sp.wa.length i++lS (qs s.sp) i p.1)) en∧St H w (en:: .blk b3 [I s.sp.id,I s.sp.src,.slice ast s.sp.st.length cst,.slice awa s.sp.wa.length cwa,I s.sp.al,I s.sp.up]:: .blk b1 [I s.sp.id,I s.sp.src,.slice ast s.sp.st.length cst,.slice awa s.sp.wa.length cwa,I s.sp.al,I s.sp.up,.slice ar s.rs.length cr,.slice ac s.cs.length cc]::σ)) (fun p=>s.sp.wa.length - p.1) (0,vo) aR
   ⟨by first|omega|exact Nat.zero_le _,en,by show cf 4 vo (fV (_++[])) en;rw [List.append_nil];exact hO,hs⟩ ?_
  clear hO hs
  rintro ⟨k,vo⟩ w ⟨hk,en,hO,hs⟩
  dsimp only at hk hO ⊢
  have hl1:=lR (nO s.sp) (m:=s.sp.wa.length) (n:=i) ak ak ak
  have hl2:=kV (nO s.sp) i k
  refine .seq (.aj (.z zm (.z (zfa aW) (.y hs (zld an) (.z (cB ae) (.z fH (.nil ?_)))))))
  refine (.bB rfl (fun hc34=>?_) (fun hc34=>?_))
  ·refine .skip ?_
   refine nT ?_
   refine .seq (.block (.aj (.y hs (zls [_,_,_,_,_,_] aH aC) (.z zm (.z zm ?_)))))
   refine .o (.call iy rfl (dj (s:=s.sp) hs h2 ak ⟨ak,ak⟩ ⟨ak,ak⟩) ?_);rintro _ w ⟨rfl,hs⟩
   rw [u4]
   refine .z zg (.nil (.region (.z zm (.z zm (.z (zfa dv) (.y hs (zld af) (.z (zbd [_,_,_,_] eD) (.z zm (.z (zfa dv) ?_)))))))))
   refine .y hs (zld af) (.z (zbd [_,_,_,_] eD) ?_)
   refine .o (.buildSlice (cells:=fV (qs s.sp i k)) hs fy rfl au fun b50 w hs=>?_)
   refine .o (.append (ys:=fV (qs s.sp i k)) hs bM rfl rfl hO (.own .here rfl rfl) (jF _) (fun l h=>by rw [dx,List.length_append] at h;omega) ?_);intro v51 en51 w hO2 hs
   rw [←fG,List.append_assoc] at hO2
   refine .z zg (.nil ?_)
   refine nB (nT ?_)
   refine .region (.z zm (.z ck (.z zg (.nil ?_))))
   refine nT ?_
   exact ⟨(k+1,v51),.bU rfl bL aR,⟨by dsimp only;omega,_,hO2,hs.sb⟩,by dsimp only;omega⟩
  ·refine .exit ?_
   refine xT (xT (xB (nB (nT ?_))))
   refine .region (.z zm (.z ck (.z zg (.nil ?_))))
   refine nT ?_
   obtain rfl:k=s.sp.wa.length:=by omega
   exact ⟨(i+1,_),.bU rfl bL aR,⟨by dsimp only;omega,en,hO,hs⟩,by dsimp only;omega⟩
 ·refine .exit ?_
  refine xT (xT (xB (nT ?_)))
  refine .seq (.aj (.z zg (.nil (.block ?_))))
  refine .loop (fun p:Nat×Value=>⟨243,[],[(8,I (p.1:Int)),(4,p.2),(3,.pointer (some ⟨b3,0,none⟩)),(1,.pointer (some ⟨b1,0,none⟩))]⟩)
   (fun p w=>p.1+1≤s.sp.st.length∧∃en,cf 4 p.2 (fV (eC (qs s.sp) s.sp.wa.length s.sp.st.length++eC (alL s.sp) s.sp.wa.length p.1)) en∧St H w (en:: .blk b3 [I s.sp.id,I s.sp.src,.slice ast s.sp.st.length cst,.slice awa s.sp.wa.length cwa,I s.sp.al,I s.sp.up]:: .blk b1 [I s.sp.id,I s.sp.src,.slice ast s.sp.st.length cst,.slice awa s.sp.wa.length cwa,I s.sp.al,I s.sp.up,.slice ar s.rs.length cr,.slice ac s.cs.length cc]::σ)) (fun p=>s.sp.st.length - p.1) (0,vo) aR
   ⟨by first|omega|exact Nat.zero_le _,en,by show cf 4 vo (fV (_++[])) en;rw [List.append_nil,←show i=s.sp.st.length by omega];exact hO,hs⟩ ?_
  clear hO hs
  rintro ⟨i,vo⟩ w ⟨hi,en,hO,hs⟩
  dsimp only at hi hO ⊢
  refine .seq (.aj (.z zm (.z ck (.z (zfa bp) (.y hs (zld an) (.z (cB ae) (.z fH (.nil ?_))))))))
  refine (.bB rfl (fun hc57=>?_) (fun hc57=>?_))
  ·refine .skip ?_
   refine nT ?_
   refine .seq (.block (.aj (.z zg (.nil (.block ?_)))))
   refine .loop (fun p:Nat×Value=>⟨243,[],[(9,I (p.1:Int)),(4,p.2),(8,I (i:Int)),(3,.pointer (some ⟨b3,0,none⟩)),(1,.pointer (some ⟨b1,0,none⟩))]⟩)
    (fun p w=>p.1≤s.sp.wa.length∧∃en,cf 4 p.2 (fV (eC (qs s.sp) s.sp.wa.length s.sp.st.length++eC (alL s.sp) s.sp.wa.length i++lS (alL s.sp) i p.1)) en∧St H w (en:: .blk b3 [I s.sp.id,I s.sp.src,.slice ast s.sp.st.length cst,.slice awa s.sp.wa.length cwa,I s.sp.al,I s.sp.up]:: .blk b1 [I s.sp.id,I s.sp.src,.slice ast s.sp.st.length cst,.slice awa s.sp.wa.length cwa,I s.sp.al,I s.sp.up,.slice ar s.rs.length cr,.slice ac s.cs.length cc]::σ)) (fun p=>s.sp.wa.length - p.1) (0,vo) aR
    ⟨by first|omega|exact Nat.zero_le _,en,by show cf 4 vo (fV (_++[])) en;rw [List.append_nil];exact hO,hs⟩ ?_
   clear hO hs
   rintro ⟨k,vo⟩ w ⟨hk,en,hO,hs⟩
   dsimp only at hk hO ⊢
   have hl1:=lR (q8 s.sp) (m:=s.sp.wa.length) (n:=i) ak ak ak
   have hl2:=kV (q8 s.sp) i k
   refine .seq (.aj (.z zm (.z (zfa aW) (.y hs (zld an) (.z (cB ae) (.z fH (.nil ?_)))))))
   refine (.bB rfl (fun hc64=>?_) (fun hc64=>?_))
   ·refine .skip ?_
    refine nT ?_
    refine .seq (.block ?_)
    refine .draw mix rfl hs fun w hs=>?_
    refine .z 0 rfl zm ?_;refine .ys 1 rfl hs [_,_,_,_,_,_] aH aC ?_;refine .z 2 rfl zm ?_;refine .z 3 rfl zm ?_;refine .ys 5 rfl hs [_,_,_,_,_,_] aH aC ?_;refine .z 6 rfl zm ?_;refine .z 7 rfl ck ?_;refine .z 8 rfl zm ?_;refine .z 10 rfl (zfa dO) ?_;refine .z 11 rfl (zfa iQ) ?_
    refine .y 12 rfl hs af ?_;refine .z 13 rfl (zfa bp) ?_;refine .y 14 rfl hs an ?_;refine .z 15 rfl zm ?_;refine .z 16 rfl ck ?_
    have hris:=hok.st.rise i ak
    have hq0:=hok.st.bd (i:=i) ak
    have hq1:=hok.st.bd (i:=i+1) ak
    refine .ixX (enc:=fun x=>[I x]) (i:=17) hs rfl au .none h1 rfl rfl ae ai (bn (l:=s.sp.st) (i:=(i+1)) ak) cD ?_;intro b84 o84 hc84;replace hc84:=bu.one hc84
    refine .r (i:=18) hs rfl au .none (aJ rfl af hc84) ?_
    refine .z 19 rfl (zfa bp) ?_;refine .y 20 rfl hs an ?_;refine .z 21 rfl zm ?_
    refine .ixX (enc:=fun x=>[I x]) (i:=22) hs rfl au .none h1 rfl rfl ae ai (bn (l:=s.sp.st) (i:=i) ak) cD ?_;intro b89 o89 hc89;replace hc89:=bu.one hc89
    refine .r (i:=23) hs rfl au .none (aJ rfl af hc89) ?_
    refine .z 24 rfl gL ?_;refine .z 26 rfl (zfa dv) ?_;refine .y 27 rfl hs af ?_
    refine .E 4 hs ?_
    refine .call iy rfl (dj (s:=s.sp) hs h2 ak ⟨ak,ak⟩ ⟨ak,ak⟩) ?_;rintro _ w ⟨rfl,hs⟩
    rw [u4]
    refine .go ?_
    refine .E 9 hs ?_
    refine .call iy rfl (dj (s:=s.sp) hs h2 ak ⟨ak,ak⟩ ⟨ak,ak⟩) ?_;rintro _ w ⟨rfl,hs⟩
    rw [EE]
    refine .go ?_
    refine .E 25 hs ?_
    refine .call Tryz.call193 rfl (lJ hs ak ak) ?_;rintro _ w ⟨rfl,hs⟩
    refine .go ?_
    refine .E 28 hs ?_
    refine .call Tryz.call119 rfl (km hs) ?_;rintro _ w ⟨b95,rfl,hs⟩
    rw [show two (s.sp.u i k:Int) _ _ _ _=alL s.sp i k by unfold alL;rw [if_pos ak]] at hs
    refine .go ?_
    refine .E 29 hs ?_
    refine .append (ys:=fV (alL s.sp i k)) hs bM rfl rfl hO (.own .here bL (by rw [dx];unfold alL;rw [if_pos ak];rfl)) (jF _) (fun l h=>by rw [dx] at h;simp only [List.length_append] at h;omega) ?_;intro v96 en96 w hO2 hs
    rw [←fG,List.append_assoc _ (lS _ _ _)] at hO2
    refine .go ?_
    refine .z 30 rfl zg ?_;refine .D hs ?_
    refine nB (nT ?_)
    refine .region (.z zm (.z ck (.z zg (.nil ?_))))
    refine nT ?_
    exact ⟨(k+1,v96),.bU rfl bL aR,⟨by dsimp only;omega,_,hO2,hs.sb⟩,by dsimp only;omega⟩
   ·refine .exit ?_
    refine xT (xT (xB (nB (nT ?_))))
    refine .region (.z zm (.z ck (.z zg (.nil ?_))))
    refine nT ?_
    obtain rfl:k=s.sp.wa.length:=by omega
    rw [List.append_assoc] at hO
    exact ⟨(i+1,_),.bU rfl bL aR,⟨by dsimp only;omega,en,hO,hs⟩,by dsimp only;omega⟩
  ·refine .exit ?_
   refine xT (xT (xB (nT ?_)))
   refine .seq (.aj (.z zg (.nil (.block ?_))))
   refine .loop (fun p:Nat×Value=>⟨243,[],[(10,I (p.1:Int)),(4,p.2),(3,.pointer (some ⟨b3,0,none⟩)),(1,.pointer (some ⟨b1,0,none⟩))]⟩)
    (fun p w=>p.1≤s.sp.st.length∧∃en,cf 4 p.2 (fV (eC (qs s.sp) s.sp.wa.length s.sp.st.length++eC (alL s.sp) s.sp.wa.length s.sp.st.length++eC (upL s.sp) s.sp.wa.length p.1)) en∧St H w (en:: .blk b3 [I s.sp.id,I s.sp.src,.slice ast s.sp.st.length cst,.slice awa s.sp.wa.length cwa,I s.sp.al,I s.sp.up]:: .blk b1 [I s.sp.id,I s.sp.src,.slice ast s.sp.st.length cst,.slice awa s.sp.wa.length cwa,I s.sp.al,I s.sp.up,.slice ar s.rs.length cr,.slice ac s.cs.length cc]::σ)) (fun p=>s.sp.st.length - p.1) (0,vo) aR
    ⟨by first|omega|exact Nat.zero_le _,en,by show cf 4 vo (fV (_++[])) en;rw [List.append_nil,En ak,←show i=s.sp.st.length - 1 by omega];exact hO,hs⟩ ?_
   clear hO hs
   rintro ⟨i,vo⟩ w ⟨hi,en,hO,hs⟩
   dsimp only at hi hO ⊢
   refine .seq (.aj (.z zm (.z (zfa bp) (.y hs (zld an) (.z (cB ae) (.z fH (.nil ?_)))))))
   refine (.bB rfl (fun hc101=>?_) (fun hc101=>?_))
   ·refine .skip ?_
    refine nT ?_
    refine .seq (.block (.aj (.z zg (.nil (.block ?_)))))
    refine .loop (fun p:Nat×Value=>⟨243,[],[(11,I (p.1:Int)),(4,p.2),(10,I (i:Int)),(3,.pointer (some ⟨b3,0,none⟩)),(1,.pointer (some ⟨b1,0,none⟩))]⟩)
     (fun p w=>p.1+1≤s.sp.wa.length∧∃en,cf 4 p.2 (fV (eC (qs s.sp) s.sp.wa.length s.sp.st.length++eC (alL s.sp) s.sp.wa.length s.sp.st.length++eC (upL s.sp) s.sp.wa.length i++lS (upL s.sp) i p.1)) en∧St H w (en:: .blk b3 [I s.sp.id,I s.sp.src,.slice ast s.sp.st.length cst,.slice awa s.sp.wa.length cwa,I s.sp.al,I s.sp.up]:: .blk b1 [I s.sp.id,I s.sp.src,.slice ast s.sp.st.length cst,.slice awa s.sp.wa.length cwa,I s.sp.al,I s.sp.up,.slice ar s.rs.length cr,.slice ac s.cs.length cc]::σ)) (fun p=>s.sp.wa.length - p.1) (0,vo) aR
     ⟨by first|omega|exact Nat.zero_le _,en,by show cf 4 vo (fV (_++[])) en;rw [List.append_nil];exact hO,hs⟩ ?_
    clear hO hs
    rintro ⟨k,vo⟩ w ⟨hk,en,hO,hs⟩
    dsimp only at hk hO ⊢
    have hl1:=lR (qB s.sp) (m:=s.sp.wa.length) (n:=i) ak ak ak
    have hl2:=kV (qB s.sp) i k
    refine .seq (.aj (.z zm (.z ck (.z (zfa aW) (.y hs (zld an) (.z (cB ae) (.z fH (.nil ?_))))))))
    refine (.bB rfl (fun hc109=>?_) (fun hc109=>?_))
    ·refine .skip ?_
     refine nT ?_
     refine .seq (.block ?_)
     refine .draw mix rfl hs fun w hs=>?_
     refine .z 0 rfl zm ?_;refine .ys 1 rfl hs [_,_,_,_,_,_] aH aC ?_;refine .z 2 rfl zm ?_;refine .z 3 rfl zm ?_;refine .ys 5 rfl hs [_,_,_,_,_,_] aH aC ?_;refine .z 6 rfl zm ?_;refine .z 7 rfl zm ?_;refine .z 8 rfl ck ?_;refine .z 10 rfl (zfa dO) ?_;refine .z 11 rfl (zfa iP) ?_
     refine .y 12 rfl hs af ?_;refine .z 13 rfl (zfa aW) ?_;refine .y 14 rfl hs an ?_;refine .z 15 rfl zm ?_;refine .z 16 rfl ck ?_
     have hris:=hok.wa.rise k ak
     have hq0:=hok.wa.bd (i:=k) ak
     have hq1:=hok.wa.bd (i:=k+1) ak
     refine .ixX (enc:=fun x=>[I x]) (i:=17) hs rfl au .none h2 rfl rfl ae ai (bn (l:=s.sp.wa) (i:=(k+1)) ak) cD ?_;intro b129 o129 hc129;replace hc129:=bu.one hc129
     refine .r (i:=18) hs rfl au .none (aJ rfl af hc129) ?_
     refine .z 19 rfl (zfa aW) ?_;refine .y 20 rfl hs an ?_;refine .z 21 rfl zm ?_
     refine .ixX (enc:=fun x=>[I x]) (i:=22) hs rfl au .none h2 rfl rfl ae ai (bn (l:=s.sp.wa) (i:=k) ak) cD ?_;intro b134 o134 hc134;replace hc134:=bu.one hc134
     refine .r (i:=23) hs rfl au .none (aJ rfl af hc134) ?_
     refine .z 24 rfl gL ?_;refine .z 26 rfl (zfa dv) ?_;refine .y 27 rfl hs af ?_
     refine .E 4 hs ?_
     refine .call iy rfl (dj (s:=s.sp) hs h2 ak ⟨ak,ak⟩ ⟨ak,ak⟩) ?_;rintro _ w ⟨rfl,hs⟩
     rw [u4]
     refine .go ?_
     refine .E 9 hs ?_
     refine .call iy rfl (dj (s:=s.sp) hs h2 ak ⟨ak,ak⟩ ⟨ak,ak⟩) ?_;rintro _ w ⟨rfl,hs⟩
     rw [ED]
     refine .go ?_
     refine .E 25 hs ?_
     refine .call Tryz.call193 rfl (lJ hs ak ak) ?_;rintro _ w ⟨rfl,hs⟩
     refine .go ?_
     refine .E 28 hs ?_
     refine .call Tryz.call119 rfl (km hs) ?_;rintro _ w ⟨b140,rfl,hs⟩
     rw [show two (s.sp.u i k:Int) _ _ _ _=upL s.sp i k by unfold upL;rw [if_pos ak]] at hs
     refine .go ?_
     refine .E 29 hs ?_
     refine .append (ys:=fV (upL s.sp i k)) hs bM rfl rfl hO (.own .here bL (by rw [dx];unfold upL;rw [if_pos ak];rfl)) (jF _) (fun l h=>by rw [dx] at h;simp only [List.length_append] at h;omega) ?_;intro v141 en141 w hO2 hs
     rw [←fG,List.append_assoc _ (lS _ _ _)] at hO2
     refine .go ?_
     refine .z 30 rfl zg ?_;refine .D hs ?_
     refine nB (nT ?_)
     refine .region (.z zm (.z ck (.z zg (.nil ?_))))
     refine nT ?_
     exact ⟨(k+1,v141),.bU rfl bL aR,⟨by dsimp only;omega,_,hO2,hs.sb⟩,by dsimp only;omega⟩
    ·refine .exit ?_
     refine xT (xT (xB (nB (nT ?_))))
     refine .region (.z zm (.z ck (.z zg (.nil ?_))))
     refine nT ?_
     obtain rfl:k=s.sp.wa.length - 1:=by omega
     rw [List.append_assoc,←DH i ak] at hO
     exact ⟨(i+1,_),.bU rfl bL aR,⟨by dsimp only;omega,en,hO,hs⟩,by dsimp only;omega⟩
   ·refine .exit ?_
    refine xT (xT (xB (nT ?_)))
    refine .aj (.z (zfa aM) (.y hs (zld bj) ?_))
    obtain rfl:i=s.sp.st.length:=by omega
    refine .o (.call wv rfl (fY hs h3 ak) ?_);rintro v144 w ⟨H1,hle1,hT,hs⟩
    replace hT:RTd H1 v144 s.bq:=hT
    have htl:s.bq.length≤60:=by have:=dp s.rs;unfold Srv.bq;omega
    have hmem:∀r∈s.rs,r.td∈s.bq:=fun r hr=>fW.2 ⟨r,hr,rfl⟩
    have hlims:s.bP=eC (qs s.sp) s.sp.wa.length s.sp.st.length++eC (alL s.sp) s.sp.wa.length s.sp.st.length++eC (upL s.sp) s.sp.wa.length s.sp.st.length++vR s.sp s.bq.length++qZ s.sp s.bq s.cs 0 s.cs.length++tS s.sp s.bq s.rs s.rs.length:=rfl
    generalize s.bq=ts at*
    obtain ⟨at_,ct,rfl⟩:=RTd.shape hT
    refine .z zg (.nil (.aj (.y hs (zls [_,_,_,_,_,_] aH aC) ?_)))
    refine .o (.call rh rfl (dJ (s:=s.sp) hs (h1.mono hle1) (h2.mono hle1) ⟨ak,ak⟩) ?_);rintro _ w ⟨rfl,hs⟩
    refine .z zg (.nil (.seq (.aj (.z zg (.nil (.block ?_))))))
    refine .loop (fun p:Nat×Value=>⟨243,[],[(14,I (p.1:Int)),(4,p.2),(12,.slice at_ ts.length ct),(13,I (s.sp.many:Int)),(3,.pointer (some ⟨b3,0,none⟩)),(1,.pointer (some ⟨b1,0,none⟩))]⟩)
     (fun p w=>p.1≤ts.length∧∃en,cf 4 p.2 (fV (eC (qs s.sp) s.sp.wa.length s.sp.st.length++eC (alL s.sp) s.sp.wa.length s.sp.st.length++eC (upL s.sp) s.sp.wa.length s.sp.st.length++vR s.sp p.1)) en∧St H1 w (en:: .blk b3 [I s.sp.id,I s.sp.src,.slice ast s.sp.st.length cst,.slice awa s.sp.wa.length cwa,I s.sp.al,I s.sp.up]:: .blk b1 [I s.sp.id,I s.sp.src,.slice ast s.sp.st.length cst,.slice awa s.sp.wa.length cwa,I s.sp.al,I s.sp.up,.slice ar s.rs.length cr,.slice ac s.cs.length cc]::σ)) (fun p=>ts.length - p.1) (0,vo) aR
     ⟨by first|omega|exact Nat.zero_le _,en,by show cf 4 vo (fV (_++[])) en;rw [List.append_nil];exact hO,hs⟩ ?_
    clear hO hs
    rintro ⟨j,vo⟩ w ⟨hj,en,hO,hs⟩
    dsimp only at hj hO ⊢
    have hel:=jg s.sp j
    refine .seq (.aj (.z zm (.z zm (.z (cB aU) (.z fH (.nil ?_))))))
    refine (.bB rfl (fun hc150=>?_) (fun hc150=>?_))
    ·refine .skip ?_
     refine nT ?_
     refine .seq (.block (.region (.z zm (.z zm (.z ck (.z zm (.z ck (.z (zfa dv) (.y hs (zld af) ?_)))))))))
     refine .o (.call Tryz.call119 rfl (km hs) ?_);rintro _ w ⟨b160,rfl,hs⟩
     refine .o (.append (ys:=fV (two 0 ((s.sp.many:Int)+1+(j:Int)) 1000 1000 s.sp.src)) hs bM rfl rfl hO (.own .here rfl rfl) (jF _) (fun l h=>by rw [dx] at h;simp only [List.length_append] at h;omega) ?_);intro v161 en161 w hO2 hs
     rw [←fG,List.append_assoc _ (vR _ _),show (s.sp.many:Int)+1+(j:Int)=((s.sp.many+1+j:Nat):Int) by omega] at hO2
     refine .z zg (.nil ?_)
     refine nB (nT ?_)
     refine .region (.z zm (.z ck (.z zg (.nil ?_))))
     refine nT ?_
     exact ⟨(j+1,v161),.bU rfl bL aR,⟨by dsimp only;omega,_,hO2,hs.sb⟩,by dsimp only;omega⟩
    ·refine .exit ?_
     refine xT (xT (xB (nT ?_)))
     refine .seq (.aj (.z zg (.nil (.block ?_))))
     refine .loop (fun p:Nat×Value=>⟨243,[],[(15,I (p.1:Int)),(4,p.2),(12,.slice at_ ts.length ct),(13,I (s.sp.many:Int)),(3,.pointer (some ⟨b3,0,none⟩)),(1,.pointer (some ⟨b1,0,none⟩))]⟩)
      (fun p w=>p.1≤s.cs.length∧∃en,cf 4 p.2 (fV (eC (qs s.sp) s.sp.wa.length s.sp.st.length++eC (alL s.sp) s.sp.wa.length s.sp.st.length++eC (upL s.sp) s.sp.wa.length s.sp.st.length++vR s.sp ts.length++qZ s.sp ts s.cs 0 p.1)) en∧St H1 w (en:: .blk b3 [I s.sp.id,I s.sp.src,.slice ast s.sp.st.length cst,.slice awa s.sp.wa.length cwa,I s.sp.al,I s.sp.up]:: .blk b1 [I s.sp.id,I s.sp.src,.slice ast s.sp.st.length cst,.slice awa s.sp.wa.length cwa,I s.sp.al,I s.sp.up,.slice ar s.rs.length cr,.slice ac s.cs.length cc]::σ)) (fun p=>s.cs.length - p.1) (0,vo) aR
      ⟨by first|omega|exact Nat.zero_le _,en,by show cf 4 vo (fV (_++[])) en;rw [List.append_nil,←show j=ts.length by omega];exact hO,hs⟩ ?_
     clear hO hs
     rintro ⟨i,vo⟩ w ⟨hi,en,hO,hs⟩
     dsimp only at hi hO ⊢
     have hel:=jg s.sp ts.length
     have hcl1:=ir s.sp ts s.cs 0 i
     have hcl2:i*(2*(ts.length - 0))≤20*(2*60):=Nat.mul_le_mul ak ak
     refine .seq (.aj (.z zm (.z (zfa bO) (.y hs (zld dL) (.z (cB aV) (.z fH (.nil ?_)))))))
     refine (.bB rfl (fun hc166=>?_) (fun hc166=>?_))
     ·refine .skip ?_
      refine nT ?_
      refine .seq (.block (.aj (.z zg (.nil (.block ?_)))))
      refine .loop (fun p:Nat×Value=>⟨243,[],[(16,I (p.1:Int)),(4,p.2),(15,I (i:Int)),(12,.slice at_ ts.length ct),(13,I (s.sp.many:Int)),(3,.pointer (some ⟨b3,0,none⟩)),(1,.pointer (some ⟨b1,0,none⟩))]⟩)
       (fun p w=>p.1≤ts.length∧∃en,cf 4 p.2 (fV (eC (qs s.sp) s.sp.wa.length s.sp.st.length++eC (alL s.sp) s.sp.wa.length s.sp.st.length++eC (upL s.sp) s.sp.wa.length s.sp.st.length++vR s.sp ts.length++qZ s.sp ts s.cs 0 i++kx s.sp ts (yd s.cs i) 0 p.1)) en∧St H1 w (en:: .blk b3 [I s.sp.id,I s.sp.src,.slice ast s.sp.st.length cst,.slice awa s.sp.wa.length cwa,I s.sp.al,I s.sp.up]:: .blk b1 [I s.sp.id,I s.sp.src,.slice ast s.sp.st.length cst,.slice awa s.sp.wa.length cwa,I s.sp.al,I s.sp.up,.slice ar s.rs.length cr,.slice ac s.cs.length cc]::σ)) (fun p=>ts.length - p.1) (0,vo) aR
       ⟨by first|omega|exact Nat.zero_le _,en,by show cf 4 vo (fV (_++[])) en;rw [List.append_nil];exact hO,hs⟩ ?_
      clear hO hs
      rintro ⟨j,vo⟩ w ⟨hj,en,hO,hs⟩
      dsimp only at hj hO ⊢
      have hl1:=kX s.sp ts (yd s.cs i) 0 j
      refine .seq (.aj (.z zm (.z zm (.z (cB aU) (.z fH (.nil ?_))))))
      refine (.bB rfl (fun hc172=>?_) (fun hc172=>?_))
      ·refine .skip ?_
       refine nT ?_
       refine .seq (.block ?_)
       refine .draw mix rfl hs fun w hs=>?_
       refine .z 0 rfl zm ?_;refine .z 1 rfl (zfa bO) ?_;refine .y 2 rfl hs dL ?_;refine .z 3 rfl zm ?_
       obtain ⟨c,hx⟩:=nth (l:=s.cs) (k:=i) ak
       obtain ⟨t,ht⟩:=nth (l:=ts) (k:=j) ak
       obtain ⟨g1,g2,g3,g4,g5,g6⟩:=hcs c (List.mem_of_getElem? hx)
       have ec:=Bu hx
       have et:=Di ht
       refine .ixX (enc:=Cmp.c) (i:=4) hs rfl au .none (h4.mono hle1) rfl rfl aV bQ hx cD ?_;intro b179 o179 hc179
       refine .r (i:=5) hs rfl au .none (cI (vs:=c.c) rfl EB bQ hc179) ?_
       refine .z 6 rfl zm ?_;refine .z 7 rfl zm ?_
       refine .ixX (enc:=TD.c) (i:=8) hs rfl au .none hT rfl rfl aU bw ht cD ?_;intro b183 o183 hc183
       refine .r (i:=9) hs rfl au .none (cI (vs:=t.c) rfl dC bw hc183) ?_
       refine .z 10 rfl zm ?_;refine .z 11 rfl ck ?_;refine .z 12 rfl zm ?_;refine .z 13 rfl ck ?_
       refine .E 14 hs ?_
       refine .call Tryz.call194 rfl (sU (c:=c) (t:=t) hs ⟨ak,ak⟩) ?_;rintro v189 w ⟨en189,hO189,hs⟩
       obtain ⟨a189,l189,c189,rfl,h189⟩:=hO189.shape
       refine .go ?_
       refine .E 15 hs ?_
       refine .append (ys:=fV (k9 c t ((s.sp.many:Int)+1+(j:Int)))) hs bM rfl rfl hO (Src.E9 hO189 .here) (jF _) (fun l h=>by rw [dx] at h;simp only [List.length_append] at h;have:=wz c t ((s.sp.many:Int)+1+(j:Int));rw [dx] at h189;omega) ?_;intro v190 en190 w hO2 hs
       rw [←fG,List.append_assoc _ (kx _ _ _ _ _),show kx s.sp ts (yd s.cs i) 0 j++k9 c t ((s.sp.many:Int)+1+(j:Int))=kx s.sp ts (yd s.cs i) 0 (j+1) by
        show _=_++k9 (yd s.cs i) (td0 ts (0+j)) ((s.sp.many+1+(0+j):Nat):Int)
        rw [Nat.zero_add,ec,et,show ((s.sp.many+1+j:Nat):Int)=(s.sp.many:Int)+1+(j:Int) by omega]] at hO2
       refine .go ?_
       refine .z 16 rfl zg ?_;refine .D hs ?_
       refine nB (nT ?_)
       refine .region (.z zm (.z ck (.z zg (.nil ?_))))
       refine nT ?_
       exact ⟨(j+1,v190),.bU rfl bL aR,⟨by dsimp only;omega,_,hO2,hs.sb⟩,by dsimp only;omega⟩
      ·refine .exit ?_
       refine xT (xT (xB (nB (nT ?_))))
       refine .region (.z zm (.z ck (.z zg (.nil ?_))))
       refine nT ?_
       obtain rfl:j=ts.length:=by omega
       rw [List.append_assoc _ (qZ _ _ _ _ _)] at hO
       exact ⟨(i+1,_),.bU rfl bL aR,⟨by dsimp only;omega,en,hO,hs⟩,by dsimp only;omega⟩
     ·refine .exit ?_
      refine xT (xT (xB (nT ?_)))
      refine .seq (.aj (.z zg (.nil (.block ?_))))
      refine .loop (fun p:Nat×Value=>⟨243,[],[(17,I (p.1:Int)),(4,p.2),(12,.slice at_ ts.length ct),(13,I (s.sp.many:Int)),(3,.pointer (some ⟨b3,0,none⟩)),(1,.pointer (some ⟨b1,0,none⟩))]⟩)
       (fun p w=>p.1≤s.rs.length∧∃en,cf 4 p.2 (fV (eC (qs s.sp) s.sp.wa.length s.sp.st.length++eC (alL s.sp) s.sp.wa.length s.sp.st.length++eC (upL s.sp) s.sp.wa.length s.sp.st.length++vR s.sp ts.length++qZ s.sp ts s.cs 0 s.cs.length++tS s.sp ts s.rs p.1)) en∧St H1 w (en:: .blk b3 [I s.sp.id,I s.sp.src,.slice ast s.sp.st.length cst,.slice awa s.sp.wa.length cwa,I s.sp.al,I s.sp.up]:: .blk b1 [I s.sp.id,I s.sp.src,.slice ast s.sp.st.length cst,.slice awa s.sp.wa.length cwa,I s.sp.al,I s.sp.up,.slice ar s.rs.length cr,.slice ac s.cs.length cc]::σ)) (fun p=>s.rs.length - p.1) (0,vo) aR
       ⟨by first|omega|exact Nat.zero_le _,en,by show cf 4 vo (fV (_++[])) en;rw [List.append_nil,←show i=s.cs.length by omega];exact hO,hs⟩ ?_
      clear hO hs
      rintro ⟨q,vo⟩ w ⟨hq,en,hO,hs⟩
      dsimp only at hq hO ⊢
      have hrl1:=jd s.sp ts s.rs q
      have hcl3:=ir s.sp ts s.cs 0 s.cs.length
      have hcl4:s.cs.length*(2*(ts.length - 0))≤20*(2*60):=Nat.mul_le_mul ak ak
      refine .seq (.aj (.z zm (.z (zfa aM) (.y hs (zld bj) (.z (cB aA) (.z fH (.nil ?_)))))))
      refine (.bB rfl (fun hc195=>?_) (fun hc195=>?_))
      ·refine .skip ?_
       refine nT ?_
       refine .seq (.block (.aj (.z (zfa aM) (.y hs (zld bj) (.z zm ?_)))))
       obtain ⟨r,hx⟩:=nth (l:=s.rs) (k:=q) ak
       obtain ⟨g1,g2,g3,g4,g5,g6,g7⟩:=hrs r (List.mem_of_getElem? hx)
       obtain ⟨m,k1,k2,k3⟩:=fa (hmem r (List.mem_of_getElem? hx))
       refine .ixX (enc:=Rdg.c) hs (h3.mono hle1) rfl rfl aA aF hx cD ?_;intro b201 o201 hc201
       refine .q hs (cI (vs:=(Rdg.c r)) rfl dB aF hc201) ?_
       refine .o (.alloc hs ek rfl fun b18 w hs=>?_)
       refine .o (.aZ (vs:=r.c) hs rfl rfl aF fun w hs=>?_)
       change St _ _ (.blk b18 [I r.src,I r.st,I r.wa,I r.val,I r.tol,I r.tape,I r.day]::_) at hs
       refine .nil (.aj (.y hs (zls [_,_,_,_,_,_] aH aC) (.z (zfa eM) (.y hs (zld af) (.z (zfa eL) (.y hs (zld af) ?_))))))
       refine .o (.call iy rfl (dj (s:=s.sp) hs (h2.mono hle1) ak ⟨ak,ak⟩ ⟨ak,ak⟩) ?_);rintro _ w ⟨rfl,hs⟩
       refine .z zg (.nil (.aj (.z zm (.z ck (.z zm (.z (zfa ef) (.y hs (zld af) (.z (zfa ee) (.y hs (zld af) ?_)))))))))
       refine .z (zbd [_,_] fO) ?_
       refine .o (.call Tryz.call93 rfl (jJ (t:=r.td) hs hT ak) ?_);rintro _ w ⟨rfl,hs⟩
       refine .z ck (.z zg (.nil (.region (.z zm (.z zm (.z zm (.z (zfa cM) (.y hs (zld af) (.z (zfa bY) ?_)))))))))
       refine .y hs (zld af) (.z ck (.z (zfa eg) (.y hs (zld af) (.z (zbd [_,_,_,_] eD) (.z zm (.z zm (.z (zfa bY) (.y hs (zld af) (.z (zfa cM) ?_)))))))))
       refine .y hs (zld af) (.z gL (.z (zfa eg) (.y hs (zld af) (.z (zbd [_,_,_,_] eD) ?_))))
       refine .o (.buildSlice (cells:=fV (qN s.sp ts r)) hs fy rfl au fun b240 w hs=>?_)
       refine .o (.append (ys:=fV (qN s.sp ts r)) hs bM rfl rfl hO (.own .here rfl rfl) (jF _) (fun l h=>by rw [dx] at h;simp only [List.length_append] at h;omega) ?_);intro v241 en241 w hO2 hs
       rw [←fG,List.append_assoc _ (tS _ _ _ _),show tS s.sp ts s.rs q++qN s.sp ts r=tS s.sp ts s.rs (q+1) by rw [←AK hx];rfl] at hO2
       refine .z zg (.nil ?_)
       refine nB (nT ?_)
       refine .region (.z zm (.z ck (.z zg (.nil ?_))))
       refine nT ?_
       exact ⟨(q+1,v241),.bU rfl bL aR,⟨by dsimp only;omega,_,hO2,hs.sb⟩,by dsimp only;omega⟩
      ·refine .exit ?_
       refine xT (xT (xB (nT ?_)))
       refine .aj (.z zm (.z zg (.nil ?_)))
       refine .ret (Fin.bH Tryz.results111 rfl ?_)
       obtain rfl:q=s.rs.length:=by omega
       exact ⟨H1,en,hle1,by rw [hlims];exact hO,hs.sb⟩
theorem rH{s:Srv}{vst vwa vr vc:Value}(hs:St H w σ)(h1:RI H vst s.sp.st)(h2:RI H vwa s.sp.wa)(h3:RRd H vr s.rs)(h4:RCm H vc s.cs)(he:s.early):
  Cl Tryz.prog 95 [.agg #[I s.sp.id,I s.sp.src,vst,vwa,I s.sp.al,I s.sp.up,vr,vc]] w fun u w'=>∃H1 vl en,HLe H H1∧u= .agg #[I s.sys.many,vl]∧cf 4 vl (fV s.bP) en∧St H1 w' (en::σ):=by
 have hsm:=dW he.1
 have hrl:=he.2.1
 have htl:s.bq.length≤60:=by have:=dp s.rs;unfold Srv.bq;omega
 refine Cl.o Tryz.func95 Tryz.ntmps95 ag1 ?_
 refine .aj ?_
 refine .bx hs fun b1 w hs=>?_
 refine .o (.alloc hs bV rfl fun b2 w hs=>?_)
 refine .nil ?_
 refine .seq (.draw mix rfl hs fun w hs=>?_)
 refine .z 0 rfl (zfa aO) ?_;refine .ys 1 rfl hs [_,_,_,_,_,_] aH aC ?_;refine .z 3 rfl (zfa aM) ?_;refine .y 4 rfl hs bj ?_;refine .ys 8 rfl hs [_,_,_,_,_,_,_,_] aP aE ?_
 refine .E 2 hs ?_
 refine .call rh rfl (dJ (s:=s.sp) hs h1 h2 ⟨ak,ak⟩) ?_;rintro _ w ⟨rfl,hs⟩
 refine .go ?_
 refine .E 5 hs ?_
 refine .call wv rfl (fY hs h3 ak) ?_;rintro v8 w ⟨H1,hle1,hT,hs⟩
 replace hT:RTd H1 v8 s.bq:=hT
 obtain ⟨at_,ct,rfl⟩:=RTd.shape hT
 refine .go ?_
 refine .z 6 rfl (cB aU) ?_;refine .z 7 rfl ck ?_
 refine .E 9 hs ?_
 refine .call Tryz.call111 rfl (jI (s:=s) hs (h1.mono hle1) (h2.mono hle1) (h3.mono hle1) (h4.mono hle1) he) ?_;rintro v12 w ⟨H2,en,hle2,hO,hs⟩
 obtain ⟨al,ll,cl,rfl,hll⟩:=hO.shape
 refine .go ?_
 refine .z 10 rfl (zbd [_,_] fF) ?_
 refine .E 11 hs ?_
 refine .aZ (vs:=[_,_]) hs rfl rfl aB ?_;intro w hs
 refine .go ?_
 refine .D hs ?_
 refine .ret ?_
 replace hs:St H2 w (.blk b2 [I ((s.sp.many:Int)+(s.bq.length:Int)),.slice al ll cl]::en::σ):=hs.sb
 exact Fin.iA [] [] hs fun w hs=>⟨_,results1 Tryz.results95 (dF (vs:=[_,_]) hs rfl aN aB),H2,_,en,hle1.trans hle2,by show _=Value.agg #[I ((s.sp.many+s.bq.length:Nat):Int),_];rw [Int.natCast_add],hO,hs.tail⟩
theorem lH{s:Srv}{vst vwa vr vc:Value}(hs:St H w σ)(h1:RI H vst s.sp.st)(h2:RI H vwa s.sp.wa)(h3:RRd H vr s.rs)(h4:RCm H vc s.cs)(he:s.early):
  Cl Tryz.prog 95 [.agg #[I s.sp.id,I s.sp.src,vst,vwa,I s.sp.al,I s.sp.up,vr,vc]] w fun u w'=>∃H1,HLe H H1∧RSy H1 u s.sys∧St H1 w' σ:=by
 refine (rH hs h1 h2 h3 h4 he).mono ?_
 rintro u w' ⟨H1,vl,en,hle,rfl,hO,hs⟩
 have hl:=jq he 6 ak
 rw [s.tf] at hl
 obtain ⟨H2,hle2,hR,hs⟩:=cf.cq (m:=4) (cs:=s.bP.map Lim.c) hO (fun c hc=>by simp only [List.mem_map] at hc;obtain ⟨x,_,rfl⟩:=hc;rfl) ak (by rw [List.length_map];omega) hs .here
 exact ⟨H2,hle.trans hle2,⟨vl,rfl,hR⟩,hs⟩
set_option maxHeartbeats 1000000 in
theorem mn{s:Srv}{vst vwa vr vc:Value}(hs:St H w σ)(h1:RI H vst s.sp.st)(h2:RI H vwa s.sp.wa)(h3:RRd H vr s.rs)(h4:RCm H vc s.cs):
  Cl Tryz.prog 43 [.agg #[I s.sp.id,I s.sp.src,vst,vwa,I s.sp.al,I s.sp.up,vr,vc]] w fun u w'=>∃H1 e,HLe H H1∧u=I e∧tT s e∧St H1 w' σ:=by
 obtain ⟨ast,cst,rfl⟩:=RI.shape h1
 obtain ⟨awa,cwa,rfl⟩:=RI.shape h2
 obtain ⟨ar,cr,rfl⟩:=RRd.shape h3
 obtain ⟨ac,cc,rfl⟩:=RCm.shape h4
 refine Cl.o Tryz.func43 Tryz.ntmps43 ag1 ?_
 refine .aj ?_
 refine .bx hs fun b1 w hs=>?_
 refine .z zg (.nil (.seq (.aj (.z (zfa aO) (.y hs (zls [_,_,_,_,_,_] aH aC) ?_)))))
 refine .o (.call Tryz.call24 rfl (gz (s:=s.sp) hs h1 h2) ?_);rintro _ w ⟨e,rfl,he,hs⟩
 refine .z gx (.nil ?_)
 refine (.eH rfl (fun hc8=>?_) (fun hc8=>?_))
 ·refine .aj (.z zg (.nil ?_))
  refine .ret (rT (Fin.bH kK rfl ?_))
  have hq:¬fl s.sp∧e=30:=he.resolve_left fun h=>hc8 h.2
  exact ⟨H,_,HLe.refl H,rfl,.space hq.1,hs.out⟩
 ·refine .skip ?_
  refine nT ?_
  refine .seq (.aj (.z (zfa aM) ?_))
  have hok:fl s.sp:=(he.resolve_right fun h=>by omega).1
  refine .y hs (zld bj) (.z (cB aA) (.z kD (.z zm ?_)))
  refine .iD (t':=13) rfl (fun hb13=>?_) (fun hb13=>?_)
  ·refine .gFs 4 4 false rfl rfl rfl ?_
   refine .z zpT (.nil ?_)
   refine (.cT ?_)
   refine .aj (.z zg (.nil ?_))
   refine .ret (rT (Fin.bH kK rfl ?_))
   exact ⟨H,_,HLe.refl H,rfl,.long hok ak,hs.out⟩
  ·refine .gT rfl rfl ?_
   refine .z (zfa bO) ?_
   refine .gT rfl rfl ?_
   refine .y hs (zld dL) ?_
   refine .gT rfl rfl ?_
   refine .z (cB aV) ?_
   refine .gT rfl rfl ?_
   refine .z kD (.z zpF (.nil ?_))
   refine (.bB rfl (fun hc18=>?_) (fun hc18=>?_))
   ·refine .aj (.z zg (.nil ?_))
    refine .ret (rT (Fin.bH kK rfl ?_))
    exact ⟨H,_,HLe.refl H,rfl,.long hok ak,hs.out⟩
   ·refine .skip ?_
    refine nT ?_
    refine .seq (.aj (.z zg (.nil (.block ?_))))
    refine .loop (fun k:Nat=>⟨64,[],[(3,I (k:Int)),(1,.pointer (some ⟨b1,0,none⟩))]⟩)
     (fun k w=>k≤s.rs.length∧(∀j<k,∀y,s.rs[j]? =some y→jh s.sp y)∧St H w (.blk b1 [I s.sp.id,I s.sp.src,.slice ast s.sp.st.length cst,.slice awa s.sp.wa.length cwa,I s.sp.al,I s.sp.up,.slice ar s.rs.length cr,.slice ac s.cs.length cc]::σ)) (fun k=>s.rs.length - k) 0 aR
     ⟨Nat.zero_le _,fun j hj=>by omega,hs⟩ ?_
    rintro k w ⟨hk,hno,hs⟩
    refine .seq (.aj (.z zm (.z (zfa aM) (.y hs (zld bj) (.z (cB aA) (.z fH (.nil ?_)))))))
    refine (.bB rfl (fun hc23=>?_) (fun hc23=>?_))
    ·refine .skip ?_
     refine nT ?_
     refine .seq (.block ?_)
     refine .seq (.draw mix rfl hs fun w hs=>?_)
     refine .z 0 rfl (zfa aO) ?_;refine .ys 1 rfl hs [_,_,_,_,_,_] aH aC ?_;refine .z 2 rfl (zfa aM) ?_;refine .y 3 rfl hs bj ?_;refine .z 4 rfl zm ?_
     obtain ⟨r,hx⟩:=nth (l:=s.rs) (k:=k) ak
     refine .ixX (enc:=Rdg.c) (i:=5) hs rfl au .none h3 rfl rfl aA aF hx cD ?_;intro b31 o31 hc31
     refine .r (i:=6) hs rfl au .none (cI (vs:=r.c) rfl dB aF hc31) ?_
     refine .E 7 hs ?_
     refine .call Tryz.call109 rfl (iJ (s:=s.sp) (r:=r) hs h1 h2) ?_;rintro _ w ⟨b33,rfl,hb33,hs⟩
     refine .go ?_
     refine .z 8 rfl gV ?_;refine .D hs ?_
     refine (.cond rfl (fun hc34=>?_) (fun hc34=>?_))
     ·refine .aj (.z zg (.nil ?_))
      refine .ret (rB (rT (rT (rB (rT (Fin.bH kK rfl ?_))))))
      exact ⟨H,_,HLe.refl H,rfl,.rdg hok ak (fun h=>by rw [hb33.2 (h r (List.mem_of_getElem? hx))] at hc34;cases hc34),hs.out⟩
     ·refine .skip ?_
      refine nB (nT ?_)
      refine .region (.z zm (.z ck (.z zg (.nil ?_))))
      refine nT ?_
      exact ⟨k+1,.bU rfl bL aR,⟨ak,e9 hno hx (hb33.1 (by simpa using hc34)),hs⟩,ak⟩
    ·refine .exit ?_
     refine xT (xT (xB (nT ?_)))
     refine .seq (.aj (.z zg (.nil (.block ?_))))
     have hrs:∀r∈s.rs,jh s.sp r:=fun r hr=>by
      obtain ⟨j,hj⟩:=List.getElem?_of_mem hr
      have:=(List.getElem?_eq_some_iff.1 hj).1
      exact hno j ak r hj
     clear hno
     refine .loop (fun k:Nat=>⟨64,[],[(4,I (k:Int)),(1,.pointer (some ⟨b1,0,none⟩))]⟩)
      (fun k w=>k≤s.cs.length∧(∀j<k,∀y,s.cs[j]? =some y→po y)∧St H w (.blk b1 [I s.sp.id,I s.sp.src,.slice ast s.sp.st.length cst,.slice awa s.sp.wa.length cwa,I s.sp.al,I s.sp.up,.slice ar s.rs.length cr,.slice ac s.cs.length cc]::σ)) (fun k=>s.cs.length - k) 0 aR
      ⟨Nat.zero_le _,fun j hj=>by omega,hs⟩ ?_
     rintro i w ⟨hi,hno,hs⟩
     refine .seq (.aj (.z zm (.z (zfa bO) (.y hs (zld dL) (.z (cB aV) (.z fH (.nil ?_)))))))
     refine (.bB rfl (fun hc39=>?_) (fun hc39=>?_))
     ·refine .skip ?_
      refine nT ?_
      refine .seq (.block (.aj (.z (zfa bO) (.y hs (zld dL) (.z zm ?_)))))
      obtain ⟨c,hx⟩:=nth (l:=s.cs) (k:=i) ak
      refine .ixX (enc:=Cmp.c) hs h4 rfl rfl aV bQ hx cD ?_;intro b45 o45 hc45
      refine .q hs (cI (vs:=(Cmp.c c)) rfl EB bQ hc45) ?_
      refine .o (.call Tryz.call110 rfl (l9 (c:=c) hs) ?_);rintro _ w ⟨b47,rfl,hb47,hs⟩
      refine .z gV (.nil ?_)
      refine (.cond rfl (fun hc48=>?_) (fun hc48=>?_))
      ·refine .aj (.z zg (.nil ?_))
       refine .ret (rB (rT (rT (rB (rT (Fin.bH kK rfl ?_))))))
       exact ⟨H,_,HLe.refl H,rfl,.cmp hok ak hrs (fun h=>by rw [hb47.2 (h c (List.mem_of_getElem? hx))] at hc48;cases hc48),hs.out⟩
      ·refine .skip ?_
       refine nB (nT ?_)
       refine .region (.z zm (.z ck (.z zg (.nil ?_))))
       refine nT ?_
       exact ⟨i+1,.bU rfl bL aR,⟨ak,e9 hno hx (hb47.1 (by simpa using hc48)),hs⟩,ak⟩
     ·refine .exit ?_
      refine xT (xT (xB (nT ?_)))
      refine .seq ?_
      refine .seq (.draw mix rfl hs fun w hs=>?_)
      refine .z 0 rfl (zfa aO) ?_;refine .ys 1 rfl hs [_,_,_,_,_,_] aH aC ?_;refine .z 3 rfl (zfa aM) ?_;refine .y 4 rfl hs bj ?_
      refine .E 2 hs ?_
      have hcs:∀c∈s.cs,po c:=fun c hc=>by
       obtain ⟨j,hj⟩:=List.getElem?_of_mem hc
       have:=(List.getElem?_eq_some_iff.1 hj).1
       exact hno j ak c hj
      have hea:s.early:=⟨hok,ak,ak,hrs,hcs⟩
      have hsm:=dW hok
      have hrl:=hea.2.1
      have htl:s.bq.length≤60:=by have:=dp s.rs;unfold Srv.bq;omega
      have hll:=jq hea 6 ak
      rw [s.tf] at hll
      refine .call rh rfl (dJ (s:=s.sp) hs h1 h2 ⟨ak,ak⟩) ?_;rintro _ w ⟨rfl,hs⟩
      refine .go ?_
      refine .E 5 hs ?_
      refine .call wv rfl (fY hs h3 ak) ?_;rintro v54 w ⟨H1,hle1,hT,hs⟩
      replace hT:RTd H1 v54 s.bq:=hT
      obtain ⟨at_,ct,rfl⟩:=RTd.shape hT
      refine .go ?_
      refine .z 6 rfl (cB aU) ?_;refine .z 7 rfl ck ?_;refine .z 8 rfl kD ?_;refine .z 9 rfl zm ?_
      refine .iD (t':=58) rfl (fun hb58=>?_) (fun hb58=>?_)
      ·refine .qF (i:=10) rfl au rfl rfl ?_
       refine .qF (i:=11) rfl au rfl rfl ?_
       refine .qF (i:=12) rfl au rfl rfl ?_
       refine .qF (i:=13) rfl au rfl rfl ?_
       refine .z 14 rfl zpT ?_;refine .D hs ?_
       refine (.cT ?_)
       refine .aj (.z zg (.nil ?_))
       refine .ret (rT (Fin.bH kK rfl ?_))
       exact ⟨H1,_,hle1,rfl,.big hea ak,hs.out⟩
      ·refine .ys 10 rfl hs [_,_,_,_,_,_,_,_] aP aE ?_
       refine .E 11 hs ?_
       refine .call Tryz.call111 rfl (jI (s:=s) hs (h1.mono hle1) (h2.mono hle1) (h3.mono hle1) (h4.mono hle1) hea) ?_;rintro v60 w ⟨H2,en,hle2,hO,hs⟩
       obtain ⟨al,ll,cl,rfl,hl60⟩:=hO.shape
       rw [dx] at hl60
       refine .go ?_
       refine .z 12 rfl (cB aI) ?_;refine .z 13 rfl kD ?_;refine .z 14 rfl zpF ?_;refine .D hs ?_
       refine (.bB rfl (fun hc63=>?_) (fun hc63=>?_))
       ·refine .aj (.z zg (.nil ?_))
        refine .ret (rT (Fin.bH kK rfl ?_))
        exact ⟨H2,_,hle1.trans hle2,rfl,.big hea ak,hs.out⟩
       ·refine .skip ?_
        refine nT ?_
        refine .aj (.z zg (.nil ?_))
        refine .ret (Fin.bH kK rfl ?_)
        exact ⟨H2,_,hle1.trans hle2,rfl,.ok hea ⟨ak,ak⟩,hs.out⟩
theorem ja{s:Spc}{q:Wht}{vst vwa:Value}(hs:St H w σ)(h2:RI H vwa s.wa):
  Cl Tryz.prog 238 [.agg #[I q.kind,I q.st,I q.wa,I s.id,I s.src,vst,vwa,I s.al,I s.up]] w fun v w'=>v= .bool (decide (0≤q.wa∧q.wa≤(s.wa.length:Int) - 1))∧St H w' σ:=by
 obtain ⟨awa,cwa,rfl⟩:=RI.shape h2
 have l2:=(RI.len h2).2.2
 refine Cl.o Tryz.func238 Tryz.ntmps238 ag1 ?_
 refine .aj ?_
 refine .bx hs fun b1 w hs=>?_
 refine .z zg (.nil (.aj (.z (zfa cK) (.z (zfa df) (.y hs (zld af) (.z (zfa e7) (.z (zfa aW) (.y hs (zld an) (.z (cB ae) ?_)))))))))
 refine .z gL ?_
 refine .o (.call dD rfl (br hs) ?_);rintro _ w ⟨rfl,hs⟩
 refine .z zg (.nil ?_)
 refine .ret (Fin.bH Tryz.results238 rfl ?_)
 exact ⟨rfl,hs.out⟩
theorem kj{s:Spc}{q:Wht}{vst vwa:Value}(hs:St H w σ)(h1:RI H vst s.st):
  Cl Tryz.prog 243 [.agg #[I q.kind,I q.st,I q.wa,I s.id,I s.src,vst,vwa,I s.al,I s.up]] w fun v w'=>v= .bool (decide (0≤q.st∧q.st≤(s.st.length:Int) - 1))∧St H w' σ:=by
 obtain ⟨ast,cst,rfl⟩:=RI.shape h1
 have l1:=(RI.len h1).2.2
 refine Cl.o Tryz.func243 Tryz.ntmps243 ag1 ?_
 refine .aj ?_
 refine .bx hs fun b1 w hs=>?_
 refine .z zg (.nil (.aj (.z (zfa cK) (.z (zfa dR) (.y hs (zld af) (.z (zfa e7) (.z (zfa bp) (.y hs (zld an) (.z (cB ae) ?_)))))))))
 refine .z gL ?_
 refine .o (.call dD rfl (br hs) ?_);rintro _ w ⟨rfl,hs⟩
 refine .z zg (.nil ?_)
 refine .ret (Fin.bH Tryz.results243 rfl ?_)
 exact ⟨rfl,hs.out⟩
theorem mS{s:Spc}{q:Wht}:fk s q↔(q.kind=1∧q.st=0∧s.isW q∧0<q.wa)∨(q.kind=2∧q.st=0∧s.isW q)∨(q.kind=3∧q.wa=0∧s.isS q)∨(q.kind=4∧s.isS q∧s.isW q):=by
 constructor
 ·intro h
  cases h with
  |litres a b c d=>exact .inl ⟨a,b,c,d⟩
  |plane a b c=>exact .inr (.inl ⟨a,b,c⟩)
  |section_ a b c=>exact .inr (.inr (.inl ⟨a,b,c⟩))
  |offset a b c=>exact .inr (.inr (.inr ⟨a,b,c⟩))
 ·rintro (⟨a,b,c,d⟩|⟨a,b,c⟩|⟨a,b,c⟩|⟨a,b,c⟩)
  ·exact .litres a b c d
  ·exact .plane a b c
  ·exact .section_ a b c
  ·exact .offset a b c
theorem wZ{s:Spc}{q:Wht}{vst vwa:Value}(hs:St H w σ)(h2:RI H vwa s.wa)(hk:q.kind=1):
  Cl Tryz.prog 237 [.agg #[I q.kind,I q.st,I q.wa,I s.id,I s.src,vst,vwa,I s.al,I s.up]] w fun v w'=>∃b:Bool,v= .bool b∧(b=true↔fk s q)∧St H w' σ:=by
 have hi:=mS (s:=s) (q:=q)
 simp only [Spc.isW,Spc.isS] at hi
 refine Cl.o Tryz.func237 Tryz.ntmps237 ag1 ?_
 refine .aj ?_
 refine .bx hs fun b1 w hs=>?_
 refine .z zg (.nil (.aj (.y hs (zls [_,_,_,_,_,_,_,_,_] qt kH) ?_)))
 refine .o (.call Tryz.call238 rfl (ja hs h2) ?_);rintro _ w ⟨rfl,hs⟩
 refine .z zm ?_
 refine .bif (t':=5) rfl (fun hb5=>?_) (fun hb5=>?_)
 ·refine .gT rfl rfl ?_
  refine .z (zfa cK) ?_
  refine .gT rfl rfl ?_
  refine .z (zfa df) ?_
  refine .gT rfl rfl ?_
  refine .y hs (zld af) ?_
  refine .gT rfl rfl ?_
  refine .z kD (.z zpT (.z zm ?_))
  refine .iD (t':=11) rfl (fun hb11=>?_) (fun hb11=>?_)
  ·refine .gT rfl rfl ?_
   refine .z (zfa cK) ?_
   refine .gT rfl rfl ?_
   refine .z (zfa dR) ?_
   refine .gT rfl rfl ?_
   refine .y hs (zld af) ?_
   refine .gT rfl rfl ?_
   refine .z fo (.z zpT (.z zg (.nil ?_)))
   refine .ret (Fin.bH Tryz.results237 rfl ?_)
   exact ⟨_,rfl,by rw [hi];simp_all<;>omega,hs.out⟩
  ·refine .gFs 4 8 true rfl rfl rfl ?_
   refine .z zpF (.z zg (.nil ?_))
   refine .ret (Fin.bH Tryz.results237 rfl ?_)
   exact ⟨_,rfl,by rw [hi];simp_all<;>omega,hs.out⟩
 ·refine .gFs 4 2 true rfl rfl rfl ?_
  refine .z zpF (.z zm ?_)
  refine .gFs 4 8 true rfl rfl rfl ?_
  refine .z zpF (.z zg (.nil ?_))
  refine .ret (Fin.bH Tryz.results237 rfl ?_)
  exact ⟨_,rfl,by rw [hi];simp_all<;>omega,hs.out⟩
theorem wY{s:Spc}{q:Wht}{vst vwa:Value}(hs:St H w σ)(h2:RI H vwa s.wa)(hk:q.kind=2):
  Cl Tryz.prog 240 [.agg #[I q.kind,I q.st,I q.wa,I s.id,I s.src,vst,vwa,I s.al,I s.up]] w fun v w'=>∃b:Bool,v= .bool b∧(b=true↔fk s q)∧St H w' σ:=by
 have hi:=mS (s:=s) (q:=q)
 simp only [Spc.isW,Spc.isS] at hi
 refine Cl.o Tryz.func240 Tryz.ntmps240 ag1 ?_
 refine .aj ?_
 refine .bx hs fun b1 w hs=>?_
 refine .z zg (.nil (.aj (.y hs (zls [_,_,_,_,_,_,_,_,_] qt kH) ?_)))
 refine .o (.call Tryz.call238 rfl (ja hs h2) ?_);rintro _ w ⟨rfl,hs⟩
 refine .z zm ?_
 refine .bif (t':=5) rfl (fun hb5=>?_) (fun hb5=>?_)
 ·refine .gT rfl rfl ?_
  refine .z (zfa cK) ?_
  refine .gT rfl rfl ?_
  refine .z (zfa dR) ?_
  refine .gT rfl rfl ?_
  refine .y hs (zld af) ?_
  refine .gT rfl rfl ?_
  refine .z fo (.z zpT (.z zg (.nil ?_)))
  refine .ret (Fin.bH Tryz.results240 rfl ?_)
  exact ⟨_,rfl,by rw [hi];simp_all<;>omega,hs.out⟩
 ·refine .gFs 4 2 true rfl rfl rfl ?_
  refine .z zpF (.z zg (.nil ?_))
  refine .ret (Fin.bH Tryz.results240 rfl ?_)
  exact ⟨_,rfl,by rw [hi];simp_all<;>omega,hs.out⟩
theorem wX{s:Spc}{q:Wht}{vst vwa:Value}(hs:St H w σ)(h1:RI H vst s.st)(hk:q.kind=3):
  Cl Tryz.prog 242 [.agg #[I q.kind,I q.st,I q.wa,I s.id,I s.src,vst,vwa,I s.al,I s.up]] w fun v w'=>∃b:Bool,v= .bool b∧(b=true↔fk s q)∧St H w' σ:=by
 have hi:=mS (s:=s) (q:=q)
 simp only [Spc.isW,Spc.isS] at hi
 refine Cl.o Tryz.func242 Tryz.ntmps242 ag1 ?_
 refine .aj ?_
 refine .bx hs fun b1 w hs=>?_
 refine .z zg (.nil (.aj (.y hs (zls [_,_,_,_,_,_,_,_,_] qt kH) ?_)))
 refine .o (.call Tryz.call243 rfl (kj hs h1) ?_);rintro _ w ⟨rfl,hs⟩
 refine .z zm ?_
 refine .bif (t':=5) rfl (fun hb5=>?_) (fun hb5=>?_)
 ·refine .gT rfl rfl ?_
  refine .z (zfa cK) ?_
  refine .gT rfl rfl ?_
  refine .z (zfa df) ?_
  refine .gT rfl rfl ?_
  refine .y hs (zld af) ?_
  refine .gT rfl rfl ?_
  refine .z fo (.z zpT (.z zg (.nil ?_)))
  refine .ret (Fin.bH Tryz.results242 rfl ?_)
  exact ⟨_,rfl,by rw [hi];simp_all<;>omega,hs.out⟩
 ·refine .gFs 4 2 true rfl rfl rfl ?_
  refine .z zpF (.z zg (.nil ?_))
  refine .ret (Fin.bH Tryz.results242 rfl ?_)
  exact ⟨_,rfl,by rw [hi];simp_all<;>omega,hs.out⟩
theorem wW{s:Spc}{q:Wht}{vst vwa:Value}(hs:St H w σ)(h1:RI H vst s.st)(h2:RI H vwa s.wa)(hk:q.kind=4):
  Cl Tryz.prog 245 [.agg #[I q.kind,I q.st,I q.wa,I s.id,I s.src,vst,vwa,I s.al,I s.up]] w fun v w'=>∃b:Bool,v= .bool b∧(b=true↔fk s q)∧St H w' σ:=by
 have hi:=mS (s:=s) (q:=q)
 simp only [Spc.isW,Spc.isS] at hi
 refine Cl.o Tryz.func245 Tryz.ntmps245 ag1 ?_
 refine .aj ?_
 refine .bx hs fun b1 w hs=>?_
 refine .z zg (.nil (.aj (.y hs (zls [_,_,_,_,_,_,_,_,_] qt kH) ?_)))
 refine .o (.call Tryz.call243 rfl (kj hs h1) ?_);rintro _ w ⟨rfl,hs⟩
 refine .z zm ?_
 refine .bif (t':=5) rfl (fun hb5=>?_) (fun hb5=>?_)
 ·refine .gT rfl rfl ?_
  refine .y hs (zls [_,_,_,_,_,_,_,_,_] qt kH) ?_
  refine .gT rfl rfl ?_
  refine .o (.call Tryz.call238 rfl (ja hs h2) ?_);rintro _ w ⟨rfl,hs⟩
  refine .z zpT (.z zg (.nil ?_))
  refine .ret (Fin.bH Tryz.results245 rfl ?_)
  exact ⟨_,rfl,by rw [hi];simp_all<;>omega,hs.out⟩
 ·refine .gFs 2 2 true rfl rfl rfl ?_
  refine .z zpF (.z zg (.nil ?_))
  refine .ret (Fin.bH Tryz.results245 rfl ?_)
  exact ⟨_,rfl,by rw [hi];simp_all<;>omega,hs.out⟩
theorem rC{s:Spc}{q:Wht}{vst vwa:Value}{i k:Nat}{u:Int}(hs:St H w σ)(h1:RI H vst s.st)(h2:RI H vwa s.wa)(hok:fl s)(hq:fk s q)(hk1:q.kind=1)(hi:i<s.st.length):
  Cl Tryz.prog 239 [.agg #[I q.kind,I q.st,I q.wa,I s.id,I s.src,vst,vwa,I s.al,I s.up],.agg #[I (i:Int),I (k:Int),I u]] w fun v w'=>∃H1,HLe H H1∧v=I (jG s q i k)∧St H1 w' σ:=by
 obtain ⟨ast,cst,rfl⟩:=RI.shape h1
 obtain ⟨awa,cwa,rfl⟩:=RI.shape h2
 have hn:=hok.wa.many
 have hcap:=(RI.len h2).2.1
 obtain ⟨_,hw1,hw2,hw3⟩:q.st=0∧0<q.wa∧0≤q.wa∧q.wa≤(s.wa.length:Int) - 1:=by
  rcases mS.1 hq with h|h|h|h
  ·exact ⟨h.2.1,h.2.2.2,h.2.2.1.1,h.2.2.1.2⟩
  all_goals omega
 obtain ⟨m,hm⟩:∃m:Nat,q.wa=m:=⟨q.wa.toNat,ak⟩
 have hW:jG s q i k=if (k:Int)≤q.wa then gi (wts s.st) i*gi (wts (s.wa.take (q.wa.toNat+1))) k else 0:=by unfold jG;rw [if_pos hk1]
 have hmt:q.wa.toNat=m:=by omega
 rw [hmt] at hW
 refine Cl.o Tryz.func239 Tryz.ntmps239 ag2 ?_
 refine .aj ?_
 refine .bx hs fun b2 w hs=>?_
 refine .bx hs fun b3 w hs=>?_
 refine .z zg (.nil (.seq (.aj (.z (zfa cV) (.y hs (zld af) (.z (zfa cK) (.z (zfa df) (.y hs (zld af) (.z kD ?_)))))))))
 refine .nil ?_
 refine (.bB rfl (fun hc12=>?_) (fun hc12=>?_))
 ·refine .aj (.z zg (.nil ?_))
  refine .ret (rT (Fin.bH Tryz.results239 rfl ?_))
  exact ⟨H,HLe.refl H,by rw [hW,if_neg ak],hs.out⟩
 ·refine .skip ?_
  refine nT ?_
  refine .seq (.draw mix rfl hs fun w hs=>?_)
  refine .z 0 rfl (zfa e7) ?_;refine .z 1 rfl (zfa bp) ?_;refine .y 2 rfl hs an ?_;refine .z 3 rfl (zfa e7) ?_;refine .z 4 rfl (zfa aW) ?_;refine .y 5 rfl hs an ?_;refine .z 6 rfl (zfa cK) ?_;refine .z 7 rfl (zfa df) ?_;refine .y 8 rfl hs af ?_;refine .z 9 rfl ck ?_
  refine .z 10 rfl (lO (k:=m+1) rfl rfl ae ai ak ak) ?_
  refine .E 11 hs ?_
  have hP:eI 7 15000 (s.wa.take (m+1)):=hok.wa.take ak ak
  refine .call Tryz.call104 rfl (mU hs h1 (h2.head (k:=m+1) ak)) ?_;rintro _ w ⟨H1,vo,e,hle1,rfl,hGx,-,hs⟩
  obtain ⟨rfl,hG⟩:=hGx ⟨hok.st,hP⟩
  have hgl:=ju (wts s.st) (wts (s.wa.take (m+1))) s.st.length
  have hyl:(wts (s.wa.take (m+1))).length=m+1:=by rw [eu,List.length_take];omega
  have hgr:=vI (X:=wts s.st) (Y:=wts (s.wa.take (m+1))) (n:=s.st.length) hi
  have hgt:=yT (X:=wts s.st) (Y:=wts (s.wa.take (m+1))) (n:=s.st.length) (k:=k) hi ak
  have hrl:=jb (wts s.st) (wts (s.wa.take (m+1))) i
  rw [←hgr] at hrl
  generalize lW (wts s.st) (wts (s.wa.take (m+1))) s.st.length=G at*
  obtain ⟨aG,cG,rfl⟩:=hG.shape
  refine .go ?_
  refine .z 12 rfl zm ?_;refine .z 13 rfl zex ?_;refine .z 14 rfl zex ?_;refine .z 15 rfl zg ?_;refine .z 16 rfl zg ?_;refine .D hs ?_
  refine .seq (.draw mix rfl hs fun w hs=>?_)
  refine .z 0 rfl zm ?_;refine .z 1 rfl (zfa cZ) ?_;refine .y 2 rfl hs af ?_
  refine .ixT (i:=3) hs rfl au .none hG rfl rfl aq az (show i<_ by omega) cD ?_;intro b31 o31 a31 c31 hc31 hR31
  refine .r (i:=4) hs rfl au .none (aJ rfl an hc31) ?_
  refine .z 5 rfl (zfa cV) ?_;refine .y 6 rfl hs af ?_
  refine .ixX (enc:=fun x=>[I x]) (i:=7) hs rfl au .none hR31 rfl rfl ae ai (bn (l:=(gr G i)) (i:=k) ak) cD ?_;intro b35 o35 hc35;replace hc35:=bu.one hc35
  refine .r (i:=8) hs rfl au .none (aJ rfl af hc35) ?_
  refine .z 9 rfl zg ?_;refine .D hs ?_
  refine .ret (Fin.bH Tryz.results239 rfl ?_)
  exact ⟨H1,hle1,by rw [hW,if_pos ak,←hgt];rfl,hs.out⟩
theorem sC{s:Spc}{q:Wht}{vst vwa:Value}{i k:Nat}{u:Int}(hs:St H w σ)(h1:RI H vst s.st)(hok:fl s)(hk1:q.kind=2)(hi:i<s.st.length):
  Cl Tryz.prog 241 [.agg #[I q.kind,I q.st,I q.wa,I s.id,I s.src,vst,vwa,I s.al,I s.up],.agg #[I (i:Int),I (k:Int),I u]] w fun v w'=>∃H1,HLe H H1∧v=I (jG s q i k)∧St H1 w' σ:=by
 have hW:jG s q i k=if (k:Int)=q.wa then gi (wts s.st) i else 0:=by unfold jG;rw [if_neg ak,if_pos hk1]
 have hl:=eu s.st
 refine Cl.o Tryz.func241 Tryz.ntmps241 ag2 ?_
 refine .aj ?_
 refine .bx hs fun b2 w hs=>?_
 refine .bx hs fun b3 w hs=>?_
 refine .z zg (.nil (.seq (.aj (.z (zfa cV) (.y hs (zld af) (.z (zfa cK) (.z (zfa df) (.y hs (zld af) (.z gx ?_)))))))))
 refine .nil ?_
 refine (.eH rfl (fun hc12=>?_) (fun hc12=>?_))
 ·refine .aj (.z zg (.nil ?_))
  refine .ret (rT (Fin.bH Tryz.results241 rfl ?_))
  exact ⟨H,HLe.refl H,by rw [hW,if_neg ak],hs.out⟩
 ·refine .skip ?_
  refine nT ?_
  refine .aj (.z (zfa e7) (.z (zfa bp) (.y hs (zld an) ?_)))
  refine .o (.call Tryz.call273 rfl (kM hs h1) ?_);rintro _ w ⟨H1,vo,e,hle1,rfl,hGx,hs⟩
  obtain ⟨rfl,hG⟩:=hGx hok.st
  obtain ⟨aG,cG,rfl⟩:=RI.shape hG
  refine .z zm (.z zex (.z zex (.z zg (.z zg (.nil (.aj (.z zm (.z (zfa cZ) (.y hs (zld af) ?_)))))))))
  refine .ixY hs hG rfl rfl ae ai (bn (l:=(wts s.st)) (i:=i) ak) cD ?_;intro b23 o23 hc23
  refine .q hs (aJ rfl af hc23) ?_
  refine .z zg (.nil ?_)
  refine .ret (Fin.bH Tryz.results241 rfl ?_)
  exact ⟨H1,hle1,by rw [hW,if_pos ak],hs.out⟩
theorem qy{s:Spc}{q:Wht}{vst vwa:Value}{i k:Nat}{u:Int}(hs:St H w σ)(h2:RI H vwa s.wa)(hok:fl s)(hk1:q.kind=3)(hk:k<s.wa.length):
  Cl Tryz.prog 244 [.agg #[I q.kind,I q.st,I q.wa,I s.id,I s.src,vst,vwa,I s.al,I s.up],.agg #[I (i:Int),I (k:Int),I u]] w fun v w'=>∃H1,HLe H H1∧v=I (jG s q i k)∧St H1 w' σ:=by
 have hW:jG s q i k=if (i:Int)=q.st then gi (wts s.wa) k else 0:=by unfold jG;rw [if_neg ak,if_neg ak,if_pos hk1]
 have hl:=eu s.wa
 refine Cl.o Tryz.func244 Tryz.ntmps244 ag2 ?_
 refine .aj ?_
 refine .bx hs fun b2 w hs=>?_
 refine .bx hs fun b3 w hs=>?_
 refine .z zg (.nil (.seq (.aj (.z (zfa cZ) (.y hs (zld af) (.z (zfa cK) (.z (zfa dR) (.y hs (zld af) (.z gx ?_)))))))))
 refine .nil ?_
 refine (.eH rfl (fun hc12=>?_) (fun hc12=>?_))
 ·refine .aj (.z zg (.nil ?_))
  refine .ret (rT (Fin.bH Tryz.results244 rfl ?_))
  exact ⟨H,HLe.refl H,by rw [hW,if_neg ak],hs.out⟩
 ·refine .skip ?_
  refine nT ?_
  refine .aj (.z (zfa e7) (.z (zfa aW) (.y hs (zld an) ?_)))
  refine .o (.call Tryz.call273 rfl (kM hs h2) ?_);rintro _ w ⟨H1,vo,e,hle1,rfl,hGx,hs⟩
  obtain ⟨rfl,hG⟩:=hGx (xF hok)
  obtain ⟨aG,cG,rfl⟩:=RI.shape hG
  refine .z zm (.z zex (.z zex (.z zg (.z zg (.nil (.aj (.z zm (.z (zfa cV) (.y hs (zld af) ?_)))))))))
  refine .ixY hs hG rfl rfl ae ai (bn (l:=(wts s.wa)) (i:=k) ak) cD ?_;intro b23 o23 hc23
  refine .q hs (aJ rfl af hc23) ?_
  refine .z zg (.nil ?_)
  refine .ret (Fin.bH Tryz.results244 rfl ?_)
  exact ⟨H1,hle1,by rw [hW,if_pos ak],hs.out⟩
theorem rA{s:Spc}{q:Wht}{vst vwa:Value}{i k:Nat}{u:Int}(hs:St H w σ)(hk1:q.kind=4):
  Cl Tryz.prog 246 [.agg #[I q.kind,I q.st,I q.wa,I s.id,I s.src,vst,vwa,I s.al,I s.up],.agg #[I (i:Int),I (k:Int),I u]] w fun v w'=>∃H1,HLe H H1∧v=I (jG s q i k)∧St H1 w' σ:=by
 have hW:jG s q i k=if (i:Int)=q.st∧(k:Int)=q.wa then 1 else 0:=by unfold jG;rw [if_neg ak,if_neg ak,if_neg ak]
 refine Cl.o Tryz.func246 Tryz.ntmps246 ag2 ?_
 refine .aj ?_
 refine .bx hs fun b2 w hs=>?_
 refine .bx hs fun b3 w hs=>?_
 refine .z zg (.nil (.seq (.aj (.z (zfa cZ) (.y hs (zld af) (.z (zfa cK) (.z (zfa dR) (.y hs (zld af) (.z gx ?_)))))))))
 refine .z zm ?_
 refine .yf (t':=11) rfl (fun hb11=>?_) (fun hb11=>?_)
 ·refine .gFs 6 6 false rfl rfl rfl ?_
  refine .z zpT (.nil ?_)
  refine (.cT ?_)
  refine .aj (.z zg (.nil ?_))
  refine .ret (rT (Fin.bH Tryz.results246 rfl ?_))
  first
  |exact ⟨H,HLe.refl H,by rw [hW,if_neg ak],hs.out⟩
  |exact ⟨H,HLe.refl H,by rw [hW,if_pos ak],hs.out⟩
 ·refine .gT rfl rfl ?_
  refine .z (zfa cV) ?_
  refine .gT rfl rfl ?_
  refine .y hs (zld af) ?_
  refine .gT rfl rfl ?_
  refine .z (zfa cK) ?_
  refine .gT rfl rfl ?_
  refine .z (zfa df) ?_
  refine .gT rfl rfl ?_
  refine .y hs (zld af) ?_
  refine .gT rfl rfl ?_
  refine .z gx (.z zpF (.nil ?_))
  refine (.eH rfl (fun hc18=>?_) (fun hc18=>?_))
  ·refine .aj (.z zg (.nil ?_))
   refine .ret (rT (Fin.bH Tryz.results246 rfl ?_))
   first
   |exact ⟨H,HLe.refl H,by rw [hW,if_neg ak],hs.out⟩
   |exact ⟨H,HLe.refl H,by rw [hW,if_pos ak],hs.out⟩
  ·refine .skip ?_
   refine nT ?_
   refine .aj (.z zg (.nil ?_))
   refine .ret (Fin.bH Tryz.results246 rfl ?_)
   first
   |exact ⟨H,HLe.refl H,by rw [hW,if_neg ak],hs.out⟩
   |exact ⟨H,HLe.refl H,by rw [hW,if_pos ak],hs.out⟩
def zD(k:Int):Nat:=if k=1 then 237 else if k=2 then 240 else if k=3 then 242 else 245
def zu(k:Int):Nat:=if k=1 then 239 else if k=2 then 241 else if k=3 then 244 else 246
def yM(k:Int):Value:= .agg #[.func (.func (zD k)) #[] #[],.func (.func (zu k)) #[] #[],I (my ⟨k,0,0⟩)]
def Ex:List MapEntry:=[{key:=I 1,val:=yM 1,born:=0},{key:=I 2,val:=yM 2,born:=1},{key:=I 3,val:=yM 3,born:=2},{key:=I 4,val:=yM 4,born:=3}]
theorem kR(hs:St H w σ):
  Cl Tryz.prog 189 [] w fun v w'=>∃b,v= .map (some b)∧St H w' (.obj b (.map Ex.toArray 4)::σ):=by
 refine Cl.of Tryz.func189 rfl Tryz.ntmps189 bL (vZ) ?_
 refine .aj (.z zg (.nil (.aj ?_)))
 refine .o (.makeMap hs fun b1 w hs=>?_)
 refine .z (zbd [_,_,_] ic) ?_
 refine .o (.insert (es:=[]) hs rfl rfl rfl eG bh rfl fun w hs=>?_)
 refine .z (zbd [_,_,_] ic) ?_
 refine .o (.insert (es:=[{key:=I 1,val:=yM 1,born:=0}]) hs rfl rfl rfl eG bh rfl fun w hs=>?_)
 refine .z (zbd [_,_,_] ic) ?_
 refine .o (.insert (es:=[{key:=I 1,val:=yM 1,born:=0},{key:=I 2,val:=yM 2,born:=1}]) hs rfl rfl rfl eG bh rfl fun w hs=>?_)
 refine .z (zbd [_,_,_] ic) ?_
 refine .o (.insert (es:=[{key:=I 1,val:=yM 1,born:=0},{key:=I 2,val:=yM 2,born:=1},{key:=I 3,val:=yM 3,born:=2}]) hs rfl rfl rfl eG bh rfl fun w hs=>?_)
 refine .z zm (.z zg (.nil ?_))
 refine .ret (Fin.bH Tryz.results189 rfl ?_)
 exact ⟨b1,rfl,hs⟩
def lF1(k:Int):Value:=if 1≤k∧k≤4 then .func (.func (zD k)) #[] #[] else .nilFunc
def lF2(k:Int):Value:=if 1≤k∧k≤4 then .func (.func (zu k)) #[] #[] else .nilFunc
def lD(k:Int):Int:=if 1≤k∧k≤4 then my ⟨k,0,0⟩ else 0
theorem yL(k:Int):[lF1 k,lF2 k,I (lD k)].all Value.oneCell'=true:=by
 unfold lF1 lF2;split<;>rfl
theorem AP{H:bX}{s:FS}{x y:Operand}{b:Nat}(k:Int)(hx:FS.ev s x=some (.map (some b)))(hy:FS.ev s y=some (I k)):
  QJ Tryz.prog H [.obj b (.map Ex.toArray 4)] s (.lookup 233 x y true) (.tuple #[.agg #[lF1 k,lF2 k,I (lD k)],.bool (decide (1≤k∧k≤4))]):=by
 by_cases h:1≤k∧k≤4
 ·rw [decide_eq_true h]
  have h4:k=1∨k=2∨k=3∨k=4:=by omega
  rcases h4 with rfl|rfl|rfl|rfl
  ·exact yB (v:=yM 1) (j:=0) hx hy eG bh rfl .here
  ·exact yB (v:=yM 2) (j:=1) hx hy eG bh rfl .here
  ·exact yB (v:=yM 3) (j:=2) hx hy eG bh rfl .here
  ·exact yB (v:=yM 4) (j:=3) hx hy eG bh rfl .here
 ·rw [decide_eq_false h]
  have e1:lF1 k= .nilFunc:=if_neg h
  have e2:lF2 k= .nilFunc:=if_neg h
  have e3:lD k=0:=if_neg h
  rw [e1,e2,e3]
  refine DS (es:=Ex) (c:=4) hx hy eG bh Gb ?_ .here
  have n1:(k==1)=false:=by simp only [beq_eq_false_iff_ne];omega
  have n2:(k==2)=false:=by simp only [beq_eq_false_iff_ne];omega
  have n3:(k==3)=false:=by simp only [beq_eq_false_iff_ne];omega
  have n4:(k==4)=false:=by simp only [beq_eq_false_iff_ne];omega
  simp [Instr.findNow,Instr.sameNow,Ex,n1,n2,n3,n4]
theorem Cf(k:Int):∀args w,(callFunc (zD k) args).run Tryz.prog w= .ok (.enter (zD k) args) w:=by
 unfold zD
 split
 ·exact Tryz.call237
 ·split
  ·exact Tryz.call240
  ·split
   ·exact Tryz.call242
   ·exact Tryz.call245
theorem B1(k:Int):∀args w,(callFunc (zu k) args).run Tryz.prog w= .ok (.enter (zu k) args) w:=by
 unfold zu
 split
 ·exact Tryz.call239
 ·split
  ·exact Tryz.call241
  ·split
   ·exact Tryz.call244
   ·exact Tryz.call246
theorem Ce{s:Spc}{q:Wht}{vst vwa:Value}(hs:St H w σ)(h1:RI H vst s.st)(h2:RI H vwa s.wa)(hk:1≤q.kind∧q.kind≤4):
  Cl Tryz.prog (zD q.kind) [.agg #[I q.kind,I q.st,I q.wa,I s.id,I s.src,vst,vwa,I s.al,I s.up]] w fun v w'=>∃b:Bool,v= .bool b∧(b=true↔fk s q)∧St H w' σ:=by
 unfold zD
 split
 ·exact wZ hs h2 cz
 ·split
  ·exact wY hs h2 cz
  ·split
   ·exact wX hs h1 cz
   ·exact wW hs h1 h2 ak
theorem B0{s:Spc}{q:Wht}{vst vwa:Value}{i k:Nat}{u:Int}(hs:St H w σ)(h1:RI H vst s.st)(h2:RI H vwa s.wa)(hok:fl s)(hq:fk s q)(hk:1≤q.kind∧q.kind≤4)(hi:i<s.st.length)(hkw:k<s.wa.length):
  Cl Tryz.prog (zu q.kind) [.agg #[I q.kind,I q.st,I q.wa,I s.id,I s.src,vst,vwa,I s.al,I s.up],.agg #[I (i:Int),I (k:Int),I u]] w fun v w'=>∃H1,HLe H H1∧v=I (jG s q i k)∧St H1 w' σ:=by
 unfold zu
 split
 ·exact rC hs h1 h2 hok hq cz hi
 ·split
  ·exact sC hs h1 hok cz hi
  ·split
   ·exact qy hs h2 hok cz hkw
   ·exact rA hs ak
theorem Fc{q:Wht}(h:1≤q.kind∧q.kind≤4):lD q.kind=my q:=by
 unfold lD;rw [if_pos h];rfl
theorem BY{s:Spc}{q:Wht}(h:fk s q):1≤q.kind∧q.kind≤4:=by
 rcases mS.1 h with h|h|h|h<;>omega
set_option maxHeartbeats 1000000 in
theorem jX{s:Spc}{q:Wht}{vst vwa:Value}(hs:St H w σ)(h1:RI H vst s.st)(h2:RI H vwa s.wa)(hok:fl s):
  Cl Tryz.prog 102 [.agg #[I s.id,I s.src,vst,vwa,I s.al,I s.up],.agg #[I q.kind,I q.st,I q.wa]] w fun u w'=>∃H1 vl L d b en,HLe H H1∧u= .tuple #[vl,I d,.bool b]∧cf 1 vl (Is L) en∧((b=true∧fk s q∧L=jT s q∧d=my q)∨(b=false∧¬fk s q∧L=[]∧d=0))∧St H1 w' (en::σ):=by
 have hsm:=dW hok
 obtain ⟨ast,cst,rfl⟩:=RI.shape h1
 obtain ⟨awa,cwa,rfl⟩:=RI.shape h2
 refine Cl.o Tryz.func102 Tryz.ntmps102 ag2 ?_
 refine .aj ?_
 refine .bx hs fun b2 w hs=>?_
 refine .bx hs fun b3 w hs=>?_
 refine .z zg (.z zg (.z zg (.nil ?_)))
 refine .cut (fun fs w=>∃b7,kg fs ⟨46,[],[(8,.bool (decide (1≤q.kind∧q.kind≤4))),(7,.pointer (some ⟨b7,0,none⟩)),(2,.pointer (some ⟨b2,0,none⟩)),(3,.pointer (some ⟨b3,0,none⟩))]⟩∧St H w (.blk b7 [lF1 q.kind,lF2 q.kind,I (lD q.kind)]:: .blk b3 [I q.kind,I q.st,I q.wa]:: .blk b2 [I s.id,I s.src,(.slice ast s.st.length cst),(.slice awa s.wa.length cwa),I s.al,I s.up]::σ)) ?_ ?_
 ·refine .draw mix rfl hs fun w hs=>?_
  refine .z 1 rfl (zfa kc) ?_;refine .y 2 rfl hs af ?_
  refine .e2 (i:=0) (j:=7) au rfl rfl rfl rfl .none .none hs ?_ ?_
  ·refine .call Tryz.call189 rfl (kR hs) ?_;rintro _ w ⟨b13,rfl,hs⟩
   refine .go ?_
   refine .q (i:=3) [.obj b13 (.map Ex.toArray 4)] rfl au .none (AP (H:= .bot) q.kind rfl rfl) ?_
   refine .z 4 rfl zm ?_;refine .z 5 rfl zex ?_;refine .z 6 rfl zex ?_
   refine .E 7 hs ?_
   refine .alloc hs Gb rfl ?_;intro b7 w hs
   refine .go ?_
   refine .E 8 hs ?_
   refine .aZ (vs:=[lF1 q.kind,lF2 q.kind,I (lD q.kind)]) hs rfl rfl Tryz.sizeOf231 ?_ (hv:=yL _);intro w hs
   refine .go ?_
   refine .z 9 rfl zg ?_;refine .D hs ?_
   exact nT ⟨b7,aR,hs.sb⟩
  ·refine .alloc hs Gb rfl ?_;intro b7 w hs
   refine .go ?_
   refine .E 0 hs ?_
   refine .call Tryz.call189 rfl (kR hs) ?_;rintro _ w ⟨b13,rfl,hs⟩
   refine .go ?_
   refine .q (i:=3) [.obj b13 (.map Ex.toArray 4)] rfl au .none (AP (H:= .bot) q.kind rfl rfl) ?_
   refine .z 4 rfl zm ?_;refine .z 5 rfl zex ?_;refine .z 6 rfl zex ?_
   refine .E 8 hs ?_
   refine .aZ (vs:=[lF1 q.kind,lF2 q.kind,I (lD q.kind)]) hs rfl rfl Tryz.sizeOf231 ?_ (hv:=yL _);intro w hs
   refine .go ?_
   refine .z 9 rfl zg ?_;refine .D hs ?_
   exact nT ⟨b7,aR,hs.sb⟩
 ·rintro fs w ⟨b7,hfs,hs⟩
  refine WE.sub ?_ hfs
  refine .aj (.y hs (zls [_,_,_] cJ bA) (.y hs (zls [_,_,_,_,_,_] aH aC) (.z (zbd (vs:=[(0,.agg #[I q.kind,I q.st,I q.wa]),(1,.agg #[I s.id,I s.src,(.slice ast s.st.length cst),(.slice awa s.wa.length cwa),I s.al,I s.up])]) [I q.kind,I q.st,I q.wa,I s.id,I s.src,(.slice ast s.st.length cst),(.slice awa s.wa.length cwa),I s.al,I s.up] rY rfl au) ?_)))
  refine .o (.alloc hs Tryz.zeroValue236 rfl fun b9 w hs=>?_)
  refine .o (.aZ (vs:=[_,_,_,_,_,_,_,_,_]) hs rfl rfl kH fun w hs=>?_)
  refine .nil (.seq (.aj (.z zm (.z gV (.z zm ?_)))))
  refine .bif (t':=24) rfl (fun hb24=>?_) (fun hb24=>?_)
  ·refine .gFs 5 2 false rfl rfl rfl ?_
   refine .z zpT (.nil ?_)
   refine (.cT ?_)
   refine .aj (.z zg (.z zg (.z zg (.nil ?_))))
   refine .ret (rT (?_))
   have hn:¬fk s q:=fun h=>by have:=BY h;simp [this] at hb24
   exact Fin.iA [] [] hs fun w hs=>⟨_,results3 Tryz.results102 rfl rfl rfl,H,_,[],_,_,.nul,HLe.refl H,rfl,.nil 1 none,.inr ⟨rfl,hn,rfl,rfl⟩,hs.out.nul⟩
  ·refine .gT rfl rfl ?_
   have hk:1≤q.kind∧q.kind≤4:=by simpa using hb24
   rw [show lF1 q.kind= .func (.func (zD q.kind)) #[] #[] from if_pos hk,show lF2 q.kind= .func (.func (zu q.kind)) #[] #[] from if_pos hk,Fc hk] at hs
   refine .z (zfa qY) ?_
   refine .gT rfl rfl ?_
   refine .y hs (zld Tryz.isAgg228) ?_
   refine .gT rfl rfl ?_
   refine .y hs (zls [_,_,_,_,_,_,_,_,_] qt kH) ?_
   refine .gT rfl rfl ?_
   refine .o (.o8 (first:=[]) (cap:=[]) rfl rfl (Cf q.kind) (Ce (s:=s) hs h1 h2 hk) ?_);rintro _ w ⟨b28,rfl,hb28,hs⟩
   refine .gT rfl rfl ?_
   refine .z gV (.z zpF (.nil ?_))
   refine (.cond rfl (fun hc30=>?_) (fun hc30=>?_))
   ·refine .aj (.z zg (.z zg (.z zg (.nil ?_))))
    refine .ret (rT (?_))
    have hn:¬fk s q:=fun h=>by rw [hb28.2 h] at hc30;cases hc30
    exact Fin.iA [] [] hs fun w hs=>⟨_,results3 Tryz.results102 rfl rfl rfl,H,_,[],_,_,.nul,HLe.refl H,rfl,.nil 1 none,.inr ⟨rfl,hn,rfl,rfl⟩,hs.out.nul⟩
   ·refine .skip ?_
    refine nT ?_
    refine .aj ?_
    refine .o (.buildSlice (cells:=[_]) hs cQ rfl rfl fun b31 w hs=>?_)
    refine .o (.alloc hs dV rfl fun b10 w hs=>?_)
    refine .o (.store hs rfl rfl az fun w hs=>?_)
    refine .nil (.seq (.aj (.y hs (zls [_,_,_,_,_,_] aH aC) ?_)))
    have hq:fk s q:=hb28.1 (by simpa using hc30)
    refine .o (.call Ag rfl (fp (s:=s) hs h1 h2 ⟨ak,ak⟩) ?_);rintro _ w ⟨H1,ba,hle1,rfl,hit,hs⟩
    have hwl:=eJ s q
    refine .nil (.block ?_)
    refine .rangeFunc (gf:=190) (cap:=[.pointer (some ⟨ba,0,none⟩)]) (xs:=uQ s) (σb:=[.blk b10 [.slice (some ⟨b31,0,none⟩) 1 1],.blk b31 (Is [0]),.blk b7 [.func (.func (zD q.kind)) #[] #[],.func (.func (zu q.kind)) #[] #[],I (my q)],.blk b9 [I q.kind,I q.st,I q.wa,I s.id,I s.src,(.slice ast s.st.length cst),(.slice awa s.wa.length cwa),I s.al,I s.up]]) (σf:=σ) (hs.sb) trivial rfl hit Af (fun x hx=>by
      simp only [uQ,List.mem_map] at hx
      obtain ⟨j,_,rfl⟩:=hx;rfl) rfl
     (I:=fun p H' σb=>∃vo en,σb=[.blk b10 [vo],en,.blk b7 [.func (.func (zD q.kind)) #[] #[],.func (.func (zu q.kind)) #[] #[],I (my q)],.blk b9 [I q.kind,I q.st,I q.wa,I s.id,I s.src,(.slice ast s.st.length cst),(.slice awa s.wa.length cwa),I s.al,I s.up]]∧cf 1 vo (Is ((jT s q).take (p+1))) en) (Ix:=fun _ _ _=>False)
     (fun j _ _ σ g1 g2=>g2) (fun _ _ _ _ _ h=>h) ⟨_,_,rfl,.full rfl⟩ ?_ ?_ (fun D c H' σb w _ h _=>h.elim)
    ·rintro ly p hp H2 σb2 σf2 w hle2 ⟨vo,en,rfl,hO⟩ hs ⟨rr,hrr⟩
     have hpm:p<s.many:=by rw [ea] at hp;exact hp
     have hin:p/s.wa.length<s.st.length:=Nat.div_lt_of_lt_mul (by rw [Nat.mul_comm];exact hpm)
     have hkm:=Nat.mod_lt p hsm.2.2.1
     have hws:=sB s q hpm
     have hget:(jT s q)[p+1]? =some (jG s q (p/s.wa.length) (p%s.wa.length)):=by rw [←hws];exact bn ak
     rw [mg hp]
     obtain ⟨al,ll,cl,rfl,hll⟩:=hO.shape
     generalize p/s.wa.length=i at*
     generalize p%s.wa.length=k at*
     refine .region ?_
     refine .o (.alloc hs kh rfl fun b11 w hs=>?_)
     refine .o (.aZ (vs:=[_,_,_]) hs rfl rfl ou fun w hs=>?_)
     refine .nil ?_
     refine nT ?_
     refine ⟨H2,[.blk b11 [I (i:Int),I (k:Int),I ((p+1:Nat):Int)],.blk b10 [Value.slice al ll cl],en,.blk b7 [.func (.func (zD q.kind)) #[] #[],.func (.func (zu q.kind)) #[] #[],I (my q)],.blk b9 [I q.kind,I q.st,I q.wa,I s.id,I s.src,(.slice ast s.st.length cst),(.slice awa s.wa.length cwa),I s.al,I s.up]],HLe.refl _,hs,?_⟩;rintro w σf4 - hs
     refine .block ?_
     refine .draw mix rfl hs fun w hs=>?_
     refine .y 0 rfl hs an ?_;refine .z 1 rfl (zfa qX) ?_
     refine .y 2 rfl hs Tryz.isAgg229 ?_
     refine .ys 3 rfl hs [_,_,_,_,_,_,_,_,_] qt kH ?_;refine .ys 4 rfl hs [_,_,_] Tryz.isAgg158 ou ?_
     refine .E 5 hs ?_
     refine .o8 (first:=[]) (cap:=[]) rfl rfl (B1 q.kind) (B0 (s:=s) (q:=q) (i:=i) (k:=k) hs (h1.mono (hle1.trans hle2)) (h2.mono (hle1.trans hle2)) hok hq hk hin hkm) ?_;rintro _ w ⟨H3,hle3,rfl,hs⟩
     refine .go ?_
     refine .E 6 hs ?_
     refine .buildSlice (cells:=[_]) hs cQ rfl rfl ?_;intro b41 w hs
     refine .go ?_
     refine .E 7 hs ?_
     refine .append (ys:=Is [jG s q i k]) hs bZ rfl rfl hO (.own .here rfl rfl) (gU _) (fun l h=>by simp at h;omega) ?_;intro v42 en42 w hO2 hs
     rw [show Is ((jT s q).take (p+1))++Is [jG s q i k]=Is ((jT s q).take (p+1+1)) by rw [dh hget];simp [Is]] at hO2
     obtain ⟨a42,l42,c42,rfl,h42⟩:=hO2.shape
     refine .go ?_
     refine .E 8 hs ?_
     refine .store hs rfl rfl az ?_;intro w hs
     refine .go ?_
     refine .D hs ?_
     refine nB ?_
     exact ⟨H3,[.blk b10 [.slice a42 l42 c42],en42,.blk b7 [.func (.func (zD q.kind)) #[] #[],.func (.func (zu q.kind)) #[] #[],I (my q)],.blk b9 [I q.kind,I q.st,I q.wa,I s.id,I s.src,(.slice ast s.st.length cst),(.slice awa s.wa.length cwa),I s.al,I s.up]],hle3,(hs.sb:St H3 w (.blk b10 _::en42:: .blk b7 _:: .blk b9 _::σf4)),_,_,rfl,hO2⟩
    ·rintro D H2 σb2 w hle2 ⟨vo,en,rfl,hO⟩ hs
     rw [ea,←hwl,List.take_length] at hO
     replace hs:St H2 w (.obj D (.deferred (some [])):: .blk b10 [vo]::en:: .blk b7 [.func (.func (zD q.kind)) #[] #[],.func (.func (zu q.kind)) #[] #[],I (my q)]:: .blk b9 [I q.kind,I q.st,I q.wa,I s.id,I s.src,(.slice ast s.st.length cst),(.slice awa s.wa.length cwa),I s.al,I s.up]::σ):=hs
     obtain ⟨al,ll,cl,rfl,hll⟩:=hO.shape
     refine nB (nT ?_)
     refine .seq (.draw mix rfl hs fun w hs=>?_)
     refine .y 0 rfl hs an ?_;refine .z 1 rfl (zfa qW) ?_;refine .y 2 rfl hs af ?_;refine .z 3 rfl zg ?_;refine .z 4 rfl zg ?_;refine .z 5 rfl zg ?_;refine .D hs ?_
     refine .ret ?_
     exact Fin.iA [D] [] hs fun w hs=>⟨_,results3 Tryz.results102 rfl rfl rfl,H2,_,_,_,_,en,hle1.trans hle2,rfl,hO,.inl ⟨rfl,hq,rfl,rfl⟩,hs.sb⟩
end Go.Proofs.YtddaejgfjlneoaaGreat
