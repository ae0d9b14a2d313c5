/-
  Texts of these claims, joined: Ye Yf Yq Za Zb Zc Zd Ze Zf Zg Zh Zi Zj Zk Zl Zm.
-/
import Derived.Test.YtddaejgfjlneoaaGreatDc
namespace Go.Proofs.YtddaejgfjlneoaaGreat
open Go.MW
variable{H:cE}{w:World}{σ:List Ent}
theorem ox{v:Value}{en:Ent}{xs:List Int}{g:Nat}{cap:List Value}(q:Int→Bool)(hs:St H w (en::σ))(hO:cz 1 v (Is xs) en)(hl:xs.length≤17592186044416)(hc:∀args w,(callFunc g args).run Tryz.prog w= .ok (.enter g args) w)
  (hp:∀H' w σ (n:Int),n∈xs→HLe H H'→St H' w σ→Cl Tryz.prog g ([I n]++cap) w fun u w'=>∃H1,HLe H' H1∧u= .bool (q n)∧St H1 w' σ):
  Cl Tryz.prog 206 [v,.func (.func g) #[] cap.toArray] w fun u w'=>∃H1 i,HLe H H1∧u=I i∧((i= -1∧∀x∈xs,q x=false)∨(∃(k:Nat) (x:Int),i=k∧xs[k]? =some x∧q x=true∧∀j<k,∀y,xs[j]? =some y→q y=false))∧St H1 w' (en::σ):=by
 obtain ⟨a,c,rfl⟩:=hO.kL
 refine Cl.o Tryz.func206 Tryz.ntmps206 ag2 ?_
 refine .aj (.z zg (.nil (.seq (.aj (.z zm (.z (cN ae) (.z zm (.nil ?_))))))))
 refine .for (N:=xs.length) (J:=fun k fr w=>fr=[(1,.func (.func g) #[] cap.toArray),(0,.slice a xs.length c)]∧∃H1,HLe H H1∧(∀j<k,∀y,xs[j]? =some y→q y=false)∧St H1 w (en::σ)) ak ?_ ?_ ?_
 ·exact .mk ⟨rfl,H,HLe.refl H,fun j hj=>by omega,hs⟩
 ·rintro k fr w hk ⟨rfl,H1,hle1,hno,hs⟩
  have hx:=bE hk
  obtain ⟨b,c',sp,hv,rfl,_⟩:=hO.blk ak
  cases hv
  refine .block (.aj (.z zm (.z zg (.nil (.aj (.z zm (.z zm (.z zm (.z (zix ae ai) ?_)))))))))
  refine .q hs (ed rfl af (hv:=fI hk sp)) ?_
  refine .o (.pH (first:=[]) (cap:=cap) rfl rfl hc (hp _ _ _ (gi xs k) (List.mem_of_getElem? hx) hle1 hs) ?_);rintro _ w ⟨H2,hle2,rfl,hs⟩
  refine .nil ?_
  refine (.cond rfl (fun hc16=>?_) (fun hc16=>?_))
  ·refine .aj (.z zm (.z zg (.nil ?_)))
   refine .ret (rB (rT (rB (rT (Fin.bK sW rfl ?_)))))
   exact ⟨H2,_,hle1.trans hle2,rfl,.inr ⟨k,_,rfl,hx,hc16,hno⟩,hs⟩
  ·refine .skip ?_
   refine nB (nT ?_)
   exact .mk ⟨rfl,H2,hle1.trans hle2,fl hno hx hc16,hs⟩
 ·rintro fr w ⟨rfl,H1,hle1,hno,hs⟩
  refine nT ?_
  refine .aj (.z zg (.nil ?_))
  refine .ret (Fin.bK sW rfl ?_)
  exact ⟨H1,_,hle1,rfl,.inl ⟨rfl,fun x hx=>by
   obtain ⟨j,hj⟩:=List.getElem?_of_mem hx
   exact hno j (List.getElem?_eq_some_iff.1 hj).1 x hj⟩,hs⟩
set_option maxHeartbeats 1000000 in
theorem mT{v:Value}{en:Ent}{xs:List Int}{g:Nat}{cap:List Value}(q:Int→Bool)(hs:St H w (en::σ))(hO:cz 1 v (Is xs) en)(hl:xs.length≤17592186044416)(hc:∀args w,(callFunc g args).run Tryz.prog w= .ok (.enter g args) w)
  (hp:∀H' w σ (n:Int),n∈xs→HLe H H'→St H' w σ→Cl Tryz.prog g ([I n]++cap) w fun u w'=>∃H1,HLe H' H1∧u= .bool (q n)∧St H1 w' σ):
  Cl Tryz.prog 150 [v,.func (.func g) #[] cap.toArray] w fun u w'=>∃H1 en',HLe H H1∧cz 1 u (Is (xs.filter fun x=> !q x)) en'∧St H1 w' (en'::σ):=by
 obtain ⟨a,c,rfl⟩:=hO.kL
 refine Cl.o Tryz.func150 Tryz.ntmps150 ag2 ?_
 refine .aj (.z zg (.nil (.aj (.z zm (.z zm ?_)))))
 refine .o (.call Tryz.call206 rfl (ox q hs hO hl hc hp) ?_);rintro _ w ⟨H1,i0,hle1,rfl,hcase,hs⟩
 refine .z zg (.nil (.seq (.aj (.z zm (.z fw (.nil ?_))))))
 refine (.bJ rfl (fun hc12=>?_) (fun hc12=>?_))
 ·refine .aj (.z zm (.z zg (.nil ?_)))
  refine .ret (rT (Fin.bK Tryz.results150 rfl ?_))
  have hno:∀x∈xs,q x=false:=by
   rcases hcase with ⟨_,h⟩|⟨k,x,h,_⟩
   ·exact h
   ·omega
  have e:xs.filter (fun x=> !q x)=xs:=List.filter_eq_self.2 fun x hx=>by simp [hno x hx]
  exact ⟨H1,en,hle1,by rw [e];exact hO,hs⟩
 ·refine .skip ?_
  refine nT ?_
  refine .seq (.aj (.z zm ?_))
  obtain ⟨k0,x0,rfl,hx0,hq0,hno⟩:∃(k:Nat) (x:Int),i0=k∧xs[k]? =some x∧q x=true∧∀j<k,∀y,xs[j]? =some y→q y=false:=hcase.resolve_left fun h=>hc12 h.1
  have hk0:=(List.getElem?_eq_some_iff.1 hx0).1
  obtain ⟨b,c',sp,hv,rfl,hc'⟩:=hO.blk ak
  cases hv
  refine .z cH (.z zg (.nil (.block ?_)))
  refine .loop (fun p:Nat×Nat=>⟨42,[],[(5,I (p.1:Int)),(6,I (p.2:Int)),(1,.func (.func g) #[] cap.toArray),(0,.slice (some ⟨b,0,none⟩) xs.length c)]⟩)
   (fun p w=>k0<p.2∧∃Y H1,HLe H H1∧zr q xs Y p.1 p.2∧St H1 w (.blk b (Is Y++sp)::σ))
   (fun p=>xs.length - p.2) (k0,k0+1) (.cons rfl (.cn rfl (by dsimp only;omega) a8))
   ⟨by dsimp only;omega,xs,H1,hle1,.start hx0 hq0 hno,hs⟩ ?_
  clear hs hle1 hcase
  rintro ⟨i,j⟩ w ⟨hkj,Y,H1,hle1,hD,hs⟩
  dsimp only at hkj hD ⊢
  have hYl:=hD.len
  have hij:=hD.le
  have hjl:=hD.jl
  have hilt:=hD.lt hx0 hq0 hkj
  refine .seq (.aj (.z zm (.z zm (.z (cN ae) (.z fD (.nil ?_))))))
  refine (.bJ rfl (fun hc19=>?_) (fun hc19=>?_))
  ·refine .skip ?_
   refine nT ?_
   refine .seq (.block (.aj (.z zm (.z zm ?_))))
   have hj:j<Y.length:=by omega
   have hx:xs[j]? =some (gi Y j):=by rw [hD.rest j (Nat.le_refl _)];exact bE ak
   refine .z (zix ae ai) ?_
   refine .q hs (ed rfl af (hv:=fI hj sp)) ?_
   refine .z zg (.nil (.aj (.z zm (.z zm ?_))))
   refine .o (.pH (first:=[]) (cap:=cap) rfl rfl hc (hp _ _ _ (gi Y j) (List.mem_of_getElem? hx) hle1 hs) ?_);rintro _ w ⟨H2,hle2,rfl,hs⟩
   refine .z iD (.nil ?_)
   refine (.cond rfl (fun hc29=>?_) (fun hc29=>?_))
   ·refine .aj (.z zm (.z zm (.z zm (.z (zix ae ai) ?_))))
    refine .o (.store hs rfl rfl ai ?_ .here (j9 (show i<Y.length by omega) sp) (iR (show i<Y.length by omega) sp _));intro w hs
    refine .nil (.region (.z zm (.z cH (.z zg (.nil ?_)))))
    refine nB (nT ?_)
    refine .region (.z zm (.z cH (.z zg (.nil ?_))))
    refine nT ?_
    exact ⟨(i+1,j+1),.cn rfl (by dsimp only;omega) (.cn rfl (by dsimp only;omega) a8),⟨by dsimp only;omega,_,H2,hle1.trans hle2,hD.keep hx (by simpa using hc29),hs⟩,by dsimp only;omega⟩
   ·refine .skip ?_
    refine nB (nT ?_)
    refine .region (.z zm (.z cH (.z zg (.nil ?_))))
    refine nT ?_
    exact ⟨(i,j+1),.cons rfl (.cn rfl (by dsimp only;omega) a8),⟨by dsimp only;omega,_,H2,hle1.trans hle2,hD.skip hx (by simpa using hc29),hs⟩,by dsimp only;omega⟩
  ·refine .exit ?_
   refine xT (xT (xB (nT ?_)))
   refine .aj (.z zm (.z zm ?_))
   obtain rfl:xs.length=j:=by omega
   refine .q hs (xD (k:=i) rfl rfl ae ai ak ak) ?_
   rw [show 0+i*1=i by omega]
   refine .o (.Gm (c:=Is Y++sp) hs rfl ae bO (by simp;omega) ?_);intro w hs
   rw [hD.done sp] at hs
   have hil:=hD.il
   rw [List.take_length] at hil
   refine .nil (.aj (.z zm (.z zm ?_)))
   refine .q hs (ud (k:=i) rfl rfl ae ai ak) ?_
   refine .z zg (.nil ?_)
   refine .ret (Fin.bK Tryz.results150 rfl ?_)
   exact ⟨H1,_,hle1,.inr ⟨b,i,c,List.replicate (xs.length - i) (I 0)++sp,rfl,rfl,by simp [hil],by simp [←hil];omega,ak⟩,hs⟩
def vg(L:List Int):List (List Value):=(List.range L.length).map fun j=>[I ((L.length - 1 - j:Nat):Int),I (gi L (L.length - 1 - j))]
theorem lE(L:List Int):(vg L).length=L.length:=by simp [vg]
theorem yr{L:List Int}{j:Nat}(h:j<(vg L).length):(vg L)[j]=[I ((L.length - 1 - j:Nat):Int),I (gi L (L.length - 1 - j))]:=by simp [vg]
theorem mV{H:cE}{b:Nat}{v:Value}{L:List Int}(hb:Row H b [v])(hr:RI H v L):Iter Tryz.prog 231 [.pointer (some ⟨b,0,none⟩)] H (vg L):=by
 intro l II Ix _ _ hy H0 σb0 σf w hle hI0 hs
 obtain ⟨a,c,rfl⟩:=RI.shape hr
 have hlen:=(RI.len hr).2.2
 have hb0:cellAt H0 b 0=some (.slice a L.length c):=cellAt.mono (hb.at 0) hle
 refine Cl.o Tryz.func231 Tryz.ntmps231 ag2 ?_
 refine .aj (.y hs (zld an) (.z (cN ae) (.z gO (.z zg (.nil (.block ?_))))))
 refine .loop (fun j:Nat=>⟨19,[],[(3,I ((L.length:Int) - 1 - (j:Int))),(0,.func (.yield l) #[] #[]),(1,.pointer (some ⟨b,0,none⟩))]⟩)
  (fun j w=>j≤L.length∧∃H1 σb,HLe H H1∧HLe H0 H1∧II j H1 σb∧St H1 w (σb++σf)) (fun j=>L.length - j) 0 (.cn rfl bQ a8)
  ⟨Nat.zero_le _,H0,σb0,hle,HLe.refl _,hI0,hs⟩ ?_
 clear hs hI0
 rintro j w ⟨hj,H1,σb,hle1,hle0,hI,hs⟩
 have hb1:cellAt H1 b 0=some (.slice a L.length c):=cellAt.mono hb0 hle0
 refine .seq (.aj (.z zm (.z yA (.nil ?_))))
 refine (.bJ rfl (fun hc8=>?_) (fun hc8=>?_))
 ·refine .skip ?_
  refine nT ?_
  refine .seq (.block (.aj (.z zm (.z zm (.y hs (zld an) (.z zm ?_))))))
  refine .ixY hs (hr.mono hle1) rfl rfl ae ai (bE (l:=L) (i:=L.length - 1 - j) ak) ak ?_;intro b15 o15 hc15
  refine .q hs (aO rfl af hc15) ?_
  have hk':j<(vg L).length:=by rw [lE];omega
  have hyd:=hy j hk' H1 σb σf w hle1 hI hs
  rw [yr hk',show ((L.length - 1 - j:Nat):Int)=(L.length:Int) - 1 - (j:Int) by omega] at hyd
  refine .o (.yield rfl rfl hyd ?_);rintro v17 w ⟨H2,σ2,g1,hs,g3⟩
  obtain ⟨bb,rfl,gT,gF⟩:=oZ g3
  refine .z iD (.nil ?_)
  refine (.cond rfl (fun hc18=>?_) (fun hc18=>?_))
  ·refine .ret (rB (rT (rT (rB (Fin.FQ Tryz.results231 ?_)))))
   exact ⟨H2,σ2,hle0.trans g1,hs,.inr (gF (by simpa using hc18))⟩
  ·refine .skip ?_
   refine nB (nT ?_)
   refine .region (.z zm (.z gO (.z zg (.nil ?_))))
   refine nT ?_
   exact ⟨j+1,.cn rfl (by simp;omega) a8,⟨ak,H2,σ2,hle1.trans g1,hle0.trans g1,gT (by simpa using hc18),hs⟩,ak⟩
 ·refine .exit ?_
  refine xT (xT (xB ?_))
  obtain rfl:L.length=j:=by omega
  exact Fin.yB Tryz.results231 ⟨H1,σb,hle0,hs,.inl (by rw [lE];exact hI)⟩
theorem oy{v:Value}{L:List Int}(hs:St H w σ)(hr:RI H v L):
  Cl Tryz.prog 180 [v] w fun u w'=>∃H1 b,HLe H H1∧u= .func (.func 231) #[] #[.pointer (some ⟨b,0,none⟩)]∧Iter Tryz.prog 231 [.pointer (some ⟨b,0,none⟩)] H1 (vg L)∧St H1 w' σ:=by
 obtain ⟨a,c,rfl⟩:=RI.shape hr
 refine Cl.o Tryz.func180 Tryz.ntmps180 ag1 ?_
 refine .aj ?_
 refine .bx hs fun b1 w hs=>?_
 refine .z zg (.nil (.aj ?_))
 refine .q hs (dX (f:=[]) (c:=[_]) rfl rfl) ?_
 refine .z zg (.nil ?_)
 refine .ret (Fin.bK Tryz.results180 rfl ?_)
 obtain ⟨H1,g1,g2,hs⟩:=hs.cO .here
 exact ⟨H1,b1,g1,rfl,mV g2 (hr.mono g1),hs⟩
theorem sQ{n m:Int}{b:Nat}(hs:St H w σ)(hb:Row H b [I m]):
  Cl Tryz.prog 181 [I n,.pointer (some ⟨b,0,none⟩)] w fun u w'=>u= .bool (decide (n=m))∧St H w' σ:=by
 have hb0:cellAt H b 0=some (I m):=hb.at 0
 refine Cl.o Tryz.func181 Tryz.ntmps181 ag2 ?_
 refine .aj (.z zg (.nil (.aj (.z zm (.y hs (zld af) (.z fw (.z zg (.nil ?_))))))))
 refine .ret (Fin.bK Tryz.results181 rfl ?_)
 exact ⟨rfl,hs⟩
set_option maxHeartbeats 1000000 in
theorem pJ{v:Value}{s:dj}(hs:St H w σ)(hr:RSy H v s):
  Cl Tryz.prog 98 [v] w fun u w'=>∃H1 vx out e,HLe H H1∧u= .tuple #[vx,I e]∧RI H1 vx out∧xi s out e∧St H1 w' σ:=by
 obtain ⟨ul,rfl,hl⟩:=hr
 obtain ⟨al,cl,rfl⟩:=RL.shape hl
 refine Cl.o Tryz.func98 Tryz.ntmps98 ag1 ?_
 refine .aj ?_
 refine .bx hs fun b1 w hs=>?_
 refine .z zg (.z zg (.nil (.seq (.aj (.y hs (zls [_,_] bp aM) ?_)))))
 refine .o (.call Tryz.call125 rfl (iW (s:=s) hs ⟨_,rfl,hl⟩) ?_);rintro _ w ⟨rfl,hs⟩
 refine .z zg (.nil (.aj (.z zm (.z gP (.nil ?_)))))
 refine (.eI rfl (fun hc12=>?_) (fun hc12=>?_))
 ·refine .aj (.z zm (.z zg (.z zg (.nil ?_))))
  refine .ret (rT (?_))
  exact Fin.gR [] [] hs fun w hs=>⟨_,results2 Tryz.results98 rfl rfl,H,_,[],_,HLe.refl H,rfl,RS.nil H 1 none 0,.bad hc12,hs.out⟩
 ·refine .skip ?_
  refine nT ?_
  refine .seq (.aj (.y hs (zls [_,_] bp aM) ?_))
  have hok:s.Ok:=s.cD.1 (by simpa using hc12)
  have hll:=hok.len
  refine .o (.call Tryz.call133 rfl (ju (s:=s) hs hok ⟨_,rfl,hl⟩) ?_);rintro _ w ⟨H1,bb,hle1,rfl,hbb,hs⟩
  refine .nil ?_
  refine (.cond rfl (fun hc15=>?_) (fun hc15=>?_))
  ·refine .aj (.z zg (.z zg (.nil ?_)))
   refine .ret (rT (?_))
   exact Fin.gR [] [] hs fun w hs=>⟨_,results2 Tryz.results98 rfl rfl,H1,_,[],_,hle1,rfl,RS.nil H1 1 none 0,.none hok (hbb.1 hc15),hs.out⟩
  ·refine .skip ?_
   refine nT ?_
   refine .aj (.y hs (zls [_,_] bp aM) ?_)
   have hns:¬s.Sound:=fun h=>by rw [hbb.2 h] at hc15;cases hc15
   refine .o (.call Tryz.call129 rfl (lC (s:=s) hs ⟨_,rfl,hl.mono hle1⟩ ak) ?_);rintro v17 w ⟨L,en,hO,hLl,hRise,hs⟩
   obtain ⟨a17,l17,c17,rfl,h17⟩:=hO.shape
   refine .o (.alloc hs dV rfl fun b5 w hs=>?_)
   refine .o (.store hs rfl rfl aC fun w hs=>?_)
   refine .nil (.seq (.aj (.y hs (zls [_,_] bp aM) ?_)))
   refine .o (.call Tryz.call129 rfl (lC (s:=s) hs ⟨_,rfl,hl.mono hle1⟩ ak) ?_);rintro v19 w ⟨L',en',hO',hLl',hRise',hs⟩
   obtain rfl:L=L':=hRise.uniq hRise'
   obtain ⟨H2,hle2,hR19,hs⟩:=cz.cK hO' ak hs .here
   refine .o (.call Tryz.call180 rfl (oy hs hR19) ?_);rintro _ w ⟨H3,b20,hle3,rfl,hit,hs⟩
   have hle03:=hle1.trans (hle2.trans hle3)
   refine .nil (.block ?_)
   refine .rangeFunc (gf:=231) (cap:=[.pointer (some ⟨b20,0,none⟩)]) (xs:=vg L) (σb:=[.blk b1 [I s.many,.slice al s.bU.length cl],.blk b5 [.slice a17 l17 c17],en]) (σf:=σ) (hs.sb:St H3 w (.blk b1 _:: .blk b5 _::en::σ)) trivial rfl hit Tryz.call231 (fun x hx=>by
     simp only [vg,List.mem_map] at hx
     obtain ⟨j,_,rfl⟩:=hx;rfl) rfl
    (I:=fun j H' σb=>∃(t:dj) (ut vo:Value) (out:List Int) (en:Ent),σb=[.blk b1 [I t.many,ut],.blk b5 [vo],en]∧RL H' ut t.bU∧cz 1 vo (Is out) en∧out.length≤L.length∧t.Ok∧mh s L (L.length - j) t out) (Ix:=fun _ _ _=>False)
    (fun j _ _ σ g1 ⟨t,ut,vo,out,en,g2,g3,g4⟩=>⟨t,ut,vo,out,en,g2,g3.mono g1,g4⟩) (fun _ _ _ _ _ h=>h)
    ⟨s,_,_,L,en,rfl,hl.mono hle03,hO,Nat.le_refl _,hok,.start⟩ ?_ ?_ (fun D c H' σb w _ h _=>h.elim)
   ·rintro l j hj H4 σb2 σf2 w hle4 ⟨t,ut,vo,out,en,rfl,hut,hOo,hol,htok,hC⟩ hs ⟨rr,hrr⟩
    rw [yr hj]
    have hjL:j<L.length:=by rw [lE] at hj;exact hj
    obtain ⟨at',ct,rfl⟩:=RL.shape hut
    obtain ⟨ao,lo,co,rfl,hlo⟩:=hOo.shape
    refine .region ?_
    refine .o (.alloc hs bO rfl fun b7 w hs=>?_)
    refine .o (.store hs rfl rfl ai fun w hs=>?_)
    refine .nil ?_
    refine nT ?_
    refine ⟨H4,[.blk b7 [I (gi L (L.length - 1 - j))],.blk b1 [I t.many,.slice at' t.bU.length ct],.blk b5 [.slice ao lo co],en],HLe.refl _,hs,?_⟩;rintro w σf4 - hs
    refine .block (.aj (.y hs (zls [_,_] bp aM) (.y hs (zld af) ?_)))
    refine .o (.buildSlice (cells:=[_]) hs bX rfl rfl fun b25 w hs=>?_)
    obtain ⟨H5,hle5,r25,hs⟩:=cz.cK (xs:=[gi L (L.length - 1 - j)]) (v:= .slice (some ⟨b25,0,none⟩) 1 1) (.full (len:=1) rfl) bQ hs cU
    refine .o (.call Tryz.call136 rfl (qK (s:=t) hs ⟨_,rfl,hut.mono hle5⟩ r25 (by have:=htok.len;omega)) ?_);rintro _ w ⟨H6,hle6,⟨u26,rfl,hL26⟩,hs⟩
    obtain ⟨a26,c26,rfl⟩:=RL.shape hL26
    refine .o (.alloc hs dd rfl fun b8 w hs=>?_)
    refine .o (.aZ (vs:=[_,_]) hs rfl rfl aM fun w hs=>?_)
    refine .nil (.aj (.y hs (zls [_,_] bp aM) ?_))
    refine .o (.call Tryz.call133 rfl (ju (s:=t.wo [gi L (L.length - 1 - j)]) hs (htok.wo _) ⟨_,rfl,hL26⟩) ?_);rintro _ w ⟨H7,b28,hle7,rfl,hb28,hs⟩
    have hle47:=hle5.trans (hle6.trans hle7)
    refine .z iD (.nil ?_)
    refine (.cond rfl (fun hc29=>?_) (fun hc29=>?_))
    ·refine .aj (.y hs (zls [_,_] bp aM) ?_)
     refine .o (.aZ (vs:=[_,_]) hs rfl rfl aM fun w hs=>?_)
     refine .nil (.region (.y hs (zld an) ?_))
     refine .q hs (dX (f:=[]) (c:=[_]) rfl rfl) ?_
     obtain ⟨H8,hle8,r7,hs⟩:=hs.cO (b:=b7) cU
     replace hs:St H8 w (en:: .blk b1 [I t.many,.slice a26 (t.wo [gi L (L.length - 1 - j)]).bU.length c26]:: .blk b5 [.slice ao lo co]::σf4):=hs.sb
     refine .o (.call Tryz.call150 rfl (mT (g:=181) (cap:=[.pointer (some ⟨b7,0,none⟩)]) (fun n=>decide (n=gi L (L.length - 1 - j))) hs hOo ak Tryz.call181
      (fun H' w σ n _ hle hs=>(sQ hs (r7.mono hle)).mono fun u w' ⟨g1,g2⟩=>⟨H',HLe.refl _,g1,g2⟩)) ?_);rintro v33 w ⟨H9,en9,hle9,hO9,hs⟩
     obtain ⟨a33,l33,c33,rfl,h33⟩:=hO9.shape
     refine .o (.store hs rfl rfl aC fun w hs=>?_)
     refine .nil ?_
     refine nB ?_
     have hfl:=List.length_filter_le (fun n=> !decide (n=gi L (L.length - 1 - j))) out
     have e:L.length - (j+1)=L.length - 1 - j:=by omega
     have hns':¬(t.wo [gi L (L.length - 1 - j)]).Sound:=fun h=>by rw [hb28.2 h] at hc29;cases hc29
     exact ⟨H9,[.blk b1 [I t.many,.slice a26 (t.wo [gi L (L.length - 1 - j)]).bU.length c26],.blk b5 [.slice a33 l33 c33],en9],hle47.trans (hle8.trans hle9),(hs.sb:St H9 w (.blk b1 _:: .blk b5 _::en9::σf4)),t.wo [gi L (L.length - 1 - j)],_,_,_,_,rfl,hL26.mono (hle7.trans (hle8.trans hle9)),hO9,ak,htok.wo _,by
      rw [e]
      exact .drop (by rw [show L.length - 1 - j+1=L.length - j by omega];exact hC) hns'⟩
    ·refine .skip ?_
     refine nB ?_
     have e:L.length - (j+1)=L.length - 1 - j:=by omega
     have hsd':(t.wo [gi L (L.length - 1 - j)]).Sound:=hb28.1 (by simpa using hc29)
     exact ⟨H7,[.blk b1 [I t.many,.slice at' t.bU.length ct],.blk b5 [.slice ao lo co],en],hle47,(hs.sb:St H7 w (.blk b1 _:: .blk b5 _::en::σf4)),t,_,_,_,_,rfl,hut.mono hle47,hOo,hol,htok,by
      rw [e]
      exact .keep (by rw [show L.length - 1 - j+1=L.length - j by omega];exact hC) hsd'⟩
   ·rintro D H4 σb2 w hle4 ⟨t,ut,vo,out,en,rfl,hut,hOo,hol,htok,hC⟩ hs
    rw [lE,Nat.sub_self] at hC
    obtain ⟨ao,lo,co,rfl,hlo⟩:=hOo.shape
    replace hs:St H4 w (.obj D (.deferred (some [])):: .blk b1 [I t.many,ut]:: .blk b5 [.slice ao lo co]::en::σ):=hs
    refine nB (nT ?_)
    refine .aj (.y hs (zld an) (.z zg (.z zg (.nil ?_))))
    refine .ret ?_
    obtain ⟨H5,hle5,hR5,hs⟩:=cz.cK hOo ak hs cU
    exact Fin.gR [D] [] hs fun w hs=>⟨_,results2 Tryz.results98 rfl rfl,H5,_,out,0,hle03.trans (hle4.trans hle5),rfl,hR5,.ok hok hns hRise hC,hs.out⟩
theorem mS{v:Value}{xs:List Int}{g:Nat}{cap:List Value}(q:Int→Prop)(hs:St H w σ)(hR:RI H v xs)(hc:∀args w,(callFunc g args).run Tryz.prog w= .ok (.enter g args) w)
  (hp:∀H' w σ (n:Int),n∈xs→HLe H H'→St H' w σ→Cl Tryz.prog g ([I n]++cap) w fun u w'=>∃H1 b,HLe H' H1∧u= .bool b∧(b=true↔q n)∧St H1 w' σ):
  Cl Tryz.prog 206 [v,.func (.func g) #[] cap.toArray] w fun u w'=>∃H1 i,HLe H H1∧u=I i∧(0≤i↔∃x∈xs,q x)∧St H1 w' σ:=by
 obtain ⟨a,c,rfl⟩:=RI.shape hR
 have hl:=(RI.len hR).2.2
 refine Cl.o Tryz.func206 Tryz.ntmps206 ag2 ?_
 refine .aj (.z zg (.nil (.seq (.aj (.z zm (.z (cN ae) (.z zm (.nil ?_))))))))
 refine .for (N:=xs.length) (J:=fun k fr w=>fr=[(1,.func (.func g) #[] cap.toArray),(0,.slice a xs.length c)]∧∃H1,HLe H H1∧(∀j<k,∀y,xs[j]? =some y→¬q y)∧St H1 w σ) ak ?_ ?_ ?_
 ·exact .mk ⟨rfl,H,HLe.refl H,fun j hj=>by omega,hs⟩
 ·rintro k fr w hk ⟨rfl,H1,hle1,hno,hs⟩
  obtain ⟨x,hx⟩:=nth hk
  refine .block (.aj (.z zm (.z zg (.nil (.aj (.z zm (.z zm (.z zm ?_))))))))
  refine .ixY hs (hR.mono hle1) rfl rfl ae ai hx rfl ?_;intro b14 o14 hc14
  refine .q hs (aO rfl af hc14) ?_
  refine .o (.pH (first:=[]) (cap:=cap) rfl rfl hc (hp _ _ _ x (List.mem_of_getElem? hx) hle1 hs) ?_);rintro _ w ⟨H2,b16,hle2,rfl,hb16,hs⟩
  refine .nil ?_
  refine (.cond rfl (fun hc16=>?_) (fun hc16=>?_))
  ·refine .aj (.z zm (.z zg (.nil ?_)))
   refine .ret (rB (rT (rB (rT (Fin.bK sW rfl ?_)))))
   exact ⟨H2,_,hle1.trans hle2,rfl,⟨fun _=>⟨x,List.mem_of_getElem? hx,hb16.1 hc16⟩,fun _=>by omega⟩,hs⟩
  ·refine .skip ?_
   refine nB (nT ?_)
   exact .mk ⟨rfl,H2,hle1.trans hle2,fl hno hx (fun h=>by rw [hb16.2 h] at hc16;cases hc16),hs⟩
 ·rintro fr w ⟨rfl,H1,hle1,hno,hs⟩
  refine nT ?_
  refine .aj (.z zg (.nil ?_))
  refine .ret (Fin.bK sW rfl ?_)
  exact ⟨H1,_,hle1,rfl,⟨fun h=>by omega,fun ⟨x,h1,h2⟩=>by
   obtain ⟨j,hj⟩:=List.getElem?_of_mem h1
   exact (hno j (List.getElem?_eq_some_iff.1 hj).1 x hj h2).elim⟩,hs⟩
theorem lH{v:Value}{xs:List Int}{g:Nat}{cap:List Value}(q:Int→Prop)(hs:St H w σ)(hR:RI H v xs)(hc:∀args w,(callFunc g args).run Tryz.prog w= .ok (.enter g args) w)
  (hp:∀H' w σ (n:Int),n∈xs→HLe H H'→St H' w σ→Cl Tryz.prog g ([I n]++cap) w fun u w'=>∃H1 b,HLe H' H1∧u= .bool b∧(b=true↔q n)∧St H1 w' σ):
  Cl Tryz.prog 134 [v,.func (.func g) #[] cap.toArray] w fun u w'=>∃H1 b,HLe H H1∧u= .bool b∧(b=true↔∃x∈xs,q x)∧St H1 w' σ:=by
 refine Cl.o Tryz.func134 Tryz.ntmps134 ag2 ?_
 refine .aj (.z zg (.nil (.aj (.z zm (.z zm ?_)))))
 refine .o (.call Tryz.call206 rfl (mS q hs hR hc hp) ?_);rintro _ w ⟨H1,i,hle1,rfl,hi,hs⟩
 refine .z yA (.z zg (.nil ?_))
 refine .ret (Fin.bK Tryz.results134 rfl ?_)
 exact ⟨H1,_,hle1,rfl,by simp only [decide_eq_true_eq];exact hi,hs⟩
theorem o8{a0 a1 a2:Int}(hs:St H w σ):Cl Tryz.prog 274 [I a0,I a1,I a2] w fun v w'=>v= .bool (decide (a1≤a0∧a0≤a2))∧St H w' σ:=by
 refine Cl.o Tryz.func274 Tryz.ntmps274 ag3 ?_
 refine .aj (.z zg (.nil (.aj (.z zm (.z zm (.z wc (.z zm ?_)))))))
 refine .iB (t':=10) rfl (fun hb10=>?_) (fun hb10=>?_)
 ·refine .gT rfl rfl ?_
  refine .z zm ?_
  refine .gT rfl rfl ?_
  refine .z zm ?_
  refine .gT rfl rfl ?_
  refine .z wc (.z zpT (.z zg (.nil ?_)))
  refine .ret (Fin.bK Tryz.results274 rfl ?_)
  exact ⟨by simp [*],hs.out⟩
 ·refine .gFs 3 3 true rfl rfl rfl ?_
  refine .z zpF (.z zg (.nil ?_))
  refine .ret (Fin.bK Tryz.results274 rfl ?_)
  exact ⟨by simp [*],hs.out⟩
theorem iH{v:Value}{l:List Int}{many:Nat}{most:Int}(hs:St H w σ)(hr:RI H v l):
  Cl Tryz.prog 247 [v,I many,I most] w fun v w'=>∃b:Bool,v= .bool b∧(b=true↔fa many most l)∧St H w' σ:=by
 obtain ⟨a,c,rfl⟩:=RI.shape hr
 have hlen:=(RI.len hr).2.2
 refine Cl.o Tryz.func247 Tryz.ntmps247 ag3 ?_
 refine .aj (.z zg (.nil (.seq (.aj (.z zm (.z (cN ae) (.z zm ?_)))))))
 refine .o (.call Tryz.call274 rfl (o8 hs) ?_);rintro _ w ⟨rfl,hs⟩
 refine .z iD (.z zm ?_)
 refine .bif (t':=14) rfl (fun hb14=>?_) (fun hb14=>?_)
 ·refine .gFs 4 5 false rfl rfl rfl ?_
  refine .z zpT (.z zm ?_)
  refine .gFs 8 11 false rfl rfl rfl ?_
  refine .z zpT (.nil ?_)
  refine (.cT ?_)
  refine .aj (.z zg (.nil ?_))
  refine .ret (rT (Fin.bK A6 rfl ?_))
  exact ⟨false,rfl,⟨fun h=>(by cases h),fun h=>by have:=h.two;have:=h.many;simp at hb14;omega⟩,hs⟩
 ·refine .gT rfl rfl ?_
  refine .z zm ?_
  refine .gT rfl rfl ?_
  have htwo:2≤l.length∧l.length≤many:=by simp at hb14;omega
  refine .ixY hs hr rfl rfl ae ai (bE (l:=l) (i:=0) ak) cJ ?_;intro b16 o16 hc16
  refine .gT rfl rfl ?_
  refine .q hs (aO rfl af hc16) ?_
  refine .gT rfl rfl ?_
  refine .z fD (.z zpF (.z zm ?_))
  refine .iB (t':=20) rfl (fun hb20=>?_) (fun hb20=>?_)
  ·refine .gFs 8 11 false rfl rfl rfl ?_
   refine .z zpT (.nil ?_)
   refine (.cT ?_)
   refine .aj (.z zg (.nil ?_))
   refine .ret (rT (Fin.bK A6 rfl ?_))
   exact ⟨false,rfl,⟨fun h=>(by cases h),fun h=>by have:=h.low;omega⟩,hs⟩
  ·refine .gT rfl rfl ?_
   refine .z zm ?_
   refine .gT rfl rfl ?_
   refine .z zm ?_
   refine .gT rfl rfl ?_
   refine .z (cN ae) ?_
   refine .gT rfl rfl ?_
   refine .z gO ?_
   refine .gT rfl rfl ?_
   refine .ixY hs hr rfl rfl ae ai (bE (l:=l) (i:=(l.length - 1)) ak) cJ ?_;intro b25 o25 hc25
   refine .gT rfl rfl ?_
   refine .q hs (aO rfl af hc25) ?_
   refine .gT rfl rfl ?_
   refine .z zm ?_
   refine .gT rfl rfl ?_
   refine .z kD (.z zpF (.nil ?_))
   refine (.bJ rfl (fun hc29=>?_) (fun hc29=>?_))
   ·refine .aj (.z zg (.nil ?_))
    refine .ret (rT (Fin.bK A6 rfl ?_))
    exact ⟨false,rfl,⟨fun h=>(by cases h),fun h=>by have:=h.high;omega⟩,hs⟩
   ·refine .skip ?_
    refine nT ?_
    refine .seq (.aj (.z zm ?_))
    refine .q hs (qf (k:=1) rfl rfl ae ai ak ak) ?_
    refine .z (cN ae) (.z zm (.nil ?_))
    refine .for (N:=l.length - 1) (J:=fun k fr w=>fr=[(31,.slice (if c=1 then a else a.map (·.add (1*1))) (l.length - 1) (c - 1)),(0,.slice a l.length c)]∧(∀j<k,gi l j<gi l (j+1))∧St H w σ) ak ?_ ?_ ?_
    ·exact .mk ⟨rfl,fun j hj=>by omega,hs⟩
    ·rintro k fr w hk ⟨rfl,hno,hs⟩
     have ht:=hr.tail (k:=1) ak
     have hx:(l.drop 1)[k]? =some (gi l (k+1)):=by rw [List.getElem?_drop,Nat.add_comm];exact bE ak
     refine .block (.aj (.z zm ?_))
     refine .ixY hs ht rfl rfl ae ai hx rfl ?_;intro b36 o36 hc36
     refine .q hs (aO rfl af hc36) ?_
     refine .z zg (.z zg (.nil (.aj (.z zm (.z zm ?_)))))
     refine .ixY hs hr rfl rfl ae ai (bE (l:=l) (i:=k) ak) cJ ?_;intro b40 o40 hc40
     refine .q hs (aO rfl af hc40) ?_
     refine .z zm (.z yA (.nil ?_))
     refine (.bJ rfl (fun hc43=>?_) (fun hc43=>?_))
     ·refine .aj (.z zg (.nil ?_))
      refine .ret (rB (rT (rB (rT (Fin.bK A6 rfl ?_)))))
      exact ⟨false,rfl,⟨fun h=>(by cases h),fun h=>by have:=h.rise k ak;omega⟩,hs⟩
     ·refine .skip ?_
      refine nB (nT ?_)
      exact .mk ⟨rfl,fun j hj=>by
       by_cases e:j=k
       ·subst e;omega
       ·exact hno j ak,hs⟩
    ·rintro fr w ⟨rfl,hno,hs⟩
     refine nT ?_
     refine .aj (.z zg (.nil ?_))
     refine .ret (Fin.bK A6 rfl ?_)
     exact ⟨true,rfl,⟨fun _=>⟨ak,ak,ak,ak,fun i hi=>hno i ak⟩,fun _=>rfl⟩,hs⟩
theorem mR{v:Value}{l:List Int}(hs:St H w σ)(hr:RI H v l):
  Cl Tryz.prog 294 [v] w fun v w'=>∃e,v=I e∧((fa 9 100000 l∧e=0)∨(¬fa 9 100000 l∧e≠0))∧St H w' σ:=by
 obtain ⟨a,c,rfl⟩:=RI.shape hr
 refine Cl.o Tryz.func294 Tryz.ntmps294 ag1 ?_
 refine .aj (.z zg (.nil (.seq (.aj (.z zm ?_)))))
 refine .o (.call Tryz.call247 rfl (iH (many:=9) (most:=100000) hs hr) ?_);rintro _ w ⟨b4,rfl,hb4,hs⟩
 refine .z iD (.nil ?_)
 refine (.cond rfl (fun hc5=>?_) (fun hc5=>?_))
 ·refine .aj (.z zg (.nil ?_))
  refine .ret (rT (Fin.bK Tryz.results294 rfl ?_))
  exact ⟨_,rfl,.inr ⟨fun h=>by simp [hb4.2 h] at hc5,by decide⟩,hs⟩
 ·refine .skip ?_
  refine nT ?_
  refine .aj (.z zg (.nil ?_))
  refine .ret (Fin.bK Tryz.results294 rfl ?_)
  exact ⟨_,rfl,.inl ⟨hb4.1 (by simpa using hc5),rfl⟩,hs⟩
theorem iS{a b:Int}(hs:St H w σ)(ha:0<a)(hb:0<b∧b≤100000):
  Cl Tryz.prog 277 [I a,I b] w fun v w'=>v=I (rat a b)∧St H w' σ:=by
 have h1:0≤b.tdiv a:=Int.tdiv_nonneg ak ak
 have h2:b.tdiv a≤b:=by rw [Int.tdiv_eq_ediv_of_nonneg ak];exact Int.ediv_le_self _ ak
 have hw:=kS (m:=b.tdiv a) ⟨ak,ak⟩
 refine Cl.o Tryz.func277 Tryz.ntmps277 ag2 ?_
 refine .aj (.z zg (.nil (.seq (.aj (.z zm (.z zm (.z CI (.z fw (.z zm ?_)))))))))
 refine .iB (t':=9) rfl (fun hb9=>?_) (fun hb9=>?_)
 ·refine .gT rfl rfl ?_
  refine .z zm ?_
  refine .gT rfl rfl ?_
  refine .z zm ?_
  refine .gT rfl rfl ?_
  refine .z FH ?_
  refine .gT rfl rfl ?_
  refine .z wc (.z zpT (.nil ?_))
  refine (.bJ rfl (fun hc14=>?_) (fun hc14=>?_))
  ·refine .aj (.z zm (.z zm (.z FH (.z zg (.nil ?_)))))
   refine .ret (rT (Fin.bK Tryz.results277 rfl ?_))
   rw [hw] at hc14 ⊢
   exact ⟨by unfold rat;rw [if_pos ⟨by assumption,by assumption⟩],hs⟩
  ·refine .skip ?_
   refine nT ?_
   refine .aj (.z zg (.nil ?_))
   refine .ret (Fin.bK Tryz.results277 rfl ?_)
   rw [hw] at hc14
   exact ⟨by unfold rat;rw [if_neg ak],hs⟩
 ·refine .gFs 4 4 true rfl rfl rfl ?_
  refine .z zpF (.nil ?_)
  refine (.cF ?_)
  refine .skip ?_
  refine nT ?_
  refine .aj (.z zg (.nil ?_))
  refine .ret (Fin.bK Tryz.results277 rfl ?_)
  exact ⟨by unfold rat;rw [if_neg ak],hs⟩
def qy(l:List Int):List (List Value):=(mc l).map fun g=>[Value.agg #[I (g.at_:Int),I (g.n:Int)]]
theorem Bb{l:List Int}(hp:fa 9 100000 l){i:Nat}(h:i+2<l.length):eV l i=true↔0<rat (gi l (i+1) - gi l i) (gi l (i+2) - gi l (i+1))∨0<rat (gi l (i+2) - gi l (i+1)) (gi l (i+1) - gi l i):=by
 have h1:=hp.rise i ak
 have h2:gi l (i+1)<gi l (i+2):=hp.rise (i+1) ak
 unfold eV
 rw [Bf ak ak]
 simp only [Bool.and_eq_true,decide_eq_true_eq]
 omega
theorem o9{H:cE}{b:Nat}{v:Value}{l:List Int}(hp:fa 9 100000 l)(hb:Row H b [v])(hr:RI H v l):Iter Tryz.prog 295 [.pointer (some ⟨b,0,none⟩)] H (qy l):=by
 intro ly II Ix _ _ hy H0 σb0 σf w hle hI0 hs
 obtain ⟨a,c,rfl⟩:=RI.shape hr
 have hlen:=hp.many
 have hb0:cellAt H0 b 0=some (.slice a l.length c):=cellAt.mono (hb.at 0) hle
 refine Cl.o Tryz.func295 Tryz.ntmps295 ag2 ?_
 refine .aj (.z zg (.nil (.block ?_)))
 refine .loop (fun i:Nat=>⟨59,[],[(3,I (i:Int)),(0,.func (.yield ly) #[] #[]),(1,.pointer (some ⟨b,0,none⟩))]⟩)
  (fun i w=>i≤l.length∧∃j,j≤(mc l).length∧(mc l).drop j=mI l i∧∃H1 σb,HLe H H1∧HLe H0 H1∧II j H1 σb∧St H1 w (σb++σf)) (fun i=>l.length - i) 0 (.cn rfl bQ a8)
  ⟨Nat.zero_le _,0,Nat.zero_le _,rfl,H0,σb0,hle,HLe.refl _,hI0,hs⟩ ?_
 clear hs hI0
 rintro i w ⟨hil,j,hj,hd,H1,σb,hle1,hle0,hI,hs⟩
 have hb1:cellAt H1 b 0=some (.slice a l.length c):=cellAt.mono hb0 hle0
 refine .seq (.aj (.z zm (.z cH (.y hs (zld an) (.z (cN ae) (.z fD (.nil ?_)))))))
 refine (.bJ rfl (fun hc11=>?_) (fun hc11=>?_))
 ·refine .skip ?_
  refine nT ?_
  refine .block (.aj (.z zm (.z (zbd [_,_] qQ) ?_)))
  refine .o (.alloc hs xq rfl fun b4 w hs=>?_)
  refine .o (.aZ (vs:=[_,_]) hs rfl rfl oK fun w hs=>?_)
  refine .nil ?_
  refine .cut (fun fs w=>kB fs ⟨59,[],[(4,.pointer (some ⟨b4,0,none⟩)),(3,I (i:Int)),(0,.func (.yield ly) #[] #[]),(1,.pointer (some ⟨b,0,none⟩))]⟩∧St H1 w (.blk b4 [I (i:Int),I (((if eV l i then 2 else 1:Nat)):Int)]::(σb++σf))) ?_ ?_
  ·refine .aj (.z zm (.z cH (.y hs (zld an) (.z (cN ae) (.z fD (.nil ?_))))))
   refine (.bJ rfl (fun hc18=>?_) (fun hc18=>?_))
   ·refine .seq (.draw mix rfl hs fun w hs=>?_)
    refine .y 0 rfl hs an ?_;refine .z 1 rfl zm ?_;refine .z 2 rfl cH ?_
    have r1:=hp.rise i ak
    have r2:gi l (i+1)<gi l (i+2):=hp.rise (i+1) ak
    have hiff:=Bb hp (i:=i) ak
    have q1:=hp.bd (i:=i) ak
    have q2:=hp.bd (i:=i+2) ak
    refine .ixX (enc:=fun x=>[I x]) (i:=3) hs rfl aq .none (hr.mono hle1) rfl rfl ae ai (bE (l:=l) (i:=(i+1)) ak) cJ ?_;intro b22 o22 hc22;replace hc22:=bI.one hc22
    refine .r (i:=4) hs rfl aq .none (aO rfl af hc22) ?_
    refine .y 5 rfl hs an ?_;refine .z 6 rfl zm ?_
    refine .ixX (enc:=fun x=>[I x]) (i:=7) hs rfl aq .none (hr.mono hle1) rfl rfl ae ai (bE (l:=l) (i:=i) ak) cJ ?_;intro b26 o26 hc26;replace hc26:=bI.one hc26
    refine .r (i:=8) hs rfl aq .none (aO rfl af hc26) ?_
    refine .z 9 rfl gO ?_;refine .y 10 rfl hs an ?_;refine .z 11 rfl zm ?_;refine .z 12 rfl cH ?_
    refine .ixX (enc:=fun x=>[I x]) (i:=13) hs rfl aq .none (hr.mono hle1) rfl rfl ae ai (bE (l:=l) (i:=(i+2)) ak) cJ ?_;intro b32 o32 hc32;replace hc32:=bI.one hc32
    refine .r (i:=14) hs rfl aq .none (aO rfl af hc32) ?_
    refine .y 15 rfl hs an ?_;refine .z 16 rfl zm ?_;refine .z 17 rfl cH ?_
    refine .ixX (enc:=fun x=>[I x]) (i:=18) hs rfl aq .none (hr.mono hle1) rfl rfl ae ai (bE (l:=l) (i:=(i+1)) ak) cJ ?_;intro b37 o37 hc37;replace hc37:=bI.one hc37
    refine .r (i:=19) hs rfl aq .none (aO rfl af hc37) ?_
    refine .z 20 rfl gO ?_;refine .z 21 rfl zg ?_;refine .z 22 rfl zg ?_;refine .D hs ?_
    refine .aj (.z zm (.z zm ?_))
    refine .o (.call Tryz.call277 rfl (iS hs ak ak) ?_);rintro _ w ⟨rfl,hs⟩
    refine .z kD (.z zm ?_)
    refine .iB (t':=44) rfl (fun hb44=>?_) (fun hb44=>?_)
    ·refine .gFs 4 4 false rfl rfl rfl ?_
     refine .z zpT (.nil ?_)
     refine (.cT ?_)
     refine .region (.z (zfa iP) ?_)
     refine .o (.store hs rfl rfl ai fun w hs=>?_)
     refine .nil ?_
     refine nT ?_
     rw [hiff.2 (.inl hb44)];exact ⟨a8,hs⟩
    ·refine .gT rfl rfl ?_
     refine .z zm ?_
     refine .gT rfl rfl ?_
     refine .z zm ?_
     refine .gT rfl rfl ?_
     refine .o (.call Tryz.call277 rfl (iS hs ak ak) ?_);rintro _ w ⟨rfl,hs⟩
     refine .gT rfl rfl ?_
     refine .z kD (.z zpF (.nil ?_))
     refine (.bJ rfl (fun hc49=>?_) (fun hc49=>?_))
     ·refine .region (.z (zfa iP) ?_)
      refine .o (.store hs rfl rfl ai fun w hs=>?_)
      refine .nil ?_
      refine nT ?_
      rw [hiff.2 (.inr hc49)];exact ⟨a8,hs⟩
     ·refine .skip ?_
      refine nT ?_
      rw [show eV l i=false from Bool.eq_false_iff.2 fun h=>by have:=hiff.1 h;omega];exact ⟨a8,hs⟩
   ·refine .skip ?_
    refine nT ?_
    rw [show eV l i=false by simp [eV];omega];exact ⟨a8,hs⟩
  ·rintro fs w ⟨hfs,hs⟩
   refine WE.sub ?_ hfs
   have hgo:=uv (l:=l) (i:=i) ak
   rw [hgo] at hd
   have hjl:j<(mc l).length:=by
    have:=congrArg List.length hd
    simp at this;omega
   have hgj:(mc l)[j]=⟨i,eV l i⟩:=by
    rw [List.drop_eq_getElem_cons hjl] at hd
    exact (List.cons.inj hd).1
   have hdj:(mc l).drop (j+1)=mI l (i+(if eV l i then 2 else 1)):=by
    rw [List.drop_eq_getElem_cons hjl] at hd
    exact (List.cons.inj hd).2
   have hn12:(if eV l i then 2 else 1:Nat)=1∨(if eV l i then 2 else 1:Nat)=2:=by split<;>simp
   refine .seq (.aj (.z zm (.y hs (zls [_,_] Tryz.isAgg300 oK) ?_)))
   have hk':j<(qy l).length:=by simpa [qy] using hjl
   have hyd:=hy j hk' H1 σb (.blk b4 [I (i:Int),I (((if eV l i then 2 else 1:Nat)):Int)]::σf) w hle1 hI (St.deep hs)
   rw [show (qy l)[j]=[Value.agg #[I (i:Int),I (((if eV l i then 2 else 1:Nat)):Int)]] by simp only [qy,List.getElem_map,hgj];rfl] at hyd
   refine .o (.yield rfl rfl hyd ?_);rintro v53 w ⟨H2,σ2,g1,hs,g3⟩
   obtain ⟨bb,rfl,gT,gF⟩:=oZ g3
   replace hs:=St.shallow hs
   refine .z iD (.nil ?_)
   refine (.cond rfl (fun hc54=>?_) (fun hc54=>?_))
   ·refine .ret (rT (rB (rT (rB (Fin.FQ Tryz.results295 ?_)))))
    exact ⟨H2,σ2,hle0.trans g1,hs.tail,.inr (gF (by simpa using hc54))⟩
   ·refine .skip ?_
    refine nT ?_
    refine .region (.z zm (.z (zfa iP) (.y hs (zld af) (.z cH (.z zg (.nil ?_))))))
    refine nB (nT ?_)
    generalize (if eV l i then 2 else 1:Nat)=n at*
    exact ⟨i+n,.cn rfl bQ a8,⟨ak,j+1,hjl,hdj,H2,σ2,hle1.trans g1,hle0.trans g1,gT (by simpa using hc54),hs.tail⟩,ak⟩
 ·refine .exit ?_
  refine xT (xT (xB ?_))
  rw [rN ak] at hd
  have:(mc l).length≤j:=by simpa using hd
  obtain rfl:j=(mc l).length:=by omega
  exact Fin.yB Tryz.results295 ⟨H1,σb,hle0,hs,.inl (by simpa [qy] using hI)⟩
theorem q8{v:Value}{l:List Int}(hs:St H w σ)(hr:RI H v l)(hp:fa 9 100000 l):
  Cl Tryz.prog 276 [v] w fun u w'=>∃H1 b,HLe H H1∧u= .func (.func 295) #[] #[.pointer (some ⟨b,0,none⟩)]∧Iter Tryz.prog 295 [.pointer (some ⟨b,0,none⟩)] H1 (qy l)∧St H1 w' σ:=by
 obtain ⟨a,c,rfl⟩:=RI.shape hr
 refine Cl.o Tryz.func276 Tryz.ntmps276 ag1 ?_
 refine .aj ?_
 refine .bx hs fun b1 w hs=>?_
 refine .z zg (.nil (.aj ?_))
 refine .q hs (dX (f:=[]) (c:=[_]) rfl rfl) ?_
 refine .z zg (.nil ?_)
 refine .ret (Fin.bK Tryz.results276 rfl ?_)
 obtain ⟨H1,g1,g2,hs⟩:=hs.cO .here
 exact ⟨H1,b1,g1,rfl,o9 hp g2 (hr.mono g1),hs⟩
theorem oO{bs bW from_ n:Nat}{W xs:List Int}{v:Value}(hs:St H w (.blk bs [.slice (some ⟨bW,0,none⟩) n n]:: .blk bW (Is W)::σ))(hW:W.length=n)(hr:RI H v xs)(hl:from_+xs.length≤n)(hn:n≤9)
  (hz:bL W n≤1000000000) (ha:vZ xs≤1000000000):
  Cl Tryz.prog 275 [.pointer (some ⟨bs,0,none⟩),I (from_:Int),v] w fun _ w'=>St H w' (.blk bs [.slice (some ⟨bW,0,none⟩) n n]:: .blk bW (Is (kV W from_ xs))::σ):=by
 obtain ⟨a,c,rfl⟩:=RI.shape hr
 have hlen:=(RI.len hr).2.2
 refine Cl.o Tryz.func275 Tryz.ntmps275 ag3 ?_
 refine .aj (.z zm (.z (cN ae) (.z zm (.nil ?_))))
 refine .for (N:=xs.length) (J:=fun k fr w=>fr=[(8,.slice a xs.length c),(0,.pointer (some ⟨bs,0,none⟩)),(1,I (from_:Int))]∧St H w (.blk bs [.slice (some ⟨bW,0,none⟩) n n]:: .blk bW (Is (kV W from_ (xs.take k)))::σ)) ak ?_ ?_ ?_
 ·exact .mk ⟨rfl,hs⟩
 ·rintro k fr w hk ⟨rfl,hs⟩
  have hal:=nQ (xs.take k) W from_
  have hsz:=pM (xs.take k) W from_ (by rw [List.length_take];omega)
  rw [hW] at hsz
  have h1:=yu xs k
  have h2:=Cv xs k
  have h3:=iU (kV W from_ (xs.take k)) (v:=from_+k) (n:=n) ak
  have h4:=AX hk W from_
  refine .block (.aj (.z zm ?_))
  refine .ixY hs hr rfl rfl ae ai (bE (l:=xs) (i:=k) ak) cJ ?_;intro b13 o13 hc13
  refine .q hs (aO rfl af hc13) ?_
  refine .z zg (.z zg (.nil (.region (.z zm (.z znc (.z (zfa oR) (.y hs (zld an) (.z zm (.z zm ?_)))))))))
  refine .z cH ?_
  refine .q hs (ef (k:=from_+k) rfl rfl ae ai ak ak) ?_
  refine .y hs (zld af) (.z zm (.z cH ?_))
  refine .q hs (ef (k:=from_+k) rfl rfl ae ai ak ak) ?_
  refine .o (.store hs rfl rfl ai fun w hs=>?_)
  refine .nil ?_
  refine nB (nT ?_)
  exact .mk ⟨rfl,by rw [h4];exact hs⟩
 ·rintro fr w ⟨rfl,hs⟩
  rw [List.take_length] at hs
  exact Fin.yB Tryz.results275 hs
theorem vO{a b:Int}(ha:0<a∧a≤100000)(hb:0<b∧b≤100000):0≤min a b∧min a b≤100000:=by omega
theorem Bg{a b:Int}(h:0<tms a b):tms a b=1∨tms a b=2∨tms a b=3:=by have:=Em a b;omega
set_option maxHeartbeats 1000000 in
theorem jj{v:Value}{l:List Int}(hs:St H w σ)(hr:RI H v l)(hp:fa 9 100000 l):
  Cl Tryz.prog 248 [v] w fun u w'=>∃H1,HLe H H1∧RI H1 u (wts l)∧St H1 w' σ:=by
 obtain ⟨a,c,rfl⟩:=RI.shape hr
 have hln:=hp.many
 have hgl:(mc l).length≤9:=by have:=lz l l.length 0;unfold mc;omega
 refine Cl.o Tryz.func248 Tryz.ntmps248 ag1 ?_
 refine .aj ?_
 refine .bx hs fun b1 w hs=>?_
 refine .z zg (.nil (.aj (.y hs (zld an) (.z (cN ae) ?_))))
 refine .o (.pD l.length hs rfl rfl ae dW rfl ai bO ak fun b13 w hs=>?_)
 refine .z (zbd [_] w8) ?_
 refine .o (.alloc hs Tryz.zeroValue294 rfl fun b3 w hs=>?_)
 refine .o (.aZ (vs:=[_]) hs rfl rfl Tryz.sizeOf294 fun w hs=>?_)
 refine .nil (.aj ?_)
 refine .q hs (dX (f:=[_]) (c:=[]) rfl rfl) ?_
 refine .o (.alloc hs Tryz.zeroValue295 rfl fun b4 w hs=>?_)
 refine .o (.store hs rfl rfl Tryz.sizeOf295 fun w hs=>?_)
 refine .nil (.seq (.aj (.y hs (zld an) ?_)))
 refine .o (.call Tryz.call276 rfl (q8 hs hr hp) ?_);rintro _ w ⟨H1,b17,hle1,rfl,hit,hs⟩
 refine .nil (.block ?_)
 refine .rangeFunc (gf:=295) (cap:=[.pointer (some ⟨b17,0,none⟩)]) (xs:=qy l) (σb:=[.blk b3 [.slice (some ⟨b13,0,none⟩) l.length l.length],.blk b13 (Is (tp l 0)),.blk b4 [.func (.func 275) #[.pointer (some ⟨b3,0,none⟩)] #[]],.blk b1 [.slice a l.length c]]) (σf:=σ) (hs.sb) trivial rfl hit Tryz.call295 (fun x hx=>by
   simp only [qy,List.mem_map] at hx
   obtain ⟨j,_,rfl⟩:=hx;rfl) rfl
  (I:=fun j H' σb=>σb=[.blk b3 [.slice (some ⟨b13,0,none⟩) l.length l.length],.blk b13 (Is (tp l j)),.blk b4 [.func (.func 275) #[.pointer (some ⟨b3,0,none⟩)] #[]],.blk b1 [.slice a l.length c]]) (Ix:=fun _ _ _=>False)
  (fun j _ _ σ g1 g2=>g2) (fun _ _ _ _ _ h=>h) rfl ?_ ?_ (fun D c H' σb w _ h _=>h.elim)
 ·rintro ly j hj H2 σb2 σf2 w hle2 rfl hs ⟨rr,hrr⟩
  have hjl:j<(mc l).length:=by simpa [qy] using hj
  obtain ⟨g,hg⟩:=nth hjl
  rw [show (qy l)[j]=[Value.agg #[I (g.at_:Int),I (g.n:Int)]] by
   rw [List.getElem?_eq_getElem hjl] at hg
   simp only [qy,List.getElem_map,Option.some.inj hg]]
  obtain ⟨i1,i2,i3,i4,i5⟩:=uw hp (List.mem_of_getElem? hg)
  have hK:=tn hg
  have hKl:=mi l j
  have hKz:=q5 hp j ak
  have hr2:=hr.mono (hle1.trans hle2)
  have hq0:=hp.bd (i:=g.at_) ak
  have hq1:=hp.bd (i:=g.at_+1) ak
  generalize hA:gi l (g.at_+1) - gi l g.at_=A at*
  refine .region ?_
  refine .o (.alloc hs xq rfl fun b5 w hs=>?_)
  refine .o (.aZ (vs:=[_,_]) hs rfl rfl oK fun w hs=>?_)
  refine .nil ?_
  refine nT ?_
  refine ⟨H2,[.blk b5 [I (g.at_:Int),I (g.n:Int)],.blk b3 [.slice (some ⟨b13,0,none⟩) l.length l.length],.blk b13 (Is (tp l j)),.blk b4 [.func (.func 275) #[.pointer (some ⟨b3,0,none⟩)] #[]],.blk b1 [.slice a l.length c]],HLe.refl _,hs,?_⟩;rintro w σf4 - hs
  refine .block ?_
  refine .seq (.draw mix rfl hs fun w hs=>?_)
  refine .y 0 rfl hs an ?_;refine .z 1 rfl (zfa fY) ?_;refine .y 2 rfl hs af ?_;refine .z 3 rfl cH ?_
  refine .ixX (enc:=fun x=>[I x]) (i:=4) hs rfl aq .none hr2 rfl rfl ae ai (bE (l:=l) (i:=(g.at_+1)) ak) cJ ?_;intro b23 o23 hc23;replace hc23:=bI.one hc23
  refine .r (i:=5) hs rfl aq .none (aO rfl af hc23) ?_
  refine .y 6 rfl hs an ?_;refine .z 7 rfl (zfa fY) ?_;refine .y 8 rfl hs af ?_
  refine .ixX (enc:=fun x=>[I x]) (i:=9) hs rfl aq .none hr2 rfl rfl ae ai (bE (l:=l) (i:=g.at_) ak) cJ ?_;intro b28 o28 hc28;replace hc28:=bI.one hc28
  refine .r (i:=10) hs rfl aq .none (aO rfl af hc28) ?_
  refine .z 11 rfl gO ?_
  rw [hA]
  refine .z 12 rfl zg ?_;refine .D hs ?_
  refine .seq (.aj (.z (zfa iP) (.y hs (zld af) (.z fw ?_))))
  skip
  refine .nil ?_
  refine (.bJ rfl (fun hc33=>?_) (fun hc33=>?_))
  ·refine .aj ?_
   refine .y hs (zld Tryz.isAgg295) ?_
   refine .z (zfa fY) (.y hs (zld af) (.z zm (.z ki (.z zm (.z ki ?_)))))
   refine .o (.buildSlice (cells:=[_,_]) hs jg rfl rfl fun b41 w hs=>?_)
   have h2:g.two=false:=by
    cases e:g.two with
    |false=>rfl
    |true=>simp [Grp.n,e] at hc33
   obtain ⟨H3,hle3,r41,hs⟩:=cz.cK (xs:=[18*A,18*A]) (v:= .slice (some ⟨b41,0,none⟩) 2 2) (.full (len:=2) rfl) bQ hs cU
   have hgw:=zY h2 hA
   rw [hgw] at hK i5
   replace hs:St H3 w (.blk b3 [.slice (some ⟨b13,0,none⟩) l.length l.length]:: .blk b13 (Is (tp l j)):: .blk b5 [I (g.at_:Int),I (g.n:Int)]:: .blk b4 [.func (.func 275) #[.pointer (some ⟨b3,0,none⟩)] #[]]:: .blk b1 [.slice a l.length c]::σf4):=hs.sb
   refine .o (.pH (first:=[.pointer (some ⟨b3,0,none⟩)]) (cap:=[]) rfl rfl Tryz.call275 (oO (from_:=g.at_) (xs:=[18*A,18*A]) hs hKl r41 (by simp;omega) ak ak ak) ?_);rintro _ w hs
   rw [←hK] at hs
   refine .nil ?_
   refine .exit ?_
   refine xT (xB ?_)
   exact ⟨H3,_,hle3,(hs.sb:St H3 w (.blk b3 _:: .blk b13 _:: .blk b4 _:: .blk b1 _::σf4)),rfl⟩
  ·refine .skip ?_
   refine nT ?_
   refine .seq (.draw mix rfl hs fun w hs=>?_)
   have h2:g.two=true:=by
    cases e:g.two with
    |true=>rfl
    |false=>simp [Grp.n,e] at hc33
   obtain ⟨j1,j2,j3,j4⟩:=i4 h2
   have hq2:=hp.bd (i:=g.at_+2) ak
   generalize hB:gi l (g.at_+2) - gi l (g.at_+1)=B at*
   have hmx:=Bf (a:=A) (b:=B) ak ak
   have hk:=Bg j4
   have hmm:=vO (a:=A) (b:=B) ⟨ak,ak⟩ ⟨ak,ak⟩
   obtain ⟨n1,n2,n3,n4⟩:=zW hk hmm.1 hmm.2
   obtain ⟨n5,n6,n7,n8,n9⟩:=n4 _ n3.1 n3.2
   generalize hT:tms A B=T at*
   generalize hM:min A B=M at*
   have hgw:=zX h2 hA hB hT hM
   refine .y 0 rfl hs an ?_;refine .z 1 rfl (zfa fY) ?_;refine .y 2 rfl hs af ?_;refine .z 3 rfl cH ?_
   refine .ixX (enc:=fun x=>[I x]) (i:=4) hs rfl aq .none hr2 rfl rfl ae ai (bE (l:=l) (i:=(g.at_+2)) ak) cJ ?_;intro b47 o47 hc47;replace hc47:=bI.one hc47
   refine .r (i:=5) hs rfl aq .none (aO rfl af hc47) ?_
   refine .y 6 rfl hs an ?_;refine .z 7 rfl (zfa fY) ?_;refine .y 8 rfl hs af ?_;refine .z 9 rfl cH ?_
   refine .ixX (enc:=fun x=>[I x]) (i:=10) hs rfl aq .none hr2 rfl rfl ae ai (bE (l:=l) (i:=(g.at_+1)) ak) cJ ?_;intro b53 o53 hc53;replace hc53:=bI.one hc53
   refine .r (i:=11) hs rfl aq .none (aO rfl af hc53) ?_
   refine .z 12 rfl gO ?_
   rw [hB]
   refine .z 13 rfl zg ?_;refine .D hs ?_
   refine .aj (.z zm (.z zm ?_))
   refine .o (.call Tryz.call277 rfl (iS hs ak ak) ?_);rintro _ w ⟨rfl,hs⟩
   refine .z zm (.z zm ?_)
   refine .o (.call Tryz.call277 rfl (iS hs ak ak) ?_);rintro _ w ⟨rfl,hs⟩
   refine .z CJ ?_
   rw [←hmx]
   refine .z zg (.nil (.aj (.z zm ?_)))
   refine .q hs (ue rfl rfl ak ak) ?_
   refine .z zm (.z cH (.z ki (.z zm (.z zm (.z zw ?_)))))
   rw [hM]
   refine .z ki (.z zg (.nil (.aj (.z zm (.z zm (.z ki (.z zm (.z gO (.z ki ?_)))))))))
   refine .z zm (.z zm (.z cH (.z ki (.z zm (.z cH (.z ki (.z zm (.z zm (.z ki ?_)))))))))
   refine .z gO (.z ki ?_)
   refine .o (.buildSlice (cells:=[_,_,_]) hs yo rfl rfl fun b90 w hs=>?_)
   refine .z zg (.nil ?_)
   refine .cut (fun fs w=>∃H3,kB fs ⟨103,[],[(10,.slice (some ⟨b90,0,none⟩) 3 3),(5,.pointer (some ⟨b5,0,none⟩)),(4,.pointer (some ⟨b4,0,none⟩)),(3,.pointer (some ⟨b3,0,none⟩)),(1,.pointer (some ⟨b1,0,none⟩))]⟩∧HLe H2 H3∧RI H3 (.slice (some ⟨b90,0,none⟩) 3 3) (u9 l g)∧St H3 w (.blk b3 [.slice (some ⟨b13,0,none⟩) l.length l.length]:: .blk b13 (Is (tp l j)):: .blk b5 [I (g.at_:Int),I (g.n:Int)]:: .blk b4 [.func (.func 275) #[.pointer (some ⟨b3,0,none⟩)] #[]]:: .blk b1 [.slice a l.length c]::σf4)) ?_ ?_
   ·refine .aj (.z zm (.z zm (.z kD (.nil ?_))))
    refine (.bJ rfl (fun hc93=>?_) (fun hc93=>?_))
    ·refine .region (.z zm ?_)
     refine .o (.call Tryz.call128 rfl (lj (en:= .blk b90 (Is [(6:Int).tdiv T*(1+T)*M*T*(2 - T),(6:Int).tdiv T*(1+T)*M*(1+T)*(1+T),(6:Int).tdiv T*(1+T)*M*(2*T - 1)])) (hs.sb:St H2 w (.blk b90 _:: .blk b3 _:: .blk b13 _:: .blk b5 _:: .blk b4 _:: .blk b1 _::σf4)) (.full rfl) bQ) ?_);rintro _ w ⟨en95,hO95,hs⟩
     refine .nil ?_
     refine nT ?_
     obtain ⟨H3,hle3,r90,hs⟩:=cz.cK hO95 bQ hs .here
     rw [if_pos hc93] at hgw
     rw [hgw]
     exact ⟨H3,a8,hle3,r90,hs⟩
    ·refine .skip ?_
     refine nT ?_
     obtain ⟨H3,hle3,r90,hs⟩:=cz.cK (xs:=[(6:Int).tdiv T*(1+T)*M*T*(2 - T),(6:Int).tdiv T*(1+T)*M*(1+T)*(1+T),(6:Int).tdiv T*(1+T)*M*(2*T - 1)]) (v:= .slice (some ⟨b90,0,none⟩) 3 3) (.full (len:=3) rfl) bQ hs cU
     rw [if_neg ak] at hgw
     rw [hgw]
     exact ⟨H3,a8,hle3,r90,hs.sb⟩
   ·rintro fs w ⟨H3,hfs,hle3,r90,hs⟩
    refine WE.sub ?_ hfs
    refine .region ?_
    refine .y hs (zld Tryz.isAgg295) ?_
    refine .z (zfa fY) (.y hs (zld af) (.z zm ?_))
    refine .o (.pH (first:=[.pointer (some ⟨b3,0,none⟩)]) (cap:=[]) rfl rfl Tryz.call275 (oO (from_:=g.at_) (xs:=u9 l g) hs hKl r90 (by rw [zZ,show g.n=2 by unfold Grp.n;rw [h2];rfl];omega) ak ak ak) ?_);rintro _ w hs
    rw [←hK] at hs
    refine .nil ?_
    refine nB ?_
    exact ⟨H3,_,hle3,(hs.sb:St H3 w (.blk b3 _:: .blk b13 _:: .blk b4 _:: .blk b1 _::σf4)),rfl⟩
 ·rintro D H2 σb2 w hle2 rfl hs
  rw [show (qy l).length=(mc l).length by simp [qy],zA] at hs
  replace hs:St H2 w (.obj D (.deferred (some [])):: .blk b3 [.slice (some ⟨b13,0,none⟩) l.length l.length]:: .blk b13 (Is (wts l)):: .blk b4 [.func (.func 275) #[.pointer (some ⟨b3,0,none⟩)] #[]]:: .blk b1 [.slice a l.length c]::σ):=hs
  refine nB (nT ?_)
  refine .aj (.z (zfa oR) (.y hs (zld an) (.z zg (.nil ?_))))
  refine .ret ?_
  obtain ⟨H3,hle3,hR,hs⟩:=cz.cK (xs:=wts l) (v:= .slice (some ⟨b13,0,none⟩) l.length l.length) (.full (by simp [Is,eR])) (by rw [eR];omega) hs cU
  exact Fin.gR [D] [] hs fun w hs=>⟨_,results1 Tryz.results248 rfl,H3,hle1.trans (hle2.trans hle3),hR,hs.out⟩
def xl(X Y:List Int)(i:Nat):List Int:=(List.range Y.length).map fun k=>gi X i*gi Y k
def me(X Y:List Int)(i:Nat):List (List Int):=(List.range i).map (xl X Y)
theorem jG(X Y:List Int)(i:Nat):(xl X Y i).length=Y.length:=by simp [xl]
theorem jY(X Y:List Int)(i:Nat):(me X Y i).length=i:=by simp [me]
theorem vU(X Y:List Int)(i:Nat):me X Y (i+1)=me X Y i++[xl X Y i]:=by simp [me,List.range_succ]
theorem xC{X Y:List Int}{i k:Nat}(hk:k<Y.length):(xl X Y i).take (k+1)=(xl X Y i).take k++[gi X i*gi Y k]:=by
 rw [df (by simp [xl,hk]:(xl X Y i)[k]? =some (gi X i*gi Y k))]
theorem wM{X Y:List Int}{n i:Nat}(h:i<n):gr (me X Y n) i=xl X Y i:=by simp [gr,List.getD,me,h]
theorem z7{X Y:List Int}{n i k:Nat}(h:i<n)(hk:k<Y.length):gt (me X Y n) i k=gi X i*gi Y k:=by
 unfold gt;rw [wM h];simp [gi,List.getD,xl,hk]
inductive GrS(X Y:List Int)(b:Nat)(i k:Nat)(H:cE)(σ:List Ent):Prop
 |go (us:List Value) (v:Value) (en:Ent) (h:i<X.length) (h1:RLs H us (me X Y i)) (h2:cz 1 v (Is ((xl X Y i).take k)) en) (h3:σ=[.blk b (us++v::List.replicate (X.length - i - 1) (.slice none 0 0)),en])
 |fin (us:List Value) (h:i=X.length) (h1:RLs H us (me X Y i)) (h3:σ=[.blk b us])
theorem GrS.mono{X Y:List Int}{b i k:Nat}{H H':cE}{σ:List Ent}(h:GrS X Y b i k H σ)(hl:HLe H H'):GrS X Y b i k H' σ:=by
 cases h with
 |go us v en h h1 h2 h3=>exact .go us v en h (h1.mono hl) h2 h3
 |fin us h h1 h3=>exact .fin us h (h1.mono hl) h3
theorem lh{v:Value}{l:List Int}(hs:St H w σ)(hr:RI H v l):
  Cl Tryz.prog 273 [v] w fun u w'=>∃H1 vo e,HLe H H1∧u= .tuple #[vo,I e]∧(fa 9 100000 l→e=0∧RI H1 vo (wts l))∧St H1 w' σ:=by
 obtain ⟨a,c,rfl⟩:=RI.shape hr
 refine Cl.o Tryz.func273 Tryz.ntmps273 ag1 ?_
 refine .aj (.z zg (.z zg (.nil (.seq (.aj (.z zm ?_))))))
 refine .o (.call Tryz.call294 rfl (mR hs hr) ?_);rintro _ w ⟨e,rfl,he,hs⟩
 refine .z zg (.nil (.aj (.z zm (.z gP (.nil ?_)))))
 refine (.eI rfl (fun hc8=>?_) (fun hc8=>?_))
 ·refine .aj (.z zm (.z zg (.z zg (.nil ?_))))
  refine .ret (rT (Fin.jx Tryz.results273 rfl rfl ?_))
  exact ⟨H,_,_,HLe.refl H,rfl,fun h=>by rcases he with ⟨_,h2⟩|⟨h1,_⟩;exact (hc8 h2).elim;exact (h1 h).elim,hs⟩
 ·refine .skip ?_
  refine nT ?_
  refine .aj (.z zm ?_)
  have hp:fa 9 100000 l:=by rcases he with ⟨h,_⟩|⟨_,h2⟩;exact h;exact (h2 (by simpa using hc8)).elim
  refine .o (.call Tryz.call248 rfl (jj hs hr hp) ?_);rintro v11 w ⟨H1,hle1,hR,hs⟩
  refine .z zg (.z zg (.nil ?_))
  refine .ret (Fin.jx Tryz.results273 rfl rfl ?_)
  exact ⟨H1,_,_,hle1,rfl,fun _=>⟨rfl,hR⟩,hs⟩
theorem q7{v1 v2:Value}{a b:List Int}(hs:St H w σ)(h1:RI H v1 a)(h2:RI H v2 b):
  Cl Tryz.prog 191 [v1,v2] w fun u w'=>∃bb:Bool,u= .bool bb∧(bb=true↔fa 9 100000 a∧fa 7 15000 b)∧St H w' σ:=by
 refine Cl.o Tryz.func191 Tryz.ntmps191 ag2 ?_
 refine .aj (.z zg (.nil (.aj (.z zm ?_))))
 refine .o (.call Tryz.call247 rfl (iH (many:=9) (most:=100000) hs h1) ?_);rintro _ w ⟨b6,rfl,hb6,hs⟩
 refine .z zm ?_
 refine .bif (t':=7) rfl (fun hb7=>?_) (fun hb7=>?_)
 ·refine .gT rfl rfl ?_
  refine .z zm ?_
  refine .gT rfl rfl ?_
  refine .o (.call Tryz.call247 rfl (iH (many:=7) (most:=15000) hs h2) ?_);rintro _ w ⟨b9,rfl,hb9,hs⟩
  refine .z zpT (.z zg (.nil ?_))
  refine .ret (Fin.bK Tryz.results191 rfl ?_)
  exact ⟨_,rfl,by rw [hb9];exact ⟨fun h=>⟨hb6.1 hb7,h⟩,fun h=>h.2⟩,hs⟩
 ·refine .gFs 2 2 true rfl rfl rfl ?_
  refine .z zpF (.z zg (.nil ?_))
  refine .ret (Fin.bK Tryz.results191 rfl ?_)
  exact ⟨_,rfl,⟨fun h=>(by cases h),fun h=>by rw [hb6.2 h.1] at hb7;cases hb7⟩,hs⟩
theorem ow{bx by_:Nat}{x y:Int}(hs:St H w σ)(hx:Row H bx [I x])(hy:Row H by_ [I y]):
  Cl Tryz.prog 279 [.pointer (some ⟨bx,0,none⟩),.pointer (some ⟨by_,0,none⟩)] w fun u w'=>u= .tuple #[I x,I y]∧St H w' σ:=by
 have hx0:=hx.at 0
 have hy0:=hy.at 0
 refine Cl.o Tryz.func279 Tryz.ntmps279 ag2 ?_
 refine .aj (.z zg (.z zg (.nil ?_)))
 refine .seq (.draw mix rfl hs fun w hs=>?_)
 refine .y 0 rfl hs af ?_;refine .y 1 rfl hs af ?_;refine .z 2 rfl zg ?_;refine .z 3 rfl zg ?_;refine .D hs ?_
 refine .ret (Fin.jx Tryz.results279 rfl rfl ?_)
 exact ⟨rfl,hs⟩
def PrE(X Y:List Int)(p:Nat)(H:cE)(z:List Value):Prop:=
 ∃bx by_,z=[.agg #[I ((p/Y.length:Nat):Int),I ((p%Y.length:Nat):Int)],.func (.func 279) #[] #[.pointer (some ⟨bx,0,none⟩),.pointer (some ⟨by_,0,none⟩)]]∧Row H bx [I (gi X (p/Y.length))]∧Row H by_ [I (gi Y (p%Y.length))]
theorem pS{H:cE}{b1 b2:Nat}{v1 v2:Value}{X Y:List Int}(hb1:Row H b1 [v1])(hb2:Row H b2 [v2])(hX:RI H v1 X)(hY:RI H v2 Y)(hXl:X.length≤1000)(hYl:Y.length≤1000):
  Ed Tryz.prog 278 [.pointer (some ⟨b1,0,none⟩),.pointer (some ⟨b2,0,none⟩)] H (X.length*Y.length) (PrE X Y):=by
 intro ly II Ix hmI _ hy H0 σb0 σf w hle hI0 hs
 obtain ⟨a1,c1,rfl⟩:=RI.shape hX
 obtain ⟨a2,c2,rfl⟩:=RI.shape hY
 have h01:cellAt H0 b1 0=some (.slice a1 X.length c1):=cellAt.mono (hb1.at 0) hle
 have h02:cellAt H0 b2 0=some (.slice a2 Y.length c2):=cellAt.mono (hb2.at 0) hle
 refine Cl.o Tryz.func278 Tryz.ntmps278 ag3 ?_
 refine .aj (.y hs (zld an) (.z (cN ae) (.z zm (.nil ?_))))
 refine .for (N:=X.length) (J:=fun i fr w=>fr=[(8,.slice a1 X.length c1),(0,.func (.yield ly) #[] #[]),(1,.pointer (some ⟨b1,0,none⟩)),(2,.pointer (some ⟨b2,0,none⟩))]∧∃H1 σb,HLe H H1∧HLe H0 H1∧II (i*Y.length) H1 σb∧St H1 w (σb++σf)) ak ?_ ?_ ?_
 ·exact .mk ⟨rfl,H0,σb0,hle,HLe.refl _,by rw [Nat.zero_mul];exact hI0,hs⟩
 ·rintro i fr w hi ⟨rfl,H1,σb,hle1,hle0,hI,hs⟩
  refine .block (.aj (.z zm ?_))
  refine .ixY hs (hX.mono hle1) rfl rfl ae ai (bE (l:=X) (i:=i) ak) cJ ?_;intro b13 o13 hc13
  refine .q hs (aO rfl af hc13) ?_
  refine .o (.alloc hs bO rfl fun b5 w hs=>?_)
  refine .z zg ?_
  refine .o (.store hs rfl rfl ai fun w hs=>?_)
  refine .nil (.aj ?_)
  obtain ⟨H2,hle2,r5,hs⟩:=hs.cO (b:=b5) .here
  have h22:=cellAt.mono h02 (hle0.trans hle2)
  refine .y hs (zld an) (.z (cN ae) (.z zm (.nil ?_)))
  refine .for (N:=Y.length) (J:=fun k fr w=>fr=[(15,.slice a2 Y.length c2),(4,I (i:Int)),(10,I (i:Int)),(9,I (X.length:Int)),(5,.pointer (some ⟨b5,0,none⟩)),(8,.slice a1 X.length c1),(0,.func (.yield ly) #[] #[]),(1,.pointer (some ⟨b1,0,none⟩)),(2,.pointer (some ⟨b2,0,none⟩))]∧∃H3 σb,HLe H2 H3∧II (i*Y.length+k) H3 σb∧St H3 w (σb++σf)) ak ?_ ?_ ?_
  ·exact .mk ⟨rfl,H2,σb,HLe.refl _,hmI _ _ _ _ hle2 hI,hs⟩
  ·rintro k fr w hk ⟨rfl,H3,σb3,hle3,hI3,hs⟩
   have hle03:=hle0.trans (hle2.trans hle3)
   have hle13:=hle1.trans (hle2.trans hle3)
   refine .block (.aj (.z zm ?_))
   refine .ixY hs (hY.mono hle13) rfl rfl ae ai (bE (l:=Y) (i:=k) ak) cJ ?_;intro b20 o20 hc20
   refine .q hs (aO rfl af hc20) ?_
   refine .o (.alloc hs bO rfl fun b7 w hs=>?_)
   refine .z zg ?_
   refine .o (.store hs rfl rfl ai fun w hs=>?_)
   refine .nil (.aj (.z zm (.z zm (.z zm ?_))))
   refine .q hs (zL (vs:=[(0,I (i:Int)),(1,I (k:Int))]) (cells:=[I (i:Int),I (k:Int)]) Tryz.zeroValue90 rfl jd ai rfl) ?_
   refine .q hs (dX (f:=[]) (c:=[_,_]) rfl rfl) ?_
   obtain ⟨H4,hle4,r7,hs⟩:=hs.cO (b:=b7) .here
   obtain ⟨d1,d2⟩:=EK (nw:=Y.length) (i:=i) (k:=k) hk
   have hlt:i*Y.length+k<X.length*Y.length:=by
    have:=Nat.mul_le_mul_right Y.length (show i+1≤X.length by omega)
    rw [Nat.add_mul,Nat.one_mul] at this;omega
   have hyd:=hy (i*Y.length+k) hlt [.agg #[I (i:Int),I (k:Int)],.func (.func 279) #[] #[.pointer (some ⟨b5,0,none⟩),.pointer (some ⟨b7,0,none⟩)]] H4 σb3 σf w (hle13.trans hle4) ⟨b5,b7,by rw [d1,d2],by rw [d1];exact r5.mono (hle3.trans hle4),by rw [d2];exact r7⟩ (hmI _ _ _ _ hle4 hI3) hs
   refine .o (.yield rfl rfl hyd ?_);rintro v27 w ⟨H5,σ5,g1,hs,g3⟩
   obtain ⟨bb,rfl,gT,gF⟩:=oZ g3
   refine .z iD (.nil ?_)
   refine (.cond rfl (fun hc28=>?_) (fun hc28=>?_))
   ·refine .ret (rB (rT (rB (rB (rT (rB (Fin.FQ Tryz.results278 ?_)))))))
    exact ⟨H5,σ5,hle03.trans (hle4.trans g1),hs,.inr (gF (by simpa using hc28))⟩
   ·refine .skip ?_
    refine nB (nT ?_)
    exact .mk ⟨rfl,H5,σ5,hle3.trans (hle4.trans g1),gT (by simpa using hc28),hs⟩
  ·rintro fr w ⟨rfl,H3,σb3,hle3,hI3,hs⟩
   refine nB (nT ?_)
   exact .mk ⟨rfl,H3,σb3,hle1.trans (hle2.trans hle3),hle0.trans (hle2.trans hle3),by rw [Nat.add_mul,Nat.one_mul];exact hI3,hs⟩
 ·rintro fr w ⟨rfl,H1,σb,hle1,hle0,hI,hs⟩
  exact Fin.yB Tryz.results278 ⟨H1,σb,hle0,hs,.inl hI⟩
theorem sz{v1 v2:Value}{X Y:List Int}(hs:St H w σ)(hX:RI H v1 X)(hY:RI H v2 Y)(hXl:X.length≤1000)(hYl:Y.length≤1000):
  Cl Tryz.prog 249 [v1,v2] w fun u w'=>∃H1 b1 b2,HLe H H1∧u= .func (.func 278) #[] #[.pointer (some ⟨b1,0,none⟩),.pointer (some ⟨b2,0,none⟩)]∧Ed Tryz.prog 278 [.pointer (some ⟨b1,0,none⟩),.pointer (some ⟨b2,0,none⟩)] H1 (X.length*Y.length) (PrE X Y)∧St H1 w' σ:=by
 obtain ⟨a1,c1,rfl⟩:=RI.shape hX
 obtain ⟨a2,c2,rfl⟩:=RI.shape hY
 refine Cl.o Tryz.func249 Tryz.ntmps249 ag2 ?_
 refine .aj ?_
 refine .bx hs fun b2 w hs=>?_
 refine .bx hs fun b3 w hs=>?_
 refine .z zg (.nil (.aj ?_))
 refine .q hs (dX (f:=[]) (c:=[_,_]) rfl rfl) ?_
 refine .z zg (.nil ?_)
 refine .ret (Fin.bK Tryz.results249 rfl ?_)
 obtain ⟨H1,g1,r1,hs⟩:=hs.cO (b:=b2) cU
 obtain ⟨H2,g2,r2,hs⟩:=hs.cO (b:=b3) cU
 exact ⟨H2,b2,b3,g1.trans g2,rfl,pS (r1.mono g2) r2 (hX.mono (g1.trans g2)) (hY.mono (g1.trans g2)) hXl hYl,hs⟩
set_option maxHeartbeats 1000000 in
theorem tt{v1 v2:Value}{l1 l2:List Int}(hs:St H w σ)(hr1:RI H v1 l1)(hr2:RI H v2 l2)(hp1:fa 9 100000 l1)(hp2:fa 7 15000 l2):
  Cl Tryz.prog 192 [v1,v2] w fun u w'=>∃H1,HLe H H1∧RT H1 u (me (wts l1) (wts l2) l1.length)∧St H1 w' σ:=by
 obtain ⟨a1,c1,rfl⟩:=RI.shape hr1
 obtain ⟨a2,c2,rfl⟩:=RI.shape hr2
 have hn1:=hp1.many
 have hn2:=hp2.many
 have htw1:=hp1.two
 have htw2:=hp2.two
 have hp2':fa 9 100000 l2:=⟨hp2.two,ak,hp2.low,by have:=hp2.high;omega,hp2.rise⟩
 have hXl:=eR l1
 have hYl:=eR l2
 have hXb:=zy hp1
 have hYb:=zy hp2
 refine Cl.o Tryz.func192 Tryz.ntmps192 ag2 ?_
 refine .aj (.z zg (.nil (.aj (.z zm ?_))))
 refine .o (.call Tryz.call248 rfl (jj hs hr1 hp1) ?_);rintro v13 w ⟨H1,hle1,hX,hs⟩
 refine .z zm ?_
 refine .o (.call Tryz.call248 rfl (jj hs (hr2.mono hle1) hp2') ?_);rintro v15 w ⟨H2,hle2,hY,hs⟩
 replace hX:=hX.mono hle2
 generalize wts l1=X at*
 generalize wts l2=Y at*
 obtain ⟨aX,cX,rfl⟩:=RI.shape hX
 obtain ⟨aY,cY,rfl⟩:=RI.shape hY
 refine .z zg (.z zg (.nil (.aj (.z zm (.z (cN ae) ?_)))))
 refine .o (.E2 l1.length hs rfl rfl au Tryz.typeInfo22 rfl aC dV ak fun b18 w hs=>?_)
 refine .o (.alloc hs Tryz.zeroValue61 rfl fun b7 w hs=>?_)
 refine .o (.store hs rfl rfl Tryz.sizeOf61 fun w hs=>?_)
 refine .nil (.seq (.aj (.z zm (.z zm ?_))))
 refine .o (.call Tryz.call249 rfl (sz hs hX hY ak ak) ?_);rintro _ w ⟨H3,bp1,bp2,hle3,rfl,hit,hs⟩
 have hle03:=hle1.trans (hle2.trans hle3)
 have h0:GrS X Y b18 0 0 H3 [.blk b18 (List.replicate l1.length (.slice none 0 0)),.nul]:=by
  refine .go [] (.slice none 0 0) .nul ak (RLs.nil _) (.nil 1 none) ?_
  rw [hXl]
  obtain ⟨m,hm⟩:∃m,l1.length=m+1:=⟨l1.length - 1,ak⟩
  rw [hm]
  rfl
 refine .nil (.block ?_)
 refine .Es (gf:=278) (cap:=[.pointer (some ⟨bp1,0,none⟩),.pointer (some ⟨bp2,0,none⟩)]) (N:=X.length*Y.length) (E:=PrE X Y) (σb:= .blk b7 [.slice (some ⟨b18,0,none⟩) l1.length l1.length]::[.blk b18 (List.replicate l1.length (.slice none 0 0)),.nul]) (σf:=σ) (hs.nul.sb) trivial rfl hit Tryz.call278 (fun k H' z ⟨_,_,hz,_⟩=>by rw [hz];rfl) rfl
  (I:=fun p H' σb=>∃σ1,σb= .blk b7 [.slice (some ⟨b18,0,none⟩) l1.length l1.length]::σ1∧GrS X Y b18 (p/Y.length) (p%Y.length) H' σ1) (Ix:=fun _ _ _=>False)
  (fun j _ _ σ g1 ⟨σ1,g2,g3⟩=>⟨σ1,g2,g3.mono g1⟩) (fun _ _ _ _ _ h=>h) ⟨_,rfl,by rw [Nat.zero_div,Nat.zero_mod];exact h0⟩ ?_ ?_ (fun D c H' σb w _ h _=>h.elim)
 ·rintro ly p hp z H4 σb2 σf2 w hle4 ⟨bx,by_,rfl,rx,ry⟩ ⟨σ1,rfl,hG⟩ hs ⟨rr,hrr⟩
  have hnext:=zQ (p:=p) (m:=Y.length) ak
  have hkm:=Nat.mod_lt p (show 0<Y.length by omega)
  have hin:p/Y.length<X.length:=Nat.div_lt_of_lt_mul (by rw [Nat.mul_comm];exact hp)
  generalize hi:p/Y.length=i at*
  generalize hk:p%Y.length=k at*
  cases hG with
  |fin us h=>omega
  |go us v en h h1 h2 h3=>
  subst h3
  obtain ⟨av,lv,cv,rfl,hlv⟩:=h2.shape
  have husl:us.length=i:=by rw [h1.1,jY]
  have hb1:=hXb i
  have hb2:=hYb k
  have hpr:=EC (gi X i) (gi Y k)
  have hprb: -3456000000000≤gi X i*gi Y k∧gi X i*gi Y k≤3456000000000:=kP (A:=4800000) (B:=720000) (by unfold ab at hb1;omega) (by unfold ab at hb2;omega)
  refine .aj ?_
  refine .o (.alloc hs Tryz.zeroValue90 rfl fun b8 w hs=>?_)
  refine .o (.aZ (vs:=[_,_]) hs rfl rfl Tryz.sizeOf90 fun w hs=>?_)
  refine .nil (.region (.z zg (.nil ?_)))
  refine nT ?_
  refine ⟨H4,[.blk b8 [I (i:Int),I (k:Int)],.blk b7 [.slice (some ⟨b18,0,none⟩) l1.length l1.length],.blk b18 (us++Value.slice av lv cv::List.replicate (X.length - i - 1) (Value.slice none 0 0)),en],HLe.refl _,hs,?_⟩;rintro w σf4 - hs
  refine .block (.aj (.z zm ?_))
  refine .o (.pH (first:=[]) (cap:=[.pointer (some ⟨bx,0,none⟩),.pointer (some ⟨by_,0,none⟩)]) rfl rfl Tryz.call279 (ow hs rx ry) ?_);rintro _ w ⟨rfl,hs⟩
  refine .z zm (.z zex (.z zex (.z zg (.z zg (.nil ?_)))))
  refine .draw mix rfl hs fun w hs=>?_
  refine .y 0 rfl hs eg ?_
  refine .z 1 rfl (zia 0 jd ai) ?_
  refine .y 2 rfl hs af ?_;refine .y 3 rfl hs eg ?_
  refine .z 4 rfl (zia 0 jd ai) ?_
  refine .y 5 rfl hs af ?_
  refine .z 6 rfl (ef (k:=i) rfl rfl au aC rfl ak) ?_
  refine .load (i:=7) hs rfl aq .none rfl an ?_ (hv:=by rw [List.getElem?_append_right ak,husl,Nat.sub_self];rfl)
  refine .z 8 rfl zm ?_;refine .z 9 rfl zm ?_;refine .z 10 rfl ki ?_
  refine .E 11 hs ?_
  refine .buildSlice (cells:=[_]) hs bX rfl rfl ?_;intro b40 w hs
  refine .go ?_
  refine .E 12 hs ?_
  refine .append (ys:=Is [gi X i*gi Y k]) hs bg rfl rfl h2 (.own .here rfl rfl) (dM _) (fun l' h=>by simp at h;omega) ?_;intro v41 en41 w hO hs
  rw [show Is ((xl X Y i).take k)++Is [gi X i*gi Y k]=Is ((xl X Y i).take (k+1)) by rw [xC hkm];simp [Is]] at hO
  obtain ⟨a41,l41,c41,rfl,hl41⟩:=hO.shape
  refine .go ?_
  refine .z 13 rfl (ef (k:=i) rfl rfl au aC rfl ak) ?_
  refine .E 14 hs ?_
  refine .store (c':=us++ .slice a41 l41 c41::List.replicate (X.length - i - 1) (.slice none 0 0)) hs rfl rfl aC ?_ cU (by simp;omega) (by rw [List.set_append_right _ _ ak,husl,Nat.sub_self];rfl);intro w hs
  refine .go ?_
  refine .D hs ?_
  refine nB ?_
  rcases hnext with ⟨g1,g2,g3⟩|⟨g1,g2,g3⟩
  ·exact ⟨H4,[.blk b7 [.slice (some ⟨b18,0,none⟩) l1.length l1.length],.blk b18 (us++ .slice a41 l41 c41::List.replicate (X.length - i - 1) (.slice none 0 0)),en41],HLe.refl _,(hs.sb:St H4 w (.blk b7 _:: .blk b18 _::en41::σf4)),_,rfl,by rw [g2,g3];exact .go us _ en41 h h1 hO rfl⟩
  ·obtain ⟨H5,hle5,hR,hs⟩:=cz.cK hO (by rw [List.length_take,jG];omega) hs cU
   rw [List.take_of_length_le (by rw [jG];omega)] at hR
   have h1':RLs H5 (us++[.slice a41 l41 c41]) (me X Y (i+1)):=by rw [vU];exact (h1.mono hle5).snoc hR
   by_cases e:i+1<X.length
   ·refine ⟨H5,[.blk b7 [.slice (some ⟨b18,0,none⟩) l1.length l1.length],.blk b18 (us++ .slice a41 l41 c41::List.replicate (X.length - i - 1) (.slice none 0 0)),.nul],hle5,(hs.nul.sb:St H5 w (.blk b7 _:: .blk b18 _:: .nul::σf4)),_,rfl,?_⟩
    rw [g2,g3]
    refine .go (us++[.slice a41 l41 c41]) (.slice none 0 0) .nul e h1' (.nil 1 none) ?_
    obtain ⟨m,hm⟩:∃m,X.length - i - 1=m+1:=⟨X.length - i - 2,ak⟩
    rw [hm,show X.length - (i+1) - 1=m by omega,List.append_assoc]
    rfl
   ·refine ⟨H5,[.blk b7 [.slice (some ⟨b18,0,none⟩) l1.length l1.length],.blk b18 (us++ .slice a41 l41 c41::List.replicate (X.length - i - 1) (.slice none 0 0))],hle5,(hs.sb:St H5 w (.blk b7 _:: .blk b18 _::σf4)),_,rfl,?_⟩
    rw [g2,g3]
    refine .fin (us++[.slice a41 l41 c41]) ak h1' ?_
    rw [show X.length - i - 1=0 by omega]
    rfl
 ·rintro D H4 σb2 w hle4 ⟨σ1,rfl,hG⟩ hs
  rw [Nat.mul_div_cancel _ ak,Nat.mul_mod_left] at hG
  cases hG with
  |go us v en h=>omega
  |fin us h h1 h3=>
  subst h3
  replace hs:St H4 w (.obj D (.deferred (some [])):: .blk b7 [.slice (some ⟨b18,0,none⟩) l1.length l1.length]:: .blk b18 us::σ):=hs
  have husl:us.length=l1.length:=by rw [h1.1,jY,hXl]
  refine nB (nT ?_)
  refine .aj (.y hs (zld eg) (.z zg (.nil ?_)))
  refine .ret ?_
  obtain ⟨H5,hle5,hR,hs⟩:=h1.cO (v:= .slice (some ⟨b18,0,none⟩) l1.length l1.length) (en:= .blk b18 us) (.full (by simp [husl])) ak hs cU
  rw [hXl] at hR
  exact Fin.gR [D] [] hs fun w hs=>⟨_,results1 Tryz.results192 rfl,H5,hle03.trans (hle4.trans hle5),hR,hs.out⟩
theorem nf{v1 v2:Value}{l1 l2:List Int}(hs:St H w σ)(hr1:RI H v1 l1)(hr2:RI H v2 l2):
  Cl Tryz.prog 104 [v1,v2] w fun u w'=>∃H1 vo e,HLe H H1∧u= .tuple #[vo,I e]∧(fa 9 100000 l1∧fa 7 15000 l2→e=0∧RT H1 vo (me (wts l1) (wts l2) l1.length))∧(e=0→fa 9 100000 l1∧fa 7 15000 l2)∧St H1 w' σ:=by
 refine Cl.o Tryz.func104 Tryz.ntmps104 ag2 ?_
 refine .aj (.z zg (.z zg (.nil (.seq (.aj (.z zm (.z zm ?_)))))))
 refine .o (.call Tryz.call191 rfl (q7 hs hr1 hr2) ?_);rintro _ w ⟨b8,rfl,hb8,hs⟩
 refine .z iD (.nil ?_)
 refine (.cond rfl (fun hc9=>?_) (fun hc9=>?_))
 ·refine .aj (.z zg (.z zg (.nil ?_)))
  refine .ret (rT (Fin.jx Tryz.results104 rfl rfl ?_))
  exact ⟨H,_,_,HLe.refl H,rfl,fun h=>(by rw [hb8.2 h] at hc9;cases hc9),fun h=>ak,hs⟩
 ·refine .skip ?_
  refine nT ?_
  refine .aj (.z zm (.z zm ?_))
  have hp:=hb8.1 (by simpa using hc9)
  refine .o (.call Tryz.call192 rfl (tt hs hr1 hr2 hp.1 hp.2) ?_);rintro v12 w ⟨H1,hle1,hR,hs⟩
  refine .z zg (.z zg (.nil ?_))
  refine .ret (Fin.jx Tryz.results104 rfl rfl ?_)
  exact ⟨H1,_,_,hle1,rfl,fun _=>⟨rfl,hR⟩,fun _=>hp,hs⟩
theorem Gb{many:Nat}{most:Int}{l:List Int}(h2:2≤l.length)(hm:l.length≤many)(h:∀j<l.length,0≤gi l j∧gi l j≤most∧(0<j→gi l (j - 1)<gi l j)):fa many most l:=
 ⟨h2,hm,(h 0 ak).1,(h (l.length - 1) ak).2.1,fun i hi=>by have:=(h (i+1) hi).2.2 ak;rwa [Nat.add_sub_cancel] at this⟩
theorem sa{many:Nat}{most:Int}{l:List Int}(h:fa many most l){j:Nat}(hj:j<l.length):0≤gi l j∧gi l j≤most∧(0<j→gi l (j - 1)<gi l j):=
 ⟨(h.bd hj).1,(h.bd hj).2,fun h0=>by have:=h.rise (j - 1) ak;rwa [Nat.sub_add_cancel h0] at this⟩
theorem jI{v:Value}{l:List Int}{many:Nat}{most:Int}(hs:St H w σ)(hr:RI H v l)(hmany:many≤1000):
  Cl Tryz.prog 168 [v,I many,I most] w fun u w'=>∃b:Bool,u= .bool b∧(b=true↔fa many most l)∧St H w' σ:=by
 obtain ⟨a,c,rfl⟩:=RI.shape hr
 have hlen:=(RI.len hr).2.2
 refine Cl.o Tryz.func168 Tryz.ntmps168 ag3 ?_
 refine .aj (.z zg (.nil (.seq (.aj (.z zm (.z (cN ae) (.z fD (.z zm ?_))))))))
 refine .iB (t':=11) rfl (fun hb11=>?_) (fun hb11=>?_)
 ·refine .gFs 4 3 false rfl rfl rfl ?_
  refine .z zpT (.nil ?_)
  refine (.cT ?_)
  refine .aj (.z zg (.nil ?_))
  refine .ret (rT (Fin.bK sX rfl ?_))
  exact ⟨false,rfl,⟨fun h=>(by cases h),fun h=>by have:=h.two;omega⟩,hs⟩
 ·refine .gT rfl rfl ?_
  refine .z zm ?_
  refine .gT rfl rfl ?_
  refine .z (cN ae) ?_
  refine .gT rfl rfl ?_
  refine .z zm ?_
  refine .gT rfl rfl ?_
  refine .z kD (.z zpF (.nil ?_))
  refine (.bJ rfl (fun hc16=>?_) (fun hc16=>?_))
  ·refine .aj (.z zg (.nil ?_))
   refine .ret (rT (Fin.bK sX rfl ?_))
   exact ⟨false,rfl,⟨fun h=>(by cases h),fun h=>by have:=h.many;omega⟩,hs⟩
  ·refine .skip ?_
   refine nT ?_
   refine .seq (.aj (.z zg (.nil (.block ?_))))
   refine .loop (fun k:Nat=>⟨52,[],[(7,I (k:Int)),(0,.slice a l.length c),(1,I (many:Int)),(2,I most)]⟩)
    (fun k w=>k≤l.length∧(∀j<k,0≤gi l j∧gi l j≤most∧(0<j→gi l (j - 1)<gi l j))∧St H w σ) (fun k=>l.length - k) 0 (.cn rfl bQ a8)
    ⟨Nat.zero_le _,fun j hj=>by omega,hs⟩ ?_
   rintro k w ⟨hk,hno,hs⟩
   refine .seq (.aj (.z zm (.z zm (.z (cN ae) (.z fD (.nil ?_))))))
   refine (.bJ rfl (fun hc20=>?_) (fun hc20=>?_))
   ·refine .skip ?_
    refine nT ?_
    refine .seq (.block ?_)
    refine .seq (.draw mix rfl hs fun w hs=>?_)
    refine .z 0 rfl zm ?_;refine .z 1 rfl zm ?_
    refine .ixX (enc:=fun x=>[I x]) (i:=2) hs rfl aq .none hr rfl rfl ae ai (bE (l:=l) (i:=k) ak) cJ ?_;intro b25 o25 hc25;replace hc25:=bI.one hc25
    refine .r (i:=3) hs rfl aq .none (aO rfl af hc25) ?_
    refine .z 4 rfl fD ?_;refine .z 5 rfl zm ?_
    refine .iB (t':=28) rfl (fun hb28=>?_) (fun hb28=>?_)
    ·refine .qF (i:=6) rfl aq rfl rfl ?_
     refine .qF (i:=7) rfl aq rfl rfl ?_
     refine .qF (i:=8) rfl aq rfl rfl ?_
     refine .qF (i:=9) rfl aq rfl rfl ?_
     refine .qF (i:=10) rfl aq rfl rfl ?_
     refine .qF (i:=11) rfl aq rfl rfl ?_
     refine .z 12 rfl zpT ?_;refine .z 13 rfl zm ?_
     refine .qF (i:=14) rfl aq rfl rfl ?_
     refine .qF (i:=15) rfl aq rfl rfl ?_
     refine .qF (i:=16) rfl aq rfl rfl ?_
     refine .qF (i:=17) rfl aq rfl rfl ?_
     refine .qF (i:=18) rfl aq rfl rfl ?_
     refine .qF (i:=19) rfl aq rfl rfl ?_
     refine .qF (i:=20) rfl aq rfl rfl ?_
     refine .qF (i:=21) rfl aq rfl rfl ?_
     refine .qF (i:=22) rfl aq rfl rfl ?_
     refine .qF (i:=23) rfl aq rfl rfl ?_
     refine .qF (i:=24) rfl aq rfl rfl ?_
     refine .qF (i:=25) rfl aq rfl rfl ?_
     refine .qF (i:=26) rfl aq rfl rfl ?_
     refine .qF (i:=27) rfl aq rfl rfl ?_
     refine .z 28 rfl zpT ?_;refine .D hs ?_
     refine (.cT ?_)
     refine .aj (.z zg (.nil ?_))
     refine .ret (rB (rT (rT (rB (rT (Fin.bK sX rfl ?_))))))
     exact ⟨false,rfl,⟨fun h=>(by cases h),fun h=>by have:=sa h (j:=k) ak;omega⟩,hs⟩
    ·refine .z 6 rfl zm ?_;refine .z 7 rfl zm ?_
     refine .ixX (enc:=fun x=>[I x]) (i:=8) hs rfl aq (.some rfl rfl) hr rfl rfl ae ai (bE (l:=l) (i:=k) ak) cJ ?_;intro b31 o31 hc31;replace hc31:=bI.one hc31
     refine .r (i:=9) hs rfl aq (.some rfl rfl) (aO rfl af hc31) ?_
     refine .z 10 rfl zm ?_;refine .z 11 rfl kD ?_;refine .z 12 rfl zpF ?_;refine .z 13 rfl zm ?_
     refine .iB (t':=36) rfl (fun hb36=>?_) (fun hb36=>?_)
     ·refine .qF (i:=14) rfl aq rfl rfl ?_
      refine .qF (i:=15) rfl aq rfl rfl ?_
      refine .qF (i:=16) rfl aq rfl rfl ?_
      refine .qF (i:=17) rfl aq rfl rfl ?_
      refine .qF (i:=18) rfl aq rfl rfl ?_
      refine .qF (i:=19) rfl aq rfl rfl ?_
      refine .qF (i:=20) rfl aq rfl rfl ?_
      refine .qF (i:=21) rfl aq rfl rfl ?_
      refine .qF (i:=22) rfl aq rfl rfl ?_
      refine .qF (i:=23) rfl aq rfl rfl ?_
      refine .qF (i:=24) rfl aq rfl rfl ?_
      refine .qF (i:=25) rfl aq rfl rfl ?_
      refine .qF (i:=26) rfl aq rfl rfl ?_
      refine .qF (i:=27) rfl aq rfl rfl ?_
      refine .z 28 rfl zpT ?_;refine .D hs ?_
      refine (.cT ?_)
      refine .aj (.z zg (.nil ?_))
      refine .ret (rB (rT (rT (rB (rT (Fin.bK sX rfl ?_))))))
      exact ⟨false,rfl,⟨fun h=>(by cases h),fun h=>by have:=sa h (j:=k) ak;omega⟩,hs⟩
     ·refine .z 14 rfl zm ?_;refine .z 15 rfl kD ?_;refine .z 16 rfl zm ?_
      refine .iB (t':=39) rfl (fun hb39=>?_) (fun hb39=>?_)
      ·refine .z 17 rfl zm ?_;refine .z 18 rfl zm ?_;refine .z 19 rfl gO ?_
       refine .ixX (enc:=fun x=>[I x]) (i:=20) hs rfl aq (.some rfl rfl) hr rfl rfl ae ai (bE (l:=l) (i:=(k-1)) ak) cJ ?_;intro b43 o43 hc43;replace hc43:=bI.one hc43
       refine .r (i:=21) hs rfl aq (.some rfl rfl) (aO rfl af hc43) ?_
       refine .z 22 rfl zm ?_;refine .z 23 rfl zm ?_
       refine .ixX (enc:=fun x=>[I x]) (i:=24) hs rfl aq (.some rfl rfl) hr rfl rfl ae ai (bE (l:=l) (i:=k) ak) cJ ?_;intro b47 o47 hc47;replace hc47:=bI.one hc47
       refine .r (i:=25) hs rfl aq (.some rfl rfl) (aO rfl af hc47) ?_
       refine .z 26 rfl yA ?_;refine .z 27 rfl zpT ?_;refine .z 28 rfl zpF ?_;refine .D hs ?_
       refine (.bJ rfl (fun hc51=>?_) (fun hc51=>?_))
       ·refine .aj (.z zg (.nil ?_))
        refine .ret (rB (rT (rT (rB (rT (Fin.bK sX rfl ?_))))))
        exact ⟨false,rfl,⟨fun h=>(by cases h),fun h=>by have:=sa h (j:=k) ak;omega⟩,hs⟩
       ·refine .skip ?_
        refine nB (nT ?_)
        refine .region (.z zm (.z cH (.z zg (.nil ?_))))
        refine nT ?_
        exact ⟨k+1,.cn rfl bQ a8,⟨ak,fun j hj=>by
         by_cases e:j=k
         ·subst e;exact ⟨ak,ak,fun _=>by omega⟩
         ·exact hno j ak,hs⟩,ak⟩
      ·refine .qF (i:=17) rfl aq rfl rfl ?_
       refine .qF (i:=18) rfl aq rfl rfl ?_
       refine .qF (i:=19) rfl aq rfl rfl ?_
       refine .qF (i:=20) rfl aq rfl rfl ?_
       refine .qF (i:=21) rfl aq rfl rfl ?_
       refine .qF (i:=22) rfl aq rfl rfl ?_
       refine .qF (i:=23) rfl aq rfl rfl ?_
       refine .qF (i:=24) rfl aq rfl rfl ?_
       refine .qF (i:=25) rfl aq rfl rfl ?_
       refine .qF (i:=26) rfl aq rfl rfl ?_
       refine .z 27 rfl zpF ?_;refine .z 28 rfl zpF ?_;refine .D hs ?_
       refine (.cF ?_)
       refine .skip ?_
       refine nB (nT ?_)
       refine .region (.z zm (.z cH (.z zg (.nil ?_))))
       refine nT ?_
       exact ⟨k+1,.cn rfl bQ a8,⟨ak,fun j hj=>by
        by_cases e:j=k
        ·subst e;exact ⟨ak,ak,fun _=>by omega⟩
        ·exact hno j ak,hs⟩,ak⟩
   ·refine .exit ?_
    refine xT (xT (xB (nT ?_)))
    refine .aj (.z zg (.nil ?_))
    refine .ret (Fin.bK sX rfl ?_)
    exact ⟨true,rfl,⟨fun _=>Gb ak ak fun j hj=>hno j ak,fun _=>rfl⟩,hs⟩
theorem gS{v:Value}{l:List Int}(hs:St H w σ)(hr:RI H v l):
  Cl Tryz.prog 84 [v] w fun u w'=>∃e,u=I e∧((fa 9 100000 l∧e=0)∨(¬fa 9 100000 l∧e≠0))∧St H w' σ:=by
 refine Cl.o Tryz.func84 Tryz.ntmps84 ag1 ?_
 refine .aj (.z zg (.nil (.seq (.aj (.z zm ?_)))))
 refine .o (.call Tryz.call168 rfl (jI (many:=9) (most:=100000) hs hr ak) ?_);rintro _ w ⟨b4,rfl,hb4,hs⟩
 refine .z iD (.nil ?_)
 refine (.cond rfl (fun hc5=>?_) (fun hc5=>?_))
 ·refine .aj (.z zg (.nil ?_))
  refine .ret (rT (Fin.bK Tryz.results84 rfl ?_))
  exact ⟨_,rfl,.inr ⟨fun h=>by simp [hb4.2 h] at hc5,by decide⟩,hs⟩
 ·refine .skip ?_
  refine nT ?_
  refine .aj (.z zg (.nil ?_))
  refine .ret (Fin.bK Tryz.results84 rfl ?_)
  exact ⟨_,rfl,.inl ⟨hb4.1 (by simpa using hc5),rfl⟩,hs⟩
theorem En{a b k:Int}(hk:1≤k∧k≤3)(h:a*k=b∨b*k=a)(hno:∀j:Int,1≤j→j<k→¬(a*j=b∨b*j=a)):tms a b=k:=by
 have h3:k=1∨k=2∨k=3:=by omega
 unfold tms
 rcases h3 with rfl|rfl|rfl
 ·rw [if_pos ak]
 ·have:=hno 1 ak ak
  rw [if_neg ak,if_pos h]
 ·have:=hno 1 ak ak
  have:=hno 2 ak ak
  rw [if_neg ak,if_neg this,if_pos h]
theorem FL{a b:Int}(hno:∀j:Int,1≤j→j<4→¬(a*j=b∨b*j=a)):tms a b=0:=by
 have:=hno 1 ak ak
 have h2:=hno 2 ak ak
 have h3:=hno 3 ak ak
 unfold tms
 rw [if_neg ak,if_neg h2,if_neg h3]
theorem mH{a b:Int}(hs:St H w σ)(ha:0≤a∧a≤100000)(hb:0≤b∧b≤100000):
  Cl Tryz.prog 281 [I a,I b] w fun u w'=>u=I (tms a b)∧St H w' σ:=by
 refine Cl.o Tryz.func281 Tryz.ntmps281 ag2 ?_
 refine .aj (.z zg (.nil (.seq (.aj (.z zg (.nil (.block ?_)))))))
 refine .loop (fun k:Nat=>⟨23,[],[(5,I (k:Int)),(0,I a),(1,I b)]⟩)
  (fun k w=>1≤k∧k≤4∧(∀j:Int,1≤j→j<k→¬(a*j=b∨b*j=a))∧St H w σ) (fun k=>4 - k) 1 (.cn rfl bQ a8)
  ⟨ak,ak,fun j h1 h2=>by omega,hs⟩ ?_
 rintro k w ⟨hk1,hk4,hno,hs⟩
 have hba:=kP (a:=a) (b:=(k:Int)) (A:=100000) (B:=4) ak ak
 have hbb:=kP (a:=b) (b:=(k:Int)) (A:=100000) (B:=4) ak ak
 refine .seq (.aj (.z zm (.z wc (.nil ?_))))
 refine (.bJ rfl (fun hc7=>?_) (fun hc7=>?_))
 ·refine .skip ?_
  refine nT ?_
  refine .seq (.block (.aj (.z zm (.z zm (.z ki (.z zm (.z fw (.z zm ?_))))))))
  refine .iB (t':=15) rfl (fun hb15=>?_) (fun hb15=>?_)
  ·refine .gFs 5 5 false rfl rfl rfl ?_
   refine .z zpT (.nil ?_)
   refine (.cT ?_)
   refine .aj (.z zm (.z zg (.nil ?_)))
   refine .ret (rB (rT (rT (rB (rT (Fin.bK Tryz.results281 rfl ?_))))))
   exact ⟨by rw [En ⟨ak,ak⟩ (.inl hb15) hno],hs⟩
  ·refine .gT rfl rfl ?_
   refine .z zm ?_
   refine .gT rfl rfl ?_
   refine .z zm ?_
   refine .gT rfl rfl ?_
   refine .z ki ?_
   refine .gT rfl rfl ?_
   refine .z zm ?_
   refine .gT rfl rfl ?_
   refine .z fw (.z zpF (.nil ?_))
   refine (.bJ rfl (fun hc21=>?_) (fun hc21=>?_))
   ·refine .aj (.z zm (.z zg (.nil ?_)))
    refine .ret (rB (rT (rT (rB (rT (Fin.bK Tryz.results281 rfl ?_))))))
    exact ⟨by rw [En ⟨ak,ak⟩ (.inr hc21) hno],hs⟩
   ·refine .skip ?_
    refine nB (nT ?_)
    refine .region (.z zm (.z cH (.z zg (.nil ?_))))
    refine nT ?_
    exact ⟨k+1,.cn rfl bQ a8,⟨ak,ak,fun j h1 h2=>by
     by_cases e:j=(k:Int)
     ·subst e;omega
     ·exact hno j h1 ak,hs⟩,ak⟩
 ·refine .exit ?_
  refine xT (xT (xB (nT ?_)))
  refine .aj (.z zg (.nil ?_))
  refine .ret (Fin.bK Tryz.results281 rfl ?_)
  obtain rfl:k=4:=by omega
  exact ⟨by rw [FL hno],hs⟩
def Grp.c(g:Grp):List Value:=[I (g.at_:Int),I (g.n:Int)]
def Ee(l:List Grp):List Value:=(l.map Grp.c).flatten
theorem zq(a b:List Grp):Ee (a++b)=Ee a++Ee b:=by simp [Ee]
theorem uJ:∀l:List Grp,(Ee l).length=l.length*2
 |[]=>rfl
 |g::l=>by have:=uJ l;simp only [Ee,List.map_cons,List.flatten_cons,List.length_append,List.length_cons] at this ⊢;rw [this];simp [Grp.c];omega
set_option maxHeartbeats 1000000 in
theorem rC{v:Value}{l:List Int}(hs:St H w σ)(hr:RI H v l)(hp:fa 9 100000 l):
  Cl Tryz.prog 280 [v] w fun u w'=>∃H1,HLe H H1∧RS H1 2 u ((mc l).map Grp.c)∧St H1 w' σ:=by
 obtain ⟨a,c,rfl⟩:=RI.shape hr
 have hlen:=hp.many
 have hgl:(mc l).length≤9:=by have:=lz l l.length 0;unfold mc;omega
 refine Cl.o Tryz.func280 Tryz.ntmps280 ag1 ?_
 refine .aj (.z zg (.nil (.aj (.z zg (.nil (.aj (.z zg (.nil (.seq ?_)))))))))
 refine .block ?_
 refine .loop (fun p:Nat×Value=>⟨51,[],[(4,I (p.1:Int)),(3,p.2),(0,.slice a l.length c)]⟩)
  (fun p w=>p.1≤l.length∧∃j en,j≤(mc l).length∧(mc l).drop j=mI l p.1∧cz 2 p.2 (Ee ((mc l).take j)) en∧St H w (en::σ)) (fun p=>l.length - p.1) (0,.slice none 0 0) a8
  ⟨Nat.zero_le _,0,_,Nat.zero_le _,rfl,.nil 2 none,hs.nul⟩ ?_
 rintro ⟨i,vo⟩ w ⟨hil,j,en,hj,hd,hO,hs⟩
 dsimp only at hil hd hO ⊢
 have htl:=List.length_take_le j (mc l)
 refine .seq (.aj (.z zm (.z cH (.z zm (.z (cN ae) (.z fD (.nil ?_)))))))
 refine (.bJ rfl (fun hc10=>?_) (fun hc10=>?_))
 ·refine .skip ?_
  refine nT ?_
  refine .block (.aj (.z zg (.nil ?_)))
  refine .cut (fun fs w=>kB fs ⟨51,[],[(5,I (((if eV l i then 2 else 1:Nat)):Int)),(4,I (i:Int)),(3,vo),(0,.slice a l.length c)]⟩∧St H w (en::σ)) ?_ ?_
  ·refine .seq (.draw mix rfl hs fun w hs=>?_)
   refine .z 0 rfl zm ?_;refine .z 1 rfl cH ?_;refine .z 2 rfl zm ?_;refine .z 3 rfl (cN ae) ?_;refine .z 4 rfl fD ?_;refine .z 5 rfl zm ?_
   refine .iB (t':=16) rfl (fun hb16=>?_) (fun hb16=>?_)
   ·refine .z 6 rfl zm ?_;refine .z 7 rfl zm ?_;refine .z 8 rfl cH ?_
    have r1:=hp.rise i ak
    have r2:gi l (i+1)<gi l (i+2):=hp.rise (i+1) ak
    have q1:=hp.bd (i:=i) ak
    have q2:=hp.bd (i:=i+2) ak
    refine .ixX (enc:=fun x=>[I x]) (i:=9) hs rfl aq (.some rfl rfl) hr rfl rfl ae ai (bE (l:=l) (i:=(i+1)) ak) cJ ?_;intro b20 o20 hc20;replace hc20:=bI.one hc20
    refine .r (i:=10) hs rfl aq (.some rfl rfl) (aO rfl af hc20) ?_
    refine .z 11 rfl zm ?_;refine .z 12 rfl zm ?_
    refine .ixX (enc:=fun x=>[I x]) (i:=13) hs rfl aq (.some rfl rfl) hr rfl rfl ae ai (bE (l:=l) (i:=i) ak) cJ ?_;intro b24 o24 hc24;replace hc24:=bI.one hc24
    refine .r (i:=14) hs rfl aq (.some rfl rfl) (aO rfl af hc24) ?_
    refine .z 15 rfl gO ?_;refine .z 16 rfl zm ?_;refine .z 17 rfl zm ?_;refine .z 18 rfl cH ?_
    refine .ixX (enc:=fun x=>[I x]) (i:=19) hs rfl aq (.some rfl rfl) hr rfl rfl ae ai (bE (l:=l) (i:=(i+2)) ak) cJ ?_;intro b30 o30 hc30;replace hc30:=bI.one hc30
    refine .r (i:=20) hs rfl aq (.some rfl rfl) (aO rfl af hc30) ?_
    refine .z 21 rfl zm ?_;refine .z 22 rfl zm ?_;refine .z 23 rfl cH ?_
    refine .ixX (enc:=fun x=>[I x]) (i:=24) hs rfl aq (.some rfl rfl) hr rfl rfl ae ai (bE (l:=l) (i:=(i+1)) ak) cJ ?_;intro b35 o35 hc35;replace hc35:=bI.one hc35
    refine .r (i:=25) hs rfl aq (.some rfl rfl) (aO rfl af hc35) ?_
    refine .z 26 rfl gO ?_
    refine .E 27 hs ?_
    refine .call Tryz.call281 rfl (mH hs ak ak) ?_;rintro _ w ⟨rfl,hs⟩
    refine .go ?_
    refine .z 28 rfl kD ?_;refine .z 29 rfl zpT ?_;refine .D hs ?_
    refine (.bJ rfl (fun hc40=>?_) (fun hc40=>?_))
    ·refine .region (.z zg (.nil ?_))
     refine nT ?_
     have e:eV l i=true:=by simp [eV];omega
     rw [e];exact ⟨a8,hs⟩
    ·refine .skip ?_
     refine nT ?_
     have e:eV l i=false:=by simp [eV];omega
     rw [e];exact ⟨a8,hs⟩
   ·refine .qF (i:=6) rfl aq rfl rfl ?_
    refine .qF (i:=7) rfl aq rfl rfl ?_
    refine .qF (i:=8) rfl aq rfl rfl ?_
    refine .qF (i:=9) rfl aq rfl rfl ?_
    refine .qF (i:=10) rfl aq rfl rfl ?_
    refine .qF (i:=11) rfl aq rfl rfl ?_
    refine .qF (i:=12) rfl aq rfl rfl ?_
    refine .qF (i:=13) rfl aq rfl rfl ?_
    refine .qF (i:=14) rfl aq rfl rfl ?_
    refine .qF (i:=15) rfl aq rfl rfl ?_
    refine .qF (i:=16) rfl aq rfl rfl ?_
    refine .qF (i:=17) rfl aq rfl rfl ?_
    refine .qF (i:=18) rfl aq rfl rfl ?_
    refine .qF (i:=19) rfl aq rfl rfl ?_
    refine .qF (i:=20) rfl aq rfl rfl ?_
    refine .qF (i:=21) rfl aq rfl rfl ?_
    refine .qF (i:=22) rfl aq rfl rfl ?_
    refine .qF (i:=23) rfl aq rfl rfl ?_
    refine .qF (i:=24) rfl aq rfl rfl ?_
    refine .qF (i:=25) rfl aq rfl rfl ?_
    refine .qF (i:=26) rfl aq rfl rfl ?_
    refine .qF (i:=27) rfl aq rfl rfl ?_
    refine .qF (i:=28) rfl aq rfl rfl ?_
    refine .z 29 rfl zpF ?_;refine .D hs ?_
    refine (.cF ?_)
    refine .skip ?_
    refine nT ?_
    have e:eV l i=false:=by simp [eV];omega
    rw [e];exact ⟨a8,hs⟩
  ·rintro fs w ⟨hfs,hs⟩
   refine WE.sub ?_ hfs
   have hgo:=uv (l:=l) (i:=i) ak
   rw [hgo] at hd
   have hjl:j<(mc l).length:=by
    have:=congrArg List.length hd
    simp at this;omega
   have hgj:(mc l)[j]? =some ⟨i,eV l i⟩:=by
    rw [List.drop_eq_getElem_cons hjl] at hd
    rw [List.getElem?_eq_getElem hjl,(List.cons.inj hd).1]
   have hdj:(mc l).drop (j+1)=mI l (i+(if eV l i then 2 else 1)):=by
    rw [List.drop_eq_getElem_cons hjl] at hd
    exact (List.cons.inj hd).2
   have hn12:(if eV l i then 2 else 1:Nat)=1∨(if eV l i then 2 else 1:Nat)=2:=by split<;>simp
   have hgc:Grp.c ⟨i,eV l i⟩=[I (i:Int),I (((if eV l i then 2 else 1:Nat)):Int)]:=rfl
   generalize (if eV l i then 2 else 1:Nat)=n at*
   refine .aj (.z zm (.z zm (.z zm (.z (zbd [_,_] qQ) ?_))))
   refine .o (.buildSlice (cells:=[_,_]) hs qN rfl rfl fun b45 w hs=>?_)
   refine .o (.append (ys:=[I (i:Int),I (n:Int)]) hs kY rfl rfl hO (.own .here rfl rfl) (by simp [Value.oneCell']) (fun l' h=>by rw [uJ] at h;omega) ?_);intro v46 en46 w hO2 hs
   rw [←hgc,show Grp.c ⟨i,eV l i⟩=Ee [⟨i,eV l i⟩] by simp [Ee],←zq,←df hgj] at hO2
   refine .z zg (.nil (.region (.z zm (.z zm (.z cH (.z zg (.nil ?_)))))))
   refine nB (nT ?_)
   exact ⟨(i+n,v46),.cn rfl bQ a8,⟨by dsimp only;omega,j+1,_,hjl,hdj,hO2,hs.sb⟩,by dsimp only;omega⟩
 ·refine .exit ?_
  refine xT (xT (xB (nT ?_)))
  refine .aj (.z zm (.z zg (.nil ?_)))
  refine .ret (Fin.bK Tryz.results280 rfl ?_)
  rw [rN ak] at hd
  have:(mc l).length≤j:=by simpa using hd
  obtain rfl:j=(mc l).length:=by omega
  rw [List.take_length] at hO
  obtain ⟨H1,g1,r1,hs⟩:=cz.cO (m:=2) (cs:=(mc l).map Grp.c) hO (fun c hc=>by simp only [List.mem_map] at hc;obtain ⟨x,_,rfl⟩:=hc;rfl) ak (by rw [List.length_map];omega) hs .here
  exact ⟨H1,g1,r1,hs⟩
theorem qz{l:List Int}{i j:Nat}(h:i≠j)(x:Int):gi (l.set i x) j=gi l j:=by
 simp [gi,List.getD,h]
set_option maxHeartbeats 1000000 in
theorem jn{v:Value}{l:List Int}(hs:St H w σ)(hr:RI H v l)(hp:fa 9 100000 l):
  Cl Tryz.prog 251 [v] w fun u w'=>∃H1,HLe H H1∧RI H1 u (wts l)∧St H1 w' σ:=by
 obtain ⟨a,c,rfl⟩:=RI.shape hr
 have hln:=hp.many
 have hgl:(mc l).length≤9:=by have:=lz l l.length 0;unfold mc;omega
 refine Cl.o Tryz.func251 Tryz.ntmps251 ag1 ?_
 refine .aj (.z zg (.nil (.aj (.z zm (.z (cN ae) ?_)))))
 refine .o (.pD l.length hs rfl rfl ae dW rfl ai bO ak fun b16 w hs=>?_)
 replace hs:St H w (.blk b16 (Is (tp l 0))::σ):=hs
 refine .z zg (.nil (.aj (.z zm ?_)))
 refine .o (.call Tryz.call280 rfl (rC hs hr hp) ?_);rintro v18 w ⟨H1,hle1,hG,hs⟩
 have hrr:=hr.mono hle1
 obtain ⟨ag,cg,rfl⟩:=RS.shape hG
 rw [List.length_map] at hG ⊢
 refine .z zg (.nil (.seq (.aj (.z zg (.nil (.block ?_))))))
 refine .loop (fun k:Nat=>⟨133,[],[(5,I (k:Int)),(4,.slice ag (mc l).length cg),(3,.slice (some ⟨b16,0,none⟩) l.length l.length),(0,.slice a l.length c)]⟩)
  (fun k w=>k≤(mc l).length∧St H1 w (.blk b16 (Is (tp l k))::σ)) (fun k=>(mc l).length - k) 0 (.cn rfl bQ a8)
  ⟨Nat.zero_le _,hs⟩ ?_
 rintro k w ⟨hk,hs⟩
 refine .seq (.aj (.z zm (.z zm (.z (cN kC) (.z fD (.nil ?_))))))
 refine (.bJ rfl (fun hc22=>?_) (fun hc22=>?_))
 ·refine .skip ?_
  refine nT ?_
  refine .seq (.block (.aj (.z zm (.z zm ?_))))
  have hjl:k<(mc l).length:=by omega
  obtain ⟨g,hg⟩:=nth hjl
  obtain ⟨i1,i2,i3,i4,i5⟩:=uw hp (List.mem_of_getElem? hg)
  have hK:=tn hg
  have hKl:=mi l k
  have hKz:=q5 hp k ak
  have z0:=iU (tp l k) (v:=g.at_) (n:=l.length) ak
  have z1:=iU (tp l k) (v:=g.at_+1) (n:=l.length) ak
  have hq0:=hp.bd (i:=g.at_) ak
  have hq1:=hp.bd (i:=g.at_+1) ak
  have hgm:((mc l).map Grp.c)[k]? =some (Grp.c g):=by rw [List.getElem?_map,hg];rfl
  generalize tp l k=W at*
  have e1:∀x,gi (W.set g.at_ x) (g.at_+1)=gi W (g.at_+1):=fun x=>qz ak x
  generalize hA:gi l (g.at_+1) - gi l g.at_=A at*
  refine .ixX (enc:=Grp.c) hs hG rfl rfl kC oK hg cJ ?_;intro b27 o27 hc27
  have d0:cellAt H1 b27 o27=some (I (g.at_:Int)):=hc27 0 _ rfl
  have d1:cellAt H1 b27 (o27+1)=some (I (g.n:Int)):=hc27 1 _ rfl
  refine .z (zfa fY) (.y hs (zld af) (.z zg (.nil ?_)))
  refine .seq (.draw mix rfl hs fun w hs=>?_)
  refine .z 0 rfl zm ?_;refine .z 1 rfl zm ?_;refine .z 2 rfl cH ?_
  refine .ixX (enc:=fun x=>[I x]) (i:=3) hs rfl aq .none hrr rfl rfl ae ai (bE (l:=l) (i:=(g.at_+1)) ak) cJ ?_;intro b33 o33 hc33;replace hc33:=bI.one hc33
  refine .r (i:=4) hs rfl aq .none (aO rfl af hc33) ?_
  refine .z 5 rfl zm ?_;refine .z 6 rfl zm ?_
  refine .ixX (enc:=fun x=>[I x]) (i:=7) hs rfl aq .none hrr rfl rfl ae ai (bE (l:=l) (i:=g.at_) ak) cJ ?_;intro b37 o37 hc37;replace hc37:=bI.one hc37
  refine .r (i:=8) hs rfl aq .none (aO rfl af hc37) ?_
  refine .z 9 rfl gO ?_
  rw [hA]
  refine .z 10 rfl zg ?_;refine .D hs ?_
  refine .seq (.aj (.z zm (.z zm ?_)))
  refine .ixX (enc:=Grp.c) hs hG rfl rfl kC oK hg cJ ?_;intro b42 o42 hc42
  have d2:cellAt H1 b42 (o42+1)=some (I (g.n:Int)):=hc42 1 _ rfl
  refine .z (zfa iP) (.y hs (zld af) (.z fw (.nil ?_)))
  refine (.bJ rfl (fun hc45=>?_) (fun hc45=>?_))
  ·refine .aj (.z zm (.z zm ?_))
   refine .q hs (ef (k:=g.at_) rfl rfl ae ai ak ak) ?_
   refine .y hs (zld af) (.z zm (.z ki (.z cH ?_)))
   refine .q hs (ef (k:=g.at_) rfl rfl ae ai ak ak) ?_
   refine .o (.store hs rfl rfl ai fun w hs=>?_)
   refine .nil (.aj (.z zm (.z zm (.z cH ?_))))
   refine .q hs (ef (k:=g.at_+1) rfl rfl ae ai ak ak) ?_
   refine .q hs (ed rfl af (hv:=fk (by rw [List.length_set];omega))) ?_
   rw [e1]
   refine .z zm (.z ki (.z cH ?_))
   refine .q hs (ef (k:=g.at_+1) rfl rfl ae ai ak ak) ?_
   refine .o (.store hs rfl rfl ai ?_ cU (by simp [Is];omega));intro w hs
   refine .nil ?_
   refine .exit ?_
   refine xT (xB (nT ?_))
   refine .region (.z zm (.z cH (.z zg (.nil ?_))))
   refine nT ?_
   have h2:g.two=false:=by
    cases e:g.two with
    |false=>rfl
    |true=>simp [Grp.n,e] at hc45
   rw [zY h2 hA] at hK
   have e:tp l (k+1)=(W.set g.at_ (gi W g.at_+18*A)).set (g.at_+1) (gi W (g.at_+1)+18*A):=by rw [hK];simp only [kV];rw [e1]
   exact ⟨k+1,.cn rfl bQ a8,⟨ak,by rw [e];exact hs⟩,ak⟩
  ·refine .skip ?_
   refine nT ?_
   refine .seq (.draw mix rfl hs fun w hs=>?_)
   have h2:g.two=true:=by
    cases e:g.two with
    |true=>rfl
    |false=>simp [Grp.n,e] at hc45
   obtain ⟨j1,j2,j3,j4⟩:=i4 h2
   have hq2:=hp.bd (i:=g.at_+2) ak
   have z2:=iU W (v:=g.at_+2) (n:=l.length) ak
   have e2:∀x y,gi ((W.set g.at_ x).set (g.at_+1) y) (g.at_+2)=gi W (g.at_+2):=fun x y=>by rw [qz ak,qz ak]
   generalize hB:gi l (g.at_+2) - gi l (g.at_+1)=B at*
   have hk3:=Bg j4
   have hmm:=vO (a:=A) (b:=B) ⟨ak,ak⟩ ⟨ak,ak⟩
   obtain ⟨n1,n2,n3,n4⟩:=zW hk3 hmm.1 hmm.2
   obtain ⟨n5,n6,n7,n8,n9⟩:=n4 _ n3.1 n3.2
   have hgw0:=zX h2 hA hB rfl rfl
   refine .z 0 rfl zm ?_;refine .z 1 rfl zm ?_;refine .z 2 rfl cH ?_
   refine .ixX (enc:=fun x=>[I x]) (i:=3) hs rfl aq .none hrr rfl rfl ae ai (bE (l:=l) (i:=(g.at_+2)) ak) cJ ?_;intro b66 o66 hc66;replace hc66:=bI.one hc66
   refine .r (i:=4) hs rfl aq .none (aO rfl af hc66) ?_
   refine .z 5 rfl zm ?_;refine .z 6 rfl zm ?_;refine .z 7 rfl cH ?_
   refine .ixX (enc:=fun x=>[I x]) (i:=8) hs rfl aq .none hrr rfl rfl ae ai (bE (l:=l) (i:=(g.at_+1)) ak) cJ ?_;intro b71 o71 hc71;replace hc71:=bI.one hc71
   refine .r (i:=9) hs rfl aq .none (aO rfl af hc71) ?_
   refine .z 10 rfl gO ?_
   rw [hB]
   refine .z 11 rfl zg ?_;refine .D hs ?_
   refine .aj (.z zm (.z zm ?_))
   refine .o (.call Tryz.call281 rfl (mH hs ak ak) ?_);rintro _ w ⟨rfl,hs⟩
   generalize hT:tms A B=T at*
   refine .z zg (.nil (.aj (.z zm (.z zm (.z zw ?_)))))
   generalize hM:min A B=M at*
   refine .z zg (.nil (.aj (.z zm ?_)))
   refine .q hs (ue rfl rfl ak ak) ?_
   refine .z zm (.z cH (.z ki (.z zm (.z ki (.z zg (.nil (.aj (.z zm (.z zm ?_)))))))))
   refine .z ki (.z zm (.z gO (.z ki (.z zg (.nil (.aj (.z zm (.z zm (.z ki ?_)))))))))
   refine .z gO (.z ki (.z zg (.nil ?_)))
   refine .cut (fun fs w=>∃x y:Int,kB fs ⟨133,[],[(13,I y),(12,I x),(11,I ((6:Int).tdiv T*(1+T)*M)),(9,I T),(6,I (g.at_:Int)),(5,I (k:Int)),(4,.slice ag (mc l).length cg),(3,.slice (some ⟨b16,0,none⟩) l.length l.length),(0,.slice a l.length c)]⟩∧(-6000000≤x∧x≤6000000)∧(-6000000≤y∧y≤6000000)∧u9 l g=[x,(6:Int).tdiv T*(1+T)*M*(1+T)*(1+T),y]∧St H1 w (.blk b16 (Is W)::σ)) ?_ ?_
   ·refine .aj (.z zm (.z zm (.z kD (.nil ?_))))
    refine (.bJ rfl (fun hc100=>?_) (fun hc100=>?_))
    ·refine .region (.z zm (.z zm (.z zg (.z zg (.nil ?_)))))
     refine nT ?_
     exact ⟨_,_,a8,ak,ak,by rw [hgw0,if_pos hc100],hs⟩
    ·refine .skip ?_
     refine nT ?_
     exact ⟨_,_,a8,ak,ak,by rw [hgw0,if_neg ak],hs⟩
   ·rintro fs w ⟨x,y,hfs,hx,hy,hgw,hs⟩
    refine WE.sub ?_ hfs
    have e:tp l (k+1)=((W.set g.at_ (gi W g.at_+x)).set (g.at_+1) (gi W (g.at_+1)+(6:Int).tdiv T*(1+T)*M*(1+T)*(1+T))).set (g.at_+2) (gi W (g.at_+2)+y):=by
     rw [hK,hgw];simp only [kV];rw [e1,show g.at_+1+1=g.at_+2 by omega,e2]
    refine .aj (.z zm (.z zm ?_))
    refine .q hs (ef (k:=g.at_) rfl rfl ae ai ak ak) ?_
    refine .y hs (zld af) (.z zm (.z cH ?_))
    refine .q hs (ef (k:=g.at_) rfl rfl ae ai ak ak) ?_
    refine .o (.store hs rfl rfl ai fun w hs=>?_)
    refine .nil (.aj (.z zm (.z zm (.z cH ?_))))
    refine .q hs (ef (k:=g.at_+1) rfl rfl ae ai ak ak) ?_
    refine .q hs (ed rfl af (hv:=fk (by rw [List.length_set];omega))) ?_
    rw [e1]
    refine .z zm (.z zm (.z cH (.z ki (.z zm (.z cH (.z ki (.z cH ?_)))))))
    refine .q hs (ef (k:=g.at_+1) rfl rfl ae ai ak ak) ?_
    refine .o (.store hs rfl rfl ai ?_ cU (by simp [Is];omega));intro w hs
    refine .nil (.region (.z zm (.z zm (.z cH ?_))))
    refine .q hs (ef (k:=g.at_+2) rfl rfl ae ai ak ak) ?_
    refine .q hs (ed rfl af (hv:=fk (by rw [List.length_set,List.length_set];omega))) ?_
    rw [e2]
    refine .z zm (.z cH ?_)
    refine .q hs (ef (k:=g.at_+2) rfl rfl ae ai ak ak) ?_
    refine .o (.store hs rfl rfl ai ?_ cU (by simp [Is];omega));intro w hs
    refine .nil ?_
    refine nB (nT ?_)
    refine .region (.z zm (.z cH (.z zg (.nil ?_))))
    refine nT ?_
    exact ⟨k+1,.cn rfl bQ a8,⟨ak,by rw [e];exact hs⟩,ak⟩
 ·refine .exit ?_
  refine xT (xT (xB (nT ?_)))
  refine .aj (.z zm (.z zg (.nil ?_)))
  refine .ret (Fin.bK Tryz.results251 rfl ?_)
  obtain rfl:k=(mc l).length:=by omega
  rw [zA] at hs
  obtain ⟨H3,hle3,hR,hs⟩:=cz.cK (xs:=wts l) (v:= .slice (some ⟨b16,0,none⟩) l.length l.length) (.full (by simp [Is,eR])) (by rw [eR];omega) hs .here
  exact ⟨H3,hle1.trans hle3,hR,hs⟩
theorem ln{v:Value}{l:List Int}(hs:St H w σ)(hr:RI H v l)(hp:fa 9 100000 l):
  Cl Tryz.prog 196 [v] w fun u w'=>∃H1 vo,HLe H H1∧u= .tuple #[vo,I 0]∧RI H1 vo (wts l)∧St H1 w' σ:=by
 refine Cl.o Tryz.func196 Tryz.ntmps196 ag1 ?_
 refine .aj (.z zg (.z zg (.nil (.seq (.aj (.z zm ?_))))))
 refine .o (.call Tryz.call84 rfl (gS hs hr) ?_);rintro _ w ⟨e,rfl,he,hs⟩
 obtain rfl:e=0:=he.elim (fun h=>h.2) fun h=>(h.1 hp).elim
 refine .z gP (.nil ?_)
 refine (.eI rfl (fun hc7=>?_) (fun hc7=>?_))
 ·refine .aj (.z zg (.z zg (.nil ?_)))
  refine .ret (rT (Fin.jx Tryz.results196 rfl rfl ?_))
  exact (hc7 rfl).elim
 ·refine .skip ?_
  refine nT ?_
  refine .aj (.z zm ?_)
  refine .o (.call Tryz.call251 rfl (jn hs hr hp) ?_);rintro v9 w ⟨H1,hle1,hR,hs⟩
  refine .z zg (.nil (.aj (.z zm (.z zg (.z zg (.nil ?_))))))
  refine .ret (Fin.jx Tryz.results196 rfl rfl ?_)
  exact ⟨H1,_,hle1,rfl,hR,hs⟩
theorem qe{v1 v2:Value}{a b:List Int}(hs:St H w σ)(h1:RI H v1 a)(h2:RI H v2 b)(hp1:fa 9 100000 a)(hp2:fa 7 15000 b):
  Cl Tryz.prog 250 [v1,v2] w fun u w'=>u= .bool true∧St H w' σ:=by
 refine Cl.o Tryz.func250 Tryz.ntmps250 ag2 ?_
 refine .aj (.z zg (.nil (.aj (.z zm ?_))))
 refine .o (.call Tryz.call168 rfl (jI (many:=9) (most:=100000) hs h1 ak) ?_);rintro _ w ⟨b6,rfl,hb6,hs⟩
 refine .z zm ?_
 refine .bif (t':=7) rfl (fun hb7=>?_) (fun hb7=>?_)
 ·refine .gT rfl rfl ?_
  refine .z zm ?_
  refine .gT rfl rfl ?_
  refine .o (.call Tryz.call168 rfl (jI (many:=7) (most:=15000) hs h2 ak) ?_);rintro _ w ⟨b9,rfl,hb9,hs⟩
  refine .z zpT (.z zg (.nil ?_))
  refine .ret (Fin.bK Tryz.results250 rfl ?_)
  exact ⟨by rw [hb9.2 hp2],hs⟩
 ·refine .gFs 2 2 true rfl rfl rfl ?_
  refine .z zpF (.z zg (.nil ?_))
  refine .ret (Fin.bK Tryz.results250 rfl ?_)
  rw [hb6.2 hp1] at hb7;cases hb7
set_option maxHeartbeats 1000000 in
theorem tX{v1 v2:Value}{l1 l2:List Int}(hs:St H w σ)(hr1:RI H v1 l1)(hr2:RI H v2 l2)(hp1:fa 9 100000 l1)(hp2:fa 7 15000 l2):
  Cl Tryz.prog 195 [v1,v2] w fun u w'=>∃H1 vo,HLe H H1∧u= .tuple #[vo,I 0]∧RT H1 vo (me (wts l1) (wts l2) l1.length)∧St H1 w' σ:=by
 obtain ⟨a1,c1,rfl⟩:=RI.shape hr1
 obtain ⟨a2,c2,rfl⟩:=RI.shape hr2
 have hn1:=hp1.many
 have hn2:=hp2.many
 have hp2':fa 9 100000 l2:=⟨hp2.two,ak,hp2.low,by have:=hp2.high;omega,hp2.rise⟩
 have hXl:=eR l1
 have hYl:=eR l2
 have hXb:=zy hp1
 have hYb:=zy hp2
 refine Cl.o Tryz.func195 Tryz.ntmps195 ag2 ?_
 refine .aj (.z zg (.z zg (.nil (.seq (.aj (.z zm (.z zm ?_)))))))
 refine .o (.call Tryz.call250 rfl (qe hs hr1 hr2 hp1 hp2) ?_);rintro _ w ⟨rfl,hs⟩
 refine .z iD (.nil ?_)
 refine (.cond rfl (fun hc15=>?_) (fun hc15=>?_))
 ·refine .aj (.z zg (.z zg (.nil ?_)))
  refine .ret (rT (Fin.jx Tryz.results195 rfl rfl ?_))
  cases hc15
 ·refine .skip ?_
  refine nT ?_
  refine .aj (.z zm ?_)
  refine .o (.call Tryz.call251 rfl (jn hs hr1 hp1) ?_);rintro v17 w ⟨H1,hle1,hX,hs⟩
  refine .z zg (.nil (.aj (.z zm ?_)))
  refine .o (.call Tryz.call251 rfl (jn hs (hr2.mono hle1) hp2') ?_);rintro v19 w ⟨H2,hle2,hY,hs⟩
  replace hX:=hX.mono hle2
  generalize wts l1=X at*
  generalize wts l2=Y at*
  obtain ⟨aX,cX,rfl⟩:=RI.shape hX
  obtain ⟨aY,cY,rfl⟩:=RI.shape hY
  refine .z zg (.nil (.aj (.z zg (.nil (.seq (.aj (.z zg (.nil (.block ?_)))))))))
  refine .loop (fun p:Nat×Value=>⟨49,[],[(9,I (p.1:Int)),(8,p.2),(7,.slice aY Y.length cY),(6,.slice aX X.length cX)]⟩)
   (fun p w=>p.1≤X.length∧∃H3 us en,HLe H2 H3∧RLs H3 us (me X Y p.1)∧cz 1 p.2 us en∧St H3 w (en::σ)) (fun p=>X.length - p.1) (0,.slice none 0 0) a8
   ⟨Nat.zero_le _,H2,[],_,HLe.refl _,RLs.nil _,.nil 1 none,hs.nul⟩ ?_
  rintro ⟨i,vo⟩ w ⟨hi,H3,us,en,hle3,hRL,hO,hs⟩
  dsimp only at hi hRL hO ⊢
  have husl:us.length=i:=by rw [hRL.1,jY]
  refine .seq (.aj (.z zm (.z zm (.z (cN ae) (.z fD (.nil ?_))))))
  refine (.bJ rfl (fun hc23=>?_) (fun hc23=>?_))
  ·refine .skip ?_
   refine nT ?_
   refine .seq (.block (.aj (.z zg (.nil (.seq (.aj (.z zg (.nil (.block ?_)))))))))
   refine .loop (fun p:Nat×Value=>⟨49,[],[(11,I (p.1:Int)),(10,p.2),(9,I (i:Int)),(8,vo),(7,.slice aY Y.length cY),(6,.slice aX X.length cX)]⟩)
    (fun p w=>p.1≤Y.length∧∃en2,cz 1 p.2 (Is ((xl X Y i).take p.1)) en2∧St H3 w (en2::en::σ)) (fun p=>Y.length - p.1) (0,.slice none 0 0) a8
    ⟨Nat.zero_le _,_,.nil 1 none,hs.nul⟩ ?_
   rintro ⟨k,vr⟩ w ⟨hk,en2,hO2,hs⟩
   dsimp only at hk hO2 ⊢
   refine .seq (.aj (.z zm (.z zm (.z (cN ae) (.z fD (.nil ?_))))))
   refine (.bJ rfl (fun hc29=>?_) (fun hc29=>?_))
   ·refine .skip ?_
    refine nT ?_
    refine .seq (.block ?_)
    refine .draw mix rfl hs fun w hs=>?_
    refine .z 0 rfl zm ?_;refine .z 1 rfl zm ?_;refine .z 2 rfl zm ?_
    have hkm:k<Y.length:=by omega
    have hb1:=hXb i
    have hb2:=hYb k
    have hprb: -3456000000000≤gi X i*gi Y k∧gi X i*gi Y k≤3456000000000:=kP (A:=4800000) (B:=720000) (by unfold ab at hb1;omega) (by unfold ab at hb2;omega)
    refine .ixX (enc:=fun x=>[I x]) (i:=3) hs rfl aq .none (hX.mono hle3) rfl rfl ae ai (bE (l:=X) (i:=i) ak) cJ ?_;intro b35 o35 hc35;replace hc35:=bI.one hc35
    refine .r (i:=4) hs rfl aq .none (aO rfl af hc35) ?_
    refine .z 5 rfl zm ?_;refine .z 6 rfl zm ?_
    refine .ixX (enc:=fun x=>[I x]) (i:=7) hs rfl aq .none (hY.mono hle3) rfl rfl ae ai (bE (l:=Y) (i:=k) ak) cJ ?_;intro b39 o39 hc39;replace hc39:=bI.one hc39
    refine .r (i:=8) hs rfl aq .none (aO rfl af hc39) ?_
    refine .z 9 rfl ki ?_
    refine .E 10 hs ?_
    refine .buildSlice (cells:=[_]) hs bX rfl rfl ?_;intro b42 w hs
    refine .go ?_
    refine .E 11 hs ?_
    refine .append (ys:=Is [gi X i*gi Y k]) hs bg rfl rfl hO2 (.own .here rfl rfl) (dM _) (fun l' h=>by simp at h;omega) ?_;intro v43 en43 w hO43 hs
    rw [show Is ((xl X Y i).take k)++Is [gi X i*gi Y k]=Is ((xl X Y i).take (k+1)) by rw [xC hkm];simp [Is]] at hO43
    refine .go ?_
    refine .z 12 rfl zg ?_;refine .D hs ?_
    refine nB (nT ?_)
    refine .region (.z zm (.z cH (.z zg (.nil ?_))))
    refine nT ?_
    exact ⟨(k+1,v43),.cn rfl bQ a8,⟨by dsimp only;omega,_,hO43,hs.sb⟩,by dsimp only;omega⟩
   ·refine .exit ?_
    refine xT (xT (xB (nT ?_)))
    refine .region (.z zm (.z zm ?_))
    obtain ⟨H4,hle4,hR,hs⟩:=cz.cK hO2 (by rw [List.length_take,jG];omega) hs .here
    rw [List.take_of_length_le (by rw [jG];omega)] at hR
    obtain ⟨ar,cr,rfl⟩:=RI.shape hR
    refine .o (.buildSlice (cells:=[_]) hs oV rfl rfl fun b46 w hs=>?_)
    refine .o (.append (ys:=[.slice ar (xl X Y i).length cr]) hs kU rfl rfl hO (.own .here rfl rfl) (by simp [Value.oneCell']) (fun l' h=>by omega) fun v47 en47 w hO47 hs=>?_)
    have hRL':RLs H4 (us++[.slice ar (xl X Y i).length cr]) (me X Y (i+1)):=by rw [vU];exact (hRL.mono hle4).snoc hR
    refine .z zg (.nil ?_)
    refine nB (nT ?_)
    refine .region (.z zm (.z cH (.z zg (.nil ?_))))
    refine nT ?_
    exact ⟨(i+1,v47),.cn rfl bQ a8,⟨by dsimp only;omega,H4,_,_,hle3.trans hle4,hRL',hO47,hs.sb⟩,by dsimp only;omega⟩
  ·refine .exit ?_
   refine xT (xT (xB (nT ?_)))
   refine .aj (.z zm (.z zg (.z zg (.nil ?_))))
   refine .ret (Fin.jx Tryz.results195 rfl rfl ?_)
   obtain rfl:i=X.length:=by omega
   obtain ⟨H5,hle5,hR,hs⟩:=hRL.cO hO ak hs .here
   exact ⟨H5,_,hle1.trans (hle2.trans (hle3.trans hle5)),rfl,by rw [←hXl];exact hR,hs⟩
theorem bG{a0 a1 a2:Int}(hs:St H w σ):Cl Tryz.prog 105 [I a0,I a1,I a2] w fun v w'=>v= .bool (decide (a1≤a0∧a0≤a2))∧St H w' σ:=by
 refine Cl.o Tryz.func105 Tryz.ntmps105 ag3 ?_
 refine .aj (.z zg (.nil (.aj (.z zm (.z zm (.z wc (.z zm ?_)))))))
 refine .iB (t':=10) rfl (fun hb10=>?_) (fun hb10=>?_)
 ·refine .gT rfl rfl ?_
  refine .z zm ?_
  refine .gT rfl rfl ?_
  refine .z zm ?_
  refine .gT rfl rfl ?_
  refine .z wc (.z zpT (.z zg (.nil ?_)))
  refine .ret (Fin.bK Tryz.results105 rfl ?_)
  exact ⟨by simp [*],hs.out⟩
 ·refine .gFs 3 3 true rfl rfl rfl ?_
  refine .z zpF (.z zg (.nil ?_))
  refine .ret (Fin.bK Tryz.results105 rfl ?_)
  exact ⟨by simp [*],hs.out⟩
theorem ig{a0:Int}(hs:St H w σ):Cl Tryz.prog 106 [I a0] w fun v w'=>v= .bool (decide (1≤a0∧a0≤99999))∧St H w' σ:=by
 refine Cl.o Tryz.func106 Tryz.ntmps106 ag1 ?_
 refine .aj (.z zg (.nil (.aj (.z zm ?_))))
 refine .o (.call dF rfl (bG hs) ?_);rintro _ w ⟨rfl,hs⟩
 refine .z zg (.nil ?_)
 refine .ret (Fin.bK Tryz.results106 rfl ?_)
 exact ⟨rfl,hs⟩
theorem fo{s:Spc}{vst vwa:Value}(hs:St H w σ)(h1:RI H vst s.st)(h2:RI H vwa s.wa):
  Cl Tryz.prog 41 [.agg #[I s.id,I s.src,vst,vwa,I s.al,I s.up]] w fun v w'=>∃H1 e,HLe H H1∧v=I e∧((eT s∧e=0)∨(¬eT s∧e=30))∧St H1 w' σ:=by
 obtain ⟨ast,cst,rfl⟩:=RI.shape h1
 obtain ⟨awa,cwa,rfl⟩:=RI.shape h2
 refine Cl.o Tryz.func41 Tryz.ntmps41 ag1 ?_
 refine .aj ?_
 refine .bx hs fun b1 w hs=>?_
 refine .z zg (.nil (.seq (.aj (.z (zfa bj) (.y hs (zld an) (.z (zfa aS) (.y hs (zld an) ?_)))))))
 refine .o (.call Tryz.call104 rfl (nf hs h1 h2) ?_);rintro _ w ⟨H1,vo,e,hle1,rfl,hG,hG',hs⟩
 refine .z zm (.z zex (.z zex (.z zg (.z zg (.nil (.aj (.z zm (.z gP (.z zm ?_)))))))))
 refine .yq (t':=15) rfl (fun hb15=>?_) (fun hb15=>?_)
 ·refine .gFs 4 2 false rfl rfl rfl ?_
  refine .z zpT (.z zm ?_)
  refine .gFs 4 8 false rfl rfl rfl ?_
  refine .z zpT (.z zm ?_)
  refine .gFs 5 14 false rfl rfl rfl ?_
  refine .z zpT (.z zm ?_)
  refine .gFs 5 21 false rfl rfl rfl ?_
  refine .z zpT (.nil ?_)
  refine (.cT ?_)
  refine .aj (.z zg (.nil ?_))
  refine .ret (rT (Fin.bK vz rfl ?_))
  exact ⟨H1,_,hle1,rfl,.inr ⟨fun h=>by have:=(hG ⟨h.st,h.wa⟩).1;simp_all,rfl⟩,hs.out⟩
 ·refine .gT rfl rfl ?_
  refine .z (zfa iO) ?_
  refine .gT rfl rfl ?_
  refine .y hs (zld af) ?_
  refine .gT rfl rfl ?_
  refine .o (.call dF rfl (bG hs) ?_);rintro _ w ⟨rfl,hs⟩
  refine .gT rfl rfl ?_
  refine .z iD (.z zpF (.z zm ?_))
  refine .bif (t':=21) rfl (fun hb21=>?_) (fun hb21=>?_)
  ·refine .gFs 4 8 false rfl rfl rfl ?_
   refine .z zpT (.z zm ?_)
   refine .gFs 5 14 false rfl rfl rfl ?_
   refine .z zpT (.z zm ?_)
   refine .gFs 5 21 false rfl rfl rfl ?_
   refine .z zpT (.nil ?_)
   refine (.cT ?_)
   refine .aj (.z zg (.nil ?_))
   refine .ret (rT (Fin.bK vz rfl ?_))
   exact ⟨H1,_,hle1,rfl,.inr ⟨fun h=>by have:=h.id;simp_all,rfl⟩,hs.out⟩
  ·refine .gT rfl rfl ?_
   refine .z (zfa cQ) ?_
   refine .gT rfl rfl ?_
   refine .y hs (zld af) ?_
   refine .gT rfl rfl ?_
   refine .o (.call Tryz.call106 rfl (ig hs) ?_);rintro _ w ⟨rfl,hs⟩
   refine .gT rfl rfl ?_
   refine .z iD (.z zpF (.z zm ?_))
   refine .bif (t':=27) rfl (fun hb27=>?_) (fun hb27=>?_)
   ·refine .gFs 5 14 false rfl rfl rfl ?_
    refine .z zpT (.z zm ?_)
    refine .gFs 5 21 false rfl rfl rfl ?_
    refine .z zpT (.nil ?_)
    refine (.cT ?_)
    refine .aj (.z zg (.nil ?_))
    refine .ret (rT (Fin.bK vz rfl ?_))
    exact ⟨H1,_,hle1,rfl,.inr ⟨fun h=>by have:=h.src;simp_all,rfl⟩,hs.out⟩
   ·refine .gT rfl rfl ?_
    refine .z (zfa dN) ?_
    refine .gT rfl rfl ?_
    refine .z (zfa jt) ?_
    refine .gT rfl rfl ?_
    refine .y hs (zld af) ?_
    refine .gT rfl rfl ?_
    refine .o (.call dF rfl (bG hs) ?_);rintro _ w ⟨rfl,hs⟩
    refine .gT rfl rfl ?_
    refine .z iD (.z zpF (.z zm ?_))
    refine .bif (t':=34) rfl (fun hb34=>?_) (fun hb34=>?_)
    ·refine .gFs 5 21 false rfl rfl rfl ?_
     refine .z zpT (.nil ?_)
     refine (.cT ?_)
     refine .aj (.z zg (.nil ?_))
     refine .ret (rT (Fin.bK vz rfl ?_))
     exact ⟨H1,_,hle1,rfl,.inr ⟨fun h=>by have:=h.al;simp_all,rfl⟩,hs.out⟩
    ·refine .gT rfl rfl ?_
     refine .z (zfa dN) ?_
     refine .gT rfl rfl ?_
     refine .z (zfa js) ?_
     refine .gT rfl rfl ?_
     refine .y hs (zld af) ?_
     refine .gT rfl rfl ?_
     refine .o (.call dF rfl (bG hs) ?_);rintro _ w ⟨rfl,hs⟩
     refine .gT rfl rfl ?_
     refine .z iD (.z zpF (.nil ?_))
     refine (.cond rfl (fun hc40=>?_) (fun hc40=>?_))
     ·refine .aj (.z zg (.nil ?_))
      refine .ret (rT (Fin.bK vz rfl ?_))
      exact ⟨H1,_,hle1,rfl,.inr ⟨fun h=>by have:=h.up;simp_all,rfl⟩,hs.out⟩
     ·refine .skip ?_
      refine nT ?_
      refine .aj (.z zg (.nil ?_))
      refine .ret (Fin.bK vz rfl ?_)
      have hg:=hG' (by simp_all)
      exact ⟨H1,_,hle1,rfl,.inl ⟨⟨hg.1,hg.2,by simp_all,by simp_all,by simp_all,by simp_all⟩,rfl⟩,hs.out⟩
theorem gU{s:Spc}{r:Rdg}{vst vwa:Value}(hs:St H w σ)(h1:RI H vst s.st)(h2:RI H vwa s.wa):
  Cl Tryz.prog 107 [.agg #[I s.id,I s.src,vst,vwa,I s.al,I s.up],.agg #[I r.src,I r.st,I r.wa,I r.val,I r.tol,I r.tape,I r.day]] w fun v w'=>∃b:Bool,v= .bool b∧(b=true↔iM s r)∧St H w' σ:=by
 obtain ⟨ast,cst,rfl⟩:=RI.shape h1
 obtain ⟨awa,cwa,rfl⟩:=RI.shape h2
 have l1:=(RI.len h1).2.2
 have l2:=(RI.len h2).2.2
 refine Cl.o Tryz.func107 Tryz.ntmps107 ag2 ?_
 refine .aj ?_
 refine .bx hs fun b2 w hs=>?_
 refine .bx hs fun b3 w hs=>?_
 refine .z zg (.nil (.aj (.z (zfa dU) (.y hs (zld af) ?_))))
 refine .o (.call Tryz.call106 rfl (ig hs) ?_);rintro _ w ⟨rfl,hs⟩
 refine .z zm ?_
 refine .bif (t':=8) rfl (fun hb8=>?_) (fun hb8=>?_)
 ·refine .gT rfl rfl ?_
  refine .z (zfa eO) ?_
  refine .gT rfl rfl ?_
  refine .y hs (zld af) ?_
  refine .gT rfl rfl ?_
  refine .z (zfa bj) ?_
  refine .gT rfl rfl ?_
  refine .y hs (zld an) ?_
  refine .gT rfl rfl ?_
  refine .z (cN ae) ?_
  refine .gT rfl rfl ?_
  refine .z gO ?_
  refine .gT rfl rfl ?_
  refine .o (.call dF rfl (bG hs) ?_);rintro _ w ⟨rfl,hs⟩
  refine .z zpT (.z zm ?_)
  refine .bif (t':=17) rfl (fun hb17=>?_) (fun hb17=>?_)
  ·refine .gT rfl rfl ?_
   refine .z (zfa eN) ?_
   refine .gT rfl rfl ?_
   refine .y hs (zld af) ?_
   refine .gT rfl rfl ?_
   refine .z (zfa aS) ?_
   refine .gT rfl rfl ?_
   refine .y hs (zld an) ?_
   refine .gT rfl rfl ?_
   refine .z (cN ae) ?_
   refine .gT rfl rfl ?_
   refine .z gO ?_
   refine .gT rfl rfl ?_
   refine .o (.call dF rfl (bG hs) ?_);rintro _ w ⟨rfl,hs⟩
   refine .z zpT (.z zm ?_)
   refine .bif (t':=26) rfl (fun hb26=>?_) (fun hb26=>?_)
   ·refine .gT rfl rfl ?_
    refine .z (zfa cf) ?_
    refine .gT rfl rfl ?_
    refine .y hs (zld af) ?_
    refine .gT rfl rfl ?_
    refine .o (.call dF rfl (bG hs) ?_);rintro _ w ⟨rfl,hs⟩
    refine .z zpT (.z zm ?_)
    refine .bif (t':=31) rfl (fun hb31=>?_) (fun hb31=>?_)
    ·refine .gT rfl rfl ?_
     refine .z (zfa de) ?_
     refine .gT rfl rfl ?_
     refine .y hs (zld af) ?_
     refine .gT rfl rfl ?_
     refine .z (zfa cf) ?_
     refine .gT rfl rfl ?_
     refine .y hs (zld af) ?_
     refine .gT rfl rfl ?_
     have ht:0≤r.tol∧r.tol≤1000:=by simp_all
     refine .z gO ?_
     refine .gT rfl rfl ?_
     refine .o (.call dF rfl (bG hs) ?_);rintro _ w ⟨rfl,hs⟩
     refine .z zpT (.z zm ?_)
     refine .bif (t':=39) rfl (fun hb39=>?_) (fun hb39=>?_)
     ·refine .gT rfl rfl ?_
      refine .z (zfa ez) ?_
      refine .gT rfl rfl ?_
      refine .y hs (zld af) ?_
      refine .gT rfl rfl ?_
      refine .o (.call dF rfl (bG hs) ?_);rintro _ w ⟨rfl,hs⟩
      refine .z zpT (.z zm ?_)
      refine .bif (t':=44) rfl (fun hb44=>?_) (fun hb44=>?_)
      ·refine .gT rfl rfl ?_
       refine .z (zfa ew) ?_
       refine .gT rfl rfl ?_
       refine .y hs (zld af) ?_
       refine .gT rfl rfl ?_
       refine .o (.call dF rfl (bG hs) ?_);rintro _ w ⟨rfl,hs⟩
       refine .z zpT (.z zg (.nil ?_))
       refine .ret (Fin.bK mP rfl ?_)
       first
       |exact ⟨false,rfl,⟨fun h=>(by cases h),fun h=>(by obtain ⟨g1,g2,g3,g4,g5,g6,g7⟩:=h;simp_all;done)⟩,hs.out⟩
       |exact ⟨_,rfl,⟨fun h=>⟨by simp_all,by simp_all,by simp_all,by simp_all,by simp_all,by simp_all,by simpa using h⟩,fun h=>by simpa using h.day⟩,hs.out⟩
      ·refine .gFs 3 39 true rfl rfl rfl ?_
       refine .z zpF (.z zg (.nil ?_))
       refine .ret (Fin.bK mP rfl ?_)
       first
       |exact ⟨false,rfl,⟨fun h=>(by cases h),fun h=>(by obtain ⟨g1,g2,g3,g4,g5,g6,g7⟩:=h;simp_all;done)⟩,hs.out⟩
       |exact ⟨_,rfl,⟨fun h=>⟨by simp_all,by simp_all,by simp_all,by simp_all,by simp_all,by simp_all,by simpa using h⟩,fun h=>by simpa using h.day⟩,hs.out⟩
     ·refine .gFs 3 34 true rfl rfl rfl ?_
      refine .z zpF (.z zm ?_)
      refine .gFs 3 39 true rfl rfl rfl ?_
      refine .z zpF (.z zg (.nil ?_))
      refine .ret (Fin.bK mP rfl ?_)
      first
      |exact ⟨false,rfl,⟨fun h=>(by cases h),fun h=>(by obtain ⟨g1,g2,g3,g4,g5,g6,g7⟩:=h;simp_all;done)⟩,hs.out⟩
      |exact ⟨_,rfl,⟨fun h=>⟨by simp_all,by simp_all,by simp_all,by simp_all,by simp_all,by simp_all,by simpa using h⟩,fun h=>by simpa using h.day⟩,hs.out⟩
    ·refine .gFs 6 26 true rfl rfl rfl ?_
     refine .z zpF (.z zm ?_)
     refine .gFs 3 34 true rfl rfl rfl ?_
     refine .z zpF (.z zm ?_)
     refine .gFs 3 39 true rfl rfl rfl ?_
     refine .z zpF (.z zg (.nil ?_))
     refine .ret (Fin.bK mP rfl ?_)
     first
     |exact ⟨false,rfl,⟨fun h=>(by cases h),fun h=>(by obtain ⟨g1,g2,g3,g4,g5,g6,g7⟩:=h;simp_all;done)⟩,hs.out⟩
     |exact ⟨_,rfl,⟨fun h=>⟨by simp_all,by simp_all,by simp_all,by simp_all,by simp_all,by simp_all,by simpa using h⟩,fun h=>by simpa using h.day⟩,hs.out⟩
   ·refine .gFs 3 21 true rfl rfl rfl ?_
    refine .z zpF (.z zm ?_)
    refine .gFs 6 26 true rfl rfl rfl ?_
    refine .z zpF (.z zm ?_)
    refine .gFs 3 34 true rfl rfl rfl ?_
    refine .z zpF (.z zm ?_)
    refine .gFs 3 39 true rfl rfl rfl ?_
    refine .z zpF (.z zg (.nil ?_))
    refine .ret (Fin.bK mP rfl ?_)
    first
    |exact ⟨false,rfl,⟨fun h=>(by cases h),fun h=>(by obtain ⟨g1,g2,g3,g4,g5,g6,g7⟩:=h;simp_all;done)⟩,hs.out⟩
    |exact ⟨_,rfl,⟨fun h=>⟨by simp_all,by simp_all,by simp_all,by simp_all,by simp_all,by simp_all,by simpa using h⟩,fun h=>by simpa using h.day⟩,hs.out⟩
  ·refine .gFs 7 12 true rfl rfl rfl ?_
   refine .z zpF (.z zm ?_)
   refine .gFs 3 21 true rfl rfl rfl ?_
   refine .z zpF (.z zm ?_)
   refine .gFs 6 26 true rfl rfl rfl ?_
   refine .z zpF (.z zm ?_)
   refine .gFs 3 34 true rfl rfl rfl ?_
   refine .z zpF (.z zm ?_)
   refine .gFs 3 39 true rfl rfl rfl ?_
   refine .z zpF (.z zg (.nil ?_))
   refine .ret (Fin.bK mP rfl ?_)
   first
   |exact ⟨false,rfl,⟨fun h=>(by cases h),fun h=>(by obtain ⟨g1,g2,g3,g4,g5,g6,g7⟩:=h;simp_all;done)⟩,hs.out⟩
   |exact ⟨_,rfl,⟨fun h=>⟨by simp_all,by simp_all,by simp_all,by simp_all,by simp_all,by simp_all,by simpa using h⟩,fun h=>by simpa using h.day⟩,hs.out⟩
 ·refine .gFs 7 3 true rfl rfl rfl ?_
  refine .z zpF (.z zm ?_)
  refine .gFs 7 12 true rfl rfl rfl ?_
  refine .z zpF (.z zm ?_)
  refine .gFs 3 21 true rfl rfl rfl ?_
  refine .z zpF (.z zm ?_)
  refine .gFs 6 26 true rfl rfl rfl ?_
  refine .z zpF (.z zm ?_)
  refine .gFs 3 34 true rfl rfl rfl ?_
  refine .z zpF (.z zm ?_)
  refine .gFs 3 39 true rfl rfl rfl ?_
  refine .z zpF (.z zg (.nil ?_))
  refine .ret (Fin.bK mP rfl ?_)
  first
  |exact ⟨false,rfl,⟨fun h=>(by cases h),fun h=>(by obtain ⟨g1,g2,g3,g4,g5,g6,g7⟩:=h;simp_all;done)⟩,hs.out⟩
  |exact ⟨_,rfl,⟨fun h=>⟨by simp_all,by simp_all,by simp_all,by simp_all,by simp_all,by simp_all,by simpa using h⟩,fun h=>by simpa using h.day⟩,hs.out⟩
theorem mW{c:Cmp}(hs:St H w σ):
  Cl Tryz.prog 108 [.agg #[I c.src,I c.tape,I c.fr,I c.to,I c.lo,I c.hi]] w fun v w'=>∃b:Bool,v= .bool b∧(b=true↔oJ c)∧St H w' σ:=by
 refine Cl.o Tryz.func108 Tryz.ntmps108 ag1 ?_
 refine .aj ?_
 refine .bx hs fun b1 w hs=>?_
 refine .z zg (.nil (.aj (.z (zfa fi) (.y hs (zld af) ?_))))
 refine .o (.call Tryz.call106 rfl (ig hs) ?_);rintro _ w ⟨rfl,hs⟩
 refine .z zm ?_
 refine .bif (t':=6) rfl (fun hb6=>?_) (fun hb6=>?_)
 ·refine .gT rfl rfl ?_
  refine .z (zfa iV) ?_
  refine .gT rfl rfl ?_
  refine .y hs (zld af) ?_
  refine .gT rfl rfl ?_
  refine .o (.call dF rfl (bG hs) ?_);rintro _ w ⟨rfl,hs⟩
  refine .z zpT (.z zm ?_)
  refine .bif (t':=11) rfl (fun hb11=>?_) (fun hb11=>?_)
  ·refine .gT rfl rfl ?_
   refine .z (zfa fO) ?_
   refine .gT rfl rfl ?_
   refine .y hs (zld af) ?_
   refine .gT rfl rfl ?_
   refine .z (zfa fh) ?_
   refine .gT rfl rfl ?_
   refine .y hs (zld af) ?_
   refine .gT rfl rfl ?_
   refine .o (.call dF rfl (bG hs) ?_);rintro _ w ⟨rfl,hs⟩
   refine .z zpT (.z zm ?_)
   refine .bif (t':=18) rfl (fun hb18=>?_) (fun hb18=>?_)
   ·refine .gT rfl rfl ?_
    refine .z (zfa fh) ?_
    refine .gT rfl rfl ?_
    refine .y hs (zld af) ?_
    refine .gT rfl rfl ?_
    refine .o (.call dF rfl (bG hs) ?_);rintro _ w ⟨rfl,hs⟩
    refine .z zpT (.z zm ?_)
    refine .bif (t':=23) rfl (fun hb23=>?_) (fun hb23=>?_)
    ·refine .gT rfl rfl ?_
     refine .z (zfa fg) ?_
     refine .gT rfl rfl ?_
     refine .y hs (zld af) ?_
     refine .gT rfl rfl ?_
     refine .z (zfa ff) ?_
     refine .gT rfl rfl ?_
     refine .y hs (zld af) ?_
     refine .gT rfl rfl ?_
     refine .o (.call dF rfl (bG hs) ?_);rintro _ w ⟨rfl,hs⟩
     refine .z zpT (.z zm ?_)
     refine .bif (t':=30) rfl (fun hb30=>?_) (fun hb30=>?_)
     ·refine .gT rfl rfl ?_
      refine .z (zfa ff) ?_
      refine .gT rfl rfl ?_
      refine .y hs (zld af) ?_
      refine .gT rfl rfl ?_
      refine .o (.call dF rfl (bG hs) ?_);rintro _ w ⟨rfl,hs⟩
      refine .z zpT (.z zg (.nil ?_))
      refine .ret (Fin.bK sY rfl ?_)
      first
      |exact ⟨false,rfl,⟨fun h=>(by cases h),fun h=>(by obtain ⟨g1,g2,g3,g4,g5,g6⟩:=h;simp_all;omega)⟩,hs.out⟩
      |exact ⟨false,rfl,⟨fun h=>(by cases h),fun h=>(by obtain ⟨g1,g2,g3,g4,g5,g6⟩:=h;simp_all;done)⟩,hs.out⟩
      |exact ⟨_,rfl,⟨fun h=>⟨by simp_all,by simp_all,by simp_all,by simp_all,by simp_all,(by simpa using h:_∧_).2⟩,fun h=>by have:=h.lo;have:=h.hi;simp;omega⟩,hs.out⟩
     ·refine .gFs 3 27 true rfl rfl rfl ?_
      refine .z zpF (.z zg (.nil ?_))
      refine .ret (Fin.bK sY rfl ?_)
      first
      |exact ⟨false,rfl,⟨fun h=>(by cases h),fun h=>(by obtain ⟨g1,g2,g3,g4,g5,g6⟩:=h;simp_all;omega)⟩,hs.out⟩
      |exact ⟨false,rfl,⟨fun h=>(by cases h),fun h=>(by obtain ⟨g1,g2,g3,g4,g5,g6⟩:=h;simp_all;done)⟩,hs.out⟩
      |exact ⟨_,rfl,⟨fun h=>⟨by simp_all,by simp_all,by simp_all,by simp_all,by simp_all,(by simpa using h:_∧_).2⟩,fun h=>by have:=h.lo;have:=h.hi;simp;omega⟩,hs.out⟩
    ·refine .gFs 5 20 true rfl rfl rfl ?_
     refine .z zpF (.z zm ?_)
     refine .gFs 3 27 true rfl rfl rfl ?_
     refine .z zpF (.z zg (.nil ?_))
     refine .ret (Fin.bK sY rfl ?_)
     first
     |exact ⟨false,rfl,⟨fun h=>(by cases h),fun h=>(by obtain ⟨g1,g2,g3,g4,g5,g6⟩:=h;simp_all;omega)⟩,hs.out⟩
     |exact ⟨false,rfl,⟨fun h=>(by cases h),fun h=>(by obtain ⟨g1,g2,g3,g4,g5,g6⟩:=h;simp_all;done)⟩,hs.out⟩
     |exact ⟨_,rfl,⟨fun h=>⟨by simp_all,by simp_all,by simp_all,by simp_all,by simp_all,(by simpa using h:_∧_).2⟩,fun h=>by have:=h.lo;have:=h.hi;simp;omega⟩,hs.out⟩
   ·refine .gFs 3 15 true rfl rfl rfl ?_
    refine .z zpF (.z zm ?_)
    refine .gFs 5 20 true rfl rfl rfl ?_
    refine .z zpF (.z zm ?_)
    refine .gFs 3 27 true rfl rfl rfl ?_
    refine .z zpF (.z zg (.nil ?_))
    refine .ret (Fin.bK sY rfl ?_)
    first
    |exact ⟨false,rfl,⟨fun h=>(by cases h),fun h=>(by obtain ⟨g1,g2,g3,g4,g5,g6⟩:=h;simp_all;omega)⟩,hs.out⟩
    |exact ⟨false,rfl,⟨fun h=>(by cases h),fun h=>(by obtain ⟨g1,g2,g3,g4,g5,g6⟩:=h;simp_all;done)⟩,hs.out⟩
    |exact ⟨_,rfl,⟨fun h=>⟨by simp_all,by simp_all,by simp_all,by simp_all,by simp_all,(by simpa using h:_∧_).2⟩,fun h=>by have:=h.lo;have:=h.hi;simp;omega⟩,hs.out⟩
  ·refine .gFs 5 8 true rfl rfl rfl ?_
   refine .z zpF (.z zm ?_)
   refine .gFs 3 15 true rfl rfl rfl ?_
   refine .z zpF (.z zm ?_)
   refine .gFs 5 20 true rfl rfl rfl ?_
   refine .z zpF (.z zm ?_)
   refine .gFs 3 27 true rfl rfl rfl ?_
   refine .z zpF (.z zg (.nil ?_))
   refine .ret (Fin.bK sY rfl ?_)
   first
   |exact ⟨false,rfl,⟨fun h=>(by cases h),fun h=>(by obtain ⟨g1,g2,g3,g4,g5,g6⟩:=h;simp_all;omega)⟩,hs.out⟩
   |exact ⟨false,rfl,⟨fun h=>(by cases h),fun h=>(by obtain ⟨g1,g2,g3,g4,g5,g6⟩:=h;simp_all;done)⟩,hs.out⟩
   |exact ⟨_,rfl,⟨fun h=>⟨by simp_all,by simp_all,by simp_all,by simp_all,by simp_all,(by simpa using h:_∧_).2⟩,fun h=>by have:=h.lo;have:=h.hi;simp;omega⟩,hs.out⟩
 ·refine .gFs 3 3 true rfl rfl rfl ?_
  refine .z zpF (.z zm ?_)
  refine .gFs 5 8 true rfl rfl rfl ?_
  refine .z zpF (.z zm ?_)
  refine .gFs 3 15 true rfl rfl rfl ?_
  refine .z zpF (.z zm ?_)
  refine .gFs 5 20 true rfl rfl rfl ?_
  refine .z zpF (.z zm ?_)
  refine .gFs 3 27 true rfl rfl rfl ?_
  refine .z zpF (.z zg (.nil ?_))
  refine .ret (Fin.bK sY rfl ?_)
  first
  |exact ⟨false,rfl,⟨fun h=>(by cases h),fun h=>(by obtain ⟨g1,g2,g3,g4,g5,g6⟩:=h;simp_all;omega)⟩,hs.out⟩
  |exact ⟨false,rfl,⟨fun h=>(by cases h),fun h=>(by obtain ⟨g1,g2,g3,g4,g5,g6⟩:=h;simp_all;done)⟩,hs.out⟩
  |exact ⟨_,rfl,⟨fun h=>⟨by simp_all,by simp_all,by simp_all,by simp_all,by simp_all,(by simpa using h:_∧_).2⟩,fun h=>by have:=h.lo;have:=h.hi;simp;omega⟩,hs.out⟩
theorem gw{s:Spc}{vst vwa:Value}(hs:St H w σ)(h1:RI H vst s.st)(h2:RI H vwa s.wa)(hb:s.st.length≤1000∧s.wa.length≤1000):
  Cl Tryz.prog 91 [.agg #[I s.id,I s.src,vst,vwa,I s.al,I s.up]] w fun v w'=>v=I (s.many:Int)∧St H w' σ:=by
 obtain ⟨ast,cst,rfl⟩:=RI.shape h1
 obtain ⟨awa,cwa,rfl⟩:=RI.shape h2
 have hm:=kP (a:=(s.st.length:Int)) (b:=(s.wa.length:Int)) (A:=1000) (B:=1000) ak ak
 refine Cl.o Tryz.func91 Tryz.ntmps91 ag1 ?_
 refine .aj ?_
 refine .bx hs fun b1 w hs=>?_
 refine .z zg (.nil (.aj (.z (zfa bj) (.y hs (zld an) (.z (cN ae) (.z (zfa aS) (.y hs (zld an) (.z (cN ae) (.z ki ?_)))))))))
 refine .z zg (.nil ?_)
 refine .ret (Fin.bK Tryz.results91 rfl ?_)
 exact ⟨by unfold Spc.many;rw [Int.natCast_mul],hs.out⟩
theorem iK{s:Spc}{vst vwa:Value}{a b:Int}(hs:St H w σ)(h2:RI H vwa s.wa)(hb:s.wa.length≤1000)(ha: -1000≤a∧a≤1000)(hb': -1000≤b∧b≤1000):
  Cl Tryz.prog 118 [.agg #[I s.id,I s.src,vst,vwa,I s.al,I s.up],I a,I b] w fun v w'=>v=I (1+a*s.wa.length+b)∧St H w' σ:=by
 obtain ⟨awa,cwa,rfl⟩:=RI.shape h2
 have hm:=kP (a:=a) (b:=(s.wa.length:Int)) (A:=1000) (B:=1000) ak ak
 refine Cl.o Tryz.func118 Tryz.ntmps118 ag3 ?_
 refine .aj ?_
 refine .bx hs fun b3 w hs=>?_
 refine .z zg (.nil (.aj (.z zm (.z (zfa aS) (.y hs (zld an) (.z (cN ae) (.z ki (.z cH (.z zm ?_)))))))))
 refine .z cH (.z zg (.nil ?_))
 refine .ret (Fin.bK Tryz.results118 rfl ?_)
 exact ⟨rfl,hs.out⟩
theorem fE{r:Rdg}(hs:St H w σ):
  Cl Tryz.prog 114 [.agg #[I r.src,I r.st,I r.wa,I r.val,I r.tol,I r.tape,I r.day]] w fun v w'=>v= .agg #[I r.tape,I r.day]∧St H w' σ:=by
 refine Cl.o Tryz.func114 Tryz.ntmps114 ag1 ?_
 refine .aj ?_
 refine .bx hs fun b1 w hs=>?_
 refine .o (.alloc hs jy rfl fun b2 w hs=>?_)
 refine .nil (.aj (.z (zfa ez) (.y hs (zld af) (.z (zfa ew) (.y hs (zld af) (.z (zbd [_,_] fG) ?_))))))
 refine .o (.aZ (vs:=[_,_]) hs rfl rfl bn fun w hs=>?_)
 refine .nil ?_
 refine .ret ?_
 exact Fin.gR [] [] hs fun w hs=>⟨_,results1 Tryz.results114 (dv (vs:=[_,_]) hs rfl da bn),rfl,hs.out⟩
theorem l5{a b:Int}(hs:St H w σ)(ha:0≤a∧a≤100000)(hb:0≤b∧b≤100000):
  Cl Tryz.prog 230 [I a,I b] w fun v w'=>v=I (kc a b)∧St H w' σ:=by
 have hm:=kP (a:=a) (b:=b) (A:=100000) (B:=100000) ak ak
 have h0:=Int.mul_nonneg ha.1 hb.1
 have hq0:0≤(a*b+999).tdiv 1000:=Int.tdiv_nonneg ak ak
 have hq1:(a*b+999).tdiv 1000≤a*b+999:=by rw [Int.tdiv_eq_ediv_of_nonneg ak];omega
 refine Cl.o Tryz.func230 Tryz.ntmps230 ag2 ?_
 refine .aj (.z zg (.nil (.aj (.z zm (.z zm (.z ki (.z cH ?_)))))))
 refine .q hs (ue rfl rfl ak ak) ?_
 refine .z zw (.z zg (.nil ?_))
 refine .ret (Fin.bK Tryz.results230 rfl ?_)
 exact ⟨rfl,hs⟩
def vX(s:Spc):List (List Value):=(List.range s.many).map fun p=>[Value.agg #[I ((p/s.wa.length:Nat):Int),I ((p%s.wa.length:Nat):Int),I ((p+1:Nat):Int)]]
theorem eJ(s:Spc):(vX s).length=s.many:=by simp [vX]
theorem mx{s:Spc}{p:Nat}(h:p<(vX s).length):(vX s)[p]=[Value.agg #[I ((p/s.wa.length:Nat):Int),I ((p%s.wa.length:Nat):Int),I ((p+1:Nat):Int)]]:=by simp [vX]
theorem qk{H:cE}{b:Nat}{s:Spc}{vst vwa:Value}(hb:Row H b [I s.id,I s.src,vst,vwa,I s.al,I s.up])(h1:RI H vst s.st)(h2:RI H vwa s.wa)(hbd:s.st.length≤1000∧s.wa.length≤1000):
  Iter Tryz.prog 190 [.pointer (some ⟨b,0,none⟩)] H (vX s):=by
 intro ly II Ix hmI _ hy H0 σb0 σf w hle hI0 hs
 obtain ⟨ast,cst,rfl⟩:=RI.shape h1
 obtain ⟨awa,cwa,rfl⟩:=RI.shape h2
 have g2:cellAt H0 b 2=some (.slice ast s.st.length cst):=cellAt.mono (hb.at 2) hle
 have g3:cellAt H0 b 3=some (.slice awa s.wa.length cwa):=cellAt.mono (hb.at 3) hle
 have hm:s.many≤1000000:=Nat.mul_le_mul hbd.1 hbd.2
 refine Cl.o Tryz.func190 Tryz.ntmps190 ag2 ?_
 refine .aj (.z zg (.nil (.aj (.z (zfa bj) (.y hs (zld an) (.z (cN ae) (.z zm (.nil ?_))))))))
 refine .for (N:=s.st.length) (J:=fun i fr w=>fr=[(3,I ((i*s.wa.length:Nat):Int)),(0,.func (.yield ly) #[] #[]),(1,.pointer (some ⟨b,0,none⟩))]∧∃H1 σb,HLe H H1∧HLe H0 H1∧II (i*s.wa.length) H1 σb∧St H1 w (σb++σf)) ak ?_ ?_ ?_
 ·exact .mk ⟨by rw [Nat.zero_mul],H0,σb0,hle,HLe.refl _,by rw [Nat.zero_mul];exact hI0,hs⟩
 ·rintro i fr w hi ⟨rfl,H1,σb,hle1,hle0,hI,hs⟩
  have h23:=cellAt.mono g3 hle0
  refine .block (.aj (.z zm (.z zg (.nil (.aj (.z (zfa aS) (.y hs (zld an) (.z (cN ae) (.z zm ?_)))))))))
  refine .nil ?_
  refine .for (N:=s.wa.length) (J:=fun k fr w=>fr=[(3,I ((i*s.wa.length+k:Nat):Int)),(4,I (i:Int)),(9,I (i:Int)),(8,I (s.st.length:Int)),(0,.func (.yield ly) #[] #[]),(1,.pointer (some ⟨b,0,none⟩))]∧∃H3 σb,HLe H1 H3∧II (i*s.wa.length+k) H3 σb∧St H3 w (σb++σf)) ak ?_ ?_ ?_
  ·exact .mk ⟨rfl,H1,σb,HLe.refl _,hI,hs⟩
  ·rintro k fr w hk ⟨rfl,H3,σb3,hle3,hI3,hs⟩
   obtain ⟨d1,d2⟩:=EK (nw:=s.wa.length) (i:=i) (k:=k) hk
   have hlt:=Hj hi hk
   refine .block (.aj (.z zm (.z zg (.nil (.aj (.z zm (.z cH (.z zg (.nil ?_)))))))))
   refine .aj (.z zm (.z zm (.z zm (.z zm (.z (zbd [_,_,_] qO) ?_)))))
   have hk':i*s.wa.length+k<(vX s).length:=by rw [eJ];exact hlt
   have hyd:=hy (i*s.wa.length+k) hk' H3 σb3 σf w (hle1.trans hle3) hI3 hs
   rw [mx hk',d1,d2,show ((i*s.wa.length+k+1:Nat):Int)=((i*s.wa.length+k:Nat):Int)+1 by omega] at hyd
   refine .o (.yield rfl rfl hyd ?_);rintro v25 w ⟨H5,σ5,g1,hs,g3'⟩
   obtain ⟨bb,rfl,gT,gF⟩:=oZ g3'
   refine .z iD (.nil ?_)
   refine (.cond rfl (fun hc26=>?_) (fun hc26=>?_))
   ·refine .ret (rB (rT (rB (rB (rT (rB (Fin.FQ Tryz.results190 ?_)))))))
    exact ⟨H5,σ5,hle0.trans (hle3.trans g1),hs,.inr (gF (by simpa using hc26))⟩
   ·refine .skip ?_
    refine nB (nT ?_)
    exact .mk ⟨rfl,H5,σ5,hle3.trans g1,gT (by simpa using hc26),hs⟩
  ·rintro fr w ⟨rfl,H3,σb3,hle3,hI3,hs⟩
   have e:i*s.wa.length+s.wa.length=(i+1)*s.wa.length:=by rw [Nat.add_mul,Nat.one_mul]
   rw [e] at hI3 ⊢
   refine nB (nT ?_)
   exact .mk ⟨rfl,H3,σb3,hle1.trans hle3,hle0.trans hle3,hI3,hs⟩
 ·rintro fr w ⟨rfl,H1,σb,hle1,hle0,hI,hs⟩
  exact Fin.yB Tryz.results190 ⟨H1,σb,hle0,hs,.inl (by rw [eJ];exact hI)⟩
theorem fN{s:Spc}{vst vwa:Value}(hs:St H w σ)(h1:RI H vst s.st)(h2:RI H vwa s.wa)(hbd:s.st.length≤1000∧s.wa.length≤1000):
  Cl Tryz.prog 103 [.agg #[I s.id,I s.src,vst,vwa,I s.al,I s.up]] w fun u w'=>∃H1 b,HLe H H1∧u= .func (.func 190) #[] #[.pointer (some ⟨b,0,none⟩)]∧Iter Tryz.prog 190 [.pointer (some ⟨b,0,none⟩)] H1 (vX s)∧St H1 w' σ:=by
 obtain ⟨ast,cst,rfl⟩:=RI.shape h1
 obtain ⟨awa,cwa,rfl⟩:=RI.shape h2
 refine Cl.o Tryz.func103 Tryz.ntmps103 ag1 ?_
 refine .aj ?_
 refine .bx hs fun b1 w hs=>?_
 refine .z zg (.nil (.aj ?_))
 refine .q hs (dX (f:=[]) (c:=[_]) rfl rfl) ?_
 refine .z zg (.nil ?_)
 refine .ret (Fin.bK Tryz.results103 rfl ?_)
 obtain ⟨H1,g1,g2,hs⟩:=hs.cO .here
 exact ⟨H1,b1,g1,rfl,qk g2 (h1.mono g1) (h2.mono g1) hbd,hs⟩
set_option maxRecDepth 100000 in
theorem nW:Tryz.prog.stoodInHeld 49=false:=by kernel_rfl
set_option maxRecDepth 100000 in
theorem nX:Tryz.prog.eqGuardType Tryz.prog.depth 49=false:=by kernel_rfl
theorem pc{v:Value}{en:Ent}{xs:List TD}{g:Nat}{cap:List Value}(q:TD→Bool)(hs:St H w (en::σ))(hO:cz 2 v (tdc xs).flatten en)(hl:xs.length≤1000000)(hc:∀args w,(callFunc g args).run Tryz.prog w= .ok (.enter g args) w)
  (hp:∀w (t:TD),St H w (en::σ)→Cl Tryz.prog g ([.agg #[I t.tape,I t.day]]++cap) w fun u w'=>u= .bool (q t)∧St H w' (en::σ)):
  Cl Tryz.prog 229 [v,.func (.func g) #[] cap.toArray] w fun u w'=>∃i:Int,u=I i∧(0≤i↔∃x∈xs,q x=true)∧St H w' (en::σ):=by
 obtain ⟨a,c,rfl⟩:=hO.fM (kX xs) ak
 rw [dI] at hO ⊢
 refine Cl.o Tryz.func229 Tryz.ntmps229 ag2 ?_
 refine .aj (.z zg (.nil (.seq (.aj (.z zm (.z (cN aT) (.z zm (.nil ?_))))))))
 refine .for (N:=xs.length) (J:=fun k fr w=>fr=[(1,.func (.func g) #[] cap.toArray),(0,.slice a xs.length c)]∧(∀j<k,∀y,xs[j]? =some y→¬q y=true)∧St H w (en::σ)) ak ?_ ?_ ?_
 ·exact .mk ⟨rfl,fun j hj=>by omega,hs⟩
 ·rintro k fr w hk ⟨rfl,hno,hs⟩
  obtain ⟨x,hx⟩:=nth hk
  obtain ⟨b,c',sp,hv,rfl,_⟩:=hO.Fx (kX xs) ak (by rw [dI];omega)
  rw [dI] at hv
  cases hv
  refine .block (.aj (.z zm (.z zg (.nil (.aj (.z zm (.z zm (.z zm (.z (ou aT bn) ?_)))))))))
  refine .q hs (kN (vs:=x.c) rfl da bn .here (vN (kX xs) (yG hx) sp)) ?_
  refine .o (.pH (first:=[]) (cap:=cap) rfl rfl hc (hp _ x hs) ?_);rintro _ w ⟨rfl,hs⟩
  refine .nil ?_
  refine (.cond rfl (fun hc16=>?_) (fun hc16=>?_))
  ·refine .aj (.z zm (.z zg (.nil ?_)))
   refine .ret (rB (rT (rB (rT (Fin.bK Tryz.results229 rfl ?_)))))
   exact ⟨_,rfl,⟨fun _=>⟨x,List.mem_of_getElem? hx,hc16⟩,fun _=>by omega⟩,hs⟩
  ·refine .skip ?_
   refine nB (nT ?_)
   exact .mk ⟨rfl,fl hno hx (by simpa using hc16),hs⟩
 ·rintro fr w ⟨rfl,hno,hs⟩
  refine nT ?_
  refine .aj (.z zg (.nil ?_))
  refine .ret (Fin.bK Tryz.results229 rfl ?_)
  exact ⟨_,rfl,⟨fun h=>by omega,fun ⟨x,h1,h2⟩=>by
   obtain ⟨j,hj⟩:=List.getElem?_of_mem h1
   exact (hno j (List.getElem?_eq_some_iff.1 hj).1 x hj h2).elim⟩,hs⟩
theorem mU{v:Value}{en:Ent}{xs:List TD}{g:Nat}{cap:List Value}(q:TD→Bool)(hs:St H w (en::σ))(hO:cz 2 v (tdc xs).flatten en)(hl:xs.length≤1000000)(hc:∀args w,(callFunc g args).run Tryz.prog w= .ok (.enter g args) w)
  (hp:∀w (t:TD),St H w (en::σ)→Cl Tryz.prog g ([.agg #[I t.tape,I t.day]]++cap) w fun u w'=>u= .bool (q t)∧St H w' (en::σ)):
  Cl Tryz.prog 172 [v,.func (.func g) #[] cap.toArray] w fun u w'=>∃b:Bool,u= .bool b∧(b=true↔∃x∈xs,q x=true)∧St H w' (en::σ):=by
 refine Cl.o Tryz.func172 Tryz.ntmps172 ag2 ?_
 refine .aj (.z zg (.nil (.aj (.z zm (.z zm ?_)))))
 refine .o (.call Tryz.call229 rfl (pc q hs hO hl hc hp) ?_);rintro _ w ⟨i,rfl,hi,hs⟩
 refine .z yA (.z zg (.nil ?_))
 refine .ret (Fin.bK Tryz.results172 rfl ?_)
 exact ⟨_,rfl,by simp only [decide_eq_true_eq];exact hi,hs⟩
theorem nk{v:Value}{xs:List TD}{t:TD}(hs:St H w σ)(hr:RTd H v xs)(hl:xs.length≤1000000):
  Cl Tryz.prog 89 [v,.agg #[I t.tape,I t.day]] w fun u w'=>u=I (iI xs t)∧St H w' σ:=by
 obtain ⟨a,c,rfl⟩:=RTd.shape hr
 refine Cl.o Tryz.func89 Tryz.ntmps89 ag2 ?_
 refine .aj ?_
 refine .bx hs fun b3 w hs=>?_
 refine .z zg (.nil (.seq (.aj (.z zm (.z (cN aT) (.z zm (.nil ?_)))))))
 refine .for (N:=xs.length) (J:=fun k fr w=>fr=[(0,.slice a xs.length c),(3,.pointer (some ⟨b3,0,none⟩))]∧(∀j<k,∀y,xs[j]? =some y→¬y=t)∧St H w (.blk b3 [I t.tape,I t.day]::σ)) ak ?_ ?_ ?_
 ·exact .mk ⟨rfl,fun j hj=>by omega,hs⟩
 ·rintro k fr w hk ⟨rfl,hno,hs⟩
  obtain ⟨x,hx⟩:=nth hk
  refine .block (.aj (.z zm (.z zg (.nil ?_))))
  refine .seq (.draw mix rfl hs fun w hs=>?_)
  refine .ys 0 rfl hs [_,_] da bn ?_;refine .z 1 rfl zm ?_;refine .z 2 rfl zm ?_
  refine .ixX (enc:=TD.c) (i:=3) hs rfl aq .none hr rfl rfl aT bn hx cJ ?_;intro b14 o14 hc14
  refine .r (i:=4) hs rfl aq .none (cj (vs:=x.c) rfl da bn hc14) ?_
  refine .z 5 rfl (nA nW nX fu (fun f hf=>by
   simp only [List.mem_cons,List.not_mem_nil,or_false] at hf
   rcases hf with rfl|rfl<;>exact ⟨by decide,aV,af⟩) rfl rfl) ?_
  refine .D hs ?_
  refine (.cond rfl (fun hc16=>?_) (fun hc16=>?_))
  ·refine .aj (.z zm (.z zg (.nil ?_)))
   refine .ret (rB (rT (rB (rT (Fin.bK Tryz.results89 rfl ?_)))))
   have e:x=t:=Bh.1 (by have:=of_decide_eq_true hc16;exact ⟨this.1.symm,this.2.symm⟩)
   subst e
   exact ⟨by rw [nh hx fun j hj h=>hno j hj _ h rfl],hs.tail⟩
  ·refine .skip ?_
   refine nB (nT ?_)
   exact .mk ⟨rfl,fl hno hx (fun e=>by subst e;simp at hc16),hs⟩
 ·rintro fr w ⟨rfl,hno,hs⟩
  refine nT ?_
  refine .aj (.z zg (.nil ?_))
  refine .ret (Fin.bK Tryz.results89 rfl ?_)
  exact ⟨by rw [s5 hno],hs.tail⟩
theorem oz{t:TD}{r:Rdg}{b:Nat}(hs:St H w σ)(hb:Row H b r.c):
  Cl Tryz.prog 173 [.agg #[I t.tape,I t.day],.pointer (some ⟨b,0,none⟩)] w fun u w'=>u= .bool (decide (t=r.td))∧St H w' σ:=by
 have hb0:bI H b 0 r.c:=hb.cells 0 r.c
 refine Cl.o Tryz.func173 Tryz.ntmps173 ag2 ?_
 refine .aj ?_
 refine .bx hs fun b2 w hs=>?_
 refine .z zg (.nil ?_)
 refine .seq (.draw mix rfl hs fun w hs=>?_)
 refine .ys 0 rfl hs [_,_] da bn ?_;refine .ys 1 rfl hs [_,_,_,_,_,_,_] bZ aE ?_
 refine .E 2 hs ?_
 refine .call Hi rfl (fE hs) ?_;rintro _ w ⟨rfl,hs⟩
 refine .go ?_
 refine .z 3 rfl (nA nW nX fu (fun f hf=>by
  simp only [List.mem_cons,List.not_mem_nil,or_false] at hf
  rcases hf with rfl|rfl<;>exact ⟨by decide,aV,af⟩) rfl rfl) ?_
 refine .z 4 rfl zg ?_;refine .D hs ?_
 refine .ret (Fin.bK Tryz.results173 rfl ?_)
 exact ⟨by congr 1;rw [decide_eq_decide];exact Bh (t:=t) (u:=r.td),hs.tail⟩
set_option maxHeartbeats 1000000 in
theorem lZ{s:Srv}{vst vwa vr vc:Value}(hs:St H w σ)(hr:RRd H vr s.rs)(hl:s.rs.length≤1000000):
  Cl Tryz.prog 90 [.agg #[I s.sp.id,I s.sp.src,vst,vwa,I s.sp.al,I s.sp.up,vr,vc]] w fun u w'=>∃H1 en,HLe H H1∧cz 2 u (tdc s.bD).flatten en∧St H1 w' (en::σ):=by
 obtain ⟨ar,cr,rfl⟩:=RRd.shape hr
 refine Cl.o Tryz.func90 Tryz.ntmps90 ag1 ?_
 refine .aj ?_
 refine .bx hs fun b1 w hs=>?_
 refine .z zg (.nil (.aj (.z zg (.nil (.seq (.aj (.z (zfa aI) (.y hs (zld aU) (.z (cN aA) ?_)))))))))
 refine .z zm (.nil ?_)
 refine .for (N:=s.rs.length) (J:=fun k fr w=>∃vo en H1,fr=[(7,.slice ar s.rs.length cr),(3,vo)]∧HLe H H1∧cz 2 vo (tdc (bw (s.rs.take k))).flatten en∧St H1 w (en::σ)) ak ?_ ?_ ?_
 ·exact .mk ⟨_,.nul,H,rfl,HLe.refl _,.nil 2 none,hs.tail.nul⟩
 ·rintro k fr w hk ⟨vo,en,H1,rfl,hle1,hO,hs⟩
  obtain ⟨r,hx⟩:=nth hk
  have htk:=jS hx
  have htl:=kJ s.rs k ak
  obtain ⟨ao,co,rfl⟩:=hO.fM (kX _) ak
  rw [dI] at hO ⊢
  refine .block (.aj ?_)
  refine .ixX (enc:=Rdg.c) hs (hr.mono hle1) rfl rfl aA aE hx cJ ?_;intro b11 o11 hc11
  refine .q hs (cj (vs:=(Rdg.c r)) rfl bZ aE hc11) ?_
  refine .o (.alloc hs eE rfl fun b5 w hs=>?_)
  refine .o (.aZ (vs:=r.c) hs rfl rfl aE fun w hs=>?_)
  obtain ⟨H2,hle2,r5,hs⟩:=hs.cO (b:=b5) (c:=r.c) .here
  have c5:bI H2 b5 0 r.c:=r5.cells 0 r.c
  refine .nil (.aj (.z zm ?_))
  refine .q hs (dX (f:=[]) (c:=[_]) rfl rfl) ?_
  refine .o (.call Tryz.call172 rfl (mU (g:=173) (cap:=[.pointer (some ⟨b5,0,none⟩)]) (fun t=>decide (t=r.td)) hs hO ak Tryz.call173 (fun w t hs=>oz hs r5)) ?_);rintro _ w ⟨b15,rfl,hb15,hs⟩
  refine .z iD (.nil ?_)
  refine (.cond rfl (fun hc16=>?_) (fun hc16=>?_))
  ·refine .region (.z zm ?_)
   refine .q hs (cj (vs:=r.c) rfl bZ aE c5) ?_
   refine .o (.call Hi rfl (fE (r:=r) hs) ?_);rintro _ w ⟨rfl,hs⟩
   refine .o (.buildSlice (cells:=[_,_]) hs gj rfl rfl fun b20 w hs=>?_)
   refine .o (.append (ys:=r.td.c) hs ee rfl rfl hO (.own .here rfl rfl) (by simp [TD.c,Value.oneCell']) (fun l h=>by rw [cu _ (kX _),dI] at h;omega) ?_);intro v21 en21 w hO2 hs
   refine .z zg (.nil ?_)
   refine nB (nT ?_)
   have hn:r.td∉bw (s.rs.take k):=fun hm=>by
    rw [hb15.2 ⟨_,hm,bQ⟩] at hc16;cases hc16
   rw [←s4,show bw (s.rs.take k)++[r.td]=bw (s.rs.take (k+1)) by rw [htk];unfold qS;rw [if_neg hn]] at hO2
   exact .mk ⟨_,_,H2,rfl,hle1.trans hle2,hO2,hs.sb⟩
  ·refine .skip ?_
   refine nB (nT ?_)
   have hm:r.td∈bw (s.rs.take k):=by
    obtain ⟨x,h1,h2⟩:=hb15.1 (by simpa using hc16)
    rw [←of_decide_eq_true h2];exact h1
   exact .mk ⟨_,_,H2,rfl,hle1.trans hle2,by rw [htk];unfold qS;rw [if_pos hm];exact hO,hs⟩
 ·rintro fr w ⟨vo,en,H1,rfl,hle1,hO,hs⟩
  rw [List.take_length] at hO
  refine nT ?_
  refine .aj (.z zm (.z zg (.nil ?_)))
  refine .ret (Fin.bK Tryz.results90 rfl ?_)
  exact ⟨H1,en,hle1,hO,hs⟩
theorem gX{s:Srv}{vst vwa vr vc:Value}(hs:St H w σ)(hr:RRd H vr s.rs)(hl:s.rs.length≤1000000):
  Cl Tryz.prog 90 [.agg #[I s.sp.id,I s.sp.src,vst,vwa,I s.sp.al,I s.sp.up,vr,vc]] w fun u w'=>∃H1,HLe H H1∧RTd H1 u s.bD∧St H1 w' σ:=by
 refine (lZ hs hr hl).mono ?_
 rintro u w' ⟨H1,en,hle1,hO,hs⟩
 have htl:=db s.rs
 have htl':s.bD.length≤1000000:=by unfold Srv.bD;omega
 obtain ⟨H2,hle2,hR,hs⟩:=cz.cO (m:=2) hO (kX _) ak (by rw [dI];omega) hs .here
 exact ⟨H2,hle1.trans hle2,hR,hs⟩
theorem pY{v:Value}{en:Ent}{xs:List TD}{t:TD}(hs:St H w (en::σ))(hO:cz 2 v (tdc xs).flatten en)(hl:xs.length≤1000000):
  Cl Tryz.prog 89 [v,.agg #[I t.tape,I t.day]] w fun u w'=>u=I (iI xs t)∧St H w' (en::σ):=by
 obtain ⟨a,c,rfl⟩:=hO.fM (kX xs) ak
 rw [dI] at hO ⊢
 refine Cl.o Tryz.func89 Tryz.ntmps89 ag2 ?_
 refine .aj ?_
 refine .bx hs fun b3 w hs=>?_
 refine .z zg (.nil (.seq (.aj (.z zm (.z (cN aT) (.z zm (.nil ?_)))))))
 refine .for (N:=xs.length) (J:=fun k fr w=>fr=[(0,.slice a xs.length c),(3,.pointer (some ⟨b3,0,none⟩))]∧(∀j<k,∀y,xs[j]? =some y→¬y=t)∧St H w (.blk b3 [I t.tape,I t.day]::en::σ)) ak ?_ ?_ ?_
 ·exact .mk ⟨rfl,fun j hj=>by omega,hs⟩
 ·rintro k fr w hk ⟨rfl,hno,hs⟩
  obtain ⟨x,hx⟩:=nth hk
  obtain ⟨b,c',sp,hv,rfl,_⟩:=hO.Fx (kX xs) ak (by rw [dI];omega)
  rw [dI] at hv
  cases hv
  refine .block (.aj (.z zm (.z zg (.nil ?_))))
  refine .seq (.draw mix rfl hs fun w hs=>?_)
  refine .ys 0 rfl hs [_,_] da bn ?_;refine .z 1 rfl zm ?_;refine .z 2 rfl zm ?_;refine .z 3 rfl (ou aT bn) ?_
  refine .yW (i:=4) (vs:=x.c) hs rfl aq .none rfl da bn ?_ (hv:=vN (kX xs) (yG hx) sp)
  refine .z 5 rfl (nA nW nX fu (fun f hf=>by
   simp only [List.mem_cons,List.not_mem_nil,or_false] at hf
   rcases hf with rfl|rfl<;>exact ⟨by decide,aV,af⟩) rfl rfl) ?_
  refine .D hs ?_
  refine (.cond rfl (fun hc16=>?_) (fun hc16=>?_))
  ·refine .aj (.z zm (.z zg (.nil ?_)))
   refine .ret (rB (rT (rB (rT (Fin.bK Tryz.results89 rfl ?_)))))
   have e:x=t:=Bh.1 (by have:=of_decide_eq_true hc16;exact ⟨this.1.symm,this.2.symm⟩)
   subst e
   exact ⟨by rw [nh hx fun j hj h=>hno j hj _ h rfl],hs.tail⟩
  ·refine .skip ?_
   refine nB (nT ?_)
   exact .mk ⟨rfl,fl hno hx (fun e=>by subst e;simp at hc16),hs⟩
 ·rintro fr w ⟨rfl,hno,hs⟩
  refine nT ?_
  refine .aj (.z zg (.nil ?_))
  refine .ret (Fin.bK Tryz.results89 rfl ?_)
  exact ⟨by rw [s5 hno],hs.tail⟩
theorem fW{x0 x1 x2 x3 x4 x5 x6 x7 x8 vl:Value}{en:Ent}{bm:Nat}{ls:List Lim}{a b hi lo by_:Int}(hs:St H w (.blk bm [x0,x1,x2,x3,x4,x5,x6,x7,x8,vl]::en::σ))(hO:cz 4 vl (gg ls) en)(hl:ls.length≤100000):
  Cl Tryz.prog 115 [.pointer (some ⟨bm,0,none⟩),I a,I b,I hi,I lo,I by_] w fun _ w'=>∃vl' en',cz 4 vl' (gg (ls++two a b hi lo by_)) en'∧St H w' (.blk bm [x0,x1,x2,x3,x4,x5,x6,x7,x8,vl']::en'::σ):=by
 obtain ⟨al,ll,cl,rfl,h⟩:=hO.shape
 refine Cl.of Tryz.func115 rfl Tryz.ntmps115 bQ (ep (k:=0) rfl (ep (k:=1) rfl (ep (k:=2) rfl (ep (k:=3) rfl (ep (k:=4) rfl (ep (k:=5) rfl (w9))))))) ?_
 refine .region (.z zm (.z zm (.z znc (.z (zfa gY) (.y hs (zld bT) (.z zm (.z zm (.z zm (.z zm ?_)))))))))
 refine .z (zbd [_,_,_,_] eX) (.z zm (.z zm (.z zm (.z zm (.z (zbd [_,_,_,_] eX) ?_)))))
 refine .o (.buildSlice (cells:=gg (two a b hi lo by_)) hs fU rfl aq fun b27 w hs=>?_)
 refine .o (.append (ys:=gg (two a b hi lo by_)) hs bM rfl rfl hO (.own .here rfl rfl) (iz _) (fun l h=>by rw [cV] at h;omega) ?_);intro v28 en28 w hO2 hs
 rw [←fj] at hO2
 obtain ⟨a28,l28,c28,rfl,h28⟩:=hO2.shape
 refine .z znc (.z (zfa gY) ?_)
 refine .o (.store hs rfl rfl ji fun w hs=>?_)
 refine .nil ?_
 exact Fin.yB Tryz.results115 ⟨_,_,hO2,hs.sb⟩
theorem jr{s:Spc}{vst vwa x6 x7 x8 vl:Value}{bm:Nat}{j:Int}(hs:St H w σ)(hm:Mem σ (.blk bm [I s.id,I s.src,vst,vwa,I s.al,I s.up,x6,x7,x8,vl]))(h1:RI H vst s.st)(h2:RI H vwa s.wa)(hb:s.st.length≤1000∧s.wa.length≤1000)(hj: -1≤j∧j≤1000):
  Cl Tryz.prog 116 [.pointer (some ⟨bm,0,none⟩),I j] w fun u w'=>u=I ((s.many:Int)+1+j)∧St H w' σ:=by
 have hmm:s.many≤1000000:=Nat.mul_le_mul hb.1 hb.2
 refine Cl.o Tryz.func116 Tryz.ntmps116 ag2 ?_
 refine .aj (.z zg (.nil (.aj (.z zm (.z znc (.z (zfa dR) (.z (zfa aJ) ?_)))))))
 refine .q hs (kN (vs:=[I s.id,I s.src,vst,vwa,I s.al,I s.up]) rfl aF aB hm) ?_
 refine .o (.call Tryz.call91 rfl (gw (s:=s) hs h1 h2 hb) ?_);rintro _ w ⟨rfl,hs⟩
 refine .z cH (.z zm (.z cH (.z zg (.nil ?_))))
 refine .ret (Fin.bK Tryz.results116 rfl ?_)
 exact ⟨rfl,hs⟩
theorem dK{s:Spc}(h:eT s):s.st.length≤1000∧s.wa.length≤1000∧0<s.wa.length∧s.many≤63:=by
 have h1:=h.st.many;have h2:=h.wa.many;have h3:=h.wa.two
 have:s.many≤9*7:=Nat.mul_le_mul h1 h2
 omega
theorem pC{s:Srv}{ts:List TD}{vst vwa vr vc vt vl:Value}{en:Ent}{bm:Nat}{ls:List Lim}(hs:St H w (.blk bm [I s.sp.id,I s.sp.src,vst,vwa,I s.sp.al,I s.sp.up,vr,vc,vt,vl]::en::σ))(hk:MkK H s ts vst vwa vr vc vt)(hO:cz 4 vl (gg ls) en)(hl:ls.length≤10000)(hok:eT s.sp):
  Cl Tryz.prog 174 [.pointer (some ⟨bm,0,none⟩)] w fun _ w'=>∃H1 vl' en',HLe H H1∧cz 4 vl' (gg (ls++eW (qW s.sp) s.sp.wa.length s.sp.st.length)) en'∧St H1 w' (.blk bm [I s.sp.id,I s.sp.src,vst,vwa,I s.sp.al,I s.sp.up,vr,vc,vt,vl']::en'::σ):=by
 have hsm:=dK hok
 refine Cl.o Tryz.func174 Tryz.ntmps174 ag1 ?_
 refine .aj ?_
 refine .bx hs fun b1 w hs=>?_
 refine .nil (.aj (.y hs (zld qZ) (.z znc (.z (zfa dR) (.z (zfa aJ) (.y hs (zls [_,_,_,_,_,_] aF aB) ?_))))))
 refine .o (.call A4 rfl (fN (s:=s.sp) hs hk.st hk.wa ⟨ak,ak⟩) ?_);rintro _ w ⟨H1,ba,hle1,rfl,hit,hs⟩
 refine .nil (.block ?_)
 refine .rangeFunc (gf:=190) (cap:=[.pointer (some ⟨ba,0,none⟩)]) (xs:=vX s.sp) (σb:=[.blk bm [I s.sp.id,I s.sp.src,vst,vwa,I s.sp.al,I s.sp.up,vr,vc,vt,vl],en,.blk b1 [.pointer (some ⟨bm,0,none⟩)]]) (σf:=σ) (hs.sb) trivial rfl hit A2 (fun x hx=>by
   simp only [vX,List.mem_map] at hx
   obtain ⟨j,_,rfl⟩:=hx;rfl) rfl
  (I:=fun p H' σb=>∃vl en,σb=[.blk bm [I s.sp.id,I s.sp.src,vst,vwa,I s.sp.al,I s.sp.up,vr,vc,vt,vl],en,.blk b1 [.pointer (some ⟨bm,0,none⟩)]]∧cz 4 vl (gg (ls++qp (qW s.sp) s.sp.wa.length p)) en) (Ix:=fun _ _ _=>False)
  (fun j _ _ σ g1 g2=>g2) (fun _ _ _ _ _ h=>h) ⟨vl,en,rfl,by rw [od,List.append_nil];exact hO⟩ ?_ ?_ (fun D c H' σb w _ h _=>h.elim)
 ·rintro ly p hp H2 σb2 σf2 w hle2 ⟨vl,en,rfl,hO⟩ hs ⟨rr,hrr⟩
  have hpm:p<s.sp.many:=by rw [eJ] at hp;exact hp
  have hsucc:=oe (qW s.sp) (p:=p) hsm.2.2.1
  have hpl:=jW (oq s.sp) hsm.2.2.1 p
  have hin:p/s.sp.wa.length<s.sp.st.length:=Nat.div_lt_of_lt_mul (by rw [Nat.mul_comm];exact hpm)
  have hkm:=Nat.mod_lt p hsm.2.2.1
  have hdm:=Nat.div_add_mod p s.sp.wa.length
  rw [Nat.mul_comm] at hdm
  have hu:(s.sp.u (p/s.sp.wa.length) (p%s.sp.wa.length):Int)=(p:Int)+1:=by unfold Spc.u;omega
  rw [mx hp]
  obtain ⟨al,ll,cl,rfl,hll⟩:=hO.shape
  generalize p/s.sp.wa.length=i at*
  generalize p%s.sp.wa.length=k at*
  have hk2:=hk.mono (hle1.trans hle2)
  refine .region ?_
  refine .o (.alloc hs kF rfl fun b2 w hs=>?_)
  refine .o (.aZ (vs:=[_,_,_]) hs rfl rfl oL fun w hs=>?_)
  refine .nil ?_
  refine nT ?_
  refine ⟨H2,[.blk b2 [I (i:Int),I (k:Int),I ((p+1:Nat):Int)],.blk bm [I s.sp.id,I s.sp.src,vst,vwa,I s.sp.al,I s.sp.up,vr,vc,vt,.slice al ll cl],en,.blk b1 [.pointer (some ⟨bm,0,none⟩)]],HLe.refl _,hs,?_⟩;rintro w σf4 - hs
  refine .block ?_
  refine .draw mix rfl hs fun w hs=>?_
  refine .y 0 rfl hs qZ ?_;refine .z 1 rfl (zfa eS) ?_;refine .y 2 rfl hs af ?_;refine .y 3 rfl hs qZ ?_;refine .z 4 rfl znc ?_;refine .z 5 rfl (zfa dR) ?_;refine .z 6 rfl (zfa aJ) ?_;refine .z 7 rfl (zfa cQ) ?_;refine .y 8 rfl hs af ?_
  refine .E 9 hs ?_
  refine .call uN rfl (fW (ls:=ls++qp (qW s.sp) s.sp.wa.length p) (hs.sb:St H2 w (.blk bm _::en:: .blk b1 _::σf4)) hO (by rw [List.length_append];omega)) ?_;rintro _ w ⟨vl3,en3,hO3,hs⟩
  rw [show two 0 ((p+1:Nat):Int) 20000 0 s.sp.src=qW s.sp i k by unfold qW;rw [hu];rfl,List.append_assoc,←hsucc] at hO3
  refine .go ?_
  refine .D hs ?_
  refine nB ?_
  exact ⟨H2,_,HLe.refl _,hs,_,_,rfl,hO3⟩
 ·rintro D H2 σb2 w hle2 ⟨vl,en,rfl,hO⟩ hs
  rw [eJ,show s.sp.many=s.sp.st.length*s.sp.wa.length from rfl,qo _ hsm.2.2.1] at hO
  refine nB ?_
  exact Fin.GB [D] [] hs fun w hs=>⟨_,results0 Tryz.results174,H2,vl,en,hle1.trans hle2,hO,(hs.sb:St H2 w (.blk bm _::en::σ))⟩
theorem sM{s:Srv}{ts:List TD}{vst vwa vr vc vt vl:Value}{en:Ent}{bm:Nat}{ls:List Lim}(hs:St H w (.blk bm [I s.sp.id,I s.sp.src,vst,vwa,I s.sp.al,I s.sp.up,vr,vc,vt,vl]::en::σ))(hk:MkK H s ts vst vwa vr vc vt)(hO:cz 4 vl (gg ls) en)(hl:ls.length≤10000)(hok:eT s.sp):
  Cl Tryz.prog 175 [.pointer (some ⟨bm,0,none⟩)] w fun _ w'=>∃H1 vl' en',HLe H H1∧cz 4 vl' (gg (ls++eW (alL s.sp) s.sp.wa.length s.sp.st.length)) en'∧St H1 w' (.blk bm [I s.sp.id,I s.sp.src,vst,vwa,I s.sp.al,I s.sp.up,vr,vc,vt,vl']::en'::σ):=by
 have hsm:=dK hok
 obtain ⟨ast,cst,rfl⟩:=RI.shape hk.st
 obtain ⟨awa,cwa,rfl⟩:=RI.shape hk.wa
 refine Cl.o Tryz.func175 Tryz.ntmps175 ag1 ?_
 refine .aj ?_
 refine .bx hs fun b1 w hs=>?_
 refine .nil (.aj (.y hs (zld qZ) (.z znc (.z (zfa dR) (.z (zfa aJ) (.y hs (zls [_,_,_,_,_,_] aF aB) ?_))))))
 refine .o (.alloc hs gh rfl fun b2 w hs=>?_)
 refine .o (.aZ (vs:=[_,_,_,_,_,_]) hs rfl rfl aB fun w hs=>?_)
 refine .nil (.aj (.y hs (zls [_,_,_,_,_,_] aF aB) ?_))
 refine .o (.call A4 rfl (fN (s:=s.sp) hs hk.st hk.wa ⟨ak,ak⟩) ?_);rintro _ w ⟨H1,ba,hle1,rfl,hit,hs⟩
 refine .nil (.block ?_)
 refine .rangeFunc (gf:=190) (cap:=[.pointer (some ⟨ba,0,none⟩)]) (xs:=vX s.sp) (σb:=[.blk bm [I s.sp.id,I s.sp.src,.slice ast s.sp.st.length cst,.slice awa s.sp.wa.length cwa,I s.sp.al,I s.sp.up,vr,vc,vt,vl],en,.blk b1 [.pointer (some ⟨bm,0,none⟩)],.blk b2 [I s.sp.id,I s.sp.src,.slice ast s.sp.st.length cst,.slice awa s.sp.wa.length cwa,I s.sp.al,I s.sp.up]]) (σf:=σ) (hs.sb) trivial rfl hit A2 (fun x hx=>by
   simp only [vX,List.mem_map] at hx
   obtain ⟨j,_,rfl⟩:=hx;rfl) rfl
  (I:=fun p H' σb=>∃vl en,σb=[.blk bm [I s.sp.id,I s.sp.src,.slice ast s.sp.st.length cst,.slice awa s.sp.wa.length cwa,I s.sp.al,I s.sp.up,vr,vc,vt,vl],en,.blk b1 [.pointer (some ⟨bm,0,none⟩)],.blk b2 [I s.sp.id,I s.sp.src,.slice ast s.sp.st.length cst,.slice awa s.sp.wa.length cwa,I s.sp.al,I s.sp.up]]∧cz 4 vl (gg (ls++qp (alL s.sp) s.sp.wa.length p)) en) (Ix:=fun _ _ _=>False)
  (fun j _ _ σ g1 g2=>g2) (fun _ _ _ _ _ h=>h) ⟨vl,en,rfl,by rw [od,List.append_nil];exact hO⟩ ?_ ?_ (fun D c H' σb w _ h _=>h.elim)
 ·rintro ly p hp H2 σb2 σf2 w hle2 ⟨vl,en,rfl,hO⟩ hs ⟨rr,hrr⟩
  have hpm:p<s.sp.many:=by rw [eJ] at hp;exact hp
  have hsucc:=oe (alL s.sp) (p:=p) hsm.2.2.1
  have hpl:=jW (r9 s.sp) hsm.2.2.1 p
  have hin:p/s.sp.wa.length<s.sp.st.length:=Nat.div_lt_of_lt_mul (by rw [Nat.mul_comm];exact hpm)
  have hkm:=Nat.mod_lt p hsm.2.2.1
  have hdm:=Nat.div_add_mod p s.sp.wa.length
  rw [Nat.mul_comm] at hdm
  have hu:(s.sp.u (p/s.sp.wa.length) (p%s.sp.wa.length):Int)=(p:Int)+1:=by unfold Spc.u;omega
  rw [mx hp]
  obtain ⟨al,ll,cl,rfl,hll⟩:=hO.shape
  generalize p/s.sp.wa.length=i at*
  generalize p%s.sp.wa.length=k at*
  have hk2:=hk.mono (hle1.trans hle2)
  refine .region ?_
  refine .o (.alloc hs kF rfl fun b3 w hs=>?_)
  refine .o (.aZ (vs:=[_,_,_]) hs rfl rfl oL fun w hs=>?_)
  refine .nil ?_
  refine nT ?_
  refine ⟨H2,[.blk b3 [I (i:Int),I (k:Int),I ((p+1:Nat):Int)],.blk bm [I s.sp.id,I s.sp.src,.slice ast s.sp.st.length cst,.slice awa s.sp.wa.length cwa,I s.sp.al,I s.sp.up,vr,vc,vt,.slice al ll cl],en,.blk b1 [.pointer (some ⟨bm,0,none⟩)],.blk b2 [I s.sp.id,I s.sp.src,.slice ast s.sp.st.length cst,.slice awa s.sp.wa.length cwa,I s.sp.al,I s.sp.up]],HLe.refl _,hs,?_⟩;rintro w σf4 - hs
  refine .block (.aj (.z (zfa dJ) (.y hs (zld af) (.z cH (.z (zfa bj) (.y hs (zld an) (.z (cN ae) (.z fD (.nil ?_)))))))))
  refine (.bJ rfl (fun hc19=>?_) (fun hc19=>?_))
  ·refine .seq (.draw mix rfl hs fun w hs=>?_)
   refine .z 0 rfl (zfa dN) ?_;refine .z 1 rfl (zfa jt) ?_;refine .y 2 rfl hs af ?_;refine .z 3 rfl (zfa bj) ?_;refine .y 4 rfl hs an ?_;refine .z 5 rfl (zfa dJ) ?_;refine .y 6 rfl hs af ?_;refine .z 7 rfl cH ?_
   have hris:=hok.st.rise i ak
   have hq0:=hok.st.bd (i:=i) ak
   have hq1:=hok.st.bd (i:=i+1) ak
   have hal:=hok.al
   refine .ixX (enc:=fun x=>[I x]) (i:=8) hs rfl aq .none hk2.st rfl rfl ae ai (bE (l:=s.sp.st) (i:=(i+1)) ak) cJ ?_;intro b28 o28 hc28;replace hc28:=bI.one hc28
   refine .r (i:=9) hs rfl aq .none (aO rfl af hc28) ?_
   refine .z 10 rfl (zfa bj) ?_;refine .y 11 rfl hs an ?_;refine .z 12 rfl (zfa dJ) ?_;refine .y 13 rfl hs af ?_
   refine .ixX (enc:=fun x=>[I x]) (i:=14) hs rfl aq .none hk2.st rfl rfl ae ai (bE (l:=s.sp.st) (i:=i) ak) cJ ?_;intro b34 o34 hc34;replace hc34:=bI.one hc34
   refine .r (i:=15) hs rfl aq .none (aO rfl af hc34) ?_
   refine .z 16 rfl gO ?_
   refine .E 17 hs ?_
   refine .call Tryz.call230 rfl (l5 hs ak ak) ?_;rintro _ w ⟨rfl,hs⟩
   refine .go ?_
   refine .z 18 rfl zg ?_;refine .D hs ?_
   refine .region (.y hs (zld qZ) (.z (zfa eS) (.y hs (zld af) (.z (zfa eS) (.y hs (zld af) (.z (zfa aS) (.y hs (zld an) (.z (cN ae) (.z cH ?_)))))))))
   refine .z zm (.z zm (.z (zfa cQ) (.y hs (zld af) ?_)))
   refine .o (.call uN rfl (fW (ls:=ls++qp (alL s.sp) s.sp.wa.length p) (hs.sb:St H2 w (.blk bm _::en:: .blk b1 _:: .blk b2 _::σf4)) hO (by rw [List.length_append];omega)) ?_);rintro _ w ⟨vl3,en3,hO3,hs⟩
   have hu2:(s.sp.u (i+1) k:Int)=((p+1:Nat):Int)+(s.sp.wa.length:Int):=by unfold Spc.u at hu ⊢;rw [Nat.add_mul];omega
   rw [show two ((p+1:Nat):Int) (((p+1:Nat):Int)+(s.sp.wa.length:Int)) (kc s.sp.al (gi s.sp.st (i+1) - gi s.sp.st i)) (kc s.sp.al (gi s.sp.st (i+1) - gi s.sp.st i)) s.sp.src=alL s.sp i k by unfold alL;rw [if_pos ak,hu,hu2];rfl,List.append_assoc,←hsucc] at hO3
   refine .nil ?_
   refine nB ?_
   exact ⟨H2,_,HLe.refl _,hs,_,_,rfl,hO3⟩
  ·refine .skip ?_
   refine nB ?_
   rw [show alL s.sp i k=[] by unfold alL;rw [if_neg ak],List.append_nil] at hsucc
   exact ⟨H2,_,HLe.refl _,(hs.sb:St H2 w (.blk bm _::en:: .blk b1 _:: .blk b2 _::σf4)),_,_,rfl,by rw [hsucc];exact hO⟩
 ·rintro D H2 σb2 w hle2 ⟨vl,en,rfl,hO⟩ hs
  rw [eJ,show s.sp.many=s.sp.st.length*s.sp.wa.length from rfl,qo _ hsm.2.2.1] at hO
  refine nB ?_
  exact Fin.GB [D] [] hs fun w hs=>⟨_,results0 Tryz.results175,H2,vl,en,hle1.trans hle2,hO,(hs.sb:St H2 w (.blk bm _::en::σ))⟩
theorem wH{s:Srv}{ts:List TD}{vst vwa vr vc vt vl:Value}{en:Ent}{bm:Nat}{ls:List Lim}(hs:St H w (.blk bm [I s.sp.id,I s.sp.src,vst,vwa,I s.sp.al,I s.sp.up,vr,vc,vt,vl]::en::σ))(hk:MkK H s ts vst vwa vr vc vt)(hO:cz 4 vl (gg ls) en)(hl:ls.length≤10000)(hok:eT s.sp):
  Cl Tryz.prog 176 [.pointer (some ⟨bm,0,none⟩)] w fun _ w'=>∃H1 vl' en',HLe H H1∧cz 4 vl' (gg (ls++eW (upL s.sp) s.sp.wa.length s.sp.st.length)) en'∧St H1 w' (.blk bm [I s.sp.id,I s.sp.src,vst,vwa,I s.sp.al,I s.sp.up,vr,vc,vt,vl']::en'::σ):=by
 have hsm:=dK hok
 obtain ⟨ast,cst,rfl⟩:=RI.shape hk.st
 obtain ⟨awa,cwa,rfl⟩:=RI.shape hk.wa
 refine Cl.o Tryz.func176 Tryz.ntmps176 ag1 ?_
 refine .aj ?_
 refine .bx hs fun b1 w hs=>?_
 refine .nil (.aj (.y hs (zld qZ) (.z znc (.z (zfa dR) (.z (zfa aJ) (.y hs (zls [_,_,_,_,_,_] aF aB) ?_))))))
 refine .o (.alloc hs gh rfl fun b2 w hs=>?_)
 refine .o (.aZ (vs:=[_,_,_,_,_,_]) hs rfl rfl aB fun w hs=>?_)
 refine .nil (.aj (.y hs (zls [_,_,_,_,_,_] aF aB) ?_))
 refine .o (.call A4 rfl (fN (s:=s.sp) hs hk.st hk.wa ⟨ak,ak⟩) ?_);rintro _ w ⟨H1,ba,hle1,rfl,hit,hs⟩
 refine .nil (.block ?_)
 refine .rangeFunc (gf:=190) (cap:=[.pointer (some ⟨ba,0,none⟩)]) (xs:=vX s.sp) (σb:=[.blk bm [I s.sp.id,I s.sp.src,.slice ast s.sp.st.length cst,.slice awa s.sp.wa.length cwa,I s.sp.al,I s.sp.up,vr,vc,vt,vl],en,.blk b1 [.pointer (some ⟨bm,0,none⟩)],.blk b2 [I s.sp.id,I s.sp.src,.slice ast s.sp.st.length cst,.slice awa s.sp.wa.length cwa,I s.sp.al,I s.sp.up]]) (σf:=σ) (hs.sb) trivial rfl hit A2 (fun x hx=>by
   simp only [vX,List.mem_map] at hx
   obtain ⟨j,_,rfl⟩:=hx;rfl) rfl
  (I:=fun p H' σb=>∃vl en,σb=[.blk bm [I s.sp.id,I s.sp.src,.slice ast s.sp.st.length cst,.slice awa s.sp.wa.length cwa,I s.sp.al,I s.sp.up,vr,vc,vt,vl],en,.blk b1 [.pointer (some ⟨bm,0,none⟩)],.blk b2 [I s.sp.id,I s.sp.src,.slice ast s.sp.st.length cst,.slice awa s.sp.wa.length cwa,I s.sp.al,I s.sp.up]]∧cz 4 vl (gg (ls++qp (upL s.sp) s.sp.wa.length p)) en) (Ix:=fun _ _ _=>False)
  (fun j _ _ σ g1 g2=>g2) (fun _ _ _ _ _ h=>h) ⟨vl,en,rfl,by rw [od,List.append_nil];exact hO⟩ ?_ ?_ (fun D c H' σb w _ h _=>h.elim)
 ·rintro ly p hp H2 σb2 σf2 w hle2 ⟨vl,en,rfl,hO⟩ hs ⟨rr,hrr⟩
  have hpm:p<s.sp.many:=by rw [eJ] at hp;exact hp
  have hsucc:=oe (upL s.sp) (p:=p) hsm.2.2.1
  have hpl:=jW (q9 s.sp) hsm.2.2.1 p
  have hin:p/s.sp.wa.length<s.sp.st.length:=Nat.div_lt_of_lt_mul (by rw [Nat.mul_comm];exact hpm)
  have hkm:=Nat.mod_lt p hsm.2.2.1
  have hdm:=Nat.div_add_mod p s.sp.wa.length
  rw [Nat.mul_comm] at hdm
  have hu:(s.sp.u (p/s.sp.wa.length) (p%s.sp.wa.length):Int)=(p:Int)+1:=by unfold Spc.u;omega
  rw [mx hp]
  obtain ⟨al,ll,cl,rfl,hll⟩:=hO.shape
  generalize p/s.sp.wa.length=i at*
  generalize p%s.sp.wa.length=k at*
  have hk2:=hk.mono (hle1.trans hle2)
  refine .region ?_
  refine .o (.alloc hs kF rfl fun b3 w hs=>?_)
  refine .o (.aZ (vs:=[_,_,_]) hs rfl rfl oL fun w hs=>?_)
  refine .nil ?_
  refine nT ?_
  refine ⟨H2,[.blk b3 [I (i:Int),I (k:Int),I ((p+1:Nat):Int)],.blk bm [I s.sp.id,I s.sp.src,.slice ast s.sp.st.length cst,.slice awa s.sp.wa.length cwa,I s.sp.al,I s.sp.up,vr,vc,vt,.slice al ll cl],en,.blk b1 [.pointer (some ⟨bm,0,none⟩)],.blk b2 [I s.sp.id,I s.sp.src,.slice ast s.sp.st.length cst,.slice awa s.sp.wa.length cwa,I s.sp.al,I s.sp.up]],HLe.refl _,hs,?_⟩;rintro w σf4 - hs
  refine .block (.aj (.z (zfa dt) (.y hs (zld af) (.z cH (.z (zfa aS) (.y hs (zld an) (.z (cN ae) (.z fD (.nil ?_)))))))))
  refine (.bJ rfl (fun hc19=>?_) (fun hc19=>?_))
  ·refine .seq (.draw mix rfl hs fun w hs=>?_)
   refine .z 0 rfl (zfa dN) ?_;refine .z 1 rfl (zfa js) ?_;refine .y 2 rfl hs af ?_;refine .z 3 rfl (zfa aS) ?_;refine .y 4 rfl hs an ?_;refine .z 5 rfl (zfa dt) ?_;refine .y 6 rfl hs af ?_;refine .z 7 rfl cH ?_
   have hris:=hok.wa.rise k ak
   have hq0:=hok.wa.bd (i:=k) ak
   have hq1:=hok.wa.bd (i:=k+1) ak
   have hal:=hok.up
   refine .ixX (enc:=fun x=>[I x]) (i:=8) hs rfl aq .none hk2.wa rfl rfl ae ai (bE (l:=s.sp.wa) (i:=(k+1)) ak) cJ ?_;intro b28 o28 hc28;replace hc28:=bI.one hc28
   refine .r (i:=9) hs rfl aq .none (aO rfl af hc28) ?_
   refine .z 10 rfl (zfa aS) ?_;refine .y 11 rfl hs an ?_;refine .z 12 rfl (zfa dt) ?_;refine .y 13 rfl hs af ?_
   refine .ixX (enc:=fun x=>[I x]) (i:=14) hs rfl aq .none hk2.wa rfl rfl ae ai (bE (l:=s.sp.wa) (i:=k) ak) cJ ?_;intro b34 o34 hc34;replace hc34:=bI.one hc34
   refine .r (i:=15) hs rfl aq .none (aO rfl af hc34) ?_
   refine .z 16 rfl gO ?_
   refine .E 17 hs ?_
   refine .call Tryz.call230 rfl (l5 hs ak ak) ?_;rintro _ w ⟨rfl,hs⟩
   refine .go ?_
   refine .z 18 rfl zg ?_;refine .D hs ?_
   refine .region (.y hs (zld qZ) (.z (zfa eS) (.y hs (zld af) (.z (zfa eS) (.y hs (zld af) (.z cH (.z zm (.z zm (.z (zfa cQ) ?_)))))))))
   refine .y hs (zld af) ?_
   refine .o (.call uN rfl (fW (ls:=ls++qp (upL s.sp) s.sp.wa.length p) (hs.sb:St H2 w (.blk bm _::en:: .blk b1 _:: .blk b2 _::σf4)) hO (by rw [List.length_append];omega)) ?_);rintro _ w ⟨vl3,en3,hO3,hs⟩
   have hu2:(s.sp.u i (k+1):Int)=((p+1:Nat):Int)+1:=by unfold Spc.u at hu ⊢;omega
   rw [show two ((p+1:Nat):Int) (((p+1:Nat):Int)+1) (kc s.sp.up (gi s.sp.wa (k+1) - gi s.sp.wa k)) (kc s.sp.up (gi s.sp.wa (k+1) - gi s.sp.wa k)) s.sp.src=upL s.sp i k by unfold upL;rw [if_pos ak,hu,hu2];rfl,List.append_assoc,←hsucc] at hO3
   refine .nil ?_
   refine nB ?_
   exact ⟨H2,_,HLe.refl _,hs,_,_,rfl,hO3⟩
  ·refine .skip ?_
   refine nB ?_
   rw [show upL s.sp i k=[] by unfold upL;rw [if_neg ak],List.append_nil] at hsucc
   exact ⟨H2,_,HLe.refl _,(hs.sb:St H2 w (.blk bm _::en:: .blk b1 _:: .blk b2 _::σf4)),_,_,rfl,by rw [hsucc];exact hO⟩
 ·rintro D H2 σb2 w hle2 ⟨vl,en,rfl,hO⟩ hs
  rw [eJ,show s.sp.many=s.sp.st.length*s.sp.wa.length from rfl,qo _ hsm.2.2.1] at hO
  refine nB ?_
  exact Fin.GB [D] [] hs fun w hs=>⟨_,results0 Tryz.results176,H2,vl,en,hle1.trans hle2,hO,(hs.sb:St H2 w (.blk bm _::en::σ))⟩
theorem rI{s:Srv}{ts:List TD}{vst vwa vr vc vt vl:Value}{en:Ent}{bm:Nat}{ls:List Lim}(hs:St H w (.blk bm [I s.sp.id,I s.sp.src,vst,vwa,I s.sp.al,I s.sp.up,vr,vc,vt,vl]::en::σ))(hk:MkK H s ts vst vwa vr vc vt)(hO:cz 4 vl (gg ls) en)(hl:ls.length≤10000)(hok:eT s.sp)(htl:ts.length≤100):
  Cl Tryz.prog 177 [.pointer (some ⟨bm,0,none⟩)] w fun _ w'=>∃H1 vl' en',HLe H H1∧cz 4 vl' (gg (ls++wS s.sp ts.length)) en'∧St H1 w' (.blk bm [I s.sp.id,I s.sp.src,vst,vwa,I s.sp.al,I s.sp.up,vr,vc,vt,vl']::en'::σ):=by
 have hsm:=dK hok
 obtain ⟨at_,ct,rfl⟩:=RTd.shape hk.ts
 refine Cl.o Tryz.func177 Tryz.ntmps177 ag1 ?_
 refine .aj (.z zm (.z znc (.z (zfa fS) (.y hs (zld G9) (.z (cN aT) (.z zm (.nil ?_)))))))
 refine .for (N:=ts.length) (J:=fun j fr w=>fr=[(0,.pointer (some ⟨bm,0,none⟩))]∧∃vl en,cz 4 vl (gg (ls++wS s.sp j)) en∧St H w (.blk bm [I s.sp.id,I s.sp.src,vst,vwa,I s.sp.al,I s.sp.up,vr,vc,.slice at_ ts.length ct,vl]::en::σ)) ak ?_ ?_ ?_
 ·exact .mk ⟨rfl,vl,en,by show cz 4 vl (gg (ls++[])) en;rw [List.append_nil];exact hO,hs⟩
 ·rintro j fr w hj ⟨rfl,vl,en,hO,hs⟩
  have hel:=jM s.sp j
  obtain ⟨al,ll,cl,rfl,hll⟩:=hO.shape
  refine .block (.aj (.z zm (.z zg (.nil ?_))))
  refine .draw mix rfl hs fun w hs=>?_
  refine .z 0 rfl zm ?_;refine .z 1 rfl zm ?_;refine .z 2 rfl zm ?_;refine .z 4 rfl zm ?_;refine .z 5 rfl znc ?_;refine .z 6 rfl (zfa dR) ?_;refine .z 7 rfl (zfa aJ) ?_;refine .z 8 rfl (zfa cQ) ?_;refine .y 9 rfl hs af ?_
  refine .E 3 hs ?_
  refine .call Tryz.call116 rfl (jr (s:=s.sp) hs .here hk.st hk.wa ⟨ak,ak⟩ ⟨ak,ak⟩) ?_;rintro _ w ⟨rfl,hs⟩
  refine .go ?_
  refine .E 10 hs ?_
  refine .call uN rfl (fW (ls:=ls++wS s.sp j) hs hO (by rw [List.length_append];omega)) ?_;rintro _ w ⟨vl3,en3,hO3,hs⟩
  rw [show (s.sp.many:Int)+1+(j:Int)=((s.sp.many+1+j:Nat):Int) by omega,List.append_assoc] at hO3
  refine .go ?_
  refine .D hs ?_
  refine nB (nT ?_)
  exact .mk ⟨rfl,vl3,en3,hO3,hs⟩
 ·rintro fr w ⟨rfl,vl,en,hO,hs⟩
  exact Fin.yB Tryz.results177 ⟨H,vl,en,HLe.refl _,hO,hs⟩
set_option maxHeartbeats 1000000 in
theorem kQ{s:Srv}{ts:List TD}{vst vwa vr vc vt vl:Value}{en:Ent}{bm:Nat}{ls:List Lim}(hs:St H w (.blk bm [I s.sp.id,I s.sp.src,vst,vwa,I s.sp.al,I s.sp.up,vr,vc,vt,vl]::en::σ))(hk:MkK H s ts vst vwa vr vc vt)(hO:cz 4 vl (gg ls) en)(hl:ls.length≤10000)(hok:eT s.sp)(htl:ts.length≤100)(hcl:s.cs.length≤20)(hc:∀c∈s.cs,oJ c){j0:Nat}(hj0:j0≤ts.length):
  Cl Tryz.prog 117 [.pointer (some ⟨bm,0,none⟩),I (j0:Int)] w fun _ w'=>∃H1 vl' en',HLe H H1∧cz 4 vl' (gg (ls++qD s.sp ts s.cs j0 s.cs.length)) en'∧St H1 w' (.blk bm [I s.sp.id,I s.sp.src,vst,vwa,I s.sp.al,I s.sp.up,vr,vc,vt,vl']::en'::σ):=by
 have hsm:=dK hok
 obtain ⟨at_,ct,rfl⟩:=RTd.shape hk.ts
 obtain ⟨ac,cc,rfl⟩:=RCm.shape hk.cs
 refine Cl.o Tryz.func117 Tryz.ntmps117 ag2 ?_
 refine .aj (.z zm (.z znc (.z (zfa dR) (.z (zfa bq) (.y hs (zld cB) (.z (cN aN) (.z zm (.nil ?_))))))))
 refine .for (N:=s.cs.length) (J:=fun i fr w=>fr=[(12,.slice ac s.cs.length cc),(0,.pointer (some ⟨bm,0,none⟩)),(1,I (j0:Int))]∧∃vl en,cz 4 vl (gg (ls++qD s.sp ts s.cs j0 i)) en∧St H w (.blk bm [I s.sp.id,I s.sp.src,vst,vwa,I s.sp.al,I s.sp.up,vr,.slice ac s.cs.length cc,.slice at_ ts.length ct,vl]::en::σ)) ak ?_ ?_ ?_
 ·exact .mk ⟨rfl,vl,en,by show cz 4 vl (gg (ls++[])) en;rw [List.append_nil];exact hO,hs⟩
 ·rintro i fr w hi ⟨rfl,vl,en,hO,hs⟩
  obtain ⟨c,hx⟩:=nth hi
  obtain ⟨g1,g2,g3,g4,g5,g6⟩:=hc c (List.mem_of_getElem? hx)
  have hcl1:=jb s.sp ts s.cs j0 i
  have hcl2:i*(2*(ts.length - j0))≤20*(2*100):=Nat.mul_le_mul ak ak
  refine .block (.aj ?_)
  refine .ixX (enc:=Cmp.c) hs hk.cs rfl rfl aN bB hx cJ ?_;intro b16 o16 hc16
  refine .q hs (cj (vs:=(Cmp.c c)) rfl kq bB hc16) ?_
  refine .o (.alloc hs kG rfl fun b5 w hs=>?_)
  refine .o (.aZ (vs:=c.c) hs rfl rfl bB fun w hs=>?_)
  replace hs:St H w (.blk bm [I s.sp.id,I s.sp.src,vst,vwa,I s.sp.al,I s.sp.up,vr,.slice ac s.cs.length cc,.slice at_ ts.length ct,vl]::en:: .blk b5 [I c.src,I c.tape,I c.fr,I c.to,I c.lo,I c.hi]::σ):=hs.sb
  refine .nil (.aj (.z zm (.z zg (.nil (.block ?_)))))
  refine .loop (fun j:Nat=>⟨62,[],[(6,I ((j0+j:Nat):Int)),(5,.pointer (some ⟨b5,0,none⟩)),(14,I (i:Int)),(13,I (s.cs.length:Int)),(12,.slice ac s.cs.length cc),(0,.pointer (some ⟨bm,0,none⟩)),(1,I (j0:Int))]⟩)
   (fun j w=>j0+j≤ts.length∧∃vl en,cz 4 vl (gg (ls++qD s.sp ts s.cs j0 i++kz s.sp ts c j0 j)) en∧St H w (.blk bm [I s.sp.id,I s.sp.src,vst,vwa,I s.sp.al,I s.sp.up,vr,.slice ac s.cs.length cc,.slice at_ ts.length ct,vl]::en:: .blk b5 [I c.src,I c.tape,I c.fr,I c.to,I c.lo,I c.hi]::σ)) (fun j=>ts.length - (j0+j)) 0 a8
   ⟨ak,vl,en,by show cz 4 vl (gg (_++[])) en;rw [List.append_nil];exact hO,hs⟩ ?_
  clear hO hs
  rintro j w ⟨hj,vl,en,hO,hs⟩
  have hl1:=lA s.sp ts c j0 j
  obtain ⟨al,ll,cl,rfl,hll⟩:=hO.shape
  refine .seq (.aj (.z zm (.z zm (.z znc (.z (zfa fS) (.y hs (zld G9) (.z (cN aT) (.z fD (.nil ?_)))))))))
  refine (.bJ rfl (fun hc25=>?_) (fun hc25=>?_))
  ·refine .skip ?_
   refine nT ?_
   refine .seq (.block (.aj (.z zm (.z znc (.z (zfa fS) (.y hs (zld G9) (.z zm ?_)))))))
   obtain ⟨t,ht⟩:=nth (l:=ts) (k:=j0+j) ak
   have ht0:=Eo ht
   refine .ixX (enc:=TD.c) hs hk.ts rfl rfl aT bn ht cJ ?_;intro b33 o33 hc33
   refine .q hs (cj (vs:=(TD.c t)) rfl da bn hc33) ?_
   refine .o (.alloc hs jy rfl fun b7 w hs=>?_)
   refine .o (.aZ (vs:=t.c) hs rfl rfl bn fun w hs=>?_)
   change St _ _ (.blk b7 [I t.tape,I t.day]::_) at hs
   refine .nil (.aj (.z (zfa mJ) (.y hs (zld af) (.z (zfa iV) (.y hs (zld af) (.z fw (.z zm ?_)))))))
   refine .iB (t':=40) rfl (fun hb40=>?_) (fun hb40=>?_)
   ·refine .gT rfl rfl ?_
    refine .z (zfa kd) ?_
    refine .gT rfl rfl ?_
    refine .y hs (zld af) ?_
    refine .gT rfl rfl ?_
    refine .z (zfa fO) ?_
    refine .gT rfl rfl ?_
    refine .y hs (zld af) ?_
    refine .gT rfl rfl ?_
    refine .z (zfa fh) ?_
    refine .gT rfl rfl ?_
    refine .y hs (zld af) ?_
    refine .gT rfl rfl ?_
    refine .o (.call dF rfl (bG hs) ?_);rintro _ w ⟨rfl,hs⟩
    refine .z zpT (.nil ?_)
    refine (.cond rfl (fun hc48=>?_) (fun hc48=>?_))
    ·refine .draw mix rfl hs fun w hs=>?_
     refine .z 0 rfl zm ?_;refine .z 1 rfl zm ?_;refine .z 2 rfl zm ?_;refine .z 4 rfl (zfa fg) ?_;refine .y 5 rfl hs af ?_;refine .z 6 rfl zv ?_;refine .z 7 rfl (zfa ff) ?_;refine .y 8 rfl hs af ?_;refine .z 9 rfl (zfa fi) ?_;refine .y 10 rfl hs af ?_
     refine .E 3 hs ?_
     refine .call Tryz.call116 rfl (jr (s:=s.sp) hs (.there .here) hk.st hk.wa ⟨ak,ak⟩ ⟨ak,ak⟩) ?_;rintro _ w ⟨rfl,hs⟩
     refine .go ?_
     refine .E 11 hs ?_
     refine .call uN rfl (fW (ls:=ls++qD s.sp ts s.cs j0 i++kz s.sp ts c j0 j) (hs.tail:St H w (.blk bm _::en:: .blk b5 _::σ)) hO (by rw [List.length_append,List.length_append];omega)) ?_;rintro _ w ⟨vl3,en3,hO3,hs⟩
     refine .go ?_
     refine .D hs ?_
     refine nB (nT ?_)
     refine .region (.z zm (.z cH (.z zg (.nil ?_))))
     refine nT ?_
     have e:kz s.sp ts c j0 (j+1)=kz s.sp ts c j0 j++two 0 ((s.sp.many:Int)+1+((j0+j:Nat):Int)) (-c.lo) c.hi c.src:=by
      show _++kr c (td0 ts (j0+j)) _=_
      rw [ht0];unfold kr;rw [if_pos (by simp at hc48;omega)]
      rw [show ((s.sp.many+1+(j0+j):Nat):Int)=(s.sp.many:Int)+1+((j0+j:Nat):Int) by omega]
     rw [List.append_assoc _ (kz _ _ _ _ _),←e] at hO3
     exact ⟨j+1,.cn rfl (by simp;omega) a8,⟨ak,vl3,en3,hO3,hs⟩,ak⟩
    ·refine .skip ?_
     refine nB (nT ?_)
     refine .region (.z zm (.z cH (.z zg (.nil ?_))))
     refine nT ?_
     have e:kz s.sp ts c j0 (j+1)=kz s.sp ts c j0 j:=by
      show _++kr c (td0 ts (j0+j)) _=_
      rw [ht0];unfold kr;rw [if_neg (by simp at hc48;omega),List.append_nil]
     exact ⟨j+1,.cn rfl (by simp;omega) a8,⟨ak,_,en,by rw [e];exact hO,hs.tail⟩,ak⟩
   ·refine .gFs 7 5 true rfl rfl rfl ?_
    refine .z zpF (.nil ?_)
    refine (.cF ?_)
    refine .skip ?_
    refine nB (nT ?_)
    refine .region (.z zm (.z cH (.z zg (.nil ?_))))
    refine nT ?_
    have e:kz s.sp ts c j0 (j+1)=kz s.sp ts c j0 j:=by
     show _++kr c (td0 ts (j0+j)) _=_
     rw [ht0];unfold kr;rw [if_neg ak,List.append_nil]
    exact ⟨j+1,.cn rfl (by simp;omega) a8,⟨ak,_,en,by rw [e];exact hO,hs.tail⟩,ak⟩
  ·refine .exit ?_
   refine xT (xT (xB (nB (nT ?_))))
   obtain rfl:j=ts.length - j0:=by omega
   rw [List.append_assoc,show qD s.sp ts s.cs j0 i++kz s.sp ts c j0 (ts.length - j0)=qD s.sp ts s.cs j0 (i+1) by rw [←zc hx];rfl] at hO
   exact .mk ⟨rfl,_,en,hO,hs.sb⟩
 ·rintro fr w ⟨rfl,vl,en,hO,hs⟩
  exact Fin.yB Tryz.results117 ⟨H,vl,en,HLe.refl _,hO,hs⟩
theorem mX{s:Srv}{ts:List TD}{vst vwa vr vc vt vl:Value}{en:Ent}{bm:Nat}{ls:List Lim}(hs:St H w (.blk bm [I s.sp.id,I s.sp.src,vst,vwa,I s.sp.al,I s.sp.up,vr,vc,vt,vl]::en::σ))(hk:MkK H s ts vst vwa vr vc vt)(hO:cz 4 vl (gg ls) en)(hl:ls.length≤10000)(hok:eT s.sp)(htl:ts.length≤100)(hcl:s.cs.length≤20)(hc:∀c∈s.cs,oJ c):
  Cl Tryz.prog 178 [.pointer (some ⟨bm,0,none⟩)] w fun _ w'=>∃H1 vl' en',HLe H H1∧cz 4 vl' (gg (ls++qD s.sp ts s.cs 0 s.cs.length)) en'∧St H1 w' (.blk bm [I s.sp.id,I s.sp.src,vst,vwa,I s.sp.al,I s.sp.up,vr,vc,vt,vl']::en'::σ):=by
 refine Cl.o Tryz.func178 Tryz.ntmps178 ag1 ?_
 refine .region (.z zm ?_)
 refine .o (.call Tryz.call117 rfl (kQ (s:=s) (ts:=ts) (j0:=0) hs hk hO hl hok htl hcl hc ak) ?_);rintro _ w hs
 refine .nil ?_
 exact Fin.yB Tryz.results178 hs
set_option maxHeartbeats 1000000 in
theorem pB{s:Srv}{ts:List TD}{vst vwa vr vc vt vl:Value}{en:Ent}{bm:Nat}{ls:List Lim}(hs:St H w (.blk bm [I s.sp.id,I s.sp.src,vst,vwa,I s.sp.al,I s.sp.up,vr,vc,vt,vl]::en::σ))(hk:MkK H s ts vst vwa vr vc vt)(hO:cz 4 vl (gg ls) en)(hl:ls.length≤10000)(hok:eT s.sp)(htl:ts.length≤100)(hrl:s.rs.length≤60)(hr:∀r∈s.rs,iM s.sp r)(hmem:∀r∈s.rs,r.td∈ts):
  Cl Tryz.prog 179 [.pointer (some ⟨bm,0,none⟩)] w fun _ w'=>∃H1 vl' en',HLe H H1∧cz 4 vl' (gg (ls++uP s.sp ts s.rs s.rs.length)) en'∧St H1 w' (.blk bm [I s.sp.id,I s.sp.src,vst,vwa,I s.sp.al,I s.sp.up,vr,vc,vt,vl']::en'::σ):=by
 have hsm:=dK hok
 obtain ⟨at_,ct,rfl⟩:=RTd.shape hk.ts
 obtain ⟨ar,cr,rfl⟩:=RRd.shape hk.rs
 refine Cl.o Tryz.func179 Tryz.ntmps179 ag1 ?_
 refine .aj (.z zm (.z znc (.z (zfa dR) (.z (zfa aI) (.y hs (zld aU) (.z (cN aA) (.z zm (.nil ?_))))))))
 refine .for (N:=s.rs.length) (J:=fun i fr w=>fr=[(9,.slice ar s.rs.length cr),(0,.pointer (some ⟨bm,0,none⟩))]∧∃vl en,cz 4 vl (gg (ls++uP s.sp ts s.rs i)) en∧St H w (.blk bm [I s.sp.id,I s.sp.src,vst,vwa,I s.sp.al,I s.sp.up,.slice ar s.rs.length cr,vc,.slice at_ ts.length ct,vl]::en::σ)) ak ?_ ?_ ?_
 ·exact .mk ⟨rfl,vl,en,by show cz 4 vl (gg (ls++[])) en;rw [List.append_nil];exact hO,hs⟩
 ·rintro i fr w hi ⟨rfl,vl,en,hO,hs⟩
  obtain ⟨r,hx⟩:=nth hi
  obtain ⟨g1,g2,g3,g4,g5,g6,g7⟩:=hr r (List.mem_of_getElem? hx)
  obtain ⟨k,k1,k2,k3⟩:=eY (hmem r (List.mem_of_getElem? hx))
  have hrl1:=jJ s.sp ts s.rs i
  obtain ⟨al,ll,cl,rfl,hll⟩:=hO.shape
  refine .block (.aj ?_)
  refine .ixX (enc:=Rdg.c) hs hk.rs rfl rfl aA aE hx cJ ?_;intro b13 o13 hc13
  refine .q hs (cj (vs:=(Rdg.c r)) rfl bZ aE hc13) ?_
  refine .o (.alloc hs eE rfl fun b3 w hs=>?_)
  refine .o (.aZ (vs:=r.c) hs rfl rfl aE fun w hs=>?_)
  change St _ _ (.blk b3 [I r.src,I r.st,I r.wa,I r.val,I r.tol,I r.tape,I r.day]::_) at hs
  refine .nil ?_
  refine .seq (.draw mix rfl hs fun w hs=>?_)
  refine .z 0 rfl zm ?_;refine .z 1 rfl znc ?_;refine .z 2 rfl (zfa fS) ?_;refine .y 3 rfl hs G9 ?_;refine .ys 4 rfl hs [_,_,_,_,_,_,_] bZ aE ?_
  refine .E 5 hs ?_
  refine .call Hi rfl (fE hs) ?_;rintro _ w ⟨rfl,hs⟩
  refine .go ?_
  refine .E 6 hs ?_
  refine .call Tryz.call89 rfl (nk (t:=r.td) hs hk.ts ak) ?_;rintro _ w ⟨rfl,hs⟩
  refine .go ?_
  refine .z 7 rfl zg ?_;refine .D hs ?_
  refine .draw mix rfl hs fun w hs=>?_
  refine .z 0 rfl zm ?_;refine .z 1 rfl zm ?_;refine .z 2 rfl zm ?_;refine .z 4 rfl zm ?_;refine .z 5 rfl znc ?_;refine .z 6 rfl (zfa dR) ?_;refine .z 7 rfl (zfa aJ) ?_;refine .ys 8 rfl hs [_,_,_,_,_,_] aF aB ?_;refine .z 9 rfl (zfa eO) ?_;refine .y 10 rfl hs af ?_
  refine .z 11 rfl (zfa eN) ?_;refine .y 12 rfl hs af ?_;refine .z 14 rfl (zfa de) ?_;refine .y 15 rfl hs af ?_;refine .z 16 rfl (zfa cf) ?_;refine .y 17 rfl hs af ?_;refine .z 18 rfl cH ?_;refine .z 19 rfl (zfa cf) ?_;refine .y 20 rfl hs af ?_;refine .z 21 rfl (zfa de) ?_
  refine .y 22 rfl hs af ?_;refine .z 23 rfl gO ?_;refine .z 24 rfl (zfa dU) ?_;refine .y 25 rfl hs af ?_
  refine .E 3 hs ?_
  refine .call Tryz.call116 rfl (jr (s:=s.sp) hs (.there .here) hk.st hk.wa ⟨ak,ak⟩ ⟨ak,ak⟩) ?_;rintro _ w ⟨rfl,hs⟩
  refine .go ?_
  refine .E 13 hs ?_
  refine .call Tryz.call118 rfl (iK (s:=s.sp) hs hk.wa ak ⟨ak,ak⟩ ⟨ak,ak⟩) ?_;rintro _ w ⟨rfl,hs⟩
  refine .go ?_
  refine .E 26 hs ?_
  refine .call uN rfl (fW (ls:=ls++uP s.sp ts s.rs i) (hs.sb:St H w (.blk bm _::en:: .blk b3 _::σ)) hO (by rw [List.length_append];omega)) ?_;rintro _ w ⟨vl3,en3,hO3,hs⟩
  refine .go ?_
  refine .D hs ?_
  refine nB (nT ?_)
  rw [List.append_assoc,show uP s.sp ts s.rs i++two ((s.sp.many:Int)+1+iI ts r.td) (1+r.st*s.sp.wa.length+r.wa) (r.val+r.tol) (r.tol - r.val) r.src=uP s.sp ts s.rs (i+1) by rw [←BA hx];rfl] at hO3
  exact .mk ⟨rfl,vl3,en3,hO3,hs.sb⟩
 ·rintro fr w ⟨rfl,vl,en,hO,hs⟩
  exact Fin.yB Tryz.results179 ⟨H,vl,en,HLe.refl _,hO,hs⟩
def fnK:Nat→Nat
 |0=>174
 |1=>175
 |2=>176
 |3=>177
 |4=>178
 |_=>179
theorem DW{k:Nat}(hk:k<6):∀args w,(callFunc (fnK k) args).run Tryz.prog w= .ok (.enter (fnK k) args) w:=by
 have h:k=0∨k=1∨k=2∨k=3∨k=4∨k=5:=by omega
 rcases h with rfl|rfl|rfl|rfl|rfl|rfl
 ·exact Tryz.call174
 ·exact Tryz.call175
 ·exact Tryz.call176
 ·exact Tryz.call177
 ·exact Tryz.call178
 ·exact Tryz.call179
theorem BO{s:Srv}{vst vwa vr vc vt vl:Value}{en:Ent}{bm k:Nat}(hs:St H w (.blk bm [I s.sp.id,I s.sp.src,vst,vwa,I s.sp.al,I s.sp.up,vr,vc,vt,vl]::en::σ))(hk:MkK H s s.bD vst vwa vr vc vt)(hO:cz 4 vl (gg (s.parts k)) en)(he:s.early)(hk6:k<6):
  Cl Tryz.prog (fnK k) [.pointer (some ⟨bm,0,none⟩)] w fun _ w'=>∃H1 vl' en',HLe H H1∧cz 4 vl' (gg (s.parts (k+1))) en'∧St H1 w' (.blk bm [I s.sp.id,I s.sp.src,vst,vwa,I s.sp.al,I s.sp.up,vr,vc,vt,vl']::en'::σ):=by
 have hl:=jU he k ak
 obtain ⟨hok,h1,h2,h3,h4⟩:=he
 have htl:s.bD.length≤100:=by have:=db s.rs;unfold Srv.bD;omega
 have h:k=0∨k=1∨k=2∨k=3∨k=4∨k=5:=by omega
 rcases h with rfl|rfl|rfl|rfl|rfl|rfl
 ·exact pC hs hk hO (Nat.le_trans hl gK) hok
 ·exact sM hs hk hO (Nat.le_trans hl gK) hok
 ·exact wH hs hk hO (Nat.le_trans hl gK) hok
 ·exact rI hs hk hO (Nat.le_trans hl gK) hok htl
 ·exact mX hs hk hO (Nat.le_trans hl gK) hok htl h2 h4
 ·exact pB hs hk hO (Nat.le_trans hl gK) hok htl h1 h3 fun r hr=>gJ.2 ⟨r,hr,rfl⟩
def fnV(b:Nat)(k:Nat):Value:= .func (.func (fnK k)) #[.pointer (some ⟨b,0,none⟩)] #[]
theorem E4(b:Nat){k:Nat}(hk:k<6):[fnV b 0,fnV b 1,fnV b 2,fnV b 3,fnV b 4,fnV b 5][k]? =some (fnV b k):=by
 have h:k=0∨k=1∨k=2∨k=3∨k=4∨k=5:=by omega
 rcases h with rfl|rfl|rfl|rfl|rfl|rfl<;>rfl
set_option maxHeartbeats 1000000 in
theorem lq{s:Srv}{vst vwa vr vc:Value}(hs:St H w σ)(h1:RI H vst s.sp.st)(h2:RI H vwa s.sp.wa)(h3:RRd H vr s.rs)(h4:RCm H vc s.cs)(he:s.early):
  Cl Tryz.prog 92 [.agg #[I s.sp.id,I s.sp.src,vst,vwa,I s.sp.al,I s.sp.up,vr,vc]] w fun u w'=>∃H1 vl en,HLe H H1∧u= .agg #[I s.sys.many,vl]∧cz 4 vl (gg s.bU) en∧St H1 w' (en::σ):=by
 have hsm:=dK he.1
 have htl:s.bD.length≤60:=by have:=db s.rs;have:=he.2.1;unfold Srv.bD;omega
 refine Cl.o Tryz.func92 Tryz.ntmps92 ag1 ?_
 refine .aj ?_
 refine .bx hs fun b1 w hs=>?_
 refine .o (.alloc hs dd rfl fun b2 w hs=>?_)
 refine .nil ?_
 refine .seq (.draw mix rfl hs fun w hs=>?_)
 refine .ys 0 rfl hs [_,_,_,_,_,_,_,_] aD az ?_;refine .ys 1 rfl hs [_,_,_,_,_,_,_,_] aD az ?_
 refine .E 2 hs ?_
 refine .call Tryz.call90 rfl (gX hs h3 (by have:=he.2.1;omega)) ?_;rintro v8 w ⟨H1,hle1,hT,hs⟩
 obtain ⟨at_,ct,rfl⟩:=RTd.shape hT
 have hk0:MkK H1 s s.bD vst vwa vr vc (.slice at_ s.bD.length ct):=⟨h1.mono hle1,h2.mono hle1,h3.mono hle1,h4.mono hle1,hT⟩
 refine .go ?_
 refine .z 3 rfl (zbd (vs:=[(0,.agg #[I s.sp.id,I s.sp.src,vst,vwa,I s.sp.al,I s.sp.up,vr,vc]),(1,.slice at_ s.bD.length ct)]) [I s.sp.id,I s.sp.src,vst,vwa,I s.sp.al,I s.sp.up,vr,vc,.slice at_ s.bD.length ct,.slice none 0 0] mf rfl aq) ?_
 refine .E 4 hs ?_
 refine .box hs rfl rfl ?_;intro b10 w hs
 refine .go ?_
 refine .z 5 rfl zg ?_;refine .D hs ?_
 refine .seq (.aj (.z zm ?_))
 refine .q hs (dX (f:=[_]) (c:=[]) rfl rfl) ?_
 refine .z zm ?_
 refine .q hs (dX (f:=[_]) (c:=[]) rfl rfl) ?_
 refine .z zm ?_
 refine .q hs (dX (f:=[_]) (c:=[]) rfl rfl) ?_
 refine .z zm ?_
 refine .q hs (dX (f:=[_]) (c:=[]) rfl rfl) ?_
 refine .z zm ?_
 refine .q hs (dX (f:=[_]) (c:=[]) rfl rfl) ?_
 refine .z zm ?_
 refine .q hs (dX (f:=[_]) (c:=[]) rfl rfl) ?_
 refine .o (.buildSlice (cells:=[fnV b10 0,fnV b10 1,fnV b10 2,fnV b10 3,fnV b10 4,fnV b10 5]) hs w7 rfl aq fun b23 w hs=>?_)
 refine .z (cN Tryz.runUnderlying223) ?_
 refine .z zm (.nil ?_)
 refine .for (N:=6) (J:=fun k fr w=>fr=[(23,.slice (some ⟨b23,0,none⟩) 6 6),(3,.pointer (some ⟨b10,0,none⟩)),(2,.pointer (some ⟨b2,0,none⟩)),(1,.pointer (some ⟨b1,0,none⟩))]∧∃H2 vl en,HLe H1 H2∧cz 4 vl (gg (s.parts k)) en∧St H2 w (.blk b10 [I s.sp.id,I s.sp.src,vst,vwa,I s.sp.al,I s.sp.up,vr,vc,.slice at_ s.bD.length ct,vl]::en:: .blk b23 [fnV b10 0,fnV b10 1,fnV b10 2,fnV b10 3,fnV b10 4,fnV b10 5]:: .blk b2 [I 0,.slice none 0 0]:: .blk b1 [I s.sp.id,I s.sp.src,vst,vwa,I s.sp.al,I s.sp.up,vr,vc]::σ)) ak ?_ ?_ ?_
 ·exact .mk ⟨rfl,H1,.slice none 0 0,.nul,HLe.refl _,.nil 4 none,hs.nul.sb⟩
 ·rintro k fr w hk ⟨rfl,H2,vl,en,hle2,hO,hs⟩
  refine .block (.aj ?_)
  refine .z (zix Tryz.runUnderlying223 Tryz.sizeOf1) ?_
  refine .q hs (ed rfl Tryz.isAgg1 (hv:=E4 b10 hk)) ?_
  refine .z zg (.nil (.region (.z zm ?_)))
  refine .o (.pH (first:=[.pointer (some ⟨b10,0,none⟩)]) (cap:=[]) rfl rfl (DW hk) (BO hs (hk0.mono hle2) hO he hk) ?_);rintro _ w ⟨H3,vl3,en3,hle3,hO3,hs⟩
  refine .nil ?_
  refine nB (nT ?_)
  exact .mk ⟨rfl,H3,vl3,en3,hle2.trans hle3,hO3,hs⟩
 ·rintro fr w ⟨rfl,H2,vl,en,hle2,hO,hs⟩
  rw [s.ug] at hO
  obtain ⟨al,ll,cl,rfl,hll⟩:=hO.shape
  refine nT ?_
  refine .seq (.draw mix rfl hs fun w hs=>?_)
  refine .z 0 rfl (zfa aJ) ?_;refine .ys 1 rfl hs [_,_,_,_,_,_] aF aB ?_;refine .z 3 rfl zm ?_;refine .z 4 rfl znc ?_;refine .z 5 rfl (zfa fS) ?_;refine .y 6 rfl hs G9 ?_;refine .z 7 rfl (cN aT) ?_;refine .z 9 rfl zm ?_;refine .z 10 rfl znc ?_;refine .z 11 rfl (zfa gY) ?_
  refine .y 12 rfl hs bT ?_
  refine .E 2 hs ?_
  refine .call Tryz.call91 rfl (gw (s:=s.sp) hs (h1.mono (hle1.trans hle2)) (h2.mono (hle1.trans hle2)) ⟨ak,ak⟩) ?_;rintro _ w ⟨rfl,hs⟩
  refine .go ?_
  refine .z 8 rfl cH ?_;refine .z 13 rfl (zbd [_,_] iQ) ?_
  refine .E 14 hs ?_
  refine .aZ (vs:=[_,_]) hs rfl rfl aM ?_;intro w hs
  refine .go ?_
  refine .D hs ?_
  refine .ret ?_
  replace hs:St H2 w (.blk b2 [I ((s.sp.many:Int)+(s.bD.length:Int)),.slice al ll cl]::en::σ):=hs.sb
  exact Fin.gR [] [] hs fun w hs=>⟨_,results1 Tryz.results92 (dv (vs:=[_,_]) hs rfl bp aM),H2,_,en,hle1.trans hle2,by show _=Value.agg #[I ((s.sp.many+s.bD.length:Nat):Int),_];rw [Int.natCast_add],hO,hs.tail⟩
theorem eC{s:Srv}{vst vwa vr vc:Value}(hs:St H w σ)(h1:RI H vst s.sp.st)(h2:RI H vwa s.sp.wa)(h3:RRd H vr s.rs)(h4:RCm H vc s.cs)(he:s.early):
  Cl Tryz.prog 92 [.agg #[I s.sp.id,I s.sp.src,vst,vwa,I s.sp.al,I s.sp.up,vr,vc]] w fun u w'=>∃H1,HLe H H1∧RSy H1 u s.sys∧St H1 w' σ:=by
 refine (lq hs h1 h2 h3 h4 he).mono ?_
 rintro u w' ⟨H1,vl,en,hle,rfl,hO,hs⟩
 have hl:=jU he 6 ak
 rw [s.ug] at hl
 obtain ⟨H2,hle2,hR,hs⟩:=cz.cO (m:=4) (cs:=s.bU.map Lim.c) hO (fun c hc=>by simp only [List.mem_map] at hc;obtain ⟨x,_,rfl⟩:=hc;rfl) ak (by rw [List.length_map];omega) hs .here
 exact ⟨H2,hle.trans hle2,⟨vl,rfl,hR⟩,hs⟩
set_option maxHeartbeats 1000000 in
theorem dp{s:Srv}{vst vwa vr vc:Value}(hs:St H w σ)(h1:RI H vst s.sp.st)(h2:RI H vwa s.sp.wa)(h3:RRd H vr s.rs)(h4:RCm H vc s.cs):
  Cl Tryz.prog 42 [.agg #[I s.sp.id,I s.sp.src,vst,vwa,I s.sp.al,I s.sp.up,vr,vc]] w fun u w'=>∃H1 e,HLe H H1∧u=I e∧tl s e∧St H1 w' σ:=by
 obtain ⟨ast,cst,rfl⟩:=RI.shape h1
 obtain ⟨awa,cwa,rfl⟩:=RI.shape h2
 obtain ⟨ar,cr,rfl⟩:=RRd.shape h3
 obtain ⟨ac,cc,rfl⟩:=RCm.shape h4
 refine Cl.o Tryz.func42 Tryz.ntmps42 ag1 ?_
 refine .aj ?_
 refine .bx hs fun b1 w hs=>?_
 refine .z zg (.nil (.seq (.aj (.z (zfa aJ) (.y hs (zls [_,_,_,_,_,_] aF aB) ?_)))))
 refine .o (.call Tryz.call41 rfl (fo (s:=s.sp) hs h1 h2) ?_);rintro _ w ⟨H1,e,hle1,rfl,he,hs⟩
 refine .z zg (.nil (.aj (.z zm (.z gP (.nil ?_)))))
 refine (.eI rfl (fun hc13=>?_) (fun hc13=>?_))
 ·refine .aj (.z zm (.z zg (.nil ?_)))
  refine .ret (rT (Fin.bK ld rfl ?_))
  have hq:¬eT s.sp∧e=30:=he.resolve_left fun h=>hc13 h.2
  exact ⟨H1,_,hle1,rfl,by rw [hq.2];exact .space hq.1,hs.out⟩
 ·refine .skip ?_
  refine nT ?_
  refine .seq (.aj (.z (zfa aI) ?_))
  have hok:eT s.sp:=(he.resolve_right fun h=>by omega).1
  refine .y hs (zld aU) (.z (cN aA) (.z kD (.z zm ?_)))
  refine .iB (t':=19) rfl (fun hb19=>?_) (fun hb19=>?_)
  ·refine .gFs 4 4 false rfl rfl rfl ?_
   refine .z zpT (.nil ?_)
   refine (.cT ?_)
   refine .aj (.z zg (.nil ?_))
   refine .ret (rT (Fin.bK ld rfl ?_))
   exact ⟨H1,_,hle1,rfl,.long hok ak,hs.out⟩
  ·refine .gT rfl rfl ?_
   refine .z (zfa bq) ?_
   refine .gT rfl rfl ?_
   refine .y hs (zld cB) ?_
   refine .gT rfl rfl ?_
   refine .z (cN aN) ?_
   refine .gT rfl rfl ?_
   refine .z kD (.z zpF (.nil ?_))
   refine (.bJ rfl (fun hc24=>?_) (fun hc24=>?_))
   ·refine .aj (.z zg (.nil ?_))
    refine .ret (rT (Fin.bK ld rfl ?_))
    exact ⟨H1,_,hle1,rfl,.long hok ak,hs.out⟩
   ·refine .skip ?_
    refine nT ?_
    refine .seq (.aj (.z (zfa aI) (.y hs (zld aU) (.z (cN aA) (.z zm (.nil ?_))))))
    refine .for (N:=s.rs.length) (J:=fun k fr w=>fr=[(26,.slice ar s.rs.length cr),(1,.pointer (some ⟨b1,0,none⟩))]∧(∀j<k,∀y,s.rs[j]? =some y→iM s.sp y)∧St H1 w (.blk b1 [I s.sp.id,I s.sp.src,.slice ast s.sp.st.length cst,.slice awa s.sp.wa.length cwa,I s.sp.al,I s.sp.up,.slice ar s.rs.length cr,.slice ac s.cs.length cc]::σ)) ak ?_ ?_ ?_
    ·exact .mk ⟨rfl,fun j hj=>by omega,hs⟩
    ·rintro k fr w hk ⟨rfl,hno,hs⟩
     obtain ⟨r,hx⟩:=nth hk
     refine .block (.aj ?_)
     refine .ixX (enc:=Rdg.c) hs (h3.mono hle1) rfl rfl aA aE hx cJ ?_;intro b30 o30 hc30
     refine .q hs (cj (vs:=(Rdg.c r)) rfl bZ aE hc30) ?_
     refine .o (.alloc hs eE rfl fun b5 w hs=>?_)
     refine .o (.aZ (vs:=r.c) hs rfl rfl aE fun w hs=>?_)
     change St _ _ (.blk b5 [I r.src,I r.st,I r.wa,I r.val,I r.tol,I r.tape,I r.day]::_) at hs
     refine .nil (.aj (.z (zfa aJ) (.y hs (zls [_,_,_,_,_,_] aF aB) (.y hs (zls [_,_,_,_,_,_,_] bZ aE) ?_))))
     refine .o (.call Tryz.call107 rfl (gU (s:=s.sp) (r:=r) hs (h1.mono hle1) (h2.mono hle1)) ?_);rintro _ w ⟨b35,rfl,hb35,hs⟩
     refine .z iD (.nil ?_)
     refine (.cond rfl (fun hc36=>?_) (fun hc36=>?_))
     ·refine .aj (.z zg (.nil ?_))
      refine .ret (rB (rT (rB (rT (Fin.bK ld rfl ?_)))))
      exact ⟨H1,_,hle1,rfl,.rdg hok ak (fun h=>by rw [hb35.2 (h r (List.mem_of_getElem? hx))] at hc36;cases hc36),hs.out⟩
     ·refine .skip ?_
      refine nB (nT ?_)
      exact .mk ⟨rfl,fl hno hx (hb35.1 (by simpa using hc36)),hs.tail⟩
    ·rintro fr w ⟨rfl,hno,hs⟩
     have hrs:∀r∈s.rs,iM s.sp r:=fun r hr=>by
      obtain ⟨j,hj⟩:=List.getElem?_of_mem hr
      exact hno j (List.getElem?_eq_some_iff.1 hj).1 r hj
     clear hno
     refine nT ?_
     refine .seq (.aj (.z (zfa bq) (.y hs (zld cB) (.z (cN aN) (.z zm (.nil ?_))))))
     refine .for (N:=s.cs.length) (J:=fun k fr w=>fr=[(39,.slice ac s.cs.length cc),(1,.pointer (some ⟨b1,0,none⟩))]∧(∀j<k,∀y,s.cs[j]? =some y→oJ y)∧St H1 w (.blk b1 [I s.sp.id,I s.sp.src,.slice ast s.sp.st.length cst,.slice awa s.sp.wa.length cwa,I s.sp.al,I s.sp.up,.slice ar s.rs.length cr,.slice ac s.cs.length cc]::σ)) ak ?_ ?_ ?_
     ·exact .mk ⟨rfl,fun j hj=>by omega,hs⟩
     ·rintro k fr w hk ⟨rfl,hno,hs⟩
      obtain ⟨c,hx⟩:=nth hk
      refine .block (.aj ?_)
      refine .ixX (enc:=Cmp.c) hs (h4.mono hle1) rfl rfl aN bB hx cJ ?_;intro b43 o43 hc43
      refine .q hs (cj (vs:=(Cmp.c c)) rfl kq bB hc43) ?_
      refine .o (.alloc hs kG rfl fun b7 w hs=>?_)
      refine .o (.aZ (vs:=c.c) hs rfl rfl bB fun w hs=>?_)
      change St _ _ (.blk b7 [I c.src,I c.tape,I c.fr,I c.to,I c.lo,I c.hi]::_) at hs
      refine .nil (.aj (.y hs (zls [_,_,_,_,_,_] kq bB) ?_))
      refine .o (.call Tryz.call108 rfl (mW (c:=c) hs) ?_);rintro _ w ⟨b46,rfl,hb46,hs⟩
      refine .z iD (.nil ?_)
      refine (.cond rfl (fun hc47=>?_) (fun hc47=>?_))
      ·refine .aj (.z zg (.nil ?_))
       refine .ret (rB (rT (rB (rT (Fin.bK ld rfl ?_)))))
       exact ⟨H1,_,hle1,rfl,.cmp hok ak hrs (fun h=>by rw [hb46.2 (h c (List.mem_of_getElem? hx))] at hc47;cases hc47),hs.out⟩
      ·refine .skip ?_
       refine nB (nT ?_)
       exact .mk ⟨rfl,fl hno hx (hb46.1 (by simpa using hc47)),hs.tail⟩
     ·rintro fr w ⟨rfl,hno,hs⟩
      have hcs:∀c∈s.cs,oJ c:=fun c hc=>by
       obtain ⟨j,hj⟩:=List.getElem?_of_mem hc
       exact hno j (List.getElem?_eq_some_iff.1 hj).1 c hj
      have hea:s.early:=⟨hok,ak,ak,hrs,hcs⟩
      have hsm:=dK hok
      have htl:s.bD.length≤60:=by have:=db s.rs;have:=hea.2.1;unfold Srv.bD;omega
      have hll:=jU hea 6 ak
      rw [s.ug] at hll
      have hsm2:s.sys.many=((s.sp.many+s.bD.length:Nat):Int):=rfl
      refine nT ?_
      refine .seq (.aj (.y hs (zls [_,_,_,_,_,_,_,_] aD az) ?_))
      refine .o (.call se rfl (eC (s:=s) hs (h1.mono hle1) (h2.mono hle1) (h3.mono hle1) (h4.mono hle1) hea) ?_);rintro _ w ⟨H2,hle2,⟨ul,rfl,hL⟩,hs⟩
      obtain ⟨al,cl,rfl⟩:=RL.shape hL
      have hsl:s.sys.bU.length=s.bU.length:=rfl
      refine .o (.alloc hs dd rfl fun b8 w hs=>?_)
      refine .o (.aZ (vs:=[_,_]) hs rfl rfl aM fun w hs=>?_)
      refine .nil (.aj (.z (zfa bA) (.y hs (zld af) (.z kD (.z zm ?_)))))
      refine .iB (t':=54) rfl (fun hb54=>?_) (fun hb54=>?_)
      ·refine .gFs 4 3 false rfl rfl rfl ?_
       refine .z zpT (.nil ?_)
       refine (.cT ?_)
       refine .aj (.z zg (.nil ?_))
       refine .ret (rT (Fin.bK ld rfl ?_))
       exact ⟨H2,_,hle1.trans hle2,rfl,.big hea ak,hs.out⟩
      ·refine .gT rfl rfl ?_
       refine .z (zfa bh) ?_
       refine .gT rfl rfl ?_
       refine .y hs (zld bT) ?_
       refine .gT rfl rfl ?_
       refine .z (cN aH) ?_
       refine .gT rfl rfl ?_
       refine .z kD (.z zpF (.nil ?_))
       refine (.bJ rfl (fun hc59=>?_) (fun hc59=>?_))
       ·refine .aj (.z zg (.nil ?_))
        refine .ret (rT (Fin.bK ld rfl ?_))
        exact ⟨H2,_,hle1.trans hle2,rfl,.big hea ak,hs.out⟩
       ·refine .skip ?_
        refine nT ?_
        refine .aj (.z zg (.nil ?_))
        refine .ret (Fin.bK ld rfl ?_)
        exact ⟨H2,_,hle1.trans hle2,rfl,.ok hea ⟨ak,ak⟩,hs.out⟩
theorem dh{a0 a1 a2:Int}(hs:St H w σ):Cl Tryz.prog 83 [I a0,I a1,I a2] w fun v w'=>v= .bool (decide (a1≤a0∧a0≤a2))∧St H w' σ:=by
 refine Cl.o Tryz.func83 Tryz.ntmps83 ag3 ?_
 refine .aj (.z zg (.nil (.aj (.z zm (.z zm (.z yA (.z zm ?_)))))))
 refine .iB (t':=10) rfl (fun hb10=>?_) (fun hb10=>?_)
 ·refine .gT rfl rfl ?_
  refine .z zm ?_
  refine .gT rfl rfl ?_
  refine .z zm ?_
  refine .gT rfl rfl ?_
  refine .z wc (.z zpT (.z zg (.nil ?_)))
  refine .ret (Fin.bK Tryz.results83 rfl ?_)
  exact ⟨by simp [*],hs.out⟩
 ·refine .gFs 3 3 true rfl rfl rfl ?_
  refine .z zpF (.z zg (.nil ?_))
  refine .ret (Fin.bK Tryz.results83 rfl ?_)
  exact ⟨by simp [*],hs.out⟩
theorem FN{s:Spc}(h1:fa 9 100000 s.st)(h2:fa 9 100000 s.wa)(h3:s.wa.length≤7)(h4:gi s.wa (s.wa.length - 1)≤15000)(h5:1≤s.id∧s.id≤99999)(h6:1≤s.src∧s.src≤99999)(h7:0≤s.al∧s.al≤100000)(h8:0≤s.up∧s.up≤100000):eT s:=
 ⟨h1,⟨h2.two,h3,h2.low,h4,h2.rise⟩,h5,h6,h7,h8⟩
theorem yL{s:Spc}(h:eT s):fa 9 100000 s.wa:=⟨h.wa.two,by have:=h.wa.many;omega,h.wa.low,by have:=h.wa.high;omega,h.wa.rise⟩
theorem fP{s:Spc}{vst vwa:Value}(hs:St H w σ)(h1:RI H vst s.st)(h2:RI H vwa s.wa):
  Cl Tryz.prog 24 [.agg #[I s.id,I s.src,vst,vwa,I s.al,I s.up]] w fun v w'=>∃e,v=I e∧((eT s∧e=0)∨(¬eT s∧e=30))∧St H w' σ:=by
 obtain ⟨ast,cst,rfl⟩:=RI.shape h1
 obtain ⟨awa,cwa,rfl⟩:=RI.shape h2
 have l2:=(RI.len h2).2.2
 refine Cl.o Tryz.func24 Tryz.ntmps24 ag1 ?_
 refine .aj ?_
 refine .bx hs fun b1 w hs=>?_
 refine .z zg (.nil (.seq (.aj (.z (zfa iO) (.y hs (zld af) ?_)))))
 refine .o (.call eK rfl (dh hs) ?_);rintro _ w ⟨rfl,hs⟩
 refine .z iD (.z zm ?_)
 refine .bif (t':=7) rfl (fun hb7=>?_) (fun hb7=>?_)
 ·refine .gFs 4 4 false rfl rfl rfl ?_
  refine .z zpT (.z zm ?_)
  refine .gFs 5 10 false rfl rfl rfl ?_
  refine .z zpT (.z zm ?_)
  refine .gFs 5 17 false rfl rfl rfl ?_
  refine .z zpT (.nil ?_)
  refine (.cT ?_)
  refine .aj (.z zg (.nil ?_))
  refine .ret (rT (Fin.bK jz rfl ?_))
  exact ⟨_,rfl,.inr ⟨fun h=>by have:=h.id;simp_all,rfl⟩,hs.out⟩
 ·refine .gT rfl rfl ?_
  refine .z (zfa cQ) ?_
  refine .gT rfl rfl ?_
  refine .y hs (zld af) ?_
  refine .gT rfl rfl ?_
  refine .o (.call eK rfl (dh hs) ?_);rintro _ w ⟨rfl,hs⟩
  refine .gT rfl rfl ?_
  refine .z iD (.z zpF (.z zm ?_))
  refine .bif (t':=13) rfl (fun hb13=>?_) (fun hb13=>?_)
  ·refine .gFs 5 10 false rfl rfl rfl ?_
   refine .z zpT (.z zm ?_)
   refine .gFs 5 17 false rfl rfl rfl ?_
   refine .z zpT (.nil ?_)
   refine (.cT ?_)
   refine .aj (.z zg (.nil ?_))
   refine .ret (rT (Fin.bK jz rfl ?_))
   exact ⟨_,rfl,.inr ⟨fun h=>by have:=h.src;simp_all,rfl⟩,hs.out⟩
  ·refine .gT rfl rfl ?_
   refine .z (zfa dN) ?_
   refine .gT rfl rfl ?_
   refine .z (zfa jt) ?_
   refine .gT rfl rfl ?_
   refine .y hs (zld af) ?_
   refine .gT rfl rfl ?_
   refine .o (.call eK rfl (dh hs) ?_);rintro _ w ⟨rfl,hs⟩
   refine .gT rfl rfl ?_
   refine .z iD (.z zpF (.z zm ?_))
   refine .bif (t':=20) rfl (fun hb20=>?_) (fun hb20=>?_)
   ·refine .gFs 5 17 false rfl rfl rfl ?_
    refine .z zpT (.nil ?_)
    refine (.cT ?_)
    refine .aj (.z zg (.nil ?_))
    refine .ret (rT (Fin.bK jz rfl ?_))
    exact ⟨_,rfl,.inr ⟨fun h=>by have:=h.al;simp_all,rfl⟩,hs.out⟩
   ·refine .gT rfl rfl ?_
    refine .z (zfa dN) ?_
    refine .gT rfl rfl ?_
    refine .z (zfa js) ?_
    refine .gT rfl rfl ?_
    refine .y hs (zld af) ?_
    refine .gT rfl rfl ?_
    refine .o (.call eK rfl (dh hs) ?_);rintro _ w ⟨rfl,hs⟩
    refine .gT rfl rfl ?_
    refine .z iD (.z zpF (.nil ?_))
    refine (.cond rfl (fun hc26=>?_) (fun hc26=>?_))
    ·refine .aj (.z zg (.nil ?_))
     refine .ret (rT (Fin.bK jz rfl ?_))
     exact ⟨_,rfl,.inr ⟨fun h=>by have:=h.up;simp_all,rfl⟩,hs.out⟩
    ·refine .skip ?_
     refine nT ?_
     refine .seq (.aj (.z (zfa bj) (.y hs (zld an) ?_)))
     refine .o (.call Tryz.call84 rfl (gS hs h1) ?_);rintro _ w ⟨e1,rfl,he1,hs⟩
     refine .z gP (.z zm ?_)
     refine .yq (t':=31) rfl (fun hb31=>?_) (fun hb31=>?_)
     ·refine .gFs 4 4 false rfl rfl rfl ?_
      refine .z zpT (.z zm ?_)
      refine .gFs 4 10 false rfl rfl rfl ?_
      refine .z zpT (.z zm ?_)
      refine .gFs 9 16 false rfl rfl rfl ?_
      refine .z zpT (.nil ?_)
      refine (.cT ?_)
      refine .aj (.z zg (.nil ?_))
      refine .ret (rT (Fin.bK jz rfl ?_))
      exact ⟨_,rfl,.inr ⟨fun h=>hb31 (he1.elim (fun g=>g.2) fun g=>(g.1 h.st).elim),rfl⟩,hs.out⟩
     ·refine .gT rfl rfl ?_
      refine .z (zfa aS) ?_
      refine .gT rfl rfl ?_
      refine .y hs (zld an) ?_
      refine .gT rfl rfl ?_
      refine .o (.call Tryz.call84 rfl (gS hs h2) ?_);rintro _ w ⟨e2,rfl,he2,hs⟩
      refine .gT rfl rfl ?_
      refine .z gP (.z zpF (.z zm ?_))
      refine .yq (t':=37) rfl (fun hb37=>?_) (fun hb37=>?_)
      ·refine .gFs 4 10 false rfl rfl rfl ?_
       refine .z zpT (.z zm ?_)
       refine .gFs 9 16 false rfl rfl rfl ?_
       refine .z zpT (.nil ?_)
       refine (.cT ?_)
       refine .aj (.z zg (.nil ?_))
       refine .ret (rT (Fin.bK jz rfl ?_))
       exact ⟨_,rfl,.inr ⟨fun h=>hb37 (he2.elim (fun g=>g.2) fun g=>(g.1 (yL h)).elim),rfl⟩,hs.out⟩
      ·refine .gT rfl rfl ?_
       refine .z (zfa aS) ?_
       refine .gT rfl rfl ?_
       have hw:fa 9 100000 s.wa:=he2.elim (fun g=>g.1) fun g=>(g.2 ak).elim
       have hw2:=hw.two
       refine .y hs (zld an) ?_
       refine .gT rfl rfl ?_
       refine .z (cN ae) ?_
       refine .gT rfl rfl ?_
       refine .z kD (.z zpF (.z zm ?_))
       refine .iB (t':=43) rfl (fun hb43=>?_) (fun hb43=>?_)
       ·refine .gFs 9 16 false rfl rfl rfl ?_
        refine .z zpT (.nil ?_)
        refine (.cT ?_)
        refine .aj (.z zg (.nil ?_))
        refine .ret (rT (Fin.bK jz rfl ?_))
        exact ⟨_,rfl,.inr ⟨fun h=>by have:=h.wa.many;omega,rfl⟩,hs.out⟩
       ·refine .gT rfl rfl ?_
        refine .z (zfa aS) ?_
        refine .gT rfl rfl ?_
        refine .y hs (zld an) ?_
        refine .gT rfl rfl ?_
        refine .z (zfa aS) ?_
        refine .gT rfl rfl ?_
        refine .y hs (zld an) ?_
        refine .gT rfl rfl ?_
        refine .z (cN ae) ?_
        refine .gT rfl rfl ?_
        refine .z gO ?_
        refine .gT rfl rfl ?_
        refine .ixY hs h2 rfl rfl ae ai (bE (l:=s.wa) (i:=(s.wa.length-1)) ak) cJ ?_;intro b50 o50 hc50
        refine .gT rfl rfl ?_
        refine .q hs (aO rfl af hc50) ?_
        refine .gT rfl rfl ?_
        refine .z kD (.z zpF (.nil ?_))
        refine (.bJ rfl (fun hc53=>?_) (fun hc53=>?_))
        ·refine .aj (.z zg (.nil ?_))
         refine .ret (rT (Fin.bK jz rfl ?_))
         exact ⟨_,rfl,.inr ⟨fun h=>by have:=h.wa.high;omega,rfl⟩,hs.out⟩
        ·refine .skip ?_
         refine nT ?_
         refine .aj (.z zg (.nil ?_))
         refine .ret (Fin.bK jz rfl ?_)
         exact ⟨_,rfl,.inl ⟨FN (he1.elim (fun g=>g.1) fun g=>(g.2 ak).elim) hw ak ak (by simp_all) (by simp_all) (by simp_all) (by simp_all),rfl⟩,hs.out⟩
theorem fm{s:Spc}{r:Rdg}{vst vwa:Value}(hs:St H w σ)(h1:RI H vst s.st)(h2:RI H vwa s.wa):
  Cl Tryz.prog 109 [.agg #[I s.id,I s.src,vst,vwa,I s.al,I s.up],.agg #[I r.src,I r.st,I r.wa,I r.val,I r.tol,I r.tape,I r.day]] w fun v w'=>∃b:Bool,v= .bool b∧(b=true↔iM s r)∧St H w' σ:=by
 obtain ⟨ast,cst,rfl⟩:=RI.shape h1
 obtain ⟨awa,cwa,rfl⟩:=RI.shape h2
 have l1:=(RI.len h1).2.2
 have l2:=(RI.len h2).2.2
 refine Cl.o Tryz.func109 Tryz.ntmps109 ag2 ?_
 refine .aj ?_
 refine .bx hs fun b2 w hs=>?_
 refine .bx hs fun b3 w hs=>?_
 refine .z zg (.nil (.aj (.z (zfa dU) (.y hs (zld af) ?_))))
 refine .o (.call eK rfl (dh hs) ?_);rintro _ w ⟨rfl,hs⟩
 refine .z zm ?_
 refine .bif (t':=8) rfl (fun hb8=>?_) (fun hb8=>?_)
 ·refine .gT rfl rfl ?_
  refine .z (zfa eO) ?_
  refine .gT rfl rfl ?_
  refine .y hs (zld af) ?_
  refine .gT rfl rfl ?_
  refine .z (zfa bj) ?_
  refine .gT rfl rfl ?_
  refine .y hs (zld an) ?_
  refine .gT rfl rfl ?_
  refine .z (cN ae) ?_
  refine .gT rfl rfl ?_
  refine .z gO ?_
  refine .gT rfl rfl ?_
  refine .o (.call eK rfl (dh hs) ?_);rintro _ w ⟨rfl,hs⟩
  refine .z zpT (.z zm ?_)
  refine .bif (t':=17) rfl (fun hb17=>?_) (fun hb17=>?_)
  ·refine .gT rfl rfl ?_
   refine .z (zfa eN) ?_
   refine .gT rfl rfl ?_
   refine .y hs (zld af) ?_
   refine .gT rfl rfl ?_
   refine .z (zfa aS) ?_
   refine .gT rfl rfl ?_
   refine .y hs (zld an) ?_
   refine .gT rfl rfl ?_
   refine .z (cN ae) ?_
   refine .gT rfl rfl ?_
   refine .z gO ?_
   refine .gT rfl rfl ?_
   refine .o (.call eK rfl (dh hs) ?_);rintro _ w ⟨rfl,hs⟩
   refine .z zpT (.z zm ?_)
   refine .bif (t':=26) rfl (fun hb26=>?_) (fun hb26=>?_)
   ·refine .gT rfl rfl ?_
    refine .z (zfa cf) ?_
    refine .gT rfl rfl ?_
    refine .y hs (zld af) ?_
    refine .gT rfl rfl ?_
    refine .o (.call eK rfl (dh hs) ?_);rintro _ w ⟨rfl,hs⟩
    refine .z zpT (.z zm ?_)
    refine .bif (t':=31) rfl (fun hb31=>?_) (fun hb31=>?_)
    ·refine .gT rfl rfl ?_
     refine .z (zfa de) ?_
     refine .gT rfl rfl ?_
     refine .y hs (zld af) ?_
     refine .gT rfl rfl ?_
     refine .z (zfa cf) ?_
     refine .gT rfl rfl ?_
     refine .y hs (zld af) ?_
     refine .gT rfl rfl ?_
     have ht:0≤r.tol∧r.tol≤1000:=by simp_all
     refine .z gO ?_
     refine .gT rfl rfl ?_
     refine .o (.call eK rfl (dh hs) ?_);rintro _ w ⟨rfl,hs⟩
     refine .z zpT (.z zm ?_)
     refine .bif (t':=39) rfl (fun hb39=>?_) (fun hb39=>?_)
     ·refine .gT rfl rfl ?_
      refine .z (zfa ez) ?_
      refine .gT rfl rfl ?_
      refine .y hs (zld af) ?_
      refine .gT rfl rfl ?_
      refine .o (.call eK rfl (dh hs) ?_);rintro _ w ⟨rfl,hs⟩
      refine .z zpT (.z zm ?_)
      refine .bif (t':=44) rfl (fun hb44=>?_) (fun hb44=>?_)
      ·refine .gT rfl rfl ?_
       refine .z (zfa ew) ?_
       refine .gT rfl rfl ?_
       refine .y hs (zld af) ?_
       refine .gT rfl rfl ?_
       refine .o (.call eK rfl (dh hs) ?_);rintro _ w ⟨rfl,hs⟩
       refine .z zpT (.z zg (.nil ?_))
       refine .ret (Fin.bK mO rfl ?_)
       first
       |exact ⟨false,rfl,⟨fun h=>(by cases h),fun h=>(by obtain ⟨g1,g2,g3,g4,g5,g6,g7⟩:=h;simp_all;done)⟩,hs.out⟩
       |exact ⟨_,rfl,⟨fun h=>⟨by simp_all,by simp_all,by simp_all,by simp_all,by simp_all,by simp_all,by simpa using h⟩,fun h=>by simpa using h.day⟩,hs.out⟩
      ·refine .gFs 3 39 true rfl rfl rfl ?_
       refine .z zpF (.z zg (.nil ?_))
       refine .ret (Fin.bK mO rfl ?_)
       first
       |exact ⟨false,rfl,⟨fun h=>(by cases h),fun h=>(by obtain ⟨g1,g2,g3,g4,g5,g6,g7⟩:=h;simp_all;done)⟩,hs.out⟩
       |exact ⟨_,rfl,⟨fun h=>⟨by simp_all,by simp_all,by simp_all,by simp_all,by simp_all,by simp_all,by simpa using h⟩,fun h=>by simpa using h.day⟩,hs.out⟩
     ·refine .gFs 3 34 true rfl rfl rfl ?_
      refine .z zpF (.z zm ?_)
      refine .gFs 3 39 true rfl rfl rfl ?_
      refine .z zpF (.z zg (.nil ?_))
      refine .ret (Fin.bK mO rfl ?_)
      first
      |exact ⟨false,rfl,⟨fun h=>(by cases h),fun h=>(by obtain ⟨g1,g2,g3,g4,g5,g6,g7⟩:=h;simp_all;done)⟩,hs.out⟩
      |exact ⟨_,rfl,⟨fun h=>⟨by simp_all,by simp_all,by simp_all,by simp_all,by simp_all,by simp_all,by simpa using h⟩,fun h=>by simpa using h.day⟩,hs.out⟩
    ·refine .gFs 6 26 true rfl rfl rfl ?_
     refine .z zpF (.z zm ?_)
     refine .gFs 3 34 true rfl rfl rfl ?_
     refine .z zpF (.z zm ?_)
     refine .gFs 3 39 true rfl rfl rfl ?_
     refine .z zpF (.z zg (.nil ?_))
     refine .ret (Fin.bK mO rfl ?_)
     first
     |exact ⟨false,rfl,⟨fun h=>(by cases h),fun h=>(by obtain ⟨g1,g2,g3,g4,g5,g6,g7⟩:=h;simp_all;done)⟩,hs.out⟩
     |exact ⟨_,rfl,⟨fun h=>⟨by simp_all,by simp_all,by simp_all,by simp_all,by simp_all,by simp_all,by simpa using h⟩,fun h=>by simpa using h.day⟩,hs.out⟩
   ·refine .gFs 3 21 true rfl rfl rfl ?_
    refine .z zpF (.z zm ?_)
    refine .gFs 6 26 true rfl rfl rfl ?_
    refine .z zpF (.z zm ?_)
    refine .gFs 3 34 true rfl rfl rfl ?_
    refine .z zpF (.z zm ?_)
    refine .gFs 3 39 true rfl rfl rfl ?_
    refine .z zpF (.z zg (.nil ?_))
    refine .ret (Fin.bK mO rfl ?_)
    first
    |exact ⟨false,rfl,⟨fun h=>(by cases h),fun h=>(by obtain ⟨g1,g2,g3,g4,g5,g6,g7⟩:=h;simp_all;done)⟩,hs.out⟩
    |exact ⟨_,rfl,⟨fun h=>⟨by simp_all,by simp_all,by simp_all,by simp_all,by simp_all,by simp_all,by simpa using h⟩,fun h=>by simpa using h.day⟩,hs.out⟩
  ·refine .gFs 7 12 true rfl rfl rfl ?_
   refine .z zpF (.z zm ?_)
   refine .gFs 3 21 true rfl rfl rfl ?_
   refine .z zpF (.z zm ?_)
   refine .gFs 6 26 true rfl rfl rfl ?_
   refine .z zpF (.z zm ?_)
   refine .gFs 3 34 true rfl rfl rfl ?_
   refine .z zpF (.z zm ?_)
   refine .gFs 3 39 true rfl rfl rfl ?_
   refine .z zpF (.z zg (.nil ?_))
   refine .ret (Fin.bK mO rfl ?_)
   first
   |exact ⟨false,rfl,⟨fun h=>(by cases h),fun h=>(by obtain ⟨g1,g2,g3,g4,g5,g6,g7⟩:=h;simp_all;done)⟩,hs.out⟩
   |exact ⟨_,rfl,⟨fun h=>⟨by simp_all,by simp_all,by simp_all,by simp_all,by simp_all,by simp_all,by simpa using h⟩,fun h=>by simpa using h.day⟩,hs.out⟩
 ·refine .gFs 7 3 true rfl rfl rfl ?_
  refine .z zpF (.z zm ?_)
  refine .gFs 7 12 true rfl rfl rfl ?_
  refine .z zpF (.z zm ?_)
  refine .gFs 3 21 true rfl rfl rfl ?_
  refine .z zpF (.z zm ?_)
  refine .gFs 6 26 true rfl rfl rfl ?_
  refine .z zpF (.z zm ?_)
  refine .gFs 3 34 true rfl rfl rfl ?_
  refine .z zpF (.z zm ?_)
  refine .gFs 3 39 true rfl rfl rfl ?_
  refine .z zpF (.z zg (.nil ?_))
  refine .ret (Fin.bK mO rfl ?_)
  first
  |exact ⟨false,rfl,⟨fun h=>(by cases h),fun h=>(by obtain ⟨g1,g2,g3,g4,g5,g6,g7⟩:=h;simp_all;done)⟩,hs.out⟩
  |exact ⟨_,rfl,⟨fun h=>⟨by simp_all,by simp_all,by simp_all,by simp_all,by simp_all,by simp_all,by simpa using h⟩,fun h=>by simpa using h.day⟩,hs.out⟩
theorem mm{c:Cmp}(hs:St H w σ):
  Cl Tryz.prog 110 [.agg #[I c.src,I c.tape,I c.fr,I c.to,I c.lo,I c.hi]] w fun v w'=>∃b:Bool,v= .bool b∧(b=true↔oJ c)∧St H w' σ:=by
 refine Cl.o Tryz.func110 Tryz.ntmps110 ag1 ?_
 refine .aj ?_
 refine .bx hs fun b1 w hs=>?_
 refine .z zg (.nil (.aj (.z (zfa fi) (.y hs (zld af) ?_))))
 refine .o (.call eK rfl (dh hs) ?_);rintro _ w ⟨rfl,hs⟩
 refine .z zm ?_
 refine .bif (t':=6) rfl (fun hb6=>?_) (fun hb6=>?_)
 ·refine .gT rfl rfl ?_
  refine .z (zfa iV) ?_
  refine .gT rfl rfl ?_
  refine .y hs (zld af) ?_
  refine .gT rfl rfl ?_
  refine .o (.call eK rfl (dh hs) ?_);rintro _ w ⟨rfl,hs⟩
  refine .z zpT (.z zm ?_)
  refine .bif (t':=11) rfl (fun hb11=>?_) (fun hb11=>?_)
  ·refine .gT rfl rfl ?_
   refine .z (zfa fO) ?_
   refine .gT rfl rfl ?_
   refine .y hs (zld af) ?_
   refine .gT rfl rfl ?_
   refine .z yA (.z zpT (.z zm ?_))
   refine .iB (t':=16) rfl (fun hb16=>?_) (fun hb16=>?_)
   ·refine .gT rfl rfl ?_
    refine .z (zfa fO) ?_
    refine .gT rfl rfl ?_
    refine .y hs (zld af) ?_
    refine .gT rfl rfl ?_
    refine .z (zfa fh) ?_
    refine .gT rfl rfl ?_
    refine .y hs (zld af) ?_
    refine .gT rfl rfl ?_
    refine .z wc (.z zpT (.z zm ?_))
    refine .iB (t':=23) rfl (fun hb23=>?_) (fun hb23=>?_)
    ·refine .gT rfl rfl ?_
     refine .z (zfa fh) ?_
     refine .gT rfl rfl ?_
     refine .y hs (zld af) ?_
     refine .gT rfl rfl ?_
     refine .z wc (.z zpT (.z zm ?_))
     refine .iB (t':=28) rfl (fun hb28=>?_) (fun hb28=>?_)
     ·refine .gT rfl rfl ?_
      refine .z (zfa fg) ?_
      refine .gT rfl rfl ?_
      refine .y hs (zld af) ?_
      refine .gT rfl rfl ?_
      refine .z yA (.z zpT (.z zm ?_))
      refine .iB (t':=33) rfl (fun hb33=>?_) (fun hb33=>?_)
      ·refine .gT rfl rfl ?_
       refine .z (zfa fg) ?_
       refine .gT rfl rfl ?_
       refine .y hs (zld af) ?_
       refine .gT rfl rfl ?_
       refine .z (zfa ff) ?_
       refine .gT rfl rfl ?_
       refine .y hs (zld af) ?_
       refine .gT rfl rfl ?_
       refine .z wc (.z zpT (.z zm ?_))
       refine .iB (t':=40) rfl (fun hb40=>?_) (fun hb40=>?_)
       ·refine .gT rfl rfl ?_
        refine .z (zfa ff) ?_
        refine .gT rfl rfl ?_
        refine .y hs (zld af) ?_
        refine .gT rfl rfl ?_
        refine .z wc (.z zpT (.z zg (.nil ?_)))
        refine .ret (Fin.bK kh rfl ?_)
        first
        |exact ⟨false,rfl,⟨fun h=>(by cases h),fun h=>(by obtain ⟨g1,g2,g3,g4,g5,g6⟩:=h;simp_all;omega)⟩,hs.out⟩
        |exact ⟨false,rfl,⟨fun h=>(by cases h),fun h=>(by obtain ⟨g1,g2,g3,g4,g5,g6⟩:=h;simp_all;done)⟩,hs.out⟩
        |exact ⟨_,rfl,⟨fun h=>⟨by simp_all,by simp_all,⟨ak,ak⟩,ak,⟨ak,ak⟩,of_decide_eq_true h⟩,fun h=>decide_eq_true h.hi⟩,hs.out⟩
       ·refine .gFs 3 37 true rfl rfl rfl ?_
        refine .z zpF (.z zg (.nil ?_))
        refine .ret (Fin.bK kh rfl ?_)
        first
        |exact ⟨false,rfl,⟨fun h=>(by cases h),fun h=>(by obtain ⟨g1,g2,g3,g4,g5,g6⟩:=h;simp_all;omega)⟩,hs.out⟩
        |exact ⟨false,rfl,⟨fun h=>(by cases h),fun h=>(by obtain ⟨g1,g2,g3,g4,g5,g6⟩:=h;simp_all;done)⟩,hs.out⟩
        |exact ⟨_,rfl,⟨fun h=>⟨by simp_all,by simp_all,⟨ak,ak⟩,ak,⟨ak,ak⟩,of_decide_eq_true h⟩,fun h=>decide_eq_true h.hi⟩,hs.out⟩
      ·refine .gFs 5 30 true rfl rfl rfl ?_
       refine .z zpF (.z zm ?_)
       refine .gFs 3 37 true rfl rfl rfl ?_
       refine .z zpF (.z zg (.nil ?_))
       refine .ret (Fin.bK kh rfl ?_)
       first
       |exact ⟨false,rfl,⟨fun h=>(by cases h),fun h=>(by obtain ⟨g1,g2,g3,g4,g5,g6⟩:=h;simp_all;omega)⟩,hs.out⟩
       |exact ⟨false,rfl,⟨fun h=>(by cases h),fun h=>(by obtain ⟨g1,g2,g3,g4,g5,g6⟩:=h;simp_all;done)⟩,hs.out⟩
       |exact ⟨_,rfl,⟨fun h=>⟨by simp_all,by simp_all,⟨ak,ak⟩,ak,⟨ak,ak⟩,of_decide_eq_true h⟩,fun h=>decide_eq_true h.hi⟩,hs.out⟩
     ·refine .gFs 3 25 true rfl rfl rfl ?_
      refine .z zpF (.z zm ?_)
      refine .gFs 5 30 true rfl rfl rfl ?_
      refine .z zpF (.z zm ?_)
      refine .gFs 3 37 true rfl rfl rfl ?_
      refine .z zpF (.z zg (.nil ?_))
      refine .ret (Fin.bK kh rfl ?_)
      first
      |exact ⟨false,rfl,⟨fun h=>(by cases h),fun h=>(by obtain ⟨g1,g2,g3,g4,g5,g6⟩:=h;simp_all;omega)⟩,hs.out⟩
      |exact ⟨false,rfl,⟨fun h=>(by cases h),fun h=>(by obtain ⟨g1,g2,g3,g4,g5,g6⟩:=h;simp_all;done)⟩,hs.out⟩
      |exact ⟨_,rfl,⟨fun h=>⟨by simp_all,by simp_all,⟨ak,ak⟩,ak,⟨ak,ak⟩,of_decide_eq_true h⟩,fun h=>decide_eq_true h.hi⟩,hs.out⟩
    ·refine .gFs 3 20 true rfl rfl rfl ?_
     refine .z zpF (.z zm ?_)
     refine .gFs 3 25 true rfl rfl rfl ?_
     refine .z zpF (.z zm ?_)
     refine .gFs 5 30 true rfl rfl rfl ?_
     refine .z zpF (.z zm ?_)
     refine .gFs 3 37 true rfl rfl rfl ?_
     refine .z zpF (.z zg (.nil ?_))
     refine .ret (Fin.bK kh rfl ?_)
     first
     |exact ⟨false,rfl,⟨fun h=>(by cases h),fun h=>(by obtain ⟨g1,g2,g3,g4,g5,g6⟩:=h;simp_all;omega)⟩,hs.out⟩
     |exact ⟨false,rfl,⟨fun h=>(by cases h),fun h=>(by obtain ⟨g1,g2,g3,g4,g5,g6⟩:=h;simp_all;done)⟩,hs.out⟩
     |exact ⟨_,rfl,⟨fun h=>⟨by simp_all,by simp_all,⟨ak,ak⟩,ak,⟨ak,ak⟩,of_decide_eq_true h⟩,fun h=>decide_eq_true h.hi⟩,hs.out⟩
   ·refine .gFs 5 13 true rfl rfl rfl ?_
    refine .z zpF (.z zm ?_)
    refine .gFs 3 20 true rfl rfl rfl ?_
    refine .z zpF (.z zm ?_)
    refine .gFs 3 25 true rfl rfl rfl ?_
    refine .z zpF (.z zm ?_)
    refine .gFs 5 30 true rfl rfl rfl ?_
    refine .z zpF (.z zm ?_)
    refine .gFs 3 37 true rfl rfl rfl ?_
    refine .z zpF (.z zg (.nil ?_))
    refine .ret (Fin.bK kh rfl ?_)
    first
    |exact ⟨false,rfl,⟨fun h=>(by cases h),fun h=>(by obtain ⟨g1,g2,g3,g4,g5,g6⟩:=h;simp_all;omega)⟩,hs.out⟩
    |exact ⟨false,rfl,⟨fun h=>(by cases h),fun h=>(by obtain ⟨g1,g2,g3,g4,g5,g6⟩:=h;simp_all;done)⟩,hs.out⟩
    |exact ⟨_,rfl,⟨fun h=>⟨by simp_all,by simp_all,⟨ak,ak⟩,ak,⟨ak,ak⟩,of_decide_eq_true h⟩,fun h=>decide_eq_true h.hi⟩,hs.out⟩
  ·refine .gFs 3 8 true rfl rfl rfl ?_
   refine .z zpF (.z zm ?_)
   refine .gFs 5 13 true rfl rfl rfl ?_
   refine .z zpF (.z zm ?_)
   refine .gFs 3 20 true rfl rfl rfl ?_
   refine .z zpF (.z zm ?_)
   refine .gFs 3 25 true rfl rfl rfl ?_
   refine .z zpF (.z zm ?_)
   refine .gFs 5 30 true rfl rfl rfl ?_
   refine .z zpF (.z zm ?_)
   refine .gFs 3 37 true rfl rfl rfl ?_
   refine .z zpF (.z zg (.nil ?_))
   refine .ret (Fin.bK kh rfl ?_)
   first
   |exact ⟨false,rfl,⟨fun h=>(by cases h),fun h=>(by obtain ⟨g1,g2,g3,g4,g5,g6⟩:=h;simp_all;omega)⟩,hs.out⟩
   |exact ⟨false,rfl,⟨fun h=>(by cases h),fun h=>(by obtain ⟨g1,g2,g3,g4,g5,g6⟩:=h;simp_all;done)⟩,hs.out⟩
   |exact ⟨_,rfl,⟨fun h=>⟨by simp_all,by simp_all,⟨ak,ak⟩,ak,⟨ak,ak⟩,of_decide_eq_true h⟩,fun h=>decide_eq_true h.hi⟩,hs.out⟩
 ·refine .gFs 3 3 true rfl rfl rfl ?_
  refine .z zpF (.z zm ?_)
  refine .gFs 3 8 true rfl rfl rfl ?_
  refine .z zpF (.z zm ?_)
  refine .gFs 5 13 true rfl rfl rfl ?_
  refine .z zpF (.z zm ?_)
  refine .gFs 3 20 true rfl rfl rfl ?_
  refine .z zpF (.z zm ?_)
  refine .gFs 3 25 true rfl rfl rfl ?_
  refine .z zpF (.z zm ?_)
  refine .gFs 5 30 true rfl rfl rfl ?_
  refine .z zpF (.z zm ?_)
  refine .gFs 3 37 true rfl rfl rfl ?_
  refine .z zpF (.z zg (.nil ?_))
  refine .ret (Fin.bK kh rfl ?_)
  first
  |exact ⟨false,rfl,⟨fun h=>(by cases h),fun h=>(by obtain ⟨g1,g2,g3,g4,g5,g6⟩:=h;simp_all;omega)⟩,hs.out⟩
  |exact ⟨false,rfl,⟨fun h=>(by cases h),fun h=>(by obtain ⟨g1,g2,g3,g4,g5,g6⟩:=h;simp_all;done)⟩,hs.out⟩
  |exact ⟨_,rfl,⟨fun h=>⟨by simp_all,by simp_all,⟨ak,ak⟩,ak,⟨ak,ak⟩,of_decide_eq_true h⟩,fun h=>decide_eq_true h.hi⟩,hs.out⟩
theorem dQ{s:Spc}{vst vwa:Value}(hs:St H w σ)(h1:RI H vst s.st)(h2:RI H vwa s.wa)(hb:s.st.length≤1000∧s.wa.length≤1000):
  Cl Tryz.prog 97 [.agg #[I s.id,I s.src,vst,vwa,I s.al,I s.up]] w fun v w'=>v=I (s.many:Int)∧St H w' σ:=by
 obtain ⟨ast,cst,rfl⟩:=RI.shape h1
 obtain ⟨awa,cwa,rfl⟩:=RI.shape h2
 have hm:=kP (a:=(s.st.length:Int)) (b:=(s.wa.length:Int)) (A:=1000) (B:=1000) ak ak
 refine Cl.o Tryz.func97 Tryz.ntmps97 ag1 ?_
 refine .aj ?_
 refine .bx hs fun b1 w hs=>?_
 refine .z zg (.nil (.aj (.z (zfa bj) (.y hs (zld an) (.z (cN ae) (.z (zfa aS) (.y hs (zld an) (.z (cN ae) (.z ki ?_)))))))))
 refine .z zg (.nil ?_)
 refine .ret (Fin.bK Tryz.results97 rfl ?_)
 exact ⟨by unfold Spc.many;rw [Int.natCast_mul],hs.out⟩
theorem cP{s:Spc}{vst vwa:Value}{a b:Int}(hs:St H w σ)(h2:RI H vwa s.wa)(hb:s.wa.length≤1000)(ha: -1000≤a∧a≤1000)(hb': -1000≤b∧b≤1000):
  Cl Tryz.prog 121 [.agg #[I s.id,I s.src,vst,vwa,I s.al,I s.up],I a,I b] w fun v w'=>v=I (1+a*s.wa.length+b)∧St H w' σ:=by
 obtain ⟨awa,cwa,rfl⟩:=RI.shape h2
 have hm:=kP (a:=a) (b:=(s.wa.length:Int)) (A:=1000) (B:=1000) ak ak
 refine Cl.o Tryz.func121 Tryz.ntmps121 ag3 ?_
 refine .aj ?_
 refine .bx hs fun b3 w hs=>?_
 refine .z zg (.nil (.aj (.z zm (.z (zfa aS) (.y hs (zld an) (.z (cN ae) (.z ki (.z cH (.z zm ?_)))))))))
 refine .z cH (.z zg (.nil ?_))
 refine .ret (Fin.bK Tryz.results121 rfl ?_)
 exact ⟨rfl,hs.out⟩
theorem lX{a b:Int}(hs:St H w σ)(ha:0≤a∧a≤100000)(hb:0≤b∧b≤100000):
  Cl Tryz.prog 193 [I a,I b] w fun v w'=>v=I (kc a b)∧St H w' σ:=by
 have hm:=kP (a:=a) (b:=b) (A:=100000) (B:=100000) ak ak
 have h0:=Int.mul_nonneg ha.1 hb.1
 have hq0:0≤(a*b+999).tdiv 1000:=Int.tdiv_nonneg ak ak
 have hq1:(a*b+999).tdiv 1000≤a*b+999:=by rw [Int.tdiv_eq_ediv_of_nonneg ak];omega
 refine Cl.o Tryz.func193 Tryz.ntmps193 ag2 ?_
 refine .aj (.z zg (.nil (.aj (.z zm (.z zm (.z ki (.z cH ?_)))))))
 refine .q hs (ue rfl rfl ak ak) ?_
 refine .z zw (.z zg (.nil ?_))
 refine .ret (Fin.bK Tryz.results193 rfl ?_)
 exact ⟨rfl,hs⟩
theorem jm{a b m s:Int}(hs:St H w σ):
  Cl Tryz.prog 119 [I a,I b,I m,I s] w fun v w'=>∃b0,v= .slice (some ⟨b0,0,none⟩) 2 2∧St H w' (.blk b0 (gg (two a b m m s))::σ):=by
 refine Cl.o Tryz.func119 Tryz.ntmps119 ag4 ?_
 refine .aj (.z zg (.nil (.aj (.z zm (.z zm (.z zm (.z zm (.z (zbd [_,_,_,_] eX) (.z zm ?_)))))))))
 refine .z zm (.z zm (.z zm (.z (zbd [_,_,_,_] eX) ?_)))
 refine .o (.buildSlice (cells:=gg (two a b m m s)) hs fU rfl aq fun b19 w hs=>?_)
 refine .z zg (.nil ?_)
 refine .ret (Fin.bK Tryz.results119 rfl ?_)
 exact ⟨b19,rfl,hs⟩
theorem nr{c:Cmp}{t:TD}{f:Int}(hs:St H w σ)(hlo: -1000000≤c.lo∧c.lo≤1000000):
  Cl Tryz.prog 194 [.agg #[I c.src,I c.tape,I c.fr,I c.to,I c.lo,I c.hi],.agg #[I t.tape,I t.day],I f] w fun v w'=>∃en,cz 4 v (gg (kr c t f)) en∧St H w' (en::σ):=by
 refine Cl.o Tryz.func194 Tryz.ntmps194 ag3 ?_
 refine .aj ?_
 refine .bx hs fun b3 w hs=>?_
 refine .bx hs fun b4 w hs=>?_
 refine .z zg (.nil (.seq (.aj (.z (zfa iV) (.y hs (zld af) (.z (zfa mJ) (.y hs (zld af) (.z gP (.z zm ?_)))))))))
 refine .yq (t':=12) rfl (fun hb12=>?_) (fun hb12=>?_)
 ·refine .gFs 5 5 false rfl rfl rfl ?_
  refine .z zpT (.z zm ?_)
  refine .gFs 5 12 false rfl rfl rfl ?_
  refine .z zpT (.nil ?_)
  refine (.cT ?_)
  refine .aj (.z zg (.nil ?_))
  refine .ret (rT (Fin.bK Tryz.results194 rfl ?_))
  exact ⟨.nul,by unfold kr;rw [if_neg ak];exact .nil 4 none,hs.tail.tail.nul⟩
 ·refine .gT rfl rfl ?_
  refine .z (zfa kd) ?_
  refine .gT rfl rfl ?_
  refine .y hs (zld af) ?_
  refine .gT rfl rfl ?_
  refine .z (zfa fO) ?_
  refine .gT rfl rfl ?_
  refine .y hs (zld af) ?_
  refine .gT rfl rfl ?_
  refine .z fD (.z zpF (.z zm ?_))
  refine .iB (t':=19) rfl (fun hb19=>?_) (fun hb19=>?_)
  ·refine .gFs 5 12 false rfl rfl rfl ?_
   refine .z zpT (.nil ?_)
   refine (.cT ?_)
   refine .aj (.z zg (.nil ?_))
   refine .ret (rT (Fin.bK Tryz.results194 rfl ?_))
   exact ⟨.nul,by unfold kr;rw [if_neg ak];exact .nil 4 none,hs.tail.tail.nul⟩
  ·refine .gT rfl rfl ?_
   refine .z (zfa kd) ?_
   refine .gT rfl rfl ?_
   refine .y hs (zld af) ?_
   refine .gT rfl rfl ?_
   refine .z (zfa fh) ?_
   refine .gT rfl rfl ?_
   refine .y hs (zld af) ?_
   refine .gT rfl rfl ?_
   refine .z kD (.z zpF (.nil ?_))
   refine (.bJ rfl (fun hc25=>?_) (fun hc25=>?_))
   ·refine .aj (.z zg (.nil ?_))
    refine .ret (rT (Fin.bK Tryz.results194 rfl ?_))
    exact ⟨.nul,by unfold kr;rw [if_neg ak];exact .nil 4 none,hs.tail.tail.nul⟩
   ·refine .skip ?_
    refine nT ?_
    refine .aj (.z zm (.z (zfa fg) (.y hs (zld af) (.z zv (.z (zfa fi) (.y hs (zld af) (.z (zbd [_,_,_,_] eX) (.z zm (.z (zfa ff) ?_)))))))))
    refine .y hs (zld af) (.z (zfa fi) (.y hs (zld af) (.z (zbd [_,_,_,_] eX) ?_)))
    refine .o (.buildSlice (cells:=gg (two 0 f (-c.lo) c.hi c.src)) hs fU rfl aq fun b39 w hs=>?_)
    refine .z zg (.nil ?_)
    refine .ret (Fin.bK Tryz.results194 rfl ?_)
    exact ⟨_,by unfold kr;rw [if_pos ak];exact .full (by simp [two,cV]),hs.sb⟩
theorem gL{v:Value}{xs:List TD}{t:TD}(hs:St H w σ)(hr:RTd H v xs)(hl:xs.length≤1000000):
  Cl Tryz.prog 93 [v,.agg #[I t.tape,I t.day]] w fun u w'=>u=I (iI xs t)∧St H w' σ:=by
 obtain ⟨a,c,rfl⟩:=RTd.shape hr
 refine Cl.o Tryz.func93 Tryz.ntmps93 ag2 ?_
 refine .aj ?_
 refine .bx hs fun b3 w hs=>?_
 refine .z zg (.nil (.seq (.aj (.z zg (.nil (.block ?_))))))
 refine .loop (fun k:Nat=>⟨19,[],[(5,I (k:Int)),(3,.pointer (some ⟨b3,0,none⟩)),(0,.slice a xs.length c)]⟩)
  (fun k w=>k≤xs.length∧(∀j<k,∀y,xs[j]? =some y→¬y=t)∧St H w (.blk b3 [I t.tape,I t.day]::σ)) (fun k=>xs.length - k) 0 (.cn rfl bQ a8)
  ⟨Nat.zero_le _,fun j hj=>by omega,hs⟩ ?_
 rintro k w ⟨hk,hno,hs⟩
 refine .seq (.aj (.z zm (.z zm (.z (cN aT) (.z fD (.nil ?_))))))
 refine (.bJ rfl (fun hc9=>?_) (fun hc9=>?_))
 ·refine .skip ?_
  refine nT ?_
  refine .seq (.block ?_)
  refine .seq (.draw mix rfl hs fun w hs=>?_)
  refine .z 0 rfl zm ?_;refine .z 1 rfl zm ?_
  obtain ⟨x,hx⟩:=nth (l:=xs) (k:=k) ak
  refine .ixX (enc:=TD.c) (i:=2) hs rfl aq .none hr rfl rfl aT bn hx cJ ?_;intro b14 o14 hc14
  refine .r (i:=3) hs rfl aq .none (cj (vs:=x.c) rfl da bn hc14) ?_
  refine .ys 4 rfl hs [_,_] da bn ?_
  refine .z 5 rfl (nA nW nX fu (fun f hf=>by
   simp only [List.mem_cons,List.not_mem_nil,or_false] at hf
   rcases hf with rfl|rfl<;>exact ⟨by decide,aV,af⟩) rfl rfl) ?_
  refine .D hs ?_
  refine (.cond rfl (fun hc17=>?_) (fun hc17=>?_))
  ·refine .aj (.z zm (.z zg (.nil ?_)))
   refine .ret (rB (rT (rT (rB (rT (Fin.bK Tryz.results93 rfl ?_))))))
   have e:x=t:=Bh.1 (of_decide_eq_true hc17)
   subst e
   exact ⟨by rw [nh hx fun j hj h=>hno j hj _ h rfl],hs.tail⟩
  ·refine .skip ?_
   refine nB (nT ?_)
   refine .region (.z zm (.z cH (.z zg (.nil ?_))))
   refine nT ?_
   exact ⟨k+1,.cn rfl bQ a8,⟨ak,fl hno hx (fun e=>by subst e;simp at hc17),hs⟩,ak⟩
 ·refine .exit ?_
  refine xT (xT (xB (nT ?_)))
  refine .aj (.z zg (.nil ?_))
  refine .ret (Fin.bK Tryz.results93 rfl ?_)
  obtain rfl:k=xs.length:=by omega
  exact ⟨by rw [s5 hno],hs.tail⟩
theorem nt{v:Value}{en:Ent}{xs:List TD}{t:TD}(hs:St H w (en::σ))(hO:cz 2 v (tdc xs).flatten en)(hl:xs.length≤1000000):
  Cl Tryz.prog 93 [v,.agg #[I t.tape,I t.day]] w fun u w'=>u=I (iI xs t)∧St H w' (en::σ):=by
 obtain ⟨a,c,rfl⟩:=hO.fM (kX xs) ak
 rw [dI] at hO ⊢
 refine Cl.o Tryz.func93 Tryz.ntmps93 ag2 ?_
 refine .aj ?_
 refine .bx hs fun b3 w hs=>?_
 refine .z zg (.nil (.seq (.aj (.z zg (.nil (.block ?_))))))
 refine .loop (fun k:Nat=>⟨19,[],[(5,I (k:Int)),(3,.pointer (some ⟨b3,0,none⟩)),(0,.slice a xs.length c)]⟩)
  (fun k w=>k≤xs.length∧(∀j<k,∀y,xs[j]? =some y→¬y=t)∧St H w (.blk b3 [I t.tape,I t.day]::en::σ)) (fun k=>xs.length - k) 0 (.cn rfl bQ a8)
  ⟨Nat.zero_le _,fun j hj=>by omega,hs⟩ ?_
 rintro k w ⟨hk,hno,hs⟩
 refine .seq (.aj (.z zm (.z zm (.z (cN aT) (.z fD (.nil ?_))))))
 refine (.bJ rfl (fun hc9=>?_) (fun hc9=>?_))
 ·refine .skip ?_
  refine nT ?_
  refine .seq (.block ?_)
  refine .seq (.draw mix rfl hs fun w hs=>?_)
  refine .z 0 rfl zm ?_;refine .z 1 rfl zm ?_
  obtain ⟨x,hx⟩:=nth (l:=xs) (k:=k) ak
  obtain ⟨b,c',sp,hv,rfl,_⟩:=hO.Fx (kX xs) ak (by rw [dI];omega)
  rw [dI] at hv
  cases hv
  refine .z 2 rfl (ou aT bn) ?_
  refine .yW (i:=3) (vs:=x.c) hs rfl aq .none rfl da bn ?_ (hv:=vN (kX xs) (yG hx) sp)
  refine .ys 4 rfl hs [_,_] da bn ?_
  refine .z 5 rfl (nA nW nX fu (fun f hf=>by
   simp only [List.mem_cons,List.not_mem_nil,or_false] at hf
   rcases hf with rfl|rfl<;>exact ⟨by decide,aV,af⟩) rfl rfl) ?_
  refine .D hs ?_
  refine (.cond rfl (fun hc17=>?_) (fun hc17=>?_))
  ·refine .aj (.z zm (.z zg (.nil ?_)))
   refine .ret (rB (rT (rT (rB (rT (Fin.bK Tryz.results93 rfl ?_))))))
   have e:x=t:=Bh.1 (of_decide_eq_true hc17)
   subst e
   exact ⟨by rw [nh hx fun j hj h=>hno j hj _ h rfl],hs.tail⟩
  ·refine .skip ?_
   refine nB (nT ?_)
   refine .region (.z zm (.z cH (.z zg (.nil ?_))))
   refine nT ?_
   exact ⟨k+1,.cn rfl bQ a8,⟨ak,fl hno hx (fun e=>by subst e;simp at hc17),hs⟩,ak⟩
 ·refine .exit ?_
  refine xT (xT (xB (nT ?_)))
  refine .aj (.z zg (.nil ?_))
  refine .ret (Fin.bK Tryz.results93 rfl ?_)
  obtain rfl:k=xs.length:=by omega
  exact ⟨by rw [s5 hno],hs.tail⟩
set_option maxHeartbeats 1000000 in
theorem eL{vr:Value}{rs:List Rdg}(hs:St H w σ)(hr:RRd H vr rs)(hl:rs.length≤1000000):
  Cl Tryz.prog 94 [vr] w fun u w'=>∃H1,HLe H H1∧RTd H1 u (bw rs)∧St H1 w' σ:=by
 obtain ⟨ar,cr,rfl⟩:=RRd.shape hr
 refine Cl.o Tryz.func94 Tryz.ntmps94 ag1 ?_
 refine .aj (.z zg (.nil (.aj (.z zg (.nil (.seq (.aj (.z zg (.nil ?_)))))))))
 refine .block ?_
 refine .loop (fun p:Nat×Value=>⟨32,[],[(4,I (p.1:Int)),(3,p.2),(0,.slice ar rs.length cr)]⟩)
  (fun p w=>p.1≤rs.length∧∃en,cz 2 p.2 (tdc (bw (rs.take p.1))).flatten en∧St H w (en::σ)) (fun p=>rs.length - p.1) (0,.slice none 0 0) a8
  ⟨Nat.zero_le _,_,.nil 2 none,hs.nul⟩ ?_
 rintro ⟨k,vo⟩ w ⟨hk,en,hO,hs⟩
 dsimp only at hk hO ⊢
 have htl:=kJ rs k ak
 obtain ⟨ao,co,rfl⟩:=hO.fM (kX _) ak
 rw [dI] at hO ⊢
 refine .seq (.aj (.z zm (.z zm (.z (cN aA) (.z fD (.nil ?_))))))
 refine (.bJ rfl (fun hc9=>?_) (fun hc9=>?_))
 ·refine .skip ?_
  refine nT ?_
  refine .seq (.block ?_)
  refine .seq (.draw mix rfl hs fun w hs=>?_)
  refine .z 0 rfl zm ?_;refine .z 1 rfl zm ?_
  obtain ⟨r,hx⟩:=nth (l:=rs) (k:=k) ak
  have htk:=jS hx
  refine .ixX (enc:=Rdg.c) (i:=2) hs rfl aq .none hr rfl rfl aA aE hx cJ ?_;intro b14 o14 hc14
  have d14:cellAt H b14 (o14+5)=some (I r.tape):=hc14 5 _ rfl
  refine .z 3 rfl (zfa ez) ?_;refine .y 4 rfl hs af ?_;refine .z 5 rfl zm ?_;refine .z 6 rfl zm ?_
  refine .ixX (enc:=Rdg.c) (i:=7) hs rfl aq .none hr rfl rfl aA aE hx cJ ?_;intro b19 o19 hc19
  have d19:cellAt H b19 (o19+6)=some (I r.day):=hc19 6 _ rfl
  refine .z 8 rfl (zfa ew) ?_;refine .y 9 rfl hs af ?_;refine .z 10 rfl (zbd [_,_] fG) ?_
  refine .E 11 hs ?_
  refine .alloc hs jy rfl ?_;intro b5 w hs
  refine .go ?_
  refine .E 12 hs ?_
  refine .aZ (vs:=[_,_]) hs rfl rfl bn ?_;intro w hs
  refine .go ?_
  refine .D hs ?_
  refine .aj (.z zm (.y hs (zls [_,_] da bn) ?_))
  refine .o (.call xt rfl (nt (t:=r.td) (hs.sb:St H w (en:: .blk b5 [I r.tape,I r.day]::σ)) hO ak) ?_);rintro _ w ⟨rfl,hs⟩
  have hnn:=jR (l:=bw (rs.take k)) (t:=r.td)
  refine .z fD (.nil ?_)
  refine (.bJ rfl (fun hc26=>?_) (fun hc26=>?_))
  ·refine .region (.z zm (.y hs (zls [_,_] da bn) ?_))
   refine .o (.buildSlice (cells:=[_,_]) hs gj rfl rfl fun b29 w hs=>?_)
   refine .o (.append (ys:=r.td.c) hs ee rfl rfl hO (.own .here rfl rfl) (by simp [TD.c,Value.oneCell']) (fun l h=>by rw [cu _ (kX _),dI] at h;omega) ?_);intro v30 en30 w hO2 hs
   refine .z zg (.nil ?_)
   refine nB (nT ?_)
   refine .region (.z zm (.z cH (.z zg (.nil ?_))))
   refine nT ?_
   have hn:r.td∉bw (rs.take k):=fun hm=>by have:=hnn.2 hm;omega
   rw [←s4,show bw (rs.take k)++[r.td]=bw (rs.take (k+1)) by rw [htk];unfold qS;rw [if_neg hn]] at hO2
   exact ⟨(k+1,v30),.cn rfl bQ a8,⟨by dsimp only;omega,_,hO2,hs.sb⟩,by dsimp only;omega⟩
  ·refine .skip ?_
   refine nB (nT ?_)
   refine .region (.z zm (.z cH (.z zg (.nil ?_))))
   refine nT ?_
   have hm:r.td∈bw (rs.take k):=hnn.1 ak
   exact ⟨(k+1,_),.cn rfl bQ a8,⟨by dsimp only;omega,en,by dsimp only;rw [htk];unfold qS;rw [if_pos hm];exact hO,hs.sb⟩,by dsimp only;omega⟩
 ·refine .exit ?_
  refine xT (xT (xB (nT ?_)))
  refine .aj (.z zm (.z zg (.nil ?_)))
  refine .ret (Fin.bK Tryz.results94 rfl ?_)
  obtain rfl:k=rs.length:=by omega
  rw [List.take_length] at hO
  have htl:=db rs
  obtain ⟨H2,hle2,hR,hs⟩:=cz.cO (m:=2) (cs:=tdc (bw rs)) hO (kX _) ak (by rw [dI];omega) hs .here
  rw [List.take_length]
  exact ⟨H2,hle2,hR,hs⟩
theorem wk(s:Spc)(i k:Nat):1+(i:Int)*(s.wa.length:Int)+(k:Int)=(s.u i k:Int):=by
 unfold Spc.u;rw [Int.natCast_add,Int.natCast_add,Int.natCast_mul];rfl
theorem FJ(s:Spc)(i k:Nat):1+((i:Int)+1)*(s.wa.length:Int)+(k:Int)=(s.u (i+1) k:Int):=by
 rw [←wk];rfl
theorem FI(s:Spc)(i k:Nat):1+(i:Int)*(s.wa.length:Int)+((k:Int)+1)=(s.u i (k+1):Int):=by
 rw [←wk];rfl
theorem lx{f:Nat→Nat→List Lim}(hf:∀i k,(f i k).length≤2)(i:Nat):∀k,(ma f i k).length≤2*k
 |0=>by simp [ma]
 |k+1=>by have:=lx hf i k;have:=hf i k;simp only [ma,List.length_append];omega
theorem l9{f:Nat→Nat→List Lim}(hf:∀i k,(f i k).length≤2){m n:Nat}(hm:m≤7)(hn:n≤9)(h0:0<m):(eW f m n).length≤126:=by
 have h1:=ij hf (n:=n) h0
 have:n*m≤9*7:=Nat.mul_le_mul hn hm
 omega
theorem Fl{s:Spc}(h0:0<s.st.length):eW (alL s) s.wa.length s.st.length=eW (alL s) s.wa.length (s.st.length - 1):=by
 obtain ⟨n,hn⟩:∃n,s.st.length=n+1:=⟨s.st.length - 1,ak⟩
 have key:∀k,ma (alL s) n k=[]:=by
  intro k
  induction k with
  |zero=>rfl
  |succ k ih=>simp only [ma];rw [ih];unfold alL;rw [if_neg ak];rfl
 rw [hn,Nat.add_sub_cancel]
 simp only [eW]
 rw [key,List.append_nil]
theorem EJ{s:Spc}(i:Nat)(h0:0<s.wa.length):ma (upL s) i s.wa.length=ma (upL s) i (s.wa.length - 1):=by
 obtain ⟨n,hn⟩:∃n,s.wa.length=n+1:=⟨s.wa.length - 1,ak⟩
 have e:upL s i n=[]:=by unfold upL;rw [if_neg ak]
 rw [hn,Nat.add_sub_cancel]
 simp only [ma]
 rw [e,List.append_nil]
set_option maxHeartbeats 4000000 in
theorem kb{s:Srv}{vst vwa vr vc:Value}(hs:St H w σ)(h1:RI H vst s.sp.st)(h2:RI H vwa s.sp.wa)(h3:RRd H vr s.rs)(h4:RCm H vc s.cs)(he:s.early):
  Cl Tryz.prog 111 [.agg #[I s.sp.id,I s.sp.src,vst,vwa,I s.sp.al,I s.sp.up,vr,vc]] w fun u w'=>∃H1 en,HLe H H1∧cz 4 u (gg s.bU) en∧St H1 w' (en::σ):=by
 obtain ⟨ast,cst,rfl⟩:=RI.shape h1
 obtain ⟨awa,cwa,rfl⟩:=RI.shape h2
 obtain ⟨ar,cr,rfl⟩:=RRd.shape h3
 obtain ⟨ac,cc,rfl⟩:=RCm.shape h4
 obtain ⟨hok,hrl,hcl,hrs,hcs⟩:=he
 have hsm:=dK hok
 have hn1:=hok.st.many
 have hn2:=hok.wa.many
 have hn3:=hok.st.two
 have hn4:=hok.wa.two
 have ha:=l9 (oq s.sp) (m:=s.sp.wa.length) (n:=s.sp.st.length) ak ak ak
 have hb:=l9 (r9 s.sp) (m:=s.sp.wa.length) (n:=s.sp.st.length) ak ak ak
 have hc:=l9 (q9 s.sp) (m:=s.sp.wa.length) (n:=s.sp.st.length) ak ak ak
 have hal:=hok.al
 have hup:=hok.up
 refine Cl.o Tryz.func111 Tryz.ntmps111 ag1 ?_
 refine .aj ?_
 refine .bx hs fun b1 w hs=>?_
 refine .z zg (.nil (.aj (.z (zfa aJ) (.y hs (zls [_,_,_,_,_,_] aF aB) ?_))))
 refine .o (.alloc hs gh rfl fun b3 w hs=>?_)
 refine .o (.aZ (vs:=[_,_,_,_,_,_]) hs rfl rfl aB fun w hs=>?_)
 refine .nil (.aj (.z zg (.nil (.seq (.aj (.z zg (.nil (.block ?_))))))))
 refine .loop (fun p:Nat×Value=>⟨243,[],[(5,I (p.1:Int)),(4,p.2),(3,.pointer (some ⟨b3,0,none⟩)),(1,.pointer (some ⟨b1,0,none⟩))]⟩)
  (fun p w=>p.1≤s.sp.st.length∧∃en,cz 4 p.2 (gg (eW (qW s.sp) s.sp.wa.length p.1)) en∧St H w (en:: .blk b3 [I s.sp.id,I s.sp.src,.slice ast s.sp.st.length cst,.slice awa s.sp.wa.length cwa,I s.sp.al,I s.sp.up]:: .blk b1 [I s.sp.id,I s.sp.src,.slice ast s.sp.st.length cst,.slice awa s.sp.wa.length cwa,I s.sp.al,I s.sp.up,.slice ar s.rs.length cr,.slice ac s.cs.length cc]::σ)) (fun p=>s.sp.st.length - p.1) (0,.slice none 0 0) a8
  ⟨by first|omega|exact Nat.zero_le _,_,.nil 4 none,hs.nul⟩ ?_
 rintro ⟨i,vo⟩ w ⟨hi,en,hO,hs⟩
 dsimp only at hi hO ⊢
 refine .seq (.aj (.z zm (.z (zfa bj) (.y hs (zld an) (.z (cN ae) (.z fD (.nil ?_)))))))
 refine (.bJ rfl (fun hc27=>?_) (fun hc27=>?_))
 ·refine .skip ?_
  refine nT ?_
  refine .seq (.block (.aj (.z zg (.nil (.block ?_)))))
  refine .loop (fun p:Nat×Value=>⟨243,[],[(6,I (p.1:Int)),(4,p.2),(5,I (i:Int)),(3,.pointer (some ⟨b3,0,none⟩)),(1,.pointer (some ⟨b1,0,none⟩))]⟩)
   (fun p w=>p.1≤s.sp.wa.length∧∃en,cz 4 p.2 (gg (eW (qW s.sp) s.sp.wa.length i++ma (qW s.sp) i p.1)) en∧St H w (en:: .blk b3 [I s.sp.id,I s.sp.src,.slice ast s.sp.st.length cst,.slice awa s.sp.wa.length cwa,I s.sp.al,I s.sp.up]:: .blk b1 [I s.sp.id,I s.sp.src,.slice ast s.sp.st.length cst,.slice awa s.sp.wa.length cwa,I s.sp.al,I s.sp.up,.slice ar s.rs.length cr,.slice ac s.cs.length cc]::σ)) (fun p=>s.sp.wa.length - p.1) (0,vo) a8
   ⟨by first|omega|exact Nat.zero_le _,en,by show cz 4 vo (gg (_++[])) en;rw [List.append_nil];exact hO,hs⟩ ?_
  clear hO hs
  rintro ⟨k,vo⟩ w ⟨hk,en,hO,hs⟩
  dsimp only at hk hO ⊢
  have hl1:=l9 (oq s.sp) (m:=s.sp.wa.length) (n:=i) ak ak ak
  have hl2:=lx (oq s.sp) i k
  refine .seq (.aj (.z zm (.z (zfa aS) (.y hs (zld an) (.z (cN ae) (.z fD (.nil ?_)))))))
  refine (.bJ rfl (fun hc34=>?_) (fun hc34=>?_))
  ·refine .skip ?_
   refine nT ?_
   refine .seq (.block (.aj (.y hs (zls [_,_,_,_,_,_] aF aB) (.z zm (.z zm ?_)))))
   refine .o (.call fL rfl (cP (s:=s.sp) hs h2 ak ⟨ak,ak⟩ ⟨ak,ak⟩) ?_);rintro _ w ⟨rfl,hs⟩
   rw [wk]
   refine .z zg (.nil (.region (.z zm (.z zm (.z (zfa cQ) (.y hs (zld af) (.z (zbd [_,_,_,_] eX) (.z zm (.z (zfa cQ) ?_)))))))))
   refine .y hs (zld af) (.z (zbd [_,_,_,_] eX) ?_)
   refine .o (.buildSlice (cells:=gg (qW s.sp i k)) hs fU rfl aq fun b50 w hs=>?_)
   refine .o (.append (ys:=gg (qW s.sp i k)) hs bM rfl rfl hO (.own .here rfl rfl) (iz _) (fun l h=>by rw [cV,List.length_append] at h;omega) ?_);intro v51 en51 w hO2 hs
   rw [←fj,List.append_assoc] at hO2
   refine .z zg (.nil ?_)
   refine nB (nT ?_)
   refine .region (.z zm (.z cH (.z zg (.nil ?_))))
   refine nT ?_
   exact ⟨(k+1,v51),.cn rfl bQ a8,⟨by dsimp only;omega,_,hO2,hs.sb⟩,by dsimp only;omega⟩
  ·refine .exit ?_
   refine xT (xT (xB (nB (nT ?_))))
   refine .region (.z zm (.z cH (.z zg (.nil ?_))))
   refine nT ?_
   obtain rfl:k=s.sp.wa.length:=by omega
   exact ⟨(i+1,_),.cn rfl bQ a8,⟨by dsimp only;omega,en,hO,hs⟩,by dsimp only;omega⟩
 ·refine .exit ?_
  refine xT (xT (xB (nT ?_)))
  refine .seq (.aj (.z zg (.nil (.block ?_))))
  refine .loop (fun p:Nat×Value=>⟨243,[],[(8,I (p.1:Int)),(4,p.2),(3,.pointer (some ⟨b3,0,none⟩)),(1,.pointer (some ⟨b1,0,none⟩))]⟩)
   (fun p w=>p.1+1≤s.sp.st.length∧∃en,cz 4 p.2 (gg (eW (qW s.sp) s.sp.wa.length s.sp.st.length++eW (alL s.sp) s.sp.wa.length p.1)) en∧St H w (en:: .blk b3 [I s.sp.id,I s.sp.src,.slice ast s.sp.st.length cst,.slice awa s.sp.wa.length cwa,I s.sp.al,I s.sp.up]:: .blk b1 [I s.sp.id,I s.sp.src,.slice ast s.sp.st.length cst,.slice awa s.sp.wa.length cwa,I s.sp.al,I s.sp.up,.slice ar s.rs.length cr,.slice ac s.cs.length cc]::σ)) (fun p=>s.sp.st.length - p.1) (0,vo) a8
   ⟨by first|omega|exact Nat.zero_le _,en,by show cz 4 vo (gg (_++[])) en;rw [List.append_nil,←show i=s.sp.st.length by omega];exact hO,hs⟩ ?_
  clear hO hs
  rintro ⟨i,vo⟩ w ⟨hi,en,hO,hs⟩
  dsimp only at hi hO ⊢
  refine .seq (.aj (.z zm (.z cH (.z (zfa bj) (.y hs (zld an) (.z (cN ae) (.z fD (.nil ?_))))))))
  refine (.bJ rfl (fun hc57=>?_) (fun hc57=>?_))
  ·refine .skip ?_
   refine nT ?_
   refine .seq (.block (.aj (.z zg (.nil (.block ?_)))))
   refine .loop (fun p:Nat×Value=>⟨243,[],[(9,I (p.1:Int)),(4,p.2),(8,I (i:Int)),(3,.pointer (some ⟨b3,0,none⟩)),(1,.pointer (some ⟨b1,0,none⟩))]⟩)
    (fun p w=>p.1≤s.sp.wa.length∧∃en,cz 4 p.2 (gg (eW (qW s.sp) s.sp.wa.length s.sp.st.length++eW (alL s.sp) s.sp.wa.length i++ma (alL s.sp) i p.1)) en∧St H w (en:: .blk b3 [I s.sp.id,I s.sp.src,.slice ast s.sp.st.length cst,.slice awa s.sp.wa.length cwa,I s.sp.al,I s.sp.up]:: .blk b1 [I s.sp.id,I s.sp.src,.slice ast s.sp.st.length cst,.slice awa s.sp.wa.length cwa,I s.sp.al,I s.sp.up,.slice ar s.rs.length cr,.slice ac s.cs.length cc]::σ)) (fun p=>s.sp.wa.length - p.1) (0,vo) a8
    ⟨by first|omega|exact Nat.zero_le _,en,by show cz 4 vo (gg (_++[])) en;rw [List.append_nil];exact hO,hs⟩ ?_
   clear hO hs
   rintro ⟨k,vo⟩ w ⟨hk,en,hO,hs⟩
   dsimp only at hk hO ⊢
   have hl1:=l9 (r9 s.sp) (m:=s.sp.wa.length) (n:=i) ak ak ak
   have hl2:=lx (r9 s.sp) i k
   refine .seq (.aj (.z zm (.z (zfa aS) (.y hs (zld an) (.z (cN ae) (.z fD (.nil ?_)))))))
   refine (.bJ rfl (fun hc64=>?_) (fun hc64=>?_))
   ·refine .skip ?_
    refine nT ?_
    refine .seq (.block ?_)
    refine .draw mix rfl hs fun w hs=>?_
    refine .z 0 rfl zm ?_;refine .ys 1 rfl hs [_,_,_,_,_,_] aF aB ?_;refine .z 2 rfl zm ?_;refine .z 3 rfl zm ?_;refine .ys 5 rfl hs [_,_,_,_,_,_] aF aB ?_;refine .z 6 rfl zm ?_;refine .z 7 rfl cH ?_;refine .z 8 rfl zm ?_;refine .z 10 rfl (zfa dN) ?_;refine .z 11 rfl (zfa jt) ?_
    refine .y 12 rfl hs af ?_;refine .z 13 rfl (zfa bj) ?_;refine .y 14 rfl hs an ?_;refine .z 15 rfl zm ?_;refine .z 16 rfl cH ?_
    have hris:=hok.st.rise i ak
    have hq0:=hok.st.bd (i:=i) ak
    have hq1:=hok.st.bd (i:=i+1) ak
    refine .ixX (enc:=fun x=>[I x]) (i:=17) hs rfl aq .none h1 rfl rfl ae ai (bE (l:=s.sp.st) (i:=(i+1)) ak) cJ ?_;intro b84 o84 hc84;replace hc84:=bI.one hc84
    refine .r (i:=18) hs rfl aq .none (aO rfl af hc84) ?_
    refine .z 19 rfl (zfa bj) ?_;refine .y 20 rfl hs an ?_;refine .z 21 rfl zm ?_
    refine .ixX (enc:=fun x=>[I x]) (i:=22) hs rfl aq .none h1 rfl rfl ae ai (bE (l:=s.sp.st) (i:=i) ak) cJ ?_;intro b89 o89 hc89;replace hc89:=bI.one hc89
    refine .r (i:=23) hs rfl aq .none (aO rfl af hc89) ?_
    refine .z 24 rfl gO ?_;refine .z 26 rfl (zfa cQ) ?_;refine .y 27 rfl hs af ?_
    refine .E 4 hs ?_
    refine .call fL rfl (cP (s:=s.sp) hs h2 ak ⟨ak,ak⟩ ⟨ak,ak⟩) ?_;rintro _ w ⟨rfl,hs⟩
    rw [wk]
    refine .go ?_
    refine .E 9 hs ?_
    refine .call fL rfl (cP (s:=s.sp) hs h2 ak ⟨ak,ak⟩ ⟨ak,ak⟩) ?_;rintro _ w ⟨rfl,hs⟩
    rw [FJ]
    refine .go ?_
    refine .E 25 hs ?_
    refine .call Tryz.call193 rfl (lX hs ak ak) ?_;rintro _ w ⟨rfl,hs⟩
    refine .go ?_
    refine .E 28 hs ?_
    refine .call Tryz.call119 rfl (jm hs) ?_;rintro _ w ⟨b95,rfl,hs⟩
    rw [show two (s.sp.u i k:Int) _ _ _ _=alL s.sp i k by unfold alL;rw [if_pos ak]] at hs
    refine .go ?_
    refine .E 29 hs ?_
    refine .append (ys:=gg (alL s.sp i k)) hs bM rfl rfl hO (.own .here bQ (by rw [cV];unfold alL;rw [if_pos ak];rfl)) (iz _) (fun l h=>by rw [cV] at h;simp only [List.length_append] at h;omega) ?_;intro v96 en96 w hO2 hs
    rw [←fj,List.append_assoc _ (ma _ _ _)] at hO2
    refine .go ?_
    refine .z 30 rfl zg ?_;refine .D hs ?_
    refine nB (nT ?_)
    refine .region (.z zm (.z cH (.z zg (.nil ?_))))
    refine nT ?_
    exact ⟨(k+1,v96),.cn rfl bQ a8,⟨by dsimp only;omega,_,hO2,hs.sb⟩,by dsimp only;omega⟩
   ·refine .exit ?_
    refine xT (xT (xB (nB (nT ?_))))
    refine .region (.z zm (.z cH (.z zg (.nil ?_))))
    refine nT ?_
    obtain rfl:k=s.sp.wa.length:=by omega
    rw [List.append_assoc] at hO
    exact ⟨(i+1,_),.cn rfl bQ a8,⟨by dsimp only;omega,en,hO,hs⟩,by dsimp only;omega⟩
  ·refine .exit ?_
   refine xT (xT (xB (nT ?_)))
   refine .seq (.aj (.z zg (.nil (.block ?_))))
   refine .loop (fun p:Nat×Value=>⟨243,[],[(10,I (p.1:Int)),(4,p.2),(3,.pointer (some ⟨b3,0,none⟩)),(1,.pointer (some ⟨b1,0,none⟩))]⟩)
    (fun p w=>p.1≤s.sp.st.length∧∃en,cz 4 p.2 (gg (eW (qW s.sp) s.sp.wa.length s.sp.st.length++eW (alL s.sp) s.sp.wa.length s.sp.st.length++eW (upL s.sp) s.sp.wa.length p.1)) en∧St H w (en:: .blk b3 [I s.sp.id,I s.sp.src,.slice ast s.sp.st.length cst,.slice awa s.sp.wa.length cwa,I s.sp.al,I s.sp.up]:: .blk b1 [I s.sp.id,I s.sp.src,.slice ast s.sp.st.length cst,.slice awa s.sp.wa.length cwa,I s.sp.al,I s.sp.up,.slice ar s.rs.length cr,.slice ac s.cs.length cc]::σ)) (fun p=>s.sp.st.length - p.1) (0,vo) a8
    ⟨by first|omega|exact Nat.zero_le _,en,by show cz 4 vo (gg (_++[])) en;rw [List.append_nil,Fl ak,←show i=s.sp.st.length - 1 by omega];exact hO,hs⟩ ?_
   clear hO hs
   rintro ⟨i,vo⟩ w ⟨hi,en,hO,hs⟩
   dsimp only at hi hO ⊢
   refine .seq (.aj (.z zm (.z (zfa bj) (.y hs (zld an) (.z (cN ae) (.z fD (.nil ?_)))))))
   refine (.bJ rfl (fun hc101=>?_) (fun hc101=>?_))
   ·refine .skip ?_
    refine nT ?_
    refine .seq (.block (.aj (.z zg (.nil (.block ?_)))))
    refine .loop (fun p:Nat×Value=>⟨243,[],[(11,I (p.1:Int)),(4,p.2),(10,I (i:Int)),(3,.pointer (some ⟨b3,0,none⟩)),(1,.pointer (some ⟨b1,0,none⟩))]⟩)
     (fun p w=>p.1+1≤s.sp.wa.length∧∃en,cz 4 p.2 (gg (eW (qW s.sp) s.sp.wa.length s.sp.st.length++eW (alL s.sp) s.sp.wa.length s.sp.st.length++eW (upL s.sp) s.sp.wa.length i++ma (upL s.sp) i p.1)) en∧St H w (en:: .blk b3 [I s.sp.id,I s.sp.src,.slice ast s.sp.st.length cst,.slice awa s.sp.wa.length cwa,I s.sp.al,I s.sp.up]:: .blk b1 [I s.sp.id,I s.sp.src,.slice ast s.sp.st.length cst,.slice awa s.sp.wa.length cwa,I s.sp.al,I s.sp.up,.slice ar s.rs.length cr,.slice ac s.cs.length cc]::σ)) (fun p=>s.sp.wa.length - p.1) (0,vo) a8
     ⟨by first|omega|exact Nat.zero_le _,en,by show cz 4 vo (gg (_++[])) en;rw [List.append_nil];exact hO,hs⟩ ?_
    clear hO hs
    rintro ⟨k,vo⟩ w ⟨hk,en,hO,hs⟩
    dsimp only at hk hO ⊢
    have hl1:=l9 (q9 s.sp) (m:=s.sp.wa.length) (n:=i) ak ak ak
    have hl2:=lx (q9 s.sp) i k
    refine .seq (.aj (.z zm (.z cH (.z (zfa aS) (.y hs (zld an) (.z (cN ae) (.z fD (.nil ?_))))))))
    refine (.bJ rfl (fun hc109=>?_) (fun hc109=>?_))
    ·refine .skip ?_
     refine nT ?_
     refine .seq (.block ?_)
     refine .draw mix rfl hs fun w hs=>?_
     refine .z 0 rfl zm ?_;refine .ys 1 rfl hs [_,_,_,_,_,_] aF aB ?_;refine .z 2 rfl zm ?_;refine .z 3 rfl zm ?_;refine .ys 5 rfl hs [_,_,_,_,_,_] aF aB ?_;refine .z 6 rfl zm ?_;refine .z 7 rfl zm ?_;refine .z 8 rfl cH ?_;refine .z 10 rfl (zfa dN) ?_;refine .z 11 rfl (zfa js) ?_
     refine .y 12 rfl hs af ?_;refine .z 13 rfl (zfa aS) ?_;refine .y 14 rfl hs an ?_;refine .z 15 rfl zm ?_;refine .z 16 rfl cH ?_
     have hris:=hok.wa.rise k ak
     have hq0:=hok.wa.bd (i:=k) ak
     have hq1:=hok.wa.bd (i:=k+1) ak
     refine .ixX (enc:=fun x=>[I x]) (i:=17) hs rfl aq .none h2 rfl rfl ae ai (bE (l:=s.sp.wa) (i:=(k+1)) ak) cJ ?_;intro b129 o129 hc129;replace hc129:=bI.one hc129
     refine .r (i:=18) hs rfl aq .none (aO rfl af hc129) ?_
     refine .z 19 rfl (zfa aS) ?_;refine .y 20 rfl hs an ?_;refine .z 21 rfl zm ?_
     refine .ixX (enc:=fun x=>[I x]) (i:=22) hs rfl aq .none h2 rfl rfl ae ai (bE (l:=s.sp.wa) (i:=k) ak) cJ ?_;intro b134 o134 hc134;replace hc134:=bI.one hc134
     refine .r (i:=23) hs rfl aq .none (aO rfl af hc134) ?_
     refine .z 24 rfl gO ?_;refine .z 26 rfl (zfa cQ) ?_;refine .y 27 rfl hs af ?_
     refine .E 4 hs ?_
     refine .call fL rfl (cP (s:=s.sp) hs h2 ak ⟨ak,ak⟩ ⟨ak,ak⟩) ?_;rintro _ w ⟨rfl,hs⟩
     rw [wk]
     refine .go ?_
     refine .E 9 hs ?_
     refine .call fL rfl (cP (s:=s.sp) hs h2 ak ⟨ak,ak⟩ ⟨ak,ak⟩) ?_;rintro _ w ⟨rfl,hs⟩
     rw [FI]
     refine .go ?_
     refine .E 25 hs ?_
     refine .call Tryz.call193 rfl (lX hs ak ak) ?_;rintro _ w ⟨rfl,hs⟩
     refine .go ?_
     refine .E 28 hs ?_
     refine .call Tryz.call119 rfl (jm hs) ?_;rintro _ w ⟨b140,rfl,hs⟩
     rw [show two (s.sp.u i k:Int) _ _ _ _=upL s.sp i k by unfold upL;rw [if_pos ak]] at hs
     refine .go ?_
     refine .E 29 hs ?_
     refine .append (ys:=gg (upL s.sp i k)) hs bM rfl rfl hO (.own .here bQ (by rw [cV];unfold upL;rw [if_pos ak];rfl)) (iz _) (fun l h=>by rw [cV] at h;simp only [List.length_append] at h;omega) ?_;intro v141 en141 w hO2 hs
     rw [←fj,List.append_assoc _ (ma _ _ _)] at hO2
     refine .go ?_
     refine .z 30 rfl zg ?_;refine .D hs ?_
     refine nB (nT ?_)
     refine .region (.z zm (.z cH (.z zg (.nil ?_))))
     refine nT ?_
     exact ⟨(k+1,v141),.cn rfl bQ a8,⟨by dsimp only;omega,_,hO2,hs.sb⟩,by dsimp only;omega⟩
    ·refine .exit ?_
     refine xT (xT (xB (nB (nT ?_))))
     refine .region (.z zm (.z cH (.z zg (.nil ?_))))
     refine nT ?_
     obtain rfl:k=s.sp.wa.length - 1:=by omega
     rw [List.append_assoc,←EJ i ak] at hO
     exact ⟨(i+1,_),.cn rfl bQ a8,⟨by dsimp only;omega,en,hO,hs⟩,by dsimp only;omega⟩
   ·refine .exit ?_
    refine xT (xT (xB (nT ?_)))
    refine .aj (.z (zfa aI) (.y hs (zld aU) ?_))
    obtain rfl:i=s.sp.st.length:=by omega
    refine .o (.call lg rfl (eL hs h3 ak) ?_);rintro v144 w ⟨H1,hle1,hT,hs⟩
    replace hT:RTd H1 v144 s.bD:=hT
    have htl:s.bD.length≤60:=by have:=db s.rs;unfold Srv.bD;omega
    have hmem:∀r∈s.rs,r.td∈s.bD:=fun r hr=>gJ.2 ⟨r,hr,rfl⟩
    have hlims:s.bU=eW (qW s.sp) s.sp.wa.length s.sp.st.length++eW (alL s.sp) s.sp.wa.length s.sp.st.length++eW (upL s.sp) s.sp.wa.length s.sp.st.length++wS s.sp s.bD.length++qD s.sp s.bD s.cs 0 s.cs.length++uP s.sp s.bD s.rs s.rs.length:=rfl
    generalize s.bD=ts at*
    obtain ⟨at_,ct,rfl⟩:=RTd.shape hT
    refine .z zg (.nil (.aj (.y hs (zls [_,_,_,_,_,_] aF aB) ?_)))
    refine .o (.call m7 rfl (dQ (s:=s.sp) hs (h1.mono hle1) (h2.mono hle1) ⟨ak,ak⟩) ?_);rintro _ w ⟨rfl,hs⟩
    refine .z zg (.nil (.seq (.aj (.z zg (.nil (.block ?_))))))
    refine .loop (fun p:Nat×Value=>⟨243,[],[(14,I (p.1:Int)),(4,p.2),(12,.slice at_ ts.length ct),(13,I (s.sp.many:Int)),(3,.pointer (some ⟨b3,0,none⟩)),(1,.pointer (some ⟨b1,0,none⟩))]⟩)
     (fun p w=>p.1≤ts.length∧∃en,cz 4 p.2 (gg (eW (qW s.sp) s.sp.wa.length s.sp.st.length++eW (alL s.sp) s.sp.wa.length s.sp.st.length++eW (upL s.sp) s.sp.wa.length s.sp.st.length++wS s.sp p.1)) en∧St H1 w (en:: .blk b3 [I s.sp.id,I s.sp.src,.slice ast s.sp.st.length cst,.slice awa s.sp.wa.length cwa,I s.sp.al,I s.sp.up]:: .blk b1 [I s.sp.id,I s.sp.src,.slice ast s.sp.st.length cst,.slice awa s.sp.wa.length cwa,I s.sp.al,I s.sp.up,.slice ar s.rs.length cr,.slice ac s.cs.length cc]::σ)) (fun p=>ts.length - p.1) (0,vo) a8
     ⟨by first|omega|exact Nat.zero_le _,en,by show cz 4 vo (gg (_++[])) en;rw [List.append_nil];exact hO,hs⟩ ?_
    clear hO hs
    rintro ⟨j,vo⟩ w ⟨hj,en,hO,hs⟩
    dsimp only at hj hO ⊢
    have hel:=jM s.sp j
    refine .seq (.aj (.z zm (.z zm (.z (cN aT) (.z fD (.nil ?_))))))
    refine (.bJ rfl (fun hc150=>?_) (fun hc150=>?_))
    ·refine .skip ?_
     refine nT ?_
     refine .seq (.block (.region (.z zm (.z zm (.z cH (.z zm (.z cH (.z (zfa cQ) (.y hs (zld af) ?_)))))))))
     refine .o (.call Tryz.call119 rfl (jm hs) ?_);rintro _ w ⟨b160,rfl,hs⟩
     refine .o (.append (ys:=gg (two 0 ((s.sp.many:Int)+1+(j:Int)) 1000 1000 s.sp.src)) hs bM rfl rfl hO (.own .here rfl rfl) (iz _) (fun l h=>by rw [cV] at h;simp only [List.length_append] at h;omega) ?_);intro v161 en161 w hO2 hs
     rw [←fj,List.append_assoc _ (wS _ _),show (s.sp.many:Int)+1+(j:Int)=((s.sp.many+1+j:Nat):Int) by omega] at hO2
     refine .z zg (.nil ?_)
     refine nB (nT ?_)
     refine .region (.z zm (.z cH (.z zg (.nil ?_))))
     refine nT ?_
     exact ⟨(j+1,v161),.cn rfl bQ a8,⟨by dsimp only;omega,_,hO2,hs.sb⟩,by dsimp only;omega⟩
    ·refine .exit ?_
     refine xT (xT (xB (nT ?_)))
     refine .seq (.aj (.z zg (.nil (.block ?_))))
     refine .loop (fun p:Nat×Value=>⟨243,[],[(15,I (p.1:Int)),(4,p.2),(12,.slice at_ ts.length ct),(13,I (s.sp.many:Int)),(3,.pointer (some ⟨b3,0,none⟩)),(1,.pointer (some ⟨b1,0,none⟩))]⟩)
      (fun p w=>p.1≤s.cs.length∧∃en,cz 4 p.2 (gg (eW (qW s.sp) s.sp.wa.length s.sp.st.length++eW (alL s.sp) s.sp.wa.length s.sp.st.length++eW (upL s.sp) s.sp.wa.length s.sp.st.length++wS s.sp ts.length++qD s.sp ts s.cs 0 p.1)) en∧St H1 w (en:: .blk b3 [I s.sp.id,I s.sp.src,.slice ast s.sp.st.length cst,.slice awa s.sp.wa.length cwa,I s.sp.al,I s.sp.up]:: .blk b1 [I s.sp.id,I s.sp.src,.slice ast s.sp.st.length cst,.slice awa s.sp.wa.length cwa,I s.sp.al,I s.sp.up,.slice ar s.rs.length cr,.slice ac s.cs.length cc]::σ)) (fun p=>s.cs.length - p.1) (0,vo) a8
      ⟨by first|omega|exact Nat.zero_le _,en,by show cz 4 vo (gg (_++[])) en;rw [List.append_nil,←show j=ts.length by omega];exact hO,hs⟩ ?_
     clear hO hs
     rintro ⟨i,vo⟩ w ⟨hi,en,hO,hs⟩
     dsimp only at hi hO ⊢
     have hel:=jM s.sp ts.length
     have hcl1:=jb s.sp ts s.cs 0 i
     have hcl2:i*(2*(ts.length - 0))≤20*(2*60):=Nat.mul_le_mul ak ak
     refine .seq (.aj (.z zm (.z (zfa bq) (.y hs (zld cB) (.z (cN aN) (.z fD (.nil ?_)))))))
     refine (.bJ rfl (fun hc166=>?_) (fun hc166=>?_))
     ·refine .skip ?_
      refine nT ?_
      refine .seq (.block (.aj (.z zg (.nil (.block ?_)))))
      refine .loop (fun p:Nat×Value=>⟨243,[],[(16,I (p.1:Int)),(4,p.2),(15,I (i:Int)),(12,.slice at_ ts.length ct),(13,I (s.sp.many:Int)),(3,.pointer (some ⟨b3,0,none⟩)),(1,.pointer (some ⟨b1,0,none⟩))]⟩)
       (fun p w=>p.1≤ts.length∧∃en,cz 4 p.2 (gg (eW (qW s.sp) s.sp.wa.length s.sp.st.length++eW (alL s.sp) s.sp.wa.length s.sp.st.length++eW (upL s.sp) s.sp.wa.length s.sp.st.length++wS s.sp ts.length++qD s.sp ts s.cs 0 i++kz s.sp ts (ym s.cs i) 0 p.1)) en∧St H1 w (en:: .blk b3 [I s.sp.id,I s.sp.src,.slice ast s.sp.st.length cst,.slice awa s.sp.wa.length cwa,I s.sp.al,I s.sp.up]:: .blk b1 [I s.sp.id,I s.sp.src,.slice ast s.sp.st.length cst,.slice awa s.sp.wa.length cwa,I s.sp.al,I s.sp.up,.slice ar s.rs.length cr,.slice ac s.cs.length cc]::σ)) (fun p=>ts.length - p.1) (0,vo) a8
       ⟨by first|omega|exact Nat.zero_le _,en,by show cz 4 vo (gg (_++[])) en;rw [List.append_nil];exact hO,hs⟩ ?_
      clear hO hs
      rintro ⟨j,vo⟩ w ⟨hj,en,hO,hs⟩
      dsimp only at hj hO ⊢
      have hl1:=lA s.sp ts (ym s.cs i) 0 j
      refine .seq (.aj (.z zm (.z zm (.z (cN aT) (.z fD (.nil ?_))))))
      refine (.bJ rfl (fun hc172=>?_) (fun hc172=>?_))
      ·refine .skip ?_
       refine nT ?_
       refine .seq (.block ?_)
       refine .draw mix rfl hs fun w hs=>?_
       refine .z 0 rfl zm ?_;refine .z 1 rfl (zfa bq) ?_;refine .y 2 rfl hs cB ?_;refine .z 3 rfl zm ?_
       obtain ⟨c,hx⟩:=nth (l:=s.cs) (k:=i) ak
       obtain ⟨t,ht⟩:=nth (l:=ts) (k:=j) ak
       obtain ⟨g1,g2,g3,g4,g5,g6⟩:=hcs c (List.mem_of_getElem? hx)
       have ec:=zc hx
       have et:=Eo ht
       refine .ixX (enc:=Cmp.c) (i:=4) hs rfl aq .none (h4.mono hle1) rfl rfl aN bB hx cJ ?_;intro b179 o179 hc179
       refine .r (i:=5) hs rfl aq .none (cj (vs:=c.c) rfl kq bB hc179) ?_
       refine .z 6 rfl zm ?_;refine .z 7 rfl zm ?_
       refine .ixX (enc:=TD.c) (i:=8) hs rfl aq .none hT rfl rfl aT bn ht cJ ?_;intro b183 o183 hc183
       refine .r (i:=9) hs rfl aq .none (cj (vs:=t.c) rfl da bn hc183) ?_
       refine .z 10 rfl zm ?_;refine .z 11 rfl cH ?_;refine .z 12 rfl zm ?_;refine .z 13 rfl cH ?_
       refine .E 14 hs ?_
       refine .call Tryz.call194 rfl (nr (c:=c) (t:=t) hs ⟨ak,ak⟩) ?_;rintro v189 w ⟨en189,hO189,hs⟩
       obtain ⟨a189,l189,c189,rfl,h189⟩:=hO189.shape
       refine .go ?_
       refine .E 15 hs ?_
       refine .append (ys:=gg (kr c t ((s.sp.many:Int)+1+(j:Int)))) hs bM rfl rfl hO (Src.DB hO189 .here) (iz _) (fun l h=>by rw [cV] at h;simp only [List.length_append] at h;have:=pT c t ((s.sp.many:Int)+1+(j:Int));rw [cV] at h189;omega) ?_;intro v190 en190 w hO2 hs
       rw [←fj,List.append_assoc _ (kz _ _ _ _ _),show kz s.sp ts (ym s.cs i) 0 j++kr c t ((s.sp.many:Int)+1+(j:Int))=kz s.sp ts (ym s.cs i) 0 (j+1) by
        show _=_++kr (ym s.cs i) (td0 ts (0+j)) ((s.sp.many+1+(0+j):Nat):Int)
        rw [Nat.zero_add,ec,et,show ((s.sp.many+1+j:Nat):Int)=(s.sp.many:Int)+1+(j:Int) by omega]] at hO2
       refine .go ?_
       refine .z 16 rfl zg ?_;refine .D hs ?_
       refine nB (nT ?_)
       refine .region (.z zm (.z cH (.z zg (.nil ?_))))
       refine nT ?_
       exact ⟨(j+1,v190),.cn rfl bQ a8,⟨by dsimp only;omega,_,hO2,hs.sb⟩,by dsimp only;omega⟩
      ·refine .exit ?_
       refine xT (xT (xB (nB (nT ?_))))
       refine .region (.z zm (.z cH (.z zg (.nil ?_))))
       refine nT ?_
       obtain rfl:j=ts.length:=by omega
       rw [List.append_assoc _ (qD _ _ _ _ _)] at hO
       exact ⟨(i+1,_),.cn rfl bQ a8,⟨by dsimp only;omega,en,hO,hs⟩,by dsimp only;omega⟩
     ·refine .exit ?_
      refine xT (xT (xB (nT ?_)))
      refine .seq (.aj (.z zg (.nil (.block ?_))))
      refine .loop (fun p:Nat×Value=>⟨243,[],[(17,I (p.1:Int)),(4,p.2),(12,.slice at_ ts.length ct),(13,I (s.sp.many:Int)),(3,.pointer (some ⟨b3,0,none⟩)),(1,.pointer (some ⟨b1,0,none⟩))]⟩)
       (fun p w=>p.1≤s.rs.length∧∃en,cz 4 p.2 (gg (eW (qW s.sp) s.sp.wa.length s.sp.st.length++eW (alL s.sp) s.sp.wa.length s.sp.st.length++eW (upL s.sp) s.sp.wa.length s.sp.st.length++wS s.sp ts.length++qD s.sp ts s.cs 0 s.cs.length++uP s.sp ts s.rs p.1)) en∧St H1 w (en:: .blk b3 [I s.sp.id,I s.sp.src,.slice ast s.sp.st.length cst,.slice awa s.sp.wa.length cwa,I s.sp.al,I s.sp.up]:: .blk b1 [I s.sp.id,I s.sp.src,.slice ast s.sp.st.length cst,.slice awa s.sp.wa.length cwa,I s.sp.al,I s.sp.up,.slice ar s.rs.length cr,.slice ac s.cs.length cc]::σ)) (fun p=>s.rs.length - p.1) (0,vo) a8
       ⟨by first|omega|exact Nat.zero_le _,en,by show cz 4 vo (gg (_++[])) en;rw [List.append_nil,←show i=s.cs.length by omega];exact hO,hs⟩ ?_
      clear hO hs
      rintro ⟨q,vo⟩ w ⟨hq,en,hO,hs⟩
      dsimp only at hq hO ⊢
      have hrl1:=jJ s.sp ts s.rs q
      have hcl3:=jb s.sp ts s.cs 0 s.cs.length
      have hcl4:s.cs.length*(2*(ts.length - 0))≤20*(2*60):=Nat.mul_le_mul ak ak
      refine .seq (.aj (.z zm (.z (zfa aI) (.y hs (zld aU) (.z (cN aA) (.z fD (.nil ?_)))))))
      refine (.bJ rfl (fun hc195=>?_) (fun hc195=>?_))
      ·refine .skip ?_
       refine nT ?_
       refine .seq (.block (.aj (.z (zfa aI) (.y hs (zld aU) (.z zm ?_)))))
       obtain ⟨r,hx⟩:=nth (l:=s.rs) (k:=q) ak
       obtain ⟨g1,g2,g3,g4,g5,g6,g7⟩:=hrs r (List.mem_of_getElem? hx)
       obtain ⟨m,k1,k2,k3⟩:=eY (hmem r (List.mem_of_getElem? hx))
       refine .ixX (enc:=Rdg.c) hs (h3.mono hle1) rfl rfl aA aE hx cJ ?_;intro b201 o201 hc201
       refine .q hs (cj (vs:=(Rdg.c r)) rfl bZ aE hc201) ?_
       refine .o (.alloc hs eE rfl fun b18 w hs=>?_)
       refine .o (.aZ (vs:=r.c) hs rfl rfl aE fun w hs=>?_)
       change St _ _ (.blk b18 [I r.src,I r.st,I r.wa,I r.val,I r.tol,I r.tape,I r.day]::_) at hs
       refine .nil (.aj (.y hs (zls [_,_,_,_,_,_] aF aB) (.z (zfa eO) (.y hs (zld af) (.z (zfa eN) (.y hs (zld af) ?_))))))
       refine .o (.call fL rfl (cP (s:=s.sp) hs (h2.mono hle1) ak ⟨ak,ak⟩ ⟨ak,ak⟩) ?_);rintro _ w ⟨rfl,hs⟩
       refine .z zg (.nil (.aj (.z zm (.z cH (.z zm (.z (zfa ez) (.y hs (zld af) (.z (zfa ew) (.y hs (zld af) ?_)))))))))
       refine .z (zbd [_,_] fG) ?_
       refine .o (.call xt rfl (gL (t:=r.td) hs hT ak) ?_);rintro _ w ⟨rfl,hs⟩
       refine .z cH (.z zg (.nil (.region (.z zm (.z zm (.z zm (.z (zfa de) (.y hs (zld af) (.z (zfa cf) ?_)))))))))
       refine .y hs (zld af) (.z cH (.z (zfa dU) (.y hs (zld af) (.z (zbd [_,_,_,_] eX) (.z zm (.z zm (.z (zfa cf) (.y hs (zld af) (.z (zfa de) ?_)))))))))
       refine .y hs (zld af) (.z gO (.z (zfa dU) (.y hs (zld af) (.z (zbd [_,_,_,_] eX) ?_))))
       refine .o (.buildSlice (cells:=gg (rD s.sp ts r)) hs fU rfl aq fun b240 w hs=>?_)
       refine .o (.append (ys:=gg (rD s.sp ts r)) hs bM rfl rfl hO (.own .here rfl rfl) (iz _) (fun l h=>by rw [cV] at h;simp only [List.length_append] at h;omega) ?_);intro v241 en241 w hO2 hs
       rw [←fj,List.append_assoc _ (uP _ _ _ _),show uP s.sp ts s.rs q++rD s.sp ts r=uP s.sp ts s.rs (q+1) by rw [←BA hx];rfl] at hO2
       refine .z zg (.nil ?_)
       refine nB (nT ?_)
       refine .region (.z zm (.z cH (.z zg (.nil ?_))))
       refine nT ?_
       exact ⟨(q+1,v241),.cn rfl bQ a8,⟨by dsimp only;omega,_,hO2,hs.sb⟩,by dsimp only;omega⟩
      ·refine .exit ?_
       refine xT (xT (xB (nT ?_)))
       refine .aj (.z zm (.z zg (.nil ?_)))
       refine .ret (Fin.bK Tryz.results111 rfl ?_)
       obtain rfl:q=s.rs.length:=by omega
       exact ⟨H1,en,hle1,by rw [hlims];exact hO,hs.sb⟩
theorem mC{s:Srv}{vst vwa vr vc:Value}(hs:St H w σ)(h1:RI H vst s.sp.st)(h2:RI H vwa s.sp.wa)(h3:RRd H vr s.rs)(h4:RCm H vc s.cs)(he:s.early):
  Cl Tryz.prog 95 [.agg #[I s.sp.id,I s.sp.src,vst,vwa,I s.sp.al,I s.sp.up,vr,vc]] w fun u w'=>∃H1 vl en,HLe H H1∧u= .agg #[I s.sys.many,vl]∧cz 4 vl (gg s.bU) en∧St H1 w' (en::σ):=by
 have hsm:=dK he.1
 have hrl:=he.2.1
 have htl:s.bD.length≤60:=by have:=db s.rs;unfold Srv.bD;omega
 refine Cl.o Tryz.func95 Tryz.ntmps95 ag1 ?_
 refine .aj ?_
 refine .bx hs fun b1 w hs=>?_
 refine .o (.alloc hs dd rfl fun b2 w hs=>?_)
 refine .nil ?_
 refine .seq (.draw mix rfl hs fun w hs=>?_)
 refine .z 0 rfl (zfa aJ) ?_;refine .ys 1 rfl hs [_,_,_,_,_,_] aF aB ?_;refine .z 3 rfl (zfa aI) ?_;refine .y 4 rfl hs aU ?_;refine .ys 8 rfl hs [_,_,_,_,_,_,_,_] aD az ?_
 refine .E 2 hs ?_
 refine .call m7 rfl (dQ (s:=s.sp) hs h1 h2 ⟨ak,ak⟩) ?_;rintro _ w ⟨rfl,hs⟩
 refine .go ?_
 refine .E 5 hs ?_
 refine .call lg rfl (eL hs h3 ak) ?_;rintro v8 w ⟨H1,hle1,hT,hs⟩
 replace hT:RTd H1 v8 s.bD:=hT
 obtain ⟨at_,ct,rfl⟩:=RTd.shape hT
 refine .go ?_
 refine .z 6 rfl (cN aT) ?_;refine .z 7 rfl cH ?_
 refine .E 9 hs ?_
 refine .call Tryz.call111 rfl (kb (s:=s) hs (h1.mono hle1) (h2.mono hle1) (h3.mono hle1) (h4.mono hle1) he) ?_;rintro v12 w ⟨H2,en,hle2,hO,hs⟩
 obtain ⟨al,ll,cl,rfl,hll⟩:=hO.shape
 refine .go ?_
 refine .z 10 rfl (zbd [_,_] iQ) ?_
 refine .E 11 hs ?_
 refine .aZ (vs:=[_,_]) hs rfl rfl aM ?_;intro w hs
 refine .go ?_
 refine .D hs ?_
 refine .ret ?_
 replace hs:St H2 w (.blk b2 [I ((s.sp.many:Int)+(s.bD.length:Int)),.slice al ll cl]::en::σ):=hs.sb
 exact Fin.gR [] [] hs fun w hs=>⟨_,results1 Tryz.results95 (dv (vs:=[_,_]) hs rfl bp aM),H2,_,en,hle1.trans hle2,by show _=Value.agg #[I ((s.sp.many+s.bD.length:Nat):Int),_];rw [Int.natCast_add],hO,hs.tail⟩
theorem lW{s:Srv}{vst vwa vr vc:Value}(hs:St H w σ)(h1:RI H vst s.sp.st)(h2:RI H vwa s.sp.wa)(h3:RRd H vr s.rs)(h4:RCm H vc s.cs)(he:s.early):
  Cl Tryz.prog 95 [.agg #[I s.sp.id,I s.sp.src,vst,vwa,I s.sp.al,I s.sp.up,vr,vc]] w fun u w'=>∃H1,HLe H H1∧RSy H1 u s.sys∧St H1 w' σ:=by
 refine (mC hs h1 h2 h3 h4 he).mono ?_
 rintro u w' ⟨H1,vl,en,hle,rfl,hO,hs⟩
 have hl:=jU he 6 ak
 rw [s.ug] at hl
 obtain ⟨H2,hle2,hR,hs⟩:=cz.cO (m:=4) (cs:=s.bU.map Lim.c) hO (fun c hc=>by simp only [List.mem_map] at hc;obtain ⟨x,_,rfl⟩:=hc;rfl) ak (by rw [List.length_map];omega) hs .here
 exact ⟨H2,hle.trans hle2,⟨vl,rfl,hR⟩,hs⟩
set_option maxHeartbeats 1000000 in
theorem eM{s:Srv}{vst vwa vr vc:Value}(hs:St H w σ)(h1:RI H vst s.sp.st)(h2:RI H vwa s.sp.wa)(h3:RRd H vr s.rs)(h4:RCm H vc s.cs):
  Cl Tryz.prog 43 [.agg #[I s.sp.id,I s.sp.src,vst,vwa,I s.sp.al,I s.sp.up,vr,vc]] w fun u w'=>∃H1 e,HLe H H1∧u=I e∧tl s e∧St H1 w' σ:=by
 obtain ⟨ast,cst,rfl⟩:=RI.shape h1
 obtain ⟨awa,cwa,rfl⟩:=RI.shape h2
 obtain ⟨ar,cr,rfl⟩:=RRd.shape h3
 obtain ⟨ac,cc,rfl⟩:=RCm.shape h4
 refine Cl.o Tryz.func43 Tryz.ntmps43 ag1 ?_
 refine .aj ?_
 refine .bx hs fun b1 w hs=>?_
 refine .z zg (.nil (.seq (.aj (.z (zfa aJ) (.y hs (zls [_,_,_,_,_,_] aF aB) ?_)))))
 refine .o (.call Tryz.call24 rfl (fP (s:=s.sp) hs h1 h2) ?_);rintro _ w ⟨e,rfl,he,hs⟩
 refine .z gP (.nil ?_)
 refine (.eI rfl (fun hc8=>?_) (fun hc8=>?_))
 ·refine .aj (.z zg (.nil ?_))
  refine .ret (rT (Fin.bK k9 rfl ?_))
  have hq:¬eT s.sp∧e=30:=he.resolve_left fun h=>hc8 h.2
  exact ⟨H,_,HLe.refl H,rfl,.space hq.1,hs.out⟩
 ·refine .skip ?_
  refine nT ?_
  refine .seq (.aj (.z (zfa aI) ?_))
  have hok:eT s.sp:=(he.resolve_right fun h=>by omega).1
  refine .y hs (zld aU) (.z (cN aA) (.z kD (.z zm ?_)))
  refine .iB (t':=13) rfl (fun hb13=>?_) (fun hb13=>?_)
  ·refine .gFs 4 4 false rfl rfl rfl ?_
   refine .z zpT (.nil ?_)
   refine (.cT ?_)
   refine .aj (.z zg (.nil ?_))
   refine .ret (rT (Fin.bK k9 rfl ?_))
   exact ⟨H,_,HLe.refl H,rfl,.long hok ak,hs.out⟩
  ·refine .gT rfl rfl ?_
   refine .z (zfa bq) ?_
   refine .gT rfl rfl ?_
   refine .y hs (zld cB) ?_
   refine .gT rfl rfl ?_
   refine .z (cN aN) ?_
   refine .gT rfl rfl ?_
   refine .z kD (.z zpF (.nil ?_))
   refine (.bJ rfl (fun hc18=>?_) (fun hc18=>?_))
   ·refine .aj (.z zg (.nil ?_))
    refine .ret (rT (Fin.bK k9 rfl ?_))
    exact ⟨H,_,HLe.refl H,rfl,.long hok ak,hs.out⟩
   ·refine .skip ?_
    refine nT ?_
    refine .seq (.aj (.z zg (.nil (.block ?_))))
    refine .loop (fun k:Nat=>⟨64,[],[(3,I (k:Int)),(1,.pointer (some ⟨b1,0,none⟩))]⟩)
     (fun k w=>k≤s.rs.length∧(∀j<k,∀y,s.rs[j]? =some y→iM s.sp y)∧St H w (.blk b1 [I s.sp.id,I s.sp.src,.slice ast s.sp.st.length cst,.slice awa s.sp.wa.length cwa,I s.sp.al,I s.sp.up,.slice ar s.rs.length cr,.slice ac s.cs.length cc]::σ)) (fun k=>s.rs.length - k) 0 a8
     ⟨Nat.zero_le _,fun j hj=>by omega,hs⟩ ?_
    rintro k w ⟨hk,hno,hs⟩
    refine .seq (.aj (.z zm (.z (zfa aI) (.y hs (zld aU) (.z (cN aA) (.z fD (.nil ?_)))))))
    refine (.bJ rfl (fun hc23=>?_) (fun hc23=>?_))
    ·refine .skip ?_
     refine nT ?_
     refine .seq (.block ?_)
     refine .seq (.draw mix rfl hs fun w hs=>?_)
     refine .z 0 rfl (zfa aJ) ?_;refine .ys 1 rfl hs [_,_,_,_,_,_] aF aB ?_;refine .z 2 rfl (zfa aI) ?_;refine .y 3 rfl hs aU ?_;refine .z 4 rfl zm ?_
     obtain ⟨r,hx⟩:=nth (l:=s.rs) (k:=k) ak
     refine .ixX (enc:=Rdg.c) (i:=5) hs rfl aq .none h3 rfl rfl aA aE hx cJ ?_;intro b31 o31 hc31
     refine .r (i:=6) hs rfl aq .none (cj (vs:=r.c) rfl bZ aE hc31) ?_
     refine .E 7 hs ?_
     refine .call Tryz.call109 rfl (fm (s:=s.sp) (r:=r) hs h1 h2) ?_;rintro _ w ⟨b33,rfl,hb33,hs⟩
     refine .go ?_
     refine .z 8 rfl iD ?_;refine .D hs ?_
     refine (.cond rfl (fun hc34=>?_) (fun hc34=>?_))
     ·refine .aj (.z zg (.nil ?_))
      refine .ret (rB (rT (rT (rB (rT (Fin.bK k9 rfl ?_))))))
      exact ⟨H,_,HLe.refl H,rfl,.rdg hok ak (fun h=>by rw [hb33.2 (h r (List.mem_of_getElem? hx))] at hc34;cases hc34),hs.out⟩
     ·refine .skip ?_
      refine nB (nT ?_)
      refine .region (.z zm (.z cH (.z zg (.nil ?_))))
      refine nT ?_
      exact ⟨k+1,.cn rfl bQ a8,⟨ak,fl hno hx (hb33.1 (by simpa using hc34)),hs⟩,ak⟩
    ·refine .exit ?_
     refine xT (xT (xB (nT ?_)))
     refine .seq (.aj (.z zg (.nil (.block ?_))))
     have hrs:∀r∈s.rs,iM s.sp r:=fun r hr=>by
      obtain ⟨j,hj⟩:=List.getElem?_of_mem hr
      have:=(List.getElem?_eq_some_iff.1 hj).1
      exact hno j ak r hj
     clear hno
     refine .loop (fun k:Nat=>⟨64,[],[(4,I (k:Int)),(1,.pointer (some ⟨b1,0,none⟩))]⟩)
      (fun k w=>k≤s.cs.length∧(∀j<k,∀y,s.cs[j]? =some y→oJ y)∧St H w (.blk b1 [I s.sp.id,I s.sp.src,.slice ast s.sp.st.length cst,.slice awa s.sp.wa.length cwa,I s.sp.al,I s.sp.up,.slice ar s.rs.length cr,.slice ac s.cs.length cc]::σ)) (fun k=>s.cs.length - k) 0 a8
      ⟨Nat.zero_le _,fun j hj=>by omega,hs⟩ ?_
     rintro i w ⟨hi,hno,hs⟩
     refine .seq (.aj (.z zm (.z (zfa bq) (.y hs (zld cB) (.z (cN aN) (.z fD (.nil ?_)))))))
     refine (.bJ rfl (fun hc39=>?_) (fun hc39=>?_))
     ·refine .skip ?_
      refine nT ?_
      refine .seq (.block (.aj (.z (zfa bq) (.y hs (zld cB) (.z zm ?_)))))
      obtain ⟨c,hx⟩:=nth (l:=s.cs) (k:=i) ak
      refine .ixX (enc:=Cmp.c) hs h4 rfl rfl aN bB hx cJ ?_;intro b45 o45 hc45
      refine .q hs (cj (vs:=(Cmp.c c)) rfl kq bB hc45) ?_
      refine .o (.call Tryz.call110 rfl (mm (c:=c) hs) ?_);rintro _ w ⟨b47,rfl,hb47,hs⟩
      refine .z iD (.nil ?_)
      refine (.cond rfl (fun hc48=>?_) (fun hc48=>?_))
      ·refine .aj (.z zg (.nil ?_))
       refine .ret (rB (rT (rT (rB (rT (Fin.bK k9 rfl ?_))))))
       exact ⟨H,_,HLe.refl H,rfl,.cmp hok ak hrs (fun h=>by rw [hb47.2 (h c (List.mem_of_getElem? hx))] at hc48;cases hc48),hs.out⟩
      ·refine .skip ?_
       refine nB (nT ?_)
       refine .region (.z zm (.z cH (.z zg (.nil ?_))))
       refine nT ?_
       exact ⟨i+1,.cn rfl bQ a8,⟨ak,fl hno hx (hb47.1 (by simpa using hc48)),hs⟩,ak⟩
     ·refine .exit ?_
      refine xT (xT (xB (nT ?_)))
      refine .seq ?_
      refine .seq (.draw mix rfl hs fun w hs=>?_)
      refine .z 0 rfl (zfa aJ) ?_;refine .ys 1 rfl hs [_,_,_,_,_,_] aF aB ?_;refine .z 3 rfl (zfa aI) ?_;refine .y 4 rfl hs aU ?_
      refine .E 2 hs ?_
      have hcs:∀c∈s.cs,oJ c:=fun c hc=>by
       obtain ⟨j,hj⟩:=List.getElem?_of_mem hc
       have:=(List.getElem?_eq_some_iff.1 hj).1
       exact hno j ak c hj
      have hea:s.early:=⟨hok,ak,ak,hrs,hcs⟩
      have hsm:=dK hok
      have hrl:=hea.2.1
      have htl:s.bD.length≤60:=by have:=db s.rs;unfold Srv.bD;omega
      have hll:=jU hea 6 ak
      rw [s.ug] at hll
      refine .call m7 rfl (dQ (s:=s.sp) hs h1 h2 ⟨ak,ak⟩) ?_;rintro _ w ⟨rfl,hs⟩
      refine .go ?_
      refine .E 5 hs ?_
      refine .call lg rfl (eL hs h3 ak) ?_;rintro v54 w ⟨H1,hle1,hT,hs⟩
      replace hT:RTd H1 v54 s.bD:=hT
      obtain ⟨at_,ct,rfl⟩:=RTd.shape hT
      refine .go ?_
      refine .z 6 rfl (cN aT) ?_;refine .z 7 rfl cH ?_;refine .z 8 rfl kD ?_;refine .z 9 rfl zm ?_
      refine .iB (t':=58) rfl (fun hb58=>?_) (fun hb58=>?_)
      ·refine .qF (i:=10) rfl aq rfl rfl ?_
       refine .qF (i:=11) rfl aq rfl rfl ?_
       refine .qF (i:=12) rfl aq rfl rfl ?_
       refine .qF (i:=13) rfl aq rfl rfl ?_
       refine .z 14 rfl zpT ?_;refine .D hs ?_
       refine (.cT ?_)
       refine .aj (.z zg (.nil ?_))
       refine .ret (rT (Fin.bK k9 rfl ?_))
       exact ⟨H1,_,hle1,rfl,.big hea ak,hs.out⟩
      ·refine .ys 10 rfl hs [_,_,_,_,_,_,_,_] aD az ?_
       refine .E 11 hs ?_
       refine .call Tryz.call111 rfl (kb (s:=s) hs (h1.mono hle1) (h2.mono hle1) (h3.mono hle1) (h4.mono hle1) hea) ?_;rintro v60 w ⟨H2,en,hle2,hO,hs⟩
       obtain ⟨al,ll,cl,rfl,hl60⟩:=hO.shape
       rw [cV] at hl60
       refine .go ?_
       refine .z 12 rfl (cN aH) ?_;refine .z 13 rfl kD ?_;refine .z 14 rfl zpF ?_;refine .D hs ?_
       refine (.bJ rfl (fun hc63=>?_) (fun hc63=>?_))
       ·refine .aj (.z zg (.nil ?_))
        refine .ret (rT (Fin.bK k9 rfl ?_))
        exact ⟨H2,_,hle1.trans hle2,rfl,.big hea ak,hs.out⟩
       ·refine .skip ?_
        refine nT ?_
        refine .aj (.z zg (.nil ?_))
        refine .ret (Fin.bK k9 rfl ?_)
        exact ⟨H2,_,hle1.trans hle2,rfl,.ok hea ⟨ak,ak⟩,hs.out⟩
theorem jC{s:Spc}{q:Wht}{vst vwa:Value}(hs:St H w σ)(h2:RI H vwa s.wa):
  Cl Tryz.prog 238 [.agg #[I q.kind,I q.st,I q.wa,I s.id,I s.src,vst,vwa,I s.al,I s.up]] w fun v w'=>v= .bool (decide (0≤q.wa∧q.wa≤(s.wa.length:Int) - 1))∧St H w' σ:=by
 obtain ⟨awa,cwa,rfl⟩:=RI.shape h2
 have l2:=(RI.len h2).2.2
 refine Cl.o Tryz.func238 Tryz.ntmps238 ag1 ?_
 refine .aj ?_
 refine .bx hs fun b1 w hs=>?_
 refine .z zg (.nil (.aj (.z (zfa dk) (.z (zfa dy) (.y hs (zld af) (.z (zfa fB) (.z (zfa aS) (.y hs (zld an) (.z (cN ae) ?_)))))))))
 refine .z gO ?_
 refine .o (.call dF rfl (bG hs) ?_);rintro _ w ⟨rfl,hs⟩
 refine .z zg (.nil ?_)
 refine .ret (Fin.bK Tryz.results238 rfl ?_)
 exact ⟨rfl,hs.out⟩
theorem kI{s:Spc}{q:Wht}{vst vwa:Value}(hs:St H w σ)(h1:RI H vst s.st):
  Cl Tryz.prog 243 [.agg #[I q.kind,I q.st,I q.wa,I s.id,I s.src,vst,vwa,I s.al,I s.up]] w fun v w'=>v= .bool (decide (0≤q.st∧q.st≤(s.st.length:Int) - 1))∧St H w' σ:=by
 obtain ⟨ast,cst,rfl⟩:=RI.shape h1
 have l1:=(RI.len h1).2.2
 refine Cl.o Tryz.func243 Tryz.ntmps243 ag1 ?_
 refine .aj ?_
 refine .bx hs fun b1 w hs=>?_
 refine .z zg (.nil (.aj (.z (zfa dk) (.z (zfa eu) (.y hs (zld af) (.z (zfa fB) (.z (zfa bj) (.y hs (zld an) (.z (cN ae) ?_)))))))))
 refine .z gO ?_
 refine .o (.call dF rfl (bG hs) ?_);rintro _ w ⟨rfl,hs⟩
 refine .z zg (.nil ?_)
 refine .ret (Fin.bK Tryz.results243 rfl ?_)
 exact ⟨rfl,hs.out⟩
theorem na{s:Spc}{q:Wht}:gW s q↔(q.kind=1∧q.st=0∧s.isW q∧0<q.wa)∨(q.kind=2∧q.st=0∧s.isW q)∨(q.kind=3∧q.wa=0∧s.isS q)∨(q.kind=4∧s.isS q∧s.isW q):=by
 constructor
 ·intro h
  cases h with
  |litres a b c d=>exact .inl ⟨a,b,c,d⟩
  |plane a b c=>exact .inr (.inl ⟨a,b,c⟩)
  |section_ a b c=>exact .inr (.inr (.inl ⟨a,b,c⟩))
  |offset a b c=>exact .inr (.inr (.inr ⟨a,b,c⟩))
 ·rintro (⟨a,b,c,d⟩|⟨a,b,c⟩|⟨a,b,c⟩|⟨a,b,c⟩)
  ·exact .litres a b c d
  ·exact .plane a b c
  ·exact .section_ a b c
  ·exact .offset a b c
theorem xX{s:Spc}{q:Wht}{vst vwa:Value}(hs:St H w σ)(h2:RI H vwa s.wa)(hk:q.kind=1):
  Cl Tryz.prog 237 [.agg #[I q.kind,I q.st,I q.wa,I s.id,I s.src,vst,vwa,I s.al,I s.up]] w fun v w'=>∃b:Bool,v= .bool b∧(b=true↔gW s q)∧St H w' σ:=by
 have hi:=na (s:=s) (q:=q)
 simp only [Spc.isW,Spc.isS] at hi
 refine Cl.o Tryz.func237 Tryz.ntmps237 ag1 ?_
 refine .aj ?_
 refine .bx hs fun b1 w hs=>?_
 refine .z zg (.nil (.aj (.y hs (zls [_,_,_,_,_,_,_,_,_] qX kZ) ?_)))
 refine .o (.call Tryz.call238 rfl (jC hs h2) ?_);rintro _ w ⟨rfl,hs⟩
 refine .z zm ?_
 refine .bif (t':=5) rfl (fun hb5=>?_) (fun hb5=>?_)
 ·refine .gT rfl rfl ?_
  refine .z (zfa dk) ?_
  refine .gT rfl rfl ?_
  refine .z (zfa dy) ?_
  refine .gT rfl rfl ?_
  refine .y hs (zld af) ?_
  refine .gT rfl rfl ?_
  refine .z kD (.z zpT (.z zm ?_))
  refine .iB (t':=11) rfl (fun hb11=>?_) (fun hb11=>?_)
  ·refine .gT rfl rfl ?_
   refine .z (zfa dk) ?_
   refine .gT rfl rfl ?_
   refine .z (zfa eu) ?_
   refine .gT rfl rfl ?_
   refine .y hs (zld af) ?_
   refine .gT rfl rfl ?_
   refine .z fw (.z zpT (.z zg (.nil ?_)))
   refine .ret (Fin.bK Tryz.results237 rfl ?_)
   exact ⟨_,rfl,by rw [hi];simp_all<;>omega,hs.out⟩
  ·refine .gFs 4 8 true rfl rfl rfl ?_
   refine .z zpF (.z zg (.nil ?_))
   refine .ret (Fin.bK Tryz.results237 rfl ?_)
   exact ⟨_,rfl,by rw [hi];simp_all<;>omega,hs.out⟩
 ·refine .gFs 4 2 true rfl rfl rfl ?_
  refine .z zpF (.z zm ?_)
  refine .gFs 4 8 true rfl rfl rfl ?_
  refine .z zpF (.z zg (.nil ?_))
  refine .ret (Fin.bK Tryz.results237 rfl ?_)
  exact ⟨_,rfl,by rw [hi];simp_all<;>omega,hs.out⟩
theorem xW{s:Spc}{q:Wht}{vst vwa:Value}(hs:St H w σ)(h2:RI H vwa s.wa)(hk:q.kind=2):
  Cl Tryz.prog 240 [.agg #[I q.kind,I q.st,I q.wa,I s.id,I s.src,vst,vwa,I s.al,I s.up]] w fun v w'=>∃b:Bool,v= .bool b∧(b=true↔gW s q)∧St H w' σ:=by
 have hi:=na (s:=s) (q:=q)
 simp only [Spc.isW,Spc.isS] at hi
 refine Cl.o Tryz.func240 Tryz.ntmps240 ag1 ?_
 refine .aj ?_
 refine .bx hs fun b1 w hs=>?_
 refine .z zg (.nil (.aj (.y hs (zls [_,_,_,_,_,_,_,_,_] qX kZ) ?_)))
 refine .o (.call Tryz.call238 rfl (jC hs h2) ?_);rintro _ w ⟨rfl,hs⟩
 refine .z zm ?_
 refine .bif (t':=5) rfl (fun hb5=>?_) (fun hb5=>?_)
 ·refine .gT rfl rfl ?_
  refine .z (zfa dk) ?_
  refine .gT rfl rfl ?_
  refine .z (zfa eu) ?_
  refine .gT rfl rfl ?_
  refine .y hs (zld af) ?_
  refine .gT rfl rfl ?_
  refine .z fw (.z zpT (.z zg (.nil ?_)))
  refine .ret (Fin.bK Tryz.results240 rfl ?_)
  exact ⟨_,rfl,by rw [hi];simp_all<;>omega,hs.out⟩
 ·refine .gFs 4 2 true rfl rfl rfl ?_
  refine .z zpF (.z zg (.nil ?_))
  refine .ret (Fin.bK Tryz.results240 rfl ?_)
  exact ⟨_,rfl,by rw [hi];simp_all<;>omega,hs.out⟩
theorem xV{s:Spc}{q:Wht}{vst vwa:Value}(hs:St H w σ)(h1:RI H vst s.st)(hk:q.kind=3):
  Cl Tryz.prog 242 [.agg #[I q.kind,I q.st,I q.wa,I s.id,I s.src,vst,vwa,I s.al,I s.up]] w fun v w'=>∃b:Bool,v= .bool b∧(b=true↔gW s q)∧St H w' σ:=by
 have hi:=na (s:=s) (q:=q)
 simp only [Spc.isW,Spc.isS] at hi
 refine Cl.o Tryz.func242 Tryz.ntmps242 ag1 ?_
 refine .aj ?_
 refine .bx hs fun b1 w hs=>?_
 refine .z zg (.nil (.aj (.y hs (zls [_,_,_,_,_,_,_,_,_] qX kZ) ?_)))
 refine .o (.call Tryz.call243 rfl (kI hs h1) ?_);rintro _ w ⟨rfl,hs⟩
 refine .z zm ?_
 refine .bif (t':=5) rfl (fun hb5=>?_) (fun hb5=>?_)
 ·refine .gT rfl rfl ?_
  refine .z (zfa dk) ?_
  refine .gT rfl rfl ?_
  refine .z (zfa dy) ?_
  refine .gT rfl rfl ?_
  refine .y hs (zld af) ?_
  refine .gT rfl rfl ?_
  refine .z fw (.z zpT (.z zg (.nil ?_)))
  refine .ret (Fin.bK Tryz.results242 rfl ?_)
  exact ⟨_,rfl,by rw [hi];simp_all<;>omega,hs.out⟩
 ·refine .gFs 4 2 true rfl rfl rfl ?_
  refine .z zpF (.z zg (.nil ?_))
  refine .ret (Fin.bK Tryz.results242 rfl ?_)
  exact ⟨_,rfl,by rw [hi];simp_all<;>omega,hs.out⟩
theorem xU{s:Spc}{q:Wht}{vst vwa:Value}(hs:St H w σ)(h1:RI H vst s.st)(h2:RI H vwa s.wa)(hk:q.kind=4):
  Cl Tryz.prog 245 [.agg #[I q.kind,I q.st,I q.wa,I s.id,I s.src,vst,vwa,I s.al,I s.up]] w fun v w'=>∃b:Bool,v= .bool b∧(b=true↔gW s q)∧St H w' σ:=by
 have hi:=na (s:=s) (q:=q)
 simp only [Spc.isW,Spc.isS] at hi
 refine Cl.o Tryz.func245 Tryz.ntmps245 ag1 ?_
 refine .aj ?_
 refine .bx hs fun b1 w hs=>?_
 refine .z zg (.nil (.aj (.y hs (zls [_,_,_,_,_,_,_,_,_] qX kZ) ?_)))
 refine .o (.call Tryz.call243 rfl (kI hs h1) ?_);rintro _ w ⟨rfl,hs⟩
 refine .z zm ?_
 refine .bif (t':=5) rfl (fun hb5=>?_) (fun hb5=>?_)
 ·refine .gT rfl rfl ?_
  refine .y hs (zls [_,_,_,_,_,_,_,_,_] qX kZ) ?_
  refine .gT rfl rfl ?_
  refine .o (.call Tryz.call238 rfl (jC hs h2) ?_);rintro _ w ⟨rfl,hs⟩
  refine .z zpT (.z zg (.nil ?_))
  refine .ret (Fin.bK Tryz.results245 rfl ?_)
  exact ⟨_,rfl,by rw [hi];simp_all<;>omega,hs.out⟩
 ·refine .gFs 2 2 true rfl rfl rfl ?_
  refine .z zpF (.z zg (.nil ?_))
  refine .ret (Fin.bK Tryz.results245 rfl ?_)
  exact ⟨_,rfl,by rw [hi];simp_all<;>omega,hs.out⟩
theorem sy{s:Spc}{q:Wht}{vst vwa:Value}{i k:Nat}{u:Int}(hs:St H w σ)(h1:RI H vst s.st)(h2:RI H vwa s.wa)(hok:eT s)(hq:gW s q)(hk1:q.kind=1)(hi:i<s.st.length):
  Cl Tryz.prog 239 [.agg #[I q.kind,I q.st,I q.wa,I s.id,I s.src,vst,vwa,I s.al,I s.up],.agg #[I (i:Int),I (k:Int),I u]] w fun v w'=>∃H1,HLe H H1∧v=I (ka s q i k)∧St H1 w' σ:=by
 obtain ⟨ast,cst,rfl⟩:=RI.shape h1
 obtain ⟨awa,cwa,rfl⟩:=RI.shape h2
 have hn:=hok.wa.many
 have hcap:=(RI.len h2).2.1
 obtain ⟨_,hw1,hw2,hw3⟩:q.st=0∧0<q.wa∧0≤q.wa∧q.wa≤(s.wa.length:Int) - 1:=by
  rcases na.1 hq with h|h|h|h
  ·exact ⟨h.2.1,h.2.2.2,h.2.2.1.1,h.2.2.1.2⟩
  all_goals omega
 obtain ⟨m,hm⟩:∃m:Nat,q.wa=m:=⟨q.wa.toNat,ak⟩
 have hW:ka s q i k=if (k:Int)≤q.wa then gi (wts s.st) i*gi (wts (s.wa.take (q.wa.toNat+1))) k else 0:=by unfold ka;rw [if_pos hk1]
 have hmt:q.wa.toNat=m:=by omega
 rw [hmt] at hW
 refine Cl.o Tryz.func239 Tryz.ntmps239 ag2 ?_
 refine .aj ?_
 refine .bx hs fun b2 w hs=>?_
 refine .bx hs fun b3 w hs=>?_
 refine .z zg (.nil (.seq (.aj (.z (zfa dt) (.y hs (zld af) (.z (zfa dk) (.z (zfa dy) (.y hs (zld af) (.z kD ?_)))))))))
 refine .nil ?_
 refine (.bJ rfl (fun hc12=>?_) (fun hc12=>?_))
 ·refine .aj (.z zg (.nil ?_))
  refine .ret (rT (Fin.bK Tryz.results239 rfl ?_))
  exact ⟨H,HLe.refl H,by rw [hW,if_neg ak],hs.out⟩
 ·refine .skip ?_
  refine nT ?_
  refine .seq (.draw mix rfl hs fun w hs=>?_)
  refine .z 0 rfl (zfa fB) ?_;refine .z 1 rfl (zfa bj) ?_;refine .y 2 rfl hs an ?_;refine .z 3 rfl (zfa fB) ?_;refine .z 4 rfl (zfa aS) ?_;refine .y 5 rfl hs an ?_;refine .z 6 rfl (zfa dk) ?_;refine .z 7 rfl (zfa dy) ?_;refine .y 8 rfl hs af ?_;refine .z 9 rfl cH ?_
  refine .z 10 rfl (kM (k:=m+1) rfl rfl ae ai ak ak) ?_
  refine .E 11 hs ?_
  have hP:fa 7 15000 (s.wa.take (m+1)):=hok.wa.take ak ak
  refine .call Tryz.call104 rfl (nf hs h1 (h2.head (k:=m+1) ak)) ?_;rintro _ w ⟨H1,vo,e,hle1,rfl,hGx,-,hs⟩
  obtain ⟨rfl,hG⟩:=hGx ⟨hok.st,hP⟩
  have hgl:=jY (wts s.st) (wts (s.wa.take (m+1))) s.st.length
  have hyl:(wts (s.wa.take (m+1))).length=m+1:=by rw [eR,List.length_take];omega
  have hgr:=wM (X:=wts s.st) (Y:=wts (s.wa.take (m+1))) (n:=s.st.length) hi
  have hgt:=z7 (X:=wts s.st) (Y:=wts (s.wa.take (m+1))) (n:=s.st.length) (k:=k) hi ak
  have hrl:=jG (wts s.st) (wts (s.wa.take (m+1))) i
  rw [←hgr] at hrl
  generalize me (wts s.st) (wts (s.wa.take (m+1))) s.st.length=G at*
  obtain ⟨aG,cG,rfl⟩:=hG.shape
  refine .go ?_
  refine .z 12 rfl zm ?_;refine .z 13 rfl zex ?_;refine .z 14 rfl zex ?_;refine .z 15 rfl zg ?_;refine .z 16 rfl zg ?_;refine .D hs ?_
  refine .seq (.draw mix rfl hs fun w hs=>?_)
  refine .z 0 rfl zm ?_;refine .z 1 rfl (zfa dJ) ?_;refine .y 2 rfl hs af ?_
  refine .ixT (i:=3) hs rfl aq .none hG rfl rfl au aC (show i<_ by omega) cJ ?_;intro b31 o31 a31 c31 hc31 hR31
  refine .r (i:=4) hs rfl aq .none (aO rfl an hc31) ?_
  refine .z 5 rfl (zfa dt) ?_;refine .y 6 rfl hs af ?_
  refine .ixX (enc:=fun x=>[I x]) (i:=7) hs rfl aq .none hR31 rfl rfl ae ai (bE (l:=(gr G i)) (i:=k) ak) cJ ?_;intro b35 o35 hc35;replace hc35:=bI.one hc35
  refine .r (i:=8) hs rfl aq .none (aO rfl af hc35) ?_
  refine .z 9 rfl zg ?_;refine .D hs ?_
  refine .ret (Fin.bK Tryz.results239 rfl ?_)
  exact ⟨H1,hle1,by rw [hW,if_pos ak,←hgt];rfl,hs.out⟩
theorem tr{s:Spc}{q:Wht}{vst vwa:Value}{i k:Nat}{u:Int}(hs:St H w σ)(h1:RI H vst s.st)(hok:eT s)(hk1:q.kind=2)(hi:i<s.st.length):
  Cl Tryz.prog 241 [.agg #[I q.kind,I q.st,I q.wa,I s.id,I s.src,vst,vwa,I s.al,I s.up],.agg #[I (i:Int),I (k:Int),I u]] w fun v w'=>∃H1,HLe H H1∧v=I (ka s q i k)∧St H1 w' σ:=by
 have hW:ka s q i k=if (k:Int)=q.wa then gi (wts s.st) i else 0:=by unfold ka;rw [if_neg ak,if_pos hk1]
 have hl:=eR s.st
 refine Cl.o Tryz.func241 Tryz.ntmps241 ag2 ?_
 refine .aj ?_
 refine .bx hs fun b2 w hs=>?_
 refine .bx hs fun b3 w hs=>?_
 refine .z zg (.nil (.seq (.aj (.z (zfa dt) (.y hs (zld af) (.z (zfa dk) (.z (zfa dy) (.y hs (zld af) (.z gP ?_)))))))))
 refine .nil ?_
 refine (.eI rfl (fun hc12=>?_) (fun hc12=>?_))
 ·refine .aj (.z zg (.nil ?_))
  refine .ret (rT (Fin.bK Tryz.results241 rfl ?_))
  exact ⟨H,HLe.refl H,by rw [hW,if_neg ak],hs.out⟩
 ·refine .skip ?_
  refine nT ?_
  refine .aj (.z (zfa fB) (.z (zfa bj) (.y hs (zld an) ?_)))
  refine .o (.call Tryz.call273 rfl (lh hs h1) ?_);rintro _ w ⟨H1,vo,e,hle1,rfl,hGx,hs⟩
  obtain ⟨rfl,hG⟩:=hGx hok.st
  obtain ⟨aG,cG,rfl⟩:=RI.shape hG
  refine .z zm (.z zex (.z zex (.z zg (.z zg (.nil (.aj (.z zm (.z (zfa dJ) (.y hs (zld af) ?_)))))))))
  refine .ixY hs hG rfl rfl ae ai (bE (l:=(wts s.st)) (i:=i) ak) cJ ?_;intro b23 o23 hc23
  refine .q hs (aO rfl af hc23) ?_
  refine .z zg (.nil ?_)
  refine .ret (Fin.bK Tryz.results241 rfl ?_)
  exact ⟨H1,hle1,by rw [hW,if_pos ak],hs.out⟩
theorem q6{s:Spc}{q:Wht}{vst vwa:Value}{i k:Nat}{u:Int}(hs:St H w σ)(h2:RI H vwa s.wa)(hok:eT s)(hk1:q.kind=3)(hk:k<s.wa.length):
  Cl Tryz.prog 244 [.agg #[I q.kind,I q.st,I q.wa,I s.id,I s.src,vst,vwa,I s.al,I s.up],.agg #[I (i:Int),I (k:Int),I u]] w fun v w'=>∃H1,HLe H H1∧v=I (ka s q i k)∧St H1 w' σ:=by
 have hW:ka s q i k=if (i:Int)=q.st then gi (wts s.wa) k else 0:=by unfold ka;rw [if_neg ak,if_neg ak,if_pos hk1]
 have hl:=eR s.wa
 refine Cl.o Tryz.func244 Tryz.ntmps244 ag2 ?_
 refine .aj ?_
 refine .bx hs fun b2 w hs=>?_
 refine .bx hs fun b3 w hs=>?_
 refine .z zg (.nil (.seq (.aj (.z (zfa dJ) (.y hs (zld af) (.z (zfa dk) (.z (zfa eu) (.y hs (zld af) (.z gP ?_)))))))))
 refine .nil ?_
 refine (.eI rfl (fun hc12=>?_) (fun hc12=>?_))
 ·refine .aj (.z zg (.nil ?_))
  refine .ret (rT (Fin.bK Tryz.results244 rfl ?_))
  exact ⟨H,HLe.refl H,by rw [hW,if_neg ak],hs.out⟩
 ·refine .skip ?_
  refine nT ?_
  refine .aj (.z (zfa fB) (.z (zfa aS) (.y hs (zld an) ?_)))
  refine .o (.call Tryz.call273 rfl (lh hs h2) ?_);rintro _ w ⟨H1,vo,e,hle1,rfl,hGx,hs⟩
  obtain ⟨rfl,hG⟩:=hGx (yL hok)
  obtain ⟨aG,cG,rfl⟩:=RI.shape hG
  refine .z zm (.z zex (.z zex (.z zg (.z zg (.nil (.aj (.z zm (.z (zfa dt) (.y hs (zld af) ?_)))))))))
  refine .ixY hs hG rfl rfl ae ai (bE (l:=(wts s.wa)) (i:=k) ak) cJ ?_;intro b23 o23 hc23
  refine .q hs (aO rfl af hc23) ?_
  refine .z zg (.nil ?_)
  refine .ret (Fin.bK Tryz.results244 rfl ?_)
  exact ⟨H1,hle1,by rw [hW,if_pos ak],hs.out⟩
theorem sx{s:Spc}{q:Wht}{vst vwa:Value}{i k:Nat}{u:Int}(hs:St H w σ)(hk1:q.kind=4):
  Cl Tryz.prog 246 [.agg #[I q.kind,I q.st,I q.wa,I s.id,I s.src,vst,vwa,I s.al,I s.up],.agg #[I (i:Int),I (k:Int),I u]] w fun v w'=>∃H1,HLe H H1∧v=I (ka s q i k)∧St H1 w' σ:=by
 have hW:ka s q i k=if (i:Int)=q.st∧(k:Int)=q.wa then 1 else 0:=by unfold ka;rw [if_neg ak,if_neg ak,if_neg ak]
 refine Cl.o Tryz.func246 Tryz.ntmps246 ag2 ?_
 refine .aj ?_
 refine .bx hs fun b2 w hs=>?_
 refine .bx hs fun b3 w hs=>?_
 refine .z zg (.nil (.seq (.aj (.z (zfa dJ) (.y hs (zld af) (.z (zfa dk) (.z (zfa eu) (.y hs (zld af) (.z gP ?_)))))))))
 refine .z zm ?_
 refine .yq (t':=11) rfl (fun hb11=>?_) (fun hb11=>?_)
 ·refine .gFs 6 6 false rfl rfl rfl ?_
  refine .z zpT (.nil ?_)
  refine (.cT ?_)
  refine .aj (.z zg (.nil ?_))
  refine .ret (rT (Fin.bK Tryz.results246 rfl ?_))
  first
  |exact ⟨H,HLe.refl H,by rw [hW,if_neg ak],hs.out⟩
  |exact ⟨H,HLe.refl H,by rw [hW,if_pos ak],hs.out⟩
 ·refine .gT rfl rfl ?_
  refine .z (zfa dt) ?_
  refine .gT rfl rfl ?_
  refine .y hs (zld af) ?_
  refine .gT rfl rfl ?_
  refine .z (zfa dk) ?_
  refine .gT rfl rfl ?_
  refine .z (zfa dy) ?_
  refine .gT rfl rfl ?_
  refine .y hs (zld af) ?_
  refine .gT rfl rfl ?_
  refine .z gP (.z zpF (.nil ?_))
  refine (.eI rfl (fun hc18=>?_) (fun hc18=>?_))
  ·refine .aj (.z zg (.nil ?_))
   refine .ret (rT (Fin.bK Tryz.results246 rfl ?_))
   first
   |exact ⟨H,HLe.refl H,by rw [hW,if_neg ak],hs.out⟩
   |exact ⟨H,HLe.refl H,by rw [hW,if_pos ak],hs.out⟩
  ·refine .skip ?_
   refine nT ?_
   refine .aj (.z zg (.nil ?_))
   refine .ret (Fin.bK Tryz.results246 rfl ?_)
   first
   |exact ⟨H,HLe.refl H,by rw [hW,if_neg ak],hs.out⟩
   |exact ⟨H,HLe.refl H,by rw [hW,if_pos ak],hs.out⟩
def Az(k:Int):Nat:=if k=1 then 237 else if k=2 then 240 else if k=3 then 242 else 245
def Au(k:Int):Nat:=if k=1 then 239 else if k=2 then 241 else if k=3 then 244 else 246
def zU(k:Int):Value:= .agg #[.func (.func (Az k)) #[] #[],.func (.func (Au k)) #[] #[],I (oU ⟨k,0,0⟩)]
def Fw:List MapEntry:=[{key:=I 1,val:=zU 1,born:=0},{key:=I 2,val:=zU 2,born:=1},{key:=I 3,val:=zU 3,born:=2},{key:=I 4,val:=zU 4,born:=3}]
theorem lr(hs:St H w σ):
  Cl Tryz.prog 189 [] w fun v w'=>∃b,v= .map (some b)∧St H w' (.obj b (.map Fw.toArray 4)::σ):=by
 refine Cl.of Tryz.func189 rfl Tryz.ntmps189 bQ (w9) ?_
 refine .aj (.z zg (.nil (.aj ?_)))
 refine .o (.makeMap hs fun b1 w hs=>?_)
 refine .z (zbd [_,_,_] iX) ?_
 refine .o (.insert (es:=[]) hs rfl rfl rfl e9 aV rfl fun w hs=>?_)
 refine .z (zbd [_,_,_] iX) ?_
 refine .o (.insert (es:=[{key:=I 1,val:=zU 1,born:=0}]) hs rfl rfl rfl e9 aV rfl fun w hs=>?_)
 refine .z (zbd [_,_,_] iX) ?_
 refine .o (.insert (es:=[{key:=I 1,val:=zU 1,born:=0},{key:=I 2,val:=zU 2,born:=1}]) hs rfl rfl rfl e9 aV rfl fun w hs=>?_)
 refine .z (zbd [_,_,_] iX) ?_
 refine .o (.insert (es:=[{key:=I 1,val:=zU 1,born:=0},{key:=I 2,val:=zU 2,born:=1},{key:=I 3,val:=zU 3,born:=2}]) hs rfl rfl rfl e9 aV rfl fun w hs=>?_)
 refine .z zm (.z zg (.nil ?_))
 refine .ret (Fin.bK Tryz.results189 rfl ?_)
 exact ⟨b1,rfl,hs⟩
def lF1(k:Int):Value:=if 1≤k∧k≤4 then .func (.func (Az k)) #[] #[] else .nilFunc
def lF2(k:Int):Value:=if 1≤k∧k≤4 then .func (.func (Au k)) #[] #[] else .nilFunc
def lD(k:Int):Int:=if 1≤k∧k≤4 then oU ⟨k,0,0⟩ else 0
theorem zT(k:Int):[lF1 k,lF2 k,I (lD k)].all Value.oneCell'=true:=by
 unfold lF1 lF2;split<;>rfl
theorem BF{H:cE}{s:FS}{x y:Operand}{b:Nat}(k:Int)(hx:FS.ev s x=some (.map (some b)))(hy:FS.ev s y=some (I k)):
  QJ Tryz.prog H [.obj b (.map Fw.toArray 4)] s (.lookup 233 x y true) (.tuple #[.agg #[lF1 k,lF2 k,I (lD k)],.bool (decide (1≤k∧k≤4))]):=by
 by_cases h:1≤k∧k≤4
 ·rw [decide_eq_true h]
  have h4:k=1∨k=2∨k=3∨k=4:=by omega
  rcases h4 with rfl|rfl|rfl|rfl
  ·exact zK (v:=zU 1) (j:=0) hx hy e9 aV rfl .here
  ·exact zK (v:=zU 2) (j:=1) hx hy e9 aV rfl .here
  ·exact zK (v:=zU 3) (j:=2) hx hy e9 aV rfl .here
  ·exact zK (v:=zU 4) (j:=3) hx hy e9 aV rfl .here
 ·rw [decide_eq_false h]
  have e1:lF1 k= .nilFunc:=if_neg h
  have e2:lF2 k= .nilFunc:=if_neg h
  have e3:lD k=0:=if_neg h
  rw [e1,e2,e3]
  refine EV (es:=Fw) (c:=4) hx hy e9 aV G8 ?_ .here
  have n1:(k==1)=false:=by simp only [beq_eq_false_iff_ne];omega
  have n2:(k==2)=false:=by simp only [beq_eq_false_iff_ne];omega
  have n3:(k==3)=false:=by simp only [beq_eq_false_iff_ne];omega
  have n4:(k==4)=false:=by simp only [beq_eq_false_iff_ne];omega
  simp [Instr.findNow,Instr.sameNow,Fw,n1,n2,n3,n4]
theorem Dd(k:Int):∀args w,(callFunc (Az k) args).run Tryz.prog w= .ok (.enter (Az k) args) w:=by
 unfold Az
 split
 ·exact Tryz.call237
 ·split
  ·exact Tryz.call240
  ·split
   ·exact Tryz.call242
   ·exact Tryz.call245
theorem CW(k:Int):∀args w,(callFunc (Au k) args).run Tryz.prog w= .ok (.enter (Au k) args) w:=by
 unfold Au
 split
 ·exact Tryz.call239
 ·split
  ·exact Tryz.call241
  ·split
   ·exact Tryz.call244
   ·exact Tryz.call246
theorem Dc{s:Spc}{q:Wht}{vst vwa:Value}(hs:St H w σ)(h1:RI H vst s.st)(h2:RI H vwa s.wa)(hk:1≤q.kind∧q.kind≤4):
  Cl Tryz.prog (Az q.kind) [.agg #[I q.kind,I q.st,I q.wa,I s.id,I s.src,vst,vwa,I s.al,I s.up]] w fun v w'=>∃b:Bool,v= .bool b∧(b=true↔gW s q)∧St H w' σ:=by
 unfold Az
 split
 ·exact xX hs h2 cZ
 ·split
  ·exact xW hs h2 cZ
  ·split
   ·exact xV hs h1 cZ
   ·exact xU hs h1 h2 ak
theorem CV{s:Spc}{q:Wht}{vst vwa:Value}{i k:Nat}{u:Int}(hs:St H w σ)(h1:RI H vst s.st)(h2:RI H vwa s.wa)(hok:eT s)(hq:gW s q)(hk:1≤q.kind∧q.kind≤4)(hi:i<s.st.length)(hkw:k<s.wa.length):
  Cl Tryz.prog (Au q.kind) [.agg #[I q.kind,I q.st,I q.wa,I s.id,I s.src,vst,vwa,I s.al,I s.up],.agg #[I (i:Int),I (k:Int),I u]] w fun v w'=>∃H1,HLe H H1∧v=I (ka s q i k)∧St H1 w' σ:=by
 unfold Au
 split
 ·exact sy hs h1 h2 hok hq cZ hi
 ·split
  ·exact tr hs h1 hok cZ hi
  ·split
   ·exact q6 hs h2 hok cZ hkw
   ·exact sx hs ak
theorem Gg{q:Wht}(h:1≤q.kind∧q.kind≤4):lD q.kind=oU q:=by
 unfold lD;rw [if_pos h];rfl
theorem CT{s:Spc}{q:Wht}(h:gW s q):1≤q.kind∧q.kind≤4:=by
 rcases na.1 h with h|h|h|h<;>omega
set_option maxHeartbeats 1000000 in
theorem km{s:Spc}{q:Wht}{vst vwa:Value}(hs:St H w σ)(h1:RI H vst s.st)(h2:RI H vwa s.wa)(hok:eT s):
  Cl Tryz.prog 102 [.agg #[I s.id,I s.src,vst,vwa,I s.al,I s.up],.agg #[I q.kind,I q.st,I q.wa]] w fun u w'=>∃H1 vl L d b en,HLe H H1∧u= .tuple #[vl,I d,.bool b]∧cz 1 vl (Is L) en∧((b=true∧gW s q∧L=mQ s q∧d=oU q)∨(b=false∧¬gW s q∧L=[]∧d=0))∧St H1 w' (en::σ):=by
 have hsm:=dK hok
 obtain ⟨ast,cst,rfl⟩:=RI.shape h1
 obtain ⟨awa,cwa,rfl⟩:=RI.shape h2
 refine Cl.o Tryz.func102 Tryz.ntmps102 ag2 ?_
 refine .aj ?_
 refine .bx hs fun b2 w hs=>?_
 refine .bx hs fun b3 w hs=>?_
 refine .z zg (.z zg (.z zg (.nil ?_)))
 refine .cut (fun fs w=>∃b7,kB fs ⟨46,[],[(8,.bool (decide (1≤q.kind∧q.kind≤4))),(7,.pointer (some ⟨b7,0,none⟩)),(2,.pointer (some ⟨b2,0,none⟩)),(3,.pointer (some ⟨b3,0,none⟩))]⟩∧St H w (.blk b7 [lF1 q.kind,lF2 q.kind,I (lD q.kind)]:: .blk b3 [I q.kind,I q.st,I q.wa]:: .blk b2 [I s.id,I s.src,(.slice ast s.st.length cst),(.slice awa s.wa.length cwa),I s.al,I s.up]::σ)) ?_ ?_
 ·refine .draw mix rfl hs fun w hs=>?_
  refine .z 1 rfl (zfa ky) ?_;refine .y 2 rfl hs af ?_
  refine .e2 (i:=0) (j:=7) aq rfl rfl rfl rfl .none .none hs ?_ ?_
  ·refine .call Tryz.call189 rfl (lr hs) ?_;rintro _ w ⟨b13,rfl,hs⟩
   refine .go ?_
   refine .q (i:=3) [.obj b13 (.map Fw.toArray 4)] rfl aq .none (BF (H:= .bot) q.kind rfl rfl) ?_
   refine .z 4 rfl zm ?_;refine .z 5 rfl zex ?_;refine .z 6 rfl zex ?_
   refine .E 7 hs ?_
   refine .alloc hs G8 rfl ?_;intro b7 w hs
   refine .go ?_
   refine .E 8 hs ?_
   refine .aZ (vs:=[lF1 q.kind,lF2 q.kind,I (lD q.kind)]) hs rfl rfl Tryz.sizeOf231 ?_ (hv:=zT _);intro w hs
   refine .go ?_
   refine .z 9 rfl zg ?_;refine .D hs ?_
   exact nT ⟨b7,a8,hs.sb⟩
  ·refine .alloc hs G8 rfl ?_;intro b7 w hs
   refine .go ?_
   refine .E 0 hs ?_
   refine .call Tryz.call189 rfl (lr hs) ?_;rintro _ w ⟨b13,rfl,hs⟩
   refine .go ?_
   refine .q (i:=3) [.obj b13 (.map Fw.toArray 4)] rfl aq .none (BF (H:= .bot) q.kind rfl rfl) ?_
   refine .z 4 rfl zm ?_;refine .z 5 rfl zex ?_;refine .z 6 rfl zex ?_
   refine .E 8 hs ?_
   refine .aZ (vs:=[lF1 q.kind,lF2 q.kind,I (lD q.kind)]) hs rfl rfl Tryz.sizeOf231 ?_ (hv:=zT _);intro w hs
   refine .go ?_
   refine .z 9 rfl zg ?_;refine .D hs ?_
   exact nT ⟨b7,a8,hs.sb⟩
 ·rintro fs w ⟨b7,hfs,hs⟩
  refine WE.sub ?_ hfs
  refine .aj (.y hs (zls [_,_,_] dP bV) (.y hs (zls [_,_,_,_,_,_] aF aB) (.z (zbd (vs:=[(0,.agg #[I q.kind,I q.st,I q.wa]),(1,.agg #[I s.id,I s.src,(.slice ast s.st.length cst),(.slice awa s.wa.length cwa),I s.al,I s.up])]) [I q.kind,I q.st,I q.wa,I s.id,I s.src,(.slice ast s.st.length cst),(.slice awa s.wa.length cwa),I s.al,I s.up] sR rfl aq) ?_)))
  refine .o (.alloc hs Tryz.zeroValue236 rfl fun b9 w hs=>?_)
  refine .o (.aZ (vs:=[_,_,_,_,_,_,_,_,_]) hs rfl rfl kZ fun w hs=>?_)
  refine .nil (.seq (.aj (.z zm (.z iD (.z zm ?_)))))
  refine .bif (t':=24) rfl (fun hb24=>?_) (fun hb24=>?_)
  ·refine .gFs 5 2 false rfl rfl rfl ?_
   refine .z zpT (.nil ?_)
   refine (.cT ?_)
   refine .aj (.z zg (.z zg (.z zg (.nil ?_))))
   refine .ret (rT (?_))
   have hn:¬gW s q:=fun h=>by have:=CT h;simp [this] at hb24
   exact Fin.gR [] [] hs fun w hs=>⟨_,results3 Tryz.results102 rfl rfl rfl,H,_,[],_,_,.nul,HLe.refl H,rfl,.nil 1 none,.inr ⟨rfl,hn,rfl,rfl⟩,hs.out.nul⟩
  ·refine .gT rfl rfl ?_
   have hk:1≤q.kind∧q.kind≤4:=by simpa using hb24
   rw [show lF1 q.kind= .func (.func (Az q.kind)) #[] #[] from if_pos hk,show lF2 q.kind= .func (.func (Au q.kind)) #[] #[] from if_pos hk,Gg hk] at hs
   refine .z (zfa rU) ?_
   refine .gT rfl rfl ?_
   refine .y hs (zld Tryz.isAgg228) ?_
   refine .gT rfl rfl ?_
   refine .y hs (zls [_,_,_,_,_,_,_,_,_] qX kZ) ?_
   refine .gT rfl rfl ?_
   refine .o (.pH (first:=[]) (cap:=[]) rfl rfl (Dd q.kind) (Dc (s:=s) hs h1 h2 hk) ?_);rintro _ w ⟨b28,rfl,hb28,hs⟩
   refine .gT rfl rfl ?_
   refine .z iD (.z zpF (.nil ?_))
   refine (.cond rfl (fun hc30=>?_) (fun hc30=>?_))
   ·refine .aj (.z zg (.z zg (.z zg (.nil ?_))))
    refine .ret (rT (?_))
    have hn:¬gW s q:=fun h=>by rw [hb28.2 h] at hc30;cases hc30
    exact Fin.gR [] [] hs fun w hs=>⟨_,results3 Tryz.results102 rfl rfl rfl,H,_,[],_,_,.nul,HLe.refl H,rfl,.nil 1 none,.inr ⟨rfl,hn,rfl,rfl⟩,hs.out.nul⟩
   ·refine .skip ?_
    refine nT ?_
    refine .aj ?_
    refine .o (.buildSlice (cells:=[_]) hs bX rfl rfl fun b31 w hs=>?_)
    refine .o (.alloc hs dV rfl fun b10 w hs=>?_)
    refine .o (.store hs rfl rfl aC fun w hs=>?_)
    refine .nil (.seq (.aj (.y hs (zls [_,_,_,_,_,_] aF aB) ?_)))
    have hq:gW s q:=hb28.1 (by simpa using hc30)
    refine .o (.call A4 rfl (fN (s:=s) hs h1 h2 ⟨ak,ak⟩) ?_);rintro _ w ⟨H1,ba,hle1,rfl,hit,hs⟩
    have hwl:=gG s q
    refine .nil (.block ?_)
    refine .rangeFunc (gf:=190) (cap:=[.pointer (some ⟨ba,0,none⟩)]) (xs:=vX s) (σb:=[.blk b10 [.slice (some ⟨b31,0,none⟩) 1 1],.blk b31 (Is [0]),.blk b7 [.func (.func (Az q.kind)) #[] #[],.func (.func (Au q.kind)) #[] #[],I (oU q)],.blk b9 [I q.kind,I q.st,I q.wa,I s.id,I s.src,(.slice ast s.st.length cst),(.slice awa s.wa.length cwa),I s.al,I s.up]]) (σf:=σ) (hs.sb) trivial rfl hit A2 (fun x hx=>by
      simp only [vX,List.mem_map] at hx
      obtain ⟨j,_,rfl⟩:=hx;rfl) rfl
     (I:=fun p H' σb=>∃vo en,σb=[.blk b10 [vo],en,.blk b7 [.func (.func (Az q.kind)) #[] #[],.func (.func (Au q.kind)) #[] #[],I (oU q)],.blk b9 [I q.kind,I q.st,I q.wa,I s.id,I s.src,(.slice ast s.st.length cst),(.slice awa s.wa.length cwa),I s.al,I s.up]]∧cz 1 vo (Is ((mQ s q).take (p+1))) en) (Ix:=fun _ _ _=>False)
     (fun j _ _ σ g1 g2=>g2) (fun _ _ _ _ _ h=>h) ⟨_,_,rfl,.full rfl⟩ ?_ ?_ (fun D c H' σb w _ h _=>h.elim)
    ·rintro ly p hp H2 σb2 σf2 w hle2 ⟨vo,en,rfl,hO⟩ hs ⟨rr,hrr⟩
     have hpm:p<s.many:=by rw [eJ] at hp;exact hp
     have hin:p/s.wa.length<s.st.length:=Nat.div_lt_of_lt_mul (by rw [Nat.mul_comm];exact hpm)
     have hkm:=Nat.mod_lt p hsm.2.2.1
     have hws:=tq s q hpm
     have hget:(mQ s q)[p+1]? =some (ka s q (p/s.wa.length) (p%s.wa.length)):=by rw [←hws];exact bE ak
     rw [mx hp]
     obtain ⟨al,ll,cl,rfl,hll⟩:=hO.shape
     generalize p/s.wa.length=i at*
     generalize p%s.wa.length=k at*
     refine .region ?_
     refine .o (.alloc hs kF rfl fun b11 w hs=>?_)
     refine .o (.aZ (vs:=[_,_,_]) hs rfl rfl oL fun w hs=>?_)
     refine .nil ?_
     refine nT ?_
     refine ⟨H2,[.blk b11 [I (i:Int),I (k:Int),I ((p+1:Nat):Int)],.blk b10 [Value.slice al ll cl],en,.blk b7 [.func (.func (Az q.kind)) #[] #[],.func (.func (Au q.kind)) #[] #[],I (oU q)],.blk b9 [I q.kind,I q.st,I q.wa,I s.id,I s.src,(.slice ast s.st.length cst),(.slice awa s.wa.length cwa),I s.al,I s.up]],HLe.refl _,hs,?_⟩;rintro w σf4 - hs
     refine .block ?_
     refine .draw mix rfl hs fun w hs=>?_
     refine .y 0 rfl hs an ?_;refine .z 1 rfl (zfa rR) ?_
     refine .y 2 rfl hs Tryz.isAgg229 ?_
     refine .ys 3 rfl hs [_,_,_,_,_,_,_,_,_] qX kZ ?_;refine .ys 4 rfl hs [_,_,_] Tryz.isAgg158 oL ?_
     refine .E 5 hs ?_
     refine .pH (first:=[]) (cap:=[]) rfl rfl (CW q.kind) (CV (s:=s) (q:=q) (i:=i) (k:=k) hs (h1.mono (hle1.trans hle2)) (h2.mono (hle1.trans hle2)) hok hq hk hin hkm) ?_;rintro _ w ⟨H3,hle3,rfl,hs⟩
     refine .go ?_
     refine .E 6 hs ?_
     refine .buildSlice (cells:=[_]) hs bX rfl rfl ?_;intro b41 w hs
     refine .go ?_
     refine .E 7 hs ?_
     refine .append (ys:=Is [ka s q i k]) hs bg rfl rfl hO (.own .here rfl rfl) (dM _) (fun l h=>by simp at h;omega) ?_;intro v42 en42 w hO2 hs
     rw [show Is ((mQ s q).take (p+1))++Is [ka s q i k]=Is ((mQ s q).take (p+1+1)) by rw [df hget];simp [Is]] at hO2
     obtain ⟨a42,l42,c42,rfl,h42⟩:=hO2.shape
     refine .go ?_
     refine .E 8 hs ?_
     refine .store hs rfl rfl aC ?_;intro w hs
     refine .go ?_
     refine .D hs ?_
     refine nB ?_
     exact ⟨H3,[.blk b10 [.slice a42 l42 c42],en42,.blk b7 [.func (.func (Az q.kind)) #[] #[],.func (.func (Au q.kind)) #[] #[],I (oU q)],.blk b9 [I q.kind,I q.st,I q.wa,I s.id,I s.src,(.slice ast s.st.length cst),(.slice awa s.wa.length cwa),I s.al,I s.up]],hle3,(hs.sb:St H3 w (.blk b10 _::en42:: .blk b7 _:: .blk b9 _::σf4)),_,_,rfl,hO2⟩
    ·rintro D H2 σb2 w hle2 ⟨vo,en,rfl,hO⟩ hs
     rw [eJ,←hwl,List.take_length] at hO
     replace hs:St H2 w (.obj D (.deferred (some [])):: .blk b10 [vo]::en:: .blk b7 [.func (.func (Az q.kind)) #[] #[],.func (.func (Au q.kind)) #[] #[],I (oU q)]:: .blk b9 [I q.kind,I q.st,I q.wa,I s.id,I s.src,(.slice ast s.st.length cst),(.slice awa s.wa.length cwa),I s.al,I s.up]::σ):=hs
     obtain ⟨al,ll,cl,rfl,hll⟩:=hO.shape
     refine nB (nT ?_)
     refine .seq (.draw mix rfl hs fun w hs=>?_)
     refine .y 0 rfl hs an ?_;refine .z 1 rfl (zfa rQ) ?_;refine .y 2 rfl hs af ?_;refine .z 3 rfl zg ?_;refine .z 4 rfl zg ?_;refine .z 5 rfl zg ?_;refine .D hs ?_
     refine .ret ?_
     exact Fin.gR [D] [] hs fun w hs=>⟨_,results3 Tryz.results102 rfl rfl rfl,H2,_,_,_,_,en,hle1.trans hle2,rfl,hO,.inl ⟨rfl,hq,rfl,rfl⟩,hs.sb⟩
end Go.Proofs.YtddaejgfjlneoaaGreat
