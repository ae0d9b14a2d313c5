/-
  Texts of these claims, joined: Za Zb Zc Zd Ze Zf Zg Zh Zi Zj Zk Zl Zm Zn Zo Zp Zr Zt.
-/
import Derived.Test.YteajddicacjkhaaGreatDc
namespace Go.Proofs.YteajddicacjkhaaGreat
open Go.MW
variable{H:cD}{w:World}{σ:List Ent}
theorem qQ{a0 a1 a2:Int}(hs:St H w σ):Cl Tryz.prog 284 [I a0,I a1,I a2] w fun v w'=>v= .bool (decide (a1≤a0∧a0≤a2))∧St H w' σ:=by
 refine Cl.o Tryz.func284 Tryz.ntmps284 ag3 ?_
 refine .aj (.zn zg (.aj (.z zm (.z zm (.z nF (.z zm (.gX (t':=10) rfl (fun hb10=>?_) (fun hb10=>?_))))))))
 ·refine .T (.z zm (.T (.z zm (.T (.z nF (.z zpT (.zn zg (.ret (Fin.bE Tryz.results284 rfl ?_)))))))))
  exact ⟨by simp [*],hs.out⟩
 ·refine .Fs 3 3 true (.z zpF (.zn zg (.ret (Fin.bE Tryz.results284 rfl ?_))))
  exact ⟨by simp [*],hs.out⟩
theorem jv{v:Value}{l:List Int}{many:Nat}{most:Int}(hs:St H w σ)(hr:RI H v l):
  Cl Tryz.prog 259 [v,I many,I most] w fun v w'=>∃b:Bool,v= .bool b∧(b=true↔fB many most l)∧St H w' σ:=by
 obtain ⟨a,c,rfl⟩:=RI.shape hr
 have hlen:=(RI.len hr).2.2
 refine Cl.o Tryz.func259 Tryz.ntmps259 ag3 ?_
 refine .aj (.zn zg (.seq (.aj (.z zm (.z (dc ae) (.z zm (.o (.call Tryz.call284 rfl (qQ hs) ?_))))))));rintro _ w ⟨rfl,hs⟩
 refine .z fZ (.z zm (.bif (t':=14) rfl (fun hb14=>?_) (fun hb14=>?_)))
 ·refine .Fs 4 5 false (.z zpT (.z zm (.Fs 8 11 false (.zn zpT (.cT (.aj (.zn zg (.ret (rT (Fin.bE Dr rfl ?_))))))))))
  exact ⟨false,rfl,⟨fun h=>(by cases h),fun h=>by have:=h.two;have:=h.many;simp at hb14;omega⟩,hs⟩
 ·refine .T (.z zm (.T ?_))
  have htwo:2≤l.length∧l.length≤many:=by simp at hb14;omega
  refine .ixY hs hr rfl rfl ae ai (bB (l:=l) (i:=0) an) da ?_;intro b16 o16 hc16
  refine .T (.q hs (aJ rfl af hc16) (.T (.z fM (.z zpF (.z zm (.gX (t':=20) rfl (fun hb20=>?_) (fun hb20=>?_)))))))
  ·refine .Fs 8 11 false (.zn zpT (.cT (.aj (.zn zg (.ret (rT (Fin.bE Dr rfl ?_)))))))
   exact ⟨false,rfl,⟨fun h=>(by cases h),fun h=>by have:=h.low;omega⟩,hs⟩
  ·refine .T (.z zm (.T (.z zm (.T (.z (dc ae) (.T (.z fY (.T (.ixY hs hr rfl rfl ae ai (bB (l:=l) (i:=(l.length - 1)) an) da ?_)))))))));intro b25 o25 hc25
   refine .T (.q hs (aJ rfl af hc25) (.T (.z zm (.T (.z km (.zn zpF (.bA rfl (fun hc29=>?_) (fun hc29=>?_))))))))
   ·refine .aj (.zn zg (.ret (rT (Fin.bE Dr rfl ?_))))
    exact ⟨false,rfl,⟨fun h=>(by cases h),fun h=>by have:=h.high;omega⟩,hs⟩
   ·refine .skip (nT (.seq (.aj (.z zm (.q hs (Ag (k:=1) rfl rfl ae ai an an) (.z (dc ae) (.zn zm (.for (N:=l.length - 1) (J:=fun k fr w=>fr=[(31,.slice (if c=1 then a else a.map (·.add (1*1))) (l.length - 1) (c - 1)),(0,.slice a l.length c)]∧(∀j<k,gi l j<gi l (j+1))∧St H w σ) an ?_ ?_ ?_))))))))
    ·exact .mk ⟨rfl,fun j hj=>by omega,hs⟩
    ·rintro k fr w hk ⟨rfl,hno,hs⟩
     have ht:=hr.tail (k:=1) an
     have hx:(l.drop 1)[k]? =some (gi l (k+1)):=by rw [List.getElem?_drop,Nat.add_comm];exact bB an
     refine .block (.aj (.z zm (.ixY hs ht rfl rfl ae ai hx rfl ?_)));intro b36 o36 hc36
     refine .q hs (aJ rfl af hc36) (.z zg (.zn zg (.aj (.z zm (.z zm (.ixY hs hr rfl rfl ae ai (bB (l:=l) (i:=k) an) da ?_))))));intro b40 o40 hc40
     refine .q hs (aJ rfl af hc40) (.z zm (.zn uj (.bA rfl (fun hc43=>?_) (fun hc43=>?_))))
     ·refine .aj (.zn zg (.ret (rB (rT (rB (rT (Fin.bE Dr rfl ?_)))))))
      exact ⟨false,rfl,⟨fun h=>(by cases h),fun h=>by have:=h.rise k an;omega⟩,hs⟩
     ·refine .skip (nB (nT ?_))
      exact .mk ⟨rfl,fun j hj=>by
       by_cases e:j=k
       ·subst e;omega
       ·exact hno j an,hs⟩
    ·rintro fr w ⟨rfl,hno,hs⟩
     refine nT (.aj (.zn zg (.ret (Fin.bE Dr rfl ?_))))
     exact ⟨true,rfl,⟨fun _=>⟨an,an,an,an,fun i hi=>hno i an⟩,fun _=>rfl⟩,hs⟩
theorem oE{v:Value}{l:List Int}(hs:St H w σ)(hr:RI H v l):
  Cl Tryz.prog 299 [v] w fun v w'=>∃e,v=I e∧((fB 9 100000 l∧e=0)∨(¬fB 9 100000 l∧e≠0))∧St H w' σ:=by
 obtain ⟨a,c,rfl⟩:=RI.shape hr
 refine Cl.o Tryz.func299 Tryz.ntmps299 ag1 ?_
 refine .aj (.zn zg (.seq (.aj (.z zm (.o (.call Tryz.call259 rfl (jv (many:=9) (most:=100000) hs hr) ?_))))));rintro _ w ⟨b4,rfl,hb4,hs⟩
 refine .zn fZ (.cond rfl (fun hc5=>?_) (fun hc5=>?_))
 ·refine .aj (.zn zg (.ret (rT (Fin.bE Tryz.results299 rfl ?_))))
  exact ⟨_,rfl,.inr ⟨fun h=>by simp [hb4.2 h] at hc5,by decide⟩,hs⟩
 ·refine .skip (nT (.aj (.zn zg (.ret (Fin.bE Tryz.results299 rfl ?_)))))
  exact ⟨_,rfl,.inl ⟨hb4.1 (by simpa using hc5),rfl⟩,hs⟩
theorem jE{a b:Int}(hs:St H w σ)(ha:0<a)(hb:0<b∧b≤100000):
  Cl Tryz.prog 287 [I a,I b] w fun v w'=>v=I (rat a b)∧St H w' σ:=by
 have h1:0≤b.tdiv a:=Int.tdiv_nonneg an an
 have h2:b.tdiv a≤b:=by rw [Int.tdiv_eq_ediv_of_nonneg an];exact Int.ediv_le_self _ an
 have hw:=mg (m:=b.tdiv a) ⟨an,an⟩
 refine Cl.o Tryz.func287 Tryz.ntmps287 ag2 ?_
 refine .aj (.zn zg (.seq (.aj (.z zm (.z zm (.z A4 (.z fm (.z zm (.gX (t':=9) rfl (fun hb9=>?_) (fun hb9=>?_))))))))))
 ·refine .T (.z zm (.T (.z zm (.T (.z Ir (.T (.z nF (.zn zpT (.bA rfl (fun hc14=>?_) (fun hc14=>?_))))))))))
  ·refine .aj (.z zm (.z zm (.z Ir (.zn zg (.ret (rT (Fin.bE Tryz.results287 rfl ?_)))))))
   rw [hw] at hc14 ⊢
   exact ⟨by unfold rat;rw [if_pos ⟨by assumption,by assumption⟩],hs⟩
  ·refine .skip (nT (.aj (.zn zg (.ret (Fin.bE Tryz.results287 rfl ?_)))))
   rw [hw] at hc14
   exact ⟨by unfold rat;rw [if_neg an],hs⟩
 ·refine .Fs 4 4 true (.zn zpF (.cF (.skip (nT (.aj (.zn zg (.ret (Fin.bE Tryz.results287 rfl ?_))))))))
  exact ⟨by unfold rat;rw [if_neg an],hs⟩
def sD(l:List Int):List (List Value):=(nz l).map fun g=>[Value.agg #[I (g.at_:Int),I (g.n:Int)]]
theorem Dx{l:List Int}(hp:fB 9 100000 l){i:Nat}(h:i+2<l.length):ff l i=true↔0<rat (gi l (i+1) - gi l i) (gi l (i+2) - gi l (i+1))∨0<rat (gi l (i+2) - gi l (i+1)) (gi l (i+1) - gi l i):=by
 have h1:=hp.rise i an
 have h2:gi l (i+1)<gi l (i+2):=hp.rise (i+1) an
 unfold ff
 rw [DB an an]
 simp only [Bool.and_eq_true,decide_eq_true_eq]
 omega
theorem qR{H:cD}{b:Nat}{v:Value}{l:List Int}(hp:fB 9 100000 l)(hb:Row H b [v])(hr:RI H v l):Iter Tryz.prog 302 [Pt b] H (sD l):=by
 intro ly II Ix _ _ hy H0 σb0 σf w hle hI0 hs
 obtain ⟨a,c,rfl⟩:=RI.shape hr
 have hlen:=hp.many
 have hb0:cellAt H0 b 0=some (.slice a l.length c):=cellAt.mono (hb.at 0) hle
 refine Cl.o Tryz.func302 Tryz.ntmps302 ag2 ?_
 refine .aj (.zn zg (.block ?_))
 refine .loop (fun i:Nat=>⟨59,[],[(3,I (i:Int)),(0,.func (.yield ly) #[] #[]),(1,Pt b)]⟩)
  (fun i w=>i≤l.length∧∃j,j≤(nz l).length∧(nz l).drop j=oq l i∧∃H1 σb,HLe H H1∧HLe H0 H1∧II j H1 σb∧St H1 w (σb++σf)) (fun i=>l.length - i) 0 (.cJ rfl cq aU)
  ⟨Nat.zero_le _,0,Nat.zero_le _,rfl,H0,σb0,hle,HLe.refl _,hI0,hs⟩ ?_
 clear hs hI0
 rintro i w ⟨hil,j,hj,hd,H1,σb,hle1,hle0,hI,hs⟩
 have hb1:cellAt H1 b 0=some (.slice a l.length c):=cellAt.mono hb0 hle0
 refine .seq (.aj (.z zm (.z cK (.y hs (zld aq) (.z (dc ae) (.zn fM (.bA rfl (fun hc11=>?_) (fun hc11=>?_))))))))
 ·refine .skip (nT (.block (.aj (.z zm (.z (zbd [_,_] sY) (.o (.alloc hs zX rfl fun b4 w hs=>?_)))))))
  refine .o (.aP (vs:=[_,_]) hs rfl rfl qy fun w hs=>?_)
  refine .nil (.cut (fun fs w=>ke fs ⟨59,[],[(4,Pt b4),(3,I (i:Int)),(0,.func (.yield ly) #[] #[]),(1,Pt b)]⟩∧St H1 w (.blk b4 [I (i:Int),I (((if ff l i then 2 else 1:Nat)):Int)]::(σb++σf))) ?_ ?_)
  ·refine .aj (.z zm (.z cK (.y hs (zld aq) (.z (dc ae) (.zn fM (.bA rfl (fun hc18=>?_) (fun hc18=>?_)))))))
   ·refine .seq (.draw mix rfl hs fun w hs=>?_)
    refine .y 0 rfl hs aq ?_;refine .z 1 rfl zm ?_;refine .z 2 rfl cK ?_
    have r1:=hp.rise i an
    have r2:gi l (i+1)<gi l (i+2):=hp.rise (i+1) an
    have hiff:=Dx hp (i:=i) an
    have q1:=hp.bd (i:=i) an
    have q2:=hp.bd (i:=i+2) an
    refine .ixX (enc:=fun x=>[I x]) (i:=3) hs rfl aD .none (hr.mono hle1) rfl rfl ae ai (bB (l:=l) (i:=(i+1)) an) da ?_;intro b22 o22 hc22;replace hc22:=bL.one hc22
    refine .r (i:=4) hs rfl aD .none (aJ rfl af hc22) ?_
    refine .y 5 rfl hs aq ?_;refine .z 6 rfl zm ?_
    refine .ixX (enc:=fun x=>[I x]) (i:=7) hs rfl aD .none (hr.mono hle1) rfl rfl ae ai (bB (l:=l) (i:=i) an) da ?_;intro b26 o26 hc26;replace hc26:=bL.one hc26
    refine .r (i:=8) hs rfl aD .none (aJ rfl af hc26) ?_
    refine .zw 9 rfl fY ?_;refine .y 10 rfl hs aq ?_;refine .z 11 rfl zm ?_;refine .z 12 rfl cK ?_
    refine .ixX (enc:=fun x=>[I x]) (i:=13) hs rfl aD .none (hr.mono hle1) rfl rfl ae ai (bB (l:=l) (i:=(i+2)) an) da ?_;intro b32 o32 hc32;replace hc32:=bL.one hc32
    refine .r (i:=14) hs rfl aD .none (aJ rfl af hc32) ?_
    refine .y 15 rfl hs aq ?_;refine .z 16 rfl zm ?_;refine .z 17 rfl cK ?_
    refine .ixX (enc:=fun x=>[I x]) (i:=18) hs rfl aD .none (hr.mono hle1) rfl rfl ae ai (bB (l:=l) (i:=(i+1)) an) da ?_;intro b37 o37 hc37;replace hc37:=bL.one hc37
    refine .r (i:=19) hs rfl aD .none (aJ rfl af hc37) ?_
    refine .zw 20 rfl fY ?_;refine .z 21 rfl zg ?_;refine .z 22 rfl zg ?_;refine .D hs ?_
    refine .aj (.z zm (.z zm (.o (.call Tryz.call287 rfl (jE hs an an) ?_))));rintro _ w ⟨rfl,hs⟩
    refine .z km (.z zm (.gX (t':=44) rfl (fun hb44=>?_) (fun hb44=>?_)))
    ·refine .Fs 4 4 false (.zn zpT (.cT (.region (.z (zfa jB) (.o (.store hs rfl rfl ai fun w hs=>?_))))))
     refine .nil (nT ?_)
     rw [hiff.2 (.inl hb44)];exact ⟨aU,hs⟩
    ·refine .T (.z zm (.T (.z zm (.T (.o (.call Tryz.call287 rfl (jE hs an an) ?_))))));rintro _ w ⟨rfl,hs⟩
     refine .T (.z km (.zn zpF (.bA rfl (fun hc49=>?_) (fun hc49=>?_))))
     ·refine .region (.z (zfa jB) (.o (.store hs rfl rfl ai fun w hs=>?_)))
      refine .nil (nT ?_)
      rw [hiff.2 (.inr hc49)];exact ⟨aU,hs⟩
     ·refine .skip (nT ?_)
      rw [show ff l i=false from Bool.eq_false_iff.2 fun h=>by have:=hiff.1 h;omega];exact ⟨aU,hs⟩
   ·refine .skip (nT ?_)
    rw [show ff l i=false by simp [ff];omega];exact ⟨aU,hs⟩
  ·rintro fs w ⟨hfs,hs⟩
   refine WE.sub ?_ hfs
   have hgo:=xc (l:=l) (i:=i) an
   rw [hgo] at hd
   have hjl:j<(nz l).length:=by
    have:=congrArg List.length hd
    simp at this;omega
   have hgj:(nz l)[j]=⟨i,ff l i⟩:=by
    rw [List.drop_eq_getElem_cons hjl] at hd
    exact (List.cons.inj hd).1
   have hdj:(nz l).drop (j+1)=oq l (i+(if ff l i then 2 else 1)):=by
    rw [List.drop_eq_getElem_cons hjl] at hd
    exact (List.cons.inj hd).2
   have hn12:(if ff l i then 2 else 1:Nat)=1∨(if ff l i then 2 else 1:Nat)=2:=by split<;>simp
   refine .seq (.aj (.z zm (.y hs (zls [_,_] Tryz.isAgg315 qy) ?_)))
   have hk':j<(sD l).length:=by simpa [sD] using hjl
   have hyd:=hy j hk' H1 σb (.blk b4 [I (i:Int),I (((if ff l i then 2 else 1:Nat)):Int)]::σf) w hle1 hI (St.deep hs)
   rw [show (sD l)[j]=[Value.agg #[I (i:Int),I (((if ff l i then 2 else 1:Nat)):Int)]] by simp only [sD,List.getElem_map,hgj];rfl] at hyd
   refine .o (.yield rfl rfl hyd ?_);rintro v53 w ⟨H2,σ2,g1,hs,g3⟩
   obtain ⟨bb,rfl,gT,gF⟩:=oU g3
   replace hs:=St.shallow hs
   refine .zn fZ (.cond rfl (fun hc54=>?_) (fun hc54=>?_))
   ·refine .ret (rT (rB (rT (rB (Fin.It Tryz.results302 ?_)))))
    exact ⟨H2,σ2,hle0.trans g1,hs.tail,.inr (gF (by simpa using hc54))⟩
   ·refine .skip (nT (.region (.z zm (.z (zfa jB) (.y hs (zld af) (.z cK (.zn zg (nB (nT ?_)))))))))
    generalize (if ff l i then 2 else 1:Nat)=n at*
    exact ⟨i+n,.cJ rfl cq aU,⟨an,j+1,hjl,hdj,H2,σ2,hle1.trans g1,hle0.trans g1,gT (by simpa using hc54),hs.tail⟩,an⟩
 ·refine .exit (xT (xT (xB ?_)))
  rw [tO an] at hd
  have:(nz l).length≤j:=by simpa using hd
  obtain rfl:j=(nz l).length:=by omega
  exact Fin.AL Tryz.results302 ⟨H1,σb,hle0,hs,.inl (by simpa [sD] using hI)⟩
theorem tk{v:Value}{l:List Int}(hs:St H w σ)(hr:RI H v l)(hp:fB 9 100000 l):
  Cl Tryz.prog 286 [v] w fun u w'=>∃H1 b,HLe H H1∧u= .func (.func 302) #[] #[Pt b]∧Iter Tryz.prog 302 [Pt b] H1 (sD l)∧St H1 w' σ:=by
 obtain ⟨a,c,rfl⟩:=RI.shape hr
 refine Cl.o Tryz.func286 Tryz.ntmps286 ag1 ?_
 refine .aj (.bx hs fun b1 w hs=>?_)
 refine .zn zg (.aj (.q hs (dM (f:=[]) (c:=[_]) rfl rfl) (.zn zg (.ret (Fin.bE Tryz.results286 rfl ?_)))))
 obtain ⟨H1,g1,g2,hs⟩:=hs.di .here
 exact ⟨H1,b1,g1,rfl,qR hp g2 (hr.mono g1),hs⟩
theorem qC{bs bW from_ n:Nat}{W xs:List Int}{v:Value}(hs:St H w (.blk bs [.slice (some ⟨bW,0,none⟩) n n]:: .blk bW (Is W)::σ))(hW:W.length=n)(hr:RI H v xs)(hl:from_+xs.length≤n)(hn:n≤9)
  (hz:bX W n≤1000000000) (ha:yK xs≤1000000000):
  Cl Tryz.prog 285 [Pt bs,I (from_:Int),v] w fun _ w'=>St H w' (.blk bs [.slice (some ⟨bW,0,none⟩) n n]:: .blk bW (Is (mu W from_ xs))::σ):=by
 obtain ⟨a,c,rfl⟩:=RI.shape hr
 have hlen:=(RI.len hr).2.2
 refine Cl.o Tryz.func285 Tryz.ntmps285 ag3 ?_
 refine .aj (.z zm (.z (dc ae) (.zn zm (.for (N:=xs.length) (J:=fun k fr w=>fr=[(8,.slice a xs.length c),(0,Pt bs),(1,I (from_:Int))]∧St H w (.blk bs [.slice (some ⟨bW,0,none⟩) n n]:: .blk bW (Is (mu W from_ (xs.take k)))::σ)) an ?_ ?_ ?_))))
 ·exact .mk ⟨rfl,hs⟩
 ·rintro k fr w hk ⟨rfl,hs⟩
  have hal:=pS (xs.take k) W from_
  have hsz:=rC (xs.take k) W from_ (by rw [List.length_take];omega)
  rw [hW] at hsz
  have h1:=AV xs k
  have h2:=E3 xs k
  have h3:=jF (mu W from_ (xs.take k)) (v:=from_+k) (n:=n) an
  have h4:=Da hk W from_
  refine .block (.aj (.z zm (.ixY hs hr rfl rfl ae ai (bB (l:=xs) (i:=k) an) da ?_)));intro b13 o13 hc13
  refine .q hs (aJ rfl af hc13) (.z zg (.zn zg (.region (.z zm (.z znc (.z (zfa qI) (.y hs (zld aq) (.z zm (.z zm (.z cK (.q hs (eF (k:=from_+k) rfl rfl ae ai an an) (.y hs (zld af) (.z zm (.z cK (.q hs (eF (k:=from_+k) rfl rfl ae ai an an) (.o (.store hs rfl rfl ai fun w hs=>?_)))))))))))))))))
  refine .nil (nB (nT ?_))
  exact .mk ⟨rfl,by rw [h4];exact hs⟩
 ·rintro fr w ⟨rfl,hs⟩
  rw [List.take_length] at hs
  exact Fin.AL Tryz.results285 hs
theorem yx{a b:Int}(ha:0<a∧a≤100000)(hb:0<b∧b≤100000):0≤min a b∧min a b≤100000:=by omega
theorem DC{a b:Int}(h:0<tms a b):tms a b=1∨tms a b=2∨tms a b=3:=by have:=G2 a b;omega
set_option maxHeartbeats 1000000 in
theorem jT{v:Value}{l:List Int}(hs:St H w σ)(hr:RI H v l)(hp:fB 9 100000 l):
  Cl Tryz.prog 260 [v] w fun u w'=>∃H1,HLe H H1∧RI H1 u (wts l)∧St H1 w' σ:=by
 obtain ⟨a,c,rfl⟩:=RI.shape hr
 have hln:=hp.many
 have hgl:(nz l).length≤9:=by have:=mN l l.length 0;unfold nz;omega
 refine Cl.o Tryz.func260 Tryz.ntmps260 ag1 ?_
 refine .aj (.bx hs fun b1 w hs=>?_)
 refine .zn zg (.aj (.y hs (zld aq) (.z (dc ae) (.o (.va l.length hs rfl rfl ae fD rfl ai cB an fun b13 w hs=>?_)))))
 refine .z (zbd [_] zJ) (.o (.alloc hs Tryz.zeroValue317 rfl fun b3 w hs=>?_))
 refine .o (.aP (vs:=[_]) hs rfl rfl Tryz.sizeOf317 fun w hs=>?_)
 refine .nil (.aj (.q hs (dM (f:=[_]) (c:=[]) rfl rfl) (.o (.alloc hs Tryz.zeroValue318 rfl fun b4 w hs=>?_))))
 refine .o (.store hs rfl rfl Tryz.sizeOf318 fun w hs=>?_)
 refine .nil (.seq (.aj (.y hs (zld aq) (.o (.call Tryz.call286 rfl (tk hs hr hp) ?_)))));rintro _ w ⟨H1,b17,hle1,rfl,hit,hs⟩
 refine .nil (.block ?_)
 refine .rangeFunc (gf:=302) (cap:=[Pt b17]) (xs:=sD l) (σb:=[.blk b3 [.slice (some ⟨b13,0,none⟩) l.length l.length],.blk b13 (Is (vZ l 0)),.blk b4 [.func (.func 285) #[Pt b3] #[]],.blk b1 [.slice a l.length c]]) (σf:=σ) (hs.sb) trivial rfl hit Tryz.call302 (fun x hx=>by
   simp only [sD,List.mem_map] at hx
   obtain ⟨j,_,rfl⟩:=hx;rfl) rfl
  (I:=fun j H' σb=>σb=[.blk b3 [.slice (some ⟨b13,0,none⟩) l.length l.length],.blk b13 (Is (vZ l j)),.blk b4 [.func (.func 285) #[Pt b3] #[]],.blk b1 [.slice a l.length c]]) (Ix:=fun _ _ _=>False)
  (fun j _ _ σ g1 g2=>g2) (fun _ _ _ _ _ h=>h) rfl ?_ ?_ (fun D c H' σb w _ h _=>h.elim)
 ·rintro ly j hj H2 σb2 σf2 w hle2 rfl hs ⟨rr,hrr⟩
  have hjl:j<(nz l).length:=by simpa [sD] using hj
  obtain ⟨g,hg⟩:=nth hjl
  rw [show (sD l)[j]=[Value.agg #[I (g.at_:Int),I (g.n:Int)]] by
   rw [List.getElem?_eq_getElem hjl] at hg
   simp only [sD,List.getElem_map,Option.some.inj hg]]
  obtain ⟨i1,i2,i3,i4,i5⟩:=xd hp (List.mem_of_getElem? hg)
  have hK:=vY hg
  have hKl:=nG l j
  have hKz:=th hp j an
  have hr2:=hr.mono (hle1.trans hle2)
  have hq0:=hp.bd (i:=g.at_) an
  have hq1:=hp.bd (i:=g.at_+1) an
  generalize hA:gi l (g.at_+1) - gi l g.at_=A at*
  refine .region (.o (.alloc hs zX rfl fun b5 w hs=>?_))
  refine .o (.aP (vs:=[_,_]) hs rfl rfl qy fun w hs=>?_)
  refine .nil (nT (⟨H2,[.blk b5 [I (g.at_:Int),I (g.n:Int)],.blk b3 [.slice (some ⟨b13,0,none⟩) l.length l.length],.blk b13 (Is (vZ l j)),.blk b4 [.func (.func 285) #[Pt b3] #[]],.blk b1 [.slice a l.length c]],HLe.refl _,hs,?_⟩));rintro w σf4 - hs
  refine .block (.seq (.draw mix rfl hs fun w hs=>?_))
  refine .y 0 rfl hs aq ?_;refine .z 1 rfl (zfa gV) ?_;refine .y 2 rfl hs af ?_;refine .z 3 rfl cK ?_
  refine .ixX (enc:=fun x=>[I x]) (i:=4) hs rfl aD .none hr2 rfl rfl ae ai (bB (l:=l) (i:=(g.at_+1)) an) da ?_;intro b23 o23 hc23;replace hc23:=bL.one hc23
  refine .r (i:=5) hs rfl aD .none (aJ rfl af hc23) ?_
  refine .y 6 rfl hs aq ?_;refine .z 7 rfl (zfa gV) ?_;refine .y 8 rfl hs af ?_
  refine .ixX (enc:=fun x=>[I x]) (i:=9) hs rfl aD .none hr2 rfl rfl ae ai (bB (l:=l) (i:=g.at_) an) da ?_;intro b28 o28 hc28;replace hc28:=bL.one hc28
  refine .r (i:=10) hs rfl aD .none (aJ rfl af hc28) ?_
  refine .zw 11 rfl fY ?_
  rw [hA]
  refine .zw 12 rfl zg ?_;refine .D hs ?_
  refine .seq (.aj (.z (zfa jB) (.y hs (zld af) (.z fm ?_))))
  skip
  refine .nil (.bA rfl (fun hc33=>?_) (fun hc33=>?_))
  ·refine .aj (.y hs (zld Tryz.isAgg318) (.z (zfa gV) (.y hs (zld af) (.z zm (.z kd (.z zm (.z kd (.o (.buildSlice (cells:=[_,_]) hs kV rfl rfl fun b41 w hs=>?_)))))))))
   have h2:g.two=false:=by
    cases e:g.two with
    |false=>rfl
    |true=>simp [Grp.n,e] at hc33
   obtain ⟨H3,hle3,r41,hs⟩:=cZ.dS (xs:=[18*A,18*A]) (v:= .slice (some ⟨b41,0,none⟩) 2 2) (.full (len:=2) rfl) cq hs dn
   have hgw:=Ck h2 hA
   rw [hgw] at hK i5
   replace hs:St H3 w (.blk b3 [.slice (some ⟨b13,0,none⟩) l.length l.length]:: .blk b13 (Is (vZ l j)):: .blk b5 [I (g.at_:Int),I (g.n:Int)]:: .blk b4 [.func (.func 285) #[Pt b3] #[]]:: .blk b1 [.slice a l.length c]::σf4):=hs.sb
   refine .o (.qs (first:=[Pt b3]) (cap:=[]) rfl rfl Tryz.call285 (qC (from_:=g.at_) (xs:=[18*A,18*A]) hs hKl r41 (by simp;omega) an an an) ?_);rintro _ w hs
   rw [←hK] at hs
   refine .nil (.exit (xT (xB ?_)))
   exact ⟨H3,_,hle3,(hs.sb:St H3 w (.blk b3 _:: .blk b13 _:: .blk b4 _:: .blk b1 _::σf4)),rfl⟩
  ·refine .skip (nT (.seq (.draw mix rfl hs fun w hs=>?_)))
   have h2:g.two=true:=by
    cases e:g.two with
    |true=>rfl
    |false=>simp [Grp.n,e] at hc33
   obtain ⟨j1,j2,j3,j4⟩:=i4 h2
   have hq2:=hp.bd (i:=g.at_+2) an
   generalize hB:gi l (g.at_+2) - gi l (g.at_+1)=B at*
   have hmx:=DB (a:=A) (b:=B) an an
   have hk:=DC j4
   have hmm:=yx (a:=A) (b:=B) ⟨an,an⟩ ⟨an,an⟩
   obtain ⟨n1,n2,n3,n4⟩:=Ci hk hmm.1 hmm.2
   obtain ⟨n5,n6,n7,n8,n9⟩:=n4 _ n3.1 n3.2
   generalize hT:tms A B=T at*
   generalize hM:min A B=M at*
   have hgw:=Cj h2 hA hB hT hM
   refine .y 0 rfl hs aq ?_;refine .z 1 rfl (zfa gV) ?_;refine .y 2 rfl hs af ?_;refine .z 3 rfl cK ?_
   refine .ixX (enc:=fun x=>[I x]) (i:=4) hs rfl aD .none hr2 rfl rfl ae ai (bB (l:=l) (i:=(g.at_+2)) an) da ?_;intro b47 o47 hc47;replace hc47:=bL.one hc47
   refine .r (i:=5) hs rfl aD .none (aJ rfl af hc47) ?_
   refine .y 6 rfl hs aq ?_;refine .z 7 rfl (zfa gV) ?_;refine .y 8 rfl hs af ?_;refine .z 9 rfl cK ?_
   refine .ixX (enc:=fun x=>[I x]) (i:=10) hs rfl aD .none hr2 rfl rfl ae ai (bB (l:=l) (i:=(g.at_+1)) an) da ?_;intro b53 o53 hc53;replace hc53:=bL.one hc53
   refine .r (i:=11) hs rfl aD .none (aJ rfl af hc53) ?_
   refine .zw 12 rfl fY ?_
   rw [hB]
   refine .zw 13 rfl zg ?_;refine .D hs ?_
   refine .aj (.z zm (.z zm (.o (.call Tryz.call287 rfl (jE hs an an) ?_))));rintro _ w ⟨rfl,hs⟩
   refine .z zm (.z zm (.o (.call Tryz.call287 rfl (jE hs an an) ?_)));rintro _ w ⟨rfl,hs⟩
   refine .z A5 ?_
   rw [←hmx]
   refine .zn zg (.aj (.z zm (.q hs (uu rfl rfl an an) (.z zm (.z cK (.z kd (.z zm (.z zm (.z zR ?_)))))))))
   rw [hM]
   refine .z kd (.zn zg (.aj (.z zm (.z zm (.z kd (.z zm (.z fY (.z kd (.z zm (.z zm (.z cK (.z kd (.z zm (.z cK (.z kd (.z zm (.z zm (.z kd (.z fY (.z kd (.o (.buildSlice (cells:=[_,_,_]) hs AQ rfl rfl fun b90 w hs=>?_))))))))))))))))))))))
   refine .zn zg (.cut (fun fs w=>∃H3,ke fs ⟨103,[],[(10,.slice (some ⟨b90,0,none⟩) 3 3),(5,Pt b5),(4,Pt b4),(3,Pt b3),(1,Pt b1)]⟩∧HLe H2 H3∧RI H3 (.slice (some ⟨b90,0,none⟩) 3 3) (xP l g)∧St H3 w (.blk b3 [.slice (some ⟨b13,0,none⟩) l.length l.length]:: .blk b13 (Is (vZ l j)):: .blk b5 [I (g.at_:Int),I (g.n:Int)]:: .blk b4 [.func (.func 285) #[Pt b3] #[]]:: .blk b1 [.slice a l.length c]::σf4)) ?_ ?_)
   ·refine .aj (.z zm (.z zm (.zn km (.bA rfl (fun hc93=>?_) (fun hc93=>?_)))))
    ·refine .region (.z zm (.o (.call Tryz.call270 rfl (mH (en:= .blk b90 (Is [(6:Int).tdiv T*(1+T)*M*T*(2 - T),(6:Int).tdiv T*(1+T)*M*(1+T)*(1+T),(6:Int).tdiv T*(1+T)*M*(2*T - 1)])) (hs.sb:St H2 w (.blk b90 _:: .blk b3 _:: .blk b13 _:: .blk b5 _:: .blk b4 _:: .blk b1 _::σf4)) (.full rfl) cq) ?_)));rintro _ w ⟨en95,hO95,hs⟩
     refine .nil (nT ?_)
     obtain ⟨H3,hle3,r90,hs⟩:=cZ.dS hO95 cq hs .here
     rw [if_pos hc93] at hgw
     rw [hgw]
     exact ⟨H3,aU,hle3,r90,hs⟩
    ·refine .skip (nT ?_)
     obtain ⟨H3,hle3,r90,hs⟩:=cZ.dS (xs:=[(6:Int).tdiv T*(1+T)*M*T*(2 - T),(6:Int).tdiv T*(1+T)*M*(1+T)*(1+T),(6:Int).tdiv T*(1+T)*M*(2*T - 1)]) (v:= .slice (some ⟨b90,0,none⟩) 3 3) (.full (len:=3) rfl) cq hs dn
     rw [if_neg an] at hgw
     rw [hgw]
     exact ⟨H3,aU,hle3,r90,hs.sb⟩
   ·rintro fs w ⟨H3,hfs,hle3,r90,hs⟩
    refine WE.sub ?_ hfs
    refine .region (.y hs (zld Tryz.isAgg318) (.z (zfa gV) (.y hs (zld af) (.z zm (.o (.qs (first:=[Pt b3]) (cap:=[]) rfl rfl Tryz.call285 (qC (from_:=g.at_) (xs:=xP l g) hs hKl r90 (by rw [Cm,show g.n=2 by unfold Grp.n;rw [h2];rfl];omega) an an an) ?_))))));rintro _ w hs
    rw [←hK] at hs
    refine .nil (nB ?_)
    exact ⟨H3,_,hle3,(hs.sb:St H3 w (.blk b3 _:: .blk b13 _:: .blk b4 _:: .blk b1 _::σf4)),rfl⟩
 ·rintro D H2 σb2 w hle2 rfl hs
  rw [show (sD l).length=(nz l).length by simp [sD],BU] at hs
  replace hs:St H2 w (.obj D (.deferred (some [])):: .blk b3 [.slice (some ⟨b13,0,none⟩) l.length l.length]:: .blk b13 (Is (wts l)):: .blk b4 [.func (.func 285) #[Pt b3] #[]]:: .blk b1 [.slice a l.length c]::σ):=hs
  refine nB (nT (.aj (.z (zfa qI) (.y hs (zld aq) (.zn zg (.ret ?_))))))
  obtain ⟨H3,hle3,hR,hs⟩:=cZ.dS (xs:=wts l) (v:= .slice (some ⟨b13,0,none⟩) l.length l.length) (.full (by simp [Is,eY])) (by rw [eY];omega) hs dn
  exact Fin.iM [D] [] hs fun w hs=>⟨_,results1 Tryz.results260 rfl,H3,hle1.trans (hle2.trans hle3),hR,hs.out⟩
def zS(X Y:List Int)(i:Nat):List Int:=(List.range Y.length).map fun k=>gi X i*gi Y k
def nA(X Y:List Int)(i:Nat):List (List Int):=(List.range i).map (zS X Y)
theorem kq(X Y:List Int)(i:Nat):(zS X Y i).length=Y.length:=by simp [zS]
theorem kN(X Y:List Int)(i:Nat):(nA X Y i).length=i:=by simp [nA]
theorem yC(X Y:List Int)(i:Nat):nA X Y (i+1)=nA X Y i++[zS X Y i]:=by simp [nA,List.range_succ]
theorem Af{X Y:List Int}{i k:Nat}(hk:k<Y.length):(zS X Y i).take (k+1)=(zS X Y i).take k++[gi X i*gi Y k]:=by
 rw [dP (by simp [zS,hk]:(zS X Y i)[k]? =some (gi X i*gi Y k))]
theorem zu{X Y:List Int}{n i:Nat}(h:i<n):gr (nA X Y n) i=zS X Y i:=by simp [gr,List.getD,nA,h]
theorem Co{X Y:List Int}{n i k:Nat}(h:i<n)(hk:k<Y.length):gt (nA X Y n) i k=gi X i*gi Y k:=by
 unfold gt;rw [zu h];simp [gi,List.getD,zS,hk]
inductive GrS(X Y:List Int)(b:Nat)(i k:Nat)(H:cD)(σ:List Ent):Prop
 |go (us:List Value) (v:Value) (en:Ent) (h:i<X.length) (h1:RLs H us (nA X Y i)) (h2:cZ 1 v (Is ((zS X Y i).take k)) en) (h3:σ=[.blk b (us++v::List.replicate (X.length - i - 1) (.slice none 0 0)),en])
 |fin (us:List Value) (h:i=X.length) (h1:RLs H us (nA X Y i)) (h3:σ=[.blk b us])
theorem GrS.mono{X Y:List Int}{b i k:Nat}{H H':cD}{σ:List Ent}(h:GrS X Y b i k H σ)(hl:HLe H H'):GrS X Y b i k H' σ:=by
 cases h with
 |go us v en h h1 h2 h3=>exact .go us v en h (h1.mono hl) h2 h3
 |fin us h h1 h3=>exact .fin us h (h1.mono hl) h3
theorem mG{v:Value}{l:List Int}(hs:St H w σ)(hr:RI H v l):
  Cl Tryz.prog 275 [v] w fun u w'=>∃H1 vo e,HLe H H1∧u= .tuple #[vo,I e]∧(fB 9 100000 l→e=0∧RI H1 vo (wts l))∧St H1 w' σ:=by
 obtain ⟨a,c,rfl⟩:=RI.shape hr
 refine Cl.o Tryz.func275 Tryz.ntmps275 ag1 ?_
 refine .aj (.z zg (.zn zg (.seq (.aj (.z zm (.o (.call Tryz.call299 rfl (oE hs hr) ?_)))))));rintro _ w ⟨e,rfl,he,hs⟩
 refine .zn zg (.aj (.z zm (.zn gE (.dV rfl (fun hc8=>?_) (fun hc8=>?_)))))
 ·refine .aj (.z zm (.z zg (.zn zg (.ret (rT (Fin.gL Tryz.results275 rfl rfl ?_))))))
  exact ⟨H,_,_,HLe.refl H,rfl,fun h=>by rcases he with ⟨_,h2⟩|⟨h1,_⟩;exact (hc8 h2).elim;exact (h1 h).elim,hs⟩
 ·refine .skip (nT (.aj (.z zm ?_)))
  have hp:fB 9 100000 l:=by rcases he with ⟨h,_⟩|⟨_,h2⟩;exact h;exact (h2 (by simpa using hc8)).elim
  refine .o (.call Tryz.call260 rfl (jT hs hr hp) ?_);rintro v11 w ⟨H1,hle1,hR,hs⟩
  refine .z zg (.zn zg (.ret (Fin.gL Tryz.results275 rfl rfl ?_)))
  exact ⟨H1,_,_,hle1,rfl,fun _=>⟨rfl,hR⟩,hs⟩
theorem tj{v1 v2:Value}{a b:List Int}(hs:St H w σ)(h1:RI H v1 a)(h2:RI H v2 b):
  Cl Tryz.prog 215 [v1,v2] w fun u w'=>∃bb:Bool,u= .bool bb∧(bb=true↔fB 9 100000 a∧fB 7 15000 b)∧St H w' σ:=by
 refine Cl.o Tryz.func215 Tryz.ntmps215 ag2 ?_
 refine .aj (.zn zg (.aj (.z zm (.o (.call Tryz.call259 rfl (jv (many:=9) (most:=100000) hs h1) ?_)))));rintro _ w ⟨b6,rfl,hb6,hs⟩
 refine .z zm (.bif (t':=7) rfl (fun hb7=>?_) (fun hb7=>?_))
 ·refine .T (.z zm (.T (.o (.call Tryz.call259 rfl (jv (many:=7) (most:=15000) hs h2) ?_))));rintro _ w ⟨b9,rfl,hb9,hs⟩
  refine .z zpT (.zn zg (.ret (Fin.bE Tryz.results215 rfl ?_)))
  exact ⟨_,rfl,by rw [hb9];exact ⟨fun h=>⟨hb6.1 hb7,h⟩,fun h=>h.2⟩,hs⟩
 ·refine .Fs 2 2 true (.z zpF (.zn zg (.ret (Fin.bE Tryz.results215 rfl ?_))))
  exact ⟨_,rfl,⟨fun h=>(by cases h),fun h=>by rw [hb6.2 h.1] at hb7;cases hb7⟩,hs⟩
theorem qf{bx by_:Nat}{x y:Int}(hs:St H w σ)(hx:Row H bx [I x])(hy:Row H by_ [I y]):
  Cl Tryz.prog 289 [Pt bx,Pt by_] w fun u w'=>u= .tuple #[I x,I y]∧St H w' σ:=by
 have hx0:=hx.at 0
 have hy0:=hy.at 0
 refine Cl.o Tryz.func289 Tryz.ntmps289 ag2 ?_
 refine .aj (.z zg (.zn zg (.seq (.draw mix rfl hs fun w hs=>?_))))
 refine .y 0 rfl hs af ?_;refine .y 1 rfl hs af ?_;refine .z 2 rfl zg ?_;refine .z 3 rfl zg ?_;refine .D hs ?_
 refine .ret (Fin.gL Tryz.results289 rfl rfl ?_)
 exact ⟨rfl,hs⟩
def PrE(X Y:List Int)(p:Nat)(H:cD)(z:List Value):Prop:=
 ∃bx by_,z=[.agg #[I ((p/Y.length:Nat):Int),I ((p%Y.length:Nat):Int)],.func (.func 289) #[] #[Pt bx,Pt by_]]∧Row H bx [I (gi X (p/Y.length))]∧Row H by_ [I (gi Y (p%Y.length))]
theorem rL{H:cD}{b1 b2:Nat}{v1 v2:Value}{X Y:List Int}(hb1:Row H b1 [v1])(hb2:Row H b2 [v2])(hX:RI H v1 X)(hY:RI H v2 Y)(hXl:X.length≤1000)(hYl:Y.length≤1000):
  GR Tryz.prog 288 [Pt b1,Pt b2] H (X.length*Y.length) (PrE X Y):=by
 intro ly II Ix hmI _ hy H0 σb0 σf w hle hI0 hs
 obtain ⟨a1,c1,rfl⟩:=RI.shape hX
 obtain ⟨a2,c2,rfl⟩:=RI.shape hY
 have h01:cellAt H0 b1 0=some (.slice a1 X.length c1):=cellAt.mono (hb1.at 0) hle
 have h02:cellAt H0 b2 0=some (.slice a2 Y.length c2):=cellAt.mono (hb2.at 0) hle
 refine Cl.o Tryz.func288 Tryz.ntmps288 ag3 ?_
 refine .aj (.y hs (zld aq) (.z (dc ae) (.zn zm (.for (N:=X.length) (J:=fun i fr w=>fr=[(8,.slice a1 X.length c1),(0,.func (.yield ly) #[] #[]),(1,Pt b1),(2,Pt b2)]∧∃H1 σb,HLe H H1∧HLe H0 H1∧II (i*Y.length) H1 σb∧St H1 w (σb++σf)) an ?_ ?_ ?_))))
 ·exact .mk ⟨rfl,H0,σb0,hle,HLe.refl _,by rw [Nat.zero_mul];exact hI0,hs⟩
 ·rintro i fr w hi ⟨rfl,H1,σb,hle1,hle0,hI,hs⟩
  refine .block (.aj (.z zm (.ixY hs (hX.mono hle1) rfl rfl ae ai (bB (l:=X) (i:=i) an) da ?_)));intro b13 o13 hc13
  refine .q hs (aJ rfl af hc13) (.o (.alloc hs cB rfl fun b5 w hs=>?_))
  refine .z zg (.o (.store hs rfl rfl ai fun w hs=>?_))
  refine .nil (.aj ?_)
  obtain ⟨H2,hle2,r5,hs⟩:=hs.di (b:=b5) .here
  have h22:=cellAt.mono h02 (hle0.trans hle2)
  refine .y hs (zld aq) (.z (dc ae) (.zn zm (.for (N:=Y.length) (J:=fun k fr w=>fr=[(15,.slice a2 Y.length c2),(4,I (i:Int)),(10,I (i:Int)),(9,I (X.length:Int)),(5,Pt b5),(8,.slice a1 X.length c1),(0,.func (.yield ly) #[] #[]),(1,Pt b1),(2,Pt b2)]∧∃H3 σb,HLe H2 H3∧II (i*Y.length+k) H3 σb∧St H3 w (σb++σf)) an ?_ ?_ ?_)))
  ·exact .mk ⟨rfl,H2,σb,HLe.refl _,hmI _ _ _ _ hle2 hI,hs⟩
  ·rintro k fr w hk ⟨rfl,H3,σb3,hle3,hI3,hs⟩
   have hle03:=hle0.trans (hle2.trans hle3)
   have hle13:=hle1.trans (hle2.trans hle3)
   refine .block (.aj (.z zm (.ixY hs (hY.mono hle13) rfl rfl ae ai (bB (l:=Y) (i:=k) an) da ?_)));intro b20 o20 hc20
   refine .q hs (aJ rfl af hc20) (.o (.alloc hs cB rfl fun b7 w hs=>?_))
   refine .z zg (.o (.store hs rfl rfl ai fun w hs=>?_))
   refine .nil (.aj (.z zm (.z zm (.z zm (.q hs (ze (vs:=[(0,I (i:Int)),(1,I (k:Int))]) (cells:=[I (i:Int),I (k:Int)]) Tryz.zeroValue76 rfl Tryz.runUnderlying76 ai rfl) (.q hs (dM (f:=[]) (c:=[_,_]) rfl rfl) ?_))))))
   obtain ⟨H4,hle4,r7,hs⟩:=hs.di (b:=b7) .here
   obtain ⟨d1,d2⟩:=Hr (nw:=Y.length) (i:=i) (k:=k) hk
   have hlt:i*Y.length+k<X.length*Y.length:=by
    have:=Nat.mul_le_mul_right Y.length (show i+1≤X.length by omega)
    rw [Nat.add_mul,Nat.one_mul] at this;omega
   have hyd:=hy (i*Y.length+k) hlt [.agg #[I (i:Int),I (k:Int)],.func (.func 289) #[] #[Pt b5,Pt b7]] H4 σb3 σf w (hle13.trans hle4) ⟨b5,b7,by rw [d1,d2],by rw [d1];exact r5.mono (hle3.trans hle4),by rw [d2];exact r7⟩ (hmI _ _ _ _ hle4 hI3) hs
   refine .o (.yield rfl rfl hyd ?_);rintro v27 w ⟨H5,σ5,g1,hs,g3⟩
   obtain ⟨bb,rfl,gT,gF⟩:=oU g3
   refine .zn fZ (.cond rfl (fun hc28=>?_) (fun hc28=>?_))
   ·refine .ret (rB (rT (rB (rB (rT (rB (Fin.It Tryz.results288 ?_)))))))
    exact ⟨H5,σ5,hle03.trans (hle4.trans g1),hs,.inr (gF (by simpa using hc28))⟩
   ·refine .skip (nB (nT ?_))
    exact .mk ⟨rfl,H5,σ5,hle3.trans (hle4.trans g1),gT (by simpa using hc28),hs⟩
  ·rintro fr w ⟨rfl,H3,σb3,hle3,hI3,hs⟩
   refine nB (nT ?_)
   exact .mk ⟨rfl,H3,σb3,hle1.trans (hle2.trans hle3),hle0.trans (hle2.trans hle3),by rw [Nat.add_mul,Nat.one_mul];exact hI3,hs⟩
 ·rintro fr w ⟨rfl,H1,σb,hle1,hle0,hI,hs⟩
  exact Fin.AL Tryz.results288 ⟨H1,σb,hle0,hs,.inl hI⟩
theorem uF{v1 v2:Value}{X Y:List Int}(hs:St H w σ)(hX:RI H v1 X)(hY:RI H v2 Y)(hXl:X.length≤1000)(hYl:Y.length≤1000):
  Cl Tryz.prog 261 [v1,v2] w fun u w'=>∃H1 b1 b2,HLe H H1∧u= .func (.func 288) #[] #[Pt b1,Pt b2]∧GR Tryz.prog 288 [Pt b1,Pt b2] H1 (X.length*Y.length) (PrE X Y)∧St H1 w' σ:=by
 obtain ⟨a1,c1,rfl⟩:=RI.shape hX
 obtain ⟨a2,c2,rfl⟩:=RI.shape hY
 refine Cl.o Tryz.func261 Tryz.ntmps261 ag2 ?_
 refine .aj (.bx hs fun b2 w hs=>?_)
 refine .bx hs fun b3 w hs=>?_
 refine .zn zg (.aj (.q hs (dM (f:=[]) (c:=[_,_]) rfl rfl) (.zn zg (.ret (Fin.bE Tryz.results261 rfl ?_)))))
 obtain ⟨H1,g1,r1,hs⟩:=hs.di (b:=b2) dn
 obtain ⟨H2,g2,r2,hs⟩:=hs.di (b:=b3) dn
 exact ⟨H2,b2,b3,g1.trans g2,rfl,rL (r1.mono g2) r2 (hX.mono (g1.trans g2)) (hY.mono (g1.trans g2)) hXl hYl,hs⟩
set_option maxHeartbeats 1000000 in
theorem we{v1 v2:Value}{l1 l2:List Int}(hs:St H w σ)(hr1:RI H v1 l1)(hr2:RI H v2 l2)(hp1:fB 9 100000 l1)(hp2:fB 7 15000 l2):
  Cl Tryz.prog 216 [v1,v2] w fun u w'=>∃H1,HLe H H1∧RT H1 u (nA (wts l1) (wts l2) l1.length)∧St H1 w' σ:=by
 obtain ⟨a1,c1,rfl⟩:=RI.shape hr1
 obtain ⟨a2,c2,rfl⟩:=RI.shape hr2
 have hn1:=hp1.many
 have hn2:=hp2.many
 have htw1:=hp1.two
 have htw2:=hp2.two
 have hp2':fB 9 100000 l2:=⟨hp2.two,an,hp2.low,by have:=hp2.high;omega,hp2.rise⟩
 have hXl:=eY l1
 have hYl:=eY l2
 have hXb:=BT hp1
 have hYb:=BT hp2
 refine Cl.o Tryz.func216 Tryz.ntmps216 ag2 ?_
 refine .aj (.zn zg (.aj (.z zm (.o (.call Tryz.call260 rfl (jT hs hr1 hp1) ?_)))));rintro v13 w ⟨H1,hle1,hX,hs⟩
 refine .z zm (.o (.call Tryz.call260 rfl (jT hs (hr2.mono hle1) hp2') ?_));rintro v15 w ⟨H2,hle2,hY,hs⟩
 replace hX:=hX.mono hle2
 generalize wts l1=X at*
 generalize wts l2=Y at*
 obtain ⟨aX,cX,rfl⟩:=RI.shape hX
 obtain ⟨aY,cY,rfl⟩:=RI.shape hY
 refine .z zg (.zn zg (.aj (.z zm (.z (dc ae) (.o (.HM l1.length hs rfl rfl az Tryz.typeInfo34 rfl aA ee an fun b18 w hs=>?_))))))
 refine .o (.alloc hs Tryz.zeroValue62 rfl fun b7 w hs=>?_)
 refine .o (.store hs rfl rfl Tryz.sizeOf62 fun w hs=>?_)
 refine .nil (.seq (.aj (.z zm (.z zm (.o (.call Tryz.call261 rfl (uF hs hX hY an an) ?_))))));rintro _ w ⟨H3,bp1,bp2,hle3,rfl,hit,hs⟩
 have hle03:=hle1.trans (hle2.trans hle3)
 have h0:GrS X Y b18 0 0 H3 [.blk b18 (List.replicate l1.length (.slice none 0 0)),.nul]:=by
  refine .go [] (.slice none 0 0) .nul an (RLs.nil _) (.nil 1 none) ?_
  rw [hXl]
  obtain ⟨m,hm⟩:∃m,l1.length=m+1:=⟨l1.length - 1,an⟩
  rw [hm]
  rfl
 refine .nil (.block ?_)
 refine .G7 (gf:=288) (cap:=[Pt bp1,Pt bp2]) (N:=X.length*Y.length) (E:=PrE X Y) (σb:= .blk b7 [.slice (some ⟨b18,0,none⟩) l1.length l1.length]::[.blk b18 (List.replicate l1.length (.slice none 0 0)),.nul]) (σf:=σ) (hs.nul.sb) trivial rfl hit Tryz.call288 (fun k H' z ⟨_,_,hz,_⟩=>by rw [hz];rfl) rfl
  (I:=fun p H' σb=>∃σ1,σb= .blk b7 [.slice (some ⟨b18,0,none⟩) l1.length l1.length]::σ1∧GrS X Y b18 (p/Y.length) (p%Y.length) H' σ1) (Ix:=fun _ _ _=>False)
  (fun j _ _ σ g1 ⟨σ1,g2,g3⟩=>⟨σ1,g2,g3.mono g1⟩) (fun _ _ _ _ _ h=>h) ⟨_,rfl,by rw [Nat.zero_div,Nat.zero_mod];exact h0⟩ ?_ ?_ (fun D c H' σb w _ h _=>h.elim)
 ·rintro ly p hp z H4 σb2 σf2 w hle4 ⟨bx,by_,rfl,rx,ry⟩ ⟨σ1,rfl,hG⟩ hs ⟨rr,hrr⟩
  have hnext:=B8 (p:=p) (m:=Y.length) an
  have hkm:=Nat.mod_lt p (show 0<Y.length by omega)
  have hin:p/Y.length<X.length:=Nat.div_lt_of_lt_mul (by rw [Nat.mul_comm];exact hp)
  generalize hi:p/Y.length=i at*
  generalize hk:p%Y.length=k at*
  cases hG with
  |fin us h=>omega
  |go us v en h h1 h2 h3=>
  subst h3
  obtain ⟨av,lv,cv,rfl,hlv⟩:=h2.shape
  have husl:us.length=i:=by rw [h1.1,kN]
  have hb1:=hXb i
  have hb2:=hYb k
  have hpr:=Hk (gi X i) (gi Y k)
  have hprb: -3456000000000≤gi X i*gi Y k∧gi X i*gi Y k≤3456000000000:=j5 (A:=4800000) (B:=720000) (by unfold ab at hb1;omega) (by unfold ab at hb2;omega)
  refine .aj (.o (.alloc hs Tryz.zeroValue76 rfl fun b8 w hs=>?_))
  refine .o (.aP (vs:=[_,_]) hs rfl rfl Tryz.sizeOf76 fun w hs=>?_)
  refine .nil (.region (.zn zg (nT (⟨H4,[.blk b8 [I (i:Int),I (k:Int)],.blk b7 [.slice (some ⟨b18,0,none⟩) l1.length l1.length],.blk b18 (us++Value.slice av lv cv::List.replicate (X.length - i - 1) (Value.slice none 0 0)),en],HLe.refl _,hs,?_⟩))));rintro w σf4 - hs
  refine .block (.aj (.z zm (.o (.qs (first:=[]) (cap:=[Pt bx,Pt by_]) rfl rfl Tryz.call289 (qf hs rx ry) ?_))));rintro _ w ⟨rfl,hs⟩
  refine .z zm (.z zex (.z zex (.z zg (.zn zg (.draw mix rfl hs fun w hs=>?_)))))
  refine .zv 0 rfl hs (nx xx) (.zw 1 rfl (zia 0 Tryz.runUnderlying76 ai) (.y 2 rfl hs af ?_));refine .y 3 rfl hs xx ?_
  refine .zw 4 rfl (zia 0 Tryz.runUnderlying76 ai) (.zv 5 rfl hs (nx af) (.zw 6 rfl (eF (k:=i) rfl rfl az aA rfl an) (.load (i:=7) hs rfl aD .none rfl aq ?_ (hv:=by rw [List.getElem?_append_right an,husl,Nat.sub_self];rfl))))
  refine .zw 8 rfl zm ?_;refine .z 9 rfl zm ?_;refine .z 10 rfl kd ?_
  refine .E 11 hs ?_
  refine .buildSlice (cells:=[_]) hs db rfl rfl ?_;intro b40 w hs
  refine .go (.E 12 hs ?_)
  refine .append (ys:=Is [gi X i*gi Y k]) hs cM rfl rfl h2 (.own .here rfl rfl) (iL _) (fun l' h=>by simp at h;omega) ?_;intro v41 en41 w hO hs
  rw [show Is ((zS X Y i).take k)++Is [gi X i*gi Y k]=Is ((zS X Y i).take (k+1)) by rw [Af hkm];simp [Is]] at hO
  obtain ⟨a41,l41,c41,rfl,hl41⟩:=hO.shape
  refine .go (.zw 13 rfl (eF (k:=i) rfl rfl az aA rfl an) (.E 14 hs ?_))
  refine .store (c':=us++ .slice a41 l41 c41::List.replicate (X.length - i - 1) (.slice none 0 0)) hs rfl rfl aA ?_ dn (by simp;omega) (by rw [List.set_append_right _ _ an,husl,Nat.sub_self];rfl);intro w hs
  refine .go (.D hs (nB ?_))
  rcases hnext with ⟨g1,g2,g3⟩|⟨g1,g2,g3⟩
  ·exact ⟨H4,[.blk b7 [.slice (some ⟨b18,0,none⟩) l1.length l1.length],.blk b18 (us++ .slice a41 l41 c41::List.replicate (X.length - i - 1) (.slice none 0 0)),en41],HLe.refl _,(hs.sb:St H4 w (.blk b7 _:: .blk b18 _::en41::σf4)),_,rfl,by rw [g2,g3];exact .go us _ en41 h h1 hO rfl⟩
  ·obtain ⟨H5,hle5,hR,hs⟩:=cZ.dS hO (by rw [List.length_take,kq];omega) hs dn
   rw [List.take_of_length_le (by rw [kq];omega)] at hR
   have h1':RLs H5 (us++[.slice a41 l41 c41]) (nA X Y (i+1)):=by rw [yC];exact (h1.mono hle5).snoc hR
   by_cases e:i+1<X.length
   ·refine ⟨H5,[.blk b7 [.slice (some ⟨b18,0,none⟩) l1.length l1.length],.blk b18 (us++ .slice a41 l41 c41::List.replicate (X.length - i - 1) (.slice none 0 0)),.nul],hle5,(hs.nul.sb:St H5 w (.blk b7 _:: .blk b18 _:: .nul::σf4)),_,rfl,?_⟩
    rw [g2,g3]
    refine .go (us++[.slice a41 l41 c41]) (.slice none 0 0) .nul e h1' (.nil 1 none) ?_
    obtain ⟨m,hm⟩:∃m,X.length - i - 1=m+1:=⟨X.length - i - 2,an⟩
    rw [hm,show X.length - (i+1) - 1=m by omega,List.append_assoc]
    rfl
   ·refine ⟨H5,[.blk b7 [.slice (some ⟨b18,0,none⟩) l1.length l1.length],.blk b18 (us++ .slice a41 l41 c41::List.replicate (X.length - i - 1) (.slice none 0 0))],hle5,(hs.sb:St H5 w (.blk b7 _:: .blk b18 _::σf4)),_,rfl,?_⟩
    rw [g2,g3]
    refine .fin (us++[.slice a41 l41 c41]) an h1' ?_
    rw [show X.length - i - 1=0 by omega]
    rfl
 ·rintro D H4 σb2 w hle4 ⟨σ1,rfl,hG⟩ hs
  rw [Nat.mul_div_cancel _ an,Nat.mul_mod_left] at hG
  cases hG with
  |go us v en h=>omega
  |fin us h h1 h3=>
  subst h3
  replace hs:St H4 w (.obj D (.deferred (some [])):: .blk b7 [.slice (some ⟨b18,0,none⟩) l1.length l1.length]:: .blk b18 us::σ):=hs
  have husl:us.length=l1.length:=by rw [h1.1,kN,hXl]
  refine nB (nT (.aj (.y hs (zld xx) (.zn zg (.ret ?_)))))
  obtain ⟨H5,hle5,hR,hs⟩:=h1.di (v:= .slice (some ⟨b18,0,none⟩) l1.length l1.length) (en:= .blk b18 us) (.full (by simp [husl])) an hs dn
  rw [hXl] at hR
  exact Fin.iM [D] [] hs fun w hs=>⟨_,results1 Tryz.results216 rfl,H5,hle03.trans (hle4.trans hle5),hR,hs.out⟩
theorem oZ{v1 v2:Value}{l1 l2:List Int}(hs:St H w σ)(hr1:RI H v1 l1)(hr2:RI H v2 l2):
  Cl Tryz.prog 163 [v1,v2] w fun u w'=>∃H1 vo e,HLe H H1∧u= .tuple #[vo,I e]∧(fB 9 100000 l1∧fB 7 15000 l2→e=0∧RT H1 vo (nA (wts l1) (wts l2) l1.length))∧(e=0→fB 9 100000 l1∧fB 7 15000 l2)∧St H1 w' σ:=by
 refine Cl.o Tryz.func163 Tryz.ntmps163 ag2 ?_
 refine .aj (.z zg (.zn zg (.seq (.aj (.z zm (.z zm (.o (.call Tryz.call215 rfl (tj hs hr1 hr2) ?_))))))));rintro _ w ⟨b8,rfl,hb8,hs⟩
 refine .zn fZ (.cond rfl (fun hc9=>?_) (fun hc9=>?_))
 ·refine .aj (.z zg (.zn zg (.ret (rT (Fin.gL Tryz.results163 rfl rfl ?_)))))
  exact ⟨H,_,_,HLe.refl H,rfl,fun h=>(by rw [hb8.2 h] at hc9;cases hc9),fun h=>an,hs⟩
 ·refine .skip (nT (.aj (.z zm (.z zm ?_))))
  have hp:=hb8.1 (by simpa using hc9)
  refine .o (.call Tryz.call216 rfl (we hs hr1 hr2 hp.1 hp.2) ?_);rintro v12 w ⟨H1,hle1,hR,hs⟩
  refine .z zg (.zn zg (.ret (Fin.gL Tryz.results163 rfl rfl ?_)))
  exact ⟨H1,_,_,hle1,rfl,fun _=>⟨rfl,hR⟩,fun _=>hp,hs⟩
theorem I9{many:Nat}{most:Int}{l:List Int}(h2:2≤l.length)(hm:l.length≤many)(h:∀j<l.length,0≤gi l j∧gi l j≤most∧(0<j→gi l (j - 1)<gi l j)):fB many most l:=
 ⟨h2,hm,(h 0 an).1,(h (l.length - 1) an).2.1,fun i hi=>by have:=(h (i+1) hi).2.2 an;rwa [Nat.add_sub_cancel] at this⟩
theorem uc{many:Nat}{most:Int}{l:List Int}(h:fB many most l){j:Nat}(hj:j<l.length):0≤gi l j∧gi l j≤most∧(0<j→gi l (j - 1)<gi l j):=
 ⟨(h.bd hj).1,(h.bd hj).2,fun h0=>by have:=h.rise (j - 1) an;rwa [Nat.sub_add_cancel h0] at this⟩
theorem kx{v:Value}{l:List Int}{many:Nat}{most:Int}(hs:St H w σ)(hr:RI H v l)(hmany:many≤1000):
  Cl Tryz.prog 217 [v,I many,I most] w fun u w'=>∃b:Bool,u= .bool b∧(b=true↔fB many most l)∧St H w' σ:=by
 obtain ⟨a,c,rfl⟩:=RI.shape hr
 have hlen:=(RI.len hr).2.2
 refine Cl.o Tryz.func217 Tryz.ntmps217 ag3 ?_
 refine .aj (.zn zg (.seq (.aj (.z zm (.z (dc ae) (.z fM (.z zm (.gX (t':=11) rfl (fun hb11=>?_) (fun hb11=>?_)))))))))
 ·refine .Fs 4 3 false (.zn zpT (.cT (.aj (.zn zg (.ret (rT (Fin.bE vC rfl ?_)))))))
  exact ⟨false,rfl,⟨fun h=>(by cases h),fun h=>by have:=h.two;omega⟩,hs⟩
 ·refine .T (.z zm (.T (.z (dc ae) (.T (.z zm (.T (.z km (.zn zpF (.bA rfl (fun hc16=>?_) (fun hc16=>?_))))))))))
  ·refine .aj (.zn zg (.ret (rT (Fin.bE vC rfl ?_))))
   exact ⟨false,rfl,⟨fun h=>(by cases h),fun h=>by have:=h.many;omega⟩,hs⟩
  ·refine .skip (nT (.seq (.aj (.zn zg (.block ?_)))))
   refine .loop (fun k:Nat=>⟨52,[],[(7,I (k:Int)),(0,.slice a l.length c),(1,I (many:Int)),(2,I most)]⟩)
    (fun k w=>k≤l.length∧(∀j<k,0≤gi l j∧gi l j≤most∧(0<j→gi l (j - 1)<gi l j))∧St H w σ) (fun k=>l.length - k) 0 (.cJ rfl cq aU)
    ⟨Nat.zero_le _,fun j hj=>by omega,hs⟩ ?_
   rintro k w ⟨hk,hno,hs⟩
   refine .seq (.aj (.z zm (.z zm (.z (dc ae) (.zn fM (.bA rfl (fun hc20=>?_) (fun hc20=>?_)))))))
   ·refine .skip (nT (.seq (.block (.seq (.draw mix rfl hs fun w hs=>?_)))))
    refine .zw 0 rfl zm ?_;refine .z 1 rfl zm ?_
    refine .ixX (enc:=fun x=>[I x]) (i:=2) hs rfl aD .none hr rfl rfl ae ai (bB (l:=l) (i:=k) an) da ?_;intro b25 o25 hc25;replace hc25:=bL.one hc25
    refine .r (i:=3) hs rfl aD .none (aJ rfl af hc25) ?_
    refine .zw 4 rfl fM ?_;refine .z 5 rfl zm ?_
    refine .gX (t':=28) rfl (fun hb28=>?_) (fun hb28=>?_)
    ·refine .F 6 rfl (.F 7 rfl (.F 8 rfl (.F 9 rfl (.F 10 rfl (.F 11 rfl (.zw 12 rfl zpT ?_))))));refine .z 13 rfl zm ?_
     refine .F 14 rfl (.F 15 rfl ?_)
     refine .F 16 rfl (.F 17 rfl (.F 18 rfl (.F 19 rfl (.F 20 rfl (.F 21 rfl (.F 22 rfl (.F 23 rfl (.F 24 rfl (.F 25 rfl (.F 26 rfl (.F 27 rfl (.zw 28 rfl zpT ?_))))))))))));refine .D hs ?_
     refine (.cT (.aj (.zn zg (.ret (rB (rT (rT (rB (rT (Fin.bE vC rfl ?_))))))))))
     exact ⟨false,rfl,⟨fun h=>(by cases h),fun h=>by have:=uc h (j:=k) an;omega⟩,hs⟩
    ·refine .zw 6 rfl zm ?_;refine .z 7 rfl zm ?_
     refine .ixX (enc:=fun x=>[I x]) (i:=8) hs rfl aD (.some rfl rfl) hr rfl rfl ae ai (bB (l:=l) (i:=k) an) da ?_;intro b31 o31 hc31;replace hc31:=bL.one hc31
     refine .r (i:=9) hs rfl aD (.some rfl rfl) (aJ rfl af hc31) ?_
     refine .zw 10 rfl zm ?_;refine .z 11 rfl km ?_;refine .z 12 rfl zpF ?_;refine .z 13 rfl zm ?_
     refine .gX (t':=36) rfl (fun hb36=>?_) (fun hb36=>?_)
     ·refine .F 14 rfl (.F 15 rfl ?_)
      refine .F 16 rfl (.F 17 rfl (.F 18 rfl (.F 19 rfl (.F 20 rfl (.F 21 rfl (.F 22 rfl (.F 23 rfl (.F 24 rfl (.F 25 rfl (.F 26 rfl (.F 27 rfl (.zw 28 rfl zpT ?_))))))))))));refine .D hs ?_
      refine (.cT (.aj (.zn zg (.ret (rB (rT (rT (rB (rT (Fin.bE vC rfl ?_))))))))))
      exact ⟨false,rfl,⟨fun h=>(by cases h),fun h=>by have:=uc h (j:=k) an;omega⟩,hs⟩
     ·refine .zw 14 rfl zm ?_;refine .z 15 rfl km ?_;refine .z 16 rfl zm ?_
      refine .gX (t':=39) rfl (fun hb39=>?_) (fun hb39=>?_)
      ·refine .zw 17 rfl zm ?_;refine .z 18 rfl zm ?_;refine .z 19 rfl fY ?_
       refine .ixX (enc:=fun x=>[I x]) (i:=20) hs rfl aD (.some rfl rfl) hr rfl rfl ae ai (bB (l:=l) (i:=(k-1)) an) da ?_;intro b43 o43 hc43;replace hc43:=bL.one hc43
       refine .r (i:=21) hs rfl aD (.some rfl rfl) (aJ rfl af hc43) ?_
       refine .zw 22 rfl zm ?_;refine .z 23 rfl zm ?_
       refine .ixX (enc:=fun x=>[I x]) (i:=24) hs rfl aD (.some rfl rfl) hr rfl rfl ae ai (bB (l:=l) (i:=k) an) da ?_;intro b47 o47 hc47;replace hc47:=bL.one hc47
       refine .r (i:=25) hs rfl aD (.some rfl rfl) (aJ rfl af hc47) ?_
       refine .zw 26 rfl uj ?_;refine .z 27 rfl zpT ?_;refine .z 28 rfl zpF ?_;refine .D hs ?_
       refine (.bA rfl (fun hc51=>?_) (fun hc51=>?_))
       ·refine .aj (.zn zg (.ret (rB (rT (rT (rB (rT (Fin.bE vC rfl ?_))))))))
        exact ⟨false,rfl,⟨fun h=>(by cases h),fun h=>by have:=uc h (j:=k) an;omega⟩,hs⟩
       ·refine .skip (nB (nT (.region (.z zm (.z cK (.zn zg (nT ?_)))))))
        exact ⟨k+1,.cJ rfl cq aU,⟨an,fun j hj=>by
         by_cases e:j=k
         ·subst e;exact ⟨an,an,fun _=>by omega⟩
         ·exact hno j an,hs⟩,an⟩
      ·refine .F 17 rfl (.F 18 rfl (.F 19 rfl (.F 20 rfl (.F 21 rfl (.F 22 rfl (.F 23 rfl (.F 24 rfl (.F 25 rfl (.F 26 rfl (.zw 27 rfl zpF ?_))))))))));refine .z 28 rfl zpF ?_;refine .D hs ?_
       refine (.cF (.skip (nB (nT (.region (.z zm (.z cK (.zn zg (nT ?_)))))))))
       exact ⟨k+1,.cJ rfl cq aU,⟨an,fun j hj=>by
        by_cases e:j=k
        ·subst e;exact ⟨an,an,fun _=>by omega⟩
        ·exact hno j an,hs⟩,an⟩
   ·refine .exit (xT (xT (xB (nT (.aj (.zn zg (.ret (Fin.bE vC rfl ?_))))))))
    exact ⟨true,rfl,⟨fun _=>I9 an an fun j hj=>hno j an,fun _=>rfl⟩,hs⟩
theorem iJ{v:Value}{l:List Int}(hs:St H w σ)(hr:RI H v l):
  Cl Tryz.prog 168 [v] w fun u w'=>∃e,u=I e∧((fB 9 100000 l∧e=0)∨(¬fB 9 100000 l∧e≠0))∧St H w' σ:=by
 refine Cl.o Tryz.func168 Tryz.ntmps168 ag1 ?_
 refine .aj (.zn zg (.seq (.aj (.z zm (.o (.call Tryz.call217 rfl (kx (many:=9) (most:=100000) hs hr an) ?_))))));rintro _ w ⟨b4,rfl,hb4,hs⟩
 refine .zn fZ (.cond rfl (fun hc5=>?_) (fun hc5=>?_))
 ·refine .aj (.zn zg (.ret (rT (Fin.bE Tryz.results168 rfl ?_))))
  exact ⟨_,rfl,.inr ⟨fun h=>by simp [hb4.2 h] at hc5,by decide⟩,hs⟩
 ·refine .skip (nT (.aj (.zn zg (.ret (Fin.bE Tryz.results168 rfl ?_)))))
  exact ⟨_,rfl,.inl ⟨hb4.1 (by simpa using hc5),rfl⟩,hs⟩
theorem G3{a b k:Int}(hk:1≤k∧k≤3)(h:a*k=b∨b*k=a)(hno:∀j:Int,1≤j→j<k→¬(a*j=b∨b*j=a)):tms a b=k:=by
 have h3:k=1∨k=2∨k=3:=by omega
 unfold tms
 rcases h3 with rfl|rfl|rfl
 ·rw [if_pos an]
 ·have:=hno 1 an an
  rw [if_neg an,if_pos h]
 ·have:=hno 1 an an
  have:=hno 2 an an
  rw [if_neg an,if_neg this,if_pos h]
theorem IN{a b:Int}(hno:∀j:Int,1≤j→j<4→¬(a*j=b∨b*j=a)):tms a b=0:=by
 have:=hno 1 an an
 have h2:=hno 2 an an
 have h3:=hno 3 an an
 unfold tms
 rw [if_neg an,if_neg h2,if_neg h3]
theorem og{a b:Int}(hs:St H w σ)(ha:0≤a∧a≤100000)(hb:0≤b∧b≤100000):
  Cl Tryz.prog 283 [I a,I b] w fun u w'=>u=I (tms a b)∧St H w' σ:=by
 refine Cl.o Tryz.func283 Tryz.ntmps283 ag2 ?_
 refine .aj (.zn zg (.seq (.aj (.zn zg (.block ?_)))))
 refine .loop (fun k:Nat=>⟨23,[],[(5,I (k:Int)),(0,I a),(1,I b)]⟩)
  (fun k w=>1≤k∧k≤4∧(∀j:Int,1≤j→j<k→¬(a*j=b∨b*j=a))∧St H w σ) (fun k=>4 - k) 1 (.cJ rfl cq aU)
  ⟨an,an,fun j h1 h2=>by omega,hs⟩ ?_
 rintro k w ⟨hk1,hk4,hno,hs⟩
 have hba:=j5 (a:=a) (b:=(k:Int)) (A:=100000) (B:=4) an an
 have hbb:=j5 (a:=b) (b:=(k:Int)) (A:=100000) (B:=4) an an
 refine .seq (.aj (.z zm (.zn nF (.bA rfl (fun hc7=>?_) (fun hc7=>?_)))))
 ·refine .skip (nT (.seq (.block (.aj (.z zm (.z zm (.z kd (.z zm (.z fm (.z zm (.gX (t':=15) rfl (fun hb15=>?_) (fun hb15=>?_))))))))))))
  ·refine .Fs 5 5 false (.zn zpT (.cT (.aj (.z zm (.zn zg (.ret (rB (rT (rT (rB (rT (Fin.bE Tryz.results283 rfl ?_))))))))))))
   exact ⟨by rw [G3 ⟨an,an⟩ (.inl hb15) hno],hs⟩
  ·refine .T (.z zm (.T (.z zm (.T (.z kd (.T (.z zm (.T (.z fm (.zn zpF (.bA rfl (fun hc21=>?_) (fun hc21=>?_))))))))))))
   ·refine .aj (.z zm (.zn zg (.ret (rB (rT (rT (rB (rT (Fin.bE Tryz.results283 rfl ?_)))))))))
    exact ⟨by rw [G3 ⟨an,an⟩ (.inr hc21) hno],hs⟩
   ·refine .skip (nB (nT (.region (.z zm (.z cK (.zn zg (nT ?_)))))))
    exact ⟨k+1,.cJ rfl cq aU,⟨an,an,fun j h1 h2=>by
     by_cases e:j=(k:Int)
     ·subst e;omega
     ·exact hno j h1 an,hs⟩,an⟩
 ·refine .exit (xT (xT (xB (nT (.aj (.zn zg (.ret (Fin.bE Tryz.results283 rfl ?_))))))))
  obtain rfl:k=4:=by omega
  exact ⟨by rw [IN hno],hs⟩
def Grp.c(g:Grp):List Value:=[I (g.at_:Int),I (g.n:Int)]
def GS(l:List Grp):List Value:=(l.map Grp.c).flatten
theorem BL(a b:List Grp):GS (a++b)=GS a++GS b:=by simp [GS]
theorem xq:∀l:List Grp,(GS l).length=l.length*2
 |[]=>rfl
 |g::l=>by have:=xq l;simp only [GS,List.map_cons,List.flatten_cons,List.length_append,List.length_cons] at this ⊢;rw [this];simp [Grp.c];omega
set_option maxHeartbeats 1000000 in
theorem tF{v:Value}{l:List Int}(hs:St H w σ)(hr:RI H v l)(hp:fB 9 100000 l):
  Cl Tryz.prog 282 [v] w fun u w'=>∃H1,HLe H H1∧RS H1 2 u ((nz l).map Grp.c)∧St H1 w' σ:=by
 obtain ⟨a,c,rfl⟩:=RI.shape hr
 have hlen:=hp.many
 have hgl:(nz l).length≤9:=by have:=mN l l.length 0;unfold nz;omega
 refine Cl.o Tryz.func282 Tryz.ntmps282 ag1 ?_
 refine .aj (.zn zg (.aj (.zn zg (.aj (.zn zg (.seq (.block ?_)))))))
 refine .loop (fun p:Nat×Value=>⟨51,[],[(4,I (p.1:Int)),(3,p.2),(0,.slice a l.length c)]⟩)
  (fun p w=>p.1≤l.length∧∃j en,j≤(nz l).length∧(nz l).drop j=oq l p.1∧cZ 2 p.2 (GS ((nz l).take j)) en∧St H w (en::σ)) (fun p=>l.length - p.1) (0,.slice none 0 0) aU
  ⟨Nat.zero_le _,0,_,Nat.zero_le _,rfl,.nil 2 none,hs.nul⟩ ?_
 rintro ⟨i,vo⟩ w ⟨hil,j,en,hj,hd,hO,hs⟩
 dsimp only at hil hd hO ⊢
 have htl:=List.length_take_le j (nz l)
 refine .seq (.aj (.z zm (.z cK (.z zm (.z (dc ae) (.zn fM (.bA rfl (fun hc10=>?_) (fun hc10=>?_))))))))
 ·refine .skip (nT (.block (.aj (.zn zg (.cut (fun fs w=>ke fs ⟨51,[],[(5,I (((if ff l i then 2 else 1:Nat)):Int)),(4,I (i:Int)),(3,vo),(0,.slice a l.length c)]⟩∧St H w (en::σ)) ?_ ?_)))))
  ·refine .seq (.draw mix rfl hs fun w hs=>?_)
   refine .zw 0 rfl zm ?_;refine .z 1 rfl cK ?_;refine .z 2 rfl zm ?_;refine .z 3 rfl (dc ae) ?_;refine .z 4 rfl fM ?_;refine .z 5 rfl zm ?_
   refine .gX (t':=16) rfl (fun hb16=>?_) (fun hb16=>?_)
   ·refine .zw 6 rfl zm ?_;refine .z 7 rfl zm ?_;refine .z 8 rfl cK ?_
    have r1:=hp.rise i an
    have r2:gi l (i+1)<gi l (i+2):=hp.rise (i+1) an
    have q1:=hp.bd (i:=i) an
    have q2:=hp.bd (i:=i+2) an
    refine .ixX (enc:=fun x=>[I x]) (i:=9) hs rfl aD (.some rfl rfl) hr rfl rfl ae ai (bB (l:=l) (i:=(i+1)) an) da ?_;intro b20 o20 hc20;replace hc20:=bL.one hc20
    refine .r (i:=10) hs rfl aD (.some rfl rfl) (aJ rfl af hc20) ?_
    refine .zw 11 rfl zm ?_;refine .z 12 rfl zm ?_
    refine .ixX (enc:=fun x=>[I x]) (i:=13) hs rfl aD (.some rfl rfl) hr rfl rfl ae ai (bB (l:=l) (i:=i) an) da ?_;intro b24 o24 hc24;replace hc24:=bL.one hc24
    refine .r (i:=14) hs rfl aD (.some rfl rfl) (aJ rfl af hc24) ?_
    refine .zw 15 rfl fY ?_;refine .z 16 rfl zm ?_;refine .z 17 rfl zm ?_;refine .z 18 rfl cK ?_
    refine .ixX (enc:=fun x=>[I x]) (i:=19) hs rfl aD (.some rfl rfl) hr rfl rfl ae ai (bB (l:=l) (i:=(i+2)) an) da ?_;intro b30 o30 hc30;replace hc30:=bL.one hc30
    refine .r (i:=20) hs rfl aD (.some rfl rfl) (aJ rfl af hc30) ?_
    refine .zw 21 rfl zm ?_;refine .z 22 rfl zm ?_;refine .z 23 rfl cK ?_
    refine .ixX (enc:=fun x=>[I x]) (i:=24) hs rfl aD (.some rfl rfl) hr rfl rfl ae ai (bB (l:=l) (i:=(i+1)) an) da ?_;intro b35 o35 hc35;replace hc35:=bL.one hc35
    refine .r (i:=25) hs rfl aD (.some rfl rfl) (aJ rfl af hc35) ?_
    refine .zw 26 rfl fY (.E 27 hs ?_)
    refine .call Tryz.call283 rfl (og hs an an) ?_;rintro _ w ⟨rfl,hs⟩
    refine .go (.zw 28 rfl km ?_);refine .z 29 rfl zpT ?_;refine .D hs ?_
    refine (.bA rfl (fun hc40=>?_) (fun hc40=>?_))
    ·refine .region (.zn zg (nT ?_))
     have e:ff l i=true:=by simp [ff];omega
     rw [e];exact ⟨aU,hs⟩
    ·refine .skip (nT ?_)
     have e:ff l i=false:=by simp [ff];omega
     rw [e];exact ⟨aU,hs⟩
   ·refine .F 6 rfl (.F 7 rfl (.F 8 rfl (.F 9 rfl (.F 10 rfl (.F 11 rfl (.F 12 rfl (.F 13 rfl (.F 14 rfl (.F 15 rfl (.F 16 rfl ?_))))))))))
    refine .F 17 rfl (.F 18 rfl (.F 19 rfl (.F 20 rfl (.F 21 rfl (.F 22 rfl (.F 23 rfl (.F 24 rfl (.F 25 rfl (.F 26 rfl (.F 27 rfl (.F 28 rfl (.zw 29 rfl zpF ?_))))))))))));refine .D hs ?_
    refine (.cF (.skip (nT ?_)))
    have e:ff l i=false:=by simp [ff];omega
    rw [e];exact ⟨aU,hs⟩
  ·rintro fs w ⟨hfs,hs⟩
   refine WE.sub ?_ hfs
   have hgo:=xc (l:=l) (i:=i) an
   rw [hgo] at hd
   have hjl:j<(nz l).length:=by
    have:=congrArg List.length hd
    simp at this;omega
   have hgj:(nz l)[j]? =some ⟨i,ff l i⟩:=by
    rw [List.drop_eq_getElem_cons hjl] at hd
    rw [List.getElem?_eq_getElem hjl,(List.cons.inj hd).1]
   have hdj:(nz l).drop (j+1)=oq l (i+(if ff l i then 2 else 1)):=by
    rw [List.drop_eq_getElem_cons hjl] at hd
    exact (List.cons.inj hd).2
   have hn12:(if ff l i then 2 else 1:Nat)=1∨(if ff l i then 2 else 1:Nat)=2:=by split<;>simp
   have hgc:Grp.c ⟨i,ff l i⟩=[I (i:Int),I (((if ff l i then 2 else 1:Nat)):Int)]:=rfl
   generalize (if ff l i then 2 else 1:Nat)=n at*
   refine .aj (.z zm (.z zm (.z zm (.z (zbd [_,_] sY) (.o (.buildSlice (cells:=[_,_]) hs sU rfl rfl fun b45 w hs=>?_))))))
   refine .o (.append (ys:=[I (i:Int),I (n:Int)]) hs mC rfl rfl hO (.own .here rfl rfl) (by simp [Value.oneCell']) (fun l' h=>by rw [xq] at h;omega) ?_);intro v46 en46 w hO2 hs
   rw [←hgc,show Grp.c ⟨i,ff l i⟩=GS [⟨i,ff l i⟩] by simp [GS],←BL,←dP hgj] at hO2
   refine .zn zg (.region (.z zm (.z zm (.z cK (.zn zg (nB (nT ?_)))))))
   exact ⟨(i+n,v46),.cJ rfl cq aU,⟨by dsimp only;omega,j+1,_,hjl,hdj,hO2,hs.sb⟩,by dsimp only;omega⟩
 ·refine .exit (xT (xT (xB (nT (.aj (.z zm (.zn zg (.ret (Fin.bE Tryz.results282 rfl ?_)))))))))
  rw [tO an] at hd
  have:(nz l).length≤j:=by simpa using hd
  obtain rfl:j=(nz l).length:=by omega
  rw [List.take_length] at hO
  obtain ⟨H1,g1,r1,hs⟩:=cZ.di (m:=2) (cs:=(nz l).map Grp.c) hO (fun c hc=>by simp only [List.mem_map] at hc;obtain ⟨x,_,rfl⟩:=hc;rfl) an (by rw [List.length_map];omega) hs .here
  exact ⟨H1,g1,r1,hs⟩
theorem sE{l:List Int}{i j:Nat}(h:i≠j)(x:Int):gi (l.set i x) j=gi l j:=by
 simp [gi,List.getD,h]
set_option maxHeartbeats 1000000 in
theorem jX{v:Value}{l:List Int}(hs:St H w σ)(hr:RI H v l)(hp:fB 9 100000 l):
  Cl Tryz.prog 258 [v] w fun u w'=>∃H1,HLe H H1∧RI H1 u (wts l)∧St H1 w' σ:=by
 obtain ⟨a,c,rfl⟩:=RI.shape hr
 have hln:=hp.many
 have hgl:(nz l).length≤9:=by have:=mN l l.length 0;unfold nz;omega
 refine Cl.o Tryz.func258 Tryz.ntmps258 ag1 ?_
 refine .aj (.zn zg (.aj (.z zm (.z (dc ae) (.o (.va l.length hs rfl rfl ae fD rfl ai cB an fun b16 w hs=>?_))))))
 replace hs:St H w (.blk b16 (Is (vZ l 0))::σ):=hs
 refine .zn zg (.aj (.z zm (.o (.call Tryz.call282 rfl (tF hs hr hp) ?_))));rintro v18 w ⟨H1,hle1,hG,hs⟩
 have hrr:=hr.mono hle1
 obtain ⟨ag,cg,rfl⟩:=RS.shape hG
 rw [List.length_map] at hG ⊢
 refine .zn zg (.seq (.aj (.zn zg (.block ?_))))
 refine .loop (fun k:Nat=>⟨133,[],[(5,I (k:Int)),(4,.slice ag (nz l).length cg),(3,.slice (some ⟨b16,0,none⟩) l.length l.length),(0,.slice a l.length c)]⟩)
  (fun k w=>k≤(nz l).length∧St H1 w (.blk b16 (Is (vZ l k))::σ)) (fun k=>(nz l).length - k) 0 (.cJ rfl cq aU)
  ⟨Nat.zero_le _,hs⟩ ?_
 rintro k w ⟨hk,hs⟩
 refine .seq (.aj (.z zm (.z zm (.z (dc lT) (.zn fM (.bA rfl (fun hc22=>?_) (fun hc22=>?_)))))))
 ·refine .skip (nT (.seq (.block (.aj (.z zm (.z zm ?_))))))
  have hjl:k<(nz l).length:=by omega
  obtain ⟨g,hg⟩:=nth hjl
  obtain ⟨i1,i2,i3,i4,i5⟩:=xd hp (List.mem_of_getElem? hg)
  have hK:=vY hg
  have hKl:=nG l k
  have hKz:=th hp k an
  have z0:=jF (vZ l k) (v:=g.at_) (n:=l.length) an
  have z1:=jF (vZ l k) (v:=g.at_+1) (n:=l.length) an
  have hq0:=hp.bd (i:=g.at_) an
  have hq1:=hp.bd (i:=g.at_+1) an
  have hgm:((nz l).map Grp.c)[k]? =some (Grp.c g):=by rw [List.getElem?_map,hg];rfl
  generalize vZ l k=W at*
  have e1:∀x,gi (W.set g.at_ x) (g.at_+1)=gi W (g.at_+1):=fun x=>sE an x
  generalize hA:gi l (g.at_+1) - gi l g.at_=A at*
  refine .ixX (enc:=Grp.c) hs hG rfl rfl lT qy hg da ?_;intro b27 o27 hc27
  have d0:cellAt H1 b27 o27=some (I (g.at_:Int)):=hc27 0 _ rfl
  have d1:cellAt H1 b27 (o27+1)=some (I (g.n:Int)):=hc27 1 _ rfl
  refine .z (zfa gV) (.y hs (zld af) (.zn zg (.seq (.draw mix rfl hs fun w hs=>?_))))
  refine .zw 0 rfl zm ?_;refine .z 1 rfl zm ?_;refine .z 2 rfl cK ?_
  refine .ixX (enc:=fun x=>[I x]) (i:=3) hs rfl aD .none hrr rfl rfl ae ai (bB (l:=l) (i:=(g.at_+1)) an) da ?_;intro b33 o33 hc33;replace hc33:=bL.one hc33
  refine .r (i:=4) hs rfl aD .none (aJ rfl af hc33) ?_
  refine .zw 5 rfl zm ?_;refine .z 6 rfl zm ?_
  refine .ixX (enc:=fun x=>[I x]) (i:=7) hs rfl aD .none hrr rfl rfl ae ai (bB (l:=l) (i:=g.at_) an) da ?_;intro b37 o37 hc37;replace hc37:=bL.one hc37
  refine .r (i:=8) hs rfl aD .none (aJ rfl af hc37) ?_
  refine .zw 9 rfl fY ?_
  rw [hA]
  refine .zw 10 rfl zg ?_;refine .D hs ?_
  refine .seq (.aj (.z zm (.z zm (.ixX (enc:=Grp.c) hs hG rfl rfl lT qy hg da ?_))));intro b42 o42 hc42
  have d2:cellAt H1 b42 (o42+1)=some (I (g.n:Int)):=hc42 1 _ rfl
  refine .z (zfa jB) (.y hs (zld af) (.zn fm (.bA rfl (fun hc45=>?_) (fun hc45=>?_))))
  ·refine .aj (.z zm (.z zm (.q hs (eF (k:=g.at_) rfl rfl ae ai an an) (.y hs (zld af) (.z zm (.z kd (.z cK (.q hs (eF (k:=g.at_) rfl rfl ae ai an an) (.o (.store hs rfl rfl ai fun w hs=>?_))))))))))
   refine .nil (.aj (.z zm (.z zm (.z cK (.q hs (eF (k:=g.at_+1) rfl rfl ae ai an an) (.q hs (eg rfl af (hv:=fC (by rw [List.length_set];omega))) ?_))))))
   rw [e1]
   refine .z zm (.z kd (.z cK (.q hs (eF (k:=g.at_+1) rfl rfl ae ai an an) (.o (.store hs rfl rfl ai ?_ dn (by simp [Is];omega))))));intro w hs
   refine .nil (.exit (xT (xB (nT (.region (.z zm (.z cK (.zn zg (nT ?_)))))))))
   have h2:g.two=false:=by
    cases e:g.two with
    |false=>rfl
    |true=>simp [Grp.n,e] at hc45
   rw [Ck h2 hA] at hK
   have e:vZ l (k+1)=(W.set g.at_ (gi W g.at_+18*A)).set (g.at_+1) (gi W (g.at_+1)+18*A):=by rw [hK];simp only [mu];rw [e1]
   exact ⟨k+1,.cJ rfl cq aU,⟨an,by rw [e];exact hs⟩,an⟩
  ·refine .skip (nT (.seq (.draw mix rfl hs fun w hs=>?_)))
   have h2:g.two=true:=by
    cases e:g.two with
    |true=>rfl
    |false=>simp [Grp.n,e] at hc45
   obtain ⟨j1,j2,j3,j4⟩:=i4 h2
   have hq2:=hp.bd (i:=g.at_+2) an
   have z2:=jF W (v:=g.at_+2) (n:=l.length) an
   have e2:∀x y,gi ((W.set g.at_ x).set (g.at_+1) y) (g.at_+2)=gi W (g.at_+2):=fun x y=>by rw [sE an,sE an]
   generalize hB:gi l (g.at_+2) - gi l (g.at_+1)=B at*
   have hk3:=DC j4
   have hmm:=yx (a:=A) (b:=B) ⟨an,an⟩ ⟨an,an⟩
   obtain ⟨n1,n2,n3,n4⟩:=Ci hk3 hmm.1 hmm.2
   obtain ⟨n5,n6,n7,n8,n9⟩:=n4 _ n3.1 n3.2
   have hgw0:=Cj h2 hA hB rfl rfl
   refine .zw 0 rfl zm ?_;refine .z 1 rfl zm ?_;refine .z 2 rfl cK ?_
   refine .ixX (enc:=fun x=>[I x]) (i:=3) hs rfl aD .none hrr rfl rfl ae ai (bB (l:=l) (i:=(g.at_+2)) an) da ?_;intro b66 o66 hc66;replace hc66:=bL.one hc66
   refine .r (i:=4) hs rfl aD .none (aJ rfl af hc66) ?_
   refine .zw 5 rfl zm ?_;refine .z 6 rfl zm ?_;refine .z 7 rfl cK ?_
   refine .ixX (enc:=fun x=>[I x]) (i:=8) hs rfl aD .none hrr rfl rfl ae ai (bB (l:=l) (i:=(g.at_+1)) an) da ?_;intro b71 o71 hc71;replace hc71:=bL.one hc71
   refine .r (i:=9) hs rfl aD .none (aJ rfl af hc71) ?_
   refine .zw 10 rfl fY ?_
   rw [hB]
   refine .zw 11 rfl zg ?_;refine .D hs ?_
   refine .aj (.z zm (.z zm (.o (.call Tryz.call283 rfl (og hs an an) ?_))));rintro _ w ⟨rfl,hs⟩
   generalize hT:tms A B=T at*
   refine .zn zg (.aj (.z zm (.z zm (.z zR ?_))))
   generalize hM:min A B=M at*
   refine .zn zg (.aj (.z zm (.q hs (uu rfl rfl an an) (.z zm (.z cK (.z kd (.z zm (.z kd (.zn zg (.aj (.z zm (.z zm (.z kd (.z zm (.z fY (.z kd (.zn zg (.aj (.z zm (.z zm (.z kd (.z fY (.z kd (.zn zg (.cut (fun fs w=>∃x y:Int,ke fs ⟨133,[],[(13,I y),(12,I x),(11,I ((6:Int).tdiv T*(1+T)*M)),(9,I T),(6,I (g.at_:Int)),(5,I (k:Int)),(4,.slice ag (nz l).length cg),(3,.slice (some ⟨b16,0,none⟩) l.length l.length),(0,.slice a l.length c)]⟩∧(-6000000≤x∧x≤6000000)∧(-6000000≤y∧y≤6000000)∧xP l g=[x,(6:Int).tdiv T*(1+T)*M*(1+T)*(1+T),y]∧St H1 w (.blk b16 (Is W)::σ)) ?_ ?_)))))))))))))))))))))))))
   ·refine .aj (.z zm (.z zm (.zn km (.bA rfl (fun hc100=>?_) (fun hc100=>?_)))))
    ·refine .region (.z zm (.z zm (.z zg (.zn zg (nT ?_)))))
     exact ⟨_,_,aU,an,an,by rw [hgw0,if_pos hc100],hs⟩
    ·refine .skip (nT ?_)
     exact ⟨_,_,aU,an,an,by rw [hgw0,if_neg an],hs⟩
   ·rintro fs w ⟨x,y,hfs,hx,hy,hgw,hs⟩
    refine WE.sub ?_ hfs
    have e:vZ l (k+1)=((W.set g.at_ (gi W g.at_+x)).set (g.at_+1) (gi W (g.at_+1)+(6:Int).tdiv T*(1+T)*M*(1+T)*(1+T))).set (g.at_+2) (gi W (g.at_+2)+y):=by
     rw [hK,hgw];simp only [mu];rw [e1,show g.at_+1+1=g.at_+2 by omega,e2]
    refine .aj (.z zm (.z zm (.q hs (eF (k:=g.at_) rfl rfl ae ai an an) (.y hs (zld af) (.z zm (.z cK (.q hs (eF (k:=g.at_) rfl rfl ae ai an an) (.o (.store hs rfl rfl ai fun w hs=>?_)))))))))
    refine .nil (.aj (.z zm (.z zm (.z cK (.q hs (eF (k:=g.at_+1) rfl rfl ae ai an an) (.q hs (eg rfl af (hv:=fC (by rw [List.length_set];omega))) ?_))))))
    rw [e1]
    refine .z zm (.z zm (.z cK (.z kd (.z zm (.z cK (.z kd (.z cK (.q hs (eF (k:=g.at_+1) rfl rfl ae ai an an) (.o (.store hs rfl rfl ai ?_ dn (by simp [Is];omega)))))))))));intro w hs
    refine .nil (.region (.z zm (.z zm (.z cK (.q hs (eF (k:=g.at_+2) rfl rfl ae ai an an) (.q hs (eg rfl af (hv:=fC (by rw [List.length_set,List.length_set];omega))) ?_))))))
    rw [e2]
    refine .z zm (.z cK (.q hs (eF (k:=g.at_+2) rfl rfl ae ai an an) (.o (.store hs rfl rfl ai ?_ dn (by simp [Is];omega)))));intro w hs
    refine .nil (nB (nT (.region (.z zm (.z cK (.zn zg (nT ?_)))))))
    exact ⟨k+1,.cJ rfl cq aU,⟨an,by rw [e];exact hs⟩,an⟩
 ·refine .exit (xT (xT (xB (nT (.aj (.z zm (.zn zg (.ret (Fin.bE Tryz.results258 rfl ?_)))))))))
  obtain rfl:k=(nz l).length:=by omega
  rw [BU] at hs
  obtain ⟨H3,hle3,hR,hs⟩:=cZ.dS (xs:=wts l) (v:= .slice (some ⟨b16,0,none⟩) l.length l.length) (.full (by simp [Is,eY])) (by rw [eY];omega) hs .here
  exact ⟨H3,hle1.trans hle3,hR,hs⟩
theorem mJ{v:Value}{l:List Int}(hs:St H w σ)(hr:RI H v l)(hp:fB 9 100000 l):
  Cl Tryz.prog 214 [v] w fun u w'=>∃H1 vo,HLe H H1∧u= .tuple #[vo,I 0]∧RI H1 vo (wts l)∧St H1 w' σ:=by
 refine Cl.o Tryz.func214 Tryz.ntmps214 ag1 ?_
 refine .aj (.z zg (.zn zg (.seq (.aj (.z zm (.o (.call Tryz.call168 rfl (iJ hs hr) ?_)))))));rintro _ w ⟨e,rfl,he,hs⟩
 obtain rfl:e=0:=he.elim (fun h=>h.2) fun h=>(h.1 hp).elim
 refine .zn gE (.dV rfl (fun hc7=>?_) (fun hc7=>?_))
 ·refine .aj (.z zg (.zn zg (.ret (rT (Fin.gL Tryz.results214 rfl rfl ?_)))))
  exact (hc7 rfl).elim
 ·refine .skip (nT (.aj (.z zm (.o (.call Tryz.call258 rfl (jX hs hr hp) ?_)))));rintro v9 w ⟨H1,hle1,hR,hs⟩
  refine .zn zg (.aj (.z zm (.z zg (.zn zg (.ret (Fin.gL Tryz.results214 rfl rfl ?_))))))
  exact ⟨H1,_,hle1,rfl,hR,hs⟩
theorem rZ{v1 v2:Value}{a b:List Int}(hs:St H w σ)(h1:RI H v1 a)(h2:RI H v2 b)(hp1:fB 9 100000 a)(hp2:fB 7 15000 b):
  Cl Tryz.prog 257 [v1,v2] w fun u w'=>u= .bool true∧St H w' σ:=by
 refine Cl.o Tryz.func257 Tryz.ntmps257 ag2 ?_
 refine .aj (.zn zg (.aj (.z zm (.o (.call Tryz.call217 rfl (kx (many:=9) (most:=100000) hs h1 an) ?_)))));rintro _ w ⟨b6,rfl,hb6,hs⟩
 refine .z zm (.bif (t':=7) rfl (fun hb7=>?_) (fun hb7=>?_))
 ·refine .T (.z zm (.T (.o (.call Tryz.call217 rfl (kx (many:=7) (most:=15000) hs h2 an) ?_))));rintro _ w ⟨b9,rfl,hb9,hs⟩
  refine .z zpT (.zn zg (.ret (Fin.bE Tryz.results257 rfl ?_)))
  exact ⟨by rw [hb9.2 hp2],hs⟩
 ·refine .Fs 2 2 true (.z zpF (.zn zg (.ret (Fin.bE Tryz.results257 rfl ?_))))
  rw [hb6.2 hp1] at hb7;cases hb7
set_option maxHeartbeats 1000000 in
theorem wP{v1 v2:Value}{l1 l2:List Int}(hs:St H w σ)(hr1:RI H v1 l1)(hr2:RI H v2 l2)(hp1:fB 9 100000 l1)(hp2:fB 7 15000 l2):
  Cl Tryz.prog 213 [v1,v2] w fun u w'=>∃H1 vo,HLe H H1∧u= .tuple #[vo,I 0]∧RT H1 vo (nA (wts l1) (wts l2) l1.length)∧St H1 w' σ:=by
 obtain ⟨a1,c1,rfl⟩:=RI.shape hr1
 obtain ⟨a2,c2,rfl⟩:=RI.shape hr2
 have hn1:=hp1.many
 have hn2:=hp2.many
 have hp2':fB 9 100000 l2:=⟨hp2.two,an,hp2.low,by have:=hp2.high;omega,hp2.rise⟩
 have hXl:=eY l1
 have hYl:=eY l2
 have hXb:=BT hp1
 have hYb:=BT hp2
 refine Cl.o Tryz.func213 Tryz.ntmps213 ag2 ?_
 refine .aj (.z zg (.zn zg (.seq (.aj (.z zm (.z zm (.o (.call Tryz.call257 rfl (rZ hs hr1 hr2 hp1 hp2) ?_))))))));rintro _ w ⟨rfl,hs⟩
 refine .zn fZ (.cond rfl (fun hc15=>?_) (fun hc15=>?_))
 ·refine .aj (.z zg (.zn zg (.ret (rT (Fin.gL Tryz.results213 rfl rfl ?_)))))
  cases hc15
 ·refine .skip (nT (.aj (.z zm (.o (.call Tryz.call258 rfl (jX hs hr1 hp1) ?_)))));rintro v17 w ⟨H1,hle1,hX,hs⟩
  refine .zn zg (.aj (.z zm (.o (.call Tryz.call258 rfl (jX hs (hr2.mono hle1) hp2') ?_))));rintro v19 w ⟨H2,hle2,hY,hs⟩
  replace hX:=hX.mono hle2
  generalize wts l1=X at*
  generalize wts l2=Y at*
  obtain ⟨aX,cX,rfl⟩:=RI.shape hX
  obtain ⟨aY,cY,rfl⟩:=RI.shape hY
  refine .zn zg (.aj (.zn zg (.seq (.aj (.zn zg (.block ?_))))))
  refine .loop (fun p:Nat×Value=>⟨49,[],[(9,I (p.1:Int)),(8,p.2),(7,.slice aY Y.length cY),(6,.slice aX X.length cX)]⟩)
   (fun p w=>p.1≤X.length∧∃H3 us en,HLe H2 H3∧RLs H3 us (nA X Y p.1)∧cZ 1 p.2 us en∧St H3 w (en::σ)) (fun p=>X.length - p.1) (0,.slice none 0 0) aU
   ⟨Nat.zero_le _,H2,[],_,HLe.refl _,RLs.nil _,.nil 1 none,hs.nul⟩ ?_
  rintro ⟨i,vo⟩ w ⟨hi,H3,us,en,hle3,hRL,hO,hs⟩
  dsimp only at hi hRL hO ⊢
  have husl:us.length=i:=by rw [hRL.1,kN]
  refine .seq (.aj (.z zm (.z zm (.z (dc ae) (.zn fM (.bA rfl (fun hc23=>?_) (fun hc23=>?_)))))))
  ·refine .skip (nT (.seq (.block (.aj (.zn zg (.seq (.aj (.zn zg (.block ?_)))))))))
   refine .loop (fun p:Nat×Value=>⟨49,[],[(11,I (p.1:Int)),(10,p.2),(9,I (i:Int)),(8,vo),(7,.slice aY Y.length cY),(6,.slice aX X.length cX)]⟩)
    (fun p w=>p.1≤Y.length∧∃en2,cZ 1 p.2 (Is ((zS X Y i).take p.1)) en2∧St H3 w (en2::en::σ)) (fun p=>Y.length - p.1) (0,.slice none 0 0) aU
    ⟨Nat.zero_le _,_,.nil 1 none,hs.nul⟩ ?_
   rintro ⟨k,vr⟩ w ⟨hk,en2,hO2,hs⟩
   dsimp only at hk hO2 ⊢
   refine .seq (.aj (.z zm (.z zm (.z (dc ae) (.zn fM (.bA rfl (fun hc29=>?_) (fun hc29=>?_)))))))
   ·refine .skip (nT (.seq (.block (.draw mix rfl hs fun w hs=>?_))))
    refine .zw 0 rfl zm ?_;refine .z 1 rfl zm ?_;refine .z 2 rfl zm ?_
    have hkm:k<Y.length:=by omega
    have hb1:=hXb i
    have hb2:=hYb k
    have hprb: -3456000000000≤gi X i*gi Y k∧gi X i*gi Y k≤3456000000000:=j5 (A:=4800000) (B:=720000) (by unfold ab at hb1;omega) (by unfold ab at hb2;omega)
    refine .ixX (enc:=fun x=>[I x]) (i:=3) hs rfl aD .none (hX.mono hle3) rfl rfl ae ai (bB (l:=X) (i:=i) an) da ?_;intro b35 o35 hc35;replace hc35:=bL.one hc35
    refine .r (i:=4) hs rfl aD .none (aJ rfl af hc35) ?_
    refine .zw 5 rfl zm ?_;refine .z 6 rfl zm ?_
    refine .ixX (enc:=fun x=>[I x]) (i:=7) hs rfl aD .none (hY.mono hle3) rfl rfl ae ai (bB (l:=Y) (i:=k) an) da ?_;intro b39 o39 hc39;replace hc39:=bL.one hc39
    refine .r (i:=8) hs rfl aD .none (aJ rfl af hc39) ?_
    refine .zw 9 rfl kd (.E 10 hs ?_)
    refine .buildSlice (cells:=[_]) hs db rfl rfl ?_;intro b42 w hs
    refine .go (.E 11 hs ?_)
    refine .append (ys:=Is [gi X i*gi Y k]) hs cM rfl rfl hO2 (.own .here rfl rfl) (iL _) (fun l' h=>by simp at h;omega) ?_;intro v43 en43 w hO43 hs
    rw [show Is ((zS X Y i).take k)++Is [gi X i*gi Y k]=Is ((zS X Y i).take (k+1)) by rw [Af hkm];simp [Is]] at hO43
    refine .go (.zw 12 rfl zg ?_);refine .D hs ?_
    refine nB (nT (.region (.z zm (.z cK (.zn zg (nT ?_))))))
    exact ⟨(k+1,v43),.cJ rfl cq aU,⟨by dsimp only;omega,_,hO43,hs.sb⟩,by dsimp only;omega⟩
   ·refine .exit (xT (xT (xB (nT (.region (.z zm (.z zm ?_)))))))
    obtain ⟨H4,hle4,hR,hs⟩:=cZ.dS hO2 (by rw [List.length_take,kq];omega) hs .here
    rw [List.take_of_length_le (by rw [kq];omega)] at hR
    obtain ⟨ar,cr,rfl⟩:=RI.shape hR
    refine .o (.buildSlice (cells:=[_]) hs xU rfl rfl fun b46 w hs=>?_)
    refine .o (.append (ys:=[.slice ar (zS X Y i).length cr]) hs rA rfl rfl hO (.own .here rfl rfl) (by simp [Value.oneCell']) (fun l' h=>by omega) fun v47 en47 w hO47 hs=>?_)
    have hRL':RLs H4 (us++[.slice ar (zS X Y i).length cr]) (nA X Y (i+1)):=by rw [yC];exact (hRL.mono hle4).snoc hR
    refine .zn zg (nB (nT (.region (.z zm (.z cK (.zn zg (nT ?_)))))))
    exact ⟨(i+1,v47),.cJ rfl cq aU,⟨by dsimp only;omega,H4,_,_,hle3.trans hle4,hRL',hO47,hs.sb⟩,by dsimp only;omega⟩
  ·refine .exit (xT (xT (xB (nT (.aj (.z zm (.z zg (.zn zg (.ret (Fin.gL Tryz.results213 rfl rfl ?_))))))))))
   obtain rfl:i=X.length:=by omega
   obtain ⟨H5,hle5,hR,hs⟩:=hRL.di hO an hs .here
   exact ⟨H5,_,hle1.trans (hle2.trans (hle3.trans hle5)),rfl,by rw [←hXl];exact hR,hs⟩
theorem bT{a0 a1 a2:Int}(hs:St H w σ):Cl Tryz.prog 164 [I a0,I a1,I a2] w fun v w'=>v= .bool (decide (a1≤a0∧a0≤a2))∧St H w' σ:=by
 refine Cl.o Tryz.func164 Tryz.ntmps164 ag3 ?_
 refine .aj (.zn zg (.aj (.z zm (.z zm (.z nF (.z zm (.gX (t':=10) rfl (fun hb10=>?_) (fun hb10=>?_))))))))
 ·refine .T (.z zm (.T (.z zm (.T (.z nF (.z zpT (.zn zg (.ret (Fin.bE Tryz.results164 rfl ?_)))))))))
  exact ⟨by simp [*],hs.out⟩
 ·refine .Fs 3 3 true (.z zpF (.zn zg (.ret (Fin.bE Tryz.results164 rfl ?_))))
  exact ⟨by simp [*],hs.out⟩
theorem iW{a0:Int}(hs:St H w σ):Cl Tryz.prog 165 [I a0] w fun v w'=>v= .bool (decide (1≤a0∧a0≤99999))∧St H w' σ:=by
 refine Cl.o Tryz.func165 Tryz.ntmps165 ag1 ?_
 refine .aj (.zn zg (.aj (.z zm (.o (.call dZ rfl (bT hs) ?_)))));rintro _ w ⟨rfl,hs⟩
 refine .zn zg (.ret (Fin.bE Tryz.results165 rfl ?_))
 exact ⟨rfl,hs⟩
theorem jZ{s:Spc}{vst vwa:Value}(hs:St H w σ)(h1:RI H vst s.st)(h2:RI H vwa s.wa):
  Cl Tryz.prog 111 [.agg #[I s.id,I s.src,vst,vwa,I s.al,I s.up]] w fun v w'=>∃H1 e,HLe H H1∧v=I e∧((fA s∧e=0)∨(¬fA s∧e=30))∧St H1 w' σ:=by
 obtain ⟨ast,cst,rfl⟩:=RI.shape h1
 obtain ⟨awa,cwa,rfl⟩:=RI.shape h2
 refine Cl.o Tryz.func111 Tryz.ntmps111 ag1 ?_
 refine .aj (.bx hs fun b1 w hs=>?_)
 refine .zn zg (.seq (.aj (.z (zfa bV) (.y hs (zld aq) (.z (zfa bh) (.y hs (zld aq) (.o (.call Tryz.call163 rfl (oZ hs h1 h2) ?_))))))));rintro _ w ⟨H1,vo,e,hle1,rfl,hG,hG',hs⟩
 refine .z zm (.z zex (.z zex (.z zg (.zn zg (.aj (.z zm (.z gE (.z zm (.AS (t':=15) rfl (fun hb15=>?_) (fun hb15=>?_))))))))))
 ·refine .Fs 4 2 false (.z zpT (.z zm (.Fs 4 8 false (.z zpT (.z zm (.Fs 5 14 false (.z zpT (.z zm (.Fs 5 21 false (.zn zpT (.cT (.aj (.zn zg (.ret (rT (Fin.bE vF rfl ?_))))))))))))))))
  exact ⟨H1,_,hle1,rfl,.inr ⟨fun h=>by have:=(hG ⟨h.st,h.wa⟩).1;simp_all,rfl⟩,hs.out⟩
 ·refine .T (.z (zfa mX) (.T (.y hs (zld af) (.T (.o (.call dZ rfl (bT hs) ?_))))));rintro _ w ⟨rfl,hs⟩
  refine .T (.z fZ (.z zpF (.z zm (.bif (t':=21) rfl (fun hb21=>?_) (fun hb21=>?_)))))
  ·refine .Fs 4 8 false (.z zpT (.z zm (.Fs 5 14 false (.z zpT (.z zm (.Fs 5 21 false (.zn zpT (.cT (.aj (.zn zg (.ret (rT (Fin.bE vF rfl ?_)))))))))))))
   exact ⟨H1,_,hle1,rfl,.inr ⟨fun h=>by have:=h.id;simp_all,rfl⟩,hs.out⟩
  ·refine .T (.z (zfa ed) (.T (.y hs (zld af) (.T (.o (.call Tryz.call165 rfl (iW hs) ?_))))));rintro _ w ⟨rfl,hs⟩
   refine .T (.z fZ (.z zpF (.z zm (.bif (t':=27) rfl (fun hb27=>?_) (fun hb27=>?_)))))
   ·refine .Fs 5 14 false (.z zpT (.z zm (.Fs 5 21 false (.zn zpT (.cT (.aj (.zn zg (.ret (rT (Fin.bE vF rfl ?_))))))))))
    exact ⟨H1,_,hle1,rfl,.inr ⟨fun h=>by have:=h.src;simp_all,rfl⟩,hs.out⟩
   ·refine .T (.z (zfa eC) (.T (.z (zfa kb) (.T (.y hs (zld af) (.T (.o (.call dZ rfl (bT hs) ?_))))))));rintro _ w ⟨rfl,hs⟩
    refine .T (.z fZ (.z zpF (.z zm (.bif (t':=34) rfl (fun hb34=>?_) (fun hb34=>?_)))))
    ·refine .Fs 5 21 false (.zn zpT (.cT (.aj (.zn zg (.ret (rT (Fin.bE vF rfl ?_)))))))
     exact ⟨H1,_,hle1,rfl,.inr ⟨fun h=>by have:=h.al;simp_all,rfl⟩,hs.out⟩
    ·refine .T (.z (zfa eC) (.T (.z (zfa ka) (.T (.y hs (zld af) (.T (.o (.call dZ rfl (bT hs) ?_))))))));rintro _ w ⟨rfl,hs⟩
     refine .T (.z fZ (.zn zpF (.cond rfl (fun hc40=>?_) (fun hc40=>?_))))
     ·refine .aj (.zn zg (.ret (rT (Fin.bE vF rfl ?_))))
      exact ⟨H1,_,hle1,rfl,.inr ⟨fun h=>by have:=h.up;simp_all,rfl⟩,hs.out⟩
     ·refine .skip (nT (.aj (.zn zg (.ret (Fin.bE vF rfl ?_)))))
      have hg:=hG' (by simp_all)
      exact ⟨H1,_,hle1,rfl,.inl ⟨⟨hg.1,hg.2,by simp_all,by simp_all,by simp_all,by simp_all⟩,rfl⟩,hs.out⟩
theorem oJ{s:Spc}{r:Rdg}{vst vwa:Value}(hs:St H w σ)(h1:RI H vst s.st)(h2:RI H vwa s.wa):
  Cl Tryz.prog 120 [.agg #[I s.id,I s.src,vst,vwa,I s.al,I s.up],.agg #[I r.src,I r.st,I r.wa,I r.val,I r.tol,I r.tape,I r.day]] w fun v w'=>∃b:Bool,v= .bool b∧(b=true↔nD s r)∧St H w' σ:=by
 obtain ⟨ast,cst,rfl⟩:=RI.shape h1
 obtain ⟨awa,cwa,rfl⟩:=RI.shape h2
 have l1:=(RI.len h1).2.2
 have l2:=(RI.len h2).2.2
 refine Cl.o Tryz.func120 Tryz.ntmps120 ag2 ?_
 refine .aj (.bx hs fun b2 w hs=>?_)
 refine .bx hs fun b3 w hs=>?_
 refine .zn zg (.aj (.z (zfa eV) (.y hs (zld af) (.o (.call Tryz.call165 rfl (iW hs) ?_)))));rintro _ w ⟨rfl,hs⟩
 refine .z zm (.bif (t':=8) rfl (fun hb8=>?_) (fun hb8=>?_))
 ·refine .T ?_
  refine .z (zfa gI) (.T (.y hs (zld af) (.T (.z (zfa bV) (.T (.y hs (zld aq) (.T (.z (dc ae) (.T (.z fY (.T (.o (.call dZ rfl (bT hs) ?_)))))))))))));rintro _ w ⟨rfl,hs⟩
  refine .z zpT (.z zm (.bif (t':=17) rfl (fun hb17=>?_) (fun hb17=>?_)))
  ·refine .T ?_
   refine .z (zfa gH) (.T (.y hs (zld af) (.T (.z (zfa bh) (.T (.y hs (zld aq) (.T (.z (dc ae) (.T (.z fY (.T (.o (.call dZ rfl (bT hs) ?_)))))))))))));rintro _ w ⟨rfl,hs⟩
   refine .z zpT (.z zm (.bif (t':=26) rfl (fun hb26=>?_) (fun hb26=>?_)))
   ·refine .T (.z (zfa dr) (.T (.y hs (zld af) (.T (.o (.call dZ rfl (bT hs) ?_))))));rintro _ w ⟨rfl,hs⟩
    refine .z zpT (.z zm (.bif (t':=31) rfl (fun hb31=>?_) (fun hb31=>?_)))
    ·refine .T (.z (zfa dC) (.T (.y hs (zld af) (.T (.z (zfa dr) (.T (.y hs (zld af) (.T ?_))))))))
     have ht:0≤r.tol∧r.tol≤1000:=by simp_all
     refine .z fY (.T (.o (.call dZ rfl (bT hs) ?_)));rintro _ w ⟨rfl,hs⟩
     refine .z zpT (.z zm (.bif (t':=39) rfl (fun hb39=>?_) (fun hb39=>?_)))
     ·refine .T (.z (zfa eU) (.T (.y hs (zld af) (.T (.o (.call dZ rfl (bT hs) ?_))))));rintro _ w ⟨rfl,hs⟩
      refine .z zpT (.z zm (.bif (t':=44) rfl (fun hb44=>?_) (fun hb44=>?_)))
      ·refine .T (.z (zfa eT) (.T (.y hs (zld af) (.T (.o (.call dZ rfl (bT hs) ?_))))));rintro _ w ⟨rfl,hs⟩
       refine .z zpT (.zn zg (.ret (Fin.bE oD rfl ?_)))
       first
       |exact ⟨false,rfl,⟨fun h=>(by cases h),fun h=>(by obtain ⟨g1,g2,g3,g4,g5,g6,g7⟩:=h;simp_all;done)⟩,hs.out⟩
       |exact ⟨_,rfl,⟨fun h=>⟨by simp_all,by simp_all,by simp_all,by simp_all,by simp_all,by simp_all,by simpa using h⟩,fun h=>by simpa using h.day⟩,hs.out⟩
      ·refine .Fs 3 39 true (.z zpF (.zn zg (.ret (Fin.bE oD rfl ?_))))
       first
       |exact ⟨false,rfl,⟨fun h=>(by cases h),fun h=>(by obtain ⟨g1,g2,g3,g4,g5,g6,g7⟩:=h;simp_all;done)⟩,hs.out⟩
       |exact ⟨_,rfl,⟨fun h=>⟨by simp_all,by simp_all,by simp_all,by simp_all,by simp_all,by simp_all,by simpa using h⟩,fun h=>by simpa using h.day⟩,hs.out⟩
     ·refine .Fs 3 34 true (.z zpF (.z zm (.Fs 3 39 true (.z zpF (.zn zg (.ret (Fin.bE oD rfl ?_)))))))
      first
      |exact ⟨false,rfl,⟨fun h=>(by cases h),fun h=>(by obtain ⟨g1,g2,g3,g4,g5,g6,g7⟩:=h;simp_all;done)⟩,hs.out⟩
      |exact ⟨_,rfl,⟨fun h=>⟨by simp_all,by simp_all,by simp_all,by simp_all,by simp_all,by simp_all,by simpa using h⟩,fun h=>by simpa using h.day⟩,hs.out⟩
    ·refine .Fs 6 26 true (.z zpF (.z zm (.Fs 3 34 true (.z zpF (.z zm (.Fs 3 39 true (.z zpF (.zn zg (.ret (Fin.bE oD rfl ?_))))))))))
     first
     |exact ⟨false,rfl,⟨fun h=>(by cases h),fun h=>(by obtain ⟨g1,g2,g3,g4,g5,g6,g7⟩:=h;simp_all;done)⟩,hs.out⟩
     |exact ⟨_,rfl,⟨fun h=>⟨by simp_all,by simp_all,by simp_all,by simp_all,by simp_all,by simp_all,by simpa using h⟩,fun h=>by simpa using h.day⟩,hs.out⟩
   ·refine .Fs 3 21 true (.z zpF (.z zm (.Fs 6 26 true (.z zpF (.z zm (.Fs 3 34 true (.z zpF (.z zm (.Fs 3 39 true (.z zpF (.zn zg (.ret (Fin.bE oD rfl ?_)))))))))))))
    first
    |exact ⟨false,rfl,⟨fun h=>(by cases h),fun h=>(by obtain ⟨g1,g2,g3,g4,g5,g6,g7⟩:=h;simp_all;done)⟩,hs.out⟩
    |exact ⟨_,rfl,⟨fun h=>⟨by simp_all,by simp_all,by simp_all,by simp_all,by simp_all,by simp_all,by simpa using h⟩,fun h=>by simpa using h.day⟩,hs.out⟩
  ·refine .Fs 7 12 true (.z zpF (.z zm (.Fs 3 21 true (.z zpF (.z zm (.Fs 6 26 true (.z zpF (.z zm (.Fs 3 34 true (.z zpF (.z zm (.Fs 3 39 true (.z zpF (.zn zg (.ret (Fin.bE oD rfl ?_))))))))))))))))
   first
   |exact ⟨false,rfl,⟨fun h=>(by cases h),fun h=>(by obtain ⟨g1,g2,g3,g4,g5,g6,g7⟩:=h;simp_all;done)⟩,hs.out⟩
   |exact ⟨_,rfl,⟨fun h=>⟨by simp_all,by simp_all,by simp_all,by simp_all,by simp_all,by simp_all,by simpa using h⟩,fun h=>by simpa using h.day⟩,hs.out⟩
 ·refine .Fs 7 3 true (.z zpF (.z zm (.Fs 7 12 true (.z zpF (.z zm (.Fs 3 21 true (.z zpF (.z zm (.Fs 6 26 true (.z zpF (.z zm (.Fs 3 34 true (.z zpF (.z zm (.Fs 3 39 true (.z zpF (.zn zg (.ret (Fin.bE oD rfl ?_)))))))))))))))))))
  first
  |exact ⟨false,rfl,⟨fun h=>(by cases h),fun h=>(by obtain ⟨g1,g2,g3,g4,g5,g6,g7⟩:=h;simp_all;done)⟩,hs.out⟩
  |exact ⟨_,rfl,⟨fun h=>⟨by simp_all,by simp_all,by simp_all,by simp_all,by simp_all,by simp_all,by simpa using h⟩,fun h=>by simpa using h.day⟩,hs.out⟩
theorem oK{c:Cmp}(hs:St H w σ):
  Cl Tryz.prog 170 [.agg #[I c.src,I c.tape,I c.fr,I c.to,I c.lo,I c.hi]] w fun v w'=>∃b:Bool,v= .bool b∧(b=true↔rE c)∧St H w' σ:=by
 refine Cl.o Tryz.func170 Tryz.ntmps170 ag1 ?_
 refine .aj (.bx hs fun b1 w hs=>?_)
 refine .zn zg (.aj (.z (zfa iD) (.y hs (zld af) (.o (.call Tryz.call165 rfl (iW hs) ?_)))));rintro _ w ⟨rfl,hs⟩
 refine .z zm (.bif (t':=6) rfl (fun hb6=>?_) (fun hb6=>?_))
 ·refine .T (.z (zfa jH) (.T (.y hs (zld af) (.T (.o (.call dZ rfl (bT hs) ?_))))));rintro _ w ⟨rfl,hs⟩
  refine .z zpT (.z zm (.bif (t':=11) rfl (fun hb11=>?_) (fun hb11=>?_)))
  ·refine .T (.z (zfa gJ) (.T (.y hs (zld af) (.T (.z (zfa fK) (.T (.y hs (zld af) (.T (.o (.call dZ rfl (bT hs) ?_))))))))));rintro _ w ⟨rfl,hs⟩
   refine .z zpT (.z zm (.bif (t':=18) rfl (fun hb18=>?_) (fun hb18=>?_)))
   ·refine .T (.z (zfa fK) (.T (.y hs (zld af) (.T (.o (.call dZ rfl (bT hs) ?_))))));rintro _ w ⟨rfl,hs⟩
    refine .z zpT (.z zm (.bif (t':=23) rfl (fun hb23=>?_) (fun hb23=>?_)))
    ·refine .T (.z (zfa fJ) (.T (.y hs (zld af) (.T (.z (zfa fI) (.T (.y hs (zld af) (.T (.o (.call dZ rfl (bT hs) ?_))))))))));rintro _ w ⟨rfl,hs⟩
     refine .z zpT (.z zm (.bif (t':=30) rfl (fun hb30=>?_) (fun hb30=>?_)))
     ·refine .T (.z (zfa fI) (.T (.y hs (zld af) (.T (.o (.call dZ rfl (bT hs) ?_))))));rintro _ w ⟨rfl,hs⟩
      refine .z zpT (.zn zg (.ret (Fin.bE vD rfl ?_)))
      first
      |exact ⟨false,rfl,⟨fun h=>(by cases h),fun h=>(by obtain ⟨g1,g2,g3,g4,g5,g6⟩:=h;simp_all;omega)⟩,hs.out⟩
      |exact ⟨false,rfl,⟨fun h=>(by cases h),fun h=>(by obtain ⟨g1,g2,g3,g4,g5,g6⟩:=h;simp_all;done)⟩,hs.out⟩
      |exact ⟨_,rfl,⟨fun h=>⟨by simp_all,by simp_all,by simp_all,by simp_all,by simp_all,(by simpa using h:_∧_).2⟩,fun h=>by have:=h.lo;have:=h.hi;simp;omega⟩,hs.out⟩
     ·refine .Fs 3 27 true (.z zpF (.zn zg (.ret (Fin.bE vD rfl ?_))))
      first
      |exact ⟨false,rfl,⟨fun h=>(by cases h),fun h=>(by obtain ⟨g1,g2,g3,g4,g5,g6⟩:=h;simp_all;omega)⟩,hs.out⟩
      |exact ⟨false,rfl,⟨fun h=>(by cases h),fun h=>(by obtain ⟨g1,g2,g3,g4,g5,g6⟩:=h;simp_all;done)⟩,hs.out⟩
      |exact ⟨_,rfl,⟨fun h=>⟨by simp_all,by simp_all,by simp_all,by simp_all,by simp_all,(by simpa using h:_∧_).2⟩,fun h=>by have:=h.lo;have:=h.hi;simp;omega⟩,hs.out⟩
    ·refine .Fs 5 20 true (.z zpF (.z zm (.Fs 3 27 true (.z zpF (.zn zg (.ret (Fin.bE vD rfl ?_)))))))
     first
     |exact ⟨false,rfl,⟨fun h=>(by cases h),fun h=>(by obtain ⟨g1,g2,g3,g4,g5,g6⟩:=h;simp_all;omega)⟩,hs.out⟩
     |exact ⟨false,rfl,⟨fun h=>(by cases h),fun h=>(by obtain ⟨g1,g2,g3,g4,g5,g6⟩:=h;simp_all;done)⟩,hs.out⟩
     |exact ⟨_,rfl,⟨fun h=>⟨by simp_all,by simp_all,by simp_all,by simp_all,by simp_all,(by simpa using h:_∧_).2⟩,fun h=>by have:=h.lo;have:=h.hi;simp;omega⟩,hs.out⟩
   ·refine .Fs 3 15 true (.z zpF (.z zm (.Fs 5 20 true (.z zpF (.z zm (.Fs 3 27 true (.z zpF (.zn zg (.ret (Fin.bE vD rfl ?_))))))))))
    first
    |exact ⟨false,rfl,⟨fun h=>(by cases h),fun h=>(by obtain ⟨g1,g2,g3,g4,g5,g6⟩:=h;simp_all;omega)⟩,hs.out⟩
    |exact ⟨false,rfl,⟨fun h=>(by cases h),fun h=>(by obtain ⟨g1,g2,g3,g4,g5,g6⟩:=h;simp_all;done)⟩,hs.out⟩
    |exact ⟨_,rfl,⟨fun h=>⟨by simp_all,by simp_all,by simp_all,by simp_all,by simp_all,(by simpa using h:_∧_).2⟩,fun h=>by have:=h.lo;have:=h.hi;simp;omega⟩,hs.out⟩
  ·refine .Fs 5 8 true (.z zpF (.z zm (.Fs 3 15 true (.z zpF (.z zm (.Fs 5 20 true (.z zpF (.z zm (.Fs 3 27 true (.z zpF (.zn zg (.ret (Fin.bE vD rfl ?_)))))))))))))
   first
   |exact ⟨false,rfl,⟨fun h=>(by cases h),fun h=>(by obtain ⟨g1,g2,g3,g4,g5,g6⟩:=h;simp_all;omega)⟩,hs.out⟩
   |exact ⟨false,rfl,⟨fun h=>(by cases h),fun h=>(by obtain ⟨g1,g2,g3,g4,g5,g6⟩:=h;simp_all;done)⟩,hs.out⟩
   |exact ⟨_,rfl,⟨fun h=>⟨by simp_all,by simp_all,by simp_all,by simp_all,by simp_all,(by simpa using h:_∧_).2⟩,fun h=>by have:=h.lo;have:=h.hi;simp;omega⟩,hs.out⟩
 ·refine .Fs 3 3 true (.z zpF (.z zm (.Fs 5 8 true (.z zpF (.z zm (.Fs 3 15 true (.z zpF (.z zm (.Fs 5 20 true (.z zpF (.z zm (.Fs 3 27 true (.z zpF (.zn zg (.ret (Fin.bE vD rfl ?_))))))))))))))))
  first
  |exact ⟨false,rfl,⟨fun h=>(by cases h),fun h=>(by obtain ⟨g1,g2,g3,g4,g5,g6⟩:=h;simp_all;omega)⟩,hs.out⟩
  |exact ⟨false,rfl,⟨fun h=>(by cases h),fun h=>(by obtain ⟨g1,g2,g3,g4,g5,g6⟩:=h;simp_all;done)⟩,hs.out⟩
  |exact ⟨_,rfl,⟨fun h=>⟨by simp_all,by simp_all,by simp_all,by simp_all,by simp_all,(by simpa using h:_∧_).2⟩,fun h=>by have:=h.lo;have:=h.hi;simp;omega⟩,hs.out⟩
theorem nm{s:Spc}{vst vwa:Value}(hs:St H w σ)(h1:RI H vst s.st)(h2:RI H vwa s.wa)(hb:s.st.length≤1000∧s.wa.length≤1000):
  Cl Tryz.prog 196 [.agg #[I s.id,I s.src,vst,vwa,I s.al,I s.up]] w fun v w'=>v=I (s.many:Int)∧St H w' σ:=by
 obtain ⟨ast,cst,rfl⟩:=RI.shape h1
 obtain ⟨awa,cwa,rfl⟩:=RI.shape h2
 have hm:=j5 (a:=(s.st.length:Int)) (b:=(s.wa.length:Int)) (A:=1000) (B:=1000) an an
 refine Cl.o Tryz.func196 Tryz.ntmps196 ag1 ?_
 refine .aj (.bx hs fun b1 w hs=>?_)
 refine .zn zg (.aj (.z (zfa bV) (.y hs (zld aq) (.z (dc ae) (.z (zfa bh) (.y hs (zld aq) (.z (dc ae) (.z kd (.zn zg (.ret (Fin.bE Tryz.results196 rfl ?_)))))))))))
 exact ⟨by unfold Spc.many;rw [Int.natCast_mul],hs.out⟩
theorem qj{s:Spc}{vst vwa:Value}{a b:Int}(hs:St H w σ)(h2:RI H vwa s.wa)(hb:s.wa.length≤1000)(ha: -1000≤a∧a≤1000)(hb': -1000≤b∧b≤1000):
  Cl Tryz.prog 247 [.agg #[I s.id,I s.src,vst,vwa,I s.al,I s.up],I a,I b] w fun v w'=>v=I (1+a*s.wa.length+b)∧St H w' σ:=by
 obtain ⟨awa,cwa,rfl⟩:=RI.shape h2
 have hm:=j5 (a:=a) (b:=(s.wa.length:Int)) (A:=1000) (B:=1000) an an
 refine Cl.o Tryz.func247 Tryz.ntmps247 ag3 ?_
 refine .aj (.bx hs fun b3 w hs=>?_)
 refine .zn zg (.aj (.z zm (.z (zfa bh) (.y hs (zld aq) (.z (dc ae) (.z kd (.z cK (.z zm (.z cK (.zn zg (.ret (Fin.bE Tryz.results247 rfl ?_))))))))))))
 exact ⟨rfl,hs.out⟩
theorem jM{r:Rdg}(hs:St H w σ):
  Cl Tryz.prog 241 [.agg #[I r.src,I r.st,I r.wa,I r.val,I r.tol,I r.tape,I r.day]] w fun v w'=>v= .agg #[I r.tape,I r.day]∧St H w' σ:=by
 refine Cl.o Tryz.func241 Tryz.ntmps241 ag1 ?_
 refine .aj (.bx hs fun b1 w hs=>?_)
 refine .o (.alloc hs lY rfl fun b2 w hs=>?_)
 refine .nil (.aj (.z (zfa eU) (.y hs (zld af) (.z (zfa eT) (.y hs (zld af) (.z (zbd [_,_] jg) (.o (.aP (vs:=[_,_]) hs rfl rfl bZ fun w hs=>?_))))))))
 refine .nil (.ret ?_)
 exact Fin.iM [] [] hs fun w hs=>⟨_,results1 Tryz.results241 (dy (vs:=[_,_]) hs rfl eH bZ),rfl,hs.out⟩
theorem np{a b:Int}(hs:St H w σ)(ha:0≤a∧a≤100000)(hb:0≤b∧b≤100000):
  Cl Tryz.prog 243 [I a,I b] w fun v w'=>v=I (lh a b)∧St H w' σ:=by
 have hm:=j5 (a:=a) (b:=b) (A:=100000) (B:=100000) an an
 have h0:=Int.mul_nonneg ha.1 hb.1
 have hq0:0≤(a*b+999).tdiv 1000:=Int.tdiv_nonneg an an
 have hq1:(a*b+999).tdiv 1000≤a*b+999:=by rw [Int.tdiv_eq_ediv_of_nonneg an];omega
 refine Cl.o Tryz.func243 Tryz.ntmps243 ag2 ?_
 refine .aj (.zn zg (.aj (.z zm (.z zm (.z kd (.z cK (.q hs (uu rfl rfl an an) (.z zR (.zn zg (.ret (Fin.bE Tryz.results243 rfl ?_)))))))))))
 exact ⟨rfl,hs⟩
def yI(s:Spc):List (List Value):=(List.range s.many).map fun p=>[Value.agg #[I ((p/s.wa.length:Nat):Int),I ((p%s.wa.length:Nat):Int),I ((p+1:Nat):Int)]]
theorem eQ(s:Spc):(yI s).length=s.many:=by simp [yI]
theorem nQ{s:Spc}{p:Nat}(h:p<(yI s).length):(yI s)[p]=[Value.agg #[I ((p/s.wa.length:Nat):Int),I ((p%s.wa.length:Nat):Int),I ((p+1:Nat):Int)]]:=by simp [yI]
theorem sf{H:cD}{b:Nat}{s:Spc}{vst vwa:Value}(hb:Row H b [I s.id,I s.src,vst,vwa,I s.al,I s.up])(h1:RI H vst s.st)(h2:RI H vwa s.wa)(hbd:s.st.length≤1000∧s.wa.length≤1000):
  Iter Tryz.prog 188 [Pt b] H (yI s):=by
 intro ly II Ix hmI _ hy H0 σb0 σf w hle hI0 hs
 obtain ⟨ast,cst,rfl⟩:=RI.shape h1
 obtain ⟨awa,cwa,rfl⟩:=RI.shape h2
 have g2:cellAt H0 b 2=some (.slice ast s.st.length cst):=cellAt.mono (hb.at 2) hle
 have g3:cellAt H0 b 3=some (.slice awa s.wa.length cwa):=cellAt.mono (hb.at 3) hle
 have hm:s.many≤1000000:=Nat.mul_le_mul hbd.1 hbd.2
 refine Cl.o Tryz.func188 Tryz.ntmps188 ag2 ?_
 refine .aj (.zn zg (.aj (.z (zfa bV) (.y hs (zld aq) (.z (dc ae) (.zn zm (.for (N:=s.st.length) (J:=fun i fr w=>fr=[(3,I ((i*s.wa.length:Nat):Int)),(0,.func (.yield ly) #[] #[]),(1,Pt b)]∧∃H1 σb,HLe H H1∧HLe H0 H1∧II (i*s.wa.length) H1 σb∧St H1 w (σb++σf)) an ?_ ?_ ?_)))))))
 ·exact .mk ⟨by rw [Nat.zero_mul],H0,σb0,hle,HLe.refl _,by rw [Nat.zero_mul];exact hI0,hs⟩
 ·rintro i fr w hi ⟨rfl,H1,σb,hle1,hle0,hI,hs⟩
  have h23:=cellAt.mono g3 hle0
  refine .block (.aj (.z zm (.zn zg (.aj (.z (zfa bh) (.y hs (zld aq) (.z (dc ae) (.zn zm (.for (N:=s.wa.length) (J:=fun k fr w=>fr=[(3,I ((i*s.wa.length+k:Nat):Int)),(4,I (i:Int)),(9,I (i:Int)),(8,I (s.st.length:Int)),(0,.func (.yield ly) #[] #[]),(1,Pt b)]∧∃H3 σb,HLe H1 H3∧II (i*s.wa.length+k) H3 σb∧St H3 w (σb++σf)) an ?_ ?_ ?_)))))))))
  ·exact .mk ⟨rfl,H1,σb,HLe.refl _,hI,hs⟩
  ·rintro k fr w hk ⟨rfl,H3,σb3,hle3,hI3,hs⟩
   obtain ⟨d1,d2⟩:=Hr (nw:=s.wa.length) (i:=i) (k:=k) hk
   have hlt:=Kj hi hk
   refine .block (.aj (.z zm (.zn zg (.aj (.z zm (.z cK (.zn zg (.aj (.z zm (.z zm (.z zm (.z zm (.z (zbd [_,_,_] sV) ?_)))))))))))))
   have hk':i*s.wa.length+k<(yI s).length:=by rw [eQ];exact hlt
   have hyd:=hy (i*s.wa.length+k) hk' H3 σb3 σf w (hle1.trans hle3) hI3 hs
   rw [nQ hk',d1,d2,show ((i*s.wa.length+k+1:Nat):Int)=((i*s.wa.length+k:Nat):Int)+1 by omega] at hyd
   refine .o (.yield rfl rfl hyd ?_);rintro v25 w ⟨H5,σ5,g1,hs,g3'⟩
   obtain ⟨bb,rfl,gT,gF⟩:=oU g3'
   refine .zn fZ (.cond rfl (fun hc26=>?_) (fun hc26=>?_))
   ·refine .ret (rB (rT (rB (rB (rT (rB (Fin.It Tryz.results188 ?_)))))))
    exact ⟨H5,σ5,hle0.trans (hle3.trans g1),hs,.inr (gF (by simpa using hc26))⟩
   ·refine .skip (nB (nT ?_))
    exact .mk ⟨rfl,H5,σ5,hle3.trans g1,gT (by simpa using hc26),hs⟩
  ·rintro fr w ⟨rfl,H3,σb3,hle3,hI3,hs⟩
   have e:i*s.wa.length+s.wa.length=(i+1)*s.wa.length:=by rw [Nat.add_mul,Nat.one_mul]
   rw [e] at hI3 ⊢
   refine nB (nT ?_)
   exact .mk ⟨rfl,H3,σb3,hle1.trans hle3,hle0.trans hle3,hI3,hs⟩
 ·rintro fr w ⟨rfl,H1,σb,hle1,hle0,hI,hs⟩
  exact Fin.AL Tryz.results188 ⟨H1,σb,hle0,hs,.inl (by rw [eQ];exact hI)⟩
theorem gG{s:Spc}{vst vwa:Value}(hs:St H w σ)(h1:RI H vst s.st)(h2:RI H vwa s.wa)(hbd:s.st.length≤1000∧s.wa.length≤1000):
  Cl Tryz.prog 131 [.agg #[I s.id,I s.src,vst,vwa,I s.al,I s.up]] w fun u w'=>∃H1 b,HLe H H1∧u= .func (.func 188) #[] #[Pt b]∧Iter Tryz.prog 188 [Pt b] H1 (yI s)∧St H1 w' σ:=by
 obtain ⟨ast,cst,rfl⟩:=RI.shape h1
 obtain ⟨awa,cwa,rfl⟩:=RI.shape h2
 refine Cl.o Tryz.func131 Tryz.ntmps131 ag1 ?_
 refine .aj (.bx hs fun b1 w hs=>?_)
 refine .zn zg (.aj (.q hs (dM (f:=[]) (c:=[_]) rfl rfl) (.zn zg (.ret (Fin.bE Tryz.results131 rfl ?_)))))
 obtain ⟨H1,g1,g2,hs⟩:=hs.di .here
 exact ⟨H1,b1,g1,rfl,sf g2 (h1.mono g1) (h2.mono g1) hbd,hs⟩
set_option maxRecDepth 100000 in
theorem vH:Tryz.prog.stoodInHeld 162=false:=by kernel_rfl
set_option maxRecDepth 100000 in
theorem vI:Tryz.prog.eqGuardType Tryz.prog.depth 162=false:=by kernel_rfl
theorem qU{v:Value}{en:Ent}{xs:List TD}{g:Nat}{cap:List Value}(q:TD→Bool)(hs:St H w (en::σ))(hO:cZ 2 v (tdc xs).flatten en)(hl:xs.length≤1000000)(hc:∀args w,(callFunc g args).run Tryz.prog w= .ok (.enter g args) w)
  (hp:∀w (t:TD),St H w (en::σ)→Cl Tryz.prog g ([.agg #[I t.tape,I t.day]]++cap) w fun u w'=>u= .bool (q t)∧St H w' (en::σ)):
  Cl Tryz.prog 276 [v,.func (.func g) #[] cap.toArray] w fun u w'=>∃i:Int,u=I i∧(0≤i↔∃x∈xs,q x=true)∧St H w' (en::σ):=by
 obtain ⟨a,c,rfl⟩:=hO.jz (qS xs) an
 rw [eZ] at hO ⊢
 refine Cl.o Tryz.func276 Tryz.ntmps276 ag2 ?_
 refine .aj (.zn zg (.seq (.aj (.z zm (.z (dc bO) (.zn zm (.for (N:=xs.length) (J:=fun k fr w=>fr=[(1,.func (.func g) #[] cap.toArray),(0,.slice a xs.length c)]∧(∀j<k,∀y,xs[j]? =some y→¬q y=true)∧St H w (en::σ)) an ?_ ?_ ?_)))))))
 ·exact .mk ⟨rfl,fun j hj=>by omega,hs⟩
 ·rintro k fr w hk ⟨rfl,hno,hs⟩
  obtain ⟨x,hx⟩:=nth hk
  obtain ⟨b,c',sp,hv,rfl,_⟩:=hO.GL (qS xs) an (by rw [eZ];omega)
  rw [eZ] at hv
  cases hv
  refine .block (.aj (.z zm (.zn zg (.aj (.z zm (.z zm (.z zm (.z (mA bO bZ) (.q hs (k9 (vs:=x.c) rfl eH bZ .here (yv (qS xs) (DD hx) sp)) (.o (.qs (first:=[]) (cap:=cap) rfl rfl hc (hp _ x hs) ?_)))))))))));rintro _ w ⟨rfl,hs⟩
  refine .nil (.cond rfl (fun hc16=>?_) (fun hc16=>?_))
  ·refine .aj (.z zm (.zn zg (.ret (rB (rT (rB (rT (Fin.bE Tryz.results276 rfl ?_))))))))
   exact ⟨_,rfl,⟨fun _=>⟨x,List.mem_of_getElem? hx,hc16⟩,fun _=>by omega⟩,hs⟩
  ·refine .skip (nB (nT ?_))
   exact .mk ⟨rfl,fo hno hx (by simpa using hc16),hs⟩
 ·rintro fr w ⟨rfl,hno,hs⟩
  refine nT (.aj (.zn zg (.ret (Fin.bE Tryz.results276 rfl ?_))))
  exact ⟨_,rfl,⟨fun h=>by omega,fun ⟨x,h1,h2⟩=>by
   obtain ⟨j,hj⟩:=List.getElem?_of_mem h1
   exact (hno j (List.getElem?_eq_some_iff.1 hj).1 x hj h2).elim⟩,hs⟩
theorem oH{v:Value}{en:Ent}{xs:List TD}{g:Nat}{cap:List Value}(q:TD→Bool)(hs:St H w (en::σ))(hO:cZ 2 v (tdc xs).flatten en)(hl:xs.length≤1000000)(hc:∀args w,(callFunc g args).run Tryz.prog w= .ok (.enter g args) w)
  (hp:∀w (t:TD),St H w (en::σ)→Cl Tryz.prog g ([.agg #[I t.tape,I t.day]]++cap) w fun u w'=>u= .bool (q t)∧St H w' (en::σ)):
  Cl Tryz.prog 239 [v,.func (.func g) #[] cap.toArray] w fun u w'=>∃b:Bool,u= .bool b∧(b=true↔∃x∈xs,q x=true)∧St H w' (en::σ):=by
 refine Cl.o Tryz.func239 Tryz.ntmps239 ag2 ?_
 refine .aj (.zn zg (.aj (.z zm (.z zm (.o (.call Tryz.call276 rfl (qU q hs hO hl hc hp) ?_))))));rintro _ w ⟨i,rfl,hi,hs⟩
 refine .z uj (.zn zg (.ret (Fin.bE Tryz.results239 rfl ?_)))
 exact ⟨_,rfl,by simp only [decide_eq_true_eq];exact hi,hs⟩
theorem wB{v:Value}{xs:List TD}{t:TD}(hs:St H w σ)(hr:RTd H v xs)(hl:xs.length≤1000000):
  Cl Tryz.prog 246 [v,.agg #[I t.tape,I t.day]] w fun u w'=>u=I (kY xs t)∧St H w' σ:=by
 obtain ⟨a,c,rfl⟩:=RTd.shape hr
 refine Cl.o Tryz.func246 Tryz.ntmps246 ag2 ?_
 refine .aj (.bx hs fun b3 w hs=>?_)
 refine .zn zg (.seq (.aj (.z zm (.z (dc bO) (.zn zm (.for (N:=xs.length) (J:=fun k fr w=>fr=[(0,.slice a xs.length c),(3,Pt b3)]∧(∀j<k,∀y,xs[j]? =some y→¬y=t)∧St H w (.blk b3 [I t.tape,I t.day]::σ)) an ?_ ?_ ?_))))))
 ·exact .mk ⟨rfl,fun j hj=>by omega,hs⟩
 ·rintro k fr w hk ⟨rfl,hno,hs⟩
  obtain ⟨x,hx⟩:=nth hk
  refine .block (.aj (.z zm (.zn zg (.seq (.draw mix rfl hs fun w hs=>?_)))))
  refine .ys 0 rfl hs [_,_] eH bZ ?_;refine .z 1 rfl zm ?_;refine .z 2 rfl zm ?_
  refine .ixX (enc:=TD.c) (i:=3) hs rfl aD .none hr rfl rfl bO bZ hx da ?_;intro b14 o14 hc14
  refine .r (i:=4) hs rfl aD .none (cj (vs:=x.c) rfl eH bZ hc14) ?_
  refine .z 5 rfl (Aj vH vI js (fun f hf=>by
   simp only [List.mem_cons,List.not_mem_nil,or_false] at hf
   rcases hf with rfl|rfl<;>exact ⟨by decide,bM,af⟩) rfl rfl) ?_
  refine .D hs (.cond rfl (fun hc16=>?_) (fun hc16=>?_))
  ·refine .aj (.z zm (.zn zg (.ret (rB (rT (rB (rT (Fin.bE Tryz.results246 rfl ?_))))))))
   have e:x=t:=FB.1 (by have:=of_decide_eq_true hc16;exact ⟨this.1.symm,this.2.symm⟩)
   subst e
   exact ⟨by rw [rM hx fun j hj h=>hno j hj _ h rfl],hs.tail⟩
  ·refine .skip (nB (nT ?_))
   exact .mk ⟨rfl,fo hno hx (fun e=>by subst e;simp at hc16),hs⟩
 ·rintro fr w ⟨rfl,hno,hs⟩
  refine nT (.aj (.zn zg (.ret (Fin.bE Tryz.results246 rfl ?_))))
  exact ⟨by rw [yX hno],hs.tail⟩
theorem qk{t:TD}{r:Rdg}{b:Nat}(hs:St H w σ)(hb:Row H b r.c):
  Cl Tryz.prog 240 [.agg #[I t.tape,I t.day],Pt b] w fun u w'=>u= .bool (decide (t=r.td))∧St H w' σ:=by
 have hb0:bL H b 0 r.c:=hb.cells 0 r.c
 refine Cl.o Tryz.func240 Tryz.ntmps240 ag2 ?_
 refine .aj (.bx hs fun b2 w hs=>?_)
 refine .zn zg (.seq (.draw mix rfl hs fun w hs=>?_))
 refine .ys 0 rfl hs [_,_] eH bZ ?_;refine .ys 1 rfl hs [_,_,_,_,_,_,_] eI aK ?_
 refine .E 2 hs ?_
 refine .call Tryz.call241 rfl (jM hs) ?_;rintro _ w ⟨rfl,hs⟩
 refine .go ?_
 refine .z 3 rfl (Aj vH vI js (fun f hf=>by
  simp only [List.mem_cons,List.not_mem_nil,or_false] at hf
  rcases hf with rfl|rfl<;>exact ⟨by decide,bM,af⟩) rfl rfl) ?_
 refine .zw 4 rfl zg ?_;refine .D hs ?_
 refine .ret (Fin.bE Tryz.results240 rfl ?_)
 exact ⟨by congr 1;rw [decide_eq_decide];exact FB (t:=t) (u:=r.td),hs.tail⟩
set_option maxHeartbeats 1000000 in
theorem tH{s:Srv}{vst vwa vr vc:Value}(hs:St H w σ)(hr:RRd H vr s.rs)(hl:s.rs.length≤1000000):
  Cl Tryz.prog 189 [.agg #[I s.sp.id,I s.sp.src,vst,vwa,I s.sp.al,I s.sp.up,vr,vc]] w fun u w'=>∃H1 en,HLe H H1∧cZ 2 u (tdc s.cV).flatten en∧St H1 w' (en::σ):=by
 obtain ⟨ar,cr,rfl⟩:=RRd.shape hr
 refine Cl.o Tryz.func189 Tryz.ntmps189 ag1 ?_
 refine .aj (.bx hs fun b1 w hs=>?_)
 refine .zn zg (.aj (.zn zg (.seq (.aj (.z (zfa aZ) (.y hs (zld bQ) (.z (dc aB) (.zn zm (.for (N:=s.rs.length) (J:=fun k fr w=>∃vo en H1,fr=[(7,.slice ar s.rs.length cr),(3,vo)]∧HLe H H1∧cZ 2 vo (tdc (bH (s.rs.take k))).flatten en∧St H1 w (en::σ)) an ?_ ?_ ?_)))))))))
 ·exact .mk ⟨_,.nul,H,rfl,HLe.refl _,.nil 2 none,hs.tail.nul⟩
 ·rintro k fr w hk ⟨vo,en,H1,rfl,hle1,hO,hs⟩
  obtain ⟨r,hx⟩:=nth hk
  have htk:=kI hx
  have htl:=l7 s.rs k an
  obtain ⟨ao,co,rfl⟩:=hO.jz (qS _) an
  rw [eZ] at hO ⊢
  refine .block (.aj (.ixX (enc:=Rdg.c) hs (hr.mono hle1) rfl rfl aB aK hx da ?_));intro b11 o11 hc11
  refine .q hs (cj (vs:=(Rdg.c r)) rfl eI aK hc11) (.o (.alloc hs fk rfl fun b5 w hs=>?_))
  refine .o (.aP (vs:=r.c) hs rfl rfl aK fun w hs=>?_)
  obtain ⟨H2,hle2,r5,hs⟩:=hs.di (b:=b5) (c:=r.c) .here
  have c5:bL H2 b5 0 r.c:=r5.cells 0 r.c
  refine .nil (.aj (.z zm (.q hs (dM (f:=[]) (c:=[_]) rfl rfl) (.o (.call Tryz.call239 rfl (oH (g:=240) (cap:=[Pt b5]) (fun t=>decide (t=r.td)) hs hO an Tryz.call240 (fun w t hs=>qk hs r5)) ?_)))));rintro _ w ⟨b15,rfl,hb15,hs⟩
  refine .zn fZ (.cond rfl (fun hc16=>?_) (fun hc16=>?_))
  ·refine .region (.z zm (.q hs (cj (vs:=r.c) rfl eI aK c5) (.o (.call Tryz.call241 rfl (jM (r:=r) hs) ?_))));rintro _ w ⟨rfl,hs⟩
   refine .o (.buildSlice (cells:=[_,_]) hs jy rfl rfl fun b20 w hs=>?_)
   refine .o (.append (ys:=r.td.c) hs fw rfl rfl hO (.own .here rfl rfl) (by simp [TD.c,Value.oneCell']) (fun l h=>by rw [cz _ (qS _),eZ] at h;omega) ?_);intro v21 en21 w hO2 hs
   refine .zn zg (nB (nT ?_))
   have hn:r.td∉bH (s.rs.take k):=fun hm=>by
    rw [hb15.2 ⟨_,hm,cq⟩] at hc16;cases hc16
   rw [←yW,show bH (s.rs.take k)++[r.td]=bH (s.rs.take (k+1)) by rw [htk];unfold s4;rw [if_neg hn]] at hO2
   exact .mk ⟨_,_,H2,rfl,hle1.trans hle2,hO2,hs.sb⟩
  ·refine .skip (nB (nT ?_))
   have hm:r.td∈bH (s.rs.take k):=by
    obtain ⟨x,h1,h2⟩:=hb15.1 (by simpa using hc16)
    rw [←of_decide_eq_true h2];exact h1
   exact .mk ⟨_,_,H2,rfl,hle1.trans hle2,by rw [htk];unfold s4;rw [if_pos hm];exact hO,hs⟩
 ·rintro fr w ⟨vo,en,H1,rfl,hle1,hO,hs⟩
  rw [List.take_length] at hO
  refine nT (.aj (.z zm (.zn zg (.ret (Fin.bE Tryz.results189 rfl ?_)))))
  exact ⟨H1,en,hle1,hO,hs⟩
theorem sc{s:Srv}{vst vwa vr vc:Value}(hs:St H w σ)(hr:RRd H vr s.rs)(hl:s.rs.length≤1000000):
  Cl Tryz.prog 189 [.agg #[I s.sp.id,I s.sp.src,vst,vwa,I s.sp.al,I s.sp.up,vr,vc]] w fun u w'=>∃H1,HLe H H1∧RTd H1 u s.cV∧St H1 w' σ:=by
 refine (tH hs hr hl).mono ?_
 rintro u w' ⟨H1,en,hle1,hO,hs⟩
 have htl:=ea s.rs
 have htl':s.cV.length≤1000000:=by unfold Srv.cV;omega
 obtain ⟨H2,hle2,hR,hs⟩:=cZ.di (m:=2) hO (qS _) an (by rw [eZ];omega) hs .here
 exact ⟨H2,hle1.trans hle2,hR,hs⟩
theorem iH{x0 x1 x2 x3 x4 x5 x6 x7 x8 vl:Value}{en:Ent}{bm:Nat}{ls:List Lim}{a b hi lo by_:Int}(hs:St H w (.blk bm [x0,x1,x2,x3,x4,x5,x6,x7,x8,vl]::en::σ))(hO:cZ 4 vl (iF ls) en)(hl:ls.length≤100000):
  Cl Tryz.prog 242 [Pt bm,I a,I b,I hi,I lo,I by_] w fun _ w'=>∃vl' en',cZ 4 vl' (iF (ls++two a b hi lo by_)) en'∧St H w' (.blk bm [x0,x1,x2,x3,x4,x5,x6,x7,x8,vl']::en'::σ):=by
 obtain ⟨al,ll,cl,rfl,h⟩:=hO.shape
 refine Cl.of Tryz.func242 rfl Tryz.ntmps242 cq (eE (k:=0) rfl (eE (k:=1) rfl (eE (k:=2) rfl (eE (k:=3) rfl (eE (k:=4) rfl (eE (k:=5) rfl (zK))))))) (.region (.z zm (.z zm (.z znc (.z (zfa j8) (.y hs (zld dz) (.z zm (.z zm (.z zm (.z zm (.z (zbd [_,_,_,_] fj) (.z zm (.z zm (.z zm (.z zm (.z (zbd [_,_,_,_] fj) (.o (.buildSlice (cells:=iF (two a b hi lo by_)) hs gQ rfl aD fun b27 w hs=>?_))))))))))))))))))
 refine .o (.append (ys:=iF (two a b hi lo by_)) hs dh rfl rfl hO (.own .here rfl rfl) (my _) (fun l h=>by rw [fa] at h;omega) ?_);intro v28 en28 w hO2 hs
 rw [←ji] at hO2
 obtain ⟨a28,l28,c28,rfl,h28⟩:=hO2.shape
 refine .z znc (.z (zfa j8) (.o (.store hs rfl rfl qA fun w hs=>?_)))
 refine .nil ?_
 exact Fin.AL Tryz.results242 ⟨_,_,hO2,hs.sb⟩
theorem mf{s:Spc}{vst vwa x6 x7 x8 vl:Value}{bm:Nat}{j:Int}(hs:St H w σ)(hm:Mem σ (.blk bm [I s.id,I s.src,vst,vwa,I s.al,I s.up,x6,x7,x8,vl]))(h1:RI H vst s.st)(h2:RI H vwa s.wa)(hb:s.st.length≤1000∧s.wa.length≤1000)(hj: -1≤j∧j≤1000):
  Cl Tryz.prog 244 [Pt bm,I j] w fun u w'=>u=I ((s.many:Int)+1+j)∧St H w' σ:=by
 have hmm:s.many≤1000000:=Nat.mul_le_mul hb.1 hb.2
 refine Cl.o Tryz.func244 Tryz.ntmps244 ag2 ?_
 refine .aj (.zn zg (.aj (.z zm (.z znc (.z (zfa dT) (.z (zfa bn) (.q hs (k9 (vs:=[I s.id,I s.src,vst,vwa,I s.al,I s.up]) rfl bg aM hm) (.o (.call Tryz.call196 rfl (nm (s:=s) hs h1 h2 hb) ?_)))))))));rintro _ w ⟨rfl,hs⟩
 refine .z cK (.z zm (.z cK (.zn zg (.ret (Fin.bE Tryz.results244 rfl ?_)))))
 exact ⟨rfl,hs⟩
theorem fN{s:Spc}(h:fA s):s.st.length≤1000∧s.wa.length≤1000∧0<s.wa.length∧s.many≤63:=by
 have h1:=h.st.many;have h2:=h.wa.many;have h3:=h.wa.two
 have:s.many≤9*7:=Nat.mul_le_mul h1 h2
 omega
theorem rl{s:Srv}{ts:List TD}{vst vwa vr vc vt vl:Value}{en:Ent}{bm:Nat}{ls:List Lim}(hs:St H w (.blk bm [I s.sp.id,I s.sp.src,vst,vwa,I s.sp.al,I s.sp.up,vr,vc,vt,vl]::en::σ))(hk:MkK H s ts vst vwa vr vc vt)(hO:cZ 4 vl (iF ls) en)(hl:ls.length≤10000)(hok:fA s.sp):
  Cl Tryz.prog 190 [Pt bm] w fun _ w'=>∃H1 vl' en',HLe H H1∧cZ 4 vl' (iF (ls++fg (s9 s.sp) s.sp.wa.length s.sp.st.length)) en'∧St H1 w' (.blk bm [I s.sp.id,I s.sp.src,vst,vwa,I s.sp.al,I s.sp.up,vr,vc,vt,vl']::en'::σ):=by
 have hsm:=fN hok
 refine Cl.o Tryz.func190 Tryz.ntmps190 ag1 ?_
 refine .aj (.bx hs fun b1 w hs=>?_)
 refine .nil (.aj (.y hs (zld te) (.z znc (.z (zfa dT) (.z (zfa bn) (.y hs (zls [_,_,_,_,_,_] bg aM) (.o (.call Dm rfl (gG (s:=s.sp) hs hk.st hk.wa ⟨an,an⟩) ?_))))))));rintro _ w ⟨H1,ba,hle1,rfl,hit,hs⟩
 refine .nil (.block ?_)
 refine .rangeFunc (gf:=188) (cap:=[Pt ba]) (xs:=yI s.sp) (σb:=[.blk bm [I s.sp.id,I s.sp.src,vst,vwa,I s.sp.al,I s.sp.up,vr,vc,vt,vl],en,.blk b1 [Pt bm]]) (σf:=σ) (hs.sb) trivial rfl hit Dl (fun x hx=>by
   simp only [yI,List.mem_map] at hx
   obtain ⟨j,_,rfl⟩:=hx;rfl) rfl
  (I:=fun p H' σb=>∃vl en,σb=[.blk bm [I s.sp.id,I s.sp.src,vst,vwa,I s.sp.al,I s.sp.up,vr,vc,vt,vl],en,.blk b1 [Pt bm]]∧cZ 4 vl (iF (ls++so (s9 s.sp) s.sp.wa.length p)) en) (Ix:=fun _ _ _=>False)
  (fun j _ _ σ g1 g2=>g2) (fun _ _ _ _ _ h=>h) ⟨vl,en,rfl,by rw [p5,List.append_nil];exact hO⟩ ?_ ?_ (fun D c H' σb w _ h _=>h.elim)
 ·rintro ly p hp H2 σb2 σf2 w hle2 ⟨vl,en,rfl,hO⟩ hs ⟨rr,hrr⟩
  have hpm:p<s.sp.many:=by rw [eQ] at hp;exact hp
  have hsucc:=p6 (s9 s.sp) (p:=p) hsm.2.2.1
  have hpl:=kM (qd s.sp) hsm.2.2.1 p
  have hin:p/s.sp.wa.length<s.sp.st.length:=Nat.div_lt_of_lt_mul (by rw [Nat.mul_comm];exact hpm)
  have hkm:=Nat.mod_lt p hsm.2.2.1
  have hdm:=Nat.div_add_mod p s.sp.wa.length
  rw [Nat.mul_comm] at hdm
  have hu:(s.sp.u (p/s.sp.wa.length) (p%s.sp.wa.length):Int)=(p:Int)+1:=by unfold Spc.u;omega
  rw [nQ hp]
  obtain ⟨al,ll,cl,rfl,hll⟩:=hO.shape
  generalize p/s.sp.wa.length=i at*
  generalize p%s.sp.wa.length=k at*
  have hk2:=hk.mono (hle1.trans hle2)
  refine .region (.o (.alloc hs lX rfl fun b2 w hs=>?_))
  refine .o (.aP (vs:=[_,_,_]) hs rfl rfl qz fun w hs=>?_)
  refine .nil (nT (⟨H2,[.blk b2 [I (i:Int),I (k:Int),I ((p+1:Nat):Int)],.blk bm [I s.sp.id,I s.sp.src,vst,vwa,I s.sp.al,I s.sp.up,vr,vc,vt,.slice al ll cl],en,.blk b1 [Pt bm]],HLe.refl _,hs,?_⟩));rintro w σf4 - hs
  refine .block (.draw mix rfl hs fun w hs=>?_)
  refine .y 0 rfl hs te ?_;refine .z 1 rfl (zfa e9) ?_;refine .y 2 rfl hs af ?_;refine .y 3 rfl hs te ?_;refine .z 4 rfl znc ?_;refine .z 5 rfl (zfa dT) ?_;refine .z 6 rfl (zfa bn) ?_;refine .z 7 rfl (zfa ed) ?_;refine .y 8 rfl hs af ?_
  refine .E 9 hs ?_
  refine .call Dj rfl (iH (ls:=ls++so (s9 s.sp) s.sp.wa.length p) (hs.sb:St H2 w (.blk bm _::en:: .blk b1 _::σf4)) hO (by rw [List.length_append];omega)) ?_;rintro _ w ⟨vl3,en3,hO3,hs⟩
  rw [show two 0 ((p+1:Nat):Int) 20000 0 s.sp.src=s9 s.sp i k by unfold s9;rw [hu];rfl,List.append_assoc,←hsucc] at hO3
  refine .go (.D hs (nB ?_))
  exact ⟨H2,_,HLe.refl _,hs,_,_,rfl,hO3⟩
 ·rintro D H2 σb2 w hle2 ⟨vl,en,rfl,hO⟩ hs
  rw [eQ,show s.sp.many=s.sp.st.length*s.sp.wa.length from rfl,sm _ hsm.2.2.1] at hO
  refine nB ?_
  exact Fin.JE [D] [] hs fun w hs=>⟨_,results0 Tryz.results190,H2,vl,en,hle1.trans hle2,hO,(hs.sb:St H2 w (.blk bm _::en::σ))⟩
theorem u9{s:Srv}{ts:List TD}{vst vwa vr vc vt vl:Value}{en:Ent}{bm:Nat}{ls:List Lim}(hs:St H w (.blk bm [I s.sp.id,I s.sp.src,vst,vwa,I s.sp.al,I s.sp.up,vr,vc,vt,vl]::en::σ))(hk:MkK H s ts vst vwa vr vc vt)(hO:cZ 4 vl (iF ls) en)(hl:ls.length≤10000)(hok:fA s.sp):
  Cl Tryz.prog 191 [Pt bm] w fun _ w'=>∃H1 vl' en',HLe H H1∧cZ 4 vl' (iF (ls++fg (alL s.sp) s.sp.wa.length s.sp.st.length)) en'∧St H1 w' (.blk bm [I s.sp.id,I s.sp.src,vst,vwa,I s.sp.al,I s.sp.up,vr,vc,vt,vl']::en'::σ):=by
 have hsm:=fN hok
 obtain ⟨ast,cst,rfl⟩:=RI.shape hk.st
 obtain ⟨awa,cwa,rfl⟩:=RI.shape hk.wa
 refine Cl.o Tryz.func191 Tryz.ntmps191 ag1 ?_
 refine .aj (.bx hs fun b1 w hs=>?_)
 refine .nil (.aj (.y hs (zld te) (.z znc (.z (zfa dT) (.z (zfa bn) (.y hs (zls [_,_,_,_,_,_] bg aM) (.o (.alloc hs kh rfl fun b2 w hs=>?_))))))))
 refine .o (.aP (vs:=[_,_,_,_,_,_]) hs rfl rfl aM fun w hs=>?_)
 refine .nil (.aj (.y hs (zls [_,_,_,_,_,_] bg aM) (.o (.call Dm rfl (gG (s:=s.sp) hs hk.st hk.wa ⟨an,an⟩) ?_))));rintro _ w ⟨H1,ba,hle1,rfl,hit,hs⟩
 refine .nil (.block ?_)
 refine .rangeFunc (gf:=188) (cap:=[Pt ba]) (xs:=yI s.sp) (σb:=[.blk bm [I s.sp.id,I s.sp.src,.slice ast s.sp.st.length cst,.slice awa s.sp.wa.length cwa,I s.sp.al,I s.sp.up,vr,vc,vt,vl],en,.blk b1 [Pt bm],.blk b2 [I s.sp.id,I s.sp.src,.slice ast s.sp.st.length cst,.slice awa s.sp.wa.length cwa,I s.sp.al,I s.sp.up]]) (σf:=σ) (hs.sb) trivial rfl hit Dl (fun x hx=>by
   simp only [yI,List.mem_map] at hx
   obtain ⟨j,_,rfl⟩:=hx;rfl) rfl
  (I:=fun p H' σb=>∃vl en,σb=[.blk bm [I s.sp.id,I s.sp.src,.slice ast s.sp.st.length cst,.slice awa s.sp.wa.length cwa,I s.sp.al,I s.sp.up,vr,vc,vt,vl],en,.blk b1 [Pt bm],.blk b2 [I s.sp.id,I s.sp.src,.slice ast s.sp.st.length cst,.slice awa s.sp.wa.length cwa,I s.sp.al,I s.sp.up]]∧cZ 4 vl (iF (ls++so (alL s.sp) s.sp.wa.length p)) en) (Ix:=fun _ _ _=>False)
  (fun j _ _ σ g1 g2=>g2) (fun _ _ _ _ _ h=>h) ⟨vl,en,rfl,by rw [p5,List.append_nil];exact hO⟩ ?_ ?_ (fun D c H' σb w _ h _=>h.elim)
 ·rintro ly p hp H2 σb2 σf2 w hle2 ⟨vl,en,rfl,hO⟩ hs ⟨rr,hrr⟩
  have hpm:p<s.sp.many:=by rw [eQ] at hp;exact hp
  have hsucc:=p6 (alL s.sp) (p:=p) hsm.2.2.1
  have hpl:=kM (tZ s.sp) hsm.2.2.1 p
  have hin:p/s.sp.wa.length<s.sp.st.length:=Nat.div_lt_of_lt_mul (by rw [Nat.mul_comm];exact hpm)
  have hkm:=Nat.mod_lt p hsm.2.2.1
  have hdm:=Nat.div_add_mod p s.sp.wa.length
  rw [Nat.mul_comm] at hdm
  have hu:(s.sp.u (p/s.sp.wa.length) (p%s.sp.wa.length):Int)=(p:Int)+1:=by unfold Spc.u;omega
  rw [nQ hp]
  obtain ⟨al,ll,cl,rfl,hll⟩:=hO.shape
  generalize p/s.sp.wa.length=i at*
  generalize p%s.sp.wa.length=k at*
  have hk2:=hk.mono (hle1.trans hle2)
  refine .region (.o (.alloc hs lX rfl fun b3 w hs=>?_))
  refine .o (.aP (vs:=[_,_,_]) hs rfl rfl qz fun w hs=>?_)
  refine .nil (nT (⟨H2,[.blk b3 [I (i:Int),I (k:Int),I ((p+1:Nat):Int)],.blk bm [I s.sp.id,I s.sp.src,.slice ast s.sp.st.length cst,.slice awa s.sp.wa.length cwa,I s.sp.al,I s.sp.up,vr,vc,vt,.slice al ll cl],en,.blk b1 [Pt bm],.blk b2 [I s.sp.id,I s.sp.src,.slice ast s.sp.st.length cst,.slice awa s.sp.wa.length cwa,I s.sp.al,I s.sp.up]],HLe.refl _,hs,?_⟩));rintro w σf4 - hs
  refine .block (.aj (.z (zfa dO) (.y hs (zld af) (.z cK (.z (zfa bV) (.y hs (zld aq) (.z (dc ae) (.zn fM (.bA rfl (fun hc19=>?_) (fun hc19=>?_))))))))))
  ·refine .seq (.draw mix rfl hs fun w hs=>?_)
   refine .zw 0 rfl (zfa eC) ?_;refine .z 1 rfl (zfa kb) ?_;refine .y 2 rfl hs af ?_;refine .z 3 rfl (zfa bV) ?_;refine .y 4 rfl hs aq ?_;refine .z 5 rfl (zfa dO) ?_;refine .y 6 rfl hs af ?_;refine .z 7 rfl cK ?_
   have hris:=hok.st.rise i an
   have hq0:=hok.st.bd (i:=i) an
   have hq1:=hok.st.bd (i:=i+1) an
   have hal:=hok.al
   refine .ixX (enc:=fun x=>[I x]) (i:=8) hs rfl aD .none hk2.st rfl rfl ae ai (bB (l:=s.sp.st) (i:=(i+1)) an) da ?_;intro b28 o28 hc28;replace hc28:=bL.one hc28
   refine .r (i:=9) hs rfl aD .none (aJ rfl af hc28) ?_
   refine .zw 10 rfl (zfa bV) ?_;refine .y 11 rfl hs aq ?_;refine .z 12 rfl (zfa dO) ?_;refine .y 13 rfl hs af ?_
   refine .ixX (enc:=fun x=>[I x]) (i:=14) hs rfl aD .none hk2.st rfl rfl ae ai (bB (l:=s.sp.st) (i:=i) an) da ?_;intro b34 o34 hc34;replace hc34:=bL.one hc34
   refine .r (i:=15) hs rfl aD .none (aJ rfl af hc34) ?_
   refine .zw 16 rfl fY (.E 17 hs ?_)
   refine .call Tryz.call243 rfl (np hs an an) ?_;rintro _ w ⟨rfl,hs⟩
   refine .go (.zw 18 rfl zg ?_);refine .D hs ?_
   refine .region (.y hs (zld te) (.z (zfa e9) (.y hs (zld af) (.z (zfa e9) (.y hs (zld af) (.z (zfa bh) (.y hs (zld aq) (.z (dc ae) (.z cK (.z zm (.z zm (.z (zfa ed) (.y hs (zld af) (.o (.call Dj rfl (iH (ls:=ls++so (alL s.sp) s.sp.wa.length p) (hs.sb:St H2 w (.blk bm _::en:: .blk b1 _:: .blk b2 _::σf4)) hO (by rw [List.length_append];omega)) ?_)))))))))))))));rintro _ w ⟨vl3,en3,hO3,hs⟩
   have hu2:(s.sp.u (i+1) k:Int)=((p+1:Nat):Int)+(s.sp.wa.length:Int):=by unfold Spc.u at hu ⊢;rw [Nat.add_mul];omega
   rw [show two ((p+1:Nat):Int) (((p+1:Nat):Int)+(s.sp.wa.length:Int)) (lh s.sp.al (gi s.sp.st (i+1) - gi s.sp.st i)) (lh s.sp.al (gi s.sp.st (i+1) - gi s.sp.st i)) s.sp.src=alL s.sp i k by unfold alL;rw [if_pos an,hu,hu2];rfl,List.append_assoc,←hsucc] at hO3
   refine .nil (nB ?_)
   exact ⟨H2,_,HLe.refl _,hs,_,_,rfl,hO3⟩
  ·refine .skip (nB ?_)
   rw [show alL s.sp i k=[] by unfold alL;rw [if_neg an],List.append_nil] at hsucc
   exact ⟨H2,_,HLe.refl _,(hs.sb:St H2 w (.blk bm _::en:: .blk b1 _:: .blk b2 _::σf4)),_,_,rfl,by rw [hsucc];exact hO⟩
 ·rintro D H2 σb2 w hle2 ⟨vl,en,rfl,hO⟩ hs
  rw [eQ,show s.sp.many=s.sp.st.length*s.sp.wa.length from rfl,sm _ hsm.2.2.1] at hO
  refine nB ?_
  exact Fin.JE [D] [] hs fun w hs=>⟨_,results0 Tryz.results191,H2,vl,en,hle1.trans hle2,hO,(hs.sb:St H2 w (.blk bm _::en::σ))⟩
theorem zp{s:Srv}{ts:List TD}{vst vwa vr vc vt vl:Value}{en:Ent}{bm:Nat}{ls:List Lim}(hs:St H w (.blk bm [I s.sp.id,I s.sp.src,vst,vwa,I s.sp.al,I s.sp.up,vr,vc,vt,vl]::en::σ))(hk:MkK H s ts vst vwa vr vc vt)(hO:cZ 4 vl (iF ls) en)(hl:ls.length≤10000)(hok:fA s.sp):
  Cl Tryz.prog 192 [Pt bm] w fun _ w'=>∃H1 vl' en',HLe H H1∧cZ 4 vl' (iF (ls++fg (upL s.sp) s.sp.wa.length s.sp.st.length)) en'∧St H1 w' (.blk bm [I s.sp.id,I s.sp.src,vst,vwa,I s.sp.al,I s.sp.up,vr,vc,vt,vl']::en'::σ):=by
 have hsm:=fN hok
 obtain ⟨ast,cst,rfl⟩:=RI.shape hk.st
 obtain ⟨awa,cwa,rfl⟩:=RI.shape hk.wa
 refine Cl.o Tryz.func192 Tryz.ntmps192 ag1 ?_
 refine .aj (.bx hs fun b1 w hs=>?_)
 refine .nil (.aj (.y hs (zld te) (.z znc (.z (zfa dT) (.z (zfa bn) (.y hs (zls [_,_,_,_,_,_] bg aM) (.o (.alloc hs kh rfl fun b2 w hs=>?_))))))))
 refine .o (.aP (vs:=[_,_,_,_,_,_]) hs rfl rfl aM fun w hs=>?_)
 refine .nil (.aj (.y hs (zls [_,_,_,_,_,_] bg aM) (.o (.call Dm rfl (gG (s:=s.sp) hs hk.st hk.wa ⟨an,an⟩) ?_))));rintro _ w ⟨H1,ba,hle1,rfl,hit,hs⟩
 refine .nil (.block ?_)
 refine .rangeFunc (gf:=188) (cap:=[Pt ba]) (xs:=yI s.sp) (σb:=[.blk bm [I s.sp.id,I s.sp.src,.slice ast s.sp.st.length cst,.slice awa s.sp.wa.length cwa,I s.sp.al,I s.sp.up,vr,vc,vt,vl],en,.blk b1 [Pt bm],.blk b2 [I s.sp.id,I s.sp.src,.slice ast s.sp.st.length cst,.slice awa s.sp.wa.length cwa,I s.sp.al,I s.sp.up]]) (σf:=σ) (hs.sb) trivial rfl hit Dl (fun x hx=>by
   simp only [yI,List.mem_map] at hx
   obtain ⟨j,_,rfl⟩:=hx;rfl) rfl
  (I:=fun p H' σb=>∃vl en,σb=[.blk bm [I s.sp.id,I s.sp.src,.slice ast s.sp.st.length cst,.slice awa s.sp.wa.length cwa,I s.sp.al,I s.sp.up,vr,vc,vt,vl],en,.blk b1 [Pt bm],.blk b2 [I s.sp.id,I s.sp.src,.slice ast s.sp.st.length cst,.slice awa s.sp.wa.length cwa,I s.sp.al,I s.sp.up]]∧cZ 4 vl (iF (ls++so (upL s.sp) s.sp.wa.length p)) en) (Ix:=fun _ _ _=>False)
  (fun j _ _ σ g1 g2=>g2) (fun _ _ _ _ _ h=>h) ⟨vl,en,rfl,by rw [p5,List.append_nil];exact hO⟩ ?_ ?_ (fun D c H' σb w _ h _=>h.elim)
 ·rintro ly p hp H2 σb2 σf2 w hle2 ⟨vl,en,rfl,hO⟩ hs ⟨rr,hrr⟩
  have hpm:p<s.sp.many:=by rw [eQ] at hp;exact hp
  have hsucc:=p6 (upL s.sp) (p:=p) hsm.2.2.1
  have hpl:=kM (tp s.sp) hsm.2.2.1 p
  have hin:p/s.sp.wa.length<s.sp.st.length:=Nat.div_lt_of_lt_mul (by rw [Nat.mul_comm];exact hpm)
  have hkm:=Nat.mod_lt p hsm.2.2.1
  have hdm:=Nat.div_add_mod p s.sp.wa.length
  rw [Nat.mul_comm] at hdm
  have hu:(s.sp.u (p/s.sp.wa.length) (p%s.sp.wa.length):Int)=(p:Int)+1:=by unfold Spc.u;omega
  rw [nQ hp]
  obtain ⟨al,ll,cl,rfl,hll⟩:=hO.shape
  generalize p/s.sp.wa.length=i at*
  generalize p%s.sp.wa.length=k at*
  have hk2:=hk.mono (hle1.trans hle2)
  refine .region (.o (.alloc hs lX rfl fun b3 w hs=>?_))
  refine .o (.aP (vs:=[_,_,_]) hs rfl rfl qz fun w hs=>?_)
  refine .nil (nT (⟨H2,[.blk b3 [I (i:Int),I (k:Int),I ((p+1:Nat):Int)],.blk bm [I s.sp.id,I s.sp.src,.slice ast s.sp.st.length cst,.slice awa s.sp.wa.length cwa,I s.sp.al,I s.sp.up,vr,vc,vt,.slice al ll cl],en,.blk b1 [Pt bm],.blk b2 [I s.sp.id,I s.sp.src,.slice ast s.sp.st.length cst,.slice awa s.sp.wa.length cwa,I s.sp.al,I s.sp.up]],HLe.refl _,hs,?_⟩));rintro w σf4 - hs
  refine .block (.aj (.z (zfa dw) (.y hs (zld af) (.z cK (.z (zfa bh) (.y hs (zld aq) (.z (dc ae) (.zn fM (.bA rfl (fun hc19=>?_) (fun hc19=>?_))))))))))
  ·refine .seq (.draw mix rfl hs fun w hs=>?_)
   refine .zw 0 rfl (zfa eC) ?_;refine .z 1 rfl (zfa ka) ?_;refine .y 2 rfl hs af ?_;refine .z 3 rfl (zfa bh) ?_;refine .y 4 rfl hs aq ?_;refine .z 5 rfl (zfa dw) ?_;refine .y 6 rfl hs af ?_;refine .z 7 rfl cK ?_
   have hris:=hok.wa.rise k an
   have hq0:=hok.wa.bd (i:=k) an
   have hq1:=hok.wa.bd (i:=k+1) an
   have hal:=hok.up
   refine .ixX (enc:=fun x=>[I x]) (i:=8) hs rfl aD .none hk2.wa rfl rfl ae ai (bB (l:=s.sp.wa) (i:=(k+1)) an) da ?_;intro b28 o28 hc28;replace hc28:=bL.one hc28
   refine .r (i:=9) hs rfl aD .none (aJ rfl af hc28) ?_
   refine .zw 10 rfl (zfa bh) ?_;refine .y 11 rfl hs aq ?_;refine .z 12 rfl (zfa dw) ?_;refine .y 13 rfl hs af ?_
   refine .ixX (enc:=fun x=>[I x]) (i:=14) hs rfl aD .none hk2.wa rfl rfl ae ai (bB (l:=s.sp.wa) (i:=k) an) da ?_;intro b34 o34 hc34;replace hc34:=bL.one hc34
   refine .r (i:=15) hs rfl aD .none (aJ rfl af hc34) ?_
   refine .zw 16 rfl fY (.E 17 hs ?_)
   refine .call Tryz.call243 rfl (np hs an an) ?_;rintro _ w ⟨rfl,hs⟩
   refine .go (.zw 18 rfl zg ?_);refine .D hs ?_
   refine .region (.y hs (zld te) (.z (zfa e9) (.y hs (zld af) (.z (zfa e9) (.y hs (zld af) (.z cK (.z zm (.z zm (.z (zfa ed) (.y hs (zld af) (.o (.call Dj rfl (iH (ls:=ls++so (upL s.sp) s.sp.wa.length p) (hs.sb:St H2 w (.blk bm _::en:: .blk b1 _:: .blk b2 _::σf4)) hO (by rw [List.length_append];omega)) ?_))))))))))));rintro _ w ⟨vl3,en3,hO3,hs⟩
   have hu2:(s.sp.u i (k+1):Int)=((p+1:Nat):Int)+1:=by unfold Spc.u at hu ⊢;omega
   rw [show two ((p+1:Nat):Int) (((p+1:Nat):Int)+1) (lh s.sp.up (gi s.sp.wa (k+1) - gi s.sp.wa k)) (lh s.sp.up (gi s.sp.wa (k+1) - gi s.sp.wa k)) s.sp.src=upL s.sp i k by unfold upL;rw [if_pos an,hu,hu2];rfl,List.append_assoc,←hsucc] at hO3
   refine .nil (nB ?_)
   exact ⟨H2,_,HLe.refl _,hs,_,_,rfl,hO3⟩
  ·refine .skip (nB ?_)
   rw [show upL s.sp i k=[] by unfold upL;rw [if_neg an],List.append_nil] at hsucc
   exact ⟨H2,_,HLe.refl _,(hs.sb:St H2 w (.blk bm _::en:: .blk b1 _:: .blk b2 _::σf4)),_,_,rfl,by rw [hsucc];exact hO⟩
 ·rintro D H2 σb2 w hle2 ⟨vl,en,rfl,hO⟩ hs
  rw [eQ,show s.sp.many=s.sp.st.length*s.sp.wa.length from rfl,sm _ hsm.2.2.1] at hO
  refine nB ?_
  exact Fin.JE [D] [] hs fun w hs=>⟨_,results0 Tryz.results192,H2,vl,en,hle1.trans hle2,hO,(hs.sb:St H2 w (.blk bm _::en::σ))⟩
theorem tM{s:Srv}{ts:List TD}{vst vwa vr vc vt vl:Value}{en:Ent}{bm:Nat}{ls:List Lim}(hs:St H w (.blk bm [I s.sp.id,I s.sp.src,vst,vwa,I s.sp.al,I s.sp.up,vr,vc,vt,vl]::en::σ))(hk:MkK H s ts vst vwa vr vc vt)(hO:cZ 4 vl (iF ls) en)(hl:ls.length≤10000)(hok:fA s.sp)(htl:ts.length≤100):
  Cl Tryz.prog 193 [Pt bm] w fun _ w'=>∃H1 vl' en',HLe H H1∧cZ 4 vl' (iF (ls++zD s.sp ts.length)) en'∧St H1 w' (.blk bm [I s.sp.id,I s.sp.src,vst,vwa,I s.sp.al,I s.sp.up,vr,vc,vt,vl']::en'::σ):=by
 have hsm:=fN hok
 obtain ⟨at_,ct,rfl⟩:=RTd.shape hk.ts
 refine Cl.o Tryz.func193 Tryz.ntmps193 ag1 ?_
 refine .aj (.z zm (.z znc (.z (zfa gO) (.y hs (zld IF) (.z (dc bO) (.zn zm (.for (N:=ts.length) (J:=fun j fr w=>fr=[(0,Pt bm)]∧∃vl en,cZ 4 vl (iF (ls++zD s.sp j)) en∧St H w (.blk bm [I s.sp.id,I s.sp.src,vst,vwa,I s.sp.al,I s.sp.up,vr,vc,.slice at_ ts.length ct,vl]::en::σ)) an ?_ ?_ ?_)))))))
 ·exact .mk ⟨rfl,vl,en,by show cZ 4 vl (iF (ls++[])) en;rw [List.append_nil];exact hO,hs⟩
 ·rintro j fr w hj ⟨rfl,vl,en,hO,hs⟩
  have hel:=kC s.sp j
  obtain ⟨al,ll,cl,rfl,hll⟩:=hO.shape
  refine .block (.aj (.z zm (.zn zg (.draw mix rfl hs fun w hs=>?_))))
  refine .zw 0 rfl zm ?_;refine .z 1 rfl zm ?_;refine .z 2 rfl zm ?_;refine .z 4 rfl zm ?_;refine .z 5 rfl znc ?_;refine .z 6 rfl (zfa dT) ?_;refine .z 7 rfl (zfa bn) ?_;refine .z 8 rfl (zfa ed) ?_;refine .y 9 rfl hs af ?_
  refine .E 3 hs ?_
  refine .call Tryz.call244 rfl (mf (s:=s.sp) hs .here hk.st hk.wa ⟨an,an⟩ ⟨an,an⟩) ?_;rintro _ w ⟨rfl,hs⟩
  refine .go (.E 10 hs ?_)
  refine .call Dj rfl (iH (ls:=ls++zD s.sp j) hs hO (by rw [List.length_append];omega)) ?_;rintro _ w ⟨vl3,en3,hO3,hs⟩
  rw [show (s.sp.many:Int)+1+(j:Int)=((s.sp.many+1+j:Nat):Int) by omega,List.append_assoc] at hO3
  refine .go (.D hs (nB (nT ?_)))
  exact .mk ⟨rfl,vl3,en3,hO3,hs⟩
 ·rintro fr w ⟨rfl,vl,en,hO,hs⟩
  exact Fin.AL Tryz.results193 ⟨H,vl,en,HLe.refl _,hO,hs⟩
set_option maxHeartbeats 1000000 in
theorem rk{s:Srv}{ts:List TD}{vst vwa vr vc vt vl:Value}{en:Ent}{bm:Nat}{ls:List Lim}(hs:St H w (.blk bm [I s.sp.id,I s.sp.src,vst,vwa,I s.sp.al,I s.sp.up,vr,vc,vt,vl]::en::σ))(hk:MkK H s ts vst vwa vr vc vt)(hO:cZ 4 vl (iF ls) en)(hl:ls.length≤10000)(hok:fA s.sp)(htl:ts.length≤100)(hcl:s.cs.length≤20)(hc:∀c∈s.cs,rE c){j0:Nat}(hj0:j0≤ts.length):
  Cl Tryz.prog 245 [Pt bm,I (j0:Int)] w fun _ w'=>∃H1 vl' en',HLe H H1∧cZ 4 vl' (iF (ls++vV s.sp ts s.cs j0 s.cs.length)) en'∧St H1 w' (.blk bm [I s.sp.id,I s.sp.src,vst,vwa,I s.sp.al,I s.sp.up,vr,vc,vt,vl']::en'::σ):=by
 have hsm:=fN hok
 obtain ⟨at_,ct,rfl⟩:=RTd.shape hk.ts
 obtain ⟨ac,cc,rfl⟩:=RCm.shape hk.cs
 refine Cl.o Tryz.func245 Tryz.ntmps245 ag2 ?_
 refine .aj (.z zm (.z znc (.z (zfa dT) (.z (zfa cH) (.y hs (zld eu) (.z (dc bu) (.zn zm (.for (N:=s.cs.length) (J:=fun i fr w=>fr=[(12,.slice ac s.cs.length cc),(0,Pt bm),(1,I (j0:Int))]∧∃vl en,cZ 4 vl (iF (ls++vV s.sp ts s.cs j0 i)) en∧St H w (.blk bm [I s.sp.id,I s.sp.src,vst,vwa,I s.sp.al,I s.sp.up,vr,.slice ac s.cs.length cc,.slice at_ ts.length ct,vl]::en::σ)) an ?_ ?_ ?_))))))))
 ·exact .mk ⟨rfl,vl,en,by show cZ 4 vl (iF (ls++[])) en;rw [List.append_nil];exact hO,hs⟩
 ·rintro i fr w hi ⟨rfl,vl,en,hO,hs⟩
  obtain ⟨c,hx⟩:=nth hi
  obtain ⟨g1,g2,g3,g4,g5,g6⟩:=hc c (List.mem_of_getElem? hx)
  have hcl1:=kD s.sp ts s.cs j0 i
  have hcl2:i*(2*(ts.length - j0))≤20*(2*100):=Nat.mul_le_mul an an
  refine .block (.aj (.ixX (enc:=Cmp.c) hs hk.cs rfl rfl bu cO hx da ?_));intro b16 o16 hc16
  refine .q hs (cj (vs:=(Cmp.c c)) rfl IG cO hc16) (.o (.alloc hs zZ rfl fun b5 w hs=>?_))
  refine .o (.aP (vs:=c.c) hs rfl rfl cO fun w hs=>?_)
  replace hs:St H w (.blk bm [I s.sp.id,I s.sp.src,vst,vwa,I s.sp.al,I s.sp.up,vr,.slice ac s.cs.length cc,.slice at_ ts.length ct,vl]::en:: .blk b5 [I c.src,I c.tape,I c.fr,I c.to,I c.lo,I c.hi]::σ):=hs.sb
  refine .nil (.aj (.z zm (.zn zg (.block ?_))))
  refine .loop (fun j:Nat=>⟨62,[],[(6,I ((j0+j:Nat):Int)),(5,Pt b5),(14,I (i:Int)),(13,I (s.cs.length:Int)),(12,.slice ac s.cs.length cc),(0,Pt bm),(1,I (j0:Int))]⟩)
   (fun j w=>j0+j≤ts.length∧∃vl en,cZ 4 vl (iF (ls++vV s.sp ts s.cs j0 i++mj s.sp ts c j0 j)) en∧St H w (.blk bm [I s.sp.id,I s.sp.src,vst,vwa,I s.sp.al,I s.sp.up,vr,.slice ac s.cs.length cc,.slice at_ ts.length ct,vl]::en:: .blk b5 [I c.src,I c.tape,I c.fr,I c.to,I c.lo,I c.hi]::σ)) (fun j=>ts.length - (j0+j)) 0 aU
   ⟨an,vl,en,by show cZ 4 vl (iF (_++[])) en;rw [List.append_nil];exact hO,hs⟩ ?_
  clear hO hs
  rintro j w ⟨hj,vl,en,hO,hs⟩
  have hl1:=mO s.sp ts c j0 j
  obtain ⟨al,ll,cl,rfl,hll⟩:=hO.shape
  refine .seq (.aj (.z zm (.z zm (.z znc (.z (zfa gO) (.y hs (zld IF) (.z (dc bO) (.zn fM (.bA rfl (fun hc25=>?_) (fun hc25=>?_))))))))))
  ·refine .skip (nT (.seq (.block (.aj (.z zm (.z znc (.z (zfa gO) (.y hs (zld IF) (.z zm ?_)))))))))
   obtain ⟨t,ht⟩:=nth (l:=ts) (k:=j0+j) an
   have ht0:=G4 ht
   refine .ixX (enc:=TD.c) hs hk.ts rfl rfl bO bZ ht da ?_;intro b33 o33 hc33
   refine .q hs (cj (vs:=(TD.c t)) rfl eH bZ hc33) (.o (.alloc hs lY rfl fun b7 w hs=>?_))
   refine .o (.aP (vs:=t.c) hs rfl rfl bZ fun w hs=>?_)
   change St _ _ (.blk b7 [I t.tape,I t.day]::_) at hs
   refine .nil (.aj (.z (zfa ox) (.y hs (zld af) (.z (zfa jH) (.y hs (zld af) (.z fm (.z zm (.gX (t':=40) rfl (fun hb40=>?_) (fun hb40=>?_)))))))))
   ·refine .T ?_
    refine .z (zfa lj) (.T (.y hs (zld af) (.T (.z (zfa gJ) (.T (.y hs (zld af) (.T (.z (zfa fK) (.T (.y hs (zld af) (.T (.o (.call dZ rfl (bT hs) ?_)))))))))))));rintro _ w ⟨rfl,hs⟩
    refine .zn zpT (.cond rfl (fun hc48=>?_) (fun hc48=>?_))
    ·refine .draw mix rfl hs fun w hs=>?_
     refine .zw 0 rfl zm ?_;refine .z 1 rfl zm ?_;refine .z 2 rfl zm ?_;refine .z 4 rfl (zfa fJ) ?_;refine .y 5 rfl hs af ?_;refine .z 6 rfl BQ ?_;refine .z 7 rfl (zfa fI) ?_;refine .y 8 rfl hs af ?_;refine .z 9 rfl (zfa iD) ?_;refine .y 10 rfl hs af ?_
     refine .E 3 hs ?_
     refine .call Tryz.call244 rfl (mf (s:=s.sp) hs (.there .here) hk.st hk.wa ⟨an,an⟩ ⟨an,an⟩) ?_;rintro _ w ⟨rfl,hs⟩
     refine .go (.E 11 hs ?_)
     refine .call Dj rfl (iH (ls:=ls++vV s.sp ts s.cs j0 i++mj s.sp ts c j0 j) (hs.tail:St H w (.blk bm _::en:: .blk b5 _::σ)) hO (by rw [List.length_append,List.length_append];omega)) ?_;rintro _ w ⟨vl3,en3,hO3,hs⟩
     refine .go (.D hs (nB (nT (.region (.z zm (.z cK (.zn zg (nT ?_))))))))
     have e:mj s.sp ts c j0 (j+1)=mj s.sp ts c j0 j++two 0 ((s.sp.many:Int)+1+((j0+j:Nat):Int)) (-c.lo) c.hi c.src:=by
      show _++mS c (td0 ts (j0+j)) _=_
      rw [ht0];unfold mS;rw [if_pos (by simp at hc48;omega)]
      rw [show ((s.sp.many+1+(j0+j):Nat):Int)=(s.sp.many:Int)+1+((j0+j:Nat):Int) by omega]
     rw [List.append_assoc _ (mj _ _ _ _ _),←e] at hO3
     exact ⟨j+1,.cJ rfl (by simp;omega) aU,⟨an,vl3,en3,hO3,hs⟩,an⟩
    ·refine .skip (nB (nT (.region (.z zm (.z cK (.zn zg (nT ?_)))))))
     have e:mj s.sp ts c j0 (j+1)=mj s.sp ts c j0 j:=by
      show _++mS c (td0 ts (j0+j)) _=_
      rw [ht0];unfold mS;rw [if_neg (by simp at hc48;omega),List.append_nil]
     exact ⟨j+1,.cJ rfl (by simp;omega) aU,⟨an,_,en,by rw [e];exact hO,hs.tail⟩,an⟩
   ·refine .Fs 7 5 true (.zn zpF (.cF (.skip (nB (nT (.region (.z zm (.z cK (.zn zg (nT ?_))))))))))
    have e:mj s.sp ts c j0 (j+1)=mj s.sp ts c j0 j:=by
     show _++mS c (td0 ts (j0+j)) _=_
     rw [ht0];unfold mS;rw [if_neg an,List.append_nil]
    exact ⟨j+1,.cJ rfl (by simp;omega) aU,⟨an,_,en,by rw [e];exact hO,hs.tail⟩,an⟩
  ·refine .exit (xT (xT (xB (nB (nT ?_)))))
   obtain rfl:j=ts.length - j0:=by omega
   rw [List.append_assoc,show vV s.sp ts s.cs j0 i++mj s.sp ts c j0 (ts.length - j0)=vV s.sp ts s.cs j0 (i+1) by rw [←EX hx];rfl] at hO
   exact .mk ⟨rfl,_,en,hO,hs.sb⟩
 ·rintro fr w ⟨rfl,vl,en,hO,hs⟩
  exact Fin.AL Tryz.results245 ⟨H,vl,en,HLe.refl _,hO,hs⟩
theorem oN{s:Srv}{ts:List TD}{vst vwa vr vc vt vl:Value}{en:Ent}{bm:Nat}{ls:List Lim}(hs:St H w (.blk bm [I s.sp.id,I s.sp.src,vst,vwa,I s.sp.al,I s.sp.up,vr,vc,vt,vl]::en::σ))(hk:MkK H s ts vst vwa vr vc vt)(hO:cZ 4 vl (iF ls) en)(hl:ls.length≤10000)(hok:fA s.sp)(htl:ts.length≤100)(hcl:s.cs.length≤20)(hc:∀c∈s.cs,rE c):
  Cl Tryz.prog 194 [Pt bm] w fun _ w'=>∃H1 vl' en',HLe H H1∧cZ 4 vl' (iF (ls++vV s.sp ts s.cs 0 s.cs.length)) en'∧St H1 w' (.blk bm [I s.sp.id,I s.sp.src,vst,vwa,I s.sp.al,I s.sp.up,vr,vc,vt,vl']::en'::σ):=by
 refine Cl.o Tryz.func194 Tryz.ntmps194 ag1 ?_
 refine .region (.z zm (.o (.call Tryz.call245 rfl (rk (s:=s) (ts:=ts) (j0:=0) hs hk hO hl hok htl hcl hc an) ?_)));rintro _ w hs
 refine .nil ?_
 exact Fin.AL Tryz.results194 hs
set_option maxHeartbeats 1000000 in
theorem rj{s:Srv}{ts:List TD}{vst vwa vr vc vt vl:Value}{en:Ent}{bm:Nat}{ls:List Lim}(hs:St H w (.blk bm [I s.sp.id,I s.sp.src,vst,vwa,I s.sp.al,I s.sp.up,vr,vc,vt,vl]::en::σ))(hk:MkK H s ts vst vwa vr vc vt)(hO:cZ 4 vl (iF ls) en)(hl:ls.length≤10000)(hok:fA s.sp)(htl:ts.length≤100)(hrl:s.rs.length≤60)(hr:∀r∈s.rs,nD s.sp r)(hmem:∀r∈s.rs,r.td∈ts):
  Cl Tryz.prog 195 [Pt bm] w fun _ w'=>∃H1 vl' en',HLe H H1∧cZ 4 vl' (iF (ls++xA s.sp ts s.rs s.rs.length)) en'∧St H1 w' (.blk bm [I s.sp.id,I s.sp.src,vst,vwa,I s.sp.al,I s.sp.up,vr,vc,vt,vl']::en'::σ):=by
 have hsm:=fN hok
 obtain ⟨at_,ct,rfl⟩:=RTd.shape hk.ts
 obtain ⟨ar,cr,rfl⟩:=RRd.shape hk.rs
 refine Cl.o Tryz.func195 Tryz.ntmps195 ag1 ?_
 refine .aj (.z zm (.z znc (.z (zfa dT) (.z (zfa aZ) (.y hs (zld bQ) (.z (dc aB) (.zn zm (.for (N:=s.rs.length) (J:=fun i fr w=>fr=[(9,.slice ar s.rs.length cr),(0,Pt bm)]∧∃vl en,cZ 4 vl (iF (ls++xA s.sp ts s.rs i)) en∧St H w (.blk bm [I s.sp.id,I s.sp.src,vst,vwa,I s.sp.al,I s.sp.up,.slice ar s.rs.length cr,vc,.slice at_ ts.length ct,vl]::en::σ)) an ?_ ?_ ?_))))))))
 ·exact .mk ⟨rfl,vl,en,by show cZ 4 vl (iF (ls++[])) en;rw [List.append_nil];exact hO,hs⟩
 ·rintro i fr w hi ⟨rfl,vl,en,hO,hs⟩
  obtain ⟨r,hx⟩:=nth hi
  obtain ⟨g1,g2,g3,g4,g5,g6,g7⟩:=hr r (List.mem_of_getElem? hx)
  obtain ⟨k,k1,k2,k3⟩:=iT (hmem r (List.mem_of_getElem? hx))
  have hrl1:=ky s.sp ts s.rs i
  obtain ⟨al,ll,cl,rfl,hll⟩:=hO.shape
  refine .block (.aj (.ixX (enc:=Rdg.c) hs hk.rs rfl rfl aB aK hx da ?_));intro b13 o13 hc13
  refine .q hs (cj (vs:=(Rdg.c r)) rfl eI aK hc13) (.o (.alloc hs fk rfl fun b3 w hs=>?_))
  refine .o (.aP (vs:=r.c) hs rfl rfl aK fun w hs=>?_)
  change St _ _ (.blk b3 [I r.src,I r.st,I r.wa,I r.val,I r.tol,I r.tape,I r.day]::_) at hs
  refine .nil (.seq (.draw mix rfl hs fun w hs=>?_))
  refine .zw 0 rfl zm ?_;refine .z 1 rfl znc ?_;refine .z 2 rfl (zfa gO) ?_;refine .y 3 rfl hs IF ?_;refine .ys 4 rfl hs [_,_,_,_,_,_,_] eI aK ?_
  refine .E 5 hs ?_
  refine .call Tryz.call241 rfl (jM hs) ?_;rintro _ w ⟨rfl,hs⟩
  refine .go (.E 6 hs ?_)
  refine .call Tryz.call246 rfl (wB (t:=r.td) hs hk.ts an) ?_;rintro _ w ⟨rfl,hs⟩
  refine .go (.zw 7 rfl zg ?_);refine .D hs ?_
  refine .draw mix rfl hs fun w hs=>?_
  refine .zw 0 rfl zm ?_;refine .z 1 rfl zm ?_;refine .z 2 rfl zm ?_;refine .z 4 rfl zm ?_;refine .z 5 rfl znc ?_;refine .z 6 rfl (zfa dT) ?_;refine .z 7 rfl (zfa bn) ?_;refine .ys 8 rfl hs [_,_,_,_,_,_] bg aM ?_;refine .z 9 rfl (zfa gI) ?_;refine .y 10 rfl hs af ?_
  refine .zw 11 rfl (zfa gH) ?_;refine .y 12 rfl hs af ?_;refine .z 14 rfl (zfa dC) ?_;refine .y 15 rfl hs af ?_;refine .z 16 rfl (zfa dr) ?_;refine .y 17 rfl hs af ?_;refine .z 18 rfl cK ?_;refine .z 19 rfl (zfa dr) ?_;refine .y 20 rfl hs af ?_;refine .z 21 rfl (zfa dC) ?_
  refine .y 22 rfl hs af ?_;refine .z 23 rfl fY ?_;refine .z 24 rfl (zfa eV) ?_;refine .y 25 rfl hs af ?_
  refine .E 3 hs ?_
  refine .call Tryz.call244 rfl (mf (s:=s.sp) hs (.there .here) hk.st hk.wa ⟨an,an⟩ ⟨an,an⟩) ?_;rintro _ w ⟨rfl,hs⟩
  refine .go (.E 13 hs ?_)
  refine .call Tryz.call247 rfl (qj (s:=s.sp) hs hk.wa an ⟨an,an⟩ ⟨an,an⟩) ?_;rintro _ w ⟨rfl,hs⟩
  refine .go (.E 26 hs ?_)
  refine .call Dj rfl (iH (ls:=ls++xA s.sp ts s.rs i) (hs.sb:St H w (.blk bm _::en:: .blk b3 _::σ)) hO (by rw [List.length_append];omega)) ?_;rintro _ w ⟨vl3,en3,hO3,hs⟩
  refine .go (.D hs (nB (nT ?_)))
  rw [List.append_assoc,show xA s.sp ts s.rs i++two ((s.sp.many:Int)+1+kY ts r.td) (1+r.st*s.sp.wa.length+r.wa) (r.val+r.tol) (r.tol - r.val) r.src=xA s.sp ts s.rs (i+1) by rw [←DX hx];rfl] at hO3
  exact .mk ⟨rfl,vl3,en3,hO3,hs.sb⟩
 ·rintro fr w ⟨rfl,vl,en,hO,hs⟩
  exact Fin.AL Tryz.results195 ⟨H,vl,en,HLe.refl _,hO,hs⟩
def fnK:Nat→Nat
 |0=>190
 |1=>191
 |2=>192
 |3=>193
 |4=>194
 |_=>195
theorem Gv{k:Nat}(hk:k<6):∀args w,(callFunc (fnK k) args).run Tryz.prog w= .ok (.enter (fnK k) args) w:=by
 have h:k=0∨k=1∨k=2∨k=3∨k=4∨k=5:=by omega
 rcases h with rfl|rfl|rfl|rfl|rfl|rfl
 ·exact Tryz.call190
 ·exact Tryz.call191
 ·exact Tryz.call192
 ·exact Tryz.call193
 ·exact Tryz.call194
 ·exact Tryz.call195
theorem Ee{s:Srv}{vst vwa vr vc vt vl:Value}{en:Ent}{bm k:Nat}(hs:St H w (.blk bm [I s.sp.id,I s.sp.src,vst,vwa,I s.sp.al,I s.sp.up,vr,vc,vt,vl]::en::σ))(hk:MkK H s s.cV vst vwa vr vc vt)(hO:cZ 4 vl (iF (s.parts k)) en)(he:s.early)(hk6:k<6):
  Cl Tryz.prog (fnK k) [Pt bm] w fun _ w'=>∃H1 vl' en',HLe H H1∧cZ 4 vl' (iF (s.parts (k+1))) en'∧St H1 w' (.blk bm [I s.sp.id,I s.sp.src,vst,vwa,I s.sp.al,I s.sp.up,vr,vc,vt,vl']::en'::σ):=by
 have hl:=kL he k an
 obtain ⟨hok,h1,h2,h3,h4⟩:=he
 have htl:s.cV.length≤100:=by have:=ea s.rs;unfold Srv.cV;omega
 have h:k=0∨k=1∨k=2∨k=3∨k=4∨k=5:=by omega
 rcases h with rfl|rfl|rfl|rfl|rfl|rfl
 ·exact rl hs hk hO (Nat.le_trans hl dY) hok
 ·exact u9 hs hk hO (Nat.le_trans hl dY) hok
 ·exact zp hs hk hO (Nat.le_trans hl dY) hok
 ·exact tM hs hk hO (Nat.le_trans hl dY) hok htl
 ·exact oN hs hk hO (Nat.le_trans hl dY) hok htl h2 h4
 ·exact rj hs hk hO (Nat.le_trans hl dY) hok htl h1 h3 fun r hr=>iz.2 ⟨r,hr,rfl⟩
def fnV(b:Nat)(k:Nat):Value:= .func (.func (fnK k)) #[Pt b] #[]
theorem HP(b:Nat){k:Nat}(hk:k<6):[fnV b 0,fnV b 1,fnV b 2,fnV b 3,fnV b 4,fnV b 5][k]? =some (fnV b k):=by
 have h:k=0∨k=1∨k=2∨k=3∨k=4∨k=5:=by omega
 rcases h with rfl|rfl|rfl|rfl|rfl|rfl<;>rfl
set_option maxHeartbeats 1000000 in
theorem sd{s:Srv}{vst vwa vr vc:Value}(hs:St H w σ)(h1:RI H vst s.sp.st)(h2:RI H vwa s.sp.wa)(h3:RRd H vr s.rs)(h4:RCm H vc s.cs)(he:s.early):
  Cl Tryz.prog 133 [.agg #[I s.sp.id,I s.sp.src,vst,vwa,I s.sp.al,I s.sp.up,vr,vc]] w fun u w'=>∃H1 vl en,HLe H H1∧u= .agg #[I s.sys.many,vl]∧cZ 4 vl (iF s.dk) en∧St H1 w' (en::σ):=by
 have hsm:=fN he.1
 have htl:s.cV.length≤60:=by have:=ea s.rs;have:=he.2.1;unfold Srv.cV;omega
 refine Cl.o Tryz.func133 Tryz.ntmps133 ag1 ?_
 refine .aj (.bx hs fun b1 w hs=>?_)
 refine .o (.alloc hs dD rfl fun b2 w hs=>?_)
 refine .nil (.seq (.draw mix rfl hs fun w hs=>?_))
 refine .ys 0 rfl hs [_,_,_,_,_,_,_,_] aN aC ?_;refine .ys 1 rfl hs [_,_,_,_,_,_,_,_] aN aC ?_
 refine .E 2 hs ?_
 refine .call Tryz.call189 rfl (sc hs h3 (by have:=he.2.1;omega)) ?_;rintro v8 w ⟨H1,hle1,hT,hs⟩
 obtain ⟨at_,ct,rfl⟩:=RTd.shape hT
 have hk0:MkK H1 s s.cV vst vwa vr vc (.slice at_ s.cV.length ct):=⟨h1.mono hle1,h2.mono hle1,h3.mono hle1,h4.mono hle1,hT⟩
 refine .go (.zw 3 rfl (zbd (vs:=[(0,.agg #[I s.sp.id,I s.sp.src,vst,vwa,I s.sp.al,I s.sp.up,vr,vc]),(1,.slice at_ s.cV.length ct)]) [I s.sp.id,I s.sp.src,vst,vwa,I s.sp.al,I s.sp.up,vr,vc,.slice at_ s.cV.length ct,.slice none 0 0] tW rfl aD) (.E 4 hs ?_))
 refine .box hs rfl rfl ?_;intro b10 w hs
 refine .go (.zw 5 rfl zg ?_);refine .D hs ?_
 refine .seq (.aj (.z zm (.q hs (dM (f:=[_]) (c:=[]) rfl rfl) (.z zm (.q hs (dM (f:=[_]) (c:=[]) rfl rfl) (.z zm (.q hs (dM (f:=[_]) (c:=[]) rfl rfl) (.z zm (.q hs (dM (f:=[_]) (c:=[]) rfl rfl) (.z zm (.q hs (dM (f:=[_]) (c:=[]) rfl rfl) (.z zm (.q hs (dM (f:=[_]) (c:=[]) rfl rfl) (.o (.buildSlice (cells:=[fnV b10 0,fnV b10 1,fnV b10 2,fnV b10 3,fnV b10 4,fnV b10 5]) hs zI rfl aD fun b23 w hs=>?_)))))))))))))))
 refine .z (dc Tryz.runUnderlying247) (.zn zm (.for (N:=6) (J:=fun k fr w=>fr=[(23,.slice (some ⟨b23,0,none⟩) 6 6),(3,Pt b10),(2,Pt b2),(1,Pt b1)]∧∃H2 vl en,HLe H1 H2∧cZ 4 vl (iF (s.parts k)) en∧St H2 w (.blk b10 [I s.sp.id,I s.sp.src,vst,vwa,I s.sp.al,I s.sp.up,vr,vc,.slice at_ s.cV.length ct,vl]::en:: .blk b23 [fnV b10 0,fnV b10 1,fnV b10 2,fnV b10 3,fnV b10 4,fnV b10 5]:: .blk b2 [I 0,.slice none 0 0]:: .blk b1 [I s.sp.id,I s.sp.src,vst,vwa,I s.sp.al,I s.sp.up,vr,vc]::σ)) an ?_ ?_ ?_))
 ·exact .mk ⟨rfl,H1,.slice none 0 0,.nul,HLe.refl _,.nil 4 none,hs.nul.sb⟩
 ·rintro k fr w hk ⟨rfl,H2,vl,en,hle2,hO,hs⟩
  refine .block (.aj (.z (zix Tryz.runUnderlying247 Tryz.sizeOf1) (.q hs (eg rfl Tryz.isAgg1 (hv:=HP b10 hk)) (.zn zg (.region (.z zm (.o (.qs (first:=[Pt b10]) (cap:=[]) rfl rfl (Gv hk) (Ee hs (hk0.mono hle2) hO he hk) ?_))))))));rintro _ w ⟨H3,vl3,en3,hle3,hO3,hs⟩
  refine .nil (nB (nT ?_))
  exact .mk ⟨rfl,H3,vl3,en3,hle2.trans hle3,hO3,hs⟩
 ·rintro fr w ⟨rfl,H2,vl,en,hle2,hO,hs⟩
  rw [s.wU] at hO
  obtain ⟨al,ll,cl,rfl,hll⟩:=hO.shape
  refine nT (.seq (.draw mix rfl hs fun w hs=>?_))
  refine .zw 0 rfl (zfa bn) ?_;refine .ys 1 rfl hs [_,_,_,_,_,_] bg aM ?_;refine .z 3 rfl zm ?_;refine .z 4 rfl znc ?_;refine .z 5 rfl (zfa gO) ?_;refine .y 6 rfl hs IF ?_;refine .z 7 rfl (dc bO) ?_;refine .z 9 rfl zm ?_;refine .z 10 rfl znc ?_;refine .z 11 rfl (zfa j8) ?_
  refine .zv 12 rfl hs (nx dz) (.E 2 hs ?_)
  refine .call Tryz.call196 rfl (nm (s:=s.sp) hs (h1.mono (hle1.trans hle2)) (h2.mono (hle1.trans hle2)) ⟨an,an⟩) ?_;rintro _ w ⟨rfl,hs⟩
  refine .go (.zw 8 rfl cK ?_);refine .z 13 rfl (zbd [_,_] jC) ?_
  refine .E 14 hs ?_
  refine .aP (vs:=[_,_]) hs rfl rfl aI ?_;intro w hs
  refine .go (.D hs (.ret ?_))
  replace hs:St H2 w (.blk b2 [I ((s.sp.many:Int)+(s.cV.length:Int)),.slice al ll cl]::en::σ):=hs.sb
  exact Fin.iM [] [] hs fun w hs=>⟨_,results1 Tryz.results133 (dy (vs:=[_,_]) hs rfl bq aI),H2,_,en,hle1.trans hle2,by show _=Value.agg #[I ((s.sp.many+s.cV.length:Nat):Int),_];rw [Int.natCast_add],hO,hs.tail⟩
theorem gg{s:Srv}{vst vwa vr vc:Value}(hs:St H w σ)(h1:RI H vst s.sp.st)(h2:RI H vwa s.sp.wa)(h3:RRd H vr s.rs)(h4:RCm H vc s.cs)(he:s.early):
  Cl Tryz.prog 133 [.agg #[I s.sp.id,I s.sp.src,vst,vwa,I s.sp.al,I s.sp.up,vr,vc]] w fun u w'=>∃H1,HLe H H1∧RSy H1 u s.sys∧St H1 w' σ:=by
 refine (sd hs h1 h2 h3 h4 he).mono ?_
 rintro u w' ⟨H1,vl,en,hle,rfl,hO,hs⟩
 have hl:=kL he 6 an
 rw [s.wU] at hl
 obtain ⟨H2,hle2,hR,hs⟩:=cZ.di (m:=4) (cs:=s.dk.map Lim.c) hO (fun c hc=>by simp only [List.mem_map] at hc;obtain ⟨x,_,rfl⟩:=hc;rfl) an (by rw [List.length_map];omega) hs .here
 exact ⟨H2,hle.trans hle2,⟨vl,rfl,hR⟩,hs⟩
set_option maxHeartbeats 1000000 in
theorem gM{s:Srv}{vst vwa vr vc:Value}(hs:St H w σ)(h1:RI H vst s.sp.st)(h2:RI H vwa s.sp.wa)(h3:RRd H vr s.rs)(h4:RCm H vc s.cs):
  Cl Tryz.prog 117 [.agg #[I s.sp.id,I s.sp.src,vst,vwa,I s.sp.al,I s.sp.up,vr,vc]] w fun u w'=>∃H1 e,HLe H H1∧u=I e∧yL s e∧St H1 w' σ:=by
 obtain ⟨ast,cst,rfl⟩:=RI.shape h1
 obtain ⟨awa,cwa,rfl⟩:=RI.shape h2
 obtain ⟨ar,cr,rfl⟩:=RRd.shape h3
 obtain ⟨ac,cc,rfl⟩:=RCm.shape h4
 refine Cl.o Tryz.func117 Tryz.ntmps117 ag1 ?_
 refine .aj (.bx hs fun b1 w hs=>?_)
 refine .zn zg (.seq (.aj (.z (zfa bn) (.y hs (zls [_,_,_,_,_,_] bg aM) (.o (.call Tryz.call111 rfl (jZ (s:=s.sp) hs h1 h2) ?_))))));rintro _ w ⟨H1,e,hle1,rfl,he,hs⟩
 refine .zn zg (.aj (.z zm (.zn gE (.dV rfl (fun hc13=>?_) (fun hc13=>?_)))))
 ·refine .aj (.z zm (.zn zg (.ret (rT (Fin.bE lC rfl ?_)))))
  have hq:¬fA s.sp∧e=30:=he.resolve_left fun h=>hc13 h.2
  exact ⟨H1,_,hle1,rfl,by rw [hq.2];exact .space hq.1,hs.out⟩
 ·refine .skip (nT (.seq (.aj (.z (zfa aZ) ?_))))
  have hok:fA s.sp:=(he.resolve_right fun h=>by omega).1
  refine .y hs (zld bQ) (.z (dc aB) (.z km (.z zm (.gX (t':=19) rfl (fun hb19=>?_) (fun hb19=>?_)))))
  ·refine .Fs 4 4 false (.zn zpT (.cT (.aj (.zn zg (.ret (rT (Fin.bE lC rfl ?_)))))))
   exact ⟨H1,_,hle1,rfl,.long hok an,hs.out⟩
  ·refine .T (.z (zfa cH) (.T (.y hs (zld eu) (.T (.z (dc bu) (.T (.z km (.zn zpF (.bA rfl (fun hc24=>?_) (fun hc24=>?_))))))))))
   ·refine .aj (.zn zg (.ret (rT (Fin.bE lC rfl ?_))))
    exact ⟨H1,_,hle1,rfl,.long hok an,hs.out⟩
   ·refine .skip (nT (.seq (.aj (.z (zfa aZ) (.y hs (zld bQ) (.z (dc aB) (.zn zm (.for (N:=s.rs.length) (J:=fun k fr w=>fr=[(26,.slice ar s.rs.length cr),(1,Pt b1)]∧(∀j<k,∀y,s.rs[j]? =some y→nD s.sp y)∧St H1 w (.blk b1 [I s.sp.id,I s.sp.src,.slice ast s.sp.st.length cst,.slice awa s.sp.wa.length cwa,I s.sp.al,I s.sp.up,.slice ar s.rs.length cr,.slice ac s.cs.length cc]::σ)) an ?_ ?_ ?_))))))))
    ·exact .mk ⟨rfl,fun j hj=>by omega,hs⟩
    ·rintro k fr w hk ⟨rfl,hno,hs⟩
     obtain ⟨r,hx⟩:=nth hk
     refine .block (.aj (.ixX (enc:=Rdg.c) hs (h3.mono hle1) rfl rfl aB aK hx da ?_));intro b30 o30 hc30
     refine .q hs (cj (vs:=(Rdg.c r)) rfl eI aK hc30) (.o (.alloc hs fk rfl fun b5 w hs=>?_))
     refine .o (.aP (vs:=r.c) hs rfl rfl aK fun w hs=>?_)
     change St _ _ (.blk b5 [I r.src,I r.st,I r.wa,I r.val,I r.tol,I r.tape,I r.day]::_) at hs
     refine .nil (.aj (.z (zfa bn) (.y hs (zls [_,_,_,_,_,_] bg aM) (.y hs (zls [_,_,_,_,_,_,_] eI aK) (.o (.call Tryz.call120 rfl (oJ (s:=s.sp) (r:=r) hs (h1.mono hle1) (h2.mono hle1)) ?_))))));rintro _ w ⟨b35,rfl,hb35,hs⟩
     refine .zn fZ (.cond rfl (fun hc36=>?_) (fun hc36=>?_))
     ·refine .aj (.zn zg (.ret (rB (rT (rB (rT (Fin.bE lC rfl ?_)))))))
      exact ⟨H1,_,hle1,rfl,.rdg hok an (fun h=>by rw [hb35.2 (h r (List.mem_of_getElem? hx))] at hc36;cases hc36),hs.out⟩
     ·refine .skip (nB (nT ?_))
      exact .mk ⟨rfl,fo hno hx (hb35.1 (by simpa using hc36)),hs.tail⟩
    ·rintro fr w ⟨rfl,hno,hs⟩
     have hrs:∀r∈s.rs,nD s.sp r:=fun r hr=>by
      obtain ⟨j,hj⟩:=List.getElem?_of_mem hr
      exact hno j (List.getElem?_eq_some_iff.1 hj).1 r hj
     clear hno
     refine nT (.seq (.aj (.z (zfa cH) (.y hs (zld eu) (.z (dc bu) (.zn zm (.for (N:=s.cs.length) (J:=fun k fr w=>fr=[(39,.slice ac s.cs.length cc),(1,Pt b1)]∧(∀j<k,∀y,s.cs[j]? =some y→rE y)∧St H1 w (.blk b1 [I s.sp.id,I s.sp.src,.slice ast s.sp.st.length cst,.slice awa s.sp.wa.length cwa,I s.sp.al,I s.sp.up,.slice ar s.rs.length cr,.slice ac s.cs.length cc]::σ)) an ?_ ?_ ?_)))))))
     ·exact .mk ⟨rfl,fun j hj=>by omega,hs⟩
     ·rintro k fr w hk ⟨rfl,hno,hs⟩
      obtain ⟨c,hx⟩:=nth hk
      refine .block (.aj (.ixX (enc:=Cmp.c) hs (h4.mono hle1) rfl rfl bu cO hx da ?_));intro b43 o43 hc43
      refine .q hs (cj (vs:=(Cmp.c c)) rfl IG cO hc43) (.o (.alloc hs zZ rfl fun b7 w hs=>?_))
      refine .o (.aP (vs:=c.c) hs rfl rfl cO fun w hs=>?_)
      change St _ _ (.blk b7 [I c.src,I c.tape,I c.fr,I c.to,I c.lo,I c.hi]::_) at hs
      refine .nil (.aj (.y hs (zls [_,_,_,_,_,_] IG cO) (.o (.call Tryz.call170 rfl (oK (c:=c) hs) ?_))));rintro _ w ⟨b46,rfl,hb46,hs⟩
      refine .zn fZ (.cond rfl (fun hc47=>?_) (fun hc47=>?_))
      ·refine .aj (.zn zg (.ret (rB (rT (rB (rT (Fin.bE lC rfl ?_)))))))
       exact ⟨H1,_,hle1,rfl,.cmp hok an hrs (fun h=>by rw [hb46.2 (h c (List.mem_of_getElem? hx))] at hc47;cases hc47),hs.out⟩
      ·refine .skip (nB (nT ?_))
       exact .mk ⟨rfl,fo hno hx (hb46.1 (by simpa using hc47)),hs.tail⟩
     ·rintro fr w ⟨rfl,hno,hs⟩
      have hcs:∀c∈s.cs,rE c:=fun c hc=>by
       obtain ⟨j,hj⟩:=List.getElem?_of_mem hc
       exact hno j (List.getElem?_eq_some_iff.1 hj).1 c hj
      have hea:s.early:=⟨hok,an,an,hrs,hcs⟩
      have hsm:=fN hok
      have htl:s.cV.length≤60:=by have:=ea s.rs;have:=hea.2.1;unfold Srv.cV;omega
      have hll:=kL hea 6 an
      rw [s.wU] at hll
      have hsm2:s.sys.many=((s.sp.many+s.cV.length:Nat):Int):=rfl
      refine nT (.seq (.aj (.y hs (zls [_,_,_,_,_,_,_,_] aN aC) (.o (.call Kh rfl (gg (s:=s) hs (h1.mono hle1) (h2.mono hle1) (h3.mono hle1) (h4.mono hle1) hea) ?_)))));rintro _ w ⟨H2,hle2,⟨ul,rfl,hL⟩,hs⟩
      obtain ⟨al,cl,rfl⟩:=RL.shape hL
      have hsl:s.sys.dk.length=s.dk.length:=rfl
      refine .o (.alloc hs dD rfl fun b8 w hs=>?_)
      refine .o (.aP (vs:=[_,_]) hs rfl rfl aI fun w hs=>?_)
      refine .nil (.aj (.z (zfa cE) (.y hs (zld af) (.z km (.z zm (.gX (t':=54) rfl (fun hb54=>?_) (fun hb54=>?_)))))))
      ·refine .Fs 4 3 false (.zn zpT (.cT (.aj (.zn zg (.ret (rT (Fin.bE lC rfl ?_)))))))
       exact ⟨H2,_,hle1.trans hle2,rfl,.big hea an,hs.out⟩
      ·refine .T (.z (zfa cN) (.T (.y hs (zld dz) (.T (.z (dc a8) (.T (.z km (.zn zpF (.bA rfl (fun hc59=>?_) (fun hc59=>?_))))))))))
       ·refine .aj (.zn zg (.ret (rT (Fin.bE lC rfl ?_))))
        exact ⟨H2,_,hle1.trans hle2,rfl,.big hea an,hs.out⟩
       ·refine .skip (nT (.aj (.zn zg (.ret (Fin.bE lC rfl ?_)))))
        exact ⟨H2,_,hle1.trans hle2,rfl,.ok hea ⟨an,an⟩,hs.out⟩
theorem dN{a0 a1 a2:Int}(hs:St H w σ):Cl Tryz.prog 167 [I a0,I a1,I a2] w fun v w'=>v= .bool (decide (a1≤a0∧a0≤a2))∧St H w' σ:=by
 refine Cl.o Tryz.func167 Tryz.ntmps167 ag3 ?_
 refine .aj (.zn zg (.aj (.z zm (.z zm (.z uj (.z zm (.gX (t':=10) rfl (fun hb10=>?_) (fun hb10=>?_))))))))
 ·refine .T (.z zm (.T (.z zm (.T (.z nF (.z zpT (.zn zg (.ret (Fin.bE Tryz.results167 rfl ?_)))))))))
  exact ⟨by simp [*],hs.out⟩
 ·refine .Fs 3 3 true (.z zpF (.zn zg (.ret (Fin.bE Tryz.results167 rfl ?_))))
  exact ⟨by simp [*],hs.out⟩
theorem IP{s:Spc}(h1:fB 9 100000 s.st)(h2:fB 9 100000 s.wa)(h3:s.wa.length≤7)(h4:gi s.wa (s.wa.length - 1)≤15000)(h5:1≤s.id∧s.id≤99999)(h6:1≤s.src∧s.src≤99999)(h7:0≤s.al∧s.al≤100000)(h8:0≤s.up∧s.up≤100000):fA s:=
 ⟨h1,⟨h2.two,h3,h2.low,h4,h2.rise⟩,h5,h6,h7,h8⟩
theorem Bc{s:Spc}(h:fA s):fB 9 100000 s.wa:=⟨h.wa.two,by have:=h.wa.many;omega,h.wa.low,by have:=h.wa.high;omega,h.wa.rise⟩
theorem kJ{s:Spc}{vst vwa:Value}(hs:St H w σ)(h1:RI H vst s.st)(h2:RI H vwa s.wa):
  Cl Tryz.prog 113 [.agg #[I s.id,I s.src,vst,vwa,I s.al,I s.up]] w fun v w'=>∃e,v=I e∧((fA s∧e=0)∨(¬fA s∧e=30))∧St H w' σ:=by
 obtain ⟨ast,cst,rfl⟩:=RI.shape h1
 obtain ⟨awa,cwa,rfl⟩:=RI.shape h2
 have l2:=(RI.len h2).2.2
 refine Cl.o Tryz.func113 Tryz.ntmps113 ag1 ?_
 refine .aj (.bx hs fun b1 w hs=>?_)
 refine .zn zg (.seq (.aj (.z (zfa mX) (.y hs (zld af) (.o (.call fL rfl (dN hs) ?_))))));rintro _ w ⟨rfl,hs⟩
 refine .z fZ (.z zm (.bif (t':=7) rfl (fun hb7=>?_) (fun hb7=>?_)))
 ·refine .Fs 4 4 false (.z zpT (.z zm (.Fs 5 10 false (.z zpT (.z zm (.Fs 5 17 false (.zn zpT (.cT (.aj (.zn zg (.ret (rT (Fin.bE jK rfl ?_)))))))))))))
  exact ⟨_,rfl,.inr ⟨fun h=>by have:=h.id;simp_all,rfl⟩,hs.out⟩
 ·refine .T (.z (zfa ed) (.T (.y hs (zld af) (.T (.o (.call fL rfl (dN hs) ?_))))));rintro _ w ⟨rfl,hs⟩
  refine .T (.z fZ (.z zpF (.z zm (.bif (t':=13) rfl (fun hb13=>?_) (fun hb13=>?_)))))
  ·refine .Fs 5 10 false (.z zpT (.z zm (.Fs 5 17 false (.zn zpT (.cT (.aj (.zn zg (.ret (rT (Fin.bE jK rfl ?_))))))))))
   exact ⟨_,rfl,.inr ⟨fun h=>by have:=h.src;simp_all,rfl⟩,hs.out⟩
  ·refine .T (.z (zfa eC) (.T (.z (zfa kb) (.T (.y hs (zld af) (.T (.o (.call fL rfl (dN hs) ?_))))))));rintro _ w ⟨rfl,hs⟩
   refine .T (.z fZ (.z zpF (.z zm (.bif (t':=20) rfl (fun hb20=>?_) (fun hb20=>?_)))))
   ·refine .Fs 5 17 false (.zn zpT (.cT (.aj (.zn zg (.ret (rT (Fin.bE jK rfl ?_)))))))
    exact ⟨_,rfl,.inr ⟨fun h=>by have:=h.al;simp_all,rfl⟩,hs.out⟩
   ·refine .T (.z (zfa eC) (.T (.z (zfa ka) (.T (.y hs (zld af) (.T (.o (.call fL rfl (dN hs) ?_))))))));rintro _ w ⟨rfl,hs⟩
    refine .T (.z fZ (.zn zpF (.cond rfl (fun hc26=>?_) (fun hc26=>?_))))
    ·refine .aj (.zn zg (.ret (rT (Fin.bE jK rfl ?_))))
     exact ⟨_,rfl,.inr ⟨fun h=>by have:=h.up;simp_all,rfl⟩,hs.out⟩
    ·refine .skip (nT (.seq (.aj (.z (zfa bV) (.y hs (zld aq) (.o (.call Tryz.call168 rfl (iJ hs h1) ?_)))))));rintro _ w ⟨e1,rfl,he1,hs⟩
     refine .z gE (.z zm (.AS (t':=31) rfl (fun hb31=>?_) (fun hb31=>?_)))
     ·refine .Fs 4 4 false (.z zpT (.z zm (.Fs 4 10 false (.z zpT (.z zm (.Fs 9 16 false (.zn zpT (.cT (.aj (.zn zg (.ret (rT (Fin.bE jK rfl ?_)))))))))))))
      exact ⟨_,rfl,.inr ⟨fun h=>hb31 (he1.elim (fun g=>g.2) fun g=>(g.1 h.st).elim),rfl⟩,hs.out⟩
     ·refine .T (.z (zfa bh) (.T (.y hs (zld aq) (.T (.o (.call Tryz.call168 rfl (iJ hs h2) ?_))))));rintro _ w ⟨e2,rfl,he2,hs⟩
      refine .T (.z gE (.z zpF (.z zm (.AS (t':=37) rfl (fun hb37=>?_) (fun hb37=>?_)))))
      ·refine .Fs 4 10 false (.z zpT (.z zm (.Fs 9 16 false (.zn zpT (.cT (.aj (.zn zg (.ret (rT (Fin.bE jK rfl ?_))))))))))
       exact ⟨_,rfl,.inr ⟨fun h=>hb37 (he2.elim (fun g=>g.2) fun g=>(g.1 (Bc h)).elim),rfl⟩,hs.out⟩
      ·refine .T (.z (zfa bh) (.T ?_))
       have hw:fB 9 100000 s.wa:=he2.elim (fun g=>g.1) fun g=>(g.2 an).elim
       have hw2:=hw.two
       refine .y hs (zld aq) (.T (.z (dc ae) (.T (.z km (.z zpF (.z zm (.gX (t':=43) rfl (fun hb43=>?_) (fun hb43=>?_))))))))
       ·refine .Fs 9 16 false (.zn zpT (.cT (.aj (.zn zg (.ret (rT (Fin.bE jK rfl ?_)))))))
        exact ⟨_,rfl,.inr ⟨fun h=>by have:=h.wa.many;omega,rfl⟩,hs.out⟩
       ·refine .T ?_
        refine .z (zfa bh) (.T (.y hs (zld aq) (.T (.z (zfa bh) (.T (.y hs (zld aq) (.T (.z (dc ae) (.T (.z fY (.T (.ixY hs h2 rfl rfl ae ai (bB (l:=s.wa) (i:=(s.wa.length-1)) an) da ?_))))))))))));intro b50 o50 hc50
        refine .T (.q hs (aJ rfl af hc50) (.T (.z km (.zn zpF (.bA rfl (fun hc53=>?_) (fun hc53=>?_))))))
        ·refine .aj (.zn zg (.ret (rT (Fin.bE jK rfl ?_))))
         exact ⟨_,rfl,.inr ⟨fun h=>by have:=h.wa.high;omega,rfl⟩,hs.out⟩
        ·refine .skip (nT (.aj (.zn zg (.ret (Fin.bE jK rfl ?_)))))
         exact ⟨_,rfl,.inl ⟨IP (he1.elim (fun g=>g.1) fun g=>(g.2 an).elim) hw an an (by simp_all) (by simp_all) (by simp_all) (by simp_all),rfl⟩,hs.out⟩
theorem jW{s:Spc}{r:Rdg}{vst vwa:Value}(hs:St H w σ)(h1:RI H vst s.st)(h2:RI H vwa s.wa):
  Cl Tryz.prog 150 [.agg #[I s.id,I s.src,vst,vwa,I s.al,I s.up],.agg #[I r.src,I r.st,I r.wa,I r.val,I r.tol,I r.tape,I r.day]] w fun v w'=>∃b:Bool,v= .bool b∧(b=true↔nD s r)∧St H w' σ:=by
 obtain ⟨ast,cst,rfl⟩:=RI.shape h1
 obtain ⟨awa,cwa,rfl⟩:=RI.shape h2
 have l1:=(RI.len h1).2.2
 have l2:=(RI.len h2).2.2
 refine Cl.o Tryz.func150 Tryz.ntmps150 ag2 ?_
 refine .aj (.bx hs fun b2 w hs=>?_)
 refine .bx hs fun b3 w hs=>?_
 refine .zn zg (.aj (.z (zfa eV) (.y hs (zld af) (.o (.call fL rfl (dN hs) ?_)))));rintro _ w ⟨rfl,hs⟩
 refine .z zm (.bif (t':=8) rfl (fun hb8=>?_) (fun hb8=>?_))
 ·refine .T ?_
  refine .z (zfa gI) (.T (.y hs (zld af) (.T (.z (zfa bV) (.T (.y hs (zld aq) (.T (.z (dc ae) (.T (.z fY (.T (.o (.call fL rfl (dN hs) ?_)))))))))))));rintro _ w ⟨rfl,hs⟩
  refine .z zpT (.z zm (.bif (t':=17) rfl (fun hb17=>?_) (fun hb17=>?_)))
  ·refine .T ?_
   refine .z (zfa gH) (.T (.y hs (zld af) (.T (.z (zfa bh) (.T (.y hs (zld aq) (.T (.z (dc ae) (.T (.z fY (.T (.o (.call fL rfl (dN hs) ?_)))))))))))));rintro _ w ⟨rfl,hs⟩
   refine .z zpT (.z zm (.bif (t':=26) rfl (fun hb26=>?_) (fun hb26=>?_)))
   ·refine .T (.z (zfa dr) (.T (.y hs (zld af) (.T (.o (.call fL rfl (dN hs) ?_))))));rintro _ w ⟨rfl,hs⟩
    refine .z zpT (.z zm (.bif (t':=31) rfl (fun hb31=>?_) (fun hb31=>?_)))
    ·refine .T (.z (zfa dC) (.T (.y hs (zld af) (.T (.z (zfa dr) (.T (.y hs (zld af) (.T ?_))))))))
     have ht:0≤r.tol∧r.tol≤1000:=by simp_all
     refine .z fY (.T (.o (.call fL rfl (dN hs) ?_)));rintro _ w ⟨rfl,hs⟩
     refine .z zpT (.z zm (.bif (t':=39) rfl (fun hb39=>?_) (fun hb39=>?_)))
     ·refine .T (.z (zfa eU) (.T (.y hs (zld af) (.T (.o (.call fL rfl (dN hs) ?_))))));rintro _ w ⟨rfl,hs⟩
      refine .z zpT (.z zm (.bif (t':=44) rfl (fun hb44=>?_) (fun hb44=>?_)))
      ·refine .T (.z (zfa eT) (.T (.y hs (zld af) (.T (.o (.call fL rfl (dN hs) ?_))))));rintro _ w ⟨rfl,hs⟩
       refine .z zpT (.zn zg (.ret (Fin.bE oC rfl ?_)))
       first
       |exact ⟨false,rfl,⟨fun h=>(by cases h),fun h=>(by obtain ⟨g1,g2,g3,g4,g5,g6,g7⟩:=h;simp_all;done)⟩,hs.out⟩
       |exact ⟨_,rfl,⟨fun h=>⟨by simp_all,by simp_all,by simp_all,by simp_all,by simp_all,by simp_all,by simpa using h⟩,fun h=>by simpa using h.day⟩,hs.out⟩
      ·refine .Fs 3 39 true (.z zpF (.zn zg (.ret (Fin.bE oC rfl ?_))))
       first
       |exact ⟨false,rfl,⟨fun h=>(by cases h),fun h=>(by obtain ⟨g1,g2,g3,g4,g5,g6,g7⟩:=h;simp_all;done)⟩,hs.out⟩
       |exact ⟨_,rfl,⟨fun h=>⟨by simp_all,by simp_all,by simp_all,by simp_all,by simp_all,by simp_all,by simpa using h⟩,fun h=>by simpa using h.day⟩,hs.out⟩
     ·refine .Fs 3 34 true (.z zpF (.z zm (.Fs 3 39 true (.z zpF (.zn zg (.ret (Fin.bE oC rfl ?_)))))))
      first
      |exact ⟨false,rfl,⟨fun h=>(by cases h),fun h=>(by obtain ⟨g1,g2,g3,g4,g5,g6,g7⟩:=h;simp_all;done)⟩,hs.out⟩
      |exact ⟨_,rfl,⟨fun h=>⟨by simp_all,by simp_all,by simp_all,by simp_all,by simp_all,by simp_all,by simpa using h⟩,fun h=>by simpa using h.day⟩,hs.out⟩
    ·refine .Fs 6 26 true (.z zpF (.z zm (.Fs 3 34 true (.z zpF (.z zm (.Fs 3 39 true (.z zpF (.zn zg (.ret (Fin.bE oC rfl ?_))))))))))
     first
     |exact ⟨false,rfl,⟨fun h=>(by cases h),fun h=>(by obtain ⟨g1,g2,g3,g4,g5,g6,g7⟩:=h;simp_all;done)⟩,hs.out⟩
     |exact ⟨_,rfl,⟨fun h=>⟨by simp_all,by simp_all,by simp_all,by simp_all,by simp_all,by simp_all,by simpa using h⟩,fun h=>by simpa using h.day⟩,hs.out⟩
   ·refine .Fs 3 21 true (.z zpF (.z zm (.Fs 6 26 true (.z zpF (.z zm (.Fs 3 34 true (.z zpF (.z zm (.Fs 3 39 true (.z zpF (.zn zg (.ret (Fin.bE oC rfl ?_)))))))))))))
    first
    |exact ⟨false,rfl,⟨fun h=>(by cases h),fun h=>(by obtain ⟨g1,g2,g3,g4,g5,g6,g7⟩:=h;simp_all;done)⟩,hs.out⟩
    |exact ⟨_,rfl,⟨fun h=>⟨by simp_all,by simp_all,by simp_all,by simp_all,by simp_all,by simp_all,by simpa using h⟩,fun h=>by simpa using h.day⟩,hs.out⟩
  ·refine .Fs 7 12 true (.z zpF (.z zm (.Fs 3 21 true (.z zpF (.z zm (.Fs 6 26 true (.z zpF (.z zm (.Fs 3 34 true (.z zpF (.z zm (.Fs 3 39 true (.z zpF (.zn zg (.ret (Fin.bE oC rfl ?_))))))))))))))))
   first
   |exact ⟨false,rfl,⟨fun h=>(by cases h),fun h=>(by obtain ⟨g1,g2,g3,g4,g5,g6,g7⟩:=h;simp_all;done)⟩,hs.out⟩
   |exact ⟨_,rfl,⟨fun h=>⟨by simp_all,by simp_all,by simp_all,by simp_all,by simp_all,by simp_all,by simpa using h⟩,fun h=>by simpa using h.day⟩,hs.out⟩
 ·refine .Fs 7 3 true (.z zpF (.z zm (.Fs 7 12 true (.z zpF (.z zm (.Fs 3 21 true (.z zpF (.z zm (.Fs 6 26 true (.z zpF (.z zm (.Fs 3 34 true (.z zpF (.z zm (.Fs 3 39 true (.z zpF (.zn zg (.ret (Fin.bE oC rfl ?_)))))))))))))))))))
  first
  |exact ⟨false,rfl,⟨fun h=>(by cases h),fun h=>(by obtain ⟨g1,g2,g3,g4,g5,g6,g7⟩:=h;simp_all;done)⟩,hs.out⟩
  |exact ⟨_,rfl,⟨fun h=>⟨by simp_all,by simp_all,by simp_all,by simp_all,by simp_all,by simp_all,by simpa using h⟩,fun h=>by simpa using h.day⟩,hs.out⟩
theorem nI{c:Cmp}(hs:St H w σ):
  Cl Tryz.prog 176 [.agg #[I c.src,I c.tape,I c.fr,I c.to,I c.lo,I c.hi]] w fun v w'=>∃b:Bool,v= .bool b∧(b=true↔rE c)∧St H w' σ:=by
 refine Cl.o Tryz.func176 Tryz.ntmps176 ag1 ?_
 refine .aj (.bx hs fun b1 w hs=>?_)
 refine .zn zg (.aj (.z (zfa iD) (.y hs (zld af) (.o (.call fL rfl (dN hs) ?_)))));rintro _ w ⟨rfl,hs⟩
 refine .z zm (.bif (t':=6) rfl (fun hb6=>?_) (fun hb6=>?_))
 ·refine .T (.z (zfa jH) (.T (.y hs (zld af) (.T (.o (.call fL rfl (dN hs) ?_))))));rintro _ w ⟨rfl,hs⟩
  refine .z zpT (.z zm (.bif (t':=11) rfl (fun hb11=>?_) (fun hb11=>?_)))
  ·refine .T (.z (zfa gJ) (.T (.y hs (zld af) (.T (.z uj (.z zpT (.z zm (.gX (t':=16) rfl (fun hb16=>?_) (fun hb16=>?_)))))))))
   ·refine .T (.z (zfa gJ) (.T (.y hs (zld af) (.T (.z (zfa fK) (.T (.y hs (zld af) (.T (.z nF (.z zpT (.z zm (.gX (t':=23) rfl (fun hb23=>?_) (fun hb23=>?_)))))))))))))
    ·refine .T (.z (zfa fK) (.T (.y hs (zld af) (.T (.z nF (.z zpT (.z zm (.gX (t':=28) rfl (fun hb28=>?_) (fun hb28=>?_)))))))))
     ·refine .T (.z (zfa fJ) (.T (.y hs (zld af) (.T (.z uj (.z zpT (.z zm (.gX (t':=33) rfl (fun hb33=>?_) (fun hb33=>?_)))))))))
      ·refine .T (.z (zfa fJ) (.T (.y hs (zld af) (.T (.z (zfa fI) (.T (.y hs (zld af) (.T (.z nF (.z zpT (.z zm (.gX (t':=40) rfl (fun hb40=>?_) (fun hb40=>?_)))))))))))))
       ·refine .T (.z (zfa fI) (.T (.y hs (zld af) (.T (.z nF (.z zpT (.zn zg (.ret (Fin.bE lA rfl ?_)))))))))
        first
        |exact ⟨false,rfl,⟨fun h=>(by cases h),fun h=>(by obtain ⟨g1,g2,g3,g4,g5,g6⟩:=h;simp_all;omega)⟩,hs.out⟩
        |exact ⟨false,rfl,⟨fun h=>(by cases h),fun h=>(by obtain ⟨g1,g2,g3,g4,g5,g6⟩:=h;simp_all;done)⟩,hs.out⟩
        |exact ⟨_,rfl,⟨fun h=>⟨by simp_all,by simp_all,⟨an,an⟩,an,⟨an,an⟩,of_decide_eq_true h⟩,fun h=>decide_eq_true h.hi⟩,hs.out⟩
       ·refine .Fs 3 37 true (.z zpF (.zn zg (.ret (Fin.bE lA rfl ?_))))
        first
        |exact ⟨false,rfl,⟨fun h=>(by cases h),fun h=>(by obtain ⟨g1,g2,g3,g4,g5,g6⟩:=h;simp_all;omega)⟩,hs.out⟩
        |exact ⟨false,rfl,⟨fun h=>(by cases h),fun h=>(by obtain ⟨g1,g2,g3,g4,g5,g6⟩:=h;simp_all;done)⟩,hs.out⟩
        |exact ⟨_,rfl,⟨fun h=>⟨by simp_all,by simp_all,⟨an,an⟩,an,⟨an,an⟩,of_decide_eq_true h⟩,fun h=>decide_eq_true h.hi⟩,hs.out⟩
      ·refine .Fs 5 30 true (.z zpF (.z zm (.Fs 3 37 true (.z zpF (.zn zg (.ret (Fin.bE lA rfl ?_)))))))
       first
       |exact ⟨false,rfl,⟨fun h=>(by cases h),fun h=>(by obtain ⟨g1,g2,g3,g4,g5,g6⟩:=h;simp_all;omega)⟩,hs.out⟩
       |exact ⟨false,rfl,⟨fun h=>(by cases h),fun h=>(by obtain ⟨g1,g2,g3,g4,g5,g6⟩:=h;simp_all;done)⟩,hs.out⟩
       |exact ⟨_,rfl,⟨fun h=>⟨by simp_all,by simp_all,⟨an,an⟩,an,⟨an,an⟩,of_decide_eq_true h⟩,fun h=>decide_eq_true h.hi⟩,hs.out⟩
     ·refine .Fs 3 25 true (.z zpF (.z zm (.Fs 5 30 true (.z zpF (.z zm (.Fs 3 37 true (.z zpF (.zn zg (.ret (Fin.bE lA rfl ?_))))))))))
      first
      |exact ⟨false,rfl,⟨fun h=>(by cases h),fun h=>(by obtain ⟨g1,g2,g3,g4,g5,g6⟩:=h;simp_all;omega)⟩,hs.out⟩
      |exact ⟨false,rfl,⟨fun h=>(by cases h),fun h=>(by obtain ⟨g1,g2,g3,g4,g5,g6⟩:=h;simp_all;done)⟩,hs.out⟩
      |exact ⟨_,rfl,⟨fun h=>⟨by simp_all,by simp_all,⟨an,an⟩,an,⟨an,an⟩,of_decide_eq_true h⟩,fun h=>decide_eq_true h.hi⟩,hs.out⟩
    ·refine .Fs 3 20 true (.z zpF (.z zm (.Fs 3 25 true (.z zpF (.z zm (.Fs 5 30 true (.z zpF (.z zm (.Fs 3 37 true (.z zpF (.zn zg (.ret (Fin.bE lA rfl ?_)))))))))))))
     first
     |exact ⟨false,rfl,⟨fun h=>(by cases h),fun h=>(by obtain ⟨g1,g2,g3,g4,g5,g6⟩:=h;simp_all;omega)⟩,hs.out⟩
     |exact ⟨false,rfl,⟨fun h=>(by cases h),fun h=>(by obtain ⟨g1,g2,g3,g4,g5,g6⟩:=h;simp_all;done)⟩,hs.out⟩
     |exact ⟨_,rfl,⟨fun h=>⟨by simp_all,by simp_all,⟨an,an⟩,an,⟨an,an⟩,of_decide_eq_true h⟩,fun h=>decide_eq_true h.hi⟩,hs.out⟩
   ·refine .Fs 5 13 true (.z zpF (.z zm (.Fs 3 20 true (.z zpF (.z zm (.Fs 3 25 true (.z zpF (.z zm (.Fs 5 30 true (.z zpF (.z zm (.Fs 3 37 true (.z zpF (.zn zg (.ret (Fin.bE lA rfl ?_))))))))))))))))
    first
    |exact ⟨false,rfl,⟨fun h=>(by cases h),fun h=>(by obtain ⟨g1,g2,g3,g4,g5,g6⟩:=h;simp_all;omega)⟩,hs.out⟩
    |exact ⟨false,rfl,⟨fun h=>(by cases h),fun h=>(by obtain ⟨g1,g2,g3,g4,g5,g6⟩:=h;simp_all;done)⟩,hs.out⟩
    |exact ⟨_,rfl,⟨fun h=>⟨by simp_all,by simp_all,⟨an,an⟩,an,⟨an,an⟩,of_decide_eq_true h⟩,fun h=>decide_eq_true h.hi⟩,hs.out⟩
  ·refine .Fs 3 8 true (.z zpF (.z zm (.Fs 5 13 true (.z zpF (.z zm (.Fs 3 20 true (.z zpF (.z zm (.Fs 3 25 true (.z zpF (.z zm (.Fs 5 30 true (.z zpF (.z zm (.Fs 3 37 true (.z zpF (.zn zg (.ret (Fin.bE lA rfl ?_)))))))))))))))))))
   first
   |exact ⟨false,rfl,⟨fun h=>(by cases h),fun h=>(by obtain ⟨g1,g2,g3,g4,g5,g6⟩:=h;simp_all;omega)⟩,hs.out⟩
   |exact ⟨false,rfl,⟨fun h=>(by cases h),fun h=>(by obtain ⟨g1,g2,g3,g4,g5,g6⟩:=h;simp_all;done)⟩,hs.out⟩
   |exact ⟨_,rfl,⟨fun h=>⟨by simp_all,by simp_all,⟨an,an⟩,an,⟨an,an⟩,of_decide_eq_true h⟩,fun h=>decide_eq_true h.hi⟩,hs.out⟩
 ·refine .Fs 3 3 true (.z zpF (.z zm ?_))
  refine .Fs 3 8 true (.z zpF (.z zm (.Fs 5 13 true (.z zpF (.z zm (.Fs 3 20 true (.z zpF (.z zm (.Fs 3 25 true (.z zpF (.z zm (.Fs 5 30 true (.z zpF (.z zm (.Fs 3 37 true (.z zpF (.zn zg (.ret (Fin.bE lA rfl ?_)))))))))))))))))))
  first
  |exact ⟨false,rfl,⟨fun h=>(by cases h),fun h=>(by obtain ⟨g1,g2,g3,g4,g5,g6⟩:=h;simp_all;omega)⟩,hs.out⟩
  |exact ⟨false,rfl,⟨fun h=>(by cases h),fun h=>(by obtain ⟨g1,g2,g3,g4,g5,g6⟩:=h;simp_all;done)⟩,hs.out⟩
  |exact ⟨_,rfl,⟨fun h=>⟨by simp_all,by simp_all,⟨an,an⟩,an,⟨an,an⟩,of_decide_eq_true h⟩,fun h=>decide_eq_true h.hi⟩,hs.out⟩
theorem fG{s:Spc}{vst vwa:Value}(hs:St H w σ)(h1:RI H vst s.st)(h2:RI H vwa s.wa)(hb:s.st.length≤1000∧s.wa.length≤1000):
  Cl Tryz.prog 94 [.agg #[I s.id,I s.src,vst,vwa,I s.al,I s.up]] w fun v w'=>v=I (s.many:Int)∧St H w' σ:=by
 obtain ⟨ast,cst,rfl⟩:=RI.shape h1
 obtain ⟨awa,cwa,rfl⟩:=RI.shape h2
 have hm:=j5 (a:=(s.st.length:Int)) (b:=(s.wa.length:Int)) (A:=1000) (B:=1000) an an
 refine Cl.o Tryz.func94 Tryz.ntmps94 ag1 ?_
 refine .aj (.bx hs fun b1 w hs=>?_)
 refine .zn zg (.aj (.z (zfa bV) (.y hs (zld aq) (.z (dc ae) (.z (zfa bh) (.y hs (zld aq) (.z (dc ae) (.z kd (.zn zg (.ret (Fin.bE Tryz.results94 rfl ?_)))))))))))
 exact ⟨by unfold Spc.many;rw [Int.natCast_mul],hs.out⟩
theorem dF{s:Spc}{vst vwa:Value}{a b:Int}(hs:St H w σ)(h2:RI H vwa s.wa)(hb:s.wa.length≤1000)(ha: -1000≤a∧a≤1000)(hb': -1000≤b∧b≤1000):
  Cl Tryz.prog 93 [.agg #[I s.id,I s.src,vst,vwa,I s.al,I s.up],I a,I b] w fun v w'=>v=I (1+a*s.wa.length+b)∧St H w' σ:=by
 obtain ⟨awa,cwa,rfl⟩:=RI.shape h2
 have hm:=j5 (a:=a) (b:=(s.wa.length:Int)) (A:=1000) (B:=1000) an an
 refine Cl.o Tryz.func93 Tryz.ntmps93 ag3 ?_
 refine .aj (.bx hs fun b3 w hs=>?_)
 refine .zn zg (.aj (.z zm (.z (zfa bh) (.y hs (zld aq) (.z (dc ae) (.z kd (.z cK (.z zm (.z cK (.zn zg (.ret (Fin.bE Tryz.results93 rfl ?_))))))))))))
 exact ⟨rfl,hs.out⟩
theorem nk{a b:Int}(hs:St H w σ)(ha:0≤a∧a≤100000)(hb:0≤b∧b≤100000):
  Cl Tryz.prog 211 [I a,I b] w fun v w'=>v=I (lh a b)∧St H w' σ:=by
 have hm:=j5 (a:=a) (b:=b) (A:=100000) (B:=100000) an an
 have h0:=Int.mul_nonneg ha.1 hb.1
 have hq0:0≤(a*b+999).tdiv 1000:=Int.tdiv_nonneg an an
 have hq1:(a*b+999).tdiv 1000≤a*b+999:=by rw [Int.tdiv_eq_ediv_of_nonneg an];omega
 refine Cl.o Tryz.func211 Tryz.ntmps211 ag2 ?_
 refine .aj (.zn zg (.aj (.z zm (.z zm (.z kd (.z cK (.q hs (uu rfl rfl an an) (.z zR (.zn zg (.ret (Fin.bE Tryz.results211 rfl ?_)))))))))))
 exact ⟨rfl,hs⟩
theorem l9{a b m s:Int}(hs:St H w σ):
  Cl Tryz.prog 210 [I a,I b,I m,I s] w fun v w'=>∃b0,v= .slice (some ⟨b0,0,none⟩) 2 2∧St H w' (.blk b0 (iF (two a b m m s))::σ):=by
 refine Cl.o Tryz.func210 Tryz.ntmps210 ag4 ?_
 refine .aj (.zn zg (.aj (.z zm (.z zm (.z zm (.z zm (.z (zbd [_,_,_,_] fj) (.z zm (.z zm (.z zm (.z zm (.z (zbd [_,_,_,_] fj) (.o (.buildSlice (cells:=iF (two a b m m s)) hs gQ rfl aD fun b19 w hs=>?_))))))))))))))
 refine .zn zg (.ret (Fin.bE Tryz.results210 rfl ?_))
 exact ⟨b19,rfl,hs⟩
theorem wH{c:Cmp}{t:TD}{f:Int}(hs:St H w σ)(hlo: -1000000≤c.lo∧c.lo≤1000000):
  Cl Tryz.prog 212 [.agg #[I c.src,I c.tape,I c.fr,I c.to,I c.lo,I c.hi],.agg #[I t.tape,I t.day],I f] w fun v w'=>∃en,cZ 4 v (iF (mS c t f)) en∧St H w' (en::σ):=by
 refine Cl.o Tryz.func212 Tryz.ntmps212 ag3 ?_
 refine .aj (.bx hs fun b3 w hs=>?_)
 refine .bx hs fun b4 w hs=>?_
 refine .zn zg (.seq (.aj (.z (zfa jH) (.y hs (zld af) (.z (zfa ox) (.y hs (zld af) (.z gE (.z zm (.AS (t':=12) rfl (fun hb12=>?_) (fun hb12=>?_))))))))))
 ·refine .Fs 5 5 false (.z zpT (.z zm (.Fs 5 12 false (.zn zpT (.cT (.aj (.zn zg (.ret (rT (Fin.bE Tryz.results212 rfl ?_))))))))))
  exact ⟨.nul,by unfold mS;rw [if_neg an];exact .nil 4 none,hs.tail.tail.nul⟩
 ·refine .T (.z (zfa lj) (.T (.y hs (zld af) (.T (.z (zfa gJ) (.T (.y hs (zld af) (.T (.z fM (.z zpF (.z zm (.gX (t':=19) rfl (fun hb19=>?_) (fun hb19=>?_)))))))))))))
  ·refine .Fs 5 12 false (.zn zpT (.cT (.aj (.zn zg (.ret (rT (Fin.bE Tryz.results212 rfl ?_)))))))
   exact ⟨.nul,by unfold mS;rw [if_neg an];exact .nil 4 none,hs.tail.tail.nul⟩
  ·refine .T (.z (zfa lj) (.T (.y hs (zld af) (.T (.z (zfa fK) (.T (.y hs (zld af) (.T (.z km (.zn zpF (.bA rfl (fun hc25=>?_) (fun hc25=>?_))))))))))))
   ·refine .aj (.zn zg (.ret (rT (Fin.bE Tryz.results212 rfl ?_))))
    exact ⟨.nul,by unfold mS;rw [if_neg an];exact .nil 4 none,hs.tail.tail.nul⟩
   ·refine .skip (nT (.aj (.z zm (.z (zfa fJ) (.y hs (zld af) (.z BQ (.z (zfa iD) (.y hs (zld af) (.z (zbd [_,_,_,_] fj) (.z zm (.z (zfa fI) (.y hs (zld af) (.z (zfa iD) (.y hs (zld af) (.z (zbd [_,_,_,_] fj) (.o (.buildSlice (cells:=iF (two 0 f (-c.lo) c.hi c.src)) hs gQ rfl aD fun b39 w hs=>?_)))))))))))))))))
    refine .zn zg (.ret (Fin.bE Tryz.results212 rfl ?_))
    exact ⟨_,by unfold mS;rw [if_pos an];exact .full (by simp [two,fa]),hs.sb⟩
theorem kZ{v:Value}{xs:List TD}{t:TD}(hs:St H w σ)(hr:RTd H v xs)(hl:xs.length≤1000000):
  Cl Tryz.prog 95 [v,.agg #[I t.tape,I t.day]] w fun u w'=>u=I (kY xs t)∧St H w' σ:=by
 obtain ⟨a,c,rfl⟩:=RTd.shape hr
 refine Cl.o Tryz.func95 Tryz.ntmps95 ag2 ?_
 refine .aj (.bx hs fun b3 w hs=>?_)
 refine .zn zg (.seq (.aj (.zn zg (.block ?_))))
 refine .loop (fun k:Nat=>⟨19,[],[(5,I (k:Int)),(3,Pt b3),(0,.slice a xs.length c)]⟩)
  (fun k w=>k≤xs.length∧(∀j<k,∀y,xs[j]? =some y→¬y=t)∧St H w (.blk b3 [I t.tape,I t.day]::σ)) (fun k=>xs.length - k) 0 (.cJ rfl cq aU)
  ⟨Nat.zero_le _,fun j hj=>by omega,hs⟩ ?_
 rintro k w ⟨hk,hno,hs⟩
 refine .seq (.aj (.z zm (.z zm (.z (dc bO) (.zn fM (.bA rfl (fun hc9=>?_) (fun hc9=>?_)))))))
 ·refine .skip (nT (.seq (.block (.seq (.draw mix rfl hs fun w hs=>?_)))))
  refine .zw 0 rfl zm ?_;refine .z 1 rfl zm ?_
  obtain ⟨x,hx⟩:=nth (l:=xs) (k:=k) an
  refine .ixX (enc:=TD.c) (i:=2) hs rfl aD .none hr rfl rfl bO bZ hx da ?_;intro b14 o14 hc14
  refine .r (i:=3) hs rfl aD .none (cj (vs:=x.c) rfl eH bZ hc14) ?_
  refine .zv 4 rfl hs (Cd [_,_] eH bZ) ?_
  refine .z 5 rfl (Aj vH vI js (fun f hf=>by
   simp only [List.mem_cons,List.not_mem_nil,or_false] at hf
   rcases hf with rfl|rfl<;>exact ⟨by decide,bM,af⟩) rfl rfl) ?_
  refine .D hs (.cond rfl (fun hc17=>?_) (fun hc17=>?_))
  ·refine .aj (.z zm (.zn zg (.ret (rB (rT (rT (rB (rT (Fin.bE Tryz.results95 rfl ?_)))))))))
   have e:x=t:=FB.1 (of_decide_eq_true hc17)
   subst e
   exact ⟨by rw [rM hx fun j hj h=>hno j hj _ h rfl],hs.tail⟩
  ·refine .skip (nB (nT (.region (.z zm (.z cK (.zn zg (nT ?_)))))))
   exact ⟨k+1,.cJ rfl cq aU,⟨an,fo hno hx (fun e=>by subst e;simp at hc17),hs⟩,an⟩
 ·refine .exit (xT (xT (xB (nT (.aj (.zn zg (.ret (Fin.bE Tryz.results95 rfl ?_))))))))
  obtain rfl:k=xs.length:=by omega
  exact ⟨by rw [yX hno],hs.tail⟩
theorem ph{v:Value}{en:Ent}{xs:List TD}{t:TD}(hs:St H w (en::σ))(hO:cZ 2 v (tdc xs).flatten en)(hl:xs.length≤1000000):
  Cl Tryz.prog 95 [v,.agg #[I t.tape,I t.day]] w fun u w'=>u=I (kY xs t)∧St H w' (en::σ):=by
 obtain ⟨a,c,rfl⟩:=hO.jz (qS xs) an
 rw [eZ] at hO ⊢
 refine Cl.o Tryz.func95 Tryz.ntmps95 ag2 ?_
 refine .aj (.bx hs fun b3 w hs=>?_)
 refine .zn zg (.seq (.aj (.zn zg (.block ?_))))
 refine .loop (fun k:Nat=>⟨19,[],[(5,I (k:Int)),(3,Pt b3),(0,.slice a xs.length c)]⟩)
  (fun k w=>k≤xs.length∧(∀j<k,∀y,xs[j]? =some y→¬y=t)∧St H w (.blk b3 [I t.tape,I t.day]::en::σ)) (fun k=>xs.length - k) 0 (.cJ rfl cq aU)
  ⟨Nat.zero_le _,fun j hj=>by omega,hs⟩ ?_
 rintro k w ⟨hk,hno,hs⟩
 refine .seq (.aj (.z zm (.z zm (.z (dc bO) (.zn fM (.bA rfl (fun hc9=>?_) (fun hc9=>?_)))))))
 ·refine .skip (nT (.seq (.block (.seq (.draw mix rfl hs fun w hs=>?_)))))
  refine .zw 0 rfl zm ?_;refine .z 1 rfl zm ?_
  obtain ⟨x,hx⟩:=nth (l:=xs) (k:=k) an
  obtain ⟨b,c',sp,hv,rfl,_⟩:=hO.GL (qS xs) an (by rw [eZ];omega)
  rw [eZ] at hv
  cases hv
  refine .zw 2 rfl (mA bO bZ) (.C1 (i:=3) (vs:=x.c) hs rfl aD .none rfl eH bZ ?_ (hv:=yv (qS xs) (DD hx) sp))
  refine .zv 4 rfl hs (Cd [_,_] eH bZ) ?_
  refine .z 5 rfl (Aj vH vI js (fun f hf=>by
   simp only [List.mem_cons,List.not_mem_nil,or_false] at hf
   rcases hf with rfl|rfl<;>exact ⟨by decide,bM,af⟩) rfl rfl) ?_
  refine .D hs (.cond rfl (fun hc17=>?_) (fun hc17=>?_))
  ·refine .aj (.z zm (.zn zg (.ret (rB (rT (rT (rB (rT (Fin.bE Tryz.results95 rfl ?_)))))))))
   have e:x=t:=FB.1 (of_decide_eq_true hc17)
   subst e
   exact ⟨by rw [rM hx fun j hj h=>hno j hj _ h rfl],hs.tail⟩
  ·refine .skip (nB (nT (.region (.z zm (.z cK (.zn zg (nT ?_)))))))
   exact ⟨k+1,.cJ rfl cq aU,⟨an,fo hno hx (fun e=>by subst e;simp at hc17),hs⟩,an⟩
 ·refine .exit (xT (xT (xB (nT (.aj (.zn zg (.ret (Fin.bE Tryz.results95 rfl ?_))))))))
  obtain rfl:k=xs.length:=by omega
  exact ⟨by rw [yX hno],hs.tail⟩
set_option maxHeartbeats 1000000 in
theorem iB{vr:Value}{rs:List Rdg}(hs:St H w σ)(hr:RRd H vr rs)(hl:rs.length≤1000000):
  Cl Tryz.prog 96 [vr] w fun u w'=>∃H1,HLe H H1∧RTd H1 u (bH rs)∧St H1 w' σ:=by
 obtain ⟨ar,cr,rfl⟩:=RRd.shape hr
 refine Cl.o Tryz.func96 Tryz.ntmps96 ag1 ?_
 refine .aj (.zn zg (.aj (.zn zg (.seq (.aj (.zn zg (.block ?_)))))))
 refine .loop (fun p:Nat×Value=>⟨32,[],[(4,I (p.1:Int)),(3,p.2),(0,.slice ar rs.length cr)]⟩)
  (fun p w=>p.1≤rs.length∧∃en,cZ 2 p.2 (tdc (bH (rs.take p.1))).flatten en∧St H w (en::σ)) (fun p=>rs.length - p.1) (0,.slice none 0 0) aU
  ⟨Nat.zero_le _,_,.nil 2 none,hs.nul⟩ ?_
 rintro ⟨k,vo⟩ w ⟨hk,en,hO,hs⟩
 dsimp only at hk hO ⊢
 have htl:=l7 rs k an
 obtain ⟨ao,co,rfl⟩:=hO.jz (qS _) an
 rw [eZ] at hO ⊢
 refine .seq (.aj (.z zm (.z zm (.z (dc aB) (.zn fM (.bA rfl (fun hc9=>?_) (fun hc9=>?_)))))))
 ·refine .skip (nT (.seq (.block (.seq (.draw mix rfl hs fun w hs=>?_)))))
  refine .zw 0 rfl zm ?_;refine .z 1 rfl zm ?_
  obtain ⟨r,hx⟩:=nth (l:=rs) (k:=k) an
  have htk:=kI hx
  refine .ixX (enc:=Rdg.c) (i:=2) hs rfl aD .none hr rfl rfl aB aK hx da ?_;intro b14 o14 hc14
  have d14:cellAt H b14 (o14+5)=some (I r.tape):=hc14 5 _ rfl
  refine .zw 3 rfl (zfa eU) ?_;refine .y 4 rfl hs af ?_;refine .z 5 rfl zm ?_;refine .z 6 rfl zm ?_
  refine .ixX (enc:=Rdg.c) (i:=7) hs rfl aD .none hr rfl rfl aB aK hx da ?_;intro b19 o19 hc19
  have d19:cellAt H b19 (o19+6)=some (I r.day):=hc19 6 _ rfl
  refine .zw 8 rfl (zfa eT) ?_;refine .y 9 rfl hs af ?_;refine .z 10 rfl (zbd [_,_] jg) ?_
  refine .E 11 hs ?_
  refine .alloc hs lY rfl ?_;intro b5 w hs
  refine .go (.E 12 hs ?_)
  refine .aP (vs:=[_,_]) hs rfl rfl bZ ?_;intro w hs
  refine .go (.D hs (.aj (.z zm (.y hs (zls [_,_] eH bZ) (.o (.call Tryz.call95 rfl (ph (t:=r.td) (hs.sb:St H w (en:: .blk b5 [I r.tape,I r.day]::σ)) hO an) ?_))))));rintro _ w ⟨rfl,hs⟩
  have hnn:=uk (l:=bH (rs.take k)) (t:=r.td)
  refine .zn fM (.bA rfl (fun hc26=>?_) (fun hc26=>?_))
  ·refine .region (.z zm (.y hs (zls [_,_] eH bZ) (.o (.buildSlice (cells:=[_,_]) hs jy rfl rfl fun b29 w hs=>?_))))
   refine .o (.append (ys:=r.td.c) hs fw rfl rfl hO (.own .here rfl rfl) (by simp [TD.c,Value.oneCell']) (fun l h=>by rw [cz _ (qS _),eZ] at h;omega) ?_);intro v30 en30 w hO2 hs
   refine .zn zg (nB (nT (.region (.z zm (.z cK (.zn zg (nT ?_)))))))
   have hn:r.td∉bH (rs.take k):=fun hm=>by have:=hnn.2 hm;omega
   rw [←yW,show bH (rs.take k)++[r.td]=bH (rs.take (k+1)) by rw [htk];unfold s4;rw [if_neg hn]] at hO2
   exact ⟨(k+1,v30),.cJ rfl cq aU,⟨by dsimp only;omega,_,hO2,hs.sb⟩,by dsimp only;omega⟩
  ·refine .skip (nB (nT (.region (.z zm (.z cK (.zn zg (nT ?_)))))))
   have hm:r.td∈bH (rs.take k):=hnn.1 an
   exact ⟨(k+1,_),.cJ rfl cq aU,⟨by dsimp only;omega,en,by dsimp only;rw [htk];unfold s4;rw [if_pos hm];exact hO,hs.sb⟩,by dsimp only;omega⟩
 ·refine .exit (xT (xT (xB (nT (.aj (.z zm (.zn zg (.ret (Fin.bE Tryz.results96 rfl ?_)))))))))
  obtain rfl:k=rs.length:=by omega
  rw [List.take_length] at hO
  have htl:=ea rs
  obtain ⟨H2,hle2,hR,hs⟩:=cZ.di (m:=2) (cs:=tdc (bH rs)) hO (qS _) an (by rw [eZ];omega) hs .here
  rw [List.take_length]
  exact ⟨H2,hle2,hR,hs⟩
theorem yT(s:Spc)(i k:Nat):1+(i:Int)*(s.wa.length:Int)+(k:Int)=(s.u i k:Int):=by
 unfold Spc.u;rw [Int.natCast_add,Int.natCast_add,Int.natCast_mul];rfl
theorem IL(s:Spc)(i k:Nat):1+((i:Int)+1)*(s.wa.length:Int)+(k:Int)=(s.u (i+1) k:Int):=by
 rw [←yT];rfl
theorem IK(s:Spc)(i k:Nat):1+(i:Int)*(s.wa.length:Int)+((k:Int)+1)=(s.u i (k+1):Int):=by
 rw [←yT];rfl
theorem mL{f:Nat→Nat→List Lim}(hf:∀i k,(f i k).length≤2)(i:Nat):∀k,(nr f i k).length≤2*k
 |0=>by simp [nr]
 |k+1=>by have:=mL hf i k;have:=hf i k;simp only [nr,List.length_append];omega
theorem nq{f:Nat→Nat→List Lim}(hf:∀i k,(f i k).length≤2){m n:Nat}(hm:m≤7)(hn:n≤9)(h0:0<m):(fg f m n).length≤126:=by
 have h1:=iX hf (n:=n) h0
 have:n*m≤9*7:=Nat.mul_le_mul hn hm
 omega
theorem Ij{s:Spc}(h0:0<s.st.length):fg (alL s) s.wa.length s.st.length=fg (alL s) s.wa.length (s.st.length - 1):=by
 obtain ⟨n,hn⟩:∃n,s.st.length=n+1:=⟨s.st.length - 1,an⟩
 have key:∀k,nr (alL s) n k=[]:=by
  intro k
  induction k with
  |zero=>rfl
  |succ k ih=>simp only [nr];rw [ih];unfold alL;rw [if_neg an];rfl
 rw [hn,Nat.add_sub_cancel]
 simp only [fg]
 rw [key,List.append_nil]
theorem Hq{s:Spc}(i:Nat)(h0:0<s.wa.length):nr (upL s) i s.wa.length=nr (upL s) i (s.wa.length - 1):=by
 obtain ⟨n,hn⟩:∃n,s.wa.length=n+1:=⟨s.wa.length - 1,an⟩
 have e:upL s i n=[]:=by unfold upL;rw [if_neg an]
 rw [hn,Nat.add_sub_cancel]
 simp only [nr]
 rw [e,List.append_nil]
set_option maxHeartbeats 4000000 in
theorem oa{s:Srv}{vst vwa vr vc:Value}(hs:St H w σ)(h1:RI H vst s.sp.st)(h2:RI H vwa s.sp.wa)(h3:RRd H vr s.rs)(h4:RCm H vc s.cs)(he:s.early):
  Cl Tryz.prog 152 [.agg #[I s.sp.id,I s.sp.src,vst,vwa,I s.sp.al,I s.sp.up,vr,vc]] w fun u w'=>∃H1 en,HLe H H1∧cZ 4 u (iF s.dk) en∧St H1 w' (en::σ):=by
 obtain ⟨ast,cst,rfl⟩:=RI.shape h1
 obtain ⟨awa,cwa,rfl⟩:=RI.shape h2
 obtain ⟨ar,cr,rfl⟩:=RRd.shape h3
 obtain ⟨ac,cc,rfl⟩:=RCm.shape h4
 obtain ⟨hok,hrl,hcl,hrs,hcs⟩:=he
 have hsm:=fN hok
 have hn1:=hok.st.many
 have hn2:=hok.wa.many
 have hn3:=hok.st.two
 have hn4:=hok.wa.two
 have ha:=nq (qd s.sp) (m:=s.sp.wa.length) (n:=s.sp.st.length) an an an
 have hb:=nq (tZ s.sp) (m:=s.sp.wa.length) (n:=s.sp.st.length) an an an
 have hc:=nq (tp s.sp) (m:=s.sp.wa.length) (n:=s.sp.st.length) an an an
 have hal:=hok.al
 have hup:=hok.up
 refine Cl.o Tryz.func152 Tryz.ntmps152 ag1 ?_
 refine .aj (.bx hs fun b1 w hs=>?_)
 refine .zn zg (.aj (.z (zfa bn) (.y hs (zls [_,_,_,_,_,_] bg aM) (.o (.alloc hs kh rfl fun b3 w hs=>?_)))))
 refine .o (.aP (vs:=[_,_,_,_,_,_]) hs rfl rfl aM fun w hs=>?_)
 refine .nil (.aj (.zn zg (.seq (.aj (.zn zg (.block ?_))))))
 refine .loop (fun p:Nat×Value=>⟨243,[],[(5,I (p.1:Int)),(4,p.2),(3,Pt b3),(1,Pt b1)]⟩)
  (fun p w=>p.1≤s.sp.st.length∧∃en,cZ 4 p.2 (iF (fg (s9 s.sp) s.sp.wa.length p.1)) en∧St H w (en:: .blk b3 [I s.sp.id,I s.sp.src,.slice ast s.sp.st.length cst,.slice awa s.sp.wa.length cwa,I s.sp.al,I s.sp.up]:: .blk b1 [I s.sp.id,I s.sp.src,.slice ast s.sp.st.length cst,.slice awa s.sp.wa.length cwa,I s.sp.al,I s.sp.up,.slice ar s.rs.length cr,.slice ac s.cs.length cc]::σ)) (fun p=>s.sp.st.length - p.1) (0,.slice none 0 0) aU
  ⟨by first|omega|exact Nat.zero_le _,_,.nil 4 none,hs.nul⟩ ?_
 rintro ⟨i,vo⟩ w ⟨hi,en,hO,hs⟩
 dsimp only at hi hO ⊢
 refine .seq (.aj (.z zm (.z (zfa bV) (.y hs (zld aq) (.z (dc ae) (.zn fM (.bA rfl (fun hc27=>?_) (fun hc27=>?_))))))))
 ·refine .skip (nT (.seq (.block (.aj (.zn zg (.block ?_))))))
  refine .loop (fun p:Nat×Value=>⟨243,[],[(6,I (p.1:Int)),(4,p.2),(5,I (i:Int)),(3,Pt b3),(1,Pt b1)]⟩)
   (fun p w=>p.1≤s.sp.wa.length∧∃en,cZ 4 p.2 (iF (fg (s9 s.sp) s.sp.wa.length i++nr (s9 s.sp) i p.1)) en∧St H w (en:: .blk b3 [I s.sp.id,I s.sp.src,.slice ast s.sp.st.length cst,.slice awa s.sp.wa.length cwa,I s.sp.al,I s.sp.up]:: .blk b1 [I s.sp.id,I s.sp.src,.slice ast s.sp.st.length cst,.slice awa s.sp.wa.length cwa,I s.sp.al,I s.sp.up,.slice ar s.rs.length cr,.slice ac s.cs.length cc]::σ)) (fun p=>s.sp.wa.length - p.1) (0,vo) aU
   ⟨by first|omega|exact Nat.zero_le _,en,by show cZ 4 vo (iF (_++[])) en;rw [List.append_nil];exact hO,hs⟩ ?_
  clear hO hs
  rintro ⟨k,vo⟩ w ⟨hk,en,hO,hs⟩
  dsimp only at hk hO ⊢
  have hl1:=nq (qd s.sp) (m:=s.sp.wa.length) (n:=i) an an an
  have hl2:=mL (qd s.sp) i k
  refine .seq (.aj (.z zm (.z (zfa bh) (.y hs (zld aq) (.z (dc ae) (.zn fM (.bA rfl (fun hc34=>?_) (fun hc34=>?_))))))))
  ·refine .skip (nT (.seq (.block (.aj (.y hs (zls [_,_,_,_,_,_] bg aM) (.z zm (.z zm (.o (.call kH rfl (dF (s:=s.sp) hs h2 an ⟨an,an⟩ ⟨an,an⟩) ?_)))))))));rintro _ w ⟨rfl,hs⟩
   rw [yT]
   refine .zn zg (.region (.z zm (.z zm (.z (zfa ed) (.y hs (zld af) (.z (zbd [_,_,_,_] fj) (.z zm (.z (zfa ed) (.y hs (zld af) (.z (zbd [_,_,_,_] fj) (.o (.buildSlice (cells:=iF (s9 s.sp i k)) hs gQ rfl aD fun b50 w hs=>?_))))))))))))
   refine .o (.append (ys:=iF (s9 s.sp i k)) hs dh rfl rfl hO (.own .here rfl rfl) (my _) (fun l h=>by rw [fa,List.length_append] at h;omega) ?_);intro v51 en51 w hO2 hs
   rw [←ji,List.append_assoc] at hO2
   refine .zn zg (nB (nT (.region (.z zm (.z cK (.zn zg (nT ?_)))))))
   exact ⟨(k+1,v51),.cJ rfl cq aU,⟨by dsimp only;omega,_,hO2,hs.sb⟩,by dsimp only;omega⟩
  ·refine .exit (xT (xT (xB (nB (nT (.region (.z zm (.z cK (.zn zg (nT ?_))))))))))
   obtain rfl:k=s.sp.wa.length:=by omega
   exact ⟨(i+1,_),.cJ rfl cq aU,⟨by dsimp only;omega,en,hO,hs⟩,by dsimp only;omega⟩
 ·refine .exit (xT (xT (xB (nT (.seq (.aj (.zn zg (.block ?_))))))))
  refine .loop (fun p:Nat×Value=>⟨243,[],[(8,I (p.1:Int)),(4,p.2),(3,Pt b3),(1,Pt b1)]⟩)
   (fun p w=>p.1+1≤s.sp.st.length∧∃en,cZ 4 p.2 (iF (fg (s9 s.sp) s.sp.wa.length s.sp.st.length++fg (alL s.sp) s.sp.wa.length p.1)) en∧St H w (en:: .blk b3 [I s.sp.id,I s.sp.src,.slice ast s.sp.st.length cst,.slice awa s.sp.wa.length cwa,I s.sp.al,I s.sp.up]:: .blk b1 [I s.sp.id,I s.sp.src,.slice ast s.sp.st.length cst,.slice awa s.sp.wa.length cwa,I s.sp.al,I s.sp.up,.slice ar s.rs.length cr,.slice ac s.cs.length cc]::σ)) (fun p=>s.sp.st.length - p.1) (0,vo) aU
   ⟨by first|omega|exact Nat.zero_le _,en,by show cZ 4 vo (iF (_++[])) en;rw [List.append_nil,←show i=s.sp.st.length by omega];exact hO,hs⟩ ?_
  clear hO hs
  rintro ⟨i,vo⟩ w ⟨hi,en,hO,hs⟩
  dsimp only at hi hO ⊢
  refine .seq (.aj (.z zm (.z cK (.z (zfa bV) (.y hs (zld aq) (.z (dc ae) (.zn fM (.bA rfl (fun hc57=>?_) (fun hc57=>?_)))))))))
  ·refine .skip (nT (.seq (.block (.aj (.zn zg (.block ?_))))))
   refine .loop (fun p:Nat×Value=>⟨243,[],[(9,I (p.1:Int)),(4,p.2),(8,I (i:Int)),(3,Pt b3),(1,Pt b1)]⟩)
    (fun p w=>p.1≤s.sp.wa.length∧∃en,cZ 4 p.2 (iF (fg (s9 s.sp) s.sp.wa.length s.sp.st.length++fg (alL s.sp) s.sp.wa.length i++nr (alL s.sp) i p.1)) en∧St H w (en:: .blk b3 [I s.sp.id,I s.sp.src,.slice ast s.sp.st.length cst,.slice awa s.sp.wa.length cwa,I s.sp.al,I s.sp.up]:: .blk b1 [I s.sp.id,I s.sp.src,.slice ast s.sp.st.length cst,.slice awa s.sp.wa.length cwa,I s.sp.al,I s.sp.up,.slice ar s.rs.length cr,.slice ac s.cs.length cc]::σ)) (fun p=>s.sp.wa.length - p.1) (0,vo) aU
    ⟨by first|omega|exact Nat.zero_le _,en,by show cZ 4 vo (iF (_++[])) en;rw [List.append_nil];exact hO,hs⟩ ?_
   clear hO hs
   rintro ⟨k,vo⟩ w ⟨hk,en,hO,hs⟩
   dsimp only at hk hO ⊢
   have hl1:=nq (tZ s.sp) (m:=s.sp.wa.length) (n:=i) an an an
   have hl2:=mL (tZ s.sp) i k
   refine .seq (.aj (.z zm (.z (zfa bh) (.y hs (zld aq) (.z (dc ae) (.zn fM (.bA rfl (fun hc64=>?_) (fun hc64=>?_))))))))
   ·refine .skip (nT (.seq (.block (.draw mix rfl hs fun w hs=>?_))))
    refine .zw 0 rfl zm ?_;refine .ys 1 rfl hs [_,_,_,_,_,_] bg aM ?_;refine .z 2 rfl zm ?_;refine .z 3 rfl zm ?_;refine .ys 5 rfl hs [_,_,_,_,_,_] bg aM ?_;refine .z 6 rfl zm ?_;refine .z 7 rfl cK ?_;refine .z 8 rfl zm ?_;refine .z 10 rfl (zfa eC) ?_;refine .z 11 rfl (zfa kb) ?_
    refine .y 12 rfl hs af ?_;refine .z 13 rfl (zfa bV) ?_;refine .y 14 rfl hs aq ?_;refine .z 15 rfl zm ?_;refine .z 16 rfl cK ?_
    have hris:=hok.st.rise i an
    have hq0:=hok.st.bd (i:=i) an
    have hq1:=hok.st.bd (i:=i+1) an
    refine .ixX (enc:=fun x=>[I x]) (i:=17) hs rfl aD .none h1 rfl rfl ae ai (bB (l:=s.sp.st) (i:=(i+1)) an) da ?_;intro b84 o84 hc84;replace hc84:=bL.one hc84
    refine .r (i:=18) hs rfl aD .none (aJ rfl af hc84) ?_
    refine .zw 19 rfl (zfa bV) ?_;refine .y 20 rfl hs aq ?_;refine .z 21 rfl zm ?_
    refine .ixX (enc:=fun x=>[I x]) (i:=22) hs rfl aD .none h1 rfl rfl ae ai (bB (l:=s.sp.st) (i:=i) an) da ?_;intro b89 o89 hc89;replace hc89:=bL.one hc89
    refine .r (i:=23) hs rfl aD .none (aJ rfl af hc89) ?_
    refine .zw 24 rfl fY ?_;refine .z 26 rfl (zfa ed) ?_;refine .y 27 rfl hs af ?_
    refine .E 4 hs ?_
    refine .call kH rfl (dF (s:=s.sp) hs h2 an ⟨an,an⟩ ⟨an,an⟩) ?_;rintro _ w ⟨rfl,hs⟩
    rw [yT]
    refine .go (.E 9 hs ?_)
    refine .call kH rfl (dF (s:=s.sp) hs h2 an ⟨an,an⟩ ⟨an,an⟩) ?_;rintro _ w ⟨rfl,hs⟩
    rw [IL]
    refine .go (.E 25 hs ?_)
    refine .call Tryz.call211 rfl (nk hs an an) ?_;rintro _ w ⟨rfl,hs⟩
    refine .go (.E 28 hs ?_)
    refine .call Tryz.call210 rfl (l9 hs) ?_;rintro _ w ⟨b95,rfl,hs⟩
    rw [show two (s.sp.u i k:Int) _ _ _ _=alL s.sp i k by unfold alL;rw [if_pos an]] at hs
    refine .go (.E 29 hs ?_)
    refine .append (ys:=iF (alL s.sp i k)) hs dh rfl rfl hO (.own .here cq (by rw [fa];unfold alL;rw [if_pos an];rfl)) (my _) (fun l h=>by rw [fa] at h;simp only [List.length_append] at h;omega) ?_;intro v96 en96 w hO2 hs
    rw [←ji,List.append_assoc _ (nr _ _ _)] at hO2
    refine .go (.zw 30 rfl zg ?_);refine .D hs ?_
    refine nB (nT (.region (.z zm (.z cK (.zn zg (nT ?_))))))
    exact ⟨(k+1,v96),.cJ rfl cq aU,⟨by dsimp only;omega,_,hO2,hs.sb⟩,by dsimp only;omega⟩
   ·refine .exit (xT (xT (xB (nB (nT (.region (.z zm (.z cK (.zn zg (nT ?_))))))))))
    obtain rfl:k=s.sp.wa.length:=by omega
    rw [List.append_assoc] at hO
    exact ⟨(i+1,_),.cJ rfl cq aU,⟨by dsimp only;omega,en,hO,hs⟩,by dsimp only;omega⟩
  ·refine .exit (xT (xT (xB (nT (.seq (.aj (.zn zg (.block ?_))))))))
   refine .loop (fun p:Nat×Value=>⟨243,[],[(10,I (p.1:Int)),(4,p.2),(3,Pt b3),(1,Pt b1)]⟩)
    (fun p w=>p.1≤s.sp.st.length∧∃en,cZ 4 p.2 (iF (fg (s9 s.sp) s.sp.wa.length s.sp.st.length++fg (alL s.sp) s.sp.wa.length s.sp.st.length++fg (upL s.sp) s.sp.wa.length p.1)) en∧St H w (en:: .blk b3 [I s.sp.id,I s.sp.src,.slice ast s.sp.st.length cst,.slice awa s.sp.wa.length cwa,I s.sp.al,I s.sp.up]:: .blk b1 [I s.sp.id,I s.sp.src,.slice ast s.sp.st.length cst,.slice awa s.sp.wa.length cwa,I s.sp.al,I s.sp.up,.slice ar s.rs.length cr,.slice ac s.cs.length cc]::σ)) (fun p=>s.sp.st.length - p.1) (0,vo) aU
    ⟨by first|omega|exact Nat.zero_le _,en,by show cZ 4 vo (iF (_++[])) en;rw [List.append_nil,Ij an,←show i=s.sp.st.length - 1 by omega];exact hO,hs⟩ ?_
   clear hO hs
   rintro ⟨i,vo⟩ w ⟨hi,en,hO,hs⟩
   dsimp only at hi hO ⊢
   refine .seq (.aj (.z zm (.z (zfa bV) (.y hs (zld aq) (.z (dc ae) (.zn fM (.bA rfl (fun hc101=>?_) (fun hc101=>?_))))))))
   ·refine .skip (nT (.seq (.block (.aj (.zn zg (.block ?_))))))
    refine .loop (fun p:Nat×Value=>⟨243,[],[(11,I (p.1:Int)),(4,p.2),(10,I (i:Int)),(3,Pt b3),(1,Pt b1)]⟩)
     (fun p w=>p.1+1≤s.sp.wa.length∧∃en,cZ 4 p.2 (iF (fg (s9 s.sp) s.sp.wa.length s.sp.st.length++fg (alL s.sp) s.sp.wa.length s.sp.st.length++fg (upL s.sp) s.sp.wa.length i++nr (upL s.sp) i p.1)) en∧St H w (en:: .blk b3 [I s.sp.id,I s.sp.src,.slice ast s.sp.st.length cst,.slice awa s.sp.wa.length cwa,I s.sp.al,I s.sp.up]:: .blk b1 [I s.sp.id,I s.sp.src,.slice ast s.sp.st.length cst,.slice awa s.sp.wa.length cwa,I s.sp.al,I s.sp.up,.slice ar s.rs.length cr,.slice ac s.cs.length cc]::σ)) (fun p=>s.sp.wa.length - p.1) (0,vo) aU
     ⟨by first|omega|exact Nat.zero_le _,en,by show cZ 4 vo (iF (_++[])) en;rw [List.append_nil];exact hO,hs⟩ ?_
    clear hO hs
    rintro ⟨k,vo⟩ w ⟨hk,en,hO,hs⟩
    dsimp only at hk hO ⊢
    have hl1:=nq (tp s.sp) (m:=s.sp.wa.length) (n:=i) an an an
    have hl2:=mL (tp s.sp) i k
    refine .seq (.aj (.z zm (.z cK (.z (zfa bh) (.y hs (zld aq) (.z (dc ae) (.zn fM (.bA rfl (fun hc109=>?_) (fun hc109=>?_)))))))))
    ·refine .skip (nT (.seq (.block (.draw mix rfl hs fun w hs=>?_))))
     refine .zw 0 rfl zm ?_;refine .ys 1 rfl hs [_,_,_,_,_,_] bg aM ?_;refine .z 2 rfl zm ?_;refine .z 3 rfl zm ?_;refine .ys 5 rfl hs [_,_,_,_,_,_] bg aM ?_;refine .z 6 rfl zm ?_;refine .z 7 rfl zm ?_;refine .z 8 rfl cK ?_;refine .z 10 rfl (zfa eC) ?_;refine .z 11 rfl (zfa ka) ?_
     refine .y 12 rfl hs af ?_;refine .z 13 rfl (zfa bh) ?_;refine .y 14 rfl hs aq ?_;refine .z 15 rfl zm ?_;refine .z 16 rfl cK ?_
     have hris:=hok.wa.rise k an
     have hq0:=hok.wa.bd (i:=k) an
     have hq1:=hok.wa.bd (i:=k+1) an
     refine .ixX (enc:=fun x=>[I x]) (i:=17) hs rfl aD .none h2 rfl rfl ae ai (bB (l:=s.sp.wa) (i:=(k+1)) an) da ?_;intro b129 o129 hc129;replace hc129:=bL.one hc129
     refine .r (i:=18) hs rfl aD .none (aJ rfl af hc129) ?_
     refine .zw 19 rfl (zfa bh) ?_;refine .y 20 rfl hs aq ?_;refine .z 21 rfl zm ?_
     refine .ixX (enc:=fun x=>[I x]) (i:=22) hs rfl aD .none h2 rfl rfl ae ai (bB (l:=s.sp.wa) (i:=k) an) da ?_;intro b134 o134 hc134;replace hc134:=bL.one hc134
     refine .r (i:=23) hs rfl aD .none (aJ rfl af hc134) ?_
     refine .zw 24 rfl fY ?_;refine .z 26 rfl (zfa ed) ?_;refine .y 27 rfl hs af ?_
     refine .E 4 hs ?_
     refine .call kH rfl (dF (s:=s.sp) hs h2 an ⟨an,an⟩ ⟨an,an⟩) ?_;rintro _ w ⟨rfl,hs⟩
     rw [yT]
     refine .go (.E 9 hs ?_)
     refine .call kH rfl (dF (s:=s.sp) hs h2 an ⟨an,an⟩ ⟨an,an⟩) ?_;rintro _ w ⟨rfl,hs⟩
     rw [IK]
     refine .go (.E 25 hs ?_)
     refine .call Tryz.call211 rfl (nk hs an an) ?_;rintro _ w ⟨rfl,hs⟩
     refine .go (.E 28 hs ?_)
     refine .call Tryz.call210 rfl (l9 hs) ?_;rintro _ w ⟨b140,rfl,hs⟩
     rw [show two (s.sp.u i k:Int) _ _ _ _=upL s.sp i k by unfold upL;rw [if_pos an]] at hs
     refine .go (.E 29 hs ?_)
     refine .append (ys:=iF (upL s.sp i k)) hs dh rfl rfl hO (.own .here cq (by rw [fa];unfold upL;rw [if_pos an];rfl)) (my _) (fun l h=>by rw [fa] at h;simp only [List.length_append] at h;omega) ?_;intro v141 en141 w hO2 hs
     rw [←ji,List.append_assoc _ (nr _ _ _)] at hO2
     refine .go (.zw 30 rfl zg ?_);refine .D hs ?_
     refine nB (nT (.region (.z zm (.z cK (.zn zg (nT ?_))))))
     exact ⟨(k+1,v141),.cJ rfl cq aU,⟨by dsimp only;omega,_,hO2,hs.sb⟩,by dsimp only;omega⟩
    ·refine .exit (xT (xT (xB (nB (nT (.region (.z zm (.z cK (.zn zg (nT ?_))))))))))
     obtain rfl:k=s.sp.wa.length - 1:=by omega
     rw [List.append_assoc,←Hq i an] at hO
     exact ⟨(i+1,_),.cJ rfl cq aU,⟨by dsimp only;omega,en,hO,hs⟩,by dsimp only;omega⟩
   ·refine .exit (xT (xT (xB (nT (.aj (.z (zfa aZ) (.y hs (zld bQ) ?_)))))))
    obtain rfl:i=s.sp.st.length:=by omega
    refine .o (.call GZ rfl (iB hs h3 an) ?_);rintro v144 w ⟨H1,hle1,hT,hs⟩
    replace hT:RTd H1 v144 s.cV:=hT
    have htl:s.cV.length≤60:=by have:=ea s.rs;unfold Srv.cV;omega
    have hmem:∀r∈s.rs,r.td∈s.cV:=fun r hr=>iz.2 ⟨r,hr,rfl⟩
    have hlims:s.dk=fg (s9 s.sp) s.sp.wa.length s.sp.st.length++fg (alL s.sp) s.sp.wa.length s.sp.st.length++fg (upL s.sp) s.sp.wa.length s.sp.st.length++zD s.sp s.cV.length++vV s.sp s.cV s.cs 0 s.cs.length++xA s.sp s.cV s.rs s.rs.length:=rfl
    generalize s.cV=ts at*
    obtain ⟨at_,ct,rfl⟩:=RTd.shape hT
    refine .zn zg (.aj (.y hs (zls [_,_,_,_,_,_] bg aM) (.o (.call G0 rfl (fG (s:=s.sp) hs (h1.mono hle1) (h2.mono hle1) ⟨an,an⟩) ?_))));rintro _ w ⟨rfl,hs⟩
    refine .zn zg (.seq (.aj (.zn zg (.block ?_))))
    refine .loop (fun p:Nat×Value=>⟨243,[],[(14,I (p.1:Int)),(4,p.2),(12,.slice at_ ts.length ct),(13,I (s.sp.many:Int)),(3,Pt b3),(1,Pt b1)]⟩)
     (fun p w=>p.1≤ts.length∧∃en,cZ 4 p.2 (iF (fg (s9 s.sp) s.sp.wa.length s.sp.st.length++fg (alL s.sp) s.sp.wa.length s.sp.st.length++fg (upL s.sp) s.sp.wa.length s.sp.st.length++zD s.sp p.1)) en∧St H1 w (en:: .blk b3 [I s.sp.id,I s.sp.src,.slice ast s.sp.st.length cst,.slice awa s.sp.wa.length cwa,I s.sp.al,I s.sp.up]:: .blk b1 [I s.sp.id,I s.sp.src,.slice ast s.sp.st.length cst,.slice awa s.sp.wa.length cwa,I s.sp.al,I s.sp.up,.slice ar s.rs.length cr,.slice ac s.cs.length cc]::σ)) (fun p=>ts.length - p.1) (0,vo) aU
     ⟨by first|omega|exact Nat.zero_le _,en,by show cZ 4 vo (iF (_++[])) en;rw [List.append_nil];exact hO,hs⟩ ?_
    clear hO hs
    rintro ⟨j,vo⟩ w ⟨hj,en,hO,hs⟩
    dsimp only at hj hO ⊢
    have hel:=kC s.sp j
    refine .seq (.aj (.z zm (.z zm (.z (dc bO) (.zn fM (.bA rfl (fun hc150=>?_) (fun hc150=>?_)))))))
    ·refine .skip (nT (.seq (.block (.region (.z zm (.z zm (.z cK (.z zm (.z cK (.z (zfa ed) (.y hs (zld af) (.o (.call Tryz.call210 rfl (l9 hs) ?_)))))))))))));rintro _ w ⟨b160,rfl,hs⟩
     refine .o (.append (ys:=iF (two 0 ((s.sp.many:Int)+1+(j:Int)) 1000 1000 s.sp.src)) hs dh rfl rfl hO (.own .here rfl rfl) (my _) (fun l h=>by rw [fa] at h;simp only [List.length_append] at h;omega) ?_);intro v161 en161 w hO2 hs
     rw [←ji,List.append_assoc _ (zD _ _),show (s.sp.many:Int)+1+(j:Int)=((s.sp.many+1+j:Nat):Int) by omega] at hO2
     refine .zn zg (nB (nT (.region (.z zm (.z cK (.zn zg (nT ?_)))))))
     exact ⟨(j+1,v161),.cJ rfl cq aU,⟨by dsimp only;omega,_,hO2,hs.sb⟩,by dsimp only;omega⟩
    ·refine .exit (xT (xT (xB (nT (.seq (.aj (.zn zg (.block ?_))))))))
     refine .loop (fun p:Nat×Value=>⟨243,[],[(15,I (p.1:Int)),(4,p.2),(12,.slice at_ ts.length ct),(13,I (s.sp.many:Int)),(3,Pt b3),(1,Pt b1)]⟩)
      (fun p w=>p.1≤s.cs.length∧∃en,cZ 4 p.2 (iF (fg (s9 s.sp) s.sp.wa.length s.sp.st.length++fg (alL s.sp) s.sp.wa.length s.sp.st.length++fg (upL s.sp) s.sp.wa.length s.sp.st.length++zD s.sp ts.length++vV s.sp ts s.cs 0 p.1)) en∧St H1 w (en:: .blk b3 [I s.sp.id,I s.sp.src,.slice ast s.sp.st.length cst,.slice awa s.sp.wa.length cwa,I s.sp.al,I s.sp.up]:: .blk b1 [I s.sp.id,I s.sp.src,.slice ast s.sp.st.length cst,.slice awa s.sp.wa.length cwa,I s.sp.al,I s.sp.up,.slice ar s.rs.length cr,.slice ac s.cs.length cc]::σ)) (fun p=>s.cs.length - p.1) (0,vo) aU
      ⟨by first|omega|exact Nat.zero_le _,en,by show cZ 4 vo (iF (_++[])) en;rw [List.append_nil,←show j=ts.length by omega];exact hO,hs⟩ ?_
     clear hO hs
     rintro ⟨i,vo⟩ w ⟨hi,en,hO,hs⟩
     dsimp only at hi hO ⊢
     have hel:=kC s.sp ts.length
     have hcl1:=kD s.sp ts s.cs 0 i
     have hcl2:i*(2*(ts.length - 0))≤20*(2*60):=Nat.mul_le_mul an an
     refine .seq (.aj (.z zm (.z (zfa cH) (.y hs (zld eu) (.z (dc bu) (.zn fM (.bA rfl (fun hc166=>?_) (fun hc166=>?_))))))))
     ·refine .skip (nT (.seq (.block (.aj (.zn zg (.block ?_))))))
      refine .loop (fun p:Nat×Value=>⟨243,[],[(16,I (p.1:Int)),(4,p.2),(15,I (i:Int)),(12,.slice at_ ts.length ct),(13,I (s.sp.many:Int)),(3,Pt b3),(1,Pt b1)]⟩)
       (fun p w=>p.1≤ts.length∧∃en,cZ 4 p.2 (iF (fg (s9 s.sp) s.sp.wa.length s.sp.st.length++fg (alL s.sp) s.sp.wa.length s.sp.st.length++fg (upL s.sp) s.sp.wa.length s.sp.st.length++zD s.sp ts.length++vV s.sp ts s.cs 0 i++mj s.sp ts (BD s.cs i) 0 p.1)) en∧St H1 w (en:: .blk b3 [I s.sp.id,I s.sp.src,.slice ast s.sp.st.length cst,.slice awa s.sp.wa.length cwa,I s.sp.al,I s.sp.up]:: .blk b1 [I s.sp.id,I s.sp.src,.slice ast s.sp.st.length cst,.slice awa s.sp.wa.length cwa,I s.sp.al,I s.sp.up,.slice ar s.rs.length cr,.slice ac s.cs.length cc]::σ)) (fun p=>ts.length - p.1) (0,vo) aU
       ⟨by first|omega|exact Nat.zero_le _,en,by show cZ 4 vo (iF (_++[])) en;rw [List.append_nil];exact hO,hs⟩ ?_
      clear hO hs
      rintro ⟨j,vo⟩ w ⟨hj,en,hO,hs⟩
      dsimp only at hj hO ⊢
      have hl1:=mO s.sp ts (BD s.cs i) 0 j
      refine .seq (.aj (.z zm (.z zm (.z (dc bO) (.zn fM (.bA rfl (fun hc172=>?_) (fun hc172=>?_)))))))
      ·refine .skip (nT (.seq (.block (.draw mix rfl hs fun w hs=>?_))))
       refine .zw 0 rfl zm ?_;refine .z 1 rfl (zfa cH) ?_;refine .y 2 rfl hs eu ?_;refine .z 3 rfl zm ?_
       obtain ⟨c,hx⟩:=nth (l:=s.cs) (k:=i) an
       obtain ⟨t,ht⟩:=nth (l:=ts) (k:=j) an
       obtain ⟨g1,g2,g3,g4,g5,g6⟩:=hcs c (List.mem_of_getElem? hx)
       have ec:=EX hx
       have et:=G4 ht
       refine .ixX (enc:=Cmp.c) (i:=4) hs rfl aD .none (h4.mono hle1) rfl rfl bu cO hx da ?_;intro b179 o179 hc179
       refine .r (i:=5) hs rfl aD .none (cj (vs:=c.c) rfl IG cO hc179) ?_
       refine .zw 6 rfl zm ?_;refine .z 7 rfl zm ?_
       refine .ixX (enc:=TD.c) (i:=8) hs rfl aD .none hT rfl rfl bO bZ ht da ?_;intro b183 o183 hc183
       refine .r (i:=9) hs rfl aD .none (cj (vs:=t.c) rfl eH bZ hc183) ?_
       refine .zw 10 rfl zm ?_;refine .z 11 rfl cK ?_;refine .z 12 rfl zm ?_;refine .z 13 rfl cK ?_
       refine .E 14 hs ?_
       refine .call Tryz.call212 rfl (wH (c:=c) (t:=t) hs ⟨an,an⟩) ?_;rintro v189 w ⟨en189,hO189,hs⟩
       obtain ⟨a189,l189,c189,rfl,h189⟩:=hO189.shape
       refine .go (.E 15 hs ?_)
       refine .append (ys:=iF (mS c t ((s.sp.many:Int)+1+(j:Int)))) hs dh rfl rfl hO (Src.JW hO189 .here) (my _) (fun l h=>by rw [fa] at h;simp only [List.length_append] at h;have:=z6 c t ((s.sp.many:Int)+1+(j:Int));rw [fa] at h189;omega) ?_;intro v190 en190 w hO2 hs
       rw [←ji,List.append_assoc _ (mj _ _ _ _ _),show mj s.sp ts (BD s.cs i) 0 j++mS c t ((s.sp.many:Int)+1+(j:Int))=mj s.sp ts (BD s.cs i) 0 (j+1) by
        show _=_++mS (BD s.cs i) (td0 ts (0+j)) ((s.sp.many+1+(0+j):Nat):Int)
        rw [Nat.zero_add,ec,et,show ((s.sp.many+1+j:Nat):Int)=(s.sp.many:Int)+1+(j:Int) by omega]] at hO2
       refine .go (.zw 16 rfl zg ?_);refine .D hs ?_
       refine nB (nT (.region (.z zm (.z cK (.zn zg (nT ?_))))))
       exact ⟨(j+1,v190),.cJ rfl cq aU,⟨by dsimp only;omega,_,hO2,hs.sb⟩,by dsimp only;omega⟩
      ·refine .exit (xT (xT (xB (nB (nT (.region (.z zm (.z cK (.zn zg (nT ?_))))))))))
       obtain rfl:j=ts.length:=by omega
       rw [List.append_assoc _ (vV _ _ _ _ _)] at hO
       exact ⟨(i+1,_),.cJ rfl cq aU,⟨by dsimp only;omega,en,hO,hs⟩,by dsimp only;omega⟩
     ·refine .exit (xT (xT (xB (nT (.seq (.aj (.zn zg (.block ?_))))))))
      refine .loop (fun p:Nat×Value=>⟨243,[],[(17,I (p.1:Int)),(4,p.2),(12,.slice at_ ts.length ct),(13,I (s.sp.many:Int)),(3,Pt b3),(1,Pt b1)]⟩)
       (fun p w=>p.1≤s.rs.length∧∃en,cZ 4 p.2 (iF (fg (s9 s.sp) s.sp.wa.length s.sp.st.length++fg (alL s.sp) s.sp.wa.length s.sp.st.length++fg (upL s.sp) s.sp.wa.length s.sp.st.length++zD s.sp ts.length++vV s.sp ts s.cs 0 s.cs.length++xA s.sp ts s.rs p.1)) en∧St H1 w (en:: .blk b3 [I s.sp.id,I s.sp.src,.slice ast s.sp.st.length cst,.slice awa s.sp.wa.length cwa,I s.sp.al,I s.sp.up]:: .blk b1 [I s.sp.id,I s.sp.src,.slice ast s.sp.st.length cst,.slice awa s.sp.wa.length cwa,I s.sp.al,I s.sp.up,.slice ar s.rs.length cr,.slice ac s.cs.length cc]::σ)) (fun p=>s.rs.length - p.1) (0,vo) aU
       ⟨by first|omega|exact Nat.zero_le _,en,by show cZ 4 vo (iF (_++[])) en;rw [List.append_nil,←show i=s.cs.length by omega];exact hO,hs⟩ ?_
      clear hO hs
      rintro ⟨q,vo⟩ w ⟨hq,en,hO,hs⟩
      dsimp only at hq hO ⊢
      have hrl1:=ky s.sp ts s.rs q
      have hcl3:=kD s.sp ts s.cs 0 s.cs.length
      have hcl4:s.cs.length*(2*(ts.length - 0))≤20*(2*60):=Nat.mul_le_mul an an
      refine .seq (.aj (.z zm (.z (zfa aZ) (.y hs (zld bQ) (.z (dc aB) (.zn fM (.bA rfl (fun hc195=>?_) (fun hc195=>?_))))))))
      ·refine .skip (nT (.seq (.block (.aj (.z (zfa aZ) (.y hs (zld bQ) (.z zm ?_)))))))
       obtain ⟨r,hx⟩:=nth (l:=s.rs) (k:=q) an
       obtain ⟨g1,g2,g3,g4,g5,g6,g7⟩:=hrs r (List.mem_of_getElem? hx)
       obtain ⟨m,k1,k2,k3⟩:=iT (hmem r (List.mem_of_getElem? hx))
       refine .ixX (enc:=Rdg.c) hs (h3.mono hle1) rfl rfl aB aK hx da ?_;intro b201 o201 hc201
       refine .q hs (cj (vs:=(Rdg.c r)) rfl eI aK hc201) (.o (.alloc hs fk rfl fun b18 w hs=>?_))
       refine .o (.aP (vs:=r.c) hs rfl rfl aK fun w hs=>?_)
       change St _ _ (.blk b18 [I r.src,I r.st,I r.wa,I r.val,I r.tol,I r.tape,I r.day]::_) at hs
       refine .nil (.aj (.y hs (zls [_,_,_,_,_,_] bg aM) (.z (zfa gI) (.y hs (zld af) (.z (zfa gH) (.y hs (zld af) (.o (.call kH rfl (dF (s:=s.sp) hs (h2.mono hle1) an ⟨an,an⟩ ⟨an,an⟩) ?_))))))));rintro _ w ⟨rfl,hs⟩
       refine .zn zg (.aj (.z zm (.z cK (.z zm (.z (zfa eU) (.y hs (zld af) (.z (zfa eT) (.y hs (zld af) (.z (zbd [_,_] jg) (.o (.call Tryz.call95 rfl (kZ (t:=r.td) hs hT an) ?_)))))))))));rintro _ w ⟨rfl,hs⟩
       refine .z cK (.zn zg (.region (.z zm (.z zm (.z zm (.z (zfa dC) (.y hs (zld af) (.z (zfa dr) (.y hs (zld af) (.z cK (.z (zfa eV) (.y hs (zld af) (.z (zbd [_,_,_,_] fj) (.z zm (.z zm (.z (zfa dr) (.y hs (zld af) (.z (zfa dC) (.y hs (zld af) (.z fY (.z (zfa eV) (.y hs (zld af) (.z (zbd [_,_,_,_] fj) (.o (.buildSlice (cells:=iF (tG s.sp ts r)) hs gQ rfl aD fun b240 w hs=>?_)))))))))))))))))))))))))
       refine .o (.append (ys:=iF (tG s.sp ts r)) hs dh rfl rfl hO (.own .here rfl rfl) (my _) (fun l h=>by rw [fa] at h;simp only [List.length_append] at h;omega) ?_);intro v241 en241 w hO2 hs
       rw [←ji,List.append_assoc _ (xA _ _ _ _),show xA s.sp ts s.rs q++tG s.sp ts r=xA s.sp ts s.rs (q+1) by rw [←DX hx];rfl] at hO2
       refine .zn zg (nB (nT (.region (.z zm (.z cK (.zn zg (nT ?_)))))))
       exact ⟨(q+1,v241),.cJ rfl cq aU,⟨by dsimp only;omega,_,hO2,hs.sb⟩,by dsimp only;omega⟩
      ·refine .exit (xT (xT (xB (nT (.aj (.z zm (.zn zg (.ret (Fin.bE Tryz.results152 rfl ?_)))))))))
       obtain rfl:q=s.rs.length:=by omega
       exact ⟨H1,en,hle1,by rw [hlims];exact hO,hs.sb⟩
theorem uN{s:Srv}{vst vwa vr vc:Value}(hs:St H w σ)(h1:RI H vst s.sp.st)(h2:RI H vwa s.sp.wa)(h3:RRd H vr s.rs)(h4:RCm H vc s.cs)(he:s.early):
  Cl Tryz.prog 205 [.agg #[I s.sp.id,I s.sp.src,vst,vwa,I s.sp.al,I s.sp.up,vr,vc]] w fun u w'=>∃H1 vl en,HLe H H1∧u= .agg #[I s.sys.many,vl]∧cZ 4 vl (iF s.dk) en∧St H1 w' (en::σ):=by
 have hsm:=fN he.1
 have hrl:=he.2.1
 have htl:s.cV.length≤60:=by have:=ea s.rs;unfold Srv.cV;omega
 refine Cl.o Tryz.func205 Tryz.ntmps205 ag1 ?_
 refine .aj (.bx hs fun b1 w hs=>?_)
 refine .o (.alloc hs dD rfl fun b2 w hs=>?_)
 refine .nil (.seq (.draw mix rfl hs fun w hs=>?_))
 refine .zw 0 rfl (zfa bn) ?_;refine .ys 1 rfl hs [_,_,_,_,_,_] bg aM ?_;refine .z 3 rfl (zfa aZ) ?_;refine .y 4 rfl hs bQ ?_;refine .ys 8 rfl hs [_,_,_,_,_,_,_,_] aN aC ?_
 refine .E 2 hs ?_
 refine .call G0 rfl (fG (s:=s.sp) hs h1 h2 ⟨an,an⟩) ?_;rintro _ w ⟨rfl,hs⟩
 refine .go (.E 5 hs ?_)
 refine .call GZ rfl (iB hs h3 an) ?_;rintro v8 w ⟨H1,hle1,hT,hs⟩
 replace hT:RTd H1 v8 s.cV:=hT
 obtain ⟨at_,ct,rfl⟩:=RTd.shape hT
 refine .go (.zw 6 rfl (dc bO) ?_);refine .z 7 rfl cK ?_
 refine .E 9 hs ?_
 refine .call Tryz.call152 rfl (oa (s:=s) hs (h1.mono hle1) (h2.mono hle1) (h3.mono hle1) (h4.mono hle1) he) ?_;rintro v12 w ⟨H2,en,hle2,hO,hs⟩
 obtain ⟨al,ll,cl,rfl,hll⟩:=hO.shape
 refine .go (.zw 10 rfl (zbd [_,_] jC) (.E 11 hs ?_))
 refine .aP (vs:=[_,_]) hs rfl rfl aI ?_;intro w hs
 refine .go (.D hs (.ret ?_))
 replace hs:St H2 w (.blk b2 [I ((s.sp.many:Int)+(s.cV.length:Int)),.slice al ll cl]::en::σ):=hs.sb
 exact Fin.iM [] [] hs fun w hs=>⟨_,results1 Tryz.results205 (dy (vs:=[_,_]) hs rfl bq aI),H2,_,en,hle1.trans hle2,by show _=Value.agg #[I ((s.sp.many+s.cV.length:Nat):Int),_];rw [Int.natCast_add],hO,hs.tail⟩
theorem kv{s:Srv}{vst vwa vr vc:Value}(hs:St H w σ)(h1:RI H vst s.sp.st)(h2:RI H vwa s.sp.wa)(h3:RRd H vr s.rs)(h4:RCm H vc s.cs)(he:s.early):
  Cl Tryz.prog 205 [.agg #[I s.sp.id,I s.sp.src,vst,vwa,I s.sp.al,I s.sp.up,vr,vc]] w fun u w'=>∃H1,HLe H H1∧RSy H1 u s.sys∧St H1 w' σ:=by
 refine (uN hs h1 h2 h3 h4 he).mono ?_
 rintro u w' ⟨H1,vl,en,hle,rfl,hO,hs⟩
 have hl:=kL he 6 an
 rw [s.wU] at hl
 obtain ⟨H2,hle2,hR,hs⟩:=cZ.di (m:=4) (cs:=s.dk.map Lim.c) hO (fun c hc=>by simp only [List.mem_map] at hc;obtain ⟨x,_,rfl⟩:=hc;rfl) an (by rw [List.length_map];omega) hs .here
 exact ⟨H2,hle.trans hle2,⟨vl,rfl,hR⟩,hs⟩
set_option maxHeartbeats 1000000 in
theorem ob{s:Srv}{vst vwa vr vc:Value}(hs:St H w σ)(h1:RI H vst s.sp.st)(h2:RI H vwa s.sp.wa)(h3:RRd H vr s.rs)(h4:RCm H vc s.cs):
  Cl Tryz.prog 123 [.agg #[I s.sp.id,I s.sp.src,vst,vwa,I s.sp.al,I s.sp.up,vr,vc]] w fun u w'=>∃H1 e,HLe H H1∧u=I e∧yL s e∧St H1 w' σ:=by
 obtain ⟨ast,cst,rfl⟩:=RI.shape h1
 obtain ⟨awa,cwa,rfl⟩:=RI.shape h2
 obtain ⟨ar,cr,rfl⟩:=RRd.shape h3
 obtain ⟨ac,cc,rfl⟩:=RCm.shape h4
 refine Cl.o Tryz.func123 Tryz.ntmps123 ag1 ?_
 refine .aj (.bx hs fun b1 w hs=>?_)
 refine .zn zg (.seq (.aj (.z (zfa bn) (.y hs (zls [_,_,_,_,_,_] bg aM) (.o (.call Tryz.call113 rfl (kJ (s:=s.sp) hs h1 h2) ?_))))));rintro _ w ⟨e,rfl,he,hs⟩
 refine .zn gE (.dV rfl (fun hc8=>?_) (fun hc8=>?_))
 ·refine .aj (.zn zg (.ret (rT (Fin.bE lB rfl ?_))))
  have hq:¬fA s.sp∧e=30:=he.resolve_left fun h=>hc8 h.2
  exact ⟨H,_,HLe.refl H,rfl,.space hq.1,hs.out⟩
 ·refine .skip (nT (.seq (.aj (.z (zfa aZ) ?_))))
  have hok:fA s.sp:=(he.resolve_right fun h=>by omega).1
  refine .y hs (zld bQ) (.z (dc aB) (.z km (.z zm (.gX (t':=13) rfl (fun hb13=>?_) (fun hb13=>?_)))))
  ·refine .Fs 4 4 false (.zn zpT (.cT (.aj (.zn zg (.ret (rT (Fin.bE lB rfl ?_)))))))
   exact ⟨H,_,HLe.refl H,rfl,.long hok an,hs.out⟩
  ·refine .T (.z (zfa cH) (.T (.y hs (zld eu) (.T (.z (dc bu) (.T (.z km (.zn zpF (.bA rfl (fun hc18=>?_) (fun hc18=>?_))))))))))
   ·refine .aj (.zn zg (.ret (rT (Fin.bE lB rfl ?_))))
    exact ⟨H,_,HLe.refl H,rfl,.long hok an,hs.out⟩
   ·refine .skip (nT (.seq (.aj (.zn zg (.block ?_)))))
    refine .loop (fun k:Nat=>⟨64,[],[(3,I (k:Int)),(1,Pt b1)]⟩)
     (fun k w=>k≤s.rs.length∧(∀j<k,∀y,s.rs[j]? =some y→nD s.sp y)∧St H w (.blk b1 [I s.sp.id,I s.sp.src,.slice ast s.sp.st.length cst,.slice awa s.sp.wa.length cwa,I s.sp.al,I s.sp.up,.slice ar s.rs.length cr,.slice ac s.cs.length cc]::σ)) (fun k=>s.rs.length - k) 0 aU
     ⟨Nat.zero_le _,fun j hj=>by omega,hs⟩ ?_
    rintro k w ⟨hk,hno,hs⟩
    refine .seq (.aj (.z zm (.z (zfa aZ) (.y hs (zld bQ) (.z (dc aB) (.zn fM (.bA rfl (fun hc23=>?_) (fun hc23=>?_))))))))
    ·refine .skip (nT (.seq (.block (.seq (.draw mix rfl hs fun w hs=>?_)))))
     refine .zw 0 rfl (zfa bn) ?_;refine .ys 1 rfl hs [_,_,_,_,_,_] bg aM ?_;refine .z 2 rfl (zfa aZ) ?_;refine .y 3 rfl hs bQ ?_;refine .z 4 rfl zm ?_
     obtain ⟨r,hx⟩:=nth (l:=s.rs) (k:=k) an
     refine .ixX (enc:=Rdg.c) (i:=5) hs rfl aD .none h3 rfl rfl aB aK hx da ?_;intro b31 o31 hc31
     refine .r (i:=6) hs rfl aD .none (cj (vs:=r.c) rfl eI aK hc31) ?_
     refine .E 7 hs ?_
     refine .call Tryz.call150 rfl (jW (s:=s.sp) (r:=r) hs h1 h2) ?_;rintro _ w ⟨b33,rfl,hb33,hs⟩
     refine .go (.zw 8 rfl fZ ?_);refine .D hs ?_
     refine (.cond rfl (fun hc34=>?_) (fun hc34=>?_))
     ·refine .aj (.zn zg (.ret (rB (rT (rT (rB (rT (Fin.bE lB rfl ?_))))))))
      exact ⟨H,_,HLe.refl H,rfl,.rdg hok an (fun h=>by rw [hb33.2 (h r (List.mem_of_getElem? hx))] at hc34;cases hc34),hs.out⟩
     ·refine .skip (nB (nT (.region (.z zm (.z cK (.zn zg (nT ?_)))))))
      exact ⟨k+1,.cJ rfl cq aU,⟨an,fo hno hx (hb33.1 (by simpa using hc34)),hs⟩,an⟩
    ·refine .exit (xT (xT (xB (nT (.seq (.aj (.zn zg (.block ?_))))))))
     have hrs:∀r∈s.rs,nD s.sp r:=fun r hr=>by
      obtain ⟨j,hj⟩:=List.getElem?_of_mem hr
      have:=(List.getElem?_eq_some_iff.1 hj).1
      exact hno j an r hj
     clear hno
     refine .loop (fun k:Nat=>⟨64,[],[(4,I (k:Int)),(1,Pt b1)]⟩)
      (fun k w=>k≤s.cs.length∧(∀j<k,∀y,s.cs[j]? =some y→rE y)∧St H w (.blk b1 [I s.sp.id,I s.sp.src,.slice ast s.sp.st.length cst,.slice awa s.sp.wa.length cwa,I s.sp.al,I s.sp.up,.slice ar s.rs.length cr,.slice ac s.cs.length cc]::σ)) (fun k=>s.cs.length - k) 0 aU
      ⟨Nat.zero_le _,fun j hj=>by omega,hs⟩ ?_
     rintro i w ⟨hi,hno,hs⟩
     refine .seq (.aj (.z zm (.z (zfa cH) (.y hs (zld eu) (.z (dc bu) (.zn fM (.bA rfl (fun hc39=>?_) (fun hc39=>?_))))))))
     ·refine .skip (nT (.seq (.block (.aj (.z (zfa cH) (.y hs (zld eu) (.z zm ?_)))))))
      obtain ⟨c,hx⟩:=nth (l:=s.cs) (k:=i) an
      refine .ixX (enc:=Cmp.c) hs h4 rfl rfl bu cO hx da ?_;intro b45 o45 hc45
      refine .q hs (cj (vs:=(Cmp.c c)) rfl IG cO hc45) (.o (.call Tryz.call176 rfl (nI (c:=c) hs) ?_));rintro _ w ⟨b47,rfl,hb47,hs⟩
      refine .zn fZ (.cond rfl (fun hc48=>?_) (fun hc48=>?_))
      ·refine .aj (.zn zg (.ret (rB (rT (rT (rB (rT (Fin.bE lB rfl ?_))))))))
       exact ⟨H,_,HLe.refl H,rfl,.cmp hok an hrs (fun h=>by rw [hb47.2 (h c (List.mem_of_getElem? hx))] at hc48;cases hc48),hs.out⟩
      ·refine .skip (nB (nT (.region (.z zm (.z cK (.zn zg (nT ?_)))))))
       exact ⟨i+1,.cJ rfl cq aU,⟨an,fo hno hx (hb47.1 (by simpa using hc48)),hs⟩,an⟩
     ·refine .exit (xT (xT (xB (nT (.seq (.seq (.draw mix rfl hs fun w hs=>?_)))))))
      refine .zw 0 rfl (zfa bn) ?_;refine .ys 1 rfl hs [_,_,_,_,_,_] bg aM ?_;refine .z 3 rfl (zfa aZ) ?_;refine .y 4 rfl hs bQ ?_
      refine .E 2 hs ?_
      have hcs:∀c∈s.cs,rE c:=fun c hc=>by
       obtain ⟨j,hj⟩:=List.getElem?_of_mem hc
       have:=(List.getElem?_eq_some_iff.1 hj).1
       exact hno j an c hj
      have hea:s.early:=⟨hok,an,an,hrs,hcs⟩
      have hsm:=fN hok
      have hrl:=hea.2.1
      have htl:s.cV.length≤60:=by have:=ea s.rs;unfold Srv.cV;omega
      have hll:=kL hea 6 an
      rw [s.wU] at hll
      refine .call G0 rfl (fG (s:=s.sp) hs h1 h2 ⟨an,an⟩) ?_;rintro _ w ⟨rfl,hs⟩
      refine .go (.E 5 hs ?_)
      refine .call GZ rfl (iB hs h3 an) ?_;rintro v54 w ⟨H1,hle1,hT,hs⟩
      replace hT:RTd H1 v54 s.cV:=hT
      obtain ⟨at_,ct,rfl⟩:=RTd.shape hT
      refine .go (.zw 6 rfl (dc bO) ?_);refine .z 7 rfl cK ?_;refine .z 8 rfl km ?_;refine .z 9 rfl zm ?_
      refine .gX (t':=58) rfl (fun hb58=>?_) (fun hb58=>?_)
      ·refine .F 10 rfl (.F 11 rfl (.F 12 rfl (.F 13 rfl (.zw 14 rfl zpT ?_))));refine .D hs ?_
       refine (.cT (.aj (.zn zg (.ret (rT (Fin.bE lB rfl ?_))))))
       exact ⟨H1,_,hle1,rfl,.big hea an,hs.out⟩
      ·refine .zv 10 rfl hs (Cd [_,_,_,_,_,_,_,_] aN aC) (.E 11 hs ?_)
       refine .call Tryz.call152 rfl (oa (s:=s) hs (h1.mono hle1) (h2.mono hle1) (h3.mono hle1) (h4.mono hle1) hea) ?_;rintro v60 w ⟨H2,en,hle2,hO,hs⟩
       obtain ⟨al,ll,cl,rfl,hl60⟩:=hO.shape
       rw [fa] at hl60
       refine .go (.zw 12 rfl (dc a8) ?_);refine .z 13 rfl km ?_;refine .z 14 rfl zpF ?_;refine .D hs ?_
       refine (.bA rfl (fun hc63=>?_) (fun hc63=>?_))
       ·refine .aj (.zn zg (.ret (rT (Fin.bE lB rfl ?_))))
        exact ⟨H2,_,hle1.trans hle2,rfl,.big hea an,hs.out⟩
       ·refine .skip (nT (.aj (.zn zg (.ret (Fin.bE lB rfl ?_)))))
        exact ⟨H2,_,hle1.trans hle2,rfl,.ok hea ⟨an,an⟩,hs.out⟩
theorem kn{s:Spc}{q:Wht}{vst vwa:Value}(hs:St H w σ)(h2:RI H vwa s.wa):
  Cl Tryz.prog 230 [.agg #[I q.kind,I q.st,I q.wa,I s.id,I s.src,vst,vwa,I s.al,I s.up]] w fun v w'=>v= .bool (decide (0≤q.wa∧q.wa≤(s.wa.length:Int) - 1))∧St H w' σ:=by
 obtain ⟨awa,cwa,rfl⟩:=RI.shape h2
 have l2:=(RI.len h2).2.2
 refine Cl.o Tryz.func230 Tryz.ntmps230 ag1 ?_
 refine .aj (.bx hs fun b1 w hs=>?_)
 refine .zn zg (.aj (.z (zfa dq) (.z (zfa ef) (.y hs (zld af) (.z (zfa fV) (.z (zfa bh) (.y hs (zld aq) (.z (dc ae) (.z fY (.o (.call dZ rfl (bT hs) ?_)))))))))));rintro _ w ⟨rfl,hs⟩
 refine .zn zg (.ret (Fin.bE Tryz.results230 rfl ?_))
 exact ⟨rfl,hs.out⟩
theorem l6{s:Spc}{q:Wht}{vst vwa:Value}(hs:St H w σ)(h1:RI H vst s.st):
  Cl Tryz.prog 235 [.agg #[I q.kind,I q.st,I q.wa,I s.id,I s.src,vst,vwa,I s.al,I s.up]] w fun v w'=>v= .bool (decide (0≤q.st∧q.st≤(s.st.length:Int) - 1))∧St H w' σ:=by
 obtain ⟨ast,cst,rfl⟩:=RI.shape h1
 have l1:=(RI.len h1).2.2
 refine Cl.o Tryz.func235 Tryz.ntmps235 ag1 ?_
 refine .aj (.bx hs fun b1 w hs=>?_)
 refine .zn zg (.aj (.z (zfa dq) (.z (zfa fh) (.y hs (zld af) (.z (zfa fV) (.z (zfa bV) (.y hs (zld aq) (.z (dc ae) (.z fY (.o (.call dZ rfl (bT hs) ?_)))))))))));rintro _ w ⟨rfl,hs⟩
 refine .zn zg (.ret (Fin.bE Tryz.results235 rfl ?_))
 exact ⟨rfl,hs.out⟩
theorem oX{s:Spc}{q:Wht}:gY s q↔(q.kind=1∧q.st=0∧s.isW q∧0<q.wa)∨(q.kind=2∧q.st=0∧s.isW q)∨(q.kind=3∧q.wa=0∧s.isS q)∨(q.kind=4∧s.isS q∧s.isW q):=by
 constructor
 ·intro h
  cases h with
  |litres a b c d=>exact .inl ⟨a,b,c,d⟩
  |plane a b c=>exact .inr (.inl ⟨a,b,c⟩)
  |section_ a b c=>exact .inr (.inr (.inl ⟨a,b,c⟩))
  |offset a b c=>exact .inr (.inr (.inr ⟨a,b,c⟩))
 ·rintro (⟨a,b,c,d⟩|⟨a,b,c⟩|⟨a,b,c⟩|⟨a,b,c⟩)
  ·exact .litres a b c d
  ·exact .plane a b c
  ·exact .section_ a b c
  ·exact .offset a b c
theorem Ax{s:Spc}{q:Wht}{vst vwa:Value}(hs:St H w σ)(h2:RI H vwa s.wa)(hk:q.kind=1):
  Cl Tryz.prog 229 [.agg #[I q.kind,I q.st,I q.wa,I s.id,I s.src,vst,vwa,I s.al,I s.up]] w fun v w'=>∃b:Bool,v= .bool b∧(b=true↔gY s q)∧St H w' σ:=by
 have hi:=oX (s:=s) (q:=q)
 simp only [Spc.isW,Spc.isS] at hi
 refine Cl.o Tryz.func229 Tryz.ntmps229 ag1 ?_
 refine .aj (.bx hs fun b1 w hs=>?_)
 refine .zn zg (.aj (.y hs (zls [_,_,_,_,_,_,_,_,_] tf mD) (.o (.call Tryz.call230 rfl (kn hs h2) ?_))));rintro _ w ⟨rfl,hs⟩
 refine .z zm (.bif (t':=5) rfl (fun hb5=>?_) (fun hb5=>?_))
 ·refine .T (.z (zfa dq) (.T (.z (zfa ef) (.T (.y hs (zld af) (.T (.z km (.z zpT (.z zm (.gX (t':=11) rfl (fun hb11=>?_) (fun hb11=>?_)))))))))))
  ·refine .T (.z (zfa dq) (.T (.z (zfa fh) (.T (.y hs (zld af) (.T (.z fm (.z zpT (.zn zg (.ret (Fin.bE Tryz.results229 rfl ?_)))))))))))
   exact ⟨_,rfl,by rw [hi];simp_all<;>omega,hs.out⟩
  ·refine .Fs 4 8 true (.z zpF (.zn zg (.ret (Fin.bE Tryz.results229 rfl ?_))))
   exact ⟨_,rfl,by rw [hi];simp_all<;>omega,hs.out⟩
 ·refine .Fs 4 2 true (.z zpF (.z zm (.Fs 4 8 true (.z zpF (.zn zg (.ret (Fin.bE Tryz.results229 rfl ?_)))))))
  exact ⟨_,rfl,by rw [hi];simp_all<;>omega,hs.out⟩
theorem Aw{s:Spc}{q:Wht}{vst vwa:Value}(hs:St H w σ)(h2:RI H vwa s.wa)(hk:q.kind=2):
  Cl Tryz.prog 232 [.agg #[I q.kind,I q.st,I q.wa,I s.id,I s.src,vst,vwa,I s.al,I s.up]] w fun v w'=>∃b:Bool,v= .bool b∧(b=true↔gY s q)∧St H w' σ:=by
 have hi:=oX (s:=s) (q:=q)
 simp only [Spc.isW,Spc.isS] at hi
 refine Cl.o Tryz.func232 Tryz.ntmps232 ag1 ?_
 refine .aj (.bx hs fun b1 w hs=>?_)
 refine .zn zg (.aj (.y hs (zls [_,_,_,_,_,_,_,_,_] tf mD) (.o (.call Tryz.call230 rfl (kn hs h2) ?_))));rintro _ w ⟨rfl,hs⟩
 refine .z zm (.bif (t':=5) rfl (fun hb5=>?_) (fun hb5=>?_))
 ·refine .T (.z (zfa dq) (.T (.z (zfa fh) (.T (.y hs (zld af) (.T (.z fm (.z zpT (.zn zg (.ret (Fin.bE Tryz.results232 rfl ?_)))))))))))
  exact ⟨_,rfl,by rw [hi];simp_all<;>omega,hs.out⟩
 ·refine .Fs 4 2 true (.z zpF (.zn zg (.ret (Fin.bE Tryz.results232 rfl ?_))))
  exact ⟨_,rfl,by rw [hi];simp_all<;>omega,hs.out⟩
theorem Av{s:Spc}{q:Wht}{vst vwa:Value}(hs:St H w σ)(h1:RI H vst s.st)(hk:q.kind=3):
  Cl Tryz.prog 234 [.agg #[I q.kind,I q.st,I q.wa,I s.id,I s.src,vst,vwa,I s.al,I s.up]] w fun v w'=>∃b:Bool,v= .bool b∧(b=true↔gY s q)∧St H w' σ:=by
 have hi:=oX (s:=s) (q:=q)
 simp only [Spc.isW,Spc.isS] at hi
 refine Cl.o Tryz.func234 Tryz.ntmps234 ag1 ?_
 refine .aj (.bx hs fun b1 w hs=>?_)
 refine .zn zg (.aj (.y hs (zls [_,_,_,_,_,_,_,_,_] tf mD) (.o (.call Tryz.call235 rfl (l6 hs h1) ?_))));rintro _ w ⟨rfl,hs⟩
 refine .z zm (.bif (t':=5) rfl (fun hb5=>?_) (fun hb5=>?_))
 ·refine .T (.z (zfa dq) (.T (.z (zfa ef) (.T (.y hs (zld af) (.T (.z fm (.z zpT (.zn zg (.ret (Fin.bE Tryz.results234 rfl ?_)))))))))))
  exact ⟨_,rfl,by rw [hi];simp_all<;>omega,hs.out⟩
 ·refine .Fs 4 2 true (.z zpF (.zn zg (.ret (Fin.bE Tryz.results234 rfl ?_))))
  exact ⟨_,rfl,by rw [hi];simp_all<;>omega,hs.out⟩
theorem Au{s:Spc}{q:Wht}{vst vwa:Value}(hs:St H w σ)(h1:RI H vst s.st)(h2:RI H vwa s.wa)(hk:q.kind=4):
  Cl Tryz.prog 237 [.agg #[I q.kind,I q.st,I q.wa,I s.id,I s.src,vst,vwa,I s.al,I s.up]] w fun v w'=>∃b:Bool,v= .bool b∧(b=true↔gY s q)∧St H w' σ:=by
 have hi:=oX (s:=s) (q:=q)
 simp only [Spc.isW,Spc.isS] at hi
 refine Cl.o Tryz.func237 Tryz.ntmps237 ag1 ?_
 refine .aj (.bx hs fun b1 w hs=>?_)
 refine .zn zg (.aj (.y hs (zls [_,_,_,_,_,_,_,_,_] tf mD) (.o (.call Tryz.call235 rfl (l6 hs h1) ?_))));rintro _ w ⟨rfl,hs⟩
 refine .z zm (.bif (t':=5) rfl (fun hb5=>?_) (fun hb5=>?_))
 ·refine .T (.y hs (zls [_,_,_,_,_,_,_,_,_] tf mD) (.T (.o (.call Tryz.call230 rfl (kn hs h2) ?_))));rintro _ w ⟨rfl,hs⟩
  refine .z zpT (.zn zg (.ret (Fin.bE Tryz.results237 rfl ?_)))
  exact ⟨_,rfl,by rw [hi];simp_all<;>omega,hs.out⟩
 ·refine .Fs 2 2 true (.z zpF (.zn zg (.ret (Fin.bE Tryz.results237 rfl ?_))))
  exact ⟨_,rfl,by rw [hi];simp_all<;>omega,hs.out⟩
theorem uE{s:Spc}{q:Wht}{vst vwa:Value}{i k:Nat}{u:Int}(hs:St H w σ)(h1:RI H vst s.st)(h2:RI H vwa s.wa)(hok:fA s)(hq:gY s q)(hk1:q.kind=1)(hi:i<s.st.length):
  Cl Tryz.prog 231 [.agg #[I q.kind,I q.st,I q.wa,I s.id,I s.src,vst,vwa,I s.al,I s.up],.agg #[I (i:Int),I (k:Int),I u]] w fun v w'=>∃H1,HLe H H1∧v=I (kX s q i k)∧St H1 w' σ:=by
 obtain ⟨ast,cst,rfl⟩:=RI.shape h1
 obtain ⟨awa,cwa,rfl⟩:=RI.shape h2
 have hn:=hok.wa.many
 have hcap:=(RI.len h2).2.1
 obtain ⟨_,hw1,hw2,hw3⟩:q.st=0∧0<q.wa∧0≤q.wa∧q.wa≤(s.wa.length:Int) - 1:=by
  rcases oX.1 hq with h|h|h|h
  ·exact ⟨h.2.1,h.2.2.2,h.2.2.1.1,h.2.2.1.2⟩
  all_goals omega
 obtain ⟨m,hm⟩:∃m:Nat,q.wa=m:=⟨q.wa.toNat,an⟩
 have hW:kX s q i k=if (k:Int)≤q.wa then gi (wts s.st) i*gi (wts (s.wa.take (q.wa.toNat+1))) k else 0:=by unfold kX;rw [if_pos hk1]
 have hmt:q.wa.toNat=m:=by omega
 rw [hmt] at hW
 refine Cl.o Tryz.func231 Tryz.ntmps231 ag2 ?_
 refine .aj (.bx hs fun b2 w hs=>?_)
 refine .bx hs fun b3 w hs=>?_
 refine .zn zg (.seq (.aj (.z (zfa dw) (.y hs (zld af) (.z (zfa dq) (.z (zfa ef) (.y hs (zld af) (.zn km (.bA rfl (fun hc12=>?_) (fun hc12=>?_))))))))))
 ·refine .aj (.zn zg (.ret (rT (Fin.bE Tryz.results231 rfl ?_))))
  exact ⟨H,HLe.refl H,by rw [hW,if_neg an],hs.out⟩
 ·refine .skip (nT (.seq (.draw mix rfl hs fun w hs=>?_)))
  refine .zw 0 rfl (zfa fV) ?_;refine .z 1 rfl (zfa bV) ?_;refine .y 2 rfl hs aq ?_;refine .z 3 rfl (zfa fV) ?_;refine .z 4 rfl (zfa bh) ?_;refine .y 5 rfl hs aq ?_;refine .z 6 rfl (zfa dq) ?_;refine .z 7 rfl (zfa ef) ?_;refine .y 8 rfl hs af ?_;refine .z 9 rfl cK ?_
  refine .zw 10 rfl (pv (k:=m+1) rfl rfl ae ai an an) (.E 11 hs ?_)
  have hP:fB 7 15000 (s.wa.take (m+1)):=hok.wa.take an an
  refine .call Tryz.call163 rfl (oZ hs h1 (h2.head (k:=m+1) an)) ?_;rintro _ w ⟨H1,vo,e,hle1,rfl,hGx,-,hs⟩
  obtain ⟨rfl,hG⟩:=hGx ⟨hok.st,hP⟩
  have hgl:=kN (wts s.st) (wts (s.wa.take (m+1))) s.st.length
  have hyl:(wts (s.wa.take (m+1))).length=m+1:=by rw [eY,List.length_take];omega
  have hgr:=zu (X:=wts s.st) (Y:=wts (s.wa.take (m+1))) (n:=s.st.length) hi
  have hgt:=Co (X:=wts s.st) (Y:=wts (s.wa.take (m+1))) (n:=s.st.length) (k:=k) hi an
  have hrl:=kq (wts s.st) (wts (s.wa.take (m+1))) i
  rw [←hgr] at hrl
  generalize nA (wts s.st) (wts (s.wa.take (m+1))) s.st.length=G at*
  obtain ⟨aG,cG,rfl⟩:=hG.shape
  refine .go (.zw 12 rfl zm ?_);refine .z 13 rfl zex ?_;refine .z 14 rfl zex ?_;refine .z 15 rfl zg ?_;refine .z 16 rfl zg ?_;refine .D hs ?_
  refine .seq (.draw mix rfl hs fun w hs=>?_)
  refine .zw 0 rfl zm ?_;refine .z 1 rfl (zfa dO) ?_;refine .y 2 rfl hs af ?_
  refine .ixT (i:=3) hs rfl aD .none hG rfl rfl az aA (show i<_ by omega) da ?_;intro b31 o31 a31 c31 hc31 hR31
  refine .r (i:=4) hs rfl aD .none (aJ rfl aq hc31) ?_
  refine .zw 5 rfl (zfa dw) ?_;refine .y 6 rfl hs af ?_
  refine .ixX (enc:=fun x=>[I x]) (i:=7) hs rfl aD .none hR31 rfl rfl ae ai (bB (l:=(gr G i)) (i:=k) an) da ?_;intro b35 o35 hc35;replace hc35:=bL.one hc35
  refine .r (i:=8) hs rfl aD .none (aJ rfl af hc35) ?_
  refine .zw 9 rfl zg ?_;refine .D hs ?_
  refine .ret (Fin.bE Tryz.results231 rfl ?_)
  exact ⟨H1,hle1,by rw [hW,if_pos an,←hgt];rfl,hs.out⟩
theorem wc{s:Spc}{q:Wht}{vst vwa:Value}{i k:Nat}{u:Int}(hs:St H w σ)(h1:RI H vst s.st)(hok:fA s)(hk1:q.kind=2)(hi:i<s.st.length):
  Cl Tryz.prog 233 [.agg #[I q.kind,I q.st,I q.wa,I s.id,I s.src,vst,vwa,I s.al,I s.up],.agg #[I (i:Int),I (k:Int),I u]] w fun v w'=>∃H1,HLe H H1∧v=I (kX s q i k)∧St H1 w' σ:=by
 have hW:kX s q i k=if (k:Int)=q.wa then gi (wts s.st) i else 0:=by unfold kX;rw [if_neg an,if_pos hk1]
 have hl:=eY s.st
 refine Cl.o Tryz.func233 Tryz.ntmps233 ag2 ?_
 refine .aj (.bx hs fun b2 w hs=>?_)
 refine .bx hs fun b3 w hs=>?_
 refine .zn zg (.seq (.aj (.z (zfa dw) (.y hs (zld af) (.z (zfa dq) (.z (zfa ef) (.y hs (zld af) (.zn gE (.dV rfl (fun hc12=>?_) (fun hc12=>?_))))))))))
 ·refine .aj (.zn zg (.ret (rT (Fin.bE Tryz.results233 rfl ?_))))
  exact ⟨H,HLe.refl H,by rw [hW,if_neg an],hs.out⟩
 ·refine .skip (nT (.aj (.z (zfa fV) (.z (zfa bV) (.y hs (zld aq) (.o (.call Tryz.call275 rfl (mG hs h1) ?_)))))));rintro _ w ⟨H1,vo,e,hle1,rfl,hGx,hs⟩
  obtain ⟨rfl,hG⟩:=hGx hok.st
  obtain ⟨aG,cG,rfl⟩:=RI.shape hG
  refine .z zm (.z zex (.z zex (.z zg (.zn zg (.aj (.z zm (.z (zfa dO) (.y hs (zld af) (.ixY hs hG rfl rfl ae ai (bB (l:=(wts s.st)) (i:=i) an) da ?_)))))))));intro b23 o23 hc23
  refine .q hs (aJ rfl af hc23) (.zn zg (.ret (Fin.bE Tryz.results233 rfl ?_)))
  exact ⟨H1,hle1,by rw [hW,if_pos an],hs.out⟩
theorem ti{s:Spc}{q:Wht}{vst vwa:Value}{i k:Nat}{u:Int}(hs:St H w σ)(h2:RI H vwa s.wa)(hok:fA s)(hk1:q.kind=3)(hk:k<s.wa.length):
  Cl Tryz.prog 236 [.agg #[I q.kind,I q.st,I q.wa,I s.id,I s.src,vst,vwa,I s.al,I s.up],.agg #[I (i:Int),I (k:Int),I u]] w fun v w'=>∃H1,HLe H H1∧v=I (kX s q i k)∧St H1 w' σ:=by
 have hW:kX s q i k=if (i:Int)=q.st then gi (wts s.wa) k else 0:=by unfold kX;rw [if_neg an,if_neg an,if_pos hk1]
 have hl:=eY s.wa
 refine Cl.o Tryz.func236 Tryz.ntmps236 ag2 ?_
 refine .aj (.bx hs fun b2 w hs=>?_)
 refine .bx hs fun b3 w hs=>?_
 refine .zn zg (.seq (.aj (.z (zfa dO) (.y hs (zld af) (.z (zfa dq) (.z (zfa fh) (.y hs (zld af) (.zn gE (.dV rfl (fun hc12=>?_) (fun hc12=>?_))))))))))
 ·refine .aj (.zn zg (.ret (rT (Fin.bE Tryz.results236 rfl ?_))))
  exact ⟨H,HLe.refl H,by rw [hW,if_neg an],hs.out⟩
 ·refine .skip (nT (.aj (.z (zfa fV) (.z (zfa bh) (.y hs (zld aq) (.o (.call Tryz.call275 rfl (mG hs h2) ?_)))))));rintro _ w ⟨H1,vo,e,hle1,rfl,hGx,hs⟩
  obtain ⟨rfl,hG⟩:=hGx (Bc hok)
  obtain ⟨aG,cG,rfl⟩:=RI.shape hG
  refine .z zm (.z zex (.z zex (.z zg (.zn zg (.aj (.z zm (.z (zfa dw) (.y hs (zld af) (.ixY hs hG rfl rfl ae ai (bB (l:=(wts s.wa)) (i:=k) an) da ?_)))))))));intro b23 o23 hc23
  refine .q hs (aJ rfl af hc23) (.zn zg (.ret (Fin.bE Tryz.results236 rfl ?_)))
  exact ⟨H1,hle1,by rw [hW,if_pos an],hs.out⟩
theorem uD{s:Spc}{q:Wht}{vst vwa:Value}{i k:Nat}{u:Int}(hs:St H w σ)(hk1:q.kind=4):
  Cl Tryz.prog 238 [.agg #[I q.kind,I q.st,I q.wa,I s.id,I s.src,vst,vwa,I s.al,I s.up],.agg #[I (i:Int),I (k:Int),I u]] w fun v w'=>∃H1,HLe H H1∧v=I (kX s q i k)∧St H1 w' σ:=by
 have hW:kX s q i k=if (i:Int)=q.st∧(k:Int)=q.wa then 1 else 0:=by unfold kX;rw [if_neg an,if_neg an,if_neg an]
 refine Cl.o Tryz.func238 Tryz.ntmps238 ag2 ?_
 refine .aj (.bx hs fun b2 w hs=>?_)
 refine .bx hs fun b3 w hs=>?_
 refine .zn zg (.seq (.aj (.z (zfa dO) (.y hs (zld af) (.z (zfa dq) (.z (zfa fh) (.y hs (zld af) (.z gE (.z zm (.AS (t':=11) rfl (fun hb11=>?_) (fun hb11=>?_)))))))))))
 ·refine .Fs 6 6 false (.zn zpT (.cT (.aj (.zn zg (.ret (rT (Fin.bE Tryz.results238 rfl ?_)))))))
  first
  |exact ⟨H,HLe.refl H,by rw [hW,if_neg an],hs.out⟩
  |exact ⟨H,HLe.refl H,by rw [hW,if_pos an],hs.out⟩
 ·refine .T (.z (zfa dw) (.T (.y hs (zld af) (.T (.z (zfa dq) (.T (.z (zfa ef) (.T (.y hs (zld af) (.T (.z gE (.zn zpF (.dV rfl (fun hc18=>?_) (fun hc18=>?_))))))))))))))
  ·refine .aj (.zn zg (.ret (rT (Fin.bE Tryz.results238 rfl ?_))))
   first
   |exact ⟨H,HLe.refl H,by rw [hW,if_neg an],hs.out⟩
   |exact ⟨H,HLe.refl H,by rw [hW,if_pos an],hs.out⟩
  ·refine .skip (nT (.aj (.zn zg (.ret (Fin.bE Tryz.results238 rfl ?_)))))
   first
   |exact ⟨H,HLe.refl H,by rw [hW,if_neg an],hs.out⟩
   |exact ⟨H,HLe.refl H,by rw [hW,if_pos an],hs.out⟩
def CO(k:Int):Nat:=if k=1 then 229 else if k=2 then 232 else if k=3 then 234 else 237
def CJ(k:Int):Nat:=if k=1 then 231 else if k=2 then 233 else if k=3 then 236 else 238
def Cg(k:Int):Value:= .agg #[.func (.func (CO k)) #[] #[],.func (.func (CJ k)) #[] #[],I (oy ⟨k,0,0⟩)]
def Iw:List MapEntry:=[{key:=I 1,val:=Cg 1,born:=0},{key:=I 2,val:=Cg 2,born:=1},{key:=I 3,val:=Cg 3,born:=2},{key:=I 4,val:=Cg 4,born:=3}]
theorem mK(hs:St H w σ):
  Cl Tryz.prog 187 [] w fun v w'=>∃b,v= .map (some b)∧St H w' (.obj b (.map Iw.toArray 4)::σ):=by
 refine Cl.of Tryz.func187 rfl Tryz.ntmps187 cq (zK) (.aj (.zn zg (.aj (.o (.makeMap hs fun b1 w hs=>?_)))))
 refine .z (zbd [_,_,_] jJ) (.o (.insert (es:=[]) hs rfl rfl rfl fy bM rfl fun w hs=>?_))
 refine .z (zbd [_,_,_] jJ) (.o (.insert (es:=[{key:=I 1,val:=Cg 1,born:=0}]) hs rfl rfl rfl fy bM rfl fun w hs=>?_))
 refine .z (zbd [_,_,_] jJ) (.o (.insert (es:=[{key:=I 1,val:=Cg 1,born:=0},{key:=I 2,val:=Cg 2,born:=1}]) hs rfl rfl rfl fy bM rfl fun w hs=>?_))
 refine .z (zbd [_,_,_] jJ) (.o (.insert (es:=[{key:=I 1,val:=Cg 1,born:=0},{key:=I 2,val:=Cg 2,born:=1},{key:=I 3,val:=Cg 3,born:=2}]) hs rfl rfl rfl fy bM rfl fun w hs=>?_))
 refine .z zm (.zn zg (.ret (Fin.bE Tryz.results187 rfl ?_)))
 exact ⟨b1,rfl,hs⟩
def lF1(k:Int):Value:=if 1≤k∧k≤4 then .func (.func (CO k)) #[] #[] else .nilFunc
def lF2(k:Int):Value:=if 1≤k∧k≤4 then .func (.func (CJ k)) #[] #[] else .nilFunc
def lD(k:Int):Int:=if 1≤k∧k≤4 then oy ⟨k,0,0⟩ else 0
theorem Cf(k:Int):[lF1 k,lF2 k,I (lD k)].all Value.oneCell'=true:=by
 unfold lF1 lF2;split<;>rfl
theorem D6{H:cD}{s:FS}{x y:Operand}{b:Nat}(k:Int)(hx:FS.ev s x=some (.map (some b)))(hy:FS.ev s y=some (I k)):
  QJ Tryz.prog H [.obj b (.map Iw.toArray 4)] s (.lookup 238 x y true) (.tuple #[.agg #[lF1 k,lF2 k,I (lD k)],.bool (decide (1≤k∧k≤4))]):=by
 by_cases h:1≤k∧k≤4
 ·rw [decide_eq_true h]
  have h4:k=1∨k=2∨k=3∨k=4:=by omega
  rcases h4 with rfl|rfl|rfl|rfl
  ·exact B3 (v:=Cg 1) (j:=0) hx hy fy bM rfl .here
  ·exact B3 (v:=Cg 2) (j:=1) hx hy fy bM rfl .here
  ·exact B3 (v:=Cg 3) (j:=2) hx hy fy bM rfl .here
  ·exact B3 (v:=Cg 4) (j:=3) hx hy fy bM rfl .here
 ·rw [decide_eq_false h]
  have e1:lF1 k= .nilFunc:=if_neg h
  have e2:lF2 k= .nilFunc:=if_neg h
  have e3:lD k=0:=if_neg h
  rw [e1,e2,e3]
  refine HF (es:=Iw) (c:=4) hx hy fy bM Kg ?_ .here
  have n1:(k==1)=false:=by simp only [beq_eq_false_iff_ne];omega
  have n2:(k==2)=false:=by simp only [beq_eq_false_iff_ne];omega
  have n3:(k==3)=false:=by simp only [beq_eq_false_iff_ne];omega
  have n4:(k==4)=false:=by simp only [beq_eq_false_iff_ne];omega
  simp [Instr.findNow,Instr.sameNow,Iw,n1,n2,n3,n4]
theorem FN(k:Int):∀args w,(callFunc (CO k) args).run Tryz.prog w= .ok (.enter (CO k) args) w:=by
 unfold CO
 split
 ·exact Tryz.call229
 ·split
  ·exact Tryz.call232
  ·split
   ·exact Tryz.call234
   ·exact Tryz.call237
theorem Fy(k:Int):∀args w,(callFunc (CJ k) args).run Tryz.prog w= .ok (.enter (CJ k) args) w:=by
 unfold CJ
 split
 ·exact Tryz.call231
 ·split
  ·exact Tryz.call233
  ·split
   ·exact Tryz.call236
   ·exact Tryz.call238
theorem FM{s:Spc}{q:Wht}{vst vwa:Value}(hs:St H w σ)(h1:RI H vst s.st)(h2:RI H vwa s.wa)(hk:1≤q.kind∧q.kind≤4):
  Cl Tryz.prog (CO q.kind) [.agg #[I q.kind,I q.st,I q.wa,I s.id,I s.src,vst,vwa,I s.al,I s.up]] w fun v w'=>∃b:Bool,v= .bool b∧(b=true↔gY s q)∧St H w' σ:=by
 unfold CO
 split
 ·exact Ax hs h2 df
 ·split
  ·exact Aw hs h2 df
  ·split
   ·exact Av hs h1 df
   ·exact Au hs h1 h2 an
theorem Fx{s:Spc}{q:Wht}{vst vwa:Value}{i k:Nat}{u:Int}(hs:St H w σ)(h1:RI H vst s.st)(h2:RI H vwa s.wa)(hok:fA s)(hq:gY s q)(hk:1≤q.kind∧q.kind≤4)(hi:i<s.st.length)(hkw:k<s.wa.length):
  Cl Tryz.prog (CJ q.kind) [.agg #[I q.kind,I q.st,I q.wa,I s.id,I s.src,vst,vwa,I s.al,I s.up],.agg #[I (i:Int),I (k:Int),I u]] w fun v w'=>∃H1,HLe H H1∧v=I (kX s q i k)∧St H1 w' σ:=by
 unfold CJ
 split
 ·exact uE hs h1 h2 hok hq df hi
 ·split
  ·exact wc hs h1 hok df hi
  ·split
   ·exact ti hs h2 hok df hkw
   ·exact uD hs an
theorem Jd{q:Wht}(h:1≤q.kind∧q.kind≤4):lD q.kind=oy q:=by
 unfold lD;rw [if_pos h];rfl
theorem Fv{s:Spc}{q:Wht}(h:gY s q):1≤q.kind∧q.kind≤4:=by
 rcases oX.1 h with h|h|h|h<;>omega
set_option maxHeartbeats 1000000 in
theorem lH{s:Spc}{q:Wht}{vst vwa:Value}(hs:St H w σ)(h1:RI H vst s.st)(h2:RI H vwa s.wa)(hok:fA s):
  Cl Tryz.prog 130 [.agg #[I s.id,I s.src,vst,vwa,I s.al,I s.up],.agg #[I q.kind,I q.st,I q.wa]] w fun u w'=>∃H1 vl L d b en,HLe H H1∧u= .tuple #[vl,I d,.bool b]∧cZ 1 vl (Is L) en∧((b=true∧gY s q∧L=kE s q∧d=oy q)∨(b=false∧¬gY s q∧L=[]∧d=0))∧St H1 w' (en::σ):=by
 have hsm:=fN hok
 obtain ⟨ast,cst,rfl⟩:=RI.shape h1
 obtain ⟨awa,cwa,rfl⟩:=RI.shape h2
 refine Cl.o Tryz.func130 Tryz.ntmps130 ag2 ?_
 refine .aj (.bx hs fun b2 w hs=>?_)
 refine .bx hs fun b3 w hs=>?_
 refine .z zg (.z zg (.zn zg (.cut (fun fs w=>∃b7,ke fs ⟨46,[],[(8,.bool (decide (1≤q.kind∧q.kind≤4))),(7,Pt b7),(2,Pt b2),(3,Pt b3)]⟩∧St H w (.blk b7 [lF1 q.kind,lF2 q.kind,I (lD q.kind)]:: .blk b3 [I q.kind,I q.st,I q.wa]:: .blk b2 [I s.id,I s.src,(.slice ast s.st.length cst),(.slice awa s.wa.length cwa),I s.al,I s.up]::σ)) ?_ ?_)))
 ·refine .draw mix rfl hs fun w hs=>?_
  refine .zw 1 rfl (zfa nN) ?_;refine .y 2 rfl hs af ?_
  refine .e2 (i:=0) (j:=7) aD rfl rfl rfl rfl .none .none hs ?_ ?_
  ·refine .call Tryz.call187 rfl (mK hs) ?_;rintro _ w ⟨b13,rfl,hs⟩
   refine .go (.q (i:=3) [.obj b13 (.map Iw.toArray 4)] rfl aD .none (D6 (H:= .bot) q.kind rfl rfl) ?_)
   refine .zw 4 rfl zm ?_;refine .z 5 rfl zex ?_;refine .z 6 rfl zex ?_
   refine .E 7 hs ?_
   refine .alloc hs Kg rfl ?_;intro b7 w hs
   refine .go (.E 8 hs ?_)
   refine .aP (vs:=[lF1 q.kind,lF2 q.kind,I (lD q.kind)]) hs rfl rfl Tryz.sizeOf236 ?_ (hv:=Cf _);intro w hs
   refine .go (.zw 9 rfl zg ?_);refine .D hs ?_
   exact nT ⟨b7,aU,hs.sb⟩
  ·refine .alloc hs Kg rfl ?_;intro b7 w hs
   refine .go (.E 0 hs ?_)
   refine .call Tryz.call187 rfl (mK hs) ?_;rintro _ w ⟨b13,rfl,hs⟩
   refine .go (.q (i:=3) [.obj b13 (.map Iw.toArray 4)] rfl aD .none (D6 (H:= .bot) q.kind rfl rfl) ?_)
   refine .zw 4 rfl zm ?_;refine .z 5 rfl zex ?_;refine .z 6 rfl zex ?_
   refine .E 8 hs ?_
   refine .aP (vs:=[lF1 q.kind,lF2 q.kind,I (lD q.kind)]) hs rfl rfl Tryz.sizeOf236 ?_ (hv:=Cf _);intro w hs
   refine .go (.zw 9 rfl zg ?_);refine .D hs ?_
   exact nT ⟨b7,aU,hs.sb⟩
 ·rintro fs w ⟨b7,hfs,hs⟩
  refine WE.sub ?_ hfs
  refine .aj (.y hs (zls [_,_,_] lK gx) (.y hs (zls [_,_,_,_,_,_] bg aM) (.z (zbd (vs:=[(0,.agg #[I q.kind,I q.st,I q.wa]),(1,.agg #[I s.id,I s.src,(.slice ast s.st.length cst),(.slice awa s.wa.length cwa),I s.al,I s.up])]) [I q.kind,I q.st,I q.wa,I s.id,I s.src,(.slice ast s.st.length cst),(.slice awa s.wa.length cwa),I s.al,I s.up] vj rfl aD) (.o (.alloc hs Tryz.zeroValue241 rfl fun b9 w hs=>?_)))))
  refine .o (.aP (vs:=[_,_,_,_,_,_,_,_,_]) hs rfl rfl mD fun w hs=>?_)
  refine .nil (.seq (.aj (.z zm (.z fZ (.z zm (.bif (t':=24) rfl (fun hb24=>?_) (fun hb24=>?_)))))))
  ·refine .Fs 5 2 false (.zn zpT (.cT (.aj (.z zg (.z zg (.zn zg (.ret (rT (?_)))))))))
   have hn:¬gY s q:=fun h=>by have:=Fv h;simp [this] at hb24
   exact Fin.iM [] [] hs fun w hs=>⟨_,results3 Tryz.results130 rfl rfl rfl,H,_,[],_,_,.nul,HLe.refl H,rfl,.nil 1 none,.inr ⟨rfl,hn,rfl,rfl⟩,hs.out.nul⟩
  ·refine .T ?_
   have hk:1≤q.kind∧q.kind≤4:=by simpa using hb24
   rw [show lF1 q.kind= .func (.func (CO q.kind)) #[] #[] from if_pos hk,show lF2 q.kind= .func (.func (CJ q.kind)) #[] #[] from if_pos hk,Jd hk] at hs
   refine .z (zfa tT) (.T (.y hs (zld Tryz.isAgg233) (.T (.y hs (zls [_,_,_,_,_,_,_,_,_] tf mD) (.T (.o (.qs (first:=[]) (cap:=[]) rfl rfl (FN q.kind) (FM (s:=s) hs h1 h2 hk) ?_)))))));rintro _ w ⟨b28,rfl,hb28,hs⟩
   refine .T (.z fZ (.zn zpF (.cond rfl (fun hc30=>?_) (fun hc30=>?_))))
   ·refine .aj (.z zg (.z zg (.zn zg (.ret (rT (?_))))))
    have hn:¬gY s q:=fun h=>by rw [hb28.2 h] at hc30;cases hc30
    exact Fin.iM [] [] hs fun w hs=>⟨_,results3 Tryz.results130 rfl rfl rfl,H,_,[],_,_,.nul,HLe.refl H,rfl,.nil 1 none,.inr ⟨rfl,hn,rfl,rfl⟩,hs.out.nul⟩
   ·refine .skip (nT (.aj (.o (.buildSlice (cells:=[_]) hs db rfl rfl fun b31 w hs=>?_))))
    refine .o (.alloc hs ee rfl fun b10 w hs=>?_)
    refine .o (.store hs rfl rfl aA fun w hs=>?_)
    refine .nil (.seq (.aj (.y hs (zls [_,_,_,_,_,_] bg aM) ?_)))
    have hq:gY s q:=hb28.1 (by simpa using hc30)
    refine .o (.call Dm rfl (gG (s:=s) hs h1 h2 ⟨an,an⟩) ?_);rintro _ w ⟨H1,ba,hle1,rfl,hit,hs⟩
    have hwl:=gd s q
    refine .nil (.block ?_)
    refine .rangeFunc (gf:=188) (cap:=[Pt ba]) (xs:=yI s) (σb:=[.blk b10 [.slice (some ⟨b31,0,none⟩) 1 1],.blk b31 (Is [0]),.blk b7 [.func (.func (CO q.kind)) #[] #[],.func (.func (CJ q.kind)) #[] #[],I (oy q)],.blk b9 [I q.kind,I q.st,I q.wa,I s.id,I s.src,(.slice ast s.st.length cst),(.slice awa s.wa.length cwa),I s.al,I s.up]]) (σf:=σ) (hs.sb) trivial rfl hit Dl (fun x hx=>by
      simp only [yI,List.mem_map] at hx
      obtain ⟨j,_,rfl⟩:=hx;rfl) rfl
     (I:=fun p H' σb=>∃vo en,σb=[.blk b10 [vo],en,.blk b7 [.func (.func (CO q.kind)) #[] #[],.func (.func (CJ q.kind)) #[] #[],I (oy q)],.blk b9 [I q.kind,I q.st,I q.wa,I s.id,I s.src,(.slice ast s.st.length cst),(.slice awa s.wa.length cwa),I s.al,I s.up]]∧cZ 1 vo (Is ((kE s q).take (p+1))) en) (Ix:=fun _ _ _=>False)
     (fun j _ _ σ g1 g2=>g2) (fun _ _ _ _ _ h=>h) ⟨_,_,rfl,.full rfl⟩ ?_ ?_ (fun D c H' σb w _ h _=>h.elim)
    ·rintro ly p hp H2 σb2 σf2 w hle2 ⟨vo,en,rfl,hO⟩ hs ⟨rr,hrr⟩
     have hpm:p<s.many:=by rw [eQ] at hp;exact hp
     have hin:p/s.wa.length<s.st.length:=Nat.div_lt_of_lt_mul (by rw [Nat.mul_comm];exact hpm)
     have hkm:=Nat.mod_lt p hsm.2.2.1
     have hws:=wb s q hpm
     have hget:(kE s q)[p+1]? =some (kX s q (p/s.wa.length) (p%s.wa.length)):=by rw [←hws];exact bB an
     rw [nQ hp]
     obtain ⟨al,ll,cl,rfl,hll⟩:=hO.shape
     generalize p/s.wa.length=i at*
     generalize p%s.wa.length=k at*
     refine .region (.o (.alloc hs lX rfl fun b11 w hs=>?_))
     refine .o (.aP (vs:=[_,_,_]) hs rfl rfl qz fun w hs=>?_)
     refine .nil (nT (⟨H2,[.blk b11 [I (i:Int),I (k:Int),I ((p+1:Nat):Int)],.blk b10 [Value.slice al ll cl],en,.blk b7 [.func (.func (CO q.kind)) #[] #[],.func (.func (CJ q.kind)) #[] #[],I (oy q)],.blk b9 [I q.kind,I q.st,I q.wa,I s.id,I s.src,(.slice ast s.st.length cst),(.slice awa s.wa.length cwa),I s.al,I s.up]],HLe.refl _,hs,?_⟩));rintro w σf4 - hs
     refine .block (.draw mix rfl hs fun w hs=>?_)
     refine .y 0 rfl hs aq ?_;refine .z 1 rfl (zfa tS) ?_
     refine .zv 2 rfl hs (nx Tryz.isAgg234) (.ys 3 rfl hs [_,_,_,_,_,_,_,_,_] tf mD ?_);refine .ys 4 rfl hs [_,_,_] Tryz.isAgg190 qz ?_
     refine .E 5 hs ?_
     refine .qs (first:=[]) (cap:=[]) rfl rfl (Fy q.kind) (Fx (s:=s) (q:=q) (i:=i) (k:=k) hs (h1.mono (hle1.trans hle2)) (h2.mono (hle1.trans hle2)) hok hq hk hin hkm) ?_;rintro _ w ⟨H3,hle3,rfl,hs⟩
     refine .go (.E 6 hs ?_)
     refine .buildSlice (cells:=[_]) hs db rfl rfl ?_;intro b41 w hs
     refine .go (.E 7 hs ?_)
     refine .append (ys:=Is [kX s q i k]) hs cM rfl rfl hO (.own .here rfl rfl) (iL _) (fun l h=>by simp at h;omega) ?_;intro v42 en42 w hO2 hs
     rw [show Is ((kE s q).take (p+1))++Is [kX s q i k]=Is ((kE s q).take (p+1+1)) by rw [dP hget];simp [Is]] at hO2
     obtain ⟨a42,l42,c42,rfl,h42⟩:=hO2.shape
     refine .go (.E 8 hs ?_)
     refine .store hs rfl rfl aA ?_;intro w hs
     refine .go (.D hs (nB ?_))
     exact ⟨H3,[.blk b10 [.slice a42 l42 c42],en42,.blk b7 [.func (.func (CO q.kind)) #[] #[],.func (.func (CJ q.kind)) #[] #[],I (oy q)],.blk b9 [I q.kind,I q.st,I q.wa,I s.id,I s.src,(.slice ast s.st.length cst),(.slice awa s.wa.length cwa),I s.al,I s.up]],hle3,(hs.sb:St H3 w (.blk b10 _::en42:: .blk b7 _:: .blk b9 _::σf4)),_,_,rfl,hO2⟩
    ·rintro D H2 σb2 w hle2 ⟨vo,en,rfl,hO⟩ hs
     rw [eQ,←hwl,List.take_length] at hO
     replace hs:St H2 w (.obj D (.deferred (some [])):: .blk b10 [vo]::en:: .blk b7 [.func (.func (CO q.kind)) #[] #[],.func (.func (CJ q.kind)) #[] #[],I (oy q)]:: .blk b9 [I q.kind,I q.st,I q.wa,I s.id,I s.src,(.slice ast s.st.length cst),(.slice awa s.wa.length cwa),I s.al,I s.up]::σ):=hs
     obtain ⟨al,ll,cl,rfl,hll⟩:=hO.shape
     refine nB (nT (.seq (.draw mix rfl hs fun w hs=>?_)))
     refine .y 0 rfl hs aq ?_;refine .z 1 rfl (zfa tR) ?_;refine .y 2 rfl hs af ?_;refine .z 3 rfl zg ?_;refine .z 4 rfl zg ?_;refine .z 5 rfl zg ?_;refine .D hs ?_
     refine .ret ?_
     exact Fin.iM [D] [] hs fun w hs=>⟨_,results3 Tryz.results130 rfl rfl rfl,H2,_,_,_,_,en,hle1.trans hle2,rfl,hO,.inl ⟨rfl,hq,rfl,rfl⟩,hs.sb⟩
theorem kA{a d:Int}(hs:St H w σ)(hd:1≤d)(ha: -4608000000000000000≤a∧a≤4608000000000000000):
  Cl Tryz.prog 132 [I a,I d] w fun v w'=>v=I (a/d)∧St H w' σ:=by
 have hq: -4608000000000000000≤a.tdiv d∧a.tdiv d≤4608000000000000000:=by
  have h1:=qb (n:=a) (d:=d) an
  have h2:a/d≤4608000000000000000:=Int.ediv_le_of_le_mul an (by
   have:=Int.mul_le_mul_of_nonneg_left hd (show (0:Int)≤4608000000000000000 by omega);omega)
  have h3: -4608000000000000000≤a/d:=Int.le_ediv_of_mul_le an (by
   have:=Int.mul_le_mul_of_nonneg_left hd (show (0:Int)≤4608000000000000000 by omega);omega)
  by_cases h0:0≤a
  ·rw [Int.tdiv_eq_ediv_of_nonneg h0];omega
  ·split at h1
   ·have:a/d<0:=Int.ediv_neg_of_neg_of_pos an an
    omega
   ·omega
 have hfl:=qb (n:=a) (d:=d) an
 refine Cl.o Tryz.func132 Tryz.ntmps132 ag2 ?_
 refine .aj (.zn zg (.aj (.z zm (.z zm (.q hs (uu rfl rfl an ⟨an,an⟩) (.zn zg (.seq (.aj (.z zm (.z zm (.z A4 (.zn fM (.bA rfl (fun hc12=>?_) (fun hc12=>?_))))))))))))))
 ·refine .region (.z zm (.z fY (.zn zg (nT (.aj (.z zm (.zn zg (.ret (Fin.bE Tryz.results132 rfl ?_)))))))))
  rw [if_pos hc12] at hfl
  exact ⟨by rw [hfl],hs⟩
 ·refine .skip (nT (.aj (.z zm (.zn zg (.ret (Fin.bE Tryz.results132 rfl ?_))))))
  rw [if_neg hc12,Int.sub_zero] at hfl
  exact ⟨by rw [hfl],hs⟩
theorem re{s:Srv}{vst vwa vr vc:Value}(hs:St H w σ)(h1:RI H vst s.sp.st)(h2:RI H vwa s.sp.wa)(h3:RRd H vr s.rs)(h4:RCm H vc s.cs)(hok:eW s):
  Cl Tryz.prog 178 [.agg #[I s.sp.id,I s.sp.src,vst,vwa,I s.sp.al,I s.sp.up,vr,vc]] w fun u w'=>∃H1,∃b:Bool,HLe H H1∧u= .bool b∧(b=true↔s.sys.Sound)∧St H1 w' σ:=by
 refine Cl.o Tryz.func178 Tryz.ntmps178 ag1 ?_
 refine .aj (.bx hs fun b1 w hs=>?_)
 refine .zn zg (.aj (.y hs (zls [_,_,_,_,_,_,_,_] aN aC) (.o (.call Kh rfl (gg (s:=s) hs h1 h2 h3 h4 hok.early) ?_))));rintro v7 w ⟨H1,hle1,hS,hs⟩
 refine .o (.call Tryz.call221 rfl (vf (s:=s.sys) hs hS) ?_);rintro _ w ⟨H2,vx,xs,e,hle2,rfl,rx,hC,hs⟩
 obtain ⟨ax,cx,rfl⟩:=RI.shape rx
 have hchk:s.sys.check=0:=s.sys.dU.2 hok.sys
 obtain rfl:e=0:=by
  cases hC with
  |bad h=>exact (h hchk).elim
  |sound=>rfl
  |chain=>rfl
 have hiff:=hC.DN
 refine .z zm (.z zex (.z zex (.z zg (.zn zg (.aj (.z zm (.z fm (.z zm (.gX (t':=13) rfl (fun hb13=>?_) (fun hb13=>?_))))))))))
 ·refine .T (.z zm (.T (.z (dc ae) (.T (.z fm (.z zpT (.zn zg (.ret (Fin.bE Tryz.results178 rfl ?_)))))))))
  first
  |exact ⟨H2,_,hle1.trans hle2,rfl,by rw [←hiff,decide_eq_true_eq];exact ⟨fun h=>List.length_eq_zero_iff.1 an,fun h=>by rw [h];rfl⟩,hs.out⟩
  |exact (hb13 rfl).elim
 ·refine .Fs 3 2 true (.z zpF (.zn zg (.ret (Fin.bE Tryz.results178 rfl ?_))))
  first
  |exact ⟨H2,_,hle1.trans hle2,rfl,by rw [←hiff,decide_eq_true_eq];exact ⟨fun h=>List.length_eq_zero_iff.1 an,fun h=>by rw [h];rfl⟩,hs.out⟩
  |exact (hb13 rfl).elim
theorem CB(L:List Int)(j:Nat):L++List.replicate j 0++[0]=L++List.replicate (j+1) 0:=by
 rw [List.append_assoc,←List.replicate_succ']
set_option maxHeartbeats 1000000 in
theorem uW{s:Srv}{q:Wht}{vst vwa vr vc:Value}(hs:St H w σ)(h1:RI H vst s.sp.st)(h2:RI H vwa s.sp.wa)(h3:RRd H vr s.rs)(h4:RCm H vc s.cs)(hok:eW s):
  Cl Tryz.prog 177 [.agg #[I s.sp.id,I s.sp.src,vst,vwa,I s.sp.al,I s.sp.up,vr,vc],.agg #[I q.kind,I q.st,I q.wa]] w fun u w'=>∃H1 ul vw L d b,HLe H H1∧u= .tuple #[.agg #[I s.sys.many,ul,vw,I d],.bool b]∧RL H1 ul s.dk∧RI H1 vw L∧L.length=s.sys.n∧((b=true∧gY s.sp q∧L=s.w q∧d=oy q)∨(b=false∧¬gY s.sp q))∧St H1 w' σ:=by
 have hn:=yZ s
 have hm:=hok.many
 have hsm:s.sys.many+1=(s.sys.n:Int):=by rw [hn];show ((s.sp.many+s.cV.length:Nat):Int)+1=_;omega
 refine Cl.o Tryz.func177 Tryz.ntmps177 ag2 ?_
 refine .aj (.bx hs fun b2 w hs=>?_)
 refine .bx hs fun b3 w hs=>?_
 refine .o (.alloc hs zY rfl fun b4 w hs=>?_)
 refine .zn zg (.aj (.y hs (zls [_,_,_,_,_,_,_,_] aN aC) (.o (.call Kh rfl (gg (s:=s) hs h1 h2 h3 h4 hok.early) ?_))));rintro _ w ⟨H1,hle1,⟨ul,rfl,hL⟩,hs⟩
 obtain ⟨al,cl,rfl⟩:=RL.shape hL
 refine .o (.alloc hs dD rfl fun b6 w hs=>?_)
 refine .o (.aP (vs:=[_,_]) hs rfl rfl aI fun w hs=>?_)
 refine .nil (.aj (.z (zfa bn) (.y hs (zls [_,_,_,_,_,_] bg aM) (.y hs (zls [_,_,_] lK gx) (.o (.call Tryz.call130 rfl (lH (s:=s.sp) (q:=q) hs (h1.mono hle1) (h2.mono hle1) hok.early.1) ?_))))));rintro _ w ⟨H2,vl,L0,d,b,en,hle2,rfl,hO,hcase,hs⟩
 have hL0:L0.length≤s.sys.n:=by
  rcases hcase with ⟨_,_,rfl,_⟩|⟨_,_,rfl,_⟩
  ·rw [gd,hn];omega
  ·simp
 have hle02:=hle1.trans hle2
 refine .z zm (.z zex (.z zex (.z zex (.z zg (.z zg (.zn zg (.seq (.block ?_))))))))
 refine .loop (fun p:Nat×Value=>⟨34,[],[(7,p.2),(8,I d),(9,.bool b),(6,Pt b6),(4,Pt b4)]⟩)
  (fun p w=>L0.length+p.1≤s.sys.n∧∃en,cZ 1 p.2 (Is (L0++List.replicate p.1 0)) en∧St H2 w (en:: .blk b6 [I s.sys.many,.slice al s.dk.length cl]:: .blk b4 [I 0,.slice none 0 0,.slice none 0 0,I 0]::σ)) (fun p=>s.sys.n - (L0.length+p.1)) (0,vl) aU
  ⟨by simpa using hL0,en,by simpa using hO,hs.sb⟩ ?_
 clear hO hs
 rintro ⟨j,vo⟩ w ⟨hj,en,hO,hs⟩
 dsimp only at hj hO ⊢
 obtain ⟨ao,lo,co,rfl,hlo⟩:=hO.shape
 have hlo':lo=L0.length+j:=by simp [Is] at hlo;omega
 refine .seq (.aj (.z zm (.z (dc ae) (.z (zfa cE) (.y hs (zld af) (.z cK (.zn fM (.bA rfl (fun hc25=>?_) (fun hc25=>?_)))))))))
 ·refine .skip (nT (.block (.region (.z zm (.o (.buildSlice (cells:=[_]) hs db rfl rfl fun b27 w hs=>?_))))))
  refine .o (.append (ys:=Is [0]) hs cM rfl rfl hO (.own .here rfl rfl) (iL _) (fun l' h=>by simp [Is] at h;omega) ?_);intro v28 en28 w hO2 hs
  rw [show Is (L0++List.replicate j 0)++Is [0]=Is (L0++List.replicate (j+1) 0) by rw [←CB];simp [Is]] at hO2
  refine .zn zg (nB (nT ?_))
  exact ⟨(j+1,v28),aU,⟨by dsimp only;omega,_,hO2,hs.sb⟩,by dsimp only;omega⟩
 ·refine .exit (xT (xT (xB (nT (.aj (.y hs (zls [_,_] bq aI) (.z zm (.z zm (.z (zbd [_,_,_,_] ia) (.z zm (.o (.aP (vs:=[_,_,_,_]) hs rfl rfl fE fun w hs=>?_))))))))))))
  refine .zn zg (.ret ?_)
  have hjn:L0.length+j=s.sys.n:=by omega
  obtain ⟨H3,hle3,hR,hs⟩:=cZ.dS hO (by simp;omega) hs dn
  exact Fin.iM [] [] hs fun w hs=>⟨_,results2 Tryz.results177 (dy (vs:=[_,_,_,_]) hs rfl A1 fE) rfl,H3,_,_,_,d,b,hle02.trans hle3,rfl,hL.mono (hle2.trans hle3),hR,by simp;omega,by
   rcases hcase with ⟨g1,g2,rfl,g3⟩|⟨g1,g2,_,_⟩
   ·refine .inl ⟨g1,g2,?_,g3⟩
    rw [gd,hn] at hjn
    unfold Srv.w;rw [show j=s.cV.length by omega]
   ·exact .inr ⟨g1,g2⟩,hs.out⟩
inductive zQ(v:Srv)(q:Wht):Int→Prop
 |bad {e:Int} (h:yL v e) (he:e≠0):zQ v q e
 |what (h:eW v) (h1:¬gY v.sp q):zQ v q 33
 |fls (h:eW v) (h1:gY v.sp q) (h2:¬v.sys.Sound):zQ v q 35
 |ok (h:eW v) (h1:gY v.sp q) (h2:v.sys.Sound):zQ v q 0
theorem zQ.zero{v:Srv}{q:Wht}(h:zQ v q 0):eW v∧gY v.sp q∧v.sys.Sound:=by
 generalize hz:(0:Int)=z at h
 cases h with
 |bad h he=>exact (he hz.symm).elim
 |what=>omega
 |fls=>omega
 |ok h h1 h2=>exact ⟨h,h1,h2⟩
theorem zQ.qty{v:Srv}{q:Wht}{e:Int}(h:zQ v q e)(he:e≠0):Dd v q 0 0 e:=by
 cases h with
 |bad h he=>exact .bad h he
 |what h h1=>exact .what h h1
 |fls h h1 h2=>exact .fls h h1 h2
 |ok=>exact (he rfl).elim
set_option maxHeartbeats 1000000 in
theorem se{s:Srv}{q:Wht}{vst vwa vr vc:Value}(hs:St H w σ)(h1:RI H vst s.sp.st)(h2:RI H vwa s.sp.wa)(h3:RRd H vr s.rs)(h4:RCm H vc s.cs):
  Cl Tryz.prog 125 [.agg #[I s.sp.id,I s.sp.src,vst,vwa,I s.sp.al,I s.sp.up,vr,vc],.agg #[I q.kind,I q.st,I q.wa]] w fun u w'=>∃H1 m ul vw d e,HLe H H1∧u= .tuple #[.agg #[I m,ul,vw,I d],I e]∧(∃a l c,ul= .slice a l c)∧(∃a l c,vw= .slice a l c)∧zQ s q e∧(e=0→m=s.sys.many∧RL H1 ul s.dk∧RI H1 vw (s.w q)∧d=oy q)∧St H1 w' σ:=by
 refine Cl.o Tryz.func125 Tryz.ntmps125 ag2 ?_
 refine .aj (.bx hs fun b2 w hs=>?_)
 refine .bx hs fun b3 w hs=>?_
 refine .o (.alloc hs zY rfl fun b4 w hs=>?_)
 refine .zn zg (.seq (.aj (.y hs (zls [_,_,_,_,_,_,_,_] aN aC) (.o (.call Ki rfl (gM (s:=s) hs h1 h2 h3 h4) ?_)))));rintro _ w ⟨H1,e,hle1,rfl,hC,hs⟩
 refine .zn zg (.aj (.z zm (.zn gE (.dV rfl (fun hc12=>?_) (fun hc12=>?_)))))
 ·refine .aj (.z (zbd [_,_,_,_] ia) (.z zm (.o (.aP (vs:=[_,_,_,_]) hs rfl rfl fE fun w hs=>?_))))
  refine .zn zg (.ret (rT (?_)))
  exact Fin.iM [] [] hs fun w hs=>⟨_,results2 Tryz.results125 (dy (vs:=[_,_,_,_]) hs rfl A1 fE) rfl,H1,_,_,_,_,e,hle1,rfl,⟨_,_,_,rfl⟩,⟨_,_,_,rfl⟩,.bad hC hc12,fun h=>(hc12 h).elim,hs.out⟩
 ·refine .skip (nT (.aj (.y hs (zls [_,_,_,_,_,_,_,_] aN aC) (.y hs (zls [_,_,_] lK gx) ?_))))
  have hok:eW s:=hC.dU.1 (by simpa using hc12)
  refine .o (.call Tryz.call177 rfl (uW (s:=s) (q:=q) hs (h1.mono hle1) (h2.mono hle1) (h3.mono hle1) (h4.mono hle1) hok) ?_);rintro _ w ⟨H2,ul,vw,L,d,b,hle2,rfl,hL,hR,hLl,hcase,hs⟩
  have hle02:=hle1.trans hle2
  obtain ⟨al,cl,rfl⟩:=RL.shape hL
  obtain ⟨aw,cw,rfl⟩:=RI.shape hR
  refine .z zm (.z zex (.z zex (.o (.alloc hs zY rfl fun b7 w hs=>?_))))
  refine .o (.aP (vs:=[_,_,_,_]) hs rfl rfl fE fun w hs=>?_)
  refine .zn zg (.seq (.block (.aj (.z zm (.z fZ (.zn zg (.cond rfl (fun hc21=>?_) (fun hc21=>?_))))))))
  ·refine .aj (.z (zbd [_,_,_,_] ia) (.o (.aP (vs:=[_,_,_,_]) hs rfl rfl fE fun w hs=>?_)))
   refine .zn zg (.ret (rB (rT (?_))))
   have hq:¬gY s.sp q:=by
    rcases hcase with ⟨g,_⟩|⟨_,g⟩
    ·subst g;cases hc21
    ·exact g
   exact Fin.iM [] [] hs fun w hs=>⟨_,results2 Tryz.results125 (dy (vs:=[_,_,_,_]) hs rfl A1 fE) rfl,H2,_,_,_,_,_,hle02,rfl,⟨_,_,_,rfl⟩,⟨_,_,_,rfl⟩,.what hok hq,fun h=>by omega,hs.out⟩
  ·refine .aj (.y hs (zls [_,_,_,_,_,_,_,_] aN aC) ?_)
   obtain ⟨rfl,hq,rfl,rfl⟩:b=true∧gY s.sp q∧L=s.w q∧d=oy q:=hcase.resolve_right fun h=>by rw [h.1] at hc21;cases hc21
   refine .o (.call Tryz.call178 rfl (re (s:=s) hs (h1.mono hle02) (h2.mono hle02) (h3.mono hle02) (h4.mono hle02) hok) ?_);rintro _ w ⟨H3,b27,hle3,rfl,hb27,hs⟩
   refine .z fZ (.zn zg (.cond rfl (fun hc25=>?_) (fun hc25=>?_)))
   ·refine .aj (.z (zbd [_,_,_,_] ia) (.o (.aP (vs:=[_,_,_,_]) hs rfl rfl fE fun w hs=>?_)))
    refine .zn zg (.ret (rB (rT (?_))))
    exact Fin.iM [] [] hs fun w hs=>⟨_,results2 Tryz.results125 (dy (vs:=[_,_,_,_]) hs rfl A1 fE) rfl,H3,_,_,_,_,_,hle02.trans hle3,rfl,⟨_,_,_,rfl⟩,⟨_,_,_,rfl⟩,.fls hok hq (fun h=>by rw [hb27.2 h] at hc25;cases hc25),fun h=>by omega,hs.out⟩
   ·refine .skip (nB (nT (.aj (.y hs (zls [_,_,_,_] A1 fE) (.o (.aP (vs:=[_,_,_,_]) hs rfl rfl fE fun w hs=>?_))))))
    refine .zn zg (.ret ?_)
    exact Fin.iM [] [] hs fun w hs=>⟨_,results2 Tryz.results125 (dy (vs:=[_,_,_,_]) hs rfl A1 fE) rfl,H3,_,_,_,_,_,hle02.trans hle3,rfl,⟨_,_,_,rfl⟩,⟨_,_,_,rfl⟩,.ok hok hq (hb27.1 (by simpa using hc25)),fun _=>⟨rfl,hL.mono hle3,hR.mono hle3,rfl⟩,hs.out⟩
set_option maxHeartbeats 1000000 in
theorem sj{s:Srv}{q:Wht}{vst vwa vr vc:Value}(hs:St H w σ)(h1:RI H vst s.sp.st)(h2:RI H vwa s.sp.wa)(h3:RRd H vr s.rs)(h4:RCm H vc s.cs):
  Cl Tryz.prog 174 [.agg #[I s.sp.id,I s.sp.src,vst,vwa,I s.sp.al,I s.sp.up,vr,vc],.agg #[I q.kind,I q.st,I q.wa]] w fun u w'=>∃H1 lo hi e,HLe H H1∧u= .tuple #[.agg #[I lo,I hi],I e]∧Dd s q lo hi e∧St H1 w' σ:=by
 refine Cl.o Tryz.func174 Tryz.ntmps174 ag2 ?_
 refine .aj (.bx hs fun b2 w hs=>?_)
 refine .bx hs fun b3 w hs=>?_
 refine .o (.alloc hs bP rfl fun b4 w hs=>?_)
 refine .zn zg (.aj (.y hs (zls [_,_,_,_,_,_,_,_] aN aC) (.y hs (zls [_,_,_] lK gx) (.o (.call Tryz.call125 rfl (se (s:=s) (q:=q) hs h1 h2 h3 h4) ?_)))));rintro _ w ⟨H1,m,ul,vw,d,e,hle1,rfl,⟨al,ll,cl,rfl⟩,⟨aw,lw,cw,rfl⟩,hA,hA0,hs⟩
 refine .z zm (.z zex (.z zex (.o (.alloc hs zY rfl fun b6 w hs=>?_))))
 refine .o (.aP (vs:=[_,_,_,_]) hs rfl rfl fE fun w hs=>?_)
 refine .zn zg (.seq (.aj (.z zm (.zn gE (.dV rfl (fun hc17=>?_) (fun hc17=>?_))))))
 ·refine .aj (.z (zbd [_,_] bU) (.z zm (.o (.aP (vs:=[_,_]) hs rfl rfl au fun w hs=>?_))))
  refine .zn zg (.ret (rT (?_)))
  exact Fin.iM [] [] hs fun w hs=>⟨_,results2 Tryz.results174 (dy (vs:=[_,_]) hs rfl aW au) rfl,H1,_,_,_,hle1,rfl,hA.qty hc17,hs.out⟩
 ·refine .skip (nT (.aj (.z (zfa pG) (.y hs (zls [_,_] bq aI) (.z (zfa pF) (.y hs (zld aq) ?_))))))
  obtain rfl:e=0:=by simpa using hc17
  obtain ⟨rfl,hL,hR,rfl⟩:=hA0 rfl
  obtain ⟨hok,hq,hsd⟩:=hA.zero
  refine .o (.call Tryz.call219 rfl (ve (s:=s.sys) hs ⟨_,rfl,hL⟩ hR) ?_);rintro _ w ⟨H2,lo,hi,f,hle2,rfl,hRg,hs⟩
  obtain rfl:=sM (hok.ask hq) hsd (fun b=>s.both) hRg
  have hbd:=hRg.bd
  have hdp:=zE q
  refine .z zm (.z zex (.z zex (.z zex (.z zg (.z zg (.zn zg (.seq (.aj (.z zm (.zn gE (.dV rfl (fun hc30=>?_) (fun hc30=>?_))))))))))))
  ·refine .aj (.z (zbd [_,_] bU) (.z zm (.o (.aP (vs:=[_,_]) hs rfl rfl au fun w hs=>?_))))
   refine .zn zg (.ret (rT (?_)))
   exact (hc30 rfl).elim
  ·refine .skip (nT (.seq (.draw mix rfl hs fun w hs=>?_)))
   refine .zw 0 rfl zm ?_;refine .z 1 rfl (zfa kQ) ?_;refine .y 2 rfl hs af ?_;refine .z 4 rfl zm ?_;refine .z 5 rfl (zfa kQ) ?_;refine .y 6 rfl hs af ?_
   refine .E 3 hs ?_
   refine .call Tryz.call132 rfl (kA hs an an) ?_;rintro _ w ⟨rfl,hs⟩
   refine .go (.E 7 hs ?_)
   refine .call Tryz.call132 rfl (kA hs an an) ?_;rintro _ w ⟨rfl,hs⟩
   refine .go (.zw 8 rfl (zbd [_,_] bU) (.E 9 hs ?_))
   refine .aP (vs:=[_,_]) hs rfl rfl au ?_;intro w hs
   refine .go (.zw 10 rfl zg ?_);refine .D hs ?_
   refine .ret ?_
   exact Fin.iM [] [] hs fun w hs=>⟨_,results2 Tryz.results174 (dy (vs:=[_,_]) hs rfl aW au) rfl,H2,_,_,_,hle1.trans hle2,rfl,.ok hok hq hsd hRg,hs.out⟩
inductive CF(v:Srv)(out:List Int):Int→Prop
 |bad {e:Int} (h:yL v e) (he:e≠0) (h1:out=[]):CF v out e
 |ok {e:Int} (h:eW v) (h1:BO v.sys out e):CF v out e
theorem si{s:Srv}{vst vwa vr vc:Value}(hs:St H w σ)(h1:RI H vst s.sp.st)(h2:RI H vwa s.sp.wa)(h3:RRd H vr s.rs)(h4:RCm H vc s.cs):
  Cl Tryz.prog 175 [.agg #[I s.sp.id,I s.sp.src,vst,vwa,I s.sp.al,I s.sp.up,vr,vc]] w fun u w'=>∃H1 vx out e,HLe H H1∧u= .tuple #[vx,I e]∧RI H1 vx out∧CF s out e∧St H1 w' σ:=by
 refine Cl.o Tryz.func175 Tryz.ntmps175 ag1 ?_
 refine .aj (.bx hs fun b1 w hs=>?_)
 refine .z zg (.zn zg (.seq (.aj (.y hs (zls [_,_,_,_,_,_,_,_] aN aC) (.o (.call Ki rfl (gM (s:=s) hs h1 h2 h3 h4) ?_))))));rintro _ w ⟨H1,e,hle1,rfl,hC,hs⟩
 refine .zn zg (.aj (.z zm (.zn gE (.dV rfl (fun hc10=>?_) (fun hc10=>?_)))))
 ·refine .aj (.z zm (.z zg (.zn zg (.ret (rT (Fin.gL Tryz.results175 rfl rfl ?_))))))
  exact ⟨H1,_,[],_,hle1,rfl,RS.nil H1 1 none 0,.bad hC hc10 rfl,hs.out⟩
 ·refine .skip (nT (.aj (.y hs (zls [_,_,_,_,_,_,_,_] aN aC) ?_)))
  have hok:eW s:=hC.dU.1 (by simpa using hc10)
  refine .o (.call Kh rfl (gg (s:=s) hs (h1.mono hle1) (h2.mono hle1) (h3.mono hle1) (h4.mono hle1) hok.early) ?_);rintro v14 w ⟨H2,hle2,hS,hs⟩
  refine .o (.call Tryz.call220 rfl (rq (s:=s.sys) hs hS) ?_);rintro _ w ⟨H3,vx,out,f,hle3,rfl,hR,hCf,hs⟩
  refine .z zm (.z zex (.z zex (.z zg (.zn zg (.aj (.z zm (.z zm (.z zg (.zn zg (.ret (Fin.gL Tryz.results175 rfl rfl ?_)))))))))))
  exact ⟨H3,_,out,_,hle1.trans (hle2.trans hle3),rfl,hR,.ok hok hCf,hs.out⟩
theorem pb{v:Value}{rs:List (List Int)}{g:Nat}{cap:List Value}(q:List Int→Prop)(hs:St H w σ)(hR:RT H v rs)(hl:rs.length≤9223372036854775807)(hc:∀args w,(callFunc g args).run Tryz.prog w= .ok (.enter g args) w)
  (hp:∀H' w σ r u,HLe H H'→RI H' u r→St H' w σ→Cl Tryz.prog g ([u]++cap) w fun z w'=>∃H1 b,HLe H' H1∧z= .bool b∧(b=true↔q r)∧St H1 w' σ):
  Cl Tryz.prog 227 [v,.func (.func g) #[] cap.toArray] w fun u w'=>∃H1 i,HLe H H1∧u=I i∧(0≤i↔∃x∈rs,q x)∧St H1 w' σ:=by
 obtain ⟨a,c,rfl⟩:=hR.shape
 refine Cl.o Tryz.func227 Tryz.ntmps227 ag2 ?_
 refine .aj (.zn zg (.seq (.aj (.z zm (.z (dc az) (.zn zm (.for (N:=rs.length) (J:=fun k fr w=>fr=[(1,.func (.func g) #[] cap.toArray),(0,.slice a rs.length c)]∧∃H1,HLe H H1∧(∀j<k,∀y,rs[j]? =some y→¬q y)∧St H1 w σ) an ?_ ?_ ?_)))))))
 ·exact .mk ⟨rfl,H,HLe.refl H,fun j hj=>by omega,hs⟩
 ·rintro k fr w hk ⟨rfl,H1,hle1,hno,hs⟩
  have hx:=uw (rs:=rs) hk
  refine .block (.aj (.z zm (.zn zg (.aj (.z zm (.z zm (.z zm (.ixT hs (hR.mono hle1) rfl rfl az aA (show k<_ by omega) da ?_))))))));intro b14 o14 a14 c14 hc14 hR14
  refine .q hs (aJ rfl aq hc14) (.o (.qs (first:=[]) (cap:=cap) rfl rfl hc (hp _ _ _ (gr rs k) _ hle1 hR14 hs) ?_));rintro _ w ⟨H2,b16,hle2,rfl,hb16,hs⟩
  refine .nil (.cond rfl (fun hc16=>?_) (fun hc16=>?_))
  ·refine .aj (.z zm (.zn zg (.ret (rB (rT (rB (rT (Fin.bE Tryz.results227 rfl ?_))))))))
   exact ⟨H2,_,hle1.trans hle2,rfl,⟨fun _=>⟨_,List.mem_of_getElem? hx,hb16.1 hc16⟩,fun _=>by omega⟩,hs⟩
  ·refine .skip (nB (nT ?_))
   exact .mk ⟨rfl,H2,hle1.trans hle2,fo hno hx (fun h=>by rw [hb16.2 h] at hc16;cases hc16),hs⟩
 ·rintro fr w ⟨rfl,H1,hle1,hno,hs⟩
  refine nT (.aj (.zn zg (.ret (Fin.bE Tryz.results227 rfl ?_))))
  exact ⟨H1,_,hle1,rfl,⟨fun h=>by omega,fun ⟨x,h1,h2⟩=>by
   obtain ⟨j,hj⟩:=List.getElem?_of_mem h1
   exact (hno j (List.getElem?_eq_some_iff.1 hj).1 x hj h2).elim⟩,hs⟩
theorem ng{v:Value}{rs:List (List Int)}{g:Nat}{cap:List Value}(q:List Int→Prop)(hs:St H w σ)(hR:RT H v rs)(hl:rs.length≤9223372036854775807)(hc:∀args w,(callFunc g args).run Tryz.prog w= .ok (.enter g args) w)
  (hp:∀H' w σ r u,HLe H H'→RI H' u r→St H' w σ→Cl Tryz.prog g ([u]++cap) w fun z w'=>∃H1 b,HLe H' H1∧z= .bool b∧(b=true↔q r)∧St H1 w' σ):
  Cl Tryz.prog 183 [v,.func (.func g) #[] cap.toArray] w fun u w'=>∃H1 b,HLe H H1∧u= .bool b∧(b=true↔∃x∈rs,q x)∧St H1 w' σ:=by
 refine Cl.o Tryz.func183 Tryz.ntmps183 ag2 ?_
 refine .aj (.zn zg (.aj (.z zm (.z zm (.o (.call Tryz.call227 rfl (pb q hs hR hl hc hp) ?_))))));rintro _ w ⟨H1,i,hle1,rfl,hi,hs⟩
 refine .z uj (.zn zg (.ret (Fin.bE Tryz.results183 rfl ?_)))
 exact ⟨H1,_,hle1,rfl,by simp only [decide_eq_true_eq];exact hi,hs⟩
theorem xa{n:Int}(hs:St H w σ):
  Cl Tryz.prog 186 [I n] w fun u w'=>u= .bool (!decide (0≤n∧n≤20000))∧St H w' σ:=by
 refine Cl.o Tryz.func186 Tryz.ntmps186 ag1 ?_
 refine .aj (.zn zg (.aj (.z zm (.o (.call dZ rfl (bT hs) ?_)))));rintro _ w ⟨rfl,hs⟩
 refine .z fZ (.zn zg (.ret (Fin.bE Tryz.results186 rfl ?_)))
 exact ⟨rfl,hs⟩
theorem zr{s:Spc}{v vst vwa:Value}{r:List Int}{b:Nat}(hs:St H w σ)(hb:Row H b [I s.id,I s.src,vst,vwa,I s.al,I s.up])(h2:RI H vwa s.wa)(hr:RI H v r):
  Cl Tryz.prog 184 [v,Pt b] w fun u w'=>∃H1 bb,HLe H H1∧u= .bool bb∧(bb=true↔¬(r.length=s.wa.length∧∀x∈r,0≤x∧x≤20000))∧St H1 w' σ:=by
 obtain ⟨a,c,rfl⟩:=RI.shape hr
 obtain ⟨awa,cwa,rfl⟩:=RI.shape h2
 have hb3:=hb.at 3
 refine Cl.o Tryz.func184 Tryz.ntmps184 ag2 ?_
 refine .aj (.zn zg (.aj (.z zm (.z (dc ae) (.z (zfa bh) (.y hs (zld aq) (.z (dc ae) (.z gE (.z zm (.AS (t':=10) rfl (fun hb10=>?_) (fun hb10=>?_)))))))))))
 ·refine .Fs 2 6 false (.z zpT (.zn zg (.ret (Fin.bE Tryz.results184 rfl ?_))))
  exact ⟨H,true,HLe.refl H,rfl,⟨fun _ h=>by have:=h.1;simp_all,fun _=>rfl⟩,hs⟩
 ·refine .T (.z zm (.T (.o (.call Tryz.call185 rfl (mT (g:=186) (cap:=[]) (fun n=>¬(0≤n∧n≤20000)) hs hr Tryz.call186 (fun H' w σ n _ _ hs=>(xa hs).mono fun u w' ⟨g1,g2⟩=>⟨H',_,HLe.refl _,g1,by simp;omega,g2⟩)) ?_))));rintro _ w ⟨H1,b12,hle1,rfl,hb12,hs⟩
  refine .z zpF (.zn zg (.ret (Fin.bE Tryz.results184 rfl ?_)))
  have hlen:r.length=s.wa.length:=by simp_all;omega
  exact ⟨H1,_,hle1,rfl,by
   rw [hb12]
   constructor
   ·rintro ⟨x,h1,h2⟩ h;exact h2 (h.2 x h1)
   ·intro h
    refine Classical.byContradiction fun hn=>h ⟨hlen,fun x hx=>Classical.byContradiction fun hx'=>hn ⟨x,hx,hx'⟩⟩,hs⟩
theorem Gs{s:Spc}{rows:List (List Int)}:mz s rows↔rows.length=s.st.length∧∀r∈rows,r.length=s.wa.length∧∀x∈r,0≤x∧x≤20000:=by
 constructor
 ·rintro ⟨h1,h2,h3⟩
  refine ⟨h1,fun r hr=>?_⟩
  obtain ⟨i,hi⟩:=List.getElem?_of_mem hr
  have hil:=(List.getElem?_eq_some_iff.1 hi).1
  have hg:=uw hil
  rw [hi] at hg
  obtain rfl:=Option.some.inj hg
  have hl:=h2 i an
  refine ⟨hl,fun x hx=>?_⟩
  obtain ⟨k,hk⟩:=List.getElem?_of_mem hx
  have hkl:=(List.getElem?_eq_some_iff.1 hk).1
  have hgk:=bB hkl
  rw [hk] at hgk
  obtain rfl:=Option.some.inj hgk
  exact h3 i an k an
 ·rintro ⟨h1,h2⟩
  have hm:∀i<s.st.length,gr rows i∈rows:=fun i hi=>List.mem_of_getElem? (uw an)
  refine ⟨h1,fun i hi=>(h2 _ (hm i hi)).1,fun i hi k hk=>?_⟩
  have hl:=(h2 _ (hm i hi)).1
  exact (h2 _ (hm i hi)).2 _ (List.mem_of_getElem? (bB an))
theorem mb{s:Spc}{vst vwa vh:Value}{rows:List (List Int)}(hs:St H w σ)(h1:RI H vst s.st)(h2:RI H vwa s.wa)(hr:RT H vh rows):
  Cl Tryz.prog 129 [.agg #[I s.id,I s.src,vst,vwa,I s.al,I s.up],.agg #[vh]] w fun u w'=>∃H1 b,HLe H H1∧u= .bool b∧(b=true↔mz s rows)∧St H1 w' σ:=by
 obtain ⟨ast,cst,rfl⟩:=RI.shape h1
 obtain ⟨awa,cwa,rfl⟩:=RI.shape h2
 obtain ⟨ah,ch,rfl⟩:=hr.shape
 have hrl:=(hr.len).2.2
 refine Cl.o Tryz.func129 Tryz.ntmps129 ag2 ?_
 refine .aj (.bx hs fun b2 w hs=>?_)
 refine .bx hs fun b3 w hs=>?_
 refine .zn zg (.aj (.z (zfa lP) (.y hs (zld xx) (.z (dc az) (.z (zfa bV) (.y hs (zld aq) (.z (dc ae) (.z fm (.z zm (.gX (t':=12) rfl (fun hb12=>?_) (fun hb12=>?_)))))))))))
 ·refine .T (.z (zfa lP) (.T (.y hs (zld xx) (.T (.q hs (dM (f:=[]) (c:=[_]) rfl rfl) (.T ?_))))))
  obtain ⟨H0,hle0,hb2,hs⟩:=hs.di (b:=b2) dn
  refine .o (.call Tryz.call183 rfl (ng (g:=184) (cap:=[Pt b2]) (fun r=>¬(r.length=s.wa.length∧∀x∈r,0≤x∧x≤20000)) hs (hr.mono hle0) hrl Tryz.call184 (fun H' w σ r u hle hu hs=>zr (s:=s) hs (hb2.mono hle) (h2.mono (hle0.trans hle)) hu)) ?_);rintro _ w ⟨H1,b16,hle1,rfl,hb16,hs⟩
  refine .T (.z fZ (.z zpT (.zn zg (.ret (Fin.bE Tryz.results129 rfl ?_)))))
  exact ⟨H1,_,hle0.trans hle1,rfl,by
   rw [Gs]
   have hlen:rows.length=s.st.length:=by omega
   cases hbb:b16 with
   |true=>
    obtain ⟨x,hx,hn⟩:=hb16.1 hbb
    exact ⟨fun h=>(by cases h),fun h=>(hn (h.2 x hx)).elim⟩
   |false=>exact ⟨fun _=>⟨hlen,fun r hr=>Classical.byContradiction fun hn=>by rw [hb16.2 ⟨r,hr,hn⟩] at hbb;cases hbb⟩,fun _=>rfl⟩,hs.out⟩
 ·refine .Fs 5 7 true (.z zpF (.zn zg (.ret (Fin.bE Tryz.results129 rfl ?_))))
  exact ⟨H,_,HLe.refl H,rfl,⟨fun h=>(by cases h),fun h=>by have:=h.len;omega⟩,hs.out⟩
set_option maxHeartbeats 1000000 in
theorem sh{s:Spc}{q:Wht}{vst vwa vh:Value}{rows:List (List Int)}(hs:St H w σ)(h1:RI H vst s.st)(h2:RI H vwa s.wa)(hr:RT H vh rows):
  Cl Tryz.prog 64 [.agg #[I s.id,I s.src,vst,vwa,I s.al,I s.up],.agg #[vh],.agg #[I q.kind,I q.st,I q.wa]] w fun u w'=>∃H1 n e,HLe H H1∧u= .tuple #[I n,I e]∧vv s rows q n e∧St H1 w' σ:=by
 obtain ⟨ah,ch,rfl⟩:=hr.shape
 refine Cl.o Tryz.func64 Tryz.ntmps64 ag3 ?_
 refine .aj (.bx hs fun b3 w hs=>?_)
 refine .bx hs fun b4 w hs=>?_
 refine .bx hs fun b5 w hs=>?_
 refine .z zg (.zn zg (.seq (.aj (.y hs (zls [_,_,_,_,_,_] bg aM) (.o (.call Tryz.call111 rfl (jZ (s:=s) hs h1 h2) ?_))))));rintro _ w ⟨H1,e,hle1,rfl,he,hs⟩
 refine .zn zg (.aj (.z zm (.zn gE (.dV rfl (fun hc17=>?_) (fun hc17=>?_)))))
 ·refine .aj (.z zm (.z zg (.zn zg (.ret (rT (?_))))))
  have hq:¬fA s∧e=30:=he.resolve_left fun h=>hc17 h.2
  exact Fin.iM [] [] hs fun w hs=>⟨_,results2 Tryz.results64 rfl rfl,H1,_,_,hle1,rfl,by rw [hq.2];exact .space hq.1,hs.out⟩
 ·refine .skip (nT (.seq (.aj (.y hs (zls [_,_,_,_,_,_] bg aM) (.y hs (zls [_] Tryz.isAgg64 AZ) ?_)))))
  have hok:fA s:=(he.resolve_right fun h=>by omega).1
  have hsm:=fN hok
  refine .o (.call Tryz.call129 rfl (mb (s:=s) hs (h1.mono hle1) (h2.mono hle1) (hr.mono hle1)) ?_);rintro _ w ⟨H2,b21,hle2,rfl,hb21,hs⟩
  have hle02:=hle1.trans hle2
  refine .zn fZ (.cond rfl (fun hc22=>?_) (fun hc22=>?_))
  ·refine .aj (.z zg (.zn zg (.ret (rT (?_)))))
   exact Fin.iM [] [] hs fun w hs=>⟨_,results2 Tryz.results64 rfl rfl,H2,_,_,hle02,rfl,.hull hok (fun h=>by rw [hb21.2 h] at hc22;cases hc22),hs.out⟩
  ·refine .skip (nT (.aj (.y hs (zls [_,_,_,_,_,_] bg aM) (.y hs (zls [_,_,_] lK gx) ?_))))
   have hh:mz s rows:=hb21.1 (by simpa using hc22)
   refine .o (.call Tryz.call130 rfl (lH (s:=s) (q:=q) hs (h1.mono hle02) (h2.mono hle02) hok) ?_);rintro _ w ⟨H3,vl,L,d,b,en,hle3,rfl,hO,hcase,hs⟩
   have hle03:=hle02.trans hle3
   obtain ⟨al,cl,rfl⟩:=hO.BV
   refine .z zm (.z zex (.z zex (.z zex (.o (.alloc hs ee rfl fun b9 w hs=>?_)))))
   refine .o (.store hs rfl rfl aA fun w hs=>?_)
   refine .z zg (.zn zg (.seq (.aj (.z zm (.zn fZ (.cond rfl (fun hc31=>?_) (fun hc31=>?_)))))))
   ·refine .aj (.z zg (.zn zg (.ret (rT (?_)))))
    have hq:¬gY s q:=by
     rcases hcase with ⟨g,_⟩|⟨_,g,_⟩
     ·subst g;cases hc31
     ·exact g
    exact Fin.iM [] [] hs fun w hs=>⟨_,results2 Tryz.results64 rfl rfl,H3,_,_,hle03,rfl,.what hok hh hq,hs.out⟩
   ·refine .skip (nT (.aj (.o (.alloc hs cB rfl fun b12 w hs=>?_))))
    refine .o (.store hs rfl rfl ai fun w hs=>?_)
    refine .nil (.seq (.aj (.y hs (zls [_,_,_,_,_,_] bg aM) ?_)))
    obtain ⟨rfl,hq,rfl,rfl⟩:b=true∧gY s q∧L=kE s q∧d=oy q:=hcase.resolve_right fun h=>by rw [h.1] at hc31;cases hc31
    have hwl:=gd s q
    obtain ⟨H4,hle4,hW,hs⟩:=cZ.dS hO an hs dn
    have hle04:=hle03.trans hle4
    refine .o (.call Dm rfl (gG (s:=s) hs (h1.mono hle04) (h2.mono hle04) ⟨an,an⟩) ?_);rintro _ w ⟨H5,ba,hle5,rfl,hit,hs⟩
    have hle05:=hle04.trans hle5
    replace hW:=hW.mono hle5
    have hr5:=hr.mono hle05
    refine .nil (.block ?_)
    refine .rangeFunc (gf:=188) (cap:=[Pt ba]) (xs:=yI s) (σb:=[.blk b12 [I (j7 s q rows 0)],.blk b9 [.slice al (kE s q).length cl],.blk b4 [.slice ah rows.length ch]]) (σf:=σ) (hs.sb) trivial rfl hit Dl (fun x hx=>by
      simp only [yI,List.mem_map] at hx
      obtain ⟨j,_,rfl⟩:=hx;rfl) rfl
     (I:=fun p H' σb=>σb=[.blk b12 [I (j7 s q rows p)],.blk b9 [.slice al (kE s q).length cl],.blk b4 [.slice ah rows.length ch]]) (Ix:=fun _ _ _=>False)
     (fun j _ _ σ g1 g2=>g2) (fun _ _ _ _ _ h=>h) rfl ?_ ?_ (fun D c H' σb w _ h _=>h.elim)
    ·rintro ly p hp H6 σb2 σf2 w hle6 rfl hs ⟨rr,hrr⟩
     have hpm:p<s.many:=by rw [eQ] at hp;exact hp
     have hin:p/s.wa.length<s.st.length:=Nat.div_lt_of_lt_mul (by rw [Nat.mul_comm];exact hpm)
     have hkm:=Nat.mod_lt p hsm.2.2.1
     have hsucc:j7 s q rows (p+1)=j7 s q rows p+gi (kE s q) (p+1)*gt rows (p/s.wa.length) (p%s.wa.length):=rfl
     have hb0:=ny hok hq hh p an
     have hb1:=ny hok hq hh (p+1) an
     have hwz:=m9 hok hq
     have hwz2:=jF (kE s q) (v:=p+1) (n:=s.many+1) an
     have hnum:=hh.num _ hin _ hkm
     have hrow:=hh.row _ hin
     have hrlen:=hh.len
     have hprd:=j5 (a:=gi (kE s q) (p+1)) (b:=gt rows (p/s.wa.length) (p%s.wa.length)) (A:=3456000000000) (B:=20000) an an
     have hgt:gt rows (p/s.wa.length) (p%s.wa.length)=gi (gr rows (p/s.wa.length)) (p%s.wa.length):=rfl
     rw [nQ hp]
     generalize p/s.wa.length=i at*
     generalize p%s.wa.length=k at*
     rw [hgt] at hsucc hprd hnum
     refine .region (.o (.alloc hs lX rfl fun b13 w hs=>?_))
     refine .o (.aP (vs:=[_,_,_]) hs rfl rfl qz fun w hs=>?_)
     refine .nil (nT (⟨H6,[.blk b13 [I (i:Int),I (k:Int),I ((p+1:Nat):Int)],.blk b12 [I (j7 s q rows p)],.blk b9 [.slice al (kE s q).length cl],.blk b4 [.slice ah rows.length ch]],HLe.refl _,hs,?_⟩));rintro w σf4 - hs
     refine .block (.draw mix rfl hs fun w hs=>?_)
     refine .y 0 rfl hs af ?_;refine .y 1 rfl hs aq ?_;refine .z 2 rfl (zfa e9) ?_;refine .y 3 rfl hs af ?_
     refine .ixX (enc:=fun x=>[I x]) (i:=4) hs rfl aD .none (hW.mono hle6) rfl rfl ae ai (bB (l:=(kE s q)) (i:=(p+1)) an) da ?_;intro b39 o39 hc39;replace hc39:=bL.one hc39
     refine .r (i:=5) hs rfl aD .none (aJ rfl af hc39) ?_
     refine .zw 6 rfl (zfa lP) ?_;refine .y 7 rfl hs xx ?_;refine .z 8 rfl (zfa dO) ?_;refine .y 9 rfl hs af ?_
     refine .ixT (i:=10) hs rfl aD .none (hr5.mono hle6) rfl rfl az aA (show i<_ by omega) da ?_;intro b45 o45 a45 c45 hc45 hR45
     refine .r (i:=11) hs rfl aD .none (aJ rfl aq hc45) ?_
     refine .zw 12 rfl (zfa dw) ?_;refine .y 13 rfl hs af ?_
     refine .ixX (enc:=fun x=>[I x]) (i:=14) hs rfl aD .none hR45 rfl rfl ae ai (bB (l:=(gr rows i)) (i:=k) an) da ?_;intro b49 o49 hc49;replace hc49:=bL.one hc49
     refine .r (i:=15) hs rfl aD .none (aJ rfl af hc49) ?_
     refine .zw 16 rfl kd ?_;refine .z 17 rfl cK ?_
     refine .E 18 hs ?_
     refine .store hs rfl rfl ai ?_;intro w hs
     refine .go (.D hs (nB ?_))
     exact ⟨H6,[.blk b12 [I (j7 s q rows (p+1))],.blk b9 [.slice al (kE s q).length cl],.blk b4 [.slice ah rows.length ch]],HLe.refl _,by rw [hsucc];exact (hs.sb:St H6 w (.blk b12 _:: .blk b9 _:: .blk b4 _::σf4)),rfl⟩
    ·rintro D H6 σb2 w hle6 rfl hs
     rw [eQ] at hs
     replace hs:St H6 w (.obj D (.deferred (some [])):: .blk b12 [I (j7 s q rows s.many)]:: .blk b9 [.slice al (kE s q).length cl]:: .blk b4 [.slice ah rows.length ch]::σ):=hs
     have hbd:=ny hok hq hh s.many an
     have hdp:=zE q
     refine nB (nT (.aj (.y hs (zld af) (.z zm (.o (.call Tryz.call132 rfl (kA hs an an) ?_))))));rintro _ w ⟨rfl,hs⟩
     refine .z zg (.zn zg (.ret ?_))
     exact Fin.iM [D] [] hs fun w hs=>⟨_,results2 Tryz.results64 rfl rfl,H6,_,_,hle05.trans hle6,rfl,.ok hok hh hq,hs.out⟩
theorem q5{v1 v2:Value}{as_ bs:List Int}(hs:St H w σ)(h1:RI H v1 as_)(h2:RI H v2 bs):
  Cl Tryz.prog 30 [v1,v2] w fun u w'=>u= .bool (decide (as_=bs))∧St H w' σ:=by
 obtain ⟨a1,c1,rfl⟩:=RI.shape h1
 obtain ⟨a2,c2,rfl⟩:=RI.shape h2
 have l1:=(RI.len h1).2.2
 refine Cl.o Tryz.func30 Tryz.ntmps30 ag2 ?_
 refine .aj (.zn zg (.aj (.z zm (.z (dc ae) (.z zm (.z (dc ae) (.z fm (.zn zg (.seq (.aj (.zn zg (.block ?_))))))))))))
 refine .loop (fun p:Nat×Bool=>⟨31,[],[(6,I (p.1:Int)),(5,.bool p.2),(0,.slice a1 as_.length c1),(1,.slice a2 bs.length c2)]⟩)
  (fun p w=>p.1≤as_.length∧(p.2=true↔as_.length=bs.length∧∀j<p.1,gi as_ j=gi bs j)∧St H w σ) (fun p=>as_.length - p.1) (0,decide ((as_.length:Int)=bs.length)) aU
  ⟨Nat.zero_le _,by dsimp only;rw [decide_eq_true_eq];exact ⟨fun h=>⟨an,fun j hj=>by omega⟩,fun h=>by omega⟩,hs⟩ ?_
 rintro ⟨k,b⟩ w ⟨hk,hb,hs⟩
 dsimp only at hk hb ⊢
 refine .seq (.aj (.z zm (.z zm (.z (dc ae) (.z fM (.z zm (.gX (t':=16) rfl (fun hb16=>?_) (fun hb16=>?_))))))))
 ·refine .T (.z zm (.zn zpT (.cond rfl (fun hc18=>?_) (fun hc18=>?_))))
  ·refine .skip (nT (.seq (.block (.draw mix rfl hs fun w hs=>?_))))
   refine .zw 0 rfl zm ?_;refine .z 1 rfl zm ?_
   obtain rfl:b=true:=by assumption
   obtain ⟨hlen,hall⟩:=hb.1 rfl
   refine .ixX (enc:=fun x=>[I x]) (i:=2) hs rfl aD .none h1 rfl rfl ae ai (bB (l:=as_) (i:=k) an) da ?_;intro b23 o23 hc23;replace hc23:=bL.one hc23
   refine .r (i:=3) hs rfl aD .none (aJ rfl af hc23) ?_
   refine .zw 4 rfl zm ?_;refine .z 5 rfl zm ?_
   refine .ixX (enc:=fun x=>[I x]) (i:=6) hs rfl aD .none h2 rfl rfl ae ai (bB (l:=bs) (i:=k) an) da ?_;intro b27 o27 hc27;replace hc27:=bL.one hc27
   refine .r (i:=7) hs rfl aD .none (aJ rfl af hc27) ?_
   refine .zw 8 rfl fm ?_;refine .z 9 rfl zg ?_;refine .D hs ?_
   refine nB (nT (.region (.z zm (.z cK (.zn zg (nT ?_))))))
   exact ⟨(k+1,decide (gi as_ k=gi bs k)),.cJ rfl cq aU,⟨by dsimp only;omega,by
    dsimp only
    rw [decide_eq_true_eq]
    exact ⟨fun h=>⟨hlen,fun j hj=>by
     by_cases e:j=k
     ·subst e;exact h
     ·exact hall j an⟩,fun h=>h.2 k an⟩,hs⟩,by dsimp only;omega⟩
  ·refine .exit (xT (xT (xB (nT (.aj (.z zm (.zn zg (.ret (Fin.bE Tryz.results30 rfl ?_)))))))))
   have hf:b=false:=by simpa using hc18
   exact ⟨by rw [hf,decide_eq_false (fun h=>by subst h;rw [hb.2 ⟨rfl,fun j _=>rfl⟩] at hf;cases hf)],hs⟩
 ·refine .Fs 1 4 true (.zn zpF (.cF (.exit (xT (xT (xB (nT (.aj (.z zm (.zn zg (.ret (Fin.bE Tryz.results30 rfl (⟨?_,hs⟩)))))))))))))
  congr 1
  cases hbb:b with
  |true=>
   obtain ⟨hl,ha⟩:=hb.1 hbb
   rw [decide_eq_true (xh hl fun j hj=>ha j an)]
  |false=>rw [decide_eq_false (fun h=>by subst h;rw [hb.2 ⟨rfl,fun j _=>rfl⟩] at hbb;cases hbb)]
structure WI(s:Spc)(L:List Int)(f:Nat→Nat→Int):Prop where
 len:L.length=s.many+1
 zero:gi L 0=0
 at_:∀i k,i<s.st.length→k<s.wa.length→gi L (s.u i k)=f i k
theorem WI.start(s:Spc):WI s (List.replicate (s.many+1) 0) fun _ _=>0:=
 ⟨cq,eJ _ _ an,fun i k hi hk=>by have:=xy hi hk;exact eJ _ _ an⟩
theorem WI.set{s:Spc}{L:List Int}{f:Nat→Nat→Int}(h:WI s L f){i k:Nat}(hi:i<s.st.length)(hk:k<s.wa.length)(x:Int):WI s (L.set (s.u i k) x) fun i' k'=>if i'=i∧k'=k then x else f i' k':=by
 have hb:=xy hi hk
 refine ⟨by rw [List.length_set];exact h.len,by rw [sE an];exact h.zero,fun i' k' hi' hk'=>?_⟩
 have hb':=xy hi' hk'
 rw [fb (by rw [h.len];omega)]
 by_cases e:i'=i∧k'=k
 ·obtain ⟨rfl,rfl⟩:=e
  rw [if_pos rfl,if_pos ⟨rfl,rfl⟩]
 ·rw [if_neg e,if_neg,h.at_ i' k' hi' hk']
  intro e2
  obtain ⟨d1,d2⟩:=Hr (nw:=s.wa.length) (i:=i) hk
  obtain ⟨d3,d4⟩:=Hr (nw:=s.wa.length) (i:=i') hk'
  have e3:i'*s.wa.length+k'=i*s.wa.length+k:=by unfold Spc.u at e2;omega
  rw [e3] at d3 d4
  exact e ⟨d3.symm.trans d1,d4.symm.trans d2⟩
theorem WI.congr{s:Spc}{L:List Int}{f g:Nat→Nat→Int}(h:WI s L f)(e:∀i k,i<s.st.length→k<s.wa.length→f i k=g i k):WI s L g:=
 ⟨h.len,h.zero,fun i k hi hk=>(h.at_ i k hi hk).trans (e i k hi hk)⟩
theorem WI.fin{s:Spc}{q:Wht}{L:List Int}(h:WI s L (kX s q)):L=kE s q:=Fw h.len h.zero h.at_
theorem tD{s:Spc}{q:Wht}{vst vwa:Value}(hs:St H w σ)(h1:RI H vst s.st)(h2:RI H vwa s.wa):
  Cl Tryz.prog 155 [.agg #[I s.id,I s.src,vst,vwa,I s.al,I s.up],.agg #[I q.kind,I q.st,I q.wa]] w fun v w'=>∃b:Bool,v= .bool b∧(b=true↔gY s q)∧St H w' σ:=by
 obtain ⟨ast,cst,rfl⟩:=RI.shape h1
 obtain ⟨awa,cwa,rfl⟩:=RI.shape h2
 have l1:=(RI.len h1).2.2
 have l2:=(RI.len h2).2.2
 have hi:=oX (s:=s) (q:=q)
 simp only [Spc.isW,Spc.isS] at hi
 refine Cl.o Tryz.func155 Tryz.ntmps155 ag2 ?_
 refine .aj (.bx hs fun b2 w hs=>?_)
 refine .bx hs fun b3 w hs=>?_
 refine .zn zg (.aj (.z (zfa ef) (.y hs (zld af) (.z (zfa bh) (.y hs (zld aq) (.z (dc ae) (.z fY (.o (.call fL rfl (dN hs) ?_)))))))));rintro _ w ⟨rfl,hs⟩
 refine .zn zg (.aj (.z (zfa fh) (.y hs (zld af) (.z (zfa bV) (.y hs (zld aq) (.z (dc ae) (.z fY (.o (.call fL rfl (dN hs) ?_)))))))));rintro _ w ⟨rfl,hs⟩
 refine .zn zg (.seq (.aj (.z (zfa nN) (.y hs (zld af) (.nil (.block (.aj (.z fm (.zn zg (.bA rfl (fun hc23=>?_) (fun hc23=>?_)))))))))))
 ·refine .aj (.z (zfa fh) (.y hs (zld af) (.z fm (.z zm (.gX (t':=28) rfl (fun hb28=>?_) (fun hb28=>?_))))))
  ·refine .T (.z zm (.z zpT (.z zm (.bif (t':=31) rfl (fun hb31=>?_) (fun hb31=>?_)))))
   ·refine .T (.z (zfa ef) (.T (.y hs (zld af) (.T (.z km (.z zpT (.zn zg (.ret (rB (rT (Fin.bE iG rfl ?_)))))))))))
    exact ⟨_,rfl,by rw [hi];simp_all<;>omega,hs.out⟩
   ·refine .Fs 3 6 true (.z zpF (.zn zg (.ret (rB (rT (Fin.bE iG rfl ?_))))))
    exact ⟨_,rfl,by rw [hi];simp_all<;>omega,hs.out⟩
  ·refine .Fs 1 3 true (.z zpF (.z zm (.Fs 3 6 true (.z zpF (.zn zg (.ret (rB (rT (Fin.bE iG rfl ?_)))))))))
   exact ⟨_,rfl,by rw [hi];simp_all<;>omega,hs.out⟩
 ·refine .aj (.z fm (.zn zg (.bA rfl (fun hc36=>?_) (fun hc36=>?_))))
  ·refine .aj (.z (zfa fh) (.y hs (zld af) (.z fm (.z zm (.gX (t':=41) rfl (fun hb41=>?_) (fun hb41=>?_))))))
   ·refine .T (.z zm (.z zpT (.zn zg (.ret (rB (rT (Fin.bE iG rfl ?_)))))))
    exact ⟨_,rfl,by rw [hi];simp_all<;>omega,hs.out⟩
   ·refine .Fs 1 3 true (.z zpF (.zn zg (.ret (rB (rT (Fin.bE iG rfl ?_))))))
    exact ⟨_,rfl,by rw [hi];simp_all<;>omega,hs.out⟩
  ·refine .aj (.z fm (.zn zg (.bA rfl (fun hc44=>?_) (fun hc44=>?_))))
   ·refine .aj (.z zm (.z zm (.bif (t':=47) rfl (fun hb47=>?_) (fun hb47=>?_))))
    ·refine .T (.z (zfa ef) (.T (.y hs (zld af) (.T (.z fm (.z zpT (.zn zg (.ret (rB (rT (Fin.bE iG rfl ?_)))))))))))
     exact ⟨_,rfl,by rw [hi];simp_all<;>omega,hs.out⟩
    ·refine .Fs 3 1 true (.z zpF (.zn zg (.ret (rB (rT (Fin.bE iG rfl ?_))))))
     exact ⟨_,rfl,by rw [hi];simp_all<;>omega,hs.out⟩
   ·refine .aj (.z fm (.zn zg (.bA rfl (fun hc52=>?_) (fun hc52=>?_))))
    ·refine .aj (.z zm (.z zm (.bif (t':=55) rfl (fun hb55=>?_) (fun hb55=>?_))))
     ·refine .T (.z zm (.z zpT (.zn zg (.ret (rB (rT (Fin.bE iG rfl ?_)))))))
      exact ⟨_,rfl,by rw [hi];simp_all<;>omega,hs.out⟩
     ·refine .Fs 1 1 true (.z zpF (.zn zg (.ret (rB (rT (Fin.bE iG rfl ?_))))))
      exact ⟨_,rfl,by rw [hi];simp_all<;>omega,hs.out⟩
    ·refine .skip (nB (nT (.aj (.zn zg (.ret (Fin.bE iG rfl ?_))))))
     exact ⟨_,rfl,by rw [hi];simp_all<;>omega,hs.out⟩
set_option maxHeartbeats 2000000 in
theorem tC{s:Spc}{q:Wht}{vst vwa:Value}(hs:St H w σ)(h1:RI H vst s.st)(h2:RI H vwa s.wa)(hok:fA s)(hq:gY s q):
  Cl Tryz.prog 156 [.agg #[I s.id,I s.src,vst,vwa,I s.al,I s.up],.agg #[I q.kind,I q.st,I q.wa]] w fun v w'=>∃H1 vl en,HLe H H1∧v= .tuple #[vl,I (oy q)]∧cZ 1 vl (Is (kE s q)) en∧St H1 w' (en::σ):=by
 obtain ⟨ast,cst,rfl⟩:=RI.shape h1
 obtain ⟨awa,cwa,rfl⟩:=RI.shape h2
 have hsm:=fN hok
 have hcap:=(RI.len h2).2.1
 have hn1:=hok.st.many
 have hn2:=hok.wa.many
 have hlen:=gd s q
 have hqq:=oX.1 hq
 simp only [Spc.isW,Spc.isS] at hqq
 refine Cl.o Tryz.func156 Tryz.ntmps156 ag2 ?_
 refine .aj (.bx hs fun b2 w hs=>?_)
 refine .bx hs fun b3 w hs=>?_
 refine .z zg (.zn zg (.aj (.y hs (zls [_,_,_,_,_,_] bg aM) (.o (.call G0 rfl (fG (s:=s) hs h1 h2 ⟨an,an⟩) ?_)))));rintro _ w ⟨rfl,hs⟩
 refine .z cK (.o (.va (s.many+1) hs rfl rfl ae fD rfl ai cB an fun b20 w hs=>?_))
 have hW0:=WI.start s
 generalize List.replicate (s.many+1) (0:Int)=L0 at hs hW0
 refine .zn zg (.seq (.aj (.z (zfa nN) (.y hs (zld af) (.nil (.block (.aj (.z fm (.zn zg (.bA rfl (fun hc23=>?_) (fun hc23=>?_)))))))))))
 ·refine .seq (.draw mix rfl hs fun w hs=>?_)
  refine .zw 0 rfl (zfa bV) ?_;refine .y 1 rfl hs aq ?_;refine .z 2 rfl (zfa bh) ?_;refine .y 3 rfl hs aq ?_;refine .z 4 rfl (zfa ef) ?_;refine .y 5 rfl hs af ?_;refine .z 6 rfl cK ?_
  obtain ⟨hk1,_,⟨hw2,hw3⟩,hw1⟩:q.kind=1∧q.st=0∧(0≤q.wa∧q.wa≤(s.wa.length:Int) - 1)∧0<q.wa:=by omega
  obtain ⟨m,hm⟩:∃m:Nat,q.wa=m:=⟨q.wa.toNat,an⟩
  have hmt:q.wa.toNat=m:=by omega
  have hP:fB 7 15000 (s.wa.take (m+1)):=hok.wa.take an an
  have hdv:oy q=648000000:=by unfold oy;rw [if_pos hk1]
  refine .zw 7 rfl (pv (k:=m+1) rfl rfl ae ai an an) (.E 8 hs ?_)
  refine .call Tryz.call213 rfl (wP hs h1 (h2.head (k:=m+1) an) hok.st hP) ?_;rintro _ w ⟨H1,vo,hle1,rfl,hG,hs⟩
  have hgl:=kN (wts s.st) (wts (s.wa.take (m+1))) s.st.length
  have hyl:(wts (s.wa.take (m+1))).length=m+1:=by rw [eY,List.length_take];omega
  have hgr:∀i<s.st.length,(gr (nA (wts s.st) (wts (s.wa.take (m+1))) s.st.length) i).length=m+1:=fun i hi=>by rw [zu hi,kq,hyl]
  have hgt:∀i<s.st.length,∀k≤m,gi (gr (nA (wts s.st) (wts (s.wa.take (m+1))) s.st.length) i) k=kX s q i k:=fun i hi k hk=>by
   have:=Co (X:=wts s.st) (Y:=wts (s.wa.take (m+1))) (n:=s.st.length) (k:=k) hi an
   unfold gt at this
   rw [this];unfold kX;rw [if_pos hk1,if_pos an,hmt]
  have hgz:∀i k,m<k→kX s q i k=0:=fun i k hk=>by unfold kX;rw [if_pos hk1,if_neg an]
  generalize nA (wts s.st) (wts (s.wa.take (m+1))) s.st.length=G at*
  obtain ⟨aG,cG,rfl⟩:=hG.shape
  refine .go (.zw 9 rfl zm ?_);refine .z 10 rfl zex ?_;refine .z 11 rfl zex ?_;refine .z 12 rfl zg ?_;refine .z 13 rfl zg ?_;refine .D hs ?_
  refine .seq (.aj (.zn zg (.block ?_)))
  refine .loop (fun i:Nat=>⟨127,[],[(9,I (i:Int)),(7,.slice aG G.length cG),(6,.slice (some ⟨b20,0,none⟩) (s.many+1) (s.many+1)),(3,Pt b3),(2,Pt b2)]⟩)
   (fun i w=>i≤s.st.length∧∃L,WI s L (fun i' k'=>if i'<i then kX s q i' k' else 0)∧St H1 w (.blk b20 (Is L):: .blk b3 [I q.kind,I q.st,I q.wa]:: .blk b2 [I s.id,I s.src,.slice ast s.st.length cst,.slice awa s.wa.length cwa,I s.al,I s.up]::σ)) (fun i=>s.st.length - i) 0 (.cJ rfl cq aU)
   ⟨Nat.zero_le _,L0,hW0.congr fun i k _ _=>by rw [if_neg an],hs⟩ ?_
  clear hs hW0
  rintro i w ⟨hi,L,hW,hs⟩
  refine .seq (.aj (.z zm (.z zm (.z (dc az) (.zn fM (.bA rfl (fun hc40=>?_) (fun hc40=>?_)))))))
  ·refine .skip (nT (.seq (.block (.aj (.zn zg (.block ?_))))))
   refine .loop (fun k:Nat=>⟨127,[],[(10,I (k:Int)),(9,I (i:Int)),(7,.slice aG G.length cG),(6,.slice (some ⟨b20,0,none⟩) (s.many+1) (s.many+1)),(3,Pt b3),(2,Pt b2)]⟩)
    (fun k w=>k≤m+1∧∃L,WI s L (fun i' k'=>if i'<i∨(i'=i∧k'<k) then kX s q i' k' else 0)∧St H1 w (.blk b20 (Is L):: .blk b3 [I q.kind,I q.st,I q.wa]:: .blk b2 [I s.id,I s.src,.slice ast s.st.length cst,.slice awa s.wa.length cwa,I s.al,I s.up]::σ)) (fun k=>m+1 - k) 0 (.cJ rfl cq aU)
    ⟨Nat.zero_le _,L,hW.congr fun i' k' _ _=>by
     by_cases e:i'<i
     ·rw [if_pos e,if_pos (.inl e)]
     ·rw [if_neg e,if_neg an],hs⟩ ?_
   clear hs hW
   rintro k w ⟨hk,L,hW,hs⟩
   have hWl:=hW.len
   have hil:i<s.st.length:=by omega
   have hgri:=hgr i hil
   refine .seq (.aj (.z zm (.z zm (.z zm (.ixT hs hG rfl rfl az aA (show i<_ by omega) da ?_)))));intro b46 o46 a46 c46 hc46 hR46
   refine .q hs (aJ rfl aq hc46) (.z (dc ae) ?_)
   rw [hgri]
   refine .zn fM (.bA rfl (fun hc49=>?_) (fun hc49=>?_))
   ·refine .skip (nT (.seq (.block (.draw mix rfl hs fun w hs=>?_))))
    have hk':k<m+1:=by omega
    have hub:=xy (s:=s) (i:=i) (k:=k) hil an
    refine .zw 0 rfl zm ?_;refine .ys 1 rfl hs [_,_,_,_,_,_] bg aM ?_;refine .z 2 rfl zm ?_;refine .z 3 rfl zm ?_;refine .z 5 rfl zm ?_;refine .z 6 rfl zm ?_
    refine .ixT (i:=7) hs rfl aD .none hG rfl rfl az aA (show i<_ by omega) da ?_;intro b59 o59 a59 c59 hc59 hR59
    refine .r (i:=8) hs rfl aD .none (aJ rfl aq hc59) ?_
    refine .zw 9 rfl zm (.ixX (enc:=fun x=>[I x]) (i:=10) hs rfl aD .none hR59 rfl rfl ae ai (bB (l:=(gr G i)) (i:=k) an) da ?_);intro b62 o62 hc62;replace hc62:=bL.one hc62
    refine .r (i:=11) hs rfl aD .none (aJ rfl af hc62) ?_
    refine .E 4 hs ?_
    refine .call kH rfl (dF (s:=s) hs (h2.mono hle1) an ⟨an,an⟩ ⟨an,an⟩) ?_;rintro _ w ⟨rfl,hs⟩
    rw [yT]
    refine .go (.zw 12 rfl (eF (k:=s.u i k) rfl rfl ae ai rfl an) (.E 13 hs ?_))
    refine .store hs rfl rfl ai ?_ dn (by simp [Is];omega);intro w hs
    refine .go (.D hs (nB (nT (.region (.z zm (.z cK (.zn zg (nT ?_))))))))
    exact ⟨k+1,.cJ rfl cq aU,⟨an,_,(hW.set hil an _).congr fun i' k' _ _=>by
     rw [hgt i hil k an]
     by_cases e:i'=i∧k'=k
     ·obtain ⟨rfl,rfl⟩:=e
      rw [if_pos ⟨rfl,rfl⟩,if_pos (.inr ⟨rfl,an⟩)]
     ·rw [if_neg e]
      by_cases e2:i'<i∨(i'=i∧k'<k)
      ·rw [if_pos e2,if_pos an]
      ·rw [if_neg e2,if_neg an],hs⟩,an⟩
   ·refine .exit (xT (xT (xB (nB (nT (.region (.z zm (.z cK (.zn zg (nT ?_))))))))))
    exact ⟨i+1,.cJ rfl cq aU,⟨an,L,hW.congr fun i' k' _ _=>by
     by_cases e:i'<i+1
     ·rw [if_pos e]
      by_cases e2:i'<i∨(i'=i∧k'<k)
      ·rw [if_pos e2]
      ·rw [if_neg e2,hgz i' k' an]
     ·rw [if_neg e,if_neg an],hs⟩,an⟩
  ·refine .exit (xT (xT (xB (nT (.aj (.z zm (.z zg (.zn zg (.ret (rB (rT (Fin.gL Tryz.results156 rfl rfl ?_))))))))))))
   obtain rfl:=(hW.congr (g:=kX s q) fun i' k' hi' _=>by rw [if_pos an]).fin
   rw [←hdv]
   exact ⟨H1,_,_,hle1,rfl,.full (by simp [Is,hlen]),hs.sb⟩
 ·refine .aj (.z fm (.zn zg (.bA rfl (fun hc66=>?_) (fun hc66=>?_))))
  ·refine .aj (.z (zfa bV) (.y hs (zld aq) ?_))
   have hk1:q.kind=2:=by omega
   obtain ⟨m,hm⟩:∃m:Nat,q.wa=m:=⟨q.wa.toNat,an⟩
   have hdv:oy q=180000:=by unfold oy;rw [if_neg an,if_pos an]
   have hl:=eY s.st
   have hwt:∀i k,kX s q i k=if k=m then gi (wts s.st) i else 0:=fun i k=>by
    unfold kX;rw [if_neg an,if_pos hk1]
    by_cases e:k=m
    ·rw [if_pos e,if_pos an]
    ·rw [if_neg e,if_neg an]
   refine .o (.call Tryz.call214 rfl (mJ hs h1 hok.st) ?_);rintro _ w ⟨H1,vo,hle1,rfl,hX,hs⟩
   obtain ⟨aX,cX,rfl⟩:=RI.shape hX
   rw [hl]
   refine .z zm (.z zex (.z zex (.z zg (.zn zg (.seq (.aj (.zn zg (.block ?_))))))))
   refine .loop (fun i:Nat=>⟨127,[],[(13,I (i:Int)),(11,.slice aX s.st.length cX),(6,.slice (some ⟨b20,0,none⟩) (s.many+1) (s.many+1)),(3,Pt b3),(2,Pt b2)]⟩)
    (fun i w=>i≤s.st.length∧∃L,WI s L (fun i' k'=>if i'<i then kX s q i' k' else 0)∧St H1 w (.blk b20 (Is L):: .blk b3 [I q.kind,I q.st,I q.wa]:: .blk b2 [I s.id,I s.src,.slice ast s.st.length cst,.slice awa s.wa.length cwa,I s.al,I s.up]::σ)) (fun i=>s.st.length - i) 0 (.cJ rfl cq aU)
    ⟨Nat.zero_le _,L0,hW0.congr fun i k _ _=>by rw [if_neg an],hs⟩ ?_
   clear hs hW0
   rintro i w ⟨hi,L,hW,hs⟩
   have hWl:=hW.len
   rw [hl] at hX
   refine .seq (.aj (.z zm (.z zm (.z (dc ae) (.zn fM (.bA rfl (fun hc77=>?_) (fun hc77=>?_)))))))
   ·refine .skip (nT (.seq (.block (.draw mix rfl hs fun w hs=>?_))))
    refine .zw 0 rfl zm ?_;refine .ys 1 rfl hs [_,_,_,_,_,_] bg aM ?_;refine .z 2 rfl zm ?_;refine .z 3 rfl (zfa ef) ?_;refine .y 4 rfl hs af ?_;refine .z 6 rfl zm ?_;refine .z 7 rfl zm ?_
    refine .ixX (enc:=fun x=>[I x]) (i:=8) hs rfl aD .none (by rw [hl] at*;exact hX) rfl rfl ae ai (bB (l:=wts s.st) (i:=i) an) da ?_;intro b88 o88 hc88;replace hc88:=bL.one hc88
    refine .zv 9 rfl hs (nx af) (.E 5 hs ?_)
    have hil:i<s.st.length:=by omega
    have hub:=xy (s:=s) (i:=i) (k:=m) hil an
    refine .call kH rfl (dF (s:=s) hs (h2.mono hle1) an ⟨an,an⟩ ⟨an,an⟩) ?_;rintro _ w ⟨rfl,hs⟩
    rw [show 1+(i:Int)*(s.wa.length:Int)+q.wa=(s.u i m:Int) by rw [hm,yT]]
    refine .go (.zw 10 rfl (eF (k:=s.u i m) rfl rfl ae ai rfl an) (.E 11 hs ?_))
    refine .store hs rfl rfl ai ?_ dn (by simp [Is];omega);intro w hs
    refine .go (.D hs (nB (nT (.region (.z zm (.z cK (.zn zg (nT ?_))))))))
    exact ⟨i+1,.cJ rfl cq aU,⟨an,_,(hW.set hil (show m<s.wa.length by omega) _).congr fun i' k' _ _=>by
     rw [hwt i' k']
     by_cases e:i'=i∧k'=m
     ·obtain ⟨rfl,rfl⟩:=e
      rw [if_pos ⟨rfl,rfl⟩,if_pos (Nat.lt_succ_self _),if_pos rfl]
     ·rw [if_neg e]
      by_cases e2:i'<i
      ·rw [if_pos e2,if_pos (show i'<i+1 by omega)]
      ·rw [if_neg e2]
       by_cases e3:i'<i+1
       ·rw [if_pos e3,if_neg (show ¬k'=m by omega)]
       ·rw [if_neg e3],hs⟩,an⟩
   ·refine .exit (xT (xT (xB (nT (.aj (.z zm (.z zg (.zn zg (.ret (rB (rT (Fin.gL Tryz.results156 rfl rfl ?_))))))))))))
    obtain rfl:=(hW.congr (g:=kX s q) fun i' k' hi' _=>by rw [if_pos an]).fin
    rw [←hdv]
    exact ⟨H1,_,_,hle1,rfl,.full (by simp [Is,hlen]),hs.sb⟩
  ·refine .aj (.z fm (.zn zg (.bA rfl (fun hc92=>?_) (fun hc92=>?_))))
   ·refine .aj (.z (zfa bh) (.y hs (zld aq) ?_))
    have hk1:q.kind=3:=by omega
    obtain ⟨m,hm⟩:∃m:Nat,q.st=m:=⟨q.st.toNat,an⟩
    have hdv:oy q=180000:=by unfold oy;rw [if_neg an,if_pos an]
    have hl:=eY s.wa
    have hwt:∀i k,kX s q i k=if i=m then gi (wts s.wa) k else 0:=fun i k=>by
     unfold kX;rw [if_neg an,if_neg an,if_pos hk1]
     by_cases e:i=m
     ·rw [if_pos e,if_pos an]
     ·rw [if_neg e,if_neg an]
    refine .o (.call Tryz.call214 rfl (mJ hs h2 (Bc hok)) ?_);rintro _ w ⟨H1,vo,hle1,rfl,hX,hs⟩
    obtain ⟨aX,cX,rfl⟩:=RI.shape hX
    rw [hl]
    refine .z zm (.z zex (.z zex (.z zg (.zn zg (.seq (.aj (.zn zg (.block ?_))))))))
    refine .loop (fun k:Nat=>⟨127,[],[(16,I (k:Int)),(14,.slice aX s.wa.length cX),(6,.slice (some ⟨b20,0,none⟩) (s.many+1) (s.many+1)),(3,Pt b3),(2,Pt b2)]⟩)
     (fun k w=>k≤s.wa.length∧∃L,WI s L (fun i' k'=>if k'<k then kX s q i' k' else 0)∧St H1 w (.blk b20 (Is L):: .blk b3 [I q.kind,I q.st,I q.wa]:: .blk b2 [I s.id,I s.src,.slice ast s.st.length cst,.slice awa s.wa.length cwa,I s.al,I s.up]::σ)) (fun k=>s.wa.length - k) 0 (.cJ rfl cq aU)
     ⟨Nat.zero_le _,L0,hW0.congr fun i k _ _=>by rw [if_neg an],hs⟩ ?_
    clear hs hW0
    rintro k w ⟨hi,L,hW,hs⟩
    have hWl:=hW.len
    rw [hl] at hX
    refine .seq (.aj (.z zm (.z zm (.z (dc ae) (.zn fM (.bA rfl (fun hc103=>?_) (fun hc103=>?_)))))))
    ·refine .skip (nT (.seq (.block (.draw mix rfl hs fun w hs=>?_))))
     refine .zw 0 rfl zm ?_;refine .ys 1 rfl hs [_,_,_,_,_,_] bg aM ?_;refine .z 2 rfl (zfa fh) ?_;refine .y 3 rfl hs af ?_;refine .z 4 rfl zm ?_;refine .z 6 rfl zm ?_;refine .z 7 rfl zm ?_
     refine .ixX (enc:=fun x=>[I x]) (i:=8) hs rfl aD .none (by rw [hl] at*;exact hX) rfl rfl ae ai (bB (l:=wts s.wa) (i:=k) an) da ?_;intro b114 o114 hc114;replace hc114:=bL.one hc114
     refine .zv 9 rfl hs (nx af) (.E 5 hs ?_)
     have hil:k<s.wa.length:=by omega
     have hub:=xy (s:=s) (i:=m) (k:=k) an hil
     refine .call kH rfl (dF (s:=s) hs (h2.mono hle1) an ⟨an,an⟩ ⟨an,an⟩) ?_;rintro _ w ⟨rfl,hs⟩
     rw [show 1+q.st*(s.wa.length:Int)+(k:Int)=(s.u m k:Int) by rw [hm,yT]]
     refine .go (.zw 10 rfl (eF (k:=s.u m k) rfl rfl ae ai rfl an) (.E 11 hs ?_))
     refine .store hs rfl rfl ai ?_ dn (by simp [Is];omega);intro w hs
     refine .go (.D hs (nB (nT (.region (.z zm (.z cK (.zn zg (nT ?_))))))))
     exact ⟨k+1,.cJ rfl cq aU,⟨an,_,(hW.set (show m<s.st.length by omega) hil _).congr fun i' k' _ _=>by
      rw [hwt i' k']
      by_cases e:i'=m∧k'=k
      ·obtain ⟨rfl,rfl⟩:=e
       rw [if_pos ⟨rfl,rfl⟩,if_pos (Nat.lt_succ_self _),if_pos rfl]
      ·rw [if_neg e]
       by_cases e2:k'<k
       ·rw [if_pos e2,if_pos (show k'<k+1 by omega)]
       ·rw [if_neg e2]
        by_cases e3:k'<k+1
        ·rw [if_pos e3,if_neg (show ¬i'=m by omega)]
        ·rw [if_neg e3],hs⟩,an⟩
    ·refine .exit (xT (xT (xB (nT (.aj (.z zm (.z zg (.zn zg (.ret (rB (rT (Fin.gL Tryz.results156 rfl rfl ?_))))))))))))
     obtain rfl:=(hW.congr (g:=kX s q) fun i' k' _ hk'=>by rw [if_pos an]).fin
     rw [←hdv]
     exact ⟨H1,_,_,hle1,rfl,.full (by simp [Is,hlen]),hs.sb⟩
   ·refine .skip (nB (nT (.aj (.z zm (.y hs (zls [_,_,_,_,_,_] bg aM) (.z (zfa fh) (.y hs (zld af) (.z (zfa ef) (.y hs (zld af) ?_)))))))))
    have hk1:q.kind=4:=by omega
    obtain ⟨m,hm⟩:∃m:Nat,q.st=m:=⟨q.st.toNat,an⟩
    obtain ⟨c,hc⟩:∃c:Nat,q.wa=c:=⟨q.wa.toNat,an⟩
    have hdv:oy q=1:=by unfold oy;rw [if_neg an,if_neg an]
    have hub:=xy (s:=s) (i:=m) (k:=c) an an
    have hWl:=hW0.len
    refine .o (.call kH rfl (dF (s:=s) hs h2 an ⟨an,an⟩ ⟨an,an⟩) ?_);rintro _ w ⟨rfl,hs⟩
    rw [hm,hc,yT]
    refine .q hs (eF (k:=s.u m c) rfl rfl ae ai rfl an) (.o (.store hs rfl rfl ai ?_ dn (by simp [Is];omega)));intro w hs
    refine .nil (.aj (.z zm (.z zg (.zn zg (.ret (Fin.gL Tryz.results156 rfl rfl ?_))))))
    have hfin:=((hW0.set (show m<s.st.length by omega) (show c<s.wa.length by omega) 1).congr (g:=kX s q) fun i' k' _ _=>by
     unfold kX
     rw [if_neg (show ¬q.kind=1 by omega),if_neg (show ¬q.kind=2 by omega),if_neg (show ¬q.kind=3 by omega)]
     by_cases e:i'=m∧k'=c
     ·rw [if_pos e,if_pos an]
     ·rw [if_neg e,if_neg an]).fin
    rw [hfin] at hs
    rw [←hdv]
    exact ⟨H,_,_,HLe.refl H,rfl,.full (by simp [Is,hlen]),hs.sb⟩
end Go.Proofs.YteajddicacjkhaaGreat
