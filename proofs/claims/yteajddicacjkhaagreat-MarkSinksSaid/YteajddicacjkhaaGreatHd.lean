/-
  Texts of these claims, joined: Za Zb Zc Zd Ze Zf Zg Zh Zi Zj Zk Zl Zm Zn Zo Zp Zt Zv Zw.
-/
import Derived.Test.YteajddicacjkhaaGreatHc
namespace Go.Proofs.YteajddicacjkhaaGreat
open Go.MW Tryz
variable{H:cu}{σ:List Ent}{a0 a1 a2 x most a hi lo f d e z1 z2 z3:Int}{l:Lns}{ls:List Lim}{g b k bf bt bl cl i j bm:Nat}{cap sp:List Value}{s:Spc}{xs ts lf ws L X Y l1 l2 sl pk ks dC:List Int}{en:Ent}{vl vt vp vw vm vx v1 v2 cE cB vr vc vh vs v5 v4 fX:Value}{m:Rng}{Ms rows:List (List Int)}{t:TD}{high:Bool}{ie:List F5}{ir:List F4}
theorem tw{w:World}(hs:St H w σ):aaR 284 [I a0,I a1,I a2] w fun v w'=>v= .bool (decide (a1≤a0∧a0≤a2))∧St H w' σ:=by
 refine Cl.o func284 ntmps284 ag3 ?_;refine .af (.zn zg (.af (.z zm (.z zm (.z oY (.z zm (.iz (t':=10) rfl (fun pP=>?_) (fun pP=>?_))))))))
 ·exact .T (.z zm (.T (.z zm (.T (.z oY (.z zpT (.zn zg (.ret (Fin.bj results284 rfl ⟨by simp [*],hs.out⟩)))))))))
 ·exact .Fs 3 3 true (.z zpF (.zn zg (.ret (Fin.bj results284 rfl ⟨by simp [*],hs.out⟩))))
theorem j9{w:World}{v:Value}{l:List Int}{many:Nat}(hs:St H w σ)(hr:RI H v l):
  aaR 259 [v,I many,I most] w fun v w'=>∃b:Bool,v= .bool b∧(b=true↔fP many most l)∧St H w' σ:=by
 obtain ⟨a,c,rfl⟩:=RI.shape hr;have hlen:=(RI.len hr).2.2;refine Cl.o func259 ntmps259 ag3 ?_;refine .af (.zn zg (.seq (.af (.z zm (.z (de ae) (.z zm (.o (.call call284 rfl (tw hs) ?_))))))));rintro _ w ⟨rfl,hs⟩;refine .z fU (.z zm (.bif (t':=14) rfl (fun CZ=>?_) (fun CZ=>?_)))
 ·exact .Fs 4 5 false (.z zpT (.z zm (.Fs 8 11 false (.zn zpT (.cT (.af (.zn zg (.ret (rT (Fin.bj results259 rfl ⟨false,rfl,⟨fun h=>(by cases h),fun h=>by have:=h.two;have:=h.many;simp at CZ;omega⟩,hs⟩))))))))))
 ·refine .T (.z zm (.T ?_));have Qc:2≤l.length∧l.length≤many:=by simp at CZ;omega
  refine .ixY hs hr rfl rfl ae an (bu (l:=l) (i:=0) ai) cK ?_;intro nx o16 eC;refine .T (.q hs (aC rfl aj eC) (.T (.z fN (.z zpF (.z zm (.iz (t':=20) rfl (fun IV=>?_) (fun IV=>?_)))))))
  ·exact .Fs 8 11 false (.zn zpT (.cT (.af (.zn zg (.ret (rT (Fin.bj results259 rfl ⟨false,rfl,⟨fun h=>(by cases h),fun h=>by have:=h.low;omega⟩,hs⟩)))))))
  ·refine .T (.z zm (.T (.z zm (.T (.z (de ae) (.T (.z gx (.T (.ixY hs hr rfl rfl ae an (bu (l:=l) (i:=(l.length - 1)) ai) cK ?_)))))))));intro Dy o25 fc;refine .T (.q hs (aC rfl aj fc) (.T (.z zm (.T (.z kU (.zn zpF (.bh rfl (fun nO=>?_) (fun nO=>?_))))))))
   ·exact .af (.zn zg (.ret (rT (Fin.bj results259 rfl ⟨false,rfl,⟨fun h=>(by cases h),fun h=>by have:=h.high;omega⟩,hs⟩))))
   ·refine .skip (nT (.seq (.af (.z zm (.q hs (DZ (k:=1) rfl rfl ae an ai ai) (.z (de ae) (.zn zm (.for (N:=l.length - 1) (J:=fun k fr w=>fr=[(31,.slice (if c=1 then a else a.map (·.add (1*1))) (l.length - 1) (c - 1)),(0,.slice a l.length c)]∧(∀j<k,gi l j<gi l (j+1))∧St H w σ) ai ?_ ?_ ?_))))))))
    ·exact .mk ⟨rfl,fun j hj=>by omega,hs⟩
    ·rintro k fr w hk ⟨rfl,eE,hs⟩;have ht:=hr.tail (k:=1) ai;have hx:(l.drop 1)[k]? =some (gi l (k+1)):=by rw [List.getElem?_drop,Nat.add_comm];exact bu ai
     refine .block (.af (.z zm (.ixY hs ht rfl rfl ae an hx rfl ?_)));intro Vs o36 oN;refine .q hs (aC rfl aj oN) (.z zg (.zn zg (.af (.z zm (.z zm (.ixY hs hr rfl rfl ae an (bu (l:=l) (i:=k) ai) cK ?_))))));intro Up o40 nN;refine .q hs (aC rfl aj nN) (.z zm (.zn xv (.bh rfl (fun yC=>?_) (fun yC=>?_))))
     ·exact .af (.zn zg (.ret (rB (rT (rB (rT (Fin.bj results259 rfl ⟨false,rfl,⟨fun h=>(by cases h),fun h=>by have:=h.rise k ai;omega⟩,hs⟩)))))))
     ·refine .skip (nB (nT ?_));exact .mk ⟨rfl,fun j hj=>by
       by_cases e:j=k
       ·subst e;omega
       ·exact eE j ai,hs⟩
    ·rintro fr w ⟨rfl,eE,hs⟩;exact nT (.af (.zn zg (.ret (Fin.bj results259 rfl ⟨true,rfl,⟨fun _=>⟨ai,ai,ai,ai,fun i hi=>eE i ai⟩,fun _=>rfl⟩,hs⟩))))
theorem qD{w:World}{v:Value}{l:List Int}(hs:St H w σ)(hr:RI H v l):
  aaR 299 [v] w fun v w'=>∃e,v=I e∧((fP 9 100000 l∧e=0)∨(¬fP 9 100000 l∧e≠0))∧St H w' σ:=by
 obtain ⟨a,c,rfl⟩:=RI.shape hr;refine Cl.o func299 ntmps299 ag1 ?_;refine .af (.zn zg (.seq (.af (.z zm (.o (.call call259 rfl (j9 (many:=9) (most:=100000) hs hr) ?_))))));rintro _ w ⟨b4,rfl,TM,hs⟩;refine .zn fU (.cond rfl (fun KY=>?_) (fun KY=>?_))
 ·exact .af (.zn zg (.ret (rT (Fin.bj results299 rfl ⟨_,rfl,.inr ⟨fun h=>by simp [TM.2 h] at KY,by decide⟩,hs⟩))))
 ·exact .skip (nT (.af (.zn zg (.ret (Fin.bj results299 rfl ⟨_,rfl,.inl ⟨TM.1 (by simpa using KY),rfl⟩,hs⟩)))))
theorem kq{w:World}{b:Int}(hs:St H w σ)(ha:0<a)(hb:0<b∧b≤100000):
  aaR 287 [I a,I b] w fun v w'=>v=I (rat a b)∧St H w' σ:=by
 have h1:0≤b.tdiv a:=Int.tdiv_nonneg ai ai;have h2:b.tdiv a≤b:=by rw [Int.tdiv_eq_ediv_of_nonneg ai];exact Int.ediv_le_self _ ai
 have hw:=nM (m:=b.tdiv a) ⟨ai,ai⟩;refine Cl.o func287 ntmps287 ag2 ?_;refine .af (.zn zg (.seq (.af (.z zm (.z zm (.z E9 (.z fy (.z zm (.iz (t':=9) rfl (fun QB=>?_) (fun QB=>?_))))))))))
 ·refine .T (.z zm (.T (.z zm (.T (.z Ru (.T (.z oY (.zn zpT (.bh rfl (fun jH=>?_) (fun jH=>?_))))))))))
  ·refine .af (.z zm (.z zm (.z Ru (.zn zg (.ret (rT (Fin.bj results287 rfl ?_)))))));rw [hw] at jH ⊢;exact ⟨by unfold rat;rw [if_pos ⟨by assumption,by assumption⟩],hs⟩
  ·refine .skip (nT (.af (.zn zg (.ret (Fin.bj results287 rfl ?_)))));rw [hw] at jH;exact ⟨by unfold rat;rw [if_neg ai],hs⟩
 ·exact .Fs 4 4 true (.zn zpF (.cF (.skip (nT (.af (.zn zg (.ret (Fin.bj results287 rfl ⟨by unfold rat;rw [if_neg ai],hs⟩))))))))
def vE(l:List Int):List (List Value):=(pQ l).map fun g=>[Value.agg #[I (g.at_:Int),I (g.n:Int)]]
theorem JA{l:List Int}(hp:fP 9 100000 l){i:Nat}(h:i+2<l.length):fA l i=true↔0<rat (gi l (i+1) - gi l i) (gi l (i+2) - gi l (i+1))∨0<rat (gi l (i+2) - gi l (i+1)) (gi l (i+1) - gi l i):=by
 have h1:=hp.rise i ai;have h2:gi l (i+1)<gi l (i+2):=hp.rise (i+1) ai;unfold fA;rw [JE ai ai];simp only [Bool.and_eq_true,decide_eq_true_eq];omega
theorem tx{v:Value}{l:List Int}(hp:fP 9 100000 l)(hb:Row H b [v])(hr:RI H v l):Iter Tryz.prog 302 [Pt b] H (vE l):=by
 intro ly II Ix _ _ hy H0 GJ σf w hle B5 hs;obtain ⟨a,c,rfl⟩:=RI.shape hr;have hlen:=hp.many;have A3:cellAt H0 b 0=some (.slice a l.length c):=cellAt.mono (hb.at 0) hle;refine Cl.o func302 ntmps302 ag2 ?_;refine .af (.zn zg (.block ?_));refine .loop (fun i:Nat=>⟨59,[],[(3,I (i:Int)),(0,.func (.yield ly) #[] #[]),(1,Pt b)]⟩)
  (fun i w=>i≤l.length∧∃j,j≤(pQ l).length∧(pQ l).drop j=qw l i∧∃H1 σb,HLe H H1∧HLe H0 H1∧II j H1 σb∧St H1 w (σb++σf)) (fun i=>l.length - i) 0 (.cD rfl bH aH)
  ⟨Nat.zero_le _,0,Nat.zero_le _,rfl,H0,GJ,hle,HLe.refl _,B5,hs⟩ ?_
 clear hs B5;rintro i w ⟨pI,j,hj,hd,H1,σb,az,fO,hI,hs⟩;have B3:cellAt H1 b 0=some (.slice a l.length c):=cellAt.mono A3 fO;refine .seq (.af (.z zm (.z cH (.y hs (zld aq) (.z (de ae) (.zn fN (.bh rfl (fun pL=>?_) (fun pL=>?_))))))))
 ·refine .skip (nT (.block (.af (.z zm (.z (zbd [_,_] vY) (.o (.alloc hs R7 rfl fun b4 w hs=>?_)))))));refine .o (.aE (vs:=[_,_]) hs rfl rfl Jg fun w hs=>?_);refine .nil (.cut (fun fs w=>kG fs ⟨59,[],[(4,Pt b4),(3,I (i:Int)),(0,.func (.yield ly) #[] #[]),(1,Pt b)]⟩∧St H1 w (.blk b4 [I (i:Int),I (((if fA l i then 2 else 1:Nat)):Int)]::(σb++σf))) ?_ ?_)
  ·refine .af (.z zm (.z cH (.y hs (zld aq) (.z (de ae) (.zn fN (.bh rfl (fun ib=>?_) (fun ib=>?_)))))))
   ·refine .seq (.draw mix rfl hs fun w hs=>?_);refine .y 0 rfl hs aq ?_;refine .z 1 rfl zm ?_;refine .z 2 rfl cH ?_;have r1:=hp.rise i ai;have r2:gi l (i+1)<gi l (i+2):=hp.rise (i+1) ai;have IK:=JA hp (i:=i) ai;have q1:=hp.bd (i:=i) ai;have q2:=hp.bd (i:=i+2) ai;refine .ixX (enc:=fun x=>[I x]) (i:=3) hs rfl aA .none (hr.mono az) rfl rfl ae an (bu (l:=l) (i:=(i+1)) ai) cK ?_;intro Vt o22 jm;replace jm:=bD.one jm;refine .r (i:=4) hs rfl aA .none (aC rfl aj jm) ?_;refine .y 5 rfl hs aq ?_;refine .z 6 rfl zm ?_;refine .ixX (enc:=fun x=>[I x]) (i:=7) hs rfl aA .none (hr.mono az) rfl rfl ae an (bu (l:=l) (i:=i) ai) cK ?_;intro Ur o26 iV;replace iV:=bD.one iV;refine .r (i:=8) hs rfl aA .none (aC rfl aj iV) ?_;refine .zw 9 rfl gx ?_;refine .y 10 rfl hs aq ?_;refine .z 11 rfl zm ?_;refine .z 12 rfl cH ?_;refine .ixX (enc:=fun x=>[I x]) (i:=13) hs rfl aA .none (hr.mono az) rfl rfl ae an (bu (l:=l) (i:=(i+2)) ai) cK ?_;intro b32 o32 sY;replace sY:=bD.one sY;refine .r (i:=14) hs rfl aA .none (aC rfl aj sY) ?_;refine .y 15 rfl hs aq ?_;refine .z 16 rfl zm ?_;refine .z 17 rfl cH ?_;refine .ixX (enc:=fun x=>[I x]) (i:=18) hs rfl aA .none (hr.mono az) rfl rfl ae an (bu (l:=l) (i:=(i+1)) ai) cK ?_;intro By o37 qb;replace qb:=bD.one qb;refine .r (i:=19) hs rfl aA .none (aC rfl aj qb) ?_;refine .zw 20 rfl gx ?_;refine .z 21 rfl zg ?_;refine .z 22 rfl zg ?_;refine .D hs ?_;refine .af (.z zm (.z zm (.o (.call call287 rfl (kq hs ai ai) ?_))));rintro _ w ⟨rfl,hs⟩;refine .z kU (.z zm (.iz (t':=44) rfl (fun IU=>?_) (fun IU=>?_)))
    ·refine .Fs 4 4 false (.zn zpT (.cT (.region (.z (zfa kj) (.o (.store hs rfl rfl an fun w hs=>?_))))));refine .nil (nT ?_);rw [IK.2 (.inl IU)];exact ⟨aH,hs⟩
    ·refine .T (.z zm (.T (.z zm (.T (.o (.call call287 rfl (kq hs ai ai) ?_))))));rintro _ w ⟨rfl,hs⟩;refine .T (.z kU (.zn zpF (.bh rfl (fun sX=>?_) (fun sX=>?_))))
     ·refine .region (.z (zfa kj) (.o (.store hs rfl rfl an fun w hs=>?_)));refine .nil (nT ?_);rw [IK.2 (.inr sX)];exact ⟨aH,hs⟩
     ·refine .skip (nT ?_);rw [show fA l i=false from Bool.eq_false_iff.2 fun h=>by have:=IK.1 h;omega];exact ⟨aH,hs⟩
   ·refine .skip (nT ?_);rw [show fA l i=false by simp [fA];omega];exact ⟨aH,hs⟩
  ·rintro fs w ⟨fM,hs⟩;refine WE.sub ?_ fM;have RK:=Ax (l:=l) (i:=i) ai;rw [RK] at hd;have uq:j<(pQ l).length:=by
    have:=congrArg List.length hd;simp at this;omega
   have W8:(pQ l)[j]=⟨i,fA l i⟩:=by
    rw [List.drop_eq_getElem_cons uq] at hd;exact (List.cons.inj hd).1
   have Xe:(pQ l).drop (j+1)=qw l (i+(if fA l i then 2 else 1)):=by
    rw [List.drop_eq_getElem_cons uq] at hd;exact (List.cons.inj hd).2
   have WK:(if fA l i then 2 else 1:Nat)=1∨(if fA l i then 2 else 1:Nat)=2:=by split<;>simp
   refine .seq (.af (.z zm (.y hs (zls [_,_] isAgg315 Jg) ?_)));have tj:j<(vE l).length:=by simpa [vE] using uq
   have A0:=hy j tj H1 σb (.blk b4 [I (i:Int),I (((if fA l i then 2 else 1:Nat)):Int)]::σf) w az hI (St.deep hs);rw [show (vE l)[j]=[Value.agg #[I (i:Int),I (((if fA l i then 2 else 1:Nat)):Int)]] by simp only [vE,List.getElem_map,W8];rfl] at A0;refine .o (.yield rfl rfl A0 ?_);rintro v53 w ⟨H2,σ2,g1,hs,g3⟩;obtain ⟨bb,rfl,gT,gF⟩:=q7 g3;replace hs:=St.shallow hs;refine .zn fU (.cond rfl (fun IP=>?_) (fun IP=>?_))
   ·exact .ret (rT (rB (rT (rB (Fin.Rv results302 ⟨H2,σ2,fO.trans g1,hs.tail,.inr (gF (by simpa using IP))⟩)))))
   ·refine .skip (nT (.region (.z zm (.z (zfa kj) (.y hs (zld aj) (.z cH (.zn zg (nB (nT ?_)))))))));generalize (if fA l i then 2 else 1:Nat)=n at*;exact ⟨i+n,.cD rfl bH aH,⟨ai,j+1,uq,Xe,H2,σ2,az.trans g1,fO.trans g1,gT (by simpa using IP),hs.tail⟩,ai⟩
 ·refine .exit (xT (xT (xB ?_)));rw [xb ai] at hd;have:(pQ l).length≤j:=by simpa using hd
  obtain rfl:j=(pQ l).length:=by omega
  exact Fin.EO results302 ⟨H1,σb,fO,hs,.inl (by simpa [vE] using hI)⟩
theorem wB{w:World}{v:Value}{l:List Int}(hs:St H w σ)(hr:RI H v l)(hp:fP 9 100000 l):
  aaR 286 [v] w fun u w'=>∃H1 b,HLe H H1∧u= .func (.func 302) #[] #[Pt b]∧Iter Tryz.prog 302 [Pt b] H1 (vE l)∧St H1 w' σ:=by
 obtain ⟨a,c,rfl⟩:=RI.shape hr;refine Cl.o func286 ntmps286 ag1 ?_;refine .af (.bx hs fun b1 w hs=>?_);refine .zn zg (.af (.q hs (dU (f:=[]) (c:=[_]) rfl rfl) (.zn zg (.ret (Fin.bj results286 rfl ?_)))));obtain ⟨H1,g1,g2,hs⟩:=hs.dh .here;exact ⟨H1,b1,g1,rfl,tx hp g2 (hr.mono g1),hs⟩
theorem tc{w:World}{bs bW from_ n:Nat}{W:List Int}{v:Value}(hs:St H w (.blk bs [.slice (some ⟨bW,0,none⟩) n n]:: .blk bW (Is W)::σ))(hW:W.length=n)(hr:RI H v xs)(hl:from_+xs.length≤n)(hn:n≤9)
  (hz:bT W n≤1000000000) (ha:Cf xs≤1000000000):
  aaR 285 [Pt bs,I (from_:Int),v] w fun _ w'=>St H w' (.blk bs [.slice (some ⟨bW,0,none⟩) n n]:: .blk bW (Is (nY W from_ xs))::σ):=by
 obtain ⟨a,c,rfl⟩:=RI.shape hr;have hlen:=(RI.len hr).2.2;refine Cl.o func285 ntmps285 ag3 ?_;refine .af (.z zm (.z (de ae) (.zn zm (.for (N:=xs.length) (J:=fun k fr w=>fr=[(8,.slice a xs.length c),(0,Pt bs),(1,I (from_:Int))]∧St H w (.blk bs [.slice (some ⟨bW,0,none⟩) n n]:: .blk bW (Is (nY W from_ (xs.take k)))::σ)) ai ?_ ?_ ?_))))
 ·exact .mk ⟨rfl,hs⟩
 ·rintro k fr w hk ⟨rfl,hs⟩;have B4:=sj (xs.take k) W from_;have wm:=ug (xs.take k) W from_ (by rw [List.length_take];omega);rw [hW] at wm;have h1:=E1 xs k;have h2:=LS xs k;have h3:=jV (nY W from_ (xs.take k)) (v:=from_+k) (n:=n) ai;have h4:=I6 hk W from_;refine .block (.af (.z zm (.ixY hs hr rfl rfl ae an (bu (l:=xs) (i:=k) ai) cK ?_)));intro kP o13 gL;refine .q hs (aC rfl aj gL) (.z zg (.zn zg (.region (.z zm (.z znc (.z (zfa tl) (.y hs (zld aq) (.z zm (.z zm (.z cH (.q hs (eS (k:=from_+k) rfl rfl ae an ai ai) (.y hs (zld aj) (.z zm (.z cH (.q hs (eS (k:=from_+k) rfl rfl ae an ai ai) (.o (.store hs rfl rfl an fun w hs=>?_)))))))))))))))));exact .nil (nB (nT (.mk ⟨rfl,by rw [h4];exact hs⟩)))
 ·rintro fr w ⟨rfl,hs⟩;rw [List.take_length] at hs;exact Fin.EO results285 hs
theorem BV{b:Int}(ha:0<a∧a≤100000)(hb:0<b∧b≤100000):0≤min a b∧min a b≤100000:=by omega
theorem JF{b:Int}(h:0<tms a b):tms a b=1∨tms a b=2∨tms a b=3:=by have:=Oy a b;omega
set_option maxHeartbeats 1000000 in
theorem kX{w:World}{v:Value}{l:List Int}(hs:St H w σ)(hr:RI H v l)(hp:fP 9 100000 l):
  aaR 260 [v] w fun u w'=>∃H1,HLe H H1∧RI H1 u (wts l)∧St H1 w' σ:=by
 obtain ⟨a,c,rfl⟩:=RI.shape hr;have WV:=hp.many;have U8:(pQ l).length≤9:=by have:=oD l l.length 0;unfold pQ;omega
 refine Cl.o func260 ntmps260 ag1 ?_;refine .af (.bx hs fun b1 w hs=>?_);refine .zn zg (.af (.y hs (zld aq) (.z (de ae) (.o (.yu l.length hs rfl rfl ae kS rfl an dD ai fun kP w hs=>?_)))));refine .z (zbd [_] Dd) (.o (.alloc hs zeroValue317 rfl fun b3 w hs=>?_));refine .o (.aE (vs:=[_]) hs rfl rfl sizeOf317 fun w hs=>?_);refine .nil (.af (.q hs (dU (f:=[_]) (c:=[]) rfl rfl) (.o (.alloc hs zeroValue318 rfl fun b4 w hs=>?_))));refine .o (.store hs rfl rfl sizeOf318 fun w hs=>?_);refine .nil (.seq (.af (.y hs (zld aq) (.o (.call call286 rfl (wB hs hr hp) ?_)))));rintro _ w ⟨H1,AL,az,rfl,qO,hs⟩;refine .nil (.block ?_);refine .rangeFunc (gf:=302) (cap:=[Pt AL]) (xs:=vE l) (σb:=[.blk b3 [.slice (some ⟨kP,0,none⟩) l.length l.length],.blk kP (Is (zk l 0)),.blk b4 [.func (.func 285) #[Pt b3] #[]],.blk b1 [.slice a l.length c]]) (σf:=σ) (hs.sb) trivial rfl qO call302 (fun x hx=>by
   simp only [vE,List.mem_map] at hx;obtain ⟨j,_,rfl⟩:=hx;rfl) rfl
  (I:=fun j H' σb=>σb=[.blk b3 [.slice (some ⟨kP,0,none⟩) l.length l.length],.blk kP (Is (zk l j)),.blk b4 [.func (.func 285) #[Pt b3] #[]],.blk b1 [.slice a l.length c]]) (Ix:=fun _ _ _=>False)
  (fun j _ _ σ g1 g2=>g2) (fun _ _ _ _ _ h=>h) rfl ?_ ?_ (fun D c H' σb w _ h _=>h.elim)
 ·rintro ly j hj H2 xu xt w bg rfl hs ⟨rr,Du⟩;have uq:j<(pQ l).length:=by simpa [vE] using hj
  obtain ⟨g,hg⟩:=nth uq;rw [show (vE l)[j]=[Value.agg #[I (g.at_:Int),I (g.n:Int)]] by
   rw [List.getElem?_eq_getElem uq] at hg;simp only [vE,List.getElem_map,Option.some.inj hg]]
  obtain ⟨i1,i2,i3,i4,i5⟩:=Ay hp (List.mem_of_getElem? hg);have hK:=zj hg;have Ye:=pX l j;have hKz:=wy hp j ai;have Am:=hr.mono (az.trans bg);have IE:=hp.bd (i:=g.at_) ai;have Nn:=hp.bd (i:=g.at_+1) ai;generalize hA:gi l (g.at_+1) - gi l g.at_=A at*;refine .region (.o (.alloc hs R7 rfl fun b5 w hs=>?_));refine .o (.aE (vs:=[_,_]) hs rfl rfl Jg fun w hs=>?_);refine .nil (nT ⟨H2,[.blk b5 [I (g.at_:Int),I (g.n:Int)],.blk b3 [.slice (some ⟨kP,0,none⟩) l.length l.length],.blk kP (Is (zk l j)),.blk b4 [.func (.func 285) #[Pt b3] #[]],.blk b1 [.slice a l.length c]],HLe.refl _,hs,?_⟩);rintro w oI - hs;refine .block (.seq (.draw mix rfl hs fun w hs=>?_));refine .y 0 rfl hs aq ?_;refine .z 1 rfl (zfa iw) ?_;refine .y 2 rfl hs aj ?_;refine .z 3 rfl cH ?_;refine .ixX (enc:=fun x=>[I x]) (i:=4) hs rfl aA .none Am rfl rfl ae an (bu (l:=l) (i:=(g.at_+1)) ai) cK ?_;intro I2 o23 mK;replace mK:=bD.one mK;refine .r (i:=5) hs rfl aA .none (aC rfl aj mK) ?_;refine .y 6 rfl hs aq ?_;refine .z 7 rfl (zfa iw) ?_;refine .y 8 rfl hs aj ?_;refine .ixX (enc:=fun x=>[I x]) (i:=9) hs rfl aA .none Am rfl rfl ae an (bu (l:=l) (i:=g.at_) ai) cK ?_;intro R1 o28 kR;replace kR:=bD.one kR;refine .r (i:=10) hs rfl aA .none (aC rfl aj kR) ?_;refine .zw 11 rfl gx ?_;rw [hA];refine .zw 12 rfl zg ?_;refine .D hs ?_;refine .seq (.af (.z (zfa kj) (.y hs (zld aj) (.z fy ?_))))
  skip
  refine .nil (.bh rfl (fun mJ=>?_) (fun mJ=>?_))
  ·refine .af (.y hs (zld isAgg318) (.z (zfa iw) (.y hs (zld aj) (.z zm (.z kV (.z zm (.z kV (.o (.buildSlice (cells:=[_,_]) hs mq rfl rfl fun Rg w hs=>?_)))))))));have h2:g.two=false:=by
    cases e:g.two with
    |false=>rfl
    |true=>simp [Grp.n,e] at mJ
   obtain ⟨H3,bZ,r41,hs⟩:=cU.dR (xs:=[18*A,18*A]) (v:= .slice (some ⟨Rg,0,none⟩) 2 2) (.full (len:=2) rfl) bH hs dy;have OX:=Hs h2 hA;rw [OX] at hK i5;replace hs:St H3 w (.blk b3 [.slice (some ⟨kP,0,none⟩) l.length l.length]:: .blk kP (Is (zk l j)):: .blk b5 [I (g.at_:Int),I (g.n:Int)]:: .blk b4 [.func (.func 285) #[Pt b3] #[]]:: .blk b1 [.slice a l.length c]::oI):=hs.sb;refine .o (.sa (first:=[Pt b3]) (cap:=[]) rfl rfl call285 (tc (from_:=g.at_) (xs:=[18*A,18*A]) hs Ye r41 (by simp;omega) ai ai ai) ?_);rintro _ w hs;rw [←hK] at hs;exact .nil (.exit (xT (xB ⟨H3,_,bZ,(hs.sb:St H3 w (.blk b3 _:: .blk kP _:: .blk b4 _:: .blk b1 _::oI)),rfl⟩)))
  ·refine .skip (nT (.seq (.draw mix rfl hs fun w hs=>?_)));have h2:g.two=true:=by
    cases e:g.two with
    |true=>rfl
    |false=>simp [Grp.n,e] at mJ
   obtain ⟨j1,j2,j3,j4⟩:=i4 h2;have Zy:=hp.bd (i:=g.at_+2) ai;generalize hB:gi l (g.at_+2) - gi l (g.at_+1)=B at*;have U5:=JE (a:=A) (b:=B) ai ai;have hk:=JF j4;have CT:=BV (a:=A) (b:=B) ⟨ai,ai⟩ ⟨ai,ai⟩;obtain ⟨n1,n2,n3,n4⟩:=Hq hk CT.1 CT.2;obtain ⟨n5,n6,n7,n8,n9⟩:=n4 _ n3.1 n3.2;generalize hT:tms A B=T at*;generalize hM:min A B=M at*;have OX:=Hr h2 hA hB hT hM;refine .y 0 rfl hs aq ?_;refine .z 1 rfl (zfa iw) ?_;refine .y 2 rfl hs aj ?_;refine .z 3 rfl cH ?_;refine .ixX (enc:=fun x=>[I x]) (i:=4) hs rfl aA .none Am rfl rfl ae an (bu (l:=l) (i:=(g.at_+2)) ai) cK ?_;intro Rf o47 lC;replace lC:=bD.one lC;refine .r (i:=5) hs rfl aA .none (aC rfl aj lC) ?_;refine .y 6 rfl hs aq ?_;refine .z 7 rfl (zfa iw) ?_;refine .y 8 rfl hs aj ?_;refine .z 9 rfl cH ?_;refine .ixX (enc:=fun x=>[I x]) (i:=10) hs rfl aA .none Am rfl rfl ae an (bu (l:=l) (i:=(g.at_+1)) ai) cK ?_;intro Yr o53 CX;replace CX:=bD.one CX;refine .r (i:=11) hs rfl aA .none (aC rfl aj CX) ?_;refine .zw 12 rfl gx ?_;rw [hB];refine .zw 13 rfl zg ?_;refine .D hs ?_;refine .af (.z zm (.z zm (.o (.call call287 rfl (kq hs ai ai) ?_))));rintro _ w ⟨rfl,hs⟩;refine .z zm (.z zm (.o (.call call287 rfl (kq hs ai ai) ?_)));rintro _ w ⟨rfl,hs⟩;refine .z DK ?_;rw [←U5];refine .zn zg (.af (.z zm (.q hs (uO rfl rfl ai ai) (.z zm (.z cH (.z kV (.z zm (.z zm (.z Dq ?_)))))))));rw [hM];refine .z kV (.zn zg (.af (.z zm (.z zm (.z kV (.z zm (.z gx (.z kV (.z zm (.z zm (.z cH (.z kV (.z zm (.z cH (.z kV (.z zm (.z zm (.z kV (.z gx (.z kV (.o (.buildSlice (cells:=[_,_,_]) hs EW rfl rfl fun Um w hs=>?_))))))))))))))))))))));refine .zn zg (.cut (fun fs w=>∃H3,kG fs ⟨103,[],[(10,.slice (some ⟨Um,0,none⟩) 3 3),(5,Pt b5),(4,Pt b4),(3,Pt b3),(1,Pt b1)]⟩∧HLe H2 H3∧RI H3 (.slice (some ⟨Um,0,none⟩) 3 3) (Br l g)∧St H3 w (.blk b3 [.slice (some ⟨kP,0,none⟩) l.length l.length]:: .blk kP (Is (zk l j)):: .blk b5 [I (g.at_:Int),I (g.n:Int)]:: .blk b4 [.func (.func 285) #[Pt b3] #[]]:: .blk b1 [.slice a l.length c]::oI)) ?_ ?_)
   ·refine .af (.z zm (.z zm (.zn kU (.bh rfl (fun F3=>?_) (fun F3=>?_)))))
    ·refine .region (.z zm (.o (.call call270 rfl (ot (en:= .blk Um (Is [(6:Int).tdiv T*(1+T)*M*T*(2 - T),(6:Int).tdiv T*(1+T)*M*(1+T)*(1+T),(6:Int).tdiv T*(1+T)*M*(2*T - 1)])) (hs.sb:St H2 w (.blk Um _:: .blk b3 _:: .blk kP _:: .blk b5 _:: .blk b4 _:: .blk b1 _::oI)) (.full rfl) bH) ?_)));rintro _ w ⟨en95,X8,hs⟩;refine .nil (nT ?_);obtain ⟨H3,bZ,r90,hs⟩:=cU.dR X8 bH hs .here;rw [if_pos F3] at OX;rw [OX];exact ⟨H3,aH,bZ,r90,hs⟩
    ·refine .skip (nT ?_);obtain ⟨H3,bZ,r90,hs⟩:=cU.dR (xs:=[(6:Int).tdiv T*(1+T)*M*T*(2 - T),(6:Int).tdiv T*(1+T)*M*(1+T)*(1+T),(6:Int).tdiv T*(1+T)*M*(2*T - 1)]) (v:= .slice (some ⟨Um,0,none⟩) 3 3) (.full (len:=3) rfl) bH hs dy;rw [if_neg ai] at OX;rw [OX];exact ⟨H3,aH,bZ,r90,hs.sb⟩
   ·rintro fs w ⟨H3,fM,bZ,r90,hs⟩;refine WE.sub ?_ fM;refine .region (.y hs (zld isAgg318) (.z (zfa iw) (.y hs (zld aj) (.z zm (.o (.sa (first:=[Pt b3]) (cap:=[]) rfl rfl call285 (tc (from_:=g.at_) (xs:=Br l g) hs Ye r90 (by rw [Ht,show g.n=2 by unfold Grp.n;rw [h2];rfl];omega) ai ai ai) ?_))))));rintro _ w hs;rw [←hK] at hs;exact .nil (nB ⟨H3,_,bZ,(hs.sb:St H3 w (.blk b3 _:: .blk kP _:: .blk b4 _:: .blk b1 _::oI)),rfl⟩)
 ·rintro D H2 xu w bg rfl hs;rw [show (vE l).length=(pQ l).length by simp [vE],GM] at hs;replace hs:St H2 w (.obj D (.deferred (some [])):: .blk b3 [.slice (some ⟨kP,0,none⟩) l.length l.length]:: .blk kP (Is (wts l)):: .blk b4 [.func (.func 285) #[Pt b3] #[]]:: .blk b1 [.slice a l.length c]::σ):=hs;refine nB (nT (.af (.z (zfa tl) (.y hs (zld aq) (.zn zg (.ret ?_))))));obtain ⟨H3,bZ,hR,hs⟩:=cU.dR (xs:=wts l) (v:= .slice (some ⟨kP,0,none⟩) l.length l.length) (.full (by simp [Is,fu])) (by rw [fu];omega) hs dy;exact Fin.iT [D] [] hs fun w hs=>⟨_,results1 results260 rfl,H3,az.trans (bg.trans bZ),hR,hs.out⟩
def Dr(X Y:List Int)(i:Nat):List Int:=(List.range Y.length).map fun k=>gi X i*gi Y k
def pR(X Y:List Int)(i:Nat):List (List Int):=(List.range i).map (Dr X Y)
theorem lM(X Y:List Int)(i:Nat):(Dr X Y i).length=Y.length:=by simp [Dr]
theorem mc(X Y:List Int)(i:Nat):(pR X Y i).length=i:=by simp [pR]
theorem B7(X Y:List Int)(i:Nat):pR X Y (i+1)=pR X Y i++[Dr X Y i]:=by simp [pR,List.range_succ]
theorem DX(hk:k<Y.length):(Dr X Y i).take (k+1)=(Dr X Y i).take k++[gi X i*gi Y k]:=by
 rw [dr (by simp [Dr,hk]:(Dr X Y i)[k]? =some (gi X i*gi Y k))]
theorem C0{n:Nat}(h:i<n):gr (pR X Y n) i=Dr X Y i:=by simp [gr,List.getD,pR,h]
theorem Hv{n:Nat}(h:i<n)(hk:k<Y.length):gt (pR X Y n) i k=gi X i*gi Y k:=by
 unfold gt;rw [C0 h];simp [gi,List.getD,Dr,hk]
inductive GrS(X Y:List Int)(b:Nat)(i k:Nat)(H:cu)(σ:List Ent):Prop
 |go (us:List Value) (v:Value) (en:Ent) (h:i<X.length) (h1:RLs H us (pR X Y i)) (h2:cU 1 v (Is ((Dr X Y i).take k)) en) (h3:σ=[.blk b (us++v::List.replicate (X.length - i - 1) (.slice none 0 0)),en])
 |fin (us:List Value) (h:i=X.length) (h1:RLs H us (pR X Y i)) (h3:σ=[.blk b us])
theorem GrS.mono{H':cu}(h:GrS X Y b i k H σ)(hl:HLe H H'):GrS X Y b i k H' σ:=by
 cases h with
 |go us v en h h1 h2 h3=>exact .go us v en h (h1.mono hl) h2 h3
 |fin us h h1 h3=>exact .fin us h (h1.mono hl) h3
theorem oq{w:World}{v:Value}{l:List Int}(hs:St H w σ)(hr:RI H v l):
  aaR 275 [v] w fun u w'=>∃H1 vo e,HLe H H1∧u= .tuple #[vo,I e]∧(fP 9 100000 l→e=0∧RI H1 vo (wts l))∧St H1 w' σ:=by
 obtain ⟨a,c,rfl⟩:=RI.shape hr;refine Cl.o func275 ntmps275 ag1 ?_;refine .af (.z zg (.zn zg (.seq (.af (.z zm (.o (.call call299 rfl (qD hs hr) ?_)))))));rintro _ w ⟨e,rfl,he,hs⟩;refine .zn zg (.af (.z zm (.zn fV (.dK rfl (fun ur=>?_) (fun ur=>?_)))))
 ·exact .af (.z zm (.z zg (.zn zg (.ret (rT (Fin.gU results275 rfl rfl ⟨H,_,_,HLe.refl H,rfl,fun h=>by rcases he with ⟨_,h2⟩|⟨h1,_⟩;exact (ur h2).elim;exact (h1 h).elim,hs⟩))))))
 ·refine .skip (nT (.af (.z zm ?_)))
  have hp:fP 9 100000 l:=by rcases he with ⟨h,_⟩|⟨_,h2⟩;exact h;exact (h2 (by simpa using ur)).elim
  refine .o (.call call260 rfl (kX hs hr hp) ?_);rintro v11 w ⟨H1,az,hR,hs⟩;exact .z zg (.zn zg (.ret (Fin.gU results275 rfl rfl ⟨H1,_,_,az,rfl,fun _=>⟨rfl,hR⟩,hs⟩)))
theorem wA{w:World}{a b:List Int}(hs:St H w σ)(h1:RI H v1 a)(h2:RI H v2 b):
  aaR 215 [v1,v2] w fun u w'=>∃bb:Bool,u= .bool bb∧(bb=true↔fP 9 100000 a∧fP 7 15000 b)∧St H w' σ:=by
 refine Cl.o func215 ntmps215 ag2 ?_;refine .af (.zn zg (.af (.z zm (.o (.call call259 rfl (j9 (many:=9) (most:=100000) hs h1) ?_)))));rintro _ w ⟨b6,rfl,Fj,hs⟩;refine .z zm (.bif (t':=7) rfl (fun L7=>?_) (fun L7=>?_))
 ·refine .T (.z zm (.T (.o (.call call259 rfl (j9 (many:=7) (most:=15000) hs h2) ?_))));rintro _ w ⟨b9,rfl,QB,hs⟩;exact .z zpT (.zn zg (.ret (Fin.bj results215 rfl ⟨_,rfl,by rw [QB];exact ⟨fun h=>⟨Fj.1 L7,h⟩,fun h=>h.2⟩,hs⟩)))
 ·exact .Fs 2 2 true (.z zpF (.zn zg (.ret (Fin.bj results215 rfl ⟨_,rfl,⟨fun h=>(by cases h),fun h=>by rw [Fj.2 h.1] at L7;cases L7⟩,hs⟩))))
theorem sK{w:World}{bx by_:Nat}{y:Int}(hs:St H w σ)(hx:Row H bx [I x])(hy:Row H by_ [I y]):
  aaR 289 [Pt bx,Pt by_] w fun u w'=>u= .tuple #[I x,I y]∧St H w' σ:=by
 have Dt:=hx.at 0;have hy0:=hy.at 0;refine Cl.o func289 ntmps289 ag2 ?_;refine .af (.z zg (.zn zg (.seq (.draw mix rfl hs fun w hs=>?_))));refine .y 0 rfl hs aj ?_;refine .y 1 rfl hs aj ?_;refine .z 2 rfl zg ?_;refine .z 3 rfl zg ?_;refine .D hs ?_;exact .ret (Fin.gU results289 rfl rfl ⟨rfl,hs⟩)
def PrE(X Y:List Int)(p:Nat)(H:cu)(z:List Value):Prop:=
 ∃bx by_,z=[.agg #[I ((p/Y.length:Nat):Int),I ((p%Y.length:Nat):Int)],.func (.func 289) #[] #[Pt bx,Pt by_]]∧Row H bx [I (gi X (p/Y.length))]∧Row H by_ [I (gi Y (p%Y.length))]
theorem ux{b1 b2:Nat}(B3:Row H b1 [v1])(y8:Row H b2 [v2])(hX:RI H v1 X)(hY:RI H v2 Y)(Gc:X.length≤1000)(TU:Y.length≤1000):
  Oh Tryz.prog 288 [Pt b1,Pt b2] H (X.length*Y.length) (PrE X Y):=by
 intro ly II Ix FV _ hy H0 GJ σf w hle B5 hs;obtain ⟨a1,c1,rfl⟩:=RI.shape hX;obtain ⟨a2,c2,rfl⟩:=RI.shape hY;have h01:cellAt H0 b1 0=some (.slice a1 X.length c1):=cellAt.mono (B3.at 0) hle;have h02:cellAt H0 b2 0=some (.slice a2 Y.length c2):=cellAt.mono (y8.at 0) hle;refine Cl.o func288 ntmps288 ag3 ?_;refine .af (.y hs (zld aq) (.z (de ae) (.zn zm (.for (N:=X.length) (J:=fun i fr w=>fr=[(8,.slice a1 X.length c1),(0,.func (.yield ly) #[] #[]),(1,Pt b1),(2,Pt b2)]∧∃H1 σb,HLe H H1∧HLe H0 H1∧II (i*Y.length) H1 σb∧St H1 w (σb++σf)) ai ?_ ?_ ?_))))
 ·exact .mk ⟨rfl,H0,GJ,hle,HLe.refl _,by rw [Nat.zero_mul];exact B5,hs⟩
 ·rintro i fr w hi ⟨rfl,H1,σb,az,fO,hI,hs⟩;refine .block (.af (.z zm (.ixY hs (hX.mono az) rfl rfl ae an (bu (l:=X) (i:=i) ai) cK ?_)));intro kP o13 gL;refine .q hs (aC rfl aj gL) (.o (.alloc hs dD rfl fun b5 w hs=>?_));refine .z zg (.o (.store hs rfl rfl an fun w hs=>?_));refine .nil (.af ?_);obtain ⟨H2,bg,r5,hs⟩:=hs.dh (b:=b5) .here;have h22:=cellAt.mono h02 (fO.trans bg);refine .y hs (zld aq) (.z (de ae) (.zn zm (.for (N:=Y.length) (J:=fun k fr w=>fr=[(15,.slice a2 Y.length c2),(4,I (i:Int)),(10,I (i:Int)),(9,I (X.length:Int)),(5,Pt b5),(8,.slice a1 X.length c1),(0,.func (.yield ly) #[] #[]),(1,Pt b1),(2,Pt b2)]∧∃H3 σb,HLe H2 H3∧II (i*Y.length+k) H3 σb∧St H3 w (σb++σf)) ai ?_ ?_ ?_)))
  ·exact .mk ⟨rfl,H2,σb,HLe.refl _,FV _ _ _ _ bg hI,hs⟩
  ·rintro k fr w hk ⟨rfl,H3,Mf,bZ,Ln,hs⟩;have ee:=fO.trans (bg.trans bZ);have OS:=az.trans (bg.trans bZ);refine .block (.af (.z zm (.ixY hs (hY.mono OS) rfl rfl ae an (bu (l:=Y) (i:=k) ai) cK ?_)));intro Gr o20 qR;refine .q hs (aC rfl aj qR) (.o (.alloc hs dD rfl fun b7 w hs=>?_));refine .z zg (.o (.store hs rfl rfl an fun w hs=>?_));refine .nil (.af (.z zm (.z zm (.z zm (.q hs (CF (vs:=[(0,I (i:Int)),(1,I (k:Int))]) (cells:=[I (i:Int),I (k:Int)]) zeroValue76 rfl runUnderlying76 an rfl) (.q hs (dU (f:=[]) (c:=[_,_]) rfl rfl) ?_))))));obtain ⟨H4,eH,r7,hs⟩:=hs.dh (b:=b7) .here;obtain ⟨d1,d2⟩:=PM (nw:=Y.length) (i:=i) (k:=k) hk;have fb:i*Y.length+k<X.length*Y.length:=by
    have:=Nat.mul_le_mul_right Y.length (show i+1≤X.length by omega);rw [Nat.add_mul,Nat.one_mul] at this;omega
   have A0:=hy (i*Y.length+k) fb [.agg #[I (i:Int),I (k:Int)],.func (.func 289) #[] #[Pt b5,Pt b7]] H4 Mf σf w (OS.trans eH) ⟨b5,b7,by rw [d1,d2],by rw [d1];exact r5.mono (bZ.trans eH),by rw [d2];exact r7⟩ (FV _ _ _ _ eH Ln) hs;refine .o (.yield rfl rfl A0 ?_);rintro v27 w ⟨H5,σ5,g1,hs,g3⟩;obtain ⟨bb,rfl,gT,gF⟩:=q7 g3;refine .zn fU (.cond rfl (fun kR=>?_) (fun kR=>?_))
   ·exact .ret (rB (rT (rB (rB (rT (rB (Fin.Rv results288 ⟨H5,σ5,ee.trans (eH.trans g1),hs,.inr (gF (by simpa using kR))⟩)))))))
   ·exact .skip (nB (nT (.mk ⟨rfl,H5,σ5,bZ.trans (eH.trans g1),gT (by simpa using kR),hs⟩)))
  ·rintro fr w ⟨rfl,H3,Mf,bZ,Ln,hs⟩;exact nB (nT (.mk ⟨rfl,H3,Mf,az.trans (bg.trans bZ),fO.trans (bg.trans bZ),by rw [Nat.add_mul,Nat.one_mul];exact Ln,hs⟩))
 ·rintro fr w ⟨rfl,H1,σb,az,fO,hI,hs⟩;exact Fin.EO results288 ⟨H1,σb,fO,hs,.inl hI⟩
theorem xS{w:World}(hs:St H w σ)(hX:RI H v1 X)(hY:RI H v2 Y)(Gc:X.length≤1000)(TU:Y.length≤1000):
  aaR 261 [v1,v2] w fun u w'=>∃H1 b1 b2,HLe H H1∧u= .func (.func 288) #[] #[Pt b1,Pt b2]∧Oh Tryz.prog 288 [Pt b1,Pt b2] H1 (X.length*Y.length) (PrE X Y)∧St H1 w' σ:=by
 obtain ⟨a1,c1,rfl⟩:=RI.shape hX;obtain ⟨a2,c2,rfl⟩:=RI.shape hY;refine Cl.o func261 ntmps261 ag2 ?_;refine .af (.bx hs fun b2 w hs=>?_);refine .bx hs fun b3 w hs=>?_
 refine .zn zg (.af (.q hs (dU (f:=[]) (c:=[_,_]) rfl rfl) (.zn zg (.ret (Fin.bj results261 rfl ?_)))));obtain ⟨H1,g1,r1,hs⟩:=hs.dh (b:=b2) dy;obtain ⟨H2,g2,r2,hs⟩:=hs.dh (b:=b3) dy;exact ⟨H2,b2,b3,g1.trans g2,rfl,ux (r1.mono g2) r2 (hX.mono (g1.trans g2)) (hY.mono (g1.trans g2)) Gc TU,hs⟩
set_option maxHeartbeats 1000000 in
theorem zr{w:World}(hs:St H w σ)(Jl:RI H v1 l1)(Am:RI H v2 l2)(BZ:fP 9 100000 l1)(xG:fP 7 15000 l2):
  aaR 216 [v1,v2] w fun u w'=>∃H1,HLe H H1∧RT H1 u (pR (wts l1) (wts l2) l1.length)∧St H1 w' σ:=by
 obtain ⟨a1,c1,rfl⟩:=RI.shape Jl;obtain ⟨a2,c2,rfl⟩:=RI.shape Am;have yz:=BZ.many;have S7:=xG.many;have htw1:=BZ.two;have htw2:=xG.two;have Qk:fP 9 100000 l2:=⟨xG.two,ai,xG.low,by have:=xG.high;omega,xG.rise⟩;have Gc:=fu l1;have TU:=fu l2;have XL:=GL BZ;have XK:=GL xG;refine Cl.o func216 ntmps216 ag2 ?_;refine .af (.zn zg (.af (.z zm (.o (.call call260 rfl (kX hs Jl BZ) ?_)))));rintro v13 w ⟨H1,az,hX,hs⟩;refine .z zm (.o (.call call260 rfl (kX hs (Am.mono az) Qk) ?_));rintro v15 w ⟨H2,bg,hY,hs⟩;replace hX:=hX.mono bg;generalize wts l1=X at*;generalize wts l2=Y at*;obtain ⟨aX,cX,rfl⟩:=RI.shape hX;obtain ⟨aY,cY,rfl⟩:=RI.shape hY;refine .z zg (.zn zg (.af (.z zm (.z (de ae) (.o (.P6 l1.length hs rfl rfl au typeInfo34 rfl aI gS ai fun xO w hs=>?_))))));refine .o (.alloc hs zeroValue62 rfl fun b7 w hs=>?_);refine .o (.store hs rfl rfl sizeOf62 fun w hs=>?_);refine .nil (.seq (.af (.z zm (.z zm (.o (.call call261 rfl (xS hs hX hY ai ai) ?_))))));rintro _ w ⟨H3,bp1,bp2,bZ,rfl,qO,hs⟩;have ee:=az.trans (bg.trans bZ);have h0:GrS X Y xO 0 0 H3 [.blk xO (List.replicate l1.length (.slice none 0 0)),.nul]:=by
  refine .go [] (.slice none 0 0) .nul ai (RLs.nil _) (.nil 1 none) ?_;rw [Gc];obtain ⟨m,hm⟩:∃m,l1.length=m+1:=⟨l1.length - 1,ai⟩;rw [hm];rfl
 refine .nil (.block ?_);refine .OD (gf:=288) (cap:=[Pt bp1,Pt bp2]) (N:=X.length*Y.length) (E:=PrE X Y) (σb:= .blk b7 [.slice (some ⟨xO,0,none⟩) l1.length l1.length]::[.blk xO (List.replicate l1.length (.slice none 0 0)),.nul]) (σf:=σ) (hs.nul.sb) trivial rfl qO call288 (fun k H' z ⟨_,_,hz,_⟩=>by rw [hz];rfl) rfl
  (I:=fun p H' σb=>∃σ1,σb= .blk b7 [.slice (some ⟨xO,0,none⟩) l1.length l1.length]::σ1∧GrS X Y xO (p/Y.length) (p%Y.length) H' σ1) (Ix:=fun _ _ _=>False)
  (fun j _ _ σ g1 ⟨σ1,g2,g3⟩=>⟨σ1,g2,g3.mono g1⟩) (fun _ _ _ _ _ h=>h) ⟨_,rfl,by rw [Nat.zero_div,Nat.zero_mod];exact h0⟩ ?_ ?_ (fun D c H' σb w _ h _=>h.elim)
 ·rintro ly p hp z H4 xu xt w eH ⟨bx,by_,rfl,rx,ry⟩ ⟨σ1,rfl,hG⟩ hs ⟨rr,Du⟩;have KJ:=G2 (p:=p) (m:=Y.length) ai;have Jq:=Nat.mod_lt p (show 0<Y.length by omega);have fL:p/Y.length<X.length:=Nat.div_lt_of_lt_mul (by rw [Nat.mul_comm];exact hp);generalize hi:p/Y.length=i at*;generalize hk:p%Y.length=k at*
  cases hG with
  |fin us h=>omega
  |go us v en h h1 h2 h3=>
  subst h3;obtain ⟨av,lv,cv,rfl,ZH⟩:=h2.shape;have Ky:us.length=i:=by rw [h1.1,mc]
  have B3:=XL i;have y8:=XK k;have hpr:=PC (gi X i) (gi Y k);have Wz: -3456000000000≤gi X i*gi Y k∧gi X i*gi Y k≤3456000000000:=kL (A:=4800000) (B:=720000) (by unfold ab at B3;omega) (by unfold ab at y8;omega);refine .af (.o (.alloc hs zeroValue76 rfl fun b8 w hs=>?_));refine .o (.aE (vs:=[_,_]) hs rfl rfl sizeOf76 fun w hs=>?_);refine .nil (.region (.zn zg (nT ⟨H4,[.blk b8 [I (i:Int),I (k:Int)],.blk b7 [.slice (some ⟨xO,0,none⟩) l1.length l1.length],.blk xO (us++Value.slice av lv cv::List.replicate (X.length - i - 1) (Value.slice none 0 0)),en],HLe.refl _,hs,?_⟩)));rintro w oI - hs;refine .block (.af (.z zm (.o (.sa (first:=[]) (cap:=[Pt bx,Pt by_]) rfl rfl call289 (sK hs rx ry) ?_))));rintro _ w ⟨rfl,hs⟩;refine .z zm (.z zex (.z zex (.z zg (.zn zg (.draw mix rfl hs fun w hs=>?_)))));refine .zv 0 rfl hs (p8 kI) (.zw 1 rfl (zia 0 runUnderlying76 an) (.y 2 rfl hs aj ?_));refine .y 3 rfl hs kI ?_;refine .zw 4 rfl (zia 0 runUnderlying76 an) (.zv 5 rfl hs (p8 aj) (.zw 6 rfl (eS (k:=i) rfl rfl au aI rfl ai) (.load (i:=7) hs rfl aA .none rfl aq ?_ (hv:=by rw [List.getElem?_append_right ai,Ky,Nat.sub_self];rfl))));refine .zw 8 rfl zm ?_;refine .z 9 rfl zm ?_;refine .z 10 rfl kV ?_;refine .E 11 hs ?_;refine .buildSlice (cells:=[_]) hs cV rfl rfl ?_;intro Up w hs;refine .go (.E 12 hs ?_);refine .append (ys:=Is [gi X i*gi Y k]) hs cA rfl rfl h2 (.own .here rfl rfl) (iP _) (fun l' h=>by simp at h;omega) ?_;intro v41 en41 w hO hs;rw [show Is ((Dr X Y i).take k)++Is [gi X i*gi Y k]=Is ((Dr X Y i).take (k+1)) by rw [DX Jq];simp [Is]] at hO;obtain ⟨a41,l41,c41,rfl,hl41⟩:=hO.shape;refine .go (.zw 13 rfl (eS (k:=i) rfl rfl au aI rfl ai) (.E 14 hs ?_));refine .store (c':=us++ .slice a41 l41 c41::List.replicate (X.length - i - 1) (.slice none 0 0)) hs rfl rfl aI ?_ dy (by simp;omega) (by rw [List.set_append_right _ _ ai,Ky,Nat.sub_self];rfl);intro w hs;refine .go (.D hs (nB ?_))
  rcases KJ with ⟨g1,g2,g3⟩|⟨g1,g2,g3⟩
  ·exact ⟨H4,[.blk b7 [.slice (some ⟨xO,0,none⟩) l1.length l1.length],.blk xO (us++ .slice a41 l41 c41::List.replicate (X.length - i - 1) (.slice none 0 0)),en41],HLe.refl _,(hs.sb:St H4 w (.blk b7 _:: .blk xO _::en41::oI)),_,rfl,by rw [g2,g3];exact .go us _ en41 h h1 hO rfl⟩
  ·obtain ⟨H5,kD,hR,hs⟩:=cU.dR hO (by rw [List.length_take,lM];omega) hs dy;rw [List.take_of_length_le (by rw [lM];omega)] at hR;have Pp:RLs H5 (us++[.slice a41 l41 c41]) (pR X Y (i+1)):=by rw [B7];exact (h1.mono kD).snoc hR
   by_cases e:i+1<X.length
   ·refine ⟨H5,[.blk b7 [.slice (some ⟨xO,0,none⟩) l1.length l1.length],.blk xO (us++ .slice a41 l41 c41::List.replicate (X.length - i - 1) (.slice none 0 0)),.nul],kD,(hs.nul.sb:St H5 w (.blk b7 _:: .blk xO _:: .nul::oI)),_,rfl,?_⟩;rw [g2,g3];refine .go (us++[.slice a41 l41 c41]) (.slice none 0 0) .nul e Pp (.nil 1 none) ?_;obtain ⟨m,hm⟩:∃m,X.length - i - 1=m+1:=⟨X.length - i - 2,ai⟩;rw [hm,show X.length - (i+1) - 1=m by omega,List.append_assoc];rfl
   ·refine ⟨H5,[.blk b7 [.slice (some ⟨xO,0,none⟩) l1.length l1.length],.blk xO (us++ .slice a41 l41 c41::List.replicate (X.length - i - 1) (.slice none 0 0))],kD,(hs.sb:St H5 w (.blk b7 _:: .blk xO _::oI)),_,rfl,?_⟩;rw [g2,g3];refine .fin (us++[.slice a41 l41 c41]) ai Pp ?_;rw [show X.length - i - 1=0 by omega];rfl
 ·rintro D H4 xu w eH ⟨σ1,rfl,hG⟩ hs;rw [Nat.mul_div_cancel _ ai,Nat.mul_mod_left] at hG
  cases hG with
  |go us v en h=>omega
  |fin us h h1 h3=>
  subst h3;replace hs:St H4 w (.obj D (.deferred (some [])):: .blk b7 [.slice (some ⟨xO,0,none⟩) l1.length l1.length]:: .blk xO us::σ):=hs;have Ky:us.length=l1.length:=by rw [h1.1,mc,Gc]
  refine nB (nT (.af (.y hs (zld kI) (.zn zg (.ret ?_)))));obtain ⟨H5,kD,hR,hs⟩:=h1.dh (v:= .slice (some ⟨xO,0,none⟩) l1.length l1.length) (en:= .blk xO us) (.full (by simp [Ky])) ai hs dy;rw [Gc] at hR;exact Fin.iT [D] [] hs fun w hs=>⟨_,results1 results216 rfl,H5,ee.trans (eH.trans kD),hR,hs.out⟩
theorem rf{w:World}(hs:St H w σ)(Jl:RI H v1 l1)(Am:RI H v2 l2):
  aaR 163 [v1,v2] w fun u w'=>∃H1 vo e,HLe H H1∧u= .tuple #[vo,I e]∧(fP 9 100000 l1∧fP 7 15000 l2→e=0∧RT H1 vo (pR (wts l1) (wts l2) l1.length))∧(e=0→fP 9 100000 l1∧fP 7 15000 l2)∧St H1 w' σ:=by
 refine Cl.o func163 ntmps163 ag2 ?_;refine .af (.z zg (.zn zg (.seq (.af (.z zm (.z zm (.o (.call call215 rfl (wA hs Jl Am) ?_))))))));rintro _ w ⟨b8,rfl,Pc,hs⟩;refine .zn fU (.cond rfl (fun nv=>?_) (fun nv=>?_))
 ·exact .af (.z zg (.zn zg (.ret (rT (Fin.gU results163 rfl rfl ⟨H,_,_,HLe.refl H,rfl,fun h=>(by rw [Pc.2 h] at nv;cases nv),fun h=>ai,hs⟩)))))
 ·refine .skip (nT (.af (.z zm (.z zm ?_))));have hp:=Pc.1 (by simpa using nv);refine .o (.call call216 rfl (zr hs Jl Am hp.1 hp.2) ?_);rintro v12 w ⟨H1,az,hR,hs⟩;exact .z zg (.zn zg (.ret (Fin.gU results163 rfl rfl ⟨H1,_,_,az,rfl,fun _=>⟨rfl,hR⟩,fun _=>hp,hs⟩)))
theorem SB{many:Nat}{l:List Int}(h2:2≤l.length)(hm:l.length≤many)(h:∀j<l.length,0≤gi l j∧gi l j≤most∧(0<j→gi l (j - 1)<gi l j)):fP many most l:=
 ⟨h2,hm,(h 0 ai).1,(h (l.length - 1) ai).2.1,fun i hi=>by have:=(h (i+1) hi).2.2 ai;rwa [Nat.add_sub_cancel] at this⟩
theorem xn{many:Nat}{l:List Int}(h:fP many most l){j:Nat}(hj:j<l.length):0≤gi l j∧gi l j≤most∧(0<j→gi l (j - 1)<gi l j):=
 ⟨(h.bd hj).1,(h.bd hj).2,fun h0=>by have:=h.rise (j - 1) ai;rwa [Nat.sub_add_cancel h0] at this⟩
theorem lQ{w:World}{v:Value}{l:List Int}{many:Nat}(hs:St H w σ)(hr:RI H v l)(ZF:many≤1000):
  aaR 217 [v,I many,I most] w fun u w'=>∃b:Bool,u= .bool b∧(b=true↔fP many most l)∧St H w' σ:=by
 obtain ⟨a,c,rfl⟩:=RI.shape hr;have hlen:=(RI.len hr).2.2;refine Cl.o func217 ntmps217 ag3 ?_;refine .af (.zn zg (.seq (.af (.z zm (.z (de ae) (.z fN (.z zm (.iz (t':=11) rfl (fun oO=>?_) (fun oO=>?_)))))))))
 ·exact .Fs 4 3 false (.zn zpT (.cT (.af (.zn zg (.ret (rT (Fin.bj Oo rfl ⟨false,rfl,⟨fun h=>(by cases h),fun h=>by have:=h.two;omega⟩,hs⟩)))))))
 ·refine .T (.z zm (.T (.z (de ae) (.T (.z zm (.T (.z kU (.zn zpF (.bh rfl (fun eC=>?_) (fun eC=>?_))))))))))
  ·exact .af (.zn zg (.ret (rT (Fin.bj Oo rfl ⟨false,rfl,⟨fun h=>(by cases h),fun h=>by have:=h.many;omega⟩,hs⟩))))
  ·refine .skip (nT (.seq (.af (.zn zg (.block ?_)))));refine .loop (fun k:Nat=>⟨52,[],[(7,I (k:Int)),(0,.slice a l.length c),(1,I (many:Int)),(2,I most)]⟩)
    (fun k w=>k≤l.length∧(∀j<k,0≤gi l j∧gi l j≤most∧(0<j→gi l (j - 1)<gi l j))∧St H w σ) (fun k=>l.length - k) 0 (.cD rfl bH aH)
    ⟨Nat.zero_le _,fun j hj=>by omega,hs⟩ ?_
   rintro k w ⟨hk,eE,hs⟩;refine .seq (.af (.z zm (.z zm (.z (de ae) (.zn fN (.bh rfl (fun qR=>?_) (fun qR=>?_)))))))
   ·refine .skip (nT (.seq (.block (.seq (.draw mix rfl hs fun w hs=>?_)))));refine .zw 0 rfl zm ?_;refine .z 1 rfl zm ?_;refine .ixX (enc:=fun x=>[I x]) (i:=2) hs rfl aA .none hr rfl rfl ae an (bu (l:=l) (i:=k) ai) cK ?_;intro Dy o25 fc;replace fc:=bD.one fc;refine .r (i:=3) hs rfl aA .none (aC rfl aj fc) ?_;refine .zw 4 rfl fN ?_;refine .z 5 rfl zm ?_;refine .iz (t':=28) rfl (fun w9=>?_) (fun w9=>?_)
    ·refine .F 6 rfl (.F 7 rfl (.F 8 rfl (.F 9 rfl (.F 10 rfl (.F 11 rfl (.zw 12 rfl zpT ?_))))));refine .z 13 rfl zm ?_;refine .F 14 rfl (.F 15 rfl ?_);refine .F 16 rfl (.F 17 rfl (.F 18 rfl (.F 19 rfl (.F 20 rfl (.F 21 rfl (.F 22 rfl (.F 23 rfl (.F 24 rfl (.F 25 rfl (.F 26 rfl (.F 27 rfl (.zw 28 rfl zpT ?_))))))))))));refine .D hs ?_;exact (.cT (.af (.zn zg (.ret (rB (rT (rT (rB (rT (Fin.bj Oo rfl ⟨false,rfl,⟨fun h=>(by cases h),fun h=>by have:=xn h (j:=k) ai;omega⟩,hs⟩))))))))))
    ·refine .zw 6 rfl zm ?_;refine .z 7 rfl zm ?_;refine .ixX (enc:=fun x=>[I x]) (i:=8) hs rfl aA (.some rfl rfl) hr rfl rfl ae an (bu (l:=l) (i:=k) ai) cK ?_;intro Mc o31 nk;replace nk:=bD.one nk;refine .r (i:=9) hs rfl aA (.some rfl rfl) (aC rfl aj nk) ?_;refine .zw 10 rfl zm ?_;refine .z 11 rfl kU ?_;refine .z 12 rfl zpF ?_;refine .z 13 rfl zm ?_;refine .iz (t':=36) rfl (fun Li=>?_) (fun Li=>?_)
     ·refine .F 14 rfl (.F 15 rfl ?_);refine .F 16 rfl (.F 17 rfl (.F 18 rfl (.F 19 rfl (.F 20 rfl (.F 21 rfl (.F 22 rfl (.F 23 rfl (.F 24 rfl (.F 25 rfl (.F 26 rfl (.F 27 rfl (.zw 28 rfl zpT ?_))))))))))));refine .D hs ?_;exact (.cT (.af (.zn zg (.ret (rB (rT (rT (rB (rT (Fin.bj Oo rfl ⟨false,rfl,⟨fun h=>(by cases h),fun h=>by have:=xn h (j:=k) ai;omega⟩,hs⟩))))))))))
     ·refine .zw 14 rfl zm ?_;refine .z 15 rfl kU ?_;refine .z 16 rfl zm ?_;refine .iz (t':=39) rfl (fun Lh=>?_) (fun Lh=>?_)
      ·refine .zw 17 rfl zm ?_;refine .z 18 rfl zm ?_;refine .z 19 rfl gx ?_;refine .ixX (enc:=fun x=>[I x]) (i:=20) hs rfl aA (.some rfl rfl) hr rfl rfl ae an (bu (l:=l) (i:=(k-1)) ai) cK ?_;intro Uo o43 yC;replace yC:=bD.one yC;refine .r (i:=21) hs rfl aA (.some rfl rfl) (aC rfl aj yC) ?_;refine .zw 22 rfl zm ?_;refine .z 23 rfl zm ?_;refine .ixX (enc:=fun x=>[I x]) (i:=24) hs rfl aA (.some rfl rfl) hr rfl rfl ae an (bu (l:=l) (i:=k) ai) cK ?_;intro Rf o47 lC;replace lC:=bD.one lC;refine .r (i:=25) hs rfl aA (.some rfl rfl) (aC rfl aj lC) ?_;refine .zw 26 rfl xv ?_;refine .z 27 rfl zpT ?_;refine .z 28 rfl zpF ?_;refine .D hs ?_;refine (.bh rfl (fun Ev=>?_) (fun Ev=>?_))
       ·exact .af (.zn zg (.ret (rB (rT (rT (rB (rT (Fin.bj Oo rfl ⟨false,rfl,⟨fun h=>(by cases h),fun h=>by have:=xn h (j:=k) ai;omega⟩,hs⟩))))))))
       ·refine .skip (nB (nT (.region (.z zm (.z cH (.zn zg (nT ?_)))))));exact ⟨k+1,.cD rfl bH aH,⟨ai,fun j hj=>by
         by_cases e:j=k
         ·subst e;exact ⟨ai,ai,fun _=>by omega⟩
         ·exact eE j ai,hs⟩,ai⟩
      ·refine .F 17 rfl (.F 18 rfl (.F 19 rfl (.F 20 rfl (.F 21 rfl (.F 22 rfl (.F 23 rfl (.F 24 rfl (.F 25 rfl (.F 26 rfl (.zw 27 rfl zpF ?_))))))))));refine .z 28 rfl zpF ?_;refine .D hs ?_;refine (.cF (.skip (nB (nT (.region (.z zm (.z cH (.zn zg (nT ?_)))))))));exact ⟨k+1,.cD rfl bH aH,⟨ai,fun j hj=>by
        by_cases e:j=k
        ·subst e;exact ⟨ai,ai,fun _=>by omega⟩
        ·exact eE j ai,hs⟩,ai⟩
   ·exact .exit (xT (xT (xB (nT (.af (.zn zg (.ret (Fin.bj Oo rfl ⟨true,rfl,⟨fun _=>SB ai ai fun j hj=>eE j ai,fun _=>rfl⟩,hs⟩))))))))
theorem jk{w:World}{v:Value}{l:List Int}(hs:St H w σ)(hr:RI H v l):
  aaR 168 [v] w fun u w'=>∃e,u=I e∧((fP 9 100000 l∧e=0)∨(¬fP 9 100000 l∧e≠0))∧St H w' σ:=by
 refine Cl.o func168 ntmps168 ag1 ?_;refine .af (.zn zg (.seq (.af (.z zm (.o (.call call217 rfl (lQ (many:=9) (most:=100000) hs hr ai) ?_))))));rintro _ w ⟨b4,rfl,TM,hs⟩;refine .zn fU (.cond rfl (fun KY=>?_) (fun KY=>?_))
 ·exact .af (.zn zg (.ret (rT (Fin.bj results168 rfl ⟨_,rfl,.inr ⟨fun h=>by simp [TM.2 h] at KY,by decide⟩,hs⟩))))
 ·exact .skip (nT (.af (.zn zg (.ret (Fin.bj results168 rfl ⟨_,rfl,.inl ⟨TM.1 (by simpa using KY),rfl⟩,hs⟩)))))
theorem Oz{b k:Int}(hk:1≤k∧k≤3)(h:a*k=b∨b*k=a)(eE:∀j:Int,1≤j→j<k→¬(a*j=b∨b*j=a)):tms a b=k:=by
 have h3:k=1∨k=2∨k=3:=by omega
 unfold tms
 rcases h3 with rfl|rfl|rfl
 ·rw [if_pos ai]
 ·have:=eE 1 ai ai;rw [if_neg ai,if_pos h]
 ·have:=eE 1 ai ai;have:=eE 2 ai ai;rw [if_neg ai,if_neg this,if_pos h]
theorem Sd{b:Int}(eE:∀j:Int,1≤j→j<4→¬(a*j=b∨b*j=a)):tms a b=0:=by
 have:=eE 1 ai ai;have h2:=eE 2 ai ai;have h3:=eE 3 ai ai;unfold tms;rw [if_neg ai,if_neg h2,if_neg h3]
theorem qq{w:World}{b:Int}(hs:St H w σ)(ha:0≤a∧a≤100000)(hb:0≤b∧b≤100000):
  aaR 283 [I a,I b] w fun u w'=>u=I (tms a b)∧St H w' σ:=by
 refine Cl.o func283 ntmps283 ag2 ?_;refine .af (.zn zg (.seq (.af (.zn zg (.block ?_)))));refine .loop (fun k:Nat=>⟨23,[],[(5,I (k:Int)),(0,I a),(1,I b)]⟩)
  (fun k w=>1≤k∧k≤4∧(∀j:Int,1≤j→j<k→¬(a*j=b∨b*j=a))∧St H w σ) (fun k=>4 - k) 1 (.cD rfl bH aH)
  ⟨ai,ai,fun j h1 h2=>by omega,hs⟩ ?_
 rintro k w ⟨Ep,hk4,eE,hs⟩;have aah:=kL (a:=a) (b:=(k:Int)) (A:=100000) (B:=4) ai ai;have F9:=kL (a:=b) (b:=(k:Int)) (A:=100000) (B:=4) ai ai;refine .seq (.af (.z zm (.zn oY (.bh rfl (fun O1=>?_) (fun O1=>?_)))))
 ·refine .skip (nT (.seq (.block (.af (.z zm (.z zm (.z kV (.z zm (.z fy (.z zm (.iz (t':=15) rfl (fun Aw=>?_) (fun Aw=>?_))))))))))))
  ·exact .Fs 5 5 false (.zn zpT (.cT (.af (.z zm (.zn zg (.ret (rB (rT (rT (rB (rT (Fin.bj results283 rfl ⟨by rw [Oz ⟨ai,ai⟩ (.inl Aw) eE],hs⟩))))))))))))
  ·refine .T (.z zm (.T (.z zm (.T (.z kV (.T (.z zm (.T (.z fy (.zn zpF (.bh rfl (fun iC=>?_) (fun iC=>?_))))))))))))
   ·exact .af (.z zm (.zn zg (.ret (rB (rT (rT (rB (rT (Fin.bj results283 rfl ⟨by rw [Oz ⟨ai,ai⟩ (.inr iC) eE],hs⟩)))))))))
   ·refine .skip (nB (nT (.region (.z zm (.z cH (.zn zg (nT ?_)))))));exact ⟨k+1,.cD rfl bH aH,⟨ai,ai,fun j h1 h2=>by
     by_cases e:j=(k:Int)
     ·subst e;omega
     ·exact eE j h1 ai,hs⟩,ai⟩
 ·refine .exit (xT (xT (xB (nT (.af (.zn zg (.ret (Fin.bj results283 rfl ?_))))))));obtain rfl:k=4:=by omega
  exact ⟨by rw [Sd eE],hs⟩
def Grp.c(g:Grp):List Value:=[I (g.at_:Int),I (g.n:Int)]
def Oi(l:List Grp):List Value:=(l.map Grp.c).flatten
theorem Gy(a b:List Grp):Oi (a++b)=Oi a++Oi b:=by simp [Oi]
theorem AP:∀l:List Grp,(Oi l).length=l.length*2
 |[]=>rfl
 |g::l=>by have:=AP l;simp only [Oi,List.map_cons,List.flatten_cons,List.length_append,List.length_cons] at this ⊢;rw [this];simp [Grp.c];omega
set_option maxHeartbeats 1000000 in
theorem wO{w:World}{v:Value}{l:List Int}(hs:St H w σ)(hr:RI H v l)(hp:fP 9 100000 l):
  aaR 282 [v] w fun u w'=>∃H1,HLe H H1∧RS H1 2 u ((pQ l).map Grp.c)∧St H1 w' σ:=by
 obtain ⟨a,c,rfl⟩:=RI.shape hr;have hlen:=hp.many;have U8:(pQ l).length≤9:=by have:=oD l l.length 0;unfold pQ;omega
 refine Cl.o func282 ntmps282 ag1 ?_;refine .af (.zn zg (.af (.zn zg (.af (.zn zg (.seq (.block ?_)))))));refine .loop (fun p:Nat×Value=>⟨51,[],[(4,I (p.1:Int)),(3,p.2),(0,.slice a l.length c)]⟩)
  (fun p w=>p.1≤l.length∧∃j en,j≤(pQ l).length∧(pQ l).drop j=qw l p.1∧cU 2 p.2 (Oi ((pQ l).take j)) en∧St H w (en::σ)) (fun p=>l.length - p.1) (0,.slice none 0 0) aH
  ⟨Nat.zero_le _,0,_,Nat.zero_le _,rfl,.nil 2 none,hs.nul⟩ ?_
 rintro ⟨i,vo⟩ w ⟨pI,j,en,hj,hd,hO,hs⟩;dsimp only at pI hd hO ⊢;have xC:=List.length_take_le j (pQ l);refine .seq (.af (.z zm (.z cH (.z zm (.z (de ae) (.zn fN (.bh rfl (fun pM=>?_) (fun pM=>?_))))))))
 ·refine .skip (nT (.block (.af (.zn zg (.cut (fun fs w=>kG fs ⟨51,[],[(5,I (((if fA l i then 2 else 1:Nat)):Int)),(4,I (i:Int)),(3,vo),(0,.slice a l.length c)]⟩∧St H w (en::σ)) ?_ ?_)))))
  ·refine .seq (.draw mix rfl hs fun w hs=>?_);refine .zw 0 rfl zm ?_;refine .z 1 rfl cH ?_;refine .z 2 rfl zm ?_;refine .z 3 rfl (de ae) ?_;refine .z 4 rfl fN ?_;refine .z 5 rfl zm ?_;refine .iz (t':=16) rfl (fun rP=>?_) (fun rP=>?_)
   ·refine .zw 6 rfl zm ?_;refine .z 7 rfl zm ?_;refine .z 8 rfl cH ?_;have r1:=hp.rise i ai;have r2:gi l (i+1)<gi l (i+2):=hp.rise (i+1) ai;have q1:=hp.bd (i:=i) ai;have q2:=hp.bd (i:=i+2) ai;refine .ixX (enc:=fun x=>[I x]) (i:=9) hs rfl aA (.some rfl rfl) hr rfl rfl ae an (bu (l:=l) (i:=(i+1)) ai) cK ?_;intro Gr o20 qR;replace qR:=bD.one qR;refine .r (i:=10) hs rfl aA (.some rfl rfl) (aC rfl aj qR) ?_;refine .zw 11 rfl zm ?_;refine .z 12 rfl zm ?_;refine .ixX (enc:=fun x=>[I x]) (i:=13) hs rfl aA (.some rfl rfl) hr rfl rfl ae an (bu (l:=l) (i:=i) ai) cK ?_;intro ue o24 jX;replace jX:=bD.one jX;refine .r (i:=14) hs rfl aA (.some rfl rfl) (aC rfl aj jX) ?_;refine .zw 15 rfl gx ?_;refine .z 16 rfl zm ?_;refine .z 17 rfl zm ?_;refine .z 18 rfl cH ?_;refine .ixX (enc:=fun x=>[I x]) (i:=19) hs rfl aA (.some rfl rfl) hr rfl rfl ae an (bu (l:=l) (i:=(i+2)) ai) cK ?_;intro Rh o30 nm;replace nm:=bD.one nm;refine .r (i:=20) hs rfl aA (.some rfl rfl) (aC rfl aj nm) ?_;refine .zw 21 rfl zm ?_;refine .z 22 rfl zm ?_;refine .z 23 rfl cH ?_;refine .ixX (enc:=fun x=>[I x]) (i:=24) hs rfl aA (.some rfl rfl) hr rfl rfl ae an (bu (l:=l) (i:=(i+1)) ai) cK ?_;intro Oa o35 nj;replace nj:=bD.one nj;refine .r (i:=25) hs rfl aA (.some rfl rfl) (aC rfl aj nj) ?_;refine .zw 26 rfl gx (.E 27 hs ?_);refine .call call283 rfl (qq hs ai ai) ?_;rintro _ w ⟨rfl,hs⟩;refine .go (.zw 28 rfl kU ?_);refine .z 29 rfl zpT ?_;refine .D hs ?_;refine (.bh rfl (fun nN=>?_) (fun nN=>?_))
    ·refine .region (.zn zg (nT ?_));have e:fA l i=true:=by simp [fA];omega
     rw [e];exact ⟨aH,hs⟩
    ·refine .skip (nT ?_);have e:fA l i=false:=by simp [fA];omega
     rw [e];exact ⟨aH,hs⟩
   ·refine .F 6 rfl (.F 7 rfl (.F 8 rfl (.F 9 rfl (.F 10 rfl (.F 11 rfl (.F 12 rfl (.F 13 rfl (.F 14 rfl (.F 15 rfl (.F 16 rfl ?_))))))))));refine .F 17 rfl (.F 18 rfl (.F 19 rfl (.F 20 rfl (.F 21 rfl (.F 22 rfl (.F 23 rfl (.F 24 rfl (.F 25 rfl (.F 26 rfl (.F 27 rfl (.F 28 rfl (.zw 29 rfl zpF ?_))))))))))));refine .D hs ?_;refine (.cF (.skip (nT ?_)));have e:fA l i=false:=by simp [fA];omega
    rw [e];exact ⟨aH,hs⟩
  ·rintro fs w ⟨fM,hs⟩;refine WE.sub ?_ fM;have RK:=Ax (l:=l) (i:=i) ai;rw [RK] at hd;have uq:j<(pQ l).length:=by
    have:=congrArg List.length hd;simp at this;omega
   have W8:(pQ l)[j]? =some ⟨i,fA l i⟩:=by
    rw [List.drop_eq_getElem_cons uq] at hd;rw [List.getElem?_eq_getElem uq,(List.cons.inj hd).1]
   have Xe:(pQ l).drop (j+1)=qw l (i+(if fA l i then 2 else 1)):=by
    rw [List.drop_eq_getElem_cons uq] at hd;exact (List.cons.inj hd).2
   have WK:(if fA l i then 2 else 1:Nat)=1∨(if fA l i then 2 else 1:Nat)=2:=by split<;>simp
   have hgc:Grp.c ⟨i,fA l i⟩=[I (i:Int),I (((if fA l i then 2 else 1:Nat)):Int)]:=rfl;generalize (if fA l i then 2 else 1:Nat)=n at*;refine .af (.z zm (.z zm (.z zm (.z (zbd [_,_] vY) (.o (.buildSlice (cells:=[_,_]) hs vU rfl rfl fun Vr w hs=>?_))))));refine .o (.append (ys:=[I (i:Int),I (n:Int)]) hs om rfl rfl hO (.own .here rfl rfl) (by simp [Value.oneCell']) (fun l' h=>by rw [AP] at h;omega) ?_);intro v46 en46 w dY hs;rw [←hgc,show Grp.c ⟨i,fA l i⟩=Oi [⟨i,fA l i⟩] by simp [Oi],←Gy,←dr W8] at dY;exact .zn zg (.region (.z zm (.z zm (.z cH (.zn zg (nB (nT ⟨(i+n,v46),.cD rfl bH aH,⟨by dsimp only;omega,j+1,_,uq,Xe,dY,hs.sb⟩,by dsimp only;omega⟩)))))))
 ·refine .exit (xT (xT (xB (nT (.af (.z zm (.zn zg (.ret (Fin.bj results282 rfl ?_)))))))));rw [xb ai] at hd;have:(pQ l).length≤j:=by simpa using hd
  obtain rfl:j=(pQ l).length:=by omega
  rw [List.take_length] at hO;obtain ⟨H1,g1,r1,hs⟩:=cU.dh (m:=2) (cs:=(pQ l).map Grp.c) hO (fun c hc=>by simp only [List.mem_map] at hc;obtain ⟨x,_,rfl⟩:=hc;rfl) ai (by rw [List.length_map];omega) hs .here;exact ⟨H1,g1,r1,hs⟩
theorem vF{l:List Int}(h:i≠j)(x:Int):gi (l.set i x) j=gi l j:=by
 simp [gi,List.getD,h]
set_option maxHeartbeats 1000000 in
theorem k9{w:World}{v:Value}{l:List Int}(hs:St H w σ)(hr:RI H v l)(hp:fP 9 100000 l):
  aaR 258 [v] w fun u w'=>∃H1,HLe H H1∧RI H1 u (wts l)∧St H1 w' σ:=by
 obtain ⟨a,c,rfl⟩:=RI.shape hr;have WV:=hp.many;have U8:(pQ l).length≤9:=by have:=oD l l.length 0;unfold pQ;omega
 refine Cl.o func258 ntmps258 ag1 ?_;refine .af (.zn zg (.af (.z zm (.z (de ae) (.o (.yu l.length hs rfl rfl ae kS rfl an dD ai fun nx w hs=>?_))))));replace hs:St H w (.blk nx (Is (zk l 0))::σ):=hs;refine .zn zg (.af (.z zm (.o (.call call282 rfl (wO hs hr hp) ?_))));rintro v18 w ⟨H1,az,hG,hs⟩;have Du:=hr.mono az;obtain ⟨ag,cg,rfl⟩:=RS.shape hG;rw [List.length_map] at hG ⊢;refine .zn zg (.seq (.af (.zn zg (.block ?_))));refine .loop (fun k:Nat=>⟨133,[],[(5,I (k:Int)),(4,.slice ag (pQ l).length cg),(3,.slice (some ⟨nx,0,none⟩) l.length l.length),(0,.slice a l.length c)]⟩)
  (fun k w=>k≤(pQ l).length∧St H1 w (.blk nx (Is (zk l k))::σ)) (fun k=>(pQ l).length - k) 0 (.cD rfl bH aH)
  ⟨Nat.zero_le _,hs⟩ ?_
 rintro k w ⟨hk,hs⟩;refine .seq (.af (.z zm (.z zm (.z (de ta) (.zn fN (.bh rfl (fun jm=>?_) (fun jm=>?_)))))))
 ·refine .skip (nT (.seq (.block (.af (.z zm (.z zm ?_))))));have uq:k<(pQ l).length:=by omega
  obtain ⟨g,hg⟩:=nth uq;obtain ⟨i1,i2,i3,i4,i5⟩:=Ay hp (List.mem_of_getElem? hg);have hK:=zj hg;have Ye:=pX l k;have hKz:=wy hp k ai;have z0:=jV (zk l k) (v:=g.at_) (n:=l.length) ai;have z1:=jV (zk l k) (v:=g.at_+1) (n:=l.length) ai;have IE:=hp.bd (i:=g.at_) ai;have Nn:=hp.bd (i:=g.at_+1) ai;have hgm:((pQ l).map Grp.c)[k]? =some (Grp.c g):=by rw [List.getElem?_map,hg];rfl
  generalize zk l k=W at*;have e1:∀x,gi (W.set g.at_ x) (g.at_+1)=gi W (g.at_+1):=fun x=>vF ai x
  generalize hA:gi l (g.at_+1) - gi l g.at_=A at*;refine .ixX (enc:=Grp.c) hs hG rfl rfl ta Jg hg cK ?_;intro AK o27 qQ;have d0:cellAt H1 AK o27=some (I (g.at_:Int)):=qQ 0 _ rfl;have d1:cellAt H1 AK (o27+1)=some (I (g.n:Int)):=qQ 1 _ rfl;refine .z (zfa iw) (.y hs (zld aj) (.zn zg (.seq (.draw mix rfl hs fun w hs=>?_))));refine .zw 0 rfl zm ?_;refine .z 1 rfl zm ?_;refine .z 2 rfl cH ?_;refine .ixX (enc:=fun x=>[I x]) (i:=3) hs rfl aA .none Du rfl rfl ae an (bu (l:=l) (i:=(g.at_+1)) ai) cK ?_;intro Uq o33 mJ;replace mJ:=bD.one mJ;refine .r (i:=4) hs rfl aA .none (aC rfl aj mJ) ?_;refine .zw 5 rfl zm ?_;refine .z 6 rfl zm ?_;refine .ixX (enc:=fun x=>[I x]) (i:=7) hs rfl aA .none Du rfl rfl ae an (bu (l:=l) (i:=g.at_) ai) cK ?_;intro By o37 qb;replace qb:=bD.one qb;refine .r (i:=8) hs rfl aA .none (aC rfl aj qb) ?_;refine .zw 9 rfl gx ?_;rw [hA];refine .zw 10 rfl zg ?_;refine .D hs ?_;refine .seq (.af (.z zm (.z zm (.ixX (enc:=Grp.c) hs hG rfl rfl ta Jg hg cK ?_))));intro R0 o42 tV;have d2:cellAt H1 R0 (o42+1)=some (I (g.n:Int)):=tV 1 _ rfl;refine .z (zfa kj) (.y hs (zld aj) (.zn fy (.bh rfl (fun Bo=>?_) (fun Bo=>?_))))
  ·refine .af (.z zm (.z zm (.q hs (eS (k:=g.at_) rfl rfl ae an ai ai) (.y hs (zld aj) (.z zm (.z kV (.z cH (.q hs (eS (k:=g.at_) rfl rfl ae an ai ai) (.o (.store hs rfl rfl an fun w hs=>?_))))))))));refine .nil (.af (.z zm (.z zm (.z cH (.q hs (eS (k:=g.at_+1) rfl rfl ae an ai ai) (.q hs (eG rfl aj (hv:=fQ (by rw [List.length_set];omega))) ?_))))));rw [e1];refine .z zm (.z kV (.z cH (.q hs (eS (k:=g.at_+1) rfl rfl ae an ai ai) (.o (.store hs rfl rfl an ?_ dy (by simp [Is];omega))))));intro w hs;refine .nil (.exit (xT (xB (nT (.region (.z zm (.z cH (.zn zg (nT ?_)))))))));have h2:g.two=false:=by
    cases e:g.two with
    |false=>rfl
    |true=>simp [Grp.n,e] at Bo
   rw [Hs h2 hA] at hK;have e:zk l (k+1)=(W.set g.at_ (gi W g.at_+18*A)).set (g.at_+1) (gi W (g.at_+1)+18*A):=by rw [hK];simp only [nY];rw [e1]
   exact ⟨k+1,.cD rfl bH aH,⟨ai,by rw [e];exact hs⟩,ai⟩
  ·refine .skip (nT (.seq (.draw mix rfl hs fun w hs=>?_)));have h2:g.two=true:=by
    cases e:g.two with
    |true=>rfl
    |false=>simp [Grp.n,e] at Bo
   obtain ⟨j1,j2,j3,j4⟩:=i4 h2;have Zy:=hp.bd (i:=g.at_+2) ai;have z2:=jV W (v:=g.at_+2) (n:=l.length) ai;have e2:∀x y,gi ((W.set g.at_ x).set (g.at_+1) y) (g.at_+2)=gi W (g.at_+2):=fun x y=>by rw [vF ai,vF ai]
   generalize hB:gi l (g.at_+2) - gi l (g.at_+1)=B at*;have hk3:=JF j4;have CT:=BV (a:=A) (b:=B) ⟨ai,ai⟩ ⟨ai,ai⟩;obtain ⟨n1,n2,n3,n4⟩:=Hq hk3 CT.1 CT.2;obtain ⟨n5,n6,n7,n8,n9⟩:=n4 _ n3.1 n3.2;have Tl:=Hr h2 hA hB rfl rfl;refine .zw 0 rfl zm ?_;refine .z 1 rfl zm ?_;refine .z 2 rfl cH ?_;refine .ixX (enc:=fun x=>[I x]) (i:=3) hs rfl aA .none Du rfl rfl ae an (bu (l:=l) (i:=(g.at_+2)) ai) cK ?_;intro b66 o66 tT;replace tT:=bD.one tT;refine .r (i:=4) hs rfl aA .none (aC rfl aj tT) ?_;refine .zw 5 rfl zm ?_;refine .z 6 rfl zm ?_;refine .z 7 rfl cH ?_;refine .ixX (enc:=fun x=>[I x]) (i:=8) hs rfl aA .none Du rfl rfl ae an (bu (l:=l) (i:=(g.at_+1)) ai) cK ?_;intro Vp o71 w8;replace w8:=bD.one w8;refine .r (i:=9) hs rfl aA .none (aC rfl aj w8) ?_;refine .zw 10 rfl gx ?_;rw [hB];refine .zw 11 rfl zg ?_;refine .D hs ?_;refine .af (.z zm (.z zm (.o (.call call283 rfl (qq hs ai ai) ?_))));rintro _ w ⟨rfl,hs⟩;generalize hT:tms A B=T at*;refine .zn zg (.af (.z zm (.z zm (.z Dq ?_))));generalize hM:min A B=M at*;refine .zn zg (.af (.z zm (.q hs (uO rfl rfl ai ai) (.z zm (.z cH (.z kV (.z zm (.z kV (.zn zg (.af (.z zm (.z zm (.z kV (.z zm (.z gx (.z kV (.zn zg (.af (.z zm (.z zm (.z kV (.z gx (.z kV (.zn zg (.cut (fun fs w=>∃x y:Int,kG fs ⟨133,[],[(13,I y),(12,I x),(11,I ((6:Int).tdiv T*(1+T)*M)),(9,I T),(6,I (g.at_:Int)),(5,I (k:Int)),(4,.slice ag (pQ l).length cg),(3,.slice (some ⟨nx,0,none⟩) l.length l.length),(0,.slice a l.length c)]⟩∧(-6000000≤x∧x≤6000000)∧(-6000000≤y∧y≤6000000)∧Br l g=[x,(6:Int).tdiv T*(1+T)*M*(1+T)*(1+T),y]∧St H1 w (.blk nx (Is W)::σ)) ?_ ?_)))))))))))))))))))))))))
   ·refine .af (.z zm (.z zm (.zn kU (.bh rfl (fun nP=>?_) (fun nP=>?_)))))
    ·exact .region (.z zm (.z zm (.z zg (.zn zg (nT ⟨_,_,aH,ai,ai,by rw [Tl,if_pos nP],hs⟩)))))
    ·exact .skip (nT ⟨_,_,aH,ai,ai,by rw [Tl,if_neg ai],hs⟩)
   ·rintro fs w ⟨x,y,fM,hx,hy,OX,hs⟩;refine WE.sub ?_ fM;have e:zk l (k+1)=((W.set g.at_ (gi W g.at_+x)).set (g.at_+1) (gi W (g.at_+1)+(6:Int).tdiv T*(1+T)*M*(1+T)*(1+T))).set (g.at_+2) (gi W (g.at_+2)+y):=by
     rw [hK,OX];simp only [nY];rw [e1,show g.at_+1+1=g.at_+2 by omega,e2]
    refine .af (.z zm (.z zm (.q hs (eS (k:=g.at_) rfl rfl ae an ai ai) (.y hs (zld aj) (.z zm (.z cH (.q hs (eS (k:=g.at_) rfl rfl ae an ai ai) (.o (.store hs rfl rfl an fun w hs=>?_)))))))));refine .nil (.af (.z zm (.z zm (.z cH (.q hs (eS (k:=g.at_+1) rfl rfl ae an ai ai) (.q hs (eG rfl aj (hv:=fQ (by rw [List.length_set];omega))) ?_))))));rw [e1];refine .z zm (.z zm (.z cH (.z kV (.z zm (.z cH (.z kV (.z cH (.q hs (eS (k:=g.at_+1) rfl rfl ae an ai ai) (.o (.store hs rfl rfl an ?_ dy (by simp [Is];omega)))))))))));intro w hs;refine .nil (.region (.z zm (.z zm (.z cH (.q hs (eS (k:=g.at_+2) rfl rfl ae an ai ai) (.q hs (eG rfl aj (hv:=fQ (by rw [List.length_set,List.length_set];omega))) ?_))))));rw [e2];refine .z zm (.z cH (.q hs (eS (k:=g.at_+2) rfl rfl ae an ai ai) (.o (.store hs rfl rfl an ?_ dy (by simp [Is];omega)))));intro w hs;exact .nil (nB (nT (.region (.z zm (.z cH (.zn zg (nT ⟨k+1,.cD rfl bH aH,⟨ai,by rw [e];exact hs⟩,ai⟩)))))))
 ·refine .exit (xT (xT (xB (nT (.af (.z zm (.zn zg (.ret (Fin.bj results258 rfl ?_)))))))));obtain rfl:k=(pQ l).length:=by omega
  rw [GM] at hs;obtain ⟨H3,bZ,hR,hs⟩:=cU.dR (xs:=wts l) (v:= .slice (some ⟨nx,0,none⟩) l.length l.length) (.full (by simp [Is,fu])) (by rw [fu];omega) hs .here;exact ⟨H3,az.trans bZ,hR,hs⟩
theorem ou{w:World}{v:Value}{l:List Int}(hs:St H w σ)(hr:RI H v l)(hp:fP 9 100000 l):
  aaR 214 [v] w fun u w'=>∃H1 vo,HLe H H1∧u= .tuple #[vo,I 0]∧RI H1 vo (wts l)∧St H1 w' σ:=by
 refine Cl.o func214 ntmps214 ag1 ?_;refine .af (.z zg (.zn zg (.seq (.af (.z zm (.o (.call call168 rfl (jk hs hr) ?_)))))));rintro _ w ⟨e,rfl,he,hs⟩;obtain rfl:e=0:=he.elim (fun h=>h.2) fun h=>(h.1 hp).elim
 refine .zn fV (.dK rfl (fun O1=>?_) (fun O1=>?_))
 ·exact .af (.z zg (.zn zg (.ret (rT (Fin.gU results214 rfl rfl ((O1 rfl).elim))))))
 ·refine .skip (nT (.af (.z zm (.o (.call call258 rfl (k9 hs hr hp) ?_)))));rintro v9 w ⟨H1,az,hR,hs⟩;exact .zn zg (.af (.z zm (.z zg (.zn zg (.ret (Fin.gU results214 rfl rfl ⟨H1,_,az,rfl,hR,hs⟩))))))
theorem uN{w:World}{a b:List Int}(hs:St H w σ)(h1:RI H v1 a)(h2:RI H v2 b)(BZ:fP 9 100000 a)(xG:fP 7 15000 b):
  aaR 257 [v1,v2] w fun u w'=>u= .bool true∧St H w' σ:=by
 refine Cl.o func257 ntmps257 ag2 ?_;refine .af (.zn zg (.af (.z zm (.o (.call call217 rfl (lQ (many:=9) (most:=100000) hs h1 ai) ?_)))));rintro _ w ⟨b6,rfl,Fj,hs⟩;refine .z zm (.bif (t':=7) rfl (fun L7=>?_) (fun L7=>?_))
 ·refine .T (.z zm (.T (.o (.call call217 rfl (lQ (many:=7) (most:=15000) hs h2 ai) ?_))));rintro _ w ⟨b9,rfl,QB,hs⟩;exact .z zpT (.zn zg (.ret (Fin.bj results257 rfl ⟨by rw [QB.2 xG],hs⟩)))
 ·refine .Fs 2 2 true (.z zpF (.zn zg (.ret (Fin.bj results257 rfl ?_))));rw [Fj.2 BZ] at L7;cases L7
set_option maxHeartbeats 1000000 in
theorem zW{w:World}(hs:St H w σ)(Jl:RI H v1 l1)(Am:RI H v2 l2)(BZ:fP 9 100000 l1)(xG:fP 7 15000 l2):
  aaR 213 [v1,v2] w fun u w'=>∃H1 vo,HLe H H1∧u= .tuple #[vo,I 0]∧RT H1 vo (pR (wts l1) (wts l2) l1.length)∧St H1 w' σ:=by
 obtain ⟨a1,c1,rfl⟩:=RI.shape Jl;obtain ⟨a2,c2,rfl⟩:=RI.shape Am;have yz:=BZ.many;have S7:=xG.many;have Qk:fP 9 100000 l2:=⟨xG.two,ai,xG.low,by have:=xG.high;omega,xG.rise⟩;have Gc:=fu l1;have TU:=fu l2;have XL:=GL BZ;have XK:=GL xG;refine Cl.o func213 ntmps213 ag2 ?_;refine .af (.z zg (.zn zg (.seq (.af (.z zm (.z zm (.o (.call call257 rfl (uN hs Jl Am BZ xG) ?_))))))));rintro _ w ⟨rfl,hs⟩;refine .zn fU (.cond rfl (fun e7=>?_) (fun e7=>?_))
 ·refine .af (.z zg (.zn zg (.ret (rT (Fin.gU results213 rfl rfl ?_)))));cases e7
 ·refine .skip (nT (.af (.z zm (.o (.call call258 rfl (k9 hs Jl BZ) ?_)))));rintro v17 w ⟨H1,az,hX,hs⟩;refine .zn zg (.af (.z zm (.o (.call call258 rfl (k9 hs (Am.mono az) Qk) ?_))));rintro v19 w ⟨H2,bg,hY,hs⟩;replace hX:=hX.mono bg;generalize wts l1=X at*;generalize wts l2=Y at*;obtain ⟨aX,cX,rfl⟩:=RI.shape hX;obtain ⟨aY,cY,rfl⟩:=RI.shape hY;refine .zn zg (.af (.zn zg (.seq (.af (.zn zg (.block ?_))))));refine .loop (fun p:Nat×Value=>⟨49,[],[(9,I (p.1:Int)),(8,p.2),(7,.slice aY Y.length cY),(6,.slice aX X.length cX)]⟩)
   (fun p w=>p.1≤X.length∧∃H3 us en,HLe H2 H3∧RLs H3 us (pR X Y p.1)∧cU 1 p.2 us en∧St H3 w (en::σ)) (fun p=>X.length - p.1) (0,.slice none 0 0) aH
   ⟨Nat.zero_le _,H2,[],_,HLe.refl _,RLs.nil _,.nil 1 none,hs.nul⟩ ?_
  rintro ⟨i,vo⟩ w ⟨hi,H3,us,en,bZ,Pg,hO,hs⟩;dsimp only at hi Pg hO ⊢;have Ky:us.length=i:=by rw [Pg.1,mc]
  refine .seq (.af (.z zm (.z zm (.z (de ae) (.zn fN (.bh rfl (fun mK=>?_) (fun mK=>?_)))))))
  ·refine .skip (nT (.seq (.block (.af (.zn zg (.seq (.af (.zn zg (.block ?_)))))))));refine .loop (fun p:Nat×Value=>⟨49,[],[(11,I (p.1:Int)),(10,p.2),(9,I (i:Int)),(8,vo),(7,.slice aY Y.length cY),(6,.slice aX X.length cX)]⟩)
    (fun p w=>p.1≤Y.length∧∃en2,cU 1 p.2 (Is ((Dr X Y i).take p.1)) en2∧St H3 w (en2::en::σ)) (fun p=>Y.length - p.1) (0,.slice none 0 0) aH
    ⟨Nat.zero_le _,_,.nil 1 none,hs.nul⟩ ?_
   rintro ⟨k,vr⟩ w ⟨hk,en2,dY,hs⟩;dsimp only at hk dY ⊢;refine .seq (.af (.z zm (.z zm (.z (de ae) (.zn fN (.bh rfl (fun nO=>?_) (fun nO=>?_)))))))
   ·refine .skip (nT (.seq (.block (.draw mix rfl hs fun w hs=>?_))));refine .zw 0 rfl zm ?_;refine .z 1 rfl zm ?_;refine .z 2 rfl zm ?_;have Jq:k<Y.length:=by omega
    have B3:=XL i;have y8:=XK k;have Wz: -3456000000000≤gi X i*gi Y k∧gi X i*gi Y k≤3456000000000:=kL (A:=4800000) (B:=720000) (by unfold ab at B3;omega) (by unfold ab at y8;omega);refine .ixX (enc:=fun x=>[I x]) (i:=3) hs rfl aA .none (hX.mono bZ) rfl rfl ae an (bu (l:=X) (i:=i) ai) cK ?_;intro Oa o35 nj;replace nj:=bD.one nj;refine .r (i:=4) hs rfl aA .none (aC rfl aj nj) ?_;refine .zw 5 rfl zm ?_;refine .z 6 rfl zm ?_;refine .ixX (enc:=fun x=>[I x]) (i:=7) hs rfl aA .none (hY.mono bZ) rfl rfl ae an (bu (l:=Y) (i:=k) ai) cK ?_;intro Py o39 kd;replace kd:=bD.one kd;refine .r (i:=8) hs rfl aA .none (aC rfl aj kd) ?_;refine .zw 9 rfl kV (.E 10 hs ?_);refine .buildSlice (cells:=[_]) hs cV rfl rfl ?_;intro R0 w hs;refine .go (.E 11 hs ?_);refine .append (ys:=Is [gi X i*gi Y k]) hs cA rfl rfl dY (.own .here rfl rfl) (iP _) (fun l' h=>by simp at h;omega) ?_;intro v43 en43 w T4 hs;rw [show Is ((Dr X Y i).take k)++Is [gi X i*gi Y k]=Is ((Dr X Y i).take (k+1)) by rw [DX Jq];simp [Is]] at T4;refine .go (.zw 12 rfl zg ?_);refine .D hs ?_;exact nB (nT (.region (.z zm (.z cH (.zn zg (nT ⟨(k+1,v43),.cD rfl bH aH,⟨by dsimp only;omega,_,T4,hs.sb⟩,by dsimp only;omega⟩))))))
   ·refine .exit (xT (xT (xB (nT (.region (.z zm (.z zm ?_)))))));obtain ⟨H4,eH,hR,hs⟩:=cU.dR dY (by rw [List.length_take,lM];omega) hs .here;rw [List.take_of_length_le (by rw [lM];omega)] at hR;obtain ⟨ar,cr,rfl⟩:=RI.shape hR;refine .o (.buildSlice (cells:=[_]) hs tn rfl rfl fun Vq w hs=>?_);refine .o (.append (ys:=[.slice ar (Dr X Y i).length cr]) hs nX rfl rfl hO (.own .here rfl rfl) (by simp [Value.oneCell']) (fun l' h=>by omega) fun v47 en47 w X9 hs=>?_);have XS:RLs H4 (us++[.slice ar (Dr X Y i).length cr]) (pR X Y (i+1)):=by rw [B7];exact (Pg.mono eH).snoc hR
    exact .zn zg (nB (nT (.region (.z zm (.z cH (.zn zg (nT ⟨(i+1,v47),.cD rfl bH aH,⟨by dsimp only;omega,H4,_,_,bZ.trans eH,XS,X9,hs.sb⟩,by dsimp only;omega⟩)))))))
  ·refine .exit (xT (xT (xB (nT (.af (.z zm (.z zg (.zn zg (.ret (Fin.gU results213 rfl rfl ?_))))))))));obtain rfl:i=X.length:=by omega
   obtain ⟨H5,kD,hR,hs⟩:=Pg.dh hO ai hs .here;exact ⟨H5,_,az.trans (bg.trans (bZ.trans kD)),rfl,by rw [←Gc];exact hR,hs⟩
theorem bM{w:World}(hs:St H w σ):aaR 164 [I a0,I a1,I a2] w fun v w'=>v= .bool (decide (a1≤a0∧a0≤a2))∧St H w' σ:=by
 refine Cl.o func164 ntmps164 ag3 ?_;refine .af (.zn zg (.af (.z zm (.z zm (.z oY (.z zm (.iz (t':=10) rfl (fun pP=>?_) (fun pP=>?_))))))))
 ·exact .T (.z zm (.T (.z zm (.T (.z oY (.z zpT (.zn zg (.ret (Fin.bj results164 rfl ⟨by simp [*],hs.out⟩)))))))))
 ·exact .Fs 3 3 true (.z zpF (.zn zg (.ret (Fin.bj results164 rfl ⟨by simp [*],hs.out⟩))))
theorem jE{w:World}(hs:St H w σ):aaR 165 [I a0] w fun v w'=>v= .bool (decide (1≤a0∧a0≤99999))∧St H w' σ:=by
 refine Cl.o func165 ntmps165 ag1 ?_;refine .af (.zn zg (.af (.z zm (.o (.call jq rfl (bM hs) ?_)))));rintro _ w ⟨rfl,hs⟩;exact .zn zg (.ret (Fin.bj results165 rfl ⟨rfl,hs⟩))
theorem lh{w:World}(hs:St H w σ)(h1:RI H cE s.st)(h2:RI H cB s.wa):
  aaR 111 [.agg #[I s.id,I s.src,cE,cB,I s.al,I s.up]] w fun v w'=>∃H1 e,HLe H H1∧v=I e∧((ft s∧e=0)∨(¬ft s∧e=30))∧St H1 w' σ:=by
 obtain ⟨gv,gu,rfl⟩:=RI.shape h1;obtain ⟨fq,fp,rfl⟩:=RI.shape h2;refine Cl.o func111 ntmps111 ag1 ?_;refine .af (.bx hs fun b1 w hs=>?_);refine .zn zg (.seq (.af (.z (zfa bO) (.y hs (zld aq) (.z (zfa aQ) (.y hs (zld aq) (.o (.call call163 rfl (rf hs h1 h2) ?_))))))));rintro _ w ⟨H1,vo,e,az,rfl,hG,hG',hs⟩;refine .z zm (.z zex (.z zex (.z zg (.zn zg (.af (.z zm (.z fV (.z zm (.EX (t':=15) rfl (fun Aw=>?_) (fun Aw=>?_))))))))))
 ·exact .Fs 4 2 false (.z zpT (.z zm (.Fs 4 8 false (.z zpT (.z zm (.Fs 5 14 false (.z zpT (.z zm (.Fs 5 21 false (.zn zpT (.cT (.af (.zn zg (.ret (rT (Fin.bj Ou rfl ⟨H1,_,az,rfl,.inr ⟨fun h=>by have:=(hG ⟨h.st,h.wa⟩).1;simp_all,rfl⟩,hs.out⟩))))))))))))))))
 ·refine .T (.z (zfa oR) (.T (.y hs (zld aj) (.T (.o (.call jq rfl (bM hs) ?_))))));rintro _ w ⟨rfl,hs⟩;refine .T (.z fU (.z zpF (.z zm (.bif (t':=21) rfl (fun pO=>?_) (fun pO=>?_)))))
  ·exact .Fs 4 8 false (.z zpT (.z zm (.Fs 5 14 false (.z zpT (.z zm (.Fs 5 21 false (.zn zpT (.cT (.af (.zn zg (.ret (rT (Fin.bj Ou rfl ⟨H1,_,az,rfl,.inr ⟨fun h=>by have:=h.id;simp_all,rfl⟩,hs.out⟩)))))))))))))
  ·refine .T (.z (zfa ez) (.T (.y hs (zld aj) (.T (.o (.call call165 rfl (jE hs) ?_))))));rintro _ w ⟨rfl,hs⟩;refine .T (.z fU (.z zpF (.z zm (.bif (t':=27) rfl (fun vD=>?_) (fun vD=>?_)))))
   ·exact .Fs 5 14 false (.z zpT (.z zm (.Fs 5 21 false (.zn zpT (.cT (.af (.zn zg (.ret (rT (Fin.bj Ou rfl ⟨H1,_,az,rfl,.inr ⟨fun h=>by have:=h.src;simp_all,rfl⟩,hs.out⟩))))))))))
   ·refine .T (.z (zfa eP) (.T (.z (zfa lr) (.T (.y hs (zld aj) (.T (.o (.call jq rfl (bM hs) ?_))))))));rintro _ w ⟨rfl,hs⟩;refine .T (.z fU (.z zpF (.z zm (.bif (t':=34) rfl (fun NK=>?_) (fun NK=>?_)))))
    ·exact .Fs 5 21 false (.zn zpT (.cT (.af (.zn zg (.ret (rT (Fin.bj Ou rfl ⟨H1,_,az,rfl,.inr ⟨fun h=>by have:=h.al;simp_all,rfl⟩,hs.out⟩)))))))
    ·refine .T (.z (zfa eP) (.T (.z (zfa lq) (.T (.y hs (zld aj) (.T (.o (.call jq rfl (bM hs) ?_))))))));rintro _ w ⟨rfl,hs⟩;refine .T (.z fU (.zn zpF (.cond rfl (fun nN=>?_) (fun nN=>?_))))
     ·exact .af (.zn zg (.ret (rT (Fin.bj Ou rfl ⟨H1,_,az,rfl,.inr ⟨fun h=>by have:=h.up;simp_all,rfl⟩,hs.out⟩))))
     ·refine .skip (nT (.af (.zn zg (.ret (Fin.bj Ou rfl ?_)))));have hg:=hG' (by simp_all);exact ⟨H1,_,az,rfl,.inl ⟨⟨hg.1,hg.2,by simp_all,by simp_all,by simp_all,by simp_all⟩,rfl⟩,hs.out⟩
theorem qJ{w:World}{r:Rdg}(hs:St H w σ)(h1:RI H cE s.st)(h2:RI H cB s.wa):
  aaR 120 [.agg #[I s.id,I s.src,cE,cB,I s.al,I s.up],.agg #[I r.src,I r.st,I r.wa,I r.val,I r.tol,I r.tape,I r.day]] w fun v w'=>∃b:Bool,v= .bool b∧(b=true↔pV s r)∧St H w' σ:=by
 obtain ⟨gv,gu,rfl⟩:=RI.shape h1;obtain ⟨fq,fp,rfl⟩:=RI.shape h2;have l1:=(RI.len h1).2.2;have l2:=(RI.len h2).2.2;refine Cl.o func120 ntmps120 ag2 ?_;refine .af (.bx hs fun b2 w hs=>?_);refine .bx hs fun b3 w hs=>?_
 refine .zn zg (.af (.z (zfa fi) (.y hs (zld aj) (.o (.call call165 rfl (jE hs) ?_)))));rintro _ w ⟨rfl,hs⟩;refine .z zm (.bif (t':=8) rfl (fun Pc=>?_) (fun Pc=>?_))
 ·refine .T ?_;refine .z (zfa gY) (.T (.y hs (zld aj) (.T (.z (zfa bO) (.T (.y hs (zld aq) (.T (.z (de ae) (.T (.z gx (.T (.o (.call jq rfl (bM hs) ?_)))))))))))));rintro _ w ⟨rfl,hs⟩;refine .z zpT (.z zm (.bif (t':=17) rfl (fun yF=>?_) (fun yF=>?_)))
  ·refine .T ?_;refine .z (zfa gX) (.T (.y hs (zld aj) (.T (.z (zfa aQ) (.T (.y hs (zld aq) (.T (.z (de ae) (.T (.z gx (.T (.o (.call jq rfl (bM hs) ?_)))))))))))));rintro _ w ⟨rfl,hs⟩;refine .z zpT (.z zm (.bif (t':=26) rfl (fun Lj=>?_) (fun Lj=>?_)))
   ·refine .T (.z (zfa dB) (.T (.y hs (zld aj) (.T (.o (.call jq rfl (bM hs) ?_))))));rintro _ w ⟨rfl,hs⟩;refine .z zpT (.z zm (.bif (t':=31) rfl (fun yE=>?_) (fun yE=>?_)))
    ·refine .T (.z (zfa dL) (.T (.y hs (zld aj) (.T (.z (zfa dB) (.T (.y hs (zld aj) (.T ?_))))))));have ht:0≤r.tol∧r.tol≤1000:=by simp_all
     refine .z gx (.T (.o (.call jq rfl (bM hs) ?_)));rintro _ w ⟨rfl,hs⟩;refine .z zpT (.z zm (.bif (t':=39) rfl (fun Lh=>?_) (fun Lh=>?_)))
     ·refine .T (.z (zfa fh) (.T (.y hs (zld aj) (.T (.o (.call jq rfl (bM hs) ?_))))));rintro _ w ⟨rfl,hs⟩;refine .z zpT (.z zm (.bif (t':=44) rfl (fun IU=>?_) (fun IU=>?_)))
      ·refine .T (.z (zfa fg) (.T (.y hs (zld aj) (.T (.o (.call jq rfl (bM hs) ?_))))));rintro _ w ⟨rfl,hs⟩;refine .z zpT (.zn zg (.ret (Fin.bj DI rfl ?_)));first
       |exact ⟨false,rfl,⟨fun h=>(by cases h),fun h=>(by obtain ⟨g1,g2,g3,g4,g5,g6,g7⟩:=h;simp_all;done)⟩,hs.out⟩
       |exact ⟨_,rfl,⟨fun h=>⟨by simp_all,by simp_all,by simp_all,by simp_all,by simp_all,by simp_all,by simpa using h⟩,fun h=>by simpa using h.day⟩,hs.out⟩
      ·refine .Fs 3 39 true (.z zpF (.zn zg (.ret (Fin.bj DI rfl ?_))));first
       |exact ⟨false,rfl,⟨fun h=>(by cases h),fun h=>(by obtain ⟨g1,g2,g3,g4,g5,g6,g7⟩:=h;simp_all;done)⟩,hs.out⟩
       |exact ⟨_,rfl,⟨fun h=>⟨by simp_all,by simp_all,by simp_all,by simp_all,by simp_all,by simp_all,by simpa using h⟩,fun h=>by simpa using h.day⟩,hs.out⟩
     ·refine .Fs 3 34 true (.z zpF (.z zm (.Fs 3 39 true (.z zpF (.zn zg (.ret (Fin.bj DI rfl ?_)))))));first
      |exact ⟨false,rfl,⟨fun h=>(by cases h),fun h=>(by obtain ⟨g1,g2,g3,g4,g5,g6,g7⟩:=h;simp_all;done)⟩,hs.out⟩
      |exact ⟨_,rfl,⟨fun h=>⟨by simp_all,by simp_all,by simp_all,by simp_all,by simp_all,by simp_all,by simpa using h⟩,fun h=>by simpa using h.day⟩,hs.out⟩
    ·refine .Fs 6 26 true (.z zpF (.z zm (.Fs 3 34 true (.z zpF (.z zm (.Fs 3 39 true (.z zpF (.zn zg (.ret (Fin.bj DI rfl ?_))))))))));first
     |exact ⟨false,rfl,⟨fun h=>(by cases h),fun h=>(by obtain ⟨g1,g2,g3,g4,g5,g6,g7⟩:=h;simp_all;done)⟩,hs.out⟩
     |exact ⟨_,rfl,⟨fun h=>⟨by simp_all,by simp_all,by simp_all,by simp_all,by simp_all,by simp_all,by simpa using h⟩,fun h=>by simpa using h.day⟩,hs.out⟩
   ·refine .Fs 3 21 true (.z zpF (.z zm (.Fs 6 26 true (.z zpF (.z zm (.Fs 3 34 true (.z zpF (.z zm (.Fs 3 39 true (.z zpF (.zn zg (.ret (Fin.bj DI rfl ?_)))))))))))));first
    |exact ⟨false,rfl,⟨fun h=>(by cases h),fun h=>(by obtain ⟨g1,g2,g3,g4,g5,g6,g7⟩:=h;simp_all;done)⟩,hs.out⟩
    |exact ⟨_,rfl,⟨fun h=>⟨by simp_all,by simp_all,by simp_all,by simp_all,by simp_all,by simp_all,by simpa using h⟩,fun h=>by simpa using h.day⟩,hs.out⟩
  ·refine .Fs 7 12 true (.z zpF (.z zm (.Fs 3 21 true (.z zpF (.z zm (.Fs 6 26 true (.z zpF (.z zm (.Fs 3 34 true (.z zpF (.z zm (.Fs 3 39 true (.z zpF (.zn zg (.ret (Fin.bj DI rfl ?_))))))))))))))));first
   |exact ⟨false,rfl,⟨fun h=>(by cases h),fun h=>(by obtain ⟨g1,g2,g3,g4,g5,g6,g7⟩:=h;simp_all;done)⟩,hs.out⟩
   |exact ⟨_,rfl,⟨fun h=>⟨by simp_all,by simp_all,by simp_all,by simp_all,by simp_all,by simp_all,by simpa using h⟩,fun h=>by simpa using h.day⟩,hs.out⟩
 ·refine .Fs 7 3 true (.z zpF (.z zm (.Fs 7 12 true (.z zpF (.z zm (.Fs 3 21 true (.z zpF (.z zm (.Fs 6 26 true (.z zpF (.z zm (.Fs 3 34 true (.z zpF (.z zm (.Fs 3 39 true (.z zpF (.zn zg (.ret (Fin.bj DI rfl ?_)))))))))))))))))));first
  |exact ⟨false,rfl,⟨fun h=>(by cases h),fun h=>(by obtain ⟨g1,g2,g3,g4,g5,g6,g7⟩:=h;simp_all;done)⟩,hs.out⟩
  |exact ⟨_,rfl,⟨fun h=>⟨by simp_all,by simp_all,by simp_all,by simp_all,by simp_all,by simp_all,by simpa using h⟩,fun h=>by simpa using h.day⟩,hs.out⟩
theorem qK{w:World}{c:Cmp}(hs:St H w σ):
  aaR 170 [.agg #[I c.src,I c.tape,I c.fr,I c.to,I c.lo,I c.hi]] w fun v w'=>∃b:Bool,v= .bool b∧(b=true↔uk c)∧St H w' σ:=by
 refine Cl.o func170 ntmps170 ag1 ?_;refine .af (.bx hs fun b1 w hs=>?_);refine .zn zg (.af (.z (zfa je) (.y hs (zld aj) (.o (.call call165 rfl (jE hs) ?_)))));rintro _ w ⟨rfl,hs⟩;refine .z zm (.bif (t':=6) rfl (fun Fj=>?_) (fun Fj=>?_))
 ·refine .T (.z (zfa kr) (.T (.y hs (zld aj) (.T (.o (.call jq rfl (bM hs) ?_))))));rintro _ w ⟨rfl,hs⟩;refine .z zpT (.z zm (.bif (t':=11) rfl (fun oO=>?_) (fun oO=>?_)))
  ·refine .T (.z (zfa gZ) (.T (.y hs (zld aj) (.T (.z (zfa gq) (.T (.y hs (zld aj) (.T (.o (.call jq rfl (bM hs) ?_))))))))));rintro _ w ⟨rfl,hs⟩;refine .z zpT (.z zm (.bif (t':=18) rfl (fun Gb=>?_) (fun Gb=>?_)))
   ·refine .T (.z (zfa gq) (.T (.y hs (zld aj) (.T (.o (.call jq rfl (bM hs) ?_))))));rintro _ w ⟨rfl,hs⟩;refine .z zpT (.z zm (.bif (t':=23) rfl (fun pN=>?_) (fun pN=>?_)))
    ·refine .T (.z (zfa gj) (.T (.y hs (zld aj) (.T (.z (zfa gg) (.T (.y hs (zld aj) (.T (.o (.call jq rfl (bM hs) ?_))))))))));rintro _ w ⟨rfl,hs⟩;refine .z zpT (.z zm (.bif (t':=30) rfl (fun XI=>?_) (fun XI=>?_)))
     ·refine .T (.z (zfa gg) (.T (.y hs (zld aj) (.T (.o (.call jq rfl (bM hs) ?_))))));rintro _ w ⟨rfl,hs⟩;refine .z zpT (.zn zg (.ret (Fin.bj Oq rfl ?_)));first
      |exact ⟨false,rfl,⟨fun h=>(by cases h),fun h=>(by obtain ⟨g1,g2,g3,g4,g5,g6⟩:=h;simp_all;omega)⟩,hs.out⟩
      |exact ⟨false,rfl,⟨fun h=>(by cases h),fun h=>(by obtain ⟨g1,g2,g3,g4,g5,g6⟩:=h;simp_all;done)⟩,hs.out⟩
      |exact ⟨_,rfl,⟨fun h=>⟨by simp_all,by simp_all,by simp_all,by simp_all,by simp_all,(by simpa using h:_∧_).2⟩,fun h=>by have:=h.lo;have:=h.hi;simp;omega⟩,hs.out⟩
     ·refine .Fs 3 27 true (.z zpF (.zn zg (.ret (Fin.bj Oq rfl ?_))));first
      |exact ⟨false,rfl,⟨fun h=>(by cases h),fun h=>(by obtain ⟨g1,g2,g3,g4,g5,g6⟩:=h;simp_all;omega)⟩,hs.out⟩
      |exact ⟨false,rfl,⟨fun h=>(by cases h),fun h=>(by obtain ⟨g1,g2,g3,g4,g5,g6⟩:=h;simp_all;done)⟩,hs.out⟩
      |exact ⟨_,rfl,⟨fun h=>⟨by simp_all,by simp_all,by simp_all,by simp_all,by simp_all,(by simpa using h:_∧_).2⟩,fun h=>by have:=h.lo;have:=h.hi;simp;omega⟩,hs.out⟩
    ·refine .Fs 5 20 true (.z zpF (.z zm (.Fs 3 27 true (.z zpF (.zn zg (.ret (Fin.bj Oq rfl ?_)))))));first
     |exact ⟨false,rfl,⟨fun h=>(by cases h),fun h=>(by obtain ⟨g1,g2,g3,g4,g5,g6⟩:=h;simp_all;omega)⟩,hs.out⟩
     |exact ⟨false,rfl,⟨fun h=>(by cases h),fun h=>(by obtain ⟨g1,g2,g3,g4,g5,g6⟩:=h;simp_all;done)⟩,hs.out⟩
     |exact ⟨_,rfl,⟨fun h=>⟨by simp_all,by simp_all,by simp_all,by simp_all,by simp_all,(by simpa using h:_∧_).2⟩,fun h=>by have:=h.lo;have:=h.hi;simp;omega⟩,hs.out⟩
   ·refine .Fs 3 15 true (.z zpF (.z zm (.Fs 5 20 true (.z zpF (.z zm (.Fs 3 27 true (.z zpF (.zn zg (.ret (Fin.bj Oq rfl ?_))))))))));first
    |exact ⟨false,rfl,⟨fun h=>(by cases h),fun h=>(by obtain ⟨g1,g2,g3,g4,g5,g6⟩:=h;simp_all;omega)⟩,hs.out⟩
    |exact ⟨false,rfl,⟨fun h=>(by cases h),fun h=>(by obtain ⟨g1,g2,g3,g4,g5,g6⟩:=h;simp_all;done)⟩,hs.out⟩
    |exact ⟨_,rfl,⟨fun h=>⟨by simp_all,by simp_all,by simp_all,by simp_all,by simp_all,(by simpa using h:_∧_).2⟩,fun h=>by have:=h.lo;have:=h.hi;simp;omega⟩,hs.out⟩
  ·refine .Fs 5 8 true (.z zpF (.z zm (.Fs 3 15 true (.z zpF (.z zm (.Fs 5 20 true (.z zpF (.z zm (.Fs 3 27 true (.z zpF (.zn zg (.ret (Fin.bj Oq rfl ?_)))))))))))));first
   |exact ⟨false,rfl,⟨fun h=>(by cases h),fun h=>(by obtain ⟨g1,g2,g3,g4,g5,g6⟩:=h;simp_all;omega)⟩,hs.out⟩
   |exact ⟨false,rfl,⟨fun h=>(by cases h),fun h=>(by obtain ⟨g1,g2,g3,g4,g5,g6⟩:=h;simp_all;done)⟩,hs.out⟩
   |exact ⟨_,rfl,⟨fun h=>⟨by simp_all,by simp_all,by simp_all,by simp_all,by simp_all,(by simpa using h:_∧_).2⟩,fun h=>by have:=h.lo;have:=h.hi;simp;omega⟩,hs.out⟩
 ·refine .Fs 3 3 true (.z zpF (.z zm (.Fs 5 8 true (.z zpF (.z zm (.Fs 3 15 true (.z zpF (.z zm (.Fs 5 20 true (.z zpF (.z zm (.Fs 3 27 true (.z zpF (.zn zg (.ret (Fin.bj Oq rfl ?_))))))))))))))));first
  |exact ⟨false,rfl,⟨fun h=>(by cases h),fun h=>(by obtain ⟨g1,g2,g3,g4,g5,g6⟩:=h;simp_all;omega)⟩,hs.out⟩
  |exact ⟨false,rfl,⟨fun h=>(by cases h),fun h=>(by obtain ⟨g1,g2,g3,g4,g5,g6⟩:=h;simp_all;done)⟩,hs.out⟩
  |exact ⟨_,rfl,⟨fun h=>⟨by simp_all,by simp_all,by simp_all,by simp_all,by simp_all,(by simpa using h:_∧_).2⟩,fun h=>by have:=h.lo;have:=h.hi;simp;omega⟩,hs.out⟩
theorem py{w:World}(hs:St H w σ)(h1:RI H cE s.st)(h2:RI H cB s.wa)(hb:s.st.length≤1000∧s.wa.length≤1000):
  aaR 196 [.agg #[I s.id,I s.src,cE,cB,I s.al,I s.up]] w fun v w'=>v=I (s.many:Int)∧St H w' σ:=by
 obtain ⟨gv,gu,rfl⟩:=RI.shape h1;obtain ⟨fq,fp,rfl⟩:=RI.shape h2;have hm:=kL (a:=(s.st.length:Int)) (b:=(s.wa.length:Int)) (A:=1000) (B:=1000) ai ai;refine Cl.o func196 ntmps196 ag1 ?_;refine .af (.bx hs fun b1 w hs=>?_);exact .zn zg (.af (.z (zfa bO) (.y hs (zld aq) (.z (de ae) (.z (zfa aQ) (.y hs (zld aq) (.z (de ae) (.z kV (.zn zg (.ret (Fin.bj results196 rfl ⟨by unfold Spc.many;rw [Int.natCast_mul],hs.out⟩)))))))))))
theorem sQ{w:World}{b:Int}(hs:St H w σ)(h2:RI H cB s.wa)(hb:s.wa.length≤1000)(ha: -1000≤a∧a≤1000)(aai: -1000≤b∧b≤1000):
  aaR 247 [.agg #[I s.id,I s.src,cE,cB,I s.al,I s.up],I a,I b] w fun v w'=>v=I (1+a*s.wa.length+b)∧St H w' σ:=by
 obtain ⟨fq,fp,rfl⟩:=RI.shape h2;have hm:=kL (a:=a) (b:=(s.wa.length:Int)) (A:=1000) (B:=1000) ai ai;refine Cl.o func247 ntmps247 ag3 ?_;refine .af (.bx hs fun b3 w hs=>?_);exact .zn zg (.af (.z zm (.z (zfa aQ) (.y hs (zld aq) (.z (de ae) (.z kV (.z cH (.z zm (.z cH (.zn zg (.ret (Fin.bj results247 rfl ⟨rfl,hs.out⟩))))))))))))
theorem ky{w:World}{r:Rdg}(hs:St H w σ):
  aaR 241 [.agg #[I r.src,I r.st,I r.wa,I r.val,I r.tol,I r.tape,I r.day]] w fun v w'=>v= .agg #[I r.tape,I r.day]∧St H w' σ:=by
 refine Cl.o func241 ntmps241 ag1 ?_;refine .af (.bx hs fun b1 w hs=>?_);refine .o (.alloc hs wv rfl fun b2 w hs=>?_);refine .nil (.af (.z (zfa fh) (.y hs (zld aj) (.z (zfa fg) (.y hs (zld aj) (.z (zbd [_,_] jQ) (.o (.aE (vs:=[_,_]) hs rfl rfl dw fun w hs=>?_))))))));exact .nil (.ret (Fin.iT [] [] hs fun w hs=>⟨_,results1 results241 (dp (vs:=[_,_]) hs rfl jT dw),rfl,hs.out⟩))
theorem pz{w:World}{b:Int}(hs:St H w σ)(ha:0≤a∧a≤100000)(hb:0≤b∧b≤100000):
  aaR 243 [I a,I b] w fun v w'=>v=I (mN a b)∧St H w' σ:=by
 have hm:=kL (a:=a) (b:=b) (A:=100000) (B:=100000) ai ai;have h0:=Int.mul_nonneg ha.1 hb.1;have IE:0≤(a*b+999).tdiv 1000:=Int.tdiv_nonneg ai ai;have Nn:(a*b+999).tdiv 1000≤a*b+999:=by rw [Int.tdiv_eq_ediv_of_nonneg ai];omega
 refine Cl.o func243 ntmps243 ag2 ?_;exact .af (.zn zg (.af (.z zm (.z zm (.z kV (.z cH (.q hs (uO rfl rfl ai ai) (.z Dq (.zn zg (.ret (Fin.bj results243 rfl ⟨rfl,hs⟩)))))))))))
def A4(s:Spc):List (List Value):=(List.range s.many).map fun p=>[Value.agg #[I ((p/s.wa.length:Nat):Int),I ((p%s.wa.length:Nat):Int),I ((p+1:Nat):Int)]]
theorem eI(s:Spc):(A4 s).length=s.many:=by simp [A4]
theorem oH{p:Nat}(h:p<(A4 s).length):(A4 s)[p]=[Value.agg #[I ((p/s.wa.length:Nat):Int),I ((p%s.wa.length:Nat):Int),I ((p+1:Nat):Int)]]:=by simp [A4]
theorem uU(hb:Row H b [I s.id,I s.src,cE,cB,I s.al,I s.up])(h1:RI H cE s.st)(h2:RI H cB s.wa)(sZ:s.st.length≤1000∧s.wa.length≤1000):
  Iter Tryz.prog 188 [Pt b] H (A4 s):=by
 intro ly II Ix FV _ hy H0 GJ σf w hle B5 hs;obtain ⟨gv,gu,rfl⟩:=RI.shape h1;obtain ⟨fq,fp,rfl⟩:=RI.shape h2;have g2:cellAt H0 b 2=some (.slice gv s.st.length gu):=cellAt.mono (hb.at 2) hle;have g3:cellAt H0 b 3=some (.slice fq s.wa.length fp):=cellAt.mono (hb.at 3) hle;have hm:s.many≤1000000:=Nat.mul_le_mul sZ.1 sZ.2;refine Cl.o func188 ntmps188 ag2 ?_;refine .af (.zn zg (.af (.z (zfa bO) (.y hs (zld aq) (.z (de ae) (.zn zm (.for (N:=s.st.length) (J:=fun i fr w=>fr=[(3,I ((i*s.wa.length:Nat):Int)),(0,.func (.yield ly) #[] #[]),(1,Pt b)]∧∃H1 σb,HLe H H1∧HLe H0 H1∧II (i*s.wa.length) H1 σb∧St H1 w (σb++σf)) ai ?_ ?_ ?_)))))))
 ·exact .mk ⟨by rw [Nat.zero_mul],H0,GJ,hle,HLe.refl _,by rw [Nat.zero_mul];exact B5,hs⟩
 ·rintro i fr w hi ⟨rfl,H1,σb,az,fO,hI,hs⟩;have h23:=cellAt.mono g3 fO;refine .block (.af (.z zm (.zn zg (.af (.z (zfa aQ) (.y hs (zld aq) (.z (de ae) (.zn zm (.for (N:=s.wa.length) (J:=fun k fr w=>fr=[(3,I ((i*s.wa.length+k:Nat):Int)),(4,I (i:Int)),(9,I (i:Int)),(8,I (s.st.length:Int)),(0,.func (.yield ly) #[] #[]),(1,Pt b)]∧∃H3 σb,HLe H1 H3∧II (i*s.wa.length+k) H3 σb∧St H3 w (σb++σf)) ai ?_ ?_ ?_)))))))))
  ·exact .mk ⟨rfl,H1,σb,HLe.refl _,hI,hs⟩
  ·rintro k fr w hk ⟨rfl,H3,Mf,bZ,Ln,hs⟩;obtain ⟨d1,d2⟩:=PM (nw:=s.wa.length) (i:=i) (k:=k) hk;have fb:=Zd hi hk;refine .block (.af (.z zm (.zn zg (.af (.z zm (.z cH (.zn zg (.af (.z zm (.z zm (.z zm (.z zm (.z (zbd [_,_,_] vV) ?_)))))))))))));have tj:i*s.wa.length+k<(A4 s).length:=by rw [eI];exact fb
   have A0:=hy (i*s.wa.length+k) tj H3 Mf σf w (az.trans bZ) Ln hs;rw [oH tj,d1,d2,show ((i*s.wa.length+k+1:Nat):Int)=((i*s.wa.length+k:Nat):Int)+1 by omega] at A0;refine .o (.yield rfl rfl A0 ?_);rintro v25 w ⟨H5,σ5,g1,hs,g3'⟩;obtain ⟨bb,rfl,gT,gF⟩:=q7 g3';refine .zn fU (.cond rfl (fun iV=>?_) (fun iV=>?_))
   ·exact .ret (rB (rT (rB (rB (rT (rB (Fin.Rv results188 ⟨H5,σ5,fO.trans (bZ.trans g1),hs,.inr (gF (by simpa using iV))⟩)))))))
   ·exact .skip (nB (nT (.mk ⟨rfl,H5,σ5,bZ.trans g1,gT (by simpa using iV),hs⟩)))
  ·rintro fr w ⟨rfl,H3,Mf,bZ,Ln,hs⟩;have e:i*s.wa.length+s.wa.length=(i+1)*s.wa.length:=by rw [Nat.add_mul,Nat.one_mul]
   rw [e] at Ln ⊢;exact nB (nT (.mk ⟨rfl,H3,Mf,az.trans bZ,fO.trans bZ,Ln,hs⟩))
 ·rintro fr w ⟨rfl,H1,σb,az,fO,hI,hs⟩;exact Fin.EO results188 ⟨H1,σb,fO,hs,.inl (by rw [eI];exact hI)⟩
theorem fY{w:World}(hs:St H w σ)(h1:RI H cE s.st)(h2:RI H cB s.wa)(sZ:s.st.length≤1000∧s.wa.length≤1000):
  aaR 131 [.agg #[I s.id,I s.src,cE,cB,I s.al,I s.up]] w fun u w'=>∃H1 b,HLe H H1∧u= .func (.func 188) #[] #[Pt b]∧Iter Tryz.prog 188 [Pt b] H1 (A4 s)∧St H1 w' σ:=by
 obtain ⟨gv,gu,rfl⟩:=RI.shape h1;obtain ⟨fq,fp,rfl⟩:=RI.shape h2;refine Cl.o func131 ntmps131 ag1 ?_;refine .af (.bx hs fun b1 w hs=>?_);refine .zn zg (.af (.q hs (dU (f:=[]) (c:=[_]) rfl rfl) (.zn zg (.ret (Fin.bj results131 rfl ?_)))));obtain ⟨H1,g1,g2,hs⟩:=hs.dh .here;exact ⟨H1,b1,g1,rfl,uU g2 (h1.mono g1) (h2.mono g1) sZ,hs⟩
set_option maxRecDepth 100000 in
theorem yR:Tryz.prog.stoodInHeld 162=false:=by kernel_rfl
set_option maxRecDepth 100000 in
theorem yS:Tryz.prog.eqGuardType Tryz.prog.depth 162=false:=by kernel_rfl
theorem tB{w:World}{v:Value}{xs:List TD}(q:TD→Bool)(hs:St H w (en::σ))(hO:cU 2 v (tdc xs).flatten en)(hl:xs.length≤1000000)(hc:∀args w,(callFunc g args).run Tryz.prog w= .ok (.enter g args) w)
  (hp:∀w (t:TD),St H w (en::σ)→aaR g ([.agg #[I t.tape,I t.day]]++cap) w fun u w'=>u= .bool (q t)∧St H w' (en::σ)):
  aaR 276 [v,.func (.func g) #[] cap.toArray] w fun u w'=>∃i:Int,u=I i∧(0≤i↔∃x∈xs,q x=true)∧St H w' (en::σ):=by
 obtain ⟨a,c,rfl⟩:=hO.j6 (sL xs) ai;rw [fa] at hO ⊢;refine Cl.o func276 ntmps276 ag2 ?_;refine .af (.zn zg (.seq (.af (.z zm (.z (de cf) (.zn zm (.for (N:=xs.length) (J:=fun k fr w=>fr=[(1,.func (.func g) #[] cap.toArray),(0,.slice a xs.length c)]∧(∀j<k,∀y,xs[j]? =some y→¬q y=true)∧St H w (en::σ)) ai ?_ ?_ ?_)))))))
 ·exact .mk ⟨rfl,fun j hj=>by omega,hs⟩
 ·rintro k fr w hk ⟨rfl,eE,hs⟩;obtain ⟨x,hx⟩:=nth hk;obtain ⟨b,c',sp,hv,rfl,_⟩:=hO.N8 (sL xs) ai (by rw [fa];omega);rw [fa] at hv;cases hv
  refine .block (.af (.z zm (.zn zg (.af (.z zm (.z zm (.z zm (.z (oe cf dw) (.q hs (mG (vs:=x.c) rfl jT dw .here (BT (sL xs) (JG hx) sp)) (.o (.sa (first:=[]) (cap:=cap) rfl rfl hc (hp _ x hs) ?_)))))))))));rintro _ w ⟨rfl,hs⟩;refine .nil (.cond rfl (fun eC=>?_) (fun eC=>?_))
  ·exact .af (.z zm (.zn zg (.ret (rB (rT (rB (rT (Fin.bj results276 rfl ⟨_,rfl,⟨fun _=>⟨x,List.mem_of_getElem? hx,eC⟩,fun _=>by omega⟩,hs⟩))))))))
  ·exact .skip (nB (nT (.mk ⟨rfl,fH eE hx (by simpa using eC),hs⟩)))
 ·rintro fr w ⟨rfl,eE,hs⟩;refine nT (.af (.zn zg (.ret (Fin.bj results276 rfl ?_))));exact ⟨_,rfl,⟨fun h=>by omega,fun ⟨x,h1,h2⟩=>by
   obtain ⟨j,hj⟩:=List.getElem?_of_mem h1;exact (eE j (List.getElem?_eq_some_iff.1 hj).1 x hj h2).elim⟩,hs⟩
theorem qH{w:World}{v:Value}{xs:List TD}(q:TD→Bool)(hs:St H w (en::σ))(hO:cU 2 v (tdc xs).flatten en)(hl:xs.length≤1000000)(hc:∀args w,(callFunc g args).run Tryz.prog w= .ok (.enter g args) w)
  (hp:∀w (t:TD),St H w (en::σ)→aaR g ([.agg #[I t.tape,I t.day]]++cap) w fun u w'=>u= .bool (q t)∧St H w' (en::σ)):
  aaR 239 [v,.func (.func g) #[] cap.toArray] w fun u w'=>∃b:Bool,u= .bool b∧(b=true↔∃x∈xs,q x=true)∧St H w' (en::σ):=by
 refine Cl.o func239 ntmps239 ag2 ?_;refine .af (.zn zg (.af (.z zm (.z zm (.o (.call call276 rfl (tB q hs hO hl hc hp) ?_))))));rintro _ w ⟨i,rfl,hi,hs⟩;exact .z xv (.zn zg (.ret (Fin.bj results239 rfl ⟨_,rfl,by simp only [decide_eq_true_eq];exact hi,hs⟩)))
theorem zJ{w:World}{v:Value}{xs:List TD}(hs:St H w σ)(hr:RTd H v xs)(hl:xs.length≤1000000):
  aaR 246 [v,.agg #[I t.tape,I t.day]] w fun u w'=>u=I (mB xs t)∧St H w' σ:=by
 obtain ⟨a,c,rfl⟩:=RTd.shape hr;refine Cl.o func246 ntmps246 ag2 ?_;refine .af (.bx hs fun b3 w hs=>?_);refine .zn zg (.seq (.af (.z zm (.z (de cf) (.zn zm (.for (N:=xs.length) (J:=fun k fr w=>fr=[(0,.slice a xs.length c),(3,Pt b3)]∧(∀j<k,∀y,xs[j]? =some y→¬y=t)∧St H w (.blk b3 [I t.tape,I t.day]::σ)) ai ?_ ?_ ?_))))))
 ·exact .mk ⟨rfl,fun j hj=>by omega,hs⟩
 ·rintro k fr w hk ⟨rfl,eE,hs⟩;obtain ⟨x,hx⟩:=nth hk;refine .block (.af (.z zm (.zn zg (.seq (.draw mix rfl hs fun w hs=>?_)))));refine .ys 0 rfl hs [_,_] jT dw ?_;refine .z 1 rfl zm ?_;refine .z 2 rfl zm ?_;refine .ixX (enc:=TD.c) (i:=3) hs rfl aA .none hr rfl rfl cf dw hx cK ?_;intro oh o14 jH;refine .r (i:=4) hs rfl aA .none (bQ (vs:=x.c) rfl jT dw jH) ?_;refine .z 5 rfl (D2 yR yS nA (fun f hf=>by
   simp only [List.mem_cons,List.not_mem_nil,or_false] at hf
   rcases hf with rfl|rfl<;>exact ⟨by decide,cq,aj⟩) rfl rfl) ?_
  refine .D hs (.cond rfl (fun eC=>?_) (fun eC=>?_))
  ·refine .af (.z zm (.zn zg (.ret (rB (rT (rB (rT (Fin.bj results246 rfl ?_))))))));have e:x=t:=Mq.1 (by have:=of_decide_eq_true eC;exact ⟨this.1.symm,this.2.symm⟩);subst e;exact ⟨by rw [uz hx fun j hj h=>eE j hj _ h rfl],hs.tail⟩
  ·exact .skip (nB (nT (.mk ⟨rfl,fH eE hx (fun e=>by subst e;simp at eC),hs⟩)))
 ·rintro fr w ⟨rfl,eE,hs⟩;exact nT (.af (.zn zg (.ret (Fin.bj results246 rfl ⟨by rw [Cu eE],hs.tail⟩))))
theorem sR{w:World}{r:Rdg}(hs:St H w σ)(hb:Row H b r.c):
  aaR 240 [.agg #[I t.tape,I t.day],Pt b] w fun u w'=>u= .bool (decide (t=r.td))∧St H w' σ:=by
 have A3:bD H b 0 r.c:=hb.cells 0 r.c;refine Cl.o func240 ntmps240 ag2 ?_;refine .af (.bx hs fun b2 w hs=>?_);refine .zn zg (.seq (.draw mix rfl hs fun w hs=>?_));refine .ys 0 rfl hs [_,_] jT dw ?_;refine .ys 1 rfl hs [_,_,_,_,_,_,_] jU a6 ?_;refine .E 2 hs ?_;refine .call call241 rfl (ky hs) ?_;rintro _ w ⟨rfl,hs⟩;refine .go ?_;refine .z 3 rfl (D2 yR yS nA (fun f hf=>by
  simp only [List.mem_cons,List.not_mem_nil,or_false] at hf
  rcases hf with rfl|rfl<;>exact ⟨by decide,cq,aj⟩) rfl rfl) ?_
 refine .zw 4 rfl zg ?_;refine .D hs ?_;exact .ret (Fin.bj results240 rfl ⟨by congr 1;rw [decide_eq_decide];exact Mq (t:=t) (u:=r.td),hs.tail⟩)
set_option maxHeartbeats 1000000 in
theorem wQ{w:World}{s:Srv}(hs:St H w σ)(hr:RRd H vr s.rs)(hl:s.rs.length≤1000000):
  aaR 189 [.agg #[I s.sp.id,I s.sp.src,cE,cB,I s.sp.al,I s.sp.up,vr,vc]] w fun u w'=>∃H1 en,HLe H H1∧cU 2 u (tdc s.cQ).flatten en∧St H1 w' (en::σ):=by
 obtain ⟨ar,cr,rfl⟩:=RRd.shape hr;refine Cl.o func189 ntmps189 ag1 ?_;refine .af (.bx hs fun b1 w hs=>?_);refine .zn zg (.af (.zn zg (.seq (.af (.z (zfa aN) (.y hs (zld dm) (.z (de aD) (.zn zm (.for (N:=s.rs.length) (J:=fun k fr w=>∃vo en H1,fr=[(7,.slice ar s.rs.length cr),(3,vo)]∧HLe H H1∧cU 2 vo (tdc (bB (s.rs.take k))).flatten en∧St H1 w (en::σ)) ai ?_ ?_ ?_)))))))))
 ·exact .mk ⟨_,.nul,H,rfl,HLe.refl _,.nil 2 none,hs.tail.nul⟩
 ·rintro k fr w hk ⟨vo,en,H1,rfl,az,hO,hs⟩;obtain ⟨r,hx⟩:=nth hk;have ON:=lY hx;have xC:=nH s.rs k ai;obtain ⟨ao,co,rfl⟩:=hO.j6 (sL _) ai;rw [fa] at hO ⊢;refine .block (.af (.ixX (enc:=Rdg.c) hs (hr.mono az) rfl rfl aD a6 hx cK ?_));intro Cd o11 pL;refine .q hs (bQ (vs:=(Rdg.c r)) rfl jU a6 pL) (.o (.alloc hs jy rfl fun b5 w hs=>?_));refine .o (.aE (vs:=r.c) hs rfl rfl a6 fun w hs=>?_);obtain ⟨H2,bg,r5,hs⟩:=hs.dh (b:=b5) (c:=r.c) .here;have c5:bD H2 b5 0 r.c:=r5.cells 0 r.c;refine .nil (.af (.z zm (.q hs (dU (f:=[]) (c:=[_]) rfl rfl) (.o (.call call239 rfl (qH (g:=240) (cap:=[Pt b5]) (fun t=>decide (t=r.td)) hs hO ai call240 (fun w t hs=>sR hs r5)) ?_)))));rintro _ w ⟨yM,rfl,Aw,hs⟩;refine .zn fU (.cond rfl (fun eC=>?_) (fun eC=>?_))
  ·refine .region (.z zm (.q hs (bQ (vs:=r.c) rfl jU a6 c5) (.o (.call call241 rfl (ky (r:=r) hs) ?_))));rintro _ w ⟨rfl,hs⟩;refine .o (.buildSlice (cells:=[_,_]) hs ke rfl rfl fun Gr w hs=>?_);refine .o (.append (ys:=r.td.c) hs fK rfl rfl hO (.own .here rfl rfl) (by simp [TD.c,Value.oneCell']) (fun l h=>by rw [cj _ (sL _),fa] at h;omega) ?_);intro v21 en21 w dY hs;refine .zn zg (nB (nT ?_));have hn:r.td∉bB (s.rs.take k):=fun hm=>by
    rw [Aw.2 ⟨_,hm,bH⟩] at eC;cases eC
   rw [←Ct,show bB (s.rs.take k)++[r.td]=bB (s.rs.take (k+1)) by rw [ON];unfold wb;rw [if_neg hn]] at dY;exact .mk ⟨_,_,H2,rfl,az.trans bg,dY,hs.sb⟩
  ·refine .skip (nB (nT ?_));have hm:r.td∈bB (s.rs.take k):=by
    obtain ⟨x,h1,h2⟩:=Aw.1 (by simpa using eC);rw [←of_decide_eq_true h2];exact h1
   exact .mk ⟨_,_,H2,rfl,az.trans bg,by rw [ON];unfold wb;rw [if_pos hm];exact hO,hs⟩
 ·rintro fr w ⟨vo,en,H1,rfl,az,hO,hs⟩;rw [List.take_length] at hO;exact nT (.af (.z zm (.zn zg (.ret (Fin.bj results189 rfl ⟨H1,en,az,hO,hs⟩)))))
theorem uS{w:World}{s:Srv}(hs:St H w σ)(hr:RRd H vr s.rs)(hl:s.rs.length≤1000000):
  aaR 189 [.agg #[I s.sp.id,I s.sp.src,cE,cB,I s.sp.al,I s.sp.up,vr,vc]] w fun u w'=>∃H1,HLe H H1∧RTd H1 u s.cQ∧St H1 w' σ:=by
 refine (wQ hs hr hl).mono ?_;rintro u w' ⟨H1,en,az,hO,hs⟩;have xC:=ew s.rs;have V8:s.cQ.length≤1000000:=by unfold Srv.cQ;omega
 obtain ⟨H2,bg,hR,hs⟩:=cU.dh (m:=2) hO (sL _) ai (by rw [fa];omega) hs .here;exact ⟨H2,az.trans bg,hR,hs⟩
theorem jh{w:World}{x0 x1 x2 x3 x4 x5 x6 x7 x8:Value}{b by_:Int}(hs:St H w (.blk bm [x0,x1,x2,x3,x4,x5,x6,x7,x8,vl]::en::σ))(hO:cU 4 vl (jf ls) en)(hl:ls.length≤100000):
  aaR 242 [Pt bm,I a,I b,I hi,I lo,I by_] w fun _ w'=>∃wC kO,cU 4 wC (jf (ls++two a b hi lo by_)) kO∧St H w' (.blk bm [x0,x1,x2,x3,x4,x5,x6,x7,x8,wC]::kO::σ):=by
 obtain ⟨al,ll,cl,rfl,h⟩:=hO.shape;refine Cl.of func242 rfl ntmps242 bH (eR (k:=0) rfl (eR (k:=1) rfl (eR (k:=2) rfl (eR (k:=3) rfl (eR (k:=4) rfl (eR (k:=5) rfl (De))))))) (.region (.z zm (.z zm (.z znc (.z (zfa lj) (.y hs (zld gz) (.z zm (.z zm (.z zm (.z zm (.z (zbd [_,_,_,_] fD) (.z zm (.z zm (.z zm (.z zm (.z (zbd [_,_,_,_] fD) (.o (.buildSlice (cells:=jf (two a b hi lo by_)) hs ij rfl aA fun AK w hs=>?_))))))))))))))))));refine .o (.append (ys:=jf (two a b hi lo by_)) hs dk rfl rfl hO (.own .here rfl rfl) (od _) (fun l h=>by rw [fw] at h;omega) ?_);intro v28 en28 w dY hs;rw [←jS] at dY;obtain ⟨a28,l28,c28,rfl,h28⟩:=dY.shape;refine .z znc (.z (zfa lj) (.o (.store hs rfl rfl sizeOf175 fun w hs=>?_)));exact .nil (Fin.EO results242 ⟨_,_,dY,hs.sb⟩)
theorem nL{w:World}{x6 x7 x8:Value}{j:Int}(hs:St H w σ)(hm:Mem σ (.blk bm [I s.id,I s.src,cE,cB,I s.al,I s.up,x6,x7,x8,vl]))(h1:RI H cE s.st)(h2:RI H cB s.wa)(hb:s.st.length≤1000∧s.wa.length≤1000)(hj: -1≤j∧j≤1000):
  aaR 244 [Pt bm,I j] w fun u w'=>u=I ((s.many:Int)+1+j)∧St H w' σ:=by
 have CT:s.many≤1000000:=Nat.mul_le_mul hb.1 hb.2;refine Cl.o func244 ntmps244 ag2 ?_;refine .af (.zn zg (.af (.z zm (.z znc (.z (zfa ef) (.z (zfa aW) (.q hs (mG (vs:=[I s.id,I s.src,cE,cB,I s.al,I s.up]) rfl bE aP hm) (.o (.call call196 rfl (py (s:=s) hs h1 h2 hb) ?_)))))))));rintro _ w ⟨rfl,hs⟩;exact .z cH (.z zm (.z cH (.zn zg (.ret (Fin.bj results244 rfl ⟨rfl,hs⟩)))))
theorem eM(h:ft s):s.st.length≤1000∧s.wa.length≤1000∧0<s.wa.length∧s.many≤63:=by
 have h1:=h.st.many;have h2:=h.wa.many;have h3:=h.wa.two;have:s.many≤9*7:=Nat.mul_le_mul h1 h2;omega
theorem tR{w:World}{s:Srv}{ts:List TD}(hs:St H w (.blk bm [I s.sp.id,I s.sp.src,cE,cB,I s.sp.al,I s.sp.up,vr,vc,vt,vl]::en::σ))(hk:MkK H s ts cE cB vr vc vt)(hO:cU 4 vl (jf ls) en)(hl:ls.length≤10000)(aZ:ft s.sp):
  aaR 190 [Pt bm] w fun _ w'=>∃H1 wC kO,HLe H H1∧cU 4 wC (jf (ls++fB (wu s.sp) s.sp.wa.length s.sp.st.length)) kO∧St H1 w' (.blk bm [I s.sp.id,I s.sp.src,cE,cB,I s.sp.al,I s.sp.up,vr,vc,vt,wC]::kO::σ):=by
 have pG:=eM aZ;refine Cl.o func190 ntmps190 ag1 ?_;refine .af (.bx hs fun b1 w hs=>?_);refine .nil (.af (.y hs (zld PE) (.z znc (.z (zfa ef) (.z (zfa aW) (.y hs (zls [_,_,_,_,_,_] bE aP) (.o (.call Zc rfl (fY (s:=s.sp) hs hk.st hk.wa ⟨ai,ai⟩) ?_))))))));rintro _ w ⟨H1,ba,az,rfl,qO,hs⟩;refine .nil (.block ?_);refine .rangeFunc (gf:=188) (cap:=[Pt ba]) (xs:=A4 s.sp) (σb:=[.blk bm [I s.sp.id,I s.sp.src,cE,cB,I s.sp.al,I s.sp.up,vr,vc,vt,vl],en,.blk b1 [Pt bm]]) (σf:=σ) (hs.sb) trivial rfl qO Zb (fun x hx=>by
   simp only [A4,List.mem_map] at hx;obtain ⟨j,_,rfl⟩:=hx;rfl) rfl
  (I:=fun p H' σb=>∃vl en,σb=[.blk bm [I s.sp.id,I s.sp.src,cE,cB,I s.sp.al,I s.sp.up,vr,vc,vt,vl],en,.blk b1 [Pt bm]]∧cU 4 vl (jf (ls++uZ (wu s.sp) s.sp.wa.length p)) en) (Ix:=fun _ _ _=>False)
  (fun j _ _ σ g1 g2=>g2) (fun _ _ _ _ _ h=>h) ⟨vl,en,rfl,by rw [sA,List.append_nil];exact hO⟩ ?_ ?_ (fun D c H' σb w _ h _=>h.elim)
 ·rintro ly p hp H2 xu xt w bg ⟨vl,en,rfl,hO⟩ hs ⟨rr,Du⟩;have FR:p<s.sp.many:=by rw [eI] at hp;exact hp
  have oA:=sB (wu s.sp) (p:=p) pG.2.2.1;have Jn:=ma (sH s.sp) pG.2.2.1 p;have fL:p/s.sp.wa.length<s.sp.st.length:=Nat.div_lt_of_lt_mul (by rw [Nat.mul_comm];exact FR);have Jq:=Nat.mod_lt p pG.2.2.1;have Qr:=Nat.div_add_mod p s.sp.wa.length;rw [Nat.mul_comm] at Qr;have hu:(s.sp.u (p/s.sp.wa.length) (p%s.sp.wa.length):Int)=(p:Int)+1:=by unfold Spc.u;omega
  rw [oH hp];obtain ⟨al,ll,cl,rfl,wq⟩:=hO.shape;generalize p/s.sp.wa.length=i at*;generalize p%s.sp.wa.length=k at*;have Nv:=hk.mono (az.trans bg);refine .region (.o (.alloc hs qi rfl fun b2 w hs=>?_));refine .o (.aE (vs:=[_,_,_]) hs rfl rfl BF fun w hs=>?_);refine .nil (nT ⟨H2,[.blk b2 [I (i:Int),I (k:Int),I ((p+1:Nat):Int)],.blk bm [I s.sp.id,I s.sp.src,cE,cB,I s.sp.al,I s.sp.up,vr,vc,vt,.slice al ll cl],en,.blk b1 [Pt bm]],HLe.refl _,hs,?_⟩);rintro w oI - hs;refine .block (.draw mix rfl hs fun w hs=>?_);refine .y 0 rfl hs PE ?_;refine .z 1 rfl (zfa eT) ?_;refine .y 2 rfl hs aj ?_;refine .y 3 rfl hs PE ?_;refine .z 4 rfl znc ?_;refine .z 5 rfl (zfa ef) ?_;refine .z 6 rfl (zfa aW) ?_;refine .z 7 rfl (zfa ez) ?_;refine .y 8 rfl hs aj ?_;refine .E 9 hs ?_;refine .call call242 rfl (jh (ls:=ls++uZ (wu s.sp) s.sp.wa.length p) (hs.sb:St H2 w (.blk bm _::en:: .blk b1 _::oI)) hO (by rw [List.length_append];omega)) ?_;rintro _ w ⟨vl3,en3,ic,hs⟩;rw [show two 0 ((p+1:Nat):Int) 20000 0 s.sp.src=wu s.sp i k by unfold wu;rw [hu];rfl,List.append_assoc,←oA] at ic;exact .go (.D hs (nB ⟨H2,_,HLe.refl _,hs,_,_,rfl,ic⟩))
 ·rintro D H2 xu w bg ⟨vl,en,rfl,hO⟩ hs;rw [eI,show s.sp.many=s.sp.st.length*s.sp.wa.length from rfl,uY _ pG.2.2.1] at hO;exact nB (Fin.Vn [D] [] hs fun w hs=>⟨_,results0 results190,H2,vl,en,az.trans bg,hO,(hs.sb:St H2 w (.blk bm _::en::σ))⟩)
theorem yt{w:World}{s:Srv}{ts:List TD}(hs:St H w (.blk bm [I s.sp.id,I s.sp.src,cE,cB,I s.sp.al,I s.sp.up,vr,vc,vt,vl]::en::σ))(hk:MkK H s ts cE cB vr vc vt)(hO:cU 4 vl (jf ls) en)(hl:ls.length≤10000)(aZ:ft s.sp):
  aaR 191 [Pt bm] w fun _ w'=>∃H1 wC kO,HLe H H1∧cU 4 wC (jf (ls++fB (alL s.sp) s.sp.wa.length s.sp.st.length)) kO∧St H1 w' (.blk bm [I s.sp.id,I s.sp.src,cE,cB,I s.sp.al,I s.sp.up,vr,vc,vt,wC]::kO::σ):=by
 have pG:=eM aZ;obtain ⟨gv,gu,rfl⟩:=RI.shape hk.st;obtain ⟨fq,fp,rfl⟩:=RI.shape hk.wa;refine Cl.o func191 ntmps191 ag1 ?_;refine .af (.bx hs fun b1 w hs=>?_);refine .nil (.af (.y hs (zld PE) (.z znc (.z (zfa ef) (.z (zfa aW) (.y hs (zls [_,_,_,_,_,_] bE aP) (.o (.alloc hs oT rfl fun b2 w hs=>?_))))))));refine .o (.aE (vs:=[_,_,_,_,_,_]) hs rfl rfl aP fun w hs=>?_);refine .nil (.af (.y hs (zls [_,_,_,_,_,_] bE aP) (.o (.call Zc rfl (fY (s:=s.sp) hs hk.st hk.wa ⟨ai,ai⟩) ?_))));rintro _ w ⟨H1,ba,az,rfl,qO,hs⟩;refine .nil (.block ?_);refine .rangeFunc (gf:=188) (cap:=[Pt ba]) (xs:=A4 s.sp) (σb:=[.blk bm [I s.sp.id,I s.sp.src,.slice gv s.sp.st.length gu,.slice fq s.sp.wa.length fp,I s.sp.al,I s.sp.up,vr,vc,vt,vl],en,.blk b1 [Pt bm],.blk b2 [I s.sp.id,I s.sp.src,.slice gv s.sp.st.length gu,.slice fq s.sp.wa.length fp,I s.sp.al,I s.sp.up]]) (σf:=σ) (hs.sb) trivial rfl qO Zb (fun x hx=>by
   simp only [A4,List.mem_map] at hx;obtain ⟨j,_,rfl⟩:=hx;rfl) rfl
  (I:=fun p H' σb=>∃vl en,σb=[.blk bm [I s.sp.id,I s.sp.src,.slice gv s.sp.st.length gu,.slice fq s.sp.wa.length fp,I s.sp.al,I s.sp.up,vr,vc,vt,vl],en,.blk b1 [Pt bm],.blk b2 [I s.sp.id,I s.sp.src,.slice gv s.sp.st.length gu,.slice fq s.sp.wa.length fp,I s.sp.al,I s.sp.up]]∧cU 4 vl (jf (ls++uZ (alL s.sp) s.sp.wa.length p)) en) (Ix:=fun _ _ _=>False)
  (fun j _ _ σ g1 g2=>g2) (fun _ _ _ _ _ h=>h) ⟨vl,en,rfl,by rw [sA,List.append_nil];exact hO⟩ ?_ ?_ (fun D c H' σb w _ h _=>h.elim)
 ·rintro ly p hp H2 xu xt w bg ⟨vl,en,rfl,hO⟩ hs ⟨rr,Du⟩;have FR:p<s.sp.many:=by rw [eI] at hp;exact hp
  have oA:=sB (alL s.sp) (p:=p) pG.2.2.1;have Jn:=ma (xl s.sp) pG.2.2.1 p;have fL:p/s.sp.wa.length<s.sp.st.length:=Nat.div_lt_of_lt_mul (by rw [Nat.mul_comm];exact FR);have Jq:=Nat.mod_lt p pG.2.2.1;have Qr:=Nat.div_add_mod p s.sp.wa.length;rw [Nat.mul_comm] at Qr;have hu:(s.sp.u (p/s.sp.wa.length) (p%s.sp.wa.length):Int)=(p:Int)+1:=by unfold Spc.u;omega
  rw [oH hp];obtain ⟨al,ll,cl,rfl,wq⟩:=hO.shape;generalize p/s.sp.wa.length=i at*;generalize p%s.sp.wa.length=k at*;have Nv:=hk.mono (az.trans bg);refine .region (.o (.alloc hs qi rfl fun b3 w hs=>?_));refine .o (.aE (vs:=[_,_,_]) hs rfl rfl BF fun w hs=>?_);refine .nil (nT ⟨H2,[.blk b3 [I (i:Int),I (k:Int),I ((p+1:Nat):Int)],.blk bm [I s.sp.id,I s.sp.src,.slice gv s.sp.st.length gu,.slice fq s.sp.wa.length fp,I s.sp.al,I s.sp.up,vr,vc,vt,.slice al ll cl],en,.blk b1 [Pt bm],.blk b2 [I s.sp.id,I s.sp.src,.slice gv s.sp.st.length gu,.slice fq s.sp.wa.length fp,I s.sp.al,I s.sp.up]],HLe.refl _,hs,?_⟩);rintro w oI - hs;refine .block (.af (.z (zfa du) (.y hs (zld aj) (.z cH (.z (zfa bO) (.y hs (zld aq) (.z (de ae) (.zn fN (.bh rfl (fun mL=>?_) (fun mL=>?_))))))))))
  ·refine .seq (.draw mix rfl hs fun w hs=>?_);refine .zw 0 rfl (zfa eP) ?_;refine .z 1 rfl (zfa lr) ?_;refine .y 2 rfl hs aj ?_;refine .z 3 rfl (zfa bO) ?_;refine .y 4 rfl hs aq ?_;refine .z 5 rfl (zfa du) ?_;refine .y 6 rfl hs aj ?_;refine .z 7 rfl cH ?_;have Qg:=aZ.st.rise i ai;have IE:=aZ.st.bd (i:=i) ai;have Nn:=aZ.st.bd (i:=i+1) ai;have B4:=aZ.al;refine .ixX (enc:=fun x=>[I x]) (i:=8) hs rfl aA .none Nv.st rfl rfl ae an (bu (l:=s.sp.st) (i:=(i+1)) ai) cK ?_;intro R1 o28 kR;replace kR:=bD.one kR;refine .r (i:=9) hs rfl aA .none (aC rfl aj kR) ?_;refine .zw 10 rfl (zfa bO) ?_;refine .y 11 rfl hs aq ?_;refine .z 12 rfl (zfa du) ?_;refine .y 13 rfl hs aj ?_;refine .ixX (enc:=fun x=>[I x]) (i:=14) hs rfl aA .none Nv.st rfl rfl ae an (bu (l:=s.sp.st) (i:=i) ai) cK ?_;intro Pz o34 jx;replace jx:=bD.one jx;refine .r (i:=15) hs rfl aA .none (aC rfl aj jx) ?_;refine .zw 16 rfl gx (.E 17 hs ?_);refine .call call243 rfl (pz hs ai ai) ?_;rintro _ w ⟨rfl,hs⟩;refine .go (.zw 18 rfl zg ?_);refine .D hs ?_;refine .region (.y hs (zld PE) (.z (zfa eT) (.y hs (zld aj) (.z (zfa eT) (.y hs (zld aj) (.z (zfa aQ) (.y hs (zld aq) (.z (de ae) (.z cH (.z zm (.z zm (.z (zfa ez) (.y hs (zld aj) (.o (.call call242 rfl (jh (ls:=ls++uZ (alL s.sp) s.sp.wa.length p) (hs.sb:St H2 w (.blk bm _::en:: .blk b1 _:: .blk b2 _::oI)) hO (by rw [List.length_append];omega)) ?_)))))))))))))));rintro _ w ⟨vl3,en3,ic,hs⟩;have Nj:(s.sp.u (i+1) k:Int)=((p+1:Nat):Int)+(s.sp.wa.length:Int):=by unfold Spc.u at hu ⊢;rw [Nat.add_mul];omega
   rw [show two ((p+1:Nat):Int) (((p+1:Nat):Int)+(s.sp.wa.length:Int)) (mN s.sp.al (gi s.sp.st (i+1) - gi s.sp.st i)) (mN s.sp.al (gi s.sp.st (i+1) - gi s.sp.st i)) s.sp.src=alL s.sp i k by unfold alL;rw [if_pos ai,hu,Nj];rfl,List.append_assoc,←oA] at ic;exact .nil (nB ⟨H2,_,HLe.refl _,hs,_,_,rfl,ic⟩)
  ·refine .skip (nB ?_);rw [show alL s.sp i k=[] by unfold alL;rw [if_neg ai],List.append_nil] at oA;exact ⟨H2,_,HLe.refl _,(hs.sb:St H2 w (.blk bm _::en:: .blk b1 _:: .blk b2 _::oI)),_,_,rfl,by rw [oA];exact hO⟩
 ·rintro D H2 xu w bg ⟨vl,en,rfl,hO⟩ hs;rw [eI,show s.sp.many=s.sp.st.length*s.sp.wa.length from rfl,uY _ pG.2.2.1] at hO;exact nB (Fin.Vn [D] [] hs fun w hs=>⟨_,results0 results191,H2,vl,en,az.trans bg,hO,(hs.sb:St H2 w (.blk bm _::en::σ))⟩)
theorem CM{w:World}{s:Srv}{ts:List TD}(hs:St H w (.blk bm [I s.sp.id,I s.sp.src,cE,cB,I s.sp.al,I s.sp.up,vr,vc,vt,vl]::en::σ))(hk:MkK H s ts cE cB vr vc vt)(hO:cU 4 vl (jf ls) en)(hl:ls.length≤10000)(aZ:ft s.sp):
  aaR 192 [Pt bm] w fun _ w'=>∃H1 wC kO,HLe H H1∧cU 4 wC (jf (ls++fB (upL s.sp) s.sp.wa.length s.sp.st.length)) kO∧St H1 w' (.blk bm [I s.sp.id,I s.sp.src,cE,cB,I s.sp.al,I s.sp.up,vr,vc,vt,wC]::kO::σ):=by
 have pG:=eM aZ;obtain ⟨gv,gu,rfl⟩:=RI.shape hk.st;obtain ⟨fq,fp,rfl⟩:=RI.shape hk.wa;refine Cl.o func192 ntmps192 ag1 ?_;refine .af (.bx hs fun b1 w hs=>?_);refine .nil (.af (.y hs (zld PE) (.z znc (.z (zfa ef) (.z (zfa aW) (.y hs (zls [_,_,_,_,_,_] bE aP) (.o (.alloc hs oT rfl fun b2 w hs=>?_))))))));refine .o (.aE (vs:=[_,_,_,_,_,_]) hs rfl rfl aP fun w hs=>?_);refine .nil (.af (.y hs (zls [_,_,_,_,_,_] bE aP) (.o (.call Zc rfl (fY (s:=s.sp) hs hk.st hk.wa ⟨ai,ai⟩) ?_))));rintro _ w ⟨H1,ba,az,rfl,qO,hs⟩;refine .nil (.block ?_);refine .rangeFunc (gf:=188) (cap:=[Pt ba]) (xs:=A4 s.sp) (σb:=[.blk bm [I s.sp.id,I s.sp.src,.slice gv s.sp.st.length gu,.slice fq s.sp.wa.length fp,I s.sp.al,I s.sp.up,vr,vc,vt,vl],en,.blk b1 [Pt bm],.blk b2 [I s.sp.id,I s.sp.src,.slice gv s.sp.st.length gu,.slice fq s.sp.wa.length fp,I s.sp.al,I s.sp.up]]) (σf:=σ) (hs.sb) trivial rfl qO Zb (fun x hx=>by
   simp only [A4,List.mem_map] at hx;obtain ⟨j,_,rfl⟩:=hx;rfl) rfl
  (I:=fun p H' σb=>∃vl en,σb=[.blk bm [I s.sp.id,I s.sp.src,.slice gv s.sp.st.length gu,.slice fq s.sp.wa.length fp,I s.sp.al,I s.sp.up,vr,vc,vt,vl],en,.blk b1 [Pt bm],.blk b2 [I s.sp.id,I s.sp.src,.slice gv s.sp.st.length gu,.slice fq s.sp.wa.length fp,I s.sp.al,I s.sp.up]]∧cU 4 vl (jf (ls++uZ (upL s.sp) s.sp.wa.length p)) en) (Ix:=fun _ _ _=>False)
  (fun j _ _ σ g1 g2=>g2) (fun _ _ _ _ _ h=>h) ⟨vl,en,rfl,by rw [sA,List.append_nil];exact hO⟩ ?_ ?_ (fun D c H' σb w _ h _=>h.elim)
 ·rintro ly p hp H2 xu xt w bg ⟨vl,en,rfl,hO⟩ hs ⟨rr,Du⟩;have FR:p<s.sp.many:=by rw [eI] at hp;exact hp
  have oA:=sB (upL s.sp) (p:=p) pG.2.2.1;have Jn:=ma (wD s.sp) pG.2.2.1 p;have fL:p/s.sp.wa.length<s.sp.st.length:=Nat.div_lt_of_lt_mul (by rw [Nat.mul_comm];exact FR);have Jq:=Nat.mod_lt p pG.2.2.1;have Qr:=Nat.div_add_mod p s.sp.wa.length;rw [Nat.mul_comm] at Qr;have hu:(s.sp.u (p/s.sp.wa.length) (p%s.sp.wa.length):Int)=(p:Int)+1:=by unfold Spc.u;omega
  rw [oH hp];obtain ⟨al,ll,cl,rfl,wq⟩:=hO.shape;generalize p/s.sp.wa.length=i at*;generalize p%s.sp.wa.length=k at*;have Nv:=hk.mono (az.trans bg);refine .region (.o (.alloc hs qi rfl fun b3 w hs=>?_));refine .o (.aE (vs:=[_,_,_]) hs rfl rfl BF fun w hs=>?_);refine .nil (nT ⟨H2,[.blk b3 [I (i:Int),I (k:Int),I ((p+1:Nat):Int)],.blk bm [I s.sp.id,I s.sp.src,.slice gv s.sp.st.length gu,.slice fq s.sp.wa.length fp,I s.sp.al,I s.sp.up,vr,vc,vt,.slice al ll cl],en,.blk b1 [Pt bm],.blk b2 [I s.sp.id,I s.sp.src,.slice gv s.sp.st.length gu,.slice fq s.sp.wa.length fp,I s.sp.al,I s.sp.up]],HLe.refl _,hs,?_⟩);rintro w oI - hs;refine .block (.af (.z (zfa dt) (.y hs (zld aj) (.z cH (.z (zfa aQ) (.y hs (zld aq) (.z (de ae) (.zn fN (.bh rfl (fun mL=>?_) (fun mL=>?_))))))))))
  ·refine .seq (.draw mix rfl hs fun w hs=>?_);refine .zw 0 rfl (zfa eP) ?_;refine .z 1 rfl (zfa lq) ?_;refine .y 2 rfl hs aj ?_;refine .z 3 rfl (zfa aQ) ?_;refine .y 4 rfl hs aq ?_;refine .z 5 rfl (zfa dt) ?_;refine .y 6 rfl hs aj ?_;refine .z 7 rfl cH ?_;have Qg:=aZ.wa.rise k ai;have IE:=aZ.wa.bd (i:=k) ai;have Nn:=aZ.wa.bd (i:=k+1) ai;have B4:=aZ.up;refine .ixX (enc:=fun x=>[I x]) (i:=8) hs rfl aA .none Nv.wa rfl rfl ae an (bu (l:=s.sp.wa) (i:=(k+1)) ai) cK ?_;intro R1 o28 kR;replace kR:=bD.one kR;refine .r (i:=9) hs rfl aA .none (aC rfl aj kR) ?_;refine .zw 10 rfl (zfa aQ) ?_;refine .y 11 rfl hs aq ?_;refine .z 12 rfl (zfa dt) ?_;refine .y 13 rfl hs aj ?_;refine .ixX (enc:=fun x=>[I x]) (i:=14) hs rfl aA .none Nv.wa rfl rfl ae an (bu (l:=s.sp.wa) (i:=k) ai) cK ?_;intro Pz o34 jx;replace jx:=bD.one jx;refine .r (i:=15) hs rfl aA .none (aC rfl aj jx) ?_;refine .zw 16 rfl gx (.E 17 hs ?_);refine .call call243 rfl (pz hs ai ai) ?_;rintro _ w ⟨rfl,hs⟩;refine .go (.zw 18 rfl zg ?_);refine .D hs ?_;refine .region (.y hs (zld PE) (.z (zfa eT) (.y hs (zld aj) (.z (zfa eT) (.y hs (zld aj) (.z cH (.z zm (.z zm (.z (zfa ez) (.y hs (zld aj) (.o (.call call242 rfl (jh (ls:=ls++uZ (upL s.sp) s.sp.wa.length p) (hs.sb:St H2 w (.blk bm _::en:: .blk b1 _:: .blk b2 _::oI)) hO (by rw [List.length_append];omega)) ?_))))))))))));rintro _ w ⟨vl3,en3,ic,hs⟩;have Nj:(s.sp.u i (k+1):Int)=((p+1:Nat):Int)+1:=by unfold Spc.u at hu ⊢;omega
   rw [show two ((p+1:Nat):Int) (((p+1:Nat):Int)+1) (mN s.sp.up (gi s.sp.wa (k+1) - gi s.sp.wa k)) (mN s.sp.up (gi s.sp.wa (k+1) - gi s.sp.wa k)) s.sp.src=upL s.sp i k by unfold upL;rw [if_pos ai,hu,Nj];rfl,List.append_assoc,←oA] at ic;exact .nil (nB ⟨H2,_,HLe.refl _,hs,_,_,rfl,ic⟩)
  ·refine .skip (nB ?_);rw [show upL s.sp i k=[] by unfold upL;rw [if_neg ai],List.append_nil] at oA;exact ⟨H2,_,HLe.refl _,(hs.sb:St H2 w (.blk bm _::en:: .blk b1 _:: .blk b2 _::oI)),_,_,rfl,by rw [oA];exact hO⟩
 ·rintro D H2 xu w bg ⟨vl,en,rfl,hO⟩ hs;rw [eI,show s.sp.many=s.sp.st.length*s.sp.wa.length from rfl,uY _ pG.2.2.1] at hO;exact nB (Fin.Vn [D] [] hs fun w hs=>⟨_,results0 results192,H2,vl,en,az.trans bg,hO,(hs.sb:St H2 w (.blk bm _::en::σ))⟩)
theorem wX{w:World}{s:Srv}{ts:List TD}(hs:St H w (.blk bm [I s.sp.id,I s.sp.src,cE,cB,I s.sp.al,I s.sp.up,vr,vc,vt,vl]::en::σ))(hk:MkK H s ts cE cB vr vc vt)(hO:cU 4 vl (jf ls) en)(hl:ls.length≤10000)(aZ:ft s.sp)(xC:ts.length≤100):
  aaR 193 [Pt bm] w fun _ w'=>∃H1 wC kO,HLe H H1∧cU 4 wC (jf (ls++C7 s.sp ts.length)) kO∧St H1 w' (.blk bm [I s.sp.id,I s.sp.src,cE,cB,I s.sp.al,I s.sp.up,vr,vc,vt,wC]::kO::σ):=by
 have pG:=eM aZ;obtain ⟨at_,ct,rfl⟩:=RTd.shape hk.ts;refine Cl.o func193 ntmps193 ag1 ?_;refine .af (.z zm (.z znc (.z (zfa ig) (.y hs (zld isAgg159) (.z (de cf) (.zn zm (.for (N:=ts.length) (J:=fun j fr w=>fr=[(0,Pt bm)]∧∃vl en,cU 4 vl (jf (ls++C7 s.sp j)) en∧St H w (.blk bm [I s.sp.id,I s.sp.src,cE,cB,I s.sp.al,I s.sp.up,vr,vc,.slice at_ ts.length ct,vl]::en::σ)) ai ?_ ?_ ?_)))))))
 ·exact .mk ⟨rfl,vl,en,by show cU 4 vl (jf (ls++[])) en;rw [List.append_nil];exact hO,hs⟩
 ·rintro j fr w hj ⟨rfl,vl,en,hO,hs⟩;have ZQ:=lU s.sp j;obtain ⟨al,ll,cl,rfl,wq⟩:=hO.shape;refine .block (.af (.z zm (.zn zg (.draw mix rfl hs fun w hs=>?_))));refine .zw 0 rfl zm ?_;refine .z 1 rfl zm ?_;refine .z 2 rfl zm ?_;refine .z 4 rfl zm ?_;refine .z 5 rfl znc ?_;refine .z 6 rfl (zfa ef) ?_;refine .z 7 rfl (zfa aW) ?_;refine .z 8 rfl (zfa ez) ?_;refine .y 9 rfl hs aj ?_;refine .E 3 hs ?_;refine .call call244 rfl (nL (s:=s.sp) hs .here hk.st hk.wa ⟨ai,ai⟩ ⟨ai,ai⟩) ?_;rintro _ w ⟨rfl,hs⟩;refine .go (.E 10 hs ?_);refine .call call242 rfl (jh (ls:=ls++C7 s.sp j) hs hO (by rw [List.length_append];omega)) ?_;rintro _ w ⟨vl3,en3,ic,hs⟩;rw [show (s.sp.many:Int)+1+(j:Int)=((s.sp.many+1+j:Nat):Int) by omega,List.append_assoc] at ic;exact .go (.D hs (nB (nT (.mk ⟨rfl,vl3,en3,ic,hs⟩))))
 ·rintro fr w ⟨rfl,vl,en,hO,hs⟩;exact Fin.EO results193 ⟨H,vl,en,HLe.refl _,hO,hs⟩
set_option maxHeartbeats 1000000 in
theorem tQ{w:World}{s:Srv}{ts:List TD}(hs:St H w (.blk bm [I s.sp.id,I s.sp.src,cE,cB,I s.sp.al,I s.sp.up,vr,vc,vt,vl]::en::σ))(hk:MkK H s ts cE cB vr vc vt)(hO:cU 4 vl (jf ls) en)(hl:ls.length≤10000)(aZ:ft s.sp)(xC:ts.length≤100)(Et:s.cs.length≤20)(hc:∀c∈s.cs,uk c){j0:Nat}(hj0:j0≤ts.length):
  aaR 245 [Pt bm,I (j0:Int)] w fun _ w'=>∃H1 wC kO,HLe H H1∧cU 4 wC (jf (ls++zf s.sp ts s.cs j0 s.cs.length)) kO∧St H1 w' (.blk bm [I s.sp.id,I s.sp.src,cE,cB,I s.sp.al,I s.sp.up,vr,vc,vt,wC]::kO::σ):=by
 have pG:=eM aZ;obtain ⟨at_,ct,rfl⟩:=RTd.shape hk.ts;obtain ⟨ac,cc,rfl⟩:=RCm.shape hk.cs;refine Cl.o func245 ntmps245 ag2 ?_;refine .af (.z zm (.z znc (.z (zfa ef) (.z (zfa cJ) (.y hs (zld jZ) (.z (de bL) (.zn zm (.for (N:=s.cs.length) (J:=fun i fr w=>fr=[(12,.slice ac s.cs.length cc),(0,Pt bm),(1,I (j0:Int))]∧∃vl en,cU 4 vl (jf (ls++zf s.sp ts s.cs j0 i)) en∧St H w (.blk bm [I s.sp.id,I s.sp.src,cE,cB,I s.sp.al,I s.sp.up,vr,.slice ac s.cs.length cc,.slice at_ ts.length ct,vl]::en::σ)) ai ?_ ?_ ?_))))))))
 ·exact .mk ⟨rfl,vl,en,by show cU 4 vl (jf (ls++[])) en;rw [List.append_nil];exact hO,hs⟩
 ·rintro i fr w hi ⟨rfl,vl,en,hO,hs⟩;obtain ⟨c,hx⟩:=nth hi;obtain ⟨g1,g2,g3,g4,g5,g6⟩:=hc c (List.mem_of_getElem? hx);have Xi:=lV s.sp ts s.cs j0 i;have Xh:i*(2*(ts.length - j0))≤20*(2*100):=Nat.mul_le_mul ai ai;refine .block (.af (.ixX (enc:=Cmp.c) hs hk.cs rfl rfl bL eg hx cK ?_));intro nx o16 eC;refine .q hs (bQ (vs:=(Cmp.c c)) rfl isAgg153 eg eC) (.o (.alloc hs R8 rfl fun b5 w hs=>?_));refine .o (.aE (vs:=c.c) hs rfl rfl eg fun w hs=>?_);replace hs:St H w (.blk bm [I s.sp.id,I s.sp.src,cE,cB,I s.sp.al,I s.sp.up,vr,.slice ac s.cs.length cc,.slice at_ ts.length ct,vl]::en:: .blk b5 [I c.src,I c.tape,I c.fr,I c.to,I c.lo,I c.hi]::σ):=hs.sb;refine .nil (.af (.z zm (.zn zg (.block ?_))));refine .loop (fun j:Nat=>⟨62,[],[(6,I ((j0+j:Nat):Int)),(5,Pt b5),(14,I (i:Int)),(13,I (s.cs.length:Int)),(12,.slice ac s.cs.length cc),(0,Pt bm),(1,I (j0:Int))]⟩)
   (fun j w=>j0+j≤ts.length∧∃vl en,cU 4 vl (jf (ls++zf s.sp ts s.cs j0 i++nR s.sp ts c j0 j)) en∧St H w (.blk bm [I s.sp.id,I s.sp.src,cE,cB,I s.sp.al,I s.sp.up,vr,.slice ac s.cs.length cc,.slice at_ ts.length ct,vl]::en:: .blk b5 [I c.src,I c.tape,I c.fr,I c.to,I c.lo,I c.hi]::σ)) (fun j=>ts.length - (j0+j)) 0 aH
   ⟨ai,vl,en,by show cU 4 vl (jf (_++[])) en;rw [List.append_nil];exact hO,hs⟩ ?_
  clear hO hs;rintro j w ⟨hj,vl,en,hO,hs⟩;have Nt:=oE s.sp ts c j0 j;obtain ⟨al,ll,cl,rfl,wq⟩:=hO.shape;refine .seq (.af (.z zm (.z zm (.z znc (.z (zfa ig) (.y hs (zld isAgg159) (.z (de cf) (.zn fN (.bh rfl (fun fc=>?_) (fun fc=>?_))))))))))
  ·refine .skip (nT (.seq (.block (.af (.z zm (.z znc (.z (zfa ig) (.y hs (zld isAgg159) (.z zm ?_)))))))));obtain ⟨t,ht⟩:=nth (l:=ts) (k:=j0+j) ai;have V9:=OA ht;refine .ixX (enc:=TD.c) hs hk.ts rfl rfl cf dw ht cK ?_;intro Uq o33 mJ;refine .q hs (bQ (vs:=(TD.c t)) rfl jT dw mJ) (.o (.alloc hs wv rfl fun b7 w hs=>?_));refine .o (.aE (vs:=t.c) hs rfl rfl dw fun w hs=>?_);change St _ _ (.blk b7 [I t.tape,I t.day]::_) at hs;refine .nil (.af (.z (zfa qx) (.y hs (zld aj) (.z (zfa kr) (.y hs (zld aj) (.z fy (.z zm (.iz (t':=40) rfl (fun QH=>?_) (fun QH=>?_)))))))))
   ·refine .T ?_;refine .z (zfa mO) (.T (.y hs (zld aj) (.T (.z (zfa gZ) (.T (.y hs (zld aj) (.T (.z (zfa gq) (.T (.y hs (zld aj) (.T (.o (.call jq rfl (bM hs) ?_)))))))))))));rintro _ w ⟨rfl,hs⟩;refine .zn zpT (.cond rfl (fun mI=>?_) (fun mI=>?_))
    ·refine .draw mix rfl hs fun w hs=>?_
     refine .zw 0 rfl zm ?_;refine .z 1 rfl zm ?_;refine .z 2 rfl zm ?_;refine .z 4 rfl (zfa gj) ?_;refine .y 5 rfl hs aj ?_;refine .z 6 rfl Fm ?_;refine .z 7 rfl (zfa gg) ?_;refine .y 8 rfl hs aj ?_;refine .z 9 rfl (zfa je) ?_;refine .y 10 rfl hs aj ?_;refine .E 3 hs ?_;refine .call call244 rfl (nL (s:=s.sp) hs (.there .here) hk.st hk.wa ⟨ai,ai⟩ ⟨ai,ai⟩) ?_;rintro _ w ⟨rfl,hs⟩;refine .go (.E 11 hs ?_);refine .call call242 rfl (jh (ls:=ls++zf s.sp ts s.cs j0 i++nR s.sp ts c j0 j) (hs.tail:St H w (.blk bm _::en:: .blk b5 _::σ)) hO (by rw [List.length_append,List.length_append];omega)) ?_;rintro _ w ⟨vl3,en3,ic,hs⟩;refine .go (.D hs (nB (nT (.region (.z zm (.z cH (.zn zg (nT ?_))))))));have e:nR s.sp ts c j0 (j+1)=nR s.sp ts c j0 j++two 0 ((s.sp.many:Int)+1+((j0+j:Nat):Int)) (-c.lo) c.hi c.src:=by
      show _++oJ c (td0 ts (j0+j)) _=_;rw [V9];unfold oJ;rw [if_pos (by simp at mI;omega)];rw [show ((s.sp.many+1+(j0+j):Nat):Int)=(s.sp.many:Int)+1+((j0+j:Nat):Int) by omega]
     rw [List.append_assoc _ (nR _ _ _ _ _),←e] at ic;exact ⟨j+1,.cD rfl (by simp;omega) aH,⟨ai,vl3,en3,ic,hs⟩,ai⟩
    ·refine .skip (nB (nT (.region (.z zm (.z cH (.zn zg (nT ?_)))))));have e:nR s.sp ts c j0 (j+1)=nR s.sp ts c j0 j:=by
      show _++oJ c (td0 ts (j0+j)) _=_;rw [V9];unfold oJ;rw [if_neg (by simp at mI;omega),List.append_nil]
     exact ⟨j+1,.cD rfl (by simp;omega) aH,⟨ai,_,en,by rw [e];exact hO,hs.tail⟩,ai⟩
   ·refine .Fs 7 5 true (.zn zpF (.cF (.skip (nB (nT (.region (.z zm (.z cH (.zn zg (nT ?_))))))))));have e:nR s.sp ts c j0 (j+1)=nR s.sp ts c j0 j:=by
     show _++oJ c (td0 ts (j0+j)) _=_;rw [V9];unfold oJ;rw [if_neg ai,List.append_nil]
    exact ⟨j+1,.cD rfl (by simp;omega) aH,⟨ai,_,en,by rw [e];exact hO,hs.tail⟩,ai⟩
  ·refine .exit (xT (xT (xB (nB (nT ?_)))));obtain rfl:j=ts.length - j0:=by omega
   rw [List.append_assoc,show zf s.sp ts s.cs j0 i++nR s.sp ts c j0 (ts.length - j0)=zf s.sp ts s.cs j0 (i+1) by rw [←LL hx];rfl] at hO;exact .mk ⟨rfl,_,en,hO,hs.sb⟩
 ·rintro fr w ⟨rfl,vl,en,hO,hs⟩;exact Fin.EO results245 ⟨H,vl,en,HLe.refl _,hO,hs⟩
theorem qN{w:World}{s:Srv}{ts:List TD}(hs:St H w (.blk bm [I s.sp.id,I s.sp.src,cE,cB,I s.sp.al,I s.sp.up,vr,vc,vt,vl]::en::σ))(hk:MkK H s ts cE cB vr vc vt)(hO:cU 4 vl (jf ls) en)(hl:ls.length≤10000)(aZ:ft s.sp)(xC:ts.length≤100)(Et:s.cs.length≤20)(hc:∀c∈s.cs,uk c):
  aaR 194 [Pt bm] w fun _ w'=>∃H1 wC kO,HLe H H1∧cU 4 wC (jf (ls++zf s.sp ts s.cs 0 s.cs.length)) kO∧St H1 w' (.blk bm [I s.sp.id,I s.sp.src,cE,cB,I s.sp.al,I s.sp.up,vr,vc,vt,wC]::kO::σ):=by
 refine Cl.o func194 ntmps194 ag1 ?_;refine .region (.z zm (.o (.call call245 rfl (tQ (s:=s) (ts:=ts) (j0:=0) hs hk hO hl aZ xC Et hc ai) ?_)));rintro _ w hs;exact .nil (Fin.EO results194 hs)
set_option maxHeartbeats 1000000 in
theorem tP{w:World}{s:Srv}{ts:List TD}(hs:St H w (.blk bm [I s.sp.id,I s.sp.src,cE,cB,I s.sp.al,I s.sp.up,vr,vc,vt,vl]::en::σ))(hk:MkK H s ts cE cB vr vc vt)(hO:cU 4 vl (jf ls) en)(hl:ls.length≤10000)(aZ:ft s.sp)(xC:ts.length≤100)(BY:s.rs.length≤60)(hr:∀r∈s.rs,pV s.sp r)(Eo:∀r∈s.rs,r.td∈ts):
  aaR 195 [Pt bm] w fun _ w'=>∃H1 wC kO,HLe H H1∧cU 4 wC (jf (ls++AZ s.sp ts s.rs s.rs.length)) kO∧St H1 w' (.blk bm [I s.sp.id,I s.sp.src,cE,cB,I s.sp.al,I s.sp.up,vr,vc,vt,wC]::kO::σ):=by
 have pG:=eM aZ;obtain ⟨at_,ct,rfl⟩:=RTd.shape hk.ts;obtain ⟨ar,cr,rfl⟩:=RRd.shape hk.rs;refine Cl.o func195 ntmps195 ag1 ?_;refine .af (.z zm (.z znc (.z (zfa ef) (.z (zfa aN) (.y hs (zld dm) (.z (de aD) (.zn zm (.for (N:=s.rs.length) (J:=fun i fr w=>fr=[(9,.slice ar s.rs.length cr),(0,Pt bm)]∧∃vl en,cU 4 vl (jf (ls++AZ s.sp ts s.rs i)) en∧St H w (.blk bm [I s.sp.id,I s.sp.src,cE,cB,I s.sp.al,I s.sp.up,.slice ar s.rs.length cr,vc,.slice at_ ts.length ct,vl]::en::σ)) ai ?_ ?_ ?_))))))))
 ·exact .mk ⟨rfl,vl,en,by show cU 4 vl (jf (ls++[])) en;rw [List.append_nil];exact hO,hs⟩
 ·rintro i fr w hi ⟨rfl,vl,en,hO,hs⟩;obtain ⟨r,hx⟩:=nth hi;obtain ⟨g1,g2,g3,g4,g5,g6,g7⟩:=hr r (List.mem_of_getElem? hx);obtain ⟨k,k1,k2,k3⟩:=jA (Eo r (List.mem_of_getElem? hx));have Wq:=lR s.sp ts s.rs i;obtain ⟨al,ll,cl,rfl,wq⟩:=hO.shape;refine .block (.af (.ixX (enc:=Rdg.c) hs hk.rs rfl rfl aD a6 hx cK ?_));intro kP o13 gL;refine .q hs (bQ (vs:=(Rdg.c r)) rfl jU a6 gL) (.o (.alloc hs jy rfl fun b3 w hs=>?_));refine .o (.aE (vs:=r.c) hs rfl rfl a6 fun w hs=>?_);change St _ _ (.blk b3 [I r.src,I r.st,I r.wa,I r.val,I r.tol,I r.tape,I r.day]::_) at hs;refine .nil (.seq (.draw mix rfl hs fun w hs=>?_));refine .zw 0 rfl zm ?_;refine .z 1 rfl znc ?_;refine .z 2 rfl (zfa ig) ?_;refine .y 3 rfl hs isAgg159 ?_;refine .ys 4 rfl hs [_,_,_,_,_,_,_] jU a6 ?_;refine .E 5 hs ?_;refine .call call241 rfl (ky hs) ?_;rintro _ w ⟨rfl,hs⟩;refine .go (.E 6 hs ?_);refine .call call246 rfl (zJ (t:=r.td) hs hk.ts ai) ?_;rintro _ w ⟨rfl,hs⟩;refine .go (.zw 7 rfl zg ?_);refine .D hs ?_;refine .draw mix rfl hs fun w hs=>?_
  refine .zw 0 rfl zm ?_;refine .z 1 rfl zm ?_;refine .z 2 rfl zm ?_;refine .z 4 rfl zm ?_;refine .z 5 rfl znc ?_;refine .z 6 rfl (zfa ef) ?_;refine .z 7 rfl (zfa aW) ?_;refine .ys 8 rfl hs [_,_,_,_,_,_] bE aP ?_;refine .z 9 rfl (zfa gY) ?_;refine .y 10 rfl hs aj ?_;refine .zw 11 rfl (zfa gX) ?_;refine .y 12 rfl hs aj ?_;refine .z 14 rfl (zfa dL) ?_;refine .y 15 rfl hs aj ?_;refine .z 16 rfl (zfa dB) ?_;refine .y 17 rfl hs aj ?_;refine .z 18 rfl cH ?_;refine .z 19 rfl (zfa dB) ?_;refine .y 20 rfl hs aj ?_;refine .z 21 rfl (zfa dL) ?_;refine .y 22 rfl hs aj ?_;refine .z 23 rfl gx ?_;refine .z 24 rfl (zfa fi) ?_;refine .y 25 rfl hs aj ?_;refine .E 3 hs ?_;refine .call call244 rfl (nL (s:=s.sp) hs (.there .here) hk.st hk.wa ⟨ai,ai⟩ ⟨ai,ai⟩) ?_;rintro _ w ⟨rfl,hs⟩;refine .go (.E 13 hs ?_);refine .call call247 rfl (sQ (s:=s.sp) hs hk.wa ai ⟨ai,ai⟩ ⟨ai,ai⟩) ?_;rintro _ w ⟨rfl,hs⟩;refine .go (.E 26 hs ?_);refine .call call242 rfl (jh (ls:=ls++AZ s.sp ts s.rs i) (hs.sb:St H w (.blk bm _::en:: .blk b3 _::σ)) hO (by rw [List.length_append];omega)) ?_;rintro _ w ⟨vl3,en3,ic,hs⟩;refine .go (.D hs (nB (nT ?_)));rw [List.append_assoc,show AZ s.sp ts s.rs i++two ((s.sp.many:Int)+1+mB ts r.td) (1+r.st*s.sp.wa.length+r.wa) (r.val+r.tol) (r.tol - r.val) r.src=AZ s.sp ts s.rs (i+1) by rw [←JY hx];rfl] at ic;exact .mk ⟨rfl,vl3,en3,ic,hs.sb⟩
 ·rintro fr w ⟨rfl,vl,en,hO,hs⟩;exact Fin.EO results195 ⟨H,vl,en,HLe.refl _,hO,hs⟩
def fnK:Nat→Nat
 |0=>190
 |1=>191
 |2=>192
 |3=>193
 |4=>194
 |_=>195
theorem NT(hk:k<6):∀args w,(callFunc (fnK k) args).run Tryz.prog w= .ok (.enter (fnK k) args) w:=by
 have h:k=0∨k=1∨k=2∨k=3∨k=4∨k=5:=by omega
 rcases h with rfl|rfl|rfl|rfl|rfl|rfl
 ·exact call190
 ·exact call191
 ·exact call192
 ·exact call193
 ·exact call194
 ·exact call195
theorem Kd{w:World}{s:Srv}(hs:St H w (.blk bm [I s.sp.id,I s.sp.src,cE,cB,I s.sp.al,I s.sp.up,vr,vc,vt,vl]::en::σ))(hk:MkK H s s.cQ cE cB vr vc vt)(hO:cU 4 vl (jf (s.parts k)) en)(he:s.early)(hk6:k<6):
  aaR (fnK k) [Pt bm] w fun _ w'=>∃H1 wC kO,HLe H H1∧cU 4 wC (jf (s.parts (k+1))) kO∧St H1 w' (.blk bm [I s.sp.id,I s.sp.src,cE,cB,I s.sp.al,I s.sp.up,vr,vc,vt,wC]::kO::σ):=by
 have hl:=l6 he k ai;obtain ⟨aZ,h1,h2,h3,h4⟩:=he;have xC:s.cQ.length≤100:=by have:=ew s.rs;unfold Srv.cQ;omega
 have h:k=0∨k=1∨k=2∨k=3∨k=4∨k=5:=by omega
 rcases h with rfl|rfl|rfl|rfl|rfl|rfl
 ·exact tR hs hk hO (Nat.le_trans hl eu) aZ
 ·exact yt hs hk hO (Nat.le_trans hl eu) aZ
 ·exact CM hs hk hO (Nat.le_trans hl eu) aZ
 ·exact wX hs hk hO (Nat.le_trans hl eu) aZ xC
 ·exact qN hs hk hO (Nat.le_trans hl eu) aZ xC h2 h4
 ·exact tP hs hk hO (Nat.le_trans hl eu) aZ xC h1 h3 fun r hr=>i6.2 ⟨r,hr,rfl⟩
def fnV(b:Nat)(k:Nat):Value:= .func (.func (fnK k)) #[Pt b] #[]
theorem QU(b:Nat){k:Nat}(hk:k<6):[fnV b 0,fnV b 1,fnV b 2,fnV b 3,fnV b 4,fnV b 5][k]? =some (fnV b k):=by
 have h:k=0∨k=1∨k=2∨k=3∨k=4∨k=5:=by omega
 rcases h with rfl|rfl|rfl|rfl|rfl|rfl<;>rfl
set_option maxHeartbeats 1000000 in
theorem uT{w:World}{s:Srv}(hs:St H w σ)(h1:RI H cE s.sp.st)(h2:RI H cB s.sp.wa)(h3:RRd H vr s.rs)(h4:RCm H vc s.cs)(he:s.early):
  aaR 133 [.agg #[I s.sp.id,I s.sp.src,cE,cB,I s.sp.al,I s.sp.up,vr,vc]] w fun u w'=>∃H1 vl en,HLe H H1∧u= .agg #[I s.sys.many,vl]∧cU 4 vl (jf s.df) en∧St H1 w' (en::σ):=by
 have pG:=eM he.1;have xC:s.cQ.length≤60:=by have:=ew s.rs;have:=he.2.1;unfold Srv.cQ;omega
 refine Cl.o func133 ntmps133 ag1 ?_;refine .af (.bx hs fun b1 w hs=>?_);refine .o (.alloc hs fk rfl fun b2 w hs=>?_);refine .nil (.seq (.draw mix rfl hs fun w hs=>?_));refine .ys 0 rfl hs [_,_,_,_,_,_,_,_] bA aM ?_;refine .ys 1 rfl hs [_,_,_,_,_,_,_,_] bA aM ?_;refine .E 2 hs ?_;refine .call call189 rfl (uS hs h3 (by have:=he.2.1;omega)) ?_;rintro v8 w ⟨H1,az,hT,hs⟩;obtain ⟨at_,ct,rfl⟩:=RTd.shape hT;have Fi:MkK H1 s s.cQ cE cB vr vc (.slice at_ s.cQ.length ct):=⟨h1.mono az,h2.mono az,h3.mono az,h4.mono az,hT⟩;refine .go (.zw 3 rfl (zbd (vs:=[(0,.agg #[I s.sp.id,I s.sp.src,cE,cB,I s.sp.al,I s.sp.up,vr,vc]),(1,.slice at_ s.cQ.length ct)]) [I s.sp.id,I s.sp.src,cE,cB,I s.sp.al,I s.sp.up,vr,vc,.slice at_ s.cQ.length ct,.slice none 0 0] xj rfl aA) (.E 4 hs ?_));refine .box hs rfl rfl ?_;intro ny w hs;refine .go (.zw 5 rfl zg ?_);refine .D hs ?_;refine .seq (.af (.z zm (.q hs (dU (f:=[_]) (c:=[]) rfl rfl) (.z zm (.q hs (dU (f:=[_]) (c:=[]) rfl rfl) (.z zm (.q hs (dU (f:=[_]) (c:=[]) rfl rfl) (.z zm (.q hs (dU (f:=[_]) (c:=[]) rfl rfl) (.z zm (.q hs (dU (f:=[_]) (c:=[]) rfl rfl) (.z zm (.q hs (dU (f:=[_]) (c:=[]) rfl rfl) (.o (.buildSlice (cells:=[fnV ny 0,fnV ny 1,fnV ny 2,fnV ny 3,fnV ny 4,fnV ny 5]) hs Dc rfl aA fun I2 w hs=>?_)))))))))))))));refine .z (de runUnderlying247) (.zn zm (.for (N:=6) (J:=fun k fr w=>fr=[(23,.slice (some ⟨I2,0,none⟩) 6 6),(3,Pt ny),(2,Pt b2),(1,Pt b1)]∧∃H2 vl en,HLe H1 H2∧cU 4 vl (jf (s.parts k)) en∧St H2 w (.blk ny [I s.sp.id,I s.sp.src,cE,cB,I s.sp.al,I s.sp.up,vr,vc,.slice at_ s.cQ.length ct,vl]::en:: .blk I2 [fnV ny 0,fnV ny 1,fnV ny 2,fnV ny 3,fnV ny 4,fnV ny 5]:: .blk b2 [I 0,.slice none 0 0]:: .blk b1 [I s.sp.id,I s.sp.src,cE,cB,I s.sp.al,I s.sp.up,vr,vc]::σ)) ai ?_ ?_ ?_))
 ·exact .mk ⟨rfl,H1,.slice none 0 0,.nul,HLe.refl _,.nil 4 none,hs.nul.sb⟩
 ·rintro k fr w hk ⟨rfl,H2,vl,en,bg,hO,hs⟩;refine .block (.af (.z (zix runUnderlying247 sizeOf1) (.q hs (eG rfl isAgg1 (hv:=QU ny hk)) (.zn zg (.region (.z zm (.o (.sa (first:=[Pt ny]) (cap:=[]) rfl rfl (NT hk) (Kd hs (Fi.mono bg) hO he hk) ?_))))))));rintro _ w ⟨H3,vl3,en3,bZ,ic,hs⟩;exact .nil (nB (nT (.mk ⟨rfl,H3,vl3,en3,bg.trans bZ,ic,hs⟩)))
 ·rintro fr w ⟨rfl,H2,vl,en,bg,hO,hs⟩;rw [s.z7] at hO;obtain ⟨al,ll,cl,rfl,wq⟩:=hO.shape;refine nT (.seq (.draw mix rfl hs fun w hs=>?_));refine .zw 0 rfl (zfa aW) ?_;refine .ys 1 rfl hs [_,_,_,_,_,_] bE aP ?_;refine .z 3 rfl zm ?_;refine .z 4 rfl znc ?_;refine .z 5 rfl (zfa ig) ?_;refine .y 6 rfl hs isAgg159 ?_;refine .z 7 rfl (de cf) ?_;refine .z 9 rfl zm ?_;refine .z 10 rfl znc ?_;refine .z 11 rfl (zfa lj) ?_;refine .zv 12 rfl hs (p8 gz) (.E 2 hs ?_);refine .call call196 rfl (py (s:=s.sp) hs (h1.mono (az.trans bg)) (h2.mono (az.trans bg)) ⟨ai,ai⟩) ?_;rintro _ w ⟨rfl,hs⟩;refine .go (.zw 8 rfl cH ?_);refine .z 13 rfl (zbd [_,_] kl) ?_;refine .E 14 hs ?_;refine .aE (vs:=[_,_]) hs rfl rfl aV ?_;intro w hs;refine .go (.D hs (.ret ?_));replace hs:St H2 w (.blk b2 [I ((s.sp.many:Int)+(s.cQ.length:Int)),.slice al ll cl]::en::σ):=hs.sb;exact Fin.iT [] [] hs fun w hs=>⟨_,results1 results133 (dp (vs:=[_,_]) hs rfl cn aV),H2,_,en,az.trans bg,by show _=Value.agg #[I ((s.sp.many+s.cQ.length:Nat):Int),_];rw [Int.natCast_add],hO,hs.tail⟩
theorem gJ{w:World}{s:Srv}(hs:St H w σ)(h1:RI H cE s.sp.st)(h2:RI H cB s.sp.wa)(h3:RRd H vr s.rs)(h4:RCm H vc s.cs)(he:s.early):
  aaR 133 [.agg #[I s.sp.id,I s.sp.src,cE,cB,I s.sp.al,I s.sp.up,vr,vc]] w fun u w'=>∃H1,HLe H H1∧RSy H1 u s.sys∧St H1 w' σ:=by
 refine (uT hs h1 h2 h3 h4 he).mono ?_;rintro u w' ⟨H1,vl,en,hle,rfl,hO,hs⟩;have hl:=l6 he 6 ai;rw [s.z7] at hl;obtain ⟨H2,bg,hR,hs⟩:=cU.dh (m:=4) (cs:=s.df.map Lim.c) hO (fun c hc=>by simp only [List.mem_map] at hc;obtain ⟨x,_,rfl⟩:=hc;rfl) ai (by rw [List.length_map];omega) hs .here;exact ⟨H2,hle.trans bg,⟨vl,rfl,hR⟩,hs⟩
set_option maxHeartbeats 1000000 in
theorem ia{w:World}{s:Srv}(hs:St H w σ)(h1:RI H cE s.sp.st)(h2:RI H cB s.sp.wa)(h3:RRd H vr s.rs)(h4:RCm H vc s.cs):
  aaR 117 [.agg #[I s.sp.id,I s.sp.src,cE,cB,I s.sp.al,I s.sp.up,vr,vc]] w fun u w'=>∃H1 e,HLe H H1∧u=I e∧Cg s e∧St H1 w' σ:=by
 obtain ⟨gv,gu,rfl⟩:=RI.shape h1;obtain ⟨fq,fp,rfl⟩:=RI.shape h2;obtain ⟨ar,cr,rfl⟩:=RRd.shape h3;obtain ⟨ac,cc,rfl⟩:=RCm.shape h4;refine Cl.o func117 ntmps117 ag1 ?_;refine .af (.bx hs fun b1 w hs=>?_);refine .zn zg (.seq (.af (.z (zfa aW) (.y hs (zls [_,_,_,_,_,_] bE aP) (.o (.call call111 rfl (lh (s:=s.sp) hs h1 h2) ?_))))));rintro _ w ⟨H1,e,az,rfl,he,hs⟩;refine .zn zg (.af (.z zm (.zn fV (.dK rfl (fun gL=>?_) (fun gL=>?_)))))
 ·refine .af (.z zm (.zn zg (.ret (rT (Fin.bj xq rfl ?_)))));have hq:¬ft s.sp∧e=30:=he.resolve_left fun h=>gL h.2
  exact ⟨H1,_,az,rfl,by rw [hq.2];exact .space hq.1,hs.out⟩
 ·refine .skip (nT (.seq (.af (.z (zfa aN) ?_))));have aZ:ft s.sp:=(he.resolve_right fun h=>by omega).1;refine .y hs (zld dm) (.z (de aD) (.z kU (.z zm (.iz (t':=19) rfl (fun CY=>?_) (fun CY=>?_)))))
  ·exact .Fs 4 4 false (.zn zpT (.cT (.af (.zn zg (.ret (rT (Fin.bj xq rfl ⟨H1,_,az,rfl,.long aZ ai,hs.out⟩)))))))
  ·refine .T (.z (zfa cJ) (.T (.y hs (zld jZ) (.T (.z (de bL) (.T (.z kU (.zn zpF (.bh rfl (fun jX=>?_) (fun jX=>?_))))))))))
   ·exact .af (.zn zg (.ret (rT (Fin.bj xq rfl ⟨H1,_,az,rfl,.long aZ ai,hs.out⟩))))
   ·refine .skip (nT (.seq (.af (.z (zfa aN) (.y hs (zld dm) (.z (de aD) (.zn zm (.for (N:=s.rs.length) (J:=fun k fr w=>fr=[(26,.slice ar s.rs.length cr),(1,Pt b1)]∧(∀j<k,∀y,s.rs[j]? =some y→pV s.sp y)∧St H1 w (.blk b1 [I s.sp.id,I s.sp.src,.slice gv s.sp.st.length gu,.slice fq s.sp.wa.length fp,I s.sp.al,I s.sp.up,.slice ar s.rs.length cr,.slice ac s.cs.length cc]::σ)) ai ?_ ?_ ?_))))))))
    ·exact .mk ⟨rfl,fun j hj=>by omega,hs⟩
    ·rintro k fr w hk ⟨rfl,eE,hs⟩;obtain ⟨r,hx⟩:=nth hk;refine .block (.af (.ixX (enc:=Rdg.c) hs (h3.mono az) rfl rfl aD a6 hx cK ?_));intro Rh o30 nm;refine .q hs (bQ (vs:=(Rdg.c r)) rfl jU a6 nm) (.o (.alloc hs jy rfl fun b5 w hs=>?_));refine .o (.aE (vs:=r.c) hs rfl rfl a6 fun w hs=>?_);change St _ _ (.blk b5 [I r.src,I r.st,I r.wa,I r.val,I r.tol,I r.tape,I r.day]::_) at hs;refine .nil (.af (.z (zfa aW) (.y hs (zls [_,_,_,_,_,_] bE aP) (.y hs (zls [_,_,_,_,_,_,_] jU a6) (.o (.call call120 rfl (qJ (s:=s.sp) (r:=r) hs (h1.mono az) (h2.mono az)) ?_))))));rintro _ w ⟨Oa,rfl,Ga,hs⟩;refine .zn fU (.cond rfl (fun oN=>?_) (fun oN=>?_))
     ·exact .af (.zn zg (.ret (rB (rT (rB (rT (Fin.bj xq rfl ⟨H1,_,az,rfl,.rdg aZ ai (fun h=>by rw [Ga.2 (h r (List.mem_of_getElem? hx))] at oN;cases oN),hs.out⟩)))))))
     ·exact .skip (nB (nT (.mk ⟨rfl,fH eE hx (Ga.1 (by simpa using oN)),hs.tail⟩)))
    ·rintro fr w ⟨rfl,eE,hs⟩;have OQ:∀r∈s.rs,pV s.sp r:=fun r hr=>by
      obtain ⟨j,hj⟩:=List.getElem?_of_mem hr;exact eE j (List.getElem?_eq_some_iff.1 hj).1 r hj
     clear eE;refine nT (.seq (.af (.z (zfa cJ) (.y hs (zld jZ) (.z (de bL) (.zn zm (.for (N:=s.cs.length) (J:=fun k fr w=>fr=[(39,.slice ac s.cs.length cc),(1,Pt b1)]∧(∀j<k,∀y,s.cs[j]? =some y→uk y)∧St H1 w (.blk b1 [I s.sp.id,I s.sp.src,.slice gv s.sp.st.length gu,.slice fq s.sp.wa.length fp,I s.sp.al,I s.sp.up,.slice ar s.rs.length cr,.slice ac s.cs.length cc]::σ)) ai ?_ ?_ ?_)))))))
     ·exact .mk ⟨rfl,fun j hj=>by omega,hs⟩
     ·rintro k fr w hk ⟨rfl,eE,hs⟩;obtain ⟨c,hx⟩:=nth hk;refine .block (.af (.ixX (enc:=Cmp.c) hs (h4.mono az) rfl rfl bL eg hx cK ?_));intro Uo o43 yC;refine .q hs (bQ (vs:=(Cmp.c c)) rfl isAgg153 eg yC) (.o (.alloc hs R8 rfl fun b7 w hs=>?_));refine .o (.aE (vs:=c.c) hs rfl rfl eg fun w hs=>?_);change St _ _ (.blk b7 [I c.src,I c.tape,I c.fr,I c.to,I c.lo,I c.hi]::_) at hs;refine .nil (.af (.y hs (zls [_,_,_,_,_,_] isAgg153 eg) (.o (.call call170 rfl (qK (c:=c) hs) ?_))));rintro _ w ⟨Vq,rfl,NI,hs⟩;refine .zn fU (.cond rfl (fun lC=>?_) (fun lC=>?_))
      ·exact .af (.zn zg (.ret (rB (rT (rB (rT (Fin.bj xq rfl ⟨H1,_,az,rfl,.cmp aZ ai OQ (fun h=>by rw [NI.2 (h c (List.mem_of_getElem? hx))] at lC;cases lC),hs.out⟩)))))))
      ·exact .skip (nB (nT (.mk ⟨rfl,fH eE hx (NI.1 (by simpa using lC)),hs.tail⟩)))
     ·rintro fr w ⟨rfl,eE,hs⟩;have Qs:∀c∈s.cs,uk c:=fun c hc=>by
       obtain ⟨j,hj⟩:=List.getElem?_of_mem hc;exact eE j (List.getElem?_eq_some_iff.1 hj).1 c hj
      have IL:s.early:=⟨aZ,ai,ai,OQ,Qs⟩;have pG:=eM aZ;have xC:s.cQ.length≤60:=by have:=ew s.rs;have:=IL.2.1;unfold Srv.cQ;omega
      have wq:=l6 IL 6 ai;rw [s.z7] at wq;have hsm2:s.sys.many=((s.sp.many+s.cQ.length:Nat):Int):=rfl;refine nT (.seq (.af (.y hs (zls [_,_,_,_,_,_,_,_] bA aM) (.o (.call call133 rfl (gJ (s:=s) hs (h1.mono az) (h2.mono az) (h3.mono az) (h4.mono az) IL) ?_)))));rintro _ w ⟨H2,bg,⟨ul,rfl,hL⟩,hs⟩;obtain ⟨al,cl,rfl⟩:=RL.shape hL;have hsl:s.sys.df.length=s.df.length:=rfl;refine .o (.alloc hs fk rfl fun b8 w hs=>?_);refine .o (.aE (vs:=[_,_]) hs rfl rfl aV fun w hs=>?_);refine .nil (.af (.z (zfa cz) (.y hs (zld aj) (.z kU (.z zm (.iz (t':=54) rfl (fun XE=>?_) (fun XE=>?_)))))))
      ·exact .Fs 4 3 false (.zn zpT (.cT (.af (.zn zg (.ret (rT (Fin.bj xq rfl ⟨H2,_,az.trans bg,rfl,.big IL ai,hs.out⟩)))))))
      ·refine .T (.z (zfa cO) (.T (.y hs (zld gz) (.T (.z (de aO) (.T (.z kU (.zn zpF (.bh rfl (fun F6=>?_) (fun F6=>?_))))))))))
       ·exact .af (.zn zg (.ret (rT (Fin.bj xq rfl ⟨H2,_,az.trans bg,rfl,.big IL ai,hs.out⟩))))
       ·exact .skip (nT (.af (.zn zg (.ret (Fin.bj xq rfl ⟨H2,_,az.trans bg,rfl,.ok IL ⟨ai,ai⟩,hs.out⟩)))))
theorem dJ{w:World}(hs:St H w σ):aaR 167 [I a0,I a1,I a2] w fun v w'=>v= .bool (decide (a1≤a0∧a0≤a2))∧St H w' σ:=by
 refine Cl.o func167 ntmps167 ag3 ?_;refine .af (.zn zg (.af (.z zm (.z zm (.z xv (.z zm (.iz (t':=10) rfl (fun pP=>?_) (fun pP=>?_))))))))
 ·exact .T (.z zm (.T (.z zm (.T (.z oY (.z zpT (.zn zg (.ret (Fin.bj results167 rfl ⟨by simp [*],hs.out⟩)))))))))
 ·exact .Fs 3 3 true (.z zpF (.zn zg (.ret (Fin.bj results167 rfl ⟨by simp [*],hs.out⟩))))
theorem Se(h1:fP 9 100000 s.st)(h2:fP 9 100000 s.wa)(h3:s.wa.length≤7)(h4:gi s.wa (s.wa.length - 1)≤15000)(h5:1≤s.id∧s.id≤99999)(h6:1≤s.src∧s.src≤99999)(h7:0≤s.al∧s.al≤100000)(h8:0≤s.up∧s.up≤100000):ft s:=
 ⟨h1,⟨h2.two,h3,h2.low,h4,h2.rise⟩,h5,h6,h7,h8⟩
theorem Fw(h:ft s):fP 9 100000 s.wa:=⟨h.wa.two,by have:=h.wa.many;omega,h.wa.low,by have:=h.wa.high;omega,h.wa.rise⟩
theorem jD{w:World}(hs:St H w σ)(h1:RI H cE s.st)(h2:RI H cB s.wa):
  aaR 113 [.agg #[I s.id,I s.src,cE,cB,I s.al,I s.up]] w fun v w'=>∃e,v=I e∧((ft s∧e=0)∨(¬ft s∧e=30))∧St H w' σ:=by
 obtain ⟨gv,gu,rfl⟩:=RI.shape h1;obtain ⟨fq,fp,rfl⟩:=RI.shape h2;have l2:=(RI.len h2).2.2;refine Cl.o func113 ntmps113 ag1 ?_;refine .af (.bx hs fun b1 w hs=>?_);refine .zn zg (.seq (.af (.z (zfa oR) (.y hs (zld aj) (.o (.call lH rfl (dJ hs) ?_))))));rintro _ w ⟨rfl,hs⟩;refine .z fU (.z zm (.bif (t':=7) rfl (fun L7=>?_) (fun L7=>?_)))
 ·exact .Fs 4 4 false (.z zpT (.z zm (.Fs 5 10 false (.z zpT (.z zm (.Fs 5 17 false (.zn zpT (.cT (.af (.zn zg (.ret (rT (Fin.bj q5 rfl ⟨_,rfl,.inr ⟨fun h=>by have:=h.id;simp_all,rfl⟩,hs.out⟩)))))))))))))
 ·refine .T (.z (zfa ez) (.T (.y hs (zld aj) (.T (.o (.call lH rfl (dJ hs) ?_))))));rintro _ w ⟨rfl,hs⟩;refine .T (.z fU (.z zpF (.z zm (.bif (t':=13) rfl (fun xa=>?_) (fun xa=>?_)))))
  ·exact .Fs 5 10 false (.z zpT (.z zm (.Fs 5 17 false (.zn zpT (.cT (.af (.zn zg (.ret (rT (Fin.bj q5 rfl ⟨_,rfl,.inr ⟨fun h=>by have:=h.src;simp_all,rfl⟩,hs.out⟩))))))))))
  ·refine .T (.z (zfa eP) (.T (.z (zfa lr) (.T (.y hs (zld aj) (.T (.o (.call lH rfl (dJ hs) ?_))))))));rintro _ w ⟨rfl,hs⟩;refine .T (.z fU (.z zpF (.z zm (.bif (t':=20) rfl (fun IV=>?_) (fun IV=>?_)))))
   ·exact .Fs 5 17 false (.zn zpT (.cT (.af (.zn zg (.ret (rT (Fin.bj q5 rfl ⟨_,rfl,.inr ⟨fun h=>by have:=h.al;simp_all,rfl⟩,hs.out⟩)))))))
   ·refine .T (.z (zfa eP) (.T (.z (zfa lq) (.T (.y hs (zld aj) (.T (.o (.call lH rfl (dJ hs) ?_))))))));rintro _ w ⟨rfl,hs⟩;refine .T (.z fU (.zn zpF (.cond rfl (fun iV=>?_) (fun iV=>?_))))
    ·exact .af (.zn zg (.ret (rT (Fin.bj q5 rfl ⟨_,rfl,.inr ⟨fun h=>by have:=h.up;simp_all,rfl⟩,hs.out⟩))))
    ·refine .skip (nT (.seq (.af (.z (zfa bO) (.y hs (zld aq) (.o (.call call168 rfl (jk hs h1) ?_)))))));rintro _ w ⟨e1,rfl,ZS,hs⟩;refine .z fV (.z zm (.EX (t':=31) rfl (fun yE=>?_) (fun yE=>?_)))
     ·exact .Fs 4 4 false (.z zpT (.z zm (.Fs 4 10 false (.z zpT (.z zm (.Fs 9 16 false (.zn zpT (.cT (.af (.zn zg (.ret (rT (Fin.bj q5 rfl ⟨_,rfl,.inr ⟨fun h=>yE (ZS.elim (fun g=>g.2) fun g=>(g.1 h.st).elim),rfl⟩,hs.out⟩)))))))))))))
     ·refine .T (.z (zfa aQ) (.T (.y hs (zld aq) (.T (.o (.call call168 rfl (jk hs h2) ?_))))));rintro _ w ⟨e2,rfl,ZR,hs⟩;refine .T (.z fV (.z zpF (.z zm (.EX (t':=37) rfl (fun TN=>?_) (fun TN=>?_)))))
      ·exact .Fs 4 10 false (.z zpT (.z zm (.Fs 9 16 false (.zn zpT (.cT (.af (.zn zg (.ret (rT (Fin.bj q5 rfl ⟨_,rfl,.inr ⟨fun h=>TN (ZR.elim (fun g=>g.2) fun g=>(g.1 (Fw h)).elim),rfl⟩,hs.out⟩))))))))))
      ·refine .T (.z (zfa aQ) (.T ?_));have hw:fP 9 100000 s.wa:=ZR.elim (fun g=>g.1) fun g=>(g.2 ai).elim
       have V3:=hw.two;refine .y hs (zld aq) (.T (.z (de ae) (.T (.z kU (.z zpF (.z zm (.iz (t':=43) rfl (fun XH=>?_) (fun XH=>?_))))))))
       ·exact .Fs 9 16 false (.zn zpT (.cT (.af (.zn zg (.ret (rT (Fin.bj q5 rfl ⟨_,rfl,.inr ⟨fun h=>by have:=h.wa.many;omega,rfl⟩,hs.out⟩)))))))
       ·refine .T ?_;refine .z (zfa aQ) (.T (.y hs (zld aq) (.T (.z (zfa aQ) (.T (.y hs (zld aq) (.T (.z (de ae) (.T (.z gx (.T (.ixY hs h2 rfl rfl ae an (bu (l:=s.wa) (i:=(s.wa.length-1)) ai) cK ?_))))))))))));intro Yt o50 Ew;refine .T (.q hs (aC rfl aj Ew) (.T (.z kU (.zn zpF (.bh rfl (fun CX=>?_) (fun CX=>?_))))))
        ·exact .af (.zn zg (.ret (rT (Fin.bj q5 rfl ⟨_,rfl,.inr ⟨fun h=>by have:=h.wa.high;omega,rfl⟩,hs.out⟩))))
        ·exact .skip (nT (.af (.zn zg (.ret (Fin.bj q5 rfl ⟨_,rfl,.inl ⟨Se (ZS.elim (fun g=>g.1) fun g=>(g.2 ai).elim) hw ai ai (by simp_all) (by simp_all) (by simp_all) (by simp_all),rfl⟩,hs.out⟩)))))
theorem k7{w:World}{r:Rdg}(hs:St H w σ)(h1:RI H cE s.st)(h2:RI H cB s.wa):
  aaR 150 [.agg #[I s.id,I s.src,cE,cB,I s.al,I s.up],.agg #[I r.src,I r.st,I r.wa,I r.val,I r.tol,I r.tape,I r.day]] w fun v w'=>∃b:Bool,v= .bool b∧(b=true↔pV s r)∧St H w' σ:=by
 obtain ⟨gv,gu,rfl⟩:=RI.shape h1;obtain ⟨fq,fp,rfl⟩:=RI.shape h2;have l1:=(RI.len h1).2.2;have l2:=(RI.len h2).2.2;refine Cl.o func150 ntmps150 ag2 ?_;refine .af (.bx hs fun b2 w hs=>?_);refine .bx hs fun b3 w hs=>?_
 refine .zn zg (.af (.z (zfa fi) (.y hs (zld aj) (.o (.call lH rfl (dJ hs) ?_)))));rintro _ w ⟨rfl,hs⟩;refine .z zm (.bif (t':=8) rfl (fun Pc=>?_) (fun Pc=>?_))
 ·refine .T ?_;refine .z (zfa gY) (.T (.y hs (zld aj) (.T (.z (zfa bO) (.T (.y hs (zld aq) (.T (.z (de ae) (.T (.z gx (.T (.o (.call lH rfl (dJ hs) ?_)))))))))))));rintro _ w ⟨rfl,hs⟩;refine .z zpT (.z zm (.bif (t':=17) rfl (fun yF=>?_) (fun yF=>?_)))
  ·refine .T ?_;refine .z (zfa gX) (.T (.y hs (zld aj) (.T (.z (zfa aQ) (.T (.y hs (zld aq) (.T (.z (de ae) (.T (.z gx (.T (.o (.call lH rfl (dJ hs) ?_)))))))))))));rintro _ w ⟨rfl,hs⟩;refine .z zpT (.z zm (.bif (t':=26) rfl (fun Lj=>?_) (fun Lj=>?_)))
   ·refine .T (.z (zfa dB) (.T (.y hs (zld aj) (.T (.o (.call lH rfl (dJ hs) ?_))))));rintro _ w ⟨rfl,hs⟩;refine .z zpT (.z zm (.bif (t':=31) rfl (fun yE=>?_) (fun yE=>?_)))
    ·refine .T (.z (zfa dL) (.T (.y hs (zld aj) (.T (.z (zfa dB) (.T (.y hs (zld aj) (.T ?_))))))));have ht:0≤r.tol∧r.tol≤1000:=by simp_all
     refine .z gx (.T (.o (.call lH rfl (dJ hs) ?_)));rintro _ w ⟨rfl,hs⟩;refine .z zpT (.z zm (.bif (t':=39) rfl (fun Lh=>?_) (fun Lh=>?_)))
     ·refine .T (.z (zfa fh) (.T (.y hs (zld aj) (.T (.o (.call lH rfl (dJ hs) ?_))))));rintro _ w ⟨rfl,hs⟩;refine .z zpT (.z zm (.bif (t':=44) rfl (fun IU=>?_) (fun IU=>?_)))
      ·refine .T (.z (zfa fg) (.T (.y hs (zld aj) (.T (.o (.call lH rfl (dJ hs) ?_))))));rintro _ w ⟨rfl,hs⟩;refine .z zpT (.zn zg (.ret (Fin.bj DH rfl ?_)));first
       |exact ⟨false,rfl,⟨fun h=>(by cases h),fun h=>(by obtain ⟨g1,g2,g3,g4,g5,g6,g7⟩:=h;simp_all;done)⟩,hs.out⟩
       |exact ⟨_,rfl,⟨fun h=>⟨by simp_all,by simp_all,by simp_all,by simp_all,by simp_all,by simp_all,by simpa using h⟩,fun h=>by simpa using h.day⟩,hs.out⟩
      ·refine .Fs 3 39 true (.z zpF (.zn zg (.ret (Fin.bj DH rfl ?_))));first
       |exact ⟨false,rfl,⟨fun h=>(by cases h),fun h=>(by obtain ⟨g1,g2,g3,g4,g5,g6,g7⟩:=h;simp_all;done)⟩,hs.out⟩
       |exact ⟨_,rfl,⟨fun h=>⟨by simp_all,by simp_all,by simp_all,by simp_all,by simp_all,by simp_all,by simpa using h⟩,fun h=>by simpa using h.day⟩,hs.out⟩
     ·refine .Fs 3 34 true (.z zpF (.z zm (.Fs 3 39 true (.z zpF (.zn zg (.ret (Fin.bj DH rfl ?_)))))));first
      |exact ⟨false,rfl,⟨fun h=>(by cases h),fun h=>(by obtain ⟨g1,g2,g3,g4,g5,g6,g7⟩:=h;simp_all;done)⟩,hs.out⟩
      |exact ⟨_,rfl,⟨fun h=>⟨by simp_all,by simp_all,by simp_all,by simp_all,by simp_all,by simp_all,by simpa using h⟩,fun h=>by simpa using h.day⟩,hs.out⟩
    ·refine .Fs 6 26 true (.z zpF (.z zm (.Fs 3 34 true (.z zpF (.z zm (.Fs 3 39 true (.z zpF (.zn zg (.ret (Fin.bj DH rfl ?_))))))))));first
     |exact ⟨false,rfl,⟨fun h=>(by cases h),fun h=>(by obtain ⟨g1,g2,g3,g4,g5,g6,g7⟩:=h;simp_all;done)⟩,hs.out⟩
     |exact ⟨_,rfl,⟨fun h=>⟨by simp_all,by simp_all,by simp_all,by simp_all,by simp_all,by simp_all,by simpa using h⟩,fun h=>by simpa using h.day⟩,hs.out⟩
   ·refine .Fs 3 21 true (.z zpF (.z zm (.Fs 6 26 true (.z zpF (.z zm (.Fs 3 34 true (.z zpF (.z zm (.Fs 3 39 true (.z zpF (.zn zg (.ret (Fin.bj DH rfl ?_)))))))))))));first
    |exact ⟨false,rfl,⟨fun h=>(by cases h),fun h=>(by obtain ⟨g1,g2,g3,g4,g5,g6,g7⟩:=h;simp_all;done)⟩,hs.out⟩
    |exact ⟨_,rfl,⟨fun h=>⟨by simp_all,by simp_all,by simp_all,by simp_all,by simp_all,by simp_all,by simpa using h⟩,fun h=>by simpa using h.day⟩,hs.out⟩
  ·refine .Fs 7 12 true (.z zpF (.z zm (.Fs 3 21 true (.z zpF (.z zm (.Fs 6 26 true (.z zpF (.z zm (.Fs 3 34 true (.z zpF (.z zm (.Fs 3 39 true (.z zpF (.zn zg (.ret (Fin.bj DH rfl ?_))))))))))))))));first
   |exact ⟨false,rfl,⟨fun h=>(by cases h),fun h=>(by obtain ⟨g1,g2,g3,g4,g5,g6,g7⟩:=h;simp_all;done)⟩,hs.out⟩
   |exact ⟨_,rfl,⟨fun h=>⟨by simp_all,by simp_all,by simp_all,by simp_all,by simp_all,by simp_all,by simpa using h⟩,fun h=>by simpa using h.day⟩,hs.out⟩
 ·refine .Fs 7 3 true (.z zpF (.z zm (.Fs 7 12 true (.z zpF (.z zm (.Fs 3 21 true (.z zpF (.z zm (.Fs 6 26 true (.z zpF (.z zm (.Fs 3 34 true (.z zpF (.z zm (.Fs 3 39 true (.z zpF (.zn zg (.ret (Fin.bj DH rfl ?_)))))))))))))))))));first
  |exact ⟨false,rfl,⟨fun h=>(by cases h),fun h=>(by obtain ⟨g1,g2,g3,g4,g5,g6,g7⟩:=h;simp_all;done)⟩,hs.out⟩
  |exact ⟨_,rfl,⟨fun h=>⟨by simp_all,by simp_all,by simp_all,by simp_all,by simp_all,by simp_all,by simpa using h⟩,fun h=>by simpa using h.day⟩,hs.out⟩
theorem pY{w:World}{c:Cmp}(hs:St H w σ):
  aaR 176 [.agg #[I c.src,I c.tape,I c.fr,I c.to,I c.lo,I c.hi]] w fun v w'=>∃b:Bool,v= .bool b∧(b=true↔uk c)∧St H w' σ:=by
 refine Cl.o func176 ntmps176 ag1 ?_;refine .af (.bx hs fun b1 w hs=>?_);refine .zn zg (.af (.z (zfa je) (.y hs (zld aj) (.o (.call lH rfl (dJ hs) ?_)))));rintro _ w ⟨rfl,hs⟩;refine .z zm (.bif (t':=6) rfl (fun Fj=>?_) (fun Fj=>?_))
 ·refine .T (.z (zfa kr) (.T (.y hs (zld aj) (.T (.o (.call lH rfl (dJ hs) ?_))))));rintro _ w ⟨rfl,hs⟩;refine .z zpT (.z zm (.bif (t':=11) rfl (fun oO=>?_) (fun oO=>?_)))
  ·refine .T (.z (zfa gZ) (.T (.y hs (zld aj) (.T (.z xv (.z zpT (.z zm (.iz (t':=16) rfl (fun rP=>?_) (fun rP=>?_)))))))))
   ·refine .T (.z (zfa gZ) (.T (.y hs (zld aj) (.T (.z (zfa gq) (.T (.y hs (zld aj) (.T (.z oY (.z zpT (.z zm (.iz (t':=23) rfl (fun pN=>?_) (fun pN=>?_)))))))))))))
    ·refine .T (.z (zfa gq) (.T (.y hs (zld aj) (.T (.z oY (.z zpT (.z zm (.iz (t':=28) rfl (fun w9=>?_) (fun w9=>?_)))))))))
     ·refine .T (.z (zfa gj) (.T (.y hs (zld aj) (.T (.z xv (.z zpT (.z zm (.iz (t':=33) rfl (fun NL=>?_) (fun NL=>?_)))))))))
      ·refine .T (.z (zfa gj) (.T (.y hs (zld aj) (.T (.z (zfa gg) (.T (.y hs (zld aj) (.T (.z oY (.z zpT (.z zm (.iz (t':=40) rfl (fun QH=>?_) (fun QH=>?_)))))))))))))
       ·refine .T (.z (zfa gg) (.T (.y hs (zld aj) (.T (.z oY (.z zpT (.zn zg (.ret (Fin.bj xo rfl ?_)))))))));first
        |exact ⟨false,rfl,⟨fun h=>(by cases h),fun h=>(by obtain ⟨g1,g2,g3,g4,g5,g6⟩:=h;simp_all;omega)⟩,hs.out⟩
        |exact ⟨false,rfl,⟨fun h=>(by cases h),fun h=>(by obtain ⟨g1,g2,g3,g4,g5,g6⟩:=h;simp_all;done)⟩,hs.out⟩
        |exact ⟨_,rfl,⟨fun h=>⟨by simp_all,by simp_all,⟨ai,ai⟩,ai,⟨ai,ai⟩,of_decide_eq_true h⟩,fun h=>decide_eq_true h.hi⟩,hs.out⟩
       ·refine .Fs 3 37 true (.z zpF (.zn zg (.ret (Fin.bj xo rfl ?_))));first
        |exact ⟨false,rfl,⟨fun h=>(by cases h),fun h=>(by obtain ⟨g1,g2,g3,g4,g5,g6⟩:=h;simp_all;omega)⟩,hs.out⟩
        |exact ⟨false,rfl,⟨fun h=>(by cases h),fun h=>(by obtain ⟨g1,g2,g3,g4,g5,g6⟩:=h;simp_all;done)⟩,hs.out⟩
        |exact ⟨_,rfl,⟨fun h=>⟨by simp_all,by simp_all,⟨ai,ai⟩,ai,⟨ai,ai⟩,of_decide_eq_true h⟩,fun h=>decide_eq_true h.hi⟩,hs.out⟩
      ·refine .Fs 5 30 true (.z zpF (.z zm (.Fs 3 37 true (.z zpF (.zn zg (.ret (Fin.bj xo rfl ?_)))))));first
       |exact ⟨false,rfl,⟨fun h=>(by cases h),fun h=>(by obtain ⟨g1,g2,g3,g4,g5,g6⟩:=h;simp_all;omega)⟩,hs.out⟩
       |exact ⟨false,rfl,⟨fun h=>(by cases h),fun h=>(by obtain ⟨g1,g2,g3,g4,g5,g6⟩:=h;simp_all;done)⟩,hs.out⟩
       |exact ⟨_,rfl,⟨fun h=>⟨by simp_all,by simp_all,⟨ai,ai⟩,ai,⟨ai,ai⟩,of_decide_eq_true h⟩,fun h=>decide_eq_true h.hi⟩,hs.out⟩
     ·refine .Fs 3 25 true (.z zpF (.z zm (.Fs 5 30 true (.z zpF (.z zm (.Fs 3 37 true (.z zpF (.zn zg (.ret (Fin.bj xo rfl ?_))))))))));first
      |exact ⟨false,rfl,⟨fun h=>(by cases h),fun h=>(by obtain ⟨g1,g2,g3,g4,g5,g6⟩:=h;simp_all;omega)⟩,hs.out⟩
      |exact ⟨false,rfl,⟨fun h=>(by cases h),fun h=>(by obtain ⟨g1,g2,g3,g4,g5,g6⟩:=h;simp_all;done)⟩,hs.out⟩
      |exact ⟨_,rfl,⟨fun h=>⟨by simp_all,by simp_all,⟨ai,ai⟩,ai,⟨ai,ai⟩,of_decide_eq_true h⟩,fun h=>decide_eq_true h.hi⟩,hs.out⟩
    ·refine .Fs 3 20 true (.z zpF (.z zm (.Fs 3 25 true (.z zpF (.z zm (.Fs 5 30 true (.z zpF (.z zm (.Fs 3 37 true (.z zpF (.zn zg (.ret (Fin.bj xo rfl ?_)))))))))))));first
     |exact ⟨false,rfl,⟨fun h=>(by cases h),fun h=>(by obtain ⟨g1,g2,g3,g4,g5,g6⟩:=h;simp_all;omega)⟩,hs.out⟩
     |exact ⟨false,rfl,⟨fun h=>(by cases h),fun h=>(by obtain ⟨g1,g2,g3,g4,g5,g6⟩:=h;simp_all;done)⟩,hs.out⟩
     |exact ⟨_,rfl,⟨fun h=>⟨by simp_all,by simp_all,⟨ai,ai⟩,ai,⟨ai,ai⟩,of_decide_eq_true h⟩,fun h=>decide_eq_true h.hi⟩,hs.out⟩
   ·refine .Fs 5 13 true (.z zpF (.z zm (.Fs 3 20 true (.z zpF (.z zm (.Fs 3 25 true (.z zpF (.z zm (.Fs 5 30 true (.z zpF (.z zm (.Fs 3 37 true (.z zpF (.zn zg (.ret (Fin.bj xo rfl ?_))))))))))))))));first
    |exact ⟨false,rfl,⟨fun h=>(by cases h),fun h=>(by obtain ⟨g1,g2,g3,g4,g5,g6⟩:=h;simp_all;omega)⟩,hs.out⟩
    |exact ⟨false,rfl,⟨fun h=>(by cases h),fun h=>(by obtain ⟨g1,g2,g3,g4,g5,g6⟩:=h;simp_all;done)⟩,hs.out⟩
    |exact ⟨_,rfl,⟨fun h=>⟨by simp_all,by simp_all,⟨ai,ai⟩,ai,⟨ai,ai⟩,of_decide_eq_true h⟩,fun h=>decide_eq_true h.hi⟩,hs.out⟩
  ·refine .Fs 3 8 true (.z zpF (.z zm (.Fs 5 13 true (.z zpF (.z zm (.Fs 3 20 true (.z zpF (.z zm (.Fs 3 25 true (.z zpF (.z zm (.Fs 5 30 true (.z zpF (.z zm (.Fs 3 37 true (.z zpF (.zn zg (.ret (Fin.bj xo rfl ?_)))))))))))))))))));first
   |exact ⟨false,rfl,⟨fun h=>(by cases h),fun h=>(by obtain ⟨g1,g2,g3,g4,g5,g6⟩:=h;simp_all;omega)⟩,hs.out⟩
   |exact ⟨false,rfl,⟨fun h=>(by cases h),fun h=>(by obtain ⟨g1,g2,g3,g4,g5,g6⟩:=h;simp_all;done)⟩,hs.out⟩
   |exact ⟨_,rfl,⟨fun h=>⟨by simp_all,by simp_all,⟨ai,ai⟩,ai,⟨ai,ai⟩,of_decide_eq_true h⟩,fun h=>decide_eq_true h.hi⟩,hs.out⟩
 ·refine .Fs 3 3 true (.z zpF (.z zm ?_));refine .Fs 3 8 true (.z zpF (.z zm (.Fs 5 13 true (.z zpF (.z zm (.Fs 3 20 true (.z zpF (.z zm (.Fs 3 25 true (.z zpF (.z zm (.Fs 5 30 true (.z zpF (.z zm (.Fs 3 37 true (.z zpF (.zn zg (.ret (Fin.bj xo rfl ?_)))))))))))))))))));first
  |exact ⟨false,rfl,⟨fun h=>(by cases h),fun h=>(by obtain ⟨g1,g2,g3,g4,g5,g6⟩:=h;simp_all;omega)⟩,hs.out⟩
  |exact ⟨false,rfl,⟨fun h=>(by cases h),fun h=>(by obtain ⟨g1,g2,g3,g4,g5,g6⟩:=h;simp_all;done)⟩,hs.out⟩
  |exact ⟨_,rfl,⟨fun h=>⟨by simp_all,by simp_all,⟨ai,ai⟩,ai,⟨ai,ai⟩,of_decide_eq_true h⟩,fun h=>decide_eq_true h.hi⟩,hs.out⟩
theorem eK{w:World}(hs:St H w σ)(h1:RI H cE s.st)(h2:RI H cB s.wa)(hb:s.st.length≤1000∧s.wa.length≤1000):
  aaR 94 [.agg #[I s.id,I s.src,cE,cB,I s.al,I s.up]] w fun v w'=>v=I (s.many:Int)∧St H w' σ:=by
 obtain ⟨gv,gu,rfl⟩:=RI.shape h1;obtain ⟨fq,fp,rfl⟩:=RI.shape h2;have hm:=kL (a:=(s.st.length:Int)) (b:=(s.wa.length:Int)) (A:=1000) (B:=1000) ai ai;refine Cl.o func94 ntmps94 ag1 ?_;refine .af (.bx hs fun b1 w hs=>?_);exact .zn zg (.af (.z (zfa bO) (.y hs (zld aq) (.z (de ae) (.z (zfa aQ) (.y hs (zld aq) (.z (de ae) (.z kV (.zn zg (.ret (Fin.bj results94 rfl ⟨by unfold Spc.many;rw [Int.natCast_mul],hs.out⟩)))))))))))
theorem dN{w:World}{b:Int}(hs:St H w σ)(h2:RI H cB s.wa)(hb:s.wa.length≤1000)(ha: -1000≤a∧a≤1000)(aai: -1000≤b∧b≤1000):
  aaR 93 [.agg #[I s.id,I s.src,cE,cB,I s.al,I s.up],I a,I b] w fun v w'=>v=I (1+a*s.wa.length+b)∧St H w' σ:=by
 obtain ⟨fq,fp,rfl⟩:=RI.shape h2;have hm:=kL (a:=a) (b:=(s.wa.length:Int)) (A:=1000) (B:=1000) ai ai;refine Cl.o func93 ntmps93 ag3 ?_;refine .af (.bx hs fun b3 w hs=>?_);exact .zn zg (.af (.z zm (.z (zfa aQ) (.y hs (zld aq) (.z (de ae) (.z kV (.z cH (.z zm (.z cH (.zn zg (.ret (Fin.bj results93 rfl ⟨rfl,hs.out⟩))))))))))))
theorem pv{w:World}{b:Int}(hs:St H w σ)(ha:0≤a∧a≤100000)(hb:0≤b∧b≤100000):
  aaR 211 [I a,I b] w fun v w'=>v=I (mN a b)∧St H w' σ:=by
 have hm:=kL (a:=a) (b:=b) (A:=100000) (B:=100000) ai ai;have h0:=Int.mul_nonneg ha.1 hb.1;have IE:0≤(a*b+999).tdiv 1000:=Int.tdiv_nonneg ai ai;have Nn:(a*b+999).tdiv 1000≤a*b+999:=by rw [Int.tdiv_eq_ediv_of_nonneg ai];omega
 refine Cl.o func211 ntmps211 ag2 ?_;exact .af (.zn zg (.af (.z zm (.z zm (.z kV (.z cH (.q hs (uO rfl rfl ai ai) (.z Dq (.zn zg (.ret (Fin.bj results211 rfl ⟨rfl,hs⟩)))))))))))
theorem nI{w:World}{b m s:Int}(hs:St H w σ):
  aaR 210 [I a,I b,I m,I s] w fun v w'=>∃b0,v= .slice (some ⟨b0,0,none⟩) 2 2∧St H w' (.blk b0 (jf (two a b m m s))::σ):=by
 refine Cl.o func210 ntmps210 ag4 ?_;refine .af (.zn zg (.af (.z zm (.z zm (.z zm (.z zm (.z (zbd [_,_,_,_] fD) (.z zm (.z zm (.z zm (.z zm (.z (zbd [_,_,_,_] fD) (.o (.buildSlice (cells:=jf (two a b m m s)) hs ij rfl aA fun pU w hs=>?_))))))))))))));exact .zn zg (.ret (Fin.bj results210 rfl ⟨pU,rfl,hs⟩))
theorem zO{w:World}{c:Cmp}(hs:St H w σ)(w6: -1000000≤c.lo∧c.lo≤1000000):
  aaR 212 [.agg #[I c.src,I c.tape,I c.fr,I c.to,I c.lo,I c.hi],.agg #[I t.tape,I t.day],I f] w fun v w'=>∃en,cU 4 v (jf (oJ c t f)) en∧St H w' (en::σ):=by
 refine Cl.o func212 ntmps212 ag3 ?_;refine .af (.bx hs fun b3 w hs=>?_);refine .bx hs fun b4 w hs=>?_
 refine .zn zg (.seq (.af (.z (zfa kr) (.y hs (zld aj) (.z (zfa qx) (.y hs (zld aj) (.z fV (.z zm (.EX (t':=12) rfl (fun Lk=>?_) (fun Lk=>?_))))))))))
 ·exact .Fs 5 5 false (.z zpT (.z zm (.Fs 5 12 false (.zn zpT (.cT (.af (.zn zg (.ret (rT (Fin.bj results212 rfl ⟨.nul,by unfold oJ;rw [if_neg ai];exact .nil 4 none,hs.tail.tail.nul⟩))))))))))
 ·refine .T (.z (zfa mO) (.T (.y hs (zld aj) (.T (.z (zfa gZ) (.T (.y hs (zld aj) (.T (.z fN (.z zpF (.z zm (.iz (t':=19) rfl (fun CY=>?_) (fun CY=>?_)))))))))))))
  ·exact .Fs 5 12 false (.zn zpT (.cT (.af (.zn zg (.ret (rT (Fin.bj results212 rfl ⟨.nul,by unfold oJ;rw [if_neg ai];exact .nil 4 none,hs.tail.tail.nul⟩)))))))
  ·refine .T (.z (zfa mO) (.T (.y hs (zld aj) (.T (.z (zfa gq) (.T (.y hs (zld aj) (.T (.z kU (.zn zpF (.bh rfl (fun fc=>?_) (fun fc=>?_))))))))))))
   ·exact .af (.zn zg (.ret (rT (Fin.bj results212 rfl ⟨.nul,by unfold oJ;rw [if_neg ai];exact .nil 4 none,hs.tail.tail.nul⟩))))
   ·refine .skip (nT (.af (.z zm (.z (zfa gj) (.y hs (zld aj) (.z Fm (.z (zfa je) (.y hs (zld aj) (.z (zbd [_,_,_,_] fD) (.z zm (.z (zfa gg) (.y hs (zld aj) (.z (zfa je) (.y hs (zld aj) (.z (zbd [_,_,_,_] fD) (.o (.buildSlice (cells:=jf (two 0 f (-c.lo) c.hi c.src)) hs ij rfl aA fun Py w hs=>?_)))))))))))))))));exact .zn zg (.ret (Fin.bj results212 rfl ⟨_,by unfold oJ;rw [if_pos ai];exact .full (by simp [two,fw]),hs.sb⟩))
theorem mD{w:World}{v:Value}{xs:List TD}(hs:St H w σ)(hr:RTd H v xs)(hl:xs.length≤1000000):
  aaR 95 [v,.agg #[I t.tape,I t.day]] w fun u w'=>u=I (mB xs t)∧St H w' σ:=by
 obtain ⟨a,c,rfl⟩:=RTd.shape hr;refine Cl.o func95 ntmps95 ag2 ?_;refine .af (.bx hs fun b3 w hs=>?_);refine .zn zg (.seq (.af (.zn zg (.block ?_))));refine .loop (fun k:Nat=>⟨19,[],[(5,I (k:Int)),(3,Pt b3),(0,.slice a xs.length c)]⟩)
  (fun k w=>k≤xs.length∧(∀j<k,∀y,xs[j]? =some y→¬y=t)∧St H w (.blk b3 [I t.tape,I t.day]::σ)) (fun k=>xs.length - k) 0 (.cD rfl bH aH)
  ⟨Nat.zero_le _,fun j hj=>by omega,hs⟩ ?_
 rintro k w ⟨hk,eE,hs⟩;refine .seq (.af (.z zm (.z zm (.z (de cf) (.zn fN (.bh rfl (fun nv=>?_) (fun nv=>?_)))))))
 ·refine .skip (nT (.seq (.block (.seq (.draw mix rfl hs fun w hs=>?_)))));refine .zw 0 rfl zm ?_;refine .z 1 rfl zm ?_;obtain ⟨x,hx⟩:=nth (l:=xs) (k:=k) ai;refine .ixX (enc:=TD.c) (i:=2) hs rfl aA .none hr rfl rfl cf dw hx cK ?_;intro oh o14 jH;refine .r (i:=3) hs rfl aA .none (bQ (vs:=x.c) rfl jT dw jH) ?_;refine .zv 4 rfl hs (G7 [_,_] jT dw) ?_;refine .z 5 rfl (D2 yR yS nA (fun f hf=>by
   simp only [List.mem_cons,List.not_mem_nil,or_false] at hf
   rcases hf with rfl|rfl<;>exact ⟨by decide,cq,aj⟩) rfl rfl) ?_
  refine .D hs (.cond rfl (fun iW=>?_) (fun iW=>?_))
  ·refine .af (.z zm (.zn zg (.ret (rB (rT (rT (rB (rT (Fin.bj results95 rfl ?_)))))))));have e:x=t:=Mq.1 (of_decide_eq_true iW);subst e;exact ⟨by rw [uz hx fun j hj h=>eE j hj _ h rfl],hs.tail⟩
  ·exact .skip (nB (nT (.region (.z zm (.z cH (.zn zg (nT ⟨k+1,.cD rfl bH aH,⟨ai,fH eE hx (fun e=>by subst e;simp at iW),hs⟩,ai⟩)))))))
 ·refine .exit (xT (xT (xB (nT (.af (.zn zg (.ret (Fin.bj results95 rfl ?_))))))));obtain rfl:k=xs.length:=by omega
  exact ⟨by rw [Cu eE],hs.tail⟩
theorem ru{w:World}{v:Value}{xs:List TD}(hs:St H w (en::σ))(hO:cU 2 v (tdc xs).flatten en)(hl:xs.length≤1000000):
  aaR 95 [v,.agg #[I t.tape,I t.day]] w fun u w'=>u=I (mB xs t)∧St H w' (en::σ):=by
 obtain ⟨a,c,rfl⟩:=hO.j6 (sL xs) ai;rw [fa] at hO ⊢;refine Cl.o func95 ntmps95 ag2 ?_;refine .af (.bx hs fun b3 w hs=>?_);refine .zn zg (.seq (.af (.zn zg (.block ?_))));refine .loop (fun k:Nat=>⟨19,[],[(5,I (k:Int)),(3,Pt b3),(0,.slice a xs.length c)]⟩)
  (fun k w=>k≤xs.length∧(∀j<k,∀y,xs[j]? =some y→¬y=t)∧St H w (.blk b3 [I t.tape,I t.day]::en::σ)) (fun k=>xs.length - k) 0 (.cD rfl bH aH)
  ⟨Nat.zero_le _,fun j hj=>by omega,hs⟩ ?_
 rintro k w ⟨hk,eE,hs⟩;refine .seq (.af (.z zm (.z zm (.z (de cf) (.zn fN (.bh rfl (fun nv=>?_) (fun nv=>?_)))))))
 ·refine .skip (nT (.seq (.block (.seq (.draw mix rfl hs fun w hs=>?_)))));refine .zw 0 rfl zm ?_;refine .z 1 rfl zm ?_;obtain ⟨x,hx⟩:=nth (l:=xs) (k:=k) ai;obtain ⟨b,c',sp,hv,rfl,_⟩:=hO.N8 (sL xs) ai (by rw [fa];omega);rw [fa] at hv;cases hv
  refine .zw 2 rfl (oe cf dw) (.Iz (i:=3) (vs:=x.c) hs rfl aA .none rfl jT dw ?_ (hv:=BT (sL xs) (JG hx) sp));refine .zv 4 rfl hs (G7 [_,_] jT dw) ?_;refine .z 5 rfl (D2 yR yS nA (fun f hf=>by
   simp only [List.mem_cons,List.not_mem_nil,or_false] at hf
   rcases hf with rfl|rfl<;>exact ⟨by decide,cq,aj⟩) rfl rfl) ?_
  refine .D hs (.cond rfl (fun iW=>?_) (fun iW=>?_))
  ·refine .af (.z zm (.zn zg (.ret (rB (rT (rT (rB (rT (Fin.bj results95 rfl ?_)))))))));have e:x=t:=Mq.1 (of_decide_eq_true iW);subst e;exact ⟨by rw [uz hx fun j hj h=>eE j hj _ h rfl],hs.tail⟩
  ·exact .skip (nB (nT (.region (.z zm (.z cH (.zn zg (nT ⟨k+1,.cD rfl bH aH,⟨ai,fH eE hx (fun e=>by subst e;simp at iW),hs⟩,ai⟩)))))))
 ·refine .exit (xT (xT (xB (nT (.af (.zn zg (.ret (Fin.bj results95 rfl ?_))))))));obtain rfl:k=xs.length:=by omega
  exact ⟨by rw [Cu eE],hs.tail⟩
set_option maxHeartbeats 1000000 in
theorem jd{w:World}{rs:List Rdg}(hs:St H w σ)(hr:RRd H vr rs)(hl:rs.length≤1000000):
  aaR 96 [vr] w fun u w'=>∃H1,HLe H H1∧RTd H1 u (bB rs)∧St H1 w' σ:=by
 obtain ⟨ar,cr,rfl⟩:=RRd.shape hr;refine Cl.o func96 ntmps96 ag1 ?_;refine .af (.zn zg (.af (.zn zg (.seq (.af (.zn zg (.block ?_)))))));refine .loop (fun p:Nat×Value=>⟨32,[],[(4,I (p.1:Int)),(3,p.2),(0,.slice ar rs.length cr)]⟩)
  (fun p w=>p.1≤rs.length∧∃en,cU 2 p.2 (tdc (bB (rs.take p.1))).flatten en∧St H w (en::σ)) (fun p=>rs.length - p.1) (0,.slice none 0 0) aH
  ⟨Nat.zero_le _,_,.nil 2 none,hs.nul⟩ ?_
 rintro ⟨k,vo⟩ w ⟨hk,en,hO,hs⟩;dsimp only at hk hO ⊢;have xC:=nH rs k ai;obtain ⟨ao,co,rfl⟩:=hO.j6 (sL _) ai;rw [fa] at hO ⊢;refine .seq (.af (.z zm (.z zm (.z (de aD) (.zn fN (.bh rfl (fun nv=>?_) (fun nv=>?_)))))))
 ·refine .skip (nT (.seq (.block (.seq (.draw mix rfl hs fun w hs=>?_)))));refine .zw 0 rfl zm ?_;refine .z 1 rfl zm ?_;obtain ⟨r,hx⟩:=nth (l:=rs) (k:=k) ai;have ON:=lY hx;refine .ixX (enc:=Rdg.c) (i:=2) hs rfl aA .none hr rfl rfl aD a6 hx cK ?_;intro oh o14 jH;have d14:cellAt H oh (o14+5)=some (I r.tape):=jH 5 _ rfl;refine .zw 3 rfl (zfa fh) ?_;refine .y 4 rfl hs aj ?_;refine .z 5 rfl zm ?_;refine .z 6 rfl zm ?_;refine .ixX (enc:=Rdg.c) (i:=7) hs rfl aA .none hr rfl rfl aD a6 hx cK ?_;intro pU o19 mL;have d19:cellAt H pU (o19+6)=some (I r.day):=mL 6 _ rfl;refine .zw 8 rfl (zfa fg) ?_;refine .y 9 rfl hs aj ?_;refine .z 10 rfl (zbd [_,_] jQ) ?_;refine .E 11 hs ?_;refine .alloc hs wv rfl ?_;intro b5 w hs;refine .go (.E 12 hs ?_);refine .aE (vs:=[_,_]) hs rfl rfl dw ?_;intro w hs;refine .go (.D hs (.af (.z zm (.y hs (zls [_,_] jT dw) (.o (.call call95 rfl (ru (t:=r.td) (hs.sb:St H w (en:: .blk b5 [I r.tape,I r.day]::σ)) hO ai) ?_))))));rintro _ w ⟨rfl,hs⟩;have Hi:=xw (l:=bB (rs.take k)) (t:=r.td);refine .zn fN (.bh rfl (fun iV=>?_) (fun iV=>?_))
  ·refine .region (.z zm (.y hs (zls [_,_] jT dw) (.o (.buildSlice (cells:=[_,_]) hs ke rfl rfl fun aaN w hs=>?_))));refine .o (.append (ys:=r.td.c) hs fK rfl rfl hO (.own .here rfl rfl) (by simp [TD.c,Value.oneCell']) (fun l h=>by rw [cj _ (sL _),fa] at h;omega) ?_);intro v30 en30 w dY hs;refine .zn zg (nB (nT (.region (.z zm (.z cH (.zn zg (nT ?_)))))));have hn:r.td∉bB (rs.take k):=fun hm=>by have:=Hi.2 hm;omega
   rw [←Ct,show bB (rs.take k)++[r.td]=bB (rs.take (k+1)) by rw [ON];unfold wb;rw [if_neg hn]] at dY;exact ⟨(k+1,v30),.cD rfl bH aH,⟨by dsimp only;omega,_,dY,hs.sb⟩,by dsimp only;omega⟩
  ·refine .skip (nB (nT (.region (.z zm (.z cH (.zn zg (nT ?_)))))));have hm:r.td∈bB (rs.take k):=Hi.1 ai;exact ⟨(k+1,_),.cD rfl bH aH,⟨by dsimp only;omega,en,by dsimp only;rw [ON];unfold wb;rw [if_pos hm];exact hO,hs.sb⟩,by dsimp only;omega⟩
 ·refine .exit (xT (xT (xB (nT (.af (.z zm (.zn zg (.ret (Fin.bj results96 rfl ?_)))))))));obtain rfl:k=rs.length:=by omega
  rw [List.take_length] at hO;have xC:=ew rs;obtain ⟨H2,bg,hR,hs⟩:=cU.dh (m:=2) (cs:=tdc (bB rs)) hO (sL _) ai (by rw [fa];omega) hs .here;rw [List.take_length];exact ⟨H2,bg,hR,hs⟩
theorem Cq(s:Spc)(i k:Nat):1+(i:Int)*(s.wa.length:Int)+(k:Int)=(s.u i k:Int):=by
 unfold Spc.u;rw [Int.natCast_add,Int.natCast_add,Int.natCast_mul];rfl
theorem Sb(s:Spc)(i k:Nat):1+((i:Int)+1)*(s.wa.length:Int)+(k:Int)=(s.u (i+1) k:Int):=by
 rw [←Cq];rfl
theorem Sa(s:Spc)(i k:Nat):1+(i:Int)*(s.wa.length:Int)+((k:Int)+1)=(s.u i (k+1):Int):=by
 rw [←Cq];rfl
theorem oy{f:Nat→Nat→List Lim}(hf:∀i k,(f i k).length≤2)(i:Nat):∀k,(pB f i k).length≤2*k
 |0=>by simp [pB]
 |k+1=>by have:=oy hf i k;have:=hf i k;simp only [pB,List.length_append];omega
theorem pA{f:Nat→Nat→List Lim}(hf:∀i k,(f i k).length≤2){m n:Nat}(hm:m≤7)(hn:n≤9)(h0:0<m):(fB f m n).length≤126:=by
 have h1:=jF hf (n:=n) h0;have:n*m≤9*7:=Nat.mul_le_mul hn hm;omega
theorem Rk(h0:0<s.st.length):fB (alL s) s.wa.length s.st.length=fB (alL s) s.wa.length (s.st.length - 1):=by
 obtain ⟨n,hn⟩:∃n,s.st.length=n+1:=⟨s.st.length - 1,ai⟩;have key:∀k,pB (alL s) n k=[]:=by
  intro k
  induction k with
  |zero=>rfl
  |succ k ih=>simp only [pB];rw [ih];unfold alL;rw [if_neg ai];rfl
 rw [hn,Nat.add_sub_cancel];simp only [fB];rw [key,List.append_nil]
theorem PL(i:Nat)(h0:0<s.wa.length):pB (upL s) i s.wa.length=pB (upL s) i (s.wa.length - 1):=by
 obtain ⟨n,hn⟩:∃n,s.wa.length=n+1:=⟨s.wa.length - 1,ai⟩;have e:upL s i n=[]:=by unfold upL;rw [if_neg ai]
 rw [hn,Nat.add_sub_cancel];simp only [pB];rw [e,List.append_nil]
set_option maxHeartbeats 4000000 in
theorem mC{w:World}{s:Srv}(hs:St H w σ)(h1:RI H cE s.sp.st)(h2:RI H cB s.sp.wa)(h3:RRd H vr s.rs)(h4:RCm H vc s.cs)(he:s.early):
  aaR 152 [.agg #[I s.sp.id,I s.sp.src,cE,cB,I s.sp.al,I s.sp.up,vr,vc]] w fun u w'=>∃H1 en,HLe H H1∧cU 4 u (jf s.df) en∧St H1 w' (en::σ):=by
 obtain ⟨gv,gu,rfl⟩:=RI.shape h1;obtain ⟨fq,fp,rfl⟩:=RI.shape h2;obtain ⟨ar,cr,rfl⟩:=RRd.shape h3;obtain ⟨ac,cc,rfl⟩:=RCm.shape h4;obtain ⟨aZ,BY,Et,OQ,Qs⟩:=he;have pG:=eM aZ;have yz:=aZ.st.many;have S7:=aZ.wa.many;have hn3:=aZ.st.two;have hn4:=aZ.wa.two;have ha:=pA (sH s.sp) (m:=s.sp.wa.length) (n:=s.sp.st.length) ai ai ai;have hb:=pA (xl s.sp) (m:=s.sp.wa.length) (n:=s.sp.st.length) ai ai ai;have hc:=pA (wD s.sp) (m:=s.sp.wa.length) (n:=s.sp.st.length) ai ai ai;have B4:=aZ.al;have Jj:=aZ.up;refine Cl.o func152 ntmps152 ag1 ?_;refine .af (.bx hs fun b1 w hs=>?_);refine .zn zg (.af (.z (zfa aW) (.y hs (zls [_,_,_,_,_,_] bE aP) (.o (.alloc hs oT rfl fun b3 w hs=>?_)))));refine .o (.aE (vs:=[_,_,_,_,_,_]) hs rfl rfl aP fun w hs=>?_);refine .nil (.af (.zn zg (.seq (.af (.zn zg (.block ?_))))));refine .loop (fun p:Nat×Value=>⟨243,[],[(5,I (p.1:Int)),(4,p.2),(3,Pt b3),(1,Pt b1)]⟩)
  (fun p w=>p.1≤s.sp.st.length∧∃en,cU 4 p.2 (jf (fB (wu s.sp) s.sp.wa.length p.1)) en∧St H w (en:: .blk b3 [I s.sp.id,I s.sp.src,.slice gv s.sp.st.length gu,.slice fq s.sp.wa.length fp,I s.sp.al,I s.sp.up]:: .blk b1 [I s.sp.id,I s.sp.src,.slice gv s.sp.st.length gu,.slice fq s.sp.wa.length fp,I s.sp.al,I s.sp.up,.slice ar s.rs.length cr,.slice ac s.cs.length cc]::σ)) (fun p=>s.sp.st.length - p.1) (0,.slice none 0 0) aH
  ⟨by first|omega|exact Nat.zero_le _,_,.nil 4 none,hs.nul⟩ ?_
 rintro ⟨i,vo⟩ w ⟨hi,en,hO,hs⟩;dsimp only at hi hO ⊢;refine .seq (.af (.z zm (.z (zfa bO) (.y hs (zld aq) (.z (de ae) (.zn fN (.bh rfl (fun qQ=>?_) (fun qQ=>?_))))))))
 ·refine .skip (nT (.seq (.block (.af (.zn zg (.block ?_))))));refine .loop (fun p:Nat×Value=>⟨243,[],[(6,I (p.1:Int)),(4,p.2),(5,I (i:Int)),(3,Pt b3),(1,Pt b1)]⟩)
   (fun p w=>p.1≤s.sp.wa.length∧∃en,cU 4 p.2 (jf (fB (wu s.sp) s.sp.wa.length i++pB (wu s.sp) i p.1)) en∧St H w (en:: .blk b3 [I s.sp.id,I s.sp.src,.slice gv s.sp.st.length gu,.slice fq s.sp.wa.length fp,I s.sp.al,I s.sp.up]:: .blk b1 [I s.sp.id,I s.sp.src,.slice gv s.sp.st.length gu,.slice fq s.sp.wa.length fp,I s.sp.al,I s.sp.up,.slice ar s.rs.length cr,.slice ac s.cs.length cc]::σ)) (fun p=>s.sp.wa.length - p.1) (0,vo) aH
   ⟨by first|omega|exact Nat.zero_le _,en,by show cU 4 vo (jf (_++[])) en;rw [List.append_nil];exact hO,hs⟩ ?_
  clear hO hs;rintro ⟨k,vo⟩ w ⟨hk,en,hO,hs⟩;dsimp only at hk hO ⊢;have Nt:=pA (sH s.sp) (m:=s.sp.wa.length) (n:=i) ai ai ai;have Ns:=oy (sH s.sp) i k;refine .seq (.af (.z zm (.z (zfa aQ) (.y hs (zld aq) (.z (de ae) (.zn fN (.bh rfl (fun jx=>?_) (fun jx=>?_))))))))
  ·refine .skip (nT (.seq (.block (.af (.y hs (zls [_,_,_,_,_,_] bE aP) (.z zm (.z zm (.o (.call DJ rfl (dN (s:=s.sp) hs h2 ai ⟨ai,ai⟩ ⟨ai,ai⟩) ?_)))))))));rintro _ w ⟨rfl,hs⟩;rw [Cq];refine .zn zg (.region (.z zm (.z zm (.z (zfa ez) (.y hs (zld aj) (.z (zbd [_,_,_,_] fD) (.z zm (.z (zfa ez) (.y hs (zld aj) (.z (zbd [_,_,_,_] fD) (.o (.buildSlice (cells:=jf (wu s.sp i k)) hs ij rfl aA fun Yt w hs=>?_))))))))))));refine .o (.append (ys:=jf (wu s.sp i k)) hs dk rfl rfl hO (.own .here rfl rfl) (od _) (fun l h=>by rw [fw,List.length_append] at h;omega) ?_);intro v51 en51 w dY hs;rw [←jS,List.append_assoc] at dY;exact .zn zg (nB (nT (.region (.z zm (.z cH (.zn zg (nT ⟨(k+1,v51),.cD rfl bH aH,⟨by dsimp only;omega,_,dY,hs.sb⟩,by dsimp only;omega⟩)))))))
  ·refine .exit (xT (xT (xB (nB (nT (.region (.z zm (.z cH (.zn zg (nT ?_))))))))));obtain rfl:k=s.sp.wa.length:=by omega
   exact ⟨(i+1,_),.cD rfl bH aH,⟨by dsimp only;omega,en,hO,hs⟩,by dsimp only;omega⟩
 ·refine .exit (xT (xT (xB (nT (.seq (.af (.zn zg (.block ?_))))))));refine .loop (fun p:Nat×Value=>⟨243,[],[(8,I (p.1:Int)),(4,p.2),(3,Pt b3),(1,Pt b1)]⟩)
   (fun p w=>p.1+1≤s.sp.st.length∧∃en,cU 4 p.2 (jf (fB (wu s.sp) s.sp.wa.length s.sp.st.length++fB (alL s.sp) s.sp.wa.length p.1)) en∧St H w (en:: .blk b3 [I s.sp.id,I s.sp.src,.slice gv s.sp.st.length gu,.slice fq s.sp.wa.length fp,I s.sp.al,I s.sp.up]:: .blk b1 [I s.sp.id,I s.sp.src,.slice gv s.sp.st.length gu,.slice fq s.sp.wa.length fp,I s.sp.al,I s.sp.up,.slice ar s.rs.length cr,.slice ac s.cs.length cc]::σ)) (fun p=>s.sp.st.length - p.1) (0,vo) aH
   ⟨by first|omega|exact Nat.zero_le _,en,by show cU 4 vo (jf (_++[])) en;rw [List.append_nil,←show i=s.sp.st.length by omega];exact hO,hs⟩ ?_
  clear hO hs;rintro ⟨i,vo⟩ w ⟨hi,en,hO,hs⟩;dsimp only at hi hO ⊢;refine .seq (.af (.z zm (.z cH (.z (zfa bO) (.y hs (zld aq) (.z (de ae) (.zn fN (.bh rfl (fun F7=>?_) (fun F7=>?_)))))))))
  ·refine .skip (nT (.seq (.block (.af (.zn zg (.block ?_))))));refine .loop (fun p:Nat×Value=>⟨243,[],[(9,I (p.1:Int)),(4,p.2),(8,I (i:Int)),(3,Pt b3),(1,Pt b1)]⟩)
    (fun p w=>p.1≤s.sp.wa.length∧∃en,cU 4 p.2 (jf (fB (wu s.sp) s.sp.wa.length s.sp.st.length++fB (alL s.sp) s.sp.wa.length i++pB (alL s.sp) i p.1)) en∧St H w (en:: .blk b3 [I s.sp.id,I s.sp.src,.slice gv s.sp.st.length gu,.slice fq s.sp.wa.length fp,I s.sp.al,I s.sp.up]:: .blk b1 [I s.sp.id,I s.sp.src,.slice gv s.sp.st.length gu,.slice fq s.sp.wa.length fp,I s.sp.al,I s.sp.up,.slice ar s.rs.length cr,.slice ac s.cs.length cc]::σ)) (fun p=>s.sp.wa.length - p.1) (0,vo) aH
    ⟨by first|omega|exact Nat.zero_le _,en,by show cU 4 vo (jf (_++[])) en;rw [List.append_nil];exact hO,hs⟩ ?_
   clear hO hs;rintro ⟨k,vo⟩ w ⟨hk,en,hO,hs⟩;dsimp only at hk hO ⊢;have Nt:=pA (xl s.sp) (m:=s.sp.wa.length) (n:=i) ai ai ai;have Ns:=oy (xl s.sp) i k;refine .seq (.af (.z zm (.z (zfa aQ) (.y hs (zld aq) (.z (de ae) (.zn fN (.bh rfl (fun Tr=>?_) (fun Tr=>?_))))))))
   ·refine .skip (nT (.seq (.block (.draw mix rfl hs fun w hs=>?_))));refine .zw 0 rfl zm ?_;refine .ys 1 rfl hs [_,_,_,_,_,_] bE aP ?_;refine .z 2 rfl zm ?_;refine .z 3 rfl zm ?_;refine .ys 5 rfl hs [_,_,_,_,_,_] bE aP ?_;refine .z 6 rfl zm ?_;refine .z 7 rfl cH ?_;refine .z 8 rfl zm ?_;refine .z 10 rfl (zfa eP) ?_;refine .z 11 rfl (zfa lr) ?_;refine .y 12 rfl hs aj ?_;refine .z 13 rfl (zfa bO) ?_;refine .y 14 rfl hs aq ?_;refine .z 15 rfl zm ?_;refine .z 16 rfl cH ?_;have Qg:=aZ.st.rise i ai;have IE:=aZ.st.bd (i:=i) ai;have Nn:=aZ.st.bd (i:=i+1) ai;refine .ixX (enc:=fun x=>[I x]) (i:=17) hs rfl aA .none h1 rfl rfl ae an (bu (l:=s.sp.st) (i:=(i+1)) ai) cK ?_;intro b84 o84 KT;replace KT:=bD.one KT;refine .r (i:=18) hs rfl aA .none (aC rfl aj KT) ?_;refine .zw 19 rfl (zfa bO) ?_;refine .y 20 rfl hs aq ?_;refine .z 21 rfl zm ?_;refine .ixX (enc:=fun x=>[I x]) (i:=22) hs rfl aA .none h1 rfl rfl ae an (bu (l:=s.sp.st) (i:=i) ai) cK ?_;intro b89 o89 Qv;replace Qv:=bD.one Qv;refine .r (i:=23) hs rfl aA .none (aC rfl aj Qv) ?_;refine .zw 24 rfl gx ?_;refine .z 26 rfl (zfa ez) ?_;refine .y 27 rfl hs aj ?_;refine .E 4 hs ?_;refine .call DJ rfl (dN (s:=s.sp) hs h2 ai ⟨ai,ai⟩ ⟨ai,ai⟩) ?_;rintro _ w ⟨rfl,hs⟩;rw [Cq];refine .go (.E 9 hs ?_);refine .call DJ rfl (dN (s:=s.sp) hs h2 ai ⟨ai,ai⟩ ⟨ai,ai⟩) ?_;rintro _ w ⟨rfl,hs⟩;rw [Sb];refine .go (.E 25 hs ?_);refine .call call211 rfl (pv hs ai ai) ?_;rintro _ w ⟨rfl,hs⟩;refine .go (.E 28 hs ?_);refine .call call210 rfl (nI hs) ?_;rintro _ w ⟨b95,rfl,hs⟩;rw [show two (s.sp.u i k:Int) _ _ _ _=alL s.sp i k by unfold alL;rw [if_pos ai]] at hs;refine .go (.E 29 hs ?_);refine .append (ys:=jf (alL s.sp i k)) hs dk rfl rfl hO (.own .here bH (by rw [fw];unfold alL;rw [if_pos ai];rfl)) (od _) (fun l h=>by rw [fw] at h;simp only [List.length_append] at h;omega) ?_;intro v96 en96 w dY hs;rw [←jS,List.append_assoc _ (pB _ _ _)] at dY;refine .go (.zw 30 rfl zg ?_);refine .D hs ?_;exact nB (nT (.region (.z zm (.z cH (.zn zg (nT ⟨(k+1,v96),.cD rfl bH aH,⟨by dsimp only;omega,_,dY,hs.sb⟩,by dsimp only;omega⟩))))))
   ·refine .exit (xT (xT (xB (nB (nT (.region (.z zm (.z cH (.zn zg (nT ?_))))))))));obtain rfl:k=s.sp.wa.length:=by omega
    rw [List.append_assoc] at hO;exact ⟨(i+1,_),.cD rfl bH aH,⟨by dsimp only;omega,en,hO,hs⟩,by dsimp only;omega⟩
  ·refine .exit (xT (xT (xB (nT (.seq (.af (.zn zg (.block ?_))))))));refine .loop (fun p:Nat×Value=>⟨243,[],[(10,I (p.1:Int)),(4,p.2),(3,Pt b3),(1,Pt b1)]⟩)
    (fun p w=>p.1≤s.sp.st.length∧∃en,cU 4 p.2 (jf (fB (wu s.sp) s.sp.wa.length s.sp.st.length++fB (alL s.sp) s.sp.wa.length s.sp.st.length++fB (upL s.sp) s.sp.wa.length p.1)) en∧St H w (en:: .blk b3 [I s.sp.id,I s.sp.src,.slice gv s.sp.st.length gu,.slice fq s.sp.wa.length fp,I s.sp.al,I s.sp.up]:: .blk b1 [I s.sp.id,I s.sp.src,.slice gv s.sp.st.length gu,.slice fq s.sp.wa.length fp,I s.sp.al,I s.sp.up,.slice ar s.rs.length cr,.slice ac s.cs.length cc]::σ)) (fun p=>s.sp.st.length - p.1) (0,vo) aH
    ⟨by first|omega|exact Nat.zero_le _,en,by show cU 4 vo (jf (_++[])) en;rw [List.append_nil,Rk ai,←show i=s.sp.st.length - 1 by omega];exact hO,hs⟩ ?_
   clear hO hs;rintro ⟨i,vo⟩ w ⟨hi,en,hO,hs⟩;dsimp only at hi hO ⊢;refine .seq (.af (.z zm (.z (zfa bO) (.y hs (zld aq) (.z (de ae) (.zn fN (.bh rfl (fun Lc=>?_) (fun Lc=>?_))))))))
   ·refine .skip (nT (.seq (.block (.af (.zn zg (.block ?_))))));refine .loop (fun p:Nat×Value=>⟨243,[],[(11,I (p.1:Int)),(4,p.2),(10,I (i:Int)),(3,Pt b3),(1,Pt b1)]⟩)
     (fun p w=>p.1+1≤s.sp.wa.length∧∃en,cU 4 p.2 (jf (fB (wu s.sp) s.sp.wa.length s.sp.st.length++fB (alL s.sp) s.sp.wa.length s.sp.st.length++fB (upL s.sp) s.sp.wa.length i++pB (upL s.sp) i p.1)) en∧St H w (en:: .blk b3 [I s.sp.id,I s.sp.src,.slice gv s.sp.st.length gu,.slice fq s.sp.wa.length fp,I s.sp.al,I s.sp.up]:: .blk b1 [I s.sp.id,I s.sp.src,.slice gv s.sp.st.length gu,.slice fq s.sp.wa.length fp,I s.sp.al,I s.sp.up,.slice ar s.rs.length cr,.slice ac s.cs.length cc]::σ)) (fun p=>s.sp.wa.length - p.1) (0,vo) aH
     ⟨by first|omega|exact Nat.zero_le _,en,by show cU 4 vo (jf (_++[])) en;rw [List.append_nil];exact hO,hs⟩ ?_
    clear hO hs;rintro ⟨k,vo⟩ w ⟨hk,en,hO,hs⟩;dsimp only at hk hO ⊢;have Nt:=pA (wD s.sp) (m:=s.sp.wa.length) (n:=i) ai ai ai;have Ns:=oy (wD s.sp) i k;refine .seq (.af (.z zm (.z cH (.z (zfa aQ) (.y hs (zld aq) (.z (de ae) (.zn fN (.bh rfl (fun EA=>?_) (fun EA=>?_)))))))))
    ·refine .skip (nT (.seq (.block (.draw mix rfl hs fun w hs=>?_))));refine .zw 0 rfl zm ?_;refine .ys 1 rfl hs [_,_,_,_,_,_] bE aP ?_;refine .z 2 rfl zm ?_;refine .z 3 rfl zm ?_;refine .ys 5 rfl hs [_,_,_,_,_,_] bE aP ?_;refine .z 6 rfl zm ?_;refine .z 7 rfl zm ?_;refine .z 8 rfl cH ?_;refine .z 10 rfl (zfa eP) ?_;refine .z 11 rfl (zfa lq) ?_;refine .y 12 rfl hs aj ?_;refine .z 13 rfl (zfa aQ) ?_;refine .y 14 rfl hs aq ?_;refine .z 15 rfl zm ?_;refine .z 16 rfl cH ?_;have Qg:=aZ.wa.rise k ai;have IE:=aZ.wa.bd (i:=k) ai;have Nn:=aZ.wa.bd (i:=k+1) ai;refine .ixX (enc:=fun x=>[I x]) (i:=17) hs rfl aA .none h2 rfl rfl ae an (bu (l:=s.sp.wa) (i:=(k+1)) ai) cK ?_;intro b129 o129 K8;replace K8:=bD.one K8;refine .r (i:=18) hs rfl aA .none (aC rfl aj K8) ?_;refine .zw 19 rfl (zfa aQ) ?_;refine .y 20 rfl hs aq ?_;refine .z 21 rfl zm ?_;refine .ixX (enc:=fun x=>[I x]) (i:=22) hs rfl aA .none h2 rfl rfl ae an (bu (l:=s.sp.wa) (i:=k) ai) cK ?_;intro YD o134 Hl;replace Hl:=bD.one Hl;refine .r (i:=23) hs rfl aA .none (aC rfl aj Hl) ?_;refine .zw 24 rfl gx ?_;refine .z 26 rfl (zfa ez) ?_;refine .y 27 rfl hs aj ?_;refine .E 4 hs ?_;refine .call DJ rfl (dN (s:=s.sp) hs h2 ai ⟨ai,ai⟩ ⟨ai,ai⟩) ?_;rintro _ w ⟨rfl,hs⟩;rw [Cq];refine .go (.E 9 hs ?_);refine .call DJ rfl (dN (s:=s.sp) hs h2 ai ⟨ai,ai⟩ ⟨ai,ai⟩) ?_;rintro _ w ⟨rfl,hs⟩;rw [Sa];refine .go (.E 25 hs ?_);refine .call call211 rfl (pv hs ai ai) ?_;rintro _ w ⟨rfl,hs⟩;refine .go (.E 28 hs ?_);refine .call call210 rfl (nI hs) ?_;rintro _ w ⟨YA,rfl,hs⟩;rw [show two (s.sp.u i k:Int) _ _ _ _=upL s.sp i k by unfold upL;rw [if_pos ai]] at hs;refine .go (.E 29 hs ?_);refine .append (ys:=jf (upL s.sp i k)) hs dk rfl rfl hO (.own .here bH (by rw [fw];unfold upL;rw [if_pos ai];rfl)) (od _) (fun l h=>by rw [fw] at h;simp only [List.length_append] at h;omega) ?_;intro v141 en141 w dY hs;rw [←jS,List.append_assoc _ (pB _ _ _)] at dY;refine .go (.zw 30 rfl zg ?_);refine .D hs ?_;exact nB (nT (.region (.z zm (.z cH (.zn zg (nT ⟨(k+1,v141),.cD rfl bH aH,⟨by dsimp only;omega,_,dY,hs.sb⟩,by dsimp only;omega⟩))))))
    ·refine .exit (xT (xT (xB (nB (nT (.region (.z zm (.z cH (.zn zg (nT ?_))))))))));obtain rfl:k=s.sp.wa.length - 1:=by omega
     rw [List.append_assoc,←PL i ai] at hO;exact ⟨(i+1,_),.cD rfl bH aH,⟨by dsimp only;omega,en,hO,hs⟩,by dsimp only;omega⟩
   ·refine .exit (xT (xT (xB (nT (.af (.z (zfa aN) (.y hs (zld dm) ?_)))))));obtain rfl:i=s.sp.st.length:=by omega
    refine .o (.call call96 rfl (jd hs h3 ai) ?_);rintro v144 w ⟨H1,az,hT,hs⟩;replace hT:RTd H1 v144 s.cQ:=hT;have xC:s.cQ.length≤60:=by have:=ew s.rs;unfold Srv.cQ;omega
    have Eo:∀r∈s.rs,r.td∈s.cQ:=fun r hr=>i6.2 ⟨r,hr,rfl⟩
    have Tb:s.df=fB (wu s.sp) s.sp.wa.length s.sp.st.length++fB (alL s.sp) s.sp.wa.length s.sp.st.length++fB (upL s.sp) s.sp.wa.length s.sp.st.length++C7 s.sp s.cQ.length++zf s.sp s.cQ s.cs 0 s.cs.length++AZ s.sp s.cQ s.rs s.rs.length:=rfl;generalize s.cQ=ts at*;obtain ⟨at_,ct,rfl⟩:=RTd.shape hT;refine .zn zg (.af (.y hs (zls [_,_,_,_,_,_] bE aP) (.o (.call Za rfl (eK (s:=s.sp) hs (h1.mono az) (h2.mono az) ⟨ai,ai⟩) ?_))));rintro _ w ⟨rfl,hs⟩;refine .zn zg (.seq (.af (.zn zg (.block ?_))));refine .loop (fun p:Nat×Value=>⟨243,[],[(14,I (p.1:Int)),(4,p.2),(12,.slice at_ ts.length ct),(13,I (s.sp.many:Int)),(3,Pt b3),(1,Pt b1)]⟩)
     (fun p w=>p.1≤ts.length∧∃en,cU 4 p.2 (jf (fB (wu s.sp) s.sp.wa.length s.sp.st.length++fB (alL s.sp) s.sp.wa.length s.sp.st.length++fB (upL s.sp) s.sp.wa.length s.sp.st.length++C7 s.sp p.1)) en∧St H1 w (en:: .blk b3 [I s.sp.id,I s.sp.src,.slice gv s.sp.st.length gu,.slice fq s.sp.wa.length fp,I s.sp.al,I s.sp.up]:: .blk b1 [I s.sp.id,I s.sp.src,.slice gv s.sp.st.length gu,.slice fq s.sp.wa.length fp,I s.sp.al,I s.sp.up,.slice ar s.rs.length cr,.slice ac s.cs.length cc]::σ)) (fun p=>ts.length - p.1) (0,vo) aH
     ⟨by first|omega|exact Nat.zero_le _,en,by show cU 4 vo (jf (_++[])) en;rw [List.append_nil];exact hO,hs⟩ ?_
    clear hO hs;rintro ⟨j,vo⟩ w ⟨hj,en,hO,hs⟩;dsimp only at hj hO ⊢;have ZQ:=lU s.sp j;refine .seq (.af (.z zm (.z zm (.z (de cf) (.zn fN (.bh rfl (fun Hk=>?_) (fun Hk=>?_)))))))
    ·refine .skip (nT (.seq (.block (.region (.z zm (.z zm (.z cH (.z zm (.z cH (.z (zfa ez) (.y hs (zld aj) (.o (.call call210 rfl (nI hs) ?_)))))))))))));rintro _ w ⟨b160,rfl,hs⟩;refine .o (.append (ys:=jf (two 0 ((s.sp.many:Int)+1+(j:Int)) 1000 1000 s.sp.src)) hs dk rfl rfl hO (.own .here rfl rfl) (od _) (fun l h=>by rw [fw] at h;simp only [List.length_append] at h;omega) ?_);intro v161 en161 w dY hs;rw [←jS,List.append_assoc _ (C7 _ _),show (s.sp.many:Int)+1+(j:Int)=((s.sp.many+1+j:Nat):Int) by omega] at dY;exact .zn zg (nB (nT (.region (.z zm (.z cH (.zn zg (nT ⟨(j+1,v161),.cD rfl bH aH,⟨by dsimp only;omega,_,dY,hs.sb⟩,by dsimp only;omega⟩)))))))
    ·refine .exit (xT (xT (xB (nT (.seq (.af (.zn zg (.block ?_))))))));refine .loop (fun p:Nat×Value=>⟨243,[],[(15,I (p.1:Int)),(4,p.2),(12,.slice at_ ts.length ct),(13,I (s.sp.many:Int)),(3,Pt b3),(1,Pt b1)]⟩)
      (fun p w=>p.1≤s.cs.length∧∃en,cU 4 p.2 (jf (fB (wu s.sp) s.sp.wa.length s.sp.st.length++fB (alL s.sp) s.sp.wa.length s.sp.st.length++fB (upL s.sp) s.sp.wa.length s.sp.st.length++C7 s.sp ts.length++zf s.sp ts s.cs 0 p.1)) en∧St H1 w (en:: .blk b3 [I s.sp.id,I s.sp.src,.slice gv s.sp.st.length gu,.slice fq s.sp.wa.length fp,I s.sp.al,I s.sp.up]:: .blk b1 [I s.sp.id,I s.sp.src,.slice gv s.sp.st.length gu,.slice fq s.sp.wa.length fp,I s.sp.al,I s.sp.up,.slice ar s.rs.length cr,.slice ac s.cs.length cc]::σ)) (fun p=>s.cs.length - p.1) (0,vo) aH
      ⟨by first|omega|exact Nat.zero_le _,en,by show cU 4 vo (jf (_++[])) en;rw [List.append_nil,←show j=ts.length by omega];exact hO,hs⟩ ?_
     clear hO hs;rintro ⟨i,vo⟩ w ⟨hi,en,hO,hs⟩;dsimp only at hi hO ⊢;have ZQ:=lU s.sp ts.length;have Xi:=lV s.sp ts s.cs 0 i;have Xh:i*(2*(ts.length - 0))≤20*(2*60):=Nat.mul_le_mul ai ai;refine .seq (.af (.z zm (.z (zfa cJ) (.y hs (zld jZ) (.z (de bL) (.zn fN (.bh rfl (fun Ty=>?_) (fun Ty=>?_))))))))
     ·refine .skip (nT (.seq (.block (.af (.zn zg (.block ?_))))));refine .loop (fun p:Nat×Value=>⟨243,[],[(16,I (p.1:Int)),(4,p.2),(15,I (i:Int)),(12,.slice at_ ts.length ct),(13,I (s.sp.many:Int)),(3,Pt b3),(1,Pt b1)]⟩)
       (fun p w=>p.1≤ts.length∧∃en,cU 4 p.2 (jf (fB (wu s.sp) s.sp.wa.length s.sp.st.length++fB (alL s.sp) s.sp.wa.length s.sp.st.length++fB (upL s.sp) s.sp.wa.length s.sp.st.length++C7 s.sp ts.length++zf s.sp ts s.cs 0 i++nR s.sp ts (Gm s.cs i) 0 p.1)) en∧St H1 w (en:: .blk b3 [I s.sp.id,I s.sp.src,.slice gv s.sp.st.length gu,.slice fq s.sp.wa.length fp,I s.sp.al,I s.sp.up]:: .blk b1 [I s.sp.id,I s.sp.src,.slice gv s.sp.st.length gu,.slice fq s.sp.wa.length fp,I s.sp.al,I s.sp.up,.slice ar s.rs.length cr,.slice ac s.cs.length cc]::σ)) (fun p=>ts.length - p.1) (0,vo) aH
       ⟨by first|omega|exact Nat.zero_le _,en,by show cU 4 vo (jf (_++[])) en;rw [List.append_nil];exact hO,hs⟩ ?_
      clear hO hs;rintro ⟨j,vo⟩ w ⟨hj,en,hO,hs⟩;dsimp only at hj hO ⊢;have Nt:=oE s.sp ts (Gm s.cs i) 0 j;refine .seq (.af (.z zm (.z zm (.z (de cf) (.zn fN (.bh rfl (fun Tw=>?_) (fun Tw=>?_)))))))
      ·refine .skip (nT (.seq (.block (.draw mix rfl hs fun w hs=>?_))));refine .zw 0 rfl zm ?_;refine .z 1 rfl (zfa cJ) ?_;refine .y 2 rfl hs jZ ?_;refine .z 3 rfl zm ?_;obtain ⟨c,hx⟩:=nth (l:=s.cs) (k:=i) ai;obtain ⟨t,ht⟩:=nth (l:=ts) (k:=j) ai;obtain ⟨g1,g2,g3,g4,g5,g6⟩:=Qs c (List.mem_of_getElem? hx);have ec:=LL hx;have et:=OA ht;refine .ixX (enc:=Cmp.c) (i:=4) hs rfl aA .none (h4.mono az) rfl rfl bL eg hx cK ?_;intro b179 o179 Ex;refine .r (i:=5) hs rfl aA .none (bQ (vs:=c.c) rfl isAgg153 eg Ex) ?_;refine .zw 6 rfl zm ?_;refine .z 7 rfl zm ?_;refine .ixX (enc:=TD.c) (i:=8) hs rfl aA .none hT rfl rfl cf dw ht cK ?_;intro b183 o183 Tv;refine .r (i:=9) hs rfl aA .none (bQ (vs:=t.c) rfl jT dw Tv) ?_;refine .zw 10 rfl zm ?_;refine .z 11 rfl cH ?_;refine .z 12 rfl zm ?_;refine .z 13 rfl cH ?_;refine .E 14 hs ?_;refine .call call212 rfl (zO (c:=c) (t:=t) hs ⟨ai,ai⟩) ?_;rintro v189 w ⟨en189,Ph,hs⟩;obtain ⟨a189,l189,c189,rfl,Yj⟩:=Ph.shape;refine .go (.E 15 hs ?_);refine .append (ys:=jf (oJ c t ((s.sp.many:Int)+1+(j:Int)))) hs dk rfl rfl hO (Src.VM Ph .here) (od _) (fun l h=>by rw [fw] at h;simp only [List.length_append] at h;have:=DL c t ((s.sp.many:Int)+1+(j:Int));rw [fw] at Yj;omega) ?_;intro v190 en190 w dY hs;rw [←jS,List.append_assoc _ (nR _ _ _ _ _),show nR s.sp ts (Gm s.cs i) 0 j++oJ c t ((s.sp.many:Int)+1+(j:Int))=nR s.sp ts (Gm s.cs i) 0 (j+1) by
        show _=_++oJ (Gm s.cs i) (td0 ts (0+j)) ((s.sp.many+1+(0+j):Nat):Int);rw [Nat.zero_add,ec,et,show ((s.sp.many+1+j:Nat):Int)=(s.sp.many:Int)+1+(j:Int) by omega]] at dY
       refine .go (.zw 16 rfl zg ?_);refine .D hs ?_;exact nB (nT (.region (.z zm (.z cH (.zn zg (nT ⟨(j+1,v190),.cD rfl bH aH,⟨by dsimp only;omega,_,dY,hs.sb⟩,by dsimp only;omega⟩))))))
      ·refine .exit (xT (xT (xB (nB (nT (.region (.z zm (.z cH (.zn zg (nT ?_))))))))));obtain rfl:j=ts.length:=by omega
       rw [List.append_assoc _ (zf _ _ _ _ _)] at hO;exact ⟨(i+1,_),.cD rfl bH aH,⟨by dsimp only;omega,en,hO,hs⟩,by dsimp only;omega⟩
     ·refine .exit (xT (xT (xB (nT (.seq (.af (.zn zg (.block ?_))))))));refine .loop (fun p:Nat×Value=>⟨243,[],[(17,I (p.1:Int)),(4,p.2),(12,.slice at_ ts.length ct),(13,I (s.sp.many:Int)),(3,Pt b3),(1,Pt b1)]⟩)
       (fun p w=>p.1≤s.rs.length∧∃en,cU 4 p.2 (jf (fB (wu s.sp) s.sp.wa.length s.sp.st.length++fB (alL s.sp) s.sp.wa.length s.sp.st.length++fB (upL s.sp) s.sp.wa.length s.sp.st.length++C7 s.sp ts.length++zf s.sp ts s.cs 0 s.cs.length++AZ s.sp ts s.rs p.1)) en∧St H1 w (en:: .blk b3 [I s.sp.id,I s.sp.src,.slice gv s.sp.st.length gu,.slice fq s.sp.wa.length fp,I s.sp.al,I s.sp.up]:: .blk b1 [I s.sp.id,I s.sp.src,.slice gv s.sp.st.length gu,.slice fq s.sp.wa.length fp,I s.sp.al,I s.sp.up,.slice ar s.rs.length cr,.slice ac s.cs.length cc]::σ)) (fun p=>s.rs.length - p.1) (0,vo) aH
       ⟨by first|omega|exact Nat.zero_le _,en,by show cU 4 vo (jf (_++[])) en;rw [List.append_nil,←show i=s.cs.length by omega];exact hO,hs⟩ ?_
      clear hO hs;rintro ⟨q,vo⟩ w ⟨hq,en,hO,hs⟩;dsimp only at hq hO ⊢;have Wq:=lR s.sp ts s.rs q;have hcl3:=lV s.sp ts s.cs 0 s.cs.length;have hcl4:s.cs.length*(2*(ts.length - 0))≤20*(2*60):=Nat.mul_le_mul ai ai;refine .seq (.af (.z zm (.z (zfa aN) (.y hs (zld dm) (.z (de aD) (.zn fN (.bh rfl (fun K0=>?_) (fun K0=>?_))))))))
      ·refine .skip (nT (.seq (.block (.af (.z (zfa aN) (.y hs (zld dm) (.z zm ?_)))))));obtain ⟨r,hx⟩:=nth (l:=s.rs) (k:=q) ai;obtain ⟨g1,g2,g3,g4,g5,g6,g7⟩:=OQ r (List.mem_of_getElem? hx);obtain ⟨m,k1,k2,k3⟩:=jA (Eo r (List.mem_of_getElem? hx));refine .ixX (enc:=Rdg.c) hs (h3.mono az) rfl rfl aD a6 hx cK ?_;intro Yv o201 O2;refine .q hs (bQ (vs:=(Rdg.c r)) rfl jU a6 O2) (.o (.alloc hs jy rfl fun xO w hs=>?_));refine .o (.aE (vs:=r.c) hs rfl rfl a6 fun w hs=>?_);change St _ _ (.blk xO [I r.src,I r.st,I r.wa,I r.val,I r.tol,I r.tape,I r.day]::_) at hs;refine .nil (.af (.y hs (zls [_,_,_,_,_,_] bE aP) (.z (zfa gY) (.y hs (zld aj) (.z (zfa gX) (.y hs (zld aj) (.o (.call DJ rfl (dN (s:=s.sp) hs (h2.mono az) ai ⟨ai,ai⟩ ⟨ai,ai⟩) ?_))))))));rintro _ w ⟨rfl,hs⟩;refine .zn zg (.af (.z zm (.z cH (.z zm (.z (zfa fh) (.y hs (zld aj) (.z (zfa fg) (.y hs (zld aj) (.z (zbd [_,_] jQ) (.o (.call call95 rfl (mD (t:=r.td) hs hT ai) ?_)))))))))));rintro _ w ⟨rfl,hs⟩;refine .z cH (.zn zg (.region (.z zm (.z zm (.z zm (.z (zfa dL) (.y hs (zld aj) (.z (zfa dB) (.y hs (zld aj) (.z cH (.z (zfa fi) (.y hs (zld aj) (.z (zbd [_,_,_,_] fD) (.z zm (.z zm (.z (zfa dB) (.y hs (zld aj) (.z (zfa dL) (.y hs (zld aj) (.z gx (.z (zfa fi) (.y hs (zld aj) (.z (zbd [_,_,_,_] fD) (.o (.buildSlice (cells:=jf (wP s.sp ts r)) hs ij rfl aA fun b240 w hs=>?_)))))))))))))))))))))))));refine .o (.append (ys:=jf (wP s.sp ts r)) hs dk rfl rfl hO (.own .here rfl rfl) (od _) (fun l h=>by rw [fw] at h;simp only [List.length_append] at h;omega) ?_);intro v241 en241 w dY hs;rw [←jS,List.append_assoc _ (AZ _ _ _ _),show AZ s.sp ts s.rs q++wP s.sp ts r=AZ s.sp ts s.rs (q+1) by rw [←JY hx];rfl] at dY;exact .zn zg (nB (nT (.region (.z zm (.z cH (.zn zg (nT ⟨(q+1,v241),.cD rfl bH aH,⟨by dsimp only;omega,_,dY,hs.sb⟩,by dsimp only;omega⟩)))))))
      ·refine .exit (xT (xT (xB (nT (.af (.z zm (.zn zg (.ret (Fin.bj results152 rfl ?_)))))))));obtain rfl:q=s.rs.length:=by omega
       exact ⟨H1,en,az,by rw [Tb];exact hO,hs.sb⟩
theorem ya{w:World}{s:Srv}(hs:St H w σ)(h1:RI H cE s.sp.st)(h2:RI H cB s.sp.wa)(h3:RRd H vr s.rs)(h4:RCm H vc s.cs)(he:s.early):
  aaR 205 [.agg #[I s.sp.id,I s.sp.src,cE,cB,I s.sp.al,I s.sp.up,vr,vc]] w fun u w'=>∃H1 vl en,HLe H H1∧u= .agg #[I s.sys.many,vl]∧cU 4 vl (jf s.df) en∧St H1 w' (en::σ):=by
 have pG:=eM he.1;have BY:=he.2.1;have xC:s.cQ.length≤60:=by have:=ew s.rs;unfold Srv.cQ;omega
 refine Cl.o func205 ntmps205 ag1 ?_;refine .af (.bx hs fun b1 w hs=>?_);refine .o (.alloc hs fk rfl fun b2 w hs=>?_);refine .nil (.seq (.draw mix rfl hs fun w hs=>?_));refine .zw 0 rfl (zfa aW) ?_;refine .ys 1 rfl hs [_,_,_,_,_,_] bE aP ?_;refine .z 3 rfl (zfa aN) ?_;refine .y 4 rfl hs dm ?_;refine .ys 8 rfl hs [_,_,_,_,_,_,_,_] bA aM ?_;refine .E 2 hs ?_;refine .call Za rfl (eK (s:=s.sp) hs h1 h2 ⟨ai,ai⟩) ?_;rintro _ w ⟨rfl,hs⟩;refine .go (.E 5 hs ?_);refine .call call96 rfl (jd hs h3 ai) ?_;rintro v8 w ⟨H1,az,hT,hs⟩;replace hT:RTd H1 v8 s.cQ:=hT;obtain ⟨at_,ct,rfl⟩:=RTd.shape hT;refine .go (.zw 6 rfl (de cf) ?_);refine .z 7 rfl cH ?_;refine .E 9 hs ?_;refine .call call152 rfl (mC (s:=s) hs (h1.mono az) (h2.mono az) (h3.mono az) (h4.mono az) he) ?_;rintro v12 w ⟨H2,en,bg,hO,hs⟩;obtain ⟨al,ll,cl,rfl,wq⟩:=hO.shape;refine .go (.zw 10 rfl (zbd [_,_] kl) (.E 11 hs ?_));refine .aE (vs:=[_,_]) hs rfl rfl aV ?_;intro w hs;refine .go (.D hs (.ret ?_));replace hs:St H2 w (.blk b2 [I ((s.sp.many:Int)+(s.cQ.length:Int)),.slice al ll cl]::en::σ):=hs.sb;exact Fin.iT [] [] hs fun w hs=>⟨_,results1 results205 (dp (vs:=[_,_]) hs rfl cn aV),H2,_,en,az.trans bg,by show _=Value.agg #[I ((s.sp.many+s.cQ.length:Nat):Int),_];rw [Int.natCast_add],hO,hs.tail⟩
theorem lP{w:World}{s:Srv}(hs:St H w σ)(h1:RI H cE s.sp.st)(h2:RI H cB s.sp.wa)(h3:RRd H vr s.rs)(h4:RCm H vc s.cs)(he:s.early):
  aaR 205 [.agg #[I s.sp.id,I s.sp.src,cE,cB,I s.sp.al,I s.sp.up,vr,vc]] w fun u w'=>∃H1,HLe H H1∧RSy H1 u s.sys∧St H1 w' σ:=by
 refine (ya hs h1 h2 h3 h4 he).mono ?_;rintro u w' ⟨H1,vl,en,hle,rfl,hO,hs⟩;have hl:=l6 he 6 ai;rw [s.z7] at hl;obtain ⟨H2,bg,hR,hs⟩:=cU.dh (m:=4) (cs:=s.df.map Lim.c) hO (fun c hc=>by simp only [List.mem_map] at hc;obtain ⟨x,_,rfl⟩:=hc;rfl) ai (by rw [List.length_map];omega) hs .here;exact ⟨H2,hle.trans bg,⟨vl,rfl,hR⟩,hs⟩
set_option maxHeartbeats 1000000 in
theorem mE{w:World}{s:Srv}(hs:St H w σ)(h1:RI H cE s.sp.st)(h2:RI H cB s.sp.wa)(h3:RRd H vr s.rs)(h4:RCm H vc s.cs):
  aaR 123 [.agg #[I s.sp.id,I s.sp.src,cE,cB,I s.sp.al,I s.sp.up,vr,vc]] w fun u w'=>∃H1 e,HLe H H1∧u=I e∧Cg s e∧St H1 w' σ:=by
 obtain ⟨gv,gu,rfl⟩:=RI.shape h1;obtain ⟨fq,fp,rfl⟩:=RI.shape h2;obtain ⟨ar,cr,rfl⟩:=RRd.shape h3;obtain ⟨ac,cc,rfl⟩:=RCm.shape h4;refine Cl.o func123 ntmps123 ag1 ?_;refine .af (.bx hs fun b1 w hs=>?_);refine .zn zg (.seq (.af (.z (zfa aW) (.y hs (zls [_,_,_,_,_,_] bE aP) (.o (.call call113 rfl (jD (s:=s.sp) hs h1 h2) ?_))))));rintro _ w ⟨e,rfl,he,hs⟩;refine .zn fV (.dK rfl (fun ur=>?_) (fun ur=>?_))
 ·refine .af (.zn zg (.ret (rT (Fin.bj xp rfl ?_))));have hq:¬ft s.sp∧e=30:=he.resolve_left fun h=>ur h.2
  exact ⟨H,_,HLe.refl H,rfl,.space hq.1,hs.out⟩
 ·refine .skip (nT (.seq (.af (.z (zfa aN) ?_))));have aZ:ft s.sp:=(he.resolve_right fun h=>by omega).1;refine .y hs (zld dm) (.z (de aD) (.z kU (.z zm (.iz (t':=13) rfl (fun xa=>?_) (fun xa=>?_)))))
  ·exact .Fs 4 4 false (.zn zpT (.cT (.af (.zn zg (.ret (rT (Fin.bj xp rfl ⟨H,_,HLe.refl H,rfl,.long aZ ai,hs.out⟩)))))))
  ·refine .T (.z (zfa cJ) (.T (.y hs (zld jZ) (.T (.z (de bL) (.T (.z kU (.zn zpF (.bh rfl (fun ib=>?_) (fun ib=>?_))))))))))
   ·exact .af (.zn zg (.ret (rT (Fin.bj xp rfl ⟨H,_,HLe.refl H,rfl,.long aZ ai,hs.out⟩))))
   ·refine .skip (nT (.seq (.af (.zn zg (.block ?_)))));refine .loop (fun k:Nat=>⟨64,[],[(3,I (k:Int)),(1,Pt b1)]⟩)
     (fun k w=>k≤s.rs.length∧(∀j<k,∀y,s.rs[j]? =some y→pV s.sp y)∧St H w (.blk b1 [I s.sp.id,I s.sp.src,.slice gv s.sp.st.length gu,.slice fq s.sp.wa.length fp,I s.sp.al,I s.sp.up,.slice ar s.rs.length cr,.slice ac s.cs.length cc]::σ)) (fun k=>s.rs.length - k) 0 aH
     ⟨Nat.zero_le _,fun j hj=>by omega,hs⟩ ?_
    rintro k w ⟨hk,eE,hs⟩;refine .seq (.af (.z zm (.z (zfa aN) (.y hs (zld dm) (.z (de aD) (.zn fN (.bh rfl (fun mK=>?_) (fun mK=>?_))))))))
    ·refine .skip (nT (.seq (.block (.seq (.draw mix rfl hs fun w hs=>?_)))));refine .zw 0 rfl (zfa aW) ?_;refine .ys 1 rfl hs [_,_,_,_,_,_] bE aP ?_;refine .z 2 rfl (zfa aN) ?_;refine .y 3 rfl hs dm ?_;refine .z 4 rfl zm ?_;obtain ⟨r,hx⟩:=nth (l:=s.rs) (k:=k) ai;refine .ixX (enc:=Rdg.c) (i:=5) hs rfl aA .none h3 rfl rfl aD a6 hx cK ?_;intro Mc o31 nk;refine .r (i:=6) hs rfl aA .none (bQ (vs:=r.c) rfl jU a6 nk) ?_;refine .E 7 hs ?_;refine .call call150 rfl (k7 (s:=s.sp) (r:=r) hs h1 h2) ?_;rintro _ w ⟨Uq,rfl,NL,hs⟩;refine .go (.zw 8 rfl fU ?_);refine .D hs ?_;refine (.cond rfl (fun jx=>?_) (fun jx=>?_))
     ·exact .af (.zn zg (.ret (rB (rT (rT (rB (rT (Fin.bj xp rfl ⟨H,_,HLe.refl H,rfl,.rdg aZ ai (fun h=>by rw [NL.2 (h r (List.mem_of_getElem? hx))] at jx;cases jx),hs.out⟩))))))))
     ·exact .skip (nB (nT (.region (.z zm (.z cH (.zn zg (nT ⟨k+1,.cD rfl bH aH,⟨ai,fH eE hx (NL.1 (by simpa using jx)),hs⟩,ai⟩)))))))
    ·refine .exit (xT (xT (xB (nT (.seq (.af (.zn zg (.block ?_))))))));have OQ:∀r∈s.rs,pV s.sp r:=fun r hr=>by
      obtain ⟨j,hj⟩:=List.getElem?_of_mem hr;have:=(List.getElem?_eq_some_iff.1 hj).1;exact eE j ai r hj
     clear eE;refine .loop (fun k:Nat=>⟨64,[],[(4,I (k:Int)),(1,Pt b1)]⟩)
      (fun k w=>k≤s.cs.length∧(∀j<k,∀y,s.cs[j]? =some y→uk y)∧St H w (.blk b1 [I s.sp.id,I s.sp.src,.slice gv s.sp.st.length gu,.slice fq s.sp.wa.length fp,I s.sp.al,I s.sp.up,.slice ar s.rs.length cr,.slice ac s.cs.length cc]::σ)) (fun k=>s.cs.length - k) 0 aH
      ⟨Nat.zero_le _,fun j hj=>by omega,hs⟩ ?_
     rintro i w ⟨hi,eE,hs⟩;refine .seq (.af (.z zm (.z (zfa cJ) (.y hs (zld jZ) (.z (de bL) (.zn fN (.bh rfl (fun kd=>?_) (fun kd=>?_))))))))
     ·refine .skip (nT (.seq (.block (.af (.z (zfa cJ) (.y hs (zld jZ) (.z zm ?_)))))));obtain ⟨c,hx⟩:=nth (l:=s.cs) (k:=i) ai;refine .ixX (enc:=Cmp.c) hs h4 rfl rfl bL eg hx cK ?_;intro Vr o45 Bo;refine .q hs (bQ (vs:=(Cmp.c c)) rfl isAgg153 eg Bo) (.o (.call call176 rfl (pY (c:=c) hs) ?_));rintro _ w ⟨Rf,rfl,NH,hs⟩;refine .zn fU (.cond rfl (fun mI=>?_) (fun mI=>?_))
      ·exact .af (.zn zg (.ret (rB (rT (rT (rB (rT (Fin.bj xp rfl ⟨H,_,HLe.refl H,rfl,.cmp aZ ai OQ (fun h=>by rw [NH.2 (h c (List.mem_of_getElem? hx))] at mI;cases mI),hs.out⟩))))))))
      ·exact .skip (nB (nT (.region (.z zm (.z cH (.zn zg (nT ⟨i+1,.cD rfl bH aH,⟨ai,fH eE hx (NH.1 (by simpa using mI)),hs⟩,ai⟩)))))))
     ·refine .exit (xT (xT (xB (nT (.seq (.seq (.draw mix rfl hs fun w hs=>?_)))))));refine .zw 0 rfl (zfa aW) ?_;refine .ys 1 rfl hs [_,_,_,_,_,_] bE aP ?_;refine .z 3 rfl (zfa aN) ?_;refine .y 4 rfl hs dm ?_;refine .E 2 hs ?_;have Qs:∀c∈s.cs,uk c:=fun c hc=>by
       obtain ⟨j,hj⟩:=List.getElem?_of_mem hc;have:=(List.getElem?_eq_some_iff.1 hj).1;exact eE j ai c hj
      have IL:s.early:=⟨aZ,ai,ai,OQ,Qs⟩;have pG:=eM aZ;have BY:=IL.2.1;have xC:s.cQ.length≤60:=by have:=ew s.rs;unfold Srv.cQ;omega
      have wq:=l6 IL 6 ai;rw [s.z7] at wq;refine .call Za rfl (eK (s:=s.sp) hs h1 h2 ⟨ai,ai⟩) ?_;rintro _ w ⟨rfl,hs⟩;refine .go (.E 5 hs ?_);refine .call call96 rfl (jd hs h3 ai) ?_;rintro v54 w ⟨H1,az,hT,hs⟩;replace hT:RTd H1 v54 s.cQ:=hT;obtain ⟨at_,ct,rfl⟩:=RTd.shape hT;refine .go (.zw 6 rfl (de cf) ?_);refine .z 7 rfl cH ?_;refine .z 8 rfl kU ?_;refine .z 9 rfl zm ?_;refine .iz (t':=58) rfl (fun yD=>?_) (fun yD=>?_)
      ·refine .F 10 rfl (.F 11 rfl (.F 12 rfl (.F 13 rfl (.zw 14 rfl zpT ?_))));refine .D hs ?_;exact (.cT (.af (.zn zg (.ret (rT (Fin.bj xp rfl ⟨H1,_,az,rfl,.big IL ai,hs.out⟩))))))
      ·refine .zv 10 rfl hs (G7 [_,_,_,_,_,_,_,_] bA aM) (.E 11 hs ?_);refine .call call152 rfl (mC (s:=s) hs (h1.mono az) (h2.mono az) (h3.mono az) (h4.mono az) IL) ?_;rintro v60 w ⟨H2,en,bg,hO,hs⟩;obtain ⟨al,ll,cl,rfl,WY⟩:=hO.shape;rw [fw] at WY;refine .go (.zw 12 rfl (de aO) ?_);refine .z 13 rfl kU ?_;refine .z 14 rfl zpF ?_;refine .D hs ?_;refine (.bh rfl (fun pK=>?_) (fun pK=>?_))
       ·exact .af (.zn zg (.ret (rT (Fin.bj xp rfl ⟨H2,_,az.trans bg,rfl,.big IL ai,hs.out⟩))))
       ·exact .skip (nT (.af (.zn zg (.ret (Fin.bj xp rfl ⟨H2,_,az.trans bg,rfl,.ok IL ⟨ai,ai⟩,hs.out⟩)))))
theorem lK{w:World}{q:Wht}(hs:St H w σ)(h2:RI H cB s.wa):
  aaR 230 [.agg #[I q.kind,I q.st,I q.wa,I s.id,I s.src,cE,cB,I s.al,I s.up]] w fun v w'=>v= .bool (decide (0≤q.wa∧q.wa≤(s.wa.length:Int) - 1))∧St H w' σ:=by
 obtain ⟨fq,fp,rfl⟩:=RI.shape h2;have l2:=(RI.len h2).2.2;refine Cl.o func230 ntmps230 ag1 ?_;refine .af (.bx hs fun b1 w hs=>?_);refine .zn zg (.af (.z (zfa dA) (.z (zfa eF) (.y hs (zld aj) (.z (zfa gG) (.z (zfa aQ) (.y hs (zld aq) (.z (de ae) (.z gx (.o (.call jq rfl (bM hs) ?_)))))))))));rintro _ w ⟨rfl,hs⟩;exact .zn zg (.ret (Fin.bj results230 rfl ⟨rfl,hs.out⟩))
theorem nG{w:World}{q:Wht}(hs:St H w σ)(h1:RI H cE s.st):
  aaR 235 [.agg #[I q.kind,I q.st,I q.wa,I s.id,I s.src,cE,cB,I s.al,I s.up]] w fun v w'=>v= .bool (decide (0≤q.st∧q.st≤(s.st.length:Int) - 1))∧St H w' σ:=by
 obtain ⟨gv,gu,rfl⟩:=RI.shape h1;have l1:=(RI.len h1).2.2;refine Cl.o func235 ntmps235 ag1 ?_;refine .af (.bx hs fun b1 w hs=>?_);refine .zn zg (.af (.z (zfa dA) (.z (zfa fC) (.y hs (zld aj) (.z (zfa gG) (.z (zfa bO) (.y hs (zld aq) (.z (de ae) (.z gx (.o (.call jq rfl (bM hs) ?_)))))))))));rintro _ w ⟨rfl,hs⟩;exact .zn zg (.ret (Fin.bj results235 rfl ⟨rfl,hs.out⟩))
theorem q9{q:Wht}:gR s q↔(q.kind=1∧q.st=0∧s.isW q∧0<q.wa)∨(q.kind=2∧q.st=0∧s.isW q)∨(q.kind=3∧q.wa=0∧s.isS q)∨(q.kind=4∧s.isS q∧s.isW q):=by
 constructor
 ·intro h
  cases h with
  |litres a b c d=>exact .inl ⟨a,b,c,d⟩
  |plane a b c=>exact .inr (.inl ⟨a,b,c⟩)
  |section_ a b c=>exact .inr (.inr (.inl ⟨a,b,c⟩))
  |offset a b c=>exact .inr (.inr (.inr ⟨a,b,c⟩))
 ·rintro (⟨a,b,c,d⟩|⟨a,b,c⟩|⟨a,b,c⟩|⟨a,b,c⟩)
  ·exact .litres a b c d
  ·exact .plane a b c
  ·exact .section_ a b c
  ·exact .offset a b c
theorem Eg{w:World}{q:Wht}(hs:St H w σ)(h2:RI H cB s.wa)(hk:q.kind=1):
  aaR 229 [.agg #[I q.kind,I q.st,I q.wa,I s.id,I s.src,cE,cB,I s.al,I s.up]] w fun v w'=>∃b:Bool,v= .bool b∧(b=true↔gR s q)∧St H w' σ:=by
 have hi:=q9 (s:=s) (q:=q);simp only [Spc.isW,Spc.isS] at hi;refine Cl.o func229 ntmps229 ag1 ?_;refine .af (.bx hs fun b1 w hs=>?_);refine .zn zg (.af (.y hs (zls [_,_,_,_,_,_,_,_,_] PF BE) (.o (.call call230 rfl (lK hs h2) ?_))));rintro _ w ⟨rfl,hs⟩;refine .z zm (.bif (t':=5) rfl (fun QF=>?_) (fun QF=>?_))
 ·refine .T (.z (zfa dA) (.T (.z (zfa eF) (.T (.y hs (zld aj) (.T (.z kU (.z zpT (.z zm (.iz (t':=11) rfl (fun oO=>?_) (fun oO=>?_)))))))))))
  ·exact .T (.z (zfa dA) (.T (.z (zfa fC) (.T (.y hs (zld aj) (.T (.z fy (.z zpT (.zn zg (.ret (Fin.bj results229 rfl ⟨_,rfl,by rw [hi];simp_all<;>omega,hs.out⟩)))))))))))
  ·exact .Fs 4 8 true (.z zpF (.zn zg (.ret (Fin.bj results229 rfl ⟨_,rfl,by rw [hi];simp_all<;>omega,hs.out⟩))))
 ·exact .Fs 4 2 true (.z zpF (.z zm (.Fs 4 8 true (.z zpF (.zn zg (.ret (Fin.bj results229 rfl ⟨_,rfl,by rw [hi];simp_all<;>omega,hs.out⟩)))))))
theorem Ef{w:World}{q:Wht}(hs:St H w σ)(h2:RI H cB s.wa)(hk:q.kind=2):
  aaR 232 [.agg #[I q.kind,I q.st,I q.wa,I s.id,I s.src,cE,cB,I s.al,I s.up]] w fun v w'=>∃b:Bool,v= .bool b∧(b=true↔gR s q)∧St H w' σ:=by
 have hi:=q9 (s:=s) (q:=q);simp only [Spc.isW,Spc.isS] at hi;refine Cl.o func232 ntmps232 ag1 ?_;refine .af (.bx hs fun b1 w hs=>?_);refine .zn zg (.af (.y hs (zls [_,_,_,_,_,_,_,_,_] PF BE) (.o (.call call230 rfl (lK hs h2) ?_))));rintro _ w ⟨rfl,hs⟩;refine .z zm (.bif (t':=5) rfl (fun QF=>?_) (fun QF=>?_))
 ·exact .T (.z (zfa dA) (.T (.z (zfa fC) (.T (.y hs (zld aj) (.T (.z fy (.z zpT (.zn zg (.ret (Fin.bj results232 rfl ⟨_,rfl,by rw [hi];simp_all<;>omega,hs.out⟩)))))))))))
 ·exact .Fs 4 2 true (.z zpF (.zn zg (.ret (Fin.bj results232 rfl ⟨_,rfl,by rw [hi];simp_all<;>omega,hs.out⟩))))
theorem Ee{w:World}{q:Wht}(hs:St H w σ)(h1:RI H cE s.st)(hk:q.kind=3):
  aaR 234 [.agg #[I q.kind,I q.st,I q.wa,I s.id,I s.src,cE,cB,I s.al,I s.up]] w fun v w'=>∃b:Bool,v= .bool b∧(b=true↔gR s q)∧St H w' σ:=by
 have hi:=q9 (s:=s) (q:=q);simp only [Spc.isW,Spc.isS] at hi;refine Cl.o func234 ntmps234 ag1 ?_;refine .af (.bx hs fun b1 w hs=>?_);refine .zn zg (.af (.y hs (zls [_,_,_,_,_,_,_,_,_] PF BE) (.o (.call call235 rfl (nG hs h1) ?_))));rintro _ w ⟨rfl,hs⟩;refine .z zm (.bif (t':=5) rfl (fun QF=>?_) (fun QF=>?_))
 ·exact .T (.z (zfa dA) (.T (.z (zfa eF) (.T (.y hs (zld aj) (.T (.z fy (.z zpT (.zn zg (.ret (Fin.bj results234 rfl ⟨_,rfl,by rw [hi];simp_all<;>omega,hs.out⟩)))))))))))
 ·exact .Fs 4 2 true (.z zpF (.zn zg (.ret (Fin.bj results234 rfl ⟨_,rfl,by rw [hi];simp_all<;>omega,hs.out⟩))))
theorem Ed{w:World}{q:Wht}(hs:St H w σ)(h1:RI H cE s.st)(h2:RI H cB s.wa)(hk:q.kind=4):
  aaR 237 [.agg #[I q.kind,I q.st,I q.wa,I s.id,I s.src,cE,cB,I s.al,I s.up]] w fun v w'=>∃b:Bool,v= .bool b∧(b=true↔gR s q)∧St H w' σ:=by
 have hi:=q9 (s:=s) (q:=q);simp only [Spc.isW,Spc.isS] at hi;refine Cl.o func237 ntmps237 ag1 ?_;refine .af (.bx hs fun b1 w hs=>?_);refine .zn zg (.af (.y hs (zls [_,_,_,_,_,_,_,_,_] PF BE) (.o (.call call235 rfl (nG hs h1) ?_))));rintro _ w ⟨rfl,hs⟩;refine .z zm (.bif (t':=5) rfl (fun QF=>?_) (fun QF=>?_))
 ·refine .T (.y hs (zls [_,_,_,_,_,_,_,_,_] PF BE) (.T (.o (.call call230 rfl (lK hs h2) ?_))));rintro _ w ⟨rfl,hs⟩;exact .z zpT (.zn zg (.ret (Fin.bj results237 rfl ⟨_,rfl,by rw [hi];simp_all<;>omega,hs.out⟩)))
 ·exact .Fs 2 2 true (.z zpF (.zn zg (.ret (Fin.bj results237 rfl ⟨_,rfl,by rw [hi];simp_all<;>omega,hs.out⟩))))
theorem xR{w:World}{q:Wht}{u:Int}(hs:St H w σ)(h1:RI H cE s.st)(h2:RI H cB s.wa)(aZ:ft s)(hq:gR s q)(Ep:q.kind=1)(hi:i<s.st.length):
  aaR 231 [.agg #[I q.kind,I q.st,I q.wa,I s.id,I s.src,cE,cB,I s.al,I s.up],.agg #[I (i:Int),I (k:Int),I u]] w fun v w'=>∃H1,HLe H H1∧v=I (mA s q i k)∧St H1 w' σ:=by
 obtain ⟨gv,gu,rfl⟩:=RI.shape h1;obtain ⟨fq,fp,rfl⟩:=RI.shape h2;have hn:=aZ.wa.many;have yB:=(RI.len h2).2.1;obtain ⟨_,hw1,V3,hw3⟩:q.st=0∧0<q.wa∧0≤q.wa∧q.wa≤(s.wa.length:Int) - 1:=by
  rcases q9.1 hq with h|h|h|h
  ·exact ⟨h.2.1,h.2.2.2,h.2.2.1.1,h.2.2.1.2⟩
  all_goals omega
 obtain ⟨m,hm⟩:∃m:Nat,q.wa=m:=⟨q.wa.toNat,ai⟩;have hW:mA s q i k=if (k:Int)≤q.wa then gi (wts s.st) i*gi (wts (s.wa.take (q.wa.toNat+1))) k else 0:=by unfold mA;rw [if_pos Ep]
 have WQ:q.wa.toNat=m:=by omega
 rw [WQ] at hW;refine Cl.o func231 ntmps231 ag2 ?_;refine .af (.bx hs fun b2 w hs=>?_);refine .bx hs fun b3 w hs=>?_
 refine .zn zg (.seq (.af (.z (zfa dt) (.y hs (zld aj) (.z (zfa dA) (.z (zfa eF) (.y hs (zld aj) (.zn kU (.bh rfl (fun fl=>?_) (fun fl=>?_))))))))))
 ·exact .af (.zn zg (.ret (rT (Fin.bj results231 rfl ⟨H,HLe.refl H,by rw [hW,if_neg ai],hs.out⟩))))
 ·refine .skip (nT (.seq (.draw mix rfl hs fun w hs=>?_)));refine .zw 0 rfl (zfa gG) ?_;refine .z 1 rfl (zfa bO) ?_;refine .y 2 rfl hs aq ?_;refine .z 3 rfl (zfa gG) ?_;refine .z 4 rfl (zfa aQ) ?_;refine .y 5 rfl hs aq ?_;refine .z 6 rfl (zfa dA) ?_;refine .z 7 rfl (zfa eF) ?_;refine .y 8 rfl hs aj ?_;refine .z 9 rfl cH ?_;refine .zw 10 rfl (rE (k:=m+1) rfl rfl ae an ai ai) (.E 11 hs ?_);have hP:fP 7 15000 (s.wa.take (m+1)):=aZ.wa.take ai ai;refine .call call163 rfl (rf hs h1 (h2.head (k:=m+1) ai)) ?_;rintro _ w ⟨H1,vo,e,az,rfl,T9,-,hs⟩;obtain ⟨rfl,hG⟩:=T9 ⟨aZ.st,hP⟩;have U8:=mc (wts s.st) (wts (s.wa.take (m+1))) s.st.length;have yZ:(wts (s.wa.take (m+1))).length=m+1:=by rw [fu,List.length_take];omega
  have W7:=C0 (X:=wts s.st) (Y:=wts (s.wa.take (m+1))) (n:=s.st.length) hi;have RJ:=Hv (X:=wts s.st) (Y:=wts (s.wa.take (m+1))) (n:=s.st.length) (k:=k) hi ai;have BY:=lM (wts s.st) (wts (s.wa.take (m+1))) i;rw [←W7] at BY;generalize pR (wts s.st) (wts (s.wa.take (m+1))) s.st.length=G at*;obtain ⟨aG,cG,rfl⟩:=hG.shape;refine .go (.zw 12 rfl zm ?_);refine .z 13 rfl zex ?_;refine .z 14 rfl zex ?_;refine .z 15 rfl zg ?_;refine .z 16 rfl zg ?_;refine .D hs ?_;refine .seq (.draw mix rfl hs fun w hs=>?_);refine .zw 0 rfl zm ?_;refine .z 1 rfl (zfa du) ?_;refine .y 2 rfl hs aj ?_;refine .ixT (i:=3) hs rfl aA .none hG rfl rfl au aI (show i<_ by omega) cK ?_;intro Mc o31 a31 c31 nk X3;refine .r (i:=4) hs rfl aA .none (aC rfl aq nk) ?_;refine .zw 5 rfl (zfa dt) ?_;refine .y 6 rfl hs aj ?_;refine .ixX (enc:=fun x=>[I x]) (i:=7) hs rfl aA .none X3 rfl rfl ae an (bu (l:=(gr G i)) (i:=k) ai) cK ?_;intro Oa o35 nj;replace nj:=bD.one nj;refine .r (i:=8) hs rfl aA .none (aC rfl aj nj) ?_;refine .zw 9 rfl zg ?_;refine .D hs ?_;exact .ret (Fin.bj results231 rfl ⟨H1,az,by rw [hW,if_pos ai,←RJ];rfl,hs.out⟩)
theorem zq{w:World}{q:Wht}{u:Int}(hs:St H w σ)(h1:RI H cE s.st)(aZ:ft s)(Ep:q.kind=2)(hi:i<s.st.length):
  aaR 233 [.agg #[I q.kind,I q.st,I q.wa,I s.id,I s.src,cE,cB,I s.al,I s.up],.agg #[I (i:Int),I (k:Int),I u]] w fun v w'=>∃H1,HLe H H1∧v=I (mA s q i k)∧St H1 w' σ:=by
 have hW:mA s q i k=if (k:Int)=q.wa then gi (wts s.st) i else 0:=by unfold mA;rw [if_neg ai,if_pos Ep]
 have hl:=fu s.st;refine Cl.o func233 ntmps233 ag2 ?_;refine .af (.bx hs fun b2 w hs=>?_);refine .bx hs fun b3 w hs=>?_
 refine .zn zg (.seq (.af (.z (zfa dt) (.y hs (zld aj) (.z (zfa dA) (.z (zfa eF) (.y hs (zld aj) (.zn fV (.dK rfl (fun fl=>?_) (fun fl=>?_))))))))))
 ·exact .af (.zn zg (.ret (rT (Fin.bj results233 rfl ⟨H,HLe.refl H,by rw [hW,if_neg ai],hs.out⟩))))
 ·refine .skip (nT (.af (.z (zfa gG) (.z (zfa bO) (.y hs (zld aq) (.o (.call call275 rfl (oq hs h1) ?_)))))));rintro _ w ⟨H1,vo,e,az,rfl,T9,hs⟩;obtain ⟨rfl,hG⟩:=T9 aZ.st;obtain ⟨aG,cG,rfl⟩:=RI.shape hG;refine .z zm (.z zex (.z zex (.z zg (.zn zg (.af (.z zm (.z (zfa du) (.y hs (zld aj) (.ixY hs hG rfl rfl ae an (bu (l:=(wts s.st)) (i:=i) ai) cK ?_)))))))));intro I2 o23 mK;exact .q hs (aC rfl aj mK) (.zn zg (.ret (Fin.bj results233 rfl ⟨H1,az,by rw [hW,if_pos ai],hs.out⟩)))
theorem wz{w:World}{q:Wht}{u:Int}(hs:St H w σ)(h2:RI H cB s.wa)(aZ:ft s)(Ep:q.kind=3)(hk:k<s.wa.length):
  aaR 236 [.agg #[I q.kind,I q.st,I q.wa,I s.id,I s.src,cE,cB,I s.al,I s.up],.agg #[I (i:Int),I (k:Int),I u]] w fun v w'=>∃H1,HLe H H1∧v=I (mA s q i k)∧St H1 w' σ:=by
 have hW:mA s q i k=if (i:Int)=q.st then gi (wts s.wa) k else 0:=by unfold mA;rw [if_neg ai,if_neg ai,if_pos Ep]
 have hl:=fu s.wa;refine Cl.o func236 ntmps236 ag2 ?_;refine .af (.bx hs fun b2 w hs=>?_);refine .bx hs fun b3 w hs=>?_
 refine .zn zg (.seq (.af (.z (zfa du) (.y hs (zld aj) (.z (zfa dA) (.z (zfa fC) (.y hs (zld aj) (.zn fV (.dK rfl (fun fl=>?_) (fun fl=>?_))))))))))
 ·exact .af (.zn zg (.ret (rT (Fin.bj results236 rfl ⟨H,HLe.refl H,by rw [hW,if_neg ai],hs.out⟩))))
 ·refine .skip (nT (.af (.z (zfa gG) (.z (zfa aQ) (.y hs (zld aq) (.o (.call call275 rfl (oq hs h2) ?_)))))));rintro _ w ⟨H1,vo,e,az,rfl,T9,hs⟩;obtain ⟨rfl,hG⟩:=T9 (Fw aZ);obtain ⟨aG,cG,rfl⟩:=RI.shape hG;refine .z zm (.z zex (.z zex (.z zg (.zn zg (.af (.z zm (.z (zfa dt) (.y hs (zld aj) (.ixY hs hG rfl rfl ae an (bu (l:=(wts s.wa)) (i:=k) ai) cK ?_)))))))));intro I2 o23 mK;exact .q hs (aC rfl aj mK) (.zn zg (.ret (Fin.bj results236 rfl ⟨H1,az,by rw [hW,if_pos ai],hs.out⟩)))
theorem xQ{w:World}{q:Wht}{u:Int}(hs:St H w σ)(Ep:q.kind=4):
  aaR 238 [.agg #[I q.kind,I q.st,I q.wa,I s.id,I s.src,cE,cB,I s.al,I s.up],.agg #[I (i:Int),I (k:Int),I u]] w fun v w'=>∃H1,HLe H H1∧v=I (mA s q i k)∧St H1 w' σ:=by
 have hW:mA s q i k=if (i:Int)=q.st∧(k:Int)=q.wa then 1 else 0:=by unfold mA;rw [if_neg ai,if_neg ai,if_neg ai]
 refine Cl.o func238 ntmps238 ag2 ?_;refine .af (.bx hs fun b2 w hs=>?_);refine .bx hs fun b3 w hs=>?_
 refine .zn zg (.seq (.af (.z (zfa du) (.y hs (zld aj) (.z (zfa dA) (.z (zfa fC) (.y hs (zld aj) (.z fV (.z zm (.EX (t':=11) rfl (fun oO=>?_) (fun oO=>?_)))))))))))
 ·refine .Fs 6 6 false (.zn zpT (.cT (.af (.zn zg (.ret (rT (Fin.bj results238 rfl ?_)))))));first
  |exact ⟨H,HLe.refl H,by rw [hW,if_neg ai],hs.out⟩
  |exact ⟨H,HLe.refl H,by rw [hW,if_pos ai],hs.out⟩
 ·refine .T (.z (zfa dt) (.T (.y hs (zld aj) (.T (.z (zfa dA) (.T (.z (zfa eF) (.T (.y hs (zld aj) (.T (.z fV (.zn zpF (.dK rfl (fun ib=>?_) (fun ib=>?_))))))))))))))
  ·refine .af (.zn zg (.ret (rT (Fin.bj results238 rfl ?_))));first
   |exact ⟨H,HLe.refl H,by rw [hW,if_neg ai],hs.out⟩
   |exact ⟨H,HLe.refl H,by rw [hW,if_pos ai],hs.out⟩
  ·refine .skip (nT (.af (.zn zg (.ret (Fin.bj results238 rfl ?_)))));first
   |exact ⟨H,HLe.refl H,by rw [hW,if_neg ai],hs.out⟩
   |exact ⟨H,HLe.refl H,by rw [hW,if_pos ai],hs.out⟩
def Ij(k:Int):Nat:=if k=1 then 229 else if k=2 then 232 else if k=3 then 234 else 237
def HX(k:Int):Nat:=if k=1 then 231 else if k=2 then 233 else if k=3 then 236 else 238
def He(k:Int):Value:= .agg #[.func (.func (Ij k)) #[] #[],.func (.func (HX k)) #[] #[],I (pT ⟨k,0,0⟩)]
def Ry:List MapEntry:=[{key:=I 1,val:=He 1,born:=0},{key:=I 2,val:=He 2,born:=1},{key:=I 3,val:=He 3,born:=2},{key:=I 4,val:=He 4,born:=3}]
theorem ow{w:World}(hs:St H w σ):
  aaR 187 [] w fun v w'=>∃b,v= .map (some b)∧St H w' (.obj b (.map Ry.toArray 4)::σ):=by
 refine Cl.of func187 rfl ntmps187 bH (De) (.af (.zn zg (.af (.o (.makeMap hs fun b1 w hs=>?_)))));refine .z (zbd [_,_,_] kv) (.o (.insert (es:=[]) hs rfl rfl rfl jc cq rfl fun w hs=>?_));refine .z (zbd [_,_,_] kv) (.o (.insert (es:=[{key:=I 1,val:=He 1,born:=0}]) hs rfl rfl rfl jc cq rfl fun w hs=>?_));refine .z (zbd [_,_,_] kv) (.o (.insert (es:=[{key:=I 1,val:=He 1,born:=0},{key:=I 2,val:=He 2,born:=1}]) hs rfl rfl rfl jc cq rfl fun w hs=>?_));refine .z (zbd [_,_,_] kv) (.o (.insert (es:=[{key:=I 1,val:=He 1,born:=0},{key:=I 2,val:=He 2,born:=1},{key:=I 3,val:=He 3,born:=2}]) hs rfl rfl rfl jc cq rfl fun w hs=>?_));exact .z zm (.zn zg (.ret (Fin.bj results187 rfl ⟨b1,rfl,hs⟩)))
def lF1(k:Int):Value:=if 1≤k∧k≤4 then .func (.func (Ij k)) #[] #[] else .nilFunc
def lF2(k:Int):Value:=if 1≤k∧k≤4 then .func (.func (HX k)) #[] #[] else .nilFunc
def lD(k:Int):Int:=if 1≤k∧k≤4 then pT ⟨k,0,0⟩ else 0
theorem G9(k:Int):[lF1 k,lF2 k,I (lD k)].all Value.oneCell'=true:=by
 unfold lF1 lF2;split<;>rfl
theorem J5{s:FS}{x y:Operand}(k:Int)(hx:FS.ev s x=some (.map (some b)))(hy:FS.ev s y=some (I k)):
  QJ Tryz.prog H [.obj b (.map Ry.toArray 4)] s (.lookup 238 x y true) (.tuple #[.agg #[lF1 k,lF2 k,I (lD k)],.bool (decide (1≤k∧k≤4))]):=by
 by_cases h:1≤k∧k≤4
 ·rw [decide_eq_true h];have h4:k=1∨k=2∨k=3∨k=4:=by omega
  rcases h4 with rfl|rfl|rfl|rfl
  ·exact GW (v:=He 1) (j:=0) hx hy jc cq rfl .here
  ·exact GW (v:=He 2) (j:=1) hx hy jc cq rfl .here
  ·exact GW (v:=He 3) (j:=2) hx hy jc cq rfl .here
  ·exact GW (v:=He 4) (j:=3) hx hy jc cq rfl .here
 ·rw [decide_eq_false h];have e1:lF1 k= .nilFunc:=if_neg h;have e2:lF2 k= .nilFunc:=if_neg h;have e3:lD k=0:=if_neg h;rw [e1,e2,e3];refine PZ (es:=Ry) (c:=4) hx hy jc cq zeroValue236 ?_ .here;have n1:(k==1)=false:=by simp only [beq_eq_false_iff_ne];omega
  have n2:(k==2)=false:=by simp only [beq_eq_false_iff_ne];omega
  have n3:(k==3)=false:=by simp only [beq_eq_false_iff_ne];omega
  have n4:(k==4)=false:=by simp only [beq_eq_false_iff_ne];omega
  simp [Instr.findNow,Instr.sameNow,Ry,n1,n2,n3,n4]
theorem MD(k:Int):∀args w,(callFunc (Ij k) args).run Tryz.prog w= .ok (.enter (Ij k) args) w:=by
 unfold Ij;split
 ·exact call229
 ·split
  ·exact call232
  ·split
   ·exact call234
   ·exact call237
theorem Mn(k:Int):∀args w,(callFunc (HX k) args).run Tryz.prog w= .ok (.enter (HX k) args) w:=by
 unfold HX;split
 ·exact call231
 ·split
  ·exact call233
  ·split
   ·exact call236
   ·exact call238
theorem MC{w:World}{q:Wht}(hs:St H w σ)(h1:RI H cE s.st)(h2:RI H cB s.wa)(hk:1≤q.kind∧q.kind≤4):
  aaR (Ij q.kind) [.agg #[I q.kind,I q.st,I q.wa,I s.id,I s.src,cE,cB,I s.al,I s.up]] w fun v w'=>∃b:Bool,v= .bool b∧(b=true↔gR s q)∧St H w' σ:=by
 unfold Ij;split
 ·exact Eg hs h2 di
 ·split
  ·exact Ef hs h2 di
  ·split
   ·exact Ee hs h1 di
   ·exact Ed hs h1 h2 ai
theorem Mm{w:World}{q:Wht}{u:Int}(hs:St H w σ)(h1:RI H cE s.st)(h2:RI H cB s.wa)(aZ:ft s)(hq:gR s q)(hk:1≤q.kind∧q.kind≤4)(hi:i<s.st.length)(hkw:k<s.wa.length):
  aaR (HX q.kind) [.agg #[I q.kind,I q.st,I q.wa,I s.id,I s.src,cE,cB,I s.al,I s.up],.agg #[I (i:Int),I (k:Int),I u]] w fun v w'=>∃H1,HLe H H1∧v=I (mA s q i k)∧St H1 w' σ:=by
 unfold HX;split
 ·exact xR hs h1 h2 aZ hq di hi
 ·split
  ·exact zq hs h1 aZ di hi
  ·split
   ·exact wz hs h2 aZ di hkw
   ·exact xQ hs ai
theorem SF{q:Wht}(h:1≤q.kind∧q.kind≤4):lD q.kind=pT q:=by
 unfold lD;rw [if_pos h];rfl
theorem Mk{q:Wht}(h:gR s q):1≤q.kind∧q.kind≤4:=by
 rcases q9.1 h with h|h|h|h<;>omega
set_option maxHeartbeats 1000000 in
theorem mZ{w:World}{q:Wht}(hs:St H w σ)(h1:RI H cE s.st)(h2:RI H cB s.wa)(aZ:ft s):
  aaR 130 [.agg #[I s.id,I s.src,cE,cB,I s.al,I s.up],.agg #[I q.kind,I q.st,I q.wa]] w fun u w'=>∃H1 vl L d b en,HLe H H1∧u= .tuple #[vl,I d,.bool b]∧cU 1 vl (Is L) en∧((b=true∧gR s q∧L=kW s q∧d=pT q)∨(b=false∧¬gR s q∧L=[]∧d=0))∧St H1 w' (en::σ):=by
 have pG:=eM aZ;obtain ⟨gv,gu,rfl⟩:=RI.shape h1;obtain ⟨fq,fp,rfl⟩:=RI.shape h2;refine Cl.o func130 ntmps130 ag2 ?_;refine .af (.bx hs fun b2 w hs=>?_);refine .bx hs fun b3 w hs=>?_
 refine .z zg (.z zg (.zn zg (.cut (fun fs w=>∃b7,kG fs ⟨46,[],[(8,.bool (decide (1≤q.kind∧q.kind≤4))),(7,Pt b7),(2,Pt b2),(3,Pt b3)]⟩∧St H w (.blk b7 [lF1 q.kind,lF2 q.kind,I (lD q.kind)]:: .blk b3 [I q.kind,I q.st,I q.wa]:: .blk b2 [I s.id,I s.src,(.slice gv s.st.length gu),(.slice fq s.wa.length fp),I s.al,I s.up]::σ)) ?_ ?_)))
 ·refine .draw mix rfl hs fun w hs=>?_
  refine .zw 1 rfl (zfa qc) ?_;refine .y 2 rfl hs aj ?_;refine .e2 (i:=0) (j:=7) aA rfl rfl rfl rfl .none .none hs ?_ ?_
  ·refine .call call187 rfl (ow hs) ?_;rintro _ w ⟨kP,rfl,hs⟩;refine .go (.q (i:=3) [.obj kP (.map Ry.toArray 4)] rfl aA .none (J5 (H:= .bot) q.kind rfl rfl) ?_);refine .zw 4 rfl zm ?_;refine .z 5 rfl zex ?_;refine .z 6 rfl zex ?_;refine .E 7 hs ?_;refine .alloc hs zeroValue236 rfl ?_;intro b7 w hs;refine .go (.E 8 hs ?_);refine .aE (vs:=[lF1 q.kind,lF2 q.kind,I (lD q.kind)]) hs rfl rfl sizeOf236 ?_ (hv:=G9 _);intro w hs;refine .go (.zw 9 rfl zg ?_);refine .D hs ?_;exact nT ⟨b7,aH,hs.sb⟩
  ·refine .alloc hs zeroValue236 rfl ?_;intro b7 w hs;refine .go (.E 0 hs ?_);refine .call call187 rfl (ow hs) ?_;rintro _ w ⟨kP,rfl,hs⟩;refine .go (.q (i:=3) [.obj kP (.map Ry.toArray 4)] rfl aA .none (J5 (H:= .bot) q.kind rfl rfl) ?_);refine .zw 4 rfl zm ?_;refine .z 5 rfl zex ?_;refine .z 6 rfl zex ?_;refine .E 8 hs ?_;refine .aE (vs:=[lF1 q.kind,lF2 q.kind,I (lD q.kind)]) hs rfl rfl sizeOf236 ?_ (hv:=G9 _);intro w hs;refine .go (.zw 9 rfl zg ?_);refine .D hs ?_;exact nT ⟨b7,aH,hs.sb⟩
 ·rintro fs w ⟨b7,fM,hs⟩;refine WE.sub ?_ fM;refine .af (.y hs (zls [_,_,_] oW jY) (.y hs (zls [_,_,_,_,_,_] bE aP) (.z (zbd (vs:=[(0,.agg #[I q.kind,I q.st,I q.wa]),(1,.agg #[I s.id,I s.src,(.slice gv s.st.length gu),(.slice fq s.wa.length fp),I s.al,I s.up])]) [I q.kind,I q.st,I q.wa,I s.id,I s.src,(.slice gv s.st.length gu),(.slice fq s.wa.length fp),I s.al,I s.up] yL rfl aA) (.o (.alloc hs zeroValue241 rfl fun b9 w hs=>?_)))));refine .o (.aE (vs:=[_,_,_,_,_,_,_,_,_]) hs rfl rfl BE fun w hs=>?_);refine .nil (.seq (.af (.z zm (.z fU (.z zm (.bif (t':=24) rfl (fun qS=>?_) (fun qS=>?_)))))))
  ·refine .Fs 5 2 false (.zn zpT (.cT (.af (.z zg (.z zg (.zn zg (.ret (rT (?_)))))))));have hn:¬gR s q:=fun h=>by have:=Mk h;simp [this] at qS
   exact Fin.iT [] [] hs fun w hs=>⟨_,results3 results130 rfl rfl rfl,H,_,[],_,_,.nul,HLe.refl H,rfl,.nil 1 none,.inr ⟨rfl,hn,rfl,rfl⟩,hs.out.nul⟩
  ·refine .T ?_;have hk:1≤q.kind∧q.kind≤4:=by simpa using qS
   rw [show lF1 q.kind= .func (.func (Ij q.kind)) #[] #[] from if_pos hk,show lF2 q.kind= .func (.func (HX q.kind)) #[] #[] from if_pos hk,SF hk] at hs;refine .z (zfa xg) (.T (.y hs (zld isAgg233) (.T (.y hs (zls [_,_,_,_,_,_,_,_,_] PF BE) (.T (.o (.sa (first:=[]) (cap:=[]) rfl rfl (MD q.kind) (MC (s:=s) hs h1 h2 hk) ?_)))))));rintro _ w ⟨R1,rfl,w9,hs⟩;refine .T (.z fU (.zn zpF (.cond rfl (fun nm=>?_) (fun nm=>?_))))
   ·refine .af (.z zg (.z zg (.zn zg (.ret (rT (?_))))));have hn:¬gR s q:=fun h=>by rw [w9.2 h] at nm;cases nm
    exact Fin.iT [] [] hs fun w hs=>⟨_,results3 results130 rfl rfl rfl,H,_,[],_,_,.nul,HLe.refl H,rfl,.nil 1 none,.inr ⟨rfl,hn,rfl,rfl⟩,hs.out.nul⟩
   ·refine .skip (nT (.af (.o (.buildSlice (cells:=[_]) hs cV rfl rfl fun Mc w hs=>?_))));refine .o (.alloc hs gS rfl fun ny w hs=>?_);refine .o (.store hs rfl rfl aI fun w hs=>?_);refine .nil (.seq (.af (.y hs (zls [_,_,_,_,_,_] bE aP) ?_)));have hq:gR s q:=w9.1 (by simpa using nm);refine .o (.call Zc rfl (fY (s:=s) hs h1 h2 ⟨ai,ai⟩) ?_);rintro _ w ⟨H1,ba,az,rfl,qO,hs⟩;have Bj:=fW s q;refine .nil (.block ?_);refine .rangeFunc (gf:=188) (cap:=[Pt ba]) (xs:=A4 s) (σb:=[.blk ny [.slice (some ⟨Mc,0,none⟩) 1 1],.blk Mc (Is [0]),.blk b7 [.func (.func (Ij q.kind)) #[] #[],.func (.func (HX q.kind)) #[] #[],I (pT q)],.blk b9 [I q.kind,I q.st,I q.wa,I s.id,I s.src,(.slice gv s.st.length gu),(.slice fq s.wa.length fp),I s.al,I s.up]]) (σf:=σ) (hs.sb) trivial rfl qO Zb (fun x hx=>by
      simp only [A4,List.mem_map] at hx;obtain ⟨j,_,rfl⟩:=hx;rfl) rfl
     (I:=fun p H' σb=>∃vo en,σb=[.blk ny [vo],en,.blk b7 [.func (.func (Ij q.kind)) #[] #[],.func (.func (HX q.kind)) #[] #[],I (pT q)],.blk b9 [I q.kind,I q.st,I q.wa,I s.id,I s.src,(.slice gv s.st.length gu),(.slice fq s.wa.length fp),I s.al,I s.up]]∧cU 1 vo (Is ((kW s q).take (p+1))) en) (Ix:=fun _ _ _=>False)
     (fun j _ _ σ g1 g2=>g2) (fun _ _ _ _ _ h=>h) ⟨_,_,rfl,.full rfl⟩ ?_ ?_ (fun D c H' σb w _ h _=>h.elim)
    ·rintro ly p hp H2 xu xt w bg ⟨vo,en,rfl,hO⟩ hs ⟨rr,Du⟩;have FR:p<s.many:=by rw [eI] at hp;exact hp
     have fL:p/s.wa.length<s.st.length:=Nat.div_lt_of_lt_mul (by rw [Nat.mul_comm];exact FR);have Jq:=Nat.mod_lt p pG.2.2.1;have hws:=zp s q FR;have An:(kW s q)[p+1]? =some (mA s q (p/s.wa.length) (p%s.wa.length)):=by rw [←hws];exact bu ai
     rw [oH hp];obtain ⟨al,ll,cl,rfl,wq⟩:=hO.shape;generalize p/s.wa.length=i at*;generalize p%s.wa.length=k at*;refine .region (.o (.alloc hs qi rfl fun Cd w hs=>?_));refine .o (.aE (vs:=[_,_,_]) hs rfl rfl BF fun w hs=>?_);refine .nil (nT ⟨H2,[.blk Cd [I (i:Int),I (k:Int),I ((p+1:Nat):Int)],.blk ny [Value.slice al ll cl],en,.blk b7 [.func (.func (Ij q.kind)) #[] #[],.func (.func (HX q.kind)) #[] #[],I (pT q)],.blk b9 [I q.kind,I q.st,I q.wa,I s.id,I s.src,(.slice gv s.st.length gu),(.slice fq s.wa.length fp),I s.al,I s.up]],HLe.refl _,hs,?_⟩);rintro w oI - hs;refine .block (.draw mix rfl hs fun w hs=>?_);refine .y 0 rfl hs aq ?_;refine .z 1 rfl (zfa xf) ?_;refine .zv 2 rfl hs (p8 isAgg234) (.ys 3 rfl hs [_,_,_,_,_,_,_,_,_] PF BE ?_);refine .ys 4 rfl hs [_,_,_] isAgg190 BF ?_;refine .E 5 hs ?_;refine .sa (first:=[]) (cap:=[]) rfl rfl (Mn q.kind) (Mm (s:=s) (q:=q) (i:=i) (k:=k) hs (h1.mono (az.trans bg)) (h2.mono (az.trans bg)) aZ hq hk fL Jq) ?_;rintro _ w ⟨H3,bZ,rfl,hs⟩;refine .go (.E 6 hs ?_);refine .buildSlice (cells:=[_]) hs cV rfl rfl ?_;intro Rg w hs;refine .go (.E 7 hs ?_);refine .append (ys:=Is [mA s q i k]) hs cA rfl rfl hO (.own .here rfl rfl) (iP _) (fun l h=>by simp at h;omega) ?_;intro v42 en42 w dY hs;rw [show Is ((kW s q).take (p+1))++Is [mA s q i k]=Is ((kW s q).take (p+1+1)) by rw [dr An];simp [Is]] at dY;obtain ⟨a42,l42,c42,rfl,h42⟩:=dY.shape;refine .go (.E 8 hs ?_);refine .store hs rfl rfl aI ?_;intro w hs;exact .go (.D hs (nB ⟨H3,[.blk ny [.slice a42 l42 c42],en42,.blk b7 [.func (.func (Ij q.kind)) #[] #[],.func (.func (HX q.kind)) #[] #[],I (pT q)],.blk b9 [I q.kind,I q.st,I q.wa,I s.id,I s.src,(.slice gv s.st.length gu),(.slice fq s.wa.length fp),I s.al,I s.up]],bZ,(hs.sb:St H3 w (.blk ny _::en42:: .blk b7 _:: .blk b9 _::oI)),_,_,rfl,dY⟩))
    ·rintro D H2 xu w bg ⟨vo,en,rfl,hO⟩ hs;rw [eI,←Bj,List.take_length] at hO;replace hs:St H2 w (.obj D (.deferred (some [])):: .blk ny [vo]::en:: .blk b7 [.func (.func (Ij q.kind)) #[] #[],.func (.func (HX q.kind)) #[] #[],I (pT q)]:: .blk b9 [I q.kind,I q.st,I q.wa,I s.id,I s.src,(.slice gv s.st.length gu),(.slice fq s.wa.length fp),I s.al,I s.up]::σ):=hs;obtain ⟨al,ll,cl,rfl,wq⟩:=hO.shape;refine nB (nT (.seq (.draw mix rfl hs fun w hs=>?_)));refine .y 0 rfl hs aq ?_;refine .z 1 rfl (zfa xe) ?_;refine .y 2 rfl hs aj ?_;refine .z 3 rfl zg ?_;refine .z 4 rfl zg ?_;refine .z 5 rfl zg ?_;refine .D hs ?_;exact .ret (Fin.iT [D] [] hs fun w hs=>⟨_,results3 results130 rfl rfl rfl,H2,_,_,_,_,en,az.trans bg,rfl,hO,.inl ⟨rfl,hq,rfl,rfl⟩,hs.sb⟩)
theorem lT{w:World}(hs:St H w σ)(hd:1≤d)(ha: -4608000000000000000≤a∧a≤4608000000000000000):
  aaR 132 [I a,I d] w fun v w'=>v=I (a/d)∧St H w' σ:=by
 have hq: -4608000000000000000≤a.tdiv d∧a.tdiv d≤4608000000000000000:=by
  have h1:=sF (n:=a) (d:=d) ai;have h2:a/d≤4608000000000000000:=Int.ediv_le_of_le_mul ai (by
   have:=Int.mul_le_mul_of_nonneg_left hd (show (0:Int)≤4608000000000000000 by omega);omega)
  have h3: -4608000000000000000≤a/d:=Int.le_ediv_of_mul_le ai (by
   have:=Int.mul_le_mul_of_nonneg_left hd (show (0:Int)≤4608000000000000000 by omega);omega)
  by_cases h0:0≤a
  ·rw [Int.tdiv_eq_ediv_of_nonneg h0];omega
  ·split at h1
   ·have:a/d<0:=Int.ediv_neg_of_neg_of_pos ai ai;omega
   ·omega
 have A2:=sF (n:=a) (d:=d) ai;refine Cl.o func132 ntmps132 ag2 ?_;refine .af (.zn zg (.af (.z zm (.z zm (.q hs (uO rfl rfl ai ⟨ai,ai⟩) (.zn zg (.seq (.af (.z zm (.z zm (.z E9 (.zn fN (.bh rfl (fun fl=>?_) (fun fl=>?_))))))))))))))
 ·refine .region (.z zm (.z gx (.zn zg (nT (.af (.z zm (.zn zg (.ret (Fin.bj results132 rfl ?_)))))))));rw [if_pos fl] at A2;exact ⟨by rw [A2],hs⟩
 ·refine .skip (nT (.af (.z zm (.zn zg (.ret (Fin.bj results132 rfl ?_))))));rw [if_neg fl,Int.sub_zero] at A2;exact ⟨by rw [A2],hs⟩
theorem tM{w:World}{s:Srv}(hs:St H w σ)(h1:RI H cE s.sp.st)(h2:RI H cB s.sp.wa)(h3:RRd H vr s.rs)(h4:RCm H vc s.cs)(aZ:eW s):
  aaR 178 [.agg #[I s.sp.id,I s.sp.src,cE,cB,I s.sp.al,I s.sp.up,vr,vc]] w fun u w'=>∃H1,∃b:Bool,HLe H H1∧u= .bool b∧(b=true↔s.sys.Sound)∧St H1 w' σ:=by
 refine Cl.o func178 ntmps178 ag1 ?_;refine .af (.bx hs fun b1 w hs=>?_);refine .zn zg (.af (.y hs (zls [_,_,_,_,_,_,_,_] bA aM) (.o (.call call133 rfl (gJ (s:=s) hs h1 h2 h3 h4 aZ.early) ?_))));rintro v7 w ⟨H1,az,hS,hs⟩;refine .o (.call call221 rfl (yJ (s:=s.sys) hs hS) ?_);rintro _ w ⟨H2,vx,xs,e,bg,rfl,rx,hC,hs⟩;obtain ⟨ax,cx,rfl⟩:=RI.shape rx;have Xk:s.sys.check=0:=s.sys.dX.2 aZ.sys;obtain rfl:e=0:=by
  cases hC with
  |bad h=>exact (h Xk).elim
  |sound=>rfl
  |chain=>rfl
 have IK:=hC.JP;refine .z zm (.z zex (.z zex (.z zg (.zn zg (.af (.z zm (.z fy (.z zm (.iz (t':=13) rfl (fun xa=>?_) (fun xa=>?_))))))))))
 ·refine .T (.z zm (.T (.z (de ae) (.T (.z fy (.z zpT (.zn zg (.ret (Fin.bj results178 rfl ?_)))))))));first
  |exact ⟨H2,_,az.trans bg,rfl,by rw [←IK,decide_eq_true_eq];exact ⟨fun h=>List.length_eq_zero_iff.1 ai,fun h=>by rw [h];rfl⟩,hs.out⟩
  |exact (xa rfl).elim
 ·refine .Fs 3 2 true (.z zpF (.zn zg (.ret (Fin.bj results178 rfl ?_))));first
  |exact ⟨H2,_,az.trans bg,rfl,by rw [←IK,decide_eq_true_eq];exact ⟨fun h=>List.length_eq_zero_iff.1 ai,fun h=>by rw [h];rfl⟩,hs.out⟩
  |exact (xa rfl).elim
theorem HO(L:List Int)(j:Nat):L++List.replicate j 0++[0]=L++List.replicate (j+1) 0:=by
 rw [List.append_assoc,←List.replicate_succ']
set_option maxHeartbeats 1000000 in
theorem yn{w:World}{s:Srv}{q:Wht}(hs:St H w σ)(h1:RI H cE s.sp.st)(h2:RI H cB s.sp.wa)(h3:RRd H vr s.rs)(h4:RCm H vc s.cs)(aZ:eW s):
  aaR 177 [.agg #[I s.sp.id,I s.sp.src,cE,cB,I s.sp.al,I s.sp.up,vr,vc],.agg #[I q.kind,I q.st,I q.wa]] w fun u w'=>∃H1 ul vw L d b,HLe H H1∧u= .tuple #[.agg #[I s.sys.many,ul,vw,I d],.bool b]∧RL H1 ul s.df∧RI H1 vw L∧L.length=s.sys.n∧((b=true∧gR s.sp q∧L=s.w q∧d=pT q)∨(b=false∧¬gR s.sp q))∧St H1 w' σ:=by
 have hn:=Bc s;have hm:=aZ.many;have pG:s.sys.many+1=(s.sys.n:Int):=by rw [hn];show ((s.sp.many+s.cQ.length:Nat):Int)+1=_;omega
 refine Cl.o func177 ntmps177 ag2 ?_;refine .af (.bx hs fun b2 w hs=>?_);refine .bx hs fun b3 w hs=>?_
 refine .o (.alloc hs E6 rfl fun b4 w hs=>?_);refine .zn zg (.af (.y hs (zls [_,_,_,_,_,_,_,_] bA aM) (.o (.call call133 rfl (gJ (s:=s) hs h1 h2 h3 h4 aZ.early) ?_))));rintro _ w ⟨H1,az,⟨ul,rfl,hL⟩,hs⟩;obtain ⟨al,cl,rfl⟩:=RL.shape hL;refine .o (.alloc hs fk rfl fun b6 w hs=>?_);refine .o (.aE (vs:=[_,_]) hs rfl rfl aV fun w hs=>?_);refine .nil (.af (.z (zfa aW) (.y hs (zls [_,_,_,_,_,_] bE aP) (.y hs (zls [_,_,_] oW jY) (.o (.call call130 rfl (mZ (s:=s.sp) (q:=q) hs (h1.mono az) (h2.mono az) aZ.early.1) ?_))))));rintro _ w ⟨H2,vl,L0,d,b,en,bg,rfl,hO,jt,hs⟩;have aaz:L0.length≤s.sys.n:=by
  rcases jt with ⟨_,_,rfl,_⟩|⟨_,_,rfl,_⟩
  ·rw [fW,hn];omega
  ·simp
 have dq:=az.trans bg;refine .z zm (.z zex (.z zex (.z zex (.z zg (.z zg (.zn zg (.seq (.block ?_))))))));refine .loop (fun p:Nat×Value=>⟨34,[],[(7,p.2),(8,I d),(9,.bool b),(6,Pt b6),(4,Pt b4)]⟩)
  (fun p w=>L0.length+p.1≤s.sys.n∧∃en,cU 1 p.2 (Is (L0++List.replicate p.1 0)) en∧St H2 w (en:: .blk b6 [I s.sys.many,.slice al s.df.length cl]:: .blk b4 [I 0,.slice none 0 0,.slice none 0 0,I 0]::σ)) (fun p=>s.sys.n - (L0.length+p.1)) (0,vl) aH
  ⟨by simpa using aaz,en,by simpa using hO,hs.sb⟩ ?_
 clear hO hs;rintro ⟨j,vo⟩ w ⟨hj,en,hO,hs⟩;dsimp only at hj hO ⊢;obtain ⟨ao,lo,co,rfl,w6⟩:=hO.shape;have Ta:lo=L0.length+j:=by simp [Is] at w6;omega
 refine .seq (.af (.z zm (.z (de ae) (.z (zfa cz) (.y hs (zld aj) (.z cH (.zn fN (.bh rfl (fun fc=>?_) (fun fc=>?_)))))))))
 ·refine .skip (nT (.block (.region (.z zm (.o (.buildSlice (cells:=[_]) hs cV rfl rfl fun AK w hs=>?_))))));refine .o (.append (ys:=Is [0]) hs cA rfl rfl hO (.own .here rfl rfl) (iP _) (fun l' h=>by simp [Is] at h;omega) ?_);intro v28 en28 w dY hs;rw [show Is (L0++List.replicate j 0)++Is [0]=Is (L0++List.replicate (j+1) 0) by rw [←HO];simp [Is]] at dY;exact .zn zg (nB (nT ⟨(j+1,v28),aH,⟨by dsimp only;omega,_,dY,hs.sb⟩,by dsimp only;omega⟩))
 ·refine .exit (xT (xT (xB (nT (.af (.y hs (zls [_,_] cn aV) (.z zm (.z zm (.z (zbd [_,_,_,_] iF) (.z zm (.o (.aE (vs:=[_,_,_,_]) hs rfl rfl jg fun w hs=>?_))))))))))));refine .zn zg (.ret ?_);have Tg:L0.length+j=s.sys.n:=by omega
  obtain ⟨H3,bZ,hR,hs⟩:=cU.dR hO (by simp;omega) hs dy;exact Fin.iT [] [] hs fun w hs=>⟨_,results2 results177 (dp (vs:=[_,_,_,_]) hs rfl PH jg) rfl,H3,_,_,_,d,b,dq.trans bZ,rfl,hL.mono (bg.trans bZ),hR,by simp;omega,by
   rcases jt with ⟨g1,g2,rfl,g3⟩|⟨g1,g2,_,_⟩
   ·refine .inl ⟨g1,g2,?_,g3⟩;rw [fW,hn] at Tg;unfold Srv.w;rw [show j=s.cQ.length by omega]
   ·exact .inr ⟨g1,g2⟩,hs.out⟩
inductive BD(v:Srv)(q:Wht):Int→Prop
 |bad {e:Int} (h:Cg v e) (he:e≠0):BD v q e
 |what (h:eW v) (h1:¬gR v.sp q):BD v q 33
 |fls (h:eW v) (h1:gR v.sp q) (h2:¬v.sys.Sound):BD v q 35
 |ok (h:eW v) (h1:gR v.sp q) (h2:v.sys.Sound):BD v q 0
theorem BD.zero{v:Srv}{q:Wht}(h:BD v q 0):eW v∧gR v.sp q∧v.sys.Sound:=by
 generalize hz:(0:Int)=z at h
 cases h with
 |bad h he=>exact (he hz.symm).elim
 |what=>omega
 |fls=>omega
 |ok h h1 h2=>exact ⟨h,h1,h2⟩
theorem BD.qty{v:Srv}{q:Wht}(h:BD v q e)(he:e≠0):Gu v q 0 0 e:=by
 cases h with
 |bad h he=>exact .bad h he
 |what h h1=>exact .what h h1
 |fls h h1 h2=>exact .fls h h1 h2
 |ok=>exact (he rfl).elim
set_option maxHeartbeats 1000000 in
theorem ox{w:World}{s:Srv}{q:Wht}(hs:St H w σ)(h1:RI H cE s.sp.st)(h2:RI H cB s.sp.wa)(h3:RRd H vr s.rs)(h4:RCm H vc s.cs):
  aaR 125 [.agg #[I s.sp.id,I s.sp.src,cE,cB,I s.sp.al,I s.sp.up,vr,vc],.agg #[I q.kind,I q.st,I q.wa]] w fun u w'=>∃H1 m ul vw d e,HLe H H1∧u= .tuple #[.agg #[I m,ul,vw,I d],I e]∧(∃a l c,ul= .slice a l c)∧(∃a l c,vw= .slice a l c)∧BD s q e∧(e=0→m=s.sys.many∧RL H1 ul s.df∧RI H1 vw (s.w q)∧d=pT q)∧St H1 w' σ:=by
 refine Cl.o func125 ntmps125 ag2 ?_;refine .af (.bx hs fun b2 w hs=>?_);refine .bx hs fun b3 w hs=>?_
 refine .o (.alloc hs E6 rfl fun b4 w hs=>?_);refine .zn zg (.seq (.af (.y hs (zls [_,_,_,_,_,_,_,_] bA aM) (.o (.call call117 rfl (ia (s:=s) hs h1 h2 h3 h4) ?_)))));rintro _ w ⟨H1,e,az,rfl,hC,hs⟩;refine .zn zg (.af (.z zm (.zn fV (.dK rfl (fun fl=>?_) (fun fl=>?_)))))
 ·refine .af (.z (zbd [_,_,_,_] iF) (.z zm (.o (.aE (vs:=[_,_,_,_]) hs rfl rfl jg fun w hs=>?_))));exact .zn zg (.ret (rT ((Fin.iT [] [] hs fun w hs=>⟨_,results2 results125 (dp (vs:=[_,_,_,_]) hs rfl PH jg) rfl,H1,_,_,_,_,e,az,rfl,⟨_,_,_,rfl⟩,⟨_,_,_,rfl⟩,.bad hC fl,fun h=>(fl h).elim,hs.out⟩))))
 ·refine .skip (nT (.af (.y hs (zls [_,_,_,_,_,_,_,_] bA aM) (.y hs (zls [_,_,_] oW jY) ?_))));have aZ:eW s:=hC.dX.1 (by simpa using fl);refine .o (.call call177 rfl (yn (s:=s) (q:=q) hs (h1.mono az) (h2.mono az) (h3.mono az) (h4.mono az) aZ) ?_);rintro _ w ⟨H2,ul,vw,L,d,b,bg,rfl,hL,hR,Vi,jt,hs⟩;have dq:=az.trans bg;obtain ⟨al,cl,rfl⟩:=RL.shape hL;obtain ⟨aw,cw,rfl⟩:=RI.shape hR;refine .z zm (.z zex (.z zex (.o (.alloc hs E6 rfl fun b7 w hs=>?_))));refine .o (.aE (vs:=[_,_,_,_]) hs rfl rfl jg fun w hs=>?_);refine .zn zg (.seq (.block (.af (.z zm (.z fU (.zn zg (.cond rfl (fun iC=>?_) (fun iC=>?_))))))))
  ·refine .af (.z (zbd [_,_,_,_] iF) (.o (.aE (vs:=[_,_,_,_]) hs rfl rfl jg fun w hs=>?_)));refine .zn zg (.ret (rB (rT (?_))));have hq:¬gR s.sp q:=by
    rcases jt with ⟨g,_⟩|⟨_,g⟩
    ·subst g;cases iC
    ·exact g
   exact Fin.iT [] [] hs fun w hs=>⟨_,results2 results125 (dp (vs:=[_,_,_,_]) hs rfl PH jg) rfl,H2,_,_,_,_,_,dq,rfl,⟨_,_,_,rfl⟩,⟨_,_,_,rfl⟩,.what aZ hq,fun h=>by omega,hs.out⟩
  ·refine .af (.y hs (zls [_,_,_,_,_,_,_,_] bA aM) ?_);obtain ⟨rfl,hq,rfl,rfl⟩:b=true∧gR s.sp q∧L=s.w q∧d=pT q:=jt.resolve_right fun h=>by rw [h.1] at iC;cases iC
   refine .o (.call call178 rfl (tM (s:=s) hs (h1.mono dq) (h2.mono dq) (h3.mono dq) (h4.mono dq) aZ) ?_);rintro _ w ⟨H3,AK,bZ,rfl,vD,hs⟩;refine .z fU (.zn zg (.cond rfl (fun fc=>?_) (fun fc=>?_)))
   ·refine .af (.z (zbd [_,_,_,_] iF) (.o (.aE (vs:=[_,_,_,_]) hs rfl rfl jg fun w hs=>?_)));exact .zn zg (.ret (rB (rT ((Fin.iT [] [] hs fun w hs=>⟨_,results2 results125 (dp (vs:=[_,_,_,_]) hs rfl PH jg) rfl,H3,_,_,_,_,_,dq.trans bZ,rfl,⟨_,_,_,rfl⟩,⟨_,_,_,rfl⟩,.fls aZ hq (fun h=>by rw [vD.2 h] at fc;cases fc),fun h=>by omega,hs.out⟩)))))
   ·refine .skip (nB (nT (.af (.y hs (zls [_,_,_,_] PH jg) (.o (.aE (vs:=[_,_,_,_]) hs rfl rfl jg fun w hs=>?_))))));exact .zn zg (.ret (Fin.iT [] [] hs fun w hs=>⟨_,results2 results125 (dp (vs:=[_,_,_,_]) hs rfl PH jg) rfl,H3,_,_,_,_,_,dq.trans bZ,rfl,⟨_,_,_,rfl⟩,⟨_,_,_,rfl⟩,.ok aZ hq (vD.1 (by simpa using fc)),fun _=>⟨rfl,hL.mono bZ,hR.mono bZ,rfl⟩,hs.out⟩))
set_option maxHeartbeats 1000000 in
theorem uX{w:World}{s:Srv}{q:Wht}(hs:St H w σ)(h1:RI H cE s.sp.st)(h2:RI H cB s.sp.wa)(h3:RRd H vr s.rs)(h4:RCm H vc s.cs):
  aaR 174 [.agg #[I s.sp.id,I s.sp.src,cE,cB,I s.sp.al,I s.sp.up,vr,vc],.agg #[I q.kind,I q.st,I q.wa]] w fun u w'=>∃H1 lo hi e,HLe H H1∧u= .tuple #[.agg #[I lo,I hi],I e]∧Gu s q lo hi e∧St H1 w' σ:=by
 refine Cl.o func174 ntmps174 ag2 ?_;refine .af (.bx hs fun b2 w hs=>?_);refine .bx hs fun b3 w hs=>?_
 refine .o (.alloc hs cZ rfl fun b4 w hs=>?_);refine .zn zg (.af (.y hs (zls [_,_,_,_,_,_,_,_] bA aM) (.y hs (zls [_,_,_] oW jY) (.o (.call call125 rfl (ox (s:=s) (q:=q) hs h1 h2 h3 h4) ?_)))));rintro _ w ⟨H1,m,ul,vw,d,e,az,rfl,⟨al,ll,cl,rfl⟩,⟨aw,lw,cw,rfl⟩,hA,QT,hs⟩;refine .z zm (.z zex (.z zex (.o (.alloc hs E6 rfl fun b6 w hs=>?_))));refine .o (.aE (vs:=[_,_,_,_]) hs rfl rfl jg fun w hs=>?_);refine .zn zg (.seq (.af (.z zm (.zn fV (.dK rfl (fun iW=>?_) (fun iW=>?_))))))
 ·refine .af (.z (zbd [_,_] bX) (.z zm (.o (.aE (vs:=[_,_]) hs rfl rfl aB fun w hs=>?_))));exact .zn zg (.ret (rT ((Fin.iT [] [] hs fun w hs=>⟨_,results2 results174 (dp (vs:=[_,_]) hs rfl bJ aB) rfl,H1,_,_,_,az,rfl,hA.qty iW,hs.out⟩))))
 ·refine .skip (nT (.af (.z (zfa mi) (.y hs (zls [_,_] cn aV) (.z (zfa mh) (.y hs (zld aq) ?_))))));obtain rfl:e=0:=by simpa using iW
  obtain ⟨rfl,hL,hR,rfl⟩:=QT rfl;obtain ⟨aZ,hq,oX⟩:=hA.zero;refine .o (.call call219 rfl (yI (s:=s.sys) hs ⟨_,rfl,hL⟩ hR) ?_);rintro _ w ⟨H2,lo,hi,f,bg,rfl,L8,hs⟩;obtain rfl:=vN (aZ.ask hq) oX (fun b=>s.both) L8;have sZ:=L8.bd;have RM:=zc q;refine .z zm (.z zex (.z zex (.z zex (.z zg (.z zg (.zn zg (.seq (.af (.z zm (.zn fV (.dK rfl (fun nm=>?_) (fun nm=>?_))))))))))))
  ·refine .af (.z (zbd [_,_] bX) (.z zm (.o (.aE (vs:=[_,_]) hs rfl rfl aB fun w hs=>?_))));exact .zn zg (.ret (rT (((nm rfl).elim))))
  ·refine .skip (nT (.seq (.draw mix rfl hs fun w hs=>?_)));refine .zw 0 rfl zm ?_;refine .z 1 rfl (zfa mg) ?_;refine .y 2 rfl hs aj ?_;refine .z 4 rfl zm ?_;refine .z 5 rfl (zfa mg) ?_;refine .y 6 rfl hs aj ?_;refine .E 3 hs ?_;refine .call call132 rfl (lT hs ai ai) ?_;rintro _ w ⟨rfl,hs⟩;refine .go (.E 7 hs ?_);refine .call call132 rfl (lT hs ai ai) ?_;rintro _ w ⟨rfl,hs⟩;refine .go (.zw 8 rfl (zbd [_,_] bX) (.E 9 hs ?_));refine .aE (vs:=[_,_]) hs rfl rfl aB ?_;intro w hs;refine .go (.zw 10 rfl zg ?_);refine .D hs ?_;exact .ret (Fin.iT [] [] hs fun w hs=>⟨_,results2 results174 (dp (vs:=[_,_]) hs rfl bJ aB) rfl,H2,_,_,_,az.trans bg,rfl,.ok aZ hq oX L8,hs.out⟩)
inductive HT(v:Srv)(out:List Int):Int→Prop
 |bad {e:Int} (h:Cg v e) (he:e≠0) (h1:out=[]):HT v out e
 |ok {e:Int} (h:eW v) (h1:GB v.sys out e):HT v out e
theorem uW{w:World}{s:Srv}(hs:St H w σ)(h1:RI H cE s.sp.st)(h2:RI H cB s.sp.wa)(h3:RRd H vr s.rs)(h4:RCm H vc s.cs):
  aaR 175 [.agg #[I s.sp.id,I s.sp.src,cE,cB,I s.sp.al,I s.sp.up,vr,vc]] w fun u w'=>∃H1 vx out e,HLe H H1∧u= .tuple #[vx,I e]∧RI H1 vx out∧HT s out e∧St H1 w' σ:=by
 refine Cl.o func175 ntmps175 ag1 ?_;refine .af (.bx hs fun b1 w hs=>?_);refine .z zg (.zn zg (.seq (.af (.y hs (zls [_,_,_,_,_,_,_,_] bA aM) (.o (.call call117 rfl (ia (s:=s) hs h1 h2 h3 h4) ?_))))));rintro _ w ⟨H1,e,az,rfl,hC,hs⟩;refine .zn zg (.af (.z zm (.zn fV (.dK rfl (fun pM=>?_) (fun pM=>?_)))))
 ·exact .af (.z zm (.z zg (.zn zg (.ret (rT (Fin.gU results175 rfl rfl ⟨H1,_,[],_,az,rfl,RS.nil H1 1 none 0,.bad hC pM rfl,hs.out⟩))))))
 ·refine .skip (nT (.af (.y hs (zls [_,_,_,_,_,_,_,_] bA aM) ?_)));have aZ:eW s:=hC.dX.1 (by simpa using pM);refine .o (.call call133 rfl (gJ (s:=s) hs (h1.mono az) (h2.mono az) (h3.mono az) (h4.mono az) aZ.early) ?_);rintro v14 w ⟨H2,bg,hS,hs⟩;refine .o (.call call220 rfl (ub (s:=s.sys) hs hS) ?_);rintro _ w ⟨H3,vx,out,f,bZ,rfl,hR,hCf,hs⟩;exact .z zm (.z zex (.z zex (.z zg (.zn zg (.af (.z zm (.z zm (.z zg (.zn zg (.ret (Fin.gU results175 rfl rfl ⟨H3,_,out,_,az.trans (bg.trans bZ),rfl,hR,.ok aZ hCf,hs.out⟩)))))))))))
theorem rm{w:World}{v:Value}{rs:List (List Int)}(q:List Int→Prop)(hs:St H w σ)(hR:RT H v rs)(hl:rs.length≤9223372036854775807)(hc:∀args w,(callFunc g args).run Tryz.prog w= .ok (.enter g args) w)
  (hp:∀H' w σ r u,HLe H H'→RI H' u r→St H' w σ→aaR g ([u]++cap) w fun z w'=>∃H1 b,HLe H' H1∧z= .bool b∧(b=true↔q r)∧St H1 w' σ):
  aaR 227 [v,.func (.func g) #[] cap.toArray] w fun u w'=>∃H1 i,HLe H H1∧u=I i∧(0≤i↔∃x∈rs,q x)∧St H1 w' σ:=by
 obtain ⟨a,c,rfl⟩:=hR.shape;refine Cl.o func227 ntmps227 ag2 ?_;refine .af (.zn zg (.seq (.af (.z zm (.z (de au) (.zn zm (.for (N:=rs.length) (J:=fun k fr w=>fr=[(1,.func (.func g) #[] cap.toArray),(0,.slice a rs.length c)]∧∃H1,HLe H H1∧(∀j<k,∀y,rs[j]? =some y→¬q y)∧St H1 w σ) ai ?_ ?_ ?_)))))))
 ·exact .mk ⟨rfl,H,HLe.refl H,fun j hj=>by omega,hs⟩
 ·rintro k fr w hk ⟨rfl,H1,az,eE,hs⟩;have hx:=xI (rs:=rs) hk;refine .block (.af (.z zm (.zn zg (.af (.z zm (.z zm (.z zm (.ixT hs (hR.mono az) rfl rfl au aI (show k<_ by omega) cK ?_))))))));intro oh o14 a14 c14 jH X6;refine .q hs (aC rfl aq jH) (.o (.sa (first:=[]) (cap:=cap) rfl rfl hc (hp _ _ _ (gr rs k) _ az X6 hs) ?_));rintro _ w ⟨H2,nx,bg,rfl,rP,hs⟩;refine .nil (.cond rfl (fun eC=>?_) (fun eC=>?_))
  ·exact .af (.z zm (.zn zg (.ret (rB (rT (rB (rT (Fin.bj results227 rfl ⟨H2,_,az.trans bg,rfl,⟨fun _=>⟨_,List.mem_of_getElem? hx,rP.1 eC⟩,fun _=>by omega⟩,hs⟩))))))))
  ·exact .skip (nB (nT (.mk ⟨rfl,H2,az.trans bg,fH eE hx (fun h=>by rw [rP.2 h] at eC;cases eC),hs⟩)))
 ·rintro fr w ⟨rfl,H1,az,eE,hs⟩;refine nT (.af (.zn zg (.ret (Fin.bj results227 rfl ?_))));exact ⟨H1,_,az,rfl,⟨fun h=>by omega,fun ⟨x,h1,h2⟩=>by
   obtain ⟨j,hj⟩:=List.getElem?_of_mem h1;exact (eE j (List.getElem?_eq_some_iff.1 hj).1 x hj h2).elim⟩,hs⟩
theorem pa{w:World}{v:Value}{rs:List (List Int)}(q:List Int→Prop)(hs:St H w σ)(hR:RT H v rs)(hl:rs.length≤9223372036854775807)(hc:∀args w,(callFunc g args).run Tryz.prog w= .ok (.enter g args) w)
  (hp:∀H' w σ r u,HLe H H'→RI H' u r→St H' w σ→aaR g ([u]++cap) w fun z w'=>∃H1 b,HLe H' H1∧z= .bool b∧(b=true↔q r)∧St H1 w' σ):
  aaR 183 [v,.func (.func g) #[] cap.toArray] w fun u w'=>∃H1 b,HLe H H1∧u= .bool b∧(b=true↔∃x∈rs,q x)∧St H1 w' σ:=by
 refine Cl.o func183 ntmps183 ag2 ?_;refine .af (.zn zg (.af (.z zm (.z zm (.o (.call call227 rfl (rm q hs hR hl hc hp) ?_))))));rintro _ w ⟨H1,i,az,rfl,hi,hs⟩;exact .z xv (.zn zg (.ret (Fin.bj results183 rfl ⟨H1,_,az,rfl,by simp only [decide_eq_true_eq];exact hi,hs⟩)))
theorem Aj{w:World}{n:Int}(hs:St H w σ):
  aaR 186 [I n] w fun u w'=>u= .bool (!decide (0≤n∧n≤20000))∧St H w' σ:=by
 refine Cl.o func186 ntmps186 ag1 ?_;refine .af (.zn zg (.af (.z zm (.o (.call jq rfl (bM hs) ?_)))));rintro _ w ⟨rfl,hs⟩;exact .z fU (.zn zg (.ret (Fin.bj results186 rfl ⟨rfl,hs⟩)))
theorem CP{w:World}{v:Value}{r:List Int}(hs:St H w σ)(hb:Row H b [I s.id,I s.src,cE,cB,I s.al,I s.up])(h2:RI H cB s.wa)(hr:RI H v r):
  aaR 184 [v,Pt b] w fun u w'=>∃H1 bb,HLe H H1∧u= .bool bb∧(bb=true↔¬(r.length=s.wa.length∧∀x∈r,0≤x∧x≤20000))∧St H1 w' σ:=by
 obtain ⟨a,c,rfl⟩:=RI.shape hr;obtain ⟨fq,fp,rfl⟩:=RI.shape h2;have RO:=hb.at 3;refine Cl.o func184 ntmps184 ag2 ?_;refine .af (.zn zg (.af (.z zm (.z (de ae) (.z (zfa aQ) (.y hs (zld aq) (.z (de ae) (.z fV (.z zm (.EX (t':=10) rfl (fun pP=>?_) (fun pP=>?_)))))))))))
 ·exact .Fs 2 6 false (.z zpT (.zn zg (.ret (Fin.bj results184 rfl ⟨H,true,HLe.refl H,rfl,⟨fun _ h=>by have:=h.1;simp_all,fun _=>rfl⟩,hs⟩))))
 ·refine .T (.z zm (.T (.o (.call call185 rfl (oL (g:=186) (cap:=[]) (fun n=>¬(0≤n∧n≤20000)) hs hr call186 (fun H' w σ n _ _ hs=>(Aj hs).mono fun u w' ⟨g1,g2⟩=>⟨H',_,HLe.refl _,g1,by simp;omega,g2⟩)) ?_))));rintro _ w ⟨H1,I3,az,rfl,Lk,hs⟩;refine .z zpF (.zn zg (.ret (Fin.bj results184 rfl ?_)));have hlen:r.length=s.wa.length:=by simp_all;omega
  exact ⟨H1,_,az,rfl,by
   rw [Lk];constructor
   ·rintro ⟨x,h1,h2⟩ h;exact h2 (h.2 x h1)
   ·intro h;refine Classical.byContradiction fun hn=>h ⟨hlen,fun x hx=>Classical.byContradiction fun hx'=>hn ⟨x,hx,hx'⟩⟩,hs⟩
theorem Ni:kn s rows↔rows.length=s.st.length∧∀r∈rows,r.length=s.wa.length∧∀x∈r,0≤x∧x≤20000:=by
 constructor
 ·rintro ⟨h1,h2,h3⟩;refine ⟨h1,fun r hr=>?_⟩;obtain ⟨i,hi⟩:=List.getElem?_of_mem hr;have pI:=(List.getElem?_eq_some_iff.1 hi).1;have hg:=xI pI;rw [hi] at hg;obtain rfl:=Option.some.inj hg;have hl:=h2 i ai;refine ⟨hl,fun x hx=>?_⟩;obtain ⟨k,hk⟩:=List.getElem?_of_mem hx;have lB:=(List.getElem?_eq_some_iff.1 hk).1;have Tm:=bu lB;rw [hk] at Tm;obtain rfl:=Option.some.inj Tm;exact h3 i ai k ai
 ·rintro ⟨h1,h2⟩;have hm:∀i<s.st.length,gr rows i∈rows:=fun i hi=>List.mem_of_getElem? (xI ai)
  refine ⟨h1,fun i hi=>(h2 _ (hm i hi)).1,fun i hi k hk=>?_⟩;have hl:=(h2 _ (hm i hi)).1;exact (h2 _ (hm i hi)).2 _ (List.mem_of_getElem? (bu ai))
theorem nJ{w:World}(hs:St H w σ)(h1:RI H cE s.st)(h2:RI H cB s.wa)(hr:RT H vh rows):
  aaR 129 [.agg #[I s.id,I s.src,cE,cB,I s.al,I s.up],.agg #[vh]] w fun u w'=>∃H1 b,HLe H H1∧u= .bool b∧(b=true↔kn s rows)∧St H1 w' σ:=by
 obtain ⟨gv,gu,rfl⟩:=RI.shape h1;obtain ⟨fq,fp,rfl⟩:=RI.shape h2;obtain ⟨ah,ch,rfl⟩:=hr.shape;have BY:=(hr.len).2.2;refine Cl.o func129 ntmps129 ag2 ?_;refine .af (.bx hs fun b2 w hs=>?_);refine .bx hs fun b3 w hs=>?_
 refine .zn zg (.af (.z (zfa dW) (.y hs (zld kI) (.z (de au) (.z (zfa bO) (.y hs (zld aq) (.z (de ae) (.z fy (.z zm (.iz (t':=12) rfl (fun Lk=>?_) (fun Lk=>?_)))))))))))
 ·refine .T (.z (zfa dW) (.T (.y hs (zld kI) (.T (.q hs (dU (f:=[]) (c:=[_]) rfl rfl) (.T ?_))))));obtain ⟨H0,fO,y8,hs⟩:=hs.dh (b:=b2) dy;refine .o (.call call183 rfl (pa (g:=184) (cap:=[Pt b2]) (fun r=>¬(r.length=s.wa.length∧∀x∈r,0≤x∧x≤20000)) hs (hr.mono fO) BY call184 (fun H' w σ r u hle hu hs=>CP (s:=s) hs (y8.mono hle) (h2.mono (fO.trans hle)) hu)) ?_);rintro _ w ⟨H1,nx,az,rfl,rP,hs⟩;refine .T (.z fU (.z zpT (.zn zg (.ret (Fin.bj results129 rfl ?_)))));exact ⟨H1,_,fO.trans az,rfl,by
   rw [Ni];have hlen:rows.length=s.st.length:=by omega
   cases F9:nx with
   |true=>
    obtain ⟨x,hx,hn⟩:=rP.1 F9;exact ⟨fun h=>(by cases h),fun h=>(hn (h.2 x hx)).elim⟩
   |false=>exact ⟨fun _=>⟨hlen,fun r hr=>Classical.byContradiction fun hn=>by rw [rP.2 ⟨r,hr,hn⟩] at F9;cases F9⟩,fun _=>rfl⟩,hs.out⟩
 ·exact .Fs 5 7 true (.z zpF (.zn zg (.ret (Fin.bj results129 rfl ⟨H,_,HLe.refl H,rfl,⟨fun h=>(by cases h),fun h=>by have:=h.len;omega⟩,hs.out⟩))))
set_option maxHeartbeats 1000000 in
theorem uV{w:World}{q:Wht}(hs:St H w σ)(h1:RI H cE s.st)(h2:RI H cB s.wa)(hr:RT H vh rows):
  aaR 64 [.agg #[I s.id,I s.src,cE,cB,I s.al,I s.up],.agg #[vh],.agg #[I q.kind,I q.st,I q.wa]] w fun u w'=>∃H1 n e,HLe H H1∧u= .tuple #[I n,I e]∧uj s rows q n e∧St H1 w' σ:=by
 obtain ⟨ah,ch,rfl⟩:=hr.shape;refine Cl.o func64 ntmps64 ag3 ?_;refine .af (.bx hs fun b3 w hs=>?_);refine .bx hs fun b4 w hs=>?_
 refine .bx hs fun b5 w hs=>?_
 refine .z zg (.zn zg (.seq (.af (.y hs (zls [_,_,_,_,_,_] bE aP) (.o (.call call111 rfl (lh (s:=s) hs h1 h2) ?_))))));rintro _ w ⟨H1,e,az,rfl,he,hs⟩;refine .zn zg (.af (.z zm (.zn fV (.dK rfl (fun iW=>?_) (fun iW=>?_)))))
 ·refine .af (.z zm (.z zg (.zn zg (.ret (rT (?_))))));have hq:¬ft s∧e=30:=he.resolve_left fun h=>iW h.2
  exact Fin.iT [] [] hs fun w hs=>⟨_,results2 results64 rfl rfl,H1,_,_,az,rfl,by rw [hq.2];exact .space hq.1,hs.out⟩
 ·refine .skip (nT (.seq (.af (.y hs (zls [_,_,_,_,_,_] bE aP) (.y hs (zls [_] jo ea) ?_)))));have aZ:ft s:=(he.resolve_right fun h=>by omega).1;have pG:=eM aZ;refine .o (.call call129 rfl (nJ (s:=s) hs (h1.mono az) (h2.mono az) (hr.mono az)) ?_);rintro _ w ⟨H2,uf,bg,rfl,pO,hs⟩;have dq:=az.trans bg;refine .zn fU (.cond rfl (fun jm=>?_) (fun jm=>?_))
  ·exact .af (.z zg (.zn zg (.ret (rT ((Fin.iT [] [] hs fun w hs=>⟨_,results2 results64 rfl rfl,H2,_,_,dq,rfl,.hull aZ (fun h=>by rw [pO.2 h] at jm;cases jm),hs.out⟩))))))
  ·refine .skip (nT (.af (.y hs (zls [_,_,_,_,_,_] bE aP) (.y hs (zls [_,_,_] oW jY) ?_))));have hh:kn s rows:=pO.1 (by simpa using jm);refine .o (.call call130 rfl (mZ (s:=s) (q:=q) hs (h1.mono dq) (h2.mono dq) aZ) ?_);rintro _ w ⟨H3,vl,L,d,b,en,bZ,rfl,hO,jt,hs⟩;have ee:=dq.trans bZ;obtain ⟨al,cl,rfl⟩:=hO.BM;refine .z zm (.z zex (.z zex (.z zex (.o (.alloc hs gS rfl fun b9 w hs=>?_)))));refine .o (.store hs rfl rfl aI fun w hs=>?_);refine .z zg (.zn zg (.seq (.af (.z zm (.zn fU (.cond rfl (fun nk=>?_) (fun nk=>?_)))))))
   ·refine .af (.z zg (.zn zg (.ret (rT (?_)))));have hq:¬gR s q:=by
     rcases jt with ⟨g,_⟩|⟨_,g,_⟩
     ·subst g;cases nk
     ·exact g
    exact Fin.iT [] [] hs fun w hs=>⟨_,results2 results64 rfl rfl,H3,_,_,ee,rfl,.what aZ hh hq,hs.out⟩
   ·refine .skip (nT (.af (.o (.alloc hs dD rfl fun I3 w hs=>?_))));refine .o (.store hs rfl rfl an fun w hs=>?_);refine .nil (.seq (.af (.y hs (zls [_,_,_,_,_,_] bE aP) ?_)));obtain ⟨rfl,hq,rfl,rfl⟩:b=true∧gR s q∧L=kW s q∧d=pT q:=jt.resolve_right fun h=>by rw [h.1] at nk;cases nk
    have Bj:=fW s q;obtain ⟨H4,eH,hW,hs⟩:=cU.dR hO ai hs dy;have js:=ee.trans eH;refine .o (.call Zc rfl (fY (s:=s) hs (h1.mono js) (h2.mono js) ⟨ai,ai⟩) ?_);rintro _ w ⟨H5,ba,kD,rfl,qO,hs⟩;have Hj:=js.trans kD;replace hW:=hW.mono kD;have Ws:=hr.mono Hj;refine .nil (.block ?_);refine .rangeFunc (gf:=188) (cap:=[Pt ba]) (xs:=A4 s) (σb:=[.blk I3 [I (i7 s q rows 0)],.blk b9 [.slice al (kW s q).length cl],.blk b4 [.slice ah rows.length ch]]) (σf:=σ) (hs.sb) trivial rfl qO Zb (fun x hx=>by
      simp only [A4,List.mem_map] at hx;obtain ⟨j,_,rfl⟩:=hx;rfl) rfl
     (I:=fun p H' σb=>σb=[.blk I3 [I (i7 s q rows p)],.blk b9 [.slice al (kW s q).length cl],.blk b4 [.slice ah rows.length ch]]) (Ix:=fun _ _ _=>False)
     (fun j _ _ σ g1 g2=>g2) (fun _ _ _ _ _ h=>h) rfl ?_ ?_ (fun D c H' σb w _ h _=>h.elim)
    ·rintro ly p hp H6 xu xt w yA rfl hs ⟨rr,Du⟩;have FR:p<s.many:=by rw [eI] at hp;exact hp
     have fL:p/s.wa.length<s.st.length:=Nat.div_lt_of_lt_mul (by rw [Nat.mul_comm];exact FR);have Jq:=Nat.mod_lt p pG.2.2.1;have oA:i7 s q rows (p+1)=i7 s q rows p+gi (kW s q) (p+1)*gt rows (p/s.wa.length) (p%s.wa.length):=rfl;have A3:=kM aZ hq hh p ai;have B3:=kM aZ hq hh (p+1) ai;have hwz:=nr aZ hq;have V0:=jV (kW s q) (v:=p+1) (n:=s.many+1) ai;have w5:=hh.num _ fL _ Jq;have pH:=hh.row _ fL;have S1:=hh.len;have S4:=kL (a:=gi (kW s q) (p+1)) (b:=gt rows (p/s.wa.length) (p%s.wa.length)) (A:=3456000000000) (B:=20000) ai ai;have RJ:gt rows (p/s.wa.length) (p%s.wa.length)=gi (gr rows (p/s.wa.length)) (p%s.wa.length):=rfl;rw [oH hp];generalize p/s.wa.length=i at*;generalize p%s.wa.length=k at*;rw [RJ] at oA S4 w5;refine .region (.o (.alloc hs qi rfl fun kP w hs=>?_));refine .o (.aE (vs:=[_,_,_]) hs rfl rfl BF fun w hs=>?_);refine .nil (nT ⟨H6,[.blk kP [I (i:Int),I (k:Int),I ((p+1:Nat):Int)],.blk I3 [I (i7 s q rows p)],.blk b9 [.slice al (kW s q).length cl],.blk b4 [.slice ah rows.length ch]],HLe.refl _,hs,?_⟩);rintro w oI - hs;refine .block (.draw mix rfl hs fun w hs=>?_);refine .y 0 rfl hs aj ?_;refine .y 1 rfl hs aq ?_;refine .z 2 rfl (zfa eT) ?_;refine .y 3 rfl hs aj ?_;refine .ixX (enc:=fun x=>[I x]) (i:=4) hs rfl aA .none (hW.mono yA) rfl rfl ae an (bu (l:=(kW s q)) (i:=(p+1)) ai) cK ?_;intro Py o39 kd;replace kd:=bD.one kd;refine .r (i:=5) hs rfl aA .none (aC rfl aj kd) ?_;refine .zw 6 rfl (zfa dW) ?_;refine .y 7 rfl hs kI ?_;refine .z 8 rfl (zfa du) ?_;refine .y 9 rfl hs aj ?_;refine .ixT (i:=10) hs rfl aA .none (Ws.mono yA) rfl rfl au aI (show i<_ by omega) cK ?_;intro Vr o45 a45 c45 Bo X0;refine .r (i:=11) hs rfl aA .none (aC rfl aq Bo) ?_;refine .zw 12 rfl (zfa dt) ?_;refine .y 13 rfl hs aj ?_;refine .ixX (enc:=fun x=>[I x]) (i:=14) hs rfl aA .none X0 rfl rfl ae an (bu (l:=(gr rows i)) (i:=k) ai) cK ?_;intro Yu o49 sX;replace sX:=bD.one sX;refine .r (i:=15) hs rfl aA .none (aC rfl aj sX) ?_;refine .zw 16 rfl kV ?_;refine .z 17 rfl cH ?_;refine .E 18 hs ?_;refine .store hs rfl rfl an ?_;intro w hs;exact .go (.D hs (nB ⟨H6,[.blk I3 [I (i7 s q rows (p+1))],.blk b9 [.slice al (kW s q).length cl],.blk b4 [.slice ah rows.length ch]],HLe.refl _,by rw [oA];exact (hs.sb:St H6 w (.blk I3 _:: .blk b9 _:: .blk b4 _::oI)),rfl⟩))
    ·rintro D H6 xu w yA rfl hs;rw [eI] at hs;replace hs:St H6 w (.obj D (.deferred (some [])):: .blk I3 [I (i7 s q rows s.many)]:: .blk b9 [.slice al (kW s q).length cl]:: .blk b4 [.slice ah rows.length ch]::σ):=hs;have sZ:=kM aZ hq hh s.many ai;have RM:=zc q;refine nB (nT (.af (.y hs (zld aj) (.z zm (.o (.call call132 rfl (lT hs ai ai) ?_))))));rintro _ w ⟨rfl,hs⟩;exact .z zg (.zn zg (.ret (Fin.iT [D] [] hs fun w hs=>⟨_,results2 results64 rfl rfl,H6,_,_,Hj.trans yA,rfl,.ok aZ hh hq,hs.out⟩)))
structure WI(s:Spc)(L:List Int)(f:Nat→Nat→Int):Prop where
 len:L.length=s.many+1
 zero:gi L 0=0
 at_:∀i k,i<s.st.length→k<s.wa.length→gi L (s.u i k)=f i k
theorem WI.start(s:Spc):WI s (List.replicate (s.many+1) 0) fun _ _=>0:=
 ⟨bH,eU _ _ ai,fun i k hi hk=>by have:=AX hi hk;exact eU _ _ ai⟩
theorem WI.set{f:Nat→Nat→Int}(h:WI s L f){i k:Nat}(hi:i<s.st.length)(hk:k<s.wa.length)(x:Int):WI s (L.set (s.u i k) x) fun i' k'=>if i'=i∧k'=k then x else f i' k':=by
 have hb:=AX hi hk;refine ⟨by rw [List.length_set];exact h.len,by rw [vF ai];exact h.zero,fun i' k' y7 tj=>?_⟩;have aai:=AX y7 tj;rw [fo (by rw [h.len];omega)];by_cases e:i'=i∧k'=k
 ·obtain ⟨rfl,rfl⟩:=e;rw [if_pos rfl,if_pos ⟨rfl,rfl⟩]
 ·rw [if_neg e,if_neg,h.at_ i' k' y7 tj];intro e2;obtain ⟨d1,d2⟩:=PM (nw:=s.wa.length) (i:=i) hk;obtain ⟨d3,d4⟩:=PM (nw:=s.wa.length) (i:=i') tj;have e3:i'*s.wa.length+k'=i*s.wa.length+k:=by unfold Spc.u at e2;omega
  rw [e3] at d3 d4;exact e ⟨d3.symm.trans d1,d4.symm.trans d2⟩
theorem WI.congr{f g:Nat→Nat→Int}(h:WI s L f)(e:∀i k,i<s.st.length→k<s.wa.length→f i k=g i k):WI s L g:=
 ⟨h.len,h.zero,fun i k hi hk=>(h.at_ i k hi hk).trans (e i k hi hk)⟩
theorem WI.fin{q:Wht}(h:WI s L (mA s q)):L=kW s q:=Ml h.len h.zero h.at_
theorem pq{w:World}{q:Wht}(hs:St H w σ)(h1:RI H cE s.st)(h2:RI H cB s.wa):
  aaR 155 [.agg #[I s.id,I s.src,cE,cB,I s.al,I s.up],.agg #[I q.kind,I q.st,I q.wa]] w fun v w'=>∃b:Bool,v= .bool b∧(b=true↔gR s q)∧St H w' σ:=by
 obtain ⟨gv,gu,rfl⟩:=RI.shape h1;obtain ⟨fq,fp,rfl⟩:=RI.shape h2;have l1:=(RI.len h1).2.2;have l2:=(RI.len h2).2.2;have hi:=q9 (s:=s) (q:=q);simp only [Spc.isW,Spc.isS] at hi;refine Cl.o func155 ntmps155 ag2 ?_;refine .af (.bx hs fun b2 w hs=>?_);refine .bx hs fun b3 w hs=>?_
 refine .zn zg (.af (.z (zfa eF) (.y hs (zld aj) (.z (zfa aQ) (.y hs (zld aq) (.z (de ae) (.z gx (.o (.call lH rfl (dJ hs) ?_)))))))));rintro _ w ⟨rfl,hs⟩;refine .zn zg (.af (.z (zfa fC) (.y hs (zld aj) (.z (zfa bO) (.y hs (zld aq) (.z (de ae) (.z gx (.o (.call lH rfl (dJ hs) ?_)))))))));rintro _ w ⟨rfl,hs⟩;refine .zn zg (.seq (.af (.z (zfa qc) (.y hs (zld aj) (.nil (.block (.af (.z fy (.zn zg (.bh rfl (fun mK=>?_) (fun mK=>?_)))))))))))
 ·refine .af (.z (zfa fC) (.y hs (zld aj) (.z fy (.z zm (.iz (t':=28) rfl (fun w9=>?_) (fun w9=>?_))))))
  ·refine .T (.z zm (.z zpT (.z zm (.bif (t':=31) rfl (fun yE=>?_) (fun yE=>?_)))))
   ·exact .T (.z (zfa eF) (.T (.y hs (zld aj) (.T (.z kU (.z zpT (.zn zg (.ret (rB (rT (Fin.bj oo rfl ⟨_,rfl,by rw [hi];simp_all<;>omega,hs.out⟩)))))))))))
   ·exact .Fs 3 6 true (.z zpF (.zn zg (.ret (rB (rT (Fin.bj oo rfl ⟨_,rfl,by rw [hi];simp_all<;>omega,hs.out⟩))))))
  ·exact .Fs 1 3 true (.z zpF (.z zm (.Fs 3 6 true (.z zpF (.zn zg (.ret (rB (rT (Fin.bj oo rfl ⟨_,rfl,by rw [hi];simp_all<;>omega,hs.out⟩)))))))))
 ·refine .af (.z fy (.zn zg (.bh rfl (fun oN=>?_) (fun oN=>?_))))
  ·refine .af (.z (zfa fC) (.y hs (zld aj) (.z fy (.z zm (.iz (t':=41) rfl (fun NJ=>?_) (fun NJ=>?_))))))
   ·exact .T (.z zm (.z zpT (.zn zg (.ret (rB (rT (Fin.bj oo rfl ⟨_,rfl,by rw [hi];simp_all<;>omega,hs.out⟩)))))))
   ·exact .Fs 1 3 true (.z zpF (.zn zg (.ret (rB (rT (Fin.bj oo rfl ⟨_,rfl,by rw [hi];simp_all<;>omega,hs.out⟩))))))
  ·refine .af (.z fy (.zn zg (.bh rfl (fun vC=>?_) (fun vC=>?_))))
   ·refine .af (.z zm (.z zm (.bif (t':=47) rfl (fun NH=>?_) (fun NH=>?_))))
    ·exact .T (.z (zfa eF) (.T (.y hs (zld aj) (.T (.z fy (.z zpT (.zn zg (.ret (rB (rT (Fin.bj oo rfl ⟨_,rfl,by rw [hi];simp_all<;>omega,hs.out⟩)))))))))))
    ·exact .Fs 3 1 true (.z zpF (.zn zg (.ret (rB (rT (Fin.bj oo rfl ⟨_,rfl,by rw [hi];simp_all<;>omega,hs.out⟩))))))
   ·refine .af (.z fy (.zn zg (.bh rfl (fun vB=>?_) (fun vB=>?_))))
    ·refine .af (.z zm (.z zm (.bif (t':=55) rfl (fun QD=>?_) (fun QD=>?_))))
     ·exact .T (.z zm (.z zpT (.zn zg (.ret (rB (rT (Fin.bj oo rfl ⟨_,rfl,by rw [hi];simp_all<;>omega,hs.out⟩)))))))
     ·exact .Fs 1 1 true (.z zpF (.zn zg (.ret (rB (rT (Fin.bj oo rfl ⟨_,rfl,by rw [hi];simp_all<;>omega,hs.out⟩))))))
    ·exact .skip (nB (nT (.af (.zn zg (.ret (Fin.bj oo rfl ⟨_,rfl,by rw [hi];simp_all<;>omega,hs.out⟩))))))
set_option maxHeartbeats 2000000 in
theorem po{w:World}{q:Wht}(hs:St H w σ)(h1:RI H cE s.st)(h2:RI H cB s.wa)(aZ:ft s)(hq:gR s q):
  aaR 156 [.agg #[I s.id,I s.src,cE,cB,I s.al,I s.up],.agg #[I q.kind,I q.st,I q.wa]] w fun v w'=>∃H1 vl en,HLe H H1∧v= .tuple #[vl,I (pT q)]∧cU 1 vl (Is (kW s q)) en∧St H1 w' (en::σ):=by
 obtain ⟨gv,gu,rfl⟩:=RI.shape h1;obtain ⟨fq,fp,rfl⟩:=RI.shape h2;have pG:=eM aZ;have yB:=(RI.len h2).2.1;have yz:=aZ.st.many;have S7:=aZ.wa.many;have hlen:=fW s q;have hqq:=q9.1 hq;simp only [Spc.isW,Spc.isS] at hqq;refine Cl.o func156 ntmps156 ag2 ?_;refine .af (.bx hs fun b2 w hs=>?_);refine .bx hs fun b3 w hs=>?_
 refine .z zg (.zn zg (.af (.y hs (zls [_,_,_,_,_,_] bE aP) (.o (.call Za rfl (eK (s:=s) hs h1 h2 ⟨ai,ai⟩) ?_)))));rintro _ w ⟨rfl,hs⟩;refine .z cH (.o (.yu (s.many+1) hs rfl rfl ae kS rfl an dD ai fun Gr w hs=>?_));have Ll:=WI.start s;generalize List.replicate (s.many+1) (0:Int)=L0 at hs Ll;refine .zn zg (.seq (.af (.z (zfa qc) (.y hs (zld aj) (.nil (.block (.af (.z fy (.zn zg (.bh rfl (fun mK=>?_) (fun mK=>?_)))))))))))
 ·refine .seq (.draw mix rfl hs fun w hs=>?_);refine .zw 0 rfl (zfa bO) ?_;refine .y 1 rfl hs aq ?_;refine .z 2 rfl (zfa aQ) ?_;refine .y 3 rfl hs aq ?_;refine .z 4 rfl (zfa eF) ?_;refine .y 5 rfl hs aj ?_;refine .z 6 rfl cH ?_;obtain ⟨Ep,_,⟨V3,hw3⟩,hw1⟩:q.kind=1∧q.st=0∧(0≤q.wa∧q.wa≤(s.wa.length:Int) - 1)∧0<q.wa:=by omega
  obtain ⟨m,hm⟩:∃m:Nat,q.wa=m:=⟨q.wa.toNat,ai⟩;have WQ:q.wa.toNat=m:=by omega
  have hP:fP 7 15000 (s.wa.take (m+1)):=aZ.wa.take ai ai;have Qq:pT q=648000000:=by unfold pT;rw [if_pos Ep]
  refine .zw 7 rfl (rE (k:=m+1) rfl rfl ae an ai ai) (.E 8 hs ?_);refine .call call213 rfl (zW hs h1 (h2.head (k:=m+1) ai) aZ.st hP) ?_;rintro _ w ⟨H1,vo,az,rfl,hG,hs⟩;have U8:=mc (wts s.st) (wts (s.wa.take (m+1))) s.st.length;have yZ:(wts (s.wa.take (m+1))).length=m+1:=by rw [fu,List.length_take];omega
  have W7:∀i<s.st.length,(gr (pR (wts s.st) (wts (s.wa.take (m+1))) s.st.length) i).length=m+1:=fun i hi=>by rw [C0 hi,lM,yZ]
  have RJ:∀i<s.st.length,∀k≤m,gi (gr (pR (wts s.st) (wts (s.wa.take (m+1))) s.st.length) i) k=mA s q i k:=fun i hi k hk=>by
   have:=Hv (X:=wts s.st) (Y:=wts (s.wa.take (m+1))) (n:=s.st.length) (k:=k) hi ai;unfold gt at this;rw [this];unfold mA;rw [if_pos Ep,if_pos ai,WQ]
  have W4:∀i k,m<k→mA s q i k=0:=fun i k hk=>by unfold mA;rw [if_pos Ep,if_neg ai]
  generalize pR (wts s.st) (wts (s.wa.take (m+1))) s.st.length=G at*;obtain ⟨aG,cG,rfl⟩:=hG.shape;refine .go (.zw 9 rfl zm ?_);refine .z 10 rfl zex ?_;refine .z 11 rfl zex ?_;refine .z 12 rfl zg ?_;refine .z 13 rfl zg ?_;refine .D hs ?_;refine .seq (.af (.zn zg (.block ?_)));refine .loop (fun i:Nat=>⟨127,[],[(9,I (i:Int)),(7,.slice aG G.length cG),(6,.slice (some ⟨Gr,0,none⟩) (s.many+1) (s.many+1)),(3,Pt b3),(2,Pt b2)]⟩)
   (fun i w=>i≤s.st.length∧∃L,WI s L (fun i' k'=>if i'<i then mA s q i' k' else 0)∧St H1 w (.blk Gr (Is L):: .blk b3 [I q.kind,I q.st,I q.wa]:: .blk b2 [I s.id,I s.src,.slice gv s.st.length gu,.slice fq s.wa.length fp,I s.al,I s.up]::σ)) (fun i=>s.st.length - i) 0 (.cD rfl bH aH)
   ⟨Nat.zero_le _,L0,Ll.congr fun i k _ _=>by rw [if_neg ai],hs⟩ ?_
  clear hs Ll;rintro i w ⟨hi,L,hW,hs⟩;refine .seq (.af (.z zm (.z zm (.z (de au) (.zn fN (.bh rfl (fun nN=>?_) (fun nN=>?_)))))))
  ·refine .skip (nT (.seq (.block (.af (.zn zg (.block ?_))))));refine .loop (fun k:Nat=>⟨127,[],[(10,I (k:Int)),(9,I (i:Int)),(7,.slice aG G.length cG),(6,.slice (some ⟨Gr,0,none⟩) (s.many+1) (s.many+1)),(3,Pt b3),(2,Pt b2)]⟩)
    (fun k w=>k≤m+1∧∃L,WI s L (fun i' k'=>if i'<i∨(i'=i∧k'<k) then mA s q i' k' else 0)∧St H1 w (.blk Gr (Is L):: .blk b3 [I q.kind,I q.st,I q.wa]:: .blk b2 [I s.id,I s.src,.slice gv s.st.length gu,.slice fq s.wa.length fp,I s.al,I s.up]::σ)) (fun k=>m+1 - k) 0 (.cD rfl bH aH)
    ⟨Nat.zero_le _,L,hW.congr fun i' k' _ _=>by
     by_cases e:i'<i
     ·rw [if_pos e,if_pos (.inl e)]
     ·rw [if_neg e,if_neg ai],hs⟩ ?_
   clear hs hW;rintro k w ⟨hk,L,hW,hs⟩;have TV:=hW.len;have pI:i<s.st.length:=by omega
   have W6:=W7 i pI;refine .seq (.af (.z zm (.z zm (.z zm (.ixT hs hG rfl rfl au aI (show i<_ by omega) cK ?_)))));intro Vq o46 a46 c46 F8 hR46;refine .q hs (aC rfl aq F8) (.z (de ae) ?_);rw [W6];refine .zn fN (.bh rfl (fun sX=>?_) (fun sX=>?_))
   ·refine .skip (nT (.seq (.block (.draw mix rfl hs fun w hs=>?_))));have tj:k<m+1:=by omega
    have V7:=AX (s:=s) (i:=i) (k:=k) pI ai;refine .zw 0 rfl zm ?_;refine .ys 1 rfl hs [_,_,_,_,_,_] bE aP ?_;refine .z 2 rfl zm ?_;refine .z 3 rfl zm ?_;refine .z 5 rfl zm ?_;refine .z 6 rfl zm ?_;refine .ixT (i:=7) hs rfl aA .none hG rfl rfl au aI (show i<_ by omega) cK ?_;intro b59 o59 a59 c59 F6 XX;refine .r (i:=8) hs rfl aA .none (aC rfl aq F6) ?_;refine .zw 9 rfl zm (.ixX (enc:=fun x=>[I x]) (i:=10) hs rfl aA .none XX rfl rfl ae an (bu (l:=(gr G i)) (i:=k) ai) cK ?_);intro Pw o62 CW;replace CW:=bD.one CW;refine .r (i:=11) hs rfl aA .none (aC rfl aj CW) ?_;refine .E 4 hs ?_;refine .call DJ rfl (dN (s:=s) hs (h2.mono az) ai ⟨ai,ai⟩ ⟨ai,ai⟩) ?_;rintro _ w ⟨rfl,hs⟩;rw [Cq];refine .go (.zw 12 rfl (eS (k:=s.u i k) rfl rfl ae an rfl ai) (.E 13 hs ?_));refine .store hs rfl rfl an ?_ dy (by simp [Is];omega);intro w hs;refine .go (.D hs (nB (nT (.region (.z zm (.z cH (.zn zg (nT ?_))))))));exact ⟨k+1,.cD rfl bH aH,⟨ai,_,(hW.set pI ai _).congr fun i' k' _ _=>by
     rw [RJ i pI k ai];by_cases e:i'=i∧k'=k
     ·obtain ⟨rfl,rfl⟩:=e;rw [if_pos ⟨rfl,rfl⟩,if_pos (.inr ⟨rfl,ai⟩)]
     ·rw [if_neg e];by_cases e2:i'<i∨(i'=i∧k'<k)
      ·rw [if_pos e2,if_pos ai]
      ·rw [if_neg e2,if_neg ai],hs⟩,ai⟩
   ·refine .exit (xT (xT (xB (nB (nT (.region (.z zm (.z cH (.zn zg (nT ?_))))))))));exact ⟨i+1,.cD rfl bH aH,⟨ai,L,hW.congr fun i' k' _ _=>by
     by_cases e:i'<i+1
     ·rw [if_pos e];by_cases e2:i'<i∨(i'=i∧k'<k)
      ·rw [if_pos e2]
      ·rw [if_neg e2,W4 i' k' ai]
     ·rw [if_neg e,if_neg ai],hs⟩,ai⟩
  ·refine .exit (xT (xT (xB (nT (.af (.z zm (.z zg (.zn zg (.ret (rB (rT (Fin.gU results156 rfl rfl ?_))))))))))));obtain rfl:=(hW.congr (g:=mA s q) fun i' k' y7 _=>by rw [if_pos ai]).fin;rw [←Qq];exact ⟨H1,_,_,az,rfl,.full (by simp [Is,hlen]),hs.sb⟩
 ·refine .af (.z fy (.zn zg (.bh rfl (fun tT=>?_) (fun tT=>?_))))
  ·refine .af (.z (zfa bO) (.y hs (zld aq) ?_));have Ep:q.kind=2:=by omega
   obtain ⟨m,hm⟩:∃m:Nat,q.wa=m:=⟨q.wa.toNat,ai⟩;have Qq:pT q=180000:=by unfold pT;rw [if_neg ai,if_pos ai]
   have hl:=fu s.st;have V2:∀i k,mA s q i k=if k=m then gi (wts s.st) i else 0:=fun i k=>by
    unfold mA;rw [if_neg ai,if_pos Ep];by_cases e:k=m
    ·rw [if_pos e,if_pos ai]
    ·rw [if_neg e,if_neg ai]
   refine .o (.call call214 rfl (ou hs h1 aZ.st) ?_);rintro _ w ⟨H1,vo,az,rfl,hX,hs⟩;obtain ⟨aX,cX,rfl⟩:=RI.shape hX;rw [hl];refine .z zm (.z zex (.z zex (.z zg (.zn zg (.seq (.af (.zn zg (.block ?_))))))));refine .loop (fun i:Nat=>⟨127,[],[(13,I (i:Int)),(11,.slice aX s.st.length cX),(6,.slice (some ⟨Gr,0,none⟩) (s.many+1) (s.many+1)),(3,Pt b3),(2,Pt b2)]⟩)
    (fun i w=>i≤s.st.length∧∃L,WI s L (fun i' k'=>if i'<i then mA s q i' k' else 0)∧St H1 w (.blk Gr (Is L):: .blk b3 [I q.kind,I q.st,I q.wa]:: .blk b2 [I s.id,I s.src,.slice gv s.st.length gu,.slice fq s.wa.length fp,I s.al,I s.up]::σ)) (fun i=>s.st.length - i) 0 (.cD rfl bH aH)
    ⟨Nat.zero_le _,L0,Ll.congr fun i k _ _=>by rw [if_neg ai],hs⟩ ?_
   clear hs Ll;rintro i w ⟨hi,L,hW,hs⟩;have TV:=hW.len;rw [hl] at hX;refine .seq (.af (.z zm (.z zm (.z (de ae) (.zn fN (.bh rfl (fun KU=>?_) (fun KU=>?_)))))))
   ·refine .skip (nT (.seq (.block (.draw mix rfl hs fun w hs=>?_))));refine .zw 0 rfl zm ?_;refine .ys 1 rfl hs [_,_,_,_,_,_] bE aP ?_;refine .z 2 rfl zm ?_;refine .z 3 rfl (zfa eF) ?_;refine .y 4 rfl hs aj ?_;refine .z 6 rfl zm ?_;refine .z 7 rfl zm ?_;refine .ixX (enc:=fun x=>[I x]) (i:=8) hs rfl aA .none (by rw [hl] at*;exact hX) rfl rfl ae an (bu (l:=wts s.st) (i:=i) ai) cK ?_;intro aaI o88 tS;replace tS:=bD.one tS;refine .zv 9 rfl hs (p8 aj) (.E 5 hs ?_);have pI:i<s.st.length:=by omega
    have V7:=AX (s:=s) (i:=i) (k:=m) pI ai;refine .call DJ rfl (dN (s:=s) hs (h2.mono az) ai ⟨ai,ai⟩ ⟨ai,ai⟩) ?_;rintro _ w ⟨rfl,hs⟩;rw [show 1+(i:Int)*(s.wa.length:Int)+q.wa=(s.u i m:Int) by rw [hm,Cq]];refine .go (.zw 10 rfl (eS (k:=s.u i m) rfl rfl ae an rfl ai) (.E 11 hs ?_));refine .store hs rfl rfl an ?_ dy (by simp [Is];omega);intro w hs;refine .go (.D hs (nB (nT (.region (.z zm (.z cH (.zn zg (nT ?_))))))));exact ⟨i+1,.cD rfl bH aH,⟨ai,_,(hW.set pI (show m<s.wa.length by omega) _).congr fun i' k' _ _=>by
     rw [V2 i' k'];by_cases e:i'=i∧k'=m
     ·obtain ⟨rfl,rfl⟩:=e;rw [if_pos ⟨rfl,rfl⟩,if_pos (Nat.lt_succ_self _),if_pos rfl]
     ·rw [if_neg e];by_cases e2:i'<i
      ·rw [if_pos e2,if_pos (show i'<i+1 by omega)]
      ·rw [if_neg e2];by_cases e3:i'<i+1
       ·rw [if_pos e3,if_neg (show ¬k'=m by omega)]
       ·rw [if_neg e3],hs⟩,ai⟩
   ·refine .exit (xT (xT (xB (nT (.af (.z zm (.z zg (.zn zg (.ret (rB (rT (Fin.gU results156 rfl rfl ?_))))))))))));obtain rfl:=(hW.congr (g:=mA s q) fun i' k' y7 _=>by rw [if_pos ai]).fin;rw [←Qq];exact ⟨H1,_,_,az,rfl,.full (by simp [Is,hlen]),hs.sb⟩
  ·refine .af (.z fy (.zn zg (.bh rfl (fun KS=>?_) (fun KS=>?_))))
   ·refine .af (.z (zfa aQ) (.y hs (zld aq) ?_));have Ep:q.kind=3:=by omega
    obtain ⟨m,hm⟩:∃m:Nat,q.st=m:=⟨q.st.toNat,ai⟩;have Qq:pT q=180000:=by unfold pT;rw [if_neg ai,if_pos ai]
    have hl:=fu s.wa;have V2:∀i k,mA s q i k=if i=m then gi (wts s.wa) k else 0:=fun i k=>by
     unfold mA;rw [if_neg ai,if_neg ai,if_pos Ep];by_cases e:i=m
     ·rw [if_pos e,if_pos ai]
     ·rw [if_neg e,if_neg ai]
    refine .o (.call call214 rfl (ou hs h2 (Fw aZ)) ?_);rintro _ w ⟨H1,vo,az,rfl,hX,hs⟩;obtain ⟨aX,cX,rfl⟩:=RI.shape hX;rw [hl];refine .z zm (.z zex (.z zex (.z zg (.zn zg (.seq (.af (.zn zg (.block ?_))))))));refine .loop (fun k:Nat=>⟨127,[],[(16,I (k:Int)),(14,.slice aX s.wa.length cX),(6,.slice (some ⟨Gr,0,none⟩) (s.many+1) (s.many+1)),(3,Pt b3),(2,Pt b2)]⟩)
     (fun k w=>k≤s.wa.length∧∃L,WI s L (fun i' k'=>if k'<k then mA s q i' k' else 0)∧St H1 w (.blk Gr (Is L):: .blk b3 [I q.kind,I q.st,I q.wa]:: .blk b2 [I s.id,I s.src,.slice gv s.st.length gu,.slice fq s.wa.length fp,I s.al,I s.up]::σ)) (fun k=>s.wa.length - k) 0 (.cD rfl bH aH)
     ⟨Nat.zero_le _,L0,Ll.congr fun i k _ _=>by rw [if_neg ai],hs⟩ ?_
    clear hs Ll;rintro k w ⟨hi,L,hW,hs⟩;have TV:=hW.len;rw [hl] at hX;refine .seq (.af (.z zm (.z zm (.z (de ae) (.zn fN (.bh rfl (fun EB=>?_) (fun EB=>?_)))))))
    ·refine .skip (nT (.seq (.block (.draw mix rfl hs fun w hs=>?_))));refine .zw 0 rfl zm ?_;refine .ys 1 rfl hs [_,_,_,_,_,_] bE aP ?_;refine .z 2 rfl (zfa fC) ?_;refine .y 3 rfl hs aj ?_;refine .z 4 rfl zm ?_;refine .z 6 rfl zm ?_;refine .z 7 rfl zm ?_;refine .ixX (enc:=fun x=>[I x]) (i:=8) hs rfl aA .none (by rw [hl] at*;exact hX) rfl rfl ae an (bu (l:=wts s.wa) (i:=k) ai) cK ?_;intro YJ o114 Lb;replace Lb:=bD.one Lb;refine .zv 9 rfl hs (p8 aj) (.E 5 hs ?_);have pI:k<s.wa.length:=by omega
     have V7:=AX (s:=s) (i:=m) (k:=k) ai pI;refine .call DJ rfl (dN (s:=s) hs (h2.mono az) ai ⟨ai,ai⟩ ⟨ai,ai⟩) ?_;rintro _ w ⟨rfl,hs⟩;rw [show 1+q.st*(s.wa.length:Int)+(k:Int)=(s.u m k:Int) by rw [hm,Cq]];refine .go (.zw 10 rfl (eS (k:=s.u m k) rfl rfl ae an rfl ai) (.E 11 hs ?_));refine .store hs rfl rfl an ?_ dy (by simp [Is];omega);intro w hs;refine .go (.D hs (nB (nT (.region (.z zm (.z cH (.zn zg (nT ?_))))))));exact ⟨k+1,.cD rfl bH aH,⟨ai,_,(hW.set (show m<s.st.length by omega) pI _).congr fun i' k' _ _=>by
      rw [V2 i' k'];by_cases e:i'=m∧k'=k
      ·obtain ⟨rfl,rfl⟩:=e;rw [if_pos ⟨rfl,rfl⟩,if_pos (Nat.lt_succ_self _),if_pos rfl]
      ·rw [if_neg e];by_cases e2:k'<k
       ·rw [if_pos e2,if_pos (show k'<k+1 by omega)]
       ·rw [if_neg e2];by_cases e3:k'<k+1
        ·rw [if_pos e3,if_neg (show ¬i'=m by omega)]
        ·rw [if_neg e3],hs⟩,ai⟩
    ·refine .exit (xT (xT (xB (nT (.af (.z zm (.z zg (.zn zg (.ret (rB (rT (Fin.gU results156 rfl rfl ?_))))))))))));obtain rfl:=(hW.congr (g:=mA s q) fun i' k' _ tj=>by rw [if_pos ai]).fin;rw [←Qq];exact ⟨H1,_,_,az,rfl,.full (by simp [Is,hlen]),hs.sb⟩
   ·refine .skip (nB (nT (.af (.z zm (.y hs (zls [_,_,_,_,_,_] bE aP) (.z (zfa fC) (.y hs (zld aj) (.z (zfa eF) (.y hs (zld aj) ?_)))))))));have Ep:q.kind=4:=by omega
    obtain ⟨m,hm⟩:∃m:Nat,q.st=m:=⟨q.st.toNat,ai⟩;obtain ⟨c,hc⟩:∃c:Nat,q.wa=c:=⟨q.wa.toNat,ai⟩;have Qq:pT q=1:=by unfold pT;rw [if_neg ai,if_neg ai]
    have V7:=AX (s:=s) (i:=m) (k:=c) ai ai;have TV:=Ll.len;refine .o (.call DJ rfl (dN (s:=s) hs h2 ai ⟨ai,ai⟩ ⟨ai,ai⟩) ?_);rintro _ w ⟨rfl,hs⟩;rw [hm,hc,Cq];refine .q hs (eS (k:=s.u m c) rfl rfl ae an rfl ai) (.o (.store hs rfl rfl an ?_ dy (by simp [Is];omega)));intro w hs;refine .nil (.af (.z zm (.z zg (.zn zg (.ret (Fin.gU results156 rfl rfl ?_))))));have Bl:=((Ll.set (show m<s.st.length by omega) (show c<s.wa.length by omega) 1).congr (g:=mA s q) fun i' k' _ _=>by
     unfold mA;rw [if_neg (show ¬q.kind=1 by omega),if_neg (show ¬q.kind=2 by omega),if_neg (show ¬q.kind=3 by omega)];by_cases e:i'=m∧k'=c
     ·rw [if_pos e,if_pos ai]
     ·rw [if_neg e,if_neg ai]).fin
    rw [Bl] at hs;rw [←Qq];exact ⟨H,_,_,HLe.refl H,rfl,.full (by simp [Is,hlen]),hs.sb⟩
theorem k8{w:World}(hs:St H w σ)(hd:1≤d)(ha: -4608000000000000000≤a∧a≤4608000000000000000):
  aaR 119 [I a,I d] w fun v w'=>v=I (a/d)∧St H w' σ:=by
 have hq: -4608000000000000000≤a.tdiv d∧a.tdiv d≤4608000000000000000:=by
  have h1:=sF (n:=a) (d:=d) ai;have h2:a/d≤4608000000000000000:=Int.ediv_le_of_le_mul ai (by
   have:=Int.mul_le_mul_of_nonneg_left hd (show (0:Int)≤4608000000000000000 by omega);omega)
  have h3: -4608000000000000000≤a/d:=Int.le_ediv_of_mul_le ai (by
   have:=Int.mul_le_mul_of_nonneg_left hd (show (0:Int)≤4608000000000000000 by omega);omega)
  by_cases h0:0≤a
  ·rw [Int.tdiv_eq_ediv_of_nonneg h0];omega
  ·split at h1
   ·have:a/d<0:=Int.ediv_neg_of_neg_of_pos ai ai;omega
   ·omega
 have A2:=sF (n:=a) (d:=d) ai;refine Cl.o func119 ntmps119 ag2 ?_;refine .af (.zn zg (.af (.z zm (.z zm (.q hs (uO rfl rfl ai ⟨ai,ai⟩) (.zn zg (.seq (.af (.z zm (.z zm (.z E9 (.zn fN (.bh rfl (fun fl=>?_) (fun fl=>?_))))))))))))))
 ·refine .region (.z zm (.z gx (.zn zg (nT (.af (.z zm (.zn zg (.ret (Fin.bj results119 rfl ?_)))))))));rw [if_pos fl] at A2;exact ⟨by rw [A2],hs⟩
 ·refine .skip (nT (.af (.z zm (.zn zg (.ret (Fin.bj results119 rfl ?_))))));rw [if_neg fl,Int.sub_zero] at A2;exact ⟨by rw [A2],hs⟩
inductive E3(v:Srv)(q:Wht):Int→Prop
 |bad {e:Int} (h:Cg v e) (he:e≠0):E3 v q e
 |what (h:eW v) (h1:¬gR v.sp q):E3 v q 33
 |ok (h:eW v) (h1:gR v.sp q):E3 v q 0
theorem E3.zero{v:Srv}{q:Wht}(h:E3 v q 0):eW v∧gR v.sp q:=by
 generalize hz:(0:Int)=z at h
 cases h with
 |bad h he=>exact (he hz.symm).elim
 |what=>omega
 |ok h h1=>exact ⟨h,h1⟩
theorem E3.qty{v:Srv}{q:Wht}(h:E3 v q e)(he:e≠0):Gu v q 0 0 e:=by
 cases h with
 |bad h he=>exact .bad h he
 |what h h1=>exact .what h h1
 |ok=>exact (he rfl).elim
theorem GN{v:Srv}(h:eW v){q:Wht}(hq:gR v.sp q)(i:Nat): -3456000000000≤gi (v.w q) i∧gi (v.w q) i≤3456000000000:=by
 unfold Srv.w;rw [mf];by_cases hi:i<v.sp.many+1
 ·have h1:=nr h.early.1 hq;have h2:=jV (kW v.sp q) hi;omega
 ·have:gi (kW v.sp q) i=0:=by simp [gi,List.getD,List.getElem?_eq_none (show (kW v.sp q).length≤i by rw [fW];omega)]
  rw [this];omega
def Bt(w:List Int)(high:Bool):List Int:=if high then w else u6 w
set_option maxHeartbeats 2000000 in
theorem yb{w:World}{s:Srv}{q:Wht}(hs:St H w σ)(h1:RI H cE s.sp.st)(h2:RI H cB s.sp.wa)(h3:RRd H vr s.rs)(h4:RCm H vc s.cs):
  aaR 201 [.agg #[I s.sp.id,I s.sp.src,cE,cB,I s.sp.al,I s.sp.up,vr,vc],.agg #[I q.kind,I q.st,I q.wa],.bool high] w fun u w'=>∃H1 m ul vw d e,HLe H H1∧u= .tuple #[.agg #[I m,ul],vw,I d,I e]∧(∃a l c,ul= .slice a l c)∧(∃a l c,vw= .slice a l c)∧E3 s q e∧(e=0→m=s.sys.many∧RL H1 ul s.df∧RI H1 vw (Bt (s.w q) high)∧d=pT q)∧St H1 w' σ:=by
 have hn:=Bc s;refine Cl.o func201 ntmps201 ag3 ?_;refine .af (.bx hs fun b3 w hs=>?_);refine .bx hs fun b4 w hs=>?_
 refine .o (.alloc hs fk rfl fun b6 w hs=>?_);refine .z zg (.z zg (.zn zg (.af (.y hs (zls [_,_,_,_,_,_,_,_] bA aM) (.o (.call call123 rfl (mE (s:=s) hs h1 h2 h3 h4) ?_))))));rintro _ w ⟨H1,e,az,rfl,hC,hs⟩;refine .zn zg (.seq (.af (.z zm (.zn fV (.dK rfl (fun ib=>?_) (fun ib=>?_))))))
 ·refine .af (.z (zbd [_,_] kl) (.z zm (.o (.aE (vs:=[_,_]) hs rfl rfl aV fun w hs=>?_))));exact .z zg (.z zg (.zn zg (.ret (rT ((Fin.iT [] [] hs fun w hs=>⟨_,results4 results201 (dp (vs:=[_,_]) hs rfl cn aV) rfl rfl rfl,H1,_,_,_,_,e,az,rfl,⟨_,_,_,rfl⟩,⟨_,_,_,rfl⟩,.bad hC ib,fun h=>(ib h).elim,hs.out⟩))))))
 ·refine .skip (nT (.seq (.af (.z (zfa aW) (.y hs (zls [_,_,_,_,_,_] bE aP) (.y hs (zls [_,_,_] oW jY) ?_))))));have aZ:eW s:=hC.dX.1 (by simpa using ib);have hm:=aZ.many;have pG:s.sys.many+1=(s.sys.n:Int):=by rw [hn];show ((s.sp.many+s.cQ.length:Nat):Int)+1=_;omega
  refine .o (.call call155 rfl (pq (s:=s.sp) (q:=q) hs (h1.mono az) (h2.mono az)) ?_);rintro _ w ⟨ue,rfl,qS,hs⟩;refine .zn fU (.cond rfl (fun fc=>?_) (fun fc=>?_))
  ·refine .af (.z (zbd [_,_] kl) (.o (.aE (vs:=[_,_]) hs rfl rfl aV fun w hs=>?_)));exact .z zg (.z zg (.zn zg (.ret (rT ((Fin.iT [] [] hs fun w hs=>⟨_,results4 results201 (dp (vs:=[_,_]) hs rfl cn aV) rfl rfl rfl,H1,_,_,_,_,_,az,rfl,⟨_,_,_,rfl⟩,⟨_,_,_,rfl⟩,.what aZ (fun h=>by rw [qS.2 h] at fc;cases fc),fun h=>by omega,hs.out⟩))))))
  ·refine .skip (nT (.af (.y hs (zls [_,_,_,_,_,_,_,_] bA aM) ?_)));have hq:gR s.sp q:=qS.1 (by simpa using fc);have hwb:=GN aZ hq;have Bj:=rk s q;refine .o (.call call205 rfl (lP (s:=s) hs (h1.mono az) (h2.mono az) (h3.mono az) (h4.mono az) aZ.early) ?_);rintro _ w ⟨H2,bg,⟨ul,rfl,hL⟩,hs⟩;obtain ⟨al,cl,rfl⟩:=RL.shape hL;have dq:=az.trans bg;refine .o (.alloc hs fk rfl fun Cd w hs=>?_);refine .o (.aE (vs:=[_,_]) hs rfl rfl aV fun w hs=>?_);refine .nil (.af (.z (zfa aW) (.y hs (zls [_,_,_,_,_,_] bE aP) (.y hs (zls [_,_,_] oW jY) (.o (.call call156 rfl (po (s:=s.sp) (q:=q) hs (h1.mono dq) (h2.mono dq) aZ.early.1 hq) ?_))))));rintro _ w ⟨H3,vl,en,bZ,rfl,hO,hs⟩;have ee:=dq.trans bZ;have aaz:=fW s.sp q;refine .z zm (.z zex (.z zex (.z zg (.zn zg (.seq (.block ?_))))));refine .loop (fun p:Nat×Value=>⟨64,[],[(12,p.2),(13,I (pT q)),(11,Pt Cd),(6,Pt b6),(2,.bool high)]⟩)
    (fun p w=>(kW s.sp q).length+p.1≤s.sys.n∧∃en,cU 1 p.2 (Is (kW s.sp q++List.replicate p.1 0)) en∧St H3 w (en:: .blk Cd [I s.sys.many,.slice al s.df.length cl]:: .blk b6 [I 0,.slice none 0 0]::σ)) (fun p=>s.sys.n - ((kW s.sp q).length+p.1)) (0,vl) aH
    ⟨by dsimp only;omega,en,by simpa using hO,hs.sb⟩ ?_
   clear hO hs;rintro ⟨j,vo⟩ w ⟨hj,en,hO,hs⟩;dsimp only at hj hO ⊢;obtain ⟨bo,cap,sp,hv,rfl,yB⟩:=hO.blk (by simp;omega);cases hv
   have hWxl:(kW s.sp q++List.replicate j 0).length=(kW s.sp q).length+j:=by simp
   generalize XM:kW s.sp q++List.replicate j 0=Wx at*;refine .seq (.af (.z zm (.z (de ae) (.z (zfa cz) (.y hs (zld aj) (.z cH (.zn fN (.bh rfl (fun rO=>?_) (fun rO=>?_)))))))))
   ·refine .skip (nT (.block (.region (.z zm (.o (.buildSlice (cells:=[_]) hs cV rfl rfl fun Uo w hs=>?_))))));refine .o (.append (ys:=Is [0]) hs cA rfl rfl hO (.own .here rfl rfl) (iP _) (fun l' h=>by simp [Is] at h;omega) ?_);intro v44 en44 w dY hs;rw [←XM,show Is (kW s.sp q++List.replicate j 0)++Is [0]=Is (kW s.sp q++List.replicate (j+1) 0) by rw [←HO];simp [Is]] at dY;exact .zn zg (nB (nT ⟨(j+1,v44),aH,⟨by dsimp only;omega,_,dY,hs.sb⟩,by dsimp only;omega⟩))
   ·refine .exit (xT (xT (xB (nT (.cut (fun fs w=>∃W',W'=Bt Wx high∧kG fs ⟨64,[],[(12,.slice (some ⟨bo,0,none⟩) Wx.length cap),(13,I (pT q)),(11,Pt Cd),(6,Pt b6)]⟩∧St H3 w (.blk bo (Is W'++sp):: .blk Cd [I s.sys.many,.slice al s.df.length cl]:: .blk b6 [I 0,.slice none 0 0]::σ)) ?_ ?_)))))
    ·refine .af (.z zm (.zn fU (.cond rfl (fun F8=>?_) (fun F8=>?_))))
     ·refine .af (.zn zg (.block ?_));have QK:Wx=s.w q:=by rw [←XM];unfold Srv.w;rw [show j=s.cQ.length by omega]
      subst QK;refine .loop (fun k:Nat=>⟨64,[],[(14,I (k:Int)),(12,.slice (some ⟨bo,0,none⟩) (s.w q).length cap),(13,I (pT q)),(11,Pt Cd),(6,Pt b6)]⟩)
       (fun k w=>k≤s.sys.n∧∃L,L.length=s.sys.n∧(∀v<s.sys.n,gi L v=if v<k then -gi (s.w q) v else gi (s.w q) v)∧St H3 w (.blk bo (Is L++sp):: .blk Cd [I s.sys.many,.slice al s.df.length cl]:: .blk b6 [I 0,.slice none 0 0]::σ)) (fun k=>s.sys.n - k) 0 (.cD rfl bH aH)
       ⟨Nat.zero_le _,s.w q,Bj,fun v _=>by rw [if_neg ai],hs⟩ ?_
      clear hs;rintro k w ⟨hk,L,Vi,Yb,hs⟩;refine .seq (.af (.z zm (.z zm (.z (de ae) (.zn fN (.bh rfl (fun Ew=>?_) (fun Ew=>?_)))))))
      ·refine .skip (nT (.seq (.block (.region (.z zm (.z zm (.z zm (.z zm ?_))))))));have Nu:k<s.sys.n:=by omega
       have Tm:=Yb k Nu;rw [if_neg ai] at Tm;have Ju:=hwb k;refine .q hs (eS (k:=k) rfl rfl ae an rfl ai) (.q hs (eG rfl aj (hv:=gQ ai sp)) (.z Fm (.q hs (eS (k:=k) rfl rfl ae an rfl ai) (.o (.store (c':=Is (L.set k (-gi L k))++sp) hs rfl rfl an ?_ dy (by simp [Is];omega) (km ai sp _))))));intro w hs;refine .nil (nB (nT (.region (.z zm (.z cH (.zn zg (nT ?_)))))));exact ⟨k+1,.cD rfl bH aH,⟨ai,_,by rw [List.length_set];exact Vi,fun v hv=>by
        rw [fo ai];by_cases e:v=k
        ·subst e;rw [if_pos rfl,if_pos ai,Tm]
        ·rw [if_neg e,Yb v hv];by_cases e2:v<k
         ·rw [if_pos e2,if_pos ai]
         ·rw [if_neg e2,if_neg ai],hs⟩,ai⟩
      ·refine .exit (xT (xT (xB (nT ?_))));have hf:high=false:=by simpa using F8
       refine ⟨L,?_,aH,hs⟩;unfold Bt;rw [hf];refine B9 (by rw [Vi];simp [u6,Bj]) fun v hv=>?_
       rw [Yb v ai,if_pos ai];show _=gi ((s.w q).map fun x=> -x) v;simp [gi,List.getD,List.getElem?_map];cases (s.w q)[v]? <;>simp
     ·refine .skip (nT ?_);have hf:high=true:=by simpa using F8
      exact ⟨Wx,by unfold Bt;rw [hf];rfl,aH,hs⟩
    ·clear hO hs;rintro fs w ⟨W',Dx,fM,hs⟩;refine WE.sub ?_ fM;have QK:Wx=s.w q:=by rw [←XM];unfold Srv.w;rw [show j=s.cQ.length by omega]
     subst QK;have TV:W'.length=(s.w q).length:=by rw [Dx];unfold Bt;split<;>simp [u6]
     refine .af (.y hs (zls [_,_] cn aV) (.z zm (.z zm (.o (.aE (vs:=[_,_]) hs rfl rfl aV fun w hs=>?_)))));refine .z zg (.z zg (.zn zg (.ret ?_)));obtain ⟨H4,eH,hR,hs⟩:=cU.dR (xs:=W') (v:= .slice (some ⟨bo,0,none⟩) (s.w q).length cap) (.inr ⟨bo,_,cap,sp,rfl,rfl,by simp [Is,TV],by simp [Is];omega,ai⟩) ai hs dy;exact Fin.iT [] [] hs fun w hs=>⟨_,results4 results201 (dp (vs:=[_,_]) hs rfl cn aV) rfl rfl rfl,H4,_,_,_,_,_,ee.trans eH,rfl,⟨_,_,_,rfl⟩,⟨_,_,_,rfl⟩,.ok aZ hq,fun _=>⟨rfl,hL.mono (bZ.trans eH),by rw [←Dx];exact hR,rfl⟩,hs.out⟩
set_option maxHeartbeats 1000000 in
theorem ye{w:World}{s:Srv}{q:Wht}(hs:St H w σ)(h1:RI H cE s.sp.st)(h2:RI H cB s.sp.wa)(h3:RRd H vr s.rs)(h4:RCm H vc s.cs):
  aaR 143 [.agg #[I s.sp.id,I s.sp.src,cE,cB,I s.sp.al,I s.sp.up,vr,vc],.agg #[I q.kind,I q.st,I q.wa]] w fun u w'=>∃H1 lo hi e,HLe H H1∧u= .tuple #[.agg #[I lo,I hi],I e]∧Gu s q lo hi e∧St H1 w' σ:=by
 refine Cl.o func143 ntmps143 ag2 ?_;refine .af (.bx hs fun b2 w hs=>?_);refine .bx hs fun b3 w hs=>?_
 refine .o (.alloc hs cZ rfl fun b4 w hs=>?_);refine .zn zg (.af (.y hs (zls [_,_,_,_,_,_,_,_] bA aM) (.y hs (zls [_,_,_] oW jY) (.o (.call call201 rfl (yb (s:=s) (q:=q) (high:=true) hs h1 h2 h3 h4) ?_)))));rintro _ w ⟨H1,m,ul,vw,d,e,az,rfl,⟨al,ll,cl,rfl⟩,⟨aw,lw,cw,rfl⟩,hA,QT,hs⟩;refine .z zm (.z zex (.z zex (.z zex (.z zex (.o (.alloc hs fk rfl fun b6 w hs=>?_))))));refine .o (.aE (vs:=[_,_]) hs rfl rfl aV fun w hs=>?_);refine .z zg (.z zg (.zn zg (.seq (.af (.z zm (.zn fV (.dK rfl (fun jm=>?_) (fun jm=>?_))))))))
 ·refine .af (.z (zbd [_,_] bX) (.z zm (.o (.aE (vs:=[_,_]) hs rfl rfl aB fun w hs=>?_))));exact .zn zg (.ret (rT ((Fin.iT [] [] hs fun w hs=>⟨_,results2 results143 (dp (vs:=[_,_]) hs rfl bJ aB) rfl,H1,_,_,_,az,rfl,hA.qty jm,hs.out⟩))))
 ·refine .skip (nT (.af (.y hs (zls [_,_] cn aV) (.z zm ?_))));obtain rfl:e=0:=by simpa using jm
  obtain ⟨rfl,hL,hR,rfl⟩:=QT rfl;obtain ⟨aZ,hq⟩:=hA.zero;refine .o (.call call204 rfl (yj (s:=s.sys) hs ⟨_,rfl,hL⟩ hR) ?_);rintro _ w ⟨H2,lo,hi,f,bg,rfl,L8,hs⟩;have L8:ik s.sys (s.w q) lo hi f:=L8;have sZ:=L8.bd;have RM:=zc q;refine .z zm (.z zex (.z zex (.z zex (.z zg (.z zg (.zn zg (.seq (.af (.z zm (.zn fV (.dK rfl (fun mJ=>?_) (fun mJ=>?_))))))))))))
  ·refine .af (.z (zbd [_,_] bX) (.o (.aE (vs:=[_,_]) hs rfl rfl aB fun w hs=>?_)));refine .zn zg (.ret (rT (?_)));have S5:¬s.sys.Sound:=fun h=>mJ (vN (aZ.ask hq) h (fun b=>s.both) L8)
   exact Fin.iT [] [] hs fun w hs=>⟨_,results2 results143 (dp (vs:=[_,_]) hs rfl bJ aB) rfl,H2,_,_,_,az.trans bg,rfl,.fls aZ hq S5,hs.out⟩
  ·refine .skip (nT (.af (.z zm (.z zm ?_))));obtain rfl:f=0:=by simpa using mJ
   have oX:s.sys.Sound:=Classical.byContradiction fun h=>by have:=Gn (aZ.ask hq) h L8;omega
   refine .o (.call call119 rfl (k8 hs ai ai) ?_);rintro _ w ⟨rfl,hs⟩;refine .z zm (.z zm (.o (.call call119 rfl (k8 hs ai ai) ?_)));rintro _ w ⟨rfl,hs⟩;refine .z (zbd [_,_] bX) (.o (.aE (vs:=[_,_]) hs rfl rfl aB fun w hs=>?_));exact .zn zg (.ret (Fin.iT [] [] hs fun w hs=>⟨_,results2 results143 (dp (vs:=[_,_]) hs rfl bJ aB) rfl,H2,_,_,_,az.trans bg,rfl,.ok aZ hq oX L8,hs.out⟩))
end Go.Proofs.YteajddicacjkhaaGreat
