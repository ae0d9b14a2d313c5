/-
  Texts of these claims, joined: Oc Od Oe Of Og Oh Oi Oj Ok Ol Om On Ot Ov Oy Oz Mzt Rc Mzu Mzv Mzw Ri Rj Mzx Rk Mzz Rn Myx Ro.
-/
import Derived.Test.YteajddicacjkhaaGreatLd
namespace Go.Proofs.YteajddicacjkhaaGreat
open Go.MW Tryz
variable{H:bG}{σ:List Ent}{a0 a1 a2 b x most a hi lo f d e:Int}{l:Lns}{ls:List Lim}{g k bf bt bl cl i bm:Nat}{cap sp:List Value}{s:Srv}{xs ts lf ws L X Y ks dm:List Int}{en:Ent}{vl vt vp vw vb vx v1 v2 bV bS vr vc vh vs v5 v4 fJ vn vg:Value}{m:Rng}{us:List Use}{t:TD}{rows:List (List Int)}{high:Bool}{P:Program}{ss:List Ssn}
theorem bP{w:World}(hs:St H w σ):Z4 72 [I a0,I a1,I a2] w fun v w'=>v= .bool (decide (a1≤a0∧a0≤a2))∧St H w' σ:=by
 refine Cl.o func72 ntmps72 ag3 ?_;refine .ae (.zn zg (.ae (.z zm (.z zm (.z sY (.z zm (.iY (t':=10) rfl (fun sH=>?_) (fun sH=>?_))))))))
 ·exact .T (.z zm (.T (.z zm (.T (.z sY (.z zpT (.zn zg (.ret (Fin.bw results72 rfl ⟨by simp [*],hs.out⟩)))))))))
 ·exact .Fs 3 3 true (.z zpF (.zn zg (.ret (Fin.bw results72 rfl ⟨by simp [*],hs.out⟩))))
theorem lM{w:World}(hs:St H w σ):Z4 73 [I a0] w fun v w'=>v= .bool (decide (1≤a0∧a0≤20))∧St H w' σ:=by
 refine Cl.o func73 ntmps73 ag1 ?_;refine .ae (.zn zg (.ae (.z zm (.o (.call kC rfl (bP hs) ?_)))));rintro _ w ⟨rfl,hs⟩;exact .zn zg (.ret (Fin.bw results73 rfl ⟨rfl,hs⟩))
theorem o6{w:World}{y:Int}(hs:St H w σ):Z4 161 [.agg #[I x,I y],I a1,I a2] w fun v w'=>v= .bool (decide (a1≤x∧x≤y∧y≤a2))∧St H w' σ:=by
 refine Cl.o func161 ntmps161 ag3 ?_;refine .ae (.bx hs fun b3 w hs=>?_);refine .zn zg (.ae (.z zm (.z (zfa bh) (.y hs (zld aj) (.z sY (.z zm (.iY (t':=11) rfl (fun y0=>?_) (fun y0=>?_))))))))
 ·refine .T (.z (zfa bh) (.T (.y hs (zld aj) (.T (.z (zfa bu) (.T (.y hs (zld aj) (.T (.z sY (.z zpT (.z zm (.iY (t':=18) rfl (fun Kq=>?_) (fun Kq=>?_)))))))))))))
  ·exact .T (.z (zfa bu) (.T (.y hs (zld aj) (.T (.z zm (.T (.z sY (.z zpT (.zn zg (.ret (Fin.bw results161 rfl ⟨by simp [*],hs.out⟩)))))))))))
  ·exact .Fs 4 11 true (.z zpF (.zn zg (.ret (Fin.bw results161 rfl ⟨by simp [*],hs.out⟩))))
 ·exact .Fs 5 4 true (.z zpF (.z zm (.Fs 4 11 true (.z zpF (.zn zg (.ret (Fin.bw results161 rfl ⟨by simp [*],hs.out⟩)))))))
theorem lN{w:World}{y:Int}(hs:St H w σ):Z4 109 [.agg #[I x,I y]] w fun v w'=>v= .bool (decide (eK x y))∧St H w' σ:=by
 refine Cl.o func109 ntmps109 ag1 ?_;refine .ae (.bx hs fun b1 w hs=>?_);refine .zn zg (.ae (.y hs (zls [_,_] bK aD) (.o (.call call161 rfl (o6 hs) ?_))));rintro _ w ⟨rfl,hs⟩;exact .zn zg (.ret (Fin.bw results109 rfl ⟨rfl,hs.out⟩))
theorem nV{w:World}{y:Int}(hs:St H w σ):Z4 118 [.agg #[I x,I y]] w fun v w'=>v= .bool (decide (eF x y))∧St H w' σ:=by
 refine Cl.o func118 ntmps118 ag1 ?_;refine .ae (.bx hs fun b1 w hs=>?_);refine .zn zg (.ae (.y hs (zls [_,_] bK aD) (.o (.call call161 rfl (o6 hs) ?_))));rintro _ w ⟨rfl,hs⟩;exact .zn zg (.ret (Fin.bw results118 rfl ⟨rfl,hs.out⟩))
theorem mF{w:World}{x:Lg}(hs:St H w σ):
  Z4 75 [.agg #[I x.zone,I x.fr,I x.to,I x.dlo,I x.dhi,I x.blo,I x.bhi]] w fun v w'=>∃b:Bool,v= .bool b∧(b=true↔zr x)∧St H w' σ:=by
 refine Cl.o func75 ntmps75 ag1 ?_;refine .ae (.bx hs fun b1 w hs=>?_);refine .zn zg (.ae (.z (zfa wD) (.y hs (zld aj) (.o (.call call73 rfl (lM hs) ?_)))));rintro _ w ⟨rfl,hs⟩;refine .z zm (.bif (t':=6) rfl (fun Oe=>?_) (fun Oe=>?_))
 ·refine .T (.z (zfa lx) (.T (.y hs (zld aj) (.T (.z (zfa j8) (.T (.y hs (zld aj) (.T (.o (.call kC rfl (bP hs) ?_))))))))));rintro _ w ⟨rfl,hs⟩;refine .z zpT (.z zm (.bif (t':=13) rfl (fun E8=>?_) (fun E8=>?_)))
  ·refine .T (.z (zfa j8) (.T (.y hs (zld aj) (.T (.o (.call kC rfl (bP hs) ?_))))));rintro _ w ⟨rfl,hs⟩;refine .z zpT (.z zm (.bif (t':=18) rfl (fun Kq=>?_) (fun Kq=>?_)))
   ·refine .T (.z (zfa dJ) (.T (.y hs (zls [_,_] bK aD) (.T (.o (.call call118 rfl (nV hs) ?_))))));rintro _ w ⟨rfl,hs⟩;refine .z zpT (.z zm (.bif (t':=23) rfl (fun yY=>?_) (fun yY=>?_)))
    ·refine .T (.z (zfa j7) (.T (.y hs (zls [_,_] bK aD) (.T (.o (.call call109 rfl (lN hs) ?_))))));rintro _ w ⟨rfl,hs⟩;refine .z zpT (.zn zg (.ret (Fin.bw results75 rfl ?_)));first
     |exact ⟨false,rfl,⟨fun h=>(by cases h),fun h=>(by obtain ⟨g1,g2,g3,g4,g5⟩:=h;first|omega|(simp_all;done)|(simp_all;omega))⟩,hs.out⟩
     |exact ⟨_,rfl,⟨fun h=>⟨by simp_all,by simp_all,by simp_all,by simp_all,by simpa using h⟩,fun h=>by simpa using h.burn⟩,hs.out⟩
    ·refine .Fs 3 20 true (.z zpF (.zn zg (.ret (Fin.bw results75 rfl ?_))));first
     |exact ⟨false,rfl,⟨fun h=>(by cases h),fun h=>(by obtain ⟨g1,g2,g3,g4,g5⟩:=h;first|omega|(simp_all;done)|(simp_all;omega))⟩,hs.out⟩
     |exact ⟨_,rfl,⟨fun h=>⟨by simp_all,by simp_all,by simp_all,by simp_all,by simpa using h⟩,fun h=>by simpa using h.burn⟩,hs.out⟩
   ·refine .Fs 3 15 true (.z zpF (.z zm (.Fs 3 20 true (.z zpF (.zn zg (.ret (Fin.bw results75 rfl ?_)))))));first
    |exact ⟨false,rfl,⟨fun h=>(by cases h),fun h=>(by obtain ⟨g1,g2,g3,g4,g5⟩:=h;first|omega|(simp_all;done)|(simp_all;omega))⟩,hs.out⟩
    |exact ⟨_,rfl,⟨fun h=>⟨by simp_all,by simp_all,by simp_all,by simp_all,by simpa using h⟩,fun h=>by simpa using h.burn⟩,hs.out⟩
  ·refine .Fs 3 10 true (.z zpF (.z zm (.Fs 3 15 true (.z zpF (.z zm (.Fs 3 20 true (.z zpF (.zn zg (.ret (Fin.bw results75 rfl ?_))))))))));first
   |exact ⟨false,rfl,⟨fun h=>(by cases h),fun h=>(by obtain ⟨g1,g2,g3,g4,g5⟩:=h;first|omega|(simp_all;done)|(simp_all;omega))⟩,hs.out⟩
   |exact ⟨_,rfl,⟨fun h=>⟨by simp_all,by simp_all,by simp_all,by simp_all,by simpa using h⟩,fun h=>by simpa using h.burn⟩,hs.out⟩
 ·refine .Fs 5 3 true (.z zpF (.z zm (.Fs 3 10 true (.z zpF (.z zm (.Fs 3 15 true (.z zpF (.z zm (.Fs 3 20 true (.z zpF (.zn zg (.ret (Fin.bw results75 rfl ?_)))))))))))));first
  |exact ⟨false,rfl,⟨fun h=>(by cases h),fun h=>(by obtain ⟨g1,g2,g3,g4,g5⟩:=h;first|omega|(simp_all;done)|(simp_all;omega))⟩,hs.out⟩
  |exact ⟨_,rfl,⟨fun h=>⟨by simp_all,by simp_all,by simp_all,by simp_all,by simpa using h⟩,fun h=>by simpa using h.burn⟩,hs.out⟩
set_option maxHeartbeats 1000000 in
theorem fk{w:World}(hs:St H w σ)(h1:RFb H vt l.table)(h2:RSn H vs l.seasons):
  Z4 19 [.agg #[I l.length,I l.depth,vt,vs]] w fun u w'=>∃e,u=I e∧LnsR l e∧St H w' σ:=by
 obtain ⟨at_,ct,rfl⟩:=h1.shape;obtain ⟨dm,cs,rfl⟩:=h2.shape;refine Cl.o func19 ntmps19 ag1 ?_;refine .ae (.bx hs fun b1 w hs=>?_);refine .zn zg (.seq (.ae (.z (zfa kS) (.y hs (zld aj) (.o (.call kC rfl (bP hs) ?_))))));rintro _ w ⟨rfl,hs⟩;refine .z ia (.z zm (.bif (t':=11) rfl (fun y0=>?_) (fun y0=>?_)))
 ·exact .Fs 4 4 false (.z zpT (.z zm (.Fs 5 10 false (.z zpT (.z zm (.Fs 4 17 false (.zn zpT (.cT (.ae (.zn zg (.ret (rT (Fin.bw lG rfl ⟨_,rfl,.inr ⟨fun h=>by have:=h.length;simp_all,rfl⟩,hs.out⟩)))))))))))))
 ·refine .T (.z (zfa nA) (.T (.y hs (zld aj) (.T (.o (.call kC rfl (bP hs) ?_))))));rintro _ w ⟨rfl,hs⟩;refine .T (.z ia (.z zpF (.z zm (.bif (t':=17) rfl (fun Ac=>?_) (fun Ac=>?_)))))
  ·exact .Fs 5 10 false (.z zpT (.z zm (.Fs 4 17 false (.zn zpT (.cT (.ae (.zn zg (.ret (rT (Fin.bw lG rfl ⟨_,rfl,.inr ⟨fun h=>by have:=h.depth;simp_all,rfl⟩,hs.out⟩))))))))))
  ·refine .T (.z (zfa dQ) (.T (.y hs (zld An) (.T (.z (de ea) (.T (.o (.call kC rfl (bP hs) ?_))))))));rintro _ w ⟨rfl,hs⟩;refine .T (.z ia (.z zpF (.z zm (.bif (t':=24) rfl (fun Ab=>?_) (fun Ab=>?_)))))
   ·exact .Fs 4 17 false (.zn zpT (.cT (.ae (.zn zg (.ret (rT (Fin.bw lG rfl ⟨_,rfl,.inr ⟨fun h=>by have:=h.many;simp_all;omega,rfl⟩,hs.out⟩)))))))
   ·refine .T (.z (zfa gH) (.T (.y hs (zld isAgg23) (.T (.z (de jn) (.T (.z nJ (.zn zpF (.cg rfl (fun oF=>?_) (fun oF=>?_))))))))))
    ·exact .ae (.zn zg (.ret (rT (Fin.bw lG rfl ⟨_,rfl,.inr ⟨fun h=>by have:=h.most;simp_all;omega,rfl⟩,hs.out⟩))))
    ·refine .skip (nT (.seq (.ae ?_)));have PK:1≤l.table.length∧l.table.length≤20:=by first|omega|(simp at Ab;omega)
     refine .z (zfa dQ) (.y hs (zld An) (.z (de ea) (.zn zm (.for (N:=l.table.length) (J:=fun k fr w=>fr=[(31,.slice at_ l.table.length ct),(1,Pt b1)]∧(∀j<k,QN l.table j)∧St H w (.blk b1 [I l.length,I l.depth,.slice at_ l.table.length ct,.slice dm l.seasons.length cs]::σ)) ai ?_ ?_ ?_))))
     ·exact .mk ⟨rfl,fun j hj=>by omega,hs⟩
     ·rintro k fr w hk ⟨rfl,fV,hs⟩;have hx:=za (l:=l.table) hk;have Ej:=za (l:=l.table) (i:=k - 1) ai;refine .block (.ae (.z zm (.ixX (enc:=Fbd.c) hs h1 rfl rfl ea fS hx dG ?_)));intro UT o36 qk;refine .q hs (bH (vs:=(Fbd.c (fb0 l.table k))) rfl isAgg134 fS qk) (.o (.alloc hs oT rfl fun b4 w hs=>?_));refine .z zg (.o (.aE (vs:=(fb0 l.table k).c) hs rfl rfl fS fun w hs=>?_));change St _ _ (.blk b4 [I (fb0 l.table k).len,I (fb0 l.table k).least]::_) at hs;refine .nil (.seq (.draw mix rfl hs fun w hs=>?_));refine .zw 0 rfl (zfa dK) ?_;refine .y 1 rfl hs aj ?_;refine .E 2 hs ?_;refine .call kC rfl (bP hs) ?_;rintro _ w ⟨rfl,hs⟩;refine .go (.zw 3 rfl ia ?_);refine .z 4 rfl zm ?_;refine .bif (t':=42) rfl (fun P5=>?_) (fun P5=>?_)
      ·refine .F 5 rfl (.F 6 rfl (.F 7 rfl (.F 8 rfl (.zw 9 rfl zpT ?_))));refine .z 10 rfl zm ?_;refine .F 11 rfl (.F 12 rfl ?_);refine .F 13 rfl (.F 14 rfl (.F 15 rfl (.F 16 rfl (.F 17 rfl (.F 18 rfl (.F 19 rfl (.F 20 rfl (.F 21 rfl (.F 22 rfl (.F 23 rfl (.F 24 rfl (.zw 25 rfl zpT ?_))))))))))));refine .D hs ?_;exact (.cT (.ae (.zn zg (.ret (rB (rT (rB (rT (Fin.bw lG rfl ⟨_,rfl,.inr ⟨fun h=>by have:=(h.table k hk).len;simp_all,rfl⟩,hs.out⟩)))))))))
      ·refine .zw 5 rfl (zfa gv) ?_;refine .y 6 rfl hs aj ?_;refine .E 7 hs ?_;refine .call kC rfl (bP hs) ?_;rintro _ w ⟨rfl,hs⟩;refine .go (.zw 8 rfl ia ?_);refine .z 9 rfl zpF ?_;refine .z 10 rfl zm ?_;refine .bif (t':=48) rfl (fun P4=>?_) (fun P4=>?_)
       ·refine .F 11 rfl (.F 12 rfl ?_);refine .F 13 rfl (.F 14 rfl (.F 15 rfl (.F 16 rfl (.F 17 rfl (.F 18 rfl (.F 19 rfl (.F 20 rfl (.F 21 rfl (.F 22 rfl (.F 23 rfl (.F 24 rfl (.zw 25 rfl zpT ?_))))))))))));refine .D hs ?_;exact (.cT (.ae (.zn zg (.ret (rB (rT (rB (rT (Fin.bw lG rfl ⟨_,rfl,.inr ⟨fun h=>by have:=(h.table k hk).least;simp_all,rfl⟩,hs.out⟩)))))))))
       ·refine .zw 11 rfl zm ?_;refine .z 12 rfl nJ ?_;refine .z 13 rfl zm ?_;refine .iY (t':=51) rfl (fun Kk=>?_) (fun Kk=>?_)
        ·refine .zw 14 rfl (zfa dQ) ?_;refine .y 15 rfl hs An ?_;refine .z 16 rfl zm ?_;refine .z 17 rfl iX ?_;refine .ixX (enc:=Fbd.c) (i:=18) hs rfl az (.some rfl rfl) h1 rfl rfl ea fS Ej ai ?_;intro ZX o56 PW;refine .zw 19 rfl (zfa dK) (.r (i:=20) hs rfl az (.some rfl rfl) (aR rfl aj (PW.get 0 rfl)) ?_);refine .zw 21 rfl (zfa dK) ?_;refine .y 22 rfl hs aj ?_;refine .z 23 rfl Ct ?_;refine .z 24 rfl zpT ?_;refine .z 25 rfl zpF ?_;refine .D hs ?_;refine (.cg rfl (fun rj=>?_) (fun rj=>?_))
         ·exact .ae (.zn zg (.ret (rB (rT (rB (rT (Fin.bw lG rfl ⟨_,rfl,.inr ⟨fun h=>by have:=(h.table k hk).rise ai;omega,rfl⟩,hs.out⟩)))))))
         ·refine .skip (nB (nT ?_));first
          |exact .mk ⟨rfl,fun j hj=>by
            by_cases e:j=k
            ·subst e;exact ⟨by simp_all,by simp_all,fun _=>by omega⟩
            ·exact fV j ai,hs.tail⟩
        ·refine .F 14 rfl (.F 15 rfl (.F 16 rfl (.F 17 rfl (.F 18 rfl (.F 19 rfl (.F 20 rfl (.F 21 rfl (.F 22 rfl (.F 23 rfl (.zw 24 rfl zpF ?_))))))))));refine .z 25 rfl zpF ?_;refine .D hs ?_;refine (.cF (.skip (nB (nT ?_))));first
         |exact .mk ⟨rfl,fun j hj=>by
           by_cases e:j=k
           ·subst e;exact ⟨by simp_all,by simp_all,fun _=>by omega⟩
           ·exact fV j ai,hs.tail⟩
     ·rintro fr w ⟨rfl,QV,hs⟩;refine nT (.seq (.ae (.z (zfa gH) (.y hs (zld isAgg23) (.z (de jn) (.zn zm (.for (N:=l.seasons.length) (J:=fun k fr w=>fr=[(66,.slice dm l.seasons.length cs),(1,Pt b1)]∧(∀j<k,∀y,l.seasons[j]? =some y→D5 y)∧St H w (.blk b1 [I l.length,I l.depth,.slice at_ l.table.length ct,.slice dm l.seasons.length cs]::σ)) ai ?_ ?_ ?_)))))))
      ·exact .mk ⟨rfl,fun j hj=>by omega,hs⟩
      ·rintro k fr w hk ⟨rfl,fV,hs⟩;obtain ⟨s,hx⟩:=nth hk;refine .block (.ae (.ixX (enc:=Ssn.c) hs h2 rfl rfl jn pO hx dG ?_));intro b70 o70 SF;refine .q hs (bH (vs:=(Ssn.c s)) rfl isAgg104 pO SF) (.o (.alloc hs Ee rfl fun b6 w hs=>?_));refine .o (.aE (vs:=s.c) hs rfl rfl pO fun w hs=>?_);change St _ _ (.blk b6 [I s.zone,I s.fr,I s.to,I s.extra]::_) at hs;refine .nil (.ae (.z (zfa qz) (.y hs (zld aj) (.o (.call call73 rfl (lM hs) ?_)))));rintro _ w ⟨rfl,hs⟩;refine .z ia (.z zm (.bif (t':=76) rfl (fun P3=>?_) (fun P3=>?_)))
       ·exact .Fs 4 4 false (.z zpT (.z zm (.Fs 4 10 false (.z zpT (.z zm (.Fs 4 16 false (.zn zpT (.cT (.ae (.zn zg (.ret (rB (rT (rB (rT (Fin.bw lG rfl ⟨_,rfl,.inr ⟨fun h=>by have:=(h.seasons s (List.mem_of_getElem? hx)).zone;simp_all,rfl⟩,hs.out⟩))))))))))))))))
       ·refine .T (.z (zfa ku) (.T (.y hs (zld aj) (.T (.o (.call kC rfl (bP hs) ?_))))));rintro _ w ⟨rfl,hs⟩;refine .T (.z ia (.z zpF (.z zm (.bif (t':=82) rfl (fun MV=>?_) (fun MV=>?_)))))
        ·exact .Fs 4 10 false (.z zpT (.z zm (.Fs 4 16 false (.zn zpT (.cT (.ae (.zn zg (.ret (rB (rT (rB (rT (Fin.bw lG rfl ⟨_,rfl,.inr ⟨fun h=>by have:=(h.seasons s (List.mem_of_getElem? hx)).fr;simp_all,rfl⟩,hs.out⟩)))))))))))))
        ·refine .T (.z (zfa kr) (.T (.y hs (zld aj) (.T (.o (.call kC rfl (bP hs) ?_))))));rintro _ w ⟨rfl,hs⟩;refine .T (.z ia (.z zpF (.z zm (.bif (t':=88) rfl (fun W2=>?_) (fun W2=>?_)))))
         ·exact .Fs 4 16 false (.zn zpT (.cT (.ae (.zn zg (.ret (rB (rT (rB (rT (Fin.bw lG rfl ⟨_,rfl,.inr ⟨fun h=>by have:=(h.seasons s (List.mem_of_getElem? hx)).to;simp_all,rfl⟩,hs.out⟩))))))))))
         ·refine .T (.z (zfa qy) (.T (.y hs (zld aj) (.T (.o (.call kC rfl (bP hs) ?_))))));rintro _ w ⟨rfl,hs⟩;refine .T (.z ia (.zn zpF (.cond rfl (fun MS=>?_) (fun MS=>?_))))
          ·exact .ae (.zn zg (.ret (rB (rT (rB (rT (Fin.bw lG rfl ⟨_,rfl,.inr ⟨fun h=>by have:=(h.seasons s (List.mem_of_getElem? hx)).extra;simp_all,rfl⟩,hs.out⟩)))))))
          ·exact .skip (nB (nT (.mk ⟨rfl,fY fV hx ⟨by simp_all,by simp_all,by simp_all,by simp_all⟩,hs.tail⟩)))
      ·rintro fr w ⟨rfl,fV,hs⟩;refine nT (.ae (.zn zg (.ret (Fin.bw lG rfl ?_))));exact ⟨_,rfl,.inl ⟨⟨by simp_all,by simp_all,PK,ai,QV,fun s hs=>by
        obtain ⟨j,hj⟩:=List.getElem?_of_mem hs;exact fV j (List.getElem?_eq_some_iff.1 hj).1 s hj⟩,rfl⟩,hs.out⟩
theorem l7{w:World}{r:List Lg}(hs:St H w σ)(h1:RLg H vr r):
  Z4 21 [.agg #[vr]] w fun u w'=>∃e,u=I e∧RteR r e∧St H w' σ:=by
 obtain ⟨ar,cr,rfl⟩:=h1.shape;refine Cl.o func21 ntmps21 ag1 ?_;refine .ae (.bx hs fun b1 w hs=>?_);refine .zn zg (.seq (.ae (.z (zfa bT) (.y hs (zld fB) (.z (de a8) (.o (.call kC rfl (bP hs) ?_)))))));rintro _ w ⟨rfl,hs⟩;refine .zn ia (.cond rfl (fun mW=>?_) (fun mW=>?_))
 ·exact .ae (.zn zg (.ret (rT (Fin.bw results21 rfl ⟨_,rfl,.inr ⟨fun h=>by have:=h.many;simp_all;omega,rfl⟩,hs.out⟩))))
 ·refine .skip (nT (.seq (.ae ?_)));have PK:1≤r.length∧r.length≤12:=by first|omega|(simp at mW;omega)
  refine .z (zfa bT) (.y hs (zld fB) (.z (de a8) (.zn zm (.for (N:=r.length) (J:=fun k fr w=>fr=[(11,.slice ar r.length cr),(1,Pt b1)]∧(∀j<k,zr (lg0 r j)∧(0<j→(lg0 r (j - 1)).to≤(lg0 r j).fr))∧St H w (.blk b1 [.slice ar r.length cr]::σ)) ai ?_ ?_ ?_))))
  ·exact .mk ⟨rfl,fun j hj=>by omega,hs⟩
  ·rintro k fr w hk ⟨rfl,fV,hs⟩;have hx:=mH (l:=r) hk;have Ej:=mH (l:=r) (i:=k - 1) ai;refine .block (.ae (.z zm (.ixX (enc:=Lg.c) hs h1 rfl rfl a8 bk hx dG ?_)));intro ui o16 dN;refine .q hs (bH (vs:=(Lg.c (lg0 r k))) rfl fa bk dN) (.o (.alloc hs dM rfl fun b4 w hs=>?_));refine .z zg (.o (.aE (vs:=(lg0 r k).c) hs rfl rfl bk fun w hs=>?_));change St _ _ (.blk b4 [I (lg0 r k).zone,I (lg0 r k).fr,I (lg0 r k).to,I (lg0 r k).dlo,I (lg0 r k).dhi,I (lg0 r k).blo,I (lg0 r k).bhi]::_) at hs;refine .nil (.seq (.draw mix rfl hs fun w hs=>?_));refine .zv 0 rfl hs (Gg [_,_,_,_,_,_,_] fa bk) (.E 1 hs ?_);refine .call call75 rfl (mF (x:=lg0 r k) hs) ?_;rintro _ w ⟨Ak,rfl,BR,hs⟩;refine .go (.zw 2 rfl ia ?_);refine .z 3 rfl zm ?_;refine .bif (t':=21) rfl (fun yZ=>?_) (fun yZ=>?_)
   ·refine .F 4 rfl (.F 5 rfl ?_);refine .F 6 rfl (.F 7 rfl (.F 8 rfl (.F 9 rfl (.F 10 rfl (.F 11 rfl (.F 12 rfl (.F 13 rfl (.F 14 rfl (.F 15 rfl (.F 16 rfl (.F 17 rfl (.zw 18 rfl zpT ?_))))))))))));refine .D hs ?_;exact (.cT (.ae (.zn zg (.ret (rB (rT (rB (rT (Fin.bw results21 rfl ⟨_,rfl,.inr ⟨fun h=>by have:=BR.2 (h.leg k hk).1;simp_all,rfl⟩,hs.out⟩)))))))))
   ·refine .zw 4 rfl zm ?_;refine .z 5 rfl nJ ?_;refine .z 6 rfl zm ?_;refine .iY (t':=24) rfl (fun Ab=>?_) (fun Ab=>?_)
    ·refine .zw 7 rfl (zfa lx) ?_;refine .y 8 rfl hs aj ?_;refine .z 9 rfl (zfa bT) ?_;refine .y 10 rfl hs fB ?_;refine .z 11 rfl zm ?_;refine .z 12 rfl iX ?_;refine .ixX (enc:=Lg.c) (i:=13) hs rfl az (.some rfl rfl) h1 rfl rfl a8 bk Ej ai ?_;intro Lt o31 ql;refine .zw 14 rfl (zfa j8) (.r (i:=15) hs rfl az (.some rfl rfl) (aR rfl aj (ql.get 2 rfl)) ?_);refine .zw 16 rfl ju ?_;refine .z 17 rfl zpT ?_;refine .z 18 rfl zpF ?_;refine .D hs ?_;refine (.cg rfl (fun qk=>?_) (fun qk=>?_))
     ·exact .ae (.zn zg (.ret (rB (rT (rB (rT (Fin.bw results21 rfl ⟨_,rfl,.inr ⟨fun h=>by have:=(h.leg k hk).2 ai;omega,rfl⟩,hs.out⟩)))))))
     ·refine .skip (nB (nT ?_));first
      |exact .mk ⟨rfl,fun j hj=>by
        by_cases e:j=k
        ·subst e;exact ⟨BR.1 (by simp_all),fun _=>by omega⟩
        ·exact fV j ai,hs.tail⟩
    ·refine .F 7 rfl (.F 8 rfl (.F 9 rfl (.F 10 rfl (.F 11 rfl (.F 12 rfl (.F 13 rfl (.F 14 rfl (.F 15 rfl (.F 16 rfl (.zw 17 rfl zpF ?_))))))))));refine .z 18 rfl zpF ?_;refine .D hs ?_;refine (.cF (.skip (nB (nT ?_))));first
     |exact .mk ⟨rfl,fun j hj=>by
       by_cases e:j=k
       ·subst e;exact ⟨BR.1 (by simp_all),fun _=>by omega⟩
       ·exact fV j ai,hs.tail⟩
  ·rintro fr w ⟨rfl,fV,hs⟩;exact nT (.ae (.zn zg (.ret (Fin.bw results21 rfl ⟨_,rfl,.inl ⟨⟨PK,fV⟩,rfl⟩,hs.out⟩))))
theorem RJ{s:FS}{t jq:TypeId}{x y:Operand}{p:Int}(hx:FS.ev s x=some (.int .u64 p))(hy:FS.ev s y=some (.int .u64 1)):QJ P H σ s (.binOp .shr t x y jq) (.int .u64 (p/2)):=by
 have h1:=EH (P:=P) (H:=H) (σ:=σ) (t:=t) (jq:=jq) hx hy ai;have h2:p.fdiv (2 ^min (1:Int).toNat IntKind.u64.bits)=p/2:=by
  have:(2:Int) ^min (1:Int).toNat IntKind.u64.bits=2:=by decide
  rw [this,Int.fdiv_eq_ediv_of_nonneg _ ai]
 rw [h2] at h1;exact h1
theorem oW{w:World}{n:Nat}{p:Nat→Prop}(hs:St H w σ)(hn:n≤1000000)(hc:∀args w,(callFunc g args).run Tryz.prog w= .ok (.enter g args) w)
  (hp:∀w i,i<n→St H w σ→Z4 g ([I (i:Int)]++cap) w fun u w'=>∃b,u= .bool b∧(b=true↔p i)∧St H w' σ):
  Z4 157 [I (n:Int),.func (.func g) #[] cap.toArray] w fun u w'=>∃k:Nat,u=I (k:Int)∧k≤n∧(0<k→¬p (k - 1))∧(k<n→p k)∧St H w' σ:=by
 refine Cl.o func157 ntmps157 ag2 ?_;refine .ae (.zn zg (.ae (.z zm (.z zg (.zn zg (.seq (.block ?_)))))));refine .loop (fun q:Nat×Nat=>⟨26,[],[(6,I (q.2:Int)),(5,I (q.1:Int)),(1,.func (.func g) #[] cap.toArray)]⟩)
  (fun q w=>(q.1≤q.2∧q.2≤n)∧(0<q.1→¬p (q.1 - 1))∧(q.2<n→p q.2)∧St H w σ) (fun q=>q.2 - q.1) (0,n) aW
  ⟨⟨Nat.zero_le _,Nat.le_refl _⟩,fun h=>by omega,fun h=>by omega,hs⟩ ?_
 rintro ⟨i,j⟩ w ⟨⟨ID,Ss⟩,w7,N3,hs⟩;dsimp only at ID Ss w7 N3 ⊢;refine .seq (.ae (.z zm (.z zm (.zn ju (.cg rfl (fun mX=>?_) (fun mX=>?_))))))
 ·refine .skip (nT (.block (.ae (.z zm (.z zm (.z cD (.q hs (Bv rfl bF eS ⟨ai,ai⟩) (.q hs (RJ rfl rfl) ?_))))))));rw [show ((i:Int)+(j:Int))/2=(((i+j)/2:Nat):Int) by omega];refine .q hs (Bw rfl eS bF ⟨ai,ai⟩) (.zn zg (.ae (.z zm (.z zm (.o (.qB (first:=[]) rfl rfl hc (hp _ ((i+j)/2) ai hs) ?_))))));rintro _ w ⟨IG,rfl,HX,hs⟩;refine .zn ia (.cond rfl (fun jU=>?_) (fun jU=>?_))
  ·exact .region (.z zm (.z cD (.zn zg (nB (nT ⟨((i+j)/2+1,j),.dc rfl bB aW,⟨⟨by dsimp only;omega,Ss⟩,fun _ h=>(by rw [HX.2 (by simpa using h)] at jU;cases jU),N3,hs⟩,by dsimp only;omega⟩)))))
  ·exact .region (.z zm (.zn zg (nB (nT ⟨(i,(i+j)/2),.dc rfl bB aW,⟨⟨by dsimp only;omega,by dsimp only;omega⟩,w7,fun _=>HX.1 (by simpa using jU),hs⟩,by dsimp only;omega⟩))))
 ·refine .exit (xT (xT (xB (nT (.ae (.z zm (.zn zg (.ret (Fin.bw results157 rfl ?_)))))))));obtain rfl:i=j:=by omega
  exact ⟨i,rfl,Ss,w7,N3,hs⟩
theorem qa{w:World}{b:Nat}(hs:St H w (.blk b [I l.length,I l.depth,vt,vs]::σ))(h1:RFb H vt l.table)(hi:i<l.table.length):
  Z4 158 [I (i:Int),Pt b] w fun u w'=>∃bb:Bool,u= .bool bb∧(bb=true↔l.length≤(fb0 l.table i).len)∧St H w' (.blk b [I l.length,I l.depth,vt,vs]::σ):=by
 obtain ⟨at_,ct,rfl⟩:=h1.shape;refine Cl.o func158 ntmps158 ag2 ?_;refine .ae (.zn zg (.seq (.draw mix rfl hs fun w hs=>?_)));refine .zw 0 rfl (zfa dQ) ?_;refine .y 1 rfl hs An ?_;refine .z 2 rfl zm ?_;refine .ixX (enc:=Fbd.c) (i:=3) hs rfl az .none h1 rfl rfl ea fS (za hi) dG ?_;intro b7 o7 hc7;refine .zw 4 rfl (zfa dK) (.r (i:=5) hs rfl az .none (aR rfl aj (hc7.get 0 rfl)) ?_);refine .zw 6 rfl (zfa kS) ?_;refine .y 7 rfl hs aj ?_;refine .z 8 rfl Ct ?_;refine .z 9 rfl zg ?_;refine .D hs ?_;exact .ret (Fin.bw results158 rfl ⟨_,rfl,bB,hs⟩)
theorem nz{w:World}(hs:St H w σ)(hd:1≤d)(ha: -4608000000000000000≤a∧a≤4608000000000000000):
  Z4 140 [I a,I d] w fun v w'=>v=I (a/d)∧St H w' σ:=by
 have hq:=U5 hd ha;have Cz:=qZ (n:=a) (d:=d) ai;refine Cl.o func140 ntmps140 ag2 ?_;refine .ae (.zn zg (.ae (.z zm (.z zm (.q hs (wg rfl rfl ai ⟨ai,ai⟩) (.zn zg (.seq (.ae (.z zm (.z zm (.z FP (.zn ju (.cg rfl (fun eT=>?_) (fun eT=>?_))))))))))))))
 ·refine .region (.z zm (.z iX (.zn zg (nT (.ae (.z zm (.zn zg (.ret (Fin.bw results140 rfl ?_)))))))));rw [if_pos eT] at Cz;exact ⟨by rw [Cz],hs⟩
 ·refine .skip (nT (.ae (.z zm (.zn zg (.ret (Fin.bw results140 rfl ?_))))));rw [if_neg eT,Int.sub_zero] at Cz;exact ⟨by rw [Cz],hs⟩
theorem jR{w:World}(hs:St H w σ)(h1:RFb H vt l.table)(hl:fo l):
  Z4 102 [.agg #[I l.length,I l.depth,vt,vs]] w fun u w'=>∃n b,u= .tuple #[I n,.bool b]∧zt l n b∧St H w' σ:=by
 obtain ⟨at_,ct,rfl⟩:=h1.shape;have hm:=hl.many;have hr:=fun {j i:Nat}=>B0 hl.table (j:=j) (i:=i)
 refine Cl.o func102 ntmps102 ag1 ?_;refine .ae (.bx hs fun b1 w hs=>?_);refine .z zg (.zn zg (.ae (.z (zfa dQ) (.y hs (zld An) (.z (de ea) (.q hs (dp (f:=[]) (c:=[_]) rfl rfl) (.o (.call call157 rfl (oW (cap:=[Pt b1]) (p:=fun i=>l.length≤(fb0 l.table i).len) hs ai call158 (fun w i hi hs=>qa hs h1 hi)) ?_))))))));rintro _ w ⟨k,rfl,hk,w7,N3,hs⟩;have Kj:∀i<l.table.length,k≤i→l.length≤(fb0 l.table i).len:=fun i hi Y4=>by
  by_cases e:i=k
  ·subst e;exact N3 hi
  ·have:=hr (show k<i by omega) hi;have:=N3 ai;omega
 have Py:∀i<k,(fb0 l.table i).len<l.length:=fun i hi=>by
  by_cases e:i=k - 1
  ·subst e;have:=w7 ai;omega
  ·have:=hr (show i<k - 1 by omega) ai;have:=w7 ai;omega
 refine .zn zg (.seq (.block (.ae (.z zm (.z (zfa dQ) (.y hs (zld An) (.z (de ea) (.z ik (.zn zg (.cg rfl (fun eT=>?_) (fun eT=>?_)))))))))))
 ·exact .ae (.z zg (.zn zg (.ret (rB (rT (Fin.jr results102 rfl rfl ⟨_,_,rfl,.none (fun i hi h=>by have:=Py i ai;omega) (fun i hi h0 h=>by have:=Py i ai;omega),hs.out⟩))))))
 ·refine .seq (.draw mix rfl hs fun w hs=>?_);refine .zw 0 rfl (zfa dQ) ?_;refine .y 1 rfl hs An ?_;refine .z 2 rfl zm ?_;have pQ:k<l.table.length:=by omega
  have hx:=za pQ;have Ej:=za (l:=l.table) (i:=k - 1) ai;refine .ixX (enc:=Fbd.c) (i:=3) hs rfl az .none h1 rfl rfl ea fS hx rfl ?_;intro No o22 jc;refine .zw 4 rfl (zfa dK) (.r (i:=5) hs rfl az .none (aR rfl aj (jc.get 0 rfl)) ?_);refine .zw 6 rfl (zfa kS) ?_;refine .y 7 rfl hs aj ?_;refine .z 8 rfl ik ?_;refine .z 9 rfl zg ?_;refine .D hs ?_;refine (.cg rfl (fun fW=>?_) (fun fW=>?_))
  ·refine .ae (.z (zfa dQ) (.y hs (zld An) (.z zm (.ixX (enc:=Fbd.c) hs h1 rfl rfl ea fS hx rfl ?_))));intro Lt o31 ql;exact .z (zfa gv) (.q hs (aR rfl aj (ql.get 1 rfl)) (.z zg (.zn zg (.ret (rB (rT (Fin.jr results102 rfl rfl ⟨_,_,rfl,.at_ pQ fW,hs.out⟩)))))))
  ·refine .ae (.z zm (.z ik (.zn zg (.cg rfl (fun lP=>?_) (fun lP=>?_)))))
   ·refine .ae (.z zg (.zn zg (.ret (rB (rT (Fin.jr results102 rfl rfl ?_))))));obtain rfl:k=0:=by omega
    exact ⟨_,_,rfl,.none (fun i hi h=>by
     by_cases e:i=0
     ·subst e;exact fW h
     ·have:=hr (show 0<i by omega) hi;have:=Kj 0 pQ ai;omega) (fun i hi h0 h=>by have:=Kj (i - 1) ai ai;omega),hs.out⟩
   ·refine .skip (nB (nT (.cut (fun fs w=>∃b5 b6,mT fs ⟨69,[],[(6,Pt b6),(5,Pt b5),(1,Pt b1)]⟩∧St H w (.blk b6 (fb0 l.table k).c:: .blk b5 (fb0 l.table (k - 1)).c:: .blk b1 [I l.length,I l.depth,.slice at_ l.table.length ct,vs]::σ)) ?_ ?_)))
    ·refine .draw mix rfl hs fun w hs=>?_
     refine .zw 0 rfl (zfa dQ) ?_;refine .y 1 rfl hs An ?_;refine .z 2 rfl zm ?_;refine .z 3 rfl iX ?_;refine .ixX (enc:=Fbd.c) (i:=4) hs rfl az .none h1 rfl rfl ea fS Ej ai ?_;intro TB o41 Dv;refine .r (i:=5) hs rfl az .none (bH (vs:=(fb0 l.table (k - 1)).c) rfl isAgg134 fS Dv) ?_;refine .zw 6 rfl (zfa dQ) ?_;refine .y 7 rfl hs An ?_;refine .z 8 rfl zm ?_;refine .ixX (enc:=Fbd.c) (i:=9) hs rfl az .none h1 rfl rfl ea fS hx rfl ?_;intro Z0 o46 WW;refine .r (i:=10) hs rfl az .none (bH (vs:=(fb0 l.table k).c) rfl isAgg134 fS WW) ?_;refine .e2 (i:=11) (j:=12) az rfl rfl rfl rfl .none .none hs ?_ ?_
     ·refine .alloc hs oT rfl ?_;intro b5 w hs;refine .go (.E 12 hs ?_);refine .alloc hs oT rfl ?_;intro b6 w hs;refine .go (.E 13 hs ?_);refine .aE (vs:=(fb0 l.table (k - 1)).c) hs rfl rfl fS ?_;intro w hs;refine .go (.E 14 hs ?_);refine .aE (vs:=(fb0 l.table k).c) hs rfl rfl fS ?_;intro w hs;exact .go (.D hs (nT ⟨b5,b6,aW,hs.sb⟩))
     ·refine .alloc hs oT rfl ?_;intro b6 w hs;refine .go (.E 11 hs ?_);refine .alloc hs oT rfl ?_;intro b5 w hs;refine .go (.E 13 hs ?_);refine .aE (vs:=(fb0 l.table (k - 1)).c) hs rfl rfl fS ?_;intro w hs;refine .go (.E 14 hs ?_);refine .aE (vs:=(fb0 l.table k).c) hs rfl rfl fS ?_;intro w hs;exact .go (.D hs (nT ⟨b5,b6,aW,hs.sb⟩))
    ·rintro fs w ⟨b5,b6,iR,hs⟩;refine WE.sub ?_ iR;clear iR;change St _ _ (.blk b6 [I (fb0 l.table k).len,I (fb0 l.table k).least]:: .blk b5 [I (fb0 l.table (k - 1)).len,I (fb0 l.table (k - 1)).least]::_) at hs;have h3:=Py (k - 1) ai;have h4:l.length<(fb0 l.table k).len:=by have:=Kj k pQ (Nat.le_refl _);omega
     have hX:=KC hl pQ h3 h4;have a1:=hl.table (k - 1) ai;have a2:=a1.len;have a3:=a1.least;have b2:=(hl.table k pQ).len;have b3:=(hl.table k pQ).least;have hL:=hl.length;refine .seq (.draw mix rfl hs fun w hs=>?_);refine .zw 0 rfl (zfa gv) ?_;refine .y 1 rfl hs aj ?_;refine .z 2 rfl (zfa gv) ?_;refine .y 3 rfl hs aj ?_;refine .z 4 rfl iX ?_;refine .z 5 rfl (zfa kS) ?_;refine .y 6 rfl hs aj ?_;refine .z 7 rfl (zfa dK) ?_;refine .y 8 rfl hs aj ?_;refine .z 9 rfl iX ?_;refine .zw 10 rfl mV ?_;refine .z 11 rfl (zfa dK) ?_;refine .y 12 rfl hs aj ?_;refine .z 13 rfl (zfa dK) ?_;refine .y 14 rfl hs aj ?_;refine .z 15 rfl iX ?_;refine .z 18 rfl (zfa gv) ?_;refine .y 19 rfl hs aj ?_;refine .E 16 hs ?_;refine .call call140 rfl (nz hs ai ai) ?_;rintro _ w ⟨rfl,hs⟩;refine .go (.zw 17 rfl G4 ?_);refine .z 20 rfl cD ?_;refine .z 21 rfl zg ?_;refine .z 22 rfl zg ?_;refine .D hs ?_;refine .ret (Fin.jr results102 rfl rfl ?_);have Sg:=zt.mid pQ ai h3 h4;unfold GD at Sg;exact ⟨_,_,rfl,(by rw [show ∀a b:Int,-a+b=b - a from fun a b=>by omega];exact Sg),hs.out⟩
theorem sB{w:World}(hs:St H w σ)(h1:RFb H vt l.table)(h2:RSn H vs l.seasons):
  Z4 37 [.agg #[I l.length,I l.depth,vt,vs]] w fun u w'=>∃n e,u= .tuple #[I n,I e]∧Ea l n e∧St H w' σ:=by
 refine Cl.o func37 ntmps37 ag1 ?_;refine .ae (.bx hs fun b1 w hs=>?_);refine .z zg (.zn zg (.seq (.ae (.y hs (zls [_,_,_,_] cj bj) (.o (.call call19 rfl (fk hs h1 h2) ?_))))));rintro _ w ⟨e,rfl,he,hs⟩;refine .zn zg (.ae (.z zm (.zn ez (.dz rfl (fun qm=>?_) (fun qm=>?_)))))
 ·refine .ae (.z zm (.z zg (.zn zg (.ret (rT (Fin.jr results37 rfl rfl ?_))))));have h:=he.resolve_left fun h=>qm h.2
  exact ⟨_,_,rfl,by rw [h.2];exact .lines h.1,hs.out⟩
 ·refine .skip (nT (.ae (.y hs (zls [_,_,_,_] cj bj) ?_)));have aJ:fo l:=(he.resolve_right fun h=>by omega).1;refine .o (.call call102 rfl (jR hs h1 aJ) ?_);rintro _ w ⟨n,b,rfl,hF,hs⟩;refine .z zm (.z zex (.z zex (.z zg (.zn zg (.seq (.ae (.z zm (.zn ia (.cond rfl (fun fW=>?_) (fun fW=>?_))))))))))
  ·refine .ae (.z zg (.zn zg (.ret (rT (Fin.jr results37 rfl rfl ?_)))));obtain rfl:b=false:=by simpa using fW
   exact ⟨_,_,rfl,.none aJ hF,hs.out⟩
  ·refine .skip (nT (.ae (.z zm (.z zg (.zn zg (.ret (Fin.jr results37 rfl rfl ?_)))))));obtain rfl:b=true:=by simpa using fW
   exact ⟨_,_,rfl,.ok aJ hF,hs.out⟩
theorem qc{w:World}(hs:St H w σ)(h:0≤d):Z4 106 [I d] w fun v w'=>v=I (1+d%365)∧St H w' σ:=by
 have e:d.tmod 365=d%365:=Int.tmod_eq_emod_of_nonneg h;refine Cl.o func106 ntmps106 ag1 ?_;refine .ae (.zn zg (.ae (.z zm (.z FP ?_))));rw [e];exact .z cD (.zn zg (.ret (Fin.bw results106 rfl ⟨rfl,hs⟩)))
theorem zU{w:World}{s:Ssn}(hs:St H w σ):Z4 159 [.agg #[I s.zone,I s.fr,I s.to,I s.extra],I d] w fun v w'=>v= .bool (decide (D6 s d))∧St H w' σ:=by
 refine Cl.o func159 ntmps159 ag2 ?_;refine .ae (.bx hs fun b2 w hs=>?_);refine .zn zg (.seq (.ae (.z (zfa ku) (.y hs (zld aj) (.z (zfa kr) (.y hs (zld aj) (.zn nJ (.cg rfl (fun mW=>?_) (fun mW=>?_)))))))))
 ·refine .ae (.z zm (.z (zfa ku) (.y hs (zld aj) (.z Ct (.z zm (.iY (t':=14) rfl (fun Ks=>?_) (fun Ks=>?_)))))))
  ·refine .Fs 4 4 false (.z zpT (.zn zg (.ret (rT (Fin.bw results159 rfl ⟨?_,hs.out⟩)))))
   congr 1
   have e:¬s.fr≤s.to:=by omega
   simp only [D6,if_neg e]
   symm
   simp [*]
  ·refine .T (.z zm (.T (.z (zfa kr) (.T (.y hs (zld aj) (.T (.z sY (.z zpF (.zn zg (.ret (rT (Fin.bw results159 rfl ⟨?_,hs.out⟩))))))))))))
   congr 1
   have e:¬s.fr≤s.to:=by omega
   simp only [D6,if_neg e];simp [*]
 ·refine .skip (nT (.ae (.z zm (.z (zfa ku) (.y hs (zld aj) (.z (zfa kr) (.y hs (zld aj) (.o (.call kC rfl (bP hs) ?_)))))))));rintro _ w ⟨rfl,hs⟩;refine .zn zg (.ret (Fin.bw results159 rfl ⟨?_,hs.out⟩))
  congr 1
  have e:s.fr≤s.to:=by omega
  simp only [D6,if_pos e]
theorem qb{w:World}{z:Int}(hs:St H w σ)(h2:RSn H vs l.seasons)(hl:fo l):
  Z4 105 [.agg #[I l.length,I l.depth,vt,vs],I z,I d] w fun v w'=>v=I (lz l.seasons z d)∧St H w' σ:=by
 obtain ⟨dm,cs,rfl⟩:=h2.shape;have hm:=hl.most;refine Cl.o func105 ntmps105 ag3 ?_;refine .ae (.bx hs fun b3 w hs=>?_);refine .zn zg (.ae (.zn zg (.seq (.ae (.z (zfa gH) (.y hs (zld isAgg23) (.z (de jn) (.zn zm (.for (N:=l.seasons.length) (J:=fun k fr w=>fr=[(7,I (lz (l.seasons.take k) z d)),(11,.slice dm l.seasons.length cs),(1,I z),(2,I d)]∧St H w σ) ai ?_ ?_ ?_)))))))))
 ·exact .mk ⟨rfl,hs.out⟩
 ·rintro k fr w hk ⟨rfl,hs⟩;obtain ⟨s,hx⟩:=nth hk;have hE:=sJ (l.seasons.take k) s z d;rw [←dA hx] at hE;refine .block (.ae (.ixX (enc:=Ssn.c) hs h2 rfl rfl jn pO hx dG ?_));intro Ch o15 gM;refine .q hs (bH (vs:=(Ssn.c s)) rfl isAgg104 pO gM) (.o (.alloc hs Ee rfl fun b9 w hs=>?_));refine .o (.aE (vs:=s.c) hs rfl rfl pO fun w hs=>?_);change St _ _ (.blk b9 [I s.zone,I s.fr,I s.to,I s.extra]::_) at hs;refine .nil (.ae (.z (zfa qz) (.y hs (zld aj) (.z zm (.z ik (.z zm (.iY (t':=21) rfl (fun yZ=>?_) (fun yZ=>?_))))))))
  ·refine .T (.y hs (zls [_,_,_,_] isAgg104 pO) (.T (.z zm (.T (.o (.call call159 rfl (zU (s:=s) hs) ?_))))));rintro _ w ⟨rfl,hs⟩;refine .zn zpT (.cond rfl (fun jT=>?_) (fun jT=>?_))
   ·refine .region (.z zm (.z (zfa qy) (.y hs (zld aj) (.z IJ (.zn zg (nB (nT ?_)))))));rw [if_pos ⟨by assumption,by simpa using jT⟩] at hE;exact .mk ⟨by rw [hE],hs.out⟩
   ·refine .skip (nB (nT ?_));rw [if_neg (fun h=>of_decide_eq_false jT h.2)] at hE;exact .mk ⟨by rw [hE],hs.out⟩
  ·refine .Fs 3 4 true (.zn zpF (.cF (.skip (nB (nT ?_)))));rw [if_neg (fun h=>by have:=h.1;contradiction)] at hE;exact .mk ⟨by rw [hE],hs.out⟩
 ·rintro fr w ⟨rfl,hs⟩;rw [List.take_length];exact nT (.ae (.z zm (.zn zg (.ret (Fin.bw results105 rfl ⟨rfl,hs⟩)))))
theorem tv{w:World}{z:Int}(hs:St H w σ)(h1:RFb H vt l.table)(h2:RSn H vs l.seasons):
  Z4 104 [.agg #[I l.length,I l.depth,vt,vs],I z,I d] w fun v w'=>∃e,v=I e∧G0 l z d e∧St H w' σ:=by
 refine Cl.o func104 ntmps104 ag3 ?_;refine .ae (.bx hs fun b3 w hs=>?_);refine .zn zg (.seq (.ae (.y hs (zls [_,_,_,_] cj bj) (.o (.call call19 rfl (fk hs h1 h2) ?_)))));rintro _ w ⟨e,rfl,he,hs⟩;refine .zn zg (.ae (.z zm (.zn ez (.dz rfl (fun mX=>?_) (fun mX=>?_)))))
 ·refine .ae (.z zm (.zn zg (.ret (rT (Fin.bw results104 rfl ?_)))));have h:=he.resolve_left fun h=>mX h.2
  exact ⟨_,rfl,by rw [h.2];exact .lines h.1,hs.out⟩
 ·refine .skip (nT (.seq (.block (.ae ?_))));have aJ:fo l:=(he.resolve_right fun h=>by omega).1;refine .z zm (.o (.call call73 rfl (lM hs) ?_));rintro _ w ⟨rfl,hs⟩;refine .z ia (.zn zg (.cond rfl (fun iz=>?_) (fun iz=>?_)))
  ·exact .ae (.zn zg (.ret (rB (rT (Fin.bw results104 rfl ⟨_,rfl,.zone aJ (by simp at iz;omega),hs.out⟩)))))
  ·refine .ae (.z zm (.o (.call kC rfl (bP hs) ?_)));rintro _ w ⟨rfl,hs⟩;refine .z ia (.zn zg (.cond rfl (fun iy=>?_) (fun iy=>?_)))
   ·exact .ae (.zn zg (.ret (rB (rT (Fin.bw results104 rfl ⟨_,rfl,.day aJ (by simpa using iz) (by simp at iy;omega),hs.out⟩)))))
   ·exact .skip (nB (nT (.ae (.zn zg (.ret (Fin.bw results104 rfl ⟨_,rfl,.ok aJ (by simpa using iz) (by simpa using iy),hs.out⟩))))))
theorem pb{w:World}{z:Int}(hs:St H w σ)(h1:RFb H vt l.table)(h2:RSn H vs l.seasons):
  Z4 41 [.agg #[I l.length,I l.depth,vt,vs],I z,I d] w fun u w'=>∃n e,u= .tuple #[I n,I e]∧Lj l z d n e∧St H w' σ:=by
 refine Cl.o func41 ntmps41 ag3 ?_;refine .ae (.bx hs fun b3 w hs=>?_);refine .z zg (.zn zg (.seq (.ae (.y hs (zls [_,_,_,_] cj bj) (.z zm (.z zm (.o (.call call104 rfl (tv hs h1 h2) ?_))))))));rintro _ w ⟨e,rfl,he,hs⟩;refine .zn zg (.ae (.z zm (.zn ez (.dz rfl (fun dN=>?_) (fun dN=>?_)))))
 ·exact .ae (.z zm (.z zg (.zn zg (.ret (rT (Fin.jr results41 rfl rfl ⟨_,_,rfl,.bad he dN,hs.out⟩))))))
 ·refine .skip (nT (.ae (.y hs (zls [_,_,_,_] cj bj) ?_)));obtain rfl:e=0:=by omega
  obtain ⟨aJ,hz,hd⟩:=he.zero;refine .o (.call call102 rfl (jR hs h1 aJ) ?_);rintro _ w ⟨n,b,rfl,hF,hs⟩;refine .z zm (.z zex (.z zex (.z zg (.zn zg (.seq (.ae (.z zm (.zn ia (.cond rfl (fun mJ=>?_) (fun mJ=>?_))))))))))
  ·refine .ae (.z zg (.zn zg (.ret (rT (Fin.jr results41 rfl rfl ?_)))));obtain rfl:b=false:=by simpa using mJ
   exact ⟨_,_,rfl,.none he hF,hs.out⟩
  ·refine .skip (nT (.seq (.draw mix rfl hs fun w hs=>?_)));obtain rfl:b=true:=by simpa using mJ
   have hn:=hF.bd aJ;have Uw:=aJ.depth;have hE:=DP aJ.seasons z (1+d%365);refine .zw 0 rfl (zfa nA) ?_;refine .y 1 rfl hs aj ?_;refine .z 2 rfl zm ?_;refine .z 3 rfl iX ?_;refine .ys 4 rfl hs [_,_,_,_] cj bj ?_;refine .z 5 rfl zm ?_;refine .z 6 rfl zm ?_;refine .E 7 hs ?_;refine .call call106 rfl (qc hs hd.1) ?_;rintro _ w ⟨rfl,hs⟩;refine .go (.E 8 hs ?_);refine .call call105 rfl (qb hs h2 aJ) ?_;rintro _ w ⟨rfl,hs⟩;refine .go (.zw 9 rfl iX ?_);refine .z 10 rfl zg ?_;refine .z 11 rfl zg ?_;refine .D hs ?_;exact .ret (Fin.jr results41 rfl rfl ⟨_,_,rfl,.ok he hF,hs.out⟩)
theorem ve{w:World}{s:Spc}{h:Int}{b c:Nat}(hs:St H w (.blk c [I h]:: .blk b [I s.id,I s.src,bV,bS,I s.al,I s.up]::σ))(h2:RI H bS s.wa)(hi:i<s.wa.length)(aJ:eZ s):
  Z4 166 [I (i:Int),Pt b,Pt c] w fun u w'=>∃bb:Bool,u= .bool bb∧(bb=true↔h<gi s.wa i - gi s.wa 0)∧St H w' (.blk c [I h]:: .blk b [I s.id,I s.src,bV,bS,I s.al,I s.up]::σ):=by
 obtain ⟨gy,gw,rfl⟩:=RI.shape h2;have b1:=aJ.wa.bd hi;have b2:=aJ.wa.bd (i:=0) ai;refine Cl.o func166 ntmps166 ag3 ?_;refine .ae (.zn zg (.seq (.draw mix rfl hs fun w hs=>?_)));refine .zw 0 rfl (zfa aZ) ?_;refine .y 1 rfl hs an ?_;refine .z 2 rfl zm ?_;refine .ixX (enc:=fun x=>[I x]) (i:=3) hs rfl az .none h2 rfl rfl af ak (bL (l:=s.wa) (i:=i) ai) dG ?_;intro b8 o8 CA;replace CA:=bN.one CA;refine .r (i:=4) hs rfl az .none (aR rfl aj CA) ?_;refine .zw 5 rfl (zfa aZ) ?_;refine .y 6 rfl hs an ?_;refine .ixX (enc:=fun x=>[I x]) (i:=7) hs rfl az .none h2 rfl rfl af ak (bL (l:=s.wa) (i:=0) ai) dG ?_;intro Fx o12 eT;replace eT:=bN.one eT;refine .r (i:=8) hs rfl az .none (aR rfl aj eT) ?_;refine .zw 9 rfl iX ?_;refine .y 10 rfl hs aj ?_;refine .z 11 rfl nJ ?_;refine .z 12 rfl zg ?_;refine .D hs ?_;exact .ret (Fin.bw results166 rfl ⟨_,rfl,bB,hs⟩)
theorem qd{w:World}{s:Spc}{h:Int}(hs:St H w σ)(h2:RI H bS s.wa)(aJ:eZ s):
  Z4 112 [.agg #[I s.id,I s.src,bV,bS,I s.al,I s.up],I h] w fun u w'=>∃k,u=I k∧Cs s.wa h k∧St H w' σ:=by
 obtain ⟨gy,gw,rfl⟩:=RI.shape h2;have hm:=aJ.wa.many;have hr:=fun {i j:Nat}=>aJ.wa.le (i:=i) (j:=j)
 refine Cl.o func112 ntmps112 ag2 ?_;refine .ae (.bx hs fun b2 w hs=>?_);refine .bx hs fun b3 w hs=>?_
 refine .zn zg (.ae (.z (zfa aZ) (.y hs (zld an) (.z (de af) (.q hs (dp (f:=[]) (c:=[_,_]) rfl rfl) (.o (.call call157 rfl (oW (cap:=[Pt b2,Pt b3]) (p:=fun i=>h<gi s.wa i - gi s.wa 0) hs ai call166 (fun w i hi hs=>ve hs h2 hi aJ)) ?_)))))));rintro _ w ⟨k,rfl,hk,w7,N3,hs⟩;refine .z iX (.zn zg (.ret (Fin.bw results112 rfl ⟨_,rfl,⟨ai,ai,fun i hi=>⟨fun g=>?_,fun g=>?_⟩⟩,hs.out⟩)))
 ·by_cases e:(i:Int)≤k - 1
  ·exact e
  ·have h3:=N3 ai;have:=hr (show k≤i by omega) hi;omega
 ·have h3:=w7 ai;have:=hr (show i≤k - 1 by omega) ai;omega
theorem rH{w:World}{s:Spc}{z:Int}(hs:St H w σ)(g1:RI H bV s.st)(g2:RI H bS s.wa)(h1:RFb H vt l.table)(h2:RSn H vs l.seasons):
  Z4 45 [.agg #[I s.id,I s.src,bV,bS,I s.al,I s.up],.agg #[I l.length,I l.depth,vt,vs],I z,I d] w fun u w'=>∃H1 k e,HLe H H1∧u= .tuple #[I k,I e]∧D8 s l z d k e∧St H1 w' σ:=by
 refine Cl.o func45 ntmps45 ag4 ?_;refine .ae (.bx hs fun b4 w hs=>?_);refine .bx hs fun b5 w hs=>?_
 refine .z zg (.zn zg (.seq (.ae (.y hs (zls [_,_,_,_,_,_] bC aT) (.o (.call call111 rfl (fq (s:=s) hs g1 g2) ?_))))));rintro _ w ⟨H1,e,aq,rfl,he,hs⟩;refine .zn zg (.ae (.z zm (.zn ez (.dz rfl (fun iy=>?_) (fun iy=>?_)))))
 ·refine .ae (.z zm (.z zg (.zn zg (.ret (rT (Fin.jr results45 rfl rfl ?_))))));have h:=he.resolve_left fun h=>iy h.2
  exact ⟨H1,_,_,aq,rfl,by rw [h.2];exact .space h.1,hs.out⟩
 ·refine .skip (nT (.ae (.y hs (zls [_,_,_,_] cj bj) (.z zm (.z zm ?_)))));have aJ:eZ s:=(he.resolve_right fun h=>by omega).1;refine .o (.call call41 rfl (pb hs (h1.mono aq) (h2.mono aq)) ?_);rintro _ w ⟨h,f,rfl,hH,hs⟩;refine .z zm (.z zex (.z zex (.z zg (.zn zg (.seq (.ae (.z zm (.zn ez (.dz rfl (fun pH=>?_) (fun pH=>?_))))))))))
  ·exact .ae (.z zm (.z zg (.zn zg (.ret (rT (Fin.jr results45 rfl rfl ⟨H1,_,_,aq,rfl,.bad aJ hH pH,hs.out⟩))))))
  ·refine .skip (nT (.seq (.ae (.y hs (zls [_,_,_,_,_,_] bC aT) (.z zm ?_)))));obtain rfl:f=0:=by omega
   refine .o (.call call112 rfl (qd (s:=s) hs (g2.mono aq) aJ) ?_);rintro _ w ⟨k,rfl,hB,hs⟩;refine .zn zg (.ae (.z zm (.zn Ct (.cg rfl (fun rl=>?_) (fun rl=>?_)))))
   ·exact .ae (.z zm (.z zg (.zn zg (.ret (rT (Fin.jr results45 rfl rfl ⟨H1,_,_,aq,rfl,.ok aJ hH hB rl,hs.out⟩))))))
   ·refine .skip (nT (.ae (.z zg (.zn zg (.ret (Fin.jr results45 rfl rfl ?_))))));have hk:=hB.low;obtain rfl:k= -1:=by omega
    exact ⟨H1,_,_,aq,rfl,.above aJ hH hB,hs.out⟩
def Ag(x:Lg):List (List Value):=(List.range (og x)).map fun j=>[I (1+(x.fr+(j:Nat))%365)]
theorem qA(x:Lg):(Ag x).length=og x:=by simp [Ag]
theorem DU{x:Lg}{j:Nat}(h:j<(Ag x).length):(Ag x)[j]=[I (1+(x.fr+j)%365)]:=by simp [Ag]
theorem wY{b:Nat}{x:Lg}(hb:Row H b [I x.zone,I x.fr,I x.to,I x.dlo,I x.dhi,I x.blo,I x.bhi])(hx:zr x):
  Iter Tryz.prog 218 [Pt b] H (Ag x):=by
 intro ly II Ix E2 _ hy H0 FO σf w hle AT hs;have g1:cellAt H0 b 1=some (I x.fr):=cellAt.mono (hb.at 1) hle;have hd:=KS hx;have yO:(og x:Int)=min x.to (x.fr+364) - x.fr+1:=by have:=hx.fr;unfold og;omega
 have hf:=hx.fr;have ht:=hx.to;refine Cl.o func218 ntmps218 ag2 ?_;refine .ae (.z (zfa lx) (.y hs (zld aj) (.zn zg (.block ?_))));refine .loop (fun j:Nat=>⟨22,[],[(3,I (x.fr+(j:Int))),(0,.func (.yield ly) #[] #[]),(1,Pt b)]⟩)
  (fun j w=>j≤og x∧∃H1 σb,HLe H H1∧HLe H0 H1∧II j H1 σb∧St H1 w (σb++σf)) (fun j=>og x - j) 0 (.cons (by show some (I _)=some (I _);congr 2;omega) aW)
  ⟨Nat.zero_le _,H0,FO,hle,HLe.refl _,AT,hs⟩ ?_
 rintro j w ⟨hj,H1,σb,aq,eY,hI,hs⟩;have h1:cellAt H1 b 1=some (I x.fr):=cellAt.mono (hb.at 1) aq;have h2:cellAt H1 b 2=some (I x.to):=cellAt.mono (hb.at 2) aq;refine .seq (.ae (.z zm (.z (zfa j8) (.y hs (zld aj) (.z (zfa lx) (.y hs (zld aj) (.z cD (.z iX (.z G5 (.zn sY (.cg rfl (fun js=>?_) (fun js=>?_))))))))))))
 ·refine .skip (nT (.seq (.block (.ae (.z zm (.z zm (.o (.call call106 rfl (qc hs ai) ?_))))))));rintro _ w ⟨rfl,hs⟩;have pQ:j<(Ag x).length:=by rw [qA];omega
  have zE:=hy j pQ H1 σb σf w aq hI hs;rw [DU pQ] at zE;refine .o (.yield rfl rfl zE ?_);rintro v20 w ⟨H5,σ5,g1,hs,g3'⟩;obtain ⟨bb,rfl,gT,gF⟩:=pT g3';refine .zn ia (.cond rfl (fun jU=>?_) (fun jU=>?_))
  ·exact .ret (rB (rT (rT (rB (Fin.QR results218 ⟨H5,σ5,eY.trans g1,hs,.inr (gF (by simpa using jU))⟩)))))
  ·exact .skip (nB (nT (.region (.z zm (.z cD (.zn zg (nT ⟨j+1,.cons (by show some (I _)=some (I _);congr 2;omega) aW,⟨ai,H5,σ5,aq.trans g1,eY.trans g1,gT (by simpa using jU),hs⟩,ai⟩)))))))
 ·refine .exit (xT (xT (xB ?_)));obtain rfl:j=og x:=by omega
  exact Fin.DS results218 ⟨H1,σb,eY,hs,.inl (by rw [qA];exact hI)⟩
theorem zV{w:World}{x:Lg}(hs:St H w σ)(hx:zr x):
  Z4 169 [.agg #[I x.zone,I x.fr,I x.to,I x.dlo,I x.dhi,I x.blo,I x.bhi]] w fun u w'=>∃H1 b,HLe H H1∧u= .func (.func 218) #[] #[Pt b]∧Iter Tryz.prog 218 [Pt b] H1 (Ag x)∧St H1 w' σ:=by
 refine Cl.o func169 ntmps169 ag1 ?_;refine .ae (.bx hs fun b1 w hs=>?_);refine .zn zg (.ae (.q hs (dp (f:=[]) (c:=[_]) rfl rfl) (.zn zg (.ret (Fin.bw results169 rfl ?_)))));obtain ⟨H1,g1,g2,hs⟩:=hs.bZ .here;exact ⟨H1,b1,g1,rfl,wY g2 hx,hs⟩
set_option maxHeartbeats 1000000 in
theorem lK{w:World}{s:Spc}{x:Lg}(hs:St H w σ)(g2:RI H bS s.wa)(h1:RFb H vt l.table)(h2:RSn H vs l.seasons)(AQ:eZ s)(hl:fo l)(hx:zr x):
  Z4 115 [.agg #[I s.id,I s.src,bV,bS,I s.al,I s.up],.agg #[I l.length,I l.depth,vt,vs],.agg #[I x.zone,I x.fr,I x.to,I x.dlo,I x.dhi,I x.blo,I x.bhi]] w fun u w'=>∃H1 k e,HLe H H1∧u= .tuple #[I k,I e]∧uC s.wa l x k e∧St H1 w' σ:=by
 refine Cl.o func115 ntmps115 ag3 ?_;refine .ae (.bx hs fun b3 w hs=>?_);refine .bx hs fun b4 w hs=>?_
 refine .bx hs fun b5 w hs=>?_
 refine .z zg (.zn zg (.ae (.y hs (zls [_,_,_,_] cj bj) (.o (.call call102 rfl (jR hs h1 hl) ?_)))));rintro _ w ⟨n,b,rfl,hF,hs⟩;refine .z zm (.z zex (.z zex (.z zg (.zn zg (.seq (.ae (.z zm (.zn ia (.cond rfl (fun oG=>?_) (fun oG=>?_))))))))))
 ·refine .ae (.z zg (.zn zg (.ret (rT (?_)))));obtain rfl:b=false:=by simpa using oG
  exact Fin.jr results115 rfl rfl ⟨H,_,_,HLe.refl H,rfl,.none hF,hs.out⟩
 ·refine .skip (nT (.ae (.o (.alloc hs dw rfl fun mU w hs=>?_))));refine .o (.store hs rfl rfl ak fun w hs=>?_);refine .nil (.seq (.ae (.y hs (zls [_,_,_,_,_,_,_] fa bk) ?_)));obtain rfl:b=true:=by simpa using oG
  have hn:=hF.bd hl;have Uw:=hl.depth;refine .o (.call call169 rfl (zV hs hx) ?_);rintro _ w ⟨H1,bd,aq,rfl,pF,hs⟩;refine .nil (.block ?_);refine .rangeFunc (gf:=218) (cap:=[Pt bd]) (xs:=Ag x) (σb:=[.blk mU [I 0],.blk b5 [I x.zone,I x.fr,I x.to,I x.dlo,I x.dhi,I x.blo,I x.bhi],.blk b4 [I l.length,I l.depth,vt,vs],.blk b3 [I s.id,I s.src,bV,bS,I s.al,I s.up]]) (σf:=σ) hs trivial rfl pF call218 (fun y hy=>by
    simp only [Ag,List.mem_map] at hy;obtain ⟨j,_,rfl⟩:=hy;rfl) rfl
   (I:=fun p H' σb=>σb=[.blk mU [I (wW l.seasons x.zone x.fr p)],.blk b5 [I x.zone,I x.fr,I x.to,I x.dlo,I x.dhi,I x.blo,I x.bhi],.blk b4 [I l.length,I l.depth,vt,vs],.blk b3 [I s.id,I s.src,bV,bS,I s.al,I s.up]]) (Ix:=fun _ _ _=>False)
   (fun j _ _ σ g1 g2=>g2) (fun _ _ _ _ _ h=>h) rfl ?_ ?_ (fun D c H' σb w _ h _=>h.elim)
  ·rintro ly p hp H2 vX vW w aQ rfl hs ⟨rr,HF⟩;rw [DU hp];refine .region (.zn zg (nT ⟨H2,_,HLe.refl _,hs,?_⟩));rintro w nr - hs;replace hs:St H2 w (.blk mU [I (wW l.seasons x.zone x.fr p)]:: .blk b5 [I x.zone,I x.fr,I x.to,I x.dlo,I x.dhi,I x.blo,I x.bhi]:: .blk b4 [I l.length,I l.depth,vt,vs]:: .blk b3 [I s.id,I s.src,bV,bS,I s.al,I s.up]::nr):=hs;refine .block (.draw mix rfl hs fun w hs=>?_);refine .y 0 rfl hs aj ?_;refine .ys 1 rfl hs [_,_,_,_] cj bj ?_;refine .z 2 rfl (zfa wD) ?_;refine .y 3 rfl hs aj ?_;refine .z 4 rfl zm ?_;refine .E 5 hs ?_;refine .call call105 rfl (qb hs (h2.mono (aq.trans aQ)) hl) ?_;rintro _ w ⟨rfl,hs⟩;refine .go (.zw 6 rfl IJ (.E 7 hs ?_));refine .store hs rfl rfl ak ?_;intro w hs;exact .go (.D hs (nB ⟨H2,_,HLe.refl _,hs,rfl⟩))
  ·rintro D H2 vX w aQ rfl hs;rw [qA] at hs;have dr:=aq.trans aQ;have hE:=Ge hl.seasons x.zone x.fr (og x);replace hs:St H2 w (.obj D (.deferred (some [])):: .blk mU [I (wW l.seasons x.zone x.fr (og x))]:: .blk b5 [I x.zone,I x.fr,I x.to,I x.dlo,I x.dhi,I x.blo,I x.bhi]:: .blk b4 [I l.length,I l.depth,vt,vs]:: .blk b3 [I s.id,I s.src,bV,bS,I s.al,I s.up]::σ):=hs;refine nB (nT (.seq (.ae (.y hs (zls [_,_,_,_,_,_] bC aT) (.z (zfa nA) (.y hs (zld aj) (.z zm (.z iX (.y hs (zld aj) (.z iX (.o (.call call112 rfl (qd (s:=s) hs (g2.mono dr) AQ) ?_))))))))))));rintro _ w ⟨k,rfl,hB,hs⟩;refine .zn zg (.ae (.z zm (.zn Ct (.cg rfl (fun od=>?_) (fun od=>?_)))))
   ·exact .ae (.z zm (.z zg (.zn zg (.ret (rT ((Fin.hZ [D] [] hs fun w hs=>⟨_,results2 results115 rfl rfl,H2,_,_,dr,rfl,.ok hF hB od,hs.out⟩)))))))
   ·refine .skip (nT (.ae (.z zg (.zn zg (.ret ?_)))));have hk:=hB.low;obtain rfl:k= -1:=by omega
    exact Fin.hZ [D] [] hs fun w hs=>⟨_,results2 results115 rfl rfl,H2,_,_,dr,rfl,.above hF hB,hs.out⟩
theorem pa{w:World}{s:Spc}{x:Lg}(hs:St H w σ)(g1:RI H bV s.st)(g2:RI H bS s.wa)(h1:RFb H vt l.table)(h2:RSn H vs l.seasons):
  Z4 47 [.agg #[I s.id,I s.src,bV,bS,I s.al,I s.up],.agg #[I l.length,I l.depth,vt,vs],.agg #[I x.zone,I x.fr,I x.to,I x.dlo,I x.dhi,I x.blo,I x.bhi]] w fun u w'=>∃H1 k e,HLe H H1∧u= .tuple #[I k,I e]∧QK s l x k e∧St H1 w' σ:=by
 refine Cl.o func47 ntmps47 ag3 ?_;refine .ae (.bx hs fun b3 w hs=>?_);refine .bx hs fun b4 w hs=>?_
 refine .bx hs fun b5 w hs=>?_
 refine .z zg (.zn zg (.seq (.ae (.y hs (zls [_,_,_,_,_,_] bC aT) (.o (.call call111 rfl (fq (s:=s) hs g1 g2) ?_))))));rintro _ w ⟨H1,e,aq,rfl,he,hs⟩;refine .zn zg (.ae (.z zm (.zn ez (.dz rfl (fun iz=>?_) (fun iz=>?_)))))
 ·refine .ae (.z zm (.z zg (.zn zg (.ret (rT (Fin.jr results47 rfl rfl ?_))))));have h:=he.resolve_left fun h=>iz h.2
  exact ⟨H1,_,_,aq,rfl,by rw [h.2];exact .space h.1,hs.out⟩
 ·refine .skip (nT (.seq (.ae (.y hs (zls [_,_,_,_] cj bj) ?_))));have aJ:eZ s:=(he.resolve_right fun h=>by omega).1;refine .o (.call call19 rfl (fk hs (h1.mono aq) (h2.mono aq)) ?_);rintro _ w ⟨e,rfl,he,hs⟩;refine .zn zg (.ae (.z zm (.zn ez (.dz rfl (fun fW=>?_) (fun fW=>?_)))))
  ·refine .ae (.z zm (.z zg (.zn zg (.ret (rT (Fin.jr results47 rfl rfl ?_))))));have h:=he.resolve_left fun h=>fW h.2
   exact ⟨H1,_,_,aq,rfl,by rw [h.2];exact .lines aJ h.1,hs.out⟩
  ·refine .skip (nT (.seq (.ae (.y hs (zls [_,_,_,_,_,_,_] fa bk) ?_))));have hl:fo l:=(he.resolve_right fun h=>by omega).1;refine .o (.call call75 rfl (mF (x:=x) hs) ?_);rintro _ w ⟨b,rfl,hb,hs⟩;refine .zn ia (.cond rfl (fun jc=>?_) (fun jc=>?_))
   ·exact .ae (.z zg (.zn zg (.ret (rT (Fin.jr results47 rfl rfl ⟨H1,_,_,aq,rfl,.leg aJ hl (fun h=>by rw [hb.2 h] at jc;cases jc),hs.out⟩)))))
   ·refine .skip (nT (.ae (.y hs (zls [_,_,_,_,_,_] bC aT) (.y hs (zls [_,_,_,_] cj bj) (.y hs (zls [_,_,_,_,_,_,_] fa bk) ?_)))));have hx:zr x:=hb.1 (by simpa using jc);refine .o (.call call115 rfl (lK (s:=s) (x:=x) hs (g2.mono aq) (h1.mono aq) (h2.mono aq) aJ hl hx) ?_);rintro _ w ⟨H2,k,e,aQ,rfl,hL,hs⟩;exact .z zex (.z zex (.z zg (.zn zg (.ret (Fin.jr results47 rfl rfl ⟨H2,_,_,aq.trans aQ,rfl,.go aJ hl hx hL,hs.out⟩)))))
theorem yc{w:World}{v:Value}{l:List Rng}(hs:St H w σ)(hr:RRg H v l):Z4 162 [v] w fun u w'=>RRg H u l∧St H w' σ:=by
 obtain ⟨a,c,rfl⟩:=hr.shape;have hc:=RS.clip hr;refine Cl.o func162 ntmps162 ag1 ?_;exact .ae (.zn zg (.ae (.z zm (.z zm (.z (de cn) (.z zm (.z (de cn) (.q hs (Jc rfl rfl rfl cn aD (Nat.le_refl _) hc.1) (.zn zg (.ret (Fin.bw results162 rfl ⟨hc.2,hs⟩)))))))))))
theorem lJ{w:World}{r:List Lg}(hs:St H w σ)(h1:RLg H vr r)(hr:oP r)(hm:eK m.lo m.hi):
  Z4 110 [.agg #[vr],.agg #[I m.lo,I m.hi]] w fun u w'=>∃H1,HLe H H1∧RRg H1 u (msL m r r.length)∧St H1 w' σ:=by
 obtain ⟨ar,cr,rfl⟩:=h1.shape;have hn:=hr.many;refine Cl.o func110 ntmps110 ag2 ?_;refine .ae (.bx hs fun b2 w hs=>?_);refine .bx hs fun b3 w hs=>?_
 refine .zn zg (.ae (.y hs (zls [_,_] bK aD) (.o (.buildSlice (cells:=m.c) hs kz rfl az fun b9 w hs=>?_))));refine .zn zg (.seq (.ae (.z (zfa bT) (.y hs (zld fB) (.z (de a8) (.zn zm (.for (N:=r.length) (J:=fun k fr w=>∃vo en,fr=[(5,vo),(11,.slice ar r.length cr),(3,Pt b3)]∧cz 2 vo (rgc (msL m r k)).flatten en∧St H w (en:: .blk b3 [I (oB m r k).lo,I (oB m r k).hi]::σ)) ai ?_ ?_ ?_)))))))
 ·exact .mk ⟨_,.blk b9 m.c,rfl,.full rfl,hs.sb⟩
 ·rintro k fr w hk ⟨vo,en,rfl,hO,hs⟩;have hx:=mH (l:=r) hk;have hb:=BF hm (fun i hi=>(hr.leg i hi).1) (i:=k) ai;have zG:=(hr.leg k hk).1.burn;unfold eK at hb zG;have Sf:=nU m r k;obtain ⟨ao,co,rfl⟩:=hO.iG (Hj _) ai;refine .block (.ae (.ixX (enc:=Lg.c) hs h1 rfl rfl a8 bk hx dG ?_));intro Ch o15 gM;refine .q hs (bH (vs:=(Lg.c (lg0 r k))) rfl fa bk gM) (.o (.alloc hs dM rfl fun b7 w hs=>?_));refine .o (.aE (vs:=(lg0 r k).c) hs rfl rfl bk fun w hs=>?_);change St _ _ (.blk b7 [I (lg0 r k).zone,I (lg0 r k).fr,I (lg0 r k).to,I (lg0 r k).dlo,I (lg0 r k).dhi,I (lg0 r k).blo,I (lg0 r k).bhi]::_) at hs;refine .nil (.ae (.z (zfa bh) (.y hs (zld aj) (.z (zfa j7) (.z (zfa bu) (.y hs (zld aj) (.z iX (.z IJ (.z (zfa bu) (.y hs (zld aj) (.z (zfa j7) (.z (zfa bh) (.y hs (zld aj) (.z iX (.z IJ (.z (zbd [_,_] bQ) (.o (.aE (vs:=(oB m r (k+1)).c) hs rfl rfl aD fun w hs=>?_))))))))))))))))));change St _ _ (.blk b7 _::en:: .blk b3 [I (oB m r (k+1)).lo,I (oB m r (k+1)).hi]::σ) at hs;refine .nil (.region (.z zm (.y hs (zls [_,_] bK aD) (.o (.buildSlice (cells:=(oB m r (k+1)).c) hs kz rfl az fun Rh w hs=>?_)))));refine .o (.append (ys:=(oB m r (k+1)).c) hs jv rfl rfl hO (.own .here rfl rfl) (by simp [Rng.c,Value.oneCell']) (fun l h=>by rw [bX _ (Hj _),mi] at h;omega) ?_);intro v35 en35 w eb hs;rw [←FX,←Mr] at eb;exact .zn zg (nB (nT (.mk ⟨_,_,rfl,eb,hs.sb⟩)))
 ·rintro fr w ⟨vo,en,rfl,hO,hs⟩;obtain ⟨H1,aq,hR,hs⟩:=cz.bZ (m:=2) hO (Hj _) ai (by rw [mi,nU];omega) hs .here;refine nT (.ae (.z zm (.o (.call call162 rfl (yc (l:=msL m r r.length) hs hR) ?_))));rintro v38 w ⟨hR2,hs⟩;exact .zn zg (.ret (Fin.bw results110 rfl ⟨H1,aq,hR2,hs.out⟩))
inductive MsR(r:List Lg)(m:Rng):List Rng→Int→Prop
 |route (h:¬oP r):MsR r m [] 61
 |mass (h:oP r) (h1:¬eK m.lo m.hi):MsR r m [] 63
 |ok (h:oP r) (h1:eK m.lo m.hi):MsR r m (msL m r r.length) 0
theorem o9{w:World}{r:List Lg}(hs:St H w σ)(h1:RLg H vr r):
  Z4 43 [.agg #[vr],.agg #[I m.lo,I m.hi]] w fun u w'=>∃H1 v l e,HLe H H1∧u= .tuple #[v,I e]∧RRg H1 v l∧MsR r m l e∧St H1 w' σ:=by
 refine Cl.o func43 ntmps43 ag2 ?_;refine .ae (.bx hs fun b2 w hs=>?_);refine .bx hs fun b3 w hs=>?_
 refine .z zg (.zn zg (.seq (.ae (.y hs (zls [_] dV bY) (.o (.call call21 rfl (l7 hs h1) ?_))))));rintro _ w ⟨e,rfl,he,hs⟩;refine .zn zg (.ae (.z zm (.zn ez (.dz rfl (fun qm=>?_) (fun qm=>?_)))))
 ·refine .ae (.z zm (.z zg (.zn zg (.ret (rT (Fin.jr results43 rfl rfl ?_))))));have h:=he.resolve_left fun h=>qm h.2
  exact ⟨H,_,[],_,HLe.refl H,rfl,RS.nil H 2 none 0,by rw [h.2];exact .route h.1,hs.out⟩
 ·refine .skip (nT (.seq (.ae (.y hs (zls [_,_] bK aD) ?_))));have aJ:oP r:=(he.resolve_right fun h=>by omega).1;refine .o (.call call109 rfl (lN hs) ?_);rintro _ w ⟨rfl,hs⟩;refine .zn ia (.cond rfl (fun js=>?_) (fun js=>?_))
  ·exact .ae (.z zg (.zn zg (.ret (rT (Fin.jr results43 rfl rfl ⟨H,_,[],_,HLe.refl H,rfl,RS.nil H 2 none 0,.mass aJ (by simpa using js),hs.out⟩)))))
  ·refine .skip (nT (.ae (.y hs (zls [_] dV bY) (.y hs (zls [_,_] bK aD) ?_))));have hm:eK m.lo m.hi:=by simpa using js
   refine .o (.call call110 rfl (lJ hs h1 aJ hm) ?_);rintro v17 w ⟨H1,aq,hR,hs⟩;exact .z zg (.zn zg (.ret (Fin.jr results43 rfl rfl ⟨H1,_,_,_,aq,rfl,hR,.ok aJ hm,hs.out⟩)))
theorem KW{v:Srv}{out:List Int}(h:G1 v out e)(hv:cR v):(e=0∧0<out.length∧¬v.sys.Sound)∨(e=3∧v.sys.Sound):=by
 cases h with
 |bad h he=>exact (he (h.cO.2 hv)).elim
 |ok _ h=>
  by_cases e0:e=0
  ·subst e0;obtain ⟨_,h1,_,h2⟩:=h.conf;exact .inl ⟨rfl,(by cases out with|nil=>exact (h2 rfl).elim|cons=>simp),h1⟩
  ·cases h with
   |bad h=>exact (h (v.sys.cO.2 hv.sys)).elim
   |none _ h=>exact .inr ⟨rfl,h⟩
   |ok=>exact (e0 rfl).elim
theorem iU{w:World}{k:Int}(hs:St H w σ):Z4 98 [I k] w fun u w'=>u= .agg #[I 1,I 0,I k]∧St H w' σ:=by
 refine Cl.o func98 ntmps98 ag1 ?_;refine .ae (.o (.alloc hs zeroValue113 rfl fun b2 w hs=>?_));refine .nil (.ae (.z zm (.z (zbd [_,_,_] qJ) (.o (.aE (vs:=[_,_,_]) hs rfl rfl jt fun w hs=>?_)))));exact .nil (.ret (Fin.hZ [] [] hs fun w hs=>⟨_,results1 results98 (cN (vs:=[_,_,_]) hs rfl pS jt),rfl,hs.out⟩))
theorem o5{w:World}{a b c d:Value}(hs:St H w σ)(g:SvM H s a b c d)(aJ:cR s):
  Z4 122 [svA s a b c d,I (k:Int)] w fun u w'=>∃H1 lo hi e,HLe H H1∧u= .tuple #[.agg #[I lo,I hi],I e]∧uq s k lo hi e∧St H1 w' σ:=by
 refine Cl.o func122 ntmps122 ag2 ?_;refine .ae (.bx hs fun b2 w hs=>?_);refine .o (.alloc hs cS rfl fun b4 w hs=>?_);refine .zn zg (.seq (.ae (.z zm (.zn nJ (.cg rfl (fun mW=>?_) (fun mW=>?_))))))
 ·refine .seq (.draw mix rfl hs fun w hs=>?_);refine .ys 0 rfl hs [_,_,_,_,_,_,_,_] aP aC ?_;refine .z 1 rfl zm ?_;refine .E 2 hs ?_;refine .call call98 rfl (iU hs) ?_;rintro _ w ⟨rfl,hs⟩;refine .go (.E 3 hs ?_);refine .call call174 rfl (tp (s:=s) (q:=⟨1,0,k⟩) hs g.st g.wa g.rd g.cm) ?_;rintro _ w ⟨H1,lo,hi,e,aq,rfl,hQ,hs⟩;refine .go (.zw 4 rfl zex ?_);refine .z 5 rfl zex ?_;refine .E 6 hs ?_;refine .aE (vs:=[_,_]) hs rfl rfl aD ?_;intro w hs;refine .go (.zw 7 rfl zg ?_);refine .D hs ?_;exact .ret (rT ((Fin.hZ [] [] hs fun w hs=>⟨_,results2 results122 (cN (vs:=[_,_]) hs rfl bK aD) rfl,H1,_,_,_,aq,rfl,.up ai hQ,hs.out⟩)))
 ·refine .skip (nT (.seq (.ae (.y hs (zls [_,_,_,_,_,_,_,_] aP aC) ?_))));obtain rfl:k=0:=by omega
  refine .o (.call call175 rfl (tn (s:=s) hs g.st g.wa g.rd g.cm) ?_);rintro _ w ⟨H1,vx,out,e,aq,rfl,hX,hC,hs⟩;have ob:=KW hC aJ;obtain ⟨ax,cx,rfl⟩:=RI.shape hX;refine .z zm (.z zex (.z zex (.z zg (.zn zg (.ae (.z zm (.z ik (.z zm (.iY (t':=23) rfl (fun yY=>?_) (fun yY=>?_))))))))))
  ·refine .T (.z zm (.T (.z (de af) (.T (.z nJ (.zn zpT (.cg rfl (fun pH=>?_) (fun pH=>?_))))))))
   ·refine .ae (.z (zbd [_,_] bQ) (.o (.aE (vs:=[_,_]) hs rfl rfl aD fun w hs=>?_)));exact .zn zg (.ret (rT ((Fin.hZ [] [] hs fun w hs=>⟨_,results2 results122 (cN (vs:=[_,_]) hs rfl bK aD) rfl,H1,_,_,_,aq,rfl,.fls rfl aJ (by rcases ob with h|h;exact h.2.2;omega),hs.out⟩))))
   ·refine .skip (nT (.ae (.z (zbd [_,_] bQ) (.o (.aE (vs:=[_,_]) hs rfl rfl aD fun w hs=>?_)))));exact .zn zg (.ret (Fin.hZ [] [] hs fun w hs=>⟨_,results2 results122 (cN (vs:=[_,_]) hs rfl bK aD) rfl,H1,_,_,_,aq,rfl,.zero rfl aJ (by rcases ob with h|h;omega;exact h.2),hs.out⟩))
  ·refine .Fs 3 2 true (.zn zpF (.cF (.skip (nT (.ae (.z (zbd [_,_] bQ) (.o (.aE (vs:=[_,_]) hs rfl rfl aD fun w hs=>?_))))))));exact .zn zg (.ret (Fin.hZ [] [] hs fun w hs=>⟨_,results2 results122 (cN (vs:=[_,_]) hs rfl bK aD) rfl,H1,_,_,_,aq,rfl,.zero rfl aJ (by rcases ob with h|h;omega;exact h.2),hs.out⟩))
theorem iH{w:World}{n:Int}(hs:St H w σ)(hn: -4000000000000≤n∧n≤4000000000000)(hd: -100000≤d∧d≤100000):Z4 99 [I n,I d] w fun v w'=>v=I (fu n d)∧St H w' σ:=by
 have hm:=ni (a:=n) (b:=d) (A:=4000000000000) (B:=100000) ai ai;refine Cl.o func99 ntmps99 ag2 ?_;refine .ae (.zn zg (.ae (.z zm (.z zm (.z mV (.o (.call call140 rfl (nz hs ai ai) ?_)))))));rintro _ w ⟨rfl,hs⟩;exact .zn zg (.ret (Fin.bw results99 rfl ⟨rfl,hs⟩))
theorem u9{w:World}{y:Int}(hs:St H w σ)(h1: -200000000≤lo∧lo≤200000000)(h2: -200000000≤hi∧hi≤200000000)(hd:eF x y):
  Z4 145 [.agg #[I lo,I hi],.agg #[I x,I y]] w fun v w'=>v= .agg #[I (ta lo x y),I (xZ hi x y)]∧St H w' σ:=by
 unfold eF at hd;refine Cl.o func145 ntmps145 ag2 ?_;refine .ae (.bx hs fun b2 w hs=>?_);refine .bx hs fun b3 w hs=>?_
 refine .o (.alloc hs cS rfl fun b4 w hs=>?_);refine .nil (.seq (.draw mix rfl hs fun w hs=>?_));refine .zw 0 rfl (zfa bh) ?_;refine .y 1 rfl hs aj ?_;refine .z 2 rfl (zfa bh) ?_;refine .y 3 rfl hs aj ?_;refine .z 5 rfl (zfa bh) ?_;refine .y 6 rfl hs aj ?_;refine .z 7 rfl (zfa bu) ?_;refine .y 8 rfl hs aj ?_;refine .z 11 rfl (zfa bu) ?_;refine .y 12 rfl hs aj ?_;refine .zw 13 rfl (zfa bh) ?_;refine .y 14 rfl hs aj ?_;refine .z 16 rfl (zfa bu) ?_;refine .y 17 rfl hs aj ?_;refine .z 18 rfl (zfa bu) ?_;refine .y 19 rfl hs aj ?_;refine .E 4 hs ?_;refine .call call99 rfl (iH hs ai ai) ?_;rintro _ w ⟨rfl,hs⟩;refine .go (.E 9 hs ?_);refine .call call99 rfl (iH hs ai ai) ?_;rintro _ w ⟨rfl,hs⟩;refine .go (.zw 10 rfl G5 (.E 15 hs ?_));refine .call call99 rfl (iH hs ai ai) ?_;rintro _ w ⟨rfl,hs⟩;refine .go (.E 20 hs ?_);refine .call call99 rfl (iH hs ai ai) ?_;rintro _ w ⟨rfl,hs⟩;refine .go (.zw 21 rfl IJ ?_);refine .z 22 rfl (zbd [_,_] bQ) ?_;refine .E 23 hs ?_;refine .aE (vs:=[_,_]) hs rfl rfl aD ?_;intro w hs;exact .go (.D hs (.ret (Fin.hZ [] [] hs fun w hs=>⟨_,results1 results145 (cN (vs:=[_,_]) hs rfl bK aD),rfl,hs.out⟩)))
theorem eH{w:World}{a b c d:Value}{y:Int}(hs:St H w σ)(g:SvM H s a b c d)(aJ:cR s)(hd:eF x y):
  Z4 88 [svA s a b c d,I (k:Int),.agg #[I x,I y]] w fun u w'=>∃H1 lo hi e,HLe H H1∧u= .tuple #[.agg #[I lo,I hi],I e]∧kb s k x y lo hi e∧St H1 w' σ:=by
 refine Cl.o func88 ntmps88 ag3 ?_;refine .ae (.bx hs fun b3 w hs=>?_);refine .bx hs fun b5 w hs=>?_
 refine .o (.alloc hs cS rfl fun b6 w hs=>?_);refine .zn zg (.ae (.y hs (zls [_,_,_,_,_,_,_,_] aP aC) (.z zm (.o (.call call122 rfl (o5 (s:=s) hs g aJ) ?_)))));rintro _ w ⟨H1,lo,hi,e,aq,rfl,hL,hs⟩;have hb:=hL.bd;refine .z zm (.z zex (.z zex (.o (.alloc hs cS rfl fun b8 w hs=>?_))));refine .o (.aE (vs:=[_,_]) hs rfl rfl aD fun w hs=>?_);refine .zn zg (.seq (.ae (.z zm (.zn ez (.dz rfl (fun iy=>?_) (fun iy=>?_))))))
 ·refine .ae (.z (zbd [_,_] bQ) (.z zm (.o (.aE (vs:=[_,_]) hs rfl rfl aD fun w hs=>?_))));exact .zn zg (.ret (rT ((Fin.hZ [] [] hs fun w hs=>⟨_,results2 results88 (cN (vs:=[_,_]) hs rfl bK aD) rfl,H1,_,_,_,aq,rfl,.fls hL iy,hs.out⟩))))
 ·refine .skip (nT (.ae (.y hs (zls [_,_] bK aD) (.y hs (zls [_,_] bK aD) ?_))));obtain rfl:e=0:=by omega
  refine .o (.call call145 rfl (u9 hs ai ai hd) ?_);rintro _ w ⟨rfl,hs⟩;refine .o (.aE (vs:=[_,_]) hs rfl rfl aD fun w hs=>?_);exact .zn zg (.ret (Fin.hZ [] [] hs fun w hs=>⟨_,results2 results88 (cN (vs:=[_,_]) hs rfl bK aD) rfl,H1,_,_,_,aq,rfl,.ok hL,hs.out⟩))
theorem eI{w:World}{k:Int}{a b c d:Value}{y:Int}(hs:St H w σ)(g:SvM H s a b c d):
  Z4 58 [svA s a b c d,I k,.agg #[I x,I y]] w fun u w'=>∃H1 lo hi e,HLe H H1∧u= .tuple #[.agg #[I lo,I hi],I e]∧FD s k x y lo hi e∧St H1 w' σ:=by
 obtain ⟨aw,cw,rfl⟩:=RI.shape g.wa;refine Cl.o func58 ntmps58 ag3 ?_;refine .ae (.bx hs fun b3 w hs=>?_);refine .bx hs fun b5 w hs=>?_
 refine .o (.alloc hs cS rfl fun b6 w hs=>?_);refine .zn zg (.seq (.ae (.y hs (zls [_,_,_,_,_,_,_,_] aP aC) (.o (.call Ao rfl (dn (s:=s) hs g.st g.wa g.rd g.cm) ?_)))));rintro _ w ⟨H1,e,aq,rfl,hC,hs⟩;refine .zn zg (.ae (.z zm (.zn ez (.dz rfl (fun eT=>?_) (fun eT=>?_)))))
 ·refine .ae (.z (zbd [_,_] bQ) (.z zm (.o (.aE (vs:=[_,_]) hs rfl rfl aD fun w hs=>?_))));exact .zn zg (.ret (rT ((Fin.hZ [] [] hs fun w hs=>⟨_,results2 results58 (cN (vs:=[_,_]) hs rfl bK aD) rfl,H1,_,_,_,aq,rfl,.bad hC eT,hs.out⟩))))
 ·refine .skip (nT (.seq (.block (.ae ?_))));have aJ:cR s:=hC.cO.1 ai;have oa:=eG aJ.early.1;refine .z zm (.z (zfa aK) (.z (zfa aZ) (.y hs (zld an) (.z (de af) (.z iX (.o (.call kC rfl (bP hs) ?_)))))));rintro _ w ⟨rfl,hs⟩;refine .z ia (.zn zg (.cond rfl (fun gM=>?_) (fun gM=>?_)))
  ·refine .ae (.z (zbd [_,_] bQ) (.o (.aE (vs:=[_,_]) hs rfl rfl aD fun w hs=>?_)));exact .zn zg (.ret (rB (rT ((Fin.hZ [] [] hs fun w hs=>⟨_,results2 results58 (cN (vs:=[_,_]) hs rfl bK aD) rfl,H1,_,_,_,aq,rfl,.water aJ (by simp at gM;omega),hs.out⟩)))))
  ·refine .ae (.y hs (zls [_,_] bK aD) ?_);have hk:0≤k∧k≤(s.sp.wa.length:Int) - 1:=by simpa using gM
   refine .o (.call call118 rfl (nV hs) ?_);rintro _ w ⟨rfl,hs⟩;refine .z ia (.zn zg (.cond rfl (fun jT=>?_) (fun jT=>?_)))
   ·refine .ae (.z (zbd [_,_] bQ) (.o (.aE (vs:=[_,_]) hs rfl rfl aD fun w hs=>?_)));exact .zn zg (.ret (rB (rT ((Fin.hZ [] [] hs fun w hs=>⟨_,results2 results58 (cN (vs:=[_,_]) hs rfl bK aD) rfl,H1,_,_,_,aq,rfl,.dense aJ hk (by simpa using jT),hs.out⟩)))))
   ·refine .skip (nB (nT (.ae (.y hs (zls [_,_,_,_,_,_,_,_] aP aC) (.z zm (.y hs (zls [_,_] bK aD) ?_))))));have yO:eF x y:=by simpa using jT
    obtain ⟨j,rfl⟩:∃j:Nat,k=(j:Int):=⟨k.toNat,ai⟩;refine .o (.call call88 rfl (eH (s:=s) hs (g.mono aq) aJ yO) ?_);rintro _ w ⟨H2,lo,hi,e,aQ,rfl,hS,hs⟩;refine .z zex (.z zex (.o (.aE (vs:=[_,_]) hs rfl rfl aD fun w hs=>?_)));exact .zn zg (.ret (Fin.hZ [] [] hs fun w hs=>⟨_,results2 results58 (cN (vs:=[_,_]) hs rfl bK aD) rfl,H2,_,_,_,aq.trans aQ,rfl,.go aJ hk yO (by rw [Int.toNat_natCast];exact hS),hs.out⟩))
set_option maxHeartbeats 2000000 in
theorem yA{w:World}{r:List Lg}{a b c d:Value}(hs:St H w σ)(g:SvM H s a b c d)(gl:LnM H l vt vs)(jz:RLg H fJ r):
  Z4 79 [svA s a b c d,lnA l vt vs,.agg #[fJ],.agg #[I m.lo,I m.hi]] w fun u w'=>∃(H1:bG) (z:RtV) (ks:List Int) (e:Int),HLe H H1∧u= .tuple #[z.agg,I e]∧z.cs.all Value.oneCell'=true∧oQ s l r m ks e∧(e=0→∃vms vmk,z=⟨s,l,a,b,c,d,vt,vs,fJ,vms,vmk⟩∧RRg H1 vms (msL m r r.length)∧RI H1 vmk ks)∧St H1 w' σ:=by
 obtain ⟨uB,uA,rfl⟩:=jz.shape;refine Cl.o func79 ntmps79 ag4 ?_;refine .ae (.bx hs fun b4 w hs=>?_);refine .bx hs fun b5 w hs=>?_
 refine .bx hs fun b6 w hs=>?_
 refine .bx hs fun b7 w hs=>?_
 refine .o (.alloc hs uF rfl fun b8 w hs=>?_);refine .zn zg (.seq (.ae (.y hs (zls [_,_,_,_,_,_,_,_] aP aC) (.o (.call Ao rfl (dn (s:=s) hs g.st g.wa g.rd g.cm) ?_)))));rintro _ w ⟨H1,e,aq,rfl,hC,hs⟩;refine .zn zg (.ae (.z zm (.zn ez (.dz rfl (fun jU=>?_) (fun jU=>?_)))))
 ·refine .ae (.z (zbd RtV.zero.cs gI rfl az) (.z zm (.o (.aE (vs:=RtV.zero.cs) hs rfl rfl eR fun w hs=>?_))));exact .zn zg (.ret (rT ((Fin.hZ [] [] hs fun w hs=>⟨_,results2 TV (cN (vs:=RtV.zero.cs) hs rfl FN eR) rfl,H1,RtV.zero,_,_,aq,rfl,rfl,.bad hC jU,fun h=>(jU h).elim,hs.out⟩))))
 ·refine .skip (nT (.seq (.ae (.y hs (zls [_,_,_,_] cj bj) ?_))));have aJ:cR s:=hC.cO.1 ai;have AQ:=aJ.early.1;refine .o (.call call19 rfl (fk hs (gl.tb.mono aq) (gl.sn.mono aq)) ?_);rintro _ w ⟨f,rfl,hL,hs⟩;refine .zn zg (.ae (.z zm (.zn ez (.dz rfl (fun pH=>?_) (fun pH=>?_)))))
  ·refine .ae (.z (zbd RtV.zero.cs gI rfl az) (.z zm ?_));have hl:=hL.resolve_left fun h=>pH h.2
   refine .o (.aE (vs:=RtV.zero.cs) hs rfl rfl eR fun w hs=>?_);exact .zn zg (.ret (rT ((Fin.hZ [] [] hs fun w hs=>⟨_,results2 TV (cN (vs:=RtV.zero.cs) hs rfl FN eR) rfl,H1,RtV.zero,_,_,aq,rfl,rfl,by rw [hl.2];exact .lines aJ hl.1,fun h=>(pH h).elim,hs.out⟩))))
  ·refine .skip (nT (.seq (.ae (.y hs (zls [_] dV bY) ?_))));have hl:fo l:=(hL.resolve_right fun h=>by omega).1;refine .o (.call call21 rfl (l7 hs (jz.mono aq)) ?_);rintro _ w ⟨q,rfl,hR,hs⟩;refine .zn zg (.ae (.z zm (.zn ez (.dz rfl (fun rl=>?_) (fun rl=>?_)))))
   ·refine .ae (.z (zbd RtV.zero.cs gI rfl az) (.z zm ?_));have nI:=hR.resolve_left fun h=>rl h.2
    refine .o (.aE (vs:=RtV.zero.cs) hs rfl rfl eR fun w hs=>?_);exact .zn zg (.ret (rT ((Fin.hZ [] [] hs fun w hs=>⟨_,results2 TV (cN (vs:=RtV.zero.cs) hs rfl FN eR) rfl,H1,RtV.zero,_,_,aq,rfl,rfl,by rw [nI.2];exact .route aJ hl nI.1,fun h=>(rl h).elim,hs.out⟩))))
   ·refine .skip (nT (.seq (.ae (.y hs (zls [_,_] bK aD) ?_))));have nI:oP r:=(hR.resolve_right fun h=>by omega).1;have hn:=nI.many;refine .o (.call call109 rfl (lN hs) ?_);rintro _ w ⟨rfl,hs⟩;refine .zn ia (.cond rfl (fun E6=>?_) (fun E6=>?_))
    ·refine .ae (.z (zbd RtV.zero.cs gI rfl az) (.o (.aE (vs:=RtV.zero.cs) hs rfl rfl eR fun w hs=>?_)));exact .zn zg (.ret (rT ((Fin.hZ [] [] hs fun w hs=>⟨_,results2 TV (cN (vs:=RtV.zero.cs) hs rfl FN eR) rfl,H1,RtV.zero,_,_,aq,rfl,rfl,.mass aJ hl nI (by simpa using E6),fun h=>by omega,hs.out⟩))))
    ·refine .skip (nT (.cut (fun fs w=>∃H2 vms mf,mT fs ⟨76,[],[(13,Pt mf),(8,Pt b8),(5,Pt b5),(6,Pt b6)]⟩∧HLe H1 H2∧RRg H2 vms (msL m r r.length)∧St H2 w (.blk mf (RtV.cs ⟨s,l,a,b,c,d,vt,vs,.slice uB r.length uA,vms,.slice none 0 0⟩):: .blk b8 RtV.zero.cs:: .blk b6 [.slice uB r.length uA]:: .blk b5 (lnC l vt vs)::σ)) ?_ ?_))
     ·refine .draw mix rfl hs fun w hs=>?_
      refine .ys 0 rfl hs [_,_,_,_,_,_,_,_] aP aC ?_;refine .ys 1 rfl hs [_,_,_,_] cj bj ?_;refine .z 2 rfl (zfa bT) ?_;refine .y 3 rfl hs fB ?_;refine .ys 4 rfl hs [_] dV bY ?_;refine .ys 5 rfl hs [_,_] bK aD ?_;refine .e2 (i:=6) (j:=8) az rfl rfl rfl rfl .none .none hs ?_ ?_
      ·refine .call call110 rfl (lJ hs (jz.mono aq) nI (by simpa using E6)) ?_;rintro vms w ⟨H2,aQ,Fa,hs⟩;obtain ⟨Ep,En,rfl⟩:=Fa.shape;refine .go (.zw 7 rfl (zbd (vs:=[(0,svA s a b c d),(1,lnA l vt vs),(2,.slice uB r.length uA),(3,.slice Ep (msL m r r.length).length En)]) (RtV.cs ⟨s,l,a,b,c,d,vt,vs,.slice uB r.length uA,.slice Ep (msL m r r.length).length En,.slice none 0 0⟩) gI rfl az) (.E 8 hs ?_));refine .alloc hs uF rfl ?_;intro mf w hs;refine .go (.E 9 hs ?_);refine .aE (vs:=RtV.cs ⟨s,l,a,b,c,d,vt,vs,.slice uB r.length uA,.slice Ep (msL m r r.length).length En,.slice none 0 0⟩) hs rfl rfl eR ?_ (hv:=RtV.one g gl jz (RS.one Fa) rfl);intro w hs;exact .go (.D hs (nT ⟨H2,_,mf,aW,aQ,Fa,hs.sb⟩))
      ·refine .alloc hs uF rfl ?_;intro mf w hs;refine .go (.E 6 hs ?_);refine .call call110 rfl (lJ hs (jz.mono aq) nI (by simpa using E6)) ?_;rintro vms w ⟨H2,aQ,Fa,hs⟩;obtain ⟨Ep,En,rfl⟩:=Fa.shape;refine .go (.zw 7 rfl (zbd (vs:=[(0,svA s a b c d),(1,lnA l vt vs),(2,.slice uB r.length uA),(3,.slice Ep (msL m r r.length).length En)]) (RtV.cs ⟨s,l,a,b,c,d,vt,vs,.slice uB r.length uA,.slice Ep (msL m r r.length).length En,.slice none 0 0⟩) gI rfl az) (.E 9 hs ?_));refine .aE (vs:=RtV.cs ⟨s,l,a,b,c,d,vt,vs,.slice uB r.length uA,.slice Ep (msL m r r.length).length En,.slice none 0 0⟩) hs rfl rfl eR ?_ (hv:=RtV.one g gl jz (RS.one Fa) rfl);intro w hs;exact .go (.D hs (nT ⟨H2,_,mf,aW,aQ,Fa,hs.sb⟩))
     ·rintro fs w ⟨H2,vms,mf,iR,aQ,Fa,hs⟩;refine WE.sub ?_ iR;clear iR;have dr:=aq.trans aQ;have hm:eK m.lo m.hi:=by simpa using E6
      refine .seq (.ae (.z (zfa bT) (.y hs (zld fB) (.z (de a8) (.zn zm (.for (N:=r.length) (J:=fun k fr w=>∃H3 ks vmk en,fr=[(49,.slice uB r.length uA),(13,Pt mf),(8,Pt b8),(5,Pt b5)]∧HLe H2 H3∧ks.length=k∧(∀i<k,uC s.sp.wa l (lg0 r i) (gi ks i) 0)∧cz 1 vmk (Is ks) en∧St H3 w (en:: .blk mf (RtV.cs ⟨s,l,a,b,c,d,vt,vs,.slice uB r.length uA,vms,vmk⟩):: .blk b8 RtV.zero.cs:: .blk b6 [.slice uB r.length uA]:: .blk b5 (lnC l vt vs)::σ)) ai ?_ ?_ ?_))))))
      ·exact .mk ⟨H2,[],_,.nul,rfl,HLe.refl _,rfl,fun i hi=>by omega,.nil 1 none,hs.nul⟩
      ·rintro k fr w hk ⟨H3,ks,vmk,en,rfl,bJ,sV,Uq,hO,hs⟩;have hx:=mH (l:=r) hk;have eC:=dr.trans bJ;obtain ⟨ao,lo',co,rfl,w7⟩:=hO.shape;refine .block (.ae (.ixX (enc:=Lg.c) hs (jz.mono eC) rfl rfl a8 bk hx dG ?_));intro ZY o53 E5;refine .q hs (bH (vs:=(Lg.c (lg0 r k))) rfl fa bk E5) (.o (.alloc hs dM rfl fun Ch w hs=>?_));refine .o (.aE (vs:=(lg0 r k).c) hs rfl rfl bk fun w hs=>?_);change St _ _ (.blk Ch (lgC (lg0 r k))::_) at hs;refine .nil (.ae (.z (zfa mL) (.z (zfa aK) (.y hs (zls [_,_,_,_,_,_] bC aT) (.y hs (zls [_,_,_,_] cj bj) (.y hs (zls [_,_,_,_,_,_,_] fa bk) (.o (.call call115 rfl (lK (s:=s.sp) (x:=lg0 r k) hs (g.wa.mono eC) (gl.tb.mono eC) (gl.sn.mono eC) AQ hl (nI.leg k hk).1) ?_))))))));rintro _ w ⟨H4,n,e,eo,rfl,Gt,hs⟩;have gU:=eC.trans eo;refine .z zm (.z zex (.z zex (.z zg (.zn zg (.seq (.ae (.z zm (.zn ez (.dz rfl (fun PV=>?_) (fun PV=>?_))))))))))
       ·refine .ae (.z (zbd RtV.zero.cs gI rfl az) (.z zm (.o (.aE (vs:=RtV.zero.cs) hs rfl rfl eR fun w hs=>?_))));exact .zn zg (.ret (rT (rB (rT (rB (rT ((Fin.hZ [] [] hs fun w hs=>⟨_,results2 TV (cN (vs:=RtV.zero.cs) hs rfl FN eR) rfl,H4,RtV.zero,_,_,gU,rfl,rfl,.low aJ hl nI hm hk (fun j hj=>⟨_,Uq j hj⟩) Gt PV,fun h=>(PV h).elim,hs.out⟩))))))))
       ·refine .skip (nT (.region (.z (zfa je) (.y hs (zld an) (.z zm (.o (.buildSlice (cells:=Is [n]) hs cQ rfl az fun ZV w hs=>?_)))))));refine .o (.append (ys:=Is [n]) hs cI rfl rfl hO (.own .here rfl rfl) (jC _) (fun l h=>by simp [Is] at h;omega) ?_);intro v72 en72 w eb hs;rw [←List.map_append] at eb;obtain ⟨a72,l72,c72,rfl,h72⟩:=eb.shape;refine .z (zfa je) (.o (.store hs rfl rfl aO fun w hs=>?_));refine .nil (nB (nT ?_));obtain rfl:e=0:=by omega
        exact .mk ⟨H4,ks++[n],_,_,rfl,bJ.trans eo,by simp [sV],fun i hi=>by
         by_cases e:i=k
         ·subst e;rw [qp,if_neg ai,if_pos ai];exact Gt
         ·rw [qp,if_pos ai];exact Uq i ai,eb,hs.sb⟩
      ·rintro fr w ⟨H3,ks,vmk,en,rfl,bJ,sV,Uq,hO,hs⟩;obtain ⟨H4,eo,Ol,hs⟩:=hO.dT ai hs .here;have gU:=dr.trans (bJ.trans eo);refine nT (.ae (.y hs (zls [_,_,_,_,_,_,_,_,_,_,_,_,_,_,_] FN eR) (.o (.aE (vs:=RtV.cs ⟨s,l,a,b,c,d,vt,vs,.slice uB r.length uA,vms,vmk⟩) hs rfl rfl eR ?_ (hv:=RtV.one g gl jz (RS.one Fa) (RS.one Ol))))));intro w hs;exact .zn zg (.ret (Fin.hZ [] [] hs fun w hs=>⟨_,results2 TV (cN (vs:=RtV.cs ⟨s,l,a,b,c,d,vt,vs,.slice uB r.length uA,vms,vmk⟩) hs rfl FN eR) rfl,H4,⟨s,l,a,b,c,d,vt,vs,.slice uB r.length uA,vms,vmk⟩,_,_,gU,rfl,RtV.one g gl jz (RS.one Fa) (RS.one Ol),.ok aJ hl nI hm sV Uq,fun _=>⟨_,_,rfl,Fa.mono (bJ.trans eo),Ol⟩,hs.out⟩))
structure RtM(H:bG)(s:Srv)(l:Lns)(r:List Lg)(m:Rng)(ks:List Int)(z:RtV):Prop where
 es:z.s=s
 el:z.l=l
 sv:SvM H s z.a z.b z.c z.d
 ln:LnM H l z.t z.n
 lg:RLg H z.lg r
 ms:RRg H z.ms (msL m r r.length)
 mr:RI H z.mr ks
 one:z.cs.all Value.oneCell'=true
 beg:oQ s l r m ks 0
set_option maxHeartbeats 1000000 in
theorem vf{w:World}{r:List Lg}{z:RtV}(hs:St H w σ)(h:RtM H s l r m ks z):
  Z4 80 [z.agg] w fun u w'=>∃H1 v dm e,HLe H H1∧u= .tuple #[v,I e]∧RI H1 v dm∧Iq s l r m dm e∧St H1 w' σ:=by
 obtain ⟨s',l',a,b,c,d,t,n,lg,ms,mr⟩:=z;obtain ⟨rfl,rfl,g,gl,hr,Dp,Iz,PF,hB⟩:=h;dsimp only at g gl hr Dp Iz PF;obtain ⟨uB,uA,rfl⟩:=hr.shape;obtain ⟨Ep,En,rfl⟩:=Dp.shape;obtain ⟨OD,OB,rfl⟩:=RI.shape Iz;obtain ⟨aJ,hl,nI,hm,sV,tE⟩:=hB.ok';have hn:=nI.many;have Sf:=nU m r r.length;refine Cl.o func80 ntmps80 ag1 ?_;refine .ae (.bx hs fun b1 w hs=>?_);refine .z zg (.zn zg (.ae (.zn zg (.seq (.ae (.z (zfa kn) (.y hs (zld fB) (.z (de a8) (.zn zm (.for (N:=r.length) (J:=fun k fr w=>∃H1 vo dm en,fr=[(4,vo),(11,.slice uB r.length uA),(1,Pt b1)]∧HLe H H1∧dm.length=k∧(∀i<k,∃lo hi,kb s' (gi ks i).toNat (lg0 r i).dlo (lg0 r i).dhi lo hi 0∧gi dm i=zH (oB m r i) lo hi)∧(0<k→s'.sys.Sound)∧cz 1 vo (Is dm) en∧St H1 w (en:: .blk b1 (RtV.cs ⟨s',l',a,b,c,d,t,n,.slice uB r.length uA,.slice Ep (msL m r r.length).length En,.slice OD ks.length OB⟩)::σ)) ai ?_ ?_ ?_))))))))))
 ·exact .mk ⟨H,_,[],.nul,rfl,HLe.refl _,rfl,fun i hi=>by omega,fun h=>by omega,.nil 1 none,hs.nul⟩
 ·rintro k fr w hk ⟨H1,vo,dm,en,rfl,aq,CC,has,om,hO,hs⟩;have hx:=mH (l:=r) hk;have T7:=sy m r (k:=r.length) (i:=k) ai;have yO:=(nI.leg k hk).1.dense;obtain ⟨q,hq,EZ⟩:=hB.mark hk;obtain ⟨ao,lo',co,rfl,w7⟩:=hO.shape;refine .block (.ae (.z zm (.ixX (enc:=Lg.c) hs (hr.mono aq) rfl rfl a8 bk hx dG ?_)));intro ui o16 dN;refine .q hs (bH (vs:=(Lg.c (lg0 r k))) rfl fa bk dN) (.o (.alloc hs dM rfl fun b6 w hs=>?_));refine .z zg (.o (.aE (vs:=(lg0 r k).c) hs rfl rfl bk fun w hs=>?_));change St _ _ (.blk b6 (lgC (lg0 r k))::_) at hs;refine .nil (.cut (fun fs w=>∃H2 lo hi e b7,mT fs ⟨60,[],[(8,I e),(7,Pt b7),(6,Pt b6),(5,I (k:Int)),(4,.slice ao lo' co),(1,Pt b1),(11,.slice uB r.length uA),(13,I (k:Int)),(12,I (r.length:Int))]⟩∧HLe H1 H2∧kb s' q (lg0 r k).dlo (lg0 r k).dhi lo hi e∧St H2 w (.blk b7 [I lo,I hi]:: .blk b6 (lgC (lg0 r k))::en:: .blk b1 (RtV.cs ⟨s',l',a,b,c,d,t,n,.slice uB r.length uA,.slice Ep (msL m r r.length).length En,.slice OD ks.length OB⟩)::σ)) ?_ ?_)
  ·refine .draw mix rfl hs fun w hs=>?_
   refine .zw 0 rfl (zfa mL) ?_;refine .ys 1 rfl hs [_,_,_,_,_,_,_,_] aP aC ?_;refine .z 2 rfl (zfa je) ?_;refine .y 3 rfl hs an ?_;refine .z 4 rfl zm ?_;refine .ixX (enc:=fun x=>[I x]) (i:=5) hs rfl az .none (Iz.mono aq) rfl rfl af ak (bL (l:=ks) (i:=k) ai) rfl ?_;intro Nn o24 mJ;replace mJ:=bN.one mJ;refine .y 6 rfl hs aj ?_;refine .z 7 rfl (zfa dJ) ?_;refine .ys 8 rfl hs [_,_] bK aD ?_;refine .e2 (i:=9) (j:=13) az rfl rfl rfl rfl .none .none hs ?_ ?_
   ·rw [hq];refine .call call88 rfl (eH (s:=s') hs (g.mono aq) aJ yO) ?_;rintro _ w ⟨H2,lo,hi,e,aQ,rfl,hS,hs⟩;refine .go (.zw 10 rfl zm ?_);refine .z 11 rfl zex ?_;refine .z 12 rfl zex ?_;refine .E 13 hs ?_;refine .alloc hs cS rfl ?_;intro b7 w hs;refine .go (.E 14 hs ?_);refine .aE (vs:=[_,_]) hs rfl rfl aD ?_;intro w hs;refine .go (.zw 15 rfl zg ?_);refine .D hs ?_;exact nT ⟨H2,lo,hi,e,b7,aW,aQ,hS,hs.sb⟩
   ·refine .alloc hs cS rfl ?_;intro b7 w hs;refine .go (.E 9 hs ?_);rw [hq];refine .call call88 rfl (eH (s:=s') hs (g.mono aq) aJ yO) ?_;rintro _ w ⟨H2,lo,hi,e,aQ,rfl,hS,hs⟩;refine .go (.zw 10 rfl zm ?_);refine .z 11 rfl zex ?_;refine .z 12 rfl zex ?_;refine .E 14 hs ?_;refine .aE (vs:=[_,_]) hs rfl rfl aD ?_;intro w hs;refine .go (.zw 15 rfl zg ?_);refine .D hs ?_;exact nT ⟨H2,lo,hi,e,b7,aW,aQ,hS,hs.sb⟩
  ·rintro fs w ⟨H2,lo,hi,e,b7,iR,aQ,hS,hs⟩;refine WE.sub ?_ iR;clear iR;have dr:=aq.trans aQ;refine .seq (.ae (.z zm (.zn ez (.dz rfl (fun HT=>?_) (fun HT=>?_)))))
   ·exact .ae (.z zm (.z zg (.zn zg (.ret (rT (rB (rT (rB (rT (Fin.jr results80 rfl rfl ⟨H2,_,[],_,dr,rfl,RS.nil H2 1 none 0,by rcases hS.err aJ EZ with h|h;exact (HT h.1).elim;rw [h.1];exact .fls hB h.2.1,hs.out⟩))))))))))
   ·refine .skip (nT (.ae (.zn zg (.cut (fun fs w=>∃x,mT fs ⟨60,[],[(9,I x),(4,.slice ao lo' co),(1,Pt b1),(11,.slice uB r.length uA),(13,I (k:Int)),(12,I (r.length:Int))]⟩∧x=zH (oB m r k) lo hi∧St H2 w (.blk b7 [I lo,I hi]:: .blk b6 (lgC (lg0 r k))::en:: .blk b1 (RtV.cs ⟨s',l',a,b,c,d,t,n,.slice uB r.length uA,.slice Ep (msL m r r.length).length En,.slice OD ks.length OB⟩)::σ)) ?_ ?_))))
    ·refine .block (.seq (.draw mix rfl hs fun w hs=>?_));refine .zw 0 rfl (zfa mK) ?_;refine .y 1 rfl hs isAgg80 ?_;refine .z 2 rfl zm ?_;refine .ixX (enc:=Rng.c) (i:=3) hs rfl az .none (RS.mono Dp dr) rfl rfl cn aD T7 rfl ?_;intro b38 o38 E6;refine .zw 4 rfl (zfa bu) (.r (i:=5) hs rfl az .none (aR rfl aj (E6.get 1 rfl)) ?_);refine .zw 6 rfl (zfa bh) ?_;refine .y 7 rfl hs aj ?_;refine .z 8 rfl sY ?_;refine .z 9 rfl zg ?_;refine .D hs ?_;refine (.cg rfl (fun lP=>?_) (fun lP=>?_))
     ·exact .region (.zn zg (nB (nT ⟨_,aW,by unfold zH;simp [*],hs⟩)))
     ·refine .seq (.draw mix rfl hs fun w hs=>?_);refine .zw 0 rfl (zfa mK) ?_;refine .y 1 rfl hs isAgg80 ?_;refine .z 2 rfl zm ?_;refine .ixX (enc:=Rng.c) (i:=3) hs rfl az .none (RS.mono Dp dr) rfl rfl cn aD T7 rfl ?_;intro b48 o48 pG;refine .zw 4 rfl (zfa bh) (.r (i:=5) hs rfl az .none (aR rfl aj (pG.get 0 rfl)) ?_);refine .zw 6 rfl (zfa bu) ?_;refine .y 7 rfl hs aj ?_;refine .z 8 rfl nJ ?_;refine .z 9 rfl zg ?_;refine .D hs ?_;refine (.cg rfl (fun Dt=>?_) (fun Dt=>?_))
      ·exact .region (.zn zg (nB (nT ⟨_,aW,by unfold zH;simp [*],hs⟩)))
      ·exact .skip (nB (nT ⟨_,aW,by unfold zH;simp [*],hs⟩))
    ·rintro fs w ⟨x,iR,hx9,hs⟩;refine WE.sub ?_ iR;clear iR;refine .region (.z zm (.z zm (.o (.buildSlice (cells:=Is [x]) hs cQ rfl az fun ZX w hs=>?_))));refine .o (.append (ys:=Is [x]) hs cI rfl rfl hO (.own .here rfl rfl) (jC _) (fun l h=>by simp [Is] at h;omega) ?_);intro v57 en57 w eb hs;rw [←List.map_append] at eb;refine .zn zg (nB (nT ?_));obtain rfl:e=0:=by omega
     exact .mk ⟨H2,_,dm++[x],_,rfl,dr,by simp [CC],fun i hi=>by
      by_cases e:i=k
      ·subst e;exact ⟨_,_,by rw [hq,Int.toNat_natCast];exact hS,by rw [qp,if_neg ai,if_pos ai];exact hx9⟩
      ·rw [qp,if_pos ai];exact has i ai,fun _=>(hS.err aJ EZ).elim (fun h=>h.2) (fun h=>by omega),eb,hs.sb⟩
 ·rintro fr w ⟨H1,vo,dm,en,rfl,aq,CC,has,om,hO,hs⟩;obtain ⟨H4,eo,Ol,hs⟩:=hO.dT ai hs .here;exact nT (.ae (.z zm (.z zg (.zn zg (.ret (Fin.jr results80 rfl rfl ⟨H4,_,_,_,aq.trans eo,rfl,Ol,.ok hB (om ai) CC has,hs.out⟩))))))
theorem qe{w:World}{r:List Lg}{a b c d:Value}(hs:St H w σ)(g:SvM H s a b c d)(gl:LnM H l vt vs)(jz:RLg H fJ r):
  Z4 79 [svA s a b c d,lnA l vt vs,.agg #[fJ],.agg #[I m.lo,I m.hi]] w fun u w'=>∃(H1:bG) (z:RtV) (ks:List Int) (e:Int),HLe H H1∧u= .tuple #[z.agg,I e]∧z.cs.all Value.oneCell'=true∧oQ s l r m ks e∧(e=0→RtM H1 s l r m ks z)∧St H1 w' σ:=by
 refine (yA hs g gl jz).mono ?_;rintro u w' ⟨H1,z,ks,e,hle,hu,ho,hB,h0,hs⟩;exact ⟨H1,z,ks,e,hle,hu,ho,hB,fun he=>by
  obtain ⟨vms,vmk,rfl,h1,h2⟩:=h0 he;subst he;exact ⟨rfl,rfl,g.mono hle,gl.mono hle,jz.mono hle,h1,h2,ho,hB⟩,hs⟩
theorem kN{w:World}{r:List Lg}{a b c d:Value}(hs:St H w σ)(g:SvM H s a b c d)(gl:LnM H l vt vs)(jz:RLg H fJ r):
  Z4 24 [svA s a b c d,lnA l vt vs,.agg #[fJ],.agg #[I m.lo,I m.hi]] w fun u w'=>∃H1 v dm e,HLe H H1∧u= .tuple #[v,I e]∧RI H1 v dm∧Iq s l r m dm e∧St H1 w' σ:=by
 refine Cl.o func24 ntmps24 ag4 ?_;refine .ae (.bx hs fun b4 w hs=>?_);refine .bx hs fun b5 w hs=>?_
 refine .bx hs fun b6 w hs=>?_
 refine .bx hs fun b7 w hs=>?_
 refine .z zg (.zn zg (.ae (.y hs (zls [_,_,_,_,_,_,_,_] aP aC) (.y hs (zls [_,_,_,_] cj bj) (.y hs (zls [_] dV bY) (.y hs (zls [_,_] bK aD) (.o (.call call79 rfl (qe (s:=s) (l:=l) (m:=m) hs g gl jz) ?_))))))));rintro _ w ⟨H1,z,ks,e,aq,rfl,ho,hB,h0,hs⟩;refine .z zm (.z zex (.z zex (.o (.alloc hs uF rfl fun mU w hs=>?_))));refine .o (.aE (vs:=z.cs) hs rfl rfl eR ?_ (hv:=ho));intro w hs;refine .zn zg (.seq (.ae (.z zm (.zn ez (.dz rfl (fun jU=>?_) (fun jU=>?_))))))
 ·exact .ae (.z zm (.z zg (.zn zg (.ret (rT (Fin.jr results24 rfl rfl ⟨H1,_,[],_,aq,rfl,RS.nil H1 1 none 0,.bad hB jU,hs.out⟩))))))
 ·refine .skip (nT (.ae (.y hs (zls [_,_,_,_,_,_,_,_,_,_,_,_,_,_,_] FN eR) ?_)));obtain rfl:e=0:=by omega
  refine .o (.call call80 rfl (vf hs (h0 rfl)) ?_);rintro _ w ⟨H2,v,dm,e,aQ,rfl,hR,hA,hs⟩;exact .z zex (.z zex (.z zg (.zn zg (.ret (Fin.jr results24 rfl rfl ⟨H2,_,_,_,aq.trans aQ,rfl,hR,hA,hs.out⟩)))))
theorem wX{w:World}{v:Value}(hs:St H w σ)(hr:RI H v dm):Z4 86 [v] w fun u w'=>u=I (zZ dm)∧St H w' σ:=by
 obtain ⟨a,c,rfl⟩:=RI.shape hr;have hl:=(RI.len hr).2.2;refine Cl.o func86 ntmps86 ag1 ?_;refine .ae (.zn zg (.ae (.zn zg (.seq (.ae (.z zm (.z (de af) (.zn zm (.for (N:=dm.length) (J:=fun k fr w=>fr=[(3,I (if (2:Int)∈dm.take k then 2 else 1)),(6,.slice a dm.length c)]∧(∀i<k,gi dm i≠0)∧St H w σ) ai ?_ ?_ ?_)))))))))
 ·exact .mk ⟨rfl,fun i hi=>by omega,hs⟩
 ·rintro k fr w hk ⟨rfl,fV,hs⟩;have ht:=dA (bL hk);refine .block (.ae (.ixY hs hr rfl rfl af ak (bL (l:=dm) (i:=k) ai) dG ?_));intro mU o10 qm;refine .q hs (aR rfl aj qm) (.zn zg (.ae (.zn zm (.block (.ae (.z ik (.zn zg (.cg rfl (fun iz=>?_) (fun iz=>?_)))))))))
  ·exact .ae (.zn zg (.ret (rB (rB (rT (rB (rT (Fin.bw results86 rfl ⟨by unfold zZ;rw [if_pos (by rw [←iz];exact List.mem_of_getElem? (bL hk))],hs⟩))))))))
  ·refine .ae (.z ik (.zn zg (.cg rfl (fun gM=>?_) (fun gM=>?_))))
   ·refine .region (.zn zg (nB (nB (nT ?_))));exact .mk ⟨by rw [ht,if_pos (List.mem_append.2 (.inr (by rw [gM];exact .head _)))],fun i hi=>by
     by_cases e:i=k
     ·subst e;exact iz
     ·exact fV i ai,hs⟩
   ·refine .skip (nB (nB (nT ?_)));have e2:(if (2:Int)∈dm.take (k+1) then (2:Int) else 1)=if (2:Int)∈dm.take k then 2 else 1:=by
     have e:(2:Int)∈dm.take (k+1)↔(2:Int)∈dm.take k:=by
      rw [ht,List.mem_append];exact ⟨fun h=>h.elim id fun h=>by rw [List.mem_singleton] at h;exact (gM h.symm).elim,.inl⟩
     simp only [e]
    exact .mk ⟨by rw [e2],fun i hi=>by
     by_cases e:i=k
     ·subst e;exact iz
     ·exact fV i ai,hs⟩
 ·rintro fr w ⟨rfl,fV,hs⟩;rw [List.take_length];refine nT (.ae (.z zm (.zn zg (.ret (Fin.bw results86 rfl ?_)))));have h0:¬(0:Int)∈dm:=fun h=>by
   obtain ⟨i,hi⟩:=List.getElem?_of_mem h;have eX:=(List.getElem?_eq_some_iff.1 hi).1;rw [bL eX] at hi;exact fV i eX (Option.some.inj hi)
  exact ⟨by unfold zZ;rw [if_neg h0],hs⟩
theorem kj{w:World}{r:List Lg}{a b c d:Value}(hs:St H w σ)(g:SvM H s a b c d)(gl:LnM H l vt vs)(jz:RLg H fJ r):
  Z4 26 [svA s a b c d,lnA l vt vs,.agg #[fJ],.agg #[I m.lo,I m.hi]] w fun u w'=>∃H1 n e,HLe H H1∧u= .tuple #[I n,I e]∧GZ s l r m n e∧St H1 w' σ:=by
 refine Cl.o func26 ntmps26 ag4 ?_;refine .ae (.bx hs fun b4 w hs=>?_);refine .bx hs fun b5 w hs=>?_
 refine .bx hs fun b6 w hs=>?_
 refine .bx hs fun b7 w hs=>?_
 refine .z zg (.zn zg (.ae (.y hs (zls [_,_,_,_,_,_,_,_] aP aC) (.y hs (zls [_,_,_,_] cj bj) (.y hs (zls [_] dV bY) (.y hs (zls [_,_] bK aD) (.o (.call call24 rfl (kN (s:=s) (l:=l) (m:=m) hs g gl jz) ?_))))))));rintro _ w ⟨H1,v,dm,e,aq,rfl,hR,hA,hs⟩;refine .z zm (.z zex (.z zex (.z zg (.zn zg (.seq (.ae (.z zm (.zn ez (.dz rfl (fun jU=>?_) (fun jU=>?_))))))))))
 ·exact .ae (.z zm (.z zg (.zn zg (.ret (rT (Fin.jr results26 rfl rfl ⟨H1,_,_,aq,rfl,.bad hA jU,hs.out⟩))))))
 ·refine .skip (nT (.ae (.z zm ?_)));obtain rfl:e=0:=by omega
  refine .o (.call call86 rfl (wX hs hR) ?_);rintro _ w ⟨rfl,hs⟩;exact .z zg (.zn zg (.ret (Fin.jr results26 rfl rfl ⟨H1,_,_,aq,rfl,.ok hA,hs.out⟩)))
set_option maxHeartbeats 1000000 in
theorem zW{w:World}{r:List Lg}{a b c d:Value}(hs:St H w σ)(g:SvM H s a b c d)(gl:LnM H l vt vs)(jz:RLg H fJ r):
  Z4 28 [svA s a b c d,lnA l vt vs,.agg #[fJ]] w fun u w'=>∃H1 n e,HLe H H1∧u= .tuple #[I n,I e]∧Cn s l r n e∧St H1 w' σ:=by
 refine Cl.o func28 ntmps28 ag3 ?_;refine .ae (.bx hs fun b3 w hs=>?_);refine .bx hs fun b4 w hs=>?_
 refine .bx hs fun b5 w hs=>?_
 refine .z zg (.zn zg (.ae (.y hs (zls [_,_,_,_,_,_,_,_] aP aC) (.y hs (zls [_,_,_,_] cj bj) (.y hs (zls [_] dV bY) (.z (zbd [I 0,I 0] bQ) (.o (.call call79 rfl (qe (s:=s) (l:=l) (m:=⟨0,0⟩) hs g gl jz) ?_))))))));rintro _ w ⟨H1,z,ks,e,aq,rfl,ho,hB,h0,hs⟩;refine .z zm (.z zex (.z zex (.o (.alloc hs uF rfl fun b8 w hs=>?_))));refine .o (.aE (vs:=z.cs) hs rfl rfl eR ?_ (hv:=ho));intro w hs;refine .zn zg (.seq (.ae (.z zm (.zn ez (.dz rfl (fun jT=>?_) (fun jT=>?_))))))
 ·exact .ae (.z zm (.z zg (.zn zg (.ret (rT (Fin.jr results28 rfl rfl ⟨H1,_,_,aq,rfl,.bad hB jT,hs.out⟩))))))
 ·refine .skip (nT (.ae (.z zg (.zn zg (.seq (.ae ?_))))));obtain rfl:e=0:=by omega
  obtain ⟨s',l',a',b',c',d',t',n',lg',ms',mr'⟩:=z;obtain ⟨rfl,rfl,-,-,Gm,Dp,Iz,PF,-⟩:=h0 rfl;dsimp only at Gm Dp Iz;obtain ⟨uB,uA,rfl⟩:=Gm.shape;obtain ⟨OD,OB,rfl⟩:=RI.shape Iz;obtain ⟨aJ,hl,nI,hm,sV,tE⟩:=hB.ok';have hn:=nI.many;refine .z (zfa kn) (.y hs (zld fB) (.z (de a8) (.zn zm (.for (N:=r.length) (J:=fun k fr w=>∃H2 dd uh,fr=[(10,I uh),(11,I (aM (fun i=>(lg0 r i).blo) k)),(28,.slice uB r.length uA),(8,Pt b8),(3,Pt b3)]∧HLe H1 H2∧(∀i<k,∃hi,kb s' (gi ks i).toNat (lg0 r i).dlo (lg0 r i).dhi (dd i) hi 0)∧Ri dd (fun i=>(lg0 r i).blo) k uh∧((-300000000≤uh∧uh≤1000000000000)∧0≤aM (fun i=>(lg0 r i).blo) k∧aM (fun i=>(lg0 r i).blo) k≤k*1000000000000)∧(0<k→s'.sys.Sound)∧St H2 w (.blk b8 (RtV.cs ⟨s',l',a',b',c',d',t',n',.slice uB r.length uA,ms',.slice OD ks.length OB⟩):: .blk b3 (svC s' a b c d)::σ)) ai ?_ ?_ ?_))))
  ·exact .mk ⟨H1,fun _=>0,1000000000000,rfl,HLe.refl _,fun i hi=>by omega,.inl ⟨fun i hi=>by omega,rfl⟩,by simp [aM],fun h=>by omega,hs.sb⟩
  ·rintro k fr w hk ⟨H2,dd,uh,rfl,aQ,Uv,UG,zF,om,hs⟩;have hx:=mH (l:=r) hk;have yO:=(nI.leg k hk).1.dense;have UA:=(nI.leg k hk).1.burn;unfold eK at UA;obtain ⟨q,hq,EZ⟩:=hB.mark hk;have YP:aM (fun i=>(lg0 r i).blo) (k+1)=aM (fun i=>(lg0 r i).blo) k+(lg0 r k).blo:=rfl;generalize hSe:aM (fun i=>(lg0 r i).blo) k=S at*;refine .block (.ae (.z zm (.ixX (enc:=Lg.c) hs (Gm.mono aQ) rfl rfl a8 bk hx dG ?_)));intro XU o33 rl;refine .q hs (bH (vs:=(Lg.c (lg0 r k))) rfl fa bk rl) (.o (.alloc hs dM rfl fun mf w hs=>?_));refine .z zg (.o (.aE (vs:=(lg0 r k).c) hs rfl rfl bk fun w hs=>?_));change St _ _ (.blk mf (lgC (lg0 r k))::_) at hs;refine .nil (.cut (fun fs w=>∃H3 lo hi e ka,mT fs ⟨68,[],[(15,I e),(14,Pt ka),(13,Pt mf),(10,I uh),(11,I S),(28,.slice uB r.length uA),(8,Pt b8),(3,Pt b3),(30,I (k:Int)),(29,I (r.length:Int))]⟩∧HLe H2 H3∧kb s' q (lg0 r k).dlo (lg0 r k).dhi lo hi e∧St H3 w (.blk ka [I lo,I hi]:: .blk mf (lgC (lg0 r k)):: .blk b8 (RtV.cs ⟨s',l',a',b',c',d',t',n',.slice uB r.length uA,ms',.slice OD ks.length OB⟩):: .blk b3 (svC s' a b c d)::σ)) ?_ ?_)
   ·refine .draw mix rfl hs fun w hs=>?_
    refine .ys 0 rfl hs [_,_,_,_,_,_,_,_] aP aC ?_;refine .z 1 rfl (zfa je) ?_;refine .y 2 rfl hs an ?_;refine .z 3 rfl zm ?_;refine .ixX (enc:=fun x=>[I x]) (i:=4) hs rfl az .none (RS.mono Iz aQ) rfl rfl af ak (bL (l:=ks) (i:=k) ai) rfl ?_;intro UR o40 yS;replace yS:=bN.one yS;refine .y 5 rfl hs aj ?_;refine .z 6 rfl (zfa dJ) ?_;refine .ys 7 rfl hs [_,_] bK aD ?_;refine .e2 (i:=8) (j:=12) az rfl rfl rfl rfl .none .none hs ?_ ?_
    ·rw [hq];refine .call call88 rfl (eH (s:=s') hs (g.mono (aq.trans aQ)) aJ yO) ?_;rintro _ w ⟨H3,lo,hi,e,bJ,rfl,hS,hs⟩;refine .go (.zw 9 rfl zm ?_);refine .z 10 rfl zex ?_;refine .z 11 rfl zex ?_;refine .E 12 hs ?_;refine .alloc hs cS rfl ?_;intro ka w hs;refine .go (.E 13 hs ?_);refine .aE (vs:=[_,_]) hs rfl rfl aD ?_;intro w hs;refine .go (.zw 14 rfl zg ?_);refine .D hs ?_;exact nT ⟨H3,lo,hi,e,ka,aW,bJ,hS,hs.sb⟩
    ·refine .alloc hs cS rfl ?_;intro ka w hs;refine .go (.E 8 hs ?_);rw [hq];refine .call call88 rfl (eH (s:=s') hs (g.mono (aq.trans aQ)) aJ yO) ?_;rintro _ w ⟨H3,lo,hi,e,bJ,rfl,hS,hs⟩;refine .go (.zw 9 rfl zm ?_);refine .z 10 rfl zex ?_;refine .z 11 rfl zex ?_;refine .E 13 hs ?_;refine .aE (vs:=[_,_]) hs rfl rfl aD ?_;intro w hs;refine .go (.zw 14 rfl zg ?_);refine .D hs ?_;exact nT ⟨H3,lo,hi,e,ka,aW,bJ,hS,hs.sb⟩
   ·rintro fs w ⟨H3,lo,hi,e,ka,iR,bJ,hS,hs⟩;refine WE.sub ?_ iR;clear iR;have eC:=aq.trans (aQ.trans bJ);have hSb:=hS.bd yO;refine .seq (.ae (.z zm (.zn ez (.dz rfl (fun pG=>?_) (fun pG=>?_)))))
    ·exact .ae (.z zm (.z zg (.zn zg (.ret (rT (rB (rT (rB (rT (Fin.jr results28 rfl rfl ⟨H3,_,_,eC,rfl,by rcases hS.err aJ EZ with h|h;exact (pG h.1).elim;rw [h.1];exact .fls hB h.2.1,hs.out⟩))))))))))
    ·refine .skip (nT (.seq (.ae (.z (zfa bh) ?_))));obtain rfl:e=0:=by omega
     have YU:∀i<k+1,∃hi,kb s' (gi ks i).toNat (lg0 r i).dlo (lg0 r i).dhi (LG dd k lo i) hi 0:=fun i hi=>by
      by_cases e:i=k
      ·subst e;rw [Bg,hq,Int.toNat_natCast];exact ⟨_,hS⟩
      ·rw [Bf _ _ ai];exact Uv i ai
     have MI:s'.sys.Sound:=(hS.err aJ EZ).elim (fun h=>h.2) (fun h=>by omega);refine .y hs (zld aj) (.zn ju (.cg rfl (fun HR=>?_) (fun HR=>?_)))
     ·exact .region (.zn zg (nT (.ae (.z zm (.z (zfa bh) (.y hs (zld aj) (.z zm (.z cD (.z G5 (.zn zg (.region (.z zm (.z (zfa j7) (.z (zfa bh) (.y hs (zld aj) (.z cD (.zn zg (nB (nT (.mk ⟨H3,LG dd k lo,min (-1) (lo+S),by rw [YP],aQ.trans bJ,YU,.neg HR,ai,fun _=>MI,hs.sb⟩))))))))))))))))))))
     ·exact .skip (nT (.ae (.z zm (.z (zfa bh) (.y hs (zld aj) (.z zm (.z cD (.z G5 (.zn zg (.region (.z zm (.z (zfa j7) (.z (zfa bh) (.y hs (zld aj) (.z cD (.zn zg (nB (nT (.mk ⟨H3,LG dd k lo,min uh (lo+S),by rw [YP],aQ.trans bJ,YU,by rw [←hSe];exact UG.pos ai,ai,fun _=>MI,hs.sb⟩)))))))))))))))))))
  ·rintro fr w ⟨H2,dd,uh,rfl,aQ,Uv,UG,zF,om,hs⟩;refine nT (.seq (.ae (.z zm (.zn ju (.cg rfl (fun WS=>?_) (fun WS=>?_))))))
   ·refine .ae (.z zg (.zn zg (.ret (rT (Fin.jr results28 rfl rfl ?_)))))
    rcases UG with ⟨h1,h2⟩|⟨⟨i,h1,h3⟩,h2⟩
    ·exfalso;have key:∀n,n≤r.length→0≤xU dd (fun i=>(lg0 r i).blo) n:=fun n=>by
      induction n with
      |zero=>intro _;simp [xU]
      |succ n ih=>
       intro hn;have:=ih ai;have:=h1 n ai;have:0≤aM (fun i=>(lg0 r i).blo) n:=df fun i hi=>(nI.leg i ai).1.burn.1
       simp only [xU];omega
     have:=key _ (Nat.le_refl _);omega
    ·obtain ⟨hi,hS⟩:=Uv i h1;exact ⟨H2,_,_,aq.trans aQ,rfl,.none hB (om ai) h1 hS h3,hs.out⟩
   ·refine .skip (nT (.ae (.z zm (.z zg (.zn zg (.ret (Fin.jr results28 rfl rfl ?_)))))))
    rcases UG with ⟨h1,h2⟩|⟨_,h2⟩
    ·rw [h2];exact ⟨H2,_,_,aq.trans aQ,rfl,.ok hB (om ai) fun i hi=>⟨Uv i hi,h1 i hi⟩,hs.out⟩
    ·omega
set_option maxHeartbeats 1000000 in
theorem rf{w:World}{r:List Lg}{x:Wit}{a b c d:Value}(hs:St H w σ)(g:SvM H s a b c d)(gl:LnM H l vt vs)(jz:RLg H fJ r)(gh:RT H vh x.rows):
  Z4 32 [svA s a b c d,lnA l vt vs,.agg #[fJ],.agg #[I m.lo,I m.hi],.agg #[I x.leg,I x.dense,I x.mass,vh]] w fun u w'=>∃H1 e,HLe H H1∧u=I e∧OF s l r m x e∧St H1 w' σ:=by
 refine Cl.o func32 ntmps32 ag5 ?_;refine .ae (.bx hs fun b5 w hs=>?_);refine .bx hs fun b6 w hs=>?_
 refine .bx hs fun b7 w hs=>?_
 refine .bx hs fun b8 w hs=>?_
 refine .bx hs fun b9 w hs=>?_
 refine .zn zg (.ae (.y hs (zls [_,_,_,_,_,_,_,_] aP aC) (.y hs (zls [_,_,_,_] cj bj) (.y hs (zls [_] dV bY) (.y hs (zls [_,_] bK aD) (.o (.call call79 rfl (qe (s:=s) (l:=l) (m:=m) hs g gl jz) ?_)))))));rintro _ w ⟨H1,z,ks,e,aq,rfl,ho,hB,h0,hs⟩;refine .z zm (.z zex (.z zex (.o (.alloc hs uF rfl fun sO w hs=>?_))));refine .o (.aE (vs:=z.cs) hs rfl rfl eR ?_ (hv:=ho));intro w hs;refine .zn zg (.seq (.ae (.z zm (.zn ez (.dz rfl (fun jy=>?_) (fun jy=>?_))))))
 ·exact .ae (.z zm (.zn zg (.ret (rT (Fin.bw It rfl ⟨H1,_,aq,rfl,.bad hB jy,hs.out⟩)))))
 ·refine .skip (nT (.seq (.ae ?_)));obtain rfl:e=0:=by omega
  obtain ⟨s',l',a',b',c',d',t',n',lg',ms',mr'⟩:=z;obtain ⟨rfl,rfl,g',-,Gm,Dp,Iz,PF,-⟩:=h0 rfl;dsimp only at g' Gm Dp Iz;obtain ⟨uB,uA,rfl⟩:=Gm.shape;obtain ⟨Ep,En,rfl⟩:=Dp.shape;obtain ⟨OD,OB,rfl⟩:=RI.shape Iz;obtain ⟨aJ,hl,nI,hm,sV,tE⟩:=hB.ok';have hn:=nI.many;have Sf:=nU m r r.length;replace gh:=gh.mono aq;refine .z (zfa jI) (.y hs (zld aj) (.z (zfa kn) (.y hs (zld fB) (.z (de a8) (.z iX (.o (.call kC rfl (bP hs) ?_)))))));rintro _ w ⟨rfl,hs⟩;refine .z ia (.z zm (.bif (t':=36) rfl (fun P6=>?_) (fun P6=>?_)))
  ·exact .Fs 5 8 false (.zn zpT (.cT (.ae (.zn zg (.ret (rT (Fin.bw It rfl ⟨H1,_,aq,rfl,.no hB (fun h=>by have:=h.leg;simp_all),hs.out⟩)))))))
  ·refine .T (.y hs (zls [_,_,_,_,_,_,_,_] aP aC) (.T (.z (zfa ph) (.T (.y hs (zls [_] oU fA) (.T (.o (.call call65 rfl (kH (s:=s') (rows:=x.rows) hs (g.mono aq).st (g.mono aq).wa (g.mono aq).rd (g.mono aq).cm gh) ?_))))))));rintro _ w ⟨H2,e,aQ,rfl,XK,hs⟩;have dr:=aq.trans aQ;refine .T (.z ez (.zn zpF (.dz rfl (fun Du=>?_) (fun Du=>?_))))
   ·exact .ae (.zn zg (.ret (rT (Fin.bw It rfl ⟨H2,_,dr,rfl,.no hB (fun h=>Du (XK.uniq h.hull)),hs.out⟩))))
   ·refine .skip (nT (.cut (fun fs w=>∃mf ka,mT fs ⟨101,[],[(14,Pt ka),(13,Pt mf),(11,Pt sO),(9,Pt b9)]⟩∧St H2 w (.blk ka (oB m r x.leg.toNat).c:: .blk mf (lg0 r x.leg.toNat).c:: .blk sO (RtV.cs ⟨s',l',a',b',c',d',t',n',.slice uB r.length uA,.slice Ep (msL m r r.length).length En,.slice OD ks.length OB⟩):: .blk b9 [I x.leg,I x.dense,I x.mass,vh]::σ)) ?_ ?_))
    ·refine .draw mix rfl hs fun w hs=>?_
     have Sk:0≤x.leg∧x.leg≤(r.length:Int) - 1:=by simpa using P6
     obtain rfl:e=0:=by omega
     have eX:x.leg.toNat<r.length:=by omega
     have wi:=mH (l:=r) eX;have T7:=sy m r (k:=r.length) (i:=x.leg.toNat) ai;refine .zw 0 rfl (zfa kn) ?_;refine .y 1 rfl hs fB ?_;refine .z 2 rfl (zfa jI) ?_;refine .y 3 rfl hs aj ?_;refine .ixX (enc:=Lg.c) (i:=4) hs rfl az .none (RS.mono Gm aQ) rfl rfl a8 bk wi ai ?_;intro b47 o47 tI;refine .r (i:=5) hs rfl az .none (bH (vs:=(lg0 r x.leg.toNat).c) rfl fa bk tI) ?_;refine .zw 6 rfl (zfa mK) ?_;refine .y 7 rfl hs isAgg80 ?_;refine .z 8 rfl (zfa jI) ?_;refine .y 9 rfl hs aj ?_;refine .ixX (enc:=Rng.c) (i:=10) hs rfl az .none (RS.mono Dp aQ) rfl rfl cn aD T7 ai ?_;intro ZY o53 E5;refine .r (i:=11) hs rfl az .none (bH (vs:=(oB m r x.leg.toNat).c) rfl bK aD E5) ?_;refine .e2 (i:=12) (j:=13) az rfl rfl rfl rfl .none .none hs ?_ ?_
     ·refine .alloc hs dM rfl ?_;intro mf w hs;refine .go (.E 13 hs ?_);refine .alloc hs cS rfl ?_;intro ka w hs;refine .go (.E 14 hs ?_);refine .aE (vs:=(lg0 r x.leg.toNat).c) hs rfl rfl bk ?_;intro w hs;refine .go (.E 15 hs ?_);refine .aE (vs:=(oB m r x.leg.toNat).c) hs rfl rfl aD ?_;intro w hs;exact .go (.D hs (nT ⟨mf,ka,aW,hs.sb⟩))
     ·refine .alloc hs cS rfl ?_;intro ka w hs;refine .go (.E 12 hs ?_);refine .alloc hs dM rfl ?_;intro mf w hs;refine .go (.E 14 hs ?_);refine .aE (vs:=(lg0 r x.leg.toNat).c) hs rfl rfl bk ?_;intro w hs;refine .go (.E 15 hs ?_);refine .aE (vs:=(oB m r x.leg.toNat).c) hs rfl rfl aD ?_;intro w hs;exact .go (.D hs (nT ⟨mf,ka,aW,hs.sb⟩))
    ·rintro fs w ⟨mf,ka,iR,hs⟩;refine WE.sub ?_ iR;clear iR;have Sk:0≤x.leg∧x.leg≤(r.length:Int) - 1:=by simpa using P6
     obtain rfl:e=0:=by omega
     have eX:x.leg.toNat<r.length:=by omega
     obtain ⟨q,hq,EZ⟩:=hB.mark eX;have yO:=(nI.leg _ eX).1.dense;unfold eF at yO;change St _ _ (.blk ka [I (oB m r x.leg.toNat).lo,I (oB m r x.leg.toNat).hi]:: .blk mf (lgC (lg0 r x.leg.toNat))::_) at hs;refine .seq (.ae (.z (zfa pn) (.y hs (zld aj) (.z (zfa dJ) (.z (zfa bh) (.y hs (zld aj) (.z (zfa dJ) (.z (zfa bu) (.y hs (zld aj) (.o (.call kC rfl (bP hs) ?_)))))))))));rintro _ w ⟨rfl,hs⟩;refine .z ia (.z zm (.bif (t':=65) rfl (fun S0=>?_) (fun S0=>?_)))
     ·exact .Fs 8 10 false (.zn zpT (.cT (.ae (.zn zg (.ret (rT (Fin.bw It rfl ⟨H2,_,dr,rfl,.no hB (fun h=>by have:=h.dense;simp_all),hs.out⟩)))))))
     ·refine .T ?_;refine .z (zfa pj) (.T (.y hs (zld aj) (.T (.z (zfa bh) (.T (.y hs (zld aj) (.T (.z (zfa bu) (.T (.y hs (zld aj) (.T (.o (.call kC rfl (bP hs) ?_)))))))))))));rintro _ w ⟨rfl,hs⟩;refine .T (.z ia (.zn zpF (.cond rfl (fun HQ=>?_) (fun HQ=>?_))))
      ·exact .ae (.zn zg (.ret (rT (Fin.bw It rfl ⟨H2,_,dr,rfl,.no hB (fun h=>by have:=h.mass;simp_all),hs.out⟩))))
      ·refine .skip (nT (.ae (.zn zg (.cut (fun fs w=>∃n H3,mT fs ⟨101,[],[(15,I n),(9,Pt b9)]⟩∧HLe H H3∧HlR s' x.rows q n∧(-7000000000≤n∧n≤7000000000)∧St H3 w (.blk b9 [I x.leg,I x.dense,I x.mass,vh]::σ)) ?_ ?_))))
       ·refine .ae (.z (zfa je) (.y hs (zld an) (.z (zfa jI) (.y hs (zld aj) (.ixX (enc:=fun x=>[I x]) hs (RS.mono Iz aQ) rfl rfl af ak (bL (l:=ks) (i:=x.leg.toNat) ai) ai ?_)))));intro b79 o79 HP;replace HP:=bN.one HP;rw [hq] at HP;refine .y hs (zld aj) (.zn zg (.ae (.z zm (.zn nJ (.cg rfl (fun WN=>?_) (fun WN=>?_))))))
        ·refine .draw mix rfl hs fun w hs=>?_
         refine .zw 0 rfl (zfa mL) ?_;refine .z 1 rfl (zfa aK) ?_;refine .ys 2 rfl hs [_,_,_,_,_,_] bC aT ?_;refine .z 3 rfl (zfa ph) ?_;refine .ys 4 rfl hs [_] oU fA ?_;refine .z 5 rfl zm ?_;refine .E 6 hs ?_;refine .call call98 rfl (iU hs) ?_;rintro _ w ⟨rfl,hs⟩;refine .go (.E 7 hs ?_);refine .call call64 rfl (ki (s:=s'.sp) (rows:=x.rows) (q:=⟨1,0,q⟩) hs (g'.mono aQ).st (g'.mono aQ).wa (gh.mono aQ)) ?_;rintro _ w ⟨H3,n,f,bJ,rfl,hV,hs⟩;refine .go (.zw 8 rfl zm ?_);refine .z 9 rfl zex ?_;refine .z 10 rfl zex ?_;refine .z 11 rfl zg ?_;refine .D hs ?_;refine nT ?_;obtain rfl:f=0:=by
          have hhl:=XK.R0
          cases hV with
          |space h=>exact (h aJ.early.1).elim
          |hull _ h=>exact (h hhl).elim
          |what _ _ h=>exact (h (uV (v:=s') ai EZ)).elim
          |ok=>rfl
         exact ⟨n,H3,aW,dr.trans bJ,.up ai hV,hV.bd rfl,hs.sb⟩
        ·exact .skip (nT ⟨0,H2,aW,dr,.zero ai,ai,hs.sb⟩)
       ·rintro fs w ⟨n,H3,iR,eC,UK,V9,hs⟩;refine WE.sub ?_ iR;clear iR;have hdw:(lg0 r x.leg.toNat).dlo≤x.dense∧x.dense≤(lg0 r x.leg.toNat).dhi:=by simpa using S0
        have hmw:(oB m r x.leg.toNat).lo≤x.mass∧x.mass≤(oB m r x.leg.toNat).hi:=by simpa using HQ
        refine .seq (.seq (.draw mix rfl hs fun w hs=>?_));refine .zw 0 rfl (zfa pj) ?_;refine .y 1 rfl hs aj ?_;refine .z 2 rfl zm ?_;refine .z 3 rfl (zfa pn) ?_;refine .y 4 rfl hs aj ?_;refine .E 5 hs ?_;refine .call call99 rfl (iH hs ai ai) ?_;rintro _ w ⟨rfl,hs⟩;refine .go (.zw 6 rfl sY ?_);refine .D hs ?_;refine (.cg rfl (fun wz=>?_) (fun wz=>?_))
        ·refine .ae (.zn zg (.ret (rT (Fin.bw It rfl ?_))));exact ⟨H3,_,eC,rfl,.no hB (fun h=>by
          obtain ⟨n',g1,g2⟩:=h.sinks;rw [hq,Int.toNat_natCast] at g1;rw [←UK.uniq g1] at g2;omega),hs.out⟩
        ·exact .skip (nT (.ae (.zn zg (.ret (Fin.bw It rfl ⟨H3,_,eC,rfl,.ok hB ⟨Sk,XK,hdw,hmw,n,by rw [hq,Int.toNat_natCast];exact UK,ai⟩,hs.out⟩)))))
theorem tA{w:World}(hs:St H w σ):
  Z4 71 [] w fun u w'=>∃H1 a b c d vt vs fJ,HLe H H1∧u= .tuple #[.agg #[I 1,I 1,a,b,I 100,I 200,c,d],.agg #[I 1000,I 1200,vt,vs],.agg #[fJ]]∧SvM H1 exV a b c d∧LnM H1 rL vt vs∧RLg H1 fJ oe∧St H1 w' σ:=by
 refine Cl.of func71 rfl ntmps71 bB (Cj) (.ae (.o (.alloc hs eg rfl fun b0 w hs=>?_)));refine .o (.alloc hs jY rfl fun b1 w hs=>?_);refine .o (.alloc hs lF rfl fun b2 w hs=>?_);refine .nil (.ae (.o (.buildSlice (cells:=Is [0,1000]) hs lB rfl az fun b8 w hs=>?_)));refine .o (.buildSlice (cells:=Is [0,1000]) hs lB rfl az fun b9 w hs=>?_);refine .z (zbd [_,_] wF) (.z (zbd [_,_,_,_,_,_] uf) (.o (.alloc hs rD rfl fun b3 w hs=>?_)));refine .o (.aE (vs:=[_,_,_,_,_,_]) hs rfl rfl aT fun w hs=>?_);refine .nil (.ae (.y hs (zls [_,_,_,_,_,_] bC aT) (.z (zbd [_,_,_,_,_,_,_] dC) (.z (zbd [_,_,_,_,_,_,_] dC) (.z (zbd [_,_,_,_,_,_,_] dC) (.z (zbd [_,_,_,_,_,_,_] dC) (.o (.buildSlice (cells:=(rdc Rb).flatten) hs ru rfl az fun GR w hs=>?_))))))));refine .z (zbd [_,_,_,_,_,_] qL) (.o (.buildSlice (cells:=(cmc exV.cs).flatten) hs ma rfl az fun Ak w hs=>?_));refine .z (zbd (vs:=[(0,.agg #[I 1,I 1,.slice (some ⟨b8,0,none⟩) 2 2,.slice (some ⟨b9,0,none⟩) 2 2,I 100,I 200]),(1,.slice (some ⟨GR,0,none⟩) 4 4),(2,.slice (some ⟨Ak,0,none⟩) 1 1)]) [I 1,I 1,.slice (some ⟨b8,0,none⟩) 2 2,.slice (some ⟨b9,0,none⟩) 2 2,I 100,I 200,.slice (some ⟨GR,0,none⟩) 4 4,.slice (some ⟨Ak,0,none⟩) 1 1] jE rfl az) (.o (.alloc hs eg rfl fun b4 w hs=>?_));refine .o (.aE (vs:=[_,_,_,_,_,_,_,_]) hs rfl rfl aC fun w hs=>?_);refine .nil (.ae (.z (zbd [_,_] gW) (.z (zbd [_,_] gW) (.o (.buildSlice (cells:=(fbc rL.table).flatten) hs pL rfl az fun IF w hs=>?_)))));refine .z (zbd [_,_,_,_] nE) (.o (.buildSlice (cells:=(snc rL.seasons).flatten) hs jX rfl az fun D0 w hs=>?_));refine .z (zbd (vs:=[(0,I 1000),(1,I 1200),(2,.slice (some ⟨IF,0,none⟩) 2 2),(3,.slice (some ⟨D0,0,none⟩) 1 1)]) [I 1000,I 1200,.slice (some ⟨IF,0,none⟩) 2 2,.slice (some ⟨D0,0,none⟩) 1 1] ug rfl az) (.o (.alloc hs jY rfl fun b5 w hs=>?_));refine .o (.aE (vs:=[_,_,_,_]) hs rfl rfl bj fun w hs=>?_);refine .nil (.ae (.z (zbd [_,_] bQ) (.o (.alloc hs cS rfl fun b6 w hs=>?_))));refine .o (.aE (vs:=[_,_]) hs rfl rfl aD fun w hs=>?_);refine .nil (.ae (.z (zbd [_,_] bQ) (.o (.alloc hs cS rfl fun b7 w hs=>?_))));refine .o (.aE (vs:=[_,_]) hs rfl rfl aD fun w hs=>?_);refine .nil (.cut (fun fs w=>∃CD,mT fs ⟨39,[],[(2,Pt b2),(1,Pt b1),(0,Pt b0)]⟩∧St H w (.blk b2 [.slice (some ⟨CD,0,none⟩) 2 2]:: .blk b1 [I 1000,I 1200,.slice (some ⟨IF,0,none⟩) 2 2,.slice (some ⟨D0,0,none⟩) 1 1]:: .blk b0 [I 1,I 1,.slice (some ⟨b8,0,none⟩) 2 2,.slice (some ⟨b9,0,none⟩) 2 2,I 100,I 200,.slice (some ⟨GR,0,none⟩) 4 4,.slice (some ⟨Ak,0,none⟩) 1 1]:: .blk CD (lgc oe).flatten:: .blk D0 (snc rL.seasons).flatten:: .blk IF (fbc rL.table).flatten:: .blk Ak (cmc exV.cs).flatten:: .blk GR (rdc Rb).flatten:: .blk b9 (Is [0,1000]):: .blk b8 (Is [0,1000])::σ)) ?_ ?_)
 ·refine .draw mix rfl hs fun w hs=>?_
  refine .ys 0 rfl hs [_,_,_,_,_,_,_,_] aP aC ?_;refine .ys 1 rfl hs [_,_,_,_] cj bj ?_;refine .ys 2 rfl hs [_,_] bK aD ?_;refine .ys 3 rfl hs [_,_] bK aD ?_;refine .z 4 rfl (zbd (lg0 oe 0).c mN rfl az) ?_;refine .ys 5 rfl hs [_,_] bK aD ?_;refine .ys 6 rfl hs [_,_] bK aD ?_;refine .z 7 rfl (zbd (lg0 oe 1).c mN rfl az) ?_;refine .e2 (i:=8) (j:=10) az rfl rfl rfl rfl .none .none hs ?_ ?_
  ·refine .buildSlice (cells:=(lgc oe).flatten) hs lX rfl az ?_;intro CD w hs;refine .go (.zw 9 rfl (zbd [_] me) (.E 10 hs ?_));refine .aE (vs:=[_,_,_,_,_,_,_,_]) hs rfl rfl aC ?_;intro w hs;refine .go (.E 11 hs ?_);refine .aE (vs:=[_,_,_,_]) hs rfl rfl bj ?_;intro w hs;refine .go (.E 12 hs ?_);refine .aE (vs:=[_]) hs rfl rfl bY ?_;intro w hs;exact .go (.D hs (nT ⟨CD,aW,hs.sb⟩))
  ·refine .aE (vs:=[_,_,_,_,_,_,_,_]) hs rfl rfl aC ?_;intro w hs;refine .go (.e2 (i:=8) (j:=11) az rfl rfl rfl rfl .none .none hs ?_ ?_)
   ·refine .buildSlice (cells:=(lgc oe).flatten) hs lX rfl az ?_;intro CD w hs;refine .go (.zw 9 rfl (zbd [_] me) (.E 11 hs ?_));refine .aE (vs:=[_,_,_,_]) hs rfl rfl bj ?_;intro w hs;refine .go (.E 12 hs ?_);refine .aE (vs:=[_]) hs rfl rfl bY ?_;intro w hs;exact .go (.D hs (nT ⟨CD,aW,hs.sb⟩))
   ·refine .aE (vs:=[_,_,_,_]) hs rfl rfl bj ?_;intro w hs;refine .go (.E 8 hs ?_);refine .buildSlice (cells:=(lgc oe).flatten) hs lX rfl az ?_;intro CD w hs;refine .go (.zw 9 rfl (zbd [_] me) (.E 12 hs ?_));refine .aE (vs:=[_]) hs rfl rfl bY ?_;intro w hs;exact .go (.D hs (nT ⟨CD,aW,hs.sb⟩))
 ·rintro fs w ⟨CD,iR,hs⟩;refine WE.sub ?_ iR;clear iR;refine .ret ?_;obtain ⟨H1,g1,r1,hs⟩:=cz.dT (xs:=[0,1000]) (v:= .slice (some ⟨b8,0,none⟩) 2 2) (.full rfl) bB hs eJ;obtain ⟨H2,g2,r2,hs⟩:=cz.dT (xs:=[0,1000]) (v:= .slice (some ⟨b9,0,none⟩) 2 2) (.full rfl) bB hs eJ;obtain ⟨H3,g3,r3,hs⟩:=cz.bZ (m:=7) (cs:=rdc Rb) (v:= .slice (some ⟨GR,0,none⟩) 4 4) (.full az) (pC _) ai ef hs eJ;obtain ⟨H4,g4,r4,hs⟩:=cz.bZ (m:=6) (cs:=cmc exV.cs) (v:= .slice (some ⟨Ak,0,none⟩) 1 1) (.full az) (DV _) ai ef hs eJ;obtain ⟨H5,g5,r5,hs⟩:=cz.bZ (m:=2) (cs:=fbc rL.table) (v:= .slice (some ⟨IF,0,none⟩) 2 2) (.full az) (Tq _) ai ef hs eJ;obtain ⟨H6,g6,r6,hs⟩:=cz.bZ (m:=4) (cs:=snc rL.seasons) (v:= .slice (some ⟨D0,0,none⟩) 1 1) (.full az) (Bo _) ai ef hs eJ;obtain ⟨H7,g7,r7,hs⟩:=cz.bZ (m:=7) (cs:=lgc oe) (v:= .slice (some ⟨CD,0,none⟩) 2 2) (.full az) (C8 _) ai ef hs eJ;have k6:=g6.trans g7;have k5:=g5.trans k6;have k4:=g4.trans k5;have k3:=g3.trans k4;have k2:=g2.trans k3;exact Fin.hZ [] [] hs fun w hs=>⟨_,results3 results71 (cN (vs:=[I 1,I 1,.slice (some ⟨b8,0,none⟩) 2 2,.slice (some ⟨b9,0,none⟩) 2 2,I 100,I 200,.slice (some ⟨GR,0,none⟩) 4 4,.slice (some ⟨Ak,0,none⟩) 1 1]) hs rfl aP aC) (cN (vs:=[I 1000,I 1200,.slice (some ⟨IF,0,none⟩) 2 2,.slice (some ⟨D0,0,none⟩) 1 1]) hs rfl cj bj) (cN (vs:=[.slice (some ⟨CD,0,none⟩) 2 2]) hs rfl dV bY),H7,_,_,_,_,_,_,_,g1.trans k2,rfl,⟨r1.mono k2,r2.mono k3,r3.mono k4,r4.mono k5⟩,⟨r5.mono k6,r6.mono g7⟩,r7,hs.out⟩
set_option maxRecDepth 100000 in
theorem AG:Tryz.prog.stoodInHeld 42=false:=by kernel_rfl
set_option maxRecDepth 100000 in
theorem AH:Tryz.prog.eqGuardType Tryz.prog.depth 42=false:=by kernel_rfl
set_option maxHeartbeats 4000000 in
theorem mI{w:World}(hs:St H w σ):
  Z4 18 [] w fun u w'=>u= .bool true∧∃H1,HLe H H1∧St H1 w' σ:=by
 refine Cl.of func18 rfl ntmps18 bB (Cj) (.ae (.zn zg (.ae (.o (.call call71 rfl (tA hs) ?_)))));rintro _ w ⟨H1,a,b,c,d,vt,vs,fJ,aq,rfl,g,gl,jz,hs⟩;obtain ⟨aa,ca,rfl⟩:=RI.shape g.st;obtain ⟨ab,cb,rfl⟩:=RI.shape g.wa;obtain ⟨ac,cc,rfl⟩:=RRd.shape g.rd;obtain ⟨ad,cd,rfl⟩:=RCm.shape g.cm;obtain ⟨at_,ct,rfl⟩:=gl.tb.shape;obtain ⟨dm,cs,rfl⟩:=gl.sn.shape;obtain ⟨ar,cr,rfl⟩:=jz.shape;refine .z zm (.z zex (.z zex (.z zex (.o (.alloc hs eg rfl fun b1 w hs=>?_)))));refine .o (.alloc hs jY rfl fun b2 w hs=>?_);refine .o (.alloc hs lF rfl fun b3 w hs=>?_);refine .o (.aE (vs:=[_,_,_,_,_,_,_,_]) hs rfl rfl aC fun w hs=>?_);refine .o (.aE (vs:=[_,_,_,_]) hs rfl rfl bj fun w hs=>?_);refine .o (.aE (vs:=[_]) hs rfl rfl bY fun w hs=>?_);refine .nil (.ae (.y hs (zls [_,_,_,_] cj bj) (.o (.call call37 rfl (sB (l:=rL) hs gl.tb gl.sn) ?_))));rintro _ w ⟨n,e,rfl,hF,hs⟩;obtain ⟨rfl,rfl⟩:=KM hF;refine .z zm (.z zex (.z zex (.z zg (.zn zg (.ae (.y hs (zls [_,_,_,_] cj bj) (.o (.call call41 rfl (pb (l:=rL) hs gl.tb gl.sn) ?_))))))));rintro _ w ⟨n,e,rfl,hF,hs⟩;obtain ⟨rfl,rfl⟩:=Fk hF;refine .z zm (.z zex (.z zex (.z zg (.zn zg (.ae (.y hs (zls [_,_,_,_,_,_,_,_] aP aC) (.z (zbd [I 1000,I 1025] bQ) (.o (.call call58 rfl (eI (s:=exV) hs g) ?_)))))))));rintro _ w ⟨H2,lo,hi,e,aQ,rfl,hD,hs⟩;obtain ⟨rfl,rfl,rfl,hL⟩:=KN hD;replace g:=g.mono aQ;replace gl:=gl.mono aQ;replace jz:=jz.mono aQ;refine .z zm (.z zex (.z zex (.o (.alloc hs cS rfl fun b8 w hs=>?_))));refine .o (.aE (vs:=[_,_]) hs rfl rfl aD fun w hs=>?_);refine .zn zg (.ae (.y hs (zls [_,_,_,_,_,_,_,_] aP aC) (.y hs (zls [_,_,_,_] cj bj) (.y hs (zls [_] dV bY) (.z (zbd [I 150,I 160] bQ) (.o (.call call26 rfl (kj (s:=exV) (l:=rL) (r:=oe) (m:=⟨150,160⟩) hs g gl jz) ?_)))))));rintro _ w ⟨H3,n,e,bJ,rfl,hJ,hs⟩;obtain ⟨rfl,rfl⟩:=AZ hL ef hJ;rw [show zZ [zH (oB ⟨150,160⟩ oe 0) 190 404,zH (oB ⟨150,160⟩ oe 1) 190 404]=1 by decide];replace g:=g.mono bJ;replace gl:=gl.mono bJ;replace jz:=jz.mono bJ;refine .z zm (.z zex (.z zex (.z zg (.zn zg (.ae (.y hs (zls [_,_,_,_,_,_,_,_] aP aC) (.y hs (zls [_,_,_,_] cj bj) (.y hs (zls [_] dV bY) (.z (zbd [I 180,I 200] bQ) (.o (.call call26 rfl (kj (s:=exV) (l:=rL) (r:=oe) (m:=⟨180,200⟩) hs g gl jz) ?_)))))))))));rintro _ w ⟨H4,n,e,eo,rfl,hJ,hs⟩;obtain ⟨rfl,rfl⟩:=AZ hL ef hJ;rw [show zZ [zH (oB ⟨180,200⟩ oe 0) 190 404,zH (oB ⟨180,200⟩ oe 1) 190 404]=2 by decide];replace g:=g.mono eo;replace gl:=gl.mono eo;replace jz:=jz.mono eo;refine .z zm (.z zex (.z zex (.z zg (.zn zg (.ae (.y hs (zls [_,_,_,_,_,_,_,_] aP aC) (.y hs (zls [_,_,_,_] cj bj) (.y hs (zls [_] dV bY) (.o (.call call28 rfl (zW (s:=exV) (l:=rL) (r:=oe) hs g gl jz) ?_))))))))));rintro _ w ⟨H5,n,e,ek,rfl,hS,hs⟩;obtain ⟨rfl,rfl⟩:=KL hL hS;replace g:=g.mono ek;replace gl:=gl.mono ek;replace jz:=jz.mono ek;have wx:=aq.trans (aQ.trans (bJ.trans (eo.trans ek)));refine .z zm (.z zex (.z zex (.z zg (.zn zg (.ae (.o (.buildSlice (cells:=Is [75,175]) hs lB rfl az fun Rg w hs=>?_)))))));refine .o (.buildSlice (cells:=Is [0,130]) hs lB rfl az fun Rf w hs=>?_);refine .o (.buildSlice (cells:=[.slice (some ⟨Rg,0,none⟩) 2 2,.slice (some ⟨Rf,0,none⟩) 2 2]) hs Ai rfl az fun UQ w hs=>?_);refine .z (zbd [_] qK) ?_;obtain ⟨H6,g6,r6,hs⟩:=cz.dT (xs:=[75,175]) (v:= .slice (some ⟨Rg,0,none⟩) 2 2) (.full rfl) bB hs eJ;obtain ⟨H7,g7,r7,hs⟩:=cz.dT (xs:=[0,130]) (v:= .slice (some ⟨Rf,0,none⟩) 2 2) (.full rfl) bB hs eJ;have Th:RLs H7 [.slice (some ⟨Rg,0,none⟩) 2 2,.slice (some ⟨Rf,0,none⟩) 2 2] Rc:=((RLs.nil H7).snoc (r6.mono g7)).snoc r7;obtain ⟨H8,g8,AS,hs⟩:=Th.bZ (v:= .slice (some ⟨UQ,0,none⟩) 2 2) (en:= .blk UQ [.slice (some ⟨Rg,0,none⟩) 2 2,.slice (some ⟨Rf,0,none⟩) 2 2]) (.full rfl) bB hs eJ;have iQ:=g6.trans (g7.trans g8);replace g:=g.mono iQ;replace gl:=gl.mono iQ;replace jz:=jz.mono iQ;refine .z (zbd [_,_,_,_] zj) (.o (.alloc hs zeroValue66 rfl fun ui w hs=>?_));refine .o (.aE (vs:=[_,_,_,_]) hs rfl rfl sizeOf66 fun w hs=>?_);refine .nil (.ae (.z zm (.z ik (.z zm (.iY (t':=68) rfl (fun W6=>?_) (fun W6=>?_))))))
 ·refine .T (.z zm (.T (.z ik (.z zpT (.z zm (.iY (t':=72) rfl (fun W5=>?_) (fun W5=>?_)))))))
  ·refine .T (.z zm (.T (.z ik (.z zpT (.z zm (.iY (t':=76) rfl (fun P3=>?_) (fun P3=>?_)))))))
   ·refine .T (.z zm (.T (.z ik (.z zpT (.z zm (.iY (t':=80) rfl (fun W4=>?_) (fun W4=>?_)))))))
    ·refine .T (.z zm (.T (.z ik (.z zpT (.z zm (.iY (t':=84) rfl (fun P2=>?_) (fun P2=>?_)))))))
     ·refine .T (.y hs (zls [_,_] bK aD) (.T (.z (zbd [_,_] bQ) (.T ?_))));refine .q hs (C4 AG AH FJ (fun f hf=>by
       simp only [List.mem_cons,List.not_mem_nil,or_false] at hf
       rcases hf with rfl|rfl<;>exact ⟨by decide,bF,aj⟩) rfl rfl) ?_
      refine .z zpT (.z zm (.bif (t':=89) rfl (fun W1=>?_) (fun W1=>?_)))
      ·refine .T (.z zm (.T (.z ik (.z zpT (.z zm (.iY (t':=93) rfl (fun W0=>?_) (fun W0=>?_)))))))
       ·refine .T (.z zm (.T (.z ik (.z zpT (.z zm (.iY (t':=97) rfl (fun tL=>?_) (fun tL=>?_)))))))
        ·refine .T (.z zm (.T (.z ik (.z zpT (.z zm (.iY (t':=101) rfl (fun Tc=>?_) (fun Tc=>?_)))))))
         ·refine .T (.z zm (.T (.z ik (.z zpT (.z zm (.iY (t':=105) rfl (fun Gr=>?_) (fun Gr=>?_)))))))
          ·refine .T (.z zm (.T (.z ik (.z zpT (.z zm (.iY (t':=109) rfl (fun Tb=>?_) (fun Tb=>?_)))))))
           ·refine .T (.z zm (.T (.z ik (.z zpT (.z zm (.iY (t':=113) rfl (fun Ta=>?_) (fun Ta=>?_)))))))
            ·refine .T (.y hs (zls [_,_,_,_,_,_,_,_] aP aC) (.T (.y hs (zls [_,_,_,_] cj bj) (.T (.y hs (zls [_] dV bY) (.T (.z (zbd [I 180,I 200] bQ) (.T (.y hs (zls [_,_,_,_] isAgg66 sizeOf66) (.T (.o (.call call32 rfl (rf (s:=exV) (l:=rL) (r:=oe) (m:=⟨180,200⟩) (x:=⟨0,1000,200,Rc⟩) hs g gl jz AS) ?_))))))))))));rintro _ w ⟨H9,e,Aa,rfl,hW,hs⟩;obtain rfl:=Nb hW;have oD:=(wx.trans iQ).trans Aa;refine .T (.z ik (.z zpT (.zn zg (.ret (Fin.bw ke rfl ?_)))));first
             |exact ⟨rfl,H9,oD,hs.out⟩
             |contradiction
             |(exfalso;simp_all;done)
            ·refine .Fs 7 47 true (.z zpF (.zn zg (.ret (Fin.bw ke rfl ?_))));first
             |exact ⟨rfl,H9,oD,hs.out⟩
             |contradiction
             |(exfalso;simp_all;done)
           ·refine .Fs 2 43 true (.z zpF (.z zm (.Fs 7 47 true (.z zpF (.zn zg (.ret (Fin.bw ke rfl ?_)))))));first
            |exact ⟨rfl,H9,oD,hs.out⟩
            |contradiction
            |(exfalso;simp_all;done)
          ·refine .Fs 2 39 true (.z zpF (.z zm (.Fs 2 43 true (.z zpF (.z zm (.Fs 7 47 true (.z zpF (.zn zg (.ret (Fin.bw ke rfl ?_))))))))));first
           |exact ⟨rfl,H9,oD,hs.out⟩
           |contradiction
           |(exfalso;simp_all;done)
         ·refine .Fs 2 35 true (.z zpF (.z zm (.Fs 2 39 true (.z zpF (.z zm (.Fs 2 43 true (.z zpF (.z zm (.Fs 7 47 true (.z zpF (.zn zg (.ret (Fin.bw ke rfl ?_)))))))))))));first
          |exact ⟨rfl,H9,oD,hs.out⟩
          |contradiction
          |(exfalso;simp_all;done)
        ·refine .Fs 2 31 true (.z zpF (.z zm (.Fs 2 35 true (.z zpF (.z zm (.Fs 2 39 true (.z zpF (.z zm (.Fs 2 43 true (.z zpF (.z zm (.Fs 7 47 true (.z zpF (.zn zg (.ret (Fin.bw ke rfl ?_))))))))))))))));first
         |exact ⟨rfl,H9,oD,hs.out⟩
         |contradiction
         |(exfalso;simp_all;done)
       ·refine .Fs 2 27 true (.z zpF (.z zm (.Fs 2 31 true (.z zpF (.z zm (.Fs 2 35 true (.z zpF (.z zm (.Fs 2 39 true (.z zpF (.z zm (.Fs 2 43 true (.z zpF (.z zm (.Fs 7 47 true (.z zpF (.zn zg (.ret (Fin.bw ke rfl ?_)))))))))))))))))));first
        |exact ⟨rfl,H9,oD,hs.out⟩
        |contradiction
        |(exfalso;simp_all;done)
      ·refine .Fs 2 23 true (.z zpF (.z zm ?_));refine .Fs 2 27 true (.z zpF (.z zm (.Fs 2 31 true (.z zpF (.z zm (.Fs 2 35 true (.z zpF (.z zm (.Fs 2 39 true (.z zpF (.z zm (.Fs 2 43 true (.z zpF (.z zm (.Fs 7 47 true (.z zpF (.zn zg (.ret (Fin.bw ke rfl ?_)))))))))))))))))));first
       |exact ⟨rfl,H9,oD,hs.out⟩
       |contradiction
       |(exfalso;simp_all;done)
     ·refine .Fs 3 18 true (.z zpF (.z zm (.Fs 2 23 true (.z zpF (.z zm ?_)))));refine .Fs 2 27 true (.z zpF (.z zm (.Fs 2 31 true (.z zpF (.z zm (.Fs 2 35 true (.z zpF (.z zm (.Fs 2 39 true (.z zpF (.z zm (.Fs 2 43 true (.z zpF (.z zm (.Fs 7 47 true (.z zpF (.zn zg (.ret (Fin.bw ke rfl ?_)))))))))))))))))));first
      |exact ⟨rfl,H9,oD,hs.out⟩
      |contradiction
      |(exfalso;simp_all;done)
    ·refine .Fs 2 14 true (.z zpF (.z zm (.Fs 3 18 true (.z zpF (.z zm (.Fs 2 23 true (.z zpF (.z zm ?_))))))));refine .Fs 2 27 true (.z zpF (.z zm (.Fs 2 31 true (.z zpF (.z zm (.Fs 2 35 true (.z zpF (.z zm (.Fs 2 39 true (.z zpF (.z zm (.Fs 2 43 true (.z zpF (.z zm (.Fs 7 47 true (.z zpF (.zn zg (.ret (Fin.bw ke rfl ?_)))))))))))))))))));first
     |exact ⟨rfl,H9,oD,hs.out⟩
     |contradiction
     |(exfalso;simp_all;done)
   ·refine .Fs 2 10 true (.z zpF (.z zm (.Fs 2 14 true (.z zpF (.z zm (.Fs 3 18 true (.z zpF (.z zm (.Fs 2 23 true (.z zpF (.z zm ?_)))))))))));refine .Fs 2 27 true (.z zpF (.z zm (.Fs 2 31 true (.z zpF (.z zm (.Fs 2 35 true (.z zpF (.z zm (.Fs 2 39 true (.z zpF (.z zm (.Fs 2 43 true (.z zpF (.z zm (.Fs 7 47 true (.z zpF (.zn zg (.ret (Fin.bw ke rfl ?_)))))))))))))))))));first
    |exact ⟨rfl,H9,oD,hs.out⟩
    |contradiction
    |(exfalso;simp_all;done)
  ·refine .Fs 2 6 true (.z zpF (.z zm (.Fs 2 10 true (.z zpF (.z zm (.Fs 2 14 true (.z zpF (.z zm (.Fs 3 18 true (.z zpF (.z zm (.Fs 2 23 true (.z zpF (.z zm ?_))))))))))))));refine .Fs 2 27 true (.z zpF (.z zm (.Fs 2 31 true (.z zpF (.z zm (.Fs 2 35 true (.z zpF (.z zm (.Fs 2 39 true (.z zpF (.z zm (.Fs 2 43 true (.z zpF (.z zm (.Fs 7 47 true (.z zpF (.zn zg (.ret (Fin.bw ke rfl ?_)))))))))))))))))));first
   |exact ⟨rfl,H9,oD,hs.out⟩
   |contradiction
   |(exfalso;simp_all;done)
 ·refine .Fs 2 2 true (.z zpF (.z zm (.Fs 2 6 true (.z zpF (.z zm (.Fs 2 10 true (.z zpF (.z zm (.Fs 2 14 true (.z zpF (.z zm (.Fs 3 18 true (.z zpF (.z zm (.Fs 2 23 true (.z zpF (.z zm ?_)))))))))))))))));refine .Fs 2 27 true (.z zpF (.z zm (.Fs 2 31 true (.z zpF (.z zm (.Fs 2 35 true (.z zpF (.z zm (.Fs 2 39 true (.z zpF (.z zm (.Fs 2 43 true (.z zpF (.z zm (.Fs 7 47 true (.z zpF (.zn zg (.ret (Fin.bw ke rfl ?_)))))))))))))))))));first
  |exact ⟨rfl,H9,oD,hs.out⟩
  |contradiction
  |(exfalso;simp_all;done)
theorem uS{w:World}{y:Int}(hs:St H w σ):Z4 53 [.agg #[I x,I y]] w fun v w'=>v= .bool (decide (eK x y))∧St H w' σ:=by
 refine Cl.o func53 ntmps53 ag1 ?_;refine .ae (.bx hs fun b1 w hs=>?_);refine .zn zg (.ae (.z (zfa bh) (.y hs (zld aj) (.z Ct (.z zm (.iY (t':=6) rfl (fun Oe=>?_) (fun Oe=>?_)))))))
 ·refine .T (.z (zfa bh) (.T (.y hs (zld aj) (.T (.z (zfa bu) (.T (.y hs (zld aj) (.T (.z sY (.z zpT (.z zm (.iY (t':=13) rfl (fun E8=>?_) (fun E8=>?_)))))))))))))
  ·exact .T (.z (zfa bu) (.T (.y hs (zld aj) (.T (.z sY (.z zpT (.zn zg (.ret (Fin.bw results53 rfl ⟨by unfold eK;simp [*],hs.out⟩)))))))))
  ·exact .Fs 3 10 true (.z zpF (.zn zg (.ret (Fin.bw results53 rfl ⟨by unfold eK;simp [*],hs.out⟩))))
 ·exact .Fs 5 3 true (.z zpF (.z zm (.Fs 3 10 true (.z zpF (.zn zg (.ret (Fin.bw results53 rfl ⟨by unfold eK;simp [*],hs.out⟩)))))))
theorem fF{w:World}{n:Int}(hs:St H w σ)(hn: -4000000000000≤n∧n≤4000000000000)(hd: -100000≤d∧d≤100000):Z4 52 [I n,I d] w fun v w'=>v=I (fu n d)∧St H w' σ:=by
 have hm:=ni (a:=n) (b:=d) (A:=4000000000000) (B:=100000) ai ai;refine Cl.o func52 ntmps52 ag2 ?_;refine .ae (.zn zg (.ae (.z zm (.z zm (.z mV (.o (.call call119 rfl (yk hs ai ai) ?_)))))));rintro _ w ⟨rfl,hs⟩;exact .zn zg (.ret (Fin.bw results52 rfl ⟨rfl,hs⟩))
theorem aI{w:World}{n m:Int}(hs:St H w σ)(hm:1≤m∧m≤4611686018427387904):Z4 36 [I n,I m] w fun u w'=>u=I (iM n m)∧St H w' σ:=by
 have h1:=Int.tmod_lt_of_pos n (show 0<m by omega);have h2:=Int.lt_tmod_of_pos n (show 0<m by omega);refine Cl.o func36 ntmps36 ag2 ?_;exact .ae (.zn zg (.ae (.z zm (.z zm (.z FP (.z zm (.z cD (.z zm (.z FP (.zn zg (.ret (Fin.bw results36 rfl ⟨rfl,hs⟩))))))))))))
theorem dB{w:World}{v:Value}{l:List Int}{i n:Int}(hs:St H w σ)(hr:RI H v l)(hi:0≤i)(hn:1≤n∧n≤1000000):Z4 141 [v,I i,I n] w fun u w'=>∃x,u=I x∧(0≤x∧x<n)∧St H w' σ:=by
 obtain ⟨a,c,rfl⟩:=RI.shape hr;refine Cl.o func141 ntmps141 ag3 ?_;refine .ae (.zn zg (.seq (.ae (.z zm (.z (de af) (.zn ik (.cg rfl (fun mW=>?_) (fun mW=>?_))))))))
 ·exact .ae (.zn zg (.ret (rT (Fin.bw results141 rfl ⟨0,rfl,ai,hs⟩))))
 ·refine .skip (nT (.ae (.z zm (.z zm (.z zm (.z (de af) (.z FP ?_)))))));have h1:=Int.tmod_lt_of_pos i (show 0<(l.length:Int) by omega);have h2:=Int.tmod_nonneg (l.length:Int) hi;refine .ixX (enc:=fun x=>[I x]) hs hr rfl rfl af ak (bL (l:=l) (i:=(i.tmod l.length).toNat) ai) ai ?_;intro Ch o15 gM;replace gM:=bN.one gM;refine .y hs (zld aj) (.z zm (.o (.call cU rfl (aI hs ai) ?_)));rintro _ w ⟨rfl,hs⟩;exact .zn zg (.ret (Fin.bw results141 rfl ⟨_,rfl,fc _ hn.1,hs⟩))
theorem kg{w:World}{c fr:Int}(hs:St H w σ)(hf:0≤fr∧fr≤1000000):Z4 142 [.agg #[I a,I b,I c,I d,I e,I f],I fr] w fun u w'=>∃x,u=lgA x∧Le x fr∧St H w' σ:=by
 have m1:=fc a (m:=3) ai;have m2:=fc b (m:=40) ai;have m3:=fc c (m:=60) ai;have m4:=fc d (m:=100) ai;have m5:=fc (IntKind.i64.wrap (d.tdiv 100)) (m:=40) ai;have m6:=fc e (m:=500) ai;have m7:=fc f (m:=200) ai;refine Cl.o func142 ntmps142 ag2 ?_;refine .ae (.bx hs fun b2 w hs=>?_);refine .o (.alloc hs dM rfl fun b4 w hs=>?_);refine .nil (.cut (fun fs w=>∃b5,mT fs ⟨50,[],[(5,Pt b5),(4,Pt b4),(2,Pt b2)]⟩∧St H w (.blk b5 [I (1+iM a 3),I (fr+iM b 40),I 0,I 0,I 0,I 0,I 0]:: .blk b4 [I 0,I 0,I 0,I 0,I 0,I 0,I 0]:: .blk b2 [I a,I b,I c,I d,I e,I f]::σ)) ?_ ?_)
 ·refine .draw mix rfl hs fun w hs=>?_
  refine .zw 0 rfl (zia 0 cH ak) (.y 1 rfl hs aj ?_);refine .z 4 rfl zm ?_;refine .zw 5 rfl (zia 1 cH ak) (.zv 6 rfl hs (lO aj) (.e2 (i:=2) (j:=10) az rfl rfl rfl rfl .none .none hs ?_ ?_))
  ·refine .call cU rfl (aI hs ai) ?_;rintro _ w ⟨rfl,hs⟩;refine .go (.zw 3 rfl cD (.e2 (i:=7) (j:=10) az rfl rfl rfl rfl .none .none hs ?_ ?_))
   ·refine .call cU rfl (aI hs ai) ?_;rintro _ w ⟨rfl,hs⟩;refine .go (.zw 8 rfl cD ?_);refine .z 9 rfl (zbd [_,_,_,_,_,_,_] mN) ?_;refine .E 10 hs ?_;refine .alloc hs dM rfl ?_;intro b5 w hs;refine .go (.E 11 hs ?_);refine .aE (vs:=[_,_,_,_,_,_,_]) hs rfl rfl bk ?_;intro w hs;exact .go (.D hs (nT ⟨b5,aW,hs.sb⟩))
   ·refine .alloc hs dM rfl ?_;intro b5 w hs;refine .go (.E 7 hs ?_);refine .call cU rfl (aI hs ai) ?_;rintro _ w ⟨rfl,hs⟩;refine .go (.zw 8 rfl cD ?_);refine .z 9 rfl (zbd [_,_,_,_,_,_,_] mN) ?_;refine .E 11 hs ?_;refine .aE (vs:=[_,_,_,_,_,_,_]) hs rfl rfl bk ?_;intro w hs;exact .go (.D hs (nT ⟨b5,aW,hs.sb⟩))
  ·refine .alloc hs dM rfl ?_;intro b5 w hs;refine .go (.E 2 hs ?_);refine .call cU rfl (aI hs ai) ?_;rintro _ w ⟨rfl,hs⟩;refine .go (.zw 3 rfl cD (.E 7 hs ?_));refine .call cU rfl (aI hs ai) ?_;rintro _ w ⟨rfl,hs⟩;refine .go (.zw 8 rfl cD ?_);refine .z 9 rfl (zbd [_,_,_,_,_,_,_] mN) ?_;refine .E 11 hs ?_;refine .aE (vs:=[_,_,_,_,_,_,_]) hs rfl rfl bk ?_;intro w hs;exact .go (.D hs (nT ⟨b5,aW,hs.sb⟩))
 ·rintro fs w ⟨b5,iR,hs⟩;refine WE.sub ?_ iR;clear iR;refine .seq (.draw mix rfl hs fun w hs=>?_);refine .zw 0 rfl (zfa lx) ?_;refine .y 1 rfl hs aj ?_;refine .zw 2 rfl (zia 2 cH ak) (.zv 3 rfl hs (lO aj) (.E 4 hs ?_));refine .call cU rfl (aI hs ai) ?_;rintro _ w ⟨rfl,hs⟩;refine .go (.zw 5 rfl cD ?_);refine .z 6 rfl (zfa j8) ?_;refine .E 7 hs ?_;refine .store hs rfl rfl ak ?_;intro w hs;refine .go (.D hs (.ae (.z (zia 3 cH ak) (.y hs (zld aj) (.o (.call cU rfl (aI hs ai) ?_))))));rintro _ w ⟨rfl,hs⟩;refine .z cD (.zn zg (.ae (.z zm (.z zm (.z (zia 3 cH ak) (.y hs (zld aj) (.z QP (.o (.call cU rfl (aI hs ai) ?_)))))))));rintro _ w ⟨rfl,hs⟩;refine .z cD (.z (zbd [_,_] bQ) (.z (zfa dJ) (.o (.aE (vs:=[_,_]) hs rfl rfl aD fun w hs=>?_))));refine .nil (.seq (.draw mix rfl hs fun w hs=>?_));refine .zw 0 rfl (zia 4 cH ak) (.zv 1 rfl hs (lO aj) (.zw 3 rfl (zia 4 cH ak) (.zv 4 rfl hs (lO aj) (.zw 6 rfl (zia 5 cH ak) (.zv 7 rfl hs (lO aj) (.E 2 hs ?_))))));refine .call cU rfl (aI hs ai) ?_;rintro _ w ⟨rfl,hs⟩;refine .go (.E 5 hs ?_);refine .call cU rfl (aI hs ai) ?_;rintro _ w ⟨rfl,hs⟩;refine .go (.E 8 hs ?_);refine .call cU rfl (aI hs ai) ?_;rintro _ w ⟨rfl,hs⟩;refine .go (.zw 9 rfl cD ?_);refine .z 10 rfl (zbd [_,_] bQ) ?_;refine .z 11 rfl (zfa j7) ?_;refine .E 12 hs ?_;refine .aE (vs:=[_,_]) hs rfl rfl aD ?_;intro w hs;refine .go (.D hs (.ae (.y hs (zls [_,_,_,_,_,_,_] fa bk) (.o (.aE (vs:=[_,_,_,_,_,_,_]) hs rfl rfl bk fun w hs=>?_)))));exact .nil (.ret (Fin.hZ [] [] hs fun w hs=>⟨_,results1 results142 (cN (vs:=lgC ⟨1+iM a 3,fr+iM b 40,fr+iM b 40+iM c 60,950+iM d 100,950+iM d 100+iM (IntKind.i64.wrap (d.tdiv 100)) 40,iM e 500,iM e 500+iM f 200⟩) hs rfl fa bk),⟨1+iM a 3,fr+iM b 40,fr+iM b 40+iM c 60,950+iM d 100,950+iM d 100+iM (IntKind.i64.wrap (d.tdiv 100)) 40,iM e 500,iM e 500+iM f 200⟩,rfl,⟨by dsimp only;omega,by dsimp only;omega,by dsimp only;omega,by dsimp only;omega,by dsimp only;omega,by dsimp only;omega,by dsimp only;omega⟩,hs.out⟩))
theorem sj{w:World}{v:Value}{ns:List Int}(hs:St H w σ)(hr:RI H v ns):
  Z4 77 [v] w fun u w'=>∃l vt vs e1 e2,u=lnA l vt vs∧Ld l∧cz 2 vt (fbc l.table).flatten e1∧cz 4 vs (snc l.seasons).flatten e2∧St H w' (e2::e1::σ):=by
 refine Cl.o func77 ntmps77 ag1 ?_;refine .ae (.o (.alloc hs jY rfl fun b2 w hs=>?_));refine .nil (.ae (.z zm (.o (.call vV rfl (dB hs hr ai ai) ?_))));rintro _ w ⟨x6,rfl,g6,hs⟩;refine .z cD (.z zm (.o (.call vV rfl (dB hs hr ai ai) ?_)));rintro _ w ⟨x9,rfl,g9,hs⟩;refine .z cD (.z (zbd [I (100+x6),I (200+x9),.slice none 0 0,.slice none 0 0] ug rfl az) (.o (.alloc hs jY rfl fun b3 w hs=>?_)));refine .o (.aE (vs:=[_,_,_,_]) hs rfl rfl bj fun w hs=>?_);refine .nil (.ae (.z zm (.o (.call vV rfl (dB hs hr ai ai) ?_))));rintro _ w ⟨x13,rfl,g13,hs⟩;refine .z (zbd [_,_] gW) (.z zm (.o (.call vV rfl (dB hs hr ai ai) ?_)));rintro _ w ⟨x16,rfl,g16,hs⟩;refine .z cD (.z zm (.o (.call vV rfl (dB hs hr ai ai) ?_)));rintro _ w ⟨x19,rfl,g19,hs⟩;refine .z (zbd [_,_] gW) (.z zm (.o (.call vV rfl (dB hs hr ai ai) ?_)));rintro _ w ⟨x22,rfl,g22,hs⟩;refine .z (zbd [_,_] gW) (.o (.buildSlice (cells:=(fbc [⟨100,x13⟩,⟨400+x16,x19⟩,⟨1000,x22⟩]).flatten) hs pK rfl az fun Nn w hs=>?_));refine .z (zfa dQ) (.o (.store hs rfl rfl sizeOf22 fun w hs=>?_));refine .nil (.seq (.ae (.zn zg (.block ?_))));replace hs:St H w (.blk Nn (fbc [⟨100,x13⟩,⟨400+x16,x19⟩,⟨1000,x22⟩]).flatten:: .blk b3 [I (100+x6),I (200+x9),.slice (some ⟨Nn,0,none⟩) 3 3,.slice none 0 0]:: .blk b2 [I 0,I 0,.slice none 0 0,.slice none 0 0]::σ):=hs;refine .loop (fun p:Nat×List Ssn×Value×Ent=>⟨62,[],[(4,I (p.1:Int)),(3,Pt b3),(2,Pt b2),(0,v)]⟩)
  (fun p w=>p.1≤4∧p.2.1.length=p.1∧(∀s∈p.2.1,D5 s)∧cz 4 p.2.2.1 (snc p.2.1).flatten p.2.2.2∧St H w (p.2.2.2:: .blk Nn (fbc [⟨100,x13⟩,⟨400+x16,x19⟩,⟨1000,x22⟩]).flatten:: .blk b3 [I (100+x6),I (200+x9),.slice (some ⟨Nn,0,none⟩) 3 3,p.2.2.1]:: .blk b2 [I 0,I 0,.slice none 0 0,.slice none 0 0]::σ)) (fun p=>4 - p.1) (0,[],_,.nul) aW
  ⟨by dsimp only;omega,rfl,fun s hs=>(by cases hs),.nil 4 none,hs.nul⟩ ?_
 rintro ⟨k,ss,vo,en⟩ w ⟨hk,sV,VJ,hO,hs⟩;dsimp only at hk sV VJ hO hs ⊢;obtain ⟨ao,co,rfl⟩:=hO.iG (Bo _) ai;rw [mh] at hO hs;refine .seq (.ae (.z zm (.z zm (.o (.call vV rfl (dB hs hr ai ai) ?_)))));rintro _ w ⟨x28,rfl,g28,hs⟩;refine .zn ju (.cg rfl (fun oF=>?_) (fun oF=>?_))
 ·refine .skip (nT (.seq (.block (.draw mix rfl hs fun w hs=>?_))));refine .zw 0 rfl (zfa gH) ?_;refine .y 1 rfl hs isAgg23 ?_;refine .z 2 rfl zm ?_;refine .z 3 rfl zm ?_;refine .z 4 rfl mV ?_;refine .z 5 rfl cD ?_;refine .z 8 rfl zm ?_;refine .z 9 rfl zm ?_;refine .z 10 rfl mV ?_;refine .z 11 rfl cD ?_;refine .zw 14 rfl zm ?_;refine .z 15 rfl zm ?_;refine .z 16 rfl mV ?_;refine .z 17 rfl cD ?_;refine .z 20 rfl zm ?_;refine .z 21 rfl zm ?_;refine .z 22 rfl mV ?_;refine .z 23 rfl cD ?_;refine .E 6 hs ?_;refine .call vV rfl (dB hs hr ai ai) ?_;rintro _ w ⟨x38,rfl,g38,hs⟩;refine .go (.zw 7 rfl cD (.E 12 hs ?_));refine .call vV rfl (dB hs hr ai ai) ?_;rintro _ w ⟨x44,rfl,g44,hs⟩;refine .go (.zw 13 rfl cD (.E 18 hs ?_));refine .call vV rfl (dB hs hr ai ai) ?_;rintro _ w ⟨x50,rfl,g50,hs⟩;refine .go (.zw 19 rfl cD (.E 24 hs ?_));refine .call vV rfl (dB hs hr ai ai) ?_;rintro _ w ⟨x56,rfl,g56,hs⟩;refine .go (.zw 25 rfl (zbd (Ssn.c ⟨1+x38,1+x44,1+x50,x56⟩) nE rfl az) (.E 26 hs ?_));refine .buildSlice (cells:=Ssn.c ⟨1+x38,1+x44,1+x50,x56⟩) hs jX rfl az ?_;intro ZW w hs;refine .go (.E 27 hs ?_);refine .append (ys:=Ssn.c ⟨1+x38,1+x44,1+x50,x56⟩) hs fy rfl rfl hO (.own .here rfl rfl) (by simp [Ssn.c,Value.oneCell']) (fun l' h=>by rw [bX _ (Bo _),mh] at h;omega) ?_;intro v59 en59 w eb hs;rw [←FT] at eb;obtain ⟨a59,c59,rfl⟩:=eb.iG (Bo _) ai;refine .go (.zw 28 rfl (zfa gH) (.E 29 hs ?_));refine .store hs rfl rfl sizeOf23 ?_;intro w hs;refine .go (.D hs (nB (nT (.region (.z zm (.z cD (.zn zg (nT ?_))))))));exact ⟨(k+1,ss++[⟨1+x38,1+x44,1+x50,x56⟩],_,en59),.dc rfl bB aW,⟨by dsimp only;omega,by simp [sV],fun s hs=>by
   rcases List.mem_append.1 hs with h|h
   ·exact VJ s h
   ·rw [List.mem_singleton] at h;subst h;exact ⟨by dsimp only;omega,by dsimp only;omega,by dsimp only;omega,by dsimp only;omega⟩,eb,hs.sb⟩,by dsimp only;omega⟩
 ·refine .exit (xT (xT (xB (nT (.ae (.y hs (zls [_,_,_,_] cj bj) (.o (.aE (vs:=[_,_,_,_]) hs rfl rfl bj fun w hs=>?_))))))));refine .nil (.ret ?_);exact Fin.hZ [] [] hs fun w hs=>⟨_,results1 results77 (cN (vs:=[I (100+x6),I (200+x9),.slice (some ⟨Nn,0,none⟩) 3 3,.slice ao ss.length co]) hs rfl cj bj),⟨100+x6,200+x9,[⟨100,x13⟩,⟨400+x16,x19⟩,⟨1000,x22⟩],ss⟩,_,_,.blk Nn (fbc [⟨100,x13⟩,⟨400+x16,x19⟩,⟨1000,x22⟩]).flatten,en,rfl,⟨⟨by dsimp only;omega,by dsimp only;omega,bB,by dsimp only;omega,fun i hi=>by
   have h:i=0∨i=1∨i=2:=by simp at hi;omega
   rcases h with rfl|rfl|rfl
   ·exact ⟨by simp [fb0],by simp [fb0];omega,bB⟩
   ·exact ⟨by simp [fb0];omega,by simp [fb0];omega,by simp [fb0];omega⟩
   ·exact ⟨by simp [fb0],by simp [fb0];omega,by simp [fb0];omega⟩,VJ⟩,by dsimp only;omega,rfl,⟨rfl,rfl⟩,by dsimp only;omega⟩,.full rfl,hO,hs.sb⟩
set_option maxHeartbeats 1000000 in
theorem sh{w:World}{v:Value}{ns:List Sx}(hs:St H w σ)(hr:RS H 6 v (ns.map Sx.v)):
  Z4 78 [v] w fun u w'=>∃r vr en,u= .agg #[vr]∧Lc r∧cz 7 vr (lgc r).flatten en∧St H w' (en::σ):=by
 obtain ⟨a,c,rfl⟩:=hr.shape;have hlr:=hr.len;rw [List.length_map] at hr ⊢;refine Cl.o func78 ntmps78 ag1 ?_;refine .ae (.o (.alloc hs lF rfl fun b2 w hs=>?_));refine .nil (.ae (.o (.alloc hs lF rfl fun b3 w hs=>?_)));refine .nil (.ae (.zn zg (.seq (.ae (.zn zg (.block ?_))))));refine .loop (fun p:Nat×Int×List Lg×Value×Ent=>⟨40,[],[(5,I (p.1:Int)),(4,I p.2.1),(3,Pt b3),(2,Pt b2),(0,.slice a ns.length c)]⟩)
  (fun p w=>(p.1≤4∧p.1≤ns.length)∧p.2.2.1.length=p.1∧(0≤p.2.1∧p.2.1≤p.1*100)∧(0<p.1→(lg0 p.2.2.1 (p.1 - 1)).to=p.2.1)∧(∀i<p.1,(zr (lg0 p.2.2.1 i)∧(0<i→(lg0 p.2.2.1 (i - 1)).to≤(lg0 p.2.2.1 i).fr))∧(lg0 p.2.2.1 i).bhi≤1000)∧cz 7 p.2.2.2.1 (lgc p.2.2.1).flatten p.2.2.2.2∧St H w (p.2.2.2.2:: .blk b3 [p.2.2.2.1]:: .blk b2 [.slice none 0 0]::σ)) (fun p=>4 - p.1) (0,0,[],_,.nul) aW
  ⟨by dsimp only;omega,rfl,by dsimp only;omega,fun h=>(by dsimp only at h;omega),fun i hi=>(by dsimp only at hi;omega),.nil 7 none,hs.nul⟩ ?_
 rintro ⟨k,fr,r,vo,en⟩ w ⟨hk,sV,Zb,sG,aJ,hO,hs⟩;dsimp only at hk sV Zb sG aJ hO hs ⊢;obtain ⟨ao,co,rfl⟩:=hO.iG (C8 _) ai;rw [nW] at hO hs;refine .seq (.ae (.z zm (.z zm (.z (de runUnderlying40) (.z ju (.z zm (.iY (t':=11) rfl (fun y0=>?_) (fun y0=>?_))))))))
 ·refine .T (.z zm (.T (.z ju (.zn zpT (.cg rfl (fun js=>?_) (fun js=>?_))))))
  ·refine .skip (nT (.seq (.block (.ae ?_))));obtain ⟨q,hx⟩:=nth (l:=ns) (k:=k) ai;refine .z zm (.z zm (.ixX (enc:=Sx.v) hs hr rfl rfl runUnderlying40 sizeOf96 hx rfl ?_));intro Ak o19 oG;refine .q hs (bH (vs:=q.v) rfl isAgg96 sizeOf96 oG) (.z zm (.o (.call call142 rfl (kg (a:=q.a) (b:=q.b) (c:=q.c) (d:=q.d) (e:=q.e) (f:=q.f) hs ai) ?_)));rintro _ w ⟨x,rfl,hM,hs⟩;have hMo:=hM.ok ai;have hM2:=hM.fr;have hM3:=hM.to;have ZG:=hM.blo;have ZF:=hM.bhi;refine .o (.alloc hs dM rfl fun b6 w hs=>?_);refine .o (.aE (vs:=[_,_,_,_,_,_,_]) hs rfl rfl bk fun w hs=>?_);refine .nil (.ae (.z (zfa j8) (.y hs (zld aj) (.zn zg (.region (.z (zfa bT) (.y hs (zld fB) (.y hs (zls [_,_,_,_,_,_,_] fa bk) (.o (.buildSlice (cells:=lgC x) hs lY rfl az fun TE w hs=>?_))))))))));refine .o (.append (ys:=x.c) hs kI rfl rfl hO (.own .here rfl rfl) (by simp [Lg.c,Value.oneCell']) (fun l' h=>by rw [bX _ (C8 _),nW] at h;omega) ?_);intro v29 en29 w eb hs;rw [←MB] at eb;obtain ⟨a29,c29,rfl⟩:=eb.iG (C8 _) ai;refine .z (zfa bT) (.o (.store hs rfl rfl sizeOf26 fun w hs=>?_));refine .nil (nB (nT (.region (.z zm (.z cD (.zn zg (nT ?_)))))));exact ⟨(k+1,x.to,r++[x],_,en29),.dc rfl bB aW,⟨by dsimp only;omega,by simp [sV],by dsimp only;omega,fun _=>by dsimp only;rw [tx,if_neg ai,if_pos ai],fun i hi=>by
    dsimp only at hi ⊢;by_cases e:i=k
    ·subst e;rw [tx,if_neg ai,if_pos ai,tx];refine ⟨⟨hMo,fun h=>?_⟩,ai⟩;rw [if_pos ai];have:=sG h;omega
    ·rw [tx,if_pos ai,tx,if_pos ai];exact aJ i ai,eb,hs.sb⟩,by dsimp only;omega⟩
  ·refine .exit (xT (xT (xB (nT (.seq (.ae (.z (zfa bT) (.y hs (zld fB) (.z (de a8) (.zn ik (.cg rfl (fun lP=>?_) (fun lP=>?_))))))))))))
   ·refine .region ?_;obtain rfl:k=0:=by omega
    obtain rfl:r=[]:=List.length_eq_zero_iff.1 sV;refine .q hs (Bx (vs:=[]) (cells:=[I 0,I 0,I 0,I 0,I 0,I 0]) zeroValue96 rfl cH ak rfl) (.o (.call call142 rfl (kg (a:=0) (b:=0) (c:=0) (d:=0) (e:=0) (f:=0) hs ai) ?_));rintro _ w ⟨x,rfl,hM,hs⟩;have ZG:=hM.blo;have ZF:=hM.bhi;refine .o (.buildSlice (cells:=(lgc [x]).flatten) hs lY rfl az fun CD w hs=>?_);refine .z (zfa bT) (.o (.store hs rfl rfl sizeOf26 fun w hs=>?_));refine .nil (nT (.ae (.y hs (zls [_] dV bY) (.o (.aE (vs:=[_]) hs rfl rfl bY fun w hs=>?_)))));refine .nil (.ret ?_);exact Fin.hZ [] [] hs fun w hs=>⟨_,results1 results78 (cN (vs:=[.slice (some ⟨CD,0,none⟩) 1 1]) hs rfl dV bY),[x],_,.blk CD (lgc [x]).flatten,rfl,⟨⟨bB,fun i hi=>by
     obtain rfl:i=0:=by simp at hi;omega
     exact ⟨hM.ok ai,fun h=>by omega⟩⟩,bB,fun i hi=>by
     obtain rfl:i=0:=by simp at hi;omega
     show x.bhi≤1000;omega⟩,.full rfl,hs.sb⟩
   ·refine .skip (nT (.ae (.y hs (zls [_] dV bY) (.o (.aE (vs:=[_]) hs rfl rfl bY fun w hs=>?_)))));exact .nil (.ret (Fin.hZ [] [] hs fun w hs=>⟨_,results1 results78 (cN (vs:=[.slice ao r.length co]) hs rfl dV bY),r,_,en,rfl,⟨⟨ai,fun i hi=>(aJ i ai).1⟩,ai,fun i hi=>(aJ i ai).2⟩,hO,hs.sb⟩))
 ·refine .Fs 2 4 true (.zn zpF (.cF (.exit (xT (xT (xB (nT (.seq (.ae (.z (zfa bT) (.y hs (zld fB) (.z (de a8) (.zn ik (.cg rfl (fun lP=>?_) (fun lP=>?_)))))))))))))))
  ·refine .region ?_;obtain rfl:k=0:=by omega
   obtain rfl:r=[]:=List.length_eq_zero_iff.1 sV;refine .q hs (Bx (vs:=[]) (cells:=[I 0,I 0,I 0,I 0,I 0,I 0]) zeroValue96 rfl cH ak rfl) (.o (.call call142 rfl (kg (a:=0) (b:=0) (c:=0) (d:=0) (e:=0) (f:=0) hs ai) ?_));rintro _ w ⟨x,rfl,hM,hs⟩;have ZG:=hM.blo;have ZF:=hM.bhi;refine .o (.buildSlice (cells:=(lgc [x]).flatten) hs lY rfl az fun CD w hs=>?_);refine .z (zfa bT) (.o (.store hs rfl rfl sizeOf26 fun w hs=>?_));refine .nil (nT (.ae (.y hs (zls [_] dV bY) (.o (.aE (vs:=[_]) hs rfl rfl bY fun w hs=>?_)))));refine .nil (.ret ?_);exact Fin.hZ [] [] hs fun w hs=>⟨_,results1 results78 (cN (vs:=[.slice (some ⟨CD,0,none⟩) 1 1]) hs rfl dV bY),[x],_,.blk CD (lgc [x]).flatten,rfl,⟨⟨bB,fun i hi=>by
    obtain rfl:i=0:=by simp at hi;omega
    exact ⟨hM.ok ai,fun h=>by omega⟩⟩,bB,fun i hi=>by
    obtain rfl:i=0:=by simp at hi;omega
    show x.bhi≤1000;omega⟩,.full rfl,hs.sb⟩
  ·refine .skip (nT (.ae (.y hs (zls [_] dV bY) (.o (.aE (vs:=[_]) hs rfl rfl bY fun w hs=>?_)))));exact .nil (.ret (Fin.hZ [] [] hs fun w hs=>⟨_,results1 results78 (cN (vs:=[.slice ao r.length co]) hs rfl dV bY),r,_,en,rfl,⟨⟨ai,fun i hi=>(aJ i ai).1⟩,ai,fun i hi=>(aJ i ai).2⟩,hO,hs.sb⟩))
theorem results4{s:FS}{w:World}{fn:Func}{r1 r2 r3 r4:ResultVar}{v3:Value}(hr:fn.results=#[r1,r2,r3,r4])(h1:GW P s w r1 v1)(h2:GW P s w r2 v2)(h3:GW P s w r3 v3)(h4:GW P s w r4 v4):∀a,Sim s a→(results fn a.tmps).run P w= .ok (.tuple #[v1,v2,v3,v4]) w:=fun a ha=>by
 have e1:=h1.run ha;have e2:=h2.run ha;have e3:=h3.run ha;have e4:=h4.run ha;rw [qU,hr];simp only [Array.mapM_eq_mapM_toList,List.mapM_cons,List.mapM_nil,Sem.run_bind,e1,e2,e3,e4,Result.andThen,Sem.run_pure,map_eq_pure_bind];simp
theorem si{w:World}{v:Value}{ns:List Int}(hs:St H w σ)(hr:RI H v ns):
  Z4 77 [v] w fun u w'=>∃H1 l a n b c,HLe H H1∧u=lnA l (.slice a l.table.length n) (.slice b l.seasons.length c)∧Ld l∧LnM H1 l (.slice a l.table.length n) (.slice b l.seasons.length c)∧St H1 w' σ:=by
 refine (sj hs hr).mono ?_;rintro _ w ⟨l,vt,vn,e1,e2,rfl,hL,BU,eb,hs⟩;have h1:=hL.tbl;have h2:=hL.sns;obtain ⟨H2,q2,p2,hs⟩:=cz.bZ (m:=4) eb (Bo _) ai (by rw [mh];omega) hs .here;obtain ⟨H3,q3,p3,hs⟩:=cz.bZ (m:=2) BU (Tq _) ai (by rw [Ie];omega) hs .here;have g:LnM H3 l vt vn:=⟨p3,RSn.mono p2 q3⟩;obtain ⟨a,n,rfl⟩:=g.tb.shape;obtain ⟨b,c,rfl⟩:=g.sn.shape;exact ⟨H3,l,a,n,b,c,q2.trans q3,rfl,hL,g,hs.sb⟩
theorem sf{w:World}{v:Value}{ns:List Sx}(hs:St H w σ)(hr:RS H 6 v (ns.map Sx.v)):
  Z4 78 [v] w fun u w'=>∃H1 r a n,HLe H H1∧u= .agg #[.slice a r.length n]∧Lc r∧RLg H1 (.slice a r.length n) r∧St H1 w' σ:=by
 refine (sh hs hr).mono ?_;rintro _ w ⟨r,vr,e1,rfl,hR,BU,hs⟩;have h1:=hR.many;obtain ⟨H2,q2,p2,hs⟩:=cz.bZ (m:=7) BU (C8 _) ai (by rw [nW];omega) hs .here;have g:RLg H2 vr r:=p2;obtain ⟨a,n,rfl⟩:=g.shape;exact ⟨H2,r,a,n,q2,rfl,hR,g,hs.sb⟩
theorem mB{w:World}{x:GV}(hs:St H w σ)(hx:zq H x vs v5 v4 vp vn vg):
  Z4 35 [x.agg vs v5 v4 vp vn vg] w fun u w'=>∃H1 s y aa ca ab cb ac cc ad cd ay cy l at_ ct dm cs r ar cr,HLe H H1∧u= .tuple #[svA s (.slice aa s.sp.st.length ca) (.slice ab s.sp.wa.length cb) (.slice ac s.rs.length cc) (.slice ad s.cs.length cd),.slice ay y.length cy,lnA l (.slice at_ l.table.length ct) (.slice dm l.seasons.length cs),.agg #[.slice ar r.length cr]]∧
   Nr s∧mb s y∧SvM H1 s (.slice aa s.sp.st.length ca) (.slice ab s.sp.wa.length cb) (.slice ac s.rs.length cc) (.slice ad s.cs.length cd)∧RI H1 (.slice ay y.length cy) y∧Ld l∧LnM H1 l (.slice at_ l.table.length ct) (.slice dm l.seasons.length cs)∧Lc r∧RLg H1 (.slice ar r.length cr) r∧St H1 w' σ:=by
 obtain ⟨avs,cvs,rfl⟩:=RI.shape hx.sp;obtain ⟨av5,cv5,rfl⟩:=hx.rs.shape;obtain ⟨av4,cv4,rfl⟩:=hx.cs.shape;obtain ⟨avp,cvp,rfl⟩:=RI.shape hx.pk;obtain ⟨avn,cvn,rfl⟩:=RI.shape hx.ln;obtain ⟨avg,cvg,rfl⟩:=hx.lg.shape;rw [List.length_map] at hx ⊢;refine Cl.o func35 ntmps35 ag1 ?_;refine .ae (.bx hs fun b1 w hs=>?_);refine .o (.alloc hs eg rfl fun b2 w hs=>?_);refine .z zg (.o (.alloc hs jY rfl fun b4 w hs=>?_));refine .o (.alloc hs lF rfl fun b5 w hs=>?_);refine .nil (.ae (.z (zfa qv) (.y hs (zls [_,_,_,_,_,_,_] isAgg39 sizeOf39) (.o (.call call31 rfl (zR hs hx.sp hx.rs hx.cs hx.pk) ?_)))));rintro _ w ⟨H1,s,y,a,b,c,d,vy,aq,rfl,hM,hK,r1,r2,r3,r4,hY,hs⟩;have hSv:SvM H1 s a b c d:=⟨r1,r2,r3,r4⟩;obtain ⟨aa,ca,rfl⟩:=RI.shape r1;obtain ⟨ab,cb,rfl⟩:=RI.shape r2;obtain ⟨ac,cc,rfl⟩:=RRd.shape r3;obtain ⟨ad,cd,rfl⟩:=RCm.shape r4;obtain ⟨ay,cy,rfl⟩:=RI.shape hY;replace hx:=hx.mono aq;refine .z zm (.z zex (.z zex (.o (.alloc hs eg rfl fun b6 w hs=>?_))));refine .o (.aE (vs:=[_,_,_,_,_,_,_,_]) hs rfl rfl aC fun w hs=>?_);refine .zn zg (.seq (.draw mix rfl hs fun w hs=>?_));refine .ys 0 rfl hs [_,_,_,_,_,_,_,_] aP aC ?_;refine .z 1 rfl zm ?_;refine .z 2 rfl (zfa qu) ?_;refine .y 3 rfl hs an ?_;refine .z 5 rfl (zfa qt) ?_;refine .y 6 rfl hs isAgg40 ?_;refine .E 4 hs ?_;refine .call call77 rfl (si hs hx.ln) ?_;rintro _ w ⟨H2,l,at_,ct,dm,cs,aQ,rfl,hL,gl,hs⟩;replace hx:=hx.mono aQ;refine .go (.E 7 hs ?_);refine .call call78 rfl (sf hs hx.lg) ?_;rintro _ w ⟨H3,r,ar,cr,bJ,rfl,hR,jz,hs⟩;refine .go (.E 8 hs ?_);refine .aE (vs:=[_,_,_,_,_,_,_,_]) hs rfl rfl aC ?_;intro w hs;refine .go (.zw 9 rfl zg (.E 10 hs ?_));refine .aE (vs:=[_,_,_,_]) hs rfl rfl bj ?_;intro w hs;refine .go (.E 11 hs ?_);refine .aE (vs:=[_]) hs rfl rfl bY ?_;intro w hs;refine .go (.D hs (.ret ?_));exact Fin.hZ [] [] hs fun w hs=>⟨_,results4 results35 (cN (vs:=svC s (.slice aa s.sp.st.length ca) (.slice ab s.sp.wa.length cb) (.slice ac s.rs.length cc) (.slice ad s.cs.length cd)) hs rfl aP aC) rfl (cN (vs:=lnC l (.slice at_ l.table.length ct) (.slice dm l.seasons.length cs)) hs rfl cj bj) (cN (vs:=[.slice ar r.length cr]) hs rfl dV bY),
  H3,s,y,aa,ca,ab,cb,ac,cc,ad,cd,ay,cy,l,at_,ct,dm,cs,r,ar,cr,aq.trans (aQ.trans bJ),rfl,hM,hK,hSv.mono (aQ.trans bJ),RI.mono hY (aQ.trans bJ),hL,gl.mono bJ,hR,jz,hs.out⟩
theorem yB{w:World}{a b c d:Value}(hs:St H w σ)(g:SvM H s a b c d):
  Z4 56 [svA s a b c d] w fun u w'=>∃H1 v L e,HLe H H1∧u= .tuple #[v,I e]∧RRg H1 v L∧QC s L e∧St H1 w' σ:=by
 obtain ⟨aw,cw,rfl⟩:=RI.shape g.wa;refine Cl.o func56 ntmps56 ag1 ?_;refine .ae (.bx hs fun b1 w hs=>?_);refine .z zg (.zn zg (.seq (.ae (.y hs (zls [_,_,_,_,_,_,_,_] aP aC) (.o (.call Ao rfl (dn (s:=s) hs g.st g.wa g.rd g.cm) ?_))))));rintro _ w ⟨H1,e,aq,rfl,hC,hs⟩;refine .zn zg (.ae (.z zm (.zn ez (.dz rfl (fun eT=>?_) (fun eT=>?_)))))
 ·exact .ae (.z zm (.z zg (.zn zg (.ret (rT (Fin.jr results56 rfl rfl ⟨H1,_,[],_,aq,rfl,RS.nil H1 2 none 0,.bad hC eT,hs.out⟩))))))
 ·refine .skip (nT (.ae (.zn zg (.seq ?_))));have aJ:cR s:=hC.cO.1 ai;have oa:=eG aJ.early.1;refine .ae (.z (zfa aK) (.z (zfa aZ) (.y hs (zld an) (.z (de af) (.zn zm (.for (N:=s.sp.wa.length) (J:=fun k fr w=>∃H2 vo L en,fr=[(5,vo),(1,Pt b1)]∧HLe H1 H2∧L.length=k∧(∀i<k,∃x,L[i]? =some x∧uq s i x.lo x.hi 0)∧(0<k→s.sys.Sound)∧cz 2 vo (rgc L).flatten en∧St H2 w (en:: .blk b1 (svC s a (.slice aw s.sp.wa.length cw) c d)::σ)) ai ?_ ?_ ?_))))))
  ·exact .mk ⟨H1,_,[],.nul,rfl,HLe.refl _,rfl,fun i hi=>by omega,fun h=>by omega,.nil 2 none,hs.nul⟩
  ·rintro k fr w hk ⟨H2,vo,L,en,rfl,aQ,Qb,XA,om,hO,hs⟩;obtain ⟨ao,co,rfl⟩:=hO.iG (Hj _) ai;rw [mi] at*;refine .block (.ae (.z zm (.zn zg (.ae (.y hs (zls [_,_,_,_,_,_,_,_] aP aC) (.z zm (.o (.call call122 rfl (o5 (s:=s) hs (g.mono (aq.trans aQ)) aJ) ?_))))))));rintro _ w ⟨H3,lo,hi,e,bJ,rfl,hL,hs⟩;have eC:=aq.trans (aQ.trans bJ);refine .z zm (.z zex (.z zex (.o (.alloc hs cS rfl fun b7 w hs=>?_))));refine .o (.aE (vs:=[_,_]) hs rfl rfl aD fun w hs=>?_);refine .zn zg (.seq (.ae (.z zm (.zn ez (.dz rfl (fun jS=>?_) (fun jS=>?_))))))
   ·exact .ae (.z zm (.z zg (.zn zg (.ret (rT (rB (rT (rB (rT (Fin.jr results56 rfl rfl ⟨H3,_,[],_,eC,rfl,RS.nil H3 2 none 0,by rcases hL.err aJ hk with h|h;exact (jS h.1).elim;rw [h.1];exact .fls aJ h.2.1,hs.out⟩))))))))))
   ·refine .skip (nT (.region (.z zm (.y hs (zls [_,_] bK aD) (.o (.buildSlice (cells:=(Rng.mk lo hi).c) hs kz rfl az fun b32 w hs=>?_))))));refine .o (.append (ys:=(Rng.mk lo hi).c) hs jv rfl rfl hO (.own .here rfl rfl) (by simp [Rng.c,Value.oneCell']) (fun l h=>by rw [bX _ (Hj _),mi] at h;omega) ?_);intro v33 en33 w eb hs;rw [←FX] at eb;refine .zn zg (nB (nT ?_));obtain rfl:e=0:=by omega
    exact .mk ⟨H3,_,L++[⟨lo,hi⟩],_,rfl,aQ.trans bJ,by simp [Qb],fun i vB=>by
     by_cases e:i=k
     ·subst e;exact ⟨⟨lo,hi⟩,by rw [List.getElem?_append_right ai,Qb,Nat.sub_self];rfl,hL⟩
     ·rw [List.getElem?_append_left ai];exact XA i ai,fun _=>(hL.err aJ hk).elim (fun h=>h.2) (fun h=>by omega),eb,hs.sb⟩
  ·rintro fr w ⟨H2,vo,L,en,rfl,aQ,Qb,XA,om,hO,hs⟩;obtain ⟨H4,eo,hR,hs⟩:=cz.bZ (m:=2) hO (Hj _) ai (by rw [mi];omega) hs .here;exact nT (.ae (.z zm (.z zg (.zn zg (.ret (Fin.jr results56 rfl rfl ⟨H4,_,L,_,aq.trans (aQ.trans eo),rfl,hR,.ok aJ (om ai) Qb XA,hs.out⟩))))))
theorem y8{n n':Int}(h:n≤n')(hd:0≤d):fu n d≤fu n' d:=Int.ediv_le_ediv ef (Int.mul_le_mul_of_nonneg_right h hd)
theorem DH{n y:Int}(h1:x≤d)(h2:d≤y):min (fu n x) (fu n y)≤fu n d∧fu n d≤max (fu n x) (fu n y):=by
 unfold fu
 rcases Int.le_total 0 n with h|h
 ·have a1:n*x/1000≤n*d/1000:=Int.ediv_le_ediv ef (Int.mul_le_mul_of_nonneg_left h1 h);have a2:n*d/1000≤n*y/1000:=Int.ediv_le_ediv ef (Int.mul_le_mul_of_nonneg_left h2 h);omega
 ·have a1:n*d/1000≤n*x/1000:=Int.ediv_le_ediv ef (Int.mul_le_mul_of_nonpos_left h h1);have a2:n*y/1000≤n*d/1000:=Int.ediv_le_ediv ef (Int.mul_le_mul_of_nonpos_left h h2);omega
def wL(s:Srv)(y:List Int)(k:Nat):Int:=if k=0 then 0 else fL s.sp ⟨1,0,k⟩ (gK s.sp y s.sp.st.length) s.sp.many/q6 ⟨1,0,k⟩
theorem OP{y:List Int}(aJ:cR s)(hK:mb s y){k:Nat}(hk:k<s.sp.wa.length):HlR s (gK s.sp y s.sp.st.length) k (wL s y k):=by
 unfold wL;by_cases e:k=0
 ·rw [if_pos e];exact .zero e
 ·rw [if_neg e];exact .up ai (AO aJ hK (uV ai hk))
theorem IN{y:List Int}(aJ:cR s)(hK:mb s y){k:Nat}{a b:Int}(h:uq s k a b 0):a≤wL s y k∧wL s y k≤b:=by
 unfold wL;generalize h0:(0:Int)=e0 at h
 cases h with
 |up h g=>
  subst h0;rw [if_neg ai];exact MD aJ hK g
 |fls=>omega
 |zero h=>rw [if_pos h];exact ⟨Int.le_refl _,Int.le_refl _⟩
theorem OQ{y:List Int}(aJ:cR s)(hK:mb s y){k:Nat}{x z a b:Int}(h:kb s k x z a b 0): -200000000≤wL s y k∧wL s y k≤200000000:=by
 generalize h0:(0:Int)=e0 at h
 cases h with
 |fls h g=>exact (g h0.symm).elim
 |ok h=>
  have h1:=IN aJ hK h;have h2:=h.bd;omega
theorem vv{w:World}(hs:St H w σ)(h1:RI H bV s.sp.st)(h2:RI H bS s.sp.wa)(hr:RT H vh rows):
  Z4 51 [spA s.sp bV bS,.agg #[vh],I (k:Int)] w fun u w'=>∃H1 n e,HLe H H1∧u= .tuple #[I n,I e]∧((e=0∧HlR s rows k n)∨(e≠0∧0<k∧qP s.sp rows ⟨1,0,k⟩ n e))∧St H1 w' σ:=by
 obtain ⟨ah,ch,rfl⟩:=hr.shape;refine Cl.o func51 ntmps51 ag3 ?_;refine .ae (.bx hs fun b3 w hs=>?_);refine .bx hs fun b4 w hs=>?_
 refine .z zg (.zn zg (.seq (.ae (.z zm (.zn ik (.cg rfl (fun mW=>?_) (fun mW=>?_)))))))
 ·exact .ae (.z zg (.zn zg (.ret (rT (Fin.jr results51 rfl rfl ⟨H,_,_,HLe.refl _,rfl,.inl ⟨rfl,.zero ai⟩,hs.out⟩)))))
 ·refine .skip (nT (.ae (.y hs (zls [_,_,_,_,_,_] bC aT) (.y hs (zls [_] oU fA) (.z zm (.z (zbd [I 1,I 0,I (k:Int)] qJ) (.o (.call call64 rfl (ki (s:=s.sp) (q:=⟨1,0,k⟩) hs h1 h2 hr) ?_))))))));rintro _ w ⟨H1,n,e,aq,rfl,hQ,hs⟩;refine .z zex (.z zex (.z zg (.zn zg (.ret (Fin.jr results51 rfl rfl ?_)))));exact ⟨H1,_,_,aq,rfl,by
   by_cases h:e=0
   ·subst h;exact .inl ⟨rfl,.up ai hQ⟩
   ·exact .inr ⟨h,ai,hQ⟩,hs.out⟩
theorem zY{w:World}{n:Int}(hs:St H w σ)(hm:0≤m.lo∧m.lo≤m.hi∧m.hi≤1000000000000):
  Z4 50 [.agg #[I m.lo,I m.hi],I n] w fun u w'=>∃z,u=I z∧(m.lo≤z∧z≤m.hi)∧St H w' σ:=by
 have hb:=fc n (m:=m.hi - m.lo+1) ai;refine Cl.o func50 ntmps50 ag2 ?_;refine .ae (.bx hs fun b2 w hs=>?_);refine .zn zg (.seq (.draw mix rfl hs fun w hs=>?_));refine .zw 0 rfl (zfa bh) ?_;refine .y 1 rfl hs aj ?_;refine .z 2 rfl zm ?_;refine .z 3 rfl (zfa bu) ?_;refine .y 4 rfl hs aj ?_;refine .z 5 rfl (zfa bh) ?_;refine .y 6 rfl hs aj ?_;refine .z 7 rfl iX ?_;refine .z 8 rfl cD ?_;refine .E 9 hs ?_;refine .call cU rfl (aI hs ai) ?_;rintro _ w ⟨rfl,hs⟩;refine .go (.zw 10 rfl cD ?_);refine .z 11 rfl zg ?_;refine .D hs ?_;exact .ret (Fin.bw results50 rfl ⟨_,rfl,ai,hs.out⟩)
theorem K9{v:Srv}{r:List Lg}(h:Iq v l r m dm 0)(hB:oQ v l r m ks 0):v.sys.Sound∧dm.length=r.length∧∀i<r.length,∃lo hi,kb v (gi ks i).toNat (lg0 r i).dlo (lg0 r i).dhi lo hi 0∧gi dm i=zH (oB m r i) lo hi:=by
 generalize h0:(0:Int)=e0 at h
 cases h with
 |bad _ h=>exact (h h0.symm).elim
 |fls=>omega
 |ok g g1 g2 g3=>
  obtain ⟨rfl,_⟩:=hB.uniq g;exact ⟨g1,g2,g3⟩
theorem Qv{v:Srv}{r:List Lg}(h:Iq v l r m dm 0):zZ dm=1↔∀i<dm.length,gi dm i=1:=by
 generalize h0:(0:Int)=e0 at h
 cases h with
 |bad _ h=>exact (h h0.symm).elim
 |fls=>omega
 |ok g g1 g2 g3=>exact Di fun i hi=>by obtain ⟨lo,vB,_,e⟩:=g3 i ai;rw [e];exact GS _ _ _
theorem Gf{v:Srv}{r:List Lg}{k:Int}(hB:oQ v l r m ks 0)(hi:i<r.length)(h:QK v.sp l (lg0 r i) k e):k=gi ks i∧e=0:=by
 obtain ⟨aJ,hl,nI,_,_,tE⟩:=hB.ok'
 cases h with
 |space h=>exact (h aJ.early.1).elim
 |lines _ h=>exact (h hl).elim
 |leg _ _ h=>exact (h (nI.leg i hi).1).elim
 |go _ _ _ h=>exact h.uniq hl (tE i hi)
inductive Er(v:Srv)(l:Lns)(x:Lg)(mass:Int):Int→Int→Prop
 |bad {e:Int} (h:zJ v e) (he:e≠0):Er v l x mass 0 e
 |lines (h:cR v) (h1:¬fo l):Er v l x mass 0 60
 |leg (h:cR v) (h1:fo l) (h2:¬zr x):Er v l x mass 0 61
 |mass (h:cR v) (h1:fo l) (h2:zr x) (h3:¬(0≤mass∧mass≤1000000000000)):Er v l x mass 0 63
 |deck (h:cR v) (h1:fo l) (h2:zr x) (h3:0≤mass∧mass≤1000000000000) (h4:uC v.sp.wa l x 0 0):Er v l x mass 0 62
 |low {k e:Int} (h:cR v) (h1:fo l) (h2:zr x) (h3:0≤mass∧mass≤1000000000000) (h4:uC v.sp.wa l x k e) (h5:¬(e=0∧k=0)):Er v l x mass k e
theorem Er.zero{v:Srv}{x:Lg}{mass k:Int}(h:Er v l x mass k 0):cR v∧fo l∧zr x∧(0≤mass∧mass≤1000000000000)∧uC v.sp.wa l x k 0∧k≠0:=by
 generalize h0:(0:Int)=e0 at h
 cases h with
 |bad _ h=>exact (h h0.symm).elim
 |lines=>omega
 |leg=>omega
 |mass=>omega
 |deck=>omega
 |low h h1 h2 h3 h4 h5=>subst h0;exact ⟨h,h1,h2,h3,h4,fun e=>h5 ⟨rfl,e⟩⟩
inductive TQ(v:Srv)(l:Lns)(x:Lg)(mass:Int)(m:Int)(us:List Use):Int→Prop
 |bad {k e:Int} (h:Er v l x mass k e) (he:e≠0):TQ v l x mass m us e
 |go {k e:Int} (h:Er v l x mass k 0) (h1:xo v ⟨1,0,k⟩ false (-((-1000*mass)/x.dlo)) m us e):TQ v l x mass m us e
set_option maxHeartbeats 1000000 in
theorem oZ{w:World}{x:Lg}{mass:Int}{a b c d:Value}(hs:St H w σ)(g:SvM H s a b c d)(gl:LnM H l vt vs):
  Z4 135 [svA s a b c d,lnA l vt vs,lgA x,I mass] w fun u w'=>∃H1 k e,HLe H H1∧u= .tuple #[I k,I e]∧Er s l x mass k e∧St H1 w' σ:=by
 refine Cl.o func135 ntmps135 ag4 ?_;refine .ae (.bx hs fun b4 w hs=>?_);refine .bx hs fun b5 w hs=>?_
 refine .bx hs fun b6 w hs=>?_
 refine .z zg (.zn zg (.seq (.ae (.y hs (zls [_,_,_,_,_,_,_,_] aP aC) (.o (.call Ao rfl (dn (s:=s) hs g.st g.wa g.rd g.cm) ?_))))));rintro _ w ⟨H1,e,aq,rfl,hC,hs⟩;refine .zn zg (.ae (.z zm (.zn ez (.dz rfl (fun iy=>?_) (fun iy=>?_)))))
 ·exact .ae (.z zm (.z zg (.zn zg (.ret (rT (Fin.jr CM rfl rfl ⟨H1,_,_,aq,rfl,.bad hC iy,hs.out⟩))))))
 ·refine .skip (nT (.seq (.ae (.y hs (zls [_,_,_,_] cj bj) ?_))));have aJ:cR s:=hC.cO.1 ai;refine .o (.call call19 rfl (fk hs (gl.mono aq).tb (gl.mono aq).sn) ?_);rintro _ w ⟨f,rfl,hL,hs⟩;refine .zn zg (.ae (.z zm (.zn ez (.dz rfl (fun jc=>?_) (fun jc=>?_)))))
  ·exact .ae (.z zm (.z zg (.zn zg (.ret (rT (Fin.jr CM rfl rfl ⟨H1,_,_,aq,rfl,by have h:=hL.resolve_left fun h=>jc h.2;rw [h.2];exact .lines aJ h.1,hs.out⟩))))))
  ·refine .skip (nT (.seq (.block (.ae (.y hs (zls [_,_,_,_,_,_,_] fa bk) ?_)))));have hl:fo l:=(hL.resolve_right fun h=>by omega).1;refine .o (.call call75 rfl (mF (x:=x) hs) ?_);rintro _ w ⟨bb,rfl,El,hs⟩;refine .z ia (.zn zg (.cond rfl (fun mJ=>?_) (fun mJ=>?_)))
   ·exact .ae (.z zg (.zn zg (.ret (rB (rT (Fin.jr CM rfl rfl ⟨H1,_,_,aq,rfl,.leg aJ hl (fun h=>by simp_all),hs.out⟩))))))
   ·refine .ae (.z zm ?_);have hx:zr x:=El.1 (by simpa using mJ);refine .o (.call kC rfl (bP hs) ?_);rintro _ w ⟨rfl,hs⟩;refine .z ia (.zn zg (.cond rfl (fun jS=>?_) (fun jS=>?_)))
    ·exact .ae (.z zg (.zn zg (.ret (rB (rT (Fin.jr CM rfl rfl ⟨H1,_,_,aq,rfl,.mass aJ hl hx (by simp at jS;omega),hs.out⟩))))))
    ·refine .skip (nB (nT (.ae (.z (zfa aK) (.y hs (zls [_,_,_,_,_,_] bC aT) (.y hs (zls [_,_,_,_] cj bj) (.y hs (zls [_,_,_,_,_,_,_] fa bk) ?_)))))));have hm:0≤mass∧mass≤1000000000000:=by simpa using jS
     refine .o (.call call115 rfl (lK (s:=s.sp) (x:=x) hs (g.mono aq).wa (gl.mono aq).tb (gl.mono aq).sn aJ.early.1 hl hx) ?_);rintro _ w ⟨H2,k,e2,aQ,rfl,Gt,hs⟩;have dr:=aq.trans aQ;refine .z zm (.z zex (.z zex (.z zg (.zn zg (.seq (.ae (.z zm (.z ik (.z zm (.iY (t':=42) rfl (fun P5=>?_) (fun P5=>?_)))))))))))
     ·refine .T (.z zm (.T (.z ik (.zn zpT (.cg rfl (fun HS=>?_) (fun HS=>?_))))))
      ·refine .region (.zn zg (nT (.ae (.z zm (.z zm (.z zg (.zn zg (.ret (Fin.jr CM rfl rfl ?_)))))))));exact ⟨H2,_,_,dr,rfl,by
        by_cases h:e2=0∧k=0
        ·obtain ⟨rfl,rfl⟩:=h;first|exact .deck aJ hl hx hm Gt|(exfalso;simp_all;done)|(exfalso;omega)
        ·first|exact .low aJ hl hx hm Gt h|(exfalso;simp_all;done)|(exfalso;omega),hs.out⟩
      ·refine .skip (nT (.ae (.z zm (.z zm (.z zg (.zn zg (.ret (Fin.jr CM rfl rfl ?_))))))));exact ⟨H2,_,_,dr,rfl,by
        by_cases h:e2=0∧k=0
        ·obtain ⟨rfl,rfl⟩:=h;first|exact .deck aJ hl hx hm Gt|(exfalso;simp_all;done)|(exfalso;omega)
        ·first|exact .low aJ hl hx hm Gt h|(exfalso;simp_all;done)|(exfalso;omega),hs.out⟩
     ·refine .Fs 2 2 true (.zn zpF (.cF (.skip (nT (.ae (.z zm (.z zm (.z zg (.zn zg (.ret (Fin.jr CM rfl rfl ?_)))))))))));exact ⟨H2,_,_,dr,rfl,by
       by_cases h:e2=0∧k=0
       ·obtain ⟨rfl,rfl⟩:=h;first|exact .deck aJ hl hx hm Gt|(exfalso;simp_all;done)|(exfalso;omega)
       ·first|exact .low aJ hl hx hm Gt h|(exfalso;simp_all;done)|(exfalso;omega),hs.out⟩
set_option maxHeartbeats 1000000 in
theorem yC{w:World}{x:Lg}{a b c d:Value}(hs:St H w σ)(g:SvM H s a b c d)(gl:LnM H l vt vs):
  Z4 66 [svA s a b c d,lnA l vt vs,lgA x] w fun u w'=>∃H1 vp n us e,HLe H H1∧u= .tuple #[vp,I e]∧RPf H1 vp n us∧((∃k,e≠0∧Er s l x 0 k e∧n=0∧us=[])∨∃k,Er s l x 0 k 0∧qR s ⟨1,0,k⟩ e∧(e≠0→n=0∧us=[])∧(e=0→rQ s ⟨1,0,k⟩ false n us))∧St H1 w' σ:=by
 refine Cl.o func66 ntmps66 ag3 ?_;refine .ae (.bx hs fun b3 w hs=>?_);refine .bx hs fun b4 w hs=>?_
 refine .bx hs fun b5 w hs=>?_
 refine .o (.alloc hs iZ rfl fun b6 w hs=>?_);refine .zn zg (.ae (.y hs (zls [_,_,_,_,_,_,_,_] aP aC) (.y hs (zls [_,_,_,_] cj bj) (.y hs (zls [_,_,_,_,_,_,_] fa bk) (.o (.call call135 rfl (oZ (s:=s) (x:=x) hs g gl) ?_))))));rintro _ w ⟨H1,k,e,aq,rfl,hP,hs⟩;refine .z zm (.z zex (.z zex (.z zg (.zn zg (.seq (.ae (.z zm (.zn ez (.dz rfl (fun fW=>?_) (fun fW=>?_))))))))))
 ·refine .ae (.z (zbd [_,_] iB) (.z zm (.o (.aE (vs:=[_,_]) hs rfl rfl ck fun w hs=>?_))));exact .zn zg (.ret (rT ((Fin.hZ [] [] hs fun w hs=>⟨_,results2 results66 (cN (vs:=[_,_]) hs rfl fU ck) rfl,H1,_,0,[],_,aq,rfl,⟨_,rfl,RS.nil H1 2 none 0⟩,.inl ⟨k,fW,hP,rfl,rfl⟩,hs.out⟩))))
 ·refine .skip (nT (.seq (.draw mix rfl hs fun w hs=>?_)));refine .ys 0 rfl hs [_,_,_,_,_,_,_,_] aP aC ?_;refine .z 1 rfl zm ?_;refine .E 2 hs ?_;obtain rfl:e=0:=by omega
  refine .call call98 rfl (iU hs) ?_;rintro _ w ⟨rfl,hs⟩;refine .go (.E 3 hs ?_);refine .call call136 rfl (tm (s:=s) (q:=⟨1,0,k⟩) (high:=false) hs (g.mono aq).st (g.mono aq).wa (g.mono aq).rd (g.mono aq).cm) ?_;rintro _ w ⟨H2,vp,n,us,e2,aQ,rfl,⟨uu,rfl,hU⟩,hA,hz,VO,hs⟩;obtain ⟨au,cu,rfl⟩:=RU.shape hU;refine .go (.zw 4 rfl zex ?_);refine .z 5 rfl zex ?_;refine .E 6 hs ?_;refine .aE (vs:=[_,_]) hs rfl rfl ck ?_;intro w hs;refine .go (.zw 7 rfl zg ?_);refine .D hs ?_;exact .ret (Fin.hZ [] [] hs fun w hs=>⟨_,results2 results66 (cN (vs:=[_,_]) hs rfl fU ck) rfl,H2,_,n,us,_,aq.trans aQ,rfl,⟨_,rfl,hU⟩,.inr ⟨k,hP,hA,hz,VO⟩,hs.out⟩)
set_option maxHeartbeats 1000000 in
theorem l8{w:World}{x:Lg}{mass m:Int}{a b c d:Value}(hs:St H w σ)(g:SvM H s a b c d)(gl:LnM H l vt vs)(hp:RPf H vp m us):
  Z4 70 [svA s a b c d,lnA l vt vs,lgA x,I mass,vp] w fun u w'=>∃H1 e,HLe H H1∧u=I e∧TQ s l x mass m us e∧St H1 w' σ:=by
 obtain ⟨uu,rfl,hU⟩:=hp;obtain ⟨au,cu,rfl⟩:=RU.shape hU;refine Cl.o func70 ntmps70 ag5 ?_;refine .ae (.bx hs fun b5 w hs=>?_);refine .bx hs fun b6 w hs=>?_
 refine .bx hs fun b7 w hs=>?_
 refine .bx hs fun b9 w hs=>?_
 refine .zn zg (.ae (.y hs (zls [_,_,_,_,_,_,_,_] aP aC) (.y hs (zls [_,_,_,_] cj bj) (.y hs (zls [_,_,_,_,_,_,_] fa bk) (.z zm (.o (.call call135 rfl (oZ (s:=s) (x:=x) hs g gl) ?_)))))));rintro _ w ⟨H1,k,e,aq,rfl,hP,hs⟩;refine .z zm (.z zex (.z zex (.z zg (.zn zg (.seq (.ae (.z zm (.zn ez (.dz rfl (fun jc=>?_) (fun jc=>?_))))))))))
 ·exact .ae (.z zm (.zn zg (.ret (rT (Fin.bw results70 rfl ⟨H1,_,aq,rfl,.bad hP jc,hs.out⟩)))))
 ·refine .skip (nT ?_);obtain rfl:e=0:=by omega
  have hz:=hP.zero;have hm:=hz.2.2.2.1;have yO:=hz.2.2.1.dense;unfold eF at yO;refine .seq (.draw mix rfl hs fun w hs=>?_);refine .ys 0 rfl hs [_,_,_,_,_,_,_,_] aP aC ?_;refine .z 1 rfl zm ?_;refine .z 3 rfl zm ?_;refine .z 4 rfl mV ?_;refine .z 5 rfl (zfa dJ) ?_;refine .z 6 rfl (zfa bh) ?_;refine .y 7 rfl hs aj ?_;refine .ys 10 rfl hs [_,_] fU ck ?_;refine .E 2 hs ?_;refine .call call98 rfl (iU hs) ?_;rintro _ w ⟨rfl,hs⟩;refine .go (.E 8 hs ?_);refine .call call140 rfl (nz (a:= -1000*mass) (d:=x.dlo) hs ai ai) ?_;rintro _ w ⟨rfl,hs⟩;have hdv: -1000*mass≤-1000*mass/x.dlo∧-1000*mass/x.dlo≤0:=by
   have e: -1000*mass= -(1000*mass):=by omega
   have h1:=Int.mul_le_mul_of_nonneg_left (show (1:Int)≤x.dlo by omega) (show 0≤1000*mass by omega);rw [e];refine ⟨(Int.le_ediv_iff_mul_le ai).2 (by rw [Int.neg_mul];rw [Int.mul_one] at h1;exact Int.neg_le_neg h1),?_⟩;have h2: -(1000*mass)/x.dlo≤0/x.dlo:=Int.ediv_le_ediv ai ai;rw [Int.zero_ediv] at h2;exact h2
  refine .go (.zw 9 rfl G4 (.E 11 hs ?_));refine .call call139 rfl (oz (s:=s) (q:=⟨1,0,k⟩) (high:=false) hs (g.mono aq).st (g.mono aq).wa (g.mono aq).rd (g.mono aq).cm ⟨_,rfl,RS.mono hU aq⟩) ?_;rintro _ w ⟨H2,e2,aQ,rfl,XJ,hs⟩;refine .go (.zw 12 rfl zg ?_);refine .D hs ?_;exact .ret (Fin.bw results70 rfl ⟨H2,_,aq.trans aQ,rfl,.go hP XJ,hs.out⟩)
set_option maxHeartbeats 4000000 in
theorem tB{w:World}{n:Int}{ls:List Tri}(hs:St H w σ)(hp:RPf H vp n us)(hu:us.length≤400)(hn: -5000000000000000000≤n∧n≤5000000000000000000)(hc:RS H 3 vc (ls.map Tri.v)):
  Z4 69 [vp,vc] w fun u w'=>∃H1 n2 xO,HLe H H1∧RPf H1 u n2 xO∧St H1 w' σ:=by
 obtain ⟨uu,rfl,hU⟩:=hp;obtain ⟨au,cu,rfl⟩:=RU.shape hU;obtain ⟨ac,cc,rfl⟩:∃a c,vc= .slice a ls.length c:=by
  obtain ⟨a,c,h⟩:=hc.shape;exact ⟨a,c,by rw [h,List.length_map]⟩
 refine Cl.o func69 ntmps69 ag2 ?_;refine .ae (.bx hs fun b2 w hs=>?_);refine .o (.alloc hs iZ rfl fun b4 w hs=>?_);refine .nil (.cut (fun fs w=>∃b5 vo en,mT fs ⟨74,[],[(5,Pt b5),(4,Pt b4),(1,.slice ac ls.length cc)]⟩∧cz 2 vo (usc us).flatten en∧St H w (en:: .blk b5 [I n,vo]:: .blk b4 [I 0,.slice none 0 0]::σ)) ?_ ?_)
 ·refine .draw mix rfl hs fun w hs=>?_
  refine .zw 0 rfl (zfa gG) ?_;refine .y 1 rfl hs aj ?_;refine .z 3 rfl (zfa eu) ?_;refine .y 4 rfl hs zN ?_;refine .e2 (i:=2) (j:=7) az rfl rfl rfl rfl .none .none hs ?_ ?_
  ·refine .buildSlice (cells:=[]) hs pq rfl rfl ?_;intro sO w hs;refine .go (.e2 (i:=5) (j:=7) az rfl rfl rfl rfl .none .none hs ?_ ?_)
   ·refine .append (xs:=[]) hs fP rfl rfl (.full (len:=0) rfl) (FC hU) (Be us) (fun l' h=>by simp at h;obtain rfl:l'=0:=ai;omega) ?_;intro v14 en14 w hO hs;rw [List.nil_append] at hO;obtain ⟨a14,c14,rfl⟩:=hO.iG (uN _) ai;refine .go (.zw 6 rfl (zbd [_,_] iB) (.E 7 hs ?_));refine .alloc hs iZ rfl ?_;intro b5 w hs;refine .go (.E 8 hs ?_);refine .aE (vs:=[_,_]) hs rfl rfl ck ?_;intro w hs;exact .go (.D hs (nT ⟨_,_,_,aW,hO,hs.sb⟩))
   ·refine .alloc hs iZ rfl ?_;intro b5 w hs;refine .go (.E 5 hs ?_);refine .append (xs:=[]) hs fP rfl rfl (.full (len:=0) rfl) (FC hU) (Be us) (fun l' h=>by simp at h;obtain rfl:l'=0:=ai;omega) ?_;intro v14 en14 w hO hs;rw [List.nil_append] at hO;obtain ⟨a14,c14,rfl⟩:=hO.iG (uN _) ai;refine .go (.zw 6 rfl (zbd [_,_] iB) (.E 8 hs ?_));refine .aE (vs:=[_,_]) hs rfl rfl ck ?_;intro w hs;exact .go (.D hs (nT ⟨_,_,_,aW,hO,hs.sb⟩))
  ·refine .alloc hs iZ rfl ?_;intro b5 w hs;refine .go (.E 2 hs ?_);refine .buildSlice (cells:=[]) hs pq rfl rfl ?_;intro sO w hs;refine .go (.E 5 hs ?_);refine .append (xs:=[]) hs fP rfl rfl (.full (len:=0) rfl) (FC hU) (Be us) (fun l' h=>by simp at h;obtain rfl:l'=0:=ai;omega) ?_;intro v14 en14 w hO hs;rw [List.nil_append] at hO;obtain ⟨a14,c14,rfl⟩:=hO.iG (uN _) ai;refine .go (.zw 6 rfl (zbd [_,_] iB) (.E 8 hs ?_));refine .aE (vs:=[_,_]) hs rfl rfl ck ?_;intro w hs;exact .go (.D hs (nT ⟨_,_,_,aW,hO,hs.sb⟩))
 ·rintro fs w ⟨b5,vo,en,iR,hO,hs⟩;refine WE.sub ?_ iR;clear iR;refine .seq (.ae (.zn zg (.block ?_)));refine .loop (fun i:Nat=>⟨74,[],[(6,I (i:Int)),(5,Pt b5),(4,Pt b4),(1,.slice ac ls.length cc)]⟩)
   (fun i w=>i≤2∧∃H1 n2 xO vo en,HLe H H1∧xO.length≤400∧(-5000000000000000000 - 3*(i:Int)≤n2∧n2≤5000000000000000000+3*(i:Int))∧cz 2 vo (usc xO).flatten en∧St H1 w (en:: .blk b5 [I n2,vo]:: .blk b4 [I 0,.slice none 0 0]::σ)) (fun i=>2 - i) 0 aW
   ⟨ai,H,n,us,_,_,HLe.refl _,hu,ai,hO,hs.sb⟩ ?_
  clear hs hO;rintro i w ⟨hi,H1,n2,xO,vo,en,aq,EW,Um,hO,hs⟩;obtain ⟨ao,co,rfl⟩:=hO.iG (uN _) ai;rw [gR] at hO hs;refine .seq (.ae (.z zm (.z zm (.z (de runUnderlying119) (.z ju (.z zm (.iY (t':=20) rfl (fun HX=>?_) (fun HX=>?_))))))))
  ·refine .T (.z zm (.T (.z ju (.z zpT (.z zm (.iY (t':=24) rfl (fun Ab=>?_) (fun Ab=>?_)))))))
   ·refine .T (.z (zfa eu) (.T (.y hs (zld zN) (.T (.z (de dx) (.T (.z nJ (.zn zpT (.cg rfl (fun oF=>?_) (fun oF=>?_))))))))))
    ·refine .skip (nT (.seq (.block (.ae (.z zm (.z zm ?_))))));obtain ⟨x,hx⟩:=nth (l:=ls) (k:=i) ai;refine .ixX (enc:=Tri.v) hs (RS.mono hc aq) rfl rfl runUnderlying119 sizeOf37 hx rfl ?_;intro Rh o34 lP;refine .q hs (bH (vs:=x.v) rfl isAgg37 sizeOf37 lP) (.o (.alloc hs zeroValue37 rfl fun b7 w hs=>?_));refine .o (.aE (vs:=x.v) hs rfl rfl sizeOf37 fun w hs=>?_);refine .nil (.ae (.z (zia 1 FK ak) (.y hs (zld aj) (.z (zfa eu) (.y hs (zld zN) (.z (de dx) ?_))))));obtain ⟨bo,cp,sp,hv,rfl,yP⟩:=hO.Tz (uN _) ai (by rw [gR];omega);simp only [Value.slice.injEq] at hv;obtain ⟨rfl,-,rfl⟩:=hv;rw [gR] at yP;have hj:=fc x.b (m:=(xO.length:Int)) ai;refine .o (.call cU rfl (aI hs ai) ?_);rintro _ w ⟨rfl,hs⟩;generalize iM x.b (xO.length:Int)=jj at*;obtain ⟨j,rfl⟩:∃j:Nat,jj=(j:Int):=⟨jj.toNat,ai⟩;obtain ⟨u,YN⟩:=nth (l:=xO) (k:=j) ai;have Zt:∀q<2,Nat.blt (j*2+q) ((usc xO).flatten++sp).length=true:=fun q hq=>Nat.ble_eq_true_of_le (by rw [List.length_append,bX _ (uN _),gR];omega)
     refine .zn zg (.ae (.z (zia 0 FK ak) (.y hs (zld aj) (.o (.call cU rfl (aI hs ai) ?_)))));rintro _ w ⟨rfl,hs⟩;generalize iM x.a 4=k4 at*;refine .nil (.block (.ae (.z ik (.zn zg (.cg rfl (fun HS=>?_) (fun HS=>?_))))))
     ·refine .draw mix rfl hs fun w hs=>?_
      refine .zw 0 rfl (zfa gG) ?_;refine .y 1 rfl hs aj ?_;refine .zw 2 rfl (zia 2 FK ak) (.zv 3 rfl hs (lO aj) (.E 4 hs ?_));have hk7:=fc x.c (m:=7) ai;refine .call cU rfl (aI hs ai) ?_;rintro _ w ⟨rfl,hs⟩;generalize iM x.c 7=k7 at*;refine .go (.zw 5 rfl cD ?_);refine .z 6 rfl iX ?_;refine .z 7 rfl (zfa gG) ?_;refine .E 8 hs ?_;refine .store hs rfl rfl ak ?_;intro w hs;exact .go (.D hs (nB (nB (nT (.region (.z zm (.z cD (.zn zg (nT ⟨i+1,.dc rfl bB aW,⟨ai,H1,n2+k7 - 3,xO,_,_,aq,EW,by push_cast;omega,hO,hs.sb⟩,ai⟩)))))))))
     ·refine .ae (.z ik (.zn zg (.cg rfl (fun SG=>?_) (fun SG=>?_))))
      ·refine .region (.z (zfa eu) (.y hs (zld zN) (.z zm (.z (zia 2 FK ak) (.y hs (zld aj) ?_)))));first|(refine .ixw hs dx mZ ?_;intro Rf o62 WT)|refine .z (CO dx mZ) ?_
       refine .z (zfa j6) (.o (.store (c':=(usc (xO.set j {u with t:=x.c})).flatten++sp) hs rfl rfl ak ?_ eJ (Zt 1 ai) (FR YN ai rfl sp)));intro w hs;exact .nil (nB (nB (nT (.region (.z zm (.z cD (.zn zg (nT ⟨i+1,.dc rfl bB aW,⟨ai,H1,n2,xO.set j {u with t:=x.c},_,_,aq,by rw [List.length_set];exact EW,by push_cast;omega,F9 hO,hs.sb⟩,ai⟩))))))))
      ·refine .ae (.z ik (.zn zg (.cg rfl (fun J8=>?_) (fun J8=>?_))))
       ·refine .region (.z (zfa eu) (.y hs (zld zN) (.z zm (.z (zia 2 FK ak) (.y hs (zld aj) ?_)))));first|(refine .ixw hs dx mZ ?_;intro ZV o71 SE)|refine .z (CO dx mZ) ?_
        refine .z (zfa lr) (.o (.store (c':=(usc (xO.set j {u with l:=x.c})).flatten++sp) hs rfl rfl ak ?_ eJ (Zt 0 ai) (FR YN ai rfl sp)));intro w hs;exact .nil (nB (nB (nT (.region (.z zm (.z cD (.zn zg (nT ⟨i+1,.dc rfl bB aW,⟨ai,H1,n2,xO.set j {u with l:=x.c},_,_,aq,by rw [List.length_set];exact EW,by push_cast;omega,F9 hO,hs.sb⟩,ai⟩))))))))
       ·exact .skip (nB (nB (nT (.region (.z zm (.z cD (.zn zg (nT ⟨i+1,.dc rfl bB aW,⟨ai,H1,n2,xO,_,_,aq,EW,by push_cast;omega,hO,hs.sb⟩,ai⟩))))))))
    ·refine .exit (xT (xT (xB (nT (.ae (.y hs (zls [_,_] fU ck) (.o (.aE (vs:=[_,_]) hs rfl rfl ck fun w hs=>?_))))))));refine .nil (.ret ?_);obtain ⟨H2,aQ,hR,hs⟩:=cz.bZ (m:=2) (cs:=usc xO) hO (uN _) ai (by rw [gR];omega) hs eJ;exact Fin.hZ [] [] hs fun w hs=>⟨_,results1 results69 (cN (vs:=[_,_]) hs rfl fU ck),H2,n2,xO,aq.trans aQ,⟨_,rfl,hR⟩,hs.out⟩
   ·refine .Fs 4 8 true (.zn zpF (.cF (.exit (xT (xT (xB (nT (.ae (.y hs (zls [_,_] fU ck) (.o (.aE (vs:=[_,_]) hs rfl rfl ck fun w hs=>?_)))))))))));refine .nil (.ret ?_);obtain ⟨H2,aQ,hR,hs⟩:=cz.bZ (m:=2) (cs:=usc xO) hO (uN _) ai (by rw [gR];omega) hs eJ;exact Fin.hZ [] [] hs fun w hs=>⟨_,results1 results69 (cN (vs:=[_,_]) hs rfl fU ck),H2,n2,xO,aq.trans aQ,⟨_,rfl,hR⟩,hs.out⟩
  ·refine .Fs 2 4 true (.z zpF (.z zm (.Fs 4 8 true (.zn zpF (.cF (.exit (xT (xT (xB (nT (.ae (.y hs (zls [_,_] fU ck) (.o (.aE (vs:=[_,_]) hs rfl rfl ck fun w hs=>?_))))))))))))));refine .nil (.ret ?_);obtain ⟨H2,aQ,hR,hs⟩:=cz.bZ (m:=2) (cs:=usc xO) hO (uN _) ai (by rw [gR];omega) hs eJ;exact Fin.hZ [] [] hs fun w hs=>⟨_,results1 results69 (cN (vs:=[_,_]) hs rfl fU ck),H2,n2,xO,aq.trans aQ,⟨_,rfl,hR⟩,hs.out⟩
theorem xu{v:Srv}{x:Lg}{mass k k':Int}(aJ:cR v)(hl:fo l)(hx:zr x)(hm:0≤mass∧mass≤1000000000000)(hL:uC v.sp.wa l x k 0)(hk:k≠0)(h:Er v l x mass k' e):e=0∧k'=k:=by
 cases h with
 |bad h he=>exact (he (h.cO.2 aJ)).elim
 |lines _ h=>exact (h hl).elim
 |leg _ _ h=>exact (h hx).elim
 |mass _ _ _ h=>exact (h hm).elim
 |deck _ _ _ _ h=>exact (hk (hL.uniq hl h).1).elim
 |low _ _ _ _ h=>obtain ⟨h1,h2⟩:=hL.uniq hl h;exact ⟨h2.symm,h1.symm⟩
theorem Hp{v:Srv}{x:Lg}{k n:Int}(aJ:cR v)(om:v.sys.Sound)(hl:fo l)(hx:zr x)(h2:2≤v.sp.wa.length)(Gt:QK v.sp l x k e)
  (hP:(∃k',f≠0∧Er v l x 0 k' f∧n=0∧us=[])∨∃k',Er v l x 0 k' 0∧qR v ⟨1,0,k'⟩ f∧(f≠0→n=0∧us=[])∧(f=0→rQ v ⟨1,0,k'⟩ false n us)):
  (f≠0∧(e≠0∨k=0))∨(f=0∧e=0∧k≠0∧uC v.sp.wa l x k 0∧(∃q:Nat,k=(q:Int)∧q<v.sp.wa.length)∧rQ v ⟨1,0,k⟩ false n us):=by
 have Lp:uC v.sp.wa l x k e:=by
  cases Gt with
  |space h=>exact (h aJ.early.1).elim
  |lines _ h=>exact (h hl).elim
  |leg _ _ h=>exact (h hx).elim
  |go _ _ _ h=>exact h
 by_cases hk:e=0∧k≠0
 ·obtain ⟨rfl,hk⟩:=hk;have hb:=Lp.bd ai;obtain ⟨q,rfl⟩:∃q:Nat,k=(q:Int):=⟨k.toNat,ai⟩;refine .inr ?_
  rcases hP with ⟨k',h1,h3,_⟩|⟨k',h1,h3,_,h4⟩
  ·exact (h1 (xu aJ hl hx ai Lp hk h3).1).elim
  ·obtain ⟨_,rfl⟩:=xu aJ hl hx ai Lp hk h1;obtain rfl:f=0:=by
    cases h3 with
    |bad h he=>exact (he (h.cO.2 aJ)).elim
    |what _ h=>exact (h (uV ai ai)).elim
    |fls _ _ h=>exact (h om).elim
    |ok=>rfl
   exact ⟨rfl,rfl,hk,Lp,⟨q,rfl,ai⟩,h4 rfl⟩
 ·refine .inl ⟨?_,ai⟩
  rcases hP with ⟨k',h1,_⟩|⟨k',h1,_⟩
  ·exact h1
  ·obtain ⟨_,_,_,_,g,g1⟩:=h1.zero;obtain ⟨rfl,rfl⟩:=g.uniq hl Lp;exact (hk ⟨rfl,g1⟩).elim
theorem Rn{mass:Int}(hd:0<d): -((-1000*mass)/d)≤b↔mass≤fu b d:=by
 have h1: -((-1000*mass)/d)≤b↔-b≤(-1000*mass)/d:=by omega
 rw [h1,Int.le_ediv_iff_mul_le hd,Int.neg_mul];unfold fu;generalize b*d=z;omega
theorem Ng{v:Srv}{q:Wht}{n:Int}(h:xo v q false a n us 0)(hb:b≤a)(g:xo v q false b n us e):e=0:=by
 generalize h0:(0:Int)=e0 at h
 cases h with
 |bad _ h=>exact (h h0.symm).elim
 |what=>omega
 |prf=>omega
 |off=>omega
 |ok h1 h2 h3 h4=>cases g with
  |bad g ge=>exact (ge (g.cO.2 h1)).elim
  |what _ g=>exact (g h2).elim
  |prf _ _ g=>exact (g h3).elim
  |off _ _ _ g=>
   refine (g ?_).elim;unfold iC at h4 ⊢;rw [if_neg bB] at h4 ⊢;omega
  |ok=>rfl
theorem Jn{v:Srv}{x:Lg}{mass n:Int}{q:Nat}(aJ:cR v)(hl:fo l)(hx:zr x)(hm:0≤mass∧mass≤1000000000000)(hL:uC v.sp.wa l x (q:Int) 0)(hq:(q:Int)≠0)
  (hS:rQ v ⟨1,0,(q:Int)⟩ false n us) (Ad:kb v q x.dlo x.dhi lo hi 0) (w7:mass≤lo) (h:TQ v l x mass n us e):e=0:=by
 have yO:=hx.dense;unfold eF at yO
 cases h with
 |bad h he=>exact (he (xu aJ hl hx hm hL hq h).1).elim
 |go h h1=>
  obtain ⟨_,rfl⟩:=xu aJ hl hx hm hL hq h;generalize h0:(0:Int)=e0 at Ad
  cases Ad with
  |fls _ g=>exact (g h0.symm).elim
  |ok g=>
   generalize h3:(0:Int)=e3 at g
   cases g with
   |up g g1=>
    subst h3;have hc:=hS.XO g1;rw [if_neg bB] at hc;refine Ng hc ((Rn ai).2 ?_) h1;unfold ta at w7;omega
   |fls g=>omega
   |zero g=>omega
theorem Hq{v:Srv}{y:List Int}{x:Lg}{mass m:Int}{q:Nat}(aJ:cR v)(hl:fo l)(hx:zr x)(hK:mb v y)(hL:uC v.sp.wa l x (q:Int) 0)(_:(q:Int)≠0)
  (Tk:uq v q a b 0) (h:TQ v l x mass m us 0):mass≤fu (wL v y q) x.dlo∧mass≤fu (wL v y q) x.dhi:=by
 have yO:=hx.dense;unfold eF at yO;generalize h0:(0:Int)=e0 at h
 cases h with
 |bad _ he=>exact (he h0.symm).elim
 |go h h1=>
  subst h0;obtain ⟨_,_,_,hm,tE,_⟩:=h.zero;obtain ⟨rfl,_⟩:=hL.uniq hl tE;have ht:=IN aJ hK Tk;have h2: -((-1000*mass)/x.dlo)≤wL v y q:=by
   generalize h3:(0:Int)=e3 at Tk
   cases Tk with
   |up g g1=>subst h3;have:=Fo h1 g1;rw [if_neg bB] at this;omega
   |fls g=>omega
   |zero g=>omega
  have h4:=(Rn ai).1 h2;refine ⟨h4,Int.le_trans h4 ?_⟩;have h5:0≤wL v y q:=by
   have h6:(-1000*mass)/x.dlo≤0/x.dlo:=Int.ediv_le_ediv ai ai;rw [Int.zero_ediv] at h6;omega
  unfold fu;exact Int.ediv_le_ediv ef (Int.mul_le_mul_of_nonneg_left ai h5)
set_option maxHeartbeats 4000000 in
theorem sF{W:World}{x:GV}{c:UZ}(hs:St H W [])(hx:zq H x vs v5 v4 vp vn vg)(hc:QH H vc c):
  Z4 17 [x.agg vs v5 v4 vp vn vg,vc] W fun v w'=>v= .bool true∧∃H',HLe H H'∧St H' w' []:=by
 obtain ⟨vl,vu,rfl,ob,hcu⟩:=hc;obtain ⟨alc,clc,rfl⟩:=ob.shape;obtain ⟨auc,cuc,rfl⟩:=RU.shape hcu;rw [List.length_map] at ob ⊢;refine Cl.o func17 ntmps17 ag2 ?_;refine .ae (.bx hs fun b2 w hs=>?_);refine .bx hs fun b3 w hs=>?_
 refine .zn zg (.ae (.o (.call call18 rfl (mI hs) ?_)));rintro _ w ⟨rfl,H1,aq,hs⟩;replace hx:=hx.mono aq;replace ob:=RS.mono ob aq;refine .zn zg (.ae (.y hs (zls [_,_,_,_,_,_,_,_,_,_,_,_,_,_] isAgg44 sizeOf44) (.o (.call call35 rfl (mB hs hx) ?_))));rintro _ w ⟨H2,s,y,aa,ca,ab,cb,ac,cc,ad,cd,ay,cy,l,at_,ct,dm,cs,r,ar,cr,aQ,rfl,hM,hK,g,hY,hL,gl,hR,jz,hs⟩;have dr:=aq.trans aQ;have aJ:=hM.ok;have om:=vz aJ hK;have oa:=eG aJ.early.1;have T9:=aJ.early.1.wa.two;have Uh:=hR.many;have nI:=hR.ok;have hl:=hL.ok;have JX:=nI.many;replace ob:=RS.mono ob aQ;refine .z zm (.z zex (.z zex (.z zex (.z zex (.o (.alloc hs eg rfl fun b6 w hs=>?_))))));refine .o (.alloc hs jY rfl fun b8 w hs=>?_);refine .o (.alloc hs lF rfl fun b9 w hs=>?_);refine .o (.aE (vs:=[_,_,_,_,_,_,_,_]) hs rfl rfl aC fun w hs=>?_);refine .z zg (.o (.aE (vs:=[_,_,_,_]) hs rfl rfl bj fun w hs=>?_));refine .o (.aE (vs:=[_]) hs rfl rfl bY fun w hs=>?_);refine .nil (.ae (.z (zfa oJ) (.y hs (zld aj) (.z (zfa bT) (.y hs (zld fB) (.z (de a8) ?_))))));have hbi:=fc c.leg (m:=(r.length:Int)) ai;refine .o (.call cU rfl (aI hs ai) ?_);rintro _ w ⟨rfl,hs⟩;generalize iM c.leg (r.length:Int)=ii at*;obtain ⟨i,rfl⟩:∃i:Nat,ii=(i:Int):=⟨ii.toNat,ai⟩;have sW:i<r.length:=by omega
 have Iv:=mH (l:=r) sW;have Uo:=(nI.leg i sW).1;have yO:=Uo.dense;have Sy:=yO;unfold eF at yO;refine .zn zg (.ae (.z (zfa bT) (.y hs (zld fB) (.z zm (.ixX (enc:=Lg.c) hs jz rfl rfl a8 bk Iv rfl ?_)))));intro XT o42 Du;refine .q hs (bH (vs:=lgC (lg0 r i)) rfl fa bk Du) (.o (.alloc hs dM rfl fun sO w hs=>?_));refine .o (.aE (vs:=[_,_,_,_,_,_,_]) hs rfl rfl bk fun w hs=>?_);refine .nil (.ae (.z (zfa aK) (.y hs (zls [_,_,_,_,_,_] bC aT) (.y hs (zls [_,_,_,_] cj bj) (.y hs (zls [_,_,_,_,_,_,_] fa bk) (.o (.call call47 rfl (pa (s:=s.sp) (l:=l) (x:=lg0 r i) hs g.st g.wa gl.tb gl.sn) ?_)))))));rintro _ w ⟨H3,k,e,bJ,rfl,Gt,hs⟩;replace g:=g.mono bJ;replace gl:=gl.mono bJ;refine .z zm (.z zex (.z zex (.z zg (.zn zg (.ae (.y hs (zls [_,_,_,_,_,_,_,_] aP aC) (.y hs (zls [_,_,_,_] cj bj) (.y hs (zls [_,_,_,_,_,_,_] fa bk) (.o (.call call66 rfl (yC (s:=s) (l:=l) (x:=lg0 r i) hs g gl) ?_))))))))));rintro _ w ⟨H4,vpf,n,us,f,eo,rfl,⟨uu,rfl,hU⟩,hP,hs⟩;obtain ⟨au,cu,rfl⟩:=RU.shape hU;replace g:=g.mono eo;replace gl:=gl.mono eo;replace jz:=jz.mono (bJ.trans eo);replace hY:=RI.mono hY (bJ.trans eo);replace ob:=RS.mono ob (bJ.trans eo);have gU:=dr.trans (bJ.trans eo);have hW:=Hp aJ om hl Uo T9 Gt hP;refine .z zm (.z zex (.z zex (.o (.alloc hs iZ rfl fun ka w hs=>?_))));refine .o (.aE (vs:=[_,_]) hs rfl rfl ck fun w hs=>?_);refine .zn zg (.seq (.ae (.z zm (.z ez (.z zm (.Eo (t':=61) rfl (fun W7=>?_) (fun W7=>?_)))))))
 ·exact .Fs 2 2 false (.zn zpT (.cT (.ae (.z zm (.z zm (.T (.z zm (.T (.z ez (.z zpT (.zn zg (.ret (rT (Fin.bw TW rfl ⟨by rcases hW with ⟨h1,h2⟩|⟨h1,h2,h3,_⟩<;>simp_all,H4,gU,hs.out⟩))))))))))))))
 ·refine .T (.z zm (.T (.z ik (.zn zpF (.cg rfl (fun J8=>?_) (fun J8=>?_))))))
  ·exact .ae (.z zm (.z zm (.T (.z zm (.T (.z ez (.z zpT (.zn zg (.ret (rT (Fin.bw TW rfl ⟨by rcases hW with ⟨h1,h2⟩|⟨h1,h2,h3,_⟩<;>simp_all,H4,gU,hs.out⟩)))))))))))
  ·refine .skip (nT (.seq ?_));obtain ⟨rfl,rfl,hk,M3,⟨q,rfl,EZ⟩,ZB⟩:=hW.resolve_left fun h=>by omega
   have VB:=rQ.bd (v:=s) (e:=0) (fun h=>(h rfl).elim) (.ok aJ (uV ai EZ) om) (fun _=>ZB);refine .ae (.z zm (.z ia (.z zm (.T (.z zm (.T (.z ez ?_)))))));rw [decide_eq_true rfl];refine .zn zpF (.cF (.skip (nT (.ae (.y hs (zls [_,_,_,_,_,_,_,_] aP aC) (.y hs (zls [_,_,_,_] cj bj) (.y hs (zls [_] dV bY) (.z (zfa cP) (.y hs (zls [_,_] bK aD) (.o (.call call24 rfl (kN (s:=s) (l:=l) (r:=r) (m:=x.mass) hs g gl jz) ?_)))))))))));rintro _ w ⟨H5,va,bs,e5,ek,rfl,IE,hA,hs⟩;obtain ⟨Z2,ZU,rfl⟩:=RI.shape IE;replace g:=g.mono ek;replace gl:=gl.mono ek;replace jz:=jz.mono ek;refine .z zm (.z zex (.z zex (.z zg (.zn zg (.ae (.y hs (zls [_] dV bY) (.z (zfa cP) (.y hs (zls [_,_] bK aD) (.o (.call call43 rfl (o9 (r:=r) (m:=x.mass) hs jz) ?_))))))))));rintro _ w ⟨H6,vm,ml,e6,iw,rfl,Oj,Fa,hs⟩;obtain ⟨Ep,En,rfl⟩:=Oj.shape;replace g:=g.mono iw;replace gl:=gl.mono iw;replace IE:=RI.mono IE iw;replace hY:=RI.mono hY (ek.trans iw);replace hU:=RS.mono hU (ek.trans iw);replace ob:=RS.mono ob (ek.trans iw);have J4:=gU.trans (ek.trans iw);refine .z zm (.z zex (.z zex (.z zg (.zn zg (.seq ?_)))));have Pp:e5=0→e6=0∧ml=msL x.mass r r.length∧∃ks,oQ s l r x.mass ks 0:=fun h=>by
    subst h;obtain ⟨ks,hB⟩:∃ks,oQ s l r x.mass ks 0:=by
     generalize h0:(0:Int)=e0 at hA
     cases hA with
     |bad _ h=>exact (h h0.symm).elim
     |fls=>omega
     |ok h=>exact ⟨_,h⟩
    have Dp:=hB.ok'.2.2.2.1
    cases Fa with
    |route h=>exact (h nI).elim
    |mass _ h=>exact (h Dp).elim
    |ok=>exact ⟨rfl,rfl,ks,hB⟩
   refine .cut (fun fs w=>∃H7:bG,mT fs ⟨188,[],[(117,.bool false),(14,Pt ka),(12,I (q:Int)),(11,Pt sO),(8,Pt b8),(7,.slice ay y.length cy),(6,Pt b6),(3,Pt b3)]⟩∧HLe H6 H7∧St H7 w [.blk ka [I n,.slice au us.length cu],.blk sO (lgC (lg0 r i)),.blk b8 (lnC l (.slice at_ l.table.length ct) (.slice dm l.seasons.length cs)),.blk b6 (svC s (.slice aa s.sp.st.length ca) (.slice ab s.sp.wa.length cb) (.slice ac s.rs.length cc) (.slice ad s.cs.length cd)),.blk b3 [I c.leg,I c.mass,.bool c.near,.slice alc c.ls.length clc,I c.m,.slice auc c.us.length cuc]]) ?_ ?_
   ·refine .draw mix rfl hs fun w hs=>?_
    refine .zw 0 rfl zm ?_;refine .z 1 rfl ik ?_;refine .z 2 rfl zm ?_;refine .iY (t':=94) rfl (fun P1=>?_) (fun P1=>?_)
    ·refine .zw 3 rfl zm ?_;refine .z 4 rfl ik ?_;refine .z 5 rfl zpT ?_;refine .z 6 rfl zm ?_;refine .iY (t':=98) rfl (fun WZ=>?_) (fun WZ=>?_)
     ·refine .zw 7 rfl zm ?_;refine .z 8 rfl zm ?_;obtain ⟨-,rfl,ks,hB⟩:=Pp P1;subst P1;have hao:=K9 hA hB;obtain ⟨lo,hi,Ad,hai⟩:=hao.2.2 i sW;rw [←(Gf hB sW Gt).1,Int.toNat_natCast] at Ad;have Wc:=BF hB.ok'.2.2.2.1 (fun i hi=>(nI.leg i hi).1) (i:=i) ai;unfold eK at Wc;refine .ixX (enc:=fun x=>[I x]) (i:=9) hs rfl az (.some rfl rfl) IE rfl rfl af ak (bL (l:=bs) (i:=i) ai) rfl ?_;intro b101 o101 Gq;replace Gq:=bN.one Gq;refine .y 10 rfl hs aj ?_;refine .z 11 rfl ik ?_;refine .z 12 rfl zpT ?_;refine .z 13 rfl zm ?_;refine .iY (t':=105) rfl (fun Gr=>?_) (fun Gr=>?_)
      ·refine .ys 14 rfl hs [_,_,_,_,_,_,_,_] aP aC ?_;refine .ys 15 rfl hs [_,_,_,_] cj bj ?_;refine .ys 16 rfl hs [_,_,_,_,_,_,_] fa bk ?_;refine .z 17 rfl zm ?_;refine .z 18 rfl zm ?_;refine .ixX (enc:=Rng.c) (i:=19) hs rfl az (.some rfl rfl) Oj rfl rfl cn aD (sy x.mass r (k:=r.length) (i:=i) ai) rfl ?_;intro TH o111 Kh;refine .zw 20 rfl (zfa bu) (.r (i:=21) hs rfl az (.some rfl rfl) (aR rfl aj (Kh.get 1 rfl)) ?_);refine .zv 22 rfl hs (Gg [_,_] fU ck) (.E 23 hs ?_);refine .call call70 rfl (l8 (s:=s) (l:=l) (x:=lg0 r i) (mass:=(oB x.mass r i).hi) (m:=n) (us:=us) hs g gl ⟨_,rfl,hU⟩) ?_;rintro _ w ⟨H7,e7,kP,rfl,XJ,hs⟩;obtain rfl:e7=0:=Jn aJ hl Uo ai M3 hk ZB Ad (um.1 (hai.symm.trans Gr)) XJ;refine .go (.zw 24 rfl ez ?_);rw [decide_eq_true rfl];refine .zw 25 rfl zpT ?_;refine .D hs ?_;exact nT ⟨_,aW,by first|exact HLe.refl _|assumption,hs.sb⟩
      ·refine .F 14 rfl (.F 15 rfl (.F 16 rfl (.F 17 rfl (.F 18 rfl (.F 19 rfl (.F 20 rfl (.F 21 rfl (.F 22 rfl (.F 23 rfl (.F 24 rfl (.zw 25 rfl zpF ?_)))))))))));refine .D hs ?_;exact nT ⟨_,aW,by first|exact HLe.refl _|assumption,hs.sb⟩
     ·refine .F 7 rfl (.F 8 rfl (.F 9 rfl (.F 10 rfl (.F 11 rfl (.zw 12 rfl zpF ?_)))));refine .z 13 rfl zm ?_;refine .F 14 rfl (.F 15 rfl (.F 16 rfl (.F 17 rfl (.F 18 rfl (.F 19 rfl (.F 20 rfl (.F 21 rfl (.F 22 rfl (.F 23 rfl (.F 24 rfl (.zw 25 rfl zpF ?_)))))))))));refine .D hs ?_;exact nT ⟨_,aW,by first|exact HLe.refl _|assumption,hs.sb⟩
    ·refine .F 3 rfl (.F 4 rfl (.zw 5 rfl zpF ?_));refine .z 6 rfl zm ?_;refine .F 7 rfl (.F 8 rfl (.F 9 rfl (.F 10 rfl (.F 11 rfl (.zw 12 rfl zpF ?_)))));refine .z 13 rfl zm ?_;refine .F 14 rfl (.F 15 rfl (.F 16 rfl (.F 17 rfl (.F 18 rfl (.F 19 rfl (.F 20 rfl (.F 21 rfl (.F 22 rfl (.F 23 rfl (.F 24 rfl (.zw 25 rfl zpF ?_)))))))))));refine .D hs ?_;exact nT ⟨_,aW,by first|exact HLe.refl _|assumption,hs.sb⟩
   ·rintro fs w ⟨H7,iR,kP,hs⟩;refine WE.sub ?_ iR;clear iR;replace g:=g.mono kP;replace gl:=gl.mono kP;replace hY:=RI.mono hY kP;replace hU:=RS.mono hU kP;replace ob:=RS.mono ob kP;have wv:=J4.trans kP;refine (.cond rfl (fun Oa=>?_) (fun Oa=>?_))
    ·exact .ae (.zn zg (.ret (rT (Fin.bw TW rfl ⟨by first|rfl|(exfalso;omega)|(simp_all;done)|(simp_all;omega),_,by assumption,hs.out⟩))))
    ·refine .skip (nT (.seq (.draw mix rfl hs fun w hs=>?_)));refine .zw 0 rfl (zfa aK) ?_;refine .ys 1 rfl hs [_,_,_,_,_,_] bC aT ?_;refine .z 2 rfl (zfa aK) ?_;refine .ys 3 rfl hs [_,_,_,_,_,_] bC aT ?_;refine .z 4 rfl zm ?_;refine .z 6 rfl zm ?_;refine .E 5 hs ?_;refine .call call34 rfl (zP (s:=s.sp) hs g.st g.wa hY ai ai (by have:=hK.bd.1;omega)) ?_;rintro _ w ⟨H8,vr,iQ,rfl,AS,hs⟩;obtain ⟨at2,ct2,rfl⟩:=AS.shape;refine .go (.E 7 hs ?_);refine .call call51 rfl (vv (s:=s) (k:=q) hs (g.mono iQ).st (g.mono iQ).wa AS) ?_;rintro _ w ⟨H9,tl,e9,Aa,rfl,Tk,hs⟩;obtain ⟨rfl,UK⟩:e9=0∧HlR s (gK s.sp y s.sp.st.length) q tl:=by
      rcases Tk with h|⟨h1,h2,h3⟩
      ·exact h
      ·exact (h1 (h3.uniq (AO aJ hK (uV h2 EZ))).2).elim
     obtain rfl:=UK.uniq (OP aJ hK EZ);have k9:=iQ.trans Aa;replace g:=g.mono k9;replace gl:=gl.mono k9;replace hU:=RS.mono hU k9;replace ob:=RS.mono ob k9;have Sm:=wv.trans k9;refine .go (.zw 8 rfl zm ?_);refine .z 9 rfl zex ?_;refine .z 10 rfl zex ?_;refine .z 11 rfl zg ?_;refine .z 12 rfl zg ?_;refine .D hs ?_;refine .ae (.y hs (zls [_,_,_,_,_,_,_,_] aP aC) (.z zm (.z (zfa dJ) (.y hs (zls [_,_] bK aD) (.o (.call call58 rfl (eI (s:=s) (x:=(lg0 r i).dlo) (y:=(lg0 r i).dhi) hs g) ?_))))));rintro _ w ⟨H10,dl,dh,e10,qi,rfl,XH,hs⟩;replace g:=g.mono qi;replace gl:=gl.mono qi;replace hU:=RS.mono hU qi;replace ob:=RS.mono ob qi;have PI:=Sm.trans qi;obtain ⟨rfl,Ad⟩:e10=0∧kb s q (lg0 r i).dlo (lg0 r i).dhi dl dh 0:=by
      cases XH with
      |bad h he=>exact (he (h.cO.2 aJ)).elim
      |water _ h=>exact (h ai).elim
      |dense _ _ h=>exact (h Sy).elim
      |go _ _ _ h=>
       rw [Int.toNat_natCast] at h
       rcases h.err aJ EZ with ⟨rfl,_⟩|⟨_,h1,_⟩
       ·exact ⟨rfl,h⟩
       ·exact (h1 om).elim
     have hSb:=Ad.bd Sy;have QV:=OQ aJ hK Ad;obtain ⟨la,lb,XB⟩:∃a b,uq s q a b 0:=by
      generalize h0:(0:Int)=e0 at Ad
      cases Ad with
      |fls _ h=>exact (h h0.symm).elim
      |ok h=>exact ⟨_,_,h⟩
     refine .z zm (.z zex (.z zex (.o (.alloc hs cS rfl fun No w hs=>?_))));refine .o (.aE (vs:=[_,_]) hs rfl rfl aD fun w hs=>?_);refine .zn zg (.ae (.z (zfa km) (.y hs (zld aj) (.zn zg (.cut (fun fs w=>∃mm:Int,mT fs ⟨188,[],[(24,I mm),(23,I 0),(21,I 0),(20,I (wL s y q)),(14,Pt ka),(11,Pt sO),(8,Pt b8),(6,Pt b6),(3,Pt b3)]⟩∧St H10 w [.blk ka [I n,.slice au us.length cu],.blk sO (lgC (lg0 r i)),.blk b8 (lnC l (.slice at_ l.table.length ct) (.slice dm l.seasons.length cs)),.blk b6 (svC s (.slice aa s.sp.st.length ca) (.slice ab s.sp.wa.length cb) (.slice ac s.rs.length cc) (.slice ad s.cs.length cd)),.blk b3 [I c.leg,I c.mass,.bool c.near,.slice alc c.ls.length clc,I c.m,.slice auc c.us.length cuc]]) ?_ ?_)))))
     ·refine .ae (.z (zfa oI) (.y hs (zld isAgg4) (.nil (.cond rfl (fun SV=>?_) (fun SV=>?_)))))
      ·refine .draw mix rfl hs fun w hs=>?_
       refine .zw 0 rfl (zfa bh) ?_;refine .y 1 rfl hs aj ?_;refine .z 2 rfl (zfa km) ?_;refine .y 3 rfl hs aj ?_;refine .E 4 hs ?_;have Of:=fc c.mass (m:=5) ai;refine .call cU rfl (aI hs ai) ?_;rintro _ w ⟨rfl,hs⟩;refine .go (.zw 5 rfl cD ?_);refine .z 6 rfl iX ?_;refine .z 7 rfl zg ?_;refine .D hs ?_;exact nT ⟨_,aW,hs.sb⟩
      ·exact .skip (nT ⟨_,aW,hs.sb⟩)
     ·rintro fs w ⟨mm,iR,hs⟩;refine WE.sub ?_ iR;clear iR;refine .seq (.seq (.draw mix rfl hs fun w hs=>?_));refine .ys 0 rfl hs [_,_,_,_,_,_,_,_] aP aC ?_;refine .ys 1 rfl hs [_,_,_,_] cj bj ?_;refine .ys 2 rfl hs [_,_,_,_,_,_,_] fa bk ?_;refine .z 3 rfl zm ?_;refine .ys 4 rfl hs [_,_] fU ck ?_;refine .z 5 rfl (zfa oH) ?_;refine .y 6 rfl hs isAgg119 ?_;refine .E 7 hs ?_;refine .call call69 rfl (tB hs ⟨_,rfl,hU⟩ VB.1 VB.2 ob) ?_;rintro vq w ⟨H11,n2,xO,J3,hpq,hs⟩;refine .go (.E 8 hs ?_);refine .call call70 rfl (l8 (s:=s) (l:=l) (x:=lg0 r i) (mass:=mm) (m:=n2) (us:=xO) hs (g.mono J3) (gl.mono J3) hpq) ?_;rintro _ w ⟨H12,e12,Sl,rfl,XI,hs⟩;have Wi:=PI.trans (J3.trans Sl);refine .go (.zw 9 rfl ez ?_);refine .D hs ?_;refine (.dz rfl (fun SR=>?_) (fun SR=>?_))
      ·refine .ae (.z zm (.z ik ?_));rw [decide_eq_true rfl];refine .z zm (.T (.z zm (.T (.z ik ?_))));rw [decide_eq_true rfl];exact .z zpT (.zn zg (.ret (rT (Fin.bw TW rfl ⟨by first|rfl|(exfalso;omega)|(simp_all;done)|(simp_all;omega),_,by assumption,hs.out⟩))))
      ·refine .skip (nT (.ae ?_));obtain rfl:e12=0:=by omega
       obtain ⟨Zd,Wu⟩:=Hq aJ hl Uo hK M3 hk XB XI;refine .z zm (.z ik ?_);rw [decide_eq_true rfl];refine .z zm (.T (.z zm (.T (.z ik ?_))));rw [decide_eq_true rfl];refine .z zpT (.z zm (.T (.z zm (.T (.z zm (.T (.z (zfa dJ) (.T (.z (zfa bh) (.T (.y hs (zld aj) (.T (.o (.call call52 rfl (fF hs ai ai) ?_))))))))))))));rintro _ w ⟨rfl,hs⟩;refine .T (.z sY (.z zpT (.z zm (.iY (t':=179) rfl (fun S3=>?_) (fun S3=>?_)))))
       ·refine .T (.z zm (.T (.z zm (.T (.z (zfa dJ) (.T (.z (zfa bu) (.T (.y hs (zld aj) (.T (.o (.call call52 rfl (fF hs ai ai) ?_))))))))))));rintro _ w ⟨rfl,hs⟩;exact .T (.z sY (.z zpT (.zn zg (.ret (Fin.bw TW rfl ⟨by first|rfl|(exfalso;omega)|(simp_all;done)|(simp_all;omega),_,by assumption,hs.out⟩)))))
       ·exact .Fs 7 15 true (.z zpF (.zn zg (.ret (Fin.bw TW rfl ⟨by first|rfl|(exfalso;omega)|(simp_all;done)|(simp_all;omega),_,by assumption,hs.out⟩))))
theorem ER{v:Srv}(h:uq v 0 a b e):a=0∧b=0:=by
 cases h with
 |up h=>omega
 |fls=>exact ⟨rfl,rfl⟩
 |zero=>exact ⟨rfl,rfl⟩
theorem BL{v:Srv}(h:uq v k a b e)(hk:0<k):A7 v ⟨1,0,k⟩ a b e:=by
 cases h with
 |up _ g=>exact g
 |fls h=>omega
 |zero h=>omega
theorem zb{v:Srv}(aJ:cR v)(hv:v.sys.Sound){k:Nat}(hk:k<v.sp.wa.length){x y lo hi e:Int}(hd:eF x y)(h:FD v (k:Int) x y lo hi e):e=0∧kb v k x y lo hi 0:=by
 cases h with
 |bad h he=>exact (he (h.cO.2 aJ)).elim
 |water _ h=>exact (h ai).elim
 |dense _ _ h=>exact (h hd).elim
 |go _ _ _ h=>
  rw [Int.toNat_natCast] at h
  rcases h.err aJ hk with ⟨rfl,_⟩|⟨_,h1,_⟩
  ·exact ⟨rfl,h⟩
  ·exact (h1 hv).elim
theorem OY{v:Srv}{y:Int}(h:kb v k x y a b 0)(g:uq v k lo hi 0):a=ta lo x y∧b=xZ hi x y:=
 ⟨(h.uniq (.ok g)).1,(h.uniq (.ok g)).2.1⟩
theorem OZ{v:Srv}{y:Int}(hd:eF x y)(h:kb v k x y a b e):a≤b:=by
 cases h with
 |fls=>exact Int.le_refl _
 | @ok a b h=>
  have:=h.bd;unfold eF at hd;have:=y8 (n:=a) (n':=b) (d:=x) ai ai;unfold ta xZ;omega
theorem LJ{v:Srv}(aJ:cR v)(hv:v.sys.Sound){l:List Rng}{e:Int}(h:QC v l e):e=0∧l.length=v.sp.wa.length∧∀i<v.sp.wa.length,∃x,l[i]? =some x∧uq v i x.lo x.hi 0:=by
 rcases h.err aJ with ⟨e,_,h1,h2⟩|⟨_,h⟩
 ·exact ⟨e,h1,h2⟩
 ·exact (h hv).elim
theorem Hd{v:Srv}(h0:0<k){a b e:Int}(hL:uq v k a b 0){high:Bool}{rows:List (List Int)}(hA:qR v ⟨1,0,k⟩ e)
  (Xd:e=0→∃x,FH v.sys (xF (v.w ⟨1,0,k⟩) high) x∧rows=gK v.sp x v.sp.st.length):
  e=0∧qP v.sp rows ⟨1,0,k⟩ (if high=true then b else a) 0∧Im v rows 0:=by
 obtain rfl:e=0:=hA.same (BL hL h0);obtain ⟨x,hB,rfl⟩:=Xd rfl;exact ⟨rfl,Qu (BL hL h0) hB⟩
theorem Qw{v:Srv}{r:List Lg}(h:Iq v l r m dm 0):∃ks,oQ v l r m ks 0:=by
 generalize h0:(0:Int)=e0 at h
 cases h with
 |bad _ h=>exact (h h0.symm).elim
 |fls=>omega
 |ok h=>exact ⟨_,h⟩
theorem K8(h:lo≤hi)(hm:eK m.lo m.hi):(zH m lo hi=0↔hi<m.lo)∧(zH m lo hi=1↔m.hi≤lo):=by
 refine ⟨?_,um⟩;unfold eK at hm;unfold zH;split<;>(try split)<;>omega
theorem Ph{r:List Lg}{ml:List Rng}(hr:oP r)(hm:eK m.lo m.hi)(h:MsR r m ml e):e=0∧ml=msL m r r.length:=by
 cases h with
 |route h=>exact (h hr).elim
 |mass _ h=>exact (h hm).elim
 |ok=>exact ⟨rfl,rfl⟩
set_option maxHeartbeats 8000000 in
theorem tz{W:World}{x:GV}{n0:Int}(hs:St H W [])(hx:zq H x vs v5 v4 vp vn vg):
  Z4 14 [x.agg vs v5 v4 vp vn vg,I n0] W fun v w'=>v= .bool true∧∃H',HLe H H'∧St H' w' []:=by
 refine Cl.o func14 ntmps14 ag2 ?_;refine .ae (.bx hs fun b2 w hs=>?_);refine .zn zg (.ae (.o (.call call18 rfl (mI hs) ?_)));rintro _ w ⟨rfl,H1,aq,hs⟩;replace hx:=hx.mono aq;refine .zn zg (.ae (.y hs (zls [_,_,_,_,_,_,_,_,_,_,_,_,_,_] isAgg44 sizeOf44) (.o (.call call35 rfl (mB hs hx) ?_))));rintro _ w ⟨H2,s,y,aa,ca,ab,cb,ac,cc,ad,cd,ay,cy,l,at_,ct,dm,cs,r,ar,cr,aQ,rfl,hM,hK,g,hY,hL,gl,hR,jz,hs⟩;have dr:=aq.trans aQ;have aJ:=hM.ok;have om:=vz aJ hK;have T9:=aJ.early.1.wa.two;have hwm:=hM.wa;have Uh:=hR.many;have nI:=hR.ok;have hl:=hL.ok;have JX:=nI.many;have Sy:=(nI.leg 0 ai).1.dense;have yO:=Sy;unfold eF at yO;refine .z zm (.z zex (.z zex (.z zex (.z zex (.o (.alloc hs eg rfl fun b6 w hs=>?_))))));refine .o (.alloc hs jY rfl fun b8 w hs=>?_);refine .o (.alloc hs lF rfl fun b9 w hs=>?_);refine .o (.aE (vs:=[_,_,_,_,_,_,_,_]) hs rfl rfl aC fun w hs=>?_);refine .z zg (.o (.aE (vs:=[_,_,_,_]) hs rfl rfl bj fun w hs=>?_));refine .o (.aE (vs:=[_]) hs rfl rfl bY fun w hs=>?_);refine .nil (.ae (.z zm (.z (zfa aK) (.z (zfa aZ) (.y hs (zld an) (.z (de af) ?_))))));have hbi:=fc n0 (m:=(s.sp.wa.length:Int)) ai;refine .o (.call cU rfl (aI hs ai) ?_);rintro _ w ⟨rfl,hs⟩;generalize iM n0 (s.sp.wa.length:Int)=kk at*;obtain ⟨k,rfl⟩:∃k:Nat,kk=(k:Int):=⟨kk.toNat,ai⟩;have Up:k<s.sp.wa.length:=by omega
 have Iv:=mH (l:=r) (i:=0) ai;refine .zn zg (.ae (.z (zfa bT) (.y hs (zld fB) (.ixX (enc:=Lg.c) hs jz rfl rfl a8 bk Iv rfl ?_))));intro XS o49 w9;refine .z (zfa dJ) (.q hs (bH (vs:=[I (lg0 r 0).dlo,I (lg0 r 0).dhi]) rfl bK aD (w9.sub 3 _)) (.o (.alloc hs cS rfl fun sO w hs=>?_)));refine .o (.aE (vs:=[_,_]) hs rfl rfl aD fun w hs=>?_);refine .nil (.ae (.y hs (zls [_,_,_,_,_,_,_,_] aP aC) (.o (.call call56 rfl (yB (s:=s) hs g) ?_))));rintro _ w ⟨H3,vt,L,e1,bJ,rfl,Ae,hT,hs⟩;obtain ⟨rfl,hTl,Zy⟩:=LJ aJ om hT;obtain ⟨atb,ctb,rfl⟩:=Ae.shape;replace g:=g.mono bJ;obtain ⟨z0,hz0,hzL⟩:=Zy 0 ai;obtain ⟨hz1,hz2⟩:=ER hzL;obtain ⟨xk,Pq,Vu⟩:=Zy k Up;refine .z zm (.z zex (.z zex (.z zg (.zn zg (.ae (.y hs (zls [_,_,_,_,_,_,_,_] aP aC) (.z zm (.y hs (zls [_,_] bK aD) (.o (.call call58 rfl (eI (s:=s) (k:=(k:Int)) (x:=(lg0 r 0).dlo) (y:=(lg0 r 0).dhi) hs g) ?_))))))))));rintro _ w ⟨H4,dl,dh,e2,eo,rfl,XH,hs⟩;obtain ⟨rfl,Ad⟩:=zb aJ om Up Sy XH;obtain ⟨hdl,Zg⟩:=OY Ad Vu;replace g:=g.mono eo;replace Ae:=Ae.mono eo;replace gl:=gl.mono (bJ.trans eo);replace jz:=jz.mono (bJ.trans eo);have gU:=dr.trans (bJ.trans eo);refine .z zm (.z zex (.z zex (.o (.alloc hs cS rfl fun ka w hs=>?_))));refine .o (.aE (vs:=[_,_]) hs rfl rfl aD fun w hs=>?_);refine .zn zg (.seq (.ae (.z zm (.z ia (.z zm (.T (.z zm (.T (.z ez ?_)))))))));rw [decide_eq_true rfl];refine .z zpF (.z zm (.T (.z zm (.T (.z ez ?_)))));rw [decide_eq_true rfl];refine .z zpF (.z zm (.T ?_));refine .z zm (.T (.z (de cn) (.T (.z (zfa aK) (.T (.z (zfa aZ) (.T (.y hs (zld an) (.T (.z (de af) (.T (.z ez ?_))))))))))));rw [decide_eq_true ai];refine .z zpF (.z zm (.T (.z zm (.T (.ixX (enc:=Rng.c) hs Ae rfl rfl cn aD hz0 rfl ?_)))));intro b85 o85 WL;refine .T (.q hs (bH (vs:=z0.c) rfl bK aD WL) (.T (.z (zbd [_,_] bQ) (.T (.q hs (Rz rfl rfl FJ AG AH (fun f hf=>by simp only [List.mem_cons,List.not_mem_nil,or_false] at hf;rcases hf with rfl|rfl<;>exact ⟨by decide,bF,aj⟩)) ?_)))));rw [decide_eq_true ⟨hz1,hz2⟩];refine .zn zpF (.cF (.skip (nT (.cut (fun fs w=>∃H5:bG,mT fs ⟨292,[],[(9,Pt b9),(8,Pt b8),(6,Pt b6),(2,Pt b2)]⟩∧HLe H4 H5∧St H5 w [.blk b9 [.slice ar r.length cr],.blk b8 (lnC l (.slice at_ l.table.length ct) (.slice dm l.seasons.length cs)),.blk b6 (svC s (.slice aa s.sp.st.length ca) (.slice ab s.sp.wa.length cb) (.slice ac s.rs.length cc) (.slice ad s.cs.length cd)),.blk b2 [vs,v5,v4,vp,I x.y1,I x.y2,I x.y3,vn,vg,I x.m1,I x.m2,I x.z1,I x.z2,I x.z3]]) ?_ ?_))))
 ·refine .ae (.z zm (.zn nJ (.cg rfl (fun SC=>?_) (fun SC=>?_))))
  ·refine .ae (.z zm (.z (zbd [_,_,_] qJ) (.o (.alloc hs zeroValue113 rfl fun ui w hs=>?_))));refine .o (.aE (vs:=[_,_,_]) hs rfl rfl jt fun w hs=>?_);refine .nil (.ae (.zn zg (.block ?_)));refine .loop (fun p:Nat×bG=>⟨292,[],[(17,I (p.1:Int)),(16,Pt ui),(14,Pt ka),(12,.slice atb L.length ctb),(11,Pt sO),(10,I (k:Int)),(9,Pt b9),(8,Pt b8),(6,Pt b6),(2,Pt b2)]⟩)
    (fun p w=>p.1≤2∧HLe H4 p.2∧St p.2 w [.blk ui [I 1,I 0,I (k:Int)],.blk ka [I dl,I dh],.blk sO [I (lg0 r 0).dlo,I (lg0 r 0).dhi],.blk b9 [.slice ar r.length cr],.blk b8 (lnC l (.slice at_ l.table.length ct) (.slice dm l.seasons.length cs)),.blk b6 (svC s (.slice aa s.sp.st.length ca) (.slice ab s.sp.wa.length cb) (.slice ac s.rs.length cc) (.slice ad s.cs.length cd)),.blk b2 [vs,v5,v4,vp,I x.y1,I x.y2,I x.y3,vn,vg,I x.m1,I x.m2,I x.z1,I x.z2,I x.z3]]) (fun p=>2 - p.1) (0,H4) aW
    ⟨Nat.zero_le _,HLe.refl _,hs.sb⟩ ?_
   rintro ⟨i,H5⟩ w ⟨hi,ek,hs⟩;dsimp only at hi ek hs ⊢;refine .seq (.ae (.z zm (.zn ju (.cg rfl (fun PS=>?_) (fun PS=>?_)))))
   ·refine .skip (nT (.seq (.block (.ae (.y hs (zls [_,_,_,_,_,_,_,_] aP aC) (.y hs (zls [_,_,_] pS jt) (.z zm (.z ik (.o (.call call63 rfl (sw (s:=s) (q:=⟨1,0,(k:Int)⟩) (high:=decide ((i:Int)=1)) hs (g.mono ek).st (g.mono ek).wa (g.mono ek).rd (g.mono ek).cm) ?_))))))))));rintro _ w ⟨H6,vh,rows,e6,iw,rfl,Xf,hA,-,Xd,hs⟩;obtain ⟨rfl,hQx,hCx⟩:=Hd ai Vu hA Xd;obtain ⟨ah,ch,rfl⟩:=Xf.shape;have J2:=ek.trans iw;refine .z zm (.z zex (.z zex (.o (.alloc hs zB rfl fun wG w hs=>?_))));refine .o (.aE (vs:=[_]) hs rfl rfl fA fun w hs=>?_);refine .zn zg (.ae (.z (zfa aK) (.y hs (zls [_,_,_,_,_,_] bC aT) (.y hs (zls [_] oU fA) (.y hs (zls [_,_,_] pS jt) (.o (.call call64 rfl (ki (s:=s.sp) (q:=⟨1,0,(k:Int)⟩) hs (g.mono J2).st (g.mono J2).wa Xf) ?_)))))));rintro _ w ⟨H7,nv,e7,kP,rfl,hQ7,hs⟩;obtain ⟨Ul,rfl⟩:=hQ7.uniq hQx;have tF:=J2.trans kP;have Pr:=Vu.bd;have V9: -200000000≤nv∧nv≤200000000:=by rw [Ul];split<;>omega
    have QY:(i:Int)=0→nv=xk.lo:=fun h=>by rw [Ul,if_neg (by simp;omega)]
    have uz:(i:Int)=1→nv=xk.hi:=fun h=>by rw [Ul,if_pos (by simp;omega)]
    clear Ul;refine .z zm (.z zex (.z zex (.z zg (.zn zg (.cut (fun fs w=>∃H8:bG,mT fs ⟨292,[],[(20,I nv),(17,I (i:Int)),(16,Pt ui),(14,Pt ka),(12,.slice atb L.length ctb),(11,Pt sO),(10,I (k:Int)),(9,Pt b9),(8,Pt b8),(6,Pt b6),(2,Pt b2)]⟩∧HLe H4 H8∧St H8 w [.blk ui [I 1,I 0,I (k:Int)],.blk ka [I dl,I dh],.blk sO [I (lg0 r 0).dlo,I (lg0 r 0).dhi],.blk b9 [.slice ar r.length cr],.blk b8 (lnC l (.slice at_ l.table.length ct) (.slice dm l.seasons.length cs)),.blk b6 (svC s (.slice aa s.sp.st.length ca) (.slice ab s.sp.wa.length cb) (.slice ac s.rs.length cc) (.slice ad s.cs.length cd)),.blk b2 [vs,v5,v4,vp,I x.y1,I x.y2,I x.y3,vn,vg,I x.m1,I x.m2,I x.z1,I x.z2,I x.z3]]) ?_ ?_)))))
    ·refine .ae (.z zm (.z ez ?_));rw [decide_eq_true rfl];refine .z zm (.T (.z zm (.T (.z ez ?_))));rw [decide_eq_true rfl];refine .z zpF (.z zm (.T (.y hs (zls [_,_,_,_,_,_,_,_] aP aC) (.T (.y hs (zls [_] oU fA) (.T (.o (.call call65 rfl (kH (s:=s) hs (g.mono tF).st (g.mono tF).wa (g.mono tF).rd (g.mono tF).cm (Xf.mono kP)) ?_))))))));rintro _ w ⟨H8,e8,iQ,rfl,hC8,hs⟩;obtain rfl:=hC8.uniq hCx;have yL:=tF.trans iQ;refine .T (.z ez ?_);rw [decide_eq_true rfl];refine .z zpF (.z zm (.T (.z zm (.T (.z ik (.T (.z zm (.iY (t':=129) rfl (fun S8=>?_) (fun S8=>?_)))))))))
     ·refine .T (.z zm (.T (.z zm (.T (.z zm (.T (.ixX (enc:=Rng.c) hs (Ae.mono yL) rfl rfl cn aD Pq rfl ?_)))))));intro b133 o133 SW;refine .T (.z (zfa bh) (.T (.q hs (aR rfl aj (SW.get 0 rfl)) (.T (.z ez ?_)))));rw [decide_eq_true (QY eE)];refine .T (.z zpT (.z zpF (.z zm (.T (.z zm (.T (.z ik (.T (.z zm (.iY (t':=142) rfl (fun Kr=>?_) (fun Kr=>?_)))))))))))
      ·refine .T (.z zm (.T (.z zm (.T (.z zm (.T (.ixX (enc:=Rng.c) hs (Ae.mono yL) rfl rfl cn aD Pq rfl ?_)))))));intro X2 o146 Ke;refine .T (.z (zfa bu) (.T (.q hs (aR rfl aj (Ke.get 1 rfl)) (.T (.z ez ?_)))));rw [decide_eq_true (uz eE)];exact .T (.z zpT (.zn zpF (.cF (.skip (nT ⟨_,aW,yL,hs.sb⟩)))))
      ·exact .Fs 7 28 true (.T (.z zpF (.zn zpF (.cF (.skip (nT ⟨_,aW,yL,hs.sb⟩))))))
     ·refine .Fs 7 15 true (.T (.z zpF (.z zpF (.z zm (.T (.z zm (.T (.z ik (.T (.z zm (.iY (t':=142) rfl (fun Kr=>?_) (fun Kr=>?_))))))))))))
      ·refine .T (.z zm (.T (.z zm (.T (.z zm (.T (.ixX (enc:=Rng.c) hs (Ae.mono yL) rfl rfl cn aD Pq rfl ?_)))))));intro X2 o146 Ke;refine .T (.z (zfa bu) (.T (.q hs (aR rfl aj (Ke.get 1 rfl)) (.T (.z ez ?_)))));rw [decide_eq_true (uz eE)];exact .T (.z zpT (.zn zpF (.cF (.skip (nT ⟨_,aW,yL,hs.sb⟩)))))
      ·exact .Fs 7 28 true (.T (.z zpF (.zn zpF (.cF (.skip (nT ⟨_,aW,yL,hs.sb⟩))))))
    ·clear hs;rintro fs w ⟨H8,iR,iQ,hs⟩;refine WE.sub ?_ iR;clear iR;refine .seq (.draw mix rfl hs fun w hs=>?_);refine .zw 0 rfl zm ?_;refine .z 1 rfl (zfa bh) ?_;refine .y 2 rfl hs aj ?_;refine .z 4 rfl zm ?_;refine .z 5 rfl (zfa bu) ?_;refine .y 6 rfl hs aj ?_;refine .E 3 hs ?_;refine .call call52 rfl (fF hs ai ai) ?_;rintro _ w ⟨rfl,hs⟩;refine .go (.E 7 hs ?_);refine .call call52 rfl (fF hs ai ai) ?_;rintro _ w ⟨rfl,hs⟩;refine .go (.zw 8 rfl G5 ?_);refine .z 9 rfl zg ?_;refine .D hs ?_;refine .seq (.draw mix rfl hs fun w hs=>?_);refine .zw 0 rfl zm ?_;refine .z 1 rfl (zfa bh) ?_;refine .y 2 rfl hs aj ?_;refine .z 4 rfl zm ?_;refine .z 5 rfl (zfa bu) ?_;refine .y 6 rfl hs aj ?_;refine .E 3 hs ?_;refine .call call52 rfl (fF hs ai ai) ?_;rintro _ w ⟨rfl,hs⟩;refine .go (.E 7 hs ?_);refine .call call52 rfl (fF hs ai ai) ?_;rintro _ w ⟨rfl,hs⟩;refine .go (.zw 8 rfl IJ ?_);refine .z 9 rfl zg ?_;refine .D hs ?_;refine .ae (.z zm (.z ik (.z zm (.iY (t':=172) rfl (fun S4=>?_) (fun S4=>?_)))))
     ·refine .T (.z (zfa bh) (.T (.y hs (zld aj) (.T (.z zm (.T (.z ez ?_)))))));rw [decide_eq_true (by rw [hdl,QY eE];rfl)];refine .z zpT (.z zm (.T (.z zm (.T (.z ik (.T (.z zm (.iY (t':=181) rfl (fun Ko=>?_) (fun Ko=>?_)))))))))
      ·refine .T (.z (zfa bu) (.T (.y hs (zld aj) (.T (.z zm (.T (.z ez ?_)))))));rw [decide_eq_true (by rw [Zg,uz eE];rfl)];exact .T (.z zpT (.zn zpF (.cF (.skip (nB (nT (.region (.z zm (.z cD (.zn zg (nT ⟨(i+1,H8),.dc rfl bB aW,⟨by dsimp only;omega,iQ,hs.sb⟩,by dsimp only;omega⟩)))))))))))
      ·exact .Fs 4 11 true (.T (.z zpF (.zn zpF (.cF (.skip (nB (nT (.region (.z zm (.z cD (.zn zg (nT ⟨(i+1,H8),.dc rfl bB aW,⟨by dsimp only;omega,iQ,hs.sb⟩,by dsimp only;omega⟩))))))))))))
     ·refine .Fs 4 2 true (.z zpF (.z zm (.T (.z zm (.T (.z ik (.T (.z zm (.iY (t':=181) rfl (fun Ko=>?_) (fun Ko=>?_))))))))))
      ·refine .T (.z (zfa bu) (.T (.y hs (zld aj) (.T (.z zm (.T (.z ez ?_)))))));rw [decide_eq_true (by rw [Zg,uz eE];rfl)];exact .T (.z zpT (.zn zpF (.cF (.skip (nB (nT (.region (.z zm (.z cD (.zn zg (nT ⟨(i+1,H8),.dc rfl bB aW,⟨by dsimp only;omega,iQ,hs.sb⟩,by dsimp only;omega⟩)))))))))))
      ·exact .Fs 4 11 true (.T (.z zpF (.zn zpF (.cF (.skip (nB (nT (.region (.z zm (.z cD (.zn zg (nT ⟨(i+1,H8),.dc rfl bB aW,⟨by dsimp only;omega,iQ,hs.sb⟩,by dsimp only;omega⟩))))))))))))
   ·exact .exit (xT (xT (xB (nT ⟨_,aW,by first|exact HLe.refl _|assumption,hs.sb⟩))))
  ·exact .skip (nT ⟨_,aW,by first|exact HLe.refl _|assumption,hs.sb⟩)
 ·clear hs;rintro fs w ⟨H5,iR,ek,hs⟩;refine WE.sub ?_ iR;clear iR;replace g:=g.mono ek;replace gl:=gl.mono ek;replace jz:=jz.mono ek;have wx:=gU.trans ek;refine .ae (.y hs (zls [_,_,_,_,_,_,_,_] aP aC) (.y hs (zls [_,_,_,_] cj bj) (.y hs (zls [_] dV bY) (.z (zfa cP) (.y hs (zls [_,_] bK aD) (.o (.call call24 rfl (kN (s:=s) (l:=l) (r:=r) (m:=x.mass) hs g gl jz) ?_)))))));rintro _ w ⟨H6,va,bs,e6,iw,rfl,IE,hA,hs⟩;obtain ⟨Z2,ZU,rfl⟩:=RI.shape IE;replace g:=g.mono iw;replace gl:=gl.mono iw;replace jz:=jz.mono iw;refine .z zm (.z zex (.z zex (.z zg (.zn zg (.ae (.y hs (zls [_] dV bY) (.z (zfa cP) (.y hs (zls [_,_] bK aD) (.o (.call call43 rfl (o9 (r:=r) (m:=x.mass) hs jz) ?_))))))))));rintro _ w ⟨H7,vm,ml,e7,kP,rfl,Oj,Fa,hs⟩;obtain ⟨Ep,En,rfl⟩:=Oj.shape;replace g:=g.mono kP;replace gl:=gl.mono kP;replace jz:=jz.mono kP;replace IE:=RI.mono IE kP;have wv:=wx.trans (iw.trans kP);refine .z zm (.z zex (.z zex (.z zg (.zn zg (.seq (.ae (.z zm (.zn ez (.dz rfl (fun SK=>?_) (fun SK=>?_))))))))))
  ·exact .ae (.zn zg (.ret (rT (Fin.bw results14 rfl ⟨rfl,H7,wv,hs.out⟩))))
  ·refine .skip (nT (.seq (.ae (.z zm ?_))));obtain rfl:e6=0:=by omega
   obtain ⟨ks,hB⟩:=Qw hA;have Dp:=hB.ok'.2.2.2.1;obtain ⟨rfl,rfl⟩:=Ph nI Dp Fa;obtain ⟨-,CC,has⟩:=K9 hA hB;have Sf:=nU x.mass r r.length;refine .z ez ?_;rw [decide_eq_true rfl];refine .z zm (.T (.z zm (.T (.z (de af) (.T (.z (zfa bT) (.T (.y hs (zld fB) (.T (.z (de a8) (.T (.z ez ?_))))))))))));rw [decide_eq_true ai];refine .z zpF (.z zm (.T (.z zm (.T (.z (de cn) (.T (.z zm (.T (.z (de af) (.T (.z cD (.T (.z ez ?_)))))))))))));rw [decide_eq_true ai];refine .zn zpF (.cF (.skip (nT (.seq (.ae (.zn zg (.block ?_)))))));refine .loop (fun p:Nat×bG=>⟨292,[],[(28,I (p.1:Int)),(26,.slice Ep (msL x.mass r r.length).length En),(24,.slice Z2 bs.length ZU),(9,Pt b9),(8,Pt b8),(6,Pt b6)]⟩)
    (fun p w=>p.1≤r.length∧HLe H7 p.2∧St p.2 w [.blk b9 [.slice ar r.length cr],.blk b8 (lnC l (.slice at_ l.table.length ct) (.slice dm l.seasons.length cs)),.blk b6 (svC s (.slice aa s.sp.st.length ca) (.slice ab s.sp.wa.length cb) (.slice ac s.rs.length cc) (.slice ad s.cs.length cd))]) (fun p=>r.length - p.1) (0,H7) aW
    ⟨Nat.zero_le _,HLe.refl _,hs.sb⟩ ?_
   rintro ⟨c,H8⟩ w ⟨hc,iQ,hs⟩;dsimp only at hc iQ hs ⊢;have Sn:=wv.trans iQ;refine .seq (.ae (.z zm (.z zm (.z (de af) (.zn ju (.cg rfl (fun SJ=>?_) (fun SJ=>?_)))))))
   ·refine .skip (nT (.seq (.block ?_)));have ob:c<r.length:=by omega
    have YJ:=mH (l:=r) ob;have Wx:=(nI.leg c ob).1.dense;have Wc:=BF Dp (fun i hi=>(nI.leg i hi).1) (i:=c) ai;obtain ⟨lo,hi,UF,hac⟩:=has c ob;obtain ⟨q,hq,EZ⟩:=hB.mark ob;rw [hq,Int.toNat_natCast] at UF;obtain ⟨Pz,JV⟩:=K8 (OZ Wx UF) Wc;rw [←hac] at Pz JV;refine .seq (.draw mix rfl hs fun w hs=>?_);refine .zw 0 rfl (zfa aK) ?_;refine .ys 1 rfl hs [_,_,_,_,_,_] bC aT ?_;refine .ys 2 rfl hs [_,_,_,_] cj bj ?_;refine .z 3 rfl (zfa bT) ?_;refine .y 4 rfl hs fB ?_;refine .z 5 rfl zm ?_;refine .ixX (enc:=Lg.c) (i:=6) hs rfl az .none (jz.mono iQ) rfl rfl a8 bk YJ rfl ?_;intro b237 o237 SI;refine .r (i:=7) hs rfl az .none (bH (vs:=lgC (lg0 r c)) rfl fa bk SI) ?_;refine .E 8 hs ?_;refine .call call47 rfl (pa (s:=s.sp) (l:=l) (x:=lg0 r c) hs (g.mono iQ).st (g.mono iQ).wa (gl.mono iQ).tb (gl.mono iQ).sn) ?_;rintro _ w ⟨H9,kk,e9,Aa,rfl,h9,hs⟩;obtain ⟨rfl,rfl⟩:=Gf hB ob h9;have k9:=iQ.trans Aa;refine .go (.zw 9 rfl zm ?_);refine .z 10 rfl zex ?_;refine .z 11 rfl zex ?_;refine .z 12 rfl zg ?_;refine .z 13 rfl zg ?_;refine .D hs ?_;refine .seq (.draw mix rfl hs fun w hs=>?_);refine .ys 0 rfl hs [_,_,_,_,_,_,_,_] aP aC ?_;refine .z 1 rfl zm ?_;refine .z 2 rfl (zfa bT) ?_;refine .y 3 rfl hs fB ?_;refine .z 4 rfl zm ?_;refine .ixX (enc:=Lg.c) (i:=5) hs rfl az .none (jz.mono k9) rfl rfl a8 bk YJ rfl ?_;intro b248 o248 SH;refine .zw 6 rfl (zfa dJ) (.r (i:=7) hs rfl az .none (bH (vs:=[I (lg0 r c).dlo,I (lg0 r c).dhi]) rfl bK aD (SH.sub 3 _)) ?_);refine .e2 (i:=8) (j:=12) az rfl rfl rfl rfl .none .none hs ?_ ?_
    ·rw [hq];refine .call call58 rfl (eI (s:=s) (k:=(q:Int)) (x:=(lg0 r c).dlo) (y:=(lg0 r c).dhi) hs (g.mono k9)) ?_;rintro _ w ⟨H10,dl2,dh2,e10,qi,rfl,Qd,hs⟩;obtain ⟨rfl,Xh⟩:=zb aJ om EZ Wx Qd;obtain ⟨rfl,rfl,-⟩:=Xh.uniq UF;have ft:=k9.trans qi;refine .go (.zw 9 rfl zm ?_);refine .z 10 rfl zex ?_;refine .z 11 rfl zex ?_;refine .E 12 hs ?_;refine .alloc hs cS rfl ?_;intro Lt w hs;refine .go (.E 13 hs ?_);refine .aE (vs:=[_,_]) hs rfl rfl aD ?_;intro w hs;refine .go (.zw 14 rfl zg ?_);refine .D hs ?_;refine .seq (.draw mix rfl hs fun w hs=>?_);refine .zw 0 rfl zm ?_;refine .z 1 rfl ez ?_;rw [decide_eq_true rfl];refine .zw 2 rfl zm ?_;refine .z 3 rfl zm ?_;refine .z 4 rfl ez ?_;rw [decide_eq_true rfl];refine .zw 5 rfl zpF ?_;refine .z 6 rfl zm ?_;refine .z 7 rfl zm ?_;refine .z 8 rfl zm ?_;refine .ixX (enc:=fun x=>[I x]) (i:=9) hs rfl az (.some rfl rfl) (RI.mono IE ft) rfl rfl af ak (bL (l:=bs) (i:=c) ai) rfl ?_;intro XZ o263 Dx;replace Dx:=bN.one Dx;refine .y 10 rfl hs aj ?_;refine .z 11 rfl ik ?_;refine .z 12 rfl zm ?_;refine .z 13 rfl zm ?_;refine .ixX (enc:=Rng.c) (i:=14) hs rfl az (.some rfl rfl) (Oj.mono ft) rfl rfl cn aD (sy x.mass r (k:=r.length) (i:=c) ai) rfl ?_;intro XY o268 Ka;refine .zw 15 rfl (zfa bh) (.r (i:=16) hs rfl az (.some rfl rfl) (aR rfl aj (Ka.get 0 rfl)) ?_);refine .zw 17 rfl (zfa bu) ?_;refine .y 18 rfl hs aj ?_;refine .z 19 rfl nJ ?_;refine .zw 20 rfl (L9 rfl rfl runUnderlying4) ?_;rw [decide_eq_decide.2 Pz,beq_self_eq_true];refine .zw 21 rfl zpF ?_;refine .z 22 rfl zm ?_;refine .z 23 rfl zm ?_;refine .z 24 rfl zm ?_;refine .ixX (enc:=fun x=>[I x]) (i:=25) hs rfl az (.some rfl rfl) (RI.mono IE ft) rfl rfl af ak (bL (l:=bs) (i:=c) ai) rfl ?_;intro XX o279 Dw;replace Dw:=bN.one Dw;refine .y 26 rfl hs aj ?_;refine .z 27 rfl ik ?_;refine .z 28 rfl zm ?_;refine .z 29 rfl zm ?_;refine .ixX (enc:=Rng.c) (i:=30) hs rfl az (.some rfl rfl) (Oj.mono ft) rfl rfl cn aD (sy x.mass r (k:=r.length) (i:=c) ai) rfl ?_;intro XW o284 J9;refine .zw 31 rfl (zfa bu) (.r (i:=32) hs rfl az (.some rfl rfl) (aR rfl aj (J9.get 1 rfl)) ?_);refine .zw 33 rfl (zfa bh) ?_;refine .y 34 rfl hs aj ?_;refine .z 35 rfl sY ?_;refine .zw 36 rfl (L9 rfl rfl runUnderlying4) ?_;rw [decide_eq_decide.2 JV,beq_self_eq_true];refine .zw 37 rfl zpF ?_;refine .D hs ?_;exact (.cF (.skip (nB (nT (.region (.z zm (.z cD (.zn zg (nT ⟨(c+1,H10),.dc rfl bB aW,⟨by dsimp only;omega,ft,hs.sb⟩,by dsimp only;omega⟩)))))))))
    ·refine .alloc hs cS rfl ?_;intro Lt w hs;refine .go (.E 8 hs ?_);rw [hq];refine .call call58 rfl (eI (s:=s) (k:=(q:Int)) (x:=(lg0 r c).dlo) (y:=(lg0 r c).dhi) hs (g.mono k9)) ?_;rintro _ w ⟨H10,dl2,dh2,e10,qi,rfl,Qd,hs⟩;obtain ⟨rfl,Xh⟩:=zb aJ om EZ Wx Qd;obtain ⟨rfl,rfl,-⟩:=Xh.uniq UF;have ft:=k9.trans qi;refine .go (.zw 9 rfl zm ?_);refine .z 10 rfl zex ?_;refine .z 11 rfl zex ?_;refine .E 13 hs ?_;refine .aE (vs:=[_,_]) hs rfl rfl aD ?_;intro w hs;refine .go (.zw 14 rfl zg ?_);refine .D hs ?_;refine .seq (.draw mix rfl hs fun w hs=>?_);refine .zw 0 rfl zm ?_;refine .z 1 rfl ez ?_;rw [decide_eq_true rfl];refine .zw 2 rfl zm ?_;refine .z 3 rfl zm ?_;refine .z 4 rfl ez ?_;rw [decide_eq_true rfl];refine .zw 5 rfl zpF ?_;refine .z 6 rfl zm ?_;refine .z 7 rfl zm ?_;refine .z 8 rfl zm ?_;refine .ixX (enc:=fun x=>[I x]) (i:=9) hs rfl az (.some rfl rfl) (RI.mono IE ft) rfl rfl af ak (bL (l:=bs) (i:=c) ai) rfl ?_;intro XZ o263 Dx;replace Dx:=bN.one Dx;refine .y 10 rfl hs aj ?_;refine .z 11 rfl ik ?_;refine .z 12 rfl zm ?_;refine .z 13 rfl zm ?_;refine .ixX (enc:=Rng.c) (i:=14) hs rfl az (.some rfl rfl) (Oj.mono ft) rfl rfl cn aD (sy x.mass r (k:=r.length) (i:=c) ai) rfl ?_;intro XY o268 Ka;refine .zw 15 rfl (zfa bh) (.r (i:=16) hs rfl az (.some rfl rfl) (aR rfl aj (Ka.get 0 rfl)) ?_);refine .zw 17 rfl (zfa bu) ?_;refine .y 18 rfl hs aj ?_;refine .z 19 rfl nJ ?_;refine .zw 20 rfl (L9 rfl rfl runUnderlying4) ?_;rw [decide_eq_decide.2 Pz,beq_self_eq_true];refine .zw 21 rfl zpF ?_;refine .z 22 rfl zm ?_;refine .z 23 rfl zm ?_;refine .z 24 rfl zm ?_;refine .ixX (enc:=fun x=>[I x]) (i:=25) hs rfl az (.some rfl rfl) (RI.mono IE ft) rfl rfl af ak (bL (l:=bs) (i:=c) ai) rfl ?_;intro XX o279 Dw;replace Dw:=bN.one Dw;refine .y 26 rfl hs aj ?_;refine .z 27 rfl ik ?_;refine .z 28 rfl zm ?_;refine .z 29 rfl zm ?_;refine .ixX (enc:=Rng.c) (i:=30) hs rfl az (.some rfl rfl) (Oj.mono ft) rfl rfl cn aD (sy x.mass r (k:=r.length) (i:=c) ai) rfl ?_;intro XW o284 J9;refine .zw 31 rfl (zfa bu) (.r (i:=32) hs rfl az (.some rfl rfl) (aR rfl aj (J9.get 1 rfl)) ?_);refine .zw 33 rfl (zfa bh) ?_;refine .y 34 rfl hs aj ?_;refine .z 35 rfl sY ?_;refine .zw 36 rfl (L9 rfl rfl runUnderlying4) ?_;rw [decide_eq_decide.2 JV,beq_self_eq_true];refine .zw 37 rfl zpF ?_;refine .D hs ?_;exact (.cF (.skip (nB (nT (.region (.z zm (.z cD (.zn zg (nT ⟨(c+1,H10),.dc rfl bB aW,⟨by dsimp only;omega,ft,hs.sb⟩,by dsimp only;omega⟩)))))))))
   ·exact .exit (xT (xT (xB (nT (.ae (.zn zg (.ret (Fin.bw results14 rfl ⟨rfl,_,by first|assumption|exact wv.trans iQ,hs.out⟩))))))))
theorem KF(ss:List Ssn)(s:Ssn)(zone y:Int):lz ss zone y≤lz (ss++[s]) zone y:=by
 rw [sJ];split<;>omega
theorem BZ{t:List Fbd}{ss':List Ssn}{n:Int}{p:Bool}(h:zt ⟨a,b,t,ss⟩ n p):zt ⟨a,b,t,ss'⟩ n p:=by
 cases h with
 |at_ hi h=>exact .at_ (l:=⟨a,b,t,ss'⟩) hi h
 |mid hi h0 h1 h2=>exact .mid (l:=⟨a,b,t,ss'⟩) hi h0 h1 h2
 |none h h1=>exact .none (l:=⟨a,b,t,ss'⟩) h h1
theorem GQ{l:List Int}{h g:Int}(p:Cs l h a)(q:Cs l g b)(hg:g≤h):b≤a:=by
 have h1:=p.min q;rw [show min h g=g by omega] at h1;have:=h1.uniq q;omega
theorem My{t:List Fbd}{s:Ssn}(h:fo ⟨a,b,t,ss⟩)(hn:ss.length≤4)(hs:D5 s):fo ⟨a,b,t,ss++[s]⟩:=
 ⟨h.length,h.depth,h.many,by simp;omega,h.table,fun x hx=>by
  rcases List.mem_append.1 hx with g|g
  ·exact h.seasons x g
  ·obtain rfl:=List.mem_singleton.1 g;exact hs⟩
theorem yz{s:Spc}(AQ:eZ s)(hl:fo l){z d k e:Int}(hz:1≤z∧z≤20)(hd:0≤d∧d≤100000)(h:D8 s l z d k e):
  (e=3∧∃b,zt l b false)∨(∃n,zt l n true∧((e=66∧Cs s.wa (l.depth - n - lz l.seasons z (1+d%365)) (-1))∨(e=0∧Cs s.wa (l.depth - n - lz l.seasons z (1+d%365)) k))):=by
 have Wy:G0 l z d 0:= .ok hl hz hd
 cases h with
 |space h=>exact (h AQ).elim
 |bad _ h he=>
  cases h with
  |bad h ge=>exact (ge (h.uniq Wy)).elim
  |none _ h=>exact .inl ⟨rfl,_,h⟩
  |ok=>exact (he rfl).elim
 |above _ h hk=>
  generalize h0:(0:Int)=e0 at h
  cases h with
  |bad _ ge=>exact (ge h0.symm).elim
  |none=>omega
  |ok _ h=>exact .inr ⟨_,h,.inl ⟨rfl,hk⟩⟩
 |ok _ h hk hn=>
  generalize h0:(0:Int)=e0 at h
  cases h with
  |bad _ ge=>exact (ge h0.symm).elim
  |none=>omega
  |ok _ h=>exact .inr ⟨_,h,.inr ⟨rfl,hk⟩⟩
theorem Jz{s:Spc}{t:List Fbd}{x:Ssn}(AQ:eZ s)(hl:fo ⟨a,b,t,ss⟩)(Sp:fo ⟨a,b,t,ss++[x]⟩){z d k e k' e':Int}(hz:1≤z∧z≤20)(hd:0≤d∧d≤100000)
  (h:D8 s ⟨a,b,t,ss⟩ z d k e) (g:D8 s ⟨a,b,t,ss++[x]⟩ z d k' e'):(e=0→e'≠0→e'=66)∧(e≠0→e'=e)∧(e'=0→k'≤k):=by
 have hx:=KF ss x z (1+d%365)
 rcases yz AQ hl hz hd h with ⟨rfl,n,h1⟩|⟨n,h1,h2⟩
 ·rcases yz AQ Sp hz hd g with ⟨rfl,n',g1⟩|⟨n',g1,g2⟩
  ·exact ⟨ai,fun _=>rfl,ai⟩
  ·cases ((BZ h1).uniq Sp g1).2
 ·rcases yz AQ Sp hz hd g with ⟨rfl,n',g1⟩|⟨n',g1,g2⟩
  ·cases ((BZ h1).uniq Sp g1).2
  ·obtain ⟨rfl,-⟩:=(BZ h1).uniq Sp g1
   rcases h2 with ⟨rfl,h2⟩|⟨rfl,h2⟩<;>rcases g2 with ⟨rfl,g2⟩|⟨rfl,g2⟩
   ·exact ⟨ai,fun _=>rfl,ai⟩
   ·have:=GQ h2 g2 (by dsimp only;omega);generalize h0:(0:Int)=e0 at g
    cases g with
    |ok _ _ _ hn=>omega
    |space=>omega
    |bad _ _ he=>exact (he h0.symm).elim
    |above=>omega
   ·exact ⟨ai,ai,ai⟩
   ·have:=GQ h2 g2 (by dsimp only;omega);exact ⟨ai,ai,fun _=>this⟩
structure TL(a b:Lg):Prop where
 zone:a.zone=b.zone
 fr:a.fr=b.fr
 to:a.to=b.to
 one:a.dlo=a.dhi
 dense:b.dlo≤a.dlo∧a.dlo≤b.dhi
 blo:a.blo=b.blo
 bhi:a.bhi=b.bhi
theorem TL.low{wa:List Int}{a b:Lg}(h:TL a b){k e:Int}(g:uC wa l b k e):uC wa l a k e:=by
 have hd:og b=og a:=by unfold og;rw [h.fr,h.to]
 cases g with
 |none g=>exact .none g
 |above g hk=>rw [←h.zone,←h.fr,hd] at hk;exact .above g hk
 |ok g hk hn=>rw [←h.zone,←h.fr,hd] at hk;exact .ok g hk hn
theorem OU{q r:List Lg}(hr:oP r)(hn:q.length=r.length)(h:∀i<r.length,TL (lg0 q i) (lg0 r i)):oP q:=
 ⟨by rw [hn];exact hr.many,fun i hi=>by
  have vB:i<r.length:=by omega
  obtain ⟨g,g1⟩:=hr.leg i vB;have ht:=h i vB;refine ⟨⟨by rw [ht.zone];exact g.zone,by rw [ht.fr,ht.to];exact g.fr,by rw [ht.to];exact g.to,?_,by rw [ht.blo,ht.bhi];exact g.burn⟩,fun h0=>?_⟩
  ·have:=g.dense;have:=ht.dense;have:=ht.one;unfold eF at*;omega
  ·rw [(h (i - 1) ai).to,ht.fr];exact g1 h0⟩
theorem IW{v w:Srv}(hle:LeV v w)(hw:cR w){k:Nat}{x y d lo hi lo' vB:Int}(hd:eF x y)(h1:x≤d)(h2:d≤y)(h:kb v k x y lo hi 0)(g:kb w k d d lo' vB 0):lo≤lo':=by
 generalize h0:(0:Int)=e0 at h
 cases h with
 |fls _ he=>exact (he h0.symm).elim
 | @ok a b h=>
  clear h0;generalize h0:(0:Int)=e0 at g
  cases g with
  |fls _ he=>exact (he h0.symm).elim
  | @ok a' b' g=>
   clear h0;have hab:a≤a':=by
    by_cases e:k=0
    ·subst e;rw [(ER h).1,(ER g).1];exact Int.le_refl _
    ·exact ((Hm (BL h ai) hle hw (BL g ai)).2 rfl).1
   unfold eF at hd;have e1:=(DH (n:=a) h1 h2).1;have e2:=y8 (d:=d) hab ai;unfold ta;omega
theorem vZ{f g:Nat→Int}:∀{n:Nat},(∀i<n,f i=g i)→aM f n=aM g n
 |0,_=>rfl
 |n+1,h=>by simp only [aM];rw [vZ fun i hi=>h i ai,h n ai]
theorem Ht{v w:Srv}{r q:List Lg}{m':Rng}{g:Int}(h:GZ v l r m 1 0)(hle:LeV v w)(hw:cR w)(hn:q.length=r.length)(ht:∀i<r.length,TL (lg0 q i) (lg0 r i))
  (hm:eK m'.lo m'.hi) (JZ:m'.hi≤m.hi) (k:GZ w l q m' b g):g=35∨(g=0∧b=1):=by
 obtain ⟨ks,hB,hv⟩:∃ks,oQ v l r m ks 0∧v.sys.Sound:=by
  rcases h.err with ⟨_,_,g⟩|⟨_,_,_,g⟩|⟨ks,g,g1,_⟩
  ·exact (g rfl).elim
  ·omega
  ·exact ⟨ks,g,g1⟩
 have Pp:=(h.yes hB hv).2.1 rfl;obtain ⟨aJ,hl,nI,Un,sV,tE⟩:=hB.ok';have ZR:oQ w l q m' ks 0:= .ok hw hl (OU nI hn ht) hm ai fun i hi=>by
  rw [←hle.sp];exact (ht i ai).low (tE i ai)
 cases k with
 |bad k he=>
  cases k with
  |bad k=>exact (he (k.uniq ZR).2).elim
  |fls=>exact .inl rfl
  |ok=>exact (he rfl).elim
 | @ok dm k=>
  refine .inr ⟨rfl,(Qv k).2 fun i hi=>?_⟩;obtain ⟨-,CC,has⟩:=K9 k ZR;have vB:i<r.length:=by omega
  obtain ⟨lo',Wo,ZC,e⟩:=has i ai;obtain ⟨lo,hi0,hS,hmh⟩:=Pp i vB;have VD:=ht i vB;rw [←VD.one] at ZC;have w7:=IW hle hw (nI.leg i vB).1.dense VD.dense.1 VD.dense.2 hS ZC;have hb:∀j<i,0≤(lg0 r j).blo:=fun j hj=>by have:=(nI.leg j ai).1.burn;unfold eK at this;omega
  unfold eK at hm Un;rw [e,um,EL ai fun j hj=>by rw [(ht j ai).blo];exact hb j hj];rw [EL ai hb] at hmh;rw [vZ (g:=fun j=>(lg0 r j).blo) fun j hj=>(ht j ai).blo];omega
theorem HD{v:Srv}{r:List Lg}(h:GZ v l r m a e)(aJ:cR v)(hl:fo l)(hr:oP r)(hm:¬eK m.lo m.hi):e=63:=by
 have key:∀{ks:List Int} {e:Int},oQ v l r m ks e→e=63:=fun g=>by
  cases g with
  |bad g ge=>exact (ge (g.cO.2 aJ)).elim
  |lines _ g=>exact (g hl).elim
  |route _ _ g=>exact (g hr).elim
  |mass=>rfl
  |low _ _ _ g=>exact (hm g).elim
  |ok _ _ _ g=>exact (hm g).elim
 rcases h.err with ⟨_,g,_⟩|⟨_,g,_⟩|⟨_,g,_⟩
 ·exact key g
 ·have:=key g;omega
 ·have:=key g;omega
theorem QF{u:Value}{xs:List Lg}(h:RLg H u xs):Src P H σ 7 u xs.length (lgc xs).flatten:=by have:=Src.rs (P:=P) (σ:=σ) h;rw [List.length_map] at this;exact this
theorem QD{u:Value}{xs:List Ssn}(h:RSn H u xs):Src P H σ 4 u xs.length (snc xs).flatten:=by have:=Src.rs (P:=P) (σ:=σ) h;rw [List.length_map] at this;exact this
theorem DW{α:Type}{enc:α→List Value}(he:∀x,∀v∈enc x,v.oneCell'=true)(xs:List α):∀v∈(xs.map enc).flatten,v.oneCell'=true:=fun v hv=>by
 simp only [List.mem_flatten,List.mem_map] at hv;obtain ⟨c,⟨x,_,rfl⟩,h⟩:=hv;exact he x v h
theorem Mi{m j n:Nat}{cs:List (List Value)}{c:List Value}(hm:∀c∈cs,c.length=m)(hk:cs[k]? =some c)(hj:j+n≤m)(sp:List Value):((cs.flatten++sp).drop (k*m+j)).take n=(c.drop j).take n:=by
 rw [←Ga hm hk sp,List.drop_take,List.take_take,List.drop_drop,show min n (m - j)=n by omega]
theorem HA{R:List Lg}{x:Lg}(h:R[k]? =some x)(d:Int)(sp:List Value):wc ((R.map Lg.c).flatten++sp) (k*7+3) [I d,I d]=((R.set k {x with dlo:=d,dhi:=d}).map Lg.c).flatten++sp:=by
 have hk:=(List.getElem?_eq_some_iff.1 h).1;simp only [wc];rw [CV (enc:=Lg.c) (m:=7) (k:=k) (j:=3) (x':={x with dlo:=d}) (fun _=>rfl) h ef rfl sp,
  show k*7+3+1=k*7+4 from rfl,
  CV (enc:=Lg.c) (m:=7) (k:=k) (j:=4) (x:={x with dlo:=d}) (x':={x with dlo:=d,dhi:=d}) (fun _=>rfl) (by simp [hk]) ef rfl sp,List.set_set]
theorem JE{R:List Lg}(hk:k<R.length)(x:Lg)(i:Nat):lg0 (R.set k x) i=if i=k then x else lg0 R i:=by
 unfold lg0;simp only [List.getD];by_cases e:i=k
 ·subst e;rw [if_pos rfl];simp [hk]
 ·rw [if_neg e,List.getElem?_set_ne ai]
set_option maxHeartbeats 8000000 in
theorem rh{W:World}{x:GV}{n0 n1 n2 n3 n4 n5 s0 s1 s2 s3:Int}(hs:St H W [])(hx:zq H x vs v5 v4 vp vn vg):
  Z4 11 [x.agg vs v5 v4 vp vn vg,.agg #[I n0,I n1,I n2,I n3,I n4,I n5],.agg #[I s0,I s1,I s2,I s3]] W fun v w'=>v= .bool true∧∃H',HLe H H'∧St H' w' []:=by
 refine Cl.o func11 ntmps11 ag3 ?_;refine .ae (.bx hs fun b3 w hs=>?_);refine .bx hs fun b4 w hs=>?_
 refine .bx hs fun b5 w hs=>?_
 refine .zn zg (.ae (.o (.call call18 rfl (mI hs) ?_)));rintro _ w ⟨rfl,H1,aq,hs⟩;replace hx:=hx.mono aq;refine .zn zg (.ae (.y hs (zls [_,_,_,_,_,_,_,_,_,_,_,_,_,_] isAgg44 sizeOf44) (.o (.call call35 rfl (mB hs hx) ?_))));rintro _ w ⟨H2,s,y,aa,ca,ab,cb,ac,cc,ad,cd,ay,cy,l,at_,ct,dm,cs,r,ar,cr,aQ,rfl,hM,hK,g,hY,hL,gl,hR,jz,hs⟩;have dr:=aq.trans aQ;have aJ:=hM.ok;have om:=vz aJ hK;have JQ:=aJ.early.1.st.two;have T9:=aJ.early.1.wa.two;have Px:=hM.st;have hwm:=hM.wa;have Uh:=hR.many;have nI:=hR.ok;have hl:=hL.ok;have Ud:=hL.sns;have JX:=nI.many;refine .z zm (.z zex (.z zex (.z zex (.z zex (.o (.alloc hs eg rfl fun b8 w hs=>?_))))));refine .o (.alloc hs jY rfl fun mU w hs=>?_);refine .o (.alloc hs lF rfl fun sO w hs=>?_);refine .o (.aE (vs:=[_,_,_,_,_,_,_,_]) hs rfl rfl aC fun w hs=>?_);refine .z zg (.o (.aE (vs:=[_,_,_,_]) hs rfl rfl bj fun w hs=>?_));refine .o (.aE (vs:=[_]) hs rfl rfl bY fun w hs=>?_);refine .nil (.ae (.y hs (zls [_,_,_,_,_,_,_,_] aP aC) (.y hs (zls [_,_,_,_] cj bj) (.y hs (zls [_] dV bY) (.z (zfa cP) (.y hs (zls [_,_] bK aD) (.o (.call call26 rfl (kj (s:=s) (l:=l) (r:=r) (m:=x.mass) hs g gl jz) ?_))))))));rintro _ w ⟨H3,a,e,bJ,rfl,hJ,hs⟩;replace g:=g.mono bJ;replace gl:=gl.mono bJ;replace jz:=jz.mono bJ;have eC:=dr.trans bJ;refine .z zm (.z zex (.z zex (.z zg (.zn zg (.seq (.ae (.z (zfa cP) (.y hs (zls [_,_] bK aD) (.o (.call call53 rfl (uS (x:=x.m1) (y:=x.m2) hs) ?_))))))))));rintro _ w ⟨rfl,hs⟩;refine .zn ia (.cond rfl (fun pG=>?_) (fun pG=>?_))
 ·refine .ae (.z zm (.z zm (.T (.z zm (.T ?_)))));have hng:¬eK x.mass.lo x.mass.hi:=by simpa using pG
  refine .z ik ?_;rw [decide_eq_true (HD hJ aJ hl nI hng)];exact .z zpT (.zn zg (.ret (rT (Fin.bw results11 rfl ⟨rfl,H3,eC,hs.out⟩))))
 ·refine .skip (nT ?_);have Dp:eK x.m1 x.m2:=by simpa using pG
  have JZ:=Dp;unfold eK at JZ;have Lo:=fc n0 (m:=(s.sp.st.length:Int)) ai;have PM:=fc n1 (m:=(s.sp.wa.length:Int)) ai;have HK:=fc n2 (m:=3000) ai;have hk3:=fc n3 (m:=500) ai;have hk4:=fc n4 (m:=3) ai;have Ol:lZ s.sp ⟨60,iM n0 (s.sp.st.length:Int),iM n1 (s.sp.wa.length:Int),iM n2 3000,iM n3 500,1+iM n4 3,0⟩:=⟨by dsimp only;omega,by dsimp only;omega,by dsimp only;omega,by dsimp only;omega,by dsimp only;omega,by dsimp only;omega,by dsimp only;omega⟩;have ZA:=Mv hM Ol;refine .cut (fun fs w=>∃ka,mT fs ⟨243,[],[(14,Pt ka),(13,I e),(12,I a),(11,Pt sO),(10,Pt mU),(8,Pt b8),(7,.bool true),(5,Pt b5),(4,Pt b4),(3,Pt b3)]⟩∧St H3 w [.blk ka [I 60,I (iM n0 (s.sp.st.length:Int)),I (iM n1 (s.sp.wa.length:Int)),I (iM n2 3000),I (iM n3 500),I (1+iM n4 3),I 0],.blk sO [.slice ar r.length cr],.blk mU (lnC l (.slice at_ l.table.length ct) (.slice dm l.seasons.length cs)),.blk b8 (svC s (.slice aa s.sp.st.length ca) (.slice ab s.sp.wa.length cb) (.slice ac s.rs.length cc) (.slice ad s.cs.length cd)),.blk b5 [I s0,I s1,I s2,I s3],.blk b4 [I n0,I n1,I n2,I n3,I n4,I n5],.blk b3 [vs,v5,v4,vp,I x.y1,I x.y2,I x.y3,vn,vg,I x.m1,I x.m2,I x.z1,I x.z2,I x.z3]]) ?_ ?_
  ·refine .draw mix rfl hs fun w hs=>?_
   refine .zw 0 rfl (zia 0 cH ak) (.y 1 rfl hs aj ?_);refine .z 2 rfl (zfa aK) ?_;refine .z 3 rfl (zfa bE) ?_;refine .y 4 rfl hs an ?_;refine .z 5 rfl (de af) ?_;refine .zw 7 rfl (zia 1 cH ak) (.y 8 rfl hs aj ?_);refine .z 9 rfl (zfa aK) ?_;refine .z 10 rfl (zfa aZ) ?_;refine .y 11 rfl hs an ?_;refine .z 12 rfl (de af) ?_;refine .zw 14 rfl (zia 2 cH ak) (.zv 15 rfl hs (lO aj) (.zw 17 rfl (zia 3 cH ak) (.zv 18 rfl hs (lO aj) (.zw 20 rfl (zia 4 cH ak) (.zv 21 rfl hs (lO aj) (.e2 (i:=6) (j:=25) az rfl rfl rfl rfl .none .none hs ?_ ?_))))))
   ·refine .call cU rfl (aI hs ai) ?_;rintro _ w ⟨rfl,hs⟩;refine .go (.e2 (i:=13) (j:=25) az rfl rfl rfl rfl .none .none hs ?_ ?_)
    ·refine .call cU rfl (aI hs ai) ?_;rintro _ w ⟨rfl,hs⟩;refine .go (.e2 (i:=16) (j:=25) az rfl rfl rfl rfl .none .none hs ?_ ?_)
     ·refine .call cU rfl (aI hs ai) ?_;rintro _ w ⟨rfl,hs⟩;refine .go (.e2 (i:=19) (j:=25) az rfl rfl rfl rfl .none .none hs ?_ ?_)
      ·refine .call cU rfl (aI hs ai) ?_;rintro _ w ⟨rfl,hs⟩;refine .go (.e2 (i:=22) (j:=25) az rfl rfl rfl rfl .none .none hs ?_ ?_)
       ·refine .call cU rfl (aI hs ai) ?_;rintro _ w ⟨rfl,hs⟩;refine .go (.zw 23 rfl cD ?_);refine .z 24 rfl (zbd [_,_,_,_,_,_,_] dC) ?_;refine .E 25 hs ?_;refine .alloc hs dZ rfl ?_;intro ka w hs;refine .go (.E 26 hs ?_);refine .aE (vs:=[_,_,_,_,_,_,_]) hs rfl rfl bD ?_;intro w hs;exact .go (.D hs (nT ⟨ka,aW,hs.sb⟩))
       ·refine .alloc hs dZ rfl ?_;intro ka w hs;refine .go (.E 22 hs ?_);refine .call cU rfl (aI hs ai) ?_;rintro _ w ⟨rfl,hs⟩;refine .go (.zw 23 rfl cD ?_);refine .z 24 rfl (zbd [_,_,_,_,_,_,_] dC) ?_;refine .E 26 hs ?_;refine .aE (vs:=[_,_,_,_,_,_,_]) hs rfl rfl bD ?_;intro w hs;exact .go (.D hs (nT ⟨ka,aW,hs.sb⟩))
      ·refine .alloc hs dZ rfl ?_;intro ka w hs;refine .go (.E 19 hs ?_);refine .call cU rfl (aI hs ai) ?_;rintro _ w ⟨rfl,hs⟩;refine .go (.E 22 hs ?_);refine .call cU rfl (aI hs ai) ?_;rintro _ w ⟨rfl,hs⟩;refine .go (.zw 23 rfl cD ?_);refine .z 24 rfl (zbd [_,_,_,_,_,_,_] dC) ?_;refine .E 26 hs ?_;refine .aE (vs:=[_,_,_,_,_,_,_]) hs rfl rfl bD ?_;intro w hs;exact .go (.D hs (nT ⟨ka,aW,hs.sb⟩))
     ·refine .alloc hs dZ rfl ?_;intro ka w hs;refine .go (.E 16 hs ?_);refine .call cU rfl (aI hs ai) ?_;rintro _ w ⟨rfl,hs⟩;refine .go (.E 19 hs ?_);refine .call cU rfl (aI hs ai) ?_;rintro _ w ⟨rfl,hs⟩;refine .go (.E 22 hs ?_);refine .call cU rfl (aI hs ai) ?_;rintro _ w ⟨rfl,hs⟩;refine .go (.zw 23 rfl cD ?_);refine .z 24 rfl (zbd [_,_,_,_,_,_,_] dC) ?_;refine .E 26 hs ?_;refine .aE (vs:=[_,_,_,_,_,_,_]) hs rfl rfl bD ?_;intro w hs;exact .go (.D hs (nT ⟨ka,aW,hs.sb⟩))
    ·refine .alloc hs dZ rfl ?_;intro ka w hs;refine .go (.E 13 hs ?_);refine .call cU rfl (aI hs ai) ?_;rintro _ w ⟨rfl,hs⟩;refine .go (.E 16 hs ?_);refine .call cU rfl (aI hs ai) ?_;rintro _ w ⟨rfl,hs⟩;refine .go (.E 19 hs ?_);refine .call cU rfl (aI hs ai) ?_;rintro _ w ⟨rfl,hs⟩;refine .go (.E 22 hs ?_);refine .call cU rfl (aI hs ai) ?_;rintro _ w ⟨rfl,hs⟩;refine .go (.zw 23 rfl cD ?_);refine .z 24 rfl (zbd [_,_,_,_,_,_,_] dC) ?_;refine .E 26 hs ?_;refine .aE (vs:=[_,_,_,_,_,_,_]) hs rfl rfl bD ?_;intro w hs;exact .go (.D hs (nT ⟨ka,aW,hs.sb⟩))
   ·refine .alloc hs dZ rfl ?_;intro ka w hs;refine .go (.E 6 hs ?_);refine .call cU rfl (aI hs ai) ?_;rintro _ w ⟨rfl,hs⟩;refine .go (.E 13 hs ?_);refine .call cU rfl (aI hs ai) ?_;rintro _ w ⟨rfl,hs⟩;refine .go (.E 16 hs ?_);refine .call cU rfl (aI hs ai) ?_;rintro _ w ⟨rfl,hs⟩;refine .go (.E 19 hs ?_);refine .call cU rfl (aI hs ai) ?_;rintro _ w ⟨rfl,hs⟩;refine .go (.E 22 hs ?_);refine .call cU rfl (aI hs ai) ?_;rintro _ w ⟨rfl,hs⟩;refine .go (.zw 23 rfl cD ?_);refine .z 24 rfl (zbd [_,_,_,_,_,_,_] dC) ?_;refine .E 26 hs ?_;refine .aE (vs:=[_,_,_,_,_,_,_]) hs rfl rfl bD ?_;intro w hs;exact .go (.D hs (nT ⟨ka,aW,hs.sb⟩))
  ·rintro fs w ⟨ka,iR,hs⟩;refine WE.sub ?_ iR;clear iR;generalize iM n0 (s.sp.st.length:Int)=k0 at*;generalize iM n1 (s.sp.wa.length:Int)=k1 at*;generalize iM n2 3000=k2 at*;generalize iM n3 500=k3 at*;generalize iM n4 3=k4 at*;refine .ae (.y hs (zls [_,_,_,_,_,_,_,_] aP aC) (.y hs (zls [_,_,_,_,_,_,_] kF bD) (.o (.call call54 rfl (u5 (s:=s) (r:=⟨60,k0,k1,k2,k3,1+k4,0⟩) hs g.st g.wa g.rd g.cm) ?_))));rintro _ w ⟨H4,_,sA,e4,eo,rfl,⟨z1,z2,z3,z4,rfl,q1,q2,q3,q4⟩,hW4,hs⟩;obtain ⟨rfl,rfl⟩:=hW4.uniq (.ok aJ Ol ZA);have gk:SvM H4 (s.add ⟨60,k0,k1,k2,k3,1+k4,0⟩) z1 z2 z3 z4:=⟨q1,q2,q3,q4⟩;have hLe:=TJ s ⟨60,k0,k1,k2,k3,1+k4,0⟩;generalize (⟨60,k0,k1,k2,k3,1+k4,0⟩:Rdg)=rk at*;obtain ⟨z5,z6,rfl⟩:=RI.shape q1;obtain ⟨z7,z8,rfl⟩:=RI.shape q2;obtain ⟨z9,z10,rfl⟩:=RRd.shape q3;obtain ⟨z11,z12,rfl⟩:=RCm.shape q4;clear q1 q2 q3 q4;replace g:=g.mono eo;replace gl:=gl.mono eo;replace jz:=jz.mono eo;have gU:=eC.trans eo;refine .z zm (.z zex (.z zex (.o (.alloc hs eg rfl fun Ch w hs=>?_))));refine .o (.aE (vs:=[_,_,_,_,_,_,_,_]) hs rfl rfl aC fun w hs=>?_);refine .zn zg (.ae (.o (.buildSlice (cells:=[]) hs xi rfl rfl fun b85 w hs=>?_)));refine .z (zfa bT) (.y hs (zld fB) (.o (.append (xs:=[]) hs kI rfl rfl (.full (len:=0) rfl) (QF jz) (DW (enc:=Lg.c) (fun x=>by simp [Lg.c,Value.oneCell']) r) (fun l' h=>by simp at h;obtain rfl:l'=0:=ai;omega) ?_)));intro v88 en88 w hO hs;rw [List.nil_append] at hO;obtain ⟨br,cq,QQ,rfl,rfl,hcq⟩:=hO.Tz (C8 _) ai (by rw [nW];omega);rw [nW] at hO ⊢;refine .z (zbd [_] me) (.o (.alloc hs lF rfl fun GR w hs=>?_));refine .o (.aE (vs:=[_]) hs rfl rfl bY fun w hs=>?_);refine .nil (.seq (.ae (.zn zg (.block ?_))));refine .loop (fun p:Nat×List Lg=>⟨243,[],[(18,I (p.1:Int)),(17,Pt GR),(16,I 0),(15,Pt Ch),(13,I e),(12,I a),(10,Pt mU),(8,Pt b8),(7,.bool true),(5,Pt b5),(4,Pt b4),(3,Pt b3)]⟩)
    (fun p w=>p.1≤r.length∧p.2.length=r.length∧(∀i<p.1,TL (lg0 p.2 i) (lg0 r i))∧(∀i,p.1≤i→lg0 p.2 i=lg0 r i)∧cz 7 (.slice (some ⟨br,0,none⟩) r.length cq) (p.2.map Lg.c).flatten (.blk br ((p.2.map Lg.c).flatten++QQ))∧
     St H4 w [.blk br ((p.2.map Lg.c).flatten++QQ),.blk GR [.slice (some ⟨br,0,none⟩) r.length cq],.blk Ch (svC (s.add rk) (.slice z5 (s.add rk).sp.st.length z6) (.slice z7 (s.add rk).sp.wa.length z8) (.slice z9 (s.add rk).rs.length z10) (.slice z11 (s.add rk).cs.length z12)),
      .blk mU (lnC l (.slice at_ l.table.length ct) (.slice dm l.seasons.length cs)),.blk b8 (svC s (.slice aa s.sp.st.length ca) (.slice ab s.sp.wa.length cb) (.slice ac s.rs.length cc) (.slice ad s.cs.length cd)),.blk b5 [I s0,I s1,I s2,I s3],.blk b4 [I n0,I n1,I n2,I n3,I n4,I n5],.blk b3 [vs,v5,v4,vp,I x.y1,I x.y2,I x.y3,vn,vg,I x.m1,I x.m2,I x.z1,I x.z2,I x.z3]]) (fun p=>r.length - p.1) (0,r) aW
    ⟨Nat.zero_le _,rfl,fun i hi=>(by cases hi),fun i _=>rfl,hO,hs.sb⟩ ?_
   rintro ⟨k,R⟩ w ⟨hk,Q7,VE,oa,hO,hs⟩;dsimp only at hk Q7 VE oa hO hs ⊢;refine .seq (.ae (.z zm (.z (zfa bT) (.y hs (zld fB) (.z (de a8) (.zn ju (.cg rfl (fun SB=>?_) (fun SB=>?_))))))))
   ·refine .skip (nT (.seq (.block ?_)));have sV:k<r.length:=by omega
    have Iv:R[k]? =some (lg0 r k):=by rw [←oa k (Nat.le_refl _)];exact mH ai
    have hdk:=(nI.leg k sV).1.dense;unfold eF at hdk;refine .seq (.draw mix rfl hs fun w hs=>?_);refine .zw 0 rfl (zfa bT) ?_;refine .y 1 rfl hs fB ?_;refine .z 2 rfl zm ?_;first|(refine .ixw 3 rfl hs a8 bk ?_;intro TI o100 wz)|refine .z 3 rfl (CO a8 bk) ?_
    refine .zw 4 rfl (zfa dJ) (.EP (i:=5) (vs:=[I (lg0 r k).dlo,I (lg0 r k).dhi]) hs rfl az .none rfl bK aD ?_ (hv:=Mi (m:=7) (k:=k) (j:=3) (n:=2) (cs:=R.map Lg.c) (c:=(lg0 r k).c) (C8 R) (by simp [Iv]) bB QQ));refine .zw 6 rfl (zia 5 cH ak) (.zv 7 rfl hs (lO aj) (.E 8 hs ?_));refine .call call50 rfl (zY (m:=⟨(lg0 r k).dlo,(lg0 r k).dhi⟩) hs (by dsimp only;omega)) ?_;rintro _ w ⟨dd,rfl,Zh,hs⟩;dsimp only at Zh;refine .go (.zw 9 rfl zg ?_);refine .D hs ?_;refine .region (.z (zfa bT) (.y hs (zld fB) (.z zm (.z zm (.z zm (.z (zbd [_,_] bQ) ?_))))));first|(refine .ixw hs a8 bk ?_;intro TG o112 Ob)|refine .z (CO a8 bk) ?_
    refine .z (zfa dJ) (.o (.aE (vs:=[I dd,I dd]) (c':=((R.set k {lg0 r k with dlo:=dd,dhi:=dd}).map Lg.c).flatten++QQ) hs rfl rfl aD ?_ eJ (K4 (enc:=Lg.c) (m:=7) (k:=k) (j:=4) (fun _=>rfl) ai ef QQ) (HA Iv dd QQ)));intro w hs;refine .nil (nB (nT (.region (.z zm (.z cD (.zn zg (nT ?_)))))));exact ⟨(k+1,R.set k {lg0 r k with dlo:=dd,dhi:=dd}),.dc rfl bB aW,⟨by dsimp only;omega,by rw [List.length_set];exact Q7,fun i hi=>by
     dsimp only at hi ⊢;rw [JE ai];split
     ·next h=>subst h;exact ⟨rfl,rfl,rfl,rfl,Zh,rfl,rfl⟩
     ·exact VE i ai,fun i hi=>by
     dsimp only at hi ⊢;rw [JE ai,if_neg ai];exact oa i ai,Jq (enc:=Lg.c) (fun _=>rfl) hO,hs.sb⟩,by dsimp only;omega⟩
   ·refine .exit (xT (xT (xB (nT ?_))));obtain rfl:k=r.length:=by omega
    obtain ⟨H5,ek,Xj,hs⟩:=cz.bZ (m:=7) (cs:=R.map Lg.c) hO (C8 _) ai (by rw [List.length_map];omega) hs .here;replace Xj:RLg H5 (.slice (some ⟨br,0,none⟩) r.length cq) R:=Xj;replace g:=g.mono ek;replace gl:=gl.mono ek;replace gk:=gk.mono ek;have wx:=gU.trans ek;have YQ:=Int.tdiv_eq_ediv_of_nonneg (a:=x.m1) (b:=2) ai;have J5:=fc n4 (m:=x.m2 - x.m1.tdiv 2+1) ai;refine .seq (.draw mix rfl hs fun w hs=>?_);refine .ys 0 rfl hs [_,_,_,_,_,_,_,_] aP aC ?_;refine .ys 1 rfl hs [_,_,_,_] cj bj ?_;refine .ys 2 rfl hs [_] dV bY ?_;refine .z 3 rfl (zfa cP) ?_;refine .z 4 rfl (zfa bh) ?_;refine .y 5 rfl hs aj ?_;refine .zw 6 rfl (wg rfl rfl ai ai) (.zw 7 rfl (zfa cP) ?_);refine .z 8 rfl (zfa bu) ?_;refine .y 9 rfl hs aj ?_;refine .zw 10 rfl (zia 4 cH ak) (.y 11 rfl hs aj ?_);refine .z 12 rfl (zfa cP) ?_;refine .z 13 rfl (zfa bu) ?_;refine .y 14 rfl hs aj ?_;refine .z 15 rfl (zfa cP) ?_;refine .z 16 rfl (zfa bh) ?_;refine .y 17 rfl hs aj ?_;refine .zw 18 rfl (wg rfl rfl ai ai) (.zw 19 rfl iX ?_);refine .z 20 rfl cD ?_;refine .E 21 hs ?_;refine .call cU rfl (aI hs ai) ?_;rintro _ w ⟨rfl,hs⟩;refine .go (.zw 22 rfl iX ?_);refine .z 23 rfl (zbd [_,_] bQ) ?_;refine .E 24 hs ?_;refine .call call26 rfl (kj (s:=s.add rk) (l:=l) (r:=R) (m:=⟨x.m1.tdiv 2,x.m2 - iM n4 (x.m2 - x.m1.tdiv 2+1)⟩) hs gk gl Xj) ?_;rintro _ w ⟨H6,b,gg,iw,rfl,hJ6,hs⟩;replace g:=g.mono iw;replace gl:=gl.mono iw;have J4:=wx.trans iw;refine .go (.zw 25 rfl zm ?_);refine .z 26 rfl zex ?_;refine .z 27 rfl zex ?_;refine .z 28 rfl zg ?_;refine .z 29 rfl zg ?_;refine .D hs ?_;refine .cut (fun fs w=>mT fs ⟨243,[],[(10,Pt mU),(8,Pt b8),(7,.bool true),(5,Pt b5),(4,Pt b4)]⟩∧St H6 w [.blk mU (lnC l (.slice at_ l.table.length ct) (.slice dm l.seasons.length cs)),.blk b8 (svC s (.slice aa s.sp.st.length ca) (.slice ab s.sp.wa.length cb) (.slice ac s.rs.length cc) (.slice ad s.cs.length cd)),.blk b5 [I s0,I s1,I s2,I s3],.blk b4 [I n0,I n1,I n2,I n3,I n4,I n5]]) ?_ ?_
    ·refine .ae (.z zm (.z ez ?_));rw [decide_eq_true rfl];refine .z zm (.T (.z zm (.T (.z ik (.T (.z zm (.iY (t':=147) rfl (fun S7=>?_) (fun S7=>?_))))))))
     ·refine .T (.z zm (.T (.z ik (.T (.z zpT (.T (.z zm (.iY (t':=151) rfl (fun S6=>?_) (fun S6=>?_)))))))))
      ·refine .T (.z zm (.T (.z ez (.T (.z zm (.Eo (t':=154) rfl (fun S5=>?_) (fun S5=>?_)))))))
       ·refine .T (.z zm (.T ?_));obtain rfl:e=0:=by assumption
        obtain rfl:a=1:=by assumption
        have YT:=(Ht hJ hLe ZA Q7 VE (by unfold eK;dsimp only;omega) (by show _≤x.m2;dsimp only;omega) hJ6).resolve_left eE;refine .z ez ?_;rw [decide_eq_true YT.1];refine .T (.z zm (.T (.z zm (.T (.z ez ?_)))));rw [decide_eq_true YT.2];exact .T (.z zpF (.T (.z zpT (.T (.z zpT (.zn zpF (.cF (.skip (nT ⟨aW,hs.sb⟩)))))))))
       ·exact .Fs 3 12 true (.Fs 2 15 false (.Fs 1 12 true (.T (.z zpF (.T (.z zpT (.zn zpF (.cF (.skip (nT ⟨aW,hs.sb⟩))))))))))
      ·exact .Fs 3 9 true (.Fs 3 12 true (.Fs 2 15 false (.Fs 1 12 true (.Fs 1 9 true (.T (.z zpF (.zn zpF (.cF (.skip (nT ⟨aW,hs.sb⟩))))))))))
     ·refine .Fs 2 5 true (.T (.z zpF ?_));exact .T (.z zm (.Fs 3 9 true (.Fs 3 12 true (.Fs 2 15 false (.Fs 1 12 true (.Fs 1 9 true (.T (.z zpF (.zn zpF (.cF (.skip (nT ⟨aW,hs.sb⟩))))))))))))
    ·clear hs;rintro fs w ⟨iR,hs⟩;refine WE.sub ?_ iR;clear iR;refine .ae (.y hs (zls [_,_,_,_] cj bj) (.o (.alloc hs jY rfl fun No w hs=>?_)));refine .o (.aE (vs:=[_,_,_,_]) hs rfl rfl bj fun w hs=>?_);refine .nil ?_;have hj0:=fc s0 (m:=3) ai;have hj1:=fc s1 (m:=365) ai;have hj2:=fc s2 (m:=365) ai;have hj3:=fc s3 (m:=1000) ai;refine .seq (.draw mix rfl hs fun w hs=>?_);refine .zw 1 rfl (zfa gH) ?_;refine .y 2 rfl hs isAgg23 ?_;refine .zw 4 rfl (zia 0 jm ak) (.zv 5 rfl hs (lO aj) (.zw 8 rfl (zia 1 jm ak) (.zv 9 rfl hs (lO aj) (.zw 12 rfl (zia 2 jm ak) (.zv 13 rfl hs (lO aj) (.zw 16 rfl (zia 3 jm ak) (.zv 17 rfl hs (lO aj) (.E 0 hs ?_))))))));refine .buildSlice (cells:=[]) hs sN rfl rfl ?_;intro b165 w hs;refine .go (.E 3 hs ?_);refine .append (xs:=[]) hs fy rfl rfl (.full (len:=0) rfl) (QD gl.sn) (DW (enc:=Ssn.c) (fun x=>by simp [Ssn.c,Value.oneCell']) l.seasons) (fun l' h=>by simp at h;obtain rfl:l'=0:=ai;omega) ?_;intro v168 en168 w UI hs;rw [List.nil_append] at UI;obtain ⟨a168,c168,rfl⟩:=UI.iG (Bo _) ai;rw [mh] at UI ⊢;refine .go (.E 6 hs ?_);refine .call cU rfl (aI hs ai) ?_;rintro _ w ⟨rfl,hs⟩;refine .go (.zw 7 rfl cD (.E 10 hs ?_));refine .call cU rfl (aI hs ai) ?_;rintro _ w ⟨rfl,hs⟩;refine .go (.zw 11 rfl cD (.E 14 hs ?_));refine .call cU rfl (aI hs ai) ?_;rintro _ w ⟨rfl,hs⟩;refine .go (.zw 15 rfl cD (.E 18 hs ?_));refine .call cU rfl (aI hs ai) ?_;rintro _ w ⟨rfl,hs⟩;refine .go (.zw 19 rfl (zbd (Ssn.c ⟨1+iM s0 3,1+iM s1 365,1+iM s2 365,iM s3 1000⟩) nE rfl az) (.E 20 hs ?_));refine .buildSlice (cells:=Ssn.c ⟨1+iM s0 3,1+iM s1 365,1+iM s2 365,iM s3 1000⟩) hs jX rfl az ?_;intro b185 w hs;refine .go (.E 21 hs ?_);refine .append (ys:=Ssn.c ⟨1+iM s0 3,1+iM s1 365,1+iM s2 365,iM s3 1000⟩) hs fy rfl rfl UI (.own eJ rfl rfl) (by simp [Ssn.c,Value.oneCell']) (fun l' h=>by rw [bX _ (Bo _),mh] at h;omega) ?_;intro v186 en186 w Q9 hs;rw [←FT] at Q9;obtain ⟨a186,c186,rfl⟩:=Q9.iG (Bo _) ai;refine .go (.zw 22 rfl (zfa gH) (.E 23 hs ?_));refine .store hs rfl rfl sizeOf23 ?_;intro w hs;refine .go (.D hs (.seq (.ae (.zn zg (.block ?_)))));have hSs:D5 ⟨1+iM s0 3,1+iM s1 365,1+iM s2 365,iM s3 1000⟩:=⟨by dsimp only;omega,by dsimp only;omega,by dsimp only;omega,by dsimp only;omega⟩;have Ln:=My (a:=l.length) (b:=l.depth) (t:=l.table) (ss:=l.seasons) hl Ud hSs;obtain ⟨H7,kP,Oi,hs⟩:=cz.bZ (m:=4) Q9 (Bo _) ai (by rw [mh,List.length_append,List.length_singleton];omega) hs eJ;replace Oi:RSn H7 _ (l.seasons++[⟨1+iM s0 3,1+iM s1 365,1+iM s2 365,iM s3 1000⟩]):=Oi;replace g:=g.mono kP;replace gl:=gl.mono kP;have wv:=J4.trans kP;have Y6:=fc n5 (m:=1000) ai;refine .loop (fun p:Nat×bG=>⟨243,[],[(23,I (p.1:Int)),(22,Pt No),(10,Pt mU),(8,Pt b8),(7,.bool true),(4,Pt b4)]⟩)
      (fun p w=>(1≤p.1∧p.1≤4)∧HLe H7 p.2∧St p.2 w [.blk No (lnC l (.slice at_ l.table.length ct) (.slice a186 (snc (l.seasons++[⟨1+iM s0 3,1+iM s1 365,1+iM s2 365,iM s3 1000⟩])).length c186)),.blk mU (lnC l (.slice at_ l.table.length ct) (.slice dm l.seasons.length cs)),.blk b8 (svC s (.slice aa s.sp.st.length ca) (.slice ab s.sp.wa.length cb) (.slice ac s.rs.length cc) (.slice ad s.cs.length cd)),.blk b4 [I n0,I n1,I n2,I n3,I n4,I n5]]) (fun p=>4 - p.1) (1,H7) aW
      ⟨by dsimp only;omega,HLe.refl _,hs.sb⟩ ?_
     rintro ⟨k,H8⟩ w ⟨hk,iQ,hs⟩;dsimp only at hk iQ hs ⊢;have Sn:=wv.trans iQ;refine .seq (.ae (.z zm (.zn ju (.cg rfl (fun SM=>?_) (fun SM=>?_)))))
     ·refine .skip (nT (.seq (.block (.seq (.draw mix rfl hs fun w hs=>?_)))));refine .zw 0 rfl (zfa aK) ?_;refine .ys 1 rfl hs [_,_,_,_,_,_] bC aT ?_;refine .ys 2 rfl hs [_,_,_,_] cj bj ?_;refine .z 3 rfl zm ?_;refine .zw 4 rfl (zia 5 cH ak) (.zv 5 rfl hs (lO aj) (.E 6 hs ?_));refine .call cU rfl (aI hs ai) ?_;rintro _ w ⟨rfl,hs⟩;refine .go (.E 7 hs ?_);refine .call call45 rfl (rH (s:=s.sp) (l:=l) (z:=(k:Int)) (d:=iM n5 1000) hs (g.mono iQ).st (g.mono iQ).wa (gl.mono iQ).tb (gl.mono iQ).sn) ?_;rintro _ w ⟨H9,c,h,Aa,rfl,hM9,hs⟩;have k9:=iQ.trans Aa;refine .go (.zw 8 rfl zm ?_);refine .z 9 rfl zex ?_;refine .z 10 rfl zex ?_;refine .z 11 rfl zg ?_;refine .z 12 rfl zg ?_;refine .D hs ?_;refine .seq (.draw mix rfl hs fun w hs=>?_);refine .zw 0 rfl (zfa aK) ?_;refine .ys 1 rfl hs [_,_,_,_,_,_] bC aT ?_;refine .ys 2 rfl hs [_,_,_,_] cj bj ?_;refine .z 3 rfl zm ?_;refine .zw 4 rfl (zia 5 cH ak) (.zv 5 rfl hs (lO aj) (.E 6 hs ?_));refine .call cU rfl (aI hs ai) ?_;rintro _ w ⟨rfl,hs⟩;refine .go (.E 7 hs ?_);refine .call call45 rfl (rH (s:=s.sp) (l:=⟨l.length,l.depth,l.table,l.seasons++[⟨1+iM s0 3,1+iM s1 365,1+iM s2 365,iM s3 1000⟩]⟩) (z:=(k:Int)) (d:=iM n5 1000) hs (g.mono k9).st (g.mono k9).wa (gl.mono k9).tb (Oi.mono k9)) ?_;rintro _ w ⟨H10,d,i,qi,rfl,Xz,hs⟩;have ft:=k9.trans qi;obtain ⟨IA,NX,hm3⟩:=Jz (a:=l.length) (b:=l.depth) (t:=l.table) (ss:=l.seasons) aJ.early.1 hl Ln ai ai hM9 Xz;refine .go (.zw 8 rfl zm ?_);refine .z 9 rfl zex ?_;refine .z 10 rfl zex ?_;refine .z 11 rfl zg ?_;refine .z 12 rfl zg ?_;refine .D hs ?_;refine .ae (.z zm (.z ik (.z zm (.iY (t':=216) rfl (fun S2=>?_) (fun S2=>?_)))))
      ·refine .T (.z zm (.T (.z ez (.z zpT (.z zm (.Eo (t':=220) rfl (fun S1=>?_) (fun S1=>?_)))))))
       ·refine .T (.z zm (.T (.z ez ?_)));rw [decide_eq_true ai];refine .z zpT (.z zm (.T (.z zm (.T (.z ez (.T (.z zm (.Eo (t':=227) rfl (fun DA=>?_) (fun DA=>?_)))))))))
        ·refine .T (.z zm (.T (.z zm (.T (.z ez ?_)))));rw [decide_eq_true ai];refine .T (.z zpT (.z zpF (.z zm (.T (.z zm (.T (.z ik (.T (.z zm (.iY (t':=236) rfl (fun qn=>?_) (fun qn=>?_)))))))))))
         ·refine .T (.z zm (.T (.z zm (.T (.z nJ ?_)))));rw [decide_eq_false ai];exact .T (.z zpT (.zn zpF (.cF (.skip (nB (nT (.region (.z zm (.z cD (.zn zg (nT ⟨(k+1,H10),.dc rfl bB aW,⟨by dsimp only;omega,ft,hs.sb⟩,by dsimp only;omega⟩)))))))))))
         ·exact .Fs 3 22 true (.T (.z zpF (.zn zpF (.cF (.skip (nB (nT (.region (.z zm (.z cD (.zn zg (nT ⟨(k+1,H10),.dc rfl bB aW,⟨by dsimp only;omega,ft,hs.sb⟩,by dsimp only;omega⟩))))))))))))
        ·refine .Fs 3 13 true (.T (.z zpF (.z zpF (.z zm (.T (.z zm (.T (.z ik (.T (.z zm (.iY (t':=236) rfl (fun qn=>?_) (fun qn=>?_))))))))))))
         ·refine .T (.z zm (.T (.z zm (.T (.z nJ ?_)))));rw [decide_eq_false ai];exact .T (.z zpT (.zn zpF (.cF (.skip (nB (nT (.region (.z zm (.z cD (.zn zg (nT ⟨(k+1,H10),.dc rfl bB aW,⟨by dsimp only;omega,ft,hs.sb⟩,by dsimp only;omega⟩)))))))))))
         ·exact .Fs 3 22 true (.T (.z zpF (.zn zpF (.cF (.skip (nB (nT (.region (.z zm (.z cD (.zn zg (nT ⟨(k+1,H10),.dc rfl bB aW,⟨by dsimp only;omega,ft,hs.sb⟩,by dsimp only;omega⟩))))))))))))
       ·refine .Fs 2 6 true (.z zpF (.z zm (.T (.z zm (.T (.z ez (.T (.z zm (.Eo (t':=227) rfl (fun DA=>?_) (fun DA=>?_))))))))))
        ·refine .T (.z zm (.T (.z zm (.T (.z ez ?_)))));rw [decide_eq_true ai];refine .T (.z zpT (.z zpF (.z zm (.T (.z zm (.T (.z ik (.T (.z zm (.iY (t':=236) rfl (fun qn=>?_) (fun qn=>?_)))))))))))
         ·refine .T (.z zm (.T (.z zm (.T (.z nJ ?_)))));rw [decide_eq_false ai];exact .T (.z zpT (.zn zpF (.cF (.skip (nB (nT (.region (.z zm (.z cD (.zn zg (nT ⟨(k+1,H10),.dc rfl bB aW,⟨by dsimp only;omega,ft,hs.sb⟩,by dsimp only;omega⟩)))))))))))
         ·exact .Fs 3 22 true (.T (.z zpF (.zn zpF (.cF (.skip (nB (nT (.region (.z zm (.z cD (.zn zg (nT ⟨(k+1,H10),.dc rfl bB aW,⟨by dsimp only;omega,ft,hs.sb⟩,by dsimp only;omega⟩))))))))))))
        ·refine .Fs 3 13 true (.T (.z zpF (.z zpF (.z zm (.T (.z zm (.T (.z ik (.T (.z zm (.iY (t':=236) rfl (fun qn=>?_) (fun qn=>?_))))))))))))
         ·refine .T (.z zm (.T (.z zm (.T (.z nJ ?_)))));rw [decide_eq_false ai];exact .T (.z zpT (.zn zpF (.cF (.skip (nB (nT (.region (.z zm (.z cD (.zn zg (nT ⟨(k+1,H10),.dc rfl bB aW,⟨by dsimp only;omega,ft,hs.sb⟩,by dsimp only;omega⟩)))))))))))
         ·exact .Fs 3 22 true (.T (.z zpF (.zn zpF (.cF (.skip (nB (nT (.region (.z zm (.z cD (.zn zg (nT ⟨(k+1,H10),.dc rfl bB aW,⟨by dsimp only;omega,ft,hs.sb⟩,by dsimp only;omega⟩))))))))))))
      ·refine .Fs 2 2 true (.z zpF (.z zm (.Fs 2 6 true (.z zpF (.z zm (.T (.z zm (.T (.z ez (.T (.z zm (.Eo (t':=227) rfl (fun DA=>?_) (fun DA=>?_)))))))))))))
       ·refine .T (.z zm (.T (.z zm (.T (.z ez ?_)))));rw [decide_eq_true ai];refine .T (.z zpT (.z zpF (.z zm (.T (.z zm (.T (.z ik (.T (.z zm (.iY (t':=236) rfl (fun qn=>?_) (fun qn=>?_)))))))))))
        ·refine .T (.z zm (.T (.z zm (.T (.z nJ ?_)))));rw [decide_eq_false ai];exact .T (.z zpT (.zn zpF (.cF (.skip (nB (nT (.region (.z zm (.z cD (.zn zg (nT ⟨(k+1,H10),.dc rfl bB aW,⟨by dsimp only;omega,ft,hs.sb⟩,by dsimp only;omega⟩)))))))))))
        ·exact .Fs 3 22 true (.T (.z zpF (.zn zpF (.cF (.skip (nB (nT (.region (.z zm (.z cD (.zn zg (nT ⟨(k+1,H10),.dc rfl bB aW,⟨by dsimp only;omega,ft,hs.sb⟩,by dsimp only;omega⟩))))))))))))
       ·refine .Fs 3 13 true (.T (.z zpF (.z zpF (.z zm (.T (.z zm (.T (.z ik (.T (.z zm (.iY (t':=236) rfl (fun qn=>?_) (fun qn=>?_))))))))))))
        ·refine .T (.z zm (.T (.z zm (.T (.z nJ ?_)))));rw [decide_eq_false ai];exact .T (.z zpT (.zn zpF (.cF (.skip (nB (nT (.region (.z zm (.z cD (.zn zg (nT ⟨(k+1,H10),.dc rfl bB aW,⟨by dsimp only;omega,ft,hs.sb⟩,by dsimp only;omega⟩)))))))))))
        ·exact .Fs 3 22 true (.T (.z zpF (.zn zpF (.cF (.skip (nB (nT (.region (.z zm (.z cD (.zn zg (nT ⟨(k+1,H10),.dc rfl bB aW,⟨by dsimp only;omega,ft,hs.sb⟩,by dsimp only;omega⟩))))))))))))
     ·exact .exit (xT (xT (xB (nT (.ae (.z zm (.zn zg (.ret (Fin.bw results11 rfl ⟨rfl,_,by first|assumption|exact wv.trans iQ,hs.out⟩)))))))))
end Go.Proofs.YteajddicacjkhaaGreat
