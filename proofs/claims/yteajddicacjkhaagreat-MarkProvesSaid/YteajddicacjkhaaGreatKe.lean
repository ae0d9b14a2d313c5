/-
  Texts of these claims, joined: Zt Zv Zw Zx Zy Zz Na Nb Nj No Nq Oc Od Oe Of Og Oh Oi Oj Ok Ol Om On.
-/
import Derived.Test.YteajddicacjkhaaGreatKd
namespace Go.Proofs.YteajddicacjkhaaGreat
open Go.MW Tryz
variable{H:cK}{σ:List Ent}{a0 a1 a2 m most a hi lo f d e z1 z2 z3:Int}{l:Lns}{ls:List Lim}{g b k bf bt bl cl i j bm:Nat}{cap sp:List Value}{s:Spc}{xs ts lf ws L X Y l1 l2 sl pk:List Int}{en:Ent}{vl vt vp vw vm vb v1 v2 cU cO vr vc vh vs v5 v4 gZ:Value}{Ms rows:List (List Int)}{us:List Use}{x:Lg}{t:TD}{high:Bool}{iB:List F5}{iP:List F4}
structure WI(s:Spc)(L:List Int)(f:Nat→Nat→Int):Prop where
 len:L.length=s.many+1
 zero:gi L 0=0
 at_:∀i k,i<s.st.length→k<s.wa.length→gi L (s.u i k)=f i k
theorem WI.start(s:Spc):WI s (List.replicate (s.many+1) 0) fun _ _=>0:=
 ⟨bK,eK _ _ ai,fun i k hi hk=>by have:=Bw hi hk;exact eK _ _ ai⟩
theorem WI.set{f:Nat→Nat→Int}(h:WI s L f){i k:Nat}(hi:i<s.st.length)(hk:k<s.wa.length)(x:Int):WI s (L.set (s.u i k) x) fun i' k'=>if i'=i∧k'=k then x else f i' k':=by
 have hb:=Bw hi hk;refine ⟨by rw [List.length_set];exact h.len,by rw [wh ai];exact h.zero,fun i' k' Fl tE=>?_⟩;have abD:=Bw Fl tE;rw [fi (by rw [h.len];omega)];by_cases e:i'=i∧k'=k
 ·obtain ⟨rfl,rfl⟩:=e;rw [if_pos rfl,if_pos ⟨rfl,rfl⟩]
 ·rw [if_neg e,if_neg,h.at_ i' k' Fl tE];intro e2;obtain ⟨d1,d2⟩:=QM (nw:=s.wa.length) (i:=i) hk;obtain ⟨d3,d4⟩:=QM (nw:=s.wa.length) (i:=i') tE;have e3:i'*s.wa.length+k'=i*s.wa.length+k:=by unfold Spc.u at e2;omega
  rw [e3] at d3 d4;exact e ⟨d3.symm.trans d1,d4.symm.trans d2⟩
theorem WI.congr{f g:Nat→Nat→Int}(h:WI s L f)(e:∀i k,i<s.st.length→k<s.wa.length→f i k=g i k):WI s L g:=
 ⟨h.len,h.zero,fun i k hi hk=>(h.at_ i k hi hk).trans (e i k hi hk)⟩
theorem WI.fin{q:Wht}(h:WI s L (mO s q)):L=mj s q:=Ny h.len h.zero h.at_
theorem xq{w:World}{q:Wht}(hs:St H w σ)(h1:RI H cU s.st)(h2:RI H cO s.wa):
  ab8 155 [.agg #[I s.id,I s.src,cU,cO,I s.al,I s.up],.agg #[I q.kind,I q.st,I q.wa]] w fun v w'=>∃b:Bool,v= .bool b∧(b=true↔gx s q)∧St H w' σ:=by
 obtain ⟨iV,iT,rfl⟩:=RI.shape h1;obtain ⟨gX,gW,rfl⟩:=RI.shape h2;have l1:=(RI.len h1).2.2;have l2:=(RI.len h2).2.2;have hi:=ru (s:=s) (q:=q);simp only [Spc.isW,Spc.isS] at hi;refine Cl.o func155 ntmps155 ag2 ?_;refine .af (.bx hs fun b2 w hs=>?_);refine .bx hs fun b3 w hs=>?_
 refine .zn zg (.af (.z (zfa eP) (.y hs (zld aj) (.z (zfa aZ) (.y hs (zld an) (.z (dk ae) (.z gE (.o (.call nf rfl (eh hs) ?_)))))))));rintro _ w ⟨rfl,hs⟩;refine .zn zg (.af (.z (zfa fM) (.y hs (zld aj) (.z (zfa bV) (.y hs (zld an) (.z (dk ae) (.z gE (.o (.call nf rfl (eh hs) ?_)))))))));rintro _ w ⟨rfl,hs⟩;refine .zn zg (.seq (.af (.z (zfa ql) (.y hs (zld aj) (.nil (.block (.af (.z fJ (.zn zg (.bA rfl (fun kX=>?_) (fun kX=>?_)))))))))))
 ·refine .af (.z (zfa fM) (.y hs (zld aj) (.z fJ (.z zm (.ie (t':=28) rfl (fun xP=>?_) (fun xP=>?_))))))
  ·refine .T (.z zm (.z zpT (.z zm (.bif (t':=31) rfl (fun zk=>?_) (fun zk=>?_)))))
   ·exact .T (.z (zfa eP) (.T (.y hs (zld aj) (.T (.z ld (.z zpT (.zn zg (.ret (rB (rT (Fin.bu oy rfl ⟨_,rfl,by rw [hi];simp_all<;>omega,hs.out⟩)))))))))))
   ·exact .Fs 3 6 true (.z zpF (.zn zg (.ret (rB (rT (Fin.bu oy rfl ⟨_,rfl,by rw [hi];simp_all<;>omega,hs.out⟩))))))
  ·exact .Fs 1 3 true (.z zpF (.z zm (.Fs 3 6 true (.z zpF (.zn zg (.ret (rB (rT (Fin.bu oy rfl ⟨_,rfl,by rw [hi];simp_all<;>omega,hs.out⟩)))))))))
 ·refine .af (.z fJ (.zn zg (.bA rfl (fun lK=>?_) (fun lK=>?_))))
  ·refine .af (.z (zfa fM) (.y hs (zld aj) (.z fJ (.z zm (.ie (t':=41) rfl (fun R0=>?_) (fun R0=>?_))))))
   ·exact .T (.z zm (.z zpT (.zn zg (.ret (rB (rT (Fin.bu oy rfl ⟨_,rfl,by rw [hi];simp_all<;>omega,hs.out⟩)))))))
   ·exact .Fs 1 3 true (.z zpF (.zn zg (.ret (rB (rT (Fin.bu oy rfl ⟨_,rfl,by rw [hi];simp_all<;>omega,hs.out⟩))))))
  ·refine .af (.z fJ (.zn zg (.bA rfl (fun B4=>?_) (fun B4=>?_))))
   ·refine .af (.z zm (.z zm (.bif (t':=47) rfl (fun OU=>?_) (fun OU=>?_))))
    ·exact .T (.z (zfa eP) (.T (.y hs (zld aj) (.T (.z fJ (.z zpT (.zn zg (.ret (rB (rT (Fin.bu oy rfl ⟨_,rfl,by rw [hi];simp_all<;>omega,hs.out⟩)))))))))))
    ·exact .Fs 3 1 true (.z zpF (.zn zg (.ret (rB (rT (Fin.bu oy rfl ⟨_,rfl,by rw [hi];simp_all<;>omega,hs.out⟩))))))
   ·refine .af (.z fJ (.zn zg (.bA rfl (fun Fp=>?_) (fun Fp=>?_))))
    ·refine .af (.z zm (.z zm (.bif (t':=55) rfl (fun RY=>?_) (fun RY=>?_))))
     ·exact .T (.z zm (.z zpT (.zn zg (.ret (rB (rT (Fin.bu oy rfl ⟨_,rfl,by rw [hi];simp_all<;>omega,hs.out⟩)))))))
     ·exact .Fs 1 1 true (.z zpF (.zn zg (.ret (rB (rT (Fin.bu oy rfl ⟨_,rfl,by rw [hi];simp_all<;>omega,hs.out⟩))))))
    ·exact .skip (nB (nT (.af (.zn zg (.ret (Fin.bu oy rfl ⟨_,rfl,by rw [hi];simp_all<;>omega,hs.out⟩))))))
set_option maxHeartbeats 2000000 in
theorem xp{w:World}{q:Wht}(hs:St H w σ)(h1:RI H cU s.st)(h2:RI H cO s.wa)(aU:fB s)(hq:gx s q):
  ab8 156 [.agg #[I s.id,I s.src,cU,cO,I s.al,I s.up],.agg #[I q.kind,I q.st,I q.wa]] w fun v w'=>∃H1 vl en,HLe H H1∧v= .tuple #[vl,I (oZ q)]∧dj 1 vl (Is (mj s q)) en∧St H1 w' (en::σ):=by
 obtain ⟨iV,iT,rfl⟩:=RI.shape h1;obtain ⟨gX,gW,rfl⟩:=RI.shape h2;have rk:=fX aU;have vX:=(RI.len h2).2.1;have ze:=aU.st.many;have SY:=aU.wa.many;have hlen:=gY s q;have hqq:=ru.1 hq;simp only [Spc.isW,Spc.isS] at hqq;refine Cl.o func156 ntmps156 ag2 ?_;refine .af (.bx hs fun b2 w hs=>?_);refine .bx hs fun b3 w hs=>?_
 refine .z zg (.zn zg (.af (.y hs (zls [_,_,_,_,_,_] bY bq) (.o (.call call94 rfl (gD (s:=s) hs h1 h2 ⟨ai,ai⟩) ?_)))));rintro _ w ⟨rfl,hs⟩;refine .z cV (.o (.vO (s.many+1) hs rfl rfl ae jK rfl ak dA ai fun BE w hs=>?_));have Mt:=WI.start s;generalize List.replicate (s.many+1) (0:Int)=L0 at hs Mt;refine .zn zg (.seq (.af (.z (zfa ql) (.y hs (zld aj) (.nil (.block (.af (.z fJ (.zn zg (.bA rfl (fun kX=>?_) (fun kX=>?_)))))))))))
 ·refine .seq (.draw mix rfl hs fun w hs=>?_);refine .zw 0 rfl (zfa bV) ?_;refine .y 1 rfl hs an ?_;refine .z 2 rfl (zfa aZ) ?_;refine .y 3 rfl hs an ?_;refine .z 4 rfl (zfa eP) ?_;refine .y 5 rfl hs aj ?_;refine .z 6 rfl cV ?_;obtain ⟨BZ,_,⟨Xu,hw3⟩,hw1⟩:q.kind=1∧q.st=0∧(0≤q.wa∧q.wa≤(s.wa.length:Int) - 1)∧0<q.wa:=by omega
  obtain ⟨m,hm⟩:∃m:Nat,q.wa=m:=⟨q.wa.toNat,ai⟩;have X2:q.wa.toNat=m:=by omega
  have hP:gy 7 15000 (s.wa.take (m+1)):=aU.wa.take ai ai;have OL:oZ q=648000000:=by unfold oZ;rw [if_pos BZ]
  refine .zw 7 rfl (rO (k:=m+1) rfl rfl ae ak ai ai) (.E 8 hs ?_);refine .call call213 rfl (AI hs h1 (h2.head (k:=m+1) ai) aU.st hP) ?_;rintro _ w ⟨H1,vo,az,rfl,hG,hs⟩;have Nj:=mC (wts s.st) (wts (s.wa.take (m+1))) s.st.length;have tg:(wts (s.wa.take (m+1))).length=m+1:=by rw [fF,List.length_take];omega
  have Yl:∀i<s.st.length,(gr (pQ (wts s.st) (wts (s.wa.take (m+1))) s.st.length) i).length=m+1:=fun i hi=>by rw [DQ hi,l9,tg]
  have S4:∀i<s.st.length,∀k≤m,gi (gr (pQ (wts s.st) (wts (s.wa.take (m+1))) s.st.length) i) k=mO s q i k:=fun i hi k hk=>by
   have:=IQ (X:=wts s.st) (Y:=wts (s.wa.take (m+1))) (n:=s.st.length) (k:=k) hi ai;unfold gt at this;rw [this];unfold mO;rw [if_pos BZ,if_pos ai,X2]
  have Yi:∀i k,m<k→mO s q i k=0:=fun i k hk=>by unfold mO;rw [if_pos BZ,if_neg ai]
  generalize pQ (wts s.st) (wts (s.wa.take (m+1))) s.st.length=G at*;obtain ⟨aG,cG,rfl⟩:=hG.shape;refine .go (.zw 9 rfl zm ?_);refine .z 10 rfl zex ?_;refine .z 11 rfl zex ?_;refine .z 12 rfl zg ?_;refine .z 13 rfl zg ?_;refine .D hs ?_;refine .seq (.af (.zn zg (.block ?_)));refine .loop (fun i:Nat=>⟨127,[],[(9,I (i:Int)),(7,.slice aG G.length cG),(6,.slice (some ⟨BE,0,none⟩) (s.many+1) (s.many+1)),(3,Pt b3),(2,Pt b2)]⟩)
   (fun i w=>i≤s.st.length∧∃L,WI s L (fun i' k'=>if i'<i then mO s q i' k' else 0)∧St H1 w (.blk BE (Is L):: .blk b3 [I q.kind,I q.st,I q.wa]:: .blk b2 [I s.id,I s.src,.slice iV s.st.length iT,.slice gX s.wa.length gW,I s.al,I s.up]::σ)) (fun i=>s.st.length - i) 0 (.da rfl bK aM)
   ⟨Nat.zero_le _,L0,Mt.congr fun i k _ _=>by rw [if_neg ai],hs⟩ ?_
  clear hs Mt;rintro i w ⟨hi,L,hW,hs⟩;refine .seq (.af (.z zm (.z zm (.z (dk aC) (.zn gV (.bA rfl (fun pK=>?_) (fun pK=>?_)))))))
  ·refine .skip (nT (.seq (.block (.af (.zn zg (.block ?_))))));refine .loop (fun k:Nat=>⟨127,[],[(10,I (k:Int)),(9,I (i:Int)),(7,.slice aG G.length cG),(6,.slice (some ⟨BE,0,none⟩) (s.many+1) (s.many+1)),(3,Pt b3),(2,Pt b2)]⟩)
    (fun k w=>k≤m+1∧∃L,WI s L (fun i' k'=>if i'<i∨(i'=i∧k'<k) then mO s q i' k' else 0)∧St H1 w (.blk BE (Is L):: .blk b3 [I q.kind,I q.st,I q.wa]:: .blk b2 [I s.id,I s.src,.slice iV s.st.length iT,.slice gX s.wa.length gW,I s.al,I s.up]::σ)) (fun k=>m+1 - k) 0 (.da rfl bK aM)
    ⟨Nat.zero_le _,L,hW.congr fun i' k' _ _=>by
     by_cases e:i'<i
     ·rw [if_pos e,if_pos (.inl e)]
     ·rw [if_neg e,if_neg ai],hs⟩ ?_
   clear hs hW;rintro k w ⟨hk,L,hW,hs⟩;have U7:=hW.len;have qL:i<s.st.length:=by omega
   have Yk:=Yl i qL;refine .seq (.af (.z zm (.z zm (.z zm (.ixT hs hG rfl rfl aC aO (show i<_ by omega) dp ?_)))));intro WQ o46 a46 c46 G6 hR46;refine .q hs (aF rfl an G6) (.z (dk ae) ?_);rw [Yk];refine .zn gV (.bA rfl (fun xL=>?_) (fun xL=>?_))
   ·refine .skip (nT (.seq (.block (.draw mix rfl hs fun w hs=>?_))));have tE:k<m+1:=by omega
    have SS:=Bw (s:=s) (i:=i) (k:=k) qL ai;refine .zw 0 rfl zm ?_;refine .ys 1 rfl hs [_,_,_,_,_,_] bY bq ?_;refine .z 2 rfl zm ?_;refine .z 3 rfl zm ?_;refine .z 5 rfl zm ?_;refine .z 6 rfl zm ?_;refine .ixT (i:=7) hs rfl aD .none hG rfl rfl aC aO (show i<_ by omega) dp ?_;intro b59 o59 a59 c59 RM Zc;refine .r (i:=8) hs rfl aD .none (aF rfl an RM) ?_;refine .zw 9 rfl zm (.ixX (enc:=fun x=>[I x]) (i:=10) hs rfl aD .none Zc rfl rfl ae ak (bG (l:=(gr G i)) (i:=k) ai) dp ?_);intro Qt o62 JN;replace JN:=bJ.one JN;refine .r (i:=11) hs rfl aD .none (aF rfl aj JN) ?_;refine .E 4 hs ?_;refine .call ED rfl (dS (s:=s) hs (h2.mono az) ai ⟨ai,ai⟩ ⟨ai,ai⟩) ?_;rintro _ w ⟨rfl,hs⟩;rw [C9];refine .go (.zw 12 rfl (eH (k:=s.u i k) rfl rfl ae ak rfl ai) (.E 13 hs ?_));refine .store hs rfl rfl ak ?_ dC (by simp [Is];omega);intro w hs;refine .go (.D hs (nB (nT (.region (.z zm (.z cV (.zn zg (nT ?_))))))));exact ⟨k+1,.da rfl bK aM,⟨ai,_,(hW.set qL ai _).congr fun i' k' _ _=>by
     rw [S4 i qL k ai];by_cases e:i'=i∧k'=k
     ·obtain ⟨rfl,rfl⟩:=e;rw [if_pos ⟨rfl,rfl⟩,if_pos (.inr ⟨rfl,ai⟩)]
     ·rw [if_neg e];by_cases e2:i'<i∨(i'=i∧k'<k)
      ·rw [if_pos e2,if_pos ai]
      ·rw [if_neg e2,if_neg ai],hs⟩,ai⟩
   ·refine .exit (xT (xT (xB (nB (nT (.region (.z zm (.z cV (.zn zg (nT ?_))))))))));exact ⟨i+1,.da rfl bK aM,⟨ai,L,hW.congr fun i' k' _ _=>by
     by_cases e:i'<i+1
     ·rw [if_pos e];by_cases e2:i'<i∨(i'=i∧k'<k)
      ·rw [if_pos e2]
      ·rw [if_neg e2,Yi i' k' ai]
     ·rw [if_neg e,if_neg ai],hs⟩,ai⟩
  ·refine .exit (xT (xT (xB (nT (.af (.z zm (.z zg (.zn zg (.ret (rB (rT (Fin.iz results156 rfl rfl ?_))))))))))));obtain rfl:=(hW.congr (g:=mO s q) fun i' k' Fl _=>by rw [if_pos ai]).fin;rw [←OL];exact ⟨H1,_,_,az,rfl,.full (by simp [Is,hlen]),hs.sb⟩
 ·refine .af (.z fJ (.zn zg (.bA rfl (fun sa=>?_) (fun sa=>?_))))
  ·refine .af (.z (zfa bV) (.y hs (zld an) ?_));have BZ:q.kind=2:=by omega
   obtain ⟨m,hm⟩:∃m:Nat,q.wa=m:=⟨q.wa.toNat,ai⟩;have OL:oZ q=180000:=by unfold oZ;rw [if_neg ai,if_pos ai]
   have hl:=fF s.st;have Xt:∀i k,mO s q i k=if k=m then gi (wts s.st) i else 0:=fun i k=>by
    unfold mO;rw [if_neg ai,if_pos BZ];by_cases e:k=m
    ·rw [if_pos e,if_pos ai]
    ·rw [if_neg e,if_neg ai]
   refine .o (.call call214 rfl (oD hs h1 aU.st) ?_);rintro _ w ⟨H1,vo,az,rfl,hX,hs⟩;obtain ⟨aX,cX,rfl⟩:=RI.shape hX;rw [hl];refine .z zm (.z zex (.z zex (.z zg (.zn zg (.seq (.af (.zn zg (.block ?_))))))));refine .loop (fun i:Nat=>⟨127,[],[(13,I (i:Int)),(11,.slice aX s.st.length cX),(6,.slice (some ⟨BE,0,none⟩) (s.many+1) (s.many+1)),(3,Pt b3),(2,Pt b2)]⟩)
    (fun i w=>i≤s.st.length∧∃L,WI s L (fun i' k'=>if i'<i then mO s q i' k' else 0)∧St H1 w (.blk BE (Is L):: .blk b3 [I q.kind,I q.st,I q.wa]:: .blk b2 [I s.id,I s.src,.slice iV s.st.length iT,.slice gX s.wa.length gW,I s.al,I s.up]::σ)) (fun i=>s.st.length - i) 0 (.da rfl bK aM)
    ⟨Nat.zero_le _,L0,Mt.congr fun i k _ _=>by rw [if_neg ai],hs⟩ ?_
   clear hs Mt;rintro i w ⟨hi,L,hW,hs⟩;have U7:=hW.len;rw [hl] at hX;refine .seq (.af (.z zm (.z zm (.z (dk ae) (.zn gV (.bA rfl (fun G5=>?_) (fun G5=>?_)))))))
   ·refine .skip (nT (.seq (.block (.draw mix rfl hs fun w hs=>?_))));refine .zw 0 rfl zm ?_;refine .ys 1 rfl hs [_,_,_,_,_,_] bY bq ?_;refine .z 2 rfl zm ?_;refine .z 3 rfl (zfa eP) ?_;refine .y 4 rfl hs aj ?_;refine .z 6 rfl zm ?_;refine .z 7 rfl zm ?_;refine .ixX (enc:=fun x=>[I x]) (i:=8) hs rfl aD .none (by rw [hl] at*;exact hX) rfl rfl ae ak (bG (l:=wts s.st) (i:=i) ai) dp ?_;intro b88 o88 xK;replace xK:=bJ.one xK;refine .zv 9 rfl hs (qf aj) (.E 5 hs ?_);have qL:i<s.st.length:=by omega
    have SS:=Bw (s:=s) (i:=i) (k:=m) qL ai;refine .call ED rfl (dS (s:=s) hs (h2.mono az) ai ⟨ai,ai⟩ ⟨ai,ai⟩) ?_;rintro _ w ⟨rfl,hs⟩;rw [show 1+(i:Int)*(s.wa.length:Int)+q.wa=(s.u i m:Int) by rw [hm,C9]];refine .go (.zw 10 rfl (eH (k:=s.u i m) rfl rfl ae ak rfl ai) (.E 11 hs ?_));refine .store hs rfl rfl ak ?_ dC (by simp [Is];omega);intro w hs;refine .go (.D hs (nB (nT (.region (.z zm (.z cV (.zn zg (nT ?_))))))));exact ⟨i+1,.da rfl bK aM,⟨ai,_,(hW.set qL (show m<s.wa.length by omega) _).congr fun i' k' _ _=>by
     rw [Xt i' k'];by_cases e:i'=i∧k'=m
     ·obtain ⟨rfl,rfl⟩:=e;rw [if_pos ⟨rfl,rfl⟩,if_pos (Nat.lt_succ_self _),if_pos rfl]
     ·rw [if_neg e];by_cases e2:i'<i
      ·rw [if_pos e2,if_pos (show i'<i+1 by omega)]
      ·rw [if_neg e2];by_cases e3:i'<i+1
       ·rw [if_pos e3,if_neg (show ¬k'=m by omega)]
       ·rw [if_neg e3],hs⟩,ai⟩
   ·refine .exit (xT (xT (xB (nT (.af (.z zm (.z zg (.zn zg (.ret (rB (rT (Fin.iz results156 rfl rfl ?_))))))))))));obtain rfl:=(hW.congr (g:=mO s q) fun i' k' Fl _=>by rw [if_pos ai]).fin;rw [←OL];exact ⟨H1,_,_,az,rfl,.full (by simp [Is,hlen]),hs.sb⟩
  ·refine .af (.z fJ (.zn zg (.bA rfl (fun RH=>?_) (fun RH=>?_))))
   ·refine .af (.z (zfa aZ) (.y hs (zld an) ?_));have BZ:q.kind=3:=by omega
    obtain ⟨m,hm⟩:∃m:Nat,q.st=m:=⟨q.st.toNat,ai⟩;have OL:oZ q=180000:=by unfold oZ;rw [if_neg ai,if_pos ai]
    have hl:=fF s.wa;have Xt:∀i k,mO s q i k=if i=m then gi (wts s.wa) k else 0:=fun i k=>by
     unfold mO;rw [if_neg ai,if_neg ai,if_pos BZ];by_cases e:i=m
     ·rw [if_pos e,if_pos ai]
     ·rw [if_neg e,if_neg ai]
    refine .o (.call call214 rfl (oD hs h2 (GA aU)) ?_);rintro _ w ⟨H1,vo,az,rfl,hX,hs⟩;obtain ⟨aX,cX,rfl⟩:=RI.shape hX;rw [hl];refine .z zm (.z zex (.z zex (.z zg (.zn zg (.seq (.af (.zn zg (.block ?_))))))));refine .loop (fun k:Nat=>⟨127,[],[(16,I (k:Int)),(14,.slice aX s.wa.length cX),(6,.slice (some ⟨BE,0,none⟩) (s.many+1) (s.many+1)),(3,Pt b3),(2,Pt b2)]⟩)
     (fun k w=>k≤s.wa.length∧∃L,WI s L (fun i' k'=>if k'<k then mO s q i' k' else 0)∧St H1 w (.blk BE (Is L):: .blk b3 [I q.kind,I q.st,I q.wa]:: .blk b2 [I s.id,I s.src,.slice iV s.st.length iT,.slice gX s.wa.length gW,I s.al,I s.up]::σ)) (fun k=>s.wa.length - k) 0 (.da rfl bK aM)
     ⟨Nat.zero_le _,L0,Mt.congr fun i k _ _=>by rw [if_neg ai],hs⟩ ?_
    clear hs Mt;rintro k w ⟨hi,L,hW,hs⟩;have U7:=hW.len;rw [hl] at hX;refine .seq (.af (.z zm (.z zm (.z (dk ae) (.zn gV (.bA rfl (fun Fz=>?_) (fun Fz=>?_)))))))
    ·refine .skip (nT (.seq (.block (.draw mix rfl hs fun w hs=>?_))));refine .zw 0 rfl zm ?_;refine .ys 1 rfl hs [_,_,_,_,_,_] bY bq ?_;refine .z 2 rfl (zfa fM) ?_;refine .y 3 rfl hs aj ?_;refine .z 4 rfl zm ?_;refine .z 6 rfl zm ?_;refine .z 7 rfl zm ?_;refine .ixX (enc:=fun x=>[I x]) (i:=8) hs rfl aD .none (by rw [hl] at*;exact hX) rfl rfl ae ak (bG (l:=wts s.wa) (i:=k) ai) dp ?_;intro ZZ o114 Mg;replace Mg:=bJ.one Mg;refine .zv 9 rfl hs (qf aj) (.E 5 hs ?_);have qL:k<s.wa.length:=by omega
     have SS:=Bw (s:=s) (i:=m) (k:=k) ai qL;refine .call ED rfl (dS (s:=s) hs (h2.mono az) ai ⟨ai,ai⟩ ⟨ai,ai⟩) ?_;rintro _ w ⟨rfl,hs⟩;rw [show 1+q.st*(s.wa.length:Int)+(k:Int)=(s.u m k:Int) by rw [hm,C9]];refine .go (.zw 10 rfl (eH (k:=s.u m k) rfl rfl ae ak rfl ai) (.E 11 hs ?_));refine .store hs rfl rfl ak ?_ dC (by simp [Is];omega);intro w hs;refine .go (.D hs (nB (nT (.region (.z zm (.z cV (.zn zg (nT ?_))))))));exact ⟨k+1,.da rfl bK aM,⟨ai,_,(hW.set (show m<s.st.length by omega) qL _).congr fun i' k' _ _=>by
      rw [Xt i' k'];by_cases e:i'=m∧k'=k
      ·obtain ⟨rfl,rfl⟩:=e;rw [if_pos ⟨rfl,rfl⟩,if_pos (Nat.lt_succ_self _),if_pos rfl]
      ·rw [if_neg e];by_cases e2:k'<k
       ·rw [if_pos e2,if_pos (show k'<k+1 by omega)]
       ·rw [if_neg e2];by_cases e3:k'<k+1
        ·rw [if_pos e3,if_neg (show ¬i'=m by omega)]
        ·rw [if_neg e3],hs⟩,ai⟩
    ·refine .exit (xT (xT (xB (nT (.af (.z zm (.z zg (.zn zg (.ret (rB (rT (Fin.iz results156 rfl rfl ?_))))))))))));obtain rfl:=(hW.congr (g:=mO s q) fun i' k' _ tE=>by rw [if_pos ai]).fin;rw [←OL];exact ⟨H1,_,_,az,rfl,.full (by simp [Is,hlen]),hs.sb⟩
   ·refine .skip (nB (nT (.af (.z zm (.y hs (zls [_,_,_,_,_,_] bY bq) (.z (zfa fM) (.y hs (zld aj) (.z (zfa eP) (.y hs (zld aj) ?_)))))))));have BZ:q.kind=4:=by omega
    obtain ⟨m,hm⟩:∃m:Nat,q.st=m:=⟨q.st.toNat,ai⟩;obtain ⟨c,hc⟩:∃c:Nat,q.wa=c:=⟨q.wa.toNat,ai⟩;have OL:oZ q=1:=by unfold oZ;rw [if_neg ai,if_neg ai]
    have SS:=Bw (s:=s) (i:=m) (k:=c) ai ai;have U7:=Mt.len;refine .o (.call ED rfl (dS (s:=s) hs h2 ai ⟨ai,ai⟩ ⟨ai,ai⟩) ?_);rintro _ w ⟨rfl,hs⟩;rw [hm,hc,C9];refine .q hs (eH (k:=s.u m c) rfl rfl ae ak rfl ai) (.o (.store hs rfl rfl ak ?_ dC (by simp [Is];omega)));intro w hs;refine .nil (.af (.z zm (.z zg (.zn zg (.ret (Fin.iz results156 rfl rfl ?_))))));have B1:=((Mt.set (show m<s.st.length by omega) (show c<s.wa.length by omega) 1).congr (g:=mO s q) fun i' k' _ _=>by
     unfold mO;rw [if_neg (show ¬q.kind=1 by omega),if_neg (show ¬q.kind=2 by omega),if_neg (show ¬q.kind=3 by omega)];by_cases e:i'=m∧k'=c
     ·rw [if_pos e,if_pos ai]
     ·rw [if_neg e,if_neg ai]).fin
    rw [B1] at hs;rw [←OL];exact ⟨H,_,_,HLe.refl H,rfl,.full (by simp [Is,hlen]),hs.sb⟩
theorem hZ{w:World}(hs:St H w σ)(hd:1≤d)(ha: -4608000000000000000≤a∧a≤4608000000000000000):
  ab8 119 [I a,I d] w fun v w'=>v=I (a/d)∧St H w' σ:=by
 have hq: -4608000000000000000≤a.tdiv d∧a.tdiv d≤4608000000000000000:=by
  have h1:=sV (n:=a) (d:=d) ai;have h2:a/d≤4608000000000000000:=Int.ediv_le_of_le_mul ai (by
   have:=Int.mul_le_mul_of_nonneg_left hd (show (0:Int)≤4608000000000000000 by omega);omega)
  have h3: -4608000000000000000≤a/d:=Int.le_ediv_of_mul_le ai (by
   have:=Int.mul_le_mul_of_nonneg_left hd (show (0:Int)≤4608000000000000000 by omega);omega)
  by_cases h0:0≤a
  ·rw [Int.tdiv_eq_ediv_of_nonneg h0];omega
  ·split at h1
   ·have:a/d<0:=Int.ediv_neg_of_neg_of_pos ai ai;omega
   ·omega
 have B0:=sV (n:=a) (d:=d) ai;refine Cl.o func119 ntmps119 ag2 ?_;refine .af (.zn zg (.af (.z zm (.z zm (.q hs (yu rfl rfl ai ⟨ai,ai⟩) (.zn zg (.seq (.af (.z zm (.z zm (.z Gt (.zn gV (.bA rfl (fun fk=>?_) (fun fk=>?_))))))))))))))
 ·refine .region (.z zm (.z gE (.zn zg (nT (.af (.z zm (.zn zg (.ret (Fin.bu results119 rfl ?_)))))))));rw [if_pos fk] at B0;exact ⟨by rw [B0],hs⟩
 ·refine .skip (nT (.af (.z zm (.zn zg (.ret (Fin.bu results119 rfl ?_))))));rw [if_neg fk,Int.sub_zero] at B0;exact ⟨by rw [B0],hs⟩
inductive F8(v:Srv)(q:Wht):Int→Prop
 |bad {e:Int} (h:BF v e) (he:e≠0):F8 v q e
 |what (h:ew v) (h1:¬gx v.sp q):F8 v q 33
 |ok (h:ew v) (h1:gx v.sp q):F8 v q 0
theorem F8.zero{v:Srv}{q:Wht}(h:F8 v q 0):ew v∧gx v.sp q:=by
 generalize hz:(0:Int)=z at h
 cases h with
 |bad h he=>exact (he hz.symm).elim
 |what=>omega
 |ok h h1=>exact ⟨h,h1⟩
theorem F8.qty{v:Srv}{q:Wht}(h:F8 v q e)(he:e≠0):HC v q 0 0 e:=by
 cases h with
 |bad h he=>exact .bad h he
 |what h h1=>exact .what h h1
 |ok=>exact (he rfl).elim
theorem Dg{v:Srv}(h:ew v){q:Wht}(hq:gx v.sp q)(i:Nat): -3456000000000≤gi (v.w q) i∧gi (v.w q) i≤3456000000000:=by
 unfold Srv.w;rw [mE];by_cases hi:i<v.sp.many+1
 ·have h1:=pj h.early.1 hq;have h2:=kO (mj v.sp q) hi;omega
 ·have:gi (mj v.sp q) i=0:=by simp [gi,List.getD,List.getElem?_eq_none (show (mj v.sp q).length≤i by rw [gY];omega)]
  rw [this];omega
def zV(w:List Int)(high:Bool):List Int:=if high then w else vK w
set_option maxHeartbeats 2000000 in
theorem qy{w:World}{s:Srv}{q:Wht}(hs:St H w σ)(h1:RI H cU s.sp.st)(h2:RI H cO s.sp.wa)(h3:RRd H vr s.rs)(h4:RCm H vc s.cs):
  ab8 201 [.agg #[I s.sp.id,I s.sp.src,cU,cO,I s.sp.al,I s.sp.up,vr,vc],.agg #[I q.kind,I q.st,I q.wa],.bool high] w fun u w'=>∃H1 m ul vw d e,HLe H H1∧u= .tuple #[.agg #[I m,ul],vw,I d,I e]∧(∃a l c,ul= .slice a l c)∧(∃a l c,vw= .slice a l c)∧F8 s q e∧(e=0→m=s.sys.many∧RL H1 ul s.dt∧RI H1 vw (zV (s.w q) high)∧d=oZ q)∧St H1 w' σ:=by
 have hn:=Dh s;refine Cl.o func201 ntmps201 ag3 ?_;refine .af (.bx hs fun b3 w hs=>?_);refine .bx hs fun b4 w hs=>?_
 refine .o (.alloc hs fb rfl fun b6 w hs=>?_);refine .z zg (.z zg (.zn zg (.af (.y hs (zls [_,_,_,_,_,_,_,_] bn aK) (.o (.call call123 rfl (mR (s:=s) hs h1 h2 h3 h4) ?_))))));rintro _ w ⟨H1,e,az,rfl,hC,hs⟩;refine .zn zg (.seq (.af (.z zm (.zn fU (.dK rfl (fun im=>?_) (fun im=>?_))))))
 ·refine .af (.z (zbd [_,_] kL) (.z zm (.o (.aJ (vs:=[_,_]) hs rfl rfl aQ fun w hs=>?_))));exact .z zg (.z zg (.zn zg (.ret (rT ((Fin.iG [] [] hs fun w hs=>⟨_,results4 results201 (dm (vs:=[_,_]) hs rfl bT aQ) rfl rfl rfl,H1,_,_,_,_,e,az,rfl,⟨_,_,_,rfl⟩,⟨_,_,_,rfl⟩,.bad hC im,fun h=>(im h).elim,hs.out⟩))))))
 ·refine .skip (nT (.seq (.af (.z (zfa a6) (.y hs (zls [_,_,_,_,_,_] bY bq) (.y hs (zls [_,_,_] pa ku) ?_))))));have aU:ew s:=hC.dr.1 (by simpa using im);have hm:=aU.many;have rk:s.sys.many+1=(s.sys.n:Int):=by rw [hn];show ((s.sp.many+s.di.length:Nat):Int)+1=_;omega
  refine .o (.call call155 rfl (xq (s:=s.sp) (q:=q) hs (h1.mono az) (h2.mono az)) ?_);rintro _ w ⟨uQ,rfl,pN,hs⟩;refine .zn fE (.cond rfl (fun gv=>?_) (fun gv=>?_))
  ·refine .af (.z (zbd [_,_] kL) (.o (.aJ (vs:=[_,_]) hs rfl rfl aQ fun w hs=>?_)));exact .z zg (.z zg (.zn zg (.ret (rT ((Fin.iG [] [] hs fun w hs=>⟨_,results4 results201 (dm (vs:=[_,_]) hs rfl bT aQ) rfl rfl rfl,H1,_,_,_,_,_,az,rfl,⟨_,_,_,rfl⟩,⟨_,_,_,rfl⟩,.what aU (fun h=>by rw [pN.2 h] at gv;cases gv),fun h=>by omega,hs.out⟩))))))
  ·refine .skip (nT (.af (.y hs (zls [_,_,_,_,_,_,_,_] bn aK) ?_)));have hq:gx s.sp q:=pN.1 (by simpa using gv);have hwb:=Dg aU hq;have BC:=rE s q;refine .o (.call call205 rfl (ma (s:=s) hs (h1.mono az) (h2.mono az) (h3.mono az) (h4.mono az) aU.early) ?_);rintro _ w ⟨H2,bp,⟨ul,rfl,hL⟩,hs⟩;obtain ⟨al,cl,rfl⟩:=RL.shape hL;have dO:=az.trans bp;refine .o (.alloc hs fb rfl fun yE w hs=>?_);refine .o (.aJ (vs:=[_,_]) hs rfl rfl aQ fun w hs=>?_);refine .nil (.af (.z (zfa a6) (.y hs (zls [_,_,_,_,_,_] bY bq) (.y hs (zls [_,_,_] pa ku) (.o (.call call156 rfl (xp (s:=s.sp) (q:=q) hs (h1.mono dO) (h2.mono dO) aU.early.1 hq) ?_))))));rintro _ w ⟨H3,vl,en,cZ,rfl,hO,hs⟩;have gK:=dO.trans cZ;have abR:=gY s.sp q;refine .z zm (.z zex (.z zex (.z zg (.zn zg (.seq (.block ?_))))));refine .loop (fun p:Nat×Value=>⟨64,[],[(12,p.2),(13,I (oZ q)),(11,Pt yE),(6,Pt b6),(2,.bool high)]⟩)
    (fun p w=>(mj s.sp q).length+p.1≤s.sys.n∧∃en,dj 1 p.2 (Is (mj s.sp q++List.replicate p.1 0)) en∧St H3 w (en:: .blk yE [I s.sys.many,.slice al s.dt.length cl]:: .blk b6 [I 0,.slice none 0 0]::σ)) (fun p=>s.sys.n - ((mj s.sp q).length+p.1)) (0,vl) aM
    ⟨by dsimp only;omega,en,by simpa using hO,hs.sb⟩ ?_
   clear hO hs;rintro ⟨j,vo⟩ w ⟨hj,en,hO,hs⟩;dsimp only at hj hO ⊢;obtain ⟨bo,cap,sp,hv,rfl,vX⟩:=hO.blk (by simp;omega);cases hv
   have hWxl:(mj s.sp q++List.replicate j 0).length=(mj s.sp q).length+j:=by simp
   generalize Y0:mj s.sp q++List.replicate j 0=Wx at*;refine .seq (.af (.z zm (.z (dk ae) (.z (zfa cz) (.y hs (zld aj) (.z cV (.zn gV (.bA rfl (fun wb=>?_) (fun wb=>?_)))))))))
   ·refine .skip (nT (.block (.region (.z zm (.o (.buildSlice (cells:=[_]) hs dw rfl rfl fun WR w hs=>?_))))));refine .o (.append (ys:=Is [0]) hs df rfl rfl hO (.own .here rfl rfl) (ki _) (fun l' h=>by simp [Is] at h;omega) ?_);intro v44 en44 w eG hs;rw [←Y0,show Is (mj s.sp q++List.replicate j 0)++Is [0]=Is (mj s.sp q++List.replicate (j+1) 0) by rw [←I6];simp [Is]] at eG;exact .zn zg (nB (nT ⟨(j+1,v44),aM,⟨by dsimp only;omega,_,eG,hs.sb⟩,by dsimp only;omega⟩))
   ·refine .exit (xT (xT (xB (nT (.cut (fun fs w=>∃W',W'=zV Wx high∧lr fs ⟨64,[],[(12,.slice (some ⟨bo,0,none⟩) Wx.length cap),(13,I (oZ q)),(11,Pt yE),(6,Pt b6)]⟩∧St H3 w (.blk bo (Is W'++sp):: .blk yE [I s.sys.many,.slice al s.dt.length cl]:: .blk b6 [I 0,.slice none 0 0]::σ)) ?_ ?_)))))
    ·refine .af (.z zm (.zn fE (.cond rfl (fun G6=>?_) (fun G6=>?_))))
     ·refine .af (.zn zg (.block ?_));have R4:Wx=s.w q:=by rw [←Y0];unfold Srv.w;rw [show j=s.di.length by omega]
      subst R4;refine .loop (fun k:Nat=>⟨64,[],[(14,I (k:Int)),(12,.slice (some ⟨bo,0,none⟩) (s.w q).length cap),(13,I (oZ q)),(11,Pt yE),(6,Pt b6)]⟩)
       (fun k w=>k≤s.sys.n∧∃L,L.length=s.sys.n∧(∀v<s.sys.n,gi L v=if v<k then -gi (s.w q) v else gi (s.w q) v)∧St H3 w (.blk bo (Is L++sp):: .blk yE [I s.sys.many,.slice al s.dt.length cl]:: .blk b6 [I 0,.slice none 0 0]::σ)) (fun k=>s.sys.n - k) 0 (.da rfl bK aM)
       ⟨Nat.zero_le _,s.w q,BC,fun v _=>by rw [if_neg ai],hs⟩ ?_
      clear hs;rintro k w ⟨hk,L,Vi,Zp,hs⟩;refine .seq (.af (.z zm (.z zm (.z (dk ae) (.zn gV (.bA rfl (fun RP=>?_) (fun RP=>?_)))))))
      ·refine .skip (nT (.seq (.block (.region (.z zm (.z zm (.z zm (.z zm ?_))))))));have OH:k<s.sys.n:=by omega
       have UB:=Zp k OH;rw [if_neg ai] at UB;have Mi:=hwb k;refine .q hs (eH (k:=k) rfl rfl ae ak rfl ai) (.q hs (eQ rfl aj (hv:=ik ai sp)) (.z BM (.q hs (eH (k:=k) rfl rfl ae ak rfl ai) (.o (.store (c':=Is (L.set k (-gi L k))++sp) hs rfl rfl ak ?_ dC (by simp [Is];omega) (kM ai sp _))))));intro w hs;refine .nil (nB (nT (.region (.z zm (.z cV (.zn zg (nT ?_)))))));exact ⟨k+1,.da rfl bK aM,⟨ai,_,by rw [List.length_set];exact Vi,fun v hv=>by
        rw [fi ai];by_cases e:v=k
        ·subst e;rw [if_pos rfl,if_pos ai,UB]
        ·rw [if_neg e,Zp v hv];by_cases e2:v<k
         ·rw [if_pos e2,if_pos ai]
         ·rw [if_neg e2,if_neg ai],hs⟩,ai⟩
      ·refine .exit (xT (xT (xB (nT ?_))));have hf:high=false:=by simpa using G6
       refine ⟨L,?_,aM,hs⟩;unfold zV;rw [hf];refine CM (by rw [Vi];simp [vK,BC]) fun v hv=>?_
       rw [Zp v ai,if_pos ai];show _=gi ((s.w q).map fun x=> -x) v;simp [gi,List.getD,List.getElem?_map];cases (s.w q)[v]? <;>simp
     ·refine .skip (nT ?_);have hf:high=true:=by simpa using G6
      exact ⟨Wx,by unfold zV;rw [hf];rfl,aM,hs⟩
    ·clear hO hs;rintro fs w ⟨W',Ek,gP,hs⟩;refine WE.sub ?_ gP;have R4:Wx=s.w q:=by rw [←Y0];unfold Srv.w;rw [show j=s.di.length by omega]
     subst R4;have U7:W'.length=(s.w q).length:=by rw [Ek];unfold zV;split<;>simp [vK]
     refine .af (.y hs (zls [_,_] bT aQ) (.z zm (.z zm (.o (.aJ (vs:=[_,_]) hs rfl rfl aQ fun w hs=>?_)))));refine .z zg (.z zg (.zn zg (.ret ?_)));obtain ⟨H4,gj,hR,hs⟩:=dj.eI (xs:=W') (v:= .slice (some ⟨bo,0,none⟩) (s.w q).length cap) (.inr ⟨bo,_,cap,sp,rfl,rfl,by simp [Is,U7],by simp [Is];omega,ai⟩) ai hs dC;exact Fin.iG [] [] hs fun w hs=>⟨_,results4 results201 (dm (vs:=[_,_]) hs rfl bT aQ) rfl rfl rfl,H4,_,_,_,_,_,gK.trans gj,rfl,⟨_,_,_,rfl⟩,⟨_,_,_,rfl⟩,.ok aU hq,fun _=>⟨rfl,hL.mono (cZ.trans gj),by rw [←Ek];exact hR,rfl⟩,hs.out⟩
set_option maxHeartbeats 1000000 in
theorem yU{w:World}{s:Srv}{q:Wht}(hs:St H w σ)(h1:RI H cU s.sp.st)(h2:RI H cO s.sp.wa)(h3:RRd H vr s.rs)(h4:RCm H vc s.cs):
  ab8 143 [.agg #[I s.sp.id,I s.sp.src,cU,cO,I s.sp.al,I s.sp.up,vr,vc],.agg #[I q.kind,I q.st,I q.wa]] w fun u w'=>∃H1 lo hi e,HLe H H1∧u= .tuple #[.agg #[I lo,I hi],I e]∧HC s q lo hi e∧St H1 w' σ:=by
 refine Cl.o func143 ntmps143 ag2 ?_;refine .af (.bx hs fun b2 w hs=>?_);refine .bx hs fun b3 w hs=>?_
 refine .o (.alloc hs dy rfl fun b4 w hs=>?_);refine .zn zg (.af (.y hs (zls [_,_,_,_,_,_,_,_] bn aK) (.y hs (zls [_,_,_] pa ku) (.o (.call call201 rfl (qy (s:=s) (q:=q) (high:=true) hs h1 h2 h3 h4) ?_)))));rintro _ w ⟨H1,m,ul,vw,d,e,az,rfl,⟨al,ll,cl,rfl⟩,⟨aw,lw,cw,rfl⟩,hA,OZ,hs⟩;refine .z zm (.z zex (.z zex (.z zex (.z zex (.o (.alloc hs fb rfl fun b6 w hs=>?_))))));refine .o (.aJ (vs:=[_,_]) hs rfl rfl aQ fun w hs=>?_);refine .z zg (.z zg (.zn zg (.seq (.af (.z zm (.zn fU (.dK rfl (fun jV=>?_) (fun jV=>?_))))))))
 ·refine .af (.z (zbd [_,_] bL) (.z zm (.o (.aJ (vs:=[_,_]) hs rfl rfl aH fun w hs=>?_))));exact .zn zg (.ret (rT ((Fin.iG [] [] hs fun w hs=>⟨_,results2 results143 (dm (vs:=[_,_]) hs rfl cE aH) rfl,H1,_,_,_,az,rfl,hA.qty jV,hs.out⟩))))
 ·refine .skip (nT (.af (.y hs (zls [_,_] bT aQ) (.z zm ?_))));obtain rfl:e=0:=by simpa using jV
  obtain ⟨rfl,hL,hR,rfl⟩:=OZ rfl;obtain ⟨aU,hq⟩:=hA.zero;refine .o (.call call204 rfl (yX (s:=s.sys) hs ⟨_,rfl,hL⟩ hR) ?_);rintro _ w ⟨H2,lo,hi,f,bp,rfl,Nl,hs⟩;have Nl:i6 s.sys (s.w q) lo hi f:=Nl;have zR:=Nl.bd;have RE:=wk q;refine .z zm (.z zex (.z zex (.z zex (.z zg (.z zg (.zn zg (.seq (.af (.z zm (.zn fU (.dK rfl (fun nQ=>?_) (fun nQ=>?_))))))))))))
  ·refine .af (.z (zbd [_,_] bL) (.o (.aJ (vs:=[_,_]) hs rfl rfl aH fun w hs=>?_)));refine .zn zg (.ret (rT (?_)));have Uk:¬s.sys.Sound:=fun h=>nQ (wv (aU.ask hq) h (fun b=>s.both) Nl)
   exact Fin.iG [] [] hs fun w hs=>⟨_,results2 results143 (dm (vs:=[_,_]) hs rfl cE aH) rfl,H2,_,_,_,az.trans bp,rfl,.fls aU hq Uk,hs.out⟩
  ·refine .skip (nT (.af (.z zm (.z zm ?_))));obtain rfl:f=0:=by simpa using nQ
   have uN:s.sys.Sound:=Classical.byContradiction fun h=>by have:=Hr (aU.ask hq) h Nl;omega
   refine .o (.call aap rfl (hZ hs ai ai) ?_);rintro _ w ⟨rfl,hs⟩;refine .z zm (.z zm (.o (.call aap rfl (hZ hs ai ai) ?_)));rintro _ w ⟨rfl,hs⟩;refine .z (zbd [_,_] bL) (.o (.aJ (vs:=[_,_]) hs rfl rfl aH fun w hs=>?_));exact .zn zg (.ret (Fin.iG [] [] hs fun w hs=>⟨_,results2 results143 (dm (vs:=[_,_]) hs rfl cE aH) rfl,H2,_,_,_,az.trans bp,rfl,.ok aU hq uN Nl,hs.out⟩))
theorem dc{w:World}{n:Int}(hs:St H w σ)(hm:1≤m∧m≤4611686018427387904):
  ab8 90 [I n,I m] w fun u w'=>∃k:Nat,(k:Int)<m∧u=I (k:Int)∧St H w' σ:=by
 have h1:=Int.tmod_lt_of_pos n (show 0<m by omega);have h2:=Int.lt_tmod_of_pos n (show 0<m by omega);have h3:=Int.tmod_lt_of_pos (n.tmod m+m) (show 0<m by omega);have h4:=Int.tmod_nonneg m (show 0≤n.tmod m+m by omega);refine Cl.o func90 ntmps90 ag2 ?_;exact .af (.zn zg (.af (.z zm (.z zm (.z Gt (.z zm (.z cV (.z zm (.z Gt (.zn zg (.ret (Fin.bu results90 rfl ⟨((n.tmod m+m).tmod m).toNat,ai,by rw [show (((n.tmod m+m).tmod m).toNat:Int)=(n.tmod m+m).tmod m by omega],hs⟩))))))))))))
theorem dR{w:World}{v:Value}{l:List Int}{i n:Int}(hs:St H w σ)(hr:RI H v l)(hi:0≤i)(hn:1≤n∧n≤4611686018427387904):
  ab8 146 [v,I i,I n] w fun u w'=>∃k:Nat,(k:Int)<n∧u=I (k:Int)∧St H w' σ:=by
 obtain ⟨a,c,rfl⟩:=RI.shape hr;refine Cl.o func146 ntmps146 ag3 ?_;refine .af (.zn zg (.seq (.af (.z zm (.z (dk ae) (.zn fJ (.bA rfl (fun om=>?_) (fun om=>?_))))))))
 ·exact .af (.zn zg (.ret (rT (Fin.bu results146 rfl ⟨0,ai,rfl,hs⟩))))
 ·refine .skip (nT (.af (.z zm (.z zm (.z zm (.z (dk ae) (.z Gt ?_)))))));have g1:=Int.tmod_lt_of_pos i (show 0<(l.length:Int) by omega);have g2:=Int.tmod_nonneg (l.length:Int) hi;refine .ixY hs hr rfl rfl ae ak (bG (l:=l) (i:=(i.tmod l.length).toNat) ai) ai ?_;intro Gq o15 fq;refine .q hs (aF rfl aj fq) (.z zm (.o (.call k9 rfl (dc hs hn) ?_)));rintro _ w ⟨k,hk,rfl,hs⟩;exact .zn zg (.ret (Fin.bu results146 rfl ⟨k,hk,rfl,hs⟩))
theorem AG{w:World}{v:Value}{s:dz}{mv:List Int}(hs:St H w σ)(hr:RSy H v s)(hp:RI H vp mv)(P6:s.Ok∧s.Sound):
  ab8 149 [v,vp] w fun u w'=>∃H1 vx x en,HLe H H1∧u= .tuple #[vx,I 0]∧dj 1 vx (Is x) en∧CW s mv x∧St H1 w' (en::σ):=by
 obtain ⟨ul,rfl,hl⟩:=hr;obtain ⟨al,cl,rfl⟩:=RL.shape hl;obtain ⟨ap,cp,rfl⟩:=RI.shape hp;refine Cl.o func149 ntmps149 ag2 ?_;refine .af (.bx hs fun b2 w hs=>?_);refine .z zg (.zn zg (.af (.y hs (zls [_,_] bT aQ) (.o (.call call147 rfl (mS (s:=s) hs ⟨_,rfl,hl⟩) ?_)))));rintro _ w ⟨H1,vt,e,az,rfl,jk,hs⟩;refine .z zm (.z zex (.z zex (.z zg (.zn zg (.seq (.af (.z zm (.zn fU (.dK rfl (fun mU=>?_) (fun mU=>?_))))))))))
 ·refine .af (.z zm (.z zg (.zn zg (.ret (rT (Fin.iz results149 rfl rfl ?_))))))
  rcases jk with ⟨h1,rfl,rfl⟩|⟨h1,h2,rfl,rfl⟩|⟨_,_,rfl,_⟩
  ·exact (h1 (s.dr.2 P6.1)).elim
  ·exact (h2 P6.2).elim
  ·exact (mU rfl).elim
 ·refine .skip (nT (.af ?_));subst mU;obtain ⟨aU,uN,rs,JT,Tb,R5⟩:s.Ok∧s.Sound∧∃rs,RT H1 vt rs∧Sq s.n rs∧kY s.n s.dL (gt rs):=by
   rcases jk with ⟨h1,h2,_⟩|⟨_,_,h2,_⟩|⟨h1,h2,_,h3⟩
   ·exact (h1 h2.symm).elim
   ·omega
   ·exact ⟨h1,h2,h3⟩
  obtain ⟨at',ct,rfl⟩:=JT.shape;have OX:=aU.V3 uN R5;have Ff:=Tb.1;have Eh:=aU.m0;have JH:=aU.m1;have BY:(s.n:Int)=s.many+1:=by simp only [dz.n];omega
  refine .o (.buildSlice (cells:=[_]) hs dw rfl rfl fun VL w hs=>?_);refine .zn zg (.seq (.af (.zn zg (.block ?_))));refine .loop (fun p:List Int×Value=>⟨109,[],[(9,I (p.1.length:Int)),(8,p.2),(6,.slice at' rs.length ct),(2,Pt b2),(1,.slice ap mv.length cp)]⟩)
   (fun p w=>SI (gt rs) (vk mv) p.1∧p.1.length≤s.n∧∃en,dj 1 p.2 (Is p.1) en∧St H1 w (en:: .blk b2 [I s.many,.slice al s.dt.length cl]::σ))
   (fun p=>s.n - p.1.length) ([0],.slice (some ⟨VL,0,none⟩) 1 1) aM
   ⟨.start,s.AO,_,.full (len:=1) rfl,hs⟩ ?_
  rintro ⟨X,v8⟩ w ⟨hP,abF,en,hO,hs⟩;dsimp only at hP abF hO ⊢;have hI:=hP.inv (fun i n hn=>Dx mv i hn) OX abF;have abH:=hI.l0;have oW:=hO;obtain ⟨b,cap,sp,rfl,rfl,vX⟩:=hO.some abH;refine .seq (.af (.z zm (.z (zfa cz) (.y hs (zld aj) (.zn pc (.bA rfl (fun jm=>?_) (fun jm=>?_)))))))
  ·refine .skip (nT (.seq (.block (.af (.zn zg ?_)))));have Hg:X.length<s.n:=by omega
   refine .af (.zn zg (.seq (.af (.z zm (.z (dk ae) (.zn zm (.for (N:=X.length) (J:=fun k fr w=>∃lo hi,fr=[(10,I lo),(11,I hi),(9,I (X.length:Int)),(8,.slice (some ⟨b,0,none⟩) X.length cap),(6,.slice at' rs.length ct),(2,Pt b2),(1,.slice ap mv.length cp)]∧LoI (gt rs) X X.length k lo∧HiI (gt rs) X X.length k hi∧St H1 w (.blk b (Is X++sp):: .blk b2 [I s.many,.slice al s.dt.length cl]::σ)) ai ?_ ?_ ?_)))))))
   ·exact .mk ⟨_,_,rfl,.start _ _ _,.start _ _ _,hs⟩
   ·rintro k fr w hk ⟨lo,hi,rfl,Tf,Tg,hs⟩;have abG:=hI.bd k hk;have Kg:(gr rs X.length).length=s.n:=Tb.2 _ Hg;have A0:(gr rs k).length=s.n:=Tb.2 _ ai;have Ej:gi (gr rs X.length) k≠1000000000→-1400000≤gi (gr rs X.length) k∧gi (gr rs X.length) k≤1400000:=fun h=>OX.bd X.length k Hg ai h
    have BD:gi (gr rs k) X.length≠1000000000→-1400000≤gi (gr rs k) X.length∧gi (gr rs k) X.length≤1400000:=fun h=>OX.bd k X.length ai Hg h
    refine .block (.af (.z zm (.zn zg (.cut (fun fs w=>∃lo',lr fs ⟨109,[],[(10,I lo'),(12,I (k:Int)),(31,I (k:Int)),(30,I (X.length:Int)),(11,I hi),(9,I (X.length:Int)),(8,.slice (some ⟨b,0,none⟩) X.length cap),(6,.slice at' rs.length ct),(2,Pt b2),(1,.slice ap mv.length cp)]⟩∧LoI (gt rs) X X.length (k+1) lo'∧St H1 w (.blk b (Is X++sp):: .blk b2 [I s.many,.slice al s.dt.length cl]::σ)) ?_ ?_))))
    ·refine .af (.z zm (.z zm (.ixT hs JT rfl rfl aC aO (show X.length<rs.length by omega) rfl ?_)));intro WS o36 a36 c36 lK R8;refine .q hs (aF rfl an lK) (.z zm (.ixY hs R8 rfl rfl ae ak (bG (l:=gr rs X.length) (i:=k) ai) rfl ?_));intro SA o39 kq;refine .q hs (aF rfl aj kq) (.zn fU (.dK rfl (fun wb=>?_) (fun wb=>?_)))
     ·refine .draw mix rfl hs fun w hs=>?_
      refine .zw 0 rfl zm ?_;refine .z 1 rfl zm ?_;refine .z 2 rfl zm ?_;refine .z 3 rfl (zix ae ak) ?_;refine .load (i:=4) hs rfl aD .none rfl aj ?_ (hv:=ik hk sp);refine .zw 5 rfl zm ?_;refine .z 6 rfl zm ?_;refine .ixT (i:=7) hs rfl aD .none JT rfl rfl aC aO (show X.length<rs.length by omega) rfl ?_;intro ZK o49 a49 c49 xL Ze;refine .r (i:=8) hs rfl aD .none (aF rfl an xL) ?_;refine .zw 9 rfl zm (.ixX (enc:=fun x=>[I x]) (i:=10) hs rfl aD .none Ze rfl rfl ae ak (bG (l:=gr rs X.length) (i:=k) ai) rfl ?_);intro b52 o52 Fp;replace Fp:=bJ.one Fp;refine .r (i:=11) hs rfl aD .none (aF rfl aj Fp) ?_;refine .zw 12 rfl gE ?_;refine .z 13 rfl Je ?_;refine .z 14 rfl zg ?_;refine .D hs ?_;exact nT ⟨_,aM,Tf.put wb (by have:=Ej wb;have:=abG;have:=OX.n65;show -1000000000≤gi X k - gi (gr rs X.length) k;omega),hs⟩
     ·exact .skip (nT ⟨_,aM,Tf.skip wb,hs⟩)
    ·rintro fs w ⟨lo',gP,Vh,hs⟩;refine WE.sub ?_ gP;refine .af (.z zm (.z zm (.ixT hs JT rfl rfl aC aO (show k<rs.length by omega) rfl ?_)));intro ab2 o58 a58 c58 zh Zd;refine .q hs (aF rfl an zh) (.z zm (.ixY hs Zd rfl rfl ae ak (bG (l:=gr rs k) (i:=X.length) ai) rfl ?_));intro Qu o61 qh;refine .q hs (aF rfl aj qh) (.zn fU (.dK rfl (fun oq=>?_) (fun oq=>?_)))
     ·refine .draw mix rfl hs fun w hs=>?_
      refine .zw 0 rfl zm ?_;refine .z 1 rfl zm ?_;refine .z 2 rfl zm ?_;refine .z 3 rfl (zix ae ak) ?_;refine .load (i:=4) hs rfl aD .none rfl aj ?_ (hv:=ik hk sp);refine .zw 5 rfl zm ?_;refine .z 6 rfl zm ?_;refine .ixT (i:=7) hs rfl aD .none JT rfl rfl aC aO (show k<rs.length by omega) rfl ?_;intro VD o71 a71 c71 vZ Za;refine .r (i:=8) hs rfl aD .none (aF rfl an vZ) ?_;refine .zw 9 rfl zm (.ixX (enc:=fun x=>[I x]) (i:=10) hs rfl aD .none Za rfl rfl ae ak (bG (l:=gr rs k) (i:=X.length) ai) rfl ?_);intro b74 o74 JM;replace JM:=bJ.one JM;refine .r (i:=11) hs rfl aD .none (aF rfl aj JM) ?_;refine .zw 12 rfl cV ?_;refine .z 13 rfl EE ?_;refine .z 14 rfl zg ?_;refine .D hs ?_;exact nB (nT (.mk ⟨lo',_,rfl,Vh,Tg.put oq (by have:=BD oq;have:=abG;have:=OX.n65;show gi X k+gi (gr rs k) X.length≤1000000000;omega),hs⟩))
     ·exact .skip (nB (nT (.mk ⟨lo',_,rfl,Vh,Tg.skip oq,hs⟩)))
   ·rintro fr w ⟨lo,hi,rfl,Tf,Tg,hs⟩;have Ei:=Tf.bd hI OX Hg (Nat.le_refl _);have hhb:=Tg.bd hI OX Hg (Nat.le_refl _);have hle:=hI.le OX Hg rfl Tf Tg;simp only [free] at Ei hhb hle;have Wm:=Dx mv ((X.length:Int) - 1) (n:=hi - lo+1);refine nT (.af (.zn zg (.cut (fun fs w=>lr fs ⟨109,[],[(13,I (mZ lo hi (vk mv ((X.length:Int) - 1) (hi - lo+1)))),(9,I (X.length:Int)),(8,.slice (some ⟨b,0,none⟩) X.length cap),(6,.slice at' rs.length ct),(2,Pt b2),(1,.slice ap mv.length cp)]⟩∧St H1 w (.blk b (Is X++sp):: .blk b2 [I s.many,.slice al s.dt.length cl]::σ)) ?_ ?_)))
    ·refine .block (.af (.z zm (.z fU (.z zm (.F1 (t':=82) rfl (fun OS=>?_) (fun OS=>?_))))))
     ·refine .T (.z zm (.T (.z fU (.z zpT (.zn zg (.dK rfl (fun vY=>?_) (fun vY=>?_)))))))
      ·refine .region (.z zm (.z zm (.z zm (.z gE (.z zm (.z zm (.z gE (.z cV (.o (.call call209 rfl (AH hs (hp.mono az) ai ai) ?_))))))))));rintro _ w ⟨rfl,hs⟩;have OC:hi≠1000000000:=by simpa using vY
       have aaR:=hle (by simpa using OS) OC;have hq3:=Wm ai;refine .z cV (.zn zg (nB (nT ⟨.da rfl ?_ aM,hs⟩)));unfold mZ;simp only [free] at*;split<;>(try split)<;>first|rfl|omega|(simp_all;done)|(exfalso;simp_all;omega)
      ·refine .af (.z zm (.z fU (.zn zg (.dK rfl (fun ON=>?_) (fun ON=>?_)))))
       ·refine .region (.z zm (.zn zg (nB (nT ⟨.da rfl ?_ aM,hs⟩))));unfold mZ;simp only [free] at*;split<;>(try split)<;>first|rfl|omega|(simp_all;done)|(exfalso;simp_all;omega)
       ·refine .af (.z zm (.z fU (.zn zg (.dK rfl (fun nU=>?_) (fun nU=>?_)))))
        ·refine .region (.z zm (.zn zg (nB (nT ⟨.da rfl ?_ aM,hs⟩))));unfold mZ;simp only [free] at*;split<;>(try split)<;>first|rfl|omega|(simp_all;done)|(exfalso;simp_all;omega)
        ·refine .skip (nB (nT ⟨.da rfl ?_ aM,hs⟩));unfold mZ;simp only [free] at*;split<;>(try split)<;>first|rfl|omega|(simp_all;done)|(exfalso;simp_all;omega)
     ·refine .Fs 2 2 true (.z zpF (.zn zg (.cF (.af (.z zm (.z fU (.zn zg (.dK rfl (fun ON=>?_) (fun ON=>?_)))))))))
      ·refine .region (.z zm (.zn zg (nB (nT ⟨.da rfl ?_ aM,hs⟩))));unfold mZ;simp only [free] at*;split<;>(try split)<;>first|rfl|omega|(simp_all;done)|(exfalso;simp_all;omega)
      ·refine .af (.z zm (.z fU (.zn zg (.dK rfl (fun nU=>?_) (fun nU=>?_)))))
       ·refine .region (.z zm (.zn zg (nB (nT ⟨.da rfl ?_ aM,hs⟩))));unfold mZ;simp only [free] at*;split<;>(try split)<;>first|rfl|omega|(simp_all;done)|(exfalso;simp_all;omega)
       ·refine .skip (nB (nT ⟨.da rfl ?_ aM,hs⟩));unfold mZ;simp only [free] at*;split<;>(try split)<;>first|rfl|omega|(simp_all;done)|(exfalso;simp_all;omega)
    ·rintro fs w ⟨gP,hs⟩;refine WE.sub ?_ gP;refine .region (.z zm (.z zm (.o (.buildSlice (cells:=[_]) hs dw rfl rfl fun VO w hs=>?_))));refine .o (.append (ys:=Is [mZ lo hi (vk mv ((X.length:Int) - 1) (hi - lo+1))]) hs df rfl rfl oW (.own .here rfl rfl) (ki _) (fun l' h=>by simp at h;have:=OX.n65;omega) ?_);intro v107 en107 w eG hs;rw [←List.map_append] at eG;exact .zn zg (nB (nT (.region (.z zm (.z cV (.zn zg (nT ⟨(X++[mZ lo hi (vk mv ((X.length:Int) - 1) (hi - lo+1))],v107),.da rfl bK aM,⟨hP.snoc Tf Tg,by simp;omega,_,eG,hs.sb⟩,by simp;omega⟩)))))))
  ·exact .exit (xT (xT (xB (nT (.af (.z zm (.z zg (.zn zg (.ret (Fin.iz results149 rfl rfl ⟨H1,_,X,_,az,rfl,oW,⟨gt rs,R5,hP,ai⟩,hs.sb⟩))))))))))
theorem rI{w:World}{s:Srv}(hs:St H w σ)(h1:RI H cU s.sp.st)(h2:RI H cO s.sp.wa)(h3:RRd H vr s.rs)(h4:RCm H vc s.cs)(he:s.early):
  ab8 148 [.agg #[I s.sp.id,I s.sp.src,cU,cO,I s.sp.al,I s.sp.up,vr,vc]] w fun u w'=>∃H1,HLe H H1∧RSy H1 u s.tm∧St H1 w' σ:=by
 obtain ⟨ar,cr,rfl⟩:=RRd.shape h3;have B0:=IV s;have Ff:=he.2.1;refine Cl.o func148 ntmps148 ag1 ?_;refine .af (.bx hs fun b1 w hs=>?_);refine .o (.alloc hs fb rfl fun b2 w hs=>?_);refine .nil (.af (.y hs (zls [_,_,_,_,_,_,_,_] bn aK) (.o (.call call205 rfl (ma (s:=s) hs h1 h2 h3 h4 he) ?_))));rintro _ w ⟨H1,az,⟨ul,rfl,hL⟩,hs⟩;have hL:RL H1 ul s.dt:=hL;obtain ⟨al,cl,rfl⟩:=RL.shape hL;have X7:=RS.len hL;rw [List.length_map] at X7;refine .o (.alloc hs fb rfl fun b3 w hs=>?_);refine .o (.aJ (vs:=[_,_]) hs rfl rfl aQ fun w hs=>?_);refine .nil (.af (.z (zfa cn) (.y hs (zld fc) (.z (zfa cn) (.y hs (zld fc) (.z (dk bj) (.z (zfa aP) (.y hs (zld dD) (.z (dk aE) (.z la (.z gE (.q hs (rO (k:=s.se.length) rfl rfl bj cD ai ai) ?_))))))))))));have hT:=RS.head hL (k:=s.se.length) ai;rw [←List.map_take,FI] at hT;refine .z (zfa cn) (.o (.store hs rfl rfl sizeOf175 fun w hs=>?_));refine .nil (.af (.y hs (zls [_,_] bT aQ) (.o (.aJ (vs:=[_,_]) hs rfl rfl aQ fun w hs=>?_))));exact .nil (.ret (Fin.iG [] [] hs fun w hs=>⟨_,results1 results148 (dm (vs:=[_,_]) hs rfl bT aQ),H1,az,⟨_,rfl,hT⟩,hs.out⟩))
theorem AD{w:World}{s:Srv}(hs:St H w σ)(h1:RI H cU s.sp.st)(h2:RI H cO s.sp.wa)(h3:RRd H vr s.rs)(h4:RCm H vc s.cs)(he:s.early)(aU:s.tm.Ok):
  ab8 91 [.agg #[I s.sp.id,I s.sp.src,cU,cO,I s.sp.al,I s.sp.up,vr,vc]] w fun u w'=>∃H1,∃b:Bool,HLe H H1∧u= .bool b∧(b=false→s.tm.Sound)∧St H1 w' σ:=by
 refine Cl.o func91 ntmps91 ag1 ?_;refine .af (.bx hs fun b1 w hs=>?_);refine .zn zg (.af (.y hs (zls [_,_,_,_,_,_,_,_] bn aK) (.o (.call call148 rfl (rI (s:=s) hs h1 h2 h3 h4 he) ?_))));rintro _ w ⟨H1,az,hS,hs⟩;refine .o (.call call147 rfl (mS (s:=s.tm) hs hS) ?_);rintro _ w ⟨H2,vt,e,bp,rfl,jk,hs⟩;refine .z zm (.z zex (.z zex (.z zg (.zn zg (.af (.z zm (.z fU (.zn zg (.ret (Fin.bu results91 rfl ?_))))))))));exact ⟨H2,_,az.trans bp,rfl,fun h=>by
  rcases jk with ⟨k1,_,_⟩|⟨_,_,k3,_⟩|⟨_,k2,_,_⟩
  ·exact (k1 (s.tm.dr.2 aU)).elim
  ·subst k3;simp at h
  ·exact k2,hs.out⟩
theorem AB{w:World}{s:Srv}{mv:List Int}(hs:St H w σ)(h1:RI H cU s.sp.st)(h2:RI H cO s.sp.wa)(h3:RRd H vr s.rs)(h4:RCm H vc s.cs)(hp:RI H vp mv)(he:s.early)(aU:s.tm.Ok∧s.tm.Sound):
  ab8 92 [.agg #[I s.sp.id,I s.sp.src,cU,cO,I s.sp.al,I s.sp.up,vr,vc],vp] w fun u w'=>∃H1 x en,HLe H H1∧dj 1 u (Is x) en∧CW s.tm mv x∧St H1 w' (en::σ):=by
 obtain ⟨ap,cp,rfl⟩:=RI.shape hp;refine Cl.o func92 ntmps92 ag2 ?_;refine .af (.bx hs fun b2 w hs=>?_);refine .zn zg (.af (.y hs (zls [_,_,_,_,_,_,_,_] bn aK) (.o (.call call148 rfl (rI (s:=s) hs h1 h2 h3 h4 he) ?_))));rintro _ w ⟨H1,az,hS,hs⟩;refine .z zm (.o (.call call149 rfl (AG (s:=s.tm) hs hS (hp.mono az) aU) ?_));rintro _ w ⟨H2,vx,x,en,bp,rfl,hO,hP,hs⟩;exact .z zm (.z zex (.z zex (.z zg (.zn zg (.af (.z zm (.zn zg (.ret (Fin.bu results92 rfl ⟨H2,x,en,az.trans bp,hO,hP,hs.sb⟩)))))))))
structure Grow(d D:Int)(L:List Int)(x:Int):Prop where
 low:d≤x
 high:x≤d+D*L.length
 all:∀i<L.length,d≤gi L i∧gi L i<x
 rise:∀i,i+1<L.length→gi L i<gi L (i+1)
theorem Grow.start(d D:Int):Grow d D [] d:=⟨ai,bK,fun i h=>by simp at h,fun i h=>by simp at h⟩
theorem Grow.snoc{D x y:Int}(h:Grow d D L x)(h1:x<y)(h2:y≤x+D):Grow d D (L++[x]) y:=by
 obtain ⟨g1,g2,g3,g4⟩:=h;refine ⟨ai,?_,fun i hi=>?_,fun i hi=>?_⟩
 ·rw [List.length_append,List.length_singleton,Int.natCast_add,Int.mul_add];omega
 ·rw [List.length_append,List.length_singleton] at hi;rw [DR];split
  ·have:=g3 i dv;omega
  ·rw [if_pos ai];omega
 ·rw [List.length_append,List.length_singleton] at hi;rw [DR,DR,if_pos ai];split
  ·exact g4 i dv
  ·rw [if_pos ai];exact (g3 i ai).2
theorem Grow.plc{D x:Int}{many:Nat}(h:Grow d D L x)(hd:0≤d)(h2:2≤L.length)(hm:L.length≤many)(hx:d+D*L.length≤most):gy many most L:=
 ⟨h2,hm,by have:=(h.all 0 ai).1;omega,by have:=(h.all (L.length - 1) ai).2;have:=h.high;omega,h.rise⟩
structure VS(s:Spc):Prop where
 ok:fB s
 st:s.st.length≤4
 wa:s.wa.length≤3
set_option maxHeartbeats 1000000 in
theorem ub{w:World}{v:Value}{l:List Int}(hs:St H w σ)(hr:RI H v l):
  ab8 89 [v] w fun u w'=>∃s cU cO e1 e2,u= .agg #[I s.id,I s.src,cU,cO,I s.al,I s.up]∧VS s∧dj 1 cU (Is s.st) e1∧dj 1 cO (Is s.wa) e2∧St H w' (e1::e2::σ):=by
 obtain ⟨av,cv,rfl⟩:=RI.shape hr;refine Cl.o func89 ntmps89 ag1 ?_;refine .af (.o (.alloc hs tv rfl fun b2 w hs=>?_));refine .nil (.af (.z zm (.o (.call qs rfl (dR hs hr ai ai) ?_))));rintro _ w ⟨Xn,g11,rfl,hs⟩;refine .z cV (.z zm (.o (.call qs rfl (dR hs hr ai ai) ?_)));rintro _ w ⟨Xk,g14,rfl,hs⟩;refine .z cV (.z (zbd [_,_,_,_,_,_] wG) (.o (.alloc hs tv rfl fun b3 w hs=>?_)));refine .o (.aJ (vs:=[_,_,_,_,_,_]) hs rfl rfl bq fun w hs=>?_);refine .nil (.af (.z zm (.o (.call qs rfl (dR hs hr ai ai) ?_))));rintro _ w ⟨Wa,g18,rfl,hs⟩;refine .z cV (.z la (.zn zg (.af (.zn zg (.seq (.af (.zn zg (.block ?_))))))));refine .loop (fun p:List Int×Int×Value=>⟨90,[],[(6,I (p.1.length:Int)),(5,I p.2.1),(4,I (100*(1+(Wa:Int)))),(0,.slice av l.length cv),(3,Pt b3),(2,Pt b2)]⟩)
  (fun p w=>p.1.length≤4∧Grow 0 2707 p.1 p.2.1∧∃en,dj 1 p.2.2 (Is p.1) en∧St H w (en:: .blk b3 [I (1+(Xn:Int)),I (1+(Xk:Int)),p.2.2,.slice none 0 0,I 0,I 0]:: .blk b2 [I 0,I 0,.slice none 0 0,.slice none 0 0,I 0,I 0]::σ)) (fun p=>4 - p.1.length) ([],0,.slice none 0 0) aM
  ⟨bK,.start _ _,_,.nil 1 none,hs.nul⟩ ?_
 clear hs;rintro ⟨L,x,vo⟩ w ⟨WH,hG,en,hO,hs⟩;dsimp only at WH hG hO hs ⊢;obtain ⟨ao,lo,co,rfl,-⟩:=hO.shape;have Eg:=hG.low;have za:=hG.high;refine .seq (.af (.z zm (.z zm (.o (.call qs rfl (dR hs hr ai ai) ?_)))));rintro _ w ⟨k23,g23,rfl,hs⟩;refine .z cV (.zn gV (.bA rfl (fun gv=>?_) (fun gv=>?_)))
 ·refine .skip (nT (.seq (.block (.af (.z (zfa bV) (.y hs (zld an) (.z zm (.o (.buildSlice (cells:=[_]) hs dw rfl rfl fun Pp w hs=>?_)))))))));refine .o (.append (ys:=Is [x]) hs df rfl rfl hO (.own .here rfl rfl) (ki _) (fun l' h=>by simp at h;omega) ?_);intro v32 en32 w eG hs;rw [←List.map_append] at eG;obtain ⟨a32,l32,c32,rfl,-⟩:=eG.shape;refine .z (zfa bV) (.o (.store hs rfl rfl aO fun w hs=>?_));refine .nil (.region (.z zm (.z zm (.z zm (.z zm (.z cV (.o (.call qs rfl (dR hs hr ai ai) ?_))))))));rintro _ w ⟨Xj,g39,rfl,hs⟩;have m41:=lH (a:=100*(1+(Wa:Int))) (b:=1+(Xj:Int)) (A:=900) (B:=3) ai ai;have m41':100≤100*(1+(Wa:Int))*(1+(Xj:Int)):=by
   have:=Int.mul_le_mul (a:=100) (c:=100*(1+(Wa:Int))) (b:=1) (d:=1+(Xj:Int)) ai ai ai ai;omega
  refine .z cV (.z la (.z cV (.z zm (.o (.call qs rfl (dR hs hr ai ai) ?_)))));rintro _ w ⟨Lw,g44,rfl,hs⟩;refine .z zm (.z zm (.z cV (.o (.call qs rfl (dR hs hr ai ai) ?_))));rintro _ w ⟨PO,g48,rfl,hs⟩;have m49:0≤(Lw:Int)*(PO:Int)∧(Lw:Int)*(PO:Int)≤1:=by
   have e1:Lw=0∨Lw=1:=by omega
   rcases e1 with rfl|rfl<;>simp<;>omega
  exact .z la (.z la (.z cV (.zn zg (nB (nT (.region (.z zm (.z cV (.zn zg (nT ⟨(L++[x],_,.slice a32 l32 c32),.da rfl bK aM,⟨by simp;omega,hG.snoc (by dsimp only;omega) (by dsimp only;omega),_,eG,hs.sb⟩,by simp;omega⟩))))))))))
 ·refine .exit (xT (xT (xB (nT (.af (.z zm ?_))))));have Vj:2≤L.length:=by omega
  refine .o (.call qs rfl (dR hs hr ai ai) ?_);rintro _ w ⟨V9,g53,rfl,hs⟩;refine .z cV (.z la (.zn zg (.af (.z zm (.o (.call qs rfl (dR hs hr ai ai) ?_))))));rintro _ w ⟨aax,g57,rfl,hs⟩;refine .z la (.zn zg (.seq (.af (.zn zg (.block ?_)))));refine .loop (fun p:List Int×Int×Value=>⟨90,[],[(9,I (p.1.length:Int)),(8,I p.2.1),(7,I (50*(1+(V9:Int)))),(0,.slice av l.length cv),(3,Pt b3),(2,Pt b2)]⟩)
   (fun p w=>p.1.length≤3∧Grow (10*(aax:Int)) 1350 p.1 p.2.1∧∃en2,dj 1 p.2.2 (Is p.1) en2∧St H w (en2:: .blk b3 [I (1+(Xn:Int)),I (1+(Xk:Int)),.slice ao lo co,p.2.2,I 0,I 0]:: .blk b2 [I 0,I 0,.slice none 0 0,.slice none 0 0,I 0,I 0]::en::σ)) (fun p=>3 - p.1.length) ([],10*(aax:Int),.slice none 0 0) aM
   ⟨bK,.start _ _,_,.nil 1 none,(hs.sb).nul⟩ ?_
  clear hs;rintro ⟨L2,y,vo2⟩ w ⟨abO,Vl,en2,eG,hs⟩;dsimp only at abO Vl eG hs ⊢;obtain ⟨ap,lp,cp,rfl,-⟩:=eG.shape;have hy0:=Vl.low;have Xq:=Vl.high;refine .seq (.af (.z zm (.z zm (.o (.call qs rfl (dR hs hr ai ai) ?_)))));rintro _ w ⟨k61,g61,rfl,hs⟩;refine .z cV (.zn gV (.bA rfl (fun oq=>?_) (fun oq=>?_)))
  ·refine .skip (nT (.seq (.block (.af (.z (zfa aZ) (.y hs (zld an) (.z zm (.o (.buildSlice (cells:=[_]) hs dw rfl rfl fun b69 w hs=>?_)))))))));refine .o (.append (ys:=Is [y]) hs df rfl rfl eG (.own .here rfl rfl) (ki _) (fun l' h=>by simp at h;omega) ?_);intro v70 en70 w iZ hs;rw [←List.map_append] at iZ;obtain ⟨a70,l70,c70,rfl,-⟩:=iZ.shape;refine .z (zfa aZ) (.o (.store hs rfl rfl aO fun w hs=>?_));refine .nil (.region (.z zm (.z zm (.z zm (.z zm (.z cV (.o (.call qs rfl (dR hs hr ai ai) ?_))))))));rintro _ w ⟨Xi,g77,rfl,hs⟩;have m79:=lH (a:=50*(1+(V9:Int))) (b:=1+(Xi:Int)) (A:=450) (B:=3) ai ai;have m79':50≤50*(1+(V9:Int))*(1+(Xi:Int)):=by
    have:=Int.mul_le_mul (a:=50) (c:=50*(1+(V9:Int))) (b:=1) (d:=1+(Xi:Int)) ai ai ai ai;omega
   exact .z cV (.z la (.z cV (.zn zg (nB (nT (.region (.z zm (.z cV (.zn zg (nT ⟨(L2++[y],_,.slice a70 l70 c70),.da rfl bK aM,⟨by simp;omega,Vl.snoc (by dsimp only;omega) (by dsimp only;omega),_,iZ,hs.sb⟩,by simp;omega⟩))))))))))
  ·refine .exit (xT (xT (xB (nT (.af (.z zm (.o (.call qs rfl (dR hs hr ai ai) ?_))))))));rintro _ w ⟨k83,g83,rfl,hs⟩;refine .z la (.z zm (.o (.call qs rfl (dR hs hr ai ai) ?_)));rintro _ w ⟨k86,g86,rfl,hs⟩;refine .z la (.z (zbd [_,_] yC) (.z (zfa eW) (.o (.aJ (vs:=[_,_]) hs rfl rfl sizeOf46 fun w hs=>?_))));refine .nil (.af (.y hs (zls [_,_,_,_,_,_] bY bq) (.o (.aJ (vs:=[_,_,_,_,_,_]) hs rfl rfl bq fun w hs=>?_))));refine .nil (.ret ?_);exact Fin.iG [] [] hs fun w hs=>⟨_,results1 results89 (dm (vs:=[_,_,_,_,_,_]) hs rfl bY bq),⟨1+(Xn:Int),1+(Xk:Int),L,L2,100*(k83:Int),100*(k86:Int)⟩,.slice ao lo co,.slice ap lp cp,en,en2,rfl,
    ⟨⟨hG.plc ai Vj ai ai,Vl.plc ai ai ai ai,by dsimp only;omega,by dsimp only;omega,by dsimp only;omega,by dsimp only;omega⟩,WH,abO⟩,hO,eG,hs.sb⟩
instance (s:Spc) (r:Rdg):Decidable (pT s r):=
 decidable_of_iff ((1≤r.src∧r.src≤99999)∧(0≤r.st∧r.st≤(s.st.length:Int) - 1)∧(0≤r.wa∧r.wa≤(s.wa.length:Int) - 1)∧(0≤r.tol∧r.tol≤1000)∧(0≤r.val∧r.val≤20000 - r.tol)∧(1≤r.tape∧r.tape≤99)∧(0≤r.day∧r.day≤100000))
  ⟨fun ⟨a,b,c,d,e,f,g⟩=>⟨a,b,c,d,e,f,g⟩,fun ⟨a,b,c,d,e,f,g⟩=>⟨a,b,c,d,e,f,g⟩⟩
def kD(s:Spc)(rs:List Rdg):List Rdg:=rs.filter fun r=>decide (pT s r)
theorem JB(s:Spc){rs:List Rdg}{k:Nat}{r:Rdg}(h:rs[k]? =some r):kD s (rs.take (k+1))=if pT s r then kD s (rs.take k)++[r] else kD s (rs.take k):=by
 unfold kD;rw [dX h,List.filter_append];by_cases e:pT s r
 ·simp [e]
 ·simp [e]
theorem AX(s:Spc)(rs:List Rdg):(kD s rs).length≤rs.length:=List.length_filter_le _ _
theorem Fa{rs:List Rdg}{r:Rdg}(h:r∈kD s rs):r∈rs∧pT s r:=by
 unfold kD at h;simpa using List.mem_filter.1 h
theorem Ow{rs:List Rdg}(h:t∈bE (kD s rs)):t∈bE rs:=by
 obtain ⟨r,h1,h2⟩:=jA.1 h;exact jA.2 ⟨r,(Fa h1).1,h2⟩
def q9(v:Srv)(x:List Int)(t:TD):Int:=gi x (v.sp.many+1+(mP v.di t).toNat)
def TY(v:Srv)(x:List Int):List Int:=x.take (v.sp.many+1)++(bE (kD v.sp v.rs)).map (q9 v x)
set_option maxHeartbeats 1000000 in
theorem AA{w:World}{rs:List Rdg}(hs:St H w σ)(hr:RRd H vr rs)(hl:rs.length≤1000000):
  ab8 96 [vr] w fun u w'=>∃en,dj 2 u (tdc (bE rs)).flatten en∧St H w' (en::σ):=by
 obtain ⟨ar,cr,rfl⟩:=RRd.shape hr;refine Cl.o func96 ntmps96 ag1 ?_;refine .af (.zn zg (.af (.zn zg (.seq (.af (.zn zg (.block ?_)))))));refine .loop (fun p:Nat×Value=>⟨32,[],[(4,I (p.1:Int)),(3,p.2),(0,.slice ar rs.length cr)]⟩)
  (fun p w=>p.1≤rs.length∧∃en,dj 2 p.2 (tdc (bE (rs.take p.1))).flatten en∧St H w (en::σ)) (fun p=>rs.length - p.1) (0,.slice none 0 0) aM
  ⟨Nat.zero_le _,_,.nil 2 none,hs.nul⟩ ?_
 rintro ⟨k,vo⟩ w ⟨hk,en,hO,hs⟩;dsimp only at hk hO ⊢;have zb:=nJ rs k ai;obtain ⟨ao,co,rfl⟩:=hO.jF (tR _) ai;rw [fG] at hO ⊢;refine .seq (.af (.z zm (.z zm (.z (dk aE) (.zn gV (.bA rfl (fun om=>?_) (fun om=>?_)))))))
 ·refine .skip (nT (.seq (.block (.seq (.draw mix rfl hs fun w hs=>?_)))));refine .zw 0 rfl zm ?_;refine .z 1 rfl zm ?_;obtain ⟨r,hx⟩:=nth (l:=rs) (k:=k) ai;have PU:=mu hx;refine .ixX (enc:=Rdg.c) (i:=2) hs rfl aD .none hr rfl rfl aE bh hx dp ?_;intro sF o14 kE;have d14:cellAt H sF (o14+5)=some (I r.tape):=kE 5 _ rfl;refine .zw 3 rfl (zfa fw) ?_;refine .y 4 rfl hs aj ?_;refine .z 5 rfl zm ?_;refine .z 6 rfl zm ?_;refine .ixX (enc:=Rdg.c) (i:=7) hs rfl aD .none hr rfl rfl aE bh hx dp ?_;intro pX o19 lM;have d19:cellAt H pX (o19+6)=some (I r.day):=lM 6 _ rfl;refine .zw 8 rfl (zfa fu) ?_;refine .y 9 rfl hs aj ?_;refine .z 10 rfl (zbd [_,_] kf) ?_;refine .E 11 hs ?_;refine .alloc hs wZ rfl ?_;intro b5 w hs;refine .go (.E 12 hs ?_);refine .aJ (vs:=[_,_]) hs rfl rfl dF ?_;intro w hs;refine .go (.D hs (.af (.z zm (.y hs (zls [_,_] kl dF) (.o (.call call95 rfl (rH (t:=r.td) (hs.sb:St H w (en:: .blk b5 [I r.tape,I r.day]::σ)) hO ai) ?_))))));rintro _ w ⟨rfl,hs⟩;have BY:=yp (l:=bE (rs.take k)) (t:=r.td);refine .zn gV (.bA rfl (fun jm=>?_) (fun jm=>?_))
  ·refine .region (.z zm (.y hs (zls [_,_] kl dF) (.o (.buildSlice (cells:=[_,_]) hs kF rfl rfl fun ab5 w hs=>?_))));refine .o (.append (ys:=r.td.c) hs fZ rfl rfl hO (.own .here rfl rfl) (by simp [TD.c,Value.oneCell']) (fun l h=>by rw [bX _ (tR _),fG] at h;omega) ?_);intro v30 en30 w eG hs;refine .zn zg (nB (nT (.region (.z zm (.z cV (.zn zg (nT ?_)))))));have hn:r.td∉bE (rs.take k):=fun hm=>by have:=BY.2 hm;omega
   rw [←Dd,show bE (rs.take k)++[r.td]=bE (rs.take (k+1)) by rw [PU];unfold wK;rw [if_neg hn]] at eG;exact ⟨(k+1,v30),.da rfl bK aM,⟨by dsimp only;omega,_,eG,hs.sb⟩,by dsimp only;omega⟩
  ·refine .skip (nB (nT (.region (.z zm (.z cV (.zn zg (nT ?_)))))));have hm:r.td∈bE (rs.take k):=BY.1 ai;exact ⟨(k+1,_),.da rfl bK aM,⟨by dsimp only;omega,en,by dsimp only;rw [PU];unfold wK;rw [if_pos hm];exact hO,hs.sb⟩,by dsimp only;omega⟩
 ·refine .exit (xT (xT (xB (nT (.af (.z zm (.zn zg (.ret (Fin.bu results96 rfl ?_)))))))));obtain rfl:k=rs.length:=by omega
  rw [List.take_length] at hO;exact ⟨en,by rw [List.take_length];exact hO,hs⟩
set_option maxHeartbeats 2000000 in
theorem u6{w:World}{s:Srv}{x:List Int}{vx:Value}(hs:St H w σ)(h1:RI H cU s.sp.st)(h2:RI H cO s.sp.wa)(h3:RRd H vr s.rs)(hc:∃a l c,vc= .slice a l c)(hx:RI H vx x)(yv:x.length=s.sys.n)(hb:s.sp.st.length≤1000∧s.sp.wa.length≤1000∧s.rs.length≤1000):
  ab8 97 [.agg #[I s.sp.id,I s.sp.src,cU,cO,I s.sp.al,I s.sp.up,vr,vc],vx] w fun u w'=>∃H1 vr' vy e1 e2,HLe H H1∧u= .tuple #[.agg #[I s.sp.id,I s.sp.src,cU,cO,I s.sp.al,I s.sp.up,vr',vc],vy]∧dj 7 vr' (rdc (kD s.sp s.rs)).flatten e1∧dj 1 vy (Is (TY s x)) e2∧St H1 w' (e1::e2::σ):=by
 obtain ⟨iV,iT,rfl⟩:=RI.shape h1;obtain ⟨gX,gW,rfl⟩:=RI.shape h2;obtain ⟨ar,cr,rfl⟩:=RRd.shape h3;obtain ⟨ac,lc,cc,rfl⟩:=hc;obtain ⟨ax,cx,rfl⟩:=RI.shape hx;have hm:s.sp.many≤1000000:=Nat.mul_le_mul hb.1 hb.2.1;have hn:=Dh s;have zb:=eL s.rs;refine Cl.o func97 ntmps97 ag2 ?_;refine .af (.bx hs fun b2 w hs=>?_);refine .o (.alloc hs js rfl fun b4 w hs=>?_);refine .zn zg (.af (.z (zfa aP) (.y hs (zld dD) (.o (.call call96 rfl (jG (rs:=s.rs) hs h3 ai) ?_)))));rintro v15 w ⟨H1,az,hT,hs⟩;obtain ⟨at',ct,rfl⟩:=RTd.shape hT;refine .zn zg (.af (.z (zfa a6) (.y hs (zls [_,_,_,_,_,_] bY bq) (.o (.call call94 rfl (gD (s:=s.sp) hs (h1.mono az) (h2.mono az) ⟨hb.1,hb.2.1⟩) ?_)))));rintro _ w ⟨rfl,hs⟩;refine .zn zg (.af (.y hs (zls [_,_,_,_,_,_,_,_] bn aK) (.o (.alloc hs js rfl fun b8 w hs=>?_))));refine .o (.aJ (vs:=[_,_,_,_,_,_,_,_]) hs rfl rfl aK fun w hs=>?_);refine .nil (.af (.z (zfa aP) (.o (.store hs rfl rfl sizeOf49 fun w hs=>?_))));refine .nil (.seq (.af (.zn zg (.block ?_))));refine .loop (fun p:Nat×Value=>⟨78,[],[(9,I (p.1:Int)),(8,Pt b8),(7,I (s.sp.many:Int)),(6,.slice at' (bE s.rs).length ct),(4,Pt b4),(2,Pt b2),(1,.slice ax x.length cx)]⟩)
  (fun p w=>p.1≤s.rs.length∧∃en,dj 7 p.2 (rdc (kD s.sp (s.rs.take p.1))).flatten en∧St H1 w (en:: .blk b8 [I s.sp.id,I s.sp.src,.slice iV s.sp.st.length iT,.slice gX s.sp.wa.length gW,I s.sp.al,I s.sp.up,p.2,.slice ac lc cc]:: .blk b4 [I 0,I 0,.slice none 0 0,.slice none 0 0,I 0,I 0,.slice none 0 0,.slice none 0 0]:: .blk b2 [I s.sp.id,I s.sp.src,.slice iV s.sp.st.length iT,.slice gX s.sp.wa.length gW,I s.sp.al,I s.sp.up,.slice ar s.rs.length cr,.slice ac lc cc]::σ)) (fun p=>s.rs.length - p.1) (0,.slice none 0 0) aM
  ⟨Nat.zero_le _,_,.nil 7 none,hs.nul⟩ ?_
 clear hs;rintro ⟨k,vo⟩ w ⟨hk,en,hO,hs⟩;dsimp only at hk hO hs ⊢;have pV:=AX s.sp (s.rs.take k);rw [List.length_take] at pV;obtain ⟨ao,lo,co,rfl,-⟩:=hO.shape;refine .seq (.af (.z zm (.z (zfa aP) (.y hs (zld dD) (.z (dk aE) (.zn gV (.bA rfl (fun gv=>?_) (fun gv=>?_))))))))
 ·refine .skip (nT (.seq (.block (.seq (.draw mix rfl hs fun w hs=>?_)))));refine .zw 0 rfl (zfa a6) ?_;refine .ys 1 rfl hs [_,_,_,_,_,_] bY bq ?_;refine .z 2 rfl (zfa aP) ?_;refine .y 3 rfl hs dD ?_;refine .z 4 rfl zm ?_;obtain ⟨r,hr⟩:=nth (l:=s.rs) (k:=k) ai;have aaL:=JB s.sp hr;refine .ixX (enc:=Rdg.c) (i:=5) hs rfl aD .none (h3.mono az) rfl rfl aE bh hr dp ?_;intro WT o33 nQ;refine .r (i:=6) hs rfl aD .none (cj (vs:=r.c) rfl km bh nQ) ?_;refine .E 7 hs ?_;refine .call call150 rfl (lC (s:=s.sp) (r:=r) hs (h1.mono az) (h2.mono az)) ?_;rintro _ w ⟨Po,rfl,G8,hs⟩;refine .go (.D hs (.cond rfl (fun nv=>?_) (fun nv=>?_)))
  ·refine .draw mix rfl hs fun w hs=>?_
   refine .zw 0 rfl (zfa aP) ?_;refine .y 1 rfl hs dD ?_;refine .z 2 rfl (zfa aP) ?_;refine .y 3 rfl hs dD ?_;refine .z 4 rfl zm ?_;refine .ixX (enc:=Rdg.c) (i:=5) hs rfl aD .none (h3.mono az) rfl rfl aE bh hr dp ?_;intro VI o41 wb;refine .r (i:=6) hs rfl aD .none (cj (vs:=r.c) rfl km bh wb) ?_;refine .E 7 hs ?_;refine .buildSlice (cells:=r.c) hs jc rfl aD ?_;intro WR w hs;refine .go (.E 8 hs ?_);refine .append (ys:=r.c) hs eT rfl rfl hO (.own .here rfl rfl) (by simp [Rdg.c,Value.oneCell']) (fun l' h=>by rw [bX _ (me _),dT] at h;omega) ?_;intro v44 en44 w eG hs;rw [←zK,show kD s.sp (s.rs.take k)++[r]=kD s.sp (s.rs.take (k+1)) by rw [aaL,if_pos (G8.1 (by simpa using nv))]] at eG;obtain ⟨a44,l44,c44,rfl,-⟩:=eG.shape;refine .go (.zw 9 rfl (zfa aP) (.E 10 hs ?_));refine .store hs rfl rfl sizeOf49 ?_;intro w hs;exact .go (.D hs (nB (nT (.region (.z zm (.z cV (.zn zg (nT ⟨(k+1,.slice a44 l44 c44),.da rfl bK aM,⟨by dsimp only;omega,_,eG,hs.sb⟩,by dsimp only;omega⟩))))))))
  ·exact .skip (nB (nT (.region (.z zm (.z cV (.zn zg (nT ⟨(k+1,.slice ao lo co),.da rfl bK aM,⟨by dsimp only;omega,en,by dsimp only;rw [aaL,if_neg (fun h=>by rw [G8.2 h] at nv;cases nv)];exact hO,hs.sb⟩,by dsimp only;omega⟩)))))))
 ·refine .exit (xT (xT (xB (nT (.af ?_)))));obtain rfl:k=s.rs.length:=by omega
  rw [List.take_length] at hO;refine .o (.buildSlice (cells:=[]) hs sC rfl rfl fun WQ w hs=>?_);refine .z zm (.z zm (.z cV (.q hs (rO (k:=s.sp.many+1) rfl rfl ae ak rfl (by have:=(RS.len hx).2.1;omega)) ?_)));refine .o (.append (xs:=[]) (ys:=Is (x.take (s.sp.many+1))) hs df rfl rfl (.full (len:=0) rfl) (.ints (RI.head (hx.mono az) (k:=s.sp.many+1) ai)) (ki _) (fun l h=>by simp at h;rw [List.length_take];omega) ?_);intro v51 en51 w iZ hs;rw [List.nil_append] at iZ;refine .zn zg (.af (.z (zfa aP) (.y hs (zld dD) ?_)));have pV:=AX s.sp s.rs;obtain ⟨H2,bp,hRR,Gj,back⟩:=hO.Ir (me _) ai (by rw [dT];omega) (hs.sb:St H1 w (en::en51:: .blk b8 [I s.sp.id,I s.sp.src,.slice iV s.sp.st.length iT,.slice gX s.sp.wa.length gW,I s.sp.al,I s.sp.up,.slice ao lo co,.slice ac lc cc]:: .blk b4 [I 0,I 0,.slice none 0 0,.slice none 0 0,I 0,I 0,.slice none 0 0,.slice none 0 0]:: .blk b2 [I s.sp.id,I s.sp.src,.slice iV s.sp.st.length iT,.slice gX s.sp.wa.length gW,I s.sp.al,I s.sp.up,.slice ar s.rs.length cr,.slice ac lc cc]::σ));refine .o (.call call96 rfl (AA (rs:=kD s.sp s.rs) Gj hRR ai) ?_);rintro v54 w ⟨enT,hOT,hsT⟩;have hs:=back (HLe.refl _) hsT;have Xy:=eL (kD s.sp s.rs);obtain ⟨H3,cZ,U9,hs⟩:=dj.dn (m:=2) (cs:=tdc (bE (kD s.sp s.rs))) hOT (tR _) ai (by rw [fG];omega) hs (.there .here);have U9:RTd H3 v54 (bE (kD s.sp s.rs)):=U9;obtain ⟨a54,c54,rfl⟩:=RTd.shape U9;refine .zn zg (.seq (.af (.zn zg (.block ?_))));refine .loop (fun p:Nat×Value=>⟨78,[],[(12,I (p.1:Int)),(10,p.2),(11,.slice a54 (bE (kD s.sp s.rs)).length c54),(8,Pt b8),(7,I (s.sp.many:Int)),(6,.slice at' (bE s.rs).length ct),(4,Pt b4),(1,.slice ax x.length cx)]⟩)
   (fun p w=>p.1≤(bE (kD s.sp s.rs)).length∧∃en2,dj 1 p.2 (Is (x.take (s.sp.many+1)++((bE (kD s.sp s.rs)).take p.1).map (q9 s x))) en2∧St H3 w (en2:: .blk b8 [I s.sp.id,I s.sp.src,.slice iV s.sp.st.length iT,.slice gX s.sp.wa.length gW,I s.sp.al,I s.sp.up,.slice ao lo co,.slice ac lc cc]:: .blk b4 [I 0,I 0,.slice none 0 0,.slice none 0 0,I 0,I 0,.slice none 0 0,.slice none 0 0]::en::σ)) (fun p=>(bE (kD s.sp s.rs)).length - p.1) (0,v51) aM
   ⟨Nat.zero_le _,en51,by simpa using iZ,hs.sb⟩ ?_
  clear hs;rintro ⟨j,vy⟩ w ⟨hj,en2,q8,hs⟩;dsimp only at hj q8 hs ⊢;obtain ⟨ay,ly,cy,rfl,-⟩:=q8.shape;refine .seq (.af (.z zm (.z zm (.z (dk cI) (.zn gV (.bA rfl (fun zh=>?_) (fun zh=>?_)))))))
  ·refine .skip (nT (.seq (.block (.region (.z zm (.z zm (.z zm (.z cV (.z zm (.z zm (.z zm ?_)))))))))));obtain ⟨t,ht⟩:=nth (l:=bE (kD s.sp s.rs)) (k:=j) ai;have htm:t∈s.di:=Ow (List.mem_of_getElem? ht);obtain ⟨q,q1,q2,q3⟩:=jY htm;have q3':q<(bE s.rs).length:=q3;have q1':mP (bE s.rs) t=(q:Int):=q1;have hnt:s.sys.n=s.sp.many+(bE s.rs).length+1:=hn;have Yq:q9 s x t=gi x (s.sp.many+1+q):=by unfold q9;rw [q1,Int.toNat_natCast]
   refine .ixX (enc:=TD.c) hs U9 rfl rfl cI dF ht dp ?_;intro b68 o68 YH;refine .q hs (cj (vs:=t.c) rfl kl dF YH) (.o (.call call95 rfl (mQ (t:=t) hs (hT.mono cZ) ai) ?_));rintro _ w ⟨rfl,hs⟩;rw [q1'];refine .z cV (.ixY hs (hx.mono (az.trans cZ)) rfl rfl ae ak (bG (l:=x) (i:=s.sp.many+1+q) ai) ai ?_);intro b72 o72 LZ;refine .q hs (aF rfl aj LZ) (.o (.buildSlice (cells:=[_]) hs dw rfl rfl fun b74 w hs=>?_));refine .o (.append (ys:=Is [gi x (s.sp.many+1+q)]) hs df rfl rfl q8 (.own .here rfl rfl) (ki _) (fun l' h=>by simp at h;omega) ?_);intro v75 en75 w B9 hs;rw [←List.map_append,List.append_assoc,←Yq,show ((bE (kD s.sp s.rs)).take j).map (q9 s x)++[q9 s x t]=((bE (kD s.sp s.rs)).take (j+1)).map (q9 s x) by rw [dX ht];simp] at B9;obtain ⟨a75,l75,c75,rfl,-⟩:=B9.shape;exact .zn zg (nB (nT (.region (.z zm (.z cV (.zn zg (nT ⟨(j+1,.slice a75 l75 c75),.da rfl bK aM,⟨by dsimp only;omega,_,B9,hs.sb⟩,by dsimp only;omega⟩)))))))
  ·refine .exit (xT (xT (xB (nT (.af (.y hs (zls [_,_,_,_,_,_,_,_] bn aK) (.z zm (.o (.aJ (vs:=[_,_,_,_,_,_,_,_]) hs rfl rfl aK fun w hs=>?_)))))))));refine .zn zg (.ret ?_);obtain rfl:j=(bE (kD s.sp s.rs)).length:=by omega
   rw [List.take_length] at q8;exact Fin.iG [] [] hs fun w hs=>⟨_,results2 results97 (dm (vs:=[_,_,_,_,_,_,_,_]) hs rfl bn aK) rfl,H3,_,_,en,en2,az.trans cZ,rfl,hO,q8,hs.sb⟩
theorem JA{rs R:List Rdg}{cs:List Cmp}{x:List Int}(hf:jU (Srv.tm ⟨s,rs,cs⟩).dL (gi x))(Eg:gi x 0=0)(yv:x.length=s.many+(bE rs).length+1)(ht:bE R=bE rs)(hS:∀r∈R,RdS s r)(hR:∀r∈R,M7 s (bE rs) x r):
  M9 ⟨s,kD s R,cs⟩ (TY ⟨s,R,cs⟩ x):=by
 have hl:(x.take (s.many+1)).length=s.many+1:=by rw [List.length_take];omega
 refine Lm (R:=R) (x:=x) List.filter_sublist hS Eg (MC hf ht hR) ?_ (fun b hb=>?_) fun j hj=>?_
 ·show (x.take (s.many+1)++(bE (kD s R)).map (q9 ⟨s,R,cs⟩ x)).length=_;rw [List.length_append,hl,List.length_map]
 ·show gi (x.take (s.many+1)++(bE (kD s R)).map (q9 ⟨s,R,cs⟩ x)) b=_;unfold gi;simp only [List.getD];rw [List.getElem?_append_left ai,List.getElem?_take_of_lt ai]
 ·show gi (x.take (s.many+1)++(bE (kD s R)).map (q9 ⟨s,R,cs⟩ x)) (s.many+1+j)=_;have e:∀t,(bE (kD s R))[j]? =some t→gi (x.take (s.many+1)++(bE (kD s R)).map (q9 ⟨s,R,cs⟩ x)) (s.many+1+j)=q9 ⟨s,R,cs⟩ x t:=fun t ht=>by
   unfold gi;simp only [List.getD];rw [List.getElem?_append_right ai,hl,show s.many+1+j - (s.many+1)=j by omega,List.getElem?_map,ht];rfl
  rw [e _ (Gw hj)];rfl
set_option maxHeartbeats 2000000 in
theorem BQ{w:World}(hs:St H w σ)(g1:RI H vs sl)(g2:RF5 H v5 iB)(g3:RF4 H v4 iP)(g4:RI H vp pk):
  ab8 31 [.agg #[vs,v5,v4,vp,I z1,I z2,I z3]] w fun u w'=>∃H1 s y cU cO vr vc vy e1 e2 e3 e4 e5,HLe H H1∧u= .tuple #[.agg #[I s.sp.id,I s.sp.src,cU,cO,I s.sp.al,I s.sp.up,vr,vc],vy]∧aad s∧QA s cU cO vr vc e1 e2 e3 e4∧dj 1 vy (Is y) e5∧M9 s y∧St H1 w' (e1::e2::e3::e4::e5::σ):=by
 obtain ⟨avs,cvs,rfl⟩:=RI.shape g1;obtain ⟨av5,cv5,rfl⟩:=g2.shape;obtain ⟨av4,cv4,rfl⟩:=g3.shape;obtain ⟨avp,cvp,rfl⟩:=RI.shape g4;refine Cl.o func31 ntmps31 ag1 ?_;refine .af (.bx hs fun b1 w hs=>?_);refine .o (.alloc hs js rfl fun b2 w hs=>?_);refine .zn zg (.af (.z (zfa sr) (.y hs (zld an) (.o (.call call89 rfl (ub hs g1) ?_)))));rintro _ w ⟨s,cU,cO,e1,e2,rfl,IG,oW,eG,hs⟩;have Va:=IG.st;have U8:=IG.wa;have hSt2:=IG.ok.st.two;have hWa2:=IG.ok.wa.two;obtain ⟨iV,lst,iT,rfl,X5⟩:=oW.shape;obtain ⟨gX,lwa,gW,rfl,X4⟩:=eG.shape;obtain rfl:s.st.length=lst:=by simpa [Is] using X5
 obtain rfl:s.wa.length=lwa:=by simpa [Is] using X4
 refine .z (zbd [_,_,_,_,_,_,_,_] tK) (.o (.alloc hs js rfl fun b4 w hs=>?_));refine .o (.aJ (vs:=[_,_,_,_,_,_,_,_]) hs rfl rfl aK fun w hs=>?_);refine .nil (.af (.z (zfa a6) (.y hs (zls [_,_,_,_,_,_] bY bq) (.o (.alloc hs tv rfl fun b5 w hs=>?_)))));refine .o (.aJ (vs:=[_,_,_,_,_,_]) hs rfl rfl bq fun w hs=>?_);refine .nil (.cut (fun fs w=>∃rs e3 ar cr,lr fs ⟨208,[],[(5,Pt b5),(4,Pt b4),(2,Pt b2),(1,Pt b1)]⟩∧rs.length≤14∧rs.length≤iB.length∧(∀r∈rs,pT s r)∧dj 7 (.slice ar rs.length cr) (rdc rs).flatten e3∧St H w (e3:: .blk b5 [I s.id,I s.src,.slice iV s.st.length iT,.slice gX s.wa.length gW,I s.al,I s.up]:: .blk b4 [I s.id,I s.src,.slice iV s.st.length iT,.slice gX s.wa.length gW,I s.al,I s.up,.slice ar rs.length cr,.slice none 0 0]::e1::e2:: .blk b2 [I 0,I 0,.slice none 0 0,.slice none 0 0,I 0,I 0,.slice none 0 0,.slice none 0 0]:: .blk b1 [.slice avs sl.length cvs,.slice av5 iB.length cv5,.slice av4 iP.length cv4,.slice avp pk.length cvp,I z1,I z2,I z3]::σ)) ?_ ?_)
 ·refine .af (.zn zg (.block ?_));refine .loop (fun p:List Rdg×Option Addr×Nat=>⟨208,[],[(6,I (p.1.length:Int)),(5,Pt b5),(4,Pt b4),(2,Pt b2),(1,Pt b1)]⟩)
   (fun p w=>p.1.length≤14∧p.1.length≤iB.length∧(∀r∈p.1,pT s r)∧∃e3,dj 7 (.slice p.2.1 p.1.length p.2.2) (rdc p.1).flatten e3∧
    St H w (e3:: .blk b5 [I s.id,I s.src,.slice iV s.st.length iT,.slice gX s.wa.length gW,I s.al,I s.up]:: .blk b4 [I s.id,I s.src,.slice iV s.st.length iT,.slice gX s.wa.length gW,I s.al,I s.up,.slice p.2.1 p.1.length p.2.2,.slice none 0 0]::e1::e2:: .blk b2 [I 0,I 0,.slice none 0 0,.slice none 0 0,I 0,I 0,.slice none 0 0,.slice none 0 0]:: .blk b1 [.slice avs sl.length cvs,.slice av5 iB.length cv5,.slice av4 iP.length cv4,.slice avp pk.length cvp,I z1,I z2,I z3]::σ)) (fun p=>14 - p.1.length) ([],none,0) aM
   ⟨bK,bK,bK,_,.nil 7 none,(hs.sb).nul⟩ ?_
  clear hs;rintro ⟨rs,ar,cr⟩ w ⟨GW,Wj,AZ,e3,iZ,hs⟩;dsimp only at GW Wj AZ iZ hs ⊢;refine .seq (.af (.z zm (.z (zfa j8) (.y hs (zld isAgg35) (.z (dk runUnderlying35) (.z gV (.z zm (.ie (t':=31) rfl (fun zk=>?_) (fun zk=>?_)))))))))
  ·refine .T (.z zm (.T (.z gV (.zn zpT (.bA rfl (fun kJ=>?_) (fun kJ=>?_))))))
   ·refine .skip (nT (.seq (.block (.af (.z (zfa j8) (.y hs (zld isAgg35) (.z zm ?_)))))));obtain ⟨n,hn⟩:=nth (l:=iB) (k:=rs.length) ai;refine .ixX (enc:=F5.v) hs g2 rfl rfl runUnderlying35 V0 hn dp ?_;intro VJ o40 pK;refine .q hs (cj (vs:=n.v) rfl isAgg151 V0 pK) (.o (.alloc hs zeroValue151 rfl fun b7 w hs=>?_));refine .o (.aJ (vs:=[_,_,_,_,_]) hs rfl rfl V0 fun w hs=>?_);refine .nil (.seq (.draw mix rfl hs fun w hs=>?_));refine .zw 0 rfl (zia 4 nG ak) (.zv 1 rfl hs (qf aj) (.zw 3 rfl (zia 4 nG ak) (.y 4 rfl hs aj ?_)));refine .z 5 rfl SM ?_;refine .E 2 hs ?_;refine .call k9 rfl (dc hs ai) ?_;rintro _ w ⟨Lw,g44,rfl,hs⟩;refine .go (.E 6 hs ?_);refine .call k9 rfl (dc hs ai) ?_;rintro _ w ⟨PO,g48,rfl,hs⟩;have m49:0≤(Lw:Int)*(PO:Int)∧(Lw:Int)*(PO:Int)≤39:=by
     have e1:PO=0∨PO=1:=by omega
     rcases e1 with rfl|rfl<;>simp<;>omega
    refine .go (.zw 7 rfl la ?_);refine .z 8 rfl zg ?_;refine .D hs ?_;refine .draw mix rfl hs fun w hs=>?_
    refine .zw 0 rfl (zfa aP) ?_;refine .y 1 rfl hs dD ?_;refine .z 2 rfl zm ?_;refine .z 3 rfl cV ?_;refine .zw 4 rfl (zia 0 nG ak) (.y 5 rfl hs aj ?_);refine .z 6 rfl (zfa bV) ?_;refine .y 7 rfl hs an ?_;refine .z 8 rfl (dk ae) ?_;refine .zw 10 rfl (zia 1 nG ak) (.y 11 rfl hs aj ?_);refine .z 12 rfl (zfa aZ) ?_;refine .y 13 rfl hs an ?_;refine .z 14 rfl (dk ae) ?_;refine .z 16 rfl zm ?_;refine .zw 17 rfl (zia 2 nG ak) (.zv 18 rfl hs (qf aj) (.zw 21 rfl (zia 3 nG ak) (.zv 22 rfl hs (qf aj) (.E 9 hs ?_))));refine .call k9 rfl (dc hs ai) ?_;rintro _ w ⟨V8,g59,rfl,hs⟩;refine .go (.E 15 hs ?_);refine .call k9 rfl (dc hs ai) ?_;rintro _ w ⟨k65,g65,rfl,hs⟩;refine .go (.E 19 hs ?_);refine .call k9 rfl (dc hs ai) ?_;rintro _ w ⟨k69,g69,rfl,hs⟩;refine .go (.zw 20 rfl cV (.E 23 hs ?_));refine .call k9 rfl (dc hs ai) ?_;rintro _ w ⟨k73,g73,rfl,hs⟩;obtain ⟨r,hr⟩:∃r:Rdg,r=⟨10+(rs.length:Int),(V8:Int),(k65:Int),0,(Lw:Int)*(PO:Int),1+(k69:Int),(k73:Int)⟩:=⟨_,rfl⟩;have LK:pT s r:=by subst hr;exact ⟨by dsimp only;omega,by dsimp only;omega,by dsimp only;omega,by dsimp only;omega,by dsimp only;omega,by dsimp only;omega,by dsimp only;omega⟩
    refine .go (.zw 24 rfl (zbd [_,_,_,_,_,_,_] kg) (.E 25 hs ?_));refine .buildSlice (cells:=r.c) hs jc rfl (by subst hr;kernel_rfl) ?_;intro ZH w hs;refine .go (.E 26 hs ?_);refine .append (ys:=r.c) hs eT rfl rfl iZ (.own .here rfl rfl) (by simp [Rdg.c,Value.oneCell']) (fun l' h=>by rw [bX _ (me _),dT] at h;omega) ?_;intro v76 en76 w q8 hs;rw [←zK] at q8;obtain ⟨a76,c76,rfl⟩:=q8.jF (me _) ai;rw [dT] at q8 ⊢;refine .go (.zw 27 rfl (zfa aP) (.E 28 hs ?_));refine .store hs rfl rfl sizeOf49 ?_;intro w hs;refine .go (.D hs (nB (nT (.region (.z zm (.z cV (.zn zg (nT ?_))))))));exact ⟨(rs++[r],a76,c76),.da rfl bK aM,⟨by simp;omega,by simp;omega,fun q hq=>by
      simp only [List.mem_append,List.mem_singleton] at hq
      rcases hq with hq|rfl
      ·exact AZ q hq
      ·exact LK,_,q8,hs.sb⟩,by simp;omega⟩
   ·exact .exit (xT (xT (xB (nT ⟨rs,e3,ar,cr,aM,GW,Wj,AZ,iZ,hs⟩))))
  ·exact .Fs 2 5 true (.zn zpF (.cF (.exit (xT (xT (xB (nT ⟨rs,e3,ar,cr,aM,GW,Wj,AZ,iZ,hs⟩)))))))
 ·clear hs;rintro fs w ⟨rs,e3,ar,cr,gP,GW,Wj,AZ,iZ,hs⟩;refine WE.sub ?_ gP;clear gP;refine .cut (fun fs w=>∃cs e4 ac cc,lr fs ⟨208,[],[(5,Pt b5),(4,Pt b4),(2,Pt b2),(1,Pt b1)]⟩∧cs.length≤5∧(∀c∈cs,uK c)∧(Srv.tm ⟨s,rs,cs⟩).Sound∧dj 6 (.slice ac cs.length cc) (cmc cs).flatten e4∧St H w (e1::e2::e3::e4:: .blk b5 [I s.id,I s.src,.slice iV s.st.length iT,.slice gX s.wa.length gW,I s.al,I s.up]:: .blk b4 [I s.id,I s.src,.slice iV s.st.length iT,.slice gX s.wa.length gW,I s.al,I s.up,.slice ar rs.length cr,.slice ac cs.length cc]:: .blk b2 [I 0,I 0,.slice none 0 0,.slice none 0 0,I 0,I 0,.slice none 0 0,.slice none 0 0]:: .blk b1 [.slice avs sl.length cvs,.slice av5 iB.length cv5,.slice av4 iP.length cv4,.slice avp pk.length cvp,I z1,I z2,I z3]::σ)) ?_ ?_
  ·refine .af (.zn zg (.block ?_));refine .loop (fun p:Nat×List Cmp×Option Addr×Nat=>⟨208,[],[(9,I (p.1:Int)),(5,Pt b5),(4,Pt b4),(2,Pt b2),(1,Pt b1)]⟩)
    (fun p w=>p.1≤5∧p.1≤iP.length∧p.2.1.length≤p.1∧(∀c∈p.2.1,uK c)∧(Srv.tm ⟨s,rs,p.2.1⟩).Sound∧∃e4,dj 6 (.slice p.2.2.1 p.2.1.length p.2.2.2) (cmc p.2.1).flatten e4∧
     St H w (e1::e2::e3::e4:: .blk b5 [I s.id,I s.src,.slice iV s.st.length iT,.slice gX s.wa.length gW,I s.al,I s.up]:: .blk b4 [I s.id,I s.src,.slice iV s.st.length iT,.slice gX s.wa.length gW,I s.al,I s.up,.slice ar rs.length cr,.slice p.2.2.1 p.2.1.length p.2.2.2]:: .blk b2 [I 0,I 0,.slice none 0 0,.slice none 0 0,I 0,I 0,.slice none 0 0,.slice none 0 0]:: .blk b1 [.slice avs sl.length cvs,.slice av5 iB.length cv5,.slice av4 iP.length cv4,.slice avp pk.length cvp,I z1,I z2,I z3]::σ)) (fun p=>5 - p.1) (0,[],none,0) aM
    ⟨bK,bK,bK,bK,MD (DD IG.ok Va U8 GW bK AZ bK) rfl,.nul,.nil 6 none,(hs.nul).sb⟩ ?_
   clear hs;rintro ⟨k,cs,ac,cc⟩ w ⟨hk5,hkf,Yx,Fm,uN,e4,q8,hs⟩;dsimp only at hk5 hkf Yx Fm uN q8 hs ⊢;refine .seq (.af (.z zm (.z (zfa mG) (.y hs (zld isAgg36) (.z (dk runUnderlying36) (.z gV (.z zm (.ie (t':=83) rfl (fun YR=>?_) (fun YR=>?_)))))))))
   ·refine .T (.z zm (.T (.z gV (.zn zpT (.bA rfl (fun YC=>?_) (fun YC=>?_))))))
    ·refine .skip (nT (.seq (.block (.af (.z (zfa mG) (.y hs (zld isAgg36) (.z zm ?_)))))));obtain ⟨n,hn⟩:=nth (l:=iP) (k:=k) ai;refine .ixX (enc:=F4.v) hs g3 rfl rfl runUnderlying36 sizeOf97 hn dp ?_;intro b92 o92 RH;refine .q hs (cj (vs:=n.v) rfl isAgg97 sizeOf97 RH) (.o (.alloc hs zeroValue97 rfl fun pb w hs=>?_));refine .o (.aJ (vs:=[_,_,_,_]) hs rfl rfl sizeOf97 fun w hs=>?_);refine .nil (.af (.z (zia 1 HL ak) (.y hs (zld aj) (.o (.call k9 rfl (dc hs ai) ?_)))));rintro _ w ⟨aaw,g96,rfl,hs⟩;refine .z gE (.zn zg (.af (.z (zia 3 HL ak) (.y hs (zld aj) (.o (.call k9 rfl (dc hs ai) ?_))))));rintro _ w ⟨T0,g100,rfl,hs⟩;refine .zn zg (.seq (.draw mix rfl hs fun w hs=>?_));refine .zw 0 rfl (zfa cQ) ?_;refine .y 1 rfl hs kv ?_;refine .z 2 rfl zm ?_;refine .z 3 rfl cV ?_;refine .zw 4 rfl (zia 0 HL ak) (.y 5 rfl hs aj ?_);refine .z 8 rfl zm ?_;refine .z 9 rfl zm ?_;refine .zw 10 rfl (zia 3 HL ak) (.y 11 rfl hs aj ?_);refine .z 12 rfl SM ?_;refine .z 15 rfl zm ?_;refine .z 16 rfl zm ?_;refine .zw 17 rfl (zia 2 HL ak) (.zv 18 rfl hs (qf aj) (.E 6 hs ?_));refine .call k9 rfl (dc hs ai) ?_;rintro _ w ⟨Xo,g107,rfl,hs⟩;refine .go (.zw 7 rfl cV (.E 13 hs ?_));refine .call k9 rfl (dc hs ai) ?_;rintro _ w ⟨Xm,g114,rfl,hs⟩;refine .go (.zw 14 rfl cV (.E 19 hs ?_));refine .call k9 rfl (dc hs ai) ?_;rintro _ w ⟨Xl,g120,rfl,hs⟩;obtain ⟨c,hc⟩:∃c:Cmp,c=⟨30+(k:Int),1+(Xo:Int),(T0:Int),(T0:Int)+(Xm:Int),(aaw:Int) - 40,(aaw:Int) - 40+(Xl:Int)⟩:=⟨_,rfl⟩;have Yz:uK c:=by subst hc;exact ⟨by dsimp only;omega,by dsimp only;omega,by dsimp only;omega,by dsimp only;omega,by dsimp only;omega,by dsimp only;omega⟩
     refine .go (.zw 20 rfl cV ?_);refine .z 21 rfl (zbd [_,_,_,_,_,_] sE) ?_;refine .E 22 hs ?_;refine .buildSlice (cells:=c.c) hs nk rfl (by subst hc;kernel_rfl) ?_;intro b123 w hs;refine .go (.E 23 hs ?_);refine .append (ys:=c.c) hs mL rfl rfl q8 (.own .here rfl rfl) (by simp [Cmp.c,Value.oneCell']) (fun l' h=>by rw [bX _ (xZ _),iF] at h;omega) ?_;intro v124 en124 w B9 hs;rw [←I2] at B9;obtain ⟨a124,c124,rfl⟩:=B9.jF (xZ _) ai;rw [iF] at B9 ⊢;have uw:(cs++[c]).length=cs.length+1:=by simp
     have P7:∀d∈cs++[c],uK d:=fun d hd=>by
      simp only [List.mem_append,List.mem_singleton] at hd
      rcases hd with hd|rfl
      ·exact Fm d hd
      ·exact Yz
     have GU:ew ⟨s,rs,cs++[c]⟩:=DD IG.ok Va U8 GW ai AZ P7;refine .go (.zw 24 rfl (zfa cQ) (.E 25 hs ?_));refine .store hs rfl rfl sizeOf50 ?_;intro w hs;refine .go (.D hs (.af (.y hs (zls [_,_,_,_,_,_,_,_] bn aK) ?_)));obtain ⟨Hx,JI,r1,r2,r3,r4,Gj,back⟩:=QA.Ir (s:=⟨s,rs,cs++[c]⟩) ⟨oW,eG,iZ,B9⟩ (by show s.st.length≤_;omega) (by show s.wa.length≤_;omega) (by show rs.length≤_;omega) (by show (cs++[c]).length≤_;omega) (hs.sb:St H w (e1::e2::e3::en124:: .blk b5 [I s.id,I s.src,.slice iV s.st.length iT,.slice gX s.wa.length gW,I s.al,I s.up]:: .blk b4 [I s.id,I s.src,.slice iV s.st.length iT,.slice gX s.wa.length gW,I s.al,I s.up,.slice ar rs.length cr,.slice a124 (cs++[c]).length c124]:: .blk b2 [I 0,I 0,.slice none 0 0,.slice none 0 0,I 0,I 0,.slice none 0 0,.slice none 0 0]:: .blk b1 [.slice avs sl.length cvs,.slice av5 iB.length cv5,.slice av4 iP.length cv4,.slice avp pk.length cvp,I z1,I z2,I z3]::σ));refine .o (.call call91 rfl (AD (s:=⟨s,rs,cs++[c]⟩) Gj r1 r2 r3 r4 GU.early (Hi GU)) ?_);rintro _ w ⟨Hy,ZW,LO,rfl,U0,PW⟩;have hs:=back LO PW;clear Gj PW back;refine .nil (.cond rfl (fun CF=>?_) (fun CF=>?_))
     ·refine .region (.z (zfa cQ) (.y hs (zld kv) (.z (zfa cQ) (.y hs (zld kv) (.z (dk bM) (.z gE (.q hs (rO (k:=cs.length) rfl rfl bM eD ai (by have:=B9.le;omega)) ?_)))))));refine .z (zfa cQ) (.o (.store hs rfl rfl sizeOf50 fun w hs=>?_));exact .nil (nB (nT (.region (.z zm (.z cV (.zn zg (nT ⟨(k+1,cs,a124,c124),.da rfl bK aM,⟨by dsimp only;omega,by dsimp only;omega,by dsimp only;omega,Fm,uN,_,B9.Sm,hs.sb⟩,by dsimp only;omega⟩)))))))
     ·exact .skip (nB (nT (.region (.z zm (.z cV (.zn zg (nT ⟨(k+1,cs++[c],a124,c124),.da rfl bK aM,⟨by dsimp only;omega,by dsimp only;omega,by dsimp only;omega,P7,U0 (by simpa using CF),_,B9,hs.sb⟩,by dsimp only;omega⟩)))))))
    ·exact .exit (xT (xT (xB (nT ⟨cs,e4,ac,cc,aM,ai,Fm,uN,q8,hs⟩))))
   ·exact .Fs 2 5 true (.zn zpF (.cF (.exit (xT (xT (xB (nT ⟨cs,e4,ac,cc,aM,ai,Fm,uN,q8,hs⟩)))))))
  ·clear hs;rintro fs w ⟨cs,e4,ac,cc,gP,L4,Fm,uN,q8,hs⟩;refine WE.sub ?_ gP;clear gP;have GU:ew ⟨s,rs,cs⟩:=DD IG.ok Va U8 GW L4 AZ Fm;refine .af (.y hs (zls [_,_,_,_,_,_,_,_] bn aK) (.z (zfa sq) (.y hs (zld an) ?_)));obtain ⟨Hx,JI,r1,r2,r3,r4,Gj,back⟩:=QA.Ir (s:=⟨s,rs,cs⟩) ⟨oW,eG,iZ,q8⟩ (by show s.st.length≤_;omega) (by show s.wa.length≤_;omega) (by show rs.length≤_;omega) (by show cs.length≤_;omega) hs;refine .o (.call call92 rfl (AB (s:=⟨s,rs,cs⟩) Gj r1 r2 r3 r4 (g4.mono JI) GU.early ⟨Hi GU,uN⟩) ?_);rintro v139 w ⟨Hy,x,ex,LO,hOx,hP,PW⟩;have hs:=back LO PW;clear Gj PW back r1 r2 r3 r4;obtain ⟨yv,Eg,Ox,S6⟩:=hP.Em (Hi GU) uN;have rk:=GU.many;have aa8:(Srv.tm ⟨s,rs,cs⟩).n=s.many+(bE rs).length+1:=Dh ⟨s,rs,cs⟩;have yv:x.length=s.many+(bE rs).length+1:=by rw [yv];exact aa8
   rw [aa8] at Ox;have rk:s.many+(bE rs).length≤64:=rk;obtain ⟨Hz,Us,hX,hs⟩:=dj.eI hOx ai hs dC;obtain ⟨ax,cx,rfl⟩:=RI.shape hX;refine .zn zg (.seq (.af (.zn zg (.block ?_))));refine .loop (fun p:Nat×List Rdg=>⟨208,[],[(14,I (p.1:Int)),(13,.slice ax x.length cx),(5,Pt b5),(4,Pt b4),(2,Pt b2),(1,Pt b1)]⟩)
    (fun p w=>p.1≤rs.length∧p.2.length=rs.length∧bE p.2=bE rs∧(∀r∈p.2,RdS s r)∧(∀j<p.1,∀r,p.2[j]? =some r→M7 s (bE rs) x r)∧∃e3,dj 7 (.slice ar rs.length cr) (rdc p.2).flatten e3∧
     St Hz w (e1::e2::e3::e4:: .blk b5 [I s.id,I s.src,.slice iV s.st.length iT,.slice gX s.wa.length gW,I s.al,I s.up]:: .blk b4 [I s.id,I s.src,.slice iV s.st.length iT,.slice gX s.wa.length gW,I s.al,I s.up,.slice ar rs.length cr,.slice ac cs.length cc]:: .blk b2 [I 0,I 0,.slice none 0 0,.slice none 0 0,I 0,I 0,.slice none 0 0,.slice none 0 0]:: .blk b1 [.slice avs sl.length cvs,.slice av5 iB.length cv5,.slice av4 iP.length cv4,.slice avp pk.length cvp,I z1,I z2,I z3]::σ)) (fun p=>rs.length - p.1) (0,rs) aM
    ⟨bK,rfl,rfl,fun r hr=>⟨(AZ r hr).st,(AZ r hr).wa,(AZ r hr).tol⟩,fun j hj=>by omega,e3,iZ,hs⟩ ?_
   clear hs iZ;rintro ⟨k,R⟩ w ⟨hk,WC,Mw,WB,Y4,e3,iZ,hs⟩;dsimp only at hk WC Mw WB Y4 iZ hs ⊢;refine .seq (.af (.z zm (.z (zfa aP) (.y hs (zld dD) (.z (dk aE) (.zn gV (.bA rfl (fun Fu=>?_) (fun Fu=>?_))))))))
   ·refine .skip (nT (.seq (.block (.af (.z (zfa j8) (.y hs (zld isAgg35) (.z zm ?_)))))));obtain ⟨n,hn⟩:=nth (l:=iB) (k:=k) ai;obtain ⟨r,hr⟩:=nth (l:=R) (k:=k) ai;have Wl:=WB r (List.mem_of_getElem? hr);obtain ⟨u,Rf,Re⟩:=Wl.u;have XN:=Wl.st;have XL:=Wl.wa;have LI:=Wl.tol;have Fh:r.td∈bE R:=jA.2 ⟨r,List.mem_of_getElem? hr,rfl⟩;obtain ⟨q,q1,q2,q3⟩:=jY Fh;rw [Mw] at q3;have Ej:=Ox u ai;have BD:=Ox (s.many+1+q) ai;obtain ⟨bo,co,sp,hv,rfl,vX⟩:=iZ.Pj (me _) ai (by rw [dT];omega);simp only [Value.slice.injEq] at hv;obtain ⟨rfl,SR,rfl⟩:=hv;obtain ⟨Hx,JI,r1,r2,r3,r4,Gj,back⟩:=QA.Ir (s:=⟨s,R,cs⟩) ⟨oW,eG,iZ,q8⟩ (by show s.st.length≤_;omega) (by show s.wa.length≤_;omega) (by show R.length≤_;omega) (by show cs.length≤_;omega) hs;clear hs;have hs:=Gj;clear Gj;refine .ixX (enc:=F5.v) hs (g2.mono (Us.trans JI)) rfl rfl runUnderlying35 V0 hn dp ?_;intro ZQ o150 IC;refine .q hs (cj (vs:=n.v) rfl isAgg151 V0 IC) (.o (.alloc hs zeroValue151 rfl fun Gq w hs=>?_));refine .o (.aJ (vs:=[_,_,_,_,_]) hs rfl rfl V0 fun w hs=>?_);refine .nil (.af (.z (zfa aP) (.y hs (zld dD) (.z zm (.ixX (enc:=Rdg.c) hs r3 rfl rfl aE bh hr dp ?_)))));intro ZP o155 Qb;refine .q hs (cj (vs:=r.c) rfl km bh Qb) (.o (.alloc hs jW rfl fun nD w hs=>?_));refine .o (.aJ (vs:=[_,_,_,_,_,_,_]) hs rfl rfl bh fun w hs=>?_);refine .nil (.af (.y hs (zls [_,_,_,_,_,_] bY bq) (.z (zfa iD) (.y hs (zld aj) (.z (zfa iC) (.y hs (zld aj) (.o (.call ED rfl (dS (s:=s) hs r2 ai ai ai) ?_))))))));rintro _ w ⟨rfl,hs⟩;rw [Rf];refine .zn zg (.seq (.draw mix rfl hs fun w hs=>?_));refine .ys 0 rfl hs [_,_,_,_,_,_] bY bq ?_;refine .z 3 rfl (zfa aP) ?_;refine .y 4 rfl hs dD ?_;refine .z 6 rfl (zfa fw) ?_;refine .y 7 rfl hs aj ?_;refine .z 8 rfl (zfa fu) ?_;refine .y 9 rfl hs aj ?_;refine .z 10 rfl (zbd [_,_] kf) ?_;refine .E 1 hs ?_;refine .call call94 rfl (gD (s:=s) hs r1 r2 ⟨ai,ai⟩) ?_;rintro _ w ⟨rfl,hs⟩;refine .go (.zw 2 rfl cV (.E 5 hs ?_));refine .call call96 rfl (jG (rs:=R) hs r3 ai) ?_;rintro v168 w ⟨Hw,X9,hT,hs⟩;refine .go (.E 11 hs ?_);refine .call call95 rfl (mQ (t:=r.td) hs hT (by rw [Mw];omega)) ?_;rintro _ w ⟨rfl,hs⟩;rw [q1];refine .go (.zw 12 rfl cV ?_);refine .z 13 rfl zg ?_;refine .D hs ?_;refine .seq (.draw mix rfl hs fun w hs=>?_);refine .zw 0 rfl (zia 4 nG ak) (.y 1 rfl hs aj ?_);refine .z 2 rfl SM ?_;refine .z 3 rfl (zfa dI) ?_;refine .y 4 rfl hs aj ?_;refine .z 5 rfl la ?_;refine .z 6 rfl cV ?_;refine .z 8 rfl (zfa dI) ?_;refine .y 9 rfl hs aj ?_;refine .E 7 hs ?_;refine .call k9 rfl (dc hs ai) ?_;rintro _ w ⟨TZ,g183,rfl,hs⟩;refine .go (.zw 10 rfl gE ?_);refine .z 11 rfl zg ?_;refine .D hs ?_;refine .draw mix rfl hs fun w hs=>?_
    refine .zw 0 rfl (zfa aP) ?_;refine .y 1 rfl hs dD ?_;refine .z 2 rfl zm ?_;refine .z 3 rfl zm ?_;refine .z 4 rfl zm ?_;have hs:=back X9 hs;refine .ixX (enc:=fun x=>[I x]) (i:=5) hs rfl aD .none hX rfl rfl ae ak (bG (l:=x) (i:=u) ai) rfl ?_;intro b192 o192 L7;replace L7:=bJ.one L7;refine .r (i:=6) hs rfl aD .none (aF rfl aj L7) ?_;refine .zw 7 rfl zm ?_;refine .z 8 rfl zm ?_;refine .ixX (enc:=fun x=>[I x]) (i:=9) hs rfl aD .none hX rfl rfl ae ak (bG (l:=x) (i:=s.many+1+q) ai) (by push_cast;rfl) ?_;intro b196 o196 L5;replace L5:=bJ.one L5;refine .r (i:=10) hs rfl aD .none (aF rfl aj L5) ?_;refine .zw 11 rfl gE ?_;refine .z 12 rfl zm ?_;refine .z 13 rfl cV ?_;first|(refine .ixw 14 rfl hs aE bh ?_;intro ZM o201 P9)|refine .z 14 rfl (nH aE bh) ?_
    refine .zw 15 rfl (zfa dQ) (.E 16 hs ?_);refine .store (c':=(rdc (R.set k {r with val:=gi x u - gi x (s.many+1+q)+((TZ:Int) - r.tol)})).flatten++sp) hs rfl rfl ak ?_ dC (Nat.ble_eq_true_of_le (by rw [List.length_append,bX _ (me _),dT];omega)) (GD hr sp _);intro w hs;refine .go (.D hs (nB (nT (.region (.z zm (.z cV (.zn zg (nT ?_))))))));exact ⟨(k+1,R.set k {r with val:=gi x u - gi x (s.many+1+q)+((TZ:Int) - r.tol)}),.da rfl bK aM,⟨by dsimp only;omega,by dsimp only;rw [List.length_set];exact WC,by dsimp only;rw [EJ hr];exact Mw,fun y hy=>by
      rcases List.mem_or_eq_of_mem_set hy with h|h
      ·exact WB y h
      ·subst h;exact ⟨XN,XL,LI⟩,fun j hj y hy=>by
      dsimp only at hj hy;by_cases e:j=k
      ·subst e;rw [List.getElem?_set_self ai] at hy;obtain rfl:=Option.some.inj hy;have q1':mP (bE rs) r.td=q:=by rw [←Mw];exact q1
       unfold M7;show gi x (1+r.st*s.wa.length+r.wa).toNat - gi x (s.many+1+mP (bE rs) r.td).toNat - r.tol≤_∧_≤gi x (1+r.st*s.wa.length+r.wa).toNat - gi x (s.many+1+mP (bE rs) r.td).toNat+r.tol;rw [Rf,q1',show ((s.many:Int)+1+(q:Int)).toNat=s.many+1+q by omega,Int.toNat_natCast];dsimp only;omega
      ·rw [List.getElem?_set_ne ai] at hy;exact Y4 j ai y hy,_,N8 iZ _,hs.sb⟩,by dsimp only;omega⟩
   ·refine .exit (xT (xT (xB (nT (.af (.y hs (zls [_,_,_,_,_,_,_,_] bn aK) (.z zm ?_)))))));obtain rfl:k=rs.length:=by omega
    obtain ⟨Hx,JI,r1,r2,r3,r4,Gj,back⟩:=QA.Ir (s:=⟨s,R,cs⟩) ⟨oW,eG,iZ,q8⟩ (by show s.st.length≤_;omega) (by show s.wa.length≤_;omega) (by show R.length≤_;omega) (by show cs.length≤_;omega) hs;refine .o (.call call97 rfl (u6 (s:=⟨s,R,cs⟩) (x:=x) Gj r1 r2 r3 ⟨_,_,_,rfl⟩ (hX.mono JI) (by rw [Dh];show _=s.many+(bE R).length+1;rw [Mw];exact yv) ⟨by show s.st.length≤_;omega,by show s.wa.length≤_;omega,by show R.length≤_;omega⟩) ?_);rintro _ w ⟨Hy,vr',vy,er,ey,LO,rfl,hOr,WD,PW⟩;have hs:=back LO PW;clear Gj PW back r1 r2 r3 r4;have pV:=AX s R;obtain ⟨arr,crr,rfl⟩:=hOr.jF (me _) ai;obtain ⟨ayy,lyy,cyy,rfl,-⟩:=WD.shape;refine .z zex (.z zex (.o (.aJ (vs:=[_,_,_,_,_,_,_,_]) hs rfl rfl aK fun w hs=>?_)));refine .zn zg (.ret ?_);exact Fin.iG [] [] hs fun w hs=>⟨_,results2 results31 (dm (vs:=[_,_,_,_,_,_,_,_]) hs rfl bn aK) rfl,Hz,⟨s,kD s R,cs⟩,_,_,_,_,_,_,e1,e2,er,e4,ey,Us,rfl,
     ⟨Va,U8,by show (kD s R).length≤14;omega,L4,DD IG.ok Va U8 ai L4 (fun r h=>(Fa h).2) Fm⟩,⟨oW,eG,hOr,q8⟩,WD,JA S6 Eg yv Mw WB (fun r hr=>by
      obtain ⟨j,hj⟩:=List.getElem?_of_mem hr;have:=(List.getElem?_eq_some_iff.1 hj).1;exact Y4 j ai r hj),hs.sb⟩
structure Spl(s:Srv):Prop where
 st:2≤s.sp.st.length∧s.sp.st.length≤4
 wa:2≤s.sp.wa.length∧s.sp.wa.length≤3
 rs:s.rs.length≤15
 cs:s.cs.length≤5
theorem Im{n cap:Nat}(h:dj 1 (.slice (some ⟨b,0,none⟩) n cap) (Is xs) (.blk b (Is xs++sp)))(x:Int):
  dj 1 (.slice (some ⟨b,0,none⟩) n cap) (Is (xs.set k x)) (.blk b (Is (xs.set k x)++sp)):=by
 rcases h with ⟨a,_,_,h3⟩|⟨b',len,tp,uZ,h1,h2,h3,h4,h5⟩
 ·cases h3
 ·simp only [Value.slice.injEq] at h1;obtain ⟨-,rfl,rfl⟩:=h1;simp only [Ent.blk.injEq] at h2;rw [←h2.2] at h4;exact .inr ⟨b,n,cap,sp,rfl,rfl,by simpa [Is] using h3,by simpa [Is] using h4,h5⟩
theorem nt{l:List Rdg}{r r':Rdg}(h:l[k]? =some r)(hj:j<7){v:Value}(hc:r.c.set j v=r'.c)(sp:List Value):((rdc l).flatten++sp).set (k*7+j) v=(rdc (l.set k r')).flatten++sp:=by
 have hk:=(List.getElem?_eq_some_iff.1 h).1;rw [List.set_append_left _ _ (by rw [bX _ (me _),dT];omega),sW (rdc l) k j v (me l) (by rw [dT];exact hk) hj r.c (Dp h),hc];unfold rdc;rw [List.map_set]
theorem nu{n cap:Nat}{R:List Rdg}{r':Rdg}(h:dj 7 (.slice (some ⟨b,0,none⟩) n cap) (rdc R).flatten (.blk b ((rdc R).flatten++sp))):
  dj 7 (.slice (some ⟨b,0,none⟩) n cap) (rdc (R.set k r')).flatten (.blk b ((rdc (R.set k r')).flatten++sp)):=by
 have hl:(rdc (R.set k r')).flatten.length=(rdc R).flatten.length:=by
  rw [bX _ (me _),bX _ (me _),dT,dT,List.length_set]
 rcases h with ⟨a,_,_,h3⟩|⟨b',len,tp,uZ,h1,h2,h3,h4,h5⟩
 ·cases h3
 ·simp only [Value.slice.injEq] at h1;obtain ⟨-,rfl,rfl⟩:=h1;simp only [Ent.blk.injEq] at h2;rw [←h2.2] at h4;exact .inr ⟨b,n,cap,sp,rfl,rfl,by rw [hl];exact h3,by rw [List.length_append,hl,←List.length_append];exact h4,h5⟩
theorem wu{l:List Cmp}{r r':Cmp}(h:l[k]? =some r)(hj:j<6){v:Value}(hc:r.c.set j v=r'.c)(sp:List Value):((cmc l).flatten++sp).set (k*6+j) v=(cmc (l.set k r')).flatten++sp:=by
 have hk:=(List.getElem?_eq_some_iff.1 h).1;rw [List.set_append_left _ _ (by rw [bX _ (xZ _),iF];omega),sW (cmc l) k j v (xZ l) (by rw [iF];exact hk) hj r.c (Ss h),hc];unfold cmc;rw [List.map_set]
theorem vv{n cap:Nat}{R:List Cmp}{r':Cmp}(h:dj 6 (.slice (some ⟨b,0,none⟩) n cap) (cmc R).flatten (.blk b ((cmc R).flatten++sp))):
  dj 6 (.slice (some ⟨b,0,none⟩) n cap) (cmc (R.set k r')).flatten (.blk b ((cmc (R.set k r')).flatten++sp)):=by
 have hl:(cmc (R.set k r')).flatten.length=(cmc R).flatten.length:=by
  rw [bX _ (xZ _),bX _ (xZ _),iF,iF,List.length_set]
 rcases h with ⟨a,_,_,h3⟩|⟨b',len,tp,uZ,h1,h2,h3,h4,h5⟩
 ·cases h3
 ·simp only [Value.slice.injEq] at h1;obtain ⟨-,rfl,rfl⟩:=h1;simp only [Ent.blk.injEq] at h2;rw [←h2.2] at h4;exact .inr ⟨b,n,cap,sp,rfl,rfl,by rw [hl];exact h3,by rw [List.length_append,hl,←List.length_append];exact h4,h5⟩
set_option maxHeartbeats 2000000 in
theorem xr{w:World}(hs:St H w σ)(g1:RI H vs sl)(g2:RF5 H v5 iB)(g3:RF4 H v4 iP)(g4:RI H vp pk):
  ab8 55 [.agg #[vs,v5,v4,vp,I z1,I z2,I z3]] w fun u w'=>∃H1 s cU cO vr vc,HLe H H1∧u= .agg #[I s.sp.id,I s.sp.src,cU,cO,I s.sp.al,I s.sp.up,vr,vc]∧RI H1 cU s.sp.st∧RI H1 cO s.sp.wa∧RRd H1 vr s.rs∧RCm H1 vc s.cs∧Spl s∧St H1 w' σ:=by
 obtain ⟨avs,cvs,rfl⟩:=RI.shape g1;obtain ⟨av5,cv5,rfl⟩:=g2.shape;obtain ⟨av4,cv4,rfl⟩:=g3.shape;obtain ⟨avp,cvp,rfl⟩:=RI.shape g4;refine Cl.o func55 ntmps55 ag1 ?_;refine .af (.bx hs fun b1 w hs=>?_);refine .o (.alloc hs js rfl fun b2 w hs=>?_);refine .nil (.af (.y hs (zls [_,_,_,_,_,_,_] isAgg39 sizeOf39) (.o (.call call31 rfl (BQ hs g1 g2 g3 g4) ?_))));rintro _ w ⟨H1,s,y,cU,cO,vr,vc,vy,e1,e2,e3,e4,e5,az,rfl,hM,⟨oW,eG,iZ,q8⟩,WD,-,hs⟩;have LF:=hM.ok.early.1.st.two;have hwa2:=hM.ok.early.1.wa.two;have Ua:=hM.st;have hwa3:=hM.wa;have PX:=hM.rs;have RF:=hM.cs;obtain ⟨bS,cS,Gf,rfl,rfl,abe⟩:=oW.some ai;obtain ⟨bW,cW,spW,rfl,rfl,abd⟩:=eG.some ai;obtain ⟨ar,cr,rfl⟩:=iZ.jF (me _) ai;obtain ⟨ac,cc,rfl⟩:=q8.jF (xZ _) ai;rw [dT] at iZ ⊢;rw [iF] at q8 ⊢;obtain ⟨ay,ly,cy,rfl,-⟩:=WD.shape;refine .z zm (.z zex (.z zex (.o (.alloc hs js rfl fun b3 w hs=>?_))));refine .o (.aJ (vs:=[_,_,_,_,_,_,_,_]) hs rfl rfl aK fun w hs=>?_);refine .zn zg (.af (.z (zfa so) (.y hs (zls [_,_,_] isAgg37 BL) (.o (.alloc hs zeroValue37 rfl fun b5 w hs=>?_)))));refine .o (.aJ (vs:=[_,_,_]) hs rfl rfl BL fun w hs=>?_);refine .nil (.af (.z (zia 0 aI ak) (.y hs (zld aj) (.o (.call k9 rfl (dc hs ai) ?_)))));rintro _ w ⟨k,gk,rfl,hs⟩;refine .zn zg (.cut (fun fs w=>∃(uZ:Spc) (f1 f2:Ent),lr fs ⟨225,[],[(6,I (k:Int)),(5,Pt b5),(3,Pt b3),(2,Pt b2),(1,Pt b1)]⟩∧uZ.st.length=s.sp.st.length∧uZ.wa.length=s.sp.wa.length∧dj 1 (.slice (some ⟨bS,0,none⟩) s.sp.st.length cS) (Is uZ.st) f1∧dj 1 (.slice (some ⟨bW,0,none⟩) s.sp.wa.length cW) (Is uZ.wa) f2∧St H1 w (f1::f2::e3::e4:: .blk b5 [I z1,I z2,I z3]:: .blk b3 [I uZ.id,I uZ.src,.slice (some ⟨bS,0,none⟩) s.sp.st.length cS,.slice (some ⟨bW,0,none⟩) s.sp.wa.length cW,I uZ.al,I uZ.up,.slice ar s.rs.length cr,.slice ac s.cs.length cc]:: .blk b2 [I 0,I 0,.slice none 0 0,.slice none 0 0,I 0,I 0,.slice none 0 0,.slice none 0 0]::σ)) ?_ ?_)
 ·refine .af (.zn zm (.block (.af (.z fJ (.zn zg (.bA rfl (fun jx=>?_) (fun jx=>?_)))))))
  ·refine .region (.z (zia 2 aI ak) (.y hs (zld aj) (.z (zfa a6) (.z (zfa oY) (.o (.store hs rfl rfl ak fun w hs=>?_))))));exact .nil (nB (nT ⟨{s.sp with id:=z3},_,_,aM,rfl,rfl,oW,eG,hs.sb⟩))
  ·refine .af (.z fJ (.zn zg (.bA rfl (fun nS=>?_) (fun nS=>?_))))
   ·refine .region (.z (zia 2 aI ak) (.y hs (zld aj) (.z (zfa a6) (.z (zfa eM) (.o (.store hs rfl rfl ak fun w hs=>?_))))));exact .nil (nB (nT ⟨{s.sp with src:=z3},_,_,aM,rfl,rfl,oW,eG,hs.sb⟩))
   ·refine .af (.z fJ (.zn zg (.bA rfl (fun nQ=>?_) (fun nQ=>?_))))
    ·refine .draw mix rfl hs fun w hs=>?_
     refine .zw 0 rfl (zfa a6) ?_;refine .z 1 rfl (zfa bV) ?_;refine .y 2 rfl hs an ?_;refine .zw 3 rfl (zia 1 aI ak) (.y 4 rfl hs aj ?_);refine .z 5 rfl (zfa a6) ?_;refine .z 6 rfl (zfa bV) ?_;refine .y 7 rfl hs an ?_;refine .z 8 rfl (dk ae) ?_;refine .zw 10 rfl (zia 2 aI ak) (.zv 11 rfl hs (qf aj) (.E 9 hs ?_));refine .call k9 rfl (dc hs ai) ?_;rintro _ w ⟨Lw,g44,rfl,hs⟩;refine .go ?_;first|(refine .ixv 12 rfl hs ae ak ?_;intro VF o47 oT)|refine .z 12 rfl (zix ae ak) ?_
     refine .E 13 hs ?_;refine .store (c':=Is (s.sp.st.set Lw z3)++Gf) hs rfl rfl ak ?_ dC (nY ai Gf) (kM ai Gf _);intro w hs;exact .go (.D hs (nB (nT ⟨{s.sp with st:=s.sp.st.set Lw z3},_,_,aM,bK,rfl,Im oW _,eG,hs.sb⟩)))
    ·refine .af (.z fJ (.zn zg (.bA rfl (fun nP=>?_) (fun nP=>?_))))
     ·refine .draw mix rfl hs fun w hs=>?_
      refine .zw 0 rfl (zfa a6) ?_;refine .z 1 rfl (zfa aZ) ?_;refine .y 2 rfl hs an ?_;refine .zw 3 rfl (zia 1 aI ak) (.y 4 rfl hs aj ?_);refine .z 5 rfl (zfa a6) ?_;refine .z 6 rfl (zfa aZ) ?_;refine .y 7 rfl hs an ?_;refine .z 8 rfl (dk ae) ?_;refine .zw 10 rfl (zia 2 aI ak) (.zv 11 rfl hs (qf aj) (.E 9 hs ?_));refine .call k9 rfl (dc hs ai) ?_;rintro _ w ⟨V8,g59,rfl,hs⟩;refine .go ?_;first|(refine .ixv 12 rfl hs ae ak ?_;intro Qt o62 JN)|refine .z 12 rfl (zix ae ak) ?_
      refine .E 13 hs ?_;refine .store (c':=Is (s.sp.wa.set V8 z3)++spW) hs rfl rfl ak ?_ dC (nY ai spW) (kM ai spW _);intro w hs;exact .go (.D hs (nB (nT ⟨{s.sp with wa:=s.sp.wa.set V8 z3},_,_,aM,rfl,bK,oW,Im eG _,hs.sb⟩)))
     ·refine .af (.z fJ (.zn zg (.bA rfl (fun oq=>?_) (fun oq=>?_))))
      ·refine .region (.z (zia 2 aI ak) (.y hs (zld aj) (.z (zfa a6) (.z (zfa eW) (.z (zfa lS) (.o (.store hs rfl rfl ak fun w hs=>?_)))))));exact .nil (nB (nT ⟨{s.sp with al:=z3},_,_,aM,rfl,rfl,oW,eG,hs.sb⟩))
      ·refine .af (.z fJ (.zn zg (.bA rfl (fun OO=>?_) (fun OO=>?_))))
       ·refine .region (.z (zia 2 aI ak) (.y hs (zld aj) (.z (zfa a6) (.z (zfa eW) (.z (zfa lR) (.o (.store hs rfl rfl ak fun w hs=>?_)))))));exact .nil (nB (nT ⟨{s.sp with up:=z3},_,_,aM,rfl,rfl,oW,eG,hs.sb⟩))
       ·exact .skip (nB (nT ⟨s.sp,_,_,aM,rfl,rfl,oW,eG,hs.sb⟩))
 ·clear hs oW eG;rintro fs w ⟨uZ,f1,f2,gP,LS,OG,oW,eG,hs⟩;refine WE.sub ?_ gP;clear gP;refine .cut (fun fs w=>∃(R:List Rdg) (f3:Ent) (ar':Option Addr) (cr':Nat),lr fs ⟨225,[],[(6,I (k:Int)),(5,Pt b5),(3,Pt b3),(2,Pt b2)]⟩∧R.length≤15∧dj 7 (.slice ar' R.length cr') (rdc R).flatten f3∧St H1 w (f1::f2::f3::e4:: .blk b5 [I z1,I z2,I z3]:: .blk b3 [I uZ.id,I uZ.src,.slice (some ⟨bS,0,none⟩) s.sp.st.length cS,.slice (some ⟨bW,0,none⟩) s.sp.wa.length cW,I uZ.al,I uZ.up,.slice ar' R.length cr',.slice ac s.cs.length cc]:: .blk b2 [I 0,I 0,.slice none 0 0,.slice none 0 0,I 0,I 0,.slice none 0 0,.slice none 0 0]::σ)) ?_ ?_
  ·refine .af (.z (zfa aP) (.y hs (zld dD) (.z (dk aE) (.zn ld (.bA rfl (fun Fo=>?_) (fun Fo=>?_))))))
   ·refine .af (.z (zia 1 aI ak) (.y hs (zld aj) (.z (zfa aP) (.y hs (zld dD) (.z (dk aE) ?_)))));obtain ⟨bR,cR,oO,hv,rfl,abf⟩:=iZ.Pj (me _) ai (by rw [dT];omega);simp only [Value.slice.injEq] at hv;obtain ⟨rfl,SR,rfl⟩:=hv;refine .o (.call k9 rfl (dc hs ai) ?_);rintro _ w ⟨i,gi_,rfl,hs⟩;obtain ⟨r,hr⟩:=nth (l:=s.rs) (k:=i) ai;have OR:∀j<7,Nat.blt (i*7+j) ((rdc s.rs).flatten++oO).length=true:=fun j hj=>Nat.ble_eq_true_of_le (by rw [List.length_append,bX _ (me _),dT];omega)
    refine .zn zg (.af (.zn zm (.block (.seq (.af (.z fJ (.zn zg (.bA rfl (fun xK=>?_) (fun xK=>?_)))))))))
    ·refine .skip (nT (.cT (.region (.z (zfa aP) (.y hs (zld dD) (.z zm (.z (zia 2 aI ak) (.y hs (zld aj) ?_))))))));first|(refine .ixw hs aE bh ?_;intro ZG o97 OM)|refine .z (nH aE bh) ?_
     refine .z (zfa dQ) (.o (.store (c':=(rdc (s.rs.set i {r with val:=z3})).flatten++oO) hs rfl rfl ak ?_ dC (OR 3 ai) (nt hr ai rfl oO)));intro w hs;exact .nil (nB (nT ⟨s.rs.set i {r with val:=z3},_,some ⟨bR,0,none⟩,cr,aM,by rw [List.length_set];omega,by rw [List.length_set];exact nu iZ,by rw [List.length_set];exact hs.sb⟩))
    ·refine .af (.z fJ (.zn zg (.bA rfl (fun xK=>?_) (fun xK=>?_))))
     ·refine .skip (nT (.cT (.region (.z (zfa aP) (.y hs (zld dD) (.z zm (.z (zia 2 aI ak) (.y hs (zld aj) ?_))))))));first|(refine .ixw hs aE bh ?_;intro ZG o97 OM)|refine .z (nH aE bh) ?_
      refine .z (zfa dQ) (.o (.store (c':=(rdc (s.rs.set i {r with val:=z3})).flatten++oO) hs rfl rfl ak ?_ dC (OR 3 ai) (nt hr ai rfl oO)));intro w hs;exact .nil (nB (nT ⟨s.rs.set i {r with val:=z3},_,some ⟨bR,0,none⟩,cr,aM,by rw [List.length_set];omega,by rw [List.length_set];exact nu iZ,by rw [List.length_set];exact hs.sb⟩))
     ·refine .region (.z fJ (.zn zg (nT (.bA rfl (fun xK=>?_) (fun xK=>?_)))))
      ·refine .region (.z (zfa aP) (.y hs (zld dD) (.z zm (.z (zia 2 aI ak) (.y hs (zld aj) ?_)))));first|(refine .ixw hs aE bh ?_;intro ZG o97 OM)|refine .z (nH aE bh) ?_
       refine .z (zfa dQ) (.o (.store (c':=(rdc (s.rs.set i {r with val:=z3})).flatten++oO) hs rfl rfl ak ?_ dC (OR 3 ai) (nt hr ai rfl oO)));intro w hs;exact .nil (nB (nT ⟨s.rs.set i {r with val:=z3},_,some ⟨bR,0,none⟩,cr,aM,by rw [List.length_set];omega,by rw [List.length_set];exact nu iZ,by rw [List.length_set];exact hs.sb⟩))
      ·refine .af (.z fJ (.zn zg (.bA rfl (fun YA=>?_) (fun YA=>?_))))
       ·refine .region (.z (zfa aP) (.y hs (zld dD) (.z zm (.z (zia 2 aI ak) (.y hs (zld aj) ?_)))));first|(refine .ixw hs aE bh ?_;intro VO o106 tF)|refine .z (nH aE bh) ?_
        refine .z (zfa dI) (.o (.store (c':=(rdc (s.rs.set i {r with tol:=z3})).flatten++oO) hs rfl rfl ak ?_ dC (OR 4 ai) (nt hr ai rfl oO)));intro w hs;exact .nil (nB (nT ⟨s.rs.set i {r with tol:=z3},_,some ⟨bR,0,none⟩,cr,aM,by rw [List.length_set];omega,by rw [List.length_set];exact nu iZ,by rw [List.length_set];exact hs.sb⟩))
       ·refine .af (.z fJ (.zn zg (.bA rfl (fun IE=>?_) (fun IE=>?_))))
        ·refine .region (.z (zfa aP) (.y hs (zld dD) (.z zm (.z (zia 2 aI ak) (.y hs (zld aj) ?_)))));first|(refine .ixw hs aE bh ?_;intro b115 o115 abz)|refine .z (nH aE bh) ?_
         refine .z (zfa fw) (.o (.store (c':=(rdc (s.rs.set i {r with tape:=z3})).flatten++oO) hs rfl rfl ak ?_ dC (OR 5 ai) (nt hr ai rfl oO)));intro w hs;exact .nil (nB (nT ⟨s.rs.set i {r with tape:=z3},_,some ⟨bR,0,none⟩,cr,aM,by rw [List.length_set];omega,by rw [List.length_set];exact nu iZ,by rw [List.length_set];exact hs.sb⟩))
        ·refine .af (.z fJ (.zn zg (.bA rfl (fun CG=>?_) (fun CG=>?_))))
         ·refine .region (.z (zfa aP) (.y hs (zld dD) (.z zm (.z (zia 2 aI ak) (.y hs (zld aj) ?_)))));first|(refine .ixw hs aE bh ?_;intro VN o124 Me)|refine .z (nH aE bh) ?_
          refine .z (zfa fu) (.o (.store (c':=(rdc (s.rs.set i {r with day:=z3})).flatten++oO) hs rfl rfl ak ?_ dC (OR 6 ai) (nt hr ai rfl oO)));intro w hs;exact .nil (nB (nT ⟨s.rs.set i {r with day:=z3},_,some ⟨bR,0,none⟩,cr,aM,by rw [List.length_set];omega,by rw [List.length_set];exact nu iZ,by rw [List.length_set];exact hs.sb⟩))
         ·refine .af (.z fJ (.zn zg (.bA rfl (fun UR=>?_) (fun UR=>?_))))
          ·refine .region (.z (zfa aP) (.y hs (zld dD) (.z zm (.z (zia 2 aI ak) (.y hs (zld aj) ?_)))));first|(refine .ixw hs aE bh ?_;intro b133 o133 Qf)|refine .z (nH aE bh) ?_
           refine .z (zfa iD) (.o (.store (c':=(rdc (s.rs.set i {r with st:=z3})).flatten++oO) hs rfl rfl ak ?_ dC (OR 1 ai) (nt hr ai rfl oO)));intro w hs;exact .nil (nB (nT ⟨s.rs.set i {r with st:=z3},_,some ⟨bR,0,none⟩,cr,aM,by rw [List.length_set];omega,by rw [List.length_set];exact nu iZ,by rw [List.length_set];exact hs.sb⟩))
          ·refine .af (.z fJ (.zn zg (.bA rfl (fun A7=>?_) (fun A7=>?_))))
           ·refine .region (.z (zfa aP) (.y hs (zld dD) (.z zm (.z (zia 2 aI ak) (.y hs (zld aj) ?_)))));first|(refine .ixw hs aE bh ?_;intro b142 o142 Qd)|refine .z (nH aE bh) ?_
            refine .z (zfa iC) (.o (.store (c':=(rdc (s.rs.set i {r with wa:=z3})).flatten++oO) hs rfl rfl ak ?_ dC (OR 2 ai) (nt hr ai rfl oO)));intro w hs;exact .nil (nB (nT ⟨s.rs.set i {r with wa:=z3},_,some ⟨bR,0,none⟩,cr,aM,by rw [List.length_set];omega,by rw [List.length_set];exact nu iZ,by rw [List.length_set];exact hs.sb⟩))
           ·refine .af (.z fJ (.zn zg (.bA rfl (fun Fu=>?_) (fun Fu=>?_))))
            ·refine .region (.z (zfa aP) (.y hs (zld dD) (.z zm (.z (zia 2 aI ak) (.y hs (zld aj) ?_)))));first|(refine .ixw hs aE bh ?_;intro b151 o151 abq)|refine .z (nH aE bh) ?_
             refine .z (zfa fy) (.o (.store (c':=(rdc (s.rs.set i {r with src:=z3})).flatten++oO) hs rfl rfl ak ?_ dC (OR 0 ai) (nt hr ai rfl oO)));intro w hs;exact .nil (nB (nT ⟨s.rs.set i {r with src:=z3},_,some ⟨bR,0,none⟩,cr,aM,by rw [List.length_set];omega,by rw [List.length_set];exact nu iZ,by rw [List.length_set];exact hs.sb⟩))
            ·refine .seq (.af (.z fJ (.zn zg (.bA rfl (fun L9=>?_) (fun L9=>?_)))))
             ·refine .skip (nT (.cT (.af (.z (zfa aP) (.y hs (zld dD) (.z zm ?_))))));first|(refine .ixw hs aE bh ?_;intro VM o159 Qa)|refine .z (nH aE bh) ?_
              refine .y hs (zls r.c km bh (hr:= .own (by repeat (first|exact .here|refine .there ?_)) (EX (me _) (Dp hr) oO))) ?_;have LK:=hM.ok.early.2.2.2.1 r (List.mem_of_getElem? hr);have LI:=LK.tol;refine .o (.alloc hs jW rfl fun b8 w hs=>?_);refine .o (.aJ (vs:=[_,_,_,_,_,_,_]) hs rfl rfl bh fun w hs=>?_);refine .nil (.af (.z (zfa fy) (.o (.store hs rfl rfl ak fun w hs=>?_))));refine .nil (.af (.z (zia 2 aI ak) (.y hs (zld aj) (.z (zfa dI) (.y hs (zld aj) (.z gE (.z cV (.o (.call k9 rfl (dc hs ai) ?_)))))))));rintro _ w ⟨GQ,g168,rfl,hs⟩;refine .z (zfa dQ) (.o (.store hs rfl rfl ak fun w hs=>?_));refine .nil (.region (.z (zfa aP) (.y hs (zld dD) (.y hs (zls [_,_,_,_,_,_,_] km bh) (.o (.buildSlice (cells:=Rdg.c ⟨50,r.st,r.wa,(GQ:Int),r.tol,r.tape,r.day⟩) hs jc rfl aD fun ZO w hs=>?_))))));refine .o (.append (ys:=Rdg.c ⟨50,r.st,r.wa,(GQ:Int),r.tol,r.tape,r.day⟩) hs eT rfl rfl iZ (.own .here rfl rfl) (by simp [Rdg.c,Value.oneCell']) (fun l' h=>by rw [bX _ (me _),dT] at h;omega) ?_);intro v174 en174 w B9 hs;rw [←zK] at B9;obtain ⟨a174,c174,rfl⟩:=B9.jF (me _) ai;rw [dT] at B9 ⊢;refine .z (zfa aP) (.o (.store hs rfl rfl sizeOf49 fun w hs=>?_));exact .nil (nB (nT ⟨s.rs++[⟨50,r.st,r.wa,(GQ:Int),r.tol,r.tape,r.day⟩],_,a174,c174,aM,by simp;omega,B9,hs.sb⟩))
             ·refine .region (.z fJ (.zn zg (nT (.bA rfl (fun L9=>?_) (fun L9=>?_)))))
              ·refine .af (.z (zfa aP) (.y hs (zld dD) (.z zm ?_)));first|(refine .ixw hs aE bh ?_;intro VM o159 Qa)|refine .z (nH aE bh) ?_
               refine .y hs (zls r.c km bh (hr:= .own (by repeat (first|exact .here|refine .there ?_)) (EX (me _) (Dp hr) oO))) ?_;have LK:=hM.ok.early.2.2.2.1 r (List.mem_of_getElem? hr);have LI:=LK.tol;refine .o (.alloc hs jW rfl fun b8 w hs=>?_);refine .o (.aJ (vs:=[_,_,_,_,_,_,_]) hs rfl rfl bh fun w hs=>?_);refine .nil (.af (.z (zfa fy) (.o (.store hs rfl rfl ak fun w hs=>?_))));refine .nil (.af (.z (zia 2 aI ak) (.y hs (zld aj) (.z (zfa dI) (.y hs (zld aj) (.z gE (.z cV (.o (.call k9 rfl (dc hs ai) ?_)))))))));rintro _ w ⟨GQ,g168,rfl,hs⟩;refine .z (zfa dQ) (.o (.store hs rfl rfl ak fun w hs=>?_));refine .nil (.region (.z (zfa aP) (.y hs (zld dD) (.y hs (zls [_,_,_,_,_,_,_] km bh) (.o (.buildSlice (cells:=Rdg.c ⟨50,r.st,r.wa,(GQ:Int),r.tol,r.tape,r.day⟩) hs jc rfl aD fun ZO w hs=>?_))))));refine .o (.append (ys:=Rdg.c ⟨50,r.st,r.wa,(GQ:Int),r.tol,r.tape,r.day⟩) hs eT rfl rfl iZ (.own .here rfl rfl) (by simp [Rdg.c,Value.oneCell']) (fun l' h=>by rw [bX _ (me _),dT] at h;omega) ?_);intro v174 en174 w B9 hs;rw [←zK] at B9;obtain ⟨a174,c174,rfl⟩:=B9.jF (me _) ai;rw [dT] at B9 ⊢;refine .z (zfa aP) (.o (.store hs rfl rfl sizeOf49 fun w hs=>?_));exact .nil (nB (nT ⟨s.rs++[⟨50,r.st,r.wa,(GQ:Int),r.tol,r.tape,r.day⟩],_,a174,c174,aM,by simp;omega,B9,hs.sb⟩))
              ·exact .skip (nB (nT ⟨s.rs,_,some ⟨bR,0,none⟩,cr,aM,ai,iZ,hs.sb⟩))
   ·exact .skip (nT ⟨s.rs,_,ar,cr,aM,ai,iZ,hs.sb⟩)
  ·clear hs iZ;rintro fs w ⟨R,f3,ar',cr',gP,WC,iZ,hs⟩;refine WE.sub ?_ gP;clear gP;refine .cut (fun fs w=>∃(C:List Cmp) (f4:Ent) (ac':Option Addr) (cc':Nat),lr fs ⟨225,[],[(3,Pt b3),(2,Pt b2)]⟩∧C.length≤5∧dj 6 (.slice ac' C.length cc') (cmc C).flatten f4∧St H1 w (f1::f2::f3::f4:: .blk b3 [I uZ.id,I uZ.src,.slice (some ⟨bS,0,none⟩) s.sp.st.length cS,.slice (some ⟨bW,0,none⟩) s.sp.wa.length cW,I uZ.al,I uZ.up,.slice ar' R.length cr',.slice ac' C.length cc']:: .blk b2 [I 0,I 0,.slice none 0 0,.slice none 0 0,I 0,I 0,.slice none 0 0,.slice none 0 0]::σ)) ?_ ?_
   ·refine .af (.z (zfa cQ) (.y hs (zld kv) (.z (dk bM) (.zn ld (.bA rfl (fun Ft=>?_) (fun Ft=>?_))))))
    ·refine .af (.z (zia 1 aI ak) (.y hs (zld aj) (.z (zfa cQ) (.y hs (zld kv) (.z (dk bM) ?_)))));obtain ⟨bC,cC,spC,hv,rfl,abg⟩:=q8.Pj (xZ _) ai (by rw [iF];omega);simp only [Value.slice.injEq] at hv;obtain ⟨rfl,SR,rfl⟩:=hv;refine .o (.call k9 rfl (dc hs ai) ?_);rintro _ w ⟨i,gi_,rfl,hs⟩;obtain ⟨c,hc⟩:=nth (l:=s.cs) (k:=i) ai;have UY:∀j<6,Nat.blt (i*6+j) ((cmc s.cs).flatten++spC).length=true:=fun j hj=>Nat.ble_eq_true_of_le (by rw [List.length_append,bX _ (xZ _),iF];omega)
     refine .zn zg (.af (.zn zm (.block (.seq (.af (.z fJ (.zn zg (.bA rfl (fun L8=>?_) (fun L8=>?_)))))))))
     ·refine .skip (nT (.cT (.region (.z (zfa cQ) (.y hs (zld kv) (.z zm (.z (zia 2 aI ak) (.y hs (zld aj) ?_))))))));first|(refine .ixw hs bM eD ?_;intro ZN o195 L6)|refine .z (nH bM eD) ?_
      refine .z (zfa gI) (.o (.store (c':=(cmc (s.cs.set i {c with lo:=z3})).flatten++spC) hs rfl rfl ak ?_ dC (UY 4 ai) (wu hc ai rfl spC)));intro w hs;exact .nil (nB (nT ⟨s.cs.set i {c with lo:=z3},_,some ⟨bC,0,none⟩,cc,aM,by rw [List.length_set];omega,by rw [List.length_set];exact vv q8,by rw [List.length_set];exact hs.sb⟩))
     ·refine .region (.z fJ (.zn zg (nT (.bA rfl (fun L8=>?_) (fun L8=>?_)))))
      ·refine .region (.z (zfa cQ) (.y hs (zld kv) (.z zm (.z (zia 2 aI ak) (.y hs (zld aj) ?_)))));first|(refine .ixw hs bM eD ?_;intro ZN o195 L6)|refine .z (nH bM eD) ?_
       refine .z (zfa gI) (.o (.store (c':=(cmc (s.cs.set i {c with lo:=z3})).flatten++spC) hs rfl rfl ak ?_ dC (UY 4 ai) (wu hc ai rfl spC)));intro w hs;exact .nil (nB (nT ⟨s.cs.set i {c with lo:=z3},_,some ⟨bC,0,none⟩,cc,aM,by rw [List.length_set];omega,by rw [List.length_set];exact vv q8,by rw [List.length_set];exact hs.sb⟩))
      ·refine .af (.z fJ (.zn zg (.bA rfl (fun UJ=>?_) (fun UJ=>?_))))
       ·refine .region (.z (zfa cQ) (.y hs (zld kv) (.z zm (.z (zia 2 aI ak) (.y hs (zld aj) ?_)))));first|(refine .ixw hs bM eD ?_;intro b204 o204 abl)|refine .z (nH bM eD) ?_
        refine .z (zfa gH) (.o (.store (c':=(cmc (s.cs.set i {c with hi:=z3})).flatten++spC) hs rfl rfl ak ?_ dC (UY 5 ai) (wu hc ai rfl spC)));intro w hs;exact .nil (nB (nT ⟨s.cs.set i {c with hi:=z3},_,some ⟨bC,0,none⟩,cc,aM,by rw [List.length_set];omega,by rw [List.length_set];exact vv q8,by rw [List.length_set];exact hs.sb⟩))
       ·refine .af (.z fJ (.zn zg (.bA rfl (fun UI=>?_) (fun UI=>?_))))
        ·refine .region (.z (zfa cQ) (.y hs (zld kv) (.z zm (.z (zia 2 aI ak) (.y hs (zld aj) ?_)))));first|(refine .ixw hs bM eD ?_;intro b213 o213 abk)|refine .z (nH bM eD) ?_
         refine .z (zfa iE) (.o (.store (c':=(cmc (s.cs.set i {c with fr:=z3})).flatten++spC) hs rfl rfl ak ?_ dC (UY 2 ai) (wu hc ai rfl spC)));intro w hs;exact .nil (nB (nT ⟨s.cs.set i {c with fr:=z3},_,some ⟨bC,0,none⟩,cc,aM,by rw [List.length_set];omega,by rw [List.length_set];exact vv q8,by rw [List.length_set];exact hs.sb⟩))
        ·refine .af (.z fJ (.zn zg (.bA rfl (fun UH=>?_) (fun UH=>?_))))
         ·refine .region (.z (zfa cQ) (.y hs (zld kv) (.z zm (.z (zia 2 aI ak) (.y hs (zld aj) ?_)))));first|(refine .ixw hs bM eD ?_;intro b222 o222 abj)|refine .z (nH bM eD) ?_
          refine .z (zfa gJ) (.o (.store (c':=(cmc (s.cs.set i {c with to:=z3})).flatten++spC) hs rfl rfl ak ?_ dC (UY 3 ai) (wu hc ai rfl spC)));intro w hs;exact .nil (nB (nT ⟨s.cs.set i {c with to:=z3},_,some ⟨bC,0,none⟩,cc,aM,by rw [List.length_set];omega,by rw [List.length_set];exact vv q8,by rw [List.length_set];exact hs.sb⟩))
         ·exact .skip (nB (nT ⟨s.cs,_,some ⟨bC,0,none⟩,cc,aM,ai,q8,hs.sb⟩))
    ·exact .skip (nT ⟨s.cs,_,ac,cc,aM,ai,q8,hs.sb⟩)
   ·clear hs q8;rintro fs w ⟨C,f4,ac',cc',gP,hCl,q8,hs⟩;refine WE.sub ?_ gP;clear gP;refine .af (.y hs (zls [_,_,_,_,_,_,_,_] bn aK) (.o (.aJ (vs:=[_,_,_,_,_,_,_,_]) hs rfl rfl aK fun w hs=>?_)));refine .nil (.ret ?_);have hV:QA ⟨uZ,R,C⟩ (.slice (some ⟨bS,0,none⟩) s.sp.st.length cS) (.slice (some ⟨bW,0,none⟩) s.sp.wa.length cW) (.slice ar' R.length cr') (.slice ac' C.length cc') f1 f2 f3 f4:=⟨oW,eG,iZ,q8⟩;obtain ⟨Ha,S1,ra,hs⟩:=oW.eI ai hs dC;obtain ⟨Hb,Ei,rb,hs⟩:=eG.eI ai hs dC;obtain ⟨Hc,Gl,rc,hs⟩:=dj.dn (m:=7) (cs:=rdc R) iZ (me _) ai (by rw [dT];omega) hs dC;obtain ⟨Hd,Rz,rd,hs⟩:=dj.dn (m:=6) (cs:=cmc C) q8 (xZ _) ai (by rw [iF];omega) hs dC;exact Fin.iG [] [] hs fun w hs=>⟨_,results1 results55 (dm (vs:=[_,_,_,_,_,_,_,_]) hs rfl bn aK),Hd,⟨uZ,R,C⟩,_,_,_,_,az.trans (S1.trans (Ei.trans (Gl.trans Rz))),rfl,ra.mono (Ei.trans (Gl.trans Rz)),rb.mono (Gl.trans Rz),RRd.mono rc Rz,rd,⟨by show 2≤uZ.st.length∧uZ.st.length≤4;omega,by show 2≤uZ.wa.length∧uZ.wa.length≤3;omega,WC,hCl⟩,hs.out⟩
set_option maxHeartbeats 4000000 in
theorem q5{w:World}{s:Srv}(hs:St H w σ)(h1:RI H cU s.sp.st)(h2:RI H cO s.sp.wa)(h3:RRd H vr s.rs)(h4:RCm H vc s.cs)(hh:RT H vh rows):
  ab8 65 [.agg #[I s.sp.id,I s.sp.src,cU,cO,I s.sp.al,I s.sp.up,vr,vc],.agg #[vh]] w fun u w'=>∃H1 e,HLe H H1∧u=I e∧Nd s rows e∧St H1 w' σ:=by
 obtain ⟨iV,iT,rfl⟩:=RI.shape h1;obtain ⟨gX,gW,rfl⟩:=RI.shape h2;obtain ⟨ar,cr,rfl⟩:=RRd.shape h3;obtain ⟨ac,cc,rfl⟩:=RCm.shape h4;obtain ⟨ah,ch,rfl⟩:=hh.shape;refine Cl.o func65 ntmps65 ag2 ?_;refine .af (.bx hs fun b2 w hs=>?_);refine .bx hs fun b3 w hs=>?_
 refine .zn zg (.seq (.af (.y hs (zls [_,_,_,_,_,_,_,_] bn aK) (.o (.call aaq rfl (fj (s:=s) hs h1 h2 h3 h4) ?_)))));rintro _ w ⟨H1,e,az,rfl,hC,hs⟩;refine .zn zg (.af (.z zm (.zn fU (.dK rfl (fun dY=>?_) (fun dY=>?_)))))
 ·exact .af (.z zm (.zn zg (.ret (rT ((Fin.bu results65 rfl ⟨H1,_,az,rfl,.bad hC dY,hs.out⟩))))))
 ·refine .skip (nT (.seq (.af (.z (zfa a6) (.y hs (zls [_,_,_,_,_,_] bY bq) (.y hs (zls [_] isAgg64 sizeOf64) ?_))))));have aU:ew s:=hC.dr.1 (by simpa using dY);have rk:=fX aU.early.1;have Ff:=aU.early.2.1;refine .o (.call call129 rfl (nN (s:=s.sp) hs (h1.mono az) (h2.mono az) (hh.mono az)) ?_);rintro _ w ⟨H2,wV,bp,rfl,xQ,hs⟩;have dO:=az.trans bp;refine .zn fE (.cond rfl (fun jV=>?_) (fun jV=>?_))
  ·exact .af (.zn zg (.ret (rT ((Fin.bu results65 rfl ⟨H2,_,dO,rfl,.hull aU (fun h=>by rw [xQ.2 h] at jV;cases jV),hs.out⟩)))))
  ·refine .skip (nT (.af (.y hs (zls [_,_,_,_,_,_,_,_] bn aK) ?_)));have CE:oh s.sp rows:=xQ.1 (by simpa using jV);have wS:=aU.dt;have LM:=aU.many;refine .o (.call call133 rfl (ia (s:=s) hs (h1.mono dO) (h2.mono dO) (h3.mono dO) (h4.mono dO) aU.early) ?_);rintro _ w ⟨H3,cZ,⟨ul,rfl,hL⟩,hs⟩;obtain ⟨al,cl,rfl⟩:=RL.shape hL;have gK:=dO.trans cZ;have zR:=fun b hb=>PY (b:=b) CE hb
   have OE:=fun l hl=>aU.sys.lim l hl
   refine .o (.alloc hs fb rfl fun b6 w hs=>?_);refine .o (.aJ (vs:=[_,_]) hs rfl rfl aQ fun w hs=>?_);refine .nil (.af (.o (.buildSlice (cells:=[_]) hs dw rfl rfl fun F3 w hs=>?_)));refine .o (.alloc hs ir rfl fun b7 w hs=>?_);refine .o (.store hs rfl rfl aO fun w hs=>?_);refine .nil (.seq (.af (.z (zfa a6) (.y hs (zls [_,_,_,_,_,_] bY bq) (.o (.call call131 rfl (iA (s:=s.sp) hs (h1.mono gK) (h2.mono gK) ⟨ai,ai⟩) ?_))))));rintro _ w ⟨H4,ba,gj,rfl,ti,hs⟩;have kI:=gK.trans gj;refine .nil (.block ?_);refine .rangeFunc (gf:=188) (cap:=[Pt ba]) (xs:=CS s.sp) (σb:=[.blk b7 [.slice (some ⟨F3,0,none⟩) 1 1],.blk F3 (Is [0]),.blk b6 [I s.sys.many,.slice al s.dt.length cl],.blk b3 [.slice ah rows.length ch]]) (σf:=σ) (hs.sb) trivial rfl ti call188 (fun x hx=>by
     simp only [CS,List.mem_map] at hx;obtain ⟨j,_,rfl⟩:=hx;rfl) rfl
    (I:=fun p H' σb=>∃vo en,σb=[.blk b7 [vo],en,.blk b6 [I s.sys.many,.slice al s.dt.length cl],.blk b3 [.slice ah rows.length ch]]∧dj 1 vo (Is (xl1 s (gt rows) (p+1))) en) (Ix:=fun _ _ _=>False)
    (fun j _ _ σ g1 g2=>g2) (fun _ _ _ _ _ h=>h) ⟨_,_,rfl,.full rfl⟩ ?_ ?_ (fun D c H' σb w _ h _=>h.elim)
   ·rintro ly p hp H5 zE yI w lk ⟨vo,en,rfl,hO⟩ hs ⟨rr,Fe⟩;have Ki:p<s.sp.many:=by rw [fp] at hp;exact hp
    have ib:p/s.sp.wa.length<s.sp.st.length:=Nat.div_lt_of_lt_mul (by rw [Nat.mul_comm];exact Ki);have LU:=Nat.mod_lt p rk.2.2.1;have Ly:hpt s.sp (gt rows) (p+1)=gi (gr rows (p/s.sp.wa.length)) (p%s.sp.wa.length):=rfl;have uv:=CE.row _ ib;have Uh:=CE.len;have XQ:=hh.mono (kI.trans lk);rw [qn hp];obtain ⟨ao,lo,co,rfl,xH⟩:=hO.shape;have yv:=ph s (gt rows) (p+1);generalize p/s.sp.wa.length=i at*;generalize p%s.sp.wa.length=k at*;refine .region (.o (.alloc hs wX rfl fun b8 w hs=>?_));refine .o (.aJ (vs:=[_,_,_]) hs rfl rfl Kb fun w hs=>?_);refine .nil (nT ⟨H5,[.blk b8 [I (i:Int),I (k:Int),I ((p+1:Nat):Int)],.blk b7 [.slice ao lo co],en,.blk b6 [I s.sys.many,.slice al s.dt.length cl],.blk b3 [.slice ah rows.length ch]],HLe.refl _,hs,?_⟩);rintro w uM - hs;refine .block (.draw mix rfl hs fun w hs=>?_);refine .y 0 rfl hs an ?_;refine .z 1 rfl (zfa nx) ?_;refine .y 2 rfl hs aao ?_;refine .z 3 rfl (zfa eo) ?_;refine .y 4 rfl hs aj ?_;refine .ixT (i:=5) hs rfl aD .none XQ rfl rfl aC aO (show i<_ by omega) dp ?_;intro Po o35 a35 c35 nv Zh;refine .r (i:=6) hs rfl aD .none (aF rfl an nv) ?_;refine .zw 7 rfl (zfa dM) ?_;refine .y 8 rfl hs aj ?_;refine .ixX (enc:=fun x=>[I x]) (i:=9) hs rfl aD .none Zh rfl rfl ae ak (bG (l:=(gr rows i)) (i:=k) ai) dp ?_;intro SA o39 kq;replace kq:=bJ.one kq;refine .r (i:=10) hs rfl aD .none (aF rfl aj kq) ?_;refine .E 11 hs ?_;refine .buildSlice (cells:=[_]) hs dw rfl rfl ?_;intro VI w hs;refine .go (.E 12 hs ?_);refine .append (ys:=Is [gi (gr rows i) k]) hs df rfl rfl hO (.own (c:=Is [gi (gr rows i) k]) (by first|exact .here|exact .there .here) rfl rfl) (ki _) (fun l h=>by simp at h;omega) ?_;intro v42 en42 w eG hs;rw [←List.map_append,←Ly,←Nu] at eG;obtain ⟨a42,l42,c42,rfl,h42⟩:=eG.shape;refine .go (.E 13 hs ?_);refine .store hs rfl rfl aO ?_;intro w hs;exact .go (.D hs (nB ⟨H5,[.blk b7 [.slice a42 l42 c42],en42,.blk b6 [I s.sys.many,.slice al s.dt.length cl],.blk b3 [.slice ah rows.length ch]],HLe.refl _,(hs.sb:St H5 w (.blk b7 _::en42:: .blk b6 _:: .blk b3 _::uM)),_,_,rfl,eG⟩))
   ·rintro D H5 zE w lk ⟨vo,en,rfl,hO⟩ hs;rw [fp] at hO;replace hs:St H5 w (.obj D (.deferred (some [])):: .blk b7 [vo]::en:: .blk b6 [I s.sys.many,.slice al s.dt.length cl]:: .blk b3 [.slice ah rows.length ch]::σ):=hs;obtain ⟨ao,lo,co,rfl,xH⟩:=hO.shape;have yv:=ph s (gt rows) (s.sp.many+1);have Uo:lo=s.sp.many+1:=by simp [Is] at xH;omega
    subst Uo;have abQ:=hL.mono (gj.trans lk);have th:=kI.trans lk;refine nB (nT (.seq (.af (.y hs (zld an) (.z (dk ae) (.zn zg (.block ?_)))))));refine .loop (fun j:Nat=>⟨81,marks [D],[(9,I ((s.sp.many+1+j:Nat):Int)),(7,Pt b7),(6,Pt b6)]⟩)
     (fun j w=>j≤s.di.length∧∃ax cx en,dj 1 (.slice ax (s.sp.many+1+j) cx) (Is (xl1 s (gt rows) (s.sp.many+1)++xl2 s (gt rows) j)) en∧St H5 w (.obj D (.deferred (some [])):: .blk b7 [.slice ax (s.sp.many+1+j) cx]::en:: .blk b6 [I s.sys.many,.slice al s.dt.length cl]::σ)) (fun j=>s.di.length - j) 0 aM
     ⟨Nat.zero_le _,_,_,_,by show dj 1 _ (Is (_++[])) _;rw [List.append_nil];exact hO,hs.sb⟩ ?_
    clear hs hO;rintro j w ⟨hj,ax,cx,en,hO,hs⟩;have T9:s.sys.many=((s.sp.many+s.di.length:Nat):Int):=rfl;have PR:=Ci s (gt rows) j;have Iy:(xl1 s (gt rows) (s.sp.many+1)++xl2 s (gt rows) j).length=s.sp.many+1+j:=by rw [List.length_append,yv,PR]
    refine .seq (.af (.z zm (.z (zfa cz) (.y hs (zld aj) (.zn pc (.bA rfl (fun nP=>?_) (fun nP=>?_)))))))
    ·refine .skip (nT (.seq (.block (.af (.zn zg (.seq (.af (.z (zfa cn) (.y hs (zld fc) (.z (dk bj) (.zn zm (.for (N:=s.dt.length) (J:=fun k fr w=>fr=[(10,I (Bz (hpt s.sp (gt rows)) (s.sp.many+1+j:Nat) (s.dt.take k))),(52,.slice al s.dt.length cl),(9,I ((s.sp.many+1+j:Nat):Int)),(7,Pt b7),(6,Pt b6)]∧St H5 w (.obj D (.deferred (some [])):: .blk b7 [.slice ax (s.sp.many+1+j) cx]::en:: .blk b6 [I s.sys.many,.slice al s.dt.length cl]::σ)) ai ?_ ?_ ?_))))))))))))
     ·exact .mk ⟨rfl,hs⟩
     ·rintro k fr w hk ⟨rfl,hs⟩;obtain ⟨l,hx⟩:=nth (l:=s.dt) hk;have S0:=List.mem_of_getElem? hx;obtain ⟨⟨gA,gB⟩,uN⟩:=rX aU.early S0;have hM:=(OE l S0).2.2.2.1;obtain ⟨eB,hB⟩:∃b:Nat,l.B=b:=⟨_,(Int.toNat_of_nonneg gB).symm⟩;have abW:l.B.toNat=eB:=by rw [hB,Int.toNat_natCast]
      rw [abW] at uN;have B7:=GN (hpt s.sp (gt rows)) (s.sp.many+1+j:Nat) (s.dt.take k);refine .block (.af (.ixX (enc:=Lim.c) hs abQ rfl rfl bj cD hx rfl ?_));intro ab3 o56 RO;refine .q hs (cj (vs:=l.c) rfl kT cD RO) (.o (.alloc hs gz rfl fun En w hs=>?_));refine .o (.aJ (vs:=l.c) hs rfl rfl cD fun w hs=>?_);refine .nil (.af (.z (zfa eN) (.y hs (zld aj) (.z zm (.zn fJ (.bA rfl (fun qh=>?_) (fun qh=>?_)))))))
      ·refine .draw mix rfl hs fun w hs=>?_
       have hbB:=zR eB ai;obtain ⟨bo,co',sp,hv,rfl,vX⟩:=hO.blk (by rw [Iy];omega);simp only [Value.slice.injEq] at hv;obtain ⟨rfl,-,rfl⟩:=hv;have RB:gi (xl1 s (gt rows) (s.sp.many+1)++xl2 s (gt rows) j) eB=hpt s.sp (gt rows) eB:=CY s _ _ ai;refine .zw 0 rfl zm ?_;refine .y 1 rfl hs an ?_;refine .z 2 rfl (zfa eZ) ?_;refine .y 3 rfl hs aj ?_;rw [hB];refine .zw 4 rfl (zix (j:=eB) ae ak) (.load (i:=5) hs rfl aD .none rfl aj ?_ (hv:=ik ai sp));rw [RB];refine .zw 6 rfl (zfa fN) ?_;refine .y 7 rfl hs aj ?_;refine .z 8 rfl gE ?_;refine .z 9 rfl Je ?_;refine .z 10 rfl zg ?_;refine .D hs ?_;exact nB (nT (.mk ⟨by rw [dX hx,AV,if_pos ai,abW],hs.sb⟩))
      ·exact .skip (nB (nT (.mk ⟨by rw [dX hx,AV,if_neg ai],hs.sb⟩)))
     ·rintro fr w ⟨rfl,hs⟩;rw [List.take_length];refine nT (.region (.y hs (zld an) (.z zm (.o (.buildSlice (cells:=[_]) hs dw rfl rfl fun ZH w hs=>?_)))));refine .o (.append (ys:=Is [Bz (hpt s.sp (gt rows)) (s.sp.many+1+j:Nat) s.dt]) hs df rfl rfl hO (.own .here rfl rfl) (ki _) (fun l h=>by simp only [Is,List.length_map,Iy] at h;omega) ?_);intro v76 en76 w eG hs;rw [←List.map_append,List.append_assoc,←Nt] at eG;obtain ⟨a76,c76,rfl⟩:=eG.HX;have aaD:(xl1 s (gt rows) (s.sp.many+1)++xl2 s (gt rows) (j+1)).length=s.sp.many+1+(j+1):=by rw [List.length_append,yv,Ci]
      rw [aaD] at eG ⊢;refine .o (.store hs rfl rfl aO fun w hs=>?_);exact .nil (nB (nT (.region (.z zm (.z cV (.zn zg (nT ⟨j+1,.da rfl (by simp;omega) aM,⟨ai,_,_,_,eG,hs.sb⟩,ai⟩)))))))
    ·refine .exit (xT (xT (xB (nT (.seq (.af (.y hs (zls [_,_] bT aQ) (.y hs (zld an) ?_))))))));obtain rfl:j=s.di.length:=by omega
     obtain ⟨H6,zf,hX,hs⟩:=dj.eI hO (by rw [Iy];omega) hs dC;refine .o (.call call134 rfl (sB (s:=s.sys) hs ⟨_,rfl,abQ.mono zf⟩ hX) ?_);rintro _ w ⟨e79,rfl,hP,hs⟩;have hn:=Dh s;have P2:Na s.sys (xl1 s (gt rows) (s.sp.many+1)++xl2 s (gt rows) s.di.length)↔∃f,Kp s (gt rows) f:=by
      rw [←Ns aU];refine ⟨fun h=>h.Em,fun h=>⟨by rw [Iy,hn];omega,by rw [CY s _ _ ai];rfl,fun b hb=>?_,h⟩⟩;rw [hn] at hb;by_cases e:b<s.sp.many+1
      ·rw [CY s _ _ e];have:=zR b ai;omega
      ·rw [show b=s.sp.many+1+(b - (s.sp.many+1)) by omega,HT s _ ai];have g1:=GN (hpt s.sp (gt rows)) (s.sp.many+1+(b - (s.sp.many+1)):Nat) s.dt;have g2:=On aU CE (b - (s.sp.many+1));omega
     refine .zn fU (.dK rfl (fun Fo=>?_) (fun Fo=>?_))
     ·refine .af (.zn zg (.ret (rT ((Fin.iG [D] [] hs fun w hs=>⟨_,results1 results65 rfl,H6,_,th.trans zf,rfl,.no aU CE (fun h=>Fo ?_),hs.out⟩)))))
      cases hP with
      |bad h=>exact (h (s.sys.dr.2 aU.sys)).elim
      |off _ h1=>exact (h1 (P2.2 h)).elim
      |ok=>rfl
     ·refine .skip (nT (.af (.zn zg (.ret (Fin.iG [D] [] hs fun w hs=>⟨_,results1 results65 rfl,H6,_,th.trans zf,rfl,.ok aU CE (P2.1 ?_),hs.out⟩)))))
      cases hP with
      |bad h=>exact (h (s.sys.dr.2 aU.sys)).elim
      |off _ h1=>omega
      |ok _ h1=>exact h1
def e9(q:Wht)(high:Bool)(n m:Int):Prop:=if high=true then m/oZ q≤n else n≤-m/oZ q
inductive uL(v:Srv)(q:Wht)(high:Bool)(n m:Int)(us:List Use):Int→Prop
 |bad {e:Int} (h:BF v e) (he:e≠0):uL v q high n m us e
 |what (h:ew v) (h1:¬gx v.sp q):uL v q high n m us 33
 |prf (h:ew v) (h1:gx v.sp q) (h2:¬o5 v.sys (zV (v.w q) high) m us):uL v q high n m us 24
 |off (h:ew v) (h1:gx v.sp q) (h2:o5 v.sys (zV (v.w q) high) m us) (h3:¬e9 q high n m):uL v q high n m us 36
 |ok (h:ew v) (h1:gx v.sp q) (h2:o5 v.sys (zV (v.w q) high) m us) (h3:e9 q high n m):uL v q high n m us 0
theorem uL.uniq{v:Srv}{q:Wht}{n:Int}(h:uL v q high n m us e)(g:uL v q high n m us f):e=f:=by
 cases h with
 |bad h he=>
  cases g with
  |bad g _=>exact h.uniq g
  |what g _=>exact (he (h.dr.2 g)).elim
  |prf g _ _=>exact (he (h.dr.2 g)).elim
  |off g _ _ _=>exact (he (h.dr.2 g)).elim
  |ok g _ _ _=>exact (he (h.dr.2 g)).elim
 |what h h1=>cases g with|bad g ge=>exact (ge (g.dr.2 h)).elim|_=>first|rfl|contradiction
 |prf h h1 h2=>cases g with|bad g ge=>exact (ge (g.dr.2 h)).elim|_=>first|rfl|contradiction
 |off h h1 h2 h3=>cases g with|bad g ge=>exact (ge (g.dr.2 h)).elim|_=>first|rfl|contradiction
 |ok h h1 h2 h3=>cases g with|bad g ge=>exact (ge (g.dr.2 h)).elim|_=>first|rfl|contradiction
theorem I5{v:Srv}(h:ew v){q:Wht}(hq:gx v.sp q)(high:Bool):eS v.sys (zV (v.w q) high)=0:=by
 unfold zV;split
 ·exact h.ask hq
 ·rw [sZ];exact h.ask hq
theorem Dw{v:Srv}(h:ew v){ws:List Int}{m:Int}{us:List Use}(hp:o5 v.sys ws m us): -4608000000000000000≤m∧m≤4608000000000000000:=by
 have h1:=zZ h.sys hp.use;have h2:=hp.tot;have h3:=hp.bound;omega
theorem D1{v:Srv}{q:Wht}{n:Int}(h:ew v)(hq:gx v.sp q){e:Int}(hp:CV v.sys (zV (v.w q) high) m us e):(e≠0→e=24∧uL v q high n m us 24)∧(e=0→o5 v.sys (zV (v.w q) high) m us):=by
 cases hp with
 |ask h1=>exact (h1 (I5 h hq high)).elim
 |bad _ h1=>exact ⟨fun _=>⟨rfl,.prf h hq h1⟩,fun h=>by omega⟩
 |ok _ h1=>exact ⟨fun h=>(h rfl).elim,fun _=>h1⟩
theorem rJ{w:World}{s:Srv}{q:Wht}{n:Int}(hs:St H w σ)(h1:RI H cU s.sp.st)(h2:RI H cO s.sp.wa)(h3:RRd H vr s.rs)(h4:RCm H vc s.cs)(hp:RPf H vp m us):
  ab8 138 [.agg #[I s.sp.id,I s.sp.src,cU,cO,I s.sp.al,I s.sp.up,vr,vc],.agg #[I q.kind,I q.st,I q.wa],.bool high,I n,vp] w fun u w'=>∃H1 e,HLe H H1∧u=I e∧uL s q high n m us e∧St H1 w' σ:=by
 obtain ⟨uu,rfl,hU⟩:=hp;obtain ⟨au,cu,rfl⟩:=RU.shape hU;refine Cl.o func138 ntmps138 ag5 ?_;refine .af (.bx hs fun b5 w hs=>?_);refine .bx hs fun b6 w hs=>?_
 refine .bx hs fun b9 w hs=>?_
 refine .zn zg (.af (.y hs (zls [_,_,_,_,_,_,_,_] bn aK) (.y hs (zls [_,_,_] pa ku) (.z zm (.o (.call call201 rfl (qy (s:=s) (q:=q) (high:=high) hs h1 h2 h3 h4) ?_))))));rintro _ w ⟨H1,mm,ul,vw,d,e,az,rfl,⟨al,ll,cl,rfl⟩,⟨aw,lw,cw,rfl⟩,hA,OZ,hs⟩;refine .z zm (.z zex (.z zex (.z zex (.z zex (.o (.alloc hs fb rfl fun yE w hs=>?_))))));refine .o (.aJ (vs:=[_,_]) hs rfl rfl aQ fun w hs=>?_);refine .z zg (.z zg (.zn zg (.seq (.af (.z zm (.zn fU (.dK rfl (fun gv=>?_) (fun gv=>?_))))))))
 ·refine .af (.z zm (.zn zg (.ret (rT (Fin.bu rl rfl ?_)))));exact ⟨H1,_,az,rfl,by
   cases hA with
   |bad h he=>exact .bad h he
   |what h h1=>exact .what h h1
   |ok=>exact (gv rfl).elim,hs.out⟩
 ·refine .skip (nT (.seq (.af (.y hs (zls [_,_] bT aQ) (.z zm (.y hs (zls [_,_] eF bQ) ?_))))));obtain rfl:e=0:=by simpa using gv
  obtain ⟨rfl,hL,hR,rfl⟩:=OZ rfl;obtain ⟨aU,hq⟩:=hA.zero;refine .o (.call call202 rfl (rM (s:=s.sys) (n:=m) (us:=us) hs ⟨_,rfl,hL⟩ hR ⟨_,rfl,hU.mono az⟩) ?_);rintro _ w ⟨e30,rfl,hP,hs⟩;refine .zn fU (.dK rfl (fun oU=>?_) (fun oU=>?_))
  ·exact .af (.zn zg (.ret (rT (Fin.bu rl rfl ⟨H1,_,az,rfl,((D1 aU hq hP).1 oU).2,hs.out⟩))))
  ·refine .skip (nT (.seq (.af ?_)));have uA:=(D1 (n:=n) aU hq hP).2 (by simpa using oU);have zR:=Dw aU uA;have RE:=wk q;refine .z zm (.z zm (.bif (t':=33) rfl (fun JS=>?_) (fun JS=>?_)))
   ·refine .T (.z (zfa eX) (.T (.y hs (zld aj) (.T (.z zm (.T (.o (.call aap rfl (hZ hs ai ai) ?_))))))));rintro _ w ⟨rfl,hs⟩;refine .T (.z zm (.T (.z pc (.z zpT (.z zm (.ie (t':=41) rfl (fun R0=>?_) (fun R0=>?_)))))))
    ·refine .Fs 3 9 false (.Fs 7 12 true (.Fs 1 9 false (.zn zpT (.cT (.af (.zn zg (.ret (rT (Fin.bu rl rfl ?_)))))))));exact ⟨H1,_,az,rfl,by
      first
       |exact .ok aU hq uA (by unfold e9;simp_all)
       |exact .off aU hq uA (by unfold e9;simp_all)
       |simp_all,hs.out⟩
    ·refine .T (.z zm (.T (.z fE (.T (.z zm (.bif (t':=44) rfl (fun B8=>?_) (fun B8=>?_)))))))
     ·refine .T (.z (zfa eX) (.T (.y hs (zld aj) (.T (.z BM (.T (.z zm (.T (.o (.call aap rfl (hZ hs ai ai) ?_))))))))));rintro _ w ⟨rfl,hs⟩;refine .T (.z zm (.T (.z tN (.T (.z zpT (.zn zpF (.bA rfl (fun ux=>?_) (fun ux=>?_))))))))
      ·refine .af (.zn zg (.ret (rT (Fin.bu rl rfl ?_))));exact ⟨H1,_,az,rfl,by
        first
         |exact .ok aU hq uA (by unfold e9;simp_all)
         |exact .off aU hq uA (by unfold e9;simp_all)
         |simp_all,hs.out⟩
      ·refine .skip (nT (.af (.zn zg (.ret (Fin.bu rl rfl ?_)))));exact ⟨H1,_,az,rfl,by
        first
         |exact .ok aU hq uA (by unfold e9;simp_all)
         |exact .off aU hq uA (by unfold e9;simp_all)
         |simp_all,hs.out⟩
     ·refine .Fs 7 12 true (.T (.z zpF (.zn zpF (.cF (.skip (nT (.af (.zn zg (.ret (Fin.bu rl rfl ?_))))))))));exact ⟨H1,_,az,rfl,by
       first
        |exact .ok aU hq uA (by unfold e9;simp_all)
        |exact .off aU hq uA (by unfold e9;simp_all)
        |simp_all,hs.out⟩
   ·refine .Fs 6 1 true (.z zpF (.z zm (.T (.z zm (.T (.z fE (.T (.z zm (.bif (t':=44) rfl (fun B8=>?_) (fun B8=>?_))))))))))
    ·refine .T (.z (zfa eX) (.T (.y hs (zld aj) (.T (.z BM (.T (.z zm (.T (.o (.call aap rfl (hZ hs ai ai) ?_))))))))));rintro _ w ⟨rfl,hs⟩;refine .T (.z zm (.T (.z tN (.T (.z zpT (.zn zpF (.bA rfl (fun ux=>?_) (fun ux=>?_))))))))
     ·refine .af (.zn zg (.ret (rT (Fin.bu rl rfl ?_))));exact ⟨H1,_,az,rfl,by
       first
        |exact .ok aU hq uA (by unfold e9;simp_all)
        |exact .off aU hq uA (by unfold e9;simp_all)
        |simp_all,hs.out⟩
     ·refine .skip (nT (.af (.zn zg (.ret (Fin.bu rl rfl ?_)))));exact ⟨H1,_,az,rfl,by
       first
        |exact .ok aU hq uA (by unfold e9;simp_all)
        |exact .off aU hq uA (by unfold e9;simp_all)
        |simp_all,hs.out⟩
    ·refine .Fs 7 12 true (.T (.z zpF (.zn zpF (.cF (.skip (nT (.af (.zn zg (.ret (Fin.bu rl rfl ?_))))))))));exact ⟨H1,_,az,rfl,by
      first
       |exact .ok aU hq uA (by unfold e9;simp_all)
       |exact .off aU hq uA (by unfold e9;simp_all)
       |simp_all,hs.out⟩
theorem mz{w:World}{x:Int}(hs:St H w σ)(hx: -3456000000000≤x∧x≤3456000000000):
  ab8 181 [I x] w fun v w'=>v=I (-x)∧St H w' σ:=by
 refine Cl.o func181 ntmps181 ag1 ?_;exact .af (.zn zg (.af (.z zm (.z BM (.zn zg (.ret (Fin.bu results181 rfl ⟨rfl,hs.out⟩)))))))
theorem my{w:World}{x:Int}(hs:St H w σ):
  ab8 182 [I x] w fun v w'=>v=I x∧St H w' σ:=by
 refine Cl.o func182 ntmps182 ag1 ?_;exact .af (.zn zg (.af (.z zm (.zn zg (.ret (Fin.bu results182 rfl ⟨rfl,hs.out⟩))))))
theorem MS{x:Int}(hx:L[k]? =some x):zV (L.take k) high++[if high then x else -x]=zV (L.take (k+1)) high:=by
 rw [dX hx];unfold zV vK;cases high<;>simp
theorem Bg:(zV L high).length=L.length:=by unfold zV vK;split<;>simp
theorem jQ{w:World}{ul:Value}(hs:St H w σ)(hR:RI H vw L)(hb:∀i,-3456000000000≤gi L i∧gi L i≤3456000000000)(hl:L.length≤1000):
  ab8 127 [.agg #[I m,ul,vw,I d],.bool high] w fun v w'=>∃H1,HLe H H1∧RI H1 v (zV L high)∧St H1 w' σ:=by
 obtain ⟨aw,cw,rfl⟩:=RI.shape hR;refine Cl.o func127 ntmps127 ag2 ?_;refine .af (.bx hs fun b2 w hs=>?_);refine .zn zg (.af (.zn zg (.cut (fun fs w=>∃f,lr fs ⟨25,[],[(5,.func (.func f) #[] #[]),(2,Pt b2)]⟩∧(∀args w,(callFunc f args).run Tryz.prog w= .ok (.enter f args) w)∧(∀{σ:List Ent} {w:World} {x:Int},St H w σ→-3456000000000≤x∧x≤3456000000000→ab8 f [I x] w fun v w'=>v=I (if high then x else -x)∧St H w' σ)∧St H w (.blk b2 [I m,ul,.slice aw L.length cw,I d]::σ)) ?_ ?_)))
 ·refine .af (.zn zm (.cond rfl (fun om=>?_) (fun om=>?_)))
  ·refine .region (.zn zg (nT ?_));subst om;exact ⟨182,aM,call182,fun hs hx=>(my hs).mono fun v w' h=>h,hs⟩
  ·refine .skip (nT ?_);obtain rfl:high=false:=by simpa using om
   exact ⟨181,aM,call181,fun hs hx=>(mz hs hx).mono fun v w' h=>h,hs⟩
 ·clear hs;rintro fs w ⟨f,gP,hcf,Gi,hs⟩;refine WE.sub ?_ gP;clear gP;refine .af (.zn zg (.seq (.af (.z (zfa mF) (.y hs (zld an) (.z (dk ae) (.zn zm (.for (N:=L.length) (J:=fun k fr w=>∃vo en,fr=[(11,.slice aw L.length cw),(6,vo),(5,.func (.func f) #[] #[]),(2,Pt b2)]∧dj 1 vo (Is (zV (L.take k) high)) en∧St H w (en:: .blk b2 [I m,ul,.slice aw L.length cw,I d]::σ)) ai ?_ ?_ ?_))))))))
  ·exact .mk ⟨_,_,rfl,by have:zV (L.take 0) high=[]:=(by unfold zV vK;cases high<;>simp);rw [this];exact .nil 1 none,hs.nul⟩
  ·rintro k fr w hk ⟨vo,en,rfl,hO,hs⟩;obtain ⟨x,hx⟩:=nth hk;have Ox:=hb k;rw [show gi L k=x by simp [gi,List.getD,hx]] at Ox;refine .block (.af (.ixX (enc:=fun x=>[I x]) hs hR rfl rfl ae ak hx rfl ?_));intro Gq o15 fq;replace fq:=bJ.one fq;refine .q hs (aF rfl aj fq) (.zn zg (.region (.z zm (.z zm (.z zm (.o (.sw (first:=[]) (cap:=[]) rfl rfl hcf (Gi hs Ox) ?_)))))));rintro _ w ⟨rfl,hs⟩;refine .o (.buildSlice (cells:=[_]) hs dw rfl rfl fun wV w hs=>?_);refine .o (.append (ys:=Is [if high then x else -x]) hs df rfl rfl hO (.own .here rfl rfl) (ki _) (fun l h=>by simp [Is,Bg] at h;omega) ?_);intro v22 en22 w eG hs;rw [←List.map_append,MS hx] at eG;exact .zn zg (nB (nT (.mk ⟨_,_,rfl,eG,hs.sb⟩)))
  ·rintro fr w ⟨vo,en,rfl,hO,hs⟩;rw [List.take_length] at hO;refine nT (.af (.z zm (.zn zg (.ret (Fin.bu results127 rfl ?_)))));obtain ⟨H1,az,hR1,hs⟩:=dj.eI hO (by rw [Bg];omega) hs .here;exact ⟨H1,az,hR1,hs.out⟩
set_option maxHeartbeats 1000000 in
theorem qd{w:World}{s:Srv}{q:Wht}{n:Int}(hs:St H w σ)(h1:RI H cU s.sp.st)(h2:RI H cO s.sp.wa)(h3:RRd H vr s.rs)(h4:RCm H vc s.cs)(hp:RPf H vp m us):
  ab8 139 [.agg #[I s.sp.id,I s.sp.src,cU,cO,I s.sp.al,I s.sp.up,vr,vc],.agg #[I q.kind,I q.st,I q.wa],.bool high,I n,vp] w fun u w'=>∃H1 e,HLe H H1∧u=I e∧uL s q high n m us e∧St H1 w' σ:=by
 obtain ⟨uu,rfl,hU⟩:=hp;obtain ⟨au,cu,rfl⟩:=RU.shape hU;refine Cl.o func139 ntmps139 ag5 ?_;refine .af (.bx hs fun b5 w hs=>?_);refine .bx hs fun b6 w hs=>?_
 refine .bx hs fun b9 w hs=>?_
 refine .zn zg (.seq (.af (.y hs (zls [_,_,_,_,_,_,_,_] bn aK) (.o (.call aaq rfl (fj (s:=s) hs h1 h2 h3 h4) ?_)))));rintro _ w ⟨H1,e,az,rfl,hC,hs⟩;refine .zn zg (.af (.z zm (.zn fU (.dK rfl (fun im=>?_) (fun im=>?_)))))
 ·exact .af (.z zm (.zn zg (.ret (rT (Fin.bu oz rfl ⟨H1,_,az,rfl,.bad hC im,hs.out⟩)))))
 ·refine .skip (nT (.af (.y hs (zls [_,_,_,_,_,_,_,_] bn aK) (.y hs (zls [_,_,_] pa ku) ?_))));have aU:ew s:=hC.dr.1 (by simpa using im);refine .o (.call call177 rfl (qD (s:=s) (q:=q) hs (h1.mono az) (h2.mono az) (h3.mono az) (h4.mono az) aU) ?_);rintro _ w ⟨H2,ul,vw,L,d,b,bp,rfl,hL,hR,Vi,jk,hs⟩;have dO:=az.trans bp;obtain ⟨al,cl,rfl⟩:=RL.shape hL;obtain ⟨aw,cw,rfl⟩:=RI.shape hR;refine .z zm (.z zex (.z zex (.o (.alloc hs wY rfl fun En w hs=>?_))));refine .o (.aJ (vs:=[_,_,_,_]) hs rfl rfl iy fun w hs=>?_);refine .zn zg (.seq (.af (.z zm (.zn fE (.cond rfl (fun nS=>?_) (fun nS=>?_))))))
  ·refine .af (.zn zg (.ret (rT (Fin.bu oz rfl ?_))));have hq:¬gx s.sp q:=by
    rcases jk with ⟨g,_⟩|⟨_,g⟩
    ·subst g;cases nS
    ·exact g
   exact ⟨H2,_,dO,rfl,.what aU hq,hs.out⟩
  ·refine .skip (nT (.seq (.seq (.draw mix rfl hs fun w hs=>?_))));refine .zw 0 rfl (zfa j7) ?_;refine .ys 1 rfl hs [_,_] bT aQ ?_;refine .ys 2 rfl hs [_,_,_,_] HP iy ?_;refine .z 3 rfl zm ?_;refine .ys 5 rfl hs [_,_] eF bQ ?_;refine .E 4 hs ?_;obtain ⟨rfl,hq,rfl,rfl⟩:b=true∧gx s.sp q∧L=s.w q∧d=oZ q:=jk.resolve_right fun h=>by rw [h.1] at nS;cases nS
   have xG:=aU.sys.n65;refine .call call127 rfl (jQ (high:=high) hs hR (Dg aU hq) ai) ?_;rintro _ w ⟨H3,cZ,Mw,hs⟩;have gK:=dO.trans cZ;refine .go (.E 6 hs ?_);refine .call call203 rfl (sA (s:=s.sys) (n:=m) (us:=us) hs ⟨_,rfl,hL.mono cZ⟩ Mw ⟨_,rfl,hU.mono gK⟩) ?_;rintro _ w ⟨H4,e34,gj,rfl,hP,hs⟩;have kI:=gK.trans gj;refine .go (.zw 7 rfl zg ?_);refine .D hs ?_;refine .af (.z zm (.zn fU (.dK rfl (fun lK=>?_) (fun lK=>?_))))
   ·refine .af (.z zm (.zn zg (.ret (rT (Fin.bu oz rfl ?_)))));obtain ⟨rfl,h24⟩:=(D1 (n:=n) aU hq hP).1 lK;exact ⟨H4,_,kI,rfl,h24,hs.out⟩
   ·refine .skip (nT (.seq (.af ?_)));have uA:=(D1 (n:=n) aU hq hP).2 (by simpa using lK);have zR:=Dw aU uA;have RE:=wk q;refine .z zm (.z zm (.bif (t':=39) rfl (fun G7=>?_) (fun G7=>?_)))
    ·refine .T (.z (zfa eX) (.T (.y hs (zld aj) (.T (.z (zfa fY) (.T (.y hs (zld aj) (.T (.o (.call call132 rfl (gS hs ai ai) ?_))))))))));rintro _ w ⟨rfl,hs⟩;refine .T (.z zm (.T (.z ld (.z zpT (.z zm (.ie (t':=48) rfl (fun Mo=>?_) (fun Mo=>?_)))))))
     ·refine .Fs 3 10 false (.Fs 8 13 true (.Fs 1 10 false (.zn zpT (.cT (.af (.zn zg (.ret (rT (Fin.bu oz rfl ?_)))))))));exact ⟨H4,_,kI,rfl,by
       first
        |exact .ok aU hq uA (by unfold e9;simp_all)
        |exact .off aU hq uA (by unfold e9;simp_all)
        |simp_all,hs.out⟩
     ·refine .T (.z zm (.T (.z fE (.T (.z zm (.bif (t':=51) rfl (fun Mn=>?_) (fun Mn=>?_)))))))
      ·refine .T (.z (zfa eX) (.T (.y hs (zld aj) (.T (.z BM (.T (.z (zfa fY) (.T (.y hs (zld aj) (.T (.o (.call call132 rfl (gS hs ai ai) ?_))))))))))));rintro _ w ⟨rfl,hs⟩;refine .T (.z zm (.T (.z gV (.T (.z zpT (.zn zpF (.bA rfl (fun qh=>?_) (fun qh=>?_))))))))
       ·refine .af (.zn zg (.ret (rT (Fin.bu oz rfl ?_))));exact ⟨H4,_,kI,rfl,by
         first
          |exact .ok aU hq uA (by unfold e9;simp_all)
          |exact .off aU hq uA (by unfold e9;simp_all)
          |simp_all,hs.out⟩
       ·refine .skip (nT (.af (.zn zg (.ret (Fin.bu oz rfl ?_)))));exact ⟨H4,_,kI,rfl,by
         first
          |exact .ok aU hq uA (by unfold e9;simp_all)
          |exact .off aU hq uA (by unfold e9;simp_all)
          |simp_all,hs.out⟩
      ·refine .Fs 8 13 true (.T (.z zpF (.zn zpF (.cF (.skip (nT (.af (.zn zg (.ret (Fin.bu oz rfl ?_))))))))));exact ⟨H4,_,kI,rfl,by
        first
         |exact .ok aU hq uA (by unfold e9;simp_all)
         |exact .off aU hq uA (by unfold e9;simp_all)
         |simp_all,hs.out⟩
    ·refine .Fs 7 1 true (.z zpF (.z zm (.T (.z zm (.T (.z fE (.T (.z zm (.bif (t':=51) rfl (fun Mn=>?_) (fun Mn=>?_))))))))))
     ·refine .T (.z (zfa eX) (.T (.y hs (zld aj) (.T (.z BM (.T (.z (zfa fY) (.T (.y hs (zld aj) (.T (.o (.call call132 rfl (gS hs ai ai) ?_))))))))))));rintro _ w ⟨rfl,hs⟩;refine .T (.z zm (.T (.z gV (.T (.z zpT (.zn zpF (.bA rfl (fun qh=>?_) (fun qh=>?_))))))))
      ·refine .af (.zn zg (.ret (rT (Fin.bu oz rfl ?_))));exact ⟨H4,_,kI,rfl,by
        first
         |exact .ok aU hq uA (by unfold e9;simp_all)
         |exact .off aU hq uA (by unfold e9;simp_all)
         |simp_all,hs.out⟩
      ·refine .skip (nT (.af (.zn zg (.ret (Fin.bu oz rfl ?_)))));exact ⟨H4,_,kI,rfl,by
        first
         |exact .ok aU hq uA (by unfold e9;simp_all)
         |exact .off aU hq uA (by unfold e9;simp_all)
         |simp_all,hs.out⟩
     ·refine .Fs 8 13 true (.T (.z zpF (.zn zpF (.cF (.skip (nT (.af (.zn zg (.ret (Fin.bu oz rfl ?_))))))))));exact ⟨H4,_,kI,rfl,by
       first
        |exact .ok aU hq uA (by unfold e9;simp_all)
        |exact .off aU hq uA (by unfold e9;simp_all)
        |simp_all,hs.out⟩
def wM(s:Srv)(q:Wht)(high:Bool)(n:Int)(us:List Use):Prop:=o5 s.sys (zV (s.w q) high) n us∧ox s.sys (zV (s.w q) high) n 0
set_option maxHeartbeats 1000000 in
theorem vD{w:World}{s:Srv}{q:Wht}(hs:St H w σ)(h1:RI H cU s.sp.st)(h2:RI H cO s.sp.wa)(h3:RRd H vr s.rs)(h4:RCm H vc s.cs):
  ab8 136 [.agg #[I s.sp.id,I s.sp.src,cU,cO,I s.sp.al,I s.sp.up,vr,vc],.agg #[I q.kind,I q.st,I q.wa],.bool high] w fun u w'=>∃H1 vp n us e,HLe H H1∧u= .tuple #[vp,I e]∧RPf H1 vp n us∧yi s q e∧(e≠0→n=0∧us=[])∧(e=0→wM s q high n us)∧St H1 w' σ:=by
 refine Cl.o func136 ntmps136 ag3 ?_;refine .af (.bx hs fun b3 w hs=>?_);refine .bx hs fun b4 w hs=>?_
 refine .o (.alloc hs ju rfl fun b6 w hs=>?_);refine .zn zg (.af (.y hs (zls [_,_,_,_,_,_,_,_] bn aK) (.y hs (zls [_,_,_] pa ku) (.o (.call call125 rfl (oF (s:=s) (q:=q) hs h1 h2 h3 h4) ?_)))));rintro _ w ⟨H1,m,ul,vw,d,e,az,rfl,⟨al,ll,cl,rfl⟩,⟨aw,lw,cw,rfl⟩,hA,OZ,hs⟩;refine .z zm (.z zex (.z zex (.o (.alloc hs wY rfl fun b8 w hs=>?_))));refine .o (.aJ (vs:=[_,_,_,_]) hs rfl rfl iy fun w hs=>?_);refine .zn zg (.seq (.af (.z zm (.zn fU (.dK rfl (fun i7=>?_) (fun i7=>?_))))))
 ·refine .af (.z (zbd [_,_] jC) (.z zm (.o (.aJ (vs:=[_,_]) hs rfl rfl bQ fun w hs=>?_))));exact .zn zg (.ret (rT ((Fin.iG [] [] hs fun w hs=>⟨_,results2 results136 (dm (vs:=[_,_]) hs rfl eF bQ) rfl,H1,_,0,[],_,az,rfl,⟨_,rfl,RS.nil H1 2 none 0⟩,hA,fun _=>⟨rfl,rfl⟩,fun h=>(i7 h).elim,hs.out⟩))))
 ·refine .skip (nT (.seq (.draw mix rfl hs fun w hs=>?_)));refine .zw 0 rfl (zfa j7) ?_;refine .ys 1 rfl hs [_,_] bT aQ ?_;refine .ys 2 rfl hs [_,_,_,_] HP iy ?_;refine .z 3 rfl zm ?_;refine .E 4 hs ?_;obtain rfl:e=0:=by simpa using i7
  obtain ⟨rfl,hL,hR,rfl⟩:=OZ rfl;obtain ⟨aU,hq,uN⟩:=hA.zero;have xG:=aU.sys.n65;have BC:=rE s q;refine .call call127 rfl (jQ (high:=high) hs hR (Dg aU hq) ai) ?_;rintro _ w ⟨H2,bp,Mw,hs⟩;refine .go (.E 5 hs ?_);refine .call call200 rfl (zq (s:=s.sys) hs ⟨_,rfl,hL.mono bp⟩ Mw) ?_;rintro _ w ⟨H3,vp,n,us,f,cZ,rfl,hM,⟨uu,rfl,hU⟩,-,hF,hs⟩;obtain ⟨au,cu,rfl⟩:=RU.shape hU;obtain rfl:=sy (I5 aU hq high) uN (fun b=>s.both) hM;obtain ⟨hS,-,ts,WK,rfl,rfl⟩:=hF rfl;have gK:=az.trans (bp.trans cZ);refine .go (.zw 6 rfl zex ?_);refine .z 7 rfl zex ?_;refine .E 8 hs ?_;refine .aJ (vs:=[_,_]) hs rfl rfl bQ ?_;intro w hs;refine .go (.zw 9 rfl zg ?_);refine .D hs ?_;exact .ret (Fin.iG [] [] hs fun w hs=>⟨_,results2 results136 (dm (vs:=[_,_]) hs rfl eF bQ) rfl,H3,_,_,_,_,gK,rfl,⟨_,rfl,hU⟩,hA,fun h=>(h rfl).elim,fun _=>⟨JX hS WK,hM⟩,hs.out⟩)
theorem QT{v:Srv}{q:Wht}(g:HC v q lo hi 0):∃a b,lo=a/oZ q∧hi=b/oZ q∧ew v∧gx v.sp q∧i6 v.sys (v.w q) a b 0:=by
 generalize hz:(0:Int)=z at g
 cases g with
 |bad g ge=>exact (ge hz.symm).elim
 |what=>omega
 |fls=>omega
 |ok h1 h2 h3 h4=>exact ⟨_,_,rfl,rfl,h1,h2,h4⟩
theorem wM.ZC{v:Srv}{q:Wht}{n:Int}(h:wM v q high n us)(g:HC v q lo hi 0):uL v q high (if high=true then hi else lo) n us 0:=by
 obtain ⟨a,b,rfl,rfl,h1,h2,h3⟩:=QT g;refine .ok h1 h2 h.1 ?_;have hm:=h.2;unfold zV at hm;unfold e9
 cases high with
 |true=>rw [if_pos rfl] at hm ⊢;rw [if_pos rfl,NZ h3 hm];exact Int.le_refl _
 |false=>
  rw [if_neg bK] at hm ⊢;rw [if_neg bK,NY h3 hm,Int.neg_neg];exact Int.le_refl _
theorem wM.bd{v:Srv}{q:Wht}{n:Int}(h0:e≠0→n=0∧us=[])(hA:yi v q e)(h:e=0→wM v q high n us):us.length≤400∧-5000000000000000000≤n∧n≤5000000000000000000:=by
 by_cases e0:e=0
 ·subst e0;have h1:=Dw hA.zero.1 (h rfl).1;exact ⟨(h rfl).1.len,ai⟩
 ·obtain ⟨rfl,rfl⟩:=h0 e0;exact ⟨bK,ai⟩
theorem cN{w:World}(hs:St H w σ):ab8 72 [I a0,I a1,I a2] w fun v w'=>v= .bool (decide (a1≤a0∧a0≤a2))∧St H w' σ:=by
 refine Cl.o func72 ntmps72 ag3 ?_;refine .af (.zn zg (.af (.z zm (.z zm (.z pc (.z zm (.ie (t':=10) rfl (fun pO=>?_) (fun pO=>?_))))))))
 ·exact .T (.z zm (.T (.z zm (.T (.z pc (.z zpT (.zn zg (.ret (Fin.bu results72 rfl ⟨by simp [*],hs.out⟩)))))))))
 ·exact .Fs 3 3 true (.z zpF (.zn zg (.ret (Fin.bu results72 rfl ⟨by simp [*],hs.out⟩))))
theorem mT{w:World}(hs:St H w σ):ab8 73 [I a0] w fun v w'=>v= .bool (decide (1≤a0∧a0≤20))∧St H w' σ:=by
 refine Cl.o func73 ntmps73 ag1 ?_;refine .af (.zn zg (.af (.z zm (.o (.call lY rfl (cN hs) ?_)))));rintro _ w ⟨rfl,hs⟩;exact .zn zg (.ret (Fin.bu results73 rfl ⟨rfl,hs⟩))
theorem qI{w:World}{x y:Int}(hs:St H w σ):ab8 161 [.agg #[I x,I y],I a1,I a2] w fun v w'=>v= .bool (decide (a1≤x∧x≤y∧y≤a2))∧St H w' σ:=by
 refine Cl.o func161 ntmps161 ag3 ?_;refine .af (.bx hs fun b3 w hs=>?_);refine .zn zg (.af (.z zm (.z (zfa bH) (.y hs (zld aj) (.z pc (.z zm (.ie (t':=11) rfl (fun oV=>?_) (fun oV=>?_))))))))
 ·refine .T (.z (zfa bH) (.T (.y hs (zld aj) (.T (.z (zfa cP) (.T (.y hs (zld aj) (.T (.z pc (.z zpT (.z zm (.ie (t':=18) rfl (fun G9=>?_) (fun G9=>?_)))))))))))))
  ·exact .T (.z (zfa cP) (.T (.y hs (zld aj) (.T (.z zm (.T (.z pc (.z zpT (.zn zg (.ret (Fin.bu results161 rfl ⟨by simp [*],hs.out⟩)))))))))))
  ·exact .Fs 4 11 true (.z zpF (.zn zg (.ret (Fin.bu results161 rfl ⟨by simp [*],hs.out⟩))))
 ·exact .Fs 5 4 true (.z zpF (.z zm (.Fs 4 11 true (.z zpF (.zn zg (.ret (Fin.bu results161 rfl ⟨by simp [*],hs.out⟩)))))))
theorem qJ{w:World}{x y:Int}(hs:St H w σ):ab8 109 [.agg #[I x,I y]] w fun v w'=>v= .bool (decide (kz x y))∧St H w' σ:=by
 refine Cl.o func109 ntmps109 ag1 ?_;refine .af (.bx hs fun b1 w hs=>?_);refine .zn zg (.af (.y hs (zls [_,_] cE aH) (.o (.call call161 rfl (qI hs) ?_))));rintro _ w ⟨rfl,hs⟩;exact .zn zg (.ret (Fin.bu results109 rfl ⟨rfl,hs.out⟩))
theorem pF{w:World}{x y:Int}(hs:St H w σ):ab8 118 [.agg #[I x,I y]] w fun v w'=>v= .bool (decide (gg x y))∧St H w' σ:=by
 refine Cl.o func118 ntmps118 ag1 ?_;refine .af (.bx hs fun b1 w hs=>?_);refine .zn zg (.af (.y hs (zls [_,_] cE aH) (.o (.call call161 rfl (qI hs) ?_))));rintro _ w ⟨rfl,hs⟩;exact .zn zg (.ret (Fin.bu results118 rfl ⟨rfl,hs.out⟩))
theorem rP{w:World}(hs:St H w σ):
  ab8 75 [.agg #[I x.zone,I x.fr,I x.to,I x.dlo,I x.dhi,I x.blo,I x.bhi]] w fun v w'=>∃b:Bool,v= .bool b∧(b=true↔yH x)∧St H w' σ:=by
 refine Cl.o func75 ntmps75 ag1 ?_;refine .af (.bx hs fun b1 w hs=>?_);refine .zn zg (.af (.z (zfa mH) (.y hs (zld aj) (.o (.call call73 rfl (mT hs) ?_)))));rintro _ w ⟨rfl,hs⟩;refine .z zm (.bif (t':=6) rfl (fun Gn=>?_) (fun Gn=>?_))
 ·refine .T (.z (zfa gR) (.T (.y hs (zld aj) (.T (.z (zfa gQ) (.T (.y hs (zld aj) (.T (.o (.call lY rfl (cN hs) ?_))))))))));rintro _ w ⟨rfl,hs⟩;refine .z zpT (.z zm (.bif (t':=13) rfl (fun xR=>?_) (fun xR=>?_)))
  ·refine .T (.z (zfa gQ) (.T (.y hs (zld aj) (.T (.o (.call lY rfl (cN hs) ?_))))));rintro _ w ⟨rfl,hs⟩;refine .z zpT (.z zm (.bif (t':=18) rfl (fun G9=>?_) (fun G9=>?_)))
   ·refine .T (.z (zfa fA) (.T (.y hs (zls [_,_] cE aH) (.T (.o (.call call118 rfl (pF hs) ?_))))));rintro _ w ⟨rfl,hs⟩;refine .z zpT (.z zm (.bif (t':=23) rfl (fun uz=>?_) (fun uz=>?_)))
    ·refine .T (.z (zfa iM) (.T (.y hs (zls [_,_] cE aH) (.T (.o (.call call109 rfl (qJ hs) ?_))))));rintro _ w ⟨rfl,hs⟩;refine .z zpT (.zn zg (.ret (Fin.bu results75 rfl ?_)));first
     |exact ⟨false,rfl,⟨fun h=>(by cases h),fun h=>(by obtain ⟨g1,g2,g3,g4,g5⟩:=h;first|omega|(simp_all;done)|(simp_all;omega))⟩,hs.out⟩
     |exact ⟨_,rfl,⟨fun h=>⟨by simp_all,by simp_all,by simp_all,by simp_all,by simpa using h⟩,fun h=>by simpa using h.burn⟩,hs.out⟩
    ·refine .Fs 3 20 true (.z zpF (.zn zg (.ret (Fin.bu results75 rfl ?_))));first
     |exact ⟨false,rfl,⟨fun h=>(by cases h),fun h=>(by obtain ⟨g1,g2,g3,g4,g5⟩:=h;first|omega|(simp_all;done)|(simp_all;omega))⟩,hs.out⟩
     |exact ⟨_,rfl,⟨fun h=>⟨by simp_all,by simp_all,by simp_all,by simp_all,by simpa using h⟩,fun h=>by simpa using h.burn⟩,hs.out⟩
   ·refine .Fs 3 15 true (.z zpF (.z zm (.Fs 3 20 true (.z zpF (.zn zg (.ret (Fin.bu results75 rfl ?_)))))));first
    |exact ⟨false,rfl,⟨fun h=>(by cases h),fun h=>(by obtain ⟨g1,g2,g3,g4,g5⟩:=h;first|omega|(simp_all;done)|(simp_all;omega))⟩,hs.out⟩
    |exact ⟨_,rfl,⟨fun h=>⟨by simp_all,by simp_all,by simp_all,by simp_all,by simpa using h⟩,fun h=>by simpa using h.burn⟩,hs.out⟩
  ·refine .Fs 3 10 true (.z zpF (.z zm (.Fs 3 15 true (.z zpF (.z zm (.Fs 3 20 true (.z zpF (.zn zg (.ret (Fin.bu results75 rfl ?_))))))))));first
   |exact ⟨false,rfl,⟨fun h=>(by cases h),fun h=>(by obtain ⟨g1,g2,g3,g4,g5⟩:=h;first|omega|(simp_all;done)|(simp_all;omega))⟩,hs.out⟩
   |exact ⟨_,rfl,⟨fun h=>⟨by simp_all,by simp_all,by simp_all,by simp_all,by simpa using h⟩,fun h=>by simpa using h.burn⟩,hs.out⟩
 ·refine .Fs 5 3 true (.z zpF (.z zm (.Fs 3 10 true (.z zpF (.z zm (.Fs 3 15 true (.z zpF (.z zm (.Fs 3 20 true (.z zpF (.zn zg (.ret (Fin.bu results75 rfl ?_)))))))))))));first
  |exact ⟨false,rfl,⟨fun h=>(by cases h),fun h=>(by obtain ⟨g1,g2,g3,g4,g5⟩:=h;first|omega|(simp_all;done)|(simp_all;omega))⟩,hs.out⟩
  |exact ⟨_,rfl,⟨fun h=>⟨by simp_all,by simp_all,by simp_all,by simp_all,by simpa using h⟩,fun h=>by simpa using h.burn⟩,hs.out⟩
set_option maxHeartbeats 1000000 in
theorem jb{w:World}(hs:St H w σ)(h1:RFb H vt l.table)(h2:RSn H vs l.seasons):
  ab8 19 [.agg #[I l.length,I l.depth,vt,vs]] w fun u w'=>∃e,u=I e∧ab7 l e∧St H w' σ:=by
 obtain ⟨at_,ct,rfl⟩:=h1.shape;obtain ⟨mq,cs,rfl⟩:=h2.shape;refine Cl.o func19 ntmps19 ag1 ?_;refine .af (.bx hs fun b1 w hs=>?_);refine .zn zg (.seq (.af (.z (zfa eY) (.y hs (zld aj) (.o (.call lY rfl (cN hs) ?_))))));rintro _ w ⟨rfl,hs⟩;refine .z fE (.z zm (.bif (t':=11) rfl (fun oV=>?_) (fun oV=>?_)))
 ·exact .Fs 4 4 false (.z zpT (.z zm (.Fs 5 10 false (.z zpT (.z zm (.Fs 4 17 false (.zn zpT (.cT (.af (.zn zg (.ret (rT (Fin.bu mN rfl ⟨_,rfl,.inr ⟨fun h=>by have:=h.length;simp_all,rfl⟩,hs.out⟩)))))))))))))
 ·refine .T (.z (zfa jN) (.T (.y hs (zld aj) (.T (.o (.call lY rfl (cN hs) ?_))))));rintro _ w ⟨rfl,hs⟩;refine .T (.z fE (.z zpF (.z zm (.bif (t':=17) rfl (fun DP=>?_) (fun DP=>?_)))))
  ·exact .Fs 5 10 false (.z zpT (.z zm (.Fs 4 17 false (.zn zpT (.cT (.af (.zn zg (.ret (rT (Fin.bu mN rfl ⟨_,rfl,.inr ⟨fun h=>by have:=h.depth;simp_all,rfl⟩,hs.out⟩))))))))))
  ·refine .T (.z (zfa de) (.T (.y hs (zld kx) (.T (.z (dk bB) (.T (.o (.call lY rfl (cN hs) ?_))))))));rintro _ w ⟨rfl,hs⟩;refine .T (.z fE (.z zpF (.z zm (.bif (t':=24) rfl (fun pN=>?_) (fun pN=>?_)))))
   ·exact .Fs 4 17 false (.zn zpT (.cT (.af (.zn zg (.ret (rT (Fin.bu mN rfl ⟨_,rfl,.inr ⟨fun h=>by have:=h.many;simp_all;omega,rfl⟩,hs.out⟩)))))))
   ·refine .T (.z (zfa du) (.T (.y hs (zld k8) (.T (.z (dk cf) (.T (.z ld (.zn zpF (.bA rfl (fun nR=>?_) (fun nR=>?_))))))))))
    ·exact .af (.zn zg (.ret (rT (Fin.bu mN rfl ⟨_,rfl,.inr ⟨fun h=>by have:=h.most;simp_all;omega,rfl⟩,hs.out⟩))))
    ·refine .skip (nT (.seq (.af ?_)));have LR:1≤l.table.length∧l.table.length≤20:=by first|omega|(simp at pN;omega)
     refine .z (zfa de) (.y hs (zld kx) (.z (dk bB) (.zn zm (.for (N:=l.table.length) (J:=fun k fr w=>fr=[(31,.slice at_ l.table.length ct),(1,Pt b1)]∧(∀j<k,Pv l.table j)∧St H w (.blk b1 [I l.length,I l.depth,.slice at_ l.table.length ct,.slice mq l.seasons.length cs]::σ)) ai ?_ ?_ ?_))))
     ·exact .mk ⟨rfl,fun j hj=>by omega,hs⟩
     ·rintro k fr w hk ⟨rfl,fa,hs⟩;have hx:=oX (l:=l.table) hk;have za:=oX (l:=l.table) (i:=k - 1) ai;refine .block (.af (.z zm (.ixX (enc:=Fbd.c) hs h1 rfl rfl bB db hx dp ?_)));intro WS o36 lK;refine .q hs (cj (vs:=(Fbd.c (fb0 l.table k))) rfl isAgg134 db lK) (.o (.alloc hs np rfl fun b4 w hs=>?_));refine .z zg (.o (.aJ (vs:=(fb0 l.table k).c) hs rfl rfl db fun w hs=>?_));change St _ _ (.blk b4 [I (fb0 l.table k).len,I (fb0 l.table k).least]::_) at hs;refine .nil (.seq (.draw mix rfl hs fun w hs=>?_));refine .zw 0 rfl (zfa bZ) ?_;refine .y 1 rfl hs aj ?_;refine .E 2 hs ?_;refine .call lY rfl (cN hs) ?_;rintro _ w ⟨rfl,hs⟩;refine .go (.zw 3 rfl fE ?_);refine .z 4 rfl zm ?_;refine .bif (t':=42) rfl (fun Mp=>?_) (fun Mp=>?_)
      ·refine .F 5 rfl (.F 6 rfl (.F 7 rfl (.F 8 rfl (.zw 9 rfl zpT ?_))));refine .z 10 rfl zm ?_;refine .F 11 rfl (.F 12 rfl ?_);refine .F 13 rfl (.F 14 rfl (.F 15 rfl (.F 16 rfl (.F 17 rfl (.F 18 rfl (.F 19 rfl (.F 20 rfl (.F 21 rfl (.F 22 rfl (.F 23 rfl (.F 24 rfl (.zw 25 rfl zpT ?_))))))))))));refine .D hs ?_;exact (.cT (.af (.zn zg (.ret (rB (rT (rB (rT (Fin.bu mN rfl ⟨_,rfl,.inr ⟨fun h=>by have:=(h.table k hk).len;simp_all,rfl⟩,hs.out⟩)))))))))
      ·refine .zw 5 rfl (zfa dW) ?_;refine .y 6 rfl hs aj ?_;refine .E 7 hs ?_;refine .call lY rfl (cN hs) ?_;rintro _ w ⟨rfl,hs⟩;refine .go (.zw 8 rfl fE ?_);refine .z 9 rfl zpF ?_;refine .z 10 rfl zm ?_;refine .bif (t':=48) rfl (fun Mo=>?_) (fun Mo=>?_)
       ·refine .F 11 rfl (.F 12 rfl ?_);refine .F 13 rfl (.F 14 rfl (.F 15 rfl (.F 16 rfl (.F 17 rfl (.F 18 rfl (.F 19 rfl (.F 20 rfl (.F 21 rfl (.F 22 rfl (.F 23 rfl (.F 24 rfl (.zw 25 rfl zpT ?_))))))))))));refine .D hs ?_;exact (.cT (.af (.zn zg (.ret (rB (rT (rB (rT (Fin.bu mN rfl ⟨_,rfl,.inr ⟨fun h=>by have:=(h.table k hk).least;simp_all,rfl⟩,hs.out⟩)))))))))
       ·refine .zw 11 rfl zm ?_;refine .z 12 rfl ld ?_;refine .z 13 rfl zm ?_;refine .ie (t':=51) rfl (fun Mn=>?_) (fun Mn=>?_)
        ·refine .zw 14 rfl (zfa de) ?_;refine .y 15 rfl hs kx ?_;refine .z 16 rfl zm ?_;refine .z 17 rfl gE ?_;refine .ixX (enc:=Fbd.c) (i:=18) hs rfl aD (.some rfl rfl) h1 rfl rfl bB db za ai ?_;intro ab3 o56 RO;refine .zw 19 rfl (zfa bZ) (.r (i:=20) hs rfl aD (.some rfl rfl) (aF rfl aj (RO.get 0 rfl)) ?_);refine .zw 21 rfl (zfa bZ) ?_;refine .y 22 rfl hs aj ?_;refine .z 23 rfl tN ?_;refine .z 24 rfl zpT ?_;refine .z 25 rfl zpF ?_;refine .D hs ?_;refine (.bA rfl (fun oq=>?_) (fun oq=>?_))
         ·exact .af (.zn zg (.ret (rB (rT (rB (rT (Fin.bu mN rfl ⟨_,rfl,.inr ⟨fun h=>by have:=(h.table k hk).rise ai;omega,rfl⟩,hs.out⟩)))))))
         ·refine .skip (nB (nT ?_));first
          |exact .mk ⟨rfl,fun j hj=>by
            by_cases e:j=k
            ·subst e;exact ⟨by simp_all,by simp_all,fun _=>by omega⟩
            ·exact fa j ai,hs.tail⟩
        ·refine .F 14 rfl (.F 15 rfl (.F 16 rfl (.F 17 rfl (.F 18 rfl (.F 19 rfl (.F 20 rfl (.F 21 rfl (.F 22 rfl (.F 23 rfl (.zw 24 rfl zpF ?_))))))))));refine .z 25 rfl zpF ?_;refine .D hs ?_;refine (.cF (.skip (nB (nT ?_))));first
         |exact .mk ⟨rfl,fun j hj=>by
           by_cases e:j=k
           ·subst e;exact ⟨by simp_all,by simp_all,fun _=>by omega⟩
           ·exact fa j ai,hs.tail⟩
     ·rintro fr w ⟨rfl,SU,hs⟩;refine nT (.seq (.af (.z (zfa du) (.y hs (zld k8) (.z (dk cf) (.zn zm (.for (N:=l.seasons.length) (J:=fun k fr w=>fr=[(66,.slice mq l.seasons.length cs),(1,Pt b1)]∧(∀j<k,∀y,l.seasons[j]? =some y→HA y)∧St H w (.blk b1 [I l.length,I l.depth,.slice at_ l.table.length ct,.slice mq l.seasons.length cs]::σ)) ai ?_ ?_ ?_)))))))
      ·exact .mk ⟨rfl,fun j hj=>by omega,hs⟩
      ·rintro k fr w hk ⟨rfl,fa,hs⟩;obtain ⟨s,hx⟩:=nth hk;refine .block (.af (.ixX (enc:=Ssn.c) hs h2 rfl rfl cf eE hx dp ?_));intro b70 o70 OO;refine .q hs (cj (vs:=(Ssn.c s)) rfl isAgg104 eE OO) (.o (.alloc hs Gc rfl fun b6 w hs=>?_));refine .o (.aJ (vs:=s.c) hs rfl rfl eE fun w hs=>?_);change St _ _ (.blk b6 [I s.zone,I s.fr,I s.to,I s.extra]::_) at hs;refine .nil (.af (.z (zfa kb) (.y hs (zld aj) (.o (.call call73 rfl (mT hs) ?_)))));rintro _ w ⟨rfl,hs⟩;refine .z fE (.z zm (.bif (t':=76) rfl (fun RX=>?_) (fun RX=>?_)))
       ·exact .Fs 4 4 false (.z zpT (.z zm (.Fs 4 10 false (.z zpT (.z zm (.Fs 4 16 false (.zn zpT (.cT (.af (.zn zg (.ret (rB (rT (rB (rT (Fin.bu mN rfl ⟨_,rfl,.inr ⟨fun h=>by have:=(h.seasons s (List.mem_of_getElem? hx)).zone;simp_all,rfl⟩,hs.out⟩))))))))))))))))
       ·refine .T (.z (zfa fm) (.T (.y hs (zld aj) (.T (.o (.call lY rfl (cN hs) ?_))))));rintro _ w ⟨rfl,hs⟩;refine .T (.z fE (.z zpF (.z zm (.bif (t':=82) rfl (fun OS=>?_) (fun OS=>?_)))))
        ·exact .Fs 4 10 false (.z zpT (.z zm (.Fs 4 16 false (.zn zpT (.cT (.af (.zn zg (.ret (rB (rT (rB (rT (Fin.bu mN rfl ⟨_,rfl,.inr ⟨fun h=>by have:=(h.seasons s (List.mem_of_getElem? hx)).fr;simp_all,rfl⟩,hs.out⟩)))))))))))))
        ·refine .T (.z (zfa fl) (.T (.y hs (zld aj) (.T (.o (.call lY rfl (cN hs) ?_))))));rintro _ w ⟨rfl,hs⟩;refine .T (.z fE (.z zpF (.z zm (.bif (t':=88) rfl (fun YQ=>?_) (fun YQ=>?_)))))
         ·exact .Fs 4 16 false (.zn zpT (.cT (.af (.zn zg (.ret (rB (rT (rB (rT (Fin.bu mN rfl ⟨_,rfl,.inr ⟨fun h=>by have:=(h.seasons s (List.mem_of_getElem? hx)).to;simp_all,rfl⟩,hs.out⟩))))))))))
         ·refine .T (.z (zfa ka) (.T (.y hs (zld aj) (.T (.o (.call lY rfl (cN hs) ?_))))));rintro _ w ⟨rfl,hs⟩;refine .T (.z fE (.zn zpF (.cond rfl (fun G3=>?_) (fun G3=>?_))))
          ·exact .af (.zn zg (.ret (rB (rT (rB (rT (Fin.bu mN rfl ⟨_,rfl,.inr ⟨fun h=>by have:=(h.seasons s (List.mem_of_getElem? hx)).extra;simp_all,rfl⟩,hs.out⟩)))))))
          ·exact .skip (nB (nT (.mk ⟨rfl,fW fa hx ⟨by simp_all,by simp_all,by simp_all,by simp_all⟩,hs.tail⟩)))
      ·rintro fr w ⟨rfl,fa,hs⟩;refine nT (.af (.zn zg (.ret (Fin.bu mN rfl ?_))));exact ⟨_,rfl,.inl ⟨⟨by simp_all,by simp_all,LR,ai,SU,fun s hs=>by
        obtain ⟨j,hj⟩:=List.getElem?_of_mem hs;exact fa j (List.getElem?_eq_some_iff.1 hj).1 s hj⟩,rfl⟩,hs.out⟩
theorem tf{w:World}{r:List Lg}(hs:St H w σ)(h1:RLg H vr r):
  ab8 21 [.agg #[vr]] w fun u w'=>∃e,u=I e∧RteR r e∧St H w' σ:=by
 obtain ⟨ar,cr,rfl⟩:=h1.shape;refine Cl.o func21 ntmps21 ag1 ?_;refine .af (.bx hs fun b1 w hs=>?_);refine .zn zg (.seq (.af (.z (zfa cH) (.y hs (zld gC) (.z (dk aV) (.o (.call lY rfl (cN hs) ?_)))))));rintro _ w ⟨rfl,hs⟩;refine .zn fE (.cond rfl (fun om=>?_) (fun om=>?_))
 ·exact .af (.zn zg (.ret (rT (Fin.bu results21 rfl ⟨_,rfl,.inr ⟨fun h=>by have:=h.many;simp_all;omega,rfl⟩,hs.out⟩))))
 ·refine .skip (nT (.seq (.af ?_)));have LR:1≤r.length∧r.length≤12:=by first|omega|(simp at om;omega)
  refine .z (zfa cH) (.y hs (zld gC) (.z (dk aV) (.zn zm (.for (N:=r.length) (J:=fun k fr w=>fr=[(11,.slice ar r.length cr),(1,Pt b1)]∧(∀j<k,yH (lg0 r j)∧(0<j→(lg0 r (j - 1)).to≤(lg0 r j).fr))∧St H w (.blk b1 [.slice ar r.length cr]::σ)) ai ?_ ?_ ?_))))
  ·exact .mk ⟨rfl,fun j hj=>by omega,hs⟩
  ·rintro k fr w hk ⟨rfl,fa,hs⟩;have hx:=qe (l:=r) hk;have za:=qe (l:=r) (i:=k - 1) ai;refine .block (.af (.z zm (.ixX (enc:=Lg.c) hs h1 rfl rfl aV bg hx dp ?_)));intro nD o16 dY;refine .q hs (cj (vs:=(Lg.c (lg0 r k))) rfl ep bg dY) (.o (.alloc hs fg rfl fun b4 w hs=>?_));refine .z zg (.o (.aJ (vs:=(lg0 r k).c) hs rfl rfl bg fun w hs=>?_));change St _ _ (.blk b4 [I (lg0 r k).zone,I (lg0 r k).fr,I (lg0 r k).to,I (lg0 r k).dlo,I (lg0 r k).dhi,I (lg0 r k).blo,I (lg0 r k).bhi]::_) at hs;refine .nil (.seq (.draw mix rfl hs fun w hs=>?_));refine .zv 0 rfl hs (E4 [_,_,_,_,_,_,_] ep bg) (.E 1 hs ?_);refine .call call75 rfl (rP (x:=lg0 r k) hs) ?_;rintro _ w ⟨pX,rfl,DN,hs⟩;refine .go (.zw 2 rfl fE ?_);refine .z 3 rfl zm ?_;refine .bif (t':=21) rfl (fun xQ=>?_) (fun xQ=>?_)
   ·refine .F 4 rfl (.F 5 rfl ?_);refine .F 6 rfl (.F 7 rfl (.F 8 rfl (.F 9 rfl (.F 10 rfl (.F 11 rfl (.F 12 rfl (.F 13 rfl (.F 14 rfl (.F 15 rfl (.F 16 rfl (.F 17 rfl (.zw 18 rfl zpT ?_))))))))))));refine .D hs ?_;exact (.cT (.af (.zn zg (.ret (rB (rT (rB (rT (Fin.bu results21 rfl ⟨_,rfl,.inr ⟨fun h=>by have:=DN.2 (h.leg k hk).1;simp_all,rfl⟩,hs.out⟩)))))))))
   ·refine .zw 4 rfl zm ?_;refine .z 5 rfl ld ?_;refine .z 6 rfl zm ?_;refine .ie (t':=24) rfl (fun pN=>?_) (fun pN=>?_)
    ·refine .zw 7 rfl (zfa gR) ?_;refine .y 8 rfl hs aj ?_;refine .z 9 rfl (zfa cH) ?_;refine .y 10 rfl hs gC ?_;refine .z 11 rfl zm ?_;refine .z 12 rfl gE ?_;refine .ixX (enc:=Lg.c) (i:=13) hs rfl aD (.some rfl rfl) h1 rfl rfl aV bg za ai ?_;intro Pp o31 oU;refine .zw 14 rfl (zfa gQ) (.r (i:=15) hs rfl aD (.some rfl rfl) (aF rfl aj (oU.get 2 rfl)) ?_);refine .zw 16 rfl gV ?_;refine .z 17 rfl zpT ?_;refine .z 18 rfl zpF ?_;refine .D hs ?_;refine (.bA rfl (fun lK=>?_) (fun lK=>?_))
     ·exact .af (.zn zg (.ret (rB (rT (rB (rT (Fin.bu results21 rfl ⟨_,rfl,.inr ⟨fun h=>by have:=(h.leg k hk).2 ai;omega,rfl⟩,hs.out⟩)))))))
     ·refine .skip (nB (nT ?_));first
      |exact .mk ⟨rfl,fun j hj=>by
        by_cases e:j=k
        ·subst e;exact ⟨DN.1 (by simp_all),fun _=>by omega⟩
        ·exact fa j ai,hs.tail⟩
    ·refine .F 7 rfl (.F 8 rfl (.F 9 rfl (.F 10 rfl (.F 11 rfl (.F 12 rfl (.F 13 rfl (.F 14 rfl (.F 15 rfl (.F 16 rfl (.zw 17 rfl zpF ?_))))))))));refine .z 18 rfl zpF ?_;refine .D hs ?_;refine (.cF (.skip (nB (nT ?_))));first
     |exact .mk ⟨rfl,fun j hj=>by
       by_cases e:j=k
       ·subst e;exact ⟨DN.1 (by simp_all),fun _=>by omega⟩
       ·exact fa j ai,hs.tail⟩
  ·rintro fr w ⟨rfl,fa,hs⟩;exact nT (.af (.zn zg (.ret (Fin.bu results21 rfl ⟨_,rfl,.inl ⟨⟨LR,fa⟩,rfl⟩,hs.out⟩))))
theorem TO{P:Program}{s:FS}{t kG:TypeId}{x y:Operand}{p:Int}(hx:FS.ev s x=some (.int .u64 p))(hy:FS.ev s y=some (.int .u64 1)):QJ P H σ s (.binOp .shr t x y kG) (.int .u64 (p/2)):=by
 have h1:=GG (P:=P) (H:=H) (σ:=σ) (t:=t) (kG:=kG) hx hy ai;have h2:p.fdiv (2 ^min (1:Int).toNat IntKind.u64.bits)=p/2:=by
  have:(2:Int) ^min (1:Int).toNat IntKind.u64.bits=2:=by decide
  rw [this,Int.fdiv_eq_ediv_of_nonneg _ ai]
 rw [h2] at h1;exact h1
theorem qt{w:World}{n:Nat}{p:Nat→Prop}(hs:St H w σ)(hn:n≤1000000)(hc:∀args w,(callFunc g args).run Tryz.prog w= .ok (.enter g args) w)
  (hp:∀w i,i<n→St H w σ→ab8 g ([I (i:Int)]++cap) w fun u w'=>∃b,u= .bool b∧(b=true↔p i)∧St H w' σ):
  ab8 157 [I (n:Int),.func (.func g) #[] cap.toArray] w fun u w'=>∃k:Nat,u=I (k:Int)∧k≤n∧(0<k→¬p (k - 1))∧(k<n→p k)∧St H w' σ:=by
 refine Cl.o func157 ntmps157 ag2 ?_;refine .af (.zn zg (.af (.z zm (.z zg (.zn zg (.seq (.block ?_)))))));refine .loop (fun q:Nat×Nat=>⟨26,[],[(6,I (q.2:Int)),(5,I (q.1:Int)),(1,.func (.func g) #[] cap.toArray)]⟩)
  (fun q w=>(q.1≤q.2∧q.2≤n)∧(0<q.1→¬p (q.1 - 1))∧(q.2<n→p q.2)∧St H w σ) (fun q=>q.2 - q.1) (0,n) aM
  ⟨⟨Nat.zero_le _,Nat.le_refl _⟩,fun h=>by omega,fun h=>by omega,hs⟩ ?_
 rintro ⟨i,j⟩ w ⟨⟨Kn,Uw⟩,xH,P4,hs⟩;dsimp only at Kn Uw xH P4 ⊢;refine .seq (.af (.z zm (.z zm (.zn gV (.bA rfl (fun pM=>?_) (fun pM=>?_))))))
 ·refine .skip (nT (.block (.af (.z zm (.z zm (.z cV (.q hs (Dt rfl cJ fV ⟨ai,ai⟩) (.q hs (TO rfl rfl) ?_))))))));rw [show ((i:Int)+(j:Int))/2=(((i+j)/2:Nat):Int) by omega];refine .q hs (Du rfl fV cJ ⟨ai,ai⟩) (.zn zg (.af (.z zm (.z zm (.o (.sw (first:=[]) rfl rfl hc (hp _ ((i+j)/2) ai hs) ?_))))));rintro _ w ⟨BE,rfl,FD,hs⟩;refine .zn fE (.cond rfl (fun jx=>?_) (fun jx=>?_))
  ·exact .region (.z zm (.z cV (.zn zg (nB (nT ⟨((i+j)/2+1,j),.da rfl bK aM,⟨⟨by dsimp only;omega,Uw⟩,fun _ h=>(by rw [FD.2 (by simpa using h)] at jx;cases jx),P4,hs⟩,by dsimp only;omega⟩)))))
  ·exact .region (.z zm (.zn zg (nB (nT ⟨(i,(i+j)/2),.da rfl bK aM,⟨⟨by dsimp only;omega,by dsimp only;omega⟩,xH,fun _=>FD.1 (by simpa using jx),hs⟩,by dsimp only;omega⟩))))
 ·refine .exit (xT (xT (xB (nT (.af (.z zm (.zn zg (.ret (Fin.bu results157 rfl ?_)))))))));obtain rfl:i=j:=by omega
  exact ⟨i,rfl,Uw,xH,P4,hs⟩
theorem rQ{w:World}(hs:St H w (.blk b [I l.length,I l.depth,vt,vs]::σ))(h1:RFb H vt l.table)(hi:i<l.table.length):
  ab8 158 [I (i:Int),Pt b] w fun u w'=>∃bb:Bool,u= .bool bb∧(bb=true↔l.length≤(fb0 l.table i).len)∧St H w' (.blk b [I l.length,I l.depth,vt,vs]::σ):=by
 obtain ⟨at_,ct,rfl⟩:=h1.shape;refine Cl.o func158 ntmps158 ag2 ?_;refine .af (.zn zg (.seq (.draw mix rfl hs fun w hs=>?_)));refine .zw 0 rfl (zfa de) ?_;refine .y 1 rfl hs kx ?_;refine .z 2 rfl zm ?_;refine .ixX (enc:=Fbd.c) (i:=3) hs rfl aD .none h1 rfl rfl bB db (oX hi) dp ?_;intro b7 o7 P8;refine .zw 4 rfl (zfa bZ) (.r (i:=5) hs rfl aD .none (aF rfl aj (P8.get 0 rfl)) ?_);refine .zw 6 rfl (zfa eY) ?_;refine .y 7 rfl hs aj ?_;refine .z 8 rfl tN ?_;refine .z 9 rfl zg ?_;refine .D hs ?_;exact .ret (Fin.bu results158 rfl ⟨_,rfl,bK,hs⟩)
theorem oR{w:World}(hs:St H w σ)(hd:1≤d)(ha: -4608000000000000000≤a∧a≤4608000000000000000):
  ab8 140 [I a,I d] w fun v w'=>v=I (a/d)∧St H w' σ:=by
 have hq:=W3 hd ha;have B0:=sV (n:=a) (d:=d) ai;refine Cl.o func140 ntmps140 ag2 ?_;refine .af (.zn zg (.af (.z zm (.z zm (.q hs (yu rfl rfl ai ⟨ai,ai⟩) (.zn zg (.seq (.af (.z zm (.z zm (.z Gt (.zn gV (.bA rfl (fun fk=>?_) (fun fk=>?_))))))))))))))
 ·refine .region (.z zm (.z gE (.zn zg (nT (.af (.z zm (.zn zg (.ret (Fin.bu results140 rfl ?_)))))))));rw [if_pos fk] at B0;exact ⟨by rw [B0],hs⟩
 ·refine .skip (nT (.af (.z zm (.zn zg (.ret (Fin.bu results140 rfl ?_))))));rw [if_neg fk,Int.sub_zero] at B0;exact ⟨by rw [B0],hs⟩
theorem kW{w:World}(hs:St H w σ)(h1:RFb H vt l.table)(hl:gL l):
  ab8 102 [.agg #[I l.length,I l.depth,vt,vs]] w fun u w'=>∃n b,u= .tuple #[I n,.bool b]∧z8 l n b∧St H w' σ:=by
 obtain ⟨at_,ct,rfl⟩:=h1.shape;have hm:=hl.many;have hr:=fun {j i:Nat}=>DU hl.table (j:=j) (i:=i)
 refine Cl.o func102 ntmps102 ag1 ?_;refine .af (.bx hs fun b1 w hs=>?_);refine .z zg (.zn zg (.af (.z (zfa de) (.y hs (zld kx) (.z (dk bB) (.q hs (dZ (f:=[]) (c:=[_]) rfl rfl) (.o (.call call157 rfl (qt (cap:=[Pt b1]) (p:=fun i=>l.length≤(fb0 l.table i).len) hs ai call158 (fun w i hi hs=>rQ hs h1 hi)) ?_))))))));rintro _ w ⟨k,rfl,hk,xH,P4,hs⟩;have Mj:∀i<l.table.length,k≤i→l.length≤(fb0 l.table i).len:=fun i hi aa4=>by
  by_cases e:i=k
  ·subst e;exact P4 hi
  ·have:=hr (show k<i by omega) hi;have:=P4 ai;omega
 have Ri:∀i<k,(fb0 l.table i).len<l.length:=fun i hi=>by
  by_cases e:i=k - 1
  ·subst e;have:=xH ai;omega
  ·have:=hr (show i<k - 1 by omega) ai;have:=xH ai;omega
 refine .zn zg (.seq (.block (.af (.z zm (.z (zfa de) (.y hs (zld kx) (.z (dk bB) (.z fJ (.zn zg (.bA rfl (fun fk=>?_) (fun fk=>?_)))))))))))
 ·exact .af (.z zg (.zn zg (.ret (rB (rT (Fin.iz results102 rfl rfl ⟨_,_,rfl,.none (fun i hi h=>by have:=Ri i ai;omega) (fun i hi h0 h=>by have:=Ri i ai;omega),hs.out⟩))))))
 ·refine .seq (.draw mix rfl hs fun w hs=>?_);refine .zw 0 rfl (zfa de) ?_;refine .y 1 rfl hs kx ?_;refine .z 2 rfl zm ?_;have tE:k<l.table.length:=by omega
  have hx:=oX tE;have za:=oX (l:=l.table) (i:=k - 1) ai;refine .ixX (enc:=Fbd.c) (i:=3) hs rfl aD .none h1 rfl rfl bB db hx rfl ?_;intro VL o22 jV;refine .zw 4 rfl (zfa bZ) (.r (i:=5) hs rfl aD .none (aF rfl aj (jV.get 0 rfl)) ?_);refine .zw 6 rfl (zfa eY) ?_;refine .y 7 rfl hs aj ?_;refine .z 8 rfl fJ ?_;refine .z 9 rfl zg ?_;refine .D hs ?_;refine (.bA rfl (fun im=>?_) (fun im=>?_))
  ·refine .af (.z (zfa de) (.y hs (zld kx) (.z zm (.ixX (enc:=Fbd.c) hs h1 rfl rfl bB db hx rfl ?_))));intro Pp o31 oU;exact .z (zfa dW) (.q hs (aF rfl aj (oU.get 1 rfl)) (.z zg (.zn zg (.ret (rB (rT (Fin.iz results102 rfl rfl ⟨_,_,rfl,.at_ tE im,hs.out⟩)))))))
  ·refine .af (.z zm (.z fJ (.zn zg (.bA rfl (fun kJ=>?_) (fun kJ=>?_)))))
   ·refine .af (.z zg (.zn zg (.ret (rB (rT (Fin.iz results102 rfl rfl ?_))))));obtain rfl:k=0:=by omega
    exact ⟨_,_,rfl,.none (fun i hi h=>by
     by_cases e:i=0
     ·subst e;exact im h
     ·have:=hr (show 0<i by omega) hi;have:=Mj 0 tE ai;omega) (fun i hi h0 h=>by have:=Mj (i - 1) ai ai;omega),hs.out⟩
   ·refine .skip (nB (nT (.cut (fun fs w=>∃b5 b6,lr fs ⟨69,[],[(6,Pt b6),(5,Pt b5),(1,Pt b1)]⟩∧St H w (.blk b6 (fb0 l.table k).c:: .blk b5 (fb0 l.table (k - 1)).c:: .blk b1 [I l.length,I l.depth,.slice at_ l.table.length ct,vs]::σ)) ?_ ?_)))
    ·refine .draw mix rfl hs fun w hs=>?_
     refine .zw 0 rfl (zfa de) ?_;refine .y 1 rfl hs kx ?_;refine .z 2 rfl zm ?_;refine .z 3 rfl gE ?_;refine .ixX (enc:=Fbd.c) (i:=4) hs rfl aD .none h1 rfl rfl bB db za ai ?_;intro VI o41 wb;refine .r (i:=5) hs rfl aD .none (cj (vs:=(fb0 l.table (k - 1)).c) rfl isAgg134 db wb) ?_;refine .zw 6 rfl (zfa de) ?_;refine .y 7 rfl hs kx ?_;refine .z 8 rfl zm ?_;refine .ixX (enc:=Fbd.c) (i:=9) hs rfl aD .none h1 rfl rfl bB db hx rfl ?_;intro WQ o46 G6;refine .r (i:=10) hs rfl aD .none (cj (vs:=(fb0 l.table k).c) rfl isAgg134 db G6) ?_;refine .e2 (i:=11) (j:=12) aD rfl rfl rfl rfl .none .none hs ?_ ?_
     ·refine .alloc hs np rfl ?_;intro b5 w hs;refine .go (.E 12 hs ?_);refine .alloc hs np rfl ?_;intro b6 w hs;refine .go (.E 13 hs ?_);refine .aJ (vs:=(fb0 l.table (k - 1)).c) hs rfl rfl db ?_;intro w hs;refine .go (.E 14 hs ?_);refine .aJ (vs:=(fb0 l.table k).c) hs rfl rfl db ?_;intro w hs;exact .go (.D hs (nT ⟨b5,b6,aM,hs.sb⟩))
     ·refine .alloc hs np rfl ?_;intro b6 w hs;refine .go (.E 11 hs ?_);refine .alloc hs np rfl ?_;intro b5 w hs;refine .go (.E 13 hs ?_);refine .aJ (vs:=(fb0 l.table (k - 1)).c) hs rfl rfl db ?_;intro w hs;refine .go (.E 14 hs ?_);refine .aJ (vs:=(fb0 l.table k).c) hs rfl rfl db ?_;intro w hs;exact .go (.D hs (nT ⟨b5,b6,aM,hs.sb⟩))
    ·rintro fs w ⟨b5,b6,gP,hs⟩;refine WE.sub ?_ gP;clear gP;change St _ _ (.blk b6 [I (fb0 l.table k).len,I (fb0 l.table k).least]:: .blk b5 [I (fb0 l.table (k - 1)).len,I (fb0 l.table (k - 1)).least]::_) at hs;have h3:=Ri (k - 1) ai;have h4:l.length<(fb0 l.table k).len:=by have:=Mj k tE (Nat.le_refl _);omega
     have hX:=ME hl tE h3 h4;have a1:=hl.table (k - 1) ai;have a2:=a1.len;have a3:=a1.least;have b2:=(hl.table k tE).len;have b3:=(hl.table k tE).least;have hL:=hl.length;refine .seq (.draw mix rfl hs fun w hs=>?_);refine .zw 0 rfl (zfa dW) ?_;refine .y 1 rfl hs aj ?_;refine .z 2 rfl (zfa dW) ?_;refine .y 3 rfl hs aj ?_;refine .z 4 rfl gE ?_;refine .z 5 rfl (zfa eY) ?_;refine .y 6 rfl hs aj ?_;refine .z 7 rfl (zfa bZ) ?_;refine .y 8 rfl hs aj ?_;refine .z 9 rfl gE ?_;refine .zw 10 rfl la ?_;refine .z 11 rfl (zfa bZ) ?_;refine .y 12 rfl hs aj ?_;refine .z 13 rfl (zfa bZ) ?_;refine .y 14 rfl hs aj ?_;refine .z 15 rfl gE ?_;refine .z 18 rfl (zfa dW) ?_;refine .y 19 rfl hs aj ?_;refine .E 16 hs ?_;refine .call call140 rfl (oR hs ai ai) ?_;rintro _ w ⟨rfl,hs⟩;refine .go (.zw 17 rfl BM ?_);refine .z 20 rfl cV ?_;refine .z 21 rfl zg ?_;refine .z 22 rfl zg ?_;refine .D hs ?_;refine .ret (Fin.iz results102 rfl rfl ?_);have LN:=z8.mid tE ai h3 h4;unfold FJ at LN;exact ⟨_,_,rfl,(by rw [show ∀a b:Int,-a+b=b - a from fun a b=>by omega];exact LN),hs.out⟩
theorem uh{w:World}(hs:St H w σ)(h1:RFb H vt l.table)(h2:RSn H vs l.seasons):
  ab8 37 [.agg #[I l.length,I l.depth,vt,vs]] w fun u w'=>∃n e,u= .tuple #[I n,I e]∧Ed l n e∧St H w' σ:=by
 refine Cl.o func37 ntmps37 ag1 ?_;refine .af (.bx hs fun b1 w hs=>?_);refine .z zg (.zn zg (.seq (.af (.y hs (zls [_,_,_,_] ck bw) (.o (.call call19 rfl (jb hs h1 h2) ?_))))));rintro _ w ⟨e,rfl,he,hs⟩;refine .zn zg (.af (.z zm (.zn fU (.dK rfl (fun mB=>?_) (fun mB=>?_)))))
 ·refine .af (.z zm (.z zg (.zn zg (.ret (rT (Fin.iz results37 rfl rfl ?_))))));have h:=he.resolve_left fun h=>mB h.2
  exact ⟨_,_,rfl,by rw [h.2];exact .lines h.1,hs.out⟩
 ·refine .skip (nT (.af (.y hs (zls [_,_,_,_] ck bw) ?_)));have aU:gL l:=(he.resolve_right fun h=>by omega).1;refine .o (.call call102 rfl (kW hs h1 aU) ?_);rintro _ w ⟨n,b,rfl,hF,hs⟩;refine .z zm (.z zex (.z zex (.z zg (.zn zg (.seq (.af (.z zm (.zn fE (.cond rfl (fun im=>?_) (fun im=>?_))))))))))
  ·refine .af (.z zg (.zn zg (.ret (rT (Fin.iz results37 rfl rfl ?_)))));obtain rfl:b=false:=by simpa using im
   exact ⟨_,_,rfl,.none aU hF,hs.out⟩
  ·refine .skip (nT (.af (.z zm (.z zg (.zn zg (.ret (Fin.iz results37 rfl rfl ?_)))))));obtain rfl:b=true:=by simpa using im
   exact ⟨_,_,rfl,.ok aU hF,hs.out⟩
theorem rU{w:World}(hs:St H w σ)(h:0≤d):ab8 106 [I d] w fun v w'=>v=I (1+d%365)∧St H w' σ:=by
 have e:d.tmod 365=d%365:=Int.tmod_eq_emod_of_nonneg h;refine Cl.o func106 ntmps106 ag1 ?_;refine .af (.zn zg (.af (.z zm (.z Gt ?_))));rw [e];exact .z cV (.zn zg (.ret (Fin.bu results106 rfl ⟨rfl,hs⟩)))
theorem BT{w:World}{s:Ssn}(hs:St H w σ):ab8 159 [.agg #[I s.zone,I s.fr,I s.to,I s.extra],I d] w fun v w'=>v= .bool (decide (zy s d))∧St H w' σ:=by
 refine Cl.o func159 ntmps159 ag2 ?_;refine .af (.bx hs fun b2 w hs=>?_);refine .zn zg (.seq (.af (.z (zfa fm) (.y hs (zld aj) (.z (zfa fl) (.y hs (zld aj) (.zn ld (.bA rfl (fun om=>?_) (fun om=>?_)))))))))
 ·refine .af (.z zm (.z (zfa fm) (.y hs (zld aj) (.z tN (.z zm (.ie (t':=14) rfl (fun He=>?_) (fun He=>?_)))))))
  ·refine .Fs 4 4 false (.z zpT (.zn zg (.ret (rT (Fin.bu results159 rfl ⟨?_,hs.out⟩)))))
   congr 1
   have e:¬s.fr≤s.to:=by omega
   simp only [zy,if_neg e]
   symm
   simp [*]
  ·refine .T (.z zm (.T (.z (zfa fl) (.T (.y hs (zld aj) (.T (.z pc (.z zpF (.zn zg (.ret (rT (Fin.bu results159 rfl ⟨?_,hs.out⟩))))))))))))
   congr 1
   have e:¬s.fr≤s.to:=by omega
   simp only [zy,if_neg e];simp [*]
 ·refine .skip (nT (.af (.z zm (.z (zfa fm) (.y hs (zld aj) (.z (zfa fl) (.y hs (zld aj) (.o (.call lY rfl (cN hs) ?_)))))))));rintro _ w ⟨rfl,hs⟩;refine .zn zg (.ret (Fin.bu results159 rfl ⟨?_,hs.out⟩))
  congr 1
  have e:s.fr≤s.to:=by omega
  simp only [zy,if_pos e]
theorem rR{w:World}{z:Int}(hs:St H w σ)(h2:RSn H vs l.seasons)(hl:gL l):
  ab8 105 [.agg #[I l.length,I l.depth,vt,vs],I z,I d] w fun v w'=>v=I (ky l.seasons z d)∧St H w' σ:=by
 obtain ⟨mq,cs,rfl⟩:=h2.shape;have hm:=hl.most;refine Cl.o func105 ntmps105 ag3 ?_;refine .af (.bx hs fun b3 w hs=>?_);refine .zn zg (.af (.zn zg (.seq (.af (.z (zfa du) (.y hs (zld k8) (.z (dk cf) (.zn zm (.for (N:=l.seasons.length) (J:=fun k fr w=>fr=[(7,I (ky (l.seasons.take k) z d)),(11,.slice mq l.seasons.length cs),(1,I z),(2,I d)]∧St H w σ) ai ?_ ?_ ?_)))))))))
 ·exact .mk ⟨rfl,hs.out⟩
 ·rintro k fr w hk ⟨rfl,hs⟩;obtain ⟨s,hx⟩:=nth hk;have hE:=uC (l.seasons.take k) s z d;rw [←dX hx] at hE;refine .block (.af (.ixX (enc:=Ssn.c) hs h2 rfl rfl cf eE hx dp ?_));intro Gq o15 fq;refine .q hs (cj (vs:=(Ssn.c s)) rfl isAgg104 eE fq) (.o (.alloc hs Gc rfl fun b9 w hs=>?_));refine .o (.aJ (vs:=s.c) hs rfl rfl eE fun w hs=>?_);change St _ _ (.blk b9 [I s.zone,I s.fr,I s.to,I s.extra]::_) at hs;refine .nil (.af (.z (zfa kb) (.y hs (zld aj) (.z zm (.z fJ (.z zm (.ie (t':=21) rfl (fun xQ=>?_) (fun xQ=>?_))))))))
  ·refine .T (.y hs (zls [_,_,_,_] isAgg104 eE) (.T (.z zm (.T (.o (.call call159 rfl (BT (s:=s) hs) ?_))))));rintro _ w ⟨rfl,hs⟩;refine .zn zpT (.cond rfl (fun gv=>?_) (fun gv=>?_))
   ·refine .region (.z zm (.z (zfa ka) (.y hs (zld aj) (.z Je (.zn zg (nB (nT ?_)))))));rw [if_pos ⟨by assumption,by simpa using gv⟩] at hE;exact .mk ⟨by rw [hE],hs.out⟩
   ·refine .skip (nB (nT ?_));rw [if_neg (fun h=>of_decide_eq_false gv h.2)] at hE;exact .mk ⟨by rw [hE],hs.out⟩
  ·refine .Fs 3 4 true (.zn zpF (.cF (.skip (nB (nT ?_)))));rw [if_neg (fun h=>by have:=h.1;contradiction)] at hE;exact .mk ⟨by rw [hE],hs.out⟩
 ·rintro fr w ⟨rfl,hs⟩;rw [List.take_length];exact nT (.af (.z zm (.zn zg (.ret (Fin.bu results105 rfl ⟨rfl,hs⟩)))))
theorem vN{w:World}{z:Int}(hs:St H w σ)(h1:RFb H vt l.table)(h2:RSn H vs l.seasons):
  ab8 104 [.agg #[I l.length,I l.depth,vt,vs],I z,I d] w fun v w'=>∃e,v=I e∧HI l z d e∧St H w' σ:=by
 refine Cl.o func104 ntmps104 ag3 ?_;refine .af (.bx hs fun b3 w hs=>?_);refine .zn zg (.seq (.af (.y hs (zls [_,_,_,_] ck bw) (.o (.call call19 rfl (jb hs h1 h2) ?_)))));rintro _ w ⟨e,rfl,he,hs⟩;refine .zn zg (.af (.z zm (.zn fU (.dK rfl (fun pM=>?_) (fun pM=>?_)))))
 ·refine .af (.z zm (.zn zg (.ret (rT (Fin.bu results104 rfl ?_)))));have h:=he.resolve_left fun h=>pM h.2
  exact ⟨_,rfl,by rw [h.2];exact .lines h.1,hs.out⟩
 ·refine .skip (nT (.seq (.block (.af ?_))));have aU:gL l:=(he.resolve_right fun h=>by omega).1;refine .z zm (.o (.call call73 rfl (mT hs) ?_));rintro _ w ⟨rfl,hs⟩;refine .z fE (.zn zg (.cond rfl (fun iq=>?_) (fun iq=>?_)))
  ·exact .af (.zn zg (.ret (rB (rT (Fin.bu results104 rfl ⟨_,rfl,.zone aU (by simp at iq;omega),hs.out⟩)))))
  ·refine .af (.z zm (.o (.call lY rfl (cN hs) ?_)));rintro _ w ⟨rfl,hs⟩;refine .z fE (.zn zg (.cond rfl (fun i7=>?_) (fun i7=>?_)))
   ·exact .af (.zn zg (.ret (rB (rT (Fin.bu results104 rfl ⟨_,rfl,.day aU (by simpa using iq) (by simp at i7;omega),hs.out⟩)))))
   ·exact .skip (nB (nT (.af (.zn zg (.ret (Fin.bu results104 rfl ⟨_,rfl,.ok aU (by simpa using iq) (by simpa using i7),hs.out⟩))))))
theorem y8{w:World}{z:Int}(hs:St H w σ)(h1:RFb H vt l.table)(h2:RSn H vs l.seasons):
  ab8 41 [.agg #[I l.length,I l.depth,vt,vs],I z,I d] w fun u w'=>∃n e,u= .tuple #[I n,I e]∧Ku l z d n e∧St H w' σ:=by
 refine Cl.o func41 ntmps41 ag3 ?_;refine .af (.bx hs fun b3 w hs=>?_);refine .z zg (.zn zg (.seq (.af (.y hs (zls [_,_,_,_] ck bw) (.z zm (.z zm (.o (.call call104 rfl (vN hs h1 h2) ?_))))))));rintro _ w ⟨e,rfl,he,hs⟩;refine .zn zg (.af (.z zm (.zn fU (.dK rfl (fun dY=>?_) (fun dY=>?_)))))
 ·exact .af (.z zm (.z zg (.zn zg (.ret (rT (Fin.iz results41 rfl rfl ⟨_,_,rfl,.bad he dY,hs.out⟩))))))
 ·refine .skip (nT (.af (.y hs (zls [_,_,_,_] ck bw) ?_)));obtain rfl:e=0:=by omega
  obtain ⟨aU,hz,hd⟩:=he.zero;refine .o (.call call102 rfl (kW hs h1 aU) ?_);rintro _ w ⟨n,b,rfl,hF,hs⟩;refine .z zm (.z zex (.z zex (.z zg (.zn zg (.seq (.af (.z zm (.zn fE (.cond rfl (fun jw=>?_) (fun jw=>?_))))))))))
  ·refine .af (.z zg (.zn zg (.ret (rT (Fin.iz results41 rfl rfl ?_)))));obtain rfl:b=false:=by simpa using jw
   exact ⟨_,_,rfl,.none he hF,hs.out⟩
  ·refine .skip (nT (.seq (.draw mix rfl hs fun w hs=>?_)));obtain rfl:b=true:=by simpa using jw
   have hn:=hF.bd aU;have RE:=aU.depth;have hE:=wi aU.seasons z (1+d%365);refine .zw 0 rfl (zfa jN) ?_;refine .y 1 rfl hs aj ?_;refine .z 2 rfl zm ?_;refine .z 3 rfl gE ?_;refine .ys 4 rfl hs [_,_,_,_] ck bw ?_;refine .z 5 rfl zm ?_;refine .z 6 rfl zm ?_;refine .E 7 hs ?_;refine .call call106 rfl (rU hs hd.1) ?_;rintro _ w ⟨rfl,hs⟩;refine .go (.E 8 hs ?_);refine .call call105 rfl (rR hs h2 aU) ?_;rintro _ w ⟨rfl,hs⟩;refine .go (.zw 9 rfl gE ?_);refine .z 10 rfl zg ?_;refine .z 11 rfl zg ?_;refine .D hs ?_;exact .ret (Fin.iz results41 rfl rfl ⟨_,_,rfl,.ok he hF,hs.out⟩)
theorem xy{w:World}{h:Int}{c:Nat}(hs:St H w (.blk c [I h]:: .blk b [I s.id,I s.src,cU,cO,I s.al,I s.up]::σ))(h2:RI H cO s.wa)(hi:i<s.wa.length)(aU:fB s):
  ab8 166 [I (i:Int),Pt b,Pt c] w fun u w'=>∃bb:Bool,u= .bool bb∧(bb=true↔h<gi s.wa i - gi s.wa 0)∧St H w' (.blk c [I h]:: .blk b [I s.id,I s.src,cU,cO,I s.al,I s.up]::σ):=by
 obtain ⟨gX,gW,rfl⟩:=RI.shape h2;have b1:=aU.wa.bd hi;have b2:=aU.wa.bd (i:=0) ai;refine Cl.o func166 ntmps166 ag3 ?_;refine .af (.zn zg (.seq (.draw mix rfl hs fun w hs=>?_)));refine .zw 0 rfl (zfa aZ) ?_;refine .y 1 rfl hs an ?_;refine .z 2 rfl zm ?_;refine .ixX (enc:=fun x=>[I x]) (i:=3) hs rfl aD .none h2 rfl rfl ae ak (bG (l:=s.wa) (i:=i) ai) dp ?_;intro b8 o8 B2;replace B2:=bJ.one B2;refine .r (i:=4) hs rfl aD .none (aF rfl aj B2) ?_;refine .zw 5 rfl (zfa aZ) ?_;refine .y 6 rfl hs an ?_;refine .ixX (enc:=fun x=>[I x]) (i:=7) hs rfl aD .none h2 rfl rfl ae ak (bG (l:=s.wa) (i:=0) ai) dp ?_;intro En o12 fk;replace fk:=bJ.one fk;refine .r (i:=8) hs rfl aD .none (aF rfl aj fk) ?_;refine .zw 9 rfl gE ?_;refine .y 10 rfl hs aj ?_;refine .z 11 rfl ld ?_;refine .z 12 rfl zg ?_;refine .D hs ?_;exact .ret (Fin.bu results166 rfl ⟨_,rfl,bK,hs⟩)
theorem AR{w:World}{h:Int}(hs:St H w σ)(h2:RI H cO s.wa)(aU:fB s):
  ab8 112 [.agg #[I s.id,I s.src,cU,cO,I s.al,I s.up],I h] w fun u w'=>∃k,u=I k∧BK s.wa h k∧St H w' σ:=by
 obtain ⟨gX,gW,rfl⟩:=RI.shape h2;have hm:=aU.wa.many;have hr:=fun {i j:Nat}=>aU.wa.le (i:=i) (j:=j)
 refine Cl.o func112 ntmps112 ag2 ?_;refine .af (.bx hs fun b2 w hs=>?_);refine .bx hs fun b3 w hs=>?_
 refine .zn zg (.af (.z (zfa aZ) (.y hs (zld an) (.z (dk ae) (.q hs (dZ (f:=[]) (c:=[_,_]) rfl rfl) (.o (.call call157 rfl (qt (cap:=[Pt b2,Pt b3]) (p:=fun i=>h<gi s.wa i - gi s.wa 0) hs ai call166 (fun w i hi hs=>xy hs h2 hi aU)) ?_)))))));rintro _ w ⟨k,rfl,hk,xH,P4,hs⟩;refine .z gE (.zn zg (.ret (Fin.bu results112 rfl ⟨_,rfl,⟨ai,ai,fun i hi=>⟨fun g=>?_,fun g=>?_⟩⟩,hs.out⟩)))
 ·by_cases e:(i:Int)≤k - 1
  ·exact e
  ·have h3:=P4 ai;have:=hr (show k≤i by omega) hi;omega
 ·have h3:=xH ai;have:=hr (show i≤k - 1 by omega) ai;omega
def Cb(x:Lg):List (List Value):=(List.range (mY x)).map fun j=>[I (1+(x.fr+(j:Nat))%365)]
theorem su(x:Lg):(Cb x).length=mY x:=by simp [Cb]
theorem FV(h:j<(Cb x).length):(Cb x)[j]=[I (1+(x.fr+j)%365)]:=by simp [Cb]
theorem y7(hb:Row H b [I x.zone,I x.fr,I x.to,I x.dlo,I x.dhi,I x.blo,I x.bhi])(hx:yH x):
  Iter Tryz.prog 218 [Pt b] H (Cb x):=by
 intro ly II Ix GZ _ hy H0 HS σf w hle CI hs;have g1:cellAt H0 b 1=some (I x.fr):=cellAt.mono (hb.at 1) hle;have hd:=wm hx;have A4:(mY x:Int)=min x.to (x.fr+364) - x.fr+1:=by have:=hx.fr;unfold mY;omega
 have hf:=hx.fr;have ht:=hx.to;refine Cl.o func218 ntmps218 ag2 ?_;refine .af (.z (zfa gR) (.y hs (zld aj) (.zn zg (.block ?_))));refine .loop (fun j:Nat=>⟨22,[],[(3,I (x.fr+(j:Int))),(0,.func (.yield ly) #[] #[]),(1,Pt b)]⟩)
  (fun j w=>j≤mY x∧∃H1 σb,HLe H H1∧HLe H0 H1∧II j H1 σb∧St H1 w (σb++σf)) (fun j=>mY x - j) 0 (.cons (by show some (I _)=some (I _);congr 2;omega) aM)
  ⟨Nat.zero_le _,H0,HS,hle,HLe.refl _,CI,hs⟩ ?_
 rintro j w ⟨hj,H1,σb,az,gq,hI,hs⟩;have h1:cellAt H1 b 1=some (I x.fr):=cellAt.mono (hb.at 1) az;have h2:cellAt H1 b 2=some (I x.to):=cellAt.mono (hb.at 2) az;refine .seq (.af (.z zm (.z (zfa gQ) (.y hs (zld aj) (.z (zfa gR) (.y hs (zld aj) (.z cV (.z gE (.z EE (.zn pc (.bA rfl (fun kE=>?_) (fun kE=>?_))))))))))))
 ·refine .skip (nT (.seq (.block (.af (.z zm (.z zm (.o (.call call106 rfl (rU hs ai) ?_))))))));rintro _ w ⟨rfl,hs⟩;have tE:j<(Cb x).length:=by rw [su];omega
  have BA:=hy j tE H1 σb σf w az hI hs;rw [FV tE] at BA;refine .o (.yield rfl rfl BA ?_);rintro v20 w ⟨H5,σ5,g1,hs,g3'⟩;obtain ⟨bb,rfl,gT,gF⟩:=rp g3';refine .zn fE (.cond rfl (fun jx=>?_) (fun jx=>?_))
  ·exact .ret (rB (rT (rT (rB (Fin.SN results218 ⟨H5,σ5,gq.trans g1,hs,.inr (gF (by simpa using jx))⟩)))))
  ·exact .skip (nB (nT (.region (.z zm (.z cV (.zn zg (nT ⟨j+1,.cons (by show some (I _)=some (I _);congr 2;omega) aM,⟨ai,H5,σ5,az.trans g1,gq.trans g1,gT (by simpa using jx),hs⟩,ai⟩)))))))
 ·refine .exit (xT (xT (xB ?_)));obtain rfl:j=mY x:=by omega
  exact Fin.FR results218 ⟨H1,σb,gq,hs,.inl (by rw [su];exact hI)⟩
theorem BU{w:World}(hs:St H w σ)(hx:yH x):
  ab8 169 [.agg #[I x.zone,I x.fr,I x.to,I x.dlo,I x.dhi,I x.blo,I x.bhi]] w fun u w'=>∃H1 b,HLe H H1∧u= .func (.func 218) #[] #[Pt b]∧Iter Tryz.prog 218 [Pt b] H1 (Cb x)∧St H1 w' σ:=by
 refine Cl.o func169 ntmps169 ag1 ?_;refine .af (.bx hs fun b1 w hs=>?_);refine .zn zg (.af (.q hs (dZ (f:=[]) (c:=[_]) rfl rfl) (.zn zg (.ret (Fin.bu results169 rfl ?_)))));obtain ⟨H1,g1,g2,hs⟩:=hs.dn .here;exact ⟨H1,b1,g1,rfl,y7 g2 hx,hs⟩
set_option maxHeartbeats 1000000 in
theorem qH{w:World}(hs:St H w σ)(g2:RI H cO s.wa)(h1:RFb H vt l.table)(h2:RSn H vs l.seasons)(Gi:fB s)(hl:gL l)(hx:yH x):
  ab8 115 [.agg #[I s.id,I s.src,cU,cO,I s.al,I s.up],.agg #[I l.length,I l.depth,vt,vs],.agg #[I x.zone,I x.fr,I x.to,I x.dlo,I x.dhi,I x.blo,I x.bhi]] w fun u w'=>∃H1 k e,HLe H H1∧u= .tuple #[I k,I e]∧yG s.wa l x k e∧St H1 w' σ:=by
 refine Cl.o func115 ntmps115 ag3 ?_;refine .af (.bx hs fun b3 w hs=>?_);refine .bx hs fun b4 w hs=>?_
 refine .bx hs fun b5 w hs=>?_
 refine .z zg (.zn zg (.af (.y hs (zls [_,_,_,_] ck bw) (.o (.call call102 rfl (kW hs h1 hl) ?_)))));rintro _ w ⟨n,b,rfl,hF,hs⟩;refine .z zm (.z zex (.z zex (.z zg (.zn zg (.seq (.af (.z zm (.zn fE (.cond rfl (fun lM=>?_) (fun lM=>?_))))))))))
 ·refine .af (.z zg (.zn zg (.ret (rT (?_)))));obtain rfl:b=false:=by simpa using lM
  exact Fin.iz results115 rfl rfl ⟨H,_,_,HLe.refl H,rfl,.none hF,hs.out⟩
 ·refine .skip (nT (.af (.o (.alloc hs dA rfl fun pb w hs=>?_))));refine .o (.store hs rfl rfl ak fun w hs=>?_);refine .nil (.seq (.af (.y hs (zls [_,_,_,_,_,_,_] ep bg) ?_)));obtain rfl:b=true:=by simpa using lM
  have hn:=hF.bd hl;have RE:=hl.depth;refine .o (.call call169 rfl (BU hs hx) ?_);rintro _ w ⟨H1,bd,az,rfl,ti,hs⟩;refine .nil (.block ?_);refine .rangeFunc (gf:=218) (cap:=[Pt bd]) (xs:=Cb x) (σb:=[.blk pb [I 0],.blk b5 [I x.zone,I x.fr,I x.to,I x.dlo,I x.dhi,I x.blo,I x.bhi],.blk b4 [I l.length,I l.depth,vt,vs],.blk b3 [I s.id,I s.src,cU,cO,I s.al,I s.up]]) (σf:=σ) hs trivial rfl ti call218 (fun y hy=>by
    simp only [Cb,List.mem_map] at hy;obtain ⟨j,_,rfl⟩:=hy;rfl) rfl
   (I:=fun p H' σb=>σb=[.blk pb [I (oo l.seasons x.zone x.fr p)],.blk b5 [I x.zone,I x.fr,I x.to,I x.dlo,I x.dhi,I x.blo,I x.bhi],.blk b4 [I l.length,I l.depth,vt,vs],.blk b3 [I s.id,I s.src,cU,cO,I s.al,I s.up]]) (Ix:=fun _ _ _=>False)
   (fun j _ _ σ g1 g2=>g2) (fun _ _ _ _ _ h=>h) rfl ?_ ?_ (fun D c H' σb w _ h _=>h.elim)
  ·rintro ly p hp H2 zE yI w bp rfl hs ⟨rr,Fe⟩;rw [FV hp];refine .region (.zn zg (nT ⟨H2,_,HLe.refl _,hs,?_⟩));rintro w uM - hs;replace hs:St H2 w (.blk pb [I (oo l.seasons x.zone x.fr p)]:: .blk b5 [I x.zone,I x.fr,I x.to,I x.dlo,I x.dhi,I x.blo,I x.bhi]:: .blk b4 [I l.length,I l.depth,vt,vs]:: .blk b3 [I s.id,I s.src,cU,cO,I s.al,I s.up]::uM):=hs;refine .block (.draw mix rfl hs fun w hs=>?_);refine .y 0 rfl hs aj ?_;refine .ys 1 rfl hs [_,_,_,_] ck bw ?_;refine .z 2 rfl (zfa mH) ?_;refine .y 3 rfl hs aj ?_;refine .z 4 rfl zm ?_;refine .E 5 hs ?_;refine .call call105 rfl (rR hs (h2.mono (az.trans bp)) hl) ?_;rintro _ w ⟨rfl,hs⟩;refine .go (.zw 6 rfl Je (.E 7 hs ?_));refine .store hs rfl rfl ak ?_;intro w hs;exact .go (.D hs (nB ⟨H2,_,HLe.refl _,hs,rfl⟩))
  ·rintro D H2 zE w bp rfl hs;rw [su] at hs;have dO:=az.trans bp;have hE:=Iq hl.seasons x.zone x.fr (mY x);replace hs:St H2 w (.obj D (.deferred (some [])):: .blk pb [I (oo l.seasons x.zone x.fr (mY x))]:: .blk b5 [I x.zone,I x.fr,I x.to,I x.dlo,I x.dhi,I x.blo,I x.bhi]:: .blk b4 [I l.length,I l.depth,vt,vs]:: .blk b3 [I s.id,I s.src,cU,cO,I s.al,I s.up]::σ):=hs;refine nB (nT (.seq (.af (.y hs (zls [_,_,_,_,_,_] bY bq) (.z (zfa jN) (.y hs (zld aj) (.z zm (.z gE (.y hs (zld aj) (.z gE (.o (.call call112 rfl (AR (s:=s) hs (g2.mono dO) Gi) ?_))))))))))));rintro _ w ⟨k,rfl,hB,hs⟩;refine .zn zg (.af (.z zm (.zn tN (.bA rfl (fun kq=>?_) (fun kq=>?_)))))
   ·exact .af (.z zm (.z zg (.zn zg (.ret (rT ((Fin.iG [D] [] hs fun w hs=>⟨_,results2 results115 rfl rfl,H2,_,_,dO,rfl,.ok hF hB kq,hs.out⟩)))))))
   ·refine .skip (nT (.af (.z zg (.zn zg (.ret ?_)))));have hk:=hB.low;obtain rfl:k= -1:=by omega
    exact Fin.iG [D] [] hs fun w hs=>⟨_,results2 results115 rfl rfl,H2,_,_,dO,rfl,.above hF hB,hs.out⟩
theorem Av{w:World}{v:Value}{l:List Rng}(hs:St H w σ)(hr:RRg H v l):ab8 162 [v] w fun u w'=>RRg H u l∧St H w' σ:=by
 obtain ⟨a,c,rfl⟩:=hr.shape;have hc:=RS.clip hr;refine Cl.o func162 ntmps162 ag1 ?_;exact .af (.zn zg (.af (.z zm (.z zm (.z (dk kj) (.z zm (.z (dk kj) (.q hs (KW rfl rfl rfl kj aH (Nat.le_refl _) hc.1) (.zn zg (.ret (Fin.bu results162 rfl ⟨hc.2,hs⟩)))))))))))
theorem qG{w:World}{r:List Lg}{m:Rng}(hs:St H w σ)(h1:RLg H vr r)(hr:Bp r)(hm:kz m.lo m.hi):
  ab8 110 [.agg #[vr],.agg #[I m.lo,I m.hi]] w fun u w'=>∃H1,HLe H H1∧RRg H1 u (msL m r r.length)∧St H1 w' σ:=by
 obtain ⟨ar,cr,rfl⟩:=h1.shape;have hn:=hr.many;refine Cl.o func110 ntmps110 ag2 ?_;refine .af (.bx hs fun b2 w hs=>?_);refine .bx hs fun b3 w hs=>?_
 refine .zn zg (.af (.y hs (zls [_,_] cE aH) (.o (.buildSlice (cells:=m.c) hs oL rfl aD fun b9 w hs=>?_))));refine .zn zg (.seq (.af (.z (zfa cH) (.y hs (zld gC) (.z (dk aV) (.zn zm (.for (N:=r.length) (J:=fun k fr w=>∃vo en,fr=[(5,vo),(11,.slice ar r.length cr),(3,Pt b3)]∧dj 2 vo (rgc (msL m r k)).flatten en∧St H w (en:: .blk b3 [I (tc m r k).lo,I (tc m r k).hi]::σ)) ai ?_ ?_ ?_)))))))
 ·exact .mk ⟨_,.blk b9 m.c,rfl,.full rfl,hs.sb⟩
 ·rintro k fr w hk ⟨vo,en,rfl,hO,hs⟩;have hx:=qe (l:=r) hk;have hb:=Lh hm (fun i hi=>(hr.leg i hi).1) (i:=k) ai;have BD:=(hr.leg k hk).1.burn;unfold kz at hb BD;have Rr:=sR m r k;obtain ⟨ao,co,rfl⟩:=hO.jF (QS _) ai;refine .block (.af (.ixX (enc:=Lg.c) hs h1 rfl rfl aV bg hx dp ?_));intro Gq o15 fq;refine .q hs (cj (vs:=(Lg.c (lg0 r k))) rfl ep bg fq) (.o (.alloc hs fg rfl fun b7 w hs=>?_));refine .o (.aJ (vs:=(lg0 r k).c) hs rfl rfl bg fun w hs=>?_);change St _ _ (.blk b7 [I (lg0 r k).zone,I (lg0 r k).fr,I (lg0 r k).to,I (lg0 r k).dlo,I (lg0 r k).dhi,I (lg0 r k).blo,I (lg0 r k).bhi]::_) at hs;refine .nil (.af (.z (zfa bH) (.y hs (zld aj) (.z (zfa iM) (.z (zfa cP) (.y hs (zld aj) (.z gE (.z Je (.z (zfa cP) (.y hs (zld aj) (.z (zfa iM) (.z (zfa bH) (.y hs (zld aj) (.z gE (.z Je (.z (zbd [_,_] bL) (.o (.aJ (vs:=(tc m r (k+1)).c) hs rfl rfl aH fun w hs=>?_))))))))))))))))));change St _ _ (.blk b7 _::en:: .blk b3 [I (tc m r (k+1)).lo,I (tc m r (k+1)).hi]::σ) at hs;refine .nil (.region (.z zm (.y hs (zls [_,_] cE aH) (.o (.buildSlice (cells:=(tc m r (k+1)).c) hs oL rfl aD fun Qv w hs=>?_)))));refine .o (.append (ys:=(tc m r (k+1)).c) hs ot rfl rfl hO (.own .here rfl rfl) (by simp [Rng.c,Value.oneCell']) (fun l h=>by rw [bX _ (QS _),xj] at h;omega) ?_);intro v35 en35 w eG hs;rw [←NR,←Oh] at eG;exact .zn zg (nB (nT (.mk ⟨_,_,rfl,eG,hs.sb⟩)))
 ·rintro fr w ⟨vo,en,rfl,hO,hs⟩;obtain ⟨H1,az,hR,hs⟩:=dj.dn (m:=2) hO (QS _) ai (by rw [xj,sR];omega) hs .here;refine nT (.af (.z zm (.o (.call call162 rfl (Av (l:=msL m r r.length) hs hR) ?_))));rintro v38 w ⟨Vc,hs⟩;exact .zn zg (.ret (Fin.bu results110 rfl ⟨H1,az,Vc,hs.out⟩))
theorem MY{v:Srv}{out:List Int}(h:Ja v out e)(hv:ew v):(e=0∧0<out.length∧¬v.sys.Sound)∨(e=3∧v.sys.Sound):=by
 cases h with
 |bad h he=>exact (he (h.dr.2 hv)).elim
 |ok _ h=>
  by_cases e0:e=0
  ·subst e0;obtain ⟨_,h1,_,h2⟩:=h.conf;exact .inl ⟨rfl,(by cases out with|nil=>exact (h2 rfl).elim|cons=>simp),h1⟩
  ·cases h with
   |bad h=>exact (h (v.sys.dr.2 hv.sys)).elim
   |none _ h=>exact .inr ⟨rfl,h⟩
   |ok=>exact (e0 rfl).elim
theorem jR{w:World}{k:Int}(hs:St H w σ):ab8 98 [I k] w fun u w'=>u= .agg #[I 1,I 0,I k]∧St H w' σ:=by
 refine Cl.o func98 ntmps98 ag1 ?_;refine .af (.o (.alloc hs zeroValue113 rfl fun b2 w hs=>?_));refine .nil (.af (.z zm (.z (zbd [_,_,_] sD) (.o (.aJ (vs:=[_,_,_]) hs rfl rfl ku fun w hs=>?_)))));exact .nil (.ret (Fin.iG [] [] hs fun w hs=>⟨_,results1 results98 (dm (vs:=[_,_,_]) hs rfl pa ku),rfl,hs.out⟩))
theorem yZ{w:World}{s:Srv}{a b c d:Value}(hs:St H w σ)(g:SvM H s a b c d)(aU:ew s):
  ab8 122 [svA s a b c d,I (k:Int)] w fun u w'=>∃H1 lo hi e,HLe H H1∧u= .tuple #[.agg #[I lo,I hi],I e]∧CX s k lo hi e∧St H1 w' σ:=by
 refine Cl.o func122 ntmps122 ag2 ?_;refine .af (.bx hs fun b2 w hs=>?_);refine .o (.alloc hs dy rfl fun b4 w hs=>?_);refine .zn zg (.seq (.af (.z zm (.zn ld (.bA rfl (fun om=>?_) (fun om=>?_))))))
 ·refine .seq (.draw mix rfl hs fun w hs=>?_);refine .ys 0 rfl hs [_,_,_,_,_,_,_,_] bn aK ?_;refine .z 1 rfl zm ?_;refine .E 2 hs ?_;refine .call call98 rfl (jR hs) ?_;rintro _ w ⟨rfl,hs⟩;refine .go (.E 3 hs ?_);refine .call call174 rfl (vF (s:=s) (q:=⟨1,0,k⟩) hs g.st g.wa g.rd g.cm) ?_;rintro _ w ⟨H1,lo,hi,e,az,rfl,hQ,hs⟩;refine .go (.zw 4 rfl zex ?_);refine .z 5 rfl zex ?_;refine .E 6 hs ?_;refine .aJ (vs:=[_,_]) hs rfl rfl aH ?_;intro w hs;refine .go (.zw 7 rfl zg ?_);refine .D hs ?_;exact .ret (rT ((Fin.iG [] [] hs fun w hs=>⟨_,results2 results122 (dm (vs:=[_,_]) hs rfl cE aH) rfl,H1,_,_,_,az,rfl,.up ai hQ,hs.out⟩)))
 ·refine .skip (nT (.seq (.af (.y hs (zls [_,_,_,_,_,_,_,_] bn aK) ?_))));obtain rfl:k=0:=by omega
  refine .o (.call call175 rfl (vE (s:=s) hs g.st g.wa g.rd g.cm) ?_);rintro _ w ⟨H1,vx,out,e,az,rfl,hX,hC,hs⟩;have uw:=MY hC aU;obtain ⟨ax,cx,rfl⟩:=RI.shape hX;refine .z zm (.z zex (.z zex (.z zg (.zn zg (.af (.z zm (.z fJ (.z zm (.ie (t':=23) rfl (fun uz=>?_) (fun uz=>?_))))))))))
  ·refine .T (.z zm (.T (.z (dk ae) (.T (.z ld (.zn zpT (.bA rfl (fun nS=>?_) (fun nS=>?_))))))))
   ·refine .af (.z (zbd [_,_] bL) (.o (.aJ (vs:=[_,_]) hs rfl rfl aH fun w hs=>?_)));exact .zn zg (.ret (rT ((Fin.iG [] [] hs fun w hs=>⟨_,results2 results122 (dm (vs:=[_,_]) hs rfl cE aH) rfl,H1,_,_,_,az,rfl,.fls rfl aU (by rcases uw with h|h;exact h.2.2;omega),hs.out⟩))))
   ·refine .skip (nT (.af (.z (zbd [_,_] bL) (.o (.aJ (vs:=[_,_]) hs rfl rfl aH fun w hs=>?_)))));exact .zn zg (.ret (Fin.iG [] [] hs fun w hs=>⟨_,results2 results122 (dm (vs:=[_,_]) hs rfl cE aH) rfl,H1,_,_,_,az,rfl,.zero rfl aU (by rcases uw with h|h;omega;exact h.2),hs.out⟩))
  ·refine .Fs 3 2 true (.zn zpF (.cF (.skip (nT (.af (.z (zbd [_,_] bL) (.o (.aJ (vs:=[_,_]) hs rfl rfl aH fun w hs=>?_))))))));exact .zn zg (.ret (Fin.iG [] [] hs fun w hs=>⟨_,results2 results122 (dm (vs:=[_,_]) hs rfl cE aH) rfl,H1,_,_,_,az,rfl,.zero rfl aU (by rcases uw with h|h;omega;exact h.2),hs.out⟩))
theorem jH{w:World}{n:Int}(hs:St H w σ)(hn: -4000000000000≤n∧n≤4000000000000)(hd: -100000≤d∧d≤100000):ab8 99 [I n,I d] w fun v w'=>v=I (mV n d)∧St H w' σ:=by
 have hm:=lH (a:=n) (b:=d) (A:=4000000000000) (B:=100000) ai ai;refine Cl.o func99 ntmps99 ag2 ?_;refine .af (.zn zg (.af (.z zm (.z zm (.z la (.o (.call call140 rfl (oR hs ai ai) ?_)))))));rintro _ w ⟨rfl,hs⟩;exact .zn zg (.ret (Fin.bu results99 rfl ⟨rfl,hs⟩))
theorem xx{w:World}{x y:Int}(hs:St H w σ)(h1: -200000000≤lo∧lo≤200000000)(h2: -200000000≤hi∧hi≤200000000)(hd:gg x y):
  ab8 145 [.agg #[I lo,I hi],.agg #[I x,I y]] w fun v w'=>v= .agg #[I (Ar lo x y),I (Cq hi x y)]∧St H w' σ:=by
 unfold gg at hd;refine Cl.o func145 ntmps145 ag2 ?_;refine .af (.bx hs fun b2 w hs=>?_);refine .bx hs fun b3 w hs=>?_
 refine .o (.alloc hs dy rfl fun b4 w hs=>?_);refine .nil (.seq (.draw mix rfl hs fun w hs=>?_));refine .zw 0 rfl (zfa bH) ?_;refine .y 1 rfl hs aj ?_;refine .z 2 rfl (zfa bH) ?_;refine .y 3 rfl hs aj ?_;refine .z 5 rfl (zfa bH) ?_;refine .y 6 rfl hs aj ?_;refine .z 7 rfl (zfa cP) ?_;refine .y 8 rfl hs aj ?_;refine .z 11 rfl (zfa cP) ?_;refine .y 12 rfl hs aj ?_;refine .zw 13 rfl (zfa bH) ?_;refine .y 14 rfl hs aj ?_;refine .z 16 rfl (zfa cP) ?_;refine .y 17 rfl hs aj ?_;refine .z 18 rfl (zfa cP) ?_;refine .y 19 rfl hs aj ?_;refine .E 4 hs ?_;refine .call call99 rfl (jH hs ai ai) ?_;rintro _ w ⟨rfl,hs⟩;refine .go (.E 9 hs ?_);refine .call call99 rfl (jH hs ai ai) ?_;rintro _ w ⟨rfl,hs⟩;refine .go (.zw 10 rfl EE (.E 15 hs ?_));refine .call call99 rfl (jH hs ai ai) ?_;rintro _ w ⟨rfl,hs⟩;refine .go (.E 20 hs ?_);refine .call call99 rfl (jH hs ai ai) ?_;rintro _ w ⟨rfl,hs⟩;refine .go (.zw 21 rfl Je ?_);refine .z 22 rfl (zbd [_,_] bL) ?_;refine .E 23 hs ?_;refine .aJ (vs:=[_,_]) hs rfl rfl aH ?_;intro w hs;exact .go (.D hs (.ret (Fin.iG [] [] hs fun w hs=>⟨_,results1 results145 (dm (vs:=[_,_]) hs rfl cE aH),rfl,hs.out⟩)))
theorem fC{w:World}{s:Srv}{a b c d:Value}{x y:Int}(hs:St H w σ)(g:SvM H s a b c d)(aU:ew s)(hd:gg x y):
  ab8 88 [svA s a b c d,I (k:Int),.agg #[I x,I y]] w fun u w'=>∃H1 lo hi e,HLe H H1∧u= .tuple #[.agg #[I lo,I hi],I e]∧ow s k x y lo hi e∧St H1 w' σ:=by
 refine Cl.o func88 ntmps88 ag3 ?_;refine .af (.bx hs fun b3 w hs=>?_);refine .bx hs fun b5 w hs=>?_
 refine .o (.alloc hs dy rfl fun b6 w hs=>?_);refine .zn zg (.af (.y hs (zls [_,_,_,_,_,_,_,_] bn aK) (.z zm (.o (.call call122 rfl (yZ (s:=s) hs g aU) ?_)))));rintro _ w ⟨H1,lo,hi,e,az,rfl,hL,hs⟩;have hb:=hL.bd;refine .z zm (.z zex (.z zex (.o (.alloc hs dy rfl fun b8 w hs=>?_))));refine .o (.aJ (vs:=[_,_]) hs rfl rfl aH fun w hs=>?_);refine .zn zg (.seq (.af (.z zm (.zn fU (.dK rfl (fun i7=>?_) (fun i7=>?_))))))
 ·refine .af (.z (zbd [_,_] bL) (.z zm (.o (.aJ (vs:=[_,_]) hs rfl rfl aH fun w hs=>?_))));exact .zn zg (.ret (rT ((Fin.iG [] [] hs fun w hs=>⟨_,results2 results88 (dm (vs:=[_,_]) hs rfl cE aH) rfl,H1,_,_,_,az,rfl,.fls hL i7,hs.out⟩))))
 ·refine .skip (nT (.af (.y hs (zls [_,_] cE aH) (.y hs (zls [_,_] cE aH) ?_))));obtain rfl:e=0:=by omega
  refine .o (.call call145 rfl (xx hs ai ai hd) ?_);rintro _ w ⟨rfl,hs⟩;refine .o (.aJ (vs:=[_,_]) hs rfl rfl aH fun w hs=>?_);exact .zn zg (.ret (Fin.iG [] [] hs fun w hs=>⟨_,results2 results88 (dm (vs:=[_,_]) hs rfl cE aH) rfl,H1,_,_,_,az,rfl,.ok hL,hs.out⟩))
theorem q6{w:World}{s:Srv}{k:Int}{a b c d:Value}{x y:Int}(hs:St H w σ)(g:SvM H s a b c d):
  ab8 58 [svA s a b c d,I k,.agg #[I x,I y]] w fun u w'=>∃H1 lo hi e,HLe H H1∧u= .tuple #[.agg #[I lo,I hi],I e]∧HG s k x y lo hi e∧St H1 w' σ:=by
 obtain ⟨aw,cw,rfl⟩:=RI.shape g.wa;refine Cl.o func58 ntmps58 ag3 ?_;refine .af (.bx hs fun b3 w hs=>?_);refine .bx hs fun b5 w hs=>?_
 refine .o (.alloc hs dy rfl fun b6 w hs=>?_);refine .zn zg (.seq (.af (.y hs (zls [_,_,_,_,_,_,_,_] bn aK) (.o (.call aaq rfl (fj (s:=s) hs g.st g.wa g.rd g.cm) ?_)))));rintro _ w ⟨H1,e,az,rfl,hC,hs⟩;refine .zn zg (.af (.z zm (.zn fU (.dK rfl (fun fk=>?_) (fun fk=>?_)))))
 ·refine .af (.z (zbd [_,_] bL) (.z zm (.o (.aJ (vs:=[_,_]) hs rfl rfl aH fun w hs=>?_))));exact .zn zg (.ret (rT ((Fin.iG [] [] hs fun w hs=>⟨_,results2 results58 (dm (vs:=[_,_]) hs rfl cE aH) rfl,H1,_,_,_,az,rfl,.bad hC fk,hs.out⟩))))
 ·refine .skip (nT (.seq (.block (.af ?_))));have aU:ew s:=hC.dr.1 ai;have rk:=fX aU.early.1;refine .z zm (.z (zfa a6) (.z (zfa aZ) (.y hs (zld an) (.z (dk ae) (.z gE (.o (.call lY rfl (cN hs) ?_)))))));rintro _ w ⟨rfl,hs⟩;refine .z fE (.zn zg (.cond rfl (fun fq=>?_) (fun fq=>?_)))
  ·refine .af (.z (zbd [_,_] bL) (.o (.aJ (vs:=[_,_]) hs rfl rfl aH fun w hs=>?_)));exact .zn zg (.ret (rB (rT ((Fin.iG [] [] hs fun w hs=>⟨_,results2 results58 (dm (vs:=[_,_]) hs rfl cE aH) rfl,H1,_,_,_,az,rfl,.water aU (by simp at fq;omega),hs.out⟩)))))
  ·refine .af (.y hs (zls [_,_] cE aH) ?_);have hk:0≤k∧k≤(s.sp.wa.length:Int) - 1:=by simpa using fq
   refine .o (.call call118 rfl (pF hs) ?_);rintro _ w ⟨rfl,hs⟩;refine .z fE (.zn zg (.cond rfl (fun gv=>?_) (fun gv=>?_)))
   ·refine .af (.z (zbd [_,_] bL) (.o (.aJ (vs:=[_,_]) hs rfl rfl aH fun w hs=>?_)));exact .zn zg (.ret (rB (rT ((Fin.iG [] [] hs fun w hs=>⟨_,results2 results58 (dm (vs:=[_,_]) hs rfl cE aH) rfl,H1,_,_,_,az,rfl,.dense aU hk (by simpa using gv),hs.out⟩)))))
   ·refine .skip (nB (nT (.af (.y hs (zls [_,_,_,_,_,_,_,_] bn aK) (.z zm (.y hs (zls [_,_] cE aH) ?_))))));have A4:gg x y:=by simpa using gv
    obtain ⟨j,rfl⟩:∃j:Nat,k=(j:Int):=⟨k.toNat,ai⟩;refine .o (.call call88 rfl (fC (s:=s) hs (g.mono az) aU A4) ?_);rintro _ w ⟨H2,lo,hi,e,bp,rfl,hS,hs⟩;refine .z zex (.z zex (.o (.aJ (vs:=[_,_]) hs rfl rfl aH fun w hs=>?_)));exact .zn zg (.ret (Fin.iG [] [] hs fun w hs=>⟨_,results2 results58 (dm (vs:=[_,_]) hs rfl cE aH) rfl,H2,_,_,_,az.trans bp,rfl,.go aU hk A4 (by rw [Int.toNat_natCast];exact hS),hs.out⟩))
set_option maxHeartbeats 2000000 in
theorem AS{w:World}{s:Srv}{r:List Lg}{m:Rng}{a b c d:Value}(hs:St H w σ)(g:SvM H s a b c d)(gl:LnM H l vt vs)(pW:RLg H gZ r):
  ab8 79 [svA s a b c d,lnA l vt vs,.agg #[gZ],.agg #[I m.lo,I m.hi]] w fun u w'=>∃(H1:cK) (z:RtV) (ks:List Int) (e:Int),HLe H H1∧u= .tuple #[z.agg,I e]∧z.cs.all Value.oneCell'=true∧yg s l r m ks e∧(e=0→∃vms vmk,z=⟨s,l,a,b,c,d,vt,vs,gZ,vms,vmk⟩∧RRg H1 vms (msL m r r.length)∧RI H1 vmk ks)∧St H1 w' σ:=by
 obtain ⟨wW,wT,rfl⟩:=pW.shape;refine Cl.o func79 ntmps79 ag4 ?_;refine .af (.bx hs fun b4 w hs=>?_);refine .bx hs fun b5 w hs=>?_
 refine .bx hs fun b6 w hs=>?_
 refine .bx hs fun b7 w hs=>?_
 refine .o (.alloc hs w5 rfl fun b8 w hs=>?_);refine .zn zg (.seq (.af (.y hs (zls [_,_,_,_,_,_,_,_] bn aK) (.o (.call aaq rfl (fj (s:=s) hs g.st g.wa g.rd g.cm) ?_)))));rintro _ w ⟨H1,e,az,rfl,hC,hs⟩;refine .zn zg (.af (.z zm (.zn fU (.dK rfl (fun jx=>?_) (fun jx=>?_)))))
 ·refine .af (.z (zbd RtV.zero.cs iU rfl aD) (.z zm (.o (.aJ (vs:=RtV.zero.cs) hs rfl rfl fQ fun w hs=>?_))));exact .zn zg (.ret (rT ((Fin.iG [] [] hs fun w hs=>⟨_,results2 V1 (dm (vs:=RtV.zero.cs) hs rfl HQ fQ) rfl,H1,RtV.zero,_,_,az,rfl,rfl,.bad hC jx,fun h=>(jx h).elim,hs.out⟩))))
 ·refine .skip (nT (.seq (.af (.y hs (zls [_,_,_,_] ck bw) ?_))));have aU:ew s:=hC.dr.1 ai;have Gi:=aU.early.1;refine .o (.call call19 rfl (jb hs (gl.tb.mono az) (gl.sn.mono az)) ?_);rintro _ w ⟨f,rfl,hL,hs⟩;refine .zn zg (.af (.z zm (.zn fU (.dK rfl (fun nS=>?_) (fun nS=>?_)))))
  ·refine .af (.z (zbd RtV.zero.cs iU rfl aD) (.z zm ?_));have hl:=hL.resolve_left fun h=>nS h.2
   refine .o (.aJ (vs:=RtV.zero.cs) hs rfl rfl fQ fun w hs=>?_);exact .zn zg (.ret (rT ((Fin.iG [] [] hs fun w hs=>⟨_,results2 V1 (dm (vs:=RtV.zero.cs) hs rfl HQ fQ) rfl,H1,RtV.zero,_,_,az,rfl,rfl,by rw [hl.2];exact .lines aU hl.1,fun h=>(nS h).elim,hs.out⟩))))
  ·refine .skip (nT (.seq (.af (.y hs (zls [_] iX dG) ?_))));have hl:gL l:=(hL.resolve_right fun h=>by omega).1;refine .o (.call call21 rfl (tf hs (pW.mono az)) ?_);rintro _ w ⟨q,rfl,hR,hs⟩;refine .zn zg (.af (.z zm (.zn fU (.dK rfl (fun nQ=>?_) (fun nQ=>?_)))))
   ·refine .af (.z (zbd RtV.zero.cs iU rfl aD) (.z zm ?_));have BX:=hR.resolve_left fun h=>nQ h.2
    refine .o (.aJ (vs:=RtV.zero.cs) hs rfl rfl fQ fun w hs=>?_);exact .zn zg (.ret (rT ((Fin.iG [] [] hs fun w hs=>⟨_,results2 V1 (dm (vs:=RtV.zero.cs) hs rfl HQ fQ) rfl,H1,RtV.zero,_,_,az,rfl,rfl,by rw [BX.2];exact .route aU hl BX.1,fun h=>(nQ h).elim,hs.out⟩))))
   ·refine .skip (nT (.seq (.af (.y hs (zls [_,_] cE aH) ?_))));have BX:Bp r:=(hR.resolve_right fun h=>by omega).1;have hn:=BX.many;refine .o (.call call109 rfl (qJ hs) ?_);rintro _ w ⟨rfl,hs⟩;refine .zn fE (.cond rfl (fun A6=>?_) (fun A6=>?_))
    ·refine .af (.z (zbd RtV.zero.cs iU rfl aD) (.o (.aJ (vs:=RtV.zero.cs) hs rfl rfl fQ fun w hs=>?_)));exact .zn zg (.ret (rT ((Fin.iG [] [] hs fun w hs=>⟨_,results2 V1 (dm (vs:=RtV.zero.cs) hs rfl HQ fQ) rfl,H1,RtV.zero,_,_,az,rfl,rfl,.mass aU hl BX (by simpa using A6),fun h=>by omega,hs.out⟩))))
    ·refine .skip (nT (.cut (fun fs w=>∃H2 vms nm,lr fs ⟨76,[],[(13,Pt nm),(8,Pt b8),(5,Pt b5),(6,Pt b6)]⟩∧HLe H1 H2∧RRg H2 vms (msL m r r.length)∧St H2 w (.blk nm (RtV.cs ⟨s,l,a,b,c,d,vt,vs,.slice wW r.length wT,vms,.slice none 0 0⟩):: .blk b8 RtV.zero.cs:: .blk b6 [.slice wW r.length wT]:: .blk b5 (lnC l vt vs)::σ)) ?_ ?_))
     ·refine .draw mix rfl hs fun w hs=>?_
      refine .ys 0 rfl hs [_,_,_,_,_,_,_,_] bn aK ?_;refine .ys 1 rfl hs [_,_,_,_] ck bw ?_;refine .z 2 rfl (zfa cH) ?_;refine .y 3 rfl hs gC ?_;refine .ys 4 rfl hs [_] iX dG ?_;refine .ys 5 rfl hs [_,_] cE aH ?_;refine .e2 (i:=6) (j:=8) aD rfl rfl rfl rfl .none .none hs ?_ ?_
      ·refine .call call110 rfl (qG hs (pW.mono az) BX (by simpa using A6)) ?_;rintro vms w ⟨H2,bp,Mx,hs⟩;obtain ⟨J4,J0,rfl⟩:=Mx.shape;refine .go (.zw 7 rfl (zbd (vs:=[(0,svA s a b c d),(1,lnA l vt vs),(2,.slice wW r.length wT),(3,.slice J4 (msL m r r.length).length J0)]) (RtV.cs ⟨s,l,a,b,c,d,vt,vs,.slice wW r.length wT,.slice J4 (msL m r r.length).length J0,.slice none 0 0⟩) iU rfl aD) (.E 8 hs ?_));refine .alloc hs w5 rfl ?_;intro nm w hs;refine .go (.E 9 hs ?_);refine .aJ (vs:=RtV.cs ⟨s,l,a,b,c,d,vt,vs,.slice wW r.length wT,.slice J4 (msL m r r.length).length J0,.slice none 0 0⟩) hs rfl rfl fQ ?_ (hv:=RtV.one g gl pW (RS.one Mx) rfl);intro w hs;exact .go (.D hs (nT ⟨H2,_,nm,aM,bp,Mx,hs.sb⟩))
      ·refine .alloc hs w5 rfl ?_;intro nm w hs;refine .go (.E 6 hs ?_);refine .call call110 rfl (qG hs (pW.mono az) BX (by simpa using A6)) ?_;rintro vms w ⟨H2,bp,Mx,hs⟩;obtain ⟨J4,J0,rfl⟩:=Mx.shape;refine .go (.zw 7 rfl (zbd (vs:=[(0,svA s a b c d),(1,lnA l vt vs),(2,.slice wW r.length wT),(3,.slice J4 (msL m r r.length).length J0)]) (RtV.cs ⟨s,l,a,b,c,d,vt,vs,.slice wW r.length wT,.slice J4 (msL m r r.length).length J0,.slice none 0 0⟩) iU rfl aD) (.E 9 hs ?_));refine .aJ (vs:=RtV.cs ⟨s,l,a,b,c,d,vt,vs,.slice wW r.length wT,.slice J4 (msL m r r.length).length J0,.slice none 0 0⟩) hs rfl rfl fQ ?_ (hv:=RtV.one g gl pW (RS.one Mx) rfl);intro w hs;exact .go (.D hs (nT ⟨H2,_,nm,aM,bp,Mx,hs.sb⟩))
     ·rintro fs w ⟨H2,vms,nm,gP,bp,Mx,hs⟩;refine WE.sub ?_ gP;clear gP;have dO:=az.trans bp;have hm:kz m.lo m.hi:=by simpa using A6
      refine .seq (.af (.z (zfa cH) (.y hs (zld gC) (.z (dk aV) (.zn zm (.for (N:=r.length) (J:=fun k fr w=>∃H3 ks vmk en,fr=[(49,.slice wW r.length wT),(13,Pt nm),(8,Pt b8),(5,Pt b5)]∧HLe H2 H3∧ks.length=k∧(∀i<k,yG s.sp.wa l (lg0 r i) (gi ks i) 0)∧dj 1 vmk (Is ks) en∧St H3 w (en:: .blk nm (RtV.cs ⟨s,l,a,b,c,d,vt,vs,.slice wW r.length wT,vms,vmk⟩):: .blk b8 RtV.zero.cs:: .blk b6 [.slice wW r.length wT]:: .blk b5 (lnC l vt vs)::σ)) ai ?_ ?_ ?_))))))
      ·exact .mk ⟨H2,[],_,.nul,rfl,HLe.refl _,rfl,fun i hi=>by omega,.nil 1 none,hs.nul⟩
      ·rintro k fr w hk ⟨H3,ks,vmk,en,rfl,cZ,pV,RA,hO,hs⟩;have hx:=qe (l:=r) hk;have gK:=dO.trans cZ;obtain ⟨ao,lo',co,rfl,xH⟩:=hO.shape;refine .block (.af (.ixX (enc:=Lg.c) hs (pW.mono gK) rfl rfl aV bg hx dp ?_));intro ZI o53 ux;refine .q hs (cj (vs:=(Lg.c (lg0 r k))) rfl ep bg ux) (.o (.alloc hs fg rfl fun Gq w hs=>?_));refine .o (.aJ (vs:=(lg0 r k).c) hs rfl rfl bg fun w hs=>?_);change St _ _ (.blk Gq (lgC (lg0 r k))::_) at hs;refine .nil (.af (.z (zfa nW) (.z (zfa a6) (.y hs (zls [_,_,_,_,_,_] bY bq) (.y hs (zls [_,_,_,_] ck bw) (.y hs (zls [_,_,_,_,_,_,_] ep bg) (.o (.call call115 rfl (qH (s:=s.sp) (x:=lg0 r k) hs (g.wa.mono gK) (gl.tb.mono gK) (gl.sn.mono gK) Gi hl (BX.leg k hk).1) ?_))))))));rintro _ w ⟨H4,n,e,gj,rfl,Gp,hs⟩;have kI:=gK.trans gj;refine .z zm (.z zex (.z zex (.z zg (.zn zg (.seq (.af (.z zm (.zn fU (.dK rfl (fun RK=>?_) (fun RK=>?_))))))))))
       ·refine .af (.z (zbd RtV.zero.cs iU rfl aD) (.z zm (.o (.aJ (vs:=RtV.zero.cs) hs rfl rfl fQ fun w hs=>?_))));exact .zn zg (.ret (rT (rB (rT (rB (rT ((Fin.iG [] [] hs fun w hs=>⟨_,results2 V1 (dm (vs:=RtV.zero.cs) hs rfl HQ fQ) rfl,H4,RtV.zero,_,_,kI,rfl,rfl,.low aU hl BX hm hk (fun j hj=>⟨_,RA j hj⟩) Gp RK,fun h=>(RK h).elim,hs.out⟩))))))))
       ·refine .skip (nT (.region (.z (zfa j9) (.y hs (zld an) (.z zm (.o (.buildSlice (cells:=Is [n]) hs dw rfl aD fun VD w hs=>?_)))))));refine .o (.append (ys:=Is [n]) hs df rfl rfl hO (.own .here rfl rfl) (ki _) (fun l h=>by simp [Is] at h;omega) ?_);intro v72 en72 w eG hs;rw [←List.map_append] at eG;obtain ⟨a72,l72,c72,rfl,h72⟩:=eG.shape;refine .z (zfa j9) (.o (.store hs rfl rfl aO fun w hs=>?_));refine .nil (nB (nT ?_));obtain rfl:e=0:=by omega
        exact .mk ⟨H4,ks++[n],_,_,rfl,cZ.trans gj,by simp [pV],fun i hi=>by
         by_cases e:i=k
         ·subst e;rw [sd,if_neg ai,if_pos ai];exact Gp
         ·rw [sd,if_pos ai];exact RA i ai,eG,hs.sb⟩
      ·rintro fr w ⟨H3,ks,vmk,en,rfl,cZ,pV,RA,hO,hs⟩;obtain ⟨H4,gj,Vb,hs⟩:=hO.eI ai hs .here;have kI:=dO.trans (cZ.trans gj);refine nT (.af (.y hs (zls [_,_,_,_,_,_,_,_,_,_,_,_,_,_,_] HQ fQ) (.o (.aJ (vs:=RtV.cs ⟨s,l,a,b,c,d,vt,vs,.slice wW r.length wT,vms,vmk⟩) hs rfl rfl fQ ?_ (hv:=RtV.one g gl pW (RS.one Mx) (RS.one Vb))))));intro w hs;exact .zn zg (.ret (Fin.iG [] [] hs fun w hs=>⟨_,results2 V1 (dm (vs:=RtV.cs ⟨s,l,a,b,c,d,vt,vs,.slice wW r.length wT,vms,vmk⟩) hs rfl HQ fQ) rfl,H4,⟨s,l,a,b,c,d,vt,vs,.slice wW r.length wT,vms,vmk⟩,_,_,kI,rfl,RtV.one g gl pW (RS.one Mx) (RS.one Vb),.ok aU hl BX hm pV RA,fun _=>⟨_,_,rfl,Mx.mono (cZ.trans gj),Vb⟩,hs.out⟩))
structure RtM(H:cK)(s:Srv)(l:Lns)(r:List Lg)(m:Rng)(ks:List Int)(z:RtV):Prop where
 es:z.s=s
 el:z.l=l
 sv:SvM H s z.a z.b z.c z.d
 ln:LnM H l z.t z.n
 lg:RLg H z.lg r
 ms:RRg H z.ms (msL m r r.length)
 mr:RI H z.mr ks
 one:z.cs.all Value.oneCell'=true
 beg:yg s l r m ks 0
set_option maxHeartbeats 1000000 in
theorem xz{w:World}{s:Srv}{r:List Lg}{m:Rng}{ks:List Int}{z:RtV}(hs:St H w σ)(h:RtM H s l r m ks z):
  ab8 80 [z.agg] w fun u w'=>∃H1 v mq e,HLe H H1∧u= .tuple #[v,I e]∧RI H1 v mq∧Np s l r m mq e∧St H1 w' σ:=by
 obtain ⟨s',l',a,b,c,d,t,n,lg,ms,mr⟩:=z;obtain ⟨rfl,rfl,g,gl,hr,Ni,LL,Rp,hB⟩:=h;dsimp only at g gl hr Ni LL Rp;obtain ⟨wW,wT,rfl⟩:=hr.shape;obtain ⟨J4,J0,rfl⟩:=Ni.shape;obtain ⟨Qx,Qs,rfl⟩:=RI.shape LL;obtain ⟨aU,hl,BX,hm,pV,r9⟩:=hB.ok';have hn:=BX.many;have Rr:=sR m r r.length;refine Cl.o func80 ntmps80 ag1 ?_;refine .af (.bx hs fun b1 w hs=>?_);refine .z zg (.zn zg (.af (.zn zg (.seq (.af (.z (zfa lQ) (.y hs (zld gC) (.z (dk aV) (.zn zm (.for (N:=r.length) (J:=fun k fr w=>∃H1 vo mq en,fr=[(4,vo),(11,.slice wW r.length wT),(1,Pt b1)]∧HLe H H1∧mq.length=k∧(∀i<k,∃lo hi,ow s' (gi ks i).toNat (lg0 r i).dlo (lg0 r i).dhi lo hi 0∧gi mq i=Kt (tc m r i) lo hi)∧(0<k→s'.sys.Sound)∧dj 1 vo (Is mq) en∧St H1 w (en:: .blk b1 (RtV.cs ⟨s',l',a,b,c,d,t,n,.slice wW r.length wT,.slice J4 (msL m r r.length).length J0,.slice Qx ks.length Qs⟩)::σ)) ai ?_ ?_ ?_))))))))))
 ·exact .mk ⟨H,_,[],.nul,rfl,HLe.refl _,rfl,fun i hi=>by omega,fun h=>by omega,.nil 1 none,hs.nul⟩
 ·rintro k fr w hk ⟨H1,vo,mq,en,rfl,az,Hf,has,uN,hO,hs⟩;have hx:=qe (l:=r) hk;have Ef:=Lf m r (k:=r.length) (i:=k) ai;have A4:=(BX.leg k hk).1.dense;obtain ⟨q,hq,JE⟩:=hB.mark hk;obtain ⟨ao,lo',co,rfl,xH⟩:=hO.shape;refine .block (.af (.z zm (.ixX (enc:=Lg.c) hs (hr.mono az) rfl rfl aV bg hx dp ?_)));intro nD o16 dY;refine .q hs (cj (vs:=(Lg.c (lg0 r k))) rfl ep bg dY) (.o (.alloc hs fg rfl fun b6 w hs=>?_));refine .z zg (.o (.aJ (vs:=(lg0 r k).c) hs rfl rfl bg fun w hs=>?_));change St _ _ (.blk b6 (lgC (lg0 r k))::_) at hs;refine .nil (.cut (fun fs w=>∃H2 lo hi e b7,lr fs ⟨60,[],[(8,I e),(7,Pt b7),(6,Pt b6),(5,I (k:Int)),(4,.slice ao lo' co),(1,Pt b1),(11,.slice wW r.length wT),(13,I (k:Int)),(12,I (r.length:Int))]⟩∧HLe H1 H2∧ow s' q (lg0 r k).dlo (lg0 r k).dhi lo hi e∧St H2 w (.blk b7 [I lo,I hi]:: .blk b6 (lgC (lg0 r k))::en:: .blk b1 (RtV.cs ⟨s',l',a,b,c,d,t,n,.slice wW r.length wT,.slice J4 (msL m r r.length).length J0,.slice Qx ks.length Qs⟩)::σ)) ?_ ?_)
  ·refine .draw mix rfl hs fun w hs=>?_
   refine .zw 0 rfl (zfa nW) ?_;refine .ys 1 rfl hs [_,_,_,_,_,_,_,_] bn aK ?_;refine .z 2 rfl (zfa j9) ?_;refine .y 3 rfl hs an ?_;refine .z 4 rfl zm ?_;refine .ixX (enc:=fun x=>[I x]) (i:=5) hs rfl aD .none (LL.mono az) rfl rfl ae ak (bG (l:=ks) (i:=k) ai) rfl ?_;intro uQ o24 jw;replace jw:=bJ.one jw;refine .y 6 rfl hs aj ?_;refine .z 7 rfl (zfa fA) ?_;refine .ys 8 rfl hs [_,_] cE aH ?_;refine .e2 (i:=9) (j:=13) aD rfl rfl rfl rfl .none .none hs ?_ ?_
   ·rw [hq];refine .call call88 rfl (fC (s:=s') hs (g.mono az) aU A4) ?_;rintro _ w ⟨H2,lo,hi,e,bp,rfl,hS,hs⟩;refine .go (.zw 10 rfl zm ?_);refine .z 11 rfl zex ?_;refine .z 12 rfl zex ?_;refine .E 13 hs ?_;refine .alloc hs dy rfl ?_;intro b7 w hs;refine .go (.E 14 hs ?_);refine .aJ (vs:=[_,_]) hs rfl rfl aH ?_;intro w hs;refine .go (.zw 15 rfl zg ?_);refine .D hs ?_;exact nT ⟨H2,lo,hi,e,b7,aM,bp,hS,hs.sb⟩
   ·refine .alloc hs dy rfl ?_;intro b7 w hs;refine .go (.E 9 hs ?_);rw [hq];refine .call call88 rfl (fC (s:=s') hs (g.mono az) aU A4) ?_;rintro _ w ⟨H2,lo,hi,e,bp,rfl,hS,hs⟩;refine .go (.zw 10 rfl zm ?_);refine .z 11 rfl zex ?_;refine .z 12 rfl zex ?_;refine .E 14 hs ?_;refine .aJ (vs:=[_,_]) hs rfl rfl aH ?_;intro w hs;refine .go (.zw 15 rfl zg ?_);refine .D hs ?_;exact nT ⟨H2,lo,hi,e,b7,aM,bp,hS,hs.sb⟩
  ·rintro fs w ⟨H2,lo,hi,e,b7,gP,bp,hS,hs⟩;refine WE.sub ?_ gP;clear gP;have dO:=az.trans bp;refine .seq (.af (.z zm (.zn fU (.dK rfl (fun B6=>?_) (fun B6=>?_)))))
   ·exact .af (.z zm (.z zg (.zn zg (.ret (rT (rB (rT (rB (rT (Fin.iz results80 rfl rfl ⟨H2,_,[],_,dO,rfl,RS.nil H2 1 none 0,by rcases hS.err aU JE with h|h;exact (B6 h.1).elim;rw [h.1];exact .fls hB h.2.1,hs.out⟩))))))))))
   ·refine .skip (nT (.af (.zn zg (.cut (fun fs w=>∃x,lr fs ⟨60,[],[(9,I x),(4,.slice ao lo' co),(1,Pt b1),(11,.slice wW r.length wT),(13,I (k:Int)),(12,I (r.length:Int))]⟩∧x=Kt (tc m r k) lo hi∧St H2 w (.blk b7 [I lo,I hi]:: .blk b6 (lgC (lg0 r k))::en:: .blk b1 (RtV.cs ⟨s',l',a,b,c,d,t,n,.slice wW r.length wT,.slice J4 (msL m r r.length).length J0,.slice Qx ks.length Qs⟩)::σ)) ?_ ?_))))
    ·refine .block (.seq (.draw mix rfl hs fun w hs=>?_));refine .zw 0 rfl (zfa nV) ?_;refine .y 1 rfl hs isAgg80 ?_;refine .z 2 rfl zm ?_;refine .ixX (enc:=Rng.c) (i:=3) hs rfl aD .none (RS.mono Ni dO) rfl rfl kj aH Ef rfl ?_;intro b38 o38 A6;refine .zw 4 rfl (zfa cP) (.r (i:=5) hs rfl aD .none (aF rfl aj (A6.get 1 rfl)) ?_);refine .zw 6 rfl (zfa bH) ?_;refine .y 7 rfl hs aj ?_;refine .z 8 rfl pc ?_;refine .z 9 rfl zg ?_;refine .D hs ?_;refine (.bA rfl (fun kJ=>?_) (fun kJ=>?_))
     ·exact .region (.zn zg (nB (nT ⟨_,aM,by unfold Kt;simp [*],hs⟩)))
     ·refine .seq (.draw mix rfl hs fun w hs=>?_);refine .zw 0 rfl (zfa nV) ?_;refine .y 1 rfl hs isAgg80 ?_;refine .z 2 rfl zm ?_;refine .ixX (enc:=Rng.c) (i:=3) hs rfl aD .none (RS.mono Ni dO) rfl rfl kj aH Ef rfl ?_;intro b48 o48 nP;refine .zw 4 rfl (zfa bH) (.r (i:=5) hs rfl aD .none (aF rfl aj (nP.get 0 rfl)) ?_);refine .zw 6 rfl (zfa cP) ?_;refine .y 7 rfl hs aj ?_;refine .z 8 rfl ld ?_;refine .z 9 rfl zg ?_;refine .D hs ?_;refine (.bA rfl (fun B4=>?_) (fun B4=>?_))
      ·exact .region (.zn zg (nB (nT ⟨_,aM,by unfold Kt;simp [*],hs⟩)))
      ·exact .skip (nB (nT ⟨_,aM,by unfold Kt;simp [*],hs⟩))
    ·rintro fs w ⟨x,gP,hx9,hs⟩;refine WE.sub ?_ gP;clear gP;refine .region (.z zm (.z zm (.o (.buildSlice (cells:=Is [x]) hs dw rfl aD fun ab3 w hs=>?_))));refine .o (.append (ys:=Is [x]) hs df rfl rfl hO (.own .here rfl rfl) (ki _) (fun l h=>by simp [Is] at h;omega) ?_);intro v57 en57 w eG hs;rw [←List.map_append] at eG;refine .zn zg (nB (nT ?_));obtain rfl:e=0:=by omega
     exact .mk ⟨H2,_,mq++[x],_,rfl,dO,by simp [Hf],fun i hi=>by
      by_cases e:i=k
      ·subst e;exact ⟨_,_,by rw [hq,Int.toNat_natCast];exact hS,by rw [sd,if_neg ai,if_pos ai];exact hx9⟩
      ·rw [sd,if_pos ai];exact has i ai,fun _=>(hS.err aU JE).elim (fun h=>h.2) (fun h=>by omega),eG,hs.sb⟩
 ·rintro fr w ⟨H1,vo,mq,en,rfl,az,Hf,has,uN,hO,hs⟩;obtain ⟨H4,gj,Vb,hs⟩:=hO.eI ai hs .here;exact nT (.af (.z zm (.z zg (.zn zg (.ret (Fin.iz results80 rfl rfl ⟨H4,_,_,_,az.trans gj,rfl,Vb,.ok hB (uN ai) Hf has,hs.out⟩))))))
theorem rV{w:World}{s:Srv}{r:List Lg}{m:Rng}{a b c d:Value}(hs:St H w σ)(g:SvM H s a b c d)(gl:LnM H l vt vs)(pW:RLg H gZ r):
  ab8 79 [svA s a b c d,lnA l vt vs,.agg #[gZ],.agg #[I m.lo,I m.hi]] w fun u w'=>∃(H1:cK) (z:RtV) (ks:List Int) (e:Int),HLe H H1∧u= .tuple #[z.agg,I e]∧z.cs.all Value.oneCell'=true∧yg s l r m ks e∧(e=0→RtM H1 s l r m ks z)∧St H1 w' σ:=by
 refine (AS hs g gl pW).mono ?_;rintro u w' ⟨H1,z,ks,e,hle,hu,ho,hB,h0,hs⟩;exact ⟨H1,z,ks,e,hle,hu,ho,hB,fun he=>by
  obtain ⟨vms,vmk,rfl,h1,h2⟩:=h0 he;subst he;exact ⟨rfl,rfl,g.mono hle,gl.mono hle,pW.mono hle,h1,h2,ho,hB⟩,hs⟩
theorem xC{w:World}{s:Srv}{r:List Lg}{m:Rng}{a b c d:Value}(hs:St H w σ)(g:SvM H s a b c d)(gl:LnM H l vt vs)(pW:RLg H gZ r):
  ab8 24 [svA s a b c d,lnA l vt vs,.agg #[gZ],.agg #[I m.lo,I m.hi]] w fun u w'=>∃H1 v mq e,HLe H H1∧u= .tuple #[v,I e]∧RI H1 v mq∧Np s l r m mq e∧St H1 w' σ:=by
 refine Cl.o func24 ntmps24 ag4 ?_;refine .af (.bx hs fun b4 w hs=>?_);refine .bx hs fun b5 w hs=>?_
 refine .bx hs fun b6 w hs=>?_
 refine .bx hs fun b7 w hs=>?_
 refine .z zg (.zn zg (.af (.y hs (zls [_,_,_,_,_,_,_,_] bn aK) (.y hs (zls [_,_,_,_] ck bw) (.y hs (zls [_] iX dG) (.y hs (zls [_,_] cE aH) (.o (.call call79 rfl (rV (s:=s) (l:=l) (m:=m) hs g gl pW) ?_))))))));rintro _ w ⟨H1,z,ks,e,az,rfl,ho,hB,h0,hs⟩;refine .z zm (.z zex (.z zex (.o (.alloc hs w5 rfl fun pb w hs=>?_))));refine .o (.aJ (vs:=z.cs) hs rfl rfl fQ ?_ (hv:=ho));intro w hs;refine .zn zg (.seq (.af (.z zm (.zn fU (.dK rfl (fun jx=>?_) (fun jx=>?_))))))
 ·exact .af (.z zm (.z zg (.zn zg (.ret (rT (Fin.iz results24 rfl rfl ⟨H1,_,[],_,az,rfl,RS.nil H1 1 none 0,.bad hB jx,hs.out⟩))))))
 ·refine .skip (nT (.af (.y hs (zls [_,_,_,_,_,_,_,_,_,_,_,_,_,_,_] HQ fQ) ?_)));obtain rfl:e=0:=by omega
  refine .o (.call call80 rfl (xz hs (h0 rfl)) ?_);rintro _ w ⟨H2,v,mq,e,bp,rfl,hR,hA,hs⟩;exact .z zex (.z zex (.z zg (.zn zg (.ret (Fin.iz results24 rfl rfl ⟨H2,_,_,_,az.trans bp,rfl,hR,hA,hs.out⟩)))))
theorem y0{w:World}{v:Value}{mq:List Int}(hs:St H w σ)(hr:RI H v mq):ab8 86 [v] w fun u w'=>u=I (GR mq)∧St H w' σ:=by
 obtain ⟨a,c,rfl⟩:=RI.shape hr;have hl:=(RI.len hr).2.2;refine Cl.o func86 ntmps86 ag1 ?_;refine .af (.zn zg (.af (.zn zg (.seq (.af (.z zm (.z (dk ae) (.zn zm (.for (N:=mq.length) (J:=fun k fr w=>fr=[(3,I (if (2:Int)∈mq.take k then 2 else 1)),(6,.slice a mq.length c)]∧(∀i<k,gi mq i≠0)∧St H w σ) ai ?_ ?_ ?_)))))))))
 ·exact .mk ⟨rfl,fun i hi=>by omega,hs⟩
 ·rintro k fr w hk ⟨rfl,fa,hs⟩;have ht:=dX (bG hk);refine .block (.af (.ixY hs hr rfl rfl ae ak (bG (l:=mq) (i:=k) ai) dp ?_));intro pb o10 mB;refine .q hs (aF rfl aj mB) (.zn zg (.af (.zn zm (.block (.af (.z fJ (.zn zg (.bA rfl (fun iq=>?_) (fun iq=>?_)))))))))
  ·exact .af (.zn zg (.ret (rB (rB (rT (rB (rT (Fin.bu results86 rfl ⟨by unfold GR;rw [if_pos (by rw [←iq];exact List.mem_of_getElem? (bG hk))],hs⟩))))))))
  ·refine .af (.z fJ (.zn zg (.bA rfl (fun fq=>?_) (fun fq=>?_))))
   ·refine .region (.zn zg (nB (nB (nT ?_))));exact .mk ⟨by rw [ht,if_pos (List.mem_append.2 (.inr (by rw [fq];exact .head _)))],fun i hi=>by
     by_cases e:i=k
     ·subst e;exact iq
     ·exact fa i ai,hs⟩
   ·refine .skip (nB (nB (nT ?_)));have e2:(if (2:Int)∈mq.take (k+1) then (2:Int) else 1)=if (2:Int)∈mq.take k then 2 else 1:=by
     have e:(2:Int)∈mq.take (k+1)↔(2:Int)∈mq.take k:=by
      rw [ht,List.mem_append];exact ⟨fun h=>h.elim id fun h=>by rw [List.mem_singleton] at h;exact (fq h.symm).elim,.inl⟩
     simp only [e]
    exact .mk ⟨by rw [e2],fun i hi=>by
     by_cases e:i=k
     ·subst e;exact iq
     ·exact fa i ai,hs⟩
 ·rintro fr w ⟨rfl,fa,hs⟩;rw [List.take_length];refine nT (.af (.z zm (.zn zg (.ret (Fin.bu results86 rfl ?_)))));have h0:¬(0:Int)∈mq:=fun h=>by
   obtain ⟨i,hi⟩:=List.getElem?_of_mem h;have fD:=(List.getElem?_eq_some_iff.1 hi).1;rw [bG fD] at hi;exact fa i fD (Option.some.inj hi)
  exact ⟨by unfold GR;rw [if_neg h0],hs⟩
theorem rW{w:World}{s:Srv}{r:List Lg}{m:Rng}{a b c d:Value}(hs:St H w σ)(g:SvM H s a b c d)(gl:LnM H l vt vs)(pW:RLg H gZ r):
  ab8 26 [svA s a b c d,lnA l vt vs,.agg #[gZ],.agg #[I m.lo,I m.hi]] w fun u w'=>∃H1 n e,HLe H H1∧u= .tuple #[I n,I e]∧SJ s l r m n e∧St H1 w' σ:=by
 refine Cl.o func26 ntmps26 ag4 ?_;refine .af (.bx hs fun b4 w hs=>?_);refine .bx hs fun b5 w hs=>?_
 refine .bx hs fun b6 w hs=>?_
 refine .bx hs fun b7 w hs=>?_
 refine .z zg (.zn zg (.af (.y hs (zls [_,_,_,_,_,_,_,_] bn aK) (.y hs (zls [_,_,_,_] ck bw) (.y hs (zls [_] iX dG) (.y hs (zls [_,_] cE aH) (.o (.call call24 rfl (xC (s:=s) (l:=l) (m:=m) hs g gl pW) ?_))))))));rintro _ w ⟨H1,v,mq,e,az,rfl,hR,hA,hs⟩;refine .z zm (.z zex (.z zex (.z zg (.zn zg (.seq (.af (.z zm (.zn fU (.dK rfl (fun jx=>?_) (fun jx=>?_))))))))))
 ·exact .af (.z zm (.z zg (.zn zg (.ret (rT (Fin.iz results26 rfl rfl ⟨H1,_,_,az,rfl,.bad hA jx,hs.out⟩))))))
 ·refine .skip (nT (.af (.z zm ?_)));obtain rfl:e=0:=by omega
  refine .o (.call call86 rfl (y0 hs hR) ?_);rintro _ w ⟨rfl,hs⟩;exact .z zg (.zn zg (.ret (Fin.iz results26 rfl rfl ⟨H1,_,_,az,rfl,.ok hA,hs.out⟩)))
set_option maxHeartbeats 1000000 in
theorem BV{w:World}{s:Srv}{r:List Lg}{a b c d:Value}(hs:St H w σ)(g:SvM H s a b c d)(gl:LnM H l vt vs)(pW:RLg H gZ r):
  ab8 28 [svA s a b c d,lnA l vt vs,.agg #[gZ]] w fun u w'=>∃H1 n e,HLe H H1∧u= .tuple #[I n,I e]∧D9 s l r n e∧St H1 w' σ:=by
 refine Cl.o func28 ntmps28 ag3 ?_;refine .af (.bx hs fun b3 w hs=>?_);refine .bx hs fun b4 w hs=>?_
 refine .bx hs fun b5 w hs=>?_
 refine .z zg (.zn zg (.af (.y hs (zls [_,_,_,_,_,_,_,_] bn aK) (.y hs (zls [_,_,_,_] ck bw) (.y hs (zls [_] iX dG) (.z (zbd [I 0,I 0] bL) (.o (.call call79 rfl (rV (s:=s) (l:=l) (m:=⟨0,0⟩) hs g gl pW) ?_))))))));rintro _ w ⟨H1,z,ks,e,az,rfl,ho,hB,h0,hs⟩;refine .z zm (.z zex (.z zex (.o (.alloc hs w5 rfl fun b8 w hs=>?_))));refine .o (.aJ (vs:=z.cs) hs rfl rfl fQ ?_ (hv:=ho));intro w hs;refine .zn zg (.seq (.af (.z zm (.zn fU (.dK rfl (fun gv=>?_) (fun gv=>?_))))))
 ·exact .af (.z zm (.z zg (.zn zg (.ret (rT (Fin.iz results28 rfl rfl ⟨H1,_,_,az,rfl,.bad hB gv,hs.out⟩))))))
 ·refine .skip (nT (.af (.z zg (.zn zg (.seq (.af ?_))))));obtain rfl:e=0:=by omega
  obtain ⟨s',l',a',b',c',d',t',n',lg',ms',mr'⟩:=z;obtain ⟨rfl,rfl,-,-,IA,Ni,LL,Rp,-⟩:=h0 rfl;dsimp only at IA Ni LL;obtain ⟨wW,wT,rfl⟩:=IA.shape;obtain ⟨Qx,Qs,rfl⟩:=RI.shape LL;obtain ⟨aU,hl,BX,hm,pV,r9⟩:=hB.ok';have hn:=BX.many;refine .z (zfa lQ) (.y hs (zld gC) (.z (dk aV) (.zn zm (.for (N:=r.length) (J:=fun k fr w=>∃H2 dd mK,fr=[(10,I mK),(11,I (a8 (fun i=>(lg0 r i).blo) k)),(28,.slice wW r.length wT),(8,Pt b8),(3,Pt b3)]∧HLe H1 H2∧(∀i<k,∃hi,ow s' (gi ks i).toNat (lg0 r i).dlo (lg0 r i).dhi (dd i) hi 0)∧Tl dd (fun i=>(lg0 r i).blo) k mK∧((-300000000≤mK∧mK≤1000000000000)∧0≤a8 (fun i=>(lg0 r i).blo) k∧a8 (fun i=>(lg0 r i).blo) k≤k*1000000000000)∧(0<k→s'.sys.Sound)∧St H2 w (.blk b8 (RtV.cs ⟨s',l',a',b',c',d',t',n',.slice wW r.length wT,ms',.slice Qx ks.length Qs⟩):: .blk b3 (svC s' a b c d)::σ)) ai ?_ ?_ ?_))))
  ·exact .mk ⟨H1,fun _=>0,1000000000000,rfl,HLe.refl _,fun i hi=>by omega,.inl ⟨fun i hi=>by omega,rfl⟩,by simp [a8],fun h=>by omega,hs.sb⟩
  ·rintro k fr w hk ⟨H2,dd,mK,rfl,bp,Wu,WA,zR,uN,hs⟩;have hx:=qe (l:=r) hk;have A4:=(BX.leg k hk).1.dense;have Wy:=(BX.leg k hk).1.burn;unfold kz at Wy;obtain ⟨q,hq,JE⟩:=hB.mark hk;have aaN:a8 (fun i=>(lg0 r i).blo) (k+1)=a8 (fun i=>(lg0 r i).blo) k+(lg0 r k).blo:=rfl;generalize hSe:a8 (fun i=>(lg0 r i).blo) k=S at*;refine .block (.af (.z zm (.ixX (enc:=Lg.c) hs (IA.mono bp) rfl rfl aV bg hx dp ?_)));intro WT o33 nQ;refine .q hs (cj (vs:=(Lg.c (lg0 r k))) rfl ep bg nQ) (.o (.alloc hs fg rfl fun nm w hs=>?_));refine .z zg (.o (.aJ (vs:=(lg0 r k).c) hs rfl rfl bg fun w hs=>?_));change St _ _ (.blk nm (lgC (lg0 r k))::_) at hs;refine .nil (.cut (fun fs w=>∃H3 lo hi e sF,lr fs ⟨68,[],[(15,I e),(14,Pt sF),(13,Pt nm),(10,I mK),(11,I S),(28,.slice wW r.length wT),(8,Pt b8),(3,Pt b3),(30,I (k:Int)),(29,I (r.length:Int))]⟩∧HLe H2 H3∧ow s' q (lg0 r k).dlo (lg0 r k).dhi lo hi e∧St H3 w (.blk sF [I lo,I hi]:: .blk nm (lgC (lg0 r k)):: .blk b8 (RtV.cs ⟨s',l',a',b',c',d',t',n',.slice wW r.length wT,ms',.slice Qx ks.length Qs⟩):: .blk b3 (svC s' a b c d)::σ)) ?_ ?_)
   ·refine .draw mix rfl hs fun w hs=>?_
    refine .ys 0 rfl hs [_,_,_,_,_,_,_,_] bn aK ?_;refine .z 1 rfl (zfa j9) ?_;refine .y 2 rfl hs an ?_;refine .z 3 rfl zm ?_;refine .ixX (enc:=fun x=>[I x]) (i:=4) hs rfl aD .none (RS.mono LL bp) rfl rfl ae ak (bG (l:=ks) (i:=k) ai) rfl ?_;intro VJ o40 pK;replace pK:=bJ.one pK;refine .y 5 rfl hs aj ?_;refine .z 6 rfl (zfa fA) ?_;refine .ys 7 rfl hs [_,_] cE aH ?_;refine .e2 (i:=8) (j:=12) aD rfl rfl rfl rfl .none .none hs ?_ ?_
    ·rw [hq];refine .call call88 rfl (fC (s:=s') hs (g.mono (az.trans bp)) aU A4) ?_;rintro _ w ⟨H3,lo,hi,e,cZ,rfl,hS,hs⟩;refine .go (.zw 9 rfl zm ?_);refine .z 10 rfl zex ?_;refine .z 11 rfl zex ?_;refine .E 12 hs ?_;refine .alloc hs dy rfl ?_;intro sF w hs;refine .go (.E 13 hs ?_);refine .aJ (vs:=[_,_]) hs rfl rfl aH ?_;intro w hs;refine .go (.zw 14 rfl zg ?_);refine .D hs ?_;exact nT ⟨H3,lo,hi,e,sF,aM,cZ,hS,hs.sb⟩
    ·refine .alloc hs dy rfl ?_;intro sF w hs;refine .go (.E 8 hs ?_);rw [hq];refine .call call88 rfl (fC (s:=s') hs (g.mono (az.trans bp)) aU A4) ?_;rintro _ w ⟨H3,lo,hi,e,cZ,rfl,hS,hs⟩;refine .go (.zw 9 rfl zm ?_);refine .z 10 rfl zex ?_;refine .z 11 rfl zex ?_;refine .E 13 hs ?_;refine .aJ (vs:=[_,_]) hs rfl rfl aH ?_;intro w hs;refine .go (.zw 14 rfl zg ?_);refine .D hs ?_;exact nT ⟨H3,lo,hi,e,sF,aM,cZ,hS,hs.sb⟩
   ·rintro fs w ⟨H3,lo,hi,e,sF,gP,cZ,hS,hs⟩;refine WE.sub ?_ gP;clear gP;have gK:=az.trans (bp.trans cZ);have hSb:=hS.bd A4;refine .seq (.af (.z zm (.zn fU (.dK rfl (fun nP=>?_) (fun nP=>?_)))))
    ·exact .af (.z zm (.z zg (.zn zg (.ret (rT (rB (rT (rB (rT (Fin.iz results28 rfl rfl ⟨H3,_,_,gK,rfl,by rcases hS.err aU JE with h|h;exact (nP h.1).elim;rw [h.1];exact .fls hB h.2.1,hs.out⟩))))))))))
    ·refine .skip (nT (.seq (.af (.z (zfa bH) ?_))));obtain rfl:e=0:=by omega
     have SW:∀i<k+1,∃hi,ow s' (gi ks i).toNat (lg0 r i).dlo (lg0 r i).dhi (NB dd k lo i) hi 0:=fun i hi=>by
      by_cases e:i=k
      ·subst e;rw [C8,hq,Int.toNat_natCast];exact ⟨_,hS⟩
      ·rw [C7 _ _ ai];exact Wu i ai
     have OB:s'.sys.Sound:=(hS.err aU JE).elim (fun h=>h.2) (fun h=>by omega);refine .y hs (zld aj) (.zn gV (.bA rfl (fun Fp=>?_) (fun Fp=>?_)))
     ·exact .region (.zn zg (nT (.af (.z zm (.z (zfa bH) (.y hs (zld aj) (.z zm (.z cV (.z EE (.zn zg (.region (.z zm (.z (zfa iM) (.z (zfa bH) (.y hs (zld aj) (.z cV (.zn zg (nB (nT (.mk ⟨H3,NB dd k lo,min (-1) (lo+S),by rw [aaN],bp.trans cZ,SW,.neg Fp,ai,fun _=>OB,hs.sb⟩))))))))))))))))))))
     ·exact .skip (nT (.af (.z zm (.z (zfa bH) (.y hs (zld aj) (.z zm (.z cV (.z EE (.zn zg (.region (.z zm (.z (zfa iM) (.z (zfa bH) (.y hs (zld aj) (.z cV (.zn zg (nB (nT (.mk ⟨H3,NB dd k lo,min mK (lo+S),by rw [aaN],bp.trans cZ,SW,by rw [←hSe];exact WA.pos ai,ai,fun _=>OB,hs.sb⟩)))))))))))))))))))
  ·rintro fr w ⟨H2,dd,mK,rfl,bp,Wu,WA,zR,uN,hs⟩;refine nT (.seq (.af (.z zm (.zn gV (.bA rfl (fun sa=>?_) (fun sa=>?_))))))
   ·refine .af (.z zg (.zn zg (.ret (rT (Fin.iz results28 rfl rfl ?_)))))
    rcases WA with ⟨h1,h2⟩|⟨⟨i,h1,h3⟩,h2⟩
    ·exfalso;have key:∀n,n≤r.length→0≤Ak dd (fun i=>(lg0 r i).blo) n:=fun n=>by
      induction n with
      |zero=>intro _;simp [Ak]
      |succ n ih=>
       intro hn;have:=ih ai;have:=h1 n ai;have:0≤a8 (fun i=>(lg0 r i).blo) n:=dB fun i hi=>(BX.leg i ai).1.burn.1
       simp only [Ak];omega
     have:=key _ (Nat.le_refl _);omega
    ·obtain ⟨hi,hS⟩:=Wu i h1;exact ⟨H2,_,_,az.trans bp,rfl,.none hB (uN ai) h1 hS h3,hs.out⟩
   ·refine .skip (nT (.af (.z zm (.z zg (.zn zg (.ret (Fin.iz results28 rfl rfl ?_)))))))
    rcases WA with ⟨h1,h2⟩|⟨_,h2⟩
    ·rw [h2];exact ⟨H2,_,_,az.trans bp,rfl,.ok hB (uN ai) fun i hi=>⟨Wu i hi,h1 i hi⟩,hs.out⟩
    ·omega
set_option maxHeartbeats 1000000 in
theorem te{w:World}{s:Srv}{r:List Lg}{m:Rng}{x:Wit}{a b c d:Value}(hs:St H w σ)(g:SvM H s a b c d)(gl:LnM H l vt vs)(pW:RLg H gZ r)(gh:RT H vh x.rows):
  ab8 32 [svA s a b c d,lnA l vt vs,.agg #[gZ],.agg #[I m.lo,I m.hi],.agg #[I x.leg,I x.dense,I x.mass,vh]] w fun u w'=>∃H1 e,HLe H H1∧u=I e∧Qz s l r m x e∧St H1 w' σ:=by
 refine Cl.o func32 ntmps32 ag5 ?_;refine .af (.bx hs fun b5 w hs=>?_);refine .bx hs fun b6 w hs=>?_
 refine .bx hs fun b7 w hs=>?_
 refine .bx hs fun b8 w hs=>?_
 refine .bx hs fun b9 w hs=>?_
 refine .zn zg (.af (.y hs (zls [_,_,_,_,_,_,_,_] bn aK) (.y hs (zls [_,_,_,_] ck bw) (.y hs (zls [_] iX dG) (.y hs (zls [_,_] cE aH) (.o (.call call79 rfl (rV (s:=s) (l:=l) (m:=m) hs g gl pW) ?_)))))));rintro _ w ⟨H1,z,ks,e,az,rfl,ho,hB,h0,hs⟩;refine .z zm (.z zex (.z zex (.o (.alloc hs w5 rfl fun yE w hs=>?_))));refine .o (.aJ (vs:=z.cs) hs rfl rfl fQ ?_ (hv:=ho));intro w hs;refine .zn zg (.seq (.af (.z zm (.zn fU (.dK rfl (fun jm=>?_) (fun jm=>?_))))))
 ·exact .af (.z zm (.zn zg (.ret (rT (Fin.bu Kc rfl ⟨H1,_,az,rfl,.bad hB jm,hs.out⟩)))))
 ·refine .skip (nT (.seq (.af ?_)));obtain rfl:e=0:=by omega
  obtain ⟨s',l',a',b',c',d',t',n',lg',ms',mr'⟩:=z;obtain ⟨rfl,rfl,g',-,IA,Ni,LL,Rp,-⟩:=h0 rfl;dsimp only at g' IA Ni LL;obtain ⟨wW,wT,rfl⟩:=IA.shape;obtain ⟨J4,J0,rfl⟩:=Ni.shape;obtain ⟨Qx,Qs,rfl⟩:=RI.shape LL;obtain ⟨aU,hl,BX,hm,pV,r9⟩:=hB.ok';have hn:=BX.many;have Rr:=sR m r r.length;replace gh:=gh.mono az;refine .z (zfa kP) (.y hs (zld aj) (.z (zfa lQ) (.y hs (zld gC) (.z (dk aV) (.z gE (.o (.call lY rfl (cN hs) ?_)))))));rintro _ w ⟨rfl,hs⟩;refine .z fE (.z zm (.bif (t':=36) rfl (fun Mq=>?_) (fun Mq=>?_)))
  ·exact .Fs 5 8 false (.zn zpT (.cT (.af (.zn zg (.ret (rT (Fin.bu Kc rfl ⟨H1,_,az,rfl,.no hB (fun h=>by have:=h.leg;simp_all),hs.out⟩)))))))
  ·refine .T (.y hs (zls [_,_,_,_,_,_,_,_] bn aK) (.T (.z (zfa qN) (.T (.y hs (zls [_] isAgg64 sizeOf64) (.T (.o (.call call65 rfl (q5 (s:=s') (rows:=x.rows) hs (g.mono az).st (g.mono az).wa (g.mono az).rd (g.mono az).cm gh) ?_))))))));rintro _ w ⟨H2,e,bp,rfl,Zx,hs⟩;have dO:=az.trans bp;refine .T (.z fU (.zn zpF (.dK rfl (fun Fq=>?_) (fun Fq=>?_))))
   ·exact .af (.zn zg (.ret (rT (Fin.bu Kc rfl ⟨H2,_,dO,rfl,.no hB (fun h=>Fq (Zx.uniq h.hull)),hs.out⟩))))
   ·refine .skip (nT (.cut (fun fs w=>∃nm sF,lr fs ⟨101,[],[(14,Pt sF),(13,Pt nm),(11,Pt yE),(9,Pt b9)]⟩∧St H2 w (.blk sF (tc m r x.leg.toNat).c:: .blk nm (lg0 r x.leg.toNat).c:: .blk yE (RtV.cs ⟨s',l',a',b',c',d',t',n',.slice wW r.length wT,.slice J4 (msL m r r.length).length J0,.slice Qx ks.length Qs⟩):: .blk b9 [I x.leg,I x.dense,I x.mass,vh]::σ)) ?_ ?_))
    ·refine .draw mix rfl hs fun w hs=>?_
     have Ut:0≤x.leg∧x.leg≤(r.length:Int) - 1:=by simpa using Mq
     obtain rfl:e=0:=by omega
     have fD:x.leg.toNat<r.length:=by omega
     have yv:=qe (l:=r) fD;have Ef:=Lf m r (k:=r.length) (i:=x.leg.toNat) ai;refine .zw 0 rfl (zfa lQ) ?_;refine .y 1 rfl hs gC ?_;refine .z 2 rfl (zfa kP) ?_;refine .y 3 rfl hs aj ?_;refine .ixX (enc:=Lg.c) (i:=4) hs rfl aD .none (RS.mono IA bp) rfl rfl aV bg yv ai ?_;intro VF o47 oT;refine .r (i:=5) hs rfl aD .none (cj (vs:=(lg0 r x.leg.toNat).c) rfl ep bg oT) ?_;refine .zw 6 rfl (zfa nV) ?_;refine .y 7 rfl hs isAgg80 ?_;refine .z 8 rfl (zfa kP) ?_;refine .y 9 rfl hs aj ?_;refine .ixX (enc:=Rng.c) (i:=10) hs rfl aD .none (RS.mono Ni bp) rfl rfl kj aH Ef ai ?_;intro ZI o53 ux;refine .r (i:=11) hs rfl aD .none (cj (vs:=(tc m r x.leg.toNat).c) rfl cE aH ux) ?_;refine .e2 (i:=12) (j:=13) aD rfl rfl rfl rfl .none .none hs ?_ ?_
     ·refine .alloc hs fg rfl ?_;intro nm w hs;refine .go (.E 13 hs ?_);refine .alloc hs dy rfl ?_;intro sF w hs;refine .go (.E 14 hs ?_);refine .aJ (vs:=(lg0 r x.leg.toNat).c) hs rfl rfl bg ?_;intro w hs;refine .go (.E 15 hs ?_);refine .aJ (vs:=(tc m r x.leg.toNat).c) hs rfl rfl aH ?_;intro w hs;exact .go (.D hs (nT ⟨nm,sF,aM,hs.sb⟩))
     ·refine .alloc hs dy rfl ?_;intro sF w hs;refine .go (.E 12 hs ?_);refine .alloc hs fg rfl ?_;intro nm w hs;refine .go (.E 14 hs ?_);refine .aJ (vs:=(lg0 r x.leg.toNat).c) hs rfl rfl bg ?_;intro w hs;refine .go (.E 15 hs ?_);refine .aJ (vs:=(tc m r x.leg.toNat).c) hs rfl rfl aH ?_;intro w hs;exact .go (.D hs (nT ⟨nm,sF,aM,hs.sb⟩))
    ·rintro fs w ⟨nm,sF,gP,hs⟩;refine WE.sub ?_ gP;clear gP;have Ut:0≤x.leg∧x.leg≤(r.length:Int) - 1:=by simpa using Mq
     obtain rfl:e=0:=by omega
     have fD:x.leg.toNat<r.length:=by omega
     obtain ⟨q,hq,JE⟩:=hB.mark fD;have A4:=(BX.leg _ fD).1.dense;unfold gg at A4;change St _ _ (.blk sF [I (tc m r x.leg.toNat).lo,I (tc m r x.leg.toNat).hi]:: .blk nm (lgC (lg0 r x.leg.toNat))::_) at hs;refine .seq (.af (.z (zfa qP) (.y hs (zld aj) (.z (zfa fA) (.z (zfa bH) (.y hs (zld aj) (.z (zfa fA) (.z (zfa cP) (.y hs (zld aj) (.o (.call lY rfl (cN hs) ?_)))))))))));rintro _ w ⟨rfl,hs⟩;refine .z fE (.z zm (.bif (t':=65) rfl (fun JQ=>?_) (fun JQ=>?_)))
     ·exact .Fs 8 10 false (.zn zpT (.cT (.af (.zn zg (.ret (rT (Fin.bu Kc rfl ⟨H2,_,dO,rfl,.no hB (fun h=>by have:=h.dense;simp_all),hs.out⟩)))))))
     ·refine .T ?_;refine .z (zfa qO) (.T (.y hs (zld aj) (.T (.z (zfa bH) (.T (.y hs (zld aj) (.T (.z (zfa cP) (.T (.y hs (zld aj) (.T (.o (.call lY rfl (cN hs) ?_)))))))))))));rintro _ w ⟨rfl,hs⟩;refine .T (.z fE (.zn zpF (.cond rfl (fun JM=>?_) (fun JM=>?_))))
      ·exact .af (.zn zg (.ret (rT (Fin.bu Kc rfl ⟨H2,_,dO,rfl,.no hB (fun h=>by have:=h.mass;simp_all),hs.out⟩))))
      ·refine .skip (nT (.af (.zn zg (.cut (fun fs w=>∃n H3,lr fs ⟨101,[],[(15,I n),(9,Pt b9)]⟩∧HLe H H3∧HlR s' x.rows q n∧(-7000000000≤n∧n≤7000000000)∧St H3 w (.blk b9 [I x.leg,I x.dense,I x.mass,vh]::σ)) ?_ ?_))))
       ·refine .af (.z (zfa j9) (.y hs (zld an) (.z (zfa kP) (.y hs (zld aj) (.ixX (enc:=fun x=>[I x]) hs (RS.mono LL bp) rfl rfl ae ak (bG (l:=ks) (i:=x.leg.toNat) ai) ai ?_)))));intro b79 o79 vY;replace vY:=bJ.one vY;rw [hq] at vY;refine .y hs (zld aj) (.zn zg (.af (.z zm (.zn ld (.bA rfl (fun UG=>?_) (fun UG=>?_))))))
        ·refine .draw mix rfl hs fun w hs=>?_
         refine .zw 0 rfl (zfa nW) ?_;refine .z 1 rfl (zfa a6) ?_;refine .ys 2 rfl hs [_,_,_,_,_,_] bY bq ?_;refine .z 3 rfl (zfa qN) ?_;refine .ys 4 rfl hs [_] isAgg64 sizeOf64 ?_;refine .z 5 rfl zm ?_;refine .E 6 hs ?_;refine .call call98 rfl (jR hs) ?_;rintro _ w ⟨rfl,hs⟩;refine .go (.E 7 hs ?_);refine .call call64 rfl (vC (s:=s'.sp) (rows:=x.rows) (q:=⟨1,0,q⟩) hs (g'.mono bp).st (g'.mono bp).wa (gh.mono bp)) ?_;rintro _ w ⟨H3,n,f,cZ,rfl,hV,hs⟩;refine .go (.zw 8 rfl zm ?_);refine .z 9 rfl zex ?_;refine .z 10 rfl zex ?_;refine .z 11 rfl zg ?_;refine .D hs ?_;refine nT ?_;obtain rfl:f=0:=by
          have hhl:=Zx.T1
          cases hV with
          |space h=>exact (h aU.early.1).elim
          |hull _ h=>exact (h hhl).elim
          |what _ _ h=>exact (h (Dq (v:=s') ai JE)).elim
          |ok=>rfl
         exact ⟨n,H3,aM,dO.trans cZ,.up ai hV,hV.bd rfl,hs.sb⟩
        ·exact .skip (nT ⟨0,H2,aM,dO,.zero ai,ai,hs.sb⟩)
       ·rintro fs w ⟨n,H3,gP,gK,abS,aaW,hs⟩;refine WE.sub ?_ gP;clear gP;have hdw:(lg0 r x.leg.toNat).dlo≤x.dense∧x.dense≤(lg0 r x.leg.toNat).dhi:=by simpa using JQ
        have hmw:(tc m r x.leg.toNat).lo≤x.mass∧x.mass≤(tc m r x.leg.toNat).hi:=by simpa using JM
        refine .seq (.seq (.draw mix rfl hs fun w hs=>?_));refine .zw 0 rfl (zfa qO) ?_;refine .y 1 rfl hs aj ?_;refine .z 2 rfl zm ?_;refine .z 3 rfl (zfa qP) ?_;refine .y 4 rfl hs aj ?_;refine .E 5 hs ?_;refine .call call99 rfl (jH hs ai ai) ?_;rintro _ w ⟨rfl,hs⟩;refine .go (.zw 6 rfl pc ?_);refine .D hs ?_;refine (.bA rfl (fun nU=>?_) (fun nU=>?_))
        ·refine .af (.zn zg (.ret (rT (Fin.bu Kc rfl ?_))));exact ⟨H3,_,gK,rfl,.no hB (fun h=>by
          obtain ⟨n',g1,g2⟩:=h.sinks;rw [hq,Int.toNat_natCast] at g1;rw [←abS.uniq g1] at g2;omega),hs.out⟩
        ·exact .skip (nT (.af (.zn zg (.ret (Fin.bu Kc rfl ⟨H3,_,gK,rfl,.ok hB ⟨Ut,Zx,hdw,hmw,n,by rw [hq,Int.toNat_natCast];exact abS,ai⟩,hs.out⟩)))))
theorem vQ{w:World}(hs:St H w σ):
  ab8 71 [] w fun u w'=>∃H1 a b c d vt vs gZ,HLe H H1∧u= .tuple #[.agg #[I 1,I 1,a,b,I 100,I 200,c,d],.agg #[I 1000,I 1200,vt,vs],.agg #[gZ]]∧SvM H1 exV a b c d∧LnM H1 tH vt vs∧RLg H1 gZ pR∧St H1 w' σ:=by
 refine Cl.of func71 rfl ntmps71 bK (D7) (.af (.o (.alloc hs js rfl fun b0 w hs=>?_)));refine .o (.alloc hs o6 rfl fun b1 w hs=>?_);refine .o (.alloc hs tw rfl fun b2 w hs=>?_);refine .nil (.af (.o (.buildSlice (cells:=Is [0,1000]) hs mJ rfl aD fun b8 w hs=>?_)));refine .o (.buildSlice (cells:=Is [0,1000]) hs mJ rfl aD fun b9 w hs=>?_);refine .z (zbd [_,_] yC) (.z (zbd [_,_,_,_,_,_] wG) (.o (.alloc hs tv rfl fun b3 w hs=>?_)));refine .o (.aJ (vs:=[_,_,_,_,_,_]) hs rfl rfl bq fun w hs=>?_);refine .nil (.af (.y hs (zls [_,_,_,_,_,_] bY bq) (.z (zbd [_,_,_,_,_,_,_] kg) (.z (zbd [_,_,_,_,_,_,_] kg) (.z (zbd [_,_,_,_,_,_,_] kg) (.z (zbd [_,_,_,_,_,_,_] kg) (.o (.buildSlice (cells:=(rdc Ti).flatten) hs tt rfl aD fun J2 w hs=>?_))))))));refine .z (zbd [_,_,_,_,_,_] sE) (.o (.buildSlice (cells:=(cmc exV.cs).flatten) hs nk rfl aD fun pX w hs=>?_));refine .z (zbd (vs:=[(0,.agg #[I 1,I 1,.slice (some ⟨b8,0,none⟩) 2 2,.slice (some ⟨b9,0,none⟩) 2 2,I 100,I 200]),(1,.slice (some ⟨J2,0,none⟩) 4 4),(2,.slice (some ⟨pX,0,none⟩) 1 1)]) [I 1,I 1,.slice (some ⟨b8,0,none⟩) 2 2,.slice (some ⟨b9,0,none⟩) 2 2,I 100,I 200,.slice (some ⟨J2,0,none⟩) 4 4,.slice (some ⟨pX,0,none⟩) 1 1] tK rfl aD) (.o (.alloc hs js rfl fun b4 w hs=>?_));refine .o (.aJ (vs:=[_,_,_,_,_,_,_,_]) hs rfl rfl aK fun w hs=>?_);refine .nil (.af (.z (zbd [_,_] jr) (.z (zbd [_,_] jr) (.o (.buildSlice (cells:=(fbc tH.table).flatten) hs rh rfl aD fun Ks w hs=>?_)))));refine .z (zbd [_,_,_,_] tL) (.o (.buildSlice (cells:=(snc tH.seasons).flatten) hs nZ rfl aD fun F3 w hs=>?_));refine .z (zbd (vs:=[(0,I 1000),(1,I 1200),(2,.slice (some ⟨Ks,0,none⟩) 2 2),(3,.slice (some ⟨F3,0,none⟩) 1 1)]) [I 1000,I 1200,.slice (some ⟨Ks,0,none⟩) 2 2,.slice (some ⟨F3,0,none⟩) 1 1] wH rfl aD) (.o (.alloc hs o6 rfl fun b5 w hs=>?_));refine .o (.aJ (vs:=[_,_,_,_]) hs rfl rfl bw fun w hs=>?_);refine .nil (.af (.z (zbd [_,_] bL) (.o (.alloc hs dy rfl fun b6 w hs=>?_))));refine .o (.aJ (vs:=[_,_]) hs rfl rfl aH fun w hs=>?_);refine .nil (.af (.z (zbd [_,_] bL) (.o (.alloc hs dy rfl fun b7 w hs=>?_))));refine .o (.aJ (vs:=[_,_]) hs rfl rfl aH fun w hs=>?_);refine .nil (.cut (fun fs w=>∃CQ,lr fs ⟨39,[],[(2,Pt b2),(1,Pt b1),(0,Pt b0)]⟩∧St H w (.blk b2 [.slice (some ⟨CQ,0,none⟩) 2 2]:: .blk b1 [I 1000,I 1200,.slice (some ⟨Ks,0,none⟩) 2 2,.slice (some ⟨F3,0,none⟩) 1 1]:: .blk b0 [I 1,I 1,.slice (some ⟨b8,0,none⟩) 2 2,.slice (some ⟨b9,0,none⟩) 2 2,I 100,I 200,.slice (some ⟨J2,0,none⟩) 4 4,.slice (some ⟨pX,0,none⟩) 1 1]:: .blk CQ (lgc pR).flatten:: .blk F3 (snc tH.seasons).flatten:: .blk Ks (fbc tH.table).flatten:: .blk pX (cmc exV.cs).flatten:: .blk J2 (rdc Ti).flatten:: .blk b9 (Is [0,1000]):: .blk b8 (Is [0,1000])::σ)) ?_ ?_)
 ·refine .draw mix rfl hs fun w hs=>?_
  refine .ys 0 rfl hs [_,_,_,_,_,_,_,_] bn aK ?_;refine .ys 1 rfl hs [_,_,_,_] ck bw ?_;refine .ys 2 rfl hs [_,_] cE aH ?_;refine .ys 3 rfl hs [_,_] cE aH ?_;refine .z 4 rfl (zbd (lg0 pR 0).c mh rfl aD) ?_;refine .ys 5 rfl hs [_,_] cE aH ?_;refine .ys 6 rfl hs [_,_] cE aH ?_;refine .z 7 rfl (zbd (lg0 pR 1).c mh rfl aD) ?_;refine .e2 (i:=8) (j:=10) aD rfl rfl rfl rfl .none .none hs ?_ ?_
  ·refine .buildSlice (cells:=(lgc pR).flatten) hs na rfl aD ?_;intro CQ w hs;refine .go (.zw 9 rfl (zbd [_] qm) (.E 10 hs ?_));refine .aJ (vs:=[_,_,_,_,_,_,_,_]) hs rfl rfl aK ?_;intro w hs;refine .go (.E 11 hs ?_);refine .aJ (vs:=[_,_,_,_]) hs rfl rfl bw ?_;intro w hs;refine .go (.E 12 hs ?_);refine .aJ (vs:=[_]) hs rfl rfl dG ?_;intro w hs;exact .go (.D hs (nT ⟨CQ,aM,hs.sb⟩))
  ·refine .aJ (vs:=[_,_,_,_,_,_,_,_]) hs rfl rfl aK ?_;intro w hs;refine .go (.e2 (i:=8) (j:=11) aD rfl rfl rfl rfl .none .none hs ?_ ?_)
   ·refine .buildSlice (cells:=(lgc pR).flatten) hs na rfl aD ?_;intro CQ w hs;refine .go (.zw 9 rfl (zbd [_] qm) (.E 11 hs ?_));refine .aJ (vs:=[_,_,_,_]) hs rfl rfl bw ?_;intro w hs;refine .go (.E 12 hs ?_);refine .aJ (vs:=[_]) hs rfl rfl dG ?_;intro w hs;exact .go (.D hs (nT ⟨CQ,aM,hs.sb⟩))
   ·refine .aJ (vs:=[_,_,_,_]) hs rfl rfl bw ?_;intro w hs;refine .go (.E 8 hs ?_);refine .buildSlice (cells:=(lgc pR).flatten) hs na rfl aD ?_;intro CQ w hs;refine .go (.zw 9 rfl (zbd [_] qm) (.E 12 hs ?_));refine .aJ (vs:=[_]) hs rfl rfl dG ?_;intro w hs;exact .go (.D hs (nT ⟨CQ,aM,hs.sb⟩))
 ·rintro fs w ⟨CQ,gP,hs⟩;refine WE.sub ?_ gP;clear gP;refine .ret ?_;obtain ⟨H1,g1,r1,hs⟩:=dj.eI (xs:=[0,1000]) (v:= .slice (some ⟨b8,0,none⟩) 2 2) (.full rfl) bK hs dC;obtain ⟨H2,g2,r2,hs⟩:=dj.eI (xs:=[0,1000]) (v:= .slice (some ⟨b9,0,none⟩) 2 2) (.full rfl) bK hs dC;obtain ⟨H3,g3,r3,hs⟩:=dj.dn (m:=7) (cs:=rdc Ti) (v:= .slice (some ⟨J2,0,none⟩) 4 4) (.full aD) (me _) ai eA hs dC;obtain ⟨H4,g4,r4,hs⟩:=dj.dn (m:=6) (cs:=cmc exV.cs) (v:= .slice (some ⟨pX,0,none⟩) 1 1) (.full aD) (xZ _) ai eA hs dC;obtain ⟨H5,g5,r5,hs⟩:=dj.dn (m:=2) (cs:=fbc tH.table) (v:= .slice (some ⟨Ks,0,none⟩) 2 2) (.full aD) (O2 _) ai eA hs dC;obtain ⟨H6,g6,r6,hs⟩:=dj.dn (m:=4) (cs:=snc tH.seasons) (v:= .slice (some ⟨F3,0,none⟩) 1 1) (.full aD) (EL _) ai eA hs dC;obtain ⟨H7,g7,r7,hs⟩:=dj.dn (m:=7) (cs:=lgc pR) (v:= .slice (some ⟨CQ,0,none⟩) 2 2) (.full aD) (GO _) ai eA hs dC;have k6:=g6.trans g7;have k5:=g5.trans k6;have k4:=g4.trans k5;have k3:=g3.trans k4;have k2:=g2.trans k3;exact Fin.iG [] [] hs fun w hs=>⟨_,results3 results71 (dm (vs:=[I 1,I 1,.slice (some ⟨b8,0,none⟩) 2 2,.slice (some ⟨b9,0,none⟩) 2 2,I 100,I 200,.slice (some ⟨J2,0,none⟩) 4 4,.slice (some ⟨pX,0,none⟩) 1 1]) hs rfl bn aK) (dm (vs:=[I 1000,I 1200,.slice (some ⟨Ks,0,none⟩) 2 2,.slice (some ⟨F3,0,none⟩) 1 1]) hs rfl ck bw) (dm (vs:=[.slice (some ⟨CQ,0,none⟩) 2 2]) hs rfl iX dG),H7,_,_,_,_,_,_,_,g1.trans k2,rfl,⟨r1.mono k2,r2.mono k3,r3.mono k4,r4.mono k5⟩,⟨r5.mono k6,r6.mono g7⟩,r7,hs.out⟩
set_option maxRecDepth 100000 in
theorem Jj:Tryz.prog.stoodInHeld 42=false:=by kernel_rfl
set_option maxRecDepth 100000 in
theorem Jk:Tryz.prog.eqGuardType Tryz.prog.depth 42=false:=by kernel_rfl
set_option maxHeartbeats 4000000 in
theorem AW{w:World}(hs:St H w σ):
  ab8 18 [] w fun u w'=>u= .bool true∧∃H1,HLe H H1∧St H1 w' σ:=by
 refine Cl.of func18 rfl ntmps18 bK (D7) (.af (.zn zg (.af (.o (.call call71 rfl (vQ hs) ?_)))));rintro _ w ⟨H1,a,b,c,d,vt,vs,gZ,az,rfl,g,gl,pW,hs⟩;obtain ⟨aa,ca,rfl⟩:=RI.shape g.st;obtain ⟨ab,cb,rfl⟩:=RI.shape g.wa;obtain ⟨ac,cc,rfl⟩:=RRd.shape g.rd;obtain ⟨ad,cd,rfl⟩:=RCm.shape g.cm;obtain ⟨at_,ct,rfl⟩:=gl.tb.shape;obtain ⟨mq,cs,rfl⟩:=gl.sn.shape;obtain ⟨ar,cr,rfl⟩:=pW.shape;refine .z zm (.z zex (.z zex (.z zex (.o (.alloc hs js rfl fun b1 w hs=>?_)))));refine .o (.alloc hs o6 rfl fun b2 w hs=>?_);refine .o (.alloc hs tw rfl fun b3 w hs=>?_);refine .o (.aJ (vs:=[_,_,_,_,_,_,_,_]) hs rfl rfl aK fun w hs=>?_);refine .o (.aJ (vs:=[_,_,_,_]) hs rfl rfl bw fun w hs=>?_);refine .o (.aJ (vs:=[_]) hs rfl rfl dG fun w hs=>?_);refine .nil (.af (.y hs (zls [_,_,_,_] ck bw) (.o (.call call37 rfl (uh (l:=tH) hs gl.tb gl.sn) ?_))));rintro _ w ⟨n,e,rfl,hF,hs⟩;obtain ⟨rfl,rfl⟩:=MO hF;refine .z zm (.z zex (.z zex (.z zg (.zn zg (.af (.y hs (zls [_,_,_,_] ck bw) (.o (.call call41 rfl (y8 (l:=tH) hs gl.tb gl.sn) ?_))))))));rintro _ w ⟨n,e,rfl,hF,hs⟩;obtain ⟨rfl,rfl⟩:=Ho hF;refine .z zm (.z zex (.z zex (.z zg (.zn zg (.af (.y hs (zls [_,_,_,_,_,_,_,_] bn aK) (.z (zbd [I 1000,I 1025] bL) (.o (.call call58 rfl (q6 (s:=exV) hs g) ?_)))))))));rintro _ w ⟨H2,lo,hi,e,bp,rfl,hD,hs⟩;obtain ⟨rfl,rfl,rfl,hL⟩:=MP hD;replace g:=g.mono bp;replace gl:=gl.mono bp;replace pW:=pW.mono bp;refine .z zm (.z zex (.z zex (.o (.alloc hs dy rfl fun b8 w hs=>?_))));refine .o (.aJ (vs:=[_,_]) hs rfl rfl aH fun w hs=>?_);refine .zn zg (.af (.y hs (zls [_,_,_,_,_,_,_,_] bn aK) (.y hs (zls [_,_,_,_] ck bw) (.y hs (zls [_] iX dG) (.z (zbd [I 150,I 160] bL) (.o (.call call26 rfl (rW (s:=exV) (l:=tH) (r:=pR) (m:=⟨150,160⟩) hs g gl pW) ?_)))))));rintro _ w ⟨H3,n,e,cZ,rfl,hJ,hs⟩;obtain ⟨rfl,rfl⟩:=CN hL eA hJ;rw [show GR [Kt (tc ⟨150,160⟩ pR 0) 190 404,Kt (tc ⟨150,160⟩ pR 1) 190 404]=1 by decide];replace g:=g.mono cZ;replace gl:=gl.mono cZ;replace pW:=pW.mono cZ;refine .z zm (.z zex (.z zex (.z zg (.zn zg (.af (.y hs (zls [_,_,_,_,_,_,_,_] bn aK) (.y hs (zls [_,_,_,_] ck bw) (.y hs (zls [_] iX dG) (.z (zbd [I 180,I 200] bL) (.o (.call call26 rfl (rW (s:=exV) (l:=tH) (r:=pR) (m:=⟨180,200⟩) hs g gl pW) ?_)))))))))));rintro _ w ⟨H4,n,e,gj,rfl,hJ,hs⟩;obtain ⟨rfl,rfl⟩:=CN hL eA hJ;rw [show GR [Kt (tc ⟨180,200⟩ pR 0) 190 404,Kt (tc ⟨180,200⟩ pR 1) 190 404]=2 by decide];replace g:=g.mono gj;replace gl:=gl.mono gj;replace pW:=pW.mono gj;refine .z zm (.z zex (.z zex (.z zg (.zn zg (.af (.y hs (zls [_,_,_,_,_,_,_,_] bn aK) (.y hs (zls [_,_,_,_] ck bw) (.y hs (zls [_] iX dG) (.o (.call call28 rfl (BV (s:=exV) (l:=tH) (r:=pR) hs g gl pW) ?_))))))))));rintro _ w ⟨H5,n,e,lk,rfl,hS,hs⟩;obtain ⟨rfl,rfl⟩:=MN hL hS;replace g:=g.mono lk;replace gl:=gl.mono lk;replace pW:=pW.mono lk;have IB:=az.trans (bp.trans (cZ.trans (gj.trans lk)));refine .z zm (.z zex (.z zex (.z zg (.zn zg (.af (.o (.buildSlice (cells:=Is [75,175]) hs mJ rfl aD fun Qu w hs=>?_)))))));refine .o (.buildSlice (cells:=Is [0,130]) hs mJ rfl aD fun Qt w hs=>?_);refine .o (.buildSlice (cells:=[.slice (some ⟨Qu,0,none⟩) 2 2,.slice (some ⟨Qt,0,none⟩) 2 2]) hs Cd rfl aD fun VE w hs=>?_);refine .z (zbd [_] F0) ?_;obtain ⟨H6,g6,r6,hs⟩:=dj.eI (xs:=[75,175]) (v:= .slice (some ⟨Qu,0,none⟩) 2 2) (.full rfl) bK hs dC;obtain ⟨H7,g7,r7,hs⟩:=dj.eI (xs:=[0,130]) (v:= .slice (some ⟨Qt,0,none⟩) 2 2) (.full rfl) bK hs dC;have Td:RLs H7 [.slice (some ⟨Qu,0,none⟩) 2 2,.slice (some ⟨Qt,0,none⟩) 2 2] Tj:=((RLs.nil H7).snoc (r6.mono g7)).snoc r7;obtain ⟨H8,g8,JT,hs⟩:=Td.dn (v:= .slice (some ⟨VE,0,none⟩) 2 2) (en:= .blk VE [.slice (some ⟨Qu,0,none⟩) 2 2,.slice (some ⟨Qt,0,none⟩) 2 2]) (.full rfl) bK hs dC;have G0:=g6.trans (g7.trans g8);replace g:=g.mono G0;replace gl:=gl.mono G0;replace pW:=pW.mono G0;refine .z (zbd [_,_,_,_] Bm) (.o (.alloc hs zeroValue66 rfl fun nD w hs=>?_));refine .o (.aJ (vs:=[_,_,_,_]) hs rfl rfl sizeOf66 fun w hs=>?_);refine .nil (.af (.z zm (.z fJ (.z zm (.ie (t':=68) rfl (fun Ml=>?_) (fun Ml=>?_))))))
 ·refine .T (.z zm (.T (.z fJ (.z zpT (.z zm (.ie (t':=72) rfl (fun YS=>?_) (fun YS=>?_)))))))
  ·refine .T (.z zm (.T (.z fJ (.z zpT (.z zm (.ie (t':=76) rfl (fun RX=>?_) (fun RX=>?_)))))))
   ·refine .T (.z zm (.T (.z fJ (.z zpT (.z zm (.ie (t':=80) rfl (fun RW=>?_) (fun RW=>?_)))))))
    ·refine .T (.z zm (.T (.z fJ (.z zpT (.z zm (.ie (t':=84) rfl (fun Mk=>?_) (fun Mk=>?_)))))))
     ·refine .T (.y hs (zls [_,_] cE aH) (.T (.z (zbd [_,_] bL) (.T ?_))));refine .q hs (EU Jj Jk runUnderlying42 (fun f hf=>by
       simp only [List.mem_cons,List.not_mem_nil,or_false] at hf
       rcases hf with rfl|rfl<;>exact ⟨by decide,cJ,aj⟩) rfl rfl) ?_
      refine .z zpT (.z zm (.bif (t':=89) rfl (fun YP=>?_) (fun YP=>?_)))
      ·refine .T (.z zm (.T (.z fJ (.z zpT (.z zm (.ie (t':=93) rfl (fun YN=>?_) (fun YN=>?_)))))))
       ·refine .T (.z zm (.T (.z fJ (.z zpT (.z zm (.ie (t':=97) rfl (fun wc=>?_) (fun wc=>?_)))))))
        ·refine .T (.z zm (.T (.z fJ (.z zpT (.z zm (.ie (t':=101) rfl (fun U4=>?_) (fun U4=>?_)))))))
         ·refine .T (.z zm (.T (.z fJ (.z zpT (.z zm (.ie (t':=105) rfl (fun U3=>?_) (fun U3=>?_)))))))
          ·refine .T (.z zm (.T (.z fJ (.z zpT (.z zm (.ie (t':=109) rfl (fun U2=>?_) (fun U2=>?_)))))))
           ·refine .T (.z zm (.T (.z fJ (.z zpT (.z zm (.ie (t':=113) rfl (fun U1=>?_) (fun U1=>?_)))))))
            ·refine .T (.y hs (zls [_,_,_,_,_,_,_,_] bn aK) (.T (.y hs (zls [_,_,_,_] ck bw) (.T (.y hs (zls [_] iX dG) (.T (.z (zbd [I 180,I 200] bL) (.T (.y hs (zls [_,_,_,_] isAgg66 sizeOf66) (.T (.o (.call call32 rfl (te (s:=exV) (l:=tH) (r:=pR) (m:=⟨180,200⟩) (x:=⟨0,1000,200,Tj⟩) hs g gl pW JT) ?_))))))))))));rintro _ w ⟨H9,e,OF,rfl,hW,hs⟩;obtain rfl:=O3 hW;have th:=(IB.trans G0).trans OF;refine .T (.z fJ (.z zpT (.zn zg (.ret (Fin.bu lx rfl ?_)))));first
             |exact ⟨rfl,H9,th,hs.out⟩
             |contradiction
             |(exfalso;simp_all;done)
            ·refine .Fs 7 47 true (.z zpF (.zn zg (.ret (Fin.bu lx rfl ?_))));first
             |exact ⟨rfl,H9,th,hs.out⟩
             |contradiction
             |(exfalso;simp_all;done)
           ·refine .Fs 2 43 true (.z zpF (.z zm (.Fs 7 47 true (.z zpF (.zn zg (.ret (Fin.bu lx rfl ?_)))))));first
            |exact ⟨rfl,H9,th,hs.out⟩
            |contradiction
            |(exfalso;simp_all;done)
          ·refine .Fs 2 39 true (.z zpF (.z zm (.Fs 2 43 true (.z zpF (.z zm (.Fs 7 47 true (.z zpF (.zn zg (.ret (Fin.bu lx rfl ?_))))))))));first
           |exact ⟨rfl,H9,th,hs.out⟩
           |contradiction
           |(exfalso;simp_all;done)
         ·refine .Fs 2 35 true (.z zpF (.z zm (.Fs 2 39 true (.z zpF (.z zm (.Fs 2 43 true (.z zpF (.z zm (.Fs 7 47 true (.z zpF (.zn zg (.ret (Fin.bu lx rfl ?_)))))))))))));first
          |exact ⟨rfl,H9,th,hs.out⟩
          |contradiction
          |(exfalso;simp_all;done)
        ·refine .Fs 2 31 true (.z zpF (.z zm (.Fs 2 35 true (.z zpF (.z zm (.Fs 2 39 true (.z zpF (.z zm (.Fs 2 43 true (.z zpF (.z zm (.Fs 7 47 true (.z zpF (.zn zg (.ret (Fin.bu lx rfl ?_))))))))))))))));first
         |exact ⟨rfl,H9,th,hs.out⟩
         |contradiction
         |(exfalso;simp_all;done)
       ·refine .Fs 2 27 true (.z zpF (.z zm (.Fs 2 31 true (.z zpF (.z zm (.Fs 2 35 true (.z zpF (.z zm (.Fs 2 39 true (.z zpF (.z zm (.Fs 2 43 true (.z zpF (.z zm (.Fs 7 47 true (.z zpF (.zn zg (.ret (Fin.bu lx rfl ?_)))))))))))))))))));first
        |exact ⟨rfl,H9,th,hs.out⟩
        |contradiction
        |(exfalso;simp_all;done)
      ·refine .Fs 2 23 true (.z zpF (.z zm ?_));refine .Fs 2 27 true (.z zpF (.z zm (.Fs 2 31 true (.z zpF (.z zm (.Fs 2 35 true (.z zpF (.z zm (.Fs 2 39 true (.z zpF (.z zm (.Fs 2 43 true (.z zpF (.z zm (.Fs 7 47 true (.z zpF (.zn zg (.ret (Fin.bu lx rfl ?_)))))))))))))))))));first
       |exact ⟨rfl,H9,th,hs.out⟩
       |contradiction
       |(exfalso;simp_all;done)
     ·refine .Fs 3 18 true (.z zpF (.z zm (.Fs 2 23 true (.z zpF (.z zm ?_)))));refine .Fs 2 27 true (.z zpF (.z zm (.Fs 2 31 true (.z zpF (.z zm (.Fs 2 35 true (.z zpF (.z zm (.Fs 2 39 true (.z zpF (.z zm (.Fs 2 43 true (.z zpF (.z zm (.Fs 7 47 true (.z zpF (.zn zg (.ret (Fin.bu lx rfl ?_)))))))))))))))))));first
      |exact ⟨rfl,H9,th,hs.out⟩
      |contradiction
      |(exfalso;simp_all;done)
    ·refine .Fs 2 14 true (.z zpF (.z zm (.Fs 3 18 true (.z zpF (.z zm (.Fs 2 23 true (.z zpF (.z zm ?_))))))));refine .Fs 2 27 true (.z zpF (.z zm (.Fs 2 31 true (.z zpF (.z zm (.Fs 2 35 true (.z zpF (.z zm (.Fs 2 39 true (.z zpF (.z zm (.Fs 2 43 true (.z zpF (.z zm (.Fs 7 47 true (.z zpF (.zn zg (.ret (Fin.bu lx rfl ?_)))))))))))))))))));first
     |exact ⟨rfl,H9,th,hs.out⟩
     |contradiction
     |(exfalso;simp_all;done)
   ·refine .Fs 2 10 true (.z zpF (.z zm (.Fs 2 14 true (.z zpF (.z zm (.Fs 3 18 true (.z zpF (.z zm (.Fs 2 23 true (.z zpF (.z zm ?_)))))))))));refine .Fs 2 27 true (.z zpF (.z zm (.Fs 2 31 true (.z zpF (.z zm (.Fs 2 35 true (.z zpF (.z zm (.Fs 2 39 true (.z zpF (.z zm (.Fs 2 43 true (.z zpF (.z zm (.Fs 7 47 true (.z zpF (.zn zg (.ret (Fin.bu lx rfl ?_)))))))))))))))))));first
    |exact ⟨rfl,H9,th,hs.out⟩
    |contradiction
    |(exfalso;simp_all;done)
  ·refine .Fs 2 6 true (.z zpF (.z zm (.Fs 2 10 true (.z zpF (.z zm (.Fs 2 14 true (.z zpF (.z zm (.Fs 3 18 true (.z zpF (.z zm (.Fs 2 23 true (.z zpF (.z zm ?_))))))))))))));refine .Fs 2 27 true (.z zpF (.z zm (.Fs 2 31 true (.z zpF (.z zm (.Fs 2 35 true (.z zpF (.z zm (.Fs 2 39 true (.z zpF (.z zm (.Fs 2 43 true (.z zpF (.z zm (.Fs 7 47 true (.z zpF (.zn zg (.ret (Fin.bu lx rfl ?_)))))))))))))))))));first
   |exact ⟨rfl,H9,th,hs.out⟩
   |contradiction
   |(exfalso;simp_all;done)
 ·refine .Fs 2 2 true (.z zpF (.z zm (.Fs 2 6 true (.z zpF (.z zm (.Fs 2 10 true (.z zpF (.z zm (.Fs 2 14 true (.z zpF (.z zm (.Fs 3 18 true (.z zpF (.z zm (.Fs 2 23 true (.z zpF (.z zm ?_)))))))))))))))));refine .Fs 2 27 true (.z zpF (.z zm (.Fs 2 31 true (.z zpF (.z zm (.Fs 2 35 true (.z zpF (.z zm (.Fs 2 39 true (.z zpF (.z zm (.Fs 2 43 true (.z zpF (.z zm (.Fs 7 47 true (.z zpF (.zn zg (.ret (Fin.bu lx rfl ?_)))))))))))))))))));first
  |exact ⟨rfl,H9,th,hs.out⟩
  |contradiction
  |(exfalso;simp_all;done)
theorem eg{w:World}(hs:St H w σ):ab8 74 [I a0,I a1,I a2] w fun v w'=>v= .bool (decide (a1≤a0∧a0≤a2))∧St H w' σ:=by
 refine Cl.o func74 ntmps74 ag3 ?_;refine .af (.zn zg (.af (.z zm (.z zm (.z tN (.z zm (.ie (t':=10) rfl (fun pO=>?_) (fun pO=>?_))))))))
 ·exact .T (.z zm (.T (.z zm (.T (.z pc (.z zpT (.zn zg (.ret (Fin.bu results74 rfl ⟨by simp [*],hs.out⟩)))))))))
 ·exact .Fs 3 3 true (.z zpF (.zn zg (.ret (Fin.bu results74 rfl ⟨by simp [*],hs.out⟩))))
theorem xn{w:World}{x y:Int}(hs:St H w σ):ab8 53 [.agg #[I x,I y]] w fun v w'=>v= .bool (decide (kz x y))∧St H w' σ:=by
 refine Cl.o func53 ntmps53 ag1 ?_;refine .af (.bx hs fun b1 w hs=>?_);refine .zn zg (.af (.z (zfa bH) (.y hs (zld aj) (.z tN (.z zm (.ie (t':=6) rfl (fun Gn=>?_) (fun Gn=>?_)))))))
 ·refine .T (.z (zfa bH) (.T (.y hs (zld aj) (.T (.z (zfa cP) (.T (.y hs (zld aj) (.T (.z pc (.z zpT (.z zm (.ie (t':=13) rfl (fun xR=>?_) (fun xR=>?_)))))))))))))
  ·exact .T (.z (zfa cP) (.T (.y hs (zld aj) (.T (.z pc (.z zpT (.zn zg (.ret (Fin.bu results53 rfl ⟨by unfold kz;simp [*],hs.out⟩)))))))))
  ·exact .Fs 3 10 true (.z zpF (.zn zg (.ret (Fin.bu results53 rfl ⟨by unfold kz;simp [*],hs.out⟩))))
 ·exact .Fs 5 3 true (.z zpF (.z zm (.Fs 3 10 true (.z zpF (.zn zg (.ret (Fin.bu results53 rfl ⟨by unfold kz;simp [*],hs.out⟩)))))))
theorem oC{w:World}{x y:Int}(hs:St H w σ):ab8 124 [.agg #[I x,I y]] w fun v w'=>v= .bool (decide (gg x y))∧St H w' σ:=by
 refine Cl.o func124 ntmps124 ag1 ?_;refine .af (.bx hs fun b1 w hs=>?_);refine .zn zg (.af (.z (zfa bH) (.y hs (zld aj) (.z tN (.z zm (.ie (t':=6) rfl (fun Gn=>?_) (fun Gn=>?_)))))))
 ·refine .T (.z (zfa bH) (.T (.y hs (zld aj) (.T (.z (zfa cP) (.T (.y hs (zld aj) (.T (.z pc (.z zpT (.z zm (.ie (t':=13) rfl (fun xR=>?_) (fun xR=>?_)))))))))))))
  ·exact .T (.z (zfa cP) (.T (.y hs (zld aj) (.T (.z pc (.z zpT (.zn zg (.ret (Fin.bu results124 rfl ⟨by unfold gg;simp [*],hs.out⟩)))))))))
  ·exact .Fs 3 10 true (.z zpF (.zn zg (.ret (Fin.bu results124 rfl ⟨by unfold gg;simp [*],hs.out⟩))))
 ·exact .Fs 5 3 true (.z zpF (.z zm (.Fs 3 10 true (.z zpF (.zn zg (.ret (Fin.bu results124 rfl ⟨by unfold gg;simp [*],hs.out⟩)))))))
theorem qw{w:World}(hs:St H w σ):
  ab8 76 [.agg #[I x.zone,I x.fr,I x.to,I x.dlo,I x.dhi,I x.blo,I x.bhi]] w fun v w'=>∃b:Bool,v= .bool b∧(b=true↔yH x)∧St H w' σ:=by
 refine Cl.o func76 ntmps76 ag1 ?_;refine .af (.bx hs fun b1 w hs=>?_);refine .zn zg (.af (.z (zfa mH) (.y hs (zld aj) (.o (.call qS rfl (eg hs) ?_)))));rintro _ w ⟨rfl,hs⟩;refine .z zm (.bif (t':=6) rfl (fun Gn=>?_) (fun Gn=>?_))
 ·refine .T (.z (zfa gR) (.T (.y hs (zld aj) (.T (.z tN (.z zpT (.z zm (.ie (t':=11) rfl (fun oV=>?_) (fun oV=>?_)))))))))
  ·refine .T (.z (zfa gR) (.T (.y hs (zld aj) (.T (.z (zfa gQ) (.T (.y hs (zld aj) (.T (.z pc (.z zpT (.z zm (.ie (t':=18) rfl (fun G9=>?_) (fun G9=>?_)))))))))))))
   ·refine .T (.z (zfa gQ) (.T (.y hs (zld aj) (.T (.z pc (.z zpT (.z zm (.ie (t':=23) rfl (fun uz=>?_) (fun uz=>?_)))))))))
    ·refine .T (.z (zfa fA) (.T (.y hs (zls [_,_] cE aH) (.T (.o (.call call124 rfl (oC hs) ?_))))));rintro _ w ⟨rfl,hs⟩;refine .z zpT (.z zm (.bif (t':=28) rfl (fun xP=>?_) (fun xP=>?_)))
     ·refine .T (.z (zfa iM) (.T (.y hs (zls [_,_] cE aH) (.T (.o (.call call53 rfl (xn hs) ?_))))));rintro _ w ⟨rfl,hs⟩;refine .z zpT (.zn zg (.ret (Fin.bu V2 rfl ?_)));first
      |exact ⟨false,rfl,⟨fun h=>(by cases h),fun h=>(by obtain ⟨g1,g2,g3,g4,g5⟩:=h;first|omega|(simp_all;done)|(simp_all;omega))⟩,hs.out⟩
      |exact ⟨_,rfl,⟨fun h=>⟨by simp_all,by simp_all,by simp_all,by simp_all,by simpa using h⟩,fun h=>by simpa using h.burn⟩,hs.out⟩
     ·refine .Fs 3 25 true (.z zpF (.zn zg (.ret (Fin.bu V2 rfl ?_))));first
      |exact ⟨false,rfl,⟨fun h=>(by cases h),fun h=>(by obtain ⟨g1,g2,g3,g4,g5⟩:=h;first|omega|(simp_all;done)|(simp_all;omega))⟩,hs.out⟩
      |exact ⟨_,rfl,⟨fun h=>⟨by simp_all,by simp_all,by simp_all,by simp_all,by simpa using h⟩,fun h=>by simpa using h.burn⟩,hs.out⟩
    ·refine .Fs 3 20 true (.z zpF (.z zm (.Fs 3 25 true (.z zpF (.zn zg (.ret (Fin.bu V2 rfl ?_)))))));first
     |exact ⟨false,rfl,⟨fun h=>(by cases h),fun h=>(by obtain ⟨g1,g2,g3,g4,g5⟩:=h;first|omega|(simp_all;done)|(simp_all;omega))⟩,hs.out⟩
     |exact ⟨_,rfl,⟨fun h=>⟨by simp_all,by simp_all,by simp_all,by simp_all,by simpa using h⟩,fun h=>by simpa using h.burn⟩,hs.out⟩
   ·refine .Fs 3 15 true (.z zpF (.z zm (.Fs 3 20 true (.z zpF (.z zm (.Fs 3 25 true (.z zpF (.zn zg (.ret (Fin.bu V2 rfl ?_))))))))));first
    |exact ⟨false,rfl,⟨fun h=>(by cases h),fun h=>(by obtain ⟨g1,g2,g3,g4,g5⟩:=h;first|omega|(simp_all;done)|(simp_all;omega))⟩,hs.out⟩
    |exact ⟨_,rfl,⟨fun h=>⟨by simp_all,by simp_all,by simp_all,by simp_all,by simpa using h⟩,fun h=>by simpa using h.burn⟩,hs.out⟩
  ·refine .Fs 5 8 true (.z zpF (.z zm (.Fs 3 15 true (.z zpF (.z zm (.Fs 3 20 true (.z zpF (.z zm (.Fs 3 25 true (.z zpF (.zn zg (.ret (Fin.bu V2 rfl ?_)))))))))))));first
   |exact ⟨false,rfl,⟨fun h=>(by cases h),fun h=>(by obtain ⟨g1,g2,g3,g4,g5⟩:=h;first|omega|(simp_all;done)|(simp_all;omega))⟩,hs.out⟩
   |exact ⟨_,rfl,⟨fun h=>⟨by simp_all,by simp_all,by simp_all,by simp_all,by simpa using h⟩,fun h=>by simpa using h.burn⟩,hs.out⟩
 ·refine .Fs 3 3 true (.z zpF (.z zm (.Fs 5 8 true (.z zpF (.z zm (.Fs 3 15 true (.z zpF (.z zm (.Fs 3 20 true (.z zpF (.z zm (.Fs 3 25 true (.z zpF (.zn zg (.ret (Fin.bu V2 rfl ?_))))))))))))))));first
  |exact ⟨false,rfl,⟨fun h=>(by cases h),fun h=>(by obtain ⟨g1,g2,g3,g4,g5⟩:=h;first|omega|(simp_all;done)|(simp_all;omega))⟩,hs.out⟩
  |exact ⟨_,rfl,⟨fun h=>⟨by simp_all,by simp_all,by simp_all,by simp_all,by simpa using h⟩,fun h=>by simpa using h.burn⟩,hs.out⟩
set_option maxHeartbeats 1000000 in
theorem iI{w:World}(hs:St H w σ)(g:LnM H l vt vs):
  ab8 20 [lnA l vt vs] w fun u w'=>∃e,u=I e∧ab7 l e∧St H w' σ:=by
 obtain ⟨h1,h2⟩:=g;obtain ⟨at_,ct,rfl⟩:=h1.shape;obtain ⟨mq,cs,rfl⟩:=h2.shape;refine Cl.o func20 ntmps20 ag1 ?_;refine .af (.bx hs fun b1 w hs=>?_);refine .zn zg (.seq (.af (.z (zfa eY) (.y hs (zld aj) (.o (.call qS rfl (eg hs) ?_))))));rintro _ w ⟨rfl,hs⟩;refine .z fE (.z zm (.bif (t':=11) rfl (fun oV=>?_) (fun oV=>?_)))
 ·exact .Fs 4 4 false (.z zpT (.z zm (.Fs 5 10 false (.z zpT (.z zm (.Fs 4 17 false (.zn zpT (.cT (.af (.zn zg (.ret (rT (Fin.bu mM rfl ⟨_,rfl,.inr ⟨fun h=>by have:=h.length;simp_all,rfl⟩,hs.out⟩)))))))))))))
 ·refine .T (.z (zfa jN) (.T (.y hs (zld aj) (.T (.o (.call qS rfl (eg hs) ?_))))));rintro _ w ⟨rfl,hs⟩;refine .T (.z fE (.z zpF (.z zm (.bif (t':=17) rfl (fun DP=>?_) (fun DP=>?_)))))
  ·exact .Fs 5 10 false (.z zpT (.z zm (.Fs 4 17 false (.zn zpT (.cT (.af (.zn zg (.ret (rT (Fin.bu mM rfl ⟨_,rfl,.inr ⟨fun h=>by have:=h.depth;simp_all,rfl⟩,hs.out⟩))))))))))
  ·refine .T (.z (zfa de) (.T (.y hs (zld kx) (.T (.z (dk bB) (.T (.o (.call qS rfl (eg hs) ?_))))))));rintro _ w ⟨rfl,hs⟩;refine .T (.z fE (.z zpF (.z zm (.bif (t':=24) rfl (fun pN=>?_) (fun pN=>?_)))))
   ·exact .Fs 4 17 false (.zn zpT (.cT (.af (.zn zg (.ret (rT (Fin.bu mM rfl ⟨_,rfl,.inr ⟨fun h=>by have:=h.many;simp_all;omega,rfl⟩,hs.out⟩)))))))
   ·refine .T (.z (zfa du) (.T (.y hs (zld k8) (.T (.z (dk cf) (.T (.z ld (.zn zpF (.bA rfl (fun nR=>?_) (fun nR=>?_))))))))))
    ·exact .af (.zn zg (.ret (rT (Fin.bu mM rfl ⟨_,rfl,.inr ⟨fun h=>by have:=h.most;simp_all;omega,rfl⟩,hs.out⟩))))
    ·refine .skip (nT (.seq (.af (.zn zg (.block ?_)))));have LR:1≤l.table.length∧l.table.length≤20:=by first|omega|(simp at pN;omega)
     refine .loop (fun k:Nat=>⟨102,[],[(3,I (k:Int)),(1,Pt b1)]⟩)
      (fun k w=>k≤l.table.length∧(∀j<k,Pv l.table j)∧St H w (.blk b1 (lnC l (.slice at_ l.table.length ct) (.slice mq l.seasons.length cs))::σ)) (fun k=>l.table.length - k) 0 aM
      ⟨Nat.zero_le _,fun j hj=>by omega,hs⟩ ?_
     rintro k w ⟨hk,fa,hs⟩;refine .seq (.af (.z zm (.z (zfa de) (.y hs (zld kx) (.z (dk bB) (.zn gV (.bA rfl (fun kJ=>?_) (fun kJ=>?_))))))))
     ·refine .skip (nT (.seq (.block (.af (.z (zfa de) (.y hs (zld kx) (.z zm ?_)))))));have pV:k<l.table.length:=by omega
      have hx:=oX (l:=l.table) pV;have za:=oX (l:=l.table) (i:=k - 1) ai;refine .ixX (enc:=Fbd.c) hs h1 rfl rfl bB db hx dp ?_;intro VJ o40 pK;refine .q hs (cj (vs:=(Fbd.c (fb0 l.table k))) rfl isAgg134 db pK) (.o (.alloc hs np rfl fun b4 w hs=>?_));refine .o (.aJ (vs:=(fb0 l.table k).c) hs rfl rfl db fun w hs=>?_);change St _ _ (.blk b4 [I (fb0 l.table k).len,I (fb0 l.table k).least]::_) at hs;refine .nil (.seq (.draw mix rfl hs fun w hs=>?_));refine .zw 0 rfl (zfa bZ) ?_;refine .y 1 rfl hs aj ?_;refine .E 2 hs ?_;refine .call qS rfl (eg hs) ?_;rintro _ w ⟨rfl,hs⟩;refine .go (.zw 3 rfl fE ?_);refine .z 4 rfl zm ?_;refine .bif (t':=46) rfl (fun JR=>?_) (fun JR=>?_)
      ·refine .F 5 rfl (.F 6 rfl (.F 7 rfl (.F 8 rfl (.zw 9 rfl zpT ?_))));refine .z 10 rfl zm ?_;refine .F 11 rfl (.F 12 rfl ?_);refine .F 13 rfl (.F 14 rfl (.F 15 rfl (.F 16 rfl (.F 17 rfl (.F 18 rfl (.F 19 rfl (.F 20 rfl (.F 21 rfl (.F 22 rfl (.F 23 rfl (.F 24 rfl (.zw 25 rfl zpT ?_))))))))))));refine .D hs ?_;exact (.cT (.af (.zn zg (.ret (rB (rT (rT (rB (rT (Fin.bu mM rfl ⟨_,rfl,.inr ⟨fun h=>by have:=(h.table k pV).len;simp_all,rfl⟩,hs.out⟩))))))))))
      ·refine .zw 5 rfl (zfa dW) ?_;refine .y 6 rfl hs aj ?_;refine .E 7 hs ?_;refine .call qS rfl (eg hs) ?_;rintro _ w ⟨rfl,hs⟩;refine .go (.zw 8 rfl fE ?_);refine .z 9 rfl zpF ?_;refine .z 10 rfl zm ?_;refine .bif (t':=52) rfl (fun RZ=>?_) (fun RZ=>?_)
       ·refine .F 11 rfl (.F 12 rfl ?_);refine .F 13 rfl (.F 14 rfl (.F 15 rfl (.F 16 rfl (.F 17 rfl (.F 18 rfl (.F 19 rfl (.F 20 rfl (.F 21 rfl (.F 22 rfl (.F 23 rfl (.F 24 rfl (.zw 25 rfl zpT ?_))))))))))));refine .D hs ?_;exact (.cT (.af (.zn zg (.ret (rB (rT (rT (rB (rT (Fin.bu mM rfl ⟨_,rfl,.inr ⟨fun h=>by have:=(h.table k pV).least;simp_all,rfl⟩,hs.out⟩))))))))))
       ·refine .zw 11 rfl zm ?_;refine .z 12 rfl ld ?_;refine .z 13 rfl zm ?_;refine .ie (t':=55) rfl (fun RY=>?_) (fun RY=>?_)
        ·refine .zw 14 rfl (zfa de) ?_;refine .y 15 rfl hs kx ?_;refine .z 16 rfl zm ?_;refine .z 17 rfl gE ?_;refine .ixX (enc:=Fbd.c) (i:=18) hs rfl aD (.some rfl rfl) h1 rfl rfl bB db za ai ?_;intro ab1 o60 JO;refine .zw 19 rfl (zfa bZ) (.r (i:=20) hs rfl aD (.some rfl rfl) (aF rfl aj (JO.get 0 rfl)) ?_);refine .zw 21 rfl (zfa bZ) ?_;refine .y 22 rfl hs aj ?_;refine .z 23 rfl tN ?_;refine .z 24 rfl zpT ?_;refine .z 25 rfl zpF ?_;refine .D hs ?_;refine (.bA rfl (fun DL=>?_) (fun DL=>?_))
         ·exact .af (.zn zg (.ret (rB (rT (rT (rB (rT (Fin.bu mM rfl ⟨_,rfl,.inr ⟨fun h=>by have:=(h.table k pV).rise ai;omega,rfl⟩,hs.out⟩))))))))
         ·refine .skip (nB (nT (.region (.z zm (.z cV (.zn zg (nT ?_)))))));exact ⟨k+1,.da rfl bK aM,⟨ai,fun j hj=>by
           by_cases e:j=k
           ·subst e;exact ⟨by simp_all,by simp_all,fun _=>by omega⟩
           ·exact fa j ai,hs.tail⟩,ai⟩
        ·refine .F 14 rfl (.F 15 rfl (.F 16 rfl (.F 17 rfl (.F 18 rfl (.F 19 rfl (.F 20 rfl (.F 21 rfl (.F 22 rfl (.F 23 rfl (.zw 24 rfl zpF ?_))))))))));refine .z 25 rfl zpF ?_;refine .D hs ?_;refine (.cF (.skip (nB (nT (.region (.z zm (.z cV (.zn zg (nT ?_)))))))));exact ⟨k+1,.da rfl bK aM,⟨ai,fun j hj=>by
          by_cases e:j=k
          ·subst e;exact ⟨by simp_all,by simp_all,fun _=>by omega⟩
          ·exact fa j ai,hs.tail⟩,ai⟩
     ·refine .exit (xT (xT (xB (nT (.seq (.af (.zn zg (.block ?_))))))));obtain rfl:k=l.table.length:=by omega
      refine .loop (fun k:Nat=>⟨102,[],[(5,I (k:Int)),(1,Pt b1)]⟩)
       (fun k w=>k≤l.seasons.length∧(∀j<k,∀y,l.seasons[j]? =some y→HA y)∧St H w (.blk b1 (lnC l (.slice at_ l.table.length ct) (.slice mq l.seasons.length cs))::σ)) (fun k=>l.seasons.length - k) 0 aM
       ⟨Nat.zero_le _,fun j hj=>by omega,hs⟩ ?_
      rintro i w ⟨hi,Ul,hs⟩;refine .seq (.af (.z zm (.z (zfa du) (.y hs (zld k8) (.z (dk cf) (.zn gV (.bA rfl (fun LZ=>?_) (fun LZ=>?_))))))))
      ·refine .skip (nT (.seq (.block (.af (.z (zfa du) (.y hs (zld k8) (.z zm ?_)))))));obtain ⟨s,hx⟩:=nth (l:=l.seasons) (k:=i) ai;refine .ixX (enc:=Ssn.c) hs h2 rfl rfl cf eE hx dp ?_;intro b78 o78 YE;refine .q hs (cj (vs:=(Ssn.c s)) rfl isAgg104 eE YE) (.o (.alloc hs Gc rfl fun b6 w hs=>?_));refine .o (.aJ (vs:=s.c) hs rfl rfl eE fun w hs=>?_);change St _ _ (.blk b6 [I s.zone,I s.fr,I s.to,I s.extra]::_) at hs;refine .nil (.af (.z (zfa kb) (.y hs (zld aj) (.o (.call qS rfl (eg hs) ?_)))));rintro _ w ⟨rfl,hs⟩;refine .z fE (.z zm (.bif (t':=84) rfl (fun Mk=>?_) (fun Mk=>?_)))
       ·exact .Fs 4 4 false (.z zpT (.z zm (.Fs 4 10 false (.z zpT (.z zm (.Fs 4 16 false (.zn zpT (.cT (.af (.zn zg (.ret (rB (rT (rT (rB (rT (Fin.bu mM rfl ⟨_,rfl,.inr ⟨fun h=>by have:=(h.seasons s (List.mem_of_getElem? hx)).zone;simp_all,rfl⟩,hs.out⟩)))))))))))))))))
       ·refine .T (.z (zfa fm) (.T (.y hs (zld aj) (.T (.o (.call qS rfl (eg hs) ?_))))));rintro _ w ⟨rfl,hs⟩;refine .T (.z fE (.z zpF (.z zm (.bif (t':=90) rfl (fun YO=>?_) (fun YO=>?_)))))
        ·exact .Fs 4 10 false (.z zpT (.z zm (.Fs 4 16 false (.zn zpT (.cT (.af (.zn zg (.ret (rB (rT (rT (rB (rT (Fin.bu mM rfl ⟨_,rfl,.inr ⟨fun h=>by have:=(h.seasons s (List.mem_of_getElem? hx)).fr;simp_all,rfl⟩,hs.out⟩))))))))))))))
        ·refine .T (.z (zfa fl) (.T (.y hs (zld aj) (.T (.o (.call qS rfl (eg hs) ?_))))));rintro _ w ⟨rfl,hs⟩;refine .T (.z fE (.z zpF (.z zm (.bif (t':=96) rfl (fun YM=>?_) (fun YM=>?_)))))
         ·exact .Fs 4 16 false (.zn zpT (.cT (.af (.zn zg (.ret (rB (rT (rT (rB (rT (Fin.bu mM rfl ⟨_,rfl,.inr ⟨fun h=>by have:=(h.seasons s (List.mem_of_getElem? hx)).to;simp_all,rfl⟩,hs.out⟩)))))))))))
         ·refine .T (.z (zfa ka) (.T (.y hs (zld aj) (.T (.o (.call qS rfl (eg hs) ?_))))));rintro _ w ⟨rfl,hs⟩;refine .T (.z fE (.zn zpF (.cond rfl (fun Mh=>?_) (fun Mh=>?_))))
          ·exact .af (.zn zg (.ret (rB (rT (rT (rB (rT (Fin.bu mM rfl ⟨_,rfl,.inr ⟨fun h=>by have:=(h.seasons s (List.mem_of_getElem? hx)).extra;simp_all,rfl⟩,hs.out⟩))))))))
          ·exact .skip (nB (nT (.region (.z zm (.z cV (.zn zg (nT ⟨i+1,.da rfl bK aM,⟨ai,fW Ul hx ⟨by simp_all,by simp_all,by simp_all,by simp_all⟩,hs.tail⟩,ai⟩)))))))
      ·refine .exit (xT (xT (xB (nT (.af (.zn zg (.ret (Fin.bu mM rfl ?_))))))));exact ⟨_,rfl,.inl ⟨⟨by simp_all,by simp_all,LR,ai,fa,fun s hs=>by
        obtain ⟨j,hj⟩:=List.getElem?_of_mem hs;have:=(List.getElem?_eq_some_iff.1 hj).1;exact Ul j ai s hj⟩,rfl⟩,hs.out⟩
end Go.Proofs.YteajddicacjkhaaGreat
