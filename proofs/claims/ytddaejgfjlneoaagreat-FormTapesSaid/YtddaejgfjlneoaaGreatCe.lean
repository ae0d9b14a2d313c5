/-
  Texts of these claims, joined: Zj Zk Zl Zm Zn Zo Zp Zq Zr Zt Zv Zw Zx Zy Zz Na.
-/
import Derived.Test.YtddaejgfjlneoaaGreatCd
namespace Go.Proofs.YtddaejgfjlneoaaGreat
open Go.MW
theorem u6(s:Spc)(i k:Nat):1+(i:Int)*(s.wa.length:Int)+(k:Int)=(s.u i k:Int):=by
 unfold Spc.u;rw [Int.natCast_add,Int.natCast_add,Int.natCast_mul];rfl
theorem u_int1(s:Spc)(i k:Nat):1+((i:Int)+1)*(s.wa.length:Int)+(k:Int)=(s.u (i+1) k:Int):=by
 rw [←u6];rfl
theorem u_int2(s:Spc)(i k:Nat):1+(i:Int)*(s.wa.length:Int)+((k:Int)+1)=(s.u i (k+1):Int):=by
 rw [←u6];rfl
theorem kR{f:Nat→Nat→List Lim}(hf:∀i k,(f i k).length≤2)(i:Nat):∀k,(lN f i k).length≤2*k
 |0=>by simp [lN]
 |k+1=>by have:=kR hf i k;have:=hf i k;simp only [lN,List.length_append];omega
theorem lM{f:Nat→Nat→List Lim}(hf:∀i k,(f i k).length≤2){m n:Nat}(hm:m≤7)(hn:n≤9)(h0:0<m):(eh f m n).length≤126:=by
 have h1:=gA hf (n:=n) h0
 have:n*m≤9*7:=Nat.mul_le_mul hn hm
 omega
theorem Ef{s:Spc}(h0:0<s.st.length):eh (alL s) s.wa.length s.st.length=eh (alL s) s.wa.length (s.st.length - 1):=by
 obtain ⟨n,hn⟩:∃n,s.st.length=n+1:=⟨s.st.length - 1,by omega⟩
 have key:∀k,lN (alL s) n k=[]:=by
  intro k
  induction k with
  |zero=>rfl
  |succ k ih=>simp only [lN];rw [ih];unfold alL;rw [if_neg (by omega)];rfl
 rw [hn,Nat.add_sub_cancel]
 simp only [eh]
 rw [key,List.append_nil]
theorem DG{s:Spc}(i:Nat)(h0:0<s.wa.length):lN (upL s) i s.wa.length=lN (upL s) i (s.wa.length - 1):=by
 obtain ⟨n,hn⟩:∃n,s.wa.length=n+1:=⟨s.wa.length - 1,by omega⟩
 have e:upL s i n=[]:=by unfold upL;rw [if_neg (by omega)]
 rw [hn,Nat.add_sub_cancel]
 simp only [lN]
 rw [e,List.append_nil]
set_option maxHeartbeats 4000000 in
theorem mu{H:bn}{w:World}{σ:List Ent}{s:Srv}{vst vwa vr vc:Value}(hs:St H w σ)(h1:RI H vst s.sp.st)(h2:RI H vwa s.sp.wa)(h3:RRd H vr s.rs)(h4:RCm H vc s.cs)(he:s.early):
  Cl Tryz.prog 111 [.agg #[I s.sp.id,I s.sp.src,vst,vwa,I s.sp.al,I s.sp.up,vr,vc]] w fun u w'=>∃H1 en,HLe H H1∧cu 4 u (fQ s.cz) en∧St H1 w' (en::σ):=by
 obtain ⟨ast,cst,rfl⟩:=RI.shape h1
 obtain ⟨awa,cwa,rfl⟩:=RI.shape h2
 obtain ⟨ar,cr,rfl⟩:=RRd.shape h3
 obtain ⟨ac,cc,rfl⟩:=RCm.shape h4
 obtain ⟨hok,hrl,hcl,hrs,hcs⟩:=he
 have hsm:=eo hok
 have hn1:=hok.st.many
 have hn2:=hok.wa.many
 have hn3:=hok.st.two
 have hn4:=hok.wa.two
 have ha:=lM (nM s.sp) (m:=s.sp.wa.length) (n:=s.sp.st.length) (by omega) (by omega) (by omega)
 have hb:=lM (qX s.sp) (m:=s.sp.wa.length) (n:=s.sp.st.length) (by omega) (by omega) (by omega)
 have hc:=lM (qs s.sp) (m:=s.sp.wa.length) (n:=s.sp.st.length) (by omega) (by omega) (by omega)
 have hal:=hok.al
 have hup:=hok.up
 refine Cl.of Tryz.func111 rfl Tryz.ntmps111 (by simp) (aj (k:=0) rfl (bh)) ?_
 refine .ai ?_
 refine .o (.box hs rfl rfl ?_);intro b1 w hs
 refine .z zg (.nil (.ai (.z (zfa aR) (.y hs (zls [_,_,_,_,_,_] aT aH) ?_))))
 refine .o (.alloc hs fY rfl ?_);intro b3 w hs
 refine .o (.aS (vs:=[_,_,_,_,_,_]) hs rfl rfl aH ?_);intro w hs
 refine .nil (.ai (.z zg (.nil (.seq (.ai (.z zg (.nil (.block ?_))))))))
 refine .loop (fun p:Nat×Value=>⟨243,[],[(5,I (p.1:Int)),(4,p.2),(3,.pointer (some ⟨b3,0,none⟩)),(1,.pointer (some ⟨b1,0,none⟩))]⟩)
  (fun p w=>p.1≤s.sp.st.length∧∃en,cu 4 p.2 (fQ (eh (qk s.sp) s.sp.wa.length p.1)) en∧St H w (en:: .blk b3 [I s.sp.id,I s.sp.src,.slice ast s.sp.st.length cst,.slice awa s.sp.wa.length cwa,I s.sp.al,I s.sp.up]:: .blk b1 [I s.sp.id,I s.sp.src,.slice ast s.sp.st.length cst,.slice awa s.sp.wa.length cwa,I s.sp.al,I s.sp.up,.slice ar s.rs.length cr,.slice ac s.cs.length cc]::σ)) (fun p=>s.sp.st.length - p.1) (0,.slice none 0 0) (by repeat (first|exact .nil rfl rfl|refine .cons rfl ?_))
  ⟨by first|omega|exact Nat.zero_le _,_,.nil 4 none,hs.nul⟩ ?_
 rintro ⟨i,vo⟩ w ⟨hi,en,hO,hs⟩
 dsimp only at hi hO ⊢
 refine .seq (.ai (.z zm (.z (zfa bA) (.y hs (zld ak) (.z (cM aa) (.z fN (.nil ?_)))))))
 refine (.bJ rfl (fun hc27=>?_) (fun hc27=>?_))
 ·refine .skip ?_
  refine nT ?_
  refine .seq (.block (.ai (.z zg (.nil (.block ?_)))))
  refine .loop (fun p:Nat×Value=>⟨243,[],[(6,I (p.1:Int)),(4,p.2),(5,I (i:Int)),(3,.pointer (some ⟨b3,0,none⟩)),(1,.pointer (some ⟨b1,0,none⟩))]⟩)
   (fun p w=>p.1≤s.sp.wa.length∧∃en,cu 4 p.2 (fQ (eh (qk s.sp) s.sp.wa.length i++lN (qk s.sp) i p.1)) en∧St H w (en:: .blk b3 [I s.sp.id,I s.sp.src,.slice ast s.sp.st.length cst,.slice awa s.sp.wa.length cwa,I s.sp.al,I s.sp.up]:: .blk b1 [I s.sp.id,I s.sp.src,.slice ast s.sp.st.length cst,.slice awa s.sp.wa.length cwa,I s.sp.al,I s.sp.up,.slice ar s.rs.length cr,.slice ac s.cs.length cc]::σ)) (fun p=>s.sp.wa.length - p.1) (0,vo) (by repeat (first|exact .nil rfl rfl|refine .cons rfl ?_))
   ⟨by first|omega|exact Nat.zero_le _,en,by show cu 4 vo (fQ (_++[])) en;rw [List.append_nil];exact hO,hs⟩ ?_
  clear hO hs
  rintro ⟨k,vo⟩ w ⟨hk,en,hO,hs⟩
  dsimp only at hk hO ⊢
  have hl1:=lM (nM s.sp) (m:=s.sp.wa.length) (n:=i) (by omega) (by omega) (by omega)
  have hl2:=kR (nM s.sp) i k
  refine .seq (.ai (.z zm (.z (zfa bg) (.y hs (zld ak) (.z (cM aa) (.z fN (.nil ?_)))))))
  refine (.bJ rfl (fun hc34=>?_) (fun hc34=>?_))
  ·refine .skip ?_
   refine nT ?_
   refine .seq (.block (.ai (.y hs (zls [_,_,_,_,_,_] aT aH) (.z zm (.z zm ?_)))))
   refine .o (.call gn rfl (da (s:=s.sp) hs h2 (by omega) ⟨by omega,by omega⟩ ⟨by omega,by omega⟩) ?_);rintro _ w ⟨rfl,hs⟩
   rw [u6]
   refine .z zg (.nil (.region (.z zm (.z zm (.z (zfa dm) (.y hs (zld af) (.z (zbd [_,_,_,_] ek) (.z zm (.z (zfa dm) ?_)))))))))
   refine .y hs (zld af) (.z (zbd [_,_,_,_] ek) ?_)
   refine .o (.buildSlice (cells:=fQ (qk s.sp i k)) hs fk rfl (by kernel_rfl) ?_);intro b50 w hs
   refine .o (.append (ys:=fQ (qk s.sp i k)) hs bQ rfl rfl hO (.own .here rfl rfl) (jM _) (fun l h=>by rw [dp,List.length_append] at h;omega) ?_);intro v51 en51 w hO2 hs
   rw [←fw,List.append_assoc] at hO2
   refine .z zg (.nil ?_)
   refine nB (nT ?_)
   refine .region (.z zm (.z cA (.z zg (.nil ?_))))
   refine nT ?_
   exact ⟨(k+1,v51),.cq rfl (by simp) (by repeat (first|exact .nil rfl rfl|refine .cons rfl ?_)),⟨by dsimp only;omega,_,hO2,hs.sub (by repeat (first|exact Sub.refl _|constructor|apply Sub.weaken))⟩,by dsimp only;omega⟩
  ·refine .exit ?_
   refine xT (xT (xB (nB (nT ?_))))
   refine .region (.z zm (.z cA (.z zg (.nil ?_))))
   refine nT ?_
   obtain rfl:k=s.sp.wa.length:=by omega
   exact ⟨(i+1,_),.cq rfl (by simp) (by repeat (first|exact .nil rfl rfl|refine .cons rfl ?_)),⟨by dsimp only;omega,en,hO,hs⟩,by dsimp only;omega⟩
 ·refine .exit ?_
  refine xT (xT (xB (nT ?_)))
  refine .seq (.ai (.z zg (.nil (.block ?_))))
  refine .loop (fun p:Nat×Value=>⟨243,[],[(8,I (p.1:Int)),(4,p.2),(3,.pointer (some ⟨b3,0,none⟩)),(1,.pointer (some ⟨b1,0,none⟩))]⟩)
   (fun p w=>p.1+1≤s.sp.st.length∧∃en,cu 4 p.2 (fQ (eh (qk s.sp) s.sp.wa.length s.sp.st.length++eh (alL s.sp) s.sp.wa.length p.1)) en∧St H w (en:: .blk b3 [I s.sp.id,I s.sp.src,.slice ast s.sp.st.length cst,.slice awa s.sp.wa.length cwa,I s.sp.al,I s.sp.up]:: .blk b1 [I s.sp.id,I s.sp.src,.slice ast s.sp.st.length cst,.slice awa s.sp.wa.length cwa,I s.sp.al,I s.sp.up,.slice ar s.rs.length cr,.slice ac s.cs.length cc]::σ)) (fun p=>s.sp.st.length - p.1) (0,vo) (by repeat (first|exact .nil rfl rfl|refine .cons rfl ?_))
   ⟨by first|omega|exact Nat.zero_le _,en,by show cu 4 vo (fQ (_++[])) en;rw [List.append_nil,←show i=s.sp.st.length by omega];exact hO,hs⟩ ?_
  clear hO hs
  rintro ⟨i,vo⟩ w ⟨hi,en,hO,hs⟩
  dsimp only at hi hO ⊢
  refine .seq (.ai (.z zm (.z cA (.z (zfa bA) (.y hs (zld ak) (.z (cM aa) (.z fN (.nil ?_))))))))
  refine (.bJ rfl (fun hc57=>?_) (fun hc57=>?_))
  ·refine .skip ?_
   refine nT ?_
   refine .seq (.block (.ai (.z zg (.nil (.block ?_)))))
   refine .loop (fun p:Nat×Value=>⟨243,[],[(9,I (p.1:Int)),(4,p.2),(8,I (i:Int)),(3,.pointer (some ⟨b3,0,none⟩)),(1,.pointer (some ⟨b1,0,none⟩))]⟩)
    (fun p w=>p.1≤s.sp.wa.length∧∃en,cu 4 p.2 (fQ (eh (qk s.sp) s.sp.wa.length s.sp.st.length++eh (alL s.sp) s.sp.wa.length i++lN (alL s.sp) i p.1)) en∧St H w (en:: .blk b3 [I s.sp.id,I s.sp.src,.slice ast s.sp.st.length cst,.slice awa s.sp.wa.length cwa,I s.sp.al,I s.sp.up]:: .blk b1 [I s.sp.id,I s.sp.src,.slice ast s.sp.st.length cst,.slice awa s.sp.wa.length cwa,I s.sp.al,I s.sp.up,.slice ar s.rs.length cr,.slice ac s.cs.length cc]::σ)) (fun p=>s.sp.wa.length - p.1) (0,vo) (by repeat (first|exact .nil rfl rfl|refine .cons rfl ?_))
    ⟨by first|omega|exact Nat.zero_le _,en,by show cu 4 vo (fQ (_++[])) en;rw [List.append_nil];exact hO,hs⟩ ?_
   clear hO hs
   rintro ⟨k,vo⟩ w ⟨hk,en,hO,hs⟩
   dsimp only at hk hO ⊢
   have hl1:=lM (qX s.sp) (m:=s.sp.wa.length) (n:=i) (by omega) (by omega) (by omega)
   have hl2:=kR (qX s.sp) i k
   refine .seq (.ai (.z zm (.z (zfa bg) (.y hs (zld ak) (.z (cM aa) (.z fN (.nil ?_)))))))
   refine (.bJ rfl (fun hc64=>?_) (fun hc64=>?_))
   ·refine .skip ?_
    refine nT ?_
    refine .seq (.block ?_)
    refine .draw mix rfl hs ?_;intro w hs
    refine .z 0 rfl zm ?_;refine .ys 1 rfl hs [_,_,_,_,_,_] aT aH ?_;refine .z 2 rfl zm ?_;refine .z 3 rfl zm ?_;refine .ys 5 rfl hs [_,_,_,_,_,_] aT aH ?_;refine .z 6 rfl zm ?_;refine .z 7 rfl cA ?_;refine .z 8 rfl zm ?_;refine .z 10 rfl (zfa dO) ?_;refine .z 11 rfl (zfa iV) ?_
    refine .y 12 rfl hs af ?_;refine .z 13 rfl (zfa bA) ?_;refine .y 14 rfl hs ak ?_;refine .z 15 rfl zm ?_;refine .z 16 rfl cA ?_
    have hris:=hok.st.rise i (by omega)
    have hq0:=hok.st.bd (i:=i) (by omega)
    have hq1:=hok.st.bd (i:=i+1) (by omega)
    refine .ixX (enc:=fun x=>[I x]) (i:=17) hs rfl (by kernel_rfl) .none h1 rfl rfl aa ae (br (l:=s.sp.st) (i:=(i+1)) (by omega)) (by first|rfl|assumption|omega) ?_;intro b84 o84 hc84;replace hc84:=bG.one hc84
    refine .r (i:=18) hs rfl (by kernel_rfl) .none (aM rfl af hc84) ?_
    refine .z 19 rfl (zfa bA) ?_;refine .y 20 rfl hs ak ?_;refine .z 21 rfl zm ?_
    refine .ixX (enc:=fun x=>[I x]) (i:=22) hs rfl (by kernel_rfl) .none h1 rfl rfl aa ae (br (l:=s.sp.st) (i:=i) (by omega)) (by first|rfl|assumption|omega) ?_;intro b89 o89 hc89;replace hc89:=bG.one hc89
    refine .r (i:=23) hs rfl (by kernel_rfl) .none (aM rfl af hc89) ?_
    refine .z 24 rfl gM ?_;refine .z 26 rfl (zfa dm) ?_;refine .y 27 rfl hs af ?_
    refine .e1 (i:=4) (by kernel_rfl) rfl rfl .none hs ?_
    refine .call gn rfl (da (s:=s.sp) hs h2 (by omega) ⟨by omega,by omega⟩ ⟨by omega,by omega⟩) ?_;rintro _ w ⟨rfl,hs⟩
    rw [u6]
    refine .go ?_
    refine .e1 (i:=9) (by kernel_rfl) rfl rfl .none hs ?_
    refine .call gn rfl (da (s:=s.sp) hs h2 (by omega) ⟨by omega,by omega⟩ ⟨by omega,by omega⟩) ?_;rintro _ w ⟨rfl,hs⟩
    rw [u_int1]
    refine .go ?_
    refine .e1 (i:=25) (by kernel_rfl) rfl rfl .none hs ?_
    refine .call Tryz.call193 rfl (lI hs (by omega) (by omega)) ?_;rintro _ w ⟨rfl,hs⟩
    refine .go ?_
    refine .e1 (i:=28) (by kernel_rfl) rfl rfl .none hs ?_
    refine .call Tryz.call119 rfl (kl hs) ?_;rintro _ w ⟨b95,rfl,hs⟩
    rw [show two (s.sp.u i k:Int) _ _ _ _=alL s.sp i k by unfold alL;rw [if_pos (by omega)]] at hs
    refine .go ?_
    refine .e1 (i:=29) (by kernel_rfl) rfl rfl .none hs ?_
    refine .append (ys:=fQ (alL s.sp i k)) hs bQ rfl rfl hO (.own .here (by simp) (by rw [dp];unfold alL;rw [if_pos (by omega)];rfl)) (jM _) (fun l h=>by rw [dp] at h;simp only [List.length_append] at h;omega) ?_;intro v96 en96 w hO2 hs
    rw [←fw,List.append_assoc _ (lN _ _ _)] at hO2
    refine .go ?_
    refine .z 30 rfl zg ?_;refine .done (by kernel_rfl) hs ?_
    refine nB (nT ?_)
    refine .region (.z zm (.z cA (.z zg (.nil ?_))))
    refine nT ?_
    exact ⟨(k+1,v96),.cq rfl (by simp) (by repeat (first|exact .nil rfl rfl|refine .cons rfl ?_)),⟨by dsimp only;omega,_,hO2,hs.sub (by repeat (first|exact Sub.refl _|constructor|apply Sub.weaken))⟩,by dsimp only;omega⟩
   ·refine .exit ?_
    refine xT (xT (xB (nB (nT ?_))))
    refine .region (.z zm (.z cA (.z zg (.nil ?_))))
    refine nT ?_
    obtain rfl:k=s.sp.wa.length:=by omega
    rw [List.append_assoc] at hO
    exact ⟨(i+1,_),.cq rfl (by simp) (by repeat (first|exact .nil rfl rfl|refine .cons rfl ?_)),⟨by dsimp only;omega,en,hO,hs⟩,by dsimp only;omega⟩
  ·refine .exit ?_
   refine xT (xT (xB (nT ?_)))
   refine .seq (.ai (.z zg (.nil (.block ?_))))
   refine .loop (fun p:Nat×Value=>⟨243,[],[(10,I (p.1:Int)),(4,p.2),(3,.pointer (some ⟨b3,0,none⟩)),(1,.pointer (some ⟨b1,0,none⟩))]⟩)
    (fun p w=>p.1≤s.sp.st.length∧∃en,cu 4 p.2 (fQ (eh (qk s.sp) s.sp.wa.length s.sp.st.length++eh (alL s.sp) s.sp.wa.length s.sp.st.length++eh (upL s.sp) s.sp.wa.length p.1)) en∧St H w (en:: .blk b3 [I s.sp.id,I s.sp.src,.slice ast s.sp.st.length cst,.slice awa s.sp.wa.length cwa,I s.sp.al,I s.sp.up]:: .blk b1 [I s.sp.id,I s.sp.src,.slice ast s.sp.st.length cst,.slice awa s.sp.wa.length cwa,I s.sp.al,I s.sp.up,.slice ar s.rs.length cr,.slice ac s.cs.length cc]::σ)) (fun p=>s.sp.st.length - p.1) (0,vo) (by repeat (first|exact .nil rfl rfl|refine .cons rfl ?_))
    ⟨by first|omega|exact Nat.zero_le _,en,by show cu 4 vo (fQ (_++[])) en;rw [List.append_nil,Ef (by omega),←show i=s.sp.st.length - 1 by omega];exact hO,hs⟩ ?_
   clear hO hs
   rintro ⟨i,vo⟩ w ⟨hi,en,hO,hs⟩
   dsimp only at hi hO ⊢
   refine .seq (.ai (.z zm (.z (zfa bA) (.y hs (zld ak) (.z (cM aa) (.z fN (.nil ?_)))))))
   refine (.bJ rfl (fun hc101=>?_) (fun hc101=>?_))
   ·refine .skip ?_
    refine nT ?_
    refine .seq (.block (.ai (.z zg (.nil (.block ?_)))))
    refine .loop (fun p:Nat×Value=>⟨243,[],[(11,I (p.1:Int)),(4,p.2),(10,I (i:Int)),(3,.pointer (some ⟨b3,0,none⟩)),(1,.pointer (some ⟨b1,0,none⟩))]⟩)
     (fun p w=>p.1+1≤s.sp.wa.length∧∃en,cu 4 p.2 (fQ (eh (qk s.sp) s.sp.wa.length s.sp.st.length++eh (alL s.sp) s.sp.wa.length s.sp.st.length++eh (upL s.sp) s.sp.wa.length i++lN (upL s.sp) i p.1)) en∧St H w (en:: .blk b3 [I s.sp.id,I s.sp.src,.slice ast s.sp.st.length cst,.slice awa s.sp.wa.length cwa,I s.sp.al,I s.sp.up]:: .blk b1 [I s.sp.id,I s.sp.src,.slice ast s.sp.st.length cst,.slice awa s.sp.wa.length cwa,I s.sp.al,I s.sp.up,.slice ar s.rs.length cr,.slice ac s.cs.length cc]::σ)) (fun p=>s.sp.wa.length - p.1) (0,vo) (by repeat (first|exact .nil rfl rfl|refine .cons rfl ?_))
     ⟨by first|omega|exact Nat.zero_le _,en,by show cu 4 vo (fQ (_++[])) en;rw [List.append_nil];exact hO,hs⟩ ?_
    clear hO hs
    rintro ⟨k,vo⟩ w ⟨hk,en,hO,hs⟩
    dsimp only at hk hO ⊢
    have hl1:=lM (qs s.sp) (m:=s.sp.wa.length) (n:=i) (by omega) (by omega) (by omega)
    have hl2:=kR (qs s.sp) i k
    refine .seq (.ai (.z zm (.z cA (.z (zfa bg) (.y hs (zld ak) (.z (cM aa) (.z fN (.nil ?_))))))))
    refine (.bJ rfl (fun hc109=>?_) (fun hc109=>?_))
    ·refine .skip ?_
     refine nT ?_
     refine .seq (.block ?_)
     refine .draw mix rfl hs ?_;intro w hs
     refine .z 0 rfl zm ?_;refine .ys 1 rfl hs [_,_,_,_,_,_] aT aH ?_;refine .z 2 rfl zm ?_;refine .z 3 rfl zm ?_;refine .ys 5 rfl hs [_,_,_,_,_,_] aT aH ?_;refine .z 6 rfl zm ?_;refine .z 7 rfl zm ?_;refine .z 8 rfl cA ?_;refine .z 10 rfl (zfa dO) ?_;refine .z 11 rfl (zfa iU) ?_
     refine .y 12 rfl hs af ?_;refine .z 13 rfl (zfa bg) ?_;refine .y 14 rfl hs ak ?_;refine .z 15 rfl zm ?_;refine .z 16 rfl cA ?_
     have hris:=hok.wa.rise k (by omega)
     have hq0:=hok.wa.bd (i:=k) (by omega)
     have hq1:=hok.wa.bd (i:=k+1) (by omega)
     refine .ixX (enc:=fun x=>[I x]) (i:=17) hs rfl (by kernel_rfl) .none h2 rfl rfl aa ae (br (l:=s.sp.wa) (i:=(k+1)) (by omega)) (by first|rfl|assumption|omega) ?_;intro b129 o129 hc129;replace hc129:=bG.one hc129
     refine .r (i:=18) hs rfl (by kernel_rfl) .none (aM rfl af hc129) ?_
     refine .z 19 rfl (zfa bg) ?_;refine .y 20 rfl hs ak ?_;refine .z 21 rfl zm ?_
     refine .ixX (enc:=fun x=>[I x]) (i:=22) hs rfl (by kernel_rfl) .none h2 rfl rfl aa ae (br (l:=s.sp.wa) (i:=k) (by omega)) (by first|rfl|assumption|omega) ?_;intro b134 o134 hc134;replace hc134:=bG.one hc134
     refine .r (i:=23) hs rfl (by kernel_rfl) .none (aM rfl af hc134) ?_
     refine .z 24 rfl gM ?_;refine .z 26 rfl (zfa dm) ?_;refine .y 27 rfl hs af ?_
     refine .e1 (i:=4) (by kernel_rfl) rfl rfl .none hs ?_
     refine .call gn rfl (da (s:=s.sp) hs h2 (by omega) ⟨by omega,by omega⟩ ⟨by omega,by omega⟩) ?_;rintro _ w ⟨rfl,hs⟩
     rw [u6]
     refine .go ?_
     refine .e1 (i:=9) (by kernel_rfl) rfl rfl .none hs ?_
     refine .call gn rfl (da (s:=s.sp) hs h2 (by omega) ⟨by omega,by omega⟩ ⟨by omega,by omega⟩) ?_;rintro _ w ⟨rfl,hs⟩
     rw [u_int2]
     refine .go ?_
     refine .e1 (i:=25) (by kernel_rfl) rfl rfl .none hs ?_
     refine .call Tryz.call193 rfl (lI hs (by omega) (by omega)) ?_;rintro _ w ⟨rfl,hs⟩
     refine .go ?_
     refine .e1 (i:=28) (by kernel_rfl) rfl rfl .none hs ?_
     refine .call Tryz.call119 rfl (kl hs) ?_;rintro _ w ⟨b140,rfl,hs⟩
     rw [show two (s.sp.u i k:Int) _ _ _ _=upL s.sp i k by unfold upL;rw [if_pos (by omega)]] at hs
     refine .go ?_
     refine .e1 (i:=29) (by kernel_rfl) rfl rfl .none hs ?_
     refine .append (ys:=fQ (upL s.sp i k)) hs bQ rfl rfl hO (.own .here (by simp) (by rw [dp];unfold upL;rw [if_pos (by omega)];rfl)) (jM _) (fun l h=>by rw [dp] at h;simp only [List.length_append] at h;omega) ?_;intro v141 en141 w hO2 hs
     rw [←fw,List.append_assoc _ (lN _ _ _)] at hO2
     refine .go ?_
     refine .z 30 rfl zg ?_;refine .done (by kernel_rfl) hs ?_
     refine nB (nT ?_)
     refine .region (.z zm (.z cA (.z zg (.nil ?_))))
     refine nT ?_
     exact ⟨(k+1,v141),.cq rfl (by simp) (by repeat (first|exact .nil rfl rfl|refine .cons rfl ?_)),⟨by dsimp only;omega,_,hO2,hs.sub (by repeat (first|exact Sub.refl _|constructor|apply Sub.weaken))⟩,by dsimp only;omega⟩
    ·refine .exit ?_
     refine xT (xT (xB (nB (nT ?_))))
     refine .region (.z zm (.z cA (.z zg (.nil ?_))))
     refine nT ?_
     obtain rfl:k=s.sp.wa.length - 1:=by omega
     rw [List.append_assoc,←DG i (by omega)] at hO
     exact ⟨(i+1,_),.cq rfl (by simp) (by repeat (first|exact .nil rfl rfl|refine .cons rfl ?_)),⟨by dsimp only;omega,en,hO,hs⟩,by dsimp only;omega⟩
   ·refine .exit ?_
    refine xT (xT (xB (nT ?_)))
    refine .ai (.z (zfa aJ) (.y hs (zld bp) ?_))
    obtain rfl:i=s.sp.st.length:=by omega
    refine .o (.call lz rfl (eA hs h3 (by omega)) ?_);rintro v144 w ⟨H1,hle1,hT,hs⟩
    replace hT:RTd H1 v144 s.bu:=hT
    have htl:s.bu.length≤60:=by have:=cF s.rs;unfold Srv.bu;omega
    have hmem:∀r∈s.rs,r.td∈s.bu:=fun r hr=>fR.2 ⟨r,hr,rfl⟩
    have hlims:s.cz=eh (qk s.sp) s.sp.wa.length s.sp.st.length++eh (alL s.sp) s.sp.wa.length s.sp.st.length++eh (upL s.sp) s.sp.wa.length s.sp.st.length++vP s.sp s.bu.length++qP s.sp s.bu s.cs 0 s.cs.length++tz s.sp s.bu s.rs s.rs.length:=rfl
    generalize s.bu=ts at*
    obtain ⟨at_,ct,rfl⟩:=RTd.shape hT
    refine .z zg (.nil (.ai (.y hs (zls [_,_,_,_,_,_] aT aH) ?_)))
    refine .o (.call nQ rfl (dT (s:=s.sp) hs (h1.mono hle1) (h2.mono hle1) ⟨by omega,by omega⟩) ?_);rintro _ w ⟨rfl,hs⟩
    refine .z zg (.nil (.seq (.ai (.z zg (.nil (.block ?_))))))
    refine .loop (fun p:Nat×Value=>⟨243,[],[(14,I (p.1:Int)),(4,p.2),(12,.slice at_ ts.length ct),(13,I (s.sp.many:Int)),(3,.pointer (some ⟨b3,0,none⟩)),(1,.pointer (some ⟨b1,0,none⟩))]⟩)
     (fun p w=>p.1≤ts.length∧∃en,cu 4 p.2 (fQ (eh (qk s.sp) s.sp.wa.length s.sp.st.length++eh (alL s.sp) s.sp.wa.length s.sp.st.length++eh (upL s.sp) s.sp.wa.length s.sp.st.length++vP s.sp p.1)) en∧St H1 w (en:: .blk b3 [I s.sp.id,I s.sp.src,.slice ast s.sp.st.length cst,.slice awa s.sp.wa.length cwa,I s.sp.al,I s.sp.up]:: .blk b1 [I s.sp.id,I s.sp.src,.slice ast s.sp.st.length cst,.slice awa s.sp.wa.length cwa,I s.sp.al,I s.sp.up,.slice ar s.rs.length cr,.slice ac s.cs.length cc]::σ)) (fun p=>ts.length - p.1) (0,vo) (by repeat (first|exact .nil rfl rfl|refine .cons rfl ?_))
     ⟨by first|omega|exact Nat.zero_le _,en,by show cu 4 vo (fQ (_++[])) en;rw [List.append_nil];exact hO,hs⟩ ?_
    clear hO hs
    rintro ⟨j,vo⟩ w ⟨hj,en,hO,hs⟩
    dsimp only at hj hO ⊢
    have hel:=js s.sp j
    refine .seq (.ai (.z zm (.z zm (.z (cM aF) (.z fN (.nil ?_))))))
    refine (.bJ rfl (fun hc150=>?_) (fun hc150=>?_))
    ·refine .skip ?_
     refine nT ?_
     refine .seq (.block (.region (.z zm (.z zm (.z cA (.z zm (.z cA (.z (zfa dm) (.y hs (zld af) ?_)))))))))
     refine .o (.call Tryz.call119 rfl (kl hs) ?_);rintro _ w ⟨b160,rfl,hs⟩
     refine .o (.append (ys:=fQ (two 0 ((s.sp.many:Int)+1+(j:Int)) 1000 1000 s.sp.src)) hs bQ rfl rfl hO (.own .here rfl rfl) (jM _) (fun l h=>by rw [dp] at h;simp only [List.length_append] at h;omega) ?_);intro v161 en161 w hO2 hs
     rw [←fw,List.append_assoc _ (vP _ _),show (s.sp.many:Int)+1+(j:Int)=((s.sp.many+1+j:Nat):Int) by omega] at hO2
     refine .z zg (.nil ?_)
     refine nB (nT ?_)
     refine .region (.z zm (.z cA (.z zg (.nil ?_))))
     refine nT ?_
     exact ⟨(j+1,v161),.cq rfl (by simp) (by repeat (first|exact .nil rfl rfl|refine .cons rfl ?_)),⟨by dsimp only;omega,_,hO2,hs.sub (by repeat (first|exact Sub.refl _|constructor|apply Sub.weaken))⟩,by dsimp only;omega⟩
    ·refine .exit ?_
     refine xT (xT (xB (nT ?_)))
     refine .seq (.ai (.z zg (.nil (.block ?_))))
     refine .loop (fun p:Nat×Value=>⟨243,[],[(15,I (p.1:Int)),(4,p.2),(12,.slice at_ ts.length ct),(13,I (s.sp.many:Int)),(3,.pointer (some ⟨b3,0,none⟩)),(1,.pointer (some ⟨b1,0,none⟩))]⟩)
      (fun p w=>p.1≤s.cs.length∧∃en,cu 4 p.2 (fQ (eh (qk s.sp) s.sp.wa.length s.sp.st.length++eh (alL s.sp) s.sp.wa.length s.sp.st.length++eh (upL s.sp) s.sp.wa.length s.sp.st.length++vP s.sp ts.length++qP s.sp ts s.cs 0 p.1)) en∧St H1 w (en:: .blk b3 [I s.sp.id,I s.sp.src,.slice ast s.sp.st.length cst,.slice awa s.sp.wa.length cwa,I s.sp.al,I s.sp.up]:: .blk b1 [I s.sp.id,I s.sp.src,.slice ast s.sp.st.length cst,.slice awa s.sp.wa.length cwa,I s.sp.al,I s.sp.up,.slice ar s.rs.length cr,.slice ac s.cs.length cc]::σ)) (fun p=>s.cs.length - p.1) (0,vo) (by repeat (first|exact .nil rfl rfl|refine .cons rfl ?_))
      ⟨by first|omega|exact Nat.zero_le _,en,by show cu 4 vo (fQ (_++[])) en;rw [List.append_nil,←show j=ts.length by omega];exact hO,hs⟩ ?_
     clear hO hs
     rintro ⟨i,vo⟩ w ⟨hi,en,hO,hs⟩
     dsimp only at hi hO ⊢
     have hel:=js s.sp ts.length
     have hcl1:=iq s.sp ts s.cs 0 i
     have hcl2:i*(2*(ts.length - 0))≤20*(2*60):=Nat.mul_le_mul (by omega) (by omega)
     refine .seq (.ai (.z zm (.z (zfa bT) (.y hs (zld dD) (.z (cM aV) (.z fN (.nil ?_)))))))
     refine (.bJ rfl (fun hc166=>?_) (fun hc166=>?_))
     ·refine .skip ?_
      refine nT ?_
      refine .seq (.block (.ai (.z zg (.nil (.block ?_)))))
      refine .loop (fun p:Nat×Value=>⟨243,[],[(16,I (p.1:Int)),(4,p.2),(15,I (i:Int)),(12,.slice at_ ts.length ct),(13,I (s.sp.many:Int)),(3,.pointer (some ⟨b3,0,none⟩)),(1,.pointer (some ⟨b1,0,none⟩))]⟩)
       (fun p w=>p.1≤ts.length∧∃en,cu 4 p.2 (fQ (eh (qk s.sp) s.sp.wa.length s.sp.st.length++eh (alL s.sp) s.sp.wa.length s.sp.st.length++eh (upL s.sp) s.sp.wa.length s.sp.st.length++vP s.sp ts.length++qP s.sp ts s.cs 0 i++ky s.sp ts (yo s.cs i) 0 p.1)) en∧St H1 w (en:: .blk b3 [I s.sp.id,I s.sp.src,.slice ast s.sp.st.length cst,.slice awa s.sp.wa.length cwa,I s.sp.al,I s.sp.up]:: .blk b1 [I s.sp.id,I s.sp.src,.slice ast s.sp.st.length cst,.slice awa s.sp.wa.length cwa,I s.sp.al,I s.sp.up,.slice ar s.rs.length cr,.slice ac s.cs.length cc]::σ)) (fun p=>ts.length - p.1) (0,vo) (by repeat (first|exact .nil rfl rfl|refine .cons rfl ?_))
       ⟨by first|omega|exact Nat.zero_le _,en,by show cu 4 vo (fQ (_++[])) en;rw [List.append_nil];exact hO,hs⟩ ?_
      clear hO hs
      rintro ⟨j,vo⟩ w ⟨hj,en,hO,hs⟩
      dsimp only at hj hO ⊢
      have hl1:=kU s.sp ts (yo s.cs i) 0 j
      refine .seq (.ai (.z zm (.z zm (.z (cM aF) (.z fN (.nil ?_))))))
      refine (.bJ rfl (fun hc172=>?_) (fun hc172=>?_))
      ·refine .skip ?_
       refine nT ?_
       refine .seq (.block ?_)
       refine .draw mix rfl hs ?_;intro w hs
       refine .z 0 rfl zm ?_;refine .z 1 rfl (zfa bT) ?_;refine .y 2 rfl hs dD ?_;refine .z 3 rfl zm ?_
       obtain ⟨c,hx⟩:=nth (l:=s.cs) (k:=i) (by omega)
       obtain ⟨t,ht⟩:=nth (l:=ts) (k:=j) (by omega)
       obtain ⟨g1,g2,g3,g4,g5,g6⟩:=hcs c (List.mem_of_getElem? hx)
       have ec:=Br hx
       have et:=Da ht
       refine .ixX (enc:=Cmp.c) (i:=4) hs rfl (by kernel_rfl) .none (h4.mono hle1) rfl rfl aV bX hx (by first|rfl|assumption|omega) ?_;intro b179 o179 hc179
       refine .r (i:=5) hs rfl (by kernel_rfl) .none (cj (vs:=c.c) rfl rn bX hc179) ?_
       refine .z 6 rfl zm ?_;refine .z 7 rfl zm ?_
       refine .ixX (enc:=TD.c) (i:=8) hs rfl (by kernel_rfl) .none hT rfl rfl aF aP ht (by first|rfl|assumption|omega) ?_;intro b183 o183 hc183
       refine .r (i:=9) hs rfl (by kernel_rfl) .none (cj (vs:=t.c) rfl bV aP hc183) ?_
       refine .z 10 rfl zm ?_;refine .z 11 rfl cA ?_;refine .z 12 rfl zm ?_;refine .z 13 rfl cA ?_
       refine .e1 (i:=14) (by kernel_rfl) rfl rfl .none hs ?_
       refine .call Tryz.call194 rfl (sL (c:=c) (t:=t) hs ⟨by omega,by omega⟩) ?_;rintro v189 w ⟨en189,hO189,hs⟩
       obtain ⟨a189,l189,c189,rfl,h189⟩:=hO189.shape
       refine .go ?_
       refine .e1 (i:=15) (by kernel_rfl) rfl rfl .none hs ?_
       refine .append (ys:=fQ (k8 c t ((s.sp.many:Int)+1+(j:Int)))) hs bQ rfl rfl hO (Src.ofOwn hO189 .here) (jM _) (fun l h=>by rw [dp] at h;simp only [List.length_append] at h;have:=wK c t ((s.sp.many:Int)+1+(j:Int));rw [dp] at h189;omega) ?_;intro v190 en190 w hO2 hs
       rw [←fw,List.append_assoc _ (ky _ _ _ _ _),show ky s.sp ts (yo s.cs i) 0 j++k8 c t ((s.sp.many:Int)+1+(j:Int))=ky s.sp ts (yo s.cs i) 0 (j+1) by
        show _=_++k8 (yo s.cs i) (td0 ts (0+j)) ((s.sp.many+1+(0+j):Nat):Int)
        rw [Nat.zero_add,ec,et,show ((s.sp.many+1+j:Nat):Int)=(s.sp.many:Int)+1+(j:Int) by omega]] at hO2
       refine .go ?_
       refine .z 16 rfl zg ?_;refine .done (by kernel_rfl) hs ?_
       refine nB (nT ?_)
       refine .region (.z zm (.z cA (.z zg (.nil ?_))))
       refine nT ?_
       exact ⟨(j+1,v190),.cq rfl (by simp) (by repeat (first|exact .nil rfl rfl|refine .cons rfl ?_)),⟨by dsimp only;omega,_,hO2,hs.sub (by repeat (first|exact Sub.refl _|constructor|apply Sub.weaken))⟩,by dsimp only;omega⟩
      ·refine .exit ?_
       refine xT (xT (xB (nB (nT ?_))))
       refine .region (.z zm (.z cA (.z zg (.nil ?_))))
       refine nT ?_
       obtain rfl:j=ts.length:=by omega
       rw [List.append_assoc _ (qP _ _ _ _ _)] at hO
       exact ⟨(i+1,_),.cq rfl (by simp) (by repeat (first|exact .nil rfl rfl|refine .cons rfl ?_)),⟨by dsimp only;omega,en,hO,hs⟩,by dsimp only;omega⟩
     ·refine .exit ?_
      refine xT (xT (xB (nT ?_)))
      refine .seq (.ai (.z zg (.nil (.block ?_))))
      refine .loop (fun p:Nat×Value=>⟨243,[],[(17,I (p.1:Int)),(4,p.2),(12,.slice at_ ts.length ct),(13,I (s.sp.many:Int)),(3,.pointer (some ⟨b3,0,none⟩)),(1,.pointer (some ⟨b1,0,none⟩))]⟩)
       (fun p w=>p.1≤s.rs.length∧∃en,cu 4 p.2 (fQ (eh (qk s.sp) s.sp.wa.length s.sp.st.length++eh (alL s.sp) s.sp.wa.length s.sp.st.length++eh (upL s.sp) s.sp.wa.length s.sp.st.length++vP s.sp ts.length++qP s.sp ts s.cs 0 s.cs.length++tz s.sp ts s.rs p.1)) en∧St H1 w (en:: .blk b3 [I s.sp.id,I s.sp.src,.slice ast s.sp.st.length cst,.slice awa s.sp.wa.length cwa,I s.sp.al,I s.sp.up]:: .blk b1 [I s.sp.id,I s.sp.src,.slice ast s.sp.st.length cst,.slice awa s.sp.wa.length cwa,I s.sp.al,I s.sp.up,.slice ar s.rs.length cr,.slice ac s.cs.length cc]::σ)) (fun p=>s.rs.length - p.1) (0,vo) (by repeat (first|exact .nil rfl rfl|refine .cons rfl ?_))
       ⟨by first|omega|exact Nat.zero_le _,en,by show cu 4 vo (fQ (_++[])) en;rw [List.append_nil,←show i=s.cs.length by omega];exact hO,hs⟩ ?_
      clear hO hs
      rintro ⟨q,vo⟩ w ⟨hq,en,hO,hs⟩
      dsimp only at hq hO ⊢
      have hrl1:=jq s.sp ts s.rs q
      have hcl3:=iq s.sp ts s.cs 0 s.cs.length
      have hcl4:s.cs.length*(2*(ts.length - 0))≤20*(2*60):=Nat.mul_le_mul (by omega) (by omega)
      refine .seq (.ai (.z zm (.z (zfa aJ) (.y hs (zld bp) (.z (cM au) (.z fN (.nil ?_)))))))
      refine (.bJ rfl (fun hc195=>?_) (fun hc195=>?_))
      ·refine .skip ?_
       refine nT ?_
       refine .seq (.block (.ai (.z (zfa aJ) (.y hs (zld bp) (.z zm ?_)))))
       obtain ⟨r,hx⟩:=nth (l:=s.rs) (k:=q) (by omega)
       obtain ⟨g1,g2,g3,g4,g5,g6,g7⟩:=hrs r (List.mem_of_getElem? hx)
       obtain ⟨m,k1,k2,k3⟩:=fg (hmem r (List.mem_of_getElem? hx))
       refine .ixX (enc:=Rdg.c) hs (h3.mono hle1) rfl rfl au aE hx (by first|rfl|assumption|omega) ?_;intro b201 o201 hc201
       refine .q hs (cj (vs:=(Rdg.c r)) rfl du aE hc201) ?_
       refine .o (.alloc hs dS rfl ?_);intro b18 w hs
       refine .o (.aS (vs:=r.c) hs rfl rfl aE ?_);intro w hs
       change St _ _ (.blk b18 [I r.src,I r.st,I r.wa,I r.val,I r.tol,I r.tape,I r.day]::_) at hs
       refine .nil (.ai (.y hs (zls [_,_,_,_,_,_] aT aH) (.z (zfa eD) (.y hs (zld af) (.z (zfa eC) (.y hs (zld af) ?_))))))
       refine .o (.call gn rfl (da (s:=s.sp) hs (h2.mono hle1) (by omega) ⟨by omega,by omega⟩ ⟨by omega,by omega⟩) ?_);rintro _ w ⟨rfl,hs⟩
       refine .z zg (.nil (.ai (.z zm (.z cA (.z zm (.z (zfa dW) (.y hs (zld af) (.z (zfa dV) (.y hs (zld af) ?_)))))))))
       refine .z (zbd [_,_] fJ) ?_
       refine .o (.call rp rfl (ia (t:=r.td) hs hT (by omega)) ?_);rintro _ w ⟨rfl,hs⟩
       refine .z cA (.z zg (.nil (.region (.z zm (.z zm (.z zm (.z (zfa cK) (.y hs (zld af) (.z (zfa ck) ?_)))))))))
       refine .y hs (zld af) (.z cA (.z (zfa dX) (.y hs (zld af) (.z (zbd [_,_,_,_] ek) (.z zm (.z zm (.z (zfa ck) (.y hs (zld af) (.z (zfa cK) ?_)))))))))
       refine .y hs (zld af) (.z gM (.z (zfa dX) (.y hs (zld af) (.z (zbd [_,_,_,_] ek) ?_))))
       refine .o (.buildSlice (cells:=fQ (sV s.sp ts r)) hs fk rfl (by kernel_rfl) ?_);intro b240 w hs
       refine .o (.append (ys:=fQ (sV s.sp ts r)) hs bQ rfl rfl hO (.own .here rfl rfl) (jM _) (fun l h=>by rw [dp] at h;simp only [List.length_append] at h;omega) ?_);intro v241 en241 w hO2 hs
       rw [←fw,List.append_assoc _ (tz _ _ _ _),show tz s.sp ts s.rs q++sV s.sp ts r=tz s.sp ts s.rs (q+1) by rw [←AI hx];rfl] at hO2
       refine .z zg (.nil ?_)
       refine nB (nT ?_)
       refine .region (.z zm (.z cA (.z zg (.nil ?_))))
       refine nT ?_
       exact ⟨(q+1,v241),.cq rfl (by simp) (by repeat (first|exact .nil rfl rfl|refine .cons rfl ?_)),⟨by dsimp only;omega,_,hO2,hs.sub (by repeat (first|exact Sub.refl _|constructor|apply Sub.weaken))⟩,by dsimp only;omega⟩
      ·refine .exit ?_
       refine xT (xT (xB (nT ?_)))
       refine .ai (.z zm (.z zg (.nil ?_)))
       refine .ret (Fin.bI Tryz.results111 rfl ?_)
       obtain rfl:q=s.rs.length:=by omega
       exact ⟨H1,en,hle1,by rw [hlims];exact hO,hs.sub (by repeat (first|exact Sub.refl _|constructor|apply Sub.weaken))⟩
theorem rG{H:bn}{w:World}{σ:List Ent}{s:Srv}{vst vwa vr vc:Value}(hs:St H w σ)(h1:RI H vst s.sp.st)(h2:RI H vwa s.sp.wa)(h3:RRd H vr s.rs)(h4:RCm H vc s.cs)(he:s.early):
  Cl Tryz.prog 95 [.agg #[I s.sp.id,I s.sp.src,vst,vwa,I s.sp.al,I s.sp.up,vr,vc]] w fun u w'=>∃H1 vl en,HLe H H1∧u= .agg #[I s.sys.many,vl]∧cu 4 vl (fQ s.cz) en∧St H1 w' (en::σ):=by
 have hsm:=eo he.1
 have hrl:=he.2.1
 have htl:s.bu.length≤60:=by have:=cF s.rs;unfold Srv.bu;omega
 refine Cl.of Tryz.func95 rfl Tryz.ntmps95 (by simp) (aj (k:=0) rfl (bh)) ?_
 refine .ai ?_
 refine .o (.box hs rfl rfl ?_);intro b1 w hs
 refine .o (.alloc hs bY rfl ?_);intro b2 w hs
 refine .nil ?_
 refine .seq (.draw mix rfl hs ?_);intro w hs
 refine .z 0 rfl (zfa aR) ?_;refine .ys 1 rfl hs [_,_,_,_,_,_] aT aH ?_;refine .z 3 rfl (zfa aJ) ?_;refine .y 4 rfl hs bp ?_;refine .ys 8 rfl hs [_,_,_,_,_,_,_,_] aN aD ?_
 refine .e1 (i:=2) (by kernel_rfl) rfl rfl .none hs ?_
 refine .call nQ rfl (dT (s:=s.sp) hs h1 h2 ⟨by omega,by omega⟩) ?_;rintro _ w ⟨rfl,hs⟩
 refine .go ?_
 refine .e1 (i:=5) (by kernel_rfl) rfl rfl .none hs ?_
 refine .call lz rfl (eA hs h3 (by omega)) ?_;rintro v8 w ⟨H1,hle1,hT,hs⟩
 replace hT:RTd H1 v8 s.bu:=hT
 obtain ⟨at_,ct,rfl⟩:=RTd.shape hT
 refine .go ?_
 refine .z 6 rfl (cM aF) ?_;refine .z 7 rfl cA ?_
 refine .e1 (i:=9) (by kernel_rfl) rfl rfl .none hs ?_
 refine .call Tryz.call111 rfl (mu (s:=s) hs (h1.mono hle1) (h2.mono hle1) (h3.mono hle1) (h4.mono hle1) he) ?_;rintro v12 w ⟨H2,en,hle2,hO,hs⟩
 obtain ⟨al,ll,cl,rfl,hll⟩:=hO.shape
 refine .go ?_
 refine .z 10 rfl (zbd [_,_] gg) ?_
 refine .e1 (i:=11) (by kernel_rfl) rfl rfl .none hs ?_
 refine .aS (vs:=[_,_]) hs rfl rfl aB ?_;intro w hs
 refine .go ?_
 refine .done (by kernel_rfl) hs ?_
 refine .ret ?_
 replace hs:St H2 w (.blk b2 [I ((s.sp.many:Int)+(s.bu.length:Int)),.slice al ll cl]::en::σ):=hs.sub (by repeat (first|exact Sub.refl _|constructor|apply Sub.weaken))
 exact Fin.iG [] [] hs fun w hs=>⟨_,results1 Tryz.results95 (dH (vs:=[_,_]) hs rfl aU aB),H2,_,en,hle1.trans hle2,by show _=Value.agg #[I ((s.sp.many+s.bu.length:Nat):Int),_];rw [Int.natCast_add],hO,hs.tail⟩
theorem gL{H:bn}{w:World}{σ:List Ent}{s:Srv}{vst vwa vr vc:Value}(hs:St H w σ)(h1:RI H vst s.sp.st)(h2:RI H vwa s.sp.wa)(h3:RRd H vr s.rs)(h4:RCm H vc s.cs)(he:s.early):
  Cl Tryz.prog 95 [.agg #[I s.sp.id,I s.sp.src,vst,vwa,I s.sp.al,I s.sp.up,vr,vc]] w fun u w'=>∃H1,HLe H H1∧RSy H1 u s.sys∧St H1 w' σ:=by
 refine (rG hs h1 h2 h3 h4 he).mono ?_
 rintro u w' ⟨H1,vl,en,hle,rfl,hO,hs⟩
 have hl:=jD he 6 (by omega)
 rw [s.s4] at hl
 obtain ⟨H2,hle2,hR,hs⟩:=cu.cP (m:=4) (cs:=s.cz.map Lim.c) hO (fun c hc=>by simp only [List.mem_map] at hc;obtain ⟨x,_,rfl⟩:=hc;rfl) (by omega) (by rw [List.length_map];omega) hs .here
 exact ⟨H2,hle.trans hle2,⟨vl,rfl,hR⟩,hs⟩
set_option maxHeartbeats 1000000 in
theorem ib{H:bn}{w:World}{σ:List Ent}{s:Srv}{vst vwa vr vc:Value}(hs:St H w σ)(h1:RI H vst s.sp.st)(h2:RI H vwa s.sp.wa)(h3:RRd H vr s.rs)(h4:RCm H vc s.cs):
  Cl Tryz.prog 43 [.agg #[I s.sp.id,I s.sp.src,vst,vwa,I s.sp.al,I s.sp.up,vr,vc]] w fun u w'=>∃H1 e,HLe H H1∧u=I e∧uS s e∧St H1 w' σ:=by
 obtain ⟨ast,cst,rfl⟩:=RI.shape h1
 obtain ⟨awa,cwa,rfl⟩:=RI.shape h2
 obtain ⟨ar,cr,rfl⟩:=RRd.shape h3
 obtain ⟨ac,cc,rfl⟩:=RCm.shape h4
 refine Cl.of Tryz.func43 rfl Tryz.ntmps43 (by simp) (aj (k:=0) rfl (bh)) ?_
 refine .ai ?_
 refine .o (.box hs rfl rfl ?_);intro b1 w hs
 refine .z zg (.nil (.seq (.ai (.z (zfa aR) (.y hs (zls [_,_,_,_,_,_] aT aH) ?_)))))
 refine .o (.call Tryz.call24 rfl (jA (s:=s.sp) hs h1 h2) ?_);rintro _ w ⟨e,rfl,he,hs⟩
 refine .z iA (.nil ?_)
 refine (.e9 rfl (fun hc8=>?_) (fun hc8=>?_))
 ·refine .ai (.z zg (.nil ?_))
  refine .ret (rT (Fin.bI iy rfl ?_))
  have hq:¬fB s.sp∧e=30:=he.resolve_left fun h=>hc8 h.2
  exact ⟨H,_,HLe.refl H,rfl,.space hq.1,hs.out⟩
 ·refine .skip ?_
  refine nT ?_
  refine .seq (.ai (.z (zfa aJ) ?_))
  have hok:fB s.sp:=(he.resolve_right fun h=>by omega).1
  refine .y hs (zld bp) (.z (cM au) (.z lk (.z zm ?_)))
  refine .iE (t':=13) rfl (fun hb13=>?_) (fun hb13=>?_)
  ·refine .gFs 4 4 false rfl rfl rfl ?_
   refine .z zpT (.nil ?_)
   refine (.fj rfl (by first|rfl|exact decide_eq_true (by assumption)) ?_)
   refine .ai (.z zg (.nil ?_))
   refine .ret (rT (Fin.bI iy rfl ?_))
   exact ⟨H,_,HLe.refl H,rfl,.long hok (by omega),hs.out⟩
  ·refine .gT rfl rfl ?_
   refine .z (zfa bT) ?_
   refine .gT rfl rfl ?_
   refine .y hs (zld dD) ?_
   refine .gT rfl rfl ?_
   refine .z (cM aV) ?_
   refine .gT rfl rfl ?_
   refine .z lk (.z zpF (.nil ?_))
   refine (.bJ rfl (fun hc18=>?_) (fun hc18=>?_))
   ·refine .ai (.z zg (.nil ?_))
    refine .ret (rT (Fin.bI iy rfl ?_))
    exact ⟨H,_,HLe.refl H,rfl,.long hok (by omega),hs.out⟩
   ·refine .skip ?_
    refine nT ?_
    refine .seq (.ai (.z zg (.nil (.block ?_))))
    refine .loop (fun k:Nat=>⟨64,[],[(3,I (k:Int)),(1,.pointer (some ⟨b1,0,none⟩))]⟩)
     (fun k w=>k≤s.rs.length∧(∀j<k,∀y,s.rs[j]? =some y→jt s.sp y)∧St H w (.blk b1 [I s.sp.id,I s.sp.src,.slice ast s.sp.st.length cst,.slice awa s.sp.wa.length cwa,I s.sp.al,I s.sp.up,.slice ar s.rs.length cr,.slice ac s.cs.length cc]::σ)) (fun k=>s.rs.length - k) 0 (by repeat (first|exact .nil rfl rfl|refine .cons rfl ?_))
     ⟨Nat.zero_le _,fun j hj=>by omega,hs⟩ ?_
    rintro k w ⟨hk,hno,hs⟩
    refine .seq (.ai (.z zm (.z (zfa aJ) (.y hs (zld bp) (.z (cM au) (.z fN (.nil ?_)))))))
    refine (.bJ rfl (fun hc23=>?_) (fun hc23=>?_))
    ·refine .skip ?_
     refine nT ?_
     refine .seq (.block ?_)
     refine .seq (.draw mix rfl hs ?_);intro w hs
     refine .z 0 rfl (zfa aR) ?_;refine .ys 1 rfl hs [_,_,_,_,_,_] aT aH ?_;refine .z 2 rfl (zfa aJ) ?_;refine .y 3 rfl hs bp ?_;refine .z 4 rfl zm ?_
     obtain ⟨r,hx⟩:=nth (l:=s.rs) (k:=k) (by omega)
     refine .ixX (enc:=Rdg.c) (i:=5) hs rfl (by kernel_rfl) .none h3 rfl rfl au aE hx (by first|rfl|assumption|omega) ?_;intro b31 o31 hc31
     refine .r (i:=6) hs rfl (by kernel_rfl) .none (cj (vs:=r.c) rfl du aE hc31) ?_
     refine .e1 (i:=7) (by kernel_rfl) rfl rfl .none hs ?_
     refine .call Tryz.call109 rfl (iL (s:=s.sp) (r:=r) hs h1 h2) ?_;rintro _ w ⟨b33,rfl,hb33,hs⟩
     refine .go ?_
     refine .z 8 rfl iI ?_;refine .done (by kernel_rfl) hs ?_
     refine (.cond rfl (fun hc34=>?_) (fun hc34=>?_))
     ·refine .ai (.z zg (.nil ?_))
      refine .ret (rB (rT (rT (rB (rT (Fin.bI iy rfl ?_))))))
      exact ⟨H,_,HLe.refl H,rfl,.rdg hok (by omega) (fun h=>by rw [hb33.2 (h r (List.mem_of_getElem? hx))] at hc34;cases hc34),hs.out⟩
     ·refine .skip ?_
      refine nB (nT ?_)
      refine .region (.z zm (.z cA (.z zg (.nil ?_))))
      refine nT ?_
      exact ⟨k+1,.cq rfl (by simp) (by repeat (first|exact .nil rfl rfl|refine .cons rfl ?_)),⟨by omega,eK hno hx (hb33.1 (by simpa using hc34)),hs⟩,by omega⟩
    ·refine .exit ?_
     refine xT (xT (xB (nT ?_)))
     refine .seq (.ai (.z zg (.nil (.block ?_))))
     have hrs:∀r∈s.rs,jt s.sp r:=fun r hr=>by
      obtain ⟨j,hj⟩:=List.getElem?_of_mem hr
      have:=(List.getElem?_eq_some_iff.1 hj).1
      exact hno j (by omega) r hj
     clear hno
     refine .loop (fun k:Nat=>⟨64,[],[(4,I (k:Int)),(1,.pointer (some ⟨b1,0,none⟩))]⟩)
      (fun k w=>k≤s.cs.length∧(∀j<k,∀y,s.cs[j]? =some y→pa y)∧St H w (.blk b1 [I s.sp.id,I s.sp.src,.slice ast s.sp.st.length cst,.slice awa s.sp.wa.length cwa,I s.sp.al,I s.sp.up,.slice ar s.rs.length cr,.slice ac s.cs.length cc]::σ)) (fun k=>s.cs.length - k) 0 (by repeat (first|exact .nil rfl rfl|refine .cons rfl ?_))
      ⟨Nat.zero_le _,fun j hj=>by omega,hs⟩ ?_
     rintro i w ⟨hi,hno,hs⟩
     refine .seq (.ai (.z zm (.z (zfa bT) (.y hs (zld dD) (.z (cM aV) (.z fN (.nil ?_)))))))
     refine (.bJ rfl (fun hc39=>?_) (fun hc39=>?_))
     ·refine .skip ?_
      refine nT ?_
      refine .seq (.block (.ai (.z (zfa bT) (.y hs (zld dD) (.z zm ?_)))))
      obtain ⟨c,hx⟩:=nth (l:=s.cs) (k:=i) (by omega)
      refine .ixX (enc:=Cmp.c) hs h4 rfl rfl aV bX hx (by first|rfl|assumption|omega) ?_;intro b45 o45 hc45
      refine .q hs (cj (vs:=(Cmp.c c)) rfl rn bX hc45) ?_
      refine .o (.call Tryz.call110 rfl (me (c:=c) hs) ?_);rintro _ w ⟨b47,rfl,hb47,hs⟩
      refine .z iI (.nil ?_)
      refine (.cond rfl (fun hc48=>?_) (fun hc48=>?_))
      ·refine .ai (.z zg (.nil ?_))
       refine .ret (rB (rT (rT (rB (rT (Fin.bI iy rfl ?_))))))
       exact ⟨H,_,HLe.refl H,rfl,.cmp hok (by omega) hrs (fun h=>by rw [hb47.2 (h c (List.mem_of_getElem? hx))] at hc48;cases hc48),hs.out⟩
      ·refine .skip ?_
       refine nB (nT ?_)
       refine .region (.z zm (.z cA (.z zg (.nil ?_))))
       refine nT ?_
       exact ⟨i+1,.cq rfl (by simp) (by repeat (first|exact .nil rfl rfl|refine .cons rfl ?_)),⟨by omega,eK hno hx (hb47.1 (by simpa using hc48)),hs⟩,by omega⟩
     ·refine .exit ?_
      refine xT (xT (xB (nT ?_)))
      refine .seq ?_
      refine .seq (.draw mix rfl hs ?_);intro w hs
      refine .z 0 rfl (zfa aR) ?_;refine .ys 1 rfl hs [_,_,_,_,_,_] aT aH ?_;refine .z 3 rfl (zfa aJ) ?_;refine .y 4 rfl hs bp ?_
      refine .e1 (i:=2) (by kernel_rfl) rfl rfl .none hs ?_
      have hcs:∀c∈s.cs,pa c:=fun c hc=>by
       obtain ⟨j,hj⟩:=List.getElem?_of_mem hc
       have:=(List.getElem?_eq_some_iff.1 hj).1
       exact hno j (by omega) c hj
      have hea:s.early:=⟨hok,by omega,by omega,hrs,hcs⟩
      have hsm:=eo hok
      have hrl:=hea.2.1
      have htl:s.bu.length≤60:=by have:=cF s.rs;unfold Srv.bu;omega
      have hll:=jD hea 6 (by omega)
      rw [s.s4] at hll
      refine .call nQ rfl (dT (s:=s.sp) hs h1 h2 ⟨by omega,by omega⟩) ?_;rintro _ w ⟨rfl,hs⟩
      refine .go ?_
      refine .e1 (i:=5) (by kernel_rfl) rfl rfl .none hs ?_
      refine .call lz rfl (eA hs h3 (by omega)) ?_;rintro v54 w ⟨H1,hle1,hT,hs⟩
      replace hT:RTd H1 v54 s.bu:=hT
      obtain ⟨at_,ct,rfl⟩:=RTd.shape hT
      refine .go ?_
      refine .z 6 rfl (cM aF) ?_;refine .z 7 rfl cA ?_;refine .z 8 rfl lk ?_;refine .z 9 rfl zm ?_
      refine .iE (t':=58) rfl (fun hb58=>?_) (fun hb58=>?_)
      ·refine .qF (i:=10) rfl (by kernel_rfl) rfl rfl ?_
       refine .qF (i:=11) rfl (by kernel_rfl) rfl rfl ?_
       refine .qF (i:=12) rfl (by kernel_rfl) rfl rfl ?_
       refine .qF (i:=13) rfl (by kernel_rfl) rfl rfl ?_
       refine .z 14 rfl zpT ?_;refine .done (by kernel_rfl) hs ?_
       refine (.fj rfl (by first|rfl|exact decide_eq_true (by assumption)) ?_)
       refine .ai (.z zg (.nil ?_))
       refine .ret (rT (Fin.bI iy rfl ?_))
       exact ⟨H1,_,hle1,rfl,.big hea (by omega),hs.out⟩
      ·refine .ys 10 rfl hs [_,_,_,_,_,_,_,_] aN aD ?_
       refine .e1 (i:=11) (by kernel_rfl) rfl rfl (.some rfl rfl) hs ?_
       refine .call Tryz.call111 rfl (mu (s:=s) hs (h1.mono hle1) (h2.mono hle1) (h3.mono hle1) (h4.mono hle1) hea) ?_;rintro v60 w ⟨H2,en,hle2,hO,hs⟩
       obtain ⟨al,ll,cl,rfl,hl60⟩:=hO.shape
       rw [dp] at hl60
       refine .go ?_
       refine .z 12 rfl (cM aQ) ?_;refine .z 13 rfl lk ?_;refine .z 14 rfl zpF ?_;refine .done (by kernel_rfl) hs ?_
       refine (.bJ rfl (fun hc63=>?_) (fun hc63=>?_))
       ·refine .ai (.z zg (.nil ?_))
        refine .ret (rT (Fin.bI iy rfl ?_))
        exact ⟨H2,_,hle1.trans hle2,rfl,.big hea (by omega),hs.out⟩
       ·refine .skip ?_
        refine nT ?_
        refine .ai (.z zg (.nil ?_))
        refine .ret (Fin.bI iy rfl ?_)
        exact ⟨H2,_,hle1.trans hle2,rfl,.ok hea ⟨by omega,by omega⟩,hs.out⟩
theorem jj{H:bn}{w:World}{σ:List Ent}{s:Spc}{q:Wht}{vst vwa:Value}(hs:St H w σ)(h2:RI H vwa s.wa):
  Cl Tryz.prog 238 [.agg #[I q.kind,I q.st,I q.wa,I s.id,I s.src,vst,vwa,I s.al,I s.up]] w fun v w'=>v= .bool (decide (0≤q.wa∧q.wa≤(s.wa.length:Int) - 1))∧St H w' σ:=by
 obtain ⟨awa,cwa,rfl⟩:=RI.shape h2
 have l2:=(RI.len h2).2.2
 refine Cl.of Tryz.func238 rfl Tryz.ntmps238 (by simp) (aj (k:=0) rfl (bh)) ?_
 refine .ai ?_
 refine .o (.box hs rfl rfl ?_);intro b1 w hs
 refine .z zg (.nil (.ai (.z (zfa cJ) (.z (zfa cZ) (.y hs (zld af) (.z (zfa eT) (.z (zfa bg) (.y hs (zld ak) (.z (cM aa) ?_)))))))))
 refine .z gM ?_
 refine .o (.call dv rfl (bw hs) ?_);rintro _ w ⟨rfl,hs⟩
 refine .z zg (.nil ?_)
 refine .ret (Fin.bI Tryz.results238 rfl ?_)
 exact ⟨rfl,hs.out⟩
theorem kh{H:bn}{w:World}{σ:List Ent}{s:Spc}{q:Wht}{vst vwa:Value}(hs:St H w σ)(h1:RI H vst s.st):
  Cl Tryz.prog 243 [.agg #[I q.kind,I q.st,I q.wa,I s.id,I s.src,vst,vwa,I s.al,I s.up]] w fun v w'=>v= .bool (decide (0≤q.st∧q.st≤(s.st.length:Int) - 1))∧St H w' σ:=by
 obtain ⟨ast,cst,rfl⟩:=RI.shape h1
 have l1:=(RI.len h1).2.2
 refine Cl.of Tryz.func243 rfl Tryz.ntmps243 (by simp) (aj (k:=0) rfl (bh)) ?_
 refine .ai ?_
 refine .o (.box hs rfl rfl ?_);intro b1 w hs
 refine .z zg (.nil (.ai (.z (zfa cJ) (.z (zfa dR) (.y hs (zld af) (.z (zfa eT) (.z (zfa bA) (.y hs (zld ak) (.z (cM aa) ?_)))))))))
 refine .z gM ?_
 refine .o (.call dv rfl (bw hs) ?_);rintro _ w ⟨rfl,hs⟩
 refine .z zg (.nil ?_)
 refine .ret (Fin.bI Tryz.results243 rfl ?_)
 exact ⟨rfl,hs.out⟩
theorem mU{s:Spc}{q:Wht}:fK s q↔(q.kind=1∧q.st=0∧s.isW q∧0<q.wa)∨(q.kind=2∧q.st=0∧s.isW q)∨(q.kind=3∧q.wa=0∧s.isS q)∨(q.kind=4∧s.isS q∧s.isW q):=by
 constructor
 ·intro h
  cases h with
  |litres a b c d=>exact .inl ⟨a,b,c,d⟩
  |plane a b c=>exact .inr (.inl ⟨a,b,c⟩)
  |section_ a b c=>exact .inr (.inr (.inl ⟨a,b,c⟩))
  |offset a b c=>exact .inr (.inr (.inr ⟨a,b,c⟩))
 ·rintro (⟨a,b,c,d⟩|⟨a,b,c⟩|⟨a,b,c⟩|⟨a,b,c⟩)
  ·exact .litres a b c d
  ·exact .plane a b c
  ·exact .section_ a b c
  ·exact .offset a b c
theorem xc{H:bn}{w:World}{σ:List Ent}{s:Spc}{q:Wht}{vst vwa:Value}(hs:St H w σ)(h2:RI H vwa s.wa)(hk:q.kind=1):
  Cl Tryz.prog 237 [.agg #[I q.kind,I q.st,I q.wa,I s.id,I s.src,vst,vwa,I s.al,I s.up]] w fun v w'=>∃b:Bool,v= .bool b∧(b=true↔fK s q)∧St H w' σ:=by
 have hi:=mU (s:=s) (q:=q)
 simp only [Spc.isW,Spc.isS] at hi
 refine Cl.of Tryz.func237 rfl Tryz.ntmps237 (by simp) (aj (k:=0) rfl (bh)) ?_
 refine .ai ?_
 refine .o (.box hs rfl rfl ?_);intro b1 w hs
 refine .z zg (.nil (.ai (.y hs (zls [_,_,_,_,_,_,_,_,_] kF iw) ?_)))
 refine .o (.call Tryz.call238 rfl (jj hs h2) ?_);rintro _ w ⟨rfl,hs⟩
 refine .z zm ?_
 refine .bif (t':=5) rfl (fun hb5=>?_) (fun hb5=>?_)
 ·refine .gT rfl rfl ?_
  refine .z (zfa cJ) ?_
  refine .gT rfl rfl ?_
  refine .z (zfa cZ) ?_
  refine .gT rfl rfl ?_
  refine .y hs (zld af) ?_
  refine .gT rfl rfl ?_
  refine .z lk (.z zpT (.z zm ?_))
  refine .iE (t':=11) rfl (fun hb11=>?_) (fun hb11=>?_)
  ·refine .gT rfl rfl ?_
   refine .z (zfa cJ) ?_
   refine .gT rfl rfl ?_
   refine .z (zfa dR) ?_
   refine .gT rfl rfl ?_
   refine .y hs (zld af) ?_
   refine .gT rfl rfl ?_
   refine .z fA (.z zpT (.z zg (.nil ?_)))
   refine .ret (Fin.bI BL rfl ?_)
   exact ⟨_,rfl,by rw [hi];simp_all<;>omega,hs.out⟩
  ·refine .gFs 4 8 true rfl rfl rfl ?_
   refine .z zpF (.z zg (.nil ?_))
   refine .ret (Fin.bI BL rfl ?_)
   exact ⟨_,rfl,by rw [hi];simp_all<;>omega,hs.out⟩
 ·refine .gFs 4 2 true rfl rfl rfl ?_
  refine .z zpF (.z zm ?_)
  refine .gFs 4 8 true rfl rfl rfl ?_
  refine .z zpF (.z zg (.nil ?_))
  refine .ret (Fin.bI BL rfl ?_)
  exact ⟨_,rfl,by rw [hi];simp_all<;>omega,hs.out⟩
theorem xb{H:bn}{w:World}{σ:List Ent}{s:Spc}{q:Wht}{vst vwa:Value}(hs:St H w σ)(h2:RI H vwa s.wa)(hk:q.kind=2):
  Cl Tryz.prog 240 [.agg #[I q.kind,I q.st,I q.wa,I s.id,I s.src,vst,vwa,I s.al,I s.up]] w fun v w'=>∃b:Bool,v= .bool b∧(b=true↔fK s q)∧St H w' σ:=by
 have hi:=mU (s:=s) (q:=q)
 simp only [Spc.isW,Spc.isS] at hi
 refine Cl.of Tryz.func240 rfl Tryz.ntmps240 (by simp) (aj (k:=0) rfl (bh)) ?_
 refine .ai ?_
 refine .o (.box hs rfl rfl ?_);intro b1 w hs
 refine .z zg (.nil (.ai (.y hs (zls [_,_,_,_,_,_,_,_,_] kF iw) ?_)))
 refine .o (.call Tryz.call238 rfl (jj hs h2) ?_);rintro _ w ⟨rfl,hs⟩
 refine .z zm ?_
 refine .bif (t':=5) rfl (fun hb5=>?_) (fun hb5=>?_)
 ·refine .gT rfl rfl ?_
  refine .z (zfa cJ) ?_
  refine .gT rfl rfl ?_
  refine .z (zfa dR) ?_
  refine .gT rfl rfl ?_
  refine .y hs (zld af) ?_
  refine .gT rfl rfl ?_
  refine .z fA (.z zpT (.z zg (.nil ?_)))
  refine .ret (Fin.bI Tryz.results240 rfl ?_)
  exact ⟨_,rfl,by rw [hi];simp_all<;>omega,hs.out⟩
 ·refine .gFs 4 2 true rfl rfl rfl ?_
  refine .z zpF (.z zg (.nil ?_))
  refine .ret (Fin.bI Tryz.results240 rfl ?_)
  exact ⟨_,rfl,by rw [hi];simp_all<;>omega,hs.out⟩
theorem xa{H:bn}{w:World}{σ:List Ent}{s:Spc}{q:Wht}{vst vwa:Value}(hs:St H w σ)(h1:RI H vst s.st)(hk:q.kind=3):
  Cl Tryz.prog 242 [.agg #[I q.kind,I q.st,I q.wa,I s.id,I s.src,vst,vwa,I s.al,I s.up]] w fun v w'=>∃b:Bool,v= .bool b∧(b=true↔fK s q)∧St H w' σ:=by
 have hi:=mU (s:=s) (q:=q)
 simp only [Spc.isW,Spc.isS] at hi
 refine Cl.of Tryz.func242 rfl Tryz.ntmps242 (by simp) (aj (k:=0) rfl (bh)) ?_
 refine .ai ?_
 refine .o (.box hs rfl rfl ?_);intro b1 w hs
 refine .z zg (.nil (.ai (.y hs (zls [_,_,_,_,_,_,_,_,_] kF iw) ?_)))
 refine .o (.call Tryz.call243 rfl (kh hs h1) ?_);rintro _ w ⟨rfl,hs⟩
 refine .z zm ?_
 refine .bif (t':=5) rfl (fun hb5=>?_) (fun hb5=>?_)
 ·refine .gT rfl rfl ?_
  refine .z (zfa cJ) ?_
  refine .gT rfl rfl ?_
  refine .z (zfa cZ) ?_
  refine .gT rfl rfl ?_
  refine .y hs (zld af) ?_
  refine .gT rfl rfl ?_
  refine .z fA (.z zpT (.z zg (.nil ?_)))
  refine .ret (Fin.bI Tryz.results242 rfl ?_)
  exact ⟨_,rfl,by rw [hi];simp_all<;>omega,hs.out⟩
 ·refine .gFs 4 2 true rfl rfl rfl ?_
  refine .z zpF (.z zg (.nil ?_))
  refine .ret (Fin.bI Tryz.results242 rfl ?_)
  exact ⟨_,rfl,by rw [hi];simp_all<;>omega,hs.out⟩
theorem w9{H:bn}{w:World}{σ:List Ent}{s:Spc}{q:Wht}{vst vwa:Value}(hs:St H w σ)(h1:RI H vst s.st)(h2:RI H vwa s.wa)(hk:q.kind=4):
  Cl Tryz.prog 245 [.agg #[I q.kind,I q.st,I q.wa,I s.id,I s.src,vst,vwa,I s.al,I s.up]] w fun v w'=>∃b:Bool,v= .bool b∧(b=true↔fK s q)∧St H w' σ:=by
 have hi:=mU (s:=s) (q:=q)
 simp only [Spc.isW,Spc.isS] at hi
 refine Cl.of Tryz.func245 rfl Tryz.ntmps245 (by simp) (aj (k:=0) rfl (bh)) ?_
 refine .ai ?_
 refine .o (.box hs rfl rfl ?_);intro b1 w hs
 refine .z zg (.nil (.ai (.y hs (zls [_,_,_,_,_,_,_,_,_] kF iw) ?_)))
 refine .o (.call Tryz.call243 rfl (kh hs h1) ?_);rintro _ w ⟨rfl,hs⟩
 refine .z zm ?_
 refine .bif (t':=5) rfl (fun hb5=>?_) (fun hb5=>?_)
 ·refine .gT rfl rfl ?_
  refine .y hs (zls [_,_,_,_,_,_,_,_,_] kF iw) ?_
  refine .gT rfl rfl ?_
  refine .o (.call Tryz.call238 rfl (jj hs h2) ?_);rintro _ w ⟨rfl,hs⟩
  refine .z zpT (.z zg (.nil ?_))
  refine .ret (Fin.bI Tryz.results245 rfl ?_)
  exact ⟨_,rfl,by rw [hi];simp_all<;>omega,hs.out⟩
 ·refine .gFs 2 2 true rfl rfl rfl ?_
  refine .z zpF (.z zg (.nil ?_))
  refine .ret (Fin.bI Tryz.results245 rfl ?_)
  exact ⟨_,rfl,by rw [hi];simp_all<;>omega,hs.out⟩
theorem rz{H:bn}{w:World}{σ:List Ent}{s:Spc}{q:Wht}{vst vwa:Value}{i k:Nat}{u:Int}(hs:St H w σ)(h1:RI H vst s.st)(h2:RI H vwa s.wa)(hok:fB s)(hq:fK s q)(hk1:q.kind=1)(hi:i<s.st.length):
  Cl Tryz.prog 239 [.agg #[I q.kind,I q.st,I q.wa,I s.id,I s.src,vst,vwa,I s.al,I s.up],.agg #[I (i:Int),I (k:Int),I u]] w fun v w'=>∃H1,HLe H H1∧v=I (jP s q i k)∧St H1 w' σ:=by
 obtain ⟨ast,cst,rfl⟩:=RI.shape h1
 obtain ⟨awa,cwa,rfl⟩:=RI.shape h2
 have hn:=hok.wa.many
 have hcap:=(RI.len h2).2.1
 obtain ⟨_,hw1,hw2,hw3⟩:q.st=0∧0<q.wa∧0≤q.wa∧q.wa≤(s.wa.length:Int) - 1:=by
  rcases mU.1 hq with h|h|h|h
  ·exact ⟨h.2.1,h.2.2.2,h.2.2.1.1,h.2.2.1.2⟩
  all_goals omega
 obtain ⟨m,hm⟩:∃m:Nat,q.wa=m:=⟨q.wa.toNat,by omega⟩
 have hW:jP s q i k=if (k:Int)≤q.wa then gi (wts s.st) i*gi (wts (s.wa.take (q.wa.toNat+1))) k else 0:=by unfold jP;rw [if_pos hk1]
 have hmt:q.wa.toNat=m:=by omega
 rw [hmt] at hW
 refine Cl.of Tryz.func239 rfl Tryz.ntmps239 (by simp) (aj (k:=0) rfl (aj (k:=1) rfl (bh))) ?_
 refine .ai ?_
 refine .o (.box hs rfl rfl ?_);intro b2 w hs
 refine .o (.box hs rfl rfl ?_);intro b3 w hs
 refine .z zg (.nil (.seq (.ai (.z (zfa dh) (.y hs (zld af) (.z (zfa cJ) (.z (zfa cZ) (.y hs (zld af) (.z lk ?_)))))))))
 refine .nil ?_
 refine (.bJ rfl (fun hc12=>?_) (fun hc12=>?_))
 ·refine .ai (.z zg (.nil ?_))
  refine .ret (rT (Fin.bI Tryz.results239 rfl ?_))
  exact ⟨H,HLe.refl H,by rw [hW,if_neg (by omega)],hs.out⟩
 ·refine .skip ?_
  refine nT ?_
  refine .seq (.draw mix rfl hs ?_);intro w hs
  refine .z 0 rfl (zfa eT) ?_;refine .z 1 rfl (zfa bA) ?_;refine .y 2 rfl hs ak ?_;refine .z 3 rfl (zfa eT) ?_;refine .z 4 rfl (zfa bg) ?_;refine .y 5 rfl hs ak ?_;refine .z 6 rfl (zfa cJ) ?_;refine .z 7 rfl (zfa cZ) ?_;refine .y 8 rfl hs af ?_;refine .z 9 rfl cA ?_
  refine .p (i:=10) rfl (by kernel_rfl) .none (jB (k:=m+1) rfl rfl aa ae (by omega) (by omega)) ?_
  refine .e1 (i:=11) (by kernel_rfl) rfl rfl .none hs ?_
  have hP:eu 7 15000 (s.wa.take (m+1)):=hok.wa.take (by omega) (by omega)
  refine .call Tryz.call104 rfl (mW hs h1 (h2.head (k:=m+1) (by omega))) ?_;rintro _ w ⟨H1,vo,e,hle1,rfl,hGx,-,hs⟩
  obtain ⟨rfl,hG⟩:=hGx ⟨hok.st,hP⟩
  have hgl:=jF (wts s.st) (wts (s.wa.take (m+1))) s.st.length
  have hyl:(wts (s.wa.take (m+1))).length=m+1:=by rw [ed,List.length_take];omega
  have hgr:=vI (X:=wts s.st) (Y:=wts (s.wa.take (m+1))) (n:=s.st.length) hi
  have hgt:=za (X:=wts s.st) (Y:=wts (s.wa.take (m+1))) (n:=s.st.length) (k:=k) hi (by omega)
  have hrl:=jm (wts s.st) (wts (s.wa.take (m+1))) i
  rw [←hgr] at hrl
  generalize lQ (wts s.st) (wts (s.wa.take (m+1))) s.st.length=G at*
  obtain ⟨aG,cG,rfl⟩:=hG.shape
  refine .go ?_
  refine .z 12 rfl zm ?_;refine .z 13 rfl zex ?_;refine .z 14 rfl zex ?_;refine .z 15 rfl zg ?_;refine .z 16 rfl zg ?_;refine .done (by kernel_rfl) hs ?_
  refine .seq (.draw mix rfl hs ?_);intro w hs
  refine .z 0 rfl zm ?_;refine .z 1 rfl (zfa dx) ?_;refine .y 2 rfl hs af ?_
  refine .ixT (i:=3) hs rfl (by kernel_rfl) .none hG rfl rfl an aA (show i<_ by omega) (by first|rfl|assumption|omega) ?_;intro b31 o31 a31 c31 hc31 hR31
  refine .r (i:=4) hs rfl (by kernel_rfl) .none (aM rfl ak hc31) ?_
  refine .z 5 rfl (zfa dh) ?_;refine .y 6 rfl hs af ?_
  refine .ixX (enc:=fun x=>[I x]) (i:=7) hs rfl (by kernel_rfl) .none hR31 rfl rfl aa ae (br (l:=(gr G i)) (i:=k) (by omega)) (by first|rfl|assumption|omega) ?_;intro b35 o35 hc35;replace hc35:=bG.one hc35
  refine .r (i:=8) hs rfl (by kernel_rfl) .none (aM rfl af hc35) ?_
  refine .z 9 rfl zg ?_;refine .done (by kernel_rfl) hs ?_
  refine .ret (Fin.bI Tryz.results239 rfl ?_)
  exact ⟨H1,hle1,by rw [hW,if_pos (by omega),←hgt];rfl,hs.out⟩
theorem sx{H:bn}{w:World}{σ:List Ent}{s:Spc}{q:Wht}{vst vwa:Value}{i k:Nat}{u:Int}(hs:St H w σ)(h1:RI H vst s.st)(hok:fB s)(hk1:q.kind=2)(hi:i<s.st.length):
  Cl Tryz.prog 241 [.agg #[I q.kind,I q.st,I q.wa,I s.id,I s.src,vst,vwa,I s.al,I s.up],.agg #[I (i:Int),I (k:Int),I u]] w fun v w'=>∃H1,HLe H H1∧v=I (jP s q i k)∧St H1 w' σ:=by
 have hW:jP s q i k=if (k:Int)=q.wa then gi (wts s.st) i else 0:=by unfold jP;rw [if_neg (by omega),if_pos hk1]
 have hl:=ed s.st
 refine Cl.of Tryz.func241 rfl Tryz.ntmps241 (by simp) (aj (k:=0) rfl (aj (k:=1) rfl (bh))) ?_
 refine .ai ?_
 refine .o (.box hs rfl rfl ?_);intro b2 w hs
 refine .o (.box hs rfl rfl ?_);intro b3 w hs
 refine .z zg (.nil (.seq (.ai (.z (zfa dh) (.y hs (zld af) (.z (zfa cJ) (.z (zfa cZ) (.y hs (zld af) (.z iA ?_)))))))))
 refine .nil ?_
 refine (.e9 rfl (fun hc12=>?_) (fun hc12=>?_))
 ·refine .ai (.z zg (.nil ?_))
  refine .ret (rT (Fin.bI Tryz.results241 rfl ?_))
  exact ⟨H,HLe.refl H,by rw [hW,if_neg (by omega)],hs.out⟩
 ·refine .skip ?_
  refine nT ?_
  refine .ai (.z (zfa eT) (.z (zfa bA) (.y hs (zld ak) ?_)))
  refine .o (.call Tryz.call273 rfl (kK hs h1) ?_);rintro _ w ⟨H1,vo,e,hle1,rfl,hGx,hs⟩
  obtain ⟨rfl,hG⟩:=hGx hok.st
  obtain ⟨aG,cG,rfl⟩:=RI.shape hG
  refine .z zm (.z zex (.z zex (.z zg (.z zg (.nil (.ai (.z zm (.z (zfa dx) (.y hs (zld af) ?_)))))))))
  refine .ixY hs hG rfl rfl aa ae (br (l:=(wts s.st)) (i:=i) (by omega)) (by first|rfl|assumption|omega) ?_;intro b23 o23 hc23
  refine .q hs (aM rfl af hc23) ?_
  refine .z zg (.nil ?_)
  refine .ret (Fin.bI Tryz.results241 rfl ?_)
  exact ⟨H1,hle1,by rw [hW,if_pos (by omega)],hs.out⟩
theorem qo{H:bn}{w:World}{σ:List Ent}{s:Spc}{q:Wht}{vst vwa:Value}{i k:Nat}{u:Int}(hs:St H w σ)(h2:RI H vwa s.wa)(hok:fB s)(hk1:q.kind=3)(hk:k<s.wa.length):
  Cl Tryz.prog 244 [.agg #[I q.kind,I q.st,I q.wa,I s.id,I s.src,vst,vwa,I s.al,I s.up],.agg #[I (i:Int),I (k:Int),I u]] w fun v w'=>∃H1,HLe H H1∧v=I (jP s q i k)∧St H1 w' σ:=by
 have hW:jP s q i k=if (i:Int)=q.st then gi (wts s.wa) k else 0:=by unfold jP;rw [if_neg (by omega),if_neg (by omega),if_pos hk1]
 have hl:=ed s.wa
 refine Cl.of Tryz.func244 rfl Tryz.ntmps244 (by simp) (aj (k:=0) rfl (aj (k:=1) rfl (bh))) ?_
 refine .ai ?_
 refine .o (.box hs rfl rfl ?_);intro b2 w hs
 refine .o (.box hs rfl rfl ?_);intro b3 w hs
 refine .z zg (.nil (.seq (.ai (.z (zfa dx) (.y hs (zld af) (.z (zfa cJ) (.z (zfa dR) (.y hs (zld af) (.z iA ?_)))))))))
 refine .nil ?_
 refine (.e9 rfl (fun hc12=>?_) (fun hc12=>?_))
 ·refine .ai (.z zg (.nil ?_))
  refine .ret (rT (Fin.bI Tryz.results244 rfl ?_))
  exact ⟨H,HLe.refl H,by rw [hW,if_neg (by omega)],hs.out⟩
 ·refine .skip ?_
  refine nT ?_
  refine .ai (.z (zfa eT) (.z (zfa bg) (.y hs (zld ak) ?_)))
  refine .o (.call Tryz.call273 rfl (kK hs h2) ?_);rintro _ w ⟨H1,vo,e,hle1,rfl,hGx,hs⟩
  obtain ⟨rfl,hG⟩:=hGx (xS hok)
  obtain ⟨aG,cG,rfl⟩:=RI.shape hG
  refine .z zm (.z zex (.z zex (.z zg (.z zg (.nil (.ai (.z zm (.z (zfa dh) (.y hs (zld af) ?_)))))))))
  refine .ixY hs hG rfl rfl aa ae (br (l:=(wts s.wa)) (i:=k) (by omega)) (by first|rfl|assumption|omega) ?_;intro b23 o23 hc23
  refine .q hs (aM rfl af hc23) ?_
  refine .z zg (.nil ?_)
  refine .ret (Fin.bI Tryz.results244 rfl ?_)
  exact ⟨H1,hle1,by rw [hW,if_pos (by omega)],hs.out⟩
theorem ru{H:bn}{w:World}{σ:List Ent}{s:Spc}{q:Wht}{vst vwa:Value}{i k:Nat}{u:Int}(hs:St H w σ)(hk1:q.kind=4):
  Cl Tryz.prog 246 [.agg #[I q.kind,I q.st,I q.wa,I s.id,I s.src,vst,vwa,I s.al,I s.up],.agg #[I (i:Int),I (k:Int),I u]] w fun v w'=>∃H1,HLe H H1∧v=I (jP s q i k)∧St H1 w' σ:=by
 have hW:jP s q i k=if (i:Int)=q.st∧(k:Int)=q.wa then 1 else 0:=by unfold jP;rw [if_neg (by omega),if_neg (by omega),if_neg (by omega)]
 refine Cl.of Tryz.func246 rfl Tryz.ntmps246 (by simp) (aj (k:=0) rfl (aj (k:=1) rfl (bh))) ?_
 refine .ai ?_
 refine .o (.box hs rfl rfl ?_);intro b2 w hs
 refine .o (.box hs rfl rfl ?_);intro b3 w hs
 refine .z zg (.nil (.seq (.ai (.z (zfa dx) (.y hs (zld af) (.z (zfa cJ) (.z (zfa dR) (.y hs (zld af) (.z iA ?_)))))))))
 refine .z zm ?_
 refine .yu (t':=11) rfl (fun hb11=>?_) (fun hb11=>?_)
 ·refine .gFs 6 6 false rfl rfl rfl ?_
  refine .z zpT (.nil ?_)
  refine (.fj rfl (by first|rfl|exact decide_eq_true (by assumption)) ?_)
  refine .ai (.z zg (.nil ?_))
  refine .ret (rT (Fin.bI BK rfl ?_))
  first
  |exact ⟨H,HLe.refl H,by rw [hW,if_neg (by omega)],hs.out⟩
  |exact ⟨H,HLe.refl H,by rw [hW,if_pos (by omega)],hs.out⟩
 ·refine .gT rfl rfl ?_
  refine .z (zfa dh) ?_
  refine .gT rfl rfl ?_
  refine .y hs (zld af) ?_
  refine .gT rfl rfl ?_
  refine .z (zfa cJ) ?_
  refine .gT rfl rfl ?_
  refine .z (zfa cZ) ?_
  refine .gT rfl rfl ?_
  refine .y hs (zld af) ?_
  refine .gT rfl rfl ?_
  refine .z iA (.z zpF (.nil ?_))
  refine (.e9 rfl (fun hc18=>?_) (fun hc18=>?_))
  ·refine .ai (.z zg (.nil ?_))
   refine .ret (rT (Fin.bI BK rfl ?_))
   first
   |exact ⟨H,HLe.refl H,by rw [hW,if_neg (by omega)],hs.out⟩
   |exact ⟨H,HLe.refl H,by rw [hW,if_pos (by omega)],hs.out⟩
  ·refine .skip ?_
   refine nT ?_
   refine .ai (.z zg (.nil ?_))
   refine .ret (Fin.bI BK rfl ?_)
   first
   |exact ⟨H,HLe.refl H,by rw [hW,if_neg (by omega)],hs.out⟩
   |exact ⟨H,HLe.refl H,by rw [hW,if_pos (by omega)],hs.out⟩
def zG(k:Int):Nat:=if k=1 then 237 else if k=2 then 240 else if k=3 then 242 else 245
def zD(k:Int):Nat:=if k=1 then 239 else if k=2 then 241 else if k=3 then 244 else 246
def yZ(k:Int):Value:= .agg #[.func (.func (zG k)) #[] #[],.func (.func (zD k)) #[] #[],I (nv ⟨k,0,0⟩)]
def En:List MapEntry:=[{key:=I 1,val:=yZ 1,born:=0},{key:=I 2,val:=yZ 2,born:=1},{key:=I 3,val:=yZ 3,born:=2},{key:=I 4,val:=yZ 4,born:=3}]
theorem kP{H:bn}{w:World}{σ:List Ent}(hs:St H w σ):
  Cl Tryz.prog 189 [] w fun v w'=>∃b,v= .map (some b)∧St H w' (.obj b (.map En.toArray 4)::σ):=by
 refine Cl.of Tryz.func189 rfl Tryz.ntmps189 (by simp) (bh) ?_
 refine .ai (.z zg (.nil (.ai ?_)))
 refine .o (.makeMap hs ?_);intro b1 w hs
 refine .z (zbd [_,_,_] ie) ?_
 refine .o (.insert (es:=[]) hs rfl rfl rfl dQ aK rfl ?_);intro w hs
 refine .z (zbd [_,_,_] ie) ?_
 refine .o (.insert (es:=[{key:=I 1,val:=yZ 1,born:=0}]) hs rfl rfl rfl dQ aK rfl ?_);intro w hs
 refine .z (zbd [_,_,_] ie) ?_
 refine .o (.insert (es:=[{key:=I 1,val:=yZ 1,born:=0},{key:=I 2,val:=yZ 2,born:=1}]) hs rfl rfl rfl dQ aK rfl ?_);intro w hs
 refine .z (zbd [_,_,_] ie) ?_
 refine .o (.insert (es:=[{key:=I 1,val:=yZ 1,born:=0},{key:=I 2,val:=yZ 2,born:=1},{key:=I 3,val:=yZ 3,born:=2}]) hs rfl rfl rfl dQ aK rfl ?_);intro w hs
 refine .z zm (.z zg (.nil ?_))
 refine .ret (Fin.bI Tryz.results189 rfl ?_)
 exact ⟨b1,rfl,hs⟩
def lF1(k:Int):Value:=if 1≤k∧k≤4 then .func (.func (zG k)) #[] #[] else .nilFunc
def lF2(k:Int):Value:=if 1≤k∧k≤4 then .func (.func (zD k)) #[] #[] else .nilFunc
def lD(k:Int):Int:=if 1≤k∧k≤4 then nv ⟨k,0,0⟩ else 0
theorem yY(k:Int):[lF1 k,lF2 k,I (lD k)].all Value.oneCell'=true:=by
 unfold lF1 lF2;split<;>rfl
theorem AM{H:bn}{s:FS}{x y:Operand}{b:Nat}(k:Int)(hx:FS.ev s x=some (.map (some b)))(hy:FS.ev s y=some (I k)):
  QJ Tryz.prog H [.obj b (.map En.toArray 4)] s (.lookup 233 x y true) (.tuple #[.agg #[lF1 k,lF2 k,I (lD k)],.bool (decide (1≤k∧k≤4))]):=by
 by_cases h:1≤k∧k≤4
 ·rw [decide_eq_true h]
  have h4:k=1∨k=2∨k=3∨k=4:=by omega
  rcases h4 with rfl|rfl|rfl|rfl
  ·exact yP (v:=yZ 1) (j:=0) hx hy dQ aK rfl .here
  ·exact yP (v:=yZ 2) (j:=1) hx hy dQ aK rfl .here
  ·exact yP (v:=yZ 3) (j:=2) hx hy dQ aK rfl .here
  ·exact yP (v:=yZ 4) (j:=3) hx hy dQ aK rfl .here
 ·rw [decide_eq_false h]
  have e1:lF1 k= .nilFunc:=if_neg h
  have e2:lF2 k= .nilFunc:=if_neg h
  have e3:lD k=0:=if_neg h
  rw [e1,e2,e3]
  refine DS (es:=En) (c:=4) hx hy dQ aK qm ?_ .here
  have n1:(k==1)=false:=by simp only [beq_eq_false_iff_ne];omega
  have n2:(k==2)=false:=by simp only [beq_eq_false_iff_ne];omega
  have n3:(k==3)=false:=by simp only [beq_eq_false_iff_ne];omega
  have n4:(k==4)=false:=by simp only [beq_eq_false_iff_ne];omega
  simp [Instr.findNow,Instr.sameNow,En,n1,n2,n3,n4]
theorem Cf(k:Int):∀args w,(callFunc (zG k) args).run Tryz.prog w= .ok (.enter (zG k) args) w:=by
 unfold zG
 split
 ·exact Tryz.call237
 ·split
  ·exact Tryz.call240
  ·split
   ·exact Tryz.call242
   ·exact Tryz.call245
theorem B2(k:Int):∀args w,(callFunc (zD k) args).run Tryz.prog w= .ok (.enter (zD k) args) w:=by
 unfold zD
 split
 ·exact Tryz.call239
 ·split
  ·exact Tryz.call241
  ·split
   ·exact Tryz.call244
   ·exact Tryz.call246
theorem Ce{H:bn}{w:World}{σ:List Ent}{s:Spc}{q:Wht}{vst vwa:Value}(hs:St H w σ)(h1:RI H vst s.st)(h2:RI H vwa s.wa)(hk:1≤q.kind∧q.kind≤4):
  Cl Tryz.prog (zG q.kind) [.agg #[I q.kind,I q.st,I q.wa,I s.id,I s.src,vst,vwa,I s.al,I s.up]] w fun v w'=>∃b:Bool,v= .bool b∧(b=true↔fK s q)∧St H w' σ:=by
 unfold zG
 split
 ·exact xc hs h2 (by assumption)
 ·split
  ·exact xb hs h2 (by assumption)
  ·split
   ·exact xa hs h1 (by assumption)
   ·exact w9 hs h1 h2 (by omega)
theorem B1{H:bn}{w:World}{σ:List Ent}{s:Spc}{q:Wht}{vst vwa:Value}{i k:Nat}{u:Int}(hs:St H w σ)(h1:RI H vst s.st)(h2:RI H vwa s.wa)(hok:fB s)(hq:fK s q)(hk:1≤q.kind∧q.kind≤4)(hi:i<s.st.length)(hkw:k<s.wa.length):
  Cl Tryz.prog (zD q.kind) [.agg #[I q.kind,I q.st,I q.wa,I s.id,I s.src,vst,vwa,I s.al,I s.up],.agg #[I (i:Int),I (k:Int),I u]] w fun v w'=>∃H1,HLe H H1∧v=I (jP s q i k)∧St H1 w' σ:=by
 unfold zD
 split
 ·exact rz hs h1 h2 hok hq (by assumption) hi
 ·split
  ·exact sx hs h1 hok (by assumption) hi
  ·split
   ·exact qo hs h2 hok (by assumption) hkw
   ·exact ru hs (by omega)
theorem lD_div{q:Wht}(h:1≤q.kind∧q.kind≤4):lD q.kind=nv q:=by
 unfold lD;rw [if_pos h];rfl
theorem BZ{s:Spc}{q:Wht}(h:fK s q):1≤q.kind∧q.kind≤4:=by
 rcases mU.1 h with h|h|h|h<;>omega
set_option maxHeartbeats 1000000 in
theorem jZ{H:bn}{w:World}{σ:List Ent}{s:Spc}{q:Wht}{vst vwa:Value}(hs:St H w σ)(h1:RI H vst s.st)(h2:RI H vwa s.wa)(hok:fB s):
  Cl Tryz.prog 102 [.agg #[I s.id,I s.src,vst,vwa,I s.al,I s.up],.agg #[I q.kind,I q.st,I q.wa]] w fun u w'=>∃H1 vl L d b en,HLe H H1∧u= .tuple #[vl,I d,.bool b]∧cu 1 vl (Is L) en∧((b=true∧fK s q∧L=k7 s q∧d=nv q)∨(b=false∧¬fK s q∧L=[]∧d=0))∧St H1 w' (en::σ):=by
 have hsm:=eo hok
 obtain ⟨ast,cst,rfl⟩:=RI.shape h1
 obtain ⟨awa,cwa,rfl⟩:=RI.shape h2
 refine Cl.of Tryz.func102 rfl Tryz.ntmps102 (by simp) (aj (k:=0) rfl (aj (k:=1) rfl (bh))) ?_
 refine .ai ?_
 refine .o (.box hs rfl rfl ?_);intro b2 w hs
 refine .o (.box hs rfl rfl ?_);intro b3 w hs
 refine .z zg (.z zg (.z zg (.nil ?_)))
 refine .cut (fun fs w=>∃b7,kJ fs ⟨46,[],[(8,.bool (decide (1≤q.kind∧q.kind≤4))),(7,.pointer (some ⟨b7,0,none⟩)),(2,.pointer (some ⟨b2,0,none⟩)),(3,.pointer (some ⟨b3,0,none⟩))]⟩∧St H w (.blk b7 [lF1 q.kind,lF2 q.kind,I (lD q.kind)]:: .blk b3 [I q.kind,I q.st,I q.wa]:: .blk b2 [I s.id,I s.src,(.slice ast s.st.length cst),(.slice awa s.wa.length cwa),I s.al,I s.up]::σ)) ?_ ?_
 ·refine .draw mix rfl hs ?_;intro w hs
  refine .z 1 rfl (zfa kc) ?_;refine .y 2 rfl hs af ?_
  refine .e2 (i:=0) (j:=7) (by kernel_rfl) rfl rfl rfl rfl .none .none hs ?_ ?_
  ·refine .call Tryz.call189 rfl (kP hs) ?_;rintro _ w ⟨b13,rfl,hs⟩
   refine .go ?_
   refine .q (i:=3) [.obj b13 (.map En.toArray 4)] rfl (by kernel_rfl) .none (AM (H:= .bot) q.kind rfl rfl) ?_
   refine .z 4 rfl zm ?_;refine .z 5 rfl zex ?_;refine .z 6 rfl zex ?_
   refine .e1 (i:=7) (by kernel_rfl) rfl rfl .none hs ?_
   refine .alloc hs qm rfl ?_;intro b7 w hs
   refine .go ?_
   refine .e1 (i:=8) (by kernel_rfl) rfl rfl .none hs ?_
   refine .aS (vs:=[lF1 q.kind,lF2 q.kind,I (lD q.kind)]) hs rfl rfl Tryz.sizeOf231 ?_ (hv:=yY _);intro w hs
   refine .go ?_
   refine .z 9 rfl zg ?_;refine .done (by kernel_rfl) hs ?_
   exact nT ⟨b7,by repeat (first|exact .nil rfl rfl|refine .cons rfl ?_),hs.sub (by repeat (first|exact Sub.refl _|constructor|apply Sub.weaken))⟩
  ·refine .alloc hs qm rfl ?_;intro b7 w hs
   refine .go ?_
   refine .e1 (i:=0) (by kernel_rfl) rfl rfl .none hs ?_
   refine .call Tryz.call189 rfl (kP hs) ?_;rintro _ w ⟨b13,rfl,hs⟩
   refine .go ?_
   refine .q (i:=3) [.obj b13 (.map En.toArray 4)] rfl (by kernel_rfl) .none (AM (H:= .bot) q.kind rfl rfl) ?_
   refine .z 4 rfl zm ?_;refine .z 5 rfl zex ?_;refine .z 6 rfl zex ?_
   refine .e1 (i:=8) (by kernel_rfl) rfl rfl .none hs ?_
   refine .aS (vs:=[lF1 q.kind,lF2 q.kind,I (lD q.kind)]) hs rfl rfl Tryz.sizeOf231 ?_ (hv:=yY _);intro w hs
   refine .go ?_
   refine .z 9 rfl zg ?_;refine .done (by kernel_rfl) hs ?_
   exact nT ⟨b7,by repeat (first|exact .nil rfl rfl|refine .cons rfl ?_),hs.sub (by repeat (first|exact Sub.refl _|constructor|apply Sub.weaken))⟩
 ·rintro fs w ⟨b7,hfs,hs⟩
  refine WE.sub ?_ hfs
  refine .ai (.y hs (zls [_,_,_] dd bK) (.y hs (zls [_,_,_,_,_,_] aT aH) (.z (zbd (vs:=[(0,.agg #[I q.kind,I q.st,I q.wa]),(1,.agg #[I s.id,I s.src,(.slice ast s.st.length cst),(.slice awa s.wa.length cwa),I s.al,I s.up])]) [I q.kind,I q.st,I q.wa,I s.id,I s.src,(.slice ast s.st.length cst),(.slice awa s.wa.length cwa),I s.al,I s.up] rZ rfl (by kernel_rfl)) ?_)))
  refine .o (.alloc hs Tryz.zeroValue236 rfl ?_);intro b9 w hs
  refine .o (.aS (vs:=[_,_,_,_,_,_,_,_,_]) hs rfl rfl iw ?_);intro w hs
  refine .nil (.seq (.ai (.z zm (.z iI (.z zm ?_)))))
  refine .bif (t':=24) rfl (fun hb24=>?_) (fun hb24=>?_)
  ·refine .gFs 5 2 false rfl rfl rfl ?_
   refine .z zpT (.nil ?_)
   refine (.fj rfl (by first|rfl|exact decide_eq_true (by assumption)) ?_)
   refine .ai (.z zg (.z zg (.z zg (.nil ?_))))
   refine .ret (rT (?_))
   have hn:¬fK s q:=fun h=>by have:=BZ h;simp [this] at hb24
   exact Fin.iG [] [] hs fun w hs=>⟨_,results3 BT rfl rfl rfl,H,_,[],_,_,.nul,HLe.refl H,rfl,.nil 1 none,.inr ⟨rfl,hn,rfl,rfl⟩,hs.out.nul⟩
  ·refine .gT rfl rfl ?_
   have hk:1≤q.kind∧q.kind≤4:=by simpa using hb24
   rw [show lF1 q.kind= .func (.func (zG q.kind)) #[] #[] from if_pos hk,show lF2 q.kind= .func (.func (zD q.kind)) #[] #[] from if_pos hk,lD_div hk] at hs
   refine .z (zfa qO) ?_
   refine .gT rfl rfl ?_
   refine .y hs (zld Tryz.isAgg228) ?_
   refine .gT rfl rfl ?_
   refine .y hs (zls [_,_,_,_,_,_,_,_,_] kF iw) ?_
   refine .gT rfl rfl ?_
   refine .o (.p5 (first:=[]) (cap:=[]) rfl rfl (Cf q.kind) (Ce (s:=s) hs h1 h2 hk) ?_);rintro _ w ⟨b28,rfl,hb28,hs⟩
   refine .gT rfl rfl ?_
   refine .z iI (.z zpF (.nil ?_))
   refine (.cond rfl (fun hc30=>?_) (fun hc30=>?_))
   ·refine .ai (.z zg (.z zg (.z zg (.nil ?_))))
    refine .ret (rT (?_))
    have hn:¬fK s q:=fun h=>by rw [hb28.2 h] at hc30;cases hc30
    exact Fin.iG [] [] hs fun w hs=>⟨_,results3 BT rfl rfl rfl,H,_,[],_,_,.nul,HLe.refl H,rfl,.nil 1 none,.inr ⟨rfl,hn,rfl,rfl⟩,hs.out.nul⟩
   ·refine .skip ?_
    refine nT ?_
    refine .ai ?_
    refine .o (.buildSlice (cells:=[_]) hs cV rfl rfl ?_);intro b31 w hs
    refine .o (.alloc hs dz rfl ?_);intro b10 w hs
    refine .o (.store hs rfl rfl aA ?_);intro w hs
    refine .nil (.seq (.ai (.y hs (zls [_,_,_,_,_,_] aT aH) ?_)))
    have hq:fK s q:=hb28.1 (by simpa using hc30)
    refine .o (.call tX rfl (fV (s:=s) hs h1 h2 ⟨by omega,by omega⟩) ?_);rintro _ w ⟨H1,ba,hle1,rfl,hit,hs⟩
    have hwl:=fo s q
    refine .nil (.block ?_)
    refine .rangeFunc (gf:=190) (cap:=[.pointer (some ⟨ba,0,none⟩)]) (xs:=wA s) (σb:=[.blk b10 [.slice (some ⟨b31,0,none⟩) 1 1],.blk b31 (Is [0]),.blk b7 [.func (.func (zG q.kind)) #[] #[],.func (.func (zD q.kind)) #[] #[],I (nv q)],.blk b9 [I q.kind,I q.st,I q.wa,I s.id,I s.src,(.slice ast s.st.length cst),(.slice awa s.wa.length cwa),I s.al,I s.up]]) (σf:=σ) (hs.sub (by repeat (first|exact Sub.refl _|constructor|apply Sub.weaken))) trivial rfl hit tT (fun x hx=>by
      simp only [wA,List.mem_map] at hx
      obtain ⟨j,_,rfl⟩:=hx;rfl) rfl
     (I:=fun p H' σb=>∃vo en,σb=[.blk b10 [vo],en,.blk b7 [.func (.func (zG q.kind)) #[] #[],.func (.func (zD q.kind)) #[] #[],I (nv q)],.blk b9 [I q.kind,I q.st,I q.wa,I s.id,I s.src,(.slice ast s.st.length cst),(.slice awa s.wa.length cwa),I s.al,I s.up]]∧cu 1 vo (Is ((k7 s q).take (p+1))) en) (Ix:=fun _ _ _=>False)
     (fun j _ _ σ g1 g2=>g2) (fun _ _ _ _ _ h=>h) ⟨_,_,rfl,.full rfl⟩ ?_ ?_ (fun D c H' σb w _ h _=>h.elim)
    ·rintro ly p hp H2 σb2 σf2 w hle2 ⟨vo,en,rfl,hO⟩ hs ⟨rr,hrr⟩
     have hpm:p<s.many:=by rw [eH] at hp;exact hp
     have hin:p/s.wa.length<s.st.length:=Nat.div_lt_of_lt_mul (by rw [Nat.mul_comm];exact hpm)
     have hkm:=Nat.mod_lt p hsm.2.2.1
     have hws:=sw s q hpm
     have hget:(k7 s q)[p+1]? =some (jP s q (p/s.wa.length) (p%s.wa.length)):=by rw [←hws];exact br (by omega)
     rw [nN hp]
     obtain ⟨al,ll,cl,rfl,hll⟩:=hO.shape
     generalize p/s.wa.length=i at*
     generalize p%s.wa.length=k at*
     refine .region ?_
     refine .o (.alloc hs jh rfl ?_);intro b11 w hs
     refine .o (.aS (vs:=[_,_,_]) hs rfl rfl lV ?_);intro w hs
     refine .nil ?_
     refine nT ?_
     refine ⟨H2,[.blk b11 [I (i:Int),I (k:Int),I ((p+1:Nat):Int)],.blk b10 [Value.slice al ll cl],en,.blk b7 [.func (.func (zG q.kind)) #[] #[],.func (.func (zD q.kind)) #[] #[],I (nv q)],.blk b9 [I q.kind,I q.st,I q.wa,I s.id,I s.src,(.slice ast s.st.length cst),(.slice awa s.wa.length cwa),I s.al,I s.up]],HLe.refl _,hs,?_⟩;rintro w σf4 - hs
     refine .block ?_
     refine .draw mix rfl hs ?_;intro w hs
     refine .y 0 rfl hs ak ?_;refine .z 1 rfl (zfa qN) ?_
     refine .y 2 rfl hs Tryz.isAgg229 ?_
     refine .ys 3 rfl hs [_,_,_,_,_,_,_,_,_] kF iw ?_;refine .ys 4 rfl hs [_,_,_] Tryz.isAgg158 lV ?_
     refine .e1 (i:=5) (by kernel_rfl) rfl rfl .none hs ?_
     refine .p5 (first:=[]) (cap:=[]) rfl rfl (B2 q.kind) (B1 (s:=s) (q:=q) (i:=i) (k:=k) hs (h1.mono (hle1.trans hle2)) (h2.mono (hle1.trans hle2)) hok hq hk hin hkm) ?_;rintro _ w ⟨H3,hle3,rfl,hs⟩
     refine .go ?_
     refine .e1 (i:=6) (by kernel_rfl) rfl rfl .none hs ?_
     refine .buildSlice (cells:=[_]) hs cV rfl rfl ?_;intro b41 w hs
     refine .go ?_
     refine .e1 (i:=7) (by kernel_rfl) rfl rfl .none hs ?_
     refine .append (ys:=Is [jP s q i k]) hs bP rfl rfl hO (.own .here rfl rfl) (fL _) (fun l h=>by simp at h;omega) ?_;intro v42 en42 w hO2 hs
     rw [show Is ((k7 s q).take (p+1))++Is [jP s q i k]=Is ((k7 s q).take (p+1+1)) by rw [dK hget];simp [Is]] at hO2
     obtain ⟨a42,l42,c42,rfl,h42⟩:=hO2.shape
     refine .go ?_
     refine .e1 (i:=8) (by kernel_rfl) rfl rfl .none hs ?_
     refine .store hs rfl rfl aA ?_;intro w hs
     refine .go ?_
     refine .done (by kernel_rfl) hs ?_
     refine nB ?_
     exact ⟨H3,[.blk b10 [.slice a42 l42 c42],en42,.blk b7 [.func (.func (zG q.kind)) #[] #[],.func (.func (zD q.kind)) #[] #[],I (nv q)],.blk b9 [I q.kind,I q.st,I q.wa,I s.id,I s.src,(.slice ast s.st.length cst),(.slice awa s.wa.length cwa),I s.al,I s.up]],hle3,(hs.sub (by repeat (first|exact Sub.refl _|constructor|apply Sub.weaken)):St H3 w (.blk b10 _::en42:: .blk b7 _:: .blk b9 _::σf4)),_,_,rfl,hO2⟩
    ·rintro D H2 σb2 w hle2 ⟨vo,en,rfl,hO⟩ hs
     rw [eH,←hwl,List.take_length] at hO
     replace hs:St H2 w (.obj D (.deferred (some [])):: .blk b10 [vo]::en:: .blk b7 [.func (.func (zG q.kind)) #[] #[],.func (.func (zD q.kind)) #[] #[],I (nv q)]:: .blk b9 [I q.kind,I q.st,I q.wa,I s.id,I s.src,(.slice ast s.st.length cst),(.slice awa s.wa.length cwa),I s.al,I s.up]::σ):=hs
     obtain ⟨al,ll,cl,rfl,hll⟩:=hO.shape
     refine nB (nT ?_)
     refine .seq (.draw mix rfl hs ?_);intro w hs
     refine .y 0 rfl hs ak ?_;refine .z 1 rfl (zfa qM) ?_;refine .y 2 rfl hs af ?_;refine .z 3 rfl zg ?_;refine .z 4 rfl zg ?_;refine .z 5 rfl zg ?_;refine .done (by kernel_rfl) hs ?_
     refine .ret ?_
     exact Fin.iG [D] [] hs fun w hs=>⟨_,results3 BT rfl rfl rfl,H2,_,_,_,_,en,hle1.trans hle2,rfl,hO,.inl ⟨rfl,hq,rfl,rfl⟩,hs.sub (by repeat (first|exact Sub.refl _|constructor|apply Sub.weaken))⟩
theorem jr{H:bn}{w:World}{σ:List Ent}{a d:Int}(hs:St H w σ)(hd:1≤d)(ha: -4608000000000000000≤a∧a≤4608000000000000000):
  Cl Tryz.prog 86 [I a,I d] w fun v w'=>v=I (a/d)∧St H w' σ:=by
 have hq: -4608000000000000000≤a.tdiv d∧a.tdiv d≤4608000000000000000:=by
  have h1:=sj (n:=a) (d:=d) (by omega)
  have h2:a/d≤4608000000000000000:=Int.ediv_le_of_le_mul (by omega) (by
   have:=Int.mul_le_mul_of_nonneg_left hd (show (0:Int)≤4608000000000000000 by omega);omega)
  have h3: -4608000000000000000≤a/d:=Int.le_ediv_of_mul_le (by omega) (by
   have:=Int.mul_le_mul_of_nonneg_left hd (show (0:Int)≤4608000000000000000 by omega);omega)
  by_cases h0:0≤a
  ·rw [Int.tdiv_eq_ediv_of_nonneg h0];omega
  ·split at h1
   ·have:a/d<0:=Int.ediv_neg_of_neg_of_pos (by omega) (by omega)
    omega
   ·omega
 have hfl:=sj (n:=a) (d:=d) (by omega)
 refine Cl.of Tryz.func86 rfl Tryz.ntmps86 (by simp) (aj (k:=0) rfl (aj (k:=1) rfl (bh))) ?_
 refine .ai (.z zg (.nil (.ai (.z zm (.z zm ?_)))))
 refine .q hs (uF rfl rfl (by omega) ⟨by omega,by omega⟩) ?_
 refine .z zg (.nil (.seq (.ai (.z zm (.z zm (.z Af (.z fN (.nil ?_))))))))
 refine (.bJ rfl (fun hc12=>?_) (fun hc12=>?_))
 ·refine .region (.z zm (.z gM (.z zg (.nil ?_))))
  refine nT ?_
  refine .ai (.z zm (.z zg (.nil ?_)))
  refine .ret (Fin.bI Tryz.results86 rfl ?_)
  rw [if_pos hc12] at hfl
  exact ⟨by rw [hfl],hs⟩
 ·refine .skip ?_
  refine nT ?_
  refine .ai (.z zm (.z zg (.nil ?_)))
  refine .ret (Fin.bI Tryz.results86 rfl ?_)
  rw [if_neg hc12,Int.sub_zero] at hfl
  exact ⟨by rw [hfl],hs⟩
theorem oN{H:bn}{w:World}{σ:List Ent}{s:Srv}{vst vwa vr vc:Value}(hs:St H w σ)(h1:RI H vst s.sp.st)(h2:RI H vwa s.sp.wa)(h3:RRd H vr s.rs)(h4:RCm H vc s.cs)(hok:eM s):
  Cl Tryz.prog 169 [.agg #[I s.sp.id,I s.sp.src,vst,vwa,I s.sp.al,I s.sp.up,vr,vc]] w fun u w'=>∃H1,∃b:Bool,HLe H H1∧u= .bool b∧(b=true↔s.sys.Sound)∧St H1 w' σ:=by
 refine Cl.of Tryz.func169 rfl Tryz.ntmps169 (by simp) (aj (k:=0) rfl (bh)) ?_
 refine .ai ?_
 refine .o (.box hs rfl rfl ?_);intro b1 w hs
 refine .z zg (.nil (.ai (.y hs (zls [_,_,_,_,_,_,_,_] aN aD) ?_)))
 refine .o (.call rq rfl (eV (s:=s) hs h1 h2 h3 h4 hok.early) ?_);rintro v7 w ⟨H1,hle1,hS,hs⟩
 refine .o (.call Tryz.call51 rfl (rX (s:=s.sys) hs hS) ?_);rintro _ w ⟨H2,vx,xs,e,hle2,rfl,rx,hC,hs⟩
 obtain ⟨ax,cx,rfl⟩:=RI.shape rx
 have hchk:s.sys.check=0:=s.sys.dn.2 hok.sys
 obtain rfl:e=0:=by
  cases hC with
  |bad h=>exact (h hchk).elim
  |sound=>rfl
  |chain=>rfl
 have hiff:=hC.AA
 refine .z zm (.z zex (.z zex (.z zg (.z zg (.nil (.ai (.z zm (.z fA (.z zm ?_)))))))))
 refine .iE (t':=13) rfl (fun hb13=>?_) (fun hb13=>?_)
 ·refine .gT rfl rfl ?_
  refine .z zm ?_
  refine .gT rfl rfl ?_
  refine .z (cM aa) ?_
  refine .gT rfl rfl ?_
  refine .z fA (.z zpT (.z zg (.nil ?_)))
  refine .ret (Fin.bI Tryz.results169 rfl ?_)
  first
  |exact ⟨H2,_,hle1.trans hle2,rfl,by rw [←hiff,decide_eq_true_eq];exact ⟨fun h=>List.length_eq_zero_iff.1 (by omega),fun h=>by rw [h];rfl⟩,hs.out⟩
  |exact (hb13 rfl).elim
 ·refine .gFs 3 2 true rfl rfl rfl ?_
  refine .z zpF (.z zg (.nil ?_))
  refine .ret (Fin.bI Tryz.results169 rfl ?_)
  first
  |exact ⟨H2,_,hle1.trans hle2,rfl,by rw [←hiff,decide_eq_true_eq];exact ⟨fun h=>List.length_eq_zero_iff.1 (by omega),fun h=>by rw [h];rfl⟩,hs.out⟩
  |exact (hb13 rfl).elim
theorem zr(L:List Int)(j:Nat):L++List.replicate j 0++[0]=L++List.replicate (j+1) 0:=by
 rw [List.append_assoc,←List.replicate_succ']
set_option maxHeartbeats 1000000 in
theorem rR{H:bn}{w:World}{σ:List Ent}{s:Srv}{q:Wht}{vst vwa vr vc:Value}(hs:St H w σ)(h1:RI H vst s.sp.st)(h2:RI H vwa s.sp.wa)(h3:RRd H vr s.rs)(h4:RCm H vc s.cs)(hok:eM s):
  Cl Tryz.prog 155 [.agg #[I s.sp.id,I s.sp.src,vst,vwa,I s.sp.al,I s.sp.up,vr,vc],.agg #[I q.kind,I q.st,I q.wa]] w fun u w'=>∃H1 ul vw L d b,HLe H H1∧u= .tuple #[.agg #[I s.sys.many,ul,vw,I d],.bool b]∧RL H1 ul s.cz∧RI H1 vw L∧L.length=s.sys.n∧((b=true∧fK s.sp q∧L=s.w q∧d=nv q)∨(b=false∧¬fK s.sp q))∧St H1 w' σ:=by
 have hn:=rC s
 have hm:=hok.many
 have hsm:s.sys.many+1=(s.sys.n:Int):=by rw [hn];show ((s.sp.many+s.bu.length:Nat):Int)+1=_;omega
 refine Cl.of Tryz.func155 rfl Tryz.ntmps155 (by simp) (aj (k:=0) rfl (aj (k:=1) rfl (bh))) ?_
 refine .ai ?_
 refine .o (.box hs rfl rfl ?_);intro b2 w hs
 refine .o (.box hs rfl rfl ?_);intro b3 w hs
 refine .o (.alloc hs lq rfl ?_);intro b4 w hs
 refine .z zg (.nil (.ai (.y hs (zls [_,_,_,_,_,_,_,_] aN aD) ?_)))
 refine .o (.call rq rfl (eV (s:=s) hs h1 h2 h3 h4 hok.early) ?_);rintro _ w ⟨H1,hle1,⟨ul,rfl,hL⟩,hs⟩
 obtain ⟨al,cl,rfl⟩:=RL.shape hL
 refine .o (.alloc hs bY rfl ?_);intro b6 w hs
 refine .o (.aS (vs:=[_,_]) hs rfl rfl aB ?_);intro w hs
 refine .nil (.ai (.z (zfa aR) (.y hs (zls [_,_,_,_,_,_] aT aH) (.y hs (zls [_,_,_] dd bK) ?_))))
 refine .o (.call Tryz.call102 rfl (jZ (s:=s.sp) (q:=q) hs (h1.mono hle1) (h2.mono hle1) hok.early.1) ?_);rintro _ w ⟨H2,vl,L0,d,b,en,hle2,rfl,hO,hcase,hs⟩
 have hL0:L0.length≤s.sys.n:=by
  rcases hcase with ⟨_,_,rfl,_⟩|⟨_,_,rfl,_⟩
  ·rw [fo,hn];omega
  ·simp
 have hle02:=hle1.trans hle2
 refine .z zm (.z zex (.z zex (.z zex (.z zg (.z zg (.z zg (.nil (.seq (.block ?_)))))))))
 refine .loop (fun p:Nat×Value=>⟨34,[],[(7,p.2),(8,I d),(9,.bool b),(6,.pointer (some ⟨b6,0,none⟩)),(4,.pointer (some ⟨b4,0,none⟩))]⟩)
  (fun p w=>L0.length+p.1≤s.sys.n∧∃en,cu 1 p.2 (Is (L0++List.replicate p.1 0)) en∧St H2 w (en:: .blk b6 [I s.sys.many,.slice al s.cz.length cl]:: .blk b4 [I 0,.slice none 0 0,.slice none 0 0,I 0]::σ)) (fun p=>s.sys.n - (L0.length+p.1)) (0,vl) (by repeat (first|exact .nil rfl rfl|refine .cons rfl ?_))
  ⟨by simpa using hL0,en,by simpa using hO,hs.sub (by repeat (first|exact Sub.refl _|constructor|apply Sub.weaken))⟩ ?_
 clear hO hs
 rintro ⟨j,vo⟩ w ⟨hj,en,hO,hs⟩
 dsimp only at hj hO ⊢
 obtain ⟨ao,lo,co,rfl,hlo⟩:=hO.shape
 have hlo':lo=L0.length+j:=by simp [Is] at hlo;omega
 refine .seq (.ai (.z zm (.z (cM aa) (.z (zfa bE) (.y hs (zld af) (.z cA (.z fN (.nil ?_))))))))
 refine (.bJ rfl (fun hc25=>?_) (fun hc25=>?_))
 ·refine .skip ?_
  refine nT ?_
  refine .block (.region (.z zm ?_))
  refine .o (.buildSlice (cells:=[_]) hs cV rfl rfl ?_);intro b27 w hs
  refine .o (.append (ys:=Is [0]) hs bP rfl rfl hO (.own .here rfl rfl) (fL _) (fun l' h=>by simp [Is] at h;omega) ?_);intro v28 en28 w hO2 hs
  rw [show Is (L0++List.replicate j 0)++Is [0]=Is (L0++List.replicate (j+1) 0) by rw [←zr];simp [Is]] at hO2
  refine .z zg (.nil ?_)
  refine nB (nT ?_)
  exact ⟨(j+1,v28),by repeat (first|exact .nil rfl rfl|refine .cons rfl ?_),⟨by dsimp only;omega,_,hO2,hs.sub (by repeat (first|exact Sub.refl _|constructor|apply Sub.weaken))⟩,by dsimp only;omega⟩
 ·refine .exit ?_
  refine xT (xT (xB (nT ?_)))
  refine .ai (.y hs (zls [_,_] aU aB) (.z zm (.z zm (.z (zbd [_,_,_,_] fE) (.z zm ?_)))))
  refine .o (.aS (vs:=[_,_,_,_]) hs rfl rfl dU ?_);intro w hs
  refine .z zg (.nil ?_)
  refine .ret ?_
  have hjn:L0.length+j=s.sys.n:=by omega
  obtain ⟨H3,hle3,hR,hs⟩:=cu.df hO (by simp;omega) hs (by repeat constructor)
  exact Fin.iG [] [] hs fun w hs=>⟨_,results2 Tryz.results155 (dH (vs:=[_,_,_,_]) hs rfl mR dU) rfl,H3,_,_,_,d,b,hle02.trans hle3,rfl,hL.mono (hle2.trans hle3),hR,by simp;omega,by
   rcases hcase with ⟨g1,g2,rfl,g3⟩|⟨g1,g2,_,_⟩
   ·refine .inl ⟨g1,g2,?_,g3⟩
    rw [fo,hn] at hjn
    unfold Srv.w;rw [show j=s.bu.length by omega]
   ·exact .inr ⟨g1,g2⟩,hs.out⟩
inductive wi(v:Srv)(q:Wht):Int→Prop
 |bad {e:Int} (h:uS v e) (he:e≠0):wi v q e
 |what (h:eM v) (h1:¬fK v.sp q):wi v q 33
 |fls (h:eM v) (h1:fK v.sp q) (h2:¬v.sys.Sound):wi v q 35
 |ok (h:eM v) (h1:fK v.sp q) (h2:v.sys.Sound):wi v q 0
theorem wi.zero{v:Srv}{q:Wht}(h:wi v q 0):eM v∧fK v.sp q∧v.sys.Sound:=by
 generalize hz:(0:Int)=z at h
 cases h with
 |bad h he=>exact (he hz.symm).elim
 |what=>omega
 |fls=>omega
 |ok h h1 h2=>exact ⟨h,h1,h2⟩
theorem wi.qty{v:Srv}{q:Wht}{e:Int}(h:wi v q e)(he:e≠0):Ae v q 0 0 e:=by
 cases h with
 |bad h he=>exact .bad h he
 |what h h1=>exact .what h h1
 |fls h h1 h2=>exact .fls h h1 h2
 |ok=>exact (he rfl).elim
set_option maxHeartbeats 1000000 in
theorem pJ{H:bn}{w:World}{σ:List Ent}{s:Srv}{q:Wht}{vst vwa vr vc:Value}(hs:St H w σ)(h1:RI H vst s.sp.st)(h2:RI H vwa s.sp.wa)(h3:RRd H vr s.rs)(h4:RCm H vc s.cs):
  Cl Tryz.prog 85 [.agg #[I s.sp.id,I s.sp.src,vst,vwa,I s.sp.al,I s.sp.up,vr,vc],.agg #[I q.kind,I q.st,I q.wa]] w fun u w'=>∃H1 m ul vw d e,HLe H H1∧u= .tuple #[.agg #[I m,ul,vw,I d],I e]∧(∃a l c,ul= .slice a l c)∧(∃a l c,vw= .slice a l c)∧wi s q e∧(e=0→m=s.sys.many∧RL H1 ul s.cz∧RI H1 vw (s.w q)∧d=nv q)∧St H1 w' σ:=by
 refine Cl.of Tryz.func85 rfl Tryz.ntmps85 (by simp) (aj (k:=0) rfl (aj (k:=1) rfl (bh))) ?_
 refine .ai ?_
 refine .o (.box hs rfl rfl ?_);intro b2 w hs
 refine .o (.box hs rfl rfl ?_);intro b3 w hs
 refine .o (.alloc hs lq rfl ?_);intro b4 w hs
 refine .z zg (.nil (.seq (.ai (.y hs (zls [_,_,_,_,_,_,_,_] aN aD) ?_))))
 refine .o (.call BX rfl (gq (s:=s) hs h1 h2 h3 h4) ?_);rintro _ w ⟨H1,e,hle1,rfl,hC,hs⟩
 refine .z zg (.nil (.ai (.z zm (.z iA (.nil ?_)))))
 refine (.e9 rfl (fun hc12=>?_) (fun hc12=>?_))
 ·refine .ai (.z (zbd [_,_,_,_] fE) (.z zm ?_))
  refine .o (.aS (vs:=[_,_,_,_]) hs rfl rfl dU ?_);intro w hs
  refine .z zg (.nil ?_)
  refine .ret (rT (?_))
  exact Fin.iG [] [] hs fun w hs=>⟨_,results2 wq (dH (vs:=[_,_,_,_]) hs rfl mR dU) rfl,H1,_,_,_,_,e,hle1,rfl,⟨_,_,_,rfl⟩,⟨_,_,_,rfl⟩,.bad hC hc12,fun h=>(hc12 h).elim,hs.out⟩
 ·refine .skip ?_
  refine nT ?_
  refine .ai (.y hs (zls [_,_,_,_,_,_,_,_] aN aD) (.y hs (zls [_,_,_] dd bK) ?_))
  have hok:eM s:=hC.dn.1 (by simpa using hc12)
  refine .o (.call Tryz.call155 rfl (rR (s:=s) (q:=q) hs (h1.mono hle1) (h2.mono hle1) (h3.mono hle1) (h4.mono hle1) hok) ?_);rintro _ w ⟨H2,ul,vw,L,d,b,hle2,rfl,hL,hR,hLl,hcase,hs⟩
  have hle02:=hle1.trans hle2
  obtain ⟨al,cl,rfl⟩:=RL.shape hL
  obtain ⟨aw,cw,rfl⟩:=RI.shape hR
  refine .z zm (.z zex (.z zex ?_))
  refine .o (.alloc hs lq rfl ?_);intro b7 w hs
  refine .o (.aS (vs:=[_,_,_,_]) hs rfl rfl dU ?_);intro w hs
  refine .z zg (.nil (.seq (.block (.ai (.z zm (.z iI (.z zg (.nil ?_))))))))
  refine (.cond rfl (fun hc21=>?_) (fun hc21=>?_))
  ·refine .ai (.z (zbd [_,_,_,_] fE) ?_)
   refine .o (.aS (vs:=[_,_,_,_]) hs rfl rfl dU ?_);intro w hs
   refine .z zg (.nil ?_)
   refine .ret (rB (rT (?_)))
   have hq:¬fK s.sp q:=by
    rcases hcase with ⟨g,_⟩|⟨_,g⟩
    ·subst g;cases hc21
    ·exact g
   exact Fin.iG [] [] hs fun w hs=>⟨_,results2 wq (dH (vs:=[_,_,_,_]) hs rfl mR dU) rfl,H2,_,_,_,_,_,hle02,rfl,⟨_,_,_,rfl⟩,⟨_,_,_,rfl⟩,.what hok hq,fun h=>by omega,hs.out⟩
  ·refine .ai (.y hs (zls [_,_,_,_,_,_,_,_] aN aD) ?_)
   obtain ⟨rfl,hq,rfl,rfl⟩:b=true∧fK s.sp q∧L=s.w q∧d=nv q:=hcase.resolve_right fun h=>by rw [h.1] at hc21;cases hc21
   refine .o (.call Tryz.call169 rfl (oN (s:=s) hs (h1.mono hle02) (h2.mono hle02) (h3.mono hle02) (h4.mono hle02) hok) ?_);rintro _ w ⟨H3,b27,hle3,rfl,hb27,hs⟩
   refine .z iI (.z zg (.nil ?_))
   refine (.cond rfl (fun hc25=>?_) (fun hc25=>?_))
   ·refine .ai (.z (zbd [_,_,_,_] fE) ?_)
    refine .o (.aS (vs:=[_,_,_,_]) hs rfl rfl dU ?_);intro w hs
    refine .z zg (.nil ?_)
    refine .ret (rB (rT (?_)))
    exact Fin.iG [] [] hs fun w hs=>⟨_,results2 wq (dH (vs:=[_,_,_,_]) hs rfl mR dU) rfl,H3,_,_,_,_,_,hle02.trans hle3,rfl,⟨_,_,_,rfl⟩,⟨_,_,_,rfl⟩,.fls hok hq (fun h=>by rw [hb27.2 h] at hc25;cases hc25),fun h=>by omega,hs.out⟩
   ·refine .skip ?_
    refine nB (nT ?_)
    refine .ai (.y hs (zls [_,_,_,_] mR dU) ?_)
    refine .o (.aS (vs:=[_,_,_,_]) hs rfl rfl dU ?_);intro w hs
    refine .z zg (.nil ?_)
    refine .ret ?_
    exact Fin.iG [] [] hs fun w hs=>⟨_,results2 wq (dH (vs:=[_,_,_,_]) hs rfl mR dU) rfl,H3,_,_,_,_,_,hle02.trans hle3,rfl,⟨_,_,_,rfl⟩,⟨_,_,_,rfl⟩,.ok hok hq (hb27.1 (by simpa using hc25)),fun _=>⟨rfl,hL.mono hle3,hR.mono hle3,rfl⟩,hs.out⟩
set_option maxHeartbeats 1000000 in
theorem iR{H:bn}{w:World}{σ:List Ent}{s:Srv}{q:Wht}{vst vwa vr vc:Value}(hs:St H w σ)(h1:RI H vst s.sp.st)(h2:RI H vwa s.sp.wa)(h3:RRd H vr s.rs)(h4:RCm H vc s.cs):
  Cl Tryz.prog 26 [.agg #[I s.sp.id,I s.sp.src,vst,vwa,I s.sp.al,I s.sp.up,vr,vc],.agg #[I q.kind,I q.st,I q.wa]] w fun u w'=>∃H1 lo hi e,HLe H H1∧u= .tuple #[.agg #[I lo,I hi],I e]∧Ae s q lo hi e∧St H1 w' σ:=by
 refine Cl.of Tryz.func26 rfl Tryz.ntmps26 (by simp) (aj (k:=0) rfl (aj (k:=1) rfl (bh))) ?_
 refine .ai ?_
 refine .o (.box hs rfl rfl ?_);intro b2 w hs
 refine .o (.box hs rfl rfl ?_);intro b3 w hs
 refine .o (.alloc hs bq rfl ?_);intro b4 w hs
 refine .z zg (.nil (.ai (.y hs (zls [_,_,_,_,_,_,_,_] aN aD) (.y hs (zls [_,_,_] dd bK) ?_))))
 refine .o (.call Tryz.call85 rfl (pJ (s:=s) (q:=q) hs h1 h2 h3 h4) ?_);rintro _ w ⟨H1,m,ul,vw,d,e,hle1,rfl,⟨al,ll,cl,rfl⟩,⟨aw,lw,cw,rfl⟩,hA,hA0,hs⟩
 refine .z zm (.z zex (.z zex ?_))
 refine .o (.alloc hs lq rfl ?_);intro b6 w hs
 refine .o (.aS (vs:=[_,_,_,_]) hs rfl rfl dU ?_);intro w hs
 refine .z zg (.nil (.seq (.ai (.z zm (.z iA (.nil ?_))))))
 refine (.e9 rfl (fun hc17=>?_) (fun hc17=>?_))
 ·refine .ai (.z (zbd [_,_] bU) (.z zm ?_))
  refine .o (.aS (vs:=[_,_]) hs rfl rfl az ?_);intro w hs
  refine .z zg (.nil ?_)
  refine .ret (rT (?_))
  exact Fin.iG [] [] hs fun w hs=>⟨_,results2 Tryz.results26 (dH (vs:=[_,_]) hs rfl aW az) rfl,H1,_,_,_,hle1,rfl,hA.qty hc17,hs.out⟩
 ·refine .skip ?_
  refine nT ?_
  refine .ai (.z (zfa nq) (.y hs (zls [_,_] aU aB) (.z (zfa np) (.y hs (zld ak) ?_))))
  obtain rfl:e=0:=by simpa using hc17
  obtain ⟨rfl,hL,hR,rfl⟩:=hA0 rfl
  obtain ⟨hok,hq,hsd⟩:=hA.zero
  refine .o (.call Tryz.call74 rfl (jW (s:=s.sys) hs ⟨_,rfl,hL⟩ hR) ?_);rintro _ w ⟨H2,lo,hi,f,hle2,rfl,hRg,hs⟩
  obtain rfl:=kd (hok.ask hq) hsd (fun b=>s.both) hRg
  have hbd:=hRg.bd
  have hdp:=vQ q
  refine .z zm (.z zex (.z zex (.z zex (.z zg (.z zg (.z zg (.nil (.seq (.ai ?_)))))))))
  refine .z zm (.z iA (.nil ?_))
  refine (.e9 rfl (fun hc30=>?_) (fun hc30=>?_))
  ·refine .ai (.z (zbd [_,_] bU) (.z zm ?_))
   refine .o (.aS (vs:=[_,_]) hs rfl rfl az ?_);intro w hs
   refine .z zg (.nil ?_)
   refine .ret (rT (?_))
   exact (hc30 rfl).elim
  ·refine .skip ?_
   refine nT ?_
   refine .seq (.draw mix rfl hs ?_);intro w hs
   refine .z 0 rfl zm ?_;refine .z 1 rfl (zfa jH) ?_;refine .y 2 rfl hs af ?_;refine .z 4 rfl zm ?_;refine .z 5 rfl (zfa jH) ?_;refine .y 6 rfl hs af ?_
   refine .e1 (i:=3) (by kernel_rfl) rfl rfl .none hs ?_
   refine .call Tryz.call86 rfl (jr hs (by omega) (by omega)) ?_;rintro _ w ⟨rfl,hs⟩
   refine .go ?_
   refine .e1 (i:=7) (by kernel_rfl) rfl rfl .none hs ?_
   refine .call Tryz.call86 rfl (jr hs (by omega) (by omega)) ?_;rintro _ w ⟨rfl,hs⟩
   refine .go ?_
   refine .z 8 rfl (zbd [_,_] bU) ?_
   refine .e1 (i:=9) (by kernel_rfl) rfl rfl .none hs ?_
   refine .aS (vs:=[_,_]) hs rfl rfl az ?_;intro w hs
   refine .go ?_
   refine .z 10 rfl zg ?_;refine .done (by kernel_rfl) hs ?_
   refine .ret ?_
   exact Fin.iG [] [] hs fun w hs=>⟨_,results2 Tryz.results26 (dH (vs:=[_,_]) hs rfl aW az) rfl,H2,_,_,_,hle1.trans hle2,rfl,.ok hok hq hsd hRg,hs.out⟩
inductive rl(v:Srv)(out:List Int):Int→Prop
 |bad {e:Int} (h:uS v e) (he:e≠0) (h1:out=[]):rl v out e
 |ok {e:Int} (h:eM v) (h1:uw v.sys out e):rl v out e
theorem kQ{H:bn}{w:World}{σ:List Ent}{s:Srv}{vst vwa vr vc:Value}(hs:St H w σ)(h1:RI H vst s.sp.st)(h2:RI H vwa s.sp.wa)(h3:RRd H vr s.rs)(h4:RCm H vc s.cs):
  Cl Tryz.prog 32 [.agg #[I s.sp.id,I s.sp.src,vst,vwa,I s.sp.al,I s.sp.up,vr,vc]] w fun u w'=>∃H1 vx out e,HLe H H1∧u= .tuple #[vx,I e]∧RI H1 vx out∧rl s out e∧St H1 w' σ:=by
 refine Cl.of Tryz.func32 rfl Tryz.ntmps32 (by simp) (aj (k:=0) rfl (bh)) ?_
 refine .ai ?_
 refine .o (.box hs rfl rfl ?_);intro b1 w hs
 refine .z zg (.z zg (.nil (.seq (.ai (.y hs (zls [_,_,_,_,_,_,_,_] aN aD) ?_)))))
 refine .o (.call BX rfl (gq (s:=s) hs h1 h2 h3 h4) ?_);rintro _ w ⟨H1,e,hle1,rfl,hC,hs⟩
 refine .z zg (.nil (.ai (.z zm (.z iA (.nil ?_)))))
 refine (.e9 rfl (fun hc10=>?_) (fun hc10=>?_))
 ·refine .ai (.z zm (.z zg (.z zg (.nil ?_))))
  refine .ret (rT (Fin.lg Tryz.results32 rfl rfl ?_))
  exact ⟨H1,_,[],_,hle1,rfl,RS.nil H1 1 none 0,.bad hC hc10 rfl,hs.out⟩
 ·refine .skip ?_
  refine nT ?_
  refine .ai (.y hs (zls [_,_,_,_,_,_,_,_] aN aD) ?_)
  have hok:eM s:=hC.dn.1 (by simpa using hc10)
  refine .o (.call rq rfl (eV (s:=s) hs (h1.mono hle1) (h2.mono hle1) (h3.mono hle1) (h4.mono hle1) hok.early) ?_);rintro v14 w ⟨H2,hle2,hS,hs⟩
  refine .o (.call Tryz.call98 rfl (oZ (s:=s.sys) hs hS) ?_);rintro _ w ⟨H3,vx,out,f,hle3,rfl,hR,hCf,hs⟩
  refine .z zm (.z zex (.z zex (.z zg (.z zg (.nil (.ai (.z zm (.z zm (.z zg ?_)))))))))
  refine .z zg (.nil ?_)
  refine .ret (Fin.lg Tryz.results32 rfl rfl ?_)
  exact ⟨H3,_,out,_,hle1.trans (hle2.trans hle3),rfl,hR,.ok hok hCf,hs.out⟩
set_option maxHeartbeats 1000000 in
theorem fG{H:bn}{w:World}{σ:List Ent}{s:Srv}{t:TD}{vst vwa vr vc:Value}(hs:St H w σ)(h1:RI H vst s.sp.st)(h2:RI H vwa s.sp.wa)(h3:RRd H vr s.rs)(h4:RCm H vc s.cs):
  Cl Tryz.prog 28 [.agg #[I s.sp.id,I s.sp.src,vst,vwa,I s.sp.al,I s.sp.up,vr,vc],.agg #[I t.tape,I t.day]] w fun u w'=>∃H1 lo hi e,HLe H H1∧u= .tuple #[.agg #[I lo,I hi],I e]∧r6 s t lo hi e∧St H1 w' σ:=by
 refine Cl.of Tryz.func28 rfl Tryz.ntmps28 (by simp) (aj (k:=0) rfl (aj (k:=1) rfl (bh))) ?_
 refine .ai ?_
 refine .o (.box hs rfl rfl ?_);intro b2 w hs
 refine .o (.box hs rfl rfl ?_);intro b3 w hs
 refine .o (.alloc hs bq rfl ?_);intro b4 w hs
 refine .z zg (.nil (.seq (.ai (.y hs (zls [_,_,_,_,_,_,_,_] aN aD) ?_))))
 refine .o (.call BX rfl (gq (s:=s) hs h1 h2 h3 h4) ?_);rintro _ w ⟨H1,e,hle1,rfl,hC,hs⟩
 refine .z zg (.nil (.ai (.z zm (.z iA (.nil ?_)))))
 refine (.e9 rfl (fun hc15=>?_) (fun hc15=>?_))
 ·refine .ai (.z (zbd [_,_] bU) (.z zm ?_))
  refine .o (.aS (vs:=[_,_]) hs rfl rfl az ?_);intro w hs
  refine .z zg (.nil ?_)
  refine .ret (rT (?_))
  exact Fin.iG [] [] hs fun w hs=>⟨_,results2 wx (dH (vs:=[_,_]) hs rfl aW az) rfl,H1,_,_,_,hle1,rfl,.bad hC hc15,hs.out⟩
 ·refine .skip ?_
  refine nT ?_
  refine .seq (.draw mix rfl hs ?_);intro w hs
  refine .ys 0 rfl hs [_,_,_,_,_,_,_,_] aN aD ?_;refine .ys 2 rfl hs [_,_] bV aP ?_
  refine .e1 (i:=1) (by kernel_rfl) rfl rfl .none hs ?_
  have hok:eM s:=hC.dn.1 (by simpa using hc15)
  have hsm:=eo hok.early.1
  have hrl:=hok.early.2.1
  have hn:=rC s
  have htl:s.bu.length≤60:=by have:=cF s.rs;unfold Srv.bu;omega
  refine .call BV rfl (iP (s:=s) hs (h3.mono hle1) (by omega)) ?_;rintro v19 w ⟨H2,hle2,hT,hs⟩
  have hle02:=hle1.trans hle2
  refine .go ?_
  refine .e1 (i:=3) (by kernel_rfl) rfl rfl .none hs ?_
  refine .call Tryz.call89 rfl (m6 (t:=t) hs hT (by omega)) ?_;rintro _ w ⟨rfl,hs⟩
  have hnn:=jy (l:=s.bu) (t:=t)
  refine .go ?_
  refine .z 4 rfl zg ?_;refine .done (by kernel_rfl) hs ?_
  refine .seq (.ai (.z zm (.z fN (.nil ?_))))
  refine (.bJ rfl (fun hc23=>?_) (fun hc23=>?_))
  ·refine .ai (.z (zbd [_,_] bU) ?_)
   refine .o (.aS (vs:=[_,_]) hs rfl rfl az ?_);intro w hs
   refine .z zg (.nil ?_)
   refine .ret (rT (?_))
   exact Fin.iG [] [] hs fun w hs=>⟨_,results2 wx (dH (vs:=[_,_]) hs rfl aW az) rfl,H2,_,_,_,hle02,rfl,.none hok (fun h=>by have:=hnn.2 h;omega),hs.out⟩
  ·refine .skip ?_
   refine nT ?_
   refine .seq (.draw mix rfl hs ?_);intro w hs
   refine .z 0 rfl (zfa aR) ?_;refine .ys 1 rfl hs [_,_,_,_,_,_] aT aH ?_;refine .ys 4 rfl hs [_,_,_,_,_,_,_,_] aN aD ?_
   refine .e1 (i:=2) (by kernel_rfl) rfl rfl .none hs ?_
   have hmem:t∈s.bu:=hnn.1 (by omega)
   obtain ⟨k,k1,k2,k3⟩:=fg hmem
   have hlt:=eM.As hmem
   rw [k1,Int.toNat_natCast] at hlt
   rw [k1] at hc23 ⊢
   refine .call wF rfl (fF (s:=s.sp) hs (h1.mono hle02) (h2.mono hle02) ⟨by omega,by omega⟩) ?_;rintro _ w ⟨rfl,hs⟩
   refine .go ?_
   refine .z 3 rfl cA ?_
   refine .e1 (i:=5) (by kernel_rfl) rfl rfl .none hs ?_
   refine .call BV rfl (iP (s:=s) hs (h3.mono hle02) (by omega)) ?_;rintro v30 w ⟨H3,hle3,hT2,hs⟩
   have hle03:=hle02.trans hle3
   obtain ⟨at_,ct,rfl⟩:=RTd.shape hT2
   refine .go ?_
   refine .z 6 rfl (cM aF) ?_;refine .z 7 rfl cA ?_
   refine .e1 (i:=8) (by kernel_rfl) rfl rfl .none hs ?_
   refine .oT s.sys.n hs (by show some (I _)=some (I _);congr 2;rw [hn];show _=((s.sp.many+s.bu.length+1:Nat):Int);omega) (by show some (I _)=some (I _);congr 2;rw [hn];show _=((s.sp.many+s.bu.length+1:Nat):Int);omega) aa dq rfl ae bH (by omega) ?_;intro b33 w hs
   refine .go ?_
   refine .z 9 rfl zg ?_;refine .done (by kernel_rfl) hs ?_
   refine .ai (.z zm (.z (zfa aR) (.y hs (zls [_,_,_,_,_,_] aT aH) ?_)))
   refine .o (.call wF rfl (fF (s:=s.sp) hs (h1.mono hle03) (h2.mono hle03) ⟨by omega,by omega⟩) ?_);rintro _ w ⟨rfl,hs⟩
   refine .z cA (.z zm (.z cA ?_))
   refine .q hs (dF (k:=s.sp.many+1+k) rfl rfl aa ae (by omega) (by omega)) ?_
   refine .o (.store (c':=Is (lA s.sys.n (s.sp.many+1+k) 1)) hs rfl rfl ae ?_ (by repeat constructor) (by simp [Is];omega) (lT _ _ _));intro w hs
   refine .nil (.ai (.y hs (zls [_,_,_,_,_,_,_,_] aN aD) ?_))
   obtain ⟨H4,hle4,hW,hs⟩:=cu.df (xs:=lA s.sys.n (s.sp.many+1+k) 1) (v:= .slice (some ⟨b33,0,none⟩) s.sys.n s.sys.n) (.full (by simp [Is,fO])) (by rw [fO];omega) hs (by repeat constructor)
   have hle04:=hle03.trans hle4
   refine .o (.call rq rfl (eV (s:=s) hs (h1.mono hle04) (h2.mono hle04) (h3.mono hle04) (h4.mono hle04) hok.early) ?_);rintro v44 w ⟨H5,hle5,hS,hs⟩
   refine .z zm ?_
   refine .o (.call Tryz.call74 rfl (jW (s:=s.sys) hs hS (hW.mono hle5)) ?_);rintro _ w ⟨H6,lo,hi,f,hle6,rfl,hRg,hs⟩
   have hbd:=hRg.bd
   have hleF:=hle04.trans (hle5.trans hle6)
   have hA:=hok.u5 hlt (x:=1) (by omega)
   refine .z zm (.z zex (.z zex (.z zex (.z zg (.z zg (.z zg (.nil (.seq (.ai ?_)))))))))
   refine .z zm (.z iA (.nil ?_))
   refine (.e9 rfl (fun hc51=>?_) (fun hc51=>?_))
   ·refine .ai (.z (zbd [_,_] bU) ?_)
    refine .o (.aS (vs:=[_,_]) hs rfl rfl az ?_);intro w hs
    refine .z zg (.nil ?_)
    refine .ret (rT (?_))
    have hns:¬s.sys.Sound:=fun h=>hc51 (kd hA h (fun b=>s.both) hRg)
    exact Fin.iG [] [] hs fun w hs=>⟨_,results2 wx (dH (vs:=[_,_]) hs rfl aW az) rfl,H6,_,_,_,hleF,rfl,.fls hok hmem hns,hs.out⟩
   ·refine .skip ?_
    refine nT ?_
    refine .ai (.z zm (.z xI (.z zm (.z xI (.z (zbd [_,_] bU) ?_)))))
    refine .o (.aS (vs:=[_,_]) hs rfl rfl az ?_);intro w hs
    refine .z zg (.nil ?_)
    refine .ret ?_
    obtain rfl:f=0:=by simpa using hc51
    have hsd:s.sys.Sound:=Classical.byContradiction fun h=>by have:=oX hA h hRg;omega
    exact Fin.iG [] [] hs fun w hs=>⟨_,results2 wx (dH (vs:=[_,_]) hs rfl aW az) rfl,H6,_,_,_,hleF,rfl,.ok hok hmem hsd (by rw [k1,Int.toNat_natCast];exact hRg),hs.out⟩
theorem m7{H:bn}{w:World}{σ:List Ent}{v:Value}{rs:List (List Int)}{g:Nat}{cap:List Value}(q:List Int→Prop)(hs:St H w σ)(hR:RT H v rs)(hl:rs.length≤9223372036854775807)(hc:∀args w,(callFunc g args).run Tryz.prog w= .ok (.enter g args) w)
  (hp:∀H' w σ r u,HLe H H'→RI H' u r→St H' w σ→Cl Tryz.prog g ([u]++cap) w fun z w'=>∃H1 b,HLe H' H1∧z= .bool b∧(b=true↔q r)∧St H1 w' σ):
  Cl Tryz.prog 236 [v,.func (.func g) #[] cap.toArray] w fun u w'=>∃H1 i,HLe H H1∧u=I i∧(0≤i↔∃x∈rs,q x)∧St H1 w' σ:=by
 obtain ⟨a,c,rfl⟩:=hR.shape
 refine Cl.of Tryz.func236 rfl Tryz.ntmps236 (by simp) (aj (k:=0) rfl (aj (k:=1) rfl (bh))) ?_
 refine .ai (.z zg (.nil (.seq (.ai (.z zm (.z (cM an) (.z zm (.nil ?_))))))))
 refine .for (N:=rs.length) (J:=fun k fr w=>fr=[(1,.func (.func g) #[] cap.toArray),(0,.slice a rs.length c)]∧∃H1,HLe H H1∧(∀j<k,∀y,rs[j]? =some y→¬q y)∧St H1 w σ) (by omega) ?_ ?_ ?_
 ·exact .mk ⟨rfl,H,HLe.refl H,fun j hj=>by omega,hs⟩
 ·rintro k fr w hk ⟨rfl,H1,hle1,hno,hs⟩
  have hx:=q8 (rs:=rs) hk
  refine .block (.ai (.z zm (.z zg (.nil (.ai (.z zm (.z zm (.z zm ?_))))))))
  refine .ixT hs (hR.mono hle1) rfl rfl an aA (show k<_ by omega) (by first|rfl|assumption|omega) ?_;intro b14 o14 a14 c14 hc14 hR14
  refine .q hs (aM rfl ak hc14) ?_
  refine .o (.p5 (first:=[]) (cap:=cap) rfl rfl hc (hp _ _ _ (gr rs k) _ hle1 hR14 hs) ?_);rintro _ w ⟨H2,b16,hle2,rfl,hb16,hs⟩
  refine .nil ?_
  refine (.cond rfl (fun hc16=>?_) (fun hc16=>?_))
  ·refine .ai (.z zm (.z zg (.nil ?_)))
   refine .ret (rB (rT (rB (rT (Fin.bI Tryz.results236 rfl ?_)))))
   exact ⟨H2,_,hle1.trans hle2,rfl,⟨fun _=>⟨_,List.mem_of_getElem? hx,hb16.1 hc16⟩,fun _=>by omega⟩,hs⟩
  ·refine .skip ?_
   refine nB (nT ?_)
   exact .mk ⟨rfl,H2,hle1.trans hle2,eK hno hx (fun h=>by rw [hb16.2 h] at hc16;cases hc16),hs⟩
 ·rintro fr w ⟨rfl,H1,hle1,hno,hs⟩
  refine nT ?_
  refine .ai (.z zg (.nil ?_))
  refine .ret (Fin.bI Tryz.results236 rfl ?_)
  exact ⟨H1,_,hle1,rfl,⟨fun h=>by omega,fun ⟨x,h1,h2⟩=>by
   obtain ⟨j,hj⟩:=List.getElem?_of_mem h1
   exact (hno j (List.getElem?_eq_some_iff.1 hj).1 x hj h2).elim⟩,hs⟩
theorem lF{H:bn}{w:World}{σ:List Ent}{v:Value}{rs:List (List Int)}{g:Nat}{cap:List Value}(q:List Int→Prop)(hs:St H w σ)(hR:RT H v rs)(hl:rs.length≤9223372036854775807)(hc:∀args w,(callFunc g args).run Tryz.prog w= .ok (.enter g args) w)
  (hp:∀H' w σ r u,HLe H H'→RI H' u r→St H' w σ→Cl Tryz.prog g ([u]++cap) w fun z w'=>∃H1 b,HLe H' H1∧z= .bool b∧(b=true↔q r)∧St H1 w' σ):
  Cl Tryz.prog 186 [v,.func (.func g) #[] cap.toArray] w fun u w'=>∃H1 b,HLe H H1∧u= .bool b∧(b=true↔∃x∈rs,q x)∧St H1 w' σ:=by
 refine Cl.of Tryz.func186 rfl Tryz.ntmps186 (by simp) (aj (k:=0) rfl (aj (k:=1) rfl (bh))) ?_
 refine .ai (.z zg (.nil (.ai (.z zm (.z zm ?_)))))
 refine .o (.call Tryz.call236 rfl (m7 q hs hR hl hc hp) ?_);rintro _ w ⟨H1,i,hle1,rfl,hi,hs⟩
 refine .z wI (.z zg (.nil ?_))
 refine .ret (Fin.bI Tryz.results186 rfl ?_)
 exact ⟨H1,_,hle1,rfl,by simp only [decide_eq_true_eq];exact hi,hs⟩
theorem ta{H:bn}{w:World}{σ:List Ent}{n:Int}(hs:St H w σ):
  Cl Tryz.prog 188 [I n] w fun u w'=>u= .bool (!decide (0≤n∧n≤20000))∧St H w' σ:=by
 refine Cl.of Tryz.func188 rfl Tryz.ntmps188 (by simp) (aj (k:=0) rfl (bh)) ?_
 refine .ai (.z zg (.nil (.ai (.z zm ?_))))
 refine .o (.call dv rfl (bw hs) ?_);rintro _ w ⟨rfl,hs⟩
 refine .z iI (.z zg (.nil ?_))
 refine .ret (Fin.bI Tryz.results188 rfl ?_)
 exact ⟨rfl,hs⟩
theorem vG{H:bn}{w:World}{σ:List Ent}{s:Spc}{v vst vwa:Value}{r:List Int}{b:Nat}(hs:St H w σ)(hb:Row H b [I s.id,I s.src,vst,vwa,I s.al,I s.up])(h2:RI H vwa s.wa)(hr:RI H v r):
  Cl Tryz.prog 187 [v,.pointer (some ⟨b,0,none⟩)] w fun u w'=>∃H1 bb,HLe H H1∧u= .bool bb∧(bb=true↔¬(r.length=s.wa.length∧∀x∈r,0≤x∧x≤20000))∧St H1 w' σ:=by
 obtain ⟨a,c,rfl⟩:=RI.shape hr
 obtain ⟨awa,cwa,rfl⟩:=RI.shape h2
 have hb3:=hb.at 3
 refine Cl.of Tryz.func187 rfl Tryz.ntmps187 (by simp) (aj (k:=0) rfl (aj (k:=1) rfl (bh))) ?_
 refine .ai (.z zg (.nil (.ai (.z zm (.z (cM aa) (.z (zfa bg) (.y hs (zld ak) (.z (cM aa) (.z iA ?_)))))))))
 refine .z zm ?_
 refine .yu (t':=10) rfl (fun hb10=>?_) (fun hb10=>?_)
 ·refine .gFs 2 6 false rfl rfl rfl ?_
  refine .z zpT (.z zg (.nil ?_))
  refine .ret (Fin.bI Tryz.results187 rfl ?_)
  exact ⟨H,true,HLe.refl H,rfl,⟨fun _ h=>by have:=h.1;simp_all,fun _=>rfl⟩,hs⟩
 ·refine .gT rfl rfl ?_
  refine .z zm ?_
  refine .gT rfl rfl ?_
  refine .o (.call Tryz.call134 rfl (la (g:=188) (cap:=[]) (fun n=>¬(0≤n∧n≤20000)) hs hr Tryz.call188 (fun H' w σ n _ _ hs=>(ta hs).mono fun u w' ⟨g1,g2⟩=>⟨H',_,HLe.refl _,g1,by simp;omega,g2⟩)) ?_);rintro _ w ⟨H1,b12,hle1,rfl,hb12,hs⟩
  refine .z zpF (.z zg (.nil ?_))
  refine .ret (Fin.bI Tryz.results187 rfl ?_)
  have hlen:r.length=s.wa.length:=by simp_all;omega
  exact ⟨H1,_,hle1,rfl,by
   rw [hb12]
   constructor
   ·rintro ⟨x,h1,h2⟩ h;exact h2 (h.2 x h1)
   ·intro h
    refine Classical.byContradiction fun hn=>h ⟨hlen,fun x hx=>Classical.byContradiction fun hx'=>hn ⟨x,hx,hx'⟩⟩,hs⟩
theorem CP{s:Spc}{rows:List (List Int)}:rj s rows↔rows.length=s.st.length∧∀r∈rows,r.length=s.wa.length∧∀x∈r,0≤x∧x≤20000:=by
 constructor
 ·rintro ⟨h1,h2,h3⟩
  refine ⟨h1,fun r hr=>?_⟩
  obtain ⟨i,hi⟩:=List.getElem?_of_mem hr
  have hil:=(List.getElem?_eq_some_iff.1 hi).1
  have hg:=q8 hil
  rw [hi] at hg
  obtain rfl:=Option.some.inj hg
  have hl:=h2 i (by omega)
  refine ⟨hl,fun x hx=>?_⟩
  obtain ⟨k,hk⟩:=List.getElem?_of_mem hx
  have hkl:=(List.getElem?_eq_some_iff.1 hk).1
  have hgk:=br hkl
  rw [hk] at hgk
  obtain rfl:=Option.some.inj hgk
  exact h3 i (by omega) k (by omega)
 ·rintro ⟨h1,h2⟩
  have hm:∀i<s.st.length,gr rows i∈rows:=fun i hi=>List.mem_of_getElem? (q8 (by omega))
  refine ⟨h1,fun i hi=>(h2 _ (hm i hi)).1,fun i hi k hk=>?_⟩
  have hl:=(h2 _ (hm i hi)).1
  exact (h2 _ (hm i hi)).2 _ (List.mem_of_getElem? (br (by omega)))
theorem oO{H:bn}{w:World}{σ:List Ent}{s:Spc}{vst vwa vh:Value}{rows:List (List Int)}(hs:St H w σ)(h1:RI H vst s.st)(h2:RI H vwa s.wa)(hr:RT H vh rows):
  Cl Tryz.prog 101 [.agg #[I s.id,I s.src,vst,vwa,I s.al,I s.up],.agg #[vh]] w fun u w'=>∃H1 b,HLe H H1∧u= .bool b∧(b=true↔rj s rows)∧St H1 w' σ:=by
 obtain ⟨ast,cst,rfl⟩:=RI.shape h1
 obtain ⟨awa,cwa,rfl⟩:=RI.shape h2
 obtain ⟨ah,ch,rfl⟩:=hr.shape
 have hrl:=(hr.len).2.2
 refine Cl.of Tryz.func101 rfl Tryz.ntmps101 (by simp) (aj (k:=0) rfl (aj (k:=1) rfl (bh))) ?_
 refine .ai ?_
 refine .o (.box hs rfl rfl ?_);intro b2 w hs
 refine .o (.box hs rfl rfl ?_);intro b3 w hs
 refine .z zg (.nil (.ai (.z (zfa mi) (.y hs (zld pb) (.z (cM an) (.z (zfa bA) (.y hs (zld ak) (.z (cM aa) (.z fA ?_)))))))))
 refine .z zm ?_
 refine .iE (t':=12) rfl (fun hb12=>?_) (fun hb12=>?_)
 ·refine .gT rfl rfl ?_
  refine .z (zfa mi) ?_
  refine .gT rfl rfl ?_
  refine .y hs (zld pb) ?_
  refine .gT rfl rfl ?_
  refine .q hs (dC (f:=[]) (c:=[_]) rfl rfl) ?_
  refine .gT rfl rfl ?_
  obtain ⟨H0,hle0,hb2,hs⟩:=hs.cP (b:=b2) (by repeat constructor)
  refine .o (.call Tryz.call186 rfl (lF (g:=187) (cap:=[.pointer (some ⟨b2,0,none⟩)]) (fun r=>¬(r.length=s.wa.length∧∀x∈r,0≤x∧x≤20000)) hs (hr.mono hle0) hrl Tryz.call187 (fun H' w σ r u hle hu hs=>vG (s:=s) hs (hb2.mono hle) (h2.mono (hle0.trans hle)) hu)) ?_);rintro _ w ⟨H1,b16,hle1,rfl,hb16,hs⟩
  refine .gT rfl rfl ?_
  refine .z iI (.z zpT (.z zg (.nil ?_)))
  refine .ret (Fin.bI Tryz.results101 rfl ?_)
  exact ⟨H1,_,hle0.trans hle1,rfl,by
   rw [CP]
   have hlen:rows.length=s.st.length:=by omega
   cases hbb:b16 with
   |true=>
    obtain ⟨x,hx,hn⟩:=hb16.1 hbb
    exact ⟨fun h=>(by cases h),fun h=>(hn (h.2 x hx)).elim⟩
   |false=>exact ⟨fun _=>⟨hlen,fun r hr=>Classical.byContradiction fun hn=>by rw [hb16.2 ⟨r,hr,hn⟩] at hbb;cases hbb⟩,fun _=>rfl⟩,hs.out⟩
 ·refine .gFs 5 7 true rfl rfl rfl ?_
  refine .z zpF (.z zg (.nil ?_))
  refine .ret (Fin.bI Tryz.results101 rfl ?_)
  exact ⟨H,_,HLe.refl H,rfl,⟨fun h=>(by cases h),fun h=>by have:=h.len;omega⟩,hs.out⟩
set_option maxHeartbeats 1000000 in
theorem pL{H:bn}{w:World}{σ:List Ent}{s:Spc}{q:Wht}{vst vwa vh:Value}{rows:List (List Int)}(hs:St H w σ)(h1:RI H vst s.st)(h2:RI H vwa s.wa)(hr:RT H vh rows):
  Cl Tryz.prog 37 [.agg #[I s.id,I s.src,vst,vwa,I s.al,I s.up],.agg #[vh],.agg #[I q.kind,I q.st,I q.wa]] w fun u w'=>∃H1 n e,HLe H H1∧u= .tuple #[I n,I e]∧we s rows q n e∧St H1 w' σ:=by
 obtain ⟨ah,ch,rfl⟩:=hr.shape
 refine Cl.of Tryz.func37 rfl Tryz.ntmps37 (by simp) (aj (k:=0) rfl (aj (k:=1) rfl (aj (k:=2) rfl (bh)))) ?_
 refine .ai ?_
 refine .o (.box hs rfl rfl ?_);intro b3 w hs
 refine .o (.box hs rfl rfl ?_);intro b4 w hs
 refine .o (.box hs rfl rfl ?_);intro b5 w hs
 refine .z zg (.z zg (.nil (.seq (.ai (.y hs (zls [_,_,_,_,_,_] aT aH) ?_)))))
 refine .o (.call Tryz.call41 rfl (iQ (s:=s) hs h1 h2) ?_);rintro _ w ⟨H1,e,hle1,rfl,he,hs⟩
 refine .z zg (.nil (.ai (.z zm (.z iA (.nil ?_)))))
 refine (.e9 rfl (fun hc17=>?_) (fun hc17=>?_))
 ·refine .ai (.z zm (.z zg (.z zg (.nil ?_))))
  refine .ret (rT (?_))
  have hq:¬fB s∧e=30:=he.resolve_left fun h=>hc17 h.2
  exact Fin.iG [] [] hs fun w hs=>⟨_,results2 wu rfl rfl,H1,_,_,hle1,rfl,by rw [hq.2];exact .space hq.1,hs.out⟩
 ·refine .skip ?_
  refine nT ?_
  refine .seq (.ai (.y hs (zls [_,_,_,_,_,_] aT aH) (.y hs (zls [_] Tryz.isAgg63 Tryz.sizeOf63) ?_)))
  have hok:fB s:=(he.resolve_right fun h=>by omega).1
  have hsm:=eo hok
  refine .o (.call Tryz.call101 rfl (oO (s:=s) hs (h1.mono hle1) (h2.mono hle1) (hr.mono hle1)) ?_);rintro _ w ⟨H2,b21,hle2,rfl,hb21,hs⟩
  have hle02:=hle1.trans hle2
  refine .z iI (.nil ?_)
  refine (.cond rfl (fun hc22=>?_) (fun hc22=>?_))
  ·refine .ai (.z zg (.z zg (.nil ?_)))
   refine .ret (rT (?_))
   exact Fin.iG [] [] hs fun w hs=>⟨_,results2 wu rfl rfl,H2,_,_,hle02,rfl,.hull hok (fun h=>by rw [hb21.2 h] at hc22;cases hc22),hs.out⟩
  ·refine .skip ?_
   refine nT ?_
   refine .ai (.y hs (zls [_,_,_,_,_,_] aT aH) (.y hs (zls [_,_,_] dd bK) ?_))
   have hh:rj s rows:=hb21.1 (by simpa using hc22)
   refine .o (.call Tryz.call102 rfl (jZ (s:=s) (q:=q) hs (h1.mono hle02) (h2.mono hle02) hok) ?_);rintro _ w ⟨H3,vl,L,d,b,en,hle3,rfl,hO,hcase,hs⟩
   have hle03:=hle02.trans hle3
   obtain ⟨al,cl,rfl⟩:=hO.yH
   refine .z zm (.z zex (.z zex (.z zex ?_)))
   refine .o (.alloc hs dz rfl ?_);intro b9 w hs
   refine .o (.store hs rfl rfl aA ?_);intro w hs
   refine .z zg (.z zg (.nil (.seq (.ai (.z zm (.z iI (.nil ?_)))))))
   refine (.cond rfl (fun hc31=>?_) (fun hc31=>?_))
   ·refine .ai (.z zg (.z zg (.nil ?_)))
    refine .ret (rT (?_))
    have hq:¬fK s q:=by
     rcases hcase with ⟨g,_⟩|⟨_,g,_⟩
     ·subst g;cases hc31
     ·exact g
    exact Fin.iG [] [] hs fun w hs=>⟨_,results2 wu rfl rfl,H3,_,_,hle03,rfl,.what hok hh hq,hs.out⟩
   ·refine .skip ?_
    refine nT ?_
    refine .ai ?_
    refine .o (.alloc hs bH rfl ?_);intro b12 w hs
    refine .o (.store hs rfl rfl ae ?_);intro w hs
    refine .nil (.seq (.ai (.y hs (zls [_,_,_,_,_,_] aT aH) ?_)))
    obtain ⟨rfl,hq,rfl,rfl⟩:b=true∧fK s q∧L=k7 s q∧d=nv q:=hcase.resolve_right fun h=>by rw [h.1] at hc31;cases hc31
    have hwl:=fo s q
    obtain ⟨H4,hle4,hW,hs⟩:=cu.df hO (by omega) hs (by repeat constructor)
    have hle04:=hle03.trans hle4
    refine .o (.call tX rfl (fV (s:=s) hs (h1.mono hle04) (h2.mono hle04) ⟨by omega,by omega⟩) ?_);rintro _ w ⟨H5,ba,hle5,rfl,hit,hs⟩
    have hle05:=hle04.trans hle5
    replace hW:=hW.mono hle5
    have hr5:=hr.mono hle05
    refine .nil (.block ?_)
    refine .rangeFunc (gf:=190) (cap:=[.pointer (some ⟨ba,0,none⟩)]) (xs:=wA s) (σb:=[.blk b12 [I (iT s q rows 0)],.blk b9 [.slice al (k7 s q).length cl],.blk b4 [.slice ah rows.length ch]]) (σf:=σ) (hs.sub (by repeat (first|exact Sub.refl _|constructor|apply Sub.weaken))) trivial rfl hit tT (fun x hx=>by
      simp only [wA,List.mem_map] at hx
      obtain ⟨j,_,rfl⟩:=hx;rfl) rfl
     (I:=fun p H' σb=>σb=[.blk b12 [I (iT s q rows p)],.blk b9 [.slice al (k7 s q).length cl],.blk b4 [.slice ah rows.length ch]]) (Ix:=fun _ _ _=>False)
     (fun j _ _ σ g1 g2=>g2) (fun _ _ _ _ _ h=>h) rfl ?_ ?_ (fun D c H' σb w _ h _=>h.elim)
    ·rintro ly p hp H6 σb2 σf2 w hle6 rfl hs ⟨rr,hrr⟩
     have hpm:p<s.many:=by rw [eH] at hp;exact hp
     have hin:p/s.wa.length<s.st.length:=Nat.div_lt_of_lt_mul (by rw [Nat.mul_comm];exact hpm)
     have hkm:=Nat.mod_lt p hsm.2.2.1
     have hsucc:iT s q rows (p+1)=iT s q rows p+gi (k7 s q) (p+1)*gt rows (p/s.wa.length) (p%s.wa.length):=rfl
     have hb0:=nL hok hq hh p (by omega)
     have hb1:=nL hok hq hh (p+1) (by omega)
     have hwz:=nD hok hq
     have hwz2:=hZ (k7 s q) (v:=p+1) (n:=s.many+1) (by omega)
     have hnum:=hh.num _ hin _ hkm
     have hrow:=hh.row _ hin
     have hrlen:=hh.len
     have hprd:=kS (a:=gi (k7 s q) (p+1)) (b:=gt rows (p/s.wa.length) (p%s.wa.length)) (A:=3456000000000) (B:=20000) (by omega) (by omega)
     have hgt:gt rows (p/s.wa.length) (p%s.wa.length)=gi (gr rows (p/s.wa.length)) (p%s.wa.length):=rfl
     rw [nN hp]
     generalize p/s.wa.length=i at*
     generalize p%s.wa.length=k at*
     rw [hgt] at hsucc hprd hnum
     refine .region ?_
     refine .o (.alloc hs jh rfl ?_);intro b13 w hs
     refine .o (.aS (vs:=[_,_,_]) hs rfl rfl lV ?_);intro w hs
     refine .nil ?_
     refine nT ?_
     refine ⟨H6,[.blk b13 [I (i:Int),I (k:Int),I ((p+1:Nat):Int)],.blk b12 [I (iT s q rows p)],.blk b9 [.slice al (k7 s q).length cl],.blk b4 [.slice ah rows.length ch]],HLe.refl _,hs,?_⟩;rintro w σf4 - hs
     refine .block ?_
     refine .draw mix rfl hs ?_;intro w hs
     refine .y 0 rfl hs af ?_;refine .y 1 rfl hs ak ?_;refine .z 2 rfl (zfa ef) ?_;refine .y 3 rfl hs af ?_
     refine .ixX (enc:=fun x=>[I x]) (i:=4) hs rfl (by kernel_rfl) .none (hW.mono hle6) rfl rfl aa ae (br (l:=(k7 s q)) (i:=(p+1)) (by omega)) (by first|rfl|assumption|omega) ?_;intro b39 o39 hc39;replace hc39:=bG.one hc39
     refine .r (i:=5) hs rfl (by kernel_rfl) .none (aM rfl af hc39) ?_
     refine .z 6 rfl (zfa mi) ?_;refine .y 7 rfl hs pb ?_;refine .z 8 rfl (zfa dx) ?_;refine .y 9 rfl hs af ?_
     refine .ixT (i:=10) hs rfl (by kernel_rfl) .none (hr5.mono hle6) rfl rfl an aA (show i<_ by omega) (by first|rfl|assumption|omega) ?_;intro b45 o45 a45 c45 hc45 hR45
     refine .r (i:=11) hs rfl (by kernel_rfl) .none (aM rfl ak hc45) ?_
     refine .z 12 rfl (zfa dh) ?_;refine .y 13 rfl hs af ?_
     refine .ixX (enc:=fun x=>[I x]) (i:=14) hs rfl (by kernel_rfl) .none hR45 rfl rfl aa ae (br (l:=(gr rows i)) (i:=k) (by omega)) (by first|rfl|assumption|omega) ?_;intro b49 o49 hc49;replace hc49:=bG.one hc49
     refine .r (i:=15) hs rfl (by kernel_rfl) .none (aM rfl af hc49) ?_
     refine .z 16 rfl j7 ?_;refine .z 17 rfl cA ?_
     refine .e1 (i:=18) (by kernel_rfl) rfl rfl .none hs ?_
     refine .store hs rfl rfl ae ?_;intro w hs
     refine .go ?_
     refine .done (by kernel_rfl) hs ?_
     refine nB ?_
     exact ⟨H6,[.blk b12 [I (iT s q rows (p+1))],.blk b9 [.slice al (k7 s q).length cl],.blk b4 [.slice ah rows.length ch]],HLe.refl _,by rw [hsucc];exact (hs.sub (by repeat (first|exact Sub.refl _|constructor|apply Sub.weaken)):St H6 w (.blk b12 _:: .blk b9 _:: .blk b4 _::σf4)),rfl⟩
    ·rintro D H6 σb2 w hle6 rfl hs
     rw [eH] at hs
     replace hs:St H6 w (.obj D (.deferred (some [])):: .blk b12 [I (iT s q rows s.many)]:: .blk b9 [.slice al (k7 s q).length cl]:: .blk b4 [.slice ah rows.length ch]::σ):=hs
     have hbd:=nL hok hq hh s.many (by omega)
     have hdp:=vQ q
     refine nB (nT ?_)
     refine .ai (.y hs (zld af) (.z zm ?_))
     refine .o (.call Tryz.call86 rfl (jr hs (by omega) (by omega)) ?_);rintro _ w ⟨rfl,hs⟩
     refine .z zg (.z zg (.nil ?_))
     refine .ret ?_
     exact Fin.iG [D] [] hs fun w hs=>⟨_,results2 wu rfl rfl,H6,_,_,hle05.trans hle6,rfl,.ok hok hh hq,hs.out⟩
set_option maxHeartbeats 4000000 in
theorem qG{H:bn}{w:World}{σ:List Ent}{s:Srv}{r:Rdg}{vst vwa vr vc:Value}{z:Int}(hs:St H w σ)(h1:RI H vst s.sp.st)(h2:RI H vwa s.sp.wa)(h3:RRd H vr s.rs)(h4:RCm H vc s.cs)(hr0:r.val=0):
  Cl Tryz.prog 46 [.agg #[I s.sp.id,I s.sp.src,vst,vwa,I s.sp.al,I s.sp.up,vr,vc],.agg #[I r.src,I r.st,I r.wa,I z,I r.tol,I r.tape,I r.day]] w fun u w'=>∃H1 lo hi e,HLe H H1∧u= .tuple #[.agg #[I lo,I hi],I e]∧tr s r lo hi e∧St H1 w' σ:=by
 obtain ⟨ast,cst,rfl⟩:=RI.shape h1
 obtain ⟨awa,cwa,rfl⟩:=RI.shape h2
 obtain ⟨ar,cr,rfl⟩:=RRd.shape h3
 obtain ⟨ac,cc,rfl⟩:=RCm.shape h4
 refine Cl.of Tryz.func46 rfl Tryz.ntmps46 (by simp) (aj (k:=0) rfl (aj (k:=1) rfl (bh))) ?_
 refine .ai ?_
 refine .o (.box hs rfl rfl ?_);intro b2 w hs
 refine .o (.box hs rfl rfl ?_);intro b3 w hs
 refine .o (.alloc hs bq rfl ?_);intro b4 w hs
 refine .z zg (.nil (.seq (.ai (.y hs (zls [_,_,_,_,_,_,_,_] aN aD) ?_))))
 refine .o (.call BX rfl (gq (s:=s) hs h1 h2 h3 h4) ?_);rintro _ w ⟨H1,e,hle1,rfl,hC,hs⟩
 refine .z zg (.nil (.ai (.z zm (.z iA (.nil ?_)))))
 refine (.e9 rfl (fun hc19=>?_) (fun hc19=>?_))
 ·refine .ai (.z (zbd [_,_] bU) (.z zm ?_))
  refine .o (.aS (vs:=[_,_]) hs rfl rfl az ?_);intro w hs
  refine .z zg (.nil ?_)
  refine .ret (rT (?_))
  exact Fin.iG [] [] hs fun w hs=>⟨_,results2 jO (dH (vs:=[_,_]) hs rfl aW az) rfl,H1,_,_,_,hle1,rfl,.bad hC hc19,hs.out⟩
 ·refine .skip ?_
  refine nT ?_
  refine .ai (.z (zfa cK) ?_)
  refine .o (.store hs rfl rfl ae ?_);intro w hs
  refine .nil (.seq (.ai (.z (zfa aR) (.y hs (zls [_,_,_,_,_,_] aT aH) (.y hs (zls [_,_,_,_,_,_,_] du aE) ?_)))))
  have hok:eM s:=hC.dn.1 (by simpa using hc19)
  have hsm:=eo hok.early.1
  have hrl:=hok.early.2.1
  have hcl:=hok.early.2.2.1
  have hmm:=hok.many
  have hll:=hok.cz
  have hn:=rC s
  have htl:s.bu.length≤60:=by have:=cF s.rs;unfold Srv.bu;omega
  change St _ _ (.blk b4 _:: .blk b3 [I r.src,I r.st,I r.wa,I 0,I r.tol,I r.tape,I r.day]::_) at hs
  refine .o (.call Tryz.call107 rfl (jf (s:=s.sp) (r:=⟨r.src,r.st,r.wa,0,r.tol,r.tape,r.day⟩) hs (h1.mono hle1) (h2.mono hle1)) ?_);rintro _ w ⟨b26,rfl,hb26,hs⟩
  rw [show (⟨r.src,r.st,r.wa,0,r.tol,r.tape,r.day⟩:Rdg)=r by rw [←hr0]] at hb26
  refine .z iI (.nil ?_)
  refine (.cond rfl (fun hc27=>?_) (fun hc27=>?_))
  ·refine .ai (.z (zbd [_,_] bU) ?_)
   refine .o (.aS (vs:=[_,_]) hs rfl rfl az ?_);intro w hs
   refine .z zg (.nil ?_)
   refine .ret (rT (?_))
   exact Fin.iG [] [] hs fun w hs=>⟨_,results2 jO (dH (vs:=[_,_]) hs rfl aW az) rfl,H1,_,_,_,hle1,rfl,.rdg hok (fun h=>by rw [hb26.2 h] at hc27;cases hc27),hs.out⟩
  ·refine .skip ?_
   refine nT ?_
   refine .ai (.y hs (zls [_,_,_,_,_,_,_,_] aN aD) ?_)
   have hr:jt s.sp r:=hb26.1 (by simpa using hc27)
   obtain ⟨g1,g2,g3,g4,g5,g6,g7⟩:=id hr
   refine .o (.call rq rfl (kO (s:=s) hs (h1.mono hle1) (h2.mono hle1) (h3.mono hle1) (h4.mono hle1) hok.early) ?_);rintro _ w ⟨H2,vl,enL,hle2,rfl,hOL,hs⟩
   have hle02:=hle1.trans hle2
   obtain ⟨al,ll,cl,rfl,hlL⟩:=hOL.shape
   rw [dp] at hlL
   refine .o (.alloc hs bY rfl ?_);intro b7 w hs
   refine .o (.aS (vs:=[_,_]) hs rfl rfl aB ?_);intro w hs
   refine .nil (.ai (.y hs (zls [_,_,_,_,_,_,_,_] aN aD) ?_))
   refine .o (.call BV rfl (lJ (s:=s) hs (h3.mono hle02) (by omega)) ?_);rintro v32 w ⟨H3,enT,hle3,hOT,hs⟩
   have hle03:=hle02.trans hle3
   obtain ⟨at_,ct,rfl⟩:=hOT.kj (k9 _) (by omega)
   rw [dk] at hOT ⊢
   refine .z zg (.nil (.ai (.z zm (.y hs (zls [_,_,_,_,_,_,_] du aE) ?_))))
   refine .o (.call tV rfl (eU (r:=⟨r.src,r.st,r.wa,0,r.tol,r.tape,r.day⟩) hs) ?_);rintro _ w ⟨rfl,hs⟩
   refine .o (.call Tryz.call89 rfl (py (t:=r.td) hs hOT (by omega)) ?_);rintro _ w ⟨rfl,hs⟩
   have hnn:=jy (l:=s.bu) (t:=r.td)
   have hcap2:s.sys.many=((s.sp.many+s.bu.length:Nat):Int):=rfl
   refine .z zg (.nil ?_)
   refine .cut (fun fs w=>∃H4 al ll cl enL,kJ fs ⟨134,[],[(9,I (s.tJ r.td:Int)),(7,.pointer (some ⟨b7,0,none⟩)),(4,.pointer (some ⟨b4,0,none⟩)),(3,.pointer (some ⟨b3,0,none⟩)),(2,.pointer (some ⟨b2,0,none⟩))]⟩∧HLe H3 H4∧cu 4 (.slice al ll cl) (fQ (s.mG r.td).cz) enL∧St H4 w (.blk b7 [I (s.mG r.td).many,.slice al ll cl]::enL:: .blk b4 [I 0,I 0]:: .blk b3 [I r.src,I r.st,I r.wa,I 0,I r.tol,I r.tape,I r.day]:: .blk b2 [I s.sp.id,I s.sp.src,.slice ast s.sp.st.length cst,.slice awa s.sp.wa.length cwa,I s.sp.al,I s.sp.up,.slice ar s.rs.length cr,.slice ac s.cs.length cc]::σ)) ?_ ?_
   ·refine .ai (.z zm (.z fN (.nil ?_)))
    refine (.bJ rfl (fun hc38=>?_) (fun hc38=>?_))
    ·refine .ai (.z zm (.z (cM aF) (.z zg (.nil ?_))))
     refine .seq (.draw mix rfl hs ?_);intro w hs
     refine .ys 0 rfl hs [_,_,_,_,_,_,_,_] aN aD ?_;refine .z 1 rfl zm ?_;refine .ys 2 rfl hs [_,_,_,_,_,_,_] du aE ?_
     refine .e1 (i:=3) (by kernel_rfl) rfl rfl .none hs ?_
     refine .call tV rfl (eU (r:=⟨r.src,r.st,r.wa,0,r.tol,r.tape,r.day⟩) hs) ?_;rintro _ w ⟨rfl,hs⟩
     refine .go ?_
     refine .e1 (i:=4) (by kernel_rfl) rfl rfl .none hs ?_
     refine .buildSlice (cells:=[_,_]) hs fD rfl rfl ?_;intro b45 w hs
     refine .go ?_
     refine .e1 (i:=5) (by kernel_rfl) rfl rfl .none hs ?_
     refine .append (ys:=r.td.c) hs dJ rfl rfl hOT (.own .here rfl rfl) (by simp [TD.c,Value.oneCell']) (fun l h=>by rw [bZ _ (k9 _),dk] at h;omega) ?_;intro v46 en46 w hO46 hs
     rw [←sa] at hO46
     obtain ⟨H4,hle4,hT4,hs⟩:=cu.cP (m:=2) (cs:=tdc (s.bu++[r.td])) hO46 (k9 _) (by omega) (by rw [dk];simp;omega) hs (by repeat constructor)
     replace hT4:RTd H4 v46 (s.bu++[r.td]):=hT4
     obtain ⟨a46,c46,rfl⟩:=RTd.shape hT4
     have hle04:=hle03.trans hle4
     have hk4:MkK H4 s (s.bu++[r.td]) (.slice ast s.sp.st.length cst) (.slice awa s.sp.wa.length cwa) (.slice ar s.rs.length cr) (.slice ac s.cs.length cc) (.slice a46 (s.bu++[r.td]).length c46):=⟨h1.mono hle04,h2.mono hle04,h3.mono hle04,h4.mono hle04,hT4⟩
     refine .go ?_
     refine .z 6 rfl (zbd (vs:=[(0,.agg #[I s.sp.id,I s.sp.src,.slice ast s.sp.st.length cst,.slice awa s.sp.wa.length cwa,I s.sp.al,I s.sp.up,.slice ar s.rs.length cr,.slice ac s.cs.length cc]),(1,.slice a46 (s.bu++[r.td]).length c46)]) [I s.sp.id,I s.sp.src,.slice ast s.sp.st.length cst,.slice awa s.sp.wa.length cwa,I s.sp.al,I s.sp.up,.slice ar s.rs.length cr,.slice ac s.cs.length cc,.slice a46 (s.bu++[r.td]).length c46,.slice none 0 0] lR rfl (by kernel_rfl)) ?_
     refine .e1 (i:=7) (by kernel_rfl) rfl rfl .none hs ?_
     refine .box hs rfl rfl ?_;intro b48 w hs
     refine .go ?_
     refine .z 8 rfl zg ?_;refine .done (by kernel_rfl) hs ?_
     refine .seq (.draw mix rfl hs ?_);intro w hs
     refine .z 0 rfl zm ?_;refine .z 1 rfl zm ?_;refine .z 2 rfl zm ?_;refine .z 4 rfl (zfa aR) ?_;refine .z 5 rfl (zfa dm) ?_;refine .y 6 rfl hs af ?_
     refine .e1 (i:=3) (by kernel_rfl) rfl rfl .none hs ?_
     refine .call Ac rfl (iS (s:=s.sp) hs .here hk4.st hk4.wa ⟨by omega,by omega⟩ ⟨by omega,by omega⟩) ?_;rintro _ w ⟨rfl,hs⟩
     refine .go ?_
     refine .e1 (i:=7) (by kernel_rfl) rfl rfl .none hs ?_
     refine .call ma rfl (fp (ls:=[]) (hs.nul.sub (by repeat (first|exact Sub.refl _|constructor|apply Sub.weaken)):St H4 w (.blk b48 _:: .nul:: .blk b7 [I s.sys.many,.slice al ll cl]::enL:: .blk b4 [I 0,I 0]:: .blk b3 [I r.src,I r.st,I r.wa,I 0,I r.tol,I r.tape,I r.day]:: .blk b2 [I s.sp.id,I s.sp.src,.slice ast s.sp.st.length cst,.slice awa s.sp.wa.length cwa,I s.sp.al,I s.sp.up,.slice ar s.rs.length cr,.slice ac s.cs.length cc]::σ)) (.nil 4 none) (by simp)) ?_;rintro _ w ⟨vl5,en5,hO5,hs⟩
     rw [List.nil_append] at hO5
     refine .go ?_
     refine .done (by kernel_rfl) hs ?_
     refine .ai (.z zm (.z zm ?_))
     refine .o (.call Tryz.call117 rfl (ku (s:=s) (ts:=s.bu++[r.td]) (j0:=s.bu.length) hs hk4 hO5 (by simp [two]) hok.early.1 (by simp;omega) hcl hok.early.2.2.2.2 (by simp)) ?_);rintro _ w ⟨H5,vl6,en6,hle5,hO6,hs⟩
     obtain ⟨a6,l6,c6,rfl,hl6⟩:=hO6.shape
     have hnot:r.td∉s.bu:=fun h=>by have:=hnn.2 h;omega
     have hsys:s.mG r.td=⟨s.sys.many+1,s.cz++(two 0 ((s.sp.many:Int)+1+(s.bu.length:Int)) 1000 1000 s.sp.src++qP s.sp (s.bu++[r.td]) s.cs s.bu.length s.cs.length)⟩:=if_neg hnot
     have hlen6:=B6 hok r.td
     rw [hsys,List.length_append] at hlen6
     rw [dp] at hl6
     refine .nil ?_
     refine .draw mix rfl hs ?_;intro w hs
     refine .z 0 rfl (zfa bE) ?_;refine .y 1 rfl hs af ?_;refine .z 2 rfl cA ?_;refine .z 3 rfl (zfa bD) ?_;refine .y 4 rfl hs cD ?_;refine .z 5 rfl zm ?_;refine .z 6 rfl znc ?_;refine .z 7 rfl (zfa gv) ?_;refine .y 8 rfl hs cD ?_;refine .z 10 rfl (zfa bE) ?_
     refine .e1 (i:=9) (by kernel_rfl) rfl rfl .none hs ?_
     refine .append (ys:=fQ (two 0 ((s.sp.many:Int)+1+(s.bu.length:Int)) 1000 1000 s.sp.src++qP s.sp (s.bu++[r.td]) s.cs s.bu.length s.cs.length)) hs bQ rfl rfl hOL (Src.ofOwn hO6 (.there .here)) (jM _) (fun l h=>by rw [dp] at h;omega) ?_;intro v69 en69 w hO69 hs
     rw [←fw] at hO69
     obtain ⟨a69,l69,c69,rfl,h69⟩:=hO69.shape
     refine .go ?_
     refine .e1 (i:=11) (by kernel_rfl) rfl rfl .none hs ?_
     refine .store hs rfl rfl ae ?_;intro w hs
     refine .go ?_
     refine .z 12 rfl (zfa bD) ?_
     refine .e1 (i:=13) (by kernel_rfl) rfl rfl .none hs ?_
     refine .store hs rfl rfl gR ?_;intro w hs
     refine .go ?_
     refine .done (by kernel_rfl) hs ?_
     refine nT ?_
     refine ⟨H5,a69,l69,c69,en69,?_,hle4.trans hle5,by rw [hsys];exact hO69,by rw [hsys];exact hs.sub (by repeat (first|exact Sub.refl _|constructor|apply Sub.weaken))⟩
     refine .cq rfl ?_ (by repeat (first|exact .nil rfl rfl|refine .cons rfl ?_))
     unfold Srv.tJ;rw [if_neg hnot]
    ·refine .skip ?_
     refine nT ?_
     have hmem:r.td∈s.bu:=hnn.1 (by omega)
     have hsys:s.mG r.td=s.sys:=if_pos hmem
     obtain ⟨k,k1,_,_⟩:=fg hmem
     refine ⟨H3,al,ll,cl,enL,?_,HLe.refl _,by rw [hsys];exact hOL,by rw [hsys];exact hs.sub (by repeat (first|exact Sub.refl _|constructor|apply Sub.weaken))⟩
     refine .cq rfl ?_ (by repeat (first|exact .nil rfl rfl|refine .cons rfl ?_))
     unfold Srv.tJ;rw [if_pos hmem,k1];rfl
   ·clear hOL hOT hlL hnn
    rintro fs w ⟨H4,al,ll,cl,enL,hfs,hle4,hOL,hs⟩
    refine WE.sub ?_ hfs
    have hle04:=hle03.trans hle4
    obtain ⟨_,_,_,e0,hlL⟩:=hOL.shape
    cases e0
    rw [dp] at hlL
    have htn:=Db s r.td
    have hjlt:=tJ_lt s r.td
    have hmany:(s.mG r.td).many+1=((s.mG r.td).n:Int):=by
     unfold Srv.mG
     split
     ·simp only [cB.n,Srv.sys];omega
     ·simp only [cB.n,Srv.sys];omega
    have hn70:(s.mG r.td).n≤200:=by rw [htn];split<;>omega
    have hll6:ll=(s.mG r.td).cz.length:=by omega
    refine .seq (.ai (.z (zfa bE) (.y hs (zld af) (.z lk (.z zm ?_)))))
    refine .iE (t':=75) rfl (fun hb75=>?_) (fun hb75=>?_)
    ·refine .gFs 4 3 false rfl rfl rfl ?_
     refine .z zpT (.nil ?_)
     refine (.fj rfl (by first|rfl|exact decide_eq_true (by assumption)) ?_)
     refine .ai (.z (zbd [_,_] bU) ?_)
     refine .o (.aS (vs:=[_,_]) hs rfl rfl az ?_);intro w hs
     refine .z zg (.nil ?_)
     refine .ret (rT (?_))
     exact Fin.iG [] [] hs fun w hs=>⟨_,results2 jO (dH (vs:=[_,_]) hs rfl aW az) rfl,H4,_,_,_,hle04,rfl,.long hok hr (by omega),hs.out⟩
    ·refine .gT rfl rfl ?_
     refine .z (zfa bD) ?_
     refine .gT rfl rfl ?_
     refine .y hs (zld cD) ?_
     refine .gT rfl rfl ?_
     refine .z (cM aQ) ?_
     refine .gT rfl rfl ?_
     refine .z lk (.z zpF (.nil ?_))
     refine (.bJ rfl (fun hc80=>?_) (fun hc80=>?_))
     ·refine .ai (.z (zbd [_,_] bU) ?_)
      refine .o (.aS (vs:=[_,_]) hs rfl rfl az ?_);intro w hs
      refine .z zg (.nil ?_)
      refine .ret (rT (?_))
      exact Fin.iG [] [] hs fun w hs=>⟨_,results2 jO (dH (vs:=[_,_]) hs rfl aW az) rfl,H4,_,_,_,hle04,rfl,.long hok hr (by omega),hs.out⟩
     ·refine .skip ?_
      refine nT ?_
      refine .ai (.z (zfa bE) (.y hs (zld af) (.z cA ?_)))
      have hfit:(s.mG r.td).many≤64∧(s.mG r.td).cz.length≤400:=by omega
      refine .o (.oT (s.mG r.td).n hs (by show some (I _)=some (I _);rw [←hmany]) (by show some (I _)=some (I _);rw [←hmany]) aa dq rfl ae bH (by omega) ?_);intro b85 w hs
      obtain ⟨u1,u2,u3⟩:=rdg_u hr
      have hub:=xL u1 u2
      refine .z zg (.nil (.ai (.z zm (.z (zfa aR) (.y hs (zls [_,_,_,_,_,_] aT aH) (.z (zfa eD) (.y hs (zld af) (.z (zfa eC) (.y hs (zld af) ?_)))))))))
      refine .o (.call Tryz.call118 rfl (j5 (s:=s.sp) hs (h2.mono hle04) (by omega) ⟨by omega,by omega⟩ ⟨by omega,by omega⟩) ?_);rintro _ w ⟨rfl,hs⟩
      rw [u3]
      refine .q hs (dF (k:=s.sp.u r.st.toNat r.wa.toNat) rfl rfl aa ae rfl (by omega)) ?_
      refine .o (.store (c':=Is (lA (s.mG r.td).n (s.sp.u r.st.toNat r.wa.toNat) 1)) hs rfl rfl ae ?_ (by repeat constructor) (by simp [Is];omega) (lT _ _ _));intro w hs
      refine .nil (.ai (.z zm (.z (zfa aR) (.y hs (zls [_,_,_,_,_,_] aT aH) ?_))))
      refine .o (.call wF rfl (fF (s:=s.sp) hs (h1.mono hle04) (h2.mono hle04) ⟨by omega,by omega⟩) ?_);rintro _ w ⟨rfl,hs⟩
      refine .z cA (.z zm (.z cA ?_))
      refine .q hs (dF (k:=s.sp.many+1+s.tJ r.td) rfl rfl aa ae (by omega) (by omega)) ?_
      refine .o (.store (c':=Is (s.tW r)) hs rfl rfl ae ?_ (by repeat constructor) (by simp [Is,fO];omega) (lT _ _ _));intro w hs
      refine .nil (.ai (.y hs (zls [_,_] aU aB) (.z zm ?_)))
      have hwl:(s.tW r).length=(s.mG r.td).n:=by simp [Srv.tW,fO]
      obtain ⟨H5,hle5,hW,hs⟩:=cu.df (xs:=s.tW r) (v:= .slice (some ⟨b85,0,none⟩) (s.mG r.td).n (s.mG r.td).n) (.full (by simp [Is,hwl])) (by omega) hs (by repeat constructor)
      obtain ⟨H6,hle6,hL6,hs⟩:=cu.cP (m:=4) (cs:=(s.mG r.td).cz.map Lim.c) hOL (fun c hc=>by simp only [List.mem_map] at hc;obtain ⟨x,_,rfl⟩:=hc;rfl) (by omega) (by rw [List.length_map];omega) hs (by repeat constructor)
      refine .o (.call Tryz.call74 rfl (jW (s:=s.mG r.td) hs ⟨_,rfl,hL6⟩ (hW.mono hle6)) ?_);rintro _ w ⟨H7,a,b,f,hle7,rfl,hRg,hs⟩
      have hbd:=hRg.bd
      have hleF:=hle04.trans (hle5.trans (hle6.trans hle7))
      refine .z zm (.z zex (.z zex (.z zex (.z zg (.z zg (.z zg (.nil (.seq (.ai ?_)))))))))
      refine .z zm (.z iA (.nil ?_))
      refine (.e9 rfl (fun hc111=>?_) (fun hc111=>?_))
      ·refine .ai (.z (zbd [_,_] bU) ?_)
       refine .o (.aS (vs:=[_,_]) hs rfl rfl az ?_);intro w hs
       refine .z zg (.nil ?_)
       refine .ret (rT (?_))
       exact Fin.iG [] [] hs fun w hs=>⟨_,results2 jO (dH (vs:=[_,_]) hs rfl aW az) rfl,H7,_,_,_,hleF,rfl,.fls hok hr hfit hRg hc111,hs.out⟩
      ·refine .skip ?_
       refine nT ?_
       refine .ai ?_
       obtain rfl:f=0:=by simpa using hc111
       refine .z zm (.z (zfa ck) (.y hs (zld af) (.z gM (.z DA (.z zm (.z (zfa ck) (.y hs (zld af) (.z cA (.z (zfa ck) ?_)))))))))
       refine .y hs (zld af) (.z gM (.z Ad (.z (zbd [_,_] bU) ?_)))
       refine .o (.alloc hs bq rfl ?_);intro b15 w hs
       refine .o (.aS (vs:=[_,_]) hs rfl rfl az ?_);intro w hs
       refine .nil (.seq (.ai (.z (zfa uk) (.y hs (zld af) (.z (zfa uj) (.y hs (zld af) (.z lk (.nil ?_))))))))
       refine (.bJ rfl (fun hc131=>?_) (fun hc131=>?_))
       ·refine .ai (.z (zbd [_,_] bU) ?_)
        refine .o (.aS (vs:=[_,_]) hs rfl rfl az ?_);intro w hs
        refine .z zg (.nil ?_)
        refine .ret (rT (?_))
        exact Fin.iG [] [] hs fun w hs=>⟨_,results2 jO (dH (vs:=[_,_]) hs rfl aW az) rfl,H7,_,_,_,hleF,rfl,.none hok hr hfit hRg (by omega),hs.out⟩
       ·refine .skip ?_
        refine nT ?_
        refine .ai (.y hs (zls [_,_] aW az) ?_)
        refine .o (.aS (vs:=[_,_]) hs rfl rfl az ?_);intro w hs
        refine .z zg (.nil ?_)
        refine .ret ?_
        exact Fin.iG [] [] hs fun w hs=>⟨_,results2 jO (dH (vs:=[_,_]) hs rfl aW az) rfl,H7,_,_,_,hleF,rfl,.ok hok hr hfit hRg (by omega),hs.out⟩
set_option maxRecDepth 100000 in
theorem qz:Tryz.prog.stoodInHeld 44=false:=by kernel_rfl
set_option maxRecDepth 100000 in
theorem qA:Tryz.prog.eqGuardType Tryz.prog.depth 44=false:=by kernel_rfl
theorem km{H:bn}{w:World}{σ:List Ent}{v1 v2:Value}{as_ bs:List Int}(hs:St H w σ)(h1:RI H v1 as_)(h2:RI H v2 bs):
  Cl Tryz.prog 34 [v1,v2] w fun u w'=>u= .bool (decide (as_=bs))∧St H w' σ:=by
 obtain ⟨a1,c1,rfl⟩:=RI.shape h1
 obtain ⟨a2,c2,rfl⟩:=RI.shape h2
 have l1:=(RI.len h1).2.2
 refine Cl.of Tryz.func34 rfl Tryz.ntmps34 (by simp) (aj (k:=0) rfl (aj (k:=1) rfl (bh))) ?_
 refine .ai (.z zg (.nil (.ai (.z zm (.z (cM aa) (.z zm (.z (cM aa) (.z fA (.z zg ?_)))))))))
 refine .nil (.seq (.ai (.z zg (.nil (.block ?_)))))
 refine .loop (fun p:Nat×Bool=>⟨31,[],[(6,I (p.1:Int)),(5,.bool p.2),(0,.slice a1 as_.length c1),(1,.slice a2 bs.length c2)]⟩)
  (fun p w=>p.1≤as_.length∧(p.2=true↔as_.length=bs.length∧∀j<p.1,gi as_ j=gi bs j)∧St H w σ) (fun p=>as_.length - p.1) (0,decide ((as_.length:Int)=bs.length)) (by repeat (first|exact .nil rfl rfl|refine .cons rfl ?_))
  ⟨Nat.zero_le _,by dsimp only;rw [decide_eq_true_eq];exact ⟨fun h=>⟨by omega,fun j hj=>by omega⟩,fun h=>by omega⟩,hs⟩ ?_
 rintro ⟨k,b⟩ w ⟨hk,hb,hs⟩
 dsimp only at hk hb ⊢
 refine .seq (.ai (.z zm (.z zm (.z (cM aa) (.z fN (.z zm ?_))))))
 refine .iE (t':=16) rfl (fun hb16=>?_) (fun hb16=>?_)
 ·refine .gT rfl rfl ?_
  refine .z zm (.z zpT (.nil ?_))
  refine (.cond rfl (fun hc18=>?_) (fun hc18=>?_))
  ·refine .skip ?_
   refine nT ?_
   refine .seq (.block ?_)
   refine .draw mix rfl hs ?_;intro w hs
   refine .z 0 rfl zm ?_;refine .z 1 rfl zm ?_
   obtain rfl:b=true:=by assumption
   obtain ⟨hlen,hall⟩:=hb.1 rfl
   refine .ixX (enc:=fun x=>[I x]) (i:=2) hs rfl (by kernel_rfl) .none h1 rfl rfl aa ae (br (l:=as_) (i:=k) (by omega)) (by first|rfl|assumption|omega) ?_;intro b23 o23 hc23;replace hc23:=bG.one hc23
   refine .r (i:=3) hs rfl (by kernel_rfl) .none (aM rfl af hc23) ?_
   refine .z 4 rfl zm ?_;refine .z 5 rfl zm ?_
   refine .ixX (enc:=fun x=>[I x]) (i:=6) hs rfl (by kernel_rfl) .none h2 rfl rfl aa ae (br (l:=bs) (i:=k) (by omega)) (by first|rfl|assumption|omega) ?_;intro b27 o27 hc27;replace hc27:=bG.one hc27
   refine .r (i:=7) hs rfl (by kernel_rfl) .none (aM rfl af hc27) ?_
   refine .z 8 rfl fA ?_;refine .z 9 rfl zg ?_;refine .done (by kernel_rfl) hs ?_
   refine nB (nT ?_)
   refine .region (.z zm (.z cA (.z zg (.nil ?_))))
   refine nT ?_
   exact ⟨(k+1,decide (gi as_ k=gi bs k)),.cq rfl (by simp) (by repeat (first|exact .nil rfl rfl|refine .cons rfl ?_)),⟨by dsimp only;omega,by
    dsimp only
    rw [decide_eq_true_eq]
    exact ⟨fun h=>⟨hlen,fun j hj=>by
     by_cases e:j=k
     ·subst e;exact h
     ·exact hall j (by omega)⟩,fun h=>h.2 k (by omega)⟩,hs⟩,by dsimp only;omega⟩
  ·refine .exit ?_
   refine xT (xT (xB (nT ?_)))
   refine .ai (.z zm (.z zg (.nil ?_)))
   refine .ret (Fin.bI Tryz.results34 rfl ?_)
   have hf:b=false:=by simpa using hc18
   exact ⟨by rw [hf,decide_eq_false (fun h=>by subst h;rw [hb.2 ⟨rfl,fun j _=>rfl⟩] at hf;cases hf)],hs⟩
 ·refine .gFs 1 4 true rfl rfl rfl ?_
  refine .z zpF (.nil ?_)
  refine (.mj rfl (by first|rfl|exact decide_eq_false (by assumption)) ?_)
  refine .exit ?_
  refine xT (xT (xB (nT ?_)))
  refine .ai (.z zm (.z zg (.nil ?_)))
  refine .ret (Fin.bI Tryz.results34 rfl ?_)
  refine ⟨?_,hs⟩
  congr 1
  cases hbb:b with
  |true=>
   obtain ⟨hl,ha⟩:=hb.1 hbb
   rw [decide_eq_true (xm hl fun j hj=>ha j (by omega))]
  |false=>rw [decide_eq_false (fun h=>by subst h;rw [hb.2 ⟨rfl,fun j _=>rfl⟩] at hbb;cases hbb)]
theorem pT{H:bn}{w:World}{σ:List Ent}(hs:St H w σ):
  Cl Tryz.prog 82 [] w fun u w'=>∃H1 vst vwa vr vc,HLe H H1∧u= .agg #[I 1,I 1,vst,vwa,I 100,I 200,vr,vc]∧RI H1 vst exV.sp.st∧RI H1 vwa exV.sp.wa∧RRd H1 vr exV.rs∧RCm H1 vc exV.cs∧St H1 w' σ:=by
 refine Cl.of Tryz.func82 rfl Tryz.ntmps82 (by simp) (bh) ?_
 refine .ai ?_
 refine .o (.alloc hs dy rfl ?_);intro b0 w hs
 refine .nil (.ai ?_)
 refine .o (.buildSlice (cells:=Is [0,1000]) hs iC rfl (by kernel_rfl) ?_);intro b2 w hs
 refine .o (.buildSlice (cells:=Is [0,1000]) hs iC rfl (by kernel_rfl) ?_);intro b3 w hs
 refine .z (zbd [_,_] rf) (.z (zbd [_,_,_,_,_,_] qd) ?_)
 refine .o (.alloc hs fY rfl ?_);intro b1 w hs
 refine .o (.aS (vs:=[_,_,_,_,_,_]) hs rfl rfl aH ?_);intro w hs
 refine .nil (.ai (.y hs (zls [_,_,_,_,_,_] aT aH) (.z (zbd [_,_,_,_,_,_,_] eX) (.z (zbd [_,_,_,_,_,_,_] eX) (.z (zbd [_,_,_,_,_,_,_] eX) (.z (zbd [_,_,_,_,_,_,_] eX) ?_))))))
 refine .o (.buildSlice (cells:=(rdc BE).flatten) hs oe rfl (by kernel_rfl) ?_);intro b11 w hs
 refine .z (zbd [_,_,_,_,_,_] nx) ?_
 refine .o (.buildSlice (cells:=(cmc exV.cs).flatten) hs j6 rfl (by kernel_rfl) ?_);intro b13 w hs
 refine .z (zbd (vs:=[(0,.agg #[I 1,I 1,.slice (some ⟨b2,0,none⟩) 2 2,.slice (some ⟨b3,0,none⟩) 2 2,I 100,I 200]),(1,.slice (some ⟨b11,0,none⟩) 4 4),(2,.slice (some ⟨b13,0,none⟩) 1 1)]) [I 1,I 1,.slice (some ⟨b2,0,none⟩) 2 2,.slice (some ⟨b3,0,none⟩) 2 2,I 100,I 200,.slice (some ⟨b11,0,none⟩) 4 4,.slice (some ⟨b13,0,none⟩) 1 1] ox rfl (by kernel_rfl)) ?_
 refine .o (.aS (vs:=[_,_,_,_,_,_,_,_]) hs rfl rfl aD ?_);intro w hs
 refine .nil ?_
 refine .ret ?_
 obtain ⟨H1,g1,r1,hs⟩:=cu.df (xs:=[0,1000]) (v:= .slice (some ⟨b2,0,none⟩) 2 2) (.full rfl) (by simp) hs (by repeat constructor)
 obtain ⟨H2,g2,r2,hs⟩:=cu.df (xs:=[0,1000]) (v:= .slice (some ⟨b3,0,none⟩) 2 2) (.full rfl) (by simp) hs (by repeat constructor)
 obtain ⟨H3,g3,r3,hs⟩:=cu.cP (m:=7) (cs:=rdc BE) (v:= .slice (some ⟨b11,0,none⟩) 4 4) (.full (by kernel_rfl)) (iH _) (by omega) (by decide) hs (by repeat constructor)
 obtain ⟨H4,g4,r4,hs⟩:=cu.cP (m:=6) (cs:=cmc exV.cs) (v:= .slice (some ⟨b13,0,none⟩) 1 1) (.full (by kernel_rfl)) (qQ _) (by omega) (by decide) hs (by repeat constructor)
 exact Fin.iG [] [] hs fun w hs=>⟨_,results1 Tryz.results82 (dH (vs:=[_,_,_,_,_,_,_,_]) hs rfl aN aD),H4,_,_,_,_,g1.trans (g2.trans (g3.trans g4)),rfl,r1.mono (g2.trans (g3.trans g4)),r2.mono (g3.trans g4),r3.mono g4,r4,hs.out⟩
theorem CZ{out:List Int}{e:Int}(h:rl exW out e):out=[11,15]∧e=0:=by
 cases h with
 |bad h he=>exact (he (h.dn.2 exW_ok)).elim
 |ok _ h=>rw [D5] at h;exact Bk h
set_option maxHeartbeats 4000000 in
theorem kv{H:bn}{w:World}{σ:List Ent}(hs:St H w σ):
  Cl Tryz.prog 22 [] w fun u w'=>u= .bool true∧∃H1,HLe H H1∧St H1 w' σ:=by
 refine Cl.of Tryz.func22 rfl Tryz.ntmps22 (by simp) (bh) ?_
 refine .ai (.z zg (.nil (.ai ?_)))
 refine .o (.call Tryz.call82 rfl (pT hs) ?_);rintro _ w ⟨H1,vst,vwa,vr,vc,hle1,rfl,h1,h2,h3,h4,hs⟩
 obtain ⟨ast,cst,rfl⟩:=RI.shape h1
 obtain ⟨awa,cwa,rfl⟩:=RI.shape h2
 obtain ⟨ar,cr,rfl⟩:=RRd.shape h3
 obtain ⟨ac,cc,rfl⟩:=RCm.shape h4
 refine .o (.alloc hs dy rfl ?_);intro b1 w hs
 refine .o (.aS (vs:=[_,_,_,_,_,_,_,_]) hs rfl rfl aD ?_);intro w hs
 refine .nil (.ai (.y hs (zls [_,_,_,_,_,_,_,_] aN aD) (.z (zbd [_,_,_] kY) ?_)))
 refine .o (.call Tryz.call26 rfl (iR (s:=exV) (q:=⟨1,0,1⟩) hs h1 h2 h3 h4) ?_);rintro _ w ⟨H2,lo,hi,e,hle2,rfl,hQ,hs⟩
 obtain ⟨rfl,rfl,rfl⟩:=Bj hQ
 have hle02:=hle1.trans hle2
 replace h1:=h1.mono hle2
 replace h2:=h2.mono hle2
 replace h3:=h3.mono hle2
 replace h4:=h4.mono hle2
 refine .z zm (.z zex (.z zex ?_))
 refine .o (.alloc hs bq rfl ?_);intro b2 w hs
 refine .o (.aS (vs:=[_,_]) hs rfl rfl az ?_);intro w hs
 refine .z zg (.nil (.ai (.y hs (zls [_,_,_,_,_,_,_,_] aN aD) (.z (zbd [_,_] fJ) ?_))))
 refine .o (.call wG rfl (fG (s:=exV) (t:=⟨2,5⟩) hs h1 h2 h3 h4) ?_);rintro _ w ⟨H3,lo,hi,e,hle3,rfl,hQ,hs⟩
 obtain ⟨rfl,rfl,rfl⟩:=D4 hQ
 have hle03:=hle02.trans hle3
 replace h1:=h1.mono hle3
 replace h2:=h2.mono hle3
 replace h3:=h3.mono hle3
 replace h4:=h4.mono hle3
 refine .z zm (.z zex (.z zex ?_))
 refine .o (.alloc hs bq rfl ?_);intro b4 w hs
 refine .o (.aS (vs:=[_,_]) hs rfl rfl az ?_);intro w hs
 refine .z zg (.nil (.ai (.z (zfa aR) (.y hs (zls [_,_,_,_,_,_] aT aH) ?_))))
 refine .o (.buildSlice (cells:=Is [100,200]) hs iC rfl (by kernel_rfl) ?_);intro b30 w hs
 refine .o (.buildSlice (cells:=Is [150,300]) hs iC rfl (by kernel_rfl) ?_);intro b31 w hs
 refine .o (.buildSlice (cells:=[.slice (some ⟨b30,0,none⟩) 2 2,.slice (some ⟨b31,0,none⟩) 2 2]) hs uo rfl (by kernel_rfl) ?_);intro b32 w hs
 refine .z (zbd [_] xu) (.z (zbd [_,_,_] kY) ?_)
 obtain ⟨H4,g1,r1,hs⟩:=cu.df (xs:=[100,200]) (v:= .slice (some ⟨b30,0,none⟩) 2 2) (.full rfl) (by simp) hs (by repeat constructor)
 obtain ⟨H5,g2,r2,hs⟩:=cu.df (xs:=[150,300]) (v:= .slice (some ⟨b31,0,none⟩) 2 2) (.full rfl) (by simp) hs (by repeat constructor)
 have hRL:RLs H5 [.slice (some ⟨b30,0,none⟩) 2 2,.slice (some ⟨b31,0,none⟩) 2 2] zh:=((RLs.nil H5).snoc (r1.mono g2)).snoc r2
 obtain ⟨H6,g3,hRT,hs⟩:=hRL.cP (v:= .slice (some ⟨b32,0,none⟩) 2 2) (en:= .blk b32 [.slice (some ⟨b30,0,none⟩) 2 2,.slice (some ⟨b31,0,none⟩) 2 2]) (.full rfl) (by simp) hs (by repeat constructor)
 have hle4:=g1.trans (g2.trans g3)
 have hle06:=hle03.trans hle4
 replace h1:=h1.mono hle4
 replace h2:=h2.mono hle4
 replace h3:=h3.mono hle4
 replace h4:=h4.mono hle4
 refine .o (.call Tryz.call37 rfl (pL (s:=zX) (q:=⟨1,0,1⟩) hs h1 h2 hRT) ?_);rintro _ w ⟨H7,n,e,hle7,rfl,hQ,hs⟩
 obtain ⟨rfl,rfl⟩:=CS hQ
 have hle07:=hle06.trans hle7
 replace h1:=h1.mono hle7
 replace h2:=h2.mono hle7
 replace h3:=h3.mono hle7
 replace h4:=h4.mono hle7
 refine .z zm (.z zex (.z zex (.z zg (.z zg (.nil (.ai (.y hs (zls [_,_,_,_,_,_,_,_] aN aD) (.z (zbd [_,_,_,_,_,_,_] eX) ?_))))))))
 refine .o (.call Tryz.call46 rfl (qG (s:=exV) (r:=⟨30,1,0,0,5,1,5⟩) hs h1 h2 h3 h4 rfl) ?_);rintro _ w ⟨H8,lo,hi,e,hle8,rfl,hQ,hs⟩
 obtain ⟨rfl,rfl,rfl⟩:=D2 hQ
 have hle08:=hle07.trans hle8
 replace h1:=h1.mono hle8
 replace h2:=h2.mono hle8
 replace h3:=h3.mono hle8
 replace h4:=h4.mono hle8
 refine .z zm (.z zex (.z zex ?_))
 refine .o (.alloc hs bq rfl ?_);intro b8 w hs
 refine .o (.aS (vs:=[_,_]) hs rfl rfl az ?_);intro w hs
 refine .z zg (.nil (.ai (.y hs (zls [_,_,_,_,_,_,_,_] aN aD) ?_)))
 refine .o (.alloc hs dy rfl ?_);intro b10 w hs
 refine .o (.aS (vs:=[_,_,_,_,_,_,_,_]) hs rfl rfl aD ?_);intro w hs
 refine .nil (.ai ?_)
 refine .o (.buildSlice (cells:=[]) hs og rfl rfl ?_);intro b45 w hs
 refine .z (zfa aJ) (.y hs (zld bp) ?_)
 refine .o (.append (xs:=[]) (ys:=(rdc BE).flatten) hs cE rfl rfl (.full (b:=b45) (len:=0) rfl) (.rs h3) (by decide) (fun l' h=>by have hl:l'=0:=(by simp at h;omega);subst hl;decide) ?_);intro v48 en48 w hO48 hs
 rw [List.nil_append] at hO48
 obtain ⟨a48,c48,rfl⟩:=hO48.kj (iH BE) (by omega)
 refine .z (zbd [_,_,_,_,_,_,_] eX) ?_
 refine .o (.buildSlice (cells:=Rdg.c ⟨15,0,0,300,10,1,5⟩) hs eL rfl (by kernel_rfl) ?_);intro b50 w hs
 refine .o (.append (ys:=Rdg.c ⟨15,0,0,300,10,1,5⟩) hs cE rfl rfl hO48 (.own .here rfl rfl) (by decide) (fun l' h=>by rw [bZ _ (iH _)] at h;simp [rdc,BE] at h;omega) ?_);intro v51 en51 w hO51 hs
 rw [←pF] at hO51
 obtain ⟨H9,hle9,h3w,hs⟩:=cu.cP (m:=7) (cs:=rdc (BE++[⟨15,0,0,300,10,1,5⟩])) hO51 (iH _) (by omega) (by decide) hs (by repeat constructor)
 replace h3w:RRd H9 v51 exW.rs:=h3w
 obtain ⟨a51,c51,rfl⟩:=RRd.shape h3w
 have hle09:=hle08.trans hle9
 replace h1:=h1.mono hle9
 replace h2:=h2.mono hle9
 replace h4:=h4.mono hle9
 refine .z (zfa aJ) ?_
 refine .o (.store hs rfl rfl ji ?_);intro w hs
 refine .nil (.ai (.y hs (zls [_,_,_,_,_,_,_,_] aN aD) ?_))
 refine .o (.call Tryz.call32 rfl (kQ (s:=exW) hs h1 h2 h3w h4) ?_);rintro _ w ⟨H10,vx,out,e,hle10,rfl,hR,hQ,hs⟩
 obtain ⟨rfl,rfl⟩:=CZ hQ
 have hle010:=hle09.trans hle10
 refine .z zm (.z zex (.z zex (.z zg (.z zg (.nil (.ai (.z zm ?_)))))))
 refine .o (.buildSlice (cells:=Is [11,15]) hs iC rfl (by kernel_rfl) ?_);intro b59 w hs
 obtain ⟨H11,hle11,r59,hs⟩:=cu.df (xs:=[11,15]) (v:= .slice (some ⟨b59,0,none⟩) 2 2) (.full rfl) (by simp) hs (by repeat constructor)
 have hleF:=hle010.trans hle11
 refine .o (.call Tryz.call34 rfl (km hs (hR.mono hle11) r59) ?_);rintro _ w ⟨rfl,hs⟩
 refine .z zg (.nil (.ai (.z zm (.z fA (.z zm ?_)))))
 refine .iE (t':=63) rfl (fun hb63=>?_) (fun hb63=>?_)
 ·refine .gT rfl rfl ?_
  refine .y hs (zls [_,_] aW az) ?_
  refine .gT rfl rfl ?_
  refine .z (zbd [_,_] bU) ?_
  refine .gT rfl rfl ?_
  refine .q hs (iN qz qA bL (fun f hf=>by
   simp only [List.mem_cons,List.not_mem_nil,or_false] at hf
   rcases hf with rfl|rfl<;>exact ⟨by decide,aK,af⟩) rfl rfl) ?_
  refine .z zpT (.z zm ?_)
  refine .bif (t':=68) rfl (fun hb68=>?_) (fun hb68=>?_)
  ·refine .gT rfl rfl ?_
   refine .z zm ?_
   refine .gT rfl rfl ?_
   refine .z fA (.z zpT (.z zm ?_))
   refine .iE (t':=72) rfl (fun hb72=>?_) (fun hb72=>?_)
   ·refine .gT rfl rfl ?_
    refine .y hs (zls [_,_] aW az) ?_
    refine .gT rfl rfl ?_
    refine .z (zbd [_,_] bU) ?_
    refine .gT rfl rfl ?_
    refine .q hs (iN qz qA bL (fun f hf=>by
     simp only [List.mem_cons,List.not_mem_nil,or_false] at hf
     rcases hf with rfl|rfl<;>exact ⟨by decide,aK,af⟩) rfl rfl) ?_
    refine .z zpT (.z zm ?_)
    refine .bif (t':=77) rfl (fun hb77=>?_) (fun hb77=>?_)
    ·refine .gT rfl rfl ?_
     refine .z zm ?_
     refine .gT rfl rfl ?_
     refine .z fA (.z zpT (.z zm ?_))
     refine .iE (t':=81) rfl (fun hb81=>?_) (fun hb81=>?_)
     ·refine .gT rfl rfl ?_
      refine .z zm ?_
      refine .gT rfl rfl ?_
      refine .z fA (.z zpT (.z zm ?_))
      refine .iE (t':=85) rfl (fun hb85=>?_) (fun hb85=>?_)
      ·refine .gT rfl rfl ?_
       refine .z zm ?_
       refine .gT rfl rfl ?_
       refine .z fA (.z zpT (.z zm ?_))
       refine .iE (t':=89) rfl (fun hb89=>?_) (fun hb89=>?_)
       ·refine .gT rfl rfl ?_
        refine .y hs (zls [_,_] aW az) ?_
        refine .gT rfl rfl ?_
        refine .z (zbd [_,_] bU) ?_
        refine .gT rfl rfl ?_
        refine .q hs (iN qz qA bL (fun f hf=>by
         simp only [List.mem_cons,List.not_mem_nil,or_false] at hf
         rcases hf with rfl|rfl<;>exact ⟨by decide,aK,af⟩) rfl rfl) ?_
        refine .z zpT (.z zm ?_)
        refine .bif (t':=94) rfl (fun hb94=>?_) (fun hb94=>?_)
        ·refine .gT rfl rfl ?_
         refine .z zm ?_
         refine .gT rfl rfl ?_
         refine .z fA (.z zpT (.z zm ?_))
         refine .iE (t':=98) rfl (fun hb98=>?_) (fun hb98=>?_)
         ·refine .gT rfl rfl ?_
          refine .z zm (.z zpT (.z zg (.nil ?_)))
          refine .ret (Fin.bI fC rfl ?_)
          first
          |exact ⟨rfl,H11,hleF,hs.out⟩
          |contradiction
          |(exfalso;simp_all;done)
         ·refine .gFs 1 37 true rfl rfl rfl ?_
          refine .z zpF (.z zg (.nil ?_))
          refine .ret (Fin.bI fC rfl ?_)
          first
          |exact ⟨rfl,H11,hleF,hs.out⟩
          |contradiction
          |(exfalso;simp_all;done)
        ·refine .gFs 2 33 true rfl rfl rfl ?_
         refine .z zpF (.z zm ?_)
         refine .gFs 1 37 true rfl rfl rfl ?_
         refine .z zpF (.z zg (.nil ?_))
         refine .ret (Fin.bI fC rfl ?_)
         first
         |exact ⟨rfl,H11,hleF,hs.out⟩
         |contradiction
         |(exfalso;simp_all;done)
       ·refine .gFs 3 28 true rfl rfl rfl ?_
        refine .z zpF (.z zm ?_)
        refine .gFs 2 33 true rfl rfl rfl ?_
        refine .z zpF (.z zm ?_)
        refine .gFs 1 37 true rfl rfl rfl ?_
        refine .z zpF (.z zg (.nil ?_))
        refine .ret (Fin.bI fC rfl ?_)
        first
        |exact ⟨rfl,H11,hleF,hs.out⟩
        |contradiction
        |(exfalso;simp_all;done)
      ·refine .gFs 2 24 true rfl rfl rfl ?_
       refine .z zpF (.z zm ?_)
       refine .gFs 3 28 true rfl rfl rfl ?_
       refine .z zpF (.z zm ?_)
       refine .gFs 2 33 true rfl rfl rfl ?_
       refine .z zpF (.z zm ?_)
       refine .gFs 1 37 true rfl rfl rfl ?_
       refine .z zpF (.z zg (.nil ?_))
       refine .ret (Fin.bI fC rfl ?_)
       first
       |exact ⟨rfl,H11,hleF,hs.out⟩
       |contradiction
       |(exfalso;simp_all;done)
     ·refine .gFs 2 20 true rfl rfl rfl ?_
      refine .z zpF (.z zm ?_)
      refine .gFs 2 24 true rfl rfl rfl ?_
      refine .z zpF (.z zm ?_)
      refine .gFs 3 28 true rfl rfl rfl ?_
      refine .z zpF (.z zm ?_)
      refine .gFs 2 33 true rfl rfl rfl ?_
      refine .z zpF (.z zm ?_)
      refine .gFs 1 37 true rfl rfl rfl ?_
      refine .z zpF (.z zg (.nil ?_))
      refine .ret (Fin.bI fC rfl ?_)
      first
      |exact ⟨rfl,H11,hleF,hs.out⟩
      |contradiction
      |(exfalso;simp_all;done)
    ·refine .gFs 2 16 true rfl rfl rfl ?_
     refine .z zpF (.z zm ?_)
     refine .gFs 2 20 true rfl rfl rfl ?_
     refine .z zpF (.z zm ?_)
     refine .gFs 2 24 true rfl rfl rfl ?_
     refine .z zpF (.z zm ?_)
     refine .gFs 3 28 true rfl rfl rfl ?_
     refine .z zpF (.z zm ?_)
     refine .gFs 2 33 true rfl rfl rfl ?_
     refine .z zpF (.z zm ?_)
     refine .gFs 1 37 true rfl rfl rfl ?_
     refine .z zpF (.z zg (.nil ?_))
     refine .ret (Fin.bI fC rfl ?_)
     first
     |exact ⟨rfl,H11,hleF,hs.out⟩
     |contradiction
     |(exfalso;simp_all;done)
   ·refine .gFs 3 11 true rfl rfl rfl ?_
    refine .z zpF (.z zm ?_)
    refine .gFs 2 16 true rfl rfl rfl ?_
    refine .z zpF (.z zm ?_)
    refine .gFs 2 20 true rfl rfl rfl ?_
    refine .z zpF (.z zm ?_)
    refine .gFs 2 24 true rfl rfl rfl ?_
    refine .z zpF (.z zm ?_)
    refine .gFs 3 28 true rfl rfl rfl ?_
    refine .z zpF (.z zm ?_)
    refine .gFs 2 33 true rfl rfl rfl ?_
    refine .z zpF (.z zm ?_)
    refine .gFs 1 37 true rfl rfl rfl ?_
    refine .z zpF (.z zg (.nil ?_))
    refine .ret (Fin.bI fC rfl ?_)
    first
    |exact ⟨rfl,H11,hleF,hs.out⟩
    |contradiction
    |(exfalso;simp_all;done)
  ·refine .gFs 2 7 true rfl rfl rfl ?_
   refine .z zpF (.z zm ?_)
   refine .gFs 3 11 true rfl rfl rfl ?_
   refine .z zpF (.z zm ?_)
   refine .gFs 2 16 true rfl rfl rfl ?_
   refine .z zpF (.z zm ?_)
   refine .gFs 2 20 true rfl rfl rfl ?_
   refine .z zpF (.z zm ?_)
   refine .gFs 2 24 true rfl rfl rfl ?_
   refine .z zpF (.z zm ?_)
   refine .gFs 3 28 true rfl rfl rfl ?_
   refine .z zpF (.z zm ?_)
   refine .gFs 2 33 true rfl rfl rfl ?_
   refine .z zpF (.z zm ?_)
   refine .gFs 1 37 true rfl rfl rfl ?_
   refine .z zpF (.z zg (.nil ?_))
   refine .ret (Fin.bI fC rfl ?_)
   first
   |exact ⟨rfl,H11,hleF,hs.out⟩
   |contradiction
   |(exfalso;simp_all;done)
 ·refine .gFs 3 2 true rfl rfl rfl ?_
  refine .z zpF (.z zm ?_)
  refine .gFs 2 7 true rfl rfl rfl ?_
  refine .z zpF (.z zm ?_)
  refine .gFs 3 11 true rfl rfl rfl ?_
  refine .z zpF (.z zm ?_)
  refine .gFs 2 16 true rfl rfl rfl ?_
  refine .z zpF (.z zm ?_)
  refine .gFs 2 20 true rfl rfl rfl ?_
  refine .z zpF (.z zm ?_)
  refine .gFs 2 24 true rfl rfl rfl ?_
  refine .z zpF (.z zm ?_)
  refine .gFs 3 28 true rfl rfl rfl ?_
  refine .z zpF (.z zm ?_)
  refine .gFs 2 33 true rfl rfl rfl ?_
  refine .z zpF (.z zm ?_)
  refine .gFs 1 37 true rfl rfl rfl ?_
  refine .z zpF (.z zg (.nil ?_))
  refine .ret (Fin.bI fC rfl ?_)
  first
  |exact ⟨rfl,H11,hleF,hs.out⟩
  |contradiction
  |(exfalso;simp_all;done)
structure WI(s:Spc)(L:List Int)(f:Nat→Nat→Int):Prop where
 len:L.length=s.many+1
 zero:gi L 0=0
 at_:∀i k,i<s.st.length→k<s.wa.length→gi L (s.u i k)=f i k
theorem WI.start(s:Spc):WI s (List.replicate (s.many+1) 0) fun _ _=>0:=
 ⟨by simp,dw _ _ (by omega),fun i k hi hk=>by have:=xL hi hk;exact dw _ _ (by omega)⟩
theorem WI.set{s:Spc}{L:List Int}{f:Nat→Nat→Int}(h:WI s L f){i k:Nat}(hi:i<s.st.length)(hk:k<s.wa.length)(x:Int):WI s (L.set (s.u i k) x) fun i' k'=>if i'=i∧k'=k then x else f i' k':=by
 have hb:=xL hi hk
 refine ⟨by rw [List.length_set];exact h.len,by rw [pV (by omega)];exact h.zero,fun i' k' hi' hk'=>?_⟩
 have hb':=xL hi' hk'
 rw [dZ (by rw [h.len];omega)]
 by_cases e:i'=i∧k'=k
 ·obtain ⟨rfl,rfl⟩:=e
  rw [if_pos rfl,if_pos ⟨rfl,rfl⟩]
 ·rw [if_neg e,if_neg,h.at_ i' k' hi' hk']
  intro e2
  obtain ⟨d1,d2⟩:=DH (nw:=s.wa.length) (i:=i) hk
  obtain ⟨d3,d4⟩:=DH (nw:=s.wa.length) (i:=i') hk'
  have e3:i'*s.wa.length+k'=i*s.wa.length+k:=by unfold Spc.u at e2;omega
  rw [e3] at d3 d4
  exact e ⟨d3.symm.trans d1,d4.symm.trans d2⟩
theorem WI.congr{s:Spc}{L:List Int}{f g:Nat→Nat→Int}(h:WI s L f)(e:∀i k,i<s.st.length→k<s.wa.length→f i k=g i k):WI s L g:=
 ⟨h.len,h.zero,fun i k hi hk=>(h.at_ i k hi hk).trans (e i k hi hk)⟩
theorem WI.fin{s:Spc}{q:Wht}{L:List Int}(h:WI s L (jP s q)):L=k7 s q:=B0 h.len h.zero h.at_
theorem qC{H:bn}{w:World}{σ:List Ent}{s:Spc}{q:Wht}{vst vwa:Value}(hs:St H w σ)(h1:RI H vst s.st)(h2:RI H vwa s.wa):
  Cl Tryz.prog 112 [.agg #[I s.id,I s.src,vst,vwa,I s.al,I s.up],.agg #[I q.kind,I q.st,I q.wa]] w fun v w'=>∃b:Bool,v= .bool b∧(b=true↔fK s q)∧St H w' σ:=by
 obtain ⟨ast,cst,rfl⟩:=RI.shape h1
 obtain ⟨awa,cwa,rfl⟩:=RI.shape h2
 have l1:=(RI.len h1).2.2
 have l2:=(RI.len h2).2.2
 have hi:=mU (s:=s) (q:=q)
 simp only [Spc.isW,Spc.isS] at hi
 refine Cl.of Tryz.func112 rfl Tryz.ntmps112 (by simp) (aj (k:=0) rfl (aj (k:=1) rfl (bh))) ?_
 refine .ai ?_
 refine .o (.box hs rfl rfl ?_);intro b2 w hs
 refine .o (.box hs rfl rfl ?_);intro b3 w hs
 refine .z zg (.nil (.ai (.z (zfa cZ) (.y hs (zld af) (.z (zfa bg) (.y hs (zld ak) (.z (cM aa) (.z gM ?_))))))))
 refine .o (.call eR rfl (de hs) ?_);rintro _ w ⟨rfl,hs⟩
 refine .z zg (.nil (.ai (.z (zfa dR) (.y hs (zld af) (.z (zfa bA) (.y hs (zld ak) (.z (cM aa) (.z gM ?_))))))))
 refine .o (.call eR rfl (de hs) ?_);rintro _ w ⟨rfl,hs⟩
 refine .z zg (.nil (.seq (.ai (.z (zfa kc) (.y hs (zld af) (.nil (.block (.ai (.z fA ?_)))))))))
 refine .z zg (.nil ?_)
 refine (.bJ rfl (fun hc23=>?_) (fun hc23=>?_))
 ·refine .ai (.z (zfa dR) (.y hs (zld af) (.z fA (.z zm ?_))))
  refine .iE (t':=28) rfl (fun hb28=>?_) (fun hb28=>?_)
  ·refine .gT rfl rfl ?_
   refine .z zm (.z zpT (.z zm ?_))
   refine .bif (t':=31) rfl (fun hb31=>?_) (fun hb31=>?_)
   ·refine .gT rfl rfl ?_
    refine .z (zfa cZ) ?_
    refine .gT rfl rfl ?_
    refine .y hs (zld af) ?_
    refine .gT rfl rfl ?_
    refine .z lk (.z zpT (.z zg (.nil ?_)))
    refine .ret (rB (rT (Fin.bI e7 rfl ?_)))
    exact ⟨_,rfl,by rw [hi];simp_all<;>omega,hs.out⟩
   ·refine .gFs 3 6 true rfl rfl rfl ?_
    refine .z zpF (.z zg (.nil ?_))
    refine .ret (rB (rT (Fin.bI e7 rfl ?_)))
    exact ⟨_,rfl,by rw [hi];simp_all<;>omega,hs.out⟩
  ·refine .gFs 1 3 true rfl rfl rfl ?_
   refine .z zpF (.z zm ?_)
   refine .gFs 3 6 true rfl rfl rfl ?_
   refine .z zpF (.z zg (.nil ?_))
   refine .ret (rB (rT (Fin.bI e7 rfl ?_)))
   exact ⟨_,rfl,by rw [hi];simp_all<;>omega,hs.out⟩
 ·refine .ai (.z fA (.z zg (.nil ?_)))
  refine (.bJ rfl (fun hc36=>?_) (fun hc36=>?_))
  ·refine .ai (.z (zfa dR) (.y hs (zld af) (.z fA (.z zm ?_))))
   refine .iE (t':=41) rfl (fun hb41=>?_) (fun hb41=>?_)
   ·refine .gT rfl rfl ?_
    refine .z zm (.z zpT (.z zg (.nil ?_)))
    refine .ret (rB (rT (Fin.bI e7 rfl ?_)))
    exact ⟨_,rfl,by rw [hi];simp_all<;>omega,hs.out⟩
   ·refine .gFs 1 3 true rfl rfl rfl ?_
    refine .z zpF (.z zg (.nil ?_))
    refine .ret (rB (rT (Fin.bI e7 rfl ?_)))
    exact ⟨_,rfl,by rw [hi];simp_all<;>omega,hs.out⟩
  ·refine .ai (.z fA (.z zg (.nil ?_)))
   refine (.bJ rfl (fun hc44=>?_) (fun hc44=>?_))
   ·refine .ai (.z zm (.z zm ?_))
    refine .bif (t':=47) rfl (fun hb47=>?_) (fun hb47=>?_)
    ·refine .gT rfl rfl ?_
     refine .z (zfa cZ) ?_
     refine .gT rfl rfl ?_
     refine .y hs (zld af) ?_
     refine .gT rfl rfl ?_
     refine .z fA (.z zpT (.z zg (.nil ?_)))
     refine .ret (rB (rT (Fin.bI e7 rfl ?_)))
     exact ⟨_,rfl,by rw [hi];simp_all<;>omega,hs.out⟩
    ·refine .gFs 3 1 true rfl rfl rfl ?_
     refine .z zpF (.z zg (.nil ?_))
     refine .ret (rB (rT (Fin.bI e7 rfl ?_)))
     exact ⟨_,rfl,by rw [hi];simp_all<;>omega,hs.out⟩
   ·refine .ai (.z fA (.z zg (.nil ?_)))
    refine (.bJ rfl (fun hc52=>?_) (fun hc52=>?_))
    ·refine .ai (.z zm (.z zm ?_))
     refine .bif (t':=55) rfl (fun hb55=>?_) (fun hb55=>?_)
     ·refine .gT rfl rfl ?_
      refine .z zm (.z zpT (.z zg (.nil ?_)))
      refine .ret (rB (rT (Fin.bI e7 rfl ?_)))
      exact ⟨_,rfl,by rw [hi];simp_all<;>omega,hs.out⟩
     ·refine .gFs 1 1 true rfl rfl rfl ?_
      refine .z zpF (.z zg (.nil ?_))
      refine .ret (rB (rT (Fin.bI e7 rfl ?_)))
      exact ⟨_,rfl,by rw [hi];simp_all<;>omega,hs.out⟩
    ·refine .skip ?_
     refine nB (nT ?_)
     refine .ai (.z zg (.nil ?_))
     refine .ret (Fin.bI e7 rfl ?_)
     exact ⟨_,rfl,by rw [hi];simp_all<;>omega,hs.out⟩
set_option maxHeartbeats 2000000 in
theorem qB{H:bn}{w:World}{σ:List Ent}{s:Spc}{q:Wht}{vst vwa:Value}(hs:St H w σ)(h1:RI H vst s.st)(h2:RI H vwa s.wa)(hok:fB s)(hq:fK s q):
  Cl Tryz.prog 113 [.agg #[I s.id,I s.src,vst,vwa,I s.al,I s.up],.agg #[I q.kind,I q.st,I q.wa]] w fun v w'=>∃H1 vl en,HLe H H1∧v= .tuple #[vl,I (nv q)]∧cu 1 vl (Is (k7 s q)) en∧St H1 w' (en::σ):=by
 obtain ⟨ast,cst,rfl⟩:=RI.shape h1
 obtain ⟨awa,cwa,rfl⟩:=RI.shape h2
 have hsm:=eo hok
 have hcap:=(RI.len h2).2.1
 have hn1:=hok.st.many
 have hn2:=hok.wa.many
 have hlen:=fo s q
 have hqq:=mU.1 hq
 simp only [Spc.isW,Spc.isS] at hqq
 refine Cl.of Tryz.func113 rfl Tryz.ntmps113 (by simp) (aj (k:=0) rfl (aj (k:=1) rfl (bh))) ?_
 refine .ai ?_
 refine .o (.box hs rfl rfl ?_);intro b2 w hs
 refine .o (.box hs rfl rfl ?_);intro b3 w hs
 refine .z zg (.z zg (.nil (.ai (.y hs (zls [_,_,_,_,_,_] aT aH) ?_))))
 refine .o (.call nQ rfl (dT (s:=s) hs h1 h2 ⟨by omega,by omega⟩) ?_);rintro _ w ⟨rfl,hs⟩
 refine .z cA ?_
 refine .o (.oT (s.many+1) hs rfl rfl aa dq rfl ae bH (by omega) ?_);intro b20 w hs
 have hW0:=WI.start s
 generalize List.replicate (s.many+1) (0:Int)=L0 at hs hW0
 refine .z zg (.nil (.seq (.ai (.z (zfa kc) (.y hs (zld af) (.nil (.block (.ai (.z fA ?_)))))))))
 refine .z zg (.nil ?_)
 refine (.bJ rfl (fun hc23=>?_) (fun hc23=>?_))
 ·refine .seq (.draw mix rfl hs ?_);intro w hs
  refine .z 0 rfl (zfa bA) ?_;refine .y 1 rfl hs ak ?_;refine .z 2 rfl (zfa bg) ?_;refine .y 3 rfl hs ak ?_;refine .z 4 rfl (zfa cZ) ?_;refine .y 5 rfl hs af ?_;refine .z 6 rfl cA ?_
  obtain ⟨hk1,_,⟨hw2,hw3⟩,hw1⟩:q.kind=1∧q.st=0∧(0≤q.wa∧q.wa≤(s.wa.length:Int) - 1)∧0<q.wa:=by omega
  obtain ⟨m,hm⟩:∃m:Nat,q.wa=m:=⟨q.wa.toNat,by omega⟩
  have hmt:q.wa.toNat=m:=by omega
  have hP:eu 7 15000 (s.wa.take (m+1)):=hok.wa.take (by omega) (by omega)
  have hdv:nv q=648000000:=by unfold nv;rw [if_pos hk1]
  refine .p (i:=7) rfl (by kernel_rfl) .none (jB (k:=m+1) rfl rfl aa ae (by omega) (by omega)) ?_
  refine .e1 (i:=8) (by kernel_rfl) rfl rfl .none hs ?_
  refine .call Tryz.call195 rfl (sU hs h1 (h2.head (k:=m+1) (by omega)) hok.st hP) ?_;rintro _ w ⟨H1,vo,hle1,rfl,hG,hs⟩
  have hgl:=jF (wts s.st) (wts (s.wa.take (m+1))) s.st.length
  have hyl:(wts (s.wa.take (m+1))).length=m+1:=by rw [ed,List.length_take];omega
  have hgr:∀i<s.st.length,(gr (lQ (wts s.st) (wts (s.wa.take (m+1))) s.st.length) i).length=m+1:=fun i hi=>by rw [vI hi,jm,hyl]
  have hgt:∀i<s.st.length,∀k≤m,gi (gr (lQ (wts s.st) (wts (s.wa.take (m+1))) s.st.length) i) k=jP s q i k:=fun i hi k hk=>by
   have:=za (X:=wts s.st) (Y:=wts (s.wa.take (m+1))) (n:=s.st.length) (k:=k) hi (by omega)
   unfold gt at this
   rw [this];unfold jP;rw [if_pos hk1,if_pos (by omega),hmt]
  have hgz:∀i k,m<k→jP s q i k=0:=fun i k hk=>by unfold jP;rw [if_pos hk1,if_neg (by omega)]
  generalize lQ (wts s.st) (wts (s.wa.take (m+1))) s.st.length=G at*
  obtain ⟨aG,cG,rfl⟩:=hG.shape
  refine .go ?_
  refine .z 9 rfl zm ?_;refine .z 10 rfl zex ?_;refine .z 11 rfl zex ?_;refine .z 12 rfl zg ?_;refine .z 13 rfl zg ?_;refine .done (by kernel_rfl) hs ?_
  refine .seq (.ai (.z zg (.nil (.block ?_))))
  refine .loop (fun i:Nat=>⟨127,[],[(9,I (i:Int)),(7,.slice aG G.length cG),(6,.slice (some ⟨b20,0,none⟩) (s.many+1) (s.many+1)),(3,.pointer (some ⟨b3,0,none⟩)),(2,.pointer (some ⟨b2,0,none⟩))]⟩)
   (fun i w=>i≤s.st.length∧∃L,WI s L (fun i' k'=>if i'<i then jP s q i' k' else 0)∧St H1 w (.blk b20 (Is L):: .blk b3 [I q.kind,I q.st,I q.wa]:: .blk b2 [I s.id,I s.src,.slice ast s.st.length cst,.slice awa s.wa.length cwa,I s.al,I s.up]::σ)) (fun i=>s.st.length - i) 0 (.cq rfl (by simp) (by repeat (first|exact .nil rfl rfl|refine .cons rfl ?_)))
   ⟨Nat.zero_le _,L0,hW0.congr fun i k _ _=>by rw [if_neg (by omega)],hs⟩ ?_
  clear hs hW0
  rintro i w ⟨hi,L,hW,hs⟩
  refine .seq (.ai (.z zm (.z zm (.z (cM an) (.z fN (.nil ?_))))))
  refine (.bJ rfl (fun hc40=>?_) (fun hc40=>?_))
  ·refine .skip ?_
   refine nT ?_
   refine .seq (.block (.ai (.z zg (.nil (.block ?_)))))
   refine .loop (fun k:Nat=>⟨127,[],[(10,I (k:Int)),(9,I (i:Int)),(7,.slice aG G.length cG),(6,.slice (some ⟨b20,0,none⟩) (s.many+1) (s.many+1)),(3,.pointer (some ⟨b3,0,none⟩)),(2,.pointer (some ⟨b2,0,none⟩))]⟩)
    (fun k w=>k≤m+1∧∃L,WI s L (fun i' k'=>if i'<i∨(i'=i∧k'<k) then jP s q i' k' else 0)∧St H1 w (.blk b20 (Is L):: .blk b3 [I q.kind,I q.st,I q.wa]:: .blk b2 [I s.id,I s.src,.slice ast s.st.length cst,.slice awa s.wa.length cwa,I s.al,I s.up]::σ)) (fun k=>m+1 - k) 0 (.cq rfl (by simp) (by repeat (first|exact .nil rfl rfl|refine .cons rfl ?_)))
    ⟨Nat.zero_le _,L,hW.congr fun i' k' _ _=>by
     by_cases e:i'<i
     ·rw [if_pos e,if_pos (.inl e)]
     ·rw [if_neg e,if_neg (by omega)],hs⟩ ?_
   clear hs hW
   rintro k w ⟨hk,L,hW,hs⟩
   have hWl:=hW.len
   have hil:i<s.st.length:=by omega
   have hgri:=hgr i hil
   refine .seq (.ai (.z zm (.z zm (.z zm ?_))))
   refine .ixT hs hG rfl rfl an aA (show i<_ by omega) (by first|rfl|assumption|omega) ?_;intro b46 o46 a46 c46 hc46 hR46
   refine .q hs (aM rfl ak hc46) ?_
   refine .z (cM aa) ?_
   rw [hgri]
   refine .z fN (.nil ?_)
   refine (.bJ rfl (fun hc49=>?_) (fun hc49=>?_))
   ·refine .skip ?_
    refine nT ?_
    refine .seq (.block ?_)
    refine .draw mix rfl hs ?_;intro w hs
    have hk':k<m+1:=by omega
    have hub:=xL (s:=s) (i:=i) (k:=k) hil (by omega)
    refine .z 0 rfl zm ?_;refine .ys 1 rfl hs [_,_,_,_,_,_] aT aH ?_;refine .z 2 rfl zm ?_;refine .z 3 rfl zm ?_;refine .z 5 rfl zm ?_;refine .z 6 rfl zm ?_
    refine .ixT (i:=7) hs rfl (by kernel_rfl) .none hG rfl rfl an aA (show i<_ by omega) (by first|rfl|assumption|omega) ?_;intro b59 o59 a59 c59 hc59 hR59
    refine .r (i:=8) hs rfl (by kernel_rfl) .none (aM rfl ak hc59) ?_
    refine .z 9 rfl zm ?_
    refine .ixX (enc:=fun x=>[I x]) (i:=10) hs rfl (by kernel_rfl) .none hR59 rfl rfl aa ae (br (l:=(gr G i)) (i:=k) (by omega)) (by first|rfl|assumption|omega) ?_;intro b62 o62 hc62;replace hc62:=bG.one hc62
    refine .r (i:=11) hs rfl (by kernel_rfl) .none (aM rfl af hc62) ?_
    refine .e1 (i:=4) (by kernel_rfl) rfl rfl .none hs ?_
    refine .call gn rfl (da (s:=s) hs (h2.mono hle1) (by omega) ⟨by omega,by omega⟩ ⟨by omega,by omega⟩) ?_;rintro _ w ⟨rfl,hs⟩
    rw [u6]
    refine .go ?_
    refine .p (i:=12) rfl (by kernel_rfl) .none (dF (k:=s.u i k) rfl rfl aa ae rfl (by omega)) ?_
    refine .e1 (i:=13) (by kernel_rfl) rfl rfl .none hs ?_
    refine .store hs rfl rfl ae ?_ (by repeat constructor) (by simp [Is];omega);intro w hs
    refine .go ?_
    refine .done (by kernel_rfl) hs ?_
    refine nB (nT ?_)
    refine .region (.z zm (.z cA (.z zg (.nil ?_))))
    refine nT ?_
    exact ⟨k+1,.cq rfl (by simp) (by repeat (first|exact .nil rfl rfl|refine .cons rfl ?_)),⟨by omega,_,(hW.set hil (by omega) _).congr fun i' k' _ _=>by
     rw [hgt i hil k (by omega)]
     by_cases e:i'=i∧k'=k
     ·obtain ⟨rfl,rfl⟩:=e
      rw [if_pos ⟨rfl,rfl⟩,if_pos (.inr ⟨rfl,by omega⟩)]
     ·rw [if_neg e]
      by_cases e2:i'<i∨(i'=i∧k'<k)
      ·rw [if_pos e2,if_pos (by omega)]
      ·rw [if_neg e2,if_neg (by omega)],hs⟩,by omega⟩
   ·refine .exit ?_
    refine xT (xT (xB (nB (nT ?_))))
    refine .region (.z zm (.z cA (.z zg (.nil ?_))))
    refine nT ?_
    exact ⟨i+1,.cq rfl (by simp) (by repeat (first|exact .nil rfl rfl|refine .cons rfl ?_)),⟨by omega,L,hW.congr fun i' k' _ _=>by
     by_cases e:i'<i+1
     ·rw [if_pos e]
      by_cases e2:i'<i∨(i'=i∧k'<k)
      ·rw [if_pos e2]
      ·rw [if_neg e2,hgz i' k' (by omega)]
     ·rw [if_neg e,if_neg (by omega)],hs⟩,by omega⟩
  ·refine .exit ?_
   refine xT (xT (xB (nT ?_)))
   refine .ai (.z zm (.z zg (.z zg (.nil ?_))))
   refine .ret (rB (rT (Fin.lg tR rfl rfl ?_)))
   obtain rfl:=(hW.congr (g:=jP s q) fun i' k' hi' _=>by rw [if_pos (by omega)]).fin
   rw [←hdv]
   exact ⟨H1,_,_,hle1,rfl,.full (by simp [Is,hlen]),hs.sub (by repeat (first|exact Sub.refl _|constructor|apply Sub.weaken))⟩
 ·refine .ai (.z fA (.z zg (.nil ?_)))
  refine (.bJ rfl (fun hc66=>?_) (fun hc66=>?_))
  ·refine .ai (.z (zfa bA) (.y hs (zld ak) ?_))
   have hk1:q.kind=2:=by omega
   obtain ⟨m,hm⟩:∃m:Nat,q.wa=m:=⟨q.wa.toNat,by omega⟩
   have hdv:nv q=180000:=by unfold nv;rw [if_neg (by omega),if_pos (by omega)]
   have hl:=ed s.st
   have hwt:∀i k,jP s q i k=if k=m then gi (wts s.st) i else 0:=fun i k=>by
    unfold jP;rw [if_neg (by omega),if_pos hk1]
    by_cases e:k=m
    ·rw [if_pos e,if_pos (by omega)]
    ·rw [if_neg e,if_neg (by omega)]
   refine .o (.call Tryz.call196 rfl (kN hs h1 hok.st) ?_);rintro _ w ⟨H1,vo,hle1,rfl,hX,hs⟩
   obtain ⟨aX,cX,rfl⟩:=RI.shape hX
   rw [hl]
   refine .z zm (.z zex (.z zex (.z zg (.z zg (.nil (.seq (.ai (.z zg (.nil ?_)))))))))
   refine .block ?_
   refine .loop (fun i:Nat=>⟨127,[],[(13,I (i:Int)),(11,.slice aX s.st.length cX),(6,.slice (some ⟨b20,0,none⟩) (s.many+1) (s.many+1)),(3,.pointer (some ⟨b3,0,none⟩)),(2,.pointer (some ⟨b2,0,none⟩))]⟩)
    (fun i w=>i≤s.st.length∧∃L,WI s L (fun i' k'=>if i'<i then jP s q i' k' else 0)∧St H1 w (.blk b20 (Is L):: .blk b3 [I q.kind,I q.st,I q.wa]:: .blk b2 [I s.id,I s.src,.slice ast s.st.length cst,.slice awa s.wa.length cwa,I s.al,I s.up]::σ)) (fun i=>s.st.length - i) 0 (.cq rfl (by simp) (by repeat (first|exact .nil rfl rfl|refine .cons rfl ?_)))
    ⟨Nat.zero_le _,L0,hW0.congr fun i k _ _=>by rw [if_neg (by omega)],hs⟩ ?_
   clear hs hW0
   rintro i w ⟨hi,L,hW,hs⟩
   have hWl:=hW.len
   rw [hl] at hX
   refine .seq (.ai (.z zm (.z zm (.z (cM aa) (.z fN (.nil ?_))))))
   refine (.bJ rfl (fun hc77=>?_) (fun hc77=>?_))
   ·refine .skip ?_
    refine nT ?_
    refine .seq (.block ?_)
    refine .draw mix rfl hs ?_;intro w hs
    refine .z 0 rfl zm ?_;refine .ys 1 rfl hs [_,_,_,_,_,_] aT aH ?_;refine .z 2 rfl zm ?_;refine .z 3 rfl (zfa cZ) ?_;refine .y 4 rfl hs af ?_;refine .z 6 rfl zm ?_;refine .z 7 rfl zm ?_
    refine .ixX (enc:=fun x=>[I x]) (i:=8) hs rfl (by kernel_rfl) .none (by rw [hl] at*;exact hX) rfl rfl aa ae (br (l:=wts s.st) (i:=i) (by omega)) (by first|rfl|assumption|omega) ?_;intro b88 o88 hc88;replace hc88:=bG.one hc88
    refine .y 9 rfl hs af ?_
    refine .e1 (i:=5) (by kernel_rfl) rfl rfl .none hs ?_
    have hil:i<s.st.length:=by omega
    have hub:=xL (s:=s) (i:=i) (k:=m) hil (by omega)
    refine .call gn rfl (da (s:=s) hs (h2.mono hle1) (by omega) ⟨by omega,by omega⟩ ⟨by omega,by omega⟩) ?_;rintro _ w ⟨rfl,hs⟩
    rw [show 1+(i:Int)*(s.wa.length:Int)+q.wa=(s.u i m:Int) by rw [hm,u6]]
    refine .go ?_
    refine .p (i:=10) rfl (by kernel_rfl) .none (dF (k:=s.u i m) rfl rfl aa ae rfl (by omega)) ?_
    refine .e1 (i:=11) (by kernel_rfl) rfl rfl .none hs ?_
    refine .store hs rfl rfl ae ?_ (by repeat constructor) (by simp [Is];omega);intro w hs
    refine .go ?_
    refine .done (by kernel_rfl) hs ?_
    refine nB (nT ?_)
    refine .region (.z zm (.z cA (.z zg (.nil ?_))))
    refine nT ?_
    exact ⟨i+1,.cq rfl (by simp) (by repeat (first|exact .nil rfl rfl|refine .cons rfl ?_)),⟨by omega,_,(hW.set hil (show m<s.wa.length by omega) _).congr fun i' k' _ _=>by
     rw [hwt i' k']
     by_cases e:i'=i∧k'=m
     ·obtain ⟨rfl,rfl⟩:=e
      rw [if_pos ⟨rfl,rfl⟩,if_pos (Nat.lt_succ_self _),if_pos rfl]
     ·rw [if_neg e]
      by_cases e2:i'<i
      ·rw [if_pos e2,if_pos (show i'<i+1 by omega)]
      ·rw [if_neg e2]
       by_cases e3:i'<i+1
       ·rw [if_pos e3,if_neg (show ¬k'=m by omega)]
       ·rw [if_neg e3],hs⟩,by omega⟩
   ·refine .exit ?_
    refine xT (xT (xB (nT ?_)))
    refine .ai (.z zm (.z zg (.z zg (.nil ?_))))
    refine .ret (rB (rT (Fin.lg tR rfl rfl ?_)))
    obtain rfl:=(hW.congr (g:=jP s q) fun i' k' hi' _=>by rw [if_pos (by omega)]).fin
    rw [←hdv]
    exact ⟨H1,_,_,hle1,rfl,.full (by simp [Is,hlen]),hs.sub (by repeat (first|exact Sub.refl _|constructor|apply Sub.weaken))⟩
  ·refine .ai (.z fA (.z zg (.nil ?_)))
   refine (.bJ rfl (fun hc92=>?_) (fun hc92=>?_))
   ·refine .ai (.z (zfa bg) (.y hs (zld ak) ?_))
    have hk1:q.kind=3:=by omega
    obtain ⟨m,hm⟩:∃m:Nat,q.st=m:=⟨q.st.toNat,by omega⟩
    have hdv:nv q=180000:=by unfold nv;rw [if_neg (by omega),if_pos (by omega)]
    have hl:=ed s.wa
    have hwt:∀i k,jP s q i k=if i=m then gi (wts s.wa) k else 0:=fun i k=>by
     unfold jP;rw [if_neg (by omega),if_neg (by omega),if_pos hk1]
     by_cases e:i=m
     ·rw [if_pos e,if_pos (by omega)]
     ·rw [if_neg e,if_neg (by omega)]
    refine .o (.call Tryz.call196 rfl (kN hs h2 (xS hok)) ?_);rintro _ w ⟨H1,vo,hle1,rfl,hX,hs⟩
    obtain ⟨aX,cX,rfl⟩:=RI.shape hX
    rw [hl]
    refine .z zm (.z zex (.z zex (.z zg (.z zg (.nil (.seq (.ai (.z zg (.nil ?_)))))))))
    refine .block ?_
    refine .loop (fun k:Nat=>⟨127,[],[(16,I (k:Int)),(14,.slice aX s.wa.length cX),(6,.slice (some ⟨b20,0,none⟩) (s.many+1) (s.many+1)),(3,.pointer (some ⟨b3,0,none⟩)),(2,.pointer (some ⟨b2,0,none⟩))]⟩)
     (fun k w=>k≤s.wa.length∧∃L,WI s L (fun i' k'=>if k'<k then jP s q i' k' else 0)∧St H1 w (.blk b20 (Is L):: .blk b3 [I q.kind,I q.st,I q.wa]:: .blk b2 [I s.id,I s.src,.slice ast s.st.length cst,.slice awa s.wa.length cwa,I s.al,I s.up]::σ)) (fun k=>s.wa.length - k) 0 (.cq rfl (by simp) (by repeat (first|exact .nil rfl rfl|refine .cons rfl ?_)))
     ⟨Nat.zero_le _,L0,hW0.congr fun i k _ _=>by rw [if_neg (by omega)],hs⟩ ?_
    clear hs hW0
    rintro k w ⟨hi,L,hW,hs⟩
    have hWl:=hW.len
    rw [hl] at hX
    refine .seq (.ai (.z zm (.z zm (.z (cM aa) (.z fN (.nil ?_))))))
    refine (.bJ rfl (fun hc103=>?_) (fun hc103=>?_))
    ·refine .skip ?_
     refine nT ?_
     refine .seq (.block ?_)
     refine .draw mix rfl hs ?_;intro w hs
     refine .z 0 rfl zm ?_;refine .ys 1 rfl hs [_,_,_,_,_,_] aT aH ?_;refine .z 2 rfl (zfa dR) ?_;refine .y 3 rfl hs af ?_;refine .z 4 rfl zm ?_;refine .z 6 rfl zm ?_;refine .z 7 rfl zm ?_
     refine .ixX (enc:=fun x=>[I x]) (i:=8) hs rfl (by kernel_rfl) .none (by rw [hl] at*;exact hX) rfl rfl aa ae (br (l:=wts s.wa) (i:=k) (by omega)) (by first|rfl|assumption|omega) ?_;intro b114 o114 hc114;replace hc114:=bG.one hc114
     refine .y 9 rfl hs af ?_
     refine .e1 (i:=5) (by kernel_rfl) rfl rfl .none hs ?_
     have hil:k<s.wa.length:=by omega
     have hub:=xL (s:=s) (i:=m) (k:=k) (by omega) hil
     refine .call gn rfl (da (s:=s) hs (h2.mono hle1) (by omega) ⟨by omega,by omega⟩ ⟨by omega,by omega⟩) ?_;rintro _ w ⟨rfl,hs⟩
     rw [show 1+q.st*(s.wa.length:Int)+(k:Int)=(s.u m k:Int) by rw [hm,u6]]
     refine .go ?_
     refine .p (i:=10) rfl (by kernel_rfl) .none (dF (k:=s.u m k) rfl rfl aa ae rfl (by omega)) ?_
     refine .e1 (i:=11) (by kernel_rfl) rfl rfl .none hs ?_
     refine .store hs rfl rfl ae ?_ (by repeat constructor) (by simp [Is];omega);intro w hs
     refine .go ?_
     refine .done (by kernel_rfl) hs ?_
     refine nB (nT ?_)
     refine .region (.z zm (.z cA (.z zg (.nil ?_))))
     refine nT ?_
     exact ⟨k+1,.cq rfl (by simp) (by repeat (first|exact .nil rfl rfl|refine .cons rfl ?_)),⟨by omega,_,(hW.set (show m<s.st.length by omega) hil _).congr fun i' k' _ _=>by
      rw [hwt i' k']
      by_cases e:i'=m∧k'=k
      ·obtain ⟨rfl,rfl⟩:=e
       rw [if_pos ⟨rfl,rfl⟩,if_pos (Nat.lt_succ_self _),if_pos rfl]
      ·rw [if_neg e]
       by_cases e2:k'<k
       ·rw [if_pos e2,if_pos (show k'<k+1 by omega)]
       ·rw [if_neg e2]
        by_cases e3:k'<k+1
        ·rw [if_pos e3,if_neg (show ¬i'=m by omega)]
        ·rw [if_neg e3],hs⟩,by omega⟩
    ·refine .exit ?_
     refine xT (xT (xB (nT ?_)))
     refine .ai (.z zm (.z zg (.z zg (.nil ?_))))
     refine .ret (rB (rT (Fin.lg tR rfl rfl ?_)))
     obtain rfl:=(hW.congr (g:=jP s q) fun i' k' _ hk'=>by rw [if_pos (by omega)]).fin
     rw [←hdv]
     exact ⟨H1,_,_,hle1,rfl,.full (by simp [Is,hlen]),hs.sub (by repeat (first|exact Sub.refl _|constructor|apply Sub.weaken))⟩
   ·refine .skip ?_
    refine nB (nT ?_)
    refine .ai (.z zm (.y hs (zls [_,_,_,_,_,_] aT aH) (.z (zfa dR) (.y hs (zld af) (.z (zfa cZ) (.y hs (zld af) ?_))))))
    have hk1:q.kind=4:=by omega
    obtain ⟨m,hm⟩:∃m:Nat,q.st=m:=⟨q.st.toNat,by omega⟩
    obtain ⟨c,hc⟩:∃c:Nat,q.wa=c:=⟨q.wa.toNat,by omega⟩
    have hdv:nv q=1:=by unfold nv;rw [if_neg (by omega),if_neg (by omega)]
    have hub:=xL (s:=s) (i:=m) (k:=c) (by omega) (by omega)
    have hWl:=hW0.len
    refine .o (.call gn rfl (da (s:=s) hs h2 (by omega) ⟨by omega,by omega⟩ ⟨by omega,by omega⟩) ?_);rintro _ w ⟨rfl,hs⟩
    rw [hm,hc,u6]
    refine .q hs (dF (k:=s.u m c) rfl rfl aa ae rfl (by omega)) ?_
    refine .o (.store hs rfl rfl ae ?_ (by repeat constructor) (by simp [Is];omega));intro w hs
    refine .nil (.ai (.z zm (.z zg (.z zg (.nil ?_)))))
    refine .ret (Fin.lg tR rfl rfl ?_)
    have hfin:=((hW0.set (show m<s.st.length by omega) (show c<s.wa.length by omega) 1).congr (g:=jP s q) fun i' k' _ _=>by
     unfold jP
     rw [if_neg (show ¬q.kind=1 by omega),if_neg (show ¬q.kind=2 by omega),if_neg (show ¬q.kind=3 by omega)]
     by_cases e:i'=m∧k'=c
     ·rw [if_pos e,if_pos (by omega)]
     ·rw [if_neg e,if_neg (by omega)]).fin
    rw [hfin] at hs
    rw [←hdv]
    exact ⟨H,_,_,HLe.refl H,rfl,.full (by simp [Is,hlen]),hs.sub (by repeat (first|exact Sub.refl _|constructor|apply Sub.weaken))⟩
theorem na{H:bn}{w:World}{σ:List Ent}{a d:Int}(hs:St H w σ)(hd:1≤d)(ha: -4608000000000000000≤a∧a≤4608000000000000000):
  Cl Tryz.prog 78 [I a,I d] w fun v w'=>v=I (a/d)∧St H w' σ:=by
 have hq: -4608000000000000000≤a.tdiv d∧a.tdiv d≤4608000000000000000:=by
  have h1:=sj (n:=a) (d:=d) (by omega)
  have h2:a/d≤4608000000000000000:=Int.ediv_le_of_le_mul (by omega) (by
   have:=Int.mul_le_mul_of_nonneg_left hd (show (0:Int)≤4608000000000000000 by omega);omega)
  have h3: -4608000000000000000≤a/d:=Int.le_ediv_of_mul_le (by omega) (by
   have:=Int.mul_le_mul_of_nonneg_left hd (show (0:Int)≤4608000000000000000 by omega);omega)
  by_cases h0:0≤a
  ·rw [Int.tdiv_eq_ediv_of_nonneg h0];omega
  ·split at h1
   ·have:a/d<0:=Int.ediv_neg_of_neg_of_pos (by omega) (by omega)
    omega
   ·omega
 have hfl:=sj (n:=a) (d:=d) (by omega)
 refine Cl.of Tryz.func78 rfl Tryz.ntmps78 (by simp) (aj (k:=0) rfl (aj (k:=1) rfl (bh))) ?_
 refine .ai (.z zg (.nil (.ai (.z zm (.z zm ?_)))))
 refine .q hs (uF rfl rfl (by omega) ⟨by omega,by omega⟩) ?_
 refine .z zg (.nil (.seq (.ai (.z zm (.z zm (.z Af (.z fN (.nil ?_))))))))
 refine (.bJ rfl (fun hc12=>?_) (fun hc12=>?_))
 ·refine .region (.z zm (.z gM (.z zg (.nil ?_))))
  refine nT ?_
  refine .ai (.z zm (.z zg (.nil ?_)))
  refine .ret (Fin.bI Tryz.results78 rfl ?_)
  rw [if_pos hc12] at hfl
  exact ⟨by rw [hfl],hs⟩
 ·refine .skip ?_
  refine nT ?_
  refine .ai (.z zm (.z zg (.nil ?_)))
  refine .ret (Fin.bI Tryz.results78 rfl ?_)
  rw [if_neg hc12,Int.sub_zero] at hfl
  exact ⟨by rw [hfl],hs⟩
theorem uc{H:bn}{w:World}{σ:List Ent}{n u:Nat}{m z:Int}(hs:St H w σ)(hm:m+1=n)(hn:n≤1000)(hu:u<n):
  Cl Tryz.prog 96 [I m,I (u:Int),I z] w fun v w'=>∃b,v= .slice (some ⟨b,0,none⟩) n n∧St H w' (.blk b (Is (lA n u z))::σ):=by
 refine Cl.of Tryz.func96 rfl Tryz.ntmps96 (by simp) (aj (k:=0) rfl (aj (k:=1) rfl (aj (k:=2) rfl (bh)))) ?_
 refine .ai (.z zg (.nil (.ai (.z zm (.z cA ?_)))))
 refine .o (.oT n hs (by show some (I _)=some (I _);rw [←hm]) (by show some (I _)=some (I _);rw [←hm]) aa dq rfl ae bH (by omega) ?_);intro b10 w hs
 refine .z zg (.nil (.ai (.z zm (.z zm (.z zm ?_)))))
 refine .q hs (dF (k:=u) rfl rfl aa ae rfl hu) ?_
 refine .o (.store (c':=Is (lA n u z)) hs rfl rfl ae ?_ (by repeat constructor) (by simp [Is];omega) (lT _ _ _));intro w hs
 refine .nil (.ai (.z zm (.z zg (.nil ?_))))
 refine .ret (Fin.bI Tryz.results96 rfl ?_)
 exact ⟨b10,rfl,hs⟩
inductive xy(v:Srv)(q:Wht):Int→Prop
 |bad {e:Int} (h:uS v e) (he:e≠0):xy v q e
 |what (h:eM v) (h1:¬fK v.sp q):xy v q 33
 |ok (h:eM v) (h1:fK v.sp q):xy v q 0
theorem xy.zero{v:Srv}{q:Wht}(h:xy v q 0):eM v∧fK v.sp q:=by
 generalize hz:(0:Int)=z at h
 cases h with
 |bad h he=>exact (he hz.symm).elim
 |what=>omega
 |ok h h1=>exact ⟨h,h1⟩
theorem xy.qty{v:Srv}{q:Wht}{e:Int}(h:xy v q e)(he:e≠0):Ae v q 0 0 e:=by
 cases h with
 |bad h he=>exact .bad h he
 |what h h1=>exact .what h h1
 |ok=>exact (he rfl).elim
theorem B9{v:Srv}(h:eM v){q:Wht}(hq:fK v.sp q)(i:Nat): -3456000000000≤gi (v.w q) i∧gi (v.w q) i≤3456000000000:=by
 unfold Srv.w
 rw [nj]
 by_cases hi:i<v.sp.many+1
 ·have h1:=nD h.early.1 hq
  have h2:=hZ (k7 v.sp q) hi
  omega
 ·have:gi (k7 v.sp q) i=0:=by simp [gi,List.getD,List.getElem?_eq_none (show (k7 v.sp q).length≤i by rw [fo];omega)]
  rw [this];omega
def dirW(w:List Int)(high:Bool):List Int:=if high then w else oP w
set_option maxHeartbeats 2000000 in
theorem rH{H:bn}{w:World}{σ:List Ent}{s:Srv}{q:Wht}{vst vwa vr vc:Value}{high:Bool}(hs:St H w σ)(h1:RI H vst s.sp.st)(h2:RI H vwa s.sp.wa)(h3:RRd H vr s.rs)(h4:RCm H vc s.cs):
  Cl Tryz.prog 87 [.agg #[I s.sp.id,I s.sp.src,vst,vwa,I s.sp.al,I s.sp.up,vr,vc],.agg #[I q.kind,I q.st,I q.wa],.bool high] w fun u w'=>∃H1 m ul vw d e,HLe H H1∧u= .tuple #[.agg #[I m,ul],vw,I d,I e]∧(∃a l c,ul= .slice a l c)∧(∃a l c,vw= .slice a l c)∧xy s q e∧(e=0→m=s.sys.many∧RL H1 ul s.cz∧RI H1 vw (dirW (s.w q) high)∧d=nv q)∧St H1 w' σ:=by
 have hn:=rC s
 refine Cl.of Tryz.func87 rfl Tryz.ntmps87 (by simp) (aj (k:=0) rfl (aj (k:=1) rfl (aj (k:=2) rfl (bh)))) ?_
 refine .ai ?_
 refine .o (.box hs rfl rfl ?_);intro b3 w hs
 refine .o (.box hs rfl rfl ?_);intro b4 w hs
 refine .o (.alloc hs bY rfl ?_);intro b6 w hs
 refine .z zg (.z zg (.z zg (.nil (.ai (.y hs (zls [_,_,_,_,_,_,_,_] aN aD) ?_)))))
 refine .o (.call BW rfl (ib (s:=s) hs h1 h2 h3 h4) ?_);rintro _ w ⟨H1,e,hle1,rfl,hC,hs⟩
 refine .z zg (.nil (.seq (.ai (.z zm (.z iA (.nil ?_))))))
 refine (.e9 rfl (fun hc18=>?_) (fun hc18=>?_))
 ·refine .ai (.z (zbd [_,_] gg) (.z zm ?_))
  refine .o (.aS (vs:=[_,_]) hs rfl rfl aB ?_);intro w hs
  refine .z zg (.z zg (.z zg (.nil ?_)))
  refine .ret (rT (?_))
  exact Fin.iG [] [] hs fun w hs=>⟨_,results4 Dw (dH (vs:=[_,_]) hs rfl aU aB) rfl rfl rfl,H1,_,_,_,_,e,hle1,rfl,⟨_,_,_,rfl⟩,⟨_,_,_,rfl⟩,.bad hC hc18,fun h=>(hc18 h).elim,hs.out⟩
 ·refine .skip ?_
  refine nT ?_
  refine .seq (.ai (.z (zfa aR) (.y hs (zls [_,_,_,_,_,_] aT aH) (.y hs (zls [_,_,_] dd bK) ?_))))
  have hok:eM s:=hC.dn.1 (by simpa using hc18)
  have hm:=hok.many
  have hsm:s.sys.many+1=(s.sys.n:Int):=by rw [hn];show ((s.sp.many+s.bu.length:Nat):Int)+1=_;omega
  refine .o (.call Tryz.call112 rfl (qC (s:=s.sp) (q:=q) hs (h1.mono hle1) (h2.mono hle1)) ?_);rintro _ w ⟨b24,rfl,hb24,hs⟩
  refine .z iI (.nil ?_)
  refine (.cond rfl (fun hc25=>?_) (fun hc25=>?_))
  ·refine .ai (.z (zbd [_,_] gg) ?_)
   refine .o (.aS (vs:=[_,_]) hs rfl rfl aB ?_);intro w hs
   refine .z zg (.z zg (.z zg (.nil ?_)))
   refine .ret (rT (?_))
   exact Fin.iG [] [] hs fun w hs=>⟨_,results4 Dw (dH (vs:=[_,_]) hs rfl aU aB) rfl rfl rfl,H1,_,_,_,_,_,hle1,rfl,⟨_,_,_,rfl⟩,⟨_,_,_,rfl⟩,.what hok (fun h=>by rw [hb24.2 h] at hc25;cases hc25),fun h=>by omega,hs.out⟩
  ·refine .skip ?_
   refine nT ?_
   refine .ai (.y hs (zls [_,_,_,_,_,_,_,_] aN aD) ?_)
   have hq:fK s.sp q:=hb24.1 (by simpa using hc25)
   have hwb:=B9 hok hq
   have hwl:=q5 s q
   refine .o (.call BU rfl (gL (s:=s) hs (h1.mono hle1) (h2.mono hle1) (h3.mono hle1) (h4.mono hle1) hok.early) ?_);rintro _ w ⟨H2,hle2,⟨ul,rfl,hL⟩,hs⟩
   obtain ⟨al,cl,rfl⟩:=RL.shape hL
   have hle02:=hle1.trans hle2
   refine .o (.alloc hs bY rfl ?_);intro b11 w hs
   refine .o (.aS (vs:=[_,_]) hs rfl rfl aB ?_);intro w hs
   refine .nil (.ai (.z (zfa aR) (.y hs (zls [_,_,_,_,_,_] aT aH) (.y hs (zls [_,_,_] dd bK) ?_))))
   refine .o (.call Tryz.call113 rfl (qB (s:=s.sp) (q:=q) hs (h1.mono hle02) (h2.mono hle02) hok.early.1 hq) ?_);rintro _ w ⟨H3,vl,en,hle3,rfl,hO,hs⟩
   have hle03:=hle02.trans hle3
   have hL0:=fo s.sp q
   refine .z zm (.z zex (.z zex (.z zg (.z zg (.nil (.seq (.block ?_)))))))
   refine .loop (fun p:Nat×Value=>⟨64,[],[(12,p.2),(13,I (nv q)),(11,.pointer (some ⟨b11,0,none⟩)),(6,.pointer (some ⟨b6,0,none⟩)),(2,.bool high)]⟩)
    (fun p w=>(k7 s.sp q).length+p.1≤s.sys.n∧∃en,cu 1 p.2 (Is (k7 s.sp q++List.replicate p.1 0)) en∧St H3 w (en:: .blk b11 [I s.sys.many,.slice al s.cz.length cl]:: .blk b6 [I 0,.slice none 0 0]::σ)) (fun p=>s.sys.n - ((k7 s.sp q).length+p.1)) (0,vl) (by repeat (first|exact .nil rfl rfl|refine .cons rfl ?_))
    ⟨by dsimp only;omega,en,by simpa using hO,hs.sub (by repeat (first|exact Sub.refl _|constructor|apply Sub.weaken))⟩ ?_
   clear hO hs
   rintro ⟨j,vo⟩ w ⟨hj,en,hO,hs⟩
   dsimp only at hj hO ⊢
   obtain ⟨bo,cap,sp,hv,rfl,hcap⟩:=hO.blk (by simp;omega)
   cases hv
   have hWxl:(k7 s.sp q++List.replicate j 0).length=(k7 s.sp q).length+j:=by simp
   generalize hWx:k7 s.sp q++List.replicate j 0=Wx at*
   refine .seq (.ai (.z zm (.z (cM aa) (.z (zfa bE) (.y hs (zld af) (.z cA (.z fN (.nil ?_))))))))
   refine (.bJ rfl (fun hc41=>?_) (fun hc41=>?_))
   ·refine .skip ?_
    refine nT ?_
    refine .block (.region (.z zm ?_))
    refine .o (.buildSlice (cells:=[_]) hs cV rfl rfl ?_);intro b43 w hs
    refine .o (.append (ys:=Is [0]) hs bP rfl rfl hO (.own .here rfl rfl) (fL _) (fun l' h=>by simp [Is] at h;omega) ?_);intro v44 en44 w hO2 hs
    rw [←hWx,show Is (k7 s.sp q++List.replicate j 0)++Is [0]=Is (k7 s.sp q++List.replicate (j+1) 0) by rw [←zr];simp [Is]] at hO2
    refine .z zg (.nil ?_)
    refine nB (nT ?_)
    exact ⟨(j+1,v44),by repeat (first|exact .nil rfl rfl|refine .cons rfl ?_),⟨by dsimp only;omega,_,hO2,hs.sub (by repeat (first|exact Sub.refl _|constructor|apply Sub.weaken))⟩,by dsimp only;omega⟩
   ·refine .exit ?_
    refine xT (xT (xB (nT ?_)))
    refine .cut (fun fs w=>∃W',W'=dirW Wx high∧kJ fs ⟨64,[],[(12,.slice (some ⟨bo,0,none⟩) Wx.length cap),(13,I (nv q)),(11,.pointer (some ⟨b11,0,none⟩)),(6,.pointer (some ⟨b6,0,none⟩))]⟩∧St H3 w (.blk bo (Is W'++sp):: .blk b11 [I s.sys.many,.slice al s.cz.length cl]:: .blk b6 [I 0,.slice none 0 0]::σ)) ?_ ?_
    ·refine .ai (.z zm (.z iI (.nil ?_)))
     refine (.cond rfl (fun hc46=>?_) (fun hc46=>?_))
     ·refine .ai (.z zg (.nil (.block ?_)))
      have hWeq:Wx=s.w q:=by rw [←hWx];unfold Srv.w;rw [show j=s.bu.length by omega]
      subst hWeq
      refine .loop (fun k:Nat=>⟨64,[],[(14,I (k:Int)),(12,.slice (some ⟨bo,0,none⟩) (s.w q).length cap),(13,I (nv q)),(11,.pointer (some ⟨b11,0,none⟩)),(6,.pointer (some ⟨b6,0,none⟩))]⟩)
       (fun k w=>k≤s.sys.n∧∃L,L.length=s.sys.n∧(∀v<s.sys.n,gi L v=if v<k then -gi (s.w q) v else gi (s.w q) v)∧St H3 w (.blk bo (Is L++sp):: .blk b11 [I s.sys.many,.slice al s.cz.length cl]:: .blk b6 [I 0,.slice none 0 0]::σ)) (fun k=>s.sys.n - k) 0 (.cq rfl (by simp) (by repeat (first|exact .nil rfl rfl|refine .cons rfl ?_)))
       ⟨Nat.zero_le _,s.w q,hwl,fun v _=>by rw [if_neg (by omega)],hs⟩ ?_
      clear hs
      rintro k w ⟨hk,L,hLl,hLg,hs⟩
      refine .seq (.ai (.z zm (.z zm (.z (cM aa) (.z fN (.nil ?_))))))
      refine (.bJ rfl (fun hc50=>?_) (fun hc50=>?_))
      ·refine .skip ?_
       refine nT ?_
       refine .seq (.block (.region (.z zm (.z zm (.z zm (.z zm ?_))))))
       have hkn:k<s.sys.n:=by omega
       have hgk:=hLg k hkn
       rw [if_neg (by omega)] at hgk
       have hbk:=hwb k
       refine .q hs (dF (k:=k) rfl rfl aa ae rfl (by omega)) ?_
       refine .q hs (dE rfl af (hv:=fm (by omega) sp)) ?_
       refine .z xI ?_
       refine .q hs (dF (k:=k) rfl rfl aa ae rfl (by omega)) ?_
       refine .o (.store (c':=Is (L.set k (-gi L k))++sp) hs rfl rfl ae ?_ (by repeat constructor) (by simp [Is];omega) (gY (by omega) sp _));intro w hs
       refine .nil ?_
       refine nB (nT ?_)
       refine .region (.z zm (.z cA (.z zg (.nil ?_))))
       refine nT ?_
       exact ⟨k+1,.cq rfl (by simp) (by repeat (first|exact .nil rfl rfl|refine .cons rfl ?_)),⟨by omega,_,by rw [List.length_set];exact hLl,fun v hv=>by
        rw [dZ (by omega)]
        by_cases e:v=k
        ·subst e;rw [if_pos rfl,if_pos (by omega),hgk]
        ·rw [if_neg e,hLg v hv]
         by_cases e2:v<k
         ·rw [if_pos e2,if_pos (by omega)]
         ·rw [if_neg e2,if_neg (by omega)],hs⟩,by omega⟩
      ·refine .exit ?_
       refine xT (xT (xB (nT ?_)))
       have hf:high=false:=by simpa using hc46
       refine ⟨L,?_,by repeat (first|exact .nil rfl rfl|refine .cons rfl ?_),hs⟩
       unfold dirW;rw [hf]
       refine xm (by rw [hLl];simp [oP,hwl]) fun v hv=>?_
       rw [hLg v (by omega),if_pos (by omega)]
       show _=gi ((s.w q).map fun x=> -x) v
       simp [gi,List.getD,List.getElem?_map]
       cases (s.w q)[v]? <;>simp
     ·refine .skip ?_
      refine nT ?_
      have hf:high=true:=by simpa using hc46
      exact ⟨Wx,by unfold dirW;rw [hf];rfl,by repeat (first|exact .nil rfl rfl|refine .cons rfl ?_),hs⟩
    ·clear hO hs
     rintro fs w ⟨W',hW',hfs,hs⟩
     refine WE.sub ?_ hfs
     have hWeq:Wx=s.w q:=by rw [←hWx];unfold Srv.w;rw [show j=s.bu.length by omega]
     subst hWeq
     have hWl:W'.length=(s.w q).length:=by rw [hW'];unfold dirW;split<;>simp [oP]
     refine .ai (.y hs (zls [_,_] aU aB) (.z zm (.z zm ?_)))
     refine .o (.aS (vs:=[_,_]) hs rfl rfl aB ?_);intro w hs
     refine .z zg (.z zg (.z zg (.nil ?_)))
     refine .ret ?_
     obtain ⟨H4,hle4,hR,hs⟩:=cu.df (xs:=W') (v:= .slice (some ⟨bo,0,none⟩) (s.w q).length cap) (.inr ⟨bo,_,cap,sp,rfl,rfl,by simp [Is,hWl],by simp [Is];omega,by omega⟩) (by omega) hs (by repeat constructor)
     exact Fin.iG [] [] hs fun w hs=>⟨_,results4 Dw (dH (vs:=[_,_]) hs rfl aU aB) rfl rfl rfl,H4,_,_,_,_,_,hle03.trans hle4,rfl,⟨_,_,_,rfl⟩,⟨_,_,_,rfl⟩,.ok hok hq,fun _=>⟨rfl,hL.mono (hle3.trans hle4),by rw [←hW'];exact hR,rfl⟩,hs.out⟩
set_option maxHeartbeats 1000000 in
theorem mv{H:bn}{w:World}{σ:List Ent}{s:Srv}{q:Wht}{vst vwa vr vc:Value}(hs:St H w σ)(h1:RI H vst s.sp.st)(h2:RI H vwa s.sp.wa)(h3:RRd H vr s.rs)(h4:RCm H vc s.cs):
  Cl Tryz.prog 27 [.agg #[I s.sp.id,I s.sp.src,vst,vwa,I s.sp.al,I s.sp.up,vr,vc],.agg #[I q.kind,I q.st,I q.wa]] w fun u w'=>∃H1 lo hi e,HLe H H1∧u= .tuple #[.agg #[I lo,I hi],I e]∧Ae s q lo hi e∧St H1 w' σ:=by
 refine Cl.of Tryz.func27 rfl Tryz.ntmps27 (by simp) (aj (k:=0) rfl (aj (k:=1) rfl (bh))) ?_
 refine .ai ?_
 refine .o (.box hs rfl rfl ?_);intro b2 w hs
 refine .o (.box hs rfl rfl ?_);intro b3 w hs
 refine .o (.alloc hs bq rfl ?_);intro b4 w hs
 refine .z zg (.nil (.ai (.y hs (zls [_,_,_,_,_,_,_,_] aN aD) (.y hs (zls [_,_,_] dd bK) ?_))))
 refine .o (.call Tryz.call87 rfl (rH (s:=s) (q:=q) (high:=true) hs h1 h2 h3 h4) ?_);rintro _ w ⟨H1,m,ul,vw,d,e,hle1,rfl,⟨al,ll,cl,rfl⟩,⟨aw,lw,cw,rfl⟩,hA,hA0,hs⟩
 refine .z zm (.z zex (.z zex (.z zex (.z zex ?_))))
 refine .o (.alloc hs bY rfl ?_);intro b6 w hs
 refine .o (.aS (vs:=[_,_]) hs rfl rfl aB ?_);intro w hs
 refine .z zg (.z zg (.z zg (.nil (.seq (.ai (.z zm (.z iA (.nil ?_))))))))
 refine (.e9 rfl (fun hc22=>?_) (fun hc22=>?_))
 ·refine .ai (.z (zbd [_,_] bU) (.z zm ?_))
  refine .o (.aS (vs:=[_,_]) hs rfl rfl az ?_);intro w hs
  refine .z zg (.nil ?_)
  refine .ret (rT (?_))
  exact Fin.iG [] [] hs fun w hs=>⟨_,results2 Dz (dH (vs:=[_,_]) hs rfl aW az) rfl,H1,_,_,_,hle1,rfl,hA.qty hc22,hs.out⟩
 ·refine .skip ?_
  refine nT ?_
  refine .ai (.y hs (zls [_,_] aU aB) (.z zm ?_))
  obtain rfl:e=0:=by simpa using hc22
  obtain ⟨rfl,hL,hR,rfl⟩:=hA0 rfl
  obtain ⟨hok,hq⟩:=hA.zero
  refine .o (.call Tryz.call88 rfl (mw (s:=s.sys) hs ⟨_,rfl,hL⟩ hR) ?_);rintro _ w ⟨H2,lo,hi,f,hle2,rfl,hRg,hs⟩
  have hRg:eY s.sys (s.w q) lo hi f:=hRg
  have hbd:=hRg.bd
  have hdp:=vQ q
  refine .z zm (.z zex (.z zex (.z zex (.z zg (.z zg (.z zg (.nil (.seq (.ai ?_)))))))))
  refine .z zm (.z iA (.nil ?_))
  refine (.e9 rfl (fun hc33=>?_) (fun hc33=>?_))
  ·refine .ai (.z (zbd [_,_] bU) ?_)
   refine .o (.aS (vs:=[_,_]) hs rfl rfl az ?_);intro w hs
   refine .z zg (.nil ?_)
   refine .ret (rT (?_))
   have hns:¬s.sys.Sound:=fun h=>hc33 (kd (hok.ask hq) h (fun b=>s.both) hRg)
   exact Fin.iG [] [] hs fun w hs=>⟨_,results2 Dz (dH (vs:=[_,_]) hs rfl aW az) rfl,H2,_,_,_,hle1.trans hle2,rfl,.fls hok hq hns,hs.out⟩
  ·refine .skip ?_
   refine nT ?_
   refine .ai (.z zm (.z zm ?_))
   obtain rfl:f=0:=by simpa using hc33
   have hsd:s.sys.Sound:=Classical.byContradiction fun h=>by have:=oX (hok.ask hq) h hRg;omega
   refine .o (.call Tryz.call78 rfl (na hs (by omega) (by omega)) ?_);rintro _ w ⟨rfl,hs⟩
   refine .z zm (.z zm ?_)
   refine .o (.call Tryz.call78 rfl (na hs (by omega) (by omega)) ?_);rintro _ w ⟨rfl,hs⟩
   refine .z (zbd [_,_] bU) ?_
   refine .o (.aS (vs:=[_,_]) hs rfl rfl az ?_);intro w hs
   refine .z zg (.nil ?_)
   refine .ret ?_
   exact Fin.iG [] [] hs fun w hs=>⟨_,results2 Dz (dH (vs:=[_,_]) hs rfl aW az) rfl,H2,_,_,_,hle1.trans hle2,rfl,.ok hok hq hsd hRg,hs.out⟩
theorem rJ{H:bn}{w:World}{σ:List Ent}{s:Srv}{vst vwa vr vc:Value}(hs:St H w σ)(h1:RI H vst s.sp.st)(h2:RI H vwa s.sp.wa)(h3:RRd H vr s.rs)(h4:RCm H vc s.cs):
  Cl Tryz.prog 33 [.agg #[I s.sp.id,I s.sp.src,vst,vwa,I s.sp.al,I s.sp.up,vr,vc]] w fun u w'=>∃H1 vx out e,HLe H H1∧u= .tuple #[vx,I e]∧RI H1 vx out∧rl s out e∧St H1 w' σ:=by
 refine Cl.of Tryz.func33 rfl Tryz.ntmps33 (by simp) (aj (k:=0) rfl (bh)) ?_
 refine .ai ?_
 refine .o (.box hs rfl rfl ?_);intro b1 w hs
 refine .z zg (.z zg (.nil (.ai (.y hs (zls [_,_,_,_,_,_,_,_] aN aD) ?_))))
 refine .o (.call BW rfl (ib (s:=s) hs h1 h2 h3 h4) ?_);rintro _ w ⟨H1,e,hle1,rfl,hC,hs⟩
 refine .z zg (.nil (.seq (.ai (.z zm (.z iA (.nil ?_))))))
 refine (.e9 rfl (fun hc8=>?_) (fun hc8=>?_))
 ·refine .ai (.z zm (.z zg (.z zg (.nil ?_))))
  refine .ret (rT (Fin.lg Tryz.results33 rfl rfl ?_))
  exact ⟨H1,_,[],_,hle1,rfl,RS.nil H1 1 none 0,.bad hC hc8 rfl,hs.out⟩
 ·refine .skip ?_
  refine nT ?_
  refine .ai (.y hs (zls [_,_,_,_,_,_,_,_] aN aD) ?_)
  have hok:eM s:=hC.dn.1 (by simpa using hc8)
  refine .o (.call BU rfl (gL (s:=s) hs (h1.mono hle1) (h2.mono hle1) (h3.mono hle1) (h4.mono hle1) hok.early) ?_);rintro v11 w ⟨H2,hle2,hS,hs⟩
  refine .o (.call Tryz.call99 rfl (oL (s:=s.sys) hs hS) ?_);rintro _ w ⟨H3,vx,out,f,hle3,rfl,hR,hCf,hs⟩
  refine .z zex (.z zex (.z zg (.z zg (.nil ?_))))
  refine .ret (Fin.lg Tryz.results33 rfl rfl ?_)
  exact ⟨H3,_,out,_,hle1.trans (hle2.trans hle3),rfl,hR,.ok hok hCf,hs.out⟩
theorem zJ{s:cB}{w:List Int}{lo hi:Int}(h:eY s (oP w) lo hi 0):eY s w (-hi) (-lo) 0:=by
 generalize hz:(0:Int)=z at h
 cases h with
 |first h he=>exact (he hz.symm).elim
 |second h h2 he=>exact (he hz.symm).elim
 | @ok a b h h2=>
  rw [AZ] at h2
  rw [Int.neg_neg]
  exact .ok h2 h
theorem B5{v:Srv}{t:TD}{lo hi:Int}(h:eM v)(h1:t∈v.bu)(h2:v.sys.Sound)(h3:eY v.sys (lA v.sys.n (v.sp.many+1+(gS v.bu t).toNat) (-1)) lo hi 0):r6 v t lo hi 0:=by
 rw [←Aj] at h3
 have:=r6.ok h h1 h2 (zJ h3)
 rwa [Int.neg_neg,Int.neg_neg] at this
set_option maxHeartbeats 1000000 in
theorem dL{H:bn}{w:World}{σ:List Ent}{s:Srv}{t:TD}{vst vwa vr vc:Value}(hs:St H w σ)(h1:RI H vst s.sp.st)(h2:RI H vwa s.sp.wa)(h3:RRd H vr s.rs)(h4:RCm H vc s.cs):
  Cl Tryz.prog 29 [.agg #[I s.sp.id,I s.sp.src,vst,vwa,I s.sp.al,I s.sp.up,vr,vc],.agg #[I t.tape,I t.day]] w fun u w'=>∃H1 lo hi e,HLe H H1∧u= .tuple #[.agg #[I lo,I hi],I e]∧r6 s t lo hi e∧St H1 w' σ:=by
 refine Cl.of Tryz.func29 rfl Tryz.ntmps29 (by simp) (aj (k:=0) rfl (aj (k:=1) rfl (bh))) ?_
 refine .ai ?_
 refine .o (.box hs rfl rfl ?_);intro b2 w hs
 refine .o (.box hs rfl rfl ?_);intro b3 w hs
 refine .o (.alloc hs bq rfl ?_);intro b4 w hs
 refine .z zg (.nil (.ai (.y hs (zls [_,_,_,_,_,_,_,_] aN aD) ?_)))
 refine .o (.call BW rfl (ib (s:=s) hs h1 h2 h3 h4) ?_);rintro _ w ⟨H1,e,hle1,rfl,hC,hs⟩
 refine .z zg (.nil (.seq (.ai (.z zm (.z iA (.nil ?_))))))
 refine (.e9 rfl (fun hc15=>?_) (fun hc15=>?_))
 ·refine .ai (.z (zbd [_,_] bU) (.z zm ?_))
  refine .o (.aS (vs:=[_,_]) hs rfl rfl az ?_);intro w hs
  refine .z zg (.nil ?_)
  refine .ret (rT (?_))
  exact Fin.iG [] [] hs fun w hs=>⟨_,results2 wv (dH (vs:=[_,_]) hs rfl aW az) rfl,H1,_,_,_,hle1,rfl,.bad hC hc15,hs.out⟩
 ·refine .skip ?_
  refine nT ?_
  refine .seq (.draw mix rfl hs ?_);intro w hs
  refine .z 0 rfl (zfa aJ) ?_;refine .y 1 rfl hs bp ?_;refine .ys 3 rfl hs [_,_] bV aP ?_
  refine .e1 (i:=2) (by kernel_rfl) rfl rfl .none hs ?_
  have hok:eM s:=hC.dn.1 (by simpa using hc15)
  have hsm:=eo hok.early.1
  have hrl:=hok.early.2.1
  have hm:=hok.many
  have hn:=rC s
  have htl:s.bu.length≤60:=by have:=cF s.rs;unfold Srv.bu;omega
  refine .call lz rfl (eA (rs:=s.rs) hs (h3.mono hle1) (by omega)) ?_;rintro v20 w ⟨H2,hle2,hT,hs⟩
  have hle02:=hle1.trans hle2
  refine .go ?_
  refine .e1 (i:=4) (by kernel_rfl) rfl rfl .none hs ?_
  refine .call rp rfl (ia (t:=t) hs hT (by show s.bu.length≤_;omega)) ?_;rintro _ w ⟨rfl,hs⟩
  have hnn:=jy (l:=s.bu) (t:=t)
  change 0≤gS (aZ s.rs) t↔_ at hnn
  refine .go ?_
  refine .z 5 rfl zg ?_;refine .done (by kernel_rfl) hs ?_
  refine .seq (.ai (.z zm (.z fN (.nil ?_))))
  refine (.bJ rfl (fun hc24=>?_) (fun hc24=>?_))
  ·refine .ai (.z (zbd [_,_] bU) ?_)
   refine .o (.aS (vs:=[_,_]) hs rfl rfl az ?_);intro w hs
   refine .z zg (.nil ?_)
   refine .ret (rT (?_))
   exact Fin.iG [] [] hs fun w hs=>⟨_,results2 wv (dH (vs:=[_,_]) hs rfl aW az) rfl,H2,_,_,_,hle02,rfl,.none hok (fun h=>by have:=hnn.2 h;omega),hs.out⟩
  ·refine .skip ?_
   refine nT ?_
   refine .ai (.y hs (zls [_,_,_,_,_,_,_,_] aN aD) ?_)
   have hmem:t∈s.bu:=hnn.1 (by omega)
   obtain ⟨k,k1,k2,k3⟩:=fg hmem
   have hlt:=eM.As hmem
   rw [k1,Int.toNat_natCast] at hlt
   have k1':gS (aZ s.rs) t=(k:Int):=k1
   rw [k1'] at hc24 ⊢
   refine .o (.call BU rfl (gL (s:=s) hs (h1.mono hle02) (h2.mono hle02) (h3.mono hle02) (h4.mono hle02) hok.early) ?_);rintro v27 w ⟨H3,hle3,⟨ul,rfl,hL⟩,hs⟩
   obtain ⟨al,cl,rfl⟩:=RL.shape hL
   have hle03:=hle02.trans hle3
   refine .o (.alloc hs bY rfl ?_);intro b8 w hs
   refine .o (.aS (vs:=[_,_]) hs rfl rfl aB ?_);intro w hs
   refine .nil ?_
   refine .seq (.draw mix rfl hs ?_);intro w hs
   refine .ys 0 rfl hs [_,_] aU aB ?_;refine .z 1 rfl (zfa bE) ?_;refine .y 2 rfl hs af ?_;refine .z 3 rfl (zfa aR) ?_;refine .ys 4 rfl hs [_,_,_,_,_,_] aT aH ?_;refine .z 7 rfl zm ?_
   refine .e1 (i:=5) (by kernel_rfl) rfl rfl .none hs ?_
   refine .call nQ rfl (dT (s:=s.sp) hs (h1.mono hle03) (h2.mono hle03) ⟨by omega,by omega⟩) ?_;rintro _ w ⟨rfl,hs⟩
   refine .go ?_
   refine .z 6 rfl cA ?_;refine .z 8 rfl cA ?_
   refine .e1 (i:=9) (by kernel_rfl) rfl rfl .none hs ?_
   refine .call Tryz.call96 rfl (uc (n:=s.sys.n) (u:=s.sp.many+1+k) hs (by rw [hn];show ((s.sp.many+s.bu.length:Nat):Int)+1=_;omega) (by omega) hlt) ?_;rintro _ w ⟨b38,rfl,hs⟩
   refine .go ?_
   refine .e1 (i:=10) (by kernel_rfl) rfl rfl .none hs ?_
   obtain ⟨H4,hle4,hW,hs⟩:=cu.df (xs:=lA s.sys.n (s.sp.many+1+k) (-1)) (v:= .slice (some ⟨b38,0,none⟩) s.sys.n s.sys.n) (.full (by simp [Is,fO])) (by rw [fO];omega) hs (by repeat constructor)
   have hle04:=hle03.trans hle4
   refine .call Tryz.call88 rfl (mw (s:=s.sys) hs ⟨_,rfl,hL.mono hle4⟩ hW) ?_;rintro _ w ⟨H5,lo,hi,f,hle5,rfl,hRg,hs⟩
   have hleF:=hle04.trans hle5
   have hA:=hok.u5 hlt (x:=1) (by omega)
   have hB:=hok.u5 hlt (x:= -1) (by omega)
   refine .go ?_
   refine .z 11 rfl zm ?_;refine .z 12 rfl zex ?_;refine .z 13 rfl zex ?_;refine .z 14 rfl zex ?_;refine .z 15 rfl zg ?_;refine .z 16 rfl zg ?_;refine .z 17 rfl zg ?_;refine .done (by kernel_rfl) hs ?_
   refine .seq (.ai (.z zm (.z iA (.nil ?_))))
   refine (.e9 rfl (fun hc44=>?_) (fun hc44=>?_))
   ·refine .ai (.z (zbd [_,_] bU) ?_)
    refine .o (.aS (vs:=[_,_]) hs rfl rfl az ?_);intro w hs
    refine .z zg (.nil ?_)
    refine .ret (rT (?_))
    have hns:¬s.sys.Sound:=fun h=>hc44 (kd hB h (fun b=>s.both) hRg)
    exact Fin.iG [] [] hs fun w hs=>⟨_,results2 wv (dH (vs:=[_,_]) hs rfl aW az) rfl,H5,_,_,_,hleF,rfl,.fls hok hmem hns,hs.out⟩
   ·refine .skip ?_
    refine nT ?_
    refine .ai (.z zm (.z zm (.z (zbd [_,_] bU) ?_)))
    refine .o (.aS (vs:=[_,_]) hs rfl rfl az ?_);intro w hs
    refine .z zg (.nil ?_)
    refine .ret ?_
    obtain rfl:f=0:=by simpa using hc44
    have hsd:s.sys.Sound:=Classical.byContradiction fun h=>by have:=oX hB h hRg;omega
    exact Fin.iG [] [] hs fun w hs=>⟨_,results2 wv (dH (vs:=[_,_]) hs rfl aW az) rfl,H5,_,_,_,hleF,rfl,B5 hok hmem hsd (by rw [k1,Int.toNat_natCast];exact hRg),hs.out⟩
theorem bO{H:bn}{w:World}{σ:List Ent}{n m:Int}(hs:St H w σ)(hm:1≤m∧m≤4611686018427387904):
  Cl Tryz.prog 31 [I n,I m] w fun u w'=>∃k:Nat,(k:Int)<m∧u=I (k:Int)∧St H w' σ:=by
 have h1:=Int.tmod_lt_of_pos n (show 0<m by omega)
 have h2:=Int.lt_tmod_of_pos n (show 0<m by omega)
 have h3:=Int.tmod_lt_of_pos (n.tmod m+m) (show 0<m by omega)
 have h4:=Int.tmod_nonneg m (show 0≤n.tmod m+m by omega)
 refine Cl.of Tryz.func31 rfl Tryz.ntmps31 (by simp) (aj (k:=0) rfl (aj (k:=1) rfl (bh))) ?_
 refine .ai (.z zg (.nil (.ai (.z zm (.z zm (.z Af (.z zm (.z cA (.z zm ?_)))))))))
 refine .z Af (.z zg (.nil ?_))
 refine .ret (Fin.bI Tryz.results31 rfl ?_)
 exact ⟨((n.tmod m+m).tmod m).toNat,by omega,by rw [show (((n.tmod m+m).tmod m).toNat:Int)=(n.tmod m+m).tmod m by omega],hs⟩
theorem c9{H:bn}{w:World}{σ:List Ent}{v:Value}{l:List Int}{i n:Int}(hs:St H w σ)(hr:RI H v l)(hi:0≤i)(hn:1≤n∧n≤4611686018427387904):
  Cl Tryz.prog 100 [v,I i,I n] w fun u w'=>∃k:Nat,(k:Int)<n∧u=I (k:Int)∧St H w' σ:=by
 obtain ⟨a,c,rfl⟩:=RI.shape hr
 refine Cl.of Tryz.func100 rfl Tryz.ntmps100 (by simp) (aj (k:=0) rfl (aj (k:=1) rfl (aj (k:=2) rfl (bh)))) ?_
 refine .ai (.z zg (.nil (.seq (.ai (.z zm (.z (cM aa) (.z fA (.nil ?_))))))))
 refine (.bJ rfl (fun hc9=>?_) (fun hc9=>?_))
 ·refine .ai (.z zg (.nil ?_))
  refine .ret (rT (Fin.bI Tryz.results100 rfl ?_))
  exact ⟨0,by omega,rfl,hs⟩
 ·refine .skip ?_
  refine nT ?_
  refine .ai (.z zm (.z zm (.z zm (.z (cM aa) (.z Af ?_)))))
  have g1:=Int.tmod_lt_of_pos i (show 0<(l.length:Int) by omega)
  have g2:=Int.tmod_nonneg (l.length:Int) hi
  refine .ixY hs hr rfl rfl aa ae (br (l:=l) (i:=(i.tmod l.length).toNat) (by omega)) (by omega) ?_;intro b15 o15 hc15
  refine .q hs (aM rfl af hc15) ?_
  refine .z zm ?_
  refine .o (.call cf rfl (bO hs hn) ?_);rintro _ w ⟨k,hk,rfl,hs⟩
  refine .z zg (.nil ?_)
  refine .ret (Fin.bI Tryz.results100 rfl ?_)
  exact ⟨k,hk,rfl,hs⟩
theorem sR{H:bn}{w:World}{σ:List Ent}{v vp:Value}{s:cB}{jC:List Int}(hs:St H w σ)(hr:RSy H v s)(hp:RI H vp jC)(hgood:s.Ok∧s.Sound):
  Cl Tryz.prog 212 [v,vp] w fun u w'=>∃H1 vx x en,HLe H H1∧u= .tuple #[vx,I 0]∧cu 1 vx (Is x) en∧uT s jC x∧St H1 w' (en::σ):=by
 obtain ⟨ul,rfl,hl⟩:=hr
 obtain ⟨al,cl,rfl⟩:=RL.shape hl
 obtain ⟨ap,cp,rfl⟩:=RI.shape hp
 refine Cl.of Tryz.func212 rfl Tryz.ntmps212 (by simp) (aj (k:=0) rfl (aj (k:=1) rfl (bh))) ?_
 refine .ai ?_
 refine .o (.box hs rfl rfl ?_);intro b2 w hs
 refine .z zg (.z zg (.nil (.ai (.y hs (zls [_,_] aU aB) ?_))))
 refine .o (.call Tryz.call210 rfl (mx (s:=s) hs ⟨_,rfl,hl⟩) ?_);rintro _ w ⟨H1,vt,e,hle1,rfl,hcase,hs⟩
 refine .z zm (.z zex (.z zex (.z zg (.z zg (.nil (.seq (.ai (.z zm (.z iA ?_)))))))))
 refine .nil ?_
 refine (.e9 rfl (fun hc20=>?_) (fun hc20=>?_))
 ·refine .ai (.z zm (.z zg (.z zg (.nil ?_))))
  refine .ret (rT (Fin.lg Tryz.results212 rfl rfl ?_))
  rcases hcase with ⟨h1,rfl,rfl⟩|⟨h1,h2,rfl,rfl⟩|⟨_,_,rfl,_⟩
  ·exact (h1 (s.dn.2 hgood.1)).elim
  ·exact (h2 hgood.2).elim
  ·exact (hc20 rfl).elim
 ·refine .skip ?_
  refine nT ?_
  refine .ai ?_
  subst hc20
  obtain ⟨hok,hsd,rs,hRT,hSq,hWT⟩:s.Ok∧s.Sound∧∃rs,RT H1 vt rs∧Sq s.n rs∧ir s.n s.di (gt rs):=by
   rcases hcase with ⟨h1,h2,_⟩|⟨_,_,h2,_⟩|⟨h1,h2,_,h3⟩
   ·exact (h1 h2.symm).elim
   ·omega
   ·exact ⟨h1,h2,h3⟩
  obtain ⟨at',ct,rfl⟩:=hRT.shape
  have hTS:=hok.tabS hsd hWT
  have hrl:=hSq.1
  have hm0:=hok.m0
  have hm1:=hok.m1
  have hnn:(s.n:Int)=s.many+1:=by simp only [cB.n];omega
  refine .o (.buildSlice (cells:=[_]) hs cV rfl rfl ?_);intro b22 w hs
  refine .z zg (.nil (.seq (.ai (.z zg (.nil (.block ?_))))))
  refine .loop (fun p:List Int×Value=>⟨109,[],[(9,I (p.1.length:Int)),(8,p.2),(6,.slice at' rs.length ct),(2,.pointer (some ⟨b2,0,none⟩)),(1,.slice ap jC.length cp)]⟩)
   (fun p w=>Ej (gt rs) (pH jC) p.1∧p.1.length≤s.n∧∃en,cu 1 p.2 (Is p.1) en∧St H1 w (en:: .blk b2 [I s.many,.slice al s.cz.length cl]::σ))
   (fun p=>s.n - p.1.length) ([0],.slice (some ⟨b22,0,none⟩) 1 1) (by repeat (first|exact .nil rfl rfl|refine .cons rfl ?_))
   ⟨.start,s.zP,_,.full (len:=1) rfl,hs⟩ ?_
  rintro ⟨X,v8⟩ w ⟨hP,hXn,en,hO,hs⟩
  dsimp only at hP hXn hO ⊢
  have hI:=hP.inv (fun i n hn=>vz jC i hn) hTS hXn
  have hX0:=hI.l0
  have hO1:=hO
  obtain ⟨b,cap,sp,rfl,rfl,hcap⟩:=hO.some hX0
  refine .seq (.ai (.z zm (.z (zfa bE) (.y hs (zld af) (.z wH (.nil ?_))))))
  refine (.bJ rfl (fun hc26=>?_) (fun hc26=>?_))
  ·refine .skip ?_
   refine nT ?_
   refine .seq (.block (.ai (.z zg (.nil ?_))))
   have hXl:X.length<s.n:=by omega
   refine .ai (.z zg (.nil (.seq (.ai (.z zm (.z (cM aa) (.z zm (.nil ?_))))))))
   refine .for (N:=X.length) (J:=fun k fr w=>∃lo hi,fr=[(10,I lo),(11,I hi),(9,I (X.length:Int)),(8,.slice (some ⟨b,0,none⟩) X.length cap),(6,.slice at' rs.length ct),(2,.pointer (some ⟨b2,0,none⟩)),(1,.slice ap jC.length cp)]∧LoI (gt rs) X X.length k lo∧HiI (gt rs) X X.length k hi∧St H1 w (.blk b (Is X++sp):: .blk b2 [I s.many,.slice al s.cz.length cl]::σ)) (by omega) ?_ ?_ ?_
   ·exact .mk ⟨_,_,rfl,.start _ _ _,.start _ _ _,hs⟩
   ·rintro k fr w hk ⟨lo,hi,rfl,hLo,hHi,hs⟩
    have hXk:=hI.bd k hk
    have hr1:(gr rs X.length).length=s.n:=hSq.2 _ hXl
    have hr2:(gr rs k).length=s.n:=hSq.2 _ (by omega)
    have hb1:gi (gr rs X.length) k≠1000000000→-1400000≤gi (gr rs X.length) k∧gi (gr rs X.length) k≤1400000:=fun h=>hTS.bd X.length k hXl (by omega) h
    have hb2:gi (gr rs k) X.length≠1000000000→-1400000≤gi (gr rs k) X.length∧gi (gr rs k) X.length≤1400000:=fun h=>hTS.bd k X.length (by omega) hXl h
    refine .block (.ai (.z zm (.z zg (.nil ?_))))
    refine .cut (fun fs w=>∃lo',kJ fs ⟨109,[],[(10,I lo'),(12,I (k:Int)),(31,I (k:Int)),(30,I (X.length:Int)),(11,I hi),(9,I (X.length:Int)),(8,.slice (some ⟨b,0,none⟩) X.length cap),(6,.slice at' rs.length ct),(2,.pointer (some ⟨b2,0,none⟩)),(1,.slice ap jC.length cp)]⟩∧LoI (gt rs) X X.length (k+1) lo'∧St H1 w (.blk b (Is X++sp):: .blk b2 [I s.many,.slice al s.cz.length cl]::σ)) ?_ ?_
    ·refine .ai (.z zm (.z zm ?_))
     refine .ixT hs hRT rfl rfl an aA (show X.length<rs.length by omega) rfl ?_;intro b36 o36 a36 c36 hc36 hR36
     refine .q hs (aM rfl ak hc36) ?_
     refine .z zm ?_
     refine .ixY hs hR36 rfl rfl aa ae (br (l:=gr rs X.length) (i:=k) (by omega)) rfl ?_;intro b39 o39 hc39
     refine .q hs (aM rfl af hc39) ?_
     refine .z iA (.nil ?_)
     refine (.e9 rfl (fun hc41=>?_) (fun hc41=>?_))
     ·refine .draw mix rfl hs ?_;intro w hs
      refine .z 0 rfl zm ?_;refine .z 1 rfl zm ?_;refine .z 2 rfl zm ?_;refine .z 3 rfl (zix aa ae) ?_
      refine .load (i:=4) hs rfl (by kernel_rfl) .none rfl af ?_ (hv:=fm hk sp)
      refine .z 5 rfl zm ?_;refine .z 6 rfl zm ?_
      refine .ixT (i:=7) hs rfl (by kernel_rfl) .none hRT rfl rfl an aA (show X.length<rs.length by omega) rfl ?_;intro b49 o49 a49 c49 hc49 hR49
      refine .r (i:=8) hs rfl (by kernel_rfl) .none (aM rfl ak hc49) ?_
      refine .z 9 rfl zm ?_
      refine .ixX (enc:=fun x=>[I x]) (i:=10) hs rfl (by kernel_rfl) .none hR49 rfl rfl aa ae (br (l:=gr rs X.length) (i:=k) (by omega)) rfl ?_;intro b52 o52 hc52;replace hc52:=bG.one hc52
      refine .r (i:=11) hs rfl (by kernel_rfl) .none (aM rfl af hc52) ?_
      refine .z 12 rfl gM ?_;refine .z 13 rfl DA ?_;refine .z 14 rfl zg ?_;refine .done (by kernel_rfl) hs ?_
      refine nT ?_
      exact ⟨_,by repeat (first|exact .nil rfl rfl|refine .cons rfl ?_),hLo.put hc41 (by have:=hb1 hc41;have:=hXk;have:=hTS.n65;show -1000000000≤gi X k - gi (gr rs X.length) k;omega),hs⟩
     ·refine .skip ?_
      refine nT ?_
      exact ⟨_,by repeat (first|exact .nil rfl rfl|refine .cons rfl ?_),hLo.skip hc41,hs⟩
    ·rintro fs w ⟨lo',hfs,hLo',hs⟩
     refine WE.sub ?_ hfs
     refine .ai (.z zm (.z zm ?_))
     refine .ixT hs hRT rfl rfl an aA (show k<rs.length by omega) rfl ?_;intro b58 o58 a58 c58 hc58 hR58
     refine .q hs (aM rfl ak hc58) ?_
     refine .z zm ?_
     refine .ixY hs hR58 rfl rfl aa ae (br (l:=gr rs k) (i:=X.length) (by omega)) rfl ?_;intro b61 o61 hc61
     refine .q hs (aM rfl af hc61) ?_
     refine .z iA (.nil ?_)
     refine (.e9 rfl (fun hc63=>?_) (fun hc63=>?_))
     ·refine .draw mix rfl hs ?_;intro w hs
      refine .z 0 rfl zm ?_;refine .z 1 rfl zm ?_;refine .z 2 rfl zm ?_;refine .z 3 rfl (zix aa ae) ?_
      refine .load (i:=4) hs rfl (by kernel_rfl) .none rfl af ?_ (hv:=fm hk sp)
      refine .z 5 rfl zm ?_;refine .z 6 rfl zm ?_
      refine .ixT (i:=7) hs rfl (by kernel_rfl) .none hRT rfl rfl an aA (show k<rs.length by omega) rfl ?_;intro b71 o71 a71 c71 hc71 hR71
      refine .r (i:=8) hs rfl (by kernel_rfl) .none (aM rfl ak hc71) ?_
      refine .z 9 rfl zm ?_
      refine .ixX (enc:=fun x=>[I x]) (i:=10) hs rfl (by kernel_rfl) .none hR71 rfl rfl aa ae (br (l:=gr rs k) (i:=X.length) (by omega)) rfl ?_;intro b74 o74 hc74;replace hc74:=bG.one hc74
      refine .r (i:=11) hs rfl (by kernel_rfl) .none (aM rfl af hc74) ?_
      refine .z 12 rfl cA ?_;refine .z 13 rfl Ad ?_;refine .z 14 rfl zg ?_;refine .done (by kernel_rfl) hs ?_
      refine nB (nT ?_)
      exact .mk ⟨lo',_,rfl,hLo',hHi.put hc63 (by have:=hb2 hc63;have:=hXk;have:=hTS.n65;show gi X k+gi (gr rs k) X.length≤1000000000;omega),hs⟩
     ·refine .skip ?_
      refine nB (nT ?_)
      exact .mk ⟨lo',_,rfl,hLo',hHi.skip hc63,hs⟩
   ·rintro fr w ⟨lo,hi,rfl,hLo,hHi,hs⟩
    have hlb:=hLo.bd hI hTS hXl (Nat.le_refl _)
    have hhb:=hHi.bd hI hTS hXl (Nat.le_refl _)
    have hle:=hI.le hTS hXl rfl hLo hHi
    simp only [free] at hlb hhb hle
    have hpk:=vz jC ((X.length:Int) - 1) (n:=hi - lo+1)
    refine nT ?_
    refine .ai (.z zg (.nil ?_))
    refine .cut (fun fs w=>kJ fs ⟨109,[],[(13,I (jU lo hi (pH jC ((X.length:Int) - 1) (hi - lo+1)))),(9,I (X.length:Int)),(8,.slice (some ⟨b,0,none⟩) X.length cap),(6,.slice at' rs.length ct),(2,.pointer (some ⟨b2,0,none⟩)),(1,.slice ap jC.length cp)]⟩∧St H1 w (.blk b (Is X++sp):: .blk b2 [I s.many,.slice al s.cz.length cl]::σ)) ?_ ?_
    ·refine .block (.ai (.z zm (.z iA (.z zm ?_))))
     refine .yu (t':=82) rfl (fun hb82=>?_) (fun hb82=>?_)
     ·refine .gT rfl rfl ?_
      refine .z zm ?_
      refine .gT rfl rfl ?_
      refine .z iA (.z zpT (.z zg (.nil ?_)))
      refine (.e9 rfl (fun hc79=>?_) (fun hc79=>?_))
      ·refine .region (.z zm (.z zm (.z zm (.z gM (.z zm (.z zm (.z gM (.z cA ?_))))))))
       refine .o (.call Tryz.call264 rfl (sS hs (hp.mono hle1) (by omega) (by omega)) ?_);rintro _ w ⟨rfl,hs⟩
       have hq1:hi≠1000000000:=by simpa using hc79
       have hq2:=hle (by simpa using hb82) hq1
       have hq3:=hpk (by omega)
       refine .z cA (.z zg (.nil ?_))
       refine nB (nT ?_)
       refine ⟨.cq rfl ?_ (by repeat (first|exact .nil rfl rfl|refine .cons rfl ?_)),hs⟩
       unfold jU
       simp only [free] at*
       split<;>(try split)<;>first|rfl|omega|(simp_all;done)|(exfalso;simp_all;omega)
      ·refine .ai (.z zm (.z iA (.z zg (.nil ?_))))
       refine (.e9 rfl (fun hc96=>?_) (fun hc96=>?_))
       ·refine .region (.z zm (.z zg (.nil ?_)))
        refine nB (nT ?_)
        refine ⟨.cq rfl ?_ (by repeat (first|exact .nil rfl rfl|refine .cons rfl ?_)),hs⟩
        unfold jU
        simp only [free] at*
        split<;>(try split)<;>first|rfl|omega|(simp_all;done)|(exfalso;simp_all;omega)
       ·refine .ai (.z zm (.z iA (.z zg (.nil ?_))))
        refine (.e9 rfl (fun hc100=>?_) (fun hc100=>?_))
        ·refine .region (.z zm (.z zg (.nil ?_)))
         refine nB (nT ?_)
         refine ⟨.cq rfl ?_ (by repeat (first|exact .nil rfl rfl|refine .cons rfl ?_)),hs⟩
         unfold jU
         simp only [free] at*
         split<;>(try split)<;>first|rfl|omega|(simp_all;done)|(exfalso;simp_all;omega)
        ·refine .skip ?_
         refine nB (nT ?_)
         refine ⟨.cq rfl ?_ (by repeat (first|exact .nil rfl rfl|refine .cons rfl ?_)),hs⟩
         unfold jU
         simp only [free] at*
         split<;>(try split)<;>first|rfl|omega|(simp_all;done)|(exfalso;simp_all;omega)
     ·refine .gFs 2 2 true rfl rfl rfl ?_
      refine .z zpF (.z zg (.nil ?_))
      refine (.mj rfl (by first|rfl|exact decide_eq_false (by assumption)) ?_)
      refine .ai (.z zm (.z iA (.z zg (.nil ?_))))
      refine (.e9 rfl (fun hc96=>?_) (fun hc96=>?_))
      ·refine .region (.z zm (.z zg (.nil ?_)))
       refine nB (nT ?_)
       refine ⟨.cq rfl ?_ (by repeat (first|exact .nil rfl rfl|refine .cons rfl ?_)),hs⟩
       unfold jU
       simp only [free] at*
       split<;>(try split)<;>first|rfl|omega|(simp_all;done)|(exfalso;simp_all;omega)
      ·refine .ai (.z zm (.z iA (.z zg (.nil ?_))))
       refine (.e9 rfl (fun hc100=>?_) (fun hc100=>?_))
       ·refine .region (.z zm (.z zg (.nil ?_)))
        refine nB (nT ?_)
        refine ⟨.cq rfl ?_ (by repeat (first|exact .nil rfl rfl|refine .cons rfl ?_)),hs⟩
        unfold jU
        simp only [free] at*
        split<;>(try split)<;>first|rfl|omega|(simp_all;done)|(exfalso;simp_all;omega)
       ·refine .skip ?_
        refine nB (nT ?_)
        refine ⟨.cq rfl ?_ (by repeat (first|exact .nil rfl rfl|refine .cons rfl ?_)),hs⟩
        unfold jU
        simp only [free] at*
        split<;>(try split)<;>first|rfl|omega|(simp_all;done)|(exfalso;simp_all;omega)
    ·rintro fs w ⟨hfs,hs⟩
     refine WE.sub ?_ hfs
     refine .region (.z zm (.z zm ?_))
     refine .o (.buildSlice (cells:=[_]) hs cV rfl rfl ?_);intro b106 w hs
     refine .o (.append (ys:=Is [jU lo hi (pH jC ((X.length:Int) - 1) (hi - lo+1))]) hs bP rfl rfl hO1 (.own .here rfl rfl) (fL _) (fun l' h=>by simp at h;have:=hTS.n65;omega) ?_);intro v107 en107 w hO2 hs
     rw [←List.map_append] at hO2
     refine .z zg (.nil ?_)
     refine nB (nT ?_)
     refine .region (.z zm (.z cA (.z zg (.nil ?_))))
     refine nT ?_
     exact ⟨(X++[jU lo hi (pH jC ((X.length:Int) - 1) (hi - lo+1))],v107),.cq rfl (by simp) (by repeat (first|exact .nil rfl rfl|refine .cons rfl ?_)),⟨hP.snoc hLo hHi,by simp;omega,_,hO2,hs.sub (by repeat (first|exact Sub.refl _|constructor|apply Sub.weaken))⟩,by simp;omega⟩
  ·refine .exit ?_
   refine xT (xT (xB (nT ?_)))
   refine .ai (.z zm (.z zg (.z zg (.nil ?_))))
   refine .ret (Fin.lg Tryz.results212 rfl rfl ?_)
   exact ⟨H1,_,X,_,hle1,rfl,hO1,⟨gt rs,hWT,hP,by omega⟩,hs.sub (by repeat (first|exact Sub.refl _|constructor|apply Sub.weaken))⟩
theorem m9{H:bn}{w:World}{σ:List Ent}{s:Srv}{vst vwa vr vc:Value}(hs:St H w σ)(h1:RI H vst s.sp.st)(h2:RI H vwa s.sp.wa)(h3:RRd H vr s.rs)(h4:RCm H vc s.cs)(he:s.early):
  Cl Tryz.prog 211 [.agg #[I s.sp.id,I s.sp.src,vst,vwa,I s.sp.al,I s.sp.up,vr,vc]] w fun u w'=>∃H1,HLe H H1∧RSy H1 u s.nZ∧St H1 w' σ:=by
 obtain ⟨ar,cr,rfl⟩:=RRd.shape h3
 have hfl:=zd s
 have hrl:=he.2.1
 refine Cl.of Tryz.func211 rfl Tryz.ntmps211 (by simp) (aj (k:=0) rfl (bh)) ?_
 refine .ai ?_
 refine .o (.box hs rfl rfl ?_);intro b1 w hs
 refine .o (.alloc hs bY rfl ?_);intro b2 w hs
 refine .nil (.ai (.y hs (zls [_,_,_,_,_,_,_,_] aN aD) ?_))
 refine .o (.call BU rfl (gL (s:=s) hs h1 h2 h3 h4 he) ?_);rintro _ w ⟨H1,hle1,⟨ul,rfl,hL⟩,hs⟩
 have hL:RL H1 ul s.cz:=hL
 obtain ⟨al,cl,rfl⟩:=RL.shape hL
 have hln:=RS.len hL
 rw [List.length_map] at hln
 refine .o (.alloc hs bY rfl ?_);intro b3 w hs
 refine .o (.aS (vs:=[_,_]) hs rfl rfl aB ?_);intro w hs
 refine .nil (.ai (.z (zfa bD) (.y hs (zld cD) (.z (zfa bD) (.y hs (zld cD) (.z (cM aQ) (.z (zfa aJ) (.y hs (zld bp) (.z (cM au) ?_)))))))))
 refine .z j7 (.z gM ?_)
 refine .q hs (jB (k:=s.nk.length) rfl rfl aQ bj (by omega) (by omega)) ?_
 have hT:=RS.head hL (k:=s.nk.length) (by omega)
 rw [←List.map_take,xg] at hT
 refine .z (zfa bD) ?_
 refine .o (.store hs rfl rfl gR ?_);intro w hs
 refine .nil (.ai (.y hs (zls [_,_] aU aB) ?_))
 refine .o (.aS (vs:=[_,_]) hs rfl rfl aB ?_);intro w hs
 refine .nil ?_
 refine .ret ?_
 exact Fin.iG [] [] hs fun w hs=>⟨_,results1 Tryz.results211 (dH (vs:=[_,_]) hs rfl aU aB),H1,hle1,⟨_,rfl,hT⟩,hs.out⟩
theorem sO{H:bn}{w:World}{σ:List Ent}{s:Srv}{vst vwa vr vc:Value}(hs:St H w σ)(h1:RI H vst s.sp.st)(h2:RI H vwa s.sp.wa)(h3:RRd H vr s.rs)(h4:RCm H vc s.cs)(he:s.early)(hok:s.nZ.Ok):
  Cl Tryz.prog 142 [.agg #[I s.sp.id,I s.sp.src,vst,vwa,I s.sp.al,I s.sp.up,vr,vc]] w fun u w'=>∃H1,∃b:Bool,HLe H H1∧u= .bool b∧(b=false→s.nZ.Sound)∧St H1 w' σ:=by
 refine Cl.of Tryz.func142 rfl Tryz.ntmps142 (by simp) (aj (k:=0) rfl (bh)) ?_
 refine .ai ?_
 refine .o (.box hs rfl rfl ?_);intro b1 w hs
 refine .z zg (.nil (.ai (.y hs (zls [_,_,_,_,_,_,_,_] aN aD) ?_)))
 refine .o (.call Tryz.call211 rfl (m9 (s:=s) hs h1 h2 h3 h4 he) ?_);rintro _ w ⟨H1,hle1,hS,hs⟩
 refine .o (.call Tryz.call210 rfl (mx (s:=s.nZ) hs hS) ?_);rintro _ w ⟨H2,vt,e,hle2,rfl,hcase,hs⟩
 refine .z zm (.z zex (.z zex (.z zg (.z zg (.nil (.ai (.z zm (.z iA (.z zg ?_)))))))))
 refine .nil ?_
 refine .ret (Fin.bI Tryz.results142 rfl ?_)
 exact ⟨H2,_,hle1.trans hle2,rfl,fun h=>by
  rcases hcase with ⟨k1,_,_⟩|⟨_,_,k3,_⟩|⟨_,k2,_,_⟩
  ·exact (k1 (s.nZ.dn.2 hok)).elim
  ·subst k3;simp at h
  ·exact k2,hs.out⟩
theorem sN{H:bn}{w:World}{σ:List Ent}{s:Srv}{vst vwa vr vc vp:Value}{jC:List Int}(hs:St H w σ)(h1:RI H vst s.sp.st)(h2:RI H vwa s.sp.wa)(h3:RRd H vr s.rs)(h4:RCm H vc s.cs)(hp:RI H vp jC)(he:s.early)(hok:s.nZ.Ok∧s.nZ.Sound):
  Cl Tryz.prog 143 [.agg #[I s.sp.id,I s.sp.src,vst,vwa,I s.sp.al,I s.sp.up,vr,vc],vp] w fun u w'=>∃H1 x en,HLe H H1∧cu 1 u (Is x) en∧uT s.nZ jC x∧St H1 w' (en::σ):=by
 obtain ⟨ap,cp,rfl⟩:=RI.shape hp
 refine Cl.of Tryz.func143 rfl Tryz.ntmps143 (by simp) (aj (k:=0) rfl (aj (k:=1) rfl (bh))) ?_
 refine .ai ?_
 refine .o (.box hs rfl rfl ?_);intro b2 w hs
 refine .z zg (.nil (.ai (.y hs (zls [_,_,_,_,_,_,_,_] aN aD) ?_)))
 refine .o (.call Tryz.call211 rfl (m9 (s:=s) hs h1 h2 h3 h4 he) ?_);rintro _ w ⟨H1,hle1,hS,hs⟩
 refine .z zm ?_
 refine .o (.call Tryz.call212 rfl (sR (s:=s.nZ) hs hS (hp.mono hle1) hok) ?_);rintro _ w ⟨H2,vx,x,en,hle2,rfl,hO,hP,hs⟩
 refine .z zm (.z zex (.z zex (.z zg (.z zg (.nil (.ai (.z zm (.z zg (.nil ?_)))))))))
 refine .ret (Fin.bI Tryz.results143 rfl ?_)
 exact ⟨H2,x,en,hle1.trans hle2,hO,hP,hs.sub (by repeat (first|exact Sub.refl _|constructor|apply Sub.weaken))⟩
set_option maxHeartbeats 1000000 in
theorem oI{H:bn}{w:World}{σ:List Ent}{s:Spc}{vst vwa:Value}{a b c:Int}(hs:St H w σ)(h1:RI H vst s.st)(h2:RI H vwa s.wa)(hk:fB s):
  Cl Tryz.prog 25 [.agg #[I s.id,I s.src,vst,vwa,I s.al,I s.up],.agg #[I a,I b,I c]] w fun u w'=>∃q:Wht,u= .agg #[I q.kind,I q.st,I q.wa]∧fK s q∧St H w' σ:=by
 obtain ⟨ast,cst,rfl⟩:=RI.shape h1
 obtain ⟨awa,cwa,rfl⟩:=RI.shape h2
 have hl1:=hk.st.two
 have hl2:=hk.wa.two
 have hl3:=hk.st.many
 have hl4:=hk.wa.many
 refine Cl.of Tryz.func25 rfl Tryz.ntmps25 (by simp) (aj (k:=0) rfl (aj (k:=1) rfl (bh))) ?_
 refine .ai ?_
 refine .o (.box hs rfl rfl ?_);intro b2 w hs
 refine .o (.box hs rfl rfl ?_);intro b3 w hs
 refine .o (.alloc hs r9 rfl ?_);intro b4 w hs
 refine .nil (.ai ?_)
 first|refine .q hs (dI (k:=0) rfl rfl aq ae rfl (by decide)) ?_|refine .q hs (fb (k:=0) rfl rfl aq ae rfl (by decide)) ?_
 refine .y hs (zld af) ?_
 refine .o (.call cf rfl (bO hs (by omega)) ?_);rintro _ w ⟨k,hk4,rfl,hs⟩
 refine .z cA (.z (zbd [_,_,_] kY) ?_)
 refine .o (.alloc hs r9 rfl ?_);intro b5 w hs
 refine .o (.aS (vs:=[_,_,_]) hs rfl rfl bK ?_);intro w hs
 refine .nil (.ai ?_)
 first|refine .q hs (dI (k:=1) rfl rfl aq ae rfl (by decide)) ?_|refine .q hs (fb (k:=1) rfl rfl aq ae rfl (by decide)) ?_
 refine .y hs (zld af) (.z (zfa bA) (.y hs (zld ak) (.z (cM aa) ?_)))
 refine .o (.call cf rfl (bO hs (by omega)) ?_);rintro _ w ⟨i,hi,rfl,hs⟩
 refine .z zg (.nil (.ai ?_))
 first|refine .q hs (dI (k:=2) rfl rfl aq ae rfl (by decide)) ?_|refine .q hs (fb (k:=2) rfl rfl aq ae rfl (by decide)) ?_
 refine .y hs (zld af) (.z (zfa bg) (.y hs (zld ak) (.z (cM aa) ?_)))
 refine .o (.call cf rfl (bO hs (by omega)) ?_);rintro _ w ⟨j,hj,rfl,hs⟩
 refine .z zg (.nil (.seq (.ai (.z (zfa kc) (.y hs (zld af) (.nil (.block (.ai (.z fA ?_)))))))))
 refine .z zg (.nil ?_)
 refine (.bJ rfl (fun hc27=>?_) (fun hc27=>?_))
 ·refine .region (.z zm (.z DA (.z (zfa cZ) ?_)))
  refine .o (.store hs rfl rfl ae ?_);intro w hs
  refine .nil ?_
  refine nB (nT ?_)
  refine .ai (.y hs (zls [_,_,_] dd bK) ?_)
  refine .o (.aS (vs:=[_,_,_]) hs rfl rfl bK ?_);intro w hs
  refine .nil ?_
  refine .ret ?_
  exact Fin.iG [] [] hs fun w hs=>⟨_,results1 wy (dH (vs:=[_,_,_]) hs rfl dd bK),⟨1+(k:Int),0,max 1 (j:Int)⟩,rfl,.litres (by show (1:Int)+k=1;omega) rfl ⟨by dsimp only;omega,by dsimp only;omega⟩ (by dsimp only;omega),hs.out⟩
 ·refine .ai (.z fA (.z zg (.nil ?_)))
  refine (.bJ rfl (fun hc32=>?_) (fun hc32=>?_))
  ·refine .region (.z zm (.z (zfa cZ) ?_))
   refine .o (.store hs rfl rfl ae ?_);intro w hs
   refine .nil ?_
   refine nB (nT ?_)
   refine .ai (.y hs (zls [_,_,_] dd bK) ?_)
   refine .o (.aS (vs:=[_,_,_]) hs rfl rfl bK ?_);intro w hs
   refine .nil ?_
   refine .ret ?_
   exact Fin.iG [] [] hs fun w hs=>⟨_,results1 wy (dH (vs:=[_,_,_]) hs rfl dd bK),⟨1+(k:Int),0,(j:Int)⟩,rfl,.plane (by show (1:Int)+k=2;omega) rfl ⟨by dsimp only;omega,by dsimp only;omega⟩,hs.out⟩
  ·refine .ai (.z fA (.z zg (.nil ?_)))
   refine (.bJ rfl (fun hc36=>?_) (fun hc36=>?_))
   ·refine .region (.z zm (.z (zfa dR) ?_))
    refine .o (.store hs rfl rfl ae ?_);intro w hs
    refine .nil ?_
    refine nB (nT ?_)
    refine .ai (.y hs (zls [_,_,_] dd bK) ?_)
    refine .o (.aS (vs:=[_,_,_]) hs rfl rfl bK ?_);intro w hs
    refine .nil ?_
    refine .ret ?_
    exact Fin.iG [] [] hs fun w hs=>⟨_,results1 wy (dH (vs:=[_,_,_]) hs rfl dd bK),⟨1+(k:Int),(i:Int),0⟩,rfl,.section_ (by show (1:Int)+k=3;omega) rfl ⟨by dsimp only;omega,by dsimp only;omega⟩,hs.out⟩
   ·refine .ai (.z fA (.z zg (.nil ?_)))
    refine (.bJ rfl (fun hc40=>?_) (fun hc40=>?_))
    ·refine .ai (.z zm (.z (zfa dR) ?_))
     refine .o (.store hs rfl rfl ae ?_);intro w hs
     refine .nil (.region (.z zm (.z (zfa cZ) ?_)))
     refine .o (.store hs rfl rfl ae ?_);intro w hs
     refine .nil ?_
     refine nB (nT ?_)
     refine .ai (.y hs (zls [_,_,_] dd bK) ?_)
     refine .o (.aS (vs:=[_,_,_]) hs rfl rfl bK ?_);intro w hs
     refine .nil ?_
     refine .ret ?_
     exact Fin.iG [] [] hs fun w hs=>⟨_,results1 wy (dH (vs:=[_,_,_]) hs rfl dd bK),⟨1+(k:Int),(i:Int),(j:Int)⟩,rfl,.offset (by show (1:Int)+k=4;omega) ⟨by dsimp only;omega,by dsimp only;omega⟩ ⟨by dsimp only;omega,by dsimp only;omega⟩,hs.out⟩
    ·refine .skip ?_
     refine nB (nT ?_)
     refine .ai (.y hs (zls [_,_,_] dd bK) ?_)
     refine .o (.aS (vs:=[_,_,_]) hs rfl rfl bK ?_);intro w hs
     refine .nil ?_
     refine .ret ?_
     omega
structure Grow(d D:Int)(L:List Int)(x:Int):Prop where
 low:d≤x
 high:x≤d+D*L.length
 all:∀i<L.length,d≤gi L i∧gi L i<x
 rise:∀i,i+1<L.length→gi L i<gi L (i+1)
theorem Grow.start(d D:Int):Grow d D [] d:=⟨by omega,by simp,fun i h=>by simp at h,fun i h=>by simp at h⟩
theorem Grow.snoc{d D x y:Int}{L:List Int}(h:Grow d D L x)(h1:x<y)(h2:y≤x+D):Grow d D (L++[x]) y:=by
 obtain ⟨g1,g2,g3,g4⟩:=h
 refine ⟨by omega,?_,fun i hi=>?_,fun i hi=>?_⟩
 ·rw [List.length_append,List.length_singleton,Int.natCast_add,Int.mul_add];omega
 ·rw [List.length_append,List.length_singleton] at hi
  rw [vK]
  split
  ·have:=g3 i (by assumption);omega
  ·rw [if_pos (by omega)];omega
 ·rw [List.length_append,List.length_singleton] at hi
  rw [vK,vK,if_pos (by omega)]
  split
  ·exact g4 i (by assumption)
  ·rw [if_pos (by omega)];exact (g3 i (by omega)).2
theorem Grow.plc{d D x most:Int}{many:Nat}{L:List Int}(h:Grow d D L x)(hd:0≤d)(h2:2≤L.length)(hm:L.length≤many)(hx:d+D*L.length≤most):eu many most L:=
 ⟨h2,hm,by have:=(h.all 0 (by omega)).1;omega,by have:=(h.all (L.length - 1) (by omega)).2;have:=h.high;omega,h.rise⟩
structure MadeSp(s:Spc):Prop where
 ok:fB s
 st:s.st.length≤4
 wa:s.wa.length≤3
set_option maxHeartbeats 1000000 in
theorem oJ{H:bn}{w:World}{σ:List Ent}{v:Value}{l:List Int}(hs:St H w σ)(hr:RI H v l):
  Cl Tryz.prog 35 [v] w fun u w'=>∃s vst vwa e1 e2,u= .agg #[I s.id,I s.src,vst,vwa,I s.al,I s.up]∧MadeSp s∧cu 1 vst (Is s.st) e1∧cu 1 vwa (Is s.wa) e2∧St H w' (e1::e2::σ):=by
 obtain ⟨av,cv,rfl⟩:=RI.shape hr
 refine Cl.of Tryz.func35 rfl Tryz.ntmps35 (by simp) (aj (k:=0) rfl (bh)) ?_
 refine .ai ?_
 refine .o (.alloc hs fY rfl ?_);intro b2 w hs
 refine .nil (.ai (.z zm ?_))
 refine .o (.call e8 rfl (c9 hs hr (by omega) (by omega)) ?_);rintro _ w ⟨k11,g11,rfl,hs⟩
 refine .z cA (.z zm ?_)
 refine .o (.call e8 rfl (c9 hs hr (by omega) (by omega)) ?_);rintro _ w ⟨k14,g14,rfl,hs⟩
 refine .z cA (.z (zbd [_,_,_,_,_,_] qd) ?_)
 refine .o (.alloc hs fY rfl ?_);intro b3 w hs
 refine .o (.aS (vs:=[_,_,_,_,_,_]) hs rfl rfl aH ?_);intro w hs
 refine .nil (.ai (.z zm ?_))
 refine .o (.call e8 rfl (c9 hs hr (by omega) (by omega)) ?_);rintro _ w ⟨k18,g18,rfl,hs⟩
 refine .z cA (.z j7 (.z zg (.nil (.ai (.z zg (.nil (.seq (.ai (.z zg ?_)))))))))
 refine .nil (.block ?_)
 refine .loop (fun p:List Int×Int×Value=>⟨90,[],[(6,I (p.1.length:Int)),(5,I p.2.1),(4,I (100*(1+(k18:Int)))),(0,.slice av l.length cv),(3,.pointer (some ⟨b3,0,none⟩)),(2,.pointer (some ⟨b2,0,none⟩))]⟩)
  (fun p w=>p.1.length≤4∧Grow 0 2707 p.1 p.2.1∧∃en,cu 1 p.2.2 (Is p.1) en∧St H w (en:: .blk b3 [I (1+(k11:Int)),I (1+(k14:Int)),p.2.2,.slice none 0 0,I 0,I 0]:: .blk b2 [I 0,I 0,.slice none 0 0,.slice none 0 0,I 0,I 0]::σ)) (fun p=>4 - p.1.length) ([],0,.slice none 0 0) (by repeat (first|exact .nil rfl rfl|refine .cons rfl ?_))
  ⟨by simp,.start _ _,_,.nil 1 none,hs.nul⟩ ?_
 clear hs
 rintro ⟨L,x,vo⟩ w ⟨hL4,hG,en,hO,hs⟩
 dsimp only at hL4 hG hO hs ⊢
 obtain ⟨ao,lo,co,rfl,-⟩:=hO.shape
 have hx0:=hG.low
 have hx1:=hG.high
 refine .seq (.ai (.z zm (.z zm ?_)))
 refine .o (.call e8 rfl (c9 hs hr (by omega) (by omega)) ?_);rintro _ w ⟨k23,g23,rfl,hs⟩
 refine .z cA (.z fN (.nil ?_))
 refine (.bJ rfl (fun hc25=>?_) (fun hc25=>?_))
 ·refine .skip ?_
  refine nT ?_
  refine .seq (.block (.ai (.z (zfa bA) (.y hs (zld ak) (.z zm ?_)))))
  refine .o (.buildSlice (cells:=[_]) hs cV rfl rfl ?_);intro b31 w hs
  refine .o (.append (ys:=Is [x]) hs bP rfl rfl hO (.own .here rfl rfl) (fL _) (fun l' h=>by simp at h;omega) ?_);intro v32 en32 w hO2 hs
  rw [←List.map_append] at hO2
  obtain ⟨a32,l32,c32,rfl,-⟩:=hO2.shape
  refine .z (zfa bA) ?_
  refine .o (.store hs rfl rfl aA ?_);intro w hs
  refine .nil (.region (.z zm (.z zm (.z zm (.z zm (.z cA ?_))))))
  refine .o (.call e8 rfl (c9 hs hr (by omega) (by omega)) ?_);rintro _ w ⟨k39,g39,rfl,hs⟩
  have m41:=kS (a:=100*(1+(k18:Int))) (b:=1+(k39:Int)) (A:=900) (B:=3) (by omega) (by omega)
  have m41':100≤100*(1+(k18:Int))*(1+(k39:Int)):=by
   have:=Int.mul_le_mul (a:=100) (c:=100*(1+(k18:Int))) (b:=1) (d:=1+(k39:Int)) (by omega) (by omega) (by omega) (by omega)
   omega
  refine .z cA (.z j7 (.z cA (.z zm ?_)))
  refine .o (.call e8 rfl (c9 hs hr (by omega) (by omega)) ?_);rintro _ w ⟨k44,g44,rfl,hs⟩
  refine .z zm (.z zm (.z cA ?_))
  refine .o (.call e8 rfl (c9 hs hr (by omega) (by omega)) ?_);rintro _ w ⟨k48,g48,rfl,hs⟩
  have m49:0≤(k44:Int)*(k48:Int)∧(k44:Int)*(k48:Int)≤1:=by
   have e1:k44=0∨k44=1:=by omega
   rcases e1 with rfl|rfl<;>simp<;>omega
  refine .z j7 (.z j7 (.z cA (.z zg (.nil ?_))))
  refine nB (nT ?_)
  refine .region (.z zm (.z cA (.z zg (.nil ?_))))
  refine nT ?_
  exact ⟨(L++[x],_,.slice a32 l32 c32),.cq rfl (by simp) (by repeat (first|exact .nil rfl rfl|refine .cons rfl ?_)),⟨by simp;omega,hG.snoc (by dsimp only;omega) (by dsimp only;omega),_,hO2,hs.sub (by repeat (first|exact Sub.refl _|constructor|apply Sub.weaken))⟩,by simp;omega⟩
 ·refine .exit ?_
  refine xT (xT (xB (nT ?_)))
  refine .ai (.z zm ?_)
  have hL2:2≤L.length:=by omega
  refine .o (.call e8 rfl (c9 hs hr (by omega) (by omega)) ?_);rintro _ w ⟨k53,g53,rfl,hs⟩
  refine .z cA (.z j7 (.z zg (.nil (.ai (.z zm ?_)))))
  refine .o (.call e8 rfl (c9 hs hr (by omega) (by omega)) ?_);rintro _ w ⟨k57,g57,rfl,hs⟩
  refine .z j7 (.z zg (.nil (.seq (.ai (.z zg (.nil (.block ?_)))))))
  refine .loop (fun p:List Int×Int×Value=>⟨90,[],[(9,I (p.1.length:Int)),(8,I p.2.1),(7,I (50*(1+(k53:Int)))),(0,.slice av l.length cv),(3,.pointer (some ⟨b3,0,none⟩)),(2,.pointer (some ⟨b2,0,none⟩))]⟩)
   (fun p w=>p.1.length≤3∧Grow (10*(k57:Int)) 1350 p.1 p.2.1∧∃en2,cu 1 p.2.2 (Is p.1) en2∧St H w (en2:: .blk b3 [I (1+(k11:Int)),I (1+(k14:Int)),.slice ao lo co,p.2.2,I 0,I 0]:: .blk b2 [I 0,I 0,.slice none 0 0,.slice none 0 0,I 0,I 0]::en::σ)) (fun p=>3 - p.1.length) ([],10*(k57:Int),.slice none 0 0) (by repeat (first|exact .nil rfl rfl|refine .cons rfl ?_))
   ⟨by simp,.start _ _,_,.nil 1 none,(hs.sub (by repeat (first|exact Sub.refl _|constructor|apply Sub.weaken))).nul⟩ ?_
  clear hs
  rintro ⟨L2,y,vo2⟩ w ⟨hM4,hG2,en2,hO2,hs⟩
  dsimp only at hM4 hG2 hO2 hs ⊢
  obtain ⟨ap,lp,cp,rfl,-⟩:=hO2.shape
  have hy0:=hG2.low
  have hy1:=hG2.high
  refine .seq (.ai (.z zm (.z zm ?_)))
  refine .o (.call e8 rfl (c9 hs hr (by omega) (by omega)) ?_);rintro _ w ⟨k61,g61,rfl,hs⟩
  refine .z cA (.z fN (.nil ?_))
  refine (.bJ rfl (fun hc63=>?_) (fun hc63=>?_))
  ·refine .skip ?_
   refine nT ?_
   refine .seq (.block (.ai (.z (zfa bg) (.y hs (zld ak) (.z zm ?_)))))
   refine .o (.buildSlice (cells:=[_]) hs cV rfl rfl ?_);intro b69 w hs
   refine .o (.append (ys:=Is [y]) hs bP rfl rfl hO2 (.own .here rfl rfl) (fL _) (fun l' h=>by simp at h;omega) ?_);intro v70 en70 w hO3 hs
   rw [←List.map_append] at hO3
   obtain ⟨a70,l70,c70,rfl,-⟩:=hO3.shape
   refine .z (zfa bg) ?_
   refine .o (.store hs rfl rfl aA ?_);intro w hs
   refine .nil (.region (.z zm (.z zm (.z zm (.z zm (.z cA ?_))))))
   refine .o (.call e8 rfl (c9 hs hr (by omega) (by omega)) ?_);rintro _ w ⟨k77,g77,rfl,hs⟩
   have m79:=kS (a:=50*(1+(k53:Int))) (b:=1+(k77:Int)) (A:=450) (B:=3) (by omega) (by omega)
   have m79':50≤50*(1+(k53:Int))*(1+(k77:Int)):=by
    have:=Int.mul_le_mul (a:=50) (c:=50*(1+(k53:Int))) (b:=1) (d:=1+(k77:Int)) (by omega) (by omega) (by omega) (by omega)
    omega
   refine .z cA (.z j7 (.z cA (.z zg (.nil ?_))))
   refine nB (nT ?_)
   refine .region (.z zm (.z cA (.z zg (.nil ?_))))
   refine nT ?_
   exact ⟨(L2++[y],_,.slice a70 l70 c70),.cq rfl (by simp) (by repeat (first|exact .nil rfl rfl|refine .cons rfl ?_)),⟨by simp;omega,hG2.snoc (by dsimp only;omega) (by dsimp only;omega),_,hO3,hs.sub (by repeat (first|exact Sub.refl _|constructor|apply Sub.weaken))⟩,by simp;omega⟩
  ·refine .exit ?_
   refine xT (xT (xB (nT ?_)))
   refine .ai (.z zm ?_)
   refine .o (.call e8 rfl (c9 hs hr (by omega) (by omega)) ?_);rintro _ w ⟨k83,g83,rfl,hs⟩
   refine .z j7 (.z zm ?_)
   refine .o (.call e8 rfl (c9 hs hr (by omega) (by omega)) ?_);rintro _ w ⟨k86,g86,rfl,hs⟩
   refine .z j7 (.z (zbd [_,_] rf) (.z (zfa dO) ?_))
   refine .o (.aS (vs:=[_,_]) hs rfl rfl Et ?_);intro w hs
   refine .nil (.ai (.y hs (zls [_,_,_,_,_,_] aT aH) ?_))
   refine .o (.aS (vs:=[_,_,_,_,_,_]) hs rfl rfl aH ?_);intro w hs
   refine .nil ?_
   refine .ret ?_
   exact Fin.iG [] [] hs fun w hs=>⟨_,results1 Tryz.results35 (dH (vs:=[_,_,_,_,_,_]) hs rfl aT aH),⟨1+(k11:Int),1+(k14:Int),L,L2,100*(k83:Int),100*(k86:Int)⟩,.slice ao lo co,.slice ap lp cp,en,en2,rfl,
    ⟨⟨hG.plc (by omega) hL2 (by omega) (by omega),hG2.plc (by omega) (by omega) (by omega) (by omega),by dsimp only;omega,by dsimp only;omega,by dsimp only;omega,by dsimp only;omega⟩,hL4,hM4⟩,hO,hO2,hs.sub (by repeat (first|exact Sub.refl _|constructor|apply Sub.weaken))⟩
instance (s:Spc) (r:Rdg):Decidable (jt s r):=
 decidable_of_iff ((1≤r.src∧r.src≤99999)∧(0≤r.st∧r.st≤(s.st.length:Int) - 1)∧(0≤r.wa∧r.wa≤(s.wa.length:Int) - 1)∧(0≤r.tol∧r.tol≤1000)∧(0≤r.val∧r.val≤20000 - r.tol)∧(1≤r.tape∧r.tape≤99)∧(0≤r.day∧r.day≤100000))
  ⟨fun ⟨a,b,c,d,e,f,g⟩=>⟨a,b,c,d,e,f,g⟩,fun ⟨a,b,c,d,e,f,g⟩=>⟨a,b,c,d,e,f,g⟩⟩
def gP(s:Spc)(rs:List Rdg):List Rdg:=rs.filter fun r=>decide (jt s r)
theorem zT(s:Spc){rs:List Rdg}{k:Nat}{r:Rdg}(h:rs[k]? =some r):gP s (rs.take (k+1))=if jt s r then gP s (rs.take k)++[r] else gP s (rs.take k):=by
 unfold gP
 rw [dK h,List.filter_append]
 by_cases e:jt s r
 ·simp [e]
 ·simp [e]
theorem s9(s:Spc)(rs:List Rdg):(gP s rs).length≤rs.length:=List.length_filter_le _ _
theorem xd{s:Spc}{rs:List Rdg}{r:Rdg}(h:r∈gP s rs):r∈rs∧jt s r:=by
 unfold gP at h;simpa using List.mem_filter.1 h
theorem CO{s:Spc}{rs:List Rdg}{t:TD}(h:t∈aZ (gP s rs)):t∈aZ rs:=by
 obtain ⟨r,h1,h2⟩:=fR.1 h
 exact fR.2 ⟨r,(xd h1).1,h2⟩
def nu(v:Srv)(x:List Int)(t:TD):Int:=gi x (v.sp.many+1+(gS v.bu t).toNat)
def keepX(v:Srv)(x:List Int):List Int:=x.take (v.sp.many+1)++(aZ (gP v.sp v.rs)).map (nu v x)
set_option maxHeartbeats 1000000 in
theorem sM{H:bn}{w:World}{σ:List Ent}{vr:Value}{rs:List Rdg}(hs:St H w σ)(hr:RRd H vr rs)(hl:rs.length≤1000000):
  Cl Tryz.prog 94 [vr] w fun u w'=>∃en,cu 2 u (tdc (aZ rs)).flatten en∧St H w' (en::σ):=by
 obtain ⟨ar,cr,rfl⟩:=RRd.shape hr
 refine Cl.of Tryz.func94 rfl Tryz.ntmps94 (by simp) (aj (k:=0) rfl (bh)) ?_
 refine .ai (.z zg (.nil (.ai (.z zg (.nil (.seq (.ai (.z zg (.nil ?_)))))))))
 refine .block ?_
 refine .loop (fun p:Nat×Value=>⟨32,[],[(4,I (p.1:Int)),(3,p.2),(0,.slice ar rs.length cr)]⟩)
  (fun p w=>p.1≤rs.length∧∃en,cu 2 p.2 (tdc (aZ (rs.take p.1))).flatten en∧St H w (en::σ)) (fun p=>rs.length - p.1) (0,.slice none 0 0) (by repeat (first|exact .nil rfl rfl|refine .cons rfl ?_))
  ⟨Nat.zero_le _,_,.nil 2 none,hs.nul⟩ ?_
 rintro ⟨k,vo⟩ w ⟨hk,en,hO,hs⟩
 dsimp only at hk hO ⊢
 have htl:=ki rs k (by omega)
 obtain ⟨ao,co,rfl⟩:=hO.kj (k9 _) (by omega)
 rw [dk] at hO ⊢
 refine .seq (.ai (.z zm (.z zm (.z (cM au) (.z fN (.nil ?_))))))
 refine (.bJ rfl (fun hc9=>?_) (fun hc9=>?_))
 ·refine .skip ?_
  refine nT ?_
  refine .seq (.block ?_)
  refine .seq (.draw mix rfl hs ?_);intro w hs
  refine .z 0 rfl zm ?_;refine .z 1 rfl zm ?_
  obtain ⟨r,hx⟩:=nth (l:=rs) (k:=k) (by omega)
  have htk:=jz hx
  refine .ixX (enc:=Rdg.c) (i:=2) hs rfl (by kernel_rfl) .none hr rfl rfl au aE hx (by first|rfl|assumption|omega) ?_;intro b14 o14 hc14
  have d14:cellAt H b14 (o14+5)=some (I r.tape):=hc14 5 _ rfl
  refine .z 3 rfl (zfa dW) ?_;refine .y 4 rfl hs af ?_;refine .z 5 rfl zm ?_;refine .z 6 rfl zm ?_
  refine .ixX (enc:=Rdg.c) (i:=7) hs rfl (by kernel_rfl) .none hr rfl rfl au aE hx (by first|rfl|assumption|omega) ?_;intro b19 o19 hc19
  have d19:cellAt H b19 (o19+6)=some (I r.day):=hc19 6 _ rfl
  refine .z 8 rfl (zfa dV) ?_;refine .y 9 rfl hs af ?_;refine .z 10 rfl (zbd [_,_] fJ) ?_
  refine .e1 (i:=11) (by kernel_rfl) rfl rfl .none hs ?_
  refine .alloc hs ig rfl ?_;intro b5 w hs
  refine .go ?_
  refine .e1 (i:=12) (by kernel_rfl) rfl rfl .none hs ?_
  refine .aS (vs:=[_,_]) hs rfl rfl aP ?_;intro w hs
  refine .go ?_
  refine .done (by kernel_rfl) hs ?_
  refine .ai (.z zm (.y hs (zls [_,_] bV aP) ?_))
  refine .o (.call rp rfl (m8 (t:=r.td) (hs.sub (by repeat (first|exact Sub.refl _|constructor|apply Sub.weaken)):St H w (en:: .blk b5 [I r.tape,I r.day]::σ)) hO (by omega)) ?_);rintro _ w ⟨rfl,hs⟩
  have hnn:=jy (l:=aZ (rs.take k)) (t:=r.td)
  refine .z fN (.nil ?_)
  refine (.bJ rfl (fun hc26=>?_) (fun hc26=>?_))
  ·refine .region (.z zm (.y hs (zls [_,_] bV aP) ?_))
   refine .o (.buildSlice (cells:=[_,_]) hs fD rfl rfl ?_);intro b29 w hs
   refine .o (.append (ys:=r.td.c) hs dJ rfl rfl hO (.own .here rfl rfl) (by simp [TD.c,Value.oneCell']) (fun l h=>by rw [bZ _ (k9 _),dk] at h;omega) ?_);intro v30 en30 w hO2 hs
   refine .z zg (.nil ?_)
   refine nB (nT ?_)
   refine .region (.z zm (.z cA (.z zg (.nil ?_))))
   refine nT ?_
   have hn:r.td∉aZ (rs.take k):=fun hm=>by have:=hnn.2 hm;omega
   rw [←sa,show aZ (rs.take k)++[r.td]=aZ (rs.take (k+1)) by rw [htk];unfold qg;rw [if_neg hn]] at hO2
   exact ⟨(k+1,v30),.cq rfl (by simp) (by repeat (first|exact .nil rfl rfl|refine .cons rfl ?_)),⟨by dsimp only;omega,_,hO2,hs.sub (by repeat (first|exact Sub.refl _|constructor|apply Sub.weaken))⟩,by dsimp only;omega⟩
  ·refine .skip ?_
   refine nB (nT ?_)
   refine .region (.z zm (.z cA (.z zg (.nil ?_))))
   refine nT ?_
   have hm:r.td∈aZ (rs.take k):=hnn.1 (by omega)
   exact ⟨(k+1,_),.cq rfl (by simp) (by repeat (first|exact .nil rfl rfl|refine .cons rfl ?_)),⟨by dsimp only;omega,en,by dsimp only;rw [htk];unfold qg;rw [if_pos hm];exact hO,hs.sub (by repeat (first|exact Sub.refl _|constructor|apply Sub.weaken))⟩,by dsimp only;omega⟩
 ·refine .exit ?_
  refine xT (xT (xB (nT ?_)))
  refine .ai (.z zm (.z zg (.nil ?_)))
  refine .ret (Fin.bI Tryz.results94 rfl ?_)
  obtain rfl:k=rs.length:=by omega
  rw [List.take_length] at hO
  exact ⟨en,by rw [List.take_length];exact hO,hs⟩
set_option maxHeartbeats 2000000 in
theorem pA{H:bn}{w:World}{σ:List Ent}{s:Srv}{x:List Int}{vst vwa vr vc vx:Value}(hs:St H w σ)(h1:RI H vst s.sp.st)(h2:RI H vwa s.sp.wa)(h3:RRd H vr s.rs)(hc:∃a l c,vc= .slice a l c)(hx:RI H vx x)(hxl:x.length=s.sys.n)(hb:s.sp.st.length≤1000∧s.sp.wa.length≤1000∧s.rs.length≤1000):
  Cl Tryz.prog 144 [.agg #[I s.sp.id,I s.sp.src,vst,vwa,I s.sp.al,I s.sp.up,vr,vc],vx] w fun u w'=>∃H1 vr' vy e1 e2,HLe H H1∧u= .tuple #[.agg #[I s.sp.id,I s.sp.src,vst,vwa,I s.sp.al,I s.sp.up,vr',vc],vy]∧cu 7 vr' (rdc (gP s.sp s.rs)).flatten e1∧cu 1 vy (Is (keepX s x)) e2∧St H1 w' (e1::e2::σ):=by
 obtain ⟨ast,cst,rfl⟩:=RI.shape h1
 obtain ⟨awa,cwa,rfl⟩:=RI.shape h2
 obtain ⟨ar,cr,rfl⟩:=RRd.shape h3
 obtain ⟨ac,lc,cc,rfl⟩:=hc
 obtain ⟨ax,cx,rfl⟩:=RI.shape hx
 have hm:s.sp.many≤1000000:=Nat.mul_le_mul hb.1 hb.2.1
 have hn:=rC s
 have htl:=cF s.rs
 refine Cl.of Tryz.func144 rfl Tryz.ntmps144 (by simp) (aj (k:=0) rfl (aj (k:=1) rfl (bh))) ?_
 refine .ai ?_
 refine .o (.box hs rfl rfl ?_);intro b2 w hs
 refine .o (.alloc hs dy rfl ?_);intro b4 w hs
 refine .z zg (.nil (.ai (.z (zfa aJ) (.y hs (zld bp) ?_))))
 refine .o (.call lz rfl (eA (rs:=s.rs) hs h3 (by omega)) ?_);rintro v15 w ⟨H1,hle1,hT,hs⟩
 obtain ⟨at',ct,rfl⟩:=RTd.shape hT
 refine .z zg (.nil (.ai (.z (zfa aR) (.y hs (zls [_,_,_,_,_,_] aT aH) ?_))))
 refine .o (.call nQ rfl (dT (s:=s.sp) hs (h1.mono hle1) (h2.mono hle1) ⟨hb.1,hb.2.1⟩) ?_);rintro _ w ⟨rfl,hs⟩
 refine .z zg (.nil (.ai (.y hs (zls [_,_,_,_,_,_,_,_] aN aD) ?_)))
 refine .o (.alloc hs dy rfl ?_);intro b8 w hs
 refine .o (.aS (vs:=[_,_,_,_,_,_,_,_]) hs rfl rfl aD ?_);intro w hs
 refine .nil (.ai (.z (zfa aJ) ?_))
 refine .o (.store hs rfl rfl ji ?_);intro w hs
 refine .nil (.seq (.ai (.z zg (.nil (.block ?_)))))
 refine .loop (fun p:Nat×Value=>⟨78,[],[(9,I (p.1:Int)),(8,.pointer (some ⟨b8,0,none⟩)),(7,I (s.sp.many:Int)),(6,.slice at' (aZ s.rs).length ct),(4,.pointer (some ⟨b4,0,none⟩)),(2,.pointer (some ⟨b2,0,none⟩)),(1,.slice ax x.length cx)]⟩)
  (fun p w=>p.1≤s.rs.length∧∃en,cu 7 p.2 (rdc (gP s.sp (s.rs.take p.1))).flatten en∧St H1 w (en:: .blk b8 [I s.sp.id,I s.sp.src,.slice ast s.sp.st.length cst,.slice awa s.sp.wa.length cwa,I s.sp.al,I s.sp.up,p.2,.slice ac lc cc]:: .blk b4 [I 0,I 0,.slice none 0 0,.slice none 0 0,I 0,I 0,.slice none 0 0,.slice none 0 0]:: .blk b2 [I s.sp.id,I s.sp.src,.slice ast s.sp.st.length cst,.slice awa s.sp.wa.length cwa,I s.sp.al,I s.sp.up,.slice ar s.rs.length cr,.slice ac lc cc]::σ)) (fun p=>s.rs.length - p.1) (0,.slice none 0 0) (by repeat (first|exact .nil rfl rfl|refine .cons rfl ?_))
  ⟨Nat.zero_le _,_,.nil 7 none,hs.nul⟩ ?_
 clear hs
 rintro ⟨k,vo⟩ w ⟨hk,en,hO,hs⟩
 dsimp only at hk hO hs ⊢
 have hkl:=s9 s.sp (s.rs.take k)
 rw [List.length_take] at hkl
 obtain ⟨ao,lo,co,rfl,-⟩:=hO.shape
 refine .seq (.ai (.z zm (.z (zfa aJ) (.y hs (zld bp) (.z (cM au) (.z fN (.nil ?_)))))))
 refine (.bJ rfl (fun hc25=>?_) (fun hc25=>?_))
 ·refine .skip ?_
  refine nT ?_
  refine .seq (.block ?_)
  refine .seq (.draw mix rfl hs ?_);intro w hs
  refine .z 0 rfl (zfa aR) ?_;refine .ys 1 rfl hs [_,_,_,_,_,_] aT aH ?_;refine .z 2 rfl (zfa aJ) ?_;refine .y 3 rfl hs bp ?_;refine .z 4 rfl zm ?_
  obtain ⟨r,hr⟩:=nth (l:=s.rs) (k:=k) (by omega)
  have hsn:=zT s.sp hr
  refine .ixX (enc:=Rdg.c) (i:=5) hs rfl (by kernel_rfl) .none (h3.mono hle1) rfl rfl au aE hr (by first|rfl|assumption|omega) ?_;intro b33 o33 hc33
  refine .r (i:=6) hs rfl (by kernel_rfl) .none (cj (vs:=r.c) rfl du aE hc33) ?_
  refine .e1 (i:=7) (by kernel_rfl) rfl rfl .none hs ?_
  refine .call Tryz.call109 rfl (iL (s:=s.sp) (r:=r) hs (h1.mono hle1) (h2.mono hle1)) ?_;rintro _ w ⟨b35,rfl,hb35,hs⟩
  refine .go ?_
  refine .done (by kernel_rfl) hs ?_
  refine (.cond rfl (fun hc35=>?_) (fun hc35=>?_))
  ·refine .draw mix rfl hs ?_;intro w hs
   refine .z 0 rfl (zfa aJ) ?_;refine .y 1 rfl hs bp ?_;refine .z 2 rfl (zfa aJ) ?_;refine .y 3 rfl hs bp ?_;refine .z 4 rfl zm ?_
   refine .ixX (enc:=Rdg.c) (i:=5) hs rfl (by kernel_rfl) .none (h3.mono hle1) rfl rfl au aE hr (by first|rfl|assumption|omega) ?_;intro b41 o41 hc41
   refine .r (i:=6) hs rfl (by kernel_rfl) .none (cj (vs:=r.c) rfl du aE hc41) ?_
   refine .e1 (i:=7) (by kernel_rfl) rfl rfl .none hs ?_
   refine .buildSlice (cells:=r.c) hs eL rfl (by kernel_rfl) ?_;intro b43 w hs
   refine .go ?_
   refine .e1 (i:=8) (by kernel_rfl) rfl rfl .none hs ?_
   refine .append (ys:=r.c) hs cE rfl rfl hO (.own .here rfl rfl) (by simp [Rdg.c,Value.oneCell']) (fun l' h=>by rw [bZ _ (iH _),db] at h;omega) ?_;intro v44 en44 w hO2 hs
   rw [←pF,show gP s.sp (s.rs.take k)++[r]=gP s.sp (s.rs.take (k+1)) by rw [hsn,if_pos (hb35.1 (by simpa using hc35))]] at hO2
   obtain ⟨a44,l44,c44,rfl,-⟩:=hO2.shape
   refine .go ?_
   refine .z 9 rfl (zfa aJ) ?_
   refine .e1 (i:=10) (by kernel_rfl) rfl rfl .none hs ?_
   refine .store hs rfl rfl ji ?_;intro w hs
   refine .go ?_
   refine .done (by kernel_rfl) hs ?_
   refine nB (nT ?_)
   refine .region (.z zm (.z cA (.z zg (.nil ?_))))
   refine nT ?_
   exact ⟨(k+1,.slice a44 l44 c44),.cq rfl (by simp) (by repeat (first|exact .nil rfl rfl|refine .cons rfl ?_)),⟨by dsimp only;omega,_,hO2,hs.sub (by repeat (first|exact Sub.refl _|constructor|apply Sub.weaken))⟩,by dsimp only;omega⟩
  ·refine .skip ?_
   refine nB (nT ?_)
   refine .region (.z zm (.z cA (.z zg (.nil ?_))))
   refine nT ?_
   exact ⟨(k+1,.slice ao lo co),.cq rfl (by simp) (by repeat (first|exact .nil rfl rfl|refine .cons rfl ?_)),⟨by dsimp only;omega,en,by dsimp only;rw [hsn,if_neg (fun h=>by rw [hb35.2 h] at hc35;cases hc35)];exact hO,hs.sub (by repeat (first|exact Sub.refl _|constructor|apply Sub.weaken))⟩,by dsimp only;omega⟩
 ·refine .exit ?_
  refine xT (xT (xB (nT ?_)))
  refine .ai ?_
  obtain rfl:k=s.rs.length:=by omega
  rw [List.take_length] at hO
  refine .o (.buildSlice (cells:=[]) hs iD rfl rfl ?_);intro b46 w hs
  refine .z zm (.z zm (.z cA ?_))
  refine .q hs (jB (k:=s.sp.many+1) rfl rfl aa ae rfl (by have:=(RS.len hx).2.1;omega)) ?_
  refine .o (.append (xs:=[]) (ys:=Is (x.take (s.sp.many+1))) hs bP rfl rfl (.full (len:=0) rfl) (.ints (RI.head (hx.mono hle1) (k:=s.sp.many+1) (by omega))) (fL _) (fun l h=>by simp at h;rw [List.length_take];omega) ?_);intro v51 en51 w hO3 hs
  rw [List.nil_append] at hO3
  refine .z zg (.nil (.ai (.z (zfa aJ) (.y hs (zld bp) ?_))))
  have hkl:=s9 s.sp s.rs
  obtain ⟨H2,hle2,hRR,hs2,back⟩:=hO.yW (iH _) (by omega) (by rw [db];omega) (hs.sub (by repeat (first|exact Sub.refl _|constructor|apply Sub.weaken)):St H1 w (en::en51:: .blk b8 [I s.sp.id,I s.sp.src,.slice ast s.sp.st.length cst,.slice awa s.sp.wa.length cwa,I s.sp.al,I s.sp.up,.slice ao lo co,.slice ac lc cc]:: .blk b4 [I 0,I 0,.slice none 0 0,.slice none 0 0,I 0,I 0,.slice none 0 0,.slice none 0 0]:: .blk b2 [I s.sp.id,I s.sp.src,.slice ast s.sp.st.length cst,.slice awa s.sp.wa.length cwa,I s.sp.al,I s.sp.up,.slice ar s.rs.length cr,.slice ac lc cc]::σ))
  refine .o (.call lz rfl (sM (rs:=gP s.sp s.rs) hs2 hRR (by omega)) ?_);rintro v54 w ⟨enT,hOT,hsT⟩
  have hs:=back (HLe.refl _) hsT
  have htl':=cF (gP s.sp s.rs)
  obtain ⟨H3,hle3,hT3,hs⟩:=cu.cP (m:=2) (cs:=tdc (aZ (gP s.sp s.rs))) hOT (k9 _) (by omega) (by rw [dk];omega) hs (.there .here)
  have hT3:RTd H3 v54 (aZ (gP s.sp s.rs)):=hT3
  obtain ⟨a54,c54,rfl⟩:=RTd.shape hT3
  refine .z zg (.nil (.seq (.ai (.z zg (.nil (.block ?_))))))
  refine .loop (fun p:Nat×Value=>⟨78,[],[(12,I (p.1:Int)),(10,p.2),(11,.slice a54 (aZ (gP s.sp s.rs)).length c54),(8,.pointer (some ⟨b8,0,none⟩)),(7,I (s.sp.many:Int)),(6,.slice at' (aZ s.rs).length ct),(4,.pointer (some ⟨b4,0,none⟩)),(1,.slice ax x.length cx)]⟩)
   (fun p w=>p.1≤(aZ (gP s.sp s.rs)).length∧∃en2,cu 1 p.2 (Is (x.take (s.sp.many+1)++((aZ (gP s.sp s.rs)).take p.1).map (nu s x))) en2∧St H3 w (en2:: .blk b8 [I s.sp.id,I s.sp.src,.slice ast s.sp.st.length cst,.slice awa s.sp.wa.length cwa,I s.sp.al,I s.sp.up,.slice ao lo co,.slice ac lc cc]:: .blk b4 [I 0,I 0,.slice none 0 0,.slice none 0 0,I 0,I 0,.slice none 0 0,.slice none 0 0]::en::σ)) (fun p=>(aZ (gP s.sp s.rs)).length - p.1) (0,v51) (by repeat (first|exact .nil rfl rfl|refine .cons rfl ?_))
   ⟨Nat.zero_le _,en51,by simpa using hO3,hs.sub (by repeat (first|exact Sub.refl _|constructor|apply Sub.weaken))⟩ ?_
  clear hs
  rintro ⟨j,vy⟩ w ⟨hj,en2,hO4,hs⟩
  dsimp only at hj hO4 hs ⊢
  obtain ⟨ay,ly,cy,rfl,-⟩:=hO4.shape
  refine .seq (.ai (.z zm (.z zm (.z (cM aF) (.z fN (.nil ?_))))))
  refine (.bJ rfl (fun hc58=>?_) (fun hc58=>?_))
  ·refine .skip ?_
   refine nT ?_
   refine .seq (.block (.region (.z zm (.z zm (.z zm (.z cA (.z zm (.z zm (.z zm ?_)))))))))
   obtain ⟨t,ht⟩:=nth (l:=aZ (gP s.sp s.rs)) (k:=j) (by omega)
   have htm:t∈s.bu:=CO (List.mem_of_getElem? ht)
   obtain ⟨q,q1,q2,q3⟩:=fg htm
   have q3':q<(aZ s.rs).length:=q3
   have q1':gS (aZ s.rs) t=(q:Int):=q1
   have hnt:s.sys.n=s.sp.many+(aZ s.rs).length+1:=hn
   have herr:nu s x t=gi x (s.sp.many+1+q):=by unfold nu;rw [q1,Int.toNat_natCast]
   refine .ixX (enc:=TD.c) hs hT3 rfl rfl aF aP ht (by first|rfl|assumption|omega) ?_;intro b68 o68 hc68
   refine .q hs (cj (vs:=t.c) rfl bV aP hc68) ?_
   refine .o (.call rp rfl (ia (t:=t) hs (hT.mono hle3) (by omega)) ?_);rintro _ w ⟨rfl,hs⟩
   rw [q1']
   refine .z cA ?_
   refine .ixY hs (hx.mono (hle1.trans hle3)) rfl rfl aa ae (br (l:=x) (i:=s.sp.many+1+q) (by omega)) (by omega) ?_;intro b72 o72 hc72
   refine .q hs (aM rfl af hc72) ?_
   refine .o (.buildSlice (cells:=[_]) hs cV rfl rfl ?_);intro b74 w hs
   refine .o (.append (ys:=Is [gi x (s.sp.many+1+q)]) hs bP rfl rfl hO4 (.own .here rfl rfl) (fL _) (fun l' h=>by simp at h;omega) ?_);intro v75 en75 w hO5 hs
   rw [←List.map_append,List.append_assoc,←herr,show ((aZ (gP s.sp s.rs)).take j).map (nu s x)++[nu s x t]=((aZ (gP s.sp s.rs)).take (j+1)).map (nu s x) by rw [dK ht];simp] at hO5
   obtain ⟨a75,l75,c75,rfl,-⟩:=hO5.shape
   refine .z zg (.nil ?_)
   refine nB (nT ?_)
   refine .region (.z zm (.z cA (.z zg (.nil ?_))))
   refine nT ?_
   exact ⟨(j+1,.slice a75 l75 c75),.cq rfl (by simp) (by repeat (first|exact .nil rfl rfl|refine .cons rfl ?_)),⟨by dsimp only;omega,_,hO5,hs.sub (by repeat (first|exact Sub.refl _|constructor|apply Sub.weaken))⟩,by dsimp only;omega⟩
  ·refine .exit ?_
   refine xT (xT (xB (nT ?_)))
   refine .ai (.y hs (zls [_,_,_,_,_,_,_,_] aN aD) (.z zm ?_))
   refine .o (.aS (vs:=[_,_,_,_,_,_,_,_]) hs rfl rfl aD ?_);intro w hs
   refine .z zg (.nil ?_)
   refine .ret ?_
   obtain rfl:j=(aZ (gP s.sp s.rs)).length:=by omega
   rw [List.take_length] at hO4
   exact Fin.iG [] [] hs fun w hs=>⟨_,results2 Tryz.results144 (dH (vs:=[_,_,_,_,_,_,_,_]) hs rfl aN aD) rfl,H3,_,_,en,en2,hle1.trans hle3,rfl,hO,hO4,hs.sub (by repeat (first|exact Sub.refl _|constructor|apply Sub.weaken))⟩
theorem zS{s:Spc}{rs R:List Rdg}{cs:List Cmp}{x:List Int}(hf:gQ (Srv.nZ ⟨s,rs,cs⟩).di (gi x))(hx0:gi x 0=0)(hxl:x.length=s.many+(aZ rs).length+1)(ht:aZ R=aZ rs)(hS:∀r∈R,RdS s r)(hR:∀r∈R,By s (aZ rs) x r):
  Bz ⟨s,gP s R,cs⟩ (keepX ⟨s,R,cs⟩ x):=by
 have hl:(x.take (s.many+1)).length=s.many+1:=by rw [List.length_take];omega
 refine A4 (R:=R) (x:=x) List.filter_sublist hS hx0 (Bf hf ht hR) ?_ (fun b hb=>?_) fun j hj=>?_
 ·show (x.take (s.many+1)++(aZ (gP s R)).map (nu ⟨s,R,cs⟩ x)).length=_
  rw [List.length_append,hl,List.length_map]
 ·show gi (x.take (s.many+1)++(aZ (gP s R)).map (nu ⟨s,R,cs⟩ x)) b=_
  unfold gi
  simp only [List.getD]
  rw [List.getElem?_append_left (by omega),List.getElem?_take_of_lt (by omega)]
 ·show gi (x.take (s.many+1)++(aZ (gP s R)).map (nu ⟨s,R,cs⟩ x)) (s.many+1+j)=_
  have e:∀t,(aZ (gP s R))[j]? =some t→gi (x.take (s.many+1)++(aZ (gP s R)).map (nu ⟨s,R,cs⟩ x)) (s.many+1+j)=nu ⟨s,R,cs⟩ x t:=fun t ht=>by
   unfold gi
   simp only [List.getD]
   rw [List.getElem?_append_right (by omega),hl,show s.many+1+j - (s.many+1)=j by omega,List.getElem?_map,ht]
   rfl
  rw [e _ (DK hj)];rfl
set_option maxHeartbeats 2000000 in
theorem ud{H:bn}{w:World}{σ:List Ent}{vs v5 v4 vp:Value}{sl pk:List Int}{fs5:List F5}{fs4:List F4}{z1 z2 z3:Int}(hs:St H w σ)(g1:RI H vs sl)(g2:RF5 H v5 fs5)(g3:RF4 H v4 fs4)(g4:RI H vp pk):
  Cl Tryz.prog 60 [.agg #[vs,v5,v4,vp,I z1,I z2,I z3]] w fun u w'=>∃H1 s y vst vwa vr vc vy e1 e2 e3 e4 e5,HLe H H1∧u= .tuple #[.agg #[I s.sp.id,I s.sp.src,vst,vwa,I s.sp.al,I s.sp.up,vr,vc],vy]∧MadeV s∧Dr s vst vwa vr vc e1 e2 e3 e4∧cu 1 vy (Is y) e5∧Bz s y∧St H1 w' (e1::e2::e3::e4::e5::σ):=by
 obtain ⟨avs,cvs,rfl⟩:=RI.shape g1
 obtain ⟨av5,cv5,rfl⟩:=g2.shape
 obtain ⟨av4,cv4,rfl⟩:=g3.shape
 obtain ⟨avp,cvp,rfl⟩:=RI.shape g4
 refine Cl.of Tryz.func60 rfl Tryz.ntmps60 (by simp) (aj (k:=0) rfl (bh)) ?_
 refine .ai ?_
 refine .o (.box hs rfl rfl ?_);intro b1 w hs
 refine .o (.alloc hs dy rfl ?_);intro b2 w hs
 refine .z zg (.nil (.ai (.z (zfa nt) (.y hs (zld ak) ?_))))
 refine .o (.call Tryz.call35 rfl (oJ hs g1) ?_);rintro _ w ⟨s,vst,vwa,e1,e2,rfl,hSp,hO1,hO2,hs⟩
 have hSt:=hSp.st
 have hWa:=hSp.wa
 have hSt2:=hSp.ok.st.two
 have hWa2:=hSp.ok.wa.two
 obtain ⟨ast,lst,cst,rfl,hlst⟩:=hO1.shape
 obtain ⟨awa,lwa,cwa,rfl,hlwa⟩:=hO2.shape
 obtain rfl:s.st.length=lst:=by simpa [Is] using hlst
 obtain rfl:s.wa.length=lwa:=by simpa [Is] using hlwa
 refine .z (zbd [_,_,_,_,_,_,_,_] ox) ?_
 refine .o (.alloc hs dy rfl ?_);intro b4 w hs
 refine .o (.aS (vs:=[_,_,_,_,_,_,_,_]) hs rfl rfl aD ?_);intro w hs
 refine .nil (.ai (.z (zfa aR) (.y hs (zls [_,_,_,_,_,_] aT aH) ?_)))
 refine .o (.alloc hs fY rfl ?_);intro b5 w hs
 refine .o (.aS (vs:=[_,_,_,_,_,_]) hs rfl rfl aH ?_);intro w hs
 refine .nil ?_
 refine .cut (fun fs w=>∃rs e3 ar cr,kJ fs ⟨208,[],[(5,.pointer (some ⟨b5,0,none⟩)),(4,.pointer (some ⟨b4,0,none⟩)),(2,.pointer (some ⟨b2,0,none⟩)),(1,.pointer (some ⟨b1,0,none⟩))]⟩∧rs.length≤14∧rs.length≤fs5.length∧(∀r∈rs,jt s r)∧cu 7 (.slice ar rs.length cr) (rdc rs).flatten e3∧St H w (e3:: .blk b5 [I s.id,I s.src,.slice ast s.st.length cst,.slice awa s.wa.length cwa,I s.al,I s.up]:: .blk b4 [I s.id,I s.src,.slice ast s.st.length cst,.slice awa s.wa.length cwa,I s.al,I s.up,.slice ar rs.length cr,.slice none 0 0]::e1::e2:: .blk b2 [I 0,I 0,.slice none 0 0,.slice none 0 0,I 0,I 0,.slice none 0 0,.slice none 0 0]:: .blk b1 [.slice avs sl.length cvs,.slice av5 fs5.length cv5,.slice av4 fs4.length cv4,.slice avp pk.length cvp,I z1,I z2,I z3]::σ)) ?_ ?_
 ·refine .ai (.z zg (.nil (.block ?_)))
  refine .loop (fun p:List Rdg×Option Addr×Nat=>⟨208,[],[(6,I (p.1.length:Int)),(5,.pointer (some ⟨b5,0,none⟩)),(4,.pointer (some ⟨b4,0,none⟩)),(2,.pointer (some ⟨b2,0,none⟩)),(1,.pointer (some ⟨b1,0,none⟩))]⟩)
   (fun p w=>p.1.length≤14∧p.1.length≤fs5.length∧(∀r∈p.1,jt s r)∧∃e3,cu 7 (.slice p.2.1 p.1.length p.2.2) (rdc p.1).flatten e3∧
    St H w (e3:: .blk b5 [I s.id,I s.src,.slice ast s.st.length cst,.slice awa s.wa.length cwa,I s.al,I s.up]:: .blk b4 [I s.id,I s.src,.slice ast s.st.length cst,.slice awa s.wa.length cwa,I s.al,I s.up,.slice p.2.1 p.1.length p.2.2,.slice none 0 0]::e1::e2:: .blk b2 [I 0,I 0,.slice none 0 0,.slice none 0 0,I 0,I 0,.slice none 0 0,.slice none 0 0]:: .blk b1 [.slice avs sl.length cvs,.slice av5 fs5.length cv5,.slice av4 fs4.length cv4,.slice avp pk.length cvp,I z1,I z2,I z3]::σ)) (fun p=>14 - p.1.length) ([],none,0) (by repeat (first|exact .nil rfl rfl|refine .cons rfl ?_))
   ⟨by simp,by simp,by simp,_,.nil 7 none,(hs.sub (by repeat (first|exact Sub.refl _|constructor|apply Sub.weaken))).nul⟩ ?_
  clear hs
  rintro ⟨rs,ar,cr⟩ w ⟨hr14,hrf,hrok,e3,hO3,hs⟩
  dsimp only at hr14 hrf hrok hO3 hs ⊢
  refine .seq (.ai (.z zm (.z (zfa gC) (.y hs (zld Tryz.isAgg23) (.z (cM uW) (.z fN (.z zm ?_)))))))
  refine .iE (t':=31) rfl (fun hb31=>?_) (fun hb31=>?_)
  ·refine .gT rfl rfl ?_
   refine .z zm ?_
   refine .gT rfl rfl ?_
   refine .z fN (.z zpT (.nil ?_))
   refine (.bJ rfl (fun hc34=>?_) (fun hc34=>?_))
   ·refine .skip ?_
    refine nT ?_
    refine .seq (.block (.ai (.z (zfa gC) (.y hs (zld Tryz.isAgg23) (.z zm ?_)))))
    obtain ⟨n,hn⟩:=nth (l:=fs5) (k:=rs.length) (by omega)
    refine .ixX (enc:=F5.v) hs g2 rfl rfl uW lW hn (by first|rfl|assumption|omega) ?_;intro b40 o40 hc40
    refine .q hs (cj (vs:=n.v) rfl Tryz.isAgg106 lW hc40) ?_
    refine .o (.alloc hs Tryz.zeroValue106 rfl ?_);intro b7 w hs
    refine .o (.aS (vs:=[_,_,_,_,_]) hs rfl rfl lW ?_);intro w hs
    refine .nil ?_
    refine .seq (.draw mix rfl hs ?_);intro w hs
    first|refine .p (i:=0) rfl (by kernel_rfl) .none (dI (k:=4) rfl rfl cn ae rfl (by decide)) ?_|refine .p (i:=0) rfl (by kernel_rfl) .none (fb (k:=4) rfl rfl cn ae rfl (by decide)) ?_
    refine .y 1 rfl hs af ?_
    first|refine .p (i:=3) rfl (by kernel_rfl) .none (dI (k:=4) rfl rfl cn ae rfl (by decide)) ?_|refine .p (i:=3) rfl (by kernel_rfl) .none (fb (k:=4) rfl rfl cn ae rfl (by decide)) ?_
    refine .y 4 rfl hs af ?_;refine .z 5 rfl zquo ?_
    refine .e1 (i:=2) (by kernel_rfl) rfl rfl .none hs ?_
    refine .call cf rfl (bO hs (by omega)) ?_;rintro _ w ⟨k44,g44,rfl,hs⟩
    refine .go ?_
    refine .e1 (i:=6) (by kernel_rfl) rfl rfl .none hs ?_
    refine .call cf rfl (bO hs (by omega)) ?_;rintro _ w ⟨k48,g48,rfl,hs⟩
    have m49:0≤(k44:Int)*(k48:Int)∧(k44:Int)*(k48:Int)≤39:=by
     have e1:k48=0∨k48=1:=by omega
     rcases e1 with rfl|rfl<;>simp<;>omega
    refine .go ?_
    refine .z 7 rfl j7 ?_;refine .z 8 rfl zg ?_;refine .done (by kernel_rfl) hs ?_
    refine .draw mix rfl hs ?_;intro w hs
    refine .z 0 rfl (zfa aJ) ?_;refine .y 1 rfl hs bp ?_;refine .z 2 rfl zm ?_;refine .z 3 rfl cA ?_
    first|refine .p (i:=4) rfl (by kernel_rfl) .none (dI (k:=0) rfl rfl cn ae rfl (by decide)) ?_|refine .p (i:=4) rfl (by kernel_rfl) .none (fb (k:=0) rfl rfl cn ae rfl (by decide)) ?_
    refine .y 5 rfl hs af ?_;refine .z 6 rfl (zfa bA) ?_;refine .y 7 rfl hs ak ?_;refine .z 8 rfl (cM aa) ?_
    first|refine .p (i:=10) rfl (by kernel_rfl) .none (dI (k:=1) rfl rfl cn ae rfl (by decide)) ?_|refine .p (i:=10) rfl (by kernel_rfl) .none (fb (k:=1) rfl rfl cn ae rfl (by decide)) ?_
    refine .y 11 rfl hs af ?_;refine .z 12 rfl (zfa bg) ?_;refine .y 13 rfl hs ak ?_;refine .z 14 rfl (cM aa) ?_;refine .z 16 rfl zm ?_
    first|refine .p (i:=17) rfl (by kernel_rfl) .none (dI (k:=2) rfl rfl cn ae rfl (by decide)) ?_|refine .p (i:=17) rfl (by kernel_rfl) .none (fb (k:=2) rfl rfl cn ae rfl (by decide)) ?_
    refine .y 18 rfl hs af ?_
    first|refine .p (i:=21) rfl (by kernel_rfl) .none (dI (k:=3) rfl rfl cn ae rfl (by decide)) ?_|refine .p (i:=21) rfl (by kernel_rfl) .none (fb (k:=3) rfl rfl cn ae rfl (by decide)) ?_
    refine .y 22 rfl hs af ?_
    refine .e1 (i:=9) (by kernel_rfl) rfl rfl .none hs ?_
    refine .call cf rfl (bO hs (by omega)) ?_;rintro _ w ⟨k59,g59,rfl,hs⟩
    refine .go ?_
    refine .e1 (i:=15) (by kernel_rfl) rfl rfl .none hs ?_
    refine .call cf rfl (bO hs (by omega)) ?_;rintro _ w ⟨k65,g65,rfl,hs⟩
    refine .go ?_
    refine .e1 (i:=19) (by kernel_rfl) rfl rfl .none hs ?_
    refine .call cf rfl (bO hs (by omega)) ?_;rintro _ w ⟨k69,g69,rfl,hs⟩
    refine .go ?_
    refine .z 20 rfl cA ?_
    refine .e1 (i:=23) (by kernel_rfl) rfl rfl .none hs ?_
    refine .call cf rfl (bO hs (by omega)) ?_;rintro _ w ⟨k73,g73,rfl,hs⟩
    obtain ⟨r,hr⟩:∃r:Rdg,r=⟨10+(rs.length:Int),(k59:Int),(k65:Int),0,(k44:Int)*(k48:Int),1+(k69:Int),(k73:Int)⟩:=⟨_,rfl⟩
    have hrOk:jt s r:=by subst hr;exact ⟨by dsimp only;omega,by dsimp only;omega,by dsimp only;omega,by dsimp only;omega,by dsimp only;omega,by dsimp only;omega,by dsimp only;omega⟩
    refine .go ?_
    refine .z 24 rfl (zbd [_,_,_,_,_,_,_] eX) ?_
    refine .e1 (i:=25) (by kernel_rfl) rfl rfl .none hs ?_
    refine .buildSlice (cells:=r.c) hs eL rfl (by subst hr;kernel_rfl) ?_;intro b75 w hs
    refine .go ?_
    refine .e1 (i:=26) (by kernel_rfl) rfl rfl .none hs ?_
    refine .append (ys:=r.c) hs cE rfl rfl hO3 (.own .here rfl rfl) (by simp [Rdg.c,Value.oneCell']) (fun l' h=>by rw [bZ _ (iH _),db] at h;omega) ?_;intro v76 en76 w hO4 hs
    rw [←pF] at hO4
    obtain ⟨a76,c76,rfl⟩:=hO4.kj (iH _) (by omega)
    rw [db] at hO4 ⊢
    refine .go ?_
    refine .z 27 rfl (zfa aJ) ?_
    refine .e1 (i:=28) (by kernel_rfl) rfl rfl .none hs ?_
    refine .store hs rfl rfl ji ?_;intro w hs
    refine .go ?_
    refine .done (by kernel_rfl) hs ?_
    refine nB (nT ?_)
    refine .region (.z zm (.z cA (.z zg (.nil ?_))))
    refine nT ?_
    exact ⟨(rs++[r],a76,c76),.cq rfl (by simp) (by repeat (first|exact .nil rfl rfl|refine .cons rfl ?_)),⟨by simp;omega,by simp;omega,fun q hq=>by
      simp only [List.mem_append,List.mem_singleton] at hq
      rcases hq with hq|rfl
      ·exact hrok q hq
      ·exact hrOk,_,hO4,hs.sub (by repeat (first|exact Sub.refl _|constructor|apply Sub.weaken))⟩,by simp;omega⟩
   ·refine .exit ?_
    refine xT (xT (xB (nT ?_)))
    exact ⟨rs,e3,ar,cr,by repeat (first|exact .nil rfl rfl|refine .cons rfl ?_),hr14,hrf,hrok,hO3,hs⟩
  ·refine .gFs 2 5 true rfl rfl rfl ?_
   refine .z zpF (.nil ?_)
   refine (.mj rfl (by first|rfl|exact decide_eq_false (by assumption)) ?_)
   refine .exit ?_
   refine xT (xT (xB (nT ?_)))
   exact ⟨rs,e3,ar,cr,by repeat (first|exact .nil rfl rfl|refine .cons rfl ?_),hr14,hrf,hrok,hO3,hs⟩
 ·clear hs
  rintro fs w ⟨rs,e3,ar,cr,hfs,hr14,hrf,hrok,hO3,hs⟩
  refine WE.sub ?_ hfs
  clear hfs
  refine .cut (fun fs w=>∃cs e4 ac cc,kJ fs ⟨208,[],[(5,.pointer (some ⟨b5,0,none⟩)),(4,.pointer (some ⟨b4,0,none⟩)),(2,.pointer (some ⟨b2,0,none⟩)),(1,.pointer (some ⟨b1,0,none⟩))]⟩∧cs.length≤5∧(∀c∈cs,pa c)∧(Srv.nZ ⟨s,rs,cs⟩).Sound∧cu 6 (.slice ac cs.length cc) (cmc cs).flatten e4∧St H w (e1::e2::e3::e4:: .blk b5 [I s.id,I s.src,.slice ast s.st.length cst,.slice awa s.wa.length cwa,I s.al,I s.up]:: .blk b4 [I s.id,I s.src,.slice ast s.st.length cst,.slice awa s.wa.length cwa,I s.al,I s.up,.slice ar rs.length cr,.slice ac cs.length cc]:: .blk b2 [I 0,I 0,.slice none 0 0,.slice none 0 0,I 0,I 0,.slice none 0 0,.slice none 0 0]:: .blk b1 [.slice avs sl.length cvs,.slice av5 fs5.length cv5,.slice av4 fs4.length cv4,.slice avp pk.length cvp,I z1,I z2,I z3]::σ)) ?_ ?_
  ·refine .ai (.z zg (.nil (.block ?_)))
   refine .loop (fun p:Nat×List Cmp×Option Addr×Nat=>⟨208,[],[(9,I (p.1:Int)),(5,.pointer (some ⟨b5,0,none⟩)),(4,.pointer (some ⟨b4,0,none⟩)),(2,.pointer (some ⟨b2,0,none⟩)),(1,.pointer (some ⟨b1,0,none⟩))]⟩)
    (fun p w=>p.1≤5∧p.1≤fs4.length∧p.2.1.length≤p.1∧(∀c∈p.2.1,pa c)∧(Srv.nZ ⟨s,rs,p.2.1⟩).Sound∧∃e4,cu 6 (.slice p.2.2.1 p.2.1.length p.2.2.2) (cmc p.2.1).flatten e4∧
     St H w (e1::e2::e3::e4:: .blk b5 [I s.id,I s.src,.slice ast s.st.length cst,.slice awa s.wa.length cwa,I s.al,I s.up]:: .blk b4 [I s.id,I s.src,.slice ast s.st.length cst,.slice awa s.wa.length cwa,I s.al,I s.up,.slice ar rs.length cr,.slice p.2.2.1 p.2.1.length p.2.2.2]:: .blk b2 [I 0,I 0,.slice none 0 0,.slice none 0 0,I 0,I 0,.slice none 0 0,.slice none 0 0]:: .blk b1 [.slice avs sl.length cvs,.slice av5 fs5.length cv5,.slice av4 fs4.length cv4,.slice avp pk.length cvp,I z1,I z2,I z3]::σ)) (fun p=>5 - p.1) (0,[],none,0) (by repeat (first|exact .nil rfl rfl|refine .cons rfl ?_))
    ⟨by simp,by simp,by simp,by simp,Bg (vE hSp.ok hSt hWa hr14 (by simp) hrok (by simp)) rfl,.nul,.nil 6 none,(hs.nul).sub (by repeat (first|exact Sub.refl _|constructor|apply Sub.weaken))⟩ ?_
   clear hs
   rintro ⟨k,cs,ac,cc⟩ w ⟨hk5,hkf,hck,hcok,hsd,e4,hO4,hs⟩
   dsimp only at hk5 hkf hck hcok hsd hO4 hs ⊢
   refine .seq (.ai (.z zm (.z (zfa jI) (.y hs (zld Tryz.isAgg24) (.z (cM Tryz.runUnderlying24) (.z fN (.z zm ?_)))))))
   refine .iE (t':=83) rfl (fun hb83=>?_) (fun hb83=>?_)
   ·refine .gT rfl rfl ?_
    refine .z zm ?_
    refine .gT rfl rfl ?_
    refine .z fN (.z zpT (.nil ?_))
    refine (.bJ rfl (fun hc86=>?_) (fun hc86=>?_))
    ·refine .skip ?_
     refine nT ?_
     refine .seq (.block (.ai (.z (zfa jI) (.y hs (zld Tryz.isAgg24) (.z zm ?_)))))
     obtain ⟨n,hn⟩:=nth (l:=fs4) (k:=k) (by omega)
     refine .ixX (enc:=F4.v) hs g3 rfl rfl Tryz.runUnderlying24 Dt hn (by first|rfl|assumption|omega) ?_;intro b92 o92 hc92
     refine .q hs (cj (vs:=n.v) rfl Tryz.isAgg199 Dt hc92) ?_
     refine .o (.alloc hs Tryz.zeroValue199 rfl ?_);intro b10 w hs
     refine .o (.aS (vs:=[_,_,_,_]) hs rfl rfl Dt ?_);intro w hs
     refine .nil (.ai ?_)
     first|refine .q hs (dI (k:=1) rfl rfl dt ae rfl (by decide)) ?_|refine .q hs (fb (k:=1) rfl rfl dt ae rfl (by decide)) ?_
     refine .y hs (zld af) ?_
     refine .o (.call cf rfl (bO hs (by omega)) ?_);rintro _ w ⟨k96,g96,rfl,hs⟩
     refine .z gM (.z zg (.nil (.ai ?_)))
     first|refine .q hs (dI (k:=3) rfl rfl dt ae rfl (by decide)) ?_|refine .q hs (fb (k:=3) rfl rfl dt ae rfl (by decide)) ?_
     refine .y hs (zld af) ?_
     refine .o (.call cf rfl (bO hs (by omega)) ?_);rintro _ w ⟨k100,g100,rfl,hs⟩
     refine .z zg (.nil ?_)
     refine .seq (.draw mix rfl hs ?_);intro w hs
     refine .z 0 rfl (zfa bT) ?_;refine .y 1 rfl hs dD ?_;refine .z 2 rfl zm ?_;refine .z 3 rfl cA ?_
     first|refine .p (i:=4) rfl (by kernel_rfl) .none (dI (k:=0) rfl rfl dt ae rfl (by decide)) ?_|refine .p (i:=4) rfl (by kernel_rfl) .none (fb (k:=0) rfl rfl dt ae rfl (by decide)) ?_
     refine .y 5 rfl hs af ?_;refine .z 8 rfl zm ?_;refine .z 9 rfl zm ?_
     first|refine .p (i:=10) rfl (by kernel_rfl) .none (dI (k:=3) rfl rfl dt ae rfl (by decide)) ?_|refine .p (i:=10) rfl (by kernel_rfl) .none (fb (k:=3) rfl rfl dt ae rfl (by decide)) ?_
     refine .y 11 rfl hs af ?_;refine .z 12 rfl zquo ?_;refine .z 15 rfl zm ?_;refine .z 16 rfl zm ?_
     first|refine .p (i:=17) rfl (by kernel_rfl) .none (dI (k:=2) rfl rfl dt ae rfl (by decide)) ?_|refine .p (i:=17) rfl (by kernel_rfl) .none (fb (k:=2) rfl rfl dt ae rfl (by decide)) ?_
     refine .y 18 rfl hs af ?_
     refine .e1 (i:=6) (by kernel_rfl) rfl rfl .none hs ?_
     refine .call cf rfl (bO hs (by omega)) ?_;rintro _ w ⟨k107,g107,rfl,hs⟩
     refine .go ?_
     refine .z 7 rfl cA ?_
     refine .e1 (i:=13) (by kernel_rfl) rfl rfl .none hs ?_
     refine .call cf rfl (bO hs (by omega)) ?_;rintro _ w ⟨k114,g114,rfl,hs⟩
     refine .go ?_
     refine .z 14 rfl cA ?_
     refine .e1 (i:=19) (by kernel_rfl) rfl rfl .none hs ?_
     refine .call cf rfl (bO hs (by omega)) ?_;rintro _ w ⟨k120,g120,rfl,hs⟩
     obtain ⟨c,hc⟩:∃c:Cmp,c=⟨30+(k:Int),1+(k107:Int),(k100:Int),(k100:Int)+(k114:Int),(k96:Int) - 40,(k96:Int) - 40+(k120:Int)⟩:=⟨_,rfl⟩
     have hcOk:pa c:=by subst hc;exact ⟨by dsimp only;omega,by dsimp only;omega,by dsimp only;omega,by dsimp only;omega,by dsimp only;omega,by dsimp only;omega⟩
     refine .go ?_
     refine .z 20 rfl cA ?_;refine .z 21 rfl (zbd [_,_,_,_,_,_] nx) ?_
     refine .e1 (i:=22) (by kernel_rfl) rfl rfl .none hs ?_
     refine .buildSlice (cells:=c.c) hs j6 rfl (by subst hc;kernel_rfl) ?_;intro b123 w hs
     refine .go ?_
     refine .e1 (i:=23) (by kernel_rfl) rfl rfl .none hs ?_
     refine .append (ys:=c.c) hs jL rfl rfl hO4 (.own .here rfl rfl) (by simp [Cmp.c,Value.oneCell']) (fun l' h=>by rw [bZ _ (qQ _),ff] at h;omega) ?_;intro v124 en124 w hO5 hs
     rw [←zp] at hO5
     obtain ⟨a124,c124,rfl⟩:=hO5.kj (qQ _) (by omega)
     rw [ff] at hO5 ⊢
     have hcl:(cs++[c]).length=cs.length+1:=by simp
     have hcok':∀d∈cs++[c],pa d:=fun d hd=>by
      simp only [List.mem_append,List.mem_singleton] at hd
      rcases hd with hd|rfl
      ·exact hcok d hd
      ·exact hcOk
     have hsok:eM ⟨s,rs,cs++[c]⟩:=vE hSp.ok hSt hWa hr14 (by omega) hrok hcok'
     refine .go ?_
     refine .z 24 rfl (zfa bT) ?_
     refine .e1 (i:=25) (by kernel_rfl) rfl rfl .none hs ?_
     refine .store hs rfl rfl xE ?_;intro w hs
     refine .go ?_
     refine .done (by kernel_rfl) hs ?_
     refine .ai (.y hs (zls [_,_,_,_,_,_,_,_] aN aD) ?_)
     obtain ⟨Hx,hlex,r1,r2,r3,r4,hs2,back⟩:=Dr.yW (s:=⟨s,rs,cs++[c]⟩) ⟨hO1,hO2,hO3,hO5⟩ (by show s.st.length≤_;omega) (by show s.wa.length≤_;omega) (by show rs.length≤_;omega) (by show (cs++[c]).length≤_;omega) (hs.sub (by repeat (first|exact Sub.refl _|constructor|apply Sub.weaken)):St H w (e1::e2::e3::en124:: .blk b5 [I s.id,I s.src,.slice ast s.st.length cst,.slice awa s.wa.length cwa,I s.al,I s.up]:: .blk b4 [I s.id,I s.src,.slice ast s.st.length cst,.slice awa s.wa.length cwa,I s.al,I s.up,.slice ar rs.length cr,.slice a124 (cs++[c]).length c124]:: .blk b2 [I 0,I 0,.slice none 0 0,.slice none 0 0,I 0,I 0,.slice none 0 0,.slice none 0 0]:: .blk b1 [.slice avs sl.length cvs,.slice av5 fs5.length cv5,.slice av4 fs4.length cv4,.slice avp pk.length cvp,I z1,I z2,I z3]::σ))
     refine .o (.call Tryz.call142 rfl (sO (s:=⟨s,rs,cs++[c]⟩) hs2 r1 r2 r3 r4 hsok.early (yg hsok)) ?_);rintro _ w ⟨Hy,b127,hley,rfl,hb127,hs3⟩
     have hs:=back hley hs3
     clear hs2 hs3 back
     refine .nil ?_
     refine (.cond rfl (fun hc127=>?_) (fun hc127=>?_))
     ·refine .region (.z (zfa bT) (.y hs (zld dD) (.z (zfa bT) (.y hs (zld dD) (.z (cM aV) (.z gM ?_))))))
      refine .q hs (jB (k:=cs.length) rfl rfl aV bX (by omega) (by have:=hO5.le;omega)) ?_
      refine .z (zfa bT) ?_
      refine .o (.store hs rfl rfl xE ?_);intro w hs
      refine .nil ?_
      refine nB (nT ?_)
      refine .region (.z zm (.z cA (.z zg (.nil ?_))))
      refine nT ?_
      exact ⟨(k+1,cs,a124,c124),.cq rfl (by simp) (by repeat (first|exact .nil rfl rfl|refine .cons rfl ?_)),⟨by dsimp only;omega,by dsimp only;omega,by dsimp only;omega,hcok,hsd,_,hO5.Ea,hs.sub (by repeat (first|exact Sub.refl _|constructor|apply Sub.weaken))⟩,by dsimp only;omega⟩
     ·refine .skip ?_
      refine nB (nT ?_)
      refine .region (.z zm (.z cA (.z zg (.nil ?_))))
      refine nT ?_
      exact ⟨(k+1,cs++[c],a124,c124),.cq rfl (by simp) (by repeat (first|exact .nil rfl rfl|refine .cons rfl ?_)),⟨by dsimp only;omega,by dsimp only;omega,by dsimp only;omega,hcok',hb127 (by simpa using hc127),_,hO5,hs.sub (by repeat (first|exact Sub.refl _|constructor|apply Sub.weaken))⟩,by dsimp only;omega⟩
    ·refine .exit ?_
     refine xT (xT (xB (nT ?_)))
     exact ⟨cs,e4,ac,cc,by repeat (first|exact .nil rfl rfl|refine .cons rfl ?_),by omega,hcok,hsd,hO4,hs⟩
   ·refine .gFs 2 5 true rfl rfl rfl ?_
    refine .z zpF (.nil ?_)
    refine (.mj rfl (by first|rfl|exact decide_eq_false (by assumption)) ?_)
    refine .exit ?_
    refine xT (xT (xB (nT ?_)))
    exact ⟨cs,e4,ac,cc,by repeat (first|exact .nil rfl rfl|refine .cons rfl ?_),by omega,hcok,hsd,hO4,hs⟩
  ·clear hs
   rintro fs w ⟨cs,e4,ac,cc,hfs,hc5,hcok,hsd,hO4,hs⟩
   refine WE.sub ?_ hfs
   clear hfs
   have hsok:eM ⟨s,rs,cs⟩:=vE hSp.ok hSt hWa hr14 hc5 hrok hcok
   refine .ai (.y hs (zls [_,_,_,_,_,_,_,_] aN aD) (.z (zfa ns) (.y hs (zld ak) ?_)))
   obtain ⟨Hx,hlex,r1,r2,r3,r4,hs2,back⟩:=Dr.yW (s:=⟨s,rs,cs⟩) ⟨hO1,hO2,hO3,hO4⟩ (by show s.st.length≤_;omega) (by show s.wa.length≤_;omega) (by show rs.length≤_;omega) (by show cs.length≤_;omega) hs
   refine .o (.call Tryz.call143 rfl (sN (s:=⟨s,rs,cs⟩) hs2 r1 r2 r3 r4 (g4.mono hlex) hsok.early ⟨yg hsok,hsd⟩) ?_);rintro v139 w ⟨Hy,x,ex,hley,hOx,hP,hs3⟩
   have hs:=back hley hs3
   clear hs2 hs3 back r1 r2 r3 r4
   obtain ⟨hxl,hx0,hxb,hfe⟩:=hP.Bi (yg hsok) hsd
   have hsm:=hsok.many
   have hfn:(Srv.nZ ⟨s,rs,cs⟩).n=s.many+(aZ rs).length+1:=rC ⟨s,rs,cs⟩
   have hxl:x.length=s.many+(aZ rs).length+1:=by rw [hxl];exact hfn
   rw [hfn] at hxb
   have hsm:s.many+(aZ rs).length≤64:=hsm
   obtain ⟨Hz,hlez,hX,hs⟩:=cu.df hOx (by omega) hs (by repeat constructor)
   obtain ⟨ax,cx,rfl⟩:=RI.shape hX
   refine .z zg (.nil (.seq (.ai (.z zg (.nil (.block ?_))))))
   refine .loop (fun p:Nat×List Rdg=>⟨208,[],[(14,I (p.1:Int)),(13,.slice ax x.length cx),(5,.pointer (some ⟨b5,0,none⟩)),(4,.pointer (some ⟨b4,0,none⟩)),(2,.pointer (some ⟨b2,0,none⟩)),(1,.pointer (some ⟨b1,0,none⟩))]⟩)
    (fun p w=>p.1≤rs.length∧p.2.length=rs.length∧aZ p.2=aZ rs∧(∀r∈p.2,RdS s r)∧(∀j<p.1,∀r,p.2[j]? =some r→By s (aZ rs) x r)∧∃e3,cu 7 (.slice ar rs.length cr) (rdc p.2).flatten e3∧
     St Hz w (e1::e2::e3::e4:: .blk b5 [I s.id,I s.src,.slice ast s.st.length cst,.slice awa s.wa.length cwa,I s.al,I s.up]:: .blk b4 [I s.id,I s.src,.slice ast s.st.length cst,.slice awa s.wa.length cwa,I s.al,I s.up,.slice ar rs.length cr,.slice ac cs.length cc]:: .blk b2 [I 0,I 0,.slice none 0 0,.slice none 0 0,I 0,I 0,.slice none 0 0,.slice none 0 0]:: .blk b1 [.slice avs sl.length cvs,.slice av5 fs5.length cv5,.slice av4 fs4.length cv4,.slice avp pk.length cvp,I z1,I z2,I z3]::σ)) (fun p=>rs.length - p.1) (0,rs) (by repeat (first|exact .nil rfl rfl|refine .cons rfl ?_))
    ⟨by simp,rfl,rfl,fun r hr=>⟨(hrok r hr).st,(hrok r hr).wa,(hrok r hr).tol⟩,fun j hj=>by omega,e3,hO3,hs⟩ ?_
   clear hs hO3
   rintro ⟨k,R⟩ w ⟨hk,hRl,hRt,hRs,hRv,e3,hO3,hs⟩
   dsimp only at hk hRl hRt hRs hRv hO3 hs ⊢
   refine .seq (.ai (.z zm (.z (zfa aJ) (.y hs (zld bp) (.z (cM au) (.z fN (.nil ?_)))))))
   refine (.bJ rfl (fun hc144=>?_) (fun hc144=>?_))
   ·refine .skip ?_
    refine nT ?_
    refine .seq (.block (.ai (.z (zfa gC) (.y hs (zld Tryz.isAgg23) (.z zm ?_)))))
    obtain ⟨n,hn⟩:=nth (l:=fs5) (k:=k) (by omega)
    obtain ⟨r,hr⟩:=nth (l:=R) (k:=k) (by omega)
    have hrS:=hRs r (List.mem_of_getElem? hr)
    obtain ⟨u,hu1,hu2⟩:=hrS.u
    have hrst:=hrS.st
    have hrwa:=hrS.wa
    have hrtol:=hrS.tol
    have hmem:r.td∈aZ R:=fR.2 ⟨r,List.mem_of_getElem? hr,rfl⟩
    obtain ⟨q,q1,q2,q3⟩:=fg hmem
    rw [hRt] at q3
    have hb1:=hxb u (by omega)
    have hb2:=hxb (s.many+1+q) (by omega)
    obtain ⟨bo,co,sp,hv,rfl,hcap⟩:=hO3.Eo (iH _) (by omega) (by rw [db];omega)
    simp only [Value.slice.injEq] at hv
    obtain ⟨rfl,hv2,rfl⟩:=hv
    obtain ⟨Hx,hlex,r1,r2,r3,r4,hs2,back⟩:=Dr.yW (s:=⟨s,R,cs⟩) ⟨hO1,hO2,hO3,hO4⟩ (by show s.st.length≤_;omega) (by show s.wa.length≤_;omega) (by show R.length≤_;omega) (by show cs.length≤_;omega) hs
    clear hs
    have hs:=hs2
    clear hs2
    refine .ixX (enc:=F5.v) hs (g2.mono (hlez.trans hlex)) rfl rfl uW lW hn (by first|rfl|assumption|omega) ?_;intro b150 o150 hc150
    refine .q hs (cj (vs:=n.v) rfl Tryz.isAgg106 lW hc150) ?_
    refine .o (.alloc hs Tryz.zeroValue106 rfl ?_);intro b15 w hs
    refine .o (.aS (vs:=[_,_,_,_,_]) hs rfl rfl lW ?_);intro w hs
    refine .nil (.ai (.z (zfa aJ) (.y hs (zld bp) (.z zm ?_))))
    refine .ixX (enc:=Rdg.c) hs r3 rfl rfl au aE hr (by first|rfl|assumption|omega) ?_;intro b155 o155 hc155
    refine .q hs (cj (vs:=r.c) rfl du aE hc155) ?_
    refine .o (.alloc hs dS rfl ?_);intro b16 w hs
    refine .o (.aS (vs:=[_,_,_,_,_,_,_]) hs rfl rfl aE ?_);intro w hs
    refine .nil (.ai (.y hs (zls [_,_,_,_,_,_] aT aH) (.z (zfa eD) (.y hs (zld af) (.z (zfa eC) (.y hs (zld af) ?_))))))
    refine .o (.call gn rfl (da (s:=s) hs r2 (by omega) (by omega) (by omega)) ?_);rintro _ w ⟨rfl,hs⟩
    rw [hu1]
    refine .z zg (.nil ?_)
    refine .seq (.draw mix rfl hs ?_);intro w hs
    refine .ys 0 rfl hs [_,_,_,_,_,_] aT aH ?_;refine .z 3 rfl (zfa aJ) ?_;refine .y 4 rfl hs bp ?_;refine .z 6 rfl (zfa dW) ?_;refine .y 7 rfl hs af ?_;refine .z 8 rfl (zfa dV) ?_;refine .y 9 rfl hs af ?_;refine .z 10 rfl (zbd [_,_] fJ) ?_
    refine .e1 (i:=1) (by kernel_rfl) rfl rfl .none hs ?_
    refine .call nQ rfl (dT (s:=s) hs r1 r2 ⟨by omega,by omega⟩) ?_;rintro _ w ⟨rfl,hs⟩
    refine .go ?_
    refine .z 2 rfl cA ?_
    refine .e1 (i:=5) (by kernel_rfl) rfl rfl .none hs ?_
    refine .call lz rfl (eA (rs:=R) hs r3 (by omega)) ?_;rintro v168 w ⟨Hw,hlew,hT,hs⟩
    refine .go ?_
    refine .e1 (i:=11) (by kernel_rfl) rfl rfl .none hs ?_
    refine .call rp rfl (ia (t:=r.td) hs hT (by rw [hRt];omega)) ?_;rintro _ w ⟨rfl,hs⟩
    rw [q1]
    refine .go ?_
    refine .z 12 rfl cA ?_;refine .z 13 rfl zg ?_;refine .done (by kernel_rfl) hs ?_
    refine .seq (.draw mix rfl hs ?_);intro w hs
    first|refine .p (i:=0) rfl (by kernel_rfl) .none (dI (k:=4) rfl rfl cn ae rfl (by decide)) ?_|refine .p (i:=0) rfl (by kernel_rfl) .none (fb (k:=4) rfl rfl cn ae rfl (by decide)) ?_
    refine .y 1 rfl hs af ?_;refine .z 2 rfl zquo ?_;refine .z 3 rfl (zfa ck) ?_;refine .y 4 rfl hs af ?_;refine .z 5 rfl j7 ?_;refine .z 6 rfl cA ?_;refine .z 8 rfl (zfa ck) ?_;refine .y 9 rfl hs af ?_
    refine .e1 (i:=7) (by kernel_rfl) rfl rfl .none hs ?_
    refine .call cf rfl (bO hs (by omega)) ?_;rintro _ w ⟨k183,g183,rfl,hs⟩
    refine .go ?_
    refine .z 10 rfl gM ?_;refine .z 11 rfl zg ?_;refine .done (by kernel_rfl) hs ?_
    refine .draw mix rfl hs ?_;intro w hs
    refine .z 0 rfl (zfa aJ) ?_;refine .y 1 rfl hs bp ?_;refine .z 2 rfl zm ?_;refine .z 3 rfl zm ?_;refine .z 4 rfl zm ?_
    have hs:=back hlew hs
    refine .ixX (enc:=fun x=>[I x]) (i:=5) hs rfl (by kernel_rfl) .none hX rfl rfl aa ae (br (l:=x) (i:=u) (by omega)) rfl ?_;intro b192 o192 hc192;replace hc192:=bG.one hc192
    refine .r (i:=6) hs rfl (by kernel_rfl) .none (aM rfl af hc192) ?_
    refine .z 7 rfl zm ?_;refine .z 8 rfl zm ?_
    refine .ixX (enc:=fun x=>[I x]) (i:=9) hs rfl (by kernel_rfl) .none hX rfl rfl aa ae (br (l:=x) (i:=s.many+1+q) (by omega)) (by push_cast;rfl) ?_;intro b196 o196 hc196;replace hc196:=bG.one hc196
    refine .r (i:=10) hs rfl (by kernel_rfl) .none (aM rfl af hc196) ?_
    refine .z 11 rfl gM ?_;refine .z 12 rfl zm ?_;refine .z 13 rfl cA ?_
    first|(refine .ixw 14 rfl hs au aE ?_;intro b201 o201 hc201)|refine .z 14 rfl (nR au aE) ?_
    refine .z 15 rfl (zfa cK) ?_
    refine .e1 (i:=16) (by kernel_rfl) rfl rfl .none hs ?_
    refine .store (c':=(rdc (R.set k {r with val:=gi x u - gi x (s.many+1+q)+((k183:Int) - r.tol)})).flatten++sp) hs rfl rfl ae ?_ (by repeat constructor) (Nat.ble_eq_true_of_le (by rw [List.length_append,bZ _ (iH _),db];omega)) (xW hr sp _);intro w hs
    refine .go ?_
    refine .done (by kernel_rfl) hs ?_
    refine nB (nT ?_)
    refine .region (.z zm (.z cA (.z zg (.nil ?_))))
    refine nT ?_
    exact ⟨(k+1,R.set k {r with val:=gi x u - gi x (s.many+1+q)+((k183:Int) - r.tol)}),.cq rfl (by simp) (by repeat (first|exact .nil rfl rfl|refine .cons rfl ?_)),⟨by dsimp only;omega,by dsimp only;rw [List.length_set];exact hRl,by dsimp only;rw [wM hr];exact hRt,fun y hy=>by
      rcases List.mem_or_eq_of_mem_set hy with h|h
      ·exact hRs y h
      ·subst h;exact ⟨hrst,hrwa,hrtol⟩,fun j hj y hy=>by
      dsimp only at hj hy
      by_cases e:j=k
      ·subst e
       rw [List.getElem?_set_self (by omega)] at hy
       obtain rfl:=Option.some.inj hy
       have q1':gS (aZ rs) r.td=q:=by rw [←hRt];exact q1
       unfold By
       show gi x (1+r.st*s.wa.length+r.wa).toNat - gi x (s.many+1+gS (aZ rs) r.td).toNat - r.tol≤_∧_≤gi x (1+r.st*s.wa.length+r.wa).toNat - gi x (s.many+1+gS (aZ rs) r.td).toNat+r.tol
       rw [hu1,q1',show ((s.many:Int)+1+(q:Int)).toNat=s.many+1+q by omega,Int.toNat_natCast]
       dsimp only
       omega
      ·rw [List.getElem?_set_ne (by omega)] at hy
       exact hRv j (by omega) y hy,_,Cy hO3 _,hs.sub (by repeat (first|exact Sub.refl _|constructor|apply Sub.weaken))⟩,by dsimp only;omega⟩
   ·refine .exit ?_
    refine xT (xT (xB (nT ?_)))
    refine .ai (.y hs (zls [_,_,_,_,_,_,_,_] aN aD) (.z zm ?_))
    obtain rfl:k=rs.length:=by omega
    obtain ⟨Hx,hlex,r1,r2,r3,r4,hs2,back⟩:=Dr.yW (s:=⟨s,R,cs⟩) ⟨hO1,hO2,hO3,hO4⟩ (by show s.st.length≤_;omega) (by show s.wa.length≤_;omega) (by show R.length≤_;omega) (by show cs.length≤_;omega) hs
    refine .o (.call Tryz.call144 rfl (pA (s:=⟨s,R,cs⟩) (x:=x) hs2 r1 r2 r3 ⟨_,_,_,rfl⟩ (hX.mono hlex) (by rw [rC];show _=s.many+(aZ R).length+1;rw [hRt];exact hxl) ⟨by show s.st.length≤_;omega,by show s.wa.length≤_;omega,by show R.length≤_;omega⟩) ?_);rintro _ w ⟨Hy,vr',vy,er,ey,hley,rfl,hOr,hOy,hs3⟩
    have hs:=back hley hs3
    clear hs2 hs3 back r1 r2 r3 r4
    have hkl:=s9 s R
    obtain ⟨arr,crr,rfl⟩:=hOr.kj (iH _) (by omega)
    obtain ⟨ayy,lyy,cyy,rfl,-⟩:=hOy.shape
    refine .z zex (.z zex ?_)
    refine .o (.aS (vs:=[_,_,_,_,_,_,_,_]) hs rfl rfl aD ?_);intro w hs
    refine .z zg (.nil ?_)
    refine .ret ?_
    exact Fin.iG [] [] hs fun w hs=>⟨_,results2 Tryz.results60 (dH (vs:=[_,_,_,_,_,_,_,_]) hs rfl aN aD) rfl,Hz,⟨s,gP s R,cs⟩,_,_,_,_,_,_,e1,e2,er,e4,ey,hlez,rfl,
     ⟨hSt,hWa,by show (gP s R).length≤14;omega,hc5,vE hSp.ok hSt hWa (by omega) hc5 (fun r h=>(xd h).2) hcok⟩,⟨hO1,hO2,hOr,hO4⟩,hOy,zS hfe hx0 hxl hRt hRs (fun r hr=>by
      obtain ⟨j,hj⟩:=List.getElem?_of_mem hr
      have:=(List.getElem?_eq_some_iff.1 hj).1
      exact hRv j (by omega) r hj),hs.sub (by repeat (first|exact Sub.refl _|constructor|apply Sub.weaken))⟩
end Go.Proofs.YtddaejgfjlneoaaGreat
