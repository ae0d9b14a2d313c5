/-
  Texts of these claims, joined: Zj Zk Zl Zm Zn Zo Zp Zq Zr Zt Zv Zw Zx Zy Zz Na Nb.
-/
import Derived.Test.YtddaejgfjlneoaaGreatFd
namespace Go.Proofs.YtddaejgfjlneoaaGreat
open Go.MW
variable{H:cf}{w:World}{σ:List Ent}
theorem vK(s:Spc)(i k:Nat):1+(i:Int)*(s.wa.length:Int)+(k:Int)=(s.u i k:Int):=by
 unfold Spc.u;rw [Int.natCast_add,Int.natCast_add,Int.natCast_mul];rfl
theorem EU(s:Spc)(i k:Nat):1+((i:Int)+1)*(s.wa.length:Int)+(k:Int)=(s.u (i+1) k:Int):=by
 rw [←vK];rfl
theorem ES(s:Spc)(i k:Nat):1+(i:Int)*(s.wa.length:Int)+((k:Int)+1)=(s.u i (k+1):Int):=by
 rw [←vK];rfl
theorem lg{f:Nat→Nat→List Lim}(hf:∀i k,(f i k).length≤2)(i:Nat):∀k,(l9 f i k).length≤2*k
 |0=>by simp [l9]
 |k+1=>by have:=lg hf i k;have:=hf i k;simp only [l9,List.length_append];omega
theorem l7{f:Nat→Nat→List Lim}(hf:∀i k,(f i k).length≤2){m n:Nat}(hm:m≤7)(hn:n≤9)(h0:0<m):(eO f m n).length≤126:=by
 have h1:=hZ hf (n:=n) h0
 have:n*m≤9*7:=Nat.mul_le_mul hn hm
 omega
theorem EB{s:Spc}(h0:0<s.st.length):eO (alL s) s.wa.length s.st.length=eO (alL s) s.wa.length (s.st.length - 1):=by
 obtain ⟨n,hn⟩:∃n,s.st.length=n+1:=⟨s.st.length - 1,aj⟩
 have key:∀k,l9 (alL s) n k=[]:=by
  intro k
  induction k with
  |zero=>rfl
  |succ k ih=>simp only [l9];rw [ih];unfold alL;rw [if_neg aj];rfl
 rw [hn,Nat.add_sub_cancel]
 simp only [eO]
 rw [key,List.append_nil]
theorem DW{s:Spc}(i:Nat)(h0:0<s.wa.length):l9 (upL s) i s.wa.length=l9 (upL s) i (s.wa.length - 1):=by
 obtain ⟨n,hn⟩:∃n,s.wa.length=n+1:=⟨s.wa.length - 1,aj⟩
 have e:upL s i n=[]:=by unfold upL;rw [if_neg aj]
 rw [hn,Nat.add_sub_cancel]
 simp only [l9]
 rw [e,List.append_nil]
set_option maxHeartbeats 4000000 in
theorem mI{s:Srv}{vst vwa vr vc:Value}(hs:St H w σ)(h1:RI H vst s.sp.st)(h2:RI H vwa s.sp.wa)(h3:RRd H vr s.rs)(h4:RCm H vc s.cs)(he:s.early):
  Cl Tryz.prog 111 [.agg #[I s.sp.id,I s.sp.src,vst,vwa,I s.sp.al,I s.sp.up,vr,vc]] w fun u w'=>∃H1 en,HLe H H1∧cn 4 u (gI s.cO) en∧St H1 w' (en::σ):=by
 obtain ⟨ast,cst,rfl⟩:=RI.shape h1
 obtain ⟨awa,cwa,rfl⟩:=RI.shape h2
 obtain ⟨ar,cr,rfl⟩:=RRd.shape h3
 obtain ⟨ac,cc,rfl⟩:=RCm.shape h4
 obtain ⟨hok,hrl,hcl,hrs,hcs⟩:=he
 have hsm:=fk hok
 have hn1:=hok.st.many
 have hn2:=hok.wa.many
 have hn3:=hok.st.two
 have hn4:=hok.wa.two
 have ha:=l7 (ox s.sp) (m:=s.sp.wa.length) (n:=s.sp.st.length) aj aj aj
 have hb:=l7 (rR s.sp) (m:=s.sp.wa.length) (n:=s.sp.st.length) aj aj aj
 have hc:=l7 (q8 s.sp) (m:=s.sp.wa.length) (n:=s.sp.st.length) aj aj aj
 have hal:=hok.al
 have hup:=hok.up
 refine Cl.o Tryz.func111 Tryz.ntmps111 ag1 ?_
 refine .ai ?_
 refine .bx hs fun b1 w hs=>?_
 refine .z zg (.nil (.ai (.z (zfa aS) (.y hs (zls [_,_,_,_,_,_] aQ aI) ?_))))
 refine .o (.alloc hs jx rfl fun b3 w hs=>?_)
 refine .o (.aU (vs:=[_,_,_,_,_,_]) hs rfl rfl aI fun w hs=>?_)
 refine .nil (.ai (.z zg (.nil (.seq (.ai (.z zg (.nil (.block ?_))))))))
 refine .loop (fun p:Nat×Value=>⟨243,[],[(5,I (p.1:Int)),(4,p.2),(3,.pointer (some ⟨b3,0,none⟩)),(1,.pointer (some ⟨b1,0,none⟩))]⟩)
  (fun p w=>p.1≤s.sp.st.length∧∃en,cn 4 p.2 (gI (eO (qV s.sp) s.sp.wa.length p.1)) en∧St H w (en:: .blk b3 [I s.sp.id,I s.sp.src,.slice ast s.sp.st.length cst,.slice awa s.sp.wa.length cwa,I s.sp.al,I s.sp.up]:: .blk b1 [I s.sp.id,I s.sp.src,.slice ast s.sp.st.length cst,.slice awa s.sp.wa.length cwa,I s.sp.al,I s.sp.up,.slice ar s.rs.length cr,.slice ac s.cs.length cc]::σ)) (fun p=>s.sp.st.length - p.1) (0,.slice none 0 0) aR
  ⟨by first|omega|exact Nat.zero_le _,_,.nil 4 none,hs.nul⟩ ?_
 rintro ⟨i,vo⟩ w ⟨hi,en,hO,hs⟩
 dsimp only at hi hO ⊢
 refine .seq (.ai (.z zm (.z (zfa bA) (.y hs (zld ak) (.z (c9 aa) (.z gx (.nil ?_)))))))
 refine (.bM rfl (fun hc27=>?_) (fun hc27=>?_))
 ·refine .skip ?_
  refine nT ?_
  refine .seq (.block (.ai (.z zg (.nil (.block ?_)))))
  refine .loop (fun p:Nat×Value=>⟨243,[],[(6,I (p.1:Int)),(4,p.2),(5,I (i:Int)),(3,.pointer (some ⟨b3,0,none⟩)),(1,.pointer (some ⟨b1,0,none⟩))]⟩)
   (fun p w=>p.1≤s.sp.wa.length∧∃en,cn 4 p.2 (gI (eO (qV s.sp) s.sp.wa.length i++l9 (qV s.sp) i p.1)) en∧St H w (en:: .blk b3 [I s.sp.id,I s.sp.src,.slice ast s.sp.st.length cst,.slice awa s.sp.wa.length cwa,I s.sp.al,I s.sp.up]:: .blk b1 [I s.sp.id,I s.sp.src,.slice ast s.sp.st.length cst,.slice awa s.sp.wa.length cwa,I s.sp.al,I s.sp.up,.slice ar s.rs.length cr,.slice ac s.cs.length cc]::σ)) (fun p=>s.sp.wa.length - p.1) (0,vo) aR
   ⟨by first|omega|exact Nat.zero_le _,en,by show cn 4 vo (gI (_++[])) en;rw [List.append_nil];exact hO,hs⟩ ?_
  clear hO hs
  rintro ⟨k,vo⟩ w ⟨hk,en,hO,hs⟩
  dsimp only at hk hO ⊢
  have hl1:=l7 (ox s.sp) (m:=s.sp.wa.length) (n:=i) aj aj aj
  have hl2:=lg (ox s.sp) i k
  refine .seq (.ai (.z zm (.z (zfa bj) (.y hs (zld ak) (.z (c9 aa) (.z gx (.nil ?_)))))))
  refine (.bM rfl (fun hc34=>?_) (fun hc34=>?_))
  ·refine .skip ?_
   refine nT ?_
   refine .seq (.block (.ai (.y hs (zls [_,_,_,_,_,_] aQ aI) (.z zm (.z zm ?_)))))
   refine .o (.call iS rfl (dm (s:=s.sp) hs h2 aj ⟨aj,aj⟩ ⟨aj,aj⟩) ?_);rintro _ w ⟨rfl,hs⟩
   rw [vK]
   refine .z zg (.nil (.region (.z zm (.z zm (.z (zfa dB) (.y hs (zld ae) (.z (zbd [_,_,_,_] eR) (.z zm (.z (zfa dB) ?_)))))))))
   refine .y hs (zld ae) (.z (zbd [_,_,_,_] eR) ?_)
   refine .o (.buildSlice (cells:=gI (qV s.sp i k)) hs fO rfl an fun b50 w hs=>?_)
   refine .o (.append (ys:=gI (qV s.sp i k)) hs bZ rfl rfl hO (.own .here rfl rfl) (j7 _) (fun l h=>by rw [dM,List.length_append] at h;omega) ?_);intro v51 en51 w hO2 hs
   rw [←gH,List.append_assoc] at hO2
   refine .z zg (.nil ?_)
   refine nB (nT ?_)
   refine .region (.z zm (.z cq (.z zg (.nil ?_))))
   refine nT ?_
   exact ⟨(k+1,v51),.cj rfl bV aR,⟨by dsimp only;omega,_,hO2,hs.sb⟩,by dsimp only;omega⟩
  ·refine .exit ?_
   refine xT (xT (xB (nB (nT ?_))))
   refine .region (.z zm (.z cq (.z zg (.nil ?_))))
   refine nT ?_
   obtain rfl:k=s.sp.wa.length:=by omega
   exact ⟨(i+1,_),.cj rfl bV aR,⟨by dsimp only;omega,en,hO,hs⟩,by dsimp only;omega⟩
 ·refine .exit ?_
  refine xT (xT (xB (nT ?_)))
  refine .seq (.ai (.z zg (.nil (.block ?_))))
  refine .loop (fun p:Nat×Value=>⟨243,[],[(8,I (p.1:Int)),(4,p.2),(3,.pointer (some ⟨b3,0,none⟩)),(1,.pointer (some ⟨b1,0,none⟩))]⟩)
   (fun p w=>p.1+1≤s.sp.st.length∧∃en,cn 4 p.2 (gI (eO (qV s.sp) s.sp.wa.length s.sp.st.length++eO (alL s.sp) s.sp.wa.length p.1)) en∧St H w (en:: .blk b3 [I s.sp.id,I s.sp.src,.slice ast s.sp.st.length cst,.slice awa s.sp.wa.length cwa,I s.sp.al,I s.sp.up]:: .blk b1 [I s.sp.id,I s.sp.src,.slice ast s.sp.st.length cst,.slice awa s.sp.wa.length cwa,I s.sp.al,I s.sp.up,.slice ar s.rs.length cr,.slice ac s.cs.length cc]::σ)) (fun p=>s.sp.st.length - p.1) (0,vo) aR
   ⟨by first|omega|exact Nat.zero_le _,en,by show cn 4 vo (gI (_++[])) en;rw [List.append_nil,←show i=s.sp.st.length by omega];exact hO,hs⟩ ?_
  clear hO hs
  rintro ⟨i,vo⟩ w ⟨hi,en,hO,hs⟩
  dsimp only at hi hO ⊢
  refine .seq (.ai (.z zm (.z cq (.z (zfa bA) (.y hs (zld ak) (.z (c9 aa) (.z gx (.nil ?_))))))))
  refine (.bM rfl (fun hc57=>?_) (fun hc57=>?_))
  ·refine .skip ?_
   refine nT ?_
   refine .seq (.block (.ai (.z zg (.nil (.block ?_)))))
   refine .loop (fun p:Nat×Value=>⟨243,[],[(9,I (p.1:Int)),(4,p.2),(8,I (i:Int)),(3,.pointer (some ⟨b3,0,none⟩)),(1,.pointer (some ⟨b1,0,none⟩))]⟩)
    (fun p w=>p.1≤s.sp.wa.length∧∃en,cn 4 p.2 (gI (eO (qV s.sp) s.sp.wa.length s.sp.st.length++eO (alL s.sp) s.sp.wa.length i++l9 (alL s.sp) i p.1)) en∧St H w (en:: .blk b3 [I s.sp.id,I s.sp.src,.slice ast s.sp.st.length cst,.slice awa s.sp.wa.length cwa,I s.sp.al,I s.sp.up]:: .blk b1 [I s.sp.id,I s.sp.src,.slice ast s.sp.st.length cst,.slice awa s.sp.wa.length cwa,I s.sp.al,I s.sp.up,.slice ar s.rs.length cr,.slice ac s.cs.length cc]::σ)) (fun p=>s.sp.wa.length - p.1) (0,vo) aR
    ⟨by first|omega|exact Nat.zero_le _,en,by show cn 4 vo (gI (_++[])) en;rw [List.append_nil];exact hO,hs⟩ ?_
   clear hO hs
   rintro ⟨k,vo⟩ w ⟨hk,en,hO,hs⟩
   dsimp only at hk hO ⊢
   have hl1:=l7 (rR s.sp) (m:=s.sp.wa.length) (n:=i) aj aj aj
   have hl2:=lg (rR s.sp) i k
   refine .seq (.ai (.z zm (.z (zfa bj) (.y hs (zld ak) (.z (c9 aa) (.z gx (.nil ?_)))))))
   refine (.bM rfl (fun hc64=>?_) (fun hc64=>?_))
   ·refine .skip ?_
    refine nT ?_
    refine .seq (.block ?_)
    refine .draw mix rfl hs fun w hs=>?_
    refine .z 0 rfl zm ?_;refine .ys 1 rfl hs [_,_,_,_,_,_] aQ aI ?_;refine .z 2 rfl zm ?_;refine .z 3 rfl zm ?_;refine .ys 5 rfl hs [_,_,_,_,_,_] aQ aI ?_;refine .z 6 rfl zm ?_;refine .z 7 rfl cq ?_;refine .z 8 rfl zm ?_;refine .z 10 rfl (zfa ed) ?_;refine .z 11 rfl (zfa jr) ?_
    refine .y 12 rfl hs ae ?_;refine .z 13 rfl (zfa bA) ?_;refine .y 14 rfl hs ak ?_;refine .z 15 rfl zm ?_;refine .z 16 rfl cq ?_
    have hris:=hok.st.rise i aj
    have hq0:=hok.st.bd (i:=i) aj
    have hq1:=hok.st.bd (i:=i+1) aj
    refine .ixX (enc:=fun x=>[I x]) (i:=17) hs rfl an .none h1 rfl rfl aa af (bL (l:=s.sp.st) (i:=(i+1)) aj) dy ?_;intro b84 o84 hc84;replace hc84:=bB.one hc84
    refine .r (i:=18) hs rfl an .none (aK rfl ae hc84) ?_
    refine .z 19 rfl (zfa bA) ?_;refine .y 20 rfl hs ak ?_;refine .z 21 rfl zm ?_
    refine .ixX (enc:=fun x=>[I x]) (i:=22) hs rfl an .none h1 rfl rfl aa af (bL (l:=s.sp.st) (i:=i) aj) dy ?_;intro b89 o89 hc89;replace hc89:=bB.one hc89
    refine .r (i:=23) hs rfl an .none (aK rfl ae hc89) ?_
    refine .z 24 rfl gW ?_;refine .z 26 rfl (zfa dB) ?_;refine .y 27 rfl hs ae ?_
    refine .E 4 hs ?_
    refine .call iS rfl (dm (s:=s.sp) hs h2 aj ⟨aj,aj⟩ ⟨aj,aj⟩) ?_;rintro _ w ⟨rfl,hs⟩
    rw [vK]
    refine .go ?_
    refine .E 9 hs ?_
    refine .call iS rfl (dm (s:=s.sp) hs h2 aj ⟨aj,aj⟩ ⟨aj,aj⟩) ?_;rintro _ w ⟨rfl,hs⟩
    rw [EU]
    refine .go ?_
    refine .E 25 hs ?_
    refine .call Tryz.call193 rfl (lW hs aj aj) ?_;rintro _ w ⟨rfl,hs⟩
    refine .go ?_
    refine .E 28 hs ?_
    refine .call Tryz.call119 rfl (kI hs) ?_;rintro _ w ⟨b95,rfl,hs⟩
    rw [show two (s.sp.u i k:Int) _ _ _ _=alL s.sp i k by unfold alL;rw [if_pos aj]] at hs
    refine .go ?_
    refine .E 29 hs ?_
    refine .append (ys:=gI (alL s.sp i k)) hs bZ rfl rfl hO (.own .here bV (by rw [dM];unfold alL;rw [if_pos aj];rfl)) (j7 _) (fun l h=>by rw [dM] at h;simp only [List.length_append] at h;omega) ?_;intro v96 en96 w hO2 hs
    rw [←gH,List.append_assoc _ (l9 _ _ _)] at hO2
    refine .go ?_
    refine .z 30 rfl zg ?_;refine .D hs ?_
    refine nB (nT ?_)
    refine .region (.z zm (.z cq (.z zg (.nil ?_))))
    refine nT ?_
    exact ⟨(k+1,v96),.cj rfl bV aR,⟨by dsimp only;omega,_,hO2,hs.sb⟩,by dsimp only;omega⟩
   ·refine .exit ?_
    refine xT (xT (xB (nB (nT ?_))))
    refine .region (.z zm (.z cq (.z zg (.nil ?_))))
    refine nT ?_
    obtain rfl:k=s.sp.wa.length:=by omega
    rw [List.append_assoc] at hO
    exact ⟨(i+1,_),.cj rfl bV aR,⟨by dsimp only;omega,en,hO,hs⟩,by dsimp only;omega⟩
  ·refine .exit ?_
   refine xT (xT (xB (nT ?_)))
   refine .seq (.ai (.z zg (.nil (.block ?_))))
   refine .loop (fun p:Nat×Value=>⟨243,[],[(10,I (p.1:Int)),(4,p.2),(3,.pointer (some ⟨b3,0,none⟩)),(1,.pointer (some ⟨b1,0,none⟩))]⟩)
    (fun p w=>p.1≤s.sp.st.length∧∃en,cn 4 p.2 (gI (eO (qV s.sp) s.sp.wa.length s.sp.st.length++eO (alL s.sp) s.sp.wa.length s.sp.st.length++eO (upL s.sp) s.sp.wa.length p.1)) en∧St H w (en:: .blk b3 [I s.sp.id,I s.sp.src,.slice ast s.sp.st.length cst,.slice awa s.sp.wa.length cwa,I s.sp.al,I s.sp.up]:: .blk b1 [I s.sp.id,I s.sp.src,.slice ast s.sp.st.length cst,.slice awa s.sp.wa.length cwa,I s.sp.al,I s.sp.up,.slice ar s.rs.length cr,.slice ac s.cs.length cc]::σ)) (fun p=>s.sp.st.length - p.1) (0,vo) aR
    ⟨by first|omega|exact Nat.zero_le _,en,by show cn 4 vo (gI (_++[])) en;rw [List.append_nil,EB aj,←show i=s.sp.st.length - 1 by omega];exact hO,hs⟩ ?_
   clear hO hs
   rintro ⟨i,vo⟩ w ⟨hi,en,hO,hs⟩
   dsimp only at hi hO ⊢
   refine .seq (.ai (.z zm (.z (zfa bA) (.y hs (zld ak) (.z (c9 aa) (.z gx (.nil ?_)))))))
   refine (.bM rfl (fun hc101=>?_) (fun hc101=>?_))
   ·refine .skip ?_
    refine nT ?_
    refine .seq (.block (.ai (.z zg (.nil (.block ?_)))))
    refine .loop (fun p:Nat×Value=>⟨243,[],[(11,I (p.1:Int)),(4,p.2),(10,I (i:Int)),(3,.pointer (some ⟨b3,0,none⟩)),(1,.pointer (some ⟨b1,0,none⟩))]⟩)
     (fun p w=>p.1+1≤s.sp.wa.length∧∃en,cn 4 p.2 (gI (eO (qV s.sp) s.sp.wa.length s.sp.st.length++eO (alL s.sp) s.sp.wa.length s.sp.st.length++eO (upL s.sp) s.sp.wa.length i++l9 (upL s.sp) i p.1)) en∧St H w (en:: .blk b3 [I s.sp.id,I s.sp.src,.slice ast s.sp.st.length cst,.slice awa s.sp.wa.length cwa,I s.sp.al,I s.sp.up]:: .blk b1 [I s.sp.id,I s.sp.src,.slice ast s.sp.st.length cst,.slice awa s.sp.wa.length cwa,I s.sp.al,I s.sp.up,.slice ar s.rs.length cr,.slice ac s.cs.length cc]::σ)) (fun p=>s.sp.wa.length - p.1) (0,vo) aR
     ⟨by first|omega|exact Nat.zero_le _,en,by show cn 4 vo (gI (_++[])) en;rw [List.append_nil];exact hO,hs⟩ ?_
    clear hO hs
    rintro ⟨k,vo⟩ w ⟨hk,en,hO,hs⟩
    dsimp only at hk hO ⊢
    have hl1:=l7 (q8 s.sp) (m:=s.sp.wa.length) (n:=i) aj aj aj
    have hl2:=lg (q8 s.sp) i k
    refine .seq (.ai (.z zm (.z cq (.z (zfa bj) (.y hs (zld ak) (.z (c9 aa) (.z gx (.nil ?_))))))))
    refine (.bM rfl (fun hc109=>?_) (fun hc109=>?_))
    ·refine .skip ?_
     refine nT ?_
     refine .seq (.block ?_)
     refine .draw mix rfl hs fun w hs=>?_
     refine .z 0 rfl zm ?_;refine .ys 1 rfl hs [_,_,_,_,_,_] aQ aI ?_;refine .z 2 rfl zm ?_;refine .z 3 rfl zm ?_;refine .ys 5 rfl hs [_,_,_,_,_,_] aQ aI ?_;refine .z 6 rfl zm ?_;refine .z 7 rfl zm ?_;refine .z 8 rfl cq ?_;refine .z 10 rfl (zfa ed) ?_;refine .z 11 rfl (zfa jq) ?_
     refine .y 12 rfl hs ae ?_;refine .z 13 rfl (zfa bj) ?_;refine .y 14 rfl hs ak ?_;refine .z 15 rfl zm ?_;refine .z 16 rfl cq ?_
     have hris:=hok.wa.rise k aj
     have hq0:=hok.wa.bd (i:=k) aj
     have hq1:=hok.wa.bd (i:=k+1) aj
     refine .ixX (enc:=fun x=>[I x]) (i:=17) hs rfl an .none h2 rfl rfl aa af (bL (l:=s.sp.wa) (i:=(k+1)) aj) dy ?_;intro b129 o129 hc129;replace hc129:=bB.one hc129
     refine .r (i:=18) hs rfl an .none (aK rfl ae hc129) ?_
     refine .z 19 rfl (zfa bj) ?_;refine .y 20 rfl hs ak ?_;refine .z 21 rfl zm ?_
     refine .ixX (enc:=fun x=>[I x]) (i:=22) hs rfl an .none h2 rfl rfl aa af (bL (l:=s.sp.wa) (i:=k) aj) dy ?_;intro b134 o134 hc134;replace hc134:=bB.one hc134
     refine .r (i:=23) hs rfl an .none (aK rfl ae hc134) ?_
     refine .z 24 rfl gW ?_;refine .z 26 rfl (zfa dB) ?_;refine .y 27 rfl hs ae ?_
     refine .E 4 hs ?_
     refine .call iS rfl (dm (s:=s.sp) hs h2 aj ⟨aj,aj⟩ ⟨aj,aj⟩) ?_;rintro _ w ⟨rfl,hs⟩
     rw [vK]
     refine .go ?_
     refine .E 9 hs ?_
     refine .call iS rfl (dm (s:=s.sp) hs h2 aj ⟨aj,aj⟩ ⟨aj,aj⟩) ?_;rintro _ w ⟨rfl,hs⟩
     rw [ES]
     refine .go ?_
     refine .E 25 hs ?_
     refine .call Tryz.call193 rfl (lW hs aj aj) ?_;rintro _ w ⟨rfl,hs⟩
     refine .go ?_
     refine .E 28 hs ?_
     refine .call Tryz.call119 rfl (kI hs) ?_;rintro _ w ⟨b140,rfl,hs⟩
     rw [show two (s.sp.u i k:Int) _ _ _ _=upL s.sp i k by unfold upL;rw [if_pos aj]] at hs
     refine .go ?_
     refine .E 29 hs ?_
     refine .append (ys:=gI (upL s.sp i k)) hs bZ rfl rfl hO (.own .here bV (by rw [dM];unfold upL;rw [if_pos aj];rfl)) (j7 _) (fun l h=>by rw [dM] at h;simp only [List.length_append] at h;omega) ?_;intro v141 en141 w hO2 hs
     rw [←gH,List.append_assoc _ (l9 _ _ _)] at hO2
     refine .go ?_
     refine .z 30 rfl zg ?_;refine .D hs ?_
     refine nB (nT ?_)
     refine .region (.z zm (.z cq (.z zg (.nil ?_))))
     refine nT ?_
     exact ⟨(k+1,v141),.cj rfl bV aR,⟨by dsimp only;omega,_,hO2,hs.sb⟩,by dsimp only;omega⟩
    ·refine .exit ?_
     refine xT (xT (xB (nB (nT ?_))))
     refine .region (.z zm (.z cq (.z zg (.nil ?_))))
     refine nT ?_
     obtain rfl:k=s.sp.wa.length - 1:=by omega
     rw [List.append_assoc,←DW i aj] at hO
     exact ⟨(i+1,_),.cj rfl bV aR,⟨by dsimp only;omega,en,hO,hs⟩,by dsimp only;omega⟩
   ·refine .exit ?_
    refine xT (xT (xB (nT ?_)))
    refine .ai (.z (zfa aN) (.y hs (zld bu) ?_))
    obtain rfl:i=s.sp.st.length:=by omega
    refine .o (.call Dm rfl (gJ hs h3 aj) ?_);rintro v144 w ⟨H1,hle1,hT,hs⟩
    replace hT:RTd H1 v144 s.bP:=hT
    have htl:s.bP.length≤60:=by have:=dq s.rs;unfold Srv.bP;omega
    have hmem:∀r∈s.rs,r.td∈s.bP:=fun r hr=>gG.2 ⟨r,hr,rfl⟩
    have hlims:s.cO=eO (qV s.sp) s.sp.wa.length s.sp.st.length++eO (alL s.sp) s.sp.wa.length s.sp.st.length++eO (upL s.sp) s.sp.wa.length s.sp.st.length++wz s.sp s.bP.length++rK s.sp s.bP s.cs 0 s.cs.length++uq s.sp s.bP s.rs s.rs.length:=rfl
    generalize s.bP=ts at*
    obtain ⟨at_,ct,rfl⟩:=RTd.shape hT
    refine .z zg (.nil (.ai (.y hs (zls [_,_,_,_,_,_] aQ aI) ?_)))
    refine .o (.call Dl rfl (fa (s:=s.sp) hs (h1.mono hle1) (h2.mono hle1) ⟨aj,aj⟩) ?_);rintro _ w ⟨rfl,hs⟩
    refine .z zg (.nil (.seq (.ai (.z zg (.nil (.block ?_))))))
    refine .loop (fun p:Nat×Value=>⟨243,[],[(14,I (p.1:Int)),(4,p.2),(12,.slice at_ ts.length ct),(13,I (s.sp.many:Int)),(3,.pointer (some ⟨b3,0,none⟩)),(1,.pointer (some ⟨b1,0,none⟩))]⟩)
     (fun p w=>p.1≤ts.length∧∃en,cn 4 p.2 (gI (eO (qV s.sp) s.sp.wa.length s.sp.st.length++eO (alL s.sp) s.sp.wa.length s.sp.st.length++eO (upL s.sp) s.sp.wa.length s.sp.st.length++wz s.sp p.1)) en∧St H1 w (en:: .blk b3 [I s.sp.id,I s.sp.src,.slice ast s.sp.st.length cst,.slice awa s.sp.wa.length cwa,I s.sp.al,I s.sp.up]:: .blk b1 [I s.sp.id,I s.sp.src,.slice ast s.sp.st.length cst,.slice awa s.sp.wa.length cwa,I s.sp.al,I s.sp.up,.slice ar s.rs.length cr,.slice ac s.cs.length cc]::σ)) (fun p=>ts.length - p.1) (0,vo) aR
     ⟨by first|omega|exact Nat.zero_le _,en,by show cn 4 vo (gI (_++[])) en;rw [List.append_nil];exact hO,hs⟩ ?_
    clear hO hs
    rintro ⟨j,vo⟩ w ⟨hj,en,hO,hs⟩
    dsimp only at hj hO ⊢
    have hel:=jH s.sp j
    refine .seq (.ai (.z zm (.z zm (.z (c9 bg) (.z gx (.nil ?_))))))
    refine (.bM rfl (fun hc150=>?_) (fun hc150=>?_))
    ·refine .skip ?_
     refine nT ?_
     refine .seq (.block (.region (.z zm (.z zm (.z cq (.z zm (.z cq (.z (zfa dB) (.y hs (zld ae) ?_)))))))))
     refine .o (.call Tryz.call119 rfl (kI hs) ?_);rintro _ w ⟨b160,rfl,hs⟩
     refine .o (.append (ys:=gI (two 0 ((s.sp.many:Int)+1+(j:Int)) 1000 1000 s.sp.src)) hs bZ rfl rfl hO (.own .here rfl rfl) (j7 _) (fun l h=>by rw [dM] at h;simp only [List.length_append] at h;omega) ?_);intro v161 en161 w hO2 hs
     rw [←gH,List.append_assoc _ (wz _ _),show (s.sp.many:Int)+1+(j:Int)=((s.sp.many+1+j:Nat):Int) by omega] at hO2
     refine .z zg (.nil ?_)
     refine nB (nT ?_)
     refine .region (.z zm (.z cq (.z zg (.nil ?_))))
     refine nT ?_
     exact ⟨(j+1,v161),.cj rfl bV aR,⟨by dsimp only;omega,_,hO2,hs.sb⟩,by dsimp only;omega⟩
    ·refine .exit ?_
     refine xT (xT (xB (nT ?_)))
     refine .seq (.ai (.z zg (.nil (.block ?_))))
     refine .loop (fun p:Nat×Value=>⟨243,[],[(15,I (p.1:Int)),(4,p.2),(12,.slice at_ ts.length ct),(13,I (s.sp.many:Int)),(3,.pointer (some ⟨b3,0,none⟩)),(1,.pointer (some ⟨b1,0,none⟩))]⟩)
      (fun p w=>p.1≤s.cs.length∧∃en,cn 4 p.2 (gI (eO (qV s.sp) s.sp.wa.length s.sp.st.length++eO (alL s.sp) s.sp.wa.length s.sp.st.length++eO (upL s.sp) s.sp.wa.length s.sp.st.length++wz s.sp ts.length++rK s.sp ts s.cs 0 p.1)) en∧St H1 w (en:: .blk b3 [I s.sp.id,I s.sp.src,.slice ast s.sp.st.length cst,.slice awa s.sp.wa.length cwa,I s.sp.al,I s.sp.up]:: .blk b1 [I s.sp.id,I s.sp.src,.slice ast s.sp.st.length cst,.slice awa s.sp.wa.length cwa,I s.sp.al,I s.sp.up,.slice ar s.rs.length cr,.slice ac s.cs.length cc]::σ)) (fun p=>s.cs.length - p.1) (0,vo) aR
      ⟨by first|omega|exact Nat.zero_le _,en,by show cn 4 vo (gI (_++[])) en;rw [List.append_nil,←show j=ts.length by omega];exact hO,hs⟩ ?_
     clear hO hs
     rintro ⟨i,vo⟩ w ⟨hi,en,hO,hs⟩
     dsimp only at hi hO ⊢
     have hel:=jH s.sp ts.length
     have hcl1:=iQ s.sp ts s.cs 0 i
     have hcl2:i*(2*(ts.length - 0))≤20*(2*60):=Nat.mul_le_mul aj aj
     refine .seq (.ai (.z zm (.z (zfa bU) (.y hs (zld dW) (.z (c9 aW) (.z gx (.nil ?_)))))))
     refine (.bM rfl (fun hc166=>?_) (fun hc166=>?_))
     ·refine .skip ?_
      refine nT ?_
      refine .seq (.block (.ai (.z zg (.nil (.block ?_)))))
      refine .loop (fun p:Nat×Value=>⟨243,[],[(16,I (p.1:Int)),(4,p.2),(15,I (i:Int)),(12,.slice at_ ts.length ct),(13,I (s.sp.many:Int)),(3,.pointer (some ⟨b3,0,none⟩)),(1,.pointer (some ⟨b1,0,none⟩))]⟩)
       (fun p w=>p.1≤ts.length∧∃en,cn 4 p.2 (gI (eO (qV s.sp) s.sp.wa.length s.sp.st.length++eO (alL s.sp) s.sp.wa.length s.sp.st.length++eO (upL s.sp) s.sp.wa.length s.sp.st.length++wz s.sp ts.length++rK s.sp ts s.cs 0 i++kL s.sp ts (yD s.cs i) 0 p.1)) en∧St H1 w (en:: .blk b3 [I s.sp.id,I s.sp.src,.slice ast s.sp.st.length cst,.slice awa s.sp.wa.length cwa,I s.sp.al,I s.sp.up]:: .blk b1 [I s.sp.id,I s.sp.src,.slice ast s.sp.st.length cst,.slice awa s.sp.wa.length cwa,I s.sp.al,I s.sp.up,.slice ar s.rs.length cr,.slice ac s.cs.length cc]::σ)) (fun p=>ts.length - p.1) (0,vo) aR
       ⟨by first|omega|exact Nat.zero_le _,en,by show cn 4 vo (gI (_++[])) en;rw [List.append_nil];exact hO,hs⟩ ?_
      clear hO hs
      rintro ⟨j,vo⟩ w ⟨hj,en,hO,hs⟩
      dsimp only at hj hO ⊢
      have hl1:=lk s.sp ts (yD s.cs i) 0 j
      refine .seq (.ai (.z zm (.z zm (.z (c9 bg) (.z gx (.nil ?_))))))
      refine (.bM rfl (fun hc172=>?_) (fun hc172=>?_))
      ·refine .skip ?_
       refine nT ?_
       refine .seq (.block ?_)
       refine .draw mix rfl hs fun w hs=>?_
       refine .z 0 rfl zm ?_;refine .z 1 rfl (zfa bU) ?_;refine .y 2 rfl hs dW ?_;refine .z 3 rfl zm ?_
       obtain ⟨c,hx⟩:=nth (l:=s.cs) (k:=i) aj
       obtain ⟨t,ht⟩:=nth (l:=ts) (k:=j) aj
       obtain ⟨g1,g2,g3,g4,g5,g6⟩:=hcs c (List.mem_of_getElem? hx)
       have ec:=BF hx
       have et:=Dv ht
       refine .ixX (enc:=Cmp.c) (i:=4) hs rfl an .none (h4.mono hle1) rfl rfl aW bY hx dy ?_;intro b179 o179 hc179
       refine .r (i:=5) hs rfl an .none (cI (vs:=c.c) rfl EP bY hc179) ?_
       refine .z 6 rfl zm ?_;refine .z 7 rfl zm ?_
       refine .ixX (enc:=TD.c) (i:=8) hs rfl an .none hT rfl rfl bg bE ht dy ?_;intro b183 o183 hc183
       refine .r (i:=9) hs rfl an .none (cI (vs:=t.c) rfl dO bE hc183) ?_
       refine .z 10 rfl zm ?_;refine .z 11 rfl cq ?_;refine .z 12 rfl zm ?_;refine .z 13 rfl cq ?_
       refine .E 14 hs ?_
       refine .call Tryz.call194 rfl (tn (c:=c) (t:=t) hs ⟨aj,aj⟩) ?_;rintro v189 w ⟨en189,hO189,hs⟩
       obtain ⟨a189,l189,c189,rfl,h189⟩:=hO189.shape
       refine .go ?_
       refine .E 15 hs ?_
       refine .append (ys:=gI (lB c t ((s.sp.many:Int)+1+(j:Int)))) hs bZ rfl rfl hO (Src.Fl hO189 .here) (j7 _) (fun l h=>by rw [dM] at h;simp only [List.length_append] at h;have:=wX c t ((s.sp.many:Int)+1+(j:Int));rw [dM] at h189;omega) ?_;intro v190 en190 w hO2 hs
       rw [←gH,List.append_assoc _ (kL _ _ _ _ _),show kL s.sp ts (yD s.cs i) 0 j++lB c t ((s.sp.many:Int)+1+(j:Int))=kL s.sp ts (yD s.cs i) 0 (j+1) by
        show _=_++lB (yD s.cs i) (td0 ts (0+j)) ((s.sp.many+1+(0+j):Nat):Int)
        rw [Nat.zero_add,ec,et,show ((s.sp.many+1+j:Nat):Int)=(s.sp.many:Int)+1+(j:Int) by omega]] at hO2
       refine .go ?_
       refine .z 16 rfl zg ?_;refine .D hs ?_
       refine nB (nT ?_)
       refine .region (.z zm (.z cq (.z zg (.nil ?_))))
       refine nT ?_
       exact ⟨(j+1,v190),.cj rfl bV aR,⟨by dsimp only;omega,_,hO2,hs.sb⟩,by dsimp only;omega⟩
      ·refine .exit ?_
       refine xT (xT (xB (nB (nT ?_))))
       refine .region (.z zm (.z cq (.z zg (.nil ?_))))
       refine nT ?_
       obtain rfl:j=ts.length:=by omega
       rw [List.append_assoc _ (rK _ _ _ _ _)] at hO
       exact ⟨(i+1,_),.cj rfl bV aR,⟨by dsimp only;omega,en,hO,hs⟩,by dsimp only;omega⟩
     ·refine .exit ?_
      refine xT (xT (xB (nT ?_)))
      refine .seq (.ai (.z zg (.nil (.block ?_))))
      refine .loop (fun p:Nat×Value=>⟨243,[],[(17,I (p.1:Int)),(4,p.2),(12,.slice at_ ts.length ct),(13,I (s.sp.many:Int)),(3,.pointer (some ⟨b3,0,none⟩)),(1,.pointer (some ⟨b1,0,none⟩))]⟩)
       (fun p w=>p.1≤s.rs.length∧∃en,cn 4 p.2 (gI (eO (qV s.sp) s.sp.wa.length s.sp.st.length++eO (alL s.sp) s.sp.wa.length s.sp.st.length++eO (upL s.sp) s.sp.wa.length s.sp.st.length++wz s.sp ts.length++rK s.sp ts s.cs 0 s.cs.length++uq s.sp ts s.rs p.1)) en∧St H1 w (en:: .blk b3 [I s.sp.id,I s.sp.src,.slice ast s.sp.st.length cst,.slice awa s.sp.wa.length cwa,I s.sp.al,I s.sp.up]:: .blk b1 [I s.sp.id,I s.sp.src,.slice ast s.sp.st.length cst,.slice awa s.sp.wa.length cwa,I s.sp.al,I s.sp.up,.slice ar s.rs.length cr,.slice ac s.cs.length cc]::σ)) (fun p=>s.rs.length - p.1) (0,vo) aR
       ⟨by first|omega|exact Nat.zero_le _,en,by show cn 4 vo (gI (_++[])) en;rw [List.append_nil,←show i=s.cs.length by omega];exact hO,hs⟩ ?_
      clear hO hs
      rintro ⟨q,vo⟩ w ⟨hq,en,hO,hs⟩
      dsimp only at hq hO ⊢
      have hrl1:=jG s.sp ts s.rs q
      have hcl3:=iQ s.sp ts s.cs 0 s.cs.length
      have hcl4:s.cs.length*(2*(ts.length - 0))≤20*(2*60):=Nat.mul_le_mul aj aj
      refine .seq (.ai (.z zm (.z (zfa aN) (.y hs (zld bu) (.z (c9 az) (.z gx (.nil ?_)))))))
      refine (.bM rfl (fun hc195=>?_) (fun hc195=>?_))
      ·refine .skip ?_
       refine nT ?_
       refine .seq (.block (.ai (.z (zfa aN) (.y hs (zld bu) (.z zm ?_)))))
       obtain ⟨r,hx⟩:=nth (l:=s.rs) (k:=q) aj
       obtain ⟨g1,g2,g3,g4,g5,g6,g7⟩:=hrs r (List.mem_of_getElem? hx)
       obtain ⟨m,k1,k2,k3⟩:=gg (hmem r (List.mem_of_getElem? hx))
       refine .ixX (enc:=Rdg.c) hs (h3.mono hle1) rfl rfl az aH hx dy ?_;intro b201 o201 hc201
       refine .q hs (cI (vs:=(Rdg.c r)) rfl dN aH hc201) ?_
       refine .o (.alloc hs eH rfl fun b18 w hs=>?_)
       refine .o (.aU (vs:=r.c) hs rfl rfl aH fun w hs=>?_)
       change St _ _ (.blk b18 [I r.src,I r.st,I r.wa,I r.val,I r.tol,I r.tape,I r.day]::_) at hs
       refine .nil (.ai (.y hs (zls [_,_,_,_,_,_] aQ aI) (.z (zfa ff) (.y hs (zld ae) (.z (zfa fc) (.y hs (zld ae) ?_))))))
       refine .o (.call iS rfl (dm (s:=s.sp) hs (h2.mono hle1) aj ⟨aj,aj⟩ ⟨aj,aj⟩) ?_);rintro _ w ⟨rfl,hs⟩
       refine .z zg (.nil (.ai (.z zm (.z cq (.z zm (.z (zfa eF) (.y hs (zld ae) (.z (zfa eE) (.y hs (zld ae) ?_)))))))))
       refine .z (zbd [_,_] gv) ?_
       refine .o (.call Tryz.call93 rfl (kc (t:=r.td) hs hT aj) ?_);rintro _ w ⟨rfl,hs⟩
       refine .z cq (.z zg (.nil (.region (.z zm (.z zm (.z zm (.z (zfa db) (.y hs (zld ae) (.z (zfa ck) ?_)))))))))
       refine .y hs (zld ae) (.z cq (.z (zfa eG) (.y hs (zld ae) (.z (zbd [_,_,_,_] eR) (.z zm (.z zm (.z (zfa ck) (.y hs (zld ae) (.z (zfa db) ?_)))))))))
       refine .y hs (zld ae) (.z gW (.z (zfa eG) (.y hs (zld ae) (.z (zbd [_,_,_,_] eR) ?_))))
       refine .o (.buildSlice (cells:=gI (tz s.sp ts r)) hs fO rfl an fun b240 w hs=>?_)
       refine .o (.append (ys:=gI (tz s.sp ts r)) hs bZ rfl rfl hO (.own .here rfl rfl) (j7 _) (fun l h=>by rw [dM] at h;simp only [List.length_append] at h;omega) ?_);intro v241 en241 w hO2 hs
       rw [←gH,List.append_assoc _ (uq _ _ _ _),show uq s.sp ts s.rs q++tz s.sp ts r=uq s.sp ts s.rs (q+1) by rw [←AU hx];rfl] at hO2
       refine .z zg (.nil ?_)
       refine nB (nT ?_)
       refine .region (.z zm (.z cq (.z zg (.nil ?_))))
       refine nT ?_
       exact ⟨(q+1,v241),.cj rfl bV aR,⟨by dsimp only;omega,_,hO2,hs.sb⟩,by dsimp only;omega⟩
      ·refine .exit ?_
       refine xT (xT (xB (nT ?_)))
       refine .ai (.z zm (.z zg (.nil ?_)))
       refine .ret (Fin.bJ Tryz.results111 rfl ?_)
       obtain rfl:q=s.rs.length:=by omega
       exact ⟨H1,en,hle1,by rw [hlims];exact hO,hs.sb⟩
theorem sq{s:Srv}{vst vwa vr vc:Value}(hs:St H w σ)(h1:RI H vst s.sp.st)(h2:RI H vwa s.sp.wa)(h3:RRd H vr s.rs)(h4:RCm H vc s.cs)(he:s.early):
  Cl Tryz.prog 95 [.agg #[I s.sp.id,I s.sp.src,vst,vwa,I s.sp.al,I s.sp.up,vr,vc]] w fun u w'=>∃H1 vl en,HLe H H1∧u= .agg #[I s.sys.many,vl]∧cn 4 vl (gI s.cO) en∧St H1 w' (en::σ):=by
 have hsm:=fk he.1
 have hrl:=he.2.1
 have htl:s.bP.length≤60:=by have:=dq s.rs;unfold Srv.bP;omega
 refine Cl.o Tryz.func95 Tryz.ntmps95 ag1 ?_
 refine .ai ?_
 refine .bx hs fun b1 w hs=>?_
 refine .o (.alloc hs dj rfl fun b2 w hs=>?_)
 refine .nil ?_
 refine .seq (.draw mix rfl hs fun w hs=>?_)
 refine .z 0 rfl (zfa aS) ?_;refine .ys 1 rfl hs [_,_,_,_,_,_] aQ aI ?_;refine .z 3 rfl (zfa aN) ?_;refine .y 4 rfl hs bu ?_;refine .ys 8 rfl hs [_,_,_,_,_,_,_,_] aO aF ?_
 refine .E 2 hs ?_
 refine .call Dl rfl (fa (s:=s.sp) hs h1 h2 ⟨aj,aj⟩) ?_;rintro _ w ⟨rfl,hs⟩
 refine .go ?_
 refine .E 5 hs ?_
 refine .call Dm rfl (gJ hs h3 aj) ?_;rintro v8 w ⟨H1,hle1,hT,hs⟩
 replace hT:RTd H1 v8 s.bP:=hT
 obtain ⟨at_,ct,rfl⟩:=RTd.shape hT
 refine .go ?_
 refine .z 6 rfl (c9 bg) ?_;refine .z 7 rfl cq ?_
 refine .E 9 hs ?_
 refine .call Tryz.call111 rfl (mI (s:=s) hs (h1.mono hle1) (h2.mono hle1) (h3.mono hle1) (h4.mono hle1) he) ?_;rintro v12 w ⟨H2,en,hle2,hO,hs⟩
 obtain ⟨al,ll,cl,rfl,hll⟩:=hO.shape
 refine .go ?_
 refine .z 10 rfl (zbd [_,_] iG) ?_
 refine .E 11 hs ?_
 refine .aU (vs:=[_,_]) hs rfl rfl aE ?_;intro w hs
 refine .go ?_
 refine .D hs ?_
 refine .ret ?_
 replace hs:St H2 w (.blk b2 [I ((s.sp.many:Int)+(s.bP.length:Int)),.slice al ll cl]::en::σ):=hs.sb
 exact Fin.iK [] [] hs fun w hs=>⟨_,results1 Tryz.results95 (dJ (vs:=[_,_]) hs rfl aT aE),H2,_,en,hle1.trans hle2,by show _=Value.agg #[I ((s.sp.many+s.bP.length:Nat):Int),_];rw [Int.natCast_add],hO,hs.tail⟩
theorem lV{s:Srv}{vst vwa vr vc:Value}(hs:St H w σ)(h1:RI H vst s.sp.st)(h2:RI H vwa s.sp.wa)(h3:RRd H vr s.rs)(h4:RCm H vc s.cs)(he:s.early):
  Cl Tryz.prog 95 [.agg #[I s.sp.id,I s.sp.src,vst,vwa,I s.sp.al,I s.sp.up,vr,vc]] w fun u w'=>∃H1,HLe H H1∧RSy H1 u s.sys∧St H1 w' σ:=by
 refine (sq hs h1 h2 h3 h4 he).mono ?_
 rintro u w' ⟨H1,vl,en,hle,rfl,hO,hs⟩
 have hl:=jR he 6 aj
 rw [s.tE] at hl
 obtain ⟨H2,hle2,hR,hs⟩:=cn.cK (m:=4) (cs:=s.cO.map Lim.c) hO (fun c hc=>by simp only [List.mem_map] at hc;obtain ⟨x,_,rfl⟩:=hc;rfl) aj (by rw [List.length_map];omega) hs .here
 exact ⟨H2,hle.trans hle2,⟨vl,rfl,hR⟩,hs⟩
set_option maxHeartbeats 1000000 in
theorem sr{s:Srv}{vst vwa vr vc:Value}(hs:St H w σ)(h1:RI H vst s.sp.st)(h2:RI H vwa s.sp.wa)(h3:RRd H vr s.rs)(h4:RCm H vc s.cs):
  Cl Tryz.prog 43 [.agg #[I s.sp.id,I s.sp.src,vst,vwa,I s.sp.al,I s.sp.up,vr,vc]] w fun u w'=>∃H1 e,HLe H H1∧u=I e∧vv s e∧St H1 w' σ:=by
 obtain ⟨ast,cst,rfl⟩:=RI.shape h1
 obtain ⟨awa,cwa,rfl⟩:=RI.shape h2
 obtain ⟨ar,cr,rfl⟩:=RRd.shape h3
 obtain ⟨ac,cc,rfl⟩:=RCm.shape h4
 refine Cl.o Tryz.func43 Tryz.ntmps43 ag1 ?_
 refine .ai ?_
 refine .bx hs fun b1 w hs=>?_
 refine .z zg (.nil (.seq (.ai (.z (zfa aS) (.y hs (zls [_,_,_,_,_,_] aQ aI) ?_)))))
 refine .o (.call Tryz.call24 rfl (jP (s:=s.sp) hs h1 h2) ?_);rintro _ w ⟨e,rfl,he,hs⟩
 refine .z ij (.nil ?_)
 refine (.eQ rfl (fun hc8=>?_) (fun hc8=>?_))
 ·refine .ai (.z zg (.nil ?_))
  refine .ret (rT (Fin.bJ kV rfl ?_))
  have hq:¬fX s.sp∧e=30:=he.resolve_left fun h=>hc8 h.2
  exact ⟨H,_,HLe.refl H,rfl,.space hq.1,hs.out⟩
 ·refine .skip ?_
  refine nT ?_
  refine .seq (.ai (.z (zfa aN) ?_))
  have hok:fX s.sp:=(he.resolve_right fun h=>by omega).1
  refine .y hs (zld bu) (.z (c9 az) (.z kD (.z zm ?_)))
  refine .iB (t':=13) rfl (fun hb13=>?_) (fun hb13=>?_)
  ·refine .gFs 4 4 false rfl rfl rfl ?_
   refine .z zpT (.nil ?_)
   refine (.cT ?_)
   refine .ai (.z zg (.nil ?_))
   refine .ret (rT (Fin.bJ kV rfl ?_))
   exact ⟨H,_,HLe.refl H,rfl,.long hok aj,hs.out⟩
  ·refine .gT rfl rfl ?_
   refine .z (zfa bU) ?_
   refine .gT rfl rfl ?_
   refine .y hs (zld dW) ?_
   refine .gT rfl rfl ?_
   refine .z (c9 aW) ?_
   refine .gT rfl rfl ?_
   refine .z kD (.z zpF (.nil ?_))
   refine (.bM rfl (fun hc18=>?_) (fun hc18=>?_))
   ·refine .ai (.z zg (.nil ?_))
    refine .ret (rT (Fin.bJ kV rfl ?_))
    exact ⟨H,_,HLe.refl H,rfl,.long hok aj,hs.out⟩
   ·refine .skip ?_
    refine nT ?_
    refine .seq (.ai (.z zg (.nil (.block ?_))))
    refine .loop (fun k:Nat=>⟨64,[],[(3,I (k:Int)),(1,.pointer (some ⟨b1,0,none⟩))]⟩)
     (fun k w=>k≤s.rs.length∧(∀j<k,∀y,s.rs[j]? =some y→jJ s.sp y)∧St H w (.blk b1 [I s.sp.id,I s.sp.src,.slice ast s.sp.st.length cst,.slice awa s.sp.wa.length cwa,I s.sp.al,I s.sp.up,.slice ar s.rs.length cr,.slice ac s.cs.length cc]::σ)) (fun k=>s.rs.length - k) 0 aR
     ⟨Nat.zero_le _,fun j hj=>by omega,hs⟩ ?_
    rintro k w ⟨hk,hno,hs⟩
    refine .seq (.ai (.z zm (.z (zfa aN) (.y hs (zld bu) (.z (c9 az) (.z gx (.nil ?_)))))))
    refine (.bM rfl (fun hc23=>?_) (fun hc23=>?_))
    ·refine .skip ?_
     refine nT ?_
     refine .seq (.block ?_)
     refine .seq (.draw mix rfl hs fun w hs=>?_)
     refine .z 0 rfl (zfa aS) ?_;refine .ys 1 rfl hs [_,_,_,_,_,_] aQ aI ?_;refine .z 2 rfl (zfa aN) ?_;refine .y 3 rfl hs bu ?_;refine .z 4 rfl zm ?_
     obtain ⟨r,hx⟩:=nth (l:=s.rs) (k:=k) aj
     refine .ixX (enc:=Rdg.c) (i:=5) hs rfl an .none h3 rfl rfl az aH hx dy ?_;intro b31 o31 hc31
     refine .r (i:=6) hs rfl an .none (cI (vs:=r.c) rfl dN aH hc31) ?_
     refine .E 7 hs ?_
     refine .call Tryz.call109 rfl (jc (s:=s.sp) (r:=r) hs h1 h2) ?_;rintro _ w ⟨b33,rfl,hb33,hs⟩
     refine .go ?_
     refine .z 8 rfl ir ?_;refine .D hs ?_
     refine (.cond rfl (fun hc34=>?_) (fun hc34=>?_))
     ·refine .ai (.z zg (.nil ?_))
      refine .ret (rB (rT (rT (rB (rT (Fin.bJ kV rfl ?_))))))
      exact ⟨H,_,HLe.refl H,rfl,.rdg hok aj (fun h=>by rw [hb33.2 (h r (List.mem_of_getElem? hx))] at hc34;cases hc34),hs.out⟩
     ·refine .skip ?_
      refine nB (nT ?_)
      refine .region (.z zm (.z cq (.z zg (.nil ?_))))
      refine nT ?_
      exact ⟨k+1,.cj rfl bV aR,⟨aj,fw hno hx (hb33.1 (by simpa using hc34)),hs⟩,aj⟩
    ·refine .exit ?_
     refine xT (xT (xB (nT ?_)))
     refine .seq (.ai (.z zg (.nil (.block ?_))))
     have hrs:∀r∈s.rs,jJ s.sp r:=fun r hr=>by
      obtain ⟨j,hj⟩:=List.getElem?_of_mem hr
      have:=(List.getElem?_eq_some_iff.1 hj).1
      exact hno j aj r hj
     clear hno
     refine .loop (fun k:Nat=>⟨64,[],[(4,I (k:Int)),(1,.pointer (some ⟨b1,0,none⟩))]⟩)
      (fun k w=>k≤s.cs.length∧(∀j<k,∀y,s.cs[j]? =some y→pP y)∧St H w (.blk b1 [I s.sp.id,I s.sp.src,.slice ast s.sp.st.length cst,.slice awa s.sp.wa.length cwa,I s.sp.al,I s.sp.up,.slice ar s.rs.length cr,.slice ac s.cs.length cc]::σ)) (fun k=>s.cs.length - k) 0 aR
      ⟨Nat.zero_le _,fun j hj=>by omega,hs⟩ ?_
     rintro i w ⟨hi,hno,hs⟩
     refine .seq (.ai (.z zm (.z (zfa bU) (.y hs (zld dW) (.z (c9 aW) (.z gx (.nil ?_)))))))
     refine (.bM rfl (fun hc39=>?_) (fun hc39=>?_))
     ·refine .skip ?_
      refine nT ?_
      refine .seq (.block (.ai (.z (zfa bU) (.y hs (zld dW) (.z zm ?_)))))
      obtain ⟨c,hx⟩:=nth (l:=s.cs) (k:=i) aj
      refine .ixX (enc:=Cmp.c) hs h4 rfl rfl aW bY hx dy ?_;intro b45 o45 hc45
      refine .q hs (cI (vs:=(Cmp.c c)) rfl EP bY hc45) ?_
      refine .o (.call Tryz.call110 rfl (mv (c:=c) hs) ?_);rintro _ w ⟨b47,rfl,hb47,hs⟩
      refine .z ir (.nil ?_)
      refine (.cond rfl (fun hc48=>?_) (fun hc48=>?_))
      ·refine .ai (.z zg (.nil ?_))
       refine .ret (rB (rT (rT (rB (rT (Fin.bJ kV rfl ?_))))))
       exact ⟨H,_,HLe.refl H,rfl,.cmp hok aj hrs (fun h=>by rw [hb47.2 (h c (List.mem_of_getElem? hx))] at hc48;cases hc48),hs.out⟩
      ·refine .skip ?_
       refine nB (nT ?_)
       refine .region (.z zm (.z cq (.z zg (.nil ?_))))
       refine nT ?_
       exact ⟨i+1,.cj rfl bV aR,⟨aj,fw hno hx (hb47.1 (by simpa using hc48)),hs⟩,aj⟩
     ·refine .exit ?_
      refine xT (xT (xB (nT ?_)))
      refine .seq ?_
      refine .seq (.draw mix rfl hs fun w hs=>?_)
      refine .z 0 rfl (zfa aS) ?_;refine .ys 1 rfl hs [_,_,_,_,_,_] aQ aI ?_;refine .z 3 rfl (zfa aN) ?_;refine .y 4 rfl hs bu ?_
      refine .E 2 hs ?_
      have hcs:∀c∈s.cs,pP c:=fun c hc=>by
       obtain ⟨j,hj⟩:=List.getElem?_of_mem hc
       have:=(List.getElem?_eq_some_iff.1 hj).1
       exact hno j aj c hj
      have hea:s.early:=⟨hok,aj,aj,hrs,hcs⟩
      have hsm:=fk hok
      have hrl:=hea.2.1
      have htl:s.bP.length≤60:=by have:=dq s.rs;unfold Srv.bP;omega
      have hll:=jR hea 6 aj
      rw [s.tE] at hll
      refine .call Dl rfl (fa (s:=s.sp) hs h1 h2 ⟨aj,aj⟩) ?_;rintro _ w ⟨rfl,hs⟩
      refine .go ?_
      refine .E 5 hs ?_
      refine .call Dm rfl (gJ hs h3 aj) ?_;rintro v54 w ⟨H1,hle1,hT,hs⟩
      replace hT:RTd H1 v54 s.bP:=hT
      obtain ⟨at_,ct,rfl⟩:=RTd.shape hT
      refine .go ?_
      refine .z 6 rfl (c9 bg) ?_;refine .z 7 rfl cq ?_;refine .z 8 rfl kD ?_;refine .z 9 rfl zm ?_
      refine .iB (t':=58) rfl (fun hb58=>?_) (fun hb58=>?_)
      ·refine .qF (i:=10) rfl an rfl rfl ?_
       refine .qF (i:=11) rfl an rfl rfl ?_
       refine .qF (i:=12) rfl an rfl rfl ?_
       refine .qF (i:=13) rfl an rfl rfl ?_
       refine .z 14 rfl zpT ?_;refine .D hs ?_
       refine (.cT ?_)
       refine .ai (.z zg (.nil ?_))
       refine .ret (rT (Fin.bJ kV rfl ?_))
       exact ⟨H1,_,hle1,rfl,.big hea aj,hs.out⟩
      ·refine .ys 10 rfl hs [_,_,_,_,_,_,_,_] aO aF ?_
       refine .E 11 hs ?_
       refine .call Tryz.call111 rfl (mI (s:=s) hs (h1.mono hle1) (h2.mono hle1) (h3.mono hle1) (h4.mono hle1) hea) ?_;rintro v60 w ⟨H2,en,hle2,hO,hs⟩
       obtain ⟨al,ll,cl,rfl,hl60⟩:=hO.shape
       rw [dM] at hl60
       refine .go ?_
       refine .z 12 rfl (c9 aP) ?_;refine .z 13 rfl kD ?_;refine .z 14 rfl zpF ?_;refine .D hs ?_
       refine (.bM rfl (fun hc63=>?_) (fun hc63=>?_))
       ·refine .ai (.z zg (.nil ?_))
        refine .ret (rT (Fin.bJ kV rfl ?_))
        exact ⟨H2,_,hle1.trans hle2,rfl,.big hea aj,hs.out⟩
       ·refine .skip ?_
        refine nT ?_
        refine .ai (.z zg (.nil ?_))
        refine .ret (Fin.bJ kV rfl ?_)
        exact ⟨H2,_,hle1.trans hle2,rfl,.ok hea ⟨aj,aj⟩,hs.out⟩
theorem jD{s:Spc}{q:Wht}{vst vwa:Value}(hs:St H w σ)(h2:RI H vwa s.wa):
  Cl Tryz.prog 238 [.agg #[I q.kind,I q.st,I q.wa,I s.id,I s.src,vst,vwa,I s.al,I s.up]] w fun v w'=>v= .bool (decide (0≤q.wa∧q.wa≤(s.wa.length:Int) - 1))∧St H w' σ:=by
 obtain ⟨awa,cwa,rfl⟩:=RI.shape h2
 have l2:=(RI.len h2).2.2
 refine Cl.o Tryz.func238 Tryz.ntmps238 ag1 ?_
 refine .ai ?_
 refine .bx hs fun b1 w hs=>?_
 refine .z zg (.nil (.ai (.z (zfa da) (.z (zfa di) (.y hs (zld ae) (.z (zfa fu) (.z (zfa bj) (.y hs (zld ak) (.z (c9 aa) ?_)))))))))
 refine .z gW ?_
 refine .o (.call dP rfl (bw hs) ?_);rintro _ w ⟨rfl,hs⟩
 refine .z zg (.nil ?_)
 refine .ret (Fin.bJ Tryz.results238 rfl ?_)
 exact ⟨rfl,hs.out⟩
theorem kG{s:Spc}{q:Wht}{vst vwa:Value}(hs:St H w σ)(h1:RI H vst s.st):
  Cl Tryz.prog 243 [.agg #[I q.kind,I q.st,I q.wa,I s.id,I s.src,vst,vwa,I s.al,I s.up]] w fun v w'=>v= .bool (decide (0≤q.st∧q.st≤(s.st.length:Int) - 1))∧St H w' σ:=by
 obtain ⟨ast,cst,rfl⟩:=RI.shape h1
 have l1:=(RI.len h1).2.2
 refine Cl.o Tryz.func243 Tryz.ntmps243 ag1 ?_
 refine .ai ?_
 refine .bx hs fun b1 w hs=>?_
 refine .z zg (.nil (.ai (.z (zfa da) (.z (zfa eg) (.y hs (zld ae) (.z (zfa fu) (.z (zfa bA) (.y hs (zld ak) (.z (c9 aa) ?_)))))))))
 refine .z gW ?_
 refine .o (.call dP rfl (bw hs) ?_);rintro _ w ⟨rfl,hs⟩
 refine .z zg (.nil ?_)
 refine .ret (Fin.bJ Tryz.results243 rfl ?_)
 exact ⟨rfl,hs.out⟩
theorem nk{s:Spc}{q:Wht}:fm s q↔(q.kind=1∧q.st=0∧s.isW q∧0<q.wa)∨(q.kind=2∧q.st=0∧s.isW q)∨(q.kind=3∧q.wa=0∧s.isS q)∨(q.kind=4∧s.isS q∧s.isW q):=by
 constructor
 ·intro h
  cases h with
  |litres a b c d=>exact .inl ⟨a,b,c,d⟩
  |plane a b c=>exact .inr (.inl ⟨a,b,c⟩)
  |section_ a b c=>exact .inr (.inr (.inl ⟨a,b,c⟩))
  |offset a b c=>exact .inr (.inr (.inr ⟨a,b,c⟩))
 ·rintro (⟨a,b,c,d⟩|⟨a,b,c⟩|⟨a,b,c⟩|⟨a,b,c⟩)
  ·exact .litres a b c d
  ·exact .plane a b c
  ·exact .section_ a b c
  ·exact .offset a b c
theorem xp{s:Spc}{q:Wht}{vst vwa:Value}(hs:St H w σ)(h2:RI H vwa s.wa)(hk:q.kind=1):
  Cl Tryz.prog 237 [.agg #[I q.kind,I q.st,I q.wa,I s.id,I s.src,vst,vwa,I s.al,I s.up]] w fun v w'=>∃b:Bool,v= .bool b∧(b=true↔fm s q)∧St H w' σ:=by
 have hi:=nk (s:=s) (q:=q)
 simp only [Spc.isW,Spc.isS] at hi
 refine Cl.o Tryz.func237 Tryz.ntmps237 ag1 ?_
 refine .ai ?_
 refine .bx hs fun b1 w hs=>?_
 refine .z zg (.nil (.ai (.y hs (zls [_,_,_,_,_,_,_,_,_] qW kS) ?_)))
 refine .o (.call Tryz.call238 rfl (jD hs h2) ?_);rintro _ w ⟨rfl,hs⟩
 refine .z zm ?_
 refine .bif (t':=5) rfl (fun hb5=>?_) (fun hb5=>?_)
 ·refine .gT rfl rfl ?_
  refine .z (zfa da) ?_
  refine .gT rfl rfl ?_
  refine .z (zfa di) ?_
  refine .gT rfl rfl ?_
  refine .y hs (zld ae) ?_
  refine .gT rfl rfl ?_
  refine .z kD (.z zpT (.z zm ?_))
  refine .iB (t':=11) rfl (fun hb11=>?_) (fun hb11=>?_)
  ·refine .gT rfl rfl ?_
   refine .z (zfa da) ?_
   refine .gT rfl rfl ?_
   refine .z (zfa eg) ?_
   refine .gT rfl rfl ?_
   refine .y hs (zld ae) ?_
   refine .gT rfl rfl ?_
   refine .z gC (.z zpT (.z zg (.nil ?_)))
   refine .ret (Fin.bJ Tryz.results237 rfl ?_)
   exact ⟨_,rfl,by rw [hi];simp_all<;>omega,hs.out⟩
  ·refine .gFs 4 8 true rfl rfl rfl ?_
   refine .z zpF (.z zg (.nil ?_))
   refine .ret (Fin.bJ Tryz.results237 rfl ?_)
   exact ⟨_,rfl,by rw [hi];simp_all<;>omega,hs.out⟩
 ·refine .gFs 4 2 true rfl rfl rfl ?_
  refine .z zpF (.z zm ?_)
  refine .gFs 4 8 true rfl rfl rfl ?_
  refine .z zpF (.z zg (.nil ?_))
  refine .ret (Fin.bJ Tryz.results237 rfl ?_)
  exact ⟨_,rfl,by rw [hi];simp_all<;>omega,hs.out⟩
theorem xo{s:Spc}{q:Wht}{vst vwa:Value}(hs:St H w σ)(h2:RI H vwa s.wa)(hk:q.kind=2):
  Cl Tryz.prog 240 [.agg #[I q.kind,I q.st,I q.wa,I s.id,I s.src,vst,vwa,I s.al,I s.up]] w fun v w'=>∃b:Bool,v= .bool b∧(b=true↔fm s q)∧St H w' σ:=by
 have hi:=nk (s:=s) (q:=q)
 simp only [Spc.isW,Spc.isS] at hi
 refine Cl.o Tryz.func240 Tryz.ntmps240 ag1 ?_
 refine .ai ?_
 refine .bx hs fun b1 w hs=>?_
 refine .z zg (.nil (.ai (.y hs (zls [_,_,_,_,_,_,_,_,_] qW kS) ?_)))
 refine .o (.call Tryz.call238 rfl (jD hs h2) ?_);rintro _ w ⟨rfl,hs⟩
 refine .z zm ?_
 refine .bif (t':=5) rfl (fun hb5=>?_) (fun hb5=>?_)
 ·refine .gT rfl rfl ?_
  refine .z (zfa da) ?_
  refine .gT rfl rfl ?_
  refine .z (zfa eg) ?_
  refine .gT rfl rfl ?_
  refine .y hs (zld ae) ?_
  refine .gT rfl rfl ?_
  refine .z gC (.z zpT (.z zg (.nil ?_)))
  refine .ret (Fin.bJ Tryz.results240 rfl ?_)
  exact ⟨_,rfl,by rw [hi];simp_all<;>omega,hs.out⟩
 ·refine .gFs 4 2 true rfl rfl rfl ?_
  refine .z zpF (.z zg (.nil ?_))
  refine .ret (Fin.bJ Tryz.results240 rfl ?_)
  exact ⟨_,rfl,by rw [hi];simp_all<;>omega,hs.out⟩
theorem xn{s:Spc}{q:Wht}{vst vwa:Value}(hs:St H w σ)(h1:RI H vst s.st)(hk:q.kind=3):
  Cl Tryz.prog 242 [.agg #[I q.kind,I q.st,I q.wa,I s.id,I s.src,vst,vwa,I s.al,I s.up]] w fun v w'=>∃b:Bool,v= .bool b∧(b=true↔fm s q)∧St H w' σ:=by
 have hi:=nk (s:=s) (q:=q)
 simp only [Spc.isW,Spc.isS] at hi
 refine Cl.o Tryz.func242 Tryz.ntmps242 ag1 ?_
 refine .ai ?_
 refine .bx hs fun b1 w hs=>?_
 refine .z zg (.nil (.ai (.y hs (zls [_,_,_,_,_,_,_,_,_] qW kS) ?_)))
 refine .o (.call Tryz.call243 rfl (kG hs h1) ?_);rintro _ w ⟨rfl,hs⟩
 refine .z zm ?_
 refine .bif (t':=5) rfl (fun hb5=>?_) (fun hb5=>?_)
 ·refine .gT rfl rfl ?_
  refine .z (zfa da) ?_
  refine .gT rfl rfl ?_
  refine .z (zfa di) ?_
  refine .gT rfl rfl ?_
  refine .y hs (zld ae) ?_
  refine .gT rfl rfl ?_
  refine .z gC (.z zpT (.z zg (.nil ?_)))
  refine .ret (Fin.bJ Tryz.results242 rfl ?_)
  exact ⟨_,rfl,by rw [hi];simp_all<;>omega,hs.out⟩
 ·refine .gFs 4 2 true rfl rfl rfl ?_
  refine .z zpF (.z zg (.nil ?_))
  refine .ret (Fin.bJ Tryz.results242 rfl ?_)
  exact ⟨_,rfl,by rw [hi];simp_all<;>omega,hs.out⟩
theorem xm{s:Spc}{q:Wht}{vst vwa:Value}(hs:St H w σ)(h1:RI H vst s.st)(h2:RI H vwa s.wa)(hk:q.kind=4):
  Cl Tryz.prog 245 [.agg #[I q.kind,I q.st,I q.wa,I s.id,I s.src,vst,vwa,I s.al,I s.up]] w fun v w'=>∃b:Bool,v= .bool b∧(b=true↔fm s q)∧St H w' σ:=by
 have hi:=nk (s:=s) (q:=q)
 simp only [Spc.isW,Spc.isS] at hi
 refine Cl.o Tryz.func245 Tryz.ntmps245 ag1 ?_
 refine .ai ?_
 refine .bx hs fun b1 w hs=>?_
 refine .z zg (.nil (.ai (.y hs (zls [_,_,_,_,_,_,_,_,_] qW kS) ?_)))
 refine .o (.call Tryz.call243 rfl (kG hs h1) ?_);rintro _ w ⟨rfl,hs⟩
 refine .z zm ?_
 refine .bif (t':=5) rfl (fun hb5=>?_) (fun hb5=>?_)
 ·refine .gT rfl rfl ?_
  refine .y hs (zls [_,_,_,_,_,_,_,_,_] qW kS) ?_
  refine .gT rfl rfl ?_
  refine .o (.call Tryz.call238 rfl (jD hs h2) ?_);rintro _ w ⟨rfl,hs⟩
  refine .z zpT (.z zg (.nil ?_))
  refine .ret (Fin.bJ Tryz.results245 rfl ?_)
  exact ⟨_,rfl,by rw [hi];simp_all<;>omega,hs.out⟩
 ·refine .gFs 2 2 true rfl rfl rfl ?_
  refine .z zpF (.z zg (.nil ?_))
  refine .ret (Fin.bJ Tryz.results245 rfl ?_)
  exact ⟨_,rfl,by rw [hi];simp_all<;>omega,hs.out⟩
theorem sh{s:Spc}{q:Wht}{vst vwa:Value}{i k:Nat}{u:Int}(hs:St H w σ)(h1:RI H vst s.st)(h2:RI H vwa s.wa)(hok:fX s)(hq:fm s q)(hk1:q.kind=1)(hi:i<s.st.length):
  Cl Tryz.prog 239 [.agg #[I q.kind,I q.st,I q.wa,I s.id,I s.src,vst,vwa,I s.al,I s.up],.agg #[I (i:Int),I (k:Int),I u]] w fun v w'=>∃H1,HLe H H1∧v=I (kb s q i k)∧St H1 w' σ:=by
 obtain ⟨ast,cst,rfl⟩:=RI.shape h1
 obtain ⟨awa,cwa,rfl⟩:=RI.shape h2
 have hn:=hok.wa.many
 have hcap:=(RI.len h2).2.1
 obtain ⟨_,hw1,hw2,hw3⟩:q.st=0∧0<q.wa∧0≤q.wa∧q.wa≤(s.wa.length:Int) - 1:=by
  rcases nk.1 hq with h|h|h|h
  ·exact ⟨h.2.1,h.2.2.2,h.2.2.1.1,h.2.2.1.2⟩
  all_goals omega
 obtain ⟨m,hm⟩:∃m:Nat,q.wa=m:=⟨q.wa.toNat,aj⟩
 have hW:kb s q i k=if (k:Int)≤q.wa then gi (wts s.st) i*gi (wts (s.wa.take (q.wa.toNat+1))) k else 0:=by unfold kb;rw [if_pos hk1]
 have hmt:q.wa.toNat=m:=by omega
 rw [hmt] at hW
 refine Cl.o Tryz.func239 Tryz.ntmps239 ag2 ?_
 refine .ai ?_
 refine .bx hs fun b2 w hs=>?_
 refine .bx hs fun b3 w hs=>?_
 refine .z zg (.nil (.seq (.ai (.z (zfa dx) (.y hs (zld ae) (.z (zfa da) (.z (zfa di) (.y hs (zld ae) (.z kD ?_)))))))))
 refine .nil ?_
 refine (.bM rfl (fun hc12=>?_) (fun hc12=>?_))
 ·refine .ai (.z zg (.nil ?_))
  refine .ret (rT (Fin.bJ Tryz.results239 rfl ?_))
  exact ⟨H,HLe.refl H,by rw [hW,if_neg aj],hs.out⟩
 ·refine .skip ?_
  refine nT ?_
  refine .seq (.draw mix rfl hs fun w hs=>?_)
  refine .z 0 rfl (zfa fu) ?_;refine .z 1 rfl (zfa bA) ?_;refine .y 2 rfl hs ak ?_;refine .z 3 rfl (zfa fu) ?_;refine .z 4 rfl (zfa bj) ?_;refine .y 5 rfl hs ak ?_;refine .z 6 rfl (zfa da) ?_;refine .z 7 rfl (zfa di) ?_;refine .y 8 rfl hs ae ?_;refine .z 9 rfl cq ?_
  refine .z 10 rfl (lY (k:=m+1) rfl rfl aa af aj aj) ?_
  refine .E 11 hs ?_
  have hP:eX 7 15000 (s.wa.take (m+1)):=hok.wa.take aj aj
  refine .call Tryz.call104 rfl (np hs h1 (h2.head (k:=m+1) aj)) ?_;rintro _ w ⟨H1,vo,e,hle1,rfl,hGx,-,hs⟩
  obtain ⟨rfl,hG⟩:=hGx ⟨hok.st,hP⟩
  have hgl:=jV (wts s.st) (wts (s.wa.take (m+1))) s.st.length
  have hyl:(wts (s.wa.take (m+1))).length=m+1:=by rw [eJ,List.length_take];omega
  have hgr:=wk (X:=wts s.st) (Y:=wts (s.wa.take (m+1))) (n:=s.st.length) hi
  have hgt:=zp (X:=wts s.st) (Y:=wts (s.wa.take (m+1))) (n:=s.st.length) (k:=k) hi aj
  have hrl:=jE (wts s.st) (wts (s.wa.take (m+1))) i
  rw [←hgr] at hrl
  generalize me (wts s.st) (wts (s.wa.take (m+1))) s.st.length=G at*
  obtain ⟨aG,cG,rfl⟩:=hG.shape
  refine .go ?_
  refine .z 12 rfl zm ?_;refine .z 13 rfl zex ?_;refine .z 14 rfl zex ?_;refine .z 15 rfl zg ?_;refine .z 16 rfl zg ?_;refine .D hs ?_
  refine .seq (.draw mix rfl hs fun w hs=>?_)
  refine .z 0 rfl zm ?_;refine .z 1 rfl (zfa dK) ?_;refine .y 2 rfl hs ae ?_
  refine .ixT (i:=3) hs rfl an .none hG rfl rfl aq aC (show i<_ by omega) dy ?_;intro b31 o31 a31 c31 hc31 hR31
  refine .r (i:=4) hs rfl an .none (aK rfl ak hc31) ?_
  refine .z 5 rfl (zfa dx) ?_;refine .y 6 rfl hs ae ?_
  refine .ixX (enc:=fun x=>[I x]) (i:=7) hs rfl an .none hR31 rfl rfl aa af (bL (l:=(gr G i)) (i:=k) aj) dy ?_;intro b35 o35 hc35;replace hc35:=bB.one hc35
  refine .r (i:=8) hs rfl an .none (aK rfl ae hc35) ?_
  refine .z 9 rfl zg ?_;refine .D hs ?_
  refine .ret (Fin.bJ Tryz.results239 rfl ?_)
  exact ⟨H1,hle1,by rw [hW,if_pos aj,←hgt];rfl,hs.out⟩
theorem s6{s:Spc}{q:Wht}{vst vwa:Value}{i k:Nat}{u:Int}(hs:St H w σ)(h1:RI H vst s.st)(hok:fX s)(hk1:q.kind=2)(hi:i<s.st.length):
  Cl Tryz.prog 241 [.agg #[I q.kind,I q.st,I q.wa,I s.id,I s.src,vst,vwa,I s.al,I s.up],.agg #[I (i:Int),I (k:Int),I u]] w fun v w'=>∃H1,HLe H H1∧v=I (kb s q i k)∧St H1 w' σ:=by
 have hW:kb s q i k=if (k:Int)=q.wa then gi (wts s.st) i else 0:=by unfold kb;rw [if_neg aj,if_pos hk1]
 have hl:=eJ s.st
 refine Cl.o Tryz.func241 Tryz.ntmps241 ag2 ?_
 refine .ai ?_
 refine .bx hs fun b2 w hs=>?_
 refine .bx hs fun b3 w hs=>?_
 refine .z zg (.nil (.seq (.ai (.z (zfa dx) (.y hs (zld ae) (.z (zfa da) (.z (zfa di) (.y hs (zld ae) (.z ij ?_)))))))))
 refine .nil ?_
 refine (.eQ rfl (fun hc12=>?_) (fun hc12=>?_))
 ·refine .ai (.z zg (.nil ?_))
  refine .ret (rT (Fin.bJ Tryz.results241 rfl ?_))
  exact ⟨H,HLe.refl H,by rw [hW,if_neg aj],hs.out⟩
 ·refine .skip ?_
  refine nT ?_
  refine .ai (.z (zfa fu) (.z (zfa bA) (.y hs (zld ak) ?_)))
  refine .o (.call Tryz.call273 rfl (kX hs h1) ?_);rintro _ w ⟨H1,vo,e,hle1,rfl,hGx,hs⟩
  obtain ⟨rfl,hG⟩:=hGx hok.st
  obtain ⟨aG,cG,rfl⟩:=RI.shape hG
  refine .z zm (.z zex (.z zex (.z zg (.z zg (.nil (.ai (.z zm (.z (zfa dK) (.y hs (zld ae) ?_)))))))))
  refine .ixY hs hG rfl rfl aa af (bL (l:=(wts s.st)) (i:=i) aj) dy ?_;intro b23 o23 hc23
  refine .q hs (aK rfl ae hc23) ?_
  refine .z zg (.nil ?_)
  refine .ret (Fin.bJ Tryz.results241 rfl ?_)
  exact ⟨H1,hle1,by rw [hW,if_pos aj],hs.out⟩
theorem q5{s:Spc}{q:Wht}{vst vwa:Value}{i k:Nat}{u:Int}(hs:St H w σ)(h2:RI H vwa s.wa)(hok:fX s)(hk1:q.kind=3)(hk:k<s.wa.length):
  Cl Tryz.prog 244 [.agg #[I q.kind,I q.st,I q.wa,I s.id,I s.src,vst,vwa,I s.al,I s.up],.agg #[I (i:Int),I (k:Int),I u]] w fun v w'=>∃H1,HLe H H1∧v=I (kb s q i k)∧St H1 w' σ:=by
 have hW:kb s q i k=if (i:Int)=q.st then gi (wts s.wa) k else 0:=by unfold kb;rw [if_neg aj,if_neg aj,if_pos hk1]
 have hl:=eJ s.wa
 refine Cl.o Tryz.func244 Tryz.ntmps244 ag2 ?_
 refine .ai ?_
 refine .bx hs fun b2 w hs=>?_
 refine .bx hs fun b3 w hs=>?_
 refine .z zg (.nil (.seq (.ai (.z (zfa dK) (.y hs (zld ae) (.z (zfa da) (.z (zfa eg) (.y hs (zld ae) (.z ij ?_)))))))))
 refine .nil ?_
 refine (.eQ rfl (fun hc12=>?_) (fun hc12=>?_))
 ·refine .ai (.z zg (.nil ?_))
  refine .ret (rT (Fin.bJ Tryz.results244 rfl ?_))
  exact ⟨H,HLe.refl H,by rw [hW,if_neg aj],hs.out⟩
 ·refine .skip ?_
  refine nT ?_
  refine .ai (.z (zfa fu) (.z (zfa bj) (.y hs (zld ak) ?_)))
  refine .o (.call Tryz.call273 rfl (kX hs h2) ?_);rintro _ w ⟨H1,vo,e,hle1,rfl,hGx,hs⟩
  obtain ⟨rfl,hG⟩:=hGx (yg hok)
  obtain ⟨aG,cG,rfl⟩:=RI.shape hG
  refine .z zm (.z zex (.z zex (.z zg (.z zg (.nil (.ai (.z zm (.z (zfa dx) (.y hs (zld ae) ?_)))))))))
  refine .ixY hs hG rfl rfl aa af (bL (l:=(wts s.wa)) (i:=k) aj) dy ?_;intro b23 o23 hc23
  refine .q hs (aK rfl ae hc23) ?_
  refine .z zg (.nil ?_)
  refine .ret (Fin.bJ Tryz.results244 rfl ?_)
  exact ⟨H1,hle1,by rw [hW,if_pos aj],hs.out⟩
theorem sf{s:Spc}{q:Wht}{vst vwa:Value}{i k:Nat}{u:Int}(hs:St H w σ)(hk1:q.kind=4):
  Cl Tryz.prog 246 [.agg #[I q.kind,I q.st,I q.wa,I s.id,I s.src,vst,vwa,I s.al,I s.up],.agg #[I (i:Int),I (k:Int),I u]] w fun v w'=>∃H1,HLe H H1∧v=I (kb s q i k)∧St H1 w' σ:=by
 have hW:kb s q i k=if (i:Int)=q.st∧(k:Int)=q.wa then 1 else 0:=by unfold kb;rw [if_neg aj,if_neg aj,if_neg aj]
 refine Cl.o Tryz.func246 Tryz.ntmps246 ag2 ?_
 refine .ai ?_
 refine .bx hs fun b2 w hs=>?_
 refine .bx hs fun b3 w hs=>?_
 refine .z zg (.nil (.seq (.ai (.z (zfa dK) (.y hs (zld ae) (.z (zfa da) (.z (zfa eg) (.y hs (zld ae) (.z ij ?_)))))))))
 refine .z zm ?_
 refine .yF (t':=11) rfl (fun hb11=>?_) (fun hb11=>?_)
 ·refine .gFs 6 6 false rfl rfl rfl ?_
  refine .z zpT (.nil ?_)
  refine (.cT ?_)
  refine .ai (.z zg (.nil ?_))
  refine .ret (rT (Fin.bJ Tryz.results246 rfl ?_))
  first
  |exact ⟨H,HLe.refl H,by rw [hW,if_neg aj],hs.out⟩
  |exact ⟨H,HLe.refl H,by rw [hW,if_pos aj],hs.out⟩
 ·refine .gT rfl rfl ?_
  refine .z (zfa dx) ?_
  refine .gT rfl rfl ?_
  refine .y hs (zld ae) ?_
  refine .gT rfl rfl ?_
  refine .z (zfa da) ?_
  refine .gT rfl rfl ?_
  refine .z (zfa di) ?_
  refine .gT rfl rfl ?_
  refine .y hs (zld ae) ?_
  refine .gT rfl rfl ?_
  refine .z ij (.z zpF (.nil ?_))
  refine (.eQ rfl (fun hc18=>?_) (fun hc18=>?_))
  ·refine .ai (.z zg (.nil ?_))
   refine .ret (rT (Fin.bJ Tryz.results246 rfl ?_))
   first
   |exact ⟨H,HLe.refl H,by rw [hW,if_neg aj],hs.out⟩
   |exact ⟨H,HLe.refl H,by rw [hW,if_pos aj],hs.out⟩
  ·refine .skip ?_
   refine nT ?_
   refine .ai (.z zg (.nil ?_))
   refine .ret (Fin.bJ Tryz.results246 rfl ?_)
   first
   |exact ⟨H,HLe.refl H,by rw [hW,if_neg aj],hs.out⟩
   |exact ⟨H,HLe.refl H,by rw [hW,if_pos aj],hs.out⟩
def zW(k:Int):Nat:=if k=1 then 237 else if k=2 then 240 else if k=3 then 242 else 245
def zT(k:Int):Nat:=if k=1 then 239 else if k=2 then 241 else if k=3 then 244 else 246
def ze(k:Int):Value:= .agg #[.func (.func (zW k)) #[] #[],.func (.func (zT k)) #[] #[],I (ml ⟨k,0,0⟩)]
def EL:List MapEntry:=[{key:=I 1,val:=ze 1,born:=0},{key:=I 2,val:=ze 2,born:=1},{key:=I 3,val:=ze 3,born:=2},{key:=I 4,val:=ze 4,born:=3}]
theorem la(hs:St H w σ):
  Cl Tryz.prog 189 [] w fun v w'=>∃b,v= .map (some b)∧St H w' (.obj b (.map EL.toArray 4)::σ):=by
 refine Cl.of Tryz.func189 rfl Tryz.ntmps189 bV (wI) ?_
 refine .ai (.z zg (.nil (.ai ?_)))
 refine .o (.makeMap hs fun b1 w hs=>?_)
 refine .z (zbd [_,_,_] iM) ?_
 refine .o (.insert (es:=[]) hs rfl rfl rfl eW bp rfl fun w hs=>?_)
 refine .z (zbd [_,_,_] iM) ?_
 refine .o (.insert (es:=[{key:=I 1,val:=ze 1,born:=0}]) hs rfl rfl rfl eW bp rfl fun w hs=>?_)
 refine .z (zbd [_,_,_] iM) ?_
 refine .o (.insert (es:=[{key:=I 1,val:=ze 1,born:=0},{key:=I 2,val:=ze 2,born:=1}]) hs rfl rfl rfl eW bp rfl fun w hs=>?_)
 refine .z (zbd [_,_,_] iM) ?_
 refine .o (.insert (es:=[{key:=I 1,val:=ze 1,born:=0},{key:=I 2,val:=ze 2,born:=1},{key:=I 3,val:=ze 3,born:=2}]) hs rfl rfl rfl eW bp rfl fun w hs=>?_)
 refine .z zm (.z zg (.nil ?_))
 refine .ret (Fin.bJ Tryz.results189 rfl ?_)
 exact ⟨b1,rfl,hs⟩
def lF1(k:Int):Value:=if 1≤k∧k≤4 then .func (.func (zW k)) #[] #[] else .nilFunc
def lF2(k:Int):Value:=if 1≤k∧k≤4 then .func (.func (zT k)) #[] #[] else .nilFunc
def lD(k:Int):Int:=if 1≤k∧k≤4 then ml ⟨k,0,0⟩ else 0
theorem zd(k:Int):[lF1 k,lF2 k,I (lD k)].all Value.oneCell'=true:=by
 unfold lF1 lF2;split<;>rfl
theorem AY{H:cf}{s:FS}{x y:Operand}{b:Nat}(k:Int)(hx:FS.ev s x=some (.map (some b)))(hy:FS.ev s y=some (I k)):
  QJ Tryz.prog H [.obj b (.map EL.toArray 4)] s (.lookup 233 x y true) (.tuple #[.agg #[lF1 k,lF2 k,I (lD k)],.bool (decide (1≤k∧k≤4))]):=by
 by_cases h:1≤k∧k≤4
 ·rw [decide_eq_true h]
  have h4:k=1∨k=2∨k=3∨k=4:=by omega
  rcases h4 with rfl|rfl|rfl|rfl
  ·exact yZ (v:=ze 1) (j:=0) hx hy eW bp rfl .here
  ·exact yZ (v:=ze 2) (j:=1) hx hy eW bp rfl .here
  ·exact yZ (v:=ze 3) (j:=2) hx hy eW bp rfl .here
  ·exact yZ (v:=ze 4) (j:=3) hx hy eW bp rfl .here
 ·rw [decide_eq_false h]
  have e1:lF1 k= .nilFunc:=if_neg h
  have e2:lF2 k= .nilFunc:=if_neg h
  have e3:lD k=0:=if_neg h
  rw [e1,e2,e3]
  refine Ea (es:=EL) (c:=4) hx hy eW bp Gx ?_ .here
  have n1:(k==1)=false:=by simp only [beq_eq_false_iff_ne];omega
  have n2:(k==2)=false:=by simp only [beq_eq_false_iff_ne];omega
  have n3:(k==3)=false:=by simp only [beq_eq_false_iff_ne];omega
  have n4:(k==4)=false:=by simp only [beq_eq_false_iff_ne];omega
  simp [Instr.findNow,Instr.sameNow,EL,n1,n2,n3,n4]
theorem Cr(k:Int):∀args w,(callFunc (zW k) args).run Tryz.prog w= .ok (.enter (zW k) args) w:=by
 unfold zW
 split
 ·exact Tryz.call237
 ·split
  ·exact Tryz.call240
  ·split
   ·exact Tryz.call242
   ·exact Tryz.call245
theorem Cb(k:Int):∀args w,(callFunc (zT k) args).run Tryz.prog w= .ok (.enter (zT k) args) w:=by
 unfold zT
 split
 ·exact Tryz.call239
 ·split
  ·exact Tryz.call241
  ·split
   ·exact Tryz.call244
   ·exact Tryz.call246
theorem Cq{s:Spc}{q:Wht}{vst vwa:Value}(hs:St H w σ)(h1:RI H vst s.st)(h2:RI H vwa s.wa)(hk:1≤q.kind∧q.kind≤4):
  Cl Tryz.prog (zW q.kind) [.agg #[I q.kind,I q.st,I q.wa,I s.id,I s.src,vst,vwa,I s.al,I s.up]] w fun v w'=>∃b:Bool,v= .bool b∧(b=true↔fm s q)∧St H w' σ:=by
 unfold zW
 split
 ·exact xp hs h2 cD
 ·split
  ·exact xo hs h2 cD
  ·split
   ·exact xn hs h1 cD
   ·exact xm hs h1 h2 aj
theorem Ca{s:Spc}{q:Wht}{vst vwa:Value}{i k:Nat}{u:Int}(hs:St H w σ)(h1:RI H vst s.st)(h2:RI H vwa s.wa)(hok:fX s)(hq:fm s q)(hk:1≤q.kind∧q.kind≤4)(hi:i<s.st.length)(hkw:k<s.wa.length):
  Cl Tryz.prog (zT q.kind) [.agg #[I q.kind,I q.st,I q.wa,I s.id,I s.src,vst,vwa,I s.al,I s.up],.agg #[I (i:Int),I (k:Int),I u]] w fun v w'=>∃H1,HLe H H1∧v=I (kb s q i k)∧St H1 w' σ:=by
 unfold zT
 split
 ·exact sh hs h1 h2 hok hq cD hi
 ·split
  ·exact s6 hs h1 hok cD hi
  ·split
   ·exact q5 hs h2 hok cD hkw
   ·exact sf hs aj
theorem Ft{q:Wht}(h:1≤q.kind∧q.kind≤4):lD q.kind=ml q:=by
 unfold lD;rw [if_pos h];rfl
theorem B8{s:Spc}{q:Wht}(h:fm s q):1≤q.kind∧q.kind≤4:=by
 rcases nk.1 h with h|h|h|h<;>omega
set_option maxHeartbeats 1000000 in
theorem kr{s:Spc}{q:Wht}{vst vwa:Value}(hs:St H w σ)(h1:RI H vst s.st)(h2:RI H vwa s.wa)(hok:fX s):
  Cl Tryz.prog 102 [.agg #[I s.id,I s.src,vst,vwa,I s.al,I s.up],.agg #[I q.kind,I q.st,I q.wa]] w fun u w'=>∃H1 vl L d b en,HLe H H1∧u= .tuple #[vl,I d,.bool b]∧cn 1 vl (Is L) en∧((b=true∧fm s q∧L=lA s q∧d=ml q)∨(b=false∧¬fm s q∧L=[]∧d=0))∧St H1 w' (en::σ):=by
 have hsm:=fk hok
 obtain ⟨ast,cst,rfl⟩:=RI.shape h1
 obtain ⟨awa,cwa,rfl⟩:=RI.shape h2
 refine Cl.o Tryz.func102 Tryz.ntmps102 ag2 ?_
 refine .ai ?_
 refine .bx hs fun b2 w hs=>?_
 refine .bx hs fun b3 w hs=>?_
 refine .z zg (.z zg (.z zg (.nil ?_)))
 refine .cut (fun fs w=>∃b7,j9 fs ⟨46,[],[(8,.bool (decide (1≤q.kind∧q.kind≤4))),(7,.pointer (some ⟨b7,0,none⟩)),(2,.pointer (some ⟨b2,0,none⟩)),(3,.pointer (some ⟨b3,0,none⟩))]⟩∧St H w (.blk b7 [lF1 q.kind,lF2 q.kind,I (lD q.kind)]:: .blk b3 [I q.kind,I q.st,I q.wa]:: .blk b2 [I s.id,I s.src,(.slice ast s.st.length cst),(.slice awa s.wa.length cwa),I s.al,I s.up]::σ)) ?_ ?_
 ·refine .draw mix rfl hs fun w hs=>?_
  refine .z 1 rfl (zfa kA) ?_;refine .y 2 rfl hs ae ?_
  refine .e2 (i:=0) (j:=7) an rfl rfl rfl rfl .none .none hs ?_ ?_
  ·refine .call Tryz.call189 rfl (la hs) ?_;rintro _ w ⟨b13,rfl,hs⟩
   refine .go ?_
   refine .q (i:=3) [.obj b13 (.map EL.toArray 4)] rfl an .none (AY (H:= .bot) q.kind rfl rfl) ?_
   refine .z 4 rfl zm ?_;refine .z 5 rfl zex ?_;refine .z 6 rfl zex ?_
   refine .E 7 hs ?_
   refine .alloc hs Gx rfl ?_;intro b7 w hs
   refine .go ?_
   refine .E 8 hs ?_
   refine .aU (vs:=[lF1 q.kind,lF2 q.kind,I (lD q.kind)]) hs rfl rfl Tryz.sizeOf231 ?_ (hv:=zd _);intro w hs
   refine .go ?_
   refine .z 9 rfl zg ?_;refine .D hs ?_
   exact nT ⟨b7,aR,hs.sb⟩
  ·refine .alloc hs Gx rfl ?_;intro b7 w hs
   refine .go ?_
   refine .E 0 hs ?_
   refine .call Tryz.call189 rfl (la hs) ?_;rintro _ w ⟨b13,rfl,hs⟩
   refine .go ?_
   refine .q (i:=3) [.obj b13 (.map EL.toArray 4)] rfl an .none (AY (H:= .bot) q.kind rfl rfl) ?_
   refine .z 4 rfl zm ?_;refine .z 5 rfl zex ?_;refine .z 6 rfl zex ?_
   refine .E 8 hs ?_
   refine .aU (vs:=[lF1 q.kind,lF2 q.kind,I (lD q.kind)]) hs rfl rfl Tryz.sizeOf231 ?_ (hv:=zd _);intro w hs
   refine .go ?_
   refine .z 9 rfl zg ?_;refine .D hs ?_
   exact nT ⟨b7,aR,hs.sb⟩
 ·rintro fs w ⟨b7,hfs,hs⟩
  refine WE.sub ?_ hfs
  refine .ai (.y hs (zls [_,_,_] bX bh) (.y hs (zls [_,_,_,_,_,_] aQ aI) (.z (zbd (vs:=[(0,.agg #[I q.kind,I q.st,I q.wa]),(1,.agg #[I s.id,I s.src,(.slice ast s.st.length cst),(.slice awa s.wa.length cwa),I s.al,I s.up])]) [I q.kind,I q.st,I q.wa,I s.id,I s.src,(.slice ast s.st.length cst),(.slice awa s.wa.length cwa),I s.al,I s.up] sD rfl an) ?_)))
  refine .o (.alloc hs Tryz.zeroValue236 rfl fun b9 w hs=>?_)
  refine .o (.aU (vs:=[_,_,_,_,_,_,_,_,_]) hs rfl rfl kS fun w hs=>?_)
  refine .nil (.seq (.ai (.z zm (.z ir (.z zm ?_)))))
  refine .bif (t':=24) rfl (fun hb24=>?_) (fun hb24=>?_)
  ·refine .gFs 5 2 false rfl rfl rfl ?_
   refine .z zpT (.nil ?_)
   refine (.cT ?_)
   refine .ai (.z zg (.z zg (.z zg (.nil ?_))))
   refine .ret (rT (?_))
   have hn:¬fm s q:=fun h=>by have:=B8 h;simp [this] at hb24
   exact Fin.iK [] [] hs fun w hs=>⟨_,results3 Tryz.results102 rfl rfl rfl,H,_,[],_,_,.nul,HLe.refl H,rfl,.nil 1 none,.inr ⟨rfl,hn,rfl,rfl⟩,hs.out.nul⟩
  ·refine .gT rfl rfl ?_
   have hk:1≤q.kind∧q.kind≤4:=by simpa using hb24
   rw [show lF1 q.kind= .func (.func (zW q.kind)) #[] #[] from if_pos hk,show lF2 q.kind= .func (.func (zT q.kind)) #[] #[] from if_pos hk,Ft hk] at hs
   refine .z (zfa rJ) ?_
   refine .gT rfl rfl ?_
   refine .y hs (zld Tryz.isAgg228) ?_
   refine .gT rfl rfl ?_
   refine .y hs (zls [_,_,_,_,_,_,_,_,_] qW kS) ?_
   refine .gT rfl rfl ?_
   refine .o (.pH (first:=[]) (cap:=[]) rfl rfl (Cr q.kind) (Cq (s:=s) hs h1 h2 hk) ?_);rintro _ w ⟨b28,rfl,hb28,hs⟩
   refine .gT rfl rfl ?_
   refine .z ir (.z zpF (.nil ?_))
   refine (.cond rfl (fun hc30=>?_) (fun hc30=>?_))
   ·refine .ai (.z zg (.z zg (.z zg (.nil ?_))))
    refine .ret (rT (?_))
    have hn:¬fm s q:=fun h=>by rw [hb28.2 h] at hc30;cases hc30
    exact Fin.iK [] [] hs fun w hs=>⟨_,results3 Tryz.results102 rfl rfl rfl,H,_,[],_,_,.nul,HLe.refl H,rfl,.nil 1 none,.inr ⟨rfl,hn,rfl,rfl⟩,hs.out.nul⟩
   ·refine .skip ?_
    refine nT ?_
    refine .ai ?_
    refine .o (.buildSlice (cells:=[_]) hs dv rfl rfl fun b31 w hs=>?_)
    refine .o (.alloc hs ek rfl fun b10 w hs=>?_)
    refine .o (.store hs rfl rfl aC fun w hs=>?_)
    refine .nil (.seq (.ai (.y hs (zls [_,_,_,_,_,_] aQ aI) ?_)))
    have hq:fm s q:=hb28.1 (by simpa using hc30)
    refine .o (.call GB rfl (gK (s:=s) hs h1 h2 ⟨aj,aj⟩) ?_);rintro _ w ⟨H1,ba,hle1,rfl,hit,hs⟩
    have hwl:=fR s q
    refine .nil (.block ?_)
    refine .rangeFunc (gf:=190) (cap:=[.pointer (some ⟨ba,0,none⟩)]) (xs:=wQ s) (σb:=[.blk b10 [.slice (some ⟨b31,0,none⟩) 1 1],.blk b31 (Is [0]),.blk b7 [.func (.func (zW q.kind)) #[] #[],.func (.func (zT q.kind)) #[] #[],I (ml q)],.blk b9 [I q.kind,I q.st,I q.wa,I s.id,I s.src,(.slice ast s.st.length cst),(.slice awa s.wa.length cwa),I s.al,I s.up]]) (σf:=σ) (hs.sb) trivial rfl hit Gz (fun x hx=>by
      simp only [wQ,List.mem_map] at hx
      obtain ⟨j,_,rfl⟩:=hx;rfl) rfl
     (I:=fun p H' σb=>∃vo en,σb=[.blk b10 [vo],en,.blk b7 [.func (.func (zW q.kind)) #[] #[],.func (.func (zT q.kind)) #[] #[],I (ml q)],.blk b9 [I q.kind,I q.st,I q.wa,I s.id,I s.src,(.slice ast s.st.length cst),(.slice awa s.wa.length cwa),I s.al,I s.up]]∧cn 1 vo (Is ((lA s q).take (p+1))) en) (Ix:=fun _ _ _=>False)
     (fun j _ _ σ g1 g2=>g2) (fun _ _ _ _ _ h=>h) ⟨_,_,rfl,.full rfl⟩ ?_ ?_ (fun D c H' σb w _ h _=>h.elim)
    ·rintro ly p hp H2 σb2 σf2 w hle2 ⟨vo,en,rfl,hO⟩ hs ⟨rr,hrr⟩
     have hpm:p<s.many:=by rw [fj] at hp;exact hp
     have hin:p/s.wa.length<s.st.length:=Nat.div_lt_of_lt_mul (by rw [Nat.mul_comm];exact hpm)
     have hkm:=Nat.mod_lt p hsm.2.2.1
     have hws:=s5 s q hpm
     have hget:(lA s q)[p+1]? =some (kb s q (p/s.wa.length) (p%s.wa.length)):=by rw [←hws];exact bL aj
     rw [oz hp]
     obtain ⟨al,ll,cl,rfl,hll⟩:=hO.shape
     generalize p/s.wa.length=i at*
     generalize p%s.wa.length=k at*
     refine .region ?_
     refine .o (.alloc hs oO rfl fun b11 w hs=>?_)
     refine .o (.aU (vs:=[_,_,_]) hs rfl rfl uK fun w hs=>?_)
     refine .nil ?_
     refine nT ?_
     refine ⟨H2,[.blk b11 [I (i:Int),I (k:Int),I ((p+1:Nat):Int)],.blk b10 [Value.slice al ll cl],en,.blk b7 [.func (.func (zW q.kind)) #[] #[],.func (.func (zT q.kind)) #[] #[],I (ml q)],.blk b9 [I q.kind,I q.st,I q.wa,I s.id,I s.src,(.slice ast s.st.length cst),(.slice awa s.wa.length cwa),I s.al,I s.up]],HLe.refl _,hs,?_⟩;rintro w σf4 - hs
     refine .block ?_
     refine .draw mix rfl hs fun w hs=>?_
     refine .y 0 rfl hs ak ?_;refine .z 1 rfl (zfa rI) ?_
     refine .y 2 rfl hs Tryz.isAgg229 ?_
     refine .ys 3 rfl hs [_,_,_,_,_,_,_,_,_] qW kS ?_;refine .ys 4 rfl hs [_,_,_] Tryz.isAgg158 uK ?_
     refine .E 5 hs ?_
     refine .pH (first:=[]) (cap:=[]) rfl rfl (Cb q.kind) (Ca (s:=s) (q:=q) (i:=i) (k:=k) hs (h1.mono (hle1.trans hle2)) (h2.mono (hle1.trans hle2)) hok hq hk hin hkm) ?_;rintro _ w ⟨H3,hle3,rfl,hs⟩
     refine .go ?_
     refine .E 6 hs ?_
     refine .buildSlice (cells:=[_]) hs dv rfl rfl ?_;intro b41 w hs
     refine .go ?_
     refine .E 7 hs ?_
     refine .append (ys:=Is [kb s q i k]) hs cV rfl rfl hO (.own .here rfl rfl) (jK _) (fun l h=>by simp at h;omega) ?_;intro v42 en42 w hO2 hs
     rw [show Is ((lA s q).take (p+1))++Is [kb s q i k]=Is ((lA s q).take (p+1+1)) by rw [ep hget];simp [Is]] at hO2
     obtain ⟨a42,l42,c42,rfl,h42⟩:=hO2.shape
     refine .go ?_
     refine .E 8 hs ?_
     refine .store hs rfl rfl aC ?_;intro w hs
     refine .go ?_
     refine .D hs ?_
     refine nB ?_
     exact ⟨H3,[.blk b10 [.slice a42 l42 c42],en42,.blk b7 [.func (.func (zW q.kind)) #[] #[],.func (.func (zT q.kind)) #[] #[],I (ml q)],.blk b9 [I q.kind,I q.st,I q.wa,I s.id,I s.src,(.slice ast s.st.length cst),(.slice awa s.wa.length cwa),I s.al,I s.up]],hle3,(hs.sb:St H3 w (.blk b10 _::en42:: .blk b7 _:: .blk b9 _::σf4)),_,_,rfl,hO2⟩
    ·rintro D H2 σb2 w hle2 ⟨vo,en,rfl,hO⟩ hs
     rw [fj,←hwl,List.take_length] at hO
     replace hs:St H2 w (.obj D (.deferred (some [])):: .blk b10 [vo]::en:: .blk b7 [.func (.func (zW q.kind)) #[] #[],.func (.func (zT q.kind)) #[] #[],I (ml q)]:: .blk b9 [I q.kind,I q.st,I q.wa,I s.id,I s.src,(.slice ast s.st.length cst),(.slice awa s.wa.length cwa),I s.al,I s.up]::σ):=hs
     obtain ⟨al,ll,cl,rfl,hll⟩:=hO.shape
     refine nB (nT ?_)
     refine .seq (.draw mix rfl hs fun w hs=>?_)
     refine .y 0 rfl hs ak ?_;refine .z 1 rfl (zfa rH) ?_;refine .y 2 rfl hs ae ?_;refine .z 3 rfl zg ?_;refine .z 4 rfl zg ?_;refine .z 5 rfl zg ?_;refine .D hs ?_
     refine .ret ?_
     exact Fin.iK [D] [] hs fun w hs=>⟨_,results3 Tryz.results102 rfl rfl rfl,H2,_,_,_,_,en,hle1.trans hle2,rfl,hO,.inl ⟨rfl,hq,rfl,rfl⟩,hs.sb⟩
theorem ft{a d:Int}(hs:St H w σ)(hd:1≤d)(ha: -4608000000000000000≤a∧a≤4608000000000000000):
  Cl Tryz.prog 86 [I a,I d] w fun v w'=>v=I (a/d)∧St H w' σ:=by
 have hq: -4608000000000000000≤a.tdiv d∧a.tdiv d≤4608000000000000000:=by
  have h1:=sR (n:=a) (d:=d) aj
  have h2:a/d≤4608000000000000000:=Int.ediv_le_of_le_mul aj (by
   have:=Int.mul_le_mul_of_nonneg_left hd (show (0:Int)≤4608000000000000000 by omega);omega)
  have h3: -4608000000000000000≤a/d:=Int.le_ediv_of_mul_le aj (by
   have:=Int.mul_le_mul_of_nonneg_left hd (show (0:Int)≤4608000000000000000 by omega);omega)
  by_cases h0:0≤a
  ·rw [Int.tdiv_eq_ediv_of_nonneg h0];omega
  ·split at h1
   ·have:a/d<0:=Int.ediv_neg_of_neg_of_pos aj aj
    omega
   ·omega
 have hfl:=sR (n:=a) (d:=d) aj
 refine Cl.o Tryz.func86 Tryz.ntmps86 ag2 ?_
 refine .ai (.z zg (.nil (.ai (.z zm (.z zm ?_)))))
 refine .q hs (uY rfl rfl aj ⟨aj,aj⟩) ?_
 refine .z zg (.nil (.seq (.ai (.z zm (.z zm (.z B6 (.z gx (.nil ?_))))))))
 refine (.bM rfl (fun hc12=>?_) (fun hc12=>?_))
 ·refine .region (.z zm (.z gW (.z zg (.nil ?_))))
  refine nT ?_
  refine .ai (.z zm (.z zg (.nil ?_)))
  refine .ret (Fin.bJ Tryz.results86 rfl ?_)
  rw [if_pos hc12] at hfl
  exact ⟨by rw [hfl],hs⟩
 ·refine .skip ?_
  refine nT ?_
  refine .ai (.z zm (.z zg (.nil ?_)))
  refine .ret (Fin.bJ Tryz.results86 rfl ?_)
  rw [if_neg hc12,Int.sub_zero] at hfl
  exact ⟨by rw [hfl],hs⟩
theorem px{s:Srv}{vst vwa vr vc:Value}(hs:St H w σ)(h1:RI H vst s.sp.st)(h2:RI H vwa s.sp.wa)(h3:RRd H vr s.rs)(h4:RCm H vc s.cs)(hok:eS s):
  Cl Tryz.prog 169 [.agg #[I s.sp.id,I s.sp.src,vst,vwa,I s.sp.al,I s.sp.up,vr,vc]] w fun u w'=>∃H1,∃b:Bool,HLe H H1∧u= .bool b∧(b=true↔s.sys.Sound)∧St H1 w' σ:=by
 refine Cl.o Tryz.func169 Tryz.ntmps169 ag1 ?_
 refine .ai ?_
 refine .bx hs fun b1 w hs=>?_
 refine .z zg (.nil (.ai (.y hs (zls [_,_,_,_,_,_,_,_] aO aF) ?_)))
 refine .o (.call Dp rfl (fA (s:=s) hs h1 h2 h3 h4 hok.early) ?_);rintro v7 w ⟨H1,hle1,hS,hs⟩
 refine .o (.call Tryz.call51 rfl (sA (s:=s.sys) hs hS) ?_);rintro _ w ⟨H2,vx,xs,e,hle2,rfl,rx,hC,hs⟩
 obtain ⟨ax,cx,rfl⟩:=RI.shape rx
 have hchk:s.sys.check=0:=s.sys.dt.2 hok.sys
 obtain rfl:e=0:=by
  cases hC with
  |bad h=>exact (h hchk).elim
  |sound=>rfl
  |chain=>rfl
 have hiff:=hC.AM
 refine .z zm (.z zex (.z zex (.z zg (.z zg (.nil (.ai (.z zm (.z gC (.z zm ?_)))))))))
 refine .iB (t':=13) rfl (fun hb13=>?_) (fun hb13=>?_)
 ·refine .gT rfl rfl ?_
  refine .z zm ?_
  refine .gT rfl rfl ?_
  refine .z (c9 aa) ?_
  refine .gT rfl rfl ?_
  refine .z gC (.z zpT (.z zg (.nil ?_)))
  refine .ret (Fin.bJ Tryz.results169 rfl ?_)
  first
  |exact ⟨H2,_,hle1.trans hle2,rfl,by rw [←hiff,decide_eq_true_eq];exact ⟨fun h=>List.length_eq_zero_iff.1 aj,fun h=>by rw [h];rfl⟩,hs.out⟩
  |exact (hb13 rfl).elim
 ·refine .gFs 3 2 true rfl rfl rfl ?_
  refine .z zpF (.z zg (.nil ?_))
  refine .ret (Fin.bJ Tryz.results169 rfl ?_)
  first
  |exact ⟨H2,_,hle1.trans hle2,rfl,by rw [←hiff,decide_eq_true_eq];exact ⟨fun h=>List.length_eq_zero_iff.1 aj,fun h=>by rw [h];rfl⟩,hs.out⟩
  |exact (hb13 rfl).elim
theorem zL(L:List Int)(j:Nat):L++List.replicate j 0++[0]=L++List.replicate (j+1) 0:=by
 rw [List.append_assoc,←List.replicate_succ']
set_option maxHeartbeats 1000000 in
theorem mP{s:Srv}{q:Wht}{vst vwa vr vc:Value}(hs:St H w σ)(h1:RI H vst s.sp.st)(h2:RI H vwa s.sp.wa)(h3:RRd H vr s.rs)(h4:RCm H vc s.cs)(hok:eS s):
  Cl Tryz.prog 155 [.agg #[I s.sp.id,I s.sp.src,vst,vwa,I s.sp.al,I s.sp.up,vr,vc],.agg #[I q.kind,I q.st,I q.wa]] w fun u w'=>∃H1 ul vw L d b,HLe H H1∧u= .tuple #[.agg #[I s.sys.many,ul,vw,I d],.bool b]∧RL H1 ul s.cO∧RI H1 vw L∧L.length=s.sys.n∧((b=true∧fm s.sp q∧L=s.w q∧d=ml q)∨(b=false∧¬fm s.sp q))∧St H1 w' σ:=by
 have hn:=tj s
 have hm:=hok.many
 have hsm:s.sys.many+1=(s.sys.n:Int):=by rw [hn];show ((s.sp.many+s.bP.length:Nat):Int)+1=_;omega
 refine Cl.o Tryz.func155 Tryz.ntmps155 ag2 ?_
 refine .ai ?_
 refine .bx hs fun b2 w hs=>?_
 refine .bx hs fun b3 w hs=>?_
 refine .o (.alloc hs kE rfl fun b4 w hs=>?_)
 refine .z zg (.nil (.ai (.y hs (zls [_,_,_,_,_,_,_,_] aO aF) ?_)))
 refine .o (.call Dp rfl (fA (s:=s) hs h1 h2 h3 h4 hok.early) ?_);rintro _ w ⟨H1,hle1,⟨ul,rfl,hL⟩,hs⟩
 obtain ⟨al,cl,rfl⟩:=RL.shape hL
 refine .o (.alloc hs dj rfl fun b6 w hs=>?_)
 refine .o (.aU (vs:=[_,_]) hs rfl rfl aE fun w hs=>?_)
 refine .nil (.ai (.z (zfa aS) (.y hs (zls [_,_,_,_,_,_] aQ aI) (.y hs (zls [_,_,_] bX bh) ?_))))
 refine .o (.call Tryz.call102 rfl (kr (s:=s.sp) (q:=q) hs (h1.mono hle1) (h2.mono hle1) hok.early.1) ?_);rintro _ w ⟨H2,vl,L0,d,b,en,hle2,rfl,hO,hcase,hs⟩
 have hL0:L0.length≤s.sys.n:=by
  rcases hcase with ⟨_,_,rfl,_⟩|⟨_,_,rfl,_⟩
  ·rw [fR,hn];omega
  ·simp
 have hle02:=hle1.trans hle2
 refine .z zm (.z zex (.z zex (.z zex (.z zg (.z zg (.z zg (.nil (.seq (.block ?_)))))))))
 refine .loop (fun p:Nat×Value=>⟨34,[],[(7,p.2),(8,I d),(9,.bool b),(6,.pointer (some ⟨b6,0,none⟩)),(4,.pointer (some ⟨b4,0,none⟩))]⟩)
  (fun p w=>L0.length+p.1≤s.sys.n∧∃en,cn 1 p.2 (Is (L0++List.replicate p.1 0)) en∧St H2 w (en:: .blk b6 [I s.sys.many,.slice al s.cO.length cl]:: .blk b4 [I 0,.slice none 0 0,.slice none 0 0,I 0]::σ)) (fun p=>s.sys.n - (L0.length+p.1)) (0,vl) aR
  ⟨by simpa using hL0,en,by simpa using hO,hs.sb⟩ ?_
 clear hO hs
 rintro ⟨j,vo⟩ w ⟨hj,en,hO,hs⟩
 dsimp only at hj hO ⊢
 obtain ⟨ao,lo,co,rfl,hlo⟩:=hO.shape
 have hlo':lo=L0.length+j:=by simp [Is] at hlo;omega
 refine .seq (.ai (.z zm (.z (c9 aa) (.z (zfa bH) (.y hs (zld ae) (.z cq (.z gx (.nil ?_))))))))
 refine (.bM rfl (fun hc25=>?_) (fun hc25=>?_))
 ·refine .skip ?_
  refine nT ?_
  refine .block (.region (.z zm ?_))
  refine .o (.buildSlice (cells:=[_]) hs dv rfl rfl fun b27 w hs=>?_)
  refine .o (.append (ys:=Is [0]) hs cV rfl rfl hO (.own .here rfl rfl) (jK _) (fun l' h=>by simp [Is] at h;omega) ?_);intro v28 en28 w hO2 hs
  rw [show Is (L0++List.replicate j 0)++Is [0]=Is (L0++List.replicate (j+1) 0) by rw [←zL];simp [Is]] at hO2
  refine .z zg (.nil ?_)
  refine nB (nT ?_)
  exact ⟨(j+1,v28),aR,⟨by dsimp only;omega,_,hO2,hs.sb⟩,by dsimp only;omega⟩
 ·refine .exit ?_
  refine xT (xT (xB (nT ?_)))
  refine .ai (.y hs (zls [_,_] aT aE) (.z zm (.z zm (.z (zbd [_,_,_,_] gd) (.z zm ?_)))))
  refine .o (.aU (vs:=[_,_,_,_]) hs rfl rfl dE fun w hs=>?_)
  refine .z zg (.nil ?_)
  refine .ret ?_
  have hjn:L0.length+j=s.sys.n:=by omega
  obtain ⟨H3,hle3,hR,hs⟩:=cn.dI hO (by simp;omega) hs cZ
  exact Fin.iK [] [] hs fun w hs=>⟨_,results2 Tryz.results155 (dJ (vs:=[_,_,_,_]) hs rfl mG dE) rfl,H3,_,_,_,d,b,hle02.trans hle3,rfl,hL.mono (hle2.trans hle3),hR,by simp;omega,by
   rcases hcase with ⟨g1,g2,rfl,g3⟩|⟨g1,g2,_,_⟩
   ·refine .inl ⟨g1,g2,?_,g3⟩
    rw [fR,hn] at hjn
    unfold Srv.w;rw [show j=s.bP.length by omega]
   ·exact .inr ⟨g1,g2⟩,hs.out⟩
inductive rV(v:Srv)(q:Wht):Int→Prop
 |bad {e:Int} (h:vv v e) (he:e≠0):rV v q e
 |what (h:eS v) (h1:¬fm v.sp q):rV v q 33
 |fls (h:eS v) (h1:fm v.sp q) (h2:¬v.sys.Sound):rV v q 35
 |ok (h:eS v) (h1:fm v.sp q) (h2:v.sys.Sound):rV v q 0
theorem rV.zero{v:Srv}{q:Wht}(h:rV v q 0):eS v∧fm v.sp q∧v.sys.Sound:=by
 generalize hz:(0:Int)=z at h
 cases h with
 |bad h he=>exact (he hz.symm).elim
 |what=>omega
 |fls=>omega
 |ok h h1 h2=>exact ⟨h,h1,h2⟩
theorem rV.qty{v:Srv}{q:Wht}{e:Int}(h:rV v q e)(he:e≠0):xW v q 0 0 e:=by
 cases h with
 |bad h he=>exact .bad h he
 |what h h1=>exact .what h h1
 |fls h h1 h2=>exact .fls h h1 h2
 |ok=>exact (he rfl).elim
set_option maxHeartbeats 1000000 in
theorem ld{s:Srv}{q:Wht}{vst vwa vr vc:Value}(hs:St H w σ)(h1:RI H vst s.sp.st)(h2:RI H vwa s.sp.wa)(h3:RRd H vr s.rs)(h4:RCm H vc s.cs):
  Cl Tryz.prog 85 [.agg #[I s.sp.id,I s.sp.src,vst,vwa,I s.sp.al,I s.sp.up,vr,vc],.agg #[I q.kind,I q.st,I q.wa]] w fun u w'=>∃H1 m ul vw d e,HLe H H1∧u= .tuple #[.agg #[I m,ul,vw,I d],I e]∧(∃a l c,ul= .slice a l c)∧(∃a l c,vw= .slice a l c)∧rV s q e∧(e=0→m=s.sys.many∧RL H1 ul s.cO∧RI H1 vw (s.w q)∧d=ml q)∧St H1 w' σ:=by
 refine Cl.o Tryz.func85 Tryz.ntmps85 ag2 ?_
 refine .ai ?_
 refine .bx hs fun b2 w hs=>?_
 refine .bx hs fun b3 w hs=>?_
 refine .o (.alloc hs kE rfl fun b4 w hs=>?_)
 refine .z zg (.nil (.seq (.ai (.y hs (zls [_,_,_,_,_,_,_,_] aO aF) ?_))))
 refine .o (.call Tryz.call42 rfl (fK (s:=s) hs h1 h2 h3 h4) ?_);rintro _ w ⟨H1,e,hle1,rfl,hC,hs⟩
 refine .z zg (.nil (.ai (.z zm (.z ij (.nil ?_)))))
 refine (.eQ rfl (fun hc12=>?_) (fun hc12=>?_))
 ·refine .ai (.z (zbd [_,_,_,_] gd) (.z zm ?_))
  refine .o (.aU (vs:=[_,_,_,_]) hs rfl rfl dE fun w hs=>?_)
  refine .z zg (.nil ?_)
  refine .ret (rT (?_))
  exact Fin.iK [] [] hs fun w hs=>⟨_,results2 Tryz.results85 (dJ (vs:=[_,_,_,_]) hs rfl mG dE) rfl,H1,_,_,_,_,e,hle1,rfl,⟨_,_,_,rfl⟩,⟨_,_,_,rfl⟩,.bad hC hc12,fun h=>(hc12 h).elim,hs.out⟩
 ·refine .skip ?_
  refine nT ?_
  refine .ai (.y hs (zls [_,_,_,_,_,_,_,_] aO aF) (.y hs (zls [_,_,_] bX bh) ?_))
  have hok:eS s:=hC.dt.1 (by simpa using hc12)
  refine .o (.call Tryz.call155 rfl (mP (s:=s) (q:=q) hs (h1.mono hle1) (h2.mono hle1) (h3.mono hle1) (h4.mono hle1) hok) ?_);rintro _ w ⟨H2,ul,vw,L,d,b,hle2,rfl,hL,hR,hLl,hcase,hs⟩
  have hle02:=hle1.trans hle2
  obtain ⟨al,cl,rfl⟩:=RL.shape hL
  obtain ⟨aw,cw,rfl⟩:=RI.shape hR
  refine .z zm (.z zex (.z zex ?_))
  refine .o (.alloc hs kE rfl fun b7 w hs=>?_)
  refine .o (.aU (vs:=[_,_,_,_]) hs rfl rfl dE fun w hs=>?_)
  refine .z zg (.nil (.seq (.block (.ai (.z zm (.z ir (.z zg (.nil ?_))))))))
  refine (.cond rfl (fun hc21=>?_) (fun hc21=>?_))
  ·refine .ai (.z (zbd [_,_,_,_] gd) ?_)
   refine .o (.aU (vs:=[_,_,_,_]) hs rfl rfl dE fun w hs=>?_)
   refine .z zg (.nil ?_)
   refine .ret (rB (rT (?_)))
   have hq:¬fm s.sp q:=by
    rcases hcase with ⟨g,_⟩|⟨_,g⟩
    ·subst g;cases hc21
    ·exact g
   exact Fin.iK [] [] hs fun w hs=>⟨_,results2 Tryz.results85 (dJ (vs:=[_,_,_,_]) hs rfl mG dE) rfl,H2,_,_,_,_,_,hle02,rfl,⟨_,_,_,rfl⟩,⟨_,_,_,rfl⟩,.what hok hq,fun h=>by omega,hs.out⟩
  ·refine .ai (.y hs (zls [_,_,_,_,_,_,_,_] aO aF) ?_)
   obtain ⟨rfl,hq,rfl,rfl⟩:b=true∧fm s.sp q∧L=s.w q∧d=ml q:=hcase.resolve_right fun h=>by rw [h.1] at hc21;cases hc21
   refine .o (.call Tryz.call169 rfl (px (s:=s) hs (h1.mono hle02) (h2.mono hle02) (h3.mono hle02) (h4.mono hle02) hok) ?_);rintro _ w ⟨H3,b27,hle3,rfl,hb27,hs⟩
   refine .z ir (.z zg (.nil ?_))
   refine (.cond rfl (fun hc25=>?_) (fun hc25=>?_))
   ·refine .ai (.z (zbd [_,_,_,_] gd) ?_)
    refine .o (.aU (vs:=[_,_,_,_]) hs rfl rfl dE fun w hs=>?_)
    refine .z zg (.nil ?_)
    refine .ret (rB (rT (?_)))
    exact Fin.iK [] [] hs fun w hs=>⟨_,results2 Tryz.results85 (dJ (vs:=[_,_,_,_]) hs rfl mG dE) rfl,H3,_,_,_,_,_,hle02.trans hle3,rfl,⟨_,_,_,rfl⟩,⟨_,_,_,rfl⟩,.fls hok hq (fun h=>by rw [hb27.2 h] at hc25;cases hc25),fun h=>by omega,hs.out⟩
   ·refine .skip ?_
    refine nB (nT ?_)
    refine .ai (.y hs (zls [_,_,_,_] mG dE) ?_)
    refine .o (.aU (vs:=[_,_,_,_]) hs rfl rfl dE fun w hs=>?_)
    refine .z zg (.nil ?_)
    refine .ret ?_
    exact Fin.iK [] [] hs fun w hs=>⟨_,results2 Tryz.results85 (dJ (vs:=[_,_,_,_]) hs rfl mG dE) rfl,H3,_,_,_,_,_,hle02.trans hle3,rfl,⟨_,_,_,rfl⟩,⟨_,_,_,rfl⟩,.ok hok hq (hb27.1 (by simpa using hc25)),fun _=>⟨rfl,hL.mono hle3,hR.mono hle3,rfl⟩,hs.out⟩
set_option maxHeartbeats 1000000 in
theorem qm{s:Srv}{q:Wht}{vst vwa vr vc:Value}(hs:St H w σ)(h1:RI H vst s.sp.st)(h2:RI H vwa s.sp.wa)(h3:RRd H vr s.rs)(h4:RCm H vc s.cs):
  Cl Tryz.prog 26 [.agg #[I s.sp.id,I s.sp.src,vst,vwa,I s.sp.al,I s.sp.up,vr,vc],.agg #[I q.kind,I q.st,I q.wa]] w fun u w'=>∃H1 lo hi e,HLe H H1∧u= .tuple #[.agg #[I lo,I hi],I e]∧xW s q lo hi e∧St H1 w' σ:=by
 refine Cl.o Tryz.func26 Tryz.ntmps26 ag2 ?_
 refine .ai ?_
 refine .bx hs fun b2 w hs=>?_
 refine .bx hs fun b3 w hs=>?_
 refine .o (.alloc hs fY rfl fun b4 w hs=>?_)
 refine .z zg (.nil (.ai (.y hs (zls [_,_,_,_,_,_,_,_] aO aF) (.y hs (zls [_,_,_] bX bh) ?_))))
 refine .o (.call Tryz.call85 rfl (ld (s:=s) (q:=q) hs h1 h2 h3 h4) ?_);rintro _ w ⟨H1,m,ul,vw,d,e,hle1,rfl,⟨al,ll,cl,rfl⟩,⟨aw,lw,cw,rfl⟩,hA,hA0,hs⟩
 refine .z zm (.z zex (.z zex ?_))
 refine .o (.alloc hs kE rfl fun b6 w hs=>?_)
 refine .o (.aU (vs:=[_,_,_,_]) hs rfl rfl dE fun w hs=>?_)
 refine .z zg (.nil (.seq (.ai (.z zm (.z ij (.nil ?_))))))
 refine (.eQ rfl (fun hc17=>?_) (fun hc17=>?_))
 ·refine .ai (.z (zbd [_,_] cz) (.z zm ?_))
  refine .o (.aU (vs:=[_,_]) hs rfl rfl aZ fun w hs=>?_)
  refine .z zg (.nil ?_)
  refine .ret (rT (?_))
  exact Fin.iK [] [] hs fun w hs=>⟨_,results2 Tryz.results26 (dJ (vs:=[_,_]) hs rfl dF aZ) rfl,H1,_,_,_,hle1,rfl,hA.qty hc17,hs.out⟩
 ·refine .skip ?_
  refine nT ?_
  refine .ai (.z (zfa ia) (.y hs (zls [_,_] aT aE) (.z (zfa jX) (.y hs (zld ak) ?_))))
  obtain rfl:e=0:=by simpa using hc17
  obtain ⟨rfl,hL,hR,rfl⟩:=hA0 rfl
  obtain ⟨hok,hq,hsd⟩:=hA.zero
  refine .o (.call Tryz.call74 rfl (ki (s:=s.sys) hs ⟨_,rfl,hL⟩ hR) ?_);rintro _ w ⟨H2,lo,hi,f,hle2,rfl,hRg,hs⟩
  obtain rfl:=mA (hok.ask hq) hsd (fun b=>s.both) hRg
  have hbd:=hRg.bd
  have hdp:=ow q
  refine .z zm (.z zex (.z zex (.z zex (.z zg (.z zg (.z zg (.nil (.seq (.ai ?_)))))))))
  refine .z zm (.z ij (.nil ?_))
  refine (.eQ rfl (fun hc30=>?_) (fun hc30=>?_))
  ·refine .ai (.z (zbd [_,_] cz) (.z zm ?_))
   refine .o (.aU (vs:=[_,_]) hs rfl rfl aZ fun w hs=>?_)
   refine .z zg (.nil ?_)
   refine .ret (rT (?_))
   exact (hc30 rfl).elim
  ·refine .skip ?_
   refine nT ?_
   refine .seq (.draw mix rfl hs fun w hs=>?_)
   refine .z 0 rfl zm ?_;refine .z 1 rfl (zfa eU) ?_;refine .y 2 rfl hs ae ?_;refine .z 4 rfl zm ?_;refine .z 5 rfl (zfa eU) ?_;refine .y 6 rfl hs ae ?_
   refine .E 3 hs ?_
   refine .call Dq rfl (ft hs aj aj) ?_;rintro _ w ⟨rfl,hs⟩
   refine .go ?_
   refine .E 7 hs ?_
   refine .call Dq rfl (ft hs aj aj) ?_;rintro _ w ⟨rfl,hs⟩
   refine .go ?_
   refine .z 8 rfl (zbd [_,_] cz) ?_
   refine .E 9 hs ?_
   refine .aU (vs:=[_,_]) hs rfl rfl aZ ?_;intro w hs
   refine .go ?_
   refine .z 10 rfl zg ?_;refine .D hs ?_
   refine .ret ?_
   exact Fin.iK [] [] hs fun w hs=>⟨_,results2 Tryz.results26 (dJ (vs:=[_,_]) hs rfl dF aZ) rfl,H2,_,_,_,hle1.trans hle2,rfl,.ok hok hq hsd hRg,hs.out⟩
inductive zP(v:Srv)(out:List Int):Int→Prop
 |bad {e:Int} (h:vv v e) (he:e≠0) (h1:out=[]):zP v out e
 |ok {e:Int} (h:eS v) (h1:wO v.sys out e):zP v out e
theorem ql{s:Srv}{vst vwa vr vc:Value}(hs:St H w σ)(h1:RI H vst s.sp.st)(h2:RI H vwa s.sp.wa)(h3:RRd H vr s.rs)(h4:RCm H vc s.cs):
  Cl Tryz.prog 32 [.agg #[I s.sp.id,I s.sp.src,vst,vwa,I s.sp.al,I s.sp.up,vr,vc]] w fun u w'=>∃H1 vx out e,HLe H H1∧u= .tuple #[vx,I e]∧RI H1 vx out∧zP s out e∧St H1 w' σ:=by
 refine Cl.o Tryz.func32 Tryz.ntmps32 ag1 ?_
 refine .ai ?_
 refine .bx hs fun b1 w hs=>?_
 refine .z zg (.z zg (.nil (.seq (.ai (.y hs (zls [_,_,_,_,_,_,_,_] aO aF) ?_)))))
 refine .o (.call Tryz.call42 rfl (fK (s:=s) hs h1 h2 h3 h4) ?_);rintro _ w ⟨H1,e,hle1,rfl,hC,hs⟩
 refine .z zg (.nil (.ai (.z zm (.z ij (.nil ?_)))))
 refine (.eQ rfl (fun hc10=>?_) (fun hc10=>?_))
 ·refine .ai (.z zm (.z zg (.z zg (.nil ?_))))
  refine .ret (rT (Fin.nh Tryz.results32 rfl rfl ?_))
  exact ⟨H1,_,[],_,hle1,rfl,RS.nil H1 1 none 0,.bad hC hc10 rfl,hs.out⟩
 ·refine .skip ?_
  refine nT ?_
  refine .ai (.y hs (zls [_,_,_,_,_,_,_,_] aO aF) ?_)
  have hok:eS s:=hC.dt.1 (by simpa using hc10)
  refine .o (.call Dp rfl (fA (s:=s) hs (h1.mono hle1) (h2.mono hle1) (h3.mono hle1) (h4.mono hle1) hok.early) ?_);rintro v14 w ⟨H2,hle2,hS,hs⟩
  refine .o (.call Tryz.call98 rfl (pJ (s:=s.sys) hs hS) ?_);rintro _ w ⟨H3,vx,out,f,hle3,rfl,hR,hCf,hs⟩
  refine .z zm (.z zex (.z zex (.z zg (.z zg (.nil (.ai (.z zm (.z zm (.z zg ?_)))))))))
  refine .z zg (.nil ?_)
  refine .ret (Fin.nh Tryz.results32 rfl rfl ?_)
  exact ⟨H3,_,out,_,hle1.trans (hle2.trans hle3),rfl,hR,.ok hok hCf,hs.out⟩
set_option maxHeartbeats 1000000 in
theorem rz{s:Srv}{t:TD}{vst vwa vr vc:Value}(hs:St H w σ)(h1:RI H vst s.sp.st)(h2:RI H vwa s.sp.wa)(h3:RRd H vr s.rs)(h4:RCm H vc s.cs):
  Cl Tryz.prog 28 [.agg #[I s.sp.id,I s.sp.src,vst,vwa,I s.sp.al,I s.sp.up,vr,vc],.agg #[I t.tape,I t.day]] w fun u w'=>∃H1 lo hi e,HLe H H1∧u= .tuple #[.agg #[I lo,I hi],I e]∧wK s t lo hi e∧St H1 w' σ:=by
 refine Cl.o Tryz.func28 Tryz.ntmps28 ag2 ?_
 refine .ai ?_
 refine .bx hs fun b2 w hs=>?_
 refine .bx hs fun b3 w hs=>?_
 refine .o (.alloc hs fY rfl fun b4 w hs=>?_)
 refine .z zg (.nil (.seq (.ai (.y hs (zls [_,_,_,_,_,_,_,_] aO aF) ?_))))
 refine .o (.call Tryz.call42 rfl (fK (s:=s) hs h1 h2 h3 h4) ?_);rintro _ w ⟨H1,e,hle1,rfl,hC,hs⟩
 refine .z zg (.nil (.ai (.z zm (.z ij (.nil ?_)))))
 refine (.eQ rfl (fun hc15=>?_) (fun hc15=>?_))
 ·refine .ai (.z (zbd [_,_] cz) (.z zm ?_))
  refine .o (.aU (vs:=[_,_]) hs rfl rfl aZ fun w hs=>?_)
  refine .z zg (.nil ?_)
  refine .ret (rT (?_))
  exact Fin.iK [] [] hs fun w hs=>⟨_,results2 Tryz.results28 (dJ (vs:=[_,_]) hs rfl dF aZ) rfl,H1,_,_,_,hle1,rfl,.bad hC hc15,hs.out⟩
 ·refine .skip ?_
  refine nT ?_
  refine .seq (.draw mix rfl hs fun w hs=>?_)
  refine .ys 0 rfl hs [_,_,_,_,_,_,_,_] aO aF ?_;refine .ys 2 rfl hs [_,_] dO bE ?_
  refine .E 1 hs ?_
  have hok:eS s:=hC.dt.1 (by simpa using hc15)
  have hsm:=fk hok.early.1
  have hrl:=hok.early.2.1
  have hn:=tj s
  have htl:s.bP.length≤60:=by have:=dq s.rs;unfold Srv.bP;omega
  refine .call Tryz.call90 rfl (jf (s:=s) hs (h3.mono hle1) aj) ?_;rintro v19 w ⟨H2,hle2,hT,hs⟩
  have hle02:=hle1.trans hle2
  refine .go ?_
  refine .E 3 hs ?_
  refine .call Tryz.call89 rfl (nt (t:=t) hs hT aj) ?_;rintro _ w ⟨rfl,hs⟩
  have hnn:=kY (l:=s.bP) (t:=t)
  refine .go ?_
  refine .z 4 rfl zg ?_;refine .D hs ?_
  refine .seq (.ai (.z zm (.z gx (.nil ?_))))
  refine (.bM rfl (fun hc23=>?_) (fun hc23=>?_))
  ·refine .ai (.z (zbd [_,_] cz) ?_)
   refine .o (.aU (vs:=[_,_]) hs rfl rfl aZ fun w hs=>?_)
   refine .z zg (.nil ?_)
   refine .ret (rT (?_))
   exact Fin.iK [] [] hs fun w hs=>⟨_,results2 Tryz.results28 (dJ (vs:=[_,_]) hs rfl dF aZ) rfl,H2,_,_,_,hle02,rfl,.none hok (fun h=>by have:=hnn.2 h;omega),hs.out⟩
  ·refine .skip ?_
   refine nT ?_
   refine .seq (.draw mix rfl hs fun w hs=>?_)
   refine .z 0 rfl (zfa aS) ?_;refine .ys 1 rfl hs [_,_,_,_,_,_] aQ aI ?_;refine .ys 4 rfl hs [_,_,_,_,_,_,_,_] aO aF ?_
   refine .E 2 hs ?_
   have hmem:t∈s.bP:=hnn.1 aj
   obtain ⟨k,k1,k2,k3⟩:=gg hmem
   have hlt:=eS.D2 hmem
   rw [k1,Int.toNat_natCast] at hlt
   rw [k1] at hc23 ⊢
   refine .call Tryz.call91 rfl (gh (s:=s.sp) hs (h1.mono hle02) (h2.mono hle02) ⟨aj,aj⟩) ?_;rintro _ w ⟨rfl,hs⟩
   refine .go ?_
   refine .z 3 rfl cq ?_
   refine .E 5 hs ?_
   refine .call Tryz.call90 rfl (jf (s:=s) hs (h3.mono hle02) aj) ?_;rintro v30 w ⟨H3,hle3,hT2,hs⟩
   have hle03:=hle02.trans hle3
   obtain ⟨at_,ct,rfl⟩:=RTd.shape hT2
   refine .go ?_
   refine .z 6 rfl (c9 bg) ?_;refine .z 7 rfl cq ?_
   refine .E 8 hs ?_
   refine .oE s.sys.n hs (by show some (I _)=some (I _);congr 2;rw [hn];show _=((s.sp.many+s.bP.length+1:Nat):Int);omega) (by show some (I _)=some (I _);congr 2;rw [hn];show _=((s.sp.many+s.bP.length+1:Nat):Int);omega) aa dC rfl af bI aj ?_;intro b33 w hs
   refine .go ?_
   refine .z 9 rfl zg ?_;refine .D hs ?_
   refine .ai (.z zm (.z (zfa aS) (.y hs (zls [_,_,_,_,_,_] aQ aI) ?_)))
   refine .o (.call Tryz.call91 rfl (gh (s:=s.sp) hs (h1.mono hle03) (h2.mono hle03) ⟨aj,aj⟩) ?_);rintro _ w ⟨rfl,hs⟩
   refine .z cq (.z zm (.z cq ?_))
   refine .q hs (dG (k:=s.sp.many+1+k) rfl rfl aa af aj aj) ?_
   refine .o (.store (c':=Is (q9 s.sys.n (s.sp.many+1+k) 1)) hs rfl rfl af ?_ cZ (by simp [Is];omega) (mS _ _ _));intro w hs
   refine .nil (.ai (.y hs (zls [_,_,_,_,_,_,_,_] aO aF) ?_))
   obtain ⟨H4,hle4,hW,hs⟩:=cn.dI (xs:=q9 s.sys.n (s.sp.many+1+k) 1) (v:= .slice (some ⟨b33,0,none⟩) s.sys.n s.sys.n) (.full (by simp [Is,iT])) (by rw [iT];omega) hs cZ
   have hle04:=hle03.trans hle4
   refine .o (.call Dp rfl (fA (s:=s) hs (h1.mono hle04) (h2.mono hle04) (h3.mono hle04) (h4.mono hle04) hok.early) ?_);rintro v44 w ⟨H5,hle5,hS,hs⟩
   refine .z zm ?_
   refine .o (.call Tryz.call74 rfl (ki (s:=s.sys) hs hS (hW.mono hle5)) ?_);rintro _ w ⟨H6,lo,hi,f,hle6,rfl,hRg,hs⟩
   have hbd:=hRg.bd
   have hleF:=hle04.trans (hle5.trans hle6)
   have hA:=hok.Cd hlt (x:=1) aj
   refine .z zm (.z zex (.z zex (.z zex (.z zg (.z zg (.z zg (.nil (.seq (.ai ?_)))))))))
   refine .z zm (.z ij (.nil ?_))
   refine (.eQ rfl (fun hc51=>?_) (fun hc51=>?_))
   ·refine .ai (.z (zbd [_,_] cz) ?_)
    refine .o (.aU (vs:=[_,_]) hs rfl rfl aZ fun w hs=>?_)
    refine .z zg (.nil ?_)
    refine .ret (rT (?_))
    have hns:¬s.sys.Sound:=fun h=>hc51 (mA hA h (fun b=>s.both) hRg)
    exact Fin.iK [] [] hs fun w hs=>⟨_,results2 Tryz.results28 (dJ (vs:=[_,_]) hs rfl dF aZ) rfl,H6,_,_,_,hleF,rfl,.fls hok hmem hns,hs.out⟩
   ·refine .skip ?_
    refine nT ?_
    refine .ai (.z zm (.z uN (.z zm (.z uN (.z (zbd [_,_] cz) ?_)))))
    refine .o (.aU (vs:=[_,_]) hs rfl rfl aZ fun w hs=>?_)
    refine .z zg (.nil ?_)
    refine .ret ?_
    obtain rfl:f=0:=by simpa using hc51
    have hsd:s.sys.Sound:=Classical.byContradiction fun h=>by have:=tU hA h hRg;omega
    exact Fin.iK [] [] hs fun w hs=>⟨_,results2 Tryz.results28 (dJ (vs:=[_,_]) hs rfl dF aZ) rfl,H6,_,_,_,hleF,rfl,.ok hok hmem hsd (by rw [k1,Int.toNat_natCast];exact hRg),hs.out⟩
theorem nu{v:Value}{rs:List (List Int)}{g:Nat}{cap:List Value}(q:List Int→Prop)(hs:St H w σ)(hR:RT H v rs)(hl:rs.length≤9223372036854775807)(hc:∀args w,(callFunc g args).run Tryz.prog w= .ok (.enter g args) w)
  (hp:∀H' w σ r u,HLe H H'→RI H' u r→St H' w σ→Cl Tryz.prog g ([u]++cap) w fun z w'=>∃H1 b,HLe H' H1∧z= .bool b∧(b=true↔q r)∧St H1 w' σ):
  Cl Tryz.prog 236 [v,.func (.func g) #[] cap.toArray] w fun u w'=>∃H1 i,HLe H H1∧u=I i∧(0≤i↔∃x∈rs,q x)∧St H1 w' σ:=by
 obtain ⟨a,c,rfl⟩:=hR.shape
 refine Cl.o Tryz.func236 Tryz.ntmps236 ag2 ?_
 refine .ai (.z zg (.nil (.seq (.ai (.z zm (.z (c9 aq) (.z zm (.nil ?_))))))))
 refine .for (N:=rs.length) (J:=fun k fr w=>fr=[(1,.func (.func g) #[] cap.toArray),(0,.slice a rs.length c)]∧∃H1,HLe H H1∧(∀j<k,∀y,rs[j]? =some y→¬q y)∧St H1 w σ) aj ?_ ?_ ?_
 ·exact .mk ⟨rfl,H,HLe.refl H,fun j hj=>by omega,hs⟩
 ·rintro k fr w hk ⟨rfl,H1,hle1,hno,hs⟩
  have hx:=r8 (rs:=rs) hk
  refine .block (.ai (.z zm (.z zg (.nil (.ai (.z zm (.z zm (.z zm ?_))))))))
  refine .ixT hs (hR.mono hle1) rfl rfl aq aC (show k<_ by omega) dy ?_;intro b14 o14 a14 c14 hc14 hR14
  refine .q hs (aK rfl ak hc14) ?_
  refine .o (.pH (first:=[]) (cap:=cap) rfl rfl hc (hp _ _ _ (gr rs k) _ hle1 hR14 hs) ?_);rintro _ w ⟨H2,b16,hle2,rfl,hb16,hs⟩
  refine .nil ?_
  refine (.cond rfl (fun hc16=>?_) (fun hc16=>?_))
  ·refine .ai (.z zm (.z zg (.nil ?_)))
   refine .ret (rB (rT (rB (rT (Fin.bJ Tryz.results236 rfl ?_)))))
   exact ⟨H2,_,hle1.trans hle2,rfl,⟨fun _=>⟨_,List.mem_of_getElem? hx,hb16.1 hc16⟩,fun _=>by omega⟩,hs⟩
  ·refine .skip ?_
   refine nB (nT ?_)
   exact .mk ⟨rfl,H2,hle1.trans hle2,fw hno hx (fun h=>by rw [hb16.2 h] at hc16;cases hc16),hs⟩
 ·rintro fr w ⟨rfl,H1,hle1,hno,hs⟩
  refine nT ?_
  refine .ai (.z zg (.nil ?_))
  refine .ret (Fin.bJ Tryz.results236 rfl ?_)
  exact ⟨H1,_,hle1,rfl,⟨fun h=>by omega,fun ⟨x,h1,h2⟩=>by
   obtain ⟨j,hj⟩:=List.getElem?_of_mem h1
   exact (hno j (List.getElem?_eq_some_iff.1 hj).1 x hj h2).elim⟩,hs⟩
theorem lS{v:Value}{rs:List (List Int)}{g:Nat}{cap:List Value}(q:List Int→Prop)(hs:St H w σ)(hR:RT H v rs)(hl:rs.length≤9223372036854775807)(hc:∀args w,(callFunc g args).run Tryz.prog w= .ok (.enter g args) w)
  (hp:∀H' w σ r u,HLe H H'→RI H' u r→St H' w σ→Cl Tryz.prog g ([u]++cap) w fun z w'=>∃H1 b,HLe H' H1∧z= .bool b∧(b=true↔q r)∧St H1 w' σ):
  Cl Tryz.prog 186 [v,.func (.func g) #[] cap.toArray] w fun u w'=>∃H1 b,HLe H H1∧u= .bool b∧(b=true↔∃x∈rs,q x)∧St H1 w' σ:=by
 refine Cl.o Tryz.func186 Tryz.ntmps186 ag2 ?_
 refine .ai (.z zg (.nil (.ai (.z zm (.z zm ?_)))))
 refine .o (.call Tryz.call236 rfl (nu q hs hR hl hc hp) ?_);rintro _ w ⟨H1,i,hle1,rfl,hi,hs⟩
 refine .z vD (.z zg (.nil ?_))
 refine .ret (Fin.bJ Tryz.results186 rfl ?_)
 exact ⟨H1,_,hle1,rfl,by simp only [decide_eq_true_eq];exact hi,hs⟩
theorem tL{n:Int}(hs:St H w σ):
  Cl Tryz.prog 188 [I n] w fun u w'=>u= .bool (!decide (0≤n∧n≤20000))∧St H w' σ:=by
 refine Cl.o Tryz.func188 Tryz.ntmps188 ag1 ?_
 refine .ai (.z zg (.nil (.ai (.z zm ?_))))
 refine .o (.call dP rfl (bw hs) ?_);rintro _ w ⟨rfl,hs⟩
 refine .z ir (.z zg (.nil ?_))
 refine .ret (Fin.bJ Tryz.results188 rfl ?_)
 exact ⟨rfl,hs⟩
theorem wh{s:Spc}{v vst vwa:Value}{r:List Int}{b:Nat}(hs:St H w σ)(hb:Row H b [I s.id,I s.src,vst,vwa,I s.al,I s.up])(h2:RI H vwa s.wa)(hr:RI H v r):
  Cl Tryz.prog 187 [v,.pointer (some ⟨b,0,none⟩)] w fun u w'=>∃H1 bb,HLe H H1∧u= .bool bb∧(bb=true↔¬(r.length=s.wa.length∧∀x∈r,0≤x∧x≤20000))∧St H1 w' σ:=by
 obtain ⟨a,c,rfl⟩:=RI.shape hr
 obtain ⟨awa,cwa,rfl⟩:=RI.shape h2
 have hb3:=hb.at 3
 refine Cl.o Tryz.func187 Tryz.ntmps187 ag2 ?_
 refine .ai (.z zg (.nil (.ai (.z zm (.z (c9 aa) (.z (zfa bj) (.y hs (zld ak) (.z (c9 aa) (.z ij ?_)))))))))
 refine .z zm ?_
 refine .yF (t':=10) rfl (fun hb10=>?_) (fun hb10=>?_)
 ·refine .gFs 2 6 false rfl rfl rfl ?_
  refine .z zpT (.z zg (.nil ?_))
  refine .ret (Fin.bJ Tryz.results187 rfl ?_)
  exact ⟨H,true,HLe.refl H,rfl,⟨fun _ h=>by have:=h.1;simp_all,fun _=>rfl⟩,hs⟩
 ·refine .gT rfl rfl ?_
  refine .z zm ?_
  refine .gT rfl rfl ?_
  refine .o (.call Tryz.call134 rfl (lE (g:=188) (cap:=[]) (fun n=>¬(0≤n∧n≤20000)) hs hr Tryz.call188 (fun H' w σ n _ _ hs=>(tL hs).mono fun u w' ⟨g1,g2⟩=>⟨H',_,HLe.refl _,g1,by simp;omega,g2⟩)) ?_);rintro _ w ⟨H1,b12,hle1,rfl,hb12,hs⟩
  refine .z zpF (.z zg (.nil ?_))
  refine .ret (Fin.bJ Tryz.results187 rfl ?_)
  have hlen:r.length=s.wa.length:=by simp_all;omega
  exact ⟨H1,_,hle1,rfl,by
   rw [hb12]
   constructor
   ·rintro ⟨x,h1,h2⟩ h;exact h2 (h.2 x h1)
   ·intro h
    refine Classical.byContradiction fun hn=>h ⟨hlen,fun x hx=>Classical.byContradiction fun hx'=>hn ⟨x,hx,hx'⟩⟩,hs⟩
theorem CZ{s:Spc}{rows:List (List Int)}:sd s rows↔rows.length=s.st.length∧∀r∈rows,r.length=s.wa.length∧∀x∈r,0≤x∧x≤20000:=by
 constructor
 ·rintro ⟨h1,h2,h3⟩
  refine ⟨h1,fun r hr=>?_⟩
  obtain ⟨i,hi⟩:=List.getElem?_of_mem hr
  have hil:=(List.getElem?_eq_some_iff.1 hi).1
  have hg:=r8 hil
  rw [hi] at hg
  obtain rfl:=Option.some.inj hg
  have hl:=h2 i aj
  refine ⟨hl,fun x hx=>?_⟩
  obtain ⟨k,hk⟩:=List.getElem?_of_mem hx
  have hkl:=(List.getElem?_eq_some_iff.1 hk).1
  have hgk:=bL hkl
  rw [hk] at hgk
  obtain rfl:=Option.some.inj hgk
  exact h3 i aj k aj
 ·rintro ⟨h1,h2⟩
  have hm:∀i<s.st.length,gr rows i∈rows:=fun i hi=>List.mem_of_getElem? (r8 aj)
  refine ⟨h1,fun i hi=>(h2 _ (hm i hi)).1,fun i hi k hk=>?_⟩
  have hl:=(h2 _ (hm i hi)).1
  exact (h2 _ (hm i hi)).2 _ (List.mem_of_getElem? (bL aj))
theorem py{s:Spc}{vst vwa vh:Value}{rows:List (List Int)}(hs:St H w σ)(h1:RI H vst s.st)(h2:RI H vwa s.wa)(hr:RT H vh rows):
  Cl Tryz.prog 101 [.agg #[I s.id,I s.src,vst,vwa,I s.al,I s.up],.agg #[vh]] w fun u w'=>∃H1 b,HLe H H1∧u= .bool b∧(b=true↔sd s rows)∧St H1 w' σ:=by
 obtain ⟨ast,cst,rfl⟩:=RI.shape h1
 obtain ⟨awa,cwa,rfl⟩:=RI.shape h2
 obtain ⟨ah,ch,rfl⟩:=hr.shape
 have hrl:=(hr.len).2.2
 refine Cl.o Tryz.func101 Tryz.ntmps101 ag2 ?_
 refine .ai ?_
 refine .bx hs fun b2 w hs=>?_
 refine .bx hs fun b3 w hs=>?_
 refine .z zg (.nil (.ai (.z (zfa mz) (.y hs (zld Ar) (.z (c9 aq) (.z (zfa bA) (.y hs (zld ak) (.z (c9 aa) (.z gC ?_)))))))))
 refine .z zm ?_
 refine .iB (t':=12) rfl (fun hb12=>?_) (fun hb12=>?_)
 ·refine .gT rfl rfl ?_
  refine .z (zfa mz) ?_
  refine .gT rfl rfl ?_
  refine .y hs (zld Ar) ?_
  refine .gT rfl rfl ?_
  refine .q hs (dR (f:=[]) (c:=[_]) rfl rfl) ?_
  refine .gT rfl rfl ?_
  obtain ⟨H0,hle0,hb2,hs⟩:=hs.cK (b:=b2) cZ
  refine .o (.call Tryz.call186 rfl (lS (g:=187) (cap:=[.pointer (some ⟨b2,0,none⟩)]) (fun r=>¬(r.length=s.wa.length∧∀x∈r,0≤x∧x≤20000)) hs (hr.mono hle0) hrl Tryz.call187 (fun H' w σ r u hle hu hs=>wh (s:=s) hs (hb2.mono hle) (h2.mono (hle0.trans hle)) hu)) ?_);rintro _ w ⟨H1,b16,hle1,rfl,hb16,hs⟩
  refine .gT rfl rfl ?_
  refine .z ir (.z zpT (.z zg (.nil ?_)))
  refine .ret (Fin.bJ Tryz.results101 rfl ?_)
  exact ⟨H1,_,hle0.trans hle1,rfl,by
   rw [CZ]
   have hlen:rows.length=s.st.length:=by omega
   cases hbb:b16 with
   |true=>
    obtain ⟨x,hx,hn⟩:=hb16.1 hbb
    exact ⟨fun h=>(by cases h),fun h=>(hn (h.2 x hx)).elim⟩
   |false=>exact ⟨fun _=>⟨hlen,fun r hr=>Classical.byContradiction fun hn=>by rw [hb16.2 ⟨r,hr,hn⟩] at hbb;cases hbb⟩,fun _=>rfl⟩,hs.out⟩
 ·refine .gFs 5 7 true rfl rfl rfl ?_
  refine .z zpF (.z zg (.nil ?_))
  refine .ret (Fin.bJ Tryz.results101 rfl ?_)
  exact ⟨H,_,HLe.refl H,rfl,⟨fun h=>(by cases h),fun h=>by have:=h.len;omega⟩,hs.out⟩
set_option maxHeartbeats 1000000 in
theorem qj{s:Spc}{q:Wht}{vst vwa vh:Value}{rows:List (List Int)}(hs:St H w σ)(h1:RI H vst s.st)(h2:RI H vwa s.wa)(hr:RT H vh rows):
  Cl Tryz.prog 37 [.agg #[I s.id,I s.src,vst,vwa,I s.al,I s.up],.agg #[vh],.agg #[I q.kind,I q.st,I q.wa]] w fun u w'=>∃H1 n e,HLe H H1∧u= .tuple #[I n,I e]∧wL s rows q n e∧St H1 w' σ:=by
 obtain ⟨ah,ch,rfl⟩:=hr.shape
 refine Cl.o Tryz.func37 Tryz.ntmps37 ag3 ?_
 refine .ai ?_
 refine .bx hs fun b3 w hs=>?_
 refine .bx hs fun b4 w hs=>?_
 refine .bx hs fun b5 w hs=>?_
 refine .z zg (.z zg (.nil (.seq (.ai (.y hs (zls [_,_,_,_,_,_] aQ aI) ?_)))))
 refine .o (.call Tryz.call41 rfl (jg (s:=s) hs h1 h2) ?_);rintro _ w ⟨H1,e,hle1,rfl,he,hs⟩
 refine .z zg (.nil (.ai (.z zm (.z ij (.nil ?_)))))
 refine (.eQ rfl (fun hc17=>?_) (fun hc17=>?_))
 ·refine .ai (.z zm (.z zg (.z zg (.nil ?_))))
  refine .ret (rT (?_))
  have hq:¬fX s∧e=30:=he.resolve_left fun h=>hc17 h.2
  exact Fin.iK [] [] hs fun w hs=>⟨_,results2 Tryz.results37 rfl rfl,H1,_,_,hle1,rfl,by rw [hq.2];exact .space hq.1,hs.out⟩
 ·refine .skip ?_
  refine nT ?_
  refine .seq (.ai (.y hs (zls [_,_,_,_,_,_] aQ aI) (.y hs (zls [_] Tryz.isAgg63 Tryz.sizeOf63) ?_)))
  have hok:fX s:=(he.resolve_right fun h=>by omega).1
  have hsm:=fk hok
  refine .o (.call Tryz.call101 rfl (py (s:=s) hs (h1.mono hle1) (h2.mono hle1) (hr.mono hle1)) ?_);rintro _ w ⟨H2,b21,hle2,rfl,hb21,hs⟩
  have hle02:=hle1.trans hle2
  refine .z ir (.nil ?_)
  refine (.cond rfl (fun hc22=>?_) (fun hc22=>?_))
  ·refine .ai (.z zg (.z zg (.nil ?_)))
   refine .ret (rT (?_))
   exact Fin.iK [] [] hs fun w hs=>⟨_,results2 Tryz.results37 rfl rfl,H2,_,_,hle02,rfl,.hull hok (fun h=>by rw [hb21.2 h] at hc22;cases hc22),hs.out⟩
  ·refine .skip ?_
   refine nT ?_
   refine .ai (.y hs (zls [_,_,_,_,_,_] aQ aI) (.y hs (zls [_,_,_] bX bh) ?_))
   have hh:sd s rows:=hb21.1 (by simpa using hc22)
   refine .o (.call Tryz.call102 rfl (kr (s:=s) (q:=q) hs (h1.mono hle02) (h2.mono hle02) hok) ?_);rintro _ w ⟨H3,vl,L,d,b,en,hle3,rfl,hO,hcase,hs⟩
   have hle03:=hle02.trans hle3
   obtain ⟨al,cl,rfl⟩:=hO.AP
   refine .z zm (.z zex (.z zex (.z zex ?_)))
   refine .o (.alloc hs ek rfl fun b9 w hs=>?_)
   refine .o (.store hs rfl rfl aC fun w hs=>?_)
   refine .z zg (.z zg (.nil (.seq (.ai (.z zm (.z ir (.nil ?_)))))))
   refine (.cond rfl (fun hc31=>?_) (fun hc31=>?_))
   ·refine .ai (.z zg (.z zg (.nil ?_)))
    refine .ret (rT (?_))
    have hq:¬fm s q:=by
     rcases hcase with ⟨g,_⟩|⟨_,g,_⟩
     ·subst g;cases hc31
     ·exact g
    exact Fin.iK [] [] hs fun w hs=>⟨_,results2 Tryz.results37 rfl rfl,H3,_,_,hle03,rfl,.what hok hh hq,hs.out⟩
   ·refine .skip ?_
    refine nT ?_
    refine .ai ?_
    refine .o (.alloc hs bI rfl fun b12 w hs=>?_)
    refine .o (.store hs rfl rfl af fun w hs=>?_)
    refine .nil (.seq (.ai (.y hs (zls [_,_,_,_,_,_] aQ aI) ?_)))
    obtain ⟨rfl,hq,rfl,rfl⟩:b=true∧fm s q∧L=lA s q∧d=ml q:=hcase.resolve_right fun h=>by rw [h.1] at hc31;cases hc31
    have hwl:=fR s q
    obtain ⟨H4,hle4,hW,hs⟩:=cn.dI hO aj hs cZ
    have hle04:=hle03.trans hle4
    refine .o (.call GB rfl (gK (s:=s) hs (h1.mono hle04) (h2.mono hle04) ⟨aj,aj⟩) ?_);rintro _ w ⟨H5,ba,hle5,rfl,hit,hs⟩
    have hle05:=hle04.trans hle5
    replace hW:=hW.mono hle5
    have hr5:=hr.mono hle05
    refine .nil (.block ?_)
    refine .rangeFunc (gf:=190) (cap:=[.pointer (some ⟨ba,0,none⟩)]) (xs:=wQ s) (σb:=[.blk b12 [I (jj s q rows 0)],.blk b9 [.slice al (lA s q).length cl],.blk b4 [.slice ah rows.length ch]]) (σf:=σ) (hs.sb) trivial rfl hit Gz (fun x hx=>by
      simp only [wQ,List.mem_map] at hx
      obtain ⟨j,_,rfl⟩:=hx;rfl) rfl
     (I:=fun p H' σb=>σb=[.blk b12 [I (jj s q rows p)],.blk b9 [.slice al (lA s q).length cl],.blk b4 [.slice ah rows.length ch]]) (Ix:=fun _ _ _=>False)
     (fun j _ _ σ g1 g2=>g2) (fun _ _ _ _ _ h=>h) rfl ?_ ?_ (fun D c H' σb w _ h _=>h.elim)
    ·rintro ly p hp H6 σb2 σf2 w hle6 rfl hs ⟨rr,hrr⟩
     have hpm:p<s.many:=by rw [fj] at hp;exact hp
     have hin:p/s.wa.length<s.st.length:=Nat.div_lt_of_lt_mul (by rw [Nat.mul_comm];exact hpm)
     have hkm:=Nat.mod_lt p hsm.2.2.1
     have hsucc:jj s q rows (p+1)=jj s q rows p+gi (lA s q) (p+1)*gt rows (p/s.wa.length) (p%s.wa.length):=rfl
     have hb0:=ou hok hq hh p aj
     have hb1:=ou hok hq hh (p+1) aj
     have hwz:=od hok hq
     have hwz2:=iJ (lA s q) (v:=p+1) (n:=s.many+1) aj
     have hnum:=hh.num _ hin _ hkm
     have hrow:=hh.row _ hin
     have hrlen:=hh.len
     have hprd:=lh (a:=gi (lA s q) (p+1)) (b:=gt rows (p/s.wa.length) (p%s.wa.length)) (A:=3456000000000) (B:=20000) aj aj
     have hgt:gt rows (p/s.wa.length) (p%s.wa.length)=gi (gr rows (p/s.wa.length)) (p%s.wa.length):=rfl
     rw [oz hp]
     generalize p/s.wa.length=i at*
     generalize p%s.wa.length=k at*
     rw [hgt] at hsucc hprd hnum
     refine .region ?_
     refine .o (.alloc hs oO rfl fun b13 w hs=>?_)
     refine .o (.aU (vs:=[_,_,_]) hs rfl rfl uK fun w hs=>?_)
     refine .nil ?_
     refine nT ?_
     refine ⟨H6,[.blk b13 [I (i:Int),I (k:Int),I ((p+1:Nat):Int)],.blk b12 [I (jj s q rows p)],.blk b9 [.slice al (lA s q).length cl],.blk b4 [.slice ah rows.length ch]],HLe.refl _,hs,?_⟩;rintro w σf4 - hs
     refine .block ?_
     refine .draw mix rfl hs fun w hs=>?_
     refine .y 0 rfl hs ae ?_;refine .y 1 rfl hs ak ?_;refine .z 2 rfl (zfa eL) ?_;refine .y 3 rfl hs ae ?_
     refine .ixX (enc:=fun x=>[I x]) (i:=4) hs rfl an .none (hW.mono hle6) rfl rfl aa af (bL (l:=(lA s q)) (i:=(p+1)) aj) dy ?_;intro b39 o39 hc39;replace hc39:=bB.one hc39
     refine .r (i:=5) hs rfl an .none (aK rfl ae hc39) ?_
     refine .z 6 rfl (zfa mz) ?_;refine .y 7 rfl hs Ar ?_;refine .z 8 rfl (zfa dK) ?_;refine .y 9 rfl hs ae ?_
     refine .ixT (i:=10) hs rfl an .none (hr5.mono hle6) rfl rfl aq aC (show i<_ by omega) dy ?_;intro b45 o45 a45 c45 hc45 hR45
     refine .r (i:=11) hs rfl an .none (aK rfl ak hc45) ?_
     refine .z 12 rfl (zfa dx) ?_;refine .y 13 rfl hs ae ?_
     refine .ixX (enc:=fun x=>[I x]) (i:=14) hs rfl an .none hR45 rfl rfl aa af (bL (l:=(gr rows i)) (i:=k) aj) dy ?_;intro b49 o49 hc49;replace hc49:=bB.one hc49
     refine .r (i:=15) hs rfl an .none (aK rfl ae hc49) ?_
     refine .z 16 rfl ka ?_;refine .z 17 rfl cq ?_
     refine .E 18 hs ?_
     refine .store hs rfl rfl af ?_;intro w hs
     refine .go ?_
     refine .D hs ?_
     refine nB ?_
     exact ⟨H6,[.blk b12 [I (jj s q rows (p+1))],.blk b9 [.slice al (lA s q).length cl],.blk b4 [.slice ah rows.length ch]],HLe.refl _,by rw [hsucc];exact (hs.sb:St H6 w (.blk b12 _:: .blk b9 _:: .blk b4 _::σf4)),rfl⟩
    ·rintro D H6 σb2 w hle6 rfl hs
     rw [fj] at hs
     replace hs:St H6 w (.obj D (.deferred (some [])):: .blk b12 [I (jj s q rows s.many)]:: .blk b9 [.slice al (lA s q).length cl]:: .blk b4 [.slice ah rows.length ch]::σ):=hs
     have hbd:=ou hok hq hh s.many aj
     have hdp:=ow q
     refine nB (nT ?_)
     refine .ai (.y hs (zld ae) (.z zm ?_))
     refine .o (.call Dq rfl (ft hs aj aj) ?_);rintro _ w ⟨rfl,hs⟩
     refine .z zg (.z zg (.nil ?_))
     refine .ret ?_
     exact Fin.iK [D] [] hs fun w hs=>⟨_,results2 Tryz.results37 rfl rfl,H6,_,_,hle05.trans hle6,rfl,.ok hok hh hq,hs.out⟩
set_option maxHeartbeats 4000000 in
theorem ru{s:Srv}{r:Rdg}{vst vwa vr vc:Value}{z:Int}(hs:St H w σ)(h1:RI H vst s.sp.st)(h2:RI H vwa s.sp.wa)(h3:RRd H vr s.rs)(h4:RCm H vc s.cs)(hr0:r.val=0):
  Cl Tryz.prog 46 [.agg #[I s.sp.id,I s.sp.src,vst,vwa,I s.sp.al,I s.sp.up,vr,vc],.agg #[I r.src,I r.st,I r.wa,I z,I r.tol,I r.tape,I r.day]] w fun u w'=>∃H1 lo hi e,HLe H H1∧u= .tuple #[.agg #[I lo,I hi],I e]∧ue s r lo hi e∧St H1 w' σ:=by
 obtain ⟨ast,cst,rfl⟩:=RI.shape h1
 obtain ⟨awa,cwa,rfl⟩:=RI.shape h2
 obtain ⟨ar,cr,rfl⟩:=RRd.shape h3
 obtain ⟨ac,cc,rfl⟩:=RCm.shape h4
 refine Cl.o Tryz.func46 Tryz.ntmps46 ag2 ?_
 refine .ai ?_
 refine .bx hs fun b2 w hs=>?_
 refine .bx hs fun b3 w hs=>?_
 refine .o (.alloc hs fY rfl fun b4 w hs=>?_)
 refine .z zg (.nil (.seq (.ai (.y hs (zls [_,_,_,_,_,_,_,_] aO aF) ?_))))
 refine .o (.call Tryz.call42 rfl (fK (s:=s) hs h1 h2 h3 h4) ?_);rintro _ w ⟨H1,e,hle1,rfl,hC,hs⟩
 refine .z zg (.nil (.ai (.z zm (.z ij (.nil ?_)))))
 refine (.eQ rfl (fun hc19=>?_) (fun hc19=>?_))
 ·refine .ai (.z (zbd [_,_] cz) (.z zm ?_))
  refine .o (.aU (vs:=[_,_]) hs rfl rfl aZ fun w hs=>?_)
  refine .z zg (.nil ?_)
  refine .ret (rT (?_))
  exact Fin.iK [] [] hs fun w hs=>⟨_,results2 oQ (dJ (vs:=[_,_]) hs rfl dF aZ) rfl,H1,_,_,_,hle1,rfl,.bad hC hc19,hs.out⟩
 ·refine .skip ?_
  refine nT ?_
  refine .ai (.z (zfa db) ?_)
  refine .o (.store hs rfl rfl af fun w hs=>?_)
  refine .nil (.seq (.ai (.z (zfa aS) (.y hs (zls [_,_,_,_,_,_] aQ aI) (.y hs (zls [_,_,_,_,_,_,_] dN aH) ?_)))))
  have hok:eS s:=hC.dt.1 (by simpa using hc19)
  have hsm:=fk hok.early.1
  have hrl:=hok.early.2.1
  have hcl:=hok.early.2.2.1
  have hmm:=hok.many
  have hll:=hok.cO
  have hn:=tj s
  have htl:s.bP.length≤60:=by have:=dq s.rs;unfold Srv.bP;omega
  change St _ _ (.blk b4 _:: .blk b3 [I r.src,I r.st,I r.wa,I 0,I r.tol,I r.tape,I r.day]::_) at hs
  refine .o (.call Tryz.call107 rfl (jA (s:=s.sp) (r:=⟨r.src,r.st,r.wa,0,r.tol,r.tape,r.day⟩) hs (h1.mono hle1) (h2.mono hle1)) ?_);rintro _ w ⟨b26,rfl,hb26,hs⟩
  rw [show (⟨r.src,r.st,r.wa,0,r.tol,r.tape,r.day⟩:Rdg)=r by rw [←hr0]] at hb26
  refine .z ir (.nil ?_)
  refine (.cond rfl (fun hc27=>?_) (fun hc27=>?_))
  ·refine .ai (.z (zbd [_,_] cz) ?_)
   refine .o (.aU (vs:=[_,_]) hs rfl rfl aZ fun w hs=>?_)
   refine .z zg (.nil ?_)
   refine .ret (rT (?_))
   exact Fin.iK [] [] hs fun w hs=>⟨_,results2 oQ (dJ (vs:=[_,_]) hs rfl dF aZ) rfl,H1,_,_,_,hle1,rfl,.rdg hok (fun h=>by rw [hb26.2 h] at hc27;cases hc27),hs.out⟩
  ·refine .skip ?_
   refine nT ?_
   refine .ai (.y hs (zls [_,_,_,_,_,_,_,_] aO aF) ?_)
   have hr:jJ s.sp r:=hb26.1 (by simpa using hc27)
   obtain ⟨g1,g2,g3,g4,g5,g6,g7⟩:=id hr
   refine .o (.call Dp rfl (k9 (s:=s) hs (h1.mono hle1) (h2.mono hle1) (h3.mono hle1) (h4.mono hle1) hok.early) ?_);rintro _ w ⟨H2,vl,enL,hle2,rfl,hOL,hs⟩
   have hle02:=hle1.trans hle2
   obtain ⟨al,ll,cl,rfl,hlL⟩:=hOL.shape
   rw [dM] at hlL
   refine .o (.alloc hs dj rfl fun b7 w hs=>?_)
   refine .o (.aU (vs:=[_,_]) hs rfl rfl aE fun w hs=>?_)
   refine .nil (.ai (.y hs (zls [_,_,_,_,_,_,_,_] aO aF) ?_))
   refine .o (.call Tryz.call90 rfl (lZ (s:=s) hs (h3.mono hle02) aj) ?_);rintro v32 w ⟨H3,enT,hle3,hOT,hs⟩
   have hle03:=hle02.trans hle3
   obtain ⟨at_,ct,rfl⟩:=hOT.iD (lC _) aj
   rw [dA] at hOT ⊢
   refine .z zg (.nil (.ai (.z zm (.y hs (zls [_,_,_,_,_,_,_] dN aH) ?_))))
   refine .o (.call GA rfl (fy (r:=⟨r.src,r.st,r.wa,0,r.tol,r.tape,r.day⟩) hs) ?_);rintro _ w ⟨rfl,hs⟩
   refine .o (.call Tryz.call89 rfl (p8 (t:=r.td) hs hOT aj) ?_);rintro _ w ⟨rfl,hs⟩
   have hnn:=kY (l:=s.bP) (t:=r.td)
   have hcap2:s.sys.many=((s.sp.many+s.bP.length:Nat):Int):=rfl
   refine .z zg (.nil ?_)
   refine .cut (fun fs w=>∃H4 al ll cl enL,j9 fs ⟨134,[],[(9,I (s.tJ r.td:Int)),(7,.pointer (some ⟨b7,0,none⟩)),(4,.pointer (some ⟨b4,0,none⟩)),(3,.pointer (some ⟨b3,0,none⟩)),(2,.pointer (some ⟨b2,0,none⟩))]⟩∧HLe H3 H4∧cn 4 (.slice al ll cl) (gI (s.mY r.td).cO) enL∧St H4 w (.blk b7 [I (s.mY r.td).many,.slice al ll cl]::enL:: .blk b4 [I 0,I 0]:: .blk b3 [I r.src,I r.st,I r.wa,I 0,I r.tol,I r.tape,I r.day]:: .blk b2 [I s.sp.id,I s.sp.src,.slice ast s.sp.st.length cst,.slice awa s.sp.wa.length cwa,I s.sp.al,I s.sp.up,.slice ar s.rs.length cr,.slice ac s.cs.length cc]::σ)) ?_ ?_
   ·refine .ai (.z zm (.z gx (.nil ?_)))
    refine (.bM rfl (fun hc38=>?_) (fun hc38=>?_))
    ·refine .ai (.z zm (.z (c9 bg) (.z zg (.nil ?_))))
     refine .seq (.draw mix rfl hs fun w hs=>?_)
     refine .ys 0 rfl hs [_,_,_,_,_,_,_,_] aO aF ?_;refine .z 1 rfl zm ?_;refine .ys 2 rfl hs [_,_,_,_,_,_,_] dN aH ?_
     refine .E 3 hs ?_
     refine .call GA rfl (fy (r:=⟨r.src,r.st,r.wa,0,r.tol,r.tape,r.day⟩) hs) ?_;rintro _ w ⟨rfl,hs⟩
     refine .go ?_
     refine .E 4 hs ?_
     refine .buildSlice (cells:=[_,_]) hs fZ rfl rfl ?_;intro b45 w hs
     refine .go ?_
     refine .E 5 hs ?_
     refine .append (ys:=r.td.c) hs dV rfl rfl hOT (.own .here rfl rfl) (by simp [TD.c,Value.oneCell']) (fun l h=>by rw [bT _ (lC _),dA] at h;omega) ?_;intro v46 en46 w hO46 hs
     rw [←sJ] at hO46
     obtain ⟨H4,hle4,hT4,hs⟩:=cn.cK (m:=2) (cs:=tdc (s.bP++[r.td])) hO46 (lC _) aj (by rw [dA];simp;omega) hs cZ
     replace hT4:RTd H4 v46 (s.bP++[r.td]):=hT4
     obtain ⟨a46,c46,rfl⟩:=RTd.shape hT4
     have hle04:=hle03.trans hle4
     have hk4:MkK H4 s (s.bP++[r.td]) (.slice ast s.sp.st.length cst) (.slice awa s.sp.wa.length cwa) (.slice ar s.rs.length cr) (.slice ac s.cs.length cc) (.slice a46 (s.bP++[r.td]).length c46):=⟨h1.mono hle04,h2.mono hle04,h3.mono hle04,h4.mono hle04,hT4⟩
     refine .go ?_
     refine .z 6 rfl (zbd (vs:=[(0,.agg #[I s.sp.id,I s.sp.src,.slice ast s.sp.st.length cst,.slice awa s.sp.wa.length cwa,I s.sp.al,I s.sp.up,.slice ar s.rs.length cr,.slice ac s.cs.length cc]),(1,.slice a46 (s.bP++[r.td]).length c46)]) [I s.sp.id,I s.sp.src,.slice ast s.sp.st.length cst,.slice awa s.sp.wa.length cwa,I s.sp.al,I s.sp.up,.slice ar s.rs.length cr,.slice ac s.cs.length cc,.slice a46 (s.bP++[r.td]).length c46,.slice none 0 0] mf rfl an) ?_
     refine .E 7 hs ?_
     refine .box hs rfl rfl ?_;intro b48 w hs
     refine .go ?_
     refine .z 8 rfl zg ?_;refine .D hs ?_
     refine .seq (.draw mix rfl hs fun w hs=>?_)
     refine .z 0 rfl zm ?_;refine .z 1 rfl zm ?_;refine .z 2 rfl zm ?_;refine .z 4 rfl (zfa aS) ?_;refine .z 5 rfl (zfa dB) ?_;refine .y 6 rfl hs ae ?_
     refine .E 3 hs ?_
     refine .call Tryz.call116 rfl (jh (s:=s.sp) hs .here hk4.st hk4.wa ⟨aj,aj⟩ ⟨aj,aj⟩) ?_;rintro _ w ⟨rfl,hs⟩
     refine .go ?_
     refine .E 7 hs ?_
     refine .call um rfl (fT (ls:=[]) (hs.nul.sb:St H4 w (.blk b48 _:: .nul:: .blk b7 [I s.sys.many,.slice al ll cl]::enL:: .blk b4 [I 0,I 0]:: .blk b3 [I r.src,I r.st,I r.wa,I 0,I r.tol,I r.tape,I r.day]:: .blk b2 [I s.sp.id,I s.sp.src,.slice ast s.sp.st.length cst,.slice awa s.sp.wa.length cwa,I s.sp.al,I s.sp.up,.slice ar s.rs.length cr,.slice ac s.cs.length cc]::σ)) (.nil 4 none) bV) ?_;rintro _ w ⟨vl5,en5,hO5,hs⟩
     rw [List.nil_append] at hO5
     refine .go ?_
     refine .D hs ?_
     refine .ai (.z zm (.z zm ?_))
     refine .o (.call Tryz.call117 rfl (kK (s:=s) (ts:=s.bP++[r.td]) (j0:=s.bP.length) hs hk4 hO5 (by simp [two]) hok.early.1 (by simp;omega) hcl hok.early.2.2.2.2 bV) ?_);rintro _ w ⟨H5,vl6,en6,hle5,hO6,hs⟩
     obtain ⟨a6,l6,c6,rfl,hl6⟩:=hO6.shape
     have hnot:r.td∉s.bP:=fun h=>by have:=hnn.2 h;omega
     have hsys:s.mY r.td=⟨s.sys.many+1,s.cO++(two 0 ((s.sp.many:Int)+1+(s.bP.length:Int)) 1000 1000 s.sp.src++rK s.sp (s.bP++[r.td]) s.cs s.bP.length s.cs.length)⟩:=if_neg hnot
     have hlen6:=Cg hok r.td
     rw [hsys,List.length_append] at hlen6
     rw [dM] at hl6
     refine .nil ?_
     refine .draw mix rfl hs fun w hs=>?_
     refine .z 0 rfl (zfa bH) ?_;refine .y 1 rfl hs ae ?_;refine .z 2 rfl cq ?_;refine .z 3 rfl (zfa bO) ?_;refine .y 4 rfl hs cH ?_;refine .z 5 rfl zm ?_;refine .z 6 rfl znc ?_;refine .z 7 rfl (zfa gR) ?_;refine .y 8 rfl hs cH ?_;refine .z 10 rfl (zfa bH) ?_
     refine .E 9 hs ?_
     refine .append (ys:=gI (two 0 ((s.sp.many:Int)+1+(s.bP.length:Int)) 1000 1000 s.sp.src++rK s.sp (s.bP++[r.td]) s.cs s.bP.length s.cs.length)) hs bZ rfl rfl hOL (Src.Fl hO6 (.there .here)) (j7 _) (fun l h=>by rw [dM] at h;omega) ?_;intro v69 en69 w hO69 hs
     rw [←gH] at hO69
     obtain ⟨a69,l69,c69,rfl,h69⟩:=hO69.shape
     refine .go ?_
     refine .E 11 hs ?_
     refine .store hs rfl rfl af ?_;intro w hs
     refine .go ?_
     refine .z 12 rfl (zfa bO) ?_
     refine .E 13 hs ?_
     refine .store hs rfl rfl mD ?_;intro w hs
     refine .go ?_
     refine .D hs ?_
     refine nT ?_
     refine ⟨H5,a69,l69,c69,en69,?_,hle4.trans hle5,by rw [hsys];exact hO69,by rw [hsys];exact hs.sb⟩
     refine .cj rfl ?_ aR
     unfold Srv.tJ;rw [if_neg hnot]
    ·refine .skip ?_
     refine nT ?_
     have hmem:r.td∈s.bP:=hnn.1 aj
     have hsys:s.mY r.td=s.sys:=if_pos hmem
     obtain ⟨k,k1,_,_⟩:=gg hmem
     refine ⟨H3,al,ll,cl,enL,?_,HLe.refl _,by rw [hsys];exact hOL,by rw [hsys];exact hs.sb⟩
     refine .cj rfl ?_ aR
     unfold Srv.tJ;rw [if_pos hmem,k1];rfl
   ·clear hOL hOT hlL hnn
    rintro fs w ⟨H4,al,ll,cl,enL,hfs,hle4,hOL,hs⟩
    refine WE.sub ?_ hfs
    have hle04:=hle03.trans hle4
    obtain ⟨_,_,_,e0,hlL⟩:=hOL.shape
    cases e0
    rw [dM] at hlL
    have htn:=Dw s r.td
    have hjlt:=F0 s r.td
    have hmany:(s.mY r.td).many+1=((s.mY r.td).n:Int):=by
     unfold Srv.mY
     split
     ·simp only [cM.n,Srv.sys];omega
     ·simp only [cM.n,Srv.sys];omega
    have hn70:(s.mY r.td).n≤200:=by rw [htn];split<;>omega
    have hll6:ll=(s.mY r.td).cO.length:=by omega
    refine .seq (.ai (.z (zfa bH) (.y hs (zld ae) (.z kD (.z zm ?_)))))
    refine .iB (t':=75) rfl (fun hb75=>?_) (fun hb75=>?_)
    ·refine .gFs 4 3 false rfl rfl rfl ?_
     refine .z zpT (.nil ?_)
     refine (.cT ?_)
     refine .ai (.z (zbd [_,_] cz) ?_)
     refine .o (.aU (vs:=[_,_]) hs rfl rfl aZ fun w hs=>?_)
     refine .z zg (.nil ?_)
     refine .ret (rT (?_))
     exact Fin.iK [] [] hs fun w hs=>⟨_,results2 oQ (dJ (vs:=[_,_]) hs rfl dF aZ) rfl,H4,_,_,_,hle04,rfl,.long hok hr aj,hs.out⟩
    ·refine .gT rfl rfl ?_
     refine .z (zfa bO) ?_
     refine .gT rfl rfl ?_
     refine .y hs (zld cH) ?_
     refine .gT rfl rfl ?_
     refine .z (c9 aP) ?_
     refine .gT rfl rfl ?_
     refine .z kD (.z zpF (.nil ?_))
     refine (.bM rfl (fun hc80=>?_) (fun hc80=>?_))
     ·refine .ai (.z (zbd [_,_] cz) ?_)
      refine .o (.aU (vs:=[_,_]) hs rfl rfl aZ fun w hs=>?_)
      refine .z zg (.nil ?_)
      refine .ret (rT (?_))
      exact Fin.iK [] [] hs fun w hs=>⟨_,results2 oQ (dJ (vs:=[_,_]) hs rfl dF aZ) rfl,H4,_,_,_,hle04,rfl,.long hok hr aj,hs.out⟩
     ·refine .skip ?_
      refine nT ?_
      refine .ai (.z (zfa bH) (.y hs (zld ae) (.z cq ?_)))
      have hfit:(s.mY r.td).many≤64∧(s.mY r.td).cO.length≤400:=by omega
      refine .o (.oE (s.mY r.td).n hs (by show some (I _)=some (I _);rw [←hmany]) (by show some (I _)=some (I _);rw [←hmany]) aa dC rfl af bI aj ?_);intro b85 w hs
      obtain ⟨u1,u2,u3⟩:=E0 hr
      have hub:=x9 u1 u2
      refine .z zg (.nil (.ai (.z zm (.z (zfa aS) (.y hs (zls [_,_,_,_,_,_] aQ aI) (.z (zfa ff) (.y hs (zld ae) (.z (zfa fc) (.y hs (zld ae) ?_)))))))))
      refine .o (.call Tryz.call118 rfl (ku (s:=s.sp) hs (h2.mono hle04) aj ⟨aj,aj⟩ ⟨aj,aj⟩) ?_);rintro _ w ⟨rfl,hs⟩
      rw [u3]
      refine .q hs (dG (k:=s.sp.u r.st.toNat r.wa.toNat) rfl rfl aa af rfl aj) ?_
      refine .o (.store (c':=Is (q9 (s.mY r.td).n (s.sp.u r.st.toNat r.wa.toNat) 1)) hs rfl rfl af ?_ cZ (by simp [Is];omega) (mS _ _ _));intro w hs
      refine .nil (.ai (.z zm (.z (zfa aS) (.y hs (zls [_,_,_,_,_,_] aQ aI) ?_))))
      refine .o (.call Tryz.call91 rfl (gh (s:=s.sp) hs (h1.mono hle04) (h2.mono hle04) ⟨aj,aj⟩) ?_);rintro _ w ⟨rfl,hs⟩
      refine .z cq (.z zm (.z cq ?_))
      refine .q hs (dG (k:=s.sp.many+1+s.tJ r.td) rfl rfl aa af aj aj) ?_
      refine .o (.store (c':=Is (s.tW r)) hs rfl rfl af ?_ cZ (by simp [Is,iT];omega) (mS _ _ _));intro w hs
      refine .nil (.ai (.y hs (zls [_,_] aT aE) (.z zm ?_)))
      have hwl:(s.tW r).length=(s.mY r.td).n:=by simp [Srv.tW,iT]
      obtain ⟨H5,hle5,hW,hs⟩:=cn.dI (xs:=s.tW r) (v:= .slice (some ⟨b85,0,none⟩) (s.mY r.td).n (s.mY r.td).n) (.full (by simp [Is,hwl])) aj hs cZ
      obtain ⟨H6,hle6,hL6,hs⟩:=cn.cK (m:=4) (cs:=(s.mY r.td).cO.map Lim.c) hOL (fun c hc=>by simp only [List.mem_map] at hc;obtain ⟨x,_,rfl⟩:=hc;rfl) aj (by rw [List.length_map];omega) hs cZ
      refine .o (.call Tryz.call74 rfl (ki (s:=s.mY r.td) hs ⟨_,rfl,hL6⟩ (hW.mono hle6)) ?_);rintro _ w ⟨H7,a,b,f,hle7,rfl,hRg,hs⟩
      have hbd:=hRg.bd
      have hleF:=hle04.trans (hle5.trans (hle6.trans hle7))
      refine .z zm (.z zex (.z zex (.z zex (.z zg (.z zg (.z zg (.nil (.seq (.ai ?_)))))))))
      refine .z zm (.z ij (.nil ?_))
      refine (.eQ rfl (fun hc111=>?_) (fun hc111=>?_))
      ·refine .ai (.z (zbd [_,_] cz) ?_)
       refine .o (.aU (vs:=[_,_]) hs rfl rfl aZ fun w hs=>?_)
       refine .z zg (.nil ?_)
       refine .ret (rT (?_))
       exact Fin.iK [] [] hs fun w hs=>⟨_,results2 oQ (dJ (vs:=[_,_]) hs rfl dF aZ) rfl,H7,_,_,_,hleF,rfl,.fls hok hr hfit hRg hc111,hs.out⟩
      ·refine .skip ?_
       refine nT ?_
       refine .ai ?_
       obtain rfl:f=0:=by simpa using hc111
       refine .z zm (.z (zfa ck) (.y hs (zld ae) (.z gW (.z DM (.z zm (.z (zfa ck) (.y hs (zld ae) (.z cq (.z (zfa ck) ?_)))))))))
       refine .y hs (zld ae) (.z gW (.z As (.z (zbd [_,_] cz) ?_)))
       refine .o (.alloc hs fY rfl fun b15 w hs=>?_)
       refine .o (.aU (vs:=[_,_]) hs rfl rfl aZ fun w hs=>?_)
       refine .nil (.seq (.ai (.z (zfa oV) (.y hs (zld ae) (.z (zfa oU) (.y hs (zld ae) (.z kD (.nil ?_))))))))
       refine (.bM rfl (fun hc131=>?_) (fun hc131=>?_))
       ·refine .ai (.z (zbd [_,_] cz) ?_)
        refine .o (.aU (vs:=[_,_]) hs rfl rfl aZ fun w hs=>?_)
        refine .z zg (.nil ?_)
        refine .ret (rT (?_))
        exact Fin.iK [] [] hs fun w hs=>⟨_,results2 oQ (dJ (vs:=[_,_]) hs rfl dF aZ) rfl,H7,_,_,_,hleF,rfl,.none hok hr hfit hRg aj,hs.out⟩
       ·refine .skip ?_
        refine nT ?_
        refine .ai (.y hs (zls [_,_] dF aZ) ?_)
        refine .o (.aU (vs:=[_,_]) hs rfl rfl aZ fun w hs=>?_)
        refine .z zg (.nil ?_)
        refine .ret ?_
        exact Fin.iK [] [] hs fun w hs=>⟨_,results2 oQ (dJ (vs:=[_,_]) hs rfl dF aZ) rfl,H7,_,_,_,hleF,rfl,.ok hok hr hfit hRg aj,hs.out⟩
set_option maxRecDepth 100000 in
theorem rl:Tryz.prog.stoodInHeld 44=false:=by kernel_rfl
set_option maxRecDepth 100000 in
theorem rm:Tryz.prog.eqGuardType Tryz.prog.depth 44=false:=by kernel_rfl
theorem pj{v1 v2:Value}{as_ bs:List Int}(hs:St H w σ)(h1:RI H v1 as_)(h2:RI H v2 bs):
  Cl Tryz.prog 34 [v1,v2] w fun u w'=>u= .bool (decide (as_=bs))∧St H w' σ:=by
 obtain ⟨a1,c1,rfl⟩:=RI.shape h1
 obtain ⟨a2,c2,rfl⟩:=RI.shape h2
 have l1:=(RI.len h1).2.2
 refine Cl.o Tryz.func34 Tryz.ntmps34 ag2 ?_
 refine .ai (.z zg (.nil (.ai (.z zm (.z (c9 aa) (.z zm (.z (c9 aa) (.z gC (.z zg ?_)))))))))
 refine .nil (.seq (.ai (.z zg (.nil (.block ?_)))))
 refine .loop (fun p:Nat×Bool=>⟨31,[],[(6,I (p.1:Int)),(5,.bool p.2),(0,.slice a1 as_.length c1),(1,.slice a2 bs.length c2)]⟩)
  (fun p w=>p.1≤as_.length∧(p.2=true↔as_.length=bs.length∧∀j<p.1,gi as_ j=gi bs j)∧St H w σ) (fun p=>as_.length - p.1) (0,decide ((as_.length:Int)=bs.length)) aR
  ⟨Nat.zero_le _,by dsimp only;rw [decide_eq_true_eq];exact ⟨fun h=>⟨aj,fun j hj=>by omega⟩,fun h=>by omega⟩,hs⟩ ?_
 rintro ⟨k,b⟩ w ⟨hk,hb,hs⟩
 dsimp only at hk hb ⊢
 refine .seq (.ai (.z zm (.z zm (.z (c9 aa) (.z gx (.z zm ?_))))))
 refine .iB (t':=16) rfl (fun hb16=>?_) (fun hb16=>?_)
 ·refine .gT rfl rfl ?_
  refine .z zm (.z zpT (.nil ?_))
  refine (.cond rfl (fun hc18=>?_) (fun hc18=>?_))
  ·refine .skip ?_
   refine nT ?_
   refine .seq (.block ?_)
   refine .draw mix rfl hs fun w hs=>?_
   refine .z 0 rfl zm ?_;refine .z 1 rfl zm ?_
   obtain rfl:b=true:=by assumption
   obtain ⟨hlen,hall⟩:=hb.1 rfl
   refine .ixX (enc:=fun x=>[I x]) (i:=2) hs rfl an .none h1 rfl rfl aa af (bL (l:=as_) (i:=k) aj) dy ?_;intro b23 o23 hc23;replace hc23:=bB.one hc23
   refine .r (i:=3) hs rfl an .none (aK rfl ae hc23) ?_
   refine .z 4 rfl zm ?_;refine .z 5 rfl zm ?_
   refine .ixX (enc:=fun x=>[I x]) (i:=6) hs rfl an .none h2 rfl rfl aa af (bL (l:=bs) (i:=k) aj) dy ?_;intro b27 o27 hc27;replace hc27:=bB.one hc27
   refine .r (i:=7) hs rfl an .none (aK rfl ae hc27) ?_
   refine .z 8 rfl gC ?_;refine .z 9 rfl zg ?_;refine .D hs ?_
   refine nB (nT ?_)
   refine .region (.z zm (.z cq (.z zg (.nil ?_))))
   refine nT ?_
   exact ⟨(k+1,decide (gi as_ k=gi bs k)),.cj rfl bV aR,⟨by dsimp only;omega,by
    dsimp only
    rw [decide_eq_true_eq]
    exact ⟨fun h=>⟨hlen,fun j hj=>by
     by_cases e:j=k
     ·subst e;exact h
     ·exact hall j aj⟩,fun h=>h.2 k aj⟩,hs⟩,by dsimp only;omega⟩
  ·refine .exit ?_
   refine xT (xT (xB (nT ?_)))
   refine .ai (.z zm (.z zg (.nil ?_)))
   refine .ret (Fin.bJ Tryz.results34 rfl ?_)
   have hf:b=false:=by simpa using hc18
   exact ⟨by rw [hf,decide_eq_false (fun h=>by subst h;rw [hb.2 ⟨rfl,fun j _=>rfl⟩] at hf;cases hf)],hs⟩
 ·refine .gFs 1 4 true rfl rfl rfl ?_
  refine .z zpF (.nil ?_)
  refine (.cF ?_)
  refine .exit ?_
  refine xT (xT (xB (nT ?_)))
  refine .ai (.z zm (.z zg (.nil ?_)))
  refine .ret (Fin.bJ Tryz.results34 rfl ?_)
  refine ⟨?_,hs⟩
  congr 1
  cases hbb:b with
  |true=>
   obtain ⟨hl,ha⟩:=hb.1 hbb
   rw [decide_eq_true (xC hl fun j hj=>ha j aj)]
  |false=>rw [decide_eq_false (fun h=>by subst h;rw [hb.2 ⟨rfl,fun j _=>rfl⟩] at hbb;cases hbb)]
theorem qu(hs:St H w σ):
  Cl Tryz.prog 82 [] w fun u w'=>∃H1 vst vwa vr vc,HLe H H1∧u= .agg #[I 1,I 1,vst,vwa,I 100,I 200,vr,vc]∧RI H1 vst exV.sp.st∧RI H1 vwa exV.sp.wa∧RRd H1 vr exV.rs∧RCm H1 vc exV.cs∧St H1 w' σ:=by
 refine Cl.of Tryz.func82 rfl Tryz.ntmps82 bV (wI) ?_
 refine .ai ?_
 refine .o (.alloc hs eI rfl fun b0 w hs=>?_)
 refine .nil (.ai ?_)
 refine .o (.buildSlice (cells:=Is [0,1000]) hs iV rfl an fun b2 w hs=>?_)
 refine .o (.buildSlice (cells:=Is [0,1000]) hs iV rfl an fun b3 w hs=>?_)
 refine .z (zbd [_,_] sa) (.z (zbd [_,_,_,_,_,_] qN) ?_)
 refine .o (.alloc hs jx rfl fun b1 w hs=>?_)
 refine .o (.aU (vs:=[_,_,_,_,_,_]) hs rfl rfl aI fun w hs=>?_)
 refine .nil (.ai (.y hs (zls [_,_,_,_,_,_] aQ aI) (.z (zbd [_,_,_,_,_,_,_] fC) (.z (zbd [_,_,_,_,_,_,_] fC) (.z (zbd [_,_,_,_,_,_,_] fC) (.z (zbd [_,_,_,_,_,_,_] fC) ?_))))))
 refine .o (.buildSlice (cells:=(rdc B3).flatten) hs oK rfl an fun b11 w hs=>?_)
 refine .z (zbd [_,_,_,_,_,_] nW) ?_
 refine .o (.buildSlice (cells:=(cmc exV.cs).flatten) hs kv rfl an fun b13 w hs=>?_)
 refine .z (zbd (vs:=[(0,.agg #[I 1,I 1,.slice (some ⟨b2,0,none⟩) 2 2,.slice (some ⟨b3,0,none⟩) 2 2,I 100,I 200]),(1,.slice (some ⟨b11,0,none⟩) 4 4),(2,.slice (some ⟨b13,0,none⟩) 1 1)]) [I 1,I 1,.slice (some ⟨b2,0,none⟩) 2 2,.slice (some ⟨b3,0,none⟩) 2 2,I 100,I 200,.slice (some ⟨b11,0,none⟩) 4 4,.slice (some ⟨b13,0,none⟩) 1 1] oY rfl an) ?_
 refine .o (.aU (vs:=[_,_,_,_,_,_,_,_]) hs rfl rfl aF fun w hs=>?_)
 refine .nil ?_
 refine .ret ?_
 obtain ⟨H1,g1,r1,hs⟩:=cn.dI (xs:=[0,1000]) (v:= .slice (some ⟨b2,0,none⟩) 2 2) (.full rfl) bV hs cZ
 obtain ⟨H2,g2,r2,hs⟩:=cn.dI (xs:=[0,1000]) (v:= .slice (some ⟨b3,0,none⟩) 2 2) (.full rfl) bV hs cZ
 obtain ⟨H3,g3,r3,hs⟩:=cn.cK (m:=7) (cs:=rdc B3) (v:= .slice (some ⟨b11,0,none⟩) 4 4) (.full an) (iY _) aj gq hs cZ
 obtain ⟨H4,g4,r4,hs⟩:=cn.cK (m:=6) (cs:=cmc exV.cs) (v:= .slice (some ⟨b13,0,none⟩) 1 1) (.full an) (rL _) aj gq hs cZ
 exact Fin.iK [] [] hs fun w hs=>⟨_,results1 Tryz.results82 (dJ (vs:=[_,_,_,_,_,_,_,_]) hs rfl aO aF),H4,_,_,_,_,g1.trans (g2.trans (g3.trans g4)),rfl,r1.mono (g2.trans (g3.trans g4)),r2.mono (g3.trans g4),r3.mono g4,r4,hs.out⟩
theorem C9{out:List Int}{e:Int}(h:zP exW out e):out=[11,15]∧e=0:=by
 cases h with
 |bad h he=>exact (he (h.dt.2 Fy)).elim
 |ok _ h=>rw [En] at h;exact Bv h
set_option maxHeartbeats 4000000 in
theorem nE(hs:St H w σ):
  Cl Tryz.prog 22 [] w fun u w'=>u= .bool true∧∃H1,HLe H H1∧St H1 w' σ:=by
 refine Cl.of Tryz.func22 rfl Tryz.ntmps22 bV (wI) ?_
 refine .ai (.z zg (.nil (.ai ?_)))
 refine .o (.call Tryz.call82 rfl (qu hs) ?_);rintro _ w ⟨H1,vst,vwa,vr,vc,hle1,rfl,h1,h2,h3,h4,hs⟩
 obtain ⟨ast,cst,rfl⟩:=RI.shape h1
 obtain ⟨awa,cwa,rfl⟩:=RI.shape h2
 obtain ⟨ar,cr,rfl⟩:=RRd.shape h3
 obtain ⟨ac,cc,rfl⟩:=RCm.shape h4
 refine .o (.alloc hs eI rfl fun b1 w hs=>?_)
 refine .o (.aU (vs:=[_,_,_,_,_,_,_,_]) hs rfl rfl aF fun w hs=>?_)
 refine .nil (.ai (.y hs (zls [_,_,_,_,_,_,_,_] aO aF) (.z (zbd [_,_,_] lr) ?_)))
 refine .o (.call Tryz.call26 rfl (qm (s:=exV) (q:=⟨1,0,1⟩) hs h1 h2 h3 h4) ?_);rintro _ w ⟨H2,lo,hi,e,hle2,rfl,hQ,hs⟩
 obtain ⟨rfl,rfl,rfl⟩:=Bu hQ
 have hle02:=hle1.trans hle2
 replace h1:=h1.mono hle2
 replace h2:=h2.mono hle2
 replace h3:=h3.mono hle2
 replace h4:=h4.mono hle2
 refine .z zm (.z zex (.z zex ?_))
 refine .o (.alloc hs fY rfl fun b2 w hs=>?_)
 refine .o (.aU (vs:=[_,_]) hs rfl rfl aZ fun w hs=>?_)
 refine .z zg (.nil (.ai (.y hs (zls [_,_,_,_,_,_,_,_] aO aF) (.z (zbd [_,_] gv) ?_))))
 refine .o (.call Tryz.call28 rfl (rz (s:=exV) (t:=⟨2,5⟩) hs h1 h2 h3 h4) ?_);rintro _ w ⟨H3,lo,hi,e,hle3,rfl,hQ,hs⟩
 obtain ⟨rfl,rfl,rfl⟩:=Em hQ
 have hle03:=hle02.trans hle3
 replace h1:=h1.mono hle3
 replace h2:=h2.mono hle3
 replace h3:=h3.mono hle3
 replace h4:=h4.mono hle3
 refine .z zm (.z zex (.z zex ?_))
 refine .o (.alloc hs fY rfl fun b4 w hs=>?_)
 refine .o (.aU (vs:=[_,_]) hs rfl rfl aZ fun w hs=>?_)
 refine .z zg (.nil (.ai (.z (zfa aS) (.y hs (zls [_,_,_,_,_,_] aQ aI) ?_))))
 refine .o (.buildSlice (cells:=Is [100,200]) hs iV rfl an fun b30 w hs=>?_)
 refine .o (.buildSlice (cells:=Is [150,300]) hs iV rfl an fun b31 w hs=>?_)
 refine .o (.buildSlice (cells:=[.slice (some ⟨b30,0,none⟩) 2 2,.slice (some ⟨b31,0,none⟩) 2 2]) hs uF rfl an fun b32 w hs=>?_)
 refine .z (zbd [_] xJ) (.z (zbd [_,_,_] lr) ?_)
 obtain ⟨H4,g1,r1,hs⟩:=cn.dI (xs:=[100,200]) (v:= .slice (some ⟨b30,0,none⟩) 2 2) (.full rfl) bV hs cZ
 obtain ⟨H5,g2,r2,hs⟩:=cn.dI (xs:=[150,300]) (v:= .slice (some ⟨b31,0,none⟩) 2 2) (.full rfl) bV hs cZ
 have hRL:RLs H5 [.slice (some ⟨b30,0,none⟩) 2 2,.slice (some ⟨b31,0,none⟩) 2 2] zx:=((RLs.nil H5).snoc (r1.mono g2)).snoc r2
 obtain ⟨H6,g3,hRT,hs⟩:=hRL.cK (v:= .slice (some ⟨b32,0,none⟩) 2 2) (en:= .blk b32 [.slice (some ⟨b30,0,none⟩) 2 2,.slice (some ⟨b31,0,none⟩) 2 2]) (.full rfl) bV hs cZ
 have hle4:=g1.trans (g2.trans g3)
 have hle06:=hle03.trans hle4
 replace h1:=h1.mono hle4
 replace h2:=h2.mono hle4
 replace h3:=h3.mono hle4
 replace h4:=h4.mono hle4
 refine .o (.call Tryz.call37 rfl (qj (s:=Al) (q:=⟨1,0,1⟩) hs h1 h2 hRT) ?_);rintro _ w ⟨H7,n,e,hle7,rfl,hQ,hs⟩
 obtain ⟨rfl,rfl⟩:=C2 hQ
 have hle07:=hle06.trans hle7
 replace h1:=h1.mono hle7
 replace h2:=h2.mono hle7
 replace h3:=h3.mono hle7
 replace h4:=h4.mono hle7
 refine .z zm (.z zex (.z zex (.z zg (.z zg (.nil (.ai (.y hs (zls [_,_,_,_,_,_,_,_] aO aF) (.z (zbd [_,_,_,_,_,_,_] fC) ?_))))))))
 refine .o (.call Tryz.call46 rfl (ru (s:=exV) (r:=⟨30,1,0,0,5,1,5⟩) hs h1 h2 h3 h4 rfl) ?_);rintro _ w ⟨H8,lo,hi,e,hle8,rfl,hQ,hs⟩
 obtain ⟨rfl,rfl,rfl⟩:=El hQ
 have hle08:=hle07.trans hle8
 replace h1:=h1.mono hle8
 replace h2:=h2.mono hle8
 replace h3:=h3.mono hle8
 replace h4:=h4.mono hle8
 refine .z zm (.z zex (.z zex ?_))
 refine .o (.alloc hs fY rfl fun b8 w hs=>?_)
 refine .o (.aU (vs:=[_,_]) hs rfl rfl aZ fun w hs=>?_)
 refine .z zg (.nil (.ai (.y hs (zls [_,_,_,_,_,_,_,_] aO aF) ?_)))
 refine .o (.alloc hs eI rfl fun b10 w hs=>?_)
 refine .o (.aU (vs:=[_,_,_,_,_,_,_,_]) hs rfl rfl aF fun w hs=>?_)
 refine .nil (.ai ?_)
 refine .o (.buildSlice (cells:=[]) hs oL rfl rfl fun b45 w hs=>?_)
 refine .z (zfa aN) (.y hs (zld bu) ?_)
 refine .o (.append (xs:=[]) (ys:=(rdc B3).flatten) hs cQ rfl rfl (.full (b:=b45) (len:=0) rfl) (.rs h3) gq (fun l' h=>by have hl:l'=0:=(by simp at h;omega);subst hl;decide) ?_);intro v48 en48 w hO48 hs
 rw [List.nil_append] at hO48
 obtain ⟨a48,c48,rfl⟩:=hO48.iD (iY B3) aj
 refine .z (zbd [_,_,_,_,_,_,_] fC) ?_
 refine .o (.buildSlice (cells:=Rdg.c ⟨15,0,0,300,10,1,5⟩) hs fl rfl an fun b50 w hs=>?_)
 refine .o (.append (ys:=Rdg.c ⟨15,0,0,300,10,1,5⟩) hs cQ rfl rfl hO48 (.own .here rfl rfl) gq (fun l' h=>by rw [bT _ (iY _)] at h;simp [rdc,B3] at h;omega) ?_);intro v51 en51 w hO51 hs
 rw [←qe] at hO51
 obtain ⟨H9,hle9,h3w,hs⟩:=cn.cK (m:=7) (cs:=rdc (B3++[⟨15,0,0,300,10,1,5⟩])) hO51 (iY _) aj gq hs cZ
 replace h3w:RRd H9 v51 exW.rs:=h3w
 obtain ⟨a51,c51,rfl⟩:=RRd.shape h3w
 have hle09:=hle08.trans hle9
 replace h1:=h1.mono hle9
 replace h2:=h2.mono hle9
 replace h4:=h4.mono hle9
 refine .z (zfa aN) ?_
 refine .o (.store hs rfl rfl mE fun w hs=>?_)
 refine .nil (.ai (.y hs (zls [_,_,_,_,_,_,_,_] aO aF) ?_))
 refine .o (.call Tryz.call32 rfl (ql (s:=exW) hs h1 h2 h3w h4) ?_);rintro _ w ⟨H10,vx,out,e,hle10,rfl,hR,hQ,hs⟩
 obtain ⟨rfl,rfl⟩:=C9 hQ
 have hle010:=hle09.trans hle10
 refine .z zm (.z zex (.z zex (.z zg (.z zg (.nil (.ai (.z zm ?_)))))))
 refine .o (.buildSlice (cells:=Is [11,15]) hs iV rfl an fun b59 w hs=>?_)
 obtain ⟨H11,hle11,r59,hs⟩:=cn.dI (xs:=[11,15]) (v:= .slice (some ⟨b59,0,none⟩) 2 2) (.full rfl) bV hs cZ
 have hleF:=hle010.trans hle11
 refine .o (.call Tryz.call34 rfl (pj hs (hR.mono hle11) r59) ?_);rintro _ w ⟨rfl,hs⟩
 refine .z zg (.nil (.ai (.z zm (.z gC (.z zm ?_)))))
 refine .iB (t':=63) rfl (fun hb63=>?_) (fun hb63=>?_)
 ·refine .gT rfl rfl ?_
  refine .y hs (zls [_,_] dF aZ) ?_
  refine .gT rfl rfl ?_
  refine .z (zbd [_,_] cz) ?_
  refine .gT rfl rfl ?_
  refine .q hs (r6 rl rm kT (fun f hf=>by
   simp only [List.mem_cons,List.not_mem_nil,or_false] at hf
   rcases hf with rfl|rfl<;>exact ⟨by decide,bp,ae⟩) rfl rfl) ?_
  refine .z zpT (.z zm ?_)
  refine .bif (t':=68) rfl (fun hb68=>?_) (fun hb68=>?_)
  ·refine .gT rfl rfl ?_
   refine .z zm ?_
   refine .gT rfl rfl ?_
   refine .z gC (.z zpT (.z zm ?_))
   refine .iB (t':=72) rfl (fun hb72=>?_) (fun hb72=>?_)
   ·refine .gT rfl rfl ?_
    refine .y hs (zls [_,_] dF aZ) ?_
    refine .gT rfl rfl ?_
    refine .z (zbd [_,_] cz) ?_
    refine .gT rfl rfl ?_
    refine .q hs (r6 rl rm kT (fun f hf=>by
     simp only [List.mem_cons,List.not_mem_nil,or_false] at hf
     rcases hf with rfl|rfl<;>exact ⟨by decide,bp,ae⟩) rfl rfl) ?_
    refine .z zpT (.z zm ?_)
    refine .bif (t':=77) rfl (fun hb77=>?_) (fun hb77=>?_)
    ·refine .gT rfl rfl ?_
     refine .z zm ?_
     refine .gT rfl rfl ?_
     refine .z gC (.z zpT (.z zm ?_))
     refine .iB (t':=81) rfl (fun hb81=>?_) (fun hb81=>?_)
     ·refine .gT rfl rfl ?_
      refine .z zm ?_
      refine .gT rfl rfl ?_
      refine .z gC (.z zpT (.z zm ?_))
      refine .iB (t':=85) rfl (fun hb85=>?_) (fun hb85=>?_)
      ·refine .gT rfl rfl ?_
       refine .z zm ?_
       refine .gT rfl rfl ?_
       refine .z gC (.z zpT (.z zm ?_))
       refine .iB (t':=89) rfl (fun hb89=>?_) (fun hb89=>?_)
       ·refine .gT rfl rfl ?_
        refine .y hs (zls [_,_] dF aZ) ?_
        refine .gT rfl rfl ?_
        refine .z (zbd [_,_] cz) ?_
        refine .gT rfl rfl ?_
        refine .q hs (r6 rl rm kT (fun f hf=>by
         simp only [List.mem_cons,List.not_mem_nil,or_false] at hf
         rcases hf with rfl|rfl<;>exact ⟨by decide,bp,ae⟩) rfl rfl) ?_
        refine .z zpT (.z zm ?_)
        refine .bif (t':=94) rfl (fun hb94=>?_) (fun hb94=>?_)
        ·refine .gT rfl rfl ?_
         refine .z zm ?_
         refine .gT rfl rfl ?_
         refine .z gC (.z zpT (.z zm ?_))
         refine .iB (t':=98) rfl (fun hb98=>?_) (fun hb98=>?_)
         ·refine .gT rfl rfl ?_
          refine .z zm (.z zpT (.z zg (.nil ?_)))
          refine .ret (Fin.bJ iq rfl ?_)
          first
          |exact ⟨rfl,H11,hleF,hs.out⟩
          |contradiction
          |(exfalso;simp_all;done)
         ·refine .gFs 1 37 true rfl rfl rfl ?_
          refine .z zpF (.z zg (.nil ?_))
          refine .ret (Fin.bJ iq rfl ?_)
          first
          |exact ⟨rfl,H11,hleF,hs.out⟩
          |contradiction
          |(exfalso;simp_all;done)
        ·refine .gFs 2 33 true rfl rfl rfl ?_
         refine .z zpF (.z zm ?_)
         refine .gFs 1 37 true rfl rfl rfl ?_
         refine .z zpF (.z zg (.nil ?_))
         refine .ret (Fin.bJ iq rfl ?_)
         first
         |exact ⟨rfl,H11,hleF,hs.out⟩
         |contradiction
         |(exfalso;simp_all;done)
       ·refine .gFs 3 28 true rfl rfl rfl ?_
        refine .z zpF (.z zm ?_)
        refine .gFs 2 33 true rfl rfl rfl ?_
        refine .z zpF (.z zm ?_)
        refine .gFs 1 37 true rfl rfl rfl ?_
        refine .z zpF (.z zg (.nil ?_))
        refine .ret (Fin.bJ iq rfl ?_)
        first
        |exact ⟨rfl,H11,hleF,hs.out⟩
        |contradiction
        |(exfalso;simp_all;done)
      ·refine .gFs 2 24 true rfl rfl rfl ?_
       refine .z zpF (.z zm ?_)
       refine .gFs 3 28 true rfl rfl rfl ?_
       refine .z zpF (.z zm ?_)
       refine .gFs 2 33 true rfl rfl rfl ?_
       refine .z zpF (.z zm ?_)
       refine .gFs 1 37 true rfl rfl rfl ?_
       refine .z zpF (.z zg (.nil ?_))
       refine .ret (Fin.bJ iq rfl ?_)
       first
       |exact ⟨rfl,H11,hleF,hs.out⟩
       |contradiction
       |(exfalso;simp_all;done)
     ·refine .gFs 2 20 true rfl rfl rfl ?_
      refine .z zpF (.z zm ?_)
      refine .gFs 2 24 true rfl rfl rfl ?_
      refine .z zpF (.z zm ?_)
      refine .gFs 3 28 true rfl rfl rfl ?_
      refine .z zpF (.z zm ?_)
      refine .gFs 2 33 true rfl rfl rfl ?_
      refine .z zpF (.z zm ?_)
      refine .gFs 1 37 true rfl rfl rfl ?_
      refine .z zpF (.z zg (.nil ?_))
      refine .ret (Fin.bJ iq rfl ?_)
      first
      |exact ⟨rfl,H11,hleF,hs.out⟩
      |contradiction
      |(exfalso;simp_all;done)
    ·refine .gFs 2 16 true rfl rfl rfl ?_
     refine .z zpF (.z zm ?_)
     refine .gFs 2 20 true rfl rfl rfl ?_
     refine .z zpF (.z zm ?_)
     refine .gFs 2 24 true rfl rfl rfl ?_
     refine .z zpF (.z zm ?_)
     refine .gFs 3 28 true rfl rfl rfl ?_
     refine .z zpF (.z zm ?_)
     refine .gFs 2 33 true rfl rfl rfl ?_
     refine .z zpF (.z zm ?_)
     refine .gFs 1 37 true rfl rfl rfl ?_
     refine .z zpF (.z zg (.nil ?_))
     refine .ret (Fin.bJ iq rfl ?_)
     first
     |exact ⟨rfl,H11,hleF,hs.out⟩
     |contradiction
     |(exfalso;simp_all;done)
   ·refine .gFs 3 11 true rfl rfl rfl ?_
    refine .z zpF (.z zm ?_)
    refine .gFs 2 16 true rfl rfl rfl ?_
    refine .z zpF (.z zm ?_)
    refine .gFs 2 20 true rfl rfl rfl ?_
    refine .z zpF (.z zm ?_)
    refine .gFs 2 24 true rfl rfl rfl ?_
    refine .z zpF (.z zm ?_)
    refine .gFs 3 28 true rfl rfl rfl ?_
    refine .z zpF (.z zm ?_)
    refine .gFs 2 33 true rfl rfl rfl ?_
    refine .z zpF (.z zm ?_)
    refine .gFs 1 37 true rfl rfl rfl ?_
    refine .z zpF (.z zg (.nil ?_))
    refine .ret (Fin.bJ iq rfl ?_)
    first
    |exact ⟨rfl,H11,hleF,hs.out⟩
    |contradiction
    |(exfalso;simp_all;done)
  ·refine .gFs 2 7 true rfl rfl rfl ?_
   refine .z zpF (.z zm ?_)
   refine .gFs 3 11 true rfl rfl rfl ?_
   refine .z zpF (.z zm ?_)
   refine .gFs 2 16 true rfl rfl rfl ?_
   refine .z zpF (.z zm ?_)
   refine .gFs 2 20 true rfl rfl rfl ?_
   refine .z zpF (.z zm ?_)
   refine .gFs 2 24 true rfl rfl rfl ?_
   refine .z zpF (.z zm ?_)
   refine .gFs 3 28 true rfl rfl rfl ?_
   refine .z zpF (.z zm ?_)
   refine .gFs 2 33 true rfl rfl rfl ?_
   refine .z zpF (.z zm ?_)
   refine .gFs 1 37 true rfl rfl rfl ?_
   refine .z zpF (.z zg (.nil ?_))
   refine .ret (Fin.bJ iq rfl ?_)
   first
   |exact ⟨rfl,H11,hleF,hs.out⟩
   |contradiction
   |(exfalso;simp_all;done)
 ·refine .gFs 3 2 true rfl rfl rfl ?_
  refine .z zpF (.z zm ?_)
  refine .gFs 2 7 true rfl rfl rfl ?_
  refine .z zpF (.z zm ?_)
  refine .gFs 3 11 true rfl rfl rfl ?_
  refine .z zpF (.z zm ?_)
  refine .gFs 2 16 true rfl rfl rfl ?_
  refine .z zpF (.z zm ?_)
  refine .gFs 2 20 true rfl rfl rfl ?_
  refine .z zpF (.z zm ?_)
  refine .gFs 2 24 true rfl rfl rfl ?_
  refine .z zpF (.z zm ?_)
  refine .gFs 3 28 true rfl rfl rfl ?_
  refine .z zpF (.z zm ?_)
  refine .gFs 2 33 true rfl rfl rfl ?_
  refine .z zpF (.z zm ?_)
  refine .gFs 1 37 true rfl rfl rfl ?_
  refine .z zpF (.z zg (.nil ?_))
  refine .ret (Fin.bJ iq rfl ?_)
  first
  |exact ⟨rfl,H11,hleF,hs.out⟩
  |contradiction
  |(exfalso;simp_all;done)
structure WI(s:Spc)(L:List Int)(f:Nat→Nat→Int):Prop where
 len:L.length=s.many+1
 zero:gi L 0=0
 at_:∀i k,i<s.st.length→k<s.wa.length→gi L (s.u i k)=f i k
theorem WI.start(s:Spc):WI s (List.replicate (s.many+1) 0) fun _ _=>0:=
 ⟨bV,du _ _ aj,fun i k hi hk=>by have:=x9 hi hk;exact du _ _ aj⟩
theorem WI.set{s:Spc}{L:List Int}{f:Nat→Nat→Int}(h:WI s L f){i k:Nat}(hi:i<s.st.length)(hk:k<s.wa.length)(x:Int):WI s (L.set (s.u i k) x) fun i' k'=>if i'=i∧k'=k then x else f i' k':=by
 have hb:=x9 hi hk
 refine ⟨by rw [List.length_set];exact h.len,by rw [qx aj];exact h.zero,fun i' k' hi' hk'=>?_⟩
 have hb':=x9 hi' hk'
 rw [eu (by rw [h.len];omega)]
 by_cases e:i'=i∧k'=k
 ·obtain ⟨rfl,rfl⟩:=e
  rw [if_pos rfl,if_pos ⟨rfl,rfl⟩]
 ·rw [if_neg e,if_neg,h.at_ i' k' hi' hk']
  intro e2
  obtain ⟨d1,d2⟩:=DX (nw:=s.wa.length) (i:=i) hk
  obtain ⟨d3,d4⟩:=DX (nw:=s.wa.length) (i:=i') hk'
  have e3:i'*s.wa.length+k'=i*s.wa.length+k:=by unfold Spc.u at e2;omega
  rw [e3] at d3 d4
  exact e ⟨d3.symm.trans d1,d4.symm.trans d2⟩
theorem WI.congr{s:Spc}{L:List Int}{f g:Nat→Nat→Int}(h:WI s L f)(e:∀i k,i<s.st.length→k<s.wa.length→f i k=g i k):WI s L g:=
 ⟨h.len,h.zero,fun i k hi hk=>(h.at_ i k hi hk).trans (e i k hi hk)⟩
theorem WI.fin{s:Spc}{q:Wht}{L:List Int}(h:WI s L (kb s q)):L=lA s q:=B9 h.len h.zero h.at_
theorem rp{s:Spc}{q:Wht}{vst vwa:Value}(hs:St H w σ)(h1:RI H vst s.st)(h2:RI H vwa s.wa):
  Cl Tryz.prog 112 [.agg #[I s.id,I s.src,vst,vwa,I s.al,I s.up],.agg #[I q.kind,I q.st,I q.wa]] w fun v w'=>∃b:Bool,v= .bool b∧(b=true↔fm s q)∧St H w' σ:=by
 obtain ⟨ast,cst,rfl⟩:=RI.shape h1
 obtain ⟨awa,cwa,rfl⟩:=RI.shape h2
 have l1:=(RI.len h1).2.2
 have l2:=(RI.len h2).2.2
 have hi:=nk (s:=s) (q:=q)
 simp only [Spc.isW,Spc.isS] at hi
 refine Cl.o Tryz.func112 Tryz.ntmps112 ag2 ?_
 refine .ai ?_
 refine .bx hs fun b2 w hs=>?_
 refine .bx hs fun b3 w hs=>?_
 refine .z zg (.nil (.ai (.z (zfa di) (.y hs (zld ae) (.z (zfa bj) (.y hs (zld ak) (.z (c9 aa) (.z gW ?_))))))))
 refine .o (.call fI rfl (dw hs) ?_);rintro _ w ⟨rfl,hs⟩
 refine .z zg (.nil (.ai (.z (zfa eg) (.y hs (zld ae) (.z (zfa bA) (.y hs (zld ak) (.z (c9 aa) (.z gW ?_))))))))
 refine .o (.call fI rfl (dw hs) ?_);rintro _ w ⟨rfl,hs⟩
 refine .z zg (.nil (.seq (.ai (.z (zfa kA) (.y hs (zld ae) (.nil (.block (.ai (.z gC ?_)))))))))
 refine .z zg (.nil ?_)
 refine (.bM rfl (fun hc23=>?_) (fun hc23=>?_))
 ·refine .ai (.z (zfa eg) (.y hs (zld ae) (.z gC (.z zm ?_))))
  refine .iB (t':=28) rfl (fun hb28=>?_) (fun hb28=>?_)
  ·refine .gT rfl rfl ?_
   refine .z zm (.z zpT (.z zm ?_))
   refine .bif (t':=31) rfl (fun hb31=>?_) (fun hb31=>?_)
   ·refine .gT rfl rfl ?_
    refine .z (zfa di) ?_
    refine .gT rfl rfl ?_
    refine .y hs (zld ae) ?_
    refine .gT rfl rfl ?_
    refine .z kD (.z zpT (.z zg (.nil ?_)))
    refine .ret (rB (rT (Fin.bJ gN rfl ?_)))
    exact ⟨_,rfl,by rw [hi];simp_all<;>omega,hs.out⟩
   ·refine .gFs 3 6 true rfl rfl rfl ?_
    refine .z zpF (.z zg (.nil ?_))
    refine .ret (rB (rT (Fin.bJ gN rfl ?_)))
    exact ⟨_,rfl,by rw [hi];simp_all<;>omega,hs.out⟩
  ·refine .gFs 1 3 true rfl rfl rfl ?_
   refine .z zpF (.z zm ?_)
   refine .gFs 3 6 true rfl rfl rfl ?_
   refine .z zpF (.z zg (.nil ?_))
   refine .ret (rB (rT (Fin.bJ gN rfl ?_)))
   exact ⟨_,rfl,by rw [hi];simp_all<;>omega,hs.out⟩
 ·refine .ai (.z gC (.z zg (.nil ?_)))
  refine (.bM rfl (fun hc36=>?_) (fun hc36=>?_))
  ·refine .ai (.z (zfa eg) (.y hs (zld ae) (.z gC (.z zm ?_))))
   refine .iB (t':=41) rfl (fun hb41=>?_) (fun hb41=>?_)
   ·refine .gT rfl rfl ?_
    refine .z zm (.z zpT (.z zg (.nil ?_)))
    refine .ret (rB (rT (Fin.bJ gN rfl ?_)))
    exact ⟨_,rfl,by rw [hi];simp_all<;>omega,hs.out⟩
   ·refine .gFs 1 3 true rfl rfl rfl ?_
    refine .z zpF (.z zg (.nil ?_))
    refine .ret (rB (rT (Fin.bJ gN rfl ?_)))
    exact ⟨_,rfl,by rw [hi];simp_all<;>omega,hs.out⟩
  ·refine .ai (.z gC (.z zg (.nil ?_)))
   refine (.bM rfl (fun hc44=>?_) (fun hc44=>?_))
   ·refine .ai (.z zm (.z zm ?_))
    refine .bif (t':=47) rfl (fun hb47=>?_) (fun hb47=>?_)
    ·refine .gT rfl rfl ?_
     refine .z (zfa di) ?_
     refine .gT rfl rfl ?_
     refine .y hs (zld ae) ?_
     refine .gT rfl rfl ?_
     refine .z gC (.z zpT (.z zg (.nil ?_)))
     refine .ret (rB (rT (Fin.bJ gN rfl ?_)))
     exact ⟨_,rfl,by rw [hi];simp_all<;>omega,hs.out⟩
    ·refine .gFs 3 1 true rfl rfl rfl ?_
     refine .z zpF (.z zg (.nil ?_))
     refine .ret (rB (rT (Fin.bJ gN rfl ?_)))
     exact ⟨_,rfl,by rw [hi];simp_all<;>omega,hs.out⟩
   ·refine .ai (.z gC (.z zg (.nil ?_)))
    refine (.bM rfl (fun hc52=>?_) (fun hc52=>?_))
    ·refine .ai (.z zm (.z zm ?_))
     refine .bif (t':=55) rfl (fun hb55=>?_) (fun hb55=>?_)
     ·refine .gT rfl rfl ?_
      refine .z zm (.z zpT (.z zg (.nil ?_)))
      refine .ret (rB (rT (Fin.bJ gN rfl ?_)))
      exact ⟨_,rfl,by rw [hi];simp_all<;>omega,hs.out⟩
     ·refine .gFs 1 1 true rfl rfl rfl ?_
      refine .z zpF (.z zg (.nil ?_))
      refine .ret (rB (rT (Fin.bJ gN rfl ?_)))
      exact ⟨_,rfl,by rw [hi];simp_all<;>omega,hs.out⟩
    ·refine .skip ?_
     refine nB (nT ?_)
     refine .ai (.z zg (.nil ?_))
     refine .ret (Fin.bJ gN rfl ?_)
     exact ⟨_,rfl,by rw [hi];simp_all<;>omega,hs.out⟩
set_option maxHeartbeats 2000000 in
theorem rn{s:Spc}{q:Wht}{vst vwa:Value}(hs:St H w σ)(h1:RI H vst s.st)(h2:RI H vwa s.wa)(hok:fX s)(hq:fm s q):
  Cl Tryz.prog 113 [.agg #[I s.id,I s.src,vst,vwa,I s.al,I s.up],.agg #[I q.kind,I q.st,I q.wa]] w fun v w'=>∃H1 vl en,HLe H H1∧v= .tuple #[vl,I (ml q)]∧cn 1 vl (Is (lA s q)) en∧St H1 w' (en::σ):=by
 obtain ⟨ast,cst,rfl⟩:=RI.shape h1
 obtain ⟨awa,cwa,rfl⟩:=RI.shape h2
 have hsm:=fk hok
 have hcap:=(RI.len h2).2.1
 have hn1:=hok.st.many
 have hn2:=hok.wa.many
 have hlen:=fR s q
 have hqq:=nk.1 hq
 simp only [Spc.isW,Spc.isS] at hqq
 refine Cl.o Tryz.func113 Tryz.ntmps113 ag2 ?_
 refine .ai ?_
 refine .bx hs fun b2 w hs=>?_
 refine .bx hs fun b3 w hs=>?_
 refine .z zg (.z zg (.nil (.ai (.y hs (zls [_,_,_,_,_,_] aQ aI) ?_))))
 refine .o (.call Dl rfl (fa (s:=s) hs h1 h2 ⟨aj,aj⟩) ?_);rintro _ w ⟨rfl,hs⟩
 refine .z cq ?_
 refine .o (.oE (s.many+1) hs rfl rfl aa dC rfl af bI aj fun b20 w hs=>?_)
 have hW0:=WI.start s
 generalize List.replicate (s.many+1) (0:Int)=L0 at hs hW0
 refine .z zg (.nil (.seq (.ai (.z (zfa kA) (.y hs (zld ae) (.nil (.block (.ai (.z gC ?_)))))))))
 refine .z zg (.nil ?_)
 refine (.bM rfl (fun hc23=>?_) (fun hc23=>?_))
 ·refine .seq (.draw mix rfl hs fun w hs=>?_)
  refine .z 0 rfl (zfa bA) ?_;refine .y 1 rfl hs ak ?_;refine .z 2 rfl (zfa bj) ?_;refine .y 3 rfl hs ak ?_;refine .z 4 rfl (zfa di) ?_;refine .y 5 rfl hs ae ?_;refine .z 6 rfl cq ?_
  obtain ⟨hk1,_,⟨hw2,hw3⟩,hw1⟩:q.kind=1∧q.st=0∧(0≤q.wa∧q.wa≤(s.wa.length:Int) - 1)∧0<q.wa:=by omega
  obtain ⟨m,hm⟩:∃m:Nat,q.wa=m:=⟨q.wa.toNat,aj⟩
  have hmt:q.wa.toNat=m:=by omega
  have hP:eX 7 15000 (s.wa.take (m+1)):=hok.wa.take aj aj
  have hdv:ml q=648000000:=by unfold ml;rw [if_pos hk1]
  refine .z 7 rfl (lY (k:=m+1) rfl rfl aa af aj aj) ?_
  refine .E 8 hs ?_
  refine .call Tryz.call195 rfl (tx hs h1 (h2.head (k:=m+1) aj) hok.st hP) ?_;rintro _ w ⟨H1,vo,hle1,rfl,hG,hs⟩
  have hgl:=jV (wts s.st) (wts (s.wa.take (m+1))) s.st.length
  have hyl:(wts (s.wa.take (m+1))).length=m+1:=by rw [eJ,List.length_take];omega
  have hgr:∀i<s.st.length,(gr (me (wts s.st) (wts (s.wa.take (m+1))) s.st.length) i).length=m+1:=fun i hi=>by rw [wk hi,jE,hyl]
  have hgt:∀i<s.st.length,∀k≤m,gi (gr (me (wts s.st) (wts (s.wa.take (m+1))) s.st.length) i) k=kb s q i k:=fun i hi k hk=>by
   have:=zp (X:=wts s.st) (Y:=wts (s.wa.take (m+1))) (n:=s.st.length) (k:=k) hi aj
   unfold gt at this
   rw [this];unfold kb;rw [if_pos hk1,if_pos aj,hmt]
  have hgz:∀i k,m<k→kb s q i k=0:=fun i k hk=>by unfold kb;rw [if_pos hk1,if_neg aj]
  generalize me (wts s.st) (wts (s.wa.take (m+1))) s.st.length=G at*
  obtain ⟨aG,cG,rfl⟩:=hG.shape
  refine .go ?_
  refine .z 9 rfl zm ?_;refine .z 10 rfl zex ?_;refine .z 11 rfl zex ?_;refine .z 12 rfl zg ?_;refine .z 13 rfl zg ?_;refine .D hs ?_
  refine .seq (.ai (.z zg (.nil (.block ?_))))
  refine .loop (fun i:Nat=>⟨127,[],[(9,I (i:Int)),(7,.slice aG G.length cG),(6,.slice (some ⟨b20,0,none⟩) (s.many+1) (s.many+1)),(3,.pointer (some ⟨b3,0,none⟩)),(2,.pointer (some ⟨b2,0,none⟩))]⟩)
   (fun i w=>i≤s.st.length∧∃L,WI s L (fun i' k'=>if i'<i then kb s q i' k' else 0)∧St H1 w (.blk b20 (Is L):: .blk b3 [I q.kind,I q.st,I q.wa]:: .blk b2 [I s.id,I s.src,.slice ast s.st.length cst,.slice awa s.wa.length cwa,I s.al,I s.up]::σ)) (fun i=>s.st.length - i) 0 (.cj rfl bV aR)
   ⟨Nat.zero_le _,L0,hW0.congr fun i k _ _=>by rw [if_neg aj],hs⟩ ?_
  clear hs hW0
  rintro i w ⟨hi,L,hW,hs⟩
  refine .seq (.ai (.z zm (.z zm (.z (c9 aq) (.z gx (.nil ?_))))))
  refine (.bM rfl (fun hc40=>?_) (fun hc40=>?_))
  ·refine .skip ?_
   refine nT ?_
   refine .seq (.block (.ai (.z zg (.nil (.block ?_)))))
   refine .loop (fun k:Nat=>⟨127,[],[(10,I (k:Int)),(9,I (i:Int)),(7,.slice aG G.length cG),(6,.slice (some ⟨b20,0,none⟩) (s.many+1) (s.many+1)),(3,.pointer (some ⟨b3,0,none⟩)),(2,.pointer (some ⟨b2,0,none⟩))]⟩)
    (fun k w=>k≤m+1∧∃L,WI s L (fun i' k'=>if i'<i∨(i'=i∧k'<k) then kb s q i' k' else 0)∧St H1 w (.blk b20 (Is L):: .blk b3 [I q.kind,I q.st,I q.wa]:: .blk b2 [I s.id,I s.src,.slice ast s.st.length cst,.slice awa s.wa.length cwa,I s.al,I s.up]::σ)) (fun k=>m+1 - k) 0 (.cj rfl bV aR)
    ⟨Nat.zero_le _,L,hW.congr fun i' k' _ _=>by
     by_cases e:i'<i
     ·rw [if_pos e,if_pos (.inl e)]
     ·rw [if_neg e,if_neg aj],hs⟩ ?_
   clear hs hW
   rintro k w ⟨hk,L,hW,hs⟩
   have hWl:=hW.len
   have hil:i<s.st.length:=by omega
   have hgri:=hgr i hil
   refine .seq (.ai (.z zm (.z zm (.z zm ?_))))
   refine .ixT hs hG rfl rfl aq aC (show i<_ by omega) dy ?_;intro b46 o46 a46 c46 hc46 hR46
   refine .q hs (aK rfl ak hc46) ?_
   refine .z (c9 aa) ?_
   rw [hgri]
   refine .z gx (.nil ?_)
   refine (.bM rfl (fun hc49=>?_) (fun hc49=>?_))
   ·refine .skip ?_
    refine nT ?_
    refine .seq (.block ?_)
    refine .draw mix rfl hs fun w hs=>?_
    have hk':k<m+1:=by omega
    have hub:=x9 (s:=s) (i:=i) (k:=k) hil aj
    refine .z 0 rfl zm ?_;refine .ys 1 rfl hs [_,_,_,_,_,_] aQ aI ?_;refine .z 2 rfl zm ?_;refine .z 3 rfl zm ?_;refine .z 5 rfl zm ?_;refine .z 6 rfl zm ?_
    refine .ixT (i:=7) hs rfl an .none hG rfl rfl aq aC (show i<_ by omega) dy ?_;intro b59 o59 a59 c59 hc59 hR59
    refine .r (i:=8) hs rfl an .none (aK rfl ak hc59) ?_
    refine .z 9 rfl zm ?_
    refine .ixX (enc:=fun x=>[I x]) (i:=10) hs rfl an .none hR59 rfl rfl aa af (bL (l:=(gr G i)) (i:=k) aj) dy ?_;intro b62 o62 hc62;replace hc62:=bB.one hc62
    refine .r (i:=11) hs rfl an .none (aK rfl ae hc62) ?_
    refine .E 4 hs ?_
    refine .call iS rfl (dm (s:=s) hs (h2.mono hle1) aj ⟨aj,aj⟩ ⟨aj,aj⟩) ?_;rintro _ w ⟨rfl,hs⟩
    rw [vK]
    refine .go ?_
    refine .z 12 rfl (dG (k:=s.u i k) rfl rfl aa af rfl aj) ?_
    refine .E 13 hs ?_
    refine .store hs rfl rfl af ?_ cZ (by simp [Is];omega);intro w hs
    refine .go ?_
    refine .D hs ?_
    refine nB (nT ?_)
    refine .region (.z zm (.z cq (.z zg (.nil ?_))))
    refine nT ?_
    exact ⟨k+1,.cj rfl bV aR,⟨aj,_,(hW.set hil aj _).congr fun i' k' _ _=>by
     rw [hgt i hil k aj]
     by_cases e:i'=i∧k'=k
     ·obtain ⟨rfl,rfl⟩:=e
      rw [if_pos ⟨rfl,rfl⟩,if_pos (.inr ⟨rfl,aj⟩)]
     ·rw [if_neg e]
      by_cases e2:i'<i∨(i'=i∧k'<k)
      ·rw [if_pos e2,if_pos aj]
      ·rw [if_neg e2,if_neg aj],hs⟩,aj⟩
   ·refine .exit ?_
    refine xT (xT (xB (nB (nT ?_))))
    refine .region (.z zm (.z cq (.z zg (.nil ?_))))
    refine nT ?_
    exact ⟨i+1,.cj rfl bV aR,⟨aj,L,hW.congr fun i' k' _ _=>by
     by_cases e:i'<i+1
     ·rw [if_pos e]
      by_cases e2:i'<i∨(i'=i∧k'<k)
      ·rw [if_pos e2]
      ·rw [if_neg e2,hgz i' k' aj]
     ·rw [if_neg e,if_neg aj],hs⟩,aj⟩
  ·refine .exit ?_
   refine xT (xT (xB (nT ?_)))
   refine .ai (.z zm (.z zg (.z zg (.nil ?_))))
   refine .ret (rB (rT (Fin.nh Tryz.results113 rfl rfl ?_)))
   obtain rfl:=(hW.congr (g:=kb s q) fun i' k' hi' _=>by rw [if_pos aj]).fin
   rw [←hdv]
   exact ⟨H1,_,_,hle1,rfl,.full (by simp [Is,hlen]),hs.sb⟩
 ·refine .ai (.z gC (.z zg (.nil ?_)))
  refine (.bM rfl (fun hc66=>?_) (fun hc66=>?_))
  ·refine .ai (.z (zfa bA) (.y hs (zld ak) ?_))
   have hk1:q.kind=2:=by omega
   obtain ⟨m,hm⟩:∃m:Nat,q.wa=m:=⟨q.wa.toNat,aj⟩
   have hdv:ml q=180000:=by unfold ml;rw [if_neg aj,if_pos aj]
   have hl:=eJ s.st
   have hwt:∀i k,kb s q i k=if k=m then gi (wts s.st) i else 0:=fun i k=>by
    unfold kb;rw [if_neg aj,if_pos hk1]
    by_cases e:k=m
    ·rw [if_pos e,if_pos aj]
    ·rw [if_neg e,if_neg aj]
   refine .o (.call Tryz.call196 rfl (k8 hs h1 hok.st) ?_);rintro _ w ⟨H1,vo,hle1,rfl,hX,hs⟩
   obtain ⟨aX,cX,rfl⟩:=RI.shape hX
   rw [hl]
   refine .z zm (.z zex (.z zex (.z zg (.z zg (.nil (.seq (.ai (.z zg (.nil ?_)))))))))
   refine .block ?_
   refine .loop (fun i:Nat=>⟨127,[],[(13,I (i:Int)),(11,.slice aX s.st.length cX),(6,.slice (some ⟨b20,0,none⟩) (s.many+1) (s.many+1)),(3,.pointer (some ⟨b3,0,none⟩)),(2,.pointer (some ⟨b2,0,none⟩))]⟩)
    (fun i w=>i≤s.st.length∧∃L,WI s L (fun i' k'=>if i'<i then kb s q i' k' else 0)∧St H1 w (.blk b20 (Is L):: .blk b3 [I q.kind,I q.st,I q.wa]:: .blk b2 [I s.id,I s.src,.slice ast s.st.length cst,.slice awa s.wa.length cwa,I s.al,I s.up]::σ)) (fun i=>s.st.length - i) 0 (.cj rfl bV aR)
    ⟨Nat.zero_le _,L0,hW0.congr fun i k _ _=>by rw [if_neg aj],hs⟩ ?_
   clear hs hW0
   rintro i w ⟨hi,L,hW,hs⟩
   have hWl:=hW.len
   rw [hl] at hX
   refine .seq (.ai (.z zm (.z zm (.z (c9 aa) (.z gx (.nil ?_))))))
   refine (.bM rfl (fun hc77=>?_) (fun hc77=>?_))
   ·refine .skip ?_
    refine nT ?_
    refine .seq (.block ?_)
    refine .draw mix rfl hs fun w hs=>?_
    refine .z 0 rfl zm ?_;refine .ys 1 rfl hs [_,_,_,_,_,_] aQ aI ?_;refine .z 2 rfl zm ?_;refine .z 3 rfl (zfa di) ?_;refine .y 4 rfl hs ae ?_;refine .z 6 rfl zm ?_;refine .z 7 rfl zm ?_
    refine .ixX (enc:=fun x=>[I x]) (i:=8) hs rfl an .none (by rw [hl] at*;exact hX) rfl rfl aa af (bL (l:=wts s.st) (i:=i) aj) dy ?_;intro b88 o88 hc88;replace hc88:=bB.one hc88
    refine .y 9 rfl hs ae ?_
    refine .E 5 hs ?_
    have hil:i<s.st.length:=by omega
    have hub:=x9 (s:=s) (i:=i) (k:=m) hil aj
    refine .call iS rfl (dm (s:=s) hs (h2.mono hle1) aj ⟨aj,aj⟩ ⟨aj,aj⟩) ?_;rintro _ w ⟨rfl,hs⟩
    rw [show 1+(i:Int)*(s.wa.length:Int)+q.wa=(s.u i m:Int) by rw [hm,vK]]
    refine .go ?_
    refine .z 10 rfl (dG (k:=s.u i m) rfl rfl aa af rfl aj) ?_
    refine .E 11 hs ?_
    refine .store hs rfl rfl af ?_ cZ (by simp [Is];omega);intro w hs
    refine .go ?_
    refine .D hs ?_
    refine nB (nT ?_)
    refine .region (.z zm (.z cq (.z zg (.nil ?_))))
    refine nT ?_
    exact ⟨i+1,.cj rfl bV aR,⟨aj,_,(hW.set hil (show m<s.wa.length by omega) _).congr fun i' k' _ _=>by
     rw [hwt i' k']
     by_cases e:i'=i∧k'=m
     ·obtain ⟨rfl,rfl⟩:=e
      rw [if_pos ⟨rfl,rfl⟩,if_pos (Nat.lt_succ_self _),if_pos rfl]
     ·rw [if_neg e]
      by_cases e2:i'<i
      ·rw [if_pos e2,if_pos (show i'<i+1 by omega)]
      ·rw [if_neg e2]
       by_cases e3:i'<i+1
       ·rw [if_pos e3,if_neg (show ¬k'=m by omega)]
       ·rw [if_neg e3],hs⟩,aj⟩
   ·refine .exit ?_
    refine xT (xT (xB (nT ?_)))
    refine .ai (.z zm (.z zg (.z zg (.nil ?_))))
    refine .ret (rB (rT (Fin.nh Tryz.results113 rfl rfl ?_)))
    obtain rfl:=(hW.congr (g:=kb s q) fun i' k' hi' _=>by rw [if_pos aj]).fin
    rw [←hdv]
    exact ⟨H1,_,_,hle1,rfl,.full (by simp [Is,hlen]),hs.sb⟩
  ·refine .ai (.z gC (.z zg (.nil ?_)))
   refine (.bM rfl (fun hc92=>?_) (fun hc92=>?_))
   ·refine .ai (.z (zfa bj) (.y hs (zld ak) ?_))
    have hk1:q.kind=3:=by omega
    obtain ⟨m,hm⟩:∃m:Nat,q.st=m:=⟨q.st.toNat,aj⟩
    have hdv:ml q=180000:=by unfold ml;rw [if_neg aj,if_pos aj]
    have hl:=eJ s.wa
    have hwt:∀i k,kb s q i k=if i=m then gi (wts s.wa) k else 0:=fun i k=>by
     unfold kb;rw [if_neg aj,if_neg aj,if_pos hk1]
     by_cases e:i=m
     ·rw [if_pos e,if_pos aj]
     ·rw [if_neg e,if_neg aj]
    refine .o (.call Tryz.call196 rfl (k8 hs h2 (yg hok)) ?_);rintro _ w ⟨H1,vo,hle1,rfl,hX,hs⟩
    obtain ⟨aX,cX,rfl⟩:=RI.shape hX
    rw [hl]
    refine .z zm (.z zex (.z zex (.z zg (.z zg (.nil (.seq (.ai (.z zg (.nil ?_)))))))))
    refine .block ?_
    refine .loop (fun k:Nat=>⟨127,[],[(16,I (k:Int)),(14,.slice aX s.wa.length cX),(6,.slice (some ⟨b20,0,none⟩) (s.many+1) (s.many+1)),(3,.pointer (some ⟨b3,0,none⟩)),(2,.pointer (some ⟨b2,0,none⟩))]⟩)
     (fun k w=>k≤s.wa.length∧∃L,WI s L (fun i' k'=>if k'<k then kb s q i' k' else 0)∧St H1 w (.blk b20 (Is L):: .blk b3 [I q.kind,I q.st,I q.wa]:: .blk b2 [I s.id,I s.src,.slice ast s.st.length cst,.slice awa s.wa.length cwa,I s.al,I s.up]::σ)) (fun k=>s.wa.length - k) 0 (.cj rfl bV aR)
     ⟨Nat.zero_le _,L0,hW0.congr fun i k _ _=>by rw [if_neg aj],hs⟩ ?_
    clear hs hW0
    rintro k w ⟨hi,L,hW,hs⟩
    have hWl:=hW.len
    rw [hl] at hX
    refine .seq (.ai (.z zm (.z zm (.z (c9 aa) (.z gx (.nil ?_))))))
    refine (.bM rfl (fun hc103=>?_) (fun hc103=>?_))
    ·refine .skip ?_
     refine nT ?_
     refine .seq (.block ?_)
     refine .draw mix rfl hs fun w hs=>?_
     refine .z 0 rfl zm ?_;refine .ys 1 rfl hs [_,_,_,_,_,_] aQ aI ?_;refine .z 2 rfl (zfa eg) ?_;refine .y 3 rfl hs ae ?_;refine .z 4 rfl zm ?_;refine .z 6 rfl zm ?_;refine .z 7 rfl zm ?_
     refine .ixX (enc:=fun x=>[I x]) (i:=8) hs rfl an .none (by rw [hl] at*;exact hX) rfl rfl aa af (bL (l:=wts s.wa) (i:=k) aj) dy ?_;intro b114 o114 hc114;replace hc114:=bB.one hc114
     refine .y 9 rfl hs ae ?_
     refine .E 5 hs ?_
     have hil:k<s.wa.length:=by omega
     have hub:=x9 (s:=s) (i:=m) (k:=k) aj hil
     refine .call iS rfl (dm (s:=s) hs (h2.mono hle1) aj ⟨aj,aj⟩ ⟨aj,aj⟩) ?_;rintro _ w ⟨rfl,hs⟩
     rw [show 1+q.st*(s.wa.length:Int)+(k:Int)=(s.u m k:Int) by rw [hm,vK]]
     refine .go ?_
     refine .z 10 rfl (dG (k:=s.u m k) rfl rfl aa af rfl aj) ?_
     refine .E 11 hs ?_
     refine .store hs rfl rfl af ?_ cZ (by simp [Is];omega);intro w hs
     refine .go ?_
     refine .D hs ?_
     refine nB (nT ?_)
     refine .region (.z zm (.z cq (.z zg (.nil ?_))))
     refine nT ?_
     exact ⟨k+1,.cj rfl bV aR,⟨aj,_,(hW.set (show m<s.st.length by omega) hil _).congr fun i' k' _ _=>by
      rw [hwt i' k']
      by_cases e:i'=m∧k'=k
      ·obtain ⟨rfl,rfl⟩:=e
       rw [if_pos ⟨rfl,rfl⟩,if_pos (Nat.lt_succ_self _),if_pos rfl]
      ·rw [if_neg e]
       by_cases e2:k'<k
       ·rw [if_pos e2,if_pos (show k'<k+1 by omega)]
       ·rw [if_neg e2]
        by_cases e3:k'<k+1
        ·rw [if_pos e3,if_neg (show ¬i'=m by omega)]
        ·rw [if_neg e3],hs⟩,aj⟩
    ·refine .exit ?_
     refine xT (xT (xB (nT ?_)))
     refine .ai (.z zm (.z zg (.z zg (.nil ?_))))
     refine .ret (rB (rT (Fin.nh Tryz.results113 rfl rfl ?_)))
     obtain rfl:=(hW.congr (g:=kb s q) fun i' k' _ hk'=>by rw [if_pos aj]).fin
     rw [←hdv]
     exact ⟨H1,_,_,hle1,rfl,.full (by simp [Is,hlen]),hs.sb⟩
   ·refine .skip ?_
    refine nB (nT ?_)
    refine .ai (.z zm (.y hs (zls [_,_,_,_,_,_] aQ aI) (.z (zfa eg) (.y hs (zld ae) (.z (zfa di) (.y hs (zld ae) ?_))))))
    have hk1:q.kind=4:=by omega
    obtain ⟨m,hm⟩:∃m:Nat,q.st=m:=⟨q.st.toNat,aj⟩
    obtain ⟨c,hc⟩:∃c:Nat,q.wa=c:=⟨q.wa.toNat,aj⟩
    have hdv:ml q=1:=by unfold ml;rw [if_neg aj,if_neg aj]
    have hub:=x9 (s:=s) (i:=m) (k:=c) aj aj
    have hWl:=hW0.len
    refine .o (.call iS rfl (dm (s:=s) hs h2 aj ⟨aj,aj⟩ ⟨aj,aj⟩) ?_);rintro _ w ⟨rfl,hs⟩
    rw [hm,hc,vK]
    refine .q hs (dG (k:=s.u m c) rfl rfl aa af rfl aj) ?_
    refine .o (.store hs rfl rfl af ?_ cZ (by simp [Is];omega));intro w hs
    refine .nil (.ai (.z zm (.z zg (.z zg (.nil ?_)))))
    refine .ret (Fin.nh Tryz.results113 rfl rfl ?_)
    have hfin:=((hW0.set (show m<s.st.length by omega) (show c<s.wa.length by omega) 1).congr (g:=kb s q) fun i' k' _ _=>by
     unfold kb
     rw [if_neg (show ¬q.kind=1 by omega),if_neg (show ¬q.kind=2 by omega),if_neg (show ¬q.kind=3 by omega)]
     by_cases e:i'=m∧k'=c
     ·rw [if_pos e,if_pos aj]
     ·rw [if_neg e,if_neg aj]).fin
    rw [hfin] at hs
    rw [←hdv]
    exact ⟨H,_,_,HLe.refl H,rfl,.full (by simp [Is,hlen]),hs.sb⟩
theorem gY{a d:Int}(hs:St H w σ)(hd:1≤d)(ha: -4608000000000000000≤a∧a≤4608000000000000000):
  Cl Tryz.prog 78 [I a,I d] w fun v w'=>v=I (a/d)∧St H w' σ:=by
 have hq: -4608000000000000000≤a.tdiv d∧a.tdiv d≤4608000000000000000:=by
  have h1:=sR (n:=a) (d:=d) aj
  have h2:a/d≤4608000000000000000:=Int.ediv_le_of_le_mul aj (by
   have:=Int.mul_le_mul_of_nonneg_left hd (show (0:Int)≤4608000000000000000 by omega);omega)
  have h3: -4608000000000000000≤a/d:=Int.le_ediv_of_mul_le aj (by
   have:=Int.mul_le_mul_of_nonneg_left hd (show (0:Int)≤4608000000000000000 by omega);omega)
  by_cases h0:0≤a
  ·rw [Int.tdiv_eq_ediv_of_nonneg h0];omega
  ·split at h1
   ·have:a/d<0:=Int.ediv_neg_of_neg_of_pos aj aj
    omega
   ·omega
 have hfl:=sR (n:=a) (d:=d) aj
 refine Cl.o Tryz.func78 Tryz.ntmps78 ag2 ?_
 refine .ai (.z zg (.nil (.ai (.z zm (.z zm ?_)))))
 refine .q hs (uY rfl rfl aj ⟨aj,aj⟩) ?_
 refine .z zg (.nil (.seq (.ai (.z zm (.z zm (.z B6 (.z gx (.nil ?_))))))))
 refine (.bM rfl (fun hc12=>?_) (fun hc12=>?_))
 ·refine .region (.z zm (.z gW (.z zg (.nil ?_))))
  refine nT ?_
  refine .ai (.z zm (.z zg (.nil ?_)))
  refine .ret (Fin.bJ Tryz.results78 rfl ?_)
  rw [if_pos hc12] at hfl
  exact ⟨by rw [hfl],hs⟩
 ·refine .skip ?_
  refine nT ?_
  refine .ai (.z zm (.z zg (.nil ?_)))
  refine .ret (Fin.bJ Tryz.results78 rfl ?_)
  rw [if_neg hc12,Int.sub_zero] at hfl
  exact ⟨by rw [hfl],hs⟩
inductive xR(v:Srv)(q:Wht):Int→Prop
 |bad {e:Int} (h:vv v e) (he:e≠0):xR v q e
 |what (h:eS v) (h1:¬fm v.sp q):xR v q 33
 |ok (h:eS v) (h1:fm v.sp q):xR v q 0
theorem xR.zero{v:Srv}{q:Wht}(h:xR v q 0):eS v∧fm v.sp q:=by
 generalize hz:(0:Int)=z at h
 cases h with
 |bad h he=>exact (he hz.symm).elim
 |what=>omega
 |ok h h1=>exact ⟨h,h1⟩
theorem xR.qty{v:Srv}{q:Wht}{e:Int}(h:xR v q e)(he:e≠0):xW v q 0 0 e:=by
 cases h with
 |bad h he=>exact .bad h he
 |what h h1=>exact .what h h1
 |ok=>exact (he rfl).elim
theorem vP{v:Srv}(h:eS v){q:Wht}(hq:fm v.sp q)(i:Nat): -3456000000000≤gi (v.w q) i∧gi (v.w q) i≤3456000000000:=by
 unfold Srv.w
 rw [nH]
 by_cases hi:i<v.sp.many+1
 ·have h1:=od h.early.1 hq
  have h2:=iJ (lA v.sp q) hi
  omega
 ·have:gi (lA v.sp q) i=0:=by simp [gi,List.getD,List.getElem?_eq_none (show (lA v.sp q).length≤i by rw [fR];omega)]
  rw [this];omega
def sU(w:List Int)(high:Bool):List Int:=if high then w else qs w
set_option maxHeartbeats 2000000 in
theorem mJ{s:Srv}{q:Wht}{vst vwa vr vc:Value}{high:Bool}(hs:St H w σ)(h1:RI H vst s.sp.st)(h2:RI H vwa s.sp.wa)(h3:RRd H vr s.rs)(h4:RCm H vc s.cs):
  Cl Tryz.prog 87 [.agg #[I s.sp.id,I s.sp.src,vst,vwa,I s.sp.al,I s.sp.up,vr,vc],.agg #[I q.kind,I q.st,I q.wa],.bool high] w fun u w'=>∃H1 m ul vw d e,HLe H H1∧u= .tuple #[.agg #[I m,ul],vw,I d,I e]∧(∃a l c,ul= .slice a l c)∧(∃a l c,vw= .slice a l c)∧xR s q e∧(e=0→m=s.sys.many∧RL H1 ul s.cO∧RI H1 vw (sU (s.w q) high)∧d=ml q)∧St H1 w' σ:=by
 have hn:=tj s
 refine Cl.o Tryz.func87 Tryz.ntmps87 ag3 ?_
 refine .ai ?_
 refine .bx hs fun b3 w hs=>?_
 refine .bx hs fun b4 w hs=>?_
 refine .o (.alloc hs dj rfl fun b6 w hs=>?_)
 refine .z zg (.z zg (.z zg (.nil (.ai (.y hs (zls [_,_,_,_,_,_,_,_] aO aF) ?_)))))
 refine .o (.call Tryz.call43 rfl (sr (s:=s) hs h1 h2 h3 h4) ?_);rintro _ w ⟨H1,e,hle1,rfl,hC,hs⟩
 refine .z zg (.nil (.seq (.ai (.z zm (.z ij (.nil ?_))))))
 refine (.eQ rfl (fun hc18=>?_) (fun hc18=>?_))
 ·refine .ai (.z (zbd [_,_] iG) (.z zm ?_))
  refine .o (.aU (vs:=[_,_]) hs rfl rfl aE fun w hs=>?_)
  refine .z zg (.z zg (.z zg (.nil ?_)))
  refine .ret (rT (?_))
  exact Fin.iK [] [] hs fun w hs=>⟨_,results4 Tryz.results87 (dJ (vs:=[_,_]) hs rfl aT aE) rfl rfl rfl,H1,_,_,_,_,e,hle1,rfl,⟨_,_,_,rfl⟩,⟨_,_,_,rfl⟩,.bad hC hc18,fun h=>(hc18 h).elim,hs.out⟩
 ·refine .skip ?_
  refine nT ?_
  refine .seq (.ai (.z (zfa aS) (.y hs (zls [_,_,_,_,_,_] aQ aI) (.y hs (zls [_,_,_] bX bh) ?_))))
  have hok:eS s:=hC.dt.1 (by simpa using hc18)
  have hm:=hok.many
  have hsm:s.sys.many+1=(s.sys.n:Int):=by rw [hn];show ((s.sp.many+s.bP.length:Nat):Int)+1=_;omega
  refine .o (.call Tryz.call112 rfl (rp (s:=s.sp) (q:=q) hs (h1.mono hle1) (h2.mono hle1)) ?_);rintro _ w ⟨b24,rfl,hb24,hs⟩
  refine .z ir (.nil ?_)
  refine (.cond rfl (fun hc25=>?_) (fun hc25=>?_))
  ·refine .ai (.z (zbd [_,_] iG) ?_)
   refine .o (.aU (vs:=[_,_]) hs rfl rfl aE fun w hs=>?_)
   refine .z zg (.z zg (.z zg (.nil ?_)))
   refine .ret (rT (?_))
   exact Fin.iK [] [] hs fun w hs=>⟨_,results4 Tryz.results87 (dJ (vs:=[_,_]) hs rfl aT aE) rfl rfl rfl,H1,_,_,_,_,_,hle1,rfl,⟨_,_,_,rfl⟩,⟨_,_,_,rfl⟩,.what hok (fun h=>by rw [hb24.2 h] at hc25;cases hc25),fun h=>by omega,hs.out⟩
  ·refine .skip ?_
   refine nT ?_
   refine .ai (.y hs (zls [_,_,_,_,_,_,_,_] aO aF) ?_)
   have hq:fm s.sp q:=hb24.1 (by simpa using hc25)
   have hwb:=vP hok hq
   have hwl:=ns s q
   refine .o (.call Tryz.call95 rfl (lV (s:=s) hs (h1.mono hle1) (h2.mono hle1) (h3.mono hle1) (h4.mono hle1) hok.early) ?_);rintro _ w ⟨H2,hle2,⟨ul,rfl,hL⟩,hs⟩
   obtain ⟨al,cl,rfl⟩:=RL.shape hL
   have hle02:=hle1.trans hle2
   refine .o (.alloc hs dj rfl fun b11 w hs=>?_)
   refine .o (.aU (vs:=[_,_]) hs rfl rfl aE fun w hs=>?_)
   refine .nil (.ai (.z (zfa aS) (.y hs (zls [_,_,_,_,_,_] aQ aI) (.y hs (zls [_,_,_] bX bh) ?_))))
   refine .o (.call Tryz.call113 rfl (rn (s:=s.sp) (q:=q) hs (h1.mono hle02) (h2.mono hle02) hok.early.1 hq) ?_);rintro _ w ⟨H3,vl,en,hle3,rfl,hO,hs⟩
   have hle03:=hle02.trans hle3
   have hL0:=fR s.sp q
   refine .z zm (.z zex (.z zex (.z zg (.z zg (.nil (.seq (.block ?_)))))))
   refine .loop (fun p:Nat×Value=>⟨64,[],[(12,p.2),(13,I (ml q)),(11,.pointer (some ⟨b11,0,none⟩)),(6,.pointer (some ⟨b6,0,none⟩)),(2,.bool high)]⟩)
    (fun p w=>(lA s.sp q).length+p.1≤s.sys.n∧∃en,cn 1 p.2 (Is (lA s.sp q++List.replicate p.1 0)) en∧St H3 w (en:: .blk b11 [I s.sys.many,.slice al s.cO.length cl]:: .blk b6 [I 0,.slice none 0 0]::σ)) (fun p=>s.sys.n - ((lA s.sp q).length+p.1)) (0,vl) aR
    ⟨by dsimp only;omega,en,by simpa using hO,hs.sb⟩ ?_
   clear hO hs
   rintro ⟨j,vo⟩ w ⟨hj,en,hO,hs⟩
   dsimp only at hj hO ⊢
   obtain ⟨bo,cap,sp,hv,rfl,hcap⟩:=hO.blk (by simp;omega)
   cases hv
   have hWxl:(lA s.sp q++List.replicate j 0).length=(lA s.sp q).length+j:=by simp
   generalize hWx:lA s.sp q++List.replicate j 0=Wx at*
   refine .seq (.ai (.z zm (.z (c9 aa) (.z (zfa bH) (.y hs (zld ae) (.z cq (.z gx (.nil ?_))))))))
   refine (.bM rfl (fun hc41=>?_) (fun hc41=>?_))
   ·refine .skip ?_
    refine nT ?_
    refine .block (.region (.z zm ?_))
    refine .o (.buildSlice (cells:=[_]) hs dv rfl rfl fun b43 w hs=>?_)
    refine .o (.append (ys:=Is [0]) hs cV rfl rfl hO (.own .here rfl rfl) (jK _) (fun l' h=>by simp [Is] at h;omega) ?_);intro v44 en44 w hO2 hs
    rw [←hWx,show Is (lA s.sp q++List.replicate j 0)++Is [0]=Is (lA s.sp q++List.replicate (j+1) 0) by rw [←zL];simp [Is]] at hO2
    refine .z zg (.nil ?_)
    refine nB (nT ?_)
    exact ⟨(j+1,v44),aR,⟨by dsimp only;omega,_,hO2,hs.sb⟩,by dsimp only;omega⟩
   ·refine .exit ?_
    refine xT (xT (xB (nT ?_)))
    refine .cut (fun fs w=>∃W',W'=sU Wx high∧j9 fs ⟨64,[],[(12,.slice (some ⟨bo,0,none⟩) Wx.length cap),(13,I (ml q)),(11,.pointer (some ⟨b11,0,none⟩)),(6,.pointer (some ⟨b6,0,none⟩))]⟩∧St H3 w (.blk bo (Is W'++sp):: .blk b11 [I s.sys.many,.slice al s.cO.length cl]:: .blk b6 [I 0,.slice none 0 0]::σ)) ?_ ?_
    ·refine .ai (.z zm (.z ir (.nil ?_)))
     refine (.cond rfl (fun hc46=>?_) (fun hc46=>?_))
     ·refine .ai (.z zg (.nil (.block ?_)))
      have hWeq:Wx=s.w q:=by rw [←hWx];unfold Srv.w;rw [show j=s.bP.length by omega]
      subst hWeq
      refine .loop (fun k:Nat=>⟨64,[],[(14,I (k:Int)),(12,.slice (some ⟨bo,0,none⟩) (s.w q).length cap),(13,I (ml q)),(11,.pointer (some ⟨b11,0,none⟩)),(6,.pointer (some ⟨b6,0,none⟩))]⟩)
       (fun k w=>k≤s.sys.n∧∃L,L.length=s.sys.n∧(∀v<s.sys.n,gi L v=if v<k then -gi (s.w q) v else gi (s.w q) v)∧St H3 w (.blk bo (Is L++sp):: .blk b11 [I s.sys.many,.slice al s.cO.length cl]:: .blk b6 [I 0,.slice none 0 0]::σ)) (fun k=>s.sys.n - k) 0 (.cj rfl bV aR)
       ⟨Nat.zero_le _,s.w q,hwl,fun v _=>by rw [if_neg aj],hs⟩ ?_
      clear hs
      rintro k w ⟨hk,L,hLl,hLg,hs⟩
      refine .seq (.ai (.z zm (.z zm (.z (c9 aa) (.z gx (.nil ?_))))))
      refine (.bM rfl (fun hc50=>?_) (fun hc50=>?_))
      ·refine .skip ?_
       refine nT ?_
       refine .seq (.block (.region (.z zm (.z zm (.z zm (.z zm ?_))))))
       have hkn:k<s.sys.n:=by omega
       have hgk:=hLg k hkn
       rw [if_neg aj] at hgk
       have hbk:=hwb k
       refine .q hs (dG (k:=k) rfl rfl aa af rfl aj) ?_
       refine .q hs (dS rfl ae (hv:=fQ aj sp)) ?_
       refine .z uN ?_
       refine .q hs (dG (k:=k) rfl rfl aa af rfl aj) ?_
       refine .o (.store (c':=Is (L.set k (-gi L k))++sp) hs rfl rfl af ?_ cZ (by simp [Is];omega) (iH aj sp _));intro w hs
       refine .nil ?_
       refine nB (nT ?_)
       refine .region (.z zm (.z cq (.z zg (.nil ?_))))
       refine nT ?_
       exact ⟨k+1,.cj rfl bV aR,⟨aj,_,by rw [List.length_set];exact hLl,fun v hv=>by
        rw [eu aj]
        by_cases e:v=k
        ·subst e;rw [if_pos rfl,if_pos aj,hgk]
        ·rw [if_neg e,hLg v hv]
         by_cases e2:v<k
         ·rw [if_pos e2,if_pos aj]
         ·rw [if_neg e2,if_neg aj],hs⟩,aj⟩
      ·refine .exit ?_
       refine xT (xT (xB (nT ?_)))
       have hf:high=false:=by simpa using hc46
       refine ⟨L,?_,aR,hs⟩
       unfold sU;rw [hf]
       refine xC (by rw [hLl];simp [qs,hwl]) fun v hv=>?_
       rw [hLg v aj,if_pos aj]
       show _=gi ((s.w q).map fun x=> -x) v
       simp [gi,List.getD,List.getElem?_map]
       cases (s.w q)[v]? <;>simp
     ·refine .skip ?_
      refine nT ?_
      have hf:high=true:=by simpa using hc46
      exact ⟨Wx,by unfold sU;rw [hf];rfl,aR,hs⟩
    ·clear hO hs
     rintro fs w ⟨W',hW',hfs,hs⟩
     refine WE.sub ?_ hfs
     have hWeq:Wx=s.w q:=by rw [←hWx];unfold Srv.w;rw [show j=s.bP.length by omega]
     subst hWeq
     have hWl:W'.length=(s.w q).length:=by rw [hW'];unfold sU;split<;>simp [qs]
     refine .ai (.y hs (zls [_,_] aT aE) (.z zm (.z zm ?_)))
     refine .o (.aU (vs:=[_,_]) hs rfl rfl aE fun w hs=>?_)
     refine .z zg (.z zg (.z zg (.nil ?_)))
     refine .ret ?_
     obtain ⟨H4,hle4,hR,hs⟩:=cn.dI (xs:=W') (v:= .slice (some ⟨bo,0,none⟩) (s.w q).length cap) (.inr ⟨bo,_,cap,sp,rfl,rfl,by simp [Is,hWl],by simp [Is];omega,aj⟩) aj hs cZ
     exact Fin.iK [] [] hs fun w hs=>⟨_,results4 Tryz.results87 (dJ (vs:=[_,_]) hs rfl aT aE) rfl rfl rfl,H4,_,_,_,_,_,hle03.trans hle4,rfl,⟨_,_,_,rfl⟩,⟨_,_,_,rfl⟩,.ok hok hq,fun _=>⟨rfl,hL.mono (hle3.trans hle4),by rw [←hW'];exact hR,rfl⟩,hs.out⟩
set_option maxHeartbeats 1000000 in
theorem ss{s:Srv}{q:Wht}{vst vwa vr vc:Value}(hs:St H w σ)(h1:RI H vst s.sp.st)(h2:RI H vwa s.sp.wa)(h3:RRd H vr s.rs)(h4:RCm H vc s.cs):
  Cl Tryz.prog 27 [.agg #[I s.sp.id,I s.sp.src,vst,vwa,I s.sp.al,I s.sp.up,vr,vc],.agg #[I q.kind,I q.st,I q.wa]] w fun u w'=>∃H1 lo hi e,HLe H H1∧u= .tuple #[.agg #[I lo,I hi],I e]∧xW s q lo hi e∧St H1 w' σ:=by
 refine Cl.o Tryz.func27 Tryz.ntmps27 ag2 ?_
 refine .ai ?_
 refine .bx hs fun b2 w hs=>?_
 refine .bx hs fun b3 w hs=>?_
 refine .o (.alloc hs fY rfl fun b4 w hs=>?_)
 refine .z zg (.nil (.ai (.y hs (zls [_,_,_,_,_,_,_,_] aO aF) (.y hs (zls [_,_,_] bX bh) ?_))))
 refine .o (.call Tryz.call87 rfl (mJ (s:=s) (q:=q) (high:=true) hs h1 h2 h3 h4) ?_);rintro _ w ⟨H1,m,ul,vw,d,e,hle1,rfl,⟨al,ll,cl,rfl⟩,⟨aw,lw,cw,rfl⟩,hA,hA0,hs⟩
 refine .z zm (.z zex (.z zex (.z zex (.z zex ?_))))
 refine .o (.alloc hs dj rfl fun b6 w hs=>?_)
 refine .o (.aU (vs:=[_,_]) hs rfl rfl aE fun w hs=>?_)
 refine .z zg (.z zg (.z zg (.nil (.seq (.ai (.z zm (.z ij (.nil ?_))))))))
 refine (.eQ rfl (fun hc22=>?_) (fun hc22=>?_))
 ·refine .ai (.z (zbd [_,_] cz) (.z zm ?_))
  refine .o (.aU (vs:=[_,_]) hs rfl rfl aZ fun w hs=>?_)
  refine .z zg (.nil ?_)
  refine .ret (rT (?_))
  exact Fin.iK [] [] hs fun w hs=>⟨_,results2 Tryz.results27 (dJ (vs:=[_,_]) hs rfl dF aZ) rfl,H1,_,_,_,hle1,rfl,hA.qty hc22,hs.out⟩
 ·refine .skip ?_
  refine nT ?_
  refine .ai (.y hs (zls [_,_] aT aE) (.z zm ?_))
  obtain rfl:e=0:=by simpa using hc22
  obtain ⟨rfl,hL,hR,rfl⟩:=hA0 rfl
  obtain ⟨hok,hq⟩:=hA.zero
  refine .o (.call Tryz.call88 rfl (sw (s:=s.sys) hs ⟨_,rfl,hL⟩ hR) ?_);rintro _ w ⟨H2,lo,hi,f,hle2,rfl,hRg,hs⟩
  have hRg:fD s.sys (s.w q) lo hi f:=hRg
  have hbd:=hRg.bd
  have hdp:=ow q
  refine .z zm (.z zex (.z zex (.z zex (.z zg (.z zg (.z zg (.nil (.seq (.ai ?_)))))))))
  refine .z zm (.z ij (.nil ?_))
  refine (.eQ rfl (fun hc33=>?_) (fun hc33=>?_))
  ·refine .ai (.z (zbd [_,_] cz) ?_)
   refine .o (.aU (vs:=[_,_]) hs rfl rfl aZ fun w hs=>?_)
   refine .z zg (.nil ?_)
   refine .ret (rT (?_))
   have hns:¬s.sys.Sound:=fun h=>hc33 (mA (hok.ask hq) h (fun b=>s.both) hRg)
   exact Fin.iK [] [] hs fun w hs=>⟨_,results2 Tryz.results27 (dJ (vs:=[_,_]) hs rfl dF aZ) rfl,H2,_,_,_,hle1.trans hle2,rfl,.fls hok hq hns,hs.out⟩
  ·refine .skip ?_
   refine nT ?_
   refine .ai (.z zm (.z zm ?_))
   obtain rfl:f=0:=by simpa using hc33
   have hsd:s.sys.Sound:=Classical.byContradiction fun h=>by have:=tU (hok.ask hq) h hRg;omega
   refine .o (.call Tryz.call78 rfl (gY hs aj aj) ?_);rintro _ w ⟨rfl,hs⟩
   refine .z zm (.z zm ?_)
   refine .o (.call Tryz.call78 rfl (gY hs aj aj) ?_);rintro _ w ⟨rfl,hs⟩
   refine .z (zbd [_,_] cz) ?_
   refine .o (.aU (vs:=[_,_]) hs rfl rfl aZ fun w hs=>?_)
   refine .z zg (.nil ?_)
   refine .ret ?_
   exact Fin.iK [] [] hs fun w hs=>⟨_,results2 Tryz.results27 (dJ (vs:=[_,_]) hs rfl dF aZ) rfl,H2,_,_,_,hle1.trans hle2,rfl,.ok hok hq hsd hRg,hs.out⟩
theorem bK{n m:Int}(hs:St H w σ)(hm:1≤m∧m≤4611686018427387904):
  Cl Tryz.prog 31 [I n,I m] w fun u w'=>∃k:Nat,(k:Int)<m∧u=I (k:Int)∧St H w' σ:=by
 have h1:=Int.tmod_lt_of_pos n (show 0<m by omega)
 have h2:=Int.lt_tmod_of_pos n (show 0<m by omega)
 have h3:=Int.tmod_lt_of_pos (n.tmod m+m) (show 0<m by omega)
 have h4:=Int.tmod_nonneg m (show 0≤n.tmod m+m by omega)
 refine Cl.o Tryz.func31 Tryz.ntmps31 ag2 ?_
 refine .ai (.z zg (.nil (.ai (.z zm (.z zm (.z B6 (.z zm (.z cq (.z zm ?_)))))))))
 refine .z B6 (.z zg (.nil ?_))
 refine .ret (Fin.bJ Tryz.results31 rfl ?_)
 exact ⟨((n.tmod m+m).tmod m).toNat,aj,by rw [show (((n.tmod m+m).tmod m).toNat:Int)=(n.tmod m+m).tmod m by omega],hs⟩
theorem dk{v:Value}{l:List Int}{i n:Int}(hs:St H w σ)(hr:RI H v l)(hi:0≤i)(hn:1≤n∧n≤4611686018427387904):
  Cl Tryz.prog 100 [v,I i,I n] w fun u w'=>∃k:Nat,(k:Int)<n∧u=I (k:Int)∧St H w' σ:=by
 obtain ⟨a,c,rfl⟩:=RI.shape hr
 refine Cl.o Tryz.func100 Tryz.ntmps100 ag3 ?_
 refine .ai (.z zg (.nil (.seq (.ai (.z zm (.z (c9 aa) (.z gC (.nil ?_))))))))
 refine (.bM rfl (fun hc9=>?_) (fun hc9=>?_))
 ·refine .ai (.z zg (.nil ?_))
  refine .ret (rT (Fin.bJ Tryz.results100 rfl ?_))
  exact ⟨0,aj,rfl,hs⟩
 ·refine .skip ?_
  refine nT ?_
  refine .ai (.z zm (.z zm (.z zm (.z (c9 aa) (.z B6 ?_)))))
  have g1:=Int.tmod_lt_of_pos i (show 0<(l.length:Int) by omega)
  have g2:=Int.tmod_nonneg (l.length:Int) hi
  refine .ixY hs hr rfl rfl aa af (bL (l:=l) (i:=(i.tmod l.length).toNat) aj) aj ?_;intro b15 o15 hc15
  refine .q hs (aK rfl ae hc15) ?_
  refine .z zm ?_
  refine .o (.call cJ rfl (bK hs hn) ?_);rintro _ w ⟨k,hk,rfl,hs⟩
  refine .z zg (.nil ?_)
  refine .ret (Fin.bJ Tryz.results100 rfl ?_)
  exact ⟨k,hk,rfl,hs⟩
theorem tv{v vp:Value}{s:cM}{jQ:List Int}(hs:St H w σ)(hr:RSy H v s)(hp:RI H vp jQ)(hgood:s.Ok∧s.Sound):
  Cl Tryz.prog 212 [v,vp] w fun u w'=>∃H1 vx x en,HLe H H1∧u= .tuple #[vx,I 0]∧cn 1 vx (Is x) en∧vB s jQ x∧St H1 w' (en::σ):=by
 obtain ⟨ul,rfl,hl⟩:=hr
 obtain ⟨al,cl,rfl⟩:=RL.shape hl
 obtain ⟨ap,cp,rfl⟩:=RI.shape hp
 refine Cl.o Tryz.func212 Tryz.ntmps212 ag2 ?_
 refine .ai ?_
 refine .bx hs fun b2 w hs=>?_
 refine .z zg (.z zg (.nil (.ai (.y hs (zls [_,_] aT aE) ?_))))
 refine .o (.call Tryz.call210 rfl (mM (s:=s) hs ⟨_,rfl,hl⟩) ?_);rintro _ w ⟨H1,vt,e,hle1,rfl,hcase,hs⟩
 refine .z zm (.z zex (.z zex (.z zg (.z zg (.nil (.seq (.ai (.z zm (.z ij ?_)))))))))
 refine .nil ?_
 refine (.eQ rfl (fun hc20=>?_) (fun hc20=>?_))
 ·refine .ai (.z zm (.z zg (.z zg (.nil ?_))))
  refine .ret (rT (Fin.nh Tryz.results212 rfl rfl ?_))
  rcases hcase with ⟨h1,rfl,rfl⟩|⟨h1,h2,rfl,rfl⟩|⟨_,_,rfl,_⟩
  ·exact (h1 (s.dt.2 hgood.1)).elim
  ·exact (h2 hgood.2).elim
  ·exact (hc20 rfl).elim
 ·refine .skip ?_
  refine nT ?_
  refine .ai ?_
  subst hc20
  obtain ⟨hok,hsd,rs,hRT,hSq,hWT⟩:s.Ok∧s.Sound∧∃rs,RT H1 vt rs∧Sq s.n rs∧iR s.n s.dh (gt rs):=by
   rcases hcase with ⟨h1,h2,_⟩|⟨_,_,h2,_⟩|⟨h1,h2,_,h3⟩
   ·exact (h1 h2.symm).elim
   ·omega
   ·exact ⟨h1,h2,h3⟩
  obtain ⟨at',ct,rfl⟩:=hRT.shape
  have hTS:=hok.FN hsd hWT
  have hrl:=hSq.1
  have hm0:=hok.m0
  have hm1:=hok.m1
  have hnn:(s.n:Int)=s.many+1:=by simp only [cM.n];omega
  refine .o (.buildSlice (cells:=[_]) hs dv rfl rfl fun b22 w hs=>?_)
  refine .z zg (.nil (.seq (.ai (.z zg (.nil (.block ?_))))))
  refine .loop (fun p:List Int×Value=>⟨109,[],[(9,I (p.1.length:Int)),(8,p.2),(6,.slice at' rs.length ct),(2,.pointer (some ⟨b2,0,none⟩)),(1,.slice ap jQ.length cp)]⟩)
   (fun p w=>EH (gt rs) (qg jQ) p.1∧p.1.length≤s.n∧∃en,cn 1 p.2 (Is p.1) en∧St H1 w (en:: .blk b2 [I s.many,.slice al s.cO.length cl]::σ))
   (fun p=>s.n - p.1.length) ([0],.slice (some ⟨b22,0,none⟩) 1 1) aR
   ⟨.start,s.tF,_,.full (len:=1) rfl,hs⟩ ?_
  rintro ⟨X,v8⟩ w ⟨hP,hXn,en,hO,hs⟩
  dsimp only at hP hXn hO ⊢
  have hI:=hP.inv (fun i n hn=>vY jQ i hn) hTS hXn
  have hX0:=hI.l0
  have hO1:=hO
  obtain ⟨b,cap,sp,rfl,rfl,hcap⟩:=hO.some hX0
  refine .seq (.ai (.z zm (.z (zfa bH) (.y hs (zld ae) (.z uO (.nil ?_))))))
  refine (.bM rfl (fun hc26=>?_) (fun hc26=>?_))
  ·refine .skip ?_
   refine nT ?_
   refine .seq (.block (.ai (.z zg (.nil ?_))))
   have hXl:X.length<s.n:=by omega
   refine .ai (.z zg (.nil (.seq (.ai (.z zm (.z (c9 aa) (.z zm (.nil ?_))))))))
   refine .for (N:=X.length) (J:=fun k fr w=>∃lo hi,fr=[(10,I lo),(11,I hi),(9,I (X.length:Int)),(8,.slice (some ⟨b,0,none⟩) X.length cap),(6,.slice at' rs.length ct),(2,.pointer (some ⟨b2,0,none⟩)),(1,.slice ap jQ.length cp)]∧LoI (gt rs) X X.length k lo∧HiI (gt rs) X X.length k hi∧St H1 w (.blk b (Is X++sp):: .blk b2 [I s.many,.slice al s.cO.length cl]::σ)) aj ?_ ?_ ?_
   ·exact .mk ⟨_,_,rfl,.start _ _ _,.start _ _ _,hs⟩
   ·rintro k fr w hk ⟨lo,hi,rfl,hLo,hHi,hs⟩
    have hXk:=hI.bd k hk
    have hr1:(gr rs X.length).length=s.n:=hSq.2 _ hXl
    have hr2:(gr rs k).length=s.n:=hSq.2 _ aj
    have hb1:gi (gr rs X.length) k≠1000000000→-1400000≤gi (gr rs X.length) k∧gi (gr rs X.length) k≤1400000:=fun h=>hTS.bd X.length k hXl aj h
    have hb2:gi (gr rs k) X.length≠1000000000→-1400000≤gi (gr rs k) X.length∧gi (gr rs k) X.length≤1400000:=fun h=>hTS.bd k X.length aj hXl h
    refine .block (.ai (.z zm (.z zg (.nil ?_))))
    refine .cut (fun fs w=>∃lo',j9 fs ⟨109,[],[(10,I lo'),(12,I (k:Int)),(31,I (k:Int)),(30,I (X.length:Int)),(11,I hi),(9,I (X.length:Int)),(8,.slice (some ⟨b,0,none⟩) X.length cap),(6,.slice at' rs.length ct),(2,.pointer (some ⟨b2,0,none⟩)),(1,.slice ap jQ.length cp)]⟩∧LoI (gt rs) X X.length (k+1) lo'∧St H1 w (.blk b (Is X++sp):: .blk b2 [I s.many,.slice al s.cO.length cl]::σ)) ?_ ?_
    ·refine .ai (.z zm (.z zm ?_))
     refine .ixT hs hRT rfl rfl aq aC (show X.length<rs.length by omega) rfl ?_;intro b36 o36 a36 c36 hc36 hR36
     refine .q hs (aK rfl ak hc36) ?_
     refine .z zm ?_
     refine .ixY hs hR36 rfl rfl aa af (bL (l:=gr rs X.length) (i:=k) aj) rfl ?_;intro b39 o39 hc39
     refine .q hs (aK rfl ae hc39) ?_
     refine .z ij (.nil ?_)
     refine (.eQ rfl (fun hc41=>?_) (fun hc41=>?_))
     ·refine .draw mix rfl hs fun w hs=>?_
      refine .z 0 rfl zm ?_;refine .z 1 rfl zm ?_;refine .z 2 rfl zm ?_;refine .z 3 rfl (zix aa af) ?_
      refine .load (i:=4) hs rfl an .none rfl ae ?_ (hv:=fQ hk sp)
      refine .z 5 rfl zm ?_;refine .z 6 rfl zm ?_
      refine .ixT (i:=7) hs rfl an .none hRT rfl rfl aq aC (show X.length<rs.length by omega) rfl ?_;intro b49 o49 a49 c49 hc49 hR49
      refine .r (i:=8) hs rfl an .none (aK rfl ak hc49) ?_
      refine .z 9 rfl zm ?_
      refine .ixX (enc:=fun x=>[I x]) (i:=10) hs rfl an .none hR49 rfl rfl aa af (bL (l:=gr rs X.length) (i:=k) aj) rfl ?_;intro b52 o52 hc52;replace hc52:=bB.one hc52
      refine .r (i:=11) hs rfl an .none (aK rfl ae hc52) ?_
      refine .z 12 rfl gW ?_;refine .z 13 rfl DM ?_;refine .z 14 rfl zg ?_;refine .D hs ?_
      refine nT ?_
      exact ⟨_,aR,hLo.put hc41 (by have:=hb1 hc41;have:=hXk;have:=hTS.n65;show -1000000000≤gi X k - gi (gr rs X.length) k;omega),hs⟩
     ·refine .skip ?_
      refine nT ?_
      exact ⟨_,aR,hLo.skip hc41,hs⟩
    ·rintro fs w ⟨lo',hfs,hLo',hs⟩
     refine WE.sub ?_ hfs
     refine .ai (.z zm (.z zm ?_))
     refine .ixT hs hRT rfl rfl aq aC (show k<rs.length by omega) rfl ?_;intro b58 o58 a58 c58 hc58 hR58
     refine .q hs (aK rfl ak hc58) ?_
     refine .z zm ?_
     refine .ixY hs hR58 rfl rfl aa af (bL (l:=gr rs k) (i:=X.length) aj) rfl ?_;intro b61 o61 hc61
     refine .q hs (aK rfl ae hc61) ?_
     refine .z ij (.nil ?_)
     refine (.eQ rfl (fun hc63=>?_) (fun hc63=>?_))
     ·refine .draw mix rfl hs fun w hs=>?_
      refine .z 0 rfl zm ?_;refine .z 1 rfl zm ?_;refine .z 2 rfl zm ?_;refine .z 3 rfl (zix aa af) ?_
      refine .load (i:=4) hs rfl an .none rfl ae ?_ (hv:=fQ hk sp)
      refine .z 5 rfl zm ?_;refine .z 6 rfl zm ?_
      refine .ixT (i:=7) hs rfl an .none hRT rfl rfl aq aC (show k<rs.length by omega) rfl ?_;intro b71 o71 a71 c71 hc71 hR71
      refine .r (i:=8) hs rfl an .none (aK rfl ak hc71) ?_
      refine .z 9 rfl zm ?_
      refine .ixX (enc:=fun x=>[I x]) (i:=10) hs rfl an .none hR71 rfl rfl aa af (bL (l:=gr rs k) (i:=X.length) aj) rfl ?_;intro b74 o74 hc74;replace hc74:=bB.one hc74
      refine .r (i:=11) hs rfl an .none (aK rfl ae hc74) ?_
      refine .z 12 rfl cq ?_;refine .z 13 rfl As ?_;refine .z 14 rfl zg ?_;refine .D hs ?_
      refine nB (nT ?_)
      exact .mk ⟨lo',_,rfl,hLo',hHi.put hc63 (by have:=hb2 hc63;have:=hXk;have:=hTS.n65;show gi X k+gi (gr rs k) X.length≤1000000000;omega),hs⟩
     ·refine .skip ?_
      refine nB (nT ?_)
      exact .mk ⟨lo',_,rfl,hLo',hHi.skip hc63,hs⟩
   ·rintro fr w ⟨lo,hi,rfl,hLo,hHi,hs⟩
    have hlb:=hLo.bd hI hTS hXl (Nat.le_refl _)
    have hhb:=hHi.bd hI hTS hXl (Nat.le_refl _)
    have hle:=hI.le hTS hXl rfl hLo hHi
    simp only [free] at hlb hhb hle
    have hpk:=vY jQ ((X.length:Int) - 1) (n:=hi - lo+1)
    refine nT ?_
    refine .ai (.z zg (.nil ?_))
    refine .cut (fun fs w=>j9 fs ⟨109,[],[(13,I (kf lo hi (qg jQ ((X.length:Int) - 1) (hi - lo+1)))),(9,I (X.length:Int)),(8,.slice (some ⟨b,0,none⟩) X.length cap),(6,.slice at' rs.length ct),(2,.pointer (some ⟨b2,0,none⟩)),(1,.slice ap jQ.length cp)]⟩∧St H1 w (.blk b (Is X++sp):: .blk b2 [I s.many,.slice al s.cO.length cl]::σ)) ?_ ?_
    ·refine .block (.ai (.z zm (.z ij (.z zm ?_))))
     refine .yF (t':=82) rfl (fun hb82=>?_) (fun hb82=>?_)
     ·refine .gT rfl rfl ?_
      refine .z zm ?_
      refine .gT rfl rfl ?_
      refine .z ij (.z zpT (.z zg (.nil ?_)))
      refine (.eQ rfl (fun hc79=>?_) (fun hc79=>?_))
      ·refine .region (.z zm (.z zm (.z zm (.z gW (.z zm (.z zm (.z gW (.z cq ?_))))))))
       refine .o (.call Tryz.call264 rfl (tw hs (hp.mono hle1) aj aj) ?_);rintro _ w ⟨rfl,hs⟩
       have hq1:hi≠1000000000:=by simpa using hc79
       have hq2:=hle (by simpa using hb82) hq1
       have hq3:=hpk aj
       refine .z cq (.z zg (.nil ?_))
       refine nB (nT ?_)
       refine ⟨.cj rfl ?_ aR,hs⟩
       unfold kf
       simp only [free] at*
       split<;>(try split)<;>first|rfl|omega|(simp_all;done)|(exfalso;simp_all;omega)
      ·refine .ai (.z zm (.z ij (.z zg (.nil ?_))))
       refine (.eQ rfl (fun hc96=>?_) (fun hc96=>?_))
       ·refine .region (.z zm (.z zg (.nil ?_)))
        refine nB (nT ?_)
        refine ⟨.cj rfl ?_ aR,hs⟩
        unfold kf
        simp only [free] at*
        split<;>(try split)<;>first|rfl|omega|(simp_all;done)|(exfalso;simp_all;omega)
       ·refine .ai (.z zm (.z ij (.z zg (.nil ?_))))
        refine (.eQ rfl (fun hc100=>?_) (fun hc100=>?_))
        ·refine .region (.z zm (.z zg (.nil ?_)))
         refine nB (nT ?_)
         refine ⟨.cj rfl ?_ aR,hs⟩
         unfold kf
         simp only [free] at*
         split<;>(try split)<;>first|rfl|omega|(simp_all;done)|(exfalso;simp_all;omega)
        ·refine .skip ?_
         refine nB (nT ?_)
         refine ⟨.cj rfl ?_ aR,hs⟩
         unfold kf
         simp only [free] at*
         split<;>(try split)<;>first|rfl|omega|(simp_all;done)|(exfalso;simp_all;omega)
     ·refine .gFs 2 2 true rfl rfl rfl ?_
      refine .z zpF (.z zg (.nil ?_))
      refine (.cF ?_)
      refine .ai (.z zm (.z ij (.z zg (.nil ?_))))
      refine (.eQ rfl (fun hc96=>?_) (fun hc96=>?_))
      ·refine .region (.z zm (.z zg (.nil ?_)))
       refine nB (nT ?_)
       refine ⟨.cj rfl ?_ aR,hs⟩
       unfold kf
       simp only [free] at*
       split<;>(try split)<;>first|rfl|omega|(simp_all;done)|(exfalso;simp_all;omega)
      ·refine .ai (.z zm (.z ij (.z zg (.nil ?_))))
       refine (.eQ rfl (fun hc100=>?_) (fun hc100=>?_))
       ·refine .region (.z zm (.z zg (.nil ?_)))
        refine nB (nT ?_)
        refine ⟨.cj rfl ?_ aR,hs⟩
        unfold kf
        simp only [free] at*
        split<;>(try split)<;>first|rfl|omega|(simp_all;done)|(exfalso;simp_all;omega)
       ·refine .skip ?_
        refine nB (nT ?_)
        refine ⟨.cj rfl ?_ aR,hs⟩
        unfold kf
        simp only [free] at*
        split<;>(try split)<;>first|rfl|omega|(simp_all;done)|(exfalso;simp_all;omega)
    ·rintro fs w ⟨hfs,hs⟩
     refine WE.sub ?_ hfs
     refine .region (.z zm (.z zm ?_))
     refine .o (.buildSlice (cells:=[_]) hs dv rfl rfl fun b106 w hs=>?_)
     refine .o (.append (ys:=Is [kf lo hi (qg jQ ((X.length:Int) - 1) (hi - lo+1))]) hs cV rfl rfl hO1 (.own .here rfl rfl) (jK _) (fun l' h=>by simp at h;have:=hTS.n65;omega) ?_);intro v107 en107 w hO2 hs
     rw [←List.map_append] at hO2
     refine .z zg (.nil ?_)
     refine nB (nT ?_)
     refine .region (.z zm (.z cq (.z zg (.nil ?_))))
     refine nT ?_
     exact ⟨(X++[kf lo hi (qg jQ ((X.length:Int) - 1) (hi - lo+1))],v107),.cj rfl bV aR,⟨hP.snoc hLo hHi,by simp;omega,_,hO2,hs.sb⟩,by simp;omega⟩
  ·refine .exit ?_
   refine xT (xT (xB (nT ?_)))
   refine .ai (.z zm (.z zg (.z zg (.nil ?_))))
   refine .ret (Fin.nh Tryz.results212 rfl rfl ?_)
   exact ⟨H1,_,X,_,hle1,rfl,hO1,⟨gt rs,hWT,hP,aj⟩,hs.sb⟩
theorem nx{s:Srv}{vst vwa vr vc:Value}(hs:St H w σ)(h1:RI H vst s.sp.st)(h2:RI H vwa s.sp.wa)(h3:RRd H vr s.rs)(h4:RCm H vc s.cs)(he:s.early):
  Cl Tryz.prog 211 [.agg #[I s.sp.id,I s.sp.src,vst,vwa,I s.sp.al,I s.sp.up,vr,vc]] w fun u w'=>∃H1,HLe H H1∧RSy H1 u s.oG∧St H1 w' σ:=by
 obtain ⟨ar,cr,rfl⟩:=RRd.shape h3
 have hfl:=zu s
 have hrl:=he.2.1
 refine Cl.o Tryz.func211 Tryz.ntmps211 ag1 ?_
 refine .ai ?_
 refine .bx hs fun b1 w hs=>?_
 refine .o (.alloc hs dj rfl fun b2 w hs=>?_)
 refine .nil (.ai (.y hs (zls [_,_,_,_,_,_,_,_] aO aF) ?_))
 refine .o (.call Tryz.call95 rfl (lV (s:=s) hs h1 h2 h3 h4 he) ?_);rintro _ w ⟨H1,hle1,⟨ul,rfl,hL⟩,hs⟩
 have hL:RL H1 ul s.cO:=hL
 obtain ⟨al,cl,rfl⟩:=RL.shape hL
 have hln:=RS.len hL
 rw [List.length_map] at hln
 refine .o (.alloc hs dj rfl fun b3 w hs=>?_)
 refine .o (.aU (vs:=[_,_]) hs rfl rfl aE fun w hs=>?_)
 refine .nil (.ai (.z (zfa bO) (.y hs (zld cH) (.z (zfa bO) (.y hs (zld cH) (.z (c9 aP) (.z (zfa aN) (.y hs (zld bu) (.z (c9 az) ?_)))))))))
 refine .z ka (.z gW ?_)
 refine .q hs (lY (k:=s.nI.length) rfl rfl aP bq aj aj) ?_
 have hT:=RS.head hL (k:=s.nI.length) aj
 rw [←List.map_take,xv] at hT
 refine .z (zfa bO) ?_
 refine .o (.store hs rfl rfl mD fun w hs=>?_)
 refine .nil (.ai (.y hs (zls [_,_] aT aE) ?_))
 refine .o (.aU (vs:=[_,_]) hs rfl rfl aE fun w hs=>?_)
 refine .nil ?_
 refine .ret ?_
 exact Fin.iK [] [] hs fun w hs=>⟨_,results1 Tryz.results211 (dJ (vs:=[_,_]) hs rfl aT aE),H1,hle1,⟨_,rfl,hT⟩,hs.out⟩
theorem tr{s:Srv}{vst vwa vr vc:Value}(hs:St H w σ)(h1:RI H vst s.sp.st)(h2:RI H vwa s.sp.wa)(h3:RRd H vr s.rs)(h4:RCm H vc s.cs)(he:s.early)(hok:s.oG.Ok):
  Cl Tryz.prog 142 [.agg #[I s.sp.id,I s.sp.src,vst,vwa,I s.sp.al,I s.sp.up,vr,vc]] w fun u w'=>∃H1,∃b:Bool,HLe H H1∧u= .bool b∧(b=false→s.oG.Sound)∧St H1 w' σ:=by
 refine Cl.o Tryz.func142 Tryz.ntmps142 ag1 ?_
 refine .ai ?_
 refine .bx hs fun b1 w hs=>?_
 refine .z zg (.nil (.ai (.y hs (zls [_,_,_,_,_,_,_,_] aO aF) ?_)))
 refine .o (.call Tryz.call211 rfl (nx (s:=s) hs h1 h2 h3 h4 he) ?_);rintro _ w ⟨H1,hle1,hS,hs⟩
 refine .o (.call Tryz.call210 rfl (mM (s:=s.oG) hs hS) ?_);rintro _ w ⟨H2,vt,e,hle2,rfl,hcase,hs⟩
 refine .z zm (.z zex (.z zex (.z zg (.z zg (.nil (.ai (.z zm (.z ij (.z zg ?_)))))))))
 refine .nil ?_
 refine .ret (Fin.bJ Tryz.results142 rfl ?_)
 exact ⟨H2,_,hle1.trans hle2,rfl,fun h=>by
  rcases hcase with ⟨k1,_,_⟩|⟨_,_,k3,_⟩|⟨_,k2,_,_⟩
  ·exact (k1 (s.oG.dt.2 hok)).elim
  ·subst k3;simp at h
  ·exact k2,hs.out⟩
theorem tq{s:Srv}{vst vwa vr vc vp:Value}{jQ:List Int}(hs:St H w σ)(h1:RI H vst s.sp.st)(h2:RI H vwa s.sp.wa)(h3:RRd H vr s.rs)(h4:RCm H vc s.cs)(hp:RI H vp jQ)(he:s.early)(hok:s.oG.Ok∧s.oG.Sound):
  Cl Tryz.prog 143 [.agg #[I s.sp.id,I s.sp.src,vst,vwa,I s.sp.al,I s.sp.up,vr,vc],vp] w fun u w'=>∃H1 x en,HLe H H1∧cn 1 u (Is x) en∧vB s.oG jQ x∧St H1 w' (en::σ):=by
 obtain ⟨ap,cp,rfl⟩:=RI.shape hp
 refine Cl.o Tryz.func143 Tryz.ntmps143 ag2 ?_
 refine .ai ?_
 refine .bx hs fun b2 w hs=>?_
 refine .z zg (.nil (.ai (.y hs (zls [_,_,_,_,_,_,_,_] aO aF) ?_)))
 refine .o (.call Tryz.call211 rfl (nx (s:=s) hs h1 h2 h3 h4 he) ?_);rintro _ w ⟨H1,hle1,hS,hs⟩
 refine .z zm ?_
 refine .o (.call Tryz.call212 rfl (tv (s:=s.oG) hs hS (hp.mono hle1) hok) ?_);rintro _ w ⟨H2,vx,x,en,hle2,rfl,hO,hP,hs⟩
 refine .z zm (.z zex (.z zex (.z zg (.z zg (.nil (.ai (.z zm (.z zg (.nil ?_)))))))))
 refine .ret (Fin.bJ Tryz.results143 rfl ?_)
 exact ⟨H2,x,en,hle1.trans hle2,hO,hP,hs.sb⟩
set_option maxHeartbeats 1000000 in
theorem pn{s:Spc}{vst vwa:Value}{a b c:Int}(hs:St H w σ)(h1:RI H vst s.st)(h2:RI H vwa s.wa)(hk:fX s):
  Cl Tryz.prog 25 [.agg #[I s.id,I s.src,vst,vwa,I s.al,I s.up],.agg #[I a,I b,I c]] w fun u w'=>∃q:Wht,u= .agg #[I q.kind,I q.st,I q.wa]∧fm s q∧St H w' σ:=by
 obtain ⟨ast,cst,rfl⟩:=RI.shape h1
 obtain ⟨awa,cwa,rfl⟩:=RI.shape h2
 have hl1:=hk.st.two
 have hl2:=hk.wa.two
 have hl3:=hk.st.many
 have hl4:=hk.wa.many
 refine Cl.o Tryz.func25 Tryz.ntmps25 ag2 ?_
 refine .ai ?_
 refine .bx hs fun b2 w hs=>?_
 refine .bx hs fun b3 w hs=>?_
 refine .o (.alloc hs Tryz.zeroValue29 rfl fun b4 w hs=>?_)
 refine .nil (.ai ?_)
 refine .z (zia 0 aM af) ?_
 refine .y hs (zld ae) ?_
 refine .o (.call cJ rfl (bK hs aj) ?_);rintro _ w ⟨k,hk4,rfl,hs⟩
 refine .z cq (.z (zbd [_,_,_] lr) ?_)
 refine .o (.alloc hs Tryz.zeroValue29 rfl fun b5 w hs=>?_)
 refine .o (.aU (vs:=[_,_,_]) hs rfl rfl bh fun w hs=>?_)
 refine .nil (.ai ?_)
 refine .z (zia 1 aM af) ?_
 refine .y hs (zld ae) (.z (zfa bA) (.y hs (zld ak) (.z (c9 aa) ?_)))
 refine .o (.call cJ rfl (bK hs aj) ?_);rintro _ w ⟨i,hi,rfl,hs⟩
 refine .z zg (.nil (.ai ?_))
 refine .z (zia 2 aM af) ?_
 refine .y hs (zld ae) (.z (zfa bj) (.y hs (zld ak) (.z (c9 aa) ?_)))
 refine .o (.call cJ rfl (bK hs aj) ?_);rintro _ w ⟨j,hj,rfl,hs⟩
 refine .z zg (.nil (.seq (.ai (.z (zfa kA) (.y hs (zld ae) (.nil (.block (.ai (.z gC ?_)))))))))
 refine .z zg (.nil ?_)
 refine (.bM rfl (fun hc27=>?_) (fun hc27=>?_))
 ·refine .region (.z zm (.z DM (.z (zfa di) ?_)))
  refine .o (.store hs rfl rfl af fun w hs=>?_)
  refine .nil ?_
  refine nB (nT ?_)
  refine .ai (.y hs (zls [_,_,_] bX bh) ?_)
  refine .o (.aU (vs:=[_,_,_]) hs rfl rfl bh fun w hs=>?_)
  refine .nil ?_
  refine .ret ?_
  exact Fin.iK [] [] hs fun w hs=>⟨_,results1 Tryz.results25 (dJ (vs:=[_,_,_]) hs rfl bX bh),⟨1+(k:Int),0,max 1 (j:Int)⟩,rfl,.litres (by show (1:Int)+k=1;omega) rfl ⟨by dsimp only;omega,by dsimp only;omega⟩ (by dsimp only;omega),hs.out⟩
 ·refine .ai (.z gC (.z zg (.nil ?_)))
  refine (.bM rfl (fun hc32=>?_) (fun hc32=>?_))
  ·refine .region (.z zm (.z (zfa di) ?_))
   refine .o (.store hs rfl rfl af fun w hs=>?_)
   refine .nil ?_
   refine nB (nT ?_)
   refine .ai (.y hs (zls [_,_,_] bX bh) ?_)
   refine .o (.aU (vs:=[_,_,_]) hs rfl rfl bh fun w hs=>?_)
   refine .nil ?_
   refine .ret ?_
   exact Fin.iK [] [] hs fun w hs=>⟨_,results1 Tryz.results25 (dJ (vs:=[_,_,_]) hs rfl bX bh),⟨1+(k:Int),0,(j:Int)⟩,rfl,.plane (by show (1:Int)+k=2;omega) rfl ⟨by dsimp only;omega,by dsimp only;omega⟩,hs.out⟩
  ·refine .ai (.z gC (.z zg (.nil ?_)))
   refine (.bM rfl (fun hc36=>?_) (fun hc36=>?_))
   ·refine .region (.z zm (.z (zfa eg) ?_))
    refine .o (.store hs rfl rfl af fun w hs=>?_)
    refine .nil ?_
    refine nB (nT ?_)
    refine .ai (.y hs (zls [_,_,_] bX bh) ?_)
    refine .o (.aU (vs:=[_,_,_]) hs rfl rfl bh fun w hs=>?_)
    refine .nil ?_
    refine .ret ?_
    exact Fin.iK [] [] hs fun w hs=>⟨_,results1 Tryz.results25 (dJ (vs:=[_,_,_]) hs rfl bX bh),⟨1+(k:Int),(i:Int),0⟩,rfl,.section_ (by show (1:Int)+k=3;omega) rfl ⟨by dsimp only;omega,by dsimp only;omega⟩,hs.out⟩
   ·refine .ai (.z gC (.z zg (.nil ?_)))
    refine (.bM rfl (fun hc40=>?_) (fun hc40=>?_))
    ·refine .ai (.z zm (.z (zfa eg) ?_))
     refine .o (.store hs rfl rfl af fun w hs=>?_)
     refine .nil (.region (.z zm (.z (zfa di) ?_)))
     refine .o (.store hs rfl rfl af fun w hs=>?_)
     refine .nil ?_
     refine nB (nT ?_)
     refine .ai (.y hs (zls [_,_,_] bX bh) ?_)
     refine .o (.aU (vs:=[_,_,_]) hs rfl rfl bh fun w hs=>?_)
     refine .nil ?_
     refine .ret ?_
     exact Fin.iK [] [] hs fun w hs=>⟨_,results1 Tryz.results25 (dJ (vs:=[_,_,_]) hs rfl bX bh),⟨1+(k:Int),(i:Int),(j:Int)⟩,rfl,.offset (by show (1:Int)+k=4;omega) ⟨by dsimp only;omega,by dsimp only;omega⟩ ⟨by dsimp only;omega,by dsimp only;omega⟩,hs.out⟩
    ·refine .skip ?_
     refine nB (nT ?_)
     refine .ai (.y hs (zls [_,_,_] bX bh) ?_)
     refine .o (.aU (vs:=[_,_,_]) hs rfl rfl bh fun w hs=>?_)
     refine .nil ?_
     refine .ret ?_
     omega
structure Grow(d D:Int)(L:List Int)(x:Int):Prop where
 low:d≤x
 high:x≤d+D*L.length
 all:∀i<L.length,d≤gi L i∧gi L i<x
 rise:∀i,i+1<L.length→gi L i<gi L (i+1)
theorem Grow.start(d D:Int):Grow d D [] d:=⟨aj,bV,fun i h=>by simp at h,fun i h=>by simp at h⟩
theorem Grow.snoc{d D x y:Int}{L:List Int}(h:Grow d D L x)(h1:x<y)(h2:y≤x+D):Grow d D (L++[x]) y:=by
 obtain ⟨g1,g2,g3,g4⟩:=h
 refine ⟨aj,?_,fun i hi=>?_,fun i hi=>?_⟩
 ·rw [List.length_append,List.length_singleton,Int.natCast_add,Int.mul_add];omega
 ·rw [List.length_append,List.length_singleton] at hi
  rw [wq]
  split
  ·have:=g3 i cD;omega
  ·rw [if_pos aj];omega
 ·rw [List.length_append,List.length_singleton] at hi
  rw [wq,wq,if_pos aj]
  split
  ·exact g4 i cD
  ·rw [if_pos aj];exact (g3 i aj).2
theorem Grow.plc{d D x most:Int}{many:Nat}{L:List Int}(h:Grow d D L x)(hd:0≤d)(h2:2≤L.length)(hm:L.length≤many)(hx:d+D*L.length≤most):eX many most L:=
 ⟨h2,hm,by have:=(h.all 0 aj).1;omega,by have:=(h.all (L.length - 1) aj).2;have:=h.high;omega,h.rise⟩
structure FK(s:Spc):Prop where
 ok:fX s
 st:s.st.length≤4
 wa:s.wa.length≤3
set_option maxHeartbeats 1000000 in
theorem po{v:Value}{l:List Int}(hs:St H w σ)(hr:RI H v l):
  Cl Tryz.prog 35 [v] w fun u w'=>∃s vst vwa e1 e2,u= .agg #[I s.id,I s.src,vst,vwa,I s.al,I s.up]∧FK s∧cn 1 vst (Is s.st) e1∧cn 1 vwa (Is s.wa) e2∧St H w' (e1::e2::σ):=by
 obtain ⟨av,cv,rfl⟩:=RI.shape hr
 refine Cl.o Tryz.func35 Tryz.ntmps35 ag1 ?_
 refine .ai ?_
 refine .o (.alloc hs jx rfl fun b2 w hs=>?_)
 refine .nil (.ai (.z zm ?_))
 refine .o (.call gw rfl (dk hs hr aj aj) ?_);rintro _ w ⟨k11,g11,rfl,hs⟩
 refine .z cq (.z zm ?_)
 refine .o (.call gw rfl (dk hs hr aj aj) ?_);rintro _ w ⟨k14,g14,rfl,hs⟩
 refine .z cq (.z (zbd [_,_,_,_,_,_] qN) ?_)
 refine .o (.alloc hs jx rfl fun b3 w hs=>?_)
 refine .o (.aU (vs:=[_,_,_,_,_,_]) hs rfl rfl aI fun w hs=>?_)
 refine .nil (.ai (.z zm ?_))
 refine .o (.call gw rfl (dk hs hr aj aj) ?_);rintro _ w ⟨k18,g18,rfl,hs⟩
 refine .z cq (.z ka (.z zg (.nil (.ai (.z zg (.nil (.seq (.ai (.z zg ?_)))))))))
 refine .nil (.block ?_)
 refine .loop (fun p:List Int×Int×Value=>⟨90,[],[(6,I (p.1.length:Int)),(5,I p.2.1),(4,I (100*(1+(k18:Int)))),(0,.slice av l.length cv),(3,.pointer (some ⟨b3,0,none⟩)),(2,.pointer (some ⟨b2,0,none⟩))]⟩)
  (fun p w=>p.1.length≤4∧Grow 0 2707 p.1 p.2.1∧∃en,cn 1 p.2.2 (Is p.1) en∧St H w (en:: .blk b3 [I (1+(k11:Int)),I (1+(k14:Int)),p.2.2,.slice none 0 0,I 0,I 0]:: .blk b2 [I 0,I 0,.slice none 0 0,.slice none 0 0,I 0,I 0]::σ)) (fun p=>4 - p.1.length) ([],0,.slice none 0 0) aR
  ⟨bV,.start _ _,_,.nil 1 none,hs.nul⟩ ?_
 clear hs
 rintro ⟨L,x,vo⟩ w ⟨hL4,hG,en,hO,hs⟩
 dsimp only at hL4 hG hO hs ⊢
 obtain ⟨ao,lo,co,rfl,-⟩:=hO.shape
 have hx0:=hG.low
 have hx1:=hG.high
 refine .seq (.ai (.z zm (.z zm ?_)))
 refine .o (.call gw rfl (dk hs hr aj aj) ?_);rintro _ w ⟨k23,g23,rfl,hs⟩
 refine .z cq (.z gx (.nil ?_))
 refine (.bM rfl (fun hc25=>?_) (fun hc25=>?_))
 ·refine .skip ?_
  refine nT ?_
  refine .seq (.block (.ai (.z (zfa bA) (.y hs (zld ak) (.z zm ?_)))))
  refine .o (.buildSlice (cells:=[_]) hs dv rfl rfl fun b31 w hs=>?_)
  refine .o (.append (ys:=Is [x]) hs cV rfl rfl hO (.own .here rfl rfl) (jK _) (fun l' h=>by simp at h;omega) ?_);intro v32 en32 w hO2 hs
  rw [←List.map_append] at hO2
  obtain ⟨a32,l32,c32,rfl,-⟩:=hO2.shape
  refine .z (zfa bA) ?_
  refine .o (.store hs rfl rfl aC fun w hs=>?_)
  refine .nil (.region (.z zm (.z zm (.z zm (.z zm (.z cq ?_))))))
  refine .o (.call gw rfl (dk hs hr aj aj) ?_);rintro _ w ⟨k39,g39,rfl,hs⟩
  have m41:=lh (a:=100*(1+(k18:Int))) (b:=1+(k39:Int)) (A:=900) (B:=3) aj aj
  have m41':100≤100*(1+(k18:Int))*(1+(k39:Int)):=by
   have:=Int.mul_le_mul (a:=100) (c:=100*(1+(k18:Int))) (b:=1) (d:=1+(k39:Int)) aj aj aj aj
   omega
  refine .z cq (.z ka (.z cq (.z zm ?_)))
  refine .o (.call gw rfl (dk hs hr aj aj) ?_);rintro _ w ⟨k44,g44,rfl,hs⟩
  refine .z zm (.z zm (.z cq ?_))
  refine .o (.call gw rfl (dk hs hr aj aj) ?_);rintro _ w ⟨k48,g48,rfl,hs⟩
  have m49:0≤(k44:Int)*(k48:Int)∧(k44:Int)*(k48:Int)≤1:=by
   have e1:k44=0∨k44=1:=by omega
   rcases e1 with rfl|rfl<;>simp<;>omega
  refine .z ka (.z ka (.z cq (.z zg (.nil ?_))))
  refine nB (nT ?_)
  refine .region (.z zm (.z cq (.z zg (.nil ?_))))
  refine nT ?_
  exact ⟨(L++[x],_,.slice a32 l32 c32),.cj rfl bV aR,⟨by simp;omega,hG.snoc (by dsimp only;omega) (by dsimp only;omega),_,hO2,hs.sb⟩,by simp;omega⟩
 ·refine .exit ?_
  refine xT (xT (xB (nT ?_)))
  refine .ai (.z zm ?_)
  have hL2:2≤L.length:=by omega
  refine .o (.call gw rfl (dk hs hr aj aj) ?_);rintro _ w ⟨k53,g53,rfl,hs⟩
  refine .z cq (.z ka (.z zg (.nil (.ai (.z zm ?_)))))
  refine .o (.call gw rfl (dk hs hr aj aj) ?_);rintro _ w ⟨k57,g57,rfl,hs⟩
  refine .z ka (.z zg (.nil (.seq (.ai (.z zg (.nil (.block ?_)))))))
  refine .loop (fun p:List Int×Int×Value=>⟨90,[],[(9,I (p.1.length:Int)),(8,I p.2.1),(7,I (50*(1+(k53:Int)))),(0,.slice av l.length cv),(3,.pointer (some ⟨b3,0,none⟩)),(2,.pointer (some ⟨b2,0,none⟩))]⟩)
   (fun p w=>p.1.length≤3∧Grow (10*(k57:Int)) 1350 p.1 p.2.1∧∃en2,cn 1 p.2.2 (Is p.1) en2∧St H w (en2:: .blk b3 [I (1+(k11:Int)),I (1+(k14:Int)),.slice ao lo co,p.2.2,I 0,I 0]:: .blk b2 [I 0,I 0,.slice none 0 0,.slice none 0 0,I 0,I 0]::en::σ)) (fun p=>3 - p.1.length) ([],10*(k57:Int),.slice none 0 0) aR
   ⟨bV,.start _ _,_,.nil 1 none,(hs.sb).nul⟩ ?_
  clear hs
  rintro ⟨L2,y,vo2⟩ w ⟨hM4,hG2,en2,hO2,hs⟩
  dsimp only at hM4 hG2 hO2 hs ⊢
  obtain ⟨ap,lp,cp,rfl,-⟩:=hO2.shape
  have hy0:=hG2.low
  have hy1:=hG2.high
  refine .seq (.ai (.z zm (.z zm ?_)))
  refine .o (.call gw rfl (dk hs hr aj aj) ?_);rintro _ w ⟨k61,g61,rfl,hs⟩
  refine .z cq (.z gx (.nil ?_))
  refine (.bM rfl (fun hc63=>?_) (fun hc63=>?_))
  ·refine .skip ?_
   refine nT ?_
   refine .seq (.block (.ai (.z (zfa bj) (.y hs (zld ak) (.z zm ?_)))))
   refine .o (.buildSlice (cells:=[_]) hs dv rfl rfl fun b69 w hs=>?_)
   refine .o (.append (ys:=Is [y]) hs cV rfl rfl hO2 (.own .here rfl rfl) (jK _) (fun l' h=>by simp at h;omega) ?_);intro v70 en70 w hO3 hs
   rw [←List.map_append] at hO3
   obtain ⟨a70,l70,c70,rfl,-⟩:=hO3.shape
   refine .z (zfa bj) ?_
   refine .o (.store hs rfl rfl aC fun w hs=>?_)
   refine .nil (.region (.z zm (.z zm (.z zm (.z zm (.z cq ?_))))))
   refine .o (.call gw rfl (dk hs hr aj aj) ?_);rintro _ w ⟨k77,g77,rfl,hs⟩
   have m79:=lh (a:=50*(1+(k53:Int))) (b:=1+(k77:Int)) (A:=450) (B:=3) aj aj
   have m79':50≤50*(1+(k53:Int))*(1+(k77:Int)):=by
    have:=Int.mul_le_mul (a:=50) (c:=50*(1+(k53:Int))) (b:=1) (d:=1+(k77:Int)) aj aj aj aj
    omega
   refine .z cq (.z ka (.z cq (.z zg (.nil ?_))))
   refine nB (nT ?_)
   refine .region (.z zm (.z cq (.z zg (.nil ?_))))
   refine nT ?_
   exact ⟨(L2++[y],_,.slice a70 l70 c70),.cj rfl bV aR,⟨by simp;omega,hG2.snoc (by dsimp only;omega) (by dsimp only;omega),_,hO3,hs.sb⟩,by simp;omega⟩
  ·refine .exit ?_
   refine xT (xT (xB (nT ?_)))
   refine .ai (.z zm ?_)
   refine .o (.call gw rfl (dk hs hr aj aj) ?_);rintro _ w ⟨k83,g83,rfl,hs⟩
   refine .z ka (.z zm ?_)
   refine .o (.call gw rfl (dk hs hr aj aj) ?_);rintro _ w ⟨k86,g86,rfl,hs⟩
   refine .z ka (.z (zbd [_,_] sa) (.z (zfa ed) ?_))
   refine .o (.aU (vs:=[_,_]) hs rfl rfl Tryz.sizeOf32 fun w hs=>?_)
   refine .nil (.ai (.y hs (zls [_,_,_,_,_,_] aQ aI) ?_))
   refine .o (.aU (vs:=[_,_,_,_,_,_]) hs rfl rfl aI fun w hs=>?_)
   refine .nil ?_
   refine .ret ?_
   exact Fin.iK [] [] hs fun w hs=>⟨_,results1 Tryz.results35 (dJ (vs:=[_,_,_,_,_,_]) hs rfl aQ aI),⟨1+(k11:Int),1+(k14:Int),L,L2,100*(k83:Int),100*(k86:Int)⟩,.slice ao lo co,.slice ap lp cp,en,en2,rfl,
    ⟨⟨hG.plc aj hL2 aj aj,hG2.plc aj aj aj aj,by dsimp only;omega,by dsimp only;omega,by dsimp only;omega,by dsimp only;omega⟩,hL4,hM4⟩,hO,hO2,hs.sb⟩
instance (s:Spc) (r:Rdg):Decidable (jJ s r):=
 decidable_of_iff ((1≤r.src∧r.src≤99999)∧(0≤r.st∧r.st≤(s.st.length:Int) - 1)∧(0≤r.wa∧r.wa≤(s.wa.length:Int) - 1)∧(0≤r.tol∧r.tol≤1000)∧(0≤r.val∧r.val≤20000 - r.tol)∧(1≤r.tape∧r.tape≤99)∧(0≤r.day∧r.day≤100000))
  ⟨fun ⟨a,b,c,d,e,f,g⟩=>⟨a,b,c,d,e,f,g⟩,fun ⟨a,b,c,d,e,f,g⟩=>⟨a,b,c,d,e,f,g⟩⟩
def iA(s:Spc)(rs:List Rdg):List Rdg:=rs.filter fun r=>decide (jJ s r)
theorem Ag(s:Spc){rs:List Rdg}{k:Nat}{r:Rdg}(h:rs[k]? =some r):iA s (rs.take (k+1))=if jJ s r then iA s (rs.take k)++[r] else iA s (rs.take k):=by
 unfold iA
 rw [ep h,List.filter_append]
 by_cases e:jJ s r
 ·simp [e]
 ·simp [e]
theorem tK(s:Spc)(rs:List Rdg):(iA s rs).length≤rs.length:=List.length_filter_le _ _
theorem xq{s:Spc}{rs:List Rdg}{r:Rdg}(h:r∈iA s rs):r∈rs∧jJ s r:=by
 unfold iA at h;simpa using List.mem_filter.1 h
theorem CY{s:Spc}{rs:List Rdg}{t:TD}(h:t∈bn (iA s rs)):t∈bn rs:=by
 obtain ⟨r,h1,h2⟩:=gG.1 h
 exact gG.2 ⟨r,(xq h1).1,h2⟩
def nQ(v:Srv)(x:List Int)(t:TD):Int:=gi x (v.sp.many+1+(ja v.bP t).toNat)
def Fv(v:Srv)(x:List Int):List Int:=x.take (v.sp.many+1)++(bn (iA v.sp v.rs)).map (nQ v x)
set_option maxHeartbeats 1000000 in
theorem tp{vr:Value}{rs:List Rdg}(hs:St H w σ)(hr:RRd H vr rs)(hl:rs.length≤1000000):
  Cl Tryz.prog 94 [vr] w fun u w'=>∃en,cn 2 u (tdc (bn rs)).flatten en∧St H w' (en::σ):=by
 obtain ⟨ar,cr,rfl⟩:=RRd.shape hr
 refine Cl.o Tryz.func94 Tryz.ntmps94 ag1 ?_
 refine .ai (.z zg (.nil (.ai (.z zg (.nil (.seq (.ai (.z zg (.nil ?_)))))))))
 refine .block ?_
 refine .loop (fun p:Nat×Value=>⟨32,[],[(4,I (p.1:Int)),(3,p.2),(0,.slice ar rs.length cr)]⟩)
  (fun p w=>p.1≤rs.length∧∃en,cn 2 p.2 (tdc (bn (rs.take p.1))).flatten en∧St H w (en::σ)) (fun p=>rs.length - p.1) (0,.slice none 0 0) aR
  ⟨Nat.zero_le _,_,.nil 2 none,hs.nul⟩ ?_
 rintro ⟨k,vo⟩ w ⟨hk,en,hO,hs⟩
 dsimp only at hk hO ⊢
 have htl:=kH rs k aj
 obtain ⟨ao,co,rfl⟩:=hO.iD (lC _) aj
 rw [dA] at hO ⊢
 refine .seq (.ai (.z zm (.z zm (.z (c9 az) (.z gx (.nil ?_))))))
 refine (.bM rfl (fun hc9=>?_) (fun hc9=>?_))
 ·refine .skip ?_
  refine nT ?_
  refine .seq (.block ?_)
  refine .seq (.draw mix rfl hs fun w hs=>?_)
  refine .z 0 rfl zm ?_;refine .z 1 rfl zm ?_
  obtain ⟨r,hx⟩:=nth (l:=rs) (k:=k) aj
  have htk:=jO hx
  refine .ixX (enc:=Rdg.c) (i:=2) hs rfl an .none hr rfl rfl az aH hx dy ?_;intro b14 o14 hc14
  have d14:cellAt H b14 (o14+5)=some (I r.tape):=hc14 5 _ rfl
  refine .z 3 rfl (zfa eF) ?_;refine .y 4 rfl hs ae ?_;refine .z 5 rfl zm ?_;refine .z 6 rfl zm ?_
  refine .ixX (enc:=Rdg.c) (i:=7) hs rfl an .none hr rfl rfl az aH hx dy ?_;intro b19 o19 hc19
  have d19:cellAt H b19 (o19+6)=some (I r.day):=hc19 6 _ rfl
  refine .z 8 rfl (zfa eE) ?_;refine .y 9 rfl hs ae ?_;refine .z 10 rfl (zbd [_,_] gv) ?_
  refine .E 11 hs ?_
  refine .alloc hs lI rfl ?_;intro b5 w hs
  refine .go ?_
  refine .E 12 hs ?_
  refine .aU (vs:=[_,_]) hs rfl rfl bE ?_;intro w hs
  refine .go ?_
  refine .D hs ?_
  refine .ai (.z zm (.y hs (zls [_,_] dO bE) ?_))
  refine .o (.call Tryz.call93 rfl (nv (t:=r.td) (hs.sb:St H w (en:: .blk b5 [I r.tape,I r.day]::σ)) hO aj) ?_);rintro _ w ⟨rfl,hs⟩
  have hnn:=kY (l:=bn (rs.take k)) (t:=r.td)
  refine .z gx (.nil ?_)
  refine (.bM rfl (fun hc26=>?_) (fun hc26=>?_))
  ·refine .region (.z zm (.y hs (zls [_,_] dO bE) ?_))
   refine .o (.buildSlice (cells:=[_,_]) hs fZ rfl rfl fun b29 w hs=>?_)
   refine .o (.append (ys:=r.td.c) hs dV rfl rfl hO (.own .here rfl rfl) (by simp [TD.c,Value.oneCell']) (fun l h=>by rw [bT _ (lC _),dA] at h;omega) ?_);intro v30 en30 w hO2 hs
   refine .z zg (.nil ?_)
   refine nB (nT ?_)
   refine .region (.z zm (.z cq (.z zg (.nil ?_))))
   refine nT ?_
   have hn:r.td∉bn (rs.take k):=fun hm=>by have:=hnn.2 hm;omega
   rw [←sJ,show bn (rs.take k)++[r.td]=bn (rs.take (k+1)) by rw [htk];unfold qQ;rw [if_neg hn]] at hO2
   exact ⟨(k+1,v30),.cj rfl bV aR,⟨by dsimp only;omega,_,hO2,hs.sb⟩,by dsimp only;omega⟩
  ·refine .skip ?_
   refine nB (nT ?_)
   refine .region (.z zm (.z cq (.z zg (.nil ?_))))
   refine nT ?_
   have hm:r.td∈bn (rs.take k):=hnn.1 aj
   exact ⟨(k+1,_),.cj rfl bV aR,⟨by dsimp only;omega,en,by dsimp only;rw [htk];unfold qQ;rw [if_pos hm];exact hO,hs.sb⟩,by dsimp only;omega⟩
 ·refine .exit ?_
  refine xT (xT (xB (nT ?_)))
  refine .ai (.z zm (.z zg (.nil ?_)))
  refine .ret (Fin.bJ Tryz.results94 rfl ?_)
  obtain rfl:k=rs.length:=by omega
  rw [List.take_length] at hO
  exact ⟨en,by rw [List.take_length];exact hO,hs⟩
set_option maxHeartbeats 2000000 in
theorem qa{s:Srv}{x:List Int}{vst vwa vr vc vx:Value}(hs:St H w σ)(h1:RI H vst s.sp.st)(h2:RI H vwa s.sp.wa)(h3:RRd H vr s.rs)(hc:∃a l c,vc= .slice a l c)(hx:RI H vx x)(hxl:x.length=s.sys.n)(hb:s.sp.st.length≤1000∧s.sp.wa.length≤1000∧s.rs.length≤1000):
  Cl Tryz.prog 144 [.agg #[I s.sp.id,I s.sp.src,vst,vwa,I s.sp.al,I s.sp.up,vr,vc],vx] w fun u w'=>∃H1 vr' vy e1 e2,HLe H H1∧u= .tuple #[.agg #[I s.sp.id,I s.sp.src,vst,vwa,I s.sp.al,I s.sp.up,vr',vc],vy]∧cn 7 vr' (rdc (iA s.sp s.rs)).flatten e1∧cn 1 vy (Is (Fv s x)) e2∧St H1 w' (e1::e2::σ):=by
 obtain ⟨ast,cst,rfl⟩:=RI.shape h1
 obtain ⟨awa,cwa,rfl⟩:=RI.shape h2
 obtain ⟨ar,cr,rfl⟩:=RRd.shape h3
 obtain ⟨ac,lc,cc,rfl⟩:=hc
 obtain ⟨ax,cx,rfl⟩:=RI.shape hx
 have hm:s.sp.many≤1000000:=Nat.mul_le_mul hb.1 hb.2.1
 have hn:=tj s
 have htl:=dq s.rs
 refine Cl.o Tryz.func144 Tryz.ntmps144 ag2 ?_
 refine .ai ?_
 refine .bx hs fun b2 w hs=>?_
 refine .o (.alloc hs eI rfl fun b4 w hs=>?_)
 refine .z zg (.nil (.ai (.z (zfa aN) (.y hs (zld bu) ?_))))
 refine .o (.call Dm rfl (gJ (rs:=s.rs) hs h3 aj) ?_);rintro v15 w ⟨H1,hle1,hT,hs⟩
 obtain ⟨at',ct,rfl⟩:=RTd.shape hT
 refine .z zg (.nil (.ai (.z (zfa aS) (.y hs (zls [_,_,_,_,_,_] aQ aI) ?_))))
 refine .o (.call Dl rfl (fa (s:=s.sp) hs (h1.mono hle1) (h2.mono hle1) ⟨hb.1,hb.2.1⟩) ?_);rintro _ w ⟨rfl,hs⟩
 refine .z zg (.nil (.ai (.y hs (zls [_,_,_,_,_,_,_,_] aO aF) ?_)))
 refine .o (.alloc hs eI rfl fun b8 w hs=>?_)
 refine .o (.aU (vs:=[_,_,_,_,_,_,_,_]) hs rfl rfl aF fun w hs=>?_)
 refine .nil (.ai (.z (zfa aN) ?_))
 refine .o (.store hs rfl rfl mE fun w hs=>?_)
 refine .nil (.seq (.ai (.z zg (.nil (.block ?_)))))
 refine .loop (fun p:Nat×Value=>⟨78,[],[(9,I (p.1:Int)),(8,.pointer (some ⟨b8,0,none⟩)),(7,I (s.sp.many:Int)),(6,.slice at' (bn s.rs).length ct),(4,.pointer (some ⟨b4,0,none⟩)),(2,.pointer (some ⟨b2,0,none⟩)),(1,.slice ax x.length cx)]⟩)
  (fun p w=>p.1≤s.rs.length∧∃en,cn 7 p.2 (rdc (iA s.sp (s.rs.take p.1))).flatten en∧St H1 w (en:: .blk b8 [I s.sp.id,I s.sp.src,.slice ast s.sp.st.length cst,.slice awa s.sp.wa.length cwa,I s.sp.al,I s.sp.up,p.2,.slice ac lc cc]:: .blk b4 [I 0,I 0,.slice none 0 0,.slice none 0 0,I 0,I 0,.slice none 0 0,.slice none 0 0]:: .blk b2 [I s.sp.id,I s.sp.src,.slice ast s.sp.st.length cst,.slice awa s.sp.wa.length cwa,I s.sp.al,I s.sp.up,.slice ar s.rs.length cr,.slice ac lc cc]::σ)) (fun p=>s.rs.length - p.1) (0,.slice none 0 0) aR
  ⟨Nat.zero_le _,_,.nil 7 none,hs.nul⟩ ?_
 clear hs
 rintro ⟨k,vo⟩ w ⟨hk,en,hO,hs⟩
 dsimp only at hk hO hs ⊢
 have hkl:=tK s.sp (s.rs.take k)
 rw [List.length_take] at hkl
 obtain ⟨ao,lo,co,rfl,-⟩:=hO.shape
 refine .seq (.ai (.z zm (.z (zfa aN) (.y hs (zld bu) (.z (c9 az) (.z gx (.nil ?_)))))))
 refine (.bM rfl (fun hc25=>?_) (fun hc25=>?_))
 ·refine .skip ?_
  refine nT ?_
  refine .seq (.block ?_)
  refine .seq (.draw mix rfl hs fun w hs=>?_)
  refine .z 0 rfl (zfa aS) ?_;refine .ys 1 rfl hs [_,_,_,_,_,_] aQ aI ?_;refine .z 2 rfl (zfa aN) ?_;refine .y 3 rfl hs bu ?_;refine .z 4 rfl zm ?_
  obtain ⟨r,hr⟩:=nth (l:=s.rs) (k:=k) aj
  have hsn:=Ag s.sp hr
  refine .ixX (enc:=Rdg.c) (i:=5) hs rfl an .none (h3.mono hle1) rfl rfl az aH hr dy ?_;intro b33 o33 hc33
  refine .r (i:=6) hs rfl an .none (cI (vs:=r.c) rfl dN aH hc33) ?_
  refine .E 7 hs ?_
  refine .call Tryz.call109 rfl (jc (s:=s.sp) (r:=r) hs (h1.mono hle1) (h2.mono hle1)) ?_;rintro _ w ⟨b35,rfl,hb35,hs⟩
  refine .go ?_
  refine .D hs ?_
  refine (.cond rfl (fun hc35=>?_) (fun hc35=>?_))
  ·refine .draw mix rfl hs fun w hs=>?_
   refine .z 0 rfl (zfa aN) ?_;refine .y 1 rfl hs bu ?_;refine .z 2 rfl (zfa aN) ?_;refine .y 3 rfl hs bu ?_;refine .z 4 rfl zm ?_
   refine .ixX (enc:=Rdg.c) (i:=5) hs rfl an .none (h3.mono hle1) rfl rfl az aH hr dy ?_;intro b41 o41 hc41
   refine .r (i:=6) hs rfl an .none (cI (vs:=r.c) rfl dN aH hc41) ?_
   refine .E 7 hs ?_
   refine .buildSlice (cells:=r.c) hs fl rfl an ?_;intro b43 w hs
   refine .go ?_
   refine .E 8 hs ?_
   refine .append (ys:=r.c) hs cQ rfl rfl hO (.own .here rfl rfl) (by simp [Rdg.c,Value.oneCell']) (fun l' h=>by rw [bT _ (iY _),dn] at h;omega) ?_;intro v44 en44 w hO2 hs
   rw [←qe,show iA s.sp (s.rs.take k)++[r]=iA s.sp (s.rs.take (k+1)) by rw [hsn,if_pos (hb35.1 (by simpa using hc35))]] at hO2
   obtain ⟨a44,l44,c44,rfl,-⟩:=hO2.shape
   refine .go ?_
   refine .z 9 rfl (zfa aN) ?_
   refine .E 10 hs ?_
   refine .store hs rfl rfl mE ?_;intro w hs
   refine .go ?_
   refine .D hs ?_
   refine nB (nT ?_)
   refine .region (.z zm (.z cq (.z zg (.nil ?_))))
   refine nT ?_
   exact ⟨(k+1,.slice a44 l44 c44),.cj rfl bV aR,⟨by dsimp only;omega,_,hO2,hs.sb⟩,by dsimp only;omega⟩
  ·refine .skip ?_
   refine nB (nT ?_)
   refine .region (.z zm (.z cq (.z zg (.nil ?_))))
   refine nT ?_
   exact ⟨(k+1,.slice ao lo co),.cj rfl bV aR,⟨by dsimp only;omega,en,by dsimp only;rw [hsn,if_neg (fun h=>by rw [hb35.2 h] at hc35;cases hc35)];exact hO,hs.sb⟩,by dsimp only;omega⟩
 ·refine .exit ?_
  refine xT (xT (xB (nT ?_)))
  refine .ai ?_
  obtain rfl:k=s.rs.length:=by omega
  rw [List.take_length] at hO
  refine .o (.buildSlice (cells:=[]) hs nV rfl rfl fun b46 w hs=>?_)
  refine .z zm (.z zm (.z cq ?_))
  refine .q hs (lY (k:=s.sp.many+1) rfl rfl aa af rfl (by have:=(RS.len hx).2.1;omega)) ?_
  refine .o (.append (xs:=[]) (ys:=Is (x.take (s.sp.many+1))) hs cV rfl rfl (.full (len:=0) rfl) (.ints (RI.head (hx.mono hle1) (k:=s.sp.many+1) aj)) (jK _) (fun l h=>by simp at h;rw [List.length_take];omega) ?_);intro v51 en51 w hO3 hs
  rw [List.nil_append] at hO3
  refine .z zg (.nil (.ai (.z (zfa aN) (.y hs (zld bu) ?_))))
  have hkl:=tK s.sp s.rs
  obtain ⟨H2,hle2,hRR,hs2,back⟩:=hO.zb (iY _) aj (by rw [dn];omega) (hs.sb:St H1 w (en::en51:: .blk b8 [I s.sp.id,I s.sp.src,.slice ast s.sp.st.length cst,.slice awa s.sp.wa.length cwa,I s.sp.al,I s.sp.up,.slice ao lo co,.slice ac lc cc]:: .blk b4 [I 0,I 0,.slice none 0 0,.slice none 0 0,I 0,I 0,.slice none 0 0,.slice none 0 0]:: .blk b2 [I s.sp.id,I s.sp.src,.slice ast s.sp.st.length cst,.slice awa s.sp.wa.length cwa,I s.sp.al,I s.sp.up,.slice ar s.rs.length cr,.slice ac lc cc]::σ))
  refine .o (.call Dm rfl (tp (rs:=iA s.sp s.rs) hs2 hRR aj) ?_);rintro v54 w ⟨enT,hOT,hsT⟩
  have hs:=back (HLe.refl _) hsT
  have htl':=dq (iA s.sp s.rs)
  obtain ⟨H3,hle3,hT3,hs⟩:=cn.cK (m:=2) (cs:=tdc (bn (iA s.sp s.rs))) hOT (lC _) aj (by rw [dA];omega) hs (.there .here)
  have hT3:RTd H3 v54 (bn (iA s.sp s.rs)):=hT3
  obtain ⟨a54,c54,rfl⟩:=RTd.shape hT3
  refine .z zg (.nil (.seq (.ai (.z zg (.nil (.block ?_))))))
  refine .loop (fun p:Nat×Value=>⟨78,[],[(12,I (p.1:Int)),(10,p.2),(11,.slice a54 (bn (iA s.sp s.rs)).length c54),(8,.pointer (some ⟨b8,0,none⟩)),(7,I (s.sp.many:Int)),(6,.slice at' (bn s.rs).length ct),(4,.pointer (some ⟨b4,0,none⟩)),(1,.slice ax x.length cx)]⟩)
   (fun p w=>p.1≤(bn (iA s.sp s.rs)).length∧∃en2,cn 1 p.2 (Is (x.take (s.sp.many+1)++((bn (iA s.sp s.rs)).take p.1).map (nQ s x))) en2∧St H3 w (en2:: .blk b8 [I s.sp.id,I s.sp.src,.slice ast s.sp.st.length cst,.slice awa s.sp.wa.length cwa,I s.sp.al,I s.sp.up,.slice ao lo co,.slice ac lc cc]:: .blk b4 [I 0,I 0,.slice none 0 0,.slice none 0 0,I 0,I 0,.slice none 0 0,.slice none 0 0]::en::σ)) (fun p=>(bn (iA s.sp s.rs)).length - p.1) (0,v51) aR
   ⟨Nat.zero_le _,en51,by simpa using hO3,hs.sb⟩ ?_
  clear hs
  rintro ⟨j,vy⟩ w ⟨hj,en2,hO4,hs⟩
  dsimp only at hj hO4 hs ⊢
  obtain ⟨ay,ly,cy,rfl,-⟩:=hO4.shape
  refine .seq (.ai (.z zm (.z zm (.z (c9 bg) (.z gx (.nil ?_))))))
  refine (.bM rfl (fun hc58=>?_) (fun hc58=>?_))
  ·refine .skip ?_
   refine nT ?_
   refine .seq (.block (.region (.z zm (.z zm (.z zm (.z cq (.z zm (.z zm (.z zm ?_)))))))))
   obtain ⟨t,ht⟩:=nth (l:=bn (iA s.sp s.rs)) (k:=j) aj
   have htm:t∈s.bP:=CY (List.mem_of_getElem? ht)
   obtain ⟨q,q1,q2,q3⟩:=gg htm
   have q3':q<(bn s.rs).length:=q3
   have q1':ja (bn s.rs) t=(q:Int):=q1
   have hnt:s.sys.n=s.sp.many+(bn s.rs).length+1:=hn
   have herr:nQ s x t=gi x (s.sp.many+1+q):=by unfold nQ;rw [q1,Int.toNat_natCast]
   refine .ixX (enc:=TD.c) hs hT3 rfl rfl bg bE ht dy ?_;intro b68 o68 hc68
   refine .q hs (cI (vs:=t.c) rfl dO bE hc68) ?_
   refine .o (.call Tryz.call93 rfl (kc (t:=t) hs (hT.mono hle3) aj) ?_);rintro _ w ⟨rfl,hs⟩
   rw [q1']
   refine .z cq ?_
   refine .ixY hs (hx.mono (hle1.trans hle3)) rfl rfl aa af (bL (l:=x) (i:=s.sp.many+1+q) aj) aj ?_;intro b72 o72 hc72
   refine .q hs (aK rfl ae hc72) ?_
   refine .o (.buildSlice (cells:=[_]) hs dv rfl rfl fun b74 w hs=>?_)
   refine .o (.append (ys:=Is [gi x (s.sp.many+1+q)]) hs cV rfl rfl hO4 (.own .here rfl rfl) (jK _) (fun l' h=>by simp at h;omega) ?_);intro v75 en75 w hO5 hs
   rw [←List.map_append,List.append_assoc,←herr,show ((bn (iA s.sp s.rs)).take j).map (nQ s x)++[nQ s x t]=((bn (iA s.sp s.rs)).take (j+1)).map (nQ s x) by rw [ep ht];simp] at hO5
   obtain ⟨a75,l75,c75,rfl,-⟩:=hO5.shape
   refine .z zg (.nil ?_)
   refine nB (nT ?_)
   refine .region (.z zm (.z cq (.z zg (.nil ?_))))
   refine nT ?_
   exact ⟨(j+1,.slice a75 l75 c75),.cj rfl bV aR,⟨by dsimp only;omega,_,hO5,hs.sb⟩,by dsimp only;omega⟩
  ·refine .exit ?_
   refine xT (xT (xB (nT ?_)))
   refine .ai (.y hs (zls [_,_,_,_,_,_,_,_] aO aF) (.z zm ?_))
   refine .o (.aU (vs:=[_,_,_,_,_,_,_,_]) hs rfl rfl aF fun w hs=>?_)
   refine .z zg (.nil ?_)
   refine .ret ?_
   obtain rfl:j=(bn (iA s.sp s.rs)).length:=by omega
   rw [List.take_length] at hO4
   exact Fin.iK [] [] hs fun w hs=>⟨_,results2 Tryz.results144 (dJ (vs:=[_,_,_,_,_,_,_,_]) hs rfl aO aF) rfl,H3,_,_,en,en2,hle1.trans hle3,rfl,hO,hO4,hs.sb⟩
theorem Af{s:Spc}{rs R:List Rdg}{cs:List Cmp}{x:List Int}(hf:iC (Srv.oG ⟨s,rs,cs⟩).dh (gi x))(hx0:gi x 0=0)(hxl:x.length=s.many+(bn rs).length+1)(ht:bn R=bn rs)(hS:∀r∈R,RdS s r)(hR:∀r∈R,BP s (bn rs) x r):
  BR ⟨s,iA s R,cs⟩ (Fv ⟨s,R,cs⟩ x):=by
 have hl:(x.take (s.many+1)).length=s.many+1:=by rw [List.length_take];omega
 refine Be (R:=R) (x:=x) List.filter_sublist hS hx0 (Bp hf ht hR) ?_ (fun b hb=>?_) fun j hj=>?_
 ·show (x.take (s.many+1)++(bn (iA s R)).map (nQ ⟨s,R,cs⟩ x)).length=_
  rw [List.length_append,hl,List.length_map]
 ·show gi (x.take (s.many+1)++(bn (iA s R)).map (nQ ⟨s,R,cs⟩ x)) b=_
  unfold gi
  simp only [List.getD]
  rw [List.getElem?_append_left aj,List.getElem?_take_of_lt aj]
 ·show gi (x.take (s.many+1)++(bn (iA s R)).map (nQ ⟨s,R,cs⟩ x)) (s.many+1+j)=_
  have e:∀t,(bn (iA s R))[j]? =some t→gi (x.take (s.many+1)++(bn (iA s R)).map (nQ ⟨s,R,cs⟩ x)) (s.many+1+j)=nQ ⟨s,R,cs⟩ x t:=fun t ht=>by
   unfold gi
   simp only [List.getD]
   rw [List.getElem?_append_right aj,hl,show s.many+1+j - (s.many+1)=j by omega,List.getElem?_map,ht]
   rfl
  rw [e _ (D1 hj)];rfl
set_option maxHeartbeats 2000000 in
theorem uz{vs v5 v4 vp:Value}{sl pk:List Int}{fs5:List F5}{fs4:List F4}{z1 z2 z3:Int}(hs:St H w σ)(g1:RI H vs sl)(g2:RF5 H v5 fs5)(g3:RF4 H v4 fs4)(g4:RI H vp pk):
  Cl Tryz.prog 60 [.agg #[vs,v5,v4,vp,I z1,I z2,I z3]] w fun u w'=>∃H1 s y vst vwa vr vc vy e1 e2 e3 e4 e5,HLe H H1∧u= .tuple #[.agg #[I s.sp.id,I s.sp.src,vst,vwa,I s.sp.al,I s.sp.up,vr,vc],vy]∧Gu s∧DL s vst vwa vr vc e1 e2 e3 e4∧cn 1 vy (Is y) e5∧BR s y∧St H1 w' (e1::e2::e3::e4::e5::σ):=by
 obtain ⟨avs,cvs,rfl⟩:=RI.shape g1
 obtain ⟨av5,cv5,rfl⟩:=g2.shape
 obtain ⟨av4,cv4,rfl⟩:=g3.shape
 obtain ⟨avp,cvp,rfl⟩:=RI.shape g4
 refine Cl.o Tryz.func60 Tryz.ntmps60 ag1 ?_
 refine .ai ?_
 refine .bx hs fun b1 w hs=>?_
 refine .o (.alloc hs eI rfl fun b2 w hs=>?_)
 refine .z zg (.nil (.ai (.z (zfa nM) (.y hs (zld ak) ?_))))
 refine .o (.call Tryz.call35 rfl (po hs g1) ?_);rintro _ w ⟨s,vst,vwa,e1,e2,rfl,hSp,hO1,hO2,hs⟩
 have hSt:=hSp.st
 have hWa:=hSp.wa
 have hSt2:=hSp.ok.st.two
 have hWa2:=hSp.ok.wa.two
 obtain ⟨ast,lst,cst,rfl,hlst⟩:=hO1.shape
 obtain ⟨awa,lwa,cwa,rfl,hlwa⟩:=hO2.shape
 obtain rfl:s.st.length=lst:=by simpa [Is] using hlst
 obtain rfl:s.wa.length=lwa:=by simpa [Is] using hlwa
 refine .z (zbd [_,_,_,_,_,_,_,_] oY) ?_
 refine .o (.alloc hs eI rfl fun b4 w hs=>?_)
 refine .o (.aU (vs:=[_,_,_,_,_,_,_,_]) hs rfl rfl aF fun w hs=>?_)
 refine .nil (.ai (.z (zfa aS) (.y hs (zls [_,_,_,_,_,_] aQ aI) ?_)))
 refine .o (.alloc hs jx rfl fun b5 w hs=>?_)
 refine .o (.aU (vs:=[_,_,_,_,_,_]) hs rfl rfl aI fun w hs=>?_)
 refine .nil ?_
 refine .cut (fun fs w=>∃rs e3 ar cr,j9 fs ⟨208,[],[(5,.pointer (some ⟨b5,0,none⟩)),(4,.pointer (some ⟨b4,0,none⟩)),(2,.pointer (some ⟨b2,0,none⟩)),(1,.pointer (some ⟨b1,0,none⟩))]⟩∧rs.length≤14∧rs.length≤fs5.length∧(∀r∈rs,jJ s r)∧cn 7 (.slice ar rs.length cr) (rdc rs).flatten e3∧St H w (e3:: .blk b5 [I s.id,I s.src,.slice ast s.st.length cst,.slice awa s.wa.length cwa,I s.al,I s.up]:: .blk b4 [I s.id,I s.src,.slice ast s.st.length cst,.slice awa s.wa.length cwa,I s.al,I s.up,.slice ar rs.length cr,.slice none 0 0]::e1::e2:: .blk b2 [I 0,I 0,.slice none 0 0,.slice none 0 0,I 0,I 0,.slice none 0 0,.slice none 0 0]:: .blk b1 [.slice avs sl.length cvs,.slice av5 fs5.length cv5,.slice av4 fs4.length cv4,.slice avp pk.length cvp,I z1,I z2,I z3]::σ)) ?_ ?_
 ·refine .ai (.z zg (.nil (.block ?_)))
  refine .loop (fun p:List Rdg×Option Addr×Nat=>⟨208,[],[(6,I (p.1.length:Int)),(5,.pointer (some ⟨b5,0,none⟩)),(4,.pointer (some ⟨b4,0,none⟩)),(2,.pointer (some ⟨b2,0,none⟩)),(1,.pointer (some ⟨b1,0,none⟩))]⟩)
   (fun p w=>p.1.length≤14∧p.1.length≤fs5.length∧(∀r∈p.1,jJ s r)∧∃e3,cn 7 (.slice p.2.1 p.1.length p.2.2) (rdc p.1).flatten e3∧
    St H w (e3:: .blk b5 [I s.id,I s.src,.slice ast s.st.length cst,.slice awa s.wa.length cwa,I s.al,I s.up]:: .blk b4 [I s.id,I s.src,.slice ast s.st.length cst,.slice awa s.wa.length cwa,I s.al,I s.up,.slice p.2.1 p.1.length p.2.2,.slice none 0 0]::e1::e2:: .blk b2 [I 0,I 0,.slice none 0 0,.slice none 0 0,I 0,I 0,.slice none 0 0,.slice none 0 0]:: .blk b1 [.slice avs sl.length cvs,.slice av5 fs5.length cv5,.slice av4 fs4.length cv4,.slice avp pk.length cvp,I z1,I z2,I z3]::σ)) (fun p=>14 - p.1.length) ([],none,0) aR
   ⟨bV,bV,bV,_,.nil 7 none,(hs.sb).nul⟩ ?_
  clear hs
  rintro ⟨rs,ar,cr⟩ w ⟨hr14,hrf,hrok,e3,hO3,hs⟩
  dsimp only at hr14 hrf hrok hO3 hs ⊢
  refine .seq (.ai (.z zm (.z (zfa ib) (.y hs (zld Tryz.isAgg23) (.z (c9 Tryz.runUnderlying23) (.z gx (.z zm ?_)))))))
  refine .iB (t':=31) rfl (fun hb31=>?_) (fun hb31=>?_)
  ·refine .gT rfl rfl ?_
   refine .z zm ?_
   refine .gT rfl rfl ?_
   refine .z gx (.z zpT (.nil ?_))
   refine (.bM rfl (fun hc34=>?_) (fun hc34=>?_))
   ·refine .skip ?_
    refine nT ?_
    refine .seq (.block (.ai (.z (zfa ib) (.y hs (zld Tryz.isAgg23) (.z zm ?_)))))
    obtain ⟨n,hn⟩:=nth (l:=fs5) (k:=rs.length) aj
    refine .ixX (enc:=F5.v) hs g2 rfl rfl Tryz.runUnderlying23 uL hn dy ?_;intro b40 o40 hc40
    refine .q hs (cI (vs:=n.v) rfl Tryz.isAgg106 uL hc40) ?_
    refine .o (.alloc hs Tryz.zeroValue106 rfl fun b7 w hs=>?_)
    refine .o (.aU (vs:=[_,_,_,_,_]) hs rfl rfl uL fun w hs=>?_)
    refine .nil ?_
    refine .seq (.draw mix rfl hs fun w hs=>?_)
    refine .z 0 rfl (zia 4 iy af) ?_
    refine .y 1 rfl hs ae ?_
    refine .z 3 rfl (zia 4 iy af) ?_
    refine .y 4 rfl hs ae ?_;refine .z 5 rfl ER ?_
    refine .E 2 hs ?_
    refine .call cJ rfl (bK hs aj) ?_;rintro _ w ⟨k44,g44,rfl,hs⟩
    refine .go ?_
    refine .E 6 hs ?_
    refine .call cJ rfl (bK hs aj) ?_;rintro _ w ⟨k48,g48,rfl,hs⟩
    have m49:0≤(k44:Int)*(k48:Int)∧(k44:Int)*(k48:Int)≤39:=by
     have e1:k48=0∨k48=1:=by omega
     rcases e1 with rfl|rfl<;>simp<;>omega
    refine .go ?_
    refine .z 7 rfl ka ?_;refine .z 8 rfl zg ?_;refine .D hs ?_
    refine .draw mix rfl hs fun w hs=>?_
    refine .z 0 rfl (zfa aN) ?_;refine .y 1 rfl hs bu ?_;refine .z 2 rfl zm ?_;refine .z 3 rfl cq ?_
    refine .z 4 rfl (zia 0 iy af) ?_
    refine .y 5 rfl hs ae ?_;refine .z 6 rfl (zfa bA) ?_;refine .y 7 rfl hs ak ?_;refine .z 8 rfl (c9 aa) ?_
    refine .z 10 rfl (zia 1 iy af) ?_
    refine .y 11 rfl hs ae ?_;refine .z 12 rfl (zfa bj) ?_;refine .y 13 rfl hs ak ?_;refine .z 14 rfl (c9 aa) ?_;refine .z 16 rfl zm ?_
    refine .z 17 rfl (zia 2 iy af) ?_
    refine .y 18 rfl hs ae ?_
    refine .z 21 rfl (zia 3 iy af) ?_
    refine .y 22 rfl hs ae ?_
    refine .E 9 hs ?_
    refine .call cJ rfl (bK hs aj) ?_;rintro _ w ⟨k59,g59,rfl,hs⟩
    refine .go ?_
    refine .E 15 hs ?_
    refine .call cJ rfl (bK hs aj) ?_;rintro _ w ⟨k65,g65,rfl,hs⟩
    refine .go ?_
    refine .E 19 hs ?_
    refine .call cJ rfl (bK hs aj) ?_;rintro _ w ⟨k69,g69,rfl,hs⟩
    refine .go ?_
    refine .z 20 rfl cq ?_
    refine .E 23 hs ?_
    refine .call cJ rfl (bK hs aj) ?_;rintro _ w ⟨k73,g73,rfl,hs⟩
    obtain ⟨r,hr⟩:∃r:Rdg,r=⟨10+(rs.length:Int),(k59:Int),(k65:Int),0,(k44:Int)*(k48:Int),1+(k69:Int),(k73:Int)⟩:=⟨_,rfl⟩
    have hrOk:jJ s r:=by subst hr;exact ⟨by dsimp only;omega,by dsimp only;omega,by dsimp only;omega,by dsimp only;omega,by dsimp only;omega,by dsimp only;omega,by dsimp only;omega⟩
    refine .go ?_
    refine .z 24 rfl (zbd [_,_,_,_,_,_,_] fC) ?_
    refine .E 25 hs ?_
    refine .buildSlice (cells:=r.c) hs fl rfl (by subst hr;kernel_rfl) ?_;intro b75 w hs
    refine .go ?_
    refine .E 26 hs ?_
    refine .append (ys:=r.c) hs cQ rfl rfl hO3 (.own .here rfl rfl) (by simp [Rdg.c,Value.oneCell']) (fun l' h=>by rw [bT _ (iY _),dn] at h;omega) ?_;intro v76 en76 w hO4 hs
    rw [←qe] at hO4
    obtain ⟨a76,c76,rfl⟩:=hO4.iD (iY _) aj
    rw [dn] at hO4 ⊢
    refine .go ?_
    refine .z 27 rfl (zfa aN) ?_
    refine .E 28 hs ?_
    refine .store hs rfl rfl mE ?_;intro w hs
    refine .go ?_
    refine .D hs ?_
    refine nB (nT ?_)
    refine .region (.z zm (.z cq (.z zg (.nil ?_))))
    refine nT ?_
    exact ⟨(rs++[r],a76,c76),.cj rfl bV aR,⟨by simp;omega,by simp;omega,fun q hq=>by
      simp only [List.mem_append,List.mem_singleton] at hq
      rcases hq with hq|rfl
      ·exact hrok q hq
      ·exact hrOk,_,hO4,hs.sb⟩,by simp;omega⟩
   ·refine .exit ?_
    refine xT (xT (xB (nT ?_)))
    exact ⟨rs,e3,ar,cr,aR,hr14,hrf,hrok,hO3,hs⟩
  ·refine .gFs 2 5 true rfl rfl rfl ?_
   refine .z zpF (.nil ?_)
   refine (.cF ?_)
   refine .exit ?_
   refine xT (xT (xB (nT ?_)))
   exact ⟨rs,e3,ar,cr,aR,hr14,hrf,hrok,hO3,hs⟩
 ·clear hs
  rintro fs w ⟨rs,e3,ar,cr,hfs,hr14,hrf,hrok,hO3,hs⟩
  refine WE.sub ?_ hfs
  clear hfs
  refine .cut (fun fs w=>∃cs e4 ac cc,j9 fs ⟨208,[],[(5,.pointer (some ⟨b5,0,none⟩)),(4,.pointer (some ⟨b4,0,none⟩)),(2,.pointer (some ⟨b2,0,none⟩)),(1,.pointer (some ⟨b1,0,none⟩))]⟩∧cs.length≤5∧(∀c∈cs,pP c)∧(Srv.oG ⟨s,rs,cs⟩).Sound∧cn 6 (.slice ac cs.length cc) (cmc cs).flatten e4∧St H w (e1::e2::e3::e4:: .blk b5 [I s.id,I s.src,.slice ast s.st.length cst,.slice awa s.wa.length cwa,I s.al,I s.up]:: .blk b4 [I s.id,I s.src,.slice ast s.st.length cst,.slice awa s.wa.length cwa,I s.al,I s.up,.slice ar rs.length cr,.slice ac cs.length cc]:: .blk b2 [I 0,I 0,.slice none 0 0,.slice none 0 0,I 0,I 0,.slice none 0 0,.slice none 0 0]:: .blk b1 [.slice avs sl.length cvs,.slice av5 fs5.length cv5,.slice av4 fs4.length cv4,.slice avp pk.length cvp,I z1,I z2,I z3]::σ)) ?_ ?_
  ·refine .ai (.z zg (.nil (.block ?_)))
   refine .loop (fun p:Nat×List Cmp×Option Addr×Nat=>⟨208,[],[(9,I (p.1:Int)),(5,.pointer (some ⟨b5,0,none⟩)),(4,.pointer (some ⟨b4,0,none⟩)),(2,.pointer (some ⟨b2,0,none⟩)),(1,.pointer (some ⟨b1,0,none⟩))]⟩)
    (fun p w=>p.1≤5∧p.1≤fs4.length∧p.2.1.length≤p.1∧(∀c∈p.2.1,pP c)∧(Srv.oG ⟨s,rs,p.2.1⟩).Sound∧∃e4,cn 6 (.slice p.2.2.1 p.2.1.length p.2.2.2) (cmc p.2.1).flatten e4∧
     St H w (e1::e2::e3::e4:: .blk b5 [I s.id,I s.src,.slice ast s.st.length cst,.slice awa s.wa.length cwa,I s.al,I s.up]:: .blk b4 [I s.id,I s.src,.slice ast s.st.length cst,.slice awa s.wa.length cwa,I s.al,I s.up,.slice ar rs.length cr,.slice p.2.2.1 p.2.1.length p.2.2.2]:: .blk b2 [I 0,I 0,.slice none 0 0,.slice none 0 0,I 0,I 0,.slice none 0 0,.slice none 0 0]:: .blk b1 [.slice avs sl.length cvs,.slice av5 fs5.length cv5,.slice av4 fs4.length cv4,.slice avp pk.length cvp,I z1,I z2,I z3]::σ)) (fun p=>5 - p.1) (0,[],none,0) aR
    ⟨bV,bV,bV,bV,Bq (wg hSp.ok hSt hWa hr14 bV hrok bV) rfl,.nul,.nil 6 none,(hs.nul).sb⟩ ?_
   clear hs
   rintro ⟨k,cs,ac,cc⟩ w ⟨hk5,hkf,hck,hcok,hsd,e4,hO4,hs⟩
   dsimp only at hk5 hkf hck hcok hsd hO4 hs ⊢
   refine .seq (.ai (.z zm (.z (zfa jY) (.y hs (zld Tryz.isAgg24) (.z (c9 Tryz.runUnderlying24) (.z gx (.z zm ?_)))))))
   refine .iB (t':=83) rfl (fun hb83=>?_) (fun hb83=>?_)
   ·refine .gT rfl rfl ?_
    refine .z zm ?_
    refine .gT rfl rfl ?_
    refine .z gx (.z zpT (.nil ?_))
    refine (.bM rfl (fun hc86=>?_) (fun hc86=>?_))
    ·refine .skip ?_
     refine nT ?_
     refine .seq (.block (.ai (.z (zfa jY) (.y hs (zld Tryz.isAgg24) (.z zm ?_)))))
     obtain ⟨n,hn⟩:=nth (l:=fs4) (k:=k) aj
     refine .ixX (enc:=F4.v) hs g3 rfl rfl Tryz.runUnderlying24 Tryz.sizeOf199 hn dy ?_;intro b92 o92 hc92
     refine .q hs (cI (vs:=n.v) rfl Tryz.isAgg199 Tryz.sizeOf199 hc92) ?_
     refine .o (.alloc hs Tryz.zeroValue199 rfl fun b10 w hs=>?_)
     refine .o (.aU (vs:=[_,_,_,_]) hs rfl rfl Tryz.sizeOf199 fun w hs=>?_)
     refine .nil (.ai ?_)
     refine .z (zia 1 pQ af) ?_
     refine .y hs (zld ae) ?_
     refine .o (.call cJ rfl (bK hs aj) ?_);rintro _ w ⟨k96,g96,rfl,hs⟩
     refine .z gW (.z zg (.nil (.ai ?_)))
     refine .z (zia 3 pQ af) ?_
     refine .y hs (zld ae) ?_
     refine .o (.call cJ rfl (bK hs aj) ?_);rintro _ w ⟨k100,g100,rfl,hs⟩
     refine .z zg (.nil ?_)
     refine .seq (.draw mix rfl hs fun w hs=>?_)
     refine .z 0 rfl (zfa bU) ?_;refine .y 1 rfl hs dW ?_;refine .z 2 rfl zm ?_;refine .z 3 rfl cq ?_
     refine .z 4 rfl (zia 0 pQ af) ?_
     refine .y 5 rfl hs ae ?_;refine .z 8 rfl zm ?_;refine .z 9 rfl zm ?_
     refine .z 10 rfl (zia 3 pQ af) ?_
     refine .y 11 rfl hs ae ?_;refine .z 12 rfl ER ?_;refine .z 15 rfl zm ?_;refine .z 16 rfl zm ?_
     refine .z 17 rfl (zia 2 pQ af) ?_
     refine .y 18 rfl hs ae ?_
     refine .E 6 hs ?_
     refine .call cJ rfl (bK hs aj) ?_;rintro _ w ⟨k107,g107,rfl,hs⟩
     refine .go ?_
     refine .z 7 rfl cq ?_
     refine .E 13 hs ?_
     refine .call cJ rfl (bK hs aj) ?_;rintro _ w ⟨k114,g114,rfl,hs⟩
     refine .go ?_
     refine .z 14 rfl cq ?_
     refine .E 19 hs ?_
     refine .call cJ rfl (bK hs aj) ?_;rintro _ w ⟨k120,g120,rfl,hs⟩
     obtain ⟨c,hc⟩:∃c:Cmp,c=⟨30+(k:Int),1+(k107:Int),(k100:Int),(k100:Int)+(k114:Int),(k96:Int) - 40,(k96:Int) - 40+(k120:Int)⟩:=⟨_,rfl⟩
     have hcOk:pP c:=by subst hc;exact ⟨by dsimp only;omega,by dsimp only;omega,by dsimp only;omega,by dsimp only;omega,by dsimp only;omega,by dsimp only;omega⟩
     refine .go ?_
     refine .z 20 rfl cq ?_;refine .z 21 rfl (zbd [_,_,_,_,_,_] nW) ?_
     refine .E 22 hs ?_
     refine .buildSlice (cells:=c.c) hs kv rfl (by subst hc;kernel_rfl) ?_;intro b123 w hs
     refine .go ?_
     refine .E 23 hs ?_
     refine .append (ys:=c.c) hs j6 rfl rfl hO4 (.own .here rfl rfl) (by simp [Cmp.c,Value.oneCell']) (fun l' h=>by rw [bT _ (rL _),fH] at h;omega) ?_;intro v124 en124 w hO5 hs
     rw [←zD] at hO5
     obtain ⟨a124,c124,rfl⟩:=hO5.iD (rL _) aj
     rw [fH] at hO5 ⊢
     have hcl:(cs++[c]).length=cs.length+1:=by simp
     have hcok':∀d∈cs++[c],pP d:=fun d hd=>by
      simp only [List.mem_append,List.mem_singleton] at hd
      rcases hd with hd|rfl
      ·exact hcok d hd
      ·exact hcOk
     have hsok:eS ⟨s,rs,cs++[c]⟩:=wg hSp.ok hSt hWa hr14 aj hrok hcok'
     refine .go ?_
     refine .z 24 rfl (zfa bU) ?_
     refine .E 25 hs ?_
     refine .store hs rfl rfl Tryz.sizeOf36 ?_;intro w hs
     refine .go ?_
     refine .D hs ?_
     refine .ai (.y hs (zls [_,_,_,_,_,_,_,_] aO aF) ?_)
     obtain ⟨Hx,hlex,r1,r2,r3,r4,hs2,back⟩:=DL.zb (s:=⟨s,rs,cs++[c]⟩) ⟨hO1,hO2,hO3,hO5⟩ (by show s.st.length≤_;omega) (by show s.wa.length≤_;omega) (by show rs.length≤_;omega) (by show (cs++[c]).length≤_;omega) (hs.sb:St H w (e1::e2::e3::en124:: .blk b5 [I s.id,I s.src,.slice ast s.st.length cst,.slice awa s.wa.length cwa,I s.al,I s.up]:: .blk b4 [I s.id,I s.src,.slice ast s.st.length cst,.slice awa s.wa.length cwa,I s.al,I s.up,.slice ar rs.length cr,.slice a124 (cs++[c]).length c124]:: .blk b2 [I 0,I 0,.slice none 0 0,.slice none 0 0,I 0,I 0,.slice none 0 0,.slice none 0 0]:: .blk b1 [.slice avs sl.length cvs,.slice av5 fs5.length cv5,.slice av4 fs4.length cv4,.slice avp pk.length cvp,I z1,I z2,I z3]::σ))
     refine .o (.call Tryz.call142 rfl (tr (s:=⟨s,rs,cs++[c]⟩) hs2 r1 r2 r3 r4 hsok.early (yx hsok)) ?_);rintro _ w ⟨Hy,b127,hley,rfl,hb127,hs3⟩
     have hs:=back hley hs3
     clear hs2 hs3 back
     refine .nil ?_
     refine (.cond rfl (fun hc127=>?_) (fun hc127=>?_))
     ·refine .region (.z (zfa bU) (.y hs (zld dW) (.z (zfa bU) (.y hs (zld dW) (.z (c9 aW) (.z gW ?_))))))
      refine .q hs (lY (k:=cs.length) rfl rfl aW bY aj (by have:=hO5.le;omega)) ?_
      refine .z (zfa bU) ?_
      refine .o (.store hs rfl rfl Tryz.sizeOf36 fun w hs=>?_)
      refine .nil ?_
      refine nB (nT ?_)
      refine .region (.z zm (.z cq (.z zg (.nil ?_))))
      refine nT ?_
      exact ⟨(k+1,cs,a124,c124),.cj rfl bV aR,⟨by dsimp only;omega,by dsimp only;omega,by dsimp only;omega,hcok,hsd,_,hO5.Et,hs.sb⟩,by dsimp only;omega⟩
     ·refine .skip ?_
      refine nB (nT ?_)
      refine .region (.z zm (.z cq (.z zg (.nil ?_))))
      refine nT ?_
      exact ⟨(k+1,cs++[c],a124,c124),.cj rfl bV aR,⟨by dsimp only;omega,by dsimp only;omega,by dsimp only;omega,hcok',hb127 (by simpa using hc127),_,hO5,hs.sb⟩,by dsimp only;omega⟩
    ·refine .exit ?_
     refine xT (xT (xB (nT ?_)))
     exact ⟨cs,e4,ac,cc,aR,aj,hcok,hsd,hO4,hs⟩
   ·refine .gFs 2 5 true rfl rfl rfl ?_
    refine .z zpF (.nil ?_)
    refine (.cF ?_)
    refine .exit ?_
    refine xT (xT (xB (nT ?_)))
    exact ⟨cs,e4,ac,cc,aR,aj,hcok,hsd,hO4,hs⟩
  ·clear hs
   rintro fs w ⟨cs,e4,ac,cc,hfs,hc5,hcok,hsd,hO4,hs⟩
   refine WE.sub ?_ hfs
   clear hfs
   have hsok:eS ⟨s,rs,cs⟩:=wg hSp.ok hSt hWa hr14 hc5 hrok hcok
   refine .ai (.y hs (zls [_,_,_,_,_,_,_,_] aO aF) (.z (zfa nL) (.y hs (zld ak) ?_)))
   obtain ⟨Hx,hlex,r1,r2,r3,r4,hs2,back⟩:=DL.zb (s:=⟨s,rs,cs⟩) ⟨hO1,hO2,hO3,hO4⟩ (by show s.st.length≤_;omega) (by show s.wa.length≤_;omega) (by show rs.length≤_;omega) (by show cs.length≤_;omega) hs
   refine .o (.call Tryz.call143 rfl (tq (s:=⟨s,rs,cs⟩) hs2 r1 r2 r3 r4 (g4.mono hlex) hsok.early ⟨yx hsok,hsd⟩) ?_);rintro v139 w ⟨Hy,x,ex,hley,hOx,hP,hs3⟩
   have hs:=back hley hs3
   clear hs2 hs3 back r1 r2 r3 r4
   obtain ⟨hxl,hx0,hxb,hfe⟩:=hP.Bt (yx hsok) hsd
   have hsm:=hsok.many
   have hfn:(Srv.oG ⟨s,rs,cs⟩).n=s.many+(bn rs).length+1:=tj ⟨s,rs,cs⟩
   have hxl:x.length=s.many+(bn rs).length+1:=by rw [hxl];exact hfn
   rw [hfn] at hxb
   have hsm:s.many+(bn rs).length≤64:=hsm
   obtain ⟨Hz,hlez,hX,hs⟩:=cn.dI hOx aj hs cZ
   obtain ⟨ax,cx,rfl⟩:=RI.shape hX
   refine .z zg (.nil (.seq (.ai (.z zg (.nil (.block ?_))))))
   refine .loop (fun p:Nat×List Rdg=>⟨208,[],[(14,I (p.1:Int)),(13,.slice ax x.length cx),(5,.pointer (some ⟨b5,0,none⟩)),(4,.pointer (some ⟨b4,0,none⟩)),(2,.pointer (some ⟨b2,0,none⟩)),(1,.pointer (some ⟨b1,0,none⟩))]⟩)
    (fun p w=>p.1≤rs.length∧p.2.length=rs.length∧bn p.2=bn rs∧(∀r∈p.2,RdS s r)∧(∀j<p.1,∀r,p.2[j]? =some r→BP s (bn rs) x r)∧∃e3,cn 7 (.slice ar rs.length cr) (rdc p.2).flatten e3∧
     St Hz w (e1::e2::e3::e4:: .blk b5 [I s.id,I s.src,.slice ast s.st.length cst,.slice awa s.wa.length cwa,I s.al,I s.up]:: .blk b4 [I s.id,I s.src,.slice ast s.st.length cst,.slice awa s.wa.length cwa,I s.al,I s.up,.slice ar rs.length cr,.slice ac cs.length cc]:: .blk b2 [I 0,I 0,.slice none 0 0,.slice none 0 0,I 0,I 0,.slice none 0 0,.slice none 0 0]:: .blk b1 [.slice avs sl.length cvs,.slice av5 fs5.length cv5,.slice av4 fs4.length cv4,.slice avp pk.length cvp,I z1,I z2,I z3]::σ)) (fun p=>rs.length - p.1) (0,rs) aR
    ⟨bV,rfl,rfl,fun r hr=>⟨(hrok r hr).st,(hrok r hr).wa,(hrok r hr).tol⟩,fun j hj=>by omega,e3,hO3,hs⟩ ?_
   clear hs hO3
   rintro ⟨k,R⟩ w ⟨hk,hRl,hRt,hRs,hRv,e3,hO3,hs⟩
   dsimp only at hk hRl hRt hRs hRv hO3 hs ⊢
   refine .seq (.ai (.z zm (.z (zfa aN) (.y hs (zld bu) (.z (c9 az) (.z gx (.nil ?_)))))))
   refine (.bM rfl (fun hc144=>?_) (fun hc144=>?_))
   ·refine .skip ?_
    refine nT ?_
    refine .seq (.block (.ai (.z (zfa ib) (.y hs (zld Tryz.isAgg23) (.z zm ?_)))))
    obtain ⟨n,hn⟩:=nth (l:=fs5) (k:=k) aj
    obtain ⟨r,hr⟩:=nth (l:=R) (k:=k) aj
    have hrS:=hRs r (List.mem_of_getElem? hr)
    obtain ⟨u,hu1,hu2⟩:=hrS.u
    have hrst:=hrS.st
    have hrwa:=hrS.wa
    have hrtol:=hrS.tol
    have hmem:r.td∈bn R:=gG.2 ⟨r,List.mem_of_getElem? hr,rfl⟩
    obtain ⟨q,q1,q2,q3⟩:=gg hmem
    rw [hRt] at q3
    have hb1:=hxb u aj
    have hb2:=hxb (s.many+1+q) aj
    obtain ⟨bo,co,sp,hv,rfl,hcap⟩:=hO3.EA (iY _) aj (by rw [dn];omega)
    simp only [Value.slice.injEq] at hv
    obtain ⟨rfl,hv2,rfl⟩:=hv
    obtain ⟨Hx,hlex,r1,r2,r3,r4,hs2,back⟩:=DL.zb (s:=⟨s,R,cs⟩) ⟨hO1,hO2,hO3,hO4⟩ (by show s.st.length≤_;omega) (by show s.wa.length≤_;omega) (by show R.length≤_;omega) (by show cs.length≤_;omega) hs
    clear hs
    have hs:=hs2
    clear hs2
    refine .ixX (enc:=F5.v) hs (g2.mono (hlez.trans hlex)) rfl rfl Tryz.runUnderlying23 uL hn dy ?_;intro b150 o150 hc150
    refine .q hs (cI (vs:=n.v) rfl Tryz.isAgg106 uL hc150) ?_
    refine .o (.alloc hs Tryz.zeroValue106 rfl fun b15 w hs=>?_)
    refine .o (.aU (vs:=[_,_,_,_,_]) hs rfl rfl uL fun w hs=>?_)
    refine .nil (.ai (.z (zfa aN) (.y hs (zld bu) (.z zm ?_))))
    refine .ixX (enc:=Rdg.c) hs r3 rfl rfl az aH hr dy ?_;intro b155 o155 hc155
    refine .q hs (cI (vs:=r.c) rfl dN aH hc155) ?_
    refine .o (.alloc hs eH rfl fun b16 w hs=>?_)
    refine .o (.aU (vs:=[_,_,_,_,_,_,_]) hs rfl rfl aH fun w hs=>?_)
    refine .nil (.ai (.y hs (zls [_,_,_,_,_,_] aQ aI) (.z (zfa ff) (.y hs (zld ae) (.z (zfa fc) (.y hs (zld ae) ?_))))))
    refine .o (.call iS rfl (dm (s:=s) hs r2 aj aj aj) ?_);rintro _ w ⟨rfl,hs⟩
    rw [hu1]
    refine .z zg (.nil ?_)
    refine .seq (.draw mix rfl hs fun w hs=>?_)
    refine .ys 0 rfl hs [_,_,_,_,_,_] aQ aI ?_;refine .z 3 rfl (zfa aN) ?_;refine .y 4 rfl hs bu ?_;refine .z 6 rfl (zfa eF) ?_;refine .y 7 rfl hs ae ?_;refine .z 8 rfl (zfa eE) ?_;refine .y 9 rfl hs ae ?_;refine .z 10 rfl (zbd [_,_] gv) ?_
    refine .E 1 hs ?_
    refine .call Dl rfl (fa (s:=s) hs r1 r2 ⟨aj,aj⟩) ?_;rintro _ w ⟨rfl,hs⟩
    refine .go ?_
    refine .z 2 rfl cq ?_
    refine .E 5 hs ?_
    refine .call Dm rfl (gJ (rs:=R) hs r3 aj) ?_;rintro v168 w ⟨Hw,hlew,hT,hs⟩
    refine .go ?_
    refine .E 11 hs ?_
    refine .call Tryz.call93 rfl (kc (t:=r.td) hs hT (by rw [hRt];omega)) ?_;rintro _ w ⟨rfl,hs⟩
    rw [q1]
    refine .go ?_
    refine .z 12 rfl cq ?_;refine .z 13 rfl zg ?_;refine .D hs ?_
    refine .seq (.draw mix rfl hs fun w hs=>?_)
    refine .z 0 rfl (zia 4 iy af) ?_
    refine .y 1 rfl hs ae ?_;refine .z 2 rfl ER ?_;refine .z 3 rfl (zfa ck) ?_;refine .y 4 rfl hs ae ?_;refine .z 5 rfl ka ?_;refine .z 6 rfl cq ?_;refine .z 8 rfl (zfa ck) ?_;refine .y 9 rfl hs ae ?_
    refine .E 7 hs ?_
    refine .call cJ rfl (bK hs aj) ?_;rintro _ w ⟨k183,g183,rfl,hs⟩
    refine .go ?_
    refine .z 10 rfl gW ?_;refine .z 11 rfl zg ?_;refine .D hs ?_
    refine .draw mix rfl hs fun w hs=>?_
    refine .z 0 rfl (zfa aN) ?_;refine .y 1 rfl hs bu ?_;refine .z 2 rfl zm ?_;refine .z 3 rfl zm ?_;refine .z 4 rfl zm ?_
    have hs:=back hlew hs
    refine .ixX (enc:=fun x=>[I x]) (i:=5) hs rfl an .none hX rfl rfl aa af (bL (l:=x) (i:=u) aj) rfl ?_;intro b192 o192 hc192;replace hc192:=bB.one hc192
    refine .r (i:=6) hs rfl an .none (aK rfl ae hc192) ?_
    refine .z 7 rfl zm ?_;refine .z 8 rfl zm ?_
    refine .ixX (enc:=fun x=>[I x]) (i:=9) hs rfl an .none hX rfl rfl aa af (bL (l:=x) (i:=s.many+1+q) aj) (by push_cast;rfl) ?_;intro b196 o196 hc196;replace hc196:=bB.one hc196
    refine .r (i:=10) hs rfl an .none (aK rfl ae hc196) ?_
    refine .z 11 rfl gW ?_;refine .z 12 rfl zm ?_;refine .z 13 rfl cq ?_
    first|(refine .ixw 14 rfl hs az aH ?_;intro b201 o201 hc201)|refine .z 14 rfl (ni az aH) ?_
    refine .z 15 rfl (zfa db) ?_
    refine .E 16 hs ?_
    refine .store (c':=(rdc (R.set k {r with val:=gi x u - gi x (s.many+1+q)+((k183:Int) - r.tol)})).flatten++sp) hs rfl rfl af ?_ cZ (Nat.ble_eq_true_of_le (by rw [List.length_append,bT _ (iY _),dn];omega)) (yk hr sp _);intro w hs
    refine .go ?_
    refine .D hs ?_
    refine nB (nT ?_)
    refine .region (.z zm (.z cq (.z zg (.nil ?_))))
    refine nT ?_
    exact ⟨(k+1,R.set k {r with val:=gi x u - gi x (s.many+1+q)+((k183:Int) - r.tol)}),.cj rfl bV aR,⟨by dsimp only;omega,by dsimp only;rw [List.length_set];exact hRl,by dsimp only;rw [w5 hr];exact hRt,fun y hy=>by
      rcases List.mem_or_eq_of_mem_set hy with h|h
      ·exact hRs y h
      ·subst h;exact ⟨hrst,hrwa,hrtol⟩,fun j hj y hy=>by
      dsimp only at hj hy
      by_cases e:j=k
      ·subst e
       rw [List.getElem?_set_self aj] at hy
       obtain rfl:=Option.some.inj hy
       have q1':ja (bn rs) r.td=q:=by rw [←hRt];exact q1
       unfold BP
       show gi x (1+r.st*s.wa.length+r.wa).toNat - gi x (s.many+1+ja (bn rs) r.td).toNat - r.tol≤_∧_≤gi x (1+r.st*s.wa.length+r.wa).toNat - gi x (s.many+1+ja (bn rs) r.td).toNat+r.tol
       rw [hu1,q1',show ((s.many:Int)+1+(q:Int)).toNat=s.many+1+q by omega,Int.toNat_natCast]
       dsimp only
       omega
      ·rw [List.getElem?_set_ne aj] at hy
       exact hRv j aj y hy,_,CJ hO3 _,hs.sb⟩,by dsimp only;omega⟩
   ·refine .exit ?_
    refine xT (xT (xB (nT ?_)))
    refine .ai (.y hs (zls [_,_,_,_,_,_,_,_] aO aF) (.z zm ?_))
    obtain rfl:k=rs.length:=by omega
    obtain ⟨Hx,hlex,r1,r2,r3,r4,hs2,back⟩:=DL.zb (s:=⟨s,R,cs⟩) ⟨hO1,hO2,hO3,hO4⟩ (by show s.st.length≤_;omega) (by show s.wa.length≤_;omega) (by show R.length≤_;omega) (by show cs.length≤_;omega) hs
    refine .o (.call Tryz.call144 rfl (qa (s:=⟨s,R,cs⟩) (x:=x) hs2 r1 r2 r3 ⟨_,_,_,rfl⟩ (hX.mono hlex) (by rw [tj];show _=s.many+(bn R).length+1;rw [hRt];exact hxl) ⟨by show s.st.length≤_;omega,by show s.wa.length≤_;omega,by show R.length≤_;omega⟩) ?_);rintro _ w ⟨Hy,vr',vy,er,ey,hley,rfl,hOr,hOy,hs3⟩
    have hs:=back hley hs3
    clear hs2 hs3 back r1 r2 r3 r4
    have hkl:=tK s R
    obtain ⟨arr,crr,rfl⟩:=hOr.iD (iY _) aj
    obtain ⟨ayy,lyy,cyy,rfl,-⟩:=hOy.shape
    refine .z zex (.z zex ?_)
    refine .o (.aU (vs:=[_,_,_,_,_,_,_,_]) hs rfl rfl aF fun w hs=>?_)
    refine .z zg (.nil ?_)
    refine .ret ?_
    exact Fin.iK [] [] hs fun w hs=>⟨_,results2 Tryz.results60 (dJ (vs:=[_,_,_,_,_,_,_,_]) hs rfl aO aF) rfl,Hz,⟨s,iA s R,cs⟩,_,_,_,_,_,_,e1,e2,er,e4,ey,hlez,rfl,
     ⟨hSt,hWa,by show (iA s R).length≤14;omega,hc5,wg hSp.ok hSt hWa aj hc5 (fun r h=>(xq h).2) hcok⟩,⟨hO1,hO2,hOr,hO4⟩,hOy,Af hfe hx0 hxl hRt hRs (fun r hr=>by
      obtain ⟨j,hj⟩:=List.getElem?_of_mem hr
      have:=(List.getElem?_eq_some_iff.1 hj).1
      exact hRv j aj r hj),hs.sb⟩
structure Spl(s:Srv):Prop where
 st:2≤s.sp.st.length∧s.sp.st.length≤4
 wa:2≤s.sp.wa.length∧s.sp.wa.length≤3
 rs:s.rs.length≤15
 cs:s.cs.length≤5
theorem y8{b n cap k:Nat}{xs:List Int}{sp:List Value}(h:cn 1 (.slice (some ⟨b,0,none⟩) n cap) (Is xs) (.blk b (Is xs++sp)))(x:Int):
  cn 1 (.slice (some ⟨b,0,none⟩) n cap) (Is (xs.set k x)) (.blk b (Is (xs.set k x)++sp)):=by
 rcases h with ⟨a,_,_,h3⟩|⟨b',len,cap',sp',h1,h2,h3,h4,h5⟩
 ·cases h3
 ·simp only [Value.slice.injEq] at h1
  obtain ⟨-,rfl,rfl⟩:=h1
  simp only [Ent.blk.injEq] at h2
  rw [←h2.2] at h4
  exact .inr ⟨b,n,cap,sp,rfl,rfl,by simpa [Is] using h3,by simpa [Is] using h4,h5⟩
theorem ky{l:List Rdg}{k j:Nat}{r r':Rdg}(h:l[k]? =some r)(hj:j<7){v:Value}(hc:r.c.set j v=r'.c)(sp:List Value):((rdc l).flatten++sp).set (k*7+j) v=(rdc (l.set k r')).flatten++sp:=by
 have hk:=(List.getElem?_eq_some_iff.1 h).1
 rw [List.set_append_left _ _ (by rw [bT _ (iY _),dn];omega),qy (rdc l) k j v (iY l) (by rw [dn];exact hk) hj r.c (vV h),hc]
 unfold rdc
 rw [List.map_set]
theorem kz{b n cap k:Nat}{R:List Rdg}{r':Rdg}{sp:List Value}(h:cn 7 (.slice (some ⟨b,0,none⟩) n cap) (rdc R).flatten (.blk b ((rdc R).flatten++sp))):
  cn 7 (.slice (some ⟨b,0,none⟩) n cap) (rdc (R.set k r')).flatten (.blk b ((rdc (R.set k r')).flatten++sp)):=by
 have hl:(rdc (R.set k r')).flatten.length=(rdc R).flatten.length:=by
  rw [bT _ (iY _),bT _ (iY _),dn,dn,List.length_set]
 rcases h with ⟨a,_,_,h3⟩|⟨b',len,cap',sp',h1,h2,h3,h4,h5⟩
 ·cases h3
 ·simp only [Value.slice.injEq] at h1
  obtain ⟨-,rfl,rfl⟩:=h1
  simp only [Ent.blk.injEq] at h2
  rw [←h2.2] at h4
  exact .inr ⟨b,n,cap,sp,rfl,rfl,by rw [hl];exact h3,by rw [List.length_append,hl,←List.length_append];exact h4,h5⟩
theorem qD{l:List Cmp}{k j:Nat}{r r':Cmp}(h:l[k]? =some r)(hj:j<6){v:Value}(hc:r.c.set j v=r'.c)(sp:List Value):((cmc l).flatten++sp).set (k*6+j) v=(cmc (l.set k r')).flatten++sp:=by
 have hk:=(List.getElem?_eq_some_iff.1 h).1
 rw [List.set_append_left _ _ (by rw [bT _ (rL _),fH];omega),qy (cmc l) k j v (rL l) (by rw [fH];exact hk) hj r.c (Ex h),hc]
 unfold cmc
 rw [List.map_set]
theorem qh{b n cap k:Nat}{R:List Cmp}{r':Cmp}{sp:List Value}(h:cn 6 (.slice (some ⟨b,0,none⟩) n cap) (cmc R).flatten (.blk b ((cmc R).flatten++sp))):
  cn 6 (.slice (some ⟨b,0,none⟩) n cap) (cmc (R.set k r')).flatten (.blk b ((cmc (R.set k r')).flatten++sp)):=by
 have hl:(cmc (R.set k r')).flatten.length=(cmc R).flatten.length:=by
  rw [bT _ (rL _),bT _ (rL _),fH,fH,List.length_set]
 rcases h with ⟨a,_,_,h3⟩|⟨b',len,cap',sp',h1,h2,h3,h4,h5⟩
 ·cases h3
 ·simp only [Value.slice.injEq] at h1
  obtain ⟨-,rfl,rfl⟩:=h1
  simp only [Ent.blk.injEq] at h2
  rw [←h2.2] at h4
  exact .inr ⟨b,n,cap,sp,rfl,rfl,by rw [hl];exact h3,by rw [List.length_append,hl,←List.length_append];exact h4,h5⟩
set_option maxHeartbeats 2000000 in
theorem lX{vs v5 v4 vp:Value}{sl pk:List Int}{fs5:List F5}{fs4:List F4}{z1 z2 z3:Int}(hs:St H w σ)(g1:RI H vs sl)(g2:RF5 H v5 fs5)(g3:RF4 H v4 fs4)(g4:RI H vp pk):
  Cl Tryz.prog 23 [.agg #[vs,v5,v4,vp,I z1,I z2,I z3]] w fun u w'=>∃H1 s vst vwa vr vc,HLe H H1∧u= .agg #[I s.sp.id,I s.sp.src,vst,vwa,I s.sp.al,I s.sp.up,vr,vc]∧RI H1 vst s.sp.st∧RI H1 vwa s.sp.wa∧RRd H1 vr s.rs∧RCm H1 vc s.cs∧Spl s∧St H1 w' σ:=by
 obtain ⟨avs,cvs,rfl⟩:=RI.shape g1
 obtain ⟨av5,cv5,rfl⟩:=g2.shape
 obtain ⟨av4,cv4,rfl⟩:=g3.shape
 obtain ⟨avp,cvp,rfl⟩:=RI.shape g4
 refine Cl.o Tryz.func23 Tryz.ntmps23 ag1 ?_
 refine .ai ?_
 refine .bx hs fun b1 w hs=>?_
 refine .o (.alloc hs eI rfl fun b2 w hs=>?_)
 refine .nil (.ai (.y hs (zls [_,_,_,_,_,_,_] Tryz.isAgg27 Tryz.sizeOf27) ?_))
 refine .o (.call Tryz.call60 rfl (uz hs g1 g2 g3 g4) ?_);rintro _ w ⟨H1,s,y,vst,vwa,vr,vc,vy,e1,e2,e3,e4,e5,hle1,rfl,hM,⟨hO1,hO2,hO3,hO4⟩,hOy,-,hs⟩
 have hst2:=hM.ok.early.1.st.two
 have hwa2:=hM.ok.early.1.wa.two
 have hst4:=hM.st
 have hwa3:=hM.wa
 have hrs:=hM.rs
 have hcs:=hM.cs
 obtain ⟨bS,cS,spS,rfl,rfl,hcapS⟩:=hO1.some aj
 obtain ⟨bW,cW,spW,rfl,rfl,hcapW⟩:=hO2.some aj
 obtain ⟨ar,cr,rfl⟩:=hO3.iD (iY _) aj
 obtain ⟨ac,cc,rfl⟩:=hO4.iD (rL _) aj
 rw [dn] at hO3 ⊢
 rw [fH] at hO4 ⊢
 obtain ⟨ay,ly,cy,rfl,-⟩:=hOy.shape
 refine .z zm (.z zex (.z zex ?_))
 refine .o (.alloc hs eI rfl fun b3 w hs=>?_)
 refine .o (.aU (vs:=[_,_,_,_,_,_,_,_]) hs rfl rfl aF fun w hs=>?_)
 refine .z zg (.nil (.ai (.z (zfa nK) (.y hs (zls [_,_,_] Tryz.isAgg25 mF) ?_))))
 refine .o (.alloc hs Tryz.zeroValue25 rfl fun b5 w hs=>?_)
 refine .o (.aU (vs:=[_,_,_]) hs rfl rfl mF fun w hs=>?_)
 refine .nil (.ai ?_)
 refine .z (zia 0 aM af) ?_
 refine .y hs (zld ae) ?_
 refine .o (.call cJ rfl (bK hs aj) ?_);rintro _ w ⟨k,gk,rfl,hs⟩
 refine .z zg (.nil ?_)
 refine .cut (fun fs w=>∃(sp':Spc) (f1 f2:Ent),j9 fs ⟨225,[],[(6,I (k:Int)),(5,.pointer (some ⟨b5,0,none⟩)),(3,.pointer (some ⟨b3,0,none⟩)),(2,.pointer (some ⟨b2,0,none⟩)),(1,.pointer (some ⟨b1,0,none⟩))]⟩∧sp'.st.length=s.sp.st.length∧sp'.wa.length=s.sp.wa.length∧cn 1 (.slice (some ⟨bS,0,none⟩) s.sp.st.length cS) (Is sp'.st) f1∧cn 1 (.slice (some ⟨bW,0,none⟩) s.sp.wa.length cW) (Is sp'.wa) f2∧St H1 w (f1::f2::e3::e4:: .blk b5 [I z1,I z2,I z3]:: .blk b3 [I sp'.id,I sp'.src,.slice (some ⟨bS,0,none⟩) s.sp.st.length cS,.slice (some ⟨bW,0,none⟩) s.sp.wa.length cW,I sp'.al,I sp'.up,.slice ar s.rs.length cr,.slice ac s.cs.length cc]:: .blk b2 [I 0,I 0,.slice none 0 0,.slice none 0 0,I 0,I 0,.slice none 0 0,.slice none 0 0]::σ)) ?_ ?_
 ·refine .ai (.z zm (.nil (.block (.ai (.z gC (.z zg (.nil ?_)))))))
  refine (.bM rfl (fun hc21=>?_) (fun hc21=>?_))
  ·refine .region ?_
   refine .z (zia 2 aM af) ?_
   refine .y hs (zld ae) (.z (zfa aS) (.z (zfa lG) ?_))
   refine .o (.store hs rfl rfl af fun w hs=>?_)
   refine .nil ?_
   refine nB (nT ?_)
   exact ⟨{s.sp with id:=z3},_,_,aR,rfl,rfl,hO1,hO2,hs.sb⟩
  ·refine .ai (.z gC (.z zg (.nil ?_)))
   refine (.bM rfl (fun hc27=>?_) (fun hc27=>?_))
   ·refine .region ?_
    refine .z (zia 2 aM af) ?_
    refine .y hs (zld ae) (.z (zfa aS) (.z (zfa dB) ?_))
    refine .o (.store hs rfl rfl af fun w hs=>?_)
    refine .nil ?_
    refine nB (nT ?_)
    exact ⟨{s.sp with src:=z3},_,_,aR,rfl,rfl,hO1,hO2,hs.sb⟩
   ·refine .ai (.z gC (.z zg (.nil ?_)))
    refine (.bM rfl (fun hc33=>?_) (fun hc33=>?_))
    ·refine .draw mix rfl hs fun w hs=>?_
     refine .z 0 rfl (zfa aS) ?_;refine .z 1 rfl (zfa bA) ?_;refine .y 2 rfl hs ak ?_
     refine .z 3 rfl (zia 1 aM af) ?_
     refine .y 4 rfl hs ae ?_;refine .z 5 rfl (zfa aS) ?_;refine .z 6 rfl (zfa bA) ?_;refine .y 7 rfl hs ak ?_;refine .z 8 rfl (c9 aa) ?_
     refine .z 10 rfl (zia 2 aM af) ?_
     refine .y 11 rfl hs ae ?_
     refine .E 9 hs ?_
     refine .call cJ rfl (bK hs aj) ?_;rintro _ w ⟨k44,g44,rfl,hs⟩
     refine .go ?_
     first|(refine .ixv 12 rfl hs aa af ?_;intro b47 o47 hc47)|refine .z 12 rfl (zix aa af) ?_
     refine .E 13 hs ?_
     refine .store (c':=Is (s.sp.st.set k44 z3)++spS) hs rfl rfl af ?_ cZ (kM aj spS) (iH aj spS _);intro w hs
     refine .go ?_
     refine .D hs ?_
     refine nB (nT ?_)
     exact ⟨{s.sp with st:=s.sp.st.set k44 z3},_,_,aR,bV,rfl,y8 hO1 _,hO2,hs.sb⟩
    ·refine .ai (.z gC (.z zg (.nil ?_)))
     refine (.bM rfl (fun hc48=>?_) (fun hc48=>?_))
     ·refine .draw mix rfl hs fun w hs=>?_
      refine .z 0 rfl (zfa aS) ?_;refine .z 1 rfl (zfa bj) ?_;refine .y 2 rfl hs ak ?_
      refine .z 3 rfl (zia 1 aM af) ?_
      refine .y 4 rfl hs ae ?_;refine .z 5 rfl (zfa aS) ?_;refine .z 6 rfl (zfa bj) ?_;refine .y 7 rfl hs ak ?_;refine .z 8 rfl (c9 aa) ?_
      refine .z 10 rfl (zia 2 aM af) ?_
      refine .y 11 rfl hs ae ?_
      refine .E 9 hs ?_
      refine .call cJ rfl (bK hs aj) ?_;rintro _ w ⟨k59,g59,rfl,hs⟩
      refine .go ?_
      first|(refine .ixv 12 rfl hs aa af ?_;intro b62 o62 hc62)|refine .z 12 rfl (zix aa af) ?_
      refine .E 13 hs ?_
      refine .store (c':=Is (s.sp.wa.set k59 z3)++spW) hs rfl rfl af ?_ cZ (kM aj spW) (iH aj spW _);intro w hs
      refine .go ?_
      refine .D hs ?_
      refine nB (nT ?_)
      exact ⟨{s.sp with wa:=s.sp.wa.set k59 z3},_,_,aR,rfl,bV,hO1,y8 hO2 _,hs.sb⟩
     ·refine .ai (.z gC (.z zg (.nil ?_)))
      refine (.bM rfl (fun hc63=>?_) (fun hc63=>?_))
      ·refine .region ?_
       refine .z (zia 2 aM af) ?_
       refine .y hs (zld ae) (.z (zfa aS) (.z (zfa ed) (.z (zfa jr) ?_)))
       refine .o (.store hs rfl rfl af fun w hs=>?_)
       refine .nil ?_
       refine nB (nT ?_)
       exact ⟨{s.sp with al:=z3},_,_,aR,rfl,rfl,hO1,hO2,hs.sb⟩
      ·refine .ai (.z gC (.z zg (.nil ?_)))
       refine (.bM rfl (fun hc70=>?_) (fun hc70=>?_))
       ·refine .region ?_
        refine .z (zia 2 aM af) ?_
        refine .y hs (zld ae) (.z (zfa aS) (.z (zfa ed) (.z (zfa jq) ?_)))
        refine .o (.store hs rfl rfl af fun w hs=>?_)
        refine .nil ?_
        refine nB (nT ?_)
        exact ⟨{s.sp with up:=z3},_,_,aR,rfl,rfl,hO1,hO2,hs.sb⟩
       ·refine .skip ?_
        refine nB (nT ?_)
        exact ⟨s.sp,_,_,aR,rfl,rfl,hO1,hO2,hs.sb⟩
 ·clear hs hO1 hO2
  rintro fs w ⟨sp',f1,f2,hfs,hl1,hl2,hO1,hO2,hs⟩
  refine WE.sub ?_ hfs
  clear hfs
  refine .cut (fun fs w=>∃(R:List Rdg) (f3:Ent) (ar':Option Addr) (cr':Nat),j9 fs ⟨225,[],[(6,I (k:Int)),(5,.pointer (some ⟨b5,0,none⟩)),(3,.pointer (some ⟨b3,0,none⟩)),(2,.pointer (some ⟨b2,0,none⟩))]⟩∧R.length≤15∧cn 7 (.slice ar' R.length cr') (rdc R).flatten f3∧St H1 w (f1::f2::f3::e4:: .blk b5 [I z1,I z2,I z3]:: .blk b3 [I sp'.id,I sp'.src,.slice (some ⟨bS,0,none⟩) s.sp.st.length cS,.slice (some ⟨bW,0,none⟩) s.sp.wa.length cW,I sp'.al,I sp'.up,.slice ar' R.length cr',.slice ac s.cs.length cc]:: .blk b2 [I 0,I 0,.slice none 0 0,.slice none 0 0,I 0,I 0,.slice none 0 0,.slice none 0 0]::σ)) ?_ ?_
  ·refine .ai (.z (zfa aN) (.y hs (zld bu) (.z (c9 az) (.z kD (.nil ?_)))))
   refine (.bM rfl (fun hc80=>?_) (fun hc80=>?_))
   ·refine .ai ?_
    refine .z (zia 1 aM af) ?_
    refine .y hs (zld ae) (.z (zfa aN) (.y hs (zld bu) (.z (c9 az) ?_)))
    obtain ⟨bR,cR,spR,hv,rfl,hcapR⟩:=hO3.EA (iY _) aj (by rw [dn];omega)
    simp only [Value.slice.injEq] at hv
    obtain ⟨rfl,hv2,rfl⟩:=hv
    refine .o (.call cJ rfl (bK hs aj) ?_);rintro _ w ⟨i,gi_,rfl,hs⟩
    obtain ⟨r,hr⟩:=nth (l:=s.rs) (k:=i) aj
    have hbR:∀j<7,Nat.blt (i*7+j) ((rdc s.rs).flatten++spR).length=true:=fun j hj=>Nat.ble_eq_true_of_le (by rw [List.length_append,bT _ (iY _),dn];omega)
    refine .z zg (.nil (.ai (.z zm (.nil (.block (.seq (.ai (.z gC (.z zg ?_)))))))))
    refine .nil ?_
    refine (.bM rfl (fun hc88=>?_) (fun hc88=>?_))
    ·refine .skip ?_
     refine nT ?_
     refine (.cT ?_)
     refine .region (.z (zfa aN) (.y hs (zld bu) (.z zm ?_)))
     refine .z (zia 2 aM af) ?_
     refine .y hs (zld ae) ?_
     first|(refine .ixw hs az aH ?_;intro b97 o97 hc97)|refine .z (ni az aH) ?_
     refine .z (zfa db) ?_
     refine .o (.store (c':=(rdc (s.rs.set i {r with val:=z3})).flatten++spR) hs rfl rfl af ?_ cZ (hbR 3 aj) (ky hr aj rfl spR));intro w hs
     refine .nil ?_
     refine nB (nT ?_)
     exact ⟨s.rs.set i {r with val:=z3},_,some ⟨bR,0,none⟩,cr,aR,by rw [List.length_set];omega,by rw [List.length_set];exact kz hO3,by rw [List.length_set];exact hs.sb⟩
    ·refine .ai (.z gC (.z zg (.nil ?_)))
     refine (.bM rfl (fun hc88=>?_) (fun hc88=>?_))
     ·refine .skip ?_
      refine nT ?_
      refine (.cT ?_)
      refine .region (.z (zfa aN) (.y hs (zld bu) (.z zm ?_)))
      refine .z (zia 2 aM af) ?_
      refine .y hs (zld ae) ?_
      first|(refine .ixw hs az aH ?_;intro b97 o97 hc97)|refine .z (ni az aH) ?_
      refine .z (zfa db) ?_
      refine .o (.store (c':=(rdc (s.rs.set i {r with val:=z3})).flatten++spR) hs rfl rfl af ?_ cZ (hbR 3 aj) (ky hr aj rfl spR));intro w hs
      refine .nil ?_
      refine nB (nT ?_)
      exact ⟨s.rs.set i {r with val:=z3},_,some ⟨bR,0,none⟩,cr,aR,by rw [List.length_set];omega,by rw [List.length_set];exact kz hO3,by rw [List.length_set];exact hs.sb⟩
     ·refine .region (.z gC (.z zg (.nil ?_)))
      refine nT ?_
      refine (.bM rfl (fun hc88=>?_) (fun hc88=>?_))
      ·refine .region (.z (zfa aN) (.y hs (zld bu) (.z zm ?_)))
       refine .z (zia 2 aM af) ?_
       refine .y hs (zld ae) ?_
       first|(refine .ixw hs az aH ?_;intro b97 o97 hc97)|refine .z (ni az aH) ?_
       refine .z (zfa db) ?_
       refine .o (.store (c':=(rdc (s.rs.set i {r with val:=z3})).flatten++spR) hs rfl rfl af ?_ cZ (hbR 3 aj) (ky hr aj rfl spR));intro w hs
       refine .nil ?_
       refine nB (nT ?_)
       exact ⟨s.rs.set i {r with val:=z3},_,some ⟨bR,0,none⟩,cr,aR,by rw [List.length_set];omega,by rw [List.length_set];exact kz hO3,by rw [List.length_set];exact hs.sb⟩
      ·refine .ai (.z gC (.z zg (.nil ?_)))
       refine (.bM rfl (fun hc99=>?_) (fun hc99=>?_))
       ·refine .region (.z (zfa aN) (.y hs (zld bu) (.z zm ?_)))
        refine .z (zia 2 aM af) ?_
        refine .y hs (zld ae) ?_
        first|(refine .ixw hs az aH ?_;intro b106 o106 hc106)|refine .z (ni az aH) ?_
        refine .z (zfa ck) ?_
        refine .o (.store (c':=(rdc (s.rs.set i {r with tol:=z3})).flatten++spR) hs rfl rfl af ?_ cZ (hbR 4 aj) (ky hr aj rfl spR));intro w hs
        refine .nil ?_
        refine nB (nT ?_)
        exact ⟨s.rs.set i {r with tol:=z3},_,some ⟨bR,0,none⟩,cr,aR,by rw [List.length_set];omega,by rw [List.length_set];exact kz hO3,by rw [List.length_set];exact hs.sb⟩
       ·refine .ai (.z gC (.z zg (.nil ?_)))
        refine (.bM rfl (fun hc108=>?_) (fun hc108=>?_))
        ·refine .region (.z (zfa aN) (.y hs (zld bu) (.z zm ?_)))
         refine .z (zia 2 aM af) ?_
         refine .y hs (zld ae) ?_
         first|(refine .ixw hs az aH ?_;intro b115 o115 hc115)|refine .z (ni az aH) ?_
         refine .z (zfa eF) ?_
         refine .o (.store (c':=(rdc (s.rs.set i {r with tape:=z3})).flatten++spR) hs rfl rfl af ?_ cZ (hbR 5 aj) (ky hr aj rfl spR));intro w hs
         refine .nil ?_
         refine nB (nT ?_)
         exact ⟨s.rs.set i {r with tape:=z3},_,some ⟨bR,0,none⟩,cr,aR,by rw [List.length_set];omega,by rw [List.length_set];exact kz hO3,by rw [List.length_set];exact hs.sb⟩
        ·refine .ai (.z gC (.z zg (.nil ?_)))
         refine (.bM rfl (fun hc117=>?_) (fun hc117=>?_))
         ·refine .region (.z (zfa aN) (.y hs (zld bu) (.z zm ?_)))
          refine .z (zia 2 aM af) ?_
          refine .y hs (zld ae) ?_
          first|(refine .ixw hs az aH ?_;intro b124 o124 hc124)|refine .z (ni az aH) ?_
          refine .z (zfa eE) ?_
          refine .o (.store (c':=(rdc (s.rs.set i {r with day:=z3})).flatten++spR) hs rfl rfl af ?_ cZ (hbR 6 aj) (ky hr aj rfl spR));intro w hs
          refine .nil ?_
          refine nB (nT ?_)
          exact ⟨s.rs.set i {r with day:=z3},_,some ⟨bR,0,none⟩,cr,aR,by rw [List.length_set];omega,by rw [List.length_set];exact kz hO3,by rw [List.length_set];exact hs.sb⟩
         ·refine .ai (.z gC (.z zg (.nil ?_)))
          refine (.bM rfl (fun hc126=>?_) (fun hc126=>?_))
          ·refine .region (.z (zfa aN) (.y hs (zld bu) (.z zm ?_)))
           refine .z (zia 2 aM af) ?_
           refine .y hs (zld ae) ?_
           first|(refine .ixw hs az aH ?_;intro b133 o133 hc133)|refine .z (ni az aH) ?_
           refine .z (zfa ff) ?_
           refine .o (.store (c':=(rdc (s.rs.set i {r with st:=z3})).flatten++spR) hs rfl rfl af ?_ cZ (hbR 1 aj) (ky hr aj rfl spR));intro w hs
           refine .nil ?_
           refine nB (nT ?_)
           exact ⟨s.rs.set i {r with st:=z3},_,some ⟨bR,0,none⟩,cr,aR,by rw [List.length_set];omega,by rw [List.length_set];exact kz hO3,by rw [List.length_set];exact hs.sb⟩
          ·refine .ai (.z gC (.z zg (.nil ?_)))
           refine (.bM rfl (fun hc135=>?_) (fun hc135=>?_))
           ·refine .region (.z (zfa aN) (.y hs (zld bu) (.z zm ?_)))
            refine .z (zia 2 aM af) ?_
            refine .y hs (zld ae) ?_
            first|(refine .ixw hs az aH ?_;intro b142 o142 hc142)|refine .z (ni az aH) ?_
            refine .z (zfa fc) ?_
            refine .o (.store (c':=(rdc (s.rs.set i {r with wa:=z3})).flatten++spR) hs rfl rfl af ?_ cZ (hbR 2 aj) (ky hr aj rfl spR));intro w hs
            refine .nil ?_
            refine nB (nT ?_)
            exact ⟨s.rs.set i {r with wa:=z3},_,some ⟨bR,0,none⟩,cr,aR,by rw [List.length_set];omega,by rw [List.length_set];exact kz hO3,by rw [List.length_set];exact hs.sb⟩
           ·refine .ai (.z gC (.z zg (.nil ?_)))
            refine (.bM rfl (fun hc144=>?_) (fun hc144=>?_))
            ·refine .region (.z (zfa aN) (.y hs (zld bu) (.z zm ?_)))
             refine .z (zia 2 aM af) ?_
             refine .y hs (zld ae) ?_
             first|(refine .ixw hs az aH ?_;intro b151 o151 hc151)|refine .z (ni az aH) ?_
             refine .z (zfa eG) ?_
             refine .o (.store (c':=(rdc (s.rs.set i {r with src:=z3})).flatten++spR) hs rfl rfl af ?_ cZ (hbR 0 aj) (ky hr aj rfl spR));intro w hs
             refine .nil ?_
             refine nB (nT ?_)
             exact ⟨s.rs.set i {r with src:=z3},_,some ⟨bR,0,none⟩,cr,aR,by rw [List.length_set];omega,by rw [List.length_set];exact kz hO3,by rw [List.length_set];exact hs.sb⟩
            ·refine .seq (.ai (.z gC (.z zg (.nil ?_))))
             refine (.bM rfl (fun hc153=>?_) (fun hc153=>?_))
             ·refine .skip ?_
              refine nT ?_
              refine (.cT ?_)
              refine .ai (.z (zfa aN) (.y hs (zld bu) (.z zm ?_)))
              first|(refine .ixw hs az aH ?_;intro b159 o159 hc159)|refine .z (ni az aH) ?_
              refine .y hs (zls r.c dN aH (hr:= .own (by repeat (first|exact .here|refine .there ?_)) (u4 (iY _) (vV hr) spR))) ?_
              have hrOk:=hM.ok.early.2.2.2.1 r (List.mem_of_getElem? hr)
              have hrtol:=hrOk.tol
              refine .o (.alloc hs eH rfl fun b8 w hs=>?_)
              refine .o (.aU (vs:=[_,_,_,_,_,_,_]) hs rfl rfl aH fun w hs=>?_)
              refine .nil (.ai (.z (zfa eG) ?_))
              refine .o (.store hs rfl rfl af fun w hs=>?_)
              refine .nil (.ai ?_)
              refine .z (zia 2 aM af) ?_
              refine .y hs (zld ae) (.z (zfa ck) (.y hs (zld ae) (.z gW (.z cq ?_))))
              refine .o (.call cJ rfl (bK hs aj) ?_);rintro _ w ⟨k168,g168,rfl,hs⟩
              refine .z (zfa db) ?_
              refine .o (.store hs rfl rfl af fun w hs=>?_)
              refine .nil (.region (.z (zfa aN) (.y hs (zld bu) (.y hs (zls [_,_,_,_,_,_,_] dN aH) ?_))))
              refine .o (.buildSlice (cells:=Rdg.c ⟨50,r.st,r.wa,(k168:Int),r.tol,r.tape,r.day⟩) hs fl rfl an fun b173 w hs=>?_)
              refine .o (.append (ys:=Rdg.c ⟨50,r.st,r.wa,(k168:Int),r.tol,r.tape,r.day⟩) hs cQ rfl rfl hO3 (.own .here rfl rfl) (by simp [Rdg.c,Value.oneCell']) (fun l' h=>by rw [bT _ (iY _),dn] at h;omega) ?_);intro v174 en174 w hO5 hs
              rw [←qe] at hO5
              obtain ⟨a174,c174,rfl⟩:=hO5.iD (iY _) aj
              rw [dn] at hO5 ⊢
              refine .z (zfa aN) ?_
              refine .o (.store hs rfl rfl mE fun w hs=>?_)
              refine .nil ?_
              refine nB (nT ?_)
              exact ⟨s.rs++[⟨50,r.st,r.wa,(k168:Int),r.tol,r.tape,r.day⟩],_,a174,c174,aR,by simp;omega,hO5,hs.sb⟩
             ·refine .region (.z gC (.z zg (.nil ?_)))
              refine nT ?_
              refine (.bM rfl (fun hc153=>?_) (fun hc153=>?_))
              ·refine .ai (.z (zfa aN) (.y hs (zld bu) (.z zm ?_)))
               first|(refine .ixw hs az aH ?_;intro b159 o159 hc159)|refine .z (ni az aH) ?_
               refine .y hs (zls r.c dN aH (hr:= .own (by repeat (first|exact .here|refine .there ?_)) (u4 (iY _) (vV hr) spR))) ?_
               have hrOk:=hM.ok.early.2.2.2.1 r (List.mem_of_getElem? hr)
               have hrtol:=hrOk.tol
               refine .o (.alloc hs eH rfl fun b8 w hs=>?_)
               refine .o (.aU (vs:=[_,_,_,_,_,_,_]) hs rfl rfl aH fun w hs=>?_)
               refine .nil (.ai (.z (zfa eG) ?_))
               refine .o (.store hs rfl rfl af fun w hs=>?_)
               refine .nil (.ai ?_)
               refine .z (zia 2 aM af) ?_
               refine .y hs (zld ae) (.z (zfa ck) (.y hs (zld ae) (.z gW (.z cq ?_))))
               refine .o (.call cJ rfl (bK hs aj) ?_);rintro _ w ⟨k168,g168,rfl,hs⟩
               refine .z (zfa db) ?_
               refine .o (.store hs rfl rfl af fun w hs=>?_)
               refine .nil (.region (.z (zfa aN) (.y hs (zld bu) (.y hs (zls [_,_,_,_,_,_,_] dN aH) ?_))))
               refine .o (.buildSlice (cells:=Rdg.c ⟨50,r.st,r.wa,(k168:Int),r.tol,r.tape,r.day⟩) hs fl rfl an fun b173 w hs=>?_)
               refine .o (.append (ys:=Rdg.c ⟨50,r.st,r.wa,(k168:Int),r.tol,r.tape,r.day⟩) hs cQ rfl rfl hO3 (.own .here rfl rfl) (by simp [Rdg.c,Value.oneCell']) (fun l' h=>by rw [bT _ (iY _),dn] at h;omega) ?_);intro v174 en174 w hO5 hs
               rw [←qe] at hO5
               obtain ⟨a174,c174,rfl⟩:=hO5.iD (iY _) aj
               rw [dn] at hO5 ⊢
               refine .z (zfa aN) ?_
               refine .o (.store hs rfl rfl mE fun w hs=>?_)
               refine .nil ?_
               refine nB (nT ?_)
               exact ⟨s.rs++[⟨50,r.st,r.wa,(k168:Int),r.tol,r.tape,r.day⟩],_,a174,c174,aR,by simp;omega,hO5,hs.sb⟩
              ·refine .skip ?_
               refine nB (nT ?_)
               exact ⟨s.rs,_,some ⟨bR,0,none⟩,cr,aR,aj,hO3,hs.sb⟩
   ·refine .skip ?_
    refine nT ?_
    exact ⟨s.rs,_,ar,cr,aR,aj,hO3,hs.sb⟩
  ·clear hs hO3
   rintro fs w ⟨R,f3,ar',cr',hfs,hRl,hO3,hs⟩
   refine WE.sub ?_ hfs
   clear hfs
   refine .cut (fun fs w=>∃(C:List Cmp) (f4:Ent) (ac':Option Addr) (cc':Nat),j9 fs ⟨225,[],[(3,.pointer (some ⟨b3,0,none⟩)),(2,.pointer (some ⟨b2,0,none⟩))]⟩∧C.length≤5∧cn 6 (.slice ac' C.length cc') (cmc C).flatten f4∧St H1 w (f1::f2::f3::f4:: .blk b3 [I sp'.id,I sp'.src,.slice (some ⟨bS,0,none⟩) s.sp.st.length cS,.slice (some ⟨bW,0,none⟩) s.sp.wa.length cW,I sp'.al,I sp'.up,.slice ar' R.length cr',.slice ac' C.length cc']:: .blk b2 [I 0,I 0,.slice none 0 0,.slice none 0 0,I 0,I 0,.slice none 0 0,.slice none 0 0]::σ)) ?_ ?_
   ·refine .ai (.z (zfa bU) (.y hs (zld dW) (.z (c9 aW) (.z kD (.nil ?_)))))
    refine (.bM rfl (fun hc179=>?_) (fun hc179=>?_))
    ·refine .ai ?_
     refine .z (zia 1 aM af) ?_
     refine .y hs (zld ae) (.z (zfa bU) (.y hs (zld dW) (.z (c9 aW) ?_)))
     obtain ⟨bC,cC,spC,hv,rfl,hcapC⟩:=hO4.EA (rL _) aj (by rw [fH];omega)
     simp only [Value.slice.injEq] at hv
     obtain ⟨rfl,hv2,rfl⟩:=hv
     refine .o (.call cJ rfl (bK hs aj) ?_);rintro _ w ⟨i,gi_,rfl,hs⟩
     obtain ⟨c,hc⟩:=nth (l:=s.cs) (k:=i) aj
     have hbC:∀j<6,Nat.blt (i*6+j) ((cmc s.cs).flatten++spC).length=true:=fun j hj=>Nat.ble_eq_true_of_le (by rw [List.length_append,bT _ (rL _),fH];omega)
     refine .z zg (.nil (.ai (.z zm (.nil (.block (.seq (.ai (.z gC (.z zg ?_)))))))))
     refine .nil ?_
     refine (.bM rfl (fun hc187=>?_) (fun hc187=>?_))
     ·refine .skip ?_
      refine nT ?_
      refine (.cT ?_)
      refine .region (.z (zfa bU) (.y hs (zld dW) (.z zm ?_)))
      refine .z (zia 2 aM af) ?_
      refine .y hs (zld ae) ?_
      first|(refine .ixw hs aW bY ?_;intro b195 o195 hc195)|refine .z (ni aW bY) ?_
      refine .z (zfa fh) ?_
      refine .o (.store (c':=(cmc (s.cs.set i {c with lo:=z3})).flatten++spC) hs rfl rfl af ?_ cZ (hbC 4 aj) (qD hc aj rfl spC));intro w hs
      refine .nil ?_
      refine nB (nT ?_)
      exact ⟨s.cs.set i {c with lo:=z3},_,some ⟨bC,0,none⟩,cc,aR,by rw [List.length_set];omega,by rw [List.length_set];exact qh hO4,by rw [List.length_set];exact hs.sb⟩
     ·refine .region (.z gC (.z zg (.nil ?_)))
      refine nT ?_
      refine (.bM rfl (fun hc187=>?_) (fun hc187=>?_))
      ·refine .region (.z (zfa bU) (.y hs (zld dW) (.z zm ?_)))
       refine .z (zia 2 aM af) ?_
       refine .y hs (zld ae) ?_
       first|(refine .ixw hs aW bY ?_;intro b195 o195 hc195)|refine .z (ni aW bY) ?_
       refine .z (zfa fh) ?_
       refine .o (.store (c':=(cmc (s.cs.set i {c with lo:=z3})).flatten++spC) hs rfl rfl af ?_ cZ (hbC 4 aj) (qD hc aj rfl spC));intro w hs
       refine .nil ?_
       refine nB (nT ?_)
       exact ⟨s.cs.set i {c with lo:=z3},_,some ⟨bC,0,none⟩,cc,aR,by rw [List.length_set];omega,by rw [List.length_set];exact qh hO4,by rw [List.length_set];exact hs.sb⟩
      ·refine .ai (.z gC (.z zg (.nil ?_)))
       refine (.bM rfl (fun hc197=>?_) (fun hc197=>?_))
       ·refine .region (.z (zfa bU) (.y hs (zld dW) (.z zm ?_)))
        refine .z (zia 2 aM af) ?_
        refine .y hs (zld ae) ?_
        first|(refine .ixw hs aW bY ?_;intro b204 o204 hc204)|refine .z (ni aW bY) ?_
        refine .z (zfa fg) ?_
        refine .o (.store (c':=(cmc (s.cs.set i {c with hi:=z3})).flatten++spC) hs rfl rfl af ?_ cZ (hbC 5 aj) (qD hc aj rfl spC));intro w hs
        refine .nil ?_
        refine nB (nT ?_)
        exact ⟨s.cs.set i {c with hi:=z3},_,some ⟨bC,0,none⟩,cc,aR,by rw [List.length_set];omega,by rw [List.length_set];exact qh hO4,by rw [List.length_set];exact hs.sb⟩
       ·refine .ai (.z gC (.z zg (.nil ?_)))
        refine (.bM rfl (fun hc206=>?_) (fun hc206=>?_))
        ·refine .region (.z (zfa bU) (.y hs (zld dW) (.z zm ?_)))
         refine .z (zia 2 aM af) ?_
         refine .y hs (zld ae) ?_
         first|(refine .ixw hs aW bY ?_;intro b213 o213 hc213)|refine .z (ni aW bY) ?_
         refine .z (zfa fG) ?_
         refine .o (.store (c':=(cmc (s.cs.set i {c with fr:=z3})).flatten++spC) hs rfl rfl af ?_ cZ (hbC 2 aj) (qD hc aj rfl spC));intro w hs
         refine .nil ?_
         refine nB (nT ?_)
         exact ⟨s.cs.set i {c with fr:=z3},_,some ⟨bC,0,none⟩,cc,aR,by rw [List.length_set];omega,by rw [List.length_set];exact qh hO4,by rw [List.length_set];exact hs.sb⟩
        ·refine .ai (.z gC (.z zg (.nil ?_)))
         refine (.bM rfl (fun hc215=>?_) (fun hc215=>?_))
         ·refine .region (.z (zfa bU) (.y hs (zld dW) (.z zm ?_)))
          refine .z (zia 2 aM af) ?_
          refine .y hs (zld ae) ?_
          first|(refine .ixw hs aW bY ?_;intro b222 o222 hc222)|refine .z (ni aW bY) ?_
          refine .z (zfa fi) ?_
          refine .o (.store (c':=(cmc (s.cs.set i {c with to:=z3})).flatten++spC) hs rfl rfl af ?_ cZ (hbC 3 aj) (qD hc aj rfl spC));intro w hs
          refine .nil ?_
          refine nB (nT ?_)
          exact ⟨s.cs.set i {c with to:=z3},_,some ⟨bC,0,none⟩,cc,aR,by rw [List.length_set];omega,by rw [List.length_set];exact qh hO4,by rw [List.length_set];exact hs.sb⟩
         ·refine .skip ?_
          refine nB (nT ?_)
          exact ⟨s.cs,_,some ⟨bC,0,none⟩,cc,aR,aj,hO4,hs.sb⟩
    ·refine .skip ?_
     refine nT ?_
     exact ⟨s.cs,_,ac,cc,aR,aj,hO4,hs.sb⟩
   ·clear hs hO4
    rintro fs w ⟨C,f4,ac',cc',hfs,hCl,hO4,hs⟩
    refine WE.sub ?_ hfs
    clear hfs
    refine .ai (.y hs (zls [_,_,_,_,_,_,_,_] aO aF) ?_)
    refine .o (.aU (vs:=[_,_,_,_,_,_,_,_]) hs rfl rfl aF fun w hs=>?_)
    refine .nil ?_
    refine .ret ?_
    have hV:DL ⟨sp',R,C⟩ (.slice (some ⟨bS,0,none⟩) s.sp.st.length cS) (.slice (some ⟨bW,0,none⟩) s.sp.wa.length cW) (.slice ar' R.length cr') (.slice ac' C.length cc') f1 f2 f3 f4:=⟨hO1,hO2,hO3,hO4⟩
    obtain ⟨Ha,hla,ra,hs⟩:=hO1.dI aj hs cZ
    obtain ⟨Hb,hlb,rb,hs⟩:=hO2.dI aj hs cZ
    obtain ⟨Hc,hlc,rc,hs⟩:=cn.cK (m:=7) (cs:=rdc R) hO3 (iY _) aj (by rw [dn];omega) hs cZ
    obtain ⟨Hd,hld,rd,hs⟩:=cn.cK (m:=6) (cs:=cmc C) hO4 (rL _) aj (by rw [fH];omega) hs cZ
    exact Fin.iK [] [] hs fun w hs=>⟨_,results1 Tryz.results23 (dJ (vs:=[_,_,_,_,_,_,_,_]) hs rfl aO aF),Hd,⟨sp',R,C⟩,_,_,_,_,hle1.trans (hla.trans (hlb.trans (hlc.trans hld))),rfl,ra.mono (hlb.trans (hlc.trans hld)),rb.mono (hlc.trans hld),RRd.mono rc hld,rd,⟨by show 2≤sp'.st.length∧sp'.st.length≤4;omega,by show 2≤sp'.wa.length∧sp'.wa.length≤3;omega,hRl,hCl⟩,hs.out⟩
end Go.Proofs.YtddaejgfjlneoaaGreat
