/-
  Texts of these claims, joined: Zz Na Ng Ni Nj No Nq Ns Nt Nv Nw Nx.
-/
import Derived.Test.YtddaejgfjlneoaaGreatHd
namespace Go.Proofs.YtddaejgfjlneoaaGreat
open Go.MW
variable{H:bJ}{w:World}{σ:List Ent}
instance (s:Spc) (r:Rdg):Decidable (jC s r):=
 decidable_of_iff ((1≤r.src∧r.src≤99999)∧(0≤r.st∧r.st≤(s.st.length:Int) - 1)∧(0≤r.wa∧r.wa≤(s.wa.length:Int) - 1)∧(0≤r.tol∧r.tol≤1000)∧(0≤r.val∧r.val≤20000 - r.tol)∧(1≤r.tape∧r.tape≤99)∧(0≤r.day∧r.day≤100000))
  ⟨fun ⟨a,b,c,d,e,f,g⟩=>⟨a,b,c,d,e,f,g⟩,fun ⟨a,b,c,d,e,f,g⟩=>⟨a,b,c,d,e,f,g⟩⟩
def gI(s:Spc)(rs:List Rdg):List Rdg:=rs.filter fun r=>decide (jC s r)
theorem zq(s:Spc){rs:List Rdg}{k:Nat}{r:Rdg}(h:rs[k]? =some r):gI s (rs.take (k+1))=if jC s r then gI s (rs.take k)++[r] else gI s (rs.take k):=by
 unfold gI
 rw [cU h,List.filter_append]
 by_cases e:jC s r
 ·simp [e]
 ·simp [e]
theorem su(s:Spc)(rs:List Rdg):(gI s rs).length≤rs.length:=List.length_filter_le _ _
theorem wm{s:Spc}{rs:List Rdg}{r:Rdg}(h:r∈gI s rs):r∈rs∧jC s r:=by
 unfold gI at h;simpa using List.mem_filter.1 h
theorem Cs{s:Spc}{rs:List Rdg}{t:TD}(h:t∈aU (gI s rs)):t∈aU rs:=by
 obtain ⟨r,h1,h2⟩:=fB.1 h
 exact fB.2 ⟨r,(wm h1).1,h2⟩
def l5(v:Srv)(x:List Int)(t:TD):Int:=gi x (v.sp.many+1+(gH v.bh t).toNat)
def E0(v:Srv)(x:List Int):List Int:=x.take (v.sp.many+1)++(aU (gI v.sp v.rs)).map (l5 v x)
set_option maxHeartbeats 1000000 in
theorem r6{vr:Value}{rs:List Rdg}(hs:St H w σ)(hr:RRd H vr rs)(hl:rs.length≤1000000):
  Cl Tryz.prog 94 [vr] w fun u w'=>∃en,bQ 2 u (tdc (aU rs)).flatten en∧St H w' (en::σ):=by
 obtain ⟨ar,cr,rfl⟩:=RRd.shape hr
 refine Cl.o Tryz.func94 Tryz.ntmps94 ag1 ?_
 refine .ai (.z zg (.nil (.ai (.z zg (.nil (.seq (.ai (.z zg (.nil ?_)))))))))
 refine .block ?_
 refine .loop (fun p:Nat×Value=>⟨32,[],[(4,I (p.1:Int)),(3,p.2),(0,.slice ar rs.length cr)]⟩)
  (fun p w=>p.1≤rs.length∧∃en,bQ 2 p.2 (tdc (aU (rs.take p.1))).flatten en∧St H w (en::σ)) (fun p=>rs.length - p.1) (0,.slice none 0 0) bA
  ⟨Nat.zero_le _,_,.nil 2 none,hs.nul⟩ ?_
 rintro ⟨k,vo⟩ w ⟨hk,en,hO,hs⟩
 dsimp only at hk hO ⊢
 have htl:=jN rs k aj
 obtain ⟨ao,co,rfl⟩:=hO.ja (kB _) aj
 rw [cN] at hO ⊢
 refine .seq (.ai (.z zm (.z zm (.z (cS aK) (.z ik (.nil ?_))))))
 refine (.cg rfl (fun hc9=>?_) (fun hc9=>?_))
 ·refine .skip ?_
  refine nT ?_
  refine .seq (.block ?_)
  refine .seq (.draw mix rfl hs fun w hs=>?_)
  refine .z 0 rfl zm ?_;refine .z 1 rfl zm ?_
  obtain ⟨r,hx⟩:=nth (l:=rs) (k:=k) aj
  have htk:=ib hx
  refine .ixX (enc:=Rdg.c) (i:=2) hs rfl an .none hr rfl rfl aK aW hx dK ?_;intro b14 o14 hc14
  have d14:cellAt H b14 (o14+5)=some (I r.tape):=hc14 5 _ rfl
  refine .z 3 rfl (zfa eg) ?_;refine .y 4 rfl hs ae ?_;refine .z 5 rfl zm ?_;refine .z 6 rfl zm ?_
  refine .ixX (enc:=Rdg.c) (i:=7) hs rfl an .none hr rfl rfl aK aW hx dK ?_;intro b19 o19 hc19
  have d19:cellAt H b19 (o19+6)=some (I r.day):=hc19 6 _ rfl
  refine .z 8 rfl (zfa ef) ?_;refine .y 9 rfl hs ae ?_;refine .z 10 rfl (zbd [_,_] fm) ?_
  refine .E 11 hs ?_
  refine .alloc hs kK rfl ?_;intro b5 w hs
  refine .go ?_
  refine .E 12 hs ?_
  refine .aQ (vs:=[_,_]) hs rfl rfl bk ?_;intro w hs
  refine .go ?_
  refine .D hs ?_
  refine .ai (.z zm (.y hs (zls [_,_] cP bk) ?_))
  refine .o (.call Tryz.call93 rfl (mm (t:=r.td) (hs.sb:St H w (en:: .blk b5 [I r.tape,I r.day]::σ)) hO aj) ?_);rintro _ w ⟨rfl,hs⟩
  have hnn:=kg (l:=aU (rs.take k)) (t:=r.td)
  refine .z ik (.nil ?_)
  refine (.cg rfl (fun hc26=>?_) (fun hc26=>?_))
  ·refine .region (.z zm (.y hs (zls [_,_] cP bk) ?_))
   refine .o (.buildSlice (cells:=[_,_]) hs fg rfl rfl fun b29 w hs=>?_)
   refine .o (.append (ys:=r.td.c) hs dm rfl rfl hO (.own .here rfl rfl) (by simp [TD.c,Value.oneCell']) (fun l h=>by rw [bO _ (kB _),cN] at h;omega) ?_);intro v30 en30 w hO2 hs
   refine .z zg (.nil ?_)
   refine nB (nT ?_)
   refine .region (.z zm (.z cC (.z zg (.nil ?_))))
   refine nT ?_
   have hn:r.td∉aU (rs.take k):=fun hm=>by have:=hnn.2 hm;omega
   rw [←rz,show aU (rs.take k)++[r.td]=aU (rs.take (k+1)) by rw [htk];unfold nx;rw [if_neg hn]] at hO2
   exact ⟨(k+1,v30),.cR rfl bR bA,⟨by dsimp only;omega,_,hO2,hs.sb⟩,by dsimp only;omega⟩
  ·refine .skip ?_
   refine nB (nT ?_)
   refine .region (.z zm (.z cC (.z zg (.nil ?_))))
   refine nT ?_
   have hm:r.td∈aU (rs.take k):=hnn.1 aj
   exact ⟨(k+1,_),.cR rfl bR bA,⟨by dsimp only;omega,en,by dsimp only;rw [htk];unfold nx;rw [if_pos hm];exact hO,hs.sb⟩,by dsimp only;omega⟩
 ·refine .exit ?_
  refine xT (xT (xB (nT ?_)))
  refine .ai (.z zm (.z zg (.nil ?_)))
  refine .ret (Fin.bD Tryz.results94 rfl ?_)
  obtain rfl:k=rs.length:=by omega
  rw [List.take_length] at hO
  exact ⟨en,by rw [List.take_length];exact hO,hs⟩
set_option maxHeartbeats 2000000 in
theorem oX{s:Srv}{x:List Int}{vst vwa vr vc vx:Value}(hs:St H w σ)(h1:RI H vst s.sp.st)(h2:RI H vwa s.sp.wa)(h3:RRd H vr s.rs)(hc:∃a l c,vc= .slice a l c)(hx:RI H vx x)(hxl:x.length=s.sys.n)(hb:s.sp.st.length≤1000∧s.sp.wa.length≤1000∧s.rs.length≤1000):
  Cl Tryz.prog 144 [.agg #[I s.sp.id,I s.sp.src,vst,vwa,I s.sp.al,I s.sp.up,vr,vc],vx] w fun u w'=>∃H1 vr' vy e1 e2,HLe H H1∧u= .tuple #[.agg #[I s.sp.id,I s.sp.src,vst,vwa,I s.sp.al,I s.sp.up,vr',vc],vy]∧bQ 7 vr' (rdc (gI s.sp s.rs)).flatten e1∧bQ 1 vy (Is (E0 s x)) e2∧St H1 w' (e1::e2::σ):=by
 obtain ⟨ast,cst,rfl⟩:=RI.shape h1
 obtain ⟨awa,cwa,rfl⟩:=RI.shape h2
 obtain ⟨ar,cr,rfl⟩:=RRd.shape h3
 obtain ⟨ac,lc,cc,rfl⟩:=hc
 obtain ⟨ax,cx,rfl⟩:=RI.shape hx
 have hm:s.sp.many≤1000000:=Nat.mul_le_mul hb.1 hb.2.1
 have hn:=nh s
 have htl:=cI s.rs
 refine Cl.o Tryz.func144 Tryz.ntmps144 ag2 ?_
 refine .ai ?_
 refine .bx hs fun b2 w hs=>?_
 refine .o (.alloc hs fc rfl fun b4 w hs=>?_)
 refine .z zg (.nil (.ai (.z (zfa bn) (.y hs (zld cz) ?_))))
 refine .o (.call Tryz.call94 rfl (gN (rs:=s.rs) hs h3 aj) ?_);rintro v15 w ⟨H1,hle1,hT,hs⟩
 obtain ⟨at',ct,rfl⟩:=RTd.shape hT
 refine .z zg (.nil (.ai (.z (zfa aN) (.y hs (zls [_,_,_,_,_,_] aM aE) ?_))))
 refine .o (.call Tryz.call97 rfl (fQ (s:=s.sp) hs (h1.mono hle1) (h2.mono hle1) ⟨hb.1,hb.2.1⟩) ?_);rintro _ w ⟨rfl,hs⟩
 refine .z zg (.nil (.ai (.y hs (zls [_,_,_,_,_,_,_,_] aJ aD) ?_)))
 refine .o (.alloc hs fc rfl fun b8 w hs=>?_)
 refine .o (.aQ (vs:=[_,_,_,_,_,_,_,_]) hs rfl rfl aD fun w hs=>?_)
 refine .nil (.ai (.z (zfa bn) ?_))
 refine .o (.store hs rfl rfl wQ fun w hs=>?_)
 refine .nil (.seq (.ai (.z zg (.nil (.block ?_)))))
 refine .loop (fun p:Nat×Value=>⟨78,[],[(9,I (p.1:Int)),(8,.pointer (some ⟨b8,0,none⟩)),(7,I (s.sp.many:Int)),(6,.slice at' (aU s.rs).length ct),(4,.pointer (some ⟨b4,0,none⟩)),(2,.pointer (some ⟨b2,0,none⟩)),(1,.slice ax x.length cx)]⟩)
  (fun p w=>p.1≤s.rs.length∧∃en,bQ 7 p.2 (rdc (gI s.sp (s.rs.take p.1))).flatten en∧St H1 w (en:: .blk b8 [I s.sp.id,I s.sp.src,.slice ast s.sp.st.length cst,.slice awa s.sp.wa.length cwa,I s.sp.al,I s.sp.up,p.2,.slice ac lc cc]:: .blk b4 [I 0,I 0,.slice none 0 0,.slice none 0 0,I 0,I 0,.slice none 0 0,.slice none 0 0]:: .blk b2 [I s.sp.id,I s.sp.src,.slice ast s.sp.st.length cst,.slice awa s.sp.wa.length cwa,I s.sp.al,I s.sp.up,.slice ar s.rs.length cr,.slice ac lc cc]::σ)) (fun p=>s.rs.length - p.1) (0,.slice none 0 0) bA
  ⟨Nat.zero_le _,_,.nil 7 none,hs.nul⟩ ?_
 clear hs
 rintro ⟨k,vo⟩ w ⟨hk,en,hO,hs⟩
 dsimp only at hk hO hs ⊢
 have hkl:=su s.sp (s.rs.take k)
 rw [List.length_take] at hkl
 obtain ⟨ao,lo,co,rfl,-⟩:=hO.shape
 refine .seq (.ai (.z zm (.z (zfa bn) (.y hs (zld cz) (.z (cS aK) (.z ik (.nil ?_)))))))
 refine (.cg rfl (fun hc25=>?_) (fun hc25=>?_))
 ·refine .skip ?_
  refine nT ?_
  refine .seq (.block ?_)
  refine .seq (.draw mix rfl hs fun w hs=>?_)
  refine .z 0 rfl (zfa aN) ?_;refine .ys 1 rfl hs [_,_,_,_,_,_] aM aE ?_;refine .z 2 rfl (zfa bn) ?_;refine .y 3 rfl hs cz ?_;refine .z 4 rfl zm ?_
  obtain ⟨r,hr⟩:=nth (l:=s.rs) (k:=k) aj
  have hsn:=zq s.sp hr
  refine .ixX (enc:=Rdg.c) (i:=5) hs rfl an .none (h3.mono hle1) rfl rfl aK aW hr dK ?_;intro b33 o33 hc33
  refine .r (i:=6) hs rfl an .none (bY (vs:=r.c) rfl eh aW hc33) ?_
  refine .E 7 hs ?_
  refine .call Tryz.call109 rfl (lk (s:=s.sp) (r:=r) hs (h1.mono hle1) (h2.mono hle1)) ?_;rintro _ w ⟨b35,rfl,hb35,hs⟩
  refine .go ?_
  refine .D hs ?_
  refine (.cond rfl (fun hc35=>?_) (fun hc35=>?_))
  ·refine .draw mix rfl hs fun w hs=>?_
   refine .z 0 rfl (zfa bn) ?_;refine .y 1 rfl hs cz ?_;refine .z 2 rfl (zfa bn) ?_;refine .y 3 rfl hs cz ?_;refine .z 4 rfl zm ?_
   refine .ixX (enc:=Rdg.c) (i:=5) hs rfl an .none (h3.mono hle1) rfl rfl aK aW hr dK ?_;intro b41 o41 hc41
   refine .r (i:=6) hs rfl an .none (bY (vs:=r.c) rfl eh aW hc41) ?_
   refine .E 7 hs ?_
   refine .buildSlice (cells:=r.c) hs gJ rfl an ?_;intro b43 w hs
   refine .go ?_
   refine .E 8 hs ?_
   refine .append (ys:=r.c) hs dn rfl rfl hO (.own .here rfl rfl) (by simp [Rdg.c,Value.oneCell']) (fun l' h=>by rw [bO _ (nk _),fi] at h;omega) ?_;intro v44 en44 w hO2 hs
   rw [←uo,show gI s.sp (s.rs.take k)++[r]=gI s.sp (s.rs.take (k+1)) by rw [hsn,if_pos (hb35.1 (by simpa using hc35))]] at hO2
   obtain ⟨a44,l44,c44,rfl,-⟩:=hO2.shape
   refine .go ?_
   refine .z 9 rfl (zfa bn) ?_
   refine .E 10 hs ?_
   refine .store hs rfl rfl wQ ?_;intro w hs
   refine .go ?_
   refine .D hs ?_
   refine nB (nT ?_)
   refine .region (.z zm (.z cC (.z zg (.nil ?_))))
   refine nT ?_
   exact ⟨(k+1,.slice a44 l44 c44),.cR rfl bR bA,⟨by dsimp only;omega,_,hO2,hs.sb⟩,by dsimp only;omega⟩
  ·refine .skip ?_
   refine nB (nT ?_)
   refine .region (.z zm (.z cC (.z zg (.nil ?_))))
   refine nT ?_
   exact ⟨(k+1,.slice ao lo co),.cR rfl bR bA,⟨by dsimp only;omega,en,by dsimp only;rw [hsn,if_neg (fun h=>by rw [hb35.2 h] at hc35;cases hc35)];exact hO,hs.sb⟩,by dsimp only;omega⟩
 ·refine .exit ?_
  refine xT (xT (xB (nT ?_)))
  refine .ai ?_
  obtain rfl:k=s.rs.length:=by omega
  rw [List.take_length] at hO
  refine .o (.buildSlice (cells:=[]) hs qJ rfl rfl fun b46 w hs=>?_)
  refine .z zm (.z zm (.z cC ?_))
  refine .q hs (mr (k:=s.sp.many+1) rfl rfl ad af rfl (by have:=(RS.len hx).2.1;omega)) ?_
  refine .o (.append (xs:=[]) (ys:=Is (x.take (s.sp.many+1))) hs bH rfl rfl (.full (len:=0) rfl) (.ints (RI.head (hx.mono hle1) (k:=s.sp.many+1) aj)) (fN _) (fun l h=>by simp at h;rw [List.length_take];omega) ?_);intro v51 en51 w hO3 hs
  rw [List.nil_append] at hO3
  refine .z zg (.nil (.ai (.z (zfa bn) (.y hs (zld cz) ?_))))
  have hkl:=su s.sp s.rs
  obtain ⟨H2,hle2,hRR,hs2,back⟩:=hO.xp (nk _) aj (by rw [fi];omega) (hs.sb:St H1 w (en::en51:: .blk b8 [I s.sp.id,I s.sp.src,.slice ast s.sp.st.length cst,.slice awa s.sp.wa.length cwa,I s.sp.al,I s.sp.up,.slice ao lo co,.slice ac lc cc]:: .blk b4 [I 0,I 0,.slice none 0 0,.slice none 0 0,I 0,I 0,.slice none 0 0,.slice none 0 0]:: .blk b2 [I s.sp.id,I s.sp.src,.slice ast s.sp.st.length cst,.slice awa s.sp.wa.length cwa,I s.sp.al,I s.sp.up,.slice ar s.rs.length cr,.slice ac lc cc]::σ))
  refine .o (.call Tryz.call94 rfl (r6 (rs:=gI s.sp s.rs) hs2 hRR aj) ?_);rintro v54 w ⟨enT,hOT,hsT⟩
  have hs:=back (HLe.refl _) hsT
  have htl':=cI (gI s.sp s.rs)
  obtain ⟨H3,hle3,hT3,hs⟩:=bQ.bX (m:=2) (cs:=tdc (aU (gI s.sp s.rs))) hOT (kB _) aj (by rw [cN];omega) hs (.there .here)
  have hT3:RTd H3 v54 (aU (gI s.sp s.rs)):=hT3
  obtain ⟨a54,c54,rfl⟩:=RTd.shape hT3
  refine .z zg (.nil (.seq (.ai (.z zg (.nil (.block ?_))))))
  refine .loop (fun p:Nat×Value=>⟨78,[],[(12,I (p.1:Int)),(10,p.2),(11,.slice a54 (aU (gI s.sp s.rs)).length c54),(8,.pointer (some ⟨b8,0,none⟩)),(7,I (s.sp.many:Int)),(6,.slice at' (aU s.rs).length ct),(4,.pointer (some ⟨b4,0,none⟩)),(1,.slice ax x.length cx)]⟩)
   (fun p w=>p.1≤(aU (gI s.sp s.rs)).length∧∃en2,bQ 1 p.2 (Is (x.take (s.sp.many+1)++((aU (gI s.sp s.rs)).take p.1).map (l5 s x))) en2∧St H3 w (en2:: .blk b8 [I s.sp.id,I s.sp.src,.slice ast s.sp.st.length cst,.slice awa s.sp.wa.length cwa,I s.sp.al,I s.sp.up,.slice ao lo co,.slice ac lc cc]:: .blk b4 [I 0,I 0,.slice none 0 0,.slice none 0 0,I 0,I 0,.slice none 0 0,.slice none 0 0]::en::σ)) (fun p=>(aU (gI s.sp s.rs)).length - p.1) (0,v51) bA
   ⟨Nat.zero_le _,en51,by simpa using hO3,hs.sb⟩ ?_
  clear hs
  rintro ⟨j,vy⟩ w ⟨hj,en2,hO4,hs⟩
  dsimp only at hj hO4 hs ⊢
  obtain ⟨ay,ly,cy,rfl,-⟩:=hO4.shape
  refine .seq (.ai (.z zm (.z zm (.z (cS aO) (.z ik (.nil ?_))))))
  refine (.cg rfl (fun hc58=>?_) (fun hc58=>?_))
  ·refine .skip ?_
   refine nT ?_
   refine .seq (.block (.region (.z zm (.z zm (.z zm (.z cC (.z zm (.z zm (.z zm ?_)))))))))
   obtain ⟨t,ht⟩:=nth (l:=aU (gI s.sp s.rs)) (k:=j) aj
   have htm:t∈s.bh:=Cs (List.mem_of_getElem? ht)
   obtain ⟨q,q1,q2,q3⟩:=ek htm
   have q3':q<(aU s.rs).length:=q3
   have q1':gH (aU s.rs) t=(q:Int):=q1
   have hnt:s.sys.n=s.sp.many+(aU s.rs).length+1:=hn
   have herr:l5 s x t=gi x (s.sp.many+1+q):=by unfold l5;rw [q1,Int.toNat_natCast]
   refine .ixX (enc:=TD.c) hs hT3 rfl rfl aO bk ht dK ?_;intro b68 o68 hc68
   refine .q hs (bY (vs:=t.c) rfl cP bk hc68) ?_
   refine .o (.call Tryz.call93 rfl (js (t:=t) hs (hT.mono hle3) aj) ?_);rintro _ w ⟨rfl,hs⟩
   rw [q1']
   refine .z cC ?_
   refine .ixY hs (hx.mono (hle1.trans hle3)) rfl rfl ad af (bL (l:=x) (i:=s.sp.many+1+q) aj) aj ?_;intro b72 o72 hc72
   refine .q hs (aZ rfl ae hc72) ?_
   refine .o (.buildSlice (cells:=[_]) hs bP rfl rfl fun b74 w hs=>?_)
   refine .o (.append (ys:=Is [gi x (s.sp.many+1+q)]) hs bH rfl rfl hO4 (.own .here rfl rfl) (fN _) (fun l' h=>by simp at h;omega) ?_);intro v75 en75 w hO5 hs
   rw [←List.map_append,List.append_assoc,←herr,show ((aU (gI s.sp s.rs)).take j).map (l5 s x)++[l5 s x t]=((aU (gI s.sp s.rs)).take (j+1)).map (l5 s x) by rw [cU ht];simp] at hO5
   obtain ⟨a75,l75,c75,rfl,-⟩:=hO5.shape
   refine .z zg (.nil ?_)
   refine nB (nT ?_)
   refine .region (.z zm (.z cC (.z zg (.nil ?_))))
   refine nT ?_
   exact ⟨(j+1,.slice a75 l75 c75),.cR rfl bR bA,⟨by dsimp only;omega,_,hO5,hs.sb⟩,by dsimp only;omega⟩
  ·refine .exit ?_
   refine xT (xT (xB (nT ?_)))
   refine .ai (.y hs (zls [_,_,_,_,_,_,_,_] aJ aD) (.z zm ?_))
   refine .o (.aQ (vs:=[_,_,_,_,_,_,_,_]) hs rfl rfl aD fun w hs=>?_)
   refine .z zg (.nil ?_)
   refine .ret ?_
   obtain rfl:j=(aU (gI s.sp s.rs)).length:=by omega
   rw [List.take_length] at hO4
   exact Fin.gV [] [] hs fun w hs=>⟨_,results2 Tryz.results144 (di (vs:=[_,_,_,_,_,_,_,_]) hs rfl aJ aD) rfl,H3,_,_,en,en2,hle1.trans hle3,rfl,hO,hO4,hs.sb⟩
theorem zp{s:Spc}{rs R:List Rdg}{cs:List Cmp}{x:List Int}(hf:fH (Srv.nq ⟨s,rs,cs⟩).cj (gi x))(hx0:gi x 0=0)(hxl:x.length=s.many+(aU rs).length+1)(ht:aU R=aU rs)(hS:∀r∈R,RdS s r)(hR:∀r∈R,Be s (aU rs) x r):
  ky ⟨s,gI s R,cs⟩ (E0 ⟨s,R,cs⟩ x):=by
 have hl:(x.take (s.many+1)).length=s.many+1:=by rw [List.length_take];omega
 refine AD (R:=R) (x:=x) List.filter_sublist hS hx0 (AQ hf ht hR) ?_ (fun b hb=>?_) fun j hj=>?_
 ·show (x.take (s.many+1)++(aU (gI s R)).map (l5 ⟨s,R,cs⟩ x)).length=_
  rw [List.length_append,hl,List.length_map]
 ·show gi (x.take (s.many+1)++(aU (gI s R)).map (l5 ⟨s,R,cs⟩ x)) b=_
  unfold gi
  simp only [List.getD]
  rw [List.getElem?_append_left aj,List.getElem?_take_of_lt aj]
 ·show gi (x.take (s.many+1)++(aU (gI s R)).map (l5 ⟨s,R,cs⟩ x)) (s.many+1+j)=_
  have e:∀t,(aU (gI s R))[j]? =some t→gi (x.take (s.many+1)++(aU (gI s R)).map (l5 ⟨s,R,cs⟩ x)) (s.many+1+j)=l5 ⟨s,R,cs⟩ x t:=fun t ht=>by
   unfold gi
   simp only [List.getD]
   rw [List.getElem?_append_right aj,hl,show s.many+1+j - (s.many+1)=j by omega,List.getElem?_map,ht]
   rfl
  rw [e _ (uf hj)];rfl
set_option maxHeartbeats 2000000 in
theorem s5{vs v5 v4 vp:Value}{sl pk:List Int}{fs5:List F5}{fs4:List F4}{z1 z2 z3:Int}(hs:St H w σ)(g1:RI H vs sl)(g2:RF5 H v5 fs5)(g3:RF4 H v4 fs4)(g4:RI H vp pk):
  Cl Tryz.prog 60 [.agg #[vs,v5,v4,vp,I z1,I z2,I z3]] w fun u w'=>∃H1 s y vst vwa vr vc vy e1 e2 e3 e4 e5,HLe H H1∧u= .tuple #[.agg #[I s.sp.id,I s.sp.src,vst,vwa,I s.sp.al,I s.sp.up,vr,vc],vy]∧Ff s∧Dh s vst vwa vr vc e1 e2 e3 e4∧bQ 1 vy (Is y) e5∧ky s y∧St H1 w' (e1::e2::e3::e4::e5::σ):=by
 obtain ⟨avs,cvs,rfl⟩:=RI.shape g1
 obtain ⟨av5,cv5,rfl⟩:=g2.shape
 obtain ⟨av4,cv4,rfl⟩:=g3.shape
 obtain ⟨avp,cvp,rfl⟩:=RI.shape g4
 refine Cl.o Tryz.func60 Tryz.ntmps60 ag1 ?_
 refine .ai ?_
 refine .bx hs fun b1 w hs=>?_
 refine .o (.alloc hs fc rfl fun b2 w hs=>?_)
 refine .z zg (.nil (.ai (.z (zfa mC) (.y hs (zld ak) ?_))))
 refine .o (.call Tryz.call35 rfl (oe hs g1) ?_);rintro _ w ⟨s,vst,vwa,e1,e2,rfl,hSp,hO1,hO2,hs⟩
 have hSt:=hSp.st
 have hWa:=hSp.wa
 have hSt2:=hSp.ok.st.two
 have hWa2:=hSp.ok.wa.two
 obtain ⟨ast,lst,cst,rfl,hlst⟩:=hO1.shape
 obtain ⟨awa,lwa,cwa,rfl,hlwa⟩:=hO2.shape
 obtain rfl:s.st.length=lst:=by simpa [Is] using hlst
 obtain rfl:s.wa.length=lwa:=by simpa [Is] using hlwa
 refine .z (zbd [_,_,_,_,_,_,_,_] nO) ?_
 refine .o (.alloc hs fc rfl fun b4 w hs=>?_)
 refine .o (.aQ (vs:=[_,_,_,_,_,_,_,_]) hs rfl rfl aD fun w hs=>?_)
 refine .nil (.ai (.z (zfa aN) (.y hs (zls [_,_,_,_,_,_] aM aE) ?_)))
 refine .o (.alloc hs iH rfl fun b5 w hs=>?_)
 refine .o (.aQ (vs:=[_,_,_,_,_,_]) hs rfl rfl aE fun w hs=>?_)
 refine .nil ?_
 refine .cut (fun fs w=>∃rs e3 ar cr,mT fs ⟨208,[],[(5,.pointer (some ⟨b5,0,none⟩)),(4,.pointer (some ⟨b4,0,none⟩)),(2,.pointer (some ⟨b2,0,none⟩)),(1,.pointer (some ⟨b1,0,none⟩))]⟩∧rs.length≤14∧rs.length≤fs5.length∧(∀r∈rs,jC s r)∧bQ 7 (.slice ar rs.length cr) (rdc rs).flatten e3∧St H w (e3:: .blk b5 [I s.id,I s.src,.slice ast s.st.length cst,.slice awa s.wa.length cwa,I s.al,I s.up]:: .blk b4 [I s.id,I s.src,.slice ast s.st.length cst,.slice awa s.wa.length cwa,I s.al,I s.up,.slice ar rs.length cr,.slice none 0 0]::e1::e2:: .blk b2 [I 0,I 0,.slice none 0 0,.slice none 0 0,I 0,I 0,.slice none 0 0,.slice none 0 0]:: .blk b1 [.slice avs sl.length cvs,.slice av5 fs5.length cv5,.slice av4 fs4.length cv4,.slice avp pk.length cvp,I z1,I z2,I z3]::σ)) ?_ ?_
 ·refine .ai (.z zg (.nil (.block ?_)))
  refine .loop (fun p:List Rdg×Option Addr×Nat=>⟨208,[],[(6,I (p.1.length:Int)),(5,.pointer (some ⟨b5,0,none⟩)),(4,.pointer (some ⟨b4,0,none⟩)),(2,.pointer (some ⟨b2,0,none⟩)),(1,.pointer (some ⟨b1,0,none⟩))]⟩)
   (fun p w=>p.1.length≤14∧p.1.length≤fs5.length∧(∀r∈p.1,jC s r)∧∃e3,bQ 7 (.slice p.2.1 p.1.length p.2.2) (rdc p.1).flatten e3∧
    St H w (e3:: .blk b5 [I s.id,I s.src,.slice ast s.st.length cst,.slice awa s.wa.length cwa,I s.al,I s.up]:: .blk b4 [I s.id,I s.src,.slice ast s.st.length cst,.slice awa s.wa.length cwa,I s.al,I s.up,.slice p.2.1 p.1.length p.2.2,.slice none 0 0]::e1::e2:: .blk b2 [I 0,I 0,.slice none 0 0,.slice none 0 0,I 0,I 0,.slice none 0 0,.slice none 0 0]:: .blk b1 [.slice avs sl.length cvs,.slice av5 fs5.length cv5,.slice av4 fs4.length cv4,.slice avp pk.length cvp,I z1,I z2,I z3]::σ)) (fun p=>14 - p.1.length) ([],none,0) bA
   ⟨bR,bR,bR,_,.nil 7 none,(hs.sb).nul⟩ ?_
  clear hs
  rintro ⟨rs,ar,cr⟩ w ⟨hr14,hrf,hrok,e3,hO3,hs⟩
  dsimp only at hr14 hrf hrok hO3 hs ⊢
  refine .seq (.ai (.z zm (.z (zfa gq) (.y hs (zld Tryz.isAgg23) (.z (cS Tryz.runUnderlying23) (.z ik (.z zm ?_)))))))
  refine .j7 (t':=31) rfl (fun hb31=>?_) (fun hb31=>?_)
  ·refine .gT rfl rfl ?_
   refine .z zm ?_
   refine .gT rfl rfl ?_
   refine .z ik (.z zpT (.nil ?_))
   refine (.cg rfl (fun hc34=>?_) (fun hc34=>?_))
   ·refine .skip ?_
    refine nT ?_
    refine .seq (.block (.ai (.z (zfa gq) (.y hs (zld Tryz.isAgg23) (.z zm ?_)))))
    obtain ⟨n,hn⟩:=nth (l:=fs5) (k:=rs.length) aj
    refine .ixX (enc:=F5.v) hs g2 rfl rfl Tryz.runUnderlying23 tf hn dK ?_;intro b40 o40 hc40
    refine .q hs (bY (vs:=n.v) rfl Tryz.isAgg106 tf hc40) ?_
    refine .o (.alloc hs Tryz.zeroValue106 rfl fun b7 w hs=>?_)
    refine .o (.aQ (vs:=[_,_,_,_,_]) hs rfl rfl tf fun w hs=>?_)
    refine .nil ?_
    refine .seq (.draw mix rfl hs fun w hs=>?_)
    refine .z 0 rfl (zia 4 gE af) ?_
    refine .y 1 rfl hs ae ?_
    refine .z 3 rfl (zia 4 gE af) ?_
    refine .y 4 rfl hs ae ?_;refine .z 5 rfl Es ?_
    refine .E 2 hs ?_
    refine .call dh rfl (bG hs aj) ?_;rintro _ w ⟨k44,g44,rfl,hs⟩
    refine .go ?_
    refine .E 6 hs ?_
    refine .call dh rfl (bG hs aj) ?_;rintro _ w ⟨k48,g48,rfl,hs⟩
    have m49:0≤(k44:Int)*(k48:Int)∧(k44:Int)*(k48:Int)≤39:=by
     have e1:k48=0∨k48=1:=by omega
     rcases e1 with rfl|rfl<;>simp<;>omega
    refine .go ?_
    refine .z 7 rfl lG ?_;refine .z 8 rfl zg ?_;refine .D hs ?_
    refine .draw mix rfl hs fun w hs=>?_
    refine .z 0 rfl (zfa bn) ?_;refine .y 1 rfl hs cz ?_;refine .z 2 rfl zm ?_;refine .z 3 rfl cC ?_
    refine .z 4 rfl (zia 0 gE af) ?_
    refine .y 5 rfl hs ae ?_;refine .z 6 rfl (zfa bB) ?_;refine .y 7 rfl hs ak ?_;refine .z 8 rfl (cS ad) ?_
    refine .z 10 rfl (zia 1 gE af) ?_
    refine .y 11 rfl hs ae ?_;refine .z 12 rfl (zfa br) ?_;refine .y 13 rfl hs ak ?_;refine .z 14 rfl (cS ad) ?_;refine .z 16 rfl zm ?_
    refine .z 17 rfl (zia 2 gE af) ?_
    refine .y 18 rfl hs ae ?_
    refine .z 21 rfl (zia 3 gE af) ?_
    refine .y 22 rfl hs ae ?_
    refine .E 9 hs ?_
    refine .call dh rfl (bG hs aj) ?_;rintro _ w ⟨k59,g59,rfl,hs⟩
    refine .go ?_
    refine .E 15 hs ?_
    refine .call dh rfl (bG hs aj) ?_;rintro _ w ⟨k65,g65,rfl,hs⟩
    refine .go ?_
    refine .E 19 hs ?_
    refine .call dh rfl (bG hs aj) ?_;rintro _ w ⟨k69,g69,rfl,hs⟩
    refine .go ?_
    refine .z 20 rfl cC ?_
    refine .E 23 hs ?_
    refine .call dh rfl (bG hs aj) ?_;rintro _ w ⟨k73,g73,rfl,hs⟩
    obtain ⟨r,hr⟩:∃r:Rdg,r=⟨10+(rs.length:Int),(k59:Int),(k65:Int),0,(k44:Int)*(k48:Int),1+(k69:Int),(k73:Int)⟩:=⟨_,rfl⟩
    have hrOk:jC s r:=by subst hr;exact ⟨by dsimp only;omega,by dsimp only;omega,by dsimp only;omega,by dsimp only;omega,by dsimp only;omega,by dsimp only;omega,by dsimp only;omega⟩
    refine .go ?_
    refine .z 24 rfl (zbd [_,_,_,_,_,_,_] eI) ?_
    refine .E 25 hs ?_
    refine .buildSlice (cells:=r.c) hs gJ rfl (by subst hr;kernel_rfl) ?_;intro b75 w hs
    refine .go ?_
    refine .E 26 hs ?_
    refine .append (ys:=r.c) hs dn rfl rfl hO3 (.own .here rfl rfl) (by simp [Rdg.c,Value.oneCell']) (fun l' h=>by rw [bO _ (nk _),fi] at h;omega) ?_;intro v76 en76 w hO4 hs
    rw [←uo] at hO4
    obtain ⟨a76,c76,rfl⟩:=hO4.ja (nk _) aj
    rw [fi] at hO4 ⊢
    refine .go ?_
    refine .z 27 rfl (zfa bn) ?_
    refine .E 28 hs ?_
    refine .store hs rfl rfl wQ ?_;intro w hs
    refine .go ?_
    refine .D hs ?_
    refine nB (nT ?_)
    refine .region (.z zm (.z cC (.z zg (.nil ?_))))
    refine nT ?_
    exact ⟨(rs++[r],a76,c76),.cR rfl bR bA,⟨by simp;omega,by simp;omega,fun q hq=>by
      simp only [List.mem_append,List.mem_singleton] at hq
      rcases hq with hq|rfl
      ·exact hrok q hq
      ·exact hrOk,_,hO4,hs.sb⟩,by simp;omega⟩
   ·refine .exit ?_
    refine xT (xT (xB (nT ?_)))
    exact ⟨rs,e3,ar,cr,bA,hr14,hrf,hrok,hO3,hs⟩
  ·refine .gFs 2 5 true rfl rfl rfl ?_
   refine .z zpF (.nil ?_)
   refine (.cF ?_)
   refine .exit ?_
   refine xT (xT (xB (nT ?_)))
   exact ⟨rs,e3,ar,cr,bA,hr14,hrf,hrok,hO3,hs⟩
 ·clear hs
  rintro fs w ⟨rs,e3,ar,cr,hfs,hr14,hrf,hrok,hO3,hs⟩
  refine WE.sub ?_ hfs
  clear hfs
  refine .cut (fun fs w=>∃cs e4 ac cc,mT fs ⟨208,[],[(5,.pointer (some ⟨b5,0,none⟩)),(4,.pointer (some ⟨b4,0,none⟩)),(2,.pointer (some ⟨b2,0,none⟩)),(1,.pointer (some ⟨b1,0,none⟩))]⟩∧cs.length≤5∧(∀c∈cs,rj c)∧(Srv.nq ⟨s,rs,cs⟩).Sound∧bQ 6 (.slice ac cs.length cc) (cmc cs).flatten e4∧St H w (e1::e2::e3::e4:: .blk b5 [I s.id,I s.src,.slice ast s.st.length cst,.slice awa s.wa.length cwa,I s.al,I s.up]:: .blk b4 [I s.id,I s.src,.slice ast s.st.length cst,.slice awa s.wa.length cwa,I s.al,I s.up,.slice ar rs.length cr,.slice ac cs.length cc]:: .blk b2 [I 0,I 0,.slice none 0 0,.slice none 0 0,I 0,I 0,.slice none 0 0,.slice none 0 0]:: .blk b1 [.slice avs sl.length cvs,.slice av5 fs5.length cv5,.slice av4 fs4.length cv4,.slice avp pk.length cvp,I z1,I z2,I z3]::σ)) ?_ ?_
  ·refine .ai (.z zg (.nil (.block ?_)))
   refine .loop (fun p:Nat×List Cmp×Option Addr×Nat=>⟨208,[],[(9,I (p.1:Int)),(5,.pointer (some ⟨b5,0,none⟩)),(4,.pointer (some ⟨b4,0,none⟩)),(2,.pointer (some ⟨b2,0,none⟩)),(1,.pointer (some ⟨b1,0,none⟩))]⟩)
    (fun p w=>p.1≤5∧p.1≤fs4.length∧p.2.1.length≤p.1∧(∀c∈p.2.1,rj c)∧(Srv.nq ⟨s,rs,p.2.1⟩).Sound∧∃e4,bQ 6 (.slice p.2.2.1 p.2.1.length p.2.2.2) (cmc p.2.1).flatten e4∧
     St H w (e1::e2::e3::e4:: .blk b5 [I s.id,I s.src,.slice ast s.st.length cst,.slice awa s.wa.length cwa,I s.al,I s.up]:: .blk b4 [I s.id,I s.src,.slice ast s.st.length cst,.slice awa s.wa.length cwa,I s.al,I s.up,.slice ar rs.length cr,.slice p.2.2.1 p.2.1.length p.2.2.2]:: .blk b2 [I 0,I 0,.slice none 0 0,.slice none 0 0,I 0,I 0,.slice none 0 0,.slice none 0 0]:: .blk b1 [.slice avs sl.length cvs,.slice av5 fs5.length cv5,.slice av4 fs4.length cv4,.slice avp pk.length cvp,I z1,I z2,I z3]::σ)) (fun p=>5 - p.1) (0,[],none,0) bA
    ⟨bR,bR,bR,bR,AR (uG hSp.ok hSt hWa hr14 bR hrok bR) rfl,.nul,.nil 6 none,(hs.nul).sb⟩ ?_
   clear hs
   rintro ⟨k,cs,ac,cc⟩ w ⟨hk5,hkf,hck,hcok,hsd,e4,hO4,hs⟩
   dsimp only at hk5 hkf hck hcok hsd hO4 hs ⊢
   refine .seq (.ai (.z zm (.z (zfa jk) (.y hs (zld Tryz.isAgg24) (.z (cS Tryz.runUnderlying24) (.z ik (.z zm ?_)))))))
   refine .j7 (t':=83) rfl (fun hb83=>?_) (fun hb83=>?_)
   ·refine .gT rfl rfl ?_
    refine .z zm ?_
    refine .gT rfl rfl ?_
    refine .z ik (.z zpT (.nil ?_))
    refine (.cg rfl (fun hc86=>?_) (fun hc86=>?_))
    ·refine .skip ?_
     refine nT ?_
     refine .seq (.block (.ai (.z (zfa jk) (.y hs (zld Tryz.isAgg24) (.z zm ?_)))))
     obtain ⟨n,hn⟩:=nth (l:=fs4) (k:=k) aj
     refine .ixX (enc:=F4.v) hs g3 rfl rfl Tryz.runUnderlying24 Tryz.sizeOf199 hn dK ?_;intro b92 o92 hc92
     refine .q hs (bY (vs:=n.v) rfl Tryz.isAgg199 Tryz.sizeOf199 hc92) ?_
     refine .o (.alloc hs Tryz.zeroValue199 rfl fun b10 w hs=>?_)
     refine .o (.aQ (vs:=[_,_,_,_]) hs rfl rfl Tryz.sizeOf199 fun w hs=>?_)
     refine .nil (.ai ?_)
     refine .z (zia 1 oJ af) ?_
     refine .y hs (zld ae) ?_
     refine .o (.call dh rfl (bG hs aj) ?_);rintro _ w ⟨k96,g96,rfl,hs⟩
     refine .z iK (.z zg (.nil (.ai ?_)))
     refine .z (zia 3 oJ af) ?_
     refine .y hs (zld ae) ?_
     refine .o (.call dh rfl (bG hs aj) ?_);rintro _ w ⟨k100,g100,rfl,hs⟩
     refine .z zg (.nil ?_)
     refine .seq (.draw mix rfl hs fun w hs=>?_)
     refine .z 0 rfl (zfa cV) ?_;refine .y 1 rfl hs kL ?_;refine .z 2 rfl zm ?_;refine .z 3 rfl cC ?_
     refine .z 4 rfl (zia 0 oJ af) ?_
     refine .y 5 rfl hs ae ?_;refine .z 8 rfl zm ?_;refine .z 9 rfl zm ?_
     refine .z 10 rfl (zia 3 oJ af) ?_
     refine .y 11 rfl hs ae ?_;refine .z 12 rfl Es ?_;refine .z 15 rfl zm ?_;refine .z 16 rfl zm ?_
     refine .z 17 rfl (zia 2 oJ af) ?_
     refine .y 18 rfl hs ae ?_
     refine .E 6 hs ?_
     refine .call dh rfl (bG hs aj) ?_;rintro _ w ⟨k107,g107,rfl,hs⟩
     refine .go ?_
     refine .z 7 rfl cC ?_
     refine .E 13 hs ?_
     refine .call dh rfl (bG hs aj) ?_;rintro _ w ⟨k114,g114,rfl,hs⟩
     refine .go ?_
     refine .z 14 rfl cC ?_
     refine .E 19 hs ?_
     refine .call dh rfl (bG hs aj) ?_;rintro _ w ⟨k120,g120,rfl,hs⟩
     obtain ⟨c,hc⟩:∃c:Cmp,c=⟨30+(k:Int),1+(k107:Int),(k100:Int),(k100:Int)+(k114:Int),(k96:Int) - 40,(k96:Int) - 40+(k120:Int)⟩:=⟨_,rfl⟩
     have hcOk:rj c:=by subst hc;exact ⟨by dsimp only;omega,by dsimp only;omega,by dsimp only;omega,by dsimp only;omega,by dsimp only;omega,by dsimp only;omega⟩
     refine .go ?_
     refine .z 20 rfl cC ?_;refine .z 21 rfl (zbd [_,_,_,_,_,_] mP) ?_
     refine .E 22 hs ?_
     refine .buildSlice (cells:=c.c) hs jH rfl (by subst hc;kernel_rfl) ?_;intro b123 w hs
     refine .go ?_
     refine .E 23 hs ?_
     refine .append (ys:=c.c) hs jo rfl rfl hO4 (.own .here rfl rfl) (by simp [Cmp.c,Value.oneCell']) (fun l' h=>by rw [bO _ (A5 _),na] at h;omega) ?_;intro v124 en124 w hO5 hs
     rw [←yH] at hO5
     obtain ⟨a124,c124,rfl⟩:=hO5.ja (A5 _) aj
     rw [na] at hO5 ⊢
     have hcl:(cs++[c]).length=cs.length+1:=by simp
     have hcok':∀d∈cs++[c],rj d:=fun d hd=>by
      simp only [List.mem_append,List.mem_singleton] at hd
      rcases hd with hd|rfl
      ·exact hcok d hd
      ·exact hcOk
     have hsok:c9 ⟨s,rs,cs++[c]⟩:=uG hSp.ok hSt hWa hr14 aj hrok hcok'
     refine .go ?_
     refine .z 24 rfl (zfa cV) ?_
     refine .E 25 hs ?_
     refine .store hs rfl rfl Tryz.sizeOf36 ?_;intro w hs
     refine .go ?_
     refine .D hs ?_
     refine .ai (.y hs (zls [_,_,_,_,_,_,_,_] aJ aD) ?_)
     obtain ⟨Hx,hlex,r1,r2,r3,r4,hs2,back⟩:=Dh.xp (s:=⟨s,rs,cs++[c]⟩) ⟨hO1,hO2,hO3,hO5⟩ (by show s.st.length≤_;omega) (by show s.wa.length≤_;omega) (by show rs.length≤_;omega) (by show (cs++[c]).length≤_;omega) (hs.sb:St H w (e1::e2::e3::en124:: .blk b5 [I s.id,I s.src,.slice ast s.st.length cst,.slice awa s.wa.length cwa,I s.al,I s.up]:: .blk b4 [I s.id,I s.src,.slice ast s.st.length cst,.slice awa s.wa.length cwa,I s.al,I s.up,.slice ar rs.length cr,.slice a124 (cs++[c]).length c124]:: .blk b2 [I 0,I 0,.slice none 0 0,.slice none 0 0,I 0,I 0,.slice none 0 0,.slice none 0 0]:: .blk b1 [.slice avs sl.length cvs,.slice av5 fs5.length cv5,.slice av4 fs4.length cv4,.slice avp pk.length cvp,I z1,I z2,I z3]::σ))
     refine .o (.call Tryz.call142 rfl (r9 (s:=⟨s,rs,cs++[c]⟩) hs2 r1 r2 r3 r4 hsok.early (xr hsok)) ?_);rintro _ w ⟨Hy,b127,hley,rfl,hb127,hs3⟩
     have hs:=back hley hs3
     clear hs2 hs3 back
     refine .nil ?_
     refine (.cond rfl (fun hc127=>?_) (fun hc127=>?_))
     ·refine .region (.z (zfa cV) (.y hs (zld kL) (.z (zfa cV) (.y hs (zld kL) (.z (cS cf) (.z iK ?_))))))
      refine .q hs (mr (k:=cs.length) rfl rfl cf dx aj (by have:=hO5.le;omega)) ?_
      refine .z (zfa cV) ?_
      refine .o (.store hs rfl rfl Tryz.sizeOf36 fun w hs=>?_)
      refine .nil ?_
      refine nB (nT ?_)
      refine .region (.z zm (.z cC (.z zg (.nil ?_))))
      refine nT ?_
      exact ⟨(k+1,cs,a124,c124),.cR rfl bR bA,⟨by dsimp only;omega,by dsimp only;omega,by dsimp only;omega,hcok,hsd,_,hO5.DX,hs.sb⟩,by dsimp only;omega⟩
     ·refine .skip ?_
      refine nB (nT ?_)
      refine .region (.z zm (.z cC (.z zg (.nil ?_))))
      refine nT ?_
      exact ⟨(k+1,cs++[c],a124,c124),.cR rfl bR bA,⟨by dsimp only;omega,by dsimp only;omega,by dsimp only;omega,hcok',hb127 (by simpa using hc127),_,hO5,hs.sb⟩,by dsimp only;omega⟩
    ·refine .exit ?_
     refine xT (xT (xB (nT ?_)))
     exact ⟨cs,e4,ac,cc,bA,aj,hcok,hsd,hO4,hs⟩
   ·refine .gFs 2 5 true rfl rfl rfl ?_
    refine .z zpF (.nil ?_)
    refine (.cF ?_)
    refine .exit ?_
    refine xT (xT (xB (nT ?_)))
    exact ⟨cs,e4,ac,cc,bA,aj,hcok,hsd,hO4,hs⟩
  ·clear hs
   rintro fs w ⟨cs,e4,ac,cc,hfs,hc5,hcok,hsd,hO4,hs⟩
   refine WE.sub ?_ hfs
   clear hfs
   have hsok:c9 ⟨s,rs,cs⟩:=uG hSp.ok hSt hWa hr14 hc5 hrok hcok
   refine .ai (.y hs (zls [_,_,_,_,_,_,_,_] aJ aD) (.z (zfa mB) (.y hs (zld ak) ?_)))
   obtain ⟨Hx,hlex,r1,r2,r3,r4,hs2,back⟩:=Dh.xp (s:=⟨s,rs,cs⟩) ⟨hO1,hO2,hO3,hO4⟩ (by show s.st.length≤_;omega) (by show s.wa.length≤_;omega) (by show rs.length≤_;omega) (by show cs.length≤_;omega) hs
   refine .o (.call Tryz.call143 rfl (r8 (s:=⟨s,rs,cs⟩) hs2 r1 r2 r3 r4 (g4.mono hlex) hsok.early ⟨xr hsok,hsd⟩) ?_);rintro v139 w ⟨Hy,x,ex,hley,hOx,hP,hs3⟩
   have hs:=back hley hs3
   clear hs2 hs3 back r1 r2 r3 r4
   obtain ⟨hxl,hx0,hxb,hfe⟩:=hP.wC (xr hsok) hsd
   have hsm:=hsok.many
   have hfn:(Srv.nq ⟨s,rs,cs⟩).n=s.many+(aU rs).length+1:=nh ⟨s,rs,cs⟩
   have hxl:x.length=s.many+(aU rs).length+1:=by rw [hxl];exact hfn
   rw [hfn] at hxb
   have hsm:s.many+(aU rs).length≤64:=hsm
   obtain ⟨Hz,hlez,hX,hs⟩:=bQ.dj hOx aj hs dJ
   obtain ⟨ax,cx,rfl⟩:=RI.shape hX
   refine .z zg (.nil (.seq (.ai (.z zg (.nil (.block ?_))))))
   refine .loop (fun p:Nat×List Rdg=>⟨208,[],[(14,I (p.1:Int)),(13,.slice ax x.length cx),(5,.pointer (some ⟨b5,0,none⟩)),(4,.pointer (some ⟨b4,0,none⟩)),(2,.pointer (some ⟨b2,0,none⟩)),(1,.pointer (some ⟨b1,0,none⟩))]⟩)
    (fun p w=>p.1≤rs.length∧p.2.length=rs.length∧aU p.2=aU rs∧(∀r∈p.2,RdS s r)∧(∀j<p.1,∀r,p.2[j]? =some r→Be s (aU rs) x r)∧∃e3,bQ 7 (.slice ar rs.length cr) (rdc p.2).flatten e3∧
     St Hz w (e1::e2::e3::e4:: .blk b5 [I s.id,I s.src,.slice ast s.st.length cst,.slice awa s.wa.length cwa,I s.al,I s.up]:: .blk b4 [I s.id,I s.src,.slice ast s.st.length cst,.slice awa s.wa.length cwa,I s.al,I s.up,.slice ar rs.length cr,.slice ac cs.length cc]:: .blk b2 [I 0,I 0,.slice none 0 0,.slice none 0 0,I 0,I 0,.slice none 0 0,.slice none 0 0]:: .blk b1 [.slice avs sl.length cvs,.slice av5 fs5.length cv5,.slice av4 fs4.length cv4,.slice avp pk.length cvp,I z1,I z2,I z3]::σ)) (fun p=>rs.length - p.1) (0,rs) bA
    ⟨bR,rfl,rfl,fun r hr=>⟨(hrok r hr).st,(hrok r hr).wa,(hrok r hr).tol⟩,fun j hj=>by omega,e3,hO3,hs⟩ ?_
   clear hs hO3
   rintro ⟨k,R⟩ w ⟨hk,hRl,hRt,hRs,hRv,e3,hO3,hs⟩
   dsimp only at hk hRl hRt hRs hRv hO3 hs ⊢
   refine .seq (.ai (.z zm (.z (zfa bn) (.y hs (zld cz) (.z (cS aK) (.z ik (.nil ?_)))))))
   refine (.cg rfl (fun hc144=>?_) (fun hc144=>?_))
   ·refine .skip ?_
    refine nT ?_
    refine .seq (.block (.ai (.z (zfa gq) (.y hs (zld Tryz.isAgg23) (.z zm ?_)))))
    obtain ⟨n,hn⟩:=nth (l:=fs5) (k:=k) aj
    obtain ⟨r,hr⟩:=nth (l:=R) (k:=k) aj
    have hrS:=hRs r (List.mem_of_getElem? hr)
    obtain ⟨u,hu1,hu2⟩:=hrS.u
    have hrst:=hrS.st
    have hrwa:=hrS.wa
    have hrtol:=hrS.tol
    have hmem:r.td∈aU R:=fB.2 ⟨r,List.mem_of_getElem? hr,rfl⟩
    obtain ⟨q,q1,q2,q3⟩:=ek hmem
    rw [hRt] at q3
    have hb1:=hxb u aj
    have hb2:=hxb (s.many+1+q) aj
    obtain ⟨bo,co,sp,hv,rfl,hcap⟩:=hO3.Fa (nk _) aj (by rw [fi];omega)
    simp only [Value.slice.injEq] at hv
    obtain ⟨rfl,hv2,rfl⟩:=hv
    obtain ⟨Hx,hlex,r1,r2,r3,r4,hs2,back⟩:=Dh.xp (s:=⟨s,R,cs⟩) ⟨hO1,hO2,hO3,hO4⟩ (by show s.st.length≤_;omega) (by show s.wa.length≤_;omega) (by show R.length≤_;omega) (by show cs.length≤_;omega) hs
    clear hs
    have hs:=hs2
    clear hs2
    refine .ixX (enc:=F5.v) hs (g2.mono (hlez.trans hlex)) rfl rfl Tryz.runUnderlying23 tf hn dK ?_;intro b150 o150 hc150
    refine .q hs (bY (vs:=n.v) rfl Tryz.isAgg106 tf hc150) ?_
    refine .o (.alloc hs Tryz.zeroValue106 rfl fun b15 w hs=>?_)
    refine .o (.aQ (vs:=[_,_,_,_,_]) hs rfl rfl tf fun w hs=>?_)
    refine .nil (.ai (.z (zfa bn) (.y hs (zld cz) (.z zm ?_))))
    refine .ixX (enc:=Rdg.c) hs r3 rfl rfl aK aW hr dK ?_;intro b155 o155 hc155
    refine .q hs (bY (vs:=r.c) rfl eh aW hc155) ?_
    refine .o (.alloc hs ew rfl fun b16 w hs=>?_)
    refine .o (.aQ (vs:=[_,_,_,_,_,_,_]) hs rfl rfl aW fun w hs=>?_)
    refine .nil (.ai (.y hs (zls [_,_,_,_,_,_] aM aE) (.z (zfa eQ) (.y hs (zld ae) (.z (zfa eP) (.y hs (zld ae) ?_))))))
    refine .o (.call nE rfl (dE (s:=s) hs r2 aj aj aj) ?_);rintro _ w ⟨rfl,hs⟩
    rw [hu1]
    refine .z zg (.nil ?_)
    refine .seq (.draw mix rfl hs fun w hs=>?_)
    refine .ys 0 rfl hs [_,_,_,_,_,_] aM aE ?_;refine .z 3 rfl (zfa bn) ?_;refine .y 4 rfl hs cz ?_;refine .z 6 rfl (zfa eg) ?_;refine .y 7 rfl hs ae ?_;refine .z 8 rfl (zfa ef) ?_;refine .y 9 rfl hs ae ?_;refine .z 10 rfl (zbd [_,_] fm) ?_
    refine .E 1 hs ?_
    refine .call Tryz.call97 rfl (fQ (s:=s) hs r1 r2 ⟨aj,aj⟩) ?_;rintro _ w ⟨rfl,hs⟩
    refine .go ?_
    refine .z 2 rfl cC ?_
    refine .E 5 hs ?_
    refine .call Tryz.call94 rfl (gN (rs:=R) hs r3 aj) ?_;rintro v168 w ⟨Hw,hlew,hT,hs⟩
    refine .go ?_
    refine .E 11 hs ?_
    refine .call Tryz.call93 rfl (js (t:=r.td) hs hT (by rw [hRt];omega)) ?_;rintro _ w ⟨rfl,hs⟩
    rw [q1]
    refine .go ?_
    refine .z 12 rfl cC ?_;refine .z 13 rfl zg ?_;refine .D hs ?_
    refine .seq (.draw mix rfl hs fun w hs=>?_)
    refine .z 0 rfl (zia 4 gE af) ?_
    refine .y 1 rfl hs ae ?_;refine .z 2 rfl Es ?_;refine .z 3 rfl (zfa cm) ?_;refine .y 4 rfl hs ae ?_;refine .z 5 rfl lG ?_;refine .z 6 rfl cC ?_;refine .z 8 rfl (zfa cm) ?_;refine .y 9 rfl hs ae ?_
    refine .E 7 hs ?_
    refine .call dh rfl (bG hs aj) ?_;rintro _ w ⟨k183,g183,rfl,hs⟩
    refine .go ?_
    refine .z 10 rfl iK ?_;refine .z 11 rfl zg ?_;refine .D hs ?_
    refine .draw mix rfl hs fun w hs=>?_
    refine .z 0 rfl (zfa bn) ?_;refine .y 1 rfl hs cz ?_;refine .z 2 rfl zm ?_;refine .z 3 rfl zm ?_;refine .z 4 rfl zm ?_
    have hs:=back hlew hs
    refine .ixX (enc:=fun x=>[I x]) (i:=5) hs rfl an .none hX rfl rfl ad af (bL (l:=x) (i:=u) aj) rfl ?_;intro b192 o192 hc192;replace hc192:=bM.one hc192
    refine .r (i:=6) hs rfl an .none (aZ rfl ae hc192) ?_
    refine .z 7 rfl zm ?_;refine .z 8 rfl zm ?_
    refine .ixX (enc:=fun x=>[I x]) (i:=9) hs rfl an .none hX rfl rfl ad af (bL (l:=x) (i:=s.many+1+q) aj) (by push_cast;rfl) ?_;intro b196 o196 hc196;replace hc196:=bM.one hc196
    refine .r (i:=10) hs rfl an .none (aZ rfl ae hc196) ?_
    refine .z 11 rfl iK ?_;refine .z 12 rfl zm ?_;refine .z 13 rfl cC ?_
    first|(refine .ixw 14 rfl hs aK aW ?_;intro b201 o201 hc201)|refine .z 14 rfl (wS aK aW) ?_
    refine .z 15 rfl (zfa dM) ?_
    refine .E 16 hs ?_
    refine .store (c':=(rdc (R.set k {r with val:=gi x u - gi x (s.many+1+q)+((k183:Int) - r.tol)})).flatten++sp) hs rfl rfl af ?_ dJ (Nat.ble_eq_true_of_le (by rw [List.length_append,bO _ (nk _),fi];omega)) (xc hr sp _);intro w hs
    refine .go ?_
    refine .D hs ?_
    refine nB (nT ?_)
    refine .region (.z zm (.z cC (.z zg (.nil ?_))))
    refine nT ?_
    exact ⟨(k+1,R.set k {r with val:=gi x u - gi x (s.many+1+q)+((k183:Int) - r.tol)}),.cR rfl bR bA,⟨by dsimp only;omega,by dsimp only;rw [List.length_set];exact hRl,by dsimp only;rw [vN hr];exact hRt,fun y hy=>by
      rcases List.mem_or_eq_of_mem_set hy with h|h
      ·exact hRs y h
      ·subst h;exact ⟨hrst,hrwa,hrtol⟩,fun j hj y hy=>by
      dsimp only at hj hy
      by_cases e:j=k
      ·subst e
       rw [List.getElem?_set_self aj] at hy
       obtain rfl:=Option.some.inj hy
       have q1':gH (aU rs) r.td=q:=by rw [←hRt];exact q1
       unfold Be
       show gi x (1+r.st*s.wa.length+r.wa).toNat - gi x (s.many+1+gH (aU rs) r.td).toNat - r.tol≤_∧_≤gi x (1+r.st*s.wa.length+r.wa).toNat - gi x (s.many+1+gH (aU rs) r.td).toNat+r.tol
       rw [hu1,q1',show ((s.many:Int)+1+(q:Int)).toNat=s.many+1+q by omega,Int.toNat_natCast]
       dsimp only
       omega
      ·rw [List.getElem?_set_ne aj] at hy
       exact hRv j aj y hy,_,Cc hO3 _,hs.sb⟩,by dsimp only;omega⟩
   ·refine .exit ?_
    refine xT (xT (xB (nT ?_)))
    refine .ai (.y hs (zls [_,_,_,_,_,_,_,_] aJ aD) (.z zm ?_))
    obtain rfl:k=rs.length:=by omega
    obtain ⟨Hx,hlex,r1,r2,r3,r4,hs2,back⟩:=Dh.xp (s:=⟨s,R,cs⟩) ⟨hO1,hO2,hO3,hO4⟩ (by show s.st.length≤_;omega) (by show s.wa.length≤_;omega) (by show R.length≤_;omega) (by show cs.length≤_;omega) hs
    refine .o (.call Tryz.call144 rfl (oX (s:=⟨s,R,cs⟩) (x:=x) hs2 r1 r2 r3 ⟨_,_,_,rfl⟩ (hX.mono hlex) (by rw [nh];show _=s.many+(aU R).length+1;rw [hRt];exact hxl) ⟨by show s.st.length≤_;omega,by show s.wa.length≤_;omega,by show R.length≤_;omega⟩) ?_);rintro _ w ⟨Hy,vr',vy,er,ey,hley,rfl,hOr,hOy,hs3⟩
    have hs:=back hley hs3
    clear hs2 hs3 back r1 r2 r3 r4
    have hkl:=su s R
    obtain ⟨arr,crr,rfl⟩:=hOr.ja (nk _) aj
    obtain ⟨ayy,lyy,cyy,rfl,-⟩:=hOy.shape
    refine .z zex (.z zex ?_)
    refine .o (.aQ (vs:=[_,_,_,_,_,_,_,_]) hs rfl rfl aD fun w hs=>?_)
    refine .z zg (.nil ?_)
    refine .ret ?_
    exact Fin.gV [] [] hs fun w hs=>⟨_,results2 Tryz.results60 (di (vs:=[_,_,_,_,_,_,_,_]) hs rfl aJ aD) rfl,Hz,⟨s,gI s R,cs⟩,_,_,_,_,_,_,e1,e2,er,e4,ey,hlez,rfl,
     ⟨hSt,hWa,by show (gI s R).length≤14;omega,hc5,uG hSp.ok hSt hWa aj hc5 (fun r h=>(wm h).2) hcok⟩,⟨hO1,hO2,hOr,hO4⟩,hOy,zp hfe hx0 hxl hRt hRs (fun r hr=>by
      obtain ⟨j,hj⟩:=List.getElem?_of_mem hr
      have:=(List.getElem?_eq_some_iff.1 hj).1
      exact hRv j aj r hj),hs.sb⟩
theorem kC{v:Value}{xs:List Int}{en:Ent}(hs:St H w (en::σ))(hO:bQ 1 v (Is xs) en)(hl:xs.length≤17592186044416):
  Cl Tryz.prog 138 [v] w fun u w'=>∃en',u= .tuple #[]∧bQ 1 v (Is (xs.mergeSort fun x y=>decide (x≤y))) en'∧St H w' (en'::σ):=by
 rcases hO with ⟨a,rfl,h0,rfl⟩|⟨b,len,cap,sp,rfl,rfl,h3,h4,h5⟩
 ·obtain rfl:xs=[]:=by simpa using h0
  exact (lH hs).mono fun u w' ⟨h,hs⟩=>⟨.nul,h,by simpa using bQ.nil 1 a,hs⟩
 ·obtain rfl:len=xs.length:=by simpa using h3.symm
  exact (mi hs hl).mono fun u w' ⟨h,hs⟩=>⟨_,h,.inr ⟨b,_,cap,sp,rfl,rfl,bR,by simpa using h4,h5⟩,hs⟩
theorem iN{v:Value}{xs:List Int}{en:Ent}(hs:St H w (en::σ))(hO:bQ 1 v (Is xs) en)(hl:xs.length≤17592186044416):
  Cl Tryz.prog 139 [v] w fun u w'=>∃en',bQ 1 u (Is (Go.Lib.compact xs)) en'∧St H w' (en'::σ):=by
 rcases hO with ⟨a,rfl,h0,rfl⟩|⟨b,len,cap,sp,rfl,rfl,h3,h4,h5⟩
 ·obtain rfl:xs=[]:=by simpa using h0
  exact (jP hs).mono fun u w' ⟨h,hs⟩=>⟨.nul,by rw [h];exact .nil 1 a,hs⟩
 ·obtain rfl:len=xs.length:=by simpa using h3.symm
  have hcl:=Go.Lib.compact_length_le xs
  have h4':xs.length+sp.length=cap:=by simpa using h4
  exact (kj hs hl h5).mono fun u w' ⟨h,hs⟩=>⟨_,.inr ⟨b,_,cap,Is (List.replicate (xs.length - (Go.Lib.compact xs).length) 0)++sp,h,rfl,bR,by simp;omega,aj⟩,hs⟩
set_option maxHeartbeats 1000000 in
theorem jc{s:Srv}{vst vwa vr vc:Value}(hs:St H w σ)(h3:RRd H vr s.rs)(h4:RCm H vc s.cs)(l3:s.rs.length≤1000000)(l4:s.cs.length≤1000000):
  Cl Tryz.prog 137 [.agg #[I s.sp.id,I s.sp.src,vst,vwa,I s.sp.al,I s.sp.up,vr,vc]] w fun u w'=>∃L en,bQ 1 u (Is L) en∧L.length≤s.rs.length+s.cs.length∧jY s.Src L∧St H w' (en::σ):=by
 obtain ⟨ar,cr,rfl⟩:=RRd.shape h3
 obtain ⟨ac,cc,rfl⟩:=RCm.shape h4
 refine Cl.o Tryz.func137 Tryz.ntmps137 ag1 ?_
 refine .ai ?_
 refine .bx hs fun b1 w hs=>?_
 refine .z zg (.nil (.ai (.z zg (.nil (.seq (.ai (.z (zfa bn) (.y hs (zld cz) (.z (cS aK) ?_)))))))))
 refine .z zm (.nil ?_)
 refine .for (N:=s.rs.length) (J:=fun k fr w=>∃v3 en,bQ 1 v3 (Is ((s.rs.take k).map Rdg.src)) en∧fr=[(3,v3),(9,.slice ar s.rs.length cr),(1,.pointer (some ⟨b1,0,none⟩))]∧St H w (en:: .blk b1 [I s.sp.id,I s.sp.src,vst,vwa,I s.sp.al,I s.sp.up,.slice ar s.rs.length cr,.slice ac s.cs.length cc]::σ)) aj ?_ ?_ ?_
 ·exact .mk ⟨_,_,.nil 1 none,rfl,hs.nul.sb⟩
 ·rintro k fr w hk ⟨v3,en,hO,rfl,hs⟩
  obtain ⟨x,hx⟩:=nth (l:=s.rs) hk
  obtain ⟨a3,l3',c3,rfl,h3'⟩:=hO.shape
  refine .block (.ai ?_)
  refine .ixX (enc:=Rdg.c) hs h3 rfl rfl aK aW hx rfl ?_;intro b13 o13 hc13
  refine .q hs (bY (vs:=x.c) rfl eh aW hc13) ?_
  refine .o (.alloc hs ew rfl fun b5 w hs=>?_)
  refine .o (.aQ (vs:=x.c) hs rfl rfl aW fun w hs=>?_)
  refine .nil (.region (.z zm (.z (zfa eR) (.y hs (zld ae) ?_))))
  refine .o (.buildSlice (cells:=[_]) hs bP rfl rfl fun b18 w hs=>?_)
  refine .o (.append (ys:=Is [x.src]) hs bH rfl rfl hO (.own .here rfl rfl) (fN _) (fun l' h=>by simp at h;omega) ?_);intro v19 en19 w hO2 hs
  rw [←List.map_append] at hO2
  refine .z zg (.nil ?_)
  refine nB (nT ?_)
  exact .mk ⟨_,_,by rw [cU hx,List.map_append];exact hO2,rfl,hs.sb⟩
 ·rintro fr w ⟨v3,en,hO,rfl,hs⟩
  rw [List.take_length] at hO
  refine nT ?_
  refine .seq (.ai (.z (zfa cV) (.y hs (zld kL) (.z (cS cf) (.z zm (.nil ?_))))))
  refine .for (N:=s.cs.length) (J:=fun k fr w=>∃v3 en,bQ 1 v3 (Is (s.rs.map Rdg.src++(s.cs.take k).map Cmp.src)) en∧fr=[(3,v3),(22,.slice ac s.cs.length cc),(1,.pointer (some ⟨b1,0,none⟩))]∧St H w (en:: .blk b1 [I s.sp.id,I s.sp.src,vst,vwa,I s.sp.al,I s.sp.up,.slice ar s.rs.length cr,.slice ac s.cs.length cc]::σ)) aj ?_ ?_ ?_
  ·exact .mk ⟨_,_,by simpa using hO,rfl,hs⟩
  ·rintro k fr w hk ⟨v3,en,hO,rfl,hs⟩
   obtain ⟨x,hx⟩:=nth (l:=s.cs) hk
   obtain ⟨a3,l3',c3,rfl,h3'⟩:=hO.shape
   refine .block (.ai ?_)
   refine .ixX (enc:=Cmp.c) hs h4 rfl rfl cf dx hx rfl ?_;intro b26 o26 hc26
   refine .q hs (bY (vs:=x.c) rfl Er dx hc26) ?_
   refine .o (.alloc hs ny rfl fun b7 w hs=>?_)
   refine .o (.aQ (vs:=x.c) hs rfl rfl dx fun w hs=>?_)
   refine .nil (.region (.z zm (.z (zfa fK) (.y hs (zld ae) ?_))))
   refine .o (.buildSlice (cells:=[_]) hs bP rfl rfl fun b31 w hs=>?_)
   refine .o (.append (ys:=Is [x.src]) hs bH rfl rfl hO (.own .here rfl rfl) (fN _) (fun l' h=>by simp at h;omega) ?_);intro v32 en32 w hO2 hs
   rw [←List.map_append] at hO2
   refine .z zg (.nil ?_)
   refine nB (nT ?_)
   exact .mk ⟨_,_,by rw [cU hx,List.map_append,←List.append_assoc];exact hO2,rfl,hs.sb⟩
  ·rintro fr w ⟨v3,en,hO,rfl,hs⟩
   rw [List.take_length] at hO
   have hlen:(s.rs.map Rdg.src++s.cs.map Cmp.src).length=s.rs.length+s.cs.length:=by simp
   refine nT ?_
   refine .ai (.z zm ?_)
   refine .o (.call F7 rfl (kC hs hO aj) ?_);rintro _ w ⟨en2,rfl,hO2,hs⟩
   have hml:((s.rs.map Rdg.src++s.cs.map Cmp.src).mergeSort fun x y=>decide (x≤y)).length=s.rs.length+s.cs.length:=by rw [List.length_mergeSort,hlen]
   refine .nil (.ai (.z zm ?_))
   refine .o (.call F6 rfl (iN hs hO2 aj) ?_);rintro v37 w ⟨en3,hO3,hs⟩
   have hcl:=Go.Lib.compact_length_le ((s.rs.map Rdg.src++s.cs.map Cmp.src).mergeSort fun x y=>decide (x≤y))
   refine .z zg (.nil ?_)
   refine .ret (Fin.bD Tryz.results137 rfl ?_)
   exact ⟨_,en3,hO3,aj,lh.congr fun x=>Dx,hs.sb⟩
set_option maxHeartbeats 1000000 in
theorem wV{s:Srv}{vst vwa vr vc:Value}(hs:St H w σ)(h1:RI H vst s.sp.st)(h2:RI H vwa s.sp.wa)(h3:RRd H vr s.rs)(h4:RCm H vc s.cs):
  Cl Tryz.prog 55 [.agg #[I s.sp.id,I s.sp.src,vst,vwa,I s.sp.al,I s.sp.up,vr,vc]] w fun u w'=>∃H1 vx L e,HLe H H1∧u= .tuple #[vx,I e]∧RI H1 vx L∧L.length≤s.rs.length+s.cs.length+1∧Ee s L e∧St H1 w' σ:=by
 refine Cl.o Tryz.func55 Tryz.ntmps55 ag1 ?_
 refine .ai ?_
 refine .bx hs fun b1 w hs=>?_
 refine .z zg (.z zg (.nil (.seq (.ai (.y hs (zls [_,_,_,_,_,_,_,_] aJ aD) ?_)))))
 refine .o (.call qz rfl (dk (s:=s) hs h1 h2 h3 h4) ?_);rintro _ w ⟨H1,e,hle1,rfl,hC,hs⟩
 refine .z zg (.nil (.ai (.z zm (.z fP (.nil ?_)))))
 refine (.ep rfl (fun hc9=>?_) (fun hc9=>?_))
 ·refine .ai (.z zm (.z zg (.z zg (.nil ?_))))
  refine .ret (rT (Fin.oH Tryz.results55 rfl rfl ?_))
  exact ⟨H1,_,[],_,hle1,rfl,RS.nil H1 1 none 0,bR,.bad hC hc9 rfl,hs.out⟩
 ·refine .skip ?_
  refine nT ?_
  refine .seq (.draw mix rfl hs fun w hs=>?_)
  refine .ys 0 rfl hs [_,_,_,_,_,_,_,_] aJ aD ?_;refine .z 2 rfl (zfa aN) ?_;refine .z 3 rfl (zfa c8) ?_;refine .y 4 rfl hs ae ?_
  refine .e2 (i:=1) (j:=5) an rfl rfl rfl rfl .none .none hs ?_ ?_
  ·have hok:c9 s:=hC.bT.1 (by simpa using hc9)
   have hrl:=hok.early.2.1
   have hcl:=hok.early.2.2.1
   refine .call Tryz.call137 rfl (jc (s:=s) hs (h3.mono hle1) (h4.mono hle1) aj aj) ?_;rintro v12 w ⟨L,en,hO,hLl,hR,hs⟩
   obtain ⟨a12,c12,rfl⟩:=hO.oW
   refine .go ?_
   refine .E 5 hs ?_
   refine .buildSlice (cells:=Is [s.sp.src]) hs bP rfl rfl ?_;intro b16 w hs
   refine .go ?_
   refine .E 6 hs ?_
   refine .append (ys:=Is [s.sp.src]) hs bH rfl rfl hO (.own (c:=Is [s.sp.src]) (by first|exact .here|exact .there .here|exact .there (.there .here)) rfl rfl) (fN _) (fun l' h=>by simp at h;omega) ?_;intro v17 en17 w hO2 hs
   rw [←List.map_append] at hO2
   have hlen:(L++[s.sp.src]).length=L.length+1:=by simp
   refine .go ?_
   refine .z 7 rfl zg ?_;refine .D hs ?_
   refine .ai (.z zm ?_)
   refine .o (.call F7 rfl (kC hs hO2 aj) ?_);rintro _ w ⟨en3,rfl,hO3,hs⟩
   have hml:((L++[s.sp.src]).mergeSort fun x y=>decide (x≤y)).length=L.length+1:=by rw [List.length_mergeSort,hlen]
   refine .nil (.ai (.z zm ?_))
   refine .o (.call F6 rfl (iN hs hO3 aj) ?_);rintro v21 w ⟨en4,hO4,hs⟩
   have hcl2:=Go.Lib.compact_length_le ((L++[s.sp.src]).mergeSort fun x y=>decide (x≤y))
   refine .z zg (.z zg (.nil ?_))
   refine .ret (Fin.oH Tryz.results55 rfl rfl ?_)
   obtain ⟨H2,g1,r1,hs⟩:=bQ.dj hO4 aj hs dJ
   exact ⟨H2,_,_,0,hle1.trans g1,rfl,r1,aj,.ok hok (lh.congr fun x=>by rw [List.mem_append,List.mem_singleton,hR.mem]),hs.out⟩
  ·refine .buildSlice (cells:=Is [s.sp.src]) hs bP rfl rfl ?_;intro b16 w hs
   refine .go ?_
   refine .E 1 hs ?_
   have hok:c9 s:=hC.bT.1 (by simpa using hc9)
   have hrl:=hok.early.2.1
   have hcl:=hok.early.2.2.1
   refine .call Tryz.call137 rfl (jc (s:=s) hs (h3.mono hle1) (h4.mono hle1) aj aj) ?_;rintro v12 w ⟨L,en,hO,hLl,hR,hs⟩
   obtain ⟨a12,c12,rfl⟩:=hO.oW
   refine .go ?_
   refine .E 6 hs ?_
   refine .append (ys:=Is [s.sp.src]) hs bH rfl rfl hO (.own (c:=Is [s.sp.src]) (by first|exact .here|exact .there .here|exact .there (.there .here)) rfl rfl) (fN _) (fun l' h=>by simp at h;omega) ?_;intro v17 en17 w hO2 hs
   rw [←List.map_append] at hO2
   have hlen:(L++[s.sp.src]).length=L.length+1:=by simp
   refine .go ?_
   refine .z 7 rfl zg ?_;refine .D hs ?_
   refine .ai (.z zm ?_)
   refine .o (.call F7 rfl (kC hs hO2 aj) ?_);rintro _ w ⟨en3,rfl,hO3,hs⟩
   have hml:((L++[s.sp.src]).mergeSort fun x y=>decide (x≤y)).length=L.length+1:=by rw [List.length_mergeSort,hlen]
   refine .nil (.ai (.z zm ?_))
   refine .o (.call F6 rfl (iN hs hO3 aj) ?_);rintro v21 w ⟨en4,hO4,hs⟩
   have hcl2:=Go.Lib.compact_length_le ((L++[s.sp.src]).mergeSort fun x y=>decide (x≤y))
   refine .z zg (.z zg (.nil ?_))
   refine .ret (Fin.oH Tryz.results55 rfl rfl ?_)
   obtain ⟨H2,g1,r1,hs⟩:=bQ.dj hO4 aj hs dJ
   exact ⟨H2,_,_,0,hle1.trans g1,rfl,r1,aj,.ok hok (lh.congr fun x=>by rw [List.mem_append,List.mem_singleton,hR.mem]),hs.out⟩
theorem o7{s:Srv}{vst vwa vr vc:Value}(hs:St H w σ)(h1:RI H vst s.sp.st)(h2:RI H vwa s.sp.wa)(h3:RRd H vr s.rs)(h4:RCm H vc s.cs):
  Cl Tryz.prog 54 [.agg #[I s.sp.id,I s.sp.src,vst,vwa,I s.sp.al,I s.sp.up,vr,vc]] w fun u w'=>∃H1 vt ts e,HLe H H1∧u= .tuple #[vt,I e]∧RTd H1 vt ts∧tc s e∧ts.length≤60∧(ts=if e=0 then s.bh else [])∧St H1 w' σ:=by
 refine Cl.o Tryz.func54 Tryz.ntmps54 ag1 ?_
 refine .ai ?_
 refine .bx hs fun b1 w hs=>?_
 refine .z zg (.z zg (.nil (.seq (.ai (.y hs (zls [_,_,_,_,_,_,_,_] aJ aD) ?_)))))
 refine .o (.call qz rfl (dk (s:=s) hs h1 h2 h3 h4) ?_);rintro _ w ⟨H1,e,hle1,rfl,hC,hs⟩
 refine .z zg (.nil (.ai (.z zm (.z fP (.nil ?_)))))
 refine (.ep rfl (fun hc8=>?_) (fun hc8=>?_))
 ·refine .ai (.z zm (.z zg (.z zg (.nil ?_))))
  refine .ret (rT (Fin.oH Tryz.results54 rfl rfl ?_))
  exact ⟨H1,_,[],_,hle1,rfl,RS.nil H1 2 none 0,hC,bR,by rw [if_neg hc8],hs.out⟩
 ·refine .skip ?_
  refine nT ?_
  refine .ai (.y hs (zls [_,_,_,_,_,_,_,_] aJ aD) ?_)
  have hok:c9 s:=hC.bT.1 (by simpa using hc8)
  have hrl:=hok.early.2.1
  refine .o (.call Tryz.call90 rfl (fR (s:=s) hs (h3.mono hle1) aj) ?_);rintro v11 w ⟨H2,hle2,hT,hs⟩
  refine .z zg (.z zg (.nil ?_))
  refine .ret (Fin.oH Tryz.results54 rfl rfl ?_)
  exact ⟨H2,_,s.bh,_,hle1.trans hle2,rfl,hT,hC.bT.2 hok▸hC,by have:=cI s.rs;unfold Srv.bh;omega,by rw [if_pos rfl],hs.out⟩
set_option maxHeartbeats 1000000 in
theorem s4{s:Spc}{vst vwa vx:Value}{x:List Int}(hs:St H w σ)(h1:RI H vst s.st)(h2:RI H vwa s.wa)(hx:RI H vx x)(hb1:s.st.length≤1000)(hb2:s.wa.length≤1000)(hxl:s.many+1≤x.length):
  Cl Tryz.prog 61 [.agg #[I s.id,I s.src,vst,vwa,I s.al,I s.up],vx] w fun u w'=>∃va us en ens,u= .agg #[va]∧bQ 1 va us en∧mS us (fJ s x s.st.length) ens∧St H w' (en::(ens++σ)):=by
 obtain ⟨ast,cst,rfl⟩:=RI.shape h1
 obtain ⟨awa,cwa,rfl⟩:=RI.shape h2
 obtain ⟨ax,cx,rfl⟩:=RI.shape hx
 refine Cl.o Tryz.func61 Tryz.ntmps61 ag2 ?_
 refine .ai ?_
 refine .bx hs fun b2 w hs=>?_
 refine .o (.alloc hs iG rfl fun b4 w hs=>?_)
 refine .nil (.ai ?_)
 refine .o (.alloc hs iG rfl fun b5 w hs=>?_)
 refine .nil (.seq (.ai (.z zg (.nil (.block ?_)))))
 refine .loop (fun i:Nat=>⟨40,[],[(6,I (i:Int)),(1,.slice ax x.length cx),(5,.pointer (some ⟨b5,0,none⟩)),(4,.pointer (some ⟨b4,0,none⟩)),(2,.pointer (some ⟨b2,0,none⟩))]⟩)
  (fun i w=>i≤s.st.length∧∃va us en ens,bQ 1 va us en∧mS us (fJ s x i) ens∧St H w (.blk b5 [va]::en:: .blk b4 [.slice none 0 0]:: .blk b2 [I s.id,I s.src,.slice ast s.st.length cst,.slice awa s.wa.length cwa,I s.al,I s.up]::(ens++σ))) (fun i=>s.st.length - i) 0 bA
  ⟨Nat.zero_le _,_,[],.nul,[],.nil 1 none,.nil,hs.nul.sb⟩ ?_
 clear hs
 rintro i w ⟨hi,va,us,en,ens,hO,hR,hs⟩
 have hul:=hR.length
 rw [dL] at hul
 obtain ⟨aa,la,ca,rfl,hla⟩:=hO.shape
 refine .seq (.ai (.z zm (.z (zfa bB) (.y hs (zld ak) (.z (cS ad) (.z ik (.nil ?_)))))))
 refine (.cg rfl (fun hc13=>?_) (fun hc13=>?_))
 ·refine .skip ?_
  refine nT ?_
  refine .seq (.block (.ai (.z zg (.nil (.seq (.ai (.z zg (.nil (.block ?_)))))))))
  refine .loop (fun p:Nat×Value=>⟨40,[],[(8,I (p.1:Int)),(7,p.2),(6,I (i:Int)),(1,.slice ax x.length cx),(5,.pointer (some ⟨b5,0,none⟩)),(4,.pointer (some ⟨b4,0,none⟩)),(2,.pointer (some ⟨b2,0,none⟩))]⟩)
   (fun p w=>p.1≤s.wa.length∧∃er,bQ 1 p.2 (Is (jQ s x i p.1)) er∧St H w (er:: .blk b5 [.slice aa la ca]::en:: .blk b4 [.slice none 0 0]:: .blk b2 [I s.id,I s.src,.slice ast s.st.length cst,.slice awa s.wa.length cwa,I s.al,I s.up]::(ens++σ))) (fun p=>s.wa.length - p.1) (0,.slice none 0 0) bA
   ⟨Nat.zero_le _,.nul,.nil 1 none,hs.nul⟩ ?_
  clear hs
  rintro ⟨k,vr⟩ w ⟨hk,er,hOr,hs⟩
  dsimp only at hk hOr hs ⊢
  have hrl:=fw s x i k
  refine .seq (.ai (.z zm (.z (zfa br) (.y hs (zld ak) (.z (cS ad) (.z ik (.nil ?_)))))))
  refine (.cg rfl (fun hc20=>?_) (fun hc20=>?_))
  ·refine .skip ?_
   refine nT ?_
   refine .seq (.block (.region (.z zm (.z zm (.y hs (zls [_,_,_,_,_,_] aM aE) (.z zm (.z zm ?_)))))))
   have hub:=ud (s:=s) (i:=i) (k:=k) aj aj
   refine .o (.call nE rfl (dE (s:=s) hs h2 aj ⟨aj,aj⟩ ⟨aj,aj⟩) ?_);rintro _ w ⟨rfl,hs⟩
   rw [show 1+(i:Int)*(s.wa.length:Int)+(k:Int)=((s.u i k:Nat):Int) by unfold Spc.u;push_cast;rfl]
   refine .ixY hs hx rfl rfl ad af (bL (l:=x) (i:=(s.u i k)) aj) dK ?_;intro b29 o29 hc29
   refine .q hs (aZ rfl ae hc29) ?_
   refine .o (.buildSlice (cells:=[_]) hs bP rfl rfl fun b31 w hs=>?_)
   refine .o (.append (ys:=Is [gi x (s.u i k)]) hs bH rfl rfl hOr (.own .here rfl rfl) (fN _) (fun l h=>by simp at h;omega) ?_);intro v32 en32 w hO2 hs
   rw [←List.map_append,←tx] at hO2
   refine .z zg (.nil ?_)
   refine nB (nT ?_)
   refine .region (.z zm (.z cC (.z zg (.nil ?_))))
   refine nT ?_
   exact ⟨(k+1,v32),.cR rfl bR bA,⟨by dsimp only;omega,_,hO2,hs.sb⟩,by dsimp only;omega⟩
  ·refine .exit ?_
   refine xT (xT (xB (nT ?_)))
   refine .region (.z (zfa dT) (.y hs (zld gZ) (.z zm ?_)))
   obtain rfl:k=s.wa.length:=by omega
   obtain ⟨ar,cr,rfl⟩:=hOr.oW
   refine .o (.buildSlice (cells:=[.slice ar (jQ s x i s.wa.length).length cr]) hs nL rfl rfl fun b36 w hs=>?_)
   refine .o (.append (ys:=[.slice ar (jQ s x i s.wa.length).length cr]) hs jX rfl rfl hO (.own .here rfl rfl) (by simp [Value.oneCell']) (fun l h=>by omega) fun v37 en37 w hO3 hs=>?_)
   obtain ⟨a37,l37,c37,rfl,h37⟩:=hO3.shape
   refine .z (zfa dT) ?_
   refine .o (.store hs rfl rfl Ep fun w hs=>?_)
   refine .nil ?_
   refine nB (nT ?_)
   refine .region (.z zm (.z cC (.z zg (.nil ?_))))
   refine nT ?_
   refine ⟨i+1,.cR rfl bR bA,⟨aj,_,_,en37,ens++[er],hO3,by rw [tv];exact hR.snoc hOr,?_⟩,aj⟩
   replace hs:St H w (.blk b5 [.slice a37 l37 c37]::en37:: .blk b4 [.slice none 0 0]:: .blk b2 [I s.id,I s.src,.slice ast s.st.length cst,.slice awa s.wa.length cwa,I s.al,I s.up]::er::(ens++σ)):=hs.sb
   rw [List.append_assoc]
   exact hs.perm (.cons _ (.cons _ (.cons _ (.cons _ List.perm_middle.symm))))
 ·refine .exit ?_
  refine xT (xT (xB (nT ?_)))
  refine .ai (.y hs (zls [_] fX cK) ?_)
  refine .o (.aQ (vs:=[_]) hs rfl rfl cK fun w hs=>?_)
  refine .nil ?_
  refine .ret ?_
  obtain rfl:i=s.st.length:=by omega
  exact Fin.gV [] [] hs fun w hs=>⟨_,results1 Tryz.results61 (di (vs:=[_]) hs rfl fX cK),_,us,en,ens,rfl,hO,hR,hs.sb⟩
set_option maxHeartbeats 4000000 in
theorem iJ{s:Srv}{rows:List (List Int)}{vst vwa vr vc vh:Value}(hs:St H w σ)(h1:RI H vst s.sp.st)(h2:RI H vwa s.sp.wa)(h3:RRd H vr s.rs)(h4:RCm H vc s.cs)(hh:RT H vh rows):
  Cl Tryz.prog 63 [.agg #[I s.sp.id,I s.sp.src,vst,vwa,I s.sp.al,I s.sp.up,vr,vc],.agg #[vh]] w fun u w'=>∃H1 e,HLe H H1∧u=I e∧CN s rows e∧St H1 w' σ:=by
 obtain ⟨ast,cst,rfl⟩:=RI.shape h1
 obtain ⟨awa,cwa,rfl⟩:=RI.shape h2
 obtain ⟨ar,cr,rfl⟩:=RRd.shape h3
 obtain ⟨ac,cc,rfl⟩:=RCm.shape h4
 obtain ⟨ah,ch,rfl⟩:=hh.shape
 refine Cl.o Tryz.func63 Tryz.ntmps63 ag2 ?_
 refine .ai ?_
 refine .bx hs fun b2 w hs=>?_
 refine .bx hs fun b3 w hs=>?_
 refine .z zg (.nil (.seq (.ai (.y hs (zls [_,_,_,_,_,_,_,_] aJ aD) ?_))))
 refine .o (.call qz rfl (dk (s:=s) hs h1 h2 h3 h4) ?_);rintro _ w ⟨H1,e,hle1,rfl,hC,hs⟩
 refine .z zg (.nil (.ai (.z zm (.z fP (.nil ?_)))))
 refine (.ep rfl (fun hc16=>?_) (fun hc16=>?_))
 ·refine .ai (.z zm (.z zg (.nil ?_)))
  refine .ret (rT (?_))
  exact Fin.bD Tryz.results63 rfl ⟨H1,_,hle1,rfl,.bad hC hc16,hs.out⟩
 ·refine .skip ?_
  refine nT ?_
  refine .seq (.ai (.z (zfa aN) (.y hs (zls [_,_,_,_,_,_] aM aE) (.y hs (zls [_] fX cK) ?_))))
  have hok:c9 s:=hC.bT.1 (by simpa using hc16)
  have hsm:=eo hok.early.1
  have hrl:=hok.early.2.1
  refine .o (.call Tryz.call101 rfl (jU (s:=s.sp) hs (h1.mono hle1) (h2.mono hle1) (hh.mono hle1)) ?_);rintro _ w ⟨H2,b21,hle2,rfl,hb21,hs⟩
  have hle02:=hle1.trans hle2
  refine .z iU (.nil ?_)
  refine (.cond rfl (fun hc22=>?_) (fun hc22=>?_))
  ·refine .ai (.z zg (.nil ?_))
   refine .ret (rT (?_))
   exact Fin.bD Tryz.results63 rfl ⟨H2,_,hle02,rfl,.hull hok (fun h=>by rw [hb21.2 h] at hc22;cases hc22),hs.out⟩
  ·refine .skip ?_
   refine nT ?_
   refine .ai (.y hs (zls [_,_,_,_,_,_,_,_] aJ aD) ?_)
   have hhull:jI s.sp rows:=hb21.1 (by simpa using hc22)
   have hll:=hok.bK
   have hmm:=hok.many
   refine .o (.call vG rfl (dO (s:=s) hs (h1.mono hle02) (h2.mono hle02) (h3.mono hle02) (h4.mono hle02) hok.early) ?_);rintro _ w ⟨H3,hle3,⟨ul,rfl,hL⟩,hs⟩
   obtain ⟨al,cl,rfl⟩:=RL.shape hL
   have hle03:=hle02.trans hle3
   have hbd:=fun b hb=>C4 (b:=b) hhull hb
   have hlim:=fun l hl=>hok.sys.lim l hl
   refine .o (.alloc hs dC rfl fun b6 w hs=>?_)
   refine .o (.aQ (vs:=[_,_]) hs rfl rfl aH fun w hs=>?_)
   refine .nil (.ai ?_)
   refine .o (.buildSlice (cells:=[_]) hs bP rfl rfl fun b25 w hs=>?_)
   refine .o (.alloc hs dD rfl fun b7 w hs=>?_)
   refine .o (.store hs rfl rfl aC fun w hs=>?_)
   refine .nil (.seq (.ai (.z (zfa aN) (.y hs (zls [_,_,_,_,_,_] aM aE) ?_))))
   refine .o (.call sS rfl (ed (s:=s.sp) hs (h1.mono hle03) (h2.mono hle03) ⟨aj,aj⟩) ?_);rintro _ w ⟨H4,ba,hle4,rfl,hit,hs⟩
   have hle04:=hle03.trans hle4
   refine .nil (.block ?_)
   refine .rangeFunc (gf:=190) (cap:=[.pointer (some ⟨ba,0,none⟩)]) (xs:=sX s.sp) (σb:=[.blk b7 [.slice (some ⟨b25,0,none⟩) 1 1],.blk b25 (Is [0]),.blk b6 [I s.sys.many,.slice al s.bK.length cl],.blk b3 [.slice ah rows.length ch]]) (σf:=σ) (hs.sb) trivial rfl hit sQ (fun x hx=>by
     simp only [sX,List.mem_map] at hx
     obtain ⟨j,_,rfl⟩:=hx;rfl) rfl
    (I:=fun p H' σb=>∃vo en,σb=[.blk b7 [vo],en,.blk b6 [I s.sys.many,.slice al s.bK.length cl],.blk b3 [.slice ah rows.length ch]]∧bQ 1 vo (Is (xl1 s (gt rows) (p+1))) en) (Ix:=fun _ _ _=>False)
    (fun j _ _ σ g1 g2=>g2) (fun _ _ _ _ _ h=>h) ⟨_,_,rfl,.full rfl⟩ ?_ ?_ (fun D c H' σb w _ h _=>h.elim)
   ·rintro ly p hp H5 σb2 σf2 w hle5 ⟨vo,en,rfl,hO⟩ hs ⟨rr,hrr⟩
    have hpm:p<s.sp.many:=by rw [dd] at hp;exact hp
    have hin:p/s.sp.wa.length<s.sp.st.length:=Nat.div_lt_of_lt_mul (by rw [Nat.mul_comm];exact hpm)
    have hkm:=Nat.mod_lt p hsm.2.2.1
    have hval:hpt s.sp (gt rows) (p+1)=gi (gr rows (p/s.sp.wa.length)) (p%s.sp.wa.length):=rfl
    have hrow:=hhull.row _ hin
    have hrlen:=hhull.len
    have hr5:=hh.mono (hle04.trans hle5)
    rw [kv hp]
    obtain ⟨ao,lo,co,rfl,hlo⟩:=hO.shape
    have hxl:=kM s (gt rows) (p+1)
    generalize p/s.sp.wa.length=i at*
    generalize p%s.sp.wa.length=k at*
    refine .region ?_
    refine .o (.alloc hs gX rfl fun b8 w hs=>?_)
    refine .o (.aQ (vs:=[_,_,_]) hs rfl rfl kb fun w hs=>?_)
    refine .nil ?_
    refine nT ?_
    refine ⟨H5,[.blk b8 [I (i:Int),I (k:Int),I ((p+1:Nat):Int)],.blk b7 [.slice ao lo co],en,.blk b6 [I s.sys.many,.slice al s.bK.length cl],.blk b3 [.slice ah rows.length ch]],HLe.refl _,hs,?_⟩;rintro w σf4 - hs
    refine .block ?_
    refine .draw mix rfl hs fun w hs=>?_
    refine .y 0 rfl hs ak ?_;refine .z 1 rfl (zfa dT) ?_;refine .y 2 rfl hs gZ ?_;refine .z 3 rfl (zfa cd) ?_;refine .y 4 rfl hs ae ?_
    refine .ixT (i:=5) hs rfl an .none hr5 rfl rfl aq aC (show i<_ by omega) dK ?_;intro b35 o35 a35 c35 hc35 hR35
    refine .r (i:=6) hs rfl an .none (aZ rfl ak hc35) ?_
    refine .z 7 rfl (zfa bZ) ?_;refine .y 8 rfl hs ae ?_
    refine .ixX (enc:=fun x=>[I x]) (i:=9) hs rfl an .none hR35 rfl rfl ad af (bL (l:=(gr rows i)) (i:=k) aj) dK ?_;intro b39 o39 hc39;replace hc39:=bM.one hc39
    refine .r (i:=10) hs rfl an .none (aZ rfl ae hc39) ?_
    refine .E 11 hs ?_
    refine .buildSlice (cells:=[_]) hs bP rfl rfl ?_;intro b41 w hs
    refine .go ?_
    refine .E 12 hs ?_
    refine .append (ys:=Is [gi (gr rows i) k]) hs bH rfl rfl hO (.own (c:=Is [gi (gr rows i) k]) (by first|exact .here|exact .there .here) rfl rfl) (fN _) (fun l h=>by simp at h;omega) ?_;intro v42 en42 w hO2 hs
    rw [←List.map_append,←hval,←By] at hO2
    obtain ⟨a42,l42,c42,rfl,h42⟩:=hO2.shape
    refine .go ?_
    refine .E 13 hs ?_
    refine .store hs rfl rfl aC ?_;intro w hs
    refine .go ?_
    refine .D hs ?_
    refine nB ?_
    exact ⟨H5,[.blk b7 [.slice a42 l42 c42],en42,.blk b6 [I s.sys.many,.slice al s.bK.length cl],.blk b3 [.slice ah rows.length ch]],HLe.refl _,(hs.sb:St H5 w (.blk b7 _::en42:: .blk b6 _:: .blk b3 _::σf4)),_,_,rfl,hO2⟩
   ·rintro D H5 σb2 w hle5 ⟨vo,en,rfl,hO⟩ hs
    rw [dd] at hO
    replace hs:St H5 w (.obj D (.deferred (some [])):: .blk b7 [vo]::en:: .blk b6 [I s.sys.many,.slice al s.bK.length cl]:: .blk b3 [.slice ah rows.length ch]::σ):=hs
    obtain ⟨ao,lo,co,rfl,hlo⟩:=hO.shape
    have hxl:=kM s (gt rows) (s.sp.many+1)
    have hlo':lo=s.sp.many+1:=by simp [Is] at hlo;omega
    subst hlo'
    have hL5:=hL.mono (hle4.trans hle5)
    have hleF:=hle04.trans hle5
    refine nB (nT ?_)
    refine .seq (.ai (.y hs (zld ak) (.z (cS ad) (.z zg (.nil (.block ?_))))))
    refine .loop (fun j:Nat=>⟨81,marks [D],[(9,I ((s.sp.many+1+j:Nat):Int)),(7,.pointer (some ⟨b7,0,none⟩)),(6,.pointer (some ⟨b6,0,none⟩))]⟩)
     (fun j w=>j≤s.bh.length∧∃ax cx en,bQ 1 (.slice ax (s.sp.many+1+j) cx) (Is (xl1 s (gt rows) (s.sp.many+1)++xl2 s (gt rows) j)) en∧St H5 w (.obj D (.deferred (some [])):: .blk b7 [.slice ax (s.sp.many+1+j) cx]::en:: .blk b6 [I s.sys.many,.slice al s.bK.length cl]::σ)) (fun j=>s.bh.length - j) 0 bA
     ⟨Nat.zero_le _,_,_,_,by show bQ 1 _ (Is (_++[])) _;rw [List.append_nil];exact hO,hs.sb⟩ ?_
    clear hs hO
    rintro j w ⟨hj,ax,cx,en,hO,hs⟩
    have hsys:s.sys.many=((s.sp.many+s.bh.length:Nat):Int):=rfl
    have hx2:=ti s (gt rows) j
    have hxall:(xl1 s (gt rows) (s.sp.many+1)++xl2 s (gt rows) j).length=s.sp.many+1+j:=by rw [List.length_append,hxl,hx2]
    refine .seq (.ai (.z zm (.z (zfa bw) (.y hs (zld ae) (.z vA (.nil ?_))))))
    refine (.cg rfl (fun hc48=>?_) (fun hc48=>?_))
    ·refine .skip ?_
     refine nT ?_
     refine .seq (.block (.ai (.z zg (.nil (.seq (.ai (.z (zfa bu) (.y hs (zld bU) (.z (cS aI) ?_)))))))))
     refine .z zm (.nil ?_)
     refine .for (N:=s.bK.length) (J:=fun k fr w=>fr=[(10,I (sW (hpt s.sp (gt rows)) (s.sp.many+1+j:Nat) (s.bK.take k))),(52,.slice al s.bK.length cl),(9,I ((s.sp.many+1+j:Nat):Int)),(7,.pointer (some ⟨b7,0,none⟩)),(6,.pointer (some ⟨b6,0,none⟩))]∧St H5 w (.obj D (.deferred (some [])):: .blk b7 [.slice ax (s.sp.many+1+j) cx]::en:: .blk b6 [I s.sys.many,.slice al s.bK.length cl]::σ)) aj ?_ ?_ ?_
     ·exact .mk ⟨rfl,hs⟩
     ·rintro k fr w hk ⟨rfl,hs⟩
      obtain ⟨l,hx⟩:=nth (l:=s.bK) hk
      have hlm:=List.mem_of_getElem? hx
      obtain ⟨⟨gA,gB⟩,hsd⟩:=mv hok.early hlm
      have hM:=(hlim l hlm).2.2.2.1
      obtain ⟨eB,hB⟩:∃b:Nat,l.B=b:=⟨_,(Int.toNat_of_nonneg gB).symm⟩
      have hB1:l.B.toNat=eB:=by rw [hB,Int.toNat_natCast]
      rw [hB1] at hsd
      have hbl:=xm (hpt s.sp (gt rows)) (s.sp.many+1+j:Nat) (s.bK.take k)
      refine .block (.ai ?_)
      refine .ixX (enc:=Lim.c) hs hL5 rfl rfl aI aR hx rfl ?_;intro b56 o56 hc56
      refine .q hs (bY (vs:=l.c) rfl eb aR hc56) ?_
      refine .o (.alloc hs db rfl fun b12 w hs=>?_)
      refine .o (.aQ (vs:=l.c) hs rfl rfl aR fun w hs=>?_)
      refine .nil (.ai (.z (zfa du) (.y hs (zld ae) (.z zm (.z j6 (.nil ?_))))))
      refine (.cg rfl (fun hc61=>?_) (fun hc61=>?_))
      ·refine .draw mix rfl hs fun w hs=>?_
       have hbB:=hbd eB aj
       obtain ⟨bo,co',sp,hv,rfl,hcap⟩:=hO.blk (by rw [hxall];omega)
       simp only [Value.slice.injEq] at hv
       obtain ⟨rfl,-,rfl⟩:=hv
       have hgx:gi (xl1 s (gt rows) (s.sp.many+1)++xl2 s (gt rows) j) eB=hpt s.sp (gt rows) eB:=tU s _ _ aj
       refine .z 0 rfl zm ?_;refine .y 1 rfl hs ak ?_;refine .z 2 rfl (zfa dI) ?_;refine .y 3 rfl hs ae ?_
       rw [hB]
       refine .z 4 rfl (zix (j:=eB) ad af) ?_
       refine .load (i:=5) hs rfl an .none rfl ae ?_ (hv:=eX aj sp)
       rw [hgx]
       refine .z 6 rfl (zfa eA) ?_;refine .y 7 rfl hs ae ?_;refine .z 8 rfl iK ?_;refine .z 9 rfl Di ?_;refine .z 10 rfl zg ?_;refine .D hs ?_
       refine nB (nT ?_)
       exact .mk ⟨by rw [cU hx,sq,if_pos aj,hB1],hs.sb⟩
      ·refine .skip ?_
       refine nB (nT ?_)
       exact .mk ⟨by rw [cU hx,sq,if_neg aj],hs.sb⟩
     ·rintro fr w ⟨rfl,hs⟩
      rw [List.take_length]
      refine nT ?_
      refine .region (.y hs (zld ak) (.z zm ?_))
      refine .o (.buildSlice (cells:=[_]) hs bP rfl rfl fun b75 w hs=>?_)
      refine .o (.append (ys:=Is [sW (hpt s.sp (gt rows)) (s.sp.many+1+j:Nat) s.bK]) hs bH rfl rfl hO (.own .here rfl rfl) (fN _) (fun l h=>by simp only [Is,List.length_map,hxall] at h;omega) ?_);intro v76 en76 w hO2 hs
      rw [←List.map_append,List.append_assoc,←Bx] at hO2
      obtain ⟨a76,c76,rfl⟩:=hO2.oW
      have hx3:(xl1 s (gt rows) (s.sp.many+1)++xl2 s (gt rows) (j+1)).length=s.sp.many+1+(j+1):=by rw [List.length_append,hxl,ti]
      rw [hx3] at hO2 ⊢
      refine .o (.store hs rfl rfl aC fun w hs=>?_)
      refine .nil ?_
      refine nB (nT ?_)
      refine .region (.z zm (.z cC (.z zg (.nil ?_))))
      refine nT ?_
      exact ⟨j+1,.cR rfl (by simp;omega) bA,⟨aj,_,_,_,hO2,hs.sb⟩,aj⟩
    ·refine .exit ?_
     refine xT (xT (xB (nT ?_)))
     refine .seq (.ai (.y hs (zls [_,_] a8 aH) (.y hs (zld ak) ?_)))
     obtain rfl:j=s.bh.length:=by omega
     obtain ⟨H6,hle6,hX,hs⟩:=bQ.dj hO (by rw [hxall];omega) hs dJ
     refine .o (.call Tryz.call76 rfl (mK (s:=s.sys) hs ⟨_,rfl,hL5.mono hle6⟩ hX) ?_);rintro _ w ⟨e79,rfl,hP,hs⟩
     have hn:=nh s
     have hkeep:Bg s.sys (xl1 s (gt rows) (s.sp.many+1)++xl2 s (gt rows) s.bh.length)↔∃f,Kp s (gt rows) f:=by
      rw [←Bw hok]
      refine ⟨fun h=>h.wC,fun h=>⟨by rw [hxall,hn];omega,by rw [tU s _ _ aj];rfl,fun b hb=>?_,h⟩⟩
      rw [hn] at hb
      by_cases e:b<s.sp.many+1
      ·rw [tU s _ _ e]
       have:=hbd b aj
       omega
      ·rw [show b=s.sp.many+1+(b - (s.sp.many+1)) by omega,xR s _ aj]
       have g1:=xm (hpt s.sp (gt rows)) (s.sp.many+1+(b - (s.sp.many+1)):Nat) s.bK
       have g2:=Ck hok hhull (b - (s.sp.many+1))
       omega
     refine .z fP (.nil ?_)
     refine (.ep rfl (fun hc80=>?_) (fun hc80=>?_))
     ·refine .ai (.z zg (.nil ?_))
      refine .ret (rT (?_))
      refine Fin.gV [D] [] hs fun w hs=>⟨_,results1 Tryz.results63 rfl,H6,_,hleF.trans hle6,rfl,.no hok hhull (fun h=>hc80 ?_),hs.out⟩
      cases hP with
      |bad h=>exact (h (s.sys.bT.2 hok.sys)).elim
      |off _ h1=>exact (h1 (hkeep.2 h)).elim
      |ok=>rfl
     ·refine .skip ?_
      refine nT ?_
      refine .ai (.z zg (.nil ?_))
      refine .ret ?_
      refine Fin.gV [D] [] hs fun w hs=>⟨_,results1 Tryz.results63 rfl,H6,_,hleF.trans hle6,rfl,.ok hok hhull (hkeep.1 ?_),hs.out⟩
      cases hP with
      |bad h=>exact (h (s.sys.bT.2 hok.sys)).elim
      |off _ h1=>omega
      |ok _ h1=>exact h1
def fO(q:Wht)(high:Bool)(n m:Int):Prop:=if high=true then m/oI q≤n else n≤-m/oI q
inductive rk(v:Srv)(q:Wht)(high:Bool)(n m:Int)(us:List Use):Int→Prop
 |bad {e:Int} (h:tc v e) (he:e≠0):rk v q high n m us e
 |what (h:c9 v) (h1:¬eL v.sp q):rk v q high n m us 33
 |prf (h:c9 v) (h1:eL v.sp q) (h2:¬jZ v.sys (sC (v.w q) high) m us):rk v q high n m us 24
 |off (h:c9 v) (h1:eL v.sp q) (h2:jZ v.sys (sC (v.w q) high) m us) (h3:¬fO q high n m):rk v q high n m us 36
 |ok (h:c9 v) (h1:eL v.sp q) (h2:jZ v.sys (sC (v.w q) high) m us) (h3:fO q high n m):rk v q high n m us 0
theorem rk.uniq{v:Srv}{q:Wht}{high:Bool}{n m:Int}{us:List Use}{e f:Int}(h:rk v q high n m us e)(g:rk v q high n m us f):e=f:=by
 cases h with
 |bad h he=>
  cases g with
  |bad g _=>exact h.uniq g
  |what g _=>exact (he (h.bT.2 g)).elim
  |prf g _ _=>exact (he (h.bT.2 g)).elim
  |off g _ _ _=>exact (he (h.bT.2 g)).elim
  |ok g _ _ _=>exact (he (h.bT.2 g)).elim
 |what h h1=>cases g with|bad g ge=>exact (ge (g.bT.2 h)).elim|_=>first|rfl|contradiction
 |prf h h1 h2=>cases g with|bad g ge=>exact (ge (g.bT.2 h)).elim|_=>first|rfl|contradiction
 |off h h1 h2 h3=>cases g with|bad g ge=>exact (ge (g.bT.2 h)).elim|_=>first|rfl|contradiction
 |ok h h1 h2 h3=>cases g with|bad g ge=>exact (ge (g.bT.2 h)).elim|_=>first|rfl|contradiction
theorem u9{v:Srv}(h:c9 v){q:Wht}(hq:eL v.sp q)(high:Bool):dP v.sys (sC (v.w q) high)=0:=by
 unfold sC;split
 ·exact h.ask hq
 ·rw [qw];exact h.ask hq
theorem yc{v:Srv}(h:c9 v){ws:List Int}{m:Int}{us:List Use}(hp:jZ v.sys ws m us): -4608000000000000000≤m∧m≤4608000000000000000:=by
 have h1:=yN h.sys hp.use
 have h2:=hp.tot
 have h3:=hp.bound
 omega
theorem A9{v:Srv}{q:Wht}{high:Bool}{n m:Int}{us:List Use}(h:c9 v)(hq:eL v.sp q){e:Int}(hp:wN v.sys (sC (v.w q) high) m us e):(e≠0→e=24∧rk v q high n m us 24)∧(e=0→jZ v.sys (sC (v.w q) high) m us):=by
 cases hp with
 |ask h1=>exact (h1 (u9 h hq high)).elim
 |bad _ h1=>exact ⟨fun _=>⟨rfl,.prf h hq h1⟩,fun h=>by omega⟩
 |ok _ h1=>exact ⟨fun h=>(h rfl).elim,fun _=>h1⟩
theorem je{w:World}{H:bJ}{σ:List Ent}{x:Int}(hs:St H w σ)(hx: -3456000000000≤x∧x≤3456000000000):
  Cl Tryz.prog 217 [I x] w fun v w'=>v=I (-x)∧St H w' σ:=by
 refine Cl.o Tryz.func217 Tryz.ntmps217 ag1 ?_
 refine .ai (.z zg (.nil (.ai (.z zm (.z xP (.z zg (.nil ?_)))))))
 refine .ret (Fin.bD Tryz.results217 rfl ?_)
 exact ⟨rfl,hs.out⟩
theorem jd{w:World}{H:bJ}{σ:List Ent}{x:Int}(hs:St H w σ):
  Cl Tryz.prog 218 [I x] w fun v w'=>v=I x∧St H w' σ:=by
 refine Cl.o Tryz.func218 Tryz.ntmps218 ag1 ?_
 refine .ai (.z zg (.nil (.ai (.z zm (.z zg (.nil ?_))))))
 refine .ret (Fin.bD Tryz.results218 rfl ?_)
 exact ⟨rfl,hs.out⟩
theorem A1{high:Bool}{L:List Int}{x:Int}{k:Nat}(hx:L[k]? =some x):sC (L.take k) high++[if high then x else -x]=sC (L.take (k+1)) high:=by
 rw [cU hx]
 unfold sC sV
 cases high<;>simp
theorem sB{high:Bool}{L:List Int}:(sC L high).length=L.length:=by unfold sC sV;split<;>simp
theorem eu{w:World}{H:bJ}{σ:List Ent}{m d:Int}{ul vw:Value}{L:List Int}{high:Bool}(hs:St H w σ)(hR:RI H vw L)(hb:∀i,-3456000000000≤gi L i∧gi L i≤3456000000000)(hl:L.length≤1000):
  Cl Tryz.prog 153 [.agg #[I m,ul,vw,I d],.bool high] w fun v w'=>∃H1,HLe H H1∧RI H1 v (sC L high)∧St H1 w' σ:=by
 obtain ⟨aw,cw,rfl⟩:=RI.shape hR
 refine Cl.o Tryz.func153 Tryz.ntmps153 ag2 ?_
 refine .ai ?_
 refine .bx hs fun b2 w hs=>?_
 refine .z zg (.nil (.ai (.z zg (.nil ?_))))
 refine .cut (fun fs w=>∃f,mT fs ⟨25,[],[(5,.func (.func f) #[] #[]),(2,.pointer (some ⟨b2,0,none⟩))]⟩∧(∀args w,(callFunc f args).run Tryz.prog w= .ok (.enter f args) w)∧(∀{σ:List Ent} {w:World} {x:Int},St H w σ→-3456000000000≤x∧x≤3456000000000→Cl Tryz.prog f [I x] w fun v w'=>v=I (if high then x else -x)∧St H w' σ)∧St H w (.blk b2 [I m,ul,.slice aw L.length cw,I d]::σ)) ?_ ?_
 ·refine .ai (.z zm (.nil ?_))
  refine (.cond rfl (fun hc9=>?_) (fun hc9=>?_))
  ·refine .region (.z zg (.nil ?_))
   refine nT ?_
   subst hc9
   exact ⟨218,bA,Tryz.call218,fun hs hx=>(jd hs).mono fun v w' h=>h,hs⟩
  ·refine .skip ?_
   refine nT ?_
   obtain rfl:high=false:=by simpa using hc9
   exact ⟨217,bA,Tryz.call217,fun hs hx=>(je hs hx).mono fun v w' h=>h,hs⟩
 ·clear hs
  rintro fs w ⟨f,hfs,hcf,hsp,hs⟩
  refine WE.sub ?_ hfs
  clear hfs
  refine .ai (.z zg (.nil (.seq (.ai (.z (zfa jj) (.y hs (zld ak) (.z (cS ad) (.z zm (.nil ?_)))))))))
  refine .for (N:=L.length) (J:=fun k fr w=>∃vo en,fr=[(11,.slice aw L.length cw),(6,vo),(5,.func (.func f) #[] #[]),(2,.pointer (some ⟨b2,0,none⟩))]∧bQ 1 vo (Is (sC (L.take k) high)) en∧St H w (en:: .blk b2 [I m,ul,.slice aw L.length cw,I d]::σ)) aj ?_ ?_ ?_
  ·exact .mk ⟨_,_,rfl,by have:sC (L.take 0) high=[]:=(by unfold sC sV;cases high<;>simp);rw [this];exact .nil 1 none,hs.nul⟩
  ·rintro k fr w hk ⟨vo,en,rfl,hO,hs⟩
   obtain ⟨x,hx⟩:=nth hk
   have hxb:=hb k
   rw [show gi L k=x by simp [gi,List.getD,hx]] at hxb
   refine .block (.ai ?_)
   refine .ixX (enc:=fun x=>[I x]) hs hR rfl rfl ad af hx rfl ?_;intro b15 o15 hc15;replace hc15:=bM.one hc15
   refine .q hs (aZ rfl ae hc15) ?_
   refine .z zg (.nil (.region (.z zm (.z zm (.z zm ?_)))))
   refine .o (.ns (first:=[]) (cap:=[]) rfl rfl hcf (hsp hs hxb) ?_);rintro _ w ⟨rfl,hs⟩
   refine .o (.buildSlice (cells:=[_]) hs bP rfl rfl fun b21 w hs=>?_)
   refine .o (.append (ys:=Is [if high then x else -x]) hs bH rfl rfl hO (.own .here rfl rfl) (fN _) (fun l h=>by simp [Is,sB] at h;omega) ?_);intro v22 en22 w hO2 hs
   rw [←List.map_append,A1 hx] at hO2
   refine .z zg (.nil ?_)
   refine nB (nT ?_)
   exact .mk ⟨_,_,rfl,hO2,hs.sb⟩
  ·rintro fr w ⟨vo,en,rfl,hO,hs⟩
   rw [List.take_length] at hO
   refine nT ?_
   refine .ai (.z zm (.z zg (.nil ?_)))
   refine .ret (Fin.bD Tryz.results153 rfl ?_)
   obtain ⟨H1,hle1,hR1,hs⟩:=bQ.dj hO (by rw [sB];omega) hs .here
   exact ⟨H1,hle1,hR1,hs.out⟩
set_option maxHeartbeats 1000000 in
theorem iw{s:Srv}{q:Wht}{vst vwa vr vc vp:Value}{high:Bool}{n m:Int}{us:List Use}(hs:St H w σ)(h1:RI H vst s.sp.st)(h2:RI H vwa s.sp.wa)(h3:RRd H vr s.rs)(h4:RCm H vc s.cs)(hp:RPf H vp m us):
  Cl Tryz.prog 71 [.agg #[I s.sp.id,I s.sp.src,vst,vwa,I s.sp.al,I s.sp.up,vr,vc],.agg #[I q.kind,I q.st,I q.wa],.bool high,I n,vp] w fun u w'=>∃H1 e,HLe H H1∧u=I e∧rk s q high n m us e∧St H1 w' σ:=by
 obtain ⟨uu,rfl,hU⟩:=hp
 obtain ⟨au,cu,rfl⟩:=RU.shape hU
 refine Cl.o Tryz.func71 Tryz.ntmps71 ag5 ?_
 refine .ai ?_
 refine .bx hs fun b5 w hs=>?_
 refine .bx hs fun b6 w hs=>?_
 refine .bx hs fun b9 w hs=>?_
 refine .z zg (.nil (.seq (.ai (.y hs (zls [_,_,_,_,_,_,_,_] aJ aD) ?_))))
 refine .o (.call qz rfl (dk (s:=s) hs h1 h2 h3 h4) ?_);rintro _ w ⟨H1,e,hle1,rfl,hC,hs⟩
 refine .z zg (.nil (.ai (.z zm (.z fP (.nil ?_)))))
 refine (.ep rfl (fun hc18=>?_) (fun hc18=>?_))
 ·refine .ai (.z zm (.z zg (.nil ?_)))
  refine .ret (rT (Fin.bD gz rfl ?_))
  exact ⟨H1,_,hle1,rfl,.bad hC hc18,hs.out⟩
 ·refine .skip ?_
  refine nT ?_
  refine .ai (.y hs (zls [_,_,_,_,_,_,_,_] aJ aD) (.y hs (zls [_,_,_] bS bj) ?_))
  have hok:c9 s:=hC.bT.1 (by simpa using hc18)
  refine .o (.call Tryz.call155 rfl (lK (s:=s) (q:=q) hs (h1.mono hle1) (h2.mono hle1) (h3.mono hle1) (h4.mono hle1) hok) ?_);rintro _ w ⟨H2,ul,vw,L,d,b,hle2,rfl,hL,hR,hLl,hcase,hs⟩
  have hle02:=hle1.trans hle2
  obtain ⟨al,cl,rfl⟩:=RL.shape hL
  obtain ⟨aw,cw,rfl⟩:=RI.shape hR
  refine .z zm (.z zex (.z zex ?_))
  refine .o (.alloc hs gY rfl fun b12 w hs=>?_)
  refine .o (.aQ (vs:=[_,_,_,_]) hs rfl rfl cq fun w hs=>?_)
  refine .z zg (.nil (.seq (.ai (.z zm (.z iU (.nil ?_))))))
  refine (.cond rfl (fun hc27=>?_) (fun hc27=>?_))
  ·refine .ai (.z zg (.nil ?_))
   refine .ret (rT (Fin.bD gz rfl ?_))
   have hq:¬eL s.sp q:=by
    rcases hcase with ⟨g,_⟩|⟨_,g⟩
    ·subst g;cases hc27
    ·exact g
   exact ⟨H2,_,hle02,rfl,.what hok hq,hs.out⟩
  ·refine .skip ?_
   refine nT ?_
   refine .seq ?_
   refine .seq (.draw mix rfl hs fun w hs=>?_)
   refine .z 0 rfl (zfa eU) ?_;refine .ys 1 rfl hs [_,_] a8 aH ?_;refine .ys 2 rfl hs [_,_,_,_] jJ cq ?_;refine .z 3 rfl zm ?_;refine .ys 5 rfl hs [_,_] dc bp ?_
   refine .E 4 hs ?_
   obtain ⟨rfl,hq,rfl,rfl⟩:b=true∧eL s.sp q∧L=s.w q∧d=oI q:=hcase.resolve_right fun h=>by rw [h.1] at hc27;cases hc27
   have hn65:=hok.sys.n65
   refine .call Tryz.call153 rfl (eu (high:=high) hs hR (ui hok hq) aj) ?_;rintro _ w ⟨H3,hle3,hRt,hs⟩
   have hle03:=hle02.trans hle3
   refine .go ?_
   refine .E 6 hs ?_
   refine .call Tryz.call156 rfl (mJ (s:=s.sys) (n:=m) (us:=us) hs ⟨_,rfl,hL.mono hle3⟩ hRt ⟨_,rfl,hU.mono hle03⟩) ?_;rintro _ w ⟨H4,e34,hle4,rfl,hP,hs⟩
   have hle04:=hle03.trans hle4
   refine .go ?_
   refine .z 7 rfl zg ?_;refine .D hs ?_
   refine .ai (.z zm (.z fP (.nil ?_)))
   refine (.ep rfl (fun hc36=>?_) (fun hc36=>?_))
   ·refine .ai (.z zm (.z zg (.nil ?_)))
    refine .ret (rT (Fin.bD gz rfl ?_))
    obtain ⟨rfl,h24⟩:=(A9 (n:=n) hok hq hP).1 hc36
    exact ⟨H4,_,hle04,rfl,h24,hs.out⟩
   ·refine .skip ?_
    refine nT ?_
    refine .seq (.ai ?_)
    have hPk:=(A9 (n:=n) hok hq hP).2 (by simpa using hc36)
    have hbd:=yc hok hPk
    have hdp:=m9 q
    refine .z zm (.z zm ?_)
    refine .bif (t':=39) rfl (fun hb39=>?_) (fun hb39=>?_)
    ·refine .gT rfl rfl ?_
     refine .z (zfa fb) ?_
     refine .gT rfl rfl ?_
     refine .y hs (zld ae) ?_
     refine .gT rfl rfl ?_
     refine .z (zfa dW) ?_
     refine .gT rfl rfl ?_
     refine .y hs (zld ae) ?_
     refine .gT rfl rfl ?_
     refine .o (.call CR rfl (eD hs aj aj) ?_);rintro _ w ⟨rfl,hs⟩
     refine .gT rfl rfl ?_
     refine .z zm ?_
     refine .gT rfl rfl ?_
     refine .z qN (.z zpT (.z zm ?_))
     refine .j7 (t':=48) rfl (fun hb48=>?_) (fun hb48=>?_)
     ·refine .gFs 3 10 false rfl rfl rfl ?_
      refine .gFs 8 13 true rfl rfl rfl ?_
      refine .gFs 1 10 false rfl rfl rfl ?_
      refine .z zpT (.nil ?_)
      refine (.cT ?_)
      refine .ai (.z zg (.nil ?_))
      refine .ret (rT (Fin.bD gz rfl ?_))
      exact ⟨H4,_,hle04,rfl,by
       first
        |exact .ok hok hq hPk (by unfold fO;simp_all)
        |exact .off hok hq hPk (by unfold fO;simp_all)
        |simp_all,hs.out⟩
     ·refine .gT rfl rfl ?_
      refine .z zm ?_
      refine .gT rfl rfl ?_
      refine .z iU ?_
      refine .gT rfl rfl ?_
      refine .z zm ?_
      refine .bif (t':=51) rfl (fun hb51=>?_) (fun hb51=>?_)
      ·refine .gT rfl rfl ?_
       refine .z (zfa fb) ?_
       refine .gT rfl rfl ?_
       refine .y hs (zld ae) ?_
       refine .gT rfl rfl ?_
       refine .z xP ?_
       refine .gT rfl rfl ?_
       refine .z (zfa dW) ?_
       refine .gT rfl rfl ?_
       refine .y hs (zld ae) ?_
       refine .gT rfl rfl ?_
       refine .o (.call CR rfl (eD hs aj aj) ?_);rintro _ w ⟨rfl,hs⟩
       refine .gT rfl rfl ?_
       refine .z zm ?_
       refine .gT rfl rfl ?_
       refine .z ik ?_
       refine .gT rfl rfl ?_
       refine .z zpT (.z zpF (.nil ?_))
       refine (.cg rfl (fun hc61=>?_) (fun hc61=>?_))
       ·refine .ai (.z zg (.nil ?_))
        refine .ret (rT (Fin.bD gz rfl ?_))
        exact ⟨H4,_,hle04,rfl,by
         first
          |exact .ok hok hq hPk (by unfold fO;simp_all)
          |exact .off hok hq hPk (by unfold fO;simp_all)
          |simp_all,hs.out⟩
       ·refine .skip ?_
        refine nT ?_
        refine .ai (.z zg (.nil ?_))
        refine .ret (Fin.bD gz rfl ?_)
        exact ⟨H4,_,hle04,rfl,by
         first
          |exact .ok hok hq hPk (by unfold fO;simp_all)
          |exact .off hok hq hPk (by unfold fO;simp_all)
          |simp_all,hs.out⟩
      ·refine .gFs 8 13 true rfl rfl rfl ?_
       refine .gT rfl rfl ?_
       refine .z zpF (.z zpF (.nil ?_))
       refine (.cF ?_)
       refine .skip ?_
       refine nT ?_
       refine .ai (.z zg (.nil ?_))
       refine .ret (Fin.bD gz rfl ?_)
       exact ⟨H4,_,hle04,rfl,by
        first
         |exact .ok hok hq hPk (by unfold fO;simp_all)
         |exact .off hok hq hPk (by unfold fO;simp_all)
         |simp_all,hs.out⟩
    ·refine .gFs 7 1 true rfl rfl rfl ?_
     refine .z zpF (.z zm ?_)
     refine .gT rfl rfl ?_
     refine .z zm ?_
     refine .gT rfl rfl ?_
     refine .z iU ?_
     refine .gT rfl rfl ?_
     refine .z zm ?_
     refine .bif (t':=51) rfl (fun hb51=>?_) (fun hb51=>?_)
     ·refine .gT rfl rfl ?_
      refine .z (zfa fb) ?_
      refine .gT rfl rfl ?_
      refine .y hs (zld ae) ?_
      refine .gT rfl rfl ?_
      refine .z xP ?_
      refine .gT rfl rfl ?_
      refine .z (zfa dW) ?_
      refine .gT rfl rfl ?_
      refine .y hs (zld ae) ?_
      refine .gT rfl rfl ?_
      refine .o (.call CR rfl (eD hs aj aj) ?_);rintro _ w ⟨rfl,hs⟩
      refine .gT rfl rfl ?_
      refine .z zm ?_
      refine .gT rfl rfl ?_
      refine .z ik ?_
      refine .gT rfl rfl ?_
      refine .z zpT (.z zpF (.nil ?_))
      refine (.cg rfl (fun hc61=>?_) (fun hc61=>?_))
      ·refine .ai (.z zg (.nil ?_))
       refine .ret (rT (Fin.bD gz rfl ?_))
       exact ⟨H4,_,hle04,rfl,by
        first
         |exact .ok hok hq hPk (by unfold fO;simp_all)
         |exact .off hok hq hPk (by unfold fO;simp_all)
         |simp_all,hs.out⟩
      ·refine .skip ?_
       refine nT ?_
       refine .ai (.z zg (.nil ?_))
       refine .ret (Fin.bD gz rfl ?_)
       exact ⟨H4,_,hle04,rfl,by
        first
         |exact .ok hok hq hPk (by unfold fO;simp_all)
         |exact .off hok hq hPk (by unfold fO;simp_all)
         |simp_all,hs.out⟩
     ·refine .gFs 8 13 true rfl rfl rfl ?_
      refine .gT rfl rfl ?_
      refine .z zpF (.z zpF (.nil ?_))
      refine (.cF ?_)
      refine .skip ?_
      refine nT ?_
      refine .ai (.z zg (.nil ?_))
      refine .ret (Fin.bD gz rfl ?_)
      exact ⟨H4,_,hle04,rfl,by
       first
        |exact .ok hok hq hPk (by unfold fO;simp_all)
        |exact .off hok hq hPk (by unfold fO;simp_all)
        |simp_all,hs.out⟩
set_option maxHeartbeats 4000000 in
theorem po{vp vc:Value}{n:Int}{us:List Use}{ls:List Tri}(hs:St H w σ)(hp:RPf H vp n us)(hu:us.length≤400)(hn: -5000000000000000000≤n∧n≤5000000000000000000)(hc:RS H 3 vc (ls.map Tri.v)):
  Cl Tryz.prog 81 [vp,vc] w fun u w'=>∃H1 n2 us2,HLe H H1∧RPf H1 u n2 us2∧St H1 w' σ:=by
 obtain ⟨uu,rfl,hU⟩:=hp
 obtain ⟨au,cu,rfl⟩:=RU.shape hU
 obtain ⟨ac,cc,rfl⟩:∃a c,vc= .slice a ls.length c:=by
  obtain ⟨a,c,h⟩:=hc.shape
  exact ⟨a,c,by rw [h,List.length_map]⟩
 refine Cl.o Tryz.func81 Tryz.ntmps81 ag2 ?_
 refine .ai ?_
 refine .bx hs fun b2 w hs=>?_
 refine .o (.alloc hs dV rfl fun b4 w hs=>?_)
 refine .nil ?_
 refine .cut (fun fs w=>∃b5 vo en,mT fs ⟨88,[],[(5,.pointer (some ⟨b5,0,none⟩)),(4,.pointer (some ⟨b4,0,none⟩)),(1,.slice ac ls.length cc)]⟩∧bQ 2 vo (usc us).flatten en∧St H w (en:: .blk b5 [I n,vo]:: .blk b4 [I 0,.slice none 0 0]::σ)) ?_ ?_
 ·refine .draw mix rfl hs fun w hs=>?_
  refine .z 0 rfl (zfa fb) ?_;refine .y 1 rfl hs ae ?_;refine .z 3 rfl (zfa cO) ?_;refine .y 4 rfl hs fZ ?_
  refine .e2 (i:=2) (j:=7) an rfl rfl rfl rfl .none .none hs ?_ ?_
  ·refine .buildSlice (cells:=[]) hs jB rfl rfl ?_;intro b11 w hs
   refine .go ?_
   refine .e2 (i:=5) (j:=7) an rfl rfl rfl rfl .none .none hs ?_ ?_
   ·refine .append (xs:=[]) hs dq rfl rfl (.full (len:=0) rfl) (xJ hU) (oO us) (fun l' h=>by simp at h;obtain rfl:l'=0:=aj;omega) ?_;intro v14 en14 w hO hs
    rw [List.nil_append] at hO
    obtain ⟨a14,c14,rfl⟩:=hO.ja (kN _) aj
    refine .go ?_
    refine .z 6 rfl (zbd [_,_] gy) ?_
    refine .E 7 hs ?_
    refine .alloc hs dV rfl ?_;intro b5 w hs
    refine .go ?_
    refine .E 8 hs ?_
    refine .aQ (vs:=[_,_]) hs rfl rfl bp ?_;intro w hs
    refine .go ?_
    refine .D hs ?_
    exact nT ⟨_,_,_,bA,hO,hs.sb⟩
   ·refine .alloc hs dV rfl ?_;intro b5 w hs
    refine .go ?_
    refine .E 5 hs ?_
    refine .append (xs:=[]) hs dq rfl rfl (.full (len:=0) rfl) (xJ hU) (oO us) (fun l' h=>by simp at h;obtain rfl:l'=0:=aj;omega) ?_;intro v14 en14 w hO hs
    rw [List.nil_append] at hO
    obtain ⟨a14,c14,rfl⟩:=hO.ja (kN _) aj
    refine .go ?_
    refine .z 6 rfl (zbd [_,_] gy) ?_
    refine .E 8 hs ?_
    refine .aQ (vs:=[_,_]) hs rfl rfl bp ?_;intro w hs
    refine .go ?_
    refine .D hs ?_
    exact nT ⟨_,_,_,bA,hO,hs.sb⟩
  ·refine .alloc hs dV rfl ?_;intro b5 w hs
   refine .go ?_
   refine .E 2 hs ?_
   refine .buildSlice (cells:=[]) hs jB rfl rfl ?_;intro b11 w hs
   refine .go ?_
   refine .E 5 hs ?_
   refine .append (xs:=[]) hs dq rfl rfl (.full (len:=0) rfl) (xJ hU) (oO us) (fun l' h=>by simp at h;obtain rfl:l'=0:=aj;omega) ?_;intro v14 en14 w hO hs
   rw [List.nil_append] at hO
   obtain ⟨a14,c14,rfl⟩:=hO.ja (kN _) aj
   refine .go ?_
   refine .z 6 rfl (zbd [_,_] gy) ?_
   refine .E 8 hs ?_
   refine .aQ (vs:=[_,_]) hs rfl rfl bp ?_;intro w hs
   refine .go ?_
   refine .D hs ?_
   exact nT ⟨_,_,_,bA,hO,hs.sb⟩
 ·rintro fs w ⟨b5,vo,en,hfs,hO,hs⟩
  refine WE.sub ?_ hfs
  clear hfs
  refine .seq (.ai (.z zg (.nil (.block ?_))))
  refine .loop (fun i:Nat=>⟨88,[],[(6,I (i:Int)),(5,.pointer (some ⟨b5,0,none⟩)),(4,.pointer (some ⟨b4,0,none⟩)),(1,.slice ac ls.length cc)]⟩)
   (fun i w=>i≤2∧∃H1 n2 us2 vo en,HLe H H1∧us2.length≤400∧(-5000000000000000000 - 3*(i:Int)≤n2∧n2≤5000000000000000000+3*(i:Int))∧bQ 2 vo (usc us2).flatten en∧St H1 w (en:: .blk b5 [I n2,vo]:: .blk b4 [I 0,.slice none 0 0]::σ)) (fun i=>2 - i) 0 bA
   ⟨aj,H,n,us,_,_,HLe.refl _,hu,aj,hO,hs.sb⟩ ?_
  clear hs hO
  rintro i w ⟨hi,H1,n2,us2,vo,en,hle1,hul,hn2,hO,hs⟩
  obtain ⟨ao,co,rfl⟩:=hO.ja (kN _) aj
  rw [dp] at hO hs
  refine .seq (.ai (.z zm (.z zm (.z (cS Tryz.runUnderlying128) (.z ik (.z zm ?_))))))
  refine .j7 (t':=20) rfl (fun hb20=>?_) (fun hb20=>?_)
  ·refine .gT rfl rfl ?_
   refine .z zm ?_
   refine .gT rfl rfl ?_
   refine .z ik (.z zpT (.nil ?_))
   refine (.cg rfl (fun hc23=>?_) (fun hc23=>?_))
   ·refine .skip ?_
    refine nT ?_
    refine .seq (.block (.ai (.z zm (.z zm ?_))))
    obtain ⟨x,hx⟩:=nth (l:=ls) (k:=i) aj
    refine .ixX (enc:=Tri.v) hs (RS.mono hc hle1) rfl rfl Tryz.runUnderlying128 wR hx rfl ?_;intro b28 o28 hc28
    refine .q hs (bY (vs:=x.v) rfl Tryz.isAgg25 wR hc28) ?_
    refine .o (.alloc hs Tryz.zeroValue25 rfl fun b7 w hs=>?_)
    refine .o (.aQ (vs:=x.v) hs rfl rfl wR fun w hs=>?_)
    refine .nil (.seq (.ai (.z (zfa cO) (.y hs (zld fZ) (.z (cS bF) (.z j6 (.nil ?_)))))))
    refine (.cg rfl (fun hc33=>?_) (fun hc33=>?_))
    ·refine .ai (.y hs (zls [_,_] dc bp) ?_)
     refine .o (.aQ (vs:=[_,_]) hs rfl rfl bp fun w hs=>?_)
     refine .nil ?_
     refine .ret (rT (rB (rT (rT (rB (rT (?_)))))))
     obtain ⟨H2,hle2,hR,hs⟩:=bQ.bX (m:=2) (cs:=usc us2) hO (kN _) aj (by rw [dp];omega) hs dJ
     exact Fin.gV [] [] hs fun w hs=>⟨_,results1 Tryz.results81 (di (vs:=[_,_]) hs rfl dc bp),H2,n2,us2,hle1.trans hle2,⟨_,rfl,hR⟩,hs.out⟩
    ·refine .skip ?_
     refine nT ?_
     refine .ai ?_
     refine .z (zia 1 ft af) ?_
     refine .y hs (zld ae) (.z (zfa cO) (.y hs (zld fZ) (.z (cS bF) ?_)))
     obtain ⟨bo,cp,sp,hv,rfl,hcap⟩:=hO.Fa (kN _) aj (by rw [dp];omega)
     simp only [Value.slice.injEq] at hv
     obtain ⟨rfl,-,rfl⟩:=hv
     rw [dp] at hcap
     refine .o (.call dh rfl (bG hs aj) ?_);rintro _ w ⟨j,gj,rfl,hs⟩
     obtain ⟨u,hux⟩:=nth (l:=us2) (k:=j) aj
     have hbU:∀q<2,Nat.blt (j*2+q) ((usc us2).flatten++sp).length=true:=fun q hq=>Nat.ble_eq_true_of_le (by rw [List.length_append,bO _ (kN _),dp];omega)
     refine .z zg (.nil (.ai ?_))
     refine .z (zia 0 ft af) ?_
     refine .y hs (zld ae) ?_
     refine .o (.call dh rfl (bG hs aj) ?_);rintro _ w ⟨k,gk,rfl,hs⟩
     refine .nil (.block (.ai (.z j6 (.z zg (.nil ?_)))))
     refine (.cg rfl (fun hc44=>?_) (fun hc44=>?_))
     ·refine .draw mix rfl hs fun w hs=>?_
      refine .z 0 rfl (zfa fb) ?_;refine .y 1 rfl hs ae ?_
      refine .z 2 rfl (zia 2 ft af) ?_
      refine .y 3 rfl hs ae ?_
      refine .E 4 hs ?_
      refine .call dh rfl (bG hs aj) ?_;rintro _ w ⟨k7,gk7,rfl,hs⟩
      refine .go ?_
      refine .z 5 rfl cC ?_;refine .z 6 rfl iK ?_;refine .z 7 rfl (zfa fb) ?_
      refine .E 8 hs ?_
      refine .store hs rfl rfl af ?_;intro w hs
      refine .go ?_
      refine .D hs ?_
      refine nB (nB (nT ?_))
      refine .region (.z zm (.z cC (.z zg (.nil ?_))))
      refine nT ?_
      exact ⟨i+1,.cR rfl bR bA,⟨aj,H1,n2+(k7:Int) - 3,us2,_,_,hle1,hul,by push_cast;omega,hO,hs.sb⟩,aj⟩
     ·refine .ai (.z j6 (.z zg (.nil ?_)))
      refine (.cg rfl (fun hc54=>?_) (fun hc54=>?_))
      ·refine .region (.z (zfa cO) (.y hs (zld fZ) (.z zm ?_)))
       refine .z (zia 2 ft af) ?_
       refine .y hs (zld ae) ?_
       first|(refine .ixw hs bF ea ?_;intro b61 o61 hc61)|refine .z (wS bF ea) ?_
       refine .z (zfa ic) ?_
       refine .o (.store (c':=(usc (us2.set j {u with t:=x.c})).flatten++sp) hs rfl rfl af ?_ dJ (hbU 1 aj) (xS hux aj rfl sp));intro w hs
       refine .nil ?_
       refine nB (nB (nT ?_))
       refine .region (.z zm (.z cC (.z zg (.nil ?_))))
       refine nT ?_
       exact ⟨i+1,.cR rfl bR bA,⟨aj,H1,n2,us2.set j {u with t:=x.c},_,_,hle1,by rw [List.length_set];exact hul,by push_cast;omega,ye hO,hs.sb⟩,aj⟩
      ·refine .ai (.z j6 (.z zg (.nil ?_)))
       refine (.cg rfl (fun hc63=>?_) (fun hc63=>?_))
       ·refine .region (.z (zfa cO) (.y hs (zld fZ) (.z zm ?_)))
        refine .z (zia 2 ft af) ?_
        refine .y hs (zld ae) ?_
        first|(refine .ixw hs bF ea ?_;intro b70 o70 hc70)|refine .z (wS bF ea) ?_
        refine .z (zfa jm) ?_
        refine .o (.store (c':=(usc (us2.set j {u with l:=x.c})).flatten++sp) hs rfl rfl af ?_ dJ (hbU 0 aj) (xS hux aj rfl sp));intro w hs
        refine .nil ?_
        refine nB (nB (nT ?_))
        refine .region (.z zm (.z cC (.z zg (.nil ?_))))
        refine nT ?_
        exact ⟨i+1,.cR rfl bR bA,⟨aj,H1,n2,us2.set j {u with l:=x.c},_,_,hle1,by rw [List.length_set];exact hul,by push_cast;omega,ye hO,hs.sb⟩,aj⟩
       ·refine .ai (.z j6 (.z zg (.nil ?_)))
        refine (.cg rfl (fun hc72=>?_) (fun hc72=>?_))
        ·refine .draw mix rfl hs fun w hs=>?_
         refine .z 1 rfl (zfa cO) ?_;refine .y 2 rfl hs fZ ?_;refine .z 3 rfl zm ?_
         refine .z 4 rfl (mr (k:=j) rfl rfl bF ea rfl aj) ?_
         refine .z 6 rfl (zfa cO) ?_;refine .y 7 rfl hs fZ ?_;refine .z 8 rfl zm ?_;refine .z 9 rfl cC ?_
         refine .z 10 rfl (oY (k:=j+1) rfl rfl bF ea (by push_cast;omega) aj) ?_
         refine .E 0 hs ?_
         refine .buildSlice (cells:=[]) hs jB rfl rfl ?_;intro b74 w hs
         refine .go ?_
         refine .E 5 hs ?_
         refine .append (xs:=[]) hs dq rfl rfl (.full (len:=0) rfl) (wM (us:=us2) (j:=j) (sp:=sp) dJ aj) (oO _) (fun l' h=>by simp at h;obtain rfl:l'=0:=aj;omega) ?_;intro v79 en79 w hO2 hs
         rw [List.nil_append] at hO2
         obtain ⟨a79,c79,rfl⟩:=hO2.ja (kN _) aj
         rw [dp] at hO2 ⊢
         refine .go ?_
         refine .E 11 hs ?_
         refine .append hs dq rfl rfl hO2 (wL (us:=us2) (j:=j+1) (sp:=sp) dJ aj aj) (oO _) (fun l' h=>by rw [bO _ (kN _),dp,List.length_take] at h;omega) ?_;intro v85 en85 w hO3 hs
         rw [Dq] at hO3
         obtain ⟨a85,c85,rfl⟩:=hO3.ja (kN _) aj
         rw [dp] at hO3 ⊢
         refine .go ?_
         refine .z 12 rfl (zfa cO) ?_
         refine .E 13 hs ?_
         refine .store hs rfl rfl Tryz.sizeOf111 ?_;intro w hs
         refine .go ?_
         refine .D hs ?_
         refine nB (nB (nT ?_))
         refine .region (.z zm (.z cC (.z zg (.nil ?_))))
         refine nT ?_
         exact ⟨i+1,.cR rfl bR bA,⟨aj,H1,n2,us2.take j++us2.drop (j+1),_,_,hle1,by rw [List.length_append,List.length_take,List.length_drop];omega,by push_cast;omega,hO3,hs.sb⟩,aj⟩
        ·refine .skip ?_
         refine nB (nB (nT ?_))
         refine .region (.z zm (.z cC (.z zg (.nil ?_))))
         refine nT ?_
         exact ⟨i+1,.cR rfl bR bA,⟨aj,H1,n2,us2,_,_,hle1,hul,by push_cast;omega,hO,hs.sb⟩,aj⟩
   ·refine .exit ?_
    refine xT (xT (xB (nT ?_)))
    refine .ai (.y hs (zls [_,_] dc bp) ?_)
    refine .o (.aQ (vs:=[_,_]) hs rfl rfl bp fun w hs=>?_)
    refine .nil ?_
    refine .ret ?_
    obtain ⟨H2,hle2,hR,hs⟩:=bQ.bX (m:=2) (cs:=usc us2) hO (kN _) aj (by rw [dp];omega) hs dJ
    exact Fin.gV [] [] hs fun w hs=>⟨_,results1 Tryz.results81 (di (vs:=[_,_]) hs rfl dc bp),H2,n2,us2,hle1.trans hle2,⟨_,rfl,hR⟩,hs.out⟩
  ·refine .gFs 2 4 true rfl rfl rfl ?_
   refine .z zpF (.nil ?_)
   refine (.cF ?_)
   refine .exit ?_
   refine xT (xT (xB (nT ?_)))
   refine .ai (.y hs (zls [_,_] dc bp) ?_)
   refine .o (.aQ (vs:=[_,_]) hs rfl rfl bp fun w hs=>?_)
   refine .nil ?_
   refine .ret ?_
   obtain ⟨H2,hle2,hR,hs⟩:=bQ.bX (m:=2) (cs:=usc us2) hO (kN _) aj (by rw [dp];omega) hs dJ
   exact Fin.gV [] [] hs fun w hs=>⟨_,results1 Tryz.results81 (di (vs:=[_,_]) hs rfl dc bp),H2,n2,us2,hle1.trans hle2,⟨_,rfl,hR⟩,hs.out⟩
def tS(s:Srv)(q:Wht)(high:Bool)(n:Int)(us:List Use):Prop:=jZ s.sys (sC (s.w q) high) n us∧lE s.sys (sC (s.w q) high) n 0
set_option maxHeartbeats 1000000 in
theorem o8{s:Srv}{q:Wht}{vst vwa vr vc:Value}{high:Bool}(hs:St H w σ)(h1:RI H vst s.sp.st)(h2:RI H vwa s.sp.wa)(h3:RRd H vr s.rs)(h4:RCm H vc s.cs):
  Cl Tryz.prog 80 [.agg #[I s.sp.id,I s.sp.src,vst,vwa,I s.sp.al,I s.sp.up,vr,vc],.agg #[I q.kind,I q.st,I q.wa],.bool high] w fun u w'=>∃H1 vp n us e,HLe H H1∧u= .tuple #[vp,I e]∧RPf H1 vp n us∧pP s q e∧(e≠0→n=0∧us=[])∧(e=0→tS s q high n us)∧St H1 w' σ:=by
 refine Cl.o Tryz.func80 Tryz.ntmps80 ag3 ?_
 refine .ai ?_
 refine .bx hs fun b3 w hs=>?_
 refine .bx hs fun b4 w hs=>?_
 refine .o (.alloc hs dV rfl fun b6 w hs=>?_)
 refine .z zg (.nil (.ai (.y hs (zls [_,_,_,_,_,_,_,_] aJ aD) (.y hs (zls [_,_,_] bS bj) ?_))))
 refine .o (.call Tryz.call85 rfl (iq (s:=s) (q:=q) hs h1 h2 h3 h4) ?_);rintro _ w ⟨H1,m,ul,vw,d,e,hle1,rfl,⟨al,ll,cl,rfl⟩,⟨aw,lw,cw,rfl⟩,hA,hA0,hs⟩
 refine .z zm (.z zex (.z zex ?_))
 refine .o (.alloc hs gY rfl fun b8 w hs=>?_)
 refine .o (.aQ (vs:=[_,_,_,_]) hs rfl rfl cq fun w hs=>?_)
 refine .z zg (.nil (.seq (.ai (.z zm (.z fP (.nil ?_))))))
 refine (.ep rfl (fun hc17=>?_) (fun hc17=>?_))
 ·refine .ai (.z (zbd [_,_] gy) (.z zm ?_))
  refine .o (.aQ (vs:=[_,_]) hs rfl rfl bp fun w hs=>?_)
  refine .z zg (.nil ?_)
  refine .ret (rT (?_))
  exact Fin.gV [] [] hs fun w hs=>⟨_,results2 Tryz.results80 (di (vs:=[_,_]) hs rfl dc bp) rfl,H1,_,0,[],_,hle1,rfl,⟨_,rfl,RS.nil H1 2 none 0⟩,hA,fun _=>⟨rfl,rfl⟩,fun h=>(hc17 h).elim,hs.out⟩
 ·refine .skip ?_
  refine nT ?_
  refine .seq (.draw mix rfl hs fun w hs=>?_)
  refine .z 0 rfl (zfa eU) ?_;refine .ys 1 rfl hs [_,_] a8 aH ?_;refine .ys 2 rfl hs [_,_,_,_] jJ cq ?_;refine .z 3 rfl zm ?_
  refine .E 4 hs ?_
  obtain rfl:e=0:=by simpa using hc17
  obtain ⟨rfl,hL,hR,rfl⟩:=hA0 rfl
  obtain ⟨hok,hq,hsd⟩:=hA.zero
  have hn65:=hok.sys.n65
  have hwl:=mh s q
  refine .call Tryz.call153 rfl (eu (high:=high) hs hR (ui hok hq) aj) ?_;rintro _ w ⟨H2,hle2,hRt,hs⟩
  refine .go ?_
  refine .E 5 hs ?_
  refine .call Tryz.call167 rfl (q6 (s:=s.sys) hs ⟨_,rfl,hL.mono hle2⟩ hRt) ?_;rintro _ w ⟨H3,vp,n,us,f,hle3,rfl,hM,⟨uu,rfl,hU⟩,-,hF,hs⟩
  obtain ⟨au,cu,rfl⟩:=RU.shape hU
  obtain rfl:=mG (u9 hok hq high) hsd (fun b=>s.both) hM
  obtain ⟨hS,-,ts,hFl,rfl,rfl⟩:=hF rfl
  have hle03:=hle1.trans (hle2.trans hle3)
  refine .go ?_
  refine .z 6 rfl zex ?_;refine .z 7 rfl zex ?_
  refine .E 8 hs ?_
  refine .aQ (vs:=[_,_]) hs rfl rfl bp ?_;intro w hs
  refine .go ?_
  refine .z 9 rfl zg ?_;refine .D hs ?_
  refine .ret ?_
  exact Fin.gV [] [] hs fun w hs=>⟨_,results2 Tryz.results80 (di (vs:=[_,_]) hs rfl dc bp) rfl,H3,_,_,_,_,hle03,rfl,⟨_,rfl,hU⟩,hA,fun h=>(h rfl).elim,fun _=>⟨zv hS hFl,hM⟩,hs.out⟩
theorem pP.same{v:Srv}{q:Wht}{lo hi e f:Int}(h:pP v q e)(g:vD v q lo hi f):e=f:=by
 by_cases e0:e=0
 ·subst e0
  obtain ⟨h1,h2,h3⟩:=h.zero
  cases g with
  |bad g ge=>exact (ge (g.bT.2 h1)).elim
  |what _ g=>exact (g h2).elim
  |fls _ _ g=>exact (g h3).elim
  |ok=>rfl
 ·exact ((h.qty e0).uniq g).2.2
theorem uq{v:Srv}{q:Wht}{lo hi:Int}(g:vD v q lo hi 0):∃a b,lo=a/oI q∧hi=b/oI q∧c9 v∧eL v.sp q∧dQ v.sys (v.w q) a b 0:=by
 generalize hz:(0:Int)=z at g
 cases g with
 |bad g ge=>exact (ge hz.symm).elim
 |what=>omega
 |fls=>omega
 |ok h1 h2 h3 h4=>exact ⟨_,_,rfl,rfl,h1,h2,h4⟩
theorem AX{a d:Int}(hd:1≤d)(ha: -4608000000000000000≤a∧a≤4608000000000000000): -4608000000000000000≤a/d∧a/d≤4608000000000000000:=by
 have:=Int.mul_le_mul_of_nonneg_left hd (show (0:Int)≤4608000000000000000 by omega)
 exact ⟨Int.le_ediv_of_mul_le aj aj,Int.ediv_le_of_le_mul aj aj⟩
theorem EA{v:Srv}{q:Wht}{lo hi e:Int}(g:vD v q lo hi e):(-4608000000000000000≤lo∧lo≤4608000000000000000)∧-4608000000000000000≤hi∧hi≤4608000000000000000:=by
 have hd:=m9 q
 cases g with
 |bad=>omega
 |what=>omega
 |fls=>omega
 |ok h1 h2 h3 h4=>
  have:=h4.bd
  exact ⟨AX aj aj,AX aj aj⟩
theorem tS.FQ{v:Srv}{q:Wht}{high:Bool}{n lo hi:Int}{us:List Use}(h:tS v q high n us)(g:vD v q lo hi 0):rk v q high (if high=true then hi else lo) n us 0:=by
 obtain ⟨a,b,rfl,rfl,h1,h2,h3⟩:=uq g
 refine .ok h1 h2 h.1 ?_
 have hm:=h.2
 unfold sC at hm
 unfold fO
 cases high with
 |true=>rw [if_pos rfl] at hm ⊢;rw [if_pos rfl,B1 h3 hm];exact Int.le_refl _
 |false=>
  rw [if_neg bR] at hm ⊢
  rw [if_neg bR,B0 h3 hm,Int.neg_neg];exact Int.le_refl _
theorem tS.bd{v:Srv}{q:Wht}{high:Bool}{n e:Int}{us:List Use}(h0:e≠0→n=0∧us=[])(hA:pP v q e)(h:e=0→tS v q high n us):us.length≤400∧-5000000000000000000≤n∧n≤5000000000000000000:=by
 by_cases e0:e=0
 ·subst e0
  have h1:=yc hA.zero.1 (h rfl).1
  exact ⟨(h rfl).1.len,aj⟩
 ·obtain ⟨rfl,rfl⟩:=h0 e0
  exact ⟨bR,aj⟩
set_option maxHeartbeats 2000000 in
theorem qh{s:Spc}{vst vwa vx:Value}{x:List Int}(hs:St H w σ)(h1:RI H vst s.st)(h2:RI H vwa s.wa)(hx:RI H vx x)(hsp:fW s)(hxl:s.many+1≤x.length):
  Cl Tryz.prog 154 [.agg #[I s.id,I s.src,vst,vwa,I s.al,I s.up],vx] w fun u w'=>∃H1 va,HLe H H1∧u= .agg #[va]∧RT H1 va (fJ s x s.st.length)∧St H1 w' σ:=by
 have hsm:=eo hsp
 have hw:=hsm.2.2.1
 obtain ⟨ast,cst,rfl⟩:=RI.shape h1
 obtain ⟨awa,cwa,rfl⟩:=RI.shape h2
 obtain ⟨ax,cx,rfl⟩:=RI.shape hx
 refine Cl.o Tryz.func154 Tryz.ntmps154 ag2 ?_
 refine .ai ?_
 refine .bx hs fun b2 w hs=>?_
 refine .bx hs fun b3 w hs=>?_
 refine .o (.alloc hs iG rfl fun b4 w hs=>?_)
 refine .nil (.ai ?_)
 refine .o (.alloc hs iG rfl fun b5 w hs=>?_)
 refine .nil (.seq (.ai (.y hs (zls [_,_,_,_,_,_] aM aE) ?_)))
 refine .o (.call sS rfl (ed (s:=s) hs h1 h2 ⟨aj,aj⟩) ?_);rintro _ w ⟨H1,ba,hle1,rfl,hit,hs⟩
 replace hx:=hx.mono hle1
 refine .nil (.block ?_)
 refine .rangeFunc (gf:=190) (cap:=[.pointer (some ⟨ba,0,none⟩)]) (xs:=sX s) (σb:=[.blk b5 [.slice none 0 0],.nul,.blk b4 [.slice none 0 0],.blk b3 [.slice ax x.length cx]]) (σf:=σ) (hs.nul.sb) trivial rfl hit sQ (fun x hx=>by
   simp only [sX,List.mem_map] at hx
   obtain ⟨j,_,rfl⟩:=hx;rfl) rfl
  (I:=fun p H' σb=>∃va us en ens,σb= .blk b5 [va]::en:: .blk b4 [.slice none 0 0]:: .blk b3 [.slice ax x.length cx]::ens∧bQ 1 va us en∧mS us (vP s x p) ens) (Ix:=fun _ _ _=>False)
  (fun j _ _ σ g1 g2=>g2) (fun _ _ _ _ _ h=>h) ⟨_,[],_,[],rfl,.nil 1 none,by rw [y7];exact .nil⟩ ?_ ?_ (fun D c H' σb w _ h _=>h.elim)
 ·rintro ly p hp H5 σb2 σf2 w hle5 ⟨va,us,en,ens,rfl,hO,hR⟩ hs ⟨rr,hrr⟩
  have hpm:p<s.many:=by rw [dd] at hp;exact hp
  have hin:p/s.wa.length<s.st.length:=Nat.div_lt_of_lt_mul (by rw [Nat.mul_comm];exact hpm)
  have hkm:=Nat.mod_lt p hw
  have hnext:=y8 s x p hw
  have hrow:=Ac s x p
  have hRW:vP s x p=fJ s x (p/s.wa.length)++if p%s.wa.length=0 then [] else [jQ s x (p/s.wa.length) (p%s.wa.length)]:=rfl
  have hu:s.u (p/s.wa.length) (p%s.wa.length)=p+1:=by
   unfold Spc.u
   have:=Nat.div_add_mod p s.wa.length
   rw [Nat.mul_comm] at this;omega
  rw [hRW] at hR
  have hul:us.length≤1001:=by
   have:=hR.length
   rw [List.length_append,dL] at this
   split at this<;>simp at this<;>omega
  rw [kv hp]
  obtain ⟨aa,la,ca,rfl,hla⟩:=hO.shape
  have hx5:=hx.mono hle5
  generalize p/s.wa.length=i at*
  generalize p%s.wa.length=k at*
  refine .region ?_
  refine .o (.alloc hs gX rfl fun b6 w hs=>?_)
  refine .o (.aQ (vs:=[_,_,_]) hs rfl rfl kb fun w hs=>?_)
  refine .nil ?_
  refine nT ?_
  refine ⟨H5,.blk b6 [I (i:Int),I (k:Int),I ((p+1:Nat):Int)]:: .blk b5 [.slice aa la ca]::en:: .blk b4 [.slice none 0 0]:: .blk b3 [.slice ax x.length cx]::ens,HLe.refl _,hs,?_⟩;rintro w σf4 - hs
  replace hs:St H5 w (.blk b6 [I (i:Int),I (k:Int),I ((p+1:Nat):Int)]:: .blk b5 [.slice aa la ca]::en:: .blk b4 [.slice none 0 0]:: .blk b3 [.slice ax x.length cx]::(ens++σf4)):=hs
  refine .block ?_
  refine .cut (fun fs w=>∃va us en ens,mT fs ⟨37,[],[(6,.pointer (some ⟨b6,0,none⟩)),(5,.pointer (some ⟨b5,0,none⟩)),(4,.pointer (some ⟨b4,0,none⟩)),(3,.pointer (some ⟨b3,0,none⟩))]⟩∧bQ 1 va us en∧mS us (fJ s x i++[jQ s x i k]) ens∧St H5 w (.blk b6 [I (i:Int),I (k:Int),I ((p+1:Nat):Int)]:: .blk b5 [va]::en:: .blk b4 [.slice none 0 0]:: .blk b3 [.slice ax x.length cx]::(ens++σf4))) ?_ ?_
  ·refine .ai (.z (zfa bZ) (.y hs (zld ae) (.z j6 (.nil ?_))))
   refine (.cg rfl (fun hc12=>?_) (fun hc12=>?_))
   ·refine .region (.z (zfa dT) (.y hs (zld gZ) ?_))
    refine .o (.buildSlice (cells:=[.slice none 0 0]) hs nL rfl rfl fun b15 w hs=>?_)
    refine .o (.append (ys:=[.slice none 0 0]) hs jX rfl rfl hO (.own .here rfl rfl) (by simp [Value.oneCell']) (fun l h=>by omega) fun v16 en16 w hO3 hs=>?_)
    obtain ⟨a16,l16,c16,rfl,h16⟩:=hO3.shape
    refine .z (zfa dT) ?_
    refine .o (.store hs rfl rfl Ep fun w hs=>?_)
    refine .nil ?_
    refine nT ?_
    obtain rfl:k=0:=by omega
    rw [if_pos rfl,List.append_nil] at hR
    refine ⟨_,_,en16,ens++[.nul],bA,hO3,hR.snoc (show bQ 1 (.slice none 0 0) (Is (jQ s x i 0)) .nul from .nil 1 none),?_⟩
    replace hs:St H5 w (.blk b6 [I (i:Int),I ((0:Nat):Int),I ((p+1:Nat):Int)]:: .blk b5 [.slice a16 l16 c16]::en16:: .blk b4 [.slice none 0 0]:: .blk b3 [.slice ax x.length cx]::(ens++σf4)):=hs.sb
    replace hs:=hs.nul
    rw [List.append_assoc]
    exact hs.perm (List.perm_middle (l₁:= .blk b6 _:: .blk b5 _::en16:: .blk b4 _:: .blk b3 _::ens) (l₂:=σf4)).symm
   ·refine .skip ?_
    refine nT ?_
    rw [if_neg aj] at hR
    exact ⟨_,us,en,ens,bA,hO,hR,hs⟩
  ·clear hs hO hR
   rintro fs w ⟨va,us,en,ens,hfs,hO,hR,hs⟩
   refine WE.sub ?_ hfs
   clear hfs
   have hul:=hR.length
   rw [List.length_append,dL,List.length_singleton] at hul
   obtain ⟨u,er,A,B,hu',hOr,rfl,hupd⟩:=hR.rowS hrow
   rcases hO with ⟨_,_,h0,_⟩|⟨bo,lo,cap,sp,rfl,rfl,h5,h6,h7⟩
   ·exfalso;rw [h0] at hul;simp at hul
   obtain rfl:lo=i+1:=by omega
   obtain ⟨ar,cr,rfl⟩:=hOr.oW
   rw [fw] at hOr hu'
   rw [show (A++er::B)++σf4=A++er::(B++σf4) by simp] at hs
   replace hs:St H5 w (er:: .blk b6 [I (i:Int),I (k:Int),I ((p+1:Nat):Int)]:: .blk b5 [.slice (some ⟨bo,0,none⟩) (i+1) cap]:: .blk bo (us++sp):: .blk b4 [.slice none 0 0]:: .blk b3 [.slice ax x.length cx]::(A++(B++σf4))):=hs.perm (List.perm_middle (l₁:= .blk b6 _:: .blk b5 _:: .blk bo _:: .blk b4 _:: .blk b3 _::A) (l₂:=B++σf4))
   have hu2:(us++sp)[i]? =some (.slice ar k cr):=by rw [List.getElem?_append_left aj];exact hu'
   refine .draw mix rfl hs fun w hs=>?_
   refine .z 0 rfl (zfa dT) ?_;refine .y 1 rfl hs gZ ?_;refine .z 2 rfl (zfa cd) ?_;refine .y 3 rfl hs ae ?_;refine .z 4 rfl (zfa dT) ?_;refine .y 5 rfl hs gZ ?_;refine .z 6 rfl (zfa cd) ?_;refine .y 7 rfl hs ae ?_;refine .z 8 rfl (zix (j:=i) aq aC) ?_
   refine .load (i:=9) hs rfl an .none rfl ak ?_ (hv:=hu2)
   refine .y 10 rfl hs ak ?_;refine .z 11 rfl (zfa dA) ?_;refine .y 12 rfl hs ae ?_
   refine .ixX (enc:=fun x=>[I x]) (i:=13) hs rfl an .none hx5 rfl rfl ad af (bL (l:=x) (i:=(p+1)) aj) dK ?_;intro b31 o31 hc31;replace hc31:=bM.one hc31
   refine .r (i:=14) hs rfl an .none (aZ rfl ae hc31) ?_
   refine .E 15 hs ?_
   refine .buildSlice (cells:=[_]) hs bP rfl rfl ?_;intro b33 w hs
   refine .go ?_
   refine .E 16 hs ?_
   refine .append (ys:=Is [gi x (p+1)]) hs bH rfl rfl hOr (.own .here rfl rfl) (fN _) (fun l h=>by simp [fw] at h;omega) ?_;intro v34 en34 w hO2 hs
   rw [←List.map_append,←hu,←tx] at hO2
   obtain ⟨a34,c34,rfl⟩:=hO2.oW
   rw [fw] at hO2 ⊢
   have hR':=hupd _ _ _ hO2
   rw [hnext] at hR'
   refine .go ?_
   refine .z 17 rfl (zix (j:=i) aq aC) ?_
   refine .E 18 hs ?_
   refine .store (c':=us.set i (.slice a34 (k+1) c34)++sp) hs rfl rfl aC ?_ dJ (Nat.ble_eq_true_of_le (by rw [List.length_append];omega)) (by rw [List.set_append_left _ _ aj]);intro w hs
   refine .go ?_
   refine .D hs ?_
   refine nB ?_
   refine ⟨H5,.blk b5 [.slice (some ⟨bo,0,none⟩) (i+1) cap]:: .blk bo (us.set i (.slice a34 (k+1) c34)++sp):: .blk b4 [.slice none 0 0]:: .blk b3 [.slice ax x.length cx]::(A++en34::B),HLe.refl _,?_,_,_,_,_,rfl,.inr ⟨bo,i+1,cap,sp,rfl,rfl,by rw [List.length_set];omega,by rw [List.length_append,List.length_set,←List.length_append];exact h6,h7⟩,hR'⟩
   replace hs:St H5 w (en34:: .blk b5 [.slice (some ⟨bo,0,none⟩) (i+1) cap]:: .blk bo (us.set i (.slice a34 (k+1) c34)++sp):: .blk b4 [.slice none 0 0]:: .blk b3 [.slice ax x.length cx]::(A++(B++σf4))):=hs.sb
   replace hs:=hs.perm (List.perm_middle (l₁:= .blk b5 _:: .blk bo _:: .blk b4 _:: .blk b3 _::A) (l₂:=B++σf4)).symm
   rw [show (.blk b5 [.slice (some ⟨bo,0,none⟩) (i+1) cap]:: .blk bo (us.set i (.slice a34 (k+1) c34)++sp):: .blk b4 [.slice none 0 0]:: .blk b3 [.slice ax x.length cx]::(A++en34::B))++σf4=(.blk b5 [.slice (some ⟨bo,0,none⟩) (i+1) cap]:: .blk bo (us.set i (.slice a34 (k+1) c34)++sp):: .blk b4 [.slice none 0 0]:: .blk b3 [.slice ax x.length cx]::A)++en34::(B++σf4) by simp]
   exact hs
 ·rintro D H5 σb2 w hle5 ⟨va,us,en,ens,rfl,hO,hR⟩ hs
  rw [dd,y9 s x hw] at hR
  replace hs:St H5 w (.obj D (.deferred (some [])):: .blk b5 [va]::en:: .blk b4 [.slice none 0 0]:: .blk b3 [.slice ax x.length cx]::(ens++σ)):=hs
  have hul:=hR.length
  rw [dL] at hul
  obtain ⟨aa,la,ca,rfl,hla⟩:=hO.shape
  refine nB (nT ?_)
  refine .ai (.y hs (zls [_] fX cK) ?_)
  refine .o (.aQ (vs:=[_]) hs rfl rfl cK fun w hs=>?_)
  refine .nil ?_
  refine .ret ?_
  replace hs:St H5 w (ens++(.obj D (.deferred (some [])):: .blk b5 [.slice aa la ca]::en:: .blk b4 [.slice aa la ca]:: .blk b3 [.slice ax x.length cx]::σ)):=(show St H5 w ([.obj D (.deferred (some [])),.blk b5 [.slice aa la ca],en,.blk b4 [.slice aa la ca],.blk b3 [.slice ax x.length cx]]++(ens++σ)) from hs).perm (List.perm_append_comm_assoc _ ens σ)
  obtain ⟨H6,hle6,hRL,hs⟩:=hR.bX (fun r hr=>by
   obtain ⟨j,hj⟩:=List.getElem?_of_mem hr
   have hjl:=(List.getElem?_eq_some_iff.1 hj).1
   rw [dL] at hjl
   rw [rY hjl] at hj
   obtain rfl:=Option.some.inj hj
   rw [fw];omega) hs
  obtain ⟨H7,hle7,hRT,hs⟩:=hRL.bX hO aj hs (.there (.there .here))
  exact Fin.gV [D] [] hs fun w hs=>⟨_,results1 Tryz.results154 (di (vs:=[_]) hs rfl fX cK),H7,_,hle1.trans (hle5.trans (hle6.trans hle7)),rfl,hRT,hs.out⟩
set_option maxHeartbeats 1000000 in
theorem oq{s:Srv}{q:Wht}{vst vwa vr vc:Value}{high:Bool}(hs:St H w σ)(h1:RI H vst s.sp.st)(h2:RI H vwa s.sp.wa)(h3:RRd H vr s.rs)(h4:RCm H vc s.cs):
  Cl Tryz.prog 69 [.agg #[I s.sp.id,I s.sp.src,vst,vwa,I s.sp.al,I s.sp.up,vr,vc],.agg #[I q.kind,I q.st,I q.wa],.bool high] w fun u w'=>∃H1 vh rows e,HLe H H1∧u= .tuple #[.agg #[vh],I e]∧RT H1 vh rows∧pP s q e∧(e≠0→rows=[])∧(e=0→∃x,zE s.sys (sC (s.w q) high) x∧rows=fJ s.sp x s.sp.st.length)∧St H1 w' σ:=by
 refine Cl.o Tryz.func69 Tryz.ntmps69 ag3 ?_
 refine .ai ?_
 refine .bx hs fun b3 w hs=>?_
 refine .bx hs fun b4 w hs=>?_
 refine .o (.alloc hs iG rfl fun b6 w hs=>?_)
 refine .z zg (.nil (.ai (.y hs (zls [_,_,_,_,_,_,_,_] aJ aD) (.y hs (zls [_,_,_] bS bj) ?_))))
 refine .o (.call Tryz.call85 rfl (iq (s:=s) (q:=q) hs h1 h2 h3 h4) ?_);rintro _ w ⟨H1,m,ul,vw,d,e,hle1,rfl,⟨al,ll,cl,rfl⟩,⟨aw,lw,cw,rfl⟩,hA,hA0,hs⟩
 refine .z zm (.z zex (.z zex ?_))
 refine .o (.alloc hs gY rfl fun b8 w hs=>?_)
 refine .o (.aQ (vs:=[_,_,_,_]) hs rfl rfl cq fun w hs=>?_)
 refine .z zg (.nil (.seq (.ai (.z zm (.z fP (.nil ?_))))))
 refine (.ep rfl (fun hc18=>?_) (fun hc18=>?_))
 ·refine .ai (.z (zbd [_] mO) (.z zm ?_))
  refine .o (.aQ (vs:=[_]) hs rfl rfl cK fun w hs=>?_)
  refine .z zg (.nil ?_)
  refine .ret (rT (?_))
  exact Fin.gV [] [] hs fun w hs=>⟨_,results2 Tryz.results69 (di (vs:=[_]) hs rfl fX cK) rfl,H1,_,[],_,hle1,rfl,RT.nil _,hA,fun _=>rfl,fun h=>(hc18 h).elim,hs.out⟩
 ·refine .skip ?_
  refine nT ?_
  refine .seq (.draw mix rfl hs fun w hs=>?_)
  refine .z 0 rfl (zfa eU) ?_;refine .ys 1 rfl hs [_,_] a8 aH ?_;refine .ys 2 rfl hs [_,_,_,_] jJ cq ?_;refine .z 3 rfl zm ?_
  refine .E 4 hs ?_
  obtain rfl:e=0:=by simpa using hc18
  obtain ⟨rfl,hL,hR,rfl⟩:=hA0 rfl
  obtain ⟨hok,hq,hsd⟩:=hA.zero
  have hn65:=hok.sys.n65
  have hwl:=mh s q
  refine .call Tryz.call153 rfl (eu (high:=high) hs hR (ui hok hq) aj) ?_;rintro _ w ⟨H2,hle2,hRt,hs⟩
  refine .go ?_
  refine .E 5 hs ?_
  refine .call Tryz.call152 rfl (sH (s:=s.sys) hs ⟨_,rfl,hL.mono hle2⟩ hRt) ?_;rintro _ w ⟨H3,vx,x,f,hle3,rfl,hF,hX,-,hB,hs⟩
  obtain ⟨ax,cx,rfl⟩:=RI.shape hX
  obtain rfl:=xD (u9 hok hq high) hsd (fun b=>s.both) hF
  have hBe:=hB rfl
  have hle03:=hle1.trans (hle2.trans hle3)
  refine .go ?_
  refine .z 6 rfl zm ?_;refine .z 7 rfl zex ?_;refine .z 8 rfl zex ?_;refine .z 9 rfl zg ?_;refine .z 10 rfl zg ?_;refine .D hs ?_
  refine .seq (.ai (.z zm (.z fP (.nil ?_))))
  refine (.ep rfl (fun hc31=>?_) (fun hc31=>?_))
  ·refine .ai (.z (zbd [_] mO) (.z zm ?_))
   refine .o (.aQ (vs:=[_]) hs rfl rfl cK fun w hs=>?_)
   refine .z zg (.nil ?_)
   refine .ret (rT (?_))
   exact (hc31 rfl).elim
  ·refine .skip ?_
   refine nT ?_
   refine .ai (.z (zfa aN) (.y hs (zls [_,_,_,_,_,_] aM aE) (.z zm ?_)))
   refine .o (.call Tryz.call154 rfl (qh (s:=s.sp) hs (h1.mono hle03) (h2.mono hle03) hX hok.early.1 (by rw [hBe.len,nh];omega)) ?_);rintro _ w ⟨H4,va,hle4,rfl,hT,hs⟩
   obtain ⟨aa,ca,rfl⟩:=hT.shape
   refine .o (.aQ (vs:=[_]) hs rfl rfl cK fun w hs=>?_)
   refine .z zg (.nil ?_)
   refine .ret ?_
   exact Fin.gV [] [] hs fun w hs=>⟨_,results2 Tryz.results69 (di (vs:=[_]) hs rfl fX cK) rfl,H4,_,_,_,hle03.trans hle4,rfl,hT,hA,fun h=>(h rfl).elim,fun _=>⟨x,hBe,rfl⟩,hs.out⟩
end Go.Proofs.YtddaejgfjlneoaaGreat
namespace Go.Proofs.YtddaejgfjlneoaaGreat
open Go.MW
theorem D7{s:Srv}{q:Wht}{high:Bool}{lo hi:Int}{x:List Int}(g:vD s q lo hi 0)(hB:zE s.sys (sC (s.w q) high) x):
  rb s.sp (fJ s.sp x s.sp.st.length) q (if high=true then hi else lo) 0∧CN s (fJ s.sp x s.sp.st.length) 0:=by
 obtain ⟨a,b,rfl,rfl,hok,hq,hR⟩:=uq g
 obtain ⟨hH,hK,hsum⟩:=Bb hok hB.zero hB.wC q
 refine ⟨?_,.ok hok hH hK⟩
 have h:=rb.ok hok.early.1 hH hq
 rw [hsum] at h
 unfold sC at hB
 cases high with
 |true=>rw [if_pos rfl] at hB ⊢;rw [D6 hR hB] at h;exact h
 |false=>rw [if_neg bR] at hB ⊢;rw [D5 hR hB] at h;exact h
end Go.Proofs.YtddaejgfjlneoaaGreat
namespace Go.Proofs.YtddaejgfjlneoaaGreat
open Go.MW
variable{H:bJ}{w:World}{σ:List Ent}
theorem kV{n lo hi:Int}(hs:St H w σ):Cl Tryz.prog 79 [I n,.agg #[I lo,I hi]] w fun u w'=>u= .bool (decide (lo≤n∧n≤hi))∧St H w' σ:=by
 refine Cl.o Tryz.func79 Tryz.ntmps79 ag2 ?_
 refine .ai ?_
 refine .bx hs fun b3 w hs=>?_
 refine .z zg (.nil (.ai (.z (zfa gL) (.y hs (zld ae) (.z zm (.z vA (.z zm ?_)))))))
 refine .j7 (t':=9) rfl (fun hb9=>?_) (fun hb9=>?_)
 ·refine .gT rfl rfl ?_
  refine .z zm ?_
  refine .gT rfl rfl ?_
  refine .z (zfa fL) ?_
  refine .gT rfl rfl ?_
  refine .y hs (zld ae) ?_
  refine .gT rfl rfl ?_
  refine .z vA (.z zpT (.z zg (.nil ?_)))
  refine .ret (Fin.bD Tryz.results79 rfl ?_)
  exact ⟨by first|(simp_all;done)|(simp_all;omega),hs.out⟩
 ·refine .gFs 4 4 true rfl rfl rfl ?_
  refine .z zpF (.z zg (.nil ?_))
  refine .ret (Fin.bD Tryz.results79 rfl ?_)
  exact ⟨by first|(simp_all;done)|(simp_all;omega),hs.out⟩
theorem nI{vs v5 v4 vp:Value}{sl pk:List Int}{fs5:List F5}{fs4:List F4}{z1 z2 z3:Int}(hs:St H w σ)(g1:RI H vs sl)(g2:RF5 H v5 fs5)(g3:RF4 H v4 fs4)(g4:RI H vp pk):
  Cl Tryz.prog 60 [.agg #[vs,v5,v4,vp,I z1,I z2,I z3]] w fun u w'=>∃H1 s y vst vwa vr vc vy,HLe H H1∧u= .tuple #[.agg #[I s.sp.id,I s.sp.src,vst,vwa,I s.sp.al,I s.sp.up,vr,vc],vy]∧Ff s∧ky s y∧RI H1 vst s.sp.st∧RI H1 vwa s.sp.wa∧RRd H1 vr s.rs∧RCm H1 vc s.cs∧RI H1 vy y∧St H1 w' σ:=by
 refine (s5 hs g1 g2 g3 g4).mono ?_
 rintro _ w ⟨H3,m,y,ust,uwa,ur,uc,uy,e1,e2,e3,e4,e5,hle3,rfl,hM,hOV,hOy,hK,hs⟩
 have hst4:=hM.st
 have hwa3:=hM.wa
 have hmr:=hM.rs
 have hmc:=hM.cs
 obtain ⟨H4,hle4,r1,r2,r3,r4,hs,-⟩:=Dh.xp hOV aj aj aj aj hs
 obtain ⟨hyl,-,hyb⟩:=hK.bd
 have hmt:=hM.ok.many
 obtain ⟨H5,hle5,hY,hs⟩:=bQ.dj hOy aj hs .here
 exact ⟨H5,m,y,_,_,_,_,_,hle3.trans (hle4.trans hle5),rfl,hM,hK,r1.mono hle5,r2.mono hle5,r3.mono hle5,r4.mono hle5,hY,hs⟩
theorem nH{s:Spc}{vst vwa vx:Value}{x:List Int}(hs:St H w σ)(h1:RI H vst s.st)(h2:RI H vwa s.wa)(hx:RI H vx x)(hb1:s.st.length≤1000)(hb2:s.wa.length≤1000)(hxl:s.many+1≤x.length):
  Cl Tryz.prog 61 [.agg #[I s.id,I s.src,vst,vwa,I s.al,I s.up],vx] w fun u w'=>∃H1 va,HLe H H1∧u= .agg #[va]∧RT H1 va (fJ s x s.st.length)∧St H1 w' σ:=by
 refine (s4 hs h1 h2 hx hb1 hb2 hxl).mono ?_
 rintro _ w ⟨va,us,en,ens,rfl,hO,hR,hs⟩
 have hul:=hR.length
 rw [dL] at hul
 replace hs:St H w (ens++(en::σ)):=hs.perm List.perm_middle.symm
 obtain ⟨H6,hle6,hRL,hs⟩:=hR.bX (fun r hr=>by
  obtain ⟨j,hj⟩:=List.getElem?_of_mem hr
  have hjl:=(List.getElem?_eq_some_iff.1 hj).1
  rw [dL] at hjl
  rw [rY hjl] at hj
  obtain rfl:=Option.some.inj hj
  rw [fw];omega) hs
 obtain ⟨H7,hle7,hRT,hs⟩:=hRL.bX hO aj hs .here
 exact ⟨H7,_,hle6.trans hle7,rfl,hRT,hs⟩
theorem yo{s:Srv}{y:List Int}(hok:c9 s)(h:ky s y){q:Wht}{lo hi:Int}(hB:vD s q lo hi 0):lo≤eN s.sp q (fJ s.sp y s.sp.st.length) s.sp.many/oI q∧eN s.sp q (fJ s.sp y s.sp.st.length) s.sp.many/oI q≤hi:=by
 obtain ⟨a,b,rfl,rfl,_,_,hR⟩:=uq hB
 have hd:=m9 q
 have:=DN hok h hR
 exact ⟨Int.ediv_le_ediv aj this.1,Int.ediv_le_ediv aj this.2⟩
set_option maxHeartbeats 8000000 in
theorem qm{v:Value}{g:Em}{a b c:Int}(hs:St H w σ)(hg:Bf H v g):
  Cl Tryz.prog 21 [v,.agg #[I a,I b,I c]] w fun v w'=>v= .bool true∧∃H',HLe H H'∧St H' w' σ:=by
 obtain ⟨vs,v5,v4,vp,rfl,g1,g2,g3,g4⟩:=hg
 refine Cl.o Tryz.func21 Tryz.ntmps21 ag2 ?_
 refine .ai ?_
 refine .bx hs fun b2 w hs=>?_
 refine .bx hs fun b3 w hs=>?_
 refine .z zg (.nil (.ai ?_))
 refine .o (.call Tryz.call22 rfl (mw hs) ?_);rintro _ w ⟨rfl,H1,hle1,hs⟩
 refine .z zg (.nil (.ai (.y hs (zls [_,_,_,_,_,_,_] Tryz.isAgg27 Tryz.sizeOf27) ?_)))
 refine .o (.call Tryz.call60 rfl (nI hs (g1.mono hle1) (g2.mono hle1) (g3.mono hle1) (g4.mono hle1)) ?_);rintro _ w ⟨H2,s,y,vst,vwa,vr,vc,vy,hle2,rfl,hM,hK,h1,h2,h3,h4,hY,hs⟩
 obtain ⟨ast,cst,rfl⟩:=RI.shape h1
 obtain ⟨awa,cwa,rfl⟩:=RI.shape h2
 obtain ⟨ar,cr,rfl⟩:=RRd.shape h3
 obtain ⟨ac,cc,rfl⟩:=RCm.shape h4
 obtain ⟨ay,cy,rfl⟩:=RI.shape hY
 have hst4:=hM.st
 have hwa3:=hM.wa
 have hok:=hM.ok
 have hmt:=hok.many
 have hsd:=qn hok hK
 obtain ⟨hyl,-,-⟩:=hK.bd
 have hle02:=hle1.trans hle2
 refine .z zm (.z zex (.z zex ?_))
 refine .o (.alloc hs fc rfl fun b6 w hs=>?_)
 refine .o (.aQ (vs:=[_,_,_,_,_,_,_,_]) hs rfl rfl aD fun w hs=>?_)
 refine .z zg (.nil (.ai (.z (zfa aN) (.y hs (zls [_,_,_,_,_,_] aM aE) (.z zm ?_)))))
 refine .o (.call Tryz.call61 rfl (nH (s:=s.sp) hs h1 h2 hY aj aj aj) ?_);rintro _ w ⟨H3,va,hle3,rfl,hT,hs⟩
 obtain ⟨aT,cT,rfl⟩:=hT.shape
 replace h1:=h1.mono hle3
 replace h2:=h2.mono hle3
 replace h3:=h3.mono hle3
 replace h4:=h4.mono hle3
 replace hY:=hY.mono hle3
 refine .o (.alloc hs iG rfl fun b8 w hs=>?_)
 refine .o (.aQ (vs:=[_]) hs rfl rfl cK fun w hs=>?_)
 refine .nil (.ai (.z (zfa aN) (.y hs (zls [_,_,_,_,_,_] aM aE) (.y hs (zls [_,_,_] Tryz.isAgg25 wR) ?_))))
 refine .o (.call Tryz.call25 rfl (jS (s:=s.sp) hs h1 h2 hok.early.1) ?_);rintro _ w ⟨q,rfl,hq,hs⟩
 refine .o (.alloc hs xL rfl fun b9 w hs=>?_)
 refine .o (.aQ (vs:=[_,_,_]) hs rfl rfl bj fun w hs=>?_)
 refine .nil (.ai (.y hs (zls [_,_,_,_,_,_,_,_] aJ aD) (.y hs (zls [_,_,_] bS bj) ?_)))
 refine .o (.call Tryz.call26 rfl (iy (s:=s) (q:=q) hs h1 h2 h3 h4) ?_);rintro _ w ⟨H4,lo,hi,e,hle4,rfl,hB,hs⟩
 obtain rfl:=(vU hB hok hq).1 hsd
 replace h1:=h1.mono hle4
 replace h2:=h2.mono hle4
 replace h3:=h3.mono hle4
 replace h4:=h4.mono hle4
 replace hY:=hY.mono hle4
 replace hT:=hT.mono hle4
 refine .z zm (.z zex (.z zex ?_))
 refine .o (.alloc hs dN rfl fun b10 w hs=>?_)
 refine .o (.aQ (vs:=[_,_]) hs rfl rfl aS fun w hs=>?_)
 refine .z zg (.nil (.ai (.z (zfa aN) (.y hs (zls [_,_,_,_,_,_] aM aE) (.y hs (zls [_] fX cK) (.y hs (zls [_,_,_] bS bj) ?_))))))
 refine .o (.call Tryz.call37 rfl (fS (s:=s.sp) (q:=q) hs h1 h2 hT) ?_);rintro _ w ⟨H5,n,e5,hle5,rfl,hQ5,hs⟩
 obtain ⟨rfl,rfl⟩:=hQ5.uniq (tG hok hK hq)
 obtain ⟨hH,hKp,-⟩:=ss hok hK
 replace h1:=h1.mono hle5
 replace h2:=h2.mono hle5
 replace h3:=h3.mono hle5
 replace h4:=h4.mono hle5
 replace hY:=hY.mono hle5
 replace hT:=hT.mono hle5
 refine .z zm (.z zex (.z zex (.z zg (.z zg (.nil (.seq (.ai (.z zm (.z iU ?_)))))))))
 refine .z zm ?_
 refine .gT rfl rfl ?_
 refine .z zm ?_
 refine .gT rfl rfl ?_
 refine .z fP ?_
 rw [decide_eq_true rfl]
 refine .z zpF (.z zm ?_)
 refine .gT rfl rfl ?_
 refine .z zm ?_
 refine .gT rfl rfl ?_
 refine .z fP ?_
 rw [decide_eq_true rfl]
 refine .z zpF (.z zm ?_)
 refine .gT rfl rfl ?_
 refine .y hs (zls [_,_,_,_,_,_,_,_] aJ aD) ?_
 refine .gT rfl rfl ?_
 refine .y hs (zls [_] fX cK) ?_
 refine .gT rfl rfl ?_
 refine .o (.call Tryz.call63 rfl (iJ (s:=s) hs h1 h2 h3 h4 hT) ?_);rintro _ w ⟨H6,e66,hle6,rfl,hC6,hs⟩
 obtain rfl:=hC6.uniq (.ok hok hH hKp)
 replace h1:=h1.mono hle6
 replace h2:=h2.mono hle6
 replace h3:=h3.mono hle6
 replace h4:=h4.mono hle6
 replace hY:=hY.mono hle6
 have hle06:=hle02.trans (hle3.trans (hle4.trans (hle5.trans hle6)))
 refine .gT rfl rfl ?_
 refine .z fP ?_
 rw [decide_eq_true rfl]
 refine .z zpF (.z zm ?_)
 refine .gT rfl rfl ?_
 refine .z zm ?_
 refine .gT rfl rfl ?_
 refine .y hs (zls [_,_] cW aS) ?_
 refine .gT rfl rfl ?_
 refine .o (.call Tryz.call79 rfl (kV hs) ?_);rintro _ w ⟨rfl,hs⟩
 rw [decide_eq_true (yo hok hK hB)]
 refine .gT rfl rfl ?_
 refine .z iU (.z zpF (.nil ?_))
 refine (.cF ?_)
 refine .skip ?_
 refine nT ?_
 refine .ai (.y hs (zls [_,_,_,_,_,_,_,_] aJ aD) ?_)
 refine .o (.call Tryz.call54 rfl (o7 (s:=s) hs h1 h2 h3 h4) ?_);rintro _ w ⟨H7,vt,ts,e15,hle7,rfl,hTd,hSr,hts60,hts,hs⟩
 obtain rfl:e15=0:=hSr.bT.2 hok
 rw [if_pos rfl] at hts
 subst hts
 obtain ⟨at',ct,rfl⟩:=RTd.shape hTd
 replace h1:=h1.mono hle7
 replace h2:=h2.mono hle7
 replace h3:=h3.mono hle7
 replace h4:=h4.mono hle7
 replace hY:=hY.mono hle7
 have hle07:=hle06.trans hle7
 have hmi:(s.sp.st.length:Int)*(s.sp.wa.length:Int)=(s.sp.many:Int):=by unfold Spc.many;push_cast;rfl
 refine .z zm (.z zex (.z zex (.z zg (.z zg (.nil (.ai (.z (zfa aN) (.z (zfa bB) (.y hs (zld ak) ?_)))))))))
 refine .z (cS ad) (.z (zfa aN) (.z (zfa br) (.y hs (zld ak) (.z (cS ad) (.z lG ?_)))))
 rw [hmi]
 refine .z zg (.nil (.seq (.ai (.z zm (.z fP ?_)))))
 rw [decide_eq_true rfl]
 refine .z zm ?_
 refine .gT rfl rfl ?_
 refine .z zm ?_
 refine .gT rfl rfl ?_
 refine .z (cS aO) ?_
 refine .gT rfl rfl ?_
 refine .z zm ?_
 refine .gT rfl rfl ?_
 refine .z (cS ad) ?_
 refine .gT rfl rfl ?_
 refine .z zm ?_
 refine .gT rfl rfl ?_
 refine .z iK ?_
 refine .gT rfl rfl ?_
 refine .z iK ?_
 refine .gT rfl rfl ?_
 refine .z fP ?_
 rw [decide_eq_true aj]
 refine .z zpF (.nil ?_)
 refine (.cF ?_)
 refine .skip ?_
 refine nT ?_
 refine .seq (.ai (.z zg (.nil (.block ?_))))
 refine .loop (fun i:Nat=>⟨183,[],[(17,I (i:Int)),(16,I (s.sp.many:Int)),(14,.slice at' s.bh.length ct),(7,.slice ay y.length cy),(10,.pointer (some ⟨b10,0,none⟩)),(9,.pointer (some ⟨b9,0,none⟩)),(6,.pointer (some ⟨b6,0,none⟩))]⟩)
  (fun i w=>i≤s.bh.length∧∃H',HLe H7 H'∧St H' w (.blk b10 [I lo,I hi]:: .blk b9 [I q.kind,I q.st,I q.wa]:: .blk b6 [I s.sp.id,I s.sp.src,.slice ast s.sp.st.length cst,.slice awa s.sp.wa.length cwa,I s.sp.al,I s.sp.up,.slice ar s.rs.length cr,.slice ac s.cs.length cc]::σ)) (fun i=>s.bh.length - i) 0 bA
  ⟨Nat.zero_le _,H7,HLe.refl _,hs.sb⟩ ?_
 clear hs
 rintro i w ⟨hil,H8,hle8,hs⟩
 refine .seq (.ai (.z zm (.z zm (.z (cS aO) (.z ik (.nil ?_))))))
 refine (.cg rfl (fun hc104=>?_) (fun hc104=>?_))
 ·refine .skip ?_
  refine nT ?_
  refine .seq (.block ?_)
  refine .cut (fun fs w=>∃H9 b18 lo1 hi1,mT fs ⟨183,[],[(19,I 0),(18,.pointer (some ⟨b18,0,none⟩)),(17,I (i:Int)),(16,I (s.sp.many:Int)),(14,.slice at' s.bh.length ct),(7,.slice ay y.length cy),(10,.pointer (some ⟨b10,0,none⟩)),(9,.pointer (some ⟨b9,0,none⟩)),(6,.pointer (some ⟨b6,0,none⟩))]⟩∧HLe H8 H9∧(lo1≤-gi y (s.sp.many+1+i)∧-gi y (s.sp.many+1+i)≤hi1)∧St H9 w (.blk b18 [I lo1,I hi1]:: .blk b10 [I lo,I hi]:: .blk b9 [I q.kind,I q.st,I q.wa]:: .blk b6 [I s.sp.id,I s.sp.src,.slice ast s.sp.st.length cst,.slice awa s.sp.wa.length cwa,I s.sp.al,I s.sp.up,.slice ar s.rs.length cr,.slice ac s.cs.length cc]::σ)) ?_ ?_
  ·refine .draw mix rfl hs fun w hs=>?_
   refine .ys 0 rfl hs [_,_,_,_,_,_,_,_] aJ aD ?_;refine .z 1 rfl zm ?_;refine .z 2 rfl zm ?_
   obtain ⟨td,htd⟩:=nth (l:=s.bh) (k:=i) aj
   refine .ixX (enc:=TD.c) (i:=3) hs rfl an .none (RS.mono hTd hle8) rfl rfl aO bk htd rfl ?_;intro b111 o111 hc111
   refine .r (i:=4) hs rfl an .none (bY (vs:=td.c) rfl cP bk hc111) ?_
   refine .e2 (i:=5) (j:=9) an rfl rfl rfl rfl .none .none hs ?_ ?_
   ·refine .call Tryz.call28 rfl (iQ (s:=s) (t:=td) hs (h1.mono hle8) (h2.mono hle8) (h3.mono hle8) (h4.mono hle8)) ?_;rintro _ w ⟨H9,lo1,hi1,e19,hle9,rfl,hTR,hs⟩
    obtain ⟨rfl,htr⟩:=tH hok hK htd hTR
    refine .go ?_
    refine .z 6 rfl zm ?_;refine .z 7 rfl zex ?_;refine .z 8 rfl zex ?_
    refine .E 9 hs ?_
    refine .alloc hs dN rfl ?_;intro b18 w hs
    refine .go ?_
    refine .E 10 hs ?_
    refine .aQ (vs:=[_,_]) hs rfl rfl aS ?_;intro w hs
    refine .go ?_
    refine .z 11 rfl zg ?_;refine .D hs ?_
    exact nT ⟨H9,_,lo1,hi1,bA,hle9,htr,hs.sb⟩
   ·refine .alloc hs dN rfl ?_;intro b18 w hs
    refine .go ?_
    refine .E 5 hs ?_
    refine .call Tryz.call28 rfl (iQ (s:=s) (t:=td) hs (h1.mono hle8) (h2.mono hle8) (h3.mono hle8) (h4.mono hle8)) ?_;rintro _ w ⟨H9,lo1,hi1,e19,hle9,rfl,hTR,hs⟩
    obtain ⟨rfl,htr⟩:=tH hok hK htd hTR
    refine .go ?_
    refine .z 6 rfl zm ?_;refine .z 7 rfl zex ?_;refine .z 8 rfl zex ?_
    refine .E 10 hs ?_
    refine .aQ (vs:=[_,_]) hs rfl rfl aS ?_;intro w hs
    refine .go ?_
    refine .z 11 rfl zg ?_;refine .D hs ?_
    exact nT ⟨H9,_,lo1,hi1,bA,hle9,htr,hs.sb⟩
  ·rintro fs w ⟨H9,b18,lo1,hi1,hfs,hle9,htr,hs⟩
   refine WE.sub ?_ hfs
   clear hfs
   have hye:=Cq hK (j:=i) aj
   have hY9:=hY.mono (hle8.trans hle9)
   refine .seq (.draw mix rfl hs fun w hs=>?_)
   refine .z 0 rfl zm ?_;refine .z 1 rfl fP ?_
   rw [decide_eq_true rfl]
   refine .z 2 rfl zm ?_;refine .z 3 rfl zm ?_;refine .z 4 rfl zm ?_;refine .z 5 rfl cC ?_;refine .z 6 rfl zm ?_;refine .z 7 rfl cC ?_
   refine .ixX (enc:=fun x=>[I x]) (i:=8) hs rfl an (.some rfl rfl) hY9 rfl rfl ad af (bL (l:=y) (i:=(s.sp.many+1+i)) aj) dK ?_;intro b124 o124 hc124;replace hc124:=bM.one hc124
   refine .r (i:=9) hs rfl an (.some rfl rfl) (aZ rfl ae hc124) ?_
   refine .z 10 rfl xP ?_;refine .ys 11 rfl hs [_,_] cW aS ?_
   refine .E 12 hs ?_
   refine .call Tryz.call79 rfl (kV hs) ?_;rintro _ w ⟨rfl,hs⟩
   rw [decide_eq_true htr]
   refine .go ?_
   refine .z 13 rfl iU ?_;refine .z 14 rfl zpF ?_;refine .D hs ?_
   refine (.cF ?_)
   refine .skip ?_
   refine nB (nT ?_)
   refine .region (.z zm (.z cC (.z zg (.nil ?_))))
   refine nT ?_
   exact ⟨i+1,.cR rfl bR bA,⟨aj,H9,hle8.trans hle9,hs.sb⟩,aj⟩
 ·refine .exit ?_
  refine xT (xT (xB (nT ?_)))
  refine .seq (.ai (.z zg (.nil (.block ?_))))
  refine .loop (fun i:Nat=>⟨183,[],[(20,I (i:Int)),(10,.pointer (some ⟨b10,0,none⟩)),(9,.pointer (some ⟨b9,0,none⟩)),(6,.pointer (some ⟨b6,0,none⟩))]⟩)
   (fun i w=>i≤2∧∃H',HLe H7 H'∧St H' w (.blk b10 [I lo,I hi]:: .blk b9 [I q.kind,I q.st,I q.wa]:: .blk b6 [I s.sp.id,I s.sp.src,.slice ast s.sp.st.length cst,.slice awa s.sp.wa.length cwa,I s.sp.al,I s.sp.up,.slice ar s.rs.length cr,.slice ac s.cs.length cc]::σ)) (fun i=>2 - i) 0 bA
   ⟨Nat.zero_le _,H8,hle8,hs.sb⟩ ?_
  clear hs hle8 hil
  rintro j w ⟨hj,H10,hle10,hs⟩
  refine .seq (.ai (.z zm (.z ik (.nil ?_))))
  refine (.cg rfl (fun hc132=>?_) (fun hc132=>?_))
  ·refine .skip ?_
   refine nT ?_
   refine .seq (.block (.ai (.y hs (zls [_,_,_,_,_,_,_,_] aJ aD) (.y hs (zls [_,_,_] bS bj) (.z zm (.z j6 ?_))))))
   refine .o (.call Tryz.call69 rfl (oq (s:=s) (q:=q) (high:=decide ((j:Int)=1)) hs (h1.mono hle10) (h2.mono hle10) (h3.mono hle10) (h4.mono hle10)) ?_);rintro _ w ⟨H11,vh,rows,e22,hle11,rfl,hT,hA,-,hat,hs⟩
   obtain rfl:=hA.same hB
   obtain ⟨x,hBe,rfl⟩:=hat rfl
   obtain ⟨hQx,hCx⟩:=D7 hB hBe
   obtain ⟨ah,ch,rfl⟩:=hT.shape
   have hle711:=hle10.trans hle11
   refine .z zm (.z zex (.z zex ?_))
   refine .o (.alloc hs iG rfl fun b21 w hs=>?_)
   refine .o (.aQ (vs:=[_]) hs rfl rfl cK fun w hs=>?_)
   refine .z zg (.nil (.ai (.z (zfa aN) (.y hs (zls [_,_,_,_,_,_] aM aE) (.y hs (zls [_] fX cK) (.y hs (zls [_,_,_] bS bj) ?_))))))
   refine .o (.call Tryz.call37 rfl (fS (s:=s.sp) (q:=q) hs (h1.mono hle711) (h2.mono hle711) hT) ?_);rintro _ w ⟨H12,n23,e24,hle12,rfl,hQ12,hs⟩
   obtain ⟨rfl,rfl⟩:=hQ12.uniq hQx
   have hle712:=hle711.trans hle12
   refine .z zm (.z zex (.z zex (.z zg (.z zg (.nil (.ai (.z zm (.z fP ?_))))))))
   rw [decide_eq_true rfl]
   refine .z zm ?_
   refine .gT rfl rfl ?_
   refine .z zm ?_
   refine .gT rfl rfl ?_
   refine .z fP ?_
   rw [decide_eq_true rfl]
   refine .z zpF (.z zm ?_)
   refine .gT rfl rfl ?_
   refine .y hs (zls [_,_,_,_,_,_,_,_] aJ aD) ?_
   refine .gT rfl rfl ?_
   refine .y hs (zls [_] fX cK) ?_
   refine .gT rfl rfl ?_
   refine .o (.call Tryz.call63 rfl (iJ (s:=s) hs (h1.mono hle712) (h2.mono hle712) (h3.mono hle712) (h4.mono hle712) (hT.mono hle12)) ?_);rintro _ w ⟨H13,e160,hle13,rfl,hC13,hs⟩
   obtain rfl:=hC13.uniq hCx
   have hle713:=hle712.trans hle13
   refine .gT rfl rfl ?_
   refine .z fP ?_
   rw [decide_eq_true rfl]
   refine .z zpF (.z zm ?_)
   refine .gT rfl rfl ?_
   refine .z zm ?_
   refine .gT rfl rfl ?_
   refine .z j6 ?_
   refine .gT rfl rfl ?_
   refine .z zm ?_
   refine .j7 (t':=166) rfl (fun hb166=>?_) (fun hb166=>?_)
   ·refine .gT rfl rfl ?_
    refine .z zm ?_
    refine .gT rfl rfl ?_
    refine .z (zfa gL) ?_
    refine .gT rfl rfl ?_
    refine .y hs (zld ae) ?_
    refine .gT rfl rfl ?_
    refine .z fP ?_
    refine .gT rfl rfl ?_
    refine .z zpT (.z zpF (.z zm ?_))
    refine .Ba (t':=173) rfl (fun hb173=>?_) (fun hb173=>?_)
    ·refine .gFs 3 22 false rfl rfl rfl ?_
     refine .gFs 4 25 true rfl rfl rfl ?_
     refine .gFs 1 22 false rfl rfl rfl ?_
     refine .z zpT (.nil ?_)
     refine (.cT ?_)
     refine .ai (.z zg (.nil ?_))
     refine .ret (rB (rT (rT (rB (rT (Fin.bD Tryz.results21 rfl ?_))))))
     first
     |exact ⟨rfl,H10,hle07.trans hle10,hs.out⟩
     |(exfalso;by_cases e1:(j:Int)=1<;>simp_all)
    ·refine .gT rfl rfl ?_
     refine .z zm ?_
     refine .gT rfl rfl ?_
     refine .z j6 ?_
     refine .gT rfl rfl ?_
     refine .z zm ?_
     refine .j7 (t':=176) rfl (fun hb176=>?_) (fun hb176=>?_)
     ·refine .gT rfl rfl ?_
      refine .z zm ?_
      refine .gT rfl rfl ?_
      refine .z (zfa fL) ?_
      refine .gT rfl rfl ?_
      refine .y hs (zld ae) ?_
      refine .gT rfl rfl ?_
      refine .z fP ?_
      refine .gT rfl rfl ?_
      refine .z zpT (.z zpF (.nil ?_))
      refine (.ep rfl (fun hc182=>?_) (fun hc182=>?_))
      ·refine .ai (.z zg (.nil ?_))
       refine .ret (rB (rT (rT (rB (rT (Fin.bD Tryz.results21 rfl ?_))))))
       first
       |exact ⟨rfl,H10,hle07.trans hle10,hs.out⟩
       |(exfalso;by_cases e1:(j:Int)=1<;>simp_all)
      ·refine .skip ?_
       refine nB (nT ?_)
       refine .region (.z zm (.z cC (.z zg (.nil ?_))))
       refine nT ?_
       exact ⟨j+1,.cR rfl bR bA,⟨aj,H13,hle713,hs.sb⟩,aj⟩
     ·refine .gFs 4 25 true rfl rfl rfl ?_
      refine .gT rfl rfl ?_
      refine .z zpF (.z zpF (.nil ?_))
      refine (.cF ?_)
      refine .skip ?_
      refine nB (nT ?_)
      refine .region (.z zm (.z cC (.z zg (.nil ?_))))
      refine nT ?_
      exact ⟨j+1,.cR rfl bR bA,⟨aj,H13,hle713,hs.sb⟩,aj⟩
   ·refine .gFs 4 15 true rfl rfl rfl ?_
    refine .gT rfl rfl ?_
    refine .z zpF (.z zpF (.z zm ?_))
    refine .gT rfl rfl ?_
    refine .z zm ?_
    refine .gT rfl rfl ?_
    refine .z j6 ?_
    refine .gT rfl rfl ?_
    refine .z zm ?_
    refine .j7 (t':=176) rfl (fun hb176=>?_) (fun hb176=>?_)
    ·refine .gT rfl rfl ?_
     refine .z zm ?_
     refine .gT rfl rfl ?_
     refine .z (zfa fL) ?_
     refine .gT rfl rfl ?_
     refine .y hs (zld ae) ?_
     refine .gT rfl rfl ?_
     refine .z fP ?_
     refine .gT rfl rfl ?_
     refine .z zpT (.z zpF (.nil ?_))
     refine (.ep rfl (fun hc182=>?_) (fun hc182=>?_))
     ·refine .ai (.z zg (.nil ?_))
      refine .ret (rB (rT (rT (rB (rT (Fin.bD Tryz.results21 rfl ?_))))))
      first
      |exact ⟨rfl,H10,hle07.trans hle10,hs.out⟩
      |(exfalso;by_cases e1:(j:Int)=1<;>simp_all)
     ·refine .skip ?_
      refine nB (nT ?_)
      refine .region (.z zm (.z cC (.z zg (.nil ?_))))
      refine nT ?_
      exact ⟨j+1,.cR rfl bR bA,⟨aj,H13,hle713,hs.sb⟩,aj⟩
    ·refine .gFs 4 25 true rfl rfl rfl ?_
     refine .gT rfl rfl ?_
     refine .z zpF (.z zpF (.nil ?_))
     refine (.cF ?_)
     refine .skip ?_
     refine nB (nT ?_)
     refine .region (.z zm (.z cC (.z zg (.nil ?_))))
     refine nT ?_
     exact ⟨j+1,.cR rfl bR bA,⟨aj,H13,hle713,hs.sb⟩,aj⟩
  ·refine .exit ?_
   refine xT (xT (xB (nT ?_)))
   refine .ai (.z zg (.nil ?_))
   refine .ret (Fin.bD Tryz.results21 rfl ?_)
   first
   |exact ⟨rfl,H10,hle07.trans hle10,hs.out⟩
   |(exfalso;by_cases e1:(j:Int)=1<;>simp_all)
theorem xC{s:Srv}{q:Wht}{high:Bool}{n m lo hi:Int}{us:List Use}(h:rk s q high n m us 0)(hB:vD s q lo hi 0):if high=true then hi≤n else n≤lo:=by
 obtain ⟨a,b,rfl,rfl,hok,_,hR⟩:=uq hB
 have hd:=m9 q
 obtain ⟨⟨p1,f1,rfl⟩,⟨p2,f2,rfl⟩,_⟩:=hR.ends
 generalize hz:(0:Int)=z at h
 cases h with
 |bad _ he=>exact (he hz.symm).elim
 |what=>omega
 |prf=>omega
 |off=>omega
 |ok _ _ hP hC=>
  unfold sC at hP
  unfold fO at hC
  cases high with
  |true=>
   rw [if_pos rfl] at hP hC ⊢
   exact Int.le_trans (Int.ediv_le_ediv aj (tC hok.sys hP f2)) hC
  |false=>
   rw [if_neg bR] at hP hC ⊢
   have h1:=tC hok.sys hP f1
   rw [mW] at h1
   exact Int.le_trans hC (Int.ediv_le_ediv aj aj)
set_option maxHeartbeats 8000000 in
theorem pj{v v1:Value}{g:Em}{k:Ft}(hs:St H w σ)(hg:Bf H v g)(hk:Ef H v1 k):
  Cl Tryz.prog 20 [v,v1] w fun v w'=>v= .bool true∧∃H',HLe H H'∧St H' w' σ:=by
 obtain ⟨vs,v5,v4,vp,rfl,g1,g2,g3,g4⟩:=hg
 obtain ⟨vch,rfl,hch⟩:=hk
 obtain ⟨ach,cch,rfl⟩:∃a c,vch= .slice a k.ch.length c:=by
  obtain ⟨a,c,h⟩:=hch.shape
  exact ⟨a,c,by rw [h,List.length_map]⟩
 refine Cl.o Tryz.func20 Tryz.ntmps20 ag2 ?_
 refine .ai ?_
 refine .bx hs fun b2 w hs=>?_
 refine .bx hs fun b3 w hs=>?_
 refine .z zg (.nil (.ai ?_))
 refine .o (.call Tryz.call22 rfl (mw hs) ?_);rintro _ w ⟨rfl,H1,hle1,hs⟩
 refine .z zg (.nil (.ai (.y hs (zls [_,_,_,_,_,_,_] Tryz.isAgg27 Tryz.sizeOf27) ?_)))
 refine .o (.call Tryz.call60 rfl (nI hs (g1.mono hle1) (g2.mono hle1) (g3.mono hle1) (g4.mono hle1)) ?_);rintro _ w ⟨H2,s,y,vst,vwa,vr,vc,vy,hle2,rfl,hM,hK,h1,h2,h3,h4,hY,hs⟩
 obtain ⟨ast,cst,rfl⟩:=RI.shape h1
 obtain ⟨awa,cwa,rfl⟩:=RI.shape h2
 obtain ⟨ar,cr,rfl⟩:=RRd.shape h3
 obtain ⟨ac,cc,rfl⟩:=RCm.shape h4
 obtain ⟨ay,cy,rfl⟩:=RI.shape hY
 have hst4:=hM.st
 have hwa3:=hM.wa
 have hok:=hM.ok
 have hmt:=hok.many
 have hsd:=qn hok hK
 obtain ⟨hyl,-,-⟩:=hK.bd
 have hle02:=hle1.trans hle2
 refine .z zm (.z zex (.z zex ?_))
 refine .o (.alloc hs fc rfl fun b6 w hs=>?_)
 refine .o (.aQ (vs:=[_,_,_,_,_,_,_,_]) hs rfl rfl aD fun w hs=>?_)
 refine .z zg (.nil (.ai (.z (zfa aN) (.y hs (zls [_,_,_,_,_,_] aM aE) (.z (zfa mF) (.y hs (zls [_,_,_] Tryz.isAgg25 wR) ?_))))))
 refine .o (.call Tryz.call25 rfl (jS (s:=s.sp) hs h1 h2 hok.early.1) ?_);rintro _ w ⟨q,rfl,hq,hs⟩
 refine .o (.alloc hs xL rfl fun b8 w hs=>?_)
 refine .o (.aQ (vs:=[_,_,_]) hs rfl rfl bj fun w hs=>?_)
 refine .nil (.ai (.y hs (zls [_,_,_,_,_,_,_,_] aJ aD) (.y hs (zls [_,_,_] bS bj) ?_)))
 refine .o (.call Tryz.call26 rfl (iy (s:=s) (q:=q) hs h1 h2 h3 h4) ?_);rintro _ w ⟨H3,lo,hi,e,hle3,rfl,hB,hs⟩
 obtain rfl:=(vU hB hok hq).1 hsd
 replace h1:=h1.mono hle3
 replace h2:=h2.mono hle3
 replace h3:=h3.mono hle3
 replace h4:=h4.mono hle3
 replace hY:=hY.mono hle3
 refine .z zm (.z zex (.z zex ?_))
 refine .o (.alloc hs dN rfl fun b9 w hs=>?_)
 refine .o (.aQ (vs:=[_,_]) hs rfl rfl aS fun w hs=>?_)
 refine .z zg (.nil (.ai (.y hs (zls [_,_,_,_,_,_,_,_] aJ aD) (.y hs (zls [_,_,_] bS bj) (.z (zfa dX) (.y hs (zld l9) ?_))))))
 refine .o (.call Tryz.call80 rfl (o8 (s:=s) (q:=q) (high:=k.high) hs h1 h2 h3 h4) ?_);rintro _ w ⟨H4,_,n,us,e4,hle4,rfl,⟨uu,rfl,hU⟩,hA,hne,hsh,hs⟩
 obtain ⟨au,cu,rfl⟩:=RU.shape hU
 obtain rfl:=hA.same hB
 obtain ⟨hul,hnb⟩:=tS.bd hne hA hsh
 have hqb:=EA hB
 have hcl:=(hsh rfl).FQ hB
 replace h1:=h1.mono hle4
 replace h2:=h2.mono hle4
 replace h3:=h3.mono hle4
 replace h4:=h4.mono hle4
 replace hY:=hY.mono hle4
 have hle04:=hle02.trans (hle3.trans hle4)
 refine .z zm (.z zex (.z zex ?_))
 refine .o (.alloc hs dV rfl fun b11 w hs=>?_)
 refine .o (.aQ (vs:=[_,_]) hs rfl rfl bp fun w hs=>?_)
 refine .z zg (.nil (.ai (.z (zfa gL) (.y hs (zld ae) (.z zg (.nil ?_))))))
 refine .cut (fun fs w=>∃num,mT fs ⟨128,[],[(13,I num),(12,I 0),(11,.pointer (some ⟨b11,0,none⟩)),(10,I 0),(7,.slice ay y.length cy),(9,.pointer (some ⟨b9,0,none⟩)),(8,.pointer (some ⟨b8,0,none⟩)),(6,.pointer (some ⟨b6,0,none⟩)),(5,.bool true),(3,.pointer (some ⟨b3,0,none⟩))]⟩∧num=(if k.high=true then hi else lo)∧St H4 w (.blk b11 [I n,.slice au us.length cu]:: .blk b9 [I lo,I hi]:: .blk b8 [I q.kind,I q.st,I q.wa]:: .blk b6 [I s.sp.id,I s.sp.src,.slice ast s.sp.st.length cst,.slice awa s.sp.wa.length cwa,I s.sp.al,I s.sp.up,.slice ar s.rs.length cr,.slice ac s.cs.length cc]:: .blk b3 [I k.a,I k.b,I k.c,.bool k.high,I k.n,.bool k.near,.slice ach k.ch.length cch]::σ)) ?_ ?_
 ·refine .ai (.z (zfa dX) (.y hs (zld l9) (.nil ?_)))
  refine (.cond rfl (fun hc46=>?_) (fun hc46=>?_))
  ·refine .region (.z (zfa fL) (.y hs (zld ae) (.z zg (.nil ?_))))
   refine nT ?_
   exact ⟨hi,bA,by rw [if_pos dB],hs.sb⟩
  ·refine .skip ?_
   refine nT ?_
   exact ⟨lo,bA,by rw [if_neg (by simp [hc46])],hs.sb⟩
 ·clear hs
  rintro fs w ⟨num,hfs,hnum,hs⟩
  refine WE.sub ?_ hfs
  clear hfs
  rw [←hnum] at hcl
  have hnumb: -4608000000000000000≤num∧num≤4608000000000000000:=by
   rw [hnum];split<;>omega
  refine .seq (.ai (.z zm (.z iU (.z zm ?_))))
  refine .gT rfl rfl ?_
  refine .z zm ?_
  refine .gT rfl rfl ?_
  refine .z fP ?_
  rw [decide_eq_true rfl]
  refine .z zpF (.z zm ?_)
  refine .gT rfl rfl ?_
  refine .z zm ?_
  refine .gT rfl rfl ?_
  refine .z fP ?_
  rw [decide_eq_true rfl]
  refine .z zpF (.z zm ?_)
  refine .gT rfl rfl ?_
  refine .y hs (zls [_,_,_,_,_,_,_,_] aJ aD) ?_
  refine .gT rfl rfl ?_
  refine .y hs (zls [_,_,_] bS bj) ?_
  refine .gT rfl rfl ?_
  refine .z (zfa dX) ?_
  refine .gT rfl rfl ?_
  refine .y hs (zld l9) ?_
  refine .gT rfl rfl ?_
  refine .z zm ?_
  refine .gT rfl rfl ?_
  refine .y hs (zls [_,_] dc bp) ?_
  refine .gT rfl rfl ?_
  refine .o (.call Tryz.call71 rfl (iw (s:=s) (q:=q) (high:=k.high) (n:=num) (m:=n) (us:=us) hs h1 h2 h3 h4 ⟨_,rfl,hU⟩) ?_);rintro _ w ⟨H5,e5,hle5,rfl,hE5,hs⟩
  obtain rfl:=hE5.uniq hcl
  replace hU:=RS.mono hU hle5
  replace h1:=h1.mono hle5
  replace h2:=h2.mono hle5
  replace h3:=h3.mono hle5
  replace h4:=h4.mono hle5
  replace hY:=hY.mono hle5
  have hle05:=hle04.trans hle5
  refine .gT rfl rfl ?_
  refine .z fP ?_
  rw [decide_eq_true rfl]
  refine .z zpF (.nil ?_)
  refine (.cF ?_)
  refine .skip ?_
  refine nT ?_
  refine .seq (.draw mix rfl hs fun w hs=>?_)
  refine .z 0 rfl (zfa aN) ?_;refine .ys 1 rfl hs [_,_,_,_,_,_] aM aE ?_;refine .z 2 rfl (zfa aN) ?_;refine .ys 3 rfl hs [_,_,_,_,_,_] aM aE ?_;refine .z 4 rfl zm ?_;refine .ys 6 rfl hs [_,_,_] bS bj ?_
  refine .E 5 hs ?_
  refine .call Tryz.call61 rfl (nH (s:=s.sp) hs h1 h2 hY aj aj aj) ?_;rintro _ w ⟨H6,va,hle6,rfl,hT,hs⟩
  obtain ⟨aT,cT,rfl⟩:=hT.shape
  replace hU:=RS.mono hU hle6
  replace h1:=h1.mono hle6
  replace h2:=h2.mono hle6
  replace h3:=h3.mono hle6
  replace h4:=h4.mono hle6
  have hle06:=hle05.trans hle6
  refine .go ?_
  refine .E 7 hs ?_
  refine .call Tryz.call37 rfl (fS (s:=s.sp) (q:=q) hs h1 h2 hT) ?_;rintro _ w ⟨H7,vv,e7,hle7,rfl,hQ7,hs⟩
  obtain ⟨hvv,rfl⟩:=hQ7.uniq (tG hok hK hq)
  have hin:=yo hok hK hB
  rw [←hvv] at hin
  clear hvv
  replace hU:=RS.mono hU hle7
  replace h1:=h1.mono hle7
  replace h2:=h2.mono hle7
  replace h3:=h3.mono hle7
  replace h4:=h4.mono hle7
  have hle07:=hle06.trans hle7
  refine .go ?_
  refine .z 8 rfl zm ?_;refine .z 9 rfl zex ?_;refine .z 10 rfl zex ?_;refine .z 11 rfl zg ?_;refine .z 12 rfl zg ?_;refine .D hs ?_
  refine .ai (.z zm (.z (zfa mE) (.y hs (zld ae) ?_)))
  refine .o (.call dh rfl (bG hs aj) ?_);rintro _ w ⟨k9,gk9,rfl,hs⟩
  refine .z cC (.z iK (.z zg (.nil (.ai (.y hs (zls [_,_] dc bp) (.z (zfa mD) (.y hs (zld Tryz.isAgg128) ?_)))))))
  refine .o (.call Tryz.call81 rfl (po (n:=n) (us:=us) (ls:=k.ch) hs ⟨_,rfl,hU⟩ hul hnb (RS.mono hch hle07)) ?_);rintro _ w ⟨H8,n2,us2,hle8,⟨uu,rfl,hU2⟩,hs⟩
  obtain ⟨au2,cu2,rfl⟩:=RU.shape hU2
  replace h1:=h1.mono hle8
  replace h2:=h2.mono hle8
  replace h3:=h3.mono hle8
  replace h4:=h4.mono hle8
  have hle08:=hle07.trans hle8
  refine .o (.alloc hs dV rfl fun b17 w hs=>?_)
  refine .o (.aQ (vs:=[_,_]) hs rfl rfl bp fun w hs=>?_)
  refine .nil (.seq (.ai (.y hs (zls [_,_,_,_,_,_,_,_] aJ aD) (.y hs (zls [_,_,_] bS bj) (.z (zfa dX) (.y hs (zld l9) (.z zm (.y hs (zls [_,_] dc bp) ?_))))))))
  refine .o (.call Tryz.call71 rfl (iw (s:=s) (q:=q) (high:=k.high) (n:=num+(k9:Int) - 4) (m:=n2) (us:=us2) hs h1 h2 h3 h4 ⟨_,rfl,hU2⟩) ?_);rintro _ w ⟨H9,e9,hle9,rfl,hE9,hs⟩
  have hle09:=hle08.trans hle9
  refine .z fP (.nil ?_)
  refine (.ep rfl (fun hc97=>?_) (fun hc97=>?_))
  ·refine .ai (.z zm (.z j6 (.z zg (.nil ?_))))
   refine .ret (rT (Fin.bD nC rfl ?_))
   exact ⟨bR,H9,hle09,hs.out⟩
  ·refine .skip ?_
   refine nT ?_
   refine .seq (.ai ?_)
   obtain rfl:e9=0:=by simpa using hc97
   have hso:=xC hE9 hB
   refine .z (zfa dX) (.y hs (zld l9) (.nil ?_))
   refine (.cond rfl (fun hc101=>?_) (fun hc101=>?_))
   ·refine .ai (.z zm (.z j6 (.z zm ?_)))
    refine .j7 (t':=104) rfl (fun hb104=>?_) (fun hb104=>?_)
    ·refine .gT rfl rfl ?_
     refine .z zm ?_
     refine .gT rfl rfl ?_
     refine .z zm ?_
     refine .gT rfl rfl ?_
     refine .z vA (.z zpT (.z zm ?_))
     refine .j7 (t':=109) rfl (fun hb109=>?_) (fun hb109=>?_)
     ·refine .gT rfl rfl ?_
      refine .z (zfa fL) ?_
      refine .gT rfl rfl ?_
      refine .y hs (zld ae) ?_
      refine .gT rfl rfl ?_
      refine .z zm ?_
      refine .gT rfl rfl ?_
      refine .z vA (.z zpT (.z zg (.nil ?_)))
      refine .ret (rT (Fin.bD nC rfl ?_))
      exact ⟨by
       first
        |(rw [if_pos dB] at hso;simp;omega)
        |(rw [if_neg (by simp_all)] at hso;simp;omega)
        |(rw [if_pos dB] at hso;omega)
        |(rw [if_neg (by simp_all)] at hso;omega),H9,hle09,hs.out⟩
     ·refine .gFs 4 7 true rfl rfl rfl ?_
      refine .z zpF (.z zg (.nil ?_))
      refine .ret (rT (Fin.bD nC rfl ?_))
      exact ⟨by
       first
        |(rw [if_pos dB] at hso;simp;omega)
        |(rw [if_neg (by simp_all)] at hso;simp;omega)
        |(rw [if_pos dB] at hso;omega)
        |(rw [if_neg (by simp_all)] at hso;omega),H9,hle09,hs.out⟩
    ·refine .gFs 3 2 true rfl rfl rfl ?_
     refine .z zpF (.z zm ?_)
     refine .gFs 4 7 true rfl rfl rfl ?_
     refine .z zpF (.z zg (.nil ?_))
     refine .ret (rT (Fin.bD nC rfl ?_))
     exact ⟨by
      first
       |(rw [if_pos dB] at hso;simp;omega)
       |(rw [if_neg (by simp_all)] at hso;simp;omega)
       |(rw [if_pos dB] at hso;omega)
       |(rw [if_neg (by simp_all)] at hso;omega),H9,hle09,hs.out⟩
   ·refine .skip ?_
    refine nT ?_
    refine .ai (.z zm (.z j6 (.z zm ?_)))
    refine .j7 (t':=117) rfl (fun hb117=>?_) (fun hb117=>?_)
    ·refine .gT rfl rfl ?_
     refine .z zm ?_
     refine .gT rfl rfl ?_
     refine .z zm ?_
     refine .gT rfl rfl ?_
     refine .z xQ (.z zpT (.z zm ?_))
     refine .j7 (t':=122) rfl (fun hb122=>?_) (fun hb122=>?_)
     ·refine .gT rfl rfl ?_
      refine .z (zfa gL) ?_
      refine .gT rfl rfl ?_
      refine .y hs (zld ae) ?_
      refine .gT rfl rfl ?_
      refine .z zm ?_
      refine .gT rfl rfl ?_
      refine .z xQ (.z zpT (.z zg (.nil ?_)))
      refine .ret (Fin.bD nC rfl ?_)
      exact ⟨by
       first
        |(rw [if_pos dB] at hso;simp;omega)
        |(rw [if_neg (by simp_all)] at hso;simp;omega)
        |(rw [if_pos dB] at hso;omega)
        |(rw [if_neg (by simp_all)] at hso;omega),H9,hle09,hs.out⟩
     ·refine .gFs 4 7 true rfl rfl rfl ?_
      refine .z zpF (.z zg (.nil ?_))
      refine .ret (Fin.bD nC rfl ?_)
      exact ⟨by
       first
        |(rw [if_pos dB] at hso;simp;omega)
        |(rw [if_neg (by simp_all)] at hso;simp;omega)
        |(rw [if_pos dB] at hso;omega)
        |(rw [if_neg (by simp_all)] at hso;omega),H9,hle09,hs.out⟩
    ·refine .gFs 3 2 true rfl rfl rfl ?_
     refine .z zpF (.z zm ?_)
     refine .gFs 4 7 true rfl rfl rfl ?_
     refine .z zpF (.z zg (.nil ?_))
     refine .ret (Fin.bD nC rfl ?_)
     exact ⟨by
      first
       |(rw [if_pos dB] at hso;simp;omega)
       |(rw [if_neg (by simp_all)] at hso;simp;omega)
       |(rw [if_pos dB] at hso;omega)
       |(rw [if_neg (by simp_all)] at hso;omega),H9,hle09,hs.out⟩
end Go.Proofs.YtddaejgfjlneoaaGreat
