/-
  Texts of these claims, joined: Si Sj Sk Sl Sm Sn So Va Vb Vc Vd Ve Vf Vg Vh Vi Vj Vk Vl Vm Vn Vo Vp Vq Vr Srf Vs Vt.
-/
import Derived.Test.YtfnfiekkdpphjaaGreatTd
import Derived.Lib.AppendZerosOnto
import Derived.Sort.Grow
import Derived.Shelf.GgSortFunc.InsertionK
import Derived.Shelf.SlSortCmp.NoneTotal
namespace Go.Proofs.YtfnfiekkdpphjaaGreat
open Go.MW Tryz
variable{H:bp}{σ:List Ent}{a0 a1 a2 m a most hi lo f e z1 z2 z3 known fl id number day:Int}{ls:List Lim}{g b k b1 bf bt bl cl i bm bc bn:Nat}{cap sp:List Value}{s:Spc}{xs lf ws l X Y pk days:List Int}{en:Ent}{ts:List TD}{vl vt vd vp vw v1 v2 vr vc d vs v5 v4 b' tap dn b2 c2 d2 ve:Value}{t:TD}{rows:List (List Int)}{fG:List F5}{fL:List F4}{th:Bool}
theorem MJ{n cap:Nat}{xs ys:List Value}(h:bE 31 (.slice (some ⟨b,0,none⟩) n cap) xs (.blk b (xs++sp)))(hl:ys.length=xs.length):bE 31 (.slice (some ⟨b,0,none⟩) n cap) ys (.blk b (ys++sp)):=by
 rcases h with ⟨a,_,_,h3⟩|⟨b',len,w8,PZ,h1,h2,h3,h4,h5⟩
 ·cases h3
 ·simp only [Value.slice.injEq] at h1;obtain ⟨-,rfl,rfl⟩:=h1;simp only [Ent.blk.injEq] at h2;rw [←h2.2] at h4;exact .inr ⟨b,n,cap,sp,rfl,rfl,by rw [hl];exact h3,by rw [List.length_append,hl,←List.length_append];exact h4,h5⟩
theorem zL{w:World}{l:List Ev}{v:Value}(hs:St H w (en::σ))(hO:bE 31 v (evc l).flatten en)(h0:l=[]→v= .slice none 0 0)(hl:l.length≤19):
  aaq 207 [v,.func (.func 208) #[] #[]] w fun _ w'=>∃jn,bE 31 v (evc (dc l l.length)).flatten jn∧St H w' (jn::σ):=by
 by_cases e:l=[]
 ·subst e;obtain rfl:=h0 rfl;exact (zM hs).mono fun _ _ hs=>⟨en,hO,hs⟩
 ·have hp:0<l.length:=List.length_pos_iff.2 e;obtain ⟨b,cap,sp,rfl,rfl,-⟩:=hO.Sd (ig _) ak (by rw [dN];exact hp);rw [dN] at hO ⊢;exact (Bh hs hl hp).mono fun _ _ hs=>⟨_,MJ hO (by rw [a7 _ (ig _),a7 _ (ig _),dN,dN,fo]),hs⟩
set_option maxHeartbeats 8000000 in
theorem C2{b2 b3 b4:Nat}{v:Value}{l:List Ev}(D6:Row H b1 [v])(AV:Row H b2 [I known])(R6:Row H b3 [I number])(VF:Row H b4 [I day])(hr:REv H v l)(hl:ub l)(hT:(kh l number day known l.length).length≤19):
  Iter Tryz.prog 206 [Pt b1,Pt b2,Pt b3,Pt b4] H ((dc (kh l number day known l.length) (kh l number day known l.length).length).map fun x=>[x.agg]):=by
 intro ly II Ix EM _ hy H0 Hg σf w hle D8 hs;obtain ⟨a,c,rfl⟩:=hr.shape;have Yw:cellAt H0 b1 0=some (.slice a l.length c):=cellAt.mono (D6.at 0) hle;have aaj:cellAt H0 b2 0=some (I known):=cellAt.mono (AV.at 0) hle;have aai:cellAt H0 b3 0=some (I number):=cellAt.mono (R6.at 0) hle;have aah:cellAt H0 b4 0=some (I day):=cellAt.mono (VF.at 0) hle;have h1:=hl.len;refine Cl.o func206 ntmps206 ag5 ?_;refine .af (.zn zg (.seq (.af (.y hs (zld Y8) (.y hs (zld aj) (.o (.call call128 rfl (mm hs (hr.mono hle) hl) ?_)))))));rintro _ w ⟨H1,G4,cs,az,rfl,hB,hs⟩;replace Yw:=cellAt.mono Yw az;replace aai:=cellAt.mono aai az;replace aah:=cellAt.mono aah az;refine .z (bT dx) (.zn zm (.for (N:=l.length) (J:=fun k fr w=>∃v en,fr=[(14,.slice G4 l.length cs),(6,v),(0,.func (.yield ly) #[] #[]),(1,Pt b1),(3,Pt b3),(4,Pt b4)]∧bE 31 v (evc (kh l number day known k)).flatten en∧(kh l number day known k=[]→v= .slice none 0 0)∧St H1 w (en::(Hg++σf))) ak ?_ ?_ ?_))
 ·exact .mk ⟨_,.nul,rfl,.nil 31 none,fun _=>rfl,hs.nul⟩
 ·rintro k fr w hk ⟨v,en,rfl,hO,h0,hs⟩;have hx:=dp (l:=l) (i:=k) hk;have Vx:=(hl.good _ (mM (l:=l) (i:=k) hk)).kind;have R5:=Bf (l:=l) (k:=known) hk;obtain ⟨av,cv,rfl⟩:=hO.jx (ig _) ak;rw [dN] at hO h0 ⊢;have hm:=Ja l number day known (n:=k) (m:=l.length) ak (Nat.le_refl _);have CC:=I9 (a:=number) (b:=day) (c:=known) hk;refine .block (.af (.z zm (.ixX (enc:=fun b=>[Value.bool b]) hs hB rfl rfl dx eg R5 rfl ?_)));intro Cj o19 j9;replace j9:=bI.one j9;refine .y hs (zld lN) (.z zg (.zn zg (.af (.y hs (zld Y8) (.z zm (.ixX (enc:=Ev.c) hs ((hr.mono hle).mono az).rs rfl rfl aD aH hx rfl ?_))))));intro Iv o23 jM;refine .q hs (bj (vs:=(evG l k).c) rfl bV aH jM) (.o (.alloc hs cz rfl fun b9 w hs=>?_));refine .o (.fy (vs:=[_,_,_,_,_,_,_,_,_,_,_,_,_,_,_,_,_,_,_,_,_,_,_,_,_,_,_,_,_,_,_]) hs rfl rfl aH fun w hs=>?_);refine .nil (.af (.z zm (.z zm (.bif (t':=26) rfl (fun BU=>?_) (fun BU=>?_)))))
  ·refine .T (.z (zfa cQ) (.T (.y hs (zld aj) (.T (.z gv (.z zpT (.z zm (.G2 (t':=31) rfl (fun ta=>?_) (fun ta=>?_)))))))))
   ·refine .T (.z (zfa cQ) (.T (.y hs (zld aj) (.T (.z gv ?_)))));rw [decide_eq_false ak];refine .z zpT (.z zm (.T (.z (zfa fE) (.T (.y hs (zld aj) (.T (.y hs (zld aj) (.T (.z fW (.z zpT (.z zm (.jK (t':=42) rfl (fun KD=>?_) (fun KD=>?_)))))))))))))
    ·refine .T (.z (zfa ep) (.T (.y hs (zld aj) (.T (.y hs (zld aj) (.T (.z ql (.zn zpT (.bQ rfl (fun qt=>?_) (fun qt=>?_))))))))))
     ·refine .region (.z zm (.y hs (zls [_,_,_,_,_,_,_,_,_,_,_,_,_,_,_,_,_,_,_,_,_,_,_,_,_,_,_,_,_,_,_] bV aH) (.o (.buildSlice (cells:=(evG l k).c) hs gU rfl aF fun VS w hs=>?_))));refine .o (.append (ys:=(evG l k).c) hs dz rfl rfl hO (.own cg rfl rfl) (by simp [Ev.c,Value.oneCell']) (fun l' h=>by rw [a7 _ (ig _),dN] at h;omega) ?_);intro v51 en51 w gM hs;rw [←B6] at gM;exact .zn zg (nB (nT (.mk ⟨_,en51,rfl,by rw [CC,if_pos ⟨⟨of_decide_eq_true cW,by assumption⟩,by assumption,by assumption⟩];exact gM,fun h=>by rw [CC,if_pos ⟨⟨of_decide_eq_true cW,by assumption⟩,by assumption,by assumption⟩] at h;simp at h,hs.sb⟩)))
     ·exact .skip (nB (nT (.mk ⟨_,en,rfl,by rw [CC,if_neg (by first|(simp_all;done)|(simp_all;omega))];exact hO,by rw [CC,if_neg (by first|(simp_all;done)|(simp_all;omega))];exact h0,hs.sb⟩)))
    ·exact .Fs 4 17 true (.zn zpF (.cF (.skip (nB (nT (.mk ⟨_,en,rfl,by rw [CC,if_neg (by first|(simp_all;done)|(simp_all;omega))];exact hO,by rw [CC,if_neg (by first|(simp_all;done)|(simp_all;omega))];exact h0,hs.sb⟩))))))
   ·exact .Fs 3 6 true (.z zpF (.z zm (.Fs 4 11 true (.z zpF (.z zm (.Fs 4 17 true (.zn zpF (.cF (.skip (nB (nT (.mk ⟨_,en,rfl,by rw [CC,if_neg (by first|(simp_all;done)|(simp_all;omega))];exact hO,by rw [CC,if_neg (by first|(simp_all;done)|(simp_all;omega))];exact h0,hs.sb⟩))))))))))))
  ·exact .Fs 3 1 true (.z zpF (.z zm (.Fs 3 6 true (.z zpF (.z zm (.Fs 4 11 true (.z zpF (.z zm (.Fs 4 17 true (.zn zpF (.cF (.skip (nB (nT (.mk ⟨_,en,rfl,by rw [CC,if_neg (by first|(simp_all;done)|(simp_all;omega))];exact hO,by rw [CC,if_neg (by first|(simp_all;done)|(simp_all;omega))];exact h0,hs.sb⟩)))))))))))))))
 ·rintro fr w ⟨v,en,rfl,hO,h0,hs⟩;refine nT (.af (.z zm (.o (.call call207 rfl (zL hs hO h0 hT) ?_))));rintro _ w ⟨jn,Um,hs⟩;obtain ⟨av,cv,rfl⟩:=Um.jx (ig _) ak;rw [dN,fo] at Um ⊢;have WQ:=fo (kh l number day known l.length) (kh l number day known l.length).length;generalize hS:dc (kh l number day known l.length) (kh l number day known l.length).length=S at*;generalize hTl:(kh l number day known l.length).length=N at*;refine .nil (.af (.z zm (.z (bT aD) (.zn zm (.for (N:=N) (J:=fun k fr w=>fr=[(55,.slice av N cv),(0,.func (.yield ly) #[] #[])]∧∃H2 σb,HLe H1 H2∧II k H2 σb∧St H2 w (σb++(jn::σf))) ak ?_ ?_ ?_)))))
  ·exact .mk ⟨rfl,H1,Hg,HLe.refl _,EM _ _ _ _ az D8,hs.perm List.perm_middle.symm⟩
  ·rintro k fr w hk ⟨rfl,H2,σb,aN,Yr,hs⟩;obtain ⟨bn,cap,sp,hv,rfl,-⟩:=Um.Sd (ig _) ak (by rw [dN];omega);simp only [Value.slice.injEq] at hv;obtain ⟨rfl,-,rfl⟩:=hv;have hx:=dp (l:=S) (i:=k) ak;refine .block (.af (.z (wo (j:=k) aD aH) (.q hs (gY (vs:=(evG S k).c) rfl bV aH (hm:=Mem.xi .here) (hv:=sK (ig _) (rY hx) sp)) (.o (.alloc hs cz rfl fun EU w hs=>?_)))));refine .o (.fy (vs:=[_,_,_,_,_,_,_,_,_,_,_,_,_,_,_,_,_,_,_,_,_,_,_,_,_,_,_,_,_,_,_]) hs rfl rfl aH fun w hs=>?_);refine .nil (.af (.z zm (.y hs (zls [_,_,_,_,_,_,_,_,_,_,_,_,_,_,_,_,_,_,_,_,_,_,_,_,_,_,_,_,_,_,_] bV aH) ?_)));have BL:=hy k (by rw [List.length_map];omega) H2 σb (.blk bn ((evc S).flatten++sp)::σf) w (hle.trans (az.trans aN)) Yr hs.tail;have R1:((S.map fun x=>[x.agg])[k]'(by rw [List.length_map];omega))=[(evG S k).agg]:=by
    rw [List.getElem_map];rw [List.getElem?_eq_getElem ak] at hx;rw [Option.some.inj hx]
   rw [R1] at BL;refine .o (.yield rfl rfl BL ?_);rintro v63 w ⟨H3,σ3,g1,hs,g3⟩;obtain ⟨bb,rfl,gT,gF⟩:=rb g3;refine .zn fF (.cond rfl (fun FE=>?_) (fun FE=>?_))
   ·exact .ret (rB (rT (rB (Fin.Su results206 ⟨H3,σ3,az.trans (aN.trans g1),(hs.perm List.perm_middle).tail,.inr (gF (by simpa using FE))⟩))))
   ·exact .skip (nB (nT (.mk ⟨rfl,H3,σ3,aN.trans g1,gT (by simpa using FE),hs⟩)))
  ·rintro fr w ⟨rfl,H2,σb,aN,Yr,hs⟩;exact Fin.zG results206 ⟨H2,σb,az.trans aN,(hs.perm List.perm_middle).tail,.inl (by rw [List.length_map,WQ];exact Yr)⟩
theorem yz{w:World}{v:Value}{l:List Ev}(hs:St H w σ)(hr:REv H v l)(hl:ub l)(hT:(kh l number day known l.length).length≤19):
  aaq 130 [v,I number,I day,I known] w fun u w'=>∃H1 b1 b2 b3 b4,HLe H H1∧u= .func (.func 206) #[] #[Pt b1,Pt b2,Pt b3,Pt b4]∧
   Iter Tryz.prog 206 [Pt b1,Pt b2,Pt b3,Pt b4] H1 ((dc (kh l number day known l.length) (kh l number day known l.length).length).map fun x=>[x.agg])∧St H1 w' σ:=by
 obtain ⟨a,c,rfl⟩:=hr.shape;refine Cl.o func130 ntmps130 ag4 ?_;refine .af (.bx hs fun b4 w hs=>?_);refine .bx hs fun b5 w hs=>?_
 refine .bx hs fun b6 w hs=>?_
 refine .bx hs fun b7 w hs=>?_
 refine .zn zg (.af (.q hs (dv (f:=[]) (c:=[_,_,_,_]) rfl rfl) (.zn zg (.ret (Fin.aW results130 rfl ?_)))));obtain ⟨H1,g1,r1,hs⟩:=hs.bG (b:=b4) cg;obtain ⟨H2,g2,r2,hs⟩:=hs.bG (b:=b5) cg;obtain ⟨H3,g3,r3,hs⟩:=hs.bG (b:=b6) cg;obtain ⟨H4,g4,r4,hs⟩:=hs.bG (b:=b7) cg;exact ⟨H4,b4,b7,b5,b6,g1.trans (g2.trans (g3.trans g4)),rfl,C2 (r1.mono (g2.trans (g3.trans g4))) r4 (r2.mono (g3.trans g4)) (r3.mono g4) (hr.mono (g1.trans (g2.trans (g3.trans g4)))) hl hT,hs⟩
set_option maxHeartbeats 4000000 in
theorem uK{w:World}{x:Ev}{n:Int}{u:Srv}{a2 cmp:Value}
  (hs:St H w (.blk b (shC n fl u a2 b2 c2 d2 vc th cmp tap dn vd)::σ)) (g:SvM H u a2 b2 c2 d2) (hx:x.room=u.sp.id) (bw:iE (u.add x.rd)) (hl:u.rs.length≤1000):
  aaq 205 [Pt b,x.agg] w fun v w'=>∃H1 q k,HLe H H1∧v= .bool true∧SvM H1 (u.add x.rd) a2 b2 (.slice q (u.rs.length+1) k) d2∧
   St H1 w' (.blk b (shC n fl (u.add x.rd) a2 b2 (.slice q (u.rs.length+1) k) d2 vc th cmp tap dn vd)::σ):=by
 obtain ⟨qa,ka,rfl⟩:=RI.shape g.st;obtain ⟨qb,kb,rfl⟩:=RI.shape g.wa;obtain ⟨qc,kc,rfl⟩:=RRd.shape g.rd;obtain ⟨qd,kd,rfl⟩:=RCm.shape g.cm;refine Cl.o func205 ntmps205 ag2 ?_;refine .af (.bx hs fun b3 w hs=>?_);refine .zn zg (.af (.z zm (.z (zfa eo) (.y hs (zld aj) ?_))));rw [hx];refine .o (.call call260 rfl (Dx hs (.there .here)) ?_);rintro _ w ⟨rfl,hs⟩;refine .zn zg (.seq (.af (.z zm (.q hs (AL rfl rfl runUnderlying392) (.nil (.cF (.skip (nT (.af (.z zm (.z znc (.q hs (gY (vs:=svC u (.slice qa u.sp.st.length ka) (.slice qb u.sp.wa.length kb) (.slice qc u.rs.length kc) (.slice qd u.cs.length kd)) rfl df bu (hm:= .there .here) (hv:=rfl)) (.o (.alloc hs mP rfl fun b6 w hs=>?_))))))))))))));refine .o (.aL (vs:=[_,_,_,_,_,_,_,_]) hs rfl rfl bu fun w hs=>?_);refine .nil (.cut (fun fs w=>∃H1 b6 q k,ob fs ⟨32,[],[(6,Pt b6),(5,.pointer (some ⟨b,2,none⟩))]⟩∧HLe H H1∧RRd H1 (.slice q (u.rs.length+1) k) (u.rs++[x.rd])∧St H1 w (.blk b6 (svC u (.slice qa u.sp.st.length ka) (.slice qb u.sp.wa.length kb) (.slice q (u.rs.length+1) k) (.slice qd u.cs.length kd)):: .blk b (shC n fl u (.slice qa u.sp.st.length ka) (.slice qb u.sp.wa.length kb) (.slice qc u.rs.length kc) (.slice qd u.cs.length kd) vc th cmp tap dn vd)::σ)) ?_ ?_)
 ·refine .draw mix rfl hs fun w hs=>?_
  refine .zw 0 rfl zm ?_;refine .z 1 rfl znc ?_;refine .z 2 rfl (zfa aS) ?_;refine .y 3 rfl hs eB ?_;refine .z 5 rfl (zfa ez) ?_;refine .ys 6 rfl hs [_,_,_,_,_,_,_] gP br ?_;refine .e2 (i:=4) (j:=7) aF rfl rfl rfl rfl .none .none hs ?_ ?_
  ·refine .call call261 rfl (iR hs g.rd ak) ?_;rintro v20 w ⟨e20,FN,hs⟩;refine .go (.E 7 hs ?_);refine .buildSlice (cells:=x.rd.c) hs dS rfl aF ?_;intro Iv w hs;refine .go (.E 8 hs ?_);refine .append (ys:=x.rd.c) hs bL rfl rfl FN (.own cg rfl rfl) (by simp [Rdg.c,Value.oneCell']) (fun l' h=>by rw [a7 _ (lB _),cL] at h;omega) ?_;intro v24 en24 w nM hs;rw [←p7] at nM;obtain ⟨a24,c24,rfl⟩:=nM.jx (lB _) ak;rw [cL,List.length_append,List.length_singleton] at nM ⊢;refine .go (.zw 9 rfl (zfa aS) (.E 10 hs ?_));refine .store hs rfl rfl F2 ?_;intro w hs;refine .go (.D hs ?_);obtain ⟨H1,az,hR,hs⟩:=bE.bG (m:=7) (cs:=rdc (u.rs++[x.rd])) nM (lB _) ak (by rw [cL,List.length_append,List.length_singleton];omega) hs cg;exact nT ⟨H1,b6,_,_,bg,az,hR,hs.sb⟩
  ·refine .buildSlice (cells:=x.rd.c) hs dS rfl aF ?_;intro Iv w hs;refine .go (.E 4 hs ?_);refine .call call261 rfl (iR hs g.rd ak) ?_;rintro v20 w ⟨e20,FN,hs⟩;refine .go (.E 8 hs ?_);refine .append (ys:=x.rd.c) hs bL rfl rfl FN (.own cg rfl rfl) (by simp [Rdg.c,Value.oneCell']) (fun l' h=>by rw [a7 _ (lB _),cL] at h;omega) ?_;intro v24 en24 w nM hs;rw [←p7] at nM;obtain ⟨a24,c24,rfl⟩:=nM.jx (lB _) ak;rw [cL,List.length_append,List.length_singleton] at nM ⊢;refine .go (.zw 9 rfl (zfa aS) (.E 10 hs ?_));refine .store hs rfl rfl F2 ?_;intro w hs;refine .go (.D hs ?_);obtain ⟨H1,az,hR,hs⟩:=bE.bG (m:=7) (cs:=rdc (u.rs++[x.rd])) nM (lB _) ak (by rw [cL,List.length_append,List.length_singleton];omega) hs cg;exact nT ⟨H1,b6,_,_,bg,az,hR,hs.sb⟩
 ·rintro fs w ⟨H1,b6,q,k,j8,az,hR,hs⟩;refine WE.sub ?_ j8;clear j8;have gk:SvM H1 (u.add x.rd) (.slice qa u.sp.st.length ka) (.slice qb u.sp.wa.length kb) (.slice q (u.rs.length+1) k) (.slice qd u.cs.length kd):=⟨(g.mono az).st,(g.mono az).wa,hR,(g.mono az).cm⟩;refine .seq (.af (.y hs (zls [_,_,_,_,_,_,_,_] df bu) (.o (.call call262 rfl (jA (s:=u.add x.rd) hs gk.st gk.wa gk.rd gk.cm) ?_))));rintro _ w ⟨H2,e,aN,rfl,hE,hs⟩;obtain rfl:e=0:=hE.jz.2 bw;refine .z gv ?_;rw [decide_eq_true rfl];refine .nil (.cF (.skip (nT (.af (.z zm (.y hs (zls [_,_,_,_,_,_,_,_] df bu) (.z znc (.o (.aL (vs:=[_,_,_,_,_,_,_,_]) hs rfl rfl bu fun w hs=>?_)))))))));exact .nil (.af (.zn zg (.ret (Fin.aW results205 rfl ⟨H2,q,k,az.trans aN,rfl,gk.mono aN,hs.out⟩))))
abbrev dF(f:Nat):Value:= .func (.func f) #[] #[]
def kK:List MapEntry:=[⟨I 1,dF 198,0⟩,⟨I 2,dF 199,1⟩,⟨I 3,dF 200,2⟩,⟨I 4,dF 201,3⟩,⟨I 5,dF 202,4⟩,⟨I 6,dF 203,5⟩,⟨I 7,dF 204,6⟩,⟨I 8,dF 205,7⟩]
set_option maxHeartbeats 4000000 in
theorem yA{w:World}(hs:St H w σ):aaq 129 [] w fun u w'=>∃b,u= .map (some b)∧St H w' (.obj b (.map kK.toArray 8)::σ):=by
 refine Cl.of func129 rfl ntmps129 aU (Ar) (.af (.zn zg (.af (.o (.makeMap hs fun b1 w hs=>?_)))));refine .o (.insert (es:=[]) hs rfl rfl rfl fa aJ rfl fun w hs=>?_);refine .o (.insert (es:=kK.take 1) hs rfl rfl rfl fa aJ rfl fun w hs=>?_);refine .o (.insert (es:=kK.take 2) hs rfl rfl rfl fa aJ rfl fun w hs=>?_);refine .o (.insert (es:=kK.take 3) hs rfl rfl rfl fa aJ rfl fun w hs=>?_);refine .o (.insert (es:=kK.take 4) hs rfl rfl rfl fa aJ rfl fun w hs=>?_);refine .o (.insert (es:=kK.take 5) hs rfl rfl rfl fa aJ rfl fun w hs=>?_);refine .o (.insert (es:=kK.take 6) hs rfl rfl rfl fa aJ rfl fun w hs=>?_);refine .o (.insert (es:=kK.take 7) hs rfl rfl rfl fa aJ rfl fun w hs=>?_);exact .z zm (.zn zg (.ret (Fin.aW results129 rfl ⟨b1,rfl,hs.out⟩)))
theorem K7{w:World}{x:Ev}{L:Liv}{n:Int}{cmp:Value}{blk:List Value}{ce:Ent}{cs:List Cmp}(hs:St H w (.blk b blk::ce::σ))(hM:ShM H n L cmp tap dn vd blk ce)(bw:OkE L x)(hx:EvM H x)(hc:RCm H cmp cs)(hl:cs.length≤100):
  ∃i f,Instr.findNow (.int .i64) (I x.kind) kK 0=some (some (i,dF f))∧(∀args w,(callFunc f args).run Tryz.prog w= .ok (.enter f args) w)∧
   aaq f [Pt b,x.agg] w fun v w'=>v= .bool true∧∃H' blk' ce',HLe H H'∧ShM H' n (eJ cs L x) cmp tap dn vd blk' ce'∧St H' w' (.blk b blk'::ce'::σ):=by
 obtain ⟨a,b',c,d,vc,rfl,hS,hC⟩:=hM.ex
 cases bw with
 |build h h1 h2=>
  rw [h1] at hs;refine ⟨0,198,by rw [h.kind];rfl,call198,?_⟩;refine (yC hs hx h.new hc hl).mono ?_;rintro _ w ⟨H1,a1,c1,a2,c2,a3,c3,az,rfl,uS,hs⟩;have e:eJ cs L x=⟨true,x.num,⟨x.sp,[],cs⟩,L.cells⟩:=by unfold eJ;rw [if_pos h.kind]
  rw [e];exact ⟨rfl,H1,_,_,az,⟨_,_,_,_,_,rfl,fun _=>uS,hC.mono az⟩,hs⟩
 |room h h1 h2 h3=>
  rw [h2] at hC;cases hC
  refine ⟨1,199,by rw [h.kind];rfl,call199,?_⟩;refine (zT hs hx h.new h3 hc hl).mono ?_;rintro _ w ⟨H1,a1,c1,a2,c2,a3,c3,bc,cap,sp,az,rfl,mI,uS,hs⟩;have e:eJ cs L x={L with cells:=[(Ss x,⟨x.sp,[],cs⟩)]}:=by unfold eJ;rw [if_neg (by have:=h.kind;omega),if_neg (by simp [h1]),if_pos h.kind]
  rw [e];exact ⟨rfl,H1,_,_,az,⟨_,_,_,_,_,rfl,fun h=>(hS h).mono az,.one uS mI⟩,hs.sub (.cons .here (.cons .here (Sub.weaken (Sub.refl _))))⟩
 |hull h h1 h2 h3 h4=>
  refine ⟨7,205,by rw [h.kind];rfl,call205,?_⟩;refine (uK hs (hS h1) h2.symm h3 h4).mono ?_;rintro _ w ⟨H1,q,k,az,rfl,uS,hs⟩;have e:eJ cs L x={L with hu:=L.hu.add x.rd}:=by unfold eJ;rw [if_neg (by have:=h.kind;omega),if_neg (by simp [h1]),if_neg (by have:=h.kind;omega),if_pos h2]
  rw [e];exact ⟨rfl,H1,_,_,az,⟨_,_,_,_,_,rfl,fun _=>uS,hC.mono az⟩,hs⟩
 | @cell r u h h1 h2 tX h3 h4 h5=>
  rw [tX] at hC
  cases hC with
  |one hu mI=>
   refine ⟨7,205,by rw [h.kind];rfl,call205,?_⟩;refine (uI hs hu h3.symm (by rw [h3];exact h2) h4 h5).mono ?_;rintro _ w ⟨H1,q,k,az,rfl,uS,hs⟩;have e:eJ cs L x={L with cells:=[(r,u.add x.rd)]}:=by unfold eJ;rw [if_neg (by have:=h.kind;omega),if_neg (by simp [h1]),if_neg (by have:=h.kind;omega),if_neg h2,tX];rfl
   rw [e];exact ⟨rfl,H1,_,_,az,⟨_,_,_,_,_,rfl,fun h=>(hS h).mono az,.one uS mI⟩,hs⟩
theorem Dw{w:World}{n:Int}{s:Srv}{a c cmp:Value}(hs:St H w σ)(hm:Mem σ (.blk b (shC n fl s a b' c d (.slice none 0 0) th cmp tap dn vd)))(eG:s.sp.id≠id):
  aaq 260 [Pt b,I id] w fun u w'=>u= .pointer none∧St H w' σ:=by
 refine Cl.o func260 ntmps260 ag2 ?_;refine .af (.zn zg (.seq (.af (.z zm (.z znc (.z (zfa cO) (.z (zfa gG) (.z (zfa bq) (.z (zfa dr) (.q hs (eM rfl aj (hm:=hm) (hv:=rfl)) (.z zm (.z fW ?_))))))))))));rw [decide_eq_false eG];refine .nil (.cF (.skip (nT (.af (.z zm (.z zm (.o (.call call253 rfl (sV hs hm) ?_))))))));rintro _ w ⟨rfl,hs⟩;exact .z zm (.z zex (.z zex (.z zg (.zn zg (.seq (.af (.z zm (.zn fF (.cT (.af (.zn zg (.ret (rT (Fin.aW results260 rfl ⟨rfl,hs.out⟩))))))))))))))
theorem uJ{w:World}{x:Ev}{n:Int}{u:Srv}{a2 cmp:Value}
  (hs:St H w (.blk b (shC n fl u a2 b2 c2 d2 (.slice none 0 0) th cmp tap dn vd)::σ)) (eG:u.sp.id≠x.room):
  aaq 205 [Pt b,x.agg] w fun v w'=>v= .bool false∧St H w' (.blk b (shC n fl u a2 b2 c2 d2 (.slice none 0 0) th cmp tap dn vd)::σ):=by
 refine Cl.o func205 ntmps205 ag2 ?_;refine .af (.bx hs fun b3 w hs=>?_);refine .zn zg (.af (.z zm (.z (zfa eo) (.y hs (zld aj) (.o (.call call260 rfl (Dw hs (.there .here) eG) ?_))))));rintro _ w ⟨rfl,hs⟩;exact .zn zg (.seq (.af (.z zm (.q hs (AL rfl rfl runUnderlying392) (.nil (.cT (.af (.zn zg (.ret (rT (Fin.aW results205 rfl ⟨rfl,hs.out⟩)))))))))))
theorem Io{w:World}{x:Ev}{L:Liv}{n:Int}{cmp:Value}{blk:List Value}{ce:Ent}{cs:List Cmp}(hs:St H w (.blk b blk::ce::σ))(hM:ShM H n L cmp tap dn vd blk ce)(bw:OkE L x∨VdE L x)(ht:L.there=true∨x.kind=1)(hx:EvM H x)(hc:RCm H cmp cs)(hl:cs.length≤100):
  ∃i f,Instr.findNow (.int .i64) (I x.kind) kK 0=some (some (i,dF f))∧(∀args w,(callFunc f args).run Tryz.prog w= .ok (.enter f args) w)∧
   aaq f [Pt b,x.agg] w fun v w'=>∃bb:Bool,v= .bool bb∧(OkE L x→bb=true)∧∃H' blk' ce',HLe H H'∧ShM H' n (eJ cs L x) cmp tap dn vd blk' ce'∧St H' w' (.blk b blk'::ce'::σ):=by
 rcases bw with bw|hv
 ·obtain ⟨i,f,h1,h2,h3⟩:=K7 hs hM bw hx hc hl;exact ⟨i,f,h1,h2,h3.mono fun v w ⟨e,h⟩=>⟨true,e,fun _=>rfl,h⟩⟩
 ·have hn:¬OkE L x:=fun h=>h.Zc hv
  cases hv with
  |early h hk=>
   rcases ht with ht|ht
   ·rw [h] at ht;cases ht
   ·exact (hk ht).elim
  |lost h h1 h2 tX=>
   obtain ⟨a,b',c,d,vc,rfl,hS,hC⟩:=hM.ex;have e:=(VdE.lost h h1 h2 tX).app (cs:=cs);have aaf:=hC;rw [tX] at aaf;cases aaf
   refine ⟨7,205,by rw [h.kind];rfl,call205,?_⟩;refine (uJ hs h2).mono ?_;rintro _ w ⟨rfl,hs⟩;exact ⟨false,rfl,fun h=>(hn h).elim,H,_,.nul,HLe.refl _,by rw [e];exact ⟨_,_,_,_,_,rfl,hS,hC⟩,hs⟩
set_option maxHeartbeats 16000000 in
theorem jB{w:World}{v:Value}{l S:List Ev}{cs:List Cmp}(hs:St H w σ)(hr:REv H v l)(hl:ub l)(hT:(kh l number day known l.length).length≤19)
  (hS:dc (kh l number day known l.length) (kh l number day known l.length).length=S) (AU:lF l known l.length=cs) (bw:kN cs fK S):
  aaq 72 [v,I number,I day,I known] w fun u w'=>∃H1 b blk ce cmp tap dn vd,HLe H H1∧u=Pt b∧ShM H1 number (S.foldl (eJ cs) fK) cmp tap dn vd blk ce∧RS H1 2 tap ((vL l known l.length).map yr)∧(∃D,RS H1 2 dn (D.map yr)∧(pU cs fK S→D=S)∧D.length≤S.length)∧St H1 w' (.blk b blk::ce::σ):=by
 obtain ⟨a,c,rfl⟩:=hr.shape;have h1:=hl.len;have hSl:S.length≤19:=by rw [←hS,fo];exact hT
 have tX:=GY l known l.length;have xC:=E5 l known l.length;rw [AU] at tX;refine Cl.o func72 ntmps72 ag4 ?_;refine .af (.zn zg (.af (.z zm (.z (zbd [I number,I 0,I 0,I 0,.slice none 0 0,.slice none 0 0,I 0,I 0,.slice none 0 0,.slice none 0 0,.slice none 0 0] tI rfl aF) (.z (zbd [I number,I 0,I 0,I 0,.slice none 0 0,.slice none 0 0,I 0,I 0,.slice none 0 0,.slice none 0 0,.slice none 0 0,.bool false,.slice none 0 0,.slice none 0 0,.slice none 0 0,.slice none 0 0] Cg rfl aF) (.bx hs fun wj w hs=>?_))))));refine .o (.alloc hs zeroValue138 rfl fun b9 w hs=>?_);refine .o (.store hs rfl rfl sizeOf138 fun w hs=>?_);refine .nil (.seq (.af (.z zm (.z zm (.o (.call call128 rfl (mm hs hr hl) ?_))))));rintro _ w ⟨H1,G4,ks,az,rfl,hB,hs⟩;replace hr:=hr.mono az;refine .z (bT dx) (.zn zm (.for (N:=l.length) (J:=fun k fr w=>∃vc vt ec et,fr=[(20,.slice G4 l.length ks),(9,Pt b9),(0,.slice a l.length c),(1,I number),(2,I day),(3,I known)]∧bE 6 vc (cmc (lF l known k)).flatten ec∧bE 2 vt ((vL l known k).map yr).flatten et∧St H1 w (ec::et:: .blk b9 [Pt wj]:: .blk wj (shC number 0 ⟨sp0,[],[]⟩ (.slice none 0 0) (.slice none 0 0) (.slice none 0 0) (.slice none 0 0) (.slice none 0 0) false vc vt (.slice none 0 0) (.slice none 0 0))::σ)) ak ?_ ?_ ?_))
 ·exact .mk ⟨_,_,.nul,.nul,rfl,.nil 6 none,.nil 2 none,hs.nul.nul⟩
 ·rintro k fr w hk ⟨vc,vt,ec,et,rfl,O8,Q3,hs⟩;have hx:=dp (l:=l) (i:=k) hk;have R5:=Bf (l:=l) (k:=known) hk;have CC:=Iq (known:=known) hk;have OZ:=GY l known k;have zD:=C1 (known:=known) hk;have DP:=E5 l known k;refine .block (.af (.z zm (.ixX (enc:=fun b=>[Value.bool b]) hs hB rfl rfl dx eg R5 rfl ?_)));intro Lj o25 jq;replace jq:=bI.one jq;refine .y hs (zld lN) (.z zg (.zn zg (.af (.z zm (.z zm (.bif (t':=28) rfl (fun Nt=>?_) (fun Nt=>?_)))))))
  ·refine .T (.z zm (.T (.z zm (.T (.ixX (enc:=Ev.c) hs hr.rs rfl rfl aD aH hx rfl ?_)))));intro Li o31 s8;refine .T (.z (zfa cQ) (.T (.q hs (aR rfl aj (s8.get 2 rfl)) (.T (.z fW (.zn zpT (.bQ rfl (fun uP=>?_) (fun uP=>?_))))))))
   ·refine .draw mix rfl hs fun w hs=>?_
    refine .y 0 rfl hs mV ?_;refine .y 1 rfl hs mV ?_;refine .y 2 rfl hs mV ?_;refine .z 3 rfl znc ?_;refine .z 4 rfl (zfa iK) ?_;refine .y 5 rfl hs qL ?_;refine .z 6 rfl zm ?_;refine .z 7 rfl zm ?_;refine .ixX (enc:=Ev.c) (i:=8) hs rfl aF .none hr.rs rfl rfl aD aH hx rfl ?_;intro b44 o44 No;refine .zw 9 rfl (zfa eX) (.r (i:=10) hs rfl aF .none (bj (vs:=(evG l k).cm.c) rfl vI dC (No.sub 23 _)) ?_);refine .y 13 rfl hs mV ?_;refine .z 14 rfl znc ?_;refine .z 15 rfl (zfa iJ) ?_;refine .y 16 rfl hs N8 ?_;refine .z 17 rfl zm ?_;refine .z 18 rfl zm ?_;refine .ixX (enc:=Ev.c) (i:=19) hs rfl aF .none hr.rs rfl rfl aD aH hx rfl ?_;intro VR o55 HY;refine .zw 20 rfl (zfa bM) (.r (i:=21) hs rfl aF .none (bj (vs:=[I (evG l k).off,I (evG l k).seq]) rfl cj bk (HY.sub 0 _)) ?_);refine .e2 (i:=11) (j:=22) aF rfl rfl rfl rfl .none .none hs ?_ ?_
    ·refine .buildSlice (cells:=(evG l k).cm.c) hs iD rfl aF ?_;intro aam w hs;refine .go (.e2 (i:=12) (j:=22) aF rfl rfl rfl rfl .none .none hs ?_ ?_)
     ·refine .append (ys:=(evG l k).cm.c) hs cS rfl rfl O8 (.own cg rfl rfl) (by simp [Cmp.c,Value.oneCell']) (fun l' h=>by rw [a7 _ (w7 _),iw] at h;omega) ?_;intro v48 en48 w yT hs;rw [←tw] at yT;obtain ⟨a48,c48,rfl⟩:=yT.jx (w7 _) ak;refine .go (.E 22 hs ?_);refine .buildSlice (cells:=[I (evG l k).off,I (evG l k).seq]) hs dR rfl aF ?_;intro UM w hs;refine .go (.E 23 hs ?_);refine .append (ys:=[I (evG l k).off,I (evG l k).seq]) hs bP rfl rfl Q3 (.own cg rfl rfl) (by simp [Value.oneCell']) (fun l' h=>by rw [Bs] at h;omega) ?_;intro v59 en59 w yS hs;rw [←xt] at yS;obtain ⟨a59,n59,c59,rfl,-⟩:=yS.shape;refine .go (.zw 24 rfl znc ?_);refine .z 25 rfl (zfa iK) ?_;refine .E 26 hs ?_;refine .store hs rfl rfl PF ?_;intro w hs;refine .go (.zw 27 rfl znc ?_);refine .z 28 rfl (zfa iJ) ?_;refine .E 29 hs ?_;refine .store hs rfl rfl mR ?_;intro w hs;exact .go (.D hs (nB (nT (.mk ⟨_,_,en48,en59,rfl,by rw [CC,if_pos (by first|(simp_all;done)|(simp_all;omega))];exact yT,by rw [zD,if_pos (by first|(simp_all;done)|(simp_all;omega))];exact yS,hs.sb⟩))))
     ·refine .buildSlice (cells:=[I (evG l k).off,I (evG l k).seq]) hs dR rfl aF ?_;intro UM w hs;refine .go (.E 12 hs ?_);refine .append (ys:=(evG l k).cm.c) hs cS rfl rfl O8 (.own cg rfl rfl) (by simp [Cmp.c,Value.oneCell']) (fun l' h=>by rw [a7 _ (w7 _),iw] at h;omega) ?_;intro v48 en48 w yT hs;rw [←tw] at yT;obtain ⟨a48,c48,rfl⟩:=yT.jx (w7 _) ak;refine .go (.E 23 hs ?_);refine .append (ys:=[I (evG l k).off,I (evG l k).seq]) hs bP rfl rfl Q3 (.own cg rfl rfl) (by simp [Value.oneCell']) (fun l' h=>by rw [Bs] at h;omega) ?_;intro v59 en59 w yS hs;rw [←xt] at yS;obtain ⟨a59,n59,c59,rfl,-⟩:=yS.shape;refine .go (.zw 24 rfl znc ?_);refine .z 25 rfl (zfa iK) ?_;refine .E 26 hs ?_;refine .store hs rfl rfl PF ?_;intro w hs;refine .go (.zw 27 rfl znc ?_);refine .z 28 rfl (zfa iJ) ?_;refine .E 29 hs ?_;refine .store hs rfl rfl mR ?_;intro w hs;exact .go (.D hs (nB (nT (.mk ⟨_,_,en48,en59,rfl,by rw [CC,if_pos (by first|(simp_all;done)|(simp_all;omega))];exact yT,by rw [zD,if_pos (by first|(simp_all;done)|(simp_all;omega))];exact yS,hs.sb⟩))))
    ·refine .buildSlice (cells:=[I (evG l k).off,I (evG l k).seq]) hs dR rfl aF ?_;intro UM w hs;refine .go (.E 11 hs ?_);refine .buildSlice (cells:=(evG l k).cm.c) hs iD rfl aF ?_;intro aam w hs;refine .go (.E 12 hs ?_);refine .append (ys:=(evG l k).cm.c) hs cS rfl rfl O8 (.own cg rfl rfl) (by simp [Cmp.c,Value.oneCell']) (fun l' h=>by rw [a7 _ (w7 _),iw] at h;omega) ?_;intro v48 en48 w yT hs;rw [←tw] at yT;obtain ⟨a48,c48,rfl⟩:=yT.jx (w7 _) ak;refine .go (.E 23 hs ?_);refine .append (ys:=[I (evG l k).off,I (evG l k).seq]) hs bP rfl rfl Q3 (.own cg rfl rfl) (by simp [Value.oneCell']) (fun l' h=>by rw [Bs] at h;omega) ?_;intro v59 en59 w yS hs;rw [←xt] at yS;obtain ⟨a59,n59,c59,rfl,-⟩:=yS.shape;refine .go (.zw 24 rfl znc ?_);refine .z 25 rfl (zfa iK) ?_;refine .E 26 hs ?_;refine .store hs rfl rfl PF ?_;intro w hs;refine .go (.zw 27 rfl znc ?_);refine .z 28 rfl (zfa iJ) ?_;refine .E 29 hs ?_;refine .store hs rfl rfl mR ?_;intro w hs;exact .go (.D hs (nB (nT (.mk ⟨_,_,en48,en59,rfl,by rw [CC,if_pos (by first|(simp_all;done)|(simp_all;omega))];exact yT,by rw [zD,if_pos (by first|(simp_all;done)|(simp_all;omega))];exact yS,hs.sb⟩))))
   ·exact .skip (nB (nT (.mk ⟨vc,vt,ec,et,rfl,by rw [CC,if_neg (by first|(simp_all;done)|(simp_all;omega))];exact O8,by rw [zD,if_neg (by first|(simp_all;done)|(simp_all;omega))];exact Q3,hs.sb⟩)))
  ·exact .Fs 6 1 true (.zn zpF (.cF (.skip (nB (nT (.mk ⟨vc,vt,ec,et,rfl,by rw [CC,if_neg (by first|(simp_all;done)|(simp_all;omega))];exact O8,by rw [zD,if_neg (by first|(simp_all;done)|(simp_all;omega))];exact Q3,hs.sb⟩))))))
 ·rintro fr w ⟨vc,vt,ec,et,rfl,O8,Q3,hs⟩;rw [AU] at O8;obtain ⟨H2,aN,Ny,hs⟩:=bE.bG (m:=6) O8 (w7 _) ak (by rw [iw];omega) hs .here;replace Ny:RCm H2 vc cs:=Ny;obtain ⟨H2b,Ki,ES,hs⟩:=bE.bG (m:=2) Q3 (Qg _) ak (by rw [List.length_map];omega) hs .here;replace Ny:=Ny.mono Ki;replace aN:=aN.trans Ki;clear Ki;replace hr:=hr.mono aN;refine nT (.af (.o (.call call129 rfl (yA hs) ?_)));rintro _ w ⟨bm,rfl,hs⟩;refine .o (.alloc hs zeroValue270 rfl fun oE w hs=>?_);refine .o (.store hs rfl rfl sizeOf270 fun w hs=>?_);refine .nil (.seq (.af (.z zm (.z zm (.z zm (.z zm (.o (.call call130 rfl (yz hs hr hl hT) ?_))))))));rintro _ w ⟨H3,q1,q2,q3,q4,bA,rfl,sq,hs⟩;rw [hS] at sq;replace hr:=hr.mono bA;replace Ny:=Ny.mono bA;replace ES:=ES.mono bA;refine .nil (.block ?_);refine .rangeFunc (gf:=206) (cap:=[Pt q1,Pt q2,Pt q3,Pt q4]) (xs:=S.map fun x=>[x.agg])
   (σb:=[.blk b9 [Pt wj],.blk wj (shC number 0 ⟨sp0,[],[]⟩ (.slice none 0 0) (.slice none 0 0) (.slice none 0 0) (.slice none 0 0) (.slice none 0 0) false vc vt (.slice none 0 0) (.slice none 0 0)),.nul,.nul,.nul,.obj bm (.map kK.toArray 8),.blk oE [.map (some bm)]]) (σf:=σ)
   ((show St H3 w (.blk b9 [Pt wj]:: .blk wj (shC number 0 ⟨sp0,[],[]⟩ (.slice none 0 0) (.slice none 0 0) (.slice none 0 0) (.slice none 0 0) (.slice none 0 0) false vc vt (.slice none 0 0) (.slice none 0 0)):: .nul:: .nul:: .nul:: .obj bm (.map kK.toArray 8):: .blk oE [.map (some bm)]::σ) from hs.nul.nul.nul.sb)) trivial rfl sq call206 (fun x hx=>by
    simp only [List.mem_map] at hx;obtain ⟨j,_,rfl⟩:=hx;rfl) rfl
   (I:=fun k H' σb=>∃(dn:Value) (edn:Ent) (vd:Value) (evd:Ent) (blk:List Value) (ce:Ent) (D:List Ev) (xs:List Value),σb=[.blk b9 [Pt wj],.blk wj blk,ce,edn,evd,.obj bm (.map kK.toArray 8),.blk oE [.map (some bm)]]∧bE 2 dn (D.map yr).flatten edn∧D.length≤k∧(pU cs fK S→D=S.take k)∧bE 2 vd xs evd∧xs.length≤2*k∧ShM H' number ((S.take k).foldl (eJ cs) fK) vc vt dn vd blk ce) (Ix:=fun _ _ _=>False)
   (fun k _ _ σ g1 ⟨dn,edn,vd,evd,blk,ce,D,xs,g2,g3,g4,g5,g6,g7,g8⟩=>⟨dn,edn,vd,evd,blk,ce,D,xs,g2,g3,g4,g5,g6,g7,g8.mono g1⟩) (fun _ _ _ _ _ h=>h)
   ⟨.slice none 0 0,.nul,.slice none 0 0,.nul,_,.nul,[],[],rfl,.nil 2 none,aU,fun _=>rfl,.nil 2 none,aU,⟨_,_,_,_,_,rfl,fun h=>(by cases h),.nil⟩⟩ ?_ ?_ (fun D c H' σb w _ h _=>h.elim)
  ·rintro ly k hk H5 σb5 σf5 w ib ⟨dn,edn,vd,evd,blk,ce,D,xs,rfl,Ul,VO,hD,VL,AR,hM⟩ hs ⟨rr,LH⟩;have EN:k<S.length:=by simpa using hk
   have hx:=dp (l:=S) (i:=k) EN;have R1:((S.map fun x=>[x.agg])[k]'hk)=[(evG S k).agg]:=by
    rw [List.getElem_map];rw [List.getElem?_eq_getElem EN] at hx;rw [Option.some.inj hx]
   rw [R1];have hE:=bw.at_ hx;have hE1:=fun h:pU cs fK S=>h.at_ hx
   have j8:=fold_succ (cs:=cs) (L:=fK) hx;have hDs:pU cs fK S→D++[evG S k]=S.take (k+1):=fun h=>by rw [hD h,List.take_add_one,hx];rfl
   have hxm:EvM H5 (evG S k):=by
    have s4:evG S k∈kh l number day known l.length:=by
     have h2:=(mX (kh l number day known l.length) (Nat.le_refl _)).mem_iff (a:=evG S k);rw [hS,List.take_length] at h2;exact h2.1 (mM EN)
    have h3:evG S k∈l:=List.mem_of_mem_take (List.mem_filter.1 s4).1;exact (hr.all _ h3).mono ib
   generalize hLk:(S.take k).foldl (eJ cs) fK=Lk at*;obtain ⟨ha,hb,hc,hd,Vj,rfl,hS5,hC5⟩:=hM.ex;refine .region (.o (.alloc hs cz rfl fun lJ w hs=>?_));refine .o (.fy (vs:=[_,_,_,_,_,_,_,_,_,_,_,_,_,_,_,_,_,_,_,_,_,_,_,_,_,_,_,_,_,_,_]) hs rfl rfl aH fun w hs=>?_);refine .nil (nT ⟨H5,.blk lJ (evG S k).c::[.blk b9 [Pt wj],.blk wj (shC number Lk.flag Lk.hu ha hb hc hd Vj Lk.there vc vt dn vd),ce,edn,evd,.obj bm (.map kK.toArray 8),.blk oE [.map (some bm)]],HLe.refl _,hs,?_⟩);rintro w Si - hs;replace hs:St H5 w (.blk lJ (evG S k).c:: .blk b9 [Pt wj]:: .blk wj (shC number Lk.flag Lk.hu ha hb hc hd Vj Lk.there vc vt dn vd)::ce::edn::evd:: .obj bm (.map kK.toArray 8):: .blk oE [.map (some bm)]::Si):=hs;have tX:=fun (ht:Lk.there=true∨(evG S k).kind=1) (w:World) (hs:St H5 w (.blk lJ (evG S k).c:: .blk b9 [Pt wj]:: .blk wj (shC number Lk.flag Lk.hu ha hb hc hd Vj Lk.there vc vt dn vd)::ce::edn::evd:: .obj bm (.map kK.toArray 8):: .blk oE [.map (some bm)]::Si))=>Io ((hs.pick (.there (.there (.there .here)))).pick (.there (.there (.there .here)))) hM hE ht hxm (Ny.mono ib) ak
   rw [←j8] at tX;refine .block (.cut (fun fs w=>∃H6 blk6 ce6 bb,ob fs ⟨113,[],[(89,.bool bb),(9,Pt b9),(13,Pt lJ)]⟩∧(OkE Lk (evG S k)→bb=true)∧HLe H5 H6∧ShM H6 number ((S.take (k+1)).foldl (eJ cs) fK) vc vt dn vd blk6 ce6∧St H6 w (.blk wj blk6::ce6:: .blk lJ (evG S k).c:: .blk b9 [Pt wj]::edn::evd:: .obj bm (.map kK.toArray 8):: .blk oE [.map (some bm)]::Si)) ?_ ?_)
   ·refine .region (.y hs (zld mV) (.z znc (.z (zfa eP) (.y hs (zld lN) (.z zm (.bif (t':=76) rfl (fun Uf=>?_) (fun Uf=>?_)))))))
    ·refine .Fs 3 4 false (.z zpT (.z zm (.T (.y hs (zld isAgg270) (.T (.z (zfa cQ) (.T (.y hs (zld aj) (.T ?_)))))))));obtain ⟨ix,fn,R0,TT,Ut⟩:=tX (by first|exact .inl cW|exact .inr cW) _ hs;refine .q hs (JA rfl rfl fa aJ R0) (.T (.y hs (zld mV) (.T (.y hs (zls [_,_,_,_,_,_,_,_,_,_,_,_,_,_,_,_,_,_,_,_,_,_,_,_,_,_,_,_,_,_,_] bV aH) (.T (.o (.jN (first:=[]) (cap:=[]) rfl rfl TT Ut ?_)))))));rintro _ w ⟨bb,rfl,Ab,H6,blk6,ce6,l7,Un,hs⟩;exact .zn zpT (nT ⟨H6,blk6,ce6,bb,bg,Ab,l7,Un,hs⟩)
    ·refine .T (.z (zfa cQ) (.T (.y hs (zld aj) (.T (.z fW (.z zpF (.z zm (.jK (t':=81) rfl (fun Ue=>?_) (fun Ue=>?_)))))))))
     ·refine .T (.y hs (zld isAgg270) (.T (.z (zfa cQ) (.T (.y hs (zld aj) (.T ?_))))));obtain ⟨ix,fn,R0,TT,Ut⟩:=tX (by first|exact .inl cW|exact .inr cW) _ hs;refine .q hs (JA rfl rfl fa aJ R0) (.T (.y hs (zld mV) (.T (.y hs (zls [_,_,_,_,_,_,_,_,_,_,_,_,_,_,_,_,_,_,_,_,_,_,_,_,_,_,_,_,_,_,_] bV aH) (.T (.o (.jN (first:=[]) (cap:=[]) rfl rfl TT Ut ?_)))))));rintro _ w ⟨bb,rfl,Ab,H6,blk6,ce6,l7,Un,hs⟩;exact .zn zpT (nT ⟨H6,blk6,ce6,bb,bg,Ab,l7,Un,hs⟩)
     ·refine .Fs 7 9 true (.zn zpF ?_);have hV:VdE Lk (evG S k):= .early (by simpa using Uf) Ue;exact nT ⟨H5,_,ce,false,bg,fun h=>(h.Zc hV).elim,HLe.refl _,by rw [j8,hV.app];exact ⟨ha,hb,hc,hd,Vj,rfl,hS5,hC5⟩,(hs.pick (.there (.there (.there .here)))).pick (.there (.there (.there .here)))⟩
   ·rintro fs w ⟨H6,blk6,ce6,bb,j8,Ab,l7,Un,hs⟩;refine WE.sub ?_ j8;clear j8;obtain ⟨a6,b6,c6,d6,vc6,rfl,ZZ,aae⟩:=Un.ex;obtain ⟨edx,exn,exc,rfl,-⟩:=Ul.shape;obtain ⟨evx,evn,evc',rfl,-⟩:=VL.shape;refine (.cond rfl (fun FC=>?_) (fun FC=>?_))
    ·refine .draw mix rfl hs fun w hs=>?_
     refine .y 0 rfl hs mV ?_;refine .y 1 rfl hs mV ?_;refine .z 2 rfl znc ?_;refine .z 3 rfl (zfa mK) ?_;refine .y 4 rfl hs N8 ?_;refine .z 5 rfl (zfa bM) ?_;refine .ys 6 rfl hs [_,_] cj bk ?_;refine .E 7 hs ?_;refine .buildSlice (cells:=[I (evG S k).off,I (evG S k).seq]) hs dR rfl aF ?_;intro b97 w hs;refine .go (.E 8 hs ?_);refine .append (ys:=[I (evG S k).off,I (evG S k).seq]) hs bP rfl rfl Ul (.own cg rfl rfl) (by simp [Value.oneCell']) (fun l' h=>by rw [Bs] at h;omega) ?_;intro v98 en98 w Q5 hs;rw [←xt] at Q5;obtain ⟨a98,n98,c98,rfl,-⟩:=Q5.shape;refine .go (.zw 9 rfl znc ?_);refine .z 10 rfl (zfa mK) ?_;refine .E 11 hs ?_;refine .store hs rfl rfl mR ?_;intro w hs;exact .go (.D hs (nB ⟨H6,_,l7,(hs.sb:St H6 w (.blk b9 _:: .blk wj _::ce6::en98::evd:: .obj bm _:: .blk oE _::Si)),⟨_,en98,_,evd,_,ce6,D++[evG S k],xs,rfl,Q5,by simp;omega,hDs,VL,ak,⟨a6,b6,c6,d6,vc6,rfl,ZZ,aae⟩⟩⟩))
    ·refine .draw mix rfl hs fun w hs=>?_
     refine .y 0 rfl hs mV ?_;refine .y 1 rfl hs mV ?_;refine .z 2 rfl znc ?_;refine .z 3 rfl (zfa qT) ?_;refine .y 4 rfl hs N8 ?_;refine .z 5 rfl (zfa bM) ?_;refine .ys 6 rfl hs [_,_] cj bk ?_;refine .E 7 hs ?_;refine .buildSlice (cells:=[I (evG S k).off,I (evG S k).seq]) hs dR rfl aF ?_;intro b108 w hs;refine .go (.E 8 hs ?_);refine .append (ys:=[I (evG S k).off,I (evG S k).seq]) hs bP rfl rfl VL (.own cg rfl rfl) (by simp [Value.oneCell']) (fun l' h=>by omega) ?_;intro v109 en109 w Pa hs;obtain ⟨a109,n109,c109,rfl,-⟩:=Pa.shape;refine .go (.zw 9 rfl znc ?_);refine .z 10 rfl (zfa qT) ?_;refine .E 11 hs ?_;refine .store hs rfl rfl mR ?_;intro w hs;exact .go (.D hs (nB ⟨H6,_,l7,(hs.sb:St H6 w (.blk b9 _:: .blk wj _::ce6::edn::en109:: .obj bm _:: .blk oE _::Si)),⟨_,edn,_,en109,_,ce6,D,_,rfl,Ul,ak,fun h=>(by rw [Ab (hE1 h)] at FC;cases FC),Pa,by simp;omega,⟨a6,b6,c6,d6,vc6,rfl,ZZ,aae⟩⟩⟩))
  ·rintro dfr H7 σb7 w HU ⟨dn,edn,vd,evd,blk,ce,D,xs7,rfl,Ul,VO,hD,VL,AR,hM⟩ hs;rw [List.length_map,List.take_length] at hM;rw [List.length_map] at VO;replace hD:pU cs fK S→D=S:=fun h=>by rw [hD h,List.length_map,List.take_length]
   obtain ⟨H8,HT,R8,hs⟩:=bE.bG (m:=2) Ul (Qg _) ak (by rw [List.length_map];omega) hs (.there (.there (.there (.there .here))));exact nB (nT (.af (.y hs (zld mV) (.zn zg (.ret (Fin.ki [dfr] [] hs fun w hs=>⟨_,results1 results72 rfl,H8,wj,blk,ce,vc,vt,dn,vd,az.trans (aN.trans (bA.trans (HU.trans HT))),rfl,hM.mono HT,ES.mono (HU.trans HT),⟨D,R8,hD,VO⟩,hs.sb⟩))))))
theorem lT{w:World}{v:Value}{l S:List Ev}{cs:List Cmp}(hs:St H w σ)(hr:REv H v l)(hA:vF l S cs number day known)(hn:1≤number∧number≤999)(hd:0≤day∧day≤100000)(hk:0≤known∧known≤100000):
  aaq 44 [v,I number,I day,I known] w fun u w'=>∃H1,HLe H H1∧(((S.foldl (eJ cs) fK).there=false∧u= .tuple #[.pointer none,I 52]∧St H1 w' σ)∨
   ((S.foldl (eJ cs) fK).there=true∧∃b blk ce cmp tap dn vd,u= .tuple #[Pt b,I 0]∧ShM H1 number (S.foldl (eJ cs) fK) cmp tap dn vd blk ce∧RS H1 2 tap ((vL l known l.length).map yr)∧(∃D,RS H1 2 dn (D.map yr)∧(pU cs fK S→D=S)∧D.length≤S.length)∧St H1 w' (.blk b blk::ce::σ))):=by
 obtain ⟨a,c,rfl⟩:=hr.shape;refine Cl.o func44 ntmps44 ag4 ?_;refine .af (.z zg (.zn zg (.seq (.af (.z zm (.z zm (.z zm (.z zm (.o (.buildSlice (cells:=Is [day,known]) hs dX rfl aF fun vC w hs=>?_))))))))));obtain ⟨H1,az,hR,hs⟩:=bE.bX (bE.full (len:=2) rfl) aU hs .here;refine .o (.call call70 rfl (lU hs (hr.mono az) hA.hist hn hR (fun d h=>by simp at h;omega)) ?_);rintro _ w ⟨rfl,H2,aN,hs⟩;refine .zn zg (.af (.z zm (.z gv ?_)));rw [decide_eq_true rfl];refine .nil (.cF (.skip (nT (.af (.z zm (.z zm (.z zm (.z zm (.o (.call call72 rfl (jB hs (hr.mono (az.trans aN)) hA.hist hA.few hA.sorted hA.cmps hA.ok) ?_))))))))));rintro _ w ⟨H3,b,blk,ce,cmp,tap,dn,vd,bA,rfl,hM,ES,R8,hs⟩;obtain ⟨a',b',c',d',vc,rfl,hS,hC⟩:=hM.ex;refine .zn zg (.seq (.af (.z zm (.z znc (.z (zfa eP) (.y hs (zld lN) (.zn fF (.cond rfl (fun rU=>?_) (fun rU=>?_)))))))))
 ·exact .af (.z zg (.zn zg (.ret (rT (Fin.mh results44 rfl rfl ⟨H3,az.trans (aN.trans bA),.inl ⟨by simpa using rU,rfl,hs.out⟩⟩)))))
 ·exact .skip (nT (.af (.z zm (.z zg (.zn zg (.ret (Fin.mh results44 rfl rfl ⟨H3,az.trans (aN.trans bA),.inr ⟨by simpa using rU,b,_,ce,cmp,tap,dn,vd,rfl,⟨a',b',c',d',vc,rfl,hS,hC⟩,ES,R8,hs.out⟩⟩)))))))
set_option maxHeartbeats 4000000 in
theorem py{w:World}{v:Value}{l S:List Ev}{cs:List Cmp}(hs:St H w σ)(hr:REv H v l)(hA:vF l S cs number day known)(hn:1≤number∧number≤999)(hd:0≤day∧day≤100000)(hk:0≤known∧known≤100000)(ht:(S.foldl (eJ cs) fK).there=true):
  aaq 29 [v,I number,I day,I known] w fun u w'=>∃H1 a b c d vc,HLe H H1∧u= .tuple #[.agg #[I number,I (S.foldl (eJ cs) fK).flag,I (S.foldl (eJ cs) fK).hu.sp.id,I (S.foldl (eJ cs) fK).hu.sp.src,a,b,I (S.foldl (eJ cs) fK).hu.sp.al,I (S.foldl (eJ cs) fK).hu.sp.up,c,d,vc],I 0]∧
   SvM H1 (S.foldl (eJ cs) fK).hu a b c d∧EB H1 (S.foldl (eJ cs) fK).cells vc∧St H1 w' σ:=by
 refine Cl.o func29 ntmps29 ag4 ?_;refine .af (.o (.alloc hs og rfl fun b8 w hs=>?_));refine .zn zg (.af (.z zm (.z zm (.z zm (.z zm (.o (.call call44 rfl (lT hs hr hA hn hd hk) ?_)))))));rintro _ w ⟨H1,az,hq⟩;obtain ⟨-,b,blk,ce,cmp,tap,dn,vd,rfl,hM,-,-,hs⟩:=hq.resolve_left fun h=>by rw [ht] at h;cases h.1
 generalize S.foldl (eJ cs) fK=L at*;obtain ⟨a',b',c',d',vc,rfl,hS,hC⟩:=hM.ex;have uS:=hS ht;obtain ⟨xa,ya,rfl⟩:=RI.shape uS.st;obtain ⟨xb,yb,rfl⟩:=RI.shape uS.wa;obtain ⟨xc,yc,rfl⟩:=RRd.shape uS.rd;obtain ⟨xd,yd,rfl⟩:=RCm.shape uS.cm;obtain ⟨xe,ne,ye,rfl⟩:=hC.shape;refine .z zm (.z zex (.z zex (.z zg (.zn zg (.seq (.af (.z zm (.z gv ?_))))))));rw [decide_eq_true rfl];refine .nil (.cF (.skip (nT (.af (.z zm (.z znc (.z (zfa cO) (.y hs (zls [_,_,_,_,_,_,_,_,_,_,_] isAgg107 kO) (.o (.aL (vs:=[_,_,_,_,_,_,_,_,_,_,_]) hs rfl rfl kO fun w hs=>?_))))))))));refine .zn zg (.ret ?_);exact Fin.ki [] [] hs fun w hs=>by
  obtain ⟨H2,aN,hCR,hs⟩:=hC.bG (σ:=_) ((hs.pick (x:=ce) cg));exact ⟨_,results2 results29 (dK (vs:=[_,_,_,_,_,_,_,_,_,_,_]) hs rfl isAgg107 kO) rfl,H2,_,_,_,_,_,az.trans aN,rfl,uS.mono aN,hCR,hs.sb⟩
set_option maxHeartbeats 4000000 in
theorem zX{w:World}{n:Int}{s u:Srv}{r:Rm}{a b c:Value}(hs:St H w σ)(hC:EB H [(r,u)] vc)(bw:iE u)(GA:u.sys.Sound):
  aaq 143 [.agg #[I n,I fl,I s.sp.id,I s.sp.src,a,b,I s.sp.al,I s.sp.up,c,d,vc]] w fun v w'=>∃H1 q k lo hi,HLe H H1∧v= .tuple #[.slice q 1 k,I 0]∧RS H1 6 (.slice q 1 k) [[I r.id,I r.kind,I r.opn,I r.crew,I lo,I hi]]∧ID u ⟨1,0,(u.sp.wa.length:Int) - 1⟩ lo hi 0∧St H1 w' σ:=by
 cases hC with
 | @one _ _ a2 b2 c2 d2 bc cap g hR=>
  obtain ⟨xa,ya,rfl⟩:=RI.shape g.st;obtain ⟨xb,yb,rfl⟩:=RI.shape g.wa;obtain ⟨xc,yc,rfl⟩:=RRd.shape g.rd;obtain ⟨xd,yd,rfl⟩:=RCm.shape g.cm;have hw2:=bw.early.1.wa.two;have hwm:=bw.early.1.wa.many;have hq:iy u.sp ⟨1,0,(u.sp.wa.length:Int) - 1⟩:= .litres rfl rfl ⟨by dsimp only;omega,by dsimp only;omega⟩ (by dsimp only;omega);refine Cl.o func143 ntmps143 ag1 ?_;refine .af (.bx hs fun b1 w hs=>?_);refine .z zg (.zn zg (.af (.zn zg (.seq (.af (.z (zfa eQ) (.y hs (zld PL) (.z (bT cJ) (.zn zm (.for (N:=1) (J:=fun k fr w=>∃H1 v en,fr=[(10,.slice (some ⟨bc,0,none⟩) 1 cap),(4,v)]∧HLe H H1∧(k=0→v= .slice none 0 0∧en= .nul)∧(k=1→∃lo hi,ID u ⟨1,0,(u.sp.wa.length:Int) - 1⟩ lo hi 0∧bE 6 v [[I r.id,I r.kind,I r.opn,I r.crew,I lo,I hi]].flatten en)∧St H1 w (en::σ)) ak ?_ ?_ ?_))))))))))
  ·exact .mk ⟨H,_,.nul,rfl,HLe.refl _,fun _=>⟨rfl,rfl⟩,fun h=>by omega,hs.nul.sb⟩
  ·rintro k fr w hk ⟨H1,v,en,rfl,az,h0,-,hs⟩;obtain rfl:k=0:=by omega
   obtain ⟨rfl,rfl⟩:=h0 rfl;replace g:=g.mono az;refine .block (.af (.ixX (enc:=id) (xs:=[ceC r u (.slice xa u.sp.st.length ya) (.slice xb u.sp.wa.length yb) (.slice xc u.rs.length yc) (.slice xd u.cs.length yd)]) (k:=0) (x':=ceC r u (.slice xa u.sp.st.length ya) (.slice xb u.sp.wa.length yb) (.slice xc u.rs.length yc) (.slice xd u.cs.length yd)) hs (by simpa using hR.mono az) rfl rfl cJ me rfl rfl ?_));intro tZ o14 fq;refine .q hs (bj (vs:=ceC r u (.slice xa u.sp.st.length ya) (.slice xb u.sp.wa.length yb) (.slice xc u.rs.length yc) (.slice xd u.cs.length yd)) rfl isAgg280 me fq) (.o (.alloc hs zeroValue280 rfl fun b6 w hs=>?_));refine .o (.aL (vs:=[_,_,_,_,_,_,_,_,_,_,_,_,_,_]) hs rfl rfl me fun w hs=>?_);refine .nil (.af (.z (zfa nU) (.y hs (zls [_,_,_,_,_,_,_,_] df bu) (.z (zfa nU) (.z (zfa bq) (.z (zfa aV) (.y hs (zld aC) (.z (bT ai) (.z jj (.z (zbd [_,_,_] wh) (.o (.call call215 rfl (sQ (s:=u) (q:=⟨1,0,(u.sp.wa.length:Int) - 1⟩) hs g.st g.wa g.rd g.cm) ?_))))))))))));rintro _ w ⟨H2,lo,hi,e,aN,rfl,hQ,hs⟩;obtain rfl:=(Jw hQ bw hq).1 GA;refine .z zm (.z zex (.z zex (.o (.alloc hs qJ rfl fun b7 w hs=>?_))));refine .o (.aL (vs:=[_,_]) hs rfl rfl cD fun w hs=>?_);refine .zn zg (.seq (.af (.z zm (.z gv ?_))));rw [decide_eq_true rfl];refine .nil (.cF (.skip (nT (.af (.y hs (zls [_,_] om cD) (.z (zfa nV) (.z (zfa gp) (.o (.aL (vs:=[_,_]) hs rfl rfl cD fun w hs=>?_)))))))));refine .nil (.region (.z zm (.z (zfa nV) (.y hs (zls [_,_,_,_,_,_] Y6 jO) (.o (.buildSlice (cells:=[I r.id,I r.kind,I r.opn,I r.crew,I lo,I hi]) hs vu rfl aF fun b38 w hs=>?_))))));refine .o (.append (xs:=[]) (ys:=[I r.id,I r.kind,I r.opn,I r.crew,I lo,I hi]) hs.nul nA rfl rfl (.nil 6 none) (.own (.there .here) rfl rfl) (by simp [Value.oneCell']) (fun l' h=>by simp at h;omega) ?_);intro v39 en39 w hO hs;exact .zn zg (nB (nT (.mk ⟨H2,_,en39,rfl,az.trans aN,fun h=>by omega,fun _=>⟨lo,hi,hQ,hO⟩,hs.sb⟩)))
  ·rintro fr w ⟨H1,v,en,rfl,az,-,h1,hs⟩;obtain ⟨lo,hi,hQ,hO⟩:=h1 rfl;obtain ⟨H2,aN,zE,hs⟩:=bE.bG (m:=6) hO (fun x hx=>by rw [List.mem_singleton] at hx;rw [hx];rfl) ak aU hs .here;obtain ⟨q,k,rfl⟩:=zE.shape;exact nT (.af (.z zm (.z zg (.zn zg (.ret (Fin.mh results143 rfl rfl ⟨H2,q,k,lo,hi,az.trans aN,rfl,zE,hQ,hs.out⟩))))))
theorem Rf(x:Ev):evG [x] 0=x:=rfl
theorem GC{x:Ev}(h:oH x)(hk:x.kind=1):ub [x]:=
 ⟨fun y hy=>by rw [List.mem_singleton] at hy;rw [hy];exact h,fun i hi=>by simp at hi,aU,by simp [lh,Rf,hk]⟩
theorem G3{x:Ev}(h:oH x)(hk:x.kind=1){day known:Int}(h1:x.day≤day)(h2:x.known≤known):vF [x] [x] [] x.ship day known:=by
 have hT:kh [x] x.ship day known [x].length=[x]:=by simp [kh,h1,h2,hk]
 refine ⟨GC h hk,by rw [hT];simp,by rw [hT];rfl,by simp [lF,vL,hk],?_,trivial⟩;exact .inl (.build (h.build hk) rfl rfl)
theorem Eu{x:Ev}(h:oH x)(hk:x.kind=1){day known:Int}(h1:¬(x.known≤known∧x.day≤day)):vF [x] [] [] x.ship day known:=by
 have hT:kh [x] x.ship day known [x].length=[]:=by
  simp only [kh,List.length_singleton,List.take_succ_cons,List.take_zero];rw [List.filter_cons_of_neg (by simp [hk];omega)];rfl
 exact ⟨GC h hk,by rw [hT];simp,by rw [hT];rfl,by simp [lF,vL,hk],trivial⟩
theorem Dm{x:Ev}(hk:x.kind=1):([x].foldl (eJ []) fK).there=true:=by simp [eJ,hk]
theorem zS{w:World}{v:Value}{x:Ev}(hs:St H w σ)(hr:REv H v [x])(hk:x.kind=1):
  aaq 71 [v] w fun u w'=>∃H1 a c,HLe H H1∧u= .slice a 1 c∧RI H1 u [x.ship]∧St H1 w' σ:=by
 obtain ⟨a,c,rfl⟩:=hr.shape;refine Cl.o func71 ntmps71 ag1 ?_;refine .af (.zn zg (.af (.zn zg (.seq (.af (.z zm (.z (bT aD) (.zn zm (.for (N:=1) (J:=fun k fr w=>∃v en,fr=[(6,.slice a 1 c),(3,v)]∧(k=0→v= .slice none 0 0∧en= .nul)∧(k=1→bE 1 v (Is [x.ship]) en)∧St H w (en::σ)) ak ?_ ?_ ?_)))))))))
 ·exact .mk ⟨_,.nul,rfl,fun _=>⟨rfl,rfl⟩,fun h=>by omega,hs.nul⟩
 ·rintro k fr w EO ⟨v,en,rfl,h0,-,hs⟩;obtain rfl:k=0:=by omega
  obtain ⟨rfl,rfl⟩:=h0 rfl;refine .block (.af (.ixX (enc:=Ev.c) (xs:=[x]) (k:=0) (x':=x) hs hr.rs rfl rfl aD aH rfl rfl ?_));intro jr o10 wQ;refine .q hs (bj (vs:=x.c) rfl bV aH wQ) (.o (.alloc hs cz rfl fun b5 w hs=>?_));refine .o (.fy (vs:=[_,_,_,_,_,_,_,_,_,_,_,_,_,_,_,_,_,_,_,_,_,_,_,_,_,_,_,_,_,_,_]) hs rfl rfl aH fun w hs=>?_);refine .nil (.af (.z (zfa cQ) (.y hs (zld aj) (.z gv ?_))));rw [decide_eq_false ak];refine .nil (.cT (.region (.z zm (.z (zfa fE) (.y hs (zld aj) (.o (.buildSlice (cells:=Is [x.ship]) hs bO rfl aF fun vB w hs=>?_)))))));refine .o (.append (xs:=[]) (ys:=Is [x.ship]) hs.nul bJ rfl rfl (.nil 1 none) (.own (.there .here) rfl rfl) (by simp [Is,Value.oneCell']) (fun l' h=>by simp at h;omega) ?_);intro v19 en19 w hO hs;exact .zn zg (nB (nT (.mk ⟨_,en19,rfl,fun h=>by omega,fun _=>hO,hs.sb⟩)))
 ·rintro fr w ⟨v,en,rfl,-,h1,hs⟩;have hO:=h1 rfl;refine nT (.af (.z zm (.o (.call call126 rfl (qP hs hO aU) ?_))));rintro _ w ⟨en2,rfl,gM,hs⟩;rw [show ([x.ship].mergeSort fun a b=>decide (a≤b))=[x.ship] by simp] at gM;refine .nil (.af (.z zm (.o (.call call127 rfl (mZ hs gM aU) ?_))));rintro v24 w ⟨en3,lq,hs⟩;rw [show Go.Lib.compact [x.ship]=[x.ship] from rfl] at lq;obtain ⟨H1,az,hR,hs⟩:=bE.bX lq aU hs .here;obtain ⟨a3,c3,rfl⟩:=RI.shape hR;exact .zn zg (.ret (Fin.aW results71 rfl ⟨H1,a3,c3,az,rfl,hR,hs.out⟩))
theorem wK{w:World}{v:Value}{x:Ev}(hs:St H w σ)(hr:REv H v [x]):
  aaq 73 [v,I x.ship] w fun u w'=>∃H1 a c,HLe H H1∧u= .slice a 1 c∧RI H1 u [x.day]∧St H1 w' σ:=by
 obtain ⟨a,c,rfl⟩:=hr.shape;refine Cl.o func73 ntmps73 ag2 ?_;refine .af (.zn zg (.af (.zn zg (.seq (.af (.z zm (.z (bT aD) (.zn zm (.for (N:=1) (J:=fun k fr w=>∃v en,fr=[(8,.slice a 1 c),(5,v),(1,I x.ship)]∧(k=0→v= .slice none 0 0∧en= .nul)∧(k=1→bE 1 v (Is [x.day]) en)∧St H w (en::σ)) ak ?_ ?_ ?_)))))))))
 ·exact .mk ⟨_,.nul,rfl,fun _=>⟨rfl,rfl⟩,fun h=>by omega,hs.nul⟩
 ·rintro k fr w EO ⟨v,en,rfl,h0,-,hs⟩;obtain rfl:k=0:=by omega
  obtain ⟨rfl,rfl⟩:=h0 rfl;refine .block (.af (.ixX (enc:=Ev.c) (xs:=[x]) (k:=0) (x':=x) hs hr.rs rfl rfl aD aH rfl rfl ?_));intro oE o12 kD;refine .q hs (bj (vs:=x.c) rfl bV aH kD) (.o (.alloc hs cz rfl fun b7 w hs=>?_));refine .o (.fy (vs:=[_,_,_,_,_,_,_,_,_,_,_,_,_,_,_,_,_,_,_,_,_,_,_,_,_,_,_,_,_,_,_]) hs rfl rfl aH fun w hs=>?_);refine .nil (.af (.z (zfa fE) (.y hs (zld aj) (.z zm (.z fW ?_)))));rw [decide_eq_true rfl];refine .nil (.cT (.region (.z zm (.z (zfa ep) (.y hs (zld aj) (.o (.buildSlice (cells:=Is [x.day]) hs bO rfl aF fun aao w hs=>?_)))))));refine .o (.append (xs:=[]) (ys:=Is [x.day]) hs.nul bJ rfl rfl (.nil 1 none) (.own (.there .here) rfl rfl) (by simp [Is,Value.oneCell']) (fun l' h=>by simp at h;omega) ?_);intro v22 en22 w hO hs;exact .zn zg (nB (nT (.mk ⟨_,en22,rfl,fun h=>by omega,fun _=>hO,hs.sb⟩)))
 ·rintro fr w ⟨v,en,rfl,-,h1,hs⟩;have hO:=h1 rfl;refine nT (.af (.z zm (.o (.call call126 rfl (qP hs hO aU) ?_))));rintro _ w ⟨en2,rfl,gM,hs⟩;rw [show ([x.day].mergeSort fun a b=>decide (a≤b))=[x.day] by simp] at gM;refine .nil (.af (.z zm (.o (.call call127 rfl (mZ hs gM aU) ?_))));rintro v27 w ⟨en3,lq,hs⟩;rw [show Go.Lib.compact [x.day]=[x.day] from rfl] at lq;obtain ⟨H1,az,hR,hs⟩:=bE.bX lq aU hs .here;obtain ⟨a3,c3,rfl⟩:=RI.shape hR;exact .zn zg (.ret (Fin.aW results73 rfl ⟨H1,a3,c3,az,rfl,hR,hs.out⟩))
theorem Du{w:World}{p q:Nat}{n g:Int}{s t:Srv}{a b c cm tp a' c' d' vc' cm' tp' dn' vd':Value}(hs:St H w σ)(h1:Mem σ (.blk p (shC n f s a b c d vc false cm tp dn vd)))(h2:Mem σ (.blk q (shC m g t a' b' c' d' vc' true cm' tp' dn' vd'))):
  aaq 74 [Pt p,Pt q] w fun u w'=>u= .bool false∧St H w' σ:=by
 refine Cl.o func74 ntmps74 ag2 ?_;refine .af (.zn zg (.seq (.af (.z zm (.z znc (.z (zfa eP) (.q hs (eM rfl lN (hm:=h1) (hv:=rfl)) (.z fF (.z zm (.Fs 5 5 false (.zn zpT (.cT (.seq (.draw mix rfl hs fun w hs=>?_))))))))))))));refine .zw 0 rfl zm ?_;refine .z 1 rfl znc ?_;refine .z 2 rfl (zfa eP) ?_;refine .load (i:=3) hs rfl aF .none rfl lN ?_ h1 rfl;refine .zw 4 rfl zm ?_;refine .z 5 rfl znc ?_;refine .z 6 rfl (zfa eP) ?_;refine .load (i:=7) hs rfl aF .none rfl lN ?_ h2 rfl;exact .zw 8 rfl (Wd rfl rfl runUnderlying4) (.zw 9 rfl zg (.DT hs (.ret (rT (Fin.aW results74 rfl ⟨rfl,hs.out⟩)))))
set_option maxHeartbeats 4000000 in
theorem zW{w:World}{v:Value}{x:Ev}(hs:St H w σ)(hr:REv H v [x])(hg:oH x)(hk:x.kind=1)(h1:x.day≤day)(h2:x.known≤known)(hd:0≤day∧day≤100000)(Nc:0≤known∧known≤100000):
  aaq 27 [v,I day,I known] w fun u w'=>∃H1 a c,HLe H H1∧u= .tuple #[.slice a 1 c,I 0]∧RI H1 (.slice a 1 c) [x.ship]∧St H1 w' σ:=by
 obtain ⟨a,c,rfl⟩:=hr.shape;have hA:=G3 hg hk h1 h2;refine Cl.o func27 ntmps27 ag3 ?_;refine .af (.z zg (.zn zg (.seq (.af (.z zm (.z zm (.z zm (.o (.buildSlice (cells:=Is [day,known]) hs dX rfl aF fun Ll w hs=>?_)))))))));obtain ⟨H1,az,hR,hs⟩:=bE.bX (bE.full (len:=2) rfl) aU hs .here;refine .o (.call call70 rfl (lU hs (hr.mono az) hA.hist ak hR (fun d h=>by simp at h;omega)) ?_);rintro _ w ⟨rfl,H2,aN,hs⟩;have eI:=az.trans aN;refine .zn zg (.af (.z zm (.z gv ?_)));rw [decide_eq_true rfl];refine .nil (.cF (.skip (nT (.af (.zn zg (.seq (.af (.z zm (.o (.call call71 rfl (zS hs (hr.mono eI) hk) ?_))))))))));rintro _ w ⟨H3,a3,c3,bA,rfl,IZ,hs⟩;have jm:=eI.trans bA;refine .z (bT ai) (.zn zm (.for (N:=1) (J:=fun k fr w=>∃H4 v en,fr=[(21,.slice a3 1 c3),(9,v),(0,.slice a 1 c),(1,I day),(2,I known)]∧HLe H3 H4∧(k=0→v= .slice none 0 0∧en= .nul)∧(k=1→bE 1 v (Is [x.ship]) en)∧St H4 w (en::σ)) ak ?_ ?_ ?_))
 ·exact .mk ⟨H3,_,.nul,rfl,HLe.refl _,fun _=>⟨rfl,rfl⟩,fun h=>by omega,hs.nul.sb⟩
 ·rintro k fr w EO ⟨H4,v,en,rfl,gz,h0,-,hs⟩;obtain rfl:k=0:=by omega
  obtain ⟨rfl,rfl⟩:=h0 rfl;refine .block (.af (.ixX (enc:=fun x=>[I x]) (xs:=[x.ship]) (k:=0) (x':=x.ship) hs (IZ.mono gz) rfl rfl ai an rfl rfl ?_));intro Lj o25 jq;replace jq:=bI.one jq;refine .y hs (zld aj) (.zn zg (.af (.z zm (.z zm (.z zm (.z zm (.o (.call call72 rfl (jB hs (hr.mono (jm.trans gz)) hA.hist hA.few hA.sorted hA.cmps hA.ok) ?_))))))));rintro _ w ⟨H5,b,blk,ce,cmp,tap,dn,vd,ib,rfl,hM,-,-,hs⟩;have ht:=Dm (x:=x) hk;generalize [x].foldl (eJ []) fK=L at*;obtain ⟨a',b',c',d',vc,rfl,hS,hC⟩:=hM.ex;rw [ht] at hs;refine .z znc (.z (zfa eP) (.y hs (zld lN) (.nil (.cT (.region (.z zm (.z zm (.o (.buildSlice (cells:=Is [x.ship]) hs bO rfl aF fun VU w hs=>?_)))))))));refine .o (.append (xs:=[]) (ys:=Is [x.ship]) hs.nul bJ rfl rfl (.nil 1 none) (.own (.there .here) rfl rfl) (by simp [Is,Value.oneCell']) (fun l' h=>by simp at h;omega) ?_);intro v38 en38 w hO hs;exact .zn zg (nB (nT (.mk ⟨H5,_,en38,rfl,gz.trans ib,fun h=>by omega,fun _=>hO,hs.sb⟩)))
 ·rintro fr w ⟨H4,v,en,rfl,gz,-,h1,hs⟩;obtain ⟨H5,ib,Z2,hs⟩:=bE.bX (h1 rfl) aU hs .here;obtain ⟨a5,c5,rfl⟩:=RI.shape Z2;exact nT (.af (.z zm (.z zg (.zn zg (.ret (Fin.mh results27 rfl rfl ⟨H5,a5,c5,jm.trans (gz.trans ib),rfl,Z2,hs.out⟩))))))
set_option maxHeartbeats 4000000 in
theorem BH{w:World}{v:Value}{x:Ev}(hs:St H w σ)(hr:REv H v [x])(hg:oH x)(hk:x.kind=1)(h2:x.known≤known)(Nc:0≤known∧known≤100000):
  aaq 28 [v,I x.ship,I known] w fun u w'=>∃H1 a c,HLe H H1∧u= .tuple #[.slice a 1 c,I 0]∧RI H1 (.slice a 1 c) [x.day]∧St H1 w' σ:=by
 obtain ⟨a,c,rfl⟩:=hr.shape;have hA:=G3 hg hk (Int.le_refl x.day) h2;have VA:=hg.day;have hN:=Eu hg hk (day:= -1) (known:=known) ak;refine Cl.o func28 ntmps28 ag3 ?_;refine .af (.z zg (.zn zg (.seq (.af (.z zm (.z zm (.z zm (.o (.buildSlice (cells:=Is [known]) hs bO rfl aF fun wj w hs=>?_)))))))));obtain ⟨H1,az,hR,hs⟩:=bE.bX (bE.full (len:=1) rfl) aU hs .here;refine .o (.call call70 rfl (lU hs (hr.mono az) hA.hist hg.ship hR (fun d h=>by simp at h;omega)) ?_);rintro _ w ⟨rfl,H2,aN,hs⟩;have eI:=az.trans aN;refine .zn zg (.af (.z zm (.z gv ?_)));rw [decide_eq_true rfl];refine .nil (.cF (.skip (nT (.af (.zn zg (.af (.z zm (.z zm (.z zm (.o (.call call72 rfl (jB hs (hr.mono eI) hN.hist hN.few hN.sorted hN.cmps hN.ok) ?_)))))))))));rintro _ w ⟨H3,b1,blk,ce1,cmp,tap,dn,vd,bA,rfl,hM1,-,-,hs⟩;obtain ⟨a1,b1',c1,d1,vc1,rfl,-,-⟩:=hM1.ex;replace hs:St H3 w (.blk b1 (shC x.ship 0 fK.hu a1 b1' c1 d1 vc1 false cmp tap dn vd)::ce1::σ):=hs;have jm:=eI.trans bA;refine .zn zg (.seq (.af (.z zm (.z zm (.o (.call call73 rfl (wK hs (hr.mono jm)) ?_))))));rintro _ w ⟨H4,a4,c4,gz,rfl,Yc,hs⟩;have vU:=jm.trans gz;refine .z (bT ai) (.zn zm (.for (N:=1) (J:=fun k fr w=>∃H5 v en p,fr=[(28,.slice a4 1 c4),(10,Pt p),(9,v),(0,.slice a 1 c),(1,I x.ship),(2,I known)]∧HLe H4 H5∧(k=0→v= .slice none 0 0∧en= .nul∧p=b1)∧(k=1→bE 1 v (Is [x.day]) en)∧St H5 w (en:: .blk b1 (shC x.ship 0 fK.hu a1 b1' c1 d1 vc1 false cmp tap dn vd)::ce1::σ)) ak ?_ ?_ ?_))
 ·exact .mk ⟨H4,_,.nul,b1,rfl,HLe.refl _,fun _=>⟨rfl,rfl,rfl⟩,fun h=>by omega,hs.nul.sb⟩
 ·rintro k fr w EO ⟨H5,v,en,p,rfl,ib,h0,-,hs⟩;obtain rfl:k=0:=by omega
  obtain ⟨rfl,rfl,rfl⟩:=h0 rfl;refine .block (.af (.ixX (enc:=fun x=>[I x]) (xs:=[x.day]) (k:=0) (x':=x.day) hs (Yc.mono ib) rfl rfl ai an rfl rfl ?_));intro Se o32 DZ;replace DZ:=bI.one DZ;refine .y hs (zld aj) (.zn zg (.af (.z zm (.z zm (.z zm (.z zm (.o (.call call72 rfl (jB hs (hr.mono (vU.trans ib)) hA.hist hA.few hA.sorted hA.cmps hA.ok) ?_))))))));rintro _ w ⟨H6,b2,blk2,ce2,cmp2,tap2,dn2,vd2,l7,rfl,hM2,-,-,hs⟩;have ht:=Dm (x:=x) hk;generalize [x].foldl (eJ []) fK=L at*;obtain ⟨a2,b2',c2,d2,vc2,rfl,-,-⟩:=hM2.ex;rw [ht] at hs;refine .zn zg (.seq (.af (.z zm (.z zm (.o (.call call74 rfl (Du hs cg .here) ?_))))));rintro _ w ⟨rfl,hs⟩;refine .zn fF (.cT (.region (.z zm (.z zm (.o (.buildSlice (cells:=Is [x.day]) hs bO rfl aF fun aan w hs=>?_))))));refine .o (.append (xs:=[]) (ys:=Is [x.day]) hs.nul bJ rfl rfl (.nil 1 none) (.own (.there .here) rfl rfl) (by simp [Is,Value.oneCell']) (fun l' h=>by simp at h;omega) ?_);intro v46 en46 w hO hs;exact .zn zg (nT (.region (.z zm (.zn zg (nB (nT (.mk ⟨H6,_,en46,b2,rfl,ib.trans l7,fun h=>by omega,fun _=>hO,hs.sb⟩)))))))
 ·rintro fr w ⟨H5,v,en,p,rfl,ib,-,h1,hs⟩;obtain ⟨H6,l7,Z1,hs⟩:=bE.bX (h1 rfl) aU hs .here;obtain ⟨a6,c6,rfl⟩:=RI.shape Z1;exact nT (.af (.z zm (.z zg (.zn zg (.ret (Fin.mh results28 rfl rfl ⟨H6,a6,c6,vU.trans (ib.trans l7),rfl,Z1,hs.out⟩))))))
set_option maxHeartbeats 4000000 in
theorem nK{w:World}{v:Value}{l S:List Ev}{cs:List Cmp}(hs:St H w σ)(hr:REv H v l)(hA:vF l S cs number day known)(hn:1≤number∧number≤999)(hd:0≤day∧day≤100000)(hk:0≤known∧known≤100000)(ht:(S.foldl (eJ cs) fK).there=false):
  aaq 29 [v,I number,I day,I known] w fun u w'=>∃H1,HLe H H1∧u= .tuple #[.agg #[I 0,I 0,I 0,I 0,.slice none 0 0,.slice none 0 0,I 0,I 0,.slice none 0 0,.slice none 0 0,.slice none 0 0],I 52]∧St H1 w' σ:=by
 refine Cl.o func29 ntmps29 ag4 ?_;refine .af (.o (.alloc hs og rfl fun b8 w hs=>?_));refine .zn zg (.af (.z zm (.z zm (.z zm (.z zm (.o (.call call44 rfl (lT hs hr hA hn hd hk) ?_)))))));rintro _ w ⟨H1,az,hq⟩;obtain ⟨-,rfl,hs⟩:=hq.resolve_right fun h=>by rw [ht] at h;cases h.1
 refine .z zm (.z zex (.z zex (.z zg (.zn zg (.seq (.af (.z zm (.zn gv (.cT (.af (.z (zbd [_,_,_,_,_,_,_,_,_,_,_] tI) (.z zm (.o (.aL (vs:=[_,_,_,_,_,_,_,_,_,_,_]) hs rfl rfl kO fun w hs=>?_))))))))))))));exact .zn zg (.ret (rT ((Fin.ki [] [] hs fun w hs=>⟨_,results2 results29 (dK (vs:=[_,_,_,_,_,_,_,_,_,_,_]) hs rfl isAgg107 kO) rfl,H1,az,rfl,hs.out⟩))))
def CA(n m:Int):Int:=(n.tmod m+m).tmod m
theorem rE(n:Int){m:Int}(h:0<m):0≤CA n m∧CA n m<m:=by
 have h2:=Int.lt_tmod_of_pos n h;exact ⟨Int.tmod_nonneg m ak,Int.tmod_lt_of_pos _ h⟩
theorem kz{w:World}{n:Int}(hs:St H w σ)(hm:1≤m∧m≤4611686018427387904):
  aaq 10 [I n,I m] w fun u w'=>u=I (CA n m)∧St H w' σ:=by
 have h1:=Int.tmod_lt_of_pos n (show 0<m by omega);have h2:=Int.lt_tmod_of_pos n (show 0<m by omega);refine Cl.o func10 ntmps10 ag2 ?_;exact .af (.zn zg (.af (.z zm (.z zm (.z IQ (.z zm (.z cC (.z zm (.z IQ (.zn zg (.ret (Fin.aW results10 rfl ⟨rfl,hs⟩))))))))))))
theorem o8{w:World}{sp:Spc}{aa ab ar ac:Option Addr}{na nb nr nc ca cb cr cc:Nat}{seq:Int}(hs:St H w σ)(hq:0≤seq∧seq≤100000):
  aaq 38 [.agg #[I sp.id,I sp.src,.slice aa na ca,.slice ab nb cb,I sp.al,I sp.up,.slice ar nr cr,.slice ac nc cc],I id,I seq] w fun u w'=>u= .agg #[I id,I (seq+1),.slice aa na ca,.slice ab nb cb,I sp.al,I sp.up]∧St H w' σ:=by
 refine Cl.o func38 ntmps38 ag3 ?_;refine .af (.bx hs fun b3 w hs=>?_);refine .o (.alloc hs fR rfl fun b6 w hs=>?_);refine .nil (.af (.z (zfa bq) (.y hs (zls [_,_,_,_,_,_] bC aM) (.o (.alloc hs fR rfl fun b7 w hs=>?_)))));refine .o (.aL (vs:=[_,_,_,_,_,_]) hs rfl rfl aM fun w hs=>?_);refine .nil (.af (.z zm (.z (zfa dr) (.o (.store hs rfl rfl an fun w hs=>?_)))));refine .nil (.af (.z zm (.z cC (.z (zfa cP) (.o (.store hs rfl rfl an fun w hs=>?_))))));refine .nil (.af (.y hs (zls [_,_,_,_,_,_] bC aM) (.o (.aL (vs:=[_,_,_,_,_,_]) hs rfl rfl aM fun w hs=>?_))));exact .nil (.ret (Fin.ki [] [] hs fun w hs=>⟨_,results1 results38 (dK (vs:=[_,_,_,_,_,_]) hs rfl bC aM),rfl,hs.out⟩))
def eV(days:List Int)(i:Int):Int:=if days.length=0 then 0 else CA (gi days (i.tmod days.length).toNat) 50
theorem JY(days:List Int)(i:Int):0≤eV days i∧eV days i<50:=by
 unfold eV;split
 ·omega
 ·exact rE _ ak
theorem kg{w:World}{v:Value}{i:Int}(hs:St H w σ)(hr:RI H v days)(hi:0≤i):
  aaq 39 [v,I i] w fun u w'=>u=I (eV days i)∧St H w' σ:=by
 obtain ⟨a,c,rfl⟩:=RI.shape hr;refine Cl.o func39 ntmps39 ag2 ?_;refine .af (.zn zg (.seq (.af (.z zm (.z (bT ai) (.zn fW (.bQ rfl (fun XI=>?_) (fun XI=>?_))))))))
 ·exact .af (.zn zg (.ret (rT (Fin.aW results39 rfl ⟨by rw [eV,if_pos ak],hs⟩))))
 ·refine .skip (nT (.af (.z zm (.z zm (.z zm (.z (bT ai) (.z IQ ?_)))))));have g1:=Int.tmod_lt_of_pos i (show 0<(days.length:Int) by omega);have g2:=Int.tmod_nonneg (days.length:Int) hi;refine .ixY hs hr rfl rfl ai an (ck (l:=days) (i:=(i.tmod days.length).toNat) ak) ak ?_;intro lJ o13 iH;refine .q hs (aR rfl aj iH) (.o (.call kP rfl (kz hs ak) ?_));rintro _ w ⟨rfl,hs⟩;exact .zn zg (.ret (Fin.aW results39 rfl ⟨by rw [eV,if_neg ak],hs⟩))
def smS:dL:=⟨2,[⟨0,1,10,1⟩,⟨1,2,3,2⟩]⟩
theorem Gd{p:Nat→Int}:jt smS.de p↔p 1≤p 0+10∧p 2≤p 1+3:=by
 rw [xD];simp [smS]
theorem Md{n:Int}(h:sm smS [0,1,1] n e):n=23∧e=0:=
 h.uniq (MQ (p:=pt 10 13) (zo ⟨by decide,by decide,by decide,by decide⟩ rfl (by unfold jW;decide)) (by rw [Gd];decide) cR (fun x hx=>by rw [Gd] at hx;rw [show smS.n=3 from rfl,Uw];omega) cR)
theorem Sp:gX 9 100000 [0,10,40]:=⟨by decide,by decide,by decide,by decide,fun i hi=>by
 have:i=0∨i=1:=by simp at hi;omega
 rcases this with rfl|rfl<;>decide⟩
theorem P0:wts [0,10,40]=[-240,1280,400]:=by decide
def SY:Spc:=⟨3,1,[0,1000],[0,1000],0,0⟩
theorem Qq:fV SY:=⟨⟨by decide,by decide,by decide,by decide,fun i hi=>by
 have:i=0:=by simp [SY] at hi;omega
 subst this;decide⟩,⟨by decide,by decide,by decide,by decide,fun i hi=>by
 have:i=0:=by simp [SY] at hi;omega
 subst this;decide⟩,by decide,by decide,by decide,by decide⟩
def liX(a b:Nat):Ev:=⟨0,0,1,2,4,6,0,1,0,0,SY,some ⟨a,0,none⟩,2,some ⟨b,0,none⟩,2,rd0,cm0,0,0⟩
theorem MZ(a b:Nat):oH (liX a b):=
 ⟨rfl,by simp [liX],by simp [liX],by simp [liX],by simp [liX],rfl,rfl,.inl ⟨rfl,by simp [liX],⟨Qq,by simp [liX,SY],rfl⟩,rfl,rfl,rfl,rfl,rfl⟩⟩
set_option maxHeartbeats 4000000 in
theorem zK{w:World}(hs:St H w σ):
  aaq 6 [] w fun u w'=>u= .bool true∧∃H1,HLe H H1∧St H1 w' σ:=by
 refine Cl.of func6 rfl ntmps6 aU (Ar) (.af (.zn zg (.af (.o (.buildSlice (cells:=Is [0,1000]) hs dX rfl aF fun b9 w hs=>?_)))));refine .o (.buildSlice (cells:=Is [0,1000]) hs dX rfl aF fun jr w hs=>?_);refine .z (zbd [_,_,_,_,_,_] nZ) (.o (.alloc hs fR rfl fun b1 w hs=>?_));refine .o (.aL (vs:=[_,_,_,_,_,_]) hs rfl rfl aM fun w hs=>?_);refine .nil (.af (.y hs (zls [_,_,_,_,_,_] bC aM) (.z (zbd (vs:=[(1,I 1),(2,I 2),(3,I 4),(4,I 6),(6,I 1),(9,.agg #[I 3,I 1,.slice (some ⟨b9,0,none⟩) 2 2,.slice (some ⟨jr,0,none⟩) 2 2,I 0,I 0])]) (liX b9 jr).c fw rfl aF) (.o (.buildSlice (cells:=(liX b9 jr).c) hs gU rfl aF fun tZ w hs=>?_)))));refine .zn zg (.af ?_);obtain ⟨H1,g1,r1,hs⟩:=bE.bX (xs:=[0,1000]) (v:= .slice (some ⟨b9,0,none⟩) 2 2) (.full rfl) aU hs cg;obtain ⟨H2,g2,r2,hs⟩:=bE.bX (xs:=[0,1000]) (v:= .slice (some ⟨jr,0,none⟩) 2 2) (.full rfl) aU hs cg;obtain ⟨H3,g3,r3,hs⟩:=bE.bG (m:=31) (cs:=evc [liX b9 jr]) (v:= .slice (some ⟨tZ,0,none⟩) 1 1) (.full aF) (ig _) ak (by simp [evc]) hs cg;have hg:=MZ b9 jr;have hR:REv H3 (.slice (some ⟨tZ,0,none⟩) 1 1) [liX b9 jr]:=⟨r3,fun x hx=>by
  rw [List.mem_singleton] at hx;subst hx;exact ⟨r1.mono (g2.trans g3),r2.mono g3⟩⟩
 have bA:=g1.trans (g2.trans g3);refine .z zm (.o (.call call27 rfl (zW (x:=liX b9 jr) hs hR hg rfl (day:=4) (known:=6) (Int.le_refl _) (Int.le_refl _) ak ak) ?_));rintro _ w ⟨H4,a4,c4,gz,rfl,h4,hs⟩;have vU:=bA.trans gz;refine .z zm (.z zex (.z zex (.z zg (.zn zg (.af (.z zm (.o (.call call28 rfl (BH (x:=liX b9 jr) hs (hR.mono gz) hg rfl (known:=6) (Int.le_refl _) ak) ?_))))))));rintro _ w ⟨H5,a5,c5,ib,rfl,h5,hs⟩;have vT:=vU.trans ib;refine .z zm (.z zex (.z zex (.z zg (.zn zg (.af (.z zm (.o (.call call29 rfl (nK hs (hR.mono (gz.trans ib)) (Eu hg rfl (day:=4) (known:=5) (fun h=>absurd h.1 (by show ¬(6:Int)≤5;omega))) hg.ship ak ak rfl) ?_))))))));rintro _ w ⟨H6,l7,rfl,hs⟩;have yL:=vT.trans l7;refine .z zm (.z zex (.z zex (.o (.alloc hs og rfl fun b7 w hs=>?_))));refine .o (.aL (vs:=[_,_,_,_,_,_,_,_,_,_,_]) hs rfl rfl kO fun w hs=>?_);refine .zn zg (.af (.z zm (.z fW (.z zm (.jK (t':=32) rfl (fun Ns=>?_) (fun Ns=>?_))))))
 ·refine .T (.z zm (.T (.o (.buildSlice (cells:=Is [2]) hs bO rfl aF fun UP w hs=>?_))));refine .T ?_;obtain ⟨H7,g7,r7,hs⟩:=bE.bX (xs:=[2]) (v:= .slice (some ⟨UP,0,none⟩) 1 1) (.full rfl) aU hs .here;refine .o (.call call26 rfl (ja hs (h4.mono (ib.trans (l7.trans g7))) r7) ?_);rintro _ w ⟨rfl,hs⟩;refine .z zpT (.z zm (.bif (t':=37) rfl (fun Ie=>?_) (fun Ie=>?_)))
  ·refine .T (.z zm (.T (.z fW (.z zpT (.z zm (.jK (t':=41) rfl (fun XV=>?_) (fun XV=>?_)))))))
   ·refine .T (.z zm (.T (.o (.buildSlice (cells:=Is [4]) hs bO rfl aF fun UN w hs=>?_))));refine .T ?_;obtain ⟨H8,g8,r8,hs⟩:=bE.bX (xs:=[4]) (v:= .slice (some ⟨UN,0,none⟩) 1 1) (.full rfl) aU hs .here;refine .o (.call call26 rfl (ja hs (h5.mono (l7.trans (g7.trans g8))) r8) ?_);rintro _ w ⟨rfl,hs⟩;refine .z zpT (.z zm (.bif (t':=46) rfl (fun Ib=>?_) (fun Ib=>?_)))
    ·refine .T (.z zm (.T (.z fW (.z zpT (.zn zg (.ret (Fin.aW results6 rfl ?_)))))));first
     |exact ⟨rfl,H8,yL.trans (g7.trans g8),hs.out⟩
     |contradiction
     |(exfalso;simp_all;done)
    ·refine .Fs 2 16 true (.z zpF (.zn zg (.ret (Fin.aW results6 rfl ?_))));first
     |exact ⟨rfl,H8,yL.trans (g7.trans g8),hs.out⟩
     |contradiction
     |(exfalso;simp_all;done)
   ·refine .Fs 3 11 true (.z zpF (.z zm (.Fs 2 16 true (.z zpF (.zn zg (.ret (Fin.aW results6 rfl ?_)))))));first
    |exact ⟨rfl,H8,yL.trans (g7.trans g8),hs.out⟩
    |contradiction
    |(exfalso;simp_all;done)
  ·refine .Fs 2 7 true (.z zpF (.z zm (.Fs 3 11 true (.z zpF (.z zm (.Fs 2 16 true (.z zpF (.zn zg (.ret (Fin.aW results6 rfl ?_))))))))));first
   |exact ⟨rfl,H8,yL.trans (g7.trans g8),hs.out⟩
   |contradiction
   |(exfalso;simp_all;done)
 ·refine .Fs 3 2 true (.z zpF (.z zm (.Fs 2 7 true (.z zpF (.z zm (.Fs 3 11 true (.z zpF (.z zm (.Fs 2 16 true (.z zpF (.zn zg (.ret (Fin.aW results6 rfl ?_)))))))))))));first
  |exact ⟨rfl,H8,yL.trans (g7.trans g8),hs.out⟩
  |contradiction
  |(exfalso;simp_all;done)
set_option maxHeartbeats 4000000 in
theorem zJ{w:World}(hs:St H w σ):
  aaq 5 [] w fun u w'=>u= .bool true∧∃H1,HLe H H1∧St H1 w' σ:=by
 refine Cl.of func5 rfl ntmps5 aU (Ar) (.af (.zn zg (.af (.o (.buildSlice (cells:=Is [0,10,40]) hs mA rfl aF fun jr w hs=>?_)))));obtain ⟨H1,g1,r1,hs⟩:=bE.bX (xs:=[0,10,40]) (v:= .slice (some ⟨jr,0,none⟩) 3 3) (.full rfl) aU hs .here;refine .o (.call call24 rfl (jw hs r1) ?_);rintro _ w ⟨H2,vo,e,aN,rfl,hW,hs⟩;obtain ⟨rfl,X0⟩:=hW Sp;rw [P0] at X0;obtain ⟨aw,cw,rfl⟩:=RI.shape X0;have eI:=g1.trans aN;refine .z zm (.z zex (.z zex (.z zg (.zn zg (.af (.z (zbd [_,_,_,_] dJ) (.z (zbd [_,_,_,_] dJ) (.o (.buildSlice (cells:=gO smS.dU) hs eC rfl aF fun vC w hs=>?_)))))))));refine .z (zbd [_,_] mN) (.o (.alloc hs oh rfl fun b3 w hs=>?_));refine .o (.aL (vs:=[_,_]) hs rfl rfl bR fun w hs=>?_);refine .nil (.af (.y hs (zls [_,_] ea bR) (.o (.buildSlice (cells:=Is [0,1,1]) hs mA rfl aF fun US w hs=>?_))));obtain ⟨H3,g3,r3,hs⟩:=bE.bG (m:=4) (v:= .slice (some ⟨vC,0,none⟩) 2 2) (cs:=smS.dU.map Lim.c) (.full rfl) cR cR cR hs cg;obtain ⟨H4,g4,r4,hs⟩:=bE.bX (xs:=[0,1,1]) (v:= .slice (some ⟨US,0,none⟩) 3 3) (.full rfl) aU hs cg;refine .o (.call call25 rfl (zd (s:=smS) hs ⟨_,rfl,RS.mono r3 g4⟩ r4) ?_);rintro _ w ⟨H5,n,e,ib,rfl,hM,hs⟩;obtain ⟨rfl,rfl⟩:=Md hM;have TF:=g3.trans (g4.trans ib);refine .z zm (.z zex (.z zex (.z zg (.zn zg (.af (.o (.buildSlice (cells:=Is [0,1000]) hs dX rfl aF fun YE w hs=>?_)))))));refine .o (.buildSlice (cells:=Is [0,1000]) hs dX rfl aF fun Lj w hs=>?_);refine .z (zbd [_,_] wi) (.z (zbd [_,_,_,_,_,_] nZ) (.o (.alloc hs fR rfl fun b6 w hs=>?_)));refine .o (.aL (vs:=[_,_,_,_,_,_]) hs rfl rfl aM fun w hs=>?_);refine .nil (.af (.y hs (zls [_,_,_,_,_,_] bC aM) (.o (.buildSlice (cells:=Is [100,200]) hs dX rfl aF fun LR w hs=>?_))));refine .o (.buildSlice (cells:=Is [150,300]) hs dX rfl aF fun Li w hs=>?_);refine .o (.buildSlice (cells:=[.slice (some ⟨LR,0,none⟩) 2 2,.slice (some ⟨Li,0,none⟩) 2 2]) hs Ap rfl aF fun Se w hs=>?_);refine .z (zbd [_] Es) (.z (zbd [_,_,_] wh) ?_);obtain ⟨H6,g6,r6,hs⟩:=bE.bX (xs:=[0,1000]) (v:= .slice (some ⟨YE,0,none⟩) 2 2) (.full rfl) aU hs cg;obtain ⟨H7,g7,r7,hs⟩:=bE.bX (xs:=[0,1000]) (v:= .slice (some ⟨Lj,0,none⟩) 2 2) (.full rfl) aU hs cg;obtain ⟨H8,g8,r8,hs⟩:=bE.bX (xs:=[100,200]) (v:= .slice (some ⟨LR,0,none⟩) 2 2) (.full rfl) aU hs cg;obtain ⟨H9,g9,r9,hs⟩:=bE.bX (xs:=[150,300]) (v:= .slice (some ⟨Li,0,none⟩) 2 2) (.full rfl) aU hs cg;have hRL:RLs H9 [.slice (some ⟨LR,0,none⟩) 2 2,.slice (some ⟨Li,0,none⟩) 2 2] GO:=((RLs.nil H9).snoc (r8.mono g9)).snoc r9;obtain ⟨H10,g10,KP,hs⟩:=hRL.bG (v:= .slice (some ⟨Se,0,none⟩) 2 2) (en:= .blk Se [.slice (some ⟨LR,0,none⟩) 2 2,.slice (some ⟨Li,0,none⟩) 2 2]) (.full rfl) aU hs cg;have g69:=g8.trans (g9.trans g10);refine .o (.call call17 rfl (sP (s:=KY) (q:=⟨1,0,1⟩) hs (r6.mono (g7.trans g69)) (r7.mono g69) KP) ?_);rintro _ w ⟨H11,n,e,Kj,rfl,hQ,hs⟩;obtain ⟨rfl,rfl⟩:=NM hQ;have yK:=TF.trans (g6.trans (g7.trans (g69.trans Kj)));refine .z zm (.z zex (.z zex (.z zg (.zn zg (.af (.z zm (.z fW (.z zm (.jK (t':=40) rfl (fun KE=>?_) (fun KE=>?_))))))))))
 ·refine .T (.z zm (.T (.o (.buildSlice (cells:=Is [-240,1280,400]) hs mA rfl aF fun VT w hs=>?_))));refine .T ?_;obtain ⟨H12,g12,r12,hs⟩:=bE.bX (xs:=[-240,1280,400]) (v:= .slice (some ⟨VT,0,none⟩) 3 3) (.full rfl) aU hs .here;refine .o (.call call26 rfl (ja hs (X0.mono (yK.trans g12)) r12) ?_);rintro _ w ⟨rfl,hs⟩;refine .z zpT (.z zm (.bif (t':=45) rfl (fun XU=>?_) (fun XU=>?_)))
  ·refine .T (.z zm (.T (.z fW (.z zpT (.z zm (.jK (t':=49) rfl (fun XT=>?_) (fun XT=>?_)))))))
   ·refine .T (.z zm (.T (.z fW (.z zpT (.z zm (.jK (t':=53) rfl (fun KC=>?_) (fun KC=>?_)))))))
    ·refine .T (.z zm (.T (.z fW (.z zpT (.z zm (.jK (t':=57) rfl (fun XR=>?_) (fun XR=>?_)))))))
     ·refine .T (.z zm (.T (.z fW (.z zpT (.zn zg (.ret (Fin.aW results5 rfl ?_)))))));first
      |exact ⟨rfl,H12,eI.trans (yK.trans g12),hs.out⟩
      |contradiction
      |(exfalso;simp_all;done)
     ·refine .Fs 2 19 true (.z zpF (.zn zg (.ret (Fin.aW results5 rfl ?_))));first
      |exact ⟨rfl,H12,eI.trans (yK.trans g12),hs.out⟩
      |contradiction
      |(exfalso;simp_all;done)
    ·refine .Fs 2 15 true (.z zpF (.z zm (.Fs 2 19 true (.z zpF (.zn zg (.ret (Fin.aW results5 rfl ?_)))))));first
     |exact ⟨rfl,H12,eI.trans (yK.trans g12),hs.out⟩
     |contradiction
     |(exfalso;simp_all;done)
   ·refine .Fs 2 11 true (.z zpF (.z zm (.Fs 2 15 true (.z zpF (.z zm (.Fs 2 19 true (.z zpF (.zn zg (.ret (Fin.aW results5 rfl ?_))))))))));first
    |exact ⟨rfl,H12,eI.trans (yK.trans g12),hs.out⟩
    |contradiction
    |(exfalso;simp_all;done)
  ·refine .Fs 2 7 true (.z zpF (.z zm (.Fs 2 11 true (.z zpF (.z zm (.Fs 2 15 true (.z zpF (.z zm (.Fs 2 19 true (.z zpF (.zn zg (.ret (Fin.aW results5 rfl ?_)))))))))))));first
   |exact ⟨rfl,H12,eI.trans (yK.trans g12),hs.out⟩
   |contradiction
   |(exfalso;simp_all;done)
 ·refine .Fs 3 2 true (.z zpF (.z zm (.Fs 2 7 true (.z zpF (.z zm (.Fs 2 11 true (.z zpF (.z zm (.Fs 2 15 true (.z zpF (.z zm (.Fs 2 19 true (.z zpF (.zn zg (.ret (Fin.aW results5 rfl ?_))))))))))))))));first
  |exact ⟨rfl,H12,eI.trans (yK.trans g12),hs.out⟩
  |contradiction
  |(exfalso;simp_all;done)
set_option maxHeartbeats 4000000 in
theorem um{w:World}{s:Srv}{aa ab ac ad:Option Addr}{na nb nc nd ca cb cc cd:Nat}{hull:Bool}{room:Int}(hs:St H w σ)(h1:RI H (.slice aa na ca) s.sp.st)(h2:RI H (.slice ab nb cb) s.sp.wa)(h3:RRd H (.slice ac nc cc) s.rs)(h4:RCm H (.slice ad nd cd) s.cs)(hd:RI H vd days)(hM:xj s)(OH:room=if hull then 900 else 5):
  aaq 8 [.agg #[I s.sp.id,I s.sp.src,.slice aa na ca,.slice ab nb cb,I s.sp.al,I s.sp.up,.slice ac nc cc,.slice ad nd cd],vd,.bool hull] w fun u w'=>∃H1,HLe H H1∧REv H1 u (jV room (eV days) s ⟨aa,ca,ab,cb⟩ s.cs.length)∧St H1 w' σ:=by
 obtain ⟨adx,cdx,rfl⟩:=RI.shape hd;obtain ⟨_,_,e1⟩:=RI.shape h1;cases e1
 obtain ⟨_,_,e2⟩:=RI.shape h2;cases e2
 obtain ⟨_,_,e3⟩:=RRd.shape h3;cases e3
 obtain ⟨_,_,e4⟩:=RCm.shape h4;cases e4
 have OG:=hM.rs;have AU:=hM.cs;have Vl:=hs;refine Cl.o func8 ntmps8 ag3 ?_;refine .af (.bx hs fun b3 w hs=>?_);refine .zn zg (.seq (.draw mix rfl hs fun w hs=>?_));refine .ys 0 rfl hs [_,_,_,_,_,_,_,_] df bu ?_;refine .z 3 rfl (zbd [_,_] oa) ?_;refine .ys 4 rfl hs [_,_,_,_,_,_,_,_] df bu ?_;refine .E 1 hs ?_;refine .call call38 rfl (o8 hs ak) ?_;rintro _ w ⟨rfl,hs⟩;refine .go (.zw 2 rfl (zbd (vs:=[(1,I 1),(2,I 9),(6,I 1),(9,.agg #[I 900,I (0+1),.slice aa s.sp.st.length ca,.slice ab s.sp.wa.length cb,I s.sp.al,I s.sp.up])]) (evB s.sp ⟨aa,ca,ab,cb⟩).c fw rfl aF) (.E 5 hs ?_));refine .call call38 rfl (o8 hs ak) ?_;rintro _ w ⟨rfl,hs⟩;refine .go (.zw 6 rfl (zbd (vs:=[(0,.agg #[I 0,I 1]),(1,I 2),(2,I 9),(6,I 1),(9,.agg #[I 5,I (1+1),.slice aa s.sp.st.length ca,.slice ab s.sp.wa.length cb,I s.sp.al,I s.sp.up])]) (evR s.sp ⟨aa,ca,ab,cb⟩).c fw rfl aF) (.E 7 hs ?_));refine .buildSlice (cells:=(evc (FU room (eV days) s ⟨aa,ca,ab,cb⟩ 0)).flatten) hs tF rfl aF ?_;intro aao w hs;refine .go (.zw 8 rfl zg ?_);refine .D hs ?_;refine .seq (.af (.z (zfa aS) (.y hs (zld eB) (.z (bT aT) (.zn zm (.for (N:=s.rs.length) (J:=fun k fr w=>∃a c en,fr=[(23,.slice ac s.rs.length cc),(7,.slice a (k+2) c),(3,Pt b3),(1,.slice adx days.length cdx),(2,.bool hull)]∧bE 31 (.slice a (k+2) c) (evc (FU room (eV days) s ⟨aa,ca,ab,cb⟩ k)).flatten en∧St H w (en:: .blk b3 [I s.sp.id,I s.sp.src,.slice aa s.sp.st.length ca,.slice ab s.sp.wa.length cb,I s.sp.al,I s.sp.up,.slice ac s.rs.length cc,.slice ad s.cs.length cd]::σ)) ak ?_ ?_ ?_))))))
 ·exact .mk ⟨_,_,_,rfl,.full (len:=2) rfl,hs⟩
 ·rintro k fr w hk ⟨a,c,en,rfl,hO,hs⟩;have hx:=jy hk;generalize hr:vO s.rs k=r at hx;refine .block (.af (.z zm (.ixX (enc:=Rdg.c) hs h3 rfl rfl aT br hx rfl ?_)));intro UR o28 l8;refine .q hs (bj (vs:=r.c) rfl gP br l8) (.o (.alloc hs ji rfl fun b9 w hs=>?_));refine .z zg (.o (.aL (vs:=[_,_,_,_,_,_,_]) hs rfl rfl br fun w hs=>?_));refine .nil (.cut (fun fs w=>∃b9 jr,ob fs ⟨83,[],[(25,I (k:Int)),(24,I (s.rs.length:Int)),(10,Pt jr),(23,.slice ac s.rs.length cc),(7,.slice a (k+2) c),(3,Pt b3),(1,.slice adx days.length cdx),(2,.bool hull)]⟩∧St H w (.blk jr (⟨0,((k+2:Nat):Int),8,9,r.day,eV days k,5,0,0,0,sp0,none,0,none,0,r,cm0,0,0⟩:Ev).c:: .blk b9 r.c::en:: .blk b3 [I s.sp.id,I s.sp.src,.slice aa s.sp.st.length ca,.slice ab s.sp.wa.length cb,I s.sp.al,I s.sp.up,.slice ac s.rs.length cc,.slice ad s.cs.length cd]::σ)) ?_ ?_)
  ·refine .draw mix rfl hs fun w hs=>?_
   refine .zw 0 rfl zm ?_;refine .z 1 rfl (bT aD) ?_;refine .z 2 rfl (zbd [_,_] oa) ?_;refine .z 3 rfl (zfa dI) ?_;refine .y 4 rfl hs aj ?_;refine .z 5 rfl zm ?_;refine .z 6 rfl zm ?_;refine .ys 8 rfl hs [_,_,_,_,_,_,_] gP br ?_;refine .e2 (i:=7) (j:=10) aF rfl rfl rfl rfl .none .none hs ?_ ?_
   ·refine .call call39 rfl (kg hs hd ak) ?_;rintro _ w ⟨rfl,hs⟩;refine .go (.zw 9 rfl (zbd (vs:=[(0,.agg #[I 0,I ((k+2:Nat):Int)]),(1,I 8),(2,I 9),(3,I r.day),(4,I (eV days k)),(5,I 5),(10,.agg #[I r.src,I r.st,I r.wa,I r.val,I r.tol,I r.tape,I r.day])]) (⟨0,((k+2:Nat):Int),8,9,r.day,eV days k,5,0,0,0,sp0,none,0,none,0,r,cm0,0,0⟩:Ev).c fw rfl aF) (.E 10 hs ?_));refine .alloc hs cz rfl ?_;intro jr w hs;refine .go (.E 11 hs ?_);refine .fy (vs:=[_,_,_,_,_,_,_,_,_,_,_,_,_,_,_,_,_,_,_,_,_,_,_,_,_,_,_,_,_,_,_]) hs rfl rfl aH ?_;intro w hs;exact .go (.D hs (nT ⟨b9,jr,bg,hs.sb⟩))
   ·refine .alloc hs cz rfl ?_;intro jr w hs;refine .go (.E 7 hs ?_);refine .call call39 rfl (kg hs hd ak) ?_;rintro _ w ⟨rfl,hs⟩;refine .go (.zw 9 rfl (zbd (vs:=[(0,.agg #[I 0,I ((k+2:Nat):Int)]),(1,I 8),(2,I 9),(3,I r.day),(4,I (eV days k)),(5,I 5),(10,.agg #[I r.src,I r.st,I r.wa,I r.val,I r.tol,I r.tape,I r.day])]) (⟨0,((k+2:Nat):Int),8,9,r.day,eV days k,5,0,0,0,sp0,none,0,none,0,r,cm0,0,0⟩:Ev).c fw rfl aF) (.E 11 hs ?_));refine .fy (vs:=[_,_,_,_,_,_,_,_,_,_,_,_,_,_,_,_,_,_,_,_,_,_,_,_,_,_,_,_,_,_,_]) hs rfl rfl aH ?_;intro w hs;exact .go (.D hs (nT ⟨b9,jr,bg,hs.sb⟩))
  ·rintro fs w ⟨b9,jr,j8,hs⟩;refine WE.sub ?_ j8;clear j8;refine .cut (fun fs w=>ob fs ⟨83,[],[(25,I (k:Int)),(24,I (s.rs.length:Int)),(10,Pt jr),(23,.slice ac s.rs.length cc),(7,.slice a (k+2) c),(3,Pt b3),(1,.slice adx days.length cdx),(2,.bool hull)]⟩∧St H w (.blk jr (⟨0,((k+2:Nat):Int),8,9,r.day,eV days k,room,0,0,0,sp0,none,0,none,0,r,cm0,0,0⟩:Ev).c:: .blk b9 r.c::en:: .blk b3 [I s.sp.id,I s.sp.src,.slice aa s.sp.st.length ca,.slice ab s.sp.wa.length cb,I s.sp.al,I s.sp.up,.slice ac s.rs.length cc,.slice ad s.cs.length cd]::σ)) ?_ ?_
   ·refine .af (.zn zm (.cond rfl (fun uO=>?_) (fun uO=>?_)))
    ·refine .region (.z (zfa eo) (.o (.store hs rfl rfl an fun w hs=>?_)));exact .nil (nT ⟨bg,by rw [OH,if_pos cW];exact hs⟩)
    ·exact .skip (nT ⟨bg,by rw [OH,uO];exact hs⟩)
   ·rintro fs w ⟨j8,hs⟩;refine WE.sub ?_ j8;clear j8;refine .af (.z zm (.z (bT aD) (.z cC (.z (zfa ez) (.z (zfa eE) (.o (.store hs rfl rfl an fun w hs=>?_)))))));refine .nil (.region (.z zm (.y hs (zls [_,_,_,_,_,_,_,_,_,_,_,_,_,_,_,_,_,_,_,_,_,_,_,_,_,_,_,_,_,_,_] bV aH) (.o (.buildSlice (cells:=(Ah room (eV days k) (k+2) r).c) hs gU rfl aF fun Yz w hs=>?_)))));refine .o (.append (ys:=(Ah room (eV days k) (k+2) r).c) hs dz rfl rfl hO (.own cg rfl rfl) (by simp [Ev.c,Value.oneCell']) (fun l' h=>by rw [a7 _ (ig _),dN,nW] at h;omega) ?_);intro v50 en50 w FM hs;rw [←B6] at FM;replace FM:bE 31 v50 (evc (FU room (eV days) s ⟨aa,ca,ab,cb⟩ (k+1))).flatten en50:=by rw [←hr] at FM;simpa [FU,rdE] using FM
    obtain ⟨a50,c50,rfl⟩:=FM.jx (ig _) ak;rw [dN,nW] at FM ⊢;exact .zn zg (nB (nT (.mk ⟨a50,c50,en50,rfl,FM,hs.sb⟩)))
 ·rintro fr w ⟨a,c,en,rfl,hO,hs⟩;rw [show FU room (eV days) s ⟨aa,ca,ab,cb⟩ s.rs.length=jV room (eV days) s ⟨aa,ca,ab,cb⟩ 0 by simp [jV,tpE]] at hO;refine nT (.seq (.af (.z (zfa dm) (.y hs (zld qL) (.z (bT cH) (.zn zm (.for (N:=s.cs.length) (J:=fun k fr w=>∃a c en,fr=[(53,.slice ad s.cs.length cd),(7,.slice a (k+(s.rs.length+2)) c),(3,Pt b3),(1,.slice adx days.length cdx)]∧bE 31 (.slice a (k+(s.rs.length+2)) c) (evc (jV room (eV days) s ⟨aa,ca,ab,cb⟩ k)).flatten en∧St H w (en:: .blk b3 [I s.sp.id,I s.sp.src,.slice aa s.sp.st.length ca,.slice ab s.sp.wa.length cb,I s.sp.al,I s.sp.up,.slice ac s.rs.length cc,.slice ad s.cs.length cd]::σ)) ak ?_ ?_ ?_)))))))
  ·exact .mk ⟨a,c,en,by rw [Nat.zero_add],by rw [Nat.zero_add];exact hO,hs⟩
  ·rintro k fr w hk ⟨a,c,en,rfl,hO,hs⟩;have hx:=qi hk;generalize hr:w6 s.cs k=r at hx;refine .block (.af (.z zm (.ixX (enc:=Cmp.c) hs h4 rfl rfl cH dC hx rfl ?_)));intro UM o58 s6;refine .q hs (bj (vs:=r.c) rfl vI dC s6) (.o (.alloc hs qI rfl fun oE w hs=>?_));refine .z zg (.o (.aL (vs:=[_,_,_,_,_,_]) hs rfl rfl dC fun w hs=>?_));refine .nil (.cut (fun fs w=>∃oE lJ,ob fs ⟨83,[],[(55,I (k:Int)),(54,I (s.cs.length:Int)),(13,Pt lJ),(53,.slice ad s.cs.length cd),(7,.slice a (k+(s.rs.length+2)) c),(3,Pt b3),(1,.slice adx days.length cdx)]⟩∧St H w (.blk lJ (⟨0,((k+(s.rs.length+2):Nat):Int),9,9,0,eV days ((s.rs.length:Int)+k),0,0,0,0,sp0,none,0,none,0,rd0,r,0,0⟩:Ev).c:: .blk oE r.c::en:: .blk b3 [I s.sp.id,I s.sp.src,.slice aa s.sp.st.length ca,.slice ab s.sp.wa.length cb,I s.sp.al,I s.sp.up,.slice ac s.rs.length cc,.slice ad s.cs.length cd]::σ)) ?_ ?_)
   ·refine .draw mix rfl hs fun w hs=>?_
    refine .zw 0 rfl zm ?_;refine .z 1 rfl (bT aD) ?_;refine .z 2 rfl (zbd [_,_] oa) ?_;refine .z 3 rfl zm ?_;refine .z 4 rfl (zfa aS) ?_;refine .y 5 rfl hs eB ?_;refine .z 6 rfl (bT aT) ?_;refine .z 7 rfl zm ?_;refine .z 8 rfl cC ?_;refine .ys 10 rfl hs [_,_,_,_,_,_] vI dC ?_;refine .e2 (i:=9) (j:=12) aF rfl rfl rfl rfl .none .none hs ?_ ?_
    ·refine .call call39 rfl (kg hs hd ak) ?_;rintro _ w ⟨rfl,hs⟩;refine .go (.zw 11 rfl (zbd (vs:=[(0,.agg #[I 0,I ((k+(s.rs.length+2):Nat):Int)]),(1,I 9),(2,I 9),(4,I (eV days ((s.rs.length:Int)+k))),(11,.agg #[I r.src,I r.tape,I r.fr,I r.to,I r.lo,I r.hi])]) (⟨0,((k+(s.rs.length+2):Nat):Int),9,9,0,eV days ((s.rs.length:Int)+k),0,0,0,0,sp0,none,0,none,0,rd0,r,0,0⟩:Ev).c fw rfl aF) (.E 12 hs ?_));refine .alloc hs cz rfl ?_;intro lJ w hs;refine .go (.E 13 hs ?_);refine .fy (vs:=[_,_,_,_,_,_,_,_,_,_,_,_,_,_,_,_,_,_,_,_,_,_,_,_,_,_,_,_,_,_,_]) hs rfl rfl aH ?_;intro w hs;exact .go (.D hs (nT ⟨oE,lJ,bg,hs.sb⟩))
    ·refine .alloc hs cz rfl ?_;intro lJ w hs;refine .go (.E 9 hs ?_);refine .call call39 rfl (kg hs hd ak) ?_;rintro _ w ⟨rfl,hs⟩;refine .go (.zw 11 rfl (zbd (vs:=[(0,.agg #[I 0,I ((k+(s.rs.length+2):Nat):Int)]),(1,I 9),(2,I 9),(4,I (eV days ((s.rs.length:Int)+k))),(11,.agg #[I r.src,I r.tape,I r.fr,I r.to,I r.lo,I r.hi])]) (⟨0,((k+(s.rs.length+2):Nat):Int),9,9,0,eV days ((s.rs.length:Int)+k),0,0,0,0,sp0,none,0,none,0,rd0,r,0,0⟩:Ev).c fw rfl aF) (.E 13 hs ?_));refine .fy (vs:=[_,_,_,_,_,_,_,_,_,_,_,_,_,_,_,_,_,_,_,_,_,_,_,_,_,_,_,_,_,_,_]) hs rfl rfl aH ?_;intro w hs;exact .go (.D hs (nT ⟨oE,lJ,bg,hs.sb⟩))
   ·rintro fs w ⟨oE,lJ,j8,hs⟩;refine WE.sub ?_ j8;clear j8;refine .af (.z zm (.z (bT aD) (.z cC (.z (zfa eX) (.z (zfa fm) (.o (.store hs rfl rfl an fun w hs=>?_)))))));refine .nil (.region (.z zm (.y hs (zls [_,_,_,_,_,_,_,_,_,_,_,_,_,_,_,_,_,_,_,_,_,_,_,_,_,_,_,_,_,_,_] bV aH) (.o (.buildSlice (cells:=(K3 (eV days ((s.rs.length:Int)+k)) (k+(s.rs.length+2)) r).c) hs gU rfl aF fun b79 w hs=>?_)))));refine .o (.append (ys:=(K3 (eV days ((s.rs.length:Int)+k)) (k+(s.rs.length+2)) r).c) hs dz rfl rfl hO (.own cg rfl rfl) (by simp [Ev.c,Value.oneCell']) (fun l' h=>by rw [a7 _ (ig _),dN,kf] at h;omega) ?_);intro v80 en80 w FL hs;rw [←B6] at FL;replace FL:bE 31 v80 (evc (jV room (eV days) s ⟨aa,ca,ab,cb⟩ (k+1))).flatten en80:=by rw [←hr] at FL;simpa [jV,tpE] using FL
    obtain ⟨a80,c80,rfl⟩:=FL.jx (ig _) ak;rw [dN,kf] at FL ⊢;exact .zn zg (nB (nT (.mk ⟨a80,c80,en80,rfl,FL,hs.sb⟩)))
  ·rintro fr w ⟨a,c,en,rfl,hO,hs⟩;obtain ⟨H1,az,hR,hs⟩:=bE.bG (m:=31) hO (ig _) ak (by rw [dN,kf];omega) hs .here;refine nT (.af (.z zm (.zn zg (.ret (Fin.aW results8 rfl ?_)))));exact ⟨H1,az,⟨hR,fun x hx=>by
    rcases lC.1 hx with (rfl|rfl)|⟨i,hi,rfl⟩|⟨i,hi,rfl⟩
    ·exact ⟨h1.mono az,h2.mono az⟩
    ·exact ⟨h1.mono az,h2.mono az⟩
    ·exact ⟨RS.nil H1 1 none 0,RS.nil H1 1 none 0⟩
    ·exact ⟨RS.nil H1 1 none 0,RS.nil H1 1 none 0⟩⟩,hs.out⟩
end Go.Proofs.YtfnfiekkdpphjaaGreat
namespace Go.MW
variable{H H':bp}{k a b known room:Int}{i j:Nat}{kd:Int→Int}
structure Tst where
 of_:Int
 how:Int
 num:Int
def Tst.c(t:Tst):List Value:=[I t.of_,I t.how,I t.num]
structure Pce where
 fr:Int
 base:Int
 rate:Int
def Pce.c(t:Pce):List Value:=[I t.fr,I t.base,I t.rate]
structure Ln where
 ps:List Pce
 a:Option Addr
 c:Nat
abbrev Ln.v(l:Ln):Value:= .slice l.a l.ps.length l.c
structure Put where
 grp:Int
 ts:List Tst
 a:Option Addr
 c:Nat
def Put.v(p:Put):List Value:=[I p.grp,.slice p.a p.ts.length p.c]
structure Ver where
 fr:Int
 puts:List Put
 a:Option Addr
 c:Nat
 ln:Nat→Ln
def Ver.v(x:Ver):List Value:=[I x.fr,.slice x.a x.puts.length x.c,(x.ln 0).v,(x.ln 1).v,(x.ln 2).v,(x.ln 3).v,(x.ln 4).v,(x.ln 5).v,(x.ln 6).v,(x.ln 7).v,(x.ln 8).v,(x.ln 9).v]
abbrev Ver.agg(x:Ver):Value:= .agg #[I x.fr,.slice x.a x.puts.length x.c,(x.ln 0).v,(x.ln 1).v,(x.ln 2).v,(x.ln 3).v,(x.ln 4).v,(x.ln 5).v,(x.ln 6).v,(x.ln 7).v,(x.ln 8).v,(x.ln 9).v]
structure Cod where
 name:ByteArray
 vers:List Ver
 a:Option Addr
 c:Nat
abbrev Cod.sl(x:Cod):Value:= .slice x.a x.vers.length x.c
def N4(H:bp)(l:Ln):Prop:=RS H 3 l.v (l.ps.map Pce.c)
def N3(H:bp)(p:Put):Prop:=RS H 3 (.slice p.a p.ts.length p.c) (p.ts.map Tst.c)
structure I0(H:bp)(x:Ver):Prop where
 rs:RS H 2 (.slice x.a x.puts.length x.c) (x.puts.map Put.v)
 puts:∀p∈x.puts,N3 H p
 ln:∀k<10,N4 H (x.ln k)
structure Hd(H:bp)(x:Cod):Prop where
 rs:RS H 12 x.sl (x.vers.map Ver.v)
 vers:∀v∈x.vers,I0 H v
theorem N4.mono{l:Ln}(h:N4 H l)(hl:HLe H H'):N4 H' l:=RS.mono h hl
theorem N3.mono{l:Put}(h:N3 H l)(hl:HLe H H'):N3 H' l:=RS.mono h hl
theorem I0.mono{x:Ver}(h:I0 H x)(hl:HLe H H'):I0 H' x:=⟨RS.mono h.rs hl,fun p hp=>(h.puts p hp).mono hl,fun k hk=>(h.ln k hk).mono hl⟩
theorem Hd.mono{x:Cod}(h:Hd H x)(hl:HLe H H'):Hd H' x:=⟨RS.mono h.rs hl,fun p hp=>(h.vers p hp).mono hl⟩
theorem SX(x:Ver){k:Nat}(hk:k<10):x.v[2+k]? =some (x.ln k).v:=by
 have:k=0∨k=1∨k=2∨k=3∨k=4∨k=5∨k=6∨k=7∨k=8∨k=9:=by omega
 rcases this with rfl|rfl|rfl|rfl|rfl|rfl|rfl|rfl|rfl|rfl<;>rfl
def Cz(l:List Pce)(i:Nat):Pce:=l.getD i ⟨0,0,0⟩
theorem nI{l:List Pce}(h:i<l.length):l[i]? =some (Cz l i):=by simp [Cz,List.getD,List.getElem?_eq_getElem h]
def Cy(l:List Ver)(i:Nat):Ver:=l.getD i ⟨0,[],none,0,fun _=>⟨[],none,0⟩⟩
theorem sx{l:List Ver}(h:i<l.length):l[i]? =some (Cy l i):=by simp [Cy,List.getD,List.getElem?_eq_getElem h]
def IC(t:Tst):Prop:=(1≤t.of_∧t.of_≤3)∧(1≤t.how∧t.how≤6)∧0≤t.num∧t.num≤1000
def Cn(p:Put):Prop:=(0≤p.grp∧p.grp≤5)∧p.ts.length≤4∧∀t∈p.ts,IC t
def UU(l:List Pce)(i:Nat):Prop:=(0≤(Cz l i).fr∧(Cz l i).fr≤20000000000)∧(-1000000000000≤(Cz l i).base∧(Cz l i).base≤1000000000000)∧(-1000000≤(Cz l i).rate∧(Cz l i).rate≤1000000)∧(0<i→(Cz l (i - 1)).fr<(Cz l i).fr)
def Pz(l:List Pce):Prop:=l.length≤8∧(0<l.length→(Cz l 0).fr=0)∧∀i<l.length,UU l i
structure RB(x:Ver):Prop where
 fr:0≤x.fr∧x.fr≤100000
 few:x.puts.length≤20
 puts:∀p∈x.puts,Cn p
 ln:∀k<10,Pz (x.ln k).ps
def Py(s:ByteArray):Prop:=(1≤s.size∧s.size≤12)∧∀i<s.size,∀b,s[i]? =some b→(97≤b.toNat∧b.toNat≤122)∨(i≠0∧48≤b.toNat∧b.toNat≤57)
structure mc(x:Cod):Prop where
 name:Py x.name
 some_:1≤x.vers.length∧x.vers.length≤12
 vers:∀i<x.vers.length,RB (Cy x.vers i)∧(0<i→(Cy x.vers (i - 1)).fr<(Cy x.vers i).fr)
structure RmL where
 id:Int
 kind:Int
 opn:Int
 crew:Int
 lo:Int
 hi:Int
def RmL.c(r:RmL):List Value:=[I r.id,I r.kind,I r.opn,I r.crew,I r.lo,I r.hi]
def A6(r:RmL):Prop:=(1≤r.id∧r.id≤999)∧(1≤r.kind∧r.kind≤9)∧(0≤r.opn∧r.opn≤1000)∧(0≤r.crew∧r.crew≤999)∧0≤r.lo∧r.lo≤r.hi∧r.hi≤1000000000
def soT(t:Tst)(r:RmL):Prop:=
 let n:=if t.of_=1 then r.kind else if t.of_=2 then r.opn else r.crew
 if t.how=1 then n<t.num else if t.how=2 then n≤t.num else if t.how=3 then n=t.num else if t.how=4 then n≠t.num else if t.how=5 then n≥t.num else n>t.num
inductive EW(r:RmL):List Put→Int→Prop
 |nil:EW r [] 0
 |here {p:Put} {l:List Put} (h:∀t∈p.ts,soT t r):EW r (p::l) p.grp
 |next {p:Put} {l:List Put} {g:Int} (h:¬∀t∈p.ts,soT t r) (h1:EW r l g):EW r (p::l) g
theorem EW.uniq{r:RmL}{l:List Put}{g f:Int}(h:EW r l g)(k:EW r l f):g=f:=by
 induction h with
 |nil=>cases k;rfl
 |here h=>cases k with
  |here=>rfl
  |next g=>exact (g h).elim
 |next h _ ih=>cases k with
  |here g=>exact (h g).elim
  |next _ g=>exact ih g
theorem EW.bd{r:RmL}{l:List Put}{g:Int}(h:EW r l g)(hl:∀p∈l,Cn p):0≤g∧g≤5:=by
 induction h with
 |nil=>omega
 |here=>exact (hl _ (by simp)).1
 |next _ _ ih=>exact ih fun p hp=>hl p (by simp [hp])
def inF(l:List Ver)(day:Int):Nat→Int
 |0=> -1
 |k+1=>if (Cy l k).fr≤day then (k:Int) else inF l day k
theorem J5(l:List Ver)(day:Int):∀k,-1≤inF l day k∧inF l day k<k
 |0=>by simp [inF]
 |k+1=>by have:=J5 l day k;simp only [inF];split<;>omega
def pcF(l:List Pce)(n:Int):Nat→Nat→Nat
 |0,i=>i
 |k+1,i=>if i+1<l.length∧(Cz l (i+1)).fr≤n then pcF l n k (i+1) else i
def pcN(l:List Pce)(n:Int):Nat:=pcF l n l.length 0
def Of(l:List Pce)(n:Int):Int:=if l.length≤pcN l n then 0 else IntKind.i64.wrap ((Cz l (pcN l n)).base+IntKind.i64.wrap ((Cz l (pcN l n)).rate*n))
def cLo(l:List Pce)(lo:Int)(k:Nat):Int:=if k<l.length then max lo (Cz l k).fr else lo
def cHi(l:List Pce)(hi:Int)(k:Nat):Int:=if k+1<l.length then min hi ((Cz l (k+1)).fr - 1) else hi
def my(l:List Pce)(lo hi:Int):Nat→List (Int×Int)
 |0=>[]
 |k+1=>if cLo l lo k≤cHi l hi k then my l lo hi k++[(cLo l lo k,cHi l hi k)] else my l lo hi k
def A2(l:List Pce)(lo hi:Int):List (Int×Int):=my l lo hi (max l.length 1)
theorem tx(l:List Pce)(lo hi:Int):∀k,(my l lo hi k).length≤k
 |0=>by simp [my]
 |k+1=>by have:=tx l lo hi k;simp only [my];split<;>(try rw [List.length_append,List.length_singleton])<;>omega
def xtS(l:List Pce)(s:Int×Int)(n:Int):Int×Int:=(if Of l n<Of l s.1 then n else s.1,if Of l n>Of l s.2 then n else s.2)
def xtC(l:List Pce)(cs:List (Int×Int))(s:Int×Int):Int×Int:=cs.foldl (fun s c=>xtS l (xtS l s c.1) c.2) s
def xtF(l:List Pce)(lo hi:Int):Int×Int:=xtC l (A2 l lo hi) (lo,lo)
def RP(x:Ver)(f:Nat)(lit:Nat→Int):Nat→Int
 |0=>0
 |k+1=>IntKind.i64.wrap (RP x f lit k+Of (x.ln (5*f+k)).ps (lit k))
def NO(a:Int):Int:=if a.tmod 1000<0 then IntKind.i64.wrap (IntKind.i64.wrap (a.tdiv 1000) - 1) else IntKind.i64.wrap (a.tdiv 1000)
def I7(x:Ver)(f:Nat)(lit:Nat→Int):Int:=NO (RP x f lit 5)
def LB(rooms:List RmL)(g:Int)(k:Nat):Int:=match rooms with|[r]=>if g=(k:Int)+1 then r.lo else 0|_=>0
def LC(rooms:List RmL)(g:Int)(k:Nat):Int:=match rooms with|[r]=>if g=(k:Int)+1 then r.hi else 0|_=>0
def lowF(x:Ver)(f:Nat)(rooms:List RmL)(g:Int):Int:=I7 x f fun k=>(xtF (x.ln (5*f+k)).ps (LB rooms g k) (LC rooms g k)).1
def Xj(x:Ver)(f:Nat)(rooms:List RmL)(g:Int):Int:=I7 x f fun k=>(xtF (x.ln (5*f+k)).ps (LB rooms g k) (LC rooms g k)).2
inductive F0(c:Cod)(day:Int)(f:Nat)(rooms:List RmL):Int→Int→Int→Prop
 |none (h:inF c.vers day c.vers.length<0):F0 c day f rooms 0 0 45
 |room (h:0≤inF c.vers day c.vers.length) (h1:¬∀r∈rooms,A6 r):F0 c day f rooms 0 0 40
 |ok {g:Int} (h:0≤inF c.vers day c.vers.length) (h1:∀r∈rooms,A6 r) (h2:∀r∈rooms,EW r (Cy c.vers (inF c.vers day c.vers.length).toNat).puts g):
   F0 c day f rooms (lowF (Cy c.vers (inF c.vers day c.vers.length).toNat) f rooms g) (Xj (Cy c.vers (inF c.vers day c.vers.length).toNat) f rooms g) 0
theorem F0.uniq{c:Cod}{day:Int}{f:Nat}{rooms:List RmL}{e a' b' e':Int}(hr:rooms.length≤1)(h:F0 c day f rooms a b e)(k:F0 c day f rooms a' b' e'):a=a'∧b=b'∧e=e':=by
 cases h with
 |none h=>cases k with
  |none=>exact ⟨rfl,rfl,rfl⟩
  |room g=>omega
  |ok g=>omega
 |room h h1=>cases k with
  |none g=>omega
  |room=>exact ⟨rfl,rfl,rfl⟩
  |ok _ g=>exact (h1 g).elim
 | @ok g h h1 h2=>cases k with
  |none g=>omega
  |room _ g=>exact (g h1).elim
  | @ok g' _ _ h3=>
   match rooms,hr with
   |[],_=>exact ⟨rfl,rfl,rfl⟩
   |[r],_=>
    obtain rfl:=(h2 r (by simp)).uniq (h3 r (by simp));exact ⟨rfl,rfl,rfl⟩
   |_::_::_,h=>simp at h
end Go.MW
namespace Go.MW
variable{k:Nat}{i:Int}
section
variable{P:Program}{ro:Option Nat}{Q:Exit→FS→World→Prop}{K:FS→World→Prop}{s:FS}{w:World}{H:bp}{σ τ:List Ent}{n d:Nat}{ds:List Deferred}{e:List (Nat×Value)}{ty t:TypeId}{pos:String}{eZ:Array Edge}{v:Value}{x y z:Operand}{b:Nat}
theorem Gk{elem:TypeId}{len:Nat}{q:IntKind}{cs:Array Value}(hu:∀w,(underlying t).run P w= .ok (.array len elem) w)(hz:∀w,(sizeOf elem).run P w= .ok 1 w)(ha:∀w,(isAgg elem).run P w= .ok false w)
  (hx:FS.ev s x=some (.agg cs)) (hy:FS.ev s y=some (.int q i)) (hi:i=(k:Int)) (hk:k<len) (hv:cs[k]? =some v):QJ P H σ s (.index t x y) v:=by
 subst hi;refine ⟨fun _=>by simp,fun a w _ _ _ _ _ hs _=>?_⟩;have h1:(0:Int)≤(k:Int)∧(k:Int)<(len:Int):=⟨by omega,by omega⟩;simp only [execOp,hs.ev hx,hs.ev hy,Instr.index,asIntOf,Sem.run_bind,hu w,Result.andThen,Sem.run_pure,h1,and_self,if_true,hz w,Int.toNat_natCast,Nat.mul_one,p5 ha hv]
theorem Oq{elem:TypeId}{len m:Nat}{q:IntKind}{cs:Array Value}(hu:∀w,(underlying t).run P w= .ok (.array len elem) w)(hz:∀w,(sizeOf elem).run P w= .ok m w)(ha:∀w,(isAgg elem).run P w= .ok true w)
  (hx:FS.ev s x=some (.agg cs)) (hy:FS.ev s y=some (.int q i)) (hi:i=(k:Int)) (hk:k<len) {ws:Array Value} (hv:cs.extract (k*m) (k*m+m)=ws):QJ P H σ s (.index t x y) (.agg ws):=by
 subst hi hv;refine ⟨fun _=>by simp,fun a w _ _ _ _ _ hs _=>?_⟩;simp [execOp,hs.ev hx,hs.ev hy,Instr.index,asIntOf,Sem.run_bind,hu w,Result.andThen,hk,hz w,part,ha w]
theorem sH{elem:TypeId}{b off len m:Nat}{q:IntKind}(hx:FS.ev s x=some (.pointer (some ⟨b,off,none⟩)))(hy:FS.ev s y=some (.int q i))
  (hu:∀w,(underlying t).run P w= .ok (.array len elem) w) (hz:∀w,(sizeOf elem).run P w= .ok m w) (hi:i=(k:Int)) (hk:k<len):
  QJ P H σ s (.indexAddr t x y) (.pointer (some ⟨b,off+k*m,none⟩)):=by
 subst hi;refine ⟨fun _=>by simp,fun a w _ _ _ _ _ ha _=>?_⟩;have h1:(0:Int)≤(k:Int)∧(k:Int)<(len:Int):=⟨by omega,by omega⟩;simp only [execOp,ha.ev hx,ha.ev hy,Instr.indexAt,Instr.sureAddr,asIntOf,Sem.run_bind,hu w,Result.andThen,Sem.run_pure,h1,and_self,if_true,hz w,jI,Int.toNat_natCast]
theorem AK{q:IntKind}{u:ByteArray}{c:UInt8}(hu:∀w,(underlying t).run P w= .ok .string w)
  (hx:FS.ev s x=some (.string u)) (hy:FS.ev s y=some (.int q i)) (hi:i=(k:Int)) (hv:u[k]? =some c):QJ P H σ s (.index t x y) (.int .u8 c.toNat):=by
 subst hi;refine ⟨fun _=>by simp,fun a w _ _ _ _ _ hs _=>?_⟩;have h1:(0:Int)≤(k:Int):=by omega
 simp [execOp,hs.ev hx,hs.ev hy,Instr.index,asIntOf,Sem.run_bind,hu w,Result.andThen,Sem.run_pure,h1,hv]
theorem Oo{u:ByteArray}(hu:∀w,(underlying t).run P w= .ok .string w)(hx:FS.ev s x=some (.string u)):QJ P H σ s (.call ⟨.builtin .len,#[x],#[t]⟩) (.int .i64 u.size):=
 ⟨fun _=>by simp,fun a w _ _ _ _ _ ha _=>by
  simp [execOp,resolve,ha.ev hx,invoke,builtin,Builtin.len_,hu w,goInt,Sem.run_bind]⟩
theorem E7{u:ByteArray}(h:k<u.size):∃c,u[k]? =some c:=⟨u[k],getElem?_pos u k h⟩
theorem HE{key elem:TypeId}{kv zv:Value}{c:Nat}(hx:FS.ev s x=some (.map (some b)))(hy:FS.ev s y=some kv)(hm:Mem σ (.obj b (.map #[] c)))(hu:∀w,(underlying t).run P w= .ok (.map key elem) w)
  (hk:∀w,(Instr.checkKey true 10000 key kv).run P w= .ok () w) {kd:TypeDesc} (DU:∀w,(underlying key).run P w= .ok kd w) (hz:∀w,(zeroValue elem).run P w= .ok zv w):QJ P H σ s (.lookup t x y true) (.tuple #[zv,.bool false]):=
 ⟨fun _=>by simp,fun a w _ _ _ _ _ hs zD=>by
  simp [execOp,hs.ev hx,hs.ev hy,Instr.lookup,Sem.run_bind,Result.andThen,hu w,j5 (P:=P) zD hm,hk w,Instr.findKey,DU w,Instr.findNow,hz w]⟩
theorem OJ.Qt{key elem:TypeId}{mo ko xo:Operand}{kv v:Value}{c:Nat}(hs:St H w σ)(hm:FS.ev s mo=some (.map (some b)))(hk:FS.ev s ko=some kv)(hv:FS.ev s xo=some v)(hu:∀w,(underlying t).run P w= .ok (.map key elem) w)
  (OZ:∀w,(Instr.checkKey false 10000 key kv).run P w= .ok () w) {kd:TypeDesc} (DU:∀w,(underlying key).run P w= .ok kd w)
  (k:∀w',St H w' τ→K s w') (LG:Upd σ (.obj b (.map #[] c)) (.obj b (.map #[{key:=kv,val:=v,born:=c}] (c+1))) τ:=by repeat constructor):
  OJ P ro ⟨none,.mapUpdate t mo ko xo,ty,pos,eZ,none⟩ K s w:=by
 have TA:Mem σ (.obj b (.map #[] c)):=LG.mem;have hb:w.heap[b]? =some (.map #[] c):=hs.own _ TA.mem;refine .sk (w':={w with heap:=w.heap.setIfInBounds b (.map #[{key:=kv,val:=v,born:=c}] (c+1))}) (fun _=>by simp) (fun a ha=>?_) (k _ (hs.putObj LG));simp only [execOp,ha.ev hm,ha.ev hk,ha.ev hv,Instr.mapUpdate,Sem.run_bind,hu w,Result.andThen,j5 hs TA,OZ w,Instr.findKey,DU w,Instr.findNow];simp [setObj,Sem.run,hb]
end
end Go.MW
namespace Go.Proofs.YtfnfiekkdpphjaaGreat
open Go.MW Tryz
variable{H:bp}{σ:List Ent}{a0 a1 a2 m a most hi lo f e z1 z2 z3 known fl id number day:Int}{ls:List Lim}{g b k b1 bf bt bl cl i bm bc bn:Nat}{cap sp:List Value}{s:Spc}{xs lf ws l X Y pk days:List Int}{en:Ent}{ts:List TD}{vl vt vd vp vw v1 v2 vr vc d vs v5 v4 b' tap dn b2 c2 d2 ve:Value}{t:TD}{rows:List (List Int)}{fG:List F5}{fL:List F4}{th:Bool}
theorem vJ{Q:Nat→Prop}(h:∀j<k,Q j)(h1:Q k):∀j<k+1,Q j:=fun j hj=>by
 rcases Nat.lt_succ_iff_lt_or_eq.1 hj with h2|rfl
 ·exact h j h2
 ·exact h1
theorem bH{w:World}(hs:St H w σ):aaq 53 [I a0,I a1,I a2] w fun v w'=>v= .bool (decide (a1≤a0∧a0≤a2))∧St H w' σ:=by
 refine Cl.o func53 ntmps53 ag3 ?_;refine .af (.zn zg (.af (.z zm (.z zm (.z ql (.z zm (.jK (t':=10) rfl (fun nL=>?_) (fun nL=>?_))))))))
 ·exact .T (.z zm (.T (.z zm (.T (.z ql (.z zpT (.zn zg (.ret (Fin.aW results53 rfl ⟨by simp [*],hs.out⟩)))))))))
 ·exact .Fs 3 3 true (.z zpF (.zn zg (.ret (Fin.aW results53 rfl ⟨by simp [*],hs.out⟩))))
theorem wX{w:World}{t:Tst}(hs:St H w σ):aaq 165 [.agg t.c.toArray] w fun v w'=>∃b:Bool,v= .bool b∧(b=true↔IC t)∧St H w' σ:=by
 refine Cl.o func165 ntmps165 ag1 ?_;refine .af (.bx hs fun b1 w hs=>?_);refine .zn zg (.af (.z (zfa tk) (.y hs (zld aj) (.o (.call oI rfl (bH hs) ?_)))));rintro _ w ⟨rfl,hs⟩;refine .z zm (.bif (t':=6) rfl (fun IY=>?_) (fun IY=>?_))
 ·refine .T (.z (zfa tj) (.T (.y hs (zld aj) (.T (.o (.call oI rfl (bH hs) ?_))))));rintro _ w ⟨rfl,hs⟩;refine .z zpT (.z zm (.bif (t':=11) rfl (fun tc=>?_) (fun tc=>?_)))
  ·refine .T (.z (zfa gn) (.T (.y hs (zld aj) (.T (.o (.call oI rfl (bH hs) ?_))))));rintro _ w ⟨rfl,hs⟩;exact .z zpT (.zn zg (.ret (Fin.aW results165 rfl ⟨_,rfl,by unfold IC;simp_all,hs.out⟩)))
  ·exact .Fs 3 8 true (.z zpF (.zn zg (.ret (Fin.aW results165 rfl ⟨_,rfl,⟨fun h=>(by cases h),fun h=>(by have:=h.2.1;simp at tc;omega)⟩,hs.out⟩))))
 ·exact .Fs 3 3 true (.z zpF (.z zm (.Fs 3 8 true (.z zpF (.zn zg (.ret (Fin.aW results165 rfl ⟨_,rfl,⟨fun h=>(by cases h),fun h=>(by have:=h.1;simp at IY;omega)⟩,hs.out⟩)))))))
theorem vi{w:World}{t:Tst}(hs:St H w σ):aaq 164 [.agg t.c.toArray] w fun v w'=>∃b:Bool,v= .bool b∧(b=true↔¬IC t)∧St H w' σ:=by
 refine Cl.o func164 ntmps164 ag1 ?_;refine .af (.bx hs fun b1 w hs=>?_);refine .zn zg (.af (.y hs (zls [_,_,_] isAgg312 IL) (.o (.call call165 rfl (wX (t:=t) hs) ?_))));rintro _ w ⟨b,rfl,hb,hs⟩;exact .z fF (.zn zg (.ret (Fin.aW results164 rfl ⟨_,rfl,by rw [←hb];cases b<;>simp,hs.out⟩)))
theorem Cq{w:World}{v:Value}{ls:List Tst}{q:Tst→Prop}(hs:St H w σ)(hr:RS H 3 v (ls.map Tst.c))
  (hc:∀args w,(callFunc g args).run Tryz.prog w= .ok (.enter g args) w) (hp:∀w l,St H w σ→aaq g ([.agg l.c.toArray]++cap) w fun u w'=>∃b,u= .bool b∧(b=true↔q l)∧St H w' σ):
  aaq 224 [v,.func (.func g) #[] cap.toArray] w fun u w'=>∃i,u=I i∧(0≤i↔∃p∈ls,q p)∧St H w' σ:=by
 obtain ⟨a,c,rfl⟩:=hr.shape;have hl:=hr.len.2.2;rw [List.length_map] at hr hl ⊢;refine Cl.o func224 ntmps224 ag2 ?_;refine .af (.zn zg (.seq (.af (.z zm (.z (bT CL) (.zn zm (.for (N:=ls.length) (J:=fun k fr w=>fr=[(1,.func (.func g) #[] cap.toArray),(0,.slice a ls.length c)]∧St H w σ∧∀j<k,∀l,ls[j]? =some l→¬q l) ak ?_ ?_ ?_)))))))
 ·exact .mk ⟨rfl,hs,fun j hj=>by omega⟩
 ·rintro k fr w hk ⟨rfl,hs,ew⟩;obtain ⟨l,hl⟩:=nth hk;refine .block (.af (.z zm (.zn zg (.af (.z zm (.z zm (.z zm (.ixX hs hr rfl rfl CL IL hl rfl ?_))))))));intro tZ o14 fq;refine .y hs (zls [_,_,_] isAgg312 IL) (.o (.jN (first:=[]) rfl rfl hc (hp _ _ hs) ?_));rintro _ w ⟨vC,rfl,mJ,hs⟩;refine .nil (.cond rfl (fun dO=>?_) (fun dO=>?_))
  ·exact .af (.z zm (.zn zg (.ret (rB (rT (rB (rT (Fin.aW results224 rfl ⟨_,rfl,⟨fun _=>⟨l,List.mem_of_getElem? hl,mJ.1 dO⟩,fun _=>by omega⟩,hs⟩))))))))
  ·exact .skip (nB (nT (.mk ⟨rfl,hs,eU ew hl (fun h=>by rw [mJ.2 h] at dO;cases dO)⟩)))
 ·rintro fr w ⟨rfl,hs,ew⟩;refine nT (.af (.zn zg (.ret (Fin.aW results224 rfl ?_))));exact ⟨_,rfl,⟨fun h=>by omega,fun ⟨p,h1,h2⟩=>by
   obtain ⟨j,hj⟩:=List.getElem?_of_mem h1;exact (ew j (List.getElem?_eq_some_iff.1 hj).1 p hj h2).elim⟩,hs⟩
theorem xl{w:World}{v:Value}{ls:List Tst}{q:Tst→Prop}(hs:St H w σ)(hr:RS H 3 v (ls.map Tst.c))
  (hc:∀args w,(callFunc g args).run Tryz.prog w= .ok (.enter g args) w) (hp:∀w l,St H w σ→aaq g ([.agg l.c.toArray]++cap) w fun u w'=>∃b,u= .bool b∧(b=true↔q l)∧St H w' σ):
  aaq 163 [v,.func (.func g) #[] cap.toArray] w fun u w'=>∃b,u= .bool b∧(b=true↔∃p∈ls,q p)∧St H w' σ:=by
 refine Cl.o func163 ntmps163 ag2 ?_;refine .af (.zn zg (.af (.z zm (.z zm (.o (.call call224 rfl (Cq hs hr hc hp) ?_))))));rintro _ w ⟨i,rfl,hi,hs⟩;exact .z zC (.zn zg (.ret (Fin.aW results163 rfl ⟨_,rfl,by simp only [decide_eq_true_eq];exact hi,hs⟩)))
theorem y6{w:World}{p:Put}(hs:St H w σ)(hp:N3 H p):aaq 97 [.agg p.v.toArray] w fun v w'=>∃b:Bool,v= .bool b∧(b=true↔Cn p)∧St H w' σ:=by
 have hl:=(RS.len hp).2.2;refine Cl.o func97 ntmps97 ag1 ?_;refine .af (.bx hs fun b1 w hs=>?_);refine .zn zg (.af (.z (zfa vZ) (.y hs (zld aj) (.o (.call oI rfl (bH hs) ?_)))));rintro _ w ⟨rfl,hs⟩;refine .z zm (.bif (t':=6) rfl (fun IY=>?_) (fun IY=>?_))
 ·refine .T (.z (zfa pM) (.T (.y hs (zld isAgg214) (.T (.z (bT CL) (.T (.z ql (.z zpT (.z zm (.jK (t':=12) rfl (fun yR=>?_) (fun yR=>?_)))))))))))
  ·refine .T (.z (zfa pM) (.T (.y hs (zld isAgg214) (.T (.o (.call call163 rfl (xl (cap:=[]) (q:=fun t=>¬IC t) hs hp call164 (fun w t hs=>vi hs)) ?_))))));rintro _ w ⟨b,rfl,hb,hs⟩;refine .T (.z fF (.z zpT (.zn zg (.ret (Fin.aW results97 rfl ?_)))));exact ⟨_,rfl,by
    simp only [decide_eq_true_eq] at IY;unfold Cn;constructor
    ·intro h;refine ⟨IY,ak,fun t ht=>Classical.byContradiction fun hn=>?_⟩;have:=hb.2 ⟨t,ht,hn⟩;rw [this] at h;cases h
    ·intro h
     cases b with
     |false=>rfl
     |true=>obtain ⟨t,ht,hn⟩:=hb.1 rfl;exact (hn (h.2.2 t ht)).elim,hs.out⟩
  ·exact .Fs 4 9 true (.z zpF (.zn zg (.ret (Fin.aW results97 rfl ⟨_,rfl,⟨fun h=>(by cases h),fun h=>(by have:=h.2.1;omega)⟩,hs.out⟩))))
 ·exact .Fs 4 3 true (.z zpF (.z zm (.Fs 4 9 true (.z zpF (.zn zg (.ret (Fin.aW results97 rfl ⟨_,rfl,⟨fun h=>(by cases h),fun h=>(by have:=h.1;simp at IY;omega)⟩,hs.out⟩)))))))
theorem pO{w:World}{p:Put}(hs:St H w σ)(hp:N3 H p):aaq 96 [.agg p.v.toArray] w fun v w'=>∃b:Bool,v= .bool b∧(b=true↔¬Cn p)∧St H w' σ:=by
 refine Cl.o func96 ntmps96 ag1 ?_;refine .af (.bx hs fun b1 w hs=>?_);refine .zn zg (.af (.y hs (zls [_,_] isAgg216 U4) (.o (.call call97 rfl (y6 (p:=p) hs hp) ?_))));rintro _ w ⟨b,rfl,hb,hs⟩;exact .z fF (.zn zg (.ret (Fin.aW results96 rfl ⟨_,rfl,by rw [←hb];cases b<;>simp,hs.out⟩)))
theorem Cr{w:World}{v:Value}{ls:List Put}{q:Put→Prop}(hs:St H w σ)(hr:RS H 2 v (ls.map Put.v))
  (hc:∀args w,(callFunc g args).run Tryz.prog w= .ok (.enter g args) w) (hp:∀w,∀l∈ls,St H w σ→aaq g ([.agg l.v.toArray]++cap) w fun u w'=>∃b,u= .bool b∧(b=true↔q l)∧St H w' σ):
  aaq 162 [v,.func (.func g) #[] cap.toArray] w fun u w'=>∃i,u=I i∧(0≤i↔∃p∈ls,q p)∧St H w' σ:=by
 obtain ⟨a,c,rfl⟩:=hr.shape;have hl:=hr.len.2.2;rw [List.length_map] at hr hl ⊢;refine Cl.o func162 ntmps162 ag2 ?_;refine .af (.zn zg (.seq (.af (.z zm (.z (bT CN) (.zn zm (.for (N:=ls.length) (J:=fun k fr w=>fr=[(1,.func (.func g) #[] cap.toArray),(0,.slice a ls.length c)]∧St H w σ∧∀j<k,∀l,ls[j]? =some l→¬q l) ak ?_ ?_ ?_)))))))
 ·exact .mk ⟨rfl,hs,fun j hj=>by omega⟩
 ·rintro k fr w hk ⟨rfl,hs,ew⟩;obtain ⟨l,hl⟩:=nth hk;refine .block (.af (.z zm (.zn zg (.af (.z zm (.z zm (.z zm (.ixX hs hr rfl rfl CN U4 hl rfl ?_))))))));intro tZ o14 fq;refine .y hs (zls [_,_] isAgg216 U4) (.o (.jN (first:=[]) rfl rfl hc (hp _ _ (List.mem_of_getElem? hl) hs) ?_));rintro _ w ⟨vC,rfl,mJ,hs⟩;refine .nil (.cond rfl (fun dO=>?_) (fun dO=>?_))
  ·exact .af (.z zm (.zn zg (.ret (rB (rT (rB (rT (Fin.aW results162 rfl ⟨_,rfl,⟨fun _=>⟨l,List.mem_of_getElem? hl,mJ.1 dO⟩,fun _=>by omega⟩,hs⟩))))))))
  ·exact .skip (nB (nT (.mk ⟨rfl,hs,eU ew hl (fun h=>by rw [mJ.2 h] at dO;cases dO)⟩)))
 ·rintro fr w ⟨rfl,hs,ew⟩;refine nT (.af (.zn zg (.ret (Fin.aW results162 rfl ?_))));exact ⟨_,rfl,⟨fun h=>by omega,fun ⟨p,h1,h2⟩=>by
   obtain ⟨j,hj⟩:=List.getElem?_of_mem h1;exact (ew j (List.getElem?_eq_some_iff.1 hj).1 p hj h2).elim⟩,hs⟩
theorem xm{w:World}{v:Value}{ls:List Put}{q:Put→Prop}(hs:St H w σ)(hr:RS H 2 v (ls.map Put.v))
  (hc:∀args w,(callFunc g args).run Tryz.prog w= .ok (.enter g args) w) (hp:∀w,∀l∈ls,St H w σ→aaq g ([.agg l.v.toArray]++cap) w fun u w'=>∃b,u= .bool b∧(b=true↔q l)∧St H w' σ):
  aaq 95 [v,.func (.func g) #[] cap.toArray] w fun u w'=>∃b,u= .bool b∧(b=true↔∃p∈ls,q p)∧St H w' σ:=by
 refine Cl.o func95 ntmps95 ag2 ?_;refine .af (.zn zg (.af (.z zm (.z zm (.o (.call call162 rfl (Cr hs hr hc hp) ?_))))));rintro _ w ⟨i,rfl,hi,hs⟩;exact .z zC (.zn zg (.ret (Fin.aW results95 rfl ⟨_,rfl,by simp only [decide_eq_true_eq];exact hi,hs⟩)))
set_option maxHeartbeats 2000000 in
theorem wZ{w:World}{l:List Pce}{a:Option Addr}{c:Nat}(hs:St H w σ)(hr:RS H 3 (.slice a l.length c) (l.map Pce.c)):aaq 98 [.slice a l.length c] w fun v w'=>∃b:Bool,v= .bool b∧(b=true↔Pz l)∧St H w' σ:=by
 have hl:=(RS.len hr).2.2;refine Cl.o func98 ntmps98 ag1 ?_;refine .af (.zn zg (.cut (fun fs w=>(l.length≤8∧(0<l.length→(Cz l 0).fr=0))∧ob fs ⟨59,[],[(0,.slice a l.length c)]⟩∧St H w σ) ?_ ?_))
 ·refine .af (.z zm (.z (bT bZ) (.z nE (.z zm (.jK (t':=8) rfl (fun IX=>?_) (fun IX=>?_))))))
  ·exact .Fs 4 3 false (.Fs 5 7 true (.Fs 1 3 false (.zn zpT (.cT (.af (.zn zg (.ret (rT (Fin.aW IN rfl ⟨_,rfl,⟨fun h=>(by cases h),fun h=>(by have:=h.1;omega)⟩,hs.out⟩)))))))))
  ·refine .T (.z zm (.T (.z (bT bZ) (.T (.z nE (.T (.z zm (.jK (t':=12) rfl (fun yR=>?_) (fun yR=>?_)))))))))
   ·refine .T (.z zm (.T ?_));have CB:=nI (l:=l) (i:=0) ak;refine .ixX (enc:=Pce.c) hs hr rfl rfl bZ oU CB rfl ?_;intro tZ o14 fq;refine .T (.z (zfa fC) (.T (.q hs (aR rfl aj (fq.get 0 rfl)) (.T (.z gv (.T (.z zpT (.zn zpF (.gN rfl (fun j9=>?_) (fun j9=>?_))))))))))
    ·exact .af (.zn zg (.ret (rT (Fin.aW IN rfl ⟨_,rfl,⟨fun h=>(by cases h),fun h=>(by have:=h.2.1 ak;simp_all)⟩,hs.out⟩))))
    ·exact .skip (nT ⟨⟨ak,fun _=>by simpa using j9⟩,bg,hs⟩)
   ·exact .Fs 5 7 true (.T (.z zpF (.zn zpF (.cF (.skip (nT ⟨⟨ak,fun h=>ak⟩,bg,hs⟩))))))
 ·clear hs;rintro fs w ⟨⟨h8,h0⟩,j8,hs⟩;refine WE.sub ?_ j8;clear j8;refine .seq (.af (.z zm (.z (bT bZ) (.zn zm (.for (N:=l.length) (J:=fun k fr w=>fr=[(20,.slice a l.length c),(0,.slice a l.length c)]∧St H w σ∧∀j<k,UU l j) ak ?_ ?_ ?_)))))
  ·exact .mk ⟨rfl,hs,fun j hj=>by omega⟩
  ·rintro k fr w hk ⟨rfl,hs,ew⟩;have hx:=nI (l:=l) (i:=k) hk;refine .block (.af (.z zm (.ixX (enc:=Pce.c) hs hr rfl rfl bZ oU hx rfl ?_)));intro Lj o25 jq;refine .q hs (bj (vs:=(Cz l k).c) rfl isAgg315 oU jq) (.o (.alloc hs zeroValue315 rfl fun b4 w hs=>?_));refine .z zg (.o (.aL (vs:=[_,_,_]) hs rfl rfl oU fun w hs=>?_));refine .nil (.seq (.draw mix rfl hs fun w hs=>?_));refine .zw 0 rfl (zfa fC) ?_;refine .y 1 rfl hs aj ?_;refine .E 2 hs ?_;refine .call oI rfl (bH hs) ?_;rintro _ w ⟨rfl,hs⟩;refine .go (.zw 3 rfl fF ?_);refine .z 4 rfl zm ?_;refine .bif (t':=31) rfl (fun ta=>?_) (fun ta=>?_)
   ·refine .F 5 rfl (.F 6 rfl (.F 7 rfl (.F 8 rfl (.zw 9 rfl zpT ?_))));refine .z 10 rfl zm ?_;refine .F 11 rfl (.F 12 rfl (.F 13 rfl (.F 14 rfl (.zw 15 rfl zpT ?_))));refine .z 16 rfl zm ?_;refine .F 17 rfl ?_;refine .F 18 rfl (.F 19 rfl (.F 20 rfl (.F 21 rfl (.F 22 rfl (.F 23 rfl (.F 24 rfl (.F 25 rfl (.F 26 rfl (.F 27 rfl (.F 28 rfl (.F 29 rfl (.zw 30 rfl zpT ?_))))))))))));refine .D hs ?_;exact (.cT (.af (.zn zg (.ret (rB (rT (rB (rT (Fin.aW IN rfl ⟨_,rfl,⟨fun h=>(by cases h),fun h=>(by have:=(h.2.2 k hk).1;simp at ta;omega)⟩,hs.out⟩)))))))))
   ·refine .zw 5 rfl (zfa qY) ?_;refine .y 6 rfl hs aj ?_;refine .E 7 hs ?_;refine .call oI rfl (bH hs) ?_;rintro _ w ⟨rfl,hs⟩;refine .go (.zw 8 rfl fF ?_);refine .z 9 rfl zpF ?_;refine .z 10 rfl zm ?_;refine .bif (t':=37) rfl (fun Ie=>?_) (fun Ie=>?_)
    ·refine .F 11 rfl (.F 12 rfl (.F 13 rfl (.F 14 rfl (.zw 15 rfl zpT ?_))));refine .z 16 rfl zm ?_;refine .F 17 rfl ?_;refine .F 18 rfl (.F 19 rfl (.F 20 rfl (.F 21 rfl (.F 22 rfl (.F 23 rfl (.F 24 rfl (.F 25 rfl (.F 26 rfl (.F 27 rfl (.F 28 rfl (.F 29 rfl (.zw 30 rfl zpT ?_))))))))))));refine .D hs ?_;exact (.cT (.af (.zn zg (.ret (rB (rT (rB (rT (Fin.aW IN rfl ⟨_,rfl,⟨fun h=>(by cases h),fun h=>(by have:=(h.2.2 k hk).2.1;simp at Ie;omega)⟩,hs.out⟩)))))))))
    ·refine .zw 11 rfl (zfa qX) ?_;refine .y 12 rfl hs aj ?_;refine .E 13 hs ?_;refine .call oI rfl (bH hs) ?_;rintro _ w ⟨rfl,hs⟩;refine .go (.zw 14 rfl fF ?_);refine .z 15 rfl zpF ?_;refine .z 16 rfl zm ?_;refine .bif (t':=43) rfl (fun Nr=>?_) (fun Nr=>?_)
     ·refine .F 17 rfl ?_;refine .F 18 rfl (.F 19 rfl (.F 20 rfl (.F 21 rfl (.F 22 rfl (.F 23 rfl (.F 24 rfl (.F 25 rfl (.F 26 rfl (.F 27 rfl (.F 28 rfl (.F 29 rfl (.zw 30 rfl zpT ?_))))))))))));refine .D hs ?_;exact (.cT (.af (.zn zg (.ret (rB (rT (rB (rT (Fin.aW IN rfl ⟨_,rfl,⟨fun h=>(by cases h),fun h=>(by have:=(h.2.2 k hk).2.2.1;simp at Nr;omega)⟩,hs.out⟩)))))))))
     ·refine .zw 17 rfl zm ?_;refine .z 18 rfl nE ?_;refine .z 19 rfl zm ?_;refine .jK (t':=46) rfl (fun Ib=>?_) (fun Ib=>?_)
      ·refine .zw 20 rfl zm ?_;refine .z 21 rfl zm ?_;have EO:0<k:=by omega
       have BM:=nI (l:=l) (i:=k - 1) ak;refine .zw 22 rfl jj ?_;rw [show ((k:Int) - 1)=((k - 1:Nat):Int) by omega];refine .ixX (enc:=Pce.c) (i:=23) hs rfl aF (.some rfl rfl) hr rfl rfl bZ oU BM rfl ?_;intro VS o50 QT;refine .zw 24 rfl (zfa fC) (.r (i:=25) hs rfl aF (.some rfl rfl) (aR rfl aj (QT.get 0 rfl)) ?_);refine .zw 26 rfl (zfa fC) ?_;refine .y 27 rfl hs aj ?_;refine .z 28 rfl zC ?_;refine .z 29 rfl zpT ?_;refine .z 30 rfl zpF ?_;refine .D hs ?_;refine (.bQ rfl (fun QQ=>?_) (fun QQ=>?_))
       ·exact .af (.zn zg (.ret (rB (rT (rB (rT (Fin.aW IN rfl ⟨_,rfl,⟨fun h=>(by cases h),fun h=>(by have:=(h.2.2 k hk).2.2.2 EO;omega)⟩,hs.out⟩)))))))
       ·exact .skip (nB (nT (.mk ⟨rfl,hs.out,vJ ew (by simp at ta Ie Nr;exact ⟨ak,ak,ak,fun _=>by omega⟩)⟩)))
      ·refine .F 20 rfl (.F 21 rfl (.F 22 rfl (.F 23 rfl (.F 24 rfl (.F 25 rfl (.F 26 rfl (.F 27 rfl (.F 28 rfl (.zw 29 rfl zpF ?_)))))))));refine .z 30 rfl zpF ?_;refine .D hs ?_;exact (.cF (.skip (nB (nT (.mk ⟨rfl,hs.out,vJ ew (by simp at ta Ie Nr;exact ⟨ak,ak,ak,fun _=>by omega⟩)⟩)))))
  ·rintro fr w ⟨rfl,hs,ew⟩;exact nT (.af (.zn zg (.ret (Fin.aW IN rfl ⟨_,rfl,⟨fun _=>⟨h8,h0,ew⟩,fun _=>rfl⟩,hs.out⟩))))
set_option maxHeartbeats 2000000 in
theorem rZ{w:World}{x:Ver}(hs:St H w σ)(hx:I0 H x):aaq 54 [x.agg] w fun v w'=>∃b:Bool,v= .bool b∧(b=true↔RB x)∧St H w' σ:=by
 have GB:=(RS.len hx.rs).2.2;refine Cl.o func54 ntmps54 ag1 ?_;refine .af (.bx hs fun b1 w hs=>?_);refine .zn zg (.seq (.af (.z (zfa iV) (.y hs (zld aj) (.o (.call oI rfl (bH hs) ?_))))));rintro _ w ⟨rfl,hs⟩;refine .z fF (.z zm (.bif (t':=11) rfl (fun tc=>?_) (fun tc=>?_)))
 ·exact .Fs 4 4 false (.z zpT (.z zm (.Fs 3 10 false (.zn zpT (.cT (.af (.zn zg (.ret (rT (Fin.aW results54 rfl ⟨_,rfl,⟨fun h=>(by cases h),fun h=>(by have:=h.fr;simp at tc;omega)⟩,hs.out⟩))))))))))
 ·refine .T (.z (zfa kV) (.T (.y hs (zld isAgg152) (.T (.z (bT CN) (.T (.z nE (.z zpF (.z zm (.jK (t':=17) rfl (fun FJ=>?_) (fun FJ=>?_)))))))))))
  ·exact .Fs 3 10 false (.zn zpT (.cT (.af (.zn zg (.ret (rT (Fin.aW results54 rfl ⟨_,rfl,⟨fun h=>(by cases h),fun h=>(by have:=h.few;omega)⟩,hs.out⟩)))))))
  ·refine .T (.z (zfa kV) (.T (.y hs (zld isAgg152) (.T (.o (.call call95 rfl (xm (cap:=[]) (q:=fun p=>¬Cn p) hs hx.rs call96 (fun w p hp hs=>pO hs (hx.puts p hp))) ?_))))));rintro _ w ⟨b,rfl,hb,hs⟩;refine .zn zpF (.cond rfl (fun s9=>?_) (fun s9=>?_))
   ·exact .af (.zn zg (.ret (rT (Fin.aW results54 rfl ⟨_,rfl,⟨fun h=>(by cases h),fun h=>(by obtain ⟨p,h1,h2⟩:=hb.1 s9;exact (h2 (h.puts p h1)).elim)⟩,hs.out⟩))))
   ·refine .skip (nT (.seq (.af ?_)));have Tn:∀p∈x.puts,Cn p:=fun p hp=>Classical.byContradiction fun hn=>by
     rw [hb.2 ⟨p,hp,hn⟩] at s9;cases s9
    simp at tc;refine .z (zfa kU) (.y hs (zls [_,_,_,_,_,_,_,_,_,_] isAgg155 sizeOf155) (.zn zm (.block ?_)));refine .loop (fun k:Nat=>⟨36,[],[(24,I (k:Int)),(23,.agg #[(x.ln 0).v,(x.ln 1).v,(x.ln 2).v,(x.ln 3).v,(x.ln 4).v,(x.ln 5).v,(x.ln 6).v,(x.ln 7).v,(x.ln 8).v,(x.ln 9).v])]⟩)
     (fun k w=>k≤2∧(∀j<5*k,Pz (x.ln j).ps)∧St H w σ) (fun k=>2 - k) 0 (.dw rfl aU bg) ⟨Nat.zero_le _,fun j hj=>by omega,hs.out⟩ ?_
    clear hs;rintro k w ⟨hk,ew,hs⟩;refine .af (.zn fT (.seq (.bQ rfl (fun jq=>?_) (fun jq=>?_))))
    ·refine .skip (nT (.seq (.block (.af ?_))));refine .q hs (Oq (k:=k) (m:=5) (ws:=#[(x.ln (5*k)).v,(x.ln (5*k+1)).v,(x.ln (5*k+2)).v,(x.ln (5*k+3)).v,(x.ln (5*k+4)).v]) runUnderlying155 sizeOf154 isAgg154 rfl rfl rfl ak (by
      have:k=0∨k=1:=by omega
      rcases this with rfl|rfl<;>rfl)) ?_
     refine .o (.alloc hs zeroValue154 rfl fun b4 w hs=>?_);refine .o (.aL (vs:=[_,_,_,_,_]) hs rfl rfl sizeOf154 fun w hs=>?_);refine .nil (.af (.y hs (zls [_,_,_,_,_] isAgg154 sizeOf154) (.zn zm (.block ?_))));refine .loop (fun i:Nat=>⟨36,[],[(28,I (i:Int)),(27,.agg #[(x.ln (5*k)).v,(x.ln (5*k+1)).v,(x.ln (5*k+2)).v,(x.ln (5*k+3)).v,(x.ln (5*k+4)).v]),(24,I (k:Int)),(23,.agg #[(x.ln 0).v,(x.ln 1).v,(x.ln 2).v,(x.ln 3).v,(x.ln 4).v,(x.ln 5).v,(x.ln 6).v,(x.ln 7).v,(x.ln 8).v,(x.ln 9).v])]⟩)
      (fun i w=>i≤5∧(∀j<5*k+i,Pz (x.ln j).ps)∧St H w σ) (fun i=>5 - i) 0 (.dw rfl aU bg) ⟨Nat.zero_le _,ew,hs.out⟩ ?_
     clear hs ew;rintro i w ⟨hi,ew,hs⟩;refine .af (.zn fT (.seq (.bQ rfl (fun Aa=>?_) (fun Aa=>?_))))
     ·refine .skip (nT (.seq (.block (.af ?_))));refine .q hs (Gk (k:=i) (v:=(x.ln (5*k+i)).v) runUnderlying154 sizeOf153 PJ rfl rfl rfl ak (by
       have:i=0∨i=1∨i=2∨i=3∨i=4:=by omega
       rcases this with rfl|rfl|rfl|rfl|rfl<;>rfl)) ?_
      refine .zn zg (.af (.z zm (.o (.call call98 rfl (wZ (l:=(x.ln (5*k+i)).ps) hs (hx.ln (5*k+i) ak)) ?_))));rintro _ w ⟨Se,rfl,Ns,hs⟩;refine .zn fF (.cond rfl (fun s7=>?_) (fun s7=>?_))
      ·exact .af (.zn zg (.ret (rB (rT (rT (rB (rB (rT (rT (rB (rT (Fin.aW results54 rfl ⟨_,rfl,⟨fun h=>(by cases h),fun h=>(by rw [Ns.2 (h.ln _ ak)] at s7;cases s7)⟩,hs.out⟩))))))))))))
      ·exact .skip (nB (nT (.region (.z cC (.zn zm (nT ⟨i+1,.dw rfl aU bg,⟨ak,vJ ew (Ns.1 (by simpa using s7)),hs⟩,ak⟩))))))
     ·exact .exit (xT (xT (xB (nB (nT (.region (.z cC (.zn zm (nT ⟨k+1,.dw rfl aU bg,⟨ak,fun j hj=>ew j ak,hs⟩,ak⟩)))))))))
    ·exact .exit (xT (xT (xB (nT (.af (.zn zg (.ret (Fin.aW results54 rfl ⟨_,rfl,⟨fun _=>⟨ak,ak,Tn,fun j hj=>ew j ak⟩,fun _=>rfl⟩,hs⟩))))))))
set_option maxHeartbeats 2000000 in
theorem wY{w:World}{s:ByteArray}(hs:St H w σ):aaq 52 [.string s] w fun v w'=>∃b:Bool,v= .bool b∧(b=true↔Py s)∧St H w' σ:=by
 refine Cl.o func52 ntmps52 ag1 ?_;refine .af (.zn zg (.seq (.af (.z zm (.q hs (Oo k9 rfl) (.o (.call oI rfl (bH hs) ?_)))))));rintro _ w ⟨rfl,hs⟩;refine .zn fF (.cond rfl (fun EP=>?_) (fun EP=>?_))
 ·exact .af (.zn zg (.ret (rT (Fin.aW Aw rfl ⟨_,rfl,⟨fun h=>(by cases h),fun h=>(by have:=h.1;simp at EP;omega)⟩,hs.out⟩))))
 ·refine .skip (nT (.seq (.af (.z zm ?_))));simp at EP;refine .q hs (Oo k9 rfl) (.zn zm (.for (N:=s.size) (J:=fun k fr w=>fr=[(0,.string s)]∧St H w σ∧∀i<k,∀b,s[i]? =some b→(97≤b.toNat∧b.toNat≤122)∨(i≠0∧48≤b.toNat∧b.toNat≤57)) ak ?_ ?_ ?_))
  ·exact .mk ⟨rfl,hs,fun j hj=>by omega⟩
  ·rintro k fr w hk ⟨rfl,hs,ew⟩;obtain ⟨c,hc⟩:=E7 hk;refine .block (.af (.z zm (.zn zg (.af (.z zm (.z zm (.q hs (AK k9 rfl rfl rfl hc) (.z ql (.z zm (.jK (t':=18) rfl (fun FI=>?_) (fun FI=>?_)))))))))))
   ·refine .T (.z zm (.T (.z zm (.T (.q hs (AK k9 rfl rfl rfl hc) (.T (.z ql (.z zpT (.zn zg (.af (.z zm (.z fF (.z zm (.G2 (t':=26) rfl (fun BU=>?_) (fun BU=>?_)))))))))))))))
    ·refine .T (.z zm (.T (.z fW (.T (.z zm (.jK (t':=29) rfl (fun KG=>?_) (fun KG=>?_)))))))
     ·refine .Fs 4 5 false (.T (.z zpT (.T (.z zm (.Fs 4 11 false (.T (.z zpT (.zn zpT (.cT (.af (.zn zg (.ret (rB (rT (rB (rT (Fin.aW Aw rfl ?_)))))))))))))))));first
      |exact ⟨_,rfl,⟨fun h=>(by cases h),fun h=>(by have:=h.2 k hk c hc;omega)⟩,hs.out⟩
      |exact ⟨_,rfl,⟨fun _=>⟨ak,ew⟩,fun _=>rfl⟩,hs.out⟩
     ·refine .T (.z zm (.T (.z zm (.T (.q hs (AK k9 rfl rfl rfl hc) (.T (.z fT (.T (.z zpF (.T (.z zm (.jK (t':=35) rfl (fun yQ=>?_) (fun yQ=>?_)))))))))))))
      ·refine .Fs 4 11 false (.T (.z zpT (.zn zpT (.cT (.af (.zn zg (.ret (rB (rT (rB (rT (Fin.aW Aw rfl ?_))))))))))));first
       |exact ⟨_,rfl,⟨fun h=>(by cases h),fun h=>(by have:=h.2 k hk c hc;omega)⟩,hs.out⟩
       |exact ⟨_,rfl,⟨fun _=>⟨ak,ew⟩,fun _=>rfl⟩,hs.out⟩
      ·refine .T (.z zm (.T (.z zm (.T (.q hs (AK k9 rfl rfl rfl hc) (.T (.z nE (.T (.z zpF (.zn zpT (.bQ rfl (fun z8=>?_) (fun z8=>?_))))))))))))
       ·refine .af (.zn zg (.ret (rB (rT (rB (rT (Fin.aW Aw rfl ?_)))))));first
        |exact ⟨_,rfl,⟨fun h=>(by cases h),fun h=>(by have:=h.2 k hk c hc;omega)⟩,hs.out⟩
        |exact ⟨_,rfl,⟨fun _=>⟨ak,ew⟩,fun _=>rfl⟩,hs.out⟩
       ·refine .skip (nB (nT ?_));exact .mk ⟨rfl,hs.out,vJ ew (fun b h=>by
         rw [hc] at h;obtain rfl:=Option.some.inj h;omega)⟩
    ·refine .Fs 3 2 true (.Fs 4 5 false (.Fs 2 2 true (.Fs 4 11 false (.Fs 1 2 true (.zn zpF (.cF (.skip (nB (nT ?_)))))))));exact .mk ⟨rfl,hs.out,vJ ew (fun b h=>by
      rw [hc] at h;obtain rfl:=Option.some.inj h;omega)⟩
   ·refine .Fs 4 4 true (.z zpF (.zn zg (.af (.z zm (.z fF (.z zm (.T (.z zm (.T (.z fW (.T (.z zm (.jK (t':=29) rfl (fun KG=>?_) (fun KG=>?_))))))))))))))
    ·refine .Fs 4 5 false (.T (.z zpT (.T (.z zm (.Fs 4 11 false (.T (.z zpT (.zn zpT (.cT (.af (.zn zg (.ret (rB (rT (rB (rT (Fin.aW Aw rfl ?_)))))))))))))))));first
     |exact ⟨_,rfl,⟨fun h=>(by cases h),fun h=>(by have:=h.2 k hk c hc;omega)⟩,hs.out⟩
     |exact ⟨_,rfl,⟨fun _=>⟨ak,ew⟩,fun _=>rfl⟩,hs.out⟩
    ·refine .T (.z zm (.T (.z zm (.T (.q hs (AK k9 rfl rfl rfl hc) (.T (.z fT (.T (.z zpF (.T (.z zm (.jK (t':=35) rfl (fun yQ=>?_) (fun yQ=>?_)))))))))))))
     ·refine .Fs 4 11 false (.T (.z zpT (.zn zpT (.cT (.af (.zn zg (.ret (rB (rT (rB (rT (Fin.aW Aw rfl ?_))))))))))));first
      |exact ⟨_,rfl,⟨fun h=>(by cases h),fun h=>(by have:=h.2 k hk c hc;omega)⟩,hs.out⟩
      |exact ⟨_,rfl,⟨fun _=>⟨ak,ew⟩,fun _=>rfl⟩,hs.out⟩
     ·refine .T (.z zm (.T (.z zm (.T (.q hs (AK k9 rfl rfl rfl hc) (.T (.z nE (.T (.z zpF (.zn zpT (.bQ rfl (fun z8=>?_) (fun z8=>?_))))))))))))
      ·refine .af (.zn zg (.ret (rB (rT (rB (rT (Fin.aW Aw rfl ?_)))))));first
       |exact ⟨_,rfl,⟨fun h=>(by cases h),fun h=>(by have:=h.2 k hk c hc;omega)⟩,hs.out⟩
       |exact ⟨_,rfl,⟨fun _=>⟨ak,ew⟩,fun _=>rfl⟩,hs.out⟩
      ·refine .skip (nB (nT ?_));exact .mk ⟨rfl,hs.out,vJ ew (fun b h=>by
        rw [hc] at h;obtain rfl:=Option.some.inj h;omega)⟩
  ·rintro fr w ⟨rfl,hs,ew⟩;refine nT (.af (.zn zg (.ret (Fin.aW Aw rfl ?_))));first
   |exact ⟨_,rfl,⟨fun h=>(by cases h),fun h=>(by have:=h.2 k hk c hc;omega)⟩,hs.out⟩
   |exact ⟨_,rfl,⟨fun _=>⟨ak,ew⟩,fun _=>rfl⟩,hs.out⟩
set_option maxHeartbeats 4000000 in
theorem pP{w:World}{x:Cod}(hs:St H w σ)(hx:Hd H x):aaq 16 [.agg #[.string x.name,x.sl]] w fun v w'=>∃e,v=I e∧((mc x∧e=0)∨(¬mc x∧e=41))∧St H w' σ:=by
 have hr:=hx.rs;have GB:=(RS.len hr).2.2;refine Cl.o func16 ntmps16 ag1 ?_;refine .af (.bx hs fun b1 w hs=>?_);refine .zn zg (.seq (.af (.z (zfa B2) (.y hs (zld isAgg9) (.o (.call call52 rfl (wY (s:=x.name) hs) ?_))))));rintro _ w ⟨b7,rfl,Nq,hs⟩;refine .z fF (.z zm (.bif (t':=9) rfl (fun LO=>?_) (fun LO=>?_)))
 ·exact .Fs 5 4 false (.zn zpT (.cT (.af (.zn zg (.ret (rT (Fin.aW results16 rfl ⟨_,rfl,.inr ⟨fun h=>(by rw [Nq.2 h.name] at LO;cases LO),rfl⟩,hs.out⟩)))))))
 ·refine .T (.z (zfa jF) (.T (.y hs (zld isAgg28) (.T (.z (bT mU) (.T (.o (.call oI rfl (bH hs) ?_))))))));rintro _ w ⟨rfl,hs⟩;refine .T (.z fF (.zn zpF (.cond rfl (fun pA=>?_) (fun pA=>?_))))
  ·exact .af (.zn zg (.ret (rT (Fin.aW results16 rfl ⟨_,rfl,.inr ⟨fun h=>by have:=h.some_;simp at pA;omega,rfl⟩,hs.out⟩))))
  ·refine .skip (nT (.seq (.af ?_)));have Tx:=Nq.1 (by simpa using LO);simp at pA;refine .z (zfa jF) (.y hs (zld isAgg28) (.z (bT mU) (.zn zm (.for (N:=x.vers.length) (J:=fun k fr w=>fr=[(17,x.sl),(1,Pt b1)]∧St H w (.blk b1 [.string x.name,x.sl]::σ)∧∀i<k,RB (Cy x.vers i)∧(0<i→(Cy x.vers (i - 1)).fr<(Cy x.vers i).fr)) ak ?_ ?_ ?_))))
   ·exact .mk ⟨rfl,hs,fun j hj=>by omega⟩
   ·rintro k fr w hk ⟨rfl,hs,ew⟩;have hv:=sx (l:=x.vers) (i:=k) hk;have hm:=hx.vers _ (List.mem_of_getElem? hv);refine .block (.af (.z zm (.ixX (enc:=Ver.v) hs hr rfl rfl mU fI hv rfl ?_)));intro Iw o22 ny;refine .q hs (bj (vs:=(Cy x.vers k).v) rfl F7 fI ny) (.o (.alloc hs zeroValue157 rfl fun b4 w hs=>?_));refine .z zg (.o (.aL (vs:=[_,_,_,_,_,_,_,_,_,_,_,_]) hs rfl rfl fI fun w hs=>?_));refine .nil (.seq (.draw mix rfl hs fun w hs=>?_));refine .zv 0 rfl hs (sW [_,_,_,_,_,_,_,_,_,_,_,_] F7 fI) (.E 1 hs ?_);refine .call call54 rfl (rZ (x:=Cy x.vers k) hs hm) ?_;rintro _ w ⟨Lj,rfl,KH,hs⟩;refine .go (.zw 2 rfl fF ?_);refine .z 3 rfl zm ?_;refine .bif (t':=27) rfl (fun rW=>?_) (fun rW=>?_)
    ·refine .F 4 rfl (.F 5 rfl ?_);refine .F 6 rfl (.F 7 rfl (.F 8 rfl (.F 9 rfl (.F 10 rfl (.F 11 rfl (.F 12 rfl (.F 13 rfl (.F 14 rfl (.F 15 rfl (.F 16 rfl (.F 17 rfl (.zw 18 rfl zpT ?_))))))))))));refine .D hs ?_;exact (.cT (.af (.zn zg (.ret (rB (rT (rB (rT (Fin.aW results16 rfl ⟨_,rfl,.inr ⟨fun h=>(by rw [KH.2 (h.vers k hk).1] at rW;cases rW),rfl⟩,hs.out⟩)))))))))
    ·refine .zw 4 rfl zm ?_;refine .z 5 rfl nE ?_;refine .z 6 rfl zm ?_;refine .jK (t':=30) rfl (fun KF=>?_) (fun KF=>?_)
     ·refine .zw 7 rfl (zfa jF) ?_;refine .y 8 rfl hs isAgg28 ?_;refine .z 9 rfl zm ?_;have EO:0<k:=by omega
      have Vk:=sx (l:=x.vers) (i:=k - 1) ak;refine .zw 10 rfl jj ?_;rw [show ((k:Int) - 1)=((k - 1:Nat):Int) by omega];refine .ixX (enc:=Ver.v) (i:=11) hs rfl aF (.some rfl rfl) hr rfl rfl mU fI Vk rfl ?_;intro Rw o35 uP;refine .zw 12 rfl (zfa iV) (.r (i:=13) hs rfl aF (.some rfl rfl) (aR rfl aj (uP.get 0 rfl)) ?_);refine .zw 14 rfl (zfa iV) ?_;refine .y 15 rfl hs aj ?_;refine .z 16 rfl zC ?_;refine .z 17 rfl zpT ?_;refine .z 18 rfl zpF ?_;refine .D hs ?_;refine (.bQ rfl (fun Kw=>?_) (fun Kw=>?_))
      ·exact .af (.zn zg (.ret (rB (rT (rB (rT (Fin.aW results16 rfl ⟨_,rfl,.inr ⟨fun h=>by have:=(h.vers k hk).2 EO;omega,rfl⟩,hs.out⟩)))))))
      ·exact .skip (nB (nT (.mk ⟨rfl,hs.out,vJ ew ⟨KH.1 (by simpa using rW),fun _=>by omega⟩⟩)))
     ·refine .F 7 rfl (.F 8 rfl (.F 9 rfl (.F 10 rfl (.F 11 rfl (.F 12 rfl (.F 13 rfl (.F 14 rfl (.F 15 rfl (.F 16 rfl (.zw 17 rfl zpF ?_))))))))));refine .z 18 rfl zpF ?_;refine .D hs ?_;exact (.cF (.skip (nB (nT (.mk ⟨rfl,hs.out,vJ ew ⟨KH.1 (by simpa using rW),fun _=>by omega⟩⟩)))))
   ·rintro fr w ⟨rfl,hs,ew⟩;exact nT (.af (.zn zg (.ret (Fin.aW results16 rfl ⟨_,rfl,.inl ⟨⟨Tx,ak,ew⟩,rfl⟩,hs.out⟩))))
set_option maxHeartbeats 1000000 in
theorem sa{w:World}{r:RmL}(hs:St H w σ):aaq 229 [.agg r.c.toArray] w fun v w'=>∃e,v=I e∧((A6 r∧e=0)∨(¬A6 r∧e=40))∧St H w' σ:=by
 refine Cl.o func229 ntmps229 ag1 ?_;refine .af (.bx hs fun b1 w hs=>?_);refine .zn zg (.seq (.af (.z (zfa lE) (.y hs (zld aj) (.o (.call oI rfl (bH hs) ?_))))));rintro _ w ⟨rfl,hs⟩;refine .z fF (.z zm (.bif (t':=7) rfl (fun Nq=>?_) (fun Nq=>?_)))
 ·refine .Fs 4 4 false (.z zpT (.z zm (.Fs 4 10 false ?_)));exact .z zpT (.z zm (.Fs 4 16 false (.z zpT (.z zm (.Fs 4 22 false (.z zpT (.z zm (.Fs 7 28 false (.z zpT (.z zm (.Fs 4 37 false (.zn zpT (.cT (.af (.zn zg (.ret (rT (Fin.aW vH rfl ⟨_,rfl,.inr ⟨fun h=>(by unfold A6 at h;simp_all),rfl⟩,hs.out⟩))))))))))))))))))
 ·refine .T (.z (zfa B1) (.T (.y hs (zld aj) (.T (.o (.call oI rfl (bH hs) ?_))))));rintro _ w ⟨rfl,hs⟩;refine .T (.z fF (.z zpF (.z zm (.bif (t':=13) rfl (fun KK=>?_) (fun KK=>?_)))))
  ·refine .Fs 4 10 false ?_;exact .z zpT (.z zm (.Fs 4 16 false (.z zpT (.z zm (.Fs 4 22 false (.z zpT (.z zm (.Fs 7 28 false (.z zpT (.z zm (.Fs 4 37 false (.zn zpT (.cT (.af (.zn zg (.ret (rT (Fin.aW vH rfl ⟨_,rfl,.inr ⟨fun h=>(by unfold A6 at h;simp_all),rfl⟩,hs.out⟩))))))))))))))))))
  ·refine .T (.z (zfa B0) (.T (.y hs (zld aj) (.T (.o (.call oI rfl (bH hs) ?_))))));rintro _ w ⟨rfl,hs⟩;refine .T (.z fF (.z zpF (.z zm (.bif (t':=19) rfl (fun KI=>?_) (fun KI=>?_)))))
   ·exact .Fs 4 16 false (.z zpT (.z zm (.Fs 4 22 false (.z zpT (.z zm (.Fs 7 28 false (.z zpT (.z zm (.Fs 4 37 false (.zn zpT (.cT (.af (.zn zg (.ret (rT (Fin.aW vH rfl ⟨_,rfl,.inr ⟨fun h=>(by unfold A6 at h;simp_all),rfl⟩,hs.out⟩))))))))))))))))
   ·refine .T (.z (zfa BZ) (.T (.y hs (zld aj) (.T (.o (.call oI rfl (bH hs) ?_))))));rintro _ w ⟨rfl,hs⟩;refine .T (.z fF (.z zpF (.z zm (.bif (t':=25) rfl (fun KH=>?_) (fun KH=>?_)))))
    ·exact .Fs 4 22 false (.z zpT (.z zm (.Fs 7 28 false (.z zpT (.z zm (.Fs 4 37 false (.zn zpT (.cT (.af (.zn zg (.ret (rT (Fin.aW vH rfl ⟨_,rfl,.inr ⟨fun h=>(by unfold A6 at h;simp_all),rfl⟩,hs.out⟩)))))))))))))
    ·refine .T (.z (zfa gp) (.T (.z (zfa dG) (.T (.y hs (zld aj) (.T (.z fT (.z zpF (.z zm (.jK (t':=31) rfl (fun ta=>?_) (fun ta=>?_)))))))))))
     ·exact .Fs 7 28 false (.z zpT (.z zm (.Fs 4 37 false (.zn zpT (.cT (.af (.zn zg (.ret (rT (Fin.aW vH rfl ⟨_,rfl,.inr ⟨fun h=>(by unfold A6 at h;omega),rfl⟩,hs.out⟩))))))))))
     ·refine .T (.z (zfa gp) ?_);refine .T (.z (zfa dG) (.T (.y hs (zld aj) (.T (.z (zfa gp) (.T (.z (zfa ek) (.T (.y hs (zld aj) (.T (.z nE (.z zpF (.z zm (.jK (t':=40) rfl (fun KE=>?_) (fun KE=>?_)))))))))))))))
      ·exact .Fs 4 37 false (.zn zpT (.cT (.af (.zn zg (.ret (rT (Fin.aW vH rfl ⟨_,rfl,.inr ⟨fun h=>(by unfold A6 at h;omega),rfl⟩,hs.out⟩)))))))
      ·refine .T (.z (zfa gp) (.T (.z (zfa ek) (.T (.y hs (zld aj) (.T (.z nE (.zn zpF (.bQ rfl (fun Nn=>?_) (fun Nn=>?_))))))))))
       ·exact .af (.zn zg (.ret (rT (Fin.aW vH rfl ⟨_,rfl,.inr ⟨fun h=>(by unfold A6 at h;omega),rfl⟩,hs.out⟩))))
       ·exact .skip (nT (.af (.zn zg (.ret (Fin.aW vH rfl ⟨_,rfl,.inl ⟨by unfold A6;simp_all,rfl⟩,hs.out⟩)))))
theorem qy{w:World}{v:Value}{l:List RmL}(hs:St H w σ)(hr:RS H 6 v (l.map RmL.c))(h1:l.length≤1):aaq 183 [v] w fun v w'=>∃e,v=I e∧(((∀r∈l,A6 r)∧e=0)∨((¬∀r∈l,A6 r)∧e=40))∧St H w' σ:=by
 obtain ⟨a,c,rfl⟩:=hr.shape;rw [List.length_map] at hr ⊢;refine Cl.o func183 ntmps183 ag1 ?_;refine .af (.zn zg (.seq (.af (.z zm (.z (bT jQ) (.zn nE (.bQ rfl (fun XI=>?_) (fun XI=>?_))))))))
 ·refine .af (.zn zg (.ret (rT (Fin.aW results183 rfl ?_))));omega
 ·refine .skip (nT (.seq (.af (.z zm (.z (bT jQ) (.zn zm (.for (N:=l.length) (J:=fun k fr w=>fr=[(8,.slice a l.length c),(0,.slice a l.length c)]∧St H w σ∧∀j<k,∀r,l[j]? =some r→A6 r) ak ?_ ?_ ?_)))))))
  ·exact .mk ⟨rfl,hs,fun j hj=>by omega⟩
  ·rintro k fr w hk ⟨rfl,hs,ew⟩;obtain ⟨r,hx⟩:=nth hk;refine .block (.af (.z zm (.ixX (enc:=RmL.c) hs hr rfl rfl jQ jO hx rfl ?_)));intro lJ o13 iH;refine .q hs (bj (vs:=r.c) rfl Y6 jO iH) (.o (.alloc hs YX rfl fun b4 w hs=>?_));refine .z zg (.o (.aL (vs:=[_,_,_,_,_,_]) hs rfl rfl jO fun w hs=>?_));refine .nil (.seq (.draw mix rfl hs fun w hs=>?_));refine .zv 0 rfl hs (sW [_,_,_,_,_,_] Y6 jO) (.E 1 hs ?_);refine .call call229 rfl (sa (r:=r) hs) ?_;rintro _ w ⟨e,rfl,he,hs⟩;refine .go (.zw 2 rfl gv ?_);refine .z 3 rfl zm ?_;refine .G2 (t':=18) rfl (fun FI=>?_) (fun FI=>?_)
   ·refine .F 4 rfl ?_;refine .F 5 rfl (.F 6 rfl (.F 7 rfl (.F 8 rfl (.F 9 rfl (.F 10 rfl (.F 11 rfl (.F 12 rfl (.F 13 rfl (.F 14 rfl (.F 15 rfl (.F 16 rfl (.zw 17 rfl zpT ?_))))))))))));refine .D hs ?_;refine (.cT (.af (.zn zg (.ret (rB (rT (rB (rT (Fin.aW results183 rfl ?_)))))))));exact ⟨_,rfl,.inr ⟨fun h=>(by
     rcases he with ⟨_,rfl⟩|⟨h2,_⟩
     ·exact FI rfl
     ·exact h2 (h r (List.mem_of_getElem? hx))),rfl⟩,hs.out⟩
   ·refine .zw 4 rfl zm ?_;refine .z 5 rfl nE ?_;rw [decide_eq_false ak];refine .zw 6 rfl zm (.F 7 rfl (.F 8 rfl (.F 9 rfl (.F 10 rfl (.F 11 rfl (.F 12 rfl (.F 13 rfl (.F 14 rfl (.F 15 rfl (.zw 16 rfl zpF ?_))))))))));refine .z 17 rfl zpF ?_;refine .D hs ?_;refine (.cF (.skip (nB (nT ?_))));exact .mk ⟨rfl,hs.out,eU ew hx (by
     rcases he with ⟨h2,_⟩|⟨_,rfl⟩
     ·exact h2
     ·exact absurd FI cR)⟩
  ·rintro fr w ⟨rfl,hs,ew⟩;refine nT (.af (.zn zg (.ret (Fin.aW results183 rfl ?_))));exact ⟨_,rfl,.inl ⟨fun r hr=>(by
    obtain ⟨j,hj⟩:=List.getElem?_of_mem hr;exact ew j (List.getElem?_eq_some_iff.1 hj).1 r hj),rfl⟩,hs.out⟩
theorem Ak{w:World}{r:RmL}(hs:St H w σ):aaq 278 [.agg r.c.toArray] w fun v w'=>v=I r.kind∧St H w' σ:=by
 refine Cl.o func278 ntmps278 ag1 ?_;refine .af (.bx hs fun b1 w hs=>?_);exact .zn zg (.af (.z (zfa Af) (.y hs (zld aj) (.zn zg (.ret (Fin.aW results278 rfl ⟨rfl,hs.out⟩))))))
theorem vg{w:World}{r:RmL}(hs:St H w σ):aaq 279 [.agg r.c.toArray] w fun v w'=>v=I r.opn∧St H w' σ:=by
 refine Cl.o func279 ntmps279 ag1 ?_;refine .af (.bx hs fun b1 w hs=>?_);exact .zn zg (.af (.z (zfa Ae) (.y hs (zld aj) (.zn zg (.ret (Fin.aW results279 rfl ⟨rfl,hs.out⟩))))))
theorem An{w:World}{r:RmL}(hs:St H w σ):aaq 280 [.agg r.c.toArray] w fun v w'=>v=I r.crew∧St H w' σ:=by
 refine Cl.o func280 ntmps280 ag1 ?_;refine .af (.bx hs fun b1 w hs=>?_);exact .zn zg (.af (.z (zfa Ad) (.y hs (zld aj) (.zn zg (.ret (Fin.aW results280 rfl ⟨rfl,hs.out⟩))))))
def pw(t:Tst)(r:RmL):Int:=if t.of_=1 then r.kind else if t.of_=2 then r.opn else r.crew
abbrev SV:List Value:=[.func (.func 278) #[] #[],.func (.func 279) #[] #[],.func (.func 280) #[] #[]]
theorem JS{t:Tst}{r:RmL}(ht:1≤t.of_∧t.of_≤3):∃(k g:Nat),t.of_ - 1=k∧k<3∧SV.toArray[k]? =some (.func (.func g) #[] #[])∧(∀args w,(callFunc g args).run Tryz.prog w= .ok (.enter g args) w)∧
  ∀w,St H w σ→aaq g [.agg r.c.toArray] w fun v w'=>v=I (pw t r)∧St H w' σ:=by
 have:t.of_=1∨t.of_=2∨t.of_=3:=by omega
 unfold pw
 rcases this with h|h|h<;>rw [h]
 ·exact ⟨0,_,rfl,ak,rfl,call278,fun w hs=>Ak hs⟩
 ·exact ⟨1,_,rfl,ak,rfl,call279,fun w hs=>vg hs⟩
 ·exact ⟨2,_,rfl,ak,rfl,call280,fun w hs=>An hs⟩
abbrev soL(t:Tst)(n:Int):List Value:=[.bool (decide (n<t.num)),.bool (decide (n≤t.num)),.bool (decide (n=t.num)),.bool (!decide (n=t.num)),.bool (decide (n≥t.num)),.bool (decide (n>t.num))]
theorem V0{t:Tst}{r:RmL}(ht:1≤t.how∧t.how≤6):∃(j:Nat) (b:Bool),t.how - 1=j∧j<6∧(soL t (pw t r)).toArray[j]? =some (.bool b)∧(b=true↔soT t r):=by
 have:t.how=1∨t.how=2∨t.how=3∨t.how=4∨t.how=5∨t.how=6:=by omega
 unfold soT;show ∃(j:Nat) (b:Bool),t.how - 1=j∧j<6∧(soL t (pw t r)).toArray[j]? =some (.bool b)∧(b=true↔if t.how=1 then pw t r<t.num else if t.how=2 then pw t r≤t.num else if t.how=3 then pw t r=t.num else if t.how=4 then pw t r≠t.num else if t.how=5 then pw t r≥t.num else pw t r>t.num)
 rcases this with h|h|h|h|h|h<;>rw [h]
 ·exact ⟨0,_,rfl,ak,rfl,aU⟩
 ·exact ⟨1,_,rfl,ak,rfl,aU⟩
 ·exact ⟨2,_,rfl,ak,rfl,aU⟩
 ·exact ⟨3,_,rfl,ak,rfl,aU⟩
 ·exact ⟨4,_,rfl,ak,rfl,aU⟩
 ·exact ⟨5,_,rfl,ak,rfl,aU⟩
set_option maxHeartbeats 1000000 in
theorem Al{w:World}{t:Tst}{r:RmL}(hs:St H w σ)(ht:IC t):aaq 233 [.agg t.c.toArray,.agg r.c.toArray] w fun v w'=>∃b:Bool,v= .bool b∧(b=true↔soT t r)∧St H w' σ:=by
 obtain ⟨j,b,hjt,hj,hjb,hb⟩:=V0 (r:=r) ht.2.1;refine Cl.o func233 ntmps233 ag2 ?_;refine .af (.bx hs fun b2 w hs=>?_);refine .bx hs fun b3 w hs=>?_
 refine .zn zg (.seq (.draw mix rfl hs fun w hs=>?_));obtain ⟨k,g,OU,hk,hg,TT,Ut⟩:=JS (H:=H) (σ:= .blk b3 r.c:: .blk b2 t.c::σ) (r:=r) ht.1;refine .zw 0 rfl (Bo (vs:=[(0,.func (.func 278) #[] #[]),(1,.func (.func 279) #[] #[]),(2,.func (.func 280) #[] #[])]) (cells:=SV) zeroValue415 rfl runUnderlying415 sizeOf413 rfl) (.zw 1 rfl (zfa tk) ?_);refine .y 2 rfl hs aj ?_;refine .z 3 rfl jj ?_;refine .zw 4 rfl (Gk (k:=k) (v:= .func (.func g) #[] #[]) runUnderlying415 sizeOf413 isAgg413 rfl rfl OU hk hg) (.zv 5 rfl hs (sW [_,_,_,_,_,_] Y6 jO) (.E 6 hs ?_));refine .jN (first:=[]) (cap:=[]) rfl rfl TT (Ut _ hs) ?_;rintro _ w ⟨rfl,hs⟩;refine .go (.zw 7 rfl zg ?_);refine .D hs ?_;exact .af (.z zm (.z (zfa gn) (.y hs (zld aj) (.z fT (.z zm (.z (zfa gn) (.y hs (zld aj) (.z ql (.z zm (.z (zfa gn) (.y hs (zld aj) (.z fW (.z zm (.z (zfa gn) (.y hs (zld aj) (.z gv (.z zm (.z (zfa gn) (.y hs (zld aj) (.z zC (.z zm (.z (zfa gn) (.y hs (zld aj) (.z nE (.q hs (Bo (vs:=[(0,.bool (decide (pw t r<t.num))),(1,.bool (decide (pw t r≤t.num))),(2,.bool (decide (pw t r=t.num))),(3,.bool (!decide (pw t r=t.num))),(4,.bool (decide (pw t r≥t.num))),(5,.bool (decide (pw t r>t.num)))]) (cells:=soL t (pw t r)) zeroValue416 rfl runUnderlying416 eg rfl) (.z (zfa tj) (.y hs (zld aj) (.z jj (.q hs (Gk (k:=j) (v:= .bool b) runUnderlying416 eg lN rfl rfl hjt hj hjb) (.zn zg (.ret (Fin.aW results233 rfl ⟨_,rfl,hb,hs.out⟩))))))))))))))))))))))))))))))))
set_option maxHeartbeats 1000000 in
theorem y7{w:World}{x:Ver}{r:RmL}(hs:St H w σ)(hx:I0 H x)(bw:∀p∈x.puts,Cn p):aaq 186 [x.agg,.agg r.c.toArray] w fun v w'=>∃g p,v= .tuple #[I g,I p]∧EW r x.puts g∧St H w' σ:=by
 have OL:=hx.rs;have GB:=(RS.len OL).2.2;refine Cl.o func186 ntmps186 ag2 ?_;refine .af (.bx hs fun b2 w hs=>?_);refine .bx hs fun b3 w hs=>?_
 refine .z zg (.zn zg (.scope (.seq (.label (nT (.seq (.af (.z (zfa kV) (.y hs (zld isAgg152) (.z (bT CN) (.zn zm (.for (N:=x.puts.length) (J:=fun k fr w=>fr=[(11,.slice x.a x.puts.length x.c),(3,Pt b3)]∧St H w (.blk b3 r.c::σ)∧∀g,EW r (x.puts.drop k) g→EW r x.puts g) ak ?_ ?_ ?_))))))))))))
 ·exact .mk ⟨rfl,hs.sb,fun g h=>h⟩
 ·rintro k fr w hk ⟨rfl,hs,ew⟩;obtain ⟨p,hp⟩:=nth hk;have HP:=List.mem_of_getElem? hp;have hM:=hx.puts p HP;have xC:=(RS.len hM).2.2;have R4:x.puts.drop k=p::x.puts.drop (k+1):=by
   rw [List.drop_eq_getElem_cons hk];rw [List.getElem?_eq_getElem hk] at hp;rw [Option.some.inj hp]
  refine .block (.af (.z zm (.ixX (enc:=Put.v) hs OL rfl rfl CN U4 hp rfl ?_)));intro vC o16 dO;refine .q hs (bj (vs:=p.v) rfl isAgg216 U4 dO) (.o (.alloc hs zeroValue216 rfl fun b7 w hs=>?_));refine .z zg (.o (.aL (vs:=[_,_]) hs rfl rfl U4 fun w hs=>?_));refine .nil (.seq (.af (.z (zfa pM) (.y hs (zld isAgg214) (.z (bT CL) (.zn zm (.for (N:=p.ts.length) (J:=fun m fr w=>fr=[(19,.slice p.a p.ts.length p.c),(6,I (k:Int)),(7,Pt b7),(13,I (k:Int)),(12,I (x.puts.length:Int)),(11,.slice x.a x.puts.length x.c),(3,Pt b3)]∧St H w (.blk b7 p.v:: .blk b3 r.c::σ)∧∀i<m,∀t,p.ts[i]? =some t→soT t r) ak ?_ ?_ ?_)))))))
  ·exact .mk ⟨rfl,hs,fun i hi=>by omega⟩
  ·rintro m fr w hm ⟨rfl,hs,rX⟩;obtain ⟨t,ht⟩:=nth hm;refine .block (.af (.ixX (enc:=Tst.c) hs hM rfl rfl CL IL ht rfl ?_));intro Iv o23 jM;refine .q hs (bj (vs:=t.c) rfl isAgg312 IL jM) (.o (.alloc hs zeroValue312 rfl fun b9 w hs=>?_));refine .o (.aL (vs:=[_,_,_]) hs rfl rfl IL fun w hs=>?_);refine .nil (.af (.y hs (zls [_,_,_] isAgg312 IL) (.y hs (zls [_,_,_,_,_,_] Y6 jO) (.o (.call call233 rfl (Al (t:=t) (r:=r) hs ((bw p HP).2.2 t (List.mem_of_getElem? ht))) ?_)))));rintro _ w ⟨Aq,rfl,rW,hs⟩;refine .zn fF (.cond rfl (fun l8=>?_) (fun l8=>?_))
   ·refine .exit (xN (xT (xN (xT (xB (nT ?_))))));exact .mk ⟨rfl,hs.sb,fun g h=>ew g (by
     rw [R4];exact .next (fun h2=>by rw [rW.2 (h2 t (List.mem_of_getElem? ht))] at l8;cases l8) h)⟩
   ·exact .skip (nB (nT (.mk ⟨rfl,hs.sb,eU rX ht (rW.1 (by simpa using l8))⟩)))
  ·rintro fr w ⟨rfl,hs,rX⟩;refine nT (.af (.z (zfa vZ) (.y hs (zld aj) (.z zm (.z zg (.zn zg (.ret (rB (rT (rB (rT (rS (Fin.mh results186 rfl rfl ?_)))))))))))));exact ⟨_,_,rfl,ew _ (by
    rw [R4];exact .here fun t ht=>by
     obtain ⟨j,hj⟩:=List.getElem?_of_mem ht;exact rX j (List.getElem?_eq_some_iff.1 hj).1 t hj),hs.out⟩
 ·rintro fr w ⟨rfl,hs,ew⟩;exact nT (.af (.z zg (.zn zg (.ret (rS (Fin.mh results186 rfl rfl ⟨_,_,rfl,ew _ (by rw [List.drop_length];exact .nil),hs.out⟩))))))
def PQ:Ver:=⟨0,[],none,0,fun _=>⟨[],none,0⟩⟩
abbrev qC(c:Cod)(x:Ver)(i e:Int):List Value:=[.string c.name,c.sl,I x.fr,.slice x.a x.puts.length x.c,(x.ln 0).v,(x.ln 1).v,(x.ln 2).v,(x.ln 3).v,(x.ln 4).v,(x.ln 5).v,(x.ln 6).v,(x.ln 7).v,(x.ln 8).v,(x.ln 9).v,I i,I e]
set_option maxHeartbeats 1000000 in
theorem vj{w:World}{c:Cod}(hs:St H w σ)(hx:Hd H c):aaq 180 [.agg #[.string c.name,c.sl],I day] w fun v w'=>v=I (inF c.vers day c.vers.length)∧St H w' σ:=by
 have hr:=hx.rs;have GB:=(RS.len hr).2.2;refine Cl.o func180 ntmps180 ag2 ?_;refine .af (.bx hs fun b2 w hs=>?_);refine .zn zg (.af (.zn zg (.seq (.af (.z (zfa jF) (.y hs (zld isAgg28) (.z (bT mU) (.zn zm (.for (N:=c.vers.length) (J:=fun k fr w=>fr=[(9,c.sl),(5,I (inF c.vers day k)),(1,I day)]∧St H w σ) ak ?_ ?_ ?_)))))))))
 ·exact .mk ⟨rfl,hs.out⟩
 ·rintro k fr w hk ⟨rfl,hs⟩;have hv:=sx (l:=c.vers) (i:=k) hk;refine .block (.af (.z zm (.ixX (enc:=Ver.v) hs hr rfl rfl mU fI hv rfl ?_)));intro tZ o14 fq;refine .q hs (bj (vs:=(Cy c.vers k).v) rfl F7 fI fq) (.o (.alloc hs zeroValue157 rfl fun b7 w hs=>?_));refine .z zg (.o (.aL (vs:=[_,_,_,_,_,_,_,_,_,_,_,_]) hs rfl rfl fI fun w hs=>?_));refine .nil (.af (.z (zfa iV) (.y hs (zld aj) (.z zm (.zn ql (.bQ rfl (fun j9=>?_) (fun j9=>?_)))))))
  ·exact .region (.z zm (.zn zg (nB (nT (.mk ⟨by simp only [inF];rw [if_pos cW],hs.out⟩)))))
  ·exact .skip (nB (nT (.mk ⟨by simp only [inF];rw [if_neg cW],hs.out⟩)))
 ·rintro fr w ⟨rfl,hs⟩;exact nT (.af (.z zm (.zn zg (.ret (Fin.aW results180 rfl ⟨rfl,hs⟩)))))
theorem Em{w:World}{c:Cod}(hs:St H w σ)(hx:Hd H c)(bw:mc c):aaq 111 [.agg #[.string c.name,c.sl]] w fun v w'=>∃b,v=Pt b∧St H w' (.blk b (qC c PQ (-1) 0)::σ):=by
 refine Cl.o func111 ntmps111 ag1 ?_;refine .af (.bx hs fun b1 w hs=>?_);refine .zn zg (.seq (.draw mix rfl hs fun w hs=>?_));refine .ys 0 rfl hs [_,_] N9 oX ?_;refine .ys 1 rfl hs [_,_] N9 oX ?_;refine .E 2 hs ?_;refine .call call16 rfl (pP hs hx) ?_;rintro _ w ⟨e,rfl,he,hs⟩;obtain rfl:e=0:=by
  rcases he with h|h
  ·exact h.2
  ·exact (h.1 bw).elim
 refine .go (.zw 3 rfl (zbd (qC c PQ (-1) 0) vA rfl aF) (.E 4 hs ?_));refine .box hs rfl rfl ?_;intro b7 w hs;refine .go (.zw 5 rfl zg ?_);refine .D hs ?_;exact .ret (Fin.aW results111 rfl ⟨_,rfl,hs.sb⟩)
theorem iP{w:World}{c:Cod}{x:Ver}{i er:Int}{p:Bool}(hs:St H w (.blk b (qC c x i e)::σ)):
  aaq 181 [Pt b,.bool p,I er] w fun v w'=>v=Pt b∧St H w' (.blk b (qC c x i (if e=0∧p=true then er else e))::σ):=by
 refine Cl.o func181 ntmps181 ag3 ?_;refine .af (.zn zg (.seq (.af (.z zm (.z znc (.z (zfa fu) (.y hs (zld isAgg57) (.z fW (.z zm (.jK (t':=12) rfl (fun yR=>?_) (fun yR=>?_)))))))))))
 ·refine .T (.z zm (.zn zpT (.cond rfl (fun fq=>?_) (fun fq=>?_))))
  ·refine .region (.z zm (.z zm (.z znc (.z (zfa fu) (.o (.store hs rfl rfl sizeOf57 fun w hs=>?_))))));exact .nil (nT (.af (.z zm (.zn zg (.ret (Fin.aW results181 rfl ⟨rfl,by rw [if_pos ⟨by assumption,by assumption⟩];exact hs⟩))))))
  ·exact .skip (nT (.af (.z zm (.zn zg (.ret (Fin.aW results181 rfl ⟨rfl,by rw [if_neg (by simp_all)];exact hs⟩))))))
 ·exact .Fs 1 5 true (.zn zpF (.cF (.skip (nT (.af (.z zm (.zn zg (.ret (Fin.aW results181 rfl ⟨rfl,by rw [if_neg (by simp_all)];exact hs⟩)))))))))
theorem En{w:World}{c:Cod}{x:Ver}{i:Int}(hs:St H w (.blk b (qC c x i e)::σ))(hf:f=0∨f=1):
  aaq 182 [Pt b,I f] w fun v w'=>v=Pt b∧St H w' (.blk b (qC c x i e)::σ):=by
 refine Cl.o func182 ntmps182 ag2 ?_;refine .af (.zn zg (.af (.z zm (.z zm (.z gv (.z zm (.G2 (t':=8) rfl (fun IX=>?_) (fun IX=>?_))))))))
 ·refine .T (.z zm (.T (.z gv (.z zpT (.o (.call call181 rfl (iP hs) ?_))))));rintro _ w ⟨rfl,hs⟩;rw [if_neg (by simp;try omega)] at hs;exact .zn zg (.ret (Fin.aW results182 rfl ⟨rfl,hs⟩))
 ·refine .Fs 2 3 true (.z zpF (.o (.call call181 rfl (iP hs) ?_)));rintro _ w ⟨rfl,hs⟩;rw [if_neg (by simp;try omega)] at hs;exact .zn zg (.ret (Fin.aW results182 rfl ⟨rfl,hs⟩))
set_option maxHeartbeats 1000000 in
theorem El{w:World}{c:Cod}(hs:St H w (.blk b (qC c PQ (-1) 0)::σ))(hx:Hd H c)(hf:f=0∨f=1)(hd:0≤day∧day≤100000):
  aaq 112 [Pt b,I day,I f] w fun v w'=>∃x i e,v=Pt b∧((inF c.vers day c.vers.length<0∧e=45)∨(0≤inF c.vers day c.vers.length∧x=Cy c.vers (inF c.vers day c.vers.length).toNat∧e=0))∧St H w' (.blk b (qC c x i e)::σ):=by
 have hb:=J5 c.vers day c.vers.length;refine Cl.o func112 ntmps112 ag3 ?_;refine .af (.zn zg (.af (.z zm (.z znc (.z (zfa mq) (.y hs (zls [_,_] N9 oX) (.z zm (.o (.call call180 rfl (vj hs hx) ?_)))))))));rintro _ w ⟨rfl,hs⟩;generalize inF c.vers day c.vers.length=n at*;refine .zn zg (.seq (.af (.z zm (.z zm (.o (.call oI rfl (bH hs) ?_))))));rintro _ w ⟨rfl,hs⟩;rw [decide_eq_true hd];refine .z fF (.o (.call call181 rfl (iP hs) ?_));rintro _ w ⟨rfl,hs⟩;rw [if_neg aU] at hs;refine .z zm (.o (.call call182 rfl (En hs hf) ?_));rintro _ w ⟨rfl,hs⟩;refine .z zm (.z fT (.o (.call call181 rfl (iP hs) ?_)));rintro _ w ⟨rfl,hs⟩;refine .z znc (.z (zfa fu) (.y hs (zld isAgg57) (.zn fW (.bQ rfl (fun rV=>?_) (fun rV=>?_)))))
 ·refine .region (.z zm (.z zm (.z zm (.z zm (.z znc (.z (zfa mq) (.z (zfa jF) (.y hs (zld isAgg28) (.z zm ?_)))))))));have hn:0≤n:=by
   by_cases h:n<0
   ·rw [if_pos ⟨rfl,by simpa using h⟩] at rV;exact absurd rV cR
   ·omega
  have hv:=sx (l:=c.vers) (i:=n.toNat) ak;refine .ixX (enc:=Ver.v) hs hx.rs rfl rfl mU fI hv ak ?_;intro VU o37 rR;refine .q hs (bj (vs:=(Cy c.vers n.toNat).v) rfl F7 fI rR) (.z znc (.z (zfa mn) (.o (.store hs rfl rfl an fun w hs=>?_))));refine .z znc (.z (zfa jD) (.o (.aL (vs:=[_,_,_,_,_,_,_,_,_,_,_,_]) hs rfl rfl fI fun w hs=>?_)));exact .nil (nT (.af (.z zm (.zn zg (.ret (Fin.aW results112 rfl ⟨_,_,_,rfl,.inr ⟨hn,rfl,rV⟩,hs⟩))))))
 ·refine .skip (nT (.af (.z zm (.zn zg (.ret (Fin.aW results112 rfl ?_))))));exact ⟨_,_,_,rfl,.inl (by
   by_cases h:n<0
   ·exact ⟨h,by rw [if_pos ⟨rfl,by simpa using h⟩]⟩
   ·rw [if_neg (by simpa using h)] at rV;exact (rV rfl).elim),hs⟩
theorem Ai{w:World}{c:Cod}{x:Ver}{i:Int}{v:Value}{l:List RmL}(hs:St H w (.blk b (qC c x i e)::σ))(hr:RS H 6 v (l.map RmL.c))(h1:l.length≤1):
  aaq 113 [Pt b,v] w fun u w'=>∃e',u=Pt b∧((e≠0∧e'=e)∨(e=0∧(∀r∈l,A6 r)∧e'=0)∨(e=0∧(¬∀r∈l,A6 r)∧e'=40))∧St H w' (.blk b (qC c x i e')::σ):=by
 refine Cl.o func113 ntmps113 ag2 ?_;refine .af (.zn zg (.af (.z zm (.z zm (.o (.call call183 rfl (qy hs hr h1) ?_))))));rintro _ w ⟨e7,rfl,he,hs⟩;refine .z gv (.o (.call call181 rfl (iP hs) ?_));rintro _ w ⟨rfl,hs⟩;refine .zn zg (.ret (Fin.aW results113 rfl ?_));exact ⟨_,rfl,by
  by_cases h:e=0
  ·rcases he with ⟨g,rfl⟩|⟨g,rfl⟩
   ·exact .inr (.inl ⟨h,g,by rw [if_neg aU];exact h⟩)
   ·exact .inr (.inr ⟨h,g,by rw [if_pos ⟨h,aU⟩]⟩)
  ·exact .inl ⟨h,by rw [if_neg (fun g=>h g.1)]⟩,hs⟩
set_option maxHeartbeats 1000000 in
theorem vf{w:World}{l:List Pce}{a:Option Addr}{c:Nat}{n:Int}(hs:St H w σ)(hr:RS H 3 (.slice a l.length c) (l.map Pce.c))(h8:l.length≤8):aaq 277 [.slice a l.length c,I n] w fun v w'=>v=I (pcN l n:Nat)∧St H w' σ:=by
 refine Cl.o func277 ntmps277 ag2 ?_;refine .af (.zn zg (.af (.zn zg (.seq (.block ?_)))));refine .loop (fun i:Nat=>⟨24,[],[(5,I (i:Int)),(0,.slice a l.length c),(1,I n)]⟩)
  (fun i w=>i≤l.length∧pcF l n (l.length - i) i=pcN l n∧St H w σ) (fun i=>l.length - i) 0 (.dw rfl aU bg) ⟨Nat.zero_le _,rfl,hs⟩ ?_
 clear hs;rintro i w ⟨hi,hp,hs⟩;refine .seq (.af (.z zm (.z cC (.z zm (.z (bT bZ) (.z fT (.z zm (.jK (t':=11) rfl (fun tc=>?_) (fun tc=>?_)))))))))
 ·refine .T (.z zm (.T (.z zm (.T (.z cC ?_)))));have hx:=nI (l:=l) (i:=i+1) ak;refine .T (.ixX (enc:=Pce.c) hs hr rfl rfl bZ oU hx ak ?_);intro Ll o15 pA;refine .T (.z (zfa fC) (.T (.q hs (aR rfl aj (pA.get 0 rfl)) (.T (.z zm (.T (.z ql (.zn zpT (.bQ rfl (fun uR=>?_) (fun uR=>?_))))))))))
  ·refine .skip (nT (.block (.region (.z zm (.z cC (.zn zg (nB (nT ?_))))))));exact ⟨i+1,.dw rfl aU bg,⟨ak,by
    rw [←hp,show l.length - i=(l.length - (i+1))+1 by omega];simp only [pcF];rw [if_pos ⟨ak,by assumption⟩],hs⟩,ak⟩
  ·refine .exit (xT (xT (xB (nT (.af (.z zm (.zn zg (.ret (Fin.aW results277 rfl ?_)))))))));exact ⟨by
    rw [←hp]
    cases e:l.length - i with
    |zero=>rfl
    |succ k=>simp only [pcF];rw [if_neg (fun h=>uR h.2)],hs⟩
 ·refine .Fs 8 5 true (.zn zpF (.cF (.exit (xT (xT (xB (nT (.af (.z zm (.zn zg (.ret (Fin.aW results277 rfl ?_))))))))))));exact ⟨by
   rw [←hp]
   cases e:l.length - i with
   |zero=>rfl
   |succ k=>simp only [pcF];rw [if_neg (fun h=>by omega)],hs⟩
abbrev MV(b:Nat):Value:= .func (.func 276) #[] #[Pt b]
theorem mv{w:World}{l:List Pce}{a:Option Addr}{c:Nat}(hs:St H w σ):aaq 230 [.slice a l.length c] w fun v w'=>∃H1 b,HLe H H1∧v=MV b∧Row H1 b [.slice a l.length c]∧St H1 w' σ:=by
 refine Cl.o func230 ntmps230 ag1 ?_;refine .af (.bx hs fun b1 w hs=>?_);refine .zn zg (.af (.q hs (dv (f:=[]) (c:=[_]) rfl rfl) (.zn zg (.ret (Fin.aW results230 rfl ?_)))));obtain ⟨H1,az,hR,hs⟩:=hs.bG .here;exact ⟨H1,_,az,rfl,hR,hs⟩
set_option maxHeartbeats 1000000 in
theorem lr{w:World}{l:List Pce}{a:Option Addr}{c:Nat}{n:Int}(hs:St H w σ)(hb:Row H b [.slice a l.length c])(hr:RS H 3 (.slice a l.length c) (l.map Pce.c))(h8:l.length≤8):
  aaq 276 [I n,Pt b] w fun v w'=>v=I (Of l n)∧St H w' σ:=by
 have O5:cellAt H b 0=some (.slice a l.length c):=by rw [hb.cell];rfl
 refine Cl.o func276 ntmps276 ag2 ?_;refine .af (.zn zg (.af (.q hs (aR rfl PJ O5) (.z zm (.o (.call call277 rfl (vf hs hr h8) ?_))))));rintro _ w ⟨rfl,hs⟩;refine .zn zg (.seq (.af (.z zm (.q hs (aR rfl PJ O5) (.z (bT bZ) (.zn zC (.bQ rfl (fun wP=>?_) (fun wP=>?_))))))))
 ·exact .af (.zn zg (.ret (rT (Fin.aW results276 rfl ⟨by unfold Of;rw [if_pos ak],hs⟩))))
 ·refine .skip (nT (.seq (.draw mix rfl hs fun w hs=>?_)));have hx:=nI (l:=l) (i:=pcN l n) ak;refine .r (i:=0) hs rfl aF .none (aR rfl PJ O5) ?_;refine .zw 1 rfl zm (.ixX (enc:=Pce.c) (i:=2) hs rfl aF .none hr rfl rfl bZ oU hx rfl ?_);intro tZ o14 fq;refine .zw 3 rfl (zfa qY) (.r (i:=4) hs rfl aF .none (aR rfl aj (fq.get 1 rfl)) ?_);refine .r (i:=5) hs rfl aF .none (aR rfl PJ O5) ?_;refine .zw 6 rfl zm (.ixX (enc:=Pce.c) (i:=7) hs rfl aF .none hr rfl rfl bZ oU hx rfl ?_);intro Cj o19 j9;refine .zw 8 rfl (zfa qX) (.r (i:=9) hs rfl aF .none (aR rfl aj (j9.get 2 rfl)) ?_);refine .zw 10 rfl zm ?_;refine .z 11 rfl oq ?_;refine .z 12 rfl cC ?_;refine .z 13 rfl zg ?_;refine .D hs ?_;exact .ret (Fin.aW results276 rfl ⟨by unfold Of;rw [if_neg ak],hs⟩)
theorem Am{w:World}(hs:St H w σ):aaq 232 [I a,I 1000] w fun v w'=>v=I (NO a)∧St H w' σ:=by
 refine Cl.o func232 ntmps232 ag2 ?_;refine .af (.zn zg (.af (.z zm (.z zm (.z (RN (h:=by decide)) (.zn zg (.seq (.af (.z zm (.z zm (.z (IQ (h:=by decide)) (.zn fT (.bQ rfl (fun kD=>?_) (fun kD=>?_))))))))))))))
 ·exact .region (.z zm (.q hs (P3 rfl rfl) (.zn zg (nT (.af (.z zm (.zn zg (.ret (Fin.aW results232 rfl ⟨by unfold NO;rw [if_pos cW],hs⟩)))))))))
 ·exact .skip (nT (.af (.z zm (.zn zg (.ret (Fin.aW results232 rfl ⟨by unfold NO;rw [if_neg cW],hs⟩))))))
set_option maxHeartbeats 1000000 in
theorem nz{w:World}{x:Ver}{f:Nat}{lit:Nat→Int}(hs:St H w σ)(hx:I0 H x)(bw:∀k<10,Pz (x.ln k).ps)(hf:f<2):
  aaq 185 [x.agg,I (f:Int),.agg #[I (lit 0),I (lit 1),I (lit 2),I (lit 3),I (lit 4)]] w fun v w'=>∃H1,HLe H H1∧v=I (I7 x f lit)∧St H1 w' σ:=by
 refine Cl.o func185 ntmps185 ag3 ?_;refine .af (.bx hs fun b3 w hs=>?_);refine .bx hs fun b5 w hs=>?_
 refine .zn zg (.af (.zn zg (.seq (.af (.y hs (zls [_,_,_,_,_] isAgg111 oV) (.zn zm (.block ?_)))))));refine .loop (fun k:Nat=>⟨29,[],[(11,I (k:Int)),(10,.agg #[I (lit 0),I (lit 1),I (lit 2),I (lit 3),I (lit 4)]),(7,I (RP x f lit k)),(3,Pt b3),(1,I (f:Int))]⟩)
  (fun k w=>k≤5∧∃H1,HLe H H1∧St H1 w (.blk b3 x.v::σ)) (fun k=>5 - k) 0 (.dw rfl aU bg) ⟨Nat.zero_le _,H,HLe.refl _,hs.sb⟩ ?_
 clear hs;rintro k w ⟨hk,H1,az,hs⟩;refine .af (.zn fT (.seq (.bQ rfl (fun kD=>?_) (fun kD=>?_))))
 ·refine .skip (nT (.seq (.block (.af (.z zm ?_)))));refine .q hs (Gk (k:=k) (v:=I (lit k)) fb an aj rfl rfl rfl ak (by
   have:k=0∨k=1∨k=2∨k=3∨k=4:=by omega
   rcases this with rfl|rfl|rfl|rfl|rfl<;>rfl)) ?_
  refine .z zg (.zn zg (.region (.z zm (.z zm (.z zm (.z (zfa kU) (.q hs (sH (k:=f) (m:=5) rfl rfl runUnderlying155 sizeOf154 rfl hf) (.q hs (sH (k:=k) (m:=1) rfl rfl runUnderlying154 sizeOf153 rfl ak) ?_))))))));have DX:x.v[2+f*5+k*1]? =some (x.ln (5*f+k)).v:=by
   rw [show 2+f*5+k*1=2+(5*f+k) by omega];exact SX x ak
  have hl:=(hx.ln (5*f+k) ak).mono az;refine .q hs (eM rfl PJ .here DX) (.o (.call call230 rfl (mv (l:=(x.ln (5*f+k)).ps) hs) ?_));rintro _ w ⟨H2,b,aN,rfl,hR,hs⟩;refine .z zm (.o (.jN (first:=[]) (cap:=[Pt b]) rfl rfl call276 (lr (n:=lit k) hs hR (hl.mono aN) (bw (5*f+k) ak).1) ?_));rintro _ w ⟨rfl,hs⟩;exact .q hs (JF rfl rfl) (.zn zg (nB (nT (.region (.z cC (.zn zm (nT ⟨k+1,.dw rfl aU (.cons rfl (.dw rfl rfl bg)),⟨ak,H2,az.trans aN,hs⟩,ak⟩)))))))
 ·refine .exit (xT (xT (xB (nT (.af (.z zm ?_))))));obtain rfl:k=5:=by omega
  refine .o (.call call232 rfl (Am hs) ?_);rintro _ w ⟨rfl,hs⟩;exact .zn zg (.ret (Fin.aW results185 rfl ⟨H1,az,rfl,hs.out⟩))
def rgC(c:Int×Int):List Value:=[I c.1,I c.2]
theorem U8(L:List (Int×Int)):∀c∈L.map rgC,c.length=2:=fun c hc=>by simp only [List.mem_map] at hc;obtain ⟨x,_,rfl⟩:=hc;rfl
theorem Fb(L:List (Int×Int))(c:Int×Int):((L++[c]).map rgC).flatten=(L.map rgC).flatten++[I c.1,I c.2]:=by simp [rgC]
set_option maxHeartbeats 4000000 in
theorem y8{w:World}{l:List Pce}{a:Option Addr}{c:Nat}(hs:St H w σ)(hr:RS H 3 (.slice a l.length c) (l.map Pce.c))(bw:Pz l):
  aaq 231 [.slice a l.length c,.agg #[I lo,I hi]] w fun v w'=>∃H1 v1 v2,HLe H H1∧v= .tuple #[v1,v2]∧RS H1 2 v2 ((A2 l lo hi).map rgC)∧St H1 w' σ:=by
 have h8:=bw.1;refine Cl.o func231 ntmps231 ag2 ?_;refine .af (.bx hs fun b3 w hs=>?_);refine .z zg (.zn zg (.seq (.af (.z zm (.z (bT bZ) (.z RO ?_))))));rw [show max (l.length:Int) 1=((max l.length 1:Nat):Int) by omega];refine .zn zm (.for (N:=max l.length 1) (J:=fun k fr w=>∃v4 v5 e4 e5 xs,fr=[(4,v4),(5,v5),(0,.slice a l.length c),(3,Pt b3)]∧bE 1 v4 xs e4∧xs.length≤k∧bE 2 v5 ((my l lo hi k).map rgC).flatten e5∧St H w (e4::e5:: .blk b3 [I lo,I hi]::σ)) ak ?_ ?_ ?_)
 ·exact .mk ⟨_,_,.nul,.nul,[],rfl,.nil 1 none,aU,.nil 2 none,hs.nul.nul⟩
 ·rintro k fr w hk ⟨v4,v5,e4,e5,xs,rfl,tY,hxs,zF,hs⟩;have OZ:=tx l lo hi k;refine .block (.af (.z zm (.zn zg (.af (.y hs (zls [_,_] om cD) (.o (.alloc hs qJ rfl fun b7 w hs=>?_)))))));refine .o (.aL (vs:=[_,_]) hs rfl rfl cD fun w hs=>?_);refine .nil (.cut (fun fs w=>ob fs ⟨60,[],[(6,I (k:Int)),(7,Pt b7),(11,I (k:Int)),(10,I ((max l.length 1:Nat):Int)),(4,v4),(5,v5),(0,.slice a l.length c),(3,Pt b3)]⟩∧St H w (.blk b7 [I (cLo l lo k),I hi]::e4::e5:: .blk b3 [I lo,I hi]::σ)) ?_ ?_)
  ·refine .af (.z zm (.z zm (.z (bT bZ) (.zn fT (.bQ rfl (fun oQ=>?_) (fun oQ=>?_))))))
   ·refine .draw mix rfl hs fun w hs=>?_
    refine .zw 0 rfl (zfa dG) ?_;refine .y 1 rfl hs aj ?_;refine .z 2 rfl zm ?_;refine .z 3 rfl zm ?_;have hx:=nI (l:=l) (i:=k) ak;refine .ixX (enc:=Pce.c) (i:=4) hs rfl aF .none hr rfl rfl bZ oU hx rfl ?_;intro Iv o23 jM;refine .zw 5 rfl (zfa fC) (.r (i:=6) hs rfl aF .none (aR rfl aj (jM.get 0 rfl)) ?_);refine .zw 7 rfl RO ?_;refine .z 8 rfl (zfa dG) ?_;refine .E 9 hs ?_;refine .store hs rfl rfl an ?_;intro w hs;exact .go (.D hs (nT ⟨bg,by unfold cLo;rw [if_pos ak];exact hs⟩))
   ·exact .skip (nT ⟨bg,by unfold cLo;rw [if_neg ak];exact hs⟩)
  ·clear hs;rintro fs w ⟨j8,hs⟩;refine WE.sub ?_ j8;clear j8;refine .cut (fun fs w=>ob fs ⟨60,[],[(6,I (k:Int)),(7,Pt b7),(11,I (k:Int)),(10,I ((max l.length 1:Nat):Int)),(4,v4),(5,v5),(0,.slice a l.length c),(3,Pt b3)]⟩∧St H w (.blk b7 [I (cLo l lo k),I (cHi l hi k)]::e4::e5:: .blk b3 [I lo,I hi]::σ)) ?_ ?_
   ·refine .af (.z zm (.z cC (.z zm (.z (bT bZ) (.zn fT (.bQ rfl (fun DZ=>?_) (fun DZ=>?_)))))))
    ·refine .draw mix rfl hs fun w hs=>?_
     refine .zw 0 rfl (zfa ek) ?_;refine .y 1 rfl hs aj ?_;refine .z 2 rfl zm ?_;refine .z 3 rfl zm ?_;refine .z 4 rfl cC ?_;have hx:=nI (l:=l) (i:=k+1) ak;have hfr:=(bw.2.2 (k+1) ak).1;refine .ixX (enc:=Pce.c) (i:=5) hs rfl aF .none hr rfl rfl bZ oU hx ak ?_;intro b38 o38 XM;refine .zw 6 rfl (zfa fC) (.r (i:=7) hs rfl aF .none (aR rfl aj (XM.get 0 rfl)) ?_);refine .zw 8 rfl jj ?_;refine .z 9 rfl LW ?_;refine .z 10 rfl (zfa ek) ?_;refine .E 11 hs ?_;refine .store hs rfl rfl an ?_;intro w hs;exact .go (.D hs (nT ⟨bg,by unfold cHi;rw [if_pos ak];exact hs⟩))
    ·exact .skip (nT ⟨bg,by unfold cHi;rw [if_neg ak];exact hs⟩)
   ·clear hs;rintro fs w ⟨j8,hs⟩;refine WE.sub ?_ j8;clear j8;refine .af (.z (zfa dG) (.y hs (zld aj) (.z (zfa ek) (.y hs (zld aj) (.zn ql (.bQ rfl (fun BQ=>?_) (fun BQ=>?_)))))))
    ·refine .draw mix rfl hs fun w hs=>?_
     refine .zw 0 rfl zm ?_;refine .z 1 rfl zm ?_;refine .z 4 rfl zm ?_;refine .ys 5 rfl hs [_,_] om cD ?_;refine .e2 (i:=2) (j:=6) aF rfl rfl rfl rfl .none .none hs ?_ ?_
     ·refine .buildSlice (cells:=[I (k:Int)]) hs bO rfl aF ?_;intro aal w hs;refine .go (.e2 (i:=3) (j:=6) aF rfl rfl rfl rfl .none .none hs ?_ ?_)
      ·refine .append (ys:=[I (k:Int)]) hs bJ rfl rfl tY (.own cg rfl rfl) (by simp [Value.oneCell']) (fun l' h=>by omega) ?_;intro v52 en52 w KQ hs;refine .go (.E 6 hs ?_);refine .buildSlice (cells:=[I (cLo l lo k),I (cHi l hi k)]) hs jH rfl aF ?_;intro VR w hs;refine .go (.E 7 hs ?_);refine .append (ys:=[I (cLo l lo k),I (cHi l hi k)]) hs fg rfl rfl zF (.own cg rfl rfl) (by simp [Value.oneCell']) (fun l' h=>by rw [a7 _ (U8 _),List.length_map] at h;omega) ?_;intro v56 en56 w D7 hs;rw [←Fb (my l lo hi k) (cLo l lo k,cHi l hi k)] at D7;refine .go (.zw 8 rfl zg ?_);refine .z 9 rfl zg ?_;refine .D hs ?_;exact nB (nT (.mk ⟨_,_,en52,en56,_,rfl,KQ,by simp;omega,by simp only [my];rw [if_pos cW];exact D7,hs.sb⟩))
      ·refine .buildSlice (cells:=[I (cLo l lo k),I (cHi l hi k)]) hs jH rfl aF ?_;intro VR w hs;refine .go (.E 3 hs ?_);refine .append (ys:=[I (k:Int)]) hs bJ rfl rfl tY (.own cg rfl rfl) (by simp [Value.oneCell']) (fun l' h=>by omega) ?_;intro v52 en52 w KQ hs;refine .go (.E 7 hs ?_);refine .append (ys:=[I (cLo l lo k),I (cHi l hi k)]) hs fg rfl rfl zF (.own cg rfl rfl) (by simp [Value.oneCell']) (fun l' h=>by rw [a7 _ (U8 _),List.length_map] at h;omega) ?_;intro v56 en56 w D7 hs;rw [←Fb (my l lo hi k) (cLo l lo k,cHi l hi k)] at D7;refine .go (.zw 8 rfl zg ?_);refine .z 9 rfl zg ?_;refine .D hs ?_;exact nB (nT (.mk ⟨_,_,en52,en56,_,rfl,KQ,by simp;omega,by simp only [my];rw [if_pos cW];exact D7,hs.sb⟩))
     ·refine .buildSlice (cells:=[I (cLo l lo k),I (cHi l hi k)]) hs jH rfl aF ?_;intro VR w hs;refine .go (.E 2 hs ?_);refine .buildSlice (cells:=[I (k:Int)]) hs bO rfl aF ?_;intro aal w hs;refine .go (.E 3 hs ?_);refine .append (ys:=[I (k:Int)]) hs bJ rfl rfl tY (.own cg rfl rfl) (by simp [Value.oneCell']) (fun l' h=>by omega) ?_;intro v52 en52 w KQ hs;refine .go (.E 7 hs ?_);refine .append (ys:=[I (cLo l lo k),I (cHi l hi k)]) hs fg rfl rfl zF (.own cg rfl rfl) (by simp [Value.oneCell']) (fun l' h=>by rw [a7 _ (U8 _),List.length_map] at h;omega) ?_;intro v56 en56 w D7 hs;rw [←Fb (my l lo hi k) (cLo l lo k,cHi l hi k)] at D7;refine .go (.zw 8 rfl zg ?_);refine .z 9 rfl zg ?_;refine .D hs ?_;exact nB (nT (.mk ⟨_,_,en52,en56,_,rfl,KQ,by simp;omega,by simp only [my];rw [if_pos cW];exact D7,hs.sb⟩))
    ·exact .skip (nB (nT (.mk ⟨_,_,e4,e5,xs,rfl,tY,ak,by simp only [my];rw [if_neg cW];exact zF,hs.sb⟩)))
 ·rintro fr w ⟨v4,v5,e4,e5,xs,rfl,tY,hxs,zF,hs⟩;have OZ:=tx l lo hi (max l.length 1);obtain ⟨H2,aN,Ny,hs⟩:=bE.bG (m:=2) zF (U8 _) ak (by rw [List.length_map];omega) hs (.there .here);exact nT (.af (.z zm (.z zm (.z zg (.zn zg (.ret (Fin.mh results231 rfl rfl ⟨H2,_,_,aN,rfl,Ny,hs.out⟩)))))))
theorem C3{α β:Type}{f:β→α→β}{L:List α}{x:α}{s:β}(h:L[k]? =some x):(L.take (k+1)).foldl f s=f ((L.take k).foldl f s) x:=by
 rw [List.take_add_one,h,List.foldl_append];rfl
set_option maxHeartbeats 4000000 in
theorem tu{w:World}{l:List Pce}{a:Option Addr}{c:Nat}(hs:St H w σ)(hr:RS H 3 (.slice a l.length c) (l.map Pce.c))(bw:Pz l):
  aaq 184 [.slice a l.length c,.agg #[I lo,I hi]] w fun v w'=>∃H1,HLe H H1∧v= .tuple #[I (xtF l lo hi).1,I (xtF l lo hi).2]∧St H1 w' σ:=by
 have h8:=bw.1;refine Cl.o func184 ntmps184 ag2 ?_;refine .af (.bx hs fun b3 w hs=>?_);refine .z zg (.zn zg (.af (.z zm (.o (.call call230 rfl (mv (l:=l) hs) ?_)))));rintro _ w ⟨H1,b,az,rfl,hb,hs⟩;refine .zn zg (.seq (.draw mix rfl hs fun w hs=>?_));refine .zw 0 rfl (zfa dG) ?_;refine .y 1 rfl hs aj ?_;refine .z 2 rfl (zfa dG) ?_;refine .y 3 rfl hs aj ?_;refine .z 4 rfl zg ?_;refine .z 5 rfl zg ?_;refine .D hs ?_;refine .af (.z zm (.y hs (zls [_,_] om cD) (.o (.call call231 rfl (y8 hs (hr.mono az) bw) ?_))));rintro _ w ⟨H2,v1,v2,aN,rfl,zE,hs⟩;have tX:(A2 l lo hi).length≤8:=by have:=tx l lo hi (max l.length 1);unfold A2;omega
 have J7:xtF l lo hi=(A2 l lo hi).foldl (fun s c=>xtS l (xtS l s c.1) c.2) (lo,lo):=rfl;rw [J7];clear J7;generalize A2 l lo hi=C at*;obtain ⟨ac,cc,rfl⟩:=zE.shape;rw [List.length_map] at zE ⊢;have lk:=az.trans aN;replace hb:=hb.mono aN;refine .z zm (.z zex (.z zex (.z zg (.zn zg (.seq (.af (.z zm (.z (bT CJ) (.zn zm (.for (N:=C.length) (J:=fun k fr w=>∃H3,fr=[(25,.slice ac C.length cc),(6,MV b),(4,I ((C.take k).foldl (fun s c=>xtS l (xtS l s c.1) c.2) (lo,lo)).1),(5,I ((C.take k).foldl (fun s c=>xtS l (xtS l s c.1) c.2) (lo,lo)).2)]∧HLe H2 H3∧St H3 w σ) ak ?_ ?_ ?_))))))))))
 ·exact .mk ⟨H2,rfl,HLe.refl _,hs.out⟩
 ·rintro k fr w hk ⟨H3,rfl,bA,hs⟩;obtain ⟨z,hz⟩:=nth hk;rw [C3 (f:=fun s c=>xtS l (xtS l s c.1) c.2) (s:=(lo,lo)) hz];generalize (C.take k).foldl (fun s c=>xtS l (xtS l s c.1) c.2) (lo,lo)=S at*;refine .block (.af (.ixX (enc:=rgC) hs (zE.mono bA) rfl rfl CJ cD hz rfl ?_));intro UQ o29 Aa;refine .q hs (bj (vs:=[I z.1,I z.2]) rfl om cD Aa) (.o (.alloc hs qJ rfl fun jr w hs=>?_));refine .o (.aL (vs:=[_,_]) hs rfl rfl cD fun w hs=>?_);refine .nil (.af (.z (zfa dG) (.y hs (zld aj) (.z (zfa ek) (.y hs (zld aj) (.o (.buildSlice (cells:=Is [z.1,z.2]) hs dX rfl aF fun Rw w hs=>?_)))))));obtain ⟨H4,gz,Yc,hs⟩:=bE.bX (bE.full (len:=2) rfl) aU hs .here;replace hs:=hs.out (τ:=σ);refine .z (bT ai) (.zn zm (.for (N:=2) (J:=fun m fr w=>fr=[(35,.slice (some ⟨Rw,0,none⟩) 2 2),(6,MV b),(4,I (([z.1,z.2].take m).foldl (xtS l) S).1),(5,I (([z.1,z.2].take m).foldl (xtS l) S).2),(27,I (k:Int)),(26,I (C.length:Int)),(25,.slice ac C.length cc)]∧St H4 w σ) ak ?_ ?_ ?_))
  ·exact .mk ⟨rfl,hs⟩
  ·rintro m fr w hm ⟨rfl,hs⟩;have hy:=ck (l:=[z.1,z.2]) (i:=m) hm;rw [C3 (f:=xtS l) (s:=S) hy];generalize gi [z.1,z.2] m=y at*;generalize ([z.1,z.2].take m).foldl (xtS l) S=s at*;have VE:=fun (n:Int) (w:World) (hs:St H4 w σ)=>lr (n:=n) hs (hb.mono (bA.trans gz)) (hr.mono (lk.trans (bA.trans gz))) h8
   refine .block (.af (.ixX (enc:=fun x=>[I x]) hs Yc rfl rfl ai an hy rfl ?_));intro YB o39 wO;replace wO:=bI.one wO;refine .y hs (zld aj) (.zn zg (.cut (fun fs w=>ob fs ⟨61,[],[(12,I y),(6,MV b),(4,I (xtS l s y).1),(5,I s.2),(37,I (m:Int)),(36,I 2),(35,.slice (some ⟨Rw,0,none⟩) 2 2),(27,I (k:Int)),(26,I (C.length:Int)),(25,.slice ac C.length cc)]⟩∧St H4 w σ) ?_ ?_))
   ·refine .af (.z zm (.z zm (.o (.jN (first:=[]) (cap:=[Pt b]) rfl rfl call276 (VE _ _ hs) ?_))));rintro _ w ⟨rfl,hs⟩;refine .z zm (.z zm (.o (.jN (first:=[]) (cap:=[Pt b]) rfl rfl call276 (VE _ _ hs) ?_)));rintro _ w ⟨rfl,hs⟩;refine .zn fT (.bQ rfl (fun qt=>?_) (fun qt=>?_))
    ·exact .region (.z zm (.zn zg (nT ⟨by simp only [xtS];rw [if_pos cW];exact bg,hs⟩)))
    ·exact .skip (nT ⟨by simp only [xtS];rw [if_neg cW];exact bg,hs⟩)
   ·clear hs;rintro fs w ⟨j8,hs⟩;refine WE.sub ?_ j8;clear j8;refine .af (.z zm (.z zm (.o (.jN (first:=[]) (cap:=[Pt b]) rfl rfl call276 (VE _ _ hs) ?_))));rintro _ w ⟨rfl,hs⟩;refine .z zm (.z zm (.o (.jN (first:=[]) (cap:=[Pt b]) rfl rfl call276 (VE _ _ hs) ?_)));rintro _ w ⟨rfl,hs⟩;refine .zn nE (.bQ rfl (fun HY=>?_) (fun HY=>?_))
    ·refine .region (.z zm (.zn zg (nB (nT ?_))));have e:(xtS l s y).2=y:=if_pos HY;exact .mk ⟨by rw [e],hs⟩
    ·refine .skip (nB (nT ?_));have e:(xtS l s y).2=s.2:=if_neg HY;exact .mk ⟨by rw [e],hs⟩
  ·rintro fr w ⟨rfl,hs⟩;exact nB (nT (.mk ⟨H4,rfl,bA.trans gz,hs⟩))
 ·rintro fr w ⟨H3,rfl,bA,hs⟩;rw [List.take_length];exact nT (.af (.z zm (.z zm (.z zg (.zn zg (.ret (Fin.mh results184 rfl rfl ⟨H3,lk.trans bA,rfl,hs⟩)))))))
structure SlV where
 a:Option Addr
 n:Nat
 c:Nat
abbrev SlV.v(q:SlV):Value:= .slice q.a q.n q.c
abbrev mG(i:Int)(gr:Nat→Int)(q:Nat→SlV)(lo hi:Nat→Int)(ex:SlV):List Value:=[I i,I (gr 0),(q 0).v,I (lo 0),I (hi 0),I (gr 1),(q 1).v,I (lo 1),I (hi 1),I (gr 2),(q 2).v,I (lo 2),I (hi 2),I (gr 3),(q 3).v,I (lo 3),I (hi 3),I (gr 4),(q 4).v,I (lo 4),I (hi 4),ex.v]
def upF{α:Type}(f:Nat→α)(j:Nat)(v:α):Nat→α:=fun k=>if k=j then v else f k
theorem Q9(h:k<5):k=0∨k=1∨k=2∨k=3∨k=4:=by omega
theorem MH(i gr q lo hi ex){k:Nat}(h:k<5)(z:Int):(mG i gr q lo hi ex).set (1+k*4) (I z)=mG i (upF gr k z) q lo hi ex:=by
 rcases Q9 h with rfl|rfl|rfl|rfl|rfl<;>rfl
theorem Qh(i gr q lo hi ex){k:Nat}(h:k<5)(z:SlV):(mG i gr q lo hi ex).set (1+k*4+1) z.v=mG i gr (upF q k z) lo hi ex:=by
 rcases Q9 h with rfl|rfl|rfl|rfl|rfl<;>rfl
theorem MF(i gr q lo hi ex){k:Nat}(h:k<5)(z:Int):(mG i gr q lo hi ex).set (1+k*4+2) (I z)=mG i gr q (upF lo k z) hi ex:=by
 rcases Q9 h with rfl|rfl|rfl|rfl|rfl<;>rfl
theorem MG(i gr q lo hi ex){k:Nat}(h:k<5)(z:Int):(mG i gr q lo hi ex).set (1+k*4+2+1) (I z)=mG i gr q lo (upF hi k z) ex:=by
 rcases Q9 h with rfl|rfl|rfl|rfl|rfl<;>rfl
theorem Bt(i gr q lo hi ex){k:Nat}(h:k<5):(mG i gr q lo hi ex)[1+k*4+1]? =some (q k).v∧(mG i gr q lo hi ex)[1+k*4+2]? =some (I (lo k))∧(mG i gr q lo hi ex)[1+k*4+2+1]? =some (I (hi k)):=by
 rcases Q9 h with rfl|rfl|rfl|rfl|rfl<;>exact ⟨rfl,rfl,rfl⟩
theorem xu(i gr q lo hi ex){k j:Nat}(h:k<5)(hj:j≤3):Nat.blt (1+k*4+j) (mG i gr q lo hi ex).length=true:=by
 simp;omega
def q00:Nat→SlV:=fun _=>⟨none,0,0⟩
theorem Oj{r:RmL}{g:Int}{j:Nat}(hj:g - 1=j):upF (fun _=>0) j r.lo=LB [r] g∧upF (fun _=>0) j r.hi=LC [r] g:=by
 constructor<;>funext k<;>simp only [upF,LB,LC]<;>by_cases e:k=j
 ·rw [if_pos e,if_pos ak]
 ·rw [if_neg e,if_neg ak]
 ·rw [if_pos e,if_pos ak]
 ·rw [if_neg e,if_neg ak]
theorem Jo{l:List RmL}:LB l 0=(fun _=>0)∧LC l 0=(fun _=>0):=by
 constructor<;>funext k<;>simp only [LB,LC]<;>split<;>first|rfl|(rw [if_neg ak])
set_option maxHeartbeats 8000000 in
theorem Aj{w:World}{c:Cod}{x:Ver}{i:Int}{v:Value}{l:List RmL}(hs:St H w (.blk b (qC c x i 0)::σ))(hx:I0 H x)(bw:∀p∈x.puts,Cn p)(hr:RS H 6 v (l.map RmL.c))(h1:l.length≤1)(hl:∀r∈l,A6 r):
  aaq 115 [Pt b,v] w fun u w'=>∃g gr q ex,u= .agg (mG i gr q (LB l g) (LC l g) ex).toArray∧(∀r∈l,EW r x.puts g)∧St H w' (.blk b (qC c x i 0)::σ):=by
 obtain ⟨a,cap,rfl⟩:=hr.shape;rw [List.length_map] at hr ⊢;refine Cl.o func115 ntmps115 ag2 ?_;refine .af (.o (.alloc hs zeroValue250 rfl fun b4 w hs=>?_));refine .nil (.af (.z zm (.z znc (.z (zfa mn) (.y hs (zld aj) (.z (zbd (mG i (fun _=>0) q00 (fun _=>0) (fun _=>0) ⟨none,0,0⟩) Er rfl aF) (.o (.alloc hs zeroValue250 rfl fun b5 w hs=>?_))))))));refine .o (.fy (vs:=[_,_,_,_,_,_,_,_,_,_,_,_,_,_,_,_,_,_,_,_,_,_]) hs rfl rfl sizeOf250 fun w hs=>?_);refine .nil (.seq (.af (.zn zm (.block ?_))));refine .loop (fun k:Nat=>⟨92,[],[(17,I (k:Int)),(5,Pt b5),(4,Pt b4),(0,Pt b),(1,.slice a l.length cap)]⟩)
  (fun k w=>k≤5∧∃gr,St H w (.blk b5 (mG i gr q00 (fun _=>0) (fun _=>0) ⟨none,0,0⟩):: .blk b4 (mG 0 (fun _=>0) q00 (fun _=>0) (fun _=>0) ⟨none,0,0⟩):: .blk b (qC c x i 0)::σ)) (fun k=>5 - k) 0 (.dw rfl aU bg) ⟨Nat.zero_le _,fun _=>0,hs⟩ ?_
 clear hs;rintro k w ⟨hk,gr,hs⟩;refine .af (.zn fT (.seq (.bQ rfl (fun oQ=>?_) (fun oQ=>?_))))
 ·refine .skip (nT (.seq (.block (.af (.z zm (.zn zg (.region (.z zm (.z zm (.z cC (.z (zfa nP) (.q hs (sH (k:=k) (m:=4) rfl rfl runUnderlying248 sizeOf247 rfl ak) (.z (zfa Ag) (.o (.store hs rfl rfl an ?_ .here (xu (j:=0) _ _ _ _ _ _ ak ak) (MH _ _ _ _ _ _ ak _))))))))))))))));intro w hs;exact .nil (nB (nT (.region (.z cC (.zn zm (nT ⟨k+1,.dw rfl aU bg,⟨ak,_,hs⟩,ak⟩))))))
 ·refine .exit (xT (xT (xB (nT (.seq (.af (.z zm (.z (bT jQ) (.zn zm (.for (N:=l.length) (J:=fun k fr w=>∃gr q lo hi ex,fr=[(27,.slice a l.length cap),(5,Pt b5),(4,Pt b4),(0,Pt b)]∧(k=0→q=q00∧lo=(fun _=>0)∧hi=(fun _=>0)∧ex=⟨none,0,0⟩)∧(k=1→∃g,(∀r∈l,EW r x.puts g)∧lo=LB l g∧hi=LC l g)∧St H w (.blk b5 (mG i gr q lo hi ex):: .blk b4 (mG 0 (fun _=>0) q00 (fun _=>0) (fun _=>0) ⟨none,0,0⟩):: .blk b (qC c x i 0)::σ)) ak ?_ ?_ ?_))))))))))
  ·exact .mk ⟨gr,_,_,_,_,rfl,fun _=>⟨rfl,rfl,rfl,rfl⟩,fun h=>by omega,hs⟩
  ·rintro k fr w hk ⟨gr,q,lo,hi,ex,rfl,h0,-,hs⟩;obtain rfl:k=0:=by omega
   obtain ⟨rfl,rfl,rfl,rfl⟩:=h0 rfl;obtain ⟨r,rfl⟩:=List.length_eq_one_iff.1 (show l.length=1 by omega);have Vm:=hl r aU;unfold A6 at Vm;refine .block (.af (.ixX (enc:=RmL.c) hs hr rfl rfl jQ jO (show [r][0]? =some r from rfl) rfl ?_));intro Li o31 s8;refine .q hs (bj (vs:=r.c) rfl Y6 jO s8) (.o (.alloc hs YX rfl fun b8 w hs=>?_));refine .o (.aL (vs:=[_,_,_,_,_,_]) hs rfl rfl jO fun w hs=>?_);refine .nil (.seq (.draw mix rfl hs fun w hs=>?_));refine .zw 0 rfl zm ?_;refine .z 1 rfl znc ?_;refine .z 2 rfl (zfa jD) ?_;refine .ys 3 rfl hs [_,_,_,_,_,_,_,_,_,_,_,_] F7 fI ?_;refine .ys 4 rfl hs [_,_,_,_,_,_] Y6 jO ?_;refine .E 5 hs ?_;refine .call call186 rfl (y7 (r:=r) hs hx bw) ?_;rintro _ w ⟨g,p,rfl,hg,hs⟩;have hgb:=hg.bd bw;refine .go (.zw 6 rfl zm ?_);refine .z 7 rfl zex ?_;refine .z 8 rfl zex ?_;refine .z 9 rfl zg ?_;refine .z 10 rfl zg ?_;refine .D hs ?_;refine .seq (.af (.z zm (.zn fW (.bQ rfl (fun BR=>?_) (fun BR=>?_)))))
   ·refine .af (.z (zfa tm) (.y hs (zld aC) (.z (zfa lE) (.y hs (zld aj) (.o (.buildSlice (cells:=[I r.id]) hs bO rfl aF fun b48 w hs=>?_))))));refine .o (.append (ys:=[I r.id]) hs.nul bJ rfl rfl (.nil 1 none) (.own cg rfl rfl) (by simp [Value.oneCell']) (fun l' h=>by simp at h;omega) ?_);intro v49 en49 w Yl hs;obtain ⟨a49,n49,c49,rfl,-⟩:=Yl.shape;refine .z (zfa tm) (.o (.store hs rfl rfl aP ?_ cg rfl (c':=mG i gr q00 (fun _=>0) (fun _=>0) ⟨a49,n49,c49⟩) rfl));intro w hs;refine .nil (.exit (xT (xB (nT ?_))));exact .mk ⟨gr,_,_,_,_,rfl,fun h=>by omega,fun _=>⟨0,fun r' LI=>by
     rw [List.mem_singleton.1 LI,←BR];exact hg,Jo.1.symm,Jo.2.symm⟩,hs.sb⟩
   ·refine .skip (nT (.af (.z zm ?_)));obtain ⟨j,hj⟩:∃j:Nat,g - 1=j:=⟨(g - 1).toNat,ak⟩;have LM:j<5:=by omega
    refine .z jj ?_;rw [hj];refine .z (zfa nP) (.q hs (sH (k:=j) (m:=4) rfl rfl runUnderlying248 sizeOf247 rfl LM) (.zn zg (.seq (.draw mix rfl hs fun w hs=>?_))));refine .zw 0 rfl zm ?_;refine .z 1 rfl zm ?_;refine .z 2 rfl znc ?_;refine .z 3 rfl (zfa qW) ?_;refine .y 4 rfl hs aC ?_ (hr:= .own (.there .here) (Bt i gr q00 (fun _=>0) (fun _=>0) ⟨none,0,0⟩ LM).1);refine .zw 5 rfl (zfa lE) ?_;refine .y 6 rfl hs aj ?_;refine .E 7 hs ?_;refine .buildSlice (cells:=[I r.id]) hs bO rfl aF ?_;intro Yy w hs;refine .go (.E 8 hs ?_);refine .append (ys:=[I r.id]) hs.nul bJ rfl rfl (.nil 1 none) (.own cg rfl rfl) (by simp [Value.oneCell']) (fun l' h=>by simp at h;omega) ?_;intro v63 en63 w Yk hs;obtain ⟨a63,n63,c63,rfl,-⟩:=Yk.shape;refine .go (.zw 9 rfl znc ?_);refine .z 10 rfl (zfa qW) ?_;refine .E 11 hs ?_;refine .store hs rfl rfl aP ?_ cg (xu (j:=1) _ _ _ _ _ _ LM ak) (Qh _ _ _ _ _ _ LM ⟨a63,n63,c63⟩);intro w hs;refine .go (.D hs (.seq (.draw mix rfl hs fun w hs=>?_)));refine .zw 0 rfl zm ?_;refine .z 1 rfl znc ?_;refine .z 2 rfl (zfa iL) ?_;refine .z 3 rfl (zfa dG) ?_;refine .y 4 rfl hs aj ?_ (hr:= .own (.there (.there (.there .here))) (Bt i gr (upF q00 j ⟨a63,n63,c63⟩) (fun _=>0) (fun _=>0) ⟨none,0,0⟩ LM).2.1);refine .zw 5 rfl (zfa gp) ?_;refine .z 6 rfl (zfa dG) ?_;refine .y 7 rfl hs aj ?_;refine .z 8 rfl cC ?_;refine .z 9 rfl znc ?_;refine .z 10 rfl (zfa iL) ?_;refine .z 11 rfl (zfa dG) ?_;refine .E 12 hs ?_;refine .store hs rfl rfl an ?_ cg (xu (j:=2) _ _ _ _ _ _ LM ak) (MF _ _ _ _ _ _ LM _);intro w hs;refine .go (.D hs (.draw mix rfl hs fun w hs=>?_));refine .zw 0 rfl zm ?_;refine .z 1 rfl znc ?_;refine .z 2 rfl (zfa iL) ?_;refine .z 3 rfl (zfa ek) ?_;refine .y 4 rfl hs aj ?_ (hr:= .own (.there (.there (.there .here))) (Bt i gr (upF q00 j ⟨a63,n63,c63⟩) (upF (fun _=>0) j (0+r.lo)) (fun _=>0) ⟨none,0,0⟩ LM).2.2);refine .zw 5 rfl (zfa gp) ?_;refine .z 6 rfl (zfa ek) ?_;refine .y 7 rfl hs aj ?_;refine .z 8 rfl cC ?_;refine .z 9 rfl znc ?_;refine .z 10 rfl (zfa iL) ?_;refine .z 11 rfl (zfa ek) ?_;refine .E 12 hs ?_;refine .store hs rfl rfl an ?_ cg (xu (j:=3) _ _ _ _ _ _ LM ak) (MG _ _ _ _ _ _ LM _);intro w hs;refine .go (.D hs (nB (nT ?_)));exact .mk ⟨gr,upF q00 j ⟨a63,n63,c63⟩,upF (fun _=>0) j (0+r.lo),upF (fun _=>0) j (0+r.hi),⟨none,0,0⟩,rfl,fun h=>by omega,fun _=>⟨g,fun r' LI=>by
     rw [List.mem_singleton.1 LI];exact hg,by rw [Int.zero_add,(Oj hj).1],by rw [Int.zero_add,(Oj hj).2]⟩,hs.sb⟩
  ·rintro fr w ⟨gr,q,lo,hi,ex,rfl,h0,h2,hs⟩;obtain ⟨g,hg,rfl,rfl⟩:∃g,(∀r∈l,EW r x.puts g)∧lo=LB l g∧hi=LC l g:=by
    rcases Nat.lt_or_ge 0 l.length with h|h
    ·exact h2 ak
    ·obtain rfl:=List.eq_nil_of_length_eq_zero (show l.length=0 by omega);obtain ⟨-,rfl,rfl,-⟩:=h0 rfl;exact ⟨0,fun r h=>(by cases h),rfl,rfl⟩
   refine nT (.af (.y hs (zls [_,_,_,_,_,_,_,_,_,_,_,_,_,_,_,_,_,_,_,_,_,_] isAgg250 sizeOf250) (.o (.fy (vs:=[_,_,_,_,_,_,_,_,_,_,_,_,_,_,_,_,_,_,_,_,_,_]) hs rfl rfl sizeOf250 fun w hs=>?_))));exact .nil (.ret (Fin.ki [] [] hs fun w hs=>⟨_,results1 results115 (dK (vs:=mG i gr q (LB l g) (LC l g) ex) hs rfl isAgg250 sizeOf250),g,gr,q,ex,rfl,hg,hs.sb⟩))
abbrev GS(t:Int)(f:Nat→Int):List Value:=[I t,I (f 0),I (f 1),I (f 2),I (f 3),I (f 4)]
theorem GR(t f){k:Nat}(h:k<5)(z:Int):(GS t f).set (1+k) (I z)=GS t (upF f k z):=by
 rcases Q9 h with rfl|rfl|rfl|rfl|rfl<;>rfl
theorem uo{x:Ver}{f:Nat}{p q:Nat→Int}:∀{k:Nat},(∀j<k,p j=q j)→RP x f p k=RP x f q k
 |0,_=>rfl
 |k+1,h=>by simp only [RP];rw [uo fun j hj=>h j ak,h k ak]
set_option maxHeartbeats 8000000 in
theorem wW{w:World}{x:Ver}{f:Nat}{i:Int}{gr lo hi:Nat→Int}{q:Nat→SlV}{ex:SlV}(hs:St H w σ)(hx:I0 H x)(bw:∀k<10,Pz (x.ln k).ps)(hf:f<2):
  aaq 114 [x.agg,I (f:Int),.agg (mG i gr q lo hi ex).toArray] w fun u w'=>∃H1 la lb,HLe H H1∧u= .tuple #[.agg (GS (I7 x f fun k=>(xtF (x.ln (5*f+k)).ps (lo k) (hi k)).1) la).toArray,.agg (GS (I7 x f fun k=>(xtF (x.ln (5*f+k)).ps (lo k) (hi k)).2) lb).toArray]∧St H1 w' σ:=by
 refine Cl.o func114 ntmps114 ag3 ?_;refine .af (.bx hs fun b3 w hs=>?_);refine .bx hs fun b5 w hs=>?_
 refine .o (.alloc hs ud rfl fun b6 w hs=>?_);refine .o (.alloc hs ud rfl fun b7 w hs=>?_);refine .nil (.seq (.af (.z (zfa nP) (.y hs (zls [_,_,_,_,_,_,_,_,_,_,_,_,_,_,_,_,_,_,_,_] isAgg248 sizeOf248) (.zn zm (.block ?_))))));refine .loop (fun k:Nat=>⟨49,[],[(12,I (k:Int)),(11,.agg #[I (gr 0),(q 0).v,I (lo 0),I (hi 0),I (gr 1),(q 1).v,I (lo 1),I (hi 1),I (gr 2),(q 2).v,I (lo 2),I (hi 2),I (gr 3),(q 3).v,I (lo 3),I (hi 3),I (gr 4),(q 4).v,I (lo 4),I (hi 4)]),(3,Pt b3),(6,Pt b6),(7,Pt b7),(1,I (f:Int))]⟩)
  (fun k w=>k≤5∧∃H1 la lb,HLe H H1∧(∀j<k,la j=(xtF (x.ln (5*f+j)).ps (lo j) (hi j)).1∧lb j=(xtF (x.ln (5*f+j)).ps (lo j) (hi j)).2)∧St H1 w (.blk b7 (GS 0 lb):: .blk b6 (GS 0 la):: .blk b3 x.v::σ)) (fun k=>5 - k) 0 (.dw rfl aU bg)
  ⟨Nat.zero_le _,H,fun _=>0,fun _=>0,HLe.refl _,fun j hj=>by omega,hs.sb⟩ ?_
 clear hs;rintro k w ⟨hk,H1,la,lb,az,XY,hs⟩;refine .af (.zn fT (.seq (.bQ rfl (fun iH=>?_) (fun iH=>?_))))
 ·refine .skip (nT (.seq (.block (.af (.z zm ?_)))));refine .q hs (Oq (k:=k) (m:=4) (ws:=#[I (gr k),(q k).v,I (lo k),I (hi k)]) runUnderlying248 sizeOf247 isAgg247 rfl rfl rfl ak (by
   rcases Q9 (k:=k) ak with rfl|rfl|rfl|rfl|rfl<;>rfl)) ?_
  refine .o (.alloc hs zeroValue247 rfl fun b9 w hs=>?_);refine .z zg (.o (.aL (vs:=[_,_,_,_]) hs rfl rfl sizeOf247 fun w hs=>?_));refine .nil (.draw mix rfl hs fun w hs=>?_);refine .zw 0 rfl zm ?_;refine .z 1 rfl zm ?_;refine .z 2 rfl zm ?_;refine .z 3 rfl zm ?_;refine .z 4 rfl (zfa kU) ?_;have DX:x.v[2+f*5+k*1]? =some (x.ln (5*f+k)).v:=by
   rw [show 2+f*5+k*1=2+(5*f+k) by omega];exact SX x ak
  have hl:=(hx.ln (5*f+k) ak).mono az;have Vu:=bw (5*f+k) ak;refine .zw 5 rfl (sH (k:=f) (m:=5) rfl rfl runUnderlying155 sizeOf154 rfl hf) (.zw 6 rfl (sH (k:=k) (m:=1) rfl rfl runUnderlying154 sizeOf153 rfl ak) (.y 7 rfl hs PJ ?_ (hr:= .own (.there (.there (.there .here))) DX)));refine .zw 8 rfl (zfa iL) ?_;refine .ys 9 rfl hs [_,_] om cD ?_;refine .z 14 rfl (zfa mr) ?_;refine .z 17 rfl (zfa mr) ?_;refine .E 10 hs ?_;refine .call call184 rfl (tu (l:=(x.ln (5*f+k)).ps) hs hl Vu) ?_;rintro _ w ⟨H2,aN,rfl,hs⟩;refine .go (.zw 11 rfl zm ?_);refine .z 12 rfl zex ?_;refine .z 13 rfl zex ?_;refine .zw 15 rfl (My (k:=k) rfl rfl fb an rfl ak) (.E 16 hs ?_);refine .store hs rfl rfl an ?_ cg (by simp;omega) (GR _ _ ak _);intro w hs;refine .go (.zw 18 rfl (My (k:=k) rfl rfl fb an rfl ak) (.E 19 hs ?_));refine .store hs rfl rfl an ?_ cg (by simp;omega) (GR _ _ ak _);intro w hs;refine .go (.D hs (nB (nT (.region (.z cC (.zn zm (nT ?_)))))));exact ⟨k+1,.dw rfl aU bg,⟨ak,H2,upF la k (xtF (x.ln (5*f+k)).ps (lo k) (hi k)).1,upF lb k (xtF (x.ln (5*f+k)).ps (lo k) (hi k)).2,az.trans aN,fun j hj=>by
   by_cases e:j=k
   ·subst e;simp [upF]
   ·simp only [upF,if_neg e];exact XY j ak,hs.sb⟩,ak⟩
 ·refine .exit (xT (xT (xB (nT (.seq (.draw mix rfl hs fun w hs=>?_))))));obtain rfl:k=5:=by omega
  have e1:I7 x f la=I7 x f fun k=>(xtF (x.ln (5*f+k)).ps (lo k) (hi k)).1:=by unfold I7;rw [uo fun j hj=>(XY j hj).1]
  have e2:I7 x f lb=I7 x f fun k=>(xtF (x.ln (5*f+k)).ps (lo k) (hi k)).2:=by unfold I7;rw [uo fun j hj=>(XY j hj).2]
  refine .ys 0 rfl hs [_,_,_,_,_,_,_,_,_,_,_,_] F7 fI ?_;refine .z 1 rfl zm ?_;refine .z 2 rfl (zfa mr) ?_;refine .ys 3 rfl hs [_,_,_,_,_] isAgg111 oV ?_;refine .ys 5 rfl hs [_,_,_,_,_,_,_,_,_,_,_,_] F7 fI ?_;refine .z 6 rfl zm ?_;refine .z 7 rfl (zfa mr) ?_;refine .ys 8 rfl hs [_,_,_,_,_] isAgg111 oV ?_;refine .E 4 hs ?_;refine .call call185 rfl (nz (lit:=la) hs (x:=x) ⟨hx.rs.mono az,fun p hp=>(hx.puts p hp).mono az,fun k hk=>(hx.ln k hk).mono az⟩ bw hf) ?_;rintro _ w ⟨H2,aN,rfl,hs⟩;have lk:=az.trans aN;refine .go (.zw 10 rfl (zfa mu) (.E 9 hs ?_));refine .call call185 rfl (nz (lit:=lb) hs (x:=x) ⟨hx.rs.mono lk,fun p hp=>(hx.puts p hp).mono lk,fun k hk=>(hx.ln k hk).mono lk⟩ bw hf) ?_;rintro _ w ⟨H3,bA,rfl,hs⟩;rw [e1,e2];refine .go (.E 11 hs ?_);refine .store hs rfl rfl an ?_;intro w hs;refine .go (.zw 12 rfl (zfa mu) (.E 13 hs ?_));refine .store hs rfl rfl an ?_;intro w hs;refine .go (.D hs (.seq (.draw mix rfl hs fun w hs=>?_)));refine .ys 0 rfl hs [_,_,_,_,_,_] tT dT ?_;refine .ys 1 rfl hs [_,_,_,_,_,_] tT dT ?_;refine .E 2 hs ?_;refine .aL (vs:=[_,_,_,_,_,_]) hs rfl rfl dT ?_;intro w hs;refine .go (.E 3 hs ?_);refine .aL (vs:=[_,_,_,_,_,_]) hs rfl rfl dT ?_;intro w hs;exact .go (.D hs (.ret (Fin.ki [] [] hs fun w hs=>⟨_,results2 results114 (dK (vs:=GS _ la) hs rfl tT dT) (dK (vs:=GS _ lb) hs rfl tT dT),H3,la,lb,lk.trans bA,rfl,hs.sb⟩)))
set_option maxHeartbeats 4000000 in
theorem Ao{w:World}{c:Cod}{f:Nat}{v:Value}{l:List RmL}(hs:St H w σ)(hx:Hd H c)(bw:mc c)(hd:0≤day∧day≤100000)(hf:f<2)(hr:RS H 6 v (l.map RmL.c))(h1:l.length≤1):
  aaq 65 [.agg #[.string c.name,c.sl],I day,I (f:Int),v] w fun u w'=>∃H1 lo hi la lb e,HLe H H1∧u= .tuple #[.agg (GS lo la).toArray,.agg (GS hi lb).toArray,I e]∧F0 c day f l lo hi e∧St H1 w' σ:=by
 have IW:=J5 c.vers day c.vers.length;refine Cl.o func65 ntmps65 ag4 ?_;refine .af (.bx hs fun b4 w hs=>?_);refine .o (.alloc hs ud rfl fun b8 w hs=>?_);refine .o (.alloc hs ud rfl fun b9 w hs=>?_);refine .zn zg (.af (.y hs (zls [_,_] N9 oX) (.o (.call call111 rfl (Em hs hx bw) ?_))));rintro _ w ⟨b,rfl,hs⟩;refine .z zm (.z zm (.o (.call call112 rfl (El hs hx ak hd) ?_)));rintro _ w ⟨x,i,e,rfl,he,hs⟩;refine .z zm (.o (.call call113 rfl (Ai hs hr h1) ?_));rintro _ w ⟨e',rfl,R3,hs⟩;refine .zn zg (.seq (.af (.z zm (.z znc (.z (zfa fu) (.y hs (zld isAgg57) (.zn gv (.gN rfl (fun jM=>?_) (fun jM=>?_)))))))))
 ·refine .seq (.draw mix rfl hs fun w hs=>?_);refine .zw 0 rfl (zbd [_,_,_,_,_,_] zj) ?_;refine .z 1 rfl (zbd [_,_,_,_,_,_] zj) ?_;refine .z 2 rfl zm ?_;refine .z 3 rfl znc ?_;refine .z 4 rfl (zfa fu) ?_;refine .y 5 rfl hs isAgg57 ?_;refine .E 6 hs ?_;refine .aL (vs:=[_,_,_,_,_,_]) hs rfl rfl dT ?_;intro w hs;refine .go (.E 7 hs ?_);refine .aL (vs:=[_,_,_,_,_,_]) hs rfl rfl dT ?_;intro w hs;refine .go (.zw 8 rfl zg ?_);refine .D hs ?_;refine .ret (rT (?_));exact Fin.ki [] [] hs fun w hs=>⟨_,results3 results65 (dK (vs:=GS 0 fun _=>0) hs rfl tT dT) (dK (vs:=GS 0 fun _=>0) hs rfl tT dT) rfl,H,0,0,fun _=>0,fun _=>0,e',HLe.refl _,rfl,by
   rcases he with ⟨h2,rfl⟩|⟨h2,-,rfl⟩
   ·obtain ⟨-,rfl⟩|⟨h3,-⟩|⟨h3,-⟩:=R3
    ·exact .none h2
    ·omega
    ·omega
   ·obtain ⟨h3,-⟩|⟨-,-,rfl⟩|⟨-,h3,rfl⟩:=R3
    ·exact (h3 rfl).elim
    ·exact (jM rfl).elim
    ·exact .room h2 h3,hs.sb⟩
 ·refine .skip (nT (.seq (.draw mix rfl hs fun w hs=>?_)));obtain ⟨fH,Vm,rfl,rfl⟩:0≤inF c.vers day c.vers.length∧(∀r∈l,A6 r)∧e'=0∧x=Cy c.vers (inF c.vers day c.vers.length).toNat:=by
   rcases he with ⟨h2,rfl⟩|⟨h2,rfl,rfl⟩
   ·obtain ⟨-,rfl⟩|⟨h3,-⟩|⟨h3,-⟩:=R3
    ·exact absurd jM cR
    ·omega
    ·omega
   ·obtain ⟨h3,-⟩|⟨-,h3,rfl⟩|⟨-,h3,rfl⟩:=R3
    ·exact (h3 rfl).elim
    ·exact ⟨h2,h3,rfl,rfl⟩
    ·exact absurd jM cR
  have Tw:(inF c.vers day c.vers.length).toNat<c.vers.length:=by omega
  have Zh:=(bw.vers _ Tw).1;have Zi:=hx.vers _ (List.mem_of_getElem? (sx Tw));refine .zw 0 rfl zm ?_;refine .z 1 rfl znc ?_;refine .z 2 rfl (zfa jD) ?_;refine .ys 3 rfl hs [_,_,_,_,_,_,_,_,_,_,_,_] F7 fI ?_;refine .z 4 rfl zm ?_;refine .z 5 rfl zm ?_;refine .z 6 rfl zm ?_;refine .E 7 hs ?_;refine .call call115 rfl (Aj hs Zi Zh.puts hr h1 Vm) ?_;rintro _ w ⟨g,gr,q,ex,rfl,hg,hs⟩;refine .go (.E 8 hs ?_);refine .call call114 rfl (wW hs Zi Zh.ln hf) ?_;rintro _ w ⟨H1,la,lb,az,rfl,hs⟩;refine .go (.zw 9 rfl zm ?_);refine .z 10 rfl zex ?_;refine .z 11 rfl zex ?_;refine .E 12 hs ?_;refine .aL (vs:=[_,_,_,_,_,_]) hs rfl rfl dT ?_;intro w hs;refine .go (.E 13 hs ?_);refine .aL (vs:=[_,_,_,_,_,_]) hs rfl rfl dT ?_;intro w hs;refine .go (.D hs (.seq (.draw mix rfl hs fun w hs=>?_)));refine .ys 0 rfl hs [_,_,_,_,_,_] tT dT ?_;refine .ys 1 rfl hs [_,_,_,_,_,_] tT dT ?_;refine .E 2 hs ?_;refine .aL (vs:=[_,_,_,_,_,_]) hs rfl rfl dT ?_;intro w hs;refine .go (.E 3 hs ?_);refine .aL (vs:=[_,_,_,_,_,_]) hs rfl rfl dT ?_;intro w hs;refine .go (.zw 4 rfl zg ?_);refine .D hs ?_;exact .ret (Fin.ki [] [] hs fun w hs=>⟨_,results3 results65 (dK (vs:=GS _ la) hs rfl tT dT) (dK (vs:=GS _ lb) hs rfl tT dT) rfl,H1,_,_,la,lb,0,az,rfl,.ok fH Vm hg,hs.sb⟩)
theorem y9{w:World}{c:Cod}{f:Nat}{v:Value}{l:List RmL}(hs:St H w σ)(hx:Hd H c)(bw:mc c)(hd:0≤day∧day≤100000)(hf:f<2)(hr:RS H 6 v (l.map RmL.c))(h1:l.length≤1):
  aaq 23 [.agg #[.string c.name,c.sl],I day,I (f:Int),v] w fun u w'=>∃H1 lo hi e,HLe H H1∧u= .tuple #[.agg #[I lo,I hi],I e]∧F0 c day f l lo hi e∧St H1 w' σ:=by
 obtain ⟨a,cap,rfl⟩:=hr.shape;refine Cl.o func23 ntmps23 ag4 ?_;refine .af (.bx hs fun b4 w hs=>?_);refine .o (.alloc hs qJ rfl fun b8 w hs=>?_);refine .zn zg (.af (.y hs (zls [_,_] N9 oX) (.z zm (.z zm (.z zm (.o (.call call65 rfl (Ao hs hx bw hd hf hr h1) ?_)))))));rintro _ w ⟨H1,lo,hi,la,lb,e,az,rfl,hJ,hs⟩;refine .z zm (.z zex (.z zex (.z zex (.o (.alloc hs ud rfl fun jr w hs=>?_)))));refine .o (.alloc hs ud rfl fun EU w hs=>?_);refine .o (.aL (vs:=[_,_,_,_,_,_]) hs rfl rfl dT fun w hs=>?_);refine .o (.aL (vs:=[_,_,_,_,_,_]) hs rfl rfl dT fun w hs=>?_);refine .zn zg (.af (.z (zfa mu) (.y hs (zld aj) (.z (zfa mu) (.y hs (zld aj) (.z (zbd [_,_] lH) (.z zm (.o (.aL (vs:=[_,_]) hs rfl rfl cD fun w hs=>?_)))))))));exact .zn zg (.ret (Fin.ki [] [] hs fun w hs=>⟨_,results2 results23 (dK (vs:=[I lo,I hi]) hs rfl om cD) rfl,H1,lo,hi,e,az,rfl,hJ,hs.sb⟩))
end Go.Proofs.YtfnfiekkdpphjaaGreat
namespace Go.MW
variable{cap k:Nat}{L:List Ev}
section
variable{P:Program}{ro:Option Nat}{Q:Exit→FS→World→Prop}{K:FS→World→Prop}{s:FS}{w:World}{H:bp}{σ τ:List Ent}{n d:Nat}{ds:List Deferred}{e:List (Nat×Value)}{ty t:TypeId}{pos:String}{eZ:Array Edge}{v:Value}{x y:Operand}{b:Nat}
theorem OJ.N1{sT xT elem:TypeId}{m bytes len k2:Nat}{bs:Option Addr}{c vs:List Value}(hs:St H w σ)(ht:F1 P sT xT elem m bytes)
  (hx:FS.ev ⟨n,ds,e⟩ x=some (.slice (some ⟨b,0,none⟩) len cap)) (hy:FS.ev ⟨n,ds,e⟩ y=some (.slice bs k k2)) (hm:Mem σ (.blk b c)) (hv:(bs=none∧vs=[])∨∃o2,bs=some ⟨b,o2,none⟩∧∀i v,vs[i]? =some v→c[o2+i]? =some v) (Zj:vs.length=k*m) (h1:∀v∈vs,v.oneCell'=true)
  (hc:len+k≤cap) (hl:(len+k)*m≤c.length) (hp:Upd σ (.blk b c) (.blk b (so c (len*m) vs)) τ)
  (kk:∀w',St H w' τ→K ⟨n,ds,(d,.slice (some ⟨b,0,none⟩) (len+k) cap)::e⟩ w') (hd:Nat.blt d n=true:=by rfl):
  OJ P ro ⟨some d,.call ⟨.builtin .append,#[x,y],#[sT,xT]⟩,ty,pos,eZ,none⟩ K ⟨n,ds,e⟩ w:=by
 have Vv:(Builtin.firstCells m k (.slice bs k k2)).run P w= .ok vs.toArray w:=by
  rcases hv with ⟨rfl,rfl⟩|⟨o2,rfl,hv⟩
  ·simp [Builtin.firstCells]
  ·simp only [Builtin.firstCells];rw [←Zj];exact fp (vs:=vs) fun j v hj=>by rw [fP hs hm];exact hv j v hj
 obtain ⟨w',h5,h6⟩:=ng (P:=P) vs (len*m) 0 c w _ τ hs h1 (by rw [Zj,Nat.add_zero,←Nat.add_mul];exact hl) (by simpa only [Nat.add_zero] using hp);refine .val (w':=w') (fun _=>by simp) (fun a ha=>?_) hd (kk _ h6);simp only [execOp,resolve,List.map_toArray,List.map_cons,List.map_nil,ha.ev hx,ha.ev hy,Sem.run_bind,Sem.run_pure,Result.andThen,invoke,builtin,Builtin.append_];simp only [List.getElem?_toArray,List.getElem?_cons_zero,List.getElem?_cons_succ,Sem.run_bind,ht.s w,ht.x w,ht.size w,Result.andThen,Sem.run_pure,Builtin.lenOf,Bool.false_eq_true,if_false,Bool.not_false,if_true,hc,Vv];have VP:Sem.run P (storeCells ((⟨b,0,none⟩:Addr).add (len*m)) vs) w= .ok () w':=by
  simp only [jI,Nat.zero_add];exact h5
 simp only [VP]
theorem OJ.UD{o:Nat}{c zl:List Value}{z:Value}{elem:TypeId}(hs:St H w σ)(hx:FS.ev s x=some (.slice (some ⟨b,o,none⟩) 1 cap))(hu:∀w,(underlying t).run P w= .ok (.slice elem) w)(hz:∀w,(zeroValue elem).run P w= .ok z w)(S9:z.cells=zl.toArray)(h1:∀v∈zl,v.oneCell'=true)(hl:o+zl.length≤c.length)
  (k:∀w',St H w' τ→K s w') (hU:Upd σ (.blk b c) (.blk b (so c o zl)) τ):
  OJ P ro ⟨none,.call ⟨.builtin .clear,#[x],#[t]⟩,ty,pos,eZ,none⟩ K s w:=by
 have Ta:(Builtin.zeroCells z.cells 1).toList=zl:=by
  rw [S9];unfold Builtin.zeroCells;apply List.ext_getElem
  ·simp
  ·intro i h1 h2;simp [Nat.mod_eq_of_lt h2,h2]
 obtain ⟨w',g1,g2⟩:=ng (P:=P) zl o 0 c w σ τ hs h1 (by simpa using hl) (by rw [Nat.add_zero];exact hU);refine .valN (v:= .tuple #[]) (w':=w') (fun _=>by simp) (fun a ha=>?_) (k w' g2);simp only [execOp,resolve,List.map_toArray,List.map_cons,List.map_nil,ha.ev hx,Sem.run_bind,Sem.run_pure,Result.andThen,invoke,builtin,Builtin.clear_];simp only [List.getElem?_toArray,List.getElem?_cons_zero,Sem.run_bind,hu w,Result.andThen,Sem.run_pure,hz w,Ta,g1]
theorem Mw{elem:TypeId}{a':Option Addr}{len m lo hi mx:Nat}{k1 k2 k3:IntKind}{l3:Int}(hx:FS.ev s x=some (.slice a' len cap)){yl yh ym:Operand}(hl:FS.ev s yl=some (.int k1 (lo:Int)))(hh:FS.ev s yh=some (.int k2 l3))(hm:FS.ev s ym=some (.int k3 (mx:Int)))
  (hu:∀w,(underlying t).run P w= .ok (.slice elem) w) (hz:∀w,(sizeOf elem).run P w= .ok m w) (h0:l3=(hi:Int)) (h1:lo≤hi) (h2:hi≤mx) (h3:mx≤cap):
  QJ P H σ s (.slice t x (some yl) (some yh) (some ym)) (.slice (if mx=lo then a' else a'.map (·.add (lo*m))) (hi - lo) (mx - lo)):=by
 subst h0;refine ⟨fun _=>by simp,fun a w _ _ _ _ _ ha _=>?_⟩;have g1:0≤(mx:Int)∧(mx:Int)≤(cap:Int):=by omega
 have g2:0≤(hi:Int)∧(hi:Int)≤(mx:Int):=by omega
 have g3:0≤(lo:Int)∧(lo:Int)≤(hi:Int):=by omega
 simp only [execOp,ha.ev hx,Option.map_some,ha.ev hl,ha.ev hh,ha.ev hm,Instr.sliceAt,Instr.slice,Instr.sliceBounds,Instr.sliceBound,asIntOf,Sem.run_bind,hu w,Result.andThen,Sem.run_pure,g1,Int.toNat_natCast,g2,g3,and_self,if_true,hz w]
end
theorem kI(L:List Ev):(evc L).flatten.length=L.length*31:=by rw [a7 _ (ig _),dN]
theorem K0(L M:List Ev):(evc (L++M)).flatten=(evc L).flatten++(evc M).flatten:=by simp [evc]
theorem Uz{i:Nat}(h:i<L.length)(sp:List Value):∃tl,tl.length=31∧so ((evc L).flatten++sp) (i*31) (evc (L.drop (i+1))).flatten=(evc (L.eraseIdx i)).flatten++(tl++sp):=by
 have e1:(evc L).flatten=(evc (L.take i)).flatten++(evc (L.drop i)).flatten:=by rw [←K0,List.take_append_drop]
 have l1:(evc (L.take i)).flatten.length=i*31:=by rw [kI,List.length_take];congr 1;omega
 have l2:(evc (L.drop i)).flatten.length=(L.length - i)*31:=by rw [kI,List.length_drop]
 have l3:(evc (L.drop (i+1))).flatten.length=(L.length - (i+1))*31:=by rw [kI,List.length_drop]
 generalize hV:(evc (L.drop (i+1))).flatten=V at*;generalize hR:(evc (L.drop i)).flatten=R at*;refine ⟨R.drop V.length,by rw [List.length_drop];omega,?_⟩;have key:=sE V (evc (L.take i)).flatten (R.drop V.length++sp) (R.take V.length) (by rw [List.length_take];omega);rw [l1] at key;rw [e1,show (evc (L.take i)).flatten++R++sp=(evc (L.take i)).flatten++R.take V.length++(R.drop V.length++sp) by
  rw [List.append_assoc,List.append_assoc,←List.append_assoc (R.take _),List.take_append_drop],key,List.eraseIdx_eq_take_drop_succ,K0,hV]
theorem Uy(L:List Ev)(tl sp zc:List Value)(h:tl.length=zc.length):so ((evc L).flatten++(tl++sp)) (L.length*31) zc=(evc L).flatten++(zc++sp):=by
 have key:=sE zc (evc L).flatten sp tl h;rw [kI] at key;rw [←List.append_assoc,key,List.append_assoc]
theorem Re{i j:Nat}{v:Value}(sp:List Value)(h:(evc (L.drop i)).flatten[j]? =some v):((evc L).flatten++sp)[i*31+j]? =some v:=by
 by_cases hi:i≤L.length
 ·have e1:(evc L).flatten=(evc (L.take i)).flatten++(evc (L.drop i)).flatten:=by rw [←K0,List.take_append_drop]
  have l1:(evc (L.take i)).flatten.length=i*31:=by rw [kI,List.length_take];congr 1;omega
  rw [e1,List.append_assoc,List.getElem?_append_right (by omega),l1,show i*31+j - i*31=j by omega,List.getElem?_append_left (List.getElem?_eq_some_iff.1 h).1];exact h
 ·rw [List.drop_of_length_le (by omega)] at h;simp [evc] at h
theorem GQ(L:List Ev):∀v∈(evc L).flatten,v.oneCell'=true:=fun v hv=>by
 simp only [List.mem_flatten,evc,List.mem_map] at hv;obtain ⟨c,⟨x,_,rfl⟩,hc⟩:=hv;simp only [Ev.c,List.mem_cons,List.not_mem_nil,or_false] at hc
 rcases hc with rfl|rfl|rfl|rfl|rfl|rfl|rfl|rfl|rfl|rfl|rfl|rfl|rfl|rfl|rfl|rfl|rfl|rfl|rfl|rfl|rfl|rfl|rfl|rfl|rfl|rfl|rfl|rfl|rfl|rfl|rfl<;>rfl
def Ev.at_(x:Ev)(q:Option Addr×Nat×Option Addr×Nat):Ev:={x with ast:=q.1,cst:=q.2.1,awa:=q.2.2.1,cwa:=q.2.2.2}
def Ev.core(x:Ev):Ev:=x.at_ (none,0,none,0)
def LA(x:Ev):List Value:=[I x.sp.id,I x.sp.src,.slice x.ast x.sp.st.length x.cst,.slice x.awa x.sp.wa.length x.cwa,I x.sp.al,I x.sp.up]
theorem Ux(h:k<L.length)(sp:List Value):(((evc L).flatten++sp).drop (k*31+10)).take 6=LA (evG L k):=by
 have h1:=sK (m:=31) (cs:=evc L) (ig L) (rY (dp h)) sp;rw [←List.drop_drop];have h2:=congrArg (fun l=>(List.drop 10 l).take 6) h1;simp only [List.drop_take,List.take_take] at h2;rw [show min 6 (31 - 10)=6 from rfl] at h2;rw [h2];rfl
theorem NN(h:k<L.length)(q)(sp:List Value):so ((evc L).flatten++sp) (k*31+10) (LA ((evG L k).at_ q))=(evc (L.set k ((evG L k).at_ q))).flatten++sp:=by
 have e1:L=L.take k++evG L k::L.drop (k+1):=by
  have hd:L.drop k=evG L k::L.drop (k+1):=by
   rw [List.drop_eq_getElem_cons h];congr 1;have:=dp (l:=L) (i:=k) h;rw [List.getElem?_eq_getElem h] at this;exact Option.some.inj this
  rw [←hd,List.take_append_drop]
 have hl:((evc (L.take k)).flatten).length=k*31:=by rw [kI,List.length_take];congr 1;omega
 generalize hx:evG L k=x at*;have key:=sE (LA (x.at_ q)) ((evc (L.take k)).flatten++x.c.take 10) (x.c.drop 16++(evc (L.drop (k+1))).flatten++sp) (LA x) rfl;rw [List.length_append,hl] at key;have e2:(evc L).flatten++sp=(evc (L.take k)).flatten++x.c.take 10++LA x++(x.c.drop 16++(evc (L.drop (k+1))).flatten++sp):=by
  conv=>lhs;rw [e1]
  simp [evc,Ev.c,LA]
 rw [e2,show k*31+10=k*31+(x.c.take 10).length from rfl,key,List.set_eq_take_append_cons_drop,if_pos h];simp [evc,Ev.c,LA,Ev.at_]
theorem Dr(h:k<L.length)(q):(L.set k ((evG L k).at_ q)).map Ev.core=L.map Ev.core:=by
 apply List.ext_getElem?;intro i;simp only [List.getElem?_map,List.getElem?_set];by_cases e:k=i
 ·subst e;rw [if_pos rfl,if_pos h,dp h];rfl
 ·rw [if_neg e]
theorem oH.at_{x:Ev}{q:Option Addr×Nat×Option Addr×Nat}(h:oH x)(hq:x.kind=8∨x.kind=9→q=(none,0,none,0)):oH (x.at_ q):=by
 refine ⟨h.off,h.seq,h.ship,h.day,h.known,h.oo,h.os,?_⟩
 rcases h.what with g|g|g|g
 ·exact .inl ⟨g.kind,g.num,⟨g.new.ok,g.new.id,g.new.src⟩,g.room,g.opn,g.crew,g.rd,g.cm⟩
 ·exact .inr (.inl ⟨g.kind,g.num,⟨g.new.ok,g.new.id,g.new.src⟩,g.room,g.opn,g.crew,g.rd,g.cm⟩)
 ·obtain rfl:=hq (.inl g.kind);exact .inr (.inr (.inl ⟨g.kind,g.room,g.src,g.day,g.st,g.wa,g.tol,g.val,g.tape,g.num,g.opn,g.crew,g.sp,rfl,rfl,rfl,rfl,g.cm⟩))
 ·obtain rfl:=hq (.inr g.kind);exact .inr (.inr (.inr ⟨g.kind,g.src,g.tape,g.fr,g.to,g.lo,g.hi,g.room,g.num,g.opn,g.crew,g.sp,rfl,rfl,rfl,rfl,g.rd⟩))
theorem oH.nilA{x:Ev}(h:oH x)(hk:x.kind=8∨x.kind=9):x.sp.st=[]∧x.sp.wa=[]∧x.ast=none∧x.cst=0∧x.awa=none∧x.cwa=0:=by
 rcases hk with hk|hk
 ·have g:=h.read hk;exact ⟨by rw [g.sp];rfl,by rw [g.sp];rfl,g.ast,g.cst,g.awa,g.cwa⟩
 ·have g:=h.tape hk;exact ⟨by rw [g.sp];rfl,by rw [g.sp];rfl,g.ast,g.cst,g.awa,g.cwa⟩
theorem oH.spL{x:Ev}(h:oH x):x.sp.st.length≤1000∧x.sp.wa.length≤1000:=by
 rcases h.what with g|g|g|g
 ·have:=g.new.ok.st.many;have:=g.new.ok.wa.many;omega
 ·have:=g.new.ok.st.many;have:=g.new.ok.wa.many;omega
 ·rw [g.sp];simp [sp0]
 ·rw [g.sp];simp [sp0]
theorem AB(l:List Ev):∀{k:Nat},k≤l.length→lh l k=((l.take k).countP fun x=>decide (x.kind=9):Nat)
 |0,_=>by simp [lh]
 |k+1,h=>by
  rw [List.take_add_one,dp (by omega),List.countP_append,Int.natCast_add,←AB l (k:=k) (by omega)];simp only [lh,Option.toList_some,List.countP_singleton];split<;>rename_i e<;>simp [e]
theorem s5{l:List Ev}(h:ub l){i j:Nat}(OW:i<j)(hj:j<l.length):(evG l i).seq<(evG l j).seq:=by
 induction j with
 |zero=>omega
 |succ j ih=>
  rcases Nat.lt_succ_iff_lt_or_eq.1 OW with h1|rfl
  ·have:=ih h1 (by omega);have:=h.inc j hj;omega
  ·exact h.inc i hj
theorem K8{α:Type}{f:Ev→α}(hf:∀x,f x.core=f x){l m:List Ev}(h:l.map Ev.core=m.map Ev.core):l.map f=m.map f:=by
 have e:f=f∘Ev.core:=by funext x;exact (hf x).symm
 rw [e,←List.map_map,←List.map_map,h]
theorem B8{α:Type}(f:Ev→α){l:List Ev}{i:Nat}(h:i<l.length):(l.map f)[i]? =some (f (evG l i)):=by rw [List.getElem?_map,dp h];rfl
theorem AT{l l':List Ev}(h:ub l)(hk:k<l.length)(hc:l'.map Ev.core=(l.eraseIdx k).map Ev.core)(hg:∀x∈l',oH x):ub l':=by
 have hlen:l'.length=l.length - 1:=by have:=congrArg List.length hc;simpa [List.length_eraseIdx,hk] using this
 have WS:=K8 (f:=fun x=>x.seq) (fun _=>rfl) hc;have TI:=K8 (f:=fun x=>x.kind) (fun _=>rfl) hc;refine ⟨hg,fun i hi=>?_,by have:=h.len;omega,?_⟩
 ·have e1:=B8 (·.seq) (l:=l') (i:=i) (by omega);have e2:=B8 (·.seq) (l:=l') (i:=i+1) hi;rw [WS] at e1 e2;rw [List.getElem?_map,List.getElem?_eraseIdx] at e1 e2;have a:∀j,j<l.length→(l[j]?).map (·.seq)=some (evG l j).seq:=fun j hj=>by rw [dp hj];rfl
  have key:∀(p q:Nat),p<q→q<l.length→(l[p]?).map (·.seq)=some (evG l' i).seq→(l[q]?).map (·.seq)=some (evG l' (i+1)).seq→(evG l' i).seq<(evG l' (i+1)).seq:=fun p q hpq hq g1 g2=>by
   rw [a p (by omega)] at g1;rw [a q hq] at g2;rw [←Option.some.inj g1,←Option.some.inj g2];exact s5 h hpq hq
  split at e1<;>split at e2
  ·exact key _ _ (by omega) (by omega) e1 e2
  ·exact key _ _ (by omega) (by omega) e1 e2
  ·exact key _ _ (by omega) (by omega) e1 e2
  ·exact key _ _ (by omega) (by omega) e1 e2
 ·have h1:=h.bN;rw [AB _ (Nat.le_refl _),List.take_length] at h1 ⊢;have e1:(l'.countP fun x=>decide (x.kind=9))=(l'.map (·.kind)).countP (fun z=>decide (z=9)):=by rw [List.countP_map];rfl
  have e2:((l.eraseIdx k).countP fun x=>decide (x.kind=9))=((l.eraseIdx k).map (·.kind)).countP (fun z=>decide (z=9)):=by rw [List.countP_map];rfl
  have e3:=List.Sublist.countP_le (p:=fun x:Ev=>decide (x.kind=9)) (List.eraseIdx_sublist l k);rw [e1,TI,←e2];omega
end Go.MW
namespace Go.Proofs.YtfnfiekkdpphjaaGreat
open Go.MW Tryz
variable{H:bp}{σ:List Ent}{a0 a1 a2 m a most hi lo f e z1 z2 z3 known fl id number day:Int}{ls:List Lim}{g b k b1 bf bt bl cl i bm bc bn:Nat}{cap sp:List Value}{s:Spc}{xs lf ws l X Y pk days:List Int}{en:Ent}{ts:List TD}{vl vt vd vp vw v1 v2 vr vc d vs v5 v4 b' tap dn b2 c2 d2 ve:Value}{t:TD}{rows:List (List Int)}{fG:List F5}{fL:List F4}{th:Bool}
theorem nf{w:World}{v:Value}(hs:St H w σ)(hr:RI H v xs)(hx:xs.length≤17592186044416):aaq 193 [v] w fun u w'=>∃en,(v= .slice none 0 0→u= .slice none 0 0)∧bE 1 u (Is xs) en∧St H w' (en::σ):=by
 obtain ⟨a,c,rfl⟩:=RI.shape hr;refine Cl.o func193 ntmps193 ag1 ?_;refine .af (.zn zg (.seq (.af (.z zm (.q hs (Dh rfl rfl ai) (.nil (.cond rfl (fun FG=>?_) (fun FG=>?_))))))))
 ·refine .af (.zn zg (.ret (rT (Fin.aW results193 rfl ?_))));obtain rfl:a=none:=by simpa using FG
  obtain rfl:=hr.HJ;exact ⟨.nul,fun _=>rfl,.nil 1 none,hs.nul⟩
 ·refine .skip (nT (.af (.o (.buildSlice (cells:=[]) hs pQ rfl rfl fun b5 w hs=>?_))));refine .z zm (.o (.append (xs:=[]) (ys:=Is xs) hs bJ rfl rfl (.full rfl) (.ints hr) (by simp [Value.oneCell']) (fun l h=>by simp at h;omega) ?_));intro v7 en7 w hO hs;exact .zn zg (.ret (Fin.aW results193 rfl ⟨en7,fun h=>(by have:=(Value.slice.inj h).1;subst this;simp at FG),hO,hs⟩))
set_option maxHeartbeats 2000000 in
theorem wJ{w:World}{vst vwa:Value}(hs:St H w σ)(h1:RI H vst s.st)(h2:RI H vwa s.wa)(BP:s.st.length≤1000)(LL:s.wa.length≤1000):
  aaq 161 [.agg #[I s.id,I s.src,vst,vwa,I s.al,I s.up]] w fun u w'=>∃H1 a1 c1 a2 c2,HLe H H1∧u= .agg #[I s.id,I s.src,.slice a1 s.st.length c1,.slice a2 s.wa.length c2,I s.al,I s.up]∧(vst= .slice none 0 0→a1=none∧c1=0)∧(vwa= .slice none 0 0→a2=none∧c2=0)∧RI H1 (.slice a1 s.st.length c1) s.st∧RI H1 (.slice a2 s.wa.length c2) s.wa∧St H1 w' σ:=by
 obtain ⟨ast,cst,rfl⟩:=RI.shape h1;obtain ⟨awa,cwa,rfl⟩:=RI.shape h2;refine Cl.o func161 ntmps161 ag1 ?_;refine .af (.bx hs fun b1 w hs=>?_);refine .o (.alloc hs fR rfl fun b2 w hs=>?_);refine .nil (.seq (.draw mix rfl hs fun w hs=>?_));refine .zw 0 rfl (zfa bh) ?_;refine .y 1 rfl hs aC ?_;refine .z 3 rfl (zfa aV) ?_;refine .y 4 rfl hs aC ?_;refine .E 2 hs ?_;refine .call call193 rfl (nf hs h1 ak) ?_;rintro v5 w ⟨e5,hz5,zF,hs⟩;obtain ⟨H1,az,Nz,hs⟩:=bE.bX zF ak hs .here;obtain ⟨a1,c1,rfl⟩:=RI.shape Nz;refine .go (.zw 6 rfl (zfa bh) (.E 5 hs ?_));refine .call call193 rfl (nf hs (h2.mono az) ak) ?_;rintro v8 w ⟨e8,hz8,Yj,hs⟩;obtain ⟨H2,aN,zE,hs⟩:=bE.bX Yj ak hs .here;obtain ⟨a2,c2,rfl⟩:=RI.shape zE;refine .go (.E 7 hs ?_);refine .store hs rfl rfl aP ?_;intro w hs;refine .go (.zw 8 rfl (zfa aV) (.E 9 hs ?_));refine .store hs rfl rfl aP ?_;intro w hs;refine .go (.D hs (.af (.y hs (zls [_,_,_,_,_,_] bC aM) (.o (.aL (vs:=[_,_,_,_,_,_]) hs rfl rfl aM fun w hs=>?_)))));exact .nil (.ret (Fin.ki [] [] hs fun w hs=>⟨_,results1 results161 (dK (vs:=[_,_,_,_,_,_]) hs rfl bC aM),H2,a1,c1,a2,c2,az.trans aN,rfl,fun h=>(by have:=Value.slice.inj (hz5 h);exact ⟨this.1,this.2.2⟩),fun h=>(by have:=Value.slice.inj (hz8 h);exact ⟨this.1,this.2.2⟩),RI.mono Nz aN,zE,hs.out⟩))
theorem xV{w:World}{v:Value}{l:List Ev}(hs:St H w σ)(hr:REv H v l)(hx:l.length≤1000)(h0:0<l.length):aaq 160 [v] w fun u w'=>∃en,bE 31 u (evc l).flatten en∧St H w' (en::σ):=by
 obtain ⟨a,c,rfl⟩:=hr.shape;have M9:=Src.rs (P:=Tryz.prog) (σ:=σ) hr.rs;rw [List.length_map] at M9;refine Cl.o func160 ntmps160 ag1 ?_;refine .af (.zn zg (.seq (.af (.z zm (.q hs (Dh rfl rfl aD) (.nil (.cond rfl (fun FG=>?_) (fun FG=>?_))))))))
 ·refine .af (.zn zg (.ret (rT (Fin.aW results160 rfl ?_))));obtain rfl:a=none:=by simpa using FG
  obtain ⟨a',c',e,_,_,h3⟩:=hr.rs;obtain ⟨_,b,off,hb,_⟩:=h3 0 (evG l 0).c (rY (dp h0));have:=(Value.slice.inj e).1;rw [hb] at this;cases this
 ·refine .skip (nT (.af (.o (.buildSlice (cells:=[]) hs tG rfl rfl fun b5 w hs=>?_))));refine .z zm (.o (.append (xs:=[]) (ys:=(evc l).flatten) (k:=l.length) hs dz rfl rfl (.full (len:=0) rfl) (by have:=Src.rs (P:=Tryz.prog) (σ:= .blk b5 []::σ) hr.rs;rw [List.length_map] at this;exact this) (GQ l) (fun l h=>by simp at h;omega) ?_));intro v7 en7 w hO hs;exact .zn zg (.ret (Fin.aW results160 rfl ⟨en7,hO,hs⟩))
set_option maxHeartbeats 4000000 in
theorem wL{w:World}{v:Value}{l:List Ev}(hs:St H w σ)(hr:REv H v l)(hg:∀x∈l,oH x)(hl:l.length≤1000)(h0:0<l.length):
  aaq 94 [v] w fun u w'=>∃H1 l' b cap sp,HLe H H1∧u= .slice (some ⟨b,0,none⟩) l.length cap∧l'.map Ev.core=l.map Ev.core∧(∀x∈l',oH x∧EvM H1 x)∧((evc l').flatten++sp).length=cap*31∧St H1 w' (.blk b ((evc l').flatten++sp)::σ):=by
 refine Cl.o func94 ntmps94 ag1 ?_;refine .af (.zn zg (.af (.z zm (.o (.call call160 rfl (xV hs hr hl h0) ?_)))));rintro _ w ⟨en,hO,hs⟩
 rcases hO with ⟨a,rfl,h2,rfl⟩|⟨b,len,cap,sp,rfl,rfl,h2,h3,h4⟩
 ·have:=congrArg List.length h2;rw [kI] at this;simp at this;omega
 rw [kI] at h2;obtain rfl:len=l.length:=by omega
 have z6:l.length*31+sp.length=cap*31:=by rw [←h3,List.length_append,kI]
 refine .zn zg (.seq (.af (.z zm (.z (bT aD) (.zn zm (.for (N:=l.length) (J:=fun k fr w=>∃H1 l',fr=[(6,.slice (some ⟨b,0,none⟩) l.length cap),(0,.slice (some ⟨b,0,none⟩) l.length cap)]∧HLe H H1∧l'.length=l.length∧l'.map Ev.core=l.map Ev.core∧(∀x∈l',oH x∧EvM H1 x)∧St H1 w (.blk b ((evc l').flatten++sp)::σ)) ak ?_ ?_ ?_))))))
 ·exact .mk ⟨H,l,rfl,HLe.refl _,rfl,rfl,fun x hx=>⟨hg x hx,hr.all x hx⟩,hs⟩
 ·rintro k fr w hk ⟨H1,l',rfl,az,vS,hc,hx,hs⟩;have z7:k<l'.length:=by omega
  obtain ⟨TO,LK⟩:=hx _ (mM z7);obtain ⟨Kc,CD⟩:=TO.spL;refine .block (.af (.z zm (.zn zg (.region (.z zm (.z zm (.z zm (.z zm (.z (wo (j:=k) aD aH) (.z (zfa cn) (.q hs (gY (vs:=LA (evG l' k)) rfl bC aM (hm:= .here) (hv:=Ux z7 sp)) (.o (.call call161 rfl (wJ (s:=(evG l' k).sp) hs LK.st LK.wa Kc CD) ?_)))))))))))));rintro _ w ⟨H2,a1,c1,a2,c2,aN,rfl,hz1,hz2,Nz,zE,hs⟩;refine .z (wo (j:=k) aD aH) (.z (zfa cn) (.o (.aL (vs:=LA ((evG l' k).at_ (a1,c1,a2,c2))) hs rfl rfl aM ?_ .here (Nat.ble_eq_true_of_le (by rw [List.length_append,kI];simp [LA];omega)) (NN z7 (a1,c1,a2,c2) sp))));intro w hs;refine .nil (nB (nT ?_));exact .mk ⟨H2,_,rfl,az.trans aN,by rw [List.length_set];exact vS,by rw [Dr z7,hc],fun x Wy=>by
   rcases List.mem_or_eq_of_mem_set Wy with h|rfl
   ·exact ⟨(hx x h).1,(hx x h).2.mono aN⟩
   ·refine ⟨TO.at_ fun hk8=>?_,Nz,zE⟩;obtain ⟨e1,e2,e3,e4,e5,e6⟩:=TO.nilA hk8;have f1:=hz1 (by rw [e1,e3,e4];rfl);have f2:=hz2 (by rw [e2,e5,e6];rfl);rw [f1.1,f1.2,f2.1,f2.2],hs⟩
 ·rintro fr w ⟨H1,l',rfl,az,vS,hc,hx,hs⟩;exact nT (.af (.z zm (.zn zg (.ret (Fin.aW results94 rfl ⟨H1,l',b,cap,sp,az,rfl,hc,hx,by rw [List.length_append,kI,vS];exact z6,hs⟩)))))
theorem oy{w:World}{x:Ev}{c d:Int}(hs:St H w σ):aaq 159 [.agg x.c.toArray,.agg #[I c,I d]] w fun v w'=>∃H1,HLe H H1∧v=I (orL [oW x.off c,oW x.seq d])∧St H1 w' σ:=by
 refine Cl.o func159 ntmps159 ag2 ?_;refine .af (.bx hs fun b2 w hs=>?_);refine .bx hs fun b3 w hs=>?_
 refine .zn zg (.af (.z (zfa bM) (.y hs (zls [_,_] cj bk) (.y hs (zls [_,_] cj bk) (.o (.call call47 rfl (j7 (a:=x.off) (b:=x.seq) (c:=c) (d:=d) hs) ?_))))));rintro _ w ⟨rfl,H1,az,hs⟩;exact .zn zg (.ret (Fin.aW results159 rfl ⟨H1,az,rfl,hs.out⟩))
theorem y5{o s t:Int}:orL [oW o o,oW s t]<0↔s<t:=by
 by_cases h:s<t
 ·rw [A1 h];exact ⟨fun _=>h,fun _=>by decide⟩
 ·refine ⟨fun g=>?_,fun g=>(h g).elim⟩;have h1:oW o o=0:=by unfold oW;rw [if_neg ak,if_neg ak]
  have h2:oW s t=0∨oW s t=1:=by unfold oW;rw [if_neg h];split<;>simp
  rw [h1] at g
  rcases h2 with h2|h2<;>rw [h2] at g<;>exact absurd g cR
theorem Ip(o s:Int):orL [oW o o,oW s s]=0:=by rw [tv,tv];rfl
set_option maxHeartbeats 4000000 in
theorem Jp{w:World}{v:Value}{l:List Ev}(hs:St H w σ)(hr:REv H v l)(hl:ub l)(hk:k<l.length):
  aaq 158 [v,.agg #[I (evG l k).off,I (evG l k).seq],.func (.func 159) #[] #[]] w fun u w'=>∃H1,HLe H H1∧u= .tuple #[I (k:Int),.bool true]∧St H1 w' σ:=by
 obtain ⟨a,c,rfl⟩:=hr.shape;have hlen:=hl.len;have yI:∀i,i<l.length→(evG l i).off=0:=fun i hi=>(hl.good _ (mM hi)).off
 refine Cl.o func158 ntmps158 ag3 ?_;refine .af (.bx hs fun b4 w hs=>?_);refine .z zg (.zn zg (.af (.z zm (.z (bT aD) (.zn zg (.af (.z zm (.z zg (.zn zg (.seq (.block ?_)))))))))));refine .loop (fun p:Nat×Nat=>⟨49,[],[(10,I (p.2:Int)),(9,I (p.1:Int)),(8,I (l.length:Int)),(4,Pt b4),(2,.func (.func 159) #[] #[]),(0,.slice a l.length c)]⟩)
  (fun p w=>(p.1≤k∧k≤p.2∧p.2≤l.length)∧∃H1,HLe H H1∧St H1 w (.blk b4 [I (evG l k).off,I (evG l k).seq]::σ)) (fun p=>p.2 - p.1) (0,l.length) bg ⟨⟨ak,ak,ak⟩,H,HLe.refl _,hs⟩ ?_
 clear hs;rintro ⟨i,j⟩ w ⟨⟨hi,hj,Kl⟩,H1,az,hs⟩;dsimp only at hi hj Kl;refine .seq (.af (.z zm (.z zm (.zn fT (.bQ rfl (fun kS=>?_) (fun kS=>?_))))))
 ·refine .skip (nT (.block (.af (.z zm (.z zm (.z cC (.q hs (yk rfl aJ dy ⟨ak,ak⟩) (.q hs (Ot rfl rfl) ?_))))))));obtain ⟨h,hh⟩:∃h:Nat,((i:Int)+(j:Int))/2=(h:Int):=⟨(i+j)/2,ak⟩;rw [hh];have Xm:h<l.length:=by omega
  have hx:=dp (l:=l) (i:=h) Xm;refine .q hs (yn rfl dy aJ ⟨ak,ak⟩) (.zn zg (.seq (.draw mix rfl hs fun w hs=>?_)));refine .zw 0 rfl zm ?_;refine .z 1 rfl zm ?_;refine .z 2 rfl zm ?_;refine .ixX (enc:=Ev.c) (i:=3) hs rfl aF .none (hr.rs.mono az) rfl rfl aD aH hx rfl ?_;intro Aq o27 rV;refine .r (i:=4) hs rfl aF .none (bj (vs:=(evG l h).c) rfl bV aH rV) ?_;refine .zv 5 rfl hs (sW [_,_] cj bk) (.E 6 hs ?_);refine .jN (first:=[]) (cap:=[]) rfl rfl call159 (oy (x:=evG l h) hs) ?_;rintro _ w ⟨H2,aN,rfl,hs⟩;rw [yI h Xm,yI k hk];rw [yI k hk] at hs;refine .go (.zw 7 rfl fT ?_);refine .D hs ?_;refine (.bQ rfl (fun s8=>?_) (fun s8=>?_))
  ·refine .region (.z zm (.z cC (.zn zg (nB (nT ?_)))));have fU:=y5.1 s8;have ZB:h<k:=by
    rcases Nat.lt_trichotomy h k with g|rfl|g
    ·exact g
    ·omega
    ·have:=s5 hl g Xm;omega
   exact ⟨(h+1,j),.cons rfl (.dw rfl aU bg),⟨⟨by dsimp only;omega,by dsimp only;omega,Kl⟩,H2,az.trans aN,hs⟩,by dsimp only;omega⟩
  ·refine .region (.z zm (.zn zg (nB (nT ?_))));have ZB:k≤h:=by
    rcases Nat.lt_or_ge h k with g|g
    ·exact (s8 (y5.2 (s5 hl g hk))).elim
    ·exact g
   exact ⟨(i,h),bg,⟨⟨hi,ZB,by dsimp only;omega⟩,H2,az.trans aN,hs⟩,by dsimp only;omega⟩
 ·refine .exit (xT (xT (xB (nT (.seq (.draw mix rfl hs fun w hs=>?_))))));refine .zw 0 rfl zm ?_;refine .z 1 rfl zm ?_;refine .z 2 rfl zm ?_;obtain rfl:i=k:=by omega
  refine .zw 3 rfl fT ?_;rw [decide_eq_true ak];have hx:=dp (l:=l) (i:=i) hk;refine .zw 4 rfl zm ?_;refine .z 5 rfl zm ?_;refine .z 6 rfl zm ?_;refine .z 7 rfl zm ?_;refine .ixX (enc:=Ev.c) (i:=8) hs rfl aF (.some rfl rfl) (hr.rs.mono az) rfl rfl aD aH hx rfl ?_;intro UN o43 BR;refine .r (i:=9) hs rfl aF (.some rfl rfl) (bj (vs:=(evG l i).c) rfl bV aH BR) ?_;refine .zv 10 rfl hs (sW [_,_] cj bk) (.E 11 hs ?_);refine .jN (first:=[]) (cap:=[]) rfl rfl call159 (oy (x:=evG l i) hs) ?_;rintro _ w ⟨H2,aN,rfl,hs⟩;rw [Ip];refine .go (.zw 12 rfl fW ?_);rw [decide_eq_true rfl];refine .zw 13 rfl zpT ?_;refine .z 14 rfl zg ?_;refine .z 15 rfl zg ?_;refine .D hs ?_;exact .ret (Fin.mh results158 rfl rfl ⟨H2,az.trans aN,rfl,hs.out⟩)
theorem zU{w:World}{v:Value}{l:List Ev}(hs:St H w σ)(hr:REv H v l)(hl:ub l)(hk:k<l.length):
  aaq 92 [v,.agg #[I (evG l k).off,I (evG l k).seq]] w fun u w'=>∃H1,HLe H H1∧u= .tuple #[I (k:Int),.bool true]∧St H1 w' σ:=by
 obtain ⟨a,c,rfl⟩:=hr.shape;refine Cl.o func92 ntmps92 ag2 ?_;refine .af (.bx hs fun b3 w hs=>?_);refine .z zg (.zn zg (.af (.z zm (.y hs (zls [_,_] cj bk) (.o (.call call158 rfl (Jp hs hr hl hk) ?_))))));rintro _ w ⟨H1,az,rfl,hs⟩;exact .z zex (.z zex (.z zg (.zn zg (.ret (Fin.mh results92 rfl rfl ⟨H1,az,rfl,hs.out⟩)))))
set_option maxHeartbeats 4000000 in
theorem wA{w:World}{cap:Nat}{L:List Ev}(hs:St H w (.blk b ((evc L).flatten++sp)::σ))(mI:((evc L).flatten++sp).length=cap*31)(hi:i<L.length)(hn:L.length≤1000):
  aaq 93 [.slice (some ⟨b,0,none⟩) L.length cap,I (i:Int),I ((i:Int)+1)] w fun u w'=>∃PZ,u= .slice (some ⟨b,0,none⟩) (L.eraseIdx i).length cap∧((evc (L.eraseIdx i)).flatten++PZ).length=cap*31∧St H w' (.blk b ((evc (L.eraseIdx i)).flatten++PZ)::σ):=by
 have hle:(L.eraseIdx i).length=L.length - 1:=by rw [List.length_eraseIdx,if_pos hi]
 have BP:=mI;rw [List.length_append,kI] at BP;refine Cl.o func93 ntmps93 ag3 ?_;refine .af (.zn zg (.af (.z zm (.z zm (.z zm (.z zm (.z (bT aD) (.q hs (Mw (lo:=i) (hi:=i+1) (mx:=L.length) rfl rfl rfl rfl aD aH ak ak ak ak) (.nil (.seq (.af (.z zm (.z zm (.z fW ?_))))))))))))));rw [decide_eq_false ak];refine .nil (.cF (.skip (nT (.af (.z zm (.z (bT aD) (.zn zg (.seq (.draw mix rfl hs fun w hs=>?_)))))))));refine .zw 0 rfl zm ?_;refine .z 1 rfl zm ?_;refine .zw 2 rfl (pq (k:=i) rfl rfl aD aH rfl ak) (.zw 3 rfl zm ?_);refine .z 4 rfl zm ?_;refine .zw 5 rfl (De (k:=i+1) rfl rfl aD aH ak ak) ?_;obtain ⟨tl,xC,Kb⟩:=Uz hi sp;refine .E 6 hs ?_;refine .N1 (vs:=(evc (L.drop (i+1))).flatten) hs dz rfl rfl .here (.inr (by
  by_cases h:cap=i+1
  ·refine ⟨0,if_pos h,fun j v hv=>?_⟩;rw [List.drop_of_length_le ak] at hv;simp [evc] at hv
  ·refine ⟨(i+1)*31,by rw [if_neg h];simp [jI],fun j v hv=>Re sp hv⟩)) (by rw [kI,List.length_drop]) (GQ _) ak (by rw [mI];omega) (by rw [Kb];exact .here) ?_;intro w hs
 rw [show i+(L.length - (i+1))=L.length - 1 by omega];refine .go (.zw 7 rfl zg ?_);refine .D hs ?_;refine .af (.z zm (.z zm (.z (bT aD) (.z zm (.q hs (Mv (j:=L.length - 1) (k:=L.length) rfl rfl rfl aD aH rfl rfl ak ak) ?_)))));rw [if_neg ak,Option.map_some,jI,Nat.zero_add,show L.length - (L.length - 1)=1 by omega];refine .o (.UD (c:=(evc (L.eraseIdx i)).flatten++(tl++sp)) (zl:=ev0.c) hs rfl aD cz rfl cR (by rw [List.length_append,kI,List.length_append,hle,xC];simp [Ev.c]) ?_ (by rw [←hle,Uy _ tl sp ev0.c xC];exact .here));intro w hs;exact .nil (.af (.z zm (.zn zg (.ret (Fin.aW results93 rfl ⟨ev0.c++sp,by rw [hle],by rw [List.length_append,kI,List.length_append,hle];simp [Ev.c];omega,hs⟩)))))
theorem uH{w:World}{v:Value}{l:List Ev}(hs:St H w σ)(hr:REv H v l)(hl:ub l)(hk:k<l.length):
  aaq 49 [v,.agg #[I (evG l k).off,I (evG l k).seq]] w fun u w'=>∃H1 l' u',HLe H H1∧u= .tuple #[u',.bool true]∧REv H1 u' l'∧ub l'∧l'.map Ev.core=(l.eraseIdx k).map Ev.core∧St H1 w' σ:=by
 obtain ⟨a,c,rfl⟩:=hr.shape;have hlen:=hl.len;refine Cl.o func49 ntmps49 ag2 ?_;refine .af (.bx hs fun b3 w hs=>?_);refine .z zg (.zn zg (.af (.z zm (.y hs (zls [_,_] cj bk) (.o (.call call92 rfl (zU hs hr hl hk) ?_))))));rintro _ w ⟨H1,az,rfl,hs⟩;refine .z zm (.z zex (.z zex (.z zg (.zn zg (.seq (.af (.z zm (.zn fF (.cF (.skip (nT (.af (.z zm (.o (.call call94 rfl (wL hs (hr.mono az) hl.good ak ak) ?_)))))))))))))));rintro _ w ⟨H2,l',b,cap,sp,aN,rfl,hc,hx,mI,hs⟩;have vS:l'.length=l.length:=by have:=congrArg List.length hc;simpa using this
 rw [←vS];refine .z zm (.z zm (.z cC (.o (.call call93 rfl (wA (i:=k) hs mI ak ak) ?_))));rintro _ w ⟨PZ,rfl,O0,hs⟩;have ZG:(l'.eraseIdx k).map Ev.core=(l.eraseIdx k).map Ev.core:=by simp only [List.eraseIdx_eq_take_drop_succ,List.map_append,List.map_take,List.map_drop,hc]
 have BN:∀x∈l'.eraseIdx k,x∈l':=fun x h=>(List.eraseIdx_sublist l' k).subset h
 have OT:(l'.eraseIdx k).length≤cap:=by rw [List.length_append,kI] at O0;omega
 obtain ⟨H3,bA,hR,hs⟩:=bE.bG (m:=31) (v:= .slice (some ⟨b,0,none⟩) (l'.eraseIdx k).length cap) (cs:=evc (l'.eraseIdx k)) (.inr ⟨b,_,cap,PZ,rfl,rfl,by rw [kI],O0,OT⟩) (ig _) ak (by rw [dN];have:=List.length_eraseIdx_le l' k;omega) hs .here;exact .z zg (.zn zg (.ret (Fin.mh results49 rfl rfl ⟨H3,l'.eraseIdx k,_,az.trans (aN.trans bA),rfl,⟨hR,fun x h=>(hx x (BN x h)).2.mono bA⟩,AT hl hk ZG (fun x h=>(hx x (BN x h)).1),ZG,hs.out⟩)))
theorem nu{w:World}{v:Value}{l:List Ev}(hs:St H w σ)(hr:REv H v l)(hl:ub l)(hk:k<l.length):
  aaq 14 [v,.agg #[I (evG l k).off,I (evG l k).seq]] w fun u w'=>∃H1 l' u',HLe H H1∧u= .tuple #[u',I 0]∧REv H1 u' l'∧ub l'∧l'.map Ev.core=(l.eraseIdx k).map Ev.core∧St H1 w' σ:=by
 obtain ⟨a,c,rfl⟩:=hr.shape;refine Cl.o func14 ntmps14 ag2 ?_;refine .af (.bx hs fun b3 w hs=>?_);refine .z zg (.zn zg (.seq (.af (.z zm (.o (.call call48 rfl (lV hs hr hl) ?_))))));rintro _ w ⟨rfl,H1,az,hs⟩;refine .zn zg (.af (.z zm (.z gv ?_)));rw [decide_eq_true rfl];refine .nil (.cF (.skip (nT (.af (.z zm (.y hs (zls [_,_] cj bk) (.o (.call call49 rfl (uH hs (hr.mono az) hl hk) ?_))))))));rintro _ w ⟨H2,l',u',aN,rfl,hR,hH,hc,hs⟩;exact .z zm (.z zex (.z zex (.z zg (.zn zg (.seq (.af (.z zm (.zn fF (.cF (.skip (nT (.af (.z zm (.z zg (.zn zg (.ret (Fin.mh results14 rfl rfl ⟨H2,l',u',az.trans aN,rfl,hR,hH,hc,hs.out⟩)))))))))))))))))
structure Psg where
 id:Int
 ship:Int
 day:Int
 known:Int
 rate:Int
def Psg.c(p:Psg):List Value:=[I p.id,I p.ship,I p.day,I p.known,I p.rate]
def UT(p:Psg):Prop:=(1≤p.id∧p.id≤99999)∧(1≤p.ship∧p.ship≤999)∧(0≤p.day∧p.day≤100000)∧(0≤p.known∧p.known≤100000)∧0≤p.rate∧p.rate≤10000
def Ov(l:List Psg)(i:Nat):Psg:=l.getD i ⟨0,0,0,0,0⟩
theorem Gp{l:List Psg}(h:i<l.length):l[i]? =some (Ov l i):=by simp [Ov,List.getD,List.getElem?_eq_getElem h]
structure zr(l:List Psg):Prop where
 few:l.length≤12
 ok:∀p∈l,UT p
 inc:∀i,i+1<l.length→(Ov l i).id<(Ov l (i+1)).id
structure EA(H:bp)(ve vl vp:Value)(E:List Ev)(c:Cod)(ps:List Psg):Prop where
 ev:REv H ve E
 law:RS H 3 vl [[I 1,.string c.name,c.sl]]
 cod:Hd H c
 psg:RS H 5 vp (ps.map Psg.c)
theorem EA.mono{H':bp}{E:List Ev}{c:Cod}{ps:List Psg}(h:EA H ve vl vp E c ps)(hl:HLe H H'):EA H' ve vl vp E c ps:=⟨h.ev.mono hl,RS.mono h.law hl,h.cod.mono hl,RS.mono h.psg hl⟩
theorem kJ{w:World}(hs:St H w σ):aaq 50 [I a0,I a1,I a2] w fun v w'=>v= .bool (decide (a1≤a0∧a0≤a2))∧St H w' σ:=by
 refine Cl.o func50 ntmps50 ag3 ?_;refine .af (.zn zg (.af (.z zm (.z zm (.z zC (.z zm (.jK (t':=10) rfl (fun nL=>?_) (fun nL=>?_))))))))
 ·exact .T (.z zm (.T (.z zm (.T (.z ql (.z zpT (.zn zg (.ret (Fin.aW results50 rfl ⟨by simp [*],hs.out⟩)))))))))
 ·exact .Fs 3 3 true (.z zpF (.zn zg (.ret (Fin.aW results50 rfl ⟨by simp [*],hs.out⟩))))
theorem lX{w:World}{n:Int}(hs:St H w σ):aaq 83 [I n] w fun v w'=>v= .bool (decide (0≤n∧n≤100000))∧St H w' σ:=by
 refine Cl.o func83 ntmps83 ag1 ?_;refine .af (.zn zg (.af (.z zm (.o (.call call50 rfl (kJ hs) ?_)))));rintro _ w ⟨rfl,hs⟩;exact .zn zg (.ret (Fin.aW results83 rfl ⟨rfl,hs⟩))
theorem oC{w:World}{n:Int}(hs:St H w σ):aaq 80 [I n] w fun v w'=>v= .bool (decide (1≤n∧n≤999))∧St H w' σ:=by
 refine Cl.o func80 ntmps80 ag1 ?_;refine .af (.zn zg (.af (.z zm (.o (.call call50 rfl (kJ hs) ?_)))));rintro _ w ⟨rfl,hs⟩;exact .zn zg (.ret (Fin.aW results80 rfl ⟨rfl,hs⟩))
theorem oS{w:World}{p:Psg}(hs:St H w σ)(hp:UT p):aaq 51 [.agg p.c.toArray] w fun v w'=>v=I 0∧St H w' σ:=by
 obtain ⟨h1,h2,h3,h4,h5⟩:=hp;refine Cl.o func51 ntmps51 ag1 ?_;refine .af (.bx hs fun b1 w hs=>?_);refine .zn zg (.seq (.af (.z (zfa kX) (.y hs (zld aj) (.o (.call call50 rfl (kJ hs) ?_))))));rintro _ w ⟨rfl,hs⟩;rw [decide_eq_true h1];refine .z fF (.z zm (.T (.z (zfa wU) (.T (.y hs (zld aj) (.T (.o (.call call80 rfl (oC hs) ?_))))))));rintro _ w ⟨rfl,hs⟩;rw [decide_eq_true h2];refine .T (.z fF (.z zpF (.z zm (.T (.z (zfa wT) (.T (.y hs (zld aj) (.T (.o (.call call83 rfl (lX hs) ?_))))))))));rintro _ w ⟨rfl,hs⟩;rw [decide_eq_true h3];refine .T (.z fF (.z zpF (.z zm (.T (.z (zfa wS) (.T (.y hs (zld aj) (.T (.o (.call call83 rfl (lX hs) ?_))))))))));rintro _ w ⟨rfl,hs⟩;rw [decide_eq_true h4];refine .T (.z fF (.z zpF (.z zm (.T (.z (zfa wR) (.T (.y hs (zld aj) (.T (.o (.call call50 rfl (kJ hs) ?_))))))))));rintro _ w ⟨rfl,hs⟩;rw [decide_eq_true h5];exact .T (.z fF (.zn zpF (.cF (.skip (nT (.af (.zn zg (.ret (Fin.aW results51 rfl ⟨rfl,hs.out⟩)))))))))
set_option maxHeartbeats 4000000 in
theorem y0{w:World}{E:List Ev}{c:Cod}{ps:List Psg}(hs:St H w σ)(hF:EA H ve vl vp E c ps)(hE:ub E)(hp:zr ps):
  aaq 15 [.agg #[ve,vl,vp]] w fun v w'=>∃H1 e,HLe H H1∧v=I e∧((mc c∧e=0)∨(¬mc c∧e=81))∧St H1 w' σ:=by
 obtain ⟨ae,ce,rfl⟩:=hF.ev.shape;obtain ⟨al,cl,rfl⟩:=hF.law.shape;obtain ⟨ap,cp,rfl⟩:=hF.psg.shape;have OL:=hF.psg;rw [List.length_map] at OL ⊢;have hp12:=hp.few;refine Cl.o func15 ntmps15 ag1 ?_;refine .af (.bx hs fun b1 w hs=>?_);refine .zn zg (.seq (.af (.z (zfa gI) (.y hs (zld Y8) (.o (.call call48 rfl (lV hs hF.ev hE) ?_))))));rintro _ w ⟨rfl,H1,az,hs⟩;have Tq:=RS.mono OL az;refine .z gv ?_;rw [decide_eq_true rfl];refine .z zm (.T (.z (zfa ku) (.T (.y hs (zld isAgg47) (.T (.z (bT mT) (.T (.z nE ?_))))))));rw [decide_eq_false aU];refine .z zpF (.z zm (.T (.z (zfa iN) (.T (.y hs (zld isAgg48) (.T (.z (bT mS) (.T (.z nE ?_)))))))));rw [decide_eq_false ak];refine .zn zpF (.cF (.skip (nT (.seq (.af (.z (zfa ku) (.y hs (zld isAgg47) (.z (bT mT) (.zn zm (.for (N:=1) (J:=fun k fr w=>fr=[(24,.slice al 1 cl),(1,Pt b1)]∧(k=1→mc c)∧St H1 w (.blk b1 [.slice ae E.length ce,.slice al 1 cl,.slice ap ps.length cp]::σ)) ak ?_ ?_ ?_))))))))))
 ·exact .mk ⟨rfl,fun h=>by omega,hs⟩
 ·rintro k fr w hk ⟨rfl,-,hs⟩;obtain rfl:k=0:=by omega
  refine .block (.af (.z zm (.ixX (enc:=id) (xs:=[[I 1,.string c.name,c.sl]]) (k:=0) (x':=[I 1,.string c.name,c.sl]) hs (RS.mono hF.law az) rfl rfl mT IM rfl rfl ?_)));intro UQ o29 Aa;refine .q hs (bj (vs:=[I 1,.string c.name,c.sl]) rfl isAgg126 IM Aa) (.o (.alloc hs zeroValue126 rfl fun b4 w hs=>?_));refine .z zg (.o (.aL (vs:=[_,_,_]) hs rfl rfl IM fun w hs=>?_));refine .nil (.seq (.draw mix rfl hs fun w hs=>?_));refine .zw 0 rfl (zfa wc) ?_;refine .y 1 rfl hs aj ?_;refine .E 2 hs ?_;refine .call call50 rfl (kJ hs) ?_;rintro _ w ⟨rfl,hs⟩;rw [decide_eq_true cR];refine .go (.zw 3 rfl fF ?_);refine .z 4 rfl zm ?_;refine .z 5 rfl zm ?_;refine .z 6 rfl nE ?_;rw [decide_eq_false ak];refine .zw 7 rfl zm (.F 8 rfl (.F 9 rfl (.F 10 rfl (.F 11 rfl (.F 12 rfl (.F 13 rfl (.F 14 rfl (.F 15 rfl (.F 16 rfl (.F 17 rfl (.zw 18 rfl zpF ?_)))))))))));refine .z 19 rfl zpF ?_;refine .z 20 rfl zm ?_;refine .z 21 rfl (zfa wb) ?_;refine .ys 22 rfl hs [_,_] N9 oX ?_;refine .E 23 hs ?_;refine .call call16 rfl (pP (x:=c) hs (hF.cod.mono az)) ?_;rintro _ w ⟨e,rfl,he,hs⟩;refine .go (.zw 24 rfl gv ?_);refine .z 25 rfl zpF ?_;refine .D hs ?_;refine (.gN rfl (fun QR=>?_) (fun QR=>?_))
  ·refine .af (.zn zg (.ret (rB (rT (rB (rT (Fin.aW results15 rfl ?_)))))));exact ⟨H1,_,az,rfl,.inr ⟨fun h=>(by
    rcases he with ⟨_,rfl⟩|⟨h2,_⟩
    ·exact QR rfl
    ·exact h2 h),rfl⟩,hs.out⟩
  ·refine .skip (nB (nT ?_));exact .mk ⟨rfl,fun _=>(by
    rcases he with ⟨h2,_⟩|⟨_,rfl⟩
    ·exact h2
    ·exact absurd QR cR),hs.sb⟩
 ·rintro fr w ⟨rfl,bw,hs⟩;replace bw:=bw rfl;refine nT (.seq (.af (.z (zfa iN) (.y hs (zld isAgg48) (.z (bT mS) (.zn zm (.for (N:=ps.length) (J:=fun k fr w=>fr=[(59,.slice ap ps.length cp),(1,Pt b1)]∧St H1 w (.blk b1 [.slice ae E.length ce,.slice al 1 cl,.slice ap ps.length cp]::σ)) ak ?_ ?_ ?_)))))))
  ·exact .mk ⟨rfl,hs⟩
  ·rintro k fr w hk ⟨rfl,hs⟩;have hx:=Gp (l:=ps) (i:=k) hk;refine .block (.af (.z zm (.ixX (enc:=Psg.c) hs Tq rfl rfl mS PE hx rfl ?_)));intro b64 o64 FE;refine .q hs (bj (vs:=(Ov ps k).c) rfl isAgg88 PE FE) (.o (.alloc hs zeroValue88 rfl fun b6 w hs=>?_));refine .z zg (.o (.aL (vs:=[_,_,_,_,_]) hs rfl rfl PE fun w hs=>?_));refine .nil (.seq (.draw mix rfl hs fun w hs=>?_));refine .zv 0 rfl hs (sW [_,_,_,_,_] isAgg88 PE) (.E 1 hs ?_);refine .call call51 rfl (oS (p:=Ov ps k) hs (hp.ok _ (List.mem_of_getElem? hx))) ?_;rintro _ w ⟨rfl,hs⟩;refine .go (.zw 2 rfl gv ?_);rw [decide_eq_true rfl];refine .zw 3 rfl zm ?_;refine .z 4 rfl zm ?_;refine .z 5 rfl nE ?_;refine .z 6 rfl zm ?_;refine .jK (t':=72) rfl (fun XQ=>?_) (fun XQ=>?_)
   ·refine .zw 7 rfl (zfa iN) ?_;refine .y 8 rfl hs isAgg48 ?_;refine .z 9 rfl zm ?_;have EO:0<k:=by omega
    have BM:=Gp (l:=ps) (i:=k - 1) ak;have fH:=hp.inc (k - 1) ak;rw [show k - 1+1=k by omega] at fH;refine .zw 10 rfl jj ?_;rw [show ((k:Int) - 1)=((k - 1:Nat):Int) by omega];refine .ixX (enc:=Psg.c) (i:=11) hs rfl aF (.some rfl rfl) Tq rfl rfl mS PE BM rfl ?_;intro b77 o77 XG;refine .zw 12 rfl (zfa kX) (.r (i:=13) hs rfl aF (.some rfl rfl) (aR rfl aj (XG.get 0 rfl)) ?_);refine .zw 14 rfl (zfa kX) ?_;refine .y 15 rfl hs aj ?_;refine .z 16 rfl zC ?_;rw [decide_eq_false ak];refine .zw 17 rfl zpT ?_;refine .z 18 rfl zpF ?_;refine .D hs ?_;exact (.cF (.skip (nB (nT (.mk ⟨rfl,hs.sb⟩)))))
   ·refine .F 7 rfl (.F 8 rfl (.F 9 rfl (.F 10 rfl (.F 11 rfl (.F 12 rfl (.F 13 rfl (.F 14 rfl (.F 15 rfl (.F 16 rfl (.zw 17 rfl zpF ?_))))))))));refine .z 18 rfl zpF ?_;refine .D hs ?_;exact (.cF (.skip (nB (nT (.mk ⟨rfl,hs.sb⟩)))))
  ·rintro fr w ⟨rfl,hs⟩;exact nT (.af (.zn zg (.ret (Fin.aW results15 rfl ⟨H1,_,az,rfl,.inl ⟨bw,rfl⟩,hs.out⟩))))
theorem uZ{w:World}{n:Int}(hs:St H w σ):aaq 82 [I n] w fun v w'=>∃b:Bool,v= .bool b∧(b=true↔¬(0≤n∧n≤100000))∧St H w' σ:=by
 refine Cl.o func82 ntmps82 ag1 ?_;refine .af (.zn zg (.af (.z zm (.o (.call call83 rfl (lX hs) ?_)))));rintro _ w ⟨rfl,hs⟩;exact .z fF (.zn zg (.ret (Fin.aW results82 rfl ⟨_,rfl,by simp;omega,hs⟩)))
theorem yZ{w:World}{E:List Ev}{c:Cod}{ps:List Psg}{n:Int}{ds:List Int}(hs:St H w σ)(hF:EA H ve vl vp E c ps)(hE:ub E)(hp:zr ps)(hn:1≤n∧n≤999)(hd:RI H vd ds)(Xv:∀d∈ds,0≤d∧d≤100000):
  aaq 40 [.agg #[ve,vl,vp],I n,vd] w fun v w'=>∃H1 e,HLe H H1∧v=I e∧((mc c∧e=0)∨(¬mc c∧e=81))∧St H1 w' σ:=by
 obtain ⟨ae,ce,rfl⟩:=hF.ev.shape;obtain ⟨al,cl,rfl⟩:=hF.law.shape;obtain ⟨ap,cp,rfl⟩:=hF.psg.shape;refine Cl.o func40 ntmps40 ag3 ?_;refine .af (.bx hs fun b3 w hs=>?_);refine .zn zg (.seq (.af (.y hs (zls [_,_,_] jT dQ) (.o (.call call15 rfl (y0 hs hF hE hp) ?_)))));rintro _ w ⟨H1,e,az,rfl,he,hs⟩;refine .zn zg (.af (.z zm (.zn gv (.gN rfl (fun wP=>?_) (fun wP=>?_)))))
 ·exact .af (.z zm (.zn zg (.ret (rT (Fin.aW results40 rfl ⟨H1,e,az,rfl,he,hs.out⟩)))))
 ·refine .skip (nT (.seq (.af (.z zm (.o (.call call80 rfl (oC hs) ?_))))));rintro _ w ⟨rfl,hs⟩;rw [decide_eq_true hn];refine .zn fF (.cF (.skip (nT (.seq (.af (.z zm (.o (.call call81 rfl (xk (cap:=[]) (q:=fun d=>¬(0≤d∧d≤100000)) hs (hd.mono az) call82 (fun w d hs=>uZ hs)) ?_))))))));rintro _ w ⟨wj,rfl,hb,hs⟩;obtain rfl:wj=false:=by
   cases wj with
   |false=>rfl
   |true=>obtain ⟨d,h1,h2⟩:=hb.1 rfl;exact (h2 (Xv d h1)).elim
  exact .nil (.cF (.skip (nT (.af (.zn zg (.ret (Fin.aW results40 rfl ⟨H1,0,az,rfl,by rw [wP] at he;exact he,hs.out⟩)))))))
abbrev LD(ve vl vp:Value)(m:Nat):List Value:=[ve,vl,vp,.map (some m)]
theorem lW{w:World}{E:List Ev}{c:Cod}{ps:List Psg}(hs:St H w σ)(hF:EA H ve vl vp E c ps):
  aaq 41 [.agg #[ve,vl,vp]] w fun v w'=>∃b m,v=Pt b∧St H w' (.blk b (LD ve vl vp m):: .obj m (.map #[] 0)::σ):=by
 obtain ⟨ae,ce,rfl⟩:=hF.ev.shape;obtain ⟨al,cl,rfl⟩:=hF.law.shape;obtain ⟨ap,cp,rfl⟩:=hF.psg.shape;refine Cl.o func41 ntmps41 ag1 ?_;refine .af (.bx hs fun b1 w hs=>?_);refine .zn zg (.af (.y hs (zls [_,_,_] jT dQ) (.o (.makeMap hs fun b4 w hs=>?_))));refine .z (zbd [_,_,_,_] zf) (.bx hs fun b6 w hs=>?_);exact .zn zg (.ret (Fin.aW results41 rfl ⟨_,_,rfl,hs.sb⟩))
end Go.Proofs.YtfnfiekkdpphjaaGreat
namespace Go.MW
inductive q9:List (Rm×Srv)→List RmL→Prop
 |nil:q9 [] []
 |one {r:Rm} {u:Srv} {lo hi:Int} (h:ID u ⟨1,0,(u.sp.wa.length:Int) - 1⟩ lo hi 0):q9 [(r,u)] [⟨r.id,r.kind,r.opn,r.crew,lo,hi⟩]
theorem q9.few{l:List (Rm×Srv)}{m:List RmL}(h:q9 l m):m.length≤1:=by cases h<;>simp
theorem q9.uniq{l:List (Rm×Srv)}{m m':List RmL}(h:q9 l m)(k:q9 l m'):m=m':=by
 cases h with
 |nil=>cases k;rfl
 |one h=>cases k with
  |one k=>obtain ⟨rfl,rfl,-⟩:=h.uniq k;rfl
theorem F0.err{c:Cod}{day:Int}{f f':Nat}{rooms:List RmL}{a b a' b' e:Int}(h:F0 c day f rooms a b 0)(k:F0 c day f' rooms a' b' e):e=0:=by
 generalize h0:(0:Int)=z at h
 cases h with
 |none=>omega
 |room=>omega
 |ok h h1=>cases k with
  |none g=>omega
  |room _ g=>exact (g h1).elim
  |ok=>rfl
structure Tol where
 fl:Int
 gl:Int
 gh:Int
 nl:Int
 nh:Int
 e:Int
def Tol.c(t:Tol):List Value:=[I t.fl,I t.gl,I t.gh,I t.nl,I t.nh,I t.e]
inductive EV(L:Liv)(c:Cod)(day:Int):Tol→Prop
 |gone (h:L.there=false):EV L c day ⟨0,0,0,0,0,52⟩
 |bad {rms:List RmL} {a b e:Int} (h:L.there=true) (hr:q9 L.cells rms) (hj:F0 c day 0 rms a b e) (he:e≠0):EV L c day ⟨0,0,0,0,0,e⟩
 |ok {rms:List RmL} {gl gh nl nh:Int} (h:L.there=true) (hr:q9 L.cells rms) (h0:F0 c day 0 rms gl gh 0) (h1:F0 c day 1 rms nl nh 0):EV L c day ⟨L.flag,gl,gh,nl,nh,0⟩
theorem EV.uniq{L:Liv}{c:Cod}{day:Int}{t u:Tol}(h:EV L c day t)(k:EV L c day u):t=u:=by
 cases h with
 |gone h=>cases k with
  |gone=>rfl
  |bad g=>rw [h] at g;cases g
  |ok g=>rw [h] at g;cases g
 |bad h hr hj he=>cases k with
  |gone g=>rw [h] at g;cases g
  |bad _ gr gj=>
   obtain rfl:=hr.uniq gr;obtain ⟨-,-,rfl⟩:=hj.uniq hr.few gj;rfl
  |ok _ gr g0=>
   obtain rfl:=hr.uniq gr;exact (he (hj.uniq hr.few g0).2.2).elim
 |ok h hr h0 h1=>cases k with
  |gone g=>rw [h] at g;cases g
  |bad _ gr gj ge=>
   obtain rfl:=hr.uniq gr;exact (ge (gj.uniq hr.few h0).2.2).elim
  |ok _ gr g0 g1=>
   obtain rfl:=hr.uniq gr;obtain ⟨rfl,rfl,-⟩:=h0.uniq hr.few g0;obtain ⟨rfl,rfl,-⟩:=h1.uniq hr.few g1;rfl
structure vE(L:Liv):Prop where
 flag:L.there=true→L.flag=1
 cells:L.cells=[]∨∃r u,L.cells=[(r,u)]∧iE u∧u.sys.Sound
abbrev V3(A:Nat→Int×Int):List Value:=[I (A 0).1,I (A 0).2,I (A 1).1,I (A 1).2]
section
variable{P:Program}{H:bp}{σ:List Ent}{s:FS}{x y:Operand}{t:TypeId}
theorem Jq{d:Nat}{f0 f1 g0 g1:Field}{a0 a1 a2 a3 b0 b1 b2 b3:Int}{w:World}(hu:∀w,(underlying t).run P w= .ok (.struct #[f0,f1]) w)(hh:P.stoodInHeld t=false)(n0:f0.name≠ "_")(n1:f1.name≠ "_")(ht:f1.type=f0.type)
  (u:∀w,(underlying f0.type).run P w= .ok (.struct #[g0,g1]) w) (k:∀w,(isAgg f0.type).run P w= .ok true w) (z:∀w,(sizeOf f0.type).run P w= .ok 2 w) (Xn:P.stoodInHeld f0.type=false) (hg:RK P [g0,g1])
  (o0:f0.offset=0) (o1:f1.offset=2) (p0:g0.offset=0) (p1:g1.offset=1):
  (Op.equalIn (d+3) t (.agg #[I a0,I a1,I a2,I a3]) (.agg #[I b0,I b1,I b2,I b3])).run P w= .ok (decide ((a0=b0∧a1=b1)∧a2=b2∧a3=b3)) w:=by
 have e:=fun (a0 a1 b0 b1:Int) (w:World)=>Gf (P:=P) (t:=f0.type) (d:=d) (w:=w) (a0:=a0) (a1:=a1) (b0:=b0) (b1:=b1) u Xn hg p0 p1
 unfold Op.equalIn;simp only [Sem.run_bind,hu w,Result.andThen];simp [hh,n0,n1,ht,o0,o1,part,k,z,e];by_cases h0:a0=b0<;>by_cases h1:a1=b1<;>by_cases h2:a2=b2<;>by_cases h3:a3=b3<;>simp [h0,h1,h2,h3]
theorem Gl{gL:TypeId}{f0 f1 g0 g1:Field}{a0 a1 a2 a3 b0 b1 b2 b3:Int}(hx:FS.ev s x=some (.agg #[I a0,I a1,I a2,I a3]))(hy:FS.ev s y=some (.agg #[I b0,I b1,I b2,I b3]))
  (hu:∀w,(underlying t).run P w= .ok (.struct #[f0,f1]) w) (hh:P.stoodInHeld t=false) (VA:P.eqGuardType P.depth t=false) (n0:f0.name≠ "_") (n1:f1.name≠ "_")
  (u:∀w,(underlying f0.type).run P w= .ok (.struct #[g0,g1]) w) (k:∀w,(isAgg f0.type).run P w= .ok true w) (z:∀w,(sizeOf f0.type).run P w= .ok 2 w) (Xn:P.stoodInHeld f0.type=false) (hg:RK P [g0,g1])
  (ht:f1.type=f0.type:=by rfl) (o0:f0.offset=0:=by rfl) (o1:f1.offset=2:=by rfl) (p0:g0.offset=0:=by rfl) (p1:g1.offset=1:=by rfl):
  QJ P H σ s (.binOp .eql t x y gL) (.bool (decide ((a0=b0∧a1=b1)∧a2=b2∧a3=b3)))∧QJ P H σ s (.binOp .neq t x y gL) (.bool (!decide ((a0=b0∧a1=b1)∧a2=b2∧a3=b3))):=
 Gi (P:=P) (H:=H) (σ:=σ) (gL:=gL) (t:=t) hx hy (fun op w=>by simp [eqGuard,VA]) fun w=>Jq (d:=9997) hu hh n0 n1 ht u k z Xn hg o0 o1 p0 p1
end
end Go.MW
namespace Go.Proofs.YtfnfiekkdpphjaaGreat
open Go.MW Tryz
variable{H:bp}{σ:List Ent}{a0 a1 a2 m a most hi lo f e z1 z2 z3 known fl id number day:Int}{ls:List Lim}{g b k b1 bf bt bl cl i bm bc bn:Nat}{cap sp:List Value}{s:Spc}{xs lf ws l X Y pk days:List Int}{en:Ent}{ts:List TD}{vl vt vd vp vw v1 v2 vr vc d vs v5 v4 b' tap dn b2 c2 d2 ve:Value}{t:TD}{rows:List (List Int)}{fG:List F5}{fL:List F4}{th:Bool}
theorem za{l:List (Rm×Srv)}{v:Value}(h:EB H l v):∃a n k,v= .slice a n k:=by cases h<;>exact ⟨_,_,_,rfl⟩
theorem yD{w:World}{n:Int}{s:Srv}{a b c:Value}(hs:St H w σ):
  aaq 143 [.agg #[I n,I fl,I s.sp.id,I s.sp.src,a,b,I s.sp.al,I s.sp.up,c,d,.slice none 0 0]] w fun v w'=>v= .tuple #[.slice none 0 0,I 0]∧St H w' σ:=by
 refine Cl.o func143 ntmps143 ag1 ?_;refine .af (.bx hs fun b1 w hs=>?_);refine .z zg (.zn zg (.af (.zn zg (.seq (.af (.z (zfa eQ) (.y hs (zld PL) (.z (bT cJ) (.zn zm (.for (N:=0) (J:=fun _ fr w=>fr=[(4,.slice none 0 0)]∧St H w σ) ak ?_ ?_ ?_))))))))))
 ·exact .mk ⟨rfl,hs.sb⟩
 ·exact fun k fr w hk=>ak
 ·rintro fr w ⟨rfl,hs⟩;exact nT (.af (.z zm (.z zg (.zn zg (.ret (Fin.mh results143 rfl rfl ⟨rfl,hs.out⟩))))))
theorem zY{w:World}{n:Int}{s:Srv}{l:List (Rm×Srv)}{a b c:Value}(hs:St H w σ)(hC:EB H l vc)(bw:l=[]∨∃r u,l=[(r,u)]∧iE u∧u.sys.Sound):
  aaq 143 [.agg #[I n,I fl,I s.sp.id,I s.sp.src,a,b,I s.sp.al,I s.sp.up,c,d,vc]] w fun v w'=>∃H1 vr rms,HLe H H1∧v= .tuple #[vr,I 0]∧RS H1 6 vr (rms.map RmL.c)∧q9 l rms∧St H1 w' σ:=by
 rcases bw with rfl|⟨r,u,rfl,h1,h2⟩
 ·cases hC
  refine (yD hs).mono ?_;rintro _ w ⟨rfl,hs⟩;exact ⟨H,_,[],HLe.refl _,rfl,RS.nil _ _ _ _,.nil,hs⟩
 ·refine (zX hs hC h1 h2).mono ?_;rintro _ w ⟨H1,q,k,lo,hi,az,rfl,hR,hQ,hs⟩;exact ⟨H1,_,[⟨r.id,r.kind,r.opn,r.crew,lo,hi⟩],az,rfl,hR,.one hQ,hs⟩
abbrev VZ(n fl:Int)(u:Srv)(a b c d vc:Value):List Value:=[I n,I fl,I u.sp.id,I u.sp.src,a,b,I u.sp.al,I u.sp.up,c,d,vc]
theorem Ac{w:World}{n:Int}{u:Srv}{a c nm sl:Value}(hs:St H w σ)(hm:Mem σ (.blk b (VZ n fl u a b' c d vc))):
  aaq 142 [.agg #[I f,nm,sl],Pt b] w fun v w'=>v= .bool (decide (f=fl))∧St H w' σ:=by
 refine Cl.o func142 ntmps142 ag2 ?_;refine .af (.bx hs fun b2 w hs=>?_);exact .zn zg (.af (.z (zfa wc) (.y hs (zld aj) (.z (zfa mL) (.q hs (eM rfl aj (hm:= .there hm) (hv:=rfl)) (.z fW (.zn zg (.ret (Fin.aW results142 rfl ⟨rfl,hs.out⟩)))))))))
theorem Ct{w:World}{v:Value}{x:List Value}(hs:St H w σ)(hr:RS H 3 v [x])(hx:x.length=3)
  (hc:∀args w,(callFunc g args).run Tryz.prog w= .ok (.enter g args) w) (hp:∀w,St H w σ→aaq g ([.agg x.toArray]++cap) w fun u w'=>u= .bool true∧St H w' σ):
  aaq 141 [v,.func (.func g) #[] cap.toArray] w fun u w'=>u=I 0∧St H w' σ:=by
 obtain ⟨a,c,rfl⟩:=hr.shape;refine Cl.o func141 ntmps141 ag2 ?_;refine .af (.zn zg (.seq (.af (.z zm (.z (bT mT) (.zn zm (.for (N:=1) (J:=fun k fr w=>fr=[(1,.func (.func g) #[] cap.toArray),(0,.slice a 1 c)]∧St H w σ∧k=0) ak ?_ ?_ ?_)))))))
 ·exact .mk ⟨rfl,hs,rfl⟩
 ·rintro k fr w hk ⟨rfl,hs,rfl⟩;refine .block (.af (.z zm (.zn zg (.af (.z zm (.z zm (.z zm (.ixX (enc:=id) (xs:=[x]) (k:=0) (x':=x) hs hr rfl rfl mT IM rfl rfl ?_))))))));intro tZ o14 fq;refine .q hs (bj (vs:=x) rfl isAgg126 (by rw [hx];exact IM) fq) ?_;refine .o (.jN (first:=[]) rfl rfl hc (hp _ hs) ?_);rintro _ w ⟨rfl,hs⟩;exact .nil (.cT (.af (.z zm (.zn zg (.ret (rB (rT (rB (rT (Fin.aW results141 rfl ⟨rfl,hs⟩))))))))))
 ·exact fun fr w ⟨_,_,h⟩=>(by cases h)
theorem Mj(A:Nat→Int×Int){k:Nat}(h:k<2)(x y:Int):so (V3 A) (0+k*2) [I x,I y]=V3 (upF A k (x,y)):=by
 have:k=0∨k=1:=by omega
 rcases this with rfl|rfl<;>rfl
set_option maxHeartbeats 4000000 in
theorem uY{w:World}{m:Nat}{E S:List Ev}{cs:List Cmp}{c:Cod}{ps:List Psg}{n:Int}(hs:St H w (.blk b (LD ve vl vp m)::σ))(hF:EA H ve vl vp E c ps)(hA:vF E S cs n day known)(hn:1≤n∧n≤999)(hd:0≤day∧day≤100000)(hk:0≤known∧known≤100000)(ht:(S.foldl (eJ cs) fK).there=false):
  aaq 84 [Pt b,.agg #[I n,I day,I known]] w fun v w'=>∃H1,HLe H H1∧v= .agg (Tol.c ⟨0,0,0,0,0,52⟩).toArray∧St H1 w' (.blk b (LD ve vl vp m)::σ):=by
 refine Cl.o func84 ntmps84 ag2 ?_;refine .af (.bx hs fun b3 w hs=>?_);refine .o (.alloc hs oe rfl fun b4 w hs=>?_);refine .nil (.seq (.draw mix rfl hs fun w hs=>?_));refine .zw 0 rfl zm ?_;refine .z 1 rfl znc ?_;refine .z 2 rfl (zfa iU) ?_;refine .z 3 rfl (zfa gI) ?_;refine .y 4 rfl hs Y8 ?_;refine .z 5 rfl (zfa ti) ?_;refine .y 6 rfl hs aj ?_;refine .z 7 rfl (zfa nO) ?_;refine .y 8 rfl hs aj ?_;refine .z 9 rfl (zfa tg) ?_;refine .zv 10 rfl hs (uM aj) (.e2 (i:=11) (j:=15) aF rfl rfl rfl rfl .none .none hs ?_ ?_)
 ·refine .call call29 rfl (nK hs hF.ev hA hn hd hk ht) ?_;rintro _ w ⟨H1,az,rfl,hs⟩;refine .go (.zw 12 rfl zm ?_);refine .z 13 rfl zex ?_;refine .z 14 rfl zex ?_;refine .E 15 hs ?_;refine .alloc hs og rfl ?_;intro b5 w hs;refine .go (.E 16 hs ?_);refine .aL (vs:=[_,_,_,_,_,_,_,_,_,_,_]) hs rfl rfl kO ?_;intro w hs;refine .go (.zw 17 rfl zg ?_);refine .D hs ?_;refine .seq (.af (.z zm (.zn gv (.cT (.af (.z zm (.z (zbd [_,_,_,_,_,_] lG) (.o (.aL (vs:=[_,_,_,_,_,_]) hs rfl rfl fJ fun w hs=>?_)))))))));exact .nil (.ret (rT ((Fin.ki [] [] hs fun w hs=>⟨_,results1 results84 (dK (vs:=Tol.c ⟨0,0,0,0,0,52⟩) hs rfl PK fJ),H1,az,rfl,hs.sb⟩))))
 ·refine .alloc hs og rfl ?_;intro b5 w hs;refine .go (.E 11 hs ?_);refine .call call29 rfl (nK hs hF.ev hA hn hd hk ht) ?_;rintro _ w ⟨H1,az,rfl,hs⟩;refine .go (.zw 12 rfl zm ?_);refine .z 13 rfl zex ?_;refine .z 14 rfl zex ?_;refine .E 16 hs ?_;refine .aL (vs:=[_,_,_,_,_,_,_,_,_,_,_]) hs rfl rfl kO ?_;intro w hs;refine .go (.zw 17 rfl zg ?_);refine .D hs ?_;refine .seq (.af (.z zm (.zn gv (.cT (.af (.z zm (.z (zbd [_,_,_,_,_,_] lG) (.o (.aL (vs:=[_,_,_,_,_,_]) hs rfl rfl fJ fun w hs=>?_)))))))));exact .nil (.ret (rT ((Fin.ki [] [] hs fun w hs=>⟨_,results1 results84 (dK (vs:=Tol.c ⟨0,0,0,0,0,52⟩) hs rfl PK fJ),H1,az,rfl,hs.sb⟩))))
set_option maxHeartbeats 8000000 in
theorem tn{w:World}{m:Nat}{E S:List Ev}{cs:List Cmp}{c:Cod}{ps:List Psg}{n:Int}(hs:St H w (.blk b (LD ve vl vp m)::σ))(hF:EA H ve vl vp E c ps)(hA:vF E S cs n day known)(bw:mc c)(hL:vE (S.foldl (eJ cs) fK))(hn:1≤n∧n≤999)(hd:0≤day∧day≤100000)(hk:0≤known∧known≤100000)(ht:(S.foldl (eJ cs) fK).there=true):
  aaq 84 [Pt b,.agg #[I n,I day,I known]] w fun v w'=>∃H1 t,HLe H H1∧v= .agg t.c.toArray∧EV (S.foldl (eJ cs) fK) c day t∧St H1 w' (.blk b (LD ve vl vp m)::σ):=by
 refine Cl.o func84 ntmps84 ag2 ?_;refine .af (.bx hs fun b3 w hs=>?_);refine .o (.alloc hs oe rfl fun b4 w hs=>?_);refine .nil (.cut (fun fs w=>∃H1 b5 qa ka qb kb qc kc qd kd qe ne ke,ob fs ⟨84,[],[(6,I 0),(5,Pt b5),(4,Pt b4),(3,Pt b3),(0,Pt b)]⟩∧HLe H H1∧EB H1 (S.foldl (eJ cs) fK).cells (.slice qe ne ke)∧St H1 w (.blk b5 (VZ n (S.foldl (eJ cs) fK).flag (S.foldl (eJ cs) fK).hu (.slice qa (S.foldl (eJ cs) fK).hu.sp.st.length ka) (.slice qb (S.foldl (eJ cs) fK).hu.sp.wa.length kb) (.slice qc (S.foldl (eJ cs) fK).hu.rs.length kc) (.slice qd (S.foldl (eJ cs) fK).hu.cs.length kd) (.slice qe ne ke)):: .blk b4 (Tol.c ⟨0,0,0,0,0,0⟩):: .blk b3 [I n,I day,I known]:: .blk b (LD ve vl vp m)::σ)) ?_ ?_)
 ·refine .draw mix rfl hs fun w hs=>?_
  refine .zw 0 rfl zm ?_;refine .z 1 rfl znc ?_;refine .z 2 rfl (zfa iU) ?_;refine .z 3 rfl (zfa gI) ?_;refine .y 4 rfl hs Y8 ?_;refine .z 5 rfl (zfa ti) ?_;refine .y 6 rfl hs aj ?_;refine .z 7 rfl (zfa nO) ?_;refine .y 8 rfl hs aj ?_;refine .z 9 rfl (zfa tg) ?_;refine .zv 10 rfl hs (uM aj) (.e2 (i:=11) (j:=15) aF rfl rfl rfl rfl .none .none hs ?_ ?_)
  ·refine .call call29 rfl (py hs hF.ev hA hn hd hk ht) ?_;rintro _ w ⟨H1,xa,xb,xc,xd,vc,az,rfl,uS,hC,hs⟩;obtain ⟨qa,ka,rfl⟩:=RI.shape uS.st;obtain ⟨qb,kb,rfl⟩:=RI.shape uS.wa;obtain ⟨qc,kc,rfl⟩:=RRd.shape uS.rd;obtain ⟨qd,kd,rfl⟩:=RCm.shape uS.cm;obtain ⟨qe,ne,ke,rfl⟩:=za hC;refine .go (.zw 12 rfl zm ?_);refine .z 13 rfl zex ?_;refine .z 14 rfl zex ?_;refine .E 15 hs ?_;refine .alloc hs og rfl ?_;intro b5 w hs;refine .go (.E 16 hs ?_);refine .aL (vs:=[_,_,_,_,_,_,_,_,_,_,_]) hs rfl rfl kO ?_;intro w hs;refine .go (.zw 17 rfl zg ?_);refine .D hs ?_;exact nT ⟨H1,_,qa,ka,qb,kb,qc,kc,qd,kd,qe,ne,ke,bg,az,hC,hs.sb⟩
  ·refine .alloc hs og rfl ?_;intro b5 w hs;refine .go (.E 11 hs ?_);refine .call call29 rfl (py hs hF.ev hA hn hd hk ht) ?_;rintro _ w ⟨H1,xa,xb,xc,xd,vc,az,rfl,uS,hC,hs⟩;obtain ⟨qa,ka,rfl⟩:=RI.shape uS.st;obtain ⟨qb,kb,rfl⟩:=RI.shape uS.wa;obtain ⟨qc,kc,rfl⟩:=RRd.shape uS.rd;obtain ⟨qd,kd,rfl⟩:=RCm.shape uS.cm;obtain ⟨qe,ne,ke,rfl⟩:=za hC;refine .go (.zw 12 rfl zm ?_);refine .z 13 rfl zex ?_;refine .z 14 rfl zex ?_;refine .E 16 hs ?_;refine .aL (vs:=[_,_,_,_,_,_,_,_,_,_,_]) hs rfl rfl kO ?_;intro w hs;refine .go (.zw 17 rfl zg ?_);refine .D hs ?_;exact nT ⟨H1,_,qa,ka,qb,kb,qc,kc,qd,kd,qe,ne,ke,bg,az,hC,hs.sb⟩
 ·rintro fs w ⟨H1,b5,qa,ka,qb,kb,qc,kc,qd,kd,qe,ne,ke,j8,az,hC,hs⟩;refine WE.sub ?_ j8;clear j8;generalize S.foldl (eJ cs) fK=L at*;have Kq:=hL.flag ht;refine .seq (.af (.z zm (.z gv ?_)));rw [decide_eq_true rfl];refine .nil (.cF (.skip (nT (.af (.z zm (.z znc (.z (zfa iU) (.z (zfa ku) (.y hs (zld isAgg47) (.q hs (dv (f:=[]) (c:=[_]) rfl rfl) ?_))))))))));refine .o (.call call141 rfl (Ct (cap:=[Pt b5]) hs (RS.mono hF.law az) rfl call142 (fun w hs=>by
   refine (Ac (f:=1) hs (by repeat (first|exact .here|refine .there ?_))).mono ?_;rintro _ w ⟨rfl,hs⟩;exact ⟨by rw [Kq];rfl,hs⟩)) ?_);rintro _ w ⟨rfl,hs⟩
  refine .zn zg (.seq (.af (.z zm (.z fT ?_))));rw [decide_eq_false cR];refine .nil (.cF (.skip (nT (.af (.y hs (zls [_,_,_,_,_,_,_,_,_,_,_] isAgg107 kO) (.o (.call call143 rfl (zY hs hC hL.cells) ?_)))))));rintro _ w ⟨H2,vr,rms,aN,rfl,hRr,X5,hs⟩;have lk:=az.trans aN;refine .z zm (.z zex (.z zex (.z zg (.zn zg (.seq (.af (.z zm (.z gv ?_))))))));rw [decide_eq_true rfl];refine .nil (.cF (.skip (nT (.af (.o (.alloc hs zeroValue290 rfl fun b9 w hs=>?_))))));refine .nil (.seq (.af (.zn zm (.block ?_))));refine .loop (fun k:Nat=>⟨84,[],[(49,I (k:Int)),(8,vr),(7,I 0),(9,Pt b9),(5,Pt b5),(4,Pt b4),(3,Pt b3),(0,Pt b)]⟩)
   (fun k w=>k≤2∧∃H3 A,HLe H2 H3∧(∀j<k,F0 c day j rms (A j).1 (A j).2 0)∧St H3 w (.blk b9 (V3 A):: .blk b5 (VZ n L.flag L.hu (.slice qa L.hu.sp.st.length ka) (.slice qb L.hu.sp.wa.length kb) (.slice qc L.hu.rs.length kc) (.slice qd L.hu.cs.length kd) (.slice qe ne ke)):: .blk b4 (Tol.c ⟨0,0,0,0,0,0⟩):: .blk b3 [I n,I day,I known]:: .blk b (LD ve vl vp m)::σ)) (fun k=>2 - k) 0 (.dw rfl aU bg)
   ⟨Nat.zero_le _,H2,fun _=>(0,0),HLe.refl _,fun j hj=>by omega,hs.sb⟩ ?_
  clear hs;rintro k w ⟨Kk,H3,A,bA,NC,hs⟩;have jm:=lk.trans bA;refine .af (.zn fT (.seq (.bQ rfl (fun QT=>?_) (fun QT=>?_))))
  ·refine .skip (nT (.seq (.block (.af (.z zm (.zn zg (.seq (.draw mix rfl hs fun w hs=>?_))))))));refine .zw 0 rfl zm ?_;refine .z 1 rfl zm ?_;refine .z 2 rfl znc ?_;refine .z 3 rfl (zfa iU) ?_;refine .z 4 rfl (zfa ku) ?_;refine .y 5 rfl hs isAgg47 ?_;refine .z 6 rfl zm ?_;refine .ixX (enc:=id) (xs:=[[I 1,.string c.name,c.sl]]) (k:=0) (x':=[I 1,.string c.name,c.sl]) (i:=7) hs rfl aF .none (RS.mono hF.law jm) rfl rfl mT IM rfl rfl ?_;intro b60 o60 TZ;refine .zw 8 rfl (zfa wb) (.r (i:=9) hs rfl aF .none (bj (vs:=[.string c.name,c.sl]) rfl N9 oX (TZ.sub 1 _)) ?_);refine .zw 10 rfl (zfa nO) ?_;refine .y 11 rfl hs aj ?_;refine .z 12 rfl zm ?_;refine .z 13 rfl zm ?_;refine .E 14 hs ?_;refine .call call23 rfl (y9 (f:=k) hs (hF.cod.mono jm) bw hd ak (RS.mono hRr bA) X5.few) ?_;rintro _ w ⟨H4,lo,hi,e,gz,rfl,hJ,hs⟩;refine .go (.zw 15 rfl zm ?_);refine .z 16 rfl zex ?_;refine .z 17 rfl zex ?_;refine .zw 18 rfl (sH (k:=k) (m:=2) rfl rfl runUnderlying290 cD rfl ak) (.E 19 hs ?_);refine .aL (vs:=[I lo,I hi]) hs rfl rfl cD ?_ cg (Nat.ble_eq_true_of_le (by simp;omega)) (Mj A ak lo hi);intro w hs;refine .go (.zw 20 rfl zg ?_);refine .D hs ?_;refine .af (.z zm (.zn gv (.gN rfl (fun Kt=>?_) (fun Kt=>?_))))
   ·refine .af (.z zm (.z (zbd [_,_,_,_,_,_] lG) (.o (.aL (vs:=[_,_,_,_,_,_]) hs rfl rfl fJ fun w hs=>?_))));refine .nil (.ret (rB (rT (rT (rB (rT (?_)))))));exact Fin.ki [] [] hs fun w hs=>⟨_,results1 results84 (dK (vs:=Tol.c ⟨0,0,0,0,0,e⟩) hs rfl PK fJ),H4,⟨0,0,0,0,0,e⟩,jm.trans gz,rfl,by
     have RY:k=0∨k=1:=by omega
     rcases RY with rfl|rfl
     ·exact .bad ht X5 hJ Kt
     ·exact (Kt ((NC 0 ak).err hJ)).elim,hs.sb⟩
   ·refine .skip (nB (nT (.region (.z cC (.zn zm (nT ?_))))));obtain rfl:e=0:=by omega
    exact ⟨k+1,.dw rfl aU bg,⟨ak,H4,upF A k (lo,hi),bA.trans gz,fun j hj=>by
     by_cases e:j=k
     ·subst e;simpa [upF] using hJ
     ·simp only [upF,if_neg e];exact NC j ak,hs.sb⟩,ak⟩
  ·refine .exit (xT (xT (xB (nT (.af (.z (zfa mL) (.y hs (zld aj) ?_)))))));obtain rfl:k=2:=by omega
   refine .q hs (sH (k:=0) (m:=2) rfl rfl runUnderlying290 cD rfl cR) (.y hs (zls [_,_] om cD) (.q hs (sH (k:=1) (m:=2) rfl rfl runUnderlying290 cD rfl cR) (.y hs (zls [_,_] om cD) (.z (zbd [_,_,_,_] pR) (.z (zbd [_,_,_,_,_,_] lG) (.o (.aL (vs:=[_,_,_,_,_,_]) hs rfl rfl fJ fun w hs=>?_)))))));exact .nil (.ret (Fin.ki [] [] hs fun w hs=>⟨_,results1 results84 (dK (vs:=Tol.c ⟨L.flag,(A 0).1,(A 0).2,(A 1).1,(A 1).2,0⟩) hs rfl PK fJ),H3,_,jm,rfl,.ok ht X5 (NC 0 ak) (NC 1 ak),hs.sb⟩))
theorem uX{w:World}{m:Nat}{E S:List Ev}{cs:List Cmp}{c:Cod}{ps:List Psg}{n:Int}(hs:St H w (.blk b (LD ve vl vp m)::σ))(hF:EA H ve vl vp E c ps)(hA:vF E S cs n day known)(bw:mc c)(hL:vE (S.foldl (eJ cs) fK))(hn:1≤n∧n≤999)(hd:0≤day∧day≤100000)(hk:0≤known∧known≤100000):
  aaq 84 [Pt b,.agg #[I n,I day,I known]] w fun v w'=>∃H1 t,HLe H H1∧v= .agg t.c.toArray∧EV (S.foldl (eJ cs) fK) c day t∧St H1 w' (.blk b (LD ve vl vp m)::σ):=by
 cases ht:(S.foldl (eJ cs) fK).there with
 |false=>
  refine (uY hs hF hA hn hd hk ht).mono ?_;rintro _ w ⟨H1,az,rfl,hs⟩;exact ⟨H1,_,az,rfl,.gone ht,hs⟩
 |true=>exact tn hs hF hA bw hL hn hd hk ht
theorem J0{em:Bool}{b c:Int}(w:World):(Instr.checkKey em 10000 135 (.agg #[I a,I b,I c])).run Tryz.prog w= .ok () w:=by
 have h0:(part 3 #[I a,I b,I c] 0).run Tryz.prog w= .ok (I a) w:=p5 aj rfl;have h1:(part 3 #[I a,I b,I c] 1).run Tryz.prog w= .ok (I b) w:=p5 aj rfl;have h2:(part 3 #[I a,I b,I c] 2).run Tryz.prog w= .ok (I c) w:=p5 aj rfl;unfold Instr.checkKey;simp [Result.andThen,h0,h1,h2,p6 aJ]
set_option maxHeartbeats 4000000 in
theorem tq{w:World}{m:Nat}{E S:List Ev}{cs:List Cmp}{c:Cod}{ps:List Psg}{n:Int}(hs:St H w (.blk b (LD ve vl vp m):: .obj m (.map #[] 0)::σ))(hF:EA H ve vl vp E c ps)(hA:vF E S cs n day known)(bw:mc c)(hL:vE (S.foldl (eJ cs) fK))(hn:1≤n∧n≤999)(hd:0≤day∧day≤100000)(hk:0≤known∧known≤100000):
  aaq 42 [Pt b,.agg #[I n,I day,I known]] w fun v w'=>∃H1 t,HLe H H1∧v= .agg t.c.toArray∧EV (S.foldl (eJ cs) fK) c day t∧St H1 w' σ:=by
 refine Cl.o func42 ntmps42 ag2 ?_;refine .af (.bx hs fun b3 w hs=>?_);refine .o (.alloc hs oe rfl fun b4 w hs=>?_);refine .nil (.seq (.draw mix rfl hs fun w hs=>?_));refine .zw 0 rfl zm ?_;refine .z 1 rfl znc ?_;refine .z 2 rfl (zfa oA) ?_;refine .y 3 rfl hs isAgg197 ?_;refine .ys 4 rfl hs [_,_,_] isAgg135 sizeOf135 ?_;refine .q (H:= .bot) (i:=5) [.obj m (.map #[] 0)] rfl aF .none (HE rfl rfl .here runUnderlying197 J0 qK oe) ?_;refine .zw 6 rfl zm ?_;refine .z 7 rfl zex ?_;refine .z 8 rfl zex ?_;refine .E 9 hs ?_;refine .alloc hs oe rfl ?_;intro b5 w hs;refine .go (.E 10 hs ?_);refine .aL (vs:=[_,_,_,_,_,_]) hs rfl rfl fJ ?_;intro w hs;refine .go (.zw 11 rfl zg ?_);refine .D hs ?_;refine .seq (.af (.z zm (.zn fF (.cT (.af (.z zm (.y hs (zls [_,_,_] isAgg135 sizeOf135) (.o (.call call84 rfl (uX (hs.pick (.there (.there (.there .here)))) hF hA bw hL hn hd hk) ?_)))))))));rintro _ w ⟨H1,t,az,rfl,hT,hs⟩;refine .o (.aL (vs:=[_,_,_,_,_,_]) hs rfl rfl fJ fun w hs=>?_);refine .nil (.draw mix rfl hs fun w hs=>?_);refine .zw 0 rfl zm ?_;refine .z 1 rfl znc ?_;refine .z 2 rfl (zfa oA) ?_;refine .y 3 rfl hs isAgg197 ?_;refine .ys 4 rfl hs [_,_,_] isAgg135 sizeOf135 ?_;refine .ys 5 rfl hs [_,_,_,_,_,_] PK fJ ?_;refine .E 6 hs ?_;refine .Qt hs rfl rfl rfl runUnderlying197 J0 qK ?_ cg;intro w hs;refine .go (.D hs (nT (.af (.y hs (zls [_,_,_,_,_,_] PK fJ) (.o (.aL (vs:=[_,_,_,_,_,_]) hs rfl rfl fJ fun w hs=>?_))))));exact .nil (.ret (Fin.ki [] [] hs fun w hs=>⟨_,results1 results42 (dK (vs:=t.c) hs rfl PK fJ),H1,t,az,rfl,hT,hs.sb⟩))
set_option maxHeartbeats 4000000 in
theorem ir{w:World}{E S:List Ev}{cs:List Cmp}{c:Cod}{ps:List Psg}{n:Int}(hs:St H w σ)(hF:EA H ve vl vp E c ps)(hp:zr ps)(hA:vF E S cs n day known)(hL:vE (S.foldl (eJ cs) fK))(hn:1≤n∧n≤999)(hd:0≤day∧day≤100000)(hk:0≤known∧known≤100000):
  aaq 11 [.agg #[ve,vl,vp],I n,I day,I known] w fun v w'=>∃H1 t e,HLe H H1∧v= .tuple #[.agg #[I t.gl,I t.gh,I t.nl,I t.nh],I e]∧((¬mc c∧e=81)∨(mc c∧e=t.e∧EV (S.foldl (eJ cs) fK) c day t))∧St H1 w' σ:=by
 obtain ⟨ae,ce,rfl⟩:=hF.ev.shape;obtain ⟨al,cl,rfl⟩:=hF.law.shape;obtain ⟨ap,cp,rfl⟩:=hF.psg.shape;refine Cl.o func11 ntmps11 ag4 ?_;refine .af (.bx hs fun b4 w hs=>?_);refine .o (.alloc hs IJ rfl fun b8 w hs=>?_);refine .zn zg (.seq (.af (.y hs (zls [_,_,_] jT dQ) (.z zm (.z zm (.z zm (.o (.buildSlice (cells:=Is [day,known]) hs dX rfl aF fun vC w hs=>?_))))))));obtain ⟨H1,az,hR,hs⟩:=bE.bX (bE.full (len:=2) rfl) aU hs .here;refine .o (.call call40 rfl (yZ hs (hF.mono az) hA.hist hp hn hR (fun d h=>by simp at h;omega)) ?_);rintro _ w ⟨H2,e,aN,rfl,he,hs⟩;have lk:=az.trans aN;refine .zn zg (.af (.z zm (.zn gv (.gN rfl (fun j9=>?_) (fun j9=>?_)))))
 ·refine .af (.z (zbd [_,_,_,_] pR) (.z zm (.o (.aL (vs:=[_,_,_,_]) hs rfl rfl jP fun w hs=>?_))));refine .zn zg (.ret (rT (?_)));exact Fin.ki [] [] hs fun w hs=>⟨_,results2 results11 (dK (vs:=[I 0,I 0,I 0,I 0]) hs rfl Y7 jP) rfl,H2,⟨0,0,0,0,0,0⟩,e,lk,rfl,.inl (by
   rcases he with ⟨_,rfl⟩|h
   ·exact (j9 rfl).elim
   ·exact h),hs.sb⟩
 ·refine .skip (nT (.af (.y hs (zls [_,_,_] jT dQ) ?_)));have bw:mc c:=by
   rcases he with ⟨h,_⟩|⟨_,rfl⟩
   ·exact h
   ·exact absurd j9 cR
  refine .o (.call call41 rfl (lW hs (hF.mono lk)) ?_);rintro _ w ⟨b,m,rfl,hs⟩;refine .z zm (.z zm (.z zm (.z (zbd [_,_,_] wg) (.o (.call call42 rfl (tq hs (hF.mono lk) hA bw hL hn hd hk) ?_)))));rintro _ w ⟨H3,t,bA,rfl,hT,hs⟩;refine .o (.alloc hs oe rfl fun EU w hs=>?_);refine .o (.aL (vs:=[_,_,_,_,_,_]) hs rfl rfl fJ fun w hs=>?_);refine .nil (.seq (.draw mix rfl hs fun w hs=>?_));refine .zw 0 rfl (zfa qV) ?_;refine .ys 1 rfl hs [_,_,_,_] Y7 jP ?_;refine .z 2 rfl (zfa qU) ?_;refine .y 3 rfl hs isAgg57 ?_;refine .E 4 hs ?_;refine .aL (vs:=[_,_,_,_]) hs rfl rfl jP ?_;intro w hs;refine .go (.zw 5 rfl zg ?_);refine .D hs ?_;exact .ret (Fin.ki [] [] hs fun w hs=>⟨_,results2 results11 (dK (vs:=[I t.gl,I t.gh,I t.nl,I t.nh]) hs rfl Y7 jP) rfl,H3,t,t.e,lk.trans bA,rfl,.inr ⟨bw,rfl,hT⟩,hs.sb⟩)
set_option maxHeartbeats 1000000 in
theorem uW{w:World}{E:List Ev}{c:Cod}{ps:List Psg}(hs:St H w σ)(hF:EA H ve vl vp E c ps)(hE:ub E)(hk:k<E.length):
  aaq 43 [.agg #[ve,vl,vp],.agg #[I (evG E k).off,I (evG E k).seq]] w fun v w'=>∃H1 l' u',HLe H H1∧v= .tuple #[.agg #[u',vl,vp],.bool true]∧REv H1 u' l'∧ub l'∧l'.map Ev.core=(E.eraseIdx k).map Ev.core∧St H1 w' σ:=by
 obtain ⟨ae,ce,rfl⟩:=hF.ev.shape;obtain ⟨al,cl,rfl⟩:=hF.law.shape;obtain ⟨ap,cp,rfl⟩:=hF.psg.shape;refine Cl.o func43 ntmps43 ag2 ?_;refine .af (.bx hs fun b2 w hs=>?_);refine .bx hs fun b3 w hs=>?_
 refine .o (.alloc hs IK rfl fun b4 w hs=>?_);refine .zn zg (.af (.z (zfa gI) (.y hs (zld Y8) (.y hs (zls [_,_] cj bk) (.o (.call call14 rfl (nu hs hF.ev hE hk) ?_))))));rintro _ w ⟨H1,l',u',az,rfl,hR,hH,hc,hs⟩;obtain ⟨au,cu,rfl⟩:=hR.shape;refine .z zm (.z zex (.z zex (.z zg (.zn zg (.af (.z zm (.z (zfa gI) (.o (.store hs rfl rfl sizeOf45 fun w hs=>?_)))))))));refine .nil (.af (.y hs (zls [_,_,_] jT dQ) (.z zm (.z fW ?_))));rw [decide_eq_true rfl];refine .o (.aL (vs:=[_,_,_]) hs rfl rfl dQ fun w hs=>?_);exact .zn zg (.ret (Fin.ki [] [] hs fun w hs=>⟨_,results2 results43 (dK (vs:=[.slice au l'.length cu,.slice al 1 cl,.slice ap (ps.map Psg.c).length cp]) hs rfl jT dQ) rfl,H1,l',_,az,rfl,hR,hH,hc,hs.sb⟩))
end Go.Proofs.YtfnfiekkdpphjaaGreat
namespace Go.MW
variable{P:Program}{ro:Option Nat}{Q:Exit→FS→World→Prop}{K:FS→World→Prop}{s:FS}{w:World}{H:bp}{σ τ:List Ent}{n d:Nat}{ds:List Deferred}{e:List (Nat×Value)}{ty t:TypeId}{pos:String}{eZ:Array Edge}{v:Value}{x y:Operand}{b:Nat}
theorem SJ{elem:TypeId}{a':Option Addr}{len cap:Nat}(hx:FS.ev s x=some (.slice a' len cap))(hu:∀w,(underlying t).run P w= .ok (.slice elem) w):
  QJ P H σ s (.call ⟨.builtin .cap,#[x],#[t]⟩) (.int .i64 cap):=
 ⟨fun _=>by simp,fun a w _ _ _ _ _ ha _=>by
  simp [execOp,resolve,ha.ev hx,invoke,builtin,Builtin.cap_,hu w,goInt,Sem.run_bind]⟩
theorem OJ.Rx{sT xT elem:TypeId}{i:TypeInfo}{z:Value}{kq kn:IntKind}{k:Nat}(hs:St H w σ)(ht:P.underlying sT=some (.slice elem))(htn:P.underlying xT=some (.int kn))(hi:P.info? elem=some i)(hz:i.zero=some z)(M4:z.cells.size=i.size)(h0:0<i.size)
  (hx:FS.ev ⟨n,ds,e⟩ x=some (.slice none 0 0)) (hy:FS.ev ⟨n,ds,e⟩ y=some (.int kq (k:Int))) (hk:0<k) (hb:k*i.bytes≤140737488355328) (Kk:k≤140737488355328)
  (kk:∀(b:Nat) (cap:Nat) (zs:List Value) w',k≤cap→zs.length=cap*i.size→St H w' (.blk b zs::σ)→K ⟨n,ds,(d,.slice (some ⟨b,0,none⟩) k cap)::e⟩ w') (hd:Nat.blt d n=true:=by rfl):
  OJ P ro ⟨some d,.call ⟨.builtin .append,#[x,y],#[sT,xT]⟩,ty,pos,eZ,none⟩ K ⟨n,ds,e⟩ w:=by
 have hold:(Builtin.firstCells i.size 0 (.slice none 0 0)).run P w.drew= .ok (#[]:Array Value) w.drew:=by simp [Builtin.firstCells]
 have hr:=Lib.run_append_grow_zeros (P:=P) w sT xT ty elem i z kq kn ht htn hi hz none 0 0 [] hold k hk h0 (by omega) (by omega) (by omega) (by
  have h1:=Oy (nl:=0+k) (oc:=0) (by omega);have h2:=Nat.mul_le_mul_right i.bytes h1;have h3:2*(0+k)*i.bytes=2*(k*i.bytes):=by rw [Nat.zero_add,Nat.mul_assoc]
  omega)
 obtain ⟨G,hG⟩:∃G,G=grownCap w (0+k) 0 elem:=⟨_,rfl⟩;rw [←hG] at hr;have TN:k≤G:=by rw [hG];have:=grownCap_ge w (0+k) 0 elem;omega
 obtain ⟨zs,S7⟩:∃zs:List Value,zs=(#[]++Builtin.zeroCells z.cells k++Builtin.zeroCells z.cells (G - (0+k))).toList:=⟨_,rfl⟩;have hlen:zs.length=G*i.size:=by
  rw [S7,Array.length_toList,Array.size_append,Array.size_append,mB,mB,M4];simp only [Array.size_empty,Nat.zero_add];rw [←Nat.add_mul];congr 1;omega
 refine .val (v:= .slice (some ⟨w.heap.size,0,none⟩) k G) (w':=w.drew.alloc (.cells zs.toArray elem)) (fun _=>by simp) (fun a ha=>?_) hd (kk _ _ zs _ TN hlen ?_)
 ·simp only [execOp,resolve,List.map_toArray,List.map_cons,List.map_nil,ha.ev hx,ha.ev hy,Sem.run_bind,Sem.run_pure,Result.andThen,invoke,builtin];rw [hr,Nat.zero_add,S7];simp only [Nat.zero_add,Array.toArray_toList]
 ·have h5:=(hs.drawn (w.drawn+1)).qf zs.toArray elem;exact h5
end Go.MW
namespace Go.MW
open Go.Sort Go.Proofs
def plP(p:Int×Int):List Value:=[I p.1,I p.2]
theorem SM(ps:List (Int×Int)):∀c∈ps.map plP,c.length=2:=fun c hc=>by simp only [List.mem_map] at hc;obtain ⟨p,_,rfl⟩:=hc;rfl
theorem Bu(ps:List (Int×Int)):(ps.map plP).flatten.length=ps.length*2:=by rw [a7 _ (SM _),List.length_map]
theorem Gr(ps:List (Int×Int)):(flatK plP 2 ps.toArray).toList=(ps.map plP).flatten:=by
 have h2:∀c∈ps.map plP,c.length=2:=fun c hc=>by simp only [List.mem_map] at hc;obtain ⟨p,_,rfl⟩:=hc;rfl
 apply List.ext_getElem?;intro j;have hlen:((ps.map plP).flatten).length=ps.length*2:=by rw [a7 _ h2,List.length_map]
 by_cases hj:j<ps.length*2
 ·have h1:(flatK plP 2 ps.toArray).toList[j]? =some ((plP ps.toArray[j/2]!)[j%2]!):=by
   simp [flatK,hj]
  rw [h1];have hd:j/2<ps.length:=by omega
  have e:ps.toArray[j/2]! =ps[j/2]:=by simp [hd]
  rw [e];have Xw:ps=ps.take (j/2)++ps[j/2]::ps.drop (j/2+1):=by simp
  have BP:((ps.take (j/2)).map plP).flatten.length=j/2*2:=by
   rw [a7 _ (fun c hc=>h2 c (by rw [List.map_take] at hc;exact List.mem_of_mem_take hc)),List.length_map,List.length_take,Nat.min_eq_left (by omega)]
  have:((ps.map plP).flatten)[j]? =(plP ps[j/2])[j%2]? :=by
   conv=>lhs;rw [Xw]
   rw [List.map_append,List.map_cons,List.flatten_append,List.flatten_cons,List.getElem?_append_right (by omega),BP,List.getElem?_append_left (by simp [plP];omega)]
   congr 1;omega
  rw [this]
  rcases Nat.mod_two_eq_zero_or_one j with h|h<;>rw [h]<;>rfl
 ·rw [List.getElem?_eq_none (by simp;omega),List.getElem?_eq_none (by omega)]
theorem yo(F:Array Value)(xs:List Value)(sp:List Value)(h:F.size=xs.length):putCells id 0 F (xs++sp).toArray=(F.toList++sp).toArray:=by
 unfold putCells;apply Array.ext_getElem?;intro k;simp only [Array.getElem?_mapIdx,List.getElem?_toArray,Nat.zero_add,Nat.zero_le,true_and,Nat.sub_zero,id];by_cases hk:k<F.size
 ·rw [List.getElem?_append_left (by omega),List.getElem?_append_left (by simpa using hk),List.getElem?_eq_getElem (by omega),Option.map_some,if_pos hk];simp [hk]
 ·rw [List.getElem?_append_right (by omega),List.getElem?_append_right (by simpa using hk),Array.length_toList,show xs.toArray.size=F.size from h.symm]
  cases h3:sp[k - F.size]? with
  |none=>rfl
  |some v=>rw [Option.map_some,if_neg hk]
theorem St.We{H:bp}{w:World}{σ:List Ent}{b m:Nat}{xs:List Value}{ys:List (Int×Int)}{sp:List Value}{os:Array Obj}(hs:St H w (.blk b (xs++sp)::σ))(h:ys.length*2=xs.length):
  St H (sortWorldK plP 2 w b 0 m ys.toArray os) (.blk b ((ys.map plP).flatten++sp)::σ):=by
 refine St.grow ?_ os;obtain ⟨T,hb⟩:=hs.own _ (.head _);have eG:∀k,k≠b→(putRowK plP 2 (Sort.ahead w m) b 0 ys.toArray).heap[k]? =w.heap[k]? :=fun k hk=>by
  show (w.heap.modify b _)[k]? =_;rw [Array.getElem?_modify];simp [Ne.symm hk]
 have qQ:(putRowK plP 2 (Sort.ahead w m) b 0 ys.toArray).heap[b]? =some (.cells ((ys.map plP).flatten++sp).toArray T (0,0)):=by
  show (w.heap.modify b _)[b]? =_;rw [Array.getElem?_modify];simp only [if_true,hb,Option.map_some,Go.Sort.onCells];rw [yo _ xs sp (by simp [h]),Gr]
 have tW:=List.pairwise_cons.1 hs.nd;refine ⟨fun k o hk=>?_,fun e he=>?_,List.pairwise_cons.2 ⟨fun y hy k h1 h2=>tW.1 y hy k h1 h2,tW.2⟩,fun e he k hk=>?_,fun x hx=>⟨(hs.io x hx).1,(hs.io x hx).2.1,(hs.io x hx).2.2.1,Nat.le_trans (hs.io x hx).2.2.2 (Nat.le_add_right _ _)⟩⟩
 ·rw [eG k]
  ·exact hs.ro k o hk
  ·intro e;subst e;rw [hs.dis _ (.head _) k rfl] at hk;cases hk
 ·cases he with
  |head=>exact ⟨T,qQ⟩
  |tail _ he=>
   have h4:=hs.own e (.tail _ he);have h5:=tW.1 e he
   cases e with
   |blk b' c'=>obtain ⟨T',h4⟩:=h4;exact ⟨T',by rw [eG b' (fun e=>h5 b rfl (by rw [e];rfl))];exact h4⟩
   |obj b' o=>simp only [Ent.sat] at h4 ⊢;rw [eG b' (fun e=>h5 b rfl (by rw [e];rfl))];exact h4
   |nul=>trivial
 ·cases he with
  |head=>exact hs.dis _ (.head _) k hk
  |tail _ he=>exact hs.dis e (.tail _ he) k hk
theorem St.Tu{H:bp}{w:World}{σ:List Ent}{b:Nat}{xs:List (Int×Int)}{sp:List Value}(hs:St H w (.blk b ((xs.map plP).flatten++sp)::σ)):HoldsK plP 2 w b 0 xs.toArray:=fun j hj=>by
 have Fz:j<(flatK plP 2 xs.toArray).toList.length:=by simpa using hj
 refine ⟨?_,?_⟩
 ·rw [Nat.zero_add,fP hs .here,←Gr,List.getElem?_append_left Fz,List.getElem?_eq_getElem Fz];have ZA:j<(flatK plP 2 xs.toArray).size:=hj;simp only [id,Array.getElem_toList];rw [getElem!_pos (flatK plP 2 xs.toArray) j ZA]
 ·rw [Nat.zero_add];exact nN hs .here j
theorem RS.mem2{H:bp}{m:Nat}{v:Value}{cs:List (List Value)}(h:RS H m v cs){c:List Value}(hc:c∈cs):c.length=m:=by
 obtain ⟨i,hi⟩:=List.mem_iff_getElem?.1 hc;obtain ⟨_,_,_,_,_,h5⟩:=h;exact (h5 i c hi).1
end Go.MW
namespace Go.Proofs
open Go.Shelf
def Tryz.Ho:Go.Shelf.Ren:=⟨fun|6=>46|15=>87|14=>86|28=>152|29=>153|20=>144|21=>145|22=>146|23=>147|24=>148|25=>149|26=>150|27=>151|46=>216|47=>217|48=>218|49=>219|50=>220|57=>270|n=>n,fun|22=>60|24=>65|25=>145|3=>3|39=>205|0=>0|53=>299|55=>301|4=>4|46=>293|45=>292|50=>209|5=>5|9=>9|66=>350|70=>354|76=>405|77=>324|n=>n,fun|n=>n⟩
theorem Tryz.Oi:Go.Proofs.SlLaysF0.n6 Tryz.prog Tryz.Ho:={
 mixed:=by kernel_rfl
 f6:=⟨Tryz.f46.name,by decide,Tryz.func46.trans (congrArg some (by kernel_rfl))⟩
 f14:=⟨Tryz.f86.name,by decide,Tryz.func86.trans (congrArg some (by kernel_rfl))⟩
 f15:=Tryz.func87.trans (congrArg some (by kernel_rfl))
 f20:=⟨Tryz.f144.name,by decide,Tryz.func144.trans (congrArg some (by kernel_rfl))⟩
 f21:=⟨Tryz.f145.name,by decide,Tryz.func145.trans (congrArg some (by kernel_rfl))⟩
 f22:=⟨Tryz.f146.name,by decide,Tryz.func146.trans (congrArg some (by kernel_rfl))⟩
 f23:=⟨Tryz.f147.name,by decide,Tryz.func147.trans (congrArg some (by kernel_rfl))⟩
 f24:=⟨Tryz.f148.name,by decide,Tryz.func148.trans (congrArg some (by kernel_rfl))⟩
 f25:=⟨Tryz.f149.name,by decide,Tryz.func149.trans (congrArg some (by kernel_rfl))⟩
 f26:=⟨Tryz.f150.name,by decide,Tryz.func150.trans (congrArg some (by kernel_rfl))⟩
 f27:=⟨Tryz.f151.name,by decide,Tryz.func151.trans (congrArg some (by kernel_rfl))⟩
 f28:=Tryz.func152.trans (congrArg some (by kernel_rfl))
 f29:=Tryz.func153.trans (congrArg some (by kernel_rfl))
 f46:=⟨Tryz.f216.name,by decide,Tryz.func216.trans (congrArg some (by kernel_rfl))⟩
 f47:=Tryz.func217.trans (congrArg some (by kernel_rfl))
 f48:=Tryz.func218.trans (congrArg some (by kernel_rfl))
 f49:=⟨Tryz.f219.name,by decide,Tryz.func219.trans (congrArg some (by kernel_rfl))⟩
 f50:=⟨Tryz.f220.name,by decide,Tryz.func220.trans (congrArg some (by kernel_rfl))⟩
 f57:=⟨Tryz.f270.name,by decide,Tryz.func270.trans (congrArg some (by kernel_rfl))⟩
 t0:=Tryz.underlying0
 a0:=Tryz.isAgg0
 z0:=Tryz.sizeOf0
 v0:=Tryz.zeroValue0
 t3:=Tryz.underlying3
 a3:=Tryz.isAgg3
 z3:=Tryz.sizeOf3
 v3:=Tryz.zeroValue3
 t4:=Tryz.underlying4
 a4:=Tryz.isAgg4
 z4:=Tryz.sizeOf4
 v4:=Tryz.zeroValue4
 t5:=Tryz.underlying5
 a5:=Tryz.isAgg5
 z5:=Tryz.sizeOf5
 v5:=Tryz.zeroValue5
 t9:=Tryz.underlying9
 a9:=Tryz.isAgg9
 z9:=Tryz.sizeOf9
 v9:=Tryz.zeroValue9
 t22:=Tryz.underlying60
 a22:=Tryz.isAgg60
 z22:=Tryz.sizeOf60
 v22:=Tryz.zeroValue60
 t25:=Tryz.underlying145
 a25:=Tryz.isAgg145
 z25:=Tryz.sizeOf145
 v25:=Tryz.zeroValue145
 t39:=Tryz.underlying205
 a39:=Tryz.isAgg205
 z39:=Tryz.sizeOf205
 v39:=Tryz.zeroValue205
 t45:=Tryz.underlying292
 a45:=Tryz.isAgg292
 z45:=Tryz.sizeOf292
 v45:=Tryz.zeroValue292
 t46:=Tryz.underlying293
 a46:=Tryz.isAgg293
 z46:=Tryz.sizeOf293
 v46:=Tryz.zeroValue293
 t50:=Tryz.underlying209
 a50:=Tryz.isAgg209
 z50:=Tryz.sizeOf209
 v50:=Tryz.zeroValue209
 t53:=Tryz.underlying299
 a53:=Tryz.isAgg299
 z53:=Tryz.sizeOf299
 v53:=Tryz.zeroValue299
 t55:=Tryz.underlying301
 a55:=Tryz.isAgg301
 z55:=Tryz.sizeOf301
 v55:=Tryz.zeroValue301
 t66:=Tryz.underlying350
 a66:=Tryz.isAgg350
 z66:=Tryz.sizeOf350
 v66:=Tryz.zeroValue350
 t70:=Tryz.underlying354
 a70:=Tryz.isAgg354
 z70:=Tryz.sizeOf354
 v70:=Tryz.zeroValue354
 t76:=Tryz.underlying405
 a76:=Tryz.isAgg405
 z76:=Tryz.sizeOf405
 v76:=Tryz.zeroValue405
 t77:=Tryz.underlying324
 a77:=Tryz.isAgg324
 z77:=Tryz.sizeOf324
 v77:=Tryz.zeroValue324}
end Go.Proofs
namespace Go.Proofs.YtfnfiekkdpphjaaGreat
open Go.MW Go.Sort Tryz
def cfP(x y:Int×Int):Int:=orL [oW x.1 y.1,oW x.2 y.2]
theorem Ps(x y:Int×Int):ltOf cfP x y=true↔(x.1<y.1∨(x.1=y.1∧x.2<y.2)):=by
 unfold ltOf;rw [decide_eq_true_eq];unfold cfP oW;by_cases h1:x.1<y.1
 ·rw [if_pos h1];exact ⟨fun _=> .inl h1,fun _=>by simp [orL]⟩
 ·rw [if_neg h1];by_cases h2:y.1<x.1
  ·rw [if_pos h2];exact ⟨fun h=>absurd h (by simp [orL]),fun h=>by omega⟩
  ·rw [if_neg h2];by_cases h3:x.2<y.2
   ·rw [if_pos h3];exact ⟨fun _=> .inr ⟨ak,h3⟩,fun _=>by simp [orL]⟩
   ·rw [if_neg h3];by_cases h4:y.2<x.2
    ·rw [if_pos h4];exact ⟨fun h=>absurd h (by simp [orL]),fun h=>by omega⟩
    ·rw [if_neg h4];exact ⟨fun h=>absurd h (by simp [orL]),fun h=>by omega⟩
theorem Pu(x y:Int×Int):ltOf cfP x y=false↔¬(x.1<y.1∨(x.1=y.1∧x.2<y.2)):=by
 rw [←Ps];cases ltOf cfP x y<;>simp
theorem Rq:SWO (ltOf cfP) where
 irrefl x:=by rw [Pu];omega
 trans x y z h1 h2:=by rw [Ps] at*;omega
 ntrans x y z h1 h2:=by rw [Pu] at*;omega
theorem E9{H:bp}{w:World}{σ:List Ent}{b cap:Nat}{xs:List (Int×Int)}{sp:List Value}(hs:St H w (.blk b ((xs.map plP).flatten++sp)::σ))(hl:xs.length≤17592186044416):
  aaq 46 [.slice (some ⟨b,0,none⟩) xs.length cap,.func (.func 47) #[] #[]] w fun u w'=>u= .tuple #[]∧∃ys:List (Int×Int),ys.Perm xs∧St H w' (.blk b ((ys.map plP).flatten++sp)::σ):=by
 have h2:=Bu xs;have:=AnyQ.slices_SortFunc Tryz.Oi 2 (fun w=>cj w) (fun w=>bk w) plP (fun _=>rfl) (fun x v hv=>by simp only [plP,List.mem_cons,List.not_mem_nil,or_false] at hv;rcases hv with rfl|rfl<;>rfl) cfP Rq 47 #[] b 0 cap xs.toArray w call47
  (fun m os dk hdk x y=>by
   have h:Calls Tryz.prog 47 #[.agg (plP x).toArray,.agg (plP y).toArray] _ _:=j7 (a:=x.1) (b:=x.2) (c:=y.1) (d:=y.2) (St.start (sortWorldK plP 2 w b 0 m dk os));rw [Array.append_empty];refine h.mono ?_;rintro e w' ⟨v,rfl,rfl,H1,hle,Kc⟩;exact ⟨rfl,Kc.grown hle⟩) hs.Tu (hs.lt .here) (by simp;omega)
 refine Calls.mono (show Calls Tryz.prog 46 #[.slice (some ⟨b,0,none⟩) xs.length cap,.func (.func 47) #[] #[]] w _ from this) ?_;rintro e w' ⟨he,d',n,os,hp,-,hw⟩;refine ⟨_,he,rfl,d'.toList,?_,?_⟩
 ·have rQ:d'.size=xs.length:=by simpa using hp.1
  have h3:=hp.2.2;have e1:d'.extract 0 xs.toArray.size=d':=by rw [show xs.toArray.size=d'.size by simp [rQ]];simp
  have e2:xs.toArray.extract 0 xs.toArray.size=xs.toArray:=by simp
  rw [e1,e2] at h3;simpa using h3
 ·have rQ:d'.size=xs.length:=by simpa using hp.1
  rw [hw];have:=hs.We (m:=n) (os:=os) (ys:=d'.toList) (by rw [h2,Array.length_toList,rQ]);simpa using this
theorem wy{H:bp}{w:World}{σ:List Ent}{a:Option Addr}{cap:Nat}(hs:St H w σ):
  aaq 46 [.slice a 0 cap,.func (.func 47) #[] #[]] w fun u w'=>u= .tuple #[]∧St H w' σ:=
 (AnyF.slices_SortFunc_none Tryz.Oi a cap _ w).mono fun e w' ⟨he,hw⟩=>⟨_,he,rfl,by rw [hw];exact hs⟩
theorem Mc{H:bp}{w:World}{σ:List Ent}{v:Value}{xs:List (Int×Int)}{en:Ent}(hs:St H w (en::σ))(ho:bE 2 v (xs.map plP).flatten en)(hl:xs.length≤17592186044416):
  aaq 46 [v,.func (.func 47) #[] #[]] w fun u w'=>u= .tuple #[]∧∃(ys:List (Int×Int)) (jn:Ent),ys.Perm xs∧bE 2 v (ys.map plP).flatten jn∧St H w' (jn::σ):=by
 have h2:=Bu
 rcases ho with ⟨a,rfl,h0,rfl⟩|⟨b,len,cap,sp,rfl,rfl,h3,h4,h5⟩
 ·have hx:xs=[]:=List.length_eq_zero_iff.1 (by have:=h2 xs;rw [h0] at this;simp at this;omega);subst hx;exact (wy hs).mono fun v w' ⟨hv,hs⟩=>⟨hv,[],.nul,.refl _,.inl ⟨a,rfl,rfl,rfl⟩,hs⟩
 ·obtain rfl:len=xs.length:=by rw [h2] at h3;omega
  exact (E9 hs hl).mono fun v w' ⟨hv,ys,hp,hs⟩=>⟨hv,ys,_,hp,.inr ⟨b,_,cap,sp,rfl,rfl,by rw [h2,hp.length_eq],by rw [List.length_append,h2,hp.length_eq,←h2 xs,←List.length_append];exact h4,h5⟩,hs⟩
theorem uw{H:bp}{w:World}{σ:List Ent}{k:Nat}(hs:St H w σ)(hk:k≤4398046511104):
  aaq 85 [.slice none 0 0,I (k:Int)] w fun u w'=>∃en,bE 2 u [] en∧St H w' (en::σ):=by
 refine Cl.o func85 ntmps85 ag2 ?_;refine .af (.zn zg (.seq (.af (.z zm (.z fT ?_)))));rw [decide_eq_false ak];refine .nil (.cF (.skip (nT (.seq (.af (.z zm (.z zm (.q hs (SJ rfl du) (.z zm (.z (bT du) (.z jj (.z jj (.zn zg (.af (.z zm ?_)))))))))))))));rw [show ((k:Int) - (((0:Nat):Int) - ((0:Nat):Int)))=(k:Int) by omega];refine .zn nE (.bQ rfl (fun dO=>?_) (fun dO=>?_))
 ·refine .region (.z zm (.z zm (.q hs (SJ rfl du) (.q hs (Bm rfl rfl du bk ⟨ak,ak⟩) (.z zm (.o (.Rx (k:=k) (i:=Tryz.t65) (z:= .agg #[I 0,I 0]) hs underlying60 e9 aF (by rfl) (by rfl) cR rfl rfl ak (by show k*16≤_;omega) ak ?_)))))));intro Iw cap22 zs22 w XB S6 hs;exact .z zm (.z (bT du) (.q hs (Bm rfl rfl du bk ⟨ak,ak⟩) (.zn zg (nT (.af (.z zm (.zn zg (.ret (Fin.aW results85 rfl ⟨.blk Iw zs22,.inr ⟨Iw,0,cap22,zs22,rfl,rfl,rfl,S6,Nat.zero_le _⟩,hs.sb⟩)))))))))
 ·exact .skip (nT (.af (.z zm (.zn zg (.ret (Fin.aW results85 rfl ⟨.nul,.nil 2 none,hs.nul.sb⟩))))))
theorem ux{H:bp}{w:World}{σ:List Ent}{v:Value}{L:List (Value×List (List Value))}(hs:St H w σ)(hr:RS H 1 v (L.map fun p=>[p.1]))(hL:∀p∈L,RS H 2 p.1 p.2∧∀c∈p.2,∀x∈c,x.oneCell'=true)(hlen:(L.map (·.2)).flatten.length≤4398046511104):
  aaq 45 [v] w fun u w'=>∃en,bE 2 u (L.map (·.2)).flatten.flatten en∧St H w' (en::σ):=by
 obtain ⟨a,c,rfl⟩:=hr.shape;rw [List.length_map] at*;have fc:∀k,k≤L.length→((L.take k).map (·.2)).flatten.length≤(L.map (·.2)).flatten.length:=fun k _=>by
  conv=>rhs;rw [←List.take_append_drop k L]
  rw [List.map_append,List.flatten_append,List.length_append];omega
 have Z6:L.length≤9223372036854775807:=by have:=hr.len.2.2;simpa using this
 refine Cl.o func45 ntmps45 ag1 ?_;refine .af (.zn zg (.af (.zn zg (.seq (.af (.z zm (.z (bT CM) (.zn zm (.for (N:=L.length) (J:=fun k fr w=>fr=[(9,.slice a L.length c),(3,I ((((L.take k).map (·.2)).flatten.length:Nat):Int)),(2,.slice none 0 0),(0,.slice a L.length c)]∧St H w σ) ak ?_ ?_ ?_)))))))))
 ·exact .mk ⟨rfl,hs⟩
 ·rintro k fr w hk ⟨rfl,hs⟩;obtain ⟨p,hp⟩:=nth (l:=L) hk;have WX:=(hL p (List.mem_of_getElem? hp)).1;obtain ⟨pa,pc,hpe⟩:=WX.shape;have DP:((L.take (k+1)).map (·.2)).flatten.length=((L.take k).map (·.2)).flatten.length+p.2.length:=by
   rw [eH hp,List.map_append,List.flatten_append,List.length_append];simp
  have zD:=fc (k+1) hk;refine .block (.af (.ixX (enc:=fun p:Value×List (List Value)=>[p.1]) hs hr rfl rfl CM mR hp rfl ?_));intro lJ o13 iH;refine .q hs (aR rfl N8 iH.one) ?_;rw [hpe];refine .zn zg (.af (.z zm (.z zm (.z (bT du) (.z cC (.zn zg (.af (.z zm (.z fT ?_)))))))));rw [decide_eq_false ak];exact .nil (.cF (.skip (nB (nT (.mk ⟨by rw [DP],hs⟩)))))
 ·rintro fr w ⟨rfl,hs⟩;refine nT (.af (.z zm (.o (.call call85 rfl (uw hs (by rw [List.take_length];omega)) ?_))));rintro v24 w ⟨en24,hO,hs⟩;refine .zn zg (.seq (.af (.z zm (.z (bT CM) (.zn zm (.for (N:=L.length) (J:=fun k fr w=>∃v6 en,bE 2 v6 ((L.take k).map (·.2)).flatten.flatten en∧fr=[(25,.slice a L.length c),(6,v6),(0,.slice a L.length c)]∧St H w (en::σ)) ak ?_ ?_ ?_))))))
  ·exact .mk ⟨v24,en24,by simpa using hO,rfl,hs⟩
  ·rintro k fr w hk ⟨v6,en,hO,rfl,hs⟩;obtain ⟨p,hp⟩:=nth (l:=L) hk;obtain ⟨WX,h1⟩:=hL p (List.mem_of_getElem? hp);have zD:=fc (k+1) hk;have DP:((L.take (k+1)).map (·.2)).flatten=((L.take k).map (·.2)).flatten++p.2:=by
    rw [eH hp,List.map_append,List.flatten_append];simp
   refine .block (.af (.ixX (enc:=fun p:Value×List (List Value)=>[p.1]) hs hr rfl rfl CM mR hp rfl ?_));intro UQ o29 Aa;refine .q hs (aR rfl N8 Aa.one) (.zn zg (.region (.z zm (.z zm ?_))));refine .o (.append hs bP rfl rfl hO (Src.rs WX) (fun x hx=>by obtain ⟨c,hc,hxc⟩:=List.mem_flatten.1 hx;exact h1 c hc x hxc) (fun l h=>by
    have:l*2=((L.take k).map (·.2)).flatten.length*2:=by rw [←h];exact a7 _ (fun c hc=>by
     obtain ⟨q,hq,hcq⟩:=List.mem_flatten.1 hc;obtain ⟨p',Tt,rfl⟩:=List.mem_map.1 hq;exact (hL p' (List.mem_of_mem_take Tt)).1.mem2 hcq)
    rw [DP,List.length_append] at zD;omega) ?_);intro v33 en33 w hO hs
   exact .zn zg (nB (nT (.mk ⟨v33,en33,by rw [DP,List.flatten_append];exact hO,rfl,hs⟩)))
  ·rintro fr w ⟨v6,en,hO,rfl,hs⟩;rw [List.take_length] at hO;exact nT (.af (.z zm (.zn zg (.ret (Fin.aW results45 rfl ⟨en,hO,hs.out⟩)))))
set_option maxHeartbeats 4000000 in
theorem yE{H:bp}{w:World}{σ:List Ent}{v:Value}{l S:List Ev}{cs:List Cmp}{number day known:Int}(hs:St H w σ)(hr:REv H v l)(hA:vF l S cs number day known)(hn:1≤number∧number≤999)(hd:0≤day∧day≤100000)(hk:0≤known∧known≤100000)(vS:l.length≤4096)(ht:(S.foldl (eJ cs) fK).there=true):
  aaq 13 [v,I number,I day,I known] w fun u w'=>∃(H1:bp) (v':Value) (ps:List (Int×Int)) (D:List Ev),HLe H H1∧u= .tuple #[v',I 0]∧RS H1 2 v' (ps.map plP)∧ps.Perm ((D++vL l known l.length).map fun x=>(x.off,x.seq))∧(pU cs fK S→D=S)∧St H1 w' σ:=by
 refine Cl.o func13 ntmps13 ag4 ?_;refine .af (.z zg (.zn zg (.af (.z zm (.z zm (.z zm (.z zm (.o (.call call44 rfl (lT hs hr hA hn hd hk) ?_)))))))));rintro _ w ⟨H1,az,hq⟩;obtain ⟨-,b,blk,ce,cmp,tap,dn,vd,rfl,hM,ES,⟨D,R8,hD,VO⟩,hs⟩:=hq.resolve_left fun h=>by rw [ht] at h;cases h.1
 obtain ⟨a1,c1,rfl⟩:=ES.shape;obtain ⟨a2,c2,rfl⟩:=R8.shape;obtain ⟨a',b',c',d',vc,rfl,-,-⟩:=hM.ex;have hSl:S.length≤19:=by have h1:=hA.few;rw [←hA.sorted,fo];exact h1
 have xC:(vL l known l.length).length≤4096:=Nat.le_trans (List.length_filter_le _ _) (by rw [List.length_take];omega);refine .z zm (.z zex (.z zex (.z zg (.zn zg (.seq (.af (.z zm (.z gv ?_))))))));rw [decide_eq_true rfl];refine .nil (.cF (.skip (nT (.seq (.draw mix rfl hs fun w hs=>?_)))));refine .zw 0 rfl zm ?_;refine .z 1 rfl znc ?_;refine .z 2 rfl (zfa mK) ?_;refine .y 3 rfl hs N8 ?_;refine .z 4 rfl zm ?_;refine .z 5 rfl znc ?_;refine .z 6 rfl (zfa iJ) ?_;refine .y 7 rfl hs N8 ?_;refine .E 8 hs ?_;refine .buildSlice (cells:=[_,_]) hs qG rfl rfl ?_;intro Se w hs;refine .go (.E 9 hs ?_);obtain ⟨H2,aN,hR,hs⟩:=bE.bG (cs:=[[.slice a2 (D.map yr).length c2],[.slice a1 ((vL l known l.length).map yr).length c1]]) (bE.full (m:=1) (len:=2) rfl) aU ak aU hs .here;refine .call call45 rfl (ux (L:=[(.slice a2 (D.map yr).length c2,D.map yr),(.slice a1 ((vL l known l.length).map yr).length c1,(vL l known l.length).map yr)]) hs hR (fun p hp=>by
  have h1:∀L:List Ev,∀c∈L.map yr,∀x∈c,x.oneCell'=true:=fun L c hc x hx=>by
   obtain ⟨y,_,rfl⟩:=List.mem_map.1 hc;simp only [yr,List.mem_cons,List.not_mem_nil,or_false] at hx
   rcases hx with rfl|rfl<;>rfl
  simp only [List.mem_cons,List.not_mem_nil,or_false] at hp
  rcases hp with rfl|rfl
  ·exact ⟨R8.mono aN,h1 D⟩
  ·exact ⟨ES.mono aN,h1 _⟩) (by simp;omega)) ?_;rintro v33 w ⟨en33,hO,hs⟩
 have Kq:(([(Value.slice a2 (D.map yr).length c2,D.map yr),(Value.slice a1 ((vL l known l.length).map yr).length c1,(vL l known l.length).map yr)]:List (Value×List (List Value))).map (·.2)).flatten.flatten=(((D++vL l known l.length).map fun x=>(x.off,x.seq)).map plP).flatten:=by
  simp only [List.map_cons,List.map_nil,List.flatten_cons,List.flatten_nil,List.append_nil,List.map_map,List.map_append,List.flatten_append];rfl
 rw [Kq] at hO;refine .go (.zw 10 rfl zg ?_);refine .D hs ?_;refine .af (.z zm (.o (.call call46 rfl (Mc hs hO (by simp;omega)) ?_)));rintro _ w ⟨rfl,ys,jn,hp,hO,hs⟩;have qg:ys.length≤9223372036854775807:=by rw [hp.length_eq];simp;omega
 obtain ⟨H3,bA,IZ,hs⟩:=bE.bG (m:=2) hO (fun c hc=>by obtain ⟨y,_,rfl⟩:=List.mem_map.1 hc;rfl) ak (by simpa using qg) hs .here;exact .nil (.af (.z zm (.z zg (.zn zg (.ret (Fin.mh results13 rfl rfl ⟨H3,_,ys,D,az.trans (aN.trans bA),rfl,IZ,hp,hD,hs.out⟩))))))
end Go.Proofs.YtfnfiekkdpphjaaGreat
namespace Go.Proofs.YtfnfiekkdpphjaaGreat
open Go.MW Tryz
variable{H:bp}{σ:List Ent}{a0 a1 a2 m a most hi lo f e z1 z2 z3 known fl id number day:Int}{ls:List Lim}{g b k b1 bf bt bl cl i bm bc bn:Nat}{cap sp:List Value}{s:Spc}{xs lf ws l X Y pk days:List Int}{en:Ent}{ts:List TD}{vl vt vd vp vw v1 v2 vr vc d vs v5 v4 b' tap dn b2 c2 d2 ve:Value}{t:TD}{rows:List (List Int)}{fG:List F5}{fL:List F4}{th:Bool}
def G7(c:Cod)(day:Int)(t0:Tol)(L:Liv):Prop:=∃t,EV L c day t∧(t.e≠0∨¬((t.gl=t0.gl∧t.gh=t0.gh)∧t.nl=t0.nl∧t.nh=t0.nh))
theorem G7.iff{c:Cod}{t0 t:Tol}{L:Liv}(h:EV L c day t):G7 c day t0 L↔(t.e≠0∨¬((t.gl=t0.gl∧t.gh=t0.gh)∧t.nl=t0.nl∧t.nh=t0.nh)):=
 ⟨fun ⟨u,hu,hs⟩=>by obtain rfl:=h.uniq hu;exact hs,fun hs=>⟨t,h,hs⟩⟩
def atP(x:Ev):Int×Int:=(x.off,x.seq)
def N5(E:List Ev)(c:Cod)(day:Int)(t0:Tol)(Lw:Nat→Liv)(k:Nat)(qs:List (Int×Int)):Prop:=∀q,q∈qs↔∃j,j<k∧q=atP (evG E j)∧G7 c day t0 (Lw j)
theorem N5.yes{E:List Ev}{c:Cod}{t0:Tol}{Lw:Nat→Liv}{qs:List (Int×Int)}(h:N5 E c day t0 Lw k qs)(hk:G7 c day t0 (Lw k)):N5 E c day t0 Lw (k+1) (qs++[atP (evG E k)]):=fun q=>by
 rw [List.mem_append,List.mem_singleton,h q];constructor
 ·rintro (⟨j,hj,h1,h2⟩|rfl)
  ·exact ⟨j,ak,h1,h2⟩
  ·exact ⟨k,ak,rfl,hk⟩
 ·rintro ⟨j,hj,h1,h2⟩
  rcases Nat.lt_or_ge j k with g|g
  ·exact .inl ⟨j,g,h1,h2⟩
  ·obtain rfl:j=k:=by omega
   exact .inr h1
theorem N5.no{E:List Ev}{c:Cod}{t0:Tol}{Lw:Nat→Liv}{qs:List (Int×Int)}(h:N5 E c day t0 Lw k qs)(hk:¬G7 c day t0 (Lw k)):N5 E c day t0 Lw (k+1) qs:=fun q=>by
 rw [h q];constructor
 ·rintro ⟨j,hj,h1,h2⟩;exact ⟨j,ak,h1,h2⟩
 ·rintro ⟨j,hj,h1,h2⟩
  rcases Nat.lt_or_ge j k with g|g
  ·exact ⟨j,g,h1,h2⟩
  ·obtain rfl:j=k:=by omega
   exact (hk h2).elim
theorem wV{w:World}{E S:List Ev}{cs:List Cmp}{c:Cod}{ps:List Psg}{n:Int}(hs:St H w σ)(hF:EA H ve vl vp E c ps)(hp:zr ps)(hA:vF E S cs n day known)(hL:vE (S.foldl (eJ cs) fK))(hn:1≤n∧n≤999)(hd:0≤day∧day≤100000)(hk:0≤known∧known≤100000)
  (eG:¬mc c∨∃t,EV (S.foldl (eJ cs) fK) c day t∧t.e≠0):
  aaq 12 [.agg #[ve,vl,vp],I n,I day,I known] w fun v w'=>∃H1 e,HLe H H1∧v= .tuple #[.slice none 0 0,I e]∧((¬mc c∧e=81)∨(mc c∧∃t,e=t.e∧EV (S.foldl (eJ cs) fK) c day t))∧St H1 w' σ:=by
 obtain ⟨ae,ce,rfl⟩:=hF.ev.shape;obtain ⟨al,cl,rfl⟩:=hF.law.shape;obtain ⟨ap,cp,rfl⟩:=hF.psg.shape;refine Cl.o func12 ntmps12 ag4 ?_;refine .af (.bx hs fun b4 w hs=>?_);refine .z zg (.zn zg (.af (.y hs (zls [_,_,_] jT dQ) (.z zm (.z zm (.z zm (.o (.call call11 rfl (ir hs hF hp hA hL hn hd hk) ?_))))))));rintro _ w ⟨H1,t,e,az,rfl,he,hs⟩;have Xu:e≠0:=by
  rcases he with ⟨_,rfl⟩|⟨h,rfl,hT⟩
  ·decide
  ·rcases eG with g|⟨t',KN,g⟩
   ·exact (g h).elim
   ·obtain rfl:=hT.uniq KN;exact g
 refine .z zm (.z zex (.z zex (.o (.alloc hs IJ rfl fun jr w hs=>?_))));refine .o (.aL (vs:=[_,_,_,_]) hs rfl rfl jP fun w hs=>?_);refine .zn zg (.seq (.af (.z zm (.z gv ?_))));rw [decide_eq_false Xu];exact .nil (.cT (.af (.z zm (.z zg (.zn zg (.ret (rT (Fin.mh results12 rfl rfl ⟨H1,e,az,rfl,he.imp id (fun ⟨h,h1,h2⟩=>⟨h,t,h1,h2⟩),hs.out⟩))))))))
set_option maxHeartbeats 8000000 in
theorem u7{w:World}{E S:List Ev}{cs:List Cmp}{c:Cod}{ps:List Psg}{n:Int}{t0:Tol}{Lw:Nat→Liv}(hs:St H w σ)(hF:EA H ve vl vp E c ps)(hp:zr ps)(hA:vF E S cs n day known)(hL:vE (S.foldl (eJ cs) fK))(hn:1≤n∧n≤999)(hd:0≤day∧day≤100000)(hk:0≤known∧known≤100000)
  (bw:mc c) (hT:EV (S.foldl (eJ cs) fK) c day t0) (h0:t0.e=0) (aac:E.length≤4096)
  (hW:∀i,i<E.length→∀l',ub l'→l'.map Ev.core=(E.eraseIdx i).map Ev.core→∃S' cs',vF l' S' cs' n day known∧S'.foldl (eJ cs') fK=Lw i) (hWL:∀i,i<E.length→vE (Lw i)):
  aaq 12 [.agg #[ve,vl,vp],I n,I day,I known] w fun v w'=>∃H1 v' qs,HLe H H1∧v= .tuple #[v',I 0]∧RS H1 2 v' (qs.map plP)∧N5 E c day t0 Lw E.length qs∧St H1 w' σ:=by
 obtain ⟨ae,ce,rfl⟩:=hF.ev.shape;obtain ⟨al,cl,rfl⟩:=hF.law.shape;obtain ⟨ap,cp,rfl⟩:=hF.psg.shape;refine Cl.o func12 ntmps12 ag4 ?_;refine .af (.bx hs fun b4 w hs=>?_);refine .z zg (.zn zg (.af (.y hs (zls [_,_,_] jT dQ) (.z zm (.z zm (.z zm (.o (.call call11 rfl (ir hs hF hp hA hL hn hd hk) ?_))))))));rintro _ w ⟨H1,t,e,az,rfl,he,hs⟩;obtain ⟨-,rfl,KN⟩:=he.resolve_left fun h=>h.1 bw
 obtain rfl:=hT.uniq KN;rw [h0];refine .z zm (.z zex (.z zex (.o (.alloc hs IJ rfl fun jr w hs=>?_))));refine .o (.aL (vs:=[_,_,_,_]) hs rfl rfl jP fun w hs=>?_);refine .zn zg (.seq (.af (.z zm (.z gv ?_))));rw [decide_eq_true rfl];refine .nil (.cF (.skip (nT (.af (.zn zg (.seq (.af (.z (zfa gI) (.y hs (zld Y8) (.z (bT aD) (.zn zm (.for (N:=E.length) (J:=fun k fr w=>∃H2 v12 en qs,HLe H H2∧bE 2 v12 (qs.map plP).flatten en∧qs.length≤k∧N5 E c day t0 Lw k qs∧fr=[(30,.slice ae E.length ce),(12,v12),(10,Pt jr),(4,Pt b4),(3,I known),(2,I day),(1,I n)]∧St H2 w (en:: .blk jr [I t0.gl,I t0.gh,I t0.nl,I t0.nh]:: .blk b4 [.slice ae E.length ce,.slice al 1 cl,.slice ap (ps.map Psg.c).length cp]::σ)) ak ?_ ?_ ?_))))))))))))
 ·exact .mk ⟨H1,_,.nul,[],az,.nil 2 none,Nat.le_refl _,fun q=>by simp,rfl,hs.nul⟩
 ·rintro k fr w RY ⟨H2,v12,en,qs,aN,hO,Zp,hq,rfl,hs⟩;have hx:=dp (l:=E) (i:=k) RY;have Q6:=hF.mono aN;refine .block (.af (.ixX (enc:=Ev.c) hs Q6.ev.rs rfl rfl aD aH hx rfl ?_));intro UP o34 qu;refine .q hs (bj (vs:=(evG E k).c) rfl bV aH qu) (.o (.alloc hs cz rfl fun tZ w hs=>?_));refine .o (.fy (vs:=[_,_,_,_,_,_,_,_,_,_,_,_,_,_,_,_,_,_,_,_,_,_,_,_,_,_,_,_,_,_,_]) hs rfl rfl aH fun w hs=>?_);refine .nil (.af (.y hs (zls [_,_,_] jT dQ) (.z (zfa bM) (.y hs (zls [_,_] cj bk) (.o (.call call43 rfl (uW hs Q6 hA.hist RY) ?_))))));rintro _ w ⟨H3,l',u',bA,rfl,hR,hH,hc,hs⟩;obtain ⟨S',cs',hA',Up⟩:=hW k RY l' hH hc;obtain ⟨au,cu,rfl⟩:=hR.shape;have aab:EA H3 (.slice au l'.length cu) (.slice al 1 cl) (.slice ap (ps.map Psg.c).length cp) l' c ps:=⟨hR,RS.mono Q6.law bA,Q6.cod.mono bA,RS.mono Q6.psg bA⟩;refine .z zm (.z zex (.z zex (.o (.alloc hs IK rfl fun Ll w hs=>?_))));refine .o (.aL (vs:=[_,_,_]) hs rfl rfl dQ fun w hs=>?_);refine .zn zg (.af (.y hs (zls [_,_,_] jT dQ) (.o (.call call41 rfl (lW hs aab) ?_))));rintro _ w ⟨bo,mo,rfl,hs⟩;refine .z zm (.z zm (.z zm (.z (zbd [_,_,_] wg) (.o (.call call42 rfl (tq hs aab hA' bw (by rw [Up];exact hWL k RY) hn hd hk) ?_)))));rintro _ w ⟨H4,t,gz,rfl,VH,hs⟩;rw [Up] at VH;have Kh:=aN.trans (bA.trans gz);refine .o (.alloc hs oe rfl fun wj w hs=>?_);refine .o (.aL (vs:=[_,_,_,_,_,_]) hs rfl rfl fJ fun w hs=>?_);refine .nil (.af (.z (zfa qU) (.y hs (zld isAgg57) (.z gv (.z zm (.G2 (t':=53) rfl (fun KC=>?_) (fun KC=>?_)))))))
  ·refine .Fs 4 3 false (.zn zpT (.cT (.region (.z zm (.z (zfa bM) (.y hs (zls [_,_] cj bk) (.o (.buildSlice (cells:=[I (evG E k).off,I (evG E k).seq]) hs dR rfl aF fun Yy w hs=>?_))))))));refine .o (.append (ys:=[I (evG E k).off,I (evG E k).seq]) hs bP rfl rfl hO (.own cg rfl rfl) (by simp [Value.oneCell']) (fun l h=>by rw [Bu] at h;omega) ?_);intro v63 en63 w hO hs;refine .zn zg (nB (nT ?_));have hS:G7 c day t0 (Lw k):=(G7.iff VH).2 (.inl (by simpa using KC));exact .mk ⟨H4,v63,en63,qs++[atP (evG E k)],Kh,by rw [List.map_append,List.flatten_append];exact hO,by simp;omega,hq.yes hS,rfl,hs.sb⟩
  ·refine .T (.z (zfa qV) (.T (.y hs (zls [_,_,_,_] Y7 jP) (.T (.y hs (zls [_,_,_,_] Y7 jP) (.T ?_))))));refine .q hs (Gl rfl rfl runUnderlying56 aF aF cR cR F6 om cD aF (fun f hf=>by
    simp only [List.mem_cons,List.not_mem_nil,or_false] at hf
    rcases hf with rfl|rfl<;>exact ⟨by decide,aJ,aj⟩)).2 ?_
   refine .zn zpF (.cond rfl (fun s6=>?_) (fun s6=>?_))
   ·refine .region (.z zm (.z (zfa bM) (.y hs (zls [_,_] cj bk) (.o (.buildSlice (cells:=[I (evG E k).off,I (evG E k).seq]) hs dR rfl aF fun Yy w hs=>?_)))));refine .o (.append (ys:=[I (evG E k).off,I (evG E k).seq]) hs bP rfl rfl hO (.own cg rfl rfl) (by simp [Value.oneCell']) (fun l h=>by rw [Bu] at h;omega) ?_);intro v63 en63 w hO hs;refine .zn zg (nB (nT ?_));have hS:G7 c day t0 (Lw k):=(G7.iff VH).2 (.inr (of_decide_eq_false ((Bool.not_eq_true' _).mp s6)));exact .mk ⟨H4,v63,en63,qs++[atP (evG E k)],Kh,by rw [List.map_append,List.flatten_append];exact hO,by simp;omega,hq.yes hS,rfl,hs.sb⟩
   ·refine .skip (nB (nT ?_));have hS:¬G7 c day t0 (Lw k):=fun h=>by
     rcases (G7.iff VH).1 h with g|g
     ·exact g (by simpa using KC)
     ·exact g (of_decide_eq_true ((Bool.not_eq_false' _).mp s6))
    exact .mk ⟨H4,v12,en,qs,Kh,hO,ak,hq.no hS,rfl,hs.sb⟩
 ·rintro fr w ⟨H2,v12,en,qs,aN,hO,Zp,hq,rfl,hs⟩;obtain ⟨H3,bA,IZ,hs⟩:=bE.bG (m:=2) hO (SM _) ak (by rw [List.length_map];omega) hs .here;exact nT (.af (.z zm (.z zg (.zn zg (.ret (Fin.mh results12 rfl rfl ⟨H3,v12,qs,aN.trans bA,rfl,IZ,hq,hs.out⟩))))))
end Go.Proofs.YtfnfiekkdpphjaaGreat
