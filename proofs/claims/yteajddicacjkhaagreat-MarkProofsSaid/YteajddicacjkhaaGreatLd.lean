/-
  Texts of these claims, joined: Ze Zf Zg Zh Zi Zj Zk Zl Zm Zn Zo Zp Zv Zx Zy Zz Na Nf Ni Nj No Nq Ns Nt Nv Nx.
-/
import Derived.Test.YteajddicacjkhaaGreatLc
namespace Go.Proofs.YteajddicacjkhaaGreat
open Go.MW Tryz
variable{H:bG}{σ:List Ent}{a0 a1 a2 b x most a hi lo f d e:Int}{l:Lns}{ls:List Lim}{g k bf bt bl cl i bm:Nat}{cap sp:List Value}{s:Srv}{xs ts lf ws L X Y ks dm:List Int}{en:Ent}{vl vt vp vw vb vx v1 v2 bV bS vr vc vh vs v5 v4 fJ vn vg:Value}{m:Rng}{us:List Use}{t:TD}{rows:List (List Int)}{high:Bool}{P:Program}{ss:List Ssn}
theorem bA{w:World}(hs:St H w σ):Z4 164 [I a0,I a1,I a2] w fun v w'=>v= .bool (decide (a1≤a0∧a0≤a2))∧St H w' σ:=by
 refine Cl.o func164 ntmps164 ag3 ?_;refine .ae (.zn zg (.ae (.z zm (.z zm (.z sY (.z zm (.iY (t':=10) rfl (fun sH=>?_) (fun sH=>?_))))))))
 ·exact .T (.z zm (.T (.z zm (.T (.z sY (.z zpT (.zn zg (.ret (Fin.bw results164 rfl ⟨by simp [*],hs.out⟩)))))))))
 ·exact .Fs 3 3 true (.z zpF (.zn zg (.ret (Fin.bw results164 rfl ⟨by simp [*],hs.out⟩))))
theorem jb{w:World}(hs:St H w σ):Z4 165 [I a0] w fun v w'=>v= .bool (decide (1≤a0∧a0≤99999))∧St H w' σ:=by
 refine Cl.o func165 ntmps165 ag1 ?_;refine .ae (.zn zg (.ae (.z zm (.o (.call iS rfl (bA hs) ?_)))));rintro _ w ⟨rfl,hs⟩;exact .zn zg (.ret (Fin.bw results165 rfl ⟨rfl,hs⟩))
theorem fq{w:World}{s:Spc}(hs:St H w σ)(h1:RI H bV s.st)(h2:RI H bS s.wa):
  Z4 111 [.agg #[I s.id,I s.src,bV,bS,I s.al,I s.up]] w fun v w'=>∃H1 e,HLe H H1∧v=I e∧((eZ s∧e=0)∨(¬eZ s∧e=30))∧St H1 w' σ:=by
 obtain ⟨gQ,gO,rfl⟩:=RI.shape h1;obtain ⟨gy,gw,rfl⟩:=RI.shape h2;refine Cl.o func111 ntmps111 ag1 ?_;refine .ae (.bx hs fun b1 w hs=>?_);refine .zn zg (.seq (.ae (.z (zfa bE) (.y hs (zld an) (.z (zfa aZ) (.y hs (zld an) (.o (.call call163 rfl (pW hs h1 h2) ?_))))))));rintro _ w ⟨H1,vo,e,aq,rfl,hG,hG',hs⟩;refine .z zm (.z zex (.z zex (.z zg (.zn zg (.ae (.z zm (.z ez (.z zm (.Eo (t':=15) rfl (fun DB=>?_) (fun DB=>?_))))))))))
 ·exact .Fs 4 2 false (.z zpT (.z zm (.Fs 4 8 false (.z zpT (.z zm (.Fs 5 14 false (.z zpT (.z zm (.Fs 5 21 false (.zn zpT (.cT (.ae (.zn zg (.ret (rT (Fin.bw Nz rfl ⟨H1,_,aq,rfl,.inr ⟨fun h=>by have:=(hG ⟨h.st,h.wa⟩).1;simp_all,rfl⟩,hs.out⟩))))))))))))))))
 ·refine .T (.z (zfa Af) (.T (.y hs (zld aj) (.T (.o (.call iS rfl (bA hs) ?_))))));rintro _ w ⟨rfl,hs⟩;refine .T (.z ia (.z zpF (.z zm (.bif (t':=21) rfl (fun yZ=>?_) (fun yZ=>?_)))))
  ·exact .Fs 4 8 false (.z zpT (.z zm (.Fs 5 14 false (.z zpT (.z zm (.Fs 5 21 false (.zn zpT (.cT (.ae (.zn zg (.ret (rT (Fin.bw Nz rfl ⟨H1,_,aq,rfl,.inr ⟨fun h=>by have:=h.id;simp_all,rfl⟩,hs.out⟩)))))))))))))
  ·refine .T (.z (zfa ep) (.T (.y hs (zld aj) (.T (.o (.call call165 rfl (jb hs) ?_))))));rintro _ w ⟨rfl,hs⟩;refine .T (.z ia (.z zpF (.z zm (.bif (t':=27) rfl (fun tM=>?_) (fun tM=>?_)))))
   ·exact .Fs 5 14 false (.z zpT (.z zm (.Fs 5 21 false (.zn zpT (.cT (.ae (.zn zg (.ret (rT (Fin.bw Nz rfl ⟨H1,_,aq,rfl,.inr ⟨fun h=>by have:=h.src;simp_all,rfl⟩,hs.out⟩))))))))))
   ·refine .T (.z (zfa gE) (.T (.z (zfa oL) (.T (.y hs (zld aj) (.T (.o (.call iS rfl (bA hs) ?_))))))));rintro _ w ⟨rfl,hs⟩;refine .T (.z ia (.z zpF (.z zm (.bif (t':=34) rfl (fun Xa=>?_) (fun Xa=>?_)))))
    ·exact .Fs 5 21 false (.zn zpT (.cT (.ae (.zn zg (.ret (rT (Fin.bw Nz rfl ⟨H1,_,aq,rfl,.inr ⟨fun h=>by have:=h.al;simp_all,rfl⟩,hs.out⟩)))))))
    ·refine .T (.z (zfa gE) (.T (.z (zfa oK) (.T (.y hs (zld aj) (.T (.o (.call iS rfl (bA hs) ?_))))))));rintro _ w ⟨rfl,hs⟩;refine .T (.z ia (.zn zpF (.cond rfl (fun yS=>?_) (fun yS=>?_))))
     ·exact .ae (.zn zg (.ret (rT (Fin.bw Nz rfl ⟨H1,_,aq,rfl,.inr ⟨fun h=>by have:=h.up;simp_all,rfl⟩,hs.out⟩))))
     ·refine .skip (nT (.ae (.zn zg (.ret (Fin.bw Nz rfl ?_)))));have hg:=hG' (by simp_all);exact ⟨H1,_,aq,rfl,.inl ⟨⟨hg.1,hg.2,by simp_all,by simp_all,by simp_all,by simp_all⟩,rfl⟩,hs.out⟩
theorem kG{w:World}{s:Spc}{r:Rdg}(hs:St H w σ)(h1:RI H bV s.st)(h2:RI H bS s.wa):
  Z4 120 [.agg #[I s.id,I s.src,bV,bS,I s.al,I s.up],.agg #[I r.src,I r.st,I r.wa,I r.val,I r.tol,I r.tape,I r.day]] w fun v w'=>∃b:Bool,v= .bool b∧(b=true↔lZ s r)∧St H w' σ:=by
 obtain ⟨gQ,gO,rfl⟩:=RI.shape h1;obtain ⟨gy,gw,rfl⟩:=RI.shape h2;have l1:=(RI.len h1).2.2;have l2:=(RI.len h2).2.2;refine Cl.o func120 ntmps120 ag2 ?_;refine .ae (.bx hs fun b2 w hs=>?_);refine .bx hs fun b3 w hs=>?_
 refine .zn zg (.ae (.z (zfa iK) (.y hs (zld aj) (.o (.call call165 rfl (jb hs) ?_)))));rintro _ w ⟨rfl,hs⟩;refine .z zm (.bif (t':=8) rfl (fun Od=>?_) (fun Od=>?_))
 ·refine .T ?_;refine .z (zfa iJ) (.T (.y hs (zld aj) (.T (.z (zfa bE) (.T (.y hs (zld an) (.T (.z (de af) (.T (.z iX (.T (.o (.call iS rfl (bA hs) ?_)))))))))))));rintro _ w ⟨rfl,hs⟩;refine .z zpT (.z zm (.bif (t':=17) rfl (fun Ac=>?_) (fun Ac=>?_)))
  ·refine .T ?_;refine .z (zfa iI) (.T (.y hs (zld aj) (.T (.z (zfa aZ) (.T (.y hs (zld an) (.T (.z (de af) (.T (.z iX (.T (.o (.call iS rfl (bA hs) ?_)))))))))))));rintro _ w ⟨rfl,hs⟩;refine .z zpT (.z zm (.bif (t':=26) rfl (fun P7=>?_) (fun P7=>?_)))
   ·refine .T (.z (zfa dE) (.T (.y hs (zld aj) (.T (.o (.call iS rfl (bA hs) ?_))))));rintro _ w ⟨rfl,hs⟩;refine .z zpT (.z zm (.bif (t':=31) rfl (fun Km=>?_) (fun Km=>?_)))
    ·refine .T (.z (zfa fi) (.T (.y hs (zld aj) (.T (.z (zfa dE) (.T (.y hs (zld aj) (.T ?_))))))));have ht:0≤r.tol∧r.tol≤1000:=by simp_all
     refine .z iX (.T (.o (.call iS rfl (bA hs) ?_)));rintro _ w ⟨rfl,hs⟩;refine .z zpT (.z zm (.bif (t':=39) rfl (fun Kl=>?_) (fun Kl=>?_)))
     ·refine .T (.z (zfa fh) (.T (.y hs (zld aj) (.T (.o (.call iS rfl (bA hs) ?_))))));rintro _ w ⟨rfl,hs⟩;refine .z zpT (.z zm (.bif (t':=44) rfl (fun HW=>?_) (fun HW=>?_)))
      ·refine .T (.z (zfa fg) (.T (.y hs (zld aj) (.T (.o (.call iS rfl (bA hs) ?_))))));rintro _ w ⟨rfl,hs⟩;refine .z zpT (.zn zg (.ret (Fin.bw CN rfl ?_)));first
       |exact ⟨false,rfl,⟨fun h=>(by cases h),fun h=>(by obtain ⟨g1,g2,g3,g4,g5,g6,g7⟩:=h;simp_all;done)⟩,hs.out⟩
       |exact ⟨_,rfl,⟨fun h=>⟨by simp_all,by simp_all,by simp_all,by simp_all,by simp_all,by simp_all,by simpa using h⟩,fun h=>by simpa using h.day⟩,hs.out⟩
      ·refine .Fs 3 39 true (.z zpF (.zn zg (.ret (Fin.bw CN rfl ?_))));first
       |exact ⟨false,rfl,⟨fun h=>(by cases h),fun h=>(by obtain ⟨g1,g2,g3,g4,g5,g6,g7⟩:=h;simp_all;done)⟩,hs.out⟩
       |exact ⟨_,rfl,⟨fun h=>⟨by simp_all,by simp_all,by simp_all,by simp_all,by simp_all,by simp_all,by simpa using h⟩,fun h=>by simpa using h.day⟩,hs.out⟩
     ·refine .Fs 3 34 true (.z zpF (.z zm (.Fs 3 39 true (.z zpF (.zn zg (.ret (Fin.bw CN rfl ?_)))))));first
      |exact ⟨false,rfl,⟨fun h=>(by cases h),fun h=>(by obtain ⟨g1,g2,g3,g4,g5,g6,g7⟩:=h;simp_all;done)⟩,hs.out⟩
      |exact ⟨_,rfl,⟨fun h=>⟨by simp_all,by simp_all,by simp_all,by simp_all,by simp_all,by simp_all,by simpa using h⟩,fun h=>by simpa using h.day⟩,hs.out⟩
    ·refine .Fs 6 26 true (.z zpF (.z zm (.Fs 3 34 true (.z zpF (.z zm (.Fs 3 39 true (.z zpF (.zn zg (.ret (Fin.bw CN rfl ?_))))))))));first
     |exact ⟨false,rfl,⟨fun h=>(by cases h),fun h=>(by obtain ⟨g1,g2,g3,g4,g5,g6,g7⟩:=h;simp_all;done)⟩,hs.out⟩
     |exact ⟨_,rfl,⟨fun h=>⟨by simp_all,by simp_all,by simp_all,by simp_all,by simp_all,by simp_all,by simpa using h⟩,fun h=>by simpa using h.day⟩,hs.out⟩
   ·refine .Fs 3 21 true (.z zpF (.z zm (.Fs 6 26 true (.z zpF (.z zm (.Fs 3 34 true (.z zpF (.z zm (.Fs 3 39 true (.z zpF (.zn zg (.ret (Fin.bw CN rfl ?_)))))))))))));first
    |exact ⟨false,rfl,⟨fun h=>(by cases h),fun h=>(by obtain ⟨g1,g2,g3,g4,g5,g6,g7⟩:=h;simp_all;done)⟩,hs.out⟩
    |exact ⟨_,rfl,⟨fun h=>⟨by simp_all,by simp_all,by simp_all,by simp_all,by simp_all,by simp_all,by simpa using h⟩,fun h=>by simpa using h.day⟩,hs.out⟩
  ·refine .Fs 7 12 true (.z zpF (.z zm (.Fs 3 21 true (.z zpF (.z zm (.Fs 6 26 true (.z zpF (.z zm (.Fs 3 34 true (.z zpF (.z zm (.Fs 3 39 true (.z zpF (.zn zg (.ret (Fin.bw CN rfl ?_))))))))))))))));first
   |exact ⟨false,rfl,⟨fun h=>(by cases h),fun h=>(by obtain ⟨g1,g2,g3,g4,g5,g6,g7⟩:=h;simp_all;done)⟩,hs.out⟩
   |exact ⟨_,rfl,⟨fun h=>⟨by simp_all,by simp_all,by simp_all,by simp_all,by simp_all,by simp_all,by simpa using h⟩,fun h=>by simpa using h.day⟩,hs.out⟩
 ·refine .Fs 7 3 true (.z zpF (.z zm (.Fs 7 12 true (.z zpF (.z zm (.Fs 3 21 true (.z zpF (.z zm (.Fs 6 26 true (.z zpF (.z zm (.Fs 3 34 true (.z zpF (.z zm (.Fs 3 39 true (.z zpF (.zn zg (.ret (Fin.bw CN rfl ?_)))))))))))))))))));first
  |exact ⟨false,rfl,⟨fun h=>(by cases h),fun h=>(by obtain ⟨g1,g2,g3,g4,g5,g6,g7⟩:=h;simp_all;done)⟩,hs.out⟩
  |exact ⟨_,rfl,⟨fun h=>⟨by simp_all,by simp_all,by simp_all,by simp_all,by simp_all,by simp_all,by simpa using h⟩,fun h=>by simpa using h.day⟩,hs.out⟩
theorem pD{w:World}{c:Cmp}(hs:St H w σ):
  Z4 170 [.agg #[I c.src,I c.tape,I c.fr,I c.to,I c.lo,I c.hi]] w fun v w'=>∃b:Bool,v= .bool b∧(b=true↔vS c)∧St H w' σ:=by
 refine Cl.o func170 ntmps170 ag1 ?_;refine .ae (.bx hs fun b1 w hs=>?_);refine .zn zg (.ae (.z (zfa jL) (.y hs (zld aj) (.o (.call call165 rfl (jb hs) ?_)))));rintro _ w ⟨rfl,hs⟩;refine .z zm (.bif (t':=6) rfl (fun Oe=>?_) (fun Oe=>?_))
 ·refine .T (.z (zfa lU) (.T (.y hs (zld aj) (.T (.o (.call iS rfl (bA hs) ?_))))));rintro _ w ⟨rfl,hs⟩;refine .z zpT (.z zm (.bif (t':=11) rfl (fun y0=>?_) (fun y0=>?_)))
  ·refine .T (.z (zfa lT) (.T (.y hs (zld aj) (.T (.z (zfa jK) (.T (.y hs (zld aj) (.T (.o (.call iS rfl (bA hs) ?_))))))))));rintro _ w ⟨rfl,hs⟩;refine .z zpT (.z zm (.bif (t':=18) rfl (fun Kq=>?_) (fun Kq=>?_)))
   ·refine .T (.z (zfa jK) (.T (.y hs (zld aj) (.T (.o (.call iS rfl (bA hs) ?_))))));rintro _ w ⟨rfl,hs⟩;refine .z zpT (.z zm (.bif (t':=23) rfl (fun yY=>?_) (fun yY=>?_)))
    ·refine .T (.z (zfa lS) (.T (.y hs (zld aj) (.T (.z (zfa jJ) (.T (.y hs (zld aj) (.T (.o (.call iS rfl (bA hs) ?_))))))))));rintro _ w ⟨rfl,hs⟩;refine .z zpT (.z zm (.bif (t':=30) rfl (fun Xb=>?_) (fun Xb=>?_)))
     ·refine .T (.z (zfa jJ) (.T (.y hs (zld aj) (.T (.o (.call iS rfl (bA hs) ?_))))));rintro _ w ⟨rfl,hs⟩;refine .z zpT (.zn zg (.ret (Fin.bw Nw rfl ?_)));first
      |exact ⟨false,rfl,⟨fun h=>(by cases h),fun h=>(by obtain ⟨g1,g2,g3,g4,g5,g6⟩:=h;simp_all;omega)⟩,hs.out⟩
      |exact ⟨false,rfl,⟨fun h=>(by cases h),fun h=>(by obtain ⟨g1,g2,g3,g4,g5,g6⟩:=h;simp_all;done)⟩,hs.out⟩
      |exact ⟨_,rfl,⟨fun h=>⟨by simp_all,by simp_all,by simp_all,by simp_all,by simp_all,(by simpa using h:_∧_).2⟩,fun h=>by have:=h.lo;have:=h.hi;simp;omega⟩,hs.out⟩
     ·refine .Fs 3 27 true (.z zpF (.zn zg (.ret (Fin.bw Nw rfl ?_))));first
      |exact ⟨false,rfl,⟨fun h=>(by cases h),fun h=>(by obtain ⟨g1,g2,g3,g4,g5,g6⟩:=h;simp_all;omega)⟩,hs.out⟩
      |exact ⟨false,rfl,⟨fun h=>(by cases h),fun h=>(by obtain ⟨g1,g2,g3,g4,g5,g6⟩:=h;simp_all;done)⟩,hs.out⟩
      |exact ⟨_,rfl,⟨fun h=>⟨by simp_all,by simp_all,by simp_all,by simp_all,by simp_all,(by simpa using h:_∧_).2⟩,fun h=>by have:=h.lo;have:=h.hi;simp;omega⟩,hs.out⟩
    ·refine .Fs 5 20 true (.z zpF (.z zm (.Fs 3 27 true (.z zpF (.zn zg (.ret (Fin.bw Nw rfl ?_)))))));first
     |exact ⟨false,rfl,⟨fun h=>(by cases h),fun h=>(by obtain ⟨g1,g2,g3,g4,g5,g6⟩:=h;simp_all;omega)⟩,hs.out⟩
     |exact ⟨false,rfl,⟨fun h=>(by cases h),fun h=>(by obtain ⟨g1,g2,g3,g4,g5,g6⟩:=h;simp_all;done)⟩,hs.out⟩
     |exact ⟨_,rfl,⟨fun h=>⟨by simp_all,by simp_all,by simp_all,by simp_all,by simp_all,(by simpa using h:_∧_).2⟩,fun h=>by have:=h.lo;have:=h.hi;simp;omega⟩,hs.out⟩
   ·refine .Fs 3 15 true (.z zpF (.z zm (.Fs 5 20 true (.z zpF (.z zm (.Fs 3 27 true (.z zpF (.zn zg (.ret (Fin.bw Nw rfl ?_))))))))));first
    |exact ⟨false,rfl,⟨fun h=>(by cases h),fun h=>(by obtain ⟨g1,g2,g3,g4,g5,g6⟩:=h;simp_all;omega)⟩,hs.out⟩
    |exact ⟨false,rfl,⟨fun h=>(by cases h),fun h=>(by obtain ⟨g1,g2,g3,g4,g5,g6⟩:=h;simp_all;done)⟩,hs.out⟩
    |exact ⟨_,rfl,⟨fun h=>⟨by simp_all,by simp_all,by simp_all,by simp_all,by simp_all,(by simpa using h:_∧_).2⟩,fun h=>by have:=h.lo;have:=h.hi;simp;omega⟩,hs.out⟩
  ·refine .Fs 5 8 true (.z zpF (.z zm (.Fs 3 15 true (.z zpF (.z zm (.Fs 5 20 true (.z zpF (.z zm (.Fs 3 27 true (.z zpF (.zn zg (.ret (Fin.bw Nw rfl ?_)))))))))))));first
   |exact ⟨false,rfl,⟨fun h=>(by cases h),fun h=>(by obtain ⟨g1,g2,g3,g4,g5,g6⟩:=h;simp_all;omega)⟩,hs.out⟩
   |exact ⟨false,rfl,⟨fun h=>(by cases h),fun h=>(by obtain ⟨g1,g2,g3,g4,g5,g6⟩:=h;simp_all;done)⟩,hs.out⟩
   |exact ⟨_,rfl,⟨fun h=>⟨by simp_all,by simp_all,by simp_all,by simp_all,by simp_all,(by simpa using h:_∧_).2⟩,fun h=>by have:=h.lo;have:=h.hi;simp;omega⟩,hs.out⟩
 ·refine .Fs 3 3 true (.z zpF (.z zm (.Fs 5 8 true (.z zpF (.z zm (.Fs 3 15 true (.z zpF (.z zm (.Fs 5 20 true (.z zpF (.z zm (.Fs 3 27 true (.z zpF (.zn zg (.ret (Fin.bw Nw rfl ?_))))))))))))))));first
  |exact ⟨false,rfl,⟨fun h=>(by cases h),fun h=>(by obtain ⟨g1,g2,g3,g4,g5,g6⟩:=h;simp_all;omega)⟩,hs.out⟩
  |exact ⟨false,rfl,⟨fun h=>(by cases h),fun h=>(by obtain ⟨g1,g2,g3,g4,g5,g6⟩:=h;simp_all;done)⟩,hs.out⟩
  |exact ⟨_,rfl,⟨fun h=>⟨by simp_all,by simp_all,by simp_all,by simp_all,by simp_all,(by simpa using h:_∧_).2⟩,fun h=>by have:=h.lo;have:=h.hi;simp;omega⟩,hs.out⟩
theorem nP{w:World}{s:Spc}(hs:St H w σ)(h1:RI H bV s.st)(h2:RI H bS s.wa)(hb:s.st.length≤1000∧s.wa.length≤1000):
  Z4 196 [.agg #[I s.id,I s.src,bV,bS,I s.al,I s.up]] w fun v w'=>v=I (s.many:Int)∧St H w' σ:=by
 obtain ⟨gQ,gO,rfl⟩:=RI.shape h1;obtain ⟨gy,gw,rfl⟩:=RI.shape h2;have hm:=ni (a:=(s.st.length:Int)) (b:=(s.wa.length:Int)) (A:=1000) (B:=1000) ai ai;refine Cl.o func196 ntmps196 ag1 ?_;refine .ae (.bx hs fun b1 w hs=>?_);exact .zn zg (.ae (.z (zfa bE) (.y hs (zld an) (.z (de af) (.z (zfa aZ) (.y hs (zld an) (.z (de af) (.z mV (.zn zg (.ret (Fin.bw results196 rfl ⟨by unfold Spc.many;rw [Int.natCast_mul],hs.out⟩)))))))))))
theorem rb{w:World}{s:Spc}(hs:St H w σ)(h2:RI H bS s.wa)(hb:s.wa.length≤1000)(ha: -1000≤a∧a≤1000)(hb': -1000≤b∧b≤1000):
  Z4 247 [.agg #[I s.id,I s.src,bV,bS,I s.al,I s.up],I a,I b] w fun v w'=>v=I (1+a*s.wa.length+b)∧St H w' σ:=by
 obtain ⟨gy,gw,rfl⟩:=RI.shape h2;have hm:=ni (a:=a) (b:=(s.wa.length:Int)) (A:=1000) (B:=1000) ai ai;refine Cl.o func247 ntmps247 ag3 ?_;refine .ae (.bx hs fun b3 w hs=>?_);exact .zn zg (.ae (.z zm (.z (zfa aZ) (.y hs (zld an) (.z (de af) (.z mV (.z cD (.z zm (.z cD (.zn zg (.ret (Fin.bw results247 rfl ⟨rfl,hs.out⟩))))))))))))
theorem jQ{w:World}{r:Rdg}(hs:St H w σ):
  Z4 241 [.agg #[I r.src,I r.st,I r.wa,I r.val,I r.tol,I r.tape,I r.day]] w fun v w'=>v= .agg #[I r.tape,I r.day]∧St H w' σ:=by
 refine Cl.o func241 ntmps241 ag1 ?_;refine .ae (.bx hs fun b1 w hs=>?_);refine .o (.alloc hs uE rfl fun b2 w hs=>?_);refine .nil (.ae (.z (zfa fh) (.y hs (zld aj) (.z (zfa fg) (.y hs (zld aj) (.z (zbd [_,_] jh) (.o (.aE (vs:=[_,_]) hs rfl rfl cZ fun w hs=>?_))))))));exact .nil (.ret (Fin.hZ [] [] hs fun w hs=>⟨_,results1 results241 (cN (vs:=[_,_]) hs rfl jo cZ),rfl,hs.out⟩))
theorem nQ{w:World}(hs:St H w σ)(ha:0≤a∧a≤100000)(hb:0≤b∧b≤100000):
  Z4 243 [I a,I b] w fun v w'=>v=I (lQ a b)∧St H w' σ:=by
 have hm:=ni (a:=a) (b:=b) (A:=100000) (B:=100000) ai ai;have h0:=Int.mul_nonneg ha.1 hb.1;have MJ:0≤(a*b+999).tdiv 1000:=Int.tdiv_nonneg ai ai;have NU:(a*b+999).tdiv 1000≤a*b+999:=by rw [Int.tdiv_eq_ediv_of_nonneg ai];omega
 refine Cl.o func243 ntmps243 ag2 ?_;exact .ae (.zn zg (.ae (.z zm (.z zm (.z mV (.z cD (.q hs (wg rfl rfl ai ai) (.z G5 (.zn zg (.ret (Fin.bw results243 rfl ⟨rfl,hs⟩)))))))))))
def zI(s:Spc):List (List Value):=(List.range s.many).map fun p=>[Value.agg #[I ((p/s.wa.length:Nat):Int),I ((p%s.wa.length:Nat):Int),I ((p+1:Nat):Int)]]
theorem dH(s:Spc):(zI s).length=s.many:=by simp [zI]
theorem np{s:Spc}{p:Nat}(h:p<(zI s).length):(zI s)[p]=[Value.agg #[I ((p/s.wa.length:Nat):Int),I ((p%s.wa.length:Nat):Int),I ((p+1:Nat):Int)]]:=by simp [zI]
theorem tk{b:Nat}{s:Spc}(hb:Row H b [I s.id,I s.src,bV,bS,I s.al,I s.up])(h1:RI H bV s.st)(h2:RI H bS s.wa)(zF:s.st.length≤1000∧s.wa.length≤1000):
  Iter Tryz.prog 188 [Pt b] H (zI s):=by
 intro ly II Ix E2 _ hy H0 FO σf w hle AT hs;obtain ⟨gQ,gO,rfl⟩:=RI.shape h1;obtain ⟨gy,gw,rfl⟩:=RI.shape h2;have g2:cellAt H0 b 2=some (.slice gQ s.st.length gO):=cellAt.mono (hb.at 2) hle;have g3:cellAt H0 b 3=some (.slice gy s.wa.length gw):=cellAt.mono (hb.at 3) hle;have hm:s.many≤1000000:=Nat.mul_le_mul zF.1 zF.2;refine Cl.o func188 ntmps188 ag2 ?_;refine .ae (.zn zg (.ae (.z (zfa bE) (.y hs (zld an) (.z (de af) (.zn zm (.for (N:=s.st.length) (J:=fun i fr w=>fr=[(3,I ((i*s.wa.length:Nat):Int)),(0,.func (.yield ly) #[] #[]),(1,Pt b)]∧∃H1 σb,HLe H H1∧HLe H0 H1∧II (i*s.wa.length) H1 σb∧St H1 w (σb++σf)) ai ?_ ?_ ?_)))))))
 ·exact .mk ⟨by rw [Nat.zero_mul],H0,FO,hle,HLe.refl _,by rw [Nat.zero_mul];exact AT,hs⟩
 ·rintro i fr w hi ⟨rfl,H1,σb,aq,eY,hI,hs⟩;have h23:=cellAt.mono g3 eY;refine .block (.ae (.z zm (.zn zg (.ae (.z (zfa aZ) (.y hs (zld an) (.z (de af) (.zn zm (.for (N:=s.wa.length) (J:=fun k fr w=>fr=[(3,I ((i*s.wa.length+k:Nat):Int)),(4,I (i:Int)),(9,I (i:Int)),(8,I (s.st.length:Int)),(0,.func (.yield ly) #[] #[]),(1,Pt b)]∧∃H3 σb,HLe H1 H3∧II (i*s.wa.length+k) H3 σb∧St H3 w (σb++σf)) ai ?_ ?_ ?_)))))))))
  ·exact .mk ⟨rfl,H1,σb,HLe.refl _,hI,hs⟩
  ·rintro k fr w hk ⟨rfl,H3,Lw,bJ,Kv,hs⟩;obtain ⟨d1,d2⟩:=Rp (nw:=s.wa.length) (i:=i) (k:=k) hk;have eX:=Yx hi hk;refine .block (.ae (.z zm (.zn zg (.ae (.z zm (.z cD (.zn zg (.ae (.z zm (.z zm (.z zm (.z zm (.z (zbd [_,_,_] ue) ?_)))))))))))));have pQ:i*s.wa.length+k<(zI s).length:=by rw [dH];exact eX
   have zE:=hy (i*s.wa.length+k) pQ H3 Lw σf w (aq.trans bJ) Kv hs;rw [np pQ,d1,d2,show ((i*s.wa.length+k+1:Nat):Int)=((i*s.wa.length+k:Nat):Int)+1 by omega] at zE;refine .o (.yield rfl rfl zE ?_);rintro v25 w ⟨H5,σ5,g1,hs,g3'⟩;obtain ⟨bb,rfl,gT,gF⟩:=pT g3';refine .zn ia (.cond rfl (fun jy=>?_) (fun jy=>?_))
   ·exact .ret (rB (rT (rB (rB (rT (rB (Fin.QR results188 ⟨H5,σ5,eY.trans (bJ.trans g1),hs,.inr (gF (by simpa using jy))⟩)))))))
   ·exact .skip (nB (nT (.mk ⟨rfl,H5,σ5,bJ.trans g1,gT (by simpa using jy),hs⟩)))
  ·rintro fr w ⟨rfl,H3,Lw,bJ,Kv,hs⟩;have e:i*s.wa.length+s.wa.length=(i+1)*s.wa.length:=by rw [Nat.add_mul,Nat.one_mul]
   rw [e] at Kv ⊢;exact nB (nT (.mk ⟨rfl,H3,Lw,aq.trans bJ,eY.trans bJ,Kv,hs⟩))
 ·rintro fr w ⟨rfl,H1,σb,aq,eY,hI,hs⟩;exact Fin.DS results188 ⟨H1,σb,eY,hs,.inl (by rw [dH];exact hI)⟩
theorem fb{w:World}{s:Spc}(hs:St H w σ)(h1:RI H bV s.st)(h2:RI H bS s.wa)(zF:s.st.length≤1000∧s.wa.length≤1000):
  Z4 131 [.agg #[I s.id,I s.src,bV,bS,I s.al,I s.up]] w fun u w'=>∃H1 b,HLe H H1∧u= .func (.func 188) #[] #[Pt b]∧Iter Tryz.prog 188 [Pt b] H1 (zI s)∧St H1 w' σ:=by
 obtain ⟨gQ,gO,rfl⟩:=RI.shape h1;obtain ⟨gy,gw,rfl⟩:=RI.shape h2;refine Cl.o func131 ntmps131 ag1 ?_;refine .ae (.bx hs fun b1 w hs=>?_);refine .zn zg (.ae (.q hs (dp (f:=[]) (c:=[_]) rfl rfl) (.zn zg (.ret (Fin.bw results131 rfl ?_)))));obtain ⟨H1,g1,g2,hs⟩:=hs.bZ .here;exact ⟨H1,b1,g1,rfl,tk g2 (h1.mono g1) (h2.mono g1) zF,hs⟩
set_option maxRecDepth 100000 in
theorem xr:Tryz.prog.stoodInHeld 162=false:=by kernel_rfl
set_option maxRecDepth 100000 in
theorem xt:Tryz.prog.eqGuardType Tryz.prog.depth 162=false:=by kernel_rfl
theorem sa{w:World}{v:Value}{xs:List TD}(q:TD→Bool)(hs:St H w (en::σ))(hO:cz 2 v (tdc xs).flatten en)(hl:xs.length≤1000000)(hc:∀args w,(callFunc g args).run Tryz.prog w= .ok (.enter g args) w)
  (hp:∀w (t:TD),St H w (en::σ)→Z4 g ([.agg #[I t.tape,I t.day]]++cap) w fun u w'=>u= .bool (q t)∧St H w' (en::σ)):
  Z4 276 [v,.func (.func g) #[] cap.toArray] w fun u w'=>∃i:Int,u=I i∧(0≤i↔∃x∈xs,q x=true)∧St H w' (en::σ):=by
 obtain ⟨a,c,rfl⟩:=hO.iG (rZ xs) ai;rw [eM] at hO ⊢;refine Cl.o func276 ntmps276 ag2 ?_;refine .ae (.zn zg (.seq (.ae (.z zm (.z (de bR) (.zn zm (.for (N:=xs.length) (J:=fun k fr w=>fr=[(1,.func (.func g) #[] cap.toArray),(0,.slice a xs.length c)]∧(∀j<k,∀y,xs[j]? =some y→¬q y=true)∧St H w (en::σ)) ai ?_ ?_ ?_)))))))
 ·exact .mk ⟨rfl,fun j hj=>by omega,hs⟩
 ·rintro k fr w hk ⟨rfl,fV,hs⟩;obtain ⟨x,hx⟩:=nth hk;obtain ⟨b,c',sp,hv,rfl,_⟩:=hO.Tz (rZ xs) ai (by rw [eM];omega);rw [eM] at hv;cases hv
  refine .block (.ae (.z zm (.zn zg (.ae (.z zm (.z zm (.z zm (.z (CO bR cZ) (.q hs (mD (vs:=x.c) rfl jo cZ .here (Ga (rZ xs) (IS hx) sp)) (.o (.qB (first:=[]) (cap:=cap) rfl rfl hc (hp _ x hs) ?_)))))))))));rintro _ w ⟨rfl,hs⟩;refine .nil (.cond rfl (fun dN=>?_) (fun dN=>?_))
  ·exact .ae (.z zm (.zn zg (.ret (rB (rT (rB (rT (Fin.bw results276 rfl ⟨_,rfl,⟨fun _=>⟨x,List.mem_of_getElem? hx,dN⟩,fun _=>by omega⟩,hs⟩))))))))
  ·exact .skip (nB (nT (.mk ⟨rfl,fY fV hx (by simpa using dN),hs⟩)))
 ·rintro fr w ⟨rfl,fV,hs⟩;refine nT (.ae (.zn zg (.ret (Fin.bw results276 rfl ?_))));exact ⟨_,rfl,⟨fun h=>by omega,fun ⟨x,h1,h2⟩=>by
   obtain ⟨j,hj⟩:=List.getElem?_of_mem h1;exact (fV j (List.getElem?_eq_some_iff.1 hj).1 x hj h2).elim⟩,hs⟩
theorem pA{w:World}{v:Value}{xs:List TD}(q:TD→Bool)(hs:St H w (en::σ))(hO:cz 2 v (tdc xs).flatten en)(hl:xs.length≤1000000)(hc:∀args w,(callFunc g args).run Tryz.prog w= .ok (.enter g args) w)
  (hp:∀w (t:TD),St H w (en::σ)→Z4 g ([.agg #[I t.tape,I t.day]]++cap) w fun u w'=>u= .bool (q t)∧St H w' (en::σ)):
  Z4 239 [v,.func (.func g) #[] cap.toArray] w fun u w'=>∃b:Bool,u= .bool b∧(b=true↔∃x∈xs,q x=true)∧St H w' (en::σ):=by
 refine Cl.o func239 ntmps239 ag2 ?_;refine .ae (.zn zg (.ae (.z zm (.z zm (.o (.call call276 rfl (sa q hs hO hl hc hp) ?_))))));rintro _ w ⟨i,rfl,hi,hs⟩;exact .z Ct (.zn zg (.ret (Fin.bw results239 rfl ⟨_,rfl,by simp only [decide_eq_true_eq];exact hi,hs⟩)))
theorem yb{w:World}{v:Value}{xs:List TD}(hs:St H w σ)(hr:RTd H v xs)(hl:xs.length≤1000000):
  Z4 246 [v,.agg #[I t.tape,I t.day]] w fun u w'=>u=I (lH xs t)∧St H w' σ:=by
 obtain ⟨a,c,rfl⟩:=RTd.shape hr;refine Cl.o func246 ntmps246 ag2 ?_;refine .ae (.bx hs fun b3 w hs=>?_);refine .zn zg (.seq (.ae (.z zm (.z (de bR) (.zn zm (.for (N:=xs.length) (J:=fun k fr w=>fr=[(0,.slice a xs.length c),(3,Pt b3)]∧(∀j<k,∀y,xs[j]? =some y→¬y=t)∧St H w (.blk b3 [I t.tape,I t.day]::σ)) ai ?_ ?_ ?_))))))
 ·exact .mk ⟨rfl,fun j hj=>by omega,hs⟩
 ·rintro k fr w hk ⟨rfl,fV,hs⟩;obtain ⟨x,hx⟩:=nth hk;refine .block (.ae (.z zm (.zn zg (.seq (.draw mix rfl hs fun w hs=>?_)))));refine .ys 0 rfl hs [_,_] jo cZ ?_;refine .z 1 rfl zm ?_;refine .z 2 rfl zm ?_;refine .ixX (enc:=TD.c) (i:=3) hs rfl az .none hr rfl rfl bR cZ hx dG ?_;intro ka o14 js;refine .r (i:=4) hs rfl az .none (bH (vs:=x.c) rfl jo cZ js) ?_;refine .z 5 rfl (C4 xr xt mq (fun f hf=>by
   simp only [List.mem_cons,List.not_mem_nil,or_false] at hf
   rcases hf with rfl|rfl<;>exact ⟨by decide,bF,aj⟩) rfl rfl) ?_
  refine .D hs (.cond rfl (fun dN=>?_) (fun dN=>?_))
  ·refine .ae (.z zm (.zn zg (.ret (rB (rT (rB (rT (Fin.bw results246 rfl ?_))))))));have e:x=t:=LI.1 (by have:=of_decide_eq_true dN;exact ⟨this.1.symm,this.2.symm⟩);subst e;exact ⟨by rw [s7 hx fun j hj h=>fV j hj _ h rfl],hs.tail⟩
  ·exact .skip (nB (nT (.mk ⟨rfl,fY fV hx (fun e=>by subst e;simp at dN),hs⟩)))
 ·rintro fr w ⟨rfl,fV,hs⟩;exact nT (.ae (.zn zg (.ret (Fin.bw results246 rfl ⟨by rw [Bk fV],hs.tail⟩))))
theorem re{w:World}{r:Rdg}{b:Nat}(hs:St H w σ)(hb:Row H b r.c):
  Z4 240 [.agg #[I t.tape,I t.day],Pt b] w fun u w'=>u= .bool (decide (t=r.td))∧St H w' σ:=by
 have Em:bN H b 0 r.c:=hb.cells 0 r.c;refine Cl.o func240 ntmps240 ag2 ?_;refine .ae (.bx hs fun b2 w hs=>?_);refine .zn zg (.seq (.draw mix rfl hs fun w hs=>?_));refine .ys 0 rfl hs [_,_] jo cZ ?_;refine .ys 1 rfl hs [_,_,_,_,_,_,_] kF bD ?_;refine .E 2 hs ?_;refine .call call241 rfl (jQ hs) ?_;rintro _ w ⟨rfl,hs⟩;refine .go ?_;refine .z 3 rfl (C4 xr xt mq (fun f hf=>by
  simp only [List.mem_cons,List.not_mem_nil,or_false] at hf
  rcases hf with rfl|rfl<;>exact ⟨by decide,bF,aj⟩) rfl rfl) ?_
 refine .zw 4 rfl zg ?_;refine .D hs ?_;exact .ret (Fin.bw results240 rfl ⟨by congr 1;rw [decide_eq_decide];exact LI (t:=t) (u:=r.td),hs.tail⟩)
set_option maxHeartbeats 1000000 in
theorem uZ{w:World}(hs:St H w σ)(hr:RRd H vr s.rs)(hl:s.rs.length≤1000000):
  Z4 189 [.agg #[I s.sp.id,I s.sp.src,bV,bS,I s.sp.al,I s.sp.up,vr,vc]] w fun u w'=>∃H1 en,HLe H H1∧cz 2 u (tdc s.cC).flatten en∧St H1 w' (en::σ):=by
 obtain ⟨ar,cr,rfl⟩:=RRd.shape hr;refine Cl.o func189 ntmps189 ag1 ?_;refine .ae (.bx hs fun b1 w hs=>?_);refine .zn zg (.ae (.zn zg (.seq (.ae (.z (zfa bq) (.y hs (zld fT) (.z (de bn) (.zn zm (.for (N:=s.rs.length) (J:=fun k fr w=>∃vo en H1,fr=[(7,.slice ar s.rs.length cr),(3,vo)]∧HLe H H1∧cz 2 vo (tdc (aS (s.rs.take k))).flatten en∧St H1 w (en::σ)) ai ?_ ?_ ?_)))))))))
 ·exact .mk ⟨_,.nul,H,rfl,HLe.refl _,.nil 2 none,hs.tail.nul⟩
 ·rintro k fr w hk ⟨vo,en,H1,rfl,aq,hO,hs⟩;obtain ⟨r,hx⟩:=nth hk;have NS:=kW hx;have Cw:=my s.rs k ai;obtain ⟨ao,co,rfl⟩:=hO.iG (rZ _) ai;rw [eM] at hO ⊢;refine .block (.ae (.ixX (enc:=Rdg.c) hs (hr.mono aq) rfl rfl bn bD hx dG ?_));intro sO o11 mX;refine .q hs (bH (vs:=(Rdg.c r)) rfl kF bD mX) (.o (.alloc hs dZ rfl fun b5 w hs=>?_));refine .o (.aE (vs:=r.c) hs rfl rfl bD fun w hs=>?_);obtain ⟨H2,aQ,r5,hs⟩:=hs.bZ (b:=b5) (c:=r.c) .here;have c5:bN H2 b5 0 r.c:=r5.cells 0 r.c;refine .nil (.ae (.z zm (.q hs (dp (f:=[]) (c:=[_]) rfl rfl) (.o (.call call239 rfl (pA (g:=240) (cap:=[Pt b5]) (fun t=>decide (t=r.td)) hs hO ai call240 (fun w t hs=>re hs r5)) ?_)))));rintro _ w ⟨Ch,rfl,DB,hs⟩;refine .zn ia (.cond rfl (fun dN=>?_) (fun dN=>?_))
  ·refine .region (.z zm (.q hs (bH (vs:=r.c) rfl kF bD c5) (.o (.call call241 rfl (jQ (r:=r) hs) ?_))));rintro _ w ⟨rfl,hs⟩;refine .o (.buildSlice (cells:=[_,_]) hs jA rfl rfl fun IG w hs=>?_);refine .o (.append (ys:=r.td.c) hs eW rfl rfl hO (.own .here rfl rfl) (by simp [TD.c,Value.oneCell']) (fun l h=>by rw [bX _ (rZ _),eM] at h;omega) ?_);intro v21 en21 w eb hs;refine .zn zg (nB (nT ?_));have hn:r.td∉aS (s.rs.take k):=fun hm=>by
    rw [DB.2 ⟨_,hm,bB⟩] at dN;cases dN
   rw [←Bj,show aS (s.rs.take k)++[r.td]=aS (s.rs.take (k+1)) by rw [NS];unfold uo;rw [if_neg hn]] at eb;exact .mk ⟨_,_,H2,rfl,aq.trans aQ,eb,hs.sb⟩
  ·refine .skip (nB (nT ?_));have hm:r.td∈aS (s.rs.take k):=by
    obtain ⟨x,h1,h2⟩:=DB.1 (by simpa using dN);rw [←of_decide_eq_true h2];exact h1
   exact .mk ⟨_,_,H2,rfl,aq.trans aQ,by rw [NS];unfold uo;rw [if_pos hm];exact hO,hs⟩
 ·rintro fr w ⟨vo,en,H1,rfl,aq,hO,hs⟩;rw [List.take_length] at hO;exact nT (.ae (.z zm (.zn zg (.ret (Fin.bw results189 rfl ⟨H1,en,aq,hO,hs⟩)))))
theorem ti{w:World}(hs:St H w σ)(hr:RRd H vr s.rs)(hl:s.rs.length≤1000000):
  Z4 189 [.agg #[I s.sp.id,I s.sp.src,bV,bS,I s.sp.al,I s.sp.up,vr,vc]] w fun u w'=>∃H1,HLe H H1∧RTd H1 u s.cC∧St H1 w' σ:=by
 refine (uZ hs hr hl).mono ?_;rintro u w' ⟨H1,en,aq,hO,hs⟩;have Cw:=dD s.rs;have VC:s.cC.length≤1000000:=by unfold Srv.cC;omega
 obtain ⟨H2,aQ,hR,hs⟩:=cz.bZ (m:=2) hO (rZ _) ai (by rw [eM];omega) hs .here;exact ⟨H2,aq.trans aQ,hR,hs⟩
theorem iN{w:World}{x0 x1 x2 x3 x4 x5 x6 x7 x8:Value}{by_:Int}(hs:St H w (.blk bm [x0,x1,x2,x3,x4,x5,x6,x7,x8,vl]::en::σ))(hO:cz 4 vl (iL ls) en)(hl:ls.length≤100000):
  Z4 242 [Pt bm,I a,I b,I hi,I lo,I by_] w fun _ w'=>∃uM j9,cz 4 uM (iL (ls++two a b hi lo by_)) j9∧St H w' (.blk bm [x0,x1,x2,x3,x4,x5,x6,x7,x8,uM]::j9::σ):=by
 obtain ⟨al,ll,cl,rfl,h⟩:=hO.shape;refine Cl.of func242 rfl ntmps242 bB (dS (k:=0) rfl (dS (k:=1) rfl (dS (k:=2) rfl (dS (k:=3) rfl (dS (k:=4) rfl (dS (k:=5) rfl (Cj))))))) (.region (.z zm (.z zm (.z znc (.z (zfa kl) (.y hs (zld eL) (.z zm (.z zm (.z zm (.z zm (.z (zbd [_,_,_,_] eP) (.z zm (.z zm (.z zm (.z zm (.z (zbd [_,_,_,_] eP) (.o (.buildSlice (cells:=iL (two a b hi lo by_)) hs gx rfl az fun A3 w hs=>?_))))))))))))))))));refine .o (.append (ys:=iL (two a b hi lo by_)) hs cK rfl rfl hO (.own .here rfl rfl) (mR _) (fun l h=>by rw [fj] at h;omega) ?_);intro v28 en28 w eb hs;rw [←jk] at eb;obtain ⟨a28,l28,c28,rfl,h28⟩:=eb.shape;refine .z znc (.z (zfa kl) (.o (.store hs rfl rfl sizeOf175 fun w hs=>?_)));exact .nil (Fin.DS results242 ⟨_,_,eb,hs.sb⟩)
theorem mG{w:World}{s:Spc}{x6 x7 x8:Value}{j:Int}(hs:St H w σ)(hm:Mem σ (.blk bm [I s.id,I s.src,bV,bS,I s.al,I s.up,x6,x7,x8,vl]))(h1:RI H bV s.st)(h2:RI H bS s.wa)(hb:s.st.length≤1000∧s.wa.length≤1000)(hj: -1≤j∧j≤1000):
  Z4 244 [Pt bm,I j] w fun u w'=>u=I ((s.many:Int)+1+j)∧St H w' σ:=by
 have JZ:s.many≤1000000:=Nat.mul_le_mul hb.1 hb.2;refine Cl.o func244 ntmps244 ag2 ?_;refine .ae (.zn zg (.ae (.z zm (.z znc (.z (zfa dy) (.z (zfa aK) (.q hs (mD (vs:=[I s.id,I s.src,bV,bS,I s.al,I s.up]) rfl bC aT hm) (.o (.call call196 rfl (nP (s:=s) hs h1 h2 hb) ?_)))))))));rintro _ w ⟨rfl,hs⟩;exact .z cD (.z zm (.z cD (.zn zg (.ret (Fin.bw results244 rfl ⟨rfl,hs⟩)))))
theorem eG{s:Spc}(h:eZ s):s.st.length≤1000∧s.wa.length≤1000∧0<s.wa.length∧s.many≤63:=by
 have h1:=h.st.many;have h2:=h.wa.many;have h3:=h.wa.two;have:s.many≤9*7:=Nat.mul_le_mul h1 h2;omega
theorem sE{w:World}{ts:List TD}(hs:St H w (.blk bm [I s.sp.id,I s.sp.src,bV,bS,I s.sp.al,I s.sp.up,vr,vc,vt,vl]::en::σ))(hk:MkK H s ts bV bS vr vc vt)(hO:cz 4 vl (iL ls) en)(hl:ls.length≤10000)(aJ:eZ s.sp):
  Z4 190 [Pt bm] w fun _ w'=>∃H1 uM j9,HLe H H1∧cz 4 uM (iL (ls++eD (tU s.sp) s.sp.wa.length s.sp.st.length)) j9∧St H1 w' (.blk bm [I s.sp.id,I s.sp.src,bV,bS,I s.sp.al,I s.sp.up,vr,vc,vt,uM]::j9::σ):=by
 have oa:=eG aJ;refine Cl.o func190 ntmps190 ag1 ?_;refine .ae (.bx hs fun b1 w hs=>?_);refine .nil (.ae (.y hs (zld OG) (.z znc (.z (zfa dy) (.z (zfa aK) (.y hs (zls [_,_,_,_,_,_] bC aT) (.o (.call Yv rfl (fb (s:=s.sp) hs hk.st hk.wa ⟨ai,ai⟩) ?_))))))));rintro _ w ⟨H1,ba,aq,rfl,pF,hs⟩;refine .nil (.block ?_);refine .rangeFunc (gf:=188) (cap:=[Pt ba]) (xs:=zI s.sp) (σb:=[.blk bm [I s.sp.id,I s.sp.src,bV,bS,I s.sp.al,I s.sp.up,vr,vc,vt,vl],en,.blk b1 [Pt bm]]) (σf:=σ) (hs.sb) trivial rfl pF Yt (fun x hx=>by
   simp only [zI,List.mem_map] at hx;obtain ⟨j,_,rfl⟩:=hx;rfl) rfl
  (I:=fun p H' σb=>∃vl en,σb=[.blk bm [I s.sp.id,I s.sp.src,bV,bS,I s.sp.al,I s.sp.up,vr,vc,vt,vl],en,.blk b1 [Pt bm]]∧cz 4 vl (iL (ls++tr (tU s.sp) s.sp.wa.length p)) en) (Ix:=fun _ _ _=>False)
  (fun j _ _ σ g1 g2=>g2) (fun _ _ _ _ _ h=>h) ⟨vl,en,rfl,by rw [qV,List.append_nil];exact hO⟩ ?_ ?_ (fun D c H' σb w _ h _=>h.elim)
 ·rintro ly p hp H2 vX vW w aQ ⟨vl,en,rfl,hO⟩ hs ⟨rr,HF⟩;have Gn:p<s.sp.many:=by rw [dH] at hp;exact hp
  have pc:=qW (tU s.sp) (p:=p) oa.2.2.1;have Iy:=k8 (oM s.sp) oa.2.2.1 p;have gd:p/s.sp.wa.length<s.sp.st.length:=Nat.div_lt_of_lt_mul (by rw [Nat.mul_comm];exact Gn);have J5:=Nat.mod_lt p oa.2.2.1;have PQ:=Nat.div_add_mod p s.sp.wa.length;rw [Nat.mul_comm] at PQ;have hu:(s.sp.u (p/s.sp.wa.length) (p%s.sp.wa.length):Int)=(p:Int)+1:=by unfold Spc.u;omega
  rw [np hp];obtain ⟨al,ll,cl,rfl,yK⟩:=hO.shape;generalize p/s.sp.wa.length=i at*;generalize p%s.sp.wa.length=k at*;have HK:=hk.mono (aq.trans aQ);refine .region (.o (.alloc hs oR rfl fun b2 w hs=>?_));refine .o (.aE (vs:=[_,_,_]) hs rfl rfl Am fun w hs=>?_);refine .nil (nT ⟨H2,[.blk b2 [I (i:Int),I (k:Int),I ((p+1:Nat):Int)],.blk bm [I s.sp.id,I s.sp.src,bV,bS,I s.sp.al,I s.sp.up,vr,vc,vt,.slice al ll cl],en,.blk b1 [Pt bm]],HLe.refl _,hs,?_⟩);rintro w nr - hs;refine .block (.draw mix rfl hs fun w hs=>?_);refine .y 0 rfl hs OG ?_;refine .z 1 rfl (zfa dY) ?_;refine .y 2 rfl hs aj ?_;refine .y 3 rfl hs OG ?_;refine .z 4 rfl znc ?_;refine .z 5 rfl (zfa dy) ?_;refine .z 6 rfl (zfa aK) ?_;refine .z 7 rfl (zfa ep) ?_;refine .y 8 rfl hs aj ?_;refine .E 9 hs ?_;refine .call call242 rfl (iN (ls:=ls++tr (tU s.sp) s.sp.wa.length p) (hs.sb:St H2 w (.blk bm _::en:: .blk b1 _::nr)) hO (by rw [List.length_append];omega)) ?_;rintro _ w ⟨vl3,en3,kD,hs⟩;rw [show two 0 ((p+1:Nat):Int) 20000 0 s.sp.src=tU s.sp i k by unfold tU;rw [hu];rfl,List.append_assoc,←pc] at kD;exact .go (.D hs (nB ⟨H2,_,HLe.refl _,hs,_,_,rfl,kD⟩))
 ·rintro D H2 vX w aQ ⟨vl,en,rfl,hO⟩ hs;rw [dH,show s.sp.many=s.sp.st.length*s.sp.wa.length from rfl,tq _ oa.2.2.1] at hO;exact nB (Fin.UO [D] [] hs fun w hs=>⟨_,results0 results190,H2,vl,en,aq.trans aQ,hO,(hs.sb:St H2 w (.blk bm _::en::σ))⟩)
theorem wZ{w:World}{ts:List TD}(hs:St H w (.blk bm [I s.sp.id,I s.sp.src,bV,bS,I s.sp.al,I s.sp.up,vr,vc,vt,vl]::en::σ))(hk:MkK H s ts bV bS vr vc vt)(hO:cz 4 vl (iL ls) en)(hl:ls.length≤10000)(aJ:eZ s.sp):
  Z4 191 [Pt bm] w fun _ w'=>∃H1 uM j9,HLe H H1∧cz 4 uM (iL (ls++eD (alL s.sp) s.sp.wa.length s.sp.st.length)) j9∧St H1 w' (.blk bm [I s.sp.id,I s.sp.src,bV,bS,I s.sp.al,I s.sp.up,vr,vc,vt,uM]::j9::σ):=by
 have oa:=eG aJ;obtain ⟨gQ,gO,rfl⟩:=RI.shape hk.st;obtain ⟨gy,gw,rfl⟩:=RI.shape hk.wa;refine Cl.o func191 ntmps191 ag1 ?_;refine .ae (.bx hs fun b1 w hs=>?_);refine .nil (.ae (.y hs (zld OG) (.z znc (.z (zfa dy) (.z (zfa aK) (.y hs (zls [_,_,_,_,_,_] bC aT) (.o (.alloc hs rD rfl fun b2 w hs=>?_))))))));refine .o (.aE (vs:=[_,_,_,_,_,_]) hs rfl rfl aT fun w hs=>?_);refine .nil (.ae (.y hs (zls [_,_,_,_,_,_] bC aT) (.o (.call Yv rfl (fb (s:=s.sp) hs hk.st hk.wa ⟨ai,ai⟩) ?_))));rintro _ w ⟨H1,ba,aq,rfl,pF,hs⟩;refine .nil (.block ?_);refine .rangeFunc (gf:=188) (cap:=[Pt ba]) (xs:=zI s.sp) (σb:=[.blk bm [I s.sp.id,I s.sp.src,.slice gQ s.sp.st.length gO,.slice gy s.sp.wa.length gw,I s.sp.al,I s.sp.up,vr,vc,vt,vl],en,.blk b1 [Pt bm],.blk b2 [I s.sp.id,I s.sp.src,.slice gQ s.sp.st.length gO,.slice gy s.sp.wa.length gw,I s.sp.al,I s.sp.up]]) (σf:=σ) (hs.sb) trivial rfl pF Yt (fun x hx=>by
   simp only [zI,List.mem_map] at hx;obtain ⟨j,_,rfl⟩:=hx;rfl) rfl
  (I:=fun p H' σb=>∃vl en,σb=[.blk bm [I s.sp.id,I s.sp.src,.slice gQ s.sp.st.length gO,.slice gy s.sp.wa.length gw,I s.sp.al,I s.sp.up,vr,vc,vt,vl],en,.blk b1 [Pt bm],.blk b2 [I s.sp.id,I s.sp.src,.slice gQ s.sp.st.length gO,.slice gy s.sp.wa.length gw,I s.sp.al,I s.sp.up]]∧cz 4 vl (iL (ls++tr (alL s.sp) s.sp.wa.length p)) en) (Ix:=fun _ _ _=>False)
  (fun j _ _ σ g1 g2=>g2) (fun _ _ _ _ _ h=>h) ⟨vl,en,rfl,by rw [qV,List.append_nil];exact hO⟩ ?_ ?_ (fun D c H' σb w _ h _=>h.elim)
 ·rintro ly p hp H2 vX vW w aQ ⟨vl,en,rfl,hO⟩ hs ⟨rr,HF⟩;have Gn:p<s.sp.many:=by rw [dH] at hp;exact hp
  have pc:=qW (alL s.sp) (p:=p) oa.2.2.1;have Iy:=k8 (sP s.sp) oa.2.2.1 p;have gd:p/s.sp.wa.length<s.sp.st.length:=Nat.div_lt_of_lt_mul (by rw [Nat.mul_comm];exact Gn);have J5:=Nat.mod_lt p oa.2.2.1;have PQ:=Nat.div_add_mod p s.sp.wa.length;rw [Nat.mul_comm] at PQ;have hu:(s.sp.u (p/s.sp.wa.length) (p%s.sp.wa.length):Int)=(p:Int)+1:=by unfold Spc.u;omega
  rw [np hp];obtain ⟨al,ll,cl,rfl,yK⟩:=hO.shape;generalize p/s.sp.wa.length=i at*;generalize p%s.sp.wa.length=k at*;have HK:=hk.mono (aq.trans aQ);refine .region (.o (.alloc hs oR rfl fun b3 w hs=>?_));refine .o (.aE (vs:=[_,_,_]) hs rfl rfl Am fun w hs=>?_);refine .nil (nT ⟨H2,[.blk b3 [I (i:Int),I (k:Int),I ((p+1:Nat):Int)],.blk bm [I s.sp.id,I s.sp.src,.slice gQ s.sp.st.length gO,.slice gy s.sp.wa.length gw,I s.sp.al,I s.sp.up,vr,vc,vt,.slice al ll cl],en,.blk b1 [Pt bm],.blk b2 [I s.sp.id,I s.sp.src,.slice gQ s.sp.st.length gO,.slice gy s.sp.wa.length gw,I s.sp.al,I s.sp.up]],HLe.refl _,hs,?_⟩);rintro w nr - hs;refine .block (.ae (.z (zfa cW) (.y hs (zld aj) (.z cD (.z (zfa bE) (.y hs (zld an) (.z (de af) (.zn ju (.cg rfl (fun oG=>?_) (fun oG=>?_))))))))))
  ·refine .seq (.draw mix rfl hs fun w hs=>?_);refine .zw 0 rfl (zfa gE) ?_;refine .z 1 rfl (zfa oL) ?_;refine .y 2 rfl hs aj ?_;refine .z 3 rfl (zfa bE) ?_;refine .y 4 rfl hs an ?_;refine .z 5 rfl (zfa cW) ?_;refine .y 6 rfl hs aj ?_;refine .z 7 rfl cD ?_;have PB:=aJ.st.rise i ai;have MJ:=aJ.st.bd (i:=i) ai;have NU:=aJ.st.bd (i:=i+1) ai;have CC:=aJ.al;refine .ixX (enc:=fun x=>[I x]) (i:=8) hs rfl az .none HK.st rfl rfl af ak (bL (l:=s.sp.st) (i:=(i+1)) ai) dG ?_;intro TE o28 jS;replace jS:=bN.one jS;refine .r (i:=9) hs rfl az .none (aR rfl aj jS) ?_;refine .zw 10 rfl (zfa bE) ?_;refine .y 11 rfl hs an ?_;refine .z 12 rfl (zfa cW) ?_;refine .y 13 rfl hs aj ?_;refine .ixX (enc:=fun x=>[I x]) (i:=14) hs rfl az .none HK.st rfl rfl af ak (bL (l:=s.sp.st) (i:=i) ai) dG ?_;intro Rh o34 lP;replace lP:=bN.one lP;refine .r (i:=15) hs rfl az .none (aR rfl aj lP) ?_;refine .zw 16 rfl iX (.E 17 hs ?_);refine .call call243 rfl (nQ hs ai ai) ?_;rintro _ w ⟨rfl,hs⟩;refine .go (.zw 18 rfl zg ?_);refine .D hs ?_;refine .region (.y hs (zld OG) (.z (zfa dY) (.y hs (zld aj) (.z (zfa dY) (.y hs (zld aj) (.z (zfa aZ) (.y hs (zld an) (.z (de af) (.z cD (.z zm (.z zm (.z (zfa ep) (.y hs (zld aj) (.o (.call call242 rfl (iN (ls:=ls++tr (alL s.sp) s.sp.wa.length p) (hs.sb:St H2 w (.blk bm _::en:: .blk b1 _:: .blk b2 _::nr)) hO (by rw [List.length_append];omega)) ?_)))))))))))))));rintro _ w ⟨vl3,en3,kD,hs⟩;have MH:(s.sp.u (i+1) k:Int)=((p+1:Nat):Int)+(s.sp.wa.length:Int):=by unfold Spc.u at hu ⊢;rw [Nat.add_mul];omega
   rw [show two ((p+1:Nat):Int) (((p+1:Nat):Int)+(s.sp.wa.length:Int)) (lQ s.sp.al (gi s.sp.st (i+1) - gi s.sp.st i)) (lQ s.sp.al (gi s.sp.st (i+1) - gi s.sp.st i)) s.sp.src=alL s.sp i k by unfold alL;rw [if_pos ai,hu,MH];rfl,List.append_assoc,←pc] at kD;exact .nil (nB ⟨H2,_,HLe.refl _,hs,_,_,rfl,kD⟩)
  ·refine .skip (nB ?_);rw [show alL s.sp i k=[] by unfold alL;rw [if_neg ai],List.append_nil] at pc;exact ⟨H2,_,HLe.refl _,(hs.sb:St H2 w (.blk bm _::en:: .blk b1 _:: .blk b2 _::nr)),_,_,rfl,by rw [pc];exact hO⟩
 ·rintro D H2 vX w aQ ⟨vl,en,rfl,hO⟩ hs;rw [dH,show s.sp.many=s.sp.st.length*s.sp.wa.length from rfl,tq _ oa.2.2.1] at hO;exact nB (Fin.UO [D] [] hs fun w hs=>⟨_,results0 results191,H2,vl,en,aq.trans aQ,hO,(hs.sb:St H2 w (.blk bm _::en::σ))⟩)
theorem BI{w:World}{ts:List TD}(hs:St H w (.blk bm [I s.sp.id,I s.sp.src,bV,bS,I s.sp.al,I s.sp.up,vr,vc,vt,vl]::en::σ))(hk:MkK H s ts bV bS vr vc vt)(hO:cz 4 vl (iL ls) en)(hl:ls.length≤10000)(aJ:eZ s.sp):
  Z4 192 [Pt bm] w fun _ w'=>∃H1 uM j9,HLe H H1∧cz 4 uM (iL (ls++eD (upL s.sp) s.sp.wa.length s.sp.st.length)) j9∧St H1 w' (.blk bm [I s.sp.id,I s.sp.src,bV,bS,I s.sp.al,I s.sp.up,vr,vc,vt,uM]::j9::σ):=by
 have oa:=eG aJ;obtain ⟨gQ,gO,rfl⟩:=RI.shape hk.st;obtain ⟨gy,gw,rfl⟩:=RI.shape hk.wa;refine Cl.o func192 ntmps192 ag1 ?_;refine .ae (.bx hs fun b1 w hs=>?_);refine .nil (.ae (.y hs (zld OG) (.z znc (.z (zfa dy) (.z (zfa aK) (.y hs (zls [_,_,_,_,_,_] bC aT) (.o (.alloc hs rD rfl fun b2 w hs=>?_))))))));refine .o (.aE (vs:=[_,_,_,_,_,_]) hs rfl rfl aT fun w hs=>?_);refine .nil (.ae (.y hs (zls [_,_,_,_,_,_] bC aT) (.o (.call Yv rfl (fb (s:=s.sp) hs hk.st hk.wa ⟨ai,ai⟩) ?_))));rintro _ w ⟨H1,ba,aq,rfl,pF,hs⟩;refine .nil (.block ?_);refine .rangeFunc (gf:=188) (cap:=[Pt ba]) (xs:=zI s.sp) (σb:=[.blk bm [I s.sp.id,I s.sp.src,.slice gQ s.sp.st.length gO,.slice gy s.sp.wa.length gw,I s.sp.al,I s.sp.up,vr,vc,vt,vl],en,.blk b1 [Pt bm],.blk b2 [I s.sp.id,I s.sp.src,.slice gQ s.sp.st.length gO,.slice gy s.sp.wa.length gw,I s.sp.al,I s.sp.up]]) (σf:=σ) (hs.sb) trivial rfl pF Yt (fun x hx=>by
   simp only [zI,List.mem_map] at hx;obtain ⟨j,_,rfl⟩:=hx;rfl) rfl
  (I:=fun p H' σb=>∃vl en,σb=[.blk bm [I s.sp.id,I s.sp.src,.slice gQ s.sp.st.length gO,.slice gy s.sp.wa.length gw,I s.sp.al,I s.sp.up,vr,vc,vt,vl],en,.blk b1 [Pt bm],.blk b2 [I s.sp.id,I s.sp.src,.slice gQ s.sp.st.length gO,.slice gy s.sp.wa.length gw,I s.sp.al,I s.sp.up]]∧cz 4 vl (iL (ls++tr (upL s.sp) s.sp.wa.length p)) en) (Ix:=fun _ _ _=>False)
  (fun j _ _ σ g1 g2=>g2) (fun _ _ _ _ _ h=>h) ⟨vl,en,rfl,by rw [qV,List.append_nil];exact hO⟩ ?_ ?_ (fun D c H' σb w _ h _=>h.elim)
 ·rintro ly p hp H2 vX vW w aQ ⟨vl,en,rfl,hO⟩ hs ⟨rr,HF⟩;have Gn:p<s.sp.many:=by rw [dH] at hp;exact hp
  have pc:=qW (upL s.sp) (p:=p) oa.2.2.1;have Iy:=k8 (rY s.sp) oa.2.2.1 p;have gd:p/s.sp.wa.length<s.sp.st.length:=Nat.div_lt_of_lt_mul (by rw [Nat.mul_comm];exact Gn);have J5:=Nat.mod_lt p oa.2.2.1;have PQ:=Nat.div_add_mod p s.sp.wa.length;rw [Nat.mul_comm] at PQ;have hu:(s.sp.u (p/s.sp.wa.length) (p%s.sp.wa.length):Int)=(p:Int)+1:=by unfold Spc.u;omega
  rw [np hp];obtain ⟨al,ll,cl,rfl,yK⟩:=hO.shape;generalize p/s.sp.wa.length=i at*;generalize p%s.sp.wa.length=k at*;have HK:=hk.mono (aq.trans aQ);refine .region (.o (.alloc hs oR rfl fun b3 w hs=>?_));refine .o (.aE (vs:=[_,_,_]) hs rfl rfl Am fun w hs=>?_);refine .nil (nT ⟨H2,[.blk b3 [I (i:Int),I (k:Int),I ((p+1:Nat):Int)],.blk bm [I s.sp.id,I s.sp.src,.slice gQ s.sp.st.length gO,.slice gy s.sp.wa.length gw,I s.sp.al,I s.sp.up,vr,vc,vt,.slice al ll cl],en,.blk b1 [Pt bm],.blk b2 [I s.sp.id,I s.sp.src,.slice gQ s.sp.st.length gO,.slice gy s.sp.wa.length gw,I s.sp.al,I s.sp.up]],HLe.refl _,hs,?_⟩);rintro w nr - hs;refine .block (.ae (.z (zfa cV) (.y hs (zld aj) (.z cD (.z (zfa aZ) (.y hs (zld an) (.z (de af) (.zn ju (.cg rfl (fun oG=>?_) (fun oG=>?_))))))))))
  ·refine .seq (.draw mix rfl hs fun w hs=>?_);refine .zw 0 rfl (zfa gE) ?_;refine .z 1 rfl (zfa oK) ?_;refine .y 2 rfl hs aj ?_;refine .z 3 rfl (zfa aZ) ?_;refine .y 4 rfl hs an ?_;refine .z 5 rfl (zfa cV) ?_;refine .y 6 rfl hs aj ?_;refine .z 7 rfl cD ?_;have PB:=aJ.wa.rise k ai;have MJ:=aJ.wa.bd (i:=k) ai;have NU:=aJ.wa.bd (i:=k+1) ai;have CC:=aJ.up;refine .ixX (enc:=fun x=>[I x]) (i:=8) hs rfl az .none HK.wa rfl rfl af ak (bL (l:=s.sp.wa) (i:=(k+1)) ai) dG ?_;intro TE o28 jS;replace jS:=bN.one jS;refine .r (i:=9) hs rfl az .none (aR rfl aj jS) ?_;refine .zw 10 rfl (zfa aZ) ?_;refine .y 11 rfl hs an ?_;refine .z 12 rfl (zfa cV) ?_;refine .y 13 rfl hs aj ?_;refine .ixX (enc:=fun x=>[I x]) (i:=14) hs rfl az .none HK.wa rfl rfl af ak (bL (l:=s.sp.wa) (i:=k) ai) dG ?_;intro Rh o34 lP;replace lP:=bN.one lP;refine .r (i:=15) hs rfl az .none (aR rfl aj lP) ?_;refine .zw 16 rfl iX (.E 17 hs ?_);refine .call call243 rfl (nQ hs ai ai) ?_;rintro _ w ⟨rfl,hs⟩;refine .go (.zw 18 rfl zg ?_);refine .D hs ?_;refine .region (.y hs (zld OG) (.z (zfa dY) (.y hs (zld aj) (.z (zfa dY) (.y hs (zld aj) (.z cD (.z zm (.z zm (.z (zfa ep) (.y hs (zld aj) (.o (.call call242 rfl (iN (ls:=ls++tr (upL s.sp) s.sp.wa.length p) (hs.sb:St H2 w (.blk bm _::en:: .blk b1 _:: .blk b2 _::nr)) hO (by rw [List.length_append];omega)) ?_))))))))))));rintro _ w ⟨vl3,en3,kD,hs⟩;have MH:(s.sp.u i (k+1):Int)=((p+1:Nat):Int)+1:=by unfold Spc.u at hu ⊢;omega
   rw [show two ((p+1:Nat):Int) (((p+1:Nat):Int)+1) (lQ s.sp.up (gi s.sp.wa (k+1) - gi s.sp.wa k)) (lQ s.sp.up (gi s.sp.wa (k+1) - gi s.sp.wa k)) s.sp.src=upL s.sp i k by unfold upL;rw [if_pos ai,hu,MH];rfl,List.append_assoc,←pc] at kD;exact .nil (nB ⟨H2,_,HLe.refl _,hs,_,_,rfl,kD⟩)
  ·refine .skip (nB ?_);rw [show upL s.sp i k=[] by unfold upL;rw [if_neg ai],List.append_nil] at pc;exact ⟨H2,_,HLe.refl _,(hs.sb:St H2 w (.blk bm _::en:: .blk b1 _:: .blk b2 _::nr)),_,_,rfl,by rw [pc];exact hO⟩
 ·rintro D H2 vX w aQ ⟨vl,en,rfl,hO⟩ hs;rw [dH,show s.sp.many=s.sp.st.length*s.sp.wa.length from rfl,tq _ oa.2.2.1] at hO;exact nB (Fin.UO [D] [] hs fun w hs=>⟨_,results0 results192,H2,vl,en,aq.trans aQ,hO,(hs.sb:St H2 w (.blk bm _::en::σ))⟩)
theorem vi{w:World}{ts:List TD}(hs:St H w (.blk bm [I s.sp.id,I s.sp.src,bV,bS,I s.sp.al,I s.sp.up,vr,vc,vt,vl]::en::σ))(hk:MkK H s ts bV bS vr vc vt)(hO:cz 4 vl (iL ls) en)(hl:ls.length≤10000)(aJ:eZ s.sp)(Cw:ts.length≤100):
  Z4 193 [Pt bm] w fun _ w'=>∃H1 uM j9,HLe H H1∧cz 4 uM (iL (ls++A0 s.sp ts.length)) j9∧St H1 w' (.blk bm [I s.sp.id,I s.sp.src,bV,bS,I s.sp.al,I s.sp.up,vr,vc,vt,uM]::j9::σ):=by
 have oa:=eG aJ;obtain ⟨at_,ct,rfl⟩:=RTd.shape hk.ts;refine Cl.o func193 ntmps193 ag1 ?_;refine .ae (.z zm (.z znc (.z (zfa gq) (.y hs (zld isAgg159) (.z (de bR) (.zn zm (.for (N:=ts.length) (J:=fun j fr w=>fr=[(0,Pt bm)]∧∃vl en,cz 4 vl (iL (ls++A0 s.sp j)) en∧St H w (.blk bm [I s.sp.id,I s.sp.src,bV,bS,I s.sp.al,I s.sp.up,vr,vc,.slice at_ ts.length ct,vl]::en::σ)) ai ?_ ?_ ?_)))))))
 ·exact .mk ⟨rfl,vl,en,by show cz 4 vl (iL (ls++[])) en;rw [List.append_nil];exact hO,hs⟩
 ·rintro j fr w hj ⟨rfl,vl,en,hO,hs⟩;have Zf:=jV s.sp j;obtain ⟨al,ll,cl,rfl,yK⟩:=hO.shape;refine .block (.ae (.z zm (.zn zg (.draw mix rfl hs fun w hs=>?_))));refine .zw 0 rfl zm ?_;refine .z 1 rfl zm ?_;refine .z 2 rfl zm ?_;refine .z 4 rfl zm ?_;refine .z 5 rfl znc ?_;refine .z 6 rfl (zfa dy) ?_;refine .z 7 rfl (zfa aK) ?_;refine .z 8 rfl (zfa ep) ?_;refine .y 9 rfl hs aj ?_;refine .E 3 hs ?_;refine .call call244 rfl (mG (s:=s.sp) hs .here hk.st hk.wa ⟨ai,ai⟩ ⟨ai,ai⟩) ?_;rintro _ w ⟨rfl,hs⟩;refine .go (.E 10 hs ?_);refine .call call242 rfl (iN (ls:=ls++A0 s.sp j) hs hO (by rw [List.length_append];omega)) ?_;rintro _ w ⟨vl3,en3,kD,hs⟩;rw [show (s.sp.many:Int)+1+(j:Int)=((s.sp.many+1+j:Nat):Int) by omega,List.append_assoc] at kD;exact .go (.D hs (nB (nT (.mk ⟨rfl,vl3,en3,kD,hs⟩))))
 ·rintro fr w ⟨rfl,vl,en,hO,hs⟩;exact Fin.DS results193 ⟨H,vl,en,HLe.refl _,hO,hs⟩
set_option maxHeartbeats 1000000 in
theorem sD{w:World}{ts:List TD}(hs:St H w (.blk bm [I s.sp.id,I s.sp.src,bV,bS,I s.sp.al,I s.sp.up,vr,vc,vt,vl]::en::σ))(hk:MkK H s ts bV bS vr vc vt)(hO:cz 4 vl (iL ls) en)(hl:ls.length≤10000)(aJ:eZ s.sp)(Cw:ts.length≤100)(ob:s.cs.length≤20)(hc:∀c∈s.cs,vS c){j0:Nat}(hj0:j0≤ts.length):
  Z4 245 [Pt bm,I (j0:Int)] w fun _ w'=>∃H1 uM j9,HLe H H1∧cz 4 uM (iL (ls++xb s.sp ts s.cs j0 s.cs.length)) j9∧St H1 w' (.blk bm [I s.sp.id,I s.sp.src,bV,bS,I s.sp.al,I s.sp.up,vr,vc,vt,uM]::j9::σ):=by
 have oa:=eG aJ;obtain ⟨at_,ct,rfl⟩:=RTd.shape hk.ts;obtain ⟨ac,cc,rfl⟩:=RCm.shape hk.cs;refine Cl.o func245 ntmps245 ag2 ?_;refine .ae (.z zm (.z znc (.z (zfa dy) (.z (zfa du) (.y hs (zld FM) (.z (de dF) (.zn zm (.for (N:=s.cs.length) (J:=fun i fr w=>fr=[(12,.slice ac s.cs.length cc),(0,Pt bm),(1,I (j0:Int))]∧∃vl en,cz 4 vl (iL (ls++xb s.sp ts s.cs j0 i)) en∧St H w (.blk bm [I s.sp.id,I s.sp.src,bV,bS,I s.sp.al,I s.sp.up,vr,.slice ac s.cs.length cc,.slice at_ ts.length ct,vl]::en::σ)) ai ?_ ?_ ?_))))))))
 ·exact .mk ⟨rfl,vl,en,by show cz 4 vl (iL (ls++[])) en;rw [List.append_nil];exact hO,hs⟩
 ·rintro i fr w hi ⟨rfl,vl,en,hO,hs⟩;obtain ⟨c,hx⟩:=nth hi;obtain ⟨g1,g2,g3,g4,g5,g6⟩:=hc c (List.mem_of_getElem? hx);have WC:=jW s.sp ts s.cs j0 i;have WB:i*(2*(ts.length - j0))≤20*(2*100):=Nat.mul_le_mul ai ai;refine .block (.ae (.ixX (enc:=Cmp.c) hs hk.cs rfl rfl dF kd hx dG ?_));intro ui o16 dN;refine .q hs (bH (vs:=(Cmp.c c)) rfl isAgg153 kd dN) (.o (.alloc hs Ed rfl fun b5 w hs=>?_));refine .o (.aE (vs:=c.c) hs rfl rfl kd fun w hs=>?_);replace hs:St H w (.blk bm [I s.sp.id,I s.sp.src,bV,bS,I s.sp.al,I s.sp.up,vr,.slice ac s.cs.length cc,.slice at_ ts.length ct,vl]::en:: .blk b5 [I c.src,I c.tape,I c.fr,I c.to,I c.lo,I c.hi]::σ):=hs.sb;refine .nil (.ae (.z zm (.zn zg (.block ?_))));refine .loop (fun j:Nat=>⟨62,[],[(6,I ((j0+j:Nat):Int)),(5,Pt b5),(14,I (i:Int)),(13,I (s.cs.length:Int)),(12,.slice ac s.cs.length cc),(0,Pt bm),(1,I (j0:Int))]⟩)
   (fun j w=>j0+j≤ts.length∧∃vl en,cz 4 vl (iL (ls++xb s.sp ts s.cs j0 i++mM s.sp ts c j0 j)) en∧St H w (.blk bm [I s.sp.id,I s.sp.src,bV,bS,I s.sp.al,I s.sp.up,vr,.slice ac s.cs.length cc,.slice at_ ts.length ct,vl]::en:: .blk b5 [I c.src,I c.tape,I c.fr,I c.to,I c.lo,I c.hi]::σ)) (fun j=>ts.length - (j0+j)) 0 aW
   ⟨ai,vl,en,by show cz 4 vl (iL (_++[])) en;rw [List.append_nil];exact hO,hs⟩ ?_
  clear hO hs;rintro j w ⟨hj,vl,en,hO,hs⟩;have ML:=nj s.sp ts c j0 j;obtain ⟨al,ll,cl,rfl,yK⟩:=hO.shape;refine .seq (.ae (.z zm (.z zm (.z znc (.z (zfa gq) (.y hs (zld isAgg159) (.z (de bR) (.zn ju (.cg rfl (fun jT=>?_) (fun jT=>?_))))))))))
  ·refine .skip (nT (.seq (.block (.ae (.z zm (.z znc (.z (zfa gq) (.y hs (zld isAgg159) (.z zm ?_)))))))));obtain ⟨t,ht⟩:=nth (l:=ts) (k:=j0+j) ai;have Uc:=NH ht;refine .ixX (enc:=TD.c) hs hk.ts rfl rfl bR cZ ht dG ?_;intro XU o33 rl;refine .q hs (bH (vs:=(TD.c t)) rfl jo cZ rl) (.o (.alloc hs uE rfl fun b7 w hs=>?_));refine .o (.aE (vs:=t.c) hs rfl rfl cZ fun w hs=>?_);change St _ _ (.blk b7 [I t.tape,I t.day]::_) at hs;refine .nil (.ae (.z (zfa po) (.y hs (zld aj) (.z (zfa lU) (.y hs (zld aj) (.z ik (.z zm (.iY (t':=40) rfl (fun W9=>?_) (fun W9=>?_)))))))))
   ·refine .T ?_;refine .z (zfa lR) (.T (.y hs (zld aj) (.T (.z (zfa lT) (.T (.y hs (zld aj) (.T (.z (zfa jK) (.T (.y hs (zld aj) (.T (.o (.call iS rfl (bA hs) ?_)))))))))))));rintro _ w ⟨rfl,hs⟩;refine .zn zpT (.cond rfl (fun pG=>?_) (fun pG=>?_))
    ·refine .draw mix rfl hs fun w hs=>?_
     refine .zw 0 rfl zm ?_;refine .z 1 rfl zm ?_;refine .z 2 rfl zm ?_;refine .z 4 rfl (zfa lS) ?_;refine .y 5 rfl hs aj ?_;refine .z 6 rfl G4 ?_;refine .z 7 rfl (zfa jJ) ?_;refine .y 8 rfl hs aj ?_;refine .z 9 rfl (zfa jL) ?_;refine .y 10 rfl hs aj ?_;refine .E 3 hs ?_;refine .call call244 rfl (mG (s:=s.sp) hs (.there .here) hk.st hk.wa ⟨ai,ai⟩ ⟨ai,ai⟩) ?_;rintro _ w ⟨rfl,hs⟩;refine .go (.E 11 hs ?_);refine .call call242 rfl (iN (ls:=ls++xb s.sp ts s.cs j0 i++mM s.sp ts c j0 j) (hs.tail:St H w (.blk bm _::en:: .blk b5 _::σ)) hO (by rw [List.length_append,List.length_append];omega)) ?_;rintro _ w ⟨vl3,en3,kD,hs⟩;refine .go (.D hs (nB (nT (.region (.z zm (.z cD (.zn zg (nT ?_))))))));have e:mM s.sp ts c j0 (j+1)=mM s.sp ts c j0 j++two 0 ((s.sp.many:Int)+1+((j0+j:Nat):Int)) (-c.lo) c.hi c.src:=by
      show _++nt c (td0 ts (j0+j)) _=_;rw [Uc];unfold nt;rw [if_pos (by simp at pG;omega)];rw [show ((s.sp.many+1+(j0+j):Nat):Int)=(s.sp.many:Int)+1+((j0+j:Nat):Int) by omega]
     rw [List.append_assoc _ (mM _ _ _ _ _),←e] at kD;exact ⟨j+1,.dc rfl (by simp;omega) aW,⟨ai,vl3,en3,kD,hs⟩,ai⟩
    ·refine .skip (nB (nT (.region (.z zm (.z cD (.zn zg (nT ?_)))))));have e:mM s.sp ts c j0 (j+1)=mM s.sp ts c j0 j:=by
      show _++nt c (td0 ts (j0+j)) _=_;rw [Uc];unfold nt;rw [if_neg (by simp at pG;omega),List.append_nil]
     exact ⟨j+1,.dc rfl (by simp;omega) aW,⟨ai,_,en,by rw [e];exact hO,hs.tail⟩,ai⟩
   ·refine .Fs 7 5 true (.zn zpF (.cF (.skip (nB (nT (.region (.z zm (.z cD (.zn zg (nT ?_))))))))));have e:mM s.sp ts c j0 (j+1)=mM s.sp ts c j0 j:=by
     show _++nt c (td0 ts (j0+j)) _=_;rw [Uc];unfold nt;rw [if_neg ai,List.append_nil]
    exact ⟨j+1,.dc rfl (by simp;omega) aW,⟨ai,_,en,by rw [e];exact hO,hs.tail⟩,ai⟩
  ·refine .exit (xT (xT (xB (nB (nT ?_)))));obtain rfl:j=ts.length - j0:=by omega
   rw [List.append_assoc,show xb s.sp ts s.cs j0 i++mM s.sp ts c j0 (ts.length - j0)=xb s.sp ts s.cs j0 (i+1) by rw [←KV hx];rfl] at hO;exact .mk ⟨rfl,_,en,hO,hs.sb⟩
 ·rintro fr w ⟨rfl,vl,en,hO,hs⟩;exact Fin.DS results245 ⟨H,vl,en,HLe.refl _,hO,hs⟩
theorem pE{w:World}{ts:List TD}(hs:St H w (.blk bm [I s.sp.id,I s.sp.src,bV,bS,I s.sp.al,I s.sp.up,vr,vc,vt,vl]::en::σ))(hk:MkK H s ts bV bS vr vc vt)(hO:cz 4 vl (iL ls) en)(hl:ls.length≤10000)(aJ:eZ s.sp)(Cw:ts.length≤100)(ob:s.cs.length≤20)(hc:∀c∈s.cs,vS c):
  Z4 194 [Pt bm] w fun _ w'=>∃H1 uM j9,HLe H H1∧cz 4 uM (iL (ls++xb s.sp ts s.cs 0 s.cs.length)) j9∧St H1 w' (.blk bm [I s.sp.id,I s.sp.src,bV,bS,I s.sp.al,I s.sp.up,vr,vc,vt,uM]::j9::σ):=by
 refine Cl.o func194 ntmps194 ag1 ?_;refine .region (.z zm (.o (.call call245 rfl (sD (s:=s) (ts:=ts) (j0:=0) hs hk hO hl aJ Cw ob hc ai) ?_)));rintro _ w hs;exact .nil (Fin.DS results194 hs)
set_option maxHeartbeats 1000000 in
theorem sC{w:World}{ts:List TD}(hs:St H w (.blk bm [I s.sp.id,I s.sp.src,bV,bS,I s.sp.al,I s.sp.up,vr,vc,vt,vl]::en::σ))(hk:MkK H s ts bV bS vr vc vt)(hO:cz 4 vl (iL ls) en)(hl:ls.length≤10000)(aJ:eZ s.sp)(Cw:ts.length≤100)(Cx:s.rs.length≤60)(hr:∀r∈s.rs,lZ s.sp r)(HI:∀r∈s.rs,r.td∈ts):
  Z4 195 [Pt bm] w fun _ w'=>∃H1 uM j9,HLe H H1∧cz 4 uM (iL (ls++yq s.sp ts s.rs s.rs.length)) j9∧St H1 w' (.blk bm [I s.sp.id,I s.sp.src,bV,bS,I s.sp.al,I s.sp.up,vr,vc,vt,uM]::j9::σ):=by
 have oa:=eG aJ;obtain ⟨at_,ct,rfl⟩:=RTd.shape hk.ts;obtain ⟨ar,cr,rfl⟩:=RRd.shape hk.rs;refine Cl.o func195 ntmps195 ag1 ?_;refine .ae (.z zm (.z znc (.z (zfa dy) (.z (zfa bq) (.y hs (zld fT) (.z (de bn) (.zn zm (.for (N:=s.rs.length) (J:=fun i fr w=>fr=[(9,.slice ar s.rs.length cr),(0,Pt bm)]∧∃vl en,cz 4 vl (iL (ls++yq s.sp ts s.rs i)) en∧St H w (.blk bm [I s.sp.id,I s.sp.src,bV,bS,I s.sp.al,I s.sp.up,.slice ar s.rs.length cr,vc,.slice at_ ts.length ct,vl]::en::σ)) ai ?_ ?_ ?_))))))))
 ·exact .mk ⟨rfl,vl,en,by show cz 4 vl (iL (ls++[])) en;rw [List.append_nil];exact hO,hs⟩
 ·rintro i fr w hi ⟨rfl,vl,en,hO,hs⟩;obtain ⟨r,hx⟩:=nth hi;obtain ⟨g1,g2,g3,g4,g5,g6,g7⟩:=hr r (List.mem_of_getElem? hx);obtain ⟨k,k1,k2,k3⟩:=i7 (HI r (List.mem_of_getElem? hx));have VT:=jP s.sp ts s.rs i;obtain ⟨al,ll,cl,rfl,yK⟩:=hO.shape;refine .block (.ae (.ixX (enc:=Rdg.c) hs hk.rs rfl rfl bn bD hx dG ?_));intro mf o13 iz;refine .q hs (bH (vs:=(Rdg.c r)) rfl kF bD iz) (.o (.alloc hs dZ rfl fun b3 w hs=>?_));refine .o (.aE (vs:=r.c) hs rfl rfl bD fun w hs=>?_);change St _ _ (.blk b3 [I r.src,I r.st,I r.wa,I r.val,I r.tol,I r.tape,I r.day]::_) at hs;refine .nil (.seq (.draw mix rfl hs fun w hs=>?_));refine .zw 0 rfl zm ?_;refine .z 1 rfl znc ?_;refine .z 2 rfl (zfa gq) ?_;refine .y 3 rfl hs isAgg159 ?_;refine .ys 4 rfl hs [_,_,_,_,_,_,_] kF bD ?_;refine .E 5 hs ?_;refine .call call241 rfl (jQ hs) ?_;rintro _ w ⟨rfl,hs⟩;refine .go (.E 6 hs ?_);refine .call call246 rfl (yb (t:=r.td) hs hk.ts ai) ?_;rintro _ w ⟨rfl,hs⟩;refine .go (.zw 7 rfl zg ?_);refine .D hs ?_;refine .draw mix rfl hs fun w hs=>?_
  refine .zw 0 rfl zm ?_;refine .z 1 rfl zm ?_;refine .z 2 rfl zm ?_;refine .z 4 rfl zm ?_;refine .z 5 rfl znc ?_;refine .z 6 rfl (zfa dy) ?_;refine .z 7 rfl (zfa aK) ?_;refine .ys 8 rfl hs [_,_,_,_,_,_] bC aT ?_;refine .z 9 rfl (zfa iJ) ?_;refine .y 10 rfl hs aj ?_;refine .zw 11 rfl (zfa iI) ?_;refine .y 12 rfl hs aj ?_;refine .z 14 rfl (zfa fi) ?_;refine .y 15 rfl hs aj ?_;refine .z 16 rfl (zfa dE) ?_;refine .y 17 rfl hs aj ?_;refine .z 18 rfl cD ?_;refine .z 19 rfl (zfa dE) ?_;refine .y 20 rfl hs aj ?_;refine .z 21 rfl (zfa fi) ?_;refine .y 22 rfl hs aj ?_;refine .z 23 rfl iX ?_;refine .z 24 rfl (zfa iK) ?_;refine .y 25 rfl hs aj ?_;refine .E 3 hs ?_;refine .call call244 rfl (mG (s:=s.sp) hs (.there .here) hk.st hk.wa ⟨ai,ai⟩ ⟨ai,ai⟩) ?_;rintro _ w ⟨rfl,hs⟩;refine .go (.E 13 hs ?_);refine .call call247 rfl (rb (s:=s.sp) hs hk.wa ai ⟨ai,ai⟩ ⟨ai,ai⟩) ?_;rintro _ w ⟨rfl,hs⟩;refine .go (.E 26 hs ?_);refine .call call242 rfl (iN (ls:=ls++yq s.sp ts s.rs i) (hs.sb:St H w (.blk bm _::en:: .blk b3 _::σ)) hO (by rw [List.length_append];omega)) ?_;rintro _ w ⟨vl3,en3,kD,hs⟩;refine .go (.D hs (nB (nT ?_)));rw [List.append_assoc,show yq s.sp ts s.rs i++two ((s.sp.many:Int)+1+lH ts r.td) (1+r.st*s.sp.wa.length+r.wa) (r.val+r.tol) (r.tol - r.val) r.src=yq s.sp ts s.rs (i+1) by rw [←I8 hx];rfl] at kD;exact .mk ⟨rfl,vl3,en3,kD,hs.sb⟩
 ·rintro fr w ⟨rfl,vl,en,hO,hs⟩;exact Fin.DS results195 ⟨H,vl,en,HLe.refl _,hO,hs⟩
def fnK:Nat→Nat
 |0=>190
 |1=>191
 |2=>192
 |3=>193
 |4=>194
 |_=>195
theorem Na(hk:k<6):∀args w,(callFunc (fnK k) args).run Tryz.prog w= .ok (.enter (fnK k) args) w:=by
 have h:k=0∨k=1∨k=2∨k=3∨k=4∨k=5:=by omega
 rcases h with rfl|rfl|rfl|rfl|rfl|rfl
 ·exact call190
 ·exact call191
 ·exact call192
 ·exact call193
 ·exact call194
 ·exact call195
theorem Jp{w:World}(hs:St H w (.blk bm [I s.sp.id,I s.sp.src,bV,bS,I s.sp.al,I s.sp.up,vr,vc,vt,vl]::en::σ))(hk:MkK H s s.cC bV bS vr vc vt)(hO:cz 4 vl (iL (s.parts k)) en)(he:s.early)(hk6:k<6):
  Z4 (fnK k) [Pt bm] w fun _ w'=>∃H1 uM j9,HLe H H1∧cz 4 uM (iL (s.parts (k+1))) j9∧St H1 w' (.blk bm [I s.sp.id,I s.sp.src,bV,bS,I s.sp.al,I s.sp.up,vr,vc,vt,uM]::j9::σ):=by
 have hl:=nf he k ai;obtain ⟨aJ,h1,h2,h3,h4⟩:=he;have Cw:s.cC.length≤100:=by have:=dD s.rs;unfold Srv.cC;omega
 have h:k=0∨k=1∨k=2∨k=3∨k=4∨k=5:=by omega
 rcases h with rfl|rfl|rfl|rfl|rfl|rfl
 ·exact sE hs hk hO (Nat.le_trans hl ef) aJ
 ·exact wZ hs hk hO (Nat.le_trans hl ef) aJ
 ·exact BI hs hk hO (Nat.le_trans hl ef) aJ
 ·exact vi hs hk hO (Nat.le_trans hl ef) aJ Cw
 ·exact pE hs hk hO (Nat.le_trans hl ef) aJ Cw h2 h4
 ·exact sC hs hk hO (Nat.le_trans hl ef) aJ Cw h1 h3 fun r hr=>ir.2 ⟨r,hr,rfl⟩
def fnV(b:Nat)(k:Nat):Value:= .func (.func (fnK k)) #[Pt b] #[]
theorem Qe(b:Nat){k:Nat}(hk:k<6):[fnV b 0,fnV b 1,fnV b 2,fnV b 3,fnV b 4,fnV b 5][k]? =some (fnV b k):=by
 have h:k=0∨k=1∨k=2∨k=3∨k=4∨k=5:=by omega
 rcases h with rfl|rfl|rfl|rfl|rfl|rfl<;>rfl
set_option maxHeartbeats 1000000 in
theorem tj{w:World}(hs:St H w σ)(h1:RI H bV s.sp.st)(h2:RI H bS s.sp.wa)(h3:RRd H vr s.rs)(h4:RCm H vc s.cs)(he:s.early):
  Z4 133 [.agg #[I s.sp.id,I s.sp.src,bV,bS,I s.sp.al,I s.sp.up,vr,vc]] w fun u w'=>∃H1 vl en,HLe H H1∧u= .agg #[I s.sys.many,vl]∧cz 4 vl (iL s.cJ) en∧St H1 w' (en::σ):=by
 have oa:=eG he.1;have Cw:s.cC.length≤60:=by have:=dD s.rs;have:=he.2.1;unfold Srv.cC;omega
 refine Cl.o func133 ntmps133 ag1 ?_;refine .ae (.bx hs fun b1 w hs=>?_);refine .o (.alloc hs gZ rfl fun b2 w hs=>?_);refine .nil (.seq (.draw mix rfl hs fun w hs=>?_));refine .ys 0 rfl hs [_,_,_,_,_,_,_,_] aP aC ?_;refine .ys 1 rfl hs [_,_,_,_,_,_,_,_] aP aC ?_;refine .E 2 hs ?_;refine .call call189 rfl (ti hs h3 (by have:=he.2.1;omega)) ?_;rintro v8 w ⟨H1,aq,hT,hs⟩;obtain ⟨at_,ct,rfl⟩:=RTd.shape hT;have Lo:MkK H1 s s.cC bV bS vr vc (.slice at_ s.cC.length ct):=⟨h1.mono aq,h2.mono aq,h3.mono aq,h4.mono aq,hT⟩;refine .go (.zw 3 rfl (zbd (vs:=[(0,.agg #[I s.sp.id,I s.sp.src,bV,bS,I s.sp.al,I s.sp.up,vr,vc]),(1,.slice at_ s.cC.length ct)]) [I s.sp.id,I s.sp.src,bV,bS,I s.sp.al,I s.sp.up,vr,vc,.slice at_ s.cC.length ct,.slice none 0 0] vP rfl az) (.E 4 hs ?_));refine .box hs rfl rfl ?_;intro mU w hs;refine .go (.zw 5 rfl zg ?_);refine .D hs ?_;refine .seq (.ae (.z zm (.q hs (dp (f:=[_]) (c:=[]) rfl rfl) (.z zm (.q hs (dp (f:=[_]) (c:=[]) rfl rfl) (.z zm (.q hs (dp (f:=[_]) (c:=[]) rfl rfl) (.z zm (.q hs (dp (f:=[_]) (c:=[]) rfl rfl) (.z zm (.q hs (dp (f:=[_]) (c:=[]) rfl rfl) (.z zm (.q hs (dp (f:=[_]) (c:=[]) rfl rfl) (.o (.buildSlice (cells:=[fnV mU 0,fnV mU 1,fnV mU 2,fnV mU 3,fnV mU 4,fnV mU 5]) hs Ce rfl az fun IF w hs=>?_)))))))))))))));refine .z (de runUnderlying247) (.zn zm (.for (N:=6) (J:=fun k fr w=>fr=[(23,.slice (some ⟨IF,0,none⟩) 6 6),(3,Pt mU),(2,Pt b2),(1,Pt b1)]∧∃H2 vl en,HLe H1 H2∧cz 4 vl (iL (s.parts k)) en∧St H2 w (.blk mU [I s.sp.id,I s.sp.src,bV,bS,I s.sp.al,I s.sp.up,vr,vc,.slice at_ s.cC.length ct,vl]::en:: .blk IF [fnV mU 0,fnV mU 1,fnV mU 2,fnV mU 3,fnV mU 4,fnV mU 5]:: .blk b2 [I 0,.slice none 0 0]:: .blk b1 [I s.sp.id,I s.sp.src,bV,bS,I s.sp.al,I s.sp.up,vr,vc]::σ)) ai ?_ ?_ ?_))
 ·exact .mk ⟨rfl,H1,.slice none 0 0,.nul,HLe.refl _,.nil 4 none,hs.nul.sb⟩
 ·rintro k fr w hk ⟨rfl,H2,vl,en,aQ,hO,hs⟩;refine .block (.ae (.z (zix runUnderlying247 sizeOf1) (.q hs (ja rfl isAgg1 (hv:=Qe mU hk)) (.zn zg (.region (.z zm (.o (.qB (first:=[Pt mU]) (cap:=[]) rfl rfl (Na hk) (Jp hs (Lo.mono aQ) hO he hk) ?_))))))));rintro _ w ⟨H3,vl3,en3,bJ,kD,hs⟩;exact .nil (nB (nT (.mk ⟨rfl,H3,vl3,en3,aQ.trans bJ,kD,hs⟩)))
 ·rintro fr w ⟨rfl,H2,vl,en,aQ,hO,hs⟩;rw [s.Bz] at hO;obtain ⟨al,ll,cl,rfl,yK⟩:=hO.shape;refine nT (.seq (.draw mix rfl hs fun w hs=>?_));refine .zw 0 rfl (zfa aK) ?_;refine .ys 1 rfl hs [_,_,_,_,_,_] bC aT ?_;refine .z 3 rfl zm ?_;refine .z 4 rfl znc ?_;refine .z 5 rfl (zfa gq) ?_;refine .y 6 rfl hs isAgg159 ?_;refine .z 7 rfl (de bR) ?_;refine .z 9 rfl zm ?_;refine .z 10 rfl znc ?_;refine .z 11 rfl (zfa kl) ?_;refine .zv 12 rfl hs (lO eL) (.E 2 hs ?_);refine .call call196 rfl (nP (s:=s.sp) hs (h1.mono (aq.trans aQ)) (h2.mono (aq.trans aQ)) ⟨ai,ai⟩) ?_;rintro _ w ⟨rfl,hs⟩;refine .go (.zw 8 rfl cD ?_);refine .z 13 rfl (zbd [_,_] nD) ?_;refine .E 14 hs ?_;refine .aE (vs:=[_,_]) hs rfl rfl bg ?_;intro w hs;refine .go (.D hs (.ret ?_));replace hs:St H2 w (.blk b2 [I ((s.sp.many:Int)+(s.cC.length:Int)),.slice al ll cl]::en::σ):=hs.sb;exact Fin.hZ [] [] hs fun w hs=>⟨_,results1 results133 (cN (vs:=[_,_]) hs rfl cf bg),H2,_,en,aq.trans aQ,by show _=Value.agg #[I ((s.sp.many+s.cC.length:Nat):Int),_];rw [Int.natCast_add],hO,hs.tail⟩
theorem fK{w:World}(hs:St H w σ)(h1:RI H bV s.sp.st)(h2:RI H bS s.sp.wa)(h3:RRd H vr s.rs)(h4:RCm H vc s.cs)(he:s.early):
  Z4 133 [.agg #[I s.sp.id,I s.sp.src,bV,bS,I s.sp.al,I s.sp.up,vr,vc]] w fun u w'=>∃H1,HLe H H1∧RSy H1 u s.sys∧St H1 w' σ:=by
 refine (tj hs h1 h2 h3 h4 he).mono ?_;rintro u w' ⟨H1,vl,en,hle,rfl,hO,hs⟩;have hl:=nf he 6 ai;rw [s.Bz] at hl;obtain ⟨H2,aQ,hR,hs⟩:=cz.bZ (m:=4) (cs:=s.cJ.map Lim.c) hO (fun c hc=>by simp only [List.mem_map] at hc;obtain ⟨x,_,rfl⟩:=hc;rfl) ai (by rw [List.length_map];omega) hs .here;exact ⟨H2,hle.trans aQ,⟨vl,rfl,hR⟩,hs⟩
set_option maxHeartbeats 1000000 in
theorem dn{w:World}(hs:St H w σ)(h1:RI H bV s.sp.st)(h2:RI H bS s.sp.wa)(h3:RRd H vr s.rs)(h4:RCm H vc s.cs):
  Z4 117 [.agg #[I s.sp.id,I s.sp.src,bV,bS,I s.sp.al,I s.sp.up,vr,vc]] w fun u w'=>∃H1 e,HLe H H1∧u=I e∧zJ s e∧St H1 w' σ:=by
 obtain ⟨gQ,gO,rfl⟩:=RI.shape h1;obtain ⟨gy,gw,rfl⟩:=RI.shape h2;obtain ⟨ar,cr,rfl⟩:=RRd.shape h3;obtain ⟨ac,cc,rfl⟩:=RCm.shape h4;refine Cl.o func117 ntmps117 ag1 ?_;refine .ae (.bx hs fun b1 w hs=>?_);refine .zn zg (.seq (.ae (.z (zfa aK) (.y hs (zls [_,_,_,_,_,_] bC aT) (.o (.call call111 rfl (fq (s:=s.sp) hs h1 h2) ?_))))));rintro _ w ⟨H1,e,aq,rfl,he,hs⟩;refine .zn zg (.ae (.z zm (.zn ez (.dz rfl (fun iz=>?_) (fun iz=>?_)))))
 ·refine .ae (.z zm (.zn zg (.ret (rT (Fin.bw vT rfl ?_)))));have hq:¬eZ s.sp∧e=30:=he.resolve_left fun h=>iz h.2
  exact ⟨H1,_,aq,rfl,by rw [hq.2];exact .space hq.1,hs.out⟩
 ·refine .skip (nT (.seq (.ae (.z (zfa bq) ?_))));have aJ:eZ s.sp:=(he.resolve_right fun h=>by omega).1;refine .y hs (zld fT) (.z (de bn) (.z nJ (.z zm (.iY (t':=19) rfl (fun BR=>?_) (fun BR=>?_)))))
  ·exact .Fs 4 4 false (.zn zpT (.cT (.ae (.zn zg (.ret (rT (Fin.bw vT rfl ⟨H1,_,aq,rfl,.long aJ ai,hs.out⟩)))))))
  ·refine .T (.z (zfa du) (.T (.y hs (zld FM) (.T (.z (de dF) (.T (.z nJ (.zn zpF (.cg rfl (fun mJ=>?_) (fun mJ=>?_))))))))))
   ·exact .ae (.zn zg (.ret (rT (Fin.bw vT rfl ⟨H1,_,aq,rfl,.long aJ ai,hs.out⟩))))
   ·refine .skip (nT (.seq (.ae (.z (zfa bq) (.y hs (zld fT) (.z (de bn) (.zn zm (.for (N:=s.rs.length) (J:=fun k fr w=>fr=[(26,.slice ar s.rs.length cr),(1,Pt b1)]∧(∀j<k,∀y,s.rs[j]? =some y→lZ s.sp y)∧St H1 w (.blk b1 [I s.sp.id,I s.sp.src,.slice gQ s.sp.st.length gO,.slice gy s.sp.wa.length gw,I s.sp.al,I s.sp.up,.slice ar s.rs.length cr,.slice ac s.cs.length cc]::σ)) ai ?_ ?_ ?_))))))))
    ·exact .mk ⟨rfl,fun j hj=>by omega,hs⟩
    ·rintro k fr w hk ⟨rfl,fV,hs⟩;obtain ⟨r,hx⟩:=nth hk;refine .block (.ae (.ixX (enc:=Rdg.c) hs (h3.mono aq) rfl rfl bn bD hx dG ?_));intro TC o30 tJ;refine .q hs (bH (vs:=(Rdg.c r)) rfl kF bD tJ) (.o (.alloc hs dZ rfl fun b5 w hs=>?_));refine .o (.aE (vs:=r.c) hs rfl rfl bD fun w hs=>?_);change St _ _ (.blk b5 [I r.src,I r.st,I r.wa,I r.val,I r.tol,I r.tape,I r.day]::_) at hs;refine .nil (.ae (.z (zfa aK) (.y hs (zls [_,_,_,_,_,_] bC aT) (.y hs (zls [_,_,_,_,_,_,_] kF bD) (.o (.call call120 rfl (kG (s:=s.sp) (r:=r) hs (h1.mono aq) (h2.mono aq)) ?_))))));rintro _ w ⟨UU,rfl,E7,hs⟩;refine .zn ia (.cond rfl (fun qk=>?_) (fun qk=>?_))
     ·exact .ae (.zn zg (.ret (rB (rT (rB (rT (Fin.bw vT rfl ⟨H1,_,aq,rfl,.rdg aJ ai (fun h=>by rw [E7.2 (h r (List.mem_of_getElem? hx))] at qk;cases qk),hs.out⟩)))))))
     ·exact .skip (nB (nT (.mk ⟨rfl,fY fV hx (E7.1 (by simpa using qk)),hs.tail⟩)))
    ·rintro fr w ⟨rfl,fV,hs⟩;have Ue:∀r∈s.rs,lZ s.sp r:=fun r hr=>by
      obtain ⟨j,hj⟩:=List.getElem?_of_mem hr;exact fV j (List.getElem?_eq_some_iff.1 hj).1 r hj
     clear fV;refine nT (.seq (.ae (.z (zfa du) (.y hs (zld FM) (.z (de dF) (.zn zm (.for (N:=s.cs.length) (J:=fun k fr w=>fr=[(39,.slice ac s.cs.length cc),(1,Pt b1)]∧(∀j<k,∀y,s.cs[j]? =some y→vS y)∧St H1 w (.blk b1 [I s.sp.id,I s.sp.src,.slice gQ s.sp.st.length gO,.slice gy s.sp.wa.length gw,I s.sp.al,I s.sp.up,.slice ar s.rs.length cr,.slice ac s.cs.length cc]::σ)) ai ?_ ?_ ?_)))))))
     ·exact .mk ⟨rfl,fun j hj=>by omega,hs⟩
     ·rintro k fr w hk ⟨rfl,fV,hs⟩;obtain ⟨c,hx⟩:=nth hk;refine .block (.ae (.ixX (enc:=Cmp.c) hs (h4.mono aq) rfl rfl dF kd hx dG ?_));intro Z1 o43 MU;refine .q hs (bH (vs:=(Cmp.c c)) rfl isAgg153 kd MU) (.o (.alloc hs Ed rfl fun b7 w hs=>?_));refine .o (.aE (vs:=c.c) hs rfl rfl kd fun w hs=>?_);change St _ _ (.blk b7 [I c.src,I c.tape,I c.fr,I c.to,I c.lo,I c.hi]::_) at hs;refine .nil (.ae (.y hs (zls [_,_,_,_,_,_] isAgg153 kd) (.o (.call call170 rfl (pD (c:=c) hs) ?_))));rintro _ w ⟨Z0,rfl,MX,hs⟩;refine .zn ia (.cond rfl (fun tI=>?_) (fun tI=>?_))
      ·exact .ae (.zn zg (.ret (rB (rT (rB (rT (Fin.bw vT rfl ⟨H1,_,aq,rfl,.cmp aJ ai Ue (fun h=>by rw [MX.2 (h c (List.mem_of_getElem? hx))] at tI;cases tI),hs.out⟩)))))))
      ·exact .skip (nB (nT (.mk ⟨rfl,fY fV hx (MX.1 (by simpa using tI)),hs.tail⟩)))
     ·rintro fr w ⟨rfl,fV,hs⟩;have Uy:∀c∈s.cs,vS c:=fun c hc=>by
       obtain ⟨j,hj⟩:=List.getElem?_of_mem hc;exact fV j (List.getElem?_eq_some_iff.1 hj).1 c hj
      have Q5:s.early:=⟨aJ,ai,ai,Ue,Uy⟩;have oa:=eG aJ;have Cw:s.cC.length≤60:=by have:=dD s.rs;have:=Q5.2.1;unfold Srv.cC;omega
      have yK:=nf Q5 6 ai;rw [s.Bz] at yK;have hsm2:s.sys.many=((s.sp.many+s.cC.length:Nat):Int):=rfl;refine nT (.seq (.ae (.y hs (zls [_,_,_,_,_,_,_,_] aP aC) (.o (.call call133 rfl (fK (s:=s) hs (h1.mono aq) (h2.mono aq) (h3.mono aq) (h4.mono aq) Q5) ?_)))));rintro _ w ⟨H2,aQ,⟨ul,rfl,hL⟩,hs⟩;obtain ⟨al,cl,rfl⟩:=RL.shape hL;have hsl:s.sys.cJ.length=s.cJ.length:=rfl;refine .o (.alloc hs gZ rfl fun b8 w hs=>?_);refine .o (.aE (vs:=[_,_]) hs rfl rfl bg fun w hs=>?_);refine .nil (.ae (.z (zfa bU) (.y hs (zld aj) (.z nJ (.z zm (.iY (t':=54) rfl (fun W8=>?_) (fun W8=>?_)))))))
      ·exact .Fs 4 3 false (.zn zpT (.cT (.ae (.zn zg (.ret (rT (Fin.bw vT rfl ⟨H2,_,aq.trans aQ,rfl,.big Q5 ai,hs.out⟩)))))))
      ·refine .T (.z (zfa bM) (.T (.y hs (zld eL) (.T (.z (de aU) (.T (.z nJ (.zn zpF (.cg rfl (fun WU=>?_) (fun WU=>?_))))))))))
       ·exact .ae (.zn zg (.ret (rT (Fin.bw vT rfl ⟨H2,_,aq.trans aQ,rfl,.big Q5 ai,hs.out⟩))))
       ·exact .skip (nT (.ae (.zn zg (.ret (Fin.bw vT rfl ⟨H2,_,aq.trans aQ,rfl,.ok Q5 ⟨ai,ai⟩,hs.out⟩)))))
theorem iq{w:World}(hs:St H w σ):Z4 167 [I a0,I a1,I a2] w fun v w'=>v= .bool (decide (a1≤a0∧a0≤a2))∧St H w' σ:=by
 refine Cl.o func167 ntmps167 ag3 ?_;refine .ae (.zn zg (.ae (.z zm (.z zm (.z Ct (.z zm (.iY (t':=10) rfl (fun sH=>?_) (fun sH=>?_))))))))
 ·exact .T (.z zm (.T (.z zm (.T (.z sY (.z zpT (.zn zg (.ret (Fin.bw results167 rfl ⟨by simp [*],hs.out⟩)))))))))
 ·exact .Fs 3 3 true (.z zpF (.zn zg (.ret (Fin.bw results167 rfl ⟨by simp [*],hs.out⟩))))
theorem OX{s:Spc}(h:eZ s):ji 9 100000 s.wa:=⟨h.wa.two,by have:=h.wa.many;omega,h.wa.low,by have:=h.wa.high;omega,h.wa.rise⟩
theorem ou{w:World}{s:Spc}{r:Rdg}(hs:St H w σ)(h1:RI H bV s.st)(h2:RI H bS s.wa):
  Z4 150 [.agg #[I s.id,I s.src,bV,bS,I s.al,I s.up],.agg #[I r.src,I r.st,I r.wa,I r.val,I r.tol,I r.tape,I r.day]] w fun v w'=>∃b:Bool,v= .bool b∧(b=true↔lZ s r)∧St H w' σ:=by
 obtain ⟨gQ,gO,rfl⟩:=RI.shape h1;obtain ⟨gy,gw,rfl⟩:=RI.shape h2;have l1:=(RI.len h1).2.2;have l2:=(RI.len h2).2.2;refine Cl.o func150 ntmps150 ag2 ?_;refine .ae (.bx hs fun b2 w hs=>?_);refine .bx hs fun b3 w hs=>?_
 refine .zn zg (.ae (.z (zfa iK) (.y hs (zld aj) (.o (.call Yu rfl (iq hs) ?_)))));rintro _ w ⟨rfl,hs⟩;refine .z zm (.bif (t':=8) rfl (fun Od=>?_) (fun Od=>?_))
 ·refine .T ?_;refine .z (zfa iJ) (.T (.y hs (zld aj) (.T (.z (zfa bE) (.T (.y hs (zld an) (.T (.z (de af) (.T (.z iX (.T (.o (.call Yu rfl (iq hs) ?_)))))))))))));rintro _ w ⟨rfl,hs⟩;refine .z zpT (.z zm (.bif (t':=17) rfl (fun Ac=>?_) (fun Ac=>?_)))
  ·refine .T ?_;refine .z (zfa iI) (.T (.y hs (zld aj) (.T (.z (zfa aZ) (.T (.y hs (zld an) (.T (.z (de af) (.T (.z iX (.T (.o (.call Yu rfl (iq hs) ?_)))))))))))));rintro _ w ⟨rfl,hs⟩;refine .z zpT (.z zm (.bif (t':=26) rfl (fun P7=>?_) (fun P7=>?_)))
   ·refine .T (.z (zfa dE) (.T (.y hs (zld aj) (.T (.o (.call Yu rfl (iq hs) ?_))))));rintro _ w ⟨rfl,hs⟩;refine .z zpT (.z zm (.bif (t':=31) rfl (fun Km=>?_) (fun Km=>?_)))
    ·refine .T (.z (zfa fi) (.T (.y hs (zld aj) (.T (.z (zfa dE) (.T (.y hs (zld aj) (.T ?_))))))));have ht:0≤r.tol∧r.tol≤1000:=by simp_all
     refine .z iX (.T (.o (.call Yu rfl (iq hs) ?_)));rintro _ w ⟨rfl,hs⟩;refine .z zpT (.z zm (.bif (t':=39) rfl (fun Kl=>?_) (fun Kl=>?_)))
     ·refine .T (.z (zfa fh) (.T (.y hs (zld aj) (.T (.o (.call Yu rfl (iq hs) ?_))))));rintro _ w ⟨rfl,hs⟩;refine .z zpT (.z zm (.bif (t':=44) rfl (fun HW=>?_) (fun HW=>?_)))
      ·refine .T (.z (zfa fg) (.T (.y hs (zld aj) (.T (.o (.call Yu rfl (iq hs) ?_))))));rintro _ w ⟨rfl,hs⟩;refine .z zpT (.zn zg (.ret (Fin.bw CL rfl ?_)));first
       |exact ⟨false,rfl,⟨fun h=>(by cases h),fun h=>(by obtain ⟨g1,g2,g3,g4,g5,g6,g7⟩:=h;simp_all;done)⟩,hs.out⟩
       |exact ⟨_,rfl,⟨fun h=>⟨by simp_all,by simp_all,by simp_all,by simp_all,by simp_all,by simp_all,by simpa using h⟩,fun h=>by simpa using h.day⟩,hs.out⟩
      ·refine .Fs 3 39 true (.z zpF (.zn zg (.ret (Fin.bw CL rfl ?_))));first
       |exact ⟨false,rfl,⟨fun h=>(by cases h),fun h=>(by obtain ⟨g1,g2,g3,g4,g5,g6,g7⟩:=h;simp_all;done)⟩,hs.out⟩
       |exact ⟨_,rfl,⟨fun h=>⟨by simp_all,by simp_all,by simp_all,by simp_all,by simp_all,by simp_all,by simpa using h⟩,fun h=>by simpa using h.day⟩,hs.out⟩
     ·refine .Fs 3 34 true (.z zpF (.z zm (.Fs 3 39 true (.z zpF (.zn zg (.ret (Fin.bw CL rfl ?_)))))));first
      |exact ⟨false,rfl,⟨fun h=>(by cases h),fun h=>(by obtain ⟨g1,g2,g3,g4,g5,g6,g7⟩:=h;simp_all;done)⟩,hs.out⟩
      |exact ⟨_,rfl,⟨fun h=>⟨by simp_all,by simp_all,by simp_all,by simp_all,by simp_all,by simp_all,by simpa using h⟩,fun h=>by simpa using h.day⟩,hs.out⟩
    ·refine .Fs 6 26 true (.z zpF (.z zm (.Fs 3 34 true (.z zpF (.z zm (.Fs 3 39 true (.z zpF (.zn zg (.ret (Fin.bw CL rfl ?_))))))))));first
     |exact ⟨false,rfl,⟨fun h=>(by cases h),fun h=>(by obtain ⟨g1,g2,g3,g4,g5,g6,g7⟩:=h;simp_all;done)⟩,hs.out⟩
     |exact ⟨_,rfl,⟨fun h=>⟨by simp_all,by simp_all,by simp_all,by simp_all,by simp_all,by simp_all,by simpa using h⟩,fun h=>by simpa using h.day⟩,hs.out⟩
   ·refine .Fs 3 21 true (.z zpF (.z zm (.Fs 6 26 true (.z zpF (.z zm (.Fs 3 34 true (.z zpF (.z zm (.Fs 3 39 true (.z zpF (.zn zg (.ret (Fin.bw CL rfl ?_)))))))))))));first
    |exact ⟨false,rfl,⟨fun h=>(by cases h),fun h=>(by obtain ⟨g1,g2,g3,g4,g5,g6,g7⟩:=h;simp_all;done)⟩,hs.out⟩
    |exact ⟨_,rfl,⟨fun h=>⟨by simp_all,by simp_all,by simp_all,by simp_all,by simp_all,by simp_all,by simpa using h⟩,fun h=>by simpa using h.day⟩,hs.out⟩
  ·refine .Fs 7 12 true (.z zpF (.z zm (.Fs 3 21 true (.z zpF (.z zm (.Fs 6 26 true (.z zpF (.z zm (.Fs 3 34 true (.z zpF (.z zm (.Fs 3 39 true (.z zpF (.zn zg (.ret (Fin.bw CL rfl ?_))))))))))))))));first
   |exact ⟨false,rfl,⟨fun h=>(by cases h),fun h=>(by obtain ⟨g1,g2,g3,g4,g5,g6,g7⟩:=h;simp_all;done)⟩,hs.out⟩
   |exact ⟨_,rfl,⟨fun h=>⟨by simp_all,by simp_all,by simp_all,by simp_all,by simp_all,by simp_all,by simpa using h⟩,fun h=>by simpa using h.day⟩,hs.out⟩
 ·refine .Fs 7 3 true (.z zpF (.z zm (.Fs 7 12 true (.z zpF (.z zm (.Fs 3 21 true (.z zpF (.z zm (.Fs 6 26 true (.z zpF (.z zm (.Fs 3 34 true (.z zpF (.z zm (.Fs 3 39 true (.z zpF (.zn zg (.ret (Fin.bw CL rfl ?_)))))))))))))))))));first
  |exact ⟨false,rfl,⟨fun h=>(by cases h),fun h=>(by obtain ⟨g1,g2,g3,g4,g5,g6,g7⟩:=h;simp_all;done)⟩,hs.out⟩
  |exact ⟨_,rfl,⟨fun h=>⟨by simp_all,by simp_all,by simp_all,by simp_all,by simp_all,by simp_all,by simpa using h⟩,fun h=>by simpa using h.day⟩,hs.out⟩
theorem iT{w:World}{s:Spc}(hs:St H w σ)(h1:RI H bV s.st)(h2:RI H bS s.wa)(hb:s.st.length≤1000∧s.wa.length≤1000):
  Z4 94 [.agg #[I s.id,I s.src,bV,bS,I s.al,I s.up]] w fun v w'=>v=I (s.many:Int)∧St H w' σ:=by
 obtain ⟨gQ,gO,rfl⟩:=RI.shape h1;obtain ⟨gy,gw,rfl⟩:=RI.shape h2;have hm:=ni (a:=(s.st.length:Int)) (b:=(s.wa.length:Int)) (A:=1000) (B:=1000) ai ai;refine Cl.o func94 ntmps94 ag1 ?_;refine .ae (.bx hs fun b1 w hs=>?_);exact .zn zg (.ae (.z (zfa bE) (.y hs (zld an) (.z (de af) (.z (zfa aZ) (.y hs (zld an) (.z (de af) (.z mV (.zn zg (.ret (Fin.bw results94 rfl ⟨by unfold Spc.many;rw [Int.natCast_mul],hs.out⟩)))))))))))
theorem ed{w:World}{s:Spc}(hs:St H w σ)(h2:RI H bS s.wa)(hb:s.wa.length≤1000)(ha: -1000≤a∧a≤1000)(hb': -1000≤b∧b≤1000):
  Z4 93 [.agg #[I s.id,I s.src,bV,bS,I s.al,I s.up],I a,I b] w fun v w'=>v=I (1+a*s.wa.length+b)∧St H w' σ:=by
 obtain ⟨gy,gw,rfl⟩:=RI.shape h2;have hm:=ni (a:=a) (b:=(s.wa.length:Int)) (A:=1000) (B:=1000) ai ai;refine Cl.o func93 ntmps93 ag3 ?_;refine .ae (.bx hs fun b3 w hs=>?_);exact .zn zg (.ae (.z zm (.z (zfa aZ) (.y hs (zld an) (.z (de af) (.z mV (.z cD (.z zm (.z cD (.zn zg (.ret (Fin.bw results93 rfl ⟨rfl,hs.out⟩))))))))))))
theorem nO{w:World}(hs:St H w σ)(ha:0≤a∧a≤100000)(hb:0≤b∧b≤100000):
  Z4 211 [I a,I b] w fun v w'=>v=I (lQ a b)∧St H w' σ:=by
 have hm:=ni (a:=a) (b:=b) (A:=100000) (B:=100000) ai ai;have h0:=Int.mul_nonneg ha.1 hb.1;have MJ:0≤(a*b+999).tdiv 1000:=Int.tdiv_nonneg ai ai;have NU:(a*b+999).tdiv 1000≤a*b+999:=by rw [Int.tdiv_eq_ediv_of_nonneg ai];omega
 refine Cl.o func211 ntmps211 ag2 ?_;exact .ae (.zn zg (.ae (.z zm (.z zm (.z mV (.z cD (.q hs (wg rfl rfl ai ai) (.z G5 (.zn zg (.ret (Fin.bw results211 rfl ⟨rfl,hs⟩)))))))))))
theorem mC{w:World}{m s:Int}(hs:St H w σ):
  Z4 210 [I a,I b,I m,I s] w fun v w'=>∃b0,v= .slice (some ⟨b0,0,none⟩) 2 2∧St H w' (.blk b0 (iL (two a b m m s))::σ):=by
 refine Cl.o func210 ntmps210 ag4 ?_;refine .ae (.zn zg (.ae (.z zm (.z zm (.z zm (.z zm (.z (zbd [_,_,_,_] eP) (.z zm (.z zm (.z zm (.z zm (.z (zbd [_,_,_,_] eP) (.o (.buildSlice (cells:=iL (two a b m m s)) hs gx rfl az fun Ak w hs=>?_))))))))))))));exact .zn zg (.ret (Fin.bw results210 rfl ⟨Ak,rfl,hs⟩))
theorem yf{w:World}{c:Cmp}(hs:St H w σ)(w7: -1000000≤c.lo∧c.lo≤1000000):
  Z4 212 [.agg #[I c.src,I c.tape,I c.fr,I c.to,I c.lo,I c.hi],.agg #[I t.tape,I t.day],I f] w fun v w'=>∃en,cz 4 v (iL (nt c t f)) en∧St H w' (en::σ):=by
 refine Cl.o func212 ntmps212 ag3 ?_;refine .ae (.bx hs fun b3 w hs=>?_);refine .bx hs fun b4 w hs=>?_
 refine .zn zg (.seq (.ae (.z (zfa lU) (.y hs (zld aj) (.z (zfa po) (.y hs (zld aj) (.z ez (.z zm (.Eo (t':=12) rfl (fun Kt=>?_) (fun Kt=>?_))))))))))
 ·exact .Fs 5 5 false (.z zpT (.z zm (.Fs 5 12 false (.zn zpT (.cT (.ae (.zn zg (.ret (rT (Fin.bw results212 rfl ⟨.nul,by unfold nt;rw [if_neg ai];exact .nil 4 none,hs.tail.tail.nul⟩))))))))))
 ·refine .T (.z (zfa lR) (.T (.y hs (zld aj) (.T (.z (zfa lT) (.T (.y hs (zld aj) (.T (.z ju (.z zpF (.z zm (.iY (t':=19) rfl (fun BR=>?_) (fun BR=>?_)))))))))))))
  ·exact .Fs 5 12 false (.zn zpT (.cT (.ae (.zn zg (.ret (rT (Fin.bw results212 rfl ⟨.nul,by unfold nt;rw [if_neg ai];exact .nil 4 none,hs.tail.tail.nul⟩)))))))
  ·refine .T (.z (zfa lR) (.T (.y hs (zld aj) (.T (.z (zfa jK) (.T (.y hs (zld aj) (.T (.z nJ (.zn zpF (.cg rfl (fun jT=>?_) (fun jT=>?_))))))))))))
   ·exact .ae (.zn zg (.ret (rT (Fin.bw results212 rfl ⟨.nul,by unfold nt;rw [if_neg ai];exact .nil 4 none,hs.tail.tail.nul⟩))))
   ·refine .skip (nT (.ae (.z zm (.z (zfa lS) (.y hs (zld aj) (.z G4 (.z (zfa jL) (.y hs (zld aj) (.z (zbd [_,_,_,_] eP) (.z zm (.z (zfa jJ) (.y hs (zld aj) (.z (zfa jL) (.y hs (zld aj) (.z (zbd [_,_,_,_] eP) (.o (.buildSlice (cells:=iL (two 0 f (-c.lo) c.hi c.src)) hs gx rfl az fun US w hs=>?_)))))))))))))))));exact .zn zg (.ret (Fin.bw results212 rfl ⟨_,by unfold nt;rw [if_pos ai];exact .full (by simp [two,fj]),hs.sb⟩))
theorem lI{w:World}{v:Value}{xs:List TD}(hs:St H w σ)(hr:RTd H v xs)(hl:xs.length≤1000000):
  Z4 95 [v,.agg #[I t.tape,I t.day]] w fun u w'=>u=I (lH xs t)∧St H w' σ:=by
 obtain ⟨a,c,rfl⟩:=RTd.shape hr;refine Cl.o func95 ntmps95 ag2 ?_;refine .ae (.bx hs fun b3 w hs=>?_);refine .zn zg (.seq (.ae (.zn zg (.block ?_))));refine .loop (fun k:Nat=>⟨19,[],[(5,I (k:Int)),(3,Pt b3),(0,.slice a xs.length c)]⟩)
  (fun k w=>k≤xs.length∧(∀j<k,∀y,xs[j]? =some y→¬y=t)∧St H w (.blk b3 [I t.tape,I t.day]::σ)) (fun k=>xs.length - k) 0 (.dc rfl bB aW)
  ⟨Nat.zero_le _,fun j hj=>by omega,hs⟩ ?_
 rintro k w ⟨hk,fV,hs⟩;refine .seq (.ae (.z zm (.z zm (.z (de bR) (.zn ju (.cg rfl (fun mW=>?_) (fun mW=>?_)))))))
 ·refine .skip (nT (.seq (.block (.seq (.draw mix rfl hs fun w hs=>?_)))));refine .zw 0 rfl zm ?_;refine .z 1 rfl zm ?_;obtain ⟨x,hx⟩:=nth (l:=xs) (k:=k) ai;refine .ixX (enc:=TD.c) (i:=2) hs rfl az .none hr rfl rfl bR cZ hx dG ?_;intro ka o14 js;refine .r (i:=3) hs rfl az .none (bH (vs:=x.c) rfl jo cZ js) ?_;refine .zv 4 rfl hs (Gg [_,_] jo cZ) ?_;refine .z 5 rfl (C4 xr xt mq (fun f hf=>by
   simp only [List.mem_cons,List.not_mem_nil,or_false] at hf
   rcases hf with rfl|rfl<;>exact ⟨by decide,bF,aj⟩) rfl rfl) ?_
  refine .D hs (.cond rfl (fun iy=>?_) (fun iy=>?_))
  ·refine .ae (.z zm (.zn zg (.ret (rB (rT (rT (rB (rT (Fin.bw results95 rfl ?_)))))))));have e:x=t:=LI.1 (of_decide_eq_true iy);subst e;exact ⟨by rw [s7 hx fun j hj h=>fV j hj _ h rfl],hs.tail⟩
  ·exact .skip (nB (nT (.region (.z zm (.z cD (.zn zg (nT ⟨k+1,.dc rfl bB aW,⟨ai,fY fV hx (fun e=>by subst e;simp at iy),hs⟩,ai⟩)))))))
 ·refine .exit (xT (xT (xB (nT (.ae (.zn zg (.ret (Fin.bw results95 rfl ?_))))))));obtain rfl:k=xs.length:=by omega
  exact ⟨by rw [Bk fV],hs.tail⟩
theorem p6{w:World}{v:Value}{xs:List TD}(hs:St H w (en::σ))(hO:cz 2 v (tdc xs).flatten en)(hl:xs.length≤1000000):
  Z4 95 [v,.agg #[I t.tape,I t.day]] w fun u w'=>u=I (lH xs t)∧St H w' (en::σ):=by
 obtain ⟨a,c,rfl⟩:=hO.iG (rZ xs) ai;rw [eM] at hO ⊢;refine Cl.o func95 ntmps95 ag2 ?_;refine .ae (.bx hs fun b3 w hs=>?_);refine .zn zg (.seq (.ae (.zn zg (.block ?_))));refine .loop (fun k:Nat=>⟨19,[],[(5,I (k:Int)),(3,Pt b3),(0,.slice a xs.length c)]⟩)
  (fun k w=>k≤xs.length∧(∀j<k,∀y,xs[j]? =some y→¬y=t)∧St H w (.blk b3 [I t.tape,I t.day]::en::σ)) (fun k=>xs.length - k) 0 (.dc rfl bB aW)
  ⟨Nat.zero_le _,fun j hj=>by omega,hs⟩ ?_
 rintro k w ⟨hk,fV,hs⟩;refine .seq (.ae (.z zm (.z zm (.z (de bR) (.zn ju (.cg rfl (fun mW=>?_) (fun mW=>?_)))))))
 ·refine .skip (nT (.seq (.block (.seq (.draw mix rfl hs fun w hs=>?_)))));refine .zw 0 rfl zm ?_;refine .z 1 rfl zm ?_;obtain ⟨x,hx⟩:=nth (l:=xs) (k:=k) ai;obtain ⟨b,c',sp,hv,rfl,_⟩:=hO.Tz (rZ xs) ai (by rw [eM];omega);rw [eM] at hv;cases hv
  refine .zw 2 rfl (CO bR cZ) (.EP (i:=3) (vs:=x.c) hs rfl az .none rfl jo cZ ?_ (hv:=Ga (rZ xs) (IS hx) sp));refine .zv 4 rfl hs (Gg [_,_] jo cZ) ?_;refine .z 5 rfl (C4 xr xt mq (fun f hf=>by
   simp only [List.mem_cons,List.not_mem_nil,or_false] at hf
   rcases hf with rfl|rfl<;>exact ⟨by decide,bF,aj⟩) rfl rfl) ?_
  refine .D hs (.cond rfl (fun iy=>?_) (fun iy=>?_))
  ·refine .ae (.z zm (.zn zg (.ret (rB (rT (rT (rB (rT (Fin.bw results95 rfl ?_)))))))));have e:x=t:=LI.1 (of_decide_eq_true iy);subst e;exact ⟨by rw [s7 hx fun j hj h=>fV j hj _ h rfl],hs.tail⟩
  ·exact .skip (nB (nT (.region (.z zm (.z cD (.zn zg (nT ⟨k+1,.dc rfl bB aW,⟨ai,fY fV hx (fun e=>by subst e;simp at iy),hs⟩,ai⟩)))))))
 ·refine .exit (xT (xT (xB (nT (.ae (.zn zg (.ret (Fin.bw results95 rfl ?_))))))));obtain rfl:k=xs.length:=by omega
  exact ⟨by rw [Bk fV],hs.tail⟩
set_option maxHeartbeats 1000000 in
theorem jH{w:World}{rs:List Rdg}(hs:St H w σ)(hr:RRd H vr rs)(hl:rs.length≤1000000):
  Z4 96 [vr] w fun u w'=>∃H1,HLe H H1∧RTd H1 u (aS rs)∧St H1 w' σ:=by
 obtain ⟨ar,cr,rfl⟩:=RRd.shape hr;refine Cl.o func96 ntmps96 ag1 ?_;refine .ae (.zn zg (.ae (.zn zg (.seq (.ae (.zn zg (.block ?_)))))));refine .loop (fun p:Nat×Value=>⟨32,[],[(4,I (p.1:Int)),(3,p.2),(0,.slice ar rs.length cr)]⟩)
  (fun p w=>p.1≤rs.length∧∃en,cz 2 p.2 (tdc (aS (rs.take p.1))).flatten en∧St H w (en::σ)) (fun p=>rs.length - p.1) (0,.slice none 0 0) aW
  ⟨Nat.zero_le _,_,.nil 2 none,hs.nul⟩ ?_
 rintro ⟨k,vo⟩ w ⟨hk,en,hO,hs⟩;dsimp only at hk hO ⊢;have Cw:=my rs k ai;obtain ⟨ao,co,rfl⟩:=hO.iG (rZ _) ai;rw [eM] at hO ⊢;refine .seq (.ae (.z zm (.z zm (.z (de bn) (.zn ju (.cg rfl (fun mW=>?_) (fun mW=>?_)))))))
 ·refine .skip (nT (.seq (.block (.seq (.draw mix rfl hs fun w hs=>?_)))));refine .zw 0 rfl zm ?_;refine .z 1 rfl zm ?_;obtain ⟨r,hx⟩:=nth (l:=rs) (k:=k) ai;have NS:=kW hx;refine .ixX (enc:=Rdg.c) (i:=2) hs rfl az .none hr rfl rfl bn bD hx dG ?_;intro ka o14 js;have d14:cellAt H ka (o14+5)=some (I r.tape):=js 5 _ rfl;refine .zw 3 rfl (zfa fh) ?_;refine .y 4 rfl hs aj ?_;refine .z 5 rfl zm ?_;refine .z 6 rfl zm ?_;refine .ixX (enc:=Rdg.c) (i:=7) hs rfl az .none hr rfl rfl bn bD hx dG ?_;intro Ak o19 oG;have d19:cellAt H Ak (o19+6)=some (I r.day):=oG 6 _ rfl;refine .zw 8 rfl (zfa fg) ?_;refine .y 9 rfl hs aj ?_;refine .z 10 rfl (zbd [_,_] jh) ?_;refine .E 11 hs ?_;refine .alloc hs uE rfl ?_;intro b5 w hs;refine .go (.E 12 hs ?_);refine .aE (vs:=[_,_]) hs rfl rfl cZ ?_;intro w hs;refine .go (.D hs (.ae (.z zm (.y hs (zls [_,_] jo cZ) (.o (.call call95 rfl (p6 (t:=r.td) (hs.sb:St H w (en:: .blk b5 [I r.tape,I r.day]::σ)) hO ai) ?_))))));rintro _ w ⟨rfl,hs⟩;have Cy:=vY (l:=aS (rs.take k)) (t:=r.td);refine .zn ju (.cg rfl (fun jy=>?_) (fun jy=>?_))
  ·refine .region (.z zm (.y hs (zls [_,_] jo cZ) (.o (.buildSlice (cells:=[_,_]) hs jA rfl rfl fun XV w hs=>?_))));refine .o (.append (ys:=r.td.c) hs eW rfl rfl hO (.own .here rfl rfl) (by simp [TD.c,Value.oneCell']) (fun l h=>by rw [bX _ (rZ _),eM] at h;omega) ?_);intro v30 en30 w eb hs;refine .zn zg (nB (nT (.region (.z zm (.z cD (.zn zg (nT ?_)))))));have hn:r.td∉aS (rs.take k):=fun hm=>by have:=Cy.2 hm;omega
   rw [←Bj,show aS (rs.take k)++[r.td]=aS (rs.take (k+1)) by rw [NS];unfold uo;rw [if_neg hn]] at eb;exact ⟨(k+1,v30),.dc rfl bB aW,⟨by dsimp only;omega,_,eb,hs.sb⟩,by dsimp only;omega⟩
  ·refine .skip (nB (nT (.region (.z zm (.z cD (.zn zg (nT ?_)))))));have hm:r.td∈aS (rs.take k):=Cy.1 ai;exact ⟨(k+1,_),.dc rfl bB aW,⟨by dsimp only;omega,en,by dsimp only;rw [NS];unfold uo;rw [if_pos hm];exact hO,hs.sb⟩,by dsimp only;omega⟩
 ·refine .exit (xT (xT (xB (nT (.ae (.z zm (.zn zg (.ret (Fin.bw results96 rfl ?_)))))))));obtain rfl:k=rs.length:=by omega
  rw [List.take_length] at hO;have Cw:=dD rs;obtain ⟨H2,aQ,hR,hs⟩:=cz.bZ (m:=2) (cs:=tdc (aS rs)) hO (rZ _) ai (by rw [eM];omega) hs .here;rw [List.take_length];exact ⟨H2,aQ,hR,hs⟩
theorem IL(s:Spc)(i k:Nat):1+(i:Int)*(s.wa.length:Int)+(k:Int)=(s.u i k:Int):=by
 unfold Spc.u;rw [Int.natCast_add,Int.natCast_add,Int.natCast_mul];rfl
theorem Rr(s:Spc)(i k:Nat):1+((i:Int)+1)*(s.wa.length:Int)+(k:Int)=(s.u (i+1) k:Int):=by
 rw [←IL];rfl
theorem Rq(s:Spc)(i k:Nat):1+(i:Int)*(s.wa.length:Int)+((k:Int)+1)=(s.u i (k+1):Int):=by
 rw [←IL];rfl
theorem nh{f:Nat→Nat→List Lim}(hf:∀i k,(f i k).length≤2)(i:Nat):∀k,(nS f i k).length≤2*k
 |0=>by simp [nS]
 |k+1=>by have:=nh hf i k;have:=hf i k;simp only [nS,List.length_append];omega
theorem nR{f:Nat→Nat→List Lim}(hf:∀i k,(f i k).length≤2){m n:Nat}(hm:m≤7)(hn:n≤9)(h0:0<m):(eD f m n).length≤126:=by
 have h1:=fD hf (n:=n) h0;have:n*m≤9*7:=Nat.mul_le_mul hn hm;omega
theorem Qx{s:Spc}(h0:0<s.st.length):eD (alL s) s.wa.length s.st.length=eD (alL s) s.wa.length (s.st.length - 1):=by
 obtain ⟨n,hn⟩:∃n,s.st.length=n+1:=⟨s.st.length - 1,ai⟩;have key:∀k,nS (alL s) n k=[]:=by
  intro k
  induction k with
  |zero=>rfl
  |succ k ih=>simp only [nS];rw [ih];unfold alL;rw [if_neg ai];rfl
 rw [hn,Nat.add_sub_cancel];simp only [eD];rw [key,List.append_nil]
theorem OO{s:Spc}(i:Nat)(h0:0<s.wa.length):nS (upL s) i s.wa.length=nS (upL s) i (s.wa.length - 1):=by
 obtain ⟨n,hn⟩:∃n,s.wa.length=n+1:=⟨s.wa.length - 1,ai⟩;have e:upL s i n=[]:=by unfold upL;rw [if_neg ai]
 rw [hn,Nat.add_sub_cancel];simp only [nS];rw [e,List.append_nil]
set_option maxHeartbeats 4000000 in
theorem wT{w:World}(hs:St H w σ)(h1:RI H bV s.sp.st)(h2:RI H bS s.sp.wa)(h3:RRd H vr s.rs)(h4:RCm H vc s.cs)(he:s.early):
  Z4 152 [.agg #[I s.sp.id,I s.sp.src,bV,bS,I s.sp.al,I s.sp.up,vr,vc]] w fun u w'=>∃H1 en,HLe H H1∧cz 4 u (iL s.cJ) en∧St H1 w' (en::σ):=by
 obtain ⟨gQ,gO,rfl⟩:=RI.shape h1;obtain ⟨gy,gw,rfl⟩:=RI.shape h2;obtain ⟨ar,cr,rfl⟩:=RRd.shape h3;obtain ⟨ac,cc,rfl⟩:=RCm.shape h4;obtain ⟨aJ,Cx,ob,Ue,Uy⟩:=he;have oa:=eG aJ;have uz:=aJ.st.many;have Um:=aJ.wa.many;have hn3:=aJ.st.two;have hn4:=aJ.wa.two;have ha:=nR (oM s.sp) (m:=s.sp.wa.length) (n:=s.sp.st.length) ai ai ai;have hb:=nR (sP s.sp) (m:=s.sp.wa.length) (n:=s.sp.st.length) ai ai ai;have hc:=nR (rY s.sp) (m:=s.sp.wa.length) (n:=s.sp.st.length) ai ai ai;have CC:=aJ.al;have Ps:=aJ.up;refine Cl.o func152 ntmps152 ag1 ?_;refine .ae (.bx hs fun b1 w hs=>?_);refine .zn zg (.ae (.z (zfa aK) (.y hs (zls [_,_,_,_,_,_] bC aT) (.o (.alloc hs rD rfl fun b3 w hs=>?_)))));refine .o (.aE (vs:=[_,_,_,_,_,_]) hs rfl rfl aT fun w hs=>?_);refine .nil (.ae (.zn zg (.seq (.ae (.zn zg (.block ?_))))));refine .loop (fun p:Nat×Value=>⟨243,[],[(5,I (p.1:Int)),(4,p.2),(3,Pt b3),(1,Pt b1)]⟩)
  (fun p w=>p.1≤s.sp.st.length∧∃en,cz 4 p.2 (iL (eD (tU s.sp) s.sp.wa.length p.1)) en∧St H w (en:: .blk b3 [I s.sp.id,I s.sp.src,.slice gQ s.sp.st.length gO,.slice gy s.sp.wa.length gw,I s.sp.al,I s.sp.up]:: .blk b1 [I s.sp.id,I s.sp.src,.slice gQ s.sp.st.length gO,.slice gy s.sp.wa.length gw,I s.sp.al,I s.sp.up,.slice ar s.rs.length cr,.slice ac s.cs.length cc]::σ)) (fun p=>s.sp.st.length - p.1) (0,.slice none 0 0) aW
  ⟨by first|omega|exact Nat.zero_le _,_,.nil 4 none,hs.nul⟩ ?_
 rintro ⟨i,vo⟩ w ⟨hi,en,hO,hs⟩;dsimp only at hi hO ⊢;refine .seq (.ae (.z zm (.z (zfa bE) (.y hs (zld an) (.z (de af) (.zn ju (.cg rfl (fun pH=>?_) (fun pH=>?_))))))))
 ·refine .skip (nT (.seq (.block (.ae (.zn zg (.block ?_))))));refine .loop (fun p:Nat×Value=>⟨243,[],[(6,I (p.1:Int)),(4,p.2),(5,I (i:Int)),(3,Pt b3),(1,Pt b1)]⟩)
   (fun p w=>p.1≤s.sp.wa.length∧∃en,cz 4 p.2 (iL (eD (tU s.sp) s.sp.wa.length i++nS (tU s.sp) i p.1)) en∧St H w (en:: .blk b3 [I s.sp.id,I s.sp.src,.slice gQ s.sp.st.length gO,.slice gy s.sp.wa.length gw,I s.sp.al,I s.sp.up]:: .blk b1 [I s.sp.id,I s.sp.src,.slice gQ s.sp.st.length gO,.slice gy s.sp.wa.length gw,I s.sp.al,I s.sp.up,.slice ar s.rs.length cr,.slice ac s.cs.length cc]::σ)) (fun p=>s.sp.wa.length - p.1) (0,vo) aW
   ⟨by first|omega|exact Nat.zero_le _,en,by show cz 4 vo (iL (_++[])) en;rw [List.append_nil];exact hO,hs⟩ ?_
  clear hO hs;rintro ⟨k,vo⟩ w ⟨hk,en,hO,hs⟩;dsimp only at hk hO ⊢;have ML:=nR (oM s.sp) (m:=s.sp.wa.length) (n:=i) ai ai ai;have Ln:=nh (oM s.sp) i k;refine .seq (.ae (.z zm (.z (zfa aZ) (.y hs (zld an) (.z (de af) (.zn ju (.cg rfl (fun lP=>?_) (fun lP=>?_))))))))
  ·refine .skip (nT (.seq (.block (.ae (.y hs (zls [_,_,_,_,_,_] bC aT) (.z zm (.z zm (.o (.call Ys rfl (ed (s:=s.sp) hs h2 ai ⟨ai,ai⟩ ⟨ai,ai⟩) ?_)))))))));rintro _ w ⟨rfl,hs⟩;rw [IL];refine .zn zg (.region (.z zm (.z zm (.z (zfa ep) (.y hs (zld aj) (.z (zbd [_,_,_,_] eP) (.z zm (.z (zfa ep) (.y hs (zld aj) (.z (zbd [_,_,_,_] eP) (.o (.buildSlice (cells:=iL (tU s.sp i k)) hs gx rfl az fun ZZ w hs=>?_))))))))))));refine .o (.append (ys:=iL (tU s.sp i k)) hs cK rfl rfl hO (.own .here rfl rfl) (mR _) (fun l h=>by rw [fj,List.length_append] at h;omega) ?_);intro v51 en51 w eb hs;rw [←jk,List.append_assoc] at eb;exact .zn zg (nB (nT (.region (.z zm (.z cD (.zn zg (nT ⟨(k+1,v51),.dc rfl bB aW,⟨by dsimp only;omega,_,eb,hs.sb⟩,by dsimp only;omega⟩)))))))
  ·refine .exit (xT (xT (xB (nB (nT (.region (.z zm (.z cD (.zn zg (nT ?_))))))))));obtain rfl:k=s.sp.wa.length:=by omega
   exact ⟨(i+1,_),.dc rfl bB aW,⟨by dsimp only;omega,en,hO,hs⟩,by dsimp only;omega⟩
 ·refine .exit (xT (xT (xB (nT (.seq (.ae (.zn zg (.block ?_))))))));refine .loop (fun p:Nat×Value=>⟨243,[],[(8,I (p.1:Int)),(4,p.2),(3,Pt b3),(1,Pt b1)]⟩)
   (fun p w=>p.1+1≤s.sp.st.length∧∃en,cz 4 p.2 (iL (eD (tU s.sp) s.sp.wa.length s.sp.st.length++eD (alL s.sp) s.sp.wa.length p.1)) en∧St H w (en:: .blk b3 [I s.sp.id,I s.sp.src,.slice gQ s.sp.st.length gO,.slice gy s.sp.wa.length gw,I s.sp.al,I s.sp.up]:: .blk b1 [I s.sp.id,I s.sp.src,.slice gQ s.sp.st.length gO,.slice gy s.sp.wa.length gw,I s.sp.al,I s.sp.up,.slice ar s.rs.length cr,.slice ac s.cs.length cc]::σ)) (fun p=>s.sp.st.length - p.1) (0,vo) aW
   ⟨by first|omega|exact Nat.zero_le _,en,by show cz 4 vo (iL (_++[])) en;rw [List.append_nil,←show i=s.sp.st.length by omega];exact hO,hs⟩ ?_
  clear hO hs;rintro ⟨i,vo⟩ w ⟨hi,en,hO,hs⟩;dsimp only at hi hO ⊢;refine .seq (.ae (.z zm (.z cD (.z (zfa bE) (.y hs (zld an) (.z (de af) (.zn ju (.cg rfl (fun WV=>?_) (fun WV=>?_)))))))))
  ·refine .skip (nT (.seq (.block (.ae (.zn zg (.block ?_))))));refine .loop (fun p:Nat×Value=>⟨243,[],[(9,I (p.1:Int)),(4,p.2),(8,I (i:Int)),(3,Pt b3),(1,Pt b1)]⟩)
    (fun p w=>p.1≤s.sp.wa.length∧∃en,cz 4 p.2 (iL (eD (tU s.sp) s.sp.wa.length s.sp.st.length++eD (alL s.sp) s.sp.wa.length i++nS (alL s.sp) i p.1)) en∧St H w (en:: .blk b3 [I s.sp.id,I s.sp.src,.slice gQ s.sp.st.length gO,.slice gy s.sp.wa.length gw,I s.sp.al,I s.sp.up]:: .blk b1 [I s.sp.id,I s.sp.src,.slice gQ s.sp.st.length gO,.slice gy s.sp.wa.length gw,I s.sp.al,I s.sp.up,.slice ar s.rs.length cr,.slice ac s.cs.length cc]::σ)) (fun p=>s.sp.wa.length - p.1) (0,vo) aW
    ⟨by first|omega|exact Nat.zero_le _,en,by show cz 4 vo (iL (_++[])) en;rw [List.append_nil];exact hO,hs⟩ ?_
   clear hO hs;rintro ⟨k,vo⟩ w ⟨hk,en,hO,hs⟩;dsimp only at hk hO ⊢;have ML:=nR (sP s.sp) (m:=s.sp.wa.length) (n:=i) ai ai ai;have Ln:=nh (sP s.sp) i k;refine .seq (.ae (.z zm (.z (zfa aZ) (.y hs (zld an) (.z (de af) (.zn ju (.cg rfl (fun J8=>?_) (fun J8=>?_))))))))
   ·refine .skip (nT (.seq (.block (.draw mix rfl hs fun w hs=>?_))));refine .zw 0 rfl zm ?_;refine .ys 1 rfl hs [_,_,_,_,_,_] bC aT ?_;refine .z 2 rfl zm ?_;refine .z 3 rfl zm ?_;refine .ys 5 rfl hs [_,_,_,_,_,_] bC aT ?_;refine .z 6 rfl zm ?_;refine .z 7 rfl cD ?_;refine .z 8 rfl zm ?_;refine .z 10 rfl (zfa gE) ?_;refine .z 11 rfl (zfa oL) ?_;refine .y 12 rfl hs aj ?_;refine .z 13 rfl (zfa bE) ?_;refine .y 14 rfl hs an ?_;refine .z 15 rfl zm ?_;refine .z 16 rfl cD ?_;have PB:=aJ.st.rise i ai;have MJ:=aJ.st.bd (i:=i) ai;have NU:=aJ.st.bd (i:=i+1) ai;refine .ixX (enc:=fun x=>[I x]) (i:=17) hs rfl az .none h1 rfl rfl af ak (bL (l:=s.sp.st) (i:=(i+1)) ai) dG ?_;intro b84 o84 PU;replace PU:=bN.one PU;refine .r (i:=18) hs rfl az .none (aR rfl aj PU) ?_;refine .zw 19 rfl (zfa bE) ?_;refine .y 20 rfl hs an ?_;refine .z 21 rfl zm ?_;refine .ixX (enc:=fun x=>[I x]) (i:=22) hs rfl az .none h1 rfl rfl af ak (bL (l:=s.sp.st) (i:=i) ai) dG ?_;intro b89 o89 PT;replace PT:=bN.one PT;refine .r (i:=23) hs rfl az .none (aR rfl aj PT) ?_;refine .zw 24 rfl iX ?_;refine .z 26 rfl (zfa ep) ?_;refine .y 27 rfl hs aj ?_;refine .E 4 hs ?_;refine .call Ys rfl (ed (s:=s.sp) hs h2 ai ⟨ai,ai⟩ ⟨ai,ai⟩) ?_;rintro _ w ⟨rfl,hs⟩;rw [IL];refine .go (.E 9 hs ?_);refine .call Ys rfl (ed (s:=s.sp) hs h2 ai ⟨ai,ai⟩ ⟨ai,ai⟩) ?_;rintro _ w ⟨rfl,hs⟩;rw [Rr];refine .go (.E 25 hs ?_);refine .call call211 rfl (nO hs ai ai) ?_;rintro _ w ⟨rfl,hs⟩;refine .go (.E 28 hs ?_);refine .call call210 rfl (mC hs) ?_;rintro _ w ⟨b95,rfl,hs⟩;rw [show two (s.sp.u i k:Int) _ _ _ _=alL s.sp i k by unfold alL;rw [if_pos ai]] at hs;refine .go (.E 29 hs ?_);refine .append (ys:=iL (alL s.sp i k)) hs cK rfl rfl hO (.own .here bB (by rw [fj];unfold alL;rw [if_pos ai];rfl)) (mR _) (fun l h=>by rw [fj] at h;simp only [List.length_append] at h;omega) ?_;intro v96 en96 w eb hs;rw [←jk,List.append_assoc _ (nS _ _ _)] at eb;refine .go (.zw 30 rfl zg ?_);refine .D hs ?_;exact nB (nT (.region (.z zm (.z cD (.zn zg (nT ⟨(k+1,v96),.dc rfl bB aW,⟨by dsimp only;omega,_,eb,hs.sb⟩,by dsimp only;omega⟩))))))
   ·refine .exit (xT (xT (xB (nB (nT (.region (.z zm (.z cD (.zn zg (nT ?_))))))))));obtain rfl:k=s.sp.wa.length:=by omega
    rw [List.append_assoc] at hO;exact ⟨(i+1,_),.dc rfl bB aW,⟨by dsimp only;omega,en,hO,hs⟩,by dsimp only;omega⟩
  ·refine .exit (xT (xT (xB (nT (.seq (.ae (.zn zg (.block ?_))))))));refine .loop (fun p:Nat×Value=>⟨243,[],[(10,I (p.1:Int)),(4,p.2),(3,Pt b3),(1,Pt b1)]⟩)
    (fun p w=>p.1≤s.sp.st.length∧∃en,cz 4 p.2 (iL (eD (tU s.sp) s.sp.wa.length s.sp.st.length++eD (alL s.sp) s.sp.wa.length s.sp.st.length++eD (upL s.sp) s.sp.wa.length p.1)) en∧St H w (en:: .blk b3 [I s.sp.id,I s.sp.src,.slice gQ s.sp.st.length gO,.slice gy s.sp.wa.length gw,I s.sp.al,I s.sp.up]:: .blk b1 [I s.sp.id,I s.sp.src,.slice gQ s.sp.st.length gO,.slice gy s.sp.wa.length gw,I s.sp.al,I s.sp.up,.slice ar s.rs.length cr,.slice ac s.cs.length cc]::σ)) (fun p=>s.sp.st.length - p.1) (0,vo) aW
    ⟨by first|omega|exact Nat.zero_le _,en,by show cz 4 vo (iL (_++[])) en;rw [List.append_nil,Qx ai,←show i=s.sp.st.length - 1 by omega];exact hO,hs⟩ ?_
   clear hO hs;rintro ⟨i,vo⟩ w ⟨hi,en,hO,hs⟩;dsimp only at hi hO ⊢;refine .seq (.ae (.z zm (.z (zfa bE) (.y hs (zld an) (.z (de af) (.zn ju (.cg rfl (fun Gq=>?_) (fun Gq=>?_))))))))
   ·refine .skip (nT (.seq (.block (.ae (.zn zg (.block ?_))))));refine .loop (fun p:Nat×Value=>⟨243,[],[(11,I (p.1:Int)),(4,p.2),(10,I (i:Int)),(3,Pt b3),(1,Pt b1)]⟩)
     (fun p w=>p.1+1≤s.sp.wa.length∧∃en,cz 4 p.2 (iL (eD (tU s.sp) s.sp.wa.length s.sp.st.length++eD (alL s.sp) s.sp.wa.length s.sp.st.length++eD (upL s.sp) s.sp.wa.length i++nS (upL s.sp) i p.1)) en∧St H w (en:: .blk b3 [I s.sp.id,I s.sp.src,.slice gQ s.sp.st.length gO,.slice gy s.sp.wa.length gw,I s.sp.al,I s.sp.up]:: .blk b1 [I s.sp.id,I s.sp.src,.slice gQ s.sp.st.length gO,.slice gy s.sp.wa.length gw,I s.sp.al,I s.sp.up,.slice ar s.rs.length cr,.slice ac s.cs.length cc]::σ)) (fun p=>s.sp.wa.length - p.1) (0,vo) aW
     ⟨by first|omega|exact Nat.zero_le _,en,by show cz 4 vo (iL (_++[])) en;rw [List.append_nil];exact hO,hs⟩ ?_
    clear hO hs;rintro ⟨k,vo⟩ w ⟨hk,en,hO,hs⟩;dsimp only at hk hO ⊢;have ML:=nR (rY s.sp) (m:=s.sp.wa.length) (n:=i) ai ai ai;have Ln:=nh (rY s.sp) i k;refine .seq (.ae (.z zm (.z cD (.z (zfa aZ) (.y hs (zld an) (.z (de af) (.zn ju (.cg rfl (fun Oc=>?_) (fun Oc=>?_)))))))))
    ·refine .skip (nT (.seq (.block (.draw mix rfl hs fun w hs=>?_))));refine .zw 0 rfl zm ?_;refine .ys 1 rfl hs [_,_,_,_,_,_] bC aT ?_;refine .z 2 rfl zm ?_;refine .z 3 rfl zm ?_;refine .ys 5 rfl hs [_,_,_,_,_,_] bC aT ?_;refine .z 6 rfl zm ?_;refine .z 7 rfl zm ?_;refine .z 8 rfl cD ?_;refine .z 10 rfl (zfa gE) ?_;refine .z 11 rfl (zfa oK) ?_;refine .y 12 rfl hs aj ?_;refine .z 13 rfl (zfa aZ) ?_;refine .y 14 rfl hs an ?_;refine .z 15 rfl zm ?_;refine .z 16 rfl cD ?_;have PB:=aJ.wa.rise k ai;have MJ:=aJ.wa.bd (i:=k) ai;have NU:=aJ.wa.bd (i:=k+1) ai;refine .ixX (enc:=fun x=>[I x]) (i:=17) hs rfl az .none h2 rfl rfl af ak (bL (l:=s.sp.wa) (i:=(k+1)) ai) dG ?_;intro b129 o129 Kf;replace Kf:=bN.one Kf;refine .r (i:=18) hs rfl az .none (aR rfl aj Kf) ?_;refine .zw 19 rfl (zfa aZ) ?_;refine .y 20 rfl hs an ?_;refine .z 21 rfl zm ?_;refine .ixX (enc:=fun x=>[I x]) (i:=22) hs rfl az .none h2 rfl rfl af ak (bL (l:=s.sp.wa) (i:=k) ai) dG ?_;intro X4 o134 Gp;replace Gp:=bN.one Gp;refine .r (i:=23) hs rfl az .none (aR rfl aj Gp) ?_;refine .zw 24 rfl iX ?_;refine .z 26 rfl (zfa ep) ?_;refine .y 27 rfl hs aj ?_;refine .E 4 hs ?_;refine .call Ys rfl (ed (s:=s.sp) hs h2 ai ⟨ai,ai⟩ ⟨ai,ai⟩) ?_;rintro _ w ⟨rfl,hs⟩;rw [IL];refine .go (.E 9 hs ?_);refine .call Ys rfl (ed (s:=s.sp) hs h2 ai ⟨ai,ai⟩ ⟨ai,ai⟩) ?_;rintro _ w ⟨rfl,hs⟩;rw [Rq];refine .go (.E 25 hs ?_);refine .call call211 rfl (nO hs ai ai) ?_;rintro _ w ⟨rfl,hs⟩;refine .go (.E 28 hs ?_);refine .call call210 rfl (mC hs) ?_;rintro _ w ⟨b140,rfl,hs⟩;rw [show two (s.sp.u i k:Int) _ _ _ _=upL s.sp i k by unfold upL;rw [if_pos ai]] at hs;refine .go (.E 29 hs ?_);refine .append (ys:=iL (upL s.sp i k)) hs cK rfl rfl hO (.own .here bB (by rw [fj];unfold upL;rw [if_pos ai];rfl)) (mR _) (fun l h=>by rw [fj] at h;simp only [List.length_append] at h;omega) ?_;intro v141 en141 w eb hs;rw [←jk,List.append_assoc _ (nS _ _ _)] at eb;refine .go (.zw 30 rfl zg ?_);refine .D hs ?_;exact nB (nT (.region (.z zm (.z cD (.zn zg (nT ⟨(k+1,v141),.dc rfl bB aW,⟨by dsimp only;omega,_,eb,hs.sb⟩,by dsimp only;omega⟩))))))
    ·refine .exit (xT (xT (xB (nB (nT (.region (.z zm (.z cD (.zn zg (nT ?_))))))))));obtain rfl:k=s.sp.wa.length - 1:=by omega
     rw [List.append_assoc,←OO i ai] at hO;exact ⟨(i+1,_),.dc rfl bB aW,⟨by dsimp only;omega,en,hO,hs⟩,by dsimp only;omega⟩
   ·refine .exit (xT (xT (xB (nT (.ae (.z (zfa bq) (.y hs (zld fT) ?_)))))));obtain rfl:i=s.sp.st.length:=by omega
    refine .o (.call call96 rfl (jH hs h3 ai) ?_);rintro v144 w ⟨H1,aq,hT,hs⟩;replace hT:RTd H1 v144 s.cC:=hT;have Cw:s.cC.length≤60:=by have:=dD s.rs;unfold Srv.cC;omega
    have HI:∀r∈s.rs,r.td∈s.cC:=fun r hr=>ir.2 ⟨r,hr,rfl⟩
    have Si:s.cJ=eD (tU s.sp) s.sp.wa.length s.sp.st.length++eD (alL s.sp) s.sp.wa.length s.sp.st.length++eD (upL s.sp) s.sp.wa.length s.sp.st.length++A0 s.sp s.cC.length++xb s.sp s.cC s.cs 0 s.cs.length++yq s.sp s.cC s.rs s.rs.length:=rfl;generalize s.cC=ts at*;obtain ⟨at_,ct,rfl⟩:=RTd.shape hT;refine .zn zg (.ae (.y hs (zls [_,_,_,_,_,_] bC aT) (.o (.call call94 rfl (iT (s:=s.sp) hs (h1.mono aq) (h2.mono aq) ⟨ai,ai⟩) ?_))));rintro _ w ⟨rfl,hs⟩;refine .zn zg (.seq (.ae (.zn zg (.block ?_))));refine .loop (fun p:Nat×Value=>⟨243,[],[(14,I (p.1:Int)),(4,p.2),(12,.slice at_ ts.length ct),(13,I (s.sp.many:Int)),(3,Pt b3),(1,Pt b1)]⟩)
     (fun p w=>p.1≤ts.length∧∃en,cz 4 p.2 (iL (eD (tU s.sp) s.sp.wa.length s.sp.st.length++eD (alL s.sp) s.sp.wa.length s.sp.st.length++eD (upL s.sp) s.sp.wa.length s.sp.st.length++A0 s.sp p.1)) en∧St H1 w (en:: .blk b3 [I s.sp.id,I s.sp.src,.slice gQ s.sp.st.length gO,.slice gy s.sp.wa.length gw,I s.sp.al,I s.sp.up]:: .blk b1 [I s.sp.id,I s.sp.src,.slice gQ s.sp.st.length gO,.slice gy s.sp.wa.length gw,I s.sp.al,I s.sp.up,.slice ar s.rs.length cr,.slice ac s.cs.length cc]::σ)) (fun p=>ts.length - p.1) (0,vo) aW
     ⟨by first|omega|exact Nat.zero_le _,en,by show cz 4 vo (iL (_++[])) en;rw [List.append_nil];exact hO,hs⟩ ?_
    clear hO hs;rintro ⟨j,vo⟩ w ⟨hj,en,hO,hs⟩;dsimp only at hj hO ⊢;have Zf:=jV s.sp j;refine .seq (.ae (.z zm (.z zm (.z (de bR) (.zn ju (.cg rfl (fun Kd=>?_) (fun Kd=>?_)))))))
    ·refine .skip (nT (.seq (.block (.region (.z zm (.z zm (.z cD (.z zm (.z cD (.z (zfa ep) (.y hs (zld aj) (.o (.call call210 rfl (mC hs) ?_)))))))))))));rintro _ w ⟨b160,rfl,hs⟩;refine .o (.append (ys:=iL (two 0 ((s.sp.many:Int)+1+(j:Int)) 1000 1000 s.sp.src)) hs cK rfl rfl hO (.own .here rfl rfl) (mR _) (fun l h=>by rw [fj] at h;simp only [List.length_append] at h;omega) ?_);intro v161 en161 w eb hs;rw [←jk,List.append_assoc _ (A0 _ _),show (s.sp.many:Int)+1+(j:Int)=((s.sp.many+1+j:Nat):Int) by omega] at eb;exact .zn zg (nB (nT (.region (.z zm (.z cD (.zn zg (nT ⟨(j+1,v161),.dc rfl bB aW,⟨by dsimp only;omega,_,eb,hs.sb⟩,by dsimp only;omega⟩)))))))
    ·refine .exit (xT (xT (xB (nT (.seq (.ae (.zn zg (.block ?_))))))));refine .loop (fun p:Nat×Value=>⟨243,[],[(15,I (p.1:Int)),(4,p.2),(12,.slice at_ ts.length ct),(13,I (s.sp.many:Int)),(3,Pt b3),(1,Pt b1)]⟩)
      (fun p w=>p.1≤s.cs.length∧∃en,cz 4 p.2 (iL (eD (tU s.sp) s.sp.wa.length s.sp.st.length++eD (alL s.sp) s.sp.wa.length s.sp.st.length++eD (upL s.sp) s.sp.wa.length s.sp.st.length++A0 s.sp ts.length++xb s.sp ts s.cs 0 p.1)) en∧St H1 w (en:: .blk b3 [I s.sp.id,I s.sp.src,.slice gQ s.sp.st.length gO,.slice gy s.sp.wa.length gw,I s.sp.al,I s.sp.up]:: .blk b1 [I s.sp.id,I s.sp.src,.slice gQ s.sp.st.length gO,.slice gy s.sp.wa.length gw,I s.sp.al,I s.sp.up,.slice ar s.rs.length cr,.slice ac s.cs.length cc]::σ)) (fun p=>s.cs.length - p.1) (0,vo) aW
      ⟨by first|omega|exact Nat.zero_le _,en,by show cz 4 vo (iL (_++[])) en;rw [List.append_nil,←show j=ts.length by omega];exact hO,hs⟩ ?_
     clear hO hs;rintro ⟨i,vo⟩ w ⟨hi,en,hO,hs⟩;dsimp only at hi hO ⊢;have Zf:=jV s.sp ts.length;have WC:=jW s.sp ts s.cs 0 i;have WB:i*(2*(ts.length - 0))≤20*(2*60):=Nat.mul_le_mul ai ai;refine .seq (.ae (.z zm (.z (zfa du) (.y hs (zld FM) (.z (de dF) (.zn ju (.cg rfl (fun SQ=>?_) (fun SQ=>?_))))))))
     ·refine .skip (nT (.seq (.block (.ae (.zn zg (.block ?_))))));refine .loop (fun p:Nat×Value=>⟨243,[],[(16,I (p.1:Int)),(4,p.2),(15,I (i:Int)),(12,.slice at_ ts.length ct),(13,I (s.sp.many:Int)),(3,Pt b3),(1,Pt b1)]⟩)
       (fun p w=>p.1≤ts.length∧∃en,cz 4 p.2 (iL (eD (tU s.sp) s.sp.wa.length s.sp.st.length++eD (alL s.sp) s.sp.wa.length s.sp.st.length++eD (upL s.sp) s.sp.wa.length s.sp.st.length++A0 s.sp ts.length++xb s.sp ts s.cs 0 i++mM s.sp ts (Fm s.cs i) 0 p.1)) en∧St H1 w (en:: .blk b3 [I s.sp.id,I s.sp.src,.slice gQ s.sp.st.length gO,.slice gy s.sp.wa.length gw,I s.sp.al,I s.sp.up]:: .blk b1 [I s.sp.id,I s.sp.src,.slice gQ s.sp.st.length gO,.slice gy s.sp.wa.length gw,I s.sp.al,I s.sp.up,.slice ar s.rs.length cr,.slice ac s.cs.length cc]::σ)) (fun p=>ts.length - p.1) (0,vo) aW
       ⟨by first|omega|exact Nat.zero_le _,en,by show cz 4 vo (iL (_++[])) en;rw [List.append_nil];exact hO,hs⟩ ?_
      clear hO hs;rintro ⟨j,vo⟩ w ⟨hj,en,hO,hs⟩;dsimp only at hj hO ⊢;have ML:=nj s.sp ts (Fm s.cs i) 0 j;refine .seq (.ae (.z zm (.z zm (.z (de bR) (.zn ju (.cg rfl (fun SP=>?_) (fun SP=>?_)))))))
      ·refine .skip (nT (.seq (.block (.draw mix rfl hs fun w hs=>?_))));refine .zw 0 rfl zm ?_;refine .z 1 rfl (zfa du) ?_;refine .y 2 rfl hs FM ?_;refine .z 3 rfl zm ?_;obtain ⟨c,hx⟩:=nth (l:=s.cs) (k:=i) ai;obtain ⟨t,ht⟩:=nth (l:=ts) (k:=j) ai;obtain ⟨g1,g2,g3,g4,g5,g6⟩:=Uy c (List.mem_of_getElem? hx);have ec:=KV hx;have et:=NH ht;refine .ixX (enc:=Cmp.c) (i:=4) hs rfl az .none (h4.mono aq) rfl rfl dF kd hx dG ?_;intro b179 o179 SO;refine .r (i:=5) hs rfl az .none (bH (vs:=c.c) rfl isAgg153 kd SO) ?_;refine .zw 6 rfl zm ?_;refine .z 7 rfl zm ?_;refine .ixX (enc:=TD.c) (i:=8) hs rfl az .none hT rfl rfl bR cZ ht dG ?_;intro b183 o183 SN;refine .r (i:=9) hs rfl az .none (bH (vs:=t.c) rfl jo cZ SN) ?_;refine .zw 10 rfl zm ?_;refine .z 11 rfl cD ?_;refine .z 12 rfl zm ?_;refine .z 13 rfl cD ?_;refine .E 14 hs ?_;refine .call call212 rfl (yf (c:=c) (t:=t) hs ⟨ai,ai⟩) ?_;rintro v189 w ⟨en189,On,hs⟩;obtain ⟨a189,l189,c189,rfl,XN⟩:=On.shape;refine .go (.E 15 hs ?_);refine .append (ys:=iL (nt c t ((s.sp.many:Int)+1+(j:Int)))) hs cK rfl rfl hO (Src.Vi On .here) (mR _) (fun l h=>by rw [fj] at h;simp only [List.length_append] at h;have:=CS c t ((s.sp.many:Int)+1+(j:Int));rw [fj] at XN;omega) ?_;intro v190 en190 w eb hs;rw [←jk,List.append_assoc _ (mM _ _ _ _ _),show mM s.sp ts (Fm s.cs i) 0 j++nt c t ((s.sp.many:Int)+1+(j:Int))=mM s.sp ts (Fm s.cs i) 0 (j+1) by
        show _=_++nt (Fm s.cs i) (td0 ts (0+j)) ((s.sp.many+1+(0+j):Nat):Int);rw [Nat.zero_add,ec,et,show ((s.sp.many+1+j:Nat):Int)=(s.sp.many:Int)+1+(j:Int) by omega]] at eb
       refine .go (.zw 16 rfl zg ?_);refine .D hs ?_;exact nB (nT (.region (.z zm (.z cD (.zn zg (nT ⟨(j+1,v190),.dc rfl bB aW,⟨by dsimp only;omega,_,eb,hs.sb⟩,by dsimp only;omega⟩))))))
      ·refine .exit (xT (xT (xB (nB (nT (.region (.z zm (.z cD (.zn zg (nT ?_))))))))));obtain rfl:j=ts.length:=by omega
       rw [List.append_assoc _ (xb _ _ _ _ _)] at hO;exact ⟨(i+1,_),.dc rfl bB aW,⟨by dsimp only;omega,en,hO,hs⟩,by dsimp only;omega⟩
     ·refine .exit (xT (xT (xB (nT (.seq (.ae (.zn zg (.block ?_))))))));refine .loop (fun p:Nat×Value=>⟨243,[],[(17,I (p.1:Int)),(4,p.2),(12,.slice at_ ts.length ct),(13,I (s.sp.many:Int)),(3,Pt b3),(1,Pt b1)]⟩)
       (fun p w=>p.1≤s.rs.length∧∃en,cz 4 p.2 (iL (eD (tU s.sp) s.sp.wa.length s.sp.st.length++eD (alL s.sp) s.sp.wa.length s.sp.st.length++eD (upL s.sp) s.sp.wa.length s.sp.st.length++A0 s.sp ts.length++xb s.sp ts s.cs 0 s.cs.length++yq s.sp ts s.rs p.1)) en∧St H1 w (en:: .blk b3 [I s.sp.id,I s.sp.src,.slice gQ s.sp.st.length gO,.slice gy s.sp.wa.length gw,I s.sp.al,I s.sp.up]:: .blk b1 [I s.sp.id,I s.sp.src,.slice gQ s.sp.st.length gO,.slice gy s.sp.wa.length gw,I s.sp.al,I s.sp.up,.slice ar s.rs.length cr,.slice ac s.cs.length cc]::σ)) (fun p=>s.rs.length - p.1) (0,vo) aW
       ⟨by first|omega|exact Nat.zero_le _,en,by show cz 4 vo (iL (_++[])) en;rw [List.append_nil,←show i=s.cs.length by omega];exact hO,hs⟩ ?_
      clear hO hs;rintro ⟨q,vo⟩ w ⟨hq,en,hO,hs⟩;dsimp only at hq hO ⊢;have VT:=jP s.sp ts s.rs q;have hcl3:=jW s.sp ts s.cs 0 s.cs.length;have hcl4:s.cs.length*(2*(ts.length - 0))≤20*(2*60):=Nat.mul_le_mul ai ai;refine .seq (.ae (.z zm (.z (zfa bq) (.y hs (zld fT) (.z (de bn) (.zn ju (.cg rfl (fun SL=>?_) (fun SL=>?_))))))))
      ·refine .skip (nT (.seq (.block (.ae (.z (zfa bq) (.y hs (zld fT) (.z zm ?_)))))));obtain ⟨r,hx⟩:=nth (l:=s.rs) (k:=q) ai;obtain ⟨g1,g2,g3,g4,g5,g6,g7⟩:=Ue r (List.mem_of_getElem? hx);obtain ⟨m,k1,k2,k3⟩:=i7 (HI r (List.mem_of_getElem? hx));refine .ixX (enc:=Rdg.c) hs (h3.mono aq) rfl rfl bn bD hx dG ?_;intro X1 o201 N7;refine .q hs (bH (vs:=(Rdg.c r)) rfl kF bD N7) (.o (.alloc hs dZ rfl fun wG w hs=>?_));refine .o (.aE (vs:=r.c) hs rfl rfl bD fun w hs=>?_);change St _ _ (.blk wG [I r.src,I r.st,I r.wa,I r.val,I r.tol,I r.tape,I r.day]::_) at hs;refine .nil (.ae (.y hs (zls [_,_,_,_,_,_] bC aT) (.z (zfa iJ) (.y hs (zld aj) (.z (zfa iI) (.y hs (zld aj) (.o (.call Ys rfl (ed (s:=s.sp) hs (h2.mono aq) ai ⟨ai,ai⟩ ⟨ai,ai⟩) ?_))))))));rintro _ w ⟨rfl,hs⟩;refine .zn zg (.ae (.z zm (.z cD (.z zm (.z (zfa fh) (.y hs (zld aj) (.z (zfa fg) (.y hs (zld aj) (.z (zbd [_,_] jh) (.o (.call call95 rfl (lI (t:=r.td) hs hT ai) ?_)))))))))));rintro _ w ⟨rfl,hs⟩;refine .z cD (.zn zg (.region (.z zm (.z zm (.z zm (.z (zfa fi) (.y hs (zld aj) (.z (zfa dE) (.y hs (zld aj) (.z cD (.z (zfa iK) (.y hs (zld aj) (.z (zbd [_,_,_,_] eP) (.z zm (.z zm (.z (zfa dE) (.y hs (zld aj) (.z (zfa fi) (.y hs (zld aj) (.z iX (.z (zfa iK) (.y hs (zld aj) (.z (zbd [_,_,_,_] eP) (.o (.buildSlice (cells:=iL (uU s.sp ts r)) hs gx rfl az fun b240 w hs=>?_)))))))))))))))))))))))));refine .o (.append (ys:=iL (uU s.sp ts r)) hs cK rfl rfl hO (.own .here rfl rfl) (mR _) (fun l h=>by rw [fj] at h;simp only [List.length_append] at h;omega) ?_);intro v241 en241 w eb hs;rw [←jk,List.append_assoc _ (yq _ _ _ _),show yq s.sp ts s.rs q++uU s.sp ts r=yq s.sp ts s.rs (q+1) by rw [←I8 hx];rfl] at eb;exact .zn zg (nB (nT (.region (.z zm (.z cD (.zn zg (nT ⟨(q+1,v241),.dc rfl bB aW,⟨by dsimp only;omega,_,eb,hs.sb⟩,by dsimp only;omega⟩)))))))
      ·refine .exit (xT (xT (xB (nT (.ae (.z zm (.zn zg (.ret (Fin.bw results152 rfl ?_)))))))));obtain rfl:q=s.rs.length:=by omega
       exact ⟨H1,en,aq,by rw [Si];exact hO,hs.sb⟩
theorem wS{w:World}(hs:St H w σ)(h1:RI H bV s.sp.st)(h2:RI H bS s.sp.wa)(h3:RRd H vr s.rs)(h4:RCm H vc s.cs)(he:s.early):
  Z4 205 [.agg #[I s.sp.id,I s.sp.src,bV,bS,I s.sp.al,I s.sp.up,vr,vc]] w fun u w'=>∃H1 vl en,HLe H H1∧u= .agg #[I s.sys.many,vl]∧cz 4 vl (iL s.cJ) en∧St H1 w' (en::σ):=by
 have oa:=eG he.1;have Cx:=he.2.1;have Cw:s.cC.length≤60:=by have:=dD s.rs;unfold Srv.cC;omega
 refine Cl.o func205 ntmps205 ag1 ?_;refine .ae (.bx hs fun b1 w hs=>?_);refine .o (.alloc hs gZ rfl fun b2 w hs=>?_);refine .nil (.seq (.draw mix rfl hs fun w hs=>?_));refine .zw 0 rfl (zfa aK) ?_;refine .ys 1 rfl hs [_,_,_,_,_,_] bC aT ?_;refine .z 3 rfl (zfa bq) ?_;refine .y 4 rfl hs fT ?_;refine .ys 8 rfl hs [_,_,_,_,_,_,_,_] aP aC ?_;refine .E 2 hs ?_;refine .call call94 rfl (iT (s:=s.sp) hs h1 h2 ⟨ai,ai⟩) ?_;rintro _ w ⟨rfl,hs⟩;refine .go (.E 5 hs ?_);refine .call call96 rfl (jH hs h3 ai) ?_;rintro v8 w ⟨H1,aq,hT,hs⟩;replace hT:RTd H1 v8 s.cC:=hT;obtain ⟨at_,ct,rfl⟩:=RTd.shape hT;refine .go (.zw 6 rfl (de bR) ?_);refine .z 7 rfl cD ?_;refine .E 9 hs ?_;refine .call call152 rfl (wT (s:=s) hs (h1.mono aq) (h2.mono aq) (h3.mono aq) (h4.mono aq) he) ?_;rintro v12 w ⟨H2,en,aQ,hO,hs⟩;obtain ⟨al,ll,cl,rfl,yK⟩:=hO.shape;refine .go (.zw 10 rfl (zbd [_,_] nD) (.E 11 hs ?_));refine .aE (vs:=[_,_]) hs rfl rfl bg ?_;intro w hs;refine .go (.D hs (.ret ?_));replace hs:St H2 w (.blk b2 [I ((s.sp.many:Int)+(s.cC.length:Int)),.slice al ll cl]::en::σ):=hs.sb;exact Fin.hZ [] [] hs fun w hs=>⟨_,results1 results205 (cN (vs:=[_,_]) hs rfl cf bg),H2,_,en,aq.trans aQ,by show _=Value.agg #[I ((s.sp.many+s.cC.length:Nat):Int),_];rw [Int.natCast_add],hO,hs.tail⟩
theorem uT{w:World}(hs:St H w σ)(h1:RI H bV s.sp.st)(h2:RI H bS s.sp.wa)(h3:RRd H vr s.rs)(h4:RCm H vc s.cs)(he:s.early):
  Z4 205 [.agg #[I s.sp.id,I s.sp.src,bV,bS,I s.sp.al,I s.sp.up,vr,vc]] w fun u w'=>∃H1,HLe H H1∧RSy H1 u s.sys∧St H1 w' σ:=by
 refine (wS hs h1 h2 h3 h4 he).mono ?_;rintro u w' ⟨H1,vl,en,hle,rfl,hO,hs⟩;have hl:=nf he 6 ai;rw [s.Bz] at hl;obtain ⟨H2,aQ,hR,hs⟩:=cz.bZ (m:=4) (cs:=s.cJ.map Lim.c) hO (fun c hc=>by simp only [List.mem_map] at hc;obtain ⟨x,_,rfl⟩:=hc;rfl) ai (by rw [List.length_map];omega) hs .here;exact ⟨H2,hle.trans aQ,⟨vl,rfl,hR⟩,hs⟩
theorem kK{w:World}{s:Spc}{q:Wht}(hs:St H w σ)(h2:RI H bS s.wa):
  Z4 230 [.agg #[I q.kind,I q.st,I q.wa,I s.id,I s.src,bV,bS,I s.al,I s.up]] w fun v w'=>v= .bool (decide (0≤q.wa∧q.wa≤(s.wa.length:Int) - 1))∧St H w' σ:=by
 obtain ⟨gy,gw,rfl⟩:=RI.shape h2;have l2:=(RI.len h2).2.2;refine Cl.o func230 ntmps230 ag1 ?_;refine .ae (.bx hs fun b1 w hs=>?_);refine .zn zg (.ae (.z (zfa db) (.z (zfa iA) (.y hs (zld aj) (.z (zfa fI) (.z (zfa aZ) (.y hs (zld an) (.z (de af) (.z iX (.o (.call iS rfl (bA hs) ?_)))))))))));rintro _ w ⟨rfl,hs⟩;exact .zn zg (.ret (Fin.bw results230 rfl ⟨rfl,hs.out⟩))
theorem mw{w:World}{s:Spc}{q:Wht}(hs:St H w σ)(h1:RI H bV s.st):
  Z4 235 [.agg #[I q.kind,I q.st,I q.wa,I s.id,I s.src,bV,bS,I s.al,I s.up]] w fun v w'=>v= .bool (decide (0≤q.st∧q.st≤(s.st.length:Int) - 1))∧St H w' σ:=by
 obtain ⟨gQ,gO,rfl⟩:=RI.shape h1;have l1:=(RI.len h1).2.2;refine Cl.o func235 ntmps235 ag1 ?_;refine .ae (.bx hs fun b1 w hs=>?_);refine .zn zg (.ae (.z (zfa db) (.z (zfa kq) (.y hs (zld aj) (.z (zfa fI) (.z (zfa bE) (.y hs (zld an) (.z (de af) (.z iX (.o (.call iS rfl (bA hs) ?_)))))))))));rintro _ w ⟨rfl,hs⟩;exact .zn zg (.ret (Fin.bw results235 rfl ⟨rfl,hs.out⟩))
theorem uI{s:Spc}{q:Wht}:fO s q↔(q.kind=1∧q.st=0∧s.isW q∧0<q.wa)∨(q.kind=2∧q.st=0∧s.isW q)∨(q.kind=3∧q.wa=0∧s.isS q)∨(q.kind=4∧s.isS q∧s.isW q):=by
 constructor
 ·intro h
  cases h with
  |litres a b c d=>exact .inl ⟨a,b,c,d⟩
  |plane a b c=>exact .inr (.inl ⟨a,b,c⟩)
  |section_ a b c=>exact .inr (.inr (.inl ⟨a,b,c⟩))
  |offset a b c=>exact .inr (.inr (.inr ⟨a,b,c⟩))
 ·rintro (⟨a,b,c,d⟩|⟨a,b,c⟩|⟨a,b,c⟩|⟨a,b,c⟩)
  ·exact .litres a b c d
  ·exact .plane a b c
  ·exact .section_ a b c
  ·exact .offset a b c
theorem Df{w:World}{s:Spc}{q:Wht}(hs:St H w σ)(h2:RI H bS s.wa)(hk:q.kind=1):
  Z4 229 [.agg #[I q.kind,I q.st,I q.wa,I s.id,I s.src,bV,bS,I s.al,I s.up]] w fun v w'=>∃b:Bool,v= .bool b∧(b=true↔fO s q)∧St H w' σ:=by
 have hi:=uI (s:=s) (q:=q);simp only [Spc.isW,Spc.isS] at hi;refine Cl.o func229 ntmps229 ag1 ?_;refine .ae (.bx hs fun b1 w hs=>?_);refine .zn zg (.ae (.y hs (zls [_,_,_,_,_,_,_,_,_] OH Al) (.o (.call call230 rfl (kK hs h2) ?_))));rintro _ w ⟨rfl,hs⟩;refine .z zm (.bif (t':=5) rfl (fun Of=>?_) (fun Of=>?_))
 ·refine .T (.z (zfa db) (.T (.z (zfa iA) (.T (.y hs (zld aj) (.T (.z nJ (.z zpT (.z zm (.iY (t':=11) rfl (fun y0=>?_) (fun y0=>?_)))))))))))
  ·exact .T (.z (zfa db) (.T (.z (zfa kq) (.T (.y hs (zld aj) (.T (.z ik (.z zpT (.zn zg (.ret (Fin.bw results229 rfl ⟨_,rfl,by rw [hi];simp_all<;>omega,hs.out⟩)))))))))))
  ·exact .Fs 4 8 true (.z zpF (.zn zg (.ret (Fin.bw results229 rfl ⟨_,rfl,by rw [hi];simp_all<;>omega,hs.out⟩))))
 ·exact .Fs 4 2 true (.z zpF (.z zm (.Fs 4 8 true (.z zpF (.zn zg (.ret (Fin.bw results229 rfl ⟨_,rfl,by rw [hi];simp_all<;>omega,hs.out⟩)))))))
theorem De{w:World}{s:Spc}{q:Wht}(hs:St H w σ)(h2:RI H bS s.wa)(hk:q.kind=2):
  Z4 232 [.agg #[I q.kind,I q.st,I q.wa,I s.id,I s.src,bV,bS,I s.al,I s.up]] w fun v w'=>∃b:Bool,v= .bool b∧(b=true↔fO s q)∧St H w' σ:=by
 have hi:=uI (s:=s) (q:=q);simp only [Spc.isW,Spc.isS] at hi;refine Cl.o func232 ntmps232 ag1 ?_;refine .ae (.bx hs fun b1 w hs=>?_);refine .zn zg (.ae (.y hs (zls [_,_,_,_,_,_,_,_,_] OH Al) (.o (.call call230 rfl (kK hs h2) ?_))));rintro _ w ⟨rfl,hs⟩;refine .z zm (.bif (t':=5) rfl (fun Of=>?_) (fun Of=>?_))
 ·exact .T (.z (zfa db) (.T (.z (zfa kq) (.T (.y hs (zld aj) (.T (.z ik (.z zpT (.zn zg (.ret (Fin.bw results232 rfl ⟨_,rfl,by rw [hi];simp_all<;>omega,hs.out⟩)))))))))))
 ·exact .Fs 4 2 true (.z zpF (.zn zg (.ret (Fin.bw results232 rfl ⟨_,rfl,by rw [hi];simp_all<;>omega,hs.out⟩))))
theorem Dd{w:World}{s:Spc}{q:Wht}(hs:St H w σ)(h1:RI H bV s.st)(hk:q.kind=3):
  Z4 234 [.agg #[I q.kind,I q.st,I q.wa,I s.id,I s.src,bV,bS,I s.al,I s.up]] w fun v w'=>∃b:Bool,v= .bool b∧(b=true↔fO s q)∧St H w' σ:=by
 have hi:=uI (s:=s) (q:=q);simp only [Spc.isW,Spc.isS] at hi;refine Cl.o func234 ntmps234 ag1 ?_;refine .ae (.bx hs fun b1 w hs=>?_);refine .zn zg (.ae (.y hs (zls [_,_,_,_,_,_,_,_,_] OH Al) (.o (.call call235 rfl (mw hs h1) ?_))));rintro _ w ⟨rfl,hs⟩;refine .z zm (.bif (t':=5) rfl (fun Of=>?_) (fun Of=>?_))
 ·exact .T (.z (zfa db) (.T (.z (zfa iA) (.T (.y hs (zld aj) (.T (.z ik (.z zpT (.zn zg (.ret (Fin.bw results234 rfl ⟨_,rfl,by rw [hi];simp_all<;>omega,hs.out⟩)))))))))))
 ·exact .Fs 4 2 true (.z zpF (.zn zg (.ret (Fin.bw results234 rfl ⟨_,rfl,by rw [hi];simp_all<;>omega,hs.out⟩))))
theorem Dc{w:World}{s:Spc}{q:Wht}(hs:St H w σ)(h1:RI H bV s.st)(h2:RI H bS s.wa)(hk:q.kind=4):
  Z4 237 [.agg #[I q.kind,I q.st,I q.wa,I s.id,I s.src,bV,bS,I s.al,I s.up]] w fun v w'=>∃b:Bool,v= .bool b∧(b=true↔fO s q)∧St H w' σ:=by
 have hi:=uI (s:=s) (q:=q);simp only [Spc.isW,Spc.isS] at hi;refine Cl.o func237 ntmps237 ag1 ?_;refine .ae (.bx hs fun b1 w hs=>?_);refine .zn zg (.ae (.y hs (zls [_,_,_,_,_,_,_,_,_] OH Al) (.o (.call call235 rfl (mw hs h1) ?_))));rintro _ w ⟨rfl,hs⟩;refine .z zm (.bif (t':=5) rfl (fun Of=>?_) (fun Of=>?_))
 ·refine .T (.y hs (zls [_,_,_,_,_,_,_,_,_] OH Al) (.T (.o (.call call230 rfl (kK hs h2) ?_))));rintro _ w ⟨rfl,hs⟩;exact .z zpT (.zn zg (.ret (Fin.bw results237 rfl ⟨_,rfl,by rw [hi];simp_all<;>omega,hs.out⟩)))
 ·exact .Fs 2 2 true (.z zpF (.zn zg (.ret (Fin.bw results237 rfl ⟨_,rfl,by rw [hi];simp_all<;>omega,hs.out⟩))))
theorem wJ{w:World}{s:Spc}{q:Wht}{u:Int}(hs:St H w σ)(h1:RI H bV s.st)(h2:RI H bS s.wa)(aJ:eZ s)(hq:fO s q)(PM:q.kind=1)(hi:i<s.st.length):
  Z4 231 [.agg #[I q.kind,I q.st,I q.wa,I s.id,I s.src,bV,bS,I s.al,I s.up],.agg #[I (i:Int),I (k:Int),I u]] w fun v w'=>∃H1,HLe H H1∧v=I (rF s q i k)∧St H1 w' σ:=by
 obtain ⟨gQ,gO,rfl⟩:=RI.shape h1;obtain ⟨gy,gw,rfl⟩:=RI.shape h2;have hn:=aJ.wa.many;have yP:=(RI.len h2).2.1;obtain ⟨_,hw1,T9,hw3⟩:q.st=0∧0<q.wa∧0≤q.wa∧q.wa≤(s.wa.length:Int) - 1:=by
  rcases uI.1 hq with h|h|h|h
  ·exact ⟨h.2.1,h.2.2.2,h.2.2.1.1,h.2.2.1.2⟩
  all_goals omega
 obtain ⟨m,hm⟩:∃m:Nat,q.wa=m:=⟨q.wa.toNat,ai⟩;have hW:rF s q i k=if (k:Int)≤q.wa then gi (wts s.st) i*gi (wts (s.wa.take (q.wa.toNat+1))) k else 0:=by unfold rF;rw [if_pos PM]
 have YY:q.wa.toNat=m:=by omega
 rw [YY] at hW;refine Cl.o func231 ntmps231 ag2 ?_;refine .ae (.bx hs fun b2 w hs=>?_);refine .bx hs fun b3 w hs=>?_
 refine .zn zg (.seq (.ae (.z (zfa cV) (.y hs (zld aj) (.z (zfa db) (.z (zfa iA) (.y hs (zld aj) (.zn nJ (.cg rfl (fun eT=>?_) (fun eT=>?_))))))))))
 ·exact .ae (.zn zg (.ret (rT (Fin.bw results231 rfl ⟨H,HLe.refl H,by rw [hW,if_neg ai],hs.out⟩))))
 ·refine .skip (nT (.seq (.draw mix rfl hs fun w hs=>?_)));refine .zw 0 rfl (zfa fI) ?_;refine .z 1 rfl (zfa bE) ?_;refine .y 2 rfl hs an ?_;refine .z 3 rfl (zfa fI) ?_;refine .z 4 rfl (zfa aZ) ?_;refine .y 5 rfl hs an ?_;refine .z 6 rfl (zfa db) ?_;refine .z 7 rfl (zfa iA) ?_;refine .y 8 rfl hs aj ?_;refine .z 9 rfl cD ?_;refine .zw 10 rfl (tf (k:=m+1) rfl rfl af ak ai ai) (.E 11 hs ?_);have hP:ji 7 15000 (s.wa.take (m+1)):=aJ.wa.take ai ai;refine .call call163 rfl (pW hs h1 (h2.head (k:=m+1) ai)) ?_;rintro _ w ⟨H1,vo,e,aq,rfl,Tl,-,hs⟩;obtain ⟨rfl,hG⟩:=Tl ⟨aJ.st,hP⟩;have Ut:=qo (wts s.st) (wts (s.wa.take (m+1))) s.st.length;have rI:(wts (s.wa.take (m+1))).length=m+1:=by rw [j5,List.length_take];omega
  have hgr:=Gx (X:=wts s.st) (Y:=wts (s.wa.take (m+1))) (n:=s.st.length) hi;have Wq:=M8 (X:=wts s.st) (Y:=wts (s.wa.take (m+1))) (n:=s.st.length) (k:=k) hi ai;have Cx:=se (wts s.st) (wts (s.wa.take (m+1))) i;rw [←hgr] at Cx;generalize tP (wts s.st) (wts (s.wa.take (m+1))) s.st.length=G at*;obtain ⟨aG,cG,rfl⟩:=hG.shape;refine .go (.zw 12 rfl zm ?_);refine .z 13 rfl zex ?_;refine .z 14 rfl zex ?_;refine .z 15 rfl zg ?_;refine .z 16 rfl zg ?_;refine .D hs ?_;refine .seq (.draw mix rfl hs fun w hs=>?_);refine .zw 0 rfl zm ?_;refine .z 1 rfl (zfa cW) ?_;refine .y 2 rfl hs aj ?_;refine .ixT (i:=3) hs rfl az .none hG rfl rfl aF aO (show i<_ by omega) dG ?_;intro Lt o31 a31 c31 ql Xt;refine .r (i:=4) hs rfl az .none (aR rfl an ql) ?_;refine .zw 5 rfl (zfa cV) ?_;refine .y 6 rfl hs aj ?_;refine .ixX (enc:=fun x=>[I x]) (i:=7) hs rfl az .none Xt rfl rfl af ak (bL (l:=(gr G i)) (i:=k) ai) dG ?_;intro UU o35 yU;replace yU:=bN.one yU;refine .r (i:=8) hs rfl az .none (aR rfl aj yU) ?_;refine .zw 9 rfl zg ?_;refine .D hs ?_;exact .ret (Fin.bw results231 rfl ⟨H1,aq,by rw [hW,if_pos ai,←Wq];rfl,hs.out⟩)
theorem xK{w:World}{s:Spc}{q:Wht}{u:Int}(hs:St H w σ)(h1:RI H bV s.st)(aJ:eZ s)(PM:q.kind=2)(hi:i<s.st.length):
  Z4 233 [.agg #[I q.kind,I q.st,I q.wa,I s.id,I s.src,bV,bS,I s.al,I s.up],.agg #[I (i:Int),I (k:Int),I u]] w fun v w'=>∃H1,HLe H H1∧v=I (rF s q i k)∧St H1 w' σ:=by
 have hW:rF s q i k=if (k:Int)=q.wa then gi (wts s.st) i else 0:=by unfold rF;rw [if_neg ai,if_pos PM]
 have hl:=j5 s.st;refine Cl.o func233 ntmps233 ag2 ?_;refine .ae (.bx hs fun b2 w hs=>?_);refine .bx hs fun b3 w hs=>?_
 refine .zn zg (.seq (.ae (.z (zfa cV) (.y hs (zld aj) (.z (zfa db) (.z (zfa iA) (.y hs (zld aj) (.zn ez (.dz rfl (fun eT=>?_) (fun eT=>?_))))))))))
 ·exact .ae (.zn zg (.ret (rT (Fin.bw results233 rfl ⟨H,HLe.refl H,by rw [hW,if_neg ai],hs.out⟩))))
 ·refine .skip (nT (.ae (.z (zfa fI) (.z (zfa bE) (.y hs (zld an) (.o (.call call275 rfl (m9 hs h1) ?_)))))));rintro _ w ⟨H1,vo,e,aq,rfl,Tl,hs⟩;obtain ⟨rfl,hG⟩:=Tl aJ.st;obtain ⟨aG,cG,rfl⟩:=RI.shape hG;refine .z zm (.z zex (.z zex (.z zg (.zn zg (.ae (.z zm (.z (zfa cW) (.y hs (zld aj) (.ixY hs hG rfl rfl af ak (bL (l:=(wts s.st)) (i:=i) ai) dG ?_)))))))));intro IF o23 yV;exact .q hs (aR rfl aj yV) (.zn zg (.ret (Fin.bw results233 rfl ⟨H1,aq,by rw [hW,if_pos ai],hs.out⟩)))
theorem uJ{w:World}{s:Spc}{q:Wht}{u:Int}(hs:St H w σ)(h2:RI H bS s.wa)(aJ:eZ s)(PM:q.kind=3)(hk:k<s.wa.length):
  Z4 236 [.agg #[I q.kind,I q.st,I q.wa,I s.id,I s.src,bV,bS,I s.al,I s.up],.agg #[I (i:Int),I (k:Int),I u]] w fun v w'=>∃H1,HLe H H1∧v=I (rF s q i k)∧St H1 w' σ:=by
 have hW:rF s q i k=if (i:Int)=q.st then gi (wts s.wa) k else 0:=by unfold rF;rw [if_neg ai,if_neg ai,if_pos PM]
 have hl:=j5 s.wa;refine Cl.o func236 ntmps236 ag2 ?_;refine .ae (.bx hs fun b2 w hs=>?_);refine .bx hs fun b3 w hs=>?_
 refine .zn zg (.seq (.ae (.z (zfa cW) (.y hs (zld aj) (.z (zfa db) (.z (zfa kq) (.y hs (zld aj) (.zn ez (.dz rfl (fun eT=>?_) (fun eT=>?_))))))))))
 ·exact .ae (.zn zg (.ret (rT (Fin.bw results236 rfl ⟨H,HLe.refl H,by rw [hW,if_neg ai],hs.out⟩))))
 ·refine .skip (nT (.ae (.z (zfa fI) (.z (zfa aZ) (.y hs (zld an) (.o (.call call275 rfl (m9 hs h2) ?_)))))));rintro _ w ⟨H1,vo,e,aq,rfl,Tl,hs⟩;obtain ⟨rfl,hG⟩:=Tl (OX aJ);obtain ⟨aG,cG,rfl⟩:=RI.shape hG;refine .z zm (.z zex (.z zex (.z zg (.zn zg (.ae (.z zm (.z (zfa cV) (.y hs (zld aj) (.ixY hs hG rfl rfl af ak (bL (l:=(wts s.wa)) (i:=k) ai) dG ?_)))))))));intro IF o23 yV;exact .q hs (aR rfl aj yV) (.zn zg (.ret (Fin.bw results236 rfl ⟨H1,aq,by rw [hW,if_pos ai],hs.out⟩)))
theorem wI{w:World}{s:Spc}{q:Wht}{u:Int}(hs:St H w σ)(PM:q.kind=4):
  Z4 238 [.agg #[I q.kind,I q.st,I q.wa,I s.id,I s.src,bV,bS,I s.al,I s.up],.agg #[I (i:Int),I (k:Int),I u]] w fun v w'=>∃H1,HLe H H1∧v=I (rF s q i k)∧St H1 w' σ:=by
 have hW:rF s q i k=if (i:Int)=q.st∧(k:Int)=q.wa then 1 else 0:=by unfold rF;rw [if_neg ai,if_neg ai,if_neg ai]
 refine Cl.o func238 ntmps238 ag2 ?_;refine .ae (.bx hs fun b2 w hs=>?_);refine .bx hs fun b3 w hs=>?_
 refine .zn zg (.seq (.ae (.z (zfa cW) (.y hs (zld aj) (.z (zfa db) (.z (zfa kq) (.y hs (zld aj) (.z ez (.z zm (.Eo (t':=11) rfl (fun y0=>?_) (fun y0=>?_)))))))))))
 ·refine .Fs 6 6 false (.zn zpT (.cT (.ae (.zn zg (.ret (rT (Fin.bw results238 rfl ?_)))))));first
  |exact ⟨H,HLe.refl H,by rw [hW,if_neg ai],hs.out⟩
  |exact ⟨H,HLe.refl H,by rw [hW,if_pos ai],hs.out⟩
 ·refine .T (.z (zfa cV) (.T (.y hs (zld aj) (.T (.z (zfa db) (.T (.z (zfa iA) (.T (.y hs (zld aj) (.T (.z ez (.zn zpF (.dz rfl (fun fW=>?_) (fun fW=>?_))))))))))))))
  ·refine .ae (.zn zg (.ret (rT (Fin.bw results238 rfl ?_))));first
   |exact ⟨H,HLe.refl H,by rw [hW,if_neg ai],hs.out⟩
   |exact ⟨H,HLe.refl H,by rw [hW,if_pos ai],hs.out⟩
  ·refine .skip (nT (.ae (.zn zg (.ret (Fin.bw results238 rfl ?_)))));first
   |exact ⟨H,HLe.refl H,by rw [hW,if_neg ai],hs.out⟩
   |exact ⟨H,HLe.refl H,by rw [hW,if_pos ai],hs.out⟩
def Hi(k:Int):Nat:=if k=1 then 229 else if k=2 then 232 else if k=3 then 234 else 237
def G7(k:Int):Nat:=if k=1 then 231 else if k=2 then 233 else if k=3 then 236 else 238
def Gj(k:Int):Value:= .agg #[.func (.func (Hi k)) #[] #[],.func (.func (G7 k)) #[] #[],I (q6 ⟨k,0,0⟩)]
def QT:List MapEntry:=[{key:=I 1,val:=Gj 1,born:=0},{key:=I 2,val:=Gj 2,born:=1},{key:=I 3,val:=Gj 3,born:=2},{key:=I 4,val:=Gj 4,born:=3}]
theorem ng{w:World}(hs:St H w σ):
  Z4 187 [] w fun v w'=>∃b,v= .map (some b)∧St H w' (.obj b (.map QT.toArray 4)::σ):=by
 refine Cl.of func187 rfl ntmps187 bB (Cj) (.ae (.zn zg (.ae (.o (.makeMap hs fun b1 w hs=>?_)))));refine .z (zbd [_,_,_] jO) (.o (.insert (es:=[]) hs rfl rfl rfl iE bF rfl fun w hs=>?_));refine .z (zbd [_,_,_] jO) (.o (.insert (es:=[{key:=I 1,val:=Gj 1,born:=0}]) hs rfl rfl rfl iE bF rfl fun w hs=>?_));refine .z (zbd [_,_,_] jO) (.o (.insert (es:=[{key:=I 1,val:=Gj 1,born:=0},{key:=I 2,val:=Gj 2,born:=1}]) hs rfl rfl rfl iE bF rfl fun w hs=>?_));refine .z (zbd [_,_,_] jO) (.o (.insert (es:=[{key:=I 1,val:=Gj 1,born:=0},{key:=I 2,val:=Gj 2,born:=1},{key:=I 3,val:=Gj 3,born:=2}]) hs rfl rfl rfl iE bF rfl fun w hs=>?_));exact .z zm (.zn zg (.ret (Fin.bw results187 rfl ⟨b1,rfl,hs⟩)))
def lF1(k:Int):Value:=if 1≤k∧k≤4 then .func (.func (Hi k)) #[] #[] else .nilFunc
def lF2(k:Int):Value:=if 1≤k∧k≤4 then .func (.func (G7 k)) #[] #[] else .nilFunc
def lD(k:Int):Int:=if 1≤k∧k≤4 then q6 ⟨k,0,0⟩ else 0
theorem Gi(k:Int):[lF1 k,lF2 k,I (lD k)].all Value.oneCell'=true:=by
 unfold lF1 lF2;split<;>rfl
theorem Jf{s:FS}{x y:Operand}{b:Nat}(k:Int)(hx:FS.ev s x=some (.map (some b)))(hy:FS.ev s y=some (I k)):
  QJ Tryz.prog H [.obj b (.map QT.toArray 4)] s (.lookup 238 x y true) (.tuple #[.agg #[lF1 k,lF2 k,I (lD k)],.bool (decide (1≤k∧k≤4))]):=by
 by_cases h:1≤k∧k≤4
 ·rw [decide_eq_true h];have h4:k=1∨k=2∨k=3∨k=4:=by omega
  rcases h4 with rfl|rfl|rfl|rfl
  ·exact F2 (v:=Gj 1) (j:=0) hx hy iE bF rfl .here
  ·exact F2 (v:=Gj 2) (j:=1) hx hy iE bF rfl .here
  ·exact F2 (v:=Gj 3) (j:=2) hx hy iE bF rfl .here
  ·exact F2 (v:=Gj 4) (j:=3) hx hy iE bF rfl .here
 ·rw [decide_eq_false h];have e1:lF1 k= .nilFunc:=if_neg h;have e2:lF2 k= .nilFunc:=if_neg h;have e3:lD k=0:=if_neg h;rw [e1,e2,e3];refine O9 (es:=QT) (c:=4) hx hy iE bF zeroValue236 ?_ .here;have n1:(k==1)=false:=by simp only [beq_eq_false_iff_ne];omega
  have n2:(k==2)=false:=by simp only [beq_eq_false_iff_ne];omega
  have n3:(k==3)=false:=by simp only [beq_eq_false_iff_ne];omega
  have n4:(k==4)=false:=by simp only [beq_eq_false_iff_ne];omega
  simp [Instr.findNow,Instr.sameNow,QT,n1,n2,n3,n4]
theorem LV(k:Int):∀args w,(callFunc (Hi k) args).run Tryz.prog w= .ok (.enter (Hi k) args) w:=by
 unfold Hi;split
 ·exact call229
 ·split
  ·exact call232
  ·split
   ·exact call234
   ·exact call237
theorem LF(k:Int):∀args w,(callFunc (G7 k) args).run Tryz.prog w= .ok (.enter (G7 k) args) w:=by
 unfold G7;split
 ·exact call231
 ·split
  ·exact call233
  ·split
   ·exact call236
   ·exact call238
theorem LU{w:World}{s:Spc}{q:Wht}(hs:St H w σ)(h1:RI H bV s.st)(h2:RI H bS s.wa)(hk:1≤q.kind∧q.kind≤4):
  Z4 (Hi q.kind) [.agg #[I q.kind,I q.st,I q.wa,I s.id,I s.src,bV,bS,I s.al,I s.up]] w fun v w'=>∃b:Bool,v= .bool b∧(b=true↔fO s q)∧St H w' σ:=by
 unfold Hi;split
 ·exact Df hs h2 eE
 ·split
  ·exact De hs h2 eE
  ·split
   ·exact Dd hs h1 eE
   ·exact Dc hs h1 h2 ai
theorem LD{w:World}{s:Spc}{q:Wht}{u:Int}(hs:St H w σ)(h1:RI H bV s.st)(h2:RI H bS s.wa)(aJ:eZ s)(hq:fO s q)(hk:1≤q.kind∧q.kind≤4)(hi:i<s.st.length)(Up:k<s.wa.length):
  Z4 (G7 q.kind) [.agg #[I q.kind,I q.st,I q.wa,I s.id,I s.src,bV,bS,I s.al,I s.up],.agg #[I (i:Int),I (k:Int),I u]] w fun v w'=>∃H1,HLe H H1∧v=I (rF s q i k)∧St H1 w' σ:=by
 unfold G7;split
 ·exact wJ hs h1 h2 aJ hq eE hi
 ·split
  ·exact xK hs h1 aJ eE hi
  ·split
   ·exact uJ hs h2 aJ eE Up
   ·exact wI hs ai
theorem RW{q:Wht}(h:1≤q.kind∧q.kind≤4):lD q.kind=q6 q:=by
 unfold lD;rw [if_pos h];rfl
theorem LC{s:Spc}{q:Wht}(h:fO s q):1≤q.kind∧q.kind≤4:=by
 rcases uI.1 h with h|h|h|h<;>omega
set_option maxHeartbeats 1000000 in
theorem l6{w:World}{s:Spc}{q:Wht}(hs:St H w σ)(h1:RI H bV s.st)(h2:RI H bS s.wa)(aJ:eZ s):
  Z4 130 [.agg #[I s.id,I s.src,bV,bS,I s.al,I s.up],.agg #[I q.kind,I q.st,I q.wa]] w fun u w'=>∃H1 vl L d b en,HLe H H1∧u= .tuple #[vl,I d,.bool b]∧cz 1 vl (Is L) en∧((b=true∧fO s q∧L=nH s q∧d=q6 q)∨(b=false∧¬fO s q∧L=[]∧d=0))∧St H1 w' (en::σ):=by
 have oa:=eG aJ;obtain ⟨gQ,gO,rfl⟩:=RI.shape h1;obtain ⟨gy,gw,rfl⟩:=RI.shape h2;refine Cl.o func130 ntmps130 ag2 ?_;refine .ae (.bx hs fun b2 w hs=>?_);refine .bx hs fun b3 w hs=>?_
 refine .z zg (.z zg (.zn zg (.cut (fun fs w=>∃b7,mT fs ⟨46,[],[(8,.bool (decide (1≤q.kind∧q.kind≤4))),(7,Pt b7),(2,Pt b2),(3,Pt b3)]⟩∧St H w (.blk b7 [lF1 q.kind,lF2 q.kind,I (lD q.kind)]:: .blk b3 [I q.kind,I q.st,I q.wa]:: .blk b2 [I s.id,I s.src,(.slice gQ s.st.length gO),(.slice gy s.wa.length gw),I s.al,I s.up]::σ)) ?_ ?_)))
 ·refine .draw mix rfl hs fun w hs=>?_
  refine .zw 1 rfl (zfa B1) ?_;refine .y 2 rfl hs aj ?_;refine .e2 (i:=0) (j:=7) az rfl rfl rfl rfl .none .none hs ?_ ?_
  ·refine .call call187 rfl (ng hs) ?_;rintro _ w ⟨mf,rfl,hs⟩;refine .go (.q (i:=3) [.obj mf (.map QT.toArray 4)] rfl az .none (Jf (H:= .bot) q.kind rfl rfl) ?_);refine .zw 4 rfl zm ?_;refine .z 5 rfl zex ?_;refine .z 6 rfl zex ?_;refine .E 7 hs ?_;refine .alloc hs zeroValue236 rfl ?_;intro b7 w hs;refine .go (.E 8 hs ?_);refine .aE (vs:=[lF1 q.kind,lF2 q.kind,I (lD q.kind)]) hs rfl rfl sizeOf236 ?_ (hv:=Gi _);intro w hs;refine .go (.zw 9 rfl zg ?_);refine .D hs ?_;exact nT ⟨b7,aW,hs.sb⟩
  ·refine .alloc hs zeroValue236 rfl ?_;intro b7 w hs;refine .go (.E 0 hs ?_);refine .call call187 rfl (ng hs) ?_;rintro _ w ⟨mf,rfl,hs⟩;refine .go (.q (i:=3) [.obj mf (.map QT.toArray 4)] rfl az .none (Jf (H:= .bot) q.kind rfl rfl) ?_);refine .zw 4 rfl zm ?_;refine .z 5 rfl zex ?_;refine .z 6 rfl zex ?_;refine .E 8 hs ?_;refine .aE (vs:=[lF1 q.kind,lF2 q.kind,I (lD q.kind)]) hs rfl rfl sizeOf236 ?_ (hv:=Gi _);intro w hs;refine .go (.zw 9 rfl zg ?_);refine .D hs ?_;exact nT ⟨b7,aW,hs.sb⟩
 ·rintro fs w ⟨b7,iR,hs⟩;refine WE.sub ?_ iR;refine .ae (.y hs (zls [_,_,_] pS jt) (.y hs (zls [_,_,_,_,_,_] bC aT) (.z (zbd (vs:=[(0,.agg #[I q.kind,I q.st,I q.wa]),(1,.agg #[I s.id,I s.src,(.slice gQ s.st.length gO),(.slice gy s.wa.length gw),I s.al,I s.up])]) [I q.kind,I q.st,I q.wa,I s.id,I s.src,(.slice gQ s.st.length gO),(.slice gy s.wa.length gw),I s.al,I s.up] xj rfl az) (.o (.alloc hs zeroValue241 rfl fun b9 w hs=>?_)))));refine .o (.aE (vs:=[_,_,_,_,_,_,_,_,_]) hs rfl rfl Al fun w hs=>?_);refine .nil (.seq (.ae (.z zm (.z ia (.z zm (.bif (t':=24) rfl (fun Ab=>?_) (fun Ab=>?_)))))))
  ·refine .Fs 5 2 false (.zn zpT (.cT (.ae (.z zg (.z zg (.zn zg (.ret (rT (?_)))))))));have hn:¬fO s q:=fun h=>by have:=LC h;simp [this] at Ab
   exact Fin.hZ [] [] hs fun w hs=>⟨_,results3 results130 rfl rfl rfl,H,_,[],_,_,.nul,HLe.refl H,rfl,.nil 1 none,.inr ⟨rfl,hn,rfl,rfl⟩,hs.out.nul⟩
  ·refine .T ?_;have hk:1≤q.kind∧q.kind≤4:=by simpa using Ab
   rw [show lF1 q.kind= .func (.func (Hi q.kind)) #[] #[] from if_pos hk,show lF2 q.kind= .func (.func (G7 q.kind)) #[] #[] from if_pos hk,RW hk] at hs;refine .z (zfa vJ) (.T (.y hs (zld isAgg233) (.T (.y hs (zls [_,_,_,_,_,_,_,_,_] OH Al) (.T (.o (.qB (first:=[]) (cap:=[]) rfl rfl (LV q.kind) (LU (s:=s) hs h1 h2 hk) ?_)))))));rintro _ w ⟨TE,rfl,Kn,hs⟩;refine .T (.z ia (.zn zpF (.cond rfl (fun tJ=>?_) (fun tJ=>?_))))
   ·refine .ae (.z zg (.z zg (.zn zg (.ret (rT (?_))))));have hn:¬fO s q:=fun h=>by rw [Kn.2 h] at tJ;cases tJ
    exact Fin.hZ [] [] hs fun w hs=>⟨_,results3 results130 rfl rfl rfl,H,_,[],_,_,.nul,HLe.refl H,rfl,.nil 1 none,.inr ⟨rfl,hn,rfl,rfl⟩,hs.out.nul⟩
   ·refine .skip (nT (.ae (.o (.buildSlice (cells:=[_]) hs cQ rfl rfl fun Lt w hs=>?_))));refine .o (.alloc hs gX rfl fun mU w hs=>?_);refine .o (.store hs rfl rfl aO fun w hs=>?_);refine .nil (.seq (.ae (.y hs (zls [_,_,_,_,_,_] bC aT) ?_)));have hq:fO s q:=Kn.1 (by simpa using tJ);refine .o (.call Yv rfl (fb (s:=s) hs h1 h2 ⟨ai,ai⟩) ?_);rintro _ w ⟨H1,ba,aq,rfl,pF,hs⟩;have Gl:=i6 s q;refine .nil (.block ?_);refine .rangeFunc (gf:=188) (cap:=[Pt ba]) (xs:=zI s) (σb:=[.blk mU [.slice (some ⟨Lt,0,none⟩) 1 1],.blk Lt (Is [0]),.blk b7 [.func (.func (Hi q.kind)) #[] #[],.func (.func (G7 q.kind)) #[] #[],I (q6 q)],.blk b9 [I q.kind,I q.st,I q.wa,I s.id,I s.src,(.slice gQ s.st.length gO),(.slice gy s.wa.length gw),I s.al,I s.up]]) (σf:=σ) (hs.sb) trivial rfl pF Yt (fun x hx=>by
      simp only [zI,List.mem_map] at hx;obtain ⟨j,_,rfl⟩:=hx;rfl) rfl
     (I:=fun p H' σb=>∃vo en,σb=[.blk mU [vo],en,.blk b7 [.func (.func (Hi q.kind)) #[] #[],.func (.func (G7 q.kind)) #[] #[],I (q6 q)],.blk b9 [I q.kind,I q.st,I q.wa,I s.id,I s.src,(.slice gQ s.st.length gO),(.slice gy s.wa.length gw),I s.al,I s.up]]∧cz 1 vo (Is ((nH s q).take (p+1))) en) (Ix:=fun _ _ _=>False)
     (fun j _ _ σ g1 g2=>g2) (fun _ _ _ _ _ h=>h) ⟨_,_,rfl,.full rfl⟩ ?_ ?_ (fun D c H' σb w _ h _=>h.elim)
    ·rintro ly p hp H2 vX vW w aQ ⟨vo,en,rfl,hO⟩ hs ⟨rr,HF⟩;have Gn:p<s.many:=by rw [dH] at hp;exact hp
     have gd:p/s.wa.length<s.st.length:=Nat.div_lt_of_lt_mul (by rw [Nat.mul_comm];exact Gn);have J5:=Nat.mod_lt p oa.2.2.1;have hws:=CQ s q Gn;have HN:(nH s q)[p+1]? =some (rF s q (p/s.wa.length) (p%s.wa.length)):=by rw [←hws];exact bL ai
     rw [np hp];obtain ⟨al,ll,cl,rfl,yK⟩:=hO.shape;generalize p/s.wa.length=i at*;generalize p%s.wa.length=k at*;refine .region (.o (.alloc hs oR rfl fun sO w hs=>?_));refine .o (.aE (vs:=[_,_,_]) hs rfl rfl Am fun w hs=>?_);refine .nil (nT ⟨H2,[.blk sO [I (i:Int),I (k:Int),I ((p+1:Nat):Int)],.blk mU [Value.slice al ll cl],en,.blk b7 [.func (.func (Hi q.kind)) #[] #[],.func (.func (G7 q.kind)) #[] #[],I (q6 q)],.blk b9 [I q.kind,I q.st,I q.wa,I s.id,I s.src,(.slice gQ s.st.length gO),(.slice gy s.wa.length gw),I s.al,I s.up]],HLe.refl _,hs,?_⟩);rintro w nr - hs;refine .block (.draw mix rfl hs fun w hs=>?_);refine .y 0 rfl hs an ?_;refine .z 1 rfl (zfa vI) ?_;refine .zv 2 rfl hs (lO isAgg234) (.ys 3 rfl hs [_,_,_,_,_,_,_,_,_] OH Al ?_);refine .ys 4 rfl hs [_,_,_] isAgg190 Am ?_;refine .E 5 hs ?_;refine .qB (first:=[]) (cap:=[]) rfl rfl (LF q.kind) (LD (s:=s) (q:=q) (i:=i) (k:=k) hs (h1.mono (aq.trans aQ)) (h2.mono (aq.trans aQ)) aJ hq hk gd J5) ?_;rintro _ w ⟨H3,bJ,rfl,hs⟩;refine .go (.E 6 hs ?_);refine .buildSlice (cells:=[_]) hs cQ rfl rfl ?_;intro TB w hs;refine .go (.E 7 hs ?_);refine .append (ys:=Is [rF s q i k]) hs cI rfl rfl hO (.own .here rfl rfl) (jC _) (fun l h=>by simp at h;omega) ?_;intro v42 en42 w eb hs;rw [show Is ((nH s q).take (p+1))++Is [rF s q i k]=Is ((nH s q).take (p+1+1)) by rw [dA HN];simp [Is]] at eb;obtain ⟨a42,l42,c42,rfl,h42⟩:=eb.shape;refine .go (.E 8 hs ?_);refine .store hs rfl rfl aO ?_;intro w hs;exact .go (.D hs (nB ⟨H3,[.blk mU [.slice a42 l42 c42],en42,.blk b7 [.func (.func (Hi q.kind)) #[] #[],.func (.func (G7 q.kind)) #[] #[],I (q6 q)],.blk b9 [I q.kind,I q.st,I q.wa,I s.id,I s.src,(.slice gQ s.st.length gO),(.slice gy s.wa.length gw),I s.al,I s.up]],bJ,(hs.sb:St H3 w (.blk mU _::en42:: .blk b7 _:: .blk b9 _::nr)),_,_,rfl,eb⟩))
    ·rintro D H2 vX w aQ ⟨vo,en,rfl,hO⟩ hs;rw [dH,←Gl,List.take_length] at hO;replace hs:St H2 w (.obj D (.deferred (some [])):: .blk mU [vo]::en:: .blk b7 [.func (.func (Hi q.kind)) #[] #[],.func (.func (G7 q.kind)) #[] #[],I (q6 q)]:: .blk b9 [I q.kind,I q.st,I q.wa,I s.id,I s.src,(.slice gQ s.st.length gO),(.slice gy s.wa.length gw),I s.al,I s.up]::σ):=hs;obtain ⟨al,ll,cl,rfl,yK⟩:=hO.shape;refine nB (nT (.seq (.draw mix rfl hs fun w hs=>?_)));refine .y 0 rfl hs an ?_;refine .z 1 rfl (zfa vH) ?_;refine .y 2 rfl hs aj ?_;refine .z 3 rfl zg ?_;refine .z 4 rfl zg ?_;refine .z 5 rfl zg ?_;refine .D hs ?_;exact .ret (Fin.hZ [D] [] hs fun w hs=>⟨_,results3 results130 rfl rfl rfl,H2,_,_,_,_,en,aq.trans aQ,rfl,hO,.inl ⟨rfl,hq,rfl,rfl⟩,hs.sb⟩)
theorem fH{w:World}(hs:St H w σ)(hd:1≤d)(ha: -4608000000000000000≤a∧a≤4608000000000000000):
  Z4 132 [I a,I d] w fun v w'=>v=I (a/d)∧St H w' σ:=by
 have hq: -4608000000000000000≤a.tdiv d∧a.tdiv d≤4608000000000000000:=by
  have h1:=qZ (n:=a) (d:=d) ai;have h2:a/d≤4608000000000000000:=Int.ediv_le_of_le_mul ai (by
   have:=Int.mul_le_mul_of_nonneg_left hd (show (0:Int)≤4608000000000000000 by omega);omega)
  have h3: -4608000000000000000≤a/d:=Int.le_ediv_of_mul_le ai (by
   have:=Int.mul_le_mul_of_nonneg_left hd (show (0:Int)≤4608000000000000000 by omega);omega)
  by_cases h0:0≤a
  ·rw [Int.tdiv_eq_ediv_of_nonneg h0];omega
  ·split at h1
   ·have:a/d<0:=Int.ediv_neg_of_neg_of_pos ai ai;omega
   ·omega
 have Cz:=qZ (n:=a) (d:=d) ai;refine Cl.o func132 ntmps132 ag2 ?_;refine .ae (.zn zg (.ae (.z zm (.z zm (.q hs (wg rfl rfl ai ⟨ai,ai⟩) (.zn zg (.seq (.ae (.z zm (.z zm (.z FP (.zn ju (.cg rfl (fun eT=>?_) (fun eT=>?_))))))))))))))
 ·refine .region (.z zm (.z iX (.zn zg (nT (.ae (.z zm (.zn zg (.ret (Fin.bw results132 rfl ?_)))))))));rw [if_pos eT] at Cz;exact ⟨by rw [Cz],hs⟩
 ·refine .skip (nT (.ae (.z zm (.zn zg (.ret (Fin.bw results132 rfl ?_))))));rw [if_neg eT,Int.sub_zero] at Cz;exact ⟨by rw [Cz],hs⟩
theorem sr{w:World}(hs:St H w σ)(h1:RI H bV s.sp.st)(h2:RI H bS s.sp.wa)(h3:RRd H vr s.rs)(h4:RCm H vc s.cs)(aJ:cR s):
  Z4 178 [.agg #[I s.sp.id,I s.sp.src,bV,bS,I s.sp.al,I s.sp.up,vr,vc]] w fun u w'=>∃H1,∃b:Bool,HLe H H1∧u= .bool b∧(b=true↔s.sys.Sound)∧St H1 w' σ:=by
 refine Cl.o func178 ntmps178 ag1 ?_;refine .ae (.bx hs fun b1 w hs=>?_);refine .zn zg (.ae (.y hs (zls [_,_,_,_,_,_,_,_] aP aC) (.o (.call call133 rfl (fK (s:=s) hs h1 h2 h3 h4 aJ.early) ?_))));rintro v7 w ⟨H1,aq,hS,hs⟩;refine .o (.call call221 rfl (xf (s:=s.sys) hs hS) ?_);rintro _ w ⟨H2,vx,xs,e,aQ,rfl,rx,hC,hs⟩;obtain ⟨ax,cx,rfl⟩:=RI.shape rx;have WH:s.sys.check=0:=s.sys.cO.2 aJ.sys;obtain rfl:e=0:=by
  cases hC with
  |bad h=>exact (h WH).elim
  |sound=>rfl
  |chain=>rfl
 have HM:=hC.IZ;refine .z zm (.z zex (.z zex (.z zg (.zn zg (.ae (.z zm (.z ik (.z zm (.iY (t':=13) rfl (fun E8=>?_) (fun E8=>?_))))))))))
 ·refine .T (.z zm (.T (.z (de af) (.T (.z ik (.z zpT (.zn zg (.ret (Fin.bw results178 rfl ?_)))))))));first
  |exact ⟨H2,_,aq.trans aQ,rfl,by rw [←HM,decide_eq_true_eq];exact ⟨fun h=>List.length_eq_zero_iff.1 ai,fun h=>by rw [h];rfl⟩,hs.out⟩
  |exact (E8 rfl).elim
 ·refine .Fs 3 2 true (.z zpF (.zn zg (.ret (Fin.bw results178 rfl ?_))));first
  |exact ⟨H2,_,aq.trans aQ,rfl,by rw [←HM,decide_eq_true_eq];exact ⟨fun h=>List.length_eq_zero_iff.1 ai,fun h=>by rw [h];rfl⟩,hs.out⟩
  |exact (E8 rfl).elim
theorem Np(L:List Int)(j:Nat):L++List.replicate j 0++[0]=L++List.replicate (j+1) 0:=by
 rw [List.append_assoc,←List.replicate_succ']
set_option maxHeartbeats 1000000 in
theorem oY{w:World}{q:Wht}(hs:St H w σ)(h1:RI H bV s.sp.st)(h2:RI H bS s.sp.wa)(h3:RRd H vr s.rs)(h4:RCm H vc s.cs)(aJ:cR s):
  Z4 177 [.agg #[I s.sp.id,I s.sp.src,bV,bS,I s.sp.al,I s.sp.up,vr,vc],.agg #[I q.kind,I q.st,I q.wa]] w fun u w'=>∃H1 ul vw L d b,HLe H H1∧u= .tuple #[.agg #[I s.sys.many,ul,vw,I d],.bool b]∧RL H1 ul s.cJ∧RI H1 vw L∧L.length=s.sys.n∧((b=true∧fO s.sp q∧L=s.w q∧d=q6 q)∨(b=false∧¬fO s.sp q))∧St H1 w' σ:=by
 have hn:=xY s;have hm:=aJ.many;have oa:s.sys.many+1=(s.sys.n:Int):=by rw [hn];show ((s.sp.many+s.cC.length:Nat):Int)+1=_;omega
 refine Cl.o func177 ntmps177 ag2 ?_;refine .ae (.bx hs fun b2 w hs=>?_);refine .bx hs fun b3 w hs=>?_
 refine .o (.alloc hs oS rfl fun b4 w hs=>?_);refine .zn zg (.ae (.y hs (zls [_,_,_,_,_,_,_,_] aP aC) (.o (.call call133 rfl (fK (s:=s) hs h1 h2 h3 h4 aJ.early) ?_))));rintro _ w ⟨H1,aq,⟨ul,rfl,hL⟩,hs⟩;obtain ⟨al,cl,rfl⟩:=RL.shape hL;refine .o (.alloc hs gZ rfl fun b6 w hs=>?_);refine .o (.aE (vs:=[_,_]) hs rfl rfl bg fun w hs=>?_);refine .nil (.ae (.z (zfa aK) (.y hs (zls [_,_,_,_,_,_] bC aT) (.y hs (zls [_,_,_] pS jt) (.o (.call call130 rfl (l6 (s:=s.sp) (q:=q) hs (h1.mono aq) (h2.mono aq) aJ.early.1) ?_))))));rintro _ w ⟨H2,vl,L0,d,b,en,aQ,rfl,hO,iV,hs⟩;have hL0:L0.length≤s.sys.n:=by
  rcases iV with ⟨_,_,rfl,_⟩|⟨_,_,rfl,_⟩
  ·rw [i6,hn];omega
  ·simp
 have dr:=aq.trans aQ;refine .z zm (.z zex (.z zex (.z zex (.z zg (.z zg (.zn zg (.seq (.block ?_))))))));refine .loop (fun p:Nat×Value=>⟨34,[],[(7,p.2),(8,I d),(9,.bool b),(6,Pt b6),(4,Pt b4)]⟩)
  (fun p w=>L0.length+p.1≤s.sys.n∧∃en,cz 1 p.2 (Is (L0++List.replicate p.1 0)) en∧St H2 w (en:: .blk b6 [I s.sys.many,.slice al s.cJ.length cl]:: .blk b4 [I 0,.slice none 0 0,.slice none 0 0,I 0]::σ)) (fun p=>s.sys.n - (L0.length+p.1)) (0,vl) aW
  ⟨by simpa using hL0,en,by simpa using hO,hs.sb⟩ ?_
 clear hO hs;rintro ⟨j,vo⟩ w ⟨hj,en,hO,hs⟩;dsimp only at hj hO ⊢;obtain ⟨ao,lo,co,rfl,w7⟩:=hO.shape;have Sh:lo=L0.length+j:=by simp [Is] at w7;omega
 refine .seq (.ae (.z zm (.z (de af) (.z (zfa bU) (.y hs (zld aj) (.z cD (.zn ju (.cg rfl (fun jT=>?_) (fun jT=>?_)))))))))
 ·refine .skip (nT (.block (.region (.z zm (.o (.buildSlice (cells:=[_]) hs cQ rfl rfl fun A3 w hs=>?_))))));refine .o (.append (ys:=Is [0]) hs cI rfl rfl hO (.own .here rfl rfl) (jC _) (fun l' h=>by simp [Is] at h;omega) ?_);intro v28 en28 w eb hs;rw [show Is (L0++List.replicate j 0)++Is [0]=Is (L0++List.replicate (j+1) 0) by rw [←Np];simp [Is]] at eb;exact .zn zg (nB (nT ⟨(j+1,v28),aW,⟨by dsimp only;omega,_,eb,hs.sb⟩,by dsimp only;omega⟩))
 ·refine .exit (xT (xT (xB (nT (.ae (.y hs (zls [_,_] cf bg) (.z zm (.z zm (.z (zbd [_,_,_,_] gP) (.z zm (.o (.aE (vs:=[_,_,_,_]) hs rfl rfl eQ fun w hs=>?_))))))))))));refine .zn zg (.ret ?_);have Ss:L0.length+j=s.sys.n:=by omega
  obtain ⟨H3,bJ,hR,hs⟩:=cz.dT hO (by simp;omega) hs eJ;exact Fin.hZ [] [] hs fun w hs=>⟨_,results2 results177 (cN (vs:=[_,_,_,_]) hs rfl zM eQ) rfl,H3,_,_,_,d,b,dr.trans bJ,rfl,hL.mono (aQ.trans bJ),hR,by simp;omega,by
   rcases iV with ⟨g1,g2,rfl,g3⟩|⟨g1,g2,_,_⟩
   ·refine .inl ⟨g1,g2,?_,g3⟩;rw [i6,hn] at Ss;unfold Srv.w;rw [show j=s.cC.length by omega]
   ·exact .inr ⟨g1,g2⟩,hs.out⟩
inductive qR(v:Srv)(q:Wht):Int→Prop
 |bad {e:Int} (h:zJ v e) (he:e≠0):qR v q e
 |what (h:cR v) (h1:¬fO v.sp q):qR v q 33
 |fls (h:cR v) (h1:fO v.sp q) (h2:¬v.sys.Sound):qR v q 35
 |ok (h:cR v) (h1:fO v.sp q) (h2:v.sys.Sound):qR v q 0
theorem qR.zero{v:Srv}{q:Wht}(h:qR v q 0):cR v∧fO v.sp q∧v.sys.Sound:=by
 generalize hz:(0:Int)=z at h
 cases h with
 |bad h he=>exact (he hz.symm).elim
 |what=>omega
 |fls=>omega
 |ok h h1 h2=>exact ⟨h,h1,h2⟩
theorem qR.qty{v:Srv}{q:Wht}(h:qR v q e)(he:e≠0):A7 v q 0 0 e:=by
 cases h with
 |bad h he=>exact .bad h he
 |what h h1=>exact .what h h1
 |fls h h1 h2=>exact .fls h h1 h2
 |ok=>exact (he rfl).elim
set_option maxHeartbeats 1000000 in
theorem kh{w:World}{q:Wht}(hs:St H w σ)(h1:RI H bV s.sp.st)(h2:RI H bS s.sp.wa)(h3:RRd H vr s.rs)(h4:RCm H vc s.cs):
  Z4 125 [.agg #[I s.sp.id,I s.sp.src,bV,bS,I s.sp.al,I s.sp.up,vr,vc],.agg #[I q.kind,I q.st,I q.wa]] w fun u w'=>∃H1 m ul vw d e,HLe H H1∧u= .tuple #[.agg #[I m,ul,vw,I d],I e]∧(∃a l c,ul= .slice a l c)∧(∃a l c,vw= .slice a l c)∧qR s q e∧(e=0→m=s.sys.many∧RL H1 ul s.cJ∧RI H1 vw (s.w q)∧d=q6 q)∧St H1 w' σ:=by
 refine Cl.o func125 ntmps125 ag2 ?_;refine .ae (.bx hs fun b2 w hs=>?_);refine .bx hs fun b3 w hs=>?_
 refine .o (.alloc hs oS rfl fun b4 w hs=>?_);refine .zn zg (.seq (.ae (.y hs (zls [_,_,_,_,_,_,_,_] aP aC) (.o (.call Ao rfl (dn (s:=s) hs h1 h2 h3 h4) ?_)))));rintro _ w ⟨H1,e,aq,rfl,hC,hs⟩;refine .zn zg (.ae (.z zm (.zn ez (.dz rfl (fun eT=>?_) (fun eT=>?_)))))
 ·refine .ae (.z (zbd [_,_,_,_] gP) (.z zm (.o (.aE (vs:=[_,_,_,_]) hs rfl rfl eQ fun w hs=>?_))));exact .zn zg (.ret (rT ((Fin.hZ [] [] hs fun w hs=>⟨_,results2 results125 (cN (vs:=[_,_,_,_]) hs rfl zM eQ) rfl,H1,_,_,_,_,e,aq,rfl,⟨_,_,_,rfl⟩,⟨_,_,_,rfl⟩,.bad hC eT,fun h=>(eT h).elim,hs.out⟩))))
 ·refine .skip (nT (.ae (.y hs (zls [_,_,_,_,_,_,_,_] aP aC) (.y hs (zls [_,_,_] pS jt) ?_))));have aJ:cR s:=hC.cO.1 (by simpa using eT);refine .o (.call call177 rfl (oY (s:=s) (q:=q) hs (h1.mono aq) (h2.mono aq) (h3.mono aq) (h4.mono aq) aJ) ?_);rintro _ w ⟨H2,ul,vw,L,d,b,aQ,rfl,hL,hR,Qb,iV,hs⟩;have dr:=aq.trans aQ;obtain ⟨al,cl,rfl⟩:=RL.shape hL;obtain ⟨aw,cw,rfl⟩:=RI.shape hR;refine .z zm (.z zex (.z zex (.o (.alloc hs oS rfl fun b7 w hs=>?_))));refine .o (.aE (vs:=[_,_,_,_]) hs rfl rfl eQ fun w hs=>?_);refine .zn zg (.seq (.block (.ae (.z zm (.z ia (.zn zg (.cond rfl (fun jU=>?_) (fun jU=>?_))))))))
  ·refine .ae (.z (zbd [_,_,_,_] gP) (.o (.aE (vs:=[_,_,_,_]) hs rfl rfl eQ fun w hs=>?_)));refine .zn zg (.ret (rB (rT (?_))));have hq:¬fO s.sp q:=by
    rcases iV with ⟨g,_⟩|⟨_,g⟩
    ·subst g;cases jU
    ·exact g
   exact Fin.hZ [] [] hs fun w hs=>⟨_,results2 results125 (cN (vs:=[_,_,_,_]) hs rfl zM eQ) rfl,H2,_,_,_,_,_,dr,rfl,⟨_,_,_,rfl⟩,⟨_,_,_,rfl⟩,.what aJ hq,fun h=>by omega,hs.out⟩
  ·refine .ae (.y hs (zls [_,_,_,_,_,_,_,_] aP aC) ?_);obtain ⟨rfl,hq,rfl,rfl⟩:b=true∧fO s.sp q∧L=s.w q∧d=q6 q:=iV.resolve_right fun h=>by rw [h.1] at jU;cases jU
   refine .o (.call call178 rfl (sr (s:=s) hs (h1.mono dr) (h2.mono dr) (h3.mono dr) (h4.mono dr) aJ) ?_);rintro _ w ⟨H3,A3,bJ,rfl,tM,hs⟩;refine .z ia (.zn zg (.cond rfl (fun jT=>?_) (fun jT=>?_)))
   ·refine .ae (.z (zbd [_,_,_,_] gP) (.o (.aE (vs:=[_,_,_,_]) hs rfl rfl eQ fun w hs=>?_)));exact .zn zg (.ret (rB (rT ((Fin.hZ [] [] hs fun w hs=>⟨_,results2 results125 (cN (vs:=[_,_,_,_]) hs rfl zM eQ) rfl,H3,_,_,_,_,_,dr.trans bJ,rfl,⟨_,_,_,rfl⟩,⟨_,_,_,rfl⟩,.fls aJ hq (fun h=>by rw [tM.2 h] at jT;cases jT),fun h=>by omega,hs.out⟩)))))
   ·refine .skip (nB (nT (.ae (.y hs (zls [_,_,_,_] zM eQ) (.o (.aE (vs:=[_,_,_,_]) hs rfl rfl eQ fun w hs=>?_))))));exact .zn zg (.ret (Fin.hZ [] [] hs fun w hs=>⟨_,results2 results125 (cN (vs:=[_,_,_,_]) hs rfl zM eQ) rfl,H3,_,_,_,_,_,dr.trans bJ,rfl,⟨_,_,_,rfl⟩,⟨_,_,_,rfl⟩,.ok aJ hq (tM.1 (by simpa using jT)),fun _=>⟨rfl,hL.mono bJ,hR.mono bJ,rfl⟩,hs.out⟩))
set_option maxHeartbeats 1000000 in
theorem tp{w:World}{q:Wht}(hs:St H w σ)(h1:RI H bV s.sp.st)(h2:RI H bS s.sp.wa)(h3:RRd H vr s.rs)(h4:RCm H vc s.cs):
  Z4 174 [.agg #[I s.sp.id,I s.sp.src,bV,bS,I s.sp.al,I s.sp.up,vr,vc],.agg #[I q.kind,I q.st,I q.wa]] w fun u w'=>∃H1 lo hi e,HLe H H1∧u= .tuple #[.agg #[I lo,I hi],I e]∧A7 s q lo hi e∧St H1 w' σ:=by
 refine Cl.o func174 ntmps174 ag2 ?_;refine .ae (.bx hs fun b2 w hs=>?_);refine .bx hs fun b3 w hs=>?_
 refine .o (.alloc hs cS rfl fun b4 w hs=>?_);refine .zn zg (.ae (.y hs (zls [_,_,_,_,_,_,_,_] aP aC) (.y hs (zls [_,_,_] pS jt) (.o (.call call125 rfl (kh (s:=s) (q:=q) hs h1 h2 h3 h4) ?_)))));rintro _ w ⟨H1,m,ul,vw,d,e,aq,rfl,⟨al,ll,cl,rfl⟩,⟨aw,lw,cw,rfl⟩,hA,Kw,hs⟩;refine .z zm (.z zex (.z zex (.o (.alloc hs oS rfl fun b6 w hs=>?_))));refine .o (.aE (vs:=[_,_,_,_]) hs rfl rfl eQ fun w hs=>?_);refine .zn zg (.seq (.ae (.z zm (.zn ez (.dz rfl (fun iy=>?_) (fun iy=>?_))))))
 ·refine .ae (.z (zbd [_,_] bQ) (.z zm (.o (.aE (vs:=[_,_]) hs rfl rfl aD fun w hs=>?_))));exact .zn zg (.ret (rT ((Fin.hZ [] [] hs fun w hs=>⟨_,results2 results174 (cN (vs:=[_,_]) hs rfl bK aD) rfl,H1,_,_,_,aq,rfl,hA.qty iy,hs.out⟩))))
 ·refine .skip (nT (.ae (.z (zfa gj) (.y hs (zls [_,_] cf bg) (.z (zfa lk) (.y hs (zld an) ?_))))));obtain rfl:e=0:=by simpa using iy
  obtain ⟨rfl,hL,hR,rfl⟩:=Kw rfl;obtain ⟨aJ,hq,om⟩:=hA.zero;refine .o (.call call219 rfl (xd (s:=s.sys) hs ⟨_,rfl,hL⟩ hR) ?_);rintro _ w ⟨H2,lo,hi,f,aQ,rfl,Xl,hs⟩;obtain rfl:=Cc (aJ.ask hq) om (fun b=>s.both) Xl;have zF:=Xl.bd;have Uw:=q5 q;refine .z zm (.z zex (.z zex (.z zex (.z zg (.z zg (.zn zg (.seq (.ae (.z zm (.zn ez (.dz rfl (fun tJ=>?_) (fun tJ=>?_))))))))))))
  ·refine .ae (.z (zbd [_,_] bQ) (.z zm (.o (.aE (vs:=[_,_]) hs rfl rfl aD fun w hs=>?_))));exact .zn zg (.ret (rT (((tJ rfl).elim))))
  ·refine .skip (nT (.seq (.draw mix rfl hs fun w hs=>?_)));refine .zw 0 rfl zm ?_;refine .z 1 rfl (zfa eV) ?_;refine .y 2 rfl hs aj ?_;refine .z 4 rfl zm ?_;refine .z 5 rfl (zfa eV) ?_;refine .y 6 rfl hs aj ?_;refine .E 3 hs ?_;refine .call call132 rfl (fH hs ai ai) ?_;rintro _ w ⟨rfl,hs⟩;refine .go (.E 7 hs ?_);refine .call call132 rfl (fH hs ai ai) ?_;rintro _ w ⟨rfl,hs⟩;refine .go (.zw 8 rfl (zbd [_,_] bQ) (.E 9 hs ?_));refine .aE (vs:=[_,_]) hs rfl rfl aD ?_;intro w hs;refine .go (.zw 10 rfl zg ?_);refine .D hs ?_;exact .ret (Fin.hZ [] [] hs fun w hs=>⟨_,results2 results174 (cN (vs:=[_,_]) hs rfl bK aD) rfl,H2,_,_,_,aq.trans aQ,rfl,.ok aJ hq om Xl,hs.out⟩)
inductive G1(v:Srv)(out:List Int):Int→Prop
 |bad {e:Int} (h:zJ v e) (he:e≠0) (h1:out=[]):G1 v out e
 |ok {e:Int} (h:cR v) (h1:FG v.sys out e):G1 v out e
theorem tn{w:World}(hs:St H w σ)(h1:RI H bV s.sp.st)(h2:RI H bS s.sp.wa)(h3:RRd H vr s.rs)(h4:RCm H vc s.cs):
  Z4 175 [.agg #[I s.sp.id,I s.sp.src,bV,bS,I s.sp.al,I s.sp.up,vr,vc]] w fun u w'=>∃H1 vx out e,HLe H H1∧u= .tuple #[vx,I e]∧RI H1 vx out∧G1 s out e∧St H1 w' σ:=by
 refine Cl.o func175 ntmps175 ag1 ?_;refine .ae (.bx hs fun b1 w hs=>?_);refine .z zg (.zn zg (.seq (.ae (.y hs (zls [_,_,_,_,_,_,_,_] aP aC) (.o (.call Ao rfl (dn (s:=s) hs h1 h2 h3 h4) ?_))))));rintro _ w ⟨H1,e,aq,rfl,hC,hs⟩;refine .zn zg (.ae (.z zm (.zn ez (.dz rfl (fun qm=>?_) (fun qm=>?_)))))
 ·exact .ae (.z zm (.z zg (.zn zg (.ret (rT (Fin.jr results175 rfl rfl ⟨H1,_,[],_,aq,rfl,RS.nil H1 1 none 0,.bad hC qm rfl,hs.out⟩))))))
 ·refine .skip (nT (.ae (.y hs (zls [_,_,_,_,_,_,_,_] aP aC) ?_)));have aJ:cR s:=hC.cO.1 (by simpa using qm);refine .o (.call call133 rfl (fK (s:=s) hs (h1.mono aq) (h2.mono aq) (h3.mono aq) (h4.mono aq) aJ.early) ?_);rintro v14 w ⟨H2,aQ,hS,hs⟩;refine .o (.call call220 rfl (sL (s:=s.sys) hs hS) ?_);rintro _ w ⟨H3,vx,out,f,bJ,rfl,hR,hCf,hs⟩;exact .z zm (.z zex (.z zex (.z zg (.zn zg (.ae (.z zm (.z zm (.z zg (.zn zg (.ret (Fin.jr results175 rfl rfl ⟨H3,_,out,_,aq.trans (aQ.trans bJ),rfl,hR,.ok aJ hCf,hs.out⟩)))))))))))
theorem p4{w:World}{v:Value}{rs:List (List Int)}(q:List Int→Prop)(hs:St H w σ)(hR:RT H v rs)(hl:rs.length≤9223372036854775807)(hc:∀args w,(callFunc g args).run Tryz.prog w= .ok (.enter g args) w)
  (hp:∀H' w σ r u,HLe H H'→RI H' u r→St H' w σ→Z4 g ([u]++cap) w fun z w'=>∃H1 b,HLe H' H1∧z= .bool b∧(b=true↔q r)∧St H1 w' σ):
  Z4 227 [v,.func (.func g) #[] cap.toArray] w fun u w'=>∃H1 i,HLe H H1∧u=I i∧(0≤i↔∃x∈rs,q x)∧St H1 w' σ:=by
 obtain ⟨a,c,rfl⟩:=hR.shape;refine Cl.o func227 ntmps227 ag2 ?_;refine .ae (.zn zg (.seq (.ae (.z zm (.z (de aF) (.zn zm (.for (N:=rs.length) (J:=fun k fr w=>fr=[(1,.func (.func g) #[] cap.toArray),(0,.slice a rs.length c)]∧∃H1,HLe H H1∧(∀j<k,∀y,rs[j]? =some y→¬q y)∧St H1 w σ) ai ?_ ?_ ?_)))))))
 ·exact .mk ⟨rfl,H,HLe.refl H,fun j hj=>by omega,hs⟩
 ·rintro k fr w hk ⟨rfl,H1,aq,fV,hs⟩;have hx:=wB (rs:=rs) hk;refine .block (.ae (.z zm (.zn zg (.ae (.z zm (.z zm (.z zm (.ixT hs (hR.mono aq) rfl rfl aF aO (show k<_ by omega) dG ?_))))))));intro ka o14 a14 c14 js Xv;refine .q hs (aR rfl an js) (.o (.qB (first:=[]) (cap:=cap) rfl rfl hc (hp _ _ _ (gr rs k) _ aq Xv hs) ?_));rintro _ w ⟨H2,ui,aQ,rfl,vF,hs⟩;refine .nil (.cond rfl (fun dN=>?_) (fun dN=>?_))
  ·exact .ae (.z zm (.zn zg (.ret (rB (rT (rB (rT (Fin.bw results227 rfl ⟨H2,_,aq.trans aQ,rfl,⟨fun _=>⟨_,List.mem_of_getElem? hx,vF.1 dN⟩,fun _=>by omega⟩,hs⟩))))))))
  ·exact .skip (nB (nT (.mk ⟨rfl,H2,aq.trans aQ,fY fV hx (fun h=>by rw [vF.2 h] at dN;cases dN),hs⟩)))
 ·rintro fr w ⟨rfl,H1,aq,fV,hs⟩;refine nT (.ae (.zn zg (.ret (Fin.bw results227 rfl ?_))));exact ⟨H1,_,aq,rfl,⟨fun h=>by omega,fun ⟨x,h1,h2⟩=>by
   obtain ⟨j,hj⟩:=List.getElem?_of_mem h1;exact (fV j (List.getElem?_eq_some_iff.1 hj).1 x hj h2).elim⟩,hs⟩
theorem nN{w:World}{v:Value}{rs:List (List Int)}(q:List Int→Prop)(hs:St H w σ)(hR:RT H v rs)(hl:rs.length≤9223372036854775807)(hc:∀args w,(callFunc g args).run Tryz.prog w= .ok (.enter g args) w)
  (hp:∀H' w σ r u,HLe H H'→RI H' u r→St H' w σ→Z4 g ([u]++cap) w fun z w'=>∃H1 b,HLe H' H1∧z= .bool b∧(b=true↔q r)∧St H1 w' σ):
  Z4 183 [v,.func (.func g) #[] cap.toArray] w fun u w'=>∃H1 b,HLe H H1∧u= .bool b∧(b=true↔∃x∈rs,q x)∧St H1 w' σ:=by
 refine Cl.o func183 ntmps183 ag2 ?_;refine .ae (.zn zg (.ae (.z zm (.z zm (.o (.call call227 rfl (p4 q hs hR hl hc hp) ?_))))));rintro _ w ⟨H1,i,aq,rfl,hi,hs⟩;exact .z Ct (.zn zg (.ret (Fin.bw results183 rfl ⟨H1,_,aq,rfl,by simp only [decide_eq_true_eq];exact hi,hs⟩)))
theorem yH{w:World}{n:Int}(hs:St H w σ):
  Z4 186 [I n] w fun u w'=>u= .bool (!decide (0≤n∧n≤20000))∧St H w' σ:=by
 refine Cl.o func186 ntmps186 ag1 ?_;refine .ae (.zn zg (.ae (.z zm (.o (.call iS rfl (bA hs) ?_)))));rintro _ w ⟨rfl,hs⟩;exact .z ia (.zn zg (.ret (Fin.bw results186 rfl ⟨rfl,hs⟩)))
theorem BN{w:World}{s:Spc}{v:Value}{r:List Int}{b:Nat}(hs:St H w σ)(hb:Row H b [I s.id,I s.src,bV,bS,I s.al,I s.up])(h2:RI H bS s.wa)(hr:RI H v r):
  Z4 184 [v,Pt b] w fun u w'=>∃H1 bb,HLe H H1∧u= .bool bb∧(bb=true↔¬(r.length=s.wa.length∧∀x∈r,0≤x∧x≤20000))∧St H1 w' σ:=by
 obtain ⟨a,c,rfl⟩:=RI.shape hr;obtain ⟨gy,gw,rfl⟩:=RI.shape h2;have UC:=hb.at 3;refine Cl.o func184 ntmps184 ag2 ?_;refine .ae (.zn zg (.ae (.z zm (.z (de af) (.z (zfa aZ) (.y hs (zld an) (.z (de af) (.z ez (.z zm (.Eo (t':=10) rfl (fun sH=>?_) (fun sH=>?_)))))))))))
 ·exact .Fs 2 6 false (.z zpT (.zn zg (.ret (Fin.bw results184 rfl ⟨H,true,HLe.refl H,rfl,⟨fun _ h=>by have:=h.1;simp_all,fun _=>rfl⟩,hs⟩))))
 ·refine .T (.z zm (.T (.o (.call call185 rfl (nu (g:=186) (cap:=[]) (fun n=>¬(0≤n∧n≤20000)) hs hr call186 (fun H' w σ n _ _ hs=>(yH hs).mono fun u w' ⟨g1,g2⟩=>⟨H',_,HLe.refl _,g1,by simp;omega,g2⟩)) ?_))));rintro _ w ⟨H1,Fx,aq,rfl,Kt,hs⟩;refine .z zpF (.zn zg (.ret (Fin.bw results184 rfl ?_)));have hlen:r.length=s.wa.length:=by simp_all;omega
  exact ⟨H1,_,aq,rfl,by
   rw [Kt];constructor
   ·rintro ⟨x,h1,h2⟩ h;exact h2 (h.2 x h1)
   ·intro h;refine Classical.byContradiction fun hn=>h ⟨hlen,fun x hx=>Classical.byContradiction fun hx'=>hn ⟨x,hx,hx'⟩⟩,hs⟩
theorem MG{s:Spc}:lE s rows↔rows.length=s.st.length∧∀r∈rows,r.length=s.wa.length∧∀x∈r,0≤x∧x≤20000:=by
 constructor
 ·rintro ⟨h1,h2,h3⟩;refine ⟨h1,fun r hr=>?_⟩;obtain ⟨i,hi⟩:=List.getElem?_of_mem hr;have sW:=(List.getElem?_eq_some_iff.1 hi).1;have hg:=wB sW;rw [hi] at hg;obtain rfl:=Option.some.inj hg;have hl:=h2 i ai;refine ⟨hl,fun x hx=>?_⟩;obtain ⟨k,hk⟩:=List.getElem?_of_mem hx;have sV:=(List.getElem?_eq_some_iff.1 hk).1;have Y9:=bL sV;rw [hk] at Y9;obtain rfl:=Option.some.inj Y9;exact h3 i ai k ai
 ·rintro ⟨h1,h2⟩;have hm:∀i<s.st.length,gr rows i∈rows:=fun i hi=>List.mem_of_getElem? (wB ai)
  refine ⟨h1,fun i hi=>(h2 _ (hm i hi)).1,fun i hi k hk=>?_⟩;have hl:=(h2 _ (hm i hi)).1;exact (h2 _ (hm i hi)).2 _ (List.mem_of_getElem? (bL ai))
theorem mE{w:World}{s:Spc}(hs:St H w σ)(h1:RI H bV s.st)(h2:RI H bS s.wa)(hr:RT H vh rows):
  Z4 129 [.agg #[I s.id,I s.src,bV,bS,I s.al,I s.up],.agg #[vh]] w fun u w'=>∃H1 b,HLe H H1∧u= .bool b∧(b=true↔lE s rows)∧St H1 w' σ:=by
 obtain ⟨gQ,gO,rfl⟩:=RI.shape h1;obtain ⟨gy,gw,rfl⟩:=RI.shape h2;obtain ⟨ah,ch,rfl⟩:=hr.shape;have Cx:=(hr.len).2.2;refine Cl.o func129 ntmps129 ag2 ?_;refine .ae (.bx hs fun b2 w hs=>?_);refine .bx hs fun b3 w hs=>?_
 refine .zn zg (.ae (.z (zfa eO) (.y hs (zld vU) (.z (de aF) (.z (zfa bE) (.y hs (zld an) (.z (de af) (.z ik (.z zm (.iY (t':=12) rfl (fun Kt=>?_) (fun Kt=>?_)))))))))))
 ·refine .T (.z (zfa eO) (.T (.y hs (zld vU) (.T (.q hs (dp (f:=[]) (c:=[_]) rfl rfl) (.T ?_))))));obtain ⟨H0,eY,zG,hs⟩:=hs.bZ (b:=b2) eJ;refine .o (.call call183 rfl (nN (g:=184) (cap:=[Pt b2]) (fun r=>¬(r.length=s.wa.length∧∀x∈r,0≤x∧x≤20000)) hs (hr.mono eY) Cx call184 (fun H' w σ r u hle hu hs=>BN (s:=s) hs (zG.mono hle) (h2.mono (eY.trans hle)) hu)) ?_);rintro _ w ⟨H1,ui,aq,rfl,vF,hs⟩;refine .T (.z ia (.z zpT (.zn zg (.ret (Fin.bw results129 rfl ?_)))));exact ⟨H1,_,eY.trans aq,rfl,by
   rw [MG];have hlen:rows.length=s.st.length:=by omega
   cases El:ui with
   |true=>
    obtain ⟨x,hx,hn⟩:=vF.1 El;exact ⟨fun h=>(by cases h),fun h=>(hn (h.2 x hx)).elim⟩
   |false=>exact ⟨fun _=>⟨hlen,fun r hr=>Classical.byContradiction fun hn=>by rw [vF.2 ⟨r,hr,hn⟩] at El;cases El⟩,fun _=>rfl⟩,hs.out⟩
 ·exact .Fs 5 7 true (.z zpF (.zn zg (.ret (Fin.bw results129 rfl ⟨H,_,HLe.refl H,rfl,⟨fun h=>(by cases h),fun h=>by have:=h.len;omega⟩,hs.out⟩))))
set_option maxHeartbeats 1000000 in
theorem ki{w:World}{s:Spc}{q:Wht}(hs:St H w σ)(h1:RI H bV s.st)(h2:RI H bS s.wa)(hr:RT H vh rows):
  Z4 64 [.agg #[I s.id,I s.src,bV,bS,I s.al,I s.up],.agg #[vh],.agg #[I q.kind,I q.st,I q.wa]] w fun u w'=>∃H1 n e,HLe H H1∧u= .tuple #[I n,I e]∧qP s rows q n e∧St H1 w' σ:=by
 obtain ⟨ah,ch,rfl⟩:=hr.shape;refine Cl.o func64 ntmps64 ag3 ?_;refine .ae (.bx hs fun b3 w hs=>?_);refine .bx hs fun b4 w hs=>?_
 refine .bx hs fun b5 w hs=>?_
 refine .z zg (.zn zg (.seq (.ae (.y hs (zls [_,_,_,_,_,_] bC aT) (.o (.call call111 rfl (fq (s:=s) hs h1 h2) ?_))))));rintro _ w ⟨H1,e,aq,rfl,he,hs⟩;refine .zn zg (.ae (.z zm (.zn ez (.dz rfl (fun iy=>?_) (fun iy=>?_)))))
 ·refine .ae (.z zm (.z zg (.zn zg (.ret (rT (?_))))));have hq:¬eZ s∧e=30:=he.resolve_left fun h=>iy h.2
  exact Fin.hZ [] [] hs fun w hs=>⟨_,results2 results64 rfl rfl,H1,_,_,aq,rfl,by rw [hq.2];exact .space hq.1,hs.out⟩
 ·refine .skip (nT (.seq (.ae (.y hs (zls [_,_,_,_,_,_] bC aT) (.y hs (zls [_] oU fA) ?_)))));have aJ:eZ s:=(he.resolve_right fun h=>by omega).1;have oa:=eG aJ;refine .o (.call call129 rfl (mE (s:=s) hs (h1.mono aq) (h2.mono aq) (hr.mono aq)) ?_);rintro _ w ⟨H2,X0,aQ,rfl,yZ,hs⟩;have dr:=aq.trans aQ;refine .zn ia (.cond rfl (fun jc=>?_) (fun jc=>?_))
  ·exact .ae (.z zg (.zn zg (.ret (rT ((Fin.hZ [] [] hs fun w hs=>⟨_,results2 results64 rfl rfl,H2,_,_,dr,rfl,.hull aJ (fun h=>by rw [yZ.2 h] at jc;cases jc),hs.out⟩))))))
  ·refine .skip (nT (.ae (.y hs (zls [_,_,_,_,_,_] bC aT) (.y hs (zls [_,_,_] pS jt) ?_))));have hh:lE s rows:=yZ.1 (by simpa using jc);refine .o (.call call130 rfl (l6 (s:=s) (q:=q) hs (h1.mono dr) (h2.mono dr) aJ) ?_);rintro _ w ⟨H3,vl,L,d,b,en,bJ,rfl,hO,iV,hs⟩;have eC:=dr.trans bJ;obtain ⟨al,cl,rfl⟩:=hO.p5;refine .z zm (.z zex (.z zex (.z zex (.o (.alloc hs gX rfl fun b9 w hs=>?_)))));refine .o (.store hs rfl rfl aO fun w hs=>?_);refine .z zg (.zn zg (.seq (.ae (.z zm (.zn ia (.cond rfl (fun ql=>?_) (fun ql=>?_)))))))
   ·refine .ae (.z zg (.zn zg (.ret (rT (?_)))));have hq:¬fO s q:=by
     rcases iV with ⟨g,_⟩|⟨_,g,_⟩
     ·subst g;cases ql
     ·exact g
    exact Fin.hZ [] [] hs fun w hs=>⟨_,results2 results64 rfl rfl,H3,_,_,eC,rfl,.what aJ hh hq,hs.out⟩
   ·refine .skip (nT (.ae (.o (.alloc hs dw rfl fun Fx w hs=>?_))));refine .o (.store hs rfl rfl ak fun w hs=>?_);refine .nil (.seq (.ae (.y hs (zls [_,_,_,_,_,_] bC aT) ?_)));obtain ⟨rfl,hq,rfl,rfl⟩:b=true∧fO s q∧L=nH s q∧d=q6 q:=iV.resolve_right fun h=>by rw [h.1] at ql;cases ql
    have Gl:=i6 s q;obtain ⟨H4,eo,hW,hs⟩:=cz.dT hO ai hs eJ;have gU:=eC.trans eo;refine .o (.call Yv rfl (fb (s:=s) hs (h1.mono gU) (h2.mono gU) ⟨ai,ai⟩) ?_);rintro _ w ⟨H5,ba,ek,rfl,pF,hs⟩;have wx:=gU.trans ek;replace hW:=hW.mono ek;have VW:=hr.mono wx;refine .nil (.block ?_);refine .rangeFunc (gf:=188) (cap:=[Pt ba]) (xs:=zI s) (σb:=[.blk Fx [I (fL s q rows 0)],.blk b9 [.slice al (nH s q).length cl],.blk b4 [.slice ah rows.length ch]]) (σf:=σ) (hs.sb) trivial rfl pF Yt (fun x hx=>by
      simp only [zI,List.mem_map] at hx;obtain ⟨j,_,rfl⟩:=hx;rfl) rfl
     (I:=fun p H' σb=>σb=[.blk Fx [I (fL s q rows p)],.blk b9 [.slice al (nH s q).length cl],.blk b4 [.slice ah rows.length ch]]) (Ix:=fun _ _ _=>False)
     (fun j _ _ σ g1 g2=>g2) (fun _ _ _ _ _ h=>h) rfl ?_ ?_ (fun D c H' σb w _ h _=>h.elim)
    ·rintro ly p hp H6 vX vW w iw rfl hs ⟨rr,HF⟩;have Gn:p<s.many:=by rw [dH] at hp;exact hp
     have gd:p/s.wa.length<s.st.length:=Nat.div_lt_of_lt_mul (by rw [Nat.mul_comm];exact Gn);have J5:=Nat.mod_lt p oa.2.2.1;have pc:fL s q rows (p+1)=fL s q rows p+gi (nH s q) (p+1)*gt rows (p/s.wa.length) (p%s.wa.length):=rfl;have Em:=nX aJ hq hh p ai;have CB:=nX aJ hq hh (p+1) ai;have hwz:=nL aJ hq;have hwz2:=ot (nH s q) (v:=p+1) (n:=s.many+1) ai;have HH:=hh.num _ gd _ J5;have qh:=hh.row _ gd;have Sc:=hh.len;have V0:=ni (a:=gi (nH s q) (p+1)) (b:=gt rows (p/s.wa.length) (p%s.wa.length)) (A:=3456000000000) (B:=20000) ai ai;have Wq:gt rows (p/s.wa.length) (p%s.wa.length)=gi (gr rows (p/s.wa.length)) (p%s.wa.length):=rfl;rw [np hp];generalize p/s.wa.length=i at*;generalize p%s.wa.length=k at*;rw [Wq] at pc V0 HH;refine .region (.o (.alloc hs oR rfl fun mf w hs=>?_));refine .o (.aE (vs:=[_,_,_]) hs rfl rfl Am fun w hs=>?_);refine .nil (nT ⟨H6,[.blk mf [I (i:Int),I (k:Int),I ((p+1:Nat):Int)],.blk Fx [I (fL s q rows p)],.blk b9 [.slice al (nH s q).length cl],.blk b4 [.slice ah rows.length ch]],HLe.refl _,hs,?_⟩);rintro w nr - hs;refine .block (.draw mix rfl hs fun w hs=>?_);refine .y 0 rfl hs aj ?_;refine .y 1 rfl hs an ?_;refine .z 2 rfl (zfa dY) ?_;refine .y 3 rfl hs aj ?_;refine .ixX (enc:=fun x=>[I x]) (i:=4) hs rfl az .none (hW.mono iw) rfl rfl af ak (bL (l:=(nH s q)) (i:=(p+1)) ai) dG ?_;intro US o39 od;replace od:=bN.one od;refine .r (i:=5) hs rfl az .none (aR rfl aj od) ?_;refine .zw 6 rfl (zfa eO) ?_;refine .y 7 rfl hs vU ?_;refine .z 8 rfl (zfa cW) ?_;refine .y 9 rfl hs aj ?_;refine .ixT (i:=10) hs rfl az .none (VW.mono iw) rfl rfl aF aO (show i<_ by omega) dG ?_;intro b45 o45 a45 c45 HS Xq;refine .r (i:=11) hs rfl az .none (aR rfl an HS) ?_;refine .zw 12 rfl (zfa cV) ?_;refine .y 13 rfl hs aj ?_;refine .ixX (enc:=fun x=>[I x]) (i:=14) hs rfl az .none Xq rfl rfl af ak (bL (l:=(gr rows i)) (i:=k) ai) dG ?_;intro XS o49 w9;replace w9:=bN.one w9;refine .r (i:=15) hs rfl az .none (aR rfl aj w9) ?_;refine .zw 16 rfl mV ?_;refine .z 17 rfl cD ?_;refine .E 18 hs ?_;refine .store hs rfl rfl ak ?_;intro w hs;exact .go (.D hs (nB ⟨H6,[.blk Fx [I (fL s q rows (p+1))],.blk b9 [.slice al (nH s q).length cl],.blk b4 [.slice ah rows.length ch]],HLe.refl _,by rw [pc];exact (hs.sb:St H6 w (.blk Fx _:: .blk b9 _:: .blk b4 _::nr)),rfl⟩))
    ·rintro D H6 vX w iw rfl hs;rw [dH] at hs;replace hs:St H6 w (.obj D (.deferred (some [])):: .blk Fx [I (fL s q rows s.many)]:: .blk b9 [.slice al (nH s q).length cl]:: .blk b4 [.slice ah rows.length ch]::σ):=hs;have zF:=nX aJ hq hh s.many ai;have Uw:=q5 q;refine nB (nT (.ae (.y hs (zld aj) (.z zm (.o (.call call132 rfl (fH hs ai ai) ?_))))));rintro _ w ⟨rfl,hs⟩;exact .z zg (.zn zg (.ret (Fin.hZ [D] [] hs fun w hs=>⟨_,results2 results64 rfl rfl,H6,_,_,wx.trans iw,rfl,.ok aJ hh hq,hs.out⟩)))
theorem yk{w:World}(hs:St H w σ)(hd:1≤d)(ha: -4608000000000000000≤a∧a≤4608000000000000000):
  Z4 119 [I a,I d] w fun v w'=>v=I (a/d)∧St H w' σ:=by
 have hq: -4608000000000000000≤a.tdiv d∧a.tdiv d≤4608000000000000000:=by
  have h1:=qZ (n:=a) (d:=d) ai;have h2:a/d≤4608000000000000000:=Int.ediv_le_of_le_mul ai (by
   have:=Int.mul_le_mul_of_nonneg_left hd (show (0:Int)≤4608000000000000000 by omega);omega)
  have h3: -4608000000000000000≤a/d:=Int.le_ediv_of_mul_le ai (by
   have:=Int.mul_le_mul_of_nonneg_left hd (show (0:Int)≤4608000000000000000 by omega);omega)
  by_cases h0:0≤a
  ·rw [Int.tdiv_eq_ediv_of_nonneg h0];omega
  ·split at h1
   ·have:a/d<0:=Int.ediv_neg_of_neg_of_pos ai ai;omega
   ·omega
 have Cz:=qZ (n:=a) (d:=d) ai;refine Cl.o func119 ntmps119 ag2 ?_;refine .ae (.zn zg (.ae (.z zm (.z zm (.q hs (wg rfl rfl ai ⟨ai,ai⟩) (.zn zg (.seq (.ae (.z zm (.z zm (.z FP (.zn ju (.cg rfl (fun eT=>?_) (fun eT=>?_))))))))))))))
 ·refine .region (.z zm (.z iX (.zn zg (nT (.ae (.z zm (.zn zg (.ret (Fin.bw results119 rfl ?_)))))))));rw [if_pos eT] at Cz;exact ⟨by rw [Cz],hs⟩
 ·refine .skip (nT (.ae (.z zm (.zn zg (.ret (Fin.bw results119 rfl ?_))))));rw [if_neg eT,Int.sub_zero] at Cz;exact ⟨by rw [Cz],hs⟩
theorem Bm{v:Srv}(h:cR v){q:Wht}(hq:fO v.sp q)(i:Nat): -3456000000000≤gi (v.w q) i∧gi (v.w q) i≤3456000000000:=by
 unfold Srv.w;rw [lh];by_cases hi:i<v.sp.many+1
 ·have h1:=nL h.early.1 hq;have h2:=ot (nH v.sp q) hi;omega
 ·have:gi (nH v.sp q) i=0:=by simp [gi,List.getD,List.getElem?_eq_none (show (nH v.sp q).length≤i by rw [i6];omega)]
  rw [this];omega
def xF(w:List Int)(high:Bool):List Int:=if high then w else zC w
theorem dv{w:World}{n m:Int}(hs:St H w σ)(hm:1≤m∧m≤4611686018427387904):
  Z4 90 [I n,I m] w fun u w'=>∃k:Nat,(k:Int)<m∧u=I (k:Int)∧St H w' σ:=by
 have h1:=Int.tmod_lt_of_pos n (show 0<m by omega);have h2:=Int.lt_tmod_of_pos n (show 0<m by omega);have h3:=Int.tmod_lt_of_pos (n.tmod m+m) (show 0<m by omega);have h4:=Int.tmod_nonneg m (show 0≤n.tmod m+m by omega);refine Cl.o func90 ntmps90 ag2 ?_;exact .ae (.zn zg (.ae (.z zm (.z zm (.z FP (.z zm (.z cD (.z zm (.z FP (.zn zg (.ret (Fin.bw results90 rfl ⟨((n.tmod m+m).tmod m).toNat,ai,by rw [show (((n.tmod m+m).tmod m).toNat:Int)=(n.tmod m+m).tmod m by omega],hs⟩))))))))))))
theorem di{w:World}{v:Value}{l:List Int}{i n:Int}(hs:St H w σ)(hr:RI H v l)(hi:0≤i)(hn:1≤n∧n≤4611686018427387904):
  Z4 146 [v,I i,I n] w fun u w'=>∃k:Nat,(k:Int)<n∧u=I (k:Int)∧St H w' σ:=by
 obtain ⟨a,c,rfl⟩:=RI.shape hr;refine Cl.o func146 ntmps146 ag3 ?_;refine .ae (.zn zg (.seq (.ae (.z zm (.z (de af) (.zn ik (.cg rfl (fun mW=>?_) (fun mW=>?_))))))))
 ·exact .ae (.zn zg (.ret (rT (Fin.bw results146 rfl ⟨0,ai,rfl,hs⟩))))
 ·refine .skip (nT (.ae (.z zm (.z zm (.z zm (.z (de af) (.z FP ?_)))))));have g1:=Int.tmod_lt_of_pos i (show 0<(l.length:Int) by omega);have g2:=Int.tmod_nonneg (l.length:Int) hi;refine .ixY hs hr rfl rfl af ak (bL (l:=l) (i:=(i.tmod l.length).toNat) ai) ai ?_;intro Ch o15 gM;refine .q hs (aR rfl aj gM) (.z zm (.o (.call uH rfl (dv hs hn) ?_)));rintro _ w ⟨k,hk,rfl,hs⟩;exact .zn zg (.ret (Fin.bw results146 rfl ⟨k,hk,rfl,hs⟩))
theorem yo{w:World}{v:Value}{s:cM}{kX:List Int}(hs:St H w σ)(hr:RSy H v s)(hp:RI H vp kX)(N4:s.Ok∧s.Sound):
  Z4 149 [v,vp] w fun u w'=>∃H1 vx x en,HLe H H1∧u= .tuple #[vx,I 0]∧cz 1 vx (Is x) en∧A8 s kX x∧St H1 w' (en::σ):=by
 obtain ⟨ul,rfl,hl⟩:=hr;obtain ⟨al,cl,rfl⟩:=RL.shape hl;obtain ⟨ap,cp,rfl⟩:=RI.shape hp;refine Cl.o func149 ntmps149 ag2 ?_;refine .ae (.bx hs fun b2 w hs=>?_);refine .z zg (.zn zg (.ae (.y hs (zls [_,_] cf bg) (.o (.call call147 rfl (oX (s:=s) hs ⟨_,rfl,hl⟩) ?_)))));rintro _ w ⟨H1,vt,e,aq,rfl,iV,hs⟩;refine .z zm (.z zex (.z zex (.z zg (.zn zg (.seq (.ae (.z zm (.zn ez (.dz rfl (fun tK=>?_) (fun tK=>?_))))))))))
 ·refine .ae (.z zm (.z zg (.zn zg (.ret (rT (Fin.jr results149 rfl rfl ?_))))))
  rcases iV with ⟨h1,rfl,rfl⟩|⟨h1,h2,rfl,rfl⟩|⟨_,_,rfl,_⟩
  ·exact (h1 (s.cO.2 N4.1)).elim
  ·exact (h2 N4.2).elim
  ·exact (tK rfl).elim
 ·refine .skip (nT (.ae ?_));subst tK;obtain ⟨aJ,om,rs,AS,Q6,P9⟩:s.Ok∧s.Sound∧∃rs,RT H1 vt rs∧Sq s.n rs∧mY s.n s.da (gt rs):=by
   rcases iV with ⟨h1,h2,_⟩|⟨_,_,h2,_⟩|⟨h1,h2,_,h3⟩
   ·exact (h1 h2.symm).elim
   ·omega
   ·exact ⟨h1,h2,h3⟩
  obtain ⟨at',ct,rfl⟩:=AS.shape;have MZ:=aJ.TX om P9;have Cx:=Q6.1;have E3:=aJ.m0;have IA:=aJ.m1;have Cy:(s.n:Int)=s.many+1:=by simp only [cM.n];omega
  refine .o (.buildSlice (cells:=[_]) hs cQ rfl rfl fun No w hs=>?_);refine .zn zg (.seq (.ae (.zn zg (.block ?_))));refine .loop (fun p:List Int×Value=>⟨109,[],[(9,I (p.1.length:Int)),(8,p.2),(6,.slice at' rs.length ct),(2,Pt b2),(1,.slice ap kX.length cp)]⟩)
   (fun p w=>QI (gt rs) (th kX) p.1∧p.1.length≤s.n∧∃en,cz 1 p.2 (Is p.1) en∧St H1 w (en:: .blk b2 [I s.many,.slice al s.cJ.length cl]::σ))
   (fun p=>s.n - p.1.length) ([0],.slice (some ⟨No,0,none⟩) 1 1) aW
   ⟨.start,s.BD,_,.full (len:=1) rfl,hs⟩ ?_
  rintro ⟨X,v8⟩ w ⟨hP,Zv,en,hO,hs⟩;dsimp only at hP Zv hO ⊢;have hI:=hP.inv (fun i n hn=>By kX i hn) MZ Zv;have hX0:=hI.l0;have BU:=hO;obtain ⟨b,cap,sp,rfl,rfl,yP⟩:=hO.some hX0;refine .seq (.ae (.z zm (.z (zfa bU) (.y hs (zld aj) (.zn sY (.cg rfl (fun jy=>?_) (fun jy=>?_)))))))
  ·refine .skip (nT (.seq (.block (.ae (.zn zg ?_)))));have HY:X.length<s.n:=by omega
   refine .ae (.zn zg (.seq (.ae (.z zm (.z (de af) (.zn zm (.for (N:=X.length) (J:=fun k fr w=>∃lo hi,fr=[(10,I lo),(11,I hi),(9,I (X.length:Int)),(8,.slice (some ⟨b,0,none⟩) X.length cap),(6,.slice at' rs.length ct),(2,Pt b2),(1,.slice ap kX.length cp)]∧LoI (gt rs) X X.length k lo∧HiI (gt rs) X X.length k hi∧St H1 w (.blk b (Is X++sp):: .blk b2 [I s.many,.slice al s.cJ.length cl]::σ)) ai ?_ ?_ ?_)))))))
   ·exact .mk ⟨_,_,rfl,.start _ _ _,.start _ _ _,hs⟩
   ·rintro k fr w hk ⟨lo,hi,rfl,M3,Ra,hs⟩;have Zw:=hI.bd k hk;have JX:(gr rs X.length).length=s.n:=Q6.2 _ HY;have BQ:(gr rs k).length=s.n:=Q6.2 _ ai;have CB:gi (gr rs X.length) k≠1000000000→-1400000≤gi (gr rs X.length) k∧gi (gr rs X.length) k≤1400000:=fun h=>MZ.bd X.length k HY ai h
    have zG:gi (gr rs k) X.length≠1000000000→-1400000≤gi (gr rs k) X.length∧gi (gr rs k) X.length≤1400000:=fun h=>MZ.bd k X.length ai HY h
    refine .block (.ae (.z zm (.zn zg (.cut (fun fs w=>∃lo',mT fs ⟨109,[],[(10,I lo'),(12,I (k:Int)),(31,I (k:Int)),(30,I (X.length:Int)),(11,I hi),(9,I (X.length:Int)),(8,.slice (some ⟨b,0,none⟩) X.length cap),(6,.slice at' rs.length ct),(2,Pt b2),(1,.slice ap kX.length cp)]⟩∧LoI (gt rs) X X.length (k+1) lo'∧St H1 w (.blk b (Is X++sp):: .blk b2 [I s.many,.slice al s.cJ.length cl]::σ)) ?_ ?_))))
    ·refine .ae (.z zm (.z zm (.ixT hs AS rfl rfl aF aO (show X.length<rs.length by omega) rfl ?_)));intro UT o36 a36 c36 qk Xr;refine .q hs (aR rfl an qk) (.z zm (.ixY hs Xr rfl rfl af ak (bL (l:=gr rs X.length) (i:=k) ai) rfl ?_));intro US o39 od;refine .q hs (aR rfl aj od) (.zn ez (.dz rfl (fun Dv=>?_) (fun Dv=>?_)))
     ·refine .draw mix rfl hs fun w hs=>?_
      refine .zw 0 rfl zm ?_;refine .z 1 rfl zm ?_;refine .z 2 rfl zm ?_;refine .z 3 rfl (zix af ak) ?_;refine .load (i:=4) hs rfl az .none rfl aj ?_ (hv:=gz hk sp);refine .zw 5 rfl zm ?_;refine .z 6 rfl zm ?_;refine .ixT (i:=7) hs rfl az .none AS rfl rfl aF aO (show X.length<rs.length by omega) rfl ?_;intro XS o49 a49 c49 w9 Xp;refine .r (i:=8) hs rfl az .none (aR rfl an w9) ?_;refine .zw 9 rfl zm (.ixX (enc:=fun x=>[I x]) (i:=10) hs rfl az .none Xp rfl rfl af ak (bL (l:=gr rs X.length) (i:=k) ai) rfl ?_);intro b52 o52 HR;replace HR:=bN.one HR;refine .r (i:=11) hs rfl az .none (aR rfl aj HR) ?_;refine .zw 12 rfl iX ?_;refine .z 13 rfl IJ ?_;refine .z 14 rfl zg ?_;refine .D hs ?_;exact nT ⟨_,aW,M3.put Dv (by have:=CB Dv;have:=Zw;have:=MZ.n65;show -1000000000≤gi X k - gi (gr rs X.length) k;omega),hs⟩
     ·exact .skip (nT ⟨_,aW,M3.skip Dv,hs⟩)
    ·rintro fs w ⟨lo',iR,Tj,hs⟩;refine WE.sub ?_ iR;refine .ae (.z zm (.z zm (.ixT hs AS rfl rfl aF aO (show k<rs.length by omega) rfl ?_)));intro ZW o58 a58 c58 w8 Xo;refine .q hs (aR rfl an w8) (.z zm (.ixY hs Xo rfl rfl af ak (bL (l:=gr rs k) (i:=X.length) ai) rfl ?_));intro Rg o61 yR;refine .q hs (aR rfl aj yR) (.zn ez (.dz rfl (fun rj=>?_) (fun rj=>?_)))
     ·refine .draw mix rfl hs fun w hs=>?_
      refine .zw 0 rfl zm ?_;refine .z 1 rfl zm ?_;refine .z 2 rfl zm ?_;refine .z 3 rfl (zix af ak) ?_;refine .load (i:=4) hs rfl az .none rfl aj ?_ (hv:=gz hk sp);refine .zw 5 rfl zm ?_;refine .z 6 rfl zm ?_;refine .ixT (i:=7) hs rfl az .none AS rfl rfl aF aO (show k<rs.length by omega) rfl ?_;intro ZV o71 a71 c71 SE Xn;refine .r (i:=8) hs rfl az .none (aR rfl an SE) ?_;refine .zw 9 rfl zm (.ixX (enc:=fun x=>[I x]) (i:=10) hs rfl az .none Xn rfl rfl af ak (bL (l:=gr rs k) (i:=X.length) ai) rfl ?_);intro b74 o74 HQ;replace HQ:=bN.one HQ;refine .r (i:=11) hs rfl az .none (aR rfl aj HQ) ?_;refine .zw 12 rfl cD ?_;refine .z 13 rfl G5 ?_;refine .z 14 rfl zg ?_;refine .D hs ?_;exact nB (nT (.mk ⟨lo',_,rfl,Tj,Ra.put rj (by have:=zG rj;have:=Zw;have:=MZ.n65;show gi X k+gi (gr rs k) X.length≤1000000000;omega),hs⟩))
     ·exact .skip (nB (nT (.mk ⟨lo',_,rfl,Tj,Ra.skip rj,hs⟩)))
   ·rintro fr w ⟨lo,hi,rfl,M3,Ra,hs⟩;have IB:=M3.bd hI MZ HY (Nat.le_refl _);have hhb:=Ra.bd hI MZ HY (Nat.le_refl _);have hle:=hI.le MZ HY rfl M3 Ra;simp only [free] at IB hhb hle;have Ui:=By kX ((X.length:Int) - 1) (n:=hi - lo+1);refine nT (.ae (.zn zg (.cut (fun fs w=>mT fs ⟨109,[],[(13,I (lV lo hi (th kX ((X.length:Int) - 1) (hi - lo+1)))),(9,I (X.length:Int)),(8,.slice (some ⟨b,0,none⟩) X.length cap),(6,.slice at' rs.length ct),(2,Pt b2),(1,.slice ap kX.length cp)]⟩∧St H1 w (.blk b (Is X++sp):: .blk b2 [I s.many,.slice al s.cJ.length cl]::σ)) ?_ ?_)))
    ·refine .block (.ae (.z zm (.z ez (.z zm (.Eo (t':=82) rfl (fun MV=>?_) (fun MV=>?_))))))
     ·refine .T (.z zm (.T (.z ez (.z zpT (.zn zg (.dz rfl (fun HP=>?_) (fun HP=>?_)))))))
      ·refine .region (.z zm (.z zm (.z zm (.z iX (.z zm (.z zm (.z iX (.z cD (.o (.call call209 rfl (yp hs (hp.mono aq) ai ai) ?_))))))))));rintro _ w ⟨rfl,hs⟩;have NU:hi≠1000000000:=by simpa using HP
       have YQ:=hle (by simpa using MV) NU;have hq3:=Ui ai;refine .z cD (.zn zg (nB (nT ⟨.dc rfl ?_ aW,hs⟩)));unfold lV;simp only [free] at*;split<;>(try split)<;>first|rfl|omega|(simp_all;done)|(exfalso;simp_all;omega)
      ·refine .ae (.z zm (.z ez (.zn zg (.dz rfl (fun MR=>?_) (fun MR=>?_)))))
       ·refine .region (.z zm (.zn zg (nB (nT ⟨.dc rfl ?_ aW,hs⟩))));unfold lV;simp only [free] at*;split<;>(try split)<;>first|rfl|omega|(simp_all;done)|(exfalso;simp_all;omega)
       ·refine .ae (.z zm (.z ez (.zn zg (.dz rfl (fun wz=>?_) (fun wz=>?_)))))
        ·refine .region (.z zm (.zn zg (nB (nT ⟨.dc rfl ?_ aW,hs⟩))));unfold lV;simp only [free] at*;split<;>(try split)<;>first|rfl|omega|(simp_all;done)|(exfalso;simp_all;omega)
        ·refine .skip (nB (nT ⟨.dc rfl ?_ aW,hs⟩));unfold lV;simp only [free] at*;split<;>(try split)<;>first|rfl|omega|(simp_all;done)|(exfalso;simp_all;omega)
     ·refine .Fs 2 2 true (.z zpF (.zn zg (.cF (.ae (.z zm (.z ez (.zn zg (.dz rfl (fun MR=>?_) (fun MR=>?_)))))))))
      ·refine .region (.z zm (.zn zg (nB (nT ⟨.dc rfl ?_ aW,hs⟩))));unfold lV;simp only [free] at*;split<;>(try split)<;>first|rfl|omega|(simp_all;done)|(exfalso;simp_all;omega)
      ·refine .ae (.z zm (.z ez (.zn zg (.dz rfl (fun wz=>?_) (fun wz=>?_)))))
       ·refine .region (.z zm (.zn zg (nB (nT ⟨.dc rfl ?_ aW,hs⟩))));unfold lV;simp only [free] at*;split<;>(try split)<;>first|rfl|omega|(simp_all;done)|(exfalso;simp_all;omega)
       ·refine .skip (nB (nT ⟨.dc rfl ?_ aW,hs⟩));unfold lV;simp only [free] at*;split<;>(try split)<;>first|rfl|omega|(simp_all;done)|(exfalso;simp_all;omega)
    ·rintro fs w ⟨iR,hs⟩;refine WE.sub ?_ iR;refine .region (.z zm (.z zm (.o (.buildSlice (cells:=[_]) hs cQ rfl rfl fun X6 w hs=>?_))));refine .o (.append (ys:=Is [lV lo hi (th kX ((X.length:Int) - 1) (hi - lo+1))]) hs cI rfl rfl BU (.own .here rfl rfl) (jC _) (fun l' h=>by simp at h;have:=MZ.n65;omega) ?_);intro v107 en107 w eb hs;rw [←List.map_append] at eb;exact .zn zg (nB (nT (.region (.z zm (.z cD (.zn zg (nT ⟨(X++[lV lo hi (th kX ((X.length:Int) - 1) (hi - lo+1))],v107),.dc rfl bB aW,⟨hP.snoc M3 Ra,by simp;omega,_,eb,hs.sb⟩,by simp;omega⟩)))))))
  ·exact .exit (xT (xT (xB (nT (.ae (.z zm (.z zg (.zn zg (.ret (Fin.jr results149 rfl rfl ⟨H1,_,X,_,aq,rfl,BU,⟨gt rs,P9,hP,ai⟩,hs.sb⟩))))))))))
theorem p8{w:World}(hs:St H w σ)(h1:RI H bV s.sp.st)(h2:RI H bS s.sp.wa)(h3:RRd H vr s.rs)(h4:RCm H vc s.cs)(he:s.early):
  Z4 148 [.agg #[I s.sp.id,I s.sp.src,bV,bS,I s.sp.al,I s.sp.up,vr,vc]] w fun u w'=>∃H1,HLe H H1∧RSy H1 u s.rn∧St H1 w' σ:=by
 obtain ⟨ar,cr,rfl⟩:=RRd.shape h3;have Cz:=GC s;have Cx:=he.2.1;refine Cl.o func148 ntmps148 ag1 ?_;refine .ae (.bx hs fun b1 w hs=>?_);refine .o (.alloc hs gZ rfl fun b2 w hs=>?_);refine .nil (.ae (.y hs (zls [_,_,_,_,_,_,_,_] aP aC) (.o (.call call205 rfl (uT (s:=s) hs h1 h2 h3 h4 he) ?_))));rintro _ w ⟨H1,aq,⟨ul,rfl,hL⟩,hs⟩;have hL:RL H1 ul s.cJ:=hL;obtain ⟨al,cl,rfl⟩:=RL.shape hL;have Y1:=RS.len hL;rw [List.length_map] at Y1;refine .o (.alloc hs gZ rfl fun b3 w hs=>?_);refine .o (.aE (vs:=[_,_]) hs rfl rfl bg fun w hs=>?_);refine .nil (.ae (.z (zfa bM) (.y hs (zld eL) (.z (zfa bM) (.y hs (zld eL) (.z (de aU) (.z (zfa bq) (.y hs (zld fT) (.z (de bn) (.z mV (.z iX (.q hs (tf (k:=s.qq.length) rfl rfl aU bO ai ai) ?_))))))))))));have hT:=RS.head hL (k:=s.qq.length) ai;rw [←List.map_take,DG] at hT;refine .z (zfa bM) (.o (.store hs rfl rfl sizeOf175 fun w hs=>?_));refine .nil (.ae (.y hs (zls [_,_] cf bg) (.o (.aE (vs:=[_,_]) hs rfl rfl bg fun w hs=>?_))));exact .nil (.ret (Fin.hZ [] [] hs fun w hs=>⟨_,results1 results148 (cN (vs:=[_,_]) hs rfl cf bg),H1,aq,⟨_,rfl,hT⟩,hs.out⟩))
theorem yj{w:World}(hs:St H w σ)(h1:RI H bV s.sp.st)(h2:RI H bS s.sp.wa)(h3:RRd H vr s.rs)(h4:RCm H vc s.cs)(he:s.early)(aJ:s.rn.Ok):
  Z4 91 [.agg #[I s.sp.id,I s.sp.src,bV,bS,I s.sp.al,I s.sp.up,vr,vc]] w fun u w'=>∃H1,∃b:Bool,HLe H H1∧u= .bool b∧(b=false→s.rn.Sound)∧St H1 w' σ:=by
 refine Cl.o func91 ntmps91 ag1 ?_;refine .ae (.bx hs fun b1 w hs=>?_);refine .zn zg (.ae (.y hs (zls [_,_,_,_,_,_,_,_] aP aC) (.o (.call call148 rfl (p8 (s:=s) hs h1 h2 h3 h4 he) ?_))));rintro _ w ⟨H1,aq,hS,hs⟩;refine .o (.call call147 rfl (oX (s:=s.rn) hs hS) ?_);rintro _ w ⟨H2,vt,e,aQ,rfl,iV,hs⟩;refine .z zm (.z zex (.z zex (.z zg (.zn zg (.ae (.z zm (.z ez (.zn zg (.ret (Fin.bw results91 rfl ?_))))))))));exact ⟨H2,_,aq.trans aQ,rfl,fun h=>by
  rcases iV with ⟨k1,_,_⟩|⟨_,_,k3,_⟩|⟨_,k2,_,_⟩
  ·exact (k1 (s.rn.cO.2 aJ)).elim
  ·subst k3;simp at h
  ·exact k2,hs.out⟩
theorem yi{w:World}{kX:List Int}(hs:St H w σ)(h1:RI H bV s.sp.st)(h2:RI H bS s.sp.wa)(h3:RRd H vr s.rs)(h4:RCm H vc s.cs)(hp:RI H vp kX)(he:s.early)(aJ:s.rn.Ok∧s.rn.Sound):
  Z4 92 [.agg #[I s.sp.id,I s.sp.src,bV,bS,I s.sp.al,I s.sp.up,vr,vc],vp] w fun u w'=>∃H1 x en,HLe H H1∧cz 1 u (Is x) en∧A8 s.rn kX x∧St H1 w' (en::σ):=by
 obtain ⟨ap,cp,rfl⟩:=RI.shape hp;refine Cl.o func92 ntmps92 ag2 ?_;refine .ae (.bx hs fun b2 w hs=>?_);refine .zn zg (.ae (.y hs (zls [_,_,_,_,_,_,_,_] aP aC) (.o (.call call148 rfl (p8 (s:=s) hs h1 h2 h3 h4 he) ?_))));rintro _ w ⟨H1,aq,hS,hs⟩;refine .z zm (.o (.call call149 rfl (yo (s:=s.rn) hs hS (hp.mono aq) aJ) ?_));rintro _ w ⟨H2,vx,x,en,aQ,rfl,hO,hP,hs⟩;exact .z zm (.z zex (.z zex (.z zg (.zn zg (.ae (.z zm (.zn zg (.ret (Fin.bw results92 rfl ⟨H2,x,en,aq.trans aQ,hO,hP,hs.sb⟩)))))))))
structure Grow(d D:Int)(L:List Int)(x:Int):Prop where
 low:d≤x
 high:x≤d+D*L.length
 all:∀i<L.length,d≤gi L i∧gi L i<x
 rise:∀i,i+1<L.length→gi L i<gi L (i+1)
theorem Grow.start(d D:Int):Grow d D [] d:=⟨ai,bB,fun i h=>by simp at h,fun i h=>by simp at h⟩
theorem Grow.snoc{D y:Int}(h:Grow d D L x)(h1:x<y)(h2:y≤x+D):Grow d D (L++[x]) y:=by
 obtain ⟨g1,g2,g3,g4⟩:=h;refine ⟨ai,?_,fun i hi=>?_,fun i hi=>?_⟩
 ·rw [List.length_append,List.length_singleton,Int.natCast_add,Int.mul_add];omega
 ·rw [List.length_append,List.length_singleton] at hi;rw [BX];split
  ·have:=g3 i eE;omega
  ·rw [if_pos ai];omega
 ·rw [List.length_append,List.length_singleton] at hi;rw [BX,BX,if_pos ai];split
  ·exact g4 i eE
  ·rw [if_pos ai];exact (g3 i ai).2
theorem Grow.plc{D:Int}{many:Nat}(h:Grow d D L x)(hd:0≤d)(h2:2≤L.length)(hm:L.length≤many)(hx:d+D*L.length≤most):ji many most L:=
 ⟨h2,hm,by have:=(h.all 0 ai).1;omega,by have:=(h.all (L.length - 1) ai).2;have:=h.high;omega,h.rise⟩
structure TO(s:Spc):Prop where
 ok:eZ s
 st:s.st.length≤4
 wa:s.wa.length≤3
set_option maxHeartbeats 1000000 in
theorem sm{w:World}{v:Value}{l:List Int}(hs:St H w σ)(hr:RI H v l):
  Z4 89 [v] w fun u w'=>∃s bV bS e1 e2,u= .agg #[I s.id,I s.src,bV,bS,I s.al,I s.up]∧TO s∧cz 1 bV (Is s.st) e1∧cz 1 bS (Is s.wa) e2∧St H w' (e1::e2::σ):=by
 obtain ⟨av,cv,rfl⟩:=RI.shape hr;refine Cl.o func89 ntmps89 ag1 ?_;refine .ae (.o (.alloc hs rD rfl fun b2 w hs=>?_));refine .nil (.ae (.z zm (.o (.call oV rfl (di hs hr ai ai) ?_))));rintro _ w ⟨Vq,g11,rfl,hs⟩;refine .z cD (.z zm (.o (.call oV rfl (di hs hr ai ai) ?_)));rintro _ w ⟨Vn,g14,rfl,hs⟩;refine .z cD (.z (zbd [_,_,_,_,_,_] uf) (.o (.alloc hs rD rfl fun b3 w hs=>?_)));refine .o (.aE (vs:=[_,_,_,_,_,_]) hs rfl rfl aT fun w hs=>?_);refine .nil (.ae (.z zm (.o (.call oV rfl (di hs hr ai ai) ?_))));rintro _ w ⟨T5,g18,rfl,hs⟩;refine .z cD (.z mV (.zn zg (.ae (.zn zg (.seq (.ae (.zn zg (.block ?_))))))));refine .loop (fun p:List Int×Int×Value=>⟨90,[],[(6,I (p.1.length:Int)),(5,I p.2.1),(4,I (100*(1+(T5:Int)))),(0,.slice av l.length cv),(3,Pt b3),(2,Pt b2)]⟩)
  (fun p w=>p.1.length≤4∧Grow 0 2707 p.1 p.2.1∧∃en,cz 1 p.2.2 (Is p.1) en∧St H w (en:: .blk b3 [I (1+(Vq:Int)),I (1+(Vn:Int)),p.2.2,.slice none 0 0,I 0,I 0]:: .blk b2 [I 0,I 0,.slice none 0 0,.slice none 0 0,I 0,I 0]::σ)) (fun p=>4 - p.1.length) ([],0,.slice none 0 0) aW
  ⟨bB,.start _ _,_,.nil 1 none,hs.nul⟩ ?_
 clear hs;rintro ⟨L,x,vo⟩ w ⟨ZK,hG,en,hO,hs⟩;dsimp only at ZK hG hO hs ⊢;obtain ⟨ao,lo,co,rfl,-⟩:=hO.shape;have Cv:=hG.low;have Ej:=hG.high;refine .seq (.ae (.z zm (.z zm (.o (.call oV rfl (di hs hr ai ai) ?_)))));rintro _ w ⟨k23,g23,rfl,hs⟩;refine .z cD (.zn ju (.cg rfl (fun jT=>?_) (fun jT=>?_)))
 ·refine .skip (nT (.seq (.block (.ae (.z (zfa bE) (.y hs (zld an) (.z zm (.o (.buildSlice (cells:=[_]) hs cQ rfl rfl fun Lt w hs=>?_)))))))));refine .o (.append (ys:=Is [x]) hs cI rfl rfl hO (.own .here rfl rfl) (jC _) (fun l' h=>by simp at h;omega) ?_);intro v32 en32 w eb hs;rw [←List.map_append] at eb;obtain ⟨a32,l32,c32,rfl,-⟩:=eb.shape;refine .z (zfa bE) (.o (.store hs rfl rfl aO fun w hs=>?_));refine .nil (.region (.z zm (.z zm (.z zm (.z zm (.z cD (.o (.call oV rfl (di hs hr ai ai) ?_))))))));rintro _ w ⟨Vm,g39,rfl,hs⟩;have m41:=ni (a:=100*(1+(T5:Int))) (b:=1+(Vm:Int)) (A:=900) (B:=3) ai ai;have m41':100≤100*(1+(T5:Int))*(1+(Vm:Int)):=by
   have:=Int.mul_le_mul (a:=100) (c:=100*(1+(T5:Int))) (b:=1) (d:=1+(Vm:Int)) ai ai ai ai;omega
  refine .z cD (.z mV (.z cD (.z zm (.o (.call oV rfl (di hs hr ai ai) ?_)))));rintro _ w ⟨NN,g44,rfl,hs⟩;refine .z zm (.z zm (.z cD (.o (.call oV rfl (di hs hr ai ai) ?_))));rintro _ w ⟨NM,g48,rfl,hs⟩;have m49:0≤(NN:Int)*(NM:Int)∧(NN:Int)*(NM:Int)≤1:=by
   have e1:NN=0∨NN=1:=by omega
   rcases e1 with rfl|rfl<;>simp<;>omega
  exact .z mV (.z mV (.z cD (.zn zg (nB (nT (.region (.z zm (.z cD (.zn zg (nT ⟨(L++[x],_,.slice a32 l32 c32),.dc rfl bB aW,⟨by simp;omega,hG.snoc (by dsimp only;omega) (by dsimp only;omega),_,eb,hs.sb⟩,by simp;omega⟩))))))))))
 ·refine .exit (xT (xT (xB (nT (.ae (.z zm ?_))))));have Ls:2≤L.length:=by omega
  refine .o (.call oV rfl (di hs hr ai ai) ?_);rintro _ w ⟨T4,g53,rfl,hs⟩;refine .z cD (.z mV (.zn zg (.ae (.z zm (.o (.call oV rfl (di hs hr ai ai) ?_))))));rintro _ w ⟨YG,g57,rfl,hs⟩;refine .z mV (.zn zg (.seq (.ae (.zn zg (.block ?_)))));refine .loop (fun p:List Int×Int×Value=>⟨90,[],[(9,I (p.1.length:Int)),(8,I p.2.1),(7,I (50*(1+(T4:Int)))),(0,.slice av l.length cv),(3,Pt b3),(2,Pt b2)]⟩)
   (fun p w=>p.1.length≤3∧Grow (10*(YG:Int)) 1350 p.1 p.2.1∧∃en2,cz 1 p.2.2 (Is p.1) en2∧St H w (en2:: .blk b3 [I (1+(Vq:Int)),I (1+(Vn:Int)),.slice ao lo co,p.2.2,I 0,I 0]:: .blk b2 [I 0,I 0,.slice none 0 0,.slice none 0 0,I 0,I 0]::en::σ)) (fun p=>3 - p.1.length) ([],10*(YG:Int),.slice none 0 0) aW
   ⟨bB,.start _ _,_,.nil 1 none,(hs.sb).nul⟩ ?_
  clear hs;rintro ⟨L2,y,vo2⟩ w ⟨ZH,Tm,en2,eb,hs⟩;dsimp only at ZH Tm eb hs ⊢;obtain ⟨ap,lp,cp,rfl,-⟩:=eb.shape;have hy0:=Tm.low;have Vt:=Tm.high;refine .seq (.ae (.z zm (.z zm (.o (.call oV rfl (di hs hr ai ai) ?_)))));rintro _ w ⟨k61,g61,rfl,hs⟩;refine .z cD (.zn ju (.cg rfl (fun rj=>?_) (fun rj=>?_)))
  ·refine .skip (nT (.seq (.block (.ae (.z (zfa aZ) (.y hs (zld an) (.z zm (.o (.buildSlice (cells:=[_]) hs cQ rfl rfl fun b69 w hs=>?_)))))))));refine .o (.append (ys:=Is [y]) hs cI rfl rfl eb (.own .here rfl rfl) (jC _) (fun l' h=>by simp at h;omega) ?_);intro v70 en70 w kD hs;rw [←List.map_append] at kD;obtain ⟨a70,l70,c70,rfl,-⟩:=kD.shape;refine .z (zfa aZ) (.o (.store hs rfl rfl aO fun w hs=>?_));refine .nil (.region (.z zm (.z zm (.z zm (.z zm (.z cD (.o (.call oV rfl (di hs hr ai ai) ?_))))))));rintro _ w ⟨Vl,g77,rfl,hs⟩;have m79:=ni (a:=50*(1+(T4:Int))) (b:=1+(Vl:Int)) (A:=450) (B:=3) ai ai;have m79':50≤50*(1+(T4:Int))*(1+(Vl:Int)):=by
    have:=Int.mul_le_mul (a:=50) (c:=50*(1+(T4:Int))) (b:=1) (d:=1+(Vl:Int)) ai ai ai ai;omega
   exact .z cD (.z mV (.z cD (.zn zg (nB (nT (.region (.z zm (.z cD (.zn zg (nT ⟨(L2++[y],_,.slice a70 l70 c70),.dc rfl bB aW,⟨by simp;omega,Tm.snoc (by dsimp only;omega) (by dsimp only;omega),_,kD,hs.sb⟩,by simp;omega⟩))))))))))
  ·refine .exit (xT (xT (xB (nT (.ae (.z zm (.o (.call oV rfl (di hs hr ai ai) ?_))))))));rintro _ w ⟨k83,g83,rfl,hs⟩;refine .z mV (.z zm (.o (.call oV rfl (di hs hr ai ai) ?_)));rintro _ w ⟨k86,g86,rfl,hs⟩;refine .z mV (.z (zbd [_,_] wF) (.z (zfa gE) (.o (.aE (vs:=[_,_]) hs rfl rfl sizeOf46 fun w hs=>?_))));refine .nil (.ae (.y hs (zls [_,_,_,_,_,_] bC aT) (.o (.aE (vs:=[_,_,_,_,_,_]) hs rfl rfl aT fun w hs=>?_))));refine .nil (.ret ?_);exact Fin.hZ [] [] hs fun w hs=>⟨_,results1 results89 (cN (vs:=[_,_,_,_,_,_]) hs rfl bC aT),⟨1+(Vq:Int),1+(Vn:Int),L,L2,100*(k83:Int),100*(k86:Int)⟩,.slice ao lo co,.slice ap lp cp,en,en2,rfl,
    ⟨⟨hG.plc ai Ls ai ai,Tm.plc ai ai ai ai,by dsimp only;omega,by dsimp only;omega,by dsimp only;omega,by dsimp only;omega⟩,ZK,ZH⟩,hO,eb,hs.sb⟩
instance (s:Spc) (r:Rdg):Decidable (lZ s r):=
 decidable_of_iff ((1≤r.src∧r.src≤99999)∧(0≤r.st∧r.st≤(s.st.length:Int) - 1)∧(0≤r.wa∧r.wa≤(s.wa.length:Int) - 1)∧(0≤r.tol∧r.tol≤1000)∧(0≤r.val∧r.val≤20000 - r.tol)∧(1≤r.tape∧r.tape≤99)∧(0≤r.day∧r.day≤100000))
  ⟨fun ⟨a,b,c,d,e,f,g⟩=>⟨a,b,c,d,e,f,g⟩,fun ⟨a,b,c,d,e,f,g⟩=>⟨a,b,c,d,e,f,g⟩⟩
def jx(s:Spc)(rs:List Rdg):List Rdg:=rs.filter fun r=>decide (lZ s r)
theorem HC(s:Spc){rs:List Rdg}{k:Nat}{r:Rdg}(h:rs[k]? =some r):jx s (rs.take (k+1))=if lZ s r then jx s (rs.take k)++[r] else jx s (rs.take k):=by
 unfold jx;rw [dA h,List.filter_append];by_cases e:lZ s r
 ·simp [e]
 ·simp [e]
theorem yG(s:Spc)(rs:List Rdg):(jx s rs).length≤rs.length:=List.length_filter_le _ _
theorem Dh{s:Spc}{rs:List Rdg}{r:Rdg}(h:r∈jx s rs):r∈rs∧lZ s r:=by
 unfold jx at h;simpa using List.mem_filter.1 h
theorem ME{s:Spc}{rs:List Rdg}(h:t∈aS (jx s rs)):t∈aS rs:=by
 obtain ⟨r,h1,h2⟩:=ir.1 h;exact ir.2 ⟨r,(Dh h1).1,h2⟩
def pI(v:Srv)(x:List Int)(t:TD):Int:=gi x (v.sp.many+1+(lH v.cC t).toNat)
def RX(v:Srv)(x:List Int):List Int:=x.take (v.sp.many+1)++(aS (jx v.sp v.rs)).map (pI v x)
set_option maxHeartbeats 1000000 in
theorem yg{w:World}{rs:List Rdg}(hs:St H w σ)(hr:RRd H vr rs)(hl:rs.length≤1000000):
  Z4 96 [vr] w fun u w'=>∃en,cz 2 u (tdc (aS rs)).flatten en∧St H w' (en::σ):=by
 obtain ⟨ar,cr,rfl⟩:=RRd.shape hr;refine Cl.o func96 ntmps96 ag1 ?_;refine .ae (.zn zg (.ae (.zn zg (.seq (.ae (.zn zg (.block ?_)))))));refine .loop (fun p:Nat×Value=>⟨32,[],[(4,I (p.1:Int)),(3,p.2),(0,.slice ar rs.length cr)]⟩)
  (fun p w=>p.1≤rs.length∧∃en,cz 2 p.2 (tdc (aS (rs.take p.1))).flatten en∧St H w (en::σ)) (fun p=>rs.length - p.1) (0,.slice none 0 0) aW
  ⟨Nat.zero_le _,_,.nil 2 none,hs.nul⟩ ?_
 rintro ⟨k,vo⟩ w ⟨hk,en,hO,hs⟩;dsimp only at hk hO ⊢;have Cw:=my rs k ai;obtain ⟨ao,co,rfl⟩:=hO.iG (rZ _) ai;rw [eM] at hO ⊢;refine .seq (.ae (.z zm (.z zm (.z (de bn) (.zn ju (.cg rfl (fun mW=>?_) (fun mW=>?_)))))))
 ·refine .skip (nT (.seq (.block (.seq (.draw mix rfl hs fun w hs=>?_)))));refine .zw 0 rfl zm ?_;refine .z 1 rfl zm ?_;obtain ⟨r,hx⟩:=nth (l:=rs) (k:=k) ai;have NS:=kW hx;refine .ixX (enc:=Rdg.c) (i:=2) hs rfl az .none hr rfl rfl bn bD hx dG ?_;intro ka o14 js;have d14:cellAt H ka (o14+5)=some (I r.tape):=js 5 _ rfl;refine .zw 3 rfl (zfa fh) ?_;refine .y 4 rfl hs aj ?_;refine .z 5 rfl zm ?_;refine .z 6 rfl zm ?_;refine .ixX (enc:=Rdg.c) (i:=7) hs rfl az .none hr rfl rfl bn bD hx dG ?_;intro Ak o19 oG;have d19:cellAt H Ak (o19+6)=some (I r.day):=oG 6 _ rfl;refine .zw 8 rfl (zfa fg) ?_;refine .y 9 rfl hs aj ?_;refine .z 10 rfl (zbd [_,_] jh) ?_;refine .E 11 hs ?_;refine .alloc hs uE rfl ?_;intro b5 w hs;refine .go (.E 12 hs ?_);refine .aE (vs:=[_,_]) hs rfl rfl cZ ?_;intro w hs;refine .go (.D hs (.ae (.z zm (.y hs (zls [_,_] jo cZ) (.o (.call call95 rfl (p6 (t:=r.td) (hs.sb:St H w (en:: .blk b5 [I r.tape,I r.day]::σ)) hO ai) ?_))))));rintro _ w ⟨rfl,hs⟩;have Cy:=vY (l:=aS (rs.take k)) (t:=r.td);refine .zn ju (.cg rfl (fun jy=>?_) (fun jy=>?_))
  ·refine .region (.z zm (.y hs (zls [_,_] jo cZ) (.o (.buildSlice (cells:=[_,_]) hs jA rfl rfl fun XV w hs=>?_))));refine .o (.append (ys:=r.td.c) hs eW rfl rfl hO (.own .here rfl rfl) (by simp [TD.c,Value.oneCell']) (fun l h=>by rw [bX _ (rZ _),eM] at h;omega) ?_);intro v30 en30 w eb hs;refine .zn zg (nB (nT (.region (.z zm (.z cD (.zn zg (nT ?_)))))));have hn:r.td∉aS (rs.take k):=fun hm=>by have:=Cy.2 hm;omega
   rw [←Bj,show aS (rs.take k)++[r.td]=aS (rs.take (k+1)) by rw [NS];unfold uo;rw [if_neg hn]] at eb;exact ⟨(k+1,v30),.dc rfl bB aW,⟨by dsimp only;omega,_,eb,hs.sb⟩,by dsimp only;omega⟩
  ·refine .skip (nB (nT (.region (.z zm (.z cD (.zn zg (nT ?_)))))));have hm:r.td∈aS (rs.take k):=Cy.1 ai;exact ⟨(k+1,_),.dc rfl bB aW,⟨by dsimp only;omega,en,by dsimp only;rw [NS];unfold uo;rw [if_pos hm];exact hO,hs.sb⟩,by dsimp only;omega⟩
 ·refine .exit (xT (xT (xB (nT (.ae (.z zm (.zn zg (.ret (Fin.bw results96 rfl ?_)))))))));obtain rfl:k=rs.length:=by omega
  rw [List.take_length] at hO;exact ⟨en,by rw [List.take_length];exact hO,hs⟩
set_option maxHeartbeats 2000000 in
theorem te{w:World}{x:List Int}(hs:St H w σ)(h1:RI H bV s.sp.st)(h2:RI H bS s.sp.wa)(h3:RRd H vr s.rs)(hc:∃a l c,vc= .slice a l c)(hx:RI H vx x)(wi:x.length=s.sys.n)(hb:s.sp.st.length≤1000∧s.sp.wa.length≤1000∧s.rs.length≤1000):
  Z4 97 [.agg #[I s.sp.id,I s.sp.src,bV,bS,I s.sp.al,I s.sp.up,vr,vc],vx] w fun u w'=>∃H1 vr' vy e1 e2,HLe H H1∧u= .tuple #[.agg #[I s.sp.id,I s.sp.src,bV,bS,I s.sp.al,I s.sp.up,vr',vc],vy]∧cz 7 vr' (rdc (jx s.sp s.rs)).flatten e1∧cz 1 vy (Is (RX s x)) e2∧St H1 w' (e1::e2::σ):=by
 obtain ⟨gQ,gO,rfl⟩:=RI.shape h1;obtain ⟨gy,gw,rfl⟩:=RI.shape h2;obtain ⟨ar,cr,rfl⟩:=RRd.shape h3;obtain ⟨ac,lc,cc,rfl⟩:=hc;obtain ⟨ax,cx,rfl⟩:=RI.shape hx;have hm:s.sp.many≤1000000:=Nat.mul_le_mul hb.1 hb.2.1;have hn:=xY s;have Cw:=dD s.rs;refine Cl.o func97 ntmps97 ag2 ?_;refine .ae (.bx hs fun b2 w hs=>?_);refine .o (.alloc hs eg rfl fun b4 w hs=>?_);refine .zn zg (.ae (.z (zfa bq) (.y hs (zld fT) (.o (.call call96 rfl (jH (rs:=s.rs) hs h3 ai) ?_)))));rintro v15 w ⟨H1,aq,hT,hs⟩;obtain ⟨at',ct,rfl⟩:=RTd.shape hT;refine .zn zg (.ae (.z (zfa aK) (.y hs (zls [_,_,_,_,_,_] bC aT) (.o (.call call94 rfl (iT (s:=s.sp) hs (h1.mono aq) (h2.mono aq) ⟨hb.1,hb.2.1⟩) ?_)))));rintro _ w ⟨rfl,hs⟩;refine .zn zg (.ae (.y hs (zls [_,_,_,_,_,_,_,_] aP aC) (.o (.alloc hs eg rfl fun b8 w hs=>?_))));refine .o (.aE (vs:=[_,_,_,_,_,_,_,_]) hs rfl rfl aC fun w hs=>?_);refine .nil (.ae (.z (zfa bq) (.o (.store hs rfl rfl sizeOf49 fun w hs=>?_))));refine .nil (.seq (.ae (.zn zg (.block ?_))));refine .loop (fun p:Nat×Value=>⟨78,[],[(9,I (p.1:Int)),(8,Pt b8),(7,I (s.sp.many:Int)),(6,.slice at' (aS s.rs).length ct),(4,Pt b4),(2,Pt b2),(1,.slice ax x.length cx)]⟩)
  (fun p w=>p.1≤s.rs.length∧∃en,cz 7 p.2 (rdc (jx s.sp (s.rs.take p.1))).flatten en∧St H1 w (en:: .blk b8 [I s.sp.id,I s.sp.src,.slice gQ s.sp.st.length gO,.slice gy s.sp.wa.length gw,I s.sp.al,I s.sp.up,p.2,.slice ac lc cc]:: .blk b4 [I 0,I 0,.slice none 0 0,.slice none 0 0,I 0,I 0,.slice none 0 0,.slice none 0 0]:: .blk b2 [I s.sp.id,I s.sp.src,.slice gQ s.sp.st.length gO,.slice gy s.sp.wa.length gw,I s.sp.al,I s.sp.up,.slice ar s.rs.length cr,.slice ac lc cc]::σ)) (fun p=>s.rs.length - p.1) (0,.slice none 0 0) aW
  ⟨Nat.zero_le _,_,.nil 7 none,hs.nul⟩ ?_
 clear hs;rintro ⟨k,vo⟩ w ⟨hk,en,hO,hs⟩;dsimp only at hk hO hs ⊢;have sV:=yG s.sp (s.rs.take k);rw [List.length_take] at sV;obtain ⟨ao,lo,co,rfl,-⟩:=hO.shape;refine .seq (.ae (.z zm (.z (zfa bq) (.y hs (zld fT) (.z (de bn) (.zn ju (.cg rfl (fun jT=>?_) (fun jT=>?_))))))))
 ·refine .skip (nT (.seq (.block (.seq (.draw mix rfl hs fun w hs=>?_)))));refine .zw 0 rfl (zfa aK) ?_;refine .ys 1 rfl hs [_,_,_,_,_,_] bC aT ?_;refine .z 2 rfl (zfa bq) ?_;refine .y 3 rfl hs fT ?_;refine .z 4 rfl zm ?_;obtain ⟨r,hr⟩:=nth (l:=s.rs) (k:=k) ai;have Ud:=HC s.sp hr;refine .ixX (enc:=Rdg.c) (i:=5) hs rfl az .none (h3.mono aq) rfl rfl bn bD hr dG ?_;intro XU o33 rl;refine .r (i:=6) hs rfl az .none (bH (vs:=r.c) rfl kF bD rl) ?_;refine .E 7 hs ?_;refine .call call150 rfl (ou (s:=s.sp) (r:=r) hs (h1.mono aq) (h2.mono aq)) ?_;rintro _ w ⟨UU,rfl,E7,hs⟩;refine .go (.D hs (.cond rfl (fun yU=>?_) (fun yU=>?_)))
  ·refine .draw mix rfl hs fun w hs=>?_
   refine .zw 0 rfl (zfa bq) ?_;refine .y 1 rfl hs fT ?_;refine .z 2 rfl (zfa bq) ?_;refine .y 3 rfl hs fT ?_;refine .z 4 rfl zm ?_;refine .ixX (enc:=Rdg.c) (i:=5) hs rfl az .none (h3.mono aq) rfl rfl bn bD hr dG ?_;intro TB o41 Dv;refine .r (i:=6) hs rfl az .none (bH (vs:=r.c) rfl kF bD Dv) ?_;refine .E 7 hs ?_;refine .buildSlice (cells:=r.c) hs jB rfl az ?_;intro Z1 w hs;refine .go (.E 8 hs ?_);refine .append (ys:=r.c) hs dL rfl rfl hO (.own .here rfl rfl) (by simp [Rdg.c,Value.oneCell']) (fun l' h=>by rw [bX _ (pC _),eN] at h;omega) ?_;intro v44 en44 w eb hs;rw [←Bs,show jx s.sp (s.rs.take k)++[r]=jx s.sp (s.rs.take (k+1)) by rw [Ud,if_pos (E7.1 (by simpa using yU))]] at eb;obtain ⟨a44,l44,c44,rfl,-⟩:=eb.shape;refine .go (.zw 9 rfl (zfa bq) (.E 10 hs ?_));refine .store hs rfl rfl sizeOf49 ?_;intro w hs;exact .go (.D hs (nB (nT (.region (.z zm (.z cD (.zn zg (nT ⟨(k+1,.slice a44 l44 c44),.dc rfl bB aW,⟨by dsimp only;omega,_,eb,hs.sb⟩,by dsimp only;omega⟩))))))))
  ·exact .skip (nB (nT (.region (.z zm (.z cD (.zn zg (nT ⟨(k+1,.slice ao lo co),.dc rfl bB aW,⟨by dsimp only;omega,en,by dsimp only;rw [Ud,if_neg (fun h=>by rw [E7.2 h] at yU;cases yU)];exact hO,hs.sb⟩,by dsimp only;omega⟩)))))))
 ·refine .exit (xT (xT (xB (nT (.ae ?_)))));obtain rfl:k=s.rs.length:=by omega
  rw [List.take_length] at hO;refine .o (.buildSlice (cells:=[]) hs wE rfl rfl fun Z0 w hs=>?_);refine .z zm (.z zm (.z cD (.q hs (tf (k:=s.sp.many+1) rfl rfl af ak rfl (by have:=(RS.len hx).2.1;omega)) ?_)));refine .o (.append (xs:=[]) (ys:=Is (x.take (s.sp.many+1))) hs cI rfl rfl (.full (len:=0) rfl) (.ints (RI.head (hx.mono aq) (k:=s.sp.many+1) ai)) (jC _) (fun l h=>by simp at h;rw [List.length_take];omega) ?_);intro v51 en51 w kD hs;rw [List.nil_append] at kD;refine .zn zg (.ae (.z (zfa bq) (.y hs (zld fT) ?_)));have sV:=yG s.sp s.rs;obtain ⟨H2,aQ,hRR,Ek,back⟩:=hO.EU (pC _) ai (by rw [eN];omega) (hs.sb:St H1 w (en::en51:: .blk b8 [I s.sp.id,I s.sp.src,.slice gQ s.sp.st.length gO,.slice gy s.sp.wa.length gw,I s.sp.al,I s.sp.up,.slice ao lo co,.slice ac lc cc]:: .blk b4 [I 0,I 0,.slice none 0 0,.slice none 0 0,I 0,I 0,.slice none 0 0,.slice none 0 0]:: .blk b2 [I s.sp.id,I s.sp.src,.slice gQ s.sp.st.length gO,.slice gy s.sp.wa.length gw,I s.sp.al,I s.sp.up,.slice ar s.rs.length cr,.slice ac lc cc]::σ));refine .o (.call call96 rfl (yg (rs:=jx s.sp s.rs) Ek hRR ai) ?_);rintro v54 w ⟨enT,hOT,hsT⟩;have hs:=back (HLe.refl _) hsT;have VC:=dD (jx s.sp s.rs);obtain ⟨H3,bJ,UE,hs⟩:=cz.bZ (m:=2) (cs:=tdc (aS (jx s.sp s.rs))) hOT (rZ _) ai (by rw [eM];omega) hs (.there .here);have UE:RTd H3 v54 (aS (jx s.sp s.rs)):=UE;obtain ⟨a54,c54,rfl⟩:=RTd.shape UE;refine .zn zg (.seq (.ae (.zn zg (.block ?_))));refine .loop (fun p:Nat×Value=>⟨78,[],[(12,I (p.1:Int)),(10,p.2),(11,.slice a54 (aS (jx s.sp s.rs)).length c54),(8,Pt b8),(7,I (s.sp.many:Int)),(6,.slice at' (aS s.rs).length ct),(4,Pt b4),(1,.slice ax x.length cx)]⟩)
   (fun p w=>p.1≤(aS (jx s.sp s.rs)).length∧∃en2,cz 1 p.2 (Is (x.take (s.sp.many+1)++((aS (jx s.sp s.rs)).take p.1).map (pI s x))) en2∧St H3 w (en2:: .blk b8 [I s.sp.id,I s.sp.src,.slice gQ s.sp.st.length gO,.slice gy s.sp.wa.length gw,I s.sp.al,I s.sp.up,.slice ao lo co,.slice ac lc cc]:: .blk b4 [I 0,I 0,.slice none 0 0,.slice none 0 0,I 0,I 0,.slice none 0 0,.slice none 0 0]::en::σ)) (fun p=>(aS (jx s.sp s.rs)).length - p.1) (0,v51) aW
   ⟨Nat.zero_le _,en51,by simpa using kD,hs.sb⟩ ?_
  clear hs;rintro ⟨j,vy⟩ w ⟨hj,en2,tN,hs⟩;dsimp only at hj tN hs ⊢;obtain ⟨ay,ly,cy,rfl,-⟩:=tN.shape;refine .seq (.ae (.z zm (.z zm (.z (de bR) (.zn ju (.cg rfl (fun w8=>?_) (fun w8=>?_)))))))
  ·refine .skip (nT (.seq (.block (.region (.z zm (.z zm (.z zm (.z cD (.z zm (.z zm (.z zm ?_)))))))))));obtain ⟨t,ht⟩:=nth (l:=aS (jx s.sp s.rs)) (k:=j) ai;have htm:t∈s.cC:=ME (List.mem_of_getElem? ht);obtain ⟨q,q1,q2,q3⟩:=i7 htm;have q3':q<(aS s.rs).length:=q3;have q1':lH (aS s.rs) t=(q:Int):=q1;have hnt:s.sys.n=s.sp.many+(aS s.rs).length+1:=hn;have Wv:pI s x t=gi x (s.sp.many+1+q):=by unfold pI;rw [q1,Int.toNat_natCast]
   refine .ixX (enc:=TD.c) hs UE rfl rfl bR cZ ht dG ?_;intro b68 o68 WR;refine .q hs (bH (vs:=t.c) rfl jo cZ WR) (.o (.call call95 rfl (lI (t:=t) hs (hT.mono bJ) ai) ?_));rintro _ w ⟨rfl,hs⟩;rw [q1'];refine .z cD (.ixY hs (hx.mono (aq.trans bJ)) rfl rfl af ak (bL (l:=x) (i:=s.sp.many+1+q) ai) ai ?_);intro b72 o72 WQ;refine .q hs (aR rfl aj WQ) (.o (.buildSlice (cells:=[_]) hs cQ rfl rfl fun b74 w hs=>?_));refine .o (.append (ys:=Is [gi x (s.sp.many+1+q)]) hs cI rfl rfl tN (.own .here rfl rfl) (jC _) (fun l' h=>by simp at h;omega) ?_);intro v75 en75 w Ku hs;rw [←List.map_append,List.append_assoc,←Wv,show ((aS (jx s.sp s.rs)).take j).map (pI s x)++[pI s x t]=((aS (jx s.sp s.rs)).take (j+1)).map (pI s x) by rw [dA ht];simp] at Ku;obtain ⟨a75,l75,c75,rfl,-⟩:=Ku.shape;exact .zn zg (nB (nT (.region (.z zm (.z cD (.zn zg (nT ⟨(j+1,.slice a75 l75 c75),.dc rfl bB aW,⟨by dsimp only;omega,_,Ku,hs.sb⟩,by dsimp only;omega⟩)))))))
  ·refine .exit (xT (xT (xB (nT (.ae (.y hs (zls [_,_,_,_,_,_,_,_] aP aC) (.z zm (.o (.aE (vs:=[_,_,_,_,_,_,_,_]) hs rfl rfl aC fun w hs=>?_)))))))));refine .zn zg (.ret ?_);obtain rfl:j=(aS (jx s.sp s.rs)).length:=by omega
   rw [List.take_length] at tN;exact Fin.hZ [] [] hs fun w hs=>⟨_,results2 results97 (cN (vs:=[_,_,_,_,_,_,_,_]) hs rfl aP aC) rfl,H3,_,_,en,en2,aq.trans bJ,rfl,hO,tN,hs.sb⟩
theorem HB{s:Spc}{rs R:List Rdg}{cs:List Cmp}{x:List Int}(hf:iP (Srv.rn ⟨s,rs,cs⟩).da (gi x))(Cv:gi x 0=0)(wi:x.length=s.many+(aS rs).length+1)(ht:aS R=aS rs)(hS:∀r∈R,RdS s r)(hR:∀r∈R,Lb s (aS rs) x r):
  mb ⟨s,jx s R,cs⟩ (RX ⟨s,R,cs⟩ x):=by
 have hl:(x.take (s.many+1)).length=s.many+1:=by rw [List.length_take];omega
 refine JB (R:=R) (x:=x) List.filter_sublist hS Cv (KA hf ht hR) ?_ (fun b hb=>?_) fun j hj=>?_
 ·show (x.take (s.many+1)++(aS (jx s R)).map (pI ⟨s,R,cs⟩ x)).length=_;rw [List.length_append,hl,List.length_map]
 ·show gi (x.take (s.many+1)++(aS (jx s R)).map (pI ⟨s,R,cs⟩ x)) b=_;unfold gi;simp only [List.getD];rw [List.getElem?_append_left ai,List.getElem?_take_of_lt ai]
 ·show gi (x.take (s.many+1)++(aS (jx s R)).map (pI ⟨s,R,cs⟩ x)) (s.many+1+j)=_;have e:∀t,(aS (jx s R))[j]? =some t→gi (x.take (s.many+1)++(aS (jx s R)).map (pI ⟨s,R,cs⟩ x)) (s.many+1+j)=pI ⟨s,R,cs⟩ x t:=fun t ht=>by
   unfold gi;simp only [List.getD];rw [List.getElem?_append_right ai,hl,show s.many+1+j - (s.many+1)=j by omega,List.getElem?_map,ht];rfl
  rw [e _ (Ey hj)];rfl
set_option maxHeartbeats 2000000 in
theorem zS{w:World}{sl pk:List Int}{Ib:List F5}{Kz:List F4}{z1 z2 z3:Int}(hs:St H w σ)(g1:RI H vs sl)(g2:RF5 H v5 Ib)(g3:RF4 H v4 Kz)(g4:RI H vp pk):
  Z4 31 [.agg #[vs,v5,v4,vp,I z1,I z2,I z3]] w fun u w'=>∃H1 s y bV bS vr vc vy e1 e2 e3 e4 e5,HLe H H1∧u= .tuple #[.agg #[I s.sp.id,I s.sp.src,bV,bS,I s.sp.al,I s.sp.up,vr,vc],vy]∧Nr s∧Nq s bV bS vr vc e1 e2 e3 e4∧cz 1 vy (Is y) e5∧mb s y∧St H1 w' (e1::e2::e3::e4::e5::σ):=by
 obtain ⟨avs,cvs,rfl⟩:=RI.shape g1;obtain ⟨av5,cv5,rfl⟩:=g2.shape;obtain ⟨av4,cv4,rfl⟩:=g3.shape;obtain ⟨avp,cvp,rfl⟩:=RI.shape g4;refine Cl.o func31 ntmps31 ag1 ?_;refine .ae (.bx hs fun b1 w hs=>?_);refine .o (.alloc hs eg rfl fun b2 w hs=>?_);refine .zn zg (.ae (.z (zfa qx) (.y hs (zld an) (.o (.call call89 rfl (sm hs g1) ?_)))));rintro _ w ⟨s,bV,bS,e1,e2,rfl,Ad,BU,eb,hs⟩;have Tg:=Ad.st;have Te:=Ad.wa;have hSt2:=Ad.ok.st.two;have hWa2:=Ad.ok.wa.two;obtain ⟨gQ,lst,gO,rfl,We⟩:=BU.shape;obtain ⟨gy,lwa,gw,rfl,Wd⟩:=eb.shape;obtain rfl:s.st.length=lst:=by simpa [Is] using We
 obtain rfl:s.wa.length=lwa:=by simpa [Is] using Wd
 refine .z (zbd [_,_,_,_,_,_,_,_] jE) (.o (.alloc hs eg rfl fun b4 w hs=>?_));refine .o (.aE (vs:=[_,_,_,_,_,_,_,_]) hs rfl rfl aC fun w hs=>?_);refine .nil (.ae (.z (zfa aK) (.y hs (zls [_,_,_,_,_,_] bC aT) (.o (.alloc hs rD rfl fun b5 w hs=>?_)))));refine .o (.aE (vs:=[_,_,_,_,_,_]) hs rfl rfl aT fun w hs=>?_);refine .nil (.cut (fun fs w=>∃rs e3 ar cr,mT fs ⟨208,[],[(5,Pt b5),(4,Pt b4),(2,Pt b2),(1,Pt b1)]⟩∧rs.length≤14∧rs.length≤Ib.length∧(∀r∈rs,lZ s r)∧cz 7 (.slice ar rs.length cr) (rdc rs).flatten e3∧St H w (e3:: .blk b5 [I s.id,I s.src,.slice gQ s.st.length gO,.slice gy s.wa.length gw,I s.al,I s.up]:: .blk b4 [I s.id,I s.src,.slice gQ s.st.length gO,.slice gy s.wa.length gw,I s.al,I s.up,.slice ar rs.length cr,.slice none 0 0]::e1::e2:: .blk b2 [I 0,I 0,.slice none 0 0,.slice none 0 0,I 0,I 0,.slice none 0 0,.slice none 0 0]:: .blk b1 [.slice avs sl.length cvs,.slice av5 Ib.length cv5,.slice av4 Kz.length cv4,.slice avp pk.length cvp,I z1,I z2,I z3]::σ)) ?_ ?_)
 ·refine .ae (.zn zg (.block ?_));refine .loop (fun p:List Rdg×Option Addr×Nat=>⟨208,[],[(6,I (p.1.length:Int)),(5,Pt b5),(4,Pt b4),(2,Pt b2),(1,Pt b1)]⟩)
   (fun p w=>p.1.length≤14∧p.1.length≤Ib.length∧(∀r∈p.1,lZ s r)∧∃e3,cz 7 (.slice p.2.1 p.1.length p.2.2) (rdc p.1).flatten e3∧
    St H w (e3:: .blk b5 [I s.id,I s.src,.slice gQ s.st.length gO,.slice gy s.wa.length gw,I s.al,I s.up]:: .blk b4 [I s.id,I s.src,.slice gQ s.st.length gO,.slice gy s.wa.length gw,I s.al,I s.up,.slice p.2.1 p.1.length p.2.2,.slice none 0 0]::e1::e2:: .blk b2 [I 0,I 0,.slice none 0 0,.slice none 0 0,I 0,I 0,.slice none 0 0,.slice none 0 0]:: .blk b1 [.slice avs sl.length cvs,.slice av5 Ib.length cv5,.slice av4 Kz.length cv4,.slice avp pk.length cvp,I z1,I z2,I z3]::σ)) (fun p=>14 - p.1.length) ([],none,0) aW
   ⟨bB,bB,bB,_,.nil 7 none,(hs.sb).nul⟩ ?_
  clear hs;rintro ⟨rs,ar,cr⟩ w ⟨EY,Uf,yJ,e3,kD,hs⟩;dsimp only at EY Uf yJ kD hs ⊢;refine .seq (.ae (.z zm (.z (zfa jd) (.y hs (zld isAgg35) (.z (de runUnderlying35) (.z ju (.z zm (.iY (t':=31) rfl (fun Km=>?_) (fun Km=>?_)))))))))
  ·refine .T (.z zm (.T (.z ju (.zn zpT (.cg rfl (fun lP=>?_) (fun lP=>?_))))))
   ·refine .skip (nT (.seq (.block (.ae (.z (zfa jd) (.y hs (zld isAgg35) (.z zm ?_)))))));obtain ⟨n,hn⟩:=nth (l:=Ib) (k:=rs.length) ai;refine .ixX (enc:=F5.v) hs g2 rfl rfl runUnderlying35 TU hn dG ?_;intro UR o40 yS;refine .q hs (bH (vs:=n.v) rfl isAgg151 TU yS) (.o (.alloc hs zeroValue151 rfl fun b7 w hs=>?_));refine .o (.aE (vs:=[_,_,_,_,_]) hs rfl rfl TU fun w hs=>?_);refine .nil (.seq (.draw mix rfl hs fun w hs=>?_));refine .zw 0 rfl (zia 4 mv ak) (.zv 1 rfl hs (lO aj) (.zw 3 rfl (zia 4 mv ak) (.y 4 rfl hs aj ?_)));refine .z 5 rfl QP ?_;refine .E 2 hs ?_;refine .call uH rfl (dv hs ai) ?_;rintro _ w ⟨NN,g44,rfl,hs⟩;refine .go (.E 6 hs ?_);refine .call uH rfl (dv hs ai) ?_;rintro _ w ⟨NM,g48,rfl,hs⟩;have m49:0≤(NN:Int)*(NM:Int)∧(NN:Int)*(NM:Int)≤39:=by
     have e1:NM=0∨NM=1:=by omega
     rcases e1 with rfl|rfl<;>simp<;>omega
    refine .go (.zw 7 rfl mV ?_);refine .z 8 rfl zg ?_;refine .D hs ?_;refine .draw mix rfl hs fun w hs=>?_
    refine .zw 0 rfl (zfa bq) ?_;refine .y 1 rfl hs fT ?_;refine .z 2 rfl zm ?_;refine .z 3 rfl cD ?_;refine .zw 4 rfl (zia 0 mv ak) (.y 5 rfl hs aj ?_);refine .z 6 rfl (zfa bE) ?_;refine .y 7 rfl hs an ?_;refine .z 8 rfl (de af) ?_;refine .zw 10 rfl (zia 1 mv ak) (.y 11 rfl hs aj ?_);refine .z 12 rfl (zfa aZ) ?_;refine .y 13 rfl hs an ?_;refine .z 14 rfl (de af) ?_;refine .z 16 rfl zm ?_;refine .zw 17 rfl (zia 2 mv ak) (.zv 18 rfl hs (lO aj) (.zw 21 rfl (zia 3 mv ak) (.zv 22 rfl hs (lO aj) (.E 9 hs ?_))));refine .call uH rfl (dv hs ai) ?_;rintro _ w ⟨k59,g59,rfl,hs⟩;refine .go (.E 15 hs ?_);refine .call uH rfl (dv hs ai) ?_;rintro _ w ⟨k65,g65,rfl,hs⟩;refine .go (.E 19 hs ?_);refine .call uH rfl (dv hs ai) ?_;rintro _ w ⟨k69,g69,rfl,hs⟩;refine .go (.zw 20 rfl cD (.E 23 hs ?_));refine .call uH rfl (dv hs ai) ?_;rintro _ w ⟨k73,g73,rfl,hs⟩;obtain ⟨r,hr⟩:∃r:Rdg,r=⟨10+(rs.length:Int),(k59:Int),(k65:Int),0,(NN:Int)*(NM:Int),1+(k69:Int),(k73:Int)⟩:=⟨_,rfl⟩;have VV:lZ s r:=by subst hr;exact ⟨by dsimp only;omega,by dsimp only;omega,by dsimp only;omega,by dsimp only;omega,by dsimp only;omega,by dsimp only;omega,by dsimp only;omega⟩
    refine .go (.zw 24 rfl (zbd [_,_,_,_,_,_,_] dC) (.E 25 hs ?_));refine .buildSlice (cells:=r.c) hs jB rfl (by subst hr;kernel_rfl) ?_;intro b75 w hs;refine .go (.E 26 hs ?_);refine .append (ys:=r.c) hs dL rfl rfl kD (.own .here rfl rfl) (by simp [Rdg.c,Value.oneCell']) (fun l' h=>by rw [bX _ (pC _),eN] at h;omega) ?_;intro v76 en76 w tN hs;rw [←Bs] at tN;obtain ⟨a76,c76,rfl⟩:=tN.iG (pC _) ai;rw [eN] at tN ⊢;refine .go (.zw 27 rfl (zfa bq) (.E 28 hs ?_));refine .store hs rfl rfl sizeOf49 ?_;intro w hs;refine .go (.D hs (nB (nT (.region (.z zm (.z cD (.zn zg (nT ?_))))))));exact ⟨(rs++[r],a76,c76),.dc rfl bB aW,⟨by simp;omega,by simp;omega,fun q hq=>by
      simp only [List.mem_append,List.mem_singleton] at hq
      rcases hq with hq|rfl
      ·exact yJ q hq
      ·exact VV,_,tN,hs.sb⟩,by simp;omega⟩
   ·exact .exit (xT (xT (xB (nT ⟨rs,e3,ar,cr,aW,EY,Uf,yJ,kD,hs⟩))))
  ·exact .Fs 2 5 true (.zn zpF (.cF (.exit (xT (xT (xB (nT ⟨rs,e3,ar,cr,aW,EY,Uf,yJ,kD,hs⟩)))))))
 ·clear hs;rintro fs w ⟨rs,e3,ar,cr,iR,EY,Uf,yJ,kD,hs⟩;refine WE.sub ?_ iR;clear iR;refine .cut (fun fs w=>∃cs e4 ac cc,mT fs ⟨208,[],[(5,Pt b5),(4,Pt b4),(2,Pt b2),(1,Pt b1)]⟩∧cs.length≤5∧(∀c∈cs,vS c)∧(Srv.rn ⟨s,rs,cs⟩).Sound∧cz 6 (.slice ac cs.length cc) (cmc cs).flatten e4∧St H w (e1::e2::e3::e4:: .blk b5 [I s.id,I s.src,.slice gQ s.st.length gO,.slice gy s.wa.length gw,I s.al,I s.up]:: .blk b4 [I s.id,I s.src,.slice gQ s.st.length gO,.slice gy s.wa.length gw,I s.al,I s.up,.slice ar rs.length cr,.slice ac cs.length cc]:: .blk b2 [I 0,I 0,.slice none 0 0,.slice none 0 0,I 0,I 0,.slice none 0 0,.slice none 0 0]:: .blk b1 [.slice avs sl.length cvs,.slice av5 Ib.length cv5,.slice av4 Kz.length cv4,.slice avp pk.length cvp,I z1,I z2,I z3]::σ)) ?_ ?_
  ·refine .ae (.zn zg (.block ?_));refine .loop (fun p:Nat×List Cmp×Option Addr×Nat=>⟨208,[],[(9,I (p.1:Int)),(5,Pt b5),(4,Pt b4),(2,Pt b2),(1,Pt b1)]⟩)
    (fun p w=>p.1≤5∧p.1≤Kz.length∧p.2.1.length≤p.1∧(∀c∈p.2.1,vS c)∧(Srv.rn ⟨s,rs,p.2.1⟩).Sound∧∃e4,cz 6 (.slice p.2.2.1 p.2.1.length p.2.2.2) (cmc p.2.1).flatten e4∧
     St H w (e1::e2::e3::e4:: .blk b5 [I s.id,I s.src,.slice gQ s.st.length gO,.slice gy s.wa.length gw,I s.al,I s.up]:: .blk b4 [I s.id,I s.src,.slice gQ s.st.length gO,.slice gy s.wa.length gw,I s.al,I s.up,.slice ar rs.length cr,.slice p.2.2.1 p.2.1.length p.2.2.2]:: .blk b2 [I 0,I 0,.slice none 0 0,.slice none 0 0,I 0,I 0,.slice none 0 0,.slice none 0 0]:: .blk b1 [.slice avs sl.length cvs,.slice av5 Ib.length cv5,.slice av4 Kz.length cv4,.slice avp pk.length cvp,I z1,I z2,I z3]::σ)) (fun p=>5 - p.1) (0,[],none,0) aW
    ⟨bB,bB,bB,bB,KB (BK Ad.ok Tg Te EY bB yJ bB) rfl,.nul,.nil 6 none,(hs.nul).sb⟩ ?_
   clear hs;rintro ⟨k,cs,ac,cc⟩ w ⟨Y6,hkf,WD,Dr,om,e4,tN,hs⟩;dsimp only at Y6 hkf WD Dr om tN hs ⊢;refine .seq (.ae (.z zm (.z (zfa lq) (.y hs (zld isAgg36) (.z (de runUnderlying36) (.z ju (.z zm (.iY (t':=83) rfl (fun W3=>?_) (fun W3=>?_)))))))))
   ·refine .T (.z zm (.T (.z ju (.zn zpT (.cg rfl (fun WK=>?_) (fun WK=>?_))))))
    ·refine .skip (nT (.seq (.block (.ae (.z (zfa lq) (.y hs (zld isAgg36) (.z zm ?_)))))));obtain ⟨n,hn⟩:=nth (l:=Kz) (k:=k) ai;refine .ixX (enc:=F4.v) hs g3 rfl rfl runUnderlying36 sizeOf97 hn dG ?_;intro b92 o92 WJ;refine .q hs (bH (vs:=n.v) rfl isAgg97 sizeOf97 WJ) (.o (.alloc hs zeroValue97 rfl fun mU w hs=>?_));refine .o (.aE (vs:=[_,_,_,_]) hs rfl rfl sizeOf97 fun w hs=>?_);refine .nil (.ae (.z (zia 1 jm ak) (.y hs (zld aj) (.o (.call uH rfl (dv hs ai) ?_)))));rintro _ w ⟨YF,g96,rfl,hs⟩;refine .z iX (.zn zg (.ae (.z (zia 3 jm ak) (.y hs (zld aj) (.o (.call uH rfl (dv hs ai) ?_))))));rintro _ w ⟨RZ,g100,rfl,hs⟩;refine .zn zg (.seq (.draw mix rfl hs fun w hs=>?_));refine .zw 0 rfl (zfa du) ?_;refine .y 1 rfl hs FM ?_;refine .z 2 rfl zm ?_;refine .z 3 rfl cD ?_;refine .zw 4 rfl (zia 0 jm ak) (.y 5 rfl hs aj ?_);refine .z 8 rfl zm ?_;refine .z 9 rfl zm ?_;refine .zw 10 rfl (zia 3 jm ak) (.y 11 rfl hs aj ?_);refine .z 12 rfl QP ?_;refine .z 15 rfl zm ?_;refine .z 16 rfl zm ?_;refine .zw 17 rfl (zia 2 jm ak) (.zv 18 rfl hs (lO aj) (.E 6 hs ?_));refine .call uH rfl (dv hs ai) ?_;rintro _ w ⟨Vr,g107,rfl,hs⟩;refine .go (.zw 7 rfl cD (.E 13 hs ?_));refine .call uH rfl (dv hs ai) ?_;rintro _ w ⟨Vp,g114,rfl,hs⟩;refine .go (.zw 14 rfl cD (.E 19 hs ?_));refine .call uH rfl (dv hs ai) ?_;rintro _ w ⟨Vo,g120,rfl,hs⟩;obtain ⟨c,hc⟩:∃c:Cmp,c=⟨30+(k:Int),1+(Vr:Int),(RZ:Int),(RZ:Int)+(Vp:Int),(YF:Int) - 40,(YF:Int) - 40+(Vo:Int)⟩:=⟨_,rfl⟩;have WI:vS c:=by subst hc;exact ⟨by dsimp only;omega,by dsimp only;omega,by dsimp only;omega,by dsimp only;omega,by dsimp only;omega,by dsimp only;omega⟩
     refine .go (.zw 20 rfl cD ?_);refine .z 21 rfl (zbd [_,_,_,_,_,_] qL) ?_;refine .E 22 hs ?_;refine .buildSlice (cells:=c.c) hs ma rfl (by subst hc;kernel_rfl) ?_;intro b123 w hs;refine .go (.E 23 hs ?_);refine .append (ys:=c.c) hs ij rfl rfl tN (.own .here rfl rfl) (by simp [Cmp.c,Value.oneCell']) (fun l' h=>by rw [bX _ (DV _),mn] at h;omega) ?_;intro v124 en124 w Ku hs;rw [←GL] at Ku;obtain ⟨a124,c124,rfl⟩:=Ku.iG (DV _) ai;rw [mn] at Ku ⊢;have ob:(cs++[c]).length=cs.length+1:=by simp
     have N5:∀d∈cs++[c],vS d:=fun d hd=>by
      simp only [List.mem_append,List.mem_singleton] at hd
      rcases hd with hd|rfl
      ·exact Dr d hd
      ·exact WI
     have EX:cR ⟨s,rs,cs++[c]⟩:=BK Ad.ok Tg Te EY ai yJ N5;refine .go (.zw 24 rfl (zfa du) (.E 25 hs ?_));refine .store hs rfl rfl sizeOf50 ?_;intro w hs;refine .go (.D hs (.ae (.y hs (zls [_,_,_,_,_,_,_,_] aP aC) ?_)));obtain ⟨Hx,HJ,r1,r2,r3,r4,Ek,back⟩:=Nq.EU (s:=⟨s,rs,cs++[c]⟩) ⟨BU,eb,kD,Ku⟩ (by show s.st.length≤_;omega) (by show s.wa.length≤_;omega) (by show rs.length≤_;omega) (by show (cs++[c]).length≤_;omega) (hs.sb:St H w (e1::e2::e3::en124:: .blk b5 [I s.id,I s.src,.slice gQ s.st.length gO,.slice gy s.wa.length gw,I s.al,I s.up]:: .blk b4 [I s.id,I s.src,.slice gQ s.st.length gO,.slice gy s.wa.length gw,I s.al,I s.up,.slice ar rs.length cr,.slice a124 (cs++[c]).length c124]:: .blk b2 [I 0,I 0,.slice none 0 0,.slice none 0 0,I 0,I 0,.slice none 0 0,.slice none 0 0]:: .blk b1 [.slice avs sl.length cvs,.slice av5 Ib.length cv5,.slice av4 Kz.length cv4,.slice avp pk.length cvp,I z1,I z2,I z3]::σ));refine .o (.call call91 rfl (yj (s:=⟨s,rs,cs++[c]⟩) Ek r1 r2 r3 r4 EX.early (Fb EX)) ?_);rintro _ w ⟨Hy,b127,J1,rfl,S9,NT⟩;have hs:=back J1 NT;clear Ek NT back;refine .nil (.cond rfl (fun N8=>?_) (fun N8=>?_))
     ·refine .region (.z (zfa du) (.y hs (zld FM) (.z (zfa du) (.y hs (zld FM) (.z (de dF) (.z iX (.q hs (tf (k:=cs.length) rfl rfl dF kd ai (by have:=Ku.le;omega)) ?_)))))));refine .z (zfa du) (.o (.store hs rfl rfl sizeOf50 fun w hs=>?_));exact .nil (nB (nT (.region (.z zm (.z cD (.zn zg (nT ⟨(k+1,cs,a124,c124),.dc rfl bB aW,⟨by dsimp only;omega,by dsimp only;omega,by dsimp only;omega,Dr,om,_,Ku.Qk,hs.sb⟩,by dsimp only;omega⟩)))))))
     ·exact .skip (nB (nT (.region (.z zm (.z cD (.zn zg (nT ⟨(k+1,cs++[c],a124,c124),.dc rfl bB aW,⟨by dsimp only;omega,by dsimp only;omega,by dsimp only;omega,N5,S9 (by simpa using N8),_,Ku,hs.sb⟩,by dsimp only;omega⟩)))))))
    ·exact .exit (xT (xT (xB (nT ⟨cs,e4,ac,cc,aW,ai,Dr,om,tN,hs⟩))))
   ·exact .Fs 2 5 true (.zn zpF (.cF (.exit (xT (xT (xB (nT ⟨cs,e4,ac,cc,aW,ai,Dr,om,tN,hs⟩)))))))
  ·clear hs;rintro fs w ⟨cs,e4,ac,cc,iR,PY,Dr,om,tN,hs⟩;refine WE.sub ?_ iR;clear iR;have EX:cR ⟨s,rs,cs⟩:=BK Ad.ok Tg Te EY PY yJ Dr;refine .ae (.y hs (zls [_,_,_,_,_,_,_,_] aP aC) (.z (zfa qw) (.y hs (zld an) ?_)));obtain ⟨Hx,HJ,r1,r2,r3,r4,Ek,back⟩:=Nq.EU (s:=⟨s,rs,cs⟩) ⟨BU,eb,kD,tN⟩ (by show s.st.length≤_;omega) (by show s.wa.length≤_;omega) (by show rs.length≤_;omega) (by show cs.length≤_;omega) hs;refine .o (.call call92 rfl (yi (s:=⟨s,rs,cs⟩) Ek r1 r2 r3 r4 (g4.mono HJ) EX.early ⟨Fb EX,om⟩) ?_);rintro v139 w ⟨Hy,x,ex,J1,hOx,hP,NT⟩;have hs:=back J1 NT;clear Ek NT back r1 r2 r3 r4;obtain ⟨wi,Cv,Pr,Q4⟩:=hP.DN (Fb EX) om;have oa:=EX.many;have Zc:(Srv.rn ⟨s,rs,cs⟩).n=s.many+(aS rs).length+1:=xY ⟨s,rs,cs⟩;have wi:x.length=s.many+(aS rs).length+1:=by rw [wi];exact Zc
   rw [Zc] at Pr;have oa:s.many+(aS rs).length≤64:=oa;obtain ⟨Hz,Sj,hX,hs⟩:=cz.dT hOx ai hs eJ;obtain ⟨ax,cx,rfl⟩:=RI.shape hX;refine .zn zg (.seq (.ae (.zn zg (.block ?_))));refine .loop (fun p:Nat×List Rdg=>⟨208,[],[(14,I (p.1:Int)),(13,.slice ax x.length cx),(5,Pt b5),(4,Pt b4),(2,Pt b2),(1,Pt b1)]⟩)
    (fun p w=>p.1≤rs.length∧p.2.length=rs.length∧aS p.2=aS rs∧(∀r∈p.2,RdS s r)∧(∀j<p.1,∀r,p.2[j]? =some r→Lb s (aS rs) x r)∧∃e3,cz 7 (.slice ar rs.length cr) (rdc p.2).flatten e3∧
     St Hz w (e1::e2::e3::e4:: .blk b5 [I s.id,I s.src,.slice gQ s.st.length gO,.slice gy s.wa.length gw,I s.al,I s.up]:: .blk b4 [I s.id,I s.src,.slice gQ s.st.length gO,.slice gy s.wa.length gw,I s.al,I s.up,.slice ar rs.length cr,.slice ac cs.length cc]:: .blk b2 [I 0,I 0,.slice none 0 0,.slice none 0 0,I 0,I 0,.slice none 0 0,.slice none 0 0]:: .blk b1 [.slice avs sl.length cvs,.slice av5 Ib.length cv5,.slice av4 Kz.length cv4,.slice avp pk.length cvp,I z1,I z2,I z3]::σ)) (fun p=>rs.length - p.1) (0,rs) aW
    ⟨bB,rfl,rfl,fun r hr=>⟨(yJ r hr).st,(yJ r hr).wa,(yJ r hr).tol⟩,fun j hj=>by omega,e3,kD,hs⟩ ?_
   clear hs kD;rintro ⟨k,R⟩ w ⟨hk,Q7,Ae,Oi,Xi,e3,kD,hs⟩;dsimp only at hk Q7 Ae Oi Xi kD hs ⊢;refine .seq (.ae (.z zm (.z (zfa bq) (.y hs (zld fT) (.z (de bn) (.zn ju (.cg rfl (fun SU=>?_) (fun SU=>?_))))))))
   ·refine .skip (nT (.seq (.block (.ae (.z (zfa jd) (.y hs (zld isAgg35) (.z zm ?_)))))));obtain ⟨n,hn⟩:=nth (l:=Ib) (k:=k) ai;obtain ⟨r,hr⟩:=nth (l:=R) (k:=k) ai;have Ug:=Oi r (List.mem_of_getElem? hr);obtain ⟨u,Pu,MH⟩:=Ug.u;have VS:=Ug.st;have VQ:=Ug.wa;have Sa:=Ug.tol;have HI:r.td∈aS R:=ir.2 ⟨r,List.mem_of_getElem? hr,rfl⟩;obtain ⟨q,q1,q2,q3⟩:=i7 HI;rw [Ae] at q3;have CB:=Pr u ai;have zG:=Pr (s.many+1+q) ai;obtain ⟨bo,co,sp,hv,rfl,yP⟩:=kD.Tz (pC _) ai (by rw [eN];omega);simp only [Value.slice.injEq] at hv;obtain ⟨rfl,Vz,rfl⟩:=hv;obtain ⟨Hx,HJ,r1,r2,r3,r4,Ek,back⟩:=Nq.EU (s:=⟨s,R,cs⟩) ⟨BU,eb,kD,tN⟩ (by show s.st.length≤_;omega) (by show s.wa.length≤_;omega) (by show R.length≤_;omega) (by show cs.length≤_;omega) hs;clear hs;have hs:=Ek;clear Ek;refine .ixX (enc:=F5.v) hs (g2.mono (Sj.trans HJ)) rfl rfl runUnderlying35 TU hn dG ?_;intro b150 o150 Kd;refine .q hs (bH (vs:=n.v) rfl isAgg151 TU Kd) (.o (.alloc hs zeroValue151 rfl fun Ch w hs=>?_));refine .o (.aE (vs:=[_,_,_,_,_]) hs rfl rfl TU fun w hs=>?_);refine .nil (.ae (.z (zfa bq) (.y hs (zld fT) (.z zm (.ixX (enc:=Rdg.c) hs r3 rfl rfl bn bD hr dG ?_)))));intro b155 o155 SS;refine .q hs (bH (vs:=r.c) rfl kF bD SS) (.o (.alloc hs dZ rfl fun ui w hs=>?_));refine .o (.aE (vs:=[_,_,_,_,_,_,_]) hs rfl rfl bD fun w hs=>?_);refine .nil (.ae (.y hs (zls [_,_,_,_,_,_] bC aT) (.z (zfa iJ) (.y hs (zld aj) (.z (zfa iI) (.y hs (zld aj) (.o (.call Ys rfl (ed (s:=s) hs r2 ai ai ai) ?_))))))));rintro _ w ⟨rfl,hs⟩;rw [Pu];refine .zn zg (.seq (.draw mix rfl hs fun w hs=>?_));refine .ys 0 rfl hs [_,_,_,_,_,_] bC aT ?_;refine .z 3 rfl (zfa bq) ?_;refine .y 4 rfl hs fT ?_;refine .z 6 rfl (zfa fh) ?_;refine .y 7 rfl hs aj ?_;refine .z 8 rfl (zfa fg) ?_;refine .y 9 rfl hs aj ?_;refine .z 10 rfl (zbd [_,_] jh) ?_;refine .E 1 hs ?_;refine .call call94 rfl (iT (s:=s) hs r1 r2 ⟨ai,ai⟩) ?_;rintro _ w ⟨rfl,hs⟩;refine .go (.zw 2 rfl cD (.E 5 hs ?_));refine .call call96 rfl (jH (rs:=R) hs r3 ai) ?_;rintro v168 w ⟨Hw,Wh,hT,hs⟩;refine .go (.E 11 hs ?_);refine .call call95 rfl (lI (t:=r.td) hs hT (by rw [Ae];omega)) ?_;rintro _ w ⟨rfl,hs⟩;rw [q1];refine .go (.zw 12 rfl cD ?_);refine .z 13 rfl zg ?_;refine .D hs ?_;refine .seq (.draw mix rfl hs fun w hs=>?_);refine .zw 0 rfl (zia 4 mv ak) (.y 1 rfl hs aj ?_);refine .z 2 rfl QP ?_;refine .z 3 rfl (zfa dE) ?_;refine .y 4 rfl hs aj ?_;refine .z 5 rfl mV ?_;refine .z 6 rfl cD ?_;refine .z 8 rfl (zfa dE) ?_;refine .y 9 rfl hs aj ?_;refine .E 7 hs ?_;refine .call uH rfl (dv hs ai) ?_;rintro _ w ⟨RY,g183,rfl,hs⟩;refine .go (.zw 10 rfl iX ?_);refine .z 11 rfl zg ?_;refine .D hs ?_;refine .draw mix rfl hs fun w hs=>?_
    refine .zw 0 rfl (zfa bq) ?_;refine .y 1 rfl hs fT ?_;refine .z 2 rfl zm ?_;refine .z 3 rfl zm ?_;refine .z 4 rfl zm ?_;have hs:=back Wh hs;refine .ixX (enc:=fun x=>[I x]) (i:=5) hs rfl az .none hX rfl rfl af ak (bL (l:=x) (i:=u) ai) rfl ?_;intro b192 o192 Kc;replace Kc:=bN.one Kc;refine .r (i:=6) hs rfl az .none (aR rfl aj Kc) ?_;refine .zw 7 rfl zm ?_;refine .z 8 rfl zm ?_;refine .ixX (enc:=fun x=>[I x]) (i:=9) hs rfl az .none hX rfl rfl af ak (bL (l:=x) (i:=s.many+1+q) ai) (by push_cast;rfl) ?_;intro b196 o196 Kb;replace Kb:=bN.one Kb;refine .r (i:=10) hs rfl az .none (aR rfl aj Kb) ?_;refine .zw 11 rfl iX ?_;refine .z 12 rfl zm ?_;refine .z 13 rfl cD ?_;first|(refine .ixw 14 rfl hs bn bD ?_;intro X1 o201 N7)|refine .z 14 rfl (CO bn bD) ?_
    refine .zw 15 rfl (zfa fi) (.E 16 hs ?_);refine .store (c':=(rdc (R.set k {r with val:=gi x u - gi x (s.many+1+q)+((RY:Int) - r.tol)})).flatten++sp) hs rfl rfl ak ?_ eJ (Nat.ble_eq_true_of_le (by rw [List.length_append,bX _ (pC _),eN];omega)) (EE hr sp _);intro w hs;refine .go (.D hs (nB (nT (.region (.z zm (.z cD (.zn zg (nT ?_))))))));exact ⟨(k+1,R.set k {r with val:=gi x u - gi x (s.many+1+q)+((RY:Int) - r.tol)}),.dc rfl bB aW,⟨by dsimp only;omega,by dsimp only;rw [List.length_set];exact Q7,by dsimp only;rw [CU hr];exact Ae,fun y hy=>by
      rcases List.mem_or_eq_of_mem_set hy with h|h
      ·exact Oi y h
      ·subst h;exact ⟨VS,VQ,Sa⟩,fun j hj y hy=>by
      dsimp only at hj hy;by_cases e:j=k
      ·subst e;rw [List.getElem?_set_self ai] at hy;obtain rfl:=Option.some.inj hy;have q1':lH (aS rs) r.td=q:=by rw [←Ae];exact q1
       unfold Lb;show gi x (1+r.st*s.wa.length+r.wa).toNat - gi x (s.many+1+lH (aS rs) r.td).toNat - r.tol≤_∧_≤gi x (1+r.st*s.wa.length+r.wa).toNat - gi x (s.many+1+lH (aS rs) r.td).toNat+r.tol;rw [Pu,q1',show ((s.many:Int)+1+(q:Int)).toNat=s.many+1+q by omega,Int.toNat_natCast];dsimp only;omega
      ·rw [List.getElem?_set_ne ai] at hy;exact Xi j ai y hy,_,Mh kD _,hs.sb⟩,by dsimp only;omega⟩
   ·refine .exit (xT (xT (xB (nT (.ae (.y hs (zls [_,_,_,_,_,_,_,_] aP aC) (.z zm ?_)))))));obtain rfl:k=rs.length:=by omega
    obtain ⟨Hx,HJ,r1,r2,r3,r4,Ek,back⟩:=Nq.EU (s:=⟨s,R,cs⟩) ⟨BU,eb,kD,tN⟩ (by show s.st.length≤_;omega) (by show s.wa.length≤_;omega) (by show R.length≤_;omega) (by show cs.length≤_;omega) hs;refine .o (.call call97 rfl (te (s:=⟨s,R,cs⟩) (x:=x) Ek r1 r2 r3 ⟨_,_,_,rfl⟩ (hX.mono HJ) (by rw [xY];show _=s.many+(aS R).length+1;rw [Ae];exact wi) ⟨by show s.st.length≤_;omega,by show s.wa.length≤_;omega,by show R.length≤_;omega⟩) ?_);rintro _ w ⟨Hy,vr',vy,er,ey,J1,rfl,hOr,UH,NT⟩;have hs:=back J1 NT;clear Ek NT back r1 r2 r3 r4;have sV:=yG s R;obtain ⟨arr,crr,rfl⟩:=hOr.iG (pC _) ai;obtain ⟨ayy,lyy,cyy,rfl,-⟩:=UH.shape;refine .z zex (.z zex (.o (.aE (vs:=[_,_,_,_,_,_,_,_]) hs rfl rfl aC fun w hs=>?_)));refine .zn zg (.ret ?_);exact Fin.hZ [] [] hs fun w hs=>⟨_,results2 results31 (cN (vs:=[_,_,_,_,_,_,_,_]) hs rfl aP aC) rfl,Hz,⟨s,jx s R,cs⟩,_,_,_,_,_,_,e1,e2,er,e4,ey,Sj,rfl,
     ⟨Tg,Te,by show (jx s R).length≤14;omega,PY,BK Ad.ok Tg Te ai PY (fun r h=>(Dh h).2) Dr⟩,⟨BU,eb,hOr,tN⟩,UH,HB Q4 Cv wi Ae Oi (fun r hr=>by
      obtain ⟨j,hj⟩:=List.getElem?_of_mem hr;have:=(List.getElem?_eq_some_iff.1 hj).1;exact Xi j ai r hj),hs.sb⟩
theorem wQ{w:World}{v:Value}{xs:List Rdg}(hs:St H w σ)(hr:RRd H v xs)(hx:xs.length≤1000000):Z4 172 [v] w fun v w'=>∃en,cz 7 v (rdc xs).flatten en∧St H w' (en::σ):=by
 obtain ⟨a,c,rfl⟩:=RRd.shape hr;refine Cl.o func172 ntmps172 ag1 ?_;refine .ae (.zn zg (.seq (.ae (.z zm (.q hs (Jh rfl rfl bn) (.nil (.cond rfl (fun N6=>?_) (fun N6=>?_))))))))
 ·refine .ae (.zn zg (.ret (rT (Fin.bw results172 rfl ?_))));obtain rfl:a=none:=by simpa using N6
  obtain rfl:=RRd.Jt hr;exact ⟨.nul,.nil 7 none,hs.nul⟩
 ·refine .skip (nT (.ae (.o (.buildSlice (cells:=[]) hs rz rfl rfl fun b5 w hs=>?_))));refine .z zm (.o (.append (xs:=[]) (ys:=(rdc xs).flatten) hs dL rfl rfl (.full (len:=0) rfl) (QE hr) (L5 xs) (fun l h=>by simp at h;omega) ?_));intro v7 en7 w hO hs;exact .zn zg (.ret (Fin.bw results172 rfl ⟨en7,hO,hs⟩))
theorem wR{w:World}{v:Value}{xs:List Cmp}(hs:St H w σ)(hr:RCm H v xs)(hx:xs.length≤1000000):Z4 173 [v] w fun v w'=>∃en,cz 6 v (cmc xs).flatten en∧St H w' (en::σ):=by
 obtain ⟨a,c,rfl⟩:=RCm.shape hr;refine Cl.o func173 ntmps173 ag1 ?_;refine .ae (.zn zg (.seq (.ae (.z zm (.q hs (Jh rfl rfl dF) (.nil (.cond rfl (fun N6=>?_) (fun N6=>?_))))))))
 ·refine .ae (.zn zg (.ret (rT (Fin.bw results173 rfl ?_))));obtain rfl:a=none:=by simpa using N6
  obtain rfl:=RCm.Jt hr;exact ⟨.nul,.nil 6 none,hs.nul⟩
 ·refine .skip (nT (.ae (.o (.buildSlice (cells:=[]) hs rA rfl rfl fun b5 w hs=>?_))));refine .z zm (.o (.append (xs:=[]) (ys:=(cmc xs).flatten) hs ij rfl rfl (.full (len:=0) rfl) (QG hr) (Nf xs) (fun l h=>by simp at h;omega) ?_));intro v7 en7 w hO hs;exact .zn zg (.ret (Fin.bw results173 rfl ⟨en7,hO,hs⟩))
set_option maxHeartbeats 1000000 in
theorem su{w:World}(hs:St H w σ)(h1:RI H bV s.sp.st)(h2:RI H bS s.sp.wa)(h3:RRd H vr s.rs)(h4:RCm H vc s.cs)
  (l1:s.sp.st.length≤1000000) (l2:s.sp.wa.length≤1000000) (l3:s.rs.length≤1000000) (l4:s.cs.length≤1000000):
  Z4 121 [.agg #[I s.sp.id,I s.sp.src,bV,bS,I s.sp.al,I s.sp.up,vr,vc]] w fun u w'=>∃ust uwa ur uc e1 e2 e3 e4,u= .agg #[I s.sp.id,I s.sp.src,ust,uwa,I s.sp.al,I s.sp.up,ur,uc]∧Nq s ust uwa ur uc e1 e2 e3 e4∧St H w' (e1::e2::e3::e4::σ):=by
 obtain ⟨gQ,gO,rfl⟩:=RI.shape h1;obtain ⟨gy,gw,rfl⟩:=RI.shape h2;obtain ⟨ar,cr,rfl⟩:=RRd.shape h3;obtain ⟨ac,cc,rfl⟩:=RCm.shape h4;refine Cl.o func121 ntmps121 ag1 ?_;refine .ae (.bx hs fun b1 w hs=>?_);refine .o (.alloc hs eg rfl fun b2 w hs=>?_);refine .nil (.seq (.draw mix rfl hs fun w hs=>?_));refine .zw 0 rfl (zfa aK) ?_;refine .z 1 rfl (zfa bE) ?_;refine .y 2 rfl hs an ?_;refine .z 4 rfl (zfa aK) ?_;refine .z 5 rfl (zfa aZ) ?_;refine .y 6 rfl hs an ?_;refine .E 3 hs ?_;refine .call call171 rfl (jG hs h1 ai) ?_;rintro v6 w ⟨e1,BU,hs⟩;obtain ⟨a6,c6,rfl⟩:=BU.p5;refine .go (.zw 8 rfl (zfa aK) ?_);refine .z 9 rfl (zfa bE) ?_;refine .E 7 hs ?_;refine .call call171 rfl (jG hs h2 ai) ?_;rintro v10 w ⟨e2,eb,hs⟩;obtain ⟨a10,c10,rfl⟩:=eb.p5;refine .go (.E 10 hs ?_);refine .store hs rfl rfl aO ?_;intro w hs;refine .go (.zw 11 rfl (zfa aK) ?_);refine .z 12 rfl (zfa aZ) ?_;refine .E 13 hs ?_;refine .store hs rfl rfl aO ?_;intro w hs;refine .go (.D hs (.seq (.draw mix rfl hs fun w hs=>?_)));refine .zw 0 rfl (zfa bq) ?_;refine .y 1 rfl hs fT ?_;refine .z 3 rfl (zfa du) ?_;refine .y 4 rfl hs FM ?_;refine .E 2 hs ?_;refine .call call172 rfl (wQ hs h3 ai) ?_;rintro v17 w ⟨e3,kD,hs⟩;obtain ⟨a17,c17,rfl⟩:=kD.iG (pC _) ai;refine .go (.zw 6 rfl (zfa bq) (.E 5 hs ?_));refine .call call173 rfl (wR hs h4 ai) ?_;rintro v20 w ⟨e4,tN,hs⟩;obtain ⟨a20,c20,rfl⟩:=tN.iG (DV _) ai;refine .go (.E 7 hs ?_);refine .store hs rfl rfl sizeOf49 ?_;intro w hs;refine .go (.zw 8 rfl (zfa du) (.E 9 hs ?_));refine .store hs rfl rfl sizeOf50 ?_;intro w hs;refine .go (.D hs (.ae (.y hs (zls [_,_,_,_,_,_,_,_] aP aC) (.o (.aE (vs:=[_,_,_,_,_,_,_,_]) hs rfl rfl aC fun w hs=>?_)))));exact .nil (.ret (Fin.hZ [] [] hs fun w hs=>⟨_,results1 results121 (cN (vs:=[_,_,_,_,_,_,_,_]) hs rfl aP aC),_,_,_,_,e1,e2,e3,e4,rfl,⟨BU,eb,kD,tN⟩,hs.sb⟩))
set_option maxHeartbeats 2000000 in
theorem u5{w:World}{r:Rdg}(hs:St H w σ)(h1:RI H bV s.sp.st)(h2:RI H bS s.sp.wa)(h3:RRd H vr s.rs)(h4:RCm H vc s.cs):
  Z4 54 [.agg #[I s.sp.id,I s.sp.src,bV,bS,I s.sp.al,I s.sp.up,vr,vc],.agg #[I r.src,I r.st,I r.wa,I r.val,I r.tol,I r.tape,I r.day]] w fun u w'=>∃H1 v t e,HLe H H1∧u= .tuple #[v,I e]∧RSv H1 v t∧D4 s r t e∧St H1 w' σ:=by
 obtain ⟨gQ,gO,rfl⟩:=RI.shape h1;obtain ⟨gy,gw,rfl⟩:=RI.shape h2;obtain ⟨ar,cr,rfl⟩:=RRd.shape h3;obtain ⟨ac,cc,rfl⟩:=RCm.shape h4;refine Cl.o func54 ntmps54 ag2 ?_;refine .ae (.bx hs fun b2 w hs=>?_);refine .bx hs fun b3 w hs=>?_
 refine .o (.alloc hs eg rfl fun b4 w hs=>?_);refine .zn zg (.seq (.ae (.y hs (zls [_,_,_,_,_,_,_,_] aP aC) (.o (.call Ao rfl (dn (s:=s) hs h1 h2 h3 h4) ?_)))));rintro _ w ⟨H1,e,aq,rfl,hC,hs⟩;refine .zn zg (.ae (.z zm (.zn ez (.dz rfl (fun mX=>?_) (fun mX=>?_)))))
 ·refine .ae (.z (zbd [_,_,_,_,_,_,_,_] jE) (.z zm (.o (.aE (vs:=[_,_,_,_,_,_,_,_]) hs rfl rfl aC fun w hs=>?_))));exact .zn zg (.ret (rT ((Fin.hZ [] [] hs fun w hs=>⟨_,results2 results54 (cN (vs:=[_,_,_,_,_,_,_,_]) hs rfl aP aC) rfl,H1,_,_,_,aq,rfl,Ya _,.bad hC mX,hs.out⟩))))
 ·refine .skip (nT (.seq (.ae (.z (zfa aK) (.y hs (zls [_,_,_,_,_,_] bC aT) (.y hs (zls [_,_,_,_,_,_,_] kF bD) ?_))))));have aJ:cR s:=hC.cO.1 (by simpa using mX);have oa:=eG aJ.early.1;have Cx:=aJ.early.2.1;have ob:=aJ.early.2.2.1;refine .o (.call call120 rfl (kG (s:=s.sp) (r:=r) hs (h1.mono aq) (h2.mono aq)) ?_);rintro _ w ⟨GR,rfl,Ac,hs⟩;refine .zn ia (.cond rfl (fun fW=>?_) (fun fW=>?_))
  ·refine .ae (.z (zbd [_,_,_,_,_,_,_,_] jE) (.o (.aE (vs:=[_,_,_,_,_,_,_,_]) hs rfl rfl aC fun w hs=>?_)));exact .zn zg (.ret (rT ((Fin.hZ [] [] hs fun w hs=>⟨_,results2 results54 (cN (vs:=[_,_,_,_,_,_,_,_]) hs rfl aP aC) rfl,H1,_,_,_,aq,rfl,Ya _,.rdg aJ (fun h=>by rw [Ac.2 h] at fW;cases fW),hs.out⟩))))
  ·refine .skip (nT (.ae (.y hs (zls [_,_,_,_,_,_,_,_] aP aC) ?_)));have hr:lZ s.sp r:=Ac.1 (by simpa using fW);refine .o (.call call121 rfl (su (s:=s) hs (h1.mono aq) (h2.mono aq) (h3.mono aq) (h4.mono aq) ai ai ai ai) ?_);rintro _ w ⟨ust,uwa,ur,uc,e1,e2,e3,e4,rfl,⟨BU,eb,kD,tN⟩,hs⟩;obtain ⟨a1,c1,rfl⟩:=BU.p5;obtain ⟨a2,c2,rfl⟩:=eb.p5;obtain ⟨a3,c3,rfl⟩:=kD.iG (pC _) ai;obtain ⟨a4,c4,rfl⟩:=tN.iG (DV _) ai;rw [eN] at kD ⊢;rw [mn] at tN ⊢;refine .o (.alloc hs eg rfl fun b7 w hs=>?_);refine .o (.aE (vs:=[_,_,_,_,_,_,_,_]) hs rfl rfl aC fun w hs=>?_);refine .nil (.ae (.z (zfa bq) (.y hs (zld fT) (.y hs (zls [_,_,_,_,_,_,_] kF bD) (.o (.buildSlice (cells:=r.c) hs jB rfl az fun D0 w hs=>?_))))));refine .o (.append (ys:=r.c) hs dL rfl rfl kD (.own .here rfl rfl) (by simp [Rdg.c,Value.oneCell']) (fun l' h=>by rw [bX _ (pC _),eN] at h;omega) ?_);intro v26 e3' w M1 hs;rw [←Bs] at M1;obtain ⟨a26,c26,rfl⟩:=M1.iG (pC _) ai;rw [eN] at M1 ⊢;refine .z (zfa bq) (.o (.store hs rfl rfl sizeOf49 fun w hs=>?_));refine .nil (.seq (.ae (.y hs (zls [_,_,_,_,_,_,_,_] aP aC) ?_)));obtain ⟨H2,g1,r1,hs⟩:=cz.dT BU ai hs eJ;obtain ⟨H3,g2,r2,hs⟩:=cz.dT eb ai hs eJ;obtain ⟨H4,g3,r3,hs⟩:=cz.bZ (m:=7) (cs:=rdc (s.rs++[r])) M1 (pC _) ai (by rw [eN];simp;omega) hs eJ;obtain ⟨H5,g4,r4,hs⟩:=cz.bZ (m:=6) (cs:=cmc s.cs) tN (DV _) ai (by rw [mn];omega) hs eJ;replace r1:=r1.mono (g2.trans (g3.trans g4));replace r2:=r2.mono (g3.trans g4);replace r3:RRd H5 _ (s.rs++[r]):=RRd.mono r3 g4;replace r4:RCm H5 _ s.cs:=r4;have ek:=aq.trans (g1.trans (g2.trans (g3.trans g4)));refine .o (.call Ao rfl (dn (s:=s.add r) hs r1 r2 r3 r4) ?_);rintro _ w ⟨H6,e,iw,rfl,M4,hs⟩;have oD:=ek.trans iw;refine .zn ez (.dz rfl (fun tJ=>?_) (fun tJ=>?_))
   ·refine .ae (.z (zbd [_,_,_,_,_,_,_,_] jE) (.o (.aE (vs:=[_,_,_,_,_,_,_,_]) hs rfl rfl aC fun w hs=>?_)));exact .zn zg (.ret (rT ((Fin.hZ [] [] hs fun w hs=>⟨_,results2 results54 (cN (vs:=[_,_,_,_,_,_,_,_]) hs rfl aP aC) rfl,H6,_,_,_,oD,rfl,Ya _,.long aJ hr (fun h=>tJ (M4.cO.2 h)),hs.out⟩))))
   ·refine .skip (nT (.ae (.y hs (zls [_,_,_,_,_,_,_,_] aP aC) (.o (.aE (vs:=[_,_,_,_,_,_,_,_]) hs rfl rfl aC fun w hs=>?_)))));exact .zn zg (.ret (Fin.hZ [] [] hs fun w hs=>⟨_,results2 results54 (cN (vs:=[_,_,_,_,_,_,_,_]) hs rfl aP aC) rfl,H6,_,s.add r,_,oD,rfl,⟨_,_,_,_,rfl,r1.mono iw,r2.mono iw,r3.mono iw,r4.mono iw⟩,.ok aJ hr (M4.cO.1 (by simpa using tJ)),hs.out⟩))
set_option maxHeartbeats 1000000 in
theorem zQ{w:World}{s:Spc}{x:List Int}(hs:St H w σ)(h1:RI H bV s.st)(h2:RI H bS s.wa)(hx:RI H vx x)(CB:s.st.length≤1000)(zG:s.wa.length≤1000)(wi:s.many+1≤x.length):
  Z4 34 [.agg #[I s.id,I s.src,bV,bS,I s.al,I s.up],vx] w fun u w'=>∃va us en ens,u= .agg #[va]∧cz 1 va us en∧qO us (gK s x s.st.length) ens∧St H w' (en::(ens++σ)):=by
 obtain ⟨gQ,gO,rfl⟩:=RI.shape h1;obtain ⟨gy,gw,rfl⟩:=RI.shape h2;obtain ⟨ax,cx,rfl⟩:=RI.shape hx;refine Cl.o func34 ntmps34 ag2 ?_;refine .ae (.bx hs fun b2 w hs=>?_);refine .o (.alloc hs zB rfl fun b4 w hs=>?_);refine .nil (.ae (.o (.alloc hs zB rfl fun b5 w hs=>?_)));refine .nil (.seq (.ae (.zn zg (.block ?_))));refine .loop (fun i:Nat=>⟨40,[],[(6,I (i:Int)),(1,.slice ax x.length cx),(5,Pt b5),(4,Pt b4),(2,Pt b2)]⟩)
  (fun i w=>i≤s.st.length∧∃va us en ens,cz 1 va us en∧qO us (gK s x i) ens∧St H w (.blk b5 [va]::en:: .blk b4 [.slice none 0 0]:: .blk b2 [I s.id,I s.src,.slice gQ s.st.length gO,.slice gy s.wa.length gw,I s.al,I s.up]::(ens++σ))) (fun i=>s.st.length - i) 0 aW
  ⟨Nat.zero_le _,_,[],.nul,[],.nil 1 none,.nil,hs.nul.sb⟩ ?_
 clear hs;rintro i w ⟨hi,va,us,en,ens,hO,hR,hs⟩;have EW:=hR.length;rw [eA] at EW;obtain ⟨aa,la,ca,rfl,PJ⟩:=hO.shape;refine .seq (.ae (.z zm (.z (zfa bE) (.y hs (zld an) (.z (de af) (.zn ju (.cg rfl (fun iz=>?_) (fun iz=>?_))))))))
 ·refine .skip (nT (.seq (.block (.ae (.zn zg (.seq (.ae (.zn zg (.block ?_)))))))));refine .loop (fun p:Nat×Value=>⟨40,[],[(8,I (p.1:Int)),(7,p.2),(6,I (i:Int)),(1,.slice ax x.length cx),(5,Pt b5),(4,Pt b4),(2,Pt b2)]⟩)
   (fun p w=>p.1≤s.wa.length∧∃er,cz 1 p.2 (Is (mA s x i p.1)) er∧St H w (er:: .blk b5 [.slice aa la ca]::en:: .blk b4 [.slice none 0 0]:: .blk b2 [I s.id,I s.src,.slice gQ s.st.length gO,.slice gy s.wa.length gw,I s.al,I s.up]::(ens++σ))) (fun p=>s.wa.length - p.1) (0,.slice none 0 0) aW
   ⟨Nat.zero_le _,.nul,.nil 1 none,hs.nul⟩ ?_
  clear hs;rintro ⟨k,vr⟩ w ⟨hk,er,hOr,hs⟩;dsimp only at hk hOr hs ⊢;have Cx:=ic s x i k;refine .seq (.ae (.z zm (.z (zfa aZ) (.y hs (zld an) (.z (de af) (.zn ju (.cg rfl (fun tK=>?_) (fun tK=>?_))))))))
  ·refine .skip (nT (.seq (.block (.region (.z zm (.z zm (.y hs (zls [_,_,_,_,_,_] bC aT) (.z zm (.z zm ?_)))))))));have VB:=Cu (s:=s) (i:=i) (k:=k) ai ai;refine .o (.call Ys rfl (ed (s:=s) hs h2 ai ⟨ai,ai⟩ ⟨ai,ai⟩) ?_);rintro _ w ⟨rfl,hs⟩;rw [show 1+(i:Int)*(s.wa.length:Int)+(k:Int)=((s.u i k:Nat):Int) by unfold Spc.u;push_cast;rfl];refine .ixY hs hx rfl rfl af ak (bL (l:=x) (i:=(s.u i k)) ai) dG ?_;intro XV o29 oF;refine .q hs (aR rfl aj oF) (.o (.buildSlice (cells:=[_]) hs cQ rfl rfl fun Lt w hs=>?_));refine .o (.append (ys:=Is [gi x (s.u i k)]) hs cI rfl rfl hOr (.own .here rfl rfl) (jC _) (fun l h=>by simp at h;omega) ?_);intro v32 en32 w eb hs;rw [←List.map_append,←AF] at eb;exact .zn zg (nB (nT (.region (.z zm (.z cD (.zn zg (nT ⟨(k+1,v32),.dc rfl bB aW,⟨by dsimp only;omega,_,eb,hs.sb⟩,by dsimp only;omega⟩)))))))
  ·refine .exit (xT (xT (xB (nT (.region (.z (zfa eO) (.y hs (zld vU) (.z zm ?_))))))));obtain rfl:k=s.wa.length:=by omega
   obtain ⟨ar,cr,rfl⟩:=hOr.p5;refine .o (.buildSlice (cells:=[.slice ar (mA s x i s.wa.length).length cr]) hs rM rfl rfl fun UT w hs=>?_);refine .o (.append (ys:=[.slice ar (mA s x i s.wa.length).length cr]) hs mO rfl rfl hO (.own .here rfl rfl) (by simp [Value.oneCell']) (fun l h=>by omega) fun v37 en37 w kD hs=>?_);obtain ⟨a37,l37,c37,rfl,h37⟩:=kD.shape;refine .z (zfa eO) (.o (.store hs rfl rfl sizeOf62 fun w hs=>?_));refine .nil (nB (nT (.region (.z zm (.z cD (.zn zg (nT ⟨i+1,.dc rfl bB aW,⟨ai,_,_,en37,ens++[er],kD,by rw [AD];exact hR.snoc hOr,?_⟩,ai⟩)))))));replace hs:St H w (.blk b5 [.slice a37 l37 c37]::en37:: .blk b4 [.slice none 0 0]:: .blk b2 [I s.id,I s.src,.slice gQ s.st.length gO,.slice gy s.wa.length gw,I s.al,I s.up]::er::(ens++σ)):=hs.sb;rw [List.append_assoc];exact hs.perm (.cons _ (.cons _ (.cons _ (.cons _ List.perm_middle.symm))))
 ·refine .exit (xT (xT (xB (nT (.ae (.y hs (zls [_] oU fA) (.o (.aE (vs:=[_]) hs rfl rfl fA fun w hs=>?_))))))));refine .nil (.ret ?_);obtain rfl:i=s.st.length:=by omega
  exact Fin.hZ [] [] hs fun w hs=>⟨_,results1 results34 (cN (vs:=[_]) hs rfl oU fA),_,us,en,ens,rfl,hO,hR,hs.sb⟩
set_option maxHeartbeats 4000000 in
theorem kH{w:World}(hs:St H w σ)(h1:RI H bV s.sp.st)(h2:RI H bS s.sp.wa)(h3:RRd H vr s.rs)(h4:RCm H vc s.cs)(hh:RT H vh rows):
  Z4 65 [.agg #[I s.sp.id,I s.sp.src,bV,bS,I s.sp.al,I s.sp.up,vr,vc],.agg #[vh]] w fun u w'=>∃H1 e,HLe H H1∧u=I e∧Im s rows e∧St H1 w' σ:=by
 obtain ⟨gQ,gO,rfl⟩:=RI.shape h1;obtain ⟨gy,gw,rfl⟩:=RI.shape h2;obtain ⟨ar,cr,rfl⟩:=RRd.shape h3;obtain ⟨ac,cc,rfl⟩:=RCm.shape h4;obtain ⟨ah,ch,rfl⟩:=hh.shape;refine Cl.o func65 ntmps65 ag2 ?_;refine .ae (.bx hs fun b2 w hs=>?_);refine .bx hs fun b3 w hs=>?_
 refine .zn zg (.seq (.ae (.y hs (zls [_,_,_,_,_,_,_,_] aP aC) (.o (.call Ao rfl (dn (s:=s) hs h1 h2 h3 h4) ?_)))));rintro _ w ⟨H1,e,aq,rfl,hC,hs⟩;refine .zn zg (.ae (.z zm (.zn ez (.dz rfl (fun dN=>?_) (fun dN=>?_)))))
 ·exact .ae (.z zm (.zn zg (.ret (rT ((Fin.bw results65 rfl ⟨H1,_,aq,rfl,.bad hC dN,hs.out⟩))))))
 ·refine .skip (nT (.seq (.ae (.z (zfa aK) (.y hs (zls [_,_,_,_,_,_] bC aT) (.y hs (zls [_] oU fA) ?_))))));have aJ:cR s:=hC.cO.1 (by simpa using dN);have oa:=eG aJ.early.1;have Cx:=aJ.early.2.1;refine .o (.call call129 rfl (mE (s:=s.sp) hs (h1.mono aq) (h2.mono aq) (hh.mono aq)) ?_);rintro _ w ⟨H2,X0,aQ,rfl,yZ,hs⟩;have dr:=aq.trans aQ;refine .zn ia (.cond rfl (fun jc=>?_) (fun jc=>?_))
  ·exact .ae (.zn zg (.ret (rT ((Fin.bw results65 rfl ⟨H2,_,dr,rfl,.hull aJ (fun h=>by rw [yZ.2 h] at jc;cases jc),hs.out⟩)))))
  ·refine .skip (nT (.ae (.y hs (zls [_,_,_,_,_,_,_,_] aP aC) ?_)));have AR:lE s.sp rows:=yZ.1 (by simpa using jc);have yK:=aJ.cJ;have JZ:=aJ.many;refine .o (.call call133 rfl (fK (s:=s) hs (h1.mono dr) (h2.mono dr) (h3.mono dr) (h4.mono dr) aJ.early) ?_);rintro _ w ⟨H3,bJ,⟨ul,rfl,hL⟩,hs⟩;obtain ⟨al,cl,rfl⟩:=RL.shape hL;have eC:=dr.trans bJ;have zF:=fun b hb=>NV (b:=b) AR hb
   have J0:=fun l hl=>aJ.sys.lim l hl
   refine .o (.alloc hs gZ rfl fun b6 w hs=>?_);refine .o (.aE (vs:=[_,_]) hs rfl rfl bg fun w hs=>?_);refine .nil (.ae (.o (.buildSlice (cells:=[_]) hs cQ rfl rfl fun D0 w hs=>?_)));refine .o (.alloc hs gX rfl fun b7 w hs=>?_);refine .o (.store hs rfl rfl aO fun w hs=>?_);refine .nil (.seq (.ae (.z (zfa aK) (.y hs (zls [_,_,_,_,_,_] bC aT) (.o (.call Yv rfl (fb (s:=s.sp) hs (h1.mono eC) (h2.mono eC) ⟨ai,ai⟩) ?_))))));rintro _ w ⟨H4,ba,eo,rfl,pF,hs⟩;have gU:=eC.trans eo;refine .nil (.block ?_);refine .rangeFunc (gf:=188) (cap:=[Pt ba]) (xs:=zI s.sp) (σb:=[.blk b7 [.slice (some ⟨D0,0,none⟩) 1 1],.blk D0 (Is [0]),.blk b6 [I s.sys.many,.slice al s.cJ.length cl],.blk b3 [.slice ah rows.length ch]]) (σf:=σ) (hs.sb) trivial rfl pF Yt (fun x hx=>by
     simp only [zI,List.mem_map] at hx;obtain ⟨j,_,rfl⟩:=hx;rfl) rfl
    (I:=fun p H' σb=>∃vo en,σb=[.blk b7 [vo],en,.blk b6 [I s.sys.many,.slice al s.cJ.length cl],.blk b3 [.slice ah rows.length ch]]∧cz 1 vo (Is (xl1 s (gt rows) (p+1))) en) (Ix:=fun _ _ _=>False)
    (fun j _ _ σ g1 g2=>g2) (fun _ _ _ _ _ h=>h) ⟨_,_,rfl,.full rfl⟩ ?_ ?_ (fun D c H' σb w _ h _=>h.elim)
   ·rintro ly p hp H5 vX vW w ek ⟨vo,en,rfl,hO⟩ hs ⟨rr,HF⟩;have Gn:p<s.sp.many:=by rw [dH] at hp;exact hp
    have gd:p/s.sp.wa.length<s.sp.st.length:=Nat.div_lt_of_lt_mul (by rw [Nat.mul_comm];exact Gn);have J5:=Nat.mod_lt p oa.2.2.1;have tD:hpt s.sp (gt rows) (p+1)=gi (gr rows (p/s.sp.wa.length)) (p%s.sp.wa.length):=rfl;have qh:=AR.row _ gd;have Sc:=AR.len;have VW:=hh.mono (gU.trans ek);rw [np hp];obtain ⟨ao,lo,co,rfl,w7⟩:=hO.shape;have wi:=nK s (gt rows) (p+1);generalize p/s.sp.wa.length=i at*;generalize p%s.sp.wa.length=k at*;refine .region (.o (.alloc hs oR rfl fun b8 w hs=>?_));refine .o (.aE (vs:=[_,_,_]) hs rfl rfl Am fun w hs=>?_);refine .nil (nT ⟨H5,[.blk b8 [I (i:Int),I (k:Int),I ((p+1:Nat):Int)],.blk b7 [.slice ao lo co],en,.blk b6 [I s.sys.many,.slice al s.cJ.length cl],.blk b3 [.slice ah rows.length ch]],HLe.refl _,hs,?_⟩);rintro w nr - hs;refine .block (.draw mix rfl hs fun w hs=>?_);refine .y 0 rfl hs an ?_;refine .z 1 rfl (zfa eO) ?_;refine .y 2 rfl hs vU ?_;refine .z 3 rfl (zfa cW) ?_;refine .y 4 rfl hs aj ?_;refine .ixT (i:=5) hs rfl az .none VW rfl rfl aF aO (show i<_ by omega) dG ?_;intro UU o35 a35 c35 yU Xs;refine .r (i:=6) hs rfl az .none (aR rfl an yU) ?_;refine .zw 7 rfl (zfa cV) ?_;refine .y 8 rfl hs aj ?_;refine .ixX (enc:=fun x=>[I x]) (i:=9) hs rfl az .none Xs rfl rfl af ak (bL (l:=(gr rows i)) (i:=k) ai) dG ?_;intro US o39 od;replace od:=bN.one od;refine .r (i:=10) hs rfl az .none (aR rfl aj od) ?_;refine .E 11 hs ?_;refine .buildSlice (cells:=[_]) hs cQ rfl rfl ?_;intro TB w hs;refine .go (.E 12 hs ?_);refine .append (ys:=Is [gi (gr rows i) k]) hs cI rfl rfl hO (.own (c:=Is [gi (gr rows i) k]) (by first|exact .here|exact .there .here) rfl rfl) (jC _) (fun l h=>by simp at h;omega) ?_;intro v42 en42 w eb hs;rw [←List.map_append,←tD,←Lz] at eb;obtain ⟨a42,l42,c42,rfl,h42⟩:=eb.shape;refine .go (.E 13 hs ?_);refine .store hs rfl rfl aO ?_;intro w hs;exact .go (.D hs (nB ⟨H5,[.blk b7 [.slice a42 l42 c42],en42,.blk b6 [I s.sys.many,.slice al s.cJ.length cl],.blk b3 [.slice ah rows.length ch]],HLe.refl _,(hs.sb:St H5 w (.blk b7 _::en42:: .blk b6 _:: .blk b3 _::nr)),_,_,rfl,eb⟩))
   ·rintro D H5 vX w ek ⟨vo,en,rfl,hO⟩ hs;rw [dH] at hO;replace hs:St H5 w (.obj D (.deferred (some [])):: .blk b7 [vo]::en:: .blk b6 [I s.sys.many,.slice al s.cJ.length cl]:: .blk b3 [.slice ah rows.length ch]::σ):=hs;obtain ⟨ao,lo,co,rfl,w7⟩:=hO.shape;have wi:=nK s (gt rows) (s.sp.many+1);have Sh:lo=s.sp.many+1:=by simp [Is] at w7;omega
    subst Sh;have ZJ:=hL.mono (eo.trans ek);have oD:=gU.trans ek;refine nB (nT (.seq (.ae (.y hs (zld an) (.z (de af) (.zn zg (.block ?_)))))));refine .loop (fun j:Nat=>⟨81,marks [D],[(9,I ((s.sp.many+1+j:Nat):Int)),(7,Pt b7),(6,Pt b6)]⟩)
     (fun j w=>j≤s.cC.length∧∃ax cx en,cz 1 (.slice ax (s.sp.many+1+j) cx) (Is (xl1 s (gt rows) (s.sp.many+1)++xl2 s (gt rows) j)) en∧St H5 w (.obj D (.deferred (some [])):: .blk b7 [.slice ax (s.sp.many+1+j) cx]::en:: .blk b6 [I s.sys.many,.slice al s.cJ.length cl]::σ)) (fun j=>s.cC.length - j) 0 aW
     ⟨Nat.zero_le _,_,_,_,by show cz 1 _ (Is (_++[])) _;rw [List.append_nil];exact hO,hs.sb⟩ ?_
    clear hs hO;rintro j w ⟨hj,ax,cx,en,hO,hs⟩;have R4:s.sys.many=((s.sp.many+s.cC.length:Nat):Int):=rfl;have QU:=Ap s (gt rows) j;have Gk:(xl1 s (gt rows) (s.sp.many+1)++xl2 s (gt rows) j).length=s.sp.many+1+j:=by rw [List.length_append,wi,QU]
    refine .seq (.ae (.z zm (.z (zfa bU) (.y hs (zld aj) (.zn sY (.cg rfl (fun pG=>?_) (fun pG=>?_)))))))
    ·refine .skip (nT (.seq (.block (.ae (.zn zg (.seq (.ae (.z (zfa bM) (.y hs (zld eL) (.z (de aU) (.zn zm (.for (N:=s.cJ.length) (J:=fun k fr w=>fr=[(10,I (zD (hpt s.sp (gt rows)) (s.sp.many+1+j:Nat) (s.cJ.take k))),(52,.slice al s.cJ.length cl),(9,I ((s.sp.many+1+j:Nat):Int)),(7,Pt b7),(6,Pt b6)]∧St H5 w (.obj D (.deferred (some [])):: .blk b7 [.slice ax (s.sp.many+1+j) cx]::en:: .blk b6 [I s.sys.many,.slice al s.cJ.length cl]::σ)) ai ?_ ?_ ?_))))))))))))
     ·exact .mk ⟨rfl,hs⟩
     ·rintro k fr w hk ⟨rfl,hs⟩;obtain ⟨l,hx⟩:=nth (l:=s.cJ) hk;have Q1:=List.mem_of_getElem? hx;obtain ⟨⟨gA,gB⟩,om⟩:=qf aJ.early Q1;have hM:=(J0 l Q1).2.2.2.1;obtain ⟨eB,hB⟩:∃b:Nat,l.B=b:=⟨_,(Int.toNat_of_nonneg gB).symm⟩;have ZQ:l.B.toNat=eB:=by rw [hB,Int.toNat_natCast]
      rw [ZQ] at om;have Ki:=EO (hpt s.sp (gt rows)) (s.sp.many+1+j:Nat) (s.cJ.take k);refine .block (.ae (.ixX (enc:=Lim.c) hs ZJ rfl rfl aU bO hx rfl ?_));intro ZX o56 PW;refine .q hs (bH (vs:=l.c) rfl kE bO PW) (.o (.alloc hs fQ rfl fun Fx w hs=>?_));refine .o (.aE (vs:=l.c) hs rfl rfl bO fun w hs=>?_);refine .nil (.ae (.z (zfa dR) (.y hs (zld aj) (.z zm (.zn ik (.cg rfl (fun yR=>?_) (fun yR=>?_)))))))
      ·refine .draw mix rfl hs fun w hs=>?_
       have hbB:=zF eB ai;obtain ⟨bo,co',sp,hv,rfl,yP⟩:=hO.blk (by rw [Gk];omega);simp only [Value.slice.injEq] at hv;obtain ⟨rfl,-,rfl⟩:=hv;have hgx:gi (xl1 s (gt rows) (s.sp.many+1)++xl2 s (gt rows) j) eB=hpt s.sp (gt rows) eB:=A9 s _ _ ai;refine .zw 0 rfl zm ?_;refine .y 1 rfl hs an ?_;refine .z 2 rfl (zfa ew) ?_;refine .y 3 rfl hs aj ?_;rw [hB];refine .zw 4 rfl (zix (j:=eB) af ak) (.load (i:=5) hs rfl az .none rfl aj ?_ (hv:=gz ai sp));rw [hgx];refine .zw 6 rfl (zfa fE) ?_;refine .y 7 rfl hs aj ?_;refine .z 8 rfl iX ?_;refine .z 9 rfl IJ ?_;refine .z 10 rfl zg ?_;refine .D hs ?_;exact nB (nT (.mk ⟨by rw [dA hx,yE,if_pos ai,ZQ],hs.sb⟩))
      ·exact .skip (nB (nT (.mk ⟨by rw [dA hx,yE,if_neg ai],hs.sb⟩)))
     ·rintro fr w ⟨rfl,hs⟩;rw [List.take_length];refine nT (.region (.y hs (zld an) (.z zm (.o (.buildSlice (cells:=[_]) hs cQ rfl rfl fun b75 w hs=>?_)))));refine .o (.append (ys:=Is [zD (hpt s.sp (gt rows)) (s.sp.many+1+j:Nat) s.cJ]) hs cI rfl rfl hO (.own .here rfl rfl) (jC _) (fun l h=>by simp only [Is,List.length_map,Gk] at h;omega) ?_);intro v76 en76 w eb hs;rw [←List.map_append,List.append_assoc,←Ly] at eb;obtain ⟨a76,c76,rfl⟩:=eb.p5;have YK:(xl1 s (gt rows) (s.sp.many+1)++xl2 s (gt rows) (j+1)).length=s.sp.many+1+(j+1):=by rw [List.length_append,wi,Ap]
      rw [YK] at eb ⊢;refine .o (.store hs rfl rfl aO fun w hs=>?_);exact .nil (nB (nT (.region (.z zm (.z cD (.zn zg (nT ⟨j+1,.dc rfl (by simp;omega) aW,⟨ai,_,_,_,eb,hs.sb⟩,ai⟩)))))))
    ·refine .exit (xT (xT (xB (nT (.seq (.ae (.y hs (zls [_,_] cf bg) (.y hs (zld an) ?_))))))));obtain rfl:j=s.cC.length:=by omega
     obtain ⟨H6,iw,hX,hs⟩:=cz.dT hO (by rw [Gk];omega) hs eJ;refine .o (.call call134 rfl (qH (s:=s.sys) hs ⟨_,rfl,ZJ.mono iw⟩ hX) ?_);rintro _ w ⟨e79,rfl,hP,hs⟩;have hn:=xY s;have N1:Lf s.sys (xl1 s (gt rows) (s.sp.many+1)++xl2 s (gt rows) s.cC.length)↔∃f,Kp s (gt rows) f:=by
      rw [←Lx aJ];refine ⟨fun h=>h.DN,fun h=>⟨by rw [Gk,hn];omega,by rw [A9 s _ _ ai];rfl,fun b hb=>?_,h⟩⟩;rw [hn] at hb;by_cases e:b<s.sp.many+1
      ·rw [A9 s _ _ e];have:=zF b ai;omega
      ·rw [show b=s.sp.many+1+(b - (s.sp.many+1)) by omega,FQ s _ ai];have g1:=EO (hpt s.sp (gt rows)) (s.sp.many+1+(b - (s.sp.many+1)):Nat) s.cJ;have g2:=Mw aJ AR (b - (s.sp.many+1));omega
     refine .zn ez (.dz rfl (fun SD=>?_) (fun SD=>?_))
     ·refine .ae (.zn zg (.ret (rT ((Fin.hZ [D] [] hs fun w hs=>⟨_,results1 results65 rfl,H6,_,oD.trans iw,rfl,.no aJ AR (fun h=>SD ?_),hs.out⟩)))))
      cases hP with
      |bad h=>exact (h (s.sys.cO.2 aJ.sys)).elim
      |off _ h1=>exact (h1 (N1.2 h)).elim
      |ok=>rfl
     ·refine .skip (nT (.ae (.zn zg (.ret (Fin.hZ [D] [] hs fun w hs=>⟨_,results1 results65 rfl,H6,_,oD.trans iw,rfl,.ok aJ AR (N1.1 ?_),hs.out⟩)))))
      cases hP with
      |bad h=>exact (h (s.sys.cO.2 aJ.sys)).elim
      |off _ h1=>omega
      |ok _ h1=>exact h1
def iC(q:Wht)(high:Bool)(n m:Int):Prop:=if high=true then m/q6 q≤n else n≤-m/q6 q
inductive xo(v:Srv)(q:Wht)(high:Bool)(n m:Int)(us:List Use):Int→Prop
 |bad {e:Int} (h:zJ v e) (he:e≠0):xo v q high n m us e
 |what (h:cR v) (h1:¬fO v.sp q):xo v q high n m us 33
 |prf (h:cR v) (h1:fO v.sp q) (h2:¬mQ v.sys (xF (v.w q) high) m us):xo v q high n m us 24
 |off (h:cR v) (h1:fO v.sp q) (h2:mQ v.sys (xF (v.w q) high) m us) (h3:¬iC q high n m):xo v q high n m us 36
 |ok (h:cR v) (h1:fO v.sp q) (h2:mQ v.sys (xF (v.w q) high) m us) (h3:iC q high n m):xo v q high n m us 0
theorem Ci{v:Srv}(h:cR v){q:Wht}(hq:fO v.sp q)(high:Bool):fm v.sys (xF (v.w q) high)=0:=by
 unfold xF;split
 ·exact h.ask hq
 ·rw [vQ];exact h.ask hq
theorem F7{v:Srv}(h:cR v){ws:List Int}{m:Int}{us:List Use}(hp:mQ v.sys ws m us): -4608000000000000000≤m∧m≤4608000000000000000:=by
 have h1:=GN h.sys hp.use;have h2:=hp.tot;have h3:=hp.bound;omega
theorem KY{v:Srv}{q:Wht}{n m:Int}(h:cR v)(hq:fO v.sp q){e:Int}(hp:D7 v.sys (xF (v.w q) high) m us e):(e≠0→e=24∧xo v q high n m us 24)∧(e=0→mQ v.sys (xF (v.w q) high) m us):=by
 cases hp with
 |ask h1=>exact (h1 (Ci h hq high)).elim
 |bad _ h1=>exact ⟨fun _=>⟨rfl,.prf h hq h1⟩,fun h=>by omega⟩
 |ok _ h1=>exact ⟨fun h=>(h rfl).elim,fun _=>h1⟩
theorem kZ{w:World}(hs:St H w σ)(hx: -3456000000000≤x∧x≤3456000000000):
  Z4 181 [I x] w fun v w'=>v=I (-x)∧St H w' σ:=by
 refine Cl.o func181 ntmps181 ag1 ?_;exact .ae (.zn zg (.ae (.z zm (.z G4 (.zn zg (.ret (Fin.bw results181 rfl ⟨rfl,hs.out⟩)))))))
theorem kY{w:World}(hs:St H w σ):
  Z4 182 [I x] w fun v w'=>v=I x∧St H w' σ:=by
 refine Cl.o func182 ntmps182 ag1 ?_;exact .ae (.zn zg (.ae (.z zm (.zn zg (.ret (Fin.bw results182 rfl ⟨rfl,hs.out⟩))))))
theorem KR(hx:L[k]? =some x):xF (L.take k) high++[if high then x else -x]=xF (L.take (k+1)) high:=by
 rw [dA hx];unfold xF zC;cases high<;>simp
theorem zc:(xF L high).length=L.length:=by unfold xF zC;split<;>simp
theorem fp{w:World}{m:Int}{ul:Value}(hs:St H w σ)(hR:RI H vw L)(hb:∀i,-3456000000000≤gi L i∧gi L i≤3456000000000)(hl:L.length≤1000):
  Z4 127 [.agg #[I m,ul,vw,I d],.bool high] w fun v w'=>∃H1,HLe H H1∧RI H1 v (xF L high)∧St H1 w' σ:=by
 obtain ⟨aw,cw,rfl⟩:=RI.shape hR;refine Cl.o func127 ntmps127 ag2 ?_;refine .ae (.bx hs fun b2 w hs=>?_);refine .zn zg (.ae (.zn zg (.cut (fun fs w=>∃f,mT fs ⟨25,[],[(5,.func (.func f) #[] #[]),(2,Pt b2)]⟩∧(∀args w,(callFunc f args).run Tryz.prog w= .ok (.enter f args) w)∧(∀{σ:List Ent} {w:World} {x:Int},St H w σ→-3456000000000≤x∧x≤3456000000000→Z4 f [I x] w fun v w'=>v=I (if high then x else -x)∧St H w' σ)∧St H w (.blk b2 [I m,ul,.slice aw L.length cw,I d]::σ)) ?_ ?_)))
 ·refine .ae (.zn zm (.cond rfl (fun mW=>?_) (fun mW=>?_)))
  ·refine .region (.zn zg (nT ?_));subst mW;exact ⟨182,aW,call182,fun hs hx=>(kY hs).mono fun v w' h=>h,hs⟩
  ·refine .skip (nT ?_);obtain rfl:high=false:=by simpa using mW
   exact ⟨181,aW,call181,fun hs hx=>(kZ hs hx).mono fun v w' h=>h,hs⟩
 ·clear hs;rintro fs w ⟨f,iR,hcf,AQ,hs⟩;refine WE.sub ?_ iR;clear iR;refine .ae (.zn zg (.seq (.ae (.z (zfa lk) (.y hs (zld an) (.z (de af) (.zn zm (.for (N:=L.length) (J:=fun k fr w=>∃vo en,fr=[(11,.slice aw L.length cw),(6,vo),(5,.func (.func f) #[] #[]),(2,Pt b2)]∧cz 1 vo (Is (xF (L.take k) high)) en∧St H w (en:: .blk b2 [I m,ul,.slice aw L.length cw,I d]::σ)) ai ?_ ?_ ?_))))))))
  ·exact .mk ⟨_,_,rfl,by have:xF (L.take 0) high=[]:=(by unfold xF zC;cases high<;>simp);rw [this];exact .nil 1 none,hs.nul⟩
  ·rintro k fr w hk ⟨vo,en,rfl,hO,hs⟩;obtain ⟨x,hx⟩:=nth hk;have Pr:=hb k;rw [show gi L k=x by simp [gi,List.getD,hx]] at Pr;refine .block (.ae (.ixX (enc:=fun x=>[I x]) hs hR rfl rfl af ak hx rfl ?_));intro Ch o15 gM;replace gM:=bN.one gM;refine .q hs (aR rfl aj gM) (.zn zg (.region (.z zm (.z zm (.z zm (.o (.qB (first:=[]) (cap:=[]) rfl rfl hcf (AQ hs Pr) ?_)))))));rintro _ w ⟨rfl,hs⟩;refine .o (.buildSlice (cells:=[_]) hs cQ rfl rfl fun X0 w hs=>?_);refine .o (.append (ys:=Is [if high then x else -x]) hs cI rfl rfl hO (.own .here rfl rfl) (jC _) (fun l h=>by simp [Is,zc] at h;omega) ?_);intro v22 en22 w eb hs;rw [←List.map_append,KR hx] at eb;exact .zn zg (nB (nT (.mk ⟨_,_,rfl,eb,hs.sb⟩)))
  ·rintro fr w ⟨vo,en,rfl,hO,hs⟩;rw [List.take_length] at hO;refine nT (.ae (.z zm (.zn zg (.ret (Fin.bw results127 rfl ?_)))));obtain ⟨H1,aq,hR1,hs⟩:=cz.dT hO (by rw [zc];omega) hs .here;exact ⟨H1,aq,hR1,hs.out⟩
set_option maxHeartbeats 1000000 in
theorem oz{w:World}{q:Wht}{n m:Int}(hs:St H w σ)(h1:RI H bV s.sp.st)(h2:RI H bS s.sp.wa)(h3:RRd H vr s.rs)(h4:RCm H vc s.cs)(hp:RPf H vp m us):
  Z4 139 [.agg #[I s.sp.id,I s.sp.src,bV,bS,I s.sp.al,I s.sp.up,vr,vc],.agg #[I q.kind,I q.st,I q.wa],.bool high,I n,vp] w fun u w'=>∃H1 e,HLe H H1∧u=I e∧xo s q high n m us e∧St H1 w' σ:=by
 obtain ⟨uu,rfl,hU⟩:=hp;obtain ⟨au,cu,rfl⟩:=RU.shape hU;refine Cl.o func139 ntmps139 ag5 ?_;refine .ae (.bx hs fun b5 w hs=>?_);refine .bx hs fun b6 w hs=>?_
 refine .bx hs fun b9 w hs=>?_
 refine .zn zg (.seq (.ae (.y hs (zls [_,_,_,_,_,_,_,_] aP aC) (.o (.call Ao rfl (dn (s:=s) hs h1 h2 h3 h4) ?_)))));rintro _ w ⟨H1,e,aq,rfl,hC,hs⟩;refine .zn zg (.ae (.z zm (.zn ez (.dz rfl (fun fW=>?_) (fun fW=>?_)))))
 ·exact .ae (.z zm (.zn zg (.ret (rT (Fin.bw m8 rfl ⟨H1,_,aq,rfl,.bad hC fW,hs.out⟩)))))
 ·refine .skip (nT (.ae (.y hs (zls [_,_,_,_,_,_,_,_] aP aC) (.y hs (zls [_,_,_] pS jt) ?_))));have aJ:cR s:=hC.cO.1 (by simpa using fW);refine .o (.call call177 rfl (oY (s:=s) (q:=q) hs (h1.mono aq) (h2.mono aq) (h3.mono aq) (h4.mono aq) aJ) ?_);rintro _ w ⟨H2,ul,vw,L,d,b,aQ,rfl,hL,hR,Qb,iV,hs⟩;have dr:=aq.trans aQ;obtain ⟨al,cl,rfl⟩:=RL.shape hL;obtain ⟨aw,cw,rfl⟩:=RI.shape hR;refine .z zm (.z zex (.z zex (.o (.alloc hs oS rfl fun Fx w hs=>?_))));refine .o (.aE (vs:=[_,_,_,_]) hs rfl rfl eQ fun w hs=>?_);refine .zn zg (.seq (.ae (.z zm (.zn ia (.cond rfl (fun pH=>?_) (fun pH=>?_))))))
  ·refine .ae (.zn zg (.ret (rT (Fin.bw m8 rfl ?_))));have hq:¬fO s.sp q:=by
    rcases iV with ⟨g,_⟩|⟨_,g⟩
    ·subst g;cases pH
    ·exact g
   exact ⟨H2,_,dr,rfl,.what aJ hq,hs.out⟩
  ·refine .skip (nT (.seq (.seq (.draw mix rfl hs fun w hs=>?_))));refine .zw 0 rfl (zfa gj) ?_;refine .ys 1 rfl hs [_,_] cf bg ?_;refine .ys 2 rfl hs [_,_,_,_] zM eQ ?_;refine .z 3 rfl zm ?_;refine .ys 5 rfl hs [_,_] fU ck ?_;refine .E 4 hs ?_;obtain ⟨rfl,hq,rfl,rfl⟩:b=true∧fO s.sp q∧L=s.w q∧d=q6 q:=iV.resolve_right fun h=>by rw [h.1] at pH;cases pH
   have Dm:=aJ.sys.n65;refine .call call127 rfl (fp (high:=high) hs hR (Bm aJ hq) ai) ?_;rintro _ w ⟨H3,bJ,Ae,hs⟩;have eC:=dr.trans bJ;refine .go (.E 6 hs ?_);refine .call call203 rfl (qG (s:=s.sys) (n:=m) (us:=us) hs ⟨_,rfl,hL.mono bJ⟩ Ae ⟨_,rfl,hU.mono eC⟩) ?_;rintro _ w ⟨H4,e34,eo,rfl,hP,hs⟩;have gU:=eC.trans eo;refine .go (.zw 7 rfl zg ?_);refine .D hs ?_;refine .ae (.z zm (.zn ez (.dz rfl (fun qk=>?_) (fun qk=>?_))))
   ·refine .ae (.z zm (.zn zg (.ret (rT (Fin.bw m8 rfl ?_)))));obtain ⟨rfl,h24⟩:=(KY (n:=n) aJ hq hP).1 qk;exact ⟨H4,_,gU,rfl,h24,hs.out⟩
   ·refine .skip (nT (.seq (.ae ?_)));have E9:=(KY (n:=n) aJ hq hP).2 (by simpa using qk);have zF:=F7 aJ E9;have Uw:=q5 q;refine .z zm (.z zm (.bif (t':=39) rfl (fun Kl=>?_) (fun Kl=>?_)))
    ·refine .T (.z (zfa gG) (.T (.y hs (zld aj) (.T (.z (zfa eV) (.T (.y hs (zld aj) (.T (.o (.call call132 rfl (fH hs ai ai) ?_))))))))));rintro _ w ⟨rfl,hs⟩;refine .T (.z zm (.T (.z nJ (.z zpT (.z zm (.iY (t':=48) rfl (fun P4=>?_) (fun P4=>?_)))))))
     ·refine .Fs 3 10 false (.Fs 8 13 true (.Fs 1 10 false (.zn zpT (.cT (.ae (.zn zg (.ret (rT (Fin.bw m8 rfl ?_)))))))));exact ⟨H4,_,gU,rfl,by
       first
        |exact .ok aJ hq E9 (by unfold iC;simp_all)
        |exact .off aJ hq E9 (by unfold iC;simp_all)
        |simp_all,hs.out⟩
     ·refine .T (.z zm (.T (.z ia (.T (.z zm (.bif (t':=51) rfl (fun Kk=>?_) (fun Kk=>?_)))))))
      ·refine .T (.z (zfa gG) (.T (.y hs (zld aj) (.T (.z G4 (.T (.z (zfa eV) (.T (.y hs (zld aj) (.T (.o (.call call132 rfl (fH hs ai ai) ?_))))))))))));rintro _ w ⟨rfl,hs⟩;refine .T (.z zm (.T (.z ju (.T (.z zpT (.zn zpF (.cg rfl (fun yR=>?_) (fun yR=>?_))))))))
       ·refine .ae (.zn zg (.ret (rT (Fin.bw m8 rfl ?_))));exact ⟨H4,_,gU,rfl,by
         first
          |exact .ok aJ hq E9 (by unfold iC;simp_all)
          |exact .off aJ hq E9 (by unfold iC;simp_all)
          |simp_all,hs.out⟩
       ·refine .skip (nT (.ae (.zn zg (.ret (Fin.bw m8 rfl ?_)))));exact ⟨H4,_,gU,rfl,by
         first
          |exact .ok aJ hq E9 (by unfold iC;simp_all)
          |exact .off aJ hq E9 (by unfold iC;simp_all)
          |simp_all,hs.out⟩
      ·refine .Fs 8 13 true (.T (.z zpF (.zn zpF (.cF (.skip (nT (.ae (.zn zg (.ret (Fin.bw m8 rfl ?_))))))))));exact ⟨H4,_,gU,rfl,by
        first
         |exact .ok aJ hq E9 (by unfold iC;simp_all)
         |exact .off aJ hq E9 (by unfold iC;simp_all)
         |simp_all,hs.out⟩
    ·refine .Fs 7 1 true (.z zpF (.z zm (.T (.z zm (.T (.z ia (.T (.z zm (.bif (t':=51) rfl (fun Kk=>?_) (fun Kk=>?_))))))))))
     ·refine .T (.z (zfa gG) (.T (.y hs (zld aj) (.T (.z G4 (.T (.z (zfa eV) (.T (.y hs (zld aj) (.T (.o (.call call132 rfl (fH hs ai ai) ?_))))))))))));rintro _ w ⟨rfl,hs⟩;refine .T (.z zm (.T (.z ju (.T (.z zpT (.zn zpF (.cg rfl (fun yR=>?_) (fun yR=>?_))))))))
      ·refine .ae (.zn zg (.ret (rT (Fin.bw m8 rfl ?_))));exact ⟨H4,_,gU,rfl,by
        first
         |exact .ok aJ hq E9 (by unfold iC;simp_all)
         |exact .off aJ hq E9 (by unfold iC;simp_all)
         |simp_all,hs.out⟩
      ·refine .skip (nT (.ae (.zn zg (.ret (Fin.bw m8 rfl ?_)))));exact ⟨H4,_,gU,rfl,by
        first
         |exact .ok aJ hq E9 (by unfold iC;simp_all)
         |exact .off aJ hq E9 (by unfold iC;simp_all)
         |simp_all,hs.out⟩
     ·refine .Fs 8 13 true (.T (.z zpF (.zn zpF (.cF (.skip (nT (.ae (.zn zg (.ret (Fin.bw m8 rfl ?_))))))))));exact ⟨H4,_,gU,rfl,by
       first
        |exact .ok aJ hq E9 (by unfold iC;simp_all)
        |exact .off aJ hq E9 (by unfold iC;simp_all)
        |simp_all,hs.out⟩
def rQ(s:Srv)(q:Wht)(high:Bool)(n:Int)(us:List Use):Prop:=mQ s.sys (xF (s.w q) high) n us∧pM s.sys (xF (s.w q) high) n 0
set_option maxHeartbeats 1000000 in
theorem tm{w:World}{q:Wht}(hs:St H w σ)(h1:RI H bV s.sp.st)(h2:RI H bS s.sp.wa)(h3:RRd H vr s.rs)(h4:RCm H vc s.cs):
  Z4 136 [.agg #[I s.sp.id,I s.sp.src,bV,bS,I s.sp.al,I s.sp.up,vr,vc],.agg #[I q.kind,I q.st,I q.wa],.bool high] w fun u w'=>∃H1 vp n us e,HLe H H1∧u= .tuple #[vp,I e]∧RPf H1 vp n us∧qR s q e∧(e≠0→n=0∧us=[])∧(e=0→rQ s q high n us)∧St H1 w' σ:=by
 refine Cl.o func136 ntmps136 ag3 ?_;refine .ae (.bx hs fun b3 w hs=>?_);refine .bx hs fun b4 w hs=>?_
 refine .o (.alloc hs iZ rfl fun b6 w hs=>?_);refine .zn zg (.ae (.y hs (zls [_,_,_,_,_,_,_,_] aP aC) (.y hs (zls [_,_,_] pS jt) (.o (.call call125 rfl (kh (s:=s) (q:=q) hs h1 h2 h3 h4) ?_)))));rintro _ w ⟨H1,m,ul,vw,d,e,aq,rfl,⟨al,ll,cl,rfl⟩,⟨aw,lw,cw,rfl⟩,hA,Kw,hs⟩;refine .z zm (.z zex (.z zex (.o (.alloc hs oS rfl fun b8 w hs=>?_))));refine .o (.aE (vs:=[_,_,_,_]) hs rfl rfl eQ fun w hs=>?_);refine .zn zg (.seq (.ae (.z zm (.zn ez (.dz rfl (fun iy=>?_) (fun iy=>?_))))))
 ·refine .ae (.z (zbd [_,_] iB) (.z zm (.o (.aE (vs:=[_,_]) hs rfl rfl ck fun w hs=>?_))));exact .zn zg (.ret (rT ((Fin.hZ [] [] hs fun w hs=>⟨_,results2 results136 (cN (vs:=[_,_]) hs rfl fU ck) rfl,H1,_,0,[],_,aq,rfl,⟨_,rfl,RS.nil H1 2 none 0⟩,hA,fun _=>⟨rfl,rfl⟩,fun h=>(iy h).elim,hs.out⟩))))
 ·refine .skip (nT (.seq (.draw mix rfl hs fun w hs=>?_)));refine .zw 0 rfl (zfa gj) ?_;refine .ys 1 rfl hs [_,_] cf bg ?_;refine .ys 2 rfl hs [_,_,_,_] zM eQ ?_;refine .z 3 rfl zm ?_;refine .E 4 hs ?_;obtain rfl:e=0:=by simpa using iy
  obtain ⟨rfl,hL,hR,rfl⟩:=Kw rfl;obtain ⟨aJ,hq,om⟩:=hA.zero;have Dm:=aJ.sys.n65;have Gl:=pZ s q;refine .call call127 rfl (fp (high:=high) hs hR (Bm aJ hq) ai) ?_;rintro _ w ⟨H2,aQ,Ae,hs⟩;refine .go (.E 5 hs ?_);refine .call call200 rfl (xe (s:=s.sys) hs ⟨_,rfl,hL.mono aQ⟩ Ae) ?_;rintro _ w ⟨H3,vp,n,us,f,bJ,rfl,hM,⟨uu,rfl,hU⟩,-,hF,hs⟩;obtain ⟨au,cu,rfl⟩:=RU.shape hU;obtain rfl:=qC (Ci aJ hq high) om (fun b=>s.both) hM;obtain ⟨hS,-,ts,UL,rfl,rfl⟩:=hF rfl;have eC:=aq.trans (aQ.trans bJ);refine .go (.zw 6 rfl zex ?_);refine .z 7 rfl zex ?_;refine .E 8 hs ?_;refine .aE (vs:=[_,_]) hs rfl rfl ck ?_;intro w hs;refine .go (.zw 9 rfl zg ?_);refine .D hs ?_;exact .ret (Fin.hZ [] [] hs fun w hs=>⟨_,results2 results136 (cN (vs:=[_,_]) hs rfl fU ck) rfl,H3,_,_,_,_,eC,rfl,⟨_,rfl,hU⟩,hA,fun h=>(h rfl).elim,fun _=>⟨Ic hS UL,hM⟩,hs.out⟩)
theorem qR.same{v:Srv}{q:Wht}(h:qR v q e)(g:A7 v q lo hi f):e=f:=by
 by_cases e0:e=0
 ·subst e0;obtain ⟨h1,h2,h3⟩:=h.zero
  cases g with
  |bad g ge=>exact (ge (g.cO.2 h1)).elim
  |what _ g=>exact (g h2).elim
  |fls _ _ g=>exact (g h3).elim
  |ok=>rfl
 ·exact ((h.qty e0).uniq g).2.2
theorem Bt{v:Srv}{q:Wht}(g:A7 v q lo hi 0):∃a b,lo=a/q6 q∧hi=b/q6 q∧cR v∧fO v.sp q∧gJ v.sys (v.w q) a b 0:=by
 generalize hz:(0:Int)=z at g
 cases g with
 |bad g ge=>exact (ge hz.symm).elim
 |what=>omega
 |fls=>omega
 |ok h1 h2 h3 h4=>exact ⟨_,_,rfl,rfl,h1,h2,h4⟩
theorem rQ.XO{v:Srv}{q:Wht}{n:Int}(h:rQ v q high n us)(g:A7 v q lo hi 0):xo v q high (if high=true then hi else lo) n us 0:=by
 obtain ⟨a,b,rfl,rfl,h1,h2,h3⟩:=Bt g;refine .ok h1 h2 h.1 ?_;have hm:=h.2;unfold xF at hm;unfold iC
 cases high with
 |true=>rw [if_pos rfl] at hm ⊢;rw [if_pos rfl,L7 h3 hm];exact Int.le_refl _
 |false=>
  rw [if_neg bB] at hm ⊢;rw [if_neg bB,L6 h3 hm,Int.neg_neg];exact Int.le_refl _
theorem rQ.bd{v:Srv}{q:Wht}{n:Int}(h0:e≠0→n=0∧us=[])(hA:qR v q e)(h:e=0→rQ v q high n us):us.length≤400∧-5000000000000000000≤n∧n≤5000000000000000000:=by
 by_cases e0:e=0
 ·subst e0;have h1:=F7 hA.zero.1 (h rfl).1;exact ⟨(h rfl).1.len,ai⟩
 ·obtain ⟨rfl,rfl⟩:=h0 e0;exact ⟨bB,ai⟩
set_option maxHeartbeats 2000000 in
theorem u4{w:World}{s:Spc}{x:List Int}(hs:St H w σ)(h1:RI H bV s.st)(h2:RI H bS s.wa)(hx:RI H vx x)(AQ:eZ s)(wi:s.many+1≤x.length):
  Z4 128 [.agg #[I s.id,I s.src,bV,bS,I s.al,I s.up],vx] w fun u w'=>∃H1 va,HLe H H1∧u= .agg #[va]∧RT H1 va (gK s x s.st.length)∧St H1 w' σ:=by
 have oa:=eG AQ;have hw:=oa.2.2.1;obtain ⟨gQ,gO,rfl⟩:=RI.shape h1;obtain ⟨gy,gw,rfl⟩:=RI.shape h2;obtain ⟨ax,cx,rfl⟩:=RI.shape hx;refine Cl.o func128 ntmps128 ag2 ?_;refine .ae (.bx hs fun b2 w hs=>?_);refine .bx hs fun b3 w hs=>?_
 refine .o (.alloc hs zB rfl fun b4 w hs=>?_);refine .nil (.ae (.o (.alloc hs zB rfl fun b5 w hs=>?_)));refine .nil (.seq (.ae (.y hs (zls [_,_,_,_,_,_] bC aT) (.o (.call Yv rfl (fb (s:=s) hs h1 h2 ⟨ai,ai⟩) ?_)))));rintro _ w ⟨H1,ba,aq,rfl,pF,hs⟩;replace hx:=hx.mono aq;refine .nil (.block ?_);refine .rangeFunc (gf:=188) (cap:=[Pt ba]) (xs:=zI s) (σb:=[.blk b5 [.slice none 0 0],.nul,.blk b4 [.slice none 0 0],.blk b3 [.slice ax x.length cx]]) (σf:=σ) (hs.nul.sb) trivial rfl pF Yt (fun x hx=>by
   simp only [zI,List.mem_map] at hx;obtain ⟨j,_,rfl⟩:=hx;rfl) rfl
  (I:=fun p H' σb=>∃va us en ens,σb= .blk b5 [va]::en:: .blk b4 [.slice none 0 0]:: .blk b3 [.slice ax x.length cx]::ens∧cz 1 va us en∧qO us (CX s x p) ens) (Ix:=fun _ _ _=>False)
  (fun j _ _ σ g1 g2=>g2) (fun _ _ _ _ _ h=>h) ⟨_,[],_,[],rfl,.nil 1 none,by rw [He];exact .nil⟩ ?_ ?_ (fun D c H' σb w _ h _=>h.elim)
 ·rintro ly p hp H5 vX vW w ek ⟨va,us,en,ens,rfl,hO,hR⟩ hs ⟨rr,HF⟩;have Gn:p<s.many:=by rw [dH] at hp;exact hp
  have gd:p/s.wa.length<s.st.length:=Nat.div_lt_of_lt_mul (by rw [Nat.mul_comm];exact Gn);have J5:=Nat.mod_lt p hw;have JY:=Hf s x p hw;have qh:=I3 s x p;have hRW:CX s x p=gK s x (p/s.wa.length)++if p%s.wa.length=0 then [] else [mA s x (p/s.wa.length) (p%s.wa.length)]:=rfl
  have hu:s.u (p/s.wa.length) (p%s.wa.length)=p+1:=by
   unfold Spc.u;have:=Nat.div_add_mod p s.wa.length;rw [Nat.mul_comm] at this;omega
  rw [hRW] at hR;have EW:us.length≤1001:=by
   have:=hR.length;rw [List.length_append,eA] at this;split at this<;>simp at this<;>omega
  rw [np hp];obtain ⟨aa,la,ca,rfl,PJ⟩:=hO.shape;have hx5:=hx.mono ek;generalize p/s.wa.length=i at*;generalize p%s.wa.length=k at*;refine .region (.o (.alloc hs oR rfl fun b6 w hs=>?_));refine .o (.aE (vs:=[_,_,_]) hs rfl rfl Am fun w hs=>?_);refine .nil (nT ⟨H5,.blk b6 [I (i:Int),I (k:Int),I ((p+1:Nat):Int)]:: .blk b5 [.slice aa la ca]::en:: .blk b4 [.slice none 0 0]:: .blk b3 [.slice ax x.length cx]::ens,HLe.refl _,hs,?_⟩);rintro w nr - hs;replace hs:St H5 w (.blk b6 [I (i:Int),I (k:Int),I ((p+1:Nat):Int)]:: .blk b5 [.slice aa la ca]::en:: .blk b4 [.slice none 0 0]:: .blk b3 [.slice ax x.length cx]::(ens++nr)):=hs;refine .block (.cut (fun fs w=>∃va us en ens,mT fs ⟨37,[],[(6,Pt b6),(5,Pt b5),(4,Pt b4),(3,Pt b3)]⟩∧cz 1 va us en∧qO us (gK s x i++[mA s x i k]) ens∧St H5 w (.blk b6 [I (i:Int),I (k:Int),I ((p+1:Nat):Int)]:: .blk b5 [va]::en:: .blk b4 [.slice none 0 0]:: .blk b3 [.slice ax x.length cx]::(ens++nr))) ?_ ?_)
  ·refine .ae (.z (zfa cV) (.y hs (zld aj) (.zn ik (.cg rfl (fun eT=>?_) (fun eT=>?_)))))
   ·refine .region (.z (zfa eO) (.y hs (zld vU) (.o (.buildSlice (cells:=[.slice none 0 0]) hs rM rfl rfl fun Ch w hs=>?_))));refine .o (.append (ys:=[.slice none 0 0]) hs mO rfl rfl hO (.own .here rfl rfl) (by simp [Value.oneCell']) (fun l h=>by omega) fun v16 en16 w kD hs=>?_);obtain ⟨a16,l16,c16,rfl,h16⟩:=kD.shape;refine .z (zfa eO) (.o (.store hs rfl rfl sizeOf62 fun w hs=>?_));refine .nil (nT ?_);obtain rfl:k=0:=by omega
    rw [if_pos rfl,List.append_nil] at hR;refine ⟨_,_,en16,ens++[.nul],aW,kD,hR.snoc (show cz 1 (.slice none 0 0) (Is (mA s x i 0)) .nul from .nil 1 none),?_⟩;replace hs:St H5 w (.blk b6 [I (i:Int),I ((0:Nat):Int),I ((p+1:Nat):Int)]:: .blk b5 [.slice a16 l16 c16]::en16:: .blk b4 [.slice none 0 0]:: .blk b3 [.slice ax x.length cx]::(ens++nr)):=hs.sb;replace hs:=hs.nul;rw [List.append_assoc];exact hs.perm (List.perm_middle (l₁:= .blk b6 _:: .blk b5 _::en16:: .blk b4 _:: .blk b3 _::ens) (l₂:=nr)).symm
   ·refine .skip (nT ?_);rw [if_neg ai] at hR;exact ⟨_,us,en,ens,aW,hO,hR,hs⟩
  ·clear hs hO hR;rintro fs w ⟨va,us,en,ens,iR,hO,hR,hs⟩;refine WE.sub ?_ iR;clear iR;have EW:=hR.length;rw [List.length_append,eA,List.length_singleton] at EW;obtain ⟨u,er,A,B,Iw,hOr,rfl,VA⟩:=hR.rowS qh
   rcases hO with ⟨_,_,h0,_⟩|⟨bo,lo,cap,sp,rfl,rfl,h5,h6,h7⟩
   ·exfalso;rw [h0] at EW;simp at EW
   obtain rfl:lo=i+1:=by omega
   obtain ⟨ar,cr,rfl⟩:=hOr.p5;rw [ic] at hOr Iw;rw [show (A++er::B)++nr=A++er::(B++nr) by simp] at hs;replace hs:St H5 w (er:: .blk b6 [I (i:Int),I (k:Int),I ((p+1:Nat):Int)]:: .blk b5 [.slice (some ⟨bo,0,none⟩) (i+1) cap]:: .blk bo (us++sp):: .blk b4 [.slice none 0 0]:: .blk b3 [.slice ax x.length cx]::(A++(B++nr))):=hs.perm (List.perm_middle (l₁:= .blk b6 _:: .blk b5 _:: .blk bo _:: .blk b4 _:: .blk b3 _::A) (l₂:=B++nr));have MH:(us++sp)[i]? =some (.slice ar k cr):=by rw [List.getElem?_append_left ai];exact Iw
   refine .draw mix rfl hs fun w hs=>?_
   refine .zw 0 rfl (zfa eO) ?_;refine .y 1 rfl hs vU ?_;refine .z 2 rfl (zfa cW) ?_;refine .y 3 rfl hs aj ?_;refine .z 4 rfl (zfa eO) ?_;refine .y 5 rfl hs vU ?_;refine .z 6 rfl (zfa cW) ?_;refine .y 7 rfl hs aj ?_;refine .z 8 rfl (zix (j:=i) aF aO) ?_;refine .load (i:=9) hs rfl az .none rfl an ?_ (hv:=MH);refine .y 10 rfl hs an ?_;refine .z 11 rfl (zfa dY) ?_;refine .y 12 rfl hs aj ?_;refine .ixX (enc:=fun x=>[I x]) (i:=13) hs rfl az .none hx5 rfl rfl af ak (bL (l:=x) (i:=(p+1)) ai) dG ?_;intro Lt o31 ql;replace ql:=bN.one ql;refine .r (i:=14) hs rfl az .none (aR rfl aj ql) ?_;refine .E 15 hs ?_;refine .buildSlice (cells:=[_]) hs cQ rfl rfl ?_;intro XU w hs;refine .go (.E 16 hs ?_);refine .append (ys:=Is [gi x (p+1)]) hs cI rfl rfl hOr (.own .here rfl rfl) (jC _) (fun l h=>by simp [ic] at h;omega) ?_;intro v34 en34 w eb hs;rw [←List.map_append,←hu,←AF] at eb;obtain ⟨a34,c34,rfl⟩:=eb.p5;rw [ic] at eb ⊢;have ZD:=VA _ _ _ eb;rw [JY] at ZD;refine .go (.zw 17 rfl (zix (j:=i) aF aO) (.E 18 hs ?_));refine .store (c':=us.set i (.slice a34 (k+1) c34)++sp) hs rfl rfl aO ?_ eJ (Nat.ble_eq_true_of_le (by rw [List.length_append];omega)) (by rw [List.set_append_left _ _ ai]);intro w hs;refine .go (.D hs (nB ⟨H5,.blk b5 [.slice (some ⟨bo,0,none⟩) (i+1) cap]:: .blk bo (us.set i (.slice a34 (k+1) c34)++sp):: .blk b4 [.slice none 0 0]:: .blk b3 [.slice ax x.length cx]::(A++en34::B),HLe.refl _,?_,_,_,_,_,rfl,.inr ⟨bo,i+1,cap,sp,rfl,rfl,by rw [List.length_set];omega,by rw [List.length_append,List.length_set,←List.length_append];exact h6,h7⟩,ZD⟩));replace hs:St H5 w (en34:: .blk b5 [.slice (some ⟨bo,0,none⟩) (i+1) cap]:: .blk bo (us.set i (.slice a34 (k+1) c34)++sp):: .blk b4 [.slice none 0 0]:: .blk b3 [.slice ax x.length cx]::(A++(B++nr))):=hs.sb;replace hs:=hs.perm (List.perm_middle (l₁:= .blk b5 _:: .blk bo _:: .blk b4 _:: .blk b3 _::A) (l₂:=B++nr)).symm;rw [show (.blk b5 [.slice (some ⟨bo,0,none⟩) (i+1) cap]:: .blk bo (us.set i (.slice a34 (k+1) c34)++sp):: .blk b4 [.slice none 0 0]:: .blk b3 [.slice ax x.length cx]::(A++en34::B))++nr=(.blk b5 [.slice (some ⟨bo,0,none⟩) (i+1) cap]:: .blk bo (us.set i (.slice a34 (k+1) c34)++sp):: .blk b4 [.slice none 0 0]:: .blk b3 [.slice ax x.length cx]::A)++en34::(B++nr) by simp];exact hs
 ·rintro D H5 vX w ek ⟨va,us,en,ens,rfl,hO,hR⟩ hs;rw [dH,Hg s x hw] at hR;replace hs:St H5 w (.obj D (.deferred (some [])):: .blk b5 [va]::en:: .blk b4 [.slice none 0 0]:: .blk b3 [.slice ax x.length cx]::(ens++σ)):=hs;have EW:=hR.length;rw [eA] at EW;obtain ⟨aa,la,ca,rfl,PJ⟩:=hO.shape;refine nB (nT (.ae (.y hs (zls [_] oU fA) (.o (.aE (vs:=[_]) hs rfl rfl fA fun w hs=>?_)))));refine .nil (.ret ?_);replace hs:St H5 w (ens++(.obj D (.deferred (some [])):: .blk b5 [.slice aa la ca]::en:: .blk b4 [.slice aa la ca]:: .blk b3 [.slice ax x.length cx]::σ)):=(show St H5 w ([.obj D (.deferred (some [])),.blk b5 [.slice aa la ca],en,.blk b4 [.slice aa la ca],.blk b3 [.slice ax x.length cx]]++(ens++σ)) from hs).perm (List.perm_append_comm_assoc _ ens σ);obtain ⟨H6,iw,Th,hs⟩:=hR.bZ (fun r hr=>by
   obtain ⟨j,hj⟩:=List.getElem?_of_mem hr;have wy:=(List.getElem?_eq_some_iff.1 hj).1;rw [eA] at wy;rw [ye wy] at hj;obtain rfl:=Option.some.inj hj;rw [ic];omega) hs
  obtain ⟨H7,kP,AS,hs⟩:=Th.bZ hO ai hs (.there (.there .here));exact Fin.hZ [D] [] hs fun w hs=>⟨_,results1 results128 (cN (vs:=[_]) hs rfl oU fA),H7,_,aq.trans (ek.trans (iw.trans kP)),rfl,AS,hs.out⟩
set_option maxHeartbeats 1000000 in
theorem sw{w:World}{q:Wht}(hs:St H w σ)(h1:RI H bV s.sp.st)(h2:RI H bS s.sp.wa)(h3:RRd H vr s.rs)(h4:RCm H vc s.cs):
  Z4 63 [.agg #[I s.sp.id,I s.sp.src,bV,bS,I s.sp.al,I s.sp.up,vr,vc],.agg #[I q.kind,I q.st,I q.wa],.bool high] w fun u w'=>∃H1 vh rows e,HLe H H1∧u= .tuple #[.agg #[vh],I e]∧RT H1 vh rows∧qR s q e∧(e≠0→rows=[])∧(e=0→∃x,FH s.sys (xF (s.w q) high) x∧rows=gK s.sp x s.sp.st.length)∧St H1 w' σ:=by
 refine Cl.o func63 ntmps63 ag3 ?_;refine .ae (.bx hs fun b3 w hs=>?_);refine .bx hs fun b4 w hs=>?_
 refine .o (.alloc hs zB rfl fun b6 w hs=>?_);refine .zn zg (.ae (.y hs (zls [_,_,_,_,_,_,_,_] aP aC) (.y hs (zls [_,_,_] pS jt) (.o (.call call125 rfl (kh (s:=s) (q:=q) hs h1 h2 h3 h4) ?_)))));rintro _ w ⟨H1,m,ul,vw,d,e,aq,rfl,⟨al,ll,cl,rfl⟩,⟨aw,lw,cw,rfl⟩,hA,Kw,hs⟩;refine .z zm (.z zex (.z zex (.o (.alloc hs oS rfl fun b8 w hs=>?_))));refine .o (.aE (vs:=[_,_,_,_]) hs rfl rfl eQ fun w hs=>?_);refine .zn zg (.seq (.ae (.z zm (.zn ez (.dz rfl (fun fW=>?_) (fun fW=>?_))))))
 ·refine .ae (.z (zbd [_] qK) (.z zm (.o (.aE (vs:=[_]) hs rfl rfl fA fun w hs=>?_))));exact .zn zg (.ret (rT ((Fin.hZ [] [] hs fun w hs=>⟨_,results2 results63 (cN (vs:=[_]) hs rfl oU fA) rfl,H1,_,[],_,aq,rfl,RT.nil _,hA,fun _=>rfl,fun h=>(fW h).elim,hs.out⟩))))
 ·refine .skip (nT (.seq (.draw mix rfl hs fun w hs=>?_)));refine .zw 0 rfl (zfa gj) ?_;refine .ys 1 rfl hs [_,_] cf bg ?_;refine .ys 2 rfl hs [_,_,_,_] zM eQ ?_;refine .z 3 rfl zm ?_;refine .E 4 hs ?_;obtain rfl:e=0:=by simpa using fW
  obtain ⟨rfl,hL,hR,rfl⟩:=Kw rfl;obtain ⟨aJ,hq,om⟩:=hA.zero;have Dm:=aJ.sys.n65;have Gl:=pZ s q;refine .call call127 rfl (fp (high:=high) hs hR (Bm aJ hq) ai) ?_;rintro _ w ⟨H2,aQ,Ae,hs⟩;refine .go (.E 5 hs ?_);refine .call call126 rfl (zh (s:=s.sys) hs ⟨_,rfl,hL.mono aQ⟩ Ae) ?_;rintro _ w ⟨H3,vx,x,f,bJ,rfl,hF,hX,-,hB,hs⟩;obtain ⟨ax,cx,rfl⟩:=RI.shape hX;obtain rfl:=Fu (Ci aJ hq high) om (fun b=>s.both) hF;have ZP:=hB rfl;have eC:=aq.trans (aQ.trans bJ);refine .go (.zw 6 rfl zm ?_);refine .z 7 rfl zex ?_;refine .z 8 rfl zex ?_;refine .z 9 rfl zg ?_;refine .z 10 rfl zg ?_;refine .D hs ?_;refine .seq (.ae (.z zm (.zn ez (.dz rfl (fun ql=>?_) (fun ql=>?_)))))
  ·refine .ae (.z (zbd [_] qK) (.z zm (.o (.aE (vs:=[_]) hs rfl rfl fA fun w hs=>?_))));exact .zn zg (.ret (rT (((ql rfl).elim))))
  ·refine .skip (nT (.ae (.z (zfa aK) (.y hs (zls [_,_,_,_,_,_] bC aT) (.z zm (.o (.call call128 rfl (u4 (s:=s.sp) hs (h1.mono eC) (h2.mono eC) hX aJ.early.1 (by rw [ZP.len,xY];omega)) ?_)))))));rintro _ w ⟨H4,va,eo,rfl,hT,hs⟩;obtain ⟨aa,ca,rfl⟩:=hT.shape;refine .o (.aE (vs:=[_]) hs rfl rfl fA fun w hs=>?_);exact .zn zg (.ret (Fin.hZ [] [] hs fun w hs=>⟨_,results2 results63 (cN (vs:=[_]) hs rfl oU fA) rfl,H4,_,_,_,eC.trans eo,rfl,hT,hA,fun h=>(h rfl).elim,fun _=>⟨x,ZP,rfl⟩,hs.out⟩))
theorem Qu{q:Wht}{x:List Int}(g:A7 s q lo hi 0)(hB:FH s.sys (xF (s.w q) high) x):
  qP s.sp (gK s.sp x s.sp.st.length) q (if high=true then hi else lo) 0∧Im s (gK s.sp x s.sp.st.length) 0:=by
 obtain ⟨a,b,rfl,rfl,aJ,hq,hR⟩:=Bt g;obtain ⟨hH,hK,VH⟩:=K5 aJ hB.zero hB.DN q;refine ⟨?_,.ok aJ hH hK⟩;have h:=qP.ok aJ.early.1 hH hq;rw [VH] at h;unfold xF at hB
 cases high with
 |true=>rw [if_pos rfl] at hB ⊢;rw [Qt hR hB] at h;exact h
 |false=>rw [if_neg bB] at hB ⊢;rw [Qs hR hB] at h;exact h
theorem zR{w:World}{sl pk:List Int}{Ib:List F5}{Kz:List F4}{z1 z2 z3:Int}(hs:St H w σ)(g1:RI H vs sl)(g2:RF5 H v5 Ib)(g3:RF4 H v4 Kz)(g4:RI H vp pk):
  Z4 31 [.agg #[vs,v5,v4,vp,I z1,I z2,I z3]] w fun u w'=>∃H1 s y bV bS vr vc vy,HLe H H1∧u= .tuple #[.agg #[I s.sp.id,I s.sp.src,bV,bS,I s.sp.al,I s.sp.up,vr,vc],vy]∧Nr s∧mb s y∧RI H1 bV s.sp.st∧RI H1 bS s.sp.wa∧RRd H1 vr s.rs∧RCm H1 vc s.cs∧RI H1 vy y∧St H1 w' σ:=by
 refine (zS hs g1 g2 g3 g4).mono ?_;rintro _ w ⟨H3,m,y,ust,uwa,ur,uc,uy,e1,e2,e3,e4,e5,bJ,rfl,hM,hOV,UH,hK,hs⟩;have Px:=hM.st;have hwa3:=hM.wa;have Iz:=hM.rs;have hmc:=hM.cs;obtain ⟨H4,eo,r1,r2,r3,r4,hs,-⟩:=Nq.EU hOV ai ai ai ai hs;obtain ⟨rI,-,hyb⟩:=hK.bd;have YY:=hM.ok.many;obtain ⟨H5,ek,hY,hs⟩:=cz.dT UH ai hs .here;exact ⟨H5,m,y,_,_,_,_,_,bJ.trans (eo.trans ek),rfl,hM,hK,r1.mono ek,r2.mono ek,r3.mono ek,r4.mono ek,hY,hs⟩
theorem zP{w:World}{s:Spc}{x:List Int}(hs:St H w σ)(h1:RI H bV s.st)(h2:RI H bS s.wa)(hx:RI H vx x)(CB:s.st.length≤1000)(zG:s.wa.length≤1000)(wi:s.many+1≤x.length):
  Z4 34 [.agg #[I s.id,I s.src,bV,bS,I s.al,I s.up],vx] w fun u w'=>∃H1 va,HLe H H1∧u= .agg #[va]∧RT H1 va (gK s x s.st.length)∧St H1 w' σ:=by
 refine (zQ hs h1 h2 hx CB zG wi).mono ?_;rintro _ w ⟨va,us,en,ens,rfl,hO,hR,hs⟩;have EW:=hR.length;rw [eA] at EW;replace hs:St H w (ens++(en::σ)):=hs.perm List.perm_middle.symm;obtain ⟨H6,iw,Th,hs⟩:=hR.bZ (fun r hr=>by
  obtain ⟨j,hj⟩:=List.getElem?_of_mem hr;have wy:=(List.getElem?_eq_some_iff.1 hj).1;rw [eA] at wy;rw [ye wy] at hj;obtain rfl:=Option.some.inj hj;rw [ic];omega) hs
 obtain ⟨H7,kP,AS,hs⟩:=Th.bZ hO ai hs .here;exact ⟨H7,_,iw.trans kP,rfl,AS,hs⟩
theorem MD{y:List Int}(aJ:cR s)(h:mb s y){q:Wht}{lo hi:Int}(hB:A7 s q lo hi 0):lo≤fL s.sp q (gK s.sp y s.sp.st.length) s.sp.many/q6 q∧fL s.sp q (gK s.sp y s.sp.st.length) s.sp.many/q6 q≤hi:=by
 obtain ⟨a,b,rfl,rfl,_,_,hR⟩:=Bt hB;have hd:=q5 q;have:=Pk aJ h hR;exact ⟨Int.ediv_le_ediv ai this.1,Int.ediv_le_ediv ai this.2⟩
theorem Fo{q:Wht}{n m:Int}(h:xo s q high n m us 0)(hB:A7 s q lo hi 0):if high=true then hi≤n else n≤lo:=by
 obtain ⟨a,b,rfl,rfl,aJ,_,hR⟩:=Bt hB;have hd:=q5 q;obtain ⟨⟨p1,f1,rfl⟩,⟨p2,f2,rfl⟩,_⟩:=hR.ends;generalize hz:(0:Int)=z at h
 cases h with
 |bad _ he=>exact (he hz.symm).elim
 |what=>omega
 |prf=>omega
 |off=>omega
 |ok _ _ hP hC=>
  unfold xF at hP;unfold iC at hC
  cases high with
  |true=>
   rw [if_pos rfl] at hP hC ⊢;exact Int.le_trans (Int.ediv_le_ediv ai (AL aJ.sys hP f2)) hC
  |false=>
   rw [if_neg bB] at hP hC ⊢;have h1:=AL aJ.sys hP f1;rw [qS] at h1;exact Int.le_trans hC (Int.ediv_le_ediv ai ai)
end Go.Proofs.YteajddicacjkhaaGreat
