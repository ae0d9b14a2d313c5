/-
  Texts of these claims, joined: Ze Zf Zg Zh Zi Zj Zk Zl Zm Zn Zo Zp Zt Zv Zx Zy Zz Na.
-/
import Derived.Test.YteajddicacjkhaaGreatGc
namespace Go.Proofs.YteajddicacjkhaaGreat
open Go.MW
variable{H:bV}{w:World}{σ:List Ent}
theorem bK{a0 a1 a2:Int}(hs:St H w σ):Cl Tryz.prog 164 [I a0,I a1,I a2] w fun v w'=>v= .bool (decide (a1≤a0∧a0≤a2))∧St H w' σ:=by
 refine Cl.o Tryz.func164 Tryz.ntmps164 ag3 ?_
 refine .aj (.zn zg (.aj (.z zm (.z zm (.z nb (.z zm (.ie (t':=10) rfl (fun hb10=>?_) (fun hb10=>?_))))))))
 ·refine .T (.z zm (.T (.z zm (.T (.z nb (.z zpT (.zn zg (.ret (Fin.bq Tryz.results164 rfl ?_)))))))))
  exact ⟨by simp [*],hs.out⟩
 ·refine .Fs 3 3 true (.z zpF (.zn zg (.ret (Fin.bq Tryz.results164 rfl ?_))))
  exact ⟨by simp [*],hs.out⟩
theorem iO{a0:Int}(hs:St H w σ):Cl Tryz.prog 165 [I a0] w fun v w'=>v= .bool (decide (1≤a0∧a0≤99999))∧St H w' σ:=by
 refine Cl.o Tryz.func165 Tryz.ntmps165 ag1 ?_
 refine .aj (.zn zg (.aj (.z zm (.o (.call dP rfl (bK hs) ?_)))));rintro _ w ⟨rfl,hs⟩
 refine .zn zg (.ret (Fin.bq Tryz.results165 rfl ?_))
 exact ⟨rfl,hs⟩
theorem jS{s:Spc}{vst vwa:Value}(hs:St H w σ)(h1:RI H vst s.st)(h2:RI H vwa s.wa):
  Cl Tryz.prog 111 [.agg #[I s.id,I s.src,vst,vwa,I s.al,I s.up]] w fun v w'=>∃H1 e,HLe H H1∧v=I e∧((eY s∧e=0)∨(¬eY s∧e=30))∧St H1 w' σ:=by
 obtain ⟨ast,cst,rfl⟩:=RI.shape h1
 obtain ⟨awa,cwa,rfl⟩:=RI.shape h2
 refine Cl.o Tryz.func111 Tryz.ntmps111 ag1 ?_
 refine .aj (.bx hs fun b1 w hs=>?_)
 refine .zn zg (.seq (.aj (.z (zfa bI) (.y hs (zld an) (.z (zfa a8) (.y hs (zld an) (.o (.call Tryz.call163 rfl (oy hs h1 h2) ?_))))))));rintro _ w ⟨H1,vo,e,hle1,rfl,hG,hG',hs⟩
 refine .z zm (.z zex (.z zex (.z zg (.zn zg (.aj (.z zm (.z hZ (.z zm (.CE (t':=15) rfl (fun hb15=>?_) (fun hb15=>?_))))))))))
 ·refine .Fs 4 2 false (.z zpT (.z zm (.Fs 4 8 false (.z zpT (.z zm (.Fs 5 14 false (.z zpT (.z zm (.Fs 5 21 false (.zn zpT (.cT (.aj (.zn zg (.ret (rT (Fin.bq uE rfl ?_))))))))))))))))
  exact ⟨H1,_,hle1,rfl,.inr ⟨fun h=>by have:=(hG ⟨h.st,h.wa⟩).1;simp_all,rfl⟩,hs.out⟩
 ·refine .T (.z (zfa mG) (.T (.y hs (zld ae) (.T (.o (.call dP rfl (bK hs) ?_))))));rintro _ w ⟨rfl,hs⟩
  refine .T (.z fI (.z zpF (.z zm (.bif (t':=21) rfl (fun hb21=>?_) (fun hb21=>?_)))))
  ·refine .Fs 4 8 false (.z zpT (.z zm (.Fs 5 14 false (.z zpT (.z zm (.Fs 5 21 false (.zn zpT (.cT (.aj (.zn zg (.ret (rT (Fin.bq uE rfl ?_)))))))))))))
   exact ⟨H1,_,hle1,rfl,.inr ⟨fun h=>by have:=h.id;simp_all,rfl⟩,hs.out⟩
  ·refine .T (.z (zfa dR) (.T (.y hs (zld ae) (.T (.o (.call Tryz.call165 rfl (iO hs) ?_))))));rintro _ w ⟨rfl,hs⟩
   refine .T (.z fI (.z zpF (.z zm (.bif (t':=27) rfl (fun hb27=>?_) (fun hb27=>?_)))))
   ·refine .Fs 5 14 false (.z zpT (.z zm (.Fs 5 21 false (.zn zpT (.cT (.aj (.zn zg (.ret (rT (Fin.bq uE rfl ?_))))))))))
    exact ⟨H1,_,hle1,rfl,.inr ⟨fun h=>by have:=h.src;simp_all,rfl⟩,hs.out⟩
   ·refine .T (.z (zfa ef) (.T (.z (zfa jW) (.T (.y hs (zld ae) (.T (.o (.call dP rfl (bK hs) ?_))))))));rintro _ w ⟨rfl,hs⟩
    refine .T (.z fI (.z zpF (.z zm (.bif (t':=34) rfl (fun hb34=>?_) (fun hb34=>?_)))))
    ·refine .Fs 5 21 false (.zn zpT (.cT (.aj (.zn zg (.ret (rT (Fin.bq uE rfl ?_)))))))
     exact ⟨H1,_,hle1,rfl,.inr ⟨fun h=>by have:=h.al;simp_all,rfl⟩,hs.out⟩
    ·refine .T (.z (zfa ef) (.T (.z (zfa jV) (.T (.y hs (zld ae) (.T (.o (.call dP rfl (bK hs) ?_))))))));rintro _ w ⟨rfl,hs⟩
     refine .T (.z fI (.zn zpF (.cond rfl (fun hc40=>?_) (fun hc40=>?_))))
     ·refine .aj (.zn zg (.ret (rT (Fin.bq uE rfl ?_))))
      exact ⟨H1,_,hle1,rfl,.inr ⟨fun h=>by have:=h.up;simp_all,rfl⟩,hs.out⟩
     ·refine .skip (nT (.aj (.zn zg (.ret (Fin.bq uE rfl ?_)))))
      have hg:=hG' (by simp_all)
      exact ⟨H1,_,hle1,rfl,.inl ⟨⟨hg.1,hg.2,by simp_all,by simp_all,by simp_all,by simp_all⟩,rfl⟩,hs.out⟩
theorem nW{s:Spc}{r:Rdg}{vst vwa:Value}(hs:St H w σ)(h1:RI H vst s.st)(h2:RI H vwa s.wa):
  Cl Tryz.prog 120 [.agg #[I s.id,I s.src,vst,vwa,I s.al,I s.up],.agg #[I r.src,I r.st,I r.wa,I r.val,I r.tol,I r.tape,I r.day]] w fun v w'=>∃b:Bool,v= .bool b∧(b=true↔na s r)∧St H w' σ:=by
 obtain ⟨ast,cst,rfl⟩:=RI.shape h1
 obtain ⟨awa,cwa,rfl⟩:=RI.shape h2
 have l1:=(RI.len h1).2.2
 have l2:=(RI.len h2).2.2
 refine Cl.o Tryz.func120 Tryz.ntmps120 ag2 ?_
 refine .aj (.bx hs fun b2 w hs=>?_)
 refine .bx hs fun b3 w hs=>?_
 refine .zn zg (.aj (.z (zfa eQ) (.y hs (zld ae) (.o (.call Tryz.call165 rfl (iO hs) ?_)))));rintro _ w ⟨rfl,hs⟩
 refine .z zm (.bif (t':=8) rfl (fun hb8=>?_) (fun hb8=>?_))
 ·refine .T ?_
  refine .z (zfa gg) (.T (.y hs (zld ae) (.T (.z (zfa bI) (.T (.y hs (zld an) (.T (.z (da af) (.T (.z fM (.T (.o (.call dP rfl (bK hs) ?_)))))))))))));rintro _ w ⟨rfl,hs⟩
  refine .z zpT (.z zm (.bif (t':=17) rfl (fun hb17=>?_) (fun hb17=>?_)))
  ·refine .T ?_
   refine .z (zfa gd) (.T (.y hs (zld ae) (.T (.z (zfa a8) (.T (.y hs (zld an) (.T (.z (da af) (.T (.z fM (.T (.o (.call dP rfl (bK hs) ?_)))))))))))));rintro _ w ⟨rfl,hs⟩
   refine .z zpT (.z zm (.bif (t':=26) rfl (fun hb26=>?_) (fun hb26=>?_)))
   ·refine .T (.z (zfa di) (.T (.y hs (zld ae) (.T (.o (.call dP rfl (bK hs) ?_))))));rintro _ w ⟨rfl,hs⟩
    refine .z zpT (.z zm (.bif (t':=31) rfl (fun hb31=>?_) (fun hb31=>?_)))
    ·refine .T (.z (zfa du) (.T (.y hs (zld ae) (.T (.z (zfa di) (.T (.y hs (zld ae) (.T ?_))))))))
     have ht:0≤r.tol∧r.tol≤1000:=by simp_all
     refine .z fM (.T (.o (.call dP rfl (bK hs) ?_)));rintro _ w ⟨rfl,hs⟩
     refine .z zpT (.z zm (.bif (t':=39) rfl (fun hb39=>?_) (fun hb39=>?_)))
     ·refine .T (.z (zfa eP) (.T (.y hs (zld ae) (.T (.o (.call dP rfl (bK hs) ?_))))));rintro _ w ⟨rfl,hs⟩
      refine .z zpT (.z zm (.bif (t':=44) rfl (fun hb44=>?_) (fun hb44=>?_)))
      ·refine .T (.z (zfa eO) (.T (.y hs (zld ae) (.T (.o (.call dP rfl (bK hs) ?_))))));rintro _ w ⟨rfl,hs⟩
       refine .z zpT (.zn zg (.ret (Fin.bq nO rfl ?_)))
       first
       |exact ⟨false,rfl,⟨fun h=>(by cases h),fun h=>(by obtain ⟨g1,g2,g3,g4,g5,g6,g7⟩:=h;simp_all;done)⟩,hs.out⟩
       |exact ⟨_,rfl,⟨fun h=>⟨by simp_all,by simp_all,by simp_all,by simp_all,by simp_all,by simp_all,by simpa using h⟩,fun h=>by simpa using h.day⟩,hs.out⟩
      ·refine .Fs 3 39 true (.z zpF (.zn zg (.ret (Fin.bq nO rfl ?_))))
       first
       |exact ⟨false,rfl,⟨fun h=>(by cases h),fun h=>(by obtain ⟨g1,g2,g3,g4,g5,g6,g7⟩:=h;simp_all;done)⟩,hs.out⟩
       |exact ⟨_,rfl,⟨fun h=>⟨by simp_all,by simp_all,by simp_all,by simp_all,by simp_all,by simp_all,by simpa using h⟩,fun h=>by simpa using h.day⟩,hs.out⟩
     ·refine .Fs 3 34 true (.z zpF (.z zm (.Fs 3 39 true (.z zpF (.zn zg (.ret (Fin.bq nO rfl ?_)))))))
      first
      |exact ⟨false,rfl,⟨fun h=>(by cases h),fun h=>(by obtain ⟨g1,g2,g3,g4,g5,g6,g7⟩:=h;simp_all;done)⟩,hs.out⟩
      |exact ⟨_,rfl,⟨fun h=>⟨by simp_all,by simp_all,by simp_all,by simp_all,by simp_all,by simp_all,by simpa using h⟩,fun h=>by simpa using h.day⟩,hs.out⟩
    ·refine .Fs 6 26 true (.z zpF (.z zm (.Fs 3 34 true (.z zpF (.z zm (.Fs 3 39 true (.z zpF (.zn zg (.ret (Fin.bq nO rfl ?_))))))))))
     first
     |exact ⟨false,rfl,⟨fun h=>(by cases h),fun h=>(by obtain ⟨g1,g2,g3,g4,g5,g6,g7⟩:=h;simp_all;done)⟩,hs.out⟩
     |exact ⟨_,rfl,⟨fun h=>⟨by simp_all,by simp_all,by simp_all,by simp_all,by simp_all,by simp_all,by simpa using h⟩,fun h=>by simpa using h.day⟩,hs.out⟩
   ·refine .Fs 3 21 true (.z zpF (.z zm (.Fs 6 26 true (.z zpF (.z zm (.Fs 3 34 true (.z zpF (.z zm (.Fs 3 39 true (.z zpF (.zn zg (.ret (Fin.bq nO rfl ?_)))))))))))))
    first
    |exact ⟨false,rfl,⟨fun h=>(by cases h),fun h=>(by obtain ⟨g1,g2,g3,g4,g5,g6,g7⟩:=h;simp_all;done)⟩,hs.out⟩
    |exact ⟨_,rfl,⟨fun h=>⟨by simp_all,by simp_all,by simp_all,by simp_all,by simp_all,by simp_all,by simpa using h⟩,fun h=>by simpa using h.day⟩,hs.out⟩
  ·refine .Fs 7 12 true (.z zpF (.z zm (.Fs 3 21 true (.z zpF (.z zm (.Fs 6 26 true (.z zpF (.z zm (.Fs 3 34 true (.z zpF (.z zm (.Fs 3 39 true (.z zpF (.zn zg (.ret (Fin.bq nO rfl ?_))))))))))))))))
   first
   |exact ⟨false,rfl,⟨fun h=>(by cases h),fun h=>(by obtain ⟨g1,g2,g3,g4,g5,g6,g7⟩:=h;simp_all;done)⟩,hs.out⟩
   |exact ⟨_,rfl,⟨fun h=>⟨by simp_all,by simp_all,by simp_all,by simp_all,by simp_all,by simp_all,by simpa using h⟩,fun h=>by simpa using h.day⟩,hs.out⟩
 ·refine .Fs 7 3 true (.z zpF (.z zm (.Fs 7 12 true (.z zpF (.z zm (.Fs 3 21 true (.z zpF (.z zm (.Fs 6 26 true (.z zpF (.z zm (.Fs 3 34 true (.z zpF (.z zm (.Fs 3 39 true (.z zpF (.zn zg (.ret (Fin.bq nO rfl ?_)))))))))))))))))))
  first
  |exact ⟨false,rfl,⟨fun h=>(by cases h),fun h=>(by obtain ⟨g1,g2,g3,g4,g5,g6,g7⟩:=h;simp_all;done)⟩,hs.out⟩
  |exact ⟨_,rfl,⟨fun h=>⟨by simp_all,by simp_all,by simp_all,by simp_all,by simp_all,by simp_all,by simpa using h⟩,fun h=>by simpa using h.day⟩,hs.out⟩
theorem nX{c:Cmp}(hs:St H w σ):
  Cl Tryz.prog 170 [.agg #[I c.src,I c.tape,I c.fr,I c.to,I c.lo,I c.hi]] w fun v w'=>∃b:Bool,v= .bool b∧(b=true↔qP c)∧St H w' σ:=by
 refine Cl.o Tryz.func170 Tryz.ntmps170 ag1 ?_
 refine .aj (.bx hs fun b1 w hs=>?_)
 refine .zn zg (.aj (.z (zfa ir) (.y hs (zld ae) (.o (.call Tryz.call165 rfl (iO hs) ?_)))));rintro _ w ⟨rfl,hs⟩
 refine .z zm (.bif (t':=6) rfl (fun hb6=>?_) (fun hb6=>?_))
 ·refine .T (.z (zfa jB) (.T (.y hs (zld ae) (.T (.o (.call dP rfl (bK hs) ?_))))));rintro _ w ⟨rfl,hs⟩
  refine .z zpT (.z zm (.bif (t':=11) rfl (fun hb11=>?_) (fun hb11=>?_)))
  ·refine .T (.z (zfa gj) (.T (.y hs (zld ae) (.T (.z (zfa fC) (.T (.y hs (zld ae) (.T (.o (.call dP rfl (bK hs) ?_))))))))));rintro _ w ⟨rfl,hs⟩
   refine .z zpT (.z zm (.bif (t':=18) rfl (fun hb18=>?_) (fun hb18=>?_)))
   ·refine .T (.z (zfa fC) (.T (.y hs (zld ae) (.T (.o (.call dP rfl (bK hs) ?_))))));rintro _ w ⟨rfl,hs⟩
    refine .z zpT (.z zm (.bif (t':=23) rfl (fun hb23=>?_) (fun hb23=>?_)))
    ·refine .T (.z (zfa fB) (.T (.y hs (zld ae) (.T (.z (zfa fA) (.T (.y hs (zld ae) (.T (.o (.call dP rfl (bK hs) ?_))))))))));rintro _ w ⟨rfl,hs⟩
     refine .z zpT (.z zm (.bif (t':=30) rfl (fun hb30=>?_) (fun hb30=>?_)))
     ·refine .T (.z (zfa fA) (.T (.y hs (zld ae) (.T (.o (.call dP rfl (bK hs) ?_))))));rintro _ w ⟨rfl,hs⟩
      refine .z zpT (.zn zg (.ret (Fin.bq uC rfl ?_)))
      first
      |exact ⟨false,rfl,⟨fun h=>(by cases h),fun h=>(by obtain ⟨g1,g2,g3,g4,g5,g6⟩:=h;simp_all;omega)⟩,hs.out⟩
      |exact ⟨false,rfl,⟨fun h=>(by cases h),fun h=>(by obtain ⟨g1,g2,g3,g4,g5,g6⟩:=h;simp_all;done)⟩,hs.out⟩
      |exact ⟨_,rfl,⟨fun h=>⟨by simp_all,by simp_all,by simp_all,by simp_all,by simp_all,(by simpa using h:_∧_).2⟩,fun h=>by have:=h.lo;have:=h.hi;simp;omega⟩,hs.out⟩
     ·refine .Fs 3 27 true (.z zpF (.zn zg (.ret (Fin.bq uC rfl ?_))))
      first
      |exact ⟨false,rfl,⟨fun h=>(by cases h),fun h=>(by obtain ⟨g1,g2,g3,g4,g5,g6⟩:=h;simp_all;omega)⟩,hs.out⟩
      |exact ⟨false,rfl,⟨fun h=>(by cases h),fun h=>(by obtain ⟨g1,g2,g3,g4,g5,g6⟩:=h;simp_all;done)⟩,hs.out⟩
      |exact ⟨_,rfl,⟨fun h=>⟨by simp_all,by simp_all,by simp_all,by simp_all,by simp_all,(by simpa using h:_∧_).2⟩,fun h=>by have:=h.lo;have:=h.hi;simp;omega⟩,hs.out⟩
    ·refine .Fs 5 20 true (.z zpF (.z zm (.Fs 3 27 true (.z zpF (.zn zg (.ret (Fin.bq uC rfl ?_)))))))
     first
     |exact ⟨false,rfl,⟨fun h=>(by cases h),fun h=>(by obtain ⟨g1,g2,g3,g4,g5,g6⟩:=h;simp_all;omega)⟩,hs.out⟩
     |exact ⟨false,rfl,⟨fun h=>(by cases h),fun h=>(by obtain ⟨g1,g2,g3,g4,g5,g6⟩:=h;simp_all;done)⟩,hs.out⟩
     |exact ⟨_,rfl,⟨fun h=>⟨by simp_all,by simp_all,by simp_all,by simp_all,by simp_all,(by simpa using h:_∧_).2⟩,fun h=>by have:=h.lo;have:=h.hi;simp;omega⟩,hs.out⟩
   ·refine .Fs 3 15 true (.z zpF (.z zm (.Fs 5 20 true (.z zpF (.z zm (.Fs 3 27 true (.z zpF (.zn zg (.ret (Fin.bq uC rfl ?_))))))))))
    first
    |exact ⟨false,rfl,⟨fun h=>(by cases h),fun h=>(by obtain ⟨g1,g2,g3,g4,g5,g6⟩:=h;simp_all;omega)⟩,hs.out⟩
    |exact ⟨false,rfl,⟨fun h=>(by cases h),fun h=>(by obtain ⟨g1,g2,g3,g4,g5,g6⟩:=h;simp_all;done)⟩,hs.out⟩
    |exact ⟨_,rfl,⟨fun h=>⟨by simp_all,by simp_all,by simp_all,by simp_all,by simp_all,(by simpa using h:_∧_).2⟩,fun h=>by have:=h.lo;have:=h.hi;simp;omega⟩,hs.out⟩
  ·refine .Fs 5 8 true (.z zpF (.z zm (.Fs 3 15 true (.z zpF (.z zm (.Fs 5 20 true (.z zpF (.z zm (.Fs 3 27 true (.z zpF (.zn zg (.ret (Fin.bq uC rfl ?_)))))))))))))
   first
   |exact ⟨false,rfl,⟨fun h=>(by cases h),fun h=>(by obtain ⟨g1,g2,g3,g4,g5,g6⟩:=h;simp_all;omega)⟩,hs.out⟩
   |exact ⟨false,rfl,⟨fun h=>(by cases h),fun h=>(by obtain ⟨g1,g2,g3,g4,g5,g6⟩:=h;simp_all;done)⟩,hs.out⟩
   |exact ⟨_,rfl,⟨fun h=>⟨by simp_all,by simp_all,by simp_all,by simp_all,by simp_all,(by simpa using h:_∧_).2⟩,fun h=>by have:=h.lo;have:=h.hi;simp;omega⟩,hs.out⟩
 ·refine .Fs 3 3 true (.z zpF (.z zm (.Fs 5 8 true (.z zpF (.z zm (.Fs 3 15 true (.z zpF (.z zm (.Fs 5 20 true (.z zpF (.z zm (.Fs 3 27 true (.z zpF (.zn zg (.ret (Fin.bq uC rfl ?_))))))))))))))))
  first
  |exact ⟨false,rfl,⟨fun h=>(by cases h),fun h=>(by obtain ⟨g1,g2,g3,g4,g5,g6⟩:=h;simp_all;omega)⟩,hs.out⟩
  |exact ⟨false,rfl,⟨fun h=>(by cases h),fun h=>(by obtain ⟨g1,g2,g3,g4,g5,g6⟩:=h;simp_all;done)⟩,hs.out⟩
  |exact ⟨_,rfl,⟨fun h=>⟨by simp_all,by simp_all,by simp_all,by simp_all,by simp_all,(by simpa using h:_∧_).2⟩,fun h=>by have:=h.lo;have:=h.hi;simp;omega⟩,hs.out⟩
theorem mT{s:Spc}{vst vwa:Value}(hs:St H w σ)(h1:RI H vst s.st)(h2:RI H vwa s.wa)(hb:s.st.length≤1000∧s.wa.length≤1000):
  Cl Tryz.prog 196 [.agg #[I s.id,I s.src,vst,vwa,I s.al,I s.up]] w fun v w'=>v=I (s.many:Int)∧St H w' σ:=by
 obtain ⟨ast,cst,rfl⟩:=RI.shape h1
 obtain ⟨awa,cwa,rfl⟩:=RI.shape h2
 have hm:=jK (a:=(s.st.length:Int)) (b:=(s.wa.length:Int)) (A:=1000) (B:=1000) ak ak
 refine Cl.o Tryz.func196 Tryz.ntmps196 ag1 ?_
 refine .aj (.bx hs fun b1 w hs=>?_)
 refine .zn zg (.aj (.z (zfa bI) (.y hs (zld an) (.z (da af) (.z (zfa a8) (.y hs (zld an) (.z (da af) (.z jN (.zn zg (.ret (Fin.bq Tryz.results196 rfl ?_)))))))))))
 exact ⟨by unfold Spc.many;rw [Int.natCast_mul],hs.out⟩
theorem pI{s:Spc}{vst vwa:Value}{a b:Int}(hs:St H w σ)(h2:RI H vwa s.wa)(hb:s.wa.length≤1000)(ha: -1000≤a∧a≤1000)(hb': -1000≤b∧b≤1000):
  Cl Tryz.prog 247 [.agg #[I s.id,I s.src,vst,vwa,I s.al,I s.up],I a,I b] w fun v w'=>v=I (1+a*s.wa.length+b)∧St H w' σ:=by
 obtain ⟨awa,cwa,rfl⟩:=RI.shape h2
 have hm:=jK (a:=a) (b:=(s.wa.length:Int)) (A:=1000) (B:=1000) ak ak
 refine Cl.o Tryz.func247 Tryz.ntmps247 ag3 ?_
 refine .aj (.bx hs fun b3 w hs=>?_)
 refine .zn zg (.aj (.z zm (.z (zfa a8) (.y hs (zld an) (.z (da af) (.z jN (.z cu (.z zm (.z cu (.zn zg (.ret (Fin.bq Tryz.results247 rfl ?_))))))))))))
 exact ⟨rfl,hs.out⟩
theorem jF{r:Rdg}(hs:St H w σ):
  Cl Tryz.prog 241 [.agg #[I r.src,I r.st,I r.wa,I r.val,I r.tol,I r.tape,I r.day]] w fun v w'=>v= .agg #[I r.tape,I r.day]∧St H w' σ:=by
 refine Cl.o Tryz.func241 Tryz.ntmps241 ag1 ?_
 refine .aj (.bx hs fun b1 w hs=>?_)
 refine .o (.alloc hs lH rfl fun b2 w hs=>?_)
 refine .nil (.aj (.z (zfa eP) (.y hs (zld ae) (.z (zfa eO) (.y hs (zld ae) (.z (zbd [_,_] iY) (.o (.aU (vs:=[_,_]) hs rfl rfl bP fun w hs=>?_))))))))
 refine .nil (.ret ?_)
 exact Fin.jt [] [] hs fun w hs=>⟨_,results1 Tryz.results241 (dK (vs:=[_,_]) hs rfl eu bP),rfl,hs.out⟩
theorem mU{a b:Int}(hs:St H w σ)(ha:0≤a∧a≤100000)(hb:0≤b∧b≤100000):
  Cl Tryz.prog 243 [I a,I b] w fun v w'=>v=I (kQ a b)∧St H w' σ:=by
 have hm:=jK (a:=a) (b:=b) (A:=100000) (B:=100000) ak ak
 have h0:=Int.mul_nonneg ha.1 hb.1
 have hq0:0≤(a*b+999).tdiv 1000:=Int.tdiv_nonneg ak ak
 have hq1:(a*b+999).tdiv 1000≤a*b+999:=by rw [Int.tdiv_eq_ediv_of_nonneg ak];omega
 refine Cl.o Tryz.func243 Tryz.ntmps243 ag2 ?_
 refine .aj (.zn zg (.aj (.z zm (.z zm (.z jN (.z cu (.q hs (rh rfl rfl ak ak) (.z Al (.zn zg (.ret (Fin.bq Tryz.results243 rfl ?_)))))))))))
 exact ⟨rfl,hs⟩
def xF(s:Spc):List (List Value):=(List.range s.many).map fun p=>[Value.agg #[I ((p/s.wa.length:Nat):Int),I ((p%s.wa.length:Nat):Int),I ((p+1:Nat):Int)]]
theorem eJ(s:Spc):(xF s).length=s.many:=by simp [xF]
theorem nt{s:Spc}{p:Nat}(h:p<(xF s).length):(xF s)[p]=[Value.agg #[I ((p/s.wa.length:Nat):Int),I ((p%s.wa.length:Nat):Int),I ((p+1:Nat):Int)]]:=by simp [xF]
theorem rq{H:bV}{b:Nat}{s:Spc}{vst vwa:Value}(hb:Row H b [I s.id,I s.src,vst,vwa,I s.al,I s.up])(h1:RI H vst s.st)(h2:RI H vwa s.wa)(hbd:s.st.length≤1000∧s.wa.length≤1000):
  Iter Tryz.prog 188 [Pt b] H (xF s):=by
 intro ly II Ix hmI _ hy H0 σb0 σf w hle hI0 hs
 obtain ⟨ast,cst,rfl⟩:=RI.shape h1
 obtain ⟨awa,cwa,rfl⟩:=RI.shape h2
 have g2:cellAt H0 b 2=some (.slice ast s.st.length cst):=cellAt.mono (hb.at 2) hle
 have g3:cellAt H0 b 3=some (.slice awa s.wa.length cwa):=cellAt.mono (hb.at 3) hle
 have hm:s.many≤1000000:=Nat.mul_le_mul hbd.1 hbd.2
 refine Cl.o Tryz.func188 Tryz.ntmps188 ag2 ?_
 refine .aj (.zn zg (.aj (.z (zfa bI) (.y hs (zld an) (.z (da af) (.zn zm (.for (N:=s.st.length) (J:=fun i fr w=>fr=[(3,I ((i*s.wa.length:Nat):Int)),(0,.func (.yield ly) #[] #[]),(1,Pt b)]∧∃H1 σb,HLe H H1∧HLe H0 H1∧II (i*s.wa.length) H1 σb∧St H1 w (σb++σf)) ak ?_ ?_ ?_)))))))
 ·exact .mk ⟨by rw [Nat.zero_mul],H0,σb0,hle,HLe.refl _,by rw [Nat.zero_mul];exact hI0,hs⟩
 ·rintro i fr w hi ⟨rfl,H1,σb,hle1,hle0,hI,hs⟩
  have h23:=cellAt.mono g3 hle0
  refine .block (.aj (.z zm (.zn zg (.aj (.z (zfa a8) (.y hs (zld an) (.z (da af) (.zn zm (.for (N:=s.wa.length) (J:=fun k fr w=>fr=[(3,I ((i*s.wa.length+k:Nat):Int)),(4,I (i:Int)),(9,I (i:Int)),(8,I (s.st.length:Int)),(0,.func (.yield ly) #[] #[]),(1,Pt b)]∧∃H3 σb,HLe H1 H3∧II (i*s.wa.length+k) H3 σb∧St H3 w (σb++σf)) ak ?_ ?_ ?_)))))))))
  ·exact .mk ⟨rfl,H1,σb,HLe.refl _,hI,hs⟩
  ·rintro k fr w hk ⟨rfl,H3,σb3,hle3,hI3,hs⟩
   obtain ⟨d1,d2⟩:=Gt (nw:=s.wa.length) (i:=i) (k:=k) hk
   have hlt:=Jx hi hk
   refine .block (.aj (.z zm (.zn zg (.aj (.z zm (.z cu (.zn zg (.aj (.z zm (.z zm (.z zm (.z zm (.z (zbd [_,_,_] sa) ?_)))))))))))))
   have hk':i*s.wa.length+k<(xF s).length:=by rw [eJ];exact hlt
   have hyd:=hy (i*s.wa.length+k) hk' H3 σb3 σf w (hle1.trans hle3) hI3 hs
   rw [nt hk',d1,d2,show ((i*s.wa.length+k+1:Nat):Int)=((i*s.wa.length+k:Nat):Int)+1 by omega] at hyd
   refine .o (.yield rfl rfl hyd ?_);rintro v25 w ⟨H5,σ5,g1,hs,g3'⟩
   obtain ⟨bb,rfl,gT,gF⟩:=ot g3'
   refine .zn fI (.cond rfl (fun hc26=>?_) (fun hc26=>?_))
   ·refine .ret (rB (rT (rB (rB (rT (rB (Fin.Ho Tryz.results188 ?_)))))))
    exact ⟨H5,σ5,hle0.trans (hle3.trans g1),hs,.inr (gF (by simpa using hc26))⟩
   ·refine .skip (nB (nT ?_))
    exact .mk ⟨rfl,H5,σ5,hle3.trans g1,gT (by simpa using hc26),hs⟩
  ·rintro fr w ⟨rfl,H3,σb3,hle3,hI3,hs⟩
   have e:i*s.wa.length+s.wa.length=(i+1)*s.wa.length:=by rw [Nat.add_mul,Nat.one_mul]
   rw [e] at hI3 ⊢
   refine nB (nT ?_)
   exact .mk ⟨rfl,H3,σb3,hle1.trans hle3,hle0.trans hle3,hI3,hs⟩
 ·rintro fr w ⟨rfl,H1,σb,hle1,hle0,hI,hs⟩
  exact Fin.zV Tryz.results188 ⟨H1,σb,hle0,hs,.inl (by rw [eJ];exact hI)⟩
theorem fZ{s:Spc}{vst vwa:Value}(hs:St H w σ)(h1:RI H vst s.st)(h2:RI H vwa s.wa)(hbd:s.st.length≤1000∧s.wa.length≤1000):
  Cl Tryz.prog 131 [.agg #[I s.id,I s.src,vst,vwa,I s.al,I s.up]] w fun u w'=>∃H1 b,HLe H H1∧u= .func (.func 188) #[] #[Pt b]∧Iter Tryz.prog 188 [Pt b] H1 (xF s)∧St H1 w' σ:=by
 obtain ⟨ast,cst,rfl⟩:=RI.shape h1
 obtain ⟨awa,cwa,rfl⟩:=RI.shape h2
 refine Cl.o Tryz.func131 Tryz.ntmps131 ag1 ?_
 refine .aj (.bx hs fun b1 w hs=>?_)
 refine .zn zg (.aj (.q hs (dD (f:=[]) (c:=[_]) rfl rfl) (.zn zg (.ret (Fin.bq Tryz.results131 rfl ?_)))))
 obtain ⟨H1,g1,g2,hs⟩:=hs.cQ .here
 exact ⟨H1,b1,g1,rfl,rq g2 (h1.mono g1) (h2.mono g1) hbd,hs⟩
set_option maxRecDepth 100000 in
theorem uI:Tryz.prog.stoodInHeld 162=false:=by kernel_rfl
set_option maxRecDepth 100000 in
theorem uJ:Tryz.prog.eqGuardType Tryz.prog.depth 162=false:=by kernel_rfl
theorem qp{v:Value}{en:Ent}{xs:List TD}{g:Nat}{cap:List Value}(q:TD→Bool)(hs:St H w (en::σ))(hO:cN 2 v (tdc xs).flatten en)(hl:xs.length≤1000000)(hc:∀args w,(callFunc g args).run Tryz.prog w= .ok (.enter g args) w)
  (hp:∀w (t:TD),St H w (en::σ)→Cl Tryz.prog g ([.agg #[I t.tape,I t.day]]++cap) w fun u w'=>u= .bool (q t)∧St H w' (en::σ)):
  Cl Tryz.prog 276 [v,.func (.func g) #[] cap.toArray] w fun u w'=>∃i:Int,u=I i∧(0≤i↔∃x∈xs,q x=true)∧St H w' (en::σ):=by
 obtain ⟨a,c,rfl⟩:=hO.je (pD xs) ak
 rw [eK] at hO ⊢
 refine Cl.o Tryz.func276 Tryz.ntmps276 ag2 ?_
 refine .aj (.zn zg (.seq (.aj (.z zm (.z (da bD) (.zn zm (.for (N:=xs.length) (J:=fun k fr w=>fr=[(1,.func (.func g) #[] cap.toArray),(0,.slice a xs.length c)]∧(∀j<k,∀y,xs[j]? =some y→¬q y=true)∧St H w (en::σ)) ak ?_ ?_ ?_)))))))
 ·exact .mk ⟨rfl,fun j hj=>by omega,hs⟩
 ·rintro k fr w hk ⟨rfl,hno,hs⟩
  obtain ⟨x,hx⟩:=nth hk
  obtain ⟨b,c',sp,hv,rfl,_⟩:=hO.FO (pD xs) ak (by rw [eK];omega)
  rw [eK] at hv
  cases hv
  refine .block (.aj (.z zm (.zn zg (.aj (.z zm (.z zm (.z zm (.z (mw bD bP) (.q hs (kO (vs:=x.c) rfl eu bP .here (xo (pD xs) (CR hx) sp)) (.o (.pQ (first:=[]) (cap:=cap) rfl rfl hc (hp _ x hs) ?_)))))))))));rintro _ w ⟨rfl,hs⟩
  refine .nil (.cond rfl (fun hc16=>?_) (fun hc16=>?_))
  ·refine .aj (.z zm (.zn zg (.ret (rB (rT (rB (rT (Fin.bq Tryz.results276 rfl ?_))))))))
   exact ⟨_,rfl,⟨fun _=>⟨x,List.mem_of_getElem? hx,hc16⟩,fun _=>by omega⟩,hs⟩
  ·refine .skip (nB (nT ?_))
   exact .mk ⟨rfl,fi hno hx (by simpa using hc16),hs⟩
 ·rintro fr w ⟨rfl,hno,hs⟩
  refine nT (.aj (.zn zg (.ret (Fin.bq Tryz.results276 rfl ?_))))
  exact ⟨_,rfl,⟨fun h=>by omega,fun ⟨x,h1,h2⟩=>by
   obtain ⟨j,hj⟩:=List.getElem?_of_mem h1
   exact (hno j (List.getElem?_eq_some_iff.1 hj).1 x hj h2).elim⟩,hs⟩
theorem nU{v:Value}{en:Ent}{xs:List TD}{g:Nat}{cap:List Value}(q:TD→Bool)(hs:St H w (en::σ))(hO:cN 2 v (tdc xs).flatten en)(hl:xs.length≤1000000)(hc:∀args w,(callFunc g args).run Tryz.prog w= .ok (.enter g args) w)
  (hp:∀w (t:TD),St H w (en::σ)→Cl Tryz.prog g ([.agg #[I t.tape,I t.day]]++cap) w fun u w'=>u= .bool (q t)∧St H w' (en::σ)):
  Cl Tryz.prog 239 [v,.func (.func g) #[] cap.toArray] w fun u w'=>∃b:Bool,u= .bool b∧(b=true↔∃x∈xs,q x=true)∧St H w' (en::σ):=by
 refine Cl.o Tryz.func239 Tryz.ntmps239 ag2 ?_
 refine .aj (.zn zg (.aj (.z zm (.z zm (.o (.call Tryz.call276 rfl (qp q hs hO hl hc hp) ?_))))));rintro _ w ⟨i,rfl,hi,hs⟩
 refine .z uF (.zn zg (.ret (Fin.bq Tryz.results239 rfl ?_)))
 exact ⟨_,rfl,by simp only [decide_eq_true_eq];exact hi,hs⟩
theorem vD{v:Value}{xs:List TD}{t:TD}(hs:St H w σ)(hr:RTd H v xs)(hl:xs.length≤1000000):
  Cl Tryz.prog 246 [v,.agg #[I t.tape,I t.day]] w fun u w'=>u=I (kL xs t)∧St H w' σ:=by
 obtain ⟨a,c,rfl⟩:=RTd.shape hr
 refine Cl.o Tryz.func246 Tryz.ntmps246 ag2 ?_
 refine .aj (.bx hs fun b3 w hs=>?_)
 refine .zn zg (.seq (.aj (.z zm (.z (da bD) (.zn zm (.for (N:=xs.length) (J:=fun k fr w=>fr=[(0,.slice a xs.length c),(3,Pt b3)]∧(∀j<k,∀y,xs[j]? =some y→¬y=t)∧St H w (.blk b3 [I t.tape,I t.day]::σ)) ak ?_ ?_ ?_))))))
 ·exact .mk ⟨rfl,fun j hj=>by omega,hs⟩
 ·rintro k fr w hk ⟨rfl,hno,hs⟩
  obtain ⟨x,hx⟩:=nth hk
  refine .block (.aj (.z zm (.zn zg (.seq (.draw mix rfl hs fun w hs=>?_)))))
  refine .ys 0 rfl hs [_,_] eu bP ?_;refine .z 1 rfl zm ?_;refine .z 2 rfl zm ?_
  refine .ixX (enc:=TD.c) (i:=3) hs rfl aH .none hr rfl rfl bD bP hx cz ?_;intro b14 o14 hc14
  refine .r (i:=4) hs rfl aH .none (bQ (vs:=x.c) rfl eu bP hc14) ?_
  refine .z 5 rfl (zu uI uJ jh (fun f hf=>by
   simp only [List.mem_cons,List.not_mem_nil,or_false] at hf
   rcases hf with rfl|rfl<;>exact ⟨by decide,bF,ae⟩) rfl rfl) ?_
  refine .D hs (.cond rfl (fun hc16=>?_) (fun hc16=>?_))
  ·refine .aj (.z zm (.zn zg (.ret (rB (rT (rB (rT (Fin.bq Tryz.results246 rfl ?_))))))))
   have e:x=t:=EG.1 (by have:=of_decide_eq_true hc16;exact ⟨this.1.symm,this.2.symm⟩)
   subst e
   exact ⟨by rw [qZ hx fun j hj h=>hno j hj _ h rfl],hs.tail⟩
  ·refine .skip (nB (nT ?_))
   exact .mk ⟨rfl,fi hno hx (fun e=>by subst e;simp at hc16),hs⟩
 ·rintro fr w ⟨rfl,hno,hs⟩
  refine nT (.aj (.zn zg (.ret (Fin.bq Tryz.results246 rfl ?_))))
  exact ⟨by rw [xX hno],hs.tail⟩
theorem pJ{t:TD}{r:Rdg}{b:Nat}(hs:St H w σ)(hb:Row H b r.c):
  Cl Tryz.prog 240 [.agg #[I t.tape,I t.day],Pt b] w fun u w'=>u= .bool (decide (t=r.td))∧St H w' σ:=by
 have hb0:bL H b 0 r.c:=hb.cells 0 r.c
 refine Cl.o Tryz.func240 Tryz.ntmps240 ag2 ?_
 refine .aj (.bx hs fun b2 w hs=>?_)
 refine .zn zg (.seq (.draw mix rfl hs fun w hs=>?_))
 refine .ys 0 rfl hs [_,_] eu bP ?_;refine .ys 1 rfl hs [_,_,_,_,_,_,_] ew aI ?_
 refine .E 2 hs ?_
 refine .call Tryz.call241 rfl (jF hs) ?_;rintro _ w ⟨rfl,hs⟩
 refine .go ?_
 refine .z 3 rfl (zu uI uJ jh (fun f hf=>by
  simp only [List.mem_cons,List.not_mem_nil,or_false] at hf
  rcases hf with rfl|rfl<;>exact ⟨by decide,bF,ae⟩) rfl rfl) ?_
 refine .zw 4 rfl zg ?_;refine .D hs ?_
 refine .ret (Fin.bq Tryz.results240 rfl ?_)
 exact ⟨by congr 1;rw [decide_eq_decide];exact EG (t:=t) (u:=r.td),hs.tail⟩
set_option maxHeartbeats 1000000 in
theorem sX{s:Srv}{vst vwa vr vc:Value}(hs:St H w σ)(hr:RRd H vr s.rs)(hl:s.rs.length≤1000000):
  Cl Tryz.prog 189 [.agg #[I s.sp.id,I s.sp.src,vst,vwa,I s.sp.al,I s.sp.up,vr,vc]] w fun u w'=>∃H1 en,HLe H H1∧cN 2 u (tdc s.cI).flatten en∧St H1 w' (en::σ):=by
 obtain ⟨ar,cr,rfl⟩:=RRd.shape hr
 refine Cl.o Tryz.func189 Tryz.ntmps189 ag1 ?_
 refine .aj (.bx hs fun b1 w hs=>?_)
 refine .zn zg (.aj (.zn zg (.seq (.aj (.z (zfa aO) (.y hs (zld bG) (.z (da au) (.zn zm (.for (N:=s.rs.length) (J:=fun k fr w=>∃vo en H1,fr=[(7,.slice ar s.rs.length cr),(3,vo)]∧HLe H H1∧cN 2 vo (tdc (bw (s.rs.take k))).flatten en∧St H1 w (en::σ)) ak ?_ ?_ ?_)))))))))
 ·exact .mk ⟨_,.nul,H,rfl,HLe.refl _,.nil 2 none,hs.tail.nul⟩
 ·rintro k fr w hk ⟨vo,en,H1,rfl,hle1,hO,hs⟩
  obtain ⟨r,hx⟩:=nth hk
  have htk:=kq hx
  have htl:=lM s.rs k ak
  obtain ⟨ao,co,rfl⟩:=hO.je (pD _) ak
  rw [eK] at hO ⊢
  refine .block (.aj (.ixX (enc:=Rdg.c) hs (hr.mono hle1) rfl rfl au aI hx cz ?_));intro b11 o11 hc11
  refine .q hs (bQ (vs:=(Rdg.c r)) rfl ew aI hc11) (.o (.alloc hs ff rfl fun b5 w hs=>?_))
  refine .o (.aU (vs:=r.c) hs rfl rfl aI fun w hs=>?_)
  obtain ⟨H2,hle2,r5,hs⟩:=hs.cQ (b:=b5) (c:=r.c) .here
  have c5:bL H2 b5 0 r.c:=r5.cells 0 r.c
  refine .nil (.aj (.z zm (.q hs (dD (f:=[]) (c:=[_]) rfl rfl) (.o (.call Tryz.call239 rfl (nU (g:=240) (cap:=[Pt b5]) (fun t=>decide (t=r.td)) hs hO ak Tryz.call240 (fun w t hs=>pJ hs r5)) ?_)))));rintro _ w ⟨b15,rfl,hb15,hs⟩
  refine .zn fI (.cond rfl (fun hc16=>?_) (fun hc16=>?_))
  ·refine .region (.z zm (.q hs (bQ (vs:=r.c) rfl ew aI c5) (.o (.call Tryz.call241 rfl (jF (r:=r) hs) ?_))));rintro _ w ⟨rfl,hs⟩
   refine .o (.buildSlice (cells:=[_,_]) hs jr rfl rfl fun b20 w hs=>?_)
   refine .o (.append (ys:=r.td.c) hs fm rfl rfl hO (.own .here rfl rfl) (by simp [TD.c,Value.oneCell']) (fun l h=>by rw [bU _ (pD _),eK] at h;omega) ?_);intro v21 en21 w hO2 hs
   refine .zn zg (nB (nT ?_))
   have hn:r.td∉bw (s.rs.take k):=fun hm=>by
    rw [hb15.2 ⟨_,hm,bT⟩] at hc16;cases hc16
   rw [←xW,show bw (s.rs.take k)++[r.td]=bw (s.rs.take (k+1)) by rw [htk];unfold sh;rw [if_neg hn]] at hO2
   exact .mk ⟨_,_,H2,rfl,hle1.trans hle2,hO2,hs.sb⟩
  ·refine .skip (nB (nT ?_))
   have hm:r.td∈bw (s.rs.take k):=by
    obtain ⟨x,h1,h2⟩:=hb15.1 (by simpa using hc16)
    rw [←of_decide_eq_true h2];exact h1
   exact .mk ⟨_,_,H2,rfl,hle1.trans hle2,by rw [htk];unfold sh;rw [if_pos hm];exact hO,hs⟩
 ·rintro fr w ⟨vo,en,H1,rfl,hle1,hO,hs⟩
  rw [List.take_length] at hO
  refine nT (.aj (.z zm (.zn zg (.ret (Fin.bq Tryz.results189 rfl ?_)))))
  exact ⟨H1,en,hle1,hO,hs⟩
theorem rm{s:Srv}{vst vwa vr vc:Value}(hs:St H w σ)(hr:RRd H vr s.rs)(hl:s.rs.length≤1000000):
  Cl Tryz.prog 189 [.agg #[I s.sp.id,I s.sp.src,vst,vwa,I s.sp.al,I s.sp.up,vr,vc]] w fun u w'=>∃H1,HLe H H1∧RTd H1 u s.cI∧St H1 w' σ:=by
 refine (sX hs hr hl).mono ?_
 rintro u w' ⟨H1,en,hle1,hO,hs⟩
 have htl:=dQ s.rs
 have htl':s.cI.length≤1000000:=by unfold Srv.cI;omega
 obtain ⟨H2,hle2,hR,hs⟩:=cN.cQ (m:=2) hO (pD _) ak (by rw [eK];omega) hs .here
 exact ⟨H2,hle1.trans hle2,hR,hs⟩
theorem iB{x0 x1 x2 x3 x4 x5 x6 x7 x8 vl:Value}{en:Ent}{bm:Nat}{ls:List Lim}{a b hi lo by_:Int}(hs:St H w (.blk bm [x0,x1,x2,x3,x4,x5,x6,x7,x8,vl]::en::σ))(hO:cN 4 vl (iz ls) en)(hl:ls.length≤100000):
  Cl Tryz.prog 242 [Pt bm,I a,I b,I hi,I lo,I by_] w fun _ w'=>∃vl' en',cN 4 vl' (iz (ls++two a b hi lo by_)) en'∧St H w' (.blk bm [x0,x1,x2,x3,x4,x5,x6,x7,x8,vl']::en'::σ):=by
 obtain ⟨al,ll,cl,rfl,h⟩:=hO.shape
 refine Cl.of Tryz.func242 rfl Tryz.ntmps242 bT (eh (k:=0) rfl (eh (k:=1) rfl (eh (k:=2) rfl (eh (k:=3) rfl (eh (k:=4) rfl (eh (k:=5) rfl (yM))))))) (.region (.z zm (.z zm (.z znc (.z (zfa jT) (.y hs (zld dr) (.z zm (.z zm (.z zm (.z zm (.z (zbd [_,_,_,_] fc) (.z zm (.z zm (.z zm (.z zm (.z (zbd [_,_,_,_] fc) (.o (.buildSlice (cells:=iz (two a b hi lo by_)) hs gx rfl aH fun b27 w hs=>?_))))))))))))))))))
 refine .o (.append (ys:=iz (two a b hi lo by_)) hs cZ rfl rfl hO (.own .here rfl rfl) (l5 _) (fun l h=>by rw [eZ] at h;omega) ?_);intro v28 en28 w hO2 hs
 rw [←ja] at hO2
 obtain ⟨a28,l28,c28,rfl,h28⟩:=hO2.shape
 refine .z znc (.z (zfa jT) (.o (.store hs rfl rfl p5 fun w hs=>?_)))
 refine .nil ?_
 exact Fin.zV Tryz.results242 ⟨_,_,hO2,hs.sb⟩
theorem lQ{s:Spc}{vst vwa x6 x7 x8 vl:Value}{bm:Nat}{j:Int}(hs:St H w σ)(hm:Mem σ (.blk bm [I s.id,I s.src,vst,vwa,I s.al,I s.up,x6,x7,x8,vl]))(h1:RI H vst s.st)(h2:RI H vwa s.wa)(hb:s.st.length≤1000∧s.wa.length≤1000)(hj: -1≤j∧j≤1000):
  Cl Tryz.prog 244 [Pt bm,I j] w fun u w'=>u=I ((s.many:Int)+1+j)∧St H w' σ:=by
 have hmm:s.many≤1000000:=Nat.mul_le_mul hb.1 hb.2
 refine Cl.o Tryz.func244 Tryz.ntmps244 ag2 ?_
 refine .aj (.zn zg (.aj (.z zm (.z znc (.z (zfa dJ) (.z (zfa bj) (.q hs (kO (vs:=[I s.id,I s.src,vst,vwa,I s.al,I s.up]) rfl aK aA hm) (.o (.call Tryz.call196 rfl (mT (s:=s) hs h1 h2 hb) ?_)))))))));rintro _ w ⟨rfl,hs⟩
 refine .z cu (.z zm (.z cu (.zn zg (.ret (Fin.bq Tryz.results244 rfl ?_)))))
 exact ⟨rfl,hs⟩
theorem ez{s:Spc}(h:eY s):s.st.length≤1000∧s.wa.length≤1000∧0<s.wa.length∧s.many≤63:=by
 have h1:=h.st.many;have h2:=h.wa.many;have h3:=h.wa.two
 have:s.many≤9*7:=Nat.mul_le_mul h1 h2
 omega
theorem qE{s:Srv}{ts:List TD}{vst vwa vr vc vt vl:Value}{en:Ent}{bm:Nat}{ls:List Lim}(hs:St H w (.blk bm [I s.sp.id,I s.sp.src,vst,vwa,I s.sp.al,I s.sp.up,vr,vc,vt,vl]::en::σ))(hk:MkK H s ts vst vwa vr vc vt)(hO:cN 4 vl (iz ls) en)(hl:ls.length≤10000)(hok:eY s.sp):
  Cl Tryz.prog 190 [Pt bm] w fun _ w'=>∃H1 vl' en',HLe H H1∧cN 4 vl' (iz (ls++fa (sq s.sp) s.sp.wa.length s.sp.st.length)) en'∧St H1 w' (.blk bm [I s.sp.id,I s.sp.src,vst,vwa,I s.sp.al,I s.sp.up,vr,vc,vt,vl']::en'::σ):=by
 have hsm:=ez hok
 refine Cl.o Tryz.func190 Tryz.ntmps190 ag1 ?_
 refine .aj (.bx hs fun b1 w hs=>?_)
 refine .nil (.aj (.y hs (zld sw) (.z znc (.z (zfa dJ) (.z (zfa bj) (.y hs (zls [_,_,_,_,_,_] aK aA) (.o (.call CB rfl (fZ (s:=s.sp) hs hk.st hk.wa ⟨ak,ak⟩) ?_))))))));rintro _ w ⟨H1,ba,hle1,rfl,hit,hs⟩
 refine .nil (.block ?_)
 refine .rangeFunc (gf:=188) (cap:=[Pt ba]) (xs:=xF s.sp) (σb:=[.blk bm [I s.sp.id,I s.sp.src,vst,vwa,I s.sp.al,I s.sp.up,vr,vc,vt,vl],en,.blk b1 [Pt bm]]) (σf:=σ) (hs.sb) trivial rfl hit CA (fun x hx=>by
   simp only [xF,List.mem_map] at hx
   obtain ⟨j,_,rfl⟩:=hx;rfl) rfl
  (I:=fun p H' σb=>∃vl en,σb=[.blk bm [I s.sp.id,I s.sp.src,vst,vwa,I s.sp.al,I s.sp.up,vr,vc,vt,vl],en,.blk b1 [Pt bm]]∧cN 4 vl (iz (ls++rD (sq s.sp) s.sp.wa.length p)) en) (Ix:=fun _ _ _=>False)
  (fun j _ _ σ g1 g2=>g2) (fun _ _ _ _ _ h=>h) ⟨vl,en,rfl,by rw [pv,List.append_nil];exact hO⟩ ?_ ?_ (fun D c H' σb w _ h _=>h.elim)
 ·rintro ly p hp H2 σb2 σf2 w hle2 ⟨vl,en,rfl,hO⟩ hs ⟨rr,hrr⟩
  have hpm:p<s.sp.many:=by rw [eJ] at hp;exact hp
  have hsucc:=pw (sq s.sp) (p:=p) hsm.2.2.1
  have hpl:=kx (pB s.sp) hsm.2.2.1 p
  have hin:p/s.sp.wa.length<s.sp.st.length:=Nat.div_lt_of_lt_mul (by rw [Nat.mul_comm];exact hpm)
  have hkm:=Nat.mod_lt p hsm.2.2.1
  have hdm:=Nat.div_add_mod p s.sp.wa.length
  rw [Nat.mul_comm] at hdm
  have hu:(s.sp.u (p/s.sp.wa.length) (p%s.sp.wa.length):Int)=(p:Int)+1:=by unfold Spc.u;omega
  rw [nt hp]
  obtain ⟨al,ll,cl,rfl,hll⟩:=hO.shape
  generalize p/s.sp.wa.length=i at*
  generalize p%s.sp.wa.length=k at*
  have hk2:=hk.mono (hle1.trans hle2)
  refine .region (.o (.alloc hs lG rfl fun b2 w hs=>?_))
  refine .o (.aU (vs:=[_,_,_]) hs rfl rfl pZ fun w hs=>?_)
  refine .nil (nT (⟨H2,[.blk b2 [I (i:Int),I (k:Int),I ((p+1:Nat):Int)],.blk bm [I s.sp.id,I s.sp.src,vst,vwa,I s.sp.al,I s.sp.up,vr,vc,vt,.slice al ll cl],en,.blk b1 [Pt bm]],HLe.refl _,hs,?_⟩));rintro w σf4 - hs
  refine .block (.draw mix rfl hs fun w hs=>?_)
  refine .y 0 rfl hs sw ?_;refine .z 1 rfl (zfa eX) ?_;refine .y 2 rfl hs ae ?_;refine .y 3 rfl hs sw ?_;refine .z 4 rfl znc ?_;refine .z 5 rfl (zfa dJ) ?_;refine .z 6 rfl (zfa bj) ?_;refine .z 7 rfl (zfa dR) ?_;refine .y 8 rfl hs ae ?_
  refine .E 9 hs ?_
  refine .call Cy rfl (iB (ls:=ls++rD (sq s.sp) s.sp.wa.length p) (hs.sb:St H2 w (.blk bm _::en:: .blk b1 _::σf4)) hO (by rw [List.length_append];omega)) ?_;rintro _ w ⟨vl3,en3,hO3,hs⟩
  rw [show two 0 ((p+1:Nat):Int) 20000 0 s.sp.src=sq s.sp i k by unfold sq;rw [hu];rfl,List.append_assoc,←hsucc] at hO3
  refine .go (.D hs (nB ?_))
  exact ⟨H2,_,HLe.refl _,hs,_,_,rfl,hO3⟩
 ·rintro D H2 σb2 w hle2 ⟨vl,en,rfl,hO⟩ hs
  rw [eJ,show s.sp.many=s.sp.st.length*s.sp.wa.length from rfl,rC _ hsm.2.2.1] at hO
  refine nB ?_
  exact Fin.IQ [D] [] hs fun w hs=>⟨_,results0 Tryz.results190,H2,vl,en,hle1.trans hle2,hO,(hs.sb:St H2 w (.blk bm _::en::σ))⟩
theorem uk{s:Srv}{ts:List TD}{vst vwa vr vc vt vl:Value}{en:Ent}{bm:Nat}{ls:List Lim}(hs:St H w (.blk bm [I s.sp.id,I s.sp.src,vst,vwa,I s.sp.al,I s.sp.up,vr,vc,vt,vl]::en::σ))(hk:MkK H s ts vst vwa vr vc vt)(hO:cN 4 vl (iz ls) en)(hl:ls.length≤10000)(hok:eY s.sp):
  Cl Tryz.prog 191 [Pt bm] w fun _ w'=>∃H1 vl' en',HLe H H1∧cN 4 vl' (iz (ls++fa (alL s.sp) s.sp.wa.length s.sp.st.length)) en'∧St H1 w' (.blk bm [I s.sp.id,I s.sp.src,vst,vwa,I s.sp.al,I s.sp.up,vr,vc,vt,vl']::en'::σ):=by
 have hsm:=ez hok
 obtain ⟨ast,cst,rfl⟩:=RI.shape hk.st
 obtain ⟨awa,cwa,rfl⟩:=RI.shape hk.wa
 refine Cl.o Tryz.func191 Tryz.ntmps191 ag1 ?_
 refine .aj (.bx hs fun b1 w hs=>?_)
 refine .nil (.aj (.y hs (zld sw) (.z znc (.z (zfa dJ) (.z (zfa bj) (.y hs (zls [_,_,_,_,_,_] aK aA) (.o (.alloc hs jc rfl fun b2 w hs=>?_))))))))
 refine .o (.aU (vs:=[_,_,_,_,_,_]) hs rfl rfl aA fun w hs=>?_)
 refine .nil (.aj (.y hs (zls [_,_,_,_,_,_] aK aA) (.o (.call CB rfl (fZ (s:=s.sp) hs hk.st hk.wa ⟨ak,ak⟩) ?_))));rintro _ w ⟨H1,ba,hle1,rfl,hit,hs⟩
 refine .nil (.block ?_)
 refine .rangeFunc (gf:=188) (cap:=[Pt ba]) (xs:=xF s.sp) (σb:=[.blk bm [I s.sp.id,I s.sp.src,.slice ast s.sp.st.length cst,.slice awa s.sp.wa.length cwa,I s.sp.al,I s.sp.up,vr,vc,vt,vl],en,.blk b1 [Pt bm],.blk b2 [I s.sp.id,I s.sp.src,.slice ast s.sp.st.length cst,.slice awa s.sp.wa.length cwa,I s.sp.al,I s.sp.up]]) (σf:=σ) (hs.sb) trivial rfl hit CA (fun x hx=>by
   simp only [xF,List.mem_map] at hx
   obtain ⟨j,_,rfl⟩:=hx;rfl) rfl
  (I:=fun p H' σb=>∃vl en,σb=[.blk bm [I s.sp.id,I s.sp.src,.slice ast s.sp.st.length cst,.slice awa s.sp.wa.length cwa,I s.sp.al,I s.sp.up,vr,vc,vt,vl],en,.blk b1 [Pt bm],.blk b2 [I s.sp.id,I s.sp.src,.slice ast s.sp.st.length cst,.slice awa s.sp.wa.length cwa,I s.sp.al,I s.sp.up]]∧cN 4 vl (iz (ls++rD (alL s.sp) s.sp.wa.length p)) en) (Ix:=fun _ _ _=>False)
  (fun j _ _ σ g1 g2=>g2) (fun _ _ _ _ _ h=>h) ⟨vl,en,rfl,by rw [pv,List.append_nil];exact hO⟩ ?_ ?_ (fun D c H' σb w _ h _=>h.elim)
 ·rintro ly p hp H2 σb2 σf2 w hle2 ⟨vl,en,rfl,hO⟩ hs ⟨rr,hrr⟩
  have hpm:p<s.sp.many:=by rw [eJ] at hp;exact hp
  have hsucc:=pw (alL s.sp) (p:=p) hsm.2.2.1
  have hpl:=kx (tm s.sp) hsm.2.2.1 p
  have hin:p/s.sp.wa.length<s.sp.st.length:=Nat.div_lt_of_lt_mul (by rw [Nat.mul_comm];exact hpm)
  have hkm:=Nat.mod_lt p hsm.2.2.1
  have hdm:=Nat.div_add_mod p s.sp.wa.length
  rw [Nat.mul_comm] at hdm
  have hu:(s.sp.u (p/s.sp.wa.length) (p%s.sp.wa.length):Int)=(p:Int)+1:=by unfold Spc.u;omega
  rw [nt hp]
  obtain ⟨al,ll,cl,rfl,hll⟩:=hO.shape
  generalize p/s.sp.wa.length=i at*
  generalize p%s.sp.wa.length=k at*
  have hk2:=hk.mono (hle1.trans hle2)
  refine .region (.o (.alloc hs lG rfl fun b3 w hs=>?_))
  refine .o (.aU (vs:=[_,_,_]) hs rfl rfl pZ fun w hs=>?_)
  refine .nil (nT (⟨H2,[.blk b3 [I (i:Int),I (k:Int),I ((p+1:Nat):Int)],.blk bm [I s.sp.id,I s.sp.src,.slice ast s.sp.st.length cst,.slice awa s.sp.wa.length cwa,I s.sp.al,I s.sp.up,vr,vc,vt,.slice al ll cl],en,.blk b1 [Pt bm],.blk b2 [I s.sp.id,I s.sp.src,.slice ast s.sp.st.length cst,.slice awa s.sp.wa.length cwa,I s.sp.al,I s.sp.up]],HLe.refl _,hs,?_⟩));rintro w σf4 - hs
  refine .block (.aj (.z (zfa dE) (.y hs (zld ae) (.z cu (.z (zfa bI) (.y hs (zld an) (.z (da af) (.zn fV (.bn rfl (fun hc19=>?_) (fun hc19=>?_))))))))))
  ·refine .seq (.draw mix rfl hs fun w hs=>?_)
   refine .zw 0 rfl (zfa ef) ?_;refine .z 1 rfl (zfa jW) ?_;refine .y 2 rfl hs ae ?_;refine .z 3 rfl (zfa bI) ?_;refine .y 4 rfl hs an ?_;refine .z 5 rfl (zfa dE) ?_;refine .y 6 rfl hs ae ?_;refine .z 7 rfl cu ?_
   have hris:=hok.st.rise i ak
   have hq0:=hok.st.bd (i:=i) ak
   have hq1:=hok.st.bd (i:=i+1) ak
   have hal:=hok.al
   refine .ixX (enc:=fun x=>[I x]) (i:=8) hs rfl aH .none hk2.st rfl rfl af ai (bJ (l:=s.sp.st) (i:=(i+1)) ak) cz ?_;intro b28 o28 hc28;replace hc28:=bL.one hc28
   refine .r (i:=9) hs rfl aH .none (aP rfl ae hc28) ?_
   refine .zw 10 rfl (zfa bI) ?_;refine .y 11 rfl hs an ?_;refine .z 12 rfl (zfa dE) ?_;refine .y 13 rfl hs ae ?_
   refine .ixX (enc:=fun x=>[I x]) (i:=14) hs rfl aH .none hk2.st rfl rfl af ai (bJ (l:=s.sp.st) (i:=i) ak) cz ?_;intro b34 o34 hc34;replace hc34:=bL.one hc34
   refine .r (i:=15) hs rfl aH .none (aP rfl ae hc34) ?_
   refine .zw 16 rfl fM (.E 17 hs ?_)
   refine .call Tryz.call243 rfl (mU hs ak ak) ?_;rintro _ w ⟨rfl,hs⟩
   refine .go (.zw 18 rfl zg ?_);refine .D hs ?_
   refine .region (.y hs (zld sw) (.z (zfa eX) (.y hs (zld ae) (.z (zfa eX) (.y hs (zld ae) (.z (zfa a8) (.y hs (zld an) (.z (da af) (.z cu (.z zm (.z zm (.z (zfa dR) (.y hs (zld ae) (.o (.call Cy rfl (iB (ls:=ls++rD (alL s.sp) s.sp.wa.length p) (hs.sb:St H2 w (.blk bm _::en:: .blk b1 _:: .blk b2 _::σf4)) hO (by rw [List.length_append];omega)) ?_)))))))))))))));rintro _ w ⟨vl3,en3,hO3,hs⟩
   have hu2:(s.sp.u (i+1) k:Int)=((p+1:Nat):Int)+(s.sp.wa.length:Int):=by unfold Spc.u at hu ⊢;rw [Nat.add_mul];omega
   rw [show two ((p+1:Nat):Int) (((p+1:Nat):Int)+(s.sp.wa.length:Int)) (kQ s.sp.al (gi s.sp.st (i+1) - gi s.sp.st i)) (kQ s.sp.al (gi s.sp.st (i+1) - gi s.sp.st i)) s.sp.src=alL s.sp i k by unfold alL;rw [if_pos ak,hu,hu2];rfl,List.append_assoc,←hsucc] at hO3
   refine .nil (nB ?_)
   exact ⟨H2,_,HLe.refl _,hs,_,_,rfl,hO3⟩
  ·refine .skip (nB ?_)
   rw [show alL s.sp i k=[] by unfold alL;rw [if_neg ak],List.append_nil] at hsucc
   exact ⟨H2,_,HLe.refl _,(hs.sb:St H2 w (.blk bm _::en:: .blk b1 _:: .blk b2 _::σf4)),_,_,rfl,by rw [hsucc];exact hO⟩
 ·rintro D H2 σb2 w hle2 ⟨vl,en,rfl,hO⟩ hs
  rw [eJ,show s.sp.many=s.sp.st.length*s.sp.wa.length from rfl,rC _ hsm.2.2.1] at hO
  refine nB ?_
  exact Fin.IQ [D] [] hs fun w hs=>⟨_,results0 Tryz.results191,H2,vl,en,hle1.trans hle2,hO,(hs.sb:St H2 w (.blk bm _::en::σ))⟩
theorem yt{s:Srv}{ts:List TD}{vst vwa vr vc vt vl:Value}{en:Ent}{bm:Nat}{ls:List Lim}(hs:St H w (.blk bm [I s.sp.id,I s.sp.src,vst,vwa,I s.sp.al,I s.sp.up,vr,vc,vt,vl]::en::σ))(hk:MkK H s ts vst vwa vr vc vt)(hO:cN 4 vl (iz ls) en)(hl:ls.length≤10000)(hok:eY s.sp):
  Cl Tryz.prog 192 [Pt bm] w fun _ w'=>∃H1 vl' en',HLe H H1∧cN 4 vl' (iz (ls++fa (upL s.sp) s.sp.wa.length s.sp.st.length)) en'∧St H1 w' (.blk bm [I s.sp.id,I s.sp.src,vst,vwa,I s.sp.al,I s.sp.up,vr,vc,vt,vl']::en'::σ):=by
 have hsm:=ez hok
 obtain ⟨ast,cst,rfl⟩:=RI.shape hk.st
 obtain ⟨awa,cwa,rfl⟩:=RI.shape hk.wa
 refine Cl.o Tryz.func192 Tryz.ntmps192 ag1 ?_
 refine .aj (.bx hs fun b1 w hs=>?_)
 refine .nil (.aj (.y hs (zld sw) (.z znc (.z (zfa dJ) (.z (zfa bj) (.y hs (zls [_,_,_,_,_,_] aK aA) (.o (.alloc hs jc rfl fun b2 w hs=>?_))))))))
 refine .o (.aU (vs:=[_,_,_,_,_,_]) hs rfl rfl aA fun w hs=>?_)
 refine .nil (.aj (.y hs (zls [_,_,_,_,_,_] aK aA) (.o (.call CB rfl (fZ (s:=s.sp) hs hk.st hk.wa ⟨ak,ak⟩) ?_))));rintro _ w ⟨H1,ba,hle1,rfl,hit,hs⟩
 refine .nil (.block ?_)
 refine .rangeFunc (gf:=188) (cap:=[Pt ba]) (xs:=xF s.sp) (σb:=[.blk bm [I s.sp.id,I s.sp.src,.slice ast s.sp.st.length cst,.slice awa s.sp.wa.length cwa,I s.sp.al,I s.sp.up,vr,vc,vt,vl],en,.blk b1 [Pt bm],.blk b2 [I s.sp.id,I s.sp.src,.slice ast s.sp.st.length cst,.slice awa s.sp.wa.length cwa,I s.sp.al,I s.sp.up]]) (σf:=σ) (hs.sb) trivial rfl hit CA (fun x hx=>by
   simp only [xF,List.mem_map] at hx
   obtain ⟨j,_,rfl⟩:=hx;rfl) rfl
  (I:=fun p H' σb=>∃vl en,σb=[.blk bm [I s.sp.id,I s.sp.src,.slice ast s.sp.st.length cst,.slice awa s.sp.wa.length cwa,I s.sp.al,I s.sp.up,vr,vc,vt,vl],en,.blk b1 [Pt bm],.blk b2 [I s.sp.id,I s.sp.src,.slice ast s.sp.st.length cst,.slice awa s.sp.wa.length cwa,I s.sp.al,I s.sp.up]]∧cN 4 vl (iz (ls++rD (upL s.sp) s.sp.wa.length p)) en) (Ix:=fun _ _ _=>False)
  (fun j _ _ σ g1 g2=>g2) (fun _ _ _ _ _ h=>h) ⟨vl,en,rfl,by rw [pv,List.append_nil];exact hO⟩ ?_ ?_ (fun D c H' σb w _ h _=>h.elim)
 ·rintro ly p hp H2 σb2 σf2 w hle2 ⟨vl,en,rfl,hO⟩ hs ⟨rr,hrr⟩
  have hpm:p<s.sp.many:=by rw [eJ] at hp;exact hp
  have hsucc:=pw (upL s.sp) (p:=p) hsm.2.2.1
  have hpl:=kx (sF s.sp) hsm.2.2.1 p
  have hin:p/s.sp.wa.length<s.sp.st.length:=Nat.div_lt_of_lt_mul (by rw [Nat.mul_comm];exact hpm)
  have hkm:=Nat.mod_lt p hsm.2.2.1
  have hdm:=Nat.div_add_mod p s.sp.wa.length
  rw [Nat.mul_comm] at hdm
  have hu:(s.sp.u (p/s.sp.wa.length) (p%s.sp.wa.length):Int)=(p:Int)+1:=by unfold Spc.u;omega
  rw [nt hp]
  obtain ⟨al,ll,cl,rfl,hll⟩:=hO.shape
  generalize p/s.sp.wa.length=i at*
  generalize p%s.sp.wa.length=k at*
  have hk2:=hk.mono (hle1.trans hle2)
  refine .region (.o (.alloc hs lG rfl fun b3 w hs=>?_))
  refine .o (.aU (vs:=[_,_,_]) hs rfl rfl pZ fun w hs=>?_)
  refine .nil (nT (⟨H2,[.blk b3 [I (i:Int),I (k:Int),I ((p+1:Nat):Int)],.blk bm [I s.sp.id,I s.sp.src,.slice ast s.sp.st.length cst,.slice awa s.sp.wa.length cwa,I s.sp.al,I s.sp.up,vr,vc,vt,.slice al ll cl],en,.blk b1 [Pt bm],.blk b2 [I s.sp.id,I s.sp.src,.slice ast s.sp.st.length cst,.slice awa s.sp.wa.length cwa,I s.sp.al,I s.sp.up]],HLe.refl _,hs,?_⟩));rintro w σf4 - hs
  refine .block (.aj (.z (zfa dn) (.y hs (zld ae) (.z cu (.z (zfa a8) (.y hs (zld an) (.z (da af) (.zn fV (.bn rfl (fun hc19=>?_) (fun hc19=>?_))))))))))
  ·refine .seq (.draw mix rfl hs fun w hs=>?_)
   refine .zw 0 rfl (zfa ef) ?_;refine .z 1 rfl (zfa jV) ?_;refine .y 2 rfl hs ae ?_;refine .z 3 rfl (zfa a8) ?_;refine .y 4 rfl hs an ?_;refine .z 5 rfl (zfa dn) ?_;refine .y 6 rfl hs ae ?_;refine .z 7 rfl cu ?_
   have hris:=hok.wa.rise k ak
   have hq0:=hok.wa.bd (i:=k) ak
   have hq1:=hok.wa.bd (i:=k+1) ak
   have hal:=hok.up
   refine .ixX (enc:=fun x=>[I x]) (i:=8) hs rfl aH .none hk2.wa rfl rfl af ai (bJ (l:=s.sp.wa) (i:=(k+1)) ak) cz ?_;intro b28 o28 hc28;replace hc28:=bL.one hc28
   refine .r (i:=9) hs rfl aH .none (aP rfl ae hc28) ?_
   refine .zw 10 rfl (zfa a8) ?_;refine .y 11 rfl hs an ?_;refine .z 12 rfl (zfa dn) ?_;refine .y 13 rfl hs ae ?_
   refine .ixX (enc:=fun x=>[I x]) (i:=14) hs rfl aH .none hk2.wa rfl rfl af ai (bJ (l:=s.sp.wa) (i:=k) ak) cz ?_;intro b34 o34 hc34;replace hc34:=bL.one hc34
   refine .r (i:=15) hs rfl aH .none (aP rfl ae hc34) ?_
   refine .zw 16 rfl fM (.E 17 hs ?_)
   refine .call Tryz.call243 rfl (mU hs ak ak) ?_;rintro _ w ⟨rfl,hs⟩
   refine .go (.zw 18 rfl zg ?_);refine .D hs ?_
   refine .region (.y hs (zld sw) (.z (zfa eX) (.y hs (zld ae) (.z (zfa eX) (.y hs (zld ae) (.z cu (.z zm (.z zm (.z (zfa dR) (.y hs (zld ae) (.o (.call Cy rfl (iB (ls:=ls++rD (upL s.sp) s.sp.wa.length p) (hs.sb:St H2 w (.blk bm _::en:: .blk b1 _:: .blk b2 _::σf4)) hO (by rw [List.length_append];omega)) ?_))))))))))));rintro _ w ⟨vl3,en3,hO3,hs⟩
   have hu2:(s.sp.u i (k+1):Int)=((p+1:Nat):Int)+1:=by unfold Spc.u at hu ⊢;omega
   rw [show two ((p+1:Nat):Int) (((p+1:Nat):Int)+1) (kQ s.sp.up (gi s.sp.wa (k+1) - gi s.sp.wa k)) (kQ s.sp.up (gi s.sp.wa (k+1) - gi s.sp.wa k)) s.sp.src=upL s.sp i k by unfold upL;rw [if_pos ak,hu,hu2];rfl,List.append_assoc,←hsucc] at hO3
   refine .nil (nB ?_)
   exact ⟨H2,_,HLe.refl _,hs,_,_,rfl,hO3⟩
  ·refine .skip (nB ?_)
   rw [show upL s.sp i k=[] by unfold upL;rw [if_neg ak],List.append_nil] at hsucc
   exact ⟨H2,_,HLe.refl _,(hs.sb:St H2 w (.blk bm _::en:: .blk b1 _:: .blk b2 _::σf4)),_,_,rfl,by rw [hsucc];exact hO⟩
 ·rintro D H2 σb2 w hle2 ⟨vl,en,rfl,hO⟩ hs
  rw [eJ,show s.sp.many=s.sp.st.length*s.sp.wa.length from rfl,rC _ hsm.2.2.1] at hO
  refine nB ?_
  exact Fin.IQ [D] [] hs fun w hs=>⟨_,results0 Tryz.results192,H2,vl,en,hle1.trans hle2,hO,(hs.sb:St H2 w (.blk bm _::en::σ))⟩
theorem s7{s:Srv}{ts:List TD}{vst vwa vr vc vt vl:Value}{en:Ent}{bm:Nat}{ls:List Lim}(hs:St H w (.blk bm [I s.sp.id,I s.sp.src,vst,vwa,I s.sp.al,I s.sp.up,vr,vc,vt,vl]::en::σ))(hk:MkK H s ts vst vwa vr vc vt)(hO:cN 4 vl (iz ls) en)(hl:ls.length≤10000)(hok:eY s.sp)(htl:ts.length≤100):
  Cl Tryz.prog 193 [Pt bm] w fun _ w'=>∃H1 vl' en',HLe H H1∧cN 4 vl' (iz (ls++yE s.sp ts.length)) en'∧St H1 w' (.blk bm [I s.sp.id,I s.sp.src,vst,vwa,I s.sp.al,I s.sp.up,vr,vc,vt,vl']::en'::σ):=by
 have hsm:=ez hok
 obtain ⟨at_,ct,rfl⟩:=RTd.shape hk.ts
 refine Cl.o Tryz.func193 Tryz.ntmps193 ag1 ?_
 refine .aj (.z zm (.z znc (.z (zfa gv) (.y hs (zld HD) (.z (da bD) (.zn zm (.for (N:=ts.length) (J:=fun j fr w=>fr=[(0,Pt bm)]∧∃vl en,cN 4 vl (iz (ls++yE s.sp j)) en∧St H w (.blk bm [I s.sp.id,I s.sp.src,vst,vwa,I s.sp.al,I s.sp.up,vr,vc,.slice at_ ts.length ct,vl]::en::σ)) ak ?_ ?_ ?_)))))))
 ·exact .mk ⟨rfl,vl,en,by show cN 4 vl (iz (ls++[])) en;rw [List.append_nil];exact hO,hs⟩
 ·rintro j fr w hj ⟨rfl,vl,en,hO,hs⟩
  have hel:=kg s.sp j
  obtain ⟨al,ll,cl,rfl,hll⟩:=hO.shape
  refine .block (.aj (.z zm (.zn zg (.draw mix rfl hs fun w hs=>?_))))
  refine .zw 0 rfl zm ?_;refine .z 1 rfl zm ?_;refine .z 2 rfl zm ?_;refine .z 4 rfl zm ?_;refine .z 5 rfl znc ?_;refine .z 6 rfl (zfa dJ) ?_;refine .z 7 rfl (zfa bj) ?_;refine .z 8 rfl (zfa dR) ?_;refine .y 9 rfl hs ae ?_
  refine .E 3 hs ?_
  refine .call Tryz.call244 rfl (lQ (s:=s.sp) hs .here hk.st hk.wa ⟨ak,ak⟩ ⟨ak,ak⟩) ?_;rintro _ w ⟨rfl,hs⟩
  refine .go (.E 10 hs ?_)
  refine .call Cy rfl (iB (ls:=ls++yE s.sp j) hs hO (by rw [List.length_append];omega)) ?_;rintro _ w ⟨vl3,en3,hO3,hs⟩
  rw [show (s.sp.many:Int)+1+(j:Int)=((s.sp.many+1+j:Nat):Int) by omega,List.append_assoc] at hO3
  refine .go (.D hs (nB (nT ?_)))
  exact .mk ⟨rfl,vl3,en3,hO3,hs⟩
 ·rintro fr w ⟨rfl,vl,en,hO,hs⟩
  exact Fin.zV Tryz.results193 ⟨H,vl,en,HLe.refl _,hO,hs⟩
set_option maxHeartbeats 1000000 in
theorem qD{s:Srv}{ts:List TD}{vst vwa vr vc vt vl:Value}{en:Ent}{bm:Nat}{ls:List Lim}(hs:St H w (.blk bm [I s.sp.id,I s.sp.src,vst,vwa,I s.sp.al,I s.sp.up,vr,vc,vt,vl]::en::σ))(hk:MkK H s ts vst vwa vr vc vt)(hO:cN 4 vl (iz ls) en)(hl:ls.length≤10000)(hok:eY s.sp)(htl:ts.length≤100)(hcl:s.cs.length≤20)(hc:∀c∈s.cs,qP c){j0:Nat}(hj0:j0≤ts.length):
  Cl Tryz.prog 245 [Pt bm,I (j0:Int)] w fun _ w'=>∃H1 vl' en',HLe H H1∧cN 4 vl' (iz (ls++uV s.sp ts s.cs j0 s.cs.length)) en'∧St H1 w' (.blk bm [I s.sp.id,I s.sp.src,vst,vwa,I s.sp.al,I s.sp.up,vr,vc,vt,vl']::en'::σ):=by
 have hsm:=ez hok
 obtain ⟨at_,ct,rfl⟩:=RTd.shape hk.ts
 obtain ⟨ac,cc,rfl⟩:=RCm.shape hk.cs
 refine Cl.o Tryz.func245 Tryz.ntmps245 ag2 ?_
 refine .aj (.z zm (.z znc (.z (zfa dJ) (.z (zfa ck) (.y hs (zld ea) (.z (da bk) (.zn zm (.for (N:=s.cs.length) (J:=fun i fr w=>fr=[(12,.slice ac s.cs.length cc),(0,Pt bm),(1,I (j0:Int))]∧∃vl en,cN 4 vl (iz (ls++uV s.sp ts s.cs j0 i)) en∧St H w (.blk bm [I s.sp.id,I s.sp.src,vst,vwa,I s.sp.al,I s.sp.up,vr,.slice ac s.cs.length cc,.slice at_ ts.length ct,vl]::en::σ)) ak ?_ ?_ ?_))))))))
 ·exact .mk ⟨rfl,vl,en,by show cN 4 vl (iz (ls++[])) en;rw [List.append_nil];exact hO,hs⟩
 ·rintro i fr w hi ⟨rfl,vl,en,hO,hs⟩
  obtain ⟨c,hx⟩:=nth hi
  obtain ⟨g1,g2,g3,g4,g5,g6⟩:=hc c (List.mem_of_getElem? hx)
  have hcl1:=kh s.sp ts s.cs j0 i
  have hcl2:i*(2*(ts.length - j0))≤20*(2*100):=Nat.mul_le_mul ak ak
  refine .block (.aj (.ixX (enc:=Cmp.c) hs hk.cs rfl rfl bk cD hx cz ?_));intro b16 o16 hc16
  refine .q hs (bQ (vs:=(Cmp.c c)) rfl HE cD hc16) (.o (.alloc hs y8 rfl fun b5 w hs=>?_))
  refine .o (.aU (vs:=c.c) hs rfl rfl cD fun w hs=>?_)
  replace hs:St H w (.blk bm [I s.sp.id,I s.sp.src,vst,vwa,I s.sp.al,I s.sp.up,vr,.slice ac s.cs.length cc,.slice at_ ts.length ct,vl]::en:: .blk b5 [I c.src,I c.tape,I c.fr,I c.to,I c.lo,I c.hi]::σ):=hs.sb
  refine .nil (.aj (.z zm (.zn zg (.block ?_))))
  refine .loop (fun j:Nat=>⟨62,[],[(6,I ((j0+j:Nat):Int)),(5,Pt b5),(14,I (i:Int)),(13,I (s.cs.length:Int)),(12,.slice ac s.cs.length cc),(0,Pt bm),(1,I (j0:Int))]⟩)
   (fun j w=>j0+j≤ts.length∧∃vl en,cN 4 vl (iz (ls++uV s.sp ts s.cs j0 i++lT s.sp ts c j0 j)) en∧St H w (.blk bm [I s.sp.id,I s.sp.src,vst,vwa,I s.sp.al,I s.sp.up,vr,.slice ac s.cs.length cc,.slice at_ ts.length ct,vl]::en:: .blk b5 [I c.src,I c.tape,I c.fr,I c.to,I c.lo,I c.hi]::σ)) (fun j=>ts.length - (j0+j)) 0 a6
   ⟨ak,vl,en,by show cN 4 vl (iz (_++[])) en;rw [List.append_nil];exact hO,hs⟩ ?_
  clear hO hs
  rintro j w ⟨hj,vl,en,hO,hs⟩
  have hl1:=mn s.sp ts c j0 j
  obtain ⟨al,ll,cl,rfl,hll⟩:=hO.shape
  refine .seq (.aj (.z zm (.z zm (.z znc (.z (zfa gv) (.y hs (zld HD) (.z (da bD) (.zn fV (.bn rfl (fun hc25=>?_) (fun hc25=>?_))))))))))
  ·refine .skip (nT (.seq (.block (.aj (.z zm (.z znc (.z (zfa gv) (.y hs (zld HD) (.z zm ?_)))))))))
   obtain ⟨t,ht⟩:=nth (l:=ts) (k:=j0+j) ak
   have ht0:=F9 ht
   refine .ixX (enc:=TD.c) hs hk.ts rfl rfl bD bP ht cz ?_;intro b33 o33 hc33
   refine .q hs (bQ (vs:=(TD.c t)) rfl eu bP hc33) (.o (.alloc hs lH rfl fun b7 w hs=>?_))
   refine .o (.aU (vs:=t.c) hs rfl rfl bP fun w hs=>?_)
   change St _ _ (.blk b7 [I t.tape,I t.day]::_) at hs
   refine .nil (.aj (.z (zfa nJ) (.y hs (zld ae) (.z (zfa jB) (.y hs (zld ae) (.z fF (.z zm (.ie (t':=40) rfl (fun hb40=>?_) (fun hb40=>?_)))))))))
   ·refine .T ?_
    refine .z (zfa kR) (.T (.y hs (zld ae) (.T (.z (zfa gj) (.T (.y hs (zld ae) (.T (.z (zfa fC) (.T (.y hs (zld ae) (.T (.o (.call dP rfl (bK hs) ?_)))))))))))));rintro _ w ⟨rfl,hs⟩
    refine .zn zpT (.cond rfl (fun hc48=>?_) (fun hc48=>?_))
    ·refine .draw mix rfl hs fun w hs=>?_
     refine .zw 0 rfl zm ?_;refine .z 1 rfl zm ?_;refine .z 2 rfl zm ?_;refine .z 4 rfl (zfa fB) ?_;refine .y 5 rfl hs ae ?_;refine .z 6 rfl Ev ?_;refine .z 7 rfl (zfa fA) ?_;refine .y 8 rfl hs ae ?_;refine .z 9 rfl (zfa ir) ?_;refine .y 10 rfl hs ae ?_
     refine .E 3 hs ?_
     refine .call Tryz.call244 rfl (lQ (s:=s.sp) hs (.there .here) hk.st hk.wa ⟨ak,ak⟩ ⟨ak,ak⟩) ?_;rintro _ w ⟨rfl,hs⟩
     refine .go (.E 11 hs ?_)
     refine .call Cy rfl (iB (ls:=ls++uV s.sp ts s.cs j0 i++lT s.sp ts c j0 j) (hs.tail:St H w (.blk bm _::en:: .blk b5 _::σ)) hO (by rw [List.length_append,List.length_append];omega)) ?_;rintro _ w ⟨vl3,en3,hO3,hs⟩
     refine .go (.D hs (nB (nT (.region (.z zm (.z cu (.zn zg (nT ?_))))))))
     have e:lT s.sp ts c j0 (j+1)=lT s.sp ts c j0 j++two 0 ((s.sp.many:Int)+1+((j0+j:Nat):Int)) (-c.lo) c.hi c.src:=by
      show _++my c (td0 ts (j0+j)) _=_
      rw [ht0];unfold my;rw [if_pos (by simp at hc48;omega)]
      rw [show ((s.sp.many+1+(j0+j):Nat):Int)=(s.sp.many:Int)+1+((j0+j:Nat):Int) by omega]
     rw [List.append_assoc _ (lT _ _ _ _ _),←e] at hO3
     exact ⟨j+1,.cP rfl (by simp;omega) a6,⟨ak,vl3,en3,hO3,hs⟩,ak⟩
    ·refine .skip (nB (nT (.region (.z zm (.z cu (.zn zg (nT ?_)))))))
     have e:lT s.sp ts c j0 (j+1)=lT s.sp ts c j0 j:=by
      show _++my c (td0 ts (j0+j)) _=_
      rw [ht0];unfold my;rw [if_neg (by simp at hc48;omega),List.append_nil]
     exact ⟨j+1,.cP rfl (by simp;omega) a6,⟨ak,_,en,by rw [e];exact hO,hs.tail⟩,ak⟩
   ·refine .Fs 7 5 true (.zn zpF (.cF (.skip (nB (nT (.region (.z zm (.z cu (.zn zg (nT ?_))))))))))
    have e:lT s.sp ts c j0 (j+1)=lT s.sp ts c j0 j:=by
     show _++my c (td0 ts (j0+j)) _=_
     rw [ht0];unfold my;rw [if_neg ak,List.append_nil]
    exact ⟨j+1,.cP rfl (by simp;omega) a6,⟨ak,_,en,by rw [e];exact hO,hs.tail⟩,ak⟩
  ·refine .exit (xT (xT (xB (nB (nT ?_)))))
   obtain rfl:j=ts.length - j0:=by omega
   rw [List.append_assoc,show uV s.sp ts s.cs j0 i++lT s.sp ts c j0 (ts.length - j0)=uV s.sp ts s.cs j0 (i+1) by rw [←D6 hx];rfl] at hO
   exact .mk ⟨rfl,_,en,hO,hs.sb⟩
 ·rintro fr w ⟨rfl,vl,en,hO,hs⟩
  exact Fin.zV Tryz.results245 ⟨H,vl,en,HLe.refl _,hO,hs⟩
theorem ob{s:Srv}{ts:List TD}{vst vwa vr vc vt vl:Value}{en:Ent}{bm:Nat}{ls:List Lim}(hs:St H w (.blk bm [I s.sp.id,I s.sp.src,vst,vwa,I s.sp.al,I s.sp.up,vr,vc,vt,vl]::en::σ))(hk:MkK H s ts vst vwa vr vc vt)(hO:cN 4 vl (iz ls) en)(hl:ls.length≤10000)(hok:eY s.sp)(htl:ts.length≤100)(hcl:s.cs.length≤20)(hc:∀c∈s.cs,qP c):
  Cl Tryz.prog 194 [Pt bm] w fun _ w'=>∃H1 vl' en',HLe H H1∧cN 4 vl' (iz (ls++uV s.sp ts s.cs 0 s.cs.length)) en'∧St H1 w' (.blk bm [I s.sp.id,I s.sp.src,vst,vwa,I s.sp.al,I s.sp.up,vr,vc,vt,vl']::en'::σ):=by
 refine Cl.o Tryz.func194 Tryz.ntmps194 ag1 ?_
 refine .region (.z zm (.o (.call Tryz.call245 rfl (qD (s:=s) (ts:=ts) (j0:=0) hs hk hO hl hok htl hcl hc ak) ?_)));rintro _ w hs
 refine .nil ?_
 exact Fin.zV Tryz.results194 hs
set_option maxHeartbeats 1000000 in
theorem qC{s:Srv}{ts:List TD}{vst vwa vr vc vt vl:Value}{en:Ent}{bm:Nat}{ls:List Lim}(hs:St H w (.blk bm [I s.sp.id,I s.sp.src,vst,vwa,I s.sp.al,I s.sp.up,vr,vc,vt,vl]::en::σ))(hk:MkK H s ts vst vwa vr vc vt)(hO:cN 4 vl (iz ls) en)(hl:ls.length≤10000)(hok:eY s.sp)(htl:ts.length≤100)(hrl:s.rs.length≤60)(hr:∀r∈s.rs,na s.sp r)(hmem:∀r∈s.rs,r.td∈ts):
  Cl Tryz.prog 195 [Pt bm] w fun _ w'=>∃H1 vl' en',HLe H H1∧cN 4 vl' (iz (ls++wI s.sp ts s.rs s.rs.length)) en'∧St H1 w' (.blk bm [I s.sp.id,I s.sp.src,vst,vwa,I s.sp.al,I s.sp.up,vr,vc,vt,vl']::en'::σ):=by
 have hsm:=ez hok
 obtain ⟨at_,ct,rfl⟩:=RTd.shape hk.ts
 obtain ⟨ar,cr,rfl⟩:=RRd.shape hk.rs
 refine Cl.o Tryz.func195 Tryz.ntmps195 ag1 ?_
 refine .aj (.z zm (.z znc (.z (zfa dJ) (.z (zfa aO) (.y hs (zld bG) (.z (da au) (.zn zm (.for (N:=s.rs.length) (J:=fun i fr w=>fr=[(9,.slice ar s.rs.length cr),(0,Pt bm)]∧∃vl en,cN 4 vl (iz (ls++wI s.sp ts s.rs i)) en∧St H w (.blk bm [I s.sp.id,I s.sp.src,vst,vwa,I s.sp.al,I s.sp.up,.slice ar s.rs.length cr,vc,.slice at_ ts.length ct,vl]::en::σ)) ak ?_ ?_ ?_))))))))
 ·exact .mk ⟨rfl,vl,en,by show cN 4 vl (iz (ls++[])) en;rw [List.append_nil];exact hO,hs⟩
 ·rintro i fr w hi ⟨rfl,vl,en,hO,hs⟩
  obtain ⟨r,hx⟩:=nth hi
  obtain ⟨g1,g2,g3,g4,g5,g6,g7⟩:=hr r (List.mem_of_getElem? hx)
  obtain ⟨k,k1,k2,k3⟩:=iK (hmem r (List.mem_of_getElem? hx))
  have hrl1:=kb s.sp ts s.rs i
  obtain ⟨al,ll,cl,rfl,hll⟩:=hO.shape
  refine .block (.aj (.ixX (enc:=Rdg.c) hs hk.rs rfl rfl au aI hx cz ?_));intro b13 o13 hc13
  refine .q hs (bQ (vs:=(Rdg.c r)) rfl ew aI hc13) (.o (.alloc hs ff rfl fun b3 w hs=>?_))
  refine .o (.aU (vs:=r.c) hs rfl rfl aI fun w hs=>?_)
  change St _ _ (.blk b3 [I r.src,I r.st,I r.wa,I r.val,I r.tol,I r.tape,I r.day]::_) at hs
  refine .nil (.seq (.draw mix rfl hs fun w hs=>?_))
  refine .zw 0 rfl zm ?_;refine .z 1 rfl znc ?_;refine .z 2 rfl (zfa gv) ?_;refine .y 3 rfl hs HD ?_;refine .ys 4 rfl hs [_,_,_,_,_,_,_] ew aI ?_
  refine .E 5 hs ?_
  refine .call Tryz.call241 rfl (jF hs) ?_;rintro _ w ⟨rfl,hs⟩
  refine .go (.E 6 hs ?_)
  refine .call Tryz.call246 rfl (vD (t:=r.td) hs hk.ts ak) ?_;rintro _ w ⟨rfl,hs⟩
  refine .go (.zw 7 rfl zg ?_);refine .D hs ?_
  refine .draw mix rfl hs fun w hs=>?_
  refine .zw 0 rfl zm ?_;refine .z 1 rfl zm ?_;refine .z 2 rfl zm ?_;refine .z 4 rfl zm ?_;refine .z 5 rfl znc ?_;refine .z 6 rfl (zfa dJ) ?_;refine .z 7 rfl (zfa bj) ?_;refine .ys 8 rfl hs [_,_,_,_,_,_] aK aA ?_;refine .z 9 rfl (zfa gg) ?_;refine .y 10 rfl hs ae ?_
  refine .zw 11 rfl (zfa gd) ?_;refine .y 12 rfl hs ae ?_;refine .z 14 rfl (zfa du) ?_;refine .y 15 rfl hs ae ?_;refine .z 16 rfl (zfa di) ?_;refine .y 17 rfl hs ae ?_;refine .z 18 rfl cu ?_;refine .z 19 rfl (zfa di) ?_;refine .y 20 rfl hs ae ?_;refine .z 21 rfl (zfa du) ?_
  refine .y 22 rfl hs ae ?_;refine .z 23 rfl fM ?_;refine .z 24 rfl (zfa eQ) ?_;refine .y 25 rfl hs ae ?_
  refine .E 3 hs ?_
  refine .call Tryz.call244 rfl (lQ (s:=s.sp) hs (.there .here) hk.st hk.wa ⟨ak,ak⟩ ⟨ak,ak⟩) ?_;rintro _ w ⟨rfl,hs⟩
  refine .go (.E 13 hs ?_)
  refine .call Tryz.call247 rfl (pI (s:=s.sp) hs hk.wa ak ⟨ak,ak⟩ ⟨ak,ak⟩) ?_;rintro _ w ⟨rfl,hs⟩
  refine .go (.E 26 hs ?_)
  refine .call Cy rfl (iB (ls:=ls++wI s.sp ts s.rs i) (hs.sb:St H w (.blk bm _::en:: .blk b3 _::σ)) hO (by rw [List.length_append];omega)) ?_;rintro _ w ⟨vl3,en3,hO3,hs⟩
  refine .go (.D hs (nB (nT ?_)))
  rw [List.append_assoc,show wI s.sp ts s.rs i++two ((s.sp.many:Int)+1+kL ts r.td) (1+r.st*s.sp.wa.length+r.wa) (r.val+r.tol) (r.tol - r.val) r.src=wI s.sp ts s.rs (i+1) by rw [←C7 hx];rfl] at hO3
  exact .mk ⟨rfl,vl3,en3,hO3,hs.sb⟩
 ·rintro fr w ⟨rfl,vl,en,hO,hs⟩
  exact Fin.zV Tryz.results195 ⟨H,vl,en,HLe.refl _,hO,hs⟩
def fnK:Nat→Nat
 |0=>190
 |1=>191
 |2=>192
 |3=>193
 |4=>194
 |_=>195
theorem Fz{k:Nat}(hk:k<6):∀args w,(callFunc (fnK k) args).run Tryz.prog w= .ok (.enter (fnK k) args) w:=by
 have h:k=0∨k=1∨k=2∨k=3∨k=4∨k=5:=by omega
 rcases h with rfl|rfl|rfl|rfl|rfl|rfl
 ·exact Tryz.call190
 ·exact Tryz.call191
 ·exact Tryz.call192
 ·exact Tryz.call193
 ·exact Tryz.call194
 ·exact Tryz.call195
theorem Dm{s:Srv}{vst vwa vr vc vt vl:Value}{en:Ent}{bm k:Nat}(hs:St H w (.blk bm [I s.sp.id,I s.sp.src,vst,vwa,I s.sp.al,I s.sp.up,vr,vc,vt,vl]::en::σ))(hk:MkK H s s.cI vst vwa vr vc vt)(hO:cN 4 vl (iz (s.parts k)) en)(he:s.early)(hk6:k<6):
  Cl Tryz.prog (fnK k) [Pt bm] w fun _ w'=>∃H1 vl' en',HLe H H1∧cN 4 vl' (iz (s.parts (k+1))) en'∧St H1 w' (.blk bm [I s.sp.id,I s.sp.src,vst,vwa,I s.sp.al,I s.sp.up,vr,vc,vt,vl']::en'::σ):=by
 have hl:=kv he k ak
 obtain ⟨hok,h1,h2,h3,h4⟩:=he
 have htl:s.cI.length≤100:=by have:=dQ s.rs;unfold Srv.cI;omega
 have h:k=0∨k=1∨k=2∨k=3∨k=4∨k=5:=by omega
 rcases h with rfl|rfl|rfl|rfl|rfl|rfl
 ·exact qE hs hk hO (Nat.le_trans hl dL) hok
 ·exact uk hs hk hO (Nat.le_trans hl dL) hok
 ·exact yt hs hk hO (Nat.le_trans hl dL) hok
 ·exact s7 hs hk hO (Nat.le_trans hl dL) hok htl
 ·exact ob hs hk hO (Nat.le_trans hl dL) hok htl h2 h4
 ·exact qC hs hk hO (Nat.le_trans hl dL) hok htl h1 h3 fun r hr=>ia.2 ⟨r,hr,rfl⟩
def fnV(b:Nat)(k:Nat):Value:= .func (.func (fnK k)) #[Pt b] #[]
theorem GR(b:Nat){k:Nat}(hk:k<6):[fnV b 0,fnV b 1,fnV b 2,fnV b 3,fnV b 4,fnV b 5][k]? =some (fnV b k):=by
 have h:k=0∨k=1∨k=2∨k=3∨k=4∨k=5:=by omega
 rcases h with rfl|rfl|rfl|rfl|rfl|rfl<;>rfl
set_option maxHeartbeats 1000000 in
theorem rn{s:Srv}{vst vwa vr vc:Value}(hs:St H w σ)(h1:RI H vst s.sp.st)(h2:RI H vwa s.sp.wa)(h3:RRd H vr s.rs)(h4:RCm H vc s.cs)(he:s.early):
  Cl Tryz.prog 133 [.agg #[I s.sp.id,I s.sp.src,vst,vwa,I s.sp.al,I s.sp.up,vr,vc]] w fun u w'=>∃H1 vl en,HLe H H1∧u= .agg #[I s.sys.many,vl]∧cN 4 vl (iz s.cO) en∧St H1 w' (en::σ):=by
 have hsm:=ez he.1
 have htl:s.cI.length≤60:=by have:=dQ s.rs;have:=he.2.1;unfold Srv.cI;omega
 refine Cl.o Tryz.func133 Tryz.ntmps133 ag1 ?_
 refine .aj (.bx hs fun b1 w hs=>?_)
 refine .o (.alloc hs eE rfl fun b2 w hs=>?_)
 refine .nil (.seq (.draw mix rfl hs fun w hs=>?_))
 refine .ys 0 rfl hs [_,_,_,_,_,_,_,_] aQ aC ?_;refine .ys 1 rfl hs [_,_,_,_,_,_,_,_] aQ aC ?_
 refine .E 2 hs ?_
 refine .call Tryz.call189 rfl (rm hs h3 (by have:=he.2.1;omega)) ?_;rintro v8 w ⟨H1,hle1,hT,hs⟩
 obtain ⟨at_,ct,rfl⟩:=RTd.shape hT
 have hk0:MkK H1 s s.cI vst vwa vr vc (.slice at_ s.cI.length ct):=⟨h1.mono hle1,h2.mono hle1,h3.mono hle1,h4.mono hle1,hT⟩
 refine .go (.zw 3 rfl (zbd (vs:=[(0,.agg #[I s.sp.id,I s.sp.src,vst,vwa,I s.sp.al,I s.sp.up,vr,vc]),(1,.slice at_ s.cI.length ct)]) [I s.sp.id,I s.sp.src,vst,vwa,I s.sp.al,I s.sp.up,vr,vc,.slice at_ s.cI.length ct,.slice none 0 0] tk rfl aH) (.E 4 hs ?_))
 refine .box hs rfl rfl ?_;intro b10 w hs
 refine .go (.zw 5 rfl zg ?_);refine .D hs ?_
 refine .seq (.aj (.z zm (.q hs (dD (f:=[_]) (c:=[]) rfl rfl) (.z zm (.q hs (dD (f:=[_]) (c:=[]) rfl rfl) (.z zm (.q hs (dD (f:=[_]) (c:=[]) rfl rfl) (.z zm (.q hs (dD (f:=[_]) (c:=[]) rfl rfl) (.z zm (.q hs (dD (f:=[_]) (c:=[]) rfl rfl) (.z zm (.q hs (dD (f:=[_]) (c:=[]) rfl rfl) (.o (.buildSlice (cells:=[fnV b10 0,fnV b10 1,fnV b10 2,fnV b10 3,fnV b10 4,fnV b10 5]) hs yK rfl aH fun b23 w hs=>?_)))))))))))))))
 refine .z (da Tryz.runUnderlying247) (.zn zm (.for (N:=6) (J:=fun k fr w=>fr=[(23,.slice (some ⟨b23,0,none⟩) 6 6),(3,Pt b10),(2,Pt b2),(1,Pt b1)]∧∃H2 vl en,HLe H1 H2∧cN 4 vl (iz (s.parts k)) en∧St H2 w (.blk b10 [I s.sp.id,I s.sp.src,vst,vwa,I s.sp.al,I s.sp.up,vr,vc,.slice at_ s.cI.length ct,vl]::en:: .blk b23 [fnV b10 0,fnV b10 1,fnV b10 2,fnV b10 3,fnV b10 4,fnV b10 5]:: .blk b2 [I 0,.slice none 0 0]:: .blk b1 [I s.sp.id,I s.sp.src,vst,vwa,I s.sp.al,I s.sp.up,vr,vc]::σ)) ak ?_ ?_ ?_))
 ·exact .mk ⟨rfl,H1,.slice none 0 0,.nul,HLe.refl _,.nil 4 none,hs.nul.sb⟩
 ·rintro k fr w hk ⟨rfl,H2,vl,en,hle2,hO,hs⟩
  refine .block (.aj (.z (zix Tryz.runUnderlying247 Tryz.sizeOf1) (.q hs (gY rfl Tryz.isAgg1 (hv:=GR b10 hk)) (.zn zg (.region (.z zm (.o (.pQ (first:=[Pt b10]) (cap:=[]) rfl rfl (Fz hk) (Dm hs (hk0.mono hle2) hO he hk) ?_))))))));rintro _ w ⟨H3,vl3,en3,hle3,hO3,hs⟩
  refine .nil (nB (nT ?_))
  exact .mk ⟨rfl,H3,vl3,en3,hle2.trans hle3,hO3,hs⟩
 ·rintro fr w ⟨rfl,H2,vl,en,hle2,hO,hs⟩
  rw [s.vU] at hO
  obtain ⟨al,ll,cl,rfl,hll⟩:=hO.shape
  refine nT (.seq (.draw mix rfl hs fun w hs=>?_))
  refine .zw 0 rfl (zfa bj) ?_;refine .ys 1 rfl hs [_,_,_,_,_,_] aK aA ?_;refine .z 3 rfl zm ?_;refine .z 4 rfl znc ?_;refine .z 5 rfl (zfa gv) ?_;refine .y 6 rfl hs HD ?_;refine .z 7 rfl (da bD) ?_;refine .z 9 rfl zm ?_;refine .z 10 rfl znc ?_;refine .z 11 rfl (zfa jT) ?_
  refine .zv 12 rfl hs (od dr) (.E 2 hs ?_)
  refine .call Tryz.call196 rfl (mT (s:=s.sp) hs (h1.mono (hle1.trans hle2)) (h2.mono (hle1.trans hle2)) ⟨ak,ak⟩) ?_;rintro _ w ⟨rfl,hs⟩
  refine .go (.zw 8 rfl cu ?_);refine .z 13 rfl (zbd [_,_] mJ) ?_
  refine .E 14 hs ?_
  refine .aU (vs:=[_,_]) hs rfl rfl aV ?_;intro w hs
  refine .go (.D hs (.ret ?_))
  replace hs:St H2 w (.blk b2 [I ((s.sp.many:Int)+(s.cI.length:Int)),.slice al ll cl]::en::σ):=hs.sb
  exact Fin.jt [] [] hs fun w hs=>⟨_,results1 Tryz.results133 (dK (vs:=[_,_]) hs rfl bM aV),H2,_,en,hle1.trans hle2,by show _=Value.agg #[I ((s.sp.many+s.cI.length:Nat):Int),_];rw [Int.natCast_add],hO,hs.tail⟩
theorem fN{s:Srv}{vst vwa vr vc:Value}(hs:St H w σ)(h1:RI H vst s.sp.st)(h2:RI H vwa s.sp.wa)(h3:RRd H vr s.rs)(h4:RCm H vc s.cs)(he:s.early):
  Cl Tryz.prog 133 [.agg #[I s.sp.id,I s.sp.src,vst,vwa,I s.sp.al,I s.sp.up,vr,vc]] w fun u w'=>∃H1,HLe H H1∧RSy H1 u s.sys∧St H1 w' σ:=by
 refine (rn hs h1 h2 h3 h4 he).mono ?_
 rintro u w' ⟨H1,vl,en,hle,rfl,hO,hs⟩
 have hl:=kv he 6 ak
 rw [s.vU] at hl
 obtain ⟨H2,hle2,hR,hs⟩:=cN.cQ (m:=4) (cs:=s.cO.map Lim.c) hO (fun c hc=>by simp only [List.mem_map] at hc;obtain ⟨x,_,rfl⟩:=hc;rfl) ak (by rw [List.length_map];omega) hs .here
 exact ⟨H2,hle.trans hle2,⟨vl,rfl,hR⟩,hs⟩
set_option maxHeartbeats 1000000 in
theorem gu{s:Srv}{vst vwa vr vc:Value}(hs:St H w σ)(h1:RI H vst s.sp.st)(h2:RI H vwa s.sp.wa)(h3:RRd H vr s.rs)(h4:RCm H vc s.cs):
  Cl Tryz.prog 117 [.agg #[I s.sp.id,I s.sp.src,vst,vwa,I s.sp.al,I s.sp.up,vr,vc]] w fun u w'=>∃H1 e,HLe H H1∧u=I e∧yP s e∧St H1 w' σ:=by
 obtain ⟨ast,cst,rfl⟩:=RI.shape h1
 obtain ⟨awa,cwa,rfl⟩:=RI.shape h2
 obtain ⟨ar,cr,rfl⟩:=RRd.shape h3
 obtain ⟨ac,cc,rfl⟩:=RCm.shape h4
 refine Cl.o Tryz.func117 Tryz.ntmps117 ag1 ?_
 refine .aj (.bx hs fun b1 w hs=>?_)
 refine .zn zg (.seq (.aj (.z (zfa bj) (.y hs (zls [_,_,_,_,_,_] aK aA) (.o (.call Tryz.call111 rfl (jS (s:=s.sp) hs h1 h2) ?_))))));rintro _ w ⟨H1,e,hle1,rfl,he,hs⟩
 refine .zn zg (.aj (.z zm (.zn hZ (.dZ rfl (fun hc13=>?_) (fun hc13=>?_)))))
 ·refine .aj (.z zm (.zn zg (.ret (rT (Fin.bq kZ rfl ?_)))))
  have hq:¬eY s.sp∧e=30:=he.resolve_left fun h=>hc13 h.2
  exact ⟨H1,_,hle1,rfl,by rw [hq.2];exact .space hq.1,hs.out⟩
 ·refine .skip (nT (.seq (.aj (.z (zfa aO) ?_))))
  have hok:eY s.sp:=(he.resolve_right fun h=>by omega).1
  refine .y hs (zld bG) (.z (da au) (.z k7 (.z zm (.ie (t':=19) rfl (fun hb19=>?_) (fun hb19=>?_)))))
  ·refine .Fs 4 4 false (.zn zpT (.cT (.aj (.zn zg (.ret (rT (Fin.bq kZ rfl ?_)))))))
   exact ⟨H1,_,hle1,rfl,.long hok ak,hs.out⟩
  ·refine .T (.z (zfa ck) (.T (.y hs (zld ea) (.T (.z (da bk) (.T (.z k7 (.zn zpF (.bn rfl (fun hc24=>?_) (fun hc24=>?_))))))))))
   ·refine .aj (.zn zg (.ret (rT (Fin.bq kZ rfl ?_))))
    exact ⟨H1,_,hle1,rfl,.long hok ak,hs.out⟩
   ·refine .skip (nT (.seq (.aj (.z (zfa aO) (.y hs (zld bG) (.z (da au) (.zn zm (.for (N:=s.rs.length) (J:=fun k fr w=>fr=[(26,.slice ar s.rs.length cr),(1,Pt b1)]∧(∀j<k,∀y,s.rs[j]? =some y→na s.sp y)∧St H1 w (.blk b1 [I s.sp.id,I s.sp.src,.slice ast s.sp.st.length cst,.slice awa s.sp.wa.length cwa,I s.sp.al,I s.sp.up,.slice ar s.rs.length cr,.slice ac s.cs.length cc]::σ)) ak ?_ ?_ ?_))))))))
    ·exact .mk ⟨rfl,fun j hj=>by omega,hs⟩
    ·rintro k fr w hk ⟨rfl,hno,hs⟩
     obtain ⟨r,hx⟩:=nth hk
     refine .block (.aj (.ixX (enc:=Rdg.c) hs (h3.mono hle1) rfl rfl au aI hx cz ?_));intro b30 o30 hc30
     refine .q hs (bQ (vs:=(Rdg.c r)) rfl ew aI hc30) (.o (.alloc hs ff rfl fun b5 w hs=>?_))
     refine .o (.aU (vs:=r.c) hs rfl rfl aI fun w hs=>?_)
     change St _ _ (.blk b5 [I r.src,I r.st,I r.wa,I r.val,I r.tol,I r.tape,I r.day]::_) at hs
     refine .nil (.aj (.z (zfa bj) (.y hs (zls [_,_,_,_,_,_] aK aA) (.y hs (zls [_,_,_,_,_,_,_] ew aI) (.o (.call Tryz.call120 rfl (nW (s:=s.sp) (r:=r) hs (h1.mono hle1) (h2.mono hle1)) ?_))))));rintro _ w ⟨b35,rfl,hb35,hs⟩
     refine .zn fI (.cond rfl (fun hc36=>?_) (fun hc36=>?_))
     ·refine .aj (.zn zg (.ret (rB (rT (rB (rT (Fin.bq kZ rfl ?_)))))))
      exact ⟨H1,_,hle1,rfl,.rdg hok ak (fun h=>by rw [hb35.2 (h r (List.mem_of_getElem? hx))] at hc36;cases hc36),hs.out⟩
     ·refine .skip (nB (nT ?_))
      exact .mk ⟨rfl,fi hno hx (hb35.1 (by simpa using hc36)),hs.tail⟩
    ·rintro fr w ⟨rfl,hno,hs⟩
     have hrs:∀r∈s.rs,na s.sp r:=fun r hr=>by
      obtain ⟨j,hj⟩:=List.getElem?_of_mem hr
      exact hno j (List.getElem?_eq_some_iff.1 hj).1 r hj
     clear hno
     refine nT (.seq (.aj (.z (zfa ck) (.y hs (zld ea) (.z (da bk) (.zn zm (.for (N:=s.cs.length) (J:=fun k fr w=>fr=[(39,.slice ac s.cs.length cc),(1,Pt b1)]∧(∀j<k,∀y,s.cs[j]? =some y→qP y)∧St H1 w (.blk b1 [I s.sp.id,I s.sp.src,.slice ast s.sp.st.length cst,.slice awa s.sp.wa.length cwa,I s.sp.al,I s.sp.up,.slice ar s.rs.length cr,.slice ac s.cs.length cc]::σ)) ak ?_ ?_ ?_)))))))
     ·exact .mk ⟨rfl,fun j hj=>by omega,hs⟩
     ·rintro k fr w hk ⟨rfl,hno,hs⟩
      obtain ⟨c,hx⟩:=nth hk
      refine .block (.aj (.ixX (enc:=Cmp.c) hs (h4.mono hle1) rfl rfl bk cD hx cz ?_));intro b43 o43 hc43
      refine .q hs (bQ (vs:=(Cmp.c c)) rfl HE cD hc43) (.o (.alloc hs y8 rfl fun b7 w hs=>?_))
      refine .o (.aU (vs:=c.c) hs rfl rfl cD fun w hs=>?_)
      change St _ _ (.blk b7 [I c.src,I c.tape,I c.fr,I c.to,I c.lo,I c.hi]::_) at hs
      refine .nil (.aj (.y hs (zls [_,_,_,_,_,_] HE cD) (.o (.call Tryz.call170 rfl (nX (c:=c) hs) ?_))));rintro _ w ⟨b46,rfl,hb46,hs⟩
      refine .zn fI (.cond rfl (fun hc47=>?_) (fun hc47=>?_))
      ·refine .aj (.zn zg (.ret (rB (rT (rB (rT (Fin.bq kZ rfl ?_)))))))
       exact ⟨H1,_,hle1,rfl,.cmp hok ak hrs (fun h=>by rw [hb46.2 (h c (List.mem_of_getElem? hx))] at hc47;cases hc47),hs.out⟩
      ·refine .skip (nB (nT ?_))
       exact .mk ⟨rfl,fi hno hx (hb46.1 (by simpa using hc47)),hs.tail⟩
     ·rintro fr w ⟨rfl,hno,hs⟩
      have hcs:∀c∈s.cs,qP c:=fun c hc=>by
       obtain ⟨j,hj⟩:=List.getElem?_of_mem hc
       exact hno j (List.getElem?_eq_some_iff.1 hj).1 c hj
      have hea:s.early:=⟨hok,ak,ak,hrs,hcs⟩
      have hsm:=ez hok
      have htl:s.cI.length≤60:=by have:=dQ s.rs;have:=hea.2.1;unfold Srv.cI;omega
      have hll:=kv hea 6 ak
      rw [s.vU] at hll
      have hsm2:s.sys.many=((s.sp.many+s.cI.length:Nat):Int):=rfl
      refine nT (.seq (.aj (.y hs (zls [_,_,_,_,_,_,_,_] aQ aC) (.o (.call Jv rfl (fN (s:=s) hs (h1.mono hle1) (h2.mono hle1) (h3.mono hle1) (h4.mono hle1) hea) ?_)))));rintro _ w ⟨H2,hle2,⟨ul,rfl,hL⟩,hs⟩
      obtain ⟨al,cl,rfl⟩:=RL.shape hL
      have hsl:s.sys.cO.length=s.cO.length:=rfl
      refine .o (.alloc hs eE rfl fun b8 w hs=>?_)
      refine .o (.aU (vs:=[_,_]) hs rfl rfl aV fun w hs=>?_)
      refine .nil (.aj (.z (zfa cM) (.y hs (zld ae) (.z k7 (.z zm (.ie (t':=54) rfl (fun hb54=>?_) (fun hb54=>?_)))))))
      ·refine .Fs 4 3 false (.zn zpT (.cT (.aj (.zn zg (.ret (rT (Fin.bq kZ rfl ?_)))))))
       exact ⟨H2,_,hle1.trans hle2,rfl,.big hea ak,hs.out⟩
      ·refine .T (.z (zfa cA) (.T (.y hs (zld dr) (.T (.z (da aJ) (.T (.z k7 (.zn zpF (.bn rfl (fun hc59=>?_) (fun hc59=>?_))))))))))
       ·refine .aj (.zn zg (.ret (rT (Fin.bq kZ rfl ?_))))
        exact ⟨H2,_,hle1.trans hle2,rfl,.big hea ak,hs.out⟩
       ·refine .skip (nT (.aj (.zn zg (.ret (Fin.bq kZ rfl ?_)))))
        exact ⟨H2,_,hle1.trans hle2,rfl,.ok hea ⟨ak,ak⟩,hs.out⟩
theorem dt{a0 a1 a2:Int}(hs:St H w σ):Cl Tryz.prog 167 [I a0,I a1,I a2] w fun v w'=>v= .bool (decide (a1≤a0∧a0≤a2))∧St H w' σ:=by
 refine Cl.o Tryz.func167 Tryz.ntmps167 ag3 ?_
 refine .aj (.zn zg (.aj (.z zm (.z zm (.z uF (.z zm (.ie (t':=10) rfl (fun hb10=>?_) (fun hb10=>?_))))))))
 ·refine .T (.z zm (.T (.z zm (.T (.z nb (.z zpT (.zn zg (.ret (Fin.bq Tryz.results167 rfl ?_)))))))))
  exact ⟨by simp [*],hs.out⟩
 ·refine .Fs 3 3 true (.z zpF (.zn zg (.ret (Fin.bq Tryz.results167 rfl ?_))))
  exact ⟨by simp [*],hs.out⟩
theorem HL{s:Spc}(h1:fq 9 100000 s.st)(h2:fq 9 100000 s.wa)(h3:s.wa.length≤7)(h4:gi s.wa (s.wa.length - 1)≤15000)(h5:1≤s.id∧s.id≤99999)(h6:1≤s.src∧s.src≤99999)(h7:0≤s.al∧s.al≤100000)(h8:0≤s.up∧s.up≤100000):eY s:=
 ⟨h1,⟨h2.two,h3,h2.low,h4,h2.rise⟩,h5,h6,h7,h8⟩
theorem Av{s:Spc}(h:eY s):fq 9 100000 s.wa:=⟨h.wa.two,by have:=h.wa.many;omega,h.wa.low,by have:=h.wa.high;omega,h.wa.rise⟩
theorem iN{s:Spc}{vst vwa:Value}(hs:St H w σ)(h1:RI H vst s.st)(h2:RI H vwa s.wa):
  Cl Tryz.prog 113 [.agg #[I s.id,I s.src,vst,vwa,I s.al,I s.up]] w fun v w'=>∃e,v=I e∧((eY s∧e=0)∨(¬eY s∧e=30))∧St H w' σ:=by
 obtain ⟨ast,cst,rfl⟩:=RI.shape h1
 obtain ⟨awa,cwa,rfl⟩:=RI.shape h2
 have l2:=(RI.len h2).2.2
 refine Cl.o Tryz.func113 Tryz.ntmps113 ag1 ?_
 refine .aj (.bx hs fun b1 w hs=>?_)
 refine .zn zg (.seq (.aj (.z (zfa mG) (.y hs (zld ae) (.o (.call eV rfl (dt hs) ?_))))));rintro _ w ⟨rfl,hs⟩
 refine .z fI (.z zm (.bif (t':=7) rfl (fun hb7=>?_) (fun hb7=>?_)))
 ·refine .Fs 4 4 false (.z zpT (.z zm (.Fs 5 10 false (.z zpT (.z zm (.Fs 5 17 false (.zn zpT (.cT (.aj (.zn zg (.ret (rT (Fin.bq jE rfl ?_)))))))))))))
  exact ⟨_,rfl,.inr ⟨fun h=>by have:=h.id;simp_all,rfl⟩,hs.out⟩
 ·refine .T (.z (zfa dR) (.T (.y hs (zld ae) (.T (.o (.call eV rfl (dt hs) ?_))))));rintro _ w ⟨rfl,hs⟩
  refine .T (.z fI (.z zpF (.z zm (.bif (t':=13) rfl (fun hb13=>?_) (fun hb13=>?_)))))
  ·refine .Fs 5 10 false (.z zpT (.z zm (.Fs 5 17 false (.zn zpT (.cT (.aj (.zn zg (.ret (rT (Fin.bq jE rfl ?_))))))))))
   exact ⟨_,rfl,.inr ⟨fun h=>by have:=h.src;simp_all,rfl⟩,hs.out⟩
  ·refine .T (.z (zfa ef) (.T (.z (zfa jW) (.T (.y hs (zld ae) (.T (.o (.call eV rfl (dt hs) ?_))))))));rintro _ w ⟨rfl,hs⟩
   refine .T (.z fI (.z zpF (.z zm (.bif (t':=20) rfl (fun hb20=>?_) (fun hb20=>?_)))))
   ·refine .Fs 5 17 false (.zn zpT (.cT (.aj (.zn zg (.ret (rT (Fin.bq jE rfl ?_)))))))
    exact ⟨_,rfl,.inr ⟨fun h=>by have:=h.al;simp_all,rfl⟩,hs.out⟩
   ·refine .T (.z (zfa ef) (.T (.z (zfa jV) (.T (.y hs (zld ae) (.T (.o (.call eV rfl (dt hs) ?_))))))));rintro _ w ⟨rfl,hs⟩
    refine .T (.z fI (.zn zpF (.cond rfl (fun hc26=>?_) (fun hc26=>?_))))
    ·refine .aj (.zn zg (.ret (rT (Fin.bq jE rfl ?_))))
     exact ⟨_,rfl,.inr ⟨fun h=>by have:=h.up;simp_all,rfl⟩,hs.out⟩
    ·refine .skip (nT (.seq (.aj (.z (zfa bI) (.y hs (zld an) (.o (.call Tryz.call168 rfl (iD hs h1) ?_)))))));rintro _ w ⟨e1,rfl,he1,hs⟩
     refine .z hZ (.z zm (.CE (t':=31) rfl (fun hb31=>?_) (fun hb31=>?_)))
     ·refine .Fs 4 4 false (.z zpT (.z zm (.Fs 4 10 false (.z zpT (.z zm (.Fs 9 16 false (.zn zpT (.cT (.aj (.zn zg (.ret (rT (Fin.bq jE rfl ?_)))))))))))))
      exact ⟨_,rfl,.inr ⟨fun h=>hb31 (he1.elim (fun g=>g.2) fun g=>(g.1 h.st).elim),rfl⟩,hs.out⟩
     ·refine .T (.z (zfa a8) (.T (.y hs (zld an) (.T (.o (.call Tryz.call168 rfl (iD hs h2) ?_))))));rintro _ w ⟨e2,rfl,he2,hs⟩
      refine .T (.z hZ (.z zpF (.z zm (.CE (t':=37) rfl (fun hb37=>?_) (fun hb37=>?_)))))
      ·refine .Fs 4 10 false (.z zpT (.z zm (.Fs 9 16 false (.zn zpT (.cT (.aj (.zn zg (.ret (rT (Fin.bq jE rfl ?_))))))))))
       exact ⟨_,rfl,.inr ⟨fun h=>hb37 (he2.elim (fun g=>g.2) fun g=>(g.1 (Av h)).elim),rfl⟩,hs.out⟩
      ·refine .T (.z (zfa a8) (.T ?_))
       have hw:fq 9 100000 s.wa:=he2.elim (fun g=>g.1) fun g=>(g.2 ak).elim
       have hw2:=hw.two
       refine .y hs (zld an) (.T (.z (da af) (.T (.z k7 (.z zpF (.z zm (.ie (t':=43) rfl (fun hb43=>?_) (fun hb43=>?_))))))))
       ·refine .Fs 9 16 false (.zn zpT (.cT (.aj (.zn zg (.ret (rT (Fin.bq jE rfl ?_)))))))
        exact ⟨_,rfl,.inr ⟨fun h=>by have:=h.wa.many;omega,rfl⟩,hs.out⟩
       ·refine .T ?_
        refine .z (zfa a8) (.T (.y hs (zld an) (.T (.z (zfa a8) (.T (.y hs (zld an) (.T (.z (da af) (.T (.z fM (.T (.ixY hs h2 rfl rfl af ai (bJ (l:=s.wa) (i:=(s.wa.length-1)) ak) cz ?_))))))))))));intro b50 o50 hc50
        refine .T (.q hs (aP rfl ae hc50) (.T (.z k7 (.zn zpF (.bn rfl (fun hc53=>?_) (fun hc53=>?_))))))
        ·refine .aj (.zn zg (.ret (rT (Fin.bq jE rfl ?_))))
         exact ⟨_,rfl,.inr ⟨fun h=>by have:=h.wa.high;omega,rfl⟩,hs.out⟩
        ·refine .skip (nT (.aj (.zn zg (.ret (Fin.bq jE rfl ?_)))))
         exact ⟨_,rfl,.inl ⟨HL (he1.elim (fun g=>g.1) fun g=>(g.2 ak).elim) hw ak ak (by simp_all) (by simp_all) (by simp_all) (by simp_all),rfl⟩,hs.out⟩
theorem jQ{s:Spc}{r:Rdg}{vst vwa:Value}(hs:St H w σ)(h1:RI H vst s.st)(h2:RI H vwa s.wa):
  Cl Tryz.prog 150 [.agg #[I s.id,I s.src,vst,vwa,I s.al,I s.up],.agg #[I r.src,I r.st,I r.wa,I r.val,I r.tol,I r.tape,I r.day]] w fun v w'=>∃b:Bool,v= .bool b∧(b=true↔na s r)∧St H w' σ:=by
 obtain ⟨ast,cst,rfl⟩:=RI.shape h1
 obtain ⟨awa,cwa,rfl⟩:=RI.shape h2
 have l1:=(RI.len h1).2.2
 have l2:=(RI.len h2).2.2
 refine Cl.o Tryz.func150 Tryz.ntmps150 ag2 ?_
 refine .aj (.bx hs fun b2 w hs=>?_)
 refine .bx hs fun b3 w hs=>?_
 refine .zn zg (.aj (.z (zfa eQ) (.y hs (zld ae) (.o (.call eV rfl (dt hs) ?_)))));rintro _ w ⟨rfl,hs⟩
 refine .z zm (.bif (t':=8) rfl (fun hb8=>?_) (fun hb8=>?_))
 ·refine .T ?_
  refine .z (zfa gg) (.T (.y hs (zld ae) (.T (.z (zfa bI) (.T (.y hs (zld an) (.T (.z (da af) (.T (.z fM (.T (.o (.call eV rfl (dt hs) ?_)))))))))))));rintro _ w ⟨rfl,hs⟩
  refine .z zpT (.z zm (.bif (t':=17) rfl (fun hb17=>?_) (fun hb17=>?_)))
  ·refine .T ?_
   refine .z (zfa gd) (.T (.y hs (zld ae) (.T (.z (zfa a8) (.T (.y hs (zld an) (.T (.z (da af) (.T (.z fM (.T (.o (.call eV rfl (dt hs) ?_)))))))))))));rintro _ w ⟨rfl,hs⟩
   refine .z zpT (.z zm (.bif (t':=26) rfl (fun hb26=>?_) (fun hb26=>?_)))
   ·refine .T (.z (zfa di) (.T (.y hs (zld ae) (.T (.o (.call eV rfl (dt hs) ?_))))));rintro _ w ⟨rfl,hs⟩
    refine .z zpT (.z zm (.bif (t':=31) rfl (fun hb31=>?_) (fun hb31=>?_)))
    ·refine .T (.z (zfa du) (.T (.y hs (zld ae) (.T (.z (zfa di) (.T (.y hs (zld ae) (.T ?_))))))))
     have ht:0≤r.tol∧r.tol≤1000:=by simp_all
     refine .z fM (.T (.o (.call eV rfl (dt hs) ?_)));rintro _ w ⟨rfl,hs⟩
     refine .z zpT (.z zm (.bif (t':=39) rfl (fun hb39=>?_) (fun hb39=>?_)))
     ·refine .T (.z (zfa eP) (.T (.y hs (zld ae) (.T (.o (.call eV rfl (dt hs) ?_))))));rintro _ w ⟨rfl,hs⟩
      refine .z zpT (.z zm (.bif (t':=44) rfl (fun hb44=>?_) (fun hb44=>?_)))
      ·refine .T (.z (zfa eO) (.T (.y hs (zld ae) (.T (.o (.call eV rfl (dt hs) ?_))))));rintro _ w ⟨rfl,hs⟩
       refine .z zpT (.zn zg (.ret (Fin.bq nN rfl ?_)))
       first
       |exact ⟨false,rfl,⟨fun h=>(by cases h),fun h=>(by obtain ⟨g1,g2,g3,g4,g5,g6,g7⟩:=h;simp_all;done)⟩,hs.out⟩
       |exact ⟨_,rfl,⟨fun h=>⟨by simp_all,by simp_all,by simp_all,by simp_all,by simp_all,by simp_all,by simpa using h⟩,fun h=>by simpa using h.day⟩,hs.out⟩
      ·refine .Fs 3 39 true (.z zpF (.zn zg (.ret (Fin.bq nN rfl ?_))))
       first
       |exact ⟨false,rfl,⟨fun h=>(by cases h),fun h=>(by obtain ⟨g1,g2,g3,g4,g5,g6,g7⟩:=h;simp_all;done)⟩,hs.out⟩
       |exact ⟨_,rfl,⟨fun h=>⟨by simp_all,by simp_all,by simp_all,by simp_all,by simp_all,by simp_all,by simpa using h⟩,fun h=>by simpa using h.day⟩,hs.out⟩
     ·refine .Fs 3 34 true (.z zpF (.z zm (.Fs 3 39 true (.z zpF (.zn zg (.ret (Fin.bq nN rfl ?_)))))))
      first
      |exact ⟨false,rfl,⟨fun h=>(by cases h),fun h=>(by obtain ⟨g1,g2,g3,g4,g5,g6,g7⟩:=h;simp_all;done)⟩,hs.out⟩
      |exact ⟨_,rfl,⟨fun h=>⟨by simp_all,by simp_all,by simp_all,by simp_all,by simp_all,by simp_all,by simpa using h⟩,fun h=>by simpa using h.day⟩,hs.out⟩
    ·refine .Fs 6 26 true (.z zpF (.z zm (.Fs 3 34 true (.z zpF (.z zm (.Fs 3 39 true (.z zpF (.zn zg (.ret (Fin.bq nN rfl ?_))))))))))
     first
     |exact ⟨false,rfl,⟨fun h=>(by cases h),fun h=>(by obtain ⟨g1,g2,g3,g4,g5,g6,g7⟩:=h;simp_all;done)⟩,hs.out⟩
     |exact ⟨_,rfl,⟨fun h=>⟨by simp_all,by simp_all,by simp_all,by simp_all,by simp_all,by simp_all,by simpa using h⟩,fun h=>by simpa using h.day⟩,hs.out⟩
   ·refine .Fs 3 21 true (.z zpF (.z zm (.Fs 6 26 true (.z zpF (.z zm (.Fs 3 34 true (.z zpF (.z zm (.Fs 3 39 true (.z zpF (.zn zg (.ret (Fin.bq nN rfl ?_)))))))))))))
    first
    |exact ⟨false,rfl,⟨fun h=>(by cases h),fun h=>(by obtain ⟨g1,g2,g3,g4,g5,g6,g7⟩:=h;simp_all;done)⟩,hs.out⟩
    |exact ⟨_,rfl,⟨fun h=>⟨by simp_all,by simp_all,by simp_all,by simp_all,by simp_all,by simp_all,by simpa using h⟩,fun h=>by simpa using h.day⟩,hs.out⟩
  ·refine .Fs 7 12 true (.z zpF (.z zm (.Fs 3 21 true (.z zpF (.z zm (.Fs 6 26 true (.z zpF (.z zm (.Fs 3 34 true (.z zpF (.z zm (.Fs 3 39 true (.z zpF (.zn zg (.ret (Fin.bq nN rfl ?_))))))))))))))))
   first
   |exact ⟨false,rfl,⟨fun h=>(by cases h),fun h=>(by obtain ⟨g1,g2,g3,g4,g5,g6,g7⟩:=h;simp_all;done)⟩,hs.out⟩
   |exact ⟨_,rfl,⟨fun h=>⟨by simp_all,by simp_all,by simp_all,by simp_all,by simp_all,by simp_all,by simpa using h⟩,fun h=>by simpa using h.day⟩,hs.out⟩
 ·refine .Fs 7 3 true (.z zpF (.z zm (.Fs 7 12 true (.z zpF (.z zm (.Fs 3 21 true (.z zpF (.z zm (.Fs 6 26 true (.z zpF (.z zm (.Fs 3 34 true (.z zpF (.z zm (.Fs 3 39 true (.z zpF (.zn zg (.ret (Fin.bq nN rfl ?_)))))))))))))))))))
  first
  |exact ⟨false,rfl,⟨fun h=>(by cases h),fun h=>(by obtain ⟨g1,g2,g3,g4,g5,g6,g7⟩:=h;simp_all;done)⟩,hs.out⟩
  |exact ⟨_,rfl,⟨fun h=>⟨by simp_all,by simp_all,by simp_all,by simp_all,by simp_all,by simp_all,by simpa using h⟩,fun h=>by simpa using h.day⟩,hs.out⟩
theorem ng{c:Cmp}(hs:St H w σ):
  Cl Tryz.prog 176 [.agg #[I c.src,I c.tape,I c.fr,I c.to,I c.lo,I c.hi]] w fun v w'=>∃b:Bool,v= .bool b∧(b=true↔qP c)∧St H w' σ:=by
 refine Cl.o Tryz.func176 Tryz.ntmps176 ag1 ?_
 refine .aj (.bx hs fun b1 w hs=>?_)
 refine .zn zg (.aj (.z (zfa ir) (.y hs (zld ae) (.o (.call eV rfl (dt hs) ?_)))));rintro _ w ⟨rfl,hs⟩
 refine .z zm (.bif (t':=6) rfl (fun hb6=>?_) (fun hb6=>?_))
 ·refine .T (.z (zfa jB) (.T (.y hs (zld ae) (.T (.o (.call eV rfl (dt hs) ?_))))));rintro _ w ⟨rfl,hs⟩
  refine .z zpT (.z zm (.bif (t':=11) rfl (fun hb11=>?_) (fun hb11=>?_)))
  ·refine .T (.z (zfa gj) (.T (.y hs (zld ae) (.T (.z uF (.z zpT (.z zm (.ie (t':=16) rfl (fun hb16=>?_) (fun hb16=>?_)))))))))
   ·refine .T (.z (zfa gj) (.T (.y hs (zld ae) (.T (.z (zfa fC) (.T (.y hs (zld ae) (.T (.z nb (.z zpT (.z zm (.ie (t':=23) rfl (fun hb23=>?_) (fun hb23=>?_)))))))))))))
    ·refine .T (.z (zfa fC) (.T (.y hs (zld ae) (.T (.z nb (.z zpT (.z zm (.ie (t':=28) rfl (fun hb28=>?_) (fun hb28=>?_)))))))))
     ·refine .T (.z (zfa fB) (.T (.y hs (zld ae) (.T (.z uF (.z zpT (.z zm (.ie (t':=33) rfl (fun hb33=>?_) (fun hb33=>?_)))))))))
      ·refine .T (.z (zfa fB) (.T (.y hs (zld ae) (.T (.z (zfa fA) (.T (.y hs (zld ae) (.T (.z nb (.z zpT (.z zm (.ie (t':=40) rfl (fun hb40=>?_) (fun hb40=>?_)))))))))))))
       ·refine .T (.z (zfa fA) (.T (.y hs (zld ae) (.T (.z nb (.z zpT (.zn zg (.ret (Fin.bq kX rfl ?_)))))))))
        first
        |exact ⟨false,rfl,⟨fun h=>(by cases h),fun h=>(by obtain ⟨g1,g2,g3,g4,g5,g6⟩:=h;simp_all;omega)⟩,hs.out⟩
        |exact ⟨false,rfl,⟨fun h=>(by cases h),fun h=>(by obtain ⟨g1,g2,g3,g4,g5,g6⟩:=h;simp_all;done)⟩,hs.out⟩
        |exact ⟨_,rfl,⟨fun h=>⟨by simp_all,by simp_all,⟨ak,ak⟩,ak,⟨ak,ak⟩,of_decide_eq_true h⟩,fun h=>decide_eq_true h.hi⟩,hs.out⟩
       ·refine .Fs 3 37 true (.z zpF (.zn zg (.ret (Fin.bq kX rfl ?_))))
        first
        |exact ⟨false,rfl,⟨fun h=>(by cases h),fun h=>(by obtain ⟨g1,g2,g3,g4,g5,g6⟩:=h;simp_all;omega)⟩,hs.out⟩
        |exact ⟨false,rfl,⟨fun h=>(by cases h),fun h=>(by obtain ⟨g1,g2,g3,g4,g5,g6⟩:=h;simp_all;done)⟩,hs.out⟩
        |exact ⟨_,rfl,⟨fun h=>⟨by simp_all,by simp_all,⟨ak,ak⟩,ak,⟨ak,ak⟩,of_decide_eq_true h⟩,fun h=>decide_eq_true h.hi⟩,hs.out⟩
      ·refine .Fs 5 30 true (.z zpF (.z zm (.Fs 3 37 true (.z zpF (.zn zg (.ret (Fin.bq kX rfl ?_)))))))
       first
       |exact ⟨false,rfl,⟨fun h=>(by cases h),fun h=>(by obtain ⟨g1,g2,g3,g4,g5,g6⟩:=h;simp_all;omega)⟩,hs.out⟩
       |exact ⟨false,rfl,⟨fun h=>(by cases h),fun h=>(by obtain ⟨g1,g2,g3,g4,g5,g6⟩:=h;simp_all;done)⟩,hs.out⟩
       |exact ⟨_,rfl,⟨fun h=>⟨by simp_all,by simp_all,⟨ak,ak⟩,ak,⟨ak,ak⟩,of_decide_eq_true h⟩,fun h=>decide_eq_true h.hi⟩,hs.out⟩
     ·refine .Fs 3 25 true (.z zpF (.z zm (.Fs 5 30 true (.z zpF (.z zm (.Fs 3 37 true (.z zpF (.zn zg (.ret (Fin.bq kX rfl ?_))))))))))
      first
      |exact ⟨false,rfl,⟨fun h=>(by cases h),fun h=>(by obtain ⟨g1,g2,g3,g4,g5,g6⟩:=h;simp_all;omega)⟩,hs.out⟩
      |exact ⟨false,rfl,⟨fun h=>(by cases h),fun h=>(by obtain ⟨g1,g2,g3,g4,g5,g6⟩:=h;simp_all;done)⟩,hs.out⟩
      |exact ⟨_,rfl,⟨fun h=>⟨by simp_all,by simp_all,⟨ak,ak⟩,ak,⟨ak,ak⟩,of_decide_eq_true h⟩,fun h=>decide_eq_true h.hi⟩,hs.out⟩
    ·refine .Fs 3 20 true (.z zpF (.z zm (.Fs 3 25 true (.z zpF (.z zm (.Fs 5 30 true (.z zpF (.z zm (.Fs 3 37 true (.z zpF (.zn zg (.ret (Fin.bq kX rfl ?_)))))))))))))
     first
     |exact ⟨false,rfl,⟨fun h=>(by cases h),fun h=>(by obtain ⟨g1,g2,g3,g4,g5,g6⟩:=h;simp_all;omega)⟩,hs.out⟩
     |exact ⟨false,rfl,⟨fun h=>(by cases h),fun h=>(by obtain ⟨g1,g2,g3,g4,g5,g6⟩:=h;simp_all;done)⟩,hs.out⟩
     |exact ⟨_,rfl,⟨fun h=>⟨by simp_all,by simp_all,⟨ak,ak⟩,ak,⟨ak,ak⟩,of_decide_eq_true h⟩,fun h=>decide_eq_true h.hi⟩,hs.out⟩
   ·refine .Fs 5 13 true (.z zpF (.z zm (.Fs 3 20 true (.z zpF (.z zm (.Fs 3 25 true (.z zpF (.z zm (.Fs 5 30 true (.z zpF (.z zm (.Fs 3 37 true (.z zpF (.zn zg (.ret (Fin.bq kX rfl ?_))))))))))))))))
    first
    |exact ⟨false,rfl,⟨fun h=>(by cases h),fun h=>(by obtain ⟨g1,g2,g3,g4,g5,g6⟩:=h;simp_all;omega)⟩,hs.out⟩
    |exact ⟨false,rfl,⟨fun h=>(by cases h),fun h=>(by obtain ⟨g1,g2,g3,g4,g5,g6⟩:=h;simp_all;done)⟩,hs.out⟩
    |exact ⟨_,rfl,⟨fun h=>⟨by simp_all,by simp_all,⟨ak,ak⟩,ak,⟨ak,ak⟩,of_decide_eq_true h⟩,fun h=>decide_eq_true h.hi⟩,hs.out⟩
  ·refine .Fs 3 8 true (.z zpF (.z zm (.Fs 5 13 true (.z zpF (.z zm (.Fs 3 20 true (.z zpF (.z zm (.Fs 3 25 true (.z zpF (.z zm (.Fs 5 30 true (.z zpF (.z zm (.Fs 3 37 true (.z zpF (.zn zg (.ret (Fin.bq kX rfl ?_)))))))))))))))))))
   first
   |exact ⟨false,rfl,⟨fun h=>(by cases h),fun h=>(by obtain ⟨g1,g2,g3,g4,g5,g6⟩:=h;simp_all;omega)⟩,hs.out⟩
   |exact ⟨false,rfl,⟨fun h=>(by cases h),fun h=>(by obtain ⟨g1,g2,g3,g4,g5,g6⟩:=h;simp_all;done)⟩,hs.out⟩
   |exact ⟨_,rfl,⟨fun h=>⟨by simp_all,by simp_all,⟨ak,ak⟩,ak,⟨ak,ak⟩,of_decide_eq_true h⟩,fun h=>decide_eq_true h.hi⟩,hs.out⟩
 ·refine .Fs 3 3 true (.z zpF (.z zm ?_))
  refine .Fs 3 8 true (.z zpF (.z zm (.Fs 5 13 true (.z zpF (.z zm (.Fs 3 20 true (.z zpF (.z zm (.Fs 3 25 true (.z zpF (.z zm (.Fs 5 30 true (.z zpF (.z zm (.Fs 3 37 true (.z zpF (.zn zg (.ret (Fin.bq kX rfl ?_)))))))))))))))))))
  first
  |exact ⟨false,rfl,⟨fun h=>(by cases h),fun h=>(by obtain ⟨g1,g2,g3,g4,g5,g6⟩:=h;simp_all;omega)⟩,hs.out⟩
  |exact ⟨false,rfl,⟨fun h=>(by cases h),fun h=>(by obtain ⟨g1,g2,g3,g4,g5,g6⟩:=h;simp_all;done)⟩,hs.out⟩
  |exact ⟨_,rfl,⟨fun h=>⟨by simp_all,by simp_all,⟨ak,ak⟩,ak,⟨ak,ak⟩,of_decide_eq_true h⟩,fun h=>decide_eq_true h.hi⟩,hs.out⟩
theorem dX{s:Spc}{vst vwa:Value}(hs:St H w σ)(h1:RI H vst s.st)(h2:RI H vwa s.wa)(hb:s.st.length≤1000∧s.wa.length≤1000):
  Cl Tryz.prog 94 [.agg #[I s.id,I s.src,vst,vwa,I s.al,I s.up]] w fun v w'=>v=I (s.many:Int)∧St H w' σ:=by
 obtain ⟨ast,cst,rfl⟩:=RI.shape h1
 obtain ⟨awa,cwa,rfl⟩:=RI.shape h2
 have hm:=jK (a:=(s.st.length:Int)) (b:=(s.wa.length:Int)) (A:=1000) (B:=1000) ak ak
 refine Cl.o Tryz.func94 Tryz.ntmps94 ag1 ?_
 refine .aj (.bx hs fun b1 w hs=>?_)
 refine .zn zg (.aj (.z (zfa bI) (.y hs (zld an) (.z (da af) (.z (zfa a8) (.y hs (zld an) (.z (da af) (.z jN (.zn zg (.ret (Fin.bq Tryz.results94 rfl ?_)))))))))))
 exact ⟨by unfold Spc.many;rw [Int.natCast_mul],hs.out⟩
theorem df{s:Spc}{vst vwa:Value}{a b:Int}(hs:St H w σ)(h2:RI H vwa s.wa)(hb:s.wa.length≤1000)(ha: -1000≤a∧a≤1000)(hb': -1000≤b∧b≤1000):
  Cl Tryz.prog 93 [.agg #[I s.id,I s.src,vst,vwa,I s.al,I s.up],I a,I b] w fun v w'=>v=I (1+a*s.wa.length+b)∧St H w' σ:=by
 obtain ⟨awa,cwa,rfl⟩:=RI.shape h2
 have hm:=jK (a:=a) (b:=(s.wa.length:Int)) (A:=1000) (B:=1000) ak ak
 refine Cl.o Tryz.func93 Tryz.ntmps93 ag3 ?_
 refine .aj (.bx hs fun b3 w hs=>?_)
 refine .zn zg (.aj (.z zm (.z (zfa a8) (.y hs (zld an) (.z (da af) (.z jN (.z cu (.z zm (.z cu (.zn zg (.ret (Fin.bq Tryz.results93 rfl ?_))))))))))))
 exact ⟨rfl,hs.out⟩
theorem mR{a b:Int}(hs:St H w σ)(ha:0≤a∧a≤100000)(hb:0≤b∧b≤100000):
  Cl Tryz.prog 211 [I a,I b] w fun v w'=>v=I (kQ a b)∧St H w' σ:=by
 have hm:=jK (a:=a) (b:=b) (A:=100000) (B:=100000) ak ak
 have h0:=Int.mul_nonneg ha.1 hb.1
 have hq0:0≤(a*b+999).tdiv 1000:=Int.tdiv_nonneg ak ak
 have hq1:(a*b+999).tdiv 1000≤a*b+999:=by rw [Int.tdiv_eq_ediv_of_nonneg ak];omega
 refine Cl.o Tryz.func211 Tryz.ntmps211 ag2 ?_
 refine .aj (.zn zg (.aj (.z zm (.z zm (.z jN (.z cu (.q hs (rh rfl rfl ak ak) (.z Al (.zn zg (.ret (Fin.bq Tryz.results211 rfl ?_)))))))))))
 exact ⟨rfl,hs⟩
theorem lN{a b m s:Int}(hs:St H w σ):
  Cl Tryz.prog 210 [I a,I b,I m,I s] w fun v w'=>∃b0,v= .slice (some ⟨b0,0,none⟩) 2 2∧St H w' (.blk b0 (iz (two a b m m s))::σ):=by
 refine Cl.o Tryz.func210 Tryz.ntmps210 ag4 ?_
 refine .aj (.zn zg (.aj (.z zm (.z zm (.z zm (.z zm (.z (zbd [_,_,_,_] fc) (.z zm (.z zm (.z zm (.z zm (.z (zbd [_,_,_,_] fc) (.o (.buildSlice (cells:=iz (two a b m m s)) hs gx rfl aH fun b19 w hs=>?_))))))))))))))
 refine .zn zg (.ret (Fin.bq Tryz.results210 rfl ?_))
 exact ⟨b19,rfl,hs⟩
theorem vI{c:Cmp}{t:TD}{f:Int}(hs:St H w σ)(hlo: -1000000≤c.lo∧c.lo≤1000000):
  Cl Tryz.prog 212 [.agg #[I c.src,I c.tape,I c.fr,I c.to,I c.lo,I c.hi],.agg #[I t.tape,I t.day],I f] w fun v w'=>∃en,cN 4 v (iz (my c t f)) en∧St H w' (en::σ):=by
 refine Cl.o Tryz.func212 Tryz.ntmps212 ag3 ?_
 refine .aj (.bx hs fun b3 w hs=>?_)
 refine .bx hs fun b4 w hs=>?_
 refine .zn zg (.seq (.aj (.z (zfa jB) (.y hs (zld ae) (.z (zfa nJ) (.y hs (zld ae) (.z hZ (.z zm (.CE (t':=12) rfl (fun hb12=>?_) (fun hb12=>?_))))))))))
 ·refine .Fs 5 5 false (.z zpT (.z zm (.Fs 5 12 false (.zn zpT (.cT (.aj (.zn zg (.ret (rT (Fin.bq Tryz.results212 rfl ?_))))))))))
  exact ⟨.nul,by unfold my;rw [if_neg ak];exact .nil 4 none,hs.tail.tail.nul⟩
 ·refine .T (.z (zfa kR) (.T (.y hs (zld ae) (.T (.z (zfa gj) (.T (.y hs (zld ae) (.T (.z fV (.z zpF (.z zm (.ie (t':=19) rfl (fun hb19=>?_) (fun hb19=>?_)))))))))))))
  ·refine .Fs 5 12 false (.zn zpT (.cT (.aj (.zn zg (.ret (rT (Fin.bq Tryz.results212 rfl ?_)))))))
   exact ⟨.nul,by unfold my;rw [if_neg ak];exact .nil 4 none,hs.tail.tail.nul⟩
  ·refine .T (.z (zfa kR) (.T (.y hs (zld ae) (.T (.z (zfa fC) (.T (.y hs (zld ae) (.T (.z k7 (.zn zpF (.bn rfl (fun hc25=>?_) (fun hc25=>?_))))))))))))
   ·refine .aj (.zn zg (.ret (rT (Fin.bq Tryz.results212 rfl ?_))))
    exact ⟨.nul,by unfold my;rw [if_neg ak];exact .nil 4 none,hs.tail.tail.nul⟩
   ·refine .skip (nT (.aj (.z zm (.z (zfa fB) (.y hs (zld ae) (.z Ev (.z (zfa ir) (.y hs (zld ae) (.z (zbd [_,_,_,_] fc) (.z zm (.z (zfa fA) (.y hs (zld ae) (.z (zfa ir) (.y hs (zld ae) (.z (zbd [_,_,_,_] fc) (.o (.buildSlice (cells:=iz (two 0 f (-c.lo) c.hi c.src)) hs gx rfl aH fun b39 w hs=>?_)))))))))))))))))
    refine .zn zg (.ret (Fin.bq Tryz.results212 rfl ?_))
    exact ⟨_,by unfold my;rw [if_pos ak];exact .full (by simp [two,eZ]),hs.sb⟩
theorem kN{v:Value}{xs:List TD}{t:TD}(hs:St H w σ)(hr:RTd H v xs)(hl:xs.length≤1000000):
  Cl Tryz.prog 95 [v,.agg #[I t.tape,I t.day]] w fun u w'=>u=I (kL xs t)∧St H w' σ:=by
 obtain ⟨a,c,rfl⟩:=RTd.shape hr
 refine Cl.o Tryz.func95 Tryz.ntmps95 ag2 ?_
 refine .aj (.bx hs fun b3 w hs=>?_)
 refine .zn zg (.seq (.aj (.zn zg (.block ?_))))
 refine .loop (fun k:Nat=>⟨19,[],[(5,I (k:Int)),(3,Pt b3),(0,.slice a xs.length c)]⟩)
  (fun k w=>k≤xs.length∧(∀j<k,∀y,xs[j]? =some y→¬y=t)∧St H w (.blk b3 [I t.tape,I t.day]::σ)) (fun k=>xs.length - k) 0 (.cP rfl bT a6)
  ⟨Nat.zero_le _,fun j hj=>by omega,hs⟩ ?_
 rintro k w ⟨hk,hno,hs⟩
 refine .seq (.aj (.z zm (.z zm (.z (da bD) (.zn fV (.bn rfl (fun hc9=>?_) (fun hc9=>?_)))))))
 ·refine .skip (nT (.seq (.block (.seq (.draw mix rfl hs fun w hs=>?_)))))
  refine .zw 0 rfl zm ?_;refine .z 1 rfl zm ?_
  obtain ⟨x,hx⟩:=nth (l:=xs) (k:=k) ak
  refine .ixX (enc:=TD.c) (i:=2) hs rfl aH .none hr rfl rfl bD bP hx cz ?_;intro b14 o14 hc14
  refine .r (i:=3) hs rfl aH .none (bQ (vs:=x.c) rfl eu bP hc14) ?_
  refine .zv 4 rfl hs (Bu [_,_] eu bP) ?_
  refine .z 5 rfl (zu uI uJ jh (fun f hf=>by
   simp only [List.mem_cons,List.not_mem_nil,or_false] at hf
   rcases hf with rfl|rfl<;>exact ⟨by decide,bF,ae⟩) rfl rfl) ?_
  refine .D hs (.cond rfl (fun hc17=>?_) (fun hc17=>?_))
  ·refine .aj (.z zm (.zn zg (.ret (rB (rT (rT (rB (rT (Fin.bq Tryz.results95 rfl ?_)))))))))
   have e:x=t:=EG.1 (of_decide_eq_true hc17)
   subst e
   exact ⟨by rw [qZ hx fun j hj h=>hno j hj _ h rfl],hs.tail⟩
  ·refine .skip (nB (nT (.region (.z zm (.z cu (.zn zg (nT ?_)))))))
   exact ⟨k+1,.cP rfl bT a6,⟨ak,fi hno hx (fun e=>by subst e;simp at hc17),hs⟩,ak⟩
 ·refine .exit (xT (xT (xB (nT (.aj (.zn zg (.ret (Fin.bq Tryz.results95 rfl ?_))))))))
  obtain rfl:k=xs.length:=by omega
  exact ⟨by rw [xX hno],hs.tail⟩
theorem oF{v:Value}{en:Ent}{xs:List TD}{t:TD}(hs:St H w (en::σ))(hO:cN 2 v (tdc xs).flatten en)(hl:xs.length≤1000000):
  Cl Tryz.prog 95 [v,.agg #[I t.tape,I t.day]] w fun u w'=>u=I (kL xs t)∧St H w' (en::σ):=by
 obtain ⟨a,c,rfl⟩:=hO.je (pD xs) ak
 rw [eK] at hO ⊢
 refine Cl.o Tryz.func95 Tryz.ntmps95 ag2 ?_
 refine .aj (.bx hs fun b3 w hs=>?_)
 refine .zn zg (.seq (.aj (.zn zg (.block ?_))))
 refine .loop (fun k:Nat=>⟨19,[],[(5,I (k:Int)),(3,Pt b3),(0,.slice a xs.length c)]⟩)
  (fun k w=>k≤xs.length∧(∀j<k,∀y,xs[j]? =some y→¬y=t)∧St H w (.blk b3 [I t.tape,I t.day]::en::σ)) (fun k=>xs.length - k) 0 (.cP rfl bT a6)
  ⟨Nat.zero_le _,fun j hj=>by omega,hs⟩ ?_
 rintro k w ⟨hk,hno,hs⟩
 refine .seq (.aj (.z zm (.z zm (.z (da bD) (.zn fV (.bn rfl (fun hc9=>?_) (fun hc9=>?_)))))))
 ·refine .skip (nT (.seq (.block (.seq (.draw mix rfl hs fun w hs=>?_)))))
  refine .zw 0 rfl zm ?_;refine .z 1 rfl zm ?_
  obtain ⟨x,hx⟩:=nth (l:=xs) (k:=k) ak
  obtain ⟨b,c',sp,hv,rfl,_⟩:=hO.FO (pD xs) ak (by rw [eK];omega)
  rw [eK] at hv
  cases hv
  refine .zw 2 rfl (mw bD bP) (.Ci (i:=3) (vs:=x.c) hs rfl aH .none rfl eu bP ?_ (hv:=xo (pD xs) (CR hx) sp))
  refine .zv 4 rfl hs (Bu [_,_] eu bP) ?_
  refine .z 5 rfl (zu uI uJ jh (fun f hf=>by
   simp only [List.mem_cons,List.not_mem_nil,or_false] at hf
   rcases hf with rfl|rfl<;>exact ⟨by decide,bF,ae⟩) rfl rfl) ?_
  refine .D hs (.cond rfl (fun hc17=>?_) (fun hc17=>?_))
  ·refine .aj (.z zm (.zn zg (.ret (rB (rT (rT (rB (rT (Fin.bq Tryz.results95 rfl ?_)))))))))
   have e:x=t:=EG.1 (of_decide_eq_true hc17)
   subst e
   exact ⟨by rw [qZ hx fun j hj h=>hno j hj _ h rfl],hs.tail⟩
  ·refine .skip (nB (nT (.region (.z zm (.z cu (.zn zg (nT ?_)))))))
   exact ⟨k+1,.cP rfl bT a6,⟨ak,fi hno hx (fun e=>by subst e;simp at hc17),hs⟩,ak⟩
 ·refine .exit (xT (xT (xB (nT (.aj (.zn zg (.ret (Fin.bq Tryz.results95 rfl ?_))))))))
  obtain rfl:k=xs.length:=by omega
  exact ⟨by rw [xX hno],hs.tail⟩
set_option maxHeartbeats 1000000 in
theorem ik{vr:Value}{rs:List Rdg}(hs:St H w σ)(hr:RRd H vr rs)(hl:rs.length≤1000000):
  Cl Tryz.prog 96 [vr] w fun u w'=>∃H1,HLe H H1∧RTd H1 u (bw rs)∧St H1 w' σ:=by
 obtain ⟨ar,cr,rfl⟩:=RRd.shape hr
 refine Cl.o Tryz.func96 Tryz.ntmps96 ag1 ?_
 refine .aj (.zn zg (.aj (.zn zg (.seq (.aj (.zn zg (.block ?_)))))))
 refine .loop (fun p:Nat×Value=>⟨32,[],[(4,I (p.1:Int)),(3,p.2),(0,.slice ar rs.length cr)]⟩)
  (fun p w=>p.1≤rs.length∧∃en,cN 2 p.2 (tdc (bw (rs.take p.1))).flatten en∧St H w (en::σ)) (fun p=>rs.length - p.1) (0,.slice none 0 0) a6
  ⟨Nat.zero_le _,_,.nil 2 none,hs.nul⟩ ?_
 rintro ⟨k,vo⟩ w ⟨hk,en,hO,hs⟩
 dsimp only at hk hO ⊢
 have htl:=lM rs k ak
 obtain ⟨ao,co,rfl⟩:=hO.je (pD _) ak
 rw [eK] at hO ⊢
 refine .seq (.aj (.z zm (.z zm (.z (da au) (.zn fV (.bn rfl (fun hc9=>?_) (fun hc9=>?_)))))))
 ·refine .skip (nT (.seq (.block (.seq (.draw mix rfl hs fun w hs=>?_)))))
  refine .zw 0 rfl zm ?_;refine .z 1 rfl zm ?_
  obtain ⟨r,hx⟩:=nth (l:=rs) (k:=k) ak
  have htk:=kq hx
  refine .ixX (enc:=Rdg.c) (i:=2) hs rfl aH .none hr rfl rfl au aI hx cz ?_;intro b14 o14 hc14
  have d14:cellAt H b14 (o14+5)=some (I r.tape):=hc14 5 _ rfl
  refine .zw 3 rfl (zfa eP) ?_;refine .y 4 rfl hs ae ?_;refine .z 5 rfl zm ?_;refine .z 6 rfl zm ?_
  refine .ixX (enc:=Rdg.c) (i:=7) hs rfl aH .none hr rfl rfl au aI hx cz ?_;intro b19 o19 hc19
  have d19:cellAt H b19 (o19+6)=some (I r.day):=hc19 6 _ rfl
  refine .zw 8 rfl (zfa eO) ?_;refine .y 9 rfl hs ae ?_;refine .z 10 rfl (zbd [_,_] iY) ?_
  refine .E 11 hs ?_
  refine .alloc hs lH rfl ?_;intro b5 w hs
  refine .go (.E 12 hs ?_)
  refine .aU (vs:=[_,_]) hs rfl rfl bP ?_;intro w hs
  refine .go (.D hs (.aj (.z zm (.y hs (zls [_,_] eu bP) (.o (.call Tryz.call95 rfl (oF (t:=r.td) (hs.sb:St H w (en:: .blk b5 [I r.tape,I r.day]::σ)) hO ak) ?_))))));rintro _ w ⟨rfl,hs⟩
  have hnn:=tz (l:=bw (rs.take k)) (t:=r.td)
  refine .zn fV (.bn rfl (fun hc26=>?_) (fun hc26=>?_))
  ·refine .region (.z zm (.y hs (zls [_,_] eu bP) (.o (.buildSlice (cells:=[_,_]) hs jr rfl rfl fun b29 w hs=>?_))))
   refine .o (.append (ys:=r.td.c) hs fm rfl rfl hO (.own .here rfl rfl) (by simp [TD.c,Value.oneCell']) (fun l h=>by rw [bU _ (pD _),eK] at h;omega) ?_);intro v30 en30 w hO2 hs
   refine .zn zg (nB (nT (.region (.z zm (.z cu (.zn zg (nT ?_)))))))
   have hn:r.td∉bw (rs.take k):=fun hm=>by have:=hnn.2 hm;omega
   rw [←xW,show bw (rs.take k)++[r.td]=bw (rs.take (k+1)) by rw [htk];unfold sh;rw [if_neg hn]] at hO2
   exact ⟨(k+1,v30),.cP rfl bT a6,⟨by dsimp only;omega,_,hO2,hs.sb⟩,by dsimp only;omega⟩
  ·refine .skip (nB (nT (.region (.z zm (.z cu (.zn zg (nT ?_)))))))
   have hm:r.td∈bw (rs.take k):=hnn.1 ak
   exact ⟨(k+1,_),.cP rfl bT a6,⟨by dsimp only;omega,en,by dsimp only;rw [htk];unfold sh;rw [if_pos hm];exact hO,hs.sb⟩,by dsimp only;omega⟩
 ·refine .exit (xT (xT (xB (nT (.aj (.z zm (.zn zg (.ret (Fin.bq Tryz.results96 rfl ?_)))))))))
  obtain rfl:k=rs.length:=by omega
  rw [List.take_length] at hO
  have htl:=dQ rs
  obtain ⟨H2,hle2,hR,hs⟩:=cN.cQ (m:=2) (cs:=tdc (bw rs)) hO (pD _) ak (by rw [eK];omega) hs .here
  rw [List.take_length]
  exact ⟨H2,hle2,hR,hs⟩
theorem xS(s:Spc)(i k:Nat):1+(i:Int)*(s.wa.length:Int)+(k:Int)=(s.u i k:Int):=by
 unfold Spc.u;rw [Int.natCast_add,Int.natCast_add,Int.natCast_mul];rfl
theorem HI(s:Spc)(i k:Nat):1+((i:Int)+1)*(s.wa.length:Int)+(k:Int)=(s.u (i+1) k:Int):=by
 rw [←xS];rfl
theorem HH(s:Spc)(i k:Nat):1+(i:Int)*(s.wa.length:Int)+((k:Int)+1)=(s.u i (k+1):Int):=by
 rw [←xS];rfl
theorem mi{f:Nat→Nat→List Lim}(hf:∀i k,(f i k).length≤2)(i:Nat):∀k,(mW f i k).length≤2*k
 |0=>by simp [mW]
 |k+1=>by have:=mi hf i k;have:=hf i k;simp only [mW,List.length_append];omega
theorem mV{f:Nat→Nat→List Lim}(hf:∀i k,(f i k).length≤2){m n:Nat}(hm:m≤7)(hn:n≤9)(h0:0<m):(fa f m n).length≤126:=by
 have h1:=iP hf (n:=n) h0
 have:n*m≤9*7:=Nat.mul_le_mul hn hm
 omega
theorem G9{s:Spc}(h0:0<s.st.length):fa (alL s) s.wa.length s.st.length=fa (alL s) s.wa.length (s.st.length - 1):=by
 obtain ⟨n,hn⟩:∃n,s.st.length=n+1:=⟨s.st.length - 1,ak⟩
 have key:∀k,mW (alL s) n k=[]:=by
  intro k
  induction k with
  |zero=>rfl
  |succ k ih=>simp only [mW];rw [ih];unfold alL;rw [if_neg ak];rfl
 rw [hn,Nat.add_sub_cancel]
 simp only [fa]
 rw [key,List.append_nil]
theorem Gs{s:Spc}(i:Nat)(h0:0<s.wa.length):mW (upL s) i s.wa.length=mW (upL s) i (s.wa.length - 1):=by
 obtain ⟨n,hn⟩:∃n,s.wa.length=n+1:=⟨s.wa.length - 1,ak⟩
 have e:upL s i n=[]:=by unfold upL;rw [if_neg ak]
 rw [hn,Nat.add_sub_cancel]
 simp only [mW]
 rw [e,List.append_nil]
set_option maxHeartbeats 4000000 in
theorem kM{s:Srv}{vst vwa vr vc:Value}(hs:St H w σ)(h1:RI H vst s.sp.st)(h2:RI H vwa s.sp.wa)(h3:RRd H vr s.rs)(h4:RCm H vc s.cs)(he:s.early):
  Cl Tryz.prog 152 [.agg #[I s.sp.id,I s.sp.src,vst,vwa,I s.sp.al,I s.sp.up,vr,vc]] w fun u w'=>∃H1 en,HLe H H1∧cN 4 u (iz s.cO) en∧St H1 w' (en::σ):=by
 obtain ⟨ast,cst,rfl⟩:=RI.shape h1
 obtain ⟨awa,cwa,rfl⟩:=RI.shape h2
 obtain ⟨ar,cr,rfl⟩:=RRd.shape h3
 obtain ⟨ac,cc,rfl⟩:=RCm.shape h4
 obtain ⟨hok,hrl,hcl,hrs,hcs⟩:=he
 have hsm:=ez hok
 have hn1:=hok.st.many
 have hn2:=hok.wa.many
 have hn3:=hok.st.two
 have hn4:=hok.wa.two
 have ha:=mV (pB s.sp) (m:=s.sp.wa.length) (n:=s.sp.st.length) ak ak ak
 have hb:=mV (tm s.sp) (m:=s.sp.wa.length) (n:=s.sp.st.length) ak ak ak
 have hc:=mV (sF s.sp) (m:=s.sp.wa.length) (n:=s.sp.st.length) ak ak ak
 have hal:=hok.al
 have hup:=hok.up
 refine Cl.o Tryz.func152 Tryz.ntmps152 ag1 ?_
 refine .aj (.bx hs fun b1 w hs=>?_)
 refine .zn zg (.aj (.z (zfa bj) (.y hs (zls [_,_,_,_,_,_] aK aA) (.o (.alloc hs jc rfl fun b3 w hs=>?_)))))
 refine .o (.aU (vs:=[_,_,_,_,_,_]) hs rfl rfl aA fun w hs=>?_)
 refine .nil (.aj (.zn zg (.seq (.aj (.zn zg (.block ?_))))))
 refine .loop (fun p:Nat×Value=>⟨243,[],[(5,I (p.1:Int)),(4,p.2),(3,Pt b3),(1,Pt b1)]⟩)
  (fun p w=>p.1≤s.sp.st.length∧∃en,cN 4 p.2 (iz (fa (sq s.sp) s.sp.wa.length p.1)) en∧St H w (en:: .blk b3 [I s.sp.id,I s.sp.src,.slice ast s.sp.st.length cst,.slice awa s.sp.wa.length cwa,I s.sp.al,I s.sp.up]:: .blk b1 [I s.sp.id,I s.sp.src,.slice ast s.sp.st.length cst,.slice awa s.sp.wa.length cwa,I s.sp.al,I s.sp.up,.slice ar s.rs.length cr,.slice ac s.cs.length cc]::σ)) (fun p=>s.sp.st.length - p.1) (0,.slice none 0 0) a6
  ⟨by first|omega|exact Nat.zero_le _,_,.nil 4 none,hs.nul⟩ ?_
 rintro ⟨i,vo⟩ w ⟨hi,en,hO,hs⟩
 dsimp only at hi hO ⊢
 refine .seq (.aj (.z zm (.z (zfa bI) (.y hs (zld an) (.z (da af) (.zn fV (.bn rfl (fun hc27=>?_) (fun hc27=>?_))))))))
 ·refine .skip (nT (.seq (.block (.aj (.zn zg (.block ?_))))))
  refine .loop (fun p:Nat×Value=>⟨243,[],[(6,I (p.1:Int)),(4,p.2),(5,I (i:Int)),(3,Pt b3),(1,Pt b1)]⟩)
   (fun p w=>p.1≤s.sp.wa.length∧∃en,cN 4 p.2 (iz (fa (sq s.sp) s.sp.wa.length i++mW (sq s.sp) i p.1)) en∧St H w (en:: .blk b3 [I s.sp.id,I s.sp.src,.slice ast s.sp.st.length cst,.slice awa s.sp.wa.length cwa,I s.sp.al,I s.sp.up]:: .blk b1 [I s.sp.id,I s.sp.src,.slice ast s.sp.st.length cst,.slice awa s.sp.wa.length cwa,I s.sp.al,I s.sp.up,.slice ar s.rs.length cr,.slice ac s.cs.length cc]::σ)) (fun p=>s.sp.wa.length - p.1) (0,vo) a6
   ⟨by first|omega|exact Nat.zero_le _,en,by show cN 4 vo (iz (_++[])) en;rw [List.append_nil];exact hO,hs⟩ ?_
  clear hO hs
  rintro ⟨k,vo⟩ w ⟨hk,en,hO,hs⟩
  dsimp only at hk hO ⊢
  have hl1:=mV (pB s.sp) (m:=s.sp.wa.length) (n:=i) ak ak ak
  have hl2:=mi (pB s.sp) i k
  refine .seq (.aj (.z zm (.z (zfa a8) (.y hs (zld an) (.z (da af) (.zn fV (.bn rfl (fun hc34=>?_) (fun hc34=>?_))))))))
  ·refine .skip (nT (.seq (.block (.aj (.y hs (zls [_,_,_,_,_,_] aK aA) (.z zm (.z zm (.o (.call jI rfl (df (s:=s.sp) hs h2 ak ⟨ak,ak⟩ ⟨ak,ak⟩) ?_)))))))));rintro _ w ⟨rfl,hs⟩
   rw [xS]
   refine .zn zg (.region (.z zm (.z zm (.z (zfa dR) (.y hs (zld ae) (.z (zbd [_,_,_,_] fc) (.z zm (.z (zfa dR) (.y hs (zld ae) (.z (zbd [_,_,_,_] fc) (.o (.buildSlice (cells:=iz (sq s.sp i k)) hs gx rfl aH fun b50 w hs=>?_))))))))))))
   refine .o (.append (ys:=iz (sq s.sp i k)) hs cZ rfl rfl hO (.own .here rfl rfl) (l5 _) (fun l h=>by rw [eZ,List.length_append] at h;omega) ?_);intro v51 en51 w hO2 hs
   rw [←ja,List.append_assoc] at hO2
   refine .zn zg (nB (nT (.region (.z zm (.z cu (.zn zg (nT ?_)))))))
   exact ⟨(k+1,v51),.cP rfl bT a6,⟨by dsimp only;omega,_,hO2,hs.sb⟩,by dsimp only;omega⟩
  ·refine .exit (xT (xT (xB (nB (nT (.region (.z zm (.z cu (.zn zg (nT ?_))))))))))
   obtain rfl:k=s.sp.wa.length:=by omega
   exact ⟨(i+1,_),.cP rfl bT a6,⟨by dsimp only;omega,en,hO,hs⟩,by dsimp only;omega⟩
 ·refine .exit (xT (xT (xB (nT (.seq (.aj (.zn zg (.block ?_))))))))
  refine .loop (fun p:Nat×Value=>⟨243,[],[(8,I (p.1:Int)),(4,p.2),(3,Pt b3),(1,Pt b1)]⟩)
   (fun p w=>p.1+1≤s.sp.st.length∧∃en,cN 4 p.2 (iz (fa (sq s.sp) s.sp.wa.length s.sp.st.length++fa (alL s.sp) s.sp.wa.length p.1)) en∧St H w (en:: .blk b3 [I s.sp.id,I s.sp.src,.slice ast s.sp.st.length cst,.slice awa s.sp.wa.length cwa,I s.sp.al,I s.sp.up]:: .blk b1 [I s.sp.id,I s.sp.src,.slice ast s.sp.st.length cst,.slice awa s.sp.wa.length cwa,I s.sp.al,I s.sp.up,.slice ar s.rs.length cr,.slice ac s.cs.length cc]::σ)) (fun p=>s.sp.st.length - p.1) (0,vo) a6
   ⟨by first|omega|exact Nat.zero_le _,en,by show cN 4 vo (iz (_++[])) en;rw [List.append_nil,←show i=s.sp.st.length by omega];exact hO,hs⟩ ?_
  clear hO hs
  rintro ⟨i,vo⟩ w ⟨hi,en,hO,hs⟩
  dsimp only at hi hO ⊢
  refine .seq (.aj (.z zm (.z cu (.z (zfa bI) (.y hs (zld an) (.z (da af) (.zn fV (.bn rfl (fun hc57=>?_) (fun hc57=>?_)))))))))
  ·refine .skip (nT (.seq (.block (.aj (.zn zg (.block ?_))))))
   refine .loop (fun p:Nat×Value=>⟨243,[],[(9,I (p.1:Int)),(4,p.2),(8,I (i:Int)),(3,Pt b3),(1,Pt b1)]⟩)
    (fun p w=>p.1≤s.sp.wa.length∧∃en,cN 4 p.2 (iz (fa (sq s.sp) s.sp.wa.length s.sp.st.length++fa (alL s.sp) s.sp.wa.length i++mW (alL s.sp) i p.1)) en∧St H w (en:: .blk b3 [I s.sp.id,I s.sp.src,.slice ast s.sp.st.length cst,.slice awa s.sp.wa.length cwa,I s.sp.al,I s.sp.up]:: .blk b1 [I s.sp.id,I s.sp.src,.slice ast s.sp.st.length cst,.slice awa s.sp.wa.length cwa,I s.sp.al,I s.sp.up,.slice ar s.rs.length cr,.slice ac s.cs.length cc]::σ)) (fun p=>s.sp.wa.length - p.1) (0,vo) a6
    ⟨by first|omega|exact Nat.zero_le _,en,by show cN 4 vo (iz (_++[])) en;rw [List.append_nil];exact hO,hs⟩ ?_
   clear hO hs
   rintro ⟨k,vo⟩ w ⟨hk,en,hO,hs⟩
   dsimp only at hk hO ⊢
   have hl1:=mV (tm s.sp) (m:=s.sp.wa.length) (n:=i) ak ak ak
   have hl2:=mi (tm s.sp) i k
   refine .seq (.aj (.z zm (.z (zfa a8) (.y hs (zld an) (.z (da af) (.zn fV (.bn rfl (fun hc64=>?_) (fun hc64=>?_))))))))
   ·refine .skip (nT (.seq (.block (.draw mix rfl hs fun w hs=>?_))))
    refine .zw 0 rfl zm ?_;refine .ys 1 rfl hs [_,_,_,_,_,_] aK aA ?_;refine .z 2 rfl zm ?_;refine .z 3 rfl zm ?_;refine .ys 5 rfl hs [_,_,_,_,_,_] aK aA ?_;refine .z 6 rfl zm ?_;refine .z 7 rfl cu ?_;refine .z 8 rfl zm ?_;refine .z 10 rfl (zfa ef) ?_;refine .z 11 rfl (zfa jW) ?_
    refine .y 12 rfl hs ae ?_;refine .z 13 rfl (zfa bI) ?_;refine .y 14 rfl hs an ?_;refine .z 15 rfl zm ?_;refine .z 16 rfl cu ?_
    have hris:=hok.st.rise i ak
    have hq0:=hok.st.bd (i:=i) ak
    have hq1:=hok.st.bd (i:=i+1) ak
    refine .ixX (enc:=fun x=>[I x]) (i:=17) hs rfl aH .none h1 rfl rfl af ai (bJ (l:=s.sp.st) (i:=(i+1)) ak) cz ?_;intro b84 o84 hc84;replace hc84:=bL.one hc84
    refine .r (i:=18) hs rfl aH .none (aP rfl ae hc84) ?_
    refine .zw 19 rfl (zfa bI) ?_;refine .y 20 rfl hs an ?_;refine .z 21 rfl zm ?_
    refine .ixX (enc:=fun x=>[I x]) (i:=22) hs rfl aH .none h1 rfl rfl af ai (bJ (l:=s.sp.st) (i:=i) ak) cz ?_;intro b89 o89 hc89;replace hc89:=bL.one hc89
    refine .r (i:=23) hs rfl aH .none (aP rfl ae hc89) ?_
    refine .zw 24 rfl fM ?_;refine .z 26 rfl (zfa dR) ?_;refine .y 27 rfl hs ae ?_
    refine .E 4 hs ?_
    refine .call jI rfl (df (s:=s.sp) hs h2 ak ⟨ak,ak⟩ ⟨ak,ak⟩) ?_;rintro _ w ⟨rfl,hs⟩
    rw [xS]
    refine .go (.E 9 hs ?_)
    refine .call jI rfl (df (s:=s.sp) hs h2 ak ⟨ak,ak⟩ ⟨ak,ak⟩) ?_;rintro _ w ⟨rfl,hs⟩
    rw [HI]
    refine .go (.E 25 hs ?_)
    refine .call Tryz.call211 rfl (mR hs ak ak) ?_;rintro _ w ⟨rfl,hs⟩
    refine .go (.E 28 hs ?_)
    refine .call Tryz.call210 rfl (lN hs) ?_;rintro _ w ⟨b95,rfl,hs⟩
    rw [show two (s.sp.u i k:Int) _ _ _ _=alL s.sp i k by unfold alL;rw [if_pos ak]] at hs
    refine .go (.E 29 hs ?_)
    refine .append (ys:=iz (alL s.sp i k)) hs cZ rfl rfl hO (.own .here bT (by rw [eZ];unfold alL;rw [if_pos ak];rfl)) (l5 _) (fun l h=>by rw [eZ] at h;simp only [List.length_append] at h;omega) ?_;intro v96 en96 w hO2 hs
    rw [←ja,List.append_assoc _ (mW _ _ _)] at hO2
    refine .go (.zw 30 rfl zg ?_);refine .D hs ?_
    refine nB (nT (.region (.z zm (.z cu (.zn zg (nT ?_))))))
    exact ⟨(k+1,v96),.cP rfl bT a6,⟨by dsimp only;omega,_,hO2,hs.sb⟩,by dsimp only;omega⟩
   ·refine .exit (xT (xT (xB (nB (nT (.region (.z zm (.z cu (.zn zg (nT ?_))))))))))
    obtain rfl:k=s.sp.wa.length:=by omega
    rw [List.append_assoc] at hO
    exact ⟨(i+1,_),.cP rfl bT a6,⟨by dsimp only;omega,en,hO,hs⟩,by dsimp only;omega⟩
  ·refine .exit (xT (xT (xB (nT (.seq (.aj (.zn zg (.block ?_))))))))
   refine .loop (fun p:Nat×Value=>⟨243,[],[(10,I (p.1:Int)),(4,p.2),(3,Pt b3),(1,Pt b1)]⟩)
    (fun p w=>p.1≤s.sp.st.length∧∃en,cN 4 p.2 (iz (fa (sq s.sp) s.sp.wa.length s.sp.st.length++fa (alL s.sp) s.sp.wa.length s.sp.st.length++fa (upL s.sp) s.sp.wa.length p.1)) en∧St H w (en:: .blk b3 [I s.sp.id,I s.sp.src,.slice ast s.sp.st.length cst,.slice awa s.sp.wa.length cwa,I s.sp.al,I s.sp.up]:: .blk b1 [I s.sp.id,I s.sp.src,.slice ast s.sp.st.length cst,.slice awa s.sp.wa.length cwa,I s.sp.al,I s.sp.up,.slice ar s.rs.length cr,.slice ac s.cs.length cc]::σ)) (fun p=>s.sp.st.length - p.1) (0,vo) a6
    ⟨by first|omega|exact Nat.zero_le _,en,by show cN 4 vo (iz (_++[])) en;rw [List.append_nil,G9 ak,←show i=s.sp.st.length - 1 by omega];exact hO,hs⟩ ?_
   clear hO hs
   rintro ⟨i,vo⟩ w ⟨hi,en,hO,hs⟩
   dsimp only at hi hO ⊢
   refine .seq (.aj (.z zm (.z (zfa bI) (.y hs (zld an) (.z (da af) (.zn fV (.bn rfl (fun hc101=>?_) (fun hc101=>?_))))))))
   ·refine .skip (nT (.seq (.block (.aj (.zn zg (.block ?_))))))
    refine .loop (fun p:Nat×Value=>⟨243,[],[(11,I (p.1:Int)),(4,p.2),(10,I (i:Int)),(3,Pt b3),(1,Pt b1)]⟩)
     (fun p w=>p.1+1≤s.sp.wa.length∧∃en,cN 4 p.2 (iz (fa (sq s.sp) s.sp.wa.length s.sp.st.length++fa (alL s.sp) s.sp.wa.length s.sp.st.length++fa (upL s.sp) s.sp.wa.length i++mW (upL s.sp) i p.1)) en∧St H w (en:: .blk b3 [I s.sp.id,I s.sp.src,.slice ast s.sp.st.length cst,.slice awa s.sp.wa.length cwa,I s.sp.al,I s.sp.up]:: .blk b1 [I s.sp.id,I s.sp.src,.slice ast s.sp.st.length cst,.slice awa s.sp.wa.length cwa,I s.sp.al,I s.sp.up,.slice ar s.rs.length cr,.slice ac s.cs.length cc]::σ)) (fun p=>s.sp.wa.length - p.1) (0,vo) a6
     ⟨by first|omega|exact Nat.zero_le _,en,by show cN 4 vo (iz (_++[])) en;rw [List.append_nil];exact hO,hs⟩ ?_
    clear hO hs
    rintro ⟨k,vo⟩ w ⟨hk,en,hO,hs⟩
    dsimp only at hk hO ⊢
    have hl1:=mV (sF s.sp) (m:=s.sp.wa.length) (n:=i) ak ak ak
    have hl2:=mi (sF s.sp) i k
    refine .seq (.aj (.z zm (.z cu (.z (zfa a8) (.y hs (zld an) (.z (da af) (.zn fV (.bn rfl (fun hc109=>?_) (fun hc109=>?_)))))))))
    ·refine .skip (nT (.seq (.block (.draw mix rfl hs fun w hs=>?_))))
     refine .zw 0 rfl zm ?_;refine .ys 1 rfl hs [_,_,_,_,_,_] aK aA ?_;refine .z 2 rfl zm ?_;refine .z 3 rfl zm ?_;refine .ys 5 rfl hs [_,_,_,_,_,_] aK aA ?_;refine .z 6 rfl zm ?_;refine .z 7 rfl zm ?_;refine .z 8 rfl cu ?_;refine .z 10 rfl (zfa ef) ?_;refine .z 11 rfl (zfa jV) ?_
     refine .y 12 rfl hs ae ?_;refine .z 13 rfl (zfa a8) ?_;refine .y 14 rfl hs an ?_;refine .z 15 rfl zm ?_;refine .z 16 rfl cu ?_
     have hris:=hok.wa.rise k ak
     have hq0:=hok.wa.bd (i:=k) ak
     have hq1:=hok.wa.bd (i:=k+1) ak
     refine .ixX (enc:=fun x=>[I x]) (i:=17) hs rfl aH .none h2 rfl rfl af ai (bJ (l:=s.sp.wa) (i:=(k+1)) ak) cz ?_;intro b129 o129 hc129;replace hc129:=bL.one hc129
     refine .r (i:=18) hs rfl aH .none (aP rfl ae hc129) ?_
     refine .zw 19 rfl (zfa a8) ?_;refine .y 20 rfl hs an ?_;refine .z 21 rfl zm ?_
     refine .ixX (enc:=fun x=>[I x]) (i:=22) hs rfl aH .none h2 rfl rfl af ai (bJ (l:=s.sp.wa) (i:=k) ak) cz ?_;intro b134 o134 hc134;replace hc134:=bL.one hc134
     refine .r (i:=23) hs rfl aH .none (aP rfl ae hc134) ?_
     refine .zw 24 rfl fM ?_;refine .z 26 rfl (zfa dR) ?_;refine .y 27 rfl hs ae ?_
     refine .E 4 hs ?_
     refine .call jI rfl (df (s:=s.sp) hs h2 ak ⟨ak,ak⟩ ⟨ak,ak⟩) ?_;rintro _ w ⟨rfl,hs⟩
     rw [xS]
     refine .go (.E 9 hs ?_)
     refine .call jI rfl (df (s:=s.sp) hs h2 ak ⟨ak,ak⟩ ⟨ak,ak⟩) ?_;rintro _ w ⟨rfl,hs⟩
     rw [HH]
     refine .go (.E 25 hs ?_)
     refine .call Tryz.call211 rfl (mR hs ak ak) ?_;rintro _ w ⟨rfl,hs⟩
     refine .go (.E 28 hs ?_)
     refine .call Tryz.call210 rfl (lN hs) ?_;rintro _ w ⟨b140,rfl,hs⟩
     rw [show two (s.sp.u i k:Int) _ _ _ _=upL s.sp i k by unfold upL;rw [if_pos ak]] at hs
     refine .go (.E 29 hs ?_)
     refine .append (ys:=iz (upL s.sp i k)) hs cZ rfl rfl hO (.own .here bT (by rw [eZ];unfold upL;rw [if_pos ak];rfl)) (l5 _) (fun l h=>by rw [eZ] at h;simp only [List.length_append] at h;omega) ?_;intro v141 en141 w hO2 hs
     rw [←ja,List.append_assoc _ (mW _ _ _)] at hO2
     refine .go (.zw 30 rfl zg ?_);refine .D hs ?_
     refine nB (nT (.region (.z zm (.z cu (.zn zg (nT ?_))))))
     exact ⟨(k+1,v141),.cP rfl bT a6,⟨by dsimp only;omega,_,hO2,hs.sb⟩,by dsimp only;omega⟩
    ·refine .exit (xT (xT (xB (nB (nT (.region (.z zm (.z cu (.zn zg (nT ?_))))))))))
     obtain rfl:k=s.sp.wa.length - 1:=by omega
     rw [List.append_assoc,←Gs i ak] at hO
     exact ⟨(i+1,_),.cP rfl bT a6,⟨by dsimp only;omega,en,hO,hs⟩,by dsimp only;omega⟩
   ·refine .exit (xT (xT (xB (nT (.aj (.z (zfa aO) (.y hs (zld bG) ?_)))))))
    obtain rfl:i=s.sp.st.length:=by omega
    refine .o (.call y9 rfl (ik hs h3 ak) ?_);rintro v144 w ⟨H1,hle1,hT,hs⟩
    replace hT:RTd H1 v144 s.cI:=hT
    have htl:s.cI.length≤60:=by have:=dQ s.rs;unfold Srv.cI;omega
    have hmem:∀r∈s.rs,r.td∈s.cI:=fun r hr=>ia.2 ⟨r,hr,rfl⟩
    have hlims:s.cO=fa (sq s.sp) s.sp.wa.length s.sp.st.length++fa (alL s.sp) s.sp.wa.length s.sp.st.length++fa (upL s.sp) s.sp.wa.length s.sp.st.length++yE s.sp s.cI.length++uV s.sp s.cI s.cs 0 s.cs.length++wI s.sp s.cI s.rs s.rs.length:=rfl
    generalize s.cI=ts at*
    obtain ⟨at_,ct,rfl⟩:=RTd.shape hT
    refine .zn zg (.aj (.y hs (zls [_,_,_,_,_,_] aK aA) (.o (.call tx rfl (dX (s:=s.sp) hs (h1.mono hle1) (h2.mono hle1) ⟨ak,ak⟩) ?_))));rintro _ w ⟨rfl,hs⟩
    refine .zn zg (.seq (.aj (.zn zg (.block ?_))))
    refine .loop (fun p:Nat×Value=>⟨243,[],[(14,I (p.1:Int)),(4,p.2),(12,.slice at_ ts.length ct),(13,I (s.sp.many:Int)),(3,Pt b3),(1,Pt b1)]⟩)
     (fun p w=>p.1≤ts.length∧∃en,cN 4 p.2 (iz (fa (sq s.sp) s.sp.wa.length s.sp.st.length++fa (alL s.sp) s.sp.wa.length s.sp.st.length++fa (upL s.sp) s.sp.wa.length s.sp.st.length++yE s.sp p.1)) en∧St H1 w (en:: .blk b3 [I s.sp.id,I s.sp.src,.slice ast s.sp.st.length cst,.slice awa s.sp.wa.length cwa,I s.sp.al,I s.sp.up]:: .blk b1 [I s.sp.id,I s.sp.src,.slice ast s.sp.st.length cst,.slice awa s.sp.wa.length cwa,I s.sp.al,I s.sp.up,.slice ar s.rs.length cr,.slice ac s.cs.length cc]::σ)) (fun p=>ts.length - p.1) (0,vo) a6
     ⟨by first|omega|exact Nat.zero_le _,en,by show cN 4 vo (iz (_++[])) en;rw [List.append_nil];exact hO,hs⟩ ?_
    clear hO hs
    rintro ⟨j,vo⟩ w ⟨hj,en,hO,hs⟩
    dsimp only at hj hO ⊢
    have hel:=kg s.sp j
    refine .seq (.aj (.z zm (.z zm (.z (da bD) (.zn fV (.bn rfl (fun hc150=>?_) (fun hc150=>?_)))))))
    ·refine .skip (nT (.seq (.block (.region (.z zm (.z zm (.z cu (.z zm (.z cu (.z (zfa dR) (.y hs (zld ae) (.o (.call Tryz.call210 rfl (lN hs) ?_)))))))))))));rintro _ w ⟨b160,rfl,hs⟩
     refine .o (.append (ys:=iz (two 0 ((s.sp.many:Int)+1+(j:Int)) 1000 1000 s.sp.src)) hs cZ rfl rfl hO (.own .here rfl rfl) (l5 _) (fun l h=>by rw [eZ] at h;simp only [List.length_append] at h;omega) ?_);intro v161 en161 w hO2 hs
     rw [←ja,List.append_assoc _ (yE _ _),show (s.sp.many:Int)+1+(j:Int)=((s.sp.many+1+j:Nat):Int) by omega] at hO2
     refine .zn zg (nB (nT (.region (.z zm (.z cu (.zn zg (nT ?_)))))))
     exact ⟨(j+1,v161),.cP rfl bT a6,⟨by dsimp only;omega,_,hO2,hs.sb⟩,by dsimp only;omega⟩
    ·refine .exit (xT (xT (xB (nT (.seq (.aj (.zn zg (.block ?_))))))))
     refine .loop (fun p:Nat×Value=>⟨243,[],[(15,I (p.1:Int)),(4,p.2),(12,.slice at_ ts.length ct),(13,I (s.sp.many:Int)),(3,Pt b3),(1,Pt b1)]⟩)
      (fun p w=>p.1≤s.cs.length∧∃en,cN 4 p.2 (iz (fa (sq s.sp) s.sp.wa.length s.sp.st.length++fa (alL s.sp) s.sp.wa.length s.sp.st.length++fa (upL s.sp) s.sp.wa.length s.sp.st.length++yE s.sp ts.length++uV s.sp ts s.cs 0 p.1)) en∧St H1 w (en:: .blk b3 [I s.sp.id,I s.sp.src,.slice ast s.sp.st.length cst,.slice awa s.sp.wa.length cwa,I s.sp.al,I s.sp.up]:: .blk b1 [I s.sp.id,I s.sp.src,.slice ast s.sp.st.length cst,.slice awa s.sp.wa.length cwa,I s.sp.al,I s.sp.up,.slice ar s.rs.length cr,.slice ac s.cs.length cc]::σ)) (fun p=>s.cs.length - p.1) (0,vo) a6
      ⟨by first|omega|exact Nat.zero_le _,en,by show cN 4 vo (iz (_++[])) en;rw [List.append_nil,←show j=ts.length by omega];exact hO,hs⟩ ?_
     clear hO hs
     rintro ⟨i,vo⟩ w ⟨hi,en,hO,hs⟩
     dsimp only at hi hO ⊢
     have hel:=kg s.sp ts.length
     have hcl1:=kh s.sp ts s.cs 0 i
     have hcl2:i*(2*(ts.length - 0))≤20*(2*60):=Nat.mul_le_mul ak ak
     refine .seq (.aj (.z zm (.z (zfa ck) (.y hs (zld ea) (.z (da bk) (.zn fV (.bn rfl (fun hc166=>?_) (fun hc166=>?_))))))))
     ·refine .skip (nT (.seq (.block (.aj (.zn zg (.block ?_))))))
      refine .loop (fun p:Nat×Value=>⟨243,[],[(16,I (p.1:Int)),(4,p.2),(15,I (i:Int)),(12,.slice at_ ts.length ct),(13,I (s.sp.many:Int)),(3,Pt b3),(1,Pt b1)]⟩)
       (fun p w=>p.1≤ts.length∧∃en,cN 4 p.2 (iz (fa (sq s.sp) s.sp.wa.length s.sp.st.length++fa (alL s.sp) s.sp.wa.length s.sp.st.length++fa (upL s.sp) s.sp.wa.length s.sp.st.length++yE s.sp ts.length++uV s.sp ts s.cs 0 i++lT s.sp ts (A1 s.cs i) 0 p.1)) en∧St H1 w (en:: .blk b3 [I s.sp.id,I s.sp.src,.slice ast s.sp.st.length cst,.slice awa s.sp.wa.length cwa,I s.sp.al,I s.sp.up]:: .blk b1 [I s.sp.id,I s.sp.src,.slice ast s.sp.st.length cst,.slice awa s.sp.wa.length cwa,I s.sp.al,I s.sp.up,.slice ar s.rs.length cr,.slice ac s.cs.length cc]::σ)) (fun p=>ts.length - p.1) (0,vo) a6
       ⟨by first|omega|exact Nat.zero_le _,en,by show cN 4 vo (iz (_++[])) en;rw [List.append_nil];exact hO,hs⟩ ?_
      clear hO hs
      rintro ⟨j,vo⟩ w ⟨hj,en,hO,hs⟩
      dsimp only at hj hO ⊢
      have hl1:=mn s.sp ts (A1 s.cs i) 0 j
      refine .seq (.aj (.z zm (.z zm (.z (da bD) (.zn fV (.bn rfl (fun hc172=>?_) (fun hc172=>?_)))))))
      ·refine .skip (nT (.seq (.block (.draw mix rfl hs fun w hs=>?_))))
       refine .zw 0 rfl zm ?_;refine .z 1 rfl (zfa ck) ?_;refine .y 2 rfl hs ea ?_;refine .z 3 rfl zm ?_
       obtain ⟨c,hx⟩:=nth (l:=s.cs) (k:=i) ak
       obtain ⟨t,ht⟩:=nth (l:=ts) (k:=j) ak
       obtain ⟨g1,g2,g3,g4,g5,g6⟩:=hcs c (List.mem_of_getElem? hx)
       have ec:=D6 hx
       have et:=F9 ht
       refine .ixX (enc:=Cmp.c) (i:=4) hs rfl aH .none (h4.mono hle1) rfl rfl bk cD hx cz ?_;intro b179 o179 hc179
       refine .r (i:=5) hs rfl aH .none (bQ (vs:=c.c) rfl HE cD hc179) ?_
       refine .zw 6 rfl zm ?_;refine .z 7 rfl zm ?_
       refine .ixX (enc:=TD.c) (i:=8) hs rfl aH .none hT rfl rfl bD bP ht cz ?_;intro b183 o183 hc183
       refine .r (i:=9) hs rfl aH .none (bQ (vs:=t.c) rfl eu bP hc183) ?_
       refine .zw 10 rfl zm ?_;refine .z 11 rfl cu ?_;refine .z 12 rfl zm ?_;refine .z 13 rfl cu ?_
       refine .E 14 hs ?_
       refine .call Tryz.call212 rfl (vI (c:=c) (t:=t) hs ⟨ak,ak⟩) ?_;rintro v189 w ⟨en189,hO189,hs⟩
       obtain ⟨a189,l189,c189,rfl,h189⟩:=hO189.shape
       refine .go (.E 15 hs ?_)
       refine .append (ys:=iz (my c t ((s.sp.many:Int)+1+(j:Int)))) hs cZ rfl rfl hO (Src.Jb hO189 .here) (l5 _) (fun l h=>by rw [eZ] at h;simp only [List.length_append] at h;have:=za c t ((s.sp.many:Int)+1+(j:Int));rw [eZ] at h189;omega) ?_;intro v190 en190 w hO2 hs
       rw [←ja,List.append_assoc _ (lT _ _ _ _ _),show lT s.sp ts (A1 s.cs i) 0 j++my c t ((s.sp.many:Int)+1+(j:Int))=lT s.sp ts (A1 s.cs i) 0 (j+1) by
        show _=_++my (A1 s.cs i) (td0 ts (0+j)) ((s.sp.many+1+(0+j):Nat):Int)
        rw [Nat.zero_add,ec,et,show ((s.sp.many+1+j:Nat):Int)=(s.sp.many:Int)+1+(j:Int) by omega]] at hO2
       refine .go (.zw 16 rfl zg ?_);refine .D hs ?_
       refine nB (nT (.region (.z zm (.z cu (.zn zg (nT ?_))))))
       exact ⟨(j+1,v190),.cP rfl bT a6,⟨by dsimp only;omega,_,hO2,hs.sb⟩,by dsimp only;omega⟩
      ·refine .exit (xT (xT (xB (nB (nT (.region (.z zm (.z cu (.zn zg (nT ?_))))))))))
       obtain rfl:j=ts.length:=by omega
       rw [List.append_assoc _ (uV _ _ _ _ _)] at hO
       exact ⟨(i+1,_),.cP rfl bT a6,⟨by dsimp only;omega,en,hO,hs⟩,by dsimp only;omega⟩
     ·refine .exit (xT (xT (xB (nT (.seq (.aj (.zn zg (.block ?_))))))))
      refine .loop (fun p:Nat×Value=>⟨243,[],[(17,I (p.1:Int)),(4,p.2),(12,.slice at_ ts.length ct),(13,I (s.sp.many:Int)),(3,Pt b3),(1,Pt b1)]⟩)
       (fun p w=>p.1≤s.rs.length∧∃en,cN 4 p.2 (iz (fa (sq s.sp) s.sp.wa.length s.sp.st.length++fa (alL s.sp) s.sp.wa.length s.sp.st.length++fa (upL s.sp) s.sp.wa.length s.sp.st.length++yE s.sp ts.length++uV s.sp ts s.cs 0 s.cs.length++wI s.sp ts s.rs p.1)) en∧St H1 w (en:: .blk b3 [I s.sp.id,I s.sp.src,.slice ast s.sp.st.length cst,.slice awa s.sp.wa.length cwa,I s.sp.al,I s.sp.up]:: .blk b1 [I s.sp.id,I s.sp.src,.slice ast s.sp.st.length cst,.slice awa s.sp.wa.length cwa,I s.sp.al,I s.sp.up,.slice ar s.rs.length cr,.slice ac s.cs.length cc]::σ)) (fun p=>s.rs.length - p.1) (0,vo) a6
       ⟨by first|omega|exact Nat.zero_le _,en,by show cN 4 vo (iz (_++[])) en;rw [List.append_nil,←show i=s.cs.length by omega];exact hO,hs⟩ ?_
      clear hO hs
      rintro ⟨q,vo⟩ w ⟨hq,en,hO,hs⟩
      dsimp only at hq hO ⊢
      have hrl1:=kb s.sp ts s.rs q
      have hcl3:=kh s.sp ts s.cs 0 s.cs.length
      have hcl4:s.cs.length*(2*(ts.length - 0))≤20*(2*60):=Nat.mul_le_mul ak ak
      refine .seq (.aj (.z zm (.z (zfa aO) (.y hs (zld bG) (.z (da au) (.zn fV (.bn rfl (fun hc195=>?_) (fun hc195=>?_))))))))
      ·refine .skip (nT (.seq (.block (.aj (.z (zfa aO) (.y hs (zld bG) (.z zm ?_)))))))
       obtain ⟨r,hx⟩:=nth (l:=s.rs) (k:=q) ak
       obtain ⟨g1,g2,g3,g4,g5,g6,g7⟩:=hrs r (List.mem_of_getElem? hx)
       obtain ⟨m,k1,k2,k3⟩:=iK (hmem r (List.mem_of_getElem? hx))
       refine .ixX (enc:=Rdg.c) hs (h3.mono hle1) rfl rfl au aI hx cz ?_;intro b201 o201 hc201
       refine .q hs (bQ (vs:=(Rdg.c r)) rfl ew aI hc201) (.o (.alloc hs ff rfl fun b18 w hs=>?_))
       refine .o (.aU (vs:=r.c) hs rfl rfl aI fun w hs=>?_)
       change St _ _ (.blk b18 [I r.src,I r.st,I r.wa,I r.val,I r.tol,I r.tape,I r.day]::_) at hs
       refine .nil (.aj (.y hs (zls [_,_,_,_,_,_] aK aA) (.z (zfa gg) (.y hs (zld ae) (.z (zfa gd) (.y hs (zld ae) (.o (.call jI rfl (df (s:=s.sp) hs (h2.mono hle1) ak ⟨ak,ak⟩ ⟨ak,ak⟩) ?_))))))));rintro _ w ⟨rfl,hs⟩
       refine .zn zg (.aj (.z zm (.z cu (.z zm (.z (zfa eP) (.y hs (zld ae) (.z (zfa eO) (.y hs (zld ae) (.z (zbd [_,_] iY) (.o (.call Tryz.call95 rfl (kN (t:=r.td) hs hT ak) ?_)))))))))));rintro _ w ⟨rfl,hs⟩
       refine .z cu (.zn zg (.region (.z zm (.z zm (.z zm (.z (zfa du) (.y hs (zld ae) (.z (zfa di) (.y hs (zld ae) (.z cu (.z (zfa eQ) (.y hs (zld ae) (.z (zbd [_,_,_,_] fc) (.z zm (.z zm (.z (zfa di) (.y hs (zld ae) (.z (zfa du) (.y hs (zld ae) (.z fM (.z (zfa eQ) (.y hs (zld ae) (.z (zbd [_,_,_,_] fc) (.o (.buildSlice (cells:=iz (sV s.sp ts r)) hs gx rfl aH fun b240 w hs=>?_)))))))))))))))))))))))))
       refine .o (.append (ys:=iz (sV s.sp ts r)) hs cZ rfl rfl hO (.own .here rfl rfl) (l5 _) (fun l h=>by rw [eZ] at h;simp only [List.length_append] at h;omega) ?_);intro v241 en241 w hO2 hs
       rw [←ja,List.append_assoc _ (wI _ _ _ _),show wI s.sp ts s.rs q++sV s.sp ts r=wI s.sp ts s.rs (q+1) by rw [←C7 hx];rfl] at hO2
       refine .zn zg (nB (nT (.region (.z zm (.z cu (.zn zg (nT ?_)))))))
       exact ⟨(q+1,v241),.cP rfl bT a6,⟨by dsimp only;omega,_,hO2,hs.sb⟩,by dsimp only;omega⟩
      ·refine .exit (xT (xT (xB (nT (.aj (.z zm (.zn zg (.ret (Fin.bq Tryz.results152 rfl ?_)))))))))
       obtain rfl:q=s.rs.length:=by omega
       exact ⟨H1,en,hle1,by rw [hlims];exact hO,hs.sb⟩
theorem tY{s:Srv}{vst vwa vr vc:Value}(hs:St H w σ)(h1:RI H vst s.sp.st)(h2:RI H vwa s.sp.wa)(h3:RRd H vr s.rs)(h4:RCm H vc s.cs)(he:s.early):
  Cl Tryz.prog 205 [.agg #[I s.sp.id,I s.sp.src,vst,vwa,I s.sp.al,I s.sp.up,vr,vc]] w fun u w'=>∃H1 vl en,HLe H H1∧u= .agg #[I s.sys.many,vl]∧cN 4 vl (iz s.cO) en∧St H1 w' (en::σ):=by
 have hsm:=ez he.1
 have hrl:=he.2.1
 have htl:s.cI.length≤60:=by have:=dQ s.rs;unfold Srv.cI;omega
 refine Cl.o Tryz.func205 Tryz.ntmps205 ag1 ?_
 refine .aj (.bx hs fun b1 w hs=>?_)
 refine .o (.alloc hs eE rfl fun b2 w hs=>?_)
 refine .nil (.seq (.draw mix rfl hs fun w hs=>?_))
 refine .zw 0 rfl (zfa bj) ?_;refine .ys 1 rfl hs [_,_,_,_,_,_] aK aA ?_;refine .z 3 rfl (zfa aO) ?_;refine .y 4 rfl hs bG ?_;refine .ys 8 rfl hs [_,_,_,_,_,_,_,_] aQ aC ?_
 refine .E 2 hs ?_
 refine .call tx rfl (dX (s:=s.sp) hs h1 h2 ⟨ak,ak⟩) ?_;rintro _ w ⟨rfl,hs⟩
 refine .go (.E 5 hs ?_)
 refine .call y9 rfl (ik hs h3 ak) ?_;rintro v8 w ⟨H1,hle1,hT,hs⟩
 replace hT:RTd H1 v8 s.cI:=hT
 obtain ⟨at_,ct,rfl⟩:=RTd.shape hT
 refine .go (.zw 6 rfl (da bD) ?_);refine .z 7 rfl cu ?_
 refine .E 9 hs ?_
 refine .call Tryz.call152 rfl (kM (s:=s) hs (h1.mono hle1) (h2.mono hle1) (h3.mono hle1) (h4.mono hle1) he) ?_;rintro v12 w ⟨H2,en,hle2,hO,hs⟩
 obtain ⟨al,ll,cl,rfl,hll⟩:=hO.shape
 refine .go (.zw 10 rfl (zbd [_,_] mJ) (.E 11 hs ?_))
 refine .aU (vs:=[_,_]) hs rfl rfl aV ?_;intro w hs
 refine .go (.D hs (.ret ?_))
 replace hs:St H2 w (.blk b2 [I ((s.sp.many:Int)+(s.cI.length:Int)),.slice al ll cl]::en::σ):=hs.sb
 exact Fin.jt [] [] hs fun w hs=>⟨_,results1 Tryz.results205 (dK (vs:=[_,_]) hs rfl bM aV),H2,_,en,hle1.trans hle2,by show _=Value.agg #[I ((s.sp.many+s.cI.length:Nat):Int),_];rw [Int.natCast_add],hO,hs.tail⟩
theorem sQ{s:Srv}{vst vwa vr vc:Value}(hs:St H w σ)(h1:RI H vst s.sp.st)(h2:RI H vwa s.sp.wa)(h3:RRd H vr s.rs)(h4:RCm H vc s.cs)(he:s.early):
  Cl Tryz.prog 205 [.agg #[I s.sp.id,I s.sp.src,vst,vwa,I s.sp.al,I s.sp.up,vr,vc]] w fun u w'=>∃H1,HLe H H1∧RSy H1 u s.sys∧St H1 w' σ:=by
 refine (tY hs h1 h2 h3 h4 he).mono ?_
 rintro u w' ⟨H1,vl,en,hle,rfl,hO,hs⟩
 have hl:=kv he 6 ak
 rw [s.vU] at hl
 obtain ⟨H2,hle2,hR,hs⟩:=cN.cQ (m:=4) (cs:=s.cO.map Lim.c) hO (fun c hc=>by simp only [List.mem_map] at hc;obtain ⟨x,_,rfl⟩:=hc;rfl) ak (by rw [List.length_map];omega) hs .here
 exact ⟨H2,hle.trans hle2,⟨vl,rfl,hR⟩,hs⟩
set_option maxHeartbeats 1000000 in
theorem nC{s:Srv}{vst vwa vr vc:Value}(hs:St H w σ)(h1:RI H vst s.sp.st)(h2:RI H vwa s.sp.wa)(h3:RRd H vr s.rs)(h4:RCm H vc s.cs):
  Cl Tryz.prog 123 [.agg #[I s.sp.id,I s.sp.src,vst,vwa,I s.sp.al,I s.sp.up,vr,vc]] w fun u w'=>∃H1 e,HLe H H1∧u=I e∧yP s e∧St H1 w' σ:=by
 obtain ⟨ast,cst,rfl⟩:=RI.shape h1
 obtain ⟨awa,cwa,rfl⟩:=RI.shape h2
 obtain ⟨ar,cr,rfl⟩:=RRd.shape h3
 obtain ⟨ac,cc,rfl⟩:=RCm.shape h4
 refine Cl.o Tryz.func123 Tryz.ntmps123 ag1 ?_
 refine .aj (.bx hs fun b1 w hs=>?_)
 refine .zn zg (.seq (.aj (.z (zfa bj) (.y hs (zls [_,_,_,_,_,_] aK aA) (.o (.call Tryz.call113 rfl (iN (s:=s.sp) hs h1 h2) ?_))))));rintro _ w ⟨e,rfl,he,hs⟩
 refine .zn hZ (.dZ rfl (fun hc8=>?_) (fun hc8=>?_))
 ·refine .aj (.zn zg (.ret (rT (Fin.bq kY rfl ?_))))
  have hq:¬eY s.sp∧e=30:=he.resolve_left fun h=>hc8 h.2
  exact ⟨H,_,HLe.refl H,rfl,.space hq.1,hs.out⟩
 ·refine .skip (nT (.seq (.aj (.z (zfa aO) ?_))))
  have hok:eY s.sp:=(he.resolve_right fun h=>by omega).1
  refine .y hs (zld bG) (.z (da au) (.z k7 (.z zm (.ie (t':=13) rfl (fun hb13=>?_) (fun hb13=>?_)))))
  ·refine .Fs 4 4 false (.zn zpT (.cT (.aj (.zn zg (.ret (rT (Fin.bq kY rfl ?_)))))))
   exact ⟨H,_,HLe.refl H,rfl,.long hok ak,hs.out⟩
  ·refine .T (.z (zfa ck) (.T (.y hs (zld ea) (.T (.z (da bk) (.T (.z k7 (.zn zpF (.bn rfl (fun hc18=>?_) (fun hc18=>?_))))))))))
   ·refine .aj (.zn zg (.ret (rT (Fin.bq kY rfl ?_))))
    exact ⟨H,_,HLe.refl H,rfl,.long hok ak,hs.out⟩
   ·refine .skip (nT (.seq (.aj (.zn zg (.block ?_)))))
    refine .loop (fun k:Nat=>⟨64,[],[(3,I (k:Int)),(1,Pt b1)]⟩)
     (fun k w=>k≤s.rs.length∧(∀j<k,∀y,s.rs[j]? =some y→na s.sp y)∧St H w (.blk b1 [I s.sp.id,I s.sp.src,.slice ast s.sp.st.length cst,.slice awa s.sp.wa.length cwa,I s.sp.al,I s.sp.up,.slice ar s.rs.length cr,.slice ac s.cs.length cc]::σ)) (fun k=>s.rs.length - k) 0 a6
     ⟨Nat.zero_le _,fun j hj=>by omega,hs⟩ ?_
    rintro k w ⟨hk,hno,hs⟩
    refine .seq (.aj (.z zm (.z (zfa aO) (.y hs (zld bG) (.z (da au) (.zn fV (.bn rfl (fun hc23=>?_) (fun hc23=>?_))))))))
    ·refine .skip (nT (.seq (.block (.seq (.draw mix rfl hs fun w hs=>?_)))))
     refine .zw 0 rfl (zfa bj) ?_;refine .ys 1 rfl hs [_,_,_,_,_,_] aK aA ?_;refine .z 2 rfl (zfa aO) ?_;refine .y 3 rfl hs bG ?_;refine .z 4 rfl zm ?_
     obtain ⟨r,hx⟩:=nth (l:=s.rs) (k:=k) ak
     refine .ixX (enc:=Rdg.c) (i:=5) hs rfl aH .none h3 rfl rfl au aI hx cz ?_;intro b31 o31 hc31
     refine .r (i:=6) hs rfl aH .none (bQ (vs:=r.c) rfl ew aI hc31) ?_
     refine .E 7 hs ?_
     refine .call Tryz.call150 rfl (jQ (s:=s.sp) (r:=r) hs h1 h2) ?_;rintro _ w ⟨b33,rfl,hb33,hs⟩
     refine .go (.zw 8 rfl fI ?_);refine .D hs ?_
     refine (.cond rfl (fun hc34=>?_) (fun hc34=>?_))
     ·refine .aj (.zn zg (.ret (rB (rT (rT (rB (rT (Fin.bq kY rfl ?_))))))))
      exact ⟨H,_,HLe.refl H,rfl,.rdg hok ak (fun h=>by rw [hb33.2 (h r (List.mem_of_getElem? hx))] at hc34;cases hc34),hs.out⟩
     ·refine .skip (nB (nT (.region (.z zm (.z cu (.zn zg (nT ?_)))))))
      exact ⟨k+1,.cP rfl bT a6,⟨ak,fi hno hx (hb33.1 (by simpa using hc34)),hs⟩,ak⟩
    ·refine .exit (xT (xT (xB (nT (.seq (.aj (.zn zg (.block ?_))))))))
     have hrs:∀r∈s.rs,na s.sp r:=fun r hr=>by
      obtain ⟨j,hj⟩:=List.getElem?_of_mem hr
      have:=(List.getElem?_eq_some_iff.1 hj).1
      exact hno j ak r hj
     clear hno
     refine .loop (fun k:Nat=>⟨64,[],[(4,I (k:Int)),(1,Pt b1)]⟩)
      (fun k w=>k≤s.cs.length∧(∀j<k,∀y,s.cs[j]? =some y→qP y)∧St H w (.blk b1 [I s.sp.id,I s.sp.src,.slice ast s.sp.st.length cst,.slice awa s.sp.wa.length cwa,I s.sp.al,I s.sp.up,.slice ar s.rs.length cr,.slice ac s.cs.length cc]::σ)) (fun k=>s.cs.length - k) 0 a6
      ⟨Nat.zero_le _,fun j hj=>by omega,hs⟩ ?_
     rintro i w ⟨hi,hno,hs⟩
     refine .seq (.aj (.z zm (.z (zfa ck) (.y hs (zld ea) (.z (da bk) (.zn fV (.bn rfl (fun hc39=>?_) (fun hc39=>?_))))))))
     ·refine .skip (nT (.seq (.block (.aj (.z (zfa ck) (.y hs (zld ea) (.z zm ?_)))))))
      obtain ⟨c,hx⟩:=nth (l:=s.cs) (k:=i) ak
      refine .ixX (enc:=Cmp.c) hs h4 rfl rfl bk cD hx cz ?_;intro b45 o45 hc45
      refine .q hs (bQ (vs:=(Cmp.c c)) rfl HE cD hc45) (.o (.call Tryz.call176 rfl (ng (c:=c) hs) ?_));rintro _ w ⟨b47,rfl,hb47,hs⟩
      refine .zn fI (.cond rfl (fun hc48=>?_) (fun hc48=>?_))
      ·refine .aj (.zn zg (.ret (rB (rT (rT (rB (rT (Fin.bq kY rfl ?_))))))))
       exact ⟨H,_,HLe.refl H,rfl,.cmp hok ak hrs (fun h=>by rw [hb47.2 (h c (List.mem_of_getElem? hx))] at hc48;cases hc48),hs.out⟩
      ·refine .skip (nB (nT (.region (.z zm (.z cu (.zn zg (nT ?_)))))))
       exact ⟨i+1,.cP rfl bT a6,⟨ak,fi hno hx (hb47.1 (by simpa using hc48)),hs⟩,ak⟩
     ·refine .exit (xT (xT (xB (nT (.seq (.seq (.draw mix rfl hs fun w hs=>?_)))))))
      refine .zw 0 rfl (zfa bj) ?_;refine .ys 1 rfl hs [_,_,_,_,_,_] aK aA ?_;refine .z 3 rfl (zfa aO) ?_;refine .y 4 rfl hs bG ?_
      refine .E 2 hs ?_
      have hcs:∀c∈s.cs,qP c:=fun c hc=>by
       obtain ⟨j,hj⟩:=List.getElem?_of_mem hc
       have:=(List.getElem?_eq_some_iff.1 hj).1
       exact hno j ak c hj
      have hea:s.early:=⟨hok,ak,ak,hrs,hcs⟩
      have hsm:=ez hok
      have hrl:=hea.2.1
      have htl:s.cI.length≤60:=by have:=dQ s.rs;unfold Srv.cI;omega
      have hll:=kv hea 6 ak
      rw [s.vU] at hll
      refine .call tx rfl (dX (s:=s.sp) hs h1 h2 ⟨ak,ak⟩) ?_;rintro _ w ⟨rfl,hs⟩
      refine .go (.E 5 hs ?_)
      refine .call y9 rfl (ik hs h3 ak) ?_;rintro v54 w ⟨H1,hle1,hT,hs⟩
      replace hT:RTd H1 v54 s.cI:=hT
      obtain ⟨at_,ct,rfl⟩:=RTd.shape hT
      refine .go (.zw 6 rfl (da bD) ?_);refine .z 7 rfl cu ?_;refine .z 8 rfl k7 ?_;refine .z 9 rfl zm ?_
      refine .ie (t':=58) rfl (fun hb58=>?_) (fun hb58=>?_)
      ·refine .F 10 rfl (.F 11 rfl (.F 12 rfl (.F 13 rfl (.zw 14 rfl zpT ?_))));refine .D hs ?_
       refine (.cT (.aj (.zn zg (.ret (rT (Fin.bq kY rfl ?_))))))
       exact ⟨H1,_,hle1,rfl,.big hea ak,hs.out⟩
      ·refine .zv 10 rfl hs (Bu [_,_,_,_,_,_,_,_] aQ aC) (.E 11 hs ?_)
       refine .call Tryz.call152 rfl (kM (s:=s) hs (h1.mono hle1) (h2.mono hle1) (h3.mono hle1) (h4.mono hle1) hea) ?_;rintro v60 w ⟨H2,en,hle2,hO,hs⟩
       obtain ⟨al,ll,cl,rfl,hl60⟩:=hO.shape
       rw [eZ] at hl60
       refine .go (.zw 12 rfl (da aJ) ?_);refine .z 13 rfl k7 ?_;refine .z 14 rfl zpF ?_;refine .D hs ?_
       refine (.bn rfl (fun hc63=>?_) (fun hc63=>?_))
       ·refine .aj (.zn zg (.ret (rT (Fin.bq kY rfl ?_))))
        exact ⟨H2,_,hle1.trans hle2,rfl,.big hea ak,hs.out⟩
       ·refine .skip (nT (.aj (.zn zg (.ret (Fin.bq kY rfl ?_)))))
        exact ⟨H2,_,hle1.trans hle2,rfl,.ok hea ⟨ak,ak⟩,hs.out⟩
theorem j7{s:Spc}{q:Wht}{vst vwa:Value}(hs:St H w σ)(h2:RI H vwa s.wa):
  Cl Tryz.prog 230 [.agg #[I q.kind,I q.st,I q.wa,I s.id,I s.src,vst,vwa,I s.al,I s.up]] w fun v w'=>v= .bool (decide (0≤q.wa∧q.wa≤(s.wa.length:Int) - 1))∧St H w' σ:=by
 obtain ⟨awa,cwa,rfl⟩:=RI.shape h2
 have l2:=(RI.len h2).2.2
 refine Cl.o Tryz.func230 Tryz.ntmps230 ag1 ?_
 refine .aj (.bx hs fun b1 w hs=>?_)
 refine .zn zg (.aj (.z (zfa dh) (.z (zfa dU) (.y hs (zld ae) (.z (zfa fK) (.z (zfa a8) (.y hs (zld an) (.z (da af) (.z fM (.o (.call dP rfl (bK hs) ?_)))))))))));rintro _ w ⟨rfl,hs⟩
 refine .zn zg (.ret (Fin.bq Tryz.results230 rfl ?_))
 exact ⟨rfl,hs.out⟩
theorem lK{s:Spc}{q:Wht}{vst vwa:Value}(hs:St H w σ)(h1:RI H vst s.st):
  Cl Tryz.prog 235 [.agg #[I q.kind,I q.st,I q.wa,I s.id,I s.src,vst,vwa,I s.al,I s.up]] w fun v w'=>v= .bool (decide (0≤q.st∧q.st≤(s.st.length:Int) - 1))∧St H w' σ:=by
 obtain ⟨ast,cst,rfl⟩:=RI.shape h1
 have l1:=(RI.len h1).2.2
 refine Cl.o Tryz.func235 Tryz.ntmps235 ag1 ?_
 refine .aj (.bx hs fun b1 w hs=>?_)
 refine .zn zg (.aj (.z (zfa dh) (.z (zfa fb) (.y hs (zld ae) (.z (zfa fK) (.z (zfa bI) (.y hs (zld an) (.z (da af) (.z fM (.o (.call dP rfl (bK hs) ?_)))))))))));rintro _ w ⟨rfl,hs⟩
 refine .zn zg (.ret (Fin.bq Tryz.results235 rfl ?_))
 exact ⟨rfl,hs.out⟩
theorem ow{s:Spc}{q:Wht}:ib s q↔(q.kind=1∧q.st=0∧s.isW q∧0<q.wa)∨(q.kind=2∧q.st=0∧s.isW q)∨(q.kind=3∧q.wa=0∧s.isS q)∨(q.kind=4∧s.isS q∧s.isW q):=by
 constructor
 ·intro h
  cases h with
  |litres a b c d=>exact .inl ⟨a,b,c,d⟩
  |plane a b c=>exact .inr (.inl ⟨a,b,c⟩)
  |section_ a b c=>exact .inr (.inr (.inl ⟨a,b,c⟩))
  |offset a b c=>exact .inr (.inr (.inr ⟨a,b,c⟩))
 ·rintro (⟨a,b,c,d⟩|⟨a,b,c⟩|⟨a,b,c⟩|⟨a,b,c⟩)
  ·exact .litres a b c d
  ·exact .plane a b c
  ·exact .section_ a b c
  ·exact .offset a b c
theorem zI{s:Spc}{q:Wht}{vst vwa:Value}(hs:St H w σ)(h2:RI H vwa s.wa)(hk:q.kind=1):
  Cl Tryz.prog 229 [.agg #[I q.kind,I q.st,I q.wa,I s.id,I s.src,vst,vwa,I s.al,I s.up]] w fun v w'=>∃b:Bool,v= .bool b∧(b=true↔ib s q)∧St H w' σ:=by
 have hi:=ow (s:=s) (q:=q)
 simp only [Spc.isW,Spc.isS] at hi
 refine Cl.o Tryz.func229 Tryz.ntmps229 ag1 ?_
 refine .aj (.bx hs fun b1 w hs=>?_)
 refine .zn zg (.aj (.y hs (zls [_,_,_,_,_,_,_,_,_] sy l9) (.o (.call Tryz.call230 rfl (j7 hs h2) ?_))));rintro _ w ⟨rfl,hs⟩
 refine .z zm (.bif (t':=5) rfl (fun hb5=>?_) (fun hb5=>?_))
 ·refine .T (.z (zfa dh) (.T (.z (zfa dU) (.T (.y hs (zld ae) (.T (.z k7 (.z zpT (.z zm (.ie (t':=11) rfl (fun hb11=>?_) (fun hb11=>?_)))))))))))
  ·refine .T (.z (zfa dh) (.T (.z (zfa fb) (.T (.y hs (zld ae) (.T (.z fF (.z zpT (.zn zg (.ret (Fin.bq Tryz.results229 rfl ?_)))))))))))
   exact ⟨_,rfl,by rw [hi];simp_all<;>omega,hs.out⟩
  ·refine .Fs 4 8 true (.z zpF (.zn zg (.ret (Fin.bq Tryz.results229 rfl ?_))))
   exact ⟨_,rfl,by rw [hi];simp_all<;>omega,hs.out⟩
 ·refine .Fs 4 2 true (.z zpF (.z zm (.Fs 4 8 true (.z zpF (.zn zg (.ret (Fin.bq Tryz.results229 rfl ?_)))))))
  exact ⟨_,rfl,by rw [hi];simp_all<;>omega,hs.out⟩
theorem zH{s:Spc}{q:Wht}{vst vwa:Value}(hs:St H w σ)(h2:RI H vwa s.wa)(hk:q.kind=2):
  Cl Tryz.prog 232 [.agg #[I q.kind,I q.st,I q.wa,I s.id,I s.src,vst,vwa,I s.al,I s.up]] w fun v w'=>∃b:Bool,v= .bool b∧(b=true↔ib s q)∧St H w' σ:=by
 have hi:=ow (s:=s) (q:=q)
 simp only [Spc.isW,Spc.isS] at hi
 refine Cl.o Tryz.func232 Tryz.ntmps232 ag1 ?_
 refine .aj (.bx hs fun b1 w hs=>?_)
 refine .zn zg (.aj (.y hs (zls [_,_,_,_,_,_,_,_,_] sy l9) (.o (.call Tryz.call230 rfl (j7 hs h2) ?_))));rintro _ w ⟨rfl,hs⟩
 refine .z zm (.bif (t':=5) rfl (fun hb5=>?_) (fun hb5=>?_))
 ·refine .T (.z (zfa dh) (.T (.z (zfa fb) (.T (.y hs (zld ae) (.T (.z fF (.z zpT (.zn zg (.ret (Fin.bq Tryz.results232 rfl ?_)))))))))))
  exact ⟨_,rfl,by rw [hi];simp_all<;>omega,hs.out⟩
 ·refine .Fs 4 2 true (.z zpF (.zn zg (.ret (Fin.bq Tryz.results232 rfl ?_))))
  exact ⟨_,rfl,by rw [hi];simp_all<;>omega,hs.out⟩
theorem zG{s:Spc}{q:Wht}{vst vwa:Value}(hs:St H w σ)(h1:RI H vst s.st)(hk:q.kind=3):
  Cl Tryz.prog 234 [.agg #[I q.kind,I q.st,I q.wa,I s.id,I s.src,vst,vwa,I s.al,I s.up]] w fun v w'=>∃b:Bool,v= .bool b∧(b=true↔ib s q)∧St H w' σ:=by
 have hi:=ow (s:=s) (q:=q)
 simp only [Spc.isW,Spc.isS] at hi
 refine Cl.o Tryz.func234 Tryz.ntmps234 ag1 ?_
 refine .aj (.bx hs fun b1 w hs=>?_)
 refine .zn zg (.aj (.y hs (zls [_,_,_,_,_,_,_,_,_] sy l9) (.o (.call Tryz.call235 rfl (lK hs h1) ?_))));rintro _ w ⟨rfl,hs⟩
 refine .z zm (.bif (t':=5) rfl (fun hb5=>?_) (fun hb5=>?_))
 ·refine .T (.z (zfa dh) (.T (.z (zfa dU) (.T (.y hs (zld ae) (.T (.z fF (.z zpT (.zn zg (.ret (Fin.bq Tryz.results234 rfl ?_)))))))))))
  exact ⟨_,rfl,by rw [hi];simp_all<;>omega,hs.out⟩
 ·refine .Fs 4 2 true (.z zpF (.zn zg (.ret (Fin.bq Tryz.results234 rfl ?_))))
  exact ⟨_,rfl,by rw [hi];simp_all<;>omega,hs.out⟩
theorem zF{s:Spc}{q:Wht}{vst vwa:Value}(hs:St H w σ)(h1:RI H vst s.st)(h2:RI H vwa s.wa)(hk:q.kind=4):
  Cl Tryz.prog 237 [.agg #[I q.kind,I q.st,I q.wa,I s.id,I s.src,vst,vwa,I s.al,I s.up]] w fun v w'=>∃b:Bool,v= .bool b∧(b=true↔ib s q)∧St H w' σ:=by
 have hi:=ow (s:=s) (q:=q)
 simp only [Spc.isW,Spc.isS] at hi
 refine Cl.o Tryz.func237 Tryz.ntmps237 ag1 ?_
 refine .aj (.bx hs fun b1 w hs=>?_)
 refine .zn zg (.aj (.y hs (zls [_,_,_,_,_,_,_,_,_] sy l9) (.o (.call Tryz.call235 rfl (lK hs h1) ?_))));rintro _ w ⟨rfl,hs⟩
 refine .z zm (.bif (t':=5) rfl (fun hb5=>?_) (fun hb5=>?_))
 ·refine .T (.y hs (zls [_,_,_,_,_,_,_,_,_] sy l9) (.T (.o (.call Tryz.call230 rfl (j7 hs h2) ?_))));rintro _ w ⟨rfl,hs⟩
  refine .z zpT (.zn zg (.ret (Fin.bq Tryz.results237 rfl ?_)))
  exact ⟨_,rfl,by rw [hi];simp_all<;>omega,hs.out⟩
 ·refine .Fs 2 2 true (.z zpF (.zn zg (.ret (Fin.bq Tryz.results237 rfl ?_))))
  exact ⟨_,rfl,by rw [hi];simp_all<;>omega,hs.out⟩
theorem tO{s:Spc}{q:Wht}{vst vwa:Value}{i k:Nat}{u:Int}(hs:St H w σ)(h1:RI H vst s.st)(h2:RI H vwa s.wa)(hok:eY s)(hq:ib s q)(hk1:q.kind=1)(hi:i<s.st.length):
  Cl Tryz.prog 231 [.agg #[I q.kind,I q.st,I q.wa,I s.id,I s.src,vst,vwa,I s.al,I s.up],.agg #[I (i:Int),I (k:Int),I u]] w fun v w'=>∃H1,HLe H H1∧v=I (kK s q i k)∧St H1 w' σ:=by
 obtain ⟨ast,cst,rfl⟩:=RI.shape h1
 obtain ⟨awa,cwa,rfl⟩:=RI.shape h2
 have hn:=hok.wa.many
 have hcap:=(RI.len h2).2.1
 obtain ⟨_,hw1,hw2,hw3⟩:q.st=0∧0<q.wa∧0≤q.wa∧q.wa≤(s.wa.length:Int) - 1:=by
  rcases ow.1 hq with h|h|h|h
  ·exact ⟨h.2.1,h.2.2.2,h.2.2.1.1,h.2.2.1.2⟩
  all_goals omega
 obtain ⟨m,hm⟩:∃m:Nat,q.wa=m:=⟨q.wa.toNat,ak⟩
 have hW:kK s q i k=if (k:Int)≤q.wa then gi (wts s.st) i*gi (wts (s.wa.take (q.wa.toNat+1))) k else 0:=by unfold kK;rw [if_pos hk1]
 have hmt:q.wa.toNat=m:=by omega
 rw [hmt] at hW
 refine Cl.o Tryz.func231 Tryz.ntmps231 ag2 ?_
 refine .aj (.bx hs fun b2 w hs=>?_)
 refine .bx hs fun b3 w hs=>?_
 refine .zn zg (.seq (.aj (.z (zfa dn) (.y hs (zld ae) (.z (zfa dh) (.z (zfa dU) (.y hs (zld ae) (.zn k7 (.bn rfl (fun hc12=>?_) (fun hc12=>?_))))))))))
 ·refine .aj (.zn zg (.ret (rT (Fin.bq Tryz.results231 rfl ?_))))
  exact ⟨H,HLe.refl H,by rw [hW,if_neg ak],hs.out⟩
 ·refine .skip (nT (.seq (.draw mix rfl hs fun w hs=>?_)))
  refine .zw 0 rfl (zfa fK) ?_;refine .z 1 rfl (zfa bI) ?_;refine .y 2 rfl hs an ?_;refine .z 3 rfl (zfa fK) ?_;refine .z 4 rfl (zfa a8) ?_;refine .y 5 rfl hs an ?_;refine .z 6 rfl (zfa dh) ?_;refine .z 7 rfl (zfa dU) ?_;refine .y 8 rfl hs ae ?_;refine .z 9 rfl cu ?_
  refine .zw 10 rfl (oJ (k:=m+1) rfl rfl af ai ak ak) (.E 11 hs ?_)
  have hP:fq 7 15000 (s.wa.take (m+1)):=hok.wa.take ak ak
  refine .call Tryz.call163 rfl (oy hs h1 (h2.head (k:=m+1) ak)) ?_;rintro _ w ⟨H1,vo,e,hle1,rfl,hGx,-,hs⟩
  obtain ⟨rfl,hG⟩:=hGx ⟨hok.st,hP⟩
  have hgl:=kz (wts s.st) (wts (s.wa.take (m+1))) s.st.length
  have hyl:(wts (s.wa.take (m+1))).length=m+1:=by rw [eW,List.length_take];omega
  have hgr:=yx (X:=wts s.st) (Y:=wts (s.wa.take (m+1))) (n:=s.st.length) hi
  have hgt:=BE (X:=wts s.st) (Y:=wts (s.wa.take (m+1))) (n:=s.st.length) (k:=k) hi ak
  have hrl:=j8 (wts s.st) (wts (s.wa.take (m+1))) i
  rw [←hgr] at hrl
  generalize mZ (wts s.st) (wts (s.wa.take (m+1))) s.st.length=G at*
  obtain ⟨aG,cG,rfl⟩:=hG.shape
  refine .go (.zw 12 rfl zm ?_);refine .z 13 rfl zex ?_;refine .z 14 rfl zex ?_;refine .z 15 rfl zg ?_;refine .z 16 rfl zg ?_;refine .D hs ?_
  refine .seq (.draw mix rfl hs fun w hs=>?_)
  refine .zw 0 rfl zm ?_;refine .z 1 rfl (zfa dE) ?_;refine .y 2 rfl hs ae ?_
  refine .ixT (i:=3) hs rfl aH .none hG rfl rfl az aB (show i<_ by omega) cz ?_;intro b31 o31 a31 c31 hc31 hR31
  refine .r (i:=4) hs rfl aH .none (aP rfl an hc31) ?_
  refine .zw 5 rfl (zfa dn) ?_;refine .y 6 rfl hs ae ?_
  refine .ixX (enc:=fun x=>[I x]) (i:=7) hs rfl aH .none hR31 rfl rfl af ai (bJ (l:=(gr G i)) (i:=k) ak) cz ?_;intro b35 o35 hc35;replace hc35:=bL.one hc35
  refine .r (i:=8) hs rfl aH .none (aP rfl ae hc35) ?_
  refine .zw 9 rfl zg ?_;refine .D hs ?_
  refine .ret (Fin.bq Tryz.results231 rfl ?_)
  exact ⟨H1,hle1,by rw [hW,if_pos ak,←hgt];rfl,hs.out⟩
theorem u5{s:Spc}{q:Wht}{vst vwa:Value}{i k:Nat}{u:Int}(hs:St H w σ)(h1:RI H vst s.st)(hok:eY s)(hk1:q.kind=2)(hi:i<s.st.length):
  Cl Tryz.prog 233 [.agg #[I q.kind,I q.st,I q.wa,I s.id,I s.src,vst,vwa,I s.al,I s.up],.agg #[I (i:Int),I (k:Int),I u]] w fun v w'=>∃H1,HLe H H1∧v=I (kK s q i k)∧St H1 w' σ:=by
 have hW:kK s q i k=if (k:Int)=q.wa then gi (wts s.st) i else 0:=by unfold kK;rw [if_neg ak,if_pos hk1]
 have hl:=eW s.st
 refine Cl.o Tryz.func233 Tryz.ntmps233 ag2 ?_
 refine .aj (.bx hs fun b2 w hs=>?_)
 refine .bx hs fun b3 w hs=>?_
 refine .zn zg (.seq (.aj (.z (zfa dn) (.y hs (zld ae) (.z (zfa dh) (.z (zfa dU) (.y hs (zld ae) (.zn hZ (.dZ rfl (fun hc12=>?_) (fun hc12=>?_))))))))))
 ·refine .aj (.zn zg (.ret (rT (Fin.bq Tryz.results233 rfl ?_))))
  exact ⟨H,HLe.refl H,by rw [hW,if_neg ak],hs.out⟩
 ·refine .skip (nT (.aj (.z (zfa fK) (.z (zfa bI) (.y hs (zld an) (.o (.call Tryz.call275 rfl (mc hs h1) ?_)))))));rintro _ w ⟨H1,vo,e,hle1,rfl,hGx,hs⟩
  obtain ⟨rfl,hG⟩:=hGx hok.st
  obtain ⟨aG,cG,rfl⟩:=RI.shape hG
  refine .z zm (.z zex (.z zex (.z zg (.zn zg (.aj (.z zm (.z (zfa dE) (.y hs (zld ae) (.ixY hs hG rfl rfl af ai (bJ (l:=(wts s.st)) (i:=i) ak) cz ?_)))))))));intro b23 o23 hc23
  refine .q hs (aP rfl ae hc23) (.zn zg (.ret (Fin.bq Tryz.results233 rfl ?_)))
  exact ⟨H1,hle1,by rw [hW,if_pos ak],hs.out⟩
theorem sB{s:Spc}{q:Wht}{vst vwa:Value}{i k:Nat}{u:Int}(hs:St H w σ)(h2:RI H vwa s.wa)(hok:eY s)(hk1:q.kind=3)(hk:k<s.wa.length):
  Cl Tryz.prog 236 [.agg #[I q.kind,I q.st,I q.wa,I s.id,I s.src,vst,vwa,I s.al,I s.up],.agg #[I (i:Int),I (k:Int),I u]] w fun v w'=>∃H1,HLe H H1∧v=I (kK s q i k)∧St H1 w' σ:=by
 have hW:kK s q i k=if (i:Int)=q.st then gi (wts s.wa) k else 0:=by unfold kK;rw [if_neg ak,if_neg ak,if_pos hk1]
 have hl:=eW s.wa
 refine Cl.o Tryz.func236 Tryz.ntmps236 ag2 ?_
 refine .aj (.bx hs fun b2 w hs=>?_)
 refine .bx hs fun b3 w hs=>?_
 refine .zn zg (.seq (.aj (.z (zfa dE) (.y hs (zld ae) (.z (zfa dh) (.z (zfa fb) (.y hs (zld ae) (.zn hZ (.dZ rfl (fun hc12=>?_) (fun hc12=>?_))))))))))
 ·refine .aj (.zn zg (.ret (rT (Fin.bq Tryz.results236 rfl ?_))))
  exact ⟨H,HLe.refl H,by rw [hW,if_neg ak],hs.out⟩
 ·refine .skip (nT (.aj (.z (zfa fK) (.z (zfa a8) (.y hs (zld an) (.o (.call Tryz.call275 rfl (mc hs h2) ?_)))))));rintro _ w ⟨H1,vo,e,hle1,rfl,hGx,hs⟩
  obtain ⟨rfl,hG⟩:=hGx (Av hok)
  obtain ⟨aG,cG,rfl⟩:=RI.shape hG
  refine .z zm (.z zex (.z zex (.z zg (.zn zg (.aj (.z zm (.z (zfa dn) (.y hs (zld ae) (.ixY hs hG rfl rfl af ai (bJ (l:=(wts s.wa)) (i:=k) ak) cz ?_)))))))));intro b23 o23 hc23
  refine .q hs (aP rfl ae hc23) (.zn zg (.ret (Fin.bq Tryz.results236 rfl ?_)))
  exact ⟨H1,hle1,by rw [hW,if_pos ak],hs.out⟩
theorem tN{s:Spc}{q:Wht}{vst vwa:Value}{i k:Nat}{u:Int}(hs:St H w σ)(hk1:q.kind=4):
  Cl Tryz.prog 238 [.agg #[I q.kind,I q.st,I q.wa,I s.id,I s.src,vst,vwa,I s.al,I s.up],.agg #[I (i:Int),I (k:Int),I u]] w fun v w'=>∃H1,HLe H H1∧v=I (kK s q i k)∧St H1 w' σ:=by
 have hW:kK s q i k=if (i:Int)=q.st∧(k:Int)=q.wa then 1 else 0:=by unfold kK;rw [if_neg ak,if_neg ak,if_neg ak]
 refine Cl.o Tryz.func238 Tryz.ntmps238 ag2 ?_
 refine .aj (.bx hs fun b2 w hs=>?_)
 refine .bx hs fun b3 w hs=>?_
 refine .zn zg (.seq (.aj (.z (zfa dE) (.y hs (zld ae) (.z (zfa dh) (.z (zfa fb) (.y hs (zld ae) (.z hZ (.z zm (.CE (t':=11) rfl (fun hb11=>?_) (fun hb11=>?_)))))))))))
 ·refine .Fs 6 6 false (.zn zpT (.cT (.aj (.zn zg (.ret (rT (Fin.bq Tryz.results238 rfl ?_)))))))
  first
  |exact ⟨H,HLe.refl H,by rw [hW,if_neg ak],hs.out⟩
  |exact ⟨H,HLe.refl H,by rw [hW,if_pos ak],hs.out⟩
 ·refine .T (.z (zfa dn) (.T (.y hs (zld ae) (.T (.z (zfa dh) (.T (.z (zfa dU) (.T (.y hs (zld ae) (.T (.z hZ (.zn zpF (.dZ rfl (fun hc18=>?_) (fun hc18=>?_))))))))))))))
  ·refine .aj (.zn zg (.ret (rT (Fin.bq Tryz.results238 rfl ?_))))
   first
   |exact ⟨H,HLe.refl H,by rw [hW,if_neg ak],hs.out⟩
   |exact ⟨H,HLe.refl H,by rw [hW,if_pos ak],hs.out⟩
  ·refine .skip (nT (.aj (.zn zg (.ret (Fin.bq Tryz.results238 rfl ?_)))))
   first
   |exact ⟨H,HLe.refl H,by rw [hW,if_neg ak],hs.out⟩
   |exact ⟨H,HLe.refl H,by rw [hW,if_pos ak],hs.out⟩
def B7(k:Int):Nat:=if k=1 then 229 else if k=2 then 232 else if k=3 then 234 else 237
def BZ(k:Int):Nat:=if k=1 then 231 else if k=2 then 233 else if k=3 then 236 else 238
def Bx(k:Int):Value:= .agg #[.func (.func (B7 k)) #[] #[],.func (.func (BZ k)) #[] #[],I (pa ⟨k,0,0⟩)]
def Hq:List MapEntry:=[{key:=I 1,val:=Bx 1,born:=0},{key:=I 2,val:=Bx 2,born:=1},{key:=I 3,val:=Bx 3,born:=2},{key:=I 4,val:=Bx 4,born:=3}]
theorem mh(hs:St H w σ):
  Cl Tryz.prog 187 [] w fun v w'=>∃b,v= .map (some b)∧St H w' (.obj b (.map Hq.toArray 4)::σ):=by
 refine Cl.of Tryz.func187 rfl Tryz.ntmps187 bT (yM) (.aj (.zn zg (.aj (.o (.makeMap hs fun b1 w hs=>?_)))))
 refine .z (zbd [_,_,_] jD) (.o (.insert (es:=[]) hs rfl rfl rfl fo bF rfl fun w hs=>?_))
 refine .z (zbd [_,_,_] jD) (.o (.insert (es:=[{key:=I 1,val:=Bx 1,born:=0}]) hs rfl rfl rfl fo bF rfl fun w hs=>?_))
 refine .z (zbd [_,_,_] jD) (.o (.insert (es:=[{key:=I 1,val:=Bx 1,born:=0},{key:=I 2,val:=Bx 2,born:=1}]) hs rfl rfl rfl fo bF rfl fun w hs=>?_))
 refine .z (zbd [_,_,_] jD) (.o (.insert (es:=[{key:=I 1,val:=Bx 1,born:=0},{key:=I 2,val:=Bx 2,born:=1},{key:=I 3,val:=Bx 3,born:=2}]) hs rfl rfl rfl fo bF rfl fun w hs=>?_))
 refine .z zm (.zn zg (.ret (Fin.bq Tryz.results187 rfl ?_)))
 exact ⟨b1,rfl,hs⟩
def lF1(k:Int):Value:=if 1≤k∧k≤4 then .func (.func (B7 k)) #[] #[] else .nilFunc
def lF2(k:Int):Value:=if 1≤k∧k≤4 then .func (.func (BZ k)) #[] #[] else .nilFunc
def lD(k:Int):Int:=if 1≤k∧k≤4 then pa ⟨k,0,0⟩ else 0
theorem Bw(k:Int):[lF1 k,lF2 k,I (lD k)].all Value.oneCell'=true:=by
 unfold lF1 lF2;split<;>rfl
theorem Df{H:bV}{s:FS}{x y:Operand}{b:Nat}(k:Int)(hx:FS.ev s x=some (.map (some b)))(hy:FS.ev s y=some (I k)):
  QJ Tryz.prog H [.obj b (.map Hq.toArray 4)] s (.lookup 238 x y true) (.tuple #[.agg #[lF1 k,lF2 k,I (lD k)],.bool (decide (1≤k∧k≤4))]):=by
 by_cases h:1≤k∧k≤4
 ·rw [decide_eq_true h]
  have h4:k=1∨k=2∨k=3∨k=4:=by omega
  rcases h4 with rfl|rfl|rfl|rfl
  ·exact Bk (v:=Bx 1) (j:=0) hx hy fo bF rfl .here
  ·exact Bk (v:=Bx 2) (j:=1) hx hy fo bF rfl .here
  ·exact Bk (v:=Bx 3) (j:=2) hx hy fo bF rfl .here
  ·exact Bk (v:=Bx 4) (j:=3) hx hy fo bF rfl .here
 ·rw [decide_eq_false h]
  have e1:lF1 k= .nilFunc:=if_neg h
  have e2:lF2 k= .nilFunc:=if_neg h
  have e3:lD k=0:=if_neg h
  rw [e1,e2,e3]
  refine GH (es:=Hq) (c:=4) hx hy fo bF Js ?_ .here
  have n1:(k==1)=false:=by simp only [beq_eq_false_iff_ne];omega
  have n2:(k==2)=false:=by simp only [beq_eq_false_iff_ne];omega
  have n3:(k==3)=false:=by simp only [beq_eq_false_iff_ne];omega
  have n4:(k==4)=false:=by simp only [beq_eq_false_iff_ne];omega
  simp [Instr.findNow,Instr.sameNow,Hq,n1,n2,n3,n4]
theorem EP(k:Int):∀args w,(callFunc (B7 k) args).run Tryz.prog w= .ok (.enter (B7 k) args) w:=by
 unfold B7
 split
 ·exact Tryz.call229
 ·split
  ·exact Tryz.call232
  ·split
   ·exact Tryz.call234
   ·exact Tryz.call237
theorem ED(k:Int):∀args w,(callFunc (BZ k) args).run Tryz.prog w= .ok (.enter (BZ k) args) w:=by
 unfold BZ
 split
 ·exact Tryz.call231
 ·split
  ·exact Tryz.call233
  ·split
   ·exact Tryz.call236
   ·exact Tryz.call238
theorem EO{s:Spc}{q:Wht}{vst vwa:Value}(hs:St H w σ)(h1:RI H vst s.st)(h2:RI H vwa s.wa)(hk:1≤q.kind∧q.kind≤4):
  Cl Tryz.prog (B7 q.kind) [.agg #[I q.kind,I q.st,I q.wa,I s.id,I s.src,vst,vwa,I s.al,I s.up]] w fun v w'=>∃b:Bool,v= .bool b∧(b=true↔ib s q)∧St H w' σ:=by
 unfold B7
 split
 ·exact zI hs h2 fp
 ·split
  ·exact zH hs h2 fp
  ·split
   ·exact zG hs h1 fp
   ·exact zF hs h1 h2 ak
theorem EC{s:Spc}{q:Wht}{vst vwa:Value}{i k:Nat}{u:Int}(hs:St H w σ)(h1:RI H vst s.st)(h2:RI H vwa s.wa)(hok:eY s)(hq:ib s q)(hk:1≤q.kind∧q.kind≤4)(hi:i<s.st.length)(hkw:k<s.wa.length):
  Cl Tryz.prog (BZ q.kind) [.agg #[I q.kind,I q.st,I q.wa,I s.id,I s.src,vst,vwa,I s.al,I s.up],.agg #[I (i:Int),I (k:Int),I u]] w fun v w'=>∃H1,HLe H H1∧v=I (kK s q i k)∧St H1 w' σ:=by
 unfold BZ
 split
 ·exact tO hs h1 h2 hok hq fp hi
 ·split
  ·exact u5 hs h1 hok fp hi
  ·split
   ·exact sB hs h2 hok fp hkw
   ·exact tN hs ak
theorem Il{q:Wht}(h:1≤q.kind∧q.kind≤4):lD q.kind=pa q:=by
 unfold lD;rw [if_pos h];rfl
theorem EA{s:Spc}{q:Wht}(h:ib s q):1≤q.kind∧q.kind≤4:=by
 rcases ow.1 h with h|h|h|h<;>omega
set_option maxHeartbeats 1000000 in
theorem ld{s:Spc}{q:Wht}{vst vwa:Value}(hs:St H w σ)(h1:RI H vst s.st)(h2:RI H vwa s.wa)(hok:eY s):
  Cl Tryz.prog 130 [.agg #[I s.id,I s.src,vst,vwa,I s.al,I s.up],.agg #[I q.kind,I q.st,I q.wa]] w fun u w'=>∃H1 vl L d b en,HLe H H1∧u= .tuple #[vl,I d,.bool b]∧cN 1 vl (Is L) en∧((b=true∧ib s q∧L=lA s q∧d=pa q)∨(b=false∧¬ib s q∧L=[]∧d=0))∧St H1 w' (en::σ):=by
 have hsm:=ez hok
 obtain ⟨ast,cst,rfl⟩:=RI.shape h1
 obtain ⟨awa,cwa,rfl⟩:=RI.shape h2
 refine Cl.o Tryz.func130 Tryz.ntmps130 ag2 ?_
 refine .aj (.bx hs fun b2 w hs=>?_)
 refine .bx hs fun b3 w hs=>?_
 refine .z zg (.z zg (.zn zg (.cut (fun fs w=>∃b7,lF fs ⟨46,[],[(8,.bool (decide (1≤q.kind∧q.kind≤4))),(7,Pt b7),(2,Pt b2),(3,Pt b3)]⟩∧St H w (.blk b7 [lF1 q.kind,lF2 q.kind,I (lD q.kind)]:: .blk b3 [I q.kind,I q.st,I q.wa]:: .blk b2 [I s.id,I s.src,(.slice ast s.st.length cst),(.slice awa s.wa.length cwa),I s.al,I s.up]::σ)) ?_ ?_)))
 ·refine .draw mix rfl hs fun w hs=>?_
  refine .zw 1 rfl (zfa np) ?_;refine .y 2 rfl hs ae ?_
  refine .e2 (i:=0) (j:=7) aH rfl rfl rfl rfl .none .none hs ?_ ?_
  ·refine .call Tryz.call187 rfl (mh hs) ?_;rintro _ w ⟨b13,rfl,hs⟩
   refine .go (.q (i:=3) [.obj b13 (.map Hq.toArray 4)] rfl aH .none (Df (H:= .bot) q.kind rfl rfl) ?_)
   refine .zw 4 rfl zm ?_;refine .z 5 rfl zex ?_;refine .z 6 rfl zex ?_
   refine .E 7 hs ?_
   refine .alloc hs Js rfl ?_;intro b7 w hs
   refine .go (.E 8 hs ?_)
   refine .aU (vs:=[lF1 q.kind,lF2 q.kind,I (lD q.kind)]) hs rfl rfl Tryz.sizeOf236 ?_ (hv:=Bw _);intro w hs
   refine .go (.zw 9 rfl zg ?_);refine .D hs ?_
   exact nT ⟨b7,a6,hs.sb⟩
  ·refine .alloc hs Js rfl ?_;intro b7 w hs
   refine .go (.E 0 hs ?_)
   refine .call Tryz.call187 rfl (mh hs) ?_;rintro _ w ⟨b13,rfl,hs⟩
   refine .go (.q (i:=3) [.obj b13 (.map Hq.toArray 4)] rfl aH .none (Df (H:= .bot) q.kind rfl rfl) ?_)
   refine .zw 4 rfl zm ?_;refine .z 5 rfl zex ?_;refine .z 6 rfl zex ?_
   refine .E 8 hs ?_
   refine .aU (vs:=[lF1 q.kind,lF2 q.kind,I (lD q.kind)]) hs rfl rfl Tryz.sizeOf236 ?_ (hv:=Bw _);intro w hs
   refine .go (.zw 9 rfl zg ?_);refine .D hs ?_
   exact nT ⟨b7,a6,hs.sb⟩
 ·rintro fs w ⟨b7,hfs,hs⟩
  refine WE.sub ?_ hfs
  refine .aj (.y hs (zls [_,_,_] ny gW) (.y hs (zls [_,_,_,_,_,_] aK aA) (.z (zbd (vs:=[(0,.agg #[I q.kind,I q.st,I q.wa]),(1,.agg #[I s.id,I s.src,(.slice ast s.st.length cst),(.slice awa s.wa.length cwa),I s.al,I s.up])]) [I q.kind,I q.st,I q.wa,I s.id,I s.src,(.slice ast s.st.length cst),(.slice awa s.wa.length cwa),I s.al,I s.up] uu rfl aH) (.o (.alloc hs Tryz.zeroValue241 rfl fun b9 w hs=>?_)))))
  refine .o (.aU (vs:=[_,_,_,_,_,_,_,_,_]) hs rfl rfl l9 fun w hs=>?_)
  refine .nil (.seq (.aj (.z zm (.z fI (.z zm (.bif (t':=24) rfl (fun hb24=>?_) (fun hb24=>?_)))))))
  ·refine .Fs 5 2 false (.zn zpT (.cT (.aj (.z zg (.z zg (.zn zg (.ret (rT (?_)))))))))
   have hn:¬ib s q:=fun h=>by have:=EA h;simp [this] at hb24
   exact Fin.jt [] [] hs fun w hs=>⟨_,results3 Tryz.results130 rfl rfl rfl,H,_,[],_,_,.nul,HLe.refl H,rfl,.nil 1 none,.inr ⟨rfl,hn,rfl,rfl⟩,hs.out.nul⟩
  ·refine .T ?_
   have hk:1≤q.kind∧q.kind≤4:=by simpa using hb24
   rw [show lF1 q.kind= .func (.func (B7 q.kind)) #[] #[] from if_pos hk,show lF2 q.kind= .func (.func (BZ q.kind)) #[] #[] from if_pos hk,Il hk] at hs
   refine .z (zfa th) (.T (.y hs (zld Tryz.isAgg233) (.T (.y hs (zls [_,_,_,_,_,_,_,_,_] sy l9) (.T (.o (.pQ (first:=[]) (cap:=[]) rfl rfl (EP q.kind) (EO (s:=s) hs h1 h2 hk) ?_)))))));rintro _ w ⟨b28,rfl,hb28,hs⟩
   refine .T (.z fI (.zn zpF (.cond rfl (fun hc30=>?_) (fun hc30=>?_))))
   ·refine .aj (.z zg (.z zg (.zn zg (.ret (rT (?_))))))
    have hn:¬ib s q:=fun h=>by rw [hb28.2 h] at hc30;cases hc30
    exact Fin.jt [] [] hs fun w hs=>⟨_,results3 Tryz.results130 rfl rfl rfl,H,_,[],_,_,.nul,HLe.refl H,rfl,.nil 1 none,.inr ⟨rfl,hn,rfl,rfl⟩,hs.out.nul⟩
   ·refine .skip (nT (.aj (.o (.buildSlice (cells:=[_]) hs dc rfl rfl fun b31 w hs=>?_))))
    refine .o (.alloc hs ep rfl fun b10 w hs=>?_)
    refine .o (.store hs rfl rfl aB fun w hs=>?_)
    refine .nil (.seq (.aj (.y hs (zls [_,_,_,_,_,_] aK aA) ?_)))
    have hq:ib s q:=hb28.1 (by simpa using hc30)
    refine .o (.call CB rfl (fZ (s:=s) hs h1 h2 ⟨ak,ak⟩) ?_);rintro _ w ⟨H1,ba,hle1,rfl,hit,hs⟩
    have hwl:=gz s q
    refine .nil (.block ?_)
    refine .rangeFunc (gf:=188) (cap:=[Pt ba]) (xs:=xF s) (σb:=[.blk b10 [.slice (some ⟨b31,0,none⟩) 1 1],.blk b31 (Is [0]),.blk b7 [.func (.func (B7 q.kind)) #[] #[],.func (.func (BZ q.kind)) #[] #[],I (pa q)],.blk b9 [I q.kind,I q.st,I q.wa,I s.id,I s.src,(.slice ast s.st.length cst),(.slice awa s.wa.length cwa),I s.al,I s.up]]) (σf:=σ) (hs.sb) trivial rfl hit CA (fun x hx=>by
      simp only [xF,List.mem_map] at hx
      obtain ⟨j,_,rfl⟩:=hx;rfl) rfl
     (I:=fun p H' σb=>∃vo en,σb=[.blk b10 [vo],en,.blk b7 [.func (.func (B7 q.kind)) #[] #[],.func (.func (BZ q.kind)) #[] #[],I (pa q)],.blk b9 [I q.kind,I q.st,I q.wa,I s.id,I s.src,(.slice ast s.st.length cst),(.slice awa s.wa.length cwa),I s.al,I s.up]]∧cN 1 vo (Is ((lA s q).take (p+1))) en) (Ix:=fun _ _ _=>False)
     (fun j _ _ σ g1 g2=>g2) (fun _ _ _ _ _ h=>h) ⟨_,_,rfl,.full rfl⟩ ?_ ?_ (fun D c H' σb w _ h _=>h.elim)
    ·rintro ly p hp H2 σb2 σf2 w hle2 ⟨vo,en,rfl,hO⟩ hs ⟨rr,hrr⟩
     have hpm:p<s.many:=by rw [eJ] at hp;exact hp
     have hin:p/s.wa.length<s.st.length:=Nat.div_lt_of_lt_mul (by rw [Nat.mul_comm];exact hpm)
     have hkm:=Nat.mod_lt p hsm.2.2.1
     have hws:=u4 s q hpm
     have hget:(lA s q)[p+1]? =some (kK s q (p/s.wa.length) (p%s.wa.length)):=by rw [←hws];exact bJ ak
     rw [nt hp]
     obtain ⟨al,ll,cl,rfl,hll⟩:=hO.shape
     generalize p/s.wa.length=i at*
     generalize p%s.wa.length=k at*
     refine .region (.o (.alloc hs lG rfl fun b11 w hs=>?_))
     refine .o (.aU (vs:=[_,_,_]) hs rfl rfl pZ fun w hs=>?_)
     refine .nil (nT (⟨H2,[.blk b11 [I (i:Int),I (k:Int),I ((p+1:Nat):Int)],.blk b10 [Value.slice al ll cl],en,.blk b7 [.func (.func (B7 q.kind)) #[] #[],.func (.func (BZ q.kind)) #[] #[],I (pa q)],.blk b9 [I q.kind,I q.st,I q.wa,I s.id,I s.src,(.slice ast s.st.length cst),(.slice awa s.wa.length cwa),I s.al,I s.up]],HLe.refl _,hs,?_⟩));rintro w σf4 - hs
     refine .block (.draw mix rfl hs fun w hs=>?_)
     refine .y 0 rfl hs an ?_;refine .z 1 rfl (zfa tg) ?_
     refine .zv 2 rfl hs (od Tryz.isAgg234) (.ys 3 rfl hs [_,_,_,_,_,_,_,_,_] sy l9 ?_);refine .ys 4 rfl hs [_,_,_] Tryz.isAgg190 pZ ?_
     refine .E 5 hs ?_
     refine .pQ (first:=[]) (cap:=[]) rfl rfl (ED q.kind) (EC (s:=s) (q:=q) (i:=i) (k:=k) hs (h1.mono (hle1.trans hle2)) (h2.mono (hle1.trans hle2)) hok hq hk hin hkm) ?_;rintro _ w ⟨H3,hle3,rfl,hs⟩
     refine .go (.E 6 hs ?_)
     refine .buildSlice (cells:=[_]) hs dc rfl rfl ?_;intro b41 w hs
     refine .go (.E 7 hs ?_)
     refine .append (ys:=Is [kK s q i k]) hs cV rfl rfl hO (.own .here rfl rfl) (js _) (fun l h=>by simp at h;omega) ?_;intro v42 en42 w hO2 hs
     rw [show Is ((lA s q).take (p+1))++Is [kK s q i k]=Is ((lA s q).take (p+1+1)) by rw [dj hget];simp [Is]] at hO2
     obtain ⟨a42,l42,c42,rfl,h42⟩:=hO2.shape
     refine .go (.E 8 hs ?_)
     refine .store hs rfl rfl aB ?_;intro w hs
     refine .go (.D hs (nB ?_))
     exact ⟨H3,[.blk b10 [.slice a42 l42 c42],en42,.blk b7 [.func (.func (B7 q.kind)) #[] #[],.func (.func (BZ q.kind)) #[] #[],I (pa q)],.blk b9 [I q.kind,I q.st,I q.wa,I s.id,I s.src,(.slice ast s.st.length cst),(.slice awa s.wa.length cwa),I s.al,I s.up]],hle3,(hs.sb:St H3 w (.blk b10 _::en42:: .blk b7 _:: .blk b9 _::σf4)),_,_,rfl,hO2⟩
    ·rintro D H2 σb2 w hle2 ⟨vo,en,rfl,hO⟩ hs
     rw [eJ,←hwl,List.take_length] at hO
     replace hs:St H2 w (.obj D (.deferred (some [])):: .blk b10 [vo]::en:: .blk b7 [.func (.func (B7 q.kind)) #[] #[],.func (.func (BZ q.kind)) #[] #[],I (pa q)]:: .blk b9 [I q.kind,I q.st,I q.wa,I s.id,I s.src,(.slice ast s.st.length cst),(.slice awa s.wa.length cwa),I s.al,I s.up]::σ):=hs
     obtain ⟨al,ll,cl,rfl,hll⟩:=hO.shape
     refine nB (nT (.seq (.draw mix rfl hs fun w hs=>?_)))
     refine .y 0 rfl hs an ?_;refine .z 1 rfl (zfa tf) ?_;refine .y 2 rfl hs ae ?_;refine .z 3 rfl zg ?_;refine .z 4 rfl zg ?_;refine .z 5 rfl zg ?_;refine .D hs ?_
     refine .ret ?_
     exact Fin.jt [D] [] hs fun w hs=>⟨_,results3 Tryz.results130 rfl rfl rfl,H2,_,_,_,_,en,hle1.trans hle2,rfl,hO,.inl ⟨rfl,hq,rfl,rfl⟩,hs.sb⟩
theorem kd{a d:Int}(hs:St H w σ)(hd:1≤d)(ha: -4608000000000000000≤a∧a≤4608000000000000000):
  Cl Tryz.prog 132 [I a,I d] w fun v w'=>v=I (a/d)∧St H w' σ:=by
 have hq: -4608000000000000000≤a.tdiv d∧a.tdiv d≤4608000000000000000:=by
  have h1:=pz (n:=a) (d:=d) ak
  have h2:a/d≤4608000000000000000:=Int.ediv_le_of_le_mul ak (by
   have:=Int.mul_le_mul_of_nonneg_left hd (show (0:Int)≤4608000000000000000 by omega);omega)
  have h3: -4608000000000000000≤a/d:=Int.le_ediv_of_mul_le ak (by
   have:=Int.mul_le_mul_of_nonneg_left hd (show (0:Int)≤4608000000000000000 by omega);omega)
  by_cases h0:0≤a
  ·rw [Int.tdiv_eq_ediv_of_nonneg h0];omega
  ·split at h1
   ·have:a/d<0:=Int.ediv_neg_of_neg_of_pos ak ak
    omega
   ·omega
 have hfl:=pz (n:=a) (d:=d) ak
 refine Cl.o Tryz.func132 Tryz.ntmps132 ag2 ?_
 refine .aj (.zn zg (.aj (.z zm (.z zm (.q hs (rh rfl rfl ak ⟨ak,ak⟩) (.zn zg (.seq (.aj (.z zm (.z zm (.z Ag (.zn fV (.bn rfl (fun hc12=>?_) (fun hc12=>?_))))))))))))))
 ·refine .region (.z zm (.z fM (.zn zg (nT (.aj (.z zm (.zn zg (.ret (Fin.bq Tryz.results132 rfl ?_)))))))))
  rw [if_pos hc12] at hfl
  exact ⟨by rw [hfl],hs⟩
 ·refine .skip (nT (.aj (.z zm (.zn zg (.ret (Fin.bq Tryz.results132 rfl ?_))))))
  rw [if_neg hc12,Int.sub_zero] at hfl
  exact ⟨by rw [hfl],hs⟩
theorem qz{s:Srv}{vst vwa vr vc:Value}(hs:St H w σ)(h1:RI H vst s.sp.st)(h2:RI H vwa s.sp.wa)(h3:RRd H vr s.rs)(h4:RCm H vc s.cs)(hok:fD s):
  Cl Tryz.prog 178 [.agg #[I s.sp.id,I s.sp.src,vst,vwa,I s.sp.al,I s.sp.up,vr,vc]] w fun u w'=>∃H1,∃b:Bool,HLe H H1∧u= .bool b∧(b=true↔s.sys.Sound)∧St H1 w' σ:=by
 refine Cl.o Tryz.func178 Tryz.ntmps178 ag1 ?_
 refine .aj (.bx hs fun b1 w hs=>?_)
 refine .zn zg (.aj (.y hs (zls [_,_,_,_,_,_,_,_] aQ aC) (.o (.call Jv rfl (fN (s:=s) hs h1 h2 h3 h4 hok.early) ?_))));rintro v7 w ⟨H1,hle1,hS,hs⟩
 refine .o (.call Tryz.call221 rfl (uo (s:=s.sys) hs hS) ?_);rintro _ w ⟨H2,vx,xs,e,hle2,rfl,rx,hC,hs⟩
 obtain ⟨ax,cx,rfl⟩:=RI.shape rx
 have hchk:s.sys.check=0:=s.sys.dT.2 hok.sys
 obtain rfl:e=0:=by
  cases hC with
  |bad h=>exact (h hchk).elim
  |sound=>rfl
  |chain=>rfl
 have hiff:=hC.CX
 refine .z zm (.z zex (.z zex (.z zg (.zn zg (.aj (.z zm (.z fF (.z zm (.ie (t':=13) rfl (fun hb13=>?_) (fun hb13=>?_))))))))))
 ·refine .T (.z zm (.T (.z (da af) (.T (.z fF (.z zpT (.zn zg (.ret (Fin.bq Tryz.results178 rfl ?_)))))))))
  first
  |exact ⟨H2,_,hle1.trans hle2,rfl,by rw [←hiff,decide_eq_true_eq];exact ⟨fun h=>List.length_eq_zero_iff.1 ak,fun h=>by rw [h];rfl⟩,hs.out⟩
  |exact (hb13 rfl).elim
 ·refine .Fs 3 2 true (.z zpF (.zn zg (.ret (Fin.bq Tryz.results178 rfl ?_))))
  first
  |exact ⟨H2,_,hle1.trans hle2,rfl,by rw [←hiff,decide_eq_true_eq];exact ⟨fun h=>List.length_eq_zero_iff.1 ak,fun h=>by rw [h];rfl⟩,hs.out⟩
  |exact (hb13 rfl).elim
theorem FQ(L:List Int)(j:Nat):L++List.replicate j 0++[0]=L++List.replicate (j+1) 0:=by
 rw [List.append_assoc,←List.replicate_succ']
set_option maxHeartbeats 1000000 in
theorem ue{s:Srv}{q:Wht}{vst vwa vr vc:Value}(hs:St H w σ)(h1:RI H vst s.sp.st)(h2:RI H vwa s.sp.wa)(h3:RRd H vr s.rs)(h4:RCm H vc s.cs)(hok:fD s):
  Cl Tryz.prog 177 [.agg #[I s.sp.id,I s.sp.src,vst,vwa,I s.sp.al,I s.sp.up,vr,vc],.agg #[I q.kind,I q.st,I q.wa]] w fun u w'=>∃H1 ul vw L d b,HLe H H1∧u= .tuple #[.agg #[I s.sys.many,ul,vw,I d],.bool b]∧RL H1 ul s.cO∧RI H1 vw L∧L.length=s.sys.n∧((b=true∧ib s.sp q∧L=s.w q∧d=pa q)∨(b=false∧¬ib s.sp q))∧St H1 w' σ:=by
 have hn:=xZ s
 have hm:=hok.many
 have hsm:s.sys.many+1=(s.sys.n:Int):=by rw [hn];show ((s.sp.many+s.cI.length:Nat):Int)+1=_;omega
 refine Cl.o Tryz.func177 Tryz.ntmps177 ag2 ?_
 refine .aj (.bx hs fun b2 w hs=>?_)
 refine .bx hs fun b3 w hs=>?_
 refine .o (.alloc hs y7 rfl fun b4 w hs=>?_)
 refine .zn zg (.aj (.y hs (zls [_,_,_,_,_,_,_,_] aQ aC) (.o (.call Jv rfl (fN (s:=s) hs h1 h2 h3 h4 hok.early) ?_))));rintro _ w ⟨H1,hle1,⟨ul,rfl,hL⟩,hs⟩
 obtain ⟨al,cl,rfl⟩:=RL.shape hL
 refine .o (.alloc hs eE rfl fun b6 w hs=>?_)
 refine .o (.aU (vs:=[_,_]) hs rfl rfl aV fun w hs=>?_)
 refine .nil (.aj (.z (zfa bj) (.y hs (zls [_,_,_,_,_,_] aK aA) (.y hs (zls [_,_,_] ny gW) (.o (.call Tryz.call130 rfl (ld (s:=s.sp) (q:=q) hs (h1.mono hle1) (h2.mono hle1) hok.early.1) ?_))))));rintro _ w ⟨H2,vl,L0,d,b,en,hle2,rfl,hO,hcase,hs⟩
 have hL0:L0.length≤s.sys.n:=by
  rcases hcase with ⟨_,_,rfl,_⟩|⟨_,_,rfl,_⟩
  ·rw [gz,hn];omega
  ·simp
 have hle02:=hle1.trans hle2
 refine .z zm (.z zex (.z zex (.z zex (.z zg (.z zg (.zn zg (.seq (.block ?_))))))))
 refine .loop (fun p:Nat×Value=>⟨34,[],[(7,p.2),(8,I d),(9,.bool b),(6,Pt b6),(4,Pt b4)]⟩)
  (fun p w=>L0.length+p.1≤s.sys.n∧∃en,cN 1 p.2 (Is (L0++List.replicate p.1 0)) en∧St H2 w (en:: .blk b6 [I s.sys.many,.slice al s.cO.length cl]:: .blk b4 [I 0,.slice none 0 0,.slice none 0 0,I 0]::σ)) (fun p=>s.sys.n - (L0.length+p.1)) (0,vl) a6
  ⟨by simpa using hL0,en,by simpa using hO,hs.sb⟩ ?_
 clear hO hs
 rintro ⟨j,vo⟩ w ⟨hj,en,hO,hs⟩
 dsimp only at hj hO ⊢
 obtain ⟨ao,lo,co,rfl,hlo⟩:=hO.shape
 have hlo':lo=L0.length+j:=by simp [Is] at hlo;omega
 refine .seq (.aj (.z zm (.z (da af) (.z (zfa cM) (.y hs (zld ae) (.z cu (.zn fV (.bn rfl (fun hc25=>?_) (fun hc25=>?_)))))))))
 ·refine .skip (nT (.block (.region (.z zm (.o (.buildSlice (cells:=[_]) hs dc rfl rfl fun b27 w hs=>?_))))))
  refine .o (.append (ys:=Is [0]) hs cV rfl rfl hO (.own .here rfl rfl) (js _) (fun l' h=>by simp [Is] at h;omega) ?_);intro v28 en28 w hO2 hs
  rw [show Is (L0++List.replicate j 0)++Is [0]=Is (L0++List.replicate (j+1) 0) by rw [←FQ];simp [Is]] at hO2
  refine .zn zg (nB (nT ?_))
  exact ⟨(j+1,v28),a6,⟨by dsimp only;omega,_,hO2,hs.sb⟩,by dsimp only;omega⟩
 ·refine .exit (xT (xT (xB (nT (.aj (.y hs (zls [_,_] bM aV) (.z zm (.z zm (.z (zbd [_,_,_,_] gK) (.z zm (.o (.aU (vs:=[_,_,_,_]) hs rfl rfl ft fun w hs=>?_))))))))))))
  refine .zn zg (.ret ?_)
  have hjn:L0.length+j=s.sys.n:=by omega
  obtain ⟨H3,hle3,hR,hs⟩:=cN.dM hO (by simp;omega) hs dz
  exact Fin.jt [] [] hs fun w hs=>⟨_,results2 Tryz.results177 (dK (vs:=[_,_,_,_]) hs rfl Af ft) rfl,H3,_,_,_,d,b,hle02.trans hle3,rfl,hL.mono (hle2.trans hle3),hR,by simp;omega,by
   rcases hcase with ⟨g1,g2,rfl,g3⟩|⟨g1,g2,_,_⟩
   ·refine .inl ⟨g1,g2,?_,g3⟩
    rw [gz,hn] at hjn
    unfold Srv.w;rw [show j=s.cI.length by omega]
   ·exact .inr ⟨g1,g2⟩,hs.out⟩
inductive yV(v:Srv)(q:Wht):Int→Prop
 |bad {e:Int} (h:yP v e) (he:e≠0):yV v q e
 |what (h:fD v) (h1:¬ib v.sp q):yV v q 33
 |fls (h:fD v) (h1:ib v.sp q) (h2:¬v.sys.Sound):yV v q 35
 |ok (h:fD v) (h1:ib v.sp q) (h2:v.sys.Sound):yV v q 0
theorem yV.zero{v:Srv}{q:Wht}(h:yV v q 0):fD v∧ib v.sp q∧v.sys.Sound:=by
 generalize hz:(0:Int)=z at h
 cases h with
 |bad h he=>exact (he hz.symm).elim
 |what=>omega
 |fls=>omega
 |ok h h1 h2=>exact ⟨h,h1,h2⟩
theorem yV.qty{v:Srv}{q:Wht}{e:Int}(h:yV v q e)(he:e≠0):Ee v q 0 0 e:=by
 cases h with
 |bad h he=>exact .bad h he
 |what h h1=>exact .what h h1
 |fls h h1 h2=>exact .fls h h1 h2
 |ok=>exact (he rfl).elim
set_option maxHeartbeats 1000000 in
theorem rp{s:Srv}{q:Wht}{vst vwa vr vc:Value}(hs:St H w σ)(h1:RI H vst s.sp.st)(h2:RI H vwa s.sp.wa)(h3:RRd H vr s.rs)(h4:RCm H vc s.cs):
  Cl Tryz.prog 125 [.agg #[I s.sp.id,I s.sp.src,vst,vwa,I s.sp.al,I s.sp.up,vr,vc],.agg #[I q.kind,I q.st,I q.wa]] w fun u w'=>∃H1 m ul vw d e,HLe H H1∧u= .tuple #[.agg #[I m,ul,vw,I d],I e]∧(∃a l c,ul= .slice a l c)∧(∃a l c,vw= .slice a l c)∧yV s q e∧(e=0→m=s.sys.many∧RL H1 ul s.cO∧RI H1 vw (s.w q)∧d=pa q)∧St H1 w' σ:=by
 refine Cl.o Tryz.func125 Tryz.ntmps125 ag2 ?_
 refine .aj (.bx hs fun b2 w hs=>?_)
 refine .bx hs fun b3 w hs=>?_
 refine .o (.alloc hs y7 rfl fun b4 w hs=>?_)
 refine .zn zg (.seq (.aj (.y hs (zls [_,_,_,_,_,_,_,_] aQ aC) (.o (.call Jw rfl (gu (s:=s) hs h1 h2 h3 h4) ?_)))));rintro _ w ⟨H1,e,hle1,rfl,hC,hs⟩
 refine .zn zg (.aj (.z zm (.zn hZ (.dZ rfl (fun hc12=>?_) (fun hc12=>?_)))))
 ·refine .aj (.z (zbd [_,_,_,_] gK) (.z zm (.o (.aU (vs:=[_,_,_,_]) hs rfl rfl ft fun w hs=>?_))))
  refine .zn zg (.ret (rT (?_)))
  exact Fin.jt [] [] hs fun w hs=>⟨_,results2 Tryz.results125 (dK (vs:=[_,_,_,_]) hs rfl Af ft) rfl,H1,_,_,_,_,e,hle1,rfl,⟨_,_,_,rfl⟩,⟨_,_,_,rfl⟩,.bad hC hc12,fun h=>(hc12 h).elim,hs.out⟩
 ·refine .skip (nT (.aj (.y hs (zls [_,_,_,_,_,_,_,_] aQ aC) (.y hs (zls [_,_,_] ny gW) ?_))))
  have hok:fD s:=hC.dT.1 (by simpa using hc12)
  refine .o (.call Tryz.call177 rfl (ue (s:=s) (q:=q) hs (h1.mono hle1) (h2.mono hle1) (h3.mono hle1) (h4.mono hle1) hok) ?_);rintro _ w ⟨H2,ul,vw,L,d,b,hle2,rfl,hL,hR,hLl,hcase,hs⟩
  have hle02:=hle1.trans hle2
  obtain ⟨al,cl,rfl⟩:=RL.shape hL
  obtain ⟨aw,cw,rfl⟩:=RI.shape hR
  refine .z zm (.z zex (.z zex (.o (.alloc hs y7 rfl fun b7 w hs=>?_))))
  refine .o (.aU (vs:=[_,_,_,_]) hs rfl rfl ft fun w hs=>?_)
  refine .zn zg (.seq (.block (.aj (.z zm (.z fI (.zn zg (.cond rfl (fun hc21=>?_) (fun hc21=>?_))))))))
  ·refine .aj (.z (zbd [_,_,_,_] gK) (.o (.aU (vs:=[_,_,_,_]) hs rfl rfl ft fun w hs=>?_)))
   refine .zn zg (.ret (rB (rT (?_))))
   have hq:¬ib s.sp q:=by
    rcases hcase with ⟨g,_⟩|⟨_,g⟩
    ·subst g;cases hc21
    ·exact g
   exact Fin.jt [] [] hs fun w hs=>⟨_,results2 Tryz.results125 (dK (vs:=[_,_,_,_]) hs rfl Af ft) rfl,H2,_,_,_,_,_,hle02,rfl,⟨_,_,_,rfl⟩,⟨_,_,_,rfl⟩,.what hok hq,fun h=>by omega,hs.out⟩
  ·refine .aj (.y hs (zls [_,_,_,_,_,_,_,_] aQ aC) ?_)
   obtain ⟨rfl,hq,rfl,rfl⟩:b=true∧ib s.sp q∧L=s.w q∧d=pa q:=hcase.resolve_right fun h=>by rw [h.1] at hc21;cases hc21
   refine .o (.call Tryz.call178 rfl (qz (s:=s) hs (h1.mono hle02) (h2.mono hle02) (h3.mono hle02) (h4.mono hle02) hok) ?_);rintro _ w ⟨H3,b27,hle3,rfl,hb27,hs⟩
   refine .z fI (.zn zg (.cond rfl (fun hc25=>?_) (fun hc25=>?_)))
   ·refine .aj (.z (zbd [_,_,_,_] gK) (.o (.aU (vs:=[_,_,_,_]) hs rfl rfl ft fun w hs=>?_)))
    refine .zn zg (.ret (rB (rT (?_))))
    exact Fin.jt [] [] hs fun w hs=>⟨_,results2 Tryz.results125 (dK (vs:=[_,_,_,_]) hs rfl Af ft) rfl,H3,_,_,_,_,_,hle02.trans hle3,rfl,⟨_,_,_,rfl⟩,⟨_,_,_,rfl⟩,.fls hok hq (fun h=>by rw [hb27.2 h] at hc25;cases hc25),fun h=>by omega,hs.out⟩
   ·refine .skip (nB (nT (.aj (.y hs (zls [_,_,_,_] Af ft) (.o (.aU (vs:=[_,_,_,_]) hs rfl rfl ft fun w hs=>?_))))))
    refine .zn zg (.ret ?_)
    exact Fin.jt [] [] hs fun w hs=>⟨_,results2 Tryz.results125 (dK (vs:=[_,_,_,_]) hs rfl Af ft) rfl,H3,_,_,_,_,_,hle02.trans hle3,rfl,⟨_,_,_,rfl⟩,⟨_,_,_,rfl⟩,.ok hok hq (hb27.1 (by simpa using hc25)),fun _=>⟨rfl,hL.mono hle3,hR.mono hle3,rfl⟩,hs.out⟩
set_option maxHeartbeats 1000000 in
theorem rA{s:Srv}{q:Wht}{vst vwa vr vc:Value}(hs:St H w σ)(h1:RI H vst s.sp.st)(h2:RI H vwa s.sp.wa)(h3:RRd H vr s.rs)(h4:RCm H vc s.cs):
  Cl Tryz.prog 174 [.agg #[I s.sp.id,I s.sp.src,vst,vwa,I s.sp.al,I s.sp.up,vr,vc],.agg #[I q.kind,I q.st,I q.wa]] w fun u w'=>∃H1 lo hi e,HLe H H1∧u= .tuple #[.agg #[I lo,I hi],I e]∧Ee s q lo hi e∧St H1 w' σ:=by
 refine Cl.o Tryz.func174 Tryz.ntmps174 ag2 ?_
 refine .aj (.bx hs fun b2 w hs=>?_)
 refine .bx hs fun b3 w hs=>?_
 refine .o (.alloc hs cf rfl fun b4 w hs=>?_)
 refine .zn zg (.aj (.y hs (zls [_,_,_,_,_,_,_,_] aQ aC) (.y hs (zls [_,_,_] ny gW) (.o (.call Tryz.call125 rfl (rp (s:=s) (q:=q) hs h1 h2 h3 h4) ?_)))));rintro _ w ⟨H1,m,ul,vw,d,e,hle1,rfl,⟨al,ll,cl,rfl⟩,⟨aw,lw,cw,rfl⟩,hA,hA0,hs⟩
 refine .z zm (.z zex (.z zex (.o (.alloc hs y7 rfl fun b6 w hs=>?_))))
 refine .o (.aU (vs:=[_,_,_,_]) hs rfl rfl ft fun w hs=>?_)
 refine .zn zg (.seq (.aj (.z zm (.zn hZ (.dZ rfl (fun hc17=>?_) (fun hc17=>?_))))))
 ·refine .aj (.z (zbd [_,_] cB) (.z zm (.o (.aU (vs:=[_,_]) hs rfl rfl aq fun w hs=>?_))))
  refine .zn zg (.ret (rT (?_)))
  exact Fin.jt [] [] hs fun w hs=>⟨_,results2 Tryz.results174 (dK (vs:=[_,_]) hs rfl bh aq) rfl,H1,_,_,_,hle1,rfl,hA.qty hc17,hs.out⟩
 ·refine .skip (nT (.aj (.z (zfa oW) (.y hs (zls [_,_] bM aV) (.z (zfa oV) (.y hs (zld an) ?_))))))
  obtain rfl:e=0:=by simpa using hc17
  obtain ⟨rfl,hL,hR,rfl⟩:=hA0 rfl
  obtain ⟨hok,hq,hsd⟩:=hA.zero
  refine .o (.call Tryz.call219 rfl (um (s:=s.sys) hs ⟨_,rfl,hL⟩ hR) ?_);rintro _ w ⟨H2,lo,hi,f,hle2,rfl,hRg,hs⟩
  obtain rfl:=yI (hok.ask hq) hsd (fun b=>s.both) hRg
  have hbd:=hRg.bd
  have hdp:=yF q
  refine .z zm (.z zex (.z zex (.z zex (.z zg (.z zg (.zn zg (.seq (.aj (.z zm (.zn hZ (.dZ rfl (fun hc30=>?_) (fun hc30=>?_))))))))))))
  ·refine .aj (.z (zbd [_,_] cB) (.z zm (.o (.aU (vs:=[_,_]) hs rfl rfl aq fun w hs=>?_))))
   refine .zn zg (.ret (rT (?_)))
   exact (hc30 rfl).elim
  ·refine .skip (nT (.seq (.draw mix rfl hs fun w hs=>?_)))
   refine .zw 0 rfl zm ?_;refine .z 1 rfl (zfa kC) ?_;refine .y 2 rfl hs ae ?_;refine .z 4 rfl zm ?_;refine .z 5 rfl (zfa kC) ?_;refine .y 6 rfl hs ae ?_
   refine .E 3 hs ?_
   refine .call Tryz.call132 rfl (kd hs ak ak) ?_;rintro _ w ⟨rfl,hs⟩
   refine .go (.E 7 hs ?_)
   refine .call Tryz.call132 rfl (kd hs ak ak) ?_;rintro _ w ⟨rfl,hs⟩
   refine .go (.zw 8 rfl (zbd [_,_] cB) (.E 9 hs ?_))
   refine .aU (vs:=[_,_]) hs rfl rfl aq ?_;intro w hs
   refine .go (.zw 10 rfl zg ?_);refine .D hs ?_
   refine .ret ?_
   exact Fin.jt [] [] hs fun w hs=>⟨_,results2 Tryz.results174 (dK (vs:=[_,_]) hs rfl bh aq) rfl,H2,_,_,_,hle1.trans hle2,rfl,.ok hok hq hsd hRg,hs.out⟩
inductive BV(v:Srv)(out:List Int):Int→Prop
 |bad {e:Int} (h:yP v e) (he:e≠0) (h1:out=[]):BV v out e
 |ok {e:Int} (h:fD v) (h1:A9 v.sys out e):BV v out e
theorem rz{s:Srv}{vst vwa vr vc:Value}(hs:St H w σ)(h1:RI H vst s.sp.st)(h2:RI H vwa s.sp.wa)(h3:RRd H vr s.rs)(h4:RCm H vc s.cs):
  Cl Tryz.prog 175 [.agg #[I s.sp.id,I s.sp.src,vst,vwa,I s.sp.al,I s.sp.up,vr,vc]] w fun u w'=>∃H1 vx out e,HLe H H1∧u= .tuple #[vx,I e]∧RI H1 vx out∧BV s out e∧St H1 w' σ:=by
 refine Cl.o Tryz.func175 Tryz.ntmps175 ag1 ?_
 refine .aj (.bx hs fun b1 w hs=>?_)
 refine .z zg (.zn zg (.seq (.aj (.y hs (zls [_,_,_,_,_,_,_,_] aQ aC) (.o (.call Jw rfl (gu (s:=s) hs h1 h2 h3 h4) ?_))))));rintro _ w ⟨H1,e,hle1,rfl,hC,hs⟩
 refine .zn zg (.aj (.z zm (.zn hZ (.dZ rfl (fun hc10=>?_) (fun hc10=>?_)))))
 ·refine .aj (.z zm (.z zg (.zn zg (.ret (rT (Fin.ij Tryz.results175 rfl rfl ?_))))))
  exact ⟨H1,_,[],_,hle1,rfl,RS.nil H1 1 none 0,.bad hC hc10 rfl,hs.out⟩
 ·refine .skip (nT (.aj (.y hs (zls [_,_,_,_,_,_,_,_] aQ aC) ?_)))
  have hok:fD s:=hC.dT.1 (by simpa using hc10)
  refine .o (.call Jv rfl (fN (s:=s) hs (h1.mono hle1) (h2.mono hle1) (h3.mono hle1) (h4.mono hle1) hok.early) ?_);rintro v14 w ⟨H2,hle2,hS,hs⟩
  refine .o (.call Tryz.call220 rfl (qJ (s:=s.sys) hs hS) ?_);rintro _ w ⟨H3,vx,out,f,hle3,rfl,hR,hCf,hs⟩
  refine .z zm (.z zex (.z zex (.z zg (.zn zg (.aj (.z zm (.z zm (.z zg (.zn zg (.ret (Fin.ij Tryz.results175 rfl rfl ?_)))))))))))
  exact ⟨H3,_,out,_,hle1.trans (hle2.trans hle3),rfl,hR,.ok hok hCf,hs.out⟩
theorem oB{v:Value}{rs:List (List Int)}{g:Nat}{cap:List Value}(q:List Int→Prop)(hs:St H w σ)(hR:RT H v rs)(hl:rs.length≤9223372036854775807)(hc:∀args w,(callFunc g args).run Tryz.prog w= .ok (.enter g args) w)
  (hp:∀H' w σ r u,HLe H H'→RI H' u r→St H' w σ→Cl Tryz.prog g ([u]++cap) w fun z w'=>∃H1 b,HLe H' H1∧z= .bool b∧(b=true↔q r)∧St H1 w' σ):
  Cl Tryz.prog 227 [v,.func (.func g) #[] cap.toArray] w fun u w'=>∃H1 i,HLe H H1∧u=I i∧(0≤i↔∃x∈rs,q x)∧St H1 w' σ:=by
 obtain ⟨a,c,rfl⟩:=hR.shape
 refine Cl.o Tryz.func227 Tryz.ntmps227 ag2 ?_
 refine .aj (.zn zg (.seq (.aj (.z zm (.z (da az) (.zn zm (.for (N:=rs.length) (J:=fun k fr w=>fr=[(1,.func (.func g) #[] cap.toArray),(0,.slice a rs.length c)]∧∃H1,HLe H H1∧(∀j<k,∀y,rs[j]? =some y→¬q y)∧St H1 w σ) ak ?_ ?_ ?_)))))))
 ·exact .mk ⟨rfl,H,HLe.refl H,fun j hj=>by omega,hs⟩
 ·rintro k fr w hk ⟨rfl,H1,hle1,hno,hs⟩
  have hx:=tF (rs:=rs) hk
  refine .block (.aj (.z zm (.zn zg (.aj (.z zm (.z zm (.z zm (.ixT hs (hR.mono hle1) rfl rfl az aB (show k<_ by omega) cz ?_))))))));intro b14 o14 a14 c14 hc14 hR14
  refine .q hs (aP rfl an hc14) (.o (.pQ (first:=[]) (cap:=cap) rfl rfl hc (hp _ _ _ (gr rs k) _ hle1 hR14 hs) ?_));rintro _ w ⟨H2,b16,hle2,rfl,hb16,hs⟩
  refine .nil (.cond rfl (fun hc16=>?_) (fun hc16=>?_))
  ·refine .aj (.z zm (.zn zg (.ret (rB (rT (rB (rT (Fin.bq Tryz.results227 rfl ?_))))))))
   exact ⟨H2,_,hle1.trans hle2,rfl,⟨fun _=>⟨_,List.mem_of_getElem? hx,hb16.1 hc16⟩,fun _=>by omega⟩,hs⟩
  ·refine .skip (nB (nT ?_))
   exact .mk ⟨rfl,H2,hle1.trans hle2,fi hno hx (fun h=>by rw [hb16.2 h] at hc16;cases hc16),hs⟩
 ·rintro fr w ⟨rfl,H1,hle1,hno,hs⟩
  refine nT (.aj (.zn zg (.ret (Fin.bq Tryz.results227 rfl ?_))))
  exact ⟨H1,_,hle1,rfl,⟨fun h=>by omega,fun ⟨x,h1,h2⟩=>by
   obtain ⟨j,hj⟩:=List.getElem?_of_mem h1
   exact (hno j (List.getElem?_eq_some_iff.1 hj).1 x hj h2).elim⟩,hs⟩
theorem mO{v:Value}{rs:List (List Int)}{g:Nat}{cap:List Value}(q:List Int→Prop)(hs:St H w σ)(hR:RT H v rs)(hl:rs.length≤9223372036854775807)(hc:∀args w,(callFunc g args).run Tryz.prog w= .ok (.enter g args) w)
  (hp:∀H' w σ r u,HLe H H'→RI H' u r→St H' w σ→Cl Tryz.prog g ([u]++cap) w fun z w'=>∃H1 b,HLe H' H1∧z= .bool b∧(b=true↔q r)∧St H1 w' σ):
  Cl Tryz.prog 183 [v,.func (.func g) #[] cap.toArray] w fun u w'=>∃H1 b,HLe H H1∧u= .bool b∧(b=true↔∃x∈rs,q x)∧St H1 w' σ:=by
 refine Cl.o Tryz.func183 Tryz.ntmps183 ag2 ?_
 refine .aj (.zn zg (.aj (.z zm (.z zm (.o (.call Tryz.call227 rfl (oB q hs hR hl hc hp) ?_))))));rintro _ w ⟨H1,i,hle1,rfl,hi,hs⟩
 refine .z uF (.zn zg (.ret (Fin.bq Tryz.results183 rfl ?_)))
 exact ⟨H1,_,hle1,rfl,by simp only [decide_eq_true_eq];exact hi,hs⟩
theorem we{n:Int}(hs:St H w σ):
  Cl Tryz.prog 186 [I n] w fun u w'=>u= .bool (!decide (0≤n∧n≤20000))∧St H w' σ:=by
 refine Cl.o Tryz.func186 Tryz.ntmps186 ag1 ?_
 refine .aj (.zn zg (.aj (.z zm (.o (.call dP rfl (bK hs) ?_)))));rintro _ w ⟨rfl,hs⟩
 refine .z fI (.zn zg (.ret (Fin.bq Tryz.results186 rfl ?_)))
 exact ⟨rfl,hs⟩
theorem yv{s:Spc}{v vst vwa:Value}{r:List Int}{b:Nat}(hs:St H w σ)(hb:Row H b [I s.id,I s.src,vst,vwa,I s.al,I s.up])(h2:RI H vwa s.wa)(hr:RI H v r):
  Cl Tryz.prog 184 [v,Pt b] w fun u w'=>∃H1 bb,HLe H H1∧u= .bool bb∧(bb=true↔¬(r.length=s.wa.length∧∀x∈r,0≤x∧x≤20000))∧St H1 w' σ:=by
 obtain ⟨a,c,rfl⟩:=RI.shape hr
 obtain ⟨awa,cwa,rfl⟩:=RI.shape h2
 have hb3:=hb.at 3
 refine Cl.o Tryz.func184 Tryz.ntmps184 ag2 ?_
 refine .aj (.zn zg (.aj (.z zm (.z (da af) (.z (zfa a8) (.y hs (zld an) (.z (da af) (.z hZ (.z zm (.CE (t':=10) rfl (fun hb10=>?_) (fun hb10=>?_)))))))))))
 ·refine .Fs 2 6 false (.z zpT (.zn zg (.ret (Fin.bq Tryz.results184 rfl ?_))))
  exact ⟨H,true,HLe.refl H,rfl,⟨fun _ h=>by have:=h.1;simp_all,fun _=>rfl⟩,hs⟩
 ·refine .T (.z zm (.T (.o (.call Tryz.call185 rfl (mz (g:=186) (cap:=[]) (fun n=>¬(0≤n∧n≤20000)) hs hr Tryz.call186 (fun H' w σ n _ _ hs=>(we hs).mono fun u w' ⟨g1,g2⟩=>⟨H',_,HLe.refl _,g1,by simp;omega,g2⟩)) ?_))));rintro _ w ⟨H1,b12,hle1,rfl,hb12,hs⟩
  refine .z zpF (.zn zg (.ret (Fin.bq Tryz.results184 rfl ?_)))
  have hlen:r.length=s.wa.length:=by simp_all;omega
  exact ⟨H1,_,hle1,rfl,by
   rw [hb12]
   constructor
   ·rintro ⟨x,h1,h2⟩ h;exact h2 (h.2 x h1)
   ·intro h
    refine Classical.byContradiction fun hn=>h ⟨hlen,fun x hx=>Classical.byContradiction fun hx'=>hn ⟨x,hx,hx'⟩⟩,hs⟩
theorem Fv{s:Spc}{rows:List (List Int)}:jM s rows↔rows.length=s.st.length∧∀r∈rows,r.length=s.wa.length∧∀x∈r,0≤x∧x≤20000:=by
 constructor
 ·rintro ⟨h1,h2,h3⟩
  refine ⟨h1,fun r hr=>?_⟩
  obtain ⟨i,hi⟩:=List.getElem?_of_mem hr
  have hil:=(List.getElem?_eq_some_iff.1 hi).1
  have hg:=tF hil
  rw [hi] at hg
  obtain rfl:=Option.some.inj hg
  have hl:=h2 i ak
  refine ⟨hl,fun x hx=>?_⟩
  obtain ⟨k,hk⟩:=List.getElem?_of_mem hx
  have hkl:=(List.getElem?_eq_some_iff.1 hk).1
  have hgk:=bJ hkl
  rw [hk] at hgk
  obtain rfl:=Option.some.inj hgk
  exact h3 i ak k ak
 ·rintro ⟨h1,h2⟩
  have hm:∀i<s.st.length,gr rows i∈rows:=fun i hi=>List.mem_of_getElem? (tF ak)
  refine ⟨h1,fun i hi=>(h2 _ (hm i hi)).1,fun i hi k hk=>?_⟩
  have hl:=(h2 _ (hm i hi)).1
  exact (h2 _ (hm i hi)).2 _ (List.mem_of_getElem? (bJ ak))
theorem lO{s:Spc}{vst vwa vh:Value}{rows:List (List Int)}(hs:St H w σ)(h1:RI H vst s.st)(h2:RI H vwa s.wa)(hr:RT H vh rows):
  Cl Tryz.prog 129 [.agg #[I s.id,I s.src,vst,vwa,I s.al,I s.up],.agg #[vh]] w fun u w'=>∃H1 b,HLe H H1∧u= .bool b∧(b=true↔jM s rows)∧St H1 w' σ:=by
 obtain ⟨ast,cst,rfl⟩:=RI.shape h1
 obtain ⟨awa,cwa,rfl⟩:=RI.shape h2
 obtain ⟨ah,ch,rfl⟩:=hr.shape
 have hrl:=(hr.len).2.2
 refine Cl.o Tryz.func129 Tryz.ntmps129 ag2 ?_
 refine .aj (.bx hs fun b2 w hs=>?_)
 refine .bx hs fun b3 w hs=>?_
 refine .zn zg (.aj (.z (zfa eo) (.y hs (zld fY) (.z (da az) (.z (zfa bI) (.y hs (zld an) (.z (da af) (.z fF (.z zm (.ie (t':=12) rfl (fun hb12=>?_) (fun hb12=>?_)))))))))))
 ·refine .T (.z (zfa eo) (.T (.y hs (zld fY) (.T (.q hs (dD (f:=[]) (c:=[_]) rfl rfl) (.T ?_))))))
  obtain ⟨H0,hle0,hb2,hs⟩:=hs.cQ (b:=b2) dz
  refine .o (.call Tryz.call183 rfl (mO (g:=184) (cap:=[Pt b2]) (fun r=>¬(r.length=s.wa.length∧∀x∈r,0≤x∧x≤20000)) hs (hr.mono hle0) hrl Tryz.call184 (fun H' w σ r u hle hu hs=>yv (s:=s) hs (hb2.mono hle) (h2.mono (hle0.trans hle)) hu)) ?_);rintro _ w ⟨H1,b16,hle1,rfl,hb16,hs⟩
  refine .T (.z fI (.z zpT (.zn zg (.ret (Fin.bq Tryz.results129 rfl ?_)))))
  exact ⟨H1,_,hle0.trans hle1,rfl,by
   rw [Fv]
   have hlen:rows.length=s.st.length:=by omega
   cases hbb:b16 with
   |true=>
    obtain ⟨x,hx,hn⟩:=hb16.1 hbb
    exact ⟨fun h=>(by cases h),fun h=>(hn (h.2 x hx)).elim⟩
   |false=>exact ⟨fun _=>⟨hlen,fun r hr=>Classical.byContradiction fun hn=>by rw [hb16.2 ⟨r,hr,hn⟩] at hbb;cases hbb⟩,fun _=>rfl⟩,hs.out⟩
 ·refine .Fs 5 7 true (.z zpF (.zn zg (.ret (Fin.bq Tryz.results129 rfl ?_))))
  exact ⟨H,_,HLe.refl H,rfl,⟨fun h=>(by cases h),fun h=>by have:=h.len;omega⟩,hs.out⟩
set_option maxHeartbeats 1000000 in
theorem ru{s:Spc}{q:Wht}{vst vwa vh:Value}{rows:List (List Int)}(hs:St H w σ)(h1:RI H vst s.st)(h2:RI H vwa s.wa)(hr:RT H vh rows):
  Cl Tryz.prog 64 [.agg #[I s.id,I s.src,vst,vwa,I s.al,I s.up],.agg #[vh],.agg #[I q.kind,I q.st,I q.wa]] w fun u w'=>∃H1 n e,HLe H H1∧u= .tuple #[I n,I e]∧tp s rows q n e∧St H1 w' σ:=by
 obtain ⟨ah,ch,rfl⟩:=hr.shape
 refine Cl.o Tryz.func64 Tryz.ntmps64 ag3 ?_
 refine .aj (.bx hs fun b3 w hs=>?_)
 refine .bx hs fun b4 w hs=>?_
 refine .bx hs fun b5 w hs=>?_
 refine .z zg (.zn zg (.seq (.aj (.y hs (zls [_,_,_,_,_,_] aK aA) (.o (.call Tryz.call111 rfl (jS (s:=s) hs h1 h2) ?_))))));rintro _ w ⟨H1,e,hle1,rfl,he,hs⟩
 refine .zn zg (.aj (.z zm (.zn hZ (.dZ rfl (fun hc17=>?_) (fun hc17=>?_)))))
 ·refine .aj (.z zm (.z zg (.zn zg (.ret (rT (?_))))))
  have hq:¬eY s∧e=30:=he.resolve_left fun h=>hc17 h.2
  exact Fin.jt [] [] hs fun w hs=>⟨_,results2 Tryz.results64 rfl rfl,H1,_,_,hle1,rfl,by rw [hq.2];exact .space hq.1,hs.out⟩
 ·refine .skip (nT (.seq (.aj (.y hs (zls [_,_,_,_,_,_] aK aA) (.y hs (zls [_] eU dq) ?_)))))
  have hok:eY s:=(he.resolve_right fun h=>by omega).1
  have hsm:=ez hok
  refine .o (.call Tryz.call129 rfl (lO (s:=s) hs (h1.mono hle1) (h2.mono hle1) (hr.mono hle1)) ?_);rintro _ w ⟨H2,b21,hle2,rfl,hb21,hs⟩
  have hle02:=hle1.trans hle2
  refine .zn fI (.cond rfl (fun hc22=>?_) (fun hc22=>?_))
  ·refine .aj (.z zg (.zn zg (.ret (rT (?_)))))
   exact Fin.jt [] [] hs fun w hs=>⟨_,results2 Tryz.results64 rfl rfl,H2,_,_,hle02,rfl,.hull hok (fun h=>by rw [hb21.2 h] at hc22;cases hc22),hs.out⟩
  ·refine .skip (nT (.aj (.y hs (zls [_,_,_,_,_,_] aK aA) (.y hs (zls [_,_,_] ny gW) ?_))))
   have hh:jM s rows:=hb21.1 (by simpa using hc22)
   refine .o (.call Tryz.call130 rfl (ld (s:=s) (q:=q) hs (h1.mono hle02) (h2.mono hle02) hok) ?_);rintro _ w ⟨H3,vl,L,d,b,en,hle3,rfl,hO,hcase,hs⟩
   have hle03:=hle02.trans hle3
   obtain ⟨al,cl,rfl⟩:=hO.zi
   refine .z zm (.z zex (.z zex (.z zex (.o (.alloc hs ep rfl fun b9 w hs=>?_)))))
   refine .o (.store hs rfl rfl aB fun w hs=>?_)
   refine .z zg (.zn zg (.seq (.aj (.z zm (.zn fI (.cond rfl (fun hc31=>?_) (fun hc31=>?_)))))))
   ·refine .aj (.z zg (.zn zg (.ret (rT (?_)))))
    have hq:¬ib s q:=by
     rcases hcase with ⟨g,_⟩|⟨_,g,_⟩
     ·subst g;cases hc31
     ·exact g
    exact Fin.jt [] [] hs fun w hs=>⟨_,results2 Tryz.results64 rfl rfl,H3,_,_,hle03,rfl,.what hok hh hq,hs.out⟩
   ·refine .skip (nT (.aj (.o (.alloc hs cq rfl fun b12 w hs=>?_))))
    refine .o (.store hs rfl rfl ai fun w hs=>?_)
    refine .nil (.seq (.aj (.y hs (zls [_,_,_,_,_,_] aK aA) ?_)))
    obtain ⟨rfl,hq,rfl,rfl⟩:b=true∧ib s q∧L=lA s q∧d=pa q:=hcase.resolve_right fun h=>by rw [h.1] at hc31;cases hc31
    have hwl:=gz s q
    obtain ⟨H4,hle4,hW,hs⟩:=cN.dM hO ak hs dz
    have hle04:=hle03.trans hle4
    refine .o (.call CB rfl (fZ (s:=s) hs (h1.mono hle04) (h2.mono hle04) ⟨ak,ak⟩) ?_);rintro _ w ⟨H5,ba,hle5,rfl,hit,hs⟩
    have hle05:=hle04.trans hle5
    replace hW:=hW.mono hle5
    have hr5:=hr.mono hle05
    refine .nil (.block ?_)
    refine .rangeFunc (gf:=188) (cap:=[Pt ba]) (xs:=xF s) (σb:=[.blk b12 [I (iR s q rows 0)],.blk b9 [.slice al (lA s q).length cl],.blk b4 [.slice ah rows.length ch]]) (σf:=σ) (hs.sb) trivial rfl hit CA (fun x hx=>by
      simp only [xF,List.mem_map] at hx
      obtain ⟨j,_,rfl⟩:=hx;rfl) rfl
     (I:=fun p H' σb=>σb=[.blk b12 [I (iR s q rows p)],.blk b9 [.slice al (lA s q).length cl],.blk b4 [.slice ah rows.length ch]]) (Ix:=fun _ _ _=>False)
     (fun j _ _ σ g1 g2=>g2) (fun _ _ _ _ _ h=>h) rfl ?_ ?_ (fun D c H' σb w _ h _=>h.elim)
    ·rintro ly p hp H6 σb2 σf2 w hle6 rfl hs ⟨rr,hrr⟩
     have hpm:p<s.many:=by rw [eJ] at hp;exact hp
     have hin:p/s.wa.length<s.st.length:=Nat.div_lt_of_lt_mul (by rw [Nat.mul_comm];exact hpm)
     have hkm:=Nat.mod_lt p hsm.2.2.1
     have hsucc:iR s q rows (p+1)=iR s q rows p+gi (lA s q) (p+1)*gt rows (p/s.wa.length) (p%s.wa.length):=rfl
     have hb0:=jL hok hq hh p ak
     have hb1:=jL hok hq hh (p+1) ak
     have hwz:=mM hok hq
     have hwz2:=kj (lA s q) (v:=p+1) (n:=s.many+1) ak
     have hnum:=hh.num _ hin _ hkm
     have hrow:=hh.row _ hin
     have hrlen:=hh.len
     have hprd:=jK (a:=gi (lA s q) (p+1)) (b:=gt rows (p/s.wa.length) (p%s.wa.length)) (A:=3456000000000) (B:=20000) ak ak
     have hgt:gt rows (p/s.wa.length) (p%s.wa.length)=gi (gr rows (p/s.wa.length)) (p%s.wa.length):=rfl
     rw [nt hp]
     generalize p/s.wa.length=i at*
     generalize p%s.wa.length=k at*
     rw [hgt] at hsucc hprd hnum
     refine .region (.o (.alloc hs lG rfl fun b13 w hs=>?_))
     refine .o (.aU (vs:=[_,_,_]) hs rfl rfl pZ fun w hs=>?_)
     refine .nil (nT (⟨H6,[.blk b13 [I (i:Int),I (k:Int),I ((p+1:Nat):Int)],.blk b12 [I (iR s q rows p)],.blk b9 [.slice al (lA s q).length cl],.blk b4 [.slice ah rows.length ch]],HLe.refl _,hs,?_⟩));rintro w σf4 - hs
     refine .block (.draw mix rfl hs fun w hs=>?_)
     refine .y 0 rfl hs ae ?_;refine .y 1 rfl hs an ?_;refine .z 2 rfl (zfa eX) ?_;refine .y 3 rfl hs ae ?_
     refine .ixX (enc:=fun x=>[I x]) (i:=4) hs rfl aH .none (hW.mono hle6) rfl rfl af ai (bJ (l:=(lA s q)) (i:=(p+1)) ak) cz ?_;intro b39 o39 hc39;replace hc39:=bL.one hc39
     refine .r (i:=5) hs rfl aH .none (aP rfl ae hc39) ?_
     refine .zw 6 rfl (zfa eo) ?_;refine .y 7 rfl hs fY ?_;refine .z 8 rfl (zfa dE) ?_;refine .y 9 rfl hs ae ?_
     refine .ixT (i:=10) hs rfl aH .none (hr5.mono hle6) rfl rfl az aB (show i<_ by omega) cz ?_;intro b45 o45 a45 c45 hc45 hR45
     refine .r (i:=11) hs rfl aH .none (aP rfl an hc45) ?_
     refine .zw 12 rfl (zfa dn) ?_;refine .y 13 rfl hs ae ?_
     refine .ixX (enc:=fun x=>[I x]) (i:=14) hs rfl aH .none hR45 rfl rfl af ai (bJ (l:=(gr rows i)) (i:=k) ak) cz ?_;intro b49 o49 hc49;replace hc49:=bL.one hc49
     refine .r (i:=15) hs rfl aH .none (aP rfl ae hc49) ?_
     refine .zw 16 rfl jN ?_;refine .z 17 rfl cu ?_
     refine .E 18 hs ?_
     refine .store hs rfl rfl ai ?_;intro w hs
     refine .go (.D hs (nB ?_))
     exact ⟨H6,[.blk b12 [I (iR s q rows (p+1))],.blk b9 [.slice al (lA s q).length cl],.blk b4 [.slice ah rows.length ch]],HLe.refl _,by rw [hsucc];exact (hs.sb:St H6 w (.blk b12 _:: .blk b9 _:: .blk b4 _::σf4)),rfl⟩
    ·rintro D H6 σb2 w hle6 rfl hs
     rw [eJ] at hs
     replace hs:St H6 w (.obj D (.deferred (some [])):: .blk b12 [I (iR s q rows s.many)]:: .blk b9 [.slice al (lA s q).length cl]:: .blk b4 [.slice ah rows.length ch]::σ):=hs
     have hbd:=jL hok hq hh s.many ak
     have hdp:=yF q
     refine nB (nT (.aj (.y hs (zld ae) (.z zm (.o (.call Tryz.call132 rfl (kd hs ak ak) ?_))))));rintro _ w ⟨rfl,hs⟩
     refine .z zg (.zn zg (.ret ?_))
     exact Fin.jt [D] [] hs fun w hs=>⟨_,results2 Tryz.results64 rfl rfl,H6,_,_,hle05.trans hle6,rfl,.ok hok hh hq,hs.out⟩
structure WI(s:Spc)(L:List Int)(f:Nat→Nat→Int):Prop where
 len:L.length=s.many+1
 zero:gi L 0=0
 at_:∀i k,i<s.st.length→k<s.wa.length→gi L (s.u i k)=f i k
theorem WI.start(s:Spc):WI s (List.replicate (s.many+1) 0) fun _ _=>0:=
 ⟨bT,eN _ _ ak,fun i k hi hk=>by have:=uH hi hk;exact eN _ _ ak⟩
theorem WI.set{s:Spc}{L:List Int}{f:Nat→Nat→Int}(h:WI s L f){i k:Nat}(hi:i<s.st.length)(hk:k<s.wa.length)(x:Int):WI s (L.set (s.u i k) x) fun i' k'=>if i'=i∧k'=k then x else f i' k':=by
 have hb:=uH hi hk
 refine ⟨by rw [List.length_set];exact h.len,by rw [rM ak];exact h.zero,fun i' k' hi' hk'=>?_⟩
 have hb':=uH hi' hk'
 rw [iF (by rw [h.len];omega)]
 by_cases e:i'=i∧k'=k
 ·obtain ⟨rfl,rfl⟩:=e
  rw [if_pos rfl,if_pos ⟨rfl,rfl⟩]
 ·rw [if_neg e,if_neg,h.at_ i' k' hi' hk']
  intro e2
  obtain ⟨d1,d2⟩:=Gt (nw:=s.wa.length) (i:=i) hk
  obtain ⟨d3,d4⟩:=Gt (nw:=s.wa.length) (i:=i') hk'
  have e3:i'*s.wa.length+k'=i*s.wa.length+k:=by unfold Spc.u at e2;omega
  rw [e3] at d3 d4
  exact e ⟨d3.symm.trans d1,d4.symm.trans d2⟩
theorem WI.congr{s:Spc}{L:List Int}{f g:Nat→Nat→Int}(h:WI s L f)(e:∀i k,i<s.st.length→k<s.wa.length→f i k=g i k):WI s L g:=
 ⟨h.len,h.zero,fun i k hi hk=>(h.at_ i k hi hk).trans (e i k hi hk)⟩
theorem WI.fin{s:Spc}{q:Wht}{L:List Int}(h:WI s L (kK s q)):L=lA s q:=EB h.len h.zero h.at_
theorem sR{s:Spc}{q:Wht}{vst vwa:Value}(hs:St H w σ)(h1:RI H vst s.st)(h2:RI H vwa s.wa):
  Cl Tryz.prog 155 [.agg #[I s.id,I s.src,vst,vwa,I s.al,I s.up],.agg #[I q.kind,I q.st,I q.wa]] w fun v w'=>∃b:Bool,v= .bool b∧(b=true↔ib s q)∧St H w' σ:=by
 obtain ⟨ast,cst,rfl⟩:=RI.shape h1
 obtain ⟨awa,cwa,rfl⟩:=RI.shape h2
 have l1:=(RI.len h1).2.2
 have l2:=(RI.len h2).2.2
 have hi:=ow (s:=s) (q:=q)
 simp only [Spc.isW,Spc.isS] at hi
 refine Cl.o Tryz.func155 Tryz.ntmps155 ag2 ?_
 refine .aj (.bx hs fun b2 w hs=>?_)
 refine .bx hs fun b3 w hs=>?_
 refine .zn zg (.aj (.z (zfa dU) (.y hs (zld ae) (.z (zfa a8) (.y hs (zld an) (.z (da af) (.z fM (.o (.call eV rfl (dt hs) ?_)))))))));rintro _ w ⟨rfl,hs⟩
 refine .zn zg (.aj (.z (zfa fb) (.y hs (zld ae) (.z (zfa bI) (.y hs (zld an) (.z (da af) (.z fM (.o (.call eV rfl (dt hs) ?_)))))))));rintro _ w ⟨rfl,hs⟩
 refine .zn zg (.seq (.aj (.z (zfa np) (.y hs (zld ae) (.nil (.block (.aj (.z fF (.zn zg (.bn rfl (fun hc23=>?_) (fun hc23=>?_)))))))))))
 ·refine .aj (.z (zfa fb) (.y hs (zld ae) (.z fF (.z zm (.ie (t':=28) rfl (fun hb28=>?_) (fun hb28=>?_))))))
  ·refine .T (.z zm (.z zpT (.z zm (.bif (t':=31) rfl (fun hb31=>?_) (fun hb31=>?_)))))
   ·refine .T (.z (zfa dU) (.T (.y hs (zld ae) (.T (.z k7 (.z zpT (.zn zg (.ret (rB (rT (Fin.bq iA rfl ?_)))))))))))
    exact ⟨_,rfl,by rw [hi];simp_all<;>omega,hs.out⟩
   ·refine .Fs 3 6 true (.z zpF (.zn zg (.ret (rB (rT (Fin.bq iA rfl ?_))))))
    exact ⟨_,rfl,by rw [hi];simp_all<;>omega,hs.out⟩
  ·refine .Fs 1 3 true (.z zpF (.z zm (.Fs 3 6 true (.z zpF (.zn zg (.ret (rB (rT (Fin.bq iA rfl ?_)))))))))
   exact ⟨_,rfl,by rw [hi];simp_all<;>omega,hs.out⟩
 ·refine .aj (.z fF (.zn zg (.bn rfl (fun hc36=>?_) (fun hc36=>?_))))
  ·refine .aj (.z (zfa fb) (.y hs (zld ae) (.z fF (.z zm (.ie (t':=41) rfl (fun hb41=>?_) (fun hb41=>?_))))))
   ·refine .T (.z zm (.z zpT (.zn zg (.ret (rB (rT (Fin.bq iA rfl ?_)))))))
    exact ⟨_,rfl,by rw [hi];simp_all<;>omega,hs.out⟩
   ·refine .Fs 1 3 true (.z zpF (.zn zg (.ret (rB (rT (Fin.bq iA rfl ?_))))))
    exact ⟨_,rfl,by rw [hi];simp_all<;>omega,hs.out⟩
  ·refine .aj (.z fF (.zn zg (.bn rfl (fun hc44=>?_) (fun hc44=>?_))))
   ·refine .aj (.z zm (.z zm (.bif (t':=47) rfl (fun hb47=>?_) (fun hb47=>?_))))
    ·refine .T (.z (zfa dU) (.T (.y hs (zld ae) (.T (.z fF (.z zpT (.zn zg (.ret (rB (rT (Fin.bq iA rfl ?_)))))))))))
     exact ⟨_,rfl,by rw [hi];simp_all<;>omega,hs.out⟩
    ·refine .Fs 3 1 true (.z zpF (.zn zg (.ret (rB (rT (Fin.bq iA rfl ?_))))))
     exact ⟨_,rfl,by rw [hi];simp_all<;>omega,hs.out⟩
   ·refine .aj (.z fF (.zn zg (.bn rfl (fun hc52=>?_) (fun hc52=>?_))))
    ·refine .aj (.z zm (.z zm (.bif (t':=55) rfl (fun hb55=>?_) (fun hb55=>?_))))
     ·refine .T (.z zm (.z zpT (.zn zg (.ret (rB (rT (Fin.bq iA rfl ?_)))))))
      exact ⟨_,rfl,by rw [hi];simp_all<;>omega,hs.out⟩
     ·refine .Fs 1 1 true (.z zpF (.zn zg (.ret (rB (rT (Fin.bq iA rfl ?_))))))
      exact ⟨_,rfl,by rw [hi];simp_all<;>omega,hs.out⟩
    ·refine .skip (nB (nT (.aj (.zn zg (.ret (Fin.bq iA rfl ?_))))))
     exact ⟨_,rfl,by rw [hi];simp_all<;>omega,hs.out⟩
set_option maxHeartbeats 2000000 in
theorem sP{s:Spc}{q:Wht}{vst vwa:Value}(hs:St H w σ)(h1:RI H vst s.st)(h2:RI H vwa s.wa)(hok:eY s)(hq:ib s q):
  Cl Tryz.prog 156 [.agg #[I s.id,I s.src,vst,vwa,I s.al,I s.up],.agg #[I q.kind,I q.st,I q.wa]] w fun v w'=>∃H1 vl en,HLe H H1∧v= .tuple #[vl,I (pa q)]∧cN 1 vl (Is (lA s q)) en∧St H1 w' (en::σ):=by
 obtain ⟨ast,cst,rfl⟩:=RI.shape h1
 obtain ⟨awa,cwa,rfl⟩:=RI.shape h2
 have hsm:=ez hok
 have hcap:=(RI.len h2).2.1
 have hn1:=hok.st.many
 have hn2:=hok.wa.many
 have hlen:=gz s q
 have hqq:=ow.1 hq
 simp only [Spc.isW,Spc.isS] at hqq
 refine Cl.o Tryz.func156 Tryz.ntmps156 ag2 ?_
 refine .aj (.bx hs fun b2 w hs=>?_)
 refine .bx hs fun b3 w hs=>?_
 refine .z zg (.zn zg (.aj (.y hs (zls [_,_,_,_,_,_] aK aA) (.o (.call tx rfl (dX (s:=s) hs h1 h2 ⟨ak,ak⟩) ?_)))));rintro _ w ⟨rfl,hs⟩
 refine .z cu (.o (.wT (s.many+1) hs rfl rfl af gV rfl ai cq ak fun b20 w hs=>?_))
 have hW0:=WI.start s
 generalize List.replicate (s.many+1) (0:Int)=L0 at hs hW0
 refine .zn zg (.seq (.aj (.z (zfa np) (.y hs (zld ae) (.nil (.block (.aj (.z fF (.zn zg (.bn rfl (fun hc23=>?_) (fun hc23=>?_)))))))))))
 ·refine .seq (.draw mix rfl hs fun w hs=>?_)
  refine .zw 0 rfl (zfa bI) ?_;refine .y 1 rfl hs an ?_;refine .z 2 rfl (zfa a8) ?_;refine .y 3 rfl hs an ?_;refine .z 4 rfl (zfa dU) ?_;refine .y 5 rfl hs ae ?_;refine .z 6 rfl cu ?_
  obtain ⟨hk1,_,⟨hw2,hw3⟩,hw1⟩:q.kind=1∧q.st=0∧(0≤q.wa∧q.wa≤(s.wa.length:Int) - 1)∧0<q.wa:=by omega
  obtain ⟨m,hm⟩:∃m:Nat,q.wa=m:=⟨q.wa.toNat,ak⟩
  have hmt:q.wa.toNat=m:=by omega
  have hP:fq 7 15000 (s.wa.take (m+1)):=hok.wa.take ak ak
  have hdv:pa q=648000000:=by unfold pa;rw [if_pos hk1]
  refine .zw 7 rfl (oJ (k:=m+1) rfl rfl af ai ak ak) (.E 8 hs ?_)
  refine .call Tryz.call213 rfl (vQ hs h1 (h2.head (k:=m+1) ak) hok.st hP) ?_;rintro _ w ⟨H1,vo,hle1,rfl,hG,hs⟩
  have hgl:=kz (wts s.st) (wts (s.wa.take (m+1))) s.st.length
  have hyl:(wts (s.wa.take (m+1))).length=m+1:=by rw [eW,List.length_take];omega
  have hgr:∀i<s.st.length,(gr (mZ (wts s.st) (wts (s.wa.take (m+1))) s.st.length) i).length=m+1:=fun i hi=>by rw [yx hi,j8,hyl]
  have hgt:∀i<s.st.length,∀k≤m,gi (gr (mZ (wts s.st) (wts (s.wa.take (m+1))) s.st.length) i) k=kK s q i k:=fun i hi k hk=>by
   have:=BE (X:=wts s.st) (Y:=wts (s.wa.take (m+1))) (n:=s.st.length) (k:=k) hi ak
   unfold gt at this
   rw [this];unfold kK;rw [if_pos hk1,if_pos ak,hmt]
  have hgz:∀i k,m<k→kK s q i k=0:=fun i k hk=>by unfold kK;rw [if_pos hk1,if_neg ak]
  generalize mZ (wts s.st) (wts (s.wa.take (m+1))) s.st.length=G at*
  obtain ⟨aG,cG,rfl⟩:=hG.shape
  refine .go (.zw 9 rfl zm ?_);refine .z 10 rfl zex ?_;refine .z 11 rfl zex ?_;refine .z 12 rfl zg ?_;refine .z 13 rfl zg ?_;refine .D hs ?_
  refine .seq (.aj (.zn zg (.block ?_)))
  refine .loop (fun i:Nat=>⟨127,[],[(9,I (i:Int)),(7,.slice aG G.length cG),(6,.slice (some ⟨b20,0,none⟩) (s.many+1) (s.many+1)),(3,Pt b3),(2,Pt b2)]⟩)
   (fun i w=>i≤s.st.length∧∃L,WI s L (fun i' k'=>if i'<i then kK s q i' k' else 0)∧St H1 w (.blk b20 (Is L):: .blk b3 [I q.kind,I q.st,I q.wa]:: .blk b2 [I s.id,I s.src,.slice ast s.st.length cst,.slice awa s.wa.length cwa,I s.al,I s.up]::σ)) (fun i=>s.st.length - i) 0 (.cP rfl bT a6)
   ⟨Nat.zero_le _,L0,hW0.congr fun i k _ _=>by rw [if_neg ak],hs⟩ ?_
  clear hs hW0
  rintro i w ⟨hi,L,hW,hs⟩
  refine .seq (.aj (.z zm (.z zm (.z (da az) (.zn fV (.bn rfl (fun hc40=>?_) (fun hc40=>?_)))))))
  ·refine .skip (nT (.seq (.block (.aj (.zn zg (.block ?_))))))
   refine .loop (fun k:Nat=>⟨127,[],[(10,I (k:Int)),(9,I (i:Int)),(7,.slice aG G.length cG),(6,.slice (some ⟨b20,0,none⟩) (s.many+1) (s.many+1)),(3,Pt b3),(2,Pt b2)]⟩)
    (fun k w=>k≤m+1∧∃L,WI s L (fun i' k'=>if i'<i∨(i'=i∧k'<k) then kK s q i' k' else 0)∧St H1 w (.blk b20 (Is L):: .blk b3 [I q.kind,I q.st,I q.wa]:: .blk b2 [I s.id,I s.src,.slice ast s.st.length cst,.slice awa s.wa.length cwa,I s.al,I s.up]::σ)) (fun k=>m+1 - k) 0 (.cP rfl bT a6)
    ⟨Nat.zero_le _,L,hW.congr fun i' k' _ _=>by
     by_cases e:i'<i
     ·rw [if_pos e,if_pos (.inl e)]
     ·rw [if_neg e,if_neg ak],hs⟩ ?_
   clear hs hW
   rintro k w ⟨hk,L,hW,hs⟩
   have hWl:=hW.len
   have hil:i<s.st.length:=by omega
   have hgri:=hgr i hil
   refine .seq (.aj (.z zm (.z zm (.z zm (.ixT hs hG rfl rfl az aB (show i<_ by omega) cz ?_)))));intro b46 o46 a46 c46 hc46 hR46
   refine .q hs (aP rfl an hc46) (.z (da af) ?_)
   rw [hgri]
   refine .zn fV (.bn rfl (fun hc49=>?_) (fun hc49=>?_))
   ·refine .skip (nT (.seq (.block (.draw mix rfl hs fun w hs=>?_))))
    have hk':k<m+1:=by omega
    have hub:=uH (s:=s) (i:=i) (k:=k) hil ak
    refine .zw 0 rfl zm ?_;refine .ys 1 rfl hs [_,_,_,_,_,_] aK aA ?_;refine .z 2 rfl zm ?_;refine .z 3 rfl zm ?_;refine .z 5 rfl zm ?_;refine .z 6 rfl zm ?_
    refine .ixT (i:=7) hs rfl aH .none hG rfl rfl az aB (show i<_ by omega) cz ?_;intro b59 o59 a59 c59 hc59 hR59
    refine .r (i:=8) hs rfl aH .none (aP rfl an hc59) ?_
    refine .zw 9 rfl zm (.ixX (enc:=fun x=>[I x]) (i:=10) hs rfl aH .none hR59 rfl rfl af ai (bJ (l:=(gr G i)) (i:=k) ak) cz ?_);intro b62 o62 hc62;replace hc62:=bL.one hc62
    refine .r (i:=11) hs rfl aH .none (aP rfl ae hc62) ?_
    refine .E 4 hs ?_
    refine .call jI rfl (df (s:=s) hs (h2.mono hle1) ak ⟨ak,ak⟩ ⟨ak,ak⟩) ?_;rintro _ w ⟨rfl,hs⟩
    rw [xS]
    refine .go (.zw 12 rfl (iI (k:=s.u i k) rfl rfl af ai rfl ak) (.E 13 hs ?_))
    refine .store hs rfl rfl ai ?_ dz (by simp [Is];omega);intro w hs
    refine .go (.D hs (nB (nT (.region (.z zm (.z cu (.zn zg (nT ?_))))))))
    exact ⟨k+1,.cP rfl bT a6,⟨ak,_,(hW.set hil ak _).congr fun i' k' _ _=>by
     rw [hgt i hil k ak]
     by_cases e:i'=i∧k'=k
     ·obtain ⟨rfl,rfl⟩:=e
      rw [if_pos ⟨rfl,rfl⟩,if_pos (.inr ⟨rfl,ak⟩)]
     ·rw [if_neg e]
      by_cases e2:i'<i∨(i'=i∧k'<k)
      ·rw [if_pos e2,if_pos ak]
      ·rw [if_neg e2,if_neg ak],hs⟩,ak⟩
   ·refine .exit (xT (xT (xB (nB (nT (.region (.z zm (.z cu (.zn zg (nT ?_))))))))))
    exact ⟨i+1,.cP rfl bT a6,⟨ak,L,hW.congr fun i' k' _ _=>by
     by_cases e:i'<i+1
     ·rw [if_pos e]
      by_cases e2:i'<i∨(i'=i∧k'<k)
      ·rw [if_pos e2]
      ·rw [if_neg e2,hgz i' k' ak]
     ·rw [if_neg e,if_neg ak],hs⟩,ak⟩
  ·refine .exit (xT (xT (xB (nT (.aj (.z zm (.z zg (.zn zg (.ret (rB (rT (Fin.ij Tryz.results156 rfl rfl ?_))))))))))))
   obtain rfl:=(hW.congr (g:=kK s q) fun i' k' hi' _=>by rw [if_pos ak]).fin
   rw [←hdv]
   exact ⟨H1,_,_,hle1,rfl,.full (by simp [Is,hlen]),hs.sb⟩
 ·refine .aj (.z fF (.zn zg (.bn rfl (fun hc66=>?_) (fun hc66=>?_))))
  ·refine .aj (.z (zfa bI) (.y hs (zld an) ?_))
   have hk1:q.kind=2:=by omega
   obtain ⟨m,hm⟩:∃m:Nat,q.wa=m:=⟨q.wa.toNat,ak⟩
   have hdv:pa q=180000:=by unfold pa;rw [if_neg ak,if_pos ak]
   have hl:=eW s.st
   have hwt:∀i k,kK s q i k=if k=m then gi (wts s.st) i else 0:=fun i k=>by
    unfold kK;rw [if_neg ak,if_pos hk1]
    by_cases e:k=m
    ·rw [if_pos e,if_pos ak]
    ·rw [if_neg e,if_neg ak]
   refine .o (.call Tryz.call214 rfl (mg hs h1 hok.st) ?_);rintro _ w ⟨H1,vo,hle1,rfl,hX,hs⟩
   obtain ⟨aX,cX,rfl⟩:=RI.shape hX
   rw [hl]
   refine .z zm (.z zex (.z zex (.z zg (.zn zg (.seq (.aj (.zn zg (.block ?_))))))))
   refine .loop (fun i:Nat=>⟨127,[],[(13,I (i:Int)),(11,.slice aX s.st.length cX),(6,.slice (some ⟨b20,0,none⟩) (s.many+1) (s.many+1)),(3,Pt b3),(2,Pt b2)]⟩)
    (fun i w=>i≤s.st.length∧∃L,WI s L (fun i' k'=>if i'<i then kK s q i' k' else 0)∧St H1 w (.blk b20 (Is L):: .blk b3 [I q.kind,I q.st,I q.wa]:: .blk b2 [I s.id,I s.src,.slice ast s.st.length cst,.slice awa s.wa.length cwa,I s.al,I s.up]::σ)) (fun i=>s.st.length - i) 0 (.cP rfl bT a6)
    ⟨Nat.zero_le _,L0,hW0.congr fun i k _ _=>by rw [if_neg ak],hs⟩ ?_
   clear hs hW0
   rintro i w ⟨hi,L,hW,hs⟩
   have hWl:=hW.len
   rw [hl] at hX
   refine .seq (.aj (.z zm (.z zm (.z (da af) (.zn fV (.bn rfl (fun hc77=>?_) (fun hc77=>?_)))))))
   ·refine .skip (nT (.seq (.block (.draw mix rfl hs fun w hs=>?_))))
    refine .zw 0 rfl zm ?_;refine .ys 1 rfl hs [_,_,_,_,_,_] aK aA ?_;refine .z 2 rfl zm ?_;refine .z 3 rfl (zfa dU) ?_;refine .y 4 rfl hs ae ?_;refine .z 6 rfl zm ?_;refine .z 7 rfl zm ?_
    refine .ixX (enc:=fun x=>[I x]) (i:=8) hs rfl aH .none (by rw [hl] at*;exact hX) rfl rfl af ai (bJ (l:=wts s.st) (i:=i) ak) cz ?_;intro b88 o88 hc88;replace hc88:=bL.one hc88
    refine .zv 9 rfl hs (od ae) (.E 5 hs ?_)
    have hil:i<s.st.length:=by omega
    have hub:=uH (s:=s) (i:=i) (k:=m) hil ak
    refine .call jI rfl (df (s:=s) hs (h2.mono hle1) ak ⟨ak,ak⟩ ⟨ak,ak⟩) ?_;rintro _ w ⟨rfl,hs⟩
    rw [show 1+(i:Int)*(s.wa.length:Int)+q.wa=(s.u i m:Int) by rw [hm,xS]]
    refine .go (.zw 10 rfl (iI (k:=s.u i m) rfl rfl af ai rfl ak) (.E 11 hs ?_))
    refine .store hs rfl rfl ai ?_ dz (by simp [Is];omega);intro w hs
    refine .go (.D hs (nB (nT (.region (.z zm (.z cu (.zn zg (nT ?_))))))))
    exact ⟨i+1,.cP rfl bT a6,⟨ak,_,(hW.set hil (show m<s.wa.length by omega) _).congr fun i' k' _ _=>by
     rw [hwt i' k']
     by_cases e:i'=i∧k'=m
     ·obtain ⟨rfl,rfl⟩:=e
      rw [if_pos ⟨rfl,rfl⟩,if_pos (Nat.lt_succ_self _),if_pos rfl]
     ·rw [if_neg e]
      by_cases e2:i'<i
      ·rw [if_pos e2,if_pos (show i'<i+1 by omega)]
      ·rw [if_neg e2]
       by_cases e3:i'<i+1
       ·rw [if_pos e3,if_neg (show ¬k'=m by omega)]
       ·rw [if_neg e3],hs⟩,ak⟩
   ·refine .exit (xT (xT (xB (nT (.aj (.z zm (.z zg (.zn zg (.ret (rB (rT (Fin.ij Tryz.results156 rfl rfl ?_))))))))))))
    obtain rfl:=(hW.congr (g:=kK s q) fun i' k' hi' _=>by rw [if_pos ak]).fin
    rw [←hdv]
    exact ⟨H1,_,_,hle1,rfl,.full (by simp [Is,hlen]),hs.sb⟩
  ·refine .aj (.z fF (.zn zg (.bn rfl (fun hc92=>?_) (fun hc92=>?_))))
   ·refine .aj (.z (zfa a8) (.y hs (zld an) ?_))
    have hk1:q.kind=3:=by omega
    obtain ⟨m,hm⟩:∃m:Nat,q.st=m:=⟨q.st.toNat,ak⟩
    have hdv:pa q=180000:=by unfold pa;rw [if_neg ak,if_pos ak]
    have hl:=eW s.wa
    have hwt:∀i k,kK s q i k=if i=m then gi (wts s.wa) k else 0:=fun i k=>by
     unfold kK;rw [if_neg ak,if_neg ak,if_pos hk1]
     by_cases e:i=m
     ·rw [if_pos e,if_pos ak]
     ·rw [if_neg e,if_neg ak]
    refine .o (.call Tryz.call214 rfl (mg hs h2 (Av hok)) ?_);rintro _ w ⟨H1,vo,hle1,rfl,hX,hs⟩
    obtain ⟨aX,cX,rfl⟩:=RI.shape hX
    rw [hl]
    refine .z zm (.z zex (.z zex (.z zg (.zn zg (.seq (.aj (.zn zg (.block ?_))))))))
    refine .loop (fun k:Nat=>⟨127,[],[(16,I (k:Int)),(14,.slice aX s.wa.length cX),(6,.slice (some ⟨b20,0,none⟩) (s.many+1) (s.many+1)),(3,Pt b3),(2,Pt b2)]⟩)
     (fun k w=>k≤s.wa.length∧∃L,WI s L (fun i' k'=>if k'<k then kK s q i' k' else 0)∧St H1 w (.blk b20 (Is L):: .blk b3 [I q.kind,I q.st,I q.wa]:: .blk b2 [I s.id,I s.src,.slice ast s.st.length cst,.slice awa s.wa.length cwa,I s.al,I s.up]::σ)) (fun k=>s.wa.length - k) 0 (.cP rfl bT a6)
     ⟨Nat.zero_le _,L0,hW0.congr fun i k _ _=>by rw [if_neg ak],hs⟩ ?_
    clear hs hW0
    rintro k w ⟨hi,L,hW,hs⟩
    have hWl:=hW.len
    rw [hl] at hX
    refine .seq (.aj (.z zm (.z zm (.z (da af) (.zn fV (.bn rfl (fun hc103=>?_) (fun hc103=>?_)))))))
    ·refine .skip (nT (.seq (.block (.draw mix rfl hs fun w hs=>?_))))
     refine .zw 0 rfl zm ?_;refine .ys 1 rfl hs [_,_,_,_,_,_] aK aA ?_;refine .z 2 rfl (zfa fb) ?_;refine .y 3 rfl hs ae ?_;refine .z 4 rfl zm ?_;refine .z 6 rfl zm ?_;refine .z 7 rfl zm ?_
     refine .ixX (enc:=fun x=>[I x]) (i:=8) hs rfl aH .none (by rw [hl] at*;exact hX) rfl rfl af ai (bJ (l:=wts s.wa) (i:=k) ak) cz ?_;intro b114 o114 hc114;replace hc114:=bL.one hc114
     refine .zv 9 rfl hs (od ae) (.E 5 hs ?_)
     have hil:k<s.wa.length:=by omega
     have hub:=uH (s:=s) (i:=m) (k:=k) ak hil
     refine .call jI rfl (df (s:=s) hs (h2.mono hle1) ak ⟨ak,ak⟩ ⟨ak,ak⟩) ?_;rintro _ w ⟨rfl,hs⟩
     rw [show 1+q.st*(s.wa.length:Int)+(k:Int)=(s.u m k:Int) by rw [hm,xS]]
     refine .go (.zw 10 rfl (iI (k:=s.u m k) rfl rfl af ai rfl ak) (.E 11 hs ?_))
     refine .store hs rfl rfl ai ?_ dz (by simp [Is];omega);intro w hs
     refine .go (.D hs (nB (nT (.region (.z zm (.z cu (.zn zg (nT ?_))))))))
     exact ⟨k+1,.cP rfl bT a6,⟨ak,_,(hW.set (show m<s.st.length by omega) hil _).congr fun i' k' _ _=>by
      rw [hwt i' k']
      by_cases e:i'=m∧k'=k
      ·obtain ⟨rfl,rfl⟩:=e
       rw [if_pos ⟨rfl,rfl⟩,if_pos (Nat.lt_succ_self _),if_pos rfl]
      ·rw [if_neg e]
       by_cases e2:k'<k
       ·rw [if_pos e2,if_pos (show k'<k+1 by omega)]
       ·rw [if_neg e2]
        by_cases e3:k'<k+1
        ·rw [if_pos e3,if_neg (show ¬i'=m by omega)]
        ·rw [if_neg e3],hs⟩,ak⟩
    ·refine .exit (xT (xT (xB (nT (.aj (.z zm (.z zg (.zn zg (.ret (rB (rT (Fin.ij Tryz.results156 rfl rfl ?_))))))))))))
     obtain rfl:=(hW.congr (g:=kK s q) fun i' k' _ hk'=>by rw [if_pos ak]).fin
     rw [←hdv]
     exact ⟨H1,_,_,hle1,rfl,.full (by simp [Is,hlen]),hs.sb⟩
   ·refine .skip (nB (nT (.aj (.z zm (.y hs (zls [_,_,_,_,_,_] aK aA) (.z (zfa fb) (.y hs (zld ae) (.z (zfa dU) (.y hs (zld ae) ?_)))))))))
    have hk1:q.kind=4:=by omega
    obtain ⟨m,hm⟩:∃m:Nat,q.st=m:=⟨q.st.toNat,ak⟩
    obtain ⟨c,hc⟩:∃c:Nat,q.wa=c:=⟨q.wa.toNat,ak⟩
    have hdv:pa q=1:=by unfold pa;rw [if_neg ak,if_neg ak]
    have hub:=uH (s:=s) (i:=m) (k:=c) ak ak
    have hWl:=hW0.len
    refine .o (.call jI rfl (df (s:=s) hs h2 ak ⟨ak,ak⟩ ⟨ak,ak⟩) ?_);rintro _ w ⟨rfl,hs⟩
    rw [hm,hc,xS]
    refine .q hs (iI (k:=s.u m c) rfl rfl af ai rfl ak) (.o (.store hs rfl rfl ai ?_ dz (by simp [Is];omega)));intro w hs
    refine .nil (.aj (.z zm (.z zg (.zn zg (.ret (Fin.ij Tryz.results156 rfl rfl ?_))))))
    have hfin:=((hW0.set (show m<s.st.length by omega) (show c<s.wa.length by omega) 1).congr (g:=kK s q) fun i' k' _ _=>by
     unfold kK
     rw [if_neg (show ¬q.kind=1 by omega),if_neg (show ¬q.kind=2 by omega),if_neg (show ¬q.kind=3 by omega)]
     by_cases e:i'=m∧k'=c
     ·rw [if_pos e,if_pos ak]
     ·rw [if_neg e,if_neg ak]).fin
    rw [hfin] at hs
    rw [←hdv]
    exact ⟨H,_,_,HLe.refl H,rfl,.full (by simp [Is,hlen]),hs.sb⟩
theorem oH{a d:Int}(hs:St H w σ)(hd:1≤d)(ha: -4608000000000000000≤a∧a≤4608000000000000000):
  Cl Tryz.prog 119 [I a,I d] w fun v w'=>v=I (a/d)∧St H w' σ:=by
 have hq: -4608000000000000000≤a.tdiv d∧a.tdiv d≤4608000000000000000:=by
  have h1:=pz (n:=a) (d:=d) ak
  have h2:a/d≤4608000000000000000:=Int.ediv_le_of_le_mul ak (by
   have:=Int.mul_le_mul_of_nonneg_left hd (show (0:Int)≤4608000000000000000 by omega);omega)
  have h3: -4608000000000000000≤a/d:=Int.le_ediv_of_mul_le ak (by
   have:=Int.mul_le_mul_of_nonneg_left hd (show (0:Int)≤4608000000000000000 by omega);omega)
  by_cases h0:0≤a
  ·rw [Int.tdiv_eq_ediv_of_nonneg h0];omega
  ·split at h1
   ·have:a/d<0:=Int.ediv_neg_of_neg_of_pos ak ak
    omega
   ·omega
 have hfl:=pz (n:=a) (d:=d) ak
 refine Cl.o Tryz.func119 Tryz.ntmps119 ag2 ?_
 refine .aj (.zn zg (.aj (.z zm (.z zm (.q hs (rh rfl rfl ak ⟨ak,ak⟩) (.zn zg (.seq (.aj (.z zm (.z zm (.z Ag (.zn fV (.bn rfl (fun hc12=>?_) (fun hc12=>?_))))))))))))))
 ·refine .region (.z zm (.z fM (.zn zg (nT (.aj (.z zm (.zn zg (.ret (Fin.bq Tryz.results119 rfl ?_)))))))))
  rw [if_pos hc12] at hfl
  exact ⟨by rw [hfl],hs⟩
 ·refine .skip (nT (.aj (.z zm (.zn zg (.ret (Fin.bq Tryz.results119 rfl ?_))))))
  rw [if_neg hc12,Int.sub_zero] at hfl
  exact ⟨by rw [hfl],hs⟩
theorem cJ{n m:Int}(hs:St H w σ)(hm:1≤m∧m≤4611686018427387904):
  Cl Tryz.prog 90 [I n,I m] w fun u w'=>∃k:Nat,(k:Int)<m∧u=I (k:Int)∧St H w' σ:=by
 have h1:=Int.tmod_lt_of_pos n (show 0<m by omega)
 have h2:=Int.lt_tmod_of_pos n (show 0<m by omega)
 have h3:=Int.tmod_lt_of_pos (n.tmod m+m) (show 0<m by omega)
 have h4:=Int.tmod_nonneg m (show 0≤n.tmod m+m by omega)
 refine Cl.o Tryz.func90 Tryz.ntmps90 ag2 ?_
 refine .aj (.zn zg (.aj (.z zm (.z zm (.z Ag (.z zm (.z cu (.z zm (.z Ag (.zn zg (.ret (Fin.bq Tryz.results90 rfl ?_))))))))))))
 exact ⟨((n.tmod m+m).tmod m).toNat,ak,by rw [show (((n.tmod m+m).tmod m).toNat:Int)=(n.tmod m+m).tmod m by omega],hs⟩
theorem dv{v:Value}{l:List Int}{i n:Int}(hs:St H w σ)(hr:RI H v l)(hi:0≤i)(hn:1≤n∧n≤4611686018427387904):
  Cl Tryz.prog 146 [v,I i,I n] w fun u w'=>∃k:Nat,(k:Int)<n∧u=I (k:Int)∧St H w' σ:=by
 obtain ⟨a,c,rfl⟩:=RI.shape hr
 refine Cl.o Tryz.func146 Tryz.ntmps146 ag3 ?_
 refine .aj (.zn zg (.seq (.aj (.z zm (.z (da af) (.zn fF (.bn rfl (fun hc9=>?_) (fun hc9=>?_))))))))
 ·refine .aj (.zn zg (.ret (rT (Fin.bq Tryz.results146 rfl ?_))))
  exact ⟨0,ak,rfl,hs⟩
 ·refine .skip (nT (.aj (.z zm (.z zm (.z zm (.z (da af) (.z Ag ?_)))))))
  have g1:=Int.tmod_lt_of_pos i (show 0<(l.length:Int) by omega)
  have g2:=Int.tmod_nonneg (l.length:Int) hi
  refine .ixY hs hr rfl rfl af ai (bJ (l:=l) (i:=(i.tmod l.length).toNat) ak) ak ?_;intro b15 o15 hc15
  refine .q hs (aP rfl ae hc15) (.z zm (.o (.call dW rfl (cJ hs hn) ?_)));rintro _ w ⟨k,hk,rfl,hs⟩
  refine .zn zg (.ret (Fin.bq Tryz.results146 rfl ?_))
  exact ⟨k,hk,rfl,hs⟩
theorem vO{v vp:Value}{s:dp}{ku:List Int}(hs:St H w σ)(hr:RSy H v s)(hp:RI H vp ku)(hgood:s.Ok∧s.Sound):
  Cl Tryz.prog 149 [v,vp] w fun u w'=>∃H1 vx x en,HLe H H1∧u= .tuple #[vx,I 0]∧cN 1 vx (Is x) en∧xI s ku x∧St H1 w' (en::σ):=by
 obtain ⟨ul,rfl,hl⟩:=hr
 obtain ⟨al,cl,rfl⟩:=RL.shape hl
 obtain ⟨ap,cp,rfl⟩:=RI.shape hp
 refine Cl.o Tryz.func149 Tryz.ntmps149 ag2 ?_
 refine .aj (.bx hs fun b2 w hs=>?_)
 refine .z zg (.zn zg (.aj (.y hs (zls [_,_] bM aV) (.o (.call Tryz.call147 rfl (nD (s:=s) hs ⟨_,rfl,hl⟩) ?_)))));rintro _ w ⟨H1,vt,e,hle1,rfl,hcase,hs⟩
 refine .z zm (.z zex (.z zex (.z zg (.zn zg (.seq (.aj (.z zm (.zn hZ (.dZ rfl (fun hc20=>?_) (fun hc20=>?_))))))))))
 ·refine .aj (.z zm (.z zg (.zn zg (.ret (rT (Fin.ij Tryz.results149 rfl rfl ?_))))))
  rcases hcase with ⟨h1,rfl,rfl⟩|⟨h1,h2,rfl,rfl⟩|⟨_,_,rfl,_⟩
  ·exact (h1 (s.dT.2 hgood.1)).elim
  ·exact (h2 hgood.2).elim
  ·exact (hc20 rfl).elim
 ·refine .skip (nT (.aj ?_))
  subst hc20
  obtain ⟨hok,hsd,rs,hRT,hSq,hWT⟩:s.Ok∧s.Sound∧∃rs,RT H1 vt rs∧Sq s.n rs∧l8 s.n s.dF (gt rs):=by
   rcases hcase with ⟨h1,h2,_⟩|⟨_,_,h2,_⟩|⟨h1,h2,_,h3⟩
   ·exact (h1 h2.symm).elim
   ·omega
   ·exact ⟨h1,h2,h3⟩
  obtain ⟨at',ct,rfl⟩:=hRT.shape
  have hTS:=hok.IL hsd hWT
  have hrl:=hSq.1
  have hm0:=hok.m0
  have hm1:=hok.m1
  have hnn:(s.n:Int)=s.many+1:=by simp only [dp.n];omega
  refine .o (.buildSlice (cells:=[_]) hs dc rfl rfl fun b22 w hs=>?_)
  refine .zn zg (.seq (.aj (.zn zg (.block ?_))))
  refine .loop (fun p:List Int×Value=>⟨109,[],[(9,I (p.1.length:Int)),(8,p.2),(6,.slice at' rs.length ct),(2,Pt b2),(1,.slice ap ku.length cp)]⟩)
   (fun p w=>Hi (gt rs) (rk ku) p.1∧p.1.length≤s.n∧∃en,cN 1 p.2 (Is p.1) en∧St H1 w (en:: .blk b2 [I s.many,.slice al s.cO.length cl]::σ))
   (fun p=>s.n - p.1.length) ([0],.slice (some ⟨b22,0,none⟩) 1 1) a6
   ⟨.start,s.Dt,_,.full (len:=1) rfl,hs⟩ ?_
  rintro ⟨X,v8⟩ w ⟨hP,hXn,en,hO,hs⟩
  dsimp only at hP hXn hO ⊢
  have hI:=hP.inv (fun i n hn=>yj ku i hn) hTS hXn
  have hX0:=hI.l0
  have hO1:=hO
  obtain ⟨b,cap,sp,rfl,rfl,hcap⟩:=hO.some hX0
  refine .seq (.aj (.z zm (.z (zfa cM) (.y hs (zld ae) (.zn nb (.bn rfl (fun hc26=>?_) (fun hc26=>?_)))))))
  ·refine .skip (nT (.seq (.block (.aj (.zn zg ?_)))))
   have hXl:X.length<s.n:=by omega
   refine .aj (.zn zg (.seq (.aj (.z zm (.z (da af) (.zn zm (.for (N:=X.length) (J:=fun k fr w=>∃lo hi,fr=[(10,I lo),(11,I hi),(9,I (X.length:Int)),(8,.slice (some ⟨b,0,none⟩) X.length cap),(6,.slice at' rs.length ct),(2,Pt b2),(1,.slice ap ku.length cp)]∧LoI (gt rs) X X.length k lo∧HiI (gt rs) X X.length k hi∧St H1 w (.blk b (Is X++sp):: .blk b2 [I s.many,.slice al s.cO.length cl]::σ)) ak ?_ ?_ ?_)))))))
   ·exact .mk ⟨_,_,rfl,.start _ _ _,.start _ _ _,hs⟩
   ·rintro k fr w hk ⟨lo,hi,rfl,hLo,hHi,hs⟩
    have hXk:=hI.bd k hk
    have hr1:(gr rs X.length).length=s.n:=hSq.2 _ hXl
    have hr2:(gr rs k).length=s.n:=hSq.2 _ ak
    have hb1:gi (gr rs X.length) k≠1000000000→-1400000≤gi (gr rs X.length) k∧gi (gr rs X.length) k≤1400000:=fun h=>hTS.bd X.length k hXl ak h
    have hb2:gi (gr rs k) X.length≠1000000000→-1400000≤gi (gr rs k) X.length∧gi (gr rs k) X.length≤1400000:=fun h=>hTS.bd k X.length ak hXl h
    refine .block (.aj (.z zm (.zn zg (.cut (fun fs w=>∃lo',lF fs ⟨109,[],[(10,I lo'),(12,I (k:Int)),(31,I (k:Int)),(30,I (X.length:Int)),(11,I hi),(9,I (X.length:Int)),(8,.slice (some ⟨b,0,none⟩) X.length cap),(6,.slice at' rs.length ct),(2,Pt b2),(1,.slice ap ku.length cp)]⟩∧LoI (gt rs) X X.length (k+1) lo'∧St H1 w (.blk b (Is X++sp):: .blk b2 [I s.many,.slice al s.cO.length cl]::σ)) ?_ ?_))))
    ·refine .aj (.z zm (.z zm (.ixT hs hRT rfl rfl az aB (show X.length<rs.length by omega) rfl ?_)));intro b36 o36 a36 c36 hc36 hR36
     refine .q hs (aP rfl an hc36) (.z zm (.ixY hs hR36 rfl rfl af ai (bJ (l:=gr rs X.length) (i:=k) ak) rfl ?_));intro b39 o39 hc39
     refine .q hs (aP rfl ae hc39) (.zn hZ (.dZ rfl (fun hc41=>?_) (fun hc41=>?_)))
     ·refine .draw mix rfl hs fun w hs=>?_
      refine .zw 0 rfl zm ?_;refine .z 1 rfl zm ?_;refine .z 2 rfl zm ?_;refine .z 3 rfl (zix af ai) ?_
      refine .load (i:=4) hs rfl aH .none rfl ae ?_ (hv:=gy hk sp)
      refine .zw 5 rfl zm ?_;refine .z 6 rfl zm ?_
      refine .ixT (i:=7) hs rfl aH .none hRT rfl rfl az aB (show X.length<rs.length by omega) rfl ?_;intro b49 o49 a49 c49 hc49 hR49
      refine .r (i:=8) hs rfl aH .none (aP rfl an hc49) ?_
      refine .zw 9 rfl zm (.ixX (enc:=fun x=>[I x]) (i:=10) hs rfl aH .none hR49 rfl rfl af ai (bJ (l:=gr rs X.length) (i:=k) ak) rfl ?_);intro b52 o52 hc52;replace hc52:=bL.one hc52
      refine .r (i:=11) hs rfl aH .none (aP rfl ae hc52) ?_
      refine .zw 12 rfl fM ?_;refine .z 13 rfl Bb ?_;refine .z 14 rfl zg ?_;refine .D hs ?_
      refine nT ?_
      exact ⟨_,a6,hLo.put hc41 (by have:=hb1 hc41;have:=hXk;have:=hTS.n65;show -1000000000≤gi X k - gi (gr rs X.length) k;omega),hs⟩
     ·refine .skip (nT ?_)
      exact ⟨_,a6,hLo.skip hc41,hs⟩
    ·rintro fs w ⟨lo',hfs,hLo',hs⟩
     refine WE.sub ?_ hfs
     refine .aj (.z zm (.z zm (.ixT hs hRT rfl rfl az aB (show k<rs.length by omega) rfl ?_)));intro b58 o58 a58 c58 hc58 hR58
     refine .q hs (aP rfl an hc58) (.z zm (.ixY hs hR58 rfl rfl af ai (bJ (l:=gr rs k) (i:=X.length) ak) rfl ?_));intro b61 o61 hc61
     refine .q hs (aP rfl ae hc61) (.zn hZ (.dZ rfl (fun hc63=>?_) (fun hc63=>?_)))
     ·refine .draw mix rfl hs fun w hs=>?_
      refine .zw 0 rfl zm ?_;refine .z 1 rfl zm ?_;refine .z 2 rfl zm ?_;refine .z 3 rfl (zix af ai) ?_
      refine .load (i:=4) hs rfl aH .none rfl ae ?_ (hv:=gy hk sp)
      refine .zw 5 rfl zm ?_;refine .z 6 rfl zm ?_
      refine .ixT (i:=7) hs rfl aH .none hRT rfl rfl az aB (show k<rs.length by omega) rfl ?_;intro b71 o71 a71 c71 hc71 hR71
      refine .r (i:=8) hs rfl aH .none (aP rfl an hc71) ?_
      refine .zw 9 rfl zm (.ixX (enc:=fun x=>[I x]) (i:=10) hs rfl aH .none hR71 rfl rfl af ai (bJ (l:=gr rs k) (i:=X.length) ak) rfl ?_);intro b74 o74 hc74;replace hc74:=bL.one hc74
      refine .r (i:=11) hs rfl aH .none (aP rfl ae hc74) ?_
      refine .zw 12 rfl cu ?_;refine .z 13 rfl Al ?_;refine .z 14 rfl zg ?_;refine .D hs ?_
      refine nB (nT ?_)
      exact .mk ⟨lo',_,rfl,hLo',hHi.put hc63 (by have:=hb2 hc63;have:=hXk;have:=hTS.n65;show gi X k+gi (gr rs k) X.length≤1000000000;omega),hs⟩
     ·refine .skip (nB (nT ?_))
      exact .mk ⟨lo',_,rfl,hLo',hHi.skip hc63,hs⟩
   ·rintro fr w ⟨lo,hi,rfl,hLo,hHi,hs⟩
    have hlb:=hLo.bd hI hTS hXl (Nat.le_refl _)
    have hhb:=hHi.bd hI hTS hXl (Nat.le_refl _)
    have hle:=hI.le hTS hXl rfl hLo hHi
    simp only [free] at hlb hhb hle
    have hpk:=yj ku ((X.length:Int) - 1) (n:=hi - lo+1)
    refine nT (.aj (.zn zg (.cut (fun fs w=>lF fs ⟨109,[],[(13,I (kT lo hi (rk ku ((X.length:Int) - 1) (hi - lo+1)))),(9,I (X.length:Int)),(8,.slice (some ⟨b,0,none⟩) X.length cap),(6,.slice at' rs.length ct),(2,Pt b2),(1,.slice ap ku.length cp)]⟩∧St H1 w (.blk b (Is X++sp):: .blk b2 [I s.many,.slice al s.cO.length cl]::σ)) ?_ ?_)))
    ·refine .block (.aj (.z zm (.z hZ (.z zm (.CE (t':=82) rfl (fun hb82=>?_) (fun hb82=>?_))))))
     ·refine .T (.z zm (.T (.z hZ (.z zpT (.zn zg (.dZ rfl (fun hc79=>?_) (fun hc79=>?_)))))))
      ·refine .region (.z zm (.z zm (.z zm (.z fM (.z zm (.z zm (.z fM (.z cu (.o (.call Tryz.call209 rfl (vP hs (hp.mono hle1) ak ak) ?_))))))))));rintro _ w ⟨rfl,hs⟩
       have hq1:hi≠1000000000:=by simpa using hc79
       have hq2:=hle (by simpa using hb82) hq1
       have hq3:=hpk ak
       refine .z cu (.zn zg (nB (nT (⟨.cP rfl ?_ a6,hs⟩))))
       unfold kT
       simp only [free] at*
       split<;>(try split)<;>first|rfl|omega|(simp_all;done)|(exfalso;simp_all;omega)
      ·refine .aj (.z zm (.z hZ (.zn zg (.dZ rfl (fun hc96=>?_) (fun hc96=>?_)))))
       ·refine .region (.z zm (.zn zg (nB (nT (⟨.cP rfl ?_ a6,hs⟩)))))
        unfold kT
        simp only [free] at*
        split<;>(try split)<;>first|rfl|omega|(simp_all;done)|(exfalso;simp_all;omega)
       ·refine .aj (.z zm (.z hZ (.zn zg (.dZ rfl (fun hc100=>?_) (fun hc100=>?_)))))
        ·refine .region (.z zm (.zn zg (nB (nT (⟨.cP rfl ?_ a6,hs⟩)))))
         unfold kT
         simp only [free] at*
         split<;>(try split)<;>first|rfl|omega|(simp_all;done)|(exfalso;simp_all;omega)
        ·refine .skip (nB (nT (⟨.cP rfl ?_ a6,hs⟩)))
         unfold kT
         simp only [free] at*
         split<;>(try split)<;>first|rfl|omega|(simp_all;done)|(exfalso;simp_all;omega)
     ·refine .Fs 2 2 true (.z zpF (.zn zg (.cF (.aj (.z zm (.z hZ (.zn zg (.dZ rfl (fun hc96=>?_) (fun hc96=>?_)))))))))
      ·refine .region (.z zm (.zn zg (nB (nT (⟨.cP rfl ?_ a6,hs⟩)))))
       unfold kT
       simp only [free] at*
       split<;>(try split)<;>first|rfl|omega|(simp_all;done)|(exfalso;simp_all;omega)
      ·refine .aj (.z zm (.z hZ (.zn zg (.dZ rfl (fun hc100=>?_) (fun hc100=>?_)))))
       ·refine .region (.z zm (.zn zg (nB (nT (⟨.cP rfl ?_ a6,hs⟩)))))
        unfold kT
        simp only [free] at*
        split<;>(try split)<;>first|rfl|omega|(simp_all;done)|(exfalso;simp_all;omega)
       ·refine .skip (nB (nT (⟨.cP rfl ?_ a6,hs⟩)))
        unfold kT
        simp only [free] at*
        split<;>(try split)<;>first|rfl|omega|(simp_all;done)|(exfalso;simp_all;omega)
    ·rintro fs w ⟨hfs,hs⟩
     refine WE.sub ?_ hfs
     refine .region (.z zm (.z zm (.o (.buildSlice (cells:=[_]) hs dc rfl rfl fun b106 w hs=>?_))))
     refine .o (.append (ys:=Is [kT lo hi (rk ku ((X.length:Int) - 1) (hi - lo+1))]) hs cV rfl rfl hO1 (.own .here rfl rfl) (js _) (fun l' h=>by simp at h;have:=hTS.n65;omega) ?_);intro v107 en107 w hO2 hs
     rw [←List.map_append] at hO2
     refine .zn zg (nB (nT (.region (.z zm (.z cu (.zn zg (nT ?_)))))))
     exact ⟨(X++[kT lo hi (rk ku ((X.length:Int) - 1) (hi - lo+1))],v107),.cP rfl bT a6,⟨hP.snoc hLo hHi,by simp;omega,_,hO2,hs.sb⟩,by simp;omega⟩
  ·refine .exit (xT (xT (xB (nT (.aj (.z zm (.z zg (.zn zg (.ret (Fin.ij Tryz.results149 rfl rfl ?_))))))))))
   exact ⟨H1,_,X,_,hle1,rfl,hO1,⟨gt rs,hWT,hP,ak⟩,hs.sb⟩
theorem oG{s:Srv}{vst vwa vr vc:Value}(hs:St H w σ)(h1:RI H vst s.sp.st)(h2:RI H vwa s.sp.wa)(h3:RRd H vr s.rs)(h4:RCm H vc s.cs)(he:s.early):
  Cl Tryz.prog 148 [.agg #[I s.sp.id,I s.sp.src,vst,vwa,I s.sp.al,I s.sp.up,vr,vc]] w fun u w'=>∃H1,HLe H H1∧RSy H1 u s.pN∧St H1 w' σ:=by
 obtain ⟨ar,cr,rfl⟩:=RRd.shape h3
 have hfl:=BG s
 have hrl:=he.2.1
 refine Cl.o Tryz.func148 Tryz.ntmps148 ag1 ?_
 refine .aj (.bx hs fun b1 w hs=>?_)
 refine .o (.alloc hs eE rfl fun b2 w hs=>?_)
 refine .nil (.aj (.y hs (zls [_,_,_,_,_,_,_,_] aQ aC) (.o (.call Tryz.call205 rfl (sQ (s:=s) hs h1 h2 h3 h4 he) ?_))));rintro _ w ⟨H1,hle1,⟨ul,rfl,hL⟩,hs⟩
 have hL:RL H1 ul s.cO:=hL
 obtain ⟨al,cl,rfl⟩:=RL.shape hL
 have hln:=RS.len hL
 rw [List.length_map] at hln
 refine .o (.alloc hs eE rfl fun b3 w hs=>?_)
 refine .o (.aU (vs:=[_,_]) hs rfl rfl aV fun w hs=>?_)
 refine .nil (.aj (.z (zfa cA) (.y hs (zld dr) (.z (zfa cA) (.y hs (zld dr) (.z (da aJ) (.z (zfa aO) (.y hs (zld bG) (.z (da au) (.z jN (.z fM (.q hs (oJ (k:=s.oT.length) rfl rfl aJ bg ak ak) ?_))))))))))))
 have hT:=RS.head hL (k:=s.oT.length) ak
 rw [←List.map_take,zL] at hT
 refine .z (zfa cA) (.o (.store hs rfl rfl p5 fun w hs=>?_))
 refine .nil (.aj (.y hs (zls [_,_] bM aV) (.o (.aU (vs:=[_,_]) hs rfl rfl aV fun w hs=>?_))))
 refine .nil (.ret ?_)
 exact Fin.jt [] [] hs fun w hs=>⟨_,results1 Tryz.results148 (dK (vs:=[_,_]) hs rfl bM aV),H1,hle1,⟨_,rfl,hT⟩,hs.out⟩
theorem vK{s:Srv}{vst vwa vr vc:Value}(hs:St H w σ)(h1:RI H vst s.sp.st)(h2:RI H vwa s.sp.wa)(h3:RRd H vr s.rs)(h4:RCm H vc s.cs)(he:s.early)(hok:s.pN.Ok):
  Cl Tryz.prog 91 [.agg #[I s.sp.id,I s.sp.src,vst,vwa,I s.sp.al,I s.sp.up,vr,vc]] w fun u w'=>∃H1,∃b:Bool,HLe H H1∧u= .bool b∧(b=false→s.pN.Sound)∧St H1 w' σ:=by
 refine Cl.o Tryz.func91 Tryz.ntmps91 ag1 ?_
 refine .aj (.bx hs fun b1 w hs=>?_)
 refine .zn zg (.aj (.y hs (zls [_,_,_,_,_,_,_,_] aQ aC) (.o (.call Tryz.call148 rfl (oG (s:=s) hs h1 h2 h3 h4 he) ?_))));rintro _ w ⟨H1,hle1,hS,hs⟩
 refine .o (.call Tryz.call147 rfl (nD (s:=s.pN) hs hS) ?_);rintro _ w ⟨H2,vt,e,hle2,rfl,hcase,hs⟩
 refine .z zm (.z zex (.z zex (.z zg (.zn zg (.aj (.z zm (.z hZ (.zn zg (.ret (Fin.bq Tryz.results91 rfl ?_))))))))))
 exact ⟨H2,_,hle1.trans hle2,rfl,fun h=>by
  rcases hcase with ⟨k1,_,_⟩|⟨_,_,k3,_⟩|⟨_,k2,_,_⟩
  ·exact (k1 (s.pN.dT.2 hok)).elim
  ·subst k3;simp at h
  ·exact k2,hs.out⟩
theorem vJ{s:Srv}{vst vwa vr vc vp:Value}{ku:List Int}(hs:St H w σ)(h1:RI H vst s.sp.st)(h2:RI H vwa s.sp.wa)(h3:RRd H vr s.rs)(h4:RCm H vc s.cs)(hp:RI H vp ku)(he:s.early)(hok:s.pN.Ok∧s.pN.Sound):
  Cl Tryz.prog 92 [.agg #[I s.sp.id,I s.sp.src,vst,vwa,I s.sp.al,I s.sp.up,vr,vc],vp] w fun u w'=>∃H1 x en,HLe H H1∧cN 1 u (Is x) en∧xI s.pN ku x∧St H1 w' (en::σ):=by
 obtain ⟨ap,cp,rfl⟩:=RI.shape hp
 refine Cl.o Tryz.func92 Tryz.ntmps92 ag2 ?_
 refine .aj (.bx hs fun b2 w hs=>?_)
 refine .zn zg (.aj (.y hs (zls [_,_,_,_,_,_,_,_] aQ aC) (.o (.call Tryz.call148 rfl (oG (s:=s) hs h1 h2 h3 h4 he) ?_))));rintro _ w ⟨H1,hle1,hS,hs⟩
 refine .z zm (.o (.call Tryz.call149 rfl (vO (s:=s.pN) hs hS (hp.mono hle1) hok) ?_));rintro _ w ⟨H2,vx,x,en,hle2,rfl,hO,hP,hs⟩
 refine .z zm (.z zex (.z zex (.z zg (.zn zg (.aj (.z zm (.zn zg (.ret (Fin.bq Tryz.results92 rfl ?_)))))))))
 exact ⟨H2,x,en,hle1.trans hle2,hO,hP,hs.sb⟩
structure Grow(d D:Int)(L:List Int)(x:Int):Prop where
 low:d≤x
 high:x≤d+D*L.length
 all:∀i<L.length,d≤gi L i∧gi L i<x
 rise:∀i,i+1<L.length→gi L i<gi L (i+1)
theorem Grow.start(d D:Int):Grow d D [] d:=⟨ak,bT,fun i h=>by simp at h,fun i h=>by simp at h⟩
theorem Grow.snoc{d D x y:Int}{L:List Int}(h:Grow d D L x)(h1:x<y)(h2:y≤x+D):Grow d D (L++[x]) y:=by
 obtain ⟨g1,g2,g3,g4⟩:=h
 refine ⟨ak,?_,fun i hi=>?_,fun i hi=>?_⟩
 ·rw [List.length_append,List.length_singleton,Int.natCast_add,Int.mul_add];omega
 ·rw [List.length_append,List.length_singleton] at hi
  rw [yz]
  split
  ·have:=g3 i fp;omega
  ·rw [if_pos ak];omega
 ·rw [List.length_append,List.length_singleton] at hi
  rw [yz,yz,if_pos ak]
  split
  ·exact g4 i fp
  ·rw [if_pos ak];exact (g3 i ak).2
theorem Grow.plc{d D x most:Int}{many:Nat}{L:List Int}(h:Grow d D L x)(hd:0≤d)(h2:2≤L.length)(hm:L.length≤many)(hx:d+D*L.length≤most):fq many most L:=
 ⟨h2,hm,by have:=(h.all 0 ak).1;omega,by have:=(h.all (L.length - 1) ak).2;have:=h.high;omega,h.rise⟩
structure IE(s:Spc):Prop where
 ok:eY s
 st:s.st.length≤4
 wa:s.wa.length≤3
set_option maxHeartbeats 1000000 in
theorem qw{v:Value}{l:List Int}(hs:St H w σ)(hr:RI H v l):
  Cl Tryz.prog 89 [v] w fun u w'=>∃s vst vwa e1 e2,u= .agg #[I s.id,I s.src,vst,vwa,I s.al,I s.up]∧IE s∧cN 1 vst (Is s.st) e1∧cN 1 vwa (Is s.wa) e2∧St H w' (e1::e2::σ):=by
 obtain ⟨av,cv,rfl⟩:=RI.shape hr
 refine Cl.o Tryz.func89 Tryz.ntmps89 ag1 ?_
 refine .aj (.o (.alloc hs jc rfl fun b2 w hs=>?_))
 refine .nil (.aj (.z zm (.o (.call gU rfl (dv hs hr ak ak) ?_))));rintro _ w ⟨k11,g11,rfl,hs⟩
 refine .z cu (.z zm (.o (.call gU rfl (dv hs hr ak ak) ?_)));rintro _ w ⟨k14,g14,rfl,hs⟩
 refine .z cu (.z (zbd [_,_,_,_,_,_] sc) (.o (.alloc hs jc rfl fun b3 w hs=>?_)))
 refine .o (.aU (vs:=[_,_,_,_,_,_]) hs rfl rfl aA fun w hs=>?_)
 refine .nil (.aj (.z zm (.o (.call gU rfl (dv hs hr ak ak) ?_))));rintro _ w ⟨k18,g18,rfl,hs⟩
 refine .z cu (.z jN (.zn zg (.aj (.zn zg (.seq (.aj (.zn zg (.block ?_))))))))
 refine .loop (fun p:List Int×Int×Value=>⟨90,[],[(6,I (p.1.length:Int)),(5,I p.2.1),(4,I (100*(1+(k18:Int)))),(0,.slice av l.length cv),(3,Pt b3),(2,Pt b2)]⟩)
  (fun p w=>p.1.length≤4∧Grow 0 2707 p.1 p.2.1∧∃en,cN 1 p.2.2 (Is p.1) en∧St H w (en:: .blk b3 [I (1+(k11:Int)),I (1+(k14:Int)),p.2.2,.slice none 0 0,I 0,I 0]:: .blk b2 [I 0,I 0,.slice none 0 0,.slice none 0 0,I 0,I 0]::σ)) (fun p=>4 - p.1.length) ([],0,.slice none 0 0) a6
  ⟨bT,.start _ _,_,.nil 1 none,hs.nul⟩ ?_
 clear hs
 rintro ⟨L,x,vo⟩ w ⟨hL4,hG,en,hO,hs⟩
 dsimp only at hL4 hG hO hs ⊢
 obtain ⟨ao,lo,co,rfl,-⟩:=hO.shape
 have hx0:=hG.low
 have hx1:=hG.high
 refine .seq (.aj (.z zm (.z zm (.o (.call gU rfl (dv hs hr ak ak) ?_)))));rintro _ w ⟨k23,g23,rfl,hs⟩
 refine .z cu (.zn fV (.bn rfl (fun hc25=>?_) (fun hc25=>?_)))
 ·refine .skip (nT (.seq (.block (.aj (.z (zfa bI) (.y hs (zld an) (.z zm (.o (.buildSlice (cells:=[_]) hs dc rfl rfl fun b31 w hs=>?_)))))))))
  refine .o (.append (ys:=Is [x]) hs cV rfl rfl hO (.own .here rfl rfl) (js _) (fun l' h=>by simp at h;omega) ?_);intro v32 en32 w hO2 hs
  rw [←List.map_append] at hO2
  obtain ⟨a32,l32,c32,rfl,-⟩:=hO2.shape
  refine .z (zfa bI) (.o (.store hs rfl rfl aB fun w hs=>?_))
  refine .nil (.region (.z zm (.z zm (.z zm (.z zm (.z cu (.o (.call gU rfl (dv hs hr ak ak) ?_))))))));rintro _ w ⟨k39,g39,rfl,hs⟩
  have m41:=jK (a:=100*(1+(k18:Int))) (b:=1+(k39:Int)) (A:=900) (B:=3) ak ak
  have m41':100≤100*(1+(k18:Int))*(1+(k39:Int)):=by
   have:=Int.mul_le_mul (a:=100) (c:=100*(1+(k18:Int))) (b:=1) (d:=1+(k39:Int)) ak ak ak ak
   omega
  refine .z cu (.z jN (.z cu (.z zm (.o (.call gU rfl (dv hs hr ak ak) ?_)))));rintro _ w ⟨k44,g44,rfl,hs⟩
  refine .z zm (.z zm (.z cu (.o (.call gU rfl (dv hs hr ak ak) ?_))));rintro _ w ⟨k48,g48,rfl,hs⟩
  have m49:0≤(k44:Int)*(k48:Int)∧(k44:Int)*(k48:Int)≤1:=by
   have e1:k44=0∨k44=1:=by omega
   rcases e1 with rfl|rfl<;>simp<;>omega
  refine .z jN (.z jN (.z cu (.zn zg (nB (nT (.region (.z zm (.z cu (.zn zg (nT ?_))))))))))
  exact ⟨(L++[x],_,.slice a32 l32 c32),.cP rfl bT a6,⟨by simp;omega,hG.snoc (by dsimp only;omega) (by dsimp only;omega),_,hO2,hs.sb⟩,by simp;omega⟩
 ·refine .exit (xT (xT (xB (nT (.aj (.z zm ?_))))))
  have hL2:2≤L.length:=by omega
  refine .o (.call gU rfl (dv hs hr ak ak) ?_);rintro _ w ⟨k53,g53,rfl,hs⟩
  refine .z cu (.z jN (.zn zg (.aj (.z zm (.o (.call gU rfl (dv hs hr ak ak) ?_))))));rintro _ w ⟨k57,g57,rfl,hs⟩
  refine .z jN (.zn zg (.seq (.aj (.zn zg (.block ?_)))))
  refine .loop (fun p:List Int×Int×Value=>⟨90,[],[(9,I (p.1.length:Int)),(8,I p.2.1),(7,I (50*(1+(k53:Int)))),(0,.slice av l.length cv),(3,Pt b3),(2,Pt b2)]⟩)
   (fun p w=>p.1.length≤3∧Grow (10*(k57:Int)) 1350 p.1 p.2.1∧∃en2,cN 1 p.2.2 (Is p.1) en2∧St H w (en2:: .blk b3 [I (1+(k11:Int)),I (1+(k14:Int)),.slice ao lo co,p.2.2,I 0,I 0]:: .blk b2 [I 0,I 0,.slice none 0 0,.slice none 0 0,I 0,I 0]::en::σ)) (fun p=>3 - p.1.length) ([],10*(k57:Int),.slice none 0 0) a6
   ⟨bT,.start _ _,_,.nil 1 none,(hs.sb).nul⟩ ?_
  clear hs
  rintro ⟨L2,y,vo2⟩ w ⟨hM4,hG2,en2,hO2,hs⟩
  dsimp only at hM4 hG2 hO2 hs ⊢
  obtain ⟨ap,lp,cp,rfl,-⟩:=hO2.shape
  have hy0:=hG2.low
  have hy1:=hG2.high
  refine .seq (.aj (.z zm (.z zm (.o (.call gU rfl (dv hs hr ak ak) ?_)))));rintro _ w ⟨k61,g61,rfl,hs⟩
  refine .z cu (.zn fV (.bn rfl (fun hc63=>?_) (fun hc63=>?_)))
  ·refine .skip (nT (.seq (.block (.aj (.z (zfa a8) (.y hs (zld an) (.z zm (.o (.buildSlice (cells:=[_]) hs dc rfl rfl fun b69 w hs=>?_)))))))))
   refine .o (.append (ys:=Is [y]) hs cV rfl rfl hO2 (.own .here rfl rfl) (js _) (fun l' h=>by simp at h;omega) ?_);intro v70 en70 w hO3 hs
   rw [←List.map_append] at hO3
   obtain ⟨a70,l70,c70,rfl,-⟩:=hO3.shape
   refine .z (zfa a8) (.o (.store hs rfl rfl aB fun w hs=>?_))
   refine .nil (.region (.z zm (.z zm (.z zm (.z zm (.z cu (.o (.call gU rfl (dv hs hr ak ak) ?_))))))));rintro _ w ⟨k77,g77,rfl,hs⟩
   have m79:=jK (a:=50*(1+(k53:Int))) (b:=1+(k77:Int)) (A:=450) (B:=3) ak ak
   have m79':50≤50*(1+(k53:Int))*(1+(k77:Int)):=by
    have:=Int.mul_le_mul (a:=50) (c:=50*(1+(k53:Int))) (b:=1) (d:=1+(k77:Int)) ak ak ak ak
    omega
   refine .z cu (.z jN (.z cu (.zn zg (nB (nT (.region (.z zm (.z cu (.zn zg (nT ?_))))))))))
   exact ⟨(L2++[y],_,.slice a70 l70 c70),.cP rfl bT a6,⟨by simp;omega,hG2.snoc (by dsimp only;omega) (by dsimp only;omega),_,hO3,hs.sb⟩,by simp;omega⟩
  ·refine .exit (xT (xT (xB (nT (.aj (.z zm (.o (.call gU rfl (dv hs hr ak ak) ?_))))))));rintro _ w ⟨k83,g83,rfl,hs⟩
   refine .z jN (.z zm (.o (.call gU rfl (dv hs hr ak ak) ?_)));rintro _ w ⟨k86,g86,rfl,hs⟩
   refine .z jN (.z (zbd [_,_] tK) (.z (zfa ef) (.o (.aU (vs:=[_,_]) hs rfl rfl Tryz.sizeOf46 fun w hs=>?_))))
   refine .nil (.aj (.y hs (zls [_,_,_,_,_,_] aK aA) (.o (.aU (vs:=[_,_,_,_,_,_]) hs rfl rfl aA fun w hs=>?_))))
   refine .nil (.ret ?_)
   exact Fin.jt [] [] hs fun w hs=>⟨_,results1 Tryz.results89 (dK (vs:=[_,_,_,_,_,_]) hs rfl aK aA),⟨1+(k11:Int),1+(k14:Int),L,L2,100*(k83:Int),100*(k86:Int)⟩,.slice ao lo co,.slice ap lp cp,en,en2,rfl,
    ⟨⟨hG.plc ak hL2 ak ak,hG2.plc ak ak ak ak,by dsimp only;omega,by dsimp only;omega,by dsimp only;omega,by dsimp only;omega⟩,hL4,hM4⟩,hO,hO2,hs.sb⟩
instance (s:Spc) (r:Rdg):Decidable (na s r):=
 decidable_of_iff ((1≤r.src∧r.src≤99999)∧(0≤r.st∧r.st≤(s.st.length:Int) - 1)∧(0≤r.wa∧r.wa≤(s.wa.length:Int) - 1)∧(0≤r.tol∧r.tol≤1000)∧(0≤r.val∧r.val≤20000 - r.tol)∧(1≤r.tape∧r.tape≤99)∧(0≤r.day∧r.day≤100000))
  ⟨fun ⟨a,b,c,d,e,f,g⟩=>⟨a,b,c,d,e,f,g⟩,fun ⟨a,b,c,d,e,f,g⟩=>⟨a,b,c,d,e,f,g⟩⟩
def jq(s:Spc)(rs:List Rdg):List Rdg:=rs.filter fun r=>decide (na s r)
theorem Ck(s:Spc){rs:List Rdg}{k:Nat}{r:Rdg}(h:rs[k]? =some r):jq s (rs.take (k+1))=if na s r then jq s (rs.take k)++[r] else jq s (rs.take k):=by
 unfold jq
 rw [dj h,List.filter_append]
 by_cases e:na s r
 ·simp [e]
 ·simp [e]
theorem wc(s:Spc)(rs:List Rdg):(jq s rs).length≤rs.length:=List.length_filter_le _ _
theorem zJ{s:Spc}{rs:List Rdg}{r:Rdg}(h:r∈jq s rs):r∈rs∧na s r:=by
 unfold jq at h;simpa using List.mem_filter.1 h
theorem Fu{s:Spc}{rs:List Rdg}{t:TD}(h:t∈bw (jq s rs)):t∈bw rs:=by
 obtain ⟨r,h1,h2⟩:=ia.1 h
 exact ia.2 ⟨r,(zJ h1).1,h2⟩
def og(v:Srv)(x:List Int)(t:TD):Int:=gi x (v.sp.many+1+(kL v.cI t).toNat)
def Im(v:Srv)(x:List Int):List Int:=x.take (v.sp.many+1)++(bw (jq v.sp v.rs)).map (og v x)
set_option maxHeartbeats 1000000 in
theorem oE{vr:Value}{rs:List Rdg}(hs:St H w σ)(hr:RRd H vr rs)(hl:rs.length≤1000000):
  Cl Tryz.prog 96 [vr] w fun u w'=>∃en,cN 2 u (tdc (bw rs)).flatten en∧St H w' (en::σ):=by
 obtain ⟨ar,cr,rfl⟩:=RRd.shape hr
 refine Cl.o Tryz.func96 Tryz.ntmps96 ag1 ?_
 refine .aj (.zn zg (.aj (.zn zg (.seq (.aj (.zn zg (.block ?_)))))))
 refine .loop (fun p:Nat×Value=>⟨32,[],[(4,I (p.1:Int)),(3,p.2),(0,.slice ar rs.length cr)]⟩)
  (fun p w=>p.1≤rs.length∧∃en,cN 2 p.2 (tdc (bw (rs.take p.1))).flatten en∧St H w (en::σ)) (fun p=>rs.length - p.1) (0,.slice none 0 0) a6
  ⟨Nat.zero_le _,_,.nil 2 none,hs.nul⟩ ?_
 rintro ⟨k,vo⟩ w ⟨hk,en,hO,hs⟩
 dsimp only at hk hO ⊢
 have htl:=lM rs k ak
 obtain ⟨ao,co,rfl⟩:=hO.je (pD _) ak
 rw [eK] at hO ⊢
 refine .seq (.aj (.z zm (.z zm (.z (da au) (.zn fV (.bn rfl (fun hc9=>?_) (fun hc9=>?_)))))))
 ·refine .skip (nT (.seq (.block (.seq (.draw mix rfl hs fun w hs=>?_)))))
  refine .zw 0 rfl zm ?_;refine .z 1 rfl zm ?_
  obtain ⟨r,hx⟩:=nth (l:=rs) (k:=k) ak
  have htk:=kq hx
  refine .ixX (enc:=Rdg.c) (i:=2) hs rfl aH .none hr rfl rfl au aI hx cz ?_;intro b14 o14 hc14
  have d14:cellAt H b14 (o14+5)=some (I r.tape):=hc14 5 _ rfl
  refine .zw 3 rfl (zfa eP) ?_;refine .y 4 rfl hs ae ?_;refine .z 5 rfl zm ?_;refine .z 6 rfl zm ?_
  refine .ixX (enc:=Rdg.c) (i:=7) hs rfl aH .none hr rfl rfl au aI hx cz ?_;intro b19 o19 hc19
  have d19:cellAt H b19 (o19+6)=some (I r.day):=hc19 6 _ rfl
  refine .zw 8 rfl (zfa eO) ?_;refine .y 9 rfl hs ae ?_;refine .z 10 rfl (zbd [_,_] iY) ?_
  refine .E 11 hs ?_
  refine .alloc hs lH rfl ?_;intro b5 w hs
  refine .go (.E 12 hs ?_)
  refine .aU (vs:=[_,_]) hs rfl rfl bP ?_;intro w hs
  refine .go (.D hs (.aj (.z zm (.y hs (zls [_,_] eu bP) (.o (.call Tryz.call95 rfl (oF (t:=r.td) (hs.sb:St H w (en:: .blk b5 [I r.tape,I r.day]::σ)) hO ak) ?_))))));rintro _ w ⟨rfl,hs⟩
  have hnn:=tz (l:=bw (rs.take k)) (t:=r.td)
  refine .zn fV (.bn rfl (fun hc26=>?_) (fun hc26=>?_))
  ·refine .region (.z zm (.y hs (zls [_,_] eu bP) (.o (.buildSlice (cells:=[_,_]) hs jr rfl rfl fun b29 w hs=>?_))))
   refine .o (.append (ys:=r.td.c) hs fm rfl rfl hO (.own .here rfl rfl) (by simp [TD.c,Value.oneCell']) (fun l h=>by rw [bU _ (pD _),eK] at h;omega) ?_);intro v30 en30 w hO2 hs
   refine .zn zg (nB (nT (.region (.z zm (.z cu (.zn zg (nT ?_)))))))
   have hn:r.td∉bw (rs.take k):=fun hm=>by have:=hnn.2 hm;omega
   rw [←xW,show bw (rs.take k)++[r.td]=bw (rs.take (k+1)) by rw [htk];unfold sh;rw [if_neg hn]] at hO2
   exact ⟨(k+1,v30),.cP rfl bT a6,⟨by dsimp only;omega,_,hO2,hs.sb⟩,by dsimp only;omega⟩
  ·refine .skip (nB (nT (.region (.z zm (.z cu (.zn zg (nT ?_)))))))
   have hm:r.td∈bw (rs.take k):=hnn.1 ak
   exact ⟨(k+1,_),.cP rfl bT a6,⟨by dsimp only;omega,en,by dsimp only;rw [htk];unfold sh;rw [if_pos hm];exact hO,hs.sb⟩,by dsimp only;omega⟩
 ·refine .exit (xT (xT (xB (nT (.aj (.z zm (.zn zg (.ret (Fin.bq Tryz.results96 rfl ?_)))))))))
  obtain rfl:k=rs.length:=by omega
  rw [List.take_length] at hO
  exact ⟨en,by rw [List.take_length];exact hO,hs⟩
set_option maxHeartbeats 2000000 in
theorem re{s:Srv}{x:List Int}{vst vwa vr vc vx:Value}(hs:St H w σ)(h1:RI H vst s.sp.st)(h2:RI H vwa s.sp.wa)(h3:RRd H vr s.rs)(hc:∃a l c,vc= .slice a l c)(hx:RI H vx x)(hxl:x.length=s.sys.n)(hb:s.sp.st.length≤1000∧s.sp.wa.length≤1000∧s.rs.length≤1000):
  Cl Tryz.prog 97 [.agg #[I s.sp.id,I s.sp.src,vst,vwa,I s.sp.al,I s.sp.up,vr,vc],vx] w fun u w'=>∃H1 vr' vy e1 e2,HLe H H1∧u= .tuple #[.agg #[I s.sp.id,I s.sp.src,vst,vwa,I s.sp.al,I s.sp.up,vr',vc],vy]∧cN 7 vr' (rdc (jq s.sp s.rs)).flatten e1∧cN 1 vy (Is (Im s x)) e2∧St H1 w' (e1::e2::σ):=by
 obtain ⟨ast,cst,rfl⟩:=RI.shape h1
 obtain ⟨awa,cwa,rfl⟩:=RI.shape h2
 obtain ⟨ar,cr,rfl⟩:=RRd.shape h3
 obtain ⟨ac,lc,cc,rfl⟩:=hc
 obtain ⟨ax,cx,rfl⟩:=RI.shape hx
 have hm:s.sp.many≤1000000:=Nat.mul_le_mul hb.1 hb.2.1
 have hn:=xZ s
 have htl:=dQ s.rs
 refine Cl.o Tryz.func97 Tryz.ntmps97 ag2 ?_
 refine .aj (.bx hs fun b2 w hs=>?_)
 refine .o (.alloc hs dS rfl fun b4 w hs=>?_)
 refine .zn zg (.aj (.z (zfa aO) (.y hs (zld bG) (.o (.call y9 rfl (ik (rs:=s.rs) hs h3 ak) ?_)))));rintro v15 w ⟨H1,hle1,hT,hs⟩
 obtain ⟨at',ct,rfl⟩:=RTd.shape hT
 refine .zn zg (.aj (.z (zfa bj) (.y hs (zls [_,_,_,_,_,_] aK aA) (.o (.call tx rfl (dX (s:=s.sp) hs (h1.mono hle1) (h2.mono hle1) ⟨hb.1,hb.2.1⟩) ?_)))));rintro _ w ⟨rfl,hs⟩
 refine .zn zg (.aj (.y hs (zls [_,_,_,_,_,_,_,_] aQ aC) (.o (.alloc hs dS rfl fun b8 w hs=>?_))))
 refine .o (.aU (vs:=[_,_,_,_,_,_,_,_]) hs rfl rfl aC fun w hs=>?_)
 refine .nil (.aj (.z (zfa aO) (.o (.store hs rfl rfl su fun w hs=>?_))))
 refine .nil (.seq (.aj (.zn zg (.block ?_))))
 refine .loop (fun p:Nat×Value=>⟨78,[],[(9,I (p.1:Int)),(8,Pt b8),(7,I (s.sp.many:Int)),(6,.slice at' (bw s.rs).length ct),(4,Pt b4),(2,Pt b2),(1,.slice ax x.length cx)]⟩)
  (fun p w=>p.1≤s.rs.length∧∃en,cN 7 p.2 (rdc (jq s.sp (s.rs.take p.1))).flatten en∧St H1 w (en:: .blk b8 [I s.sp.id,I s.sp.src,.slice ast s.sp.st.length cst,.slice awa s.sp.wa.length cwa,I s.sp.al,I s.sp.up,p.2,.slice ac lc cc]:: .blk b4 [I 0,I 0,.slice none 0 0,.slice none 0 0,I 0,I 0,.slice none 0 0,.slice none 0 0]:: .blk b2 [I s.sp.id,I s.sp.src,.slice ast s.sp.st.length cst,.slice awa s.sp.wa.length cwa,I s.sp.al,I s.sp.up,.slice ar s.rs.length cr,.slice ac lc cc]::σ)) (fun p=>s.rs.length - p.1) (0,.slice none 0 0) a6
  ⟨Nat.zero_le _,_,.nil 7 none,hs.nul⟩ ?_
 clear hs
 rintro ⟨k,vo⟩ w ⟨hk,en,hO,hs⟩
 dsimp only at hk hO hs ⊢
 have hkl:=wc s.sp (s.rs.take k)
 rw [List.length_take] at hkl
 obtain ⟨ao,lo,co,rfl,-⟩:=hO.shape
 refine .seq (.aj (.z zm (.z (zfa aO) (.y hs (zld bG) (.z (da au) (.zn fV (.bn rfl (fun hc25=>?_) (fun hc25=>?_))))))))
 ·refine .skip (nT (.seq (.block (.seq (.draw mix rfl hs fun w hs=>?_)))))
  refine .zw 0 rfl (zfa bj) ?_;refine .ys 1 rfl hs [_,_,_,_,_,_] aK aA ?_;refine .z 2 rfl (zfa aO) ?_;refine .y 3 rfl hs bG ?_;refine .z 4 rfl zm ?_
  obtain ⟨r,hr⟩:=nth (l:=s.rs) (k:=k) ak
  have hsn:=Ck s.sp hr
  refine .ixX (enc:=Rdg.c) (i:=5) hs rfl aH .none (h3.mono hle1) rfl rfl au aI hr cz ?_;intro b33 o33 hc33
  refine .r (i:=6) hs rfl aH .none (bQ (vs:=r.c) rfl ew aI hc33) ?_
  refine .E 7 hs ?_
  refine .call Tryz.call150 rfl (jQ (s:=s.sp) (r:=r) hs (h1.mono hle1) (h2.mono hle1)) ?_;rintro _ w ⟨b35,rfl,hb35,hs⟩
  refine .go (.D hs (.cond rfl (fun hc35=>?_) (fun hc35=>?_)))
  ·refine .draw mix rfl hs fun w hs=>?_
   refine .zw 0 rfl (zfa aO) ?_;refine .y 1 rfl hs bG ?_;refine .z 2 rfl (zfa aO) ?_;refine .y 3 rfl hs bG ?_;refine .z 4 rfl zm ?_
   refine .ixX (enc:=Rdg.c) (i:=5) hs rfl aH .none (h3.mono hle1) rfl rfl au aI hr cz ?_;intro b41 o41 hc41
   refine .r (i:=6) hs rfl aH .none (bQ (vs:=r.c) rfl ew aI hc41) ?_
   refine .E 7 hs ?_
   refine .buildSlice (cells:=r.c) hs gJ rfl aH ?_;intro b43 w hs
   refine .go (.E 8 hs ?_)
   refine .append (ys:=r.c) hs dY rfl rfl hO (.own .here rfl rfl) (by simp [Rdg.c,Value.oneCell']) (fun l' h=>by rw [bU _ (kc _),dw] at h;omega) ?_;intro v44 en44 w hO2 hs
   rw [←uL,show jq s.sp (s.rs.take k)++[r]=jq s.sp (s.rs.take (k+1)) by rw [hsn,if_pos (hb35.1 (by simpa using hc35))]] at hO2
   obtain ⟨a44,l44,c44,rfl,-⟩:=hO2.shape
   refine .go (.zw 9 rfl (zfa aO) (.E 10 hs ?_))
   refine .store hs rfl rfl su ?_;intro w hs
   refine .go (.D hs (nB (nT (.region (.z zm (.z cu (.zn zg (nT ?_))))))))
   exact ⟨(k+1,.slice a44 l44 c44),.cP rfl bT a6,⟨by dsimp only;omega,_,hO2,hs.sb⟩,by dsimp only;omega⟩
  ·refine .skip (nB (nT (.region (.z zm (.z cu (.zn zg (nT ?_)))))))
   exact ⟨(k+1,.slice ao lo co),.cP rfl bT a6,⟨by dsimp only;omega,en,by dsimp only;rw [hsn,if_neg (fun h=>by rw [hb35.2 h] at hc35;cases hc35)];exact hO,hs.sb⟩,by dsimp only;omega⟩
 ·refine .exit (xT (xT (xB (nT (.aj ?_)))))
  obtain rfl:k=s.rs.length:=by omega
  rw [List.take_length] at hO
  refine .o (.buildSlice (cells:=[]) hs tI rfl rfl fun b46 w hs=>?_)
  refine .z zm (.z zm (.z cu (.q hs (oJ (k:=s.sp.many+1) rfl rfl af ai rfl (by have:=(RS.len hx).2.1;omega)) ?_)))
  refine .o (.append (xs:=[]) (ys:=Is (x.take (s.sp.many+1))) hs cV rfl rfl (.full (len:=0) rfl) (.ints (RI.head (hx.mono hle1) (k:=s.sp.many+1) ak)) (js _) (fun l h=>by simp at h;rw [List.length_take];omega) ?_);intro v51 en51 w hO3 hs
  rw [List.nil_append] at hO3
  refine .zn zg (.aj (.z (zfa aO) (.y hs (zld bG) ?_)))
  have hkl:=wc s.sp s.rs
  obtain ⟨H2,hle2,hRR,hs2,back⟩:=hO.AO (kc _) ak (by rw [dw];omega) (hs.sb:St H1 w (en::en51:: .blk b8 [I s.sp.id,I s.sp.src,.slice ast s.sp.st.length cst,.slice awa s.sp.wa.length cwa,I s.sp.al,I s.sp.up,.slice ao lo co,.slice ac lc cc]:: .blk b4 [I 0,I 0,.slice none 0 0,.slice none 0 0,I 0,I 0,.slice none 0 0,.slice none 0 0]:: .blk b2 [I s.sp.id,I s.sp.src,.slice ast s.sp.st.length cst,.slice awa s.sp.wa.length cwa,I s.sp.al,I s.sp.up,.slice ar s.rs.length cr,.slice ac lc cc]::σ))
  refine .o (.call y9 rfl (oE (rs:=jq s.sp s.rs) hs2 hRR ak) ?_);rintro v54 w ⟨enT,hOT,hsT⟩
  have hs:=back (HLe.refl _) hsT
  have htl':=dQ (jq s.sp s.rs)
  obtain ⟨H3,hle3,hT3,hs⟩:=cN.cQ (m:=2) (cs:=tdc (bw (jq s.sp s.rs))) hOT (pD _) ak (by rw [eK];omega) hs (.there .here)
  have hT3:RTd H3 v54 (bw (jq s.sp s.rs)):=hT3
  obtain ⟨a54,c54,rfl⟩:=RTd.shape hT3
  refine .zn zg (.seq (.aj (.zn zg (.block ?_))))
  refine .loop (fun p:Nat×Value=>⟨78,[],[(12,I (p.1:Int)),(10,p.2),(11,.slice a54 (bw (jq s.sp s.rs)).length c54),(8,Pt b8),(7,I (s.sp.many:Int)),(6,.slice at' (bw s.rs).length ct),(4,Pt b4),(1,.slice ax x.length cx)]⟩)
   (fun p w=>p.1≤(bw (jq s.sp s.rs)).length∧∃en2,cN 1 p.2 (Is (x.take (s.sp.many+1)++((bw (jq s.sp s.rs)).take p.1).map (og s x))) en2∧St H3 w (en2:: .blk b8 [I s.sp.id,I s.sp.src,.slice ast s.sp.st.length cst,.slice awa s.sp.wa.length cwa,I s.sp.al,I s.sp.up,.slice ao lo co,.slice ac lc cc]:: .blk b4 [I 0,I 0,.slice none 0 0,.slice none 0 0,I 0,I 0,.slice none 0 0,.slice none 0 0]::en::σ)) (fun p=>(bw (jq s.sp s.rs)).length - p.1) (0,v51) a6
   ⟨Nat.zero_le _,en51,by simpa using hO3,hs.sb⟩ ?_
  clear hs
  rintro ⟨j,vy⟩ w ⟨hj,en2,hO4,hs⟩
  dsimp only at hj hO4 hs ⊢
  obtain ⟨ay,ly,cy,rfl,-⟩:=hO4.shape
  refine .seq (.aj (.z zm (.z zm (.z (da bD) (.zn fV (.bn rfl (fun hc58=>?_) (fun hc58=>?_)))))))
  ·refine .skip (nT (.seq (.block (.region (.z zm (.z zm (.z zm (.z cu (.z zm (.z zm (.z zm ?_)))))))))))
   obtain ⟨t,ht⟩:=nth (l:=bw (jq s.sp s.rs)) (k:=j) ak
   have htm:t∈s.cI:=Fu (List.mem_of_getElem? ht)
   obtain ⟨q,q1,q2,q3⟩:=iK htm
   have q3':q<(bw s.rs).length:=q3
   have q1':kL (bw s.rs) t=(q:Int):=q1
   have hnt:s.sys.n=s.sp.many+(bw s.rs).length+1:=hn
   have herr:og s x t=gi x (s.sp.many+1+q):=by unfold og;rw [q1,Int.toNat_natCast]
   refine .ixX (enc:=TD.c) hs hT3 rfl rfl bD bP ht cz ?_;intro b68 o68 hc68
   refine .q hs (bQ (vs:=t.c) rfl eu bP hc68) (.o (.call Tryz.call95 rfl (kN (t:=t) hs (hT.mono hle3) ak) ?_));rintro _ w ⟨rfl,hs⟩
   rw [q1']
   refine .z cu (.ixY hs (hx.mono (hle1.trans hle3)) rfl rfl af ai (bJ (l:=x) (i:=s.sp.many+1+q) ak) ak ?_);intro b72 o72 hc72
   refine .q hs (aP rfl ae hc72) (.o (.buildSlice (cells:=[_]) hs dc rfl rfl fun b74 w hs=>?_))
   refine .o (.append (ys:=Is [gi x (s.sp.many+1+q)]) hs cV rfl rfl hO4 (.own .here rfl rfl) (js _) (fun l' h=>by simp at h;omega) ?_);intro v75 en75 w hO5 hs
   rw [←List.map_append,List.append_assoc,←herr,show ((bw (jq s.sp s.rs)).take j).map (og s x)++[og s x t]=((bw (jq s.sp s.rs)).take (j+1)).map (og s x) by rw [dj ht];simp] at hO5
   obtain ⟨a75,l75,c75,rfl,-⟩:=hO5.shape
   refine .zn zg (nB (nT (.region (.z zm (.z cu (.zn zg (nT ?_)))))))
   exact ⟨(j+1,.slice a75 l75 c75),.cP rfl bT a6,⟨by dsimp only;omega,_,hO5,hs.sb⟩,by dsimp only;omega⟩
  ·refine .exit (xT (xT (xB (nT (.aj (.y hs (zls [_,_,_,_,_,_,_,_] aQ aC) (.z zm (.o (.aU (vs:=[_,_,_,_,_,_,_,_]) hs rfl rfl aC fun w hs=>?_)))))))))
   refine .zn zg (.ret ?_)
   obtain rfl:j=(bw (jq s.sp s.rs)).length:=by omega
   rw [List.take_length] at hO4
   exact Fin.jt [] [] hs fun w hs=>⟨_,results2 Tryz.results97 (dK (vs:=[_,_,_,_,_,_,_,_]) hs rfl aQ aC) rfl,H3,_,_,en,en2,hle1.trans hle3,rfl,hO,hO4,hs.sb⟩
theorem Cj{s:Spc}{rs R:List Rdg}{cs:List Cmp}{x:List Int}(hf:jb (Srv.pN ⟨s,rs,cs⟩).dF (gi x))(hx0:gi x 0=0)(hxl:x.length=s.many+(bw rs).length+1)(ht:bw R=bw rs)(hS:∀r∈R,RdS s r)(hR:∀r∈R,Ed s (bw rs) x r):
  xJ ⟨s,jq s R,cs⟩ (Im ⟨s,R,cs⟩ x):=by
 have hl:(x.take (s.many+1)).length=s.many+1:=by rw [List.length_take];omega
 refine Dx (R:=R) (x:=x) List.filter_sublist hS hx0 (DK hf ht hR) ?_ (fun b hb=>?_) fun j hj=>?_
 ·show (x.take (s.many+1)++(bw (jq s R)).map (og ⟨s,R,cs⟩ x)).length=_
  rw [List.length_append,hl,List.length_map]
 ·show gi (x.take (s.many+1)++(bw (jq s R)).map (og ⟨s,R,cs⟩ x)) b=_
  unfold gi
  simp only [List.getD]
  rw [List.getElem?_append_left ak,List.getElem?_take_of_lt ak]
 ·show gi (x.take (s.many+1)++(bw (jq s R)).map (og ⟨s,R,cs⟩ x)) (s.many+1+j)=_
  have e:∀t,(bw (jq s R))[j]? =some t→gi (x.take (s.many+1)++(bw (jq s R)).map (og ⟨s,R,cs⟩ x)) (s.many+1+j)=og ⟨s,R,cs⟩ x t:=fun t ht=>by
   unfold gi
   simp only [List.getD]
   rw [List.getElem?_append_right ak,hl,show s.many+1+j - (s.many+1)=j by omega,List.getElem?_map,ht]
   rfl
  rw [e _ (Ar hj)];rfl
set_option maxHeartbeats 2000000 in
theorem qa{vs v5 v4 vp:Value}{sl pk:List Int}{fs5:List F5}{fs4:List F4}{z1 z2 z3:Int}(hs:St H w σ)(g1:RI H vs sl)(g2:RF5 H v5 fs5)(g3:RF4 H v4 fs4)(g4:RI H vp pk):
  Cl Tryz.prog 31 [.agg #[vs,v5,v4,vp,I z1,I z2,I z3]] w fun u w'=>∃H1 s y vst vwa vr vc vy e1 e2 e3 e4 e5,HLe H H1∧u= .tuple #[.agg #[I s.sp.id,I s.sp.src,vst,vwa,I s.sp.al,I s.sp.up,vr,vc],vy]∧ID s∧FU s vst vwa vr vc e1 e2 e3 e4∧cN 1 vy (Is y) e5∧xJ s y∧St H1 w' (e1::e2::e3::e4::e5::σ):=by
 obtain ⟨avs,cvs,rfl⟩:=RI.shape g1
 obtain ⟨av5,cv5,rfl⟩:=g2.shape
 obtain ⟨av4,cv4,rfl⟩:=g3.shape
 obtain ⟨avp,cvp,rfl⟩:=RI.shape g4
 refine Cl.o Tryz.func31 Tryz.ntmps31 ag1 ?_
 refine .aj (.bx hs fun b1 w hs=>?_)
 refine .o (.alloc hs dS rfl fun b2 w hs=>?_)
 refine .zn zg (.aj (.z (zfa o9) (.y hs (zld an) (.o (.call Tryz.call89 rfl (qw hs g1) ?_)))));rintro _ w ⟨s,vst,vwa,e1,e2,rfl,hSp,hO1,hO2,hs⟩
 have hSt:=hSp.st
 have hWa:=hSp.wa
 have hSt2:=hSp.ok.st.two
 have hWa2:=hSp.ok.wa.two
 obtain ⟨ast,lst,cst,rfl,hlst⟩:=hO1.shape
 obtain ⟨awa,lwa,cwa,rfl,hlwa⟩:=hO2.shape
 obtain rfl:s.st.length=lst:=by simpa [Is] using hlst
 obtain rfl:s.wa.length=lwa:=by simpa [Is] using hlwa
 refine .z (zbd [_,_,_,_,_,_,_,_] qh) (.o (.alloc hs dS rfl fun b4 w hs=>?_))
 refine .o (.aU (vs:=[_,_,_,_,_,_,_,_]) hs rfl rfl aC fun w hs=>?_)
 refine .nil (.aj (.z (zfa bj) (.y hs (zls [_,_,_,_,_,_] aK aA) (.o (.alloc hs jc rfl fun b5 w hs=>?_)))))
 refine .o (.aU (vs:=[_,_,_,_,_,_]) hs rfl rfl aA fun w hs=>?_)
 refine .nil (.cut (fun fs w=>∃rs e3 ar cr,lF fs ⟨208,[],[(5,Pt b5),(4,Pt b4),(2,Pt b2),(1,Pt b1)]⟩∧rs.length≤14∧rs.length≤fs5.length∧(∀r∈rs,na s r)∧cN 7 (.slice ar rs.length cr) (rdc rs).flatten e3∧St H w (e3:: .blk b5 [I s.id,I s.src,.slice ast s.st.length cst,.slice awa s.wa.length cwa,I s.al,I s.up]:: .blk b4 [I s.id,I s.src,.slice ast s.st.length cst,.slice awa s.wa.length cwa,I s.al,I s.up,.slice ar rs.length cr,.slice none 0 0]::e1::e2:: .blk b2 [I 0,I 0,.slice none 0 0,.slice none 0 0,I 0,I 0,.slice none 0 0,.slice none 0 0]:: .blk b1 [.slice avs sl.length cvs,.slice av5 fs5.length cv5,.slice av4 fs4.length cv4,.slice avp pk.length cvp,I z1,I z2,I z3]::σ)) ?_ ?_)
 ·refine .aj (.zn zg (.block ?_))
  refine .loop (fun p:List Rdg×Option Addr×Nat=>⟨208,[],[(6,I (p.1.length:Int)),(5,Pt b5),(4,Pt b4),(2,Pt b2),(1,Pt b1)]⟩)
   (fun p w=>p.1.length≤14∧p.1.length≤fs5.length∧(∀r∈p.1,na s r)∧∃e3,cN 7 (.slice p.2.1 p.1.length p.2.2) (rdc p.1).flatten e3∧
    St H w (e3:: .blk b5 [I s.id,I s.src,.slice ast s.st.length cst,.slice awa s.wa.length cwa,I s.al,I s.up]:: .blk b4 [I s.id,I s.src,.slice ast s.st.length cst,.slice awa s.wa.length cwa,I s.al,I s.up,.slice p.2.1 p.1.length p.2.2,.slice none 0 0]::e1::e2:: .blk b2 [I 0,I 0,.slice none 0 0,.slice none 0 0,I 0,I 0,.slice none 0 0,.slice none 0 0]:: .blk b1 [.slice avs sl.length cvs,.slice av5 fs5.length cv5,.slice av4 fs4.length cv4,.slice avp pk.length cvp,I z1,I z2,I z3]::σ)) (fun p=>14 - p.1.length) ([],none,0) a6
   ⟨bT,bT,bT,_,.nil 7 none,(hs.sb).nul⟩ ?_
  clear hs
  rintro ⟨rs,ar,cr⟩ w ⟨hr14,hrf,hrok,e3,hO3,hs⟩
  dsimp only at hr14 hrf hrok hO3 hs ⊢
  refine .seq (.aj (.z zm (.z (zfa iS) (.y hs (zld Tryz.isAgg35) (.z (da Tryz.runUnderlying35) (.z fV (.z zm (.ie (t':=31) rfl (fun hb31=>?_) (fun hb31=>?_)))))))))
  ·refine .T (.z zm (.T (.z fV (.zn zpT (.bn rfl (fun hc34=>?_) (fun hc34=>?_))))))
   ·refine .skip (nT (.seq (.block (.aj (.z (zfa iS) (.y hs (zld Tryz.isAgg35) (.z zm ?_)))))))
    obtain ⟨n,hn⟩:=nth (l:=fs5) (k:=rs.length) ak
    refine .ixX (enc:=F5.v) hs g2 rfl rfl Tryz.runUnderlying35 w8 hn cz ?_;intro b40 o40 hc40
    refine .q hs (bQ (vs:=n.v) rfl Tryz.isAgg151 w8 hc40) (.o (.alloc hs Tryz.zeroValue151 rfl fun b7 w hs=>?_))
    refine .o (.aU (vs:=[_,_,_,_,_]) hs rfl rfl w8 fun w hs=>?_)
    refine .nil (.seq (.draw mix rfl hs fun w hs=>?_))
    refine .zw 0 rfl (zia 4 jk ai) (.zv 1 rfl hs (od ae) (.zw 3 rfl (zia 4 jk ai) (.y 4 rfl hs ae ?_)));refine .z 5 rfl Hn ?_
    refine .E 2 hs ?_
    refine .call dW rfl (cJ hs ak) ?_;rintro _ w ⟨k44,g44,rfl,hs⟩
    refine .go (.E 6 hs ?_)
    refine .call dW rfl (cJ hs ak) ?_;rintro _ w ⟨k48,g48,rfl,hs⟩
    have m49:0≤(k44:Int)*(k48:Int)∧(k44:Int)*(k48:Int)≤39:=by
     have e1:k48=0∨k48=1:=by omega
     rcases e1 with rfl|rfl<;>simp<;>omega
    refine .go (.zw 7 rfl jN ?_);refine .z 8 rfl zg ?_;refine .D hs ?_
    refine .draw mix rfl hs fun w hs=>?_
    refine .zw 0 rfl (zfa aO) ?_;refine .y 1 rfl hs bG ?_;refine .z 2 rfl zm ?_;refine .z 3 rfl cu ?_
    refine .zw 4 rfl (zia 0 jk ai) (.y 5 rfl hs ae ?_);refine .z 6 rfl (zfa bI) ?_;refine .y 7 rfl hs an ?_;refine .z 8 rfl (da af) ?_
    refine .zw 10 rfl (zia 1 jk ai) (.y 11 rfl hs ae ?_);refine .z 12 rfl (zfa a8) ?_;refine .y 13 rfl hs an ?_;refine .z 14 rfl (da af) ?_;refine .z 16 rfl zm ?_
    refine .zw 17 rfl (zia 2 jk ai) (.zv 18 rfl hs (od ae) (.zw 21 rfl (zia 3 jk ai) (.zv 22 rfl hs (od ae) (.E 9 hs ?_))))
    refine .call dW rfl (cJ hs ak) ?_;rintro _ w ⟨k59,g59,rfl,hs⟩
    refine .go (.E 15 hs ?_)
    refine .call dW rfl (cJ hs ak) ?_;rintro _ w ⟨k65,g65,rfl,hs⟩
    refine .go (.E 19 hs ?_)
    refine .call dW rfl (cJ hs ak) ?_;rintro _ w ⟨k69,g69,rfl,hs⟩
    refine .go (.zw 20 rfl cu (.E 23 hs ?_))
    refine .call dW rfl (cJ hs ak) ?_;rintro _ w ⟨k73,g73,rfl,hs⟩
    obtain ⟨r,hr⟩:∃r:Rdg,r=⟨10+(rs.length:Int),(k59:Int),(k65:Int),0,(k44:Int)*(k48:Int),1+(k69:Int),(k73:Int)⟩:=⟨_,rfl⟩
    have hrOk:na s r:=by subst hr;exact ⟨by dsimp only;omega,by dsimp only;omega,by dsimp only;omega,by dsimp only;omega,by dsimp only;omega,by dsimp only;omega,by dsimp only;omega⟩
    refine .go (.zw 24 rfl (zbd [_,_,_,_,_,_,_] iZ) (.E 25 hs ?_))
    refine .buildSlice (cells:=r.c) hs gJ rfl (by subst hr;kernel_rfl) ?_;intro b75 w hs
    refine .go (.E 26 hs ?_)
    refine .append (ys:=r.c) hs dY rfl rfl hO3 (.own .here rfl rfl) (by simp [Rdg.c,Value.oneCell']) (fun l' h=>by rw [bU _ (kc _),dw] at h;omega) ?_;intro v76 en76 w hO4 hs
    rw [←uL] at hO4
    obtain ⟨a76,c76,rfl⟩:=hO4.je (kc _) ak
    rw [dw] at hO4 ⊢
    refine .go (.zw 27 rfl (zfa aO) (.E 28 hs ?_))
    refine .store hs rfl rfl su ?_;intro w hs
    refine .go (.D hs (nB (nT (.region (.z zm (.z cu (.zn zg (nT ?_))))))))
    exact ⟨(rs++[r],a76,c76),.cP rfl bT a6,⟨by simp;omega,by simp;omega,fun q hq=>by
      simp only [List.mem_append,List.mem_singleton] at hq
      rcases hq with hq|rfl
      ·exact hrok q hq
      ·exact hrOk,_,hO4,hs.sb⟩,by simp;omega⟩
   ·refine .exit (xT (xT (xB (nT ?_))))
    exact ⟨rs,e3,ar,cr,a6,hr14,hrf,hrok,hO3,hs⟩
  ·refine .Fs 2 5 true (.zn zpF (.cF (.exit (xT (xT (xB (nT ?_)))))))
   exact ⟨rs,e3,ar,cr,a6,hr14,hrf,hrok,hO3,hs⟩
 ·clear hs
  rintro fs w ⟨rs,e3,ar,cr,hfs,hr14,hrf,hrok,hO3,hs⟩
  refine WE.sub ?_ hfs
  clear hfs
  refine .cut (fun fs w=>∃cs e4 ac cc,lF fs ⟨208,[],[(5,Pt b5),(4,Pt b4),(2,Pt b2),(1,Pt b1)]⟩∧cs.length≤5∧(∀c∈cs,qP c)∧(Srv.pN ⟨s,rs,cs⟩).Sound∧cN 6 (.slice ac cs.length cc) (cmc cs).flatten e4∧St H w (e1::e2::e3::e4:: .blk b5 [I s.id,I s.src,.slice ast s.st.length cst,.slice awa s.wa.length cwa,I s.al,I s.up]:: .blk b4 [I s.id,I s.src,.slice ast s.st.length cst,.slice awa s.wa.length cwa,I s.al,I s.up,.slice ar rs.length cr,.slice ac cs.length cc]:: .blk b2 [I 0,I 0,.slice none 0 0,.slice none 0 0,I 0,I 0,.slice none 0 0,.slice none 0 0]:: .blk b1 [.slice avs sl.length cvs,.slice av5 fs5.length cv5,.slice av4 fs4.length cv4,.slice avp pk.length cvp,I z1,I z2,I z3]::σ)) ?_ ?_
  ·refine .aj (.zn zg (.block ?_))
   refine .loop (fun p:Nat×List Cmp×Option Addr×Nat=>⟨208,[],[(9,I (p.1:Int)),(5,Pt b5),(4,Pt b4),(2,Pt b2),(1,Pt b1)]⟩)
    (fun p w=>p.1≤5∧p.1≤fs4.length∧p.2.1.length≤p.1∧(∀c∈p.2.1,qP c)∧(Srv.pN ⟨s,rs,p.2.1⟩).Sound∧∃e4,cN 6 (.slice p.2.2.1 p.2.1.length p.2.2.2) (cmc p.2.1).flatten e4∧
     St H w (e1::e2::e3::e4:: .blk b5 [I s.id,I s.src,.slice ast s.st.length cst,.slice awa s.wa.length cwa,I s.al,I s.up]:: .blk b4 [I s.id,I s.src,.slice ast s.st.length cst,.slice awa s.wa.length cwa,I s.al,I s.up,.slice ar rs.length cr,.slice p.2.2.1 p.2.1.length p.2.2.2]:: .blk b2 [I 0,I 0,.slice none 0 0,.slice none 0 0,I 0,I 0,.slice none 0 0,.slice none 0 0]:: .blk b1 [.slice avs sl.length cvs,.slice av5 fs5.length cv5,.slice av4 fs4.length cv4,.slice avp pk.length cvp,I z1,I z2,I z3]::σ)) (fun p=>5 - p.1) (0,[],none,0) a6
    ⟨bT,bT,bT,bT,DL (yu hSp.ok hSt hWa hr14 bT hrok bT) rfl,.nul,.nil 6 none,(hs.nul).sb⟩ ?_
   clear hs
   rintro ⟨k,cs,ac,cc⟩ w ⟨hk5,hkf,hck,hcok,hsd,e4,hO4,hs⟩
   dsimp only at hk5 hkf hck hcok hsd hO4 hs ⊢
   refine .seq (.aj (.z zm (.z (zfa kE) (.y hs (zld Tryz.isAgg36) (.z (da Tryz.runUnderlying36) (.z fV (.z zm (.ie (t':=83) rfl (fun hb83=>?_) (fun hb83=>?_)))))))))
   ·refine .T (.z zm (.T (.z fV (.zn zpT (.bn rfl (fun hc86=>?_) (fun hc86=>?_))))))
    ·refine .skip (nT (.seq (.block (.aj (.z (zfa kE) (.y hs (zld Tryz.isAgg36) (.z zm ?_)))))))
     obtain ⟨n,hn⟩:=nth (l:=fs4) (k:=k) ak
     refine .ixX (enc:=F4.v) hs g3 rfl rfl Tryz.runUnderlying36 Tryz.sizeOf97 hn cz ?_;intro b92 o92 hc92
     refine .q hs (bQ (vs:=n.v) rfl Tryz.isAgg97 Tryz.sizeOf97 hc92) (.o (.alloc hs Tryz.zeroValue97 rfl fun b10 w hs=>?_))
     refine .o (.aU (vs:=[_,_,_,_]) hs rfl rfl Tryz.sizeOf97 fun w hs=>?_)
     refine .nil (.aj (.z (zia 1 tr ai) (.y hs (zld ae) (.o (.call dW rfl (cJ hs ak) ?_)))));rintro _ w ⟨k96,g96,rfl,hs⟩
     refine .z fM (.zn zg (.aj (.z (zia 3 tr ai) (.y hs (zld ae) (.o (.call dW rfl (cJ hs ak) ?_))))));rintro _ w ⟨k100,g100,rfl,hs⟩
     refine .zn zg (.seq (.draw mix rfl hs fun w hs=>?_))
     refine .zw 0 rfl (zfa ck) ?_;refine .y 1 rfl hs ea ?_;refine .z 2 rfl zm ?_;refine .z 3 rfl cu ?_
     refine .zw 4 rfl (zia 0 tr ai) (.y 5 rfl hs ae ?_);refine .z 8 rfl zm ?_;refine .z 9 rfl zm ?_
     refine .zw 10 rfl (zia 3 tr ai) (.y 11 rfl hs ae ?_);refine .z 12 rfl Hn ?_;refine .z 15 rfl zm ?_;refine .z 16 rfl zm ?_
     refine .zw 17 rfl (zia 2 tr ai) (.zv 18 rfl hs (od ae) (.E 6 hs ?_))
     refine .call dW rfl (cJ hs ak) ?_;rintro _ w ⟨k107,g107,rfl,hs⟩
     refine .go (.zw 7 rfl cu (.E 13 hs ?_))
     refine .call dW rfl (cJ hs ak) ?_;rintro _ w ⟨k114,g114,rfl,hs⟩
     refine .go (.zw 14 rfl cu (.E 19 hs ?_))
     refine .call dW rfl (cJ hs ak) ?_;rintro _ w ⟨k120,g120,rfl,hs⟩
     obtain ⟨c,hc⟩:∃c:Cmp,c=⟨30+(k:Int),1+(k107:Int),(k100:Int),(k100:Int)+(k114:Int),(k96:Int) - 40,(k96:Int) - 40+(k120:Int)⟩:=⟨_,rfl⟩
     have hcOk:qP c:=by subst hc;exact ⟨by dsimp only;omega,by dsimp only;omega,by dsimp only;omega,by dsimp only;omega,by dsimp only;omega,by dsimp only;omega⟩
     refine .go (.zw 20 rfl cu ?_);refine .z 21 rfl (zbd [_,_,_,_,_,_] ph) ?_
     refine .E 22 hs ?_
     refine .buildSlice (cells:=c.c) hs lh rfl (by subst hc;kernel_rfl) ?_;intro b123 w hs
     refine .go (.E 23 hs ?_)
     refine .append (ys:=c.c) hs kJ rfl rfl hO4 (.own .here rfl rfl) (by simp [Cmp.c,Value.oneCell']) (fun l' h=>by rw [bU _ (ti _),gq] at h;omega) ?_;intro v124 en124 w hO5 hs
     rw [←BM] at hO5
     obtain ⟨a124,c124,rfl⟩:=hO5.je (ti _) ak
     rw [gq] at hO5 ⊢
     have hcl:(cs++[c]).length=cs.length+1:=by simp
     have hcok':∀d∈cs++[c],qP d:=fun d hd=>by
      simp only [List.mem_append,List.mem_singleton] at hd
      rcases hd with hd|rfl
      ·exact hcok d hd
      ·exact hcOk
     have hsok:fD ⟨s,rs,cs++[c]⟩:=yu hSp.ok hSt hWa hr14 ak hrok hcok'
     refine .go (.zw 24 rfl (zfa ck) (.E 25 hs ?_))
     refine .store hs rfl rfl Tryz.sizeOf50 ?_;intro w hs
     refine .go (.D hs (.aj (.y hs (zls [_,_,_,_,_,_,_,_] aQ aC) ?_)))
     obtain ⟨Hx,hlex,r1,r2,r3,r4,hs2,back⟩:=FU.AO (s:=⟨s,rs,cs++[c]⟩) ⟨hO1,hO2,hO3,hO5⟩ (by show s.st.length≤_;omega) (by show s.wa.length≤_;omega) (by show rs.length≤_;omega) (by show (cs++[c]).length≤_;omega) (hs.sb:St H w (e1::e2::e3::en124:: .blk b5 [I s.id,I s.src,.slice ast s.st.length cst,.slice awa s.wa.length cwa,I s.al,I s.up]:: .blk b4 [I s.id,I s.src,.slice ast s.st.length cst,.slice awa s.wa.length cwa,I s.al,I s.up,.slice ar rs.length cr,.slice a124 (cs++[c]).length c124]:: .blk b2 [I 0,I 0,.slice none 0 0,.slice none 0 0,I 0,I 0,.slice none 0 0,.slice none 0 0]:: .blk b1 [.slice avs sl.length cvs,.slice av5 fs5.length cv5,.slice av4 fs4.length cv4,.slice avp pk.length cvp,I z1,I z2,I z3]::σ))
     refine .o (.call Tryz.call91 rfl (vK (s:=⟨s,rs,cs++[c]⟩) hs2 r1 r2 r3 r4 hsok.early (AS hsok)) ?_);rintro _ w ⟨Hy,b127,hley,rfl,hb127,hs3⟩
     have hs:=back hley hs3
     clear hs2 hs3 back
     refine .nil (.cond rfl (fun hc127=>?_) (fun hc127=>?_))
     ·refine .region (.z (zfa ck) (.y hs (zld ea) (.z (zfa ck) (.y hs (zld ea) (.z (da bk) (.z fM (.q hs (oJ (k:=cs.length) rfl rfl bk cD ak (by have:=hO5.le;omega)) ?_)))))))
      refine .z (zfa ck) (.o (.store hs rfl rfl Tryz.sizeOf50 fun w hs=>?_))
      refine .nil (nB (nT (.region (.z zm (.z cu (.zn zg (nT ?_)))))))
      exact ⟨(k+1,cs,a124,c124),.cP rfl bT a6,⟨by dsimp only;omega,by dsimp only;omega,by dsimp only;omega,hcok,hsd,_,hO5.GY,hs.sb⟩,by dsimp only;omega⟩
     ·refine .skip (nB (nT (.region (.z zm (.z cu (.zn zg (nT ?_)))))))
      exact ⟨(k+1,cs++[c],a124,c124),.cP rfl bT a6,⟨by dsimp only;omega,by dsimp only;omega,by dsimp only;omega,hcok',hb127 (by simpa using hc127),_,hO5,hs.sb⟩,by dsimp only;omega⟩
    ·refine .exit (xT (xT (xB (nT ?_))))
     exact ⟨cs,e4,ac,cc,a6,ak,hcok,hsd,hO4,hs⟩
   ·refine .Fs 2 5 true (.zn zpF (.cF (.exit (xT (xT (xB (nT ?_)))))))
    exact ⟨cs,e4,ac,cc,a6,ak,hcok,hsd,hO4,hs⟩
  ·clear hs
   rintro fs w ⟨cs,e4,ac,cc,hfs,hc5,hcok,hsd,hO4,hs⟩
   refine WE.sub ?_ hfs
   clear hfs
   have hsok:fD ⟨s,rs,cs⟩:=yu hSp.ok hSt hWa hr14 hc5 hrok hcok
   refine .aj (.y hs (zls [_,_,_,_,_,_,_,_] aQ aC) (.z (zfa o6) (.y hs (zld an) ?_)))
   obtain ⟨Hx,hlex,r1,r2,r3,r4,hs2,back⟩:=FU.AO (s:=⟨s,rs,cs⟩) ⟨hO1,hO2,hO3,hO4⟩ (by show s.st.length≤_;omega) (by show s.wa.length≤_;omega) (by show rs.length≤_;omega) (by show cs.length≤_;omega) hs
   refine .o (.call Tryz.call92 rfl (vJ (s:=⟨s,rs,cs⟩) hs2 r1 r2 r3 r4 (g4.mono hlex) hsok.early ⟨AS hsok,hsd⟩) ?_);rintro v139 w ⟨Hy,x,ex,hley,hOx,hP,hs3⟩
   have hs:=back hley hs3
   clear hs2 hs3 back r1 r2 r3 r4
   obtain ⟨hxl,hx0,hxb,hfe⟩:=hP.AU (AS hsok) hsd
   have hsm:=hsok.many
   have hfn:(Srv.pN ⟨s,rs,cs⟩).n=s.many+(bw rs).length+1:=xZ ⟨s,rs,cs⟩
   have hxl:x.length=s.many+(bw rs).length+1:=by rw [hxl];exact hfn
   rw [hfn] at hxb
   have hsm:s.many+(bw rs).length≤64:=hsm
   obtain ⟨Hz,hlez,hX,hs⟩:=cN.dM hOx ak hs dz
   obtain ⟨ax,cx,rfl⟩:=RI.shape hX
   refine .zn zg (.seq (.aj (.zn zg (.block ?_))))
   refine .loop (fun p:Nat×List Rdg=>⟨208,[],[(14,I (p.1:Int)),(13,.slice ax x.length cx),(5,Pt b5),(4,Pt b4),(2,Pt b2),(1,Pt b1)]⟩)
    (fun p w=>p.1≤rs.length∧p.2.length=rs.length∧bw p.2=bw rs∧(∀r∈p.2,RdS s r)∧(∀j<p.1,∀r,p.2[j]? =some r→Ed s (bw rs) x r)∧∃e3,cN 7 (.slice ar rs.length cr) (rdc p.2).flatten e3∧
     St Hz w (e1::e2::e3::e4:: .blk b5 [I s.id,I s.src,.slice ast s.st.length cst,.slice awa s.wa.length cwa,I s.al,I s.up]:: .blk b4 [I s.id,I s.src,.slice ast s.st.length cst,.slice awa s.wa.length cwa,I s.al,I s.up,.slice ar rs.length cr,.slice ac cs.length cc]:: .blk b2 [I 0,I 0,.slice none 0 0,.slice none 0 0,I 0,I 0,.slice none 0 0,.slice none 0 0]:: .blk b1 [.slice avs sl.length cvs,.slice av5 fs5.length cv5,.slice av4 fs4.length cv4,.slice avp pk.length cvp,I z1,I z2,I z3]::σ)) (fun p=>rs.length - p.1) (0,rs) a6
    ⟨bT,rfl,rfl,fun r hr=>⟨(hrok r hr).st,(hrok r hr).wa,(hrok r hr).tol⟩,fun j hj=>by omega,e3,hO3,hs⟩ ?_
   clear hs hO3
   rintro ⟨k,R⟩ w ⟨hk,hRl,hRt,hRs,hRv,e3,hO3,hs⟩
   dsimp only at hk hRl hRt hRs hRv hO3 hs ⊢
   refine .seq (.aj (.z zm (.z (zfa aO) (.y hs (zld bG) (.z (da au) (.zn fV (.bn rfl (fun hc144=>?_) (fun hc144=>?_))))))))
   ·refine .skip (nT (.seq (.block (.aj (.z (zfa iS) (.y hs (zld Tryz.isAgg35) (.z zm ?_)))))))
    obtain ⟨n,hn⟩:=nth (l:=fs5) (k:=k) ak
    obtain ⟨r,hr⟩:=nth (l:=R) (k:=k) ak
    have hrS:=hRs r (List.mem_of_getElem? hr)
    obtain ⟨u,hu1,hu2⟩:=hrS.u
    have hrst:=hrS.st
    have hrwa:=hrS.wa
    have hrtol:=hrS.tol
    have hmem:r.td∈bw R:=ia.2 ⟨r,List.mem_of_getElem? hr,rfl⟩
    obtain ⟨q,q1,q2,q3⟩:=iK hmem
    rw [hRt] at q3
    have hb1:=hxb u ak
    have hb2:=hxb (s.many+1+q) ak
    obtain ⟨bo,co,sp,hv,rfl,hcap⟩:=hO3.FO (kc _) ak (by rw [dw];omega)
    simp only [Value.slice.injEq] at hv
    obtain ⟨rfl,hv2,rfl⟩:=hv
    obtain ⟨Hx,hlex,r1,r2,r3,r4,hs2,back⟩:=FU.AO (s:=⟨s,R,cs⟩) ⟨hO1,hO2,hO3,hO4⟩ (by show s.st.length≤_;omega) (by show s.wa.length≤_;omega) (by show R.length≤_;omega) (by show cs.length≤_;omega) hs
    clear hs
    have hs:=hs2
    clear hs2
    refine .ixX (enc:=F5.v) hs (g2.mono (hlez.trans hlex)) rfl rfl Tryz.runUnderlying35 w8 hn cz ?_;intro b150 o150 hc150
    refine .q hs (bQ (vs:=n.v) rfl Tryz.isAgg151 w8 hc150) (.o (.alloc hs Tryz.zeroValue151 rfl fun b15 w hs=>?_))
    refine .o (.aU (vs:=[_,_,_,_,_]) hs rfl rfl w8 fun w hs=>?_)
    refine .nil (.aj (.z (zfa aO) (.y hs (zld bG) (.z zm (.ixX (enc:=Rdg.c) hs r3 rfl rfl au aI hr cz ?_)))));intro b155 o155 hc155
    refine .q hs (bQ (vs:=r.c) rfl ew aI hc155) (.o (.alloc hs ff rfl fun b16 w hs=>?_))
    refine .o (.aU (vs:=[_,_,_,_,_,_,_]) hs rfl rfl aI fun w hs=>?_)
    refine .nil (.aj (.y hs (zls [_,_,_,_,_,_] aK aA) (.z (zfa gg) (.y hs (zld ae) (.z (zfa gd) (.y hs (zld ae) (.o (.call jI rfl (df (s:=s) hs r2 ak ak ak) ?_))))))));rintro _ w ⟨rfl,hs⟩
    rw [hu1]
    refine .zn zg (.seq (.draw mix rfl hs fun w hs=>?_))
    refine .ys 0 rfl hs [_,_,_,_,_,_] aK aA ?_;refine .z 3 rfl (zfa aO) ?_;refine .y 4 rfl hs bG ?_;refine .z 6 rfl (zfa eP) ?_;refine .y 7 rfl hs ae ?_;refine .z 8 rfl (zfa eO) ?_;refine .y 9 rfl hs ae ?_;refine .z 10 rfl (zbd [_,_] iY) ?_
    refine .E 1 hs ?_
    refine .call tx rfl (dX (s:=s) hs r1 r2 ⟨ak,ak⟩) ?_;rintro _ w ⟨rfl,hs⟩
    refine .go (.zw 2 rfl cu (.E 5 hs ?_))
    refine .call y9 rfl (ik (rs:=R) hs r3 ak) ?_;rintro v168 w ⟨Hw,hlew,hT,hs⟩
    refine .go (.E 11 hs ?_)
    refine .call Tryz.call95 rfl (kN (t:=r.td) hs hT (by rw [hRt];omega)) ?_;rintro _ w ⟨rfl,hs⟩
    rw [q1]
    refine .go (.zw 12 rfl cu ?_);refine .z 13 rfl zg ?_;refine .D hs ?_
    refine .seq (.draw mix rfl hs fun w hs=>?_)
    refine .zw 0 rfl (zia 4 jk ai) (.y 1 rfl hs ae ?_);refine .z 2 rfl Hn ?_;refine .z 3 rfl (zfa di) ?_;refine .y 4 rfl hs ae ?_;refine .z 5 rfl jN ?_;refine .z 6 rfl cu ?_;refine .z 8 rfl (zfa di) ?_;refine .y 9 rfl hs ae ?_
    refine .E 7 hs ?_
    refine .call dW rfl (cJ hs ak) ?_;rintro _ w ⟨k183,g183,rfl,hs⟩
    refine .go (.zw 10 rfl fM ?_);refine .z 11 rfl zg ?_;refine .D hs ?_
    refine .draw mix rfl hs fun w hs=>?_
    refine .zw 0 rfl (zfa aO) ?_;refine .y 1 rfl hs bG ?_;refine .z 2 rfl zm ?_;refine .z 3 rfl zm ?_;refine .z 4 rfl zm ?_
    have hs:=back hlew hs
    refine .ixX (enc:=fun x=>[I x]) (i:=5) hs rfl aH .none hX rfl rfl af ai (bJ (l:=x) (i:=u) ak) rfl ?_;intro b192 o192 hc192;replace hc192:=bL.one hc192
    refine .r (i:=6) hs rfl aH .none (aP rfl ae hc192) ?_
    refine .zw 7 rfl zm ?_;refine .z 8 rfl zm ?_
    refine .ixX (enc:=fun x=>[I x]) (i:=9) hs rfl aH .none hX rfl rfl af ai (bJ (l:=x) (i:=s.many+1+q) ak) (by push_cast;rfl) ?_;intro b196 o196 hc196;replace hc196:=bL.one hc196
    refine .r (i:=10) hs rfl aH .none (aP rfl ae hc196) ?_
    refine .zw 11 rfl fM ?_;refine .z 12 rfl zm ?_;refine .z 13 rfl cu ?_
    first|(refine .ixw 14 rfl hs au aI ?_;intro b201 o201 hc201)|refine .z 14 rfl (mw au aI) ?_
    refine .zw 15 rfl (zfa du) (.E 16 hs ?_)
    refine .store (c':=(rdc (R.set k {r with val:=gi x u - gi x (s.many+1+q)+((k183:Int) - r.tol)})).flatten++sp) hs rfl rfl ai ?_ dz (Nat.ble_eq_true_of_le (by rw [List.length_append,bU _ (kc _),dw];omega)) (Az hr sp _);intro w hs
    refine .go (.D hs (nB (nT (.region (.z zm (.z cu (.zn zg (nT ?_))))))))
    exact ⟨(k+1,R.set k {r with val:=gi x u - gi x (s.many+1+q)+((k183:Int) - r.tol)}),.cP rfl bT a6,⟨by dsimp only;omega,by dsimp only;rw [List.length_set];exact hRl,by dsimp only;rw [zc hr];exact hRt,fun y hy=>by
      rcases List.mem_or_eq_of_mem_set hy with h|h
      ·exact hRs y h
      ·subst h;exact ⟨hrst,hrwa,hrtol⟩,fun j hj y hy=>by
      dsimp only at hj hy
      by_cases e:j=k
      ·subst e
       rw [List.getElem?_set_self ak] at hy
       obtain rfl:=Option.some.inj hy
       have q1':kL (bw rs) r.td=q:=by rw [←hRt];exact q1
       unfold Ed
       show gi x (1+r.st*s.wa.length+r.wa).toNat - gi x (s.many+1+kL (bw rs) r.td).toNat - r.tol≤_∧_≤gi x (1+r.st*s.wa.length+r.wa).toNat - gi x (s.many+1+kL (bw rs) r.td).toNat+r.tol
       rw [hu1,q1',show ((s.many:Int)+1+(q:Int)).toNat=s.many+1+q by omega,Int.toNat_natCast]
       dsimp only
       omega
      ·rw [List.getElem?_set_ne ak] at hy
       exact hRv j ak y hy,_,E7 hO3 _,hs.sb⟩,by dsimp only;omega⟩
   ·refine .exit (xT (xT (xB (nT (.aj (.y hs (zls [_,_,_,_,_,_,_,_] aQ aC) (.z zm ?_)))))))
    obtain rfl:k=rs.length:=by omega
    obtain ⟨Hx,hlex,r1,r2,r3,r4,hs2,back⟩:=FU.AO (s:=⟨s,R,cs⟩) ⟨hO1,hO2,hO3,hO4⟩ (by show s.st.length≤_;omega) (by show s.wa.length≤_;omega) (by show R.length≤_;omega) (by show cs.length≤_;omega) hs
    refine .o (.call Tryz.call97 rfl (re (s:=⟨s,R,cs⟩) (x:=x) hs2 r1 r2 r3 ⟨_,_,_,rfl⟩ (hX.mono hlex) (by rw [xZ];show _=s.many+(bw R).length+1;rw [hRt];exact hxl) ⟨by show s.st.length≤_;omega,by show s.wa.length≤_;omega,by show R.length≤_;omega⟩) ?_);rintro _ w ⟨Hy,vr',vy,er,ey,hley,rfl,hOr,hOy,hs3⟩
    have hs:=back hley hs3
    clear hs2 hs3 back r1 r2 r3 r4
    have hkl:=wc s R
    obtain ⟨arr,crr,rfl⟩:=hOr.je (kc _) ak
    obtain ⟨ayy,lyy,cyy,rfl,-⟩:=hOy.shape
    refine .z zex (.z zex (.o (.aU (vs:=[_,_,_,_,_,_,_,_]) hs rfl rfl aC fun w hs=>?_)))
    refine .zn zg (.ret ?_)
    exact Fin.jt [] [] hs fun w hs=>⟨_,results2 Tryz.results31 (dK (vs:=[_,_,_,_,_,_,_,_]) hs rfl aQ aC) rfl,Hz,⟨s,jq s R,cs⟩,_,_,_,_,_,_,e1,e2,er,e4,ey,hlez,rfl,
     ⟨hSt,hWa,by show (jq s R).length≤14;omega,hc5,yu hSp.ok hSt hWa ak hc5 (fun r h=>(zJ h).2) hcok⟩,⟨hO1,hO2,hOr,hO4⟩,hOy,Cj hfe hx0 hxl hRt hRs (fun r hr=>by
      obtain ⟨j,hj⟩:=List.getElem?_of_mem hr
      have:=(List.getElem?_eq_some_iff.1 hj).1
      exact hRv j ak r hj),hs.sb⟩
end Go.Proofs.YteajddicacjkhaaGreat
